/-
Merged by program out of own texts: Rt6, Rt7, Ok1, Eng26, Eng27, Psr9, Eng18, Dat1, Dat2, Eng19, Eng20, Lex2, Lex3, Lex4, Lex5, Psr10, Shl2, Pri1, Pri2, Pri3, Pri4, Pri5, Psr11, Rul1.
-/
import Derived.Test.YtgpibcgebpgmiaaGreatDoorM3
import Derived.Recover
import Derived.Laws.BitsAllLaws
import Derived.Laws.Bits64
import Derived.Lib.SlBytesRow
import Derived.Lib.AppendStr
import Derived.Laws.BytesArg
import Derived.Laws.Cover3
import Derived.Scope
import Derived.Laws.Runes
import Derived.Lib.IndexLaws
import Derived.Lib.AtoiAll
import Derived.WideLaws
import Derived.Shelf.Sort.Plain
import Derived.Shelf.Strings.Repeat
import Derived.Shelf.Slices.Turned
import Derived.Ground.Names2Prog
import Derived.Shelf.Slices.CompactI
import Derived.Shelf.Slices.SearchI
import Derived.Shelf.Slices.Cells
import Derived.Shelf.Slices.In.SortNone
import Derived.Ground.SlbCloneProg
import Derived.Shelf.Bytes.SlClone
import Derived.Lib.Builder
import Derived.Laws.Externs
set_option linter.unusedVariables false
set_option linter.unusedSimpArgs false
namespace Go.Eng
open Go Go.RowKit Go.Proofs
section
variable (ds : DayS)
def lineS (w s : Str) : Str := if s = [] then [] else [32, 32] ++ w ++ [32] ++ s ++ [59, 10]
def isTrue (x : Nd) : Prop := x.kind = 2 ∧ x.num = 1
instance (x : Nd) : Decidable (isTrue x) := by unfold isTrue; infer_instance
def ifS (x : Nd) : Str := if isTrue x then [] else lineS [105, 102] (showN ds x)
def headS (r : RuleM) : Str := [114, 117, 108, 101, 32] ++ r.name ++ [32, 102, 114, 111, 109, 32, 64] ++ ds r.frm ++ [32, 123, 10]
def showRule (r : RuleM) : Str := headS ds r ++ lineS [111, 110] r.on ++ ifS ds r.cond ++ lineS [100, 117, 101] (showN ds r.due) ++ lineS [117, 110, 108, 101, 115, 115] r.unl ++ lineS [101, 108, 115, 101] r.els ++ [125, 10]
def optT (w s : Str) : List T3 := if s = [] then [] else [(1, w, 0), (1, s, 0), (4, [59], 0)]
def ifT (x : Nd) : List T3 := if isTrue x then [] else (1, [105, 102], 0) :: (tokN ds x ++ [(4, [59], 0)])
def tailT (r : RuleM) : List T3 := optT [117, 110, 108, 101, 115, 115] r.unl ++ (optT [101, 108, 115, 101] r.els ++ [(4, [125], 0)])
def tokRule (r : RuleM) : List T3 :=
 (1, [114, 117, 108, 101], 0) :: (1, r.name, 0) :: (1, [102, 114, 111, 109], 0) :: (3, 64 :: ds r.frm, r.frm) :: (4, [123], 0) :: (1, [111, 110], 0) :: (1, r.on, 0) :: (4, [59], 0) ::
   (ifT ds r.cond ++ ((1, [100, 117, 101], 0) :: (tokN ds r.due ++ (4, [59], 0) :: tailT r)))
end
structure NameOk (s : Str) : Prop where
 word : WordOk s
 free : s ∉ ruleW ++ unitW ++ fieldW ++ funcW
structure RuleOk (r : RuleM) : Prop where
 name : NameOk r.name
 frm : 0 ≤ r.frm ∧ r.frm ≤ 3652058
 on : NameOk r.on
 cond : Wf r.cond
 cop : opN r.cond ≤ 12
 due : Wf r.due
 dop : opN r.due ≤ 12
 unl : r.unl = [] ∨ NameOk r.unl
 els : r.els = [] ∨ NameOk r.els
theorem isTrue_eq {x : Nd} (hx : Wf x) (h : isTrue x) : x = .mk 2 1 [] [] := by
 obtain ⟨h1, h2⟩ := h
 cases hx <;> simp only [Nd.kind, Nd.num] at h1 h2 <;> first | (exact absurd h1 (by decide)) | (subst h2; rfl)
theorem wf_kind {x : Nd} (hx : Wf x) : x.kind ≠ 0 := by
 cases hx <;> (simp only [Nd.kind]; decide)
theorem showN_ne {ds : DayS} {x : Nd} (hx : Wf x) : showN ds x ≠ [] := by
 cases hx with
 | num n h => rw [showN_mk]; show Lib.itoa n ≠ []; unfold Lib.itoa; rw [if_neg (by omega)]; exact decDigits_ne _
 | bool n h => rw [showN_mk]; show (if n = 1 then [116, 114, 117, 101] else [102, 97, 108, 115, 101] : Str) ≠ []; split <;> decide
 | day n h => rw [showN_mk]; show (64 :: ds n : Str) ≠ []; simp
 | field s h => rw [showN_mk]; show s ≠ []; rintro rfl; revert h; decide
 | neg a ha => rw [showN_mk]; show ([45] ++ _ : Str) ≠ []; simp
 | not a ha => rw [showN_mk]; show ([110, 111, 116, 32] ++ _ : Str) ≠ []; simp
 | bin s a b hs ha hb => rw [showN_mk]; show (_ ++ [32] ++ s ++ [32] ++ _ : Str) ≠ []; simp
 | after s a b hs ha hb => rw [showN_mk]; show (_ ++ [32, 43, 32] ++ _ ++ [32] ++ s : Str) ≠ []; simp
 | before s a b hs ha hb => rw [showN_mk]; show (_ ++ [32, 45, 32] ++ _ ++ [32] ++ s : Str) ≠ []; simp
 | cond a b c ha hb hc => rw [showN_mk]; show ([105, 102, 32] ++ _ ++ [32, 116, 104, 101, 110, 32] ++ _ ++ [32, 101, 108, 115, 101, 32] ++ _ ++ [32, 101, 110, 100] : Str) ≠ []; simp
 | call1 s a hs h1 ha => rw [showN_mk]; simp [showK]
 | call2 s a b hs h2 ha hb => rw [showN_mk]; simp [showK]
section lexing
variable {ds : DayS} {r : Str} {ts : List T3}
theorem lex_opt {w s : Str} (hw : WordOk w) (hs : s = [] ∨ NameOk s) (h : LexTo r ts) : LexTo (lineS w s ++ r) (optT w s ++ ts) := by
 unfold lineS optT
 by_cases h0 : s = []
 · rw [if_pos h0, if_pos h0]; exact h
 · rw [if_neg h0, if_neg h0]
   have hn := (hs.resolve_left h0).word
   have h1 := LexTo.sym (c := 59) (by decide) (.inr (by decide)) h.nl
   have h2 := (LexTo.word hn safe_semi h1).spc
   have h3 := (LexTo.word hw safe_sp h2).spc.spc
   simpa using h3
theorem lex_line {w : Str} {x : Nd} (hd : DayOk ds) (hw : WordOk w) (hx : Wf x) (h : LexTo r ts) : LexTo (lineS w (showN ds x) ++ r) ((1, w, 0) :: (tokN ds x ++ (4, [59], 0) :: ts)) := by
 unfold lineS
 rw [if_neg (showN_ne hx)]
 have h1 := LexTo.sym (c := 59) (by decide) (.inr (by decide)) h.nl
 have h2 := (lex_tree hd hx _ _ safe_semi h1).spc
 have h3 := (LexTo.word hw safe_sp h2).spc.spc
 simpa using h3
theorem lex_if {x : Nd} (hd : DayOk ds) (hx : Wf x) (h : LexTo r ts) : LexTo (ifS ds x ++ r) (ifT ds x ++ ts) := by
 unfold ifS ifT
 by_cases ht : isTrue x
 · rw [if_pos ht, if_pos ht]; exact h
 · rw [if_neg ht, if_neg ht]
   have := lex_line hd (w := [105, 102]) (wordOk_of (by decide)) hx h
   simpa using this
theorem lex_rule {x : RuleM} (hd : DayOk ds) (hx : RuleOk x) (h : LexTo r ts) : LexTo (showRule ds x ++ r) (tokRule ds x ++ ts) := by
 have h1 := LexTo.sym (c := 125) (by decide) (.inr (by decide)) h.nl
 have h2 := lex_opt (w := [101, 108, 115, 101]) (wordOk_of (by decide)) hx.els h1
 have h3 := lex_opt (w := [117, 110, 108, 101, 115, 115]) (wordOk_of (by decide)) hx.unl h2
 have h4 := lex_line hd (w := [100, 117, 101]) (wordOk_of (by decide)) hx.due h3
 have h5 := lex_if hd hx.cond h4
 have h6 := lex_opt (w := [111, 110]) (wordOk_of (by decide)) (.inr hx.on) h5
 have hon : x.on ≠ [] := hx.on.word.ne
 have e6 : optT [111, 110] x.on = [(1, [111, 110], 0), (1, x.on, 0), (4, [59], 0)] := by unfold optT; rw [if_neg hon]
 rw [e6] at h6
 have h7 := (LexTo.sym (c := 123) (by decide) (.inr (by decide)) h6.nl).spc
 have h8 := (LexTo.day hd hx.frm.1 hx.frm.2 h7).spc
 have h9 := (LexTo.word (w := [102, 114, 111, 109]) (wordOk_of (by decide)) safe_sp h8).spc
 have h10 := (LexTo.word hx.name.word safe_sp h9).spc
 have h11 := LexTo.word (w := [114, 117, 108, 101]) (wordOk_of (by decide)) safe_sp h10
 unfold showRule tokRule headS tailT
 simpa using h11
theorem lex_rules {xs : List RuleM} (hd : DayOk ds) (hx : ∀ x ∈ xs, RuleOk x) : LexTo (xs.flatMap (showRule ds)) (xs.flatMap (tokRule ds)) := by
 induction xs with
 | nil => exact .nil
 | cons a q ih =>
   simp only [List.flatMap_cons]
   exact lex_rule hd (hx a (by simp)) (ih fun x h => hx x (by simp [h]))
end lexing
section parsing
variable {l : List Tkn} {i o : Nat}
theorem mustO_at {k n : Int} {s : Str} {q : List T3} (h : At l i ((k, s, n) :: q)) : mustO l s i o = .ok () (i + 1) o ∧ At l (i + 1) q := by
 obtain ⟨⟨_, h2, _⟩, h⟩ := At_cons h
 exact ⟨by unfold mustO; rw [if_pos h2], h⟩
theorem nameO_at {s : Str} {q : List T3} (hs : NameOk s) (h : At l i ((1, s, 0) :: q)) : nameO l i o = .ok s (i + 1) o ∧ At l (i + 1) q := by
 obtain ⟨⟨h1, h2, _⟩, h⟩ := At_cons h
 refine ⟨?_, h⟩
 simp only at h1 h2
 unfold nameO
 rw [h2, if_neg hs.free]
 unfold tokenO
 rw [if_pos h1]
 simp [Out.bind, h2]
theorem partO_no {α : Type} {w : Str} {z : α} {rd : Nat → Nat → Out α} (h : (cur l i).text ≠ w) : partO l w z rd i o = .ok z i o := by unfold partO; rw [if_neg h]
theorem partO_yes {α : Type} {w : Str} {z x : α} {rd : Nat → Nat → Out α} {j o' : Nat} (h : (cur l i).text = w) (hr : rd (i + 1) o = .ok x j o') (hs : (cur l j).text = [59]) : partO l w z rd i o = .ok x (j + 1) o' := by
 unfold partO
 rw [if_pos h, hr]
 simp only [Out.bind, mustO]
 rw [if_pos hs]
theorem partO_opt {w s : Str} {q : List T3} (hs : s = [] ∨ NameOk s) (h : At l i (optT w s ++ q)) (hq : At l i q → (cur l i).text ≠ w) :
 partO l w [] (nameO l) i o = .ok s (i + (optT w s).length) o ∧ At l (i + (optT w s).length) q := by
 by_cases h0 : s = []
 · subst h0
   have e : optT w [] = [] := rfl
   rw [e] at h ⊢
   exact ⟨partO_no (hq h), h⟩
 · have e : optT w s = [(1, w, 0), (1, s, 0), (4, [59], 0)] := by unfold optT; rw [if_neg h0]
   rw [e] at h ⊢
   obtain ⟨⟨_, h2, _⟩, h⟩ := At_cons h
   obtain ⟨hn, h⟩ := nameO_at (o := o) (hs.resolve_left h0) h
   obtain ⟨⟨_, g2, _⟩, h⟩ := At_cons h
   exact ⟨partO_yes h2 hn g2, h⟩
theorem wholeO_at {ds : DayS} {x : Nd} (hx : Wf x) (ho : o + opN x ≤ 12) {q : List T3} (h : At l i (tokN ds x ++ (4, [59], 0) :: q)) : wholeO l i o = .ok x (i + (tokN ds x).length) o ∧ (cur l (i + (tokN ds x).length)).text = [59] ∧ At l (i + (tokN ds x).length + 1) q := by
 rw [At_app] at h
 obtain ⟨h1, h⟩ := h
 obtain ⟨⟨_, h2, _⟩, h⟩ := At_cons h
 simp only at h2
 exact ⟨whole_tree ds hx h1 ho (by rw [h2]; decide) (by rw [h2]; decide), h2, h⟩
theorem partO_if {ds : DayS} {x : Nd} (hx : Wf x) (ho : o + opN x ≤ 12) {q : List T3} (h : At l i (ifT ds x ++ ((1, [100, 117, 101], 0) :: q))) :
 ∃ cd, partO l [105, 102] ndZero (wholeO l) i o = .ok cd (i + (ifT ds x).length) o ∧ (if cd.kind = 0 then Nd.mk 2 1 [] [] else cd) = x ∧ At l (i + (ifT ds x).length) ((1, [100, 117, 101], 0) :: q) := by
 by_cases ht : isTrue x
 · have e : ifT ds x = [] := by unfold ifT; rw [if_pos ht]
   rw [e] at h ⊢
   refine ⟨ndZero, partO_no ?_, ?_, h⟩
   · obtain ⟨⟨_, h2, _⟩, _⟩ := At_cons h
     rw [h2]
     simp
   · rw [isTrue_eq hx ht]; rfl
 · have e : ifT ds x = (1, [105, 102], 0) :: (tokN ds x ++ [(4, [59], 0)]) := by unfold ifT; rw [if_neg ht]
   rw [e] at h ⊢
   rw [List.cons_append, List.append_assoc] at h
   obtain ⟨⟨_, h2, _⟩, h⟩ := At_cons h
   obtain ⟨g1, g2, g3⟩ := wholeO_at (o := o) hx ho h
   refine ⟨x, ?_, by rw [if_neg (wf_kind hx)], ?_⟩
   · have := partO_yes (z := ndZero) (w := [105, 102]) h2 g1 g2
     rw [this]
     simp only [List.length_cons, List.length_append, List.length_nil]
     rw [show i + 1 + (tokN ds x).length + 1 = i + ((tokN ds x).length + (0 + 1) + 1) by omega]
   · simp only [List.length_cons, List.length_append, List.length_nil]
     rw [show i + ((tokN ds x).length + (0 + 1) + 1) = i + 1 + (tokN ds x).length + 1 by omega]
     exact g3
theorem partO_due {ds : DayS} {x : Nd} (hx : Wf x) (ho : o + opN x ≤ 12) {q : List T3} (h : At l i ((1, [100, 117, 101], 0) :: (tokN ds x ++ (4, [59], 0) :: q))) :
 (cur l i).text = [100, 117, 101] ∧ partO l [100, 117, 101] ndZero (wholeO l) i o = .ok x (i + (tokN ds x).length + 2) o ∧ At l (i + (tokN ds x).length + 2) q := by
 obtain ⟨⟨_, h2, _⟩, h⟩ := At_cons h
 obtain ⟨g1, g2, g3⟩ := wholeO_at (o := o) hx ho h
 refine ⟨h2, ?_, ?_⟩
 · have := partO_yes (z := ndZero) (w := [100, 117, 101]) h2 g1 g2
   rw [this]
   rw [show i + 1 + (tokN ds x).length + 1 = i + (tokN ds x).length + 2 by omega]
 · rw [show i + (tokN ds x).length + 2 = i + 1 + (tokN ds x).length + 1 by omega]
   exact g3
theorem ruleO_at {ds : DayS} {x : RuleM} (hx : RuleOk x) {q : List T3} (h : At l i (tokRule ds x ++ q)) : ruleO l i 0 = .ok x (i + (tokRule ds x).length) 0 ∧ At l (i + (tokRule ds x).length) q := by
 have hlen : (tokRule ds x).length = 8 + (ifT ds x.cond).length + (tokN ds x.due).length + 2 + (optT [117, 110, 108, 101, 115, 115] x.unl).length + (optT [101, 108, 115, 101] x.els).length + 1 := by
  unfold tokRule tailT
  simp only [List.length_cons, List.length_append, List.length_nil]
  omega
 unfold tokRule tailT at h
 simp only [List.cons_append, List.append_assoc, List.nil_append] at h
 obtain ⟨m1, h⟩ := mustO_at (o := 0) h
 obtain ⟨m2, h⟩ := nameO_at (o := 0) hx.name h
 obtain ⟨m3, h⟩ := mustO_at (o := 0) h
 obtain ⟨⟨t1, t2, t3⟩, h⟩ := At_cons h
 simp only at t1 t2 t3
 have m4 : tokenO l 3 (i + 1 + 1 + 1) 0 = .ok (cur l (i + 1 + 1 + 1)) (i + 1 + 1 + 1 + 1) 0 := by unfold tokenO; rw [if_pos t1]
 obtain ⟨m5, h⟩ := mustO_at (o := 0) h
 have hon : (cur l (i + 1 + 1 + 1 + 1 + 1)).text = [111, 110] := (At_cons h).1.2.1
 have h' := (At_cons h).2
 obtain ⟨m6, h'⟩ := nameO_at (o := 0) hx.on h'
 have hsem := (At_cons h').1.2.1
 have h := (At_cons h').2
 have m7 := partO_yes (z := ([] : Str)) (w := [111, 110]) hon m6 hsem
 obtain ⟨cd, m8, hcd, h⟩ := partO_if (o := 0) hx.cond (by have := hx.cop; omega) h
 obtain ⟨hdue, m9, h⟩ := partO_due (o := 0) hx.due (by have := hx.dop; omega) h
 obtain ⟨m10, h⟩ := partO_opt (o := 0) (w := [117, 110, 108, 101, 115, 115]) hx.unl h (fun h e => by
  by_cases h0 : x.els = []
  · have : optT [101, 108, 115, 101] x.els = [] := by unfold optT; rw [if_pos h0]
    rw [this] at h
    have := (At_cons h).1.2.1
    rw [e] at this
    exact absurd this (by decide)
  · have : optT [101, 108, 115, 101] x.els = [(1, [101, 108, 115, 101], 0), (1, x.els, 0), (4, [59], 0)] := by unfold optT; rw [if_neg h0]
    rw [this] at h
    have := (At_cons h).1.2.1
    rw [e] at this
    exact absurd this (by decide))
 obtain ⟨m11, h⟩ := partO_opt (o := 0) (w := [101, 108, 115, 101]) hx.els h (fun h e => by
  have := (At_cons h).1.2.1
  rw [e] at this
  exact absurd this (by decide))
 obtain ⟨m12, h⟩ := mustO_at (o := 0) h
 refine ⟨?_, ?_⟩
 · unfold ruleO
   rw [m1]; simp only [Out.bind]
   rw [m2]; simp only
   rw [m3]; simp only
   rw [m4]; simp only
   rw [m5]; simp only
   rw [if_pos hon, m7]; simp only
   rw [m8]; simp only
   rw [if_pos hdue, m9]; simp only
   rw [m10]; simp only
   rw [m11]; simp only
   rw [m12]; simp only
   rw [hcd, t3, hlen]
   congr 1
   omega
 · rw [hlen]
   have e : i + (8 + (ifT ds x.cond).length + (tokN ds x.due).length + 2 + (optT [117, 110, 108, 101, 115, 115] x.unl).length + (optT [101, 108, 115, 101] x.els).length + 1) = i + 1 + 1 + 1 + 1 + 1 + 1 + 1 + 1 + (ifT ds x.cond).length + (tokN ds x.due).length + 2 + (optT [117, 110, 108, 101, 115, 115] x.unl).length + (optT [101, 108, 115, 101] x.els).length + 1 := by omega
   rw [e]
   exact h
theorem tokRule_pos {ds : DayS} {x : RuleM} : 0 < (tokRule ds x).length := by unfold tokRule; simp
theorem rulesO_at {ds : DayS} : ∀ (xs : List RuleM) (rs : List RuleM) (f i : Nat), (∀ x ∈ xs, RuleOk x) → xs.length < f → At l i (xs.flatMap (tokRule ds)) → (cur l (i + (xs.flatMap (tokRule ds)).length)).kind = 0 →
 rulesO l f rs i 0 = .ok (rs ++ xs) (i + (xs.flatMap (tokRule ds)).length) 0
 | [], rs, f, i, hx, hf, h, hk => by
   cases f with
   | zero => omega
   | succ f =>
     simp only [List.flatMap_nil, List.length_nil, Nat.add_zero] at hk ⊢
     simp only [rulesO]
     rw [if_pos hk]
     simp
 | a :: xs, rs, f, i, hx, hf, h, hk => by
   cases f with
   | zero => omega
   | succ f =>
     simp only [List.flatMap_cons] at h hk ⊢
     obtain ⟨m, h'⟩ := ruleO_at (hx a (by simp)) h
     have hne : (cur l i).kind ≠ 0 := by
      unfold tokRule at h
      simp only [List.cons_append] at h
      rw [(At_cons h).1.1]
      decide
     rw [List.length_append, ← Nat.add_assoc] at hk
     have ih := rulesO_at (ds := ds) xs (rs ++ [a]) f _ (fun x hx' => hx x (by simp [hx'])) (by simp at hf; omega) h' hk
     simp only [rulesO]
     rw [if_neg hne, m]
     simp only [Out.bind]
     rw [ih, List.append_assoc, List.length_append, ← Nat.add_assoc]
     rfl
end parsing
inductive Ps where
 | err (a c : Int)
 | ok (l : List RuleM)
def parseM (s : Str) : Ps :=
 match tokensM s with
 | .err a c => .err a c
 | .ok l => match rulesO l (l.length + 1) [] 0 0 with
   | .err a c => .err a c
   | .ok rs _ _ => .ok rs
theorem parse_print {ds : DayS} (hd : DayOk ds) {xs : List RuleM} (hx : ∀ x ∈ xs, RuleOk x) (hl : (xs.flatMap (showRule ds)).length ≤ 4000) : parseM (xs.flatMap (showRule ds)) = .ok xs := by
 obtain ⟨l1, p, g1, g2, g3⟩ := tokensM_lex hl (lex_rules hd hx)
 have hlen : l1.length = (xs.flatMap (tokRule ds)).length := by rw [← g2]; simp
 have hxs : xs.length ≤ l1.length := by
  rw [hlen]
  clear g1 g2 g3 hlen hl hx
  induction xs with
  | nil => simp
  | cons a q ih =>
    have := tokRule_pos (ds := ds) (x := a)
    simp only [List.flatMap_cons, List.length_append, List.length_cons]
    omega
 have hend : (cur (l1 ++ [⟨0, p, [], 0⟩]) (0 + (xs.flatMap (tokRule ds)).length)).kind = 0 := by
  rw [Nat.zero_add, ← hlen]
  unfold cur
  simp
 unfold parseM
 rw [g1]
 simp only
 rw [rulesO_at xs [] _ 0 hx (by simp; omega) g3 hend]
 simp
def yoeN (d : Nat) : Nat := (d - d / 1460 + d / 36524 - d / 146096) / 365
def startN (y : Nat) : Nat := 365 * y + y / 4 - y / 100
def leapN (y : Nat) : Bool := Nat.beq (y % 4) 0 && (!(Nat.beq (y % 100) 0) || Nat.beq (y % 400) 0)
def oneB (d : Nat) : Bool := Nat.ble 146097 d || (Nat.ble (startN (yoeN d)) d && (Nat.blt d (startN (yoeN d) + 365) || (Nat.beq d (startN (yoeN d) + 365) && leapN (yoeN d + 1))))
def allB : Nat → Nat → Bool
 | 0, lo => oneB lo
 | k + 1, lo => allB k lo && allB k (lo + 2 ^ k)
theorem allB_spec : ∀ (k lo d : Nat), allB k lo = true → lo ≤ d → d < lo + 2 ^ k → oneB d = true
 | 0, lo, d, h, h1, h2 => by
   have : d = lo := by simp at h2; omega
   subst this
   exact h
 | k + 1, lo, d, h, h1, h2 => by
   simp only [allB, Bool.and_eq_true] at h
   rw [Nat.pow_succ] at h2
   rcases Nat.lt_or_ge d (lo + 2 ^ k) with h3 | h3
   · exact allB_spec k lo d h.1 h1 h3
   · exact allB_spec k (lo + 2 ^ k) d h.2 h3 (by omega)
theorem all_days : allB 18 0 = true := by kernel_rfl
theorem leap_iff (y : Nat) : leapN y = leapM (y : Int) := by
 unfold leapN leapM
 have h : ∀ a b : Nat, Nat.beq (a % b) 0 = decide ((a : Int) % (b : Int) = 0) := fun a b => by
  rw [Bool.eq_iff_iff]
  simp only [decide_eq_true_eq]
  rw [Nat.beq_eq]
  omega
 rw [show Nat.beq (y % 4) 0 = decide ((y : Int) % 4 = 0) from h y 4, show Nat.beq (y % 100) 0 = decide ((y : Int) % 100 = 0) from h y 100, show Nat.beq (y % 400) 0 = decide ((y : Int) % 400 = 0) from h y 400]
 simp
structure Dat where
 y : Int
 m : Int
 d : Int
def ofM (day : Int) : Dat :=
 let z := day + 306
 let era := z / 146097
 let doe := z % 146097
 let yoe := (doe - doe / 1460 + doe / 36524 - doe / 146096) / 365
 let doy := doe - (365 * yoe + yoe / 4 - yoe / 100)
 let m := (5 * doy + 2) / 153
 if m ≥ 10 then ⟨yoe + 400 * era + 1, m - 9, doy - (153 * m + 2) / 5 + 1⟩ else ⟨yoe + 400 * era, m + 3, doy - (153 * m + 2) / 5 + 1⟩
theorem month_ok : ∀ q : Nat, q < 366 → (5 * q + 2) / 153 ≤ 11 ∧ (153 * ((5 * q + 2) / 153) + 2) / 5 ≤ q ∧
 q - (153 * ((5 * q + 2) / 153) + 2) / 5 + 1 ≤ (if (5 * q + 2) / 153 = 11 then (if q = 365 then 29 else 28) else if (5 * q + 2) / 153 = 1 ∨ (5 * q + 2) / 153 = 3 ∨ (5 * q + 2) / 153 = 6 ∨ (5 * q + 2) / 153 = 8 then 30 else 31) := by decide +kernel
theorem era_ok (doe : Int) (h0 : 0 ≤ doe) (h1 : doe < 146097) : ∃ yoe doy : Nat, (doe - doe / 1460 + doe / 36524 - doe / 146096) / 365 = (yoe : Int) ∧ doe - (365 * (yoe : Int) + (yoe : Int) / 4 - (yoe : Int) / 100) = (doy : Int) ∧ yoe ≤ 399 ∧ doy ≤ 365 ∧ (doy = 365 → leapM ((yoe : Int) + 1) = true) := by
 obtain ⟨d, rfl⟩ : ∃ d : Nat, doe = (d : Int) := ⟨doe.toNat, by omega⟩
 have hd : d < 146097 := by omega
 have h := allB_spec 18 0 d all_days (by omega) (by omega)
 unfold oneB at h
 rw [show Nat.ble 146097 d = false by rw [Bool.eq_false_iff]; simp; omega] at h
 simp only [Bool.false_or, Bool.and_eq_true, Bool.or_eq_true, Nat.ble_eq, Nat.beq_eq] at h
 obtain ⟨h2, h3⟩ := h
 have hy : ((d : Int) - (d : Int) / 1460 + (d : Int) / 36524 - (d : Int) / 146096) / 365 = ((yoeN d : Nat) : Int) := by unfold yoeN; omega
 have hyle : yoeN d ≤ 399 := by unfold yoeN; omega
 have hst : (startN (yoeN d) : Int) = 365 * (yoeN d : Int) + (yoeN d : Int) / 4 - (yoeN d : Int) / 100 := by unfold startN; omega
 refine ⟨yoeN d, d - startN (yoeN d), hy, by omega, hyle, ?_, fun h4 => ?_⟩
 · rcases h3 with h3 | h3
   · have := Nat.le_of_ble_eq_true h3; omega
   · have := h3.1; omega
 · rcases h3 with h3 | h3
   · have := Nat.le_of_ble_eq_true h3; omega
   · have := h3.2; rw [leap_iff] at this; exact this
theorem leapM_era (y e : Int) : leapM (y + 400 * e) = leapM y := by
 unfold leapM
 have h4 : (y + 400 * e) % 4 = y % 4 := by omega
 have h100 : (y + 400 * e) % 100 = y % 100 := by omega
 have h400 : (y + 400 * e) % 400 = y % 400 := by omega
 rw [h4, h100, h400]
theorem ofM_ok {n : Int} (h0 : 0 ≤ n) (h1 : n ≤ 3652058) : 1 ≤ (ofM n).y ∧ (ofM n).y ≤ 9999 ∧ 1 ≤ (ofM n).m ∧ (ofM n).m ≤ 12 ∧ 1 ≤ (ofM n).d ∧ (ofM n).d ≤ lengthM (ofM n).y (ofM n).m ∧ dayM (ofM n).y (ofM n).m (ofM n).d = n := by
 obtain ⟨yoe, doy, e1, e2, hy, hd, hl⟩ := era_ok ((n + 306) % 146097) (by omega) (by omega)
 obtain ⟨m1, m2, m3⟩ := month_ok doy (by omega)
 have hera : (n + 306) / 146097 * 146097 + (n + 306) % 146097 = n + 306 := by omega
 unfold ofM
 simp only
 rw [e1, e2]
 have em : (5 * (doy : Int) + 2) / 153 = (((5 * doy + 2) / 153 : Nat) : Int) := by omega
 rw [em]
 have ek : (153 * (((5 * doy + 2) / 153 : Nat) : Int) + 2) / 5 = (((153 * ((5 * doy + 2) / 153) + 2) / 5 : Nat) : Int) := by omega
 rw [ek]
 generalize (n + 306) / 146097 = era at *
 generalize (n + 306) % 146097 = doe at *
 have hk5 : ∀ m : Nat, m ≤ 11 → (153 * (m : Int) + 2) / 5 = (((153 * m + 2) / 5 : Nat) : Int) := fun m _ => by omega
 generalize hm : (5 * doy + 2) / 153 = m at *
 have q4 : ((yoe : Int) + 400 * era) / 4 = (yoe : Int) / 4 + 100 * era := by omega
 have q100 : ((yoe : Int) + 400 * era) / 100 = (yoe : Int) / 100 + 4 * era := by omega
 have q400 : ((yoe : Int) + 400 * era) / 400 = era := by omega
 by_cases h10 : ((m : Nat) : Int) ≥ 10
 · rw [if_pos h10]
   simp only
   have hday : dayM ((yoe : Int) + 400 * era + 1) ((m : Int) - 9) ((doy : Int) - (((153 * m + 2) / 5 : Nat) : Int) + 1) = n := by
    unfold dayM
    rw [if_pos (by omega)]
    simp only
    rw [show (yoe : Int) + 400 * era + 1 - 1 = (yoe : Int) + 400 * era by omega, show (m : Int) - 9 + 9 = (m : Int) by omega, hk5 m m1, q4, q100, q400]
    omega
   refine ⟨?_, ?_, by omega, by omega, by omega, ?_, hday⟩
   · omega
   · omega
   · have hm' : m = 10 ∨ m = 11 := by omega
     rcases hm' with rfl | rfl
     · unfold lengthM
       rw [if_neg (by omega), if_neg (by omega), if_neg (by omega)]
       rw [if_neg (by omega), if_neg (by omega)] at m3
       omega
     · unfold lengthM
       rw [if_neg (by omega), if_pos (by omega)]
       rw [if_pos rfl] at m3
       by_cases h365 : doy = 365
       · rw [if_pos h365] at m3
         have hlp : leapM ((yoe : Int) + 400 * era + 1) = true := by
          rw [show (yoe : Int) + 400 * era + 1 = ((yoe : Int) + 1) + 400 * era by omega, leapM_era]
          exact hl h365
         rw [hlp]
         simp only [if_true]
         omega
       · rw [if_neg h365] at m3
         split <;> omega
 · rw [if_neg h10]
   simp only
   have hday : dayM ((yoe : Int) + 400 * era) ((m : Int) + 3) ((doy : Int) - (((153 * m + 2) / 5 : Nat) : Int) + 1) = n := by
    unfold dayM
    rw [if_neg (by omega)]
    simp only
    rw [show (m : Int) + 3 - 3 = (m : Int) by omega, hk5 m m1, q4, q100, q400]
    omega
   refine ⟨?_, ?_, by omega, by omega, by omega, ?_, hday⟩
   · omega
   · omega
   · unfold lengthM
     rw [if_neg (by omega), if_neg (by omega)]
     rw [if_neg (by omega)] at m3
     split at m3
     · rw [if_pos (by omega)]; omega
     · rw [if_neg (by omega)]; omega
def padS (w : Nat) (s : Str) : Str := List.replicate (w - s.length) 48 ++ s
def dateS (n : Int) : Str := padS 4 (Lib.itoa (ofM n).y) ++ [45] ++ padS 2 (Lib.itoa (ofM n).m) ++ [45] ++ padS 2 (Lib.itoa (ofM n).d)
theorem decDigits_len : ∀ (k u : Nat), u < 10 ^ (k + 1) → (Lib.decDigits u).length ≤ k + 1
 | 0, u, h => by rw [Lib.decDigits, dif_pos (by simpa using h)]; simp
 | k + 1, u, h => by
   rw [Lib.decDigits]
   split
   · simp
   · have := decDigits_len k (u / 10) (by rw [Nat.pow_succ] at h; omega)
     simp
     omega
theorem padS_ok {w : Nat} {z : Int} (h0 : 0 ≤ z) (k : Nat) (hk : w = k + 1) (h1 : z < ((10 ^ (k + 1) : Nat) : Int)) : (padS w (Lib.itoa z)).length = w ∧ (padS w (Lib.itoa z)).all digB = true ∧ (decN (padS w (Lib.itoa z)) : Int) = z := by
 have hi : Lib.itoa z = Lib.decDigits z.toNat := by unfold Lib.itoa; rw [if_neg (by omega)]
 rw [hi]
 have hl := decDigits_len k z.toNat (by omega)
 have hd := decN_dec z.toNat
 have ha := decDigits_dig z.toNat
 generalize Lib.decDigits z.toNat = s at *
 unfold padS
 refine ⟨by simp; omega, ?_, ?_⟩
 · simp only [List.all_append, Bool.and_eq_true, List.all_eq_true]
   refine ⟨fun c hc => ?_, fun c hc => digB_of (ha c hc)⟩
   rw [List.eq_of_mem_replicate hc]
   decide
 · have hz : ∀ (n : Nat) (s : Str), decN (List.replicate n 48 ++ s) = decN s := by
    intro n
    induction n with
    | zero => intro s; simp
    | succ n ih => intro s; simp only [List.replicate_succ, List.cons_append]; unfold decN at ih ⊢; simpa using ih s
   rw [hz, hd]
   omega
theorem dateS_parts {n : Int} (h0 : 0 ≤ n) (h1 : n ≤ 3652058) : ∃ a b c : Str, dateS n = a ++ [45] ++ b ++ [45] ++ c ∧ a.length = 4 ∧ b.length = 2 ∧ c.length = 2 ∧ a.all digB = true ∧ b.all digB = true ∧ c.all digB = true ∧ (decN a : Int) = (ofM n).y ∧ (decN b : Int) = (ofM n).m ∧ (decN c : Int) = (ofM n).d := by
 obtain ⟨g1, g2, g3, g4, g5, g6, g7⟩ := ofM_ok h0 h1
 have g8 := lengthM_le (ofM n).y (ofM n).m
 obtain ⟨a1, a2, a3⟩ := padS_ok (w := 4) (z := (ofM n).y) (by omega) 3 rfl (by omega)
 obtain ⟨b1, b2, b3⟩ := padS_ok (w := 2) (z := (ofM n).m) (by omega) 1 rfl (by omega)
 obtain ⟨c1, c2, c3⟩ := padS_ok (w := 2) (z := (ofM n).d) (by omega) 1 rfl (by omega)
 exact ⟨_, _, _, rfl, a1, b1, c1, a2, b2, c2, a3, b3, c3⟩
theorem dateS_len {n : Int} (h0 : 0 ≤ n) (h1 : n ≤ 3652058) : (dateS n).length = 10 := by
 obtain ⟨a, b, c, e, ha, hb, hc, -⟩ := dateS_parts h0 h1
 rw [e]
 simp [ha, hb, hc]
theorem dateP_dateS {n : Int} (h0 : 0 ≤ n) (h1 : n ≤ 3652058) : dateP (dateS n) = (n, 0) := by
 obtain ⟨g1, g2, g3, g4, g5, g6, g7⟩ := ofM_ok h0 h1
 obtain ⟨a, b, c, e, ha, hb, hc, da, db, dc, na, nb, nc⟩ := dateS_parts h0 h1
 rw [e]
 match a, ha with
 | [a0, a1, a2, a3], _ =>
   match b, hb with
   | [b0, b1], _ =>
     match c, hc with
     | [c0, c1], _ =>
       unfold dateP
       have e1 : (([a0, a1, a2, a3] ++ [45] ++ [b0, b1] ++ [45] ++ [c0, c1] : Str)).take 4 = [a0, a1, a2, a3] := rfl
       have e2 : ((([a0, a1, a2, a3] ++ [45] ++ [b0, b1] ++ [45] ++ [c0, c1] : Str)).drop 5).take 2 = [b0, b1] := rfl
       have e3 : (([a0, a1, a2, a3] ++ [45] ++ [b0, b1] ++ [45] ++ [c0, c1] : Str)).drop 8 = [c0, c1] := rfl
       rw [e1, e2, e3]
       rw [if_pos ⟨rfl, rfl, rfl, da, db, dc⟩]
       simp only
       rw [na, nb, nc, if_neg (by omega), g7]
theorem dateS_ok : DayOk dateS := by
 intro n h0 h1
 refine ⟨dateS_len h0 h1, fun r => ?_⟩
 have hp := dateP_dateS h0 h1
 have hl := dateS_len h0 h1
 obtain ⟨a, b, c, e, ha, hb, hc, da, db, dc, -⟩ := dateS_parts h0 h1
 have htake : ((64 :: dateS n ++ r : Str)).take 11 = 64 :: dateS n := by
  rw [List.cons_append, List.take_succ_cons, List.take_append_of_le_length (by omega), List.take_of_length_le (by omega)]
 unfold readL
 simp only [List.cons_append, List.getD_cons_zero]
 rw [if_neg (by decide), if_neg (by decide), if_pos (by decide)]
 unfold dayL
 rw [← List.cons_append, if_neg (by simp; omega), htake]
 have hform : ((formL.zip (64 :: dateS n ++ r)).all fun p => fitL p.1 p.2) = true := by
  rw [e]
  match a, ha with
  | [a0, a1, a2, a3], _ =>
    match b, hb with
    | [b0, b1], _ =>
      match c, hc with
      | [c0, c1], _ =>
        simp only [List.all_cons, List.all_nil, Bool.and_true, Bool.and_eq_true] at da db dc
        simp [formL, fitL, da, db, dc]
 rw [if_pos hform]
 simp only [List.drop_succ_cons, List.drop_zero]
 rw [hp]
 simp
end Go.Eng
namespace Go.Proofs.YtgpibcgebpgmiaaGreatDoor
open Go Go.Eng Go.RowKit Go.Proofs
theorem fieldF_mem {s : Str} (h : (fieldF s).2.1 ≠ 0) : s ∈ fieldNames := by
 by_cases hm : s ∈ fieldNames
 · exact hm
 · exfalso
   have hi : ¬ 0 ≤ idx (isS s) fieldNames := fun h0 => hm (idx_memS.1 h0)
   apply h
   unfold fieldF
   simp only
   rw [if_pos (by omega)]
theorem leaf_wf {k n : Int} {s : Str} (h : leafN k n s ≠ 0) : Wf (.mk k n s []) := by
 unfold leafN at h
 by_cases h4 : k = 4
 · subst h4
   rw [if_pos rfl] at h
   by_cases hn : n = 0
   · subst hn
     rw [if_pos rfl] at h
     exact .field s (fieldF_mem h)
   · rw [if_neg hn] at h; exact absurd rfl h
 · rw [if_neg h4] at h
   by_cases hs : s = []
   · subst hs
     rw [if_neg (by simp)] at h
     by_cases h1 : k = 1
     · subst h1
       rw [if_pos rfl] at h
       split at h
       · exact .num n (by assumption)
       · exact absurd rfl h
     · rw [if_neg h1] at h
       by_cases h2 : k = 2
       · subst h2
         rw [if_pos rfl] at h
         split at h
         · exact .bool n (by omega)
         · exact absurd rfl h
       · rw [if_neg h2] at h
         by_cases h3 : k = 3
         · subst h3
           rw [if_pos rfl] at h
           split at h
           · exact .day n (by assumption)
           · exact absurd rfl h
         · rw [if_neg h3] at h; exact absurd rfl h
   · rw [if_pos hs] at h; exact absurd rfl h
theorem sigI_mem {x : Sig} (h : sigI x ≠ 0) : ∃ p ∈ sigs, p.1 = x := by
 cases hf : sigs.find? (fun p => decide (p.1 = x)) with
 | none =>
   exfalso
   apply h
   unfold sigI sigF mget
   rw [hf]
 | some p => exact ⟨p, List.mem_of_find?_eq_some hf, by simpa using List.find?_some hf⟩
theorem binT_ops {s : Str} {a b : Int} (h : binT s a b ≠ 0) : a = b ∧ s ∈ opsA ++ opsC ++ opsL := by
 unfold binT at h
 split at h
 · rename_i hs
   split at h
   · rename_i hc; exact ⟨hc.1, by simp [hs]⟩
   · exact absurd rfl h
 · split at h
   · rename_i hs
     split at h
     · rename_i hc; exact ⟨hc.1, by simp [hs]⟩
     · exact absurd rfl h
   · split at h
     · rename_i hs
       split at h
       · rename_i hc; exact ⟨hc.1, by simp [hs]⟩
       · exact absurd rfl h
     · exact absurd rfl h
theorem ops_level : ∀ s ∈ opsA ++ opsC ++ opsL, 1 ≤ levelO s := by decide
theorem typed_wf (x : Nd) : typeT x ≠ 0 → Wf x := by
 induction x using Nd.ind with
 | h k n s l ih =>
 intro h
 rw [typeT_eq] at h
 simp only [Nd.kind, Nd.num, Nd.word, Nd.kids] at h
 unfold combT at h
 split at h
 · exact absurd rfl h
 · rename_i hl3
   split at h
   · exact absurd rfl h
   · rename_i hz
     have hk : ∀ y ∈ l, typeT y ≠ 0 := fun y hy e => hz (by rw [← e]; exact List.mem_map_of_mem hy)
     have hw : ∀ y ∈ l, Wf y := fun y hy => ih y hy (hk y hy)
     split at h
     · rename_i he
       have : l = [] := by simpa using he
       subst this
       exact leaf_wf h
     · rename_i hne
       split at h
       · exact absurd rfl h
       · rename_i hn
         have hn0 : n = 0 := by omega
         subst hn0
         match l, hl3, hne, hk, hw, h with
         | [a], _, _, hk, hw, h =>
           have ha := hk a (by simp)
           simp only [List.map_cons, List.map_nil, List.getD_cons_zero, List.getD_cons_succ, List.getD_nil] at h
           split at h
           · exact absurd rfl h
           · split at h
             · exact absurd (binT_ops h).1 ha
             · obtain ⟨p, hp, hpe⟩ := sigI_mem h
               simp only [sigs, ents, units, List.map_cons, List.map_nil, List.flatMap_cons, List.flatMap_nil, unitE, List.cons_append, List.nil_append, List.append_nil, List.mem_cons, List.not_mem_nil, or_false, ent] at hp
               rcases hp with rfl | rfl | rfl | rfl | rfl | rfl | rfl | rfl | rfl | rfl | rfl | rfl | rfl | rfl | rfl <;> simp only [Sig.mk.injEq] at hpe <;> obtain ⟨rfl, rfl, h0, h1, h2⟩ := hpe
               · exact .neg a (hw a (by simp))
               · exact .not a (hw a (by simp))
               · exact .call1 _ a (by decide) (by decide) (hw a (by simp))
               · exact .call1 _ a (by decide) (by decide) (hw a (by simp))
               all_goals exact absurd h1 (by decide)
         | [a, b], _, _, hk, hw, h =>
           have ha := hk a (by simp)
           have hb := hk b (by simp)
           simp only [List.map_cons, List.map_nil, List.getD_cons_zero, List.getD_cons_succ, List.getD_nil] at h
           split at h
           · rename_i hc; exact absurd hc.2.2.2 hb
           · split at h
             · rename_i hc
               have h6 := (binT_ops h).2
               obtain ⟨rfl, _⟩ := hc
               exact .bin s a b (ops_level s h6) (hw a (by simp)) (hw b (by simp))
             · obtain ⟨p, hp, hpe⟩ := sigI_mem h
               simp only [sigs, ents, units, List.map_cons, List.map_nil, List.flatMap_cons, List.flatMap_nil, unitE, List.cons_append, List.nil_append, List.append_nil, List.mem_cons, List.not_mem_nil, or_false, ent] at hp
               rcases hp with rfl | rfl | rfl | rfl | rfl | rfl | rfl | rfl | rfl | rfl | rfl | rfl | rfl | rfl | rfl <;> simp only [Sig.mk.injEq] at hpe <;> obtain ⟨rfl, rfl, h0, h1, h2⟩ := hpe
               all_goals first
                | exact absurd h1.symm hb
                | exact .call2 _ a b (by decide) (by decide) (hw a (by simp)) (hw b (by simp))
                | exact .after _ a b (by decide) (hw a (by simp)) (hw b (by simp))
                | exact .before _ a b (by decide) (hw a (by simp)) (hw b (by simp))
         | [a, b, c], _, _, hk, hw, h =>
           have hc := hk c (by simp)
           simp only [List.map_cons, List.map_nil, List.getD_cons_zero, List.getD_cons_succ] at h
           split at h
           · rename_i hcd
             obtain ⟨rfl, rfl, _⟩ := hcd
             exact .cond a b c (hw a (by simp)) (hw b (by simp)) (hw c (by simp))
           · split at h
             · rename_i hcd; exact absurd hcd.2 hc
             · obtain ⟨p, hp, hpe⟩ := sigI_mem h
               simp only [sigs, ents, units, List.map_cons, List.map_nil, List.flatMap_cons, List.flatMap_nil, unitE, List.cons_append, List.nil_append, List.append_nil, List.mem_cons, List.not_mem_nil, or_false, ent] at hp
               rcases hp with rfl | rfl | rfl | rfl | rfl | rfl | rfl | rfl | rfl | rfl | rfl | rfl | rfl | rfl | rfl <;> simp only [Sig.mk.injEq] at hpe <;> obtain ⟨rfl, rfl, h0, h1, h2⟩ := hpe
               all_goals exact absurd h2.symm hc
         | a :: b :: c :: d :: r, hl3, _, _, _, _ => simp at hl3
theorem opN_nest {x : Nd} (h : Wf x) : opN x + 2 ≤ 2 * nestN x := by
 have pd : ∀ (k : Nat) (p : Nat × Nat), parD k p ≤ p.2 + 1 := fun k p => by unfold parD; split <;> omega
 induction h with
 | num n h | bool n h | day n h | field s h => rw [opN_mk, nest0]; simp [opK]
 | neg a ha ih => rw [opN_mk, nest1]; have := pd 7 (lvl a, opN a); show 1 + parD 7 (lvl a, opN a) + 2 ≤ _; omega
 | not a ha ih => rw [opN_mk, nest1]; have := pd 3 (lvl a, opN a); show 1 + parD 3 (lvl a, opN a) + 2 ≤ _; omega
 | bin s a b hs ha hb iha ihb =>
   rw [opN_mk, nest2]
   have h1 := pd (leftL (levelO s)) (lvl a, opN a)
   have h2 := pd (levelO s + 1) (lvl b, opN b)
   show max (parD (leftL (levelO s)) (lvl a, opN a)) (parD (levelO s + 1) (lvl b, opN b)) + 2 ≤ _
   simp only at h1 h2
   omega
 | after s a b hs ha hb iha ihb =>
   rw [opN_mk, nest2]
   have h1 := pd 5 (lvl a, opN a)
   have h2 := pd 6 (lvl b, opN b)
   show max (parD 5 (lvl a, opN a)) (parD 6 (lvl b, opN b)) + 2 ≤ _
   simp only at h1 h2
   omega
 | before s a b hs ha hb iha ihb =>
   rw [opN_mk, nest2]
   have h1 := pd 5 (lvl a, opN a)
   have h2 := pd 6 (lvl b, opN b)
   show max (parD 5 (lvl a, opN a)) (parD 6 (lvl b, opN b)) + 2 ≤ _
   simp only at h1 h2
   omega
 | cond a b c ha hb hc iha ihb ihc =>
   rw [opN_mk, nest3]
   show 1 + max (max (max 0 (opN a)) (opN b)) (opN c) + 2 ≤ _
   omega
 | call1 s a hs h1 ha ih =>
   rw [opN_mk, nest1]
   show 1 + max 0 (opN a) + 2 ≤ _
   omega
 | call2 s a b hs h2 ha hb iha ihb =>
   rw [opN_mk, nest2]
   show 1 + max (max 0 (opN a)) (opN b) + 2 ≤ _
   omega
theorem lett_ldB {c : UInt8} (h : lett (c.toNat : Int)) : ldB c = true := by
 unfold ldB letB digB
 simp only [Bool.or_eq_true, Bool.and_eq_true, decide_eq_true_eq]
 rcases h with h | h
 · left; omega
 · right; omega
theorem named_ok {s : Str} (h : namedT s = true) : NameOk s := by
 unfold namedT nameOk at h
 simp only [Bool.and_eq_true, decide_eq_true_eq] at h
 obtain ⟨⟨h1, h2, h3, h4, h5⟩, h6, h7⟩ := h
 refine ⟨⟨fun e => by rw [e] at h1; simp at h1, h2, ?_, fun c hc => ?_⟩, ?_⟩
 · unfold letB
   unfold byte at h3 h4
   simp only [Bool.and_eq_true, decide_eq_true_eq]
   omega
 · obtain ⟨i, hi, rfl⟩ := List.getElem_of_mem hc
   have := h5 i hi
   rw [Go.Eng.byte_at hi] at this
   exact lett_ldB this
 · simp only [resW, List.mem_cons, List.not_mem_nil, or_false, not_or] at h6
   intro hm
   simp only [List.mem_append] at hm
   rcases hm with ((hm | hm) | hm) | hm
   · simp only [ruleW, List.mem_cons, List.not_mem_nil, or_false] at hm
     rcases hm with h | h | h | h | h | h | h | h | h | h | h | h | h | h <;> simp [h] at h6
   · simp only [unitW, List.mem_cons, List.not_mem_nil, or_false] at hm
     rcases hm with h | h | h | h <;> simp [h] at h6
   · exact h7 hm
   · simp only [funcW, List.mem_cons, List.not_mem_nil, or_false] at hm
     rcases hm with h | h | h | h | h <;> simp [h] at h6
theorem must_ok {x : Nd} {z : Int} (hz : z ≠ 0) (h : mustF x z = 0) : typeT x = z ∧ nestN x ≤ 12 := by
 unfold mustF at h
 split at h
 · split at h
   · exact absurd h (by decide)
   · split at h
     · exact ⟨by assumption, by assumption⟩
     · exact absurd h (by decide)
 · exact absurd h (by decide)
theorem check_parts {r : Rul} (h : checkT r = 0) : namesT r = true ∧ (0 ≤ r.frm ∧ r.frm ≤ 3652058) ∧ mustF r.cnd 2 = 0 ∧ mustF r.due 3 = 0 := by
 unfold checkT at h
 split at h
 · exact absurd h (by decide)
 · rename_i h1
   split at h
   · exact absurd h (by decide)
   · split at h
     · rename_i h3; exact absurd h h3
     · rename_i h2 h3
       exact ⟨by simpa using h1, by omega, by simpa using h3, h⟩
theorem check_rule {r : RuleM} (h : checkT r.rul = 0) (h1 : nestN r.cond ≤ 7) (h2 : nestN r.due ≤ 7) : RuleOk r := by
 obtain ⟨g1, g2, g3, g4⟩ := check_parts h
 have t1 := (must_ok (by decide) g3).1
 have t2 := (must_ok (by decide) g4).1
 have w1 : Wf r.cond := typed_wf _ (by rw [show typeT r.cond = 2 from t1]; decide)
 have w2 : Wf r.due := typed_wf _ (by rw [show typeT r.due = 3 from t2]; decide)
 have o1 := opN_nest w1
 have o2 := opN_nest w2
 unfold namesT at g1
 simp only [Bool.and_eq_true, Bool.or_eq_true, decide_eq_true_eq] at g1
 obtain ⟨⟨⟨n1, n2⟩, n3⟩, n4⟩ := g1
 exact ⟨named_ok n1, g2, named_ok n2, w1, by omega, w2, by omega, n3.imp id named_ok, n4.imp id named_ok⟩
end Go.Proofs.YtgpibcgebpgmiaaGreatDoor
namespace Go.Eng
open Go Go.RowKit Go.Proofs
def updA (ds : List Deferred) (a : Act) : Act := { a with defers := a.defers ++ ds }
def lftQ (ds : List Deferred) (Q : Exit → Act → World → Prop) : Exit → Act → World → Prop := fun x a w => Q x (updA ds a) w
theorem updA_put (ds : List Deferred) (a : Act) (d : Option Nat) (v : Value) : updA ds (a.put d v) = (updA ds a).put d v := by cases d <;> rfl
theorem updA_eval (ds : List Deferred) (a : Act) : (updA ds a).eval = a.eval := by funext x; cases x <;> rfl
theorem letsOut_lft {ds : List Deferred} {Q : Exit → Act → World → Prop} (h : LetsOut (lftQ ds Q)) : LetsOut Q := let ⟨a, w, h⟩ := h; ⟨_, w, h⟩
theorem oper_lft {P : Program} {ds : List Deferred} {Q : Exit → Act → World → Prop} {o : Oper} {a : Act} {w : World} {K K' : Act → World → Prop} (hK : ∀ a w, K' a w → K (updA ds a) w) (h : o.wp P a w K' (lftQ ds Q)) : o.wp P (updA ds a) w K Q := by
 unfold Oper.wp at *
 rw [updA_eval]
 generalize (execOp a.eval o).run P w = r at *
 cases r with
 | ok x w' =>
   cases x <;> simp only [Oper.upon] at h ⊢
   case value v => have := hK _ _ h; rw [updA_put] at this; exact this
   case skip => have := hK _ _ h; rw [updA_put] at this; exact this
   case defer d => have := hK _ _ h; rw [updA_put] at this; exact this
   case enter f args =>
    refine Calls.mono h fun e w'' he => ?_
    cases e with
    | returned v => have := hK _ _ he; rw [updA_put] at this; exact this
    | panicked c => exact he
    | outgrown => exact letsOut_lft he
   case row row args => exact Rows.mono h fun v w'' he => by have := hK _ _ he; rw [updA_put] at this; exact this
 | halt x w' => cases x <;> simp only [Oper.upon] at h ⊢; exact h
theorem asks_lft {P : Program} {ds : List Deferred} {o : Oper} {a : Act} {w : World} (h : o.asks P a w) : o.asks P (updA ds a) w := by
 unfold Oper.asks at *
 rw [updA_eval]
 exact h
theorem wpList_lft {P : Program} {ds : List Deferred} {Q : Exit → Act → World → Prop} {ops : Array Oper} : ∀ (l : List Oper) (a : Act) (w : World), wpList P ops (lftQ ds Q) l a w → wpList P ops Q l (updA ds a) w
 | [], a, w, h => h
 | o :: rest, a, w, h => by
   unfold wpList at *
   split at h
   · rename_i hw
     rw [if_pos (show Region.wanted o (yielded ops (updA ds a).tmps) = true from hw)]
     rcases h with h | ⟨h1, h2⟩
     · exact .inl (oper_lft (fun a w h => wpList_lft rest a w h) h)
     · exact .inr ⟨asks_lft h1, letsOut_lft h2⟩
   · rename_i hw
     rw [if_neg (show ¬ Region.wanted o (yielded ops (updA ds a).tmps) = true from hw)]
     rw [← updA_put]
     exact wpList_lft rest _ w h
theorem wpOp_lft {P : Program} {ds : List Deferred} {Q : Exit → Act → World → Prop} {ops : Array Oper} {i : Nat} {a : Act} {w : World} {K K' : Act → World → Prop} (hK : ∀ a w, K' a w → K (updA ds a) w) (h : wpOp P ops (lftQ ds Q) i K' a w) : wpOp P ops Q i K (updA ds a) w := by
 unfold wpOp at *
 cases ho : ops[i]? with
 | none => simp only [ho] at h ⊢; exact hK _ _ h
 | some o =>
   simp only [ho] at h ⊢
   split at h
   · rename_i hw
     rw [if_pos (show Region.wanted o (yielded ops (updA ds a).tmps) = true from hw)]
     rcases h with h | ⟨h1, h2⟩
     · exact .inl (oper_lft hK h)
     · exact .inr ⟨asks_lft h1, letsOut_lft h2⟩
   · rename_i hw
     rw [if_neg (show ¬ Region.wanted o (yielded ops (updA ds a).tmps) = true from hw)]
     rw [← updA_put]
     exact hK _ _ h
theorem wpAny_lft {P : Program} {ds : List Deferred} {Q : Exit → Act → World → Prop} {ops : Array Oper} {md : Region.Mode} : ∀ (fuel : Nat) (listed : Array Bool) (a : Act) (w : World), wpAny P md ops (lftQ ds Q) fuel listed a w → wpAny P md ops Q fuel listed (updA ds a) w
 | 0, _, _, _, h => h
 | fuel + 1, _, _, _, h => ⟨h.1, fun i hi => wpOp_lft (fun a w h => wpAny_lft fuel _ a w h) (h.2 i hi)⟩
structure WQD (ds : List Deferred) (n : Nat) (Q : Exit → Act → World → Prop) (x : Exit) (e : Env) (w : World) : Prop where
 h : ∀ a, Has n e a → Q x (updA ds a) w
structure WCD (ds : List Deferred) (P : Program) (n : Nat) (c : Code) (Q : Exit → Act → World → Prop) (e : Env) (w : World) : Prop where
 h : ∀ a, Has n e a → c.wp P Q (updA ds a) w
section rules
variable {P : Program} {n : Nat} {ds : List Deferred} {Q : Exit → Act → World → Prop} {e : Env} {w : World}
theorem WQ_lft {x : Exit} (h : WQD ds n Q x e w) : WQ n (lftQ ds Q) x e w := ⟨fun a ha => h.h a ha⟩
theorem WCD_seq {x y : Code} (h : WCD ds P n x (Exit.then (fun a w => y.wp P Q a w) Q) e w) : WCD ds P n (x.seq y) Q e w := ⟨fun a ha => wp_seq (h.h a ha)⟩
theorem WQD_then {y : Code} (h : WCD ds P n y Q e w) : WQD ds n (Exit.then (fun a w => y.wp P Q a w) Q) .normal e w := ⟨fun a ha => h.h a ha⟩
theorem WQD_then_panic {N : Act → World → Prop} {ch : List PanicEntry} (h : WQD ds n Q (.panic ch) e w) : WQD ds n (Exit.then N Q) (.panic ch) e w := ⟨fun a ha => h.h a ha⟩
theorem WCD_skip (h : WQD ds n Q .normal e w) : WCD ds P n .skip Q e w := ⟨fun a ha => wp_skip (h.h a ha)⟩
theorem WCD_ret (h : WQD ds n Q .ret e w) : WCD ds P n .ret Q e w := ⟨fun a ha => wp_ret (h.h a ha)⟩
theorem HasD.ev {a : Act} (ha : Has n e a) {x : Operand} {v : Value} (hx : ev e x = some v) : (updA ds a).eval x = v := by rw [updA_eval]; exact ha.ev hx
theorem WCD_cond_false {c : Operand} {x y : Code} (hc : ev e c = some (.bool false)) (h : WCD ds P n y Q e w) : WCD ds P n (.cond c x y) Q e w := ⟨fun a ha => wp_cond_false (HasD.ev ha hc) (h.h a ha)⟩
theorem WCD_region {id : Nat} {l : List Oper} (h : WL P n l.toArray (lftQ ds Q) l e w) : WCD ds P n (.region id l.toArray false) Q e w := ⟨fun a ha => wp_region_lit (wpList_lft _ _ _ (h.h a ha))⟩
theorem WCD_drawn {id : Nat} {l : List Oper} (m : Nat) (S : List Nat) (Lt : List Nat) (ord : List (Nat × Nat)) (hlm : l.length = m) (hm : P.follows .mixedOrders = true) (hs : Region.noSelect l.toArray = true) (hl : Nat.beq (wt ord) l.length = true)
 (hB : checkD l.toArray Lt ord (Array.replicate m false) = true)
 (h : ∀ w', Stp [] w w' → WD P n l.toArray S Lt (lftQ ds Q) ord e w') : WCD ds P n (.region id l.toArray true) Q e w := by
 subst hlm
 refine ⟨fun a ha => wp_region_any hm (wpAny_lft _ _ _ _ ?_)⟩
 have h1 := (h { w with drawn := w.drawn + 1 } (Stp.drew [] w)).h _ hs hB a ha
 have h2 := wpAny_of_E (Q := lftQ ds Q) (fun a w hz => hz) _ _ _ _ h1
 rw [Nat.eq_of_beq_eq_true hl] at h2
 simpa using h2
end rules
theorem mem_of_look : ∀ {e : Env} {t : Nat} {v : Value}, look e t = some v → (t, v) ∈ e
 | (k, u) :: r, t, v, h => by
   rw [look_cons] at h
   by_cases hk : k = t
   · subst hk; simp at h; subst h; simp
   · rw [if_neg hk] at h; exact List.mem_cons_of_mem _ (mem_of_look h)
theorem Has.of {n : Nat} {e : Env} {a : Act} (h1 : a.defers = []) (h2 : a.tmps.size = n) (h3 : ∀ p ∈ e, a.tmps.getD p.1 undef = p.2) : Has n e a := ⟨h1, h2, fun t v h => h3 (t, v) (mem_of_look h)⟩
section
variable {P : Program} {n : Nat} {Q : Exit → Act → World → Prop} {e : Env} {w : World} {ops : Array Oper} {rest : List Oper} {ty : TypeId} {pos : String} {af : Array Edge} {ds : List Deferred}
theorem wpS_of_WC {fn : Func} {c₀ : Frame} {cs : List Frame} {u' : FrameMode} {R : Ending → FrameMode → World → Prop} {c : Code} {a : Act} (ha : Has n e a) (h : WC P n c (bodyPost P fn (fun x w => R x u' w)) e w) :
 c.wpS P (bodyPostS P fn c₀ cs R) a ({ c₀ with mode := u' } :: cs) w := by
 refine wpS_of_wp (wp_mono (h.h a ha) fun ex a' w' hq => ?_)
 cases ex with
 | normal => obtain ⟨hd, v, hr, hR⟩ := hq; exact ⟨hd, u', rfl, v, hr, hR⟩
 | ret => obtain ⟨hd, v, hr, hR⟩ := hq; exact ⟨hd, u', rfl, v, hr, hR⟩
 | panic ch => obtain ⟨hd, hR⟩ := hq; exact ⟨hd, u', rfl, hR⟩
 | exit i => exact hq.elim
 | goto l => exact hq.elim
 | outgrown => exact ⟨u', hq⟩
theorem calls_of_WCD {f : FuncId} {fn : Func} {c : Code} {args : Array Value} {w : World} {R : Ending → World → Prop} {n : Nat} (hf : P.funcs[f]? = some fn) (hb : fn.body = some c)
 (hn : fn.ntmps = n) (hs : Nat.ble args.size n = true) (h : WC P n c (bodyPostD P fn R) (argEnv args.toList 0) w) : Calls P f args w R := by
 refine calls_of_wp_defers hf hb (h.h _ ?_)
 rw [hn]
 have hle : args.size ≤ n := Nat.le_of_ble_eq_true hs
 refine ⟨rfl, by simp; omega, fun t v hv => ?_⟩
 obtain ⟨_, h2⟩ := look_argEnv _ _ _ _ hv
 simp only [Nat.sub_zero] at h2
 have hlt : t < args.size := by
  have := (List.getElem?_eq_some_iff.1 h2).1
  simpa using this
 have : args[t]? = some v := by simpa using h2
 have h3 : (args ++ Array.replicate (n - args.size) undef)[t]? = some v := by
  rw [Array.getElem?_append_left hlt]; exact this
 simp [Array.getD_eq_getD_getElem?, h3]
theorem calls_of_WCD2 {f : FuncId} {fn : Func} {c : Code} {a0 a1 : Value} {w : World} {R : Ending → World → Prop} {n : Nat} (hf : P.funcs[f]? = some fn) (hb : fn.body = some c)
 (hn : fn.ntmps = n) (hs : Nat.ble 2 n = true) (h : WC P n c (bodyPostD P fn R) [(0, a0), (1, a1)] w) : Calls P f #[a0, a1] w R := calls_of_WCD hf hb hn hs h
theorem WL_defer {y : Code} {t : Operand} {fv : Fn} {cap : Array Value} (hc : ev e t = some (.func fv #[] cap)) {ts : Array TypeId}
 (h : WCD [{ target := .fn fv cap, args := #[] }] P n y Q e w) :
 WL P n ops (Exit.then (fun a w => y.wp P Q a w) Q) [⟨none, .defer { callee := .value t, args := #[], argTypes := ts }, ty, pos, af, none⟩] e w := by
 refine ⟨fun a ha => ?_⟩
 refine wpList_plain rfl (fun K hK => ?_)
 unfold Oper.wp
 have he : (execOp a.eval ⟨none, .defer { callee := .value t, args := #[], argTypes := ts }, ty, pos, af, none⟩).run P w = .ok (.defer { target := .fn fv cap, args := #[] }) w := by
  simp [execOp, resolve, ha.ev hc, Deferred.ofValue]
 rw [he]
 simp only [Oper.upon]
 refine hK _ _ ?_
 have hd : ({ a with defers := { target := .fn fv cap, args := #[] } :: a.defers } : Act) = updA [{ target := .fn fv cap, args := #[] }] a := by
  unfold updA
  rw [ha.defers]
  rfl
 show wpList P ops _ [] (Act.put { a with defers := _ } none undef) w
 rw [hd]
 exact wpList_nil (h.h a ha)
theorem WL_pcallE {d : Nat} {f : Nat} {fn : Func} {xs : Array Operand} {ts : Array TypeId} {vs : Array Value} {c : Operand} {ch : List PanicEntry} {F : World → Prop} [hf : Fun P f fn]
 (hc : ev e c = some (.func (.func f) #[] #[])) (hv : ∀ a, Has n e a → xs.map a.eval = vs) (h : Calls P f vs w (fun e w' => e = .panicked ch ∧ F w')) (hd : Nat.blt d n = true) (k : ∀ w', F w' → WQ n Q (.panic ch) e w') :
 WL P n ops Q (⟨some d, .call { callee := .value c, args := xs, argTypes := ts }, ty, pos, af, none⟩ :: rest) e w :=
 WL_effP (G := fun _ _ => False) (F := fun ch' w' => ch' = ch ∧ F w') (OEP_call hc hv (h.mono fun e w' ⟨h1, h2⟩ => by rw [h1]; exact .pan ⟨rfl, h2⟩)) hd (fun ch' w' ⟨h1, h2⟩ => by subst h1; exact k w' h2) (fun _ _ h => h.elim)
theorem loadVar_1 {t b T : Nat} {D : TypeDesc} {v : Value} [hu : Und P t D] (hA : aggB D = false) (hb : Blk w b T [v]) : (loadVar t ⟨b, 0, none⟩).run P w = .ok v w := by
 have := hb.cell (j := 0) rfl
 simp [loadVar, Und.isAgg, hA, this]
theorem results3c {fn : Func} {a : Act} {t1 t2 t3 T1 T2 T3 b1 b2 b3 S1 S2 S3 : Nat} {D1 D2 D3 : TypeDesc} {v1 v2 v3 : Value} (hr : fn.results = #[.cell t1 T1, .cell t2 T2, .cell t3 T3]) [hu1 : Und P T1 D1] [hu2 : Und P T2 D2] [hu3 : Und P T3 D3] (hA1 : aggB D1 = false) (hA2 : aggB D2 = false) (hA3 : aggB D3 = false)
 (h1 : a.tmps.getD t1 undef = .pointer (some ⟨b1, 0, none⟩)) (h2 : a.tmps.getD t2 undef = .pointer (some ⟨b2, 0, none⟩)) (h3 : a.tmps.getD t3 undef = .pointer (some ⟨b3, 0, none⟩))
 (e1 : Blk w b1 S1 [v1]) (e2 : Blk w b2 S2 [v2]) (e3 : Blk w b3 S3 [v3]) : (results fn a.tmps).run P w = .ok (.tuple #[v1, v2, v3]) w := by
 rw [Array.getD_eq_getD_getElem?] at h1 h2 h3
 simp [results, hr, h1, h2, h3, asAddr, loadVar_1 hA1 e1, loadVar_1 hA2 e2, loadVar_1 hA3 e3]
theorem leaves_one {fn fn' : Func} {tmps : Array Value} {R : Ending → World → Prop} {f : FuncId} {cap : Array Value} {u : FrameMode} (hu : u ≠ .run) [hf : Fun P f fn'] {G : Value → FrameMode → World → Prop}
 (h : CallsD P f cap u w fun e u' w' => ∃ v, e = .returned v ∧ G v u' w') (hk : ∀ v u' w', G v u' w' → settle u' = .returning ∧ ∃ r, (results fn tmps).run P w' = .ok r w' ∧ R (.returned r) w') :
 Leaves P fn tmps R [{ target := .fn (.func f) cap, args := #[] }] u w := by
 refine leaves_cons (f := f) (args := cap) hu ?_ (h.mono fun e u' w' ⟨v, h1, h2⟩ => ?_)
 · simp [invoke]
   exact hf.enters cap w
 · subst h1
   obtain ⟨h3, r, h4, h5⟩ := hk v u' w' h2
   show Leaves P fn tmps R [] (settle u') w'
   rw [h3]
   exact ⟨r, h4, h5⟩
theorem PR_typeAssert {d : Option Nat} {g : Option (Nat × Bool)} {x : Operand} {t s : TypeId} {u v : Value} (hx : ev e x = some u) (hb : ∀ w, (Instr.typeAssert u t s true).run P w = .ok v w) : PR P n ⟨d, .typeAssert x t s true, ty, pos, af, g⟩ e w v :=
 ⟨fun a ha => by simp [execOp, ha.ev hx, hb]⟩
theorem PR_makeFunc4 {d : Option Nat} {g : Option (Nat × Bool)} {f : Nat} {x y z r : Operand} {v u s q : Value} (hx : ev e x = some v) (hy : ev e y = some u) (hz : ev e z = some s) (hr : ev e r = some q) : PR P n ⟨d, .makeFunc (.func f) #[] #[x, y, z, r], ty, pos, af, g⟩ e w (.func (.func f) #[] #[v, u, s, q]) :=
 ⟨fun a ha => by simp [execOp, Instr.makeFunc, ha.ev hx, ha.ev hy, ha.ev hz, ha.ev hr]⟩
end
theorem bind_ok {α β : Type} {x : Out α} {k : α → Nat → Nat → Out β} {y : β} {i o : Nat} (h : x.bind k = .ok y i o) : ∃ a i1 o1, x = .ok a i1 o1 ∧ k a i1 o1 = .ok y i o := by
 cases x with
 | err a c => simp [Out.bind] at h
 | ok a i1 o1 => exact ⟨a, i1, o1, rfl, h⟩
theorem nameO_lt {l : List Tkn} {i o : Nat} {s : Str} {i' o' : Nat} (h : nameO l i o = .ok s i' o') : i < i' := by
 unfold nameO at h
 split at h
 · simp [failO] at h
 · obtain ⟨a, i1, o1, h1, h2⟩ := bind_ok h
   have := tokenO_open h1
   simp only [Out.ok.injEq] at h2
   omega
theorem wholeO_lt {l : List Tkn} {i o : Nat} {x : Nd} {i' o' : Nat} (h : wholeO l i o = .ok x i' o') : i < i' := by
 have h1 := wholeO_eq l i o
 rw [h] at h1
 have := exprO_le l _ _ _ _ _ _ _ h1
 simp only [Call.lo] at this
 omega
theorem partO_le {α : Type} {l : List Tkn} {wd : Str} {z : α} {rd : Nat → Nat → Out α} {i o : Nat} {x : α} {i' o' : Nat} (hr : ∀ i o x i' o', rd i o = .ok x i' o' → i < i') (h : partO l wd z rd i o = .ok x i' o') : i ≤ i' := by
 unfold partO at h
 split at h
 · obtain ⟨a, i1, o1, h1, h2⟩ := bind_ok h
   obtain ⟨a2, i2, o2, h3, h4⟩ := bind_ok h2
   have := hr _ _ _ _ _ h1
   have := (mustO_i h3).1
   simp only [Out.ok.injEq] at h4
   omega
 · simp only [Out.ok.injEq] at h
   omega
theorem ruleO_lt {l : List Tkn} {i o : Nat} {r : RuleM} {i' o' : Nat} (h : ruleO l i o = .ok r i' o') : i < i' := by
 unfold ruleO at h
 obtain ⟨a1, i1, o1, h1, h⟩ := bind_ok h
 obtain ⟨a2, i2, o2, h2, h⟩ := bind_ok h
 obtain ⟨a3, i3, o3, h3, h⟩ := bind_ok h
 obtain ⟨a4, i4, o4, h4, h⟩ := bind_ok h
 obtain ⟨a5, i5, o5, h5, h⟩ := bind_ok h
 split at h
 · obtain ⟨a6, i6, o6, h6, h⟩ := bind_ok h
   obtain ⟨a7, i7, o7, h7, h⟩ := bind_ok h
   split at h
   · obtain ⟨a8, i8, o8, h8, h⟩ := bind_ok h
     obtain ⟨a9, i9, o9, h9, h⟩ := bind_ok h
     obtain ⟨a10, i10, o10, h10, h⟩ := bind_ok h
     obtain ⟨a11, i11, o11, h11, h⟩ := bind_ok h
     have := (mustO_i h1).1
     have := nameO_lt h2
     have := (mustO_i h3).1
     have := (tokenO_open h4).2.1
     have := (mustO_i h5).1
     have := partO_le (fun _ _ _ _ _ h => nameO_lt h) h6
     have := partO_le (fun _ _ _ _ _ h => wholeO_lt h) h7
     have := partO_le (fun _ _ _ _ _ h => wholeO_lt h) h8
     have := partO_le (fun _ _ _ _ _ h => nameO_lt h) h9
     have := partO_le (fun _ _ _ _ _ h => nameO_lt h) h10
     have := (mustO_i h11).1
     simp only [Out.ok.injEq] at h
     omega
   · simp [failO] at h
 · simp [failO] at h
end Go.Eng
namespace Go.Proofs.YtgpibcgebpgmiaaGreatDoor
open Go Go.Eng Go.RowKit Go.Proofs
theorem buildSR1 (r : Rul) (p : Option Addr) (a c : Nat) (p' : Option Addr) (a' c' : Nat) (w : World) : (Instr.buildSlice 23 1 #[(0, .agg (rlC r (.slice p a c) (.slice p' a' c')).toArray)]).run Tryz.prog w = .ok (.slice (some ⟨w.heap.size, 0, none⟩) 1 1) (w.alloc (.cells (rlC r (.slice p a c) (.slice p' a' c')).toArray 38)) := by kernel_rfl
theorem repsR1 {X : List Nat} {w : World} {r : Rul} {cs : List Value} (h : GoRep.rep X w r cs) : ∀ i (hi : i < [r].length) (hi' : i < [cs].length), GoRep.rep X w [r][i] [cs][i]
 | 0, _, _ => h
set_option maxHeartbeats 2000000 in
theorem Parse1_any (X : List Nat) (b : Nat) (tv : Value) (l : List Tkn) (hL : Toks l) (m : Int) (i o f : Nat) (w : World) (hb1 : b ≠ 1) (hbX : b ∈ X) (hX : ∀ c ∈ X, c < w.heap.size) (hm : w.cell? ⟨1, 0, none⟩ = some (.int .i64 m)) (hp : Pd w b tv l i o) (hf : l.length ≤ i + f) :
 Calls Tryz.prog 25 #[.pointer (some ⟨b, 0, none⟩)] w (PC b w tv l (rulesO l f [] i o) (fun rs v w' => SlV X w' v (rs.map RuleM.rul))) := by
 have hs0 := hp.2.1
 have hm0 := hm
 have hbw := hp.lt
 have hll := hp.2.2.2.1
 generalize hR : rulesO l f [] i o = R
 refine calls_of_WC1 (n := 22) Tryz.func25 rfl rfl rfl ?_
 refine W ?_
 refine WC_loop (σ := Nat × List RuleM × Value × Nat × Nat) (fun q => [(0, .pointer (some ⟨b, 0, none⟩)), (3, q.2.2.1)])
  (fun q w' => rulesO l q.1 q.2.1 q.2.2.2.1 q.2.2.2.2 = R ∧ l.length ≤ q.2.2.2.1 + q.1 ∧ q.2.1.length ≤ q.2.2.2.1 ∧ Pd w' b tv l q.2.2.2.1 q.2.2.2.2 ∧ Row X w' w.heap.size 38 q.2.2.1 (q.2.1.map RuleM.rul) ∧ w'.cell? ⟨1, 0, none⟩ = some (.int .i64 m) ∧ Stp [b] w w')
  (fun q => q.1) (f, [], .slice none 0 0, i, o) ⟨rfl, rfl, trivial⟩ ⟨hR, hf, Nat.zero_le _, hp, Row.nil, hm, Stp.refl _ _⟩ ?_
 clear hR hp hm hf
 rintro ⟨f1, rs, rv, i1, o1⟩ w1 ⟨hR, hf, hrl, hp, hrow, hm, hS⟩
 dsimp only at hR hf hrl hp hrow ⊢
 have hi1 := hp.i_lt
 obtain ⟨f1, rfl⟩ : ∃ f', f1 = f' + 1 := ⟨f1 - 1, by omega⟩
 simp only [rulesO] at hR
 refine W ?_
 refine WC_drawn 12 [] [] [(0, 0), (1, 0), (2, 0), (3, 1), (4, 0), (5, 0), (6, 0), (7, 1), (8, 0), (9, 0), (10, 1), (11, 0)] rfl mixed (by kernel_rfl) (by kernel_rfl) (by kernel_rfl) (fun w1 hS1 => ?_)
 replace hS1' := hS1
 replace hp := hp.up hS1; replace hrow := hrow.up hS1
 replace hm := hS1.cell (by simp) hm
 replace hS := hS.trans (hS1.mono (by simp))
 clear hS1 hS1'
 obtain ⟨hpb, hps, hpi, hpl, hpo⟩ := id hp
 have hcur := cur_of hpi
 refine D ?_
 by_cases hk : (cur l i1).kind = 0
 · rw [if_pos hk] at hR
   subst hR
   rw [hcur] at hk
   repeat' (first | refine W1 ?_ | (exfalso; omega) | (refine VG ?_ ?_ <;> intro hg) | (refine VC ?_ ?_ <;> intro hc))
   refine WR ?_
   refine PC.ok ?_ hp hS
   exact hrow.slv hX
 · rw [if_neg hk] at hR
   rw [hcur] at hk
   repeat' (first | refine W1 ?_ | (exfalso; omega) | (refine VG ?_ ?_ <;> intro hg) | (refine VC ?_ ?_ <;> intro hc))
   have hXk : ∀ c ∈ ob rv ++ X, c < w1.heap.size := fun c hc => by
    rcases List.mem_append.1 hc with h | h
    · exact (hrow.ob_le c h).2
    · exact Nat.lt_of_lt_of_le (hX c h) hS.size
   have hsub := rule_any (ob rv ++ X) b tv l hL m i1 o1 _ hb1 (by simp [hbX]) hXk hm hp
   rcases hU : ruleO l i1 o1 with ⟨a, c⟩ | ⟨r, i2, o2⟩
   · rw [hU] at hR
     simp only [Out.bind] at hR
     subst hR
     refine WL_pcall rfl (evs1 rfl) (PC.falls hsub hU hS) rfl ?_
     intro wz hwz
     repeat' (first | refine WQ_then_panic ?_ | refine WQ_block_panic ?_)
     refine WQ_panic ?_
     exact PC.err hwz
   · rw [hU] at hR
     simp only [Out.bind] at hR
     have hlt := ruleO_lt hU
     refine CL rfl (evs1 rfl) rfl (PC.goes hsub hU) ?_
     rintro _ w3 ⟨⟨ki, kd, rfl, hki, hkd⟩, hp3, hT⟩
     replace hrow := hrow.ext (X' := X) hT (fun c hc => by
      simp only [List.mem_singleton] at hc
      subst hc
      exact ⟨hbX, fun h => by have := (hrow.ob_le c h).1; omega⟩) (fun c hc => .inl hc)
     replace hm := cell_up hm hb1 hT
     replace hS := hS.trans hT
     have hXk3 : ∀ c ∈ ob rv ++ X, c < w3.heap.size := fun c hc => Nat.lt_of_lt_of_le (hXk c hc) hT.size
     clear hT hp hXk hsub hpb hps
     obtain ⟨p1, c1, rfl, -⟩ := id hki
     obtain ⟨p2, c2, rfl, -⟩ := id hkd
     refine WL_eff (OE_buildSlice (vs := [(0, .agg (rlC r.rul (.slice p1 r.rul.cnd.kids.length c1) (.slice p2 r.rul.due.kids.length c2)).toArray)]) rfl (buildSR1 _ _ _ _ _ _ _)) rfl ?_
     intro bv w4 hN
     have hbv : SlV (ob rv ++ X) w4 bv [r.rul] := hN.slvG (css := [rlC r.rul _ _]) hXk3 rfl rfl (by simp) (repsR1 ⟨_, _, rfl, hki, hkd⟩) (by simp [maxLen])
     have hT := NewSl.stp hN
     replace hp3 := hp3.up hT; replace hrow := hrow.up hT
     replace hm := hT.cell (by simp) hm
     replace hS := hS.trans (hT.mono (by simp))
     clear hT hN hki hkd
     have hls := hS.size
     refine WL_eff (OE_append (X := X) (base := w.heap.size) rfl (by decide) rfl rfl hrow hbv (by simp only [List.length_cons, List.length_nil, List.length_map]; omega) (by simp only [List.length_cons, List.length_nil, List.length_map, maxLen]; omega) hls) rfl ?_
     rintro rv' w5 ⟨hrow', hT, hown⟩
     have hown1 : ∀ c ∈ ob rv, w.heap.size ≤ c := fun c hc => (hrow.ob_le c hc).1
     have hn1 : (1 : Nat) ∉ ob rv := fun h => by have := hown1 _ h; have := block_lt_of_cell hm0; simp at this; omega
     replace hm := hT.cell hn1 hm
     replace hS := hS.own hT (fun c hc => .inr (hown1 c hc))
     replace hp3 : Pd w5 b tv l i2 o2 := by
      obtain ⟨g1, g2, g3, g4, g5⟩ := hp3
      exact ⟨g1.ext hT (fun h => by have := hown1 b h; omega), hs0.ext hS (fun c hc => hc) (fun c hc => .inl hc), g3, g4, g5⟩
     clear hT
     refine W ?_
     refine WQ_loop (f1, rs ++ [r], rv', i2, o2) ⟨rfl, rfl, trivial⟩ ⟨hR, by dsimp only; omega, by simp; omega, hp3, ?_, hm, hS⟩ (by dsimp only; omega)
     rw [List.map_append]
     exact hrow'
end Go.Proofs.YtgpibcgebpgmiaaGreatDoor
namespace Go.Eng
open Go Go.RowKit Go.Proofs
section
variable {P : Program} {n : Nat} {e : Env} {w : World} {d : Option Nat} {ty : TypeId} {pos : String} {af : Array Edge} {g : Option (Nat × Bool)}
theorem PR_conv {src dst : TypeId} {k k' : IntKind} {x : Operand} {a : Int} {D : TypeDesc} [hs : Und P src D] [hd : Und P dst (.int k)] (hx : ev e x = some (.int k' a)) :
 PR P n ⟨d, .convert src dst x, ty, pos, af, g⟩ e w (.int k (k.wrap a)) :=
 ⟨fun c ha => by
   have hk : P.intKind dst = k := by simp [Program.intKind, hd.h]
   have := run_convert_int (P := P) w src dst k' a (by rw [hs.h]; rfl) (by rw [hk]; exact hd.h)
   simp [execOp, ha.ev hx, this, hk]⟩
theorem PR_convTo {src dst : TypeId} {k k' : IntKind} {x : Operand} {a b : Int} {D : TypeDesc} [hs : Und P src D] [hd : Und P dst (.int k)] (hx : ev e x = some (.int k' a)) (hb : k.wrap a = b) :
 PR P n ⟨d, .convert src dst x, ty, pos, af, g⟩ e w (.int k b) := hb ▸ PR_conv hx
section
variable {x y : Operand} {t u : TypeId} {k : IntKind} {a b : Int}
theorem PR_and (hx : ev e x = some (.int k a)) (hy : ev e y = some (.int k b)) {r : Int} (hr : Go.bits .and k a b = r) : PR P n ⟨d, .binOp .and t x y u, ty, pos, af, g⟩ e w (.int k r) :=
 ⟨fun c ha => by simp only [execOp, ha.ev hx, ha.ev hy]; simp [go_sem, hr]⟩
theorem PR_or (hx : ev e x = some (.int k a)) (hy : ev e y = some (.int k b)) {r : Int} (hr : Go.bits .or k a b = r) : PR P n ⟨d, .binOp .or t x y u, ty, pos, af, g⟩ e w (.int k r) :=
 ⟨fun c ha => by simp only [execOp, ha.ev hx, ha.ev hy]; simp [go_sem, hr]⟩
theorem PR_xor (hx : ev e x = some (.int k a)) (hy : ev e y = some (.int k b)) {r : Int} (hr : Go.bits .xor k a b = r) : PR P n ⟨d, .binOp .xor t x y u, ty, pos, af, g⟩ e w (.int k r) :=
 ⟨fun c ha => by simp only [execOp, ha.ev hx, ha.ev hy]; simp [go_sem, hr]⟩
theorem PR_shl {yk : IntKind} {s : Nat} (hx : ev e x = some (.int k a)) (hy : ev e y = some (.int yk (s : Int))) (hs : s ≤ k.bits) {r : Int} (hr : k.wrap (a * 2 ^ s) = r) : PR P n ⟨d, .binOp .shl t x y u, ty, pos, af, g⟩ e w (.int k r) :=
 ⟨fun c ha => by
   have h := shift_shl k yk a (s : Int) (by omega) (by omega)
   rw [Int.toNat_natCast, hr] at h
   simp only [execOp, ha.ev hx, ha.ev hy]
   simp [go_sem, binOp, h]⟩
theorem PR_shr {yk : IntKind} {s : Nat} (hx : ev e x = some (.int k a)) (hy : ev e y = some (.int yk (s : Int))) (hs : s ≤ k.bits) {r : Int} (hr : a / 2 ^ s = r) : PR P n ⟨d, .binOp .shr t x y u, ty, pos, af, g⟩ e w (.int k r) :=
 ⟨fun c ha => by
   have h := shift_shr k yk a (s : Int) (by omega) (by omega)
   rw [Int.toNat_natCast, hr] at h
   simp only [execOp, ha.ev hx, ha.ev hy]
   simp [go_sem, binOp, h]⟩
end
theorem strCells_enc (s : Str) : Lib.strCells ⟨s.toArray⟩ = s.flatMap Flat.enc := by
 show s.map _ = _
 induction s with
 | nil => rfl
 | cons b s ih => rw [List.map_cons, ih, List.flatMap_cons]; rfl
theorem append_blockT {t tu T base : Nat} {i : TypeInfo} (ht : P.underlying t = some (.slice T)) (hu : P.underlying tu = some .string) (hi : P.info? T = some i) (hz : i.zero = some (.int .u8 0))
 (hsize : i.size = 1) (hby : i.bytes = 1) {v : Value} {m : Nat} {xs : List Value} (hown : w.ownsRow base T 1 v m xs) (s : ByteArray) (hlen : m + s.size ≤ 140737488355328) {v' : Value} {w' : World}
 (hr : (Builtin.append_ #[t, tu] ty #[v, .string s]).run P w = .ok v' w') : ∀ b ∈ ob v', b ∈ ob v ∨ w.heap.size ≤ b := by
 have hxl : xs.length = m := by simpa using hown.1
 rcases hown.2 with ⟨rfl, rfl⟩ | ⟨g, cap, cur, rfl, hbg, hg, hnc, hcm, hcs, htake⟩
 · by_cases hm : s.size = 0
   · have hf := Lib.run_firstCells_string (P := P) w 1 s
     rw [hm] at hf
     have : (Builtin.append_ #[t, tu] ty #[.slice none 0 0, .string s]).run P w = .ok (.slice none 0 0) w := by
      simp [Builtin.append_, run_underlying ht, run_underlying hu, sizeOf, typeInfo, hi, hsize, Builtin.lenOf, hm, hf]
     rw [this] at hr
     cases hr
     simp [ob]
   · have h := run_append_nil_string (P := P) w t tu ty T i (.int .u8 0) ht hu hi hz s (by omega) (by omega) (by rw [hby]; omega)
     rw [h] at hr
     cases hr
     simp [ob]
 · by_cases hroom : m + s.size ≤ cap
   · have hcs' : cur.size = cap := by simpa using hcs
     have h := Lib.run_append_room_string (P := P) w t tu ty T i ht hu hi hsize g m cap cur hg s hroom (by omega)
     rw [h] at hr
     cases hr
     simp [ob]
   · have holds : ∀ j u, xs[j]? = some u → w.cell? ((⟨g, 0, none⟩ : Addr).add j) = some u := hown.cells (g := g) rfl
     have h := Lib.run_append_grow_string (P := P) w t tu ty T i (.int .u8 0) ht hu hi hz ⟨g, 0, none⟩ m cap xs (by rw [hsize]; simpa using hxl) holds s (by omega) (by omega) (by rw [hby]; exact growslice_fits (by omega) (by omega))
     rw [h] at hr
     cases hr
     simp [ob]
theorem OE_appendT {t tu T base : Nat} {X : List Nat} {x y : Operand} {v : Value} {xs : List UInt8} {s : Str} [ht : Und P t (.slice T)] [hu : Und P tu .string] [hk : Siz P T 1] [hb : Byt P T 1] [hz : Zer P T (.int .u8 0)]
 (hx : ev e x = some v) (hy : ev e y = some (str s)) (hrow : Row X w base T v xs) (hlen : xs.length + s.length ≤ 140737488355328) (hbase : base ≤ w.heap.size) :
 OE P n ⟨d, .call { callee := .builtin .append, args := #[x, y], argTypes := #[t, tu] }, ty, pos, af, g⟩ e w (fun v' w' => Row X w' base T v' (xs ++ s) ∧ Stp (ob v) w w' ∧ ∀ b ∈ ob v', b ∈ ob v ∨ w.heap.size ≤ b) := by
 obtain ⟨i, hi, hi1, hi2, hi3⟩ : ∃ i, P.info? T = some i ∧ i.size = 1 ∧ i.bytes = 1 ∧ i.zero = some (.int .u8 0) := by
  have a1 := hk.h
  have a2 := hb.h
  have a3 := hz.h
  cases hi : P.info? T with
  | none => simp [hi] at a1
  | some i => exact ⟨i, rfl, by simpa [hi] using a1, by simpa [hi] using a2, by simpa [hi] using a3⟩
 obtain ⟨css, hl, hr, ho⟩ := hrow
 have hcss : css = xs.map Flat.enc := by
  apply List.ext_getElem (by simp [hl])
  intro i h1 h2
  have : css[i] = Flat.enc xs[i] := hr i (by omega) h1
  simpa using this
 subst hcss
 have hsz : (⟨s.toArray⟩ : ByteArray).size = s.length := str_size s
 obtain ⟨v', w', hrun, h1, h2, h3⟩ := Lib.run_append_own_string (P := P) w base t tu ty T i ht.h hu.h hi hi3 hi1 hi2 v xs.length _ ho ⟨s.toArray⟩ (by rw [hsz]; unfold maxLen; omega) (by rw [hsz]; omega) hbase
 rw [hsz, strCells_enc] at h1
 have hblk := append_blockT (P := P) ht.h hu.h hi hi3 hi1 hi2 ho ⟨s.toArray⟩ (by rw [hsz]; exact hlen) hrun
 have hS : Stp (ob v) w w' := by rw [← ob_own]; exact Stp.of_grown h2
 refine OE_value (v := v') (w' := w') (fun a ha => ?_) ⟨⟨(xs ++ s).map Flat.enc, by simp, fun i hi hi' => (List.getElem_map _ : ((xs ++ s).map Flat.enc)[i] = Flat.enc (xs ++ s)[i]), ?_⟩, hS, hblk⟩
 · simp [execOp, resolve, invoke, builtin, ha.ev hx, ha.ev hy, hrun]
 · have e1 : ((xs ++ s).map Flat.enc).flatten = (xs.map Flat.enc).flatten ++ s.flatMap Flat.enc := by rw [List.map_append, List.flatten_append, List.flatMap_def]
   rw [e1, List.length_append]
   exact h1
theorem PR_eqlNil {t u el : TypeId} {x y : Operand} {p : Option Addr} {l c : Nat} [hu : Und P t (.slice el)] (hx : ev e x = some (.slice p l c)) (hy : ev e y = some (.slice none 0 0)) :
 PR P n ⟨d, .binOp .eql t x y u, ty, pos, af, g⟩ e w (.bool p.isNone) :=
 ⟨fun a ha => by
   have h := run_equal_slice_nil (P := P) w t el p l c hu.h
   simp only [execOp, ha.ev hx, ha.ev hy]
   simp [go_sem, binOp, h]⟩
theorem PR_convB {src dst el : TypeId} {x : Operand} {v : Value} {X : List Nat} {xs : List UInt8} [hs : Und P src (.slice el)] [hd : Und P dst .string] [he : Und P el (.int .u8)] (hx : ev e x = some v) (hv : SlV X w v xs) :
 PR P n ⟨d, .convert src dst x, ty, pos, af, g⟩ e w (str xs) := by
 obtain ⟨p, c, rfl, hl, hm, hn, hc⟩ := hv
 refine ⟨fun a ha => ?_⟩
 have key : (convert src dst (.slice p xs.length c)).run P w = .ok (str xs) w := by
  cases p with
  | none =>
    have hx0 : xs = [] := by
     cases xs with
     | nil => rfl
     | cons b r =>
       obtain ⟨_, _, _, h, _⟩ := hc 0 (by simp)
       cases h
    subst hx0
    have := run_convert_bytes_nil (P := P) w src el hs.h he.h 0 c dst hd.h
    rw [List.length_nil, this]
    rfl
  | some a =>
    by_cases hx0 : xs = []
    · subst hx0
      have hl0 : (loadCells a 0).run P w = .ok ((([] : List Int).map (Value.int .u8)).toArray) w := by simp [loadCells, loadCellsFrom]
      have h2 := run_bytesToString (P := P) w a 0 c [] hl0
      rw [List.length_nil, run_convert_bytes_string w src dst el _ 0 c hs.h he.h hd.h, h2]
      rfl
    · have h0 : 0 < xs.length := List.length_pos_iff.2 hx0
      obtain ⟨b, o, cs, hp, _⟩ := hc 0 h0
      simp only [Option.some.injEq] at hp
      subst hp
      have h2 := run_convert_bytes_arg (P := P) w src el hs.h he.h b o xs.length c (xs.map fun x => (x.toNat : Int)) (by simp) (fun i hi => by
       obtain ⟨b', o', cs', hp', _, _, hr, hcell⟩ := hc i hi
       simp only [Option.some.injEq, Addr.mk.injEq, and_true] at hp'
       obtain ⟨rfl, rfl⟩ := hp'
       have hr' : cs' = Flat.enc xs[i] := hr
       subst hr'
       have := hcell 0 (.int .u8 (xs[i].toNat : Int)) rfl
       rw [show o + i * GoRep.k UInt8 + 0 = o + i by show o + i * 1 + 0 = o + i; omega] at this
       rw [this]
       simp [List.getD, List.getElem?_eq_getElem hi]) dst hd.h
      rw [h2]
      congr 2
      simp only [strOfNums, List.map_map]
      congr 2
      conv => rhs; rw [← List.map_id xs]
      apply List.map_congr_left
      intro x _
      simp
 simp [execOp, ha.ev hx, key]
end
end Go.Eng
namespace Go.Proofs.YtgpibcgebpgmiaaGreatDoor
open Go Go.Eng Go.RowKit Go.Proofs
def lengthsL : List Int := [0, 31, 28, 31, 30, 31, 30, 31, 31, 30, 31, 30, 31]
def LenG (w : World) : Prop := ∀ i u, lengthsL[i]? = some u → w.cell? ⟨5, i, none⟩ = some (.int .i64 u)
theorem LenG.ext {S : List Nat} {w w' : World} (h : LenG w) (hS : Stp S w w') (hb : 5 ∉ S) : LenG w' := fun i u hu => hS.cell hb (h i u hu)
theorem LenG.up {w w' : World} (h : LenG w) (hS : Stp [] w w') : LenG w' := h.ext hS (by simp)
theorem Leap_any (y : Int) (w : World) (h0 : 0 ≤ y) (h1 : y ≤ 100000) : Calls Tryz.prog 232 #[.int .i64 y] w (Ret fun r w' => r = .bool (leapM y) ∧ w' = w) := by
 unfold leapM
 refine calls_of_WC1 (n := 16) Tryz.func232 rfl rfl rfl ?_
 repeat' (first | refine W1 ?_ | (exfalso; omega) | (refine VG ?_ ?_ <;> intro hg) | (refine VC ?_ ?_ <;> intro hc))
 all_goals refine WR ?_
 all_goals refine .mk ⟨?_, rfl⟩
 all_goals congr 1
 all_goals (first | done | (rw [Bool.eq_iff_iff]; simp; omega) | (simp [*]))
theorem Length_any (y m : Int) (w : World) (hL : LenG w) (h0 : 0 ≤ y) (h1 : y ≤ 100000) : Calls Tryz.prog 227 #[.int .i64 y, .int .i64 m] w (Ret fun r w' => r = .int .i64 (lengthM y m) ∧ w' = w) := by
 unfold lengthM
 refine calls_of_WC2 (n := 22) Tryz.func227 rfl rfl rfl ?_
 by_cases hm : m < 1 ∨ 12 < m
 · rw [if_pos hm]
   repeat' (first | refine W1 ?_ | (exfalso; omega) | (refine VG ?_ ?_ <;> intro hg) | (refine VC ?_ ?_ <;> intro hc))
   all_goals refine WR ?_
   all_goals exact .mk ⟨rfl, rfl⟩
 · rw [if_neg hm]
   obtain ⟨k, rfl⟩ : ∃ k : Nat, m = (k : Int) := ⟨m.toNat, by omega⟩
   have hk : k < 13 := by omega
   have hcell : w.cell? ⟨5, 0 + k * 1, none⟩ = some (.int .i64 (lengthsL.getD k 0)) := hL _ _ (by
    have : k < lengthsL.length := hk
    simp [List.getD, this])
   by_cases h2 : (k : Int) = 2
   · rw [if_pos h2]
     repeat' (first | refine W1 ?_ | (exfalso; omega) | (refine VG ?_ ?_ <;> intro hg) | (refine VC ?_ ?_ <;> intro hc))
     refine CL rfl (evs1 rfl) rfl (Leap_any y _ h0 h1) ?_
     rintro _ _ ⟨rfl, rfl⟩
     cases hl : leapM y
     · refine W ?_
       refine WL_pure (PR_load1 rfl rfl hcell) rfl ?_
       refine W ?_
       refine WR ?_
       obtain rfl : k = 2 := by omega
       exact .mk ⟨rfl, rfl⟩
     · refine W ?_
       refine WR ?_
       exact .mk ⟨rfl, rfl⟩
   · rw [if_neg h2]
     repeat' (first | refine W1 ?_ | (exfalso; omega) | (refine VG ?_ ?_ <;> intro hg) | (refine VC ?_ ?_ <;> intro hc))
     refine WL_pure (PR_load1 rfl rfl hcell) rfl ?_
     refine W ?_
     refine WR ?_
     refine .mk ⟨?_, rfl⟩
     congr 1
     have : k = 1 ∨ k = 3 ∨ k = 4 ∨ k = 5 ∨ k = 6 ∨ k = 7 ∨ k = 8 ∨ k = 9 ∨ k = 10 ∨ k = 11 ∨ k = 12 := by omega
     rcases this with rfl | rfl | rfl | rfl | rfl | rfl | rfl | rfl | rfl | rfl | rfl <;> rfl
abbrev datV (y m d : Int) : Value := .agg #[.int .i64 y, .int .i64 m, .int .i64 d]
def badD (y m d : Int) : Prop := y < 1 ∨ 9999 < y ∨ m < 1 ∨ 12 < m ∨ d < 1 ∨ lengthM y m < d
instance (y m d : Int) : Decidable (badD y m d) := by unfold badD; infer_instance
theorem DCheck_any (y m d : Int) (w : World) (hL : LenG w) : Calls Tryz.prog 216 #[datV y m d] w (Ret fun r w' => r = .int .i64 (if badD y m d then 5 else 0) ∧ Stp [] w w') := by
 refine calls_of_WC1 (n := 36) Tryz.func216 rfl rfl rfl ?_
 refine W ?_
 refine WL_eff (OE_box rfl) rfl ?_
 rintro _ w1 ⟨b, rfl, hb, hblk, hS⟩
 replace hblk : Blk w1 b 134 [.int .i64 y, .int .i64 m, .int .i64 d] := hblk
 replace hL := hL.up hS
 refine W ?_
 refine WC_drawn 33 [] [] [(0, 0), (1, 1), (2, 0), (3, 0), (4, 0), (5, 1), (6, 0), (7, 0), (8, 0), (9, 0), (10, 1), (11, 0), (12, 0), (13, 0), (14, 0), (15, 1), (16, 0), (17, 0), (18, 0), (19, 0), (20, 1), (21, 0), (22, 0), (23, 0), (24, 0), (25, 1), (26, 0), (27, 1), (28, 0), (29, 1), (30, 2), (31, 0), (32, 0)] rfl mixed (by kernel_rfl) (by kernel_rfl) (by kernel_rfl) (fun w1 hS1 => ?_)
 replace hblk := hblk.up hS1
 replace hL := hL.up hS1
 replace hS := hS.trans hS1
 clear hS1
 by_cases hg : y < 1 ∨ 9999 < y ∨ m < 1 ∨ 12 < m ∨ d < 1
 · have hbad : badD y m d := by unfold badD; omega
   rw [if_pos hbad]
   repeat' (first | refine D1 ?_ | (exfalso; omega) | refine WD_splitN rfl rfl rfl rfl (fun hg => ?_) (fun hg => ?_) | (refine WD_splitBN rfl rfl rfl rfl (fun hg => ?_) (fun hg => ?_) <;> refine D1 ?_) | fail)
   all_goals repeat' (first | refine W1 ?_ | (exfalso; omega) | (refine VG ?_ ?_ <;> intro hg) | (refine VC ?_ ?_ <;> intro hc))
   all_goals refine WR ?_
   all_goals exact .mk ⟨rfl, hS⟩
 · repeat' (first | refine D1 ?_ | (exfalso; omega) | refine WD_splitN rfl rfl rfl rfl (fun hg => ?_) (fun hg => ?_) | (refine WD_splitBN rfl rfl rfl rfl (fun hg => ?_) (fun hg => ?_) <;> refine D1 ?_) | fail)
   refine WD_eff rfl rfl (OE_call rfl (evs2 rfl rfl) (Length_any y m _ hL (by omega) (by omega))) (fun _ _ h => by rw [h.2]; exact Stp.refl _ _) rfl ?_
   rintro _ w3 ⟨rfl, rfl⟩
   repeat' (first | refine D1 ?_ | (exfalso; omega) | refine WD_splitN rfl rfl rfl rfl (fun hg => ?_) (fun hg => ?_) | (refine WD_splitBN rfl rfl rfl rfl (fun hg => ?_) (fun hg => ?_) <;> refine D1 ?_) | fail)
   all_goals repeat' (first | refine W1 ?_ | (exfalso; omega) | (refine VG ?_ ?_ <;> intro hg) | (refine VC ?_ ?_ <;> intro hc))
   · refine WR ?_
     exact .mk ⟨by rw [if_pos (by unfold badD; omega)], hS⟩
   · refine WR ?_
     exact .mk ⟨by rw [if_neg (by unfold badD; omega)], hS⟩
theorem number_any (y m d : Int) (w : World) (hy : 0 ≤ y) (hy2 : y ≤ 100000) (hm : 1 ≤ m) (hm2 : m ≤ 12) (hd : 0 ≤ d) (hd2 : d ≤ 100000) (h1 : m - 3 < 0 → 1 ≤ y) : Calls Tryz.prog 217 #[datV y m d] w (Ret fun r w' => r = .int .i64 (dayM y m d) ∧ Stp [] w w') := by
 refine calls_of_WC1 (n := 36) Tryz.func217 rfl rfl rfl ?_
 refine W ?_
 refine WL_eff (OE_box rfl) rfl ?_
 rintro _ w1 ⟨b, rfl, hb, hblk, hS⟩
 replace hblk : Blk w1 b 134 [.int .i64 y, .int .i64 m, .int .i64 d] := hblk
 refine W ?_
 refine WC_drawn 7 [] [] [(0, 0), (1, 1), (2, 0), (3, 1), (4, 0), (5, 0), (6, 0)] rfl mixed (by kernel_rfl) (by kernel_rfl) (by kernel_rfl) (fun w1 hS1 => ?_)
 replace hblk := hblk.up hS1
 replace hS := hS.trans hS1
 clear hS1
 refine D ?_
 repeat' (first | refine W1 ?_ | (exfalso; omega) | (refine VG ?_ ?_ <;> intro hg) | (refine VC ?_ ?_ <;> intro hc))
 all_goals refine WR ?_
 all_goals refine .mk ⟨?_, hS⟩
 all_goals unfold dayM
 · rw [if_pos (by assumption)]
   congr 1
   dsimp only
   omega
 · rw [if_neg (by assumption)]
theorem DDay_any (y m d : Int) (w : World) (hL : LenG w) : Calls Tryz.prog 196 #[datV y m d] w (Ret fun r w' => r = .tuple #[.int .i64 (if badD y m d then 0 else dayM y m d), .int .i64 (if badD y m d then 5 else 0)] ∧ Stp [] w w') := by
 refine calls_of_WC1 (n := 12) Tryz.func196 rfl rfl rfl ?_
 refine W ?_
 refine WL_eff (OE_box rfl) rfl ?_
 rintro _ w1 ⟨b, rfl, hb, hblk, hS⟩
 replace hblk : Blk w1 b 134 [.int .i64 y, .int .i64 m, .int .i64 d] := hblk
 replace hL := hL.up hS
 refine W ?_
 refine CL rfl (evs1 rfl) rfl (DCheck_any y m d _ hL) ?_
 rintro _ w2 ⟨rfl, hT⟩
 replace hblk := hblk.up hT
 replace hS := hS.trans hT
 clear hT
 by_cases hbad : badD y m d
 · rw [if_pos hbad, if_pos hbad]
   refine W ?_
   refine WR ?_
   exact .mk ⟨rfl, hS⟩
 · rw [if_neg hbad, if_neg hbad]
   refine W ?_
   have h31 := lengthM_le y m
   unfold badD at hbad
   refine CL rfl (evs1 rfl) rfl (number_any y m d _ (by omega) (by omega) (by omega) (by omega) (by omega) (by omega) (by omega)) ?_
   rintro _ w3 ⟨rfl, hT⟩
   refine W ?_
   refine WR ?_
   exact .mk ⟨rfl, hS.trans hT⟩
end Go.Proofs.YtgpibcgebpgmiaaGreatDoor
namespace Go.Eng
open Go Go.RowKit Go.Proofs
def numZ (s : Str) : Int := s.foldl (fun n c => 10 * n + (c.toNat : Int) - 48) 0
theorem numZ_app (a : Str) (c : UInt8) : numZ (a ++ [c]) = 10 * numZ a + (c.toNat : Int) - 48 := by simp [numZ, List.foldl_append]
theorem numZ_dig {s : Str} (h : s.all digB = true) : numZ s = (decN s : Int) := by
 have key : ∀ (s : Str) (z : Int) (n : Nat), z = (n : Int) → s.all digB = true → s.foldl (fun n c => 10 * n + (c.toNat : Int) - 48) z = ((s.foldl (fun n c => 10 * n + (c.toNat - 48)) n : Nat) : Int) := by
  intro s
  induction s with
  | nil => intro z n hz _; exact hz
  | cons c r ih =>
    intro z n hz h
    simp only [List.all_cons, Bool.and_eq_true] at h
    have hc : 48 ≤ c.toNat ∧ c.toNat ≤ 57 := by simpa [digB] using h.1
    exact ih _ _ (by dsimp only; omega) h.2
 exact key s 0 0 rfl h
def bndZ : Nat → Int
 | 0 => 0
 | k + 1 => 10 * bndZ k + 300
theorem numZ_bnd : ∀ (k : Nat) (s : Str), s.length = k → -bndZ k ≤ numZ s ∧ numZ s ≤ bndZ k
 | 0, s, h => by
   have : s = [] := List.length_eq_zero_iff.1 h
   subst this
   simp [numZ, bndZ]
 | k + 1, s, h => by
   have hne : s ≠ [] := by rintro rfl; simp at h
   obtain ⟨a, c, rfl⟩ : ∃ a c, s = a ++ [c] := ⟨s.dropLast, s.getLast hne, (List.dropLast_concat_getLast hne).symm⟩
   have ih := numZ_bnd k a (by simpa using h)
   have hc := c.toNat_lt
   rw [numZ_app]
   simp only [bndZ]
   omega
theorem bndZ_le {k : Nat} (h : k ≤ 4) : bndZ k ≤ 400000 := by
 have : k = 0 ∨ k = 1 ∨ k = 2 ∨ k = 3 ∨ k = 4 := by omega
 rcases this with rfl | rfl | rfl | rfl | rfl <;> decide
end Go.Eng
namespace Go.Proofs.YtgpibcgebpgmiaaGreatDoor
open Go Go.Eng Go.RowKit Go.Proofs
theorem part_any (s : Str) (f u bs be : Nat) (e0 : Int) (w : World) (hfu : f ≤ u) (hu : u ≤ s.length) (h4 : u ≤ f + 4) (hne : bs ≠ be) (hs : Blk w bs 9 [str s]) (he : Blk w be 24 [.int .i64 e0]) :
 Calls Tryz.prog 195 #[.int .i64 (f : Int), .int .i64 (u : Int), .pointer (some ⟨bs, 0, none⟩), .pointer (some ⟨be, 0, none⟩)] w
  (Ret fun r w' => r = .int .i64 (numZ ((s.take u).drop f)) ∧ Blk w' bs 9 [str s] ∧ Blk w' be 24 [.int .i64 (if ((s.take u).drop f).all digB then e0 else 7)] ∧ Stp [be] w w') := by
 refine calls_of_WC4 (n := 34) Tryz.func195 rfl rfl rfl ?_
 refine W ?_
 refine WL_sliceT_lh rfl rfl rfl rfl rfl hfu hu rfl ?_
 have hlen : ((s.take u).drop f).length = u - f := by simp; omega
 generalize (s.take u).drop f = t at *
 refine WL_eff (OE_convS rfl (by omega)) rfl ?_
 rintro bv w1 ⟨hb, hS⟩
 have hlb : be < w.heap.size := he.lt
 have hbv := hb [be] (by simpa using hlb)
 clear hb
 replace hs := hs.up hS
 replace he := he.up hS
 replace hS := hS.mono (S' := [be]) (by simp)
 refine W ?_
 refine WC_loop (σ := Nat) (fun q => [(2, .pointer (some ⟨bs, 0, none⟩)), (3, .pointer (some ⟨be, 0, none⟩)), (7, .int .i64 (numZ (t.take q))), (14, bv), (15, .int .i64 (t.length : Int)), (16, .int .i64 (q : Int))])
  (fun q w' => q ≤ t.length ∧ SlV [be] w' bv t ∧ Blk w' bs 9 [str s] ∧ Blk w' be 24 [.int .i64 (if (t.take q).all digB then e0 else 7)] ∧ Stp [be] w w')
  (fun q => t.length - q) 0 ⟨rfl, rfl, rfl, rfl, rfl, rfl, trivial⟩ ⟨Nat.zero_le _, hbv, hs, he, hS⟩ ?_
 clear hbv hs he hS
 rintro q w2 ⟨hq, hbv, hs, he, hS⟩
 have hbn := numZ_bnd q (t.take q) (by simp; omega)
 have hb4 := bndZ_le (k := q) (by omega)
 by_cases hlt : q < t.length
 · have htk : t.take (q + 1) = t.take q ++ [t[q]] := (List.take_append_getElem hlt).symm
   have hc := (t[q]).toNat_lt
   have hdg : digB t[q] = true ↔ 48 ≤ (t[q]).toNat ∧ (t[q]).toNat ≤ 57 := by simp [digB]
   have fin : ∀ w3, SlV [be] w3 bv t → Blk w3 bs 9 [str s] → Blk w3 be 24 [.int .i64 (if digB t[q] = true then (if (t.take q).all digB then e0 else 7) else 7)] → Stp [be] w w3 →
    (q + 1 ≤ t.length ∧ SlV [be] w3 bv t ∧ Blk w3 bs 9 [str s] ∧ Blk w3 be 24 [.int .i64 (if (t.take (q + 1)).all digB then e0 else 7)] ∧ Stp [be] w w3) := by
    intro w3 h1 h2 h3 h4
    refine ⟨hlt, h1, h2, ?_, h4⟩
    rw [htk]
    have : ((t.take q ++ [t[q]]).all digB) = ((t.take q).all digB && digB t[q]) := by rw [List.all_append]; simp only [List.all_cons, List.all_nil, Bool.and_true]
    rw [this]
    by_cases hd : digB t[q] = true
    · rw [if_pos hd] at h3
      rw [hd, Bool.and_true]
      exact h3
    · rw [if_neg hd] at h3
      rw [Bool.not_eq_true] at hd
      rw [hd, Bool.and_false]
      exact h3
   by_cases hd : digB t[q] = true
   · have hd' := hdg.1 hd
     repeat' (first | refine W1 ?_ | (exfalso; omega) | (refine VG ?_ ?_ <;> intro hg) | (refine VC ?_ ?_ <;> intro hc))
     refine WL_pure (PR_convTo (b := ((t[q]).toNat : Int)) rfl (wrap_i64_of (by unfold I64; omega))) rfl ?_
     refine W ?_
     refine WQ_loop (q + 1) ⟨rfl, rfl, ?_, rfl, rfl, rfl, trivial⟩ (fin _ hbv hs (by rw [if_pos hd]; exact he) hS) (by omega)
     rw [htk, numZ_app]
     rfl
   · have hd' : (t[q]).toNat < 48 ∨ 57 < (t[q]).toNat := by
      rcases Nat.lt_or_ge (t[q]).toNat 48 with h | h
      · exact .inl h
      · rcases Nat.lt_or_ge 57 (t[q]).toNat with h' | h'
        · exact .inr h'
        · exact absurd (hdg.2 ⟨h, h'⟩) hd
     repeat' (first | refine W1 ?_ | (exfalso; omega) | (refine VG ?_ ?_ <;> intro hg) | (refine VC ?_ ?_ <;> intro hc))
     all_goals
      refine WL_eff0 (OE_storeA (us := [.int .i64 7]) rfl rfl rfl rfl (by simp; rfl) he rfl) ?_
      rintro _ w3 ⟨hT, he3⟩
      refine W ?_
      refine WL_pure (PR_convTo (b := ((t[q]).toNat : Int)) rfl (wrap_i64_of (by unfold I64; omega))) rfl ?_
      refine W ?_
      refine WQ_loop (q + 1) ⟨rfl, rfl, ?_, rfl, rfl, rfl, trivial⟩ (fin _ (hbv.ext hT (fun _ h => h) (fun _ h => .inl h)) (hs.ext hT (by simpa using hne)) (by rw [if_neg hd]; exact he3) (hS.trans hT)) (by omega)
      rw [htk, numZ_app]
      rfl
 · have : q = t.length := by omega
   subst this
   rw [List.take_length] at *
   repeat' (first | refine W1 ?_ | (exfalso; omega) | (refine VG ?_ ?_ <;> intro hg) | (refine VC ?_ ?_ <;> intro hc))
   refine WR ?_
   exact .mk ⟨rfl, hs, he, hS⟩
theorem buildDt (y m d : Int) (w : World) : (Instr.build 134 #[(0, .int .i64 y), (1, .int .i64 m), (2, .int .i64 d)]).run Tryz.prog w = .ok (datV y m d) w := by kernel_rfl
theorem DParse_any (s : Str) (w : World) (hL : LenG w) (hl : s.length = 10) : Calls Tryz.prog 160 #[str s] w (Ret fun r w' => r = .tuple #[.int .i64 (dateP s).1, .int .i64 (dateP s).2] ∧ Stp [] w w') := by
 have h5 : 5 < w.heap.size := by have := block_lt_of_cell (hL 0 0 rfl); simpa using this
 refine calls_of_WC1 (n := 35) Tryz.func160 rfl rfl rfl ?_
 refine W ?_
 refine WL_eff (OE_box rfl) rfl ?_
 rintro _ w1 ⟨bs, rfl, hbs, es, hS⟩
 replace es : Blk w1 bs 9 [str s] := es
 replace hL := hL.up hS
 have b45 : ∀ i, i < 10 → (byte s i = 45 ↔ s.getD i 0 = 45) := fun i hi => by
  unfold byte
  constructor
  · intro h
    have h45 : (45 : UInt8).toNat = 45 := rfl
    have : (s.getD i 0).toNat = (45 : UInt8).toNat := by omega
    exact UInt8.toNat_inj.1 this
  · intro h
    rw [h]
    rfl
 by_cases h45 : byte s 4 = 45 ∧ byte s 7 = 45
 · obtain ⟨h4, h7⟩ := h45
   repeat' (first | refine W1 ?_ | (exfalso; omega) | (refine VG ?_ ?_ <;> intro hg) | (refine VC ?_ ?_ <;> intro hc))
   refine WL_indexT (i := 4) rfl rfl rfl (by omega) rfl ?_
   repeat' (first | refine W1 ?_ | (exfalso; omega) | (refine VG ?_ ?_ <;> intro hg) | (refine VC ?_ ?_ <;> intro hc))
   refine WL_indexT (i := 7) rfl rfl rfl (by omega) rfl ?_
   repeat' (first | refine W1 ?_ | (exfalso; omega) | (refine VG ?_ ?_ <;> intro hg) | (refine VC ?_ ?_ <;> intro hc))
   refine WL_eff OE_alloc rfl ?_
   rintro _ w2 ⟨be, rfl, hbe, ee, hT⟩
   have nbe : bs ≠ be := by have := es.lt; omega
   replace es := es.up hT
   refine WL_eff0 (OE_storeA (us := [.int .i64 0]) rfl rfl rfl rfl (by simp; rfl) ee rfl) ?_
   rintro _ w3 ⟨hT2, ee'⟩
   have hbew : w.heap.size ≤ be := Nat.le_trans hS.size hbe
   replace es := es.ext hT2 (by simpa using nbe)
   replace hT := hT.own hT2 (fun c hc => .inr (by simp at hc; omega))
   replace hL := hL.up hT
   replace hS := hS.trans hT
   clear hT hT2 ee hbe
   refine W ?_
   refine WL_eff (OE_callC rfl (evs2 rfl rfl) rfl (part_any s 0 4 bs be 0 _ (by omega) (by omega) (by omega) nbe es ee')) rfl ?_
   rintro _ w4 ⟨rfl, es4, ee4, hT⟩
   replace hL := hL.ext hT (by simp only [List.mem_singleton]; omega)
   replace hS := hS.own hT (fun c hc => .inr (by simp at hc; omega))
   clear hT
   refine W ?_
   refine WL_eff (OE_callC rfl (evs2 rfl rfl) rfl (part_any s 5 7 bs be _ _ (by omega) (by omega) (by omega) nbe es4 ee4)) rfl ?_
   rintro _ w5 ⟨rfl, es5, ee5, hT⟩
   replace hL := hL.ext hT (by simp only [List.mem_singleton]; omega)
   replace hS := hS.own hT (fun c hc => .inr (by simp at hc; omega))
   clear hT es4 ee4
   refine W ?_
   refine WL_eff (OE_callC rfl (evs2 rfl rfl) rfl (part_any s 8 10 bs be _ _ (by omega) (by omega) (by omega) nbe es5 ee5)) rfl ?_
   rintro _ w6 ⟨rfl, es6, ee6, hT⟩
   replace hL := hL.ext hT (by simp only [List.mem_singleton]; omega)
   replace hS := hS.own hT (fun c hc => .inr (by simp at hc; omega))
   clear hT es5 ee5
   have e0 : (s.take 4).drop 0 = s.take 4 := rfl
   have e1 : (s.take 7).drop 5 = (s.drop 5).take 2 := by rw [List.drop_take]
   have e2 : (s.take 10).drop 8 = s.drop 8 := by rw [List.take_of_length_le (by omega)]
   rw [e0, e1, e2] at ee6
   rw [e0, e1, e2]
   refine WL_build (vs := [(0, .int .i64 (numZ (s.take 4))), (1, .int .i64 (numZ ((s.drop 5).take 2))), (2, .int .i64 (numZ (s.drop 8)))]) rfl (buildDt _ _ _) rfl ?_
   refine WL_eff OE_alloc rfl ?_
   rintro _ w7 ⟨bd, rfl, hbd, ed, hT⟩
   have nbd : be ≠ bd := by have := ee6.lt; omega
   replace ee6 := ee6.up hT
   refine WL_eff0 (OE_storeA (us := [.int .i64 (numZ (s.take 4)), .int .i64 (numZ ((s.drop 5).take 2)), .int .i64 (numZ (s.drop 8))]) rfl rfl rfl rfl (by intro c hc; simp at hc; rcases hc with rfl | rfl | rfl <;> rfl) ed rfl) ?_
   rintro _ w8 ⟨hT2, ed'⟩
   replace ee6 := ee6.ext hT2 (by simpa using nbd)
   replace hT := hT.own hT2 (fun c hc => .inr (by simp at hc; omega))
   replace hL := hL.up hT
   replace hS := hS.trans hT
   clear hT hT2 ed hbd es6
   by_cases hall : (s.take 4).all digB = true ∧ ((s.drop 5).take 2).all digB = true ∧ (s.drop 8).all digB = true
   · obtain ⟨a1, a2, a3⟩ := hall
     have hP : dateP s = (let y : Int := decN (s.take 4); let m : Int := decN ((s.drop 5).take 2); let d : Int := decN (s.drop 8); if badD y m d then (0, 5) else (dayM y m d, 0)) := by
      unfold dateP
      rw [if_pos ⟨hl, (b45 4 (by omega)).1 h4, (b45 7 (by omega)).1 h7, a1, a2, a3⟩]
      rfl
     rw [if_pos a1, if_pos a2, if_pos a3] at ee6
     rw [numZ_dig a1, numZ_dig a2, numZ_dig a3] at ed'
     refine W ?_
     refine CL rfl (evs1 rfl) rfl (DDay_any _ _ _ _ hL) ?_
     rintro _ w9 ⟨rfl, hT⟩
     replace hS := hS.trans hT
     refine W ?_
     refine WR ?_
     refine .mk ⟨?_, hS⟩
     rw [hP]
     dsimp only
     split <;> rfl
   · have hP : dateP s = (0, 7) := by
      unfold dateP
      rw [if_neg (fun h => hall h.2.2.2)]
     have hE : (if (s.drop 8).all digB = true then (if ((s.drop 5).take 2).all digB = true then (if (s.take 4).all digB = true then (0 : Int) else 7) else 7) else 7) = 7 := by
      by_cases g3 : (s.drop 8).all digB = true
      · rw [if_pos g3]
        by_cases g2 : ((s.drop 5).take 2).all digB = true
        · rw [if_pos g2]
          by_cases g1 : (s.take 4).all digB = true
          · exact absurd ⟨g1, g2, g3⟩ hall
          · rw [if_neg g1]
        · rw [if_neg g2]
      · rw [if_neg g3]
     rw [hE] at ee6
     refine W ?_
     refine WC_drawn 3 [] [] [(0, 1), (1, 0), (2, 0)] rfl mixed (by kernel_rfl) (by kernel_rfl) (by kernel_rfl) (fun w1 hS1 => ?_)
     replace ee6 := ee6.up hS1
     replace hS := hS.trans hS1
     refine D ?_
     refine W ?_
     refine WR ?_
     rw [hP]
     exact .mk ⟨rfl, hS⟩
 · have hP : dateP s = (0, 7) := by
    unfold dateP
    rw [if_neg (fun h => h45 ⟨(b45 4 (by omega)).2 h.2.1, (b45 7 (by omega)).2 h.2.2.1⟩)]
   by_cases h4 : byte s 4 = 45
   · have h7 : ¬ byte s 7 = 45 := fun h => h45 ⟨h4, h⟩
     repeat' (first | refine W1 ?_ | (exfalso; omega) | (refine VG ?_ ?_ <;> intro hg) | (refine VC ?_ ?_ <;> intro hc))
     refine WL_indexT (i := 4) rfl rfl rfl (by omega) rfl ?_
     repeat' (first | refine W1 ?_ | (exfalso; omega) | (refine VG ?_ ?_ <;> intro hg) | (refine VC ?_ ?_ <;> intro hc))
     refine WL_indexT (i := 7) rfl rfl rfl (by omega) rfl ?_
     repeat' (first | refine W1 ?_ | (exfalso; omega) | (refine VG ?_ ?_ <;> intro hg) | (refine VC ?_ ?_ <;> intro hc))
     refine WR ?_
     rw [hP]
     exact .mk ⟨rfl, hS⟩
   · repeat' (first | refine W1 ?_ | (exfalso; omega) | (refine VG ?_ ?_ <;> intro hg) | (refine VC ?_ ?_ <;> intro hc))
     refine WL_indexT (i := 4) rfl rfl rfl (by omega) rfl ?_
     repeat' (first | refine W1 ?_ | (exfalso; omega) | (refine VG ?_ ?_ <;> intro hg) | (refine VC ?_ ?_ <;> intro hc))
     refine WR ?_
     rw [hP]
     exact .mk ⟨rfl, hS⟩
end Go.Proofs.YtgpibcgebpgmiaaGreatDoor
namespace Go.Eng
open Go Go.RowKit Go.Proofs
structure Fl where
 i : Nat
 d : Nat
 T : Nat
 z : Value
section rules
variable {P : Program} {n : Nat} {ops : Array Oper} {Lt : List Nat} {Q : Exit → Act → World → Prop} {F : List Fl} {rest join : List (Nat × Nat)} {e : Env} {J : World → List Nat → Prop}
variable {i d : Nat} {op : Op} {ty : TypeId} {pos : String} {af : Array Edge} {gd : Option (Nat × Bool)} {v : Value}
end rules
section
variable {P : Program} {n : Nat} {Q : Exit → Act → World → Prop} {e : Env} {w : World}
theorem WC_scope {c : Code} (h : WC P n c (Exit.noGoto Q) e w) : WC P n (.scope c) Q e w := ⟨fun a ha => wp_scope_straight (h.h a ha)⟩
theorem WC_label {l : Nat} (h : WQ n Q .normal e w) : WC P n (.label l) Q e w := ⟨fun a ha => wp_label (h.h a ha)⟩
theorem WQ_noGoto_ret (h : WQ n Q .ret e w) : WQ n (Exit.noGoto Q) .ret e w := ⟨fun a ha => h.h a ha⟩
theorem WQ_noGoto_exit {i : Nat} (h : WQ n Q (.exit i) e w) : WQ n (Exit.noGoto Q) (.exit i) e w := ⟨fun a ha => h.h a ha⟩
end
def spacesL : Str := [9, 10, 13, 32]
theorem spaceL_mem (c : UInt8) : spaceL c = decide (c ∈ spacesL) := by
 unfold spaceL spacesL
 rw [Bool.eq_iff_iff]
 simp [or_assoc]
theorem idxB_mem (l : Str) (c : UInt8) : decide (0 ≤ Lib.indexByte l c) = decide (c ∈ l) := by
 rw [decide_eq_decide]
 induction l with
 | nil => simp [Lib.indexByte]
 | cons a r ih =>
   unfold Lib.indexByte
   by_cases h : a = c
   · subst h; simp
   · have hb : (a == c) = false := by simpa using h
     rw [hb]
     simp only [Bool.false_eq_true, if_false, List.mem_cons]
     have hge := Lib.indexByte_ge r c
     have h' : ¬ c = a := fun e => h e.symm
     split
     · rename_i h1
       have : Lib.indexByte r c = -1 := by simpa using h1
       rw [← ih]
       simp [h']
       omega
     · rename_i h1
       have h2 : ¬ Lib.indexByte r c = -1 := by simpa using h1
       have : 0 ≤ Lib.indexByte r c := by omega
       simp [h', ih.1 this]
       omega
theorem hasP2 (s : Str) (a b : UInt8) : Lib.hasPrefix s [a, b] = decide (s.take 2 = [a, b]) := by
 unfold Lib.hasPrefix
 match s with
 | [] => rfl
 | [x] => simp [List.isPrefixOf]
 | x :: y :: r =>
   rw [Bool.eq_iff_iff]
   simp only [List.isPrefixOf, Bool.and_true, Bool.and_eq_true, beq_iff_eq, decide_eq_true_eq, List.take_succ_cons, List.take_zero, List.cons.injEq, and_true]
   constructor
   · rintro ⟨rfl, rfl⟩; exact ⟨rfl, rfl⟩
   · rintro ⟨rfl, rfl⟩; exact ⟨rfl, rfl⟩
theorem atoiAll_dig {s : Str} (hne : s ≠ []) (h : s.all digB = true) : Lib.atoiAll s = if decN s ≤ 9223372036854775807 then .ok (decN s : Int) else .range := by
 have key : ∀ (s : Str) (acc N : Nat), acc < 18446744073709551616 → s.all digB = true → s.foldl (fun n c => 10 * n + (c.toNat - 48)) acc = N → Lib.parseUint10 acc s = if N < 18446744073709551616 then .ok N else .range := by
  intro s
  induction s with
  | nil =>
    intro acc N ha _ hN
    have : acc = N := hN
    subst this
    rw [if_pos ha]
    rfl
  | cons c r ih =>
    intro acc N ha h hN
    simp only [List.all_cons, Bool.and_eq_true] at h
    have hc : 48 ≤ c.toNat ∧ c.toNat ≤ 57 := by simpa [digB] using h.1
    have hmono : ∀ (r : Str) (a : Nat), a ≤ r.foldl (fun n c => 10 * n + (c.toNat - 48)) a := by
     intro r
     induction r with
     | nil => intro a; exact Nat.le_refl _
     | cons x q ihq => intro a; have := ihq (10 * a + (x.toNat - 48)); simp only [List.foldl_cons]; omega
    have h1 := hmono r (10 * acc + (c.toNat - 48))
    have hN' : r.foldl (fun n c => 10 * n + (c.toNat - 48)) (10 * acc + (c.toNat - 48)) = N := hN
    rw [hN'] at h1
    simp only [Lib.parseUint10]
    rw [if_pos hc]
    split
    · rw [if_neg (by omega)]
    · split
      · rw [if_neg (by omega)]
      · rw [show acc * 10 + (c.toNat - 48) = 10 * acc + (c.toNat - 48) by omega]
        exact ih _ _ (by omega) h.2 hN'
 obtain ⟨c, r, rfl⟩ : ∃ c r, s = c :: r := by cases s with | nil => exact absurd rfl hne | cons c r => exact ⟨c, r, rfl⟩
 have hk := key (c :: r) 0 (decN (c :: r)) (by omega) h rfl
 have hcc : 48 ≤ c.toNat ∧ c.toNat ≤ 57 := by
  simp only [List.all_cons, Bool.and_eq_true] at h
  simpa [digB] using h.1
 unfold Lib.atoiAll
 simp only
 rw [if_neg (by omega)]
 unfold Lib.parseMag
 rw [if_neg (by simp), hk]
 by_cases h1 : decN (c :: r) < 18446744073709551616
 · rw [if_pos h1]
   simp only
   by_cases h2 : decN (c :: r) ≤ 9223372036854775807
   · rw [if_pos h2, if_neg (by omega), if_neg (by omega), if_neg (by omega)]
   · rw [if_neg h2, if_pos (by omega)]
 · rw [if_neg h1, if_neg (by omega)]
end Go.Eng
namespace Go.Proofs.YtgpibcgebpgmiaaGreatDoor
open Go Go.Eng Go.RowKit Go.Proofs
theorem u8_toNat (c : UInt8) : ((c.toNat : Int)).toNat.toUInt8 = c := by
 rw [Int.toNat_natCast]
 exact UInt8.ofNat_toNat
theorem idxByte_any (s : Str) (c : UInt8) (w : World) : Calls Tryz.prog 156 #[str s, .int .u8 (c.toNat : Int)] w (Ret fun r w' => r = .int .i64 (Lib.indexByte s c) ∧ w' = w) := by
 refine (Tryz.strings_IndexByte ⟨s.toArray⟩ (c.toNat : Int) w).mono ?_
 rintro e w' ⟨rfl, rfl⟩
 refine .mk ⟨?_, rfl⟩
 rw [u8_toNat]
theorem hasPrefix_any (s : Str) (a b : UInt8) (w : World) : Calls Tryz.prog 132 #[str s, str [a, b]] w (Ret fun r w' => r = .bool (decide (s.take 2 = [a, b])) ∧ w' = w) := by
 refine (Tryz.strings_HasPrefix ⟨s.toArray⟩ ⟨([a, b] : Str).toArray⟩ w).mono ?_
 rintro e w' ⟨rfl, rfl⟩
 refine .mk ⟨?_, rfl⟩
 rw [← hasP2]
theorem WL_convRune {P : Program} {n : Nat} {Q : Exit → Act → World → Prop} {e : Env} {w : World} {ops : Array Oper} {rest : List Oper} {d₀ : Nat} {ty : TypeId} {pos : String} {af : Array Edge} {src dst : TypeId} {x : Operand} {k : IntKind} {z : Int} {D : TypeDesc} [hs : Und P src D] [hd : Und P dst .string]
 (hx : ev e x = some (.int k z)) (hdn : Nat.blt d₀ n = true) (kk : WL P n ops Q rest ((d₀, str (Utf8.encode z).data.toList) :: e) w) : WL P n ops Q (⟨some d₀, .convert src dst x, ty, pos, af, none⟩ :: rest) e w := by
 refine WL_pure (v := str (Utf8.encode z).data.toList) ⟨fun a ha => ?_⟩ hdn kk
 have := run_convert_int_string (P := P) w src dst k z (by rw [hs.h]; rfl) hd.h
 simp [execOp, ha.ev hx, this]
theorem enc2 (c : Nat) (h1 : 128 ≤ c) (h2 : c < 256) : (Utf8.encode (c : Int)).data.toList = [UInt8.ofNat (192 + c / 64), UInt8.ofNat (128 + c % 64)] := by
 have hv : Utf8.valid (c : Int) = true := by
  unfold Utf8.valid
  simp only [Bool.or_eq_true, Bool.and_eq_true, decide_eq_true_eq]
  omega
 unfold Utf8.encode
 simp only [hv, if_true, Int.toNat_natCast]
 rw [if_neg (by omega), if_pos (by omega)]
theorem sp_lo : ∀ c ∈ spacesL, c.toNat < 128 := by decide
set_option maxRecDepth 20000 in
theorem hasRune_high (c : Nat) (w : World) (h1 : 128 ≤ c) (h2 : c < 256) : Calls Tryz.prog 157 #[str spacesL, .int .i32 (c : Int)] w (Ret fun r w' => r = .int .i64 (-1) ∧ Stp [] w w') := by
 have he := enc2 c h1 h2
 have hb : 128 ≤ (UInt8.ofNat (128 + c % 64)).toNat := by simp; omega
 generalize UInt8.ofNat (192 + c / 64) = b0 at he
 generalize UInt8.ofNat (128 + c % 64) = b1 at he hb
 have hvr : Lib.validRune (c : Int) = true := decide_eq_true (by omega)
 refine calls_of_WC2 (n := 187) Tryz.func157 rfl rfl rfl ?_
 repeat' (first | refine W1 ?_ | (exfalso; omega) | (refine VG ?_ ?_ <;> intro hg) | (refine VC ?_ ?_ <;> intro hc))
 refine WL_eff (OE_call rfl (evs1 rfl) ((Tryz.utf8_ValidRune (c : Int) _).mono (fun e w' h => (show Ret (fun r w' => r = .bool true ∧ w' = _) e w' from by
  obtain ⟨rfl, rfl⟩ := h
  exact .mk ⟨by rw [hvr], rfl⟩)))) rfl ?_
 rintro _ wv ⟨rfl, hwv⟩
 subst wv
 refine W ?_
 refine WC_scope ?_
 refine W ?_
 refine WL_convRune rfl rfl ?_
 rw [he]
 have hl2 : ([b0, b1] : Str).length = 2 := rfl
 have hls : spacesL.length = 4 := rfl
 refine W ?_
 refine WC_loop (σ := Unit) (fun _ => [(0, str spacesL), (7, str [b0, b1]), (8, .int .i64 ((([b0, b1] : Str).length : Int) - 1)), (9, .int .i64 ((([b0, b1] : Str).length : Int) - 1))]) (fun _ w' => Stp [] w w') (fun _ => 0) () ⟨rfl, rfl, rfl, rfl, trivial⟩ (Stp.refl _ _) ?_
 rintro _ w1 hS
 repeat' (first | refine W1 ?_ | (exfalso; omega) | (refine VG ?_ ?_ <;> intro hg) | (refine VC ?_ ?_ <;> intro hc))
 refine WC_scope ?_
 repeat' (first | refine W1 ?_ | (exfalso; omega) | (refine VG ?_ ?_ <;> intro hg) | (refine VC ?_ ?_ <;> intro hc))
 refine WC_drawn 7 [] [] [(0, 0), (1, 0), (2, 0), (3, 0), (4, 0), (5, 0), (6, 0)] rfl mixed (by kernel_rfl) (by kernel_rfl) (by kernel_rfl) (fun w1 hS1 => ?_)
 replace hS := hS.trans hS1
 clear hS1
 refine D ?_
 have hx : ¬ byte spacesL (([b0, b1] : Str).length - Nat.succ 0) = byte [b0, b1] (([b0, b1] : Str).length - Nat.succ 0) := by
  show ¬ (10 : Int) = (b1.toNat : Int)
  omega
 repeat' (first | refine W1 ?_ | (exfalso; omega) | (refine VG ?_ ?_ <;> intro hg) | (refine VC ?_ ?_ <;> intro hc))
 rotate_left
 · exact absurd hx (by assumption)
 have hx1 : byte [b0, b1] (([b0, b1] : Str).length - Nat.succ 0) = (b1.toNat : Int) := rfl
 have hnm : b1 ∉ (spacesL.drop 2) := fun h => by
  have := sp_lo b1 (List.mem_of_mem_drop h)
  omega
 have hidx : Lib.indexByte (spacesL.drop 2) b1 < 0 := by
  have := idxB_mem (spacesL.drop 2) b1
  rw [decide_eq_decide] at this
  have h0 : ¬ 0 ≤ Lib.indexByte (spacesL.drop 2) b1 := fun h => hnm (this.1 h)
  omega
 refine WC_drawn 9 [] [] [(0, 0), (1, 0), (2, 0), (3, 0), (4, 0), (5, 0), (6, 0), (7, 2), (8, 0)] rfl mixed (by kernel_rfl) (by kernel_rfl) (by kernel_rfl) (fun w1 hS1 => ?_)
 replace hS := hS.trans hS1
 clear hS1
 refine D ?_
 refine WF_sliceT_l (l := 2) rfl trivial rfl rfl (by omega) (by omega) rfl ?_
 refine D ?_
 rw [hx1]
 refine WD_eff rfl trivial (OE_call rfl (evs2 rfl rfl) (idxByte_any (spacesL.drop 2) b1 _)) (fun _ _ h => by rw [h.2]; exact Stp.refl _ _) rfl ?_
 rintro _ w5 ⟨rfl, hw5⟩
 subst w5
 refine D ?_
 repeat' (first | refine W1 ?_ | (exfalso; omega) | (refine VG ?_ ?_ <;> intro hg) | (refine VC ?_ ?_ <;> intro hc))
 repeat (first | refine WQ_noGoto_ret ?_ | refine W1 ?_)
 refine WR ?_
 exact .mk ⟨rfl, hS⟩
theorem hasSpace_any (c : UInt8) (w : World) : Calls Tryz.prog 109 #[str spacesL, .int .i32 (c.toNat : Int)] w (Ret fun r w' => r = .bool (spaceL c) ∧ Stp [] w w') := by
 by_cases h : c.toNat < 128
 · refine (Tryz.strings_ContainsRune_ascii ⟨spacesL.toArray⟩ (c.toNat : Int) w (by omega) (by omega)).mono ?_
   rintro e w' ⟨rfl, rfl⟩
   refine .mk ⟨?_, Stp.refl _ _⟩
   rw [u8_toNat, spaceL_mem]
   exact congrArg Value.bool (idxB_mem spacesL c)
 · have hc := c.toNat_lt
   have hsp : spaceL c = false := by
    rw [spaceL_mem, decide_eq_false_iff_not]
    intro hm
    exact h (sp_lo c hm)
   refine calls_of_WC2 (n := 9) Tryz.func109 rfl rfl rfl ?_
   refine W ?_
   refine CL rfl (evs2 rfl rfl) rfl (hasRune_high c.toNat _ (by omega) (by omega)) ?_
   rintro _ w1 ⟨rfl, hS⟩
   refine W ?_
   refine WR ?_
   exact .mk ⟨by rw [hsp]; rfl, hS⟩
def lxV : Lx → Value
 | .err c => .tuple #[.agg (Flat.enc (⟨0, 0, [], 0⟩ : Tkn)).toArray, .int .i64 c]
 | .ok t => .tuple #[.agg (Flat.enc t).toArray, .int .i64 0]
theorem tk0 (w : World) : (Instr.build 61 #[]).run Tryz.prog w = .ok (.agg (Flat.enc (⟨0, 0, [], 0⟩ : Tkn)).toArray) w := by kernel_rfl
theorem tk2 (k : Int) (s : Str) (w : World) : (Instr.build 61 #[(0, .int .i64 k), (2, str s)]).run Tryz.prog w = .ok (.agg (Flat.enc (⟨k, 0, s, 0⟩ : Tkn)).toArray) w := by kernel_rfl
theorem tk3 (k n : Int) (s : Str) (w : World) : (Instr.build 61 #[(0, .int .i64 k), (2, str s), (3, .int .i64 n)]).run Tryz.prog w = .ok (.agg (Flat.enc (⟨k, 0, s, n⟩ : Tkn)).toArray) w := by kernel_rfl
theorem tk1 (k n : Int) (w : World) : (Instr.build 61 #[(0, .int .i64 k), (1, .int .i64 n)]).run Tryz.prog w = .ok (.agg (Flat.enc (⟨k, n, [], 0⟩ : Tkn)).toArray) w := by kernel_rfl
theorem len2 {s : Str} {a b : UInt8} (h : s.take 2 = [a, b]) : 2 ≤ s.length := by
 have := congrArg List.length h
 simp at this
 omega
theorem symbol_any (s : Str) (w : World) (hne : s ≠ []) : Calls Tryz.prog 108 #[str s] w (Ret fun r w' => r = lxV (symbolL s) ∧ Stp [] w w') := by
 have hl : s.length ≠ 0 := fun h => hne (List.length_eq_zero_iff.1 h)
 have hget : byte s 0 = ((s.getD 0 0).toNat : Int) := rfl
 refine calls_of_WC1 (n := 22) Tryz.func108 rfl rfl rfl ?_
 refine W ?_
 refine WL_eff OE_alloc rfl ?_
 rintro _ w1 ⟨b2, rfl, hb2, e2, hS⟩
 refine W ?_
 refine CL rfl (evs2 rfl rfl) rfl (hasPrefix_any s 60 61 _) ?_
 rintro _ wv ⟨rfl, hwv⟩
 subst wv
 by_cases a1 : s.take 2 = [60, 61]
 · have h2 := len2 a1
   have hv : symbolL s = .ok ⟨4, 0, s.take 2, 0⟩ := by unfold symbolL; rw [if_pos (.inl a1)]
   rw [decide_eq_true a1]
   refine W ?_
   refine WL_sliceT_h (r := 2) rfl rfl rfl (by omega) rfl ?_
   refine WL_build (vs := [(0, .int .i64 4), (2, str (s.take 2))]) rfl (tk2 _ _) rfl ?_
   refine WL_eff0 (OE_storeA (us := Flat.enc (⟨4, 0, s.take 2, 0⟩ : Tkn)) rfl rfl rfl rfl (Flat.one _) e2 rfl) ?_
   rintro _ wz ⟨hT, e2'⟩
   refine W ?_
   refine WQ_retct rfl rfl rfl e2' rfl rfl ?_
   exact .mk ⟨by rw [hv]; rfl, hS.own hT (fun c hc => .inr (by simp at hc; omega))⟩
 rw [decide_eq_false a1]
 refine W ?_
 refine CL rfl (evs2 rfl rfl) rfl (hasPrefix_any s 33 61 _) ?_
 rintro _ wv ⟨rfl, hwv⟩
 subst wv
 by_cases a2 : s.take 2 = [33, 61]
 · have h2 := len2 a2
   have hv : symbolL s = .ok ⟨4, 0, s.take 2, 0⟩ := by unfold symbolL; rw [if_pos (.inr (.inl a2))]
   rw [decide_eq_true a2]
   refine W ?_
   refine WL_sliceT_h (r := 2) rfl rfl rfl (by omega) rfl ?_
   refine WL_build (vs := [(0, .int .i64 4), (2, str (s.take 2))]) rfl (tk2 _ _) rfl ?_
   refine WL_eff0 (OE_storeA (us := Flat.enc (⟨4, 0, s.take 2, 0⟩ : Tkn)) rfl rfl rfl rfl (Flat.one _) e2 rfl) ?_
   rintro _ wz ⟨hT, e2'⟩
   refine W ?_
   refine WQ_retct rfl rfl rfl e2' rfl rfl ?_
   exact .mk ⟨by rw [hv]; rfl, hS.own hT (fun c hc => .inr (by simp at hc; omega))⟩
 rw [decide_eq_false a2]
 refine W ?_
 refine CL rfl (evs2 rfl rfl) rfl (hasPrefix_any s 62 61 _) ?_
 rintro _ wv ⟨rfl, hwv⟩
 subst wv
 by_cases a3 : s.take 2 = [62, 61]
 · have h2 := len2 a3
   have hv : symbolL s = .ok ⟨4, 0, s.take 2, 0⟩ := by unfold symbolL; rw [if_pos (.inr (.inr a3))]
   rw [decide_eq_true a3]
   refine W ?_
   refine WL_sliceT_h (r := 2) rfl rfl rfl (by omega) rfl ?_
   refine WL_build (vs := [(0, .int .i64 4), (2, str (s.take 2))]) rfl (tk2 _ _) rfl ?_
   refine WL_eff0 (OE_storeA (us := Flat.enc (⟨4, 0, s.take 2, 0⟩ : Tkn)) rfl rfl rfl rfl (Flat.one _) e2 rfl) ?_
   rintro _ wz ⟨hT, e2'⟩
   refine W ?_
   refine WQ_retct rfl rfl rfl e2' rfl rfl ?_
   exact .mk ⟨by rw [hv]; rfl, hS.own hT (fun c hc => .inr (by simp at hc; omega))⟩
 rw [decide_eq_false a3]
 have hno : ¬ (s.take 2 = [60, 61] ∨ s.take 2 = [33, 61] ∨ s.take 2 = [62, 61]) := by
  rintro (h | h | h)
  · exact a1 h
  · exact a2 h
  · exact a3 h
 repeat' (first | refine W1 ?_ | (exfalso; omega) | (refine VG ?_ ?_ <;> intro hg) | (refine VC ?_ ?_ <;> intro hc))
 refine WL_indexT (i := 0) rfl rfl rfl (by omega) rfl ?_
 repeat' (first | refine W1 ?_ | (exfalso; omega) | (refine VG ?_ ?_ <;> intro hg) | (refine VC ?_ ?_ <;> intro hc))
 rw [hget]
 refine CL rfl (evs2 rfl rfl) rfl (idxByte_any symsL (s.getD 0 0) _) ?_
 rintro _ wv ⟨rfl, hwv⟩
 subst wv
 have him := idxB_mem symsL (s.getD 0 0)
 rw [decide_eq_decide] at him
 by_cases a4 : s.getD 0 0 ∈ symsL
 · have hv : symbolL s = .ok ⟨4, 0, s.take 1, 0⟩ := by unfold symbolL; rw [if_neg hno, if_pos a4]
   have h0 := him.2 a4
   repeat' (first | refine W1 ?_ | (exfalso; omega) | (refine VG ?_ ?_ <;> intro hg) | (refine VC ?_ ?_ <;> intro hc))
   refine W ?_
   refine WL_sliceT_h (r := 1) rfl rfl rfl (by omega) rfl ?_
   refine WL_build (vs := [(0, .int .i64 4), (2, str (s.take 1))]) rfl (tk2 _ _) rfl ?_
   refine WL_eff0 (OE_storeA (us := Flat.enc (⟨4, 0, s.take 1, 0⟩ : Tkn)) rfl rfl rfl rfl (Flat.one _) e2 rfl) ?_
   rintro _ wz ⟨hT, e2'⟩
   refine W ?_
   refine WQ_retct rfl rfl rfl e2' rfl rfl ?_
   exact .mk ⟨by rw [hv]; rfl, hS.own hT (fun c hc => .inr (by simp at hc; omega))⟩
 · have hv : symbolL s = .err 20 := by unfold symbolL; rw [if_neg hno, if_neg a4]
   have h0 : ¬ 0 ≤ Lib.indexByte symsL (s.getD 0 0) := fun h => a4 (him.1 h)
   repeat' (first | refine W1 ?_ | (exfalso; omega) | (refine VG ?_ ?_ <;> intro hg) | (refine VC ?_ ?_ <;> intro hc))
   refine WL_build (vs := []) rfl tk0 rfl ?_
   refine WL_eff0 (OE_storeA (us := Flat.enc (⟨0, 0, [], 0⟩ : Tkn)) rfl rfl rfl rfl (Flat.one _) e2 rfl) ?_
   rintro _ wz ⟨hT, e2'⟩
   refine W ?_
   refine WQ_retct rfl rfl rfl e2' rfl rfl ?_
   exact .mk ⟨by rw [hv]; rfl, hS.own hT (fun c hc => .inr (by simp at hc; omega))⟩
theorem wordL_any (s : Str) (w : World) (hl : s.length ≤ 1000000) : Calls Tryz.prog 113 #[str s] w (Ret fun r w' => r = lxV (wordL s) ∧ Stp [] w w') := by
 have hle : (s.takeWhile ldB).length ≤ s.length := by
  have := congrArg List.length (take_takeWhile (p := ldB) s)
  simp at this
  omega
 refine calls_of_WC1 (n := 14) Tryz.func113 rfl rfl rfl ?_
 refine W ?_
 refine WL_eff OE_alloc rfl ?_
 rintro _ w1 ⟨b2, rfl, hb2, e2, hS⟩
 refine W ?_
 refine CL rfl (evs2 rfl rfl) rfl (first_any (fun n => letN n || digN n) ld_any s _ hl) ?_
 rintro _ w2 ⟨rfl, hT⟩
 rw [first_ld]
 replace e2 := e2.up hT
 replace hS := hS.trans hT
 clear hT
 by_cases h12 : 12 < (s.takeWhile ldB).length
 · have hv : wordL s = .err 2 := by unfold wordL; simp only; rw [if_pos h12]
   repeat' (first | refine W1 ?_ | (exfalso; omega) | (refine VG ?_ ?_ <;> intro hg) | (refine VC ?_ ?_ <;> intro hc))
   refine WL_build (vs := []) rfl tk0 rfl ?_
   refine WL_eff0 (OE_storeA (us := Flat.enc (⟨0, 0, [], 0⟩ : Tkn)) rfl rfl rfl rfl (Flat.one _) e2 rfl) ?_
   rintro _ wz ⟨hT, e2'⟩
   refine W ?_
   refine WQ_retct rfl rfl rfl e2' rfl rfl ?_
   exact .mk ⟨by rw [hv]; rfl, hS.own hT (fun c hc => .inr (by simp at hc; omega))⟩
 · have hv : wordL s = .ok ⟨1, 0, s.take (s.takeWhile ldB).length, 0⟩ := by unfold wordL; simp only; rw [if_neg h12]
   generalize (s.takeWhile ldB).length = q at *
   repeat' (first | refine W1 ?_ | (exfalso; omega) | (refine VG ?_ ?_ <;> intro hg) | (refine VC ?_ ?_ <;> intro hc))
   refine WL_sliceT_h (r := q) rfl rfl rfl hle rfl ?_
   refine WL_build (vs := [(0, .int .i64 1), (2, str (s.take q))]) rfl (tk2 _ _) rfl ?_
   refine WL_eff0 (OE_storeA (us := Flat.enc (⟨1, 0, s.take q, 0⟩ : Tkn)) rfl rfl rfl rfl (Flat.one _) e2 rfl) ?_
   rintro _ wz ⟨hT, e2'⟩
   refine W ?_
   refine WQ_retct rfl rfl rfl e2' rfl rfl ?_
   exact .mk ⟨by rw [hv]; rfl, hS.own hT (fun c hc => .inr (by simp at hc; omega))⟩
theorem neqIf {P : Program} {n : Nat} {Q : Exit → Act → World → Prop} {e : Env} {w : World} {ops : Array Oper} {rest : List Oper} {d₀ : Nat} {ty : TypeId} {pos : String} {af : Array Edge} {t u p : Nat} {x y : Operand} {v : Value} {ds : TypeDesc} [hu : Und P t ds] (hds : ∃ l, ds = .interface l) (hx : ev e x = some (.iface p v)) (hy : ev e y = some .nilIface) (hdn : Nat.blt d₀ n = true) (kk : WL P n ops Q rest ((d₀, .bool true) :: e) w) :
 WL P n ops Q (⟨some d₀, .binOp .neq t x y u, ty, pos, af, none⟩ :: rest) e w := by
 refine WL_pure (v := .bool true) ⟨fun a ha => ?_⟩ hdn kk
 obtain ⟨l, rfl⟩ := hds
 simp only [execOp, ha.ev hx, ha.ev hy]
 have := run_equal_held_nil (P := P) (w := w) t p v (by rw [hu.h, Program.methodsAt, hu.h])
 simp [go_sem, binOp, this]
theorem neqNn {P : Program} {n : Nat} {Q : Exit → Act → World → Prop} {e : Env} {w : World} {ops : Array Oper} {rest : List Oper} {d₀ : Nat} {ty : TypeId} {pos : String} {af : Array Edge} {t u : Nat} {x : Operand} {ds : TypeDesc} [hu : Und P t ds] (hds : ∃ l, ds = .interface l) (hx : ev e x = some .nilIface) (hdn : Nat.blt d₀ n = true) (kk : WL P n ops Q rest ((d₀, .bool false) :: e) w) :
 WL P n ops Q (⟨some d₀, .binOp .neq t x (.const .nilIface) u, ty, pos, af, none⟩ :: rest) e w := by
 refine WL_pure (v := .bool false) ⟨fun a ha => ?_⟩ hdn kk
 obtain ⟨l, rfl⟩ := hds
 have hy : a.eval (.const .nilIface) = .nilIface := rfl
 simp only [execOp, ha.ev hx, hy]
 have := run_equal_nil_nil (P := P) (w := w) t (by rw [hu.h, Program.methodsAt, hu.h])
 simp [go_sem, binOp, eqGuard, this]
theorem stp_bytes (w : World) (el : TypeId) (t : ByteArray) : Stp [] w (Lib.bytesWorld w el t) := by
 refine ⟨rfl, rfl, rfl, ?_, fun b hb _ => Lib.bytesWorld_at_old w el _ b hb⟩
 rw [Lib.bytesWorld_size]
 omega
theorem atoiD_any (t : Str) (ev : Value) (w : World) (ht : t.all digB = true) (hne : t ≠ []) (hl : t.length ≤ 1000000) (hv4 : w.cell? ⟨4, 0, none⟩ = some ev) (hev : ev = .nilIface ∨ ∃ te pe, ev = .iface te pe) :
 Calls Tryz.prog 159 #[str t] w (Ret fun r w' => (if decN t ≤ 9223372036854775807 then r = .tuple #[.int .i64 (decN t : Int), .nilIface] else ∃ z p v, r = .tuple #[.int .i64 z, .iface p v]) ∧ Stp [] w w') := by
 have ha := atoiAll_dig hne ht
 by_cases h : decN t ≤ 9223372036854775807
 · rw [if_pos h] at ha
   refine (Tryz.strconv_Atoi_ok ⟨t.toArray⟩ (by rw [str_size]; omega) (decN t : Int) (by simpa using ha) w).mono ?_
   rintro e w' ⟨rfl, hw⟩
   refine .mk ⟨by rw [if_pos h], ?_⟩
   rcases hw with rfl | ⟨x, rfl⟩
   · exact Stp.refl _ _
   · exact stp_bytes _ _ _
 · rw [if_neg h] at ha
   refine (Tryz.strconv_Atoi_range ⟨t.toArray⟩ (by rw [str_size]; omega) (by simpa using ha) ev w hv4 hev).mono ?_
   rintro e w' ⟨N, rfl, _, _, hw⟩
   exact .mk ⟨by rw [if_neg h]; exact ⟨_, _, _, rfl⟩, Stp.of_below hw⟩
theorem numberX_any (s : Str) (ev : Value) (w : World) (hl : s.length ≤ 1000000) (hd : digB (s.getD 0 0) = true) (hne : s ≠ []) (hv4 : w.cell? ⟨4, 0, none⟩ = some ev) (hev : ev = .nilIface ∨ ∃ te pe, ev = .iface te pe) : Calls Tryz.prog 115 #[str s] w (Ret fun r w' => r = lxV (numberL s) ∧ Stp [] w w') := by
 have hle : (s.takeWhile digB).length ≤ s.length := by
  have := congrArg List.length (take_takeWhile (p := digB) s)
  simp at this
  omega
 have hall : (s.takeWhile digB).all digB = true := List.all_eq_true.2 fun c hc => mem_takeWhile hc
 have htk := take_takeWhile (p := digB) s
 have hpos : s.takeWhile digB ≠ [] := by
  cases s with
  | nil => exact absurd rfl hne
  | cons a r => simp only [List.getD_cons_zero] at hd; simp [hd]
 have hp0 : (s.takeWhile digB).length ≠ 0 := fun h => hpos (List.length_eq_zero_iff.1 h)
 have hnl : numberL s = if 1 < (s.takeWhile digB).length ∧ (s.takeWhile digB).getD 0 0 = 48 then .err 20 else if 2147483647 < decN (s.takeWhile digB) then .err 5 else .ok ⟨2, 0, s.takeWhile digB, decN (s.takeWhile digB)⟩ := rfl
 rw [hnl]
 have hfd := first_dig s
 refine calls_of_WC1 (n := 35) Tryz.func115 rfl rfl rfl ?_
 refine W ?_
 refine WL_eff OE_alloc rfl ?_
 rintro _ w1 ⟨b2, rfl, hb2, e2, hS⟩
 refine W ?_
 refine CL rfl (evs2 rfl rfl) rfl (first_any digN digit_any s _ hl) ?_
 rintro _ w2 ⟨rfl, hT⟩
 rw [hfd]
 replace e2 := e2.up hT
 replace hS := hS.trans hT
 clear hT
 refine WL_sliceT_h (r := (s.takeWhile digB).length) rfl rfl rfl hle rfl ?_
 rw [htk]
 have hl2 : (s.takeWhile digB).length ≤ 1000000 := Nat.le_trans hle hl
 clear hnl htk hle hfd
 generalize s.takeWhile digB = t at *
 have hget : byte t 0 = ((t.getD 0 0).toNat : Int) := rfl
 have h48 : byte t 0 = 48 ↔ t.getD 0 0 = 48 := by
  rw [hget]
  constructor
  · intro h
    have h48 : (48 : UInt8).toNat = 48 := rfl
    exact UInt8.toNat_inj.1 (by omega)
  · intro h; rw [h]; rfl
 by_cases hz : 1 < t.length ∧ t.getD 0 0 = 48
 · rw [if_pos hz]
   have hz1 := hz.1
   have hz2 := h48.2 hz.2
   repeat' (first | refine W1 ?_ | (exfalso; omega) | (refine VG ?_ ?_ <;> intro hg) | (refine VC ?_ ?_ <;> intro hc))
   refine WL_indexT (i := 0) rfl rfl rfl (by omega) rfl ?_
   repeat' (first | refine W1 ?_ | (exfalso; omega) | (refine VG ?_ ?_ <;> intro hg) | (refine VC ?_ ?_ <;> intro hc))
   refine WL_build (vs := []) rfl tk0 rfl ?_
   refine WL_eff0 (OE_storeA (us := Flat.enc (⟨0, 0, [], 0⟩ : Tkn)) rfl rfl rfl rfl (Flat.one _) e2 rfl) ?_
   rintro _ wz ⟨hT, e2'⟩
   refine W ?_
   refine WQ_retct rfl rfl rfl e2' rfl rfl ?_
   exact .mk ⟨rfl, hS.own hT (fun c hc => .inr (by simp at hc; omega))⟩
 · rw [if_neg hz]
   refine W ?_
   refine WL_cutQ (σ := Unit) (fun _ => [(0, str s), (2, .pointer (some ⟨b2, 0, none⟩)), (4, str t), (18, .bool false)]) (fun _ w' => w' = w2) ?_ ?_
   · by_cases h1 : 1 < t.length
     · have h0 : ¬ byte t 0 = 48 := fun h => hz ⟨h1, h48.1 h⟩
       repeat' (first | refine W1 ?_ | (exfalso; omega) | (refine VG ?_ ?_ <;> intro hg) | (refine VC ?_ ?_ <;> intro hc))
       refine WL_indexT (i := 0) rfl rfl rfl (by omega) rfl ?_
       repeat' (first | refine W1 ?_ | (exfalso; omega) | (refine VG ?_ ?_ <;> intro hg) | (refine VC ?_ ?_ <;> intro hc))
       rw [decide_eq_false h0]
       exact WQ_cut () ⟨rfl, rfl, rfl, rfl, trivial⟩ rfl
     · repeat' (first | refine W1 ?_ | (exfalso; omega) | (refine VG ?_ ?_ <;> intro hg) | (refine VC ?_ ?_ <;> intro hc))
       exact WQ_cut () ⟨rfl, rfl, rfl, rfl, trivial⟩ rfl
   rintro _ wv hwv
   subst wv
   refine W ?_
   refine CL rfl (evs1 rfl) rfl (atoiD_any t ev _ hall hpos hl2 (hS.cell (by simp) hv4) hev) ?_
   rintro _ w3 ⟨hr, hT⟩
   replace e2 := e2.up hT
   replace hS := hS.trans hT
   clear hT
   by_cases hmax : decN t ≤ 9223372036854775807
   · rw [if_pos hmax] at hr
     subst hr
     refine W ?_
     refine neqNn ⟨_, rfl⟩ rfl rfl ?_
     by_cases hbig : 2147483647 < decN t
     · rw [if_pos hbig]
       repeat' (first | refine W1 ?_ | (exfalso; omega) | (refine VG ?_ ?_ <;> intro hg) | (refine VC ?_ ?_ <;> intro hc))
       refine WL_build (vs := []) rfl tk0 rfl ?_
       refine WL_eff0 (OE_storeA (us := Flat.enc (⟨0, 0, [], 0⟩ : Tkn)) rfl rfl rfl rfl (Flat.one _) e2 rfl) ?_
       rintro _ wz ⟨hT, e2'⟩
       refine W ?_
       refine WQ_retct rfl rfl rfl e2' rfl rfl ?_
       exact .mk ⟨rfl, hS.own hT (fun c hc => .inr (by simp at hc; omega))⟩
     · rw [if_neg hbig]
       repeat' (first | refine W1 ?_ | (exfalso; omega) | (refine VG ?_ ?_ <;> intro hg) | (refine VC ?_ ?_ <;> intro hc))
       refine WL_build (vs := [(0, .int .i64 2), (2, str t), (3, .int .i64 (decN t : Int))]) rfl (tk3 _ _ _) rfl ?_
       refine WL_eff0 (OE_storeA (us := Flat.enc (⟨2, 0, t, decN t⟩ : Tkn)) rfl rfl rfl rfl (Flat.one _) e2 rfl) ?_
       rintro _ wz ⟨hT, e2'⟩
       refine W ?_
       refine WQ_retct rfl rfl rfl e2' rfl rfl ?_
       exact .mk ⟨rfl, hS.own hT (fun c hc => .inr (by simp at hc; omega))⟩
   · rw [if_neg hmax] at hr
     obtain ⟨z, p, v, rfl⟩ := hr
     rw [if_pos (by omega)]
     refine W ?_
     refine neqIf ⟨_, rfl⟩ rfl rfl rfl ?_
     repeat' (first | refine W1 ?_ | (exfalso; omega) | (refine VG ?_ ?_ <;> intro hg) | (refine VC ?_ ?_ <;> intro hc))
     refine WL_build (vs := []) rfl tk0 rfl ?_
     refine WL_eff0 (OE_storeA (us := Flat.enc (⟨0, 0, [], 0⟩ : Tkn)) rfl rfl rfl rfl (Flat.one _) e2 rfl) ?_
     rintro _ wz ⟨hT, e2'⟩
     refine W ?_
     refine WQ_retct rfl rfl rfl e2' rfl rfl ?_
     exact .mk ⟨rfl, hS.own hT (fun c hc => .inr (by simp at hc; omega))⟩
theorem wrap_i32_of {z : Int} (h0 : 0 ≤ z) (h1 : z < 2147483648) : IntKind.i32.wrap z = z := by
 rw [IntKind.wrap_i32]
 omega
theorem form_lo : ∀ i, i < formL.length → (formL.getD i 0).toNat < 128 := by decide
theorem zip_fit {s : Str} (h : 11 ≤ s.length) (hf : ∀ j, j < 11 → fitL (formL.getD j 0) (s.getD j 0) = true) : ((formL.zip s).all fun p => fitL p.1 p.2) = true := by
 rw [List.all_eq_true]
 intro p hp
 obtain ⟨i, hi, rfl⟩ := List.getElem_of_mem hp
 have h1 : i < 11 := by
  have : formL.length = 11 := rfl
  simp at hi
  omega
 have := hf i h1
 rw [List.getElem_zip]
 have e1 : formL.getD i 0 = formL[i]'(by show i < 11; omega) := by
  have : i < formL.length := h1
  simp [List.getD, this]
 have e2 : s.getD i 0 = s[i]'(by omega) := by
  have : i < s.length := by omega
  simp [List.getD, this]
 rw [e1, e2] at this
 exact this
theorem zip_nofit {s : Str} {j : Nat} (h : 11 ≤ s.length) (hj : j < 11) (hf : fitL (formL.getD j 0) (s.getD j 0) = false) : ((formL.zip s).all fun p => fitL p.1 p.2) = false := by
 cases hb : ((formL.zip s).all fun p => fitL p.1 p.2) with
 | false => rfl
 | true =>
   rw [List.all_eq_true] at hb
   have hl : j < (formL.zip s).length := by
    have : formL.length = 11 := rfl
    simp
    omega
   have := hb _ (List.getElem_mem hl)
   rw [List.getElem_zip] at this
   have e1 : formL.getD j 0 = formL[j]'(by show j < 11; omega) := by
    have : j < formL.length := hj
    simp [List.getD, this]
   have e2 : s.getD j 0 = s[j]'(by omega) := by
    have : j < s.length := by omega
    simp [List.getD, this]
   rw [e1, e2] at hf
   rw [hf] at this
   cases this
set_option maxHeartbeats 1000000 in
theorem day_any (s : Str) (w : World) (hLG : LenG w) (hl : s.length ≤ 1000000) : Calls Tryz.prog 116 #[str s] w (Ret fun r w' => r = lxV (dayL s) ∧ Stp [] w w') := by
 have h5w : 5 < w.heap.size := by have := block_lt_of_cell (hLG 0 0 rfl); simpa using this
 refine calls_of_WC1 (n := 52) Tryz.func116 rfl rfl rfl ?_
 refine W ?_
 refine WL_eff OE_alloc rfl ?_
 rintro _ w1 ⟨b2, rfl, hb2, e2, hS⟩
 by_cases h11 : s.length < 11
 · have hv : dayL s = .err 20 := by unfold dayL; rw [if_pos h11]
   rw [hv]
   repeat' (first | refine W1 ?_ | (exfalso; omega) | (refine VG ?_ ?_ <;> intro hg) | (refine VC ?_ ?_ <;> intro hc))
   refine WL_build (vs := []) rfl tk0 rfl ?_
   refine WL_eff0 (OE_storeA (us := Flat.enc (⟨0, 0, [], 0⟩ : Tkn)) rfl rfl rfl rfl (Flat.one _) e2 rfl) ?_
   rintro _ wz ⟨hT, e2'⟩
   refine W ?_
   refine WQ_retct rfl rfl rfl e2' rfl rfl ?_
   exact .mk ⟨rfl, hS.own hT (fun c hc => .inr (by simp at hc; omega))⟩
 · have hv0 : dayL s = if ((formL.zip s).all fun p => fitL p.1 p.2) then (let d := dateP ((s.take 11).drop 1); if d.2 = 0 then .ok ⟨3, 0, s.take 11, d.1⟩ else .err 5) else .err 20 := by unfold dayL; rw [if_neg h11]
   rw [hv0]
   replace hLG := hLG.up hS
   repeat' (first | refine W1 ?_ | (exfalso; omega) | (refine VG ?_ ?_ <;> intro hg) | (refine VC ?_ ?_ <;> intro hc))
   refine WL_eff (OE_range (s := formL) rfl) rfl ?_
   rintro _ w2 ⟨bi, rfl, hbi, hI, hT⟩
   have hbiw : w.heap.size ≤ bi := Nat.le_trans hS.size hbi
   have ni2 : b2 ≠ bi := by have := e2.lt; omega
   have h5i : (5 : Nat) ≠ bi := by omega
   replace e2 := e2.up hT
   replace hLG := hLG.up hT
   replace hS := hS.trans hT
   clear hT
   refine W ?_
   refine WC_loop (σ := Nat) (fun q => [(0, str s), (2, .pointer (some ⟨b2, 0, none⟩)), (13, .pointer (some ⟨bi, 0, none⟩))])
    (fun q w' => q ≤ 11 ∧ Itr w' bi formL q ∧ (∀ j, j < q → fitL (formL.getD j 0) (s.getD j 0) = true) ∧ (∃ cs : List Value, cs.length = 4 ∧ Blk w' b2 61 cs) ∧ LenG w' ∧ Stp [] w w')
    (fun q => 11 - q) 0 ⟨rfl, rfl, rfl, trivial⟩ ⟨Nat.zero_le _, hI, fun j h => absurd h (Nat.not_lt_zero _), ⟨_, rfl, e2⟩, hLG, hS⟩ ?_
   clear hI e2 hLG hS
   rintro q w3 ⟨hq, hI, hfit, ⟨cs2, hc2, e2⟩, hLG, hS⟩
   match cs2, hc2 with
   | [q0, q1, q2, q3], _ =>
   have hfl : formL.length = 11 := rfl
   by_cases hlt : q < 11
   · have hqf : q < formL.length := by omega
     have hlo := form_lo q hqf
     have hdec : dec formL q = ((formL.getD q 0).toNat, 1) := by
      have e1 : formL.getD q 0 = formL[q]'hqf := by simp [List.getD, hqf]
      rw [e1] at hlo ⊢
      exact dec_ascii hqf hlo
     refine W ?_
     refine WL_eff (OE_next rfl hI hqf) rfl ?_
     rintro _ w4 ⟨rfl, hI4, hT⟩
     rw [hdec] at hI4 ⊢
     dsimp only at hI4 ⊢
     replace e2 := e2.ext hT (by simpa using ni2)
     replace hLG := hLG.ext hT (by simpa using h5i)
     replace hS := hS.own hT (fun c hc => .inr (by simp at hc; omega))
     clear hT hI
     have hbr := byte_range s q
     repeat' (first | refine W1 ?_ | (exfalso; omega) | (refine VG ?_ ?_ <;> intro hg) | (refine VC ?_ ?_ <;> intro hc))
     refine WL_pure (PR_convTo (b := byte s q) rfl (wrap_i32_of hbr.1 (by omega))) rfl ?_
     have hby : byte s q = ((s.getD q 0).toNat : Int) := rfl
     by_cases hc100 : formL.getD q 0 = 100
     · rw [hc100]
       have h100 : (((100 : UInt8).toNat : Nat) : Int) = 100 := rfl
       rw [h100]
       have hfq : fitL (formL.getD q 0) (s.getD q 0) = digB (s.getD q 0) := by unfold fitL; rw [if_pos hc100]
       repeat' (first | refine W1 ?_ | (exfalso; omega) | (refine VG ?_ ?_ <;> intro hg) | (refine VC ?_ ?_ <;> intro hc))
       rw [hby]
       refine CL rfl (evs1 rfl) rfl (digit_any (s.getD q 0).toNat _) ?_
       rintro _ wv ⟨rfl, hwv⟩
       subst wv
       have hdg : digN (s.getD q 0).toNat = digB (s.getD q 0) := rfl
       rw [hdg]
       cases hd : digB (s.getD q 0)
       · have hz := zip_nofit (s := s) (by omega) hlt (by rw [hfq]; exact hd)
         rw [if_neg (by rw [hz]; decide)]
         repeat' (first | refine W1 ?_ | (exfalso; omega) | (refine VG ?_ ?_ <;> intro hg) | (refine VC ?_ ?_ <;> intro hc))
         refine WL_build (vs := []) rfl tk0 rfl ?_
         refine WL_eff0 (OE_storeA (us := Flat.enc (⟨0, 0, [], 0⟩ : Tkn)) rfl rfl rfl rfl (Flat.one _) e2 rfl) ?_
         rintro _ wz ⟨hT, e2'⟩
         refine W ?_
         refine WQ_retct rfl rfl rfl e2' rfl rfl ?_
         exact .mk ⟨rfl, hS.own hT (fun c hc => .inr (by simp at hc; omega))⟩
       · repeat' (first | refine W1 ?_ | (exfalso; omega) | (refine VG ?_ ?_ <;> intro hg) | (refine VC ?_ ?_ <;> intro hc))
         refine WQ_loop (q + 1) ⟨rfl, rfl, rfl, trivial⟩ ⟨hlt, hI4, fun j hj => ?_, ⟨_, rfl, e2⟩, hLG, hS⟩ (by omega)
         rcases Nat.lt_or_ge j q with h | h
         · exact hfit j h
         · obtain rfl : j = q := by omega
           rw [hfq]; exact hd
     · have hne : ¬ ((formL.getD q 0).toNat : Int) = 100 := fun h => hc100 (by
        have h100 : (100 : UInt8).toNat = 100 := rfl
        exact UInt8.toNat_inj.1 (by omega))
       have hfq : fitL (formL.getD q 0) (s.getD q 0) = decide (s.getD q 0 = formL.getD q 0) := by unfold fitL; rw [if_neg hc100]
       have heq : byte s q = ((formL.getD q 0).toNat : Int) ↔ s.getD q 0 = formL.getD q 0 := by
        rw [hby]
        constructor
        · intro h; exact UInt8.toNat_inj.1 (by omega)
        · intro h; rw [h]
       by_cases hx : byte s q = ((formL.getD q 0).toNat : Int)
       · repeat' (first | refine W1 ?_ | (exfalso; omega) | (refine VG ?_ ?_ <;> intro hg) | (refine VC ?_ ?_ <;> intro hc))
         refine WQ_loop (q + 1) ⟨rfl, rfl, rfl, trivial⟩ ⟨hlt, hI4, fun j hj => ?_, ⟨_, rfl, e2⟩, hLG, hS⟩ (by omega)
         rcases Nat.lt_or_ge j q with h | h
         · exact hfit j h
         · obtain rfl : j = q := by omega
           rw [hfq]; exact decide_eq_true (heq.1 hx)
       · have hz := zip_nofit (s := s) (by omega) hlt (by rw [hfq]; exact decide_eq_false (fun h => hx (heq.2 h)))
         rw [if_neg (by rw [hz]; decide)]
         repeat' (first | refine W1 ?_ | (exfalso; omega) | (refine VG ?_ ?_ <;> intro hg) | (refine VC ?_ ?_ <;> intro hc))
         refine WL_build (vs := []) rfl tk0 rfl ?_
         refine WL_eff0 (OE_storeA (us := Flat.enc (⟨0, 0, [], 0⟩ : Tkn)) rfl rfl rfl rfl (Flat.one _) e2 rfl) ?_
         rintro _ wz ⟨hT, e2'⟩
         refine W ?_
         refine WQ_retct rfl rfl rfl e2' rfl rfl ?_
         exact .mk ⟨rfl, hS.own hT (fun c hc => .inr (by simp at hc; omega))⟩
   · have hq11 : q = 11 := by omega
     subst hq11
     have hz := zip_fit (s := s) (by omega) hfit
     rw [if_pos hz]
     refine W ?_
     refine WL_eff (OE_nextEnd rfl hI (by omega)) rfl ?_
     rintro _ wv ⟨rfl, hwv⟩
     subst wv
     refine W ?_
     refine WL_sliceT_lh (l := 1) (r := 11) rfl rfl rfl rfl rfl (by omega) (by omega) rfl ?_
     refine CL rfl (evs1 rfl) rfl (DParse_any _ _ hLG (by simp; omega)) ?_
     rintro _ w5 ⟨rfl, hT⟩
     replace e2 := e2.up hT
     replace hS := hS.trans hT
     clear hT
     dsimp only
     by_cases h0 : (dateP ((s.take 11).drop 1)).2 = 0
     · rw [if_pos h0]
       repeat' (first | refine W1 ?_ | (exfalso; omega) | (refine VG ?_ ?_ <;> intro hg) | (refine VC ?_ ?_ <;> intro hc))
       refine WL_sliceT_h (r := 11) rfl rfl rfl (by omega) rfl ?_
       refine W ?_
       refine WL_build (vs := [(0, .int .i64 3), (2, str (s.take 11)), (3, .int .i64 (dateP ((s.take 11).drop 1)).1)]) rfl (tk3 _ _ _) rfl ?_
       refine WL_eff0 (OE_storeA (us := Flat.enc (⟨3, 0, s.take 11, (dateP ((s.take 11).drop 1)).1⟩ : Tkn)) rfl rfl rfl rfl (Flat.one _) e2 rfl) ?_
       rintro _ wz ⟨hT, e2'⟩
       refine W ?_
       refine WQ_retct rfl rfl rfl e2' rfl rfl ?_
       exact .mk ⟨rfl, hS.own hT (fun c hc => .inr (by simp at hc; omega))⟩
     · rw [if_neg h0]
       repeat' (first | refine W1 ?_ | (exfalso; omega) | (refine VG ?_ ?_ <;> intro hg) | (refine VC ?_ ?_ <;> intro hc))
       refine WL_build (vs := []) rfl tk0 rfl ?_
       refine WL_eff0 (OE_storeA (us := Flat.enc (⟨0, 0, [], 0⟩ : Tkn)) rfl rfl rfl rfl (Flat.one _) e2 rfl) ?_
       rintro _ wz ⟨hT, e2'⟩
       refine W ?_
       refine WQ_retct rfl rfl rfl e2' rfl rfl ?_
       exact .mk ⟨rfl, hS.own hT (fun c hc => .inr (by simp at hc; omega))⟩
end Go.Proofs.YtgpibcgebpgmiaaGreatDoor
namespace Go.Eng
open Go Go.RowKit Go.Proofs
theorem readL_err {s : Str} {e : Int} (h : readL s = .err e) : e ≠ 0 := by
 unfold readL at h
 simp only at h
 split at h
 · unfold wordL at h
   simp only at h
   split at h <;> simp at h
   omega
 · split at h
   · unfold numberL at h
     simp only at h
     split at h
     · simp at h; omega
     · split at h <;> simp at h
       omega
   · split at h
     · unfold dayL at h
       split at h
       · simp at h; omega
       · split at h
         · simp only at h
           split at h <;> simp at h
           omega
         · simp at h; omega
     · unfold symbolL at h
       split at h
       · simp at h
       · split at h <;> simp at h
         omega
theorem nlM_pos {s : Str} (h : s.getD 0 0 = 35) : 1 ≤ nlM s := by
 cases s with
 | nil => simp at h
 | cons a r =>
   simp only [List.getD_cons_zero] at h
   subst h
   unfold nlM
   have h0 : 0 < (35 :: r : Str).length := by simp
   have hl : (35 :: r : Str).length = r.length + 1 := by simp
   rw [hl]
   unfold firstM
   rw [if_pos h0, dec_ascii h0 (by show (35 : UInt8).toNat < 128; decide)]
   simp only
   have hn : notNl ((35 :: r : Str)[0]).toNat = true := by show notNl (35 : UInt8).toNat = true; decide
   rw [if_pos hn]
   exact firstM_ge _ _ _ _ (by simp)
end Go.Eng
namespace Go.Proofs.YtgpibcgebpgmiaaGreatDoor
open Go Go.Eng Go.RowKit Go.Proofs
theorem buildST1 (t : Tkn) (w : World) : (Instr.buildSlice 62 1 #[(0, .agg (Flat.enc t).toArray)]).run Tryz.prog w = .ok (.slice (some ⟨w.heap.size, 0, none⟩) 1 1) (w.alloc (.cells (Flat.enc t).toArray 61)) := by kernel_rfl
def TkV (w w' : World) (r : Value) : Tks → Prop
 | .err a c => r = .tuple #[.slice none 0 0, .int .i64 a, .int .i64 c]
 | .ok l => ∃ tv, r = .tuple #[tv, .int .i64 0, .int .i64 0] ∧ RowF 61 w w' tv l
set_option maxHeartbeats 4000000 in
theorem Tokens_any (s : Str) (ev : Value) (w : World) (hLG : LenG w) (hv4 : w.cell? ⟨4, 0, none⟩ = some ev) (hev : ev = .nilIface ∨ ∃ te pe, ev = .iface te pe) (hl : s.length ≤ 1000000) :
 Calls Tryz.prog 65 #[str s] w (Ret fun r w' => TkV w w' r (tokensM s) ∧ Stp [] w w') := by
 unfold tokensM
 refine calls_of_WC1 (n := 72) Tryz.func65 rfl rfl rfl ?_
 refine W ?_
 refine WC_scope ?_
 by_cases h4 : 4000 < s.length
 · rw [if_pos h4]
   repeat' (first | refine W1 ?_ | (exfalso; omega) | (refine VG ?_ ?_ <;> intro hg) | (refine VC ?_ ?_ <;> intro hc))
   repeat (first | refine WQ_noGoto_ret ?_ | refine W1 ?_)
   refine WR ?_
   exact .mk ⟨rfl, Stp.refl _ _⟩
 rw [if_neg h4]
 generalize hR : tokensG nlM s (s.length + 1) 0 [] = R
 repeat' (first | refine W1 ?_ | (exfalso; omega) | (refine VG ?_ ?_ <;> intro hg) | (refine VC ?_ ?_ <;> intro hc))
 refine WC_label ?_
 repeat' (first | refine W1 ?_ | (exfalso; omega) | (refine VG ?_ ?_ <;> intro hg) | (refine VC ?_ ?_ <;> intro hc))
 refine WC_loop (σ := Nat × Nat × List Tkn × Value) (fun q => [(0, str s), (5, q.2.2.2), (6, .int .i64 (q.2.1 : Int))])
  (fun q w' => tokensG nlM s q.1 q.2.1 q.2.2.1 = R ∧ s.length < q.2.1 + q.1 ∧ q.2.1 ≤ s.length ∧ q.2.2.1.length ≤ q.2.1 ∧ RowF 61 w w' q.2.2.2 q.2.2.1)
  (fun q => q.1) (s.length + 1, 0, [], .slice none 0 0) ⟨rfl, rfl, rfl, trivial⟩ ⟨hR, by dsimp only; omega, Nat.zero_le _, Nat.le_refl _, RowF.nil⟩ ?_
 clear hR
 rintro ⟨f, q, l, lv⟩ w1 ⟨hR, hf, hq, hll, hrow⟩
 dsimp only at hR hf hq hll hrow ⊢
 have hrow0 := hrow
 cases f with
 | zero => omega
 | succ f =>
 simp only [tokensG] at hR
 by_cases hlt : q < s.length
 rotate_left
 · rw [if_neg hlt] at hR
   subst hR
   repeat' (first | refine W1 ?_ | (exfalso; omega) | (refine VG ?_ ?_ <;> intro hg) | (refine VC ?_ ?_ <;> intro hc))
   refine WL_build (vs := [(0, .int .i64 0), (1, .int .i64 (q : Int))]) rfl (tk1 _ _) rfl ?_
   refine WL_eff (OE_buildSlice (vs := [(0, .agg (Flat.enc (⟨0, (q : Int), [], 0⟩ : Tkn)).toArray)]) rfl (buildST1 _)) rfl ?_
   intro bv w3 hN
   have hbv : SlV (ob lv) w3 bv [(⟨0, (q : Int), [], 0⟩ : Tkn)] := hN.slv (fun b hb => (hrow.ob_le b hb).2) rfl rfl (by simp [maxLen])
   replace hrow := hrow.up (NewSl.stp hN)
   clear hN
   refine WL_eff (OE_appF rfl (by decide) rfl rfl hrow hbv (by simp only [List.length_cons, List.length_nil]; omega) (by simp only [List.length_cons, List.length_nil, maxLen]; omega)) rfl ?_
   rintro lv' w4 ⟨hrow', hT, hown⟩
   repeat' (first | refine W1 ?_ | (exfalso; omega) | (refine VG ?_ ?_ <;> intro hg) | (refine VC ?_ ?_ <;> intro hc))
   repeat (first | refine WQ_noGoto_ret ?_ | refine W1 ?_)
   refine WR ?_
   exact .mk ⟨⟨lv', rfl, hrow'⟩, hrow'.2⟩
 rw [if_pos hlt] at hR
 have hne : s.drop q ≠ [] := fun h => by have := congrArg List.length h; simp at this; omega
 have hdl : (s.drop q).length ≠ 0 := fun h => hne (List.length_eq_zero_iff.1 h)
 have hdl2 : (s.drop q).length ≤ 1000000 := by simp; omega
 have hLG1 := hLG.up hrow.2
 have hv41 := hrow.2.cell (by simp) hv4
 repeat' (first | refine W1 ?_ | (exfalso; omega) | (refine VG ?_ ?_ <;> intro hg) | (refine VC ?_ ?_ <;> intro hc))
 refine WL_sliceT_l (l := q) rfl rfl rfl (by omega) rfl ?_
 repeat' (first | refine W1 ?_ | (exfalso; omega) | (refine VG ?_ ?_ <;> intro hg) | (refine VC ?_ ?_ <;> intro hc))
 have hby : byte (s.drop q) 0 = (((s.drop q).getD 0 0).toNat : Int) := rfl
 have hbr := byte_range (s.drop q) 0
 refine WL_indexT (i := 0) rfl rfl rfl (by omega) rfl ?_
 refine WL_pure (PR_convTo (b := byte (s.drop q) 0) rfl (wrap_i32_of hbr.1 (by omega))) rfl ?_
 rw [hby]
 repeat' (first | refine W1 ?_ | (exfalso; omega) | (refine VG ?_ ?_ <;> intro hg) | (refine VC ?_ ?_ <;> intro hc))
 refine CL rfl (evs2 rfl rfl) rfl (hasSpace_any ((s.drop q).getD 0 0) _) ?_
 rintro _ w2 ⟨rfl, hT⟩
 replace hrow := hrow.up hT
 replace hLG1 := hLG1.up hT
 replace hv41 := hT.cell (by simp) hv41
 have hrow0 := hrow
 clear hT
 cases hsp : spaceL ((s.drop q).getD 0 0)
 rotate_left
 · rw [if_pos hsp] at hR
   repeat' (first | refine W1 ?_ | (exfalso; omega) | (refine VG ?_ ?_ <;> intro hg) | (refine VC ?_ ?_ <;> intro hc))
   repeat (first | refine WQ_noGoto_exit ?_ | refine W1 ?_)
   exact WQ_loop (f, q + 1, l, lv) ⟨rfl, rfl, rfl, trivial⟩ ⟨hR, by dsimp only; omega, by dsimp only; omega, by dsimp only; omega, hrow⟩ (by dsimp only; omega)
 rw [if_neg (by rw [hsp]; decide)] at hR
 have hns : (s.drop q).getD 0 0 ≠ 32 := fun h => by rw [h] at hsp; exact absurd hsp (by decide)
 by_cases h35 : (s.drop q).getD 0 0 = 35
 · rw [if_pos h35] at hR
   have hnp := nlM_pos h35
   have hnl : nlM (s.drop q) ≤ (s.drop q).length := firstM_le _ _ _ _
   have hnl2 : (s.drop q).length = s.length - q := by simp
   rw [h35]
   have h35' : (((35 : UInt8).toNat : Nat) : Int) = 35 := rfl
   rw [h35']
   repeat' (first | refine W1 ?_ | (exfalso; omega) | (refine VG ?_ ?_ <;> intro hg) | (refine VC ?_ ?_ <;> intro hc))
   refine CL rfl (evs2 rfl rfl) rfl (first_any notNl nl_any (s.drop q) _ hdl2) ?_
   rintro _ w3 ⟨rfl, hT⟩
   replace hrow := hrow.up hT
   have hnlm : firstM (s.drop q) notNl (s.drop q).length 0 = nlM (s.drop q) := rfl
   rw [hnlm]
   repeat' (first | refine W1 ?_ | (exfalso; omega) | (refine VG ?_ ?_ <;> intro hg) | (refine VC ?_ ?_ <;> intro hc))
   repeat (first | refine WQ_noGoto_exit ?_ | refine W1 ?_)
   exact WQ_loop (f, q + nlM (s.drop q), l, lv) ⟨rfl, rfl, rfl, trivial⟩ ⟨hR, by dsimp only; omega, by dsimp only; omega, by dsimp only; omega, hrow⟩ (by dsimp only; omega)
 rw [if_neg h35] at hR
 have hn35 : ¬ ((((s.drop q).getD 0 0).toNat : Nat) : Int) = 35 := fun h => h35 (by
  have h35' : (35 : UInt8).toNat = 35 := rfl
  exact UInt8.toNat_inj.1 (by omega))
 repeat' (first | refine W1 ?_ | (exfalso; omega) | (refine VG ?_ ?_ <;> intro hg) | (refine VC ?_ ?_ <;> intro hc))
 refine CL rfl (evs1 rfl) rfl (letter_any ((s.drop q).getD 0 0).toNat _) ?_
 rintro _ wv ⟨rfl, hwv⟩
 subst wv
 have hlb : letN ((s.drop q).getD 0 0).toNat = letB ((s.drop q).getD 0 0) := rfl
 rw [hlb]
 cases hlt1 : letB ((s.drop q).getD 0 0)
 rotate_left
 · have hrd : readL (s.drop q) = wordL (s.drop q) := by unfold readL; simp only [hlt1, if_true]
   repeat' (first | refine W1 ?_ | (exfalso; omega) | (refine VG ?_ ?_ <;> intro hg) | (refine VC ?_ ?_ <;> intro hc))
   cases hr : readL (s.drop q) with
   | err e =>
     rw [hr] at hR
     subst hR
     have he := readL_err hr
     refine CL rfl (evs1 rfl) rfl (wordL_any (s.drop q) _ hdl2) ?_
     rintro _ w4 ⟨rfl, hT⟩
     rw [← hrd, hr]
     simp only [lxV]
     repeat' (first | refine W1 ?_ | (exfalso; omega) | (refine VG ?_ ?_ <;> intro hg) | (refine VC ?_ ?_ <;> intro hc))
     refine WL_eff OE_alloc rfl ?_
     rintro _ w5 ⟨b10, rfl, hb10, e10, hT2⟩
     refine WL_eff0 (OE_storeA (us := Flat.enc (⟨0, 0, [], 0⟩ : Tkn)) rfl rfl rfl rfl (Flat.one _) e10 rfl) ?_
     rintro _ w6 ⟨hT3, e10'⟩
     have hSS := (hrow.2.trans hT).trans (hT2.own hT3 (fun c hc => .inr (by simp at hc; omega)))
     repeat' (first | refine W1 ?_ | (exfalso; omega) | (refine VG ?_ ?_ <;> intro hg) | (refine VC ?_ ?_ <;> intro hc))
     repeat (first | refine WQ_noGoto_ret ?_ | refine W1 ?_)
     refine WR ?_
     exact .mk ⟨rfl, hSS⟩
   | ok t =>
     rw [hr] at hR
     simp only at hR
     have hrok := readL_ok hne hns hr
     have htpos : t.text.length ≠ 0 := fun h => hrok.1.text (List.length_eq_zero_iff.1 h)
     have htle : t.text.length ≤ s.length - q := by have := hrok.2.1; simpa using this
     refine CL rfl (evs1 rfl) rfl (wordL_any (s.drop q) _ hdl2) ?_
     rintro _ w4 ⟨rfl, hT⟩
     rw [← hrd, hr]
     simp only [lxV]
     replace hrow := hrow.up hT
     clear hT
     repeat' (first | refine W1 ?_ | (exfalso; omega) | (refine VG ?_ ?_ <;> intro hg) | (refine VC ?_ ?_ <;> intro hc))
     refine WL_eff OE_alloc rfl ?_
     rintro _ w5 ⟨b10, rfl, hb10, e10, hT⟩
     refine WL_eff0 (OE_storeA (us := Flat.enc t) rfl rfl rfl rfl (Flat.one _) e10 rfl) ?_
     rintro _ w6 ⟨hT2, e10'⟩
     have hTT := hT.own hT2 (fun c hc => .inr (by simp at hc; omega))
     have hn10 : b10 ∉ ob lv := fun h => by have := (hrow.ob_le b10 h).2; omega
     clear hT hT2 e10
     repeat' (first | refine W1 ?_ | (exfalso; omega) | (refine VG ?_ ?_ <;> intro hg) | (refine VC ?_ ?_ <;> intro hc))
     refine WL_eff0 (OE_store1 (u := .int .i64 (q : Int)) rfl rfl rfl rfl e10' (by simp [Flat.enc])) ?_
     rintro _ w7 ⟨hT, e11⟩
     replace e11 : Blk w7 b10 61 (Flat.enc ({ t with pos := (q : Int) } : Tkn)) := e11
     replace hrow : RowF 61 w w7 lv l := hrow.up (hTT.own hT (fun c hc => .inr (by simp at hc; omega)))
     clear hT e10'
     repeat' (first | refine W1 ?_ | (exfalso; omega) | (refine VG ?_ ?_ <;> intro hg) | (refine VC ?_ ?_ <;> intro hc))
     refine WL_eff (OE_buildSlice (vs := [(0, .agg (Flat.enc ({ t with pos := (q : Int) } : Tkn)).toArray)]) rfl (buildST1 _)) rfl ?_
     intro bv w8 hN
     have hbv : SlV (ob lv) w8 bv [({ t with pos := (q : Int) } : Tkn)] := hN.slv (fun b hb => (hrow.ob_le b hb).2) rfl rfl (by simp [maxLen])
     replace hrow := hrow.up (NewSl.stp hN)
     replace e11 := e11.up (NewSl.stp hN)
     clear hN
     refine WL_eff (OE_appF rfl (by decide) rfl rfl hrow hbv (by simp only [List.length_cons, List.length_nil]; omega) (by simp only [List.length_cons, List.length_nil, maxLen]; omega)) rfl ?_
     rintro lv' w9 ⟨hrow', hT, hown⟩
     replace e11 := e11.ext hT hn10
     clear hT
     have htx : ({ t with pos := (q : Int) } : Tkn).text.length = t.text.length := rfl
     repeat' (first | refine W1 ?_ | (exfalso; omega) | (refine VG ?_ ?_ <;> intro hg) | (refine VC ?_ ?_ <;> intro hc))
     repeat (first | refine WQ_noGoto_exit ?_ | refine W1 ?_)
     exact WQ_loop (f, q + t.text.length, l ++ [{ t with pos := (q : Int) }], lv') ⟨rfl, rfl, rfl, trivial⟩ ⟨hR, by dsimp only; omega, by dsimp only; omega, by simp; omega, hrow'⟩ (by dsimp only; omega)
 repeat' (first | refine W1 ?_ | (exfalso; omega) | (refine VG ?_ ?_ <;> intro hg) | (refine VC ?_ ?_ <;> intro hc))
 refine CL rfl (evs1 rfl) rfl (digit_any ((s.drop q).getD 0 0).toNat _) ?_
 rintro _ wv ⟨rfl, hwv⟩
 subst wv
 have hdb : digN ((s.drop q).getD 0 0).toNat = digB ((s.drop q).getD 0 0) := rfl
 rw [hdb]
 cases hdg : digB ((s.drop q).getD 0 0)
 rotate_left
 · have hrd : readL (s.drop q) = numberL (s.drop q) := by unfold readL; simp only [hlt1, hdg, if_true, Bool.false_eq_true, if_false]
   repeat' (first | refine W1 ?_ | (exfalso; omega) | (refine VG ?_ ?_ <;> intro hg) | (refine VC ?_ ?_ <;> intro hc))
   cases hr : readL (s.drop q) with
   | err e =>
     rw [hr] at hR
     subst hR
     have he := readL_err hr
     refine CL rfl (evs1 rfl) rfl (numberX_any (s.drop q) ev _ hdl2 hdg hne hv41 hev) ?_
     rintro _ w4 ⟨rfl, hT⟩
     rw [← hrd, hr]
     simp only [lxV]
     repeat' (first | refine W1 ?_ | (exfalso; omega) | (refine VG ?_ ?_ <;> intro hg) | (refine VC ?_ ?_ <;> intro hc))
     refine WL_eff OE_alloc rfl ?_
     rintro _ w5 ⟨b10, rfl, hb10, e10, hT2⟩
     refine WL_eff0 (OE_storeA (us := Flat.enc (⟨0, 0, [], 0⟩ : Tkn)) rfl rfl rfl rfl (Flat.one _) e10 rfl) ?_
     rintro _ w6 ⟨hT3, e10'⟩
     have hSS := (hrow.2.trans hT).trans (hT2.own hT3 (fun c hc => .inr (by simp at hc; omega)))
     repeat' (first | refine W1 ?_ | (exfalso; omega) | (refine VG ?_ ?_ <;> intro hg) | (refine VC ?_ ?_ <;> intro hc))
     repeat (first | refine WQ_noGoto_ret ?_ | refine W1 ?_)
     refine WR ?_
     exact .mk ⟨rfl, hSS⟩
   | ok t =>
     rw [hr] at hR
     simp only at hR
     have hrok := readL_ok hne hns hr
     have htpos : t.text.length ≠ 0 := fun h => hrok.1.text (List.length_eq_zero_iff.1 h)
     have htle : t.text.length ≤ s.length - q := by have := hrok.2.1; simpa using this
     refine CL rfl (evs1 rfl) rfl (numberX_any (s.drop q) ev _ hdl2 hdg hne hv41 hev) ?_
     rintro _ w4 ⟨rfl, hT⟩
     rw [← hrd, hr]
     simp only [lxV]
     replace hrow := hrow.up hT
     clear hT
     repeat' (first | refine W1 ?_ | (exfalso; omega) | (refine VG ?_ ?_ <;> intro hg) | (refine VC ?_ ?_ <;> intro hc))
     refine WL_eff OE_alloc rfl ?_
     rintro _ w5 ⟨b10, rfl, hb10, e10, hT⟩
     refine WL_eff0 (OE_storeA (us := Flat.enc t) rfl rfl rfl rfl (Flat.one _) e10 rfl) ?_
     rintro _ w6 ⟨hT2, e10'⟩
     have hTT := hT.own hT2 (fun c hc => .inr (by simp at hc; omega))
     have hn10 : b10 ∉ ob lv := fun h => by have := (hrow.ob_le b10 h).2; omega
     clear hT hT2 e10
     repeat' (first | refine W1 ?_ | (exfalso; omega) | (refine VG ?_ ?_ <;> intro hg) | (refine VC ?_ ?_ <;> intro hc))
     refine WL_eff0 (OE_store1 (u := .int .i64 (q : Int)) rfl rfl rfl rfl e10' (by simp [Flat.enc])) ?_
     rintro _ w7 ⟨hT, e11⟩
     replace e11 : Blk w7 b10 61 (Flat.enc ({ t with pos := (q : Int) } : Tkn)) := e11
     replace hrow : RowF 61 w w7 lv l := hrow.up (hTT.own hT (fun c hc => .inr (by simp at hc; omega)))
     clear hT e10'
     repeat' (first | refine W1 ?_ | (exfalso; omega) | (refine VG ?_ ?_ <;> intro hg) | (refine VC ?_ ?_ <;> intro hc))
     refine WL_eff (OE_buildSlice (vs := [(0, .agg (Flat.enc ({ t with pos := (q : Int) } : Tkn)).toArray)]) rfl (buildST1 _)) rfl ?_
     intro bv w8 hN
     have hbv : SlV (ob lv) w8 bv [({ t with pos := (q : Int) } : Tkn)] := hN.slv (fun b hb => (hrow.ob_le b hb).2) rfl rfl (by simp [maxLen])
     replace hrow := hrow.up (NewSl.stp hN)
     replace e11 := e11.up (NewSl.stp hN)
     clear hN
     refine WL_eff (OE_appF rfl (by decide) rfl rfl hrow hbv (by simp only [List.length_cons, List.length_nil]; omega) (by simp only [List.length_cons, List.length_nil, maxLen]; omega)) rfl ?_
     rintro lv' w9 ⟨hrow', hT, hown⟩
     replace e11 := e11.ext hT hn10
     clear hT
     have htx : ({ t with pos := (q : Int) } : Tkn).text.length = t.text.length := rfl
     repeat' (first | refine W1 ?_ | (exfalso; omega) | (refine VG ?_ ?_ <;> intro hg) | (refine VC ?_ ?_ <;> intro hc))
     repeat (first | refine WQ_noGoto_exit ?_ | refine W1 ?_)
     exact WQ_loop (f, q + t.text.length, l ++ [{ t with pos := (q : Int) }], lv') ⟨rfl, rfl, rfl, trivial⟩ ⟨hR, by dsimp only; omega, by dsimp only; omega, by simp; omega, hrow'⟩ (by dsimp only; omega)
 by_cases h64 : (s.drop q).getD 0 0 = 64
 · have hrd : readL (s.drop q) = dayL (s.drop q) := by
    unfold readL
    simp only [hlt1, hdg, Bool.false_eq_true, if_false]
    rw [if_pos h64]
   rw [h64]
   have h64' : (((64 : UInt8).toNat : Nat) : Int) = 64 := rfl
   rw [h64']
   repeat' (first | refine W1 ?_ | (exfalso; omega) | (refine VG ?_ ?_ <;> intro hg) | (refine VC ?_ ?_ <;> intro hc))
   cases hr : readL (s.drop q) with
   | err e =>
     rw [hr] at hR
     subst hR
     have he := readL_err hr
     refine CL rfl (evs1 rfl) rfl (day_any (s.drop q) _ hLG1 hdl2) ?_
     rintro _ w4 ⟨rfl, hT⟩
     rw [← hrd, hr]
     simp only [lxV]
     repeat' (first | refine W1 ?_ | (exfalso; omega) | (refine VG ?_ ?_ <;> intro hg) | (refine VC ?_ ?_ <;> intro hc))
     refine WL_eff OE_alloc rfl ?_
     rintro _ w5 ⟨b10, rfl, hb10, e10, hT2⟩
     refine WL_eff0 (OE_storeA (us := Flat.enc (⟨0, 0, [], 0⟩ : Tkn)) rfl rfl rfl rfl (Flat.one _) e10 rfl) ?_
     rintro _ w6 ⟨hT3, e10'⟩
     have hSS := (hrow.2.trans hT).trans (hT2.own hT3 (fun c hc => .inr (by simp at hc; omega)))
     repeat' (first | refine W1 ?_ | (exfalso; omega) | (refine VG ?_ ?_ <;> intro hg) | (refine VC ?_ ?_ <;> intro hc))
     repeat (first | refine WQ_noGoto_ret ?_ | refine W1 ?_)
     refine WR ?_
     exact .mk ⟨rfl, hSS⟩
   | ok t =>
     rw [hr] at hR
     simp only at hR
     have hrok := readL_ok hne hns hr
     have htpos : t.text.length ≠ 0 := fun h => hrok.1.text (List.length_eq_zero_iff.1 h)
     have htle : t.text.length ≤ s.length - q := by have := hrok.2.1; simpa using this
     refine CL rfl (evs1 rfl) rfl (day_any (s.drop q) _ hLG1 hdl2) ?_
     rintro _ w4 ⟨rfl, hT⟩
     rw [← hrd, hr]
     simp only [lxV]
     replace hrow := hrow.up hT
     clear hT
     repeat' (first | refine W1 ?_ | (exfalso; omega) | (refine VG ?_ ?_ <;> intro hg) | (refine VC ?_ ?_ <;> intro hc))
     refine WL_eff OE_alloc rfl ?_
     rintro _ w5 ⟨b10, rfl, hb10, e10, hT⟩
     refine WL_eff0 (OE_storeA (us := Flat.enc t) rfl rfl rfl rfl (Flat.one _) e10 rfl) ?_
     rintro _ w6 ⟨hT2, e10'⟩
     have hTT := hT.own hT2 (fun c hc => .inr (by simp at hc; omega))
     have hn10 : b10 ∉ ob lv := fun h => by have := (hrow.ob_le b10 h).2; omega
     clear hT hT2 e10
     repeat' (first | refine W1 ?_ | (exfalso; omega) | (refine VG ?_ ?_ <;> intro hg) | (refine VC ?_ ?_ <;> intro hc))
     refine WL_eff0 (OE_store1 (u := .int .i64 (q : Int)) rfl rfl rfl rfl e10' (by simp [Flat.enc])) ?_
     rintro _ w7 ⟨hT, e11⟩
     replace e11 : Blk w7 b10 61 (Flat.enc ({ t with pos := (q : Int) } : Tkn)) := e11
     replace hrow : RowF 61 w w7 lv l := hrow.up (hTT.own hT (fun c hc => .inr (by simp at hc; omega)))
     clear hT e10'
     repeat' (first | refine W1 ?_ | (exfalso; omega) | (refine VG ?_ ?_ <;> intro hg) | (refine VC ?_ ?_ <;> intro hc))
     refine WL_eff (OE_buildSlice (vs := [(0, .agg (Flat.enc ({ t with pos := (q : Int) } : Tkn)).toArray)]) rfl (buildST1 _)) rfl ?_
     intro bv w8 hN
     have hbv : SlV (ob lv) w8 bv [({ t with pos := (q : Int) } : Tkn)] := hN.slv (fun b hb => (hrow.ob_le b hb).2) rfl rfl (by simp [maxLen])
     replace hrow := hrow.up (NewSl.stp hN)
     replace e11 := e11.up (NewSl.stp hN)
     clear hN
     refine WL_eff (OE_appF rfl (by decide) rfl rfl hrow hbv (by simp only [List.length_cons, List.length_nil]; omega) (by simp only [List.length_cons, List.length_nil, maxLen]; omega)) rfl ?_
     rintro lv' w9 ⟨hrow', hT, hown⟩
     replace e11 := e11.ext hT hn10
     clear hT
     have htx : ({ t with pos := (q : Int) } : Tkn).text.length = t.text.length := rfl
     repeat' (first | refine W1 ?_ | (exfalso; omega) | (refine VG ?_ ?_ <;> intro hg) | (refine VC ?_ ?_ <;> intro hc))
     repeat (first | refine WQ_noGoto_exit ?_ | refine W1 ?_)
     exact WQ_loop (f, q + t.text.length, l ++ [{ t with pos := (q : Int) }], lv') ⟨rfl, rfl, rfl, trivial⟩ ⟨hR, by dsimp only; omega, by dsimp only; omega, by simp; omega, hrow'⟩ (by dsimp only; omega)
 have hrd : readL (s.drop q) = symbolL (s.drop q) := by
  unfold readL
  simp only [hlt1, hdg, Bool.false_eq_true, if_false]
  rw [if_neg h64]
 have hn64 : ¬ ((((s.drop q).getD 0 0).toNat : Nat) : Int) = 64 := fun h => h64 (by
  have h64' : (64 : UInt8).toNat = 64 := rfl
  exact UInt8.toNat_inj.1 (by omega))
 repeat' (first | refine W1 ?_ | (exfalso; omega) | (refine VG ?_ ?_ <;> intro hg) | (refine VC ?_ ?_ <;> intro hc))
 cases hr : readL (s.drop q) with
 | err e =>
   rw [hr] at hR
   subst hR
   have he := readL_err hr
   refine CL rfl (evs1 rfl) rfl (symbol_any (s.drop q) _ hne) ?_
   rintro _ w4 ⟨rfl, hT⟩
   rw [← hrd, hr]
   simp only [lxV]
   repeat' (first | refine W1 ?_ | (exfalso; omega) | (refine VG ?_ ?_ <;> intro hg) | (refine VC ?_ ?_ <;> intro hc))
   refine WL_eff OE_alloc rfl ?_
   rintro _ w5 ⟨b10, rfl, hb10, e10, hT2⟩
   refine WL_eff0 (OE_storeA (us := Flat.enc (⟨0, 0, [], 0⟩ : Tkn)) rfl rfl rfl rfl (Flat.one _) e10 rfl) ?_
   rintro _ w6 ⟨hT3, e10'⟩
   have hSS := (hrow.2.trans hT).trans (hT2.own hT3 (fun c hc => .inr (by simp at hc; omega)))
   repeat' (first | refine W1 ?_ | (exfalso; omega) | (refine VG ?_ ?_ <;> intro hg) | (refine VC ?_ ?_ <;> intro hc))
   repeat (first | refine WQ_noGoto_ret ?_ | refine W1 ?_)
   refine WR ?_
   exact .mk ⟨rfl, hSS⟩
 | ok t =>
   rw [hr] at hR
   simp only at hR
   have hrok := readL_ok hne hns hr
   have htpos : t.text.length ≠ 0 := fun h => hrok.1.text (List.length_eq_zero_iff.1 h)
   have htle : t.text.length ≤ s.length - q := by have := hrok.2.1; simpa using this
   refine CL rfl (evs1 rfl) rfl (symbol_any (s.drop q) _ hne) ?_
   rintro _ w4 ⟨rfl, hT⟩
   rw [← hrd, hr]
   simp only [lxV]
   replace hrow := hrow.up hT
   clear hT
   repeat' (first | refine W1 ?_ | (exfalso; omega) | (refine VG ?_ ?_ <;> intro hg) | (refine VC ?_ ?_ <;> intro hc))
   refine WL_eff OE_alloc rfl ?_
   rintro _ w5 ⟨b10, rfl, hb10, e10, hT⟩
   refine WL_eff0 (OE_storeA (us := Flat.enc t) rfl rfl rfl rfl (Flat.one _) e10 rfl) ?_
   rintro _ w6 ⟨hT2, e10'⟩
   have hTT := hT.own hT2 (fun c hc => .inr (by simp at hc; omega))
   have hn10 : b10 ∉ ob lv := fun h => by have := (hrow.ob_le b10 h).2; omega
   clear hT hT2 e10
   repeat' (first | refine W1 ?_ | (exfalso; omega) | (refine VG ?_ ?_ <;> intro hg) | (refine VC ?_ ?_ <;> intro hc))
   refine WL_eff0 (OE_store1 (u := .int .i64 (q : Int)) rfl rfl rfl rfl e10' (by simp [Flat.enc])) ?_
   rintro _ w7 ⟨hT, e11⟩
   replace e11 : Blk w7 b10 61 (Flat.enc ({ t with pos := (q : Int) } : Tkn)) := e11
   replace hrow : RowF 61 w w7 lv l := hrow.up (hTT.own hT (fun c hc => .inr (by simp at hc; omega)))
   clear hT e10'
   repeat' (first | refine W1 ?_ | (exfalso; omega) | (refine VG ?_ ?_ <;> intro hg) | (refine VC ?_ ?_ <;> intro hc))
   refine WL_eff (OE_buildSlice (vs := [(0, .agg (Flat.enc ({ t with pos := (q : Int) } : Tkn)).toArray)]) rfl (buildST1 _)) rfl ?_
   intro bv w8 hN
   have hbv : SlV (ob lv) w8 bv [({ t with pos := (q : Int) } : Tkn)] := hN.slv (fun b hb => (hrow.ob_le b hb).2) rfl rfl (by simp [maxLen])
   replace hrow := hrow.up (NewSl.stp hN)
   replace e11 := e11.up (NewSl.stp hN)
   clear hN
   refine WL_eff (OE_appF rfl (by decide) rfl rfl hrow hbv (by simp only [List.length_cons, List.length_nil]; omega) (by simp only [List.length_cons, List.length_nil, maxLen]; omega)) rfl ?_
   rintro lv' w9 ⟨hrow', hT, hown⟩
   replace e11 := e11.ext hT hn10
   clear hT
   have htx : ({ t with pos := (q : Int) } : Tkn).text.length = t.text.length := rfl
   repeat' (first | refine W1 ?_ | (exfalso; omega) | (refine VG ?_ ?_ <;> intro hg) | (refine VC ?_ ?_ <;> intro hc))
   repeat (first | refine WQ_noGoto_exit ?_ | refine W1 ?_)
   exact WQ_loop (f, q + t.text.length, l ++ [{ t with pos := (q : Int) }], lv') ⟨rfl, rfl, rfl, trivial⟩ ⟨hR, by dsimp only; omega, by dsimp only; omega, by simp; omega, hrow'⟩ (by dsimp only; omega)
end Go.Proofs.YtgpibcgebpgmiaaGreatDoor
namespace Go.Eng
open Go Go.RowKit Go.Proofs
theorem tokensG_err {nl : Str → Nat} {s : Str} : ∀ (f at_ : Nat) (l : List Tkn) (a c : Int), tokensG nl s f at_ l = .err a c → c ≠ 0
 | 0, at_, l, a, c, h => by simp [tokensG] at h
 | f + 1, at_, l, a, c, h => by
   simp only [tokensG] at h
   split at h
   · split at h
     · exact tokensG_err f _ _ _ _ h
     · split at h
       · exact tokensG_err f _ _ _ _ h
       · cases hr : readL (s.drop at_) with
         | err e =>
           rw [hr] at h
           simp only [Tks.err.injEq] at h
           obtain ⟨_, rfl⟩ := h
           exact readL_err hr
         | ok t =>
           rw [hr] at h
           exact tokensG_err f _ _ _ _ h
   · simp at h
theorem tokensM_err {s : Str} {a c : Int} (h : tokensM s = .err a c) : c ≠ 0 := by
 unfold tokensM at h
 split at h
 · simp only [Tks.err.injEq] at h; omega
 · exact tokensG_err _ _ _ _ _ h
theorem tokensM_toks {s : Str} {l : List Tkn} (h : tokensM s = .ok l) : Toks l ∧ ∃ l1 p, l = l1 ++ [⟨0, p, [], 0⟩] ∧ ∀ t ∈ l1, TkOk t := by
 unfold tokensM at h
 split at h
 · cases h
 · rename_i hl
   obtain ⟨l1, p, rfl, h1, h2, h3⟩ := tokensG_ok (nl := nlM) (s := s) (by omega) (s.length + 1) 0 [] l (by simp) (by simp) (by simp) (by simp) h
   exact ⟨toks_of h1 h2 (by omega), l1, p, rfl, h1⟩
theorem rulesO_end {l : List Tkn} : ∀ (f : Nat) (rs : List RuleM) (i o : Nat) (rs' : List RuleM) (i' o' : Nat), rulesO l f rs i o = .ok rs' i' o' → l.length ≤ i + f → i' < l.length → (cur l i').kind = 0
 | 0, rs, i, o, rs', i', o', h, h1, h2 => by simp only [rulesO, Out.ok.injEq] at h; omega
 | f + 1, rs, i, o, rs', i', o', h, h1, h2 => by
   simp only [rulesO] at h
   split at h
   · rename_i hk
     simp only [Out.ok.injEq] at h
     obtain ⟨_, rfl, _⟩ := h
     exact hk
   · obtain ⟨r, i1, o1, h3, h4⟩ := bind_ok h
     have := ruleO_lt h3
     exact rulesO_end f _ _ _ _ _ _ h4 (by omega) h2
end Go.Eng
namespace Go.Proofs.YtgpibcgebpgmiaaGreatDoor
open Go Go.Eng Go.RowKit Go.Proofs
theorem assertF (a c : Int) (w : World) : (Instr.typeAssert (failV a c) 20 123 true).run Tryz.prog w = .ok (.tuple #[.agg #[.int .i64 a, .int .i64 c], .bool true]) w := by kernel_rfl
theorem assertN (w : World) : (Instr.typeAssert .nilIface 20 123 true).run Tryz.prog w = .ok (.tuple #[.agg #[.int .i64 0, .int .i64 0], .bool false]) w := by kernel_rfl
theorem catch_fail (a c : Int) (b7 b4 b5 b6 : Nat) (z7 v4 v5 v6 : Value) (w : World) (e7 : Blk w b7 23 [z7]) (e4 : Blk w b4 23 [v4]) (e5 : Blk w b5 3 [v5]) (e6 : Blk w b6 24 [v6])
 (hz : z7.cells.toList = [z7]) (hz1 : z7.oneCell' = true) (n74 : b7 ≠ b4) (n75 : b7 ≠ b5) (n76 : b7 ≠ b6) (n45 : b4 ≠ b5) (n46 : b4 ≠ b6) (n56 : b5 ≠ b6) :
 CallsD Tryz.prog 66 #[.pointer (some ⟨b7, 0, none⟩), .pointer (some ⟨b4, 0, none⟩), .pointer (some ⟨b5, 0, none⟩), .pointer (some ⟨b6, 0, none⟩)] (.panicking [⟨failV a c, false, false⟩]) w
  (fun e u' w' => ∃ v, e = .returned v ∧ (u' = .panicking [⟨failV a c, true, false⟩] ∧ Blk w' b4 23 [z7] ∧ Blk w' b5 3 [.int .i64 a] ∧ Blk w' b6 24 [.int .i64 c] ∧ Stp [b4, b5, b6] w w')) := by
 refine callsD_of_wpS Tryz.func66 rfl fun c₀ cs hu => ?_
 apply wpS_seq
 apply wpS_region
 simp [wpOpsS, go_sem, recoverD, hu, Tryz.ntmps66, Exit.thenS]
 refine wpS_of_WC (n := 22) (e := [(0, .pointer (some ⟨b7, 0, none⟩)), (1, .pointer (some ⟨b4, 0, none⟩)), (2, .pointer (some ⟨b5, 0, none⟩)), (3, .pointer (some ⟨b6, 0, none⟩)), (4, failV a c)]) (Has.of rfl (by simp) (by
  intro p hp
  simp only [List.mem_cons, List.not_mem_nil, or_false] at hp
  rcases hp with rfl | rfl | rfl | rfl | rfl <;> kernel_rfl)) ?_
 refine W ?_
 refine WL_pure (PR_typeAssert rfl (assertF a c)) rfl ?_
 refine W ?_
 refine WL_eff OE_alloc rfl ?_
 rintro _ w1 ⟨bf, rfl, hbf, ef, hT⟩
 refine WL_eff0 (OE_storeA (us := [.int .i64 a, .int .i64 c]) rfl rfl rfl rfl (by intro u hu; simp at hu; rcases hu with rfl | rfl <;> rfl) ef rfl) ?_
 rintro _ w2 ⟨hT2, ef'⟩
 have nf7 := e7.lt
 have nf4 := e4.lt
 have nf5 := e5.lt
 have nf6 := e6.lt
 have hS := hT.own hT2 (fun c hc => .inr (by simp at hc; omega))
 clear hT hT2 ef
 replace e7 := e7.up hS; replace e4 := e4.up hS; replace e5 := e5.up hS; replace e6 := e6.up hS
 refine W ?_
 refine WC_drawn 8 ([b4, b5, b6]) [] [(0, 1), (1, 0), (2, 1), (3, 0), (4, 1), (5, 2), (6, 2), (7, 2)] rfl mixed (by kernel_rfl) (by kernel_rfl) (by kernel_rfl) (fun w1 hS1 => ?_)
 replace e7 := e7.up hS1; replace e4 := e4.up hS1; replace e5 := e5.up hS1; replace e6 := e6.up hS1
 replace ef' := ef'.up hS1
 replace hS := hS.trans hS1
 clear hS1
 have m7 : b7 ∉ [b4, b5, b6] := by simp; exact ⟨n74, n75, n76⟩
 have mf : bf ∉ [b4, b5, b6] := by simp; omega
 refine WR_load_blk rfl trivial rfl rfl e7 m7 rfl rfl ?_
 refine WF_fieldAddr rfl trivial rfl rfl ?_
 refine WR_load_blk rfl trivial rfl rfl ef' mf rfl rfl ?_
 refine WF_fieldAddr rfl trivial rfl rfl ?_
 refine WR_load_blk rfl trivial rfl rfl ef' mf rfl rfl ?_
 refine WD_eff0 rfl trivial (OE_storeA (us := [z7]) rfl rfl hz rfl (by simpa using hz1) e4 rfl) (fun _ _ h => h.1.mono (by simp)) ?_
 rintro _ w3 ⟨hT, e4'⟩
 replace e5 := e5.ext hT (by simpa using n45.symm)
 replace e6 := e6.ext hT (by simpa using n46.symm)
 replace hS := (hS.mono (S' := [b4, b5, b6]) (by simp)).trans (hT.mono (by simp))
 clear hT
 refine WD_eff0 rfl trivial (OE_storeA (us := [.int .i64 a]) rfl rfl rfl rfl (by simp; rfl) e5 rfl) (fun _ _ h => h.1.mono (by simp)) ?_
 rintro _ w4 ⟨hT, e5'⟩
 replace e4' := e4'.ext hT (by simpa using n45)
 replace e6 := e6.ext hT (by simpa using n56.symm)
 replace hS := hS.trans (hT.mono (by simp))
 clear hT
 refine WD_eff0 rfl trivial (OE_storeA (us := [.int .i64 c]) rfl rfl rfl rfl (by simp; rfl) e6 rfl) (fun _ _ h => h.1.mono (by simp)) ?_
 rintro _ w5 ⟨hT, e6'⟩
 replace e4' := e4'.ext hT (by simpa using n46)
 replace e5' := e5'.ext hT (by simpa using n56)
 replace hS := hS.trans (hT.mono (by simp))
 refine WD_nil ?_
 refine W ?_
 first | refine WQ_ret0 rfl ?_ | refine WQ_end0 rfl ?_
 exact ⟨⟨_, rfl⟩, rfl, e4', e5', e6', hS⟩
theorem catch_none (b7 b4 b5 b6 : Nat) (w : World) :
 CallsD Tryz.prog 66 #[.pointer (some ⟨b7, 0, none⟩), .pointer (some ⟨b4, 0, none⟩), .pointer (some ⟨b5, 0, none⟩), .pointer (some ⟨b6, 0, none⟩)] .returning w
  (fun e u' w' => ∃ v, e = .returned v ∧ (u' = .returning ∧ Stp [] w w')) := by
 refine callsD_of_wpS Tryz.func66 rfl fun c₀ cs hu => ?_
 have hc : c₀ = { c₀ with mode := .returning } := by rw [← hu]
 apply wpS_seq
 apply wpS_region
 simp [wpOpsS, go_sem, recoverD, hu, Tryz.ntmps66, Exit.thenS]
 rw [hc]
 refine wpS_of_WC (n := 22) (e := [(0, .pointer (some ⟨b7, 0, none⟩)), (1, .pointer (some ⟨b4, 0, none⟩)), (2, .pointer (some ⟨b5, 0, none⟩)), (3, .pointer (some ⟨b6, 0, none⟩)), (4, .nilIface)]) (Has.of rfl (by simp) (by
  intro p hp
  simp only [List.mem_cons, List.not_mem_nil, or_false] at hp
  rcases hp with rfl | rfl | rfl | rfl | rfl <;> kernel_rfl)) ?_
 refine W ?_
 refine WL_pure (PR_typeAssert rfl assertN) rfl ?_
 refine W ?_
 refine WL_eff OE_alloc rfl ?_
 rintro _ w1 ⟨bf, rfl, hbf, ef, hT⟩
 refine WL_eff0 (OE_storeA (us := [.int .i64 0, .int .i64 0]) rfl rfl rfl rfl (by intro u hu; simp at hu; rcases hu with rfl | rfl <;> rfl) ef rfl) ?_
 rintro _ w2 ⟨hT2, ef'⟩
 have hS := hT.own hT2 (fun c hc => .inr (by simp at hc; omega))
 refine W ?_
 refine neqNn ⟨_, rfl⟩ rfl rfl ?_
 refine W ?_
 first | refine WQ_ret0 rfl ?_ | refine WQ_end0 rfl ?_
 exact ⟨⟨_, rfl⟩, rfl, hS⟩
end Go.Proofs.YtgpibcgebpgmiaaGreatDoor
namespace Go.Proofs
open Go.Shelf
def Tryz.lays105_ren : Go.Shelf.Ren := ⟨fun | 105 => 86 | 212 => 131 | 99 => 132 | 165 => 133 | 166 => 30 | 170 => 134 | 169 => 33 | 263 => 172 | 264 => 173 | 206 => 174 | 240 => 82 | 241 => 175 | 276 => 129 | 277 => 207 | n => n, fun | 9 => 9 | 3 => 3 | 4 => 4 | 20 => 20 | 0 => 0 | 46 => 99 | 109 => 177 | 5 => 5 | 72 => 70 | 76 => 73 | 51 => 198 | 146 => 204 | 53 => 97 | 148 => 206 | 70 => 68 | 37 => 42 | 75 => 72 | 127 => 142 | 164 => 175 | 80 => 77 | n => n, fun | n => n⟩
theorem Tryz.lays105 : Go.Proofs.Lays.n105 Tryz.prog Tryz.lays105_ren := {
 mixed := by kernel_rfl
 f99 := Tryz.func132.trans (congrArg some (by kernel_rfl))
 f105 := Tryz.func86.trans (congrArg some (by kernel_rfl))
 f165 := Tryz.func133.trans (congrArg some (by kernel_rfl))
 f166 := Tryz.func30.trans (congrArg some (by kernel_rfl))
 f169 := Tryz.func33.trans (congrArg some (by kernel_rfl))
 f170 := Tryz.func134.trans (congrArg some (by kernel_rfl))
 f206 := Tryz.func174.trans (congrArg some (by kernel_rfl))
 f212 := Tryz.func131.trans (congrArg some (by kernel_rfl))
 f240 := Tryz.func82.trans (congrArg some (by kernel_rfl))
 f241 := Tryz.func175.trans (congrArg some (by kernel_rfl))
 f263 := Tryz.func172.trans (congrArg some (by kernel_rfl))
 f264 := Tryz.func173.trans (congrArg some (by kernel_rfl))
 f276 := Tryz.func129.trans (congrArg some (by kernel_rfl))
 f277 := Tryz.func207.trans (congrArg some (by kernel_rfl))
 t0 := Tryz.underlying0
 a0 := Tryz.isAgg0
 z0 := Tryz.sizeOf0
 v0 := Tryz.zeroValue0
 t3 := Tryz.underlying3
 a3 := Tryz.isAgg3
 z3 := Tryz.sizeOf3
 v3 := Tryz.zeroValue3
 t4 := Tryz.underlying4
 a4 := Tryz.isAgg4
 z4 := Tryz.sizeOf4
 v4 := Tryz.zeroValue4
 t5 := Tryz.underlying5
 a5 := Tryz.isAgg5
 z5 := Tryz.sizeOf5
 v5 := Tryz.zeroValue5
 t9 := Tryz.underlying9
 a9 := Tryz.isAgg9
 z9 := Tryz.sizeOf9
 v9 := Tryz.zeroValue9
 t20 := Tryz.underlying20
 a20 := Tryz.isAgg20
 z20 := Tryz.sizeOf20
 v20 := Tryz.zeroValue20
 t37 := Tryz.underlying42
 a37 := Tryz.isAgg42
 z37 := Tryz.sizeOf42
 v37 := Tryz.zeroValue42
 t46 := Tryz.underlying99
 a46 := Tryz.isAgg99
 z46 := Tryz.sizeOf99
 v46 := Tryz.zeroValue99
 t51 := Tryz.underlying198
 a51 := Tryz.isAgg198
 z51 := Tryz.sizeOf198
 v51 := Tryz.zeroValue198
 t53 := Tryz.underlying97
 a53 := Tryz.isAgg97
 z53 := Tryz.sizeOf97
 v53 := Tryz.zeroValue97
 t70 := Tryz.underlying68
 a70 := Tryz.isAgg68
 z70 := Tryz.sizeOf68
 v70 := Tryz.zeroValue68
 t72 := Tryz.underlying70
 a72 := Tryz.isAgg70
 z72 := Tryz.sizeOf70
 v72 := Tryz.zeroValue70
 t75 := Tryz.underlying72
 a75 := Tryz.isAgg72
 z75 := Tryz.sizeOf72
 v75 := Tryz.zeroValue72
 t76 := Tryz.underlying73
 a76 := Tryz.isAgg73
 z76 := Tryz.sizeOf73
 v76 := Tryz.zeroValue73
 t109 := Tryz.underlying177
 a109 := Tryz.isAgg177
 z109 := Tryz.sizeOf177
 v109 := Tryz.zeroValue177
 t127 := Tryz.underlying142
 a127 := Tryz.isAgg142
 z127 := Tryz.sizeOf142
 v127 := Tryz.zeroValue142
 t146 := Tryz.underlying204
 a146 := Tryz.isAgg204
 z146 := Tryz.sizeOf204
 v146 := Tryz.zeroValue204
 t148 := Tryz.underlying206
 a148 := Tryz.isAgg206
 z148 := Tryz.sizeOf206
 v148 := Tryz.zeroValue206
 t164 := Tryz.underlying175
 a164 := Tryz.isAgg175
 z164 := Tryz.sizeOf175
 v164 := Tryz.zeroValue175 }
theorem Tryz.Builder_Extra_105 : Builder.Extra Tryz.prog Tryz.lays105_ren := {
 sizeBuilder := by kernel_rfl
 liesBuilder := by kernel_rfl
 t5 := Tryz.underlying5
 a5 := Tryz.isAgg5
 z5 := Tryz.sizeOf5
 v5 := Tryz.zeroValue5
 infoByte := by kernel_rfl
 cellsByte := by kernel_rfl
 sizeByte := by kernel_rfl
 neB5 := by decide }
open Go.RowKit Go.Lib in
theorem Tryz.strings_Repeat (s : ByteArray) (c : Nat) (w : World) (hc : c ≤ 9223372036854775807) (hlen : s.size * c ≤ 140737488355328) :
 Calls Tryz.prog 86 #[.string s, .int .i64 c] w fun e w' => e = .returned (.string ⟨(Lib.repeatL s.data.toList c).toArray⟩) ∧ Below w.heap.size w w' := Any.strings_Repeat Tryz.lays105 Tryz.Builder_Extra_105 s c w hc hlen
end Go.Proofs
namespace Go.Proofs.YtgpibcgebpgmiaaGreatDoor
open Go Go.Eng Go.RowKit Go.Proofs
abbrev TabW (w : World) : Prop := Lib.TabIs Tryz.prog w "internal/strconv.uint64pow10" .u64 Lib.pow10Tab
theorem TabW.up {w w' : World} (h : TabW w) (hS : Stp [] w w') : TabW w' := by
 unfold TabW Lib.TabIs World.var? at *
 cases hg : Program.globalNamed Tryz.prog "internal/strconv.uint64pow10" with
 | none => rw [hg] at h; simp at h
 | some g =>
   rw [hg] at h
   simp only [Option.bind_some] at h ⊢
   have hlt : g < w.heap.size := by
    by_cases hl : g < w.heap.size
    · exact hl
    · rw [Array.getElem?_eq_none (by omega)] at h
      simp at h
   rw [hS.block g hlt (by simp)]
   exact h
theorem Itoa_any (n : Int) (w : World) (h0 : -9223372036854775808 ≤ n) (h1 : n ≤ 9223372036854775807) (hT : TabW w) : Calls Tryz.prog 85 #[.int .i64 n] w (Ret fun r w' => r = str (Lib.itoa n) ∧ Stp [] w w') := by
 refine (Tryz.strconv_Itoa n h0 h1 w hT).mono ?_
 rintro e w' ⟨rfl, k, os, rfl⟩
 refine .mk ⟨rfl, ?_⟩
 exact Stp.of_below ⟨rfl, rfl, rfl, by simp [Go.Sort.grow, World.drewN], fun i hi => by simp [Go.Sort.grow, World.drewN, Array.getElem?_append, hi]⟩
theorem repeatL_one (c : UInt8) : ∀ k : Nat, Lib.repeatL [c] k = List.replicate k c
 | 0 => rfl
 | k + 1 => by rw [Lib.repeatL, repeatL_one c k, List.replicate_succ]; rfl
theorem Repeat_any (c : UInt8) (k : Int) (w : World) (h0 : 0 ≤ k) (h1 : k ≤ 140737488355328) : Calls Tryz.prog 86 #[str [c], .int .i64 k] w (Ret fun r w' => r = str (List.replicate k.toNat c) ∧ Stp [] w w') := by
 obtain ⟨m, rfl⟩ : ∃ m : Nat, k = (m : Int) := ⟨k.toNat, by omega⟩
 refine (Tryz.strings_Repeat ⟨#[c]⟩ m w (by omega) (by simp [ByteArray.size]; omega)).mono ?_
 rintro e w' ⟨rfl, hB⟩
 refine .mk ⟨?_, Stp.of_below hB⟩
 show Value.string ⟨_⟩ = Value.string ⟨_⟩
 rw [show ([c] : List UInt8) = (⟨#[c]⟩ : ByteArray).data.toList from rfl, repeatL_one]
 rfl
theorem FormatBool_any (b : Bool) (w : World) : Calls Tryz.prog 88 #[.bool b] w (Ret fun r w' => r = str (if b then [116, 114, 117, 101] else [102, 97, 108, 115, 101]) ∧ Stp [] w w') := by
 refine (Tryz.strconv_FormatBool b w).mono ?_
 rintro e w' ⟨rfl, rfl⟩
 refine .mk ⟨?_, Stp.refl _ _⟩
 cases b <;> rfl
theorem pad_any (n wd : Int) (w : World) (h0 : 0 ≤ n) (h1 : n ≤ 9999) (hw : 0 ≤ wd) (hw2 : wd ≤ 4) (hl : ((Lib.itoa n).length : Int) ≤ wd) (hT : TabW w) : Calls Tryz.prog 84 #[.int .i64 n, .int .i64 wd] w (Ret fun r w' => r = str (padS wd.toNat (Lib.itoa n)) ∧ Stp [] w w') := by
 refine calls_of_WC2 (n := 15) Tryz.func84 rfl rfl rfl ?_
 refine W ?_
 refine CL rfl (evs1 rfl) rfl (Itoa_any n _ (by omega) (by omega) hT) ?_
 rintro _ w1 ⟨rfl, hS⟩
 refine W ?_
 refine CL rfl (evs2 rfl rfl) rfl (Repeat_any 48 _ _ (by omega) (by omega)) ?_
 rintro _ w2 ⟨rfl, hS2⟩
 refine W ?_
 refine WL_addT rfl rfl (by simp; omega) rfl ?_
 refine W ?_
 refine WR ?_
 refine .mk ⟨?_, hS.trans hS2⟩
 unfold padS
 congr 3
 omega
theorem DOf_any (n : Int) (w : World) (h0 : 0 ≤ n) (h1 : n ≤ 3652058) : Calls Tryz.prog 83 #[.int .i64 n] w (Ret fun r w' => r = .tuple #[datV (ofM n).y (ofM n).m (ofM n).d, .int .i64 0] ∧ Stp [] w w') := by
 refine calls_of_WC1 (n := 73) Tryz.func83 rfl rfl rfl ?_
 refine W ?_
 refine WL_eff OE_alloc rfl ?_
 rintro _ w1 ⟨b2, rfl, hb2, e2', hS⟩
 have hw1 := hS.size
 repeat' (first | refine W1 ?_ | (exfalso; omega) | (refine VG ?_ ?_ <;> intro hg) | (refine VC ?_ ?_ <;> intro hc))
 unfold ofM
 simp only
 have hr0 := Int.emod_nonneg (n + 306) (b := 146097) (by decide)
 have hr1 := Int.emod_lt_of_pos (n + 306) (b := 146097) (by decide)
 have he : (n + 306) / 146097 ≤ 25 ∧ 0 ≤ (n + 306) / 146097 := by omega
 generalize (n + 306) % 146097 = doe at *
 generalize (n + 306) / 146097 = era at *
 obtain ⟨yoe, doy, e1, e2, hy, hd, -⟩ := era_ok doe hr0 hr1
 simp only [e1, e2]
 have hmb : 0 ≤ (5 * (doy : Int) + 2) / 153 ∧ (5 * (doy : Int) + 2) / 153 ≤ 11 := by omega
 repeat' (first | refine W1 ?_ | (exfalso; omega) | (refine VG ?_ ?_ <;> intro hg) | (refine VC ?_ ?_ <;> intro hc))
 refine WL_build (vs := [(0, .int .i64 _), (1, .int .i64 _), (2, .int .i64 _)]) rfl (buildDt _ _ _) rfl ?_
 refine WL_eff OE_alloc rfl ?_
 rintro _ w2 ⟨b10, rfl, hb10, e10, hT⟩
 have n2 : b10 ≠ b2 := by have := e2'.lt; omega
 replace e2' := e2'.up hT
 replace hS := hS.trans hT
 refine WL_eff0 (OE_storeA (us := [.int .i64 _, .int .i64 _, .int .i64 _]) rfl rfl rfl rfl (by simp; exact ⟨rfl, rfl, rfl⟩) e10 rfl) ?_
 rintro _ w3 ⟨hT, e10'⟩
 replace e2' := e2'.ext hT (by simpa using n2.symm)
 replace hS := hS.own hT (fun c hc => .inr (by simp at hc; have := hS.size; omega))
 clear e10 hT
 repeat' (first | refine W1 ?_ | (exfalso; omega) | (refine VG ?_ ?_ <;> intro hg) | (refine VC ?_ ?_ <;> intro hc))
 · rename_i hc
   refine WL_eff0 (OE_store1 (u := .int .i64 ((yoe : Int) + 400 * era + 1)) rfl rfl rfl rfl e10' (by simp)) ?_
   rintro _ w4 ⟨hT, e10⟩
   replace e10 : Blk w4 b10 134 [.int .i64 ((yoe : Int) + 400 * era + 1), .int .i64 ((5 * (doy : Int) + 2) / 153 + 3), .int .i64 ((doy : Int) - (153 * ((5 * (doy : Int) + 2) / 153) + 2) / 5 + 1)] := e10
   replace e2' := e2'.ext hT (by simpa using n2.symm)
   replace hS := hS.own hT (fun c hc => .inr (by simp at hc; omega))
   clear e10' hT
   refine W ?_
   refine WL_eff0 (OE_store1 (u := .int .i64 ((5 * (doy : Int) + 2) / 153 - 9)) rfl rfl rfl rfl e10 (by simp)) ?_
   rintro _ w5 ⟨hT, e10'⟩
   replace e10' : Blk w5 b10 134 [.int .i64 ((yoe : Int) + 400 * era + 1), .int .i64 ((5 * (doy : Int) + 2) / 153 - 9), .int .i64 ((doy : Int) - (153 * ((5 * (doy : Int) + 2) / 153) + 2) / 5 + 1)] := e10'
   replace e2' := e2'.ext hT (by simpa using n2.symm)
   replace hS := hS.own hT (fun c hc => .inr (by simp at hc; omega))
   clear e10 hT
   refine W ?_
   refine WL_eff0 (OE_storeA (us := [.int .i64 _, .int .i64 _, .int .i64 _]) rfl rfl rfl rfl (by simp; exact ⟨rfl, rfl, rfl⟩) e2' rfl) ?_
   rintro _ w6 ⟨hT, e2⟩
   replace hS := hS.own hT (fun c hc => .inr (by simp at hc; omega))
   refine W ?_
   refine WQ_retct rfl rfl rfl e2 rfl rfl ?_
   refine .mk ⟨?_, hS⟩
   rw [if_pos (by omega)]
 · rename_i hc
   refine WL_eff0 (OE_storeA (us := [.int .i64 _, .int .i64 _, .int .i64 _]) rfl rfl rfl rfl (by simp; exact ⟨rfl, rfl, rfl⟩) e2' rfl) ?_
   rintro _ w6 ⟨hT, e2⟩
   replace hS := hS.own hT (fun c hc => .inr (by simp at hc; omega))
   refine W ?_
   refine WQ_retct rfl rfl rfl e2 rfl rfl ?_
   refine .mk ⟨?_, hS⟩
   rw [if_neg (by omega)]
theorem DPrint_any (n : Int) (w : World) (h0 : 0 ≤ n) (h1 : n ≤ 3652058) (hT : TabW w) : Calls Tryz.prog 31 #[.int .i64 n] w (Ret fun r w' => r = str (dateS n) ∧ Stp [] w w') := by
 obtain ⟨g1, g2, g3, g4, g5, g6, g7⟩ := ofM_ok h0 h1
 have g8 := lengthM_le (ofM n).y (ofM n).m
 have hli : ∀ (z : Int) (k : Nat), 0 ≤ z → z < ((10 ^ (k + 1) : Nat) : Int) → (Lib.itoa z).length ≤ k + 1 := fun z k hz h => by
  unfold Lib.itoa
  rw [if_neg (by omega)]
  exact decDigits_len k z.toNat (by omega)
 have ly := hli (ofM n).y 3 (by omega) (by omega)
 have lm := hli (ofM n).m 1 (by omega) (by omega)
 have ld := hli (ofM n).d 1 (by omega) (by omega)
 clear hli g7
 unfold dateS
 have hOf := DOf_any n w h0 h1
 generalize ofM n = dd at *
 refine calls_of_WC1 (n := 29) Tryz.func31 rfl rfl rfl ?_
 refine W ?_
 refine CL rfl (evs1 rfl) rfl hOf ?_
 rintro _ w1 ⟨rfl, hS⟩
 refine W ?_
 refine WL_eff OE_alloc rfl ?_
 rintro _ w2 ⟨b3, rfl, hb3, e3, hT1⟩
 have hw := hS.size
 replace hS := hS.trans hT1
 clear hT1
 refine WL_eff0 (OE_storeA (us := [.int .i64 dd.y, .int .i64 dd.m, .int .i64 dd.d]) rfl rfl rfl rfl (by simp; exact ⟨rfl, rfl, rfl⟩) e3 rfl) ?_
 rintro _ w3 ⟨hT1, e3'⟩
 replace hS := hS.own hT1 (fun c hc => .inr (by simp at hc; omega))
 clear e3 hT1
 repeat' (first | refine W1 ?_ | (exfalso; omega) | (refine VG ?_ ?_ <;> intro hg) | (refine VC ?_ ?_ <;> intro hc))
 refine WC_drawn 17 [] [] [(0, 0), (1, 0), (2, 1), (5, 0), (6, 0), (7, 1), (11, 0), (12, 0), (13, 1), (3, 2), (4, 0), (8, 2), (9, 0), (10, 0), (14, 2), (15, 0), (16, 0)] rfl mixed (by kernel_rfl) (by kernel_rfl) (by kernel_rfl) (fun w1 hS1 => ?_)
 replace e3' := e3'.up hS1
 replace hS := hS.trans hS1
 clear hS1
 refine D ?_
 have hp := pad_any dd.y 4 w1 (by omega) (by omega) (by omega) (by omega) (by omega) (hT.up hS)
 refine WD_eff rfl trivial (OE_call rfl (evs2 rfl rfl) hp) (fun _ _ h => h.2) rfl ?_
 clear hp
 rintro _ w5 ⟨rfl, hT1⟩
 replace e3' := e3'.up hT1
 replace hS := hS.trans hT1
 clear hT1
 refine WD_free rfl trivial (fun _ => PR_addT rfl rfl (by simp [padS]; omega)) rfl ?_
 refine D ?_
 have hp := pad_any dd.m 2 w5 (by omega) (by omega) (by omega) (by omega) (by omega) (hT.up hS)
 refine WD_eff rfl trivial (OE_call rfl (evs2 rfl rfl) hp) (fun _ _ h => h.2) rfl ?_
 clear hp
 rintro _ w6 ⟨rfl, hT1⟩
 replace e3' := e3'.up hT1
 replace hS := hS.trans hT1
 clear hT1
 refine WD_free rfl trivial (fun _ => PR_addT rfl rfl (by simp [padS]; omega)) rfl ?_
 refine WD_free rfl trivial (fun _ => PR_addT rfl rfl (by simp [padS]; omega)) rfl ?_
 refine D ?_
 have hp := pad_any dd.d 2 w6 (by omega) (by omega) (by omega) (by omega) (by omega) (hT.up hS)
 refine WD_eff rfl trivial (OE_call rfl (evs2 rfl rfl) hp) (fun _ _ h => h.2) rfl ?_
 clear hp
 rintro _ w7 ⟨rfl, hT1⟩
 replace e3' := e3'.up hT1
 replace hS := hS.trans hT1
 clear hT1
 refine WD_free rfl trivial (fun _ => PR_addT rfl rfl (by simp [padS]; omega)) rfl ?_
 refine D ?_
 refine W ?_
 refine WR ?_
 exact .mk ⟨rfl, hS⟩
theorem level_any (x : Nd) (X : List Nat) (v : Value) (w : World) (hx : NdV X w v x) : Calls Tryz.prog 87 #[v] w (Ret fun r w' => r = .int .i64 (lvl x : Int) ∧ Stp [] w w') := by
 obtain ⟨kv, rfl, hs⟩ := hx
 unfold lvl
 refine calls_of_WC1 (n := 18) Tryz.func87 rfl rfl rfl ?_
 refine W ?_
 refine WL_eff (OE_box rfl) rfl ?_
 rintro _ w1 ⟨b, rfl, hb, hblk, hS⟩
 replace hblk : Blk w1 b _ (ndC x kv) := hblk
 repeat' (first | refine W1 ?_ | (exfalso; omega) | (refine VG ?_ ?_ <;> intro hg) | (refine VC ?_ ?_ <;> intro hc))
 · refine CL rfl (evs1 rfl) rfl (levelOf_any x.word _) ?_
   rintro _ wv ⟨rfl, hwv⟩
   subst wv
   refine W ?_
   refine WR ?_
   refine .mk ⟨?_, hS⟩
   rw [if_pos (by assumption)]
 all_goals refine WR ?_
 all_goals refine .mk ⟨?_, hS⟩
 all_goals simp [*]
theorem Join_any (xs : List Str) (sep : Str) (v : Value) (w : World) (hs : SlV [] w v xs) (hl : (Lib.join xs sep).length ≤ 140737488355328) (hn : xs.length ≤ 1000) :
 Calls Tryz.prog 91 #[v, str sep] w (Ret fun r w' => r = str (Lib.join xs sep) ∧ Stp [] w w') := by
 obtain ⟨p, c, rfl, h1, h2, h3, h4⟩ := hs
 cases xs with
 | nil =>
   refine (Tryz.strings_Join_none p c ⟨sep.toArray⟩ w).mono ?_
   rintro e w' ⟨rfl, rfl⟩
   exact .mk ⟨rfl, Stp.refl _ _⟩
 | cons x0 r =>
   obtain ⟨b, o, cs, rfl, hb, -⟩ := h4 0 (by simp)
   have hm : ((x0 :: r).map fun x => (⟨x.toArray⟩ : ByteArray)).map (·.data.toList) = x0 :: r := by
    rw [List.map_map]
    exact List.map_id' _
   have := Tryz.strings_Join b o c ((x0 :: r).map fun x => (⟨x.toArray⟩ : ByteArray)) ⟨sep.toArray⟩ w ?_ hb (by simp at hn ⊢; omega) (by simpa using h1) (by rw [hm]; exact hl)
   · rw [hm] at this
     simp only [List.length_map] at this
     refine this.mono ?_
     rintro e w' ⟨rfl, hB⟩
     exact .mk ⟨rfl, Stp.of_below hB⟩
   · intro j x hx
     have hj : j < (x0 :: r).length := by
      have := (List.getElem?_eq_some_iff.1 hx).1
      simpa using this
     obtain ⟨b', o', cs', e1, _, _, hr, hc⟩ := h4 j hj
     simp only [Option.some.injEq, Addr.mk.injEq] at e1
     obtain ⟨rfl, rfl, _⟩ := e1
     have hr' : cs' = [str (x0 :: r)[j]] := hr
     subst hr'
     have h5 := hc 0 _ rfl
     have hx' : x = ⟨((x0 :: r)[j]).toArray⟩ := by
      rw [List.getElem?_map, List.getElem?_eq_getElem hj] at hx
      simpa using hx.symm
     subst hx'
     have hk : GoRep.k Str = 1 := rfl
     rw [hk] at h5
     simpa using h5
def ShowP (x : Nd) : Prop := ∀ (X : List Nat) (v : Value) (w : World), NdV X w v x → TabW w → (showN dateS x).length ≤ 1000000000 → Calls Tryz.prog 32 #[v] w (Ret fun r w' => r = str (showN dateS x) ∧ Stp [] w w')
theorem operand_any (x : Nd) (hsh : ShowP x) (least : Nat) (X : List Nat) (v : Value) (w : World) (hx : NdV X w v x) (hT : TabW w) (hl : (showN dateS x).length ≤ 1000000000) :
 Calls Tryz.prog 89 #[v, .int .i64 (least : Int)] w (Ret fun r w' => r = str (parS least (lvl x, showN dateS x)) ∧ Stp [] w w') := by
 obtain ⟨kv, rfl, hs⟩ := hx
 unfold parS
 simp only
 generalize hsx : showN dateS x = sx at *
 refine calls_of_WC2 (n := 15) Tryz.func89 rfl rfl rfl ?_
 refine W ?_
 refine WL_eff (OE_box rfl) rfl ?_
 rintro _ w1 ⟨b, rfl, hb, hblk, hS⟩
 replace hblk : Blk w1 b _ (ndC x kv) := hblk
 replace hs := hs.up hS
 refine W ?_
 refine CL rfl (evs1 rfl) rfl (level_any x X _ _ ⟨kv, rfl, hs⟩) ?_
 rintro _ w2 ⟨rfl, hT2⟩
 replace hs := hs.up hT2; replace hblk := hblk.up hT2
 replace hS := hS.trans hT2
 clear hT2
 by_cases hlt : lvl x < least
 · rw [if_pos hlt]
   repeat' (first | refine W1 ?_ | (exfalso; omega) | (refine VG ?_ ?_ <;> intro hg) | (refine VC ?_ ?_ <;> intro hc))
   have hsh' := hsh X _ _ ⟨kv, rfl, hs⟩ (hT.up hS) (by rw [hsx]; exact hl)
   rw [hsx] at hsh'
   refine WL_eff (OE_call rfl (evs1 rfl) hsh') rfl ?_
   rintro _ w3 ⟨rfl, hT3⟩
   replace hS := hS.trans hT3
   refine WL_addT rfl rfl (by simp; omega) rfl ?_
   refine WL_addT rfl rfl (by simp; omega) rfl ?_
   refine W ?_
   refine WR ?_
   exact .mk ⟨rfl, hS⟩
 · rw [if_neg hlt]
   repeat' (first | refine W1 ?_ | (exfalso; omega) | (refine VG ?_ ?_ <;> intro hg) | (refine VC ?_ ?_ <;> intro hc))
   have hsh' := hsh X _ _ ⟨kv, rfl, hs⟩ (hT.up hS) (by rw [hsx]; exact hl)
   rw [hsx] at hsh'
   refine WL_eff (OE_call rfl (evs1 rfl) hsh') rfl ?_
   rintro _ w3 ⟨rfl, hT3⟩
   replace hS := hS.trans hT3
   refine W ?_
   refine WR ?_
   exact .mk ⟨rfl, hS⟩
theorem all_any (l : List Nd) (hsh : ∀ y ∈ l, ShowP y) (hl : ∀ y ∈ l, (showN dateS y).length ≤ 1000000000) (h3 : l.length ≤ 3) (X : List Nat) (kv : Value) (w : World) (hs : SlV X w kv l) (hT : TabW w) :
 Calls Tryz.prog 90 #[kv] w (Ret fun r w' => RowF 9 w w' r (l.map (showN dateS))) := by
 refine calls_of_WC1 (n := 19) Tryz.func90 rfl rfl rfl ?_
 refine W ?_
 refine WC_loop (σ := Nat × Value) (fun q => [(3, q.2), (6, kv), (7, .int .i64 l.length), (8, .int .i64 q.1)]) (fun q w' => q.1 ≤ l.length ∧ RowF 9 w w' q.2 ((l.take q.1).map (showN dateS))) (fun q => l.length - q.1) (0, .slice none 0 0) ⟨rfl, rfl, rfl, rfl, trivial⟩ ⟨Nat.zero_le _, ⟨Row.nil, Stp.refl _ _⟩⟩ ?_
 rintro ⟨i, v⟩ w1 ⟨hi, hrow⟩
 dsimp only at hi hrow ⊢
 have hS := hrow.2
 have hs1 := hs.up hS
 by_cases hlt : i < l.length
 · obtain ⟨kv2, hk2, hc2⟩ := hs1.nd hlt
   repeat' (first | refine W1 ?_ | (exfalso; omega) | (refine VG ?_ ?_ <;> intro hg) | (refine VC ?_ ?_ <;> intro hc))
   apply WL_pure (PR_loadNd rfl rfl hs1 hlt hc2) rfl
   refine WL_eff OE_alloc rfl ?_
   rintro _ w2 ⟨b5, rfl, hb5, e5, hT2⟩
   refine WL_eff0 (OE_storeA (us := ndC l[i] kv2) rfl rfl rfl rfl (ndC_one hk2) e5 rfl) ?_
   rintro _ w3 ⟨hT3, e5'⟩
   have hT23 : Stp [] w1 w3 := hT2.own hT3 (fun c hc => .inr (by simp at hc; omega))
   clear hT2 hT3 e5
   replace hk2 := hk2.up hT23
   refine W ?_
   have hmem : l[i] ∈ l := List.getElem_mem hlt
   refine CL rfl (evs1 rfl) rfl (hsh _ hmem X _ _ ⟨kv2, rfl, hk2⟩ (hT.up (hS.trans hT23)) (hl _ hmem)) ?_
   rintro _ w4 ⟨rfl, hT4⟩
   replace hT4 := hT23.trans hT4
   clear hT23
   replace hrow : RowF 9 w w4 v ((l.take i).map (showN dateS)) := hrow.up hT4
   refine WL_eff (OE_buildSlice (vs := [(0, str _)]) rfl (buildSS1 _)) rfl ?_
   rintro bv w5 hN
   have hSb := hN.choose_spec.2.2.2
   have hbv : SlV (ob v) w5 bv [showN dateS l[i]] := hN.slv (fun b hb => (hrow.ob_le b hb).2) rfl rfl (by simp [maxLen])
   clear hN
   replace hrow : RowF 9 w w5 v ((l.take i).map (showN dateS)) := hrow.up hSb
   refine WL_eff (OE_appF rfl (by decide) rfl rfl hrow hbv (by simp; omega) (by simp [maxLen]; omega)) rfl ?_
   rintro v' w6 ⟨hrow', -⟩
   refine W ?_
   refine WQ_loop (i + 1, v') ⟨rfl, rfl, rfl, rfl, trivial⟩ ⟨hlt, ?_⟩ (by dsimp only; omega)
   dsimp only
   rw [List.take_succ_eq_append_getElem hlt, List.map_append]
   exact hrow'
 · have hke : i = l.length := by omega
   subst hke
   rw [List.take_length] at hrow
   repeat' (first | refine W1 ?_ | (exfalso; omega) | (refine VG ?_ ?_ <;> intro hg) | (refine VC ?_ ?_ <;> intro hc))
   refine WR ?_
   exact .mk hrow
theorem parS_len (k : Nat) (p : Nat × Str) : p.2.length ≤ (parS k p).length ∧ (parS k p).length ≤ p.2.length + 2 := by
 unfold parS
 split <;> simp <;> omega
theorem show_any (x : Nd) : Wf x → ShowP x := by
 induction x using Nd.ind with
 | h k n s l ih =>
 intro hwf X v w hx hT hl
 cases hwf with
 | num n h =>
   rw [showN_mk] at hl ⊢
   replace hl : (Lib.itoa n).length ≤ 1000000000 := hl
   show Calls _ _ _ _ (Ret fun r w' => r = str (Lib.itoa n) ∧ _)
   obtain ⟨kv, rfl, hs⟩ := hx
   replace hs : SlV X w kv [] := hs
   refine calls_of_WC1 (n := 129) Tryz.func32 rfl rfl rfl ?_
   refine W ?_
   refine WL_eff (OE_box rfl) rfl ?_
   rintro _ w1 ⟨bk, rfl, hbk, hblk, hS⟩
   replace hblk : Blk w1 bk _ [.int .i64 1, .int .i64 n, str [], kv] := hblk
   replace hs := hs.up hS
   refine W ?_
   refine CL rfl (evs1 rfl) rfl (level_any (.mk 1 n [] []) X _ _ ⟨kv, rfl, hs⟩) ?_
   rintro _ w2 ⟨rfl, hT2⟩
   replace hs := hs.up hT2; replace hblk := hblk.up hT2
   replace hS := hS.trans hT2
   clear hT2
   repeat' (first | refine W1 ?_ | (exfalso; omega) | (refine VG ?_ ?_ <;> intro hg) | (refine VC ?_ ?_ <;> intro hc))
   refine CL rfl (evs1 rfl) rfl (Itoa_any n _ (by omega) (by omega) (hT.up hS)) ?_
   rintro _ w3 ⟨rfl, hT3⟩
   refine W ?_
   refine WR ?_
   exact .mk ⟨rfl, hS.trans hT3⟩
 | bool n h =>
   rw [showN_mk]
   show Calls _ _ _ _ (Ret fun r w' => r = str (if n = 1 then [116, 114, 117, 101] else [102, 97, 108, 115, 101]) ∧ _)
   obtain ⟨kv, rfl, hs⟩ := hx
   replace hs : SlV X w kv [] := hs
   refine calls_of_WC1 (n := 129) Tryz.func32 rfl rfl rfl ?_
   refine W ?_
   refine WL_eff (OE_box rfl) rfl ?_
   rintro _ w1 ⟨bk, rfl, hbk, hblk, hS⟩
   replace hblk : Blk w1 bk _ [.int .i64 2, .int .i64 n, str [], kv] := hblk
   replace hs := hs.up hS
   refine W ?_
   refine CL rfl (evs1 rfl) rfl (level_any (.mk 2 n [] []) X _ _ ⟨kv, rfl, hs⟩) ?_
   rintro _ w2 ⟨rfl, hT2⟩
   replace hs := hs.up hT2; replace hblk := hblk.up hT2
   replace hS := hS.trans hT2
   clear hT2
   repeat' (first | refine W1 ?_ | (exfalso; omega) | (refine VG ?_ ?_ <;> intro hg) | (refine VC ?_ ?_ <;> intro hc))
   refine CL rfl (evs1 rfl) rfl (FormatBool_any _ _) ?_
   rintro _ w3 ⟨rfl, hT3⟩
   refine W ?_
   refine WR ?_
   refine .mk ⟨?_, hS.trans hT3⟩
   simp only [decide_eq_true_eq]
 | day n h =>
   rw [showN_mk]
   show Calls _ _ _ _ (Ret fun r w' => r = str (64 :: dateS n) ∧ _)
   obtain ⟨kv, rfl, hs⟩ := hx
   replace hs : SlV X w kv [] := hs
   refine calls_of_WC1 (n := 129) Tryz.func32 rfl rfl rfl ?_
   refine W ?_
   refine WL_eff (OE_box rfl) rfl ?_
   rintro _ w1 ⟨bk, rfl, hbk, hblk, hS⟩
   replace hblk : Blk w1 bk _ [.int .i64 3, .int .i64 n, str [], kv] := hblk
   replace hs := hs.up hS
   refine W ?_
   refine CL rfl (evs1 rfl) rfl (level_any (.mk 3 n [] []) X _ _ ⟨kv, rfl, hs⟩) ?_
   rintro _ w2 ⟨rfl, hT2⟩
   replace hs := hs.up hT2; replace hblk := hblk.up hT2
   replace hS := hS.trans hT2
   clear hT2
   repeat' (first | refine W1 ?_ | (exfalso; omega) | (refine VG ?_ ?_ <;> intro hg) | (refine VC ?_ ?_ <;> intro hc))
   refine CL rfl (evs1 rfl) rfl (DPrint_any n _ (by omega) (by omega) (hT.up hS)) ?_
   rintro _ w3 ⟨rfl, hT3⟩
   have hdl := dateS_len h.1 h.2
   refine WL_addT rfl rfl (by simp; omega) rfl ?_
   refine W ?_
   refine WR ?_
   exact .mk ⟨rfl, hS.trans hT3⟩
 | field s h =>
   rw [showN_mk]
   show Calls _ _ _ _ (Ret fun r w' => r = str s ∧ _)
   obtain ⟨kv, rfl, hs⟩ := hx
   replace hs : SlV X w kv [] := hs
   refine calls_of_WC1 (n := 129) Tryz.func32 rfl rfl rfl ?_
   refine W ?_
   refine WL_eff (OE_box rfl) rfl ?_
   rintro _ w1 ⟨bk, rfl, hbk, hblk, hS⟩
   replace hblk : Blk w1 bk _ [.int .i64 4, .int .i64 0, str s, kv] := hblk
   replace hs := hs.up hS
   refine W ?_
   refine CL rfl (evs1 rfl) rfl (level_any (.mk 4 0 s []) X _ _ ⟨kv, rfl, hs⟩) ?_
   rintro _ w2 ⟨rfl, hT2⟩
   replace hs := hs.up hT2; replace hblk := hblk.up hT2
   replace hS := hS.trans hT2
   clear hT2
   repeat' (first | refine W1 ?_ | (exfalso; omega) | (refine VG ?_ ?_ <;> intro hg) | (refine VC ?_ ?_ <;> intro hc))
   refine WR ?_
   exact .mk ⟨rfl, hS⟩
 | neg a ha =>
   rw [showN_mk] at hl ⊢
   replace hl : ([45] ++ parS 7 (lvl a, showN dateS a)).length ≤ 1000000000 := hl
   have hp := parS_len 7 (lvl a, showN dateS a)
   simp only [List.length_append, List.length_cons, List.length_nil] at hl hp
   show Calls _ _ _ _ (Ret fun r w' => r = str ([45] ++ parS 7 (lvl a, showN dateS a)) ∧ _)
   obtain ⟨kv, rfl, hs⟩ := hx
   replace hs : SlV X w kv [a] := hs
   refine calls_of_WC1 (n := 129) Tryz.func32 rfl rfl rfl ?_
   refine W ?_
   refine WL_eff (OE_box rfl) rfl ?_
   rintro _ w1 ⟨bk, rfl, hbk, hblk, hS⟩
   replace hblk : Blk w1 bk _ [.int .i64 5, .int .i64 0, str [45], kv] := hblk
   replace hs := hs.up hS
   refine W ?_
   refine CL rfl (evs1 rfl) rfl (level_any (.mk 5 0 [45] [a]) X _ _ ⟨kv, rfl, hs⟩) ?_
   rintro _ w2 ⟨rfl, hT2⟩
   replace hs := hs.up hT2; replace hblk := hblk.up hT2
   replace hS := hS.trans hT2
   clear hT2
   have h0 : 0 < ([a] : List Nd).length := by simp
   obtain ⟨k0, g0, c0⟩ := hs.nd h0
   replace g0 : SlV X w2 k0 a.kids := g0
   repeat' (first | refine W1 ?_ | (exfalso; omega) | (refine VG ?_ ?_ <;> intro hg) | (refine VC ?_ ?_ <;> intro hc))
   refine WL_pure (PR_loadNd rfl rfl hs h0 c0) rfl ?_
   refine W ?_
   refine CL rfl (evs2 rfl rfl) rfl (operand_any a (ih a (by simp) ha) 7 X _ _ ⟨k0, rfl, g0⟩ (hT.up hS) (by omega)) ?_
   rintro _ w3 ⟨rfl, hT3⟩
   refine WL_addT rfl rfl (by simp; omega) rfl ?_
   refine W ?_
   refine WR ?_
   exact .mk ⟨rfl, hS.trans hT3⟩
 | not a ha =>
   rw [showN_mk] at hl ⊢
   replace hl : ([110, 111, 116, 32] ++ parS 3 (lvl a, showN dateS a)).length ≤ 1000000000 := hl
   have hp := parS_len 3 (lvl a, showN dateS a)
   simp only [List.length_append, List.length_cons, List.length_nil] at hl hp
   show Calls _ _ _ _ (Ret fun r w' => r = str ([110, 111, 116, 32] ++ parS 3 (lvl a, showN dateS a)) ∧ _)
   obtain ⟨kv, rfl, hs⟩ := hx
   replace hs : SlV X w kv [a] := hs
   refine calls_of_WC1 (n := 129) Tryz.func32 rfl rfl rfl ?_
   refine W ?_
   refine WL_eff (OE_box rfl) rfl ?_
   rintro _ w1 ⟨bk, rfl, hbk, hblk, hS⟩
   replace hblk : Blk w1 bk _ [.int .i64 5, .int .i64 0, str [110, 111, 116], kv] := hblk
   replace hs := hs.up hS
   refine W ?_
   refine CL rfl (evs1 rfl) rfl (level_any (.mk 5 0 [110, 111, 116] [a]) X _ _ ⟨kv, rfl, hs⟩) ?_
   rintro _ w2 ⟨rfl, hT2⟩
   replace hs := hs.up hT2; replace hblk := hblk.up hT2
   replace hS := hS.trans hT2
   clear hT2
   have h0 : 0 < ([a] : List Nd).length := by simp
   obtain ⟨k0, g0, c0⟩ := hs.nd h0
   replace g0 : SlV X w2 k0 a.kids := g0
   repeat' (first | refine W1 ?_ | (exfalso; omega) | (refine VG ?_ ?_ <;> intro hg) | (refine VC ?_ ?_ <;> intro hc))
   refine WL_pure (PR_loadNd rfl rfl hs h0 c0) rfl ?_
   refine W ?_
   refine CL rfl (evs2 rfl rfl) rfl (operand_any a (ih a (by simp) ha) 3 X _ _ ⟨k0, rfl, g0⟩ (hT.up hS) (by omega)) ?_
   rintro _ w3 ⟨rfl, hT3⟩
   refine WL_addT rfl rfl (by simp; omega) rfl ?_
   refine W ?_
   refine WR ?_
   exact .mk ⟨rfl, hS.trans hT3⟩
 | after s a b hu ha hb =>
   rw [showN_mk] at hl ⊢
   replace hl : (parS 5 (lvl a, showN dateS a) ++ [32, 43, 32] ++ parS 6 (lvl b, showN dateS b) ++ [32] ++ s).length ≤ 1000000000 := hl
   have hpa := parS_len 5 (lvl a, showN dateS a)
   have hpb := parS_len 6 (lvl b, showN dateS b)
   show Calls _ _ _ _ (Ret fun r w' => r = str (parS 5 (lvl a, showN dateS a) ++ [32, 43, 32] ++ parS 6 (lvl b, showN dateS b) ++ [32] ++ s) ∧ _)
   simp only [List.length_append, List.length_cons, List.length_nil] at hl hpa hpb
   obtain ⟨kv, rfl, hs⟩ := hx
   replace hs : SlV X w kv [a, b] := hs
   refine calls_of_WC1 (n := 129) Tryz.func32 rfl rfl rfl ?_
   refine W ?_
   refine WL_eff (OE_box rfl) rfl ?_
   rintro _ w1 ⟨bk, rfl, hbk, hblk, hS⟩
   replace hblk : Blk w1 bk _ [.int .i64 7, .int .i64 0, str s, kv] := hblk
   replace hs := hs.up hS
   refine W ?_
   refine CL rfl (evs1 rfl) rfl (level_any (.mk 7 0 s [a, b]) X _ _ ⟨kv, rfl, hs⟩) ?_
   rintro _ w2 ⟨rfl, hT2⟩
   replace hs := hs.up hT2; replace hblk := hblk.up hT2
   replace hS := hS.trans hT2
   clear hT2
   rw [show lvl (.mk 7 0 s [a, b]) = 5 from rfl]
   repeat' (first | refine W1 ?_ | (exfalso; omega) | (refine VG ?_ ?_ <;> intro hg) | (refine VC ?_ ?_ <;> intro hc))
   have h0 : 0 < ([a, b] : List Nd).length := by simp
   have h1 : 1 < ([a, b] : List Nd).length := by simp
   refine WC_drawn 15 [] [] [(0, 0), (1, 1), (2, 0), (3, 1), (4, 0), (6, 0), (7, 1), (8, 0), (9, 1), (10, 0), (11, 0), (5, 2), (12, 2), (13, 0), (14, 0)] rfl mixed (by kernel_rfl) (by kernel_rfl) (by kernel_rfl) (fun w1 hS1 => ?_)
   replace hs := hs.up hS1; replace hblk := hblk.up hS1
   replace hS := hS.trans hS1
   clear hS1
   obtain ⟨k0, g0, c0⟩ := hs.nd h0
   obtain ⟨k1, g1, c1⟩ := hs.nd h1
   replace g0 : SlV X _ k0 a.kids := g0
   replace g1 : SlV X _ k1 b.kids := g1
   refine D ?_
   refine WD_read rfl trivial (fun w' hS' => PR_loadNd rfl rfl (hs.up hS') h0 (fun j u hj => cell_on hs h0 (hS'.mono (by simp)) (c0 j u hj))) rfl ?_
   refine D ?_
   refine WD_read rfl trivial (fun w' hS' => PR_loadNd rfl rfl (hs.up hS') h1 (fun j u hj => cell_on hs h1 (hS'.mono (by simp)) (c1 j u hj))) rfl ?_
   refine D ?_
   have hop := operand_any a (ih a (by simp) ha) (5) X _ _ ⟨k0, rfl, g0⟩ (hT.up hS) (by omega)
   refine WD_eff rfl trivial (OE_call rfl (evs2 rfl rfl) hop) (fun _ _ h => h.2) rfl ?_
   clear hop
   rintro _ w4 ⟨rfl, hT4⟩
   replace hs := hs.up hT4; replace hblk := hblk.up hT4; replace g1 := g1.up hT4
   replace hS := hS.trans hT4
   have hop := operand_any b (ih b (by simp) hb) (6) X _ _ ⟨k1, rfl, g1⟩ (hT.up hS) (by omega)
   refine WD_eff rfl trivial (OE_call rfl (evs2 rfl rfl) hop) (fun _ _ h => h.2) rfl ?_
   clear hop
   rintro _ w5 ⟨rfl, hT5⟩
   replace hs := hs.up hT5; replace hblk := hblk.up hT5
   replace hS := hS.trans hT5
   refine D ?_
   repeat' (first | refine W1 ?_ | (exfalso; omega) | (refine VG ?_ ?_ <;> intro hg) | (refine VC ?_ ?_ <;> intro hc))
   repeat' (first | refine W1 ?_ | refine WL_addT rfl rfl (by simp; omega) rfl ?_)
   refine WR ?_
   exact .mk ⟨by simp, hS⟩
 | before s a b hu ha hb =>
   rw [showN_mk] at hl ⊢
   replace hl : (parS 5 (lvl a, showN dateS a) ++ [32, 45, 32] ++ parS 6 (lvl b, showN dateS b) ++ [32] ++ s).length ≤ 1000000000 := hl
   have hpa := parS_len 5 (lvl a, showN dateS a)
   have hpb := parS_len 6 (lvl b, showN dateS b)
   show Calls _ _ _ _ (Ret fun r w' => r = str (parS 5 (lvl a, showN dateS a) ++ [32, 45, 32] ++ parS 6 (lvl b, showN dateS b) ++ [32] ++ s) ∧ _)
   simp only [List.length_append, List.length_cons, List.length_nil] at hl hpa hpb
   obtain ⟨kv, rfl, hs⟩ := hx
   replace hs : SlV X w kv [a, b] := hs
   refine calls_of_WC1 (n := 129) Tryz.func32 rfl rfl rfl ?_
   refine W ?_
   refine WL_eff (OE_box rfl) rfl ?_
   rintro _ w1 ⟨bk, rfl, hbk, hblk, hS⟩
   replace hblk : Blk w1 bk _ [.int .i64 8, .int .i64 0, str s, kv] := hblk
   replace hs := hs.up hS
   refine W ?_
   refine CL rfl (evs1 rfl) rfl (level_any (.mk 8 0 s [a, b]) X _ _ ⟨kv, rfl, hs⟩) ?_
   rintro _ w2 ⟨rfl, hT2⟩
   replace hs := hs.up hT2; replace hblk := hblk.up hT2
   replace hS := hS.trans hT2
   clear hT2
   rw [show lvl (.mk 8 0 s [a, b]) = 5 from rfl]
   repeat' (first | refine W1 ?_ | (exfalso; omega) | (refine VG ?_ ?_ <;> intro hg) | (refine VC ?_ ?_ <;> intro hc))
   have h0 : 0 < ([a, b] : List Nd).length := by simp
   have h1 : 1 < ([a, b] : List Nd).length := by simp
   refine WC_drawn 15 [] [] [(0, 0), (1, 1), (2, 0), (3, 1), (4, 0), (6, 0), (7, 1), (8, 0), (9, 1), (10, 0), (11, 0), (5, 2), (12, 2), (13, 0), (14, 0)] rfl mixed (by kernel_rfl) (by kernel_rfl) (by kernel_rfl) (fun w1 hS1 => ?_)
   replace hs := hs.up hS1; replace hblk := hblk.up hS1
   replace hS := hS.trans hS1
   clear hS1
   obtain ⟨k0, g0, c0⟩ := hs.nd h0
   obtain ⟨k1, g1, c1⟩ := hs.nd h1
   replace g0 : SlV X _ k0 a.kids := g0
   replace g1 : SlV X _ k1 b.kids := g1
   refine D ?_
   refine WD_read rfl trivial (fun w' hS' => PR_loadNd rfl rfl (hs.up hS') h0 (fun j u hj => cell_on hs h0 (hS'.mono (by simp)) (c0 j u hj))) rfl ?_
   refine D ?_
   refine WD_read rfl trivial (fun w' hS' => PR_loadNd rfl rfl (hs.up hS') h1 (fun j u hj => cell_on hs h1 (hS'.mono (by simp)) (c1 j u hj))) rfl ?_
   refine D ?_
   have hop := operand_any a (ih a (by simp) ha) (5) X _ _ ⟨k0, rfl, g0⟩ (hT.up hS) (by omega)
   refine WD_eff rfl trivial (OE_call rfl (evs2 rfl rfl) hop) (fun _ _ h => h.2) rfl ?_
   clear hop
   rintro _ w4 ⟨rfl, hT4⟩
   replace hs := hs.up hT4; replace hblk := hblk.up hT4; replace g1 := g1.up hT4
   replace hS := hS.trans hT4
   have hop := operand_any b (ih b (by simp) hb) (6) X _ _ ⟨k1, rfl, g1⟩ (hT.up hS) (by omega)
   refine WD_eff rfl trivial (OE_call rfl (evs2 rfl rfl) hop) (fun _ _ h => h.2) rfl ?_
   clear hop
   rintro _ w5 ⟨rfl, hT5⟩
   replace hs := hs.up hT5; replace hblk := hblk.up hT5
   replace hS := hS.trans hT5
   refine D ?_
   repeat' (first | refine W1 ?_ | (exfalso; omega) | (refine VG ?_ ?_ <;> intro hg) | (refine VC ?_ ?_ <;> intro hc))
   repeat' (first | refine W1 ?_ | refine WL_addT rfl rfl (by simp; omega) rfl ?_)
   refine WR ?_
   exact .mk ⟨by simp, hS⟩
 | bin s a b hs1 ha hb =>
   have hlo := levelO_le s
   rw [showN_mk] at hl ⊢
   replace hl : (parS (leftL (levelO s)) (lvl a, showN dateS a) ++ [32] ++ s ++ [32] ++ parS (levelO s + 1) (lvl b, showN dateS b)).length ≤ 1000000000 := hl
   have hpa := parS_len (leftL (levelO s)) (lvl a, showN dateS a)
   have hpb := parS_len (levelO s + 1) (lvl b, showN dateS b)
   show Calls _ _ _ _ (Ret fun r w' => r = str (parS (leftL (levelO s)) (lvl a, showN dateS a) ++ [32] ++ s ++ [32] ++ parS (levelO s + 1) (lvl b, showN dateS b)) ∧ _)
   simp only [List.length_append, List.length_cons, List.length_nil] at hl hpa hpb
   obtain ⟨kv, rfl, hs⟩ := hx
   replace hs : SlV X w kv [a, b] := hs
   refine calls_of_WC1 (n := 129) Tryz.func32 rfl rfl rfl ?_
   refine W ?_
   refine WL_eff (OE_box rfl) rfl ?_
   rintro _ w1 ⟨bk, rfl, hbk, hblk, hS⟩
   replace hblk : Blk w1 bk _ [.int .i64 6, .int .i64 0, str s, kv] := hblk
   replace hs := hs.up hS
   refine W ?_
   refine CL rfl (evs1 rfl) rfl (level_any (.mk 6 0 s [a, b]) X _ _ ⟨kv, rfl, hs⟩) ?_
   rintro _ w2 ⟨rfl, hT2⟩
   replace hs := hs.up hT2; replace hblk := hblk.up hT2
   replace hS := hS.trans hT2
   clear hT2
   rw [show lvl (.mk 6 0 s [a, b]) = levelO s from rfl]
   have hlf : leftL (levelO s) = if levelO s = 4 then 5 else levelO s := rfl
   generalize leftL (levelO s) = lf at *
   generalize levelO s = lv at *
   repeat' (first | refine W1 ?_ | (exfalso; omega) | (refine VG ?_ ?_ <;> intro hg) | (refine VC ?_ ?_ <;> intro hc))
   · have e4 : lf = 5 := by rw [hlf, if_pos (by omega)]
     subst e4
     have h0 : 0 < ([a, b] : List Nd).length := by simp
     have h1 : 1 < ([a, b] : List Nd).length := by simp
     refine WC_drawn 15 [] [] [(0, 0), (1, 1), (2, 0), (3, 1), (4, 0), (6, 0), (7, 1), (8, 0), (9, 1), (10, 0), (11, 0), (5, 2), (12, 2), (13, 0), (14, 0)] rfl mixed (by kernel_rfl) (by kernel_rfl) (by kernel_rfl) (fun w1 hS1 => ?_)
     replace hs := hs.up hS1; replace hblk := hblk.up hS1
     replace hS := hS.trans hS1
     clear hS1
     obtain ⟨k0, g0, c0⟩ := hs.nd h0
     obtain ⟨k1, g1, c1⟩ := hs.nd h1
     replace g0 : SlV X _ k0 a.kids := g0
     replace g1 : SlV X _ k1 b.kids := g1
     refine D ?_
     refine WD_read rfl trivial (fun w' hS' => PR_loadNd rfl rfl (hs.up hS') h0 (fun j u hj => cell_on hs h0 (hS'.mono (by simp)) (c0 j u hj))) rfl ?_
     refine D ?_
     refine WD_read rfl trivial (fun w' hS' => PR_loadNd rfl rfl (hs.up hS') h1 (fun j u hj => cell_on hs h1 (hS'.mono (by simp)) (c1 j u hj))) rfl ?_
     refine D ?_
     have hop := operand_any a (ih a (by simp) ha) (5) X _ _ ⟨k0, rfl, g0⟩ (hT.up hS) (by omega)
     refine WD_eff rfl trivial (OE_call rfl (evs2 rfl rfl) hop) (fun _ _ h => h.2) rfl ?_
     clear hop
     rintro _ w4 ⟨rfl, hT4⟩
     replace hs := hs.up hT4; replace hblk := hblk.up hT4; replace g1 := g1.up hT4
     replace hS := hS.trans hT4
     have hop := operand_any b (ih b (by simp) hb) (lv + 1) X _ _ ⟨k1, rfl, g1⟩ (hT.up hS) (by omega)
     refine WD_eff rfl trivial (OE_call rfl (evs2 rfl rfl) hop) (fun _ _ h => h.2) rfl ?_
     clear hop
     rintro _ w5 ⟨rfl, hT5⟩
     replace hs := hs.up hT5; replace hblk := hblk.up hT5
     replace hS := hS.trans hT5
     refine D ?_
     repeat' (first | refine W1 ?_ | (exfalso; omega) | (refine VG ?_ ?_ <;> intro hg) | (refine VC ?_ ?_ <;> intro hc))
     repeat' (first | refine W1 ?_ | refine WL_addT rfl rfl (by simp; omega) rfl ?_)
     refine WR ?_
     exact .mk ⟨by simp, hS⟩
   · have e4 : lf = lv := by rw [hlf, if_neg (by omega)]
     subst e4
     have h0 : 0 < ([a, b] : List Nd).length := by simp
     have h1 : 1 < ([a, b] : List Nd).length := by simp
     refine WC_drawn 15 [] [] [(0, 0), (1, 1), (2, 0), (3, 1), (4, 0), (6, 0), (7, 1), (8, 0), (9, 1), (10, 0), (11, 0), (5, 2), (12, 2), (13, 0), (14, 0)] rfl mixed (by kernel_rfl) (by kernel_rfl) (by kernel_rfl) (fun w1 hS1 => ?_)
     replace hs := hs.up hS1; replace hblk := hblk.up hS1
     replace hS := hS.trans hS1
     clear hS1
     obtain ⟨k0, g0, c0⟩ := hs.nd h0
     obtain ⟨k1, g1, c1⟩ := hs.nd h1
     replace g0 : SlV X _ k0 a.kids := g0
     replace g1 : SlV X _ k1 b.kids := g1
     refine D ?_
     refine WD_read rfl trivial (fun w' hS' => PR_loadNd rfl rfl (hs.up hS') h0 (fun j u hj => cell_on hs h0 (hS'.mono (by simp)) (c0 j u hj))) rfl ?_
     refine D ?_
     refine WD_read rfl trivial (fun w' hS' => PR_loadNd rfl rfl (hs.up hS') h1 (fun j u hj => cell_on hs h1 (hS'.mono (by simp)) (c1 j u hj))) rfl ?_
     refine D ?_
     have hop := operand_any a (ih a (by simp) ha) (lf) X _ _ ⟨k0, rfl, g0⟩ (hT.up hS) (by omega)
     refine WD_eff rfl trivial (OE_call rfl (evs2 rfl rfl) hop) (fun _ _ h => h.2) rfl ?_
     clear hop
     rintro _ w4 ⟨rfl, hT4⟩
     replace hs := hs.up hT4; replace hblk := hblk.up hT4; replace g1 := g1.up hT4
     replace hS := hS.trans hT4
     have hop := operand_any b (ih b (by simp) hb) (lf + 1) X _ _ ⟨k1, rfl, g1⟩ (hT.up hS) (by omega)
     refine WD_eff rfl trivial (OE_call rfl (evs2 rfl rfl) hop) (fun _ _ h => h.2) rfl ?_
     clear hop
     rintro _ w5 ⟨rfl, hT5⟩
     replace hs := hs.up hT5; replace hblk := hblk.up hT5
     replace hS := hS.trans hT5
     refine D ?_
     repeat' (first | refine W1 ?_ | (exfalso; omega) | (refine VG ?_ ?_ <;> intro hg) | (refine VC ?_ ?_ <;> intro hc))
     repeat' (first | refine W1 ?_ | refine WL_addT rfl rfl (by simp; omega) rfl ?_)
     refine WR ?_
     exact .mk ⟨by simp, hS⟩
 | cond a b c ha hb hc =>
   rw [showN_mk] at hl ⊢
   replace hl : ([105, 102, 32] ++ showN dateS a ++ [32, 116, 104, 101, 110, 32] ++ showN dateS b ++ [32, 101, 108, 115, 101, 32] ++ showN dateS c ++ [32, 101, 110, 100]).length ≤ 1000000000 := hl
   show Calls _ _ _ _ (Ret fun r w' => r = str ([105, 102, 32] ++ showN dateS a ++ [32, 116, 104, 101, 110, 32] ++ showN dateS b ++ [32, 101, 108, 115, 101, 32] ++ showN dateS c ++ [32, 101, 110, 100]) ∧ _)
   simp only [List.length_append, List.length_cons, List.length_nil] at hl
   obtain ⟨kv, rfl, hs⟩ := hx
   replace hs : SlV X w kv [a, b, c] := hs
   refine calls_of_WC1 (n := 129) Tryz.func32 rfl rfl rfl ?_
   refine W ?_
   refine WL_eff (OE_box rfl) rfl ?_
   rintro _ w1 ⟨bk, rfl, hbk, hblk, hS⟩
   replace hblk : Blk w1 bk _ [.int .i64 9, .int .i64 0, str [], kv] := hblk
   replace hs := hs.up hS
   refine W ?_
   refine CL rfl (evs1 rfl) rfl (level_any (.mk 9 0 [] [a, b, c]) X _ _ ⟨kv, rfl, hs⟩) ?_
   rintro _ w2 ⟨rfl, hT2⟩
   replace hs := hs.up hT2; replace hblk := hblk.up hT2
   replace hS := hS.trans hT2
   clear hT2
   repeat' (first | refine W1 ?_ | (exfalso; omega) | (refine VG ?_ ?_ <;> intro hg) | (refine VC ?_ ?_ <;> intro hc))
   have hall := all_any [a, b, c] (fun y hy => by
    simp only [List.mem_cons, List.not_mem_nil, or_false] at hy
    rcases hy with rfl | rfl | rfl
    · exact ih _ (by simp) ha
    · exact ih _ (by simp) hb
    · exact ih _ (by simp) hc) (fun y hy => by
    simp only [List.mem_cons, List.not_mem_nil, or_false] at hy
    rcases hy with rfl | rfl | rfl <;> omega) (by simp) X _ _ hs (hT.up hS)
   refine CL rfl (evs1 rfl) rfl hall ?_
   clear hall
   rintro rv w3 hrow
   replace hS := hS.trans hrow.2
   have hrs : SlV [] w3 rv [showN dateS a, showN dateS b, showN dateS c] := hrow.slv (by simp)
   clear hrow
   generalize showN dateS a = sa at *
   generalize showN dateS b = sb at *
   generalize showN dateS c = sc at *
   have h0 : 0 < ([sa, sb, sc] : List Str).length := by simp
   have h1 : 1 < ([sa, sb, sc] : List Str).length := by simp
   have h2 : 2 < ([sa, sb, sc] : List Str).length := by simp
   refine W ?_
   refine WC_drawn 16 [] [] [(0, 0), (1, 0), (2, 1), (3, 0), (4, 0), (5, 0), (6, 0), (7, 1), (8, 0), (9, 0), (10, 0), (11, 0), (12, 1), (13, 0), (14, 0), (15, 0)] rfl mixed (by kernel_rfl) (by kernel_rfl) (by kernel_rfl) (fun w1 hS1 => ?_)
   replace hrs := hrs.up hS1
   replace hS := hS.trans hS1
   clear hS1
   repeat' (first | refine D1 ?_ | refine WD_free rfl trivial (fun _ => PR_addT rfl rfl (by simp; omega)) rfl ?_)
   repeat' (first | refine W1 ?_ | (exfalso; omega) | (refine VG ?_ ?_ <;> intro hg) | (refine VC ?_ ?_ <;> intro hc))
   refine WR ?_
   exact .mk ⟨by simp, hS⟩
 | call1 s a hf h1 ha =>
   rw [showN_mk] at hl ⊢
   have hj : ([44, 32] : Str).intercalate [showN dateS a] = showN dateS a := by simp [List.intercalate, List.intersperse]
   replace hl : (s ++ [40] ++ ([44, 32] : Str).intercalate [showN dateS a] ++ [41]).length ≤ 1000000000 := hl
   show Calls _ _ _ _ (Ret fun r w' => r = str (s ++ [40] ++ ([44, 32] : Str).intercalate [showN dateS a] ++ [41]) ∧ _)
   rw [hj] at hl ⊢
   simp only [List.length_append, List.length_cons, List.length_nil] at hl
   obtain ⟨kv, rfl, hs⟩ := hx
   replace hs : SlV X w kv [a] := hs
   refine calls_of_WC1 (n := 129) Tryz.func32 rfl rfl rfl ?_
   refine W ?_
   refine WL_eff (OE_box rfl) rfl ?_
   rintro _ w1 ⟨bk, rfl, hbk, hblk, hS⟩
   replace hblk : Blk w1 bk _ [.int .i64 10, .int .i64 0, str s, kv] := hblk
   replace hs := hs.up hS
   refine W ?_
   refine CL rfl (evs1 rfl) rfl (level_any (.mk 10 0 s [a]) X _ _ ⟨kv, rfl, hs⟩) ?_
   rintro _ w2 ⟨rfl, hT2⟩
   replace hs := hs.up hT2; replace hblk := hblk.up hT2
   replace hS := hS.trans hT2
   clear hT2
   repeat' (first | refine W1 ?_ | (exfalso; omega) | (refine VG ?_ ?_ <;> intro hg) | (refine VC ?_ ?_ <;> intro hc))
   refine WC_drawn 10 [] [] [(0, 0), (1, 1), (2, 0), (3, 0), (4, 1), (5, 2), (6, 2), (7, 0), (8, 0), (9, 0)] rfl mixed (by kernel_rfl) (by kernel_rfl) (by kernel_rfl) (fun w1 hS1 => ?_)
   replace hs := hs.up hS1; replace hblk := hblk.up hS1
   replace hS := hS.trans hS1
   clear hS1
   repeat' (first | refine D1 ?_ | refine WD_free rfl trivial (fun _ => PR_addT rfl rfl (by simp; omega)) rfl ?_)
   have hall := all_any [a] (fun y hy => by
    simp only [List.mem_cons, List.not_mem_nil, or_false] at hy
    rcases hy with rfl
    · exact ih _ (by simp) ha) (fun y hy => by
    simp only [List.mem_cons, List.not_mem_nil, or_false] at hy
    rcases hy with rfl <;> omega) (by simp) X _ _ hs (hT.up hS)
   refine WD_eff rfl trivial (OE_call rfl (evs1 rfl) hall) (fun _ _ h => h.2) rfl ?_
   clear hall
   rintro rv w4 hrow
   have hrs : SlV [] w4 rv [showN dateS a] := hrow.slv (by simp)
   replace hS := hS.trans hrow.2
   clear hrow
   have hjn := Join_any _ [44, 32] _ _ hrs (by show (([44, 32] : Str).intercalate [showN dateS a]).length ≤ _; rw [hj]; first | omega | (simp; omega)) (by simp)
   refine WD_eff rfl trivial (OE_call rfl (evs2 rfl rfl) hjn) (fun _ _ h => h.2) rfl ?_
   clear hjn
   rintro _ w5 ⟨rfl, hT5⟩
   rw [show Lib.join [showN dateS a] [44, 32] = showN dateS a from hj]
   replace hS := hS.trans hT5
   repeat' (first | refine D1 ?_ | refine WD_free rfl trivial (fun _ => PR_addT rfl rfl (by simp; omega)) rfl ?_)
   repeat' (first | refine W1 ?_ | (exfalso; omega) | (refine VG ?_ ?_ <;> intro hg) | (refine VC ?_ ?_ <;> intro hc))
   refine WR ?_
   exact .mk ⟨by simp, hS⟩
 | call2 s a b hf h1 ha hb =>
   rw [showN_mk] at hl ⊢
   have hj : ([44, 32] : Str).intercalate [showN dateS a, showN dateS b] = showN dateS a ++ [44, 32] ++ showN dateS b := by simp [List.intercalate, List.intersperse]
   replace hl : (s ++ [40] ++ ([44, 32] : Str).intercalate [showN dateS a, showN dateS b] ++ [41]).length ≤ 1000000000 := hl
   show Calls _ _ _ _ (Ret fun r w' => r = str (s ++ [40] ++ ([44, 32] : Str).intercalate [showN dateS a, showN dateS b] ++ [41]) ∧ _)
   rw [hj] at hl ⊢
   simp only [List.length_append, List.length_cons, List.length_nil] at hl
   obtain ⟨kv, rfl, hs⟩ := hx
   replace hs : SlV X w kv [a, b] := hs
   refine calls_of_WC1 (n := 129) Tryz.func32 rfl rfl rfl ?_
   refine W ?_
   refine WL_eff (OE_box rfl) rfl ?_
   rintro _ w1 ⟨bk, rfl, hbk, hblk, hS⟩
   replace hblk : Blk w1 bk _ [.int .i64 10, .int .i64 0, str s, kv] := hblk
   replace hs := hs.up hS
   refine W ?_
   refine CL rfl (evs1 rfl) rfl (level_any (.mk 10 0 s [a, b]) X _ _ ⟨kv, rfl, hs⟩) ?_
   rintro _ w2 ⟨rfl, hT2⟩
   replace hs := hs.up hT2; replace hblk := hblk.up hT2
   replace hS := hS.trans hT2
   clear hT2
   repeat' (first | refine W1 ?_ | (exfalso; omega) | (refine VG ?_ ?_ <;> intro hg) | (refine VC ?_ ?_ <;> intro hc))
   refine WC_drawn 10 [] [] [(0, 0), (1, 1), (2, 0), (3, 0), (4, 1), (5, 2), (6, 2), (7, 0), (8, 0), (9, 0)] rfl mixed (by kernel_rfl) (by kernel_rfl) (by kernel_rfl) (fun w1 hS1 => ?_)
   replace hs := hs.up hS1; replace hblk := hblk.up hS1
   replace hS := hS.trans hS1
   clear hS1
   repeat' (first | refine D1 ?_ | refine WD_free rfl trivial (fun _ => PR_addT rfl rfl (by simp; omega)) rfl ?_)
   have hall := all_any [a, b] (fun y hy => by
    simp only [List.mem_cons, List.not_mem_nil, or_false] at hy
    rcases hy with rfl | rfl
    · exact ih _ (by simp) ha
    · exact ih _ (by simp) hb) (fun y hy => by
    simp only [List.mem_cons, List.not_mem_nil, or_false] at hy
    rcases hy with rfl | rfl <;> omega) (by simp) X _ _ hs (hT.up hS)
   refine WD_eff rfl trivial (OE_call rfl (evs1 rfl) hall) (fun _ _ h => h.2) rfl ?_
   clear hall
   rintro rv w4 hrow
   have hrs : SlV [] w4 rv [showN dateS a, showN dateS b] := hrow.slv (by simp)
   replace hS := hS.trans hrow.2
   clear hrow
   have hjn := Join_any _ [44, 32] _ _ hrs (by show (([44, 32] : Str).intercalate [showN dateS a, showN dateS b]).length ≤ _; rw [hj]; first | omega | (simp; omega)) (by simp)
   refine WD_eff rfl trivial (OE_call rfl (evs2 rfl rfl) hjn) (fun _ _ h => h.2) rfl ?_
   clear hjn
   rintro _ w5 ⟨rfl, hT5⟩
   rw [show Lib.join [showN dateS a, showN dateS b] [44, 32] = showN dateS a ++ [44, 32] ++ showN dateS b from hj]
   replace hS := hS.trans hT5
   repeat' (first | refine D1 ?_ | refine WD_free rfl trivial (fun _ => PR_addT rfl rfl (by simp; omega)) rfl ?_)
   repeat' (first | refine W1 ?_ | (exfalso; omega) | (refine VG ?_ ?_ <;> intro hg) | (refine VC ?_ ?_ <;> intro hc))
   refine WR ?_
   exact .mk ⟨by simp, hS⟩
end Go.Proofs.YtgpibcgebpgmiaaGreatDoor
namespace Go.Eng
open Go Go.RowKit Go.Proofs
section
variable {P : Program} {n : Nat} {e : Env} {w : World} {d : Option Nat} {ty : TypeId} {pos : String} {af : Array Edge} {g : Option (Nat × Bool)}
theorem Blk.shape {b T : Nat} {cs : List Value} (h : Blk w b T cs) : w.shape? b = some (T, cs.length) := by
 unfold Blk at h
 simp [World.shape?, h]
theorem PR_toUnsafe {src dst t b T : Nat} {j : TypeInfo} {cs : List Value} {x : Operand} [hs : Und P src (.pointer t)] [hd : Und P dst .unsafePointer] (ht : P.info? t = some j) (hj : j.size ≠ 0) (hx : ev e x = some (.pointer (some ⟨b, 0, none⟩))) (hb : Blk w b T cs) (hl : 0 < cs.length) :
 PR P n ⟨d, .convert src dst x, ty, pos, af, g⟩ e w (.pointer (some ⟨b, 0, none⟩)) :=
 ⟨fun a ha => by
   have := Go.Lib.run_to_unsafe (P := P) w (src := src) (dst := dst) ⟨b, 0, none⟩ hs.h hd.h ht hj hb.shape hl
   simp [execOp, ha.ev hx, this]⟩
theorem PR_fromUnsafe {src dst u b T : Nat} {j : TypeInfo} {cs : List Value} {x : Operand} [hs : Und P src .unsafePointer] [hd : Und P dst (.pointer u)] (hu : P.info? u = some j) (hx : ev e x = some (.pointer (some ⟨b, 0, none⟩))) (hb : Blk w b T cs) (hl : liesAt P P.depth T (cs.length / P.cellsOf T) 0 u 1 = true) :
 PR P n ⟨d, .convert src dst x, ty, pos, af, g⟩ e w (.pointer (some ⟨b, 0, none⟩)) :=
 ⟨fun a ha => by
   have := Go.Lib.run_from_unsafe (P := P) w (src := src) (dst := dst) ⟨b, 0, none⟩ hs.h hd.h hu hb.shape hl
   simp [execOp, ha.ev hx, this]⟩
theorem PR_extern {f : Nat} {fn : Func} {x : Operand} {ts : Array TypeId} {en : Array Value → Sem Value} {c : Operand} {v u : Value} (hf : P.funcs[f]? = some fn) (hname : (fn.name == "runtime.NumGoroutine") = false)
 (hb : fn.body.isNone = true) (hnx : Extern.findNext fn = none) (he : Extern.find fn = some en) (hc : ev e c = some (.func (.func f) #[] #[])) (hx : ev e x = some v) (hen : ∀ w, (en #[v]).run P w = .ok u w) :
 PR P n ⟨d, .call { callee := .value c, args := #[x], argTypes := ts }, ty, pos, af, g⟩ e w u :=
 ⟨fun a ha => by
   have := run_callFunc_extern hf hname hb hnx he #[v] w
   simp only [execOp, resolve, ha.ev hc, Deferred.ofValue]
   simp [invoke, ha.ev hx, this, hen]⟩
theorem guardPtr (o : BinOp) (t : TypeId) (x y : Operand) (p q : Option Addr) (w : World) : (eqGuard o t x y (.pointer p) (.pointer q)).run P w = .ok () w := by cases o <;> rfl
theorem PR_binPtr {o : BinOp} {t u : TypeId} {x y : Operand} {p q : Option Addr} {c : Value} (hx : ev e x = some (.pointer p)) (hy : ev e y = some (.pointer q)) (h : ∀ w, (binOp o t (.pointer p) (.pointer q)).run P w = .ok c w) : PR P n ⟨d, .binOp o t x y u, ty, pos, af, g⟩ e w c :=
 ⟨fun s ha => by
   simp only [execOp, ha.ev hx, ha.ev hy]
   simp [h, guardPtr]⟩
end
end Go.Eng
namespace Go.Proofs.YtgpibcgebpgmiaaGreatDoor
open Go Go.Eng Go.RowKit Go.Proofs
theorem ptrNil (w : World) : (binOp .eql 68 (.pointer none) (.pointer none)).run Tryz.prog w = .ok (.bool true) w := by kernel_rfl
theorem ptrSome (a : Addr) (w : World) : (binOp .eql 68 (.pointer (some a)) (.pointer none)).run Tryz.prog w = .ok (.bool false) w := by kernel_rfl
theorem infoB : ∃ j, Tryz.prog.info? 70 = some j ∧ j.size ≠ 0 := by
 cases h : Tryz.prog.info? 70 with
 | none =>
   have : (Tryz.prog.info? 70).isSome = true := by kernel_rfl
   rw [h] at this
   simp at this
 | some j =>
   refine ⟨j, rfl, ?_⟩
   have : (Tryz.prog.info? 70).map (·.size) = some 2 := by kernel_rfl
   rw [h] at this
   simp at this
   omega
theorem liesB : liesAt Tryz.prog Tryz.prog.depth 70 (2 / Tryz.prog.cellsOf 70) 0 70 1 = true := by kernel_rfl
theorem copyCheck_any (b : Nat) (p v : Value) (w : World) (hb : Blk w b 70 [p, v]) (hp : p = .pointer none ∨ p = .pointer (some ⟨b, 0, none⟩)) :
 Calls Tryz.prog 82 #[.pointer (some ⟨b, 0, none⟩)] w (Ret fun r w' => Blk w' b 70 [.pointer (some ⟨b, 0, none⟩), v] ∧ Stp [b] w w') := by
 refine calls_of_WC1 (n := 20) Tryz.func82 rfl rfl rfl ?_
 obtain ⟨j, hj, hj0⟩ := infoB
 rcases hp with rfl | rfl
 · refine W ?_
   refine WL_pure (PR_binPtr rfl rfl ptrNil) rfl ?_
   refine W ?_
   refine WL_pure (PR_toUnsafe hj hj0 rfl hb (by simp)) rfl ?_
   refine WL_pure (PR_extern Tryz.func129 (by kernel_rfl) (by kernel_rfl) (by kernel_rfl) (en := Extern.AbiNoEscape.same) (by kernel_rfl) rfl rfl (fun w => Go.Lib.run_noEscape _ _)) rfl ?_
   refine WL_pure (PR_fromUnsafe hj rfl hb liesB) rfl ?_
   refine W ?_
   refine WL_eff0 (OE_store1 (u := .pointer (some ⟨b, 0, none⟩)) rfl rfl rfl rfl hb (by simp)) ?_
   rintro _ w1 ⟨hS, hb'⟩
   refine W ?_
   first | refine WQ_ret0 rfl ?_ | refine WQ_end0 rfl ?_
   exact .mk ⟨hb', hS⟩
 · refine W ?_
   refine WL_pure (PR_binPtr rfl rfl (ptrSome _)) rfl ?_
   refine W ?_
   refine WL_pure (PR_binPtr rfl rfl (fun w => Go.Lib.run_neq_ptr_same w _ (by kernel_rfl) hj)) rfl ?_
   refine W ?_
   first | refine WQ_ret0 rfl ?_ | refine WQ_end0 rfl ?_
   exact .mk ⟨hb, Stp.refl _ _⟩
structure Bd (w : World) (b base : Nat) (v : Value) (l : Str) : Prop where
 blk : ∃ p, Blk w b 70 [p, v] ∧ (p = .pointer none ∨ p = .pointer (some ⟨b, 0, none⟩))
 row : Row [b] w base 5 v l
 ne : b ∉ ob v
 le : base ≤ b
theorem Bd.up {w w' : World} {b base : Nat} {v : Value} {l : Str} (h : Bd w b base v l) (hS : Stp [] w w') : Bd w' b base v l := by
 obtain ⟨⟨p, h1, h2⟩, h3, h4, h5⟩ := h
 exact ⟨⟨p, h1.up hS, h2⟩, h3.up hS, h4, h5⟩
theorem Bd.lt {w : World} {b base : Nat} {v : Value} {l : Str} (h : Bd w b base v l) : b < w.heap.size := let ⟨p, h1, h2⟩ := h.blk; h1.lt
theorem Write_any (b base : Nat) (v : Value) (l s : Str) (w : World) (h : Bd w b base v l) (hl : l.length + s.length ≤ 140737488355328) :
 Calls Tryz.prog 30 #[.pointer (some ⟨b, 0, none⟩), str s] w (Ret fun r w' => ∃ v', Bd w' b base v' (l ++ s) ∧ Stp (b :: ob v) w w' ∧ ∀ c ∈ ob v', c ∈ ob v ∨ w.heap.size ≤ c) := by
 obtain ⟨⟨p, hb, hp⟩, hrow, hne, hle⟩ := h
 have hbl := hb.lt
 refine calls_of_WC2 (n := 19) Tryz.func30 rfl rfl rfl ?_
 refine W ?_
 refine CL rfl (evs1 rfl) rfl (copyCheck_any b p v _ hb hp) ?_
 rintro _ w1 ⟨hb1, hS⟩
 replace hrow := hrow.ext (X' := [b]) hS (fun c hc => by simp at hc; subst hc; exact ⟨by simp, hne⟩) (fun c hc => .inl hc)
 clear hb hp
 refine W ?_
 refine WL_eff (OE_appendT (X := [b]) (base := base) rfl rfl hrow hl (by have := hS.size; omega)) rfl ?_
 rintro v' w2 ⟨hrow', hS2, hob⟩
 have hne' : b ∉ ob v' := fun hc => by
  rcases hob b hc with h | h
  · exact hne h
  · have := hb1.lt; omega
 replace hb1 := hb1.ext hS2 hne
 refine W ?_
 have hsl := hrow'.slv (X := []) (by simp)
 refine WL_eff0 (OE_store1 (u := v') rfl rfl hsl.cells hsl.one hb1 (by simp)) ?_
 rintro _ w3 ⟨hS3, hb3⟩
 replace hb3 : Blk w3 b 70 [.pointer (some ⟨b, 0, none⟩), v'] := hb3
 replace hrow' := hrow'.ext (X' := [b]) hS3 (fun c hc => by simp at hc; subst hc; exact ⟨by simp, hne'⟩) (fun c hc => .inl hc)
 refine W ?_
 refine WR ?_
 refine .mk ⟨v', ⟨⟨_, hb3, .inr rfl⟩, hrow', hne', hle⟩, ?_, fun c hc => ?_⟩
 · exact ((hS.mono (by simp)).trans (hS2.mono (fun _ hx => List.mem_cons_of_mem _ hx))).trans (hS3.mono (by simp))
 · rcases hob c hc with h | h
   · exact .inl h
   · exact .inr (Nat.le_trans hS.size h)
theorem line_any (b base : Nat) (v : Value) (l word s : Str) (w : World) (h : Bd w b base v l) (hl : l.length + word.length + s.length ≤ 100000000000) :
 Calls Tryz.prog 29 #[str word, str s, .pointer (some ⟨b, 0, none⟩)] w (Ret fun r w' => ∃ v', Bd w' b base v' (l ++ lineS word s) ∧ Stp (b :: ob v) w w' ∧ ∀ c ∈ ob v', c ∈ ob v ∨ w.heap.size ≤ c) := by
 unfold lineS
 by_cases hs : s = []
 · rw [if_pos hs, List.append_nil]
   refine calls_of_WC3 (n := 14) Tryz.func29 rfl rfl rfl ?_
   refine W ?_
   refine WC_cond rfl (fun hc => absurd hs hc) (fun hc => ?_)
   refine W ?_
   first | refine WQ_ret0 rfl ?_ | refine WQ_end0 rfl ?_
   exact .mk ⟨v, h, Stp.refl _ _, fun c hc => .inl hc⟩
 · rw [if_neg hs]
   refine calls_of_WC3 (n := 14) Tryz.func29 rfl rfl rfl ?_
   refine W ?_
   refine WC_cond rfl (fun hc => ?_) (fun hc => absurd hs hc)
   repeat' (first | refine W1 ?_ | refine WL_addT rfl rfl (by simp; omega) rfl ?_)
   refine CL rfl (evs2 rfl rfl) rfl (Write_any b base v l _ _ h (by simp; omega)) ?_
   rintro r w1 ⟨v', h1, h2, h3⟩
   refine W ?_
   first | refine WQ_ret0 rfl ?_ | refine WQ_end0 rfl ?_
   refine .mk ⟨v', ?_, h2, h3⟩
   simpa using h1
theorem String_any (b base : Nat) (v : Value) (l : Str) (w : World) (h : Bd w b base v l) (hB : base ≤ w.heap.size) :
 Calls Tryz.prog 33 #[.pointer (some ⟨b, 0, none⟩)] w (Ret fun r w' => r = str l ∧ Below base w w') := by
 obtain ⟨⟨p, hb, hp⟩, hrow, hne, hle⟩ := h
 obtain ⟨css, h1, h2, h3⟩ := hrow
 have hcss : css.flatten = Lib.byteCells l := by
  have : css = l.map Flat.enc := by
   apply List.ext_getElem (by simp [h1])
   intro i hi hi'
   have : css[i] = Flat.enc l[i] := h2 i (by omega) hi
   simpa using this
  rw [this]
  unfold Lib.byteCells
  clear this h1 h2 h3 hb hp
  induction l with
  | nil => rfl
  | cons c r ih => rw [List.map_cons, List.flatten_cons, ih]; rfl
 rw [hcss] at h3
 have hat : Lib.BuilderAt 70 5 base b p (Lib.byteCells l) w := ⟨hle, v, hb, by rw [Lib.byteCells_length]; exact h3, by rw [← ob_own] at hne; simpa [Option.mem_toList] using hne⟩
 refine (Tryz.Builder_String_any base b l w (by rcases hp with rfl | rfl; exact .inl hat; exact .inr hat) hB).mono ?_
 rintro e w' ⟨rfl, hBl⟩
 exact .mk ⟨rfl, hBl⟩
end Go.Proofs.YtgpibcgebpgmiaaGreatDoor
namespace Go.Eng
open Go Go.RowKit Go.Proofs
end Go.Eng
namespace Go.Proofs.YtgpibcgebpgmiaaGreatDoor
open Go Go.Eng Go.RowKit Go.Proofs
theorem slvRul {X : List Nat} {w : World} {v : Value} {l : List Rul} {i : Nat} (h : SlV X w v l) (hi : i < l.length) : ∃ ki kd, SlV X w ki l[i].cnd.kids ∧ SlV X w kd l[i].due.kids ∧ ∀ j u, (rlC l[i] ki kd)[j]? = some u → w.cell? (elAddr v i 13 j) = some u := by
 obtain ⟨cs, hr, hc⟩ := h.cell hi
 obtain ⟨ki, kd, rfl, h1, h2⟩ := hr
 exact ⟨ki, kd, h1, h2, hc⟩
theorem PR_loadRul {P : Program} {n : Nat} {e : Env} {w : World} {d : Option Nat} {ty : TypeId} {pos : String} {af : Array Edge} {g : Option (Nat × Bool)} {X : List Nat} {v : Value} {l : List Rul} {i : Nat} {ki kd : Value} {x : Operand} {t : TypeId} {D : TypeDesc} [hu : Und P t D] (hA : aggB D = true) [hsz : Siz P t 13] (hx : ev e x = some (.pointer (some (elAddr v i 13 0)))) (hs : SlV X w v l) (hi : i < l.length)
 (hc : ∀ j u, (rlC l[i] ki kd)[j]? = some u → w.cell? (elAddr v i 13 j) = some u) :
 PR P n ⟨d, .load t x, ty, pos, af, g⟩ e w (.agg (rlC l[i] ki kd).toArray) := by
 obtain ⟨p, l', c, rfl⟩ := hs.isSome hi
 refine PR_loadN (cs := rlC l[i] ki kd) hA hx rfl (fun j u hu => ?_)
 have := hc j u hu
 simpa [elAddr] using this
theorem lineS_len (w s : Str) : s.length ≤ (lineS w s).length ∧ (lineS w s).length ≤ s.length + w.length + 5 := by
 unfold lineS
 split <;> simp [*] <;> omega
theorem ifS_len (ds : DayS) (x : Nd) (h : ¬ isTrue x) : ifS ds x = lineS [105, 102] (showN ds x) := by
 unfold ifS
 rw [if_neg h]
structure PrOk (r : RuleM) : Prop where
 frm : 0 ≤ r.frm ∧ r.frm ≤ 3652058
 cond : Wf r.cond
 due : Wf r.due
set_option maxHeartbeats 2000000 in
theorem Print_any (X : List Nat) (lv : Value) (rs : List RuleM) (w : World) (hX : ∀ c ∈ X, c < w.heap.size) (hs : SlV X w lv (rs.map RuleM.rul)) (hok : ∀ r ∈ rs, PrOk r) (hlen : (rs.flatMap (showRule dateS)).length ≤ 1000000) (hT : TabW w) :
 Calls Tryz.prog 8 #[lv] w (Ret fun r w' => r = str (rs.flatMap (showRule dateS)) ∧ Stp [] w w') := by
 have hln : (rs.map RuleM.rul).length = rs.length := by simp
 have hmax := hs.max
 refine calls_of_WC1 (n := 59) Tryz.func8 rfl rfl rfl ?_
 refine W ?_
 refine WL_eff OE_alloc rfl ?_
 rintro _ w0 ⟨b3, rfl, hb3, e3, hS0⟩
 have hB0 : Bd w0 b3 w.heap.size (.slice none 0 0) [] := ⟨⟨_, e3, .inl rfl⟩, Row.nil, by simp [ob], hb3⟩
 have hb3w : w.heap.size ≤ b3 := hb3
 clear e3
 have hs0 := hs.up hS0
 refine W ?_
 refine WC_loop (σ := Nat × Value) (fun q => [(3, .pointer (some ⟨b3, 0, none⟩)), (4, .func (.func 29) #[] #[.pointer (some ⟨b3, 0, none⟩)]), (8, lv), (9, .int .i64 (rs.map RuleM.rul).length), (10, .int .i64 q.1)])
  (fun q w' => q.1 ≤ rs.length ∧ Bd w' b3 w.heap.size q.2 ((rs.take q.1).flatMap (showRule dateS)) ∧ Stp [] w w') (fun q => rs.length - q.1) (0, .slice none 0 0) ⟨rfl, rfl, rfl, rfl, rfl, trivial⟩ ⟨Nat.zero_le _, hB0, hS0⟩ ?_
 clear hs0 hB0 hS0
 rintro ⟨i, v⟩ w1 ⟨hi, hB, hS⟩
 dsimp only at hi hB hS ⊢
 have hs1 := hs.up hS
 by_cases hlt : i < rs.length
 · have hlt' : i < (rs.map RuleM.rul).length := by rw [hln]; exact hlt
   obtain ⟨ki, kd, hki, hkd, hcl0⟩ := slvRul hs hlt'
   have hcl : ∀ j u, (rlC (rs.map RuleM.rul)[i] ki kd)[j]? = some u → w1.cell? (elAddr lv i 13 j) = some u := fun j u hj => cell_on hs hlt' (hS.mono (by simp)) (hcl0 j u hj)
   clear hcl0
   have hri : (rs.map RuleM.rul)[i] = rs[i].rul := by simp
   rw [hri] at hki hkd
   have hri' := hok rs[i] (List.getElem_mem hlt)
   have htk : (rs.take (i + 1)).flatMap (showRule dateS) = (rs.take i).flatMap (showRule dateS) ++ showRule dateS rs[i] := by
    rw [List.take_succ_eq_append_getElem hlt, List.flatMap_append]
    simp
   have hpre : ((rs.take (i + 1)).flatMap (showRule dateS)).length ≤ 1000000 := by
    refine Nat.le_trans ?_ hlen
    conv => rhs; rw [← List.take_append_drop (i + 1) rs]
    rw [List.flatMap_append, List.length_append]
    omega
   rw [htk] at hpre
   repeat' (first | refine W1 ?_ | (exfalso; omega) | (refine VG ?_ ?_ <;> intro hg) | (refine VC ?_ ?_ <;> intro hc))
   refine WL_pure (PR_loadRul rfl rfl hs1 hlt' hcl) rfl ?_
   rw [hri]
   generalize (rs.take i).flatMap (showRule dateS) = l0 at *
   generalize rs[i] = r at *
   refine WL_eff OE_alloc rfl ?_
   rintro _ w2 ⟨b6, rfl, hb6, e6, hT2⟩
   refine WL_eff0 (OE_storeA (us := rlC r.rul ki kd) rfl rfl rfl rfl (rlOne _ hki hkd) e6 rfl) ?_
   rintro _ w3 ⟨hT3, e6'⟩
   replace hT2 : Stp [] w1 w3 := hT2.own hT3 (fun c hc => .inr (by simp at hc; omega))
   clear hT3 e6
   have hBl := hB.lt
   have hBo := hB.row.ob_le
   replace hB := hB.up hT2
   replace hS := hS.trans hT2
   have n6 : b6 ∉ b3 :: ob v := fun hc => by
    rcases List.mem_cons.1 hc with h | h
    · omega
    · have := (hBo b6 h).2; omega
   clear hT2
   have hsr : (showRule dateS r).length = (headS dateS r ++ lineS [111, 110] r.on ++ ifS dateS r.cond ++ lineS [100, 117, 101] (showN dateS r.due) ++ lineS [117, 110, 108, 101, 115, 115] r.unl ++ lineS [101, 108, 115, 101] r.els ++ [125, 10]).length := rfl
   have e1 := lineS_len [111, 110] r.on
   have e2 := lineS_len [100, 117, 101] (showN dateS r.due)
   have e3 := lineS_len [117, 110, 108, 101, 115, 115] r.unl
   have e4 := lineS_len [101, 108, 115, 101] r.els
   have e5 : (headS dateS r).length = 5 + r.name.length + 7 + (dateS r.frm).length + 3 := by unfold headS; simp; omega
   have e6 := dateS_len hri'.frm.1 hri'.frm.2
   simp only [List.length_append, List.length_cons, List.length_nil] at hsr hpre e1 e2 e3 e4
   repeat' (first | refine W1 ?_ | (exfalso; omega) | (refine VG ?_ ?_ <;> intro hg) | (refine VC ?_ ?_ <;> intro hc))
   refine WC_drawn 10 (b3 :: ob v) [] [(0, 0), (1, 1), (2, 0), (3, 0), (4, 0), (5, 1), (6, 2), (7, 0), (8, 0), (9, 2)] rfl mixed (by kernel_rfl) (by kernel_rfl) (by kernel_rfl) (fun w1 hS1 => ?_)
   replace hB := hB.up hS1
   replace e6' := e6'.up hS1
   replace hS := hS.trans hS1
   clear hS1
   refine D ?_
   refine WD_free rfl trivial (fun _ => PR_addT rfl rfl (by simp [RuleM.rul]; omega)) rfl ?_
   refine WD_free rfl trivial (fun _ => PR_addT rfl rfl (by simp [RuleM.rul]; omega)) rfl ?_
   refine D ?_
   have hdp := DPrint_any r.frm _ hri'.frm.1 hri'.frm.2 (hT.up hS)
   refine WD_eff rfl trivial (OE_call rfl (evs1 rfl) hdp) (fun _ _ h => h.2.mono (by simp)) rfl ?_
   clear hdp
   rintro _ w6 ⟨rfl, hT6⟩
   replace hB := hB.up hT6
   replace e6' := e6'.up hT6
   replace hS := hS.trans hT6
   clear hT6
   refine WD_free rfl trivial (fun _ => PR_addT rfl rfl (by simp [RuleM.rul]; omega)) rfl ?_
   refine WD_free rfl trivial (fun _ => PR_addT rfl rfl (by simp [RuleM.rul]; omega)) rfl ?_
   have hw := Write_any b3 w.heap.size v l0 (headS dateS r) _ hB (by omega)
   refine WD_eff rfl trivial (OE_call rfl (evs2 rfl rfl) hw) (fun _ _ h => h.choose_spec.2.1) rfl ?_
   clear hw
   rintro _ w7 ⟨v1, hB', hT7, hob⟩
   have n6' : b6 ∉ b3 :: ob v1 := fun hc => by
    rcases List.mem_cons.1 hc with h | h
    · exact n6 (by simp [h])
    · rcases hob b6 h with h | h
      · exact n6 (by simp [h])
      · have := e6'.lt; omega
   replace e6' := e6'.ext hT7 n6
   replace hS := hS.own hT7 (fun c hc => by
    rcases List.mem_cons.1 hc with rfl | h
    · exact .inr hb3w
    · exact .inr (hB.row.ob_le c h).1)
   clear hB n6 hob hT7
   have hB := hB'
   have n6 := n6'
   clear hB' n6'
   replace hB : Bd w7 b3 w.heap.size v1 (l0 ++ headS dateS r) := hB
   refine WD_nil ?_
   refine W ?_
   refine WL_eff (OE_callC rfl (evs2 rfl rfl) rfl (line_any b3 w.heap.size v1 (l0 ++ headS dateS r) [111, 110] (r.on) _ hB (by simp; omega))) rfl ?_
   rintro _ w8 ⟨u8, hB', hT7, hob⟩
   have n6' : b6 ∉ b3 :: ob u8 := fun hc => by
    rcases List.mem_cons.1 hc with h | h
    · exact n6 (by simp [h])
    · rcases hob b6 h with h | h
      · exact n6 (by simp [h])
      · have := e6'.lt; omega
   replace e6' := e6'.ext hT7 n6
   replace hS := hS.own hT7 (fun c hc => by
    rcases List.mem_cons.1 hc with rfl | h
    · exact .inr hb3w
    · exact .inr (hB.row.ob_le c h).1)
   clear hB n6 hob hT7
   have hB := hB'
   have n6 := n6'
   clear hB' n6'
   refine WL_nil ?_
   refine WQ_then ?_
   refine WC_cut (σ := Value) (fun q => [(3, .pointer (some ⟨b3, 0, none⟩)), (4, .func (.func 29) #[] #[.pointer (some ⟨b3, 0, none⟩)]), (6, .pointer (some ⟨b6, 0, none⟩)), (8, lv), (9, .int .i64 (rs.map RuleM.rul).length), (10, .int .i64 i)])
    (fun q w' => Bd w' b3 w.heap.size q (l0 ++ headS dateS r ++ lineS [111, 110] (r.on) ++ ifS dateS r.cond) ∧ Blk w' b6 38 (rlC r.rul ki kd) ∧ b6 ∉ b3 :: ob q ∧ Stp [] w w') ?_ ?_
   · by_cases hit : isTrue r.cond
     · have hifs : ifS dateS r.cond = [] := by unfold ifS; rw [if_pos hit]
       rw [hifs, List.append_nil]
       have hk : r.rul.cnd.kind = 2 := hit.1
       have hn : r.rul.cnd.num = 1 := hit.2
       repeat' (first | refine W1 ?_ | (exfalso; omega) | (refine VG ?_ ?_ <;> intro hg) | (refine VC ?_ ?_ <;> intro hc))
       exact WQ_cut u8 ⟨rfl, rfl, rfl, rfl, rfl, rfl, trivial⟩ ⟨hB, e6', n6, hS⟩
     · have hifs := ifS_len dateS r.cond hit
       have hiln := lineS_len [105, 102] (showN dateS r.cond)
       rw [hifs] at hsr ⊢
       have hni : ¬ (r.rul.cnd.kind = 2 ∧ r.rul.cnd.num = 1) := hit
       repeat' (first | refine W1 ?_ | (exfalso; omega) | (refine VG ?_ ?_ <;> intro hg) | (refine VC ?_ ?_ <;> intro hc))
       all_goals
        refine WL_pure (PR_loadN_blk (us := ndC r.cond ki) rfl rfl e6' rfl rfl) rfl ?_
        refine CL rfl (evs1 rfl) rfl (show_any r.cond hri'.cond X _ _ ⟨ki, rfl, hki.up hS⟩ (hT.up hS) (by omega)) ?_
        rintro _ w20 ⟨rfl, hT20⟩
        replace hB := hB.up hT20
        replace e6' := e6'.up hT20
        replace hS := hS.trans hT20
        clear hT20
        refine WL_eff (OE_callC rfl (evs2 rfl rfl) rfl (line_any b3 w.heap.size u8 (l0 ++ headS dateS r ++ lineS [111, 110] (r.on)) [105, 102] (showN dateS r.cond) _ hB (by simp; omega))) rfl ?_
        rintro _ w9 ⟨u9, hB', hT7, hob⟩
        have n6' : b6 ∉ b3 :: ob u9 := fun hc => by
         rcases List.mem_cons.1 hc with h | h
         · exact n6 (by simp [h])
         · rcases hob b6 h with h | h
           · exact n6 (by simp [h])
           · have := e6'.lt; omega
        replace e6' := e6'.ext hT7 n6
        replace hS := hS.own hT7 (fun c hc => by
         rcases List.mem_cons.1 hc with rfl | h
         · exact .inr hb3w
         · exact .inr (hB.row.ob_le c h).1)
        clear hB n6 hob hT7
        have hB := hB'
        have n6 := n6'
        clear hB' n6'
        refine W ?_
        exact WQ_cut u9 ⟨rfl, rfl, rfl, rfl, rfl, rfl, trivial⟩ ⟨hB, e6', n6, hS⟩
   · rintro q w20 ⟨hB, e6', n6, hS⟩
     repeat' (first | refine W1 ?_ | (exfalso; omega) | (refine VG ?_ ?_ <;> intro hg) | (refine VC ?_ ?_ <;> intro hc))
     refine WL_pure (PR_loadN_blk (us := ndC r.due kd) rfl rfl e6' rfl rfl) rfl ?_
     refine CL rfl (evs1 rfl) rfl (show_any r.due hri'.due X _ _ ⟨kd, rfl, hkd.up hS⟩ (hT.up hS) (by omega)) ?_
     rintro _ w21 ⟨rfl, hT20⟩
     replace hB := hB.up hT20
     replace e6' := e6'.up hT20
     replace hS := hS.trans hT20
     clear hT20
     refine WL_eff (OE_callC rfl (evs2 rfl rfl) rfl (line_any b3 w.heap.size q (l0 ++ headS dateS r ++ lineS [111, 110] (r.on) ++ ifS dateS r.cond) [100, 117, 101] (showN dateS r.due) _ hB (by simp; omega))) rfl ?_
     rintro _ w10 ⟨u10, hB', hT7, hob⟩
     have n6' : b6 ∉ b3 :: ob u10 := fun hc => by
      rcases List.mem_cons.1 hc with h | h
      · exact n6 (by simp [h])
      · rcases hob b6 h with h | h
        · exact n6 (by simp [h])
        · have := e6'.lt; omega
     replace e6' := e6'.ext hT7 n6
     replace hS := hS.own hT7 (fun c hc => by
      rcases List.mem_cons.1 hc with rfl | h
      · exact .inr hb3w
      · exact .inr (hB.row.ob_le c h).1)
     clear hB n6 hob hT7
     have hB := hB'
     have n6 := n6'
     clear hB' n6'
     refine W ?_
     refine WL_eff (OE_callC rfl (evs2 rfl rfl) rfl (line_any b3 w.heap.size u10 (l0 ++ headS dateS r ++ lineS [111, 110] (r.on) ++ ifS dateS r.cond ++ lineS [100, 117, 101] (showN dateS r.due)) [117, 110, 108, 101, 115, 115] (r.unl) _ hB (by simp; omega))) rfl ?_
     rintro _ w11 ⟨u11, hB', hT7, hob⟩
     have n6' : b6 ∉ b3 :: ob u11 := fun hc => by
      rcases List.mem_cons.1 hc with h | h
      · exact n6 (by simp [h])
      · rcases hob b6 h with h | h
        · exact n6 (by simp [h])
        · have := e6'.lt; omega
     replace e6' := e6'.ext hT7 n6
     replace hS := hS.own hT7 (fun c hc => by
      rcases List.mem_cons.1 hc with rfl | h
      · exact .inr hb3w
      · exact .inr (hB.row.ob_le c h).1)
     clear hB n6 hob hT7
     have hB := hB'
     have n6 := n6'
     clear hB' n6'
     refine W ?_
     refine WL_eff (OE_callC rfl (evs2 rfl rfl) rfl (line_any b3 w.heap.size u11 (l0 ++ headS dateS r ++ lineS [111, 110] (r.on) ++ ifS dateS r.cond ++ lineS [100, 117, 101] (showN dateS r.due) ++ lineS [117, 110, 108, 101, 115, 115] (r.unl)) [101, 108, 115, 101] (r.els) _ hB (by simp; omega))) rfl ?_
     rintro _ w12 ⟨u12, hB', hT7, hob⟩
     have n6' : b6 ∉ b3 :: ob u12 := fun hc => by
      rcases List.mem_cons.1 hc with h | h
      · exact n6 (by simp [h])
      · rcases hob b6 h with h | h
        · exact n6 (by simp [h])
        · have := e6'.lt; omega
     replace e6' := e6'.ext hT7 n6
     replace hS := hS.own hT7 (fun c hc => by
      rcases List.mem_cons.1 hc with rfl | h
      · exact .inr hb3w
      · exact .inr (hB.row.ob_le c h).1)
     clear hB n6 hob hT7
     have hB := hB'
     have n6 := n6'
     clear hB' n6'
     refine W ?_
     refine CL rfl (evs2 rfl rfl) rfl (Write_any b3 w.heap.size u12 (l0 ++ headS dateS r ++ lineS [111, 110] (r.on) ++ ifS dateS r.cond ++ lineS [100, 117, 101] (showN dateS r.due) ++ lineS [117, 110, 108, 101, 115, 115] (r.unl) ++ lineS [101, 108, 115, 101] (r.els)) [125, 10] _ hB (by simp; omega)) ?_
     rintro _ w30 ⟨v30, hB', hT7, hob⟩
     have n6' : b6 ∉ b3 :: ob v30 := fun hc => by
      rcases List.mem_cons.1 hc with h | h
      · exact n6 (by simp [h])
      · rcases hob b6 h with h | h
        · exact n6 (by simp [h])
        · have := e6'.lt; omega
     replace e6' := e6'.ext hT7 n6
     replace hS := hS.own hT7 (fun c hc => by
      rcases List.mem_cons.1 hc with rfl | h
      · exact .inr hb3w
      · exact .inr (hB.row.ob_le c h).1)
     clear hB n6 hob hT7
     have hB := hB'
     have n6 := n6'
     clear hB' n6'
     refine W ?_
     refine WQ_loop (i + 1, v30) ⟨rfl, rfl, rfl, rfl, rfl, trivial⟩ ⟨hlt, ?_, hS⟩ (by dsimp only; omega)
     dsimp only
     rw [htk]
     unfold showRule
     simpa [List.append_assoc] using hB
 · have hke : i = rs.length := by omega
   subst hke
   rw [List.take_length] at hB
   repeat' (first | refine W1 ?_ | (exfalso; omega) | (refine VG ?_ ?_ <;> intro hg) | (refine VC ?_ ?_ <;> intro hc))
   refine CL rfl (evs1 rfl) rfl (String_any b3 w.heap.size v _ _ hB hS.size) ?_
   rintro _ w2 ⟨rfl, hBl⟩
   refine W ?_
   refine WR ?_
   refine .mk ⟨rfl, ?_⟩
   have := hS.below
   exact Stp.of_below (this.trans hBl)
def PsV (X : List Nat) (w' : World) (r : Value) : Ps → Prop
 | .err a c => r = .tuple #[.slice none 0 0, .int .i64 a, .int .i64 c]
 | .ok rs => ∃ rv, r = .tuple #[rv, .int .i64 0, .int .i64 0] ∧ SlV X w' rv (rs.map RuleM.rul)
theorem stp_same {w w' : World} {b T : Nat} {cs : List Value} (hS : Stp [b] w w') (h : Blk w b T cs) (h' : Blk w' b T cs) : Stp [] w w' :=
 ⟨hS.os, hS.tape, hS.output, hS.size, fun k hk _ => by
   by_cases hb : k = b
   · subst hb
     rw [h, h']
   · exact hS.block k hk (by simpa using hb)⟩
theorem buildPz (p : Option Addr) (l c : Nat) (w : World) : (Instr.build 64 #[(0, .slice p l c)]).run Tryz.prog w = .ok (.agg #[.slice p l c, .int .i64 0, .int .i64 0]) w := by kernel_rfl
set_option maxHeartbeats 2000000 in
theorem parse_any (X : List Nat) (s : Str) (er : Value) (m : Int) (w : World) (hX : ∀ c ∈ X, c < w.heap.size) (hLG : LenG w) (hm : w.cell? ⟨1, 0, none⟩ = some (.int .i64 m)) (hv4 : w.cell? ⟨4, 0, none⟩ = some er) (hev : er = .nilIface ∨ ∃ te pe, er = .iface te pe) (hl : s.length ≤ 1000000) :
 Calls Tryz.prog 24 #[str s, .func (.func 25) #[] #[]] w (Ret fun r w' => PsV X w' r (parseM s) ∧ Stp [] w w') := by
 have h1w : 1 < w.heap.size := by have := block_lt_of_cell hm; simpa using this
 refine calls_of_WCD2 (n := 43) Tryz.func24 rfl rfl rfl ?_
 refine W ?_
 refine WL_eff OE_alloc rfl ?_
 rintro _ w1 ⟨b4, rfl, hb4, e4, hS⟩
 refine W ?_
 refine WL_eff OE_alloc rfl ?_
 rintro _ w2 ⟨b5, rfl, hb5, e5, hT⟩
 have n45 : b4 ≠ b5 := by have := e4.lt; omega
 have g5 : w.heap.size ≤ b5 := Nat.le_trans hS.size hb5
 replace e4 := e4.up hT
 replace hS := hS.trans hT
 refine W ?_
 refine WL_eff OE_alloc rfl ?_
 rintro _ w3 ⟨b6, rfl, hb6, e6, hT⟩
 have n46 : b4 ≠ b6 := by have := e4.lt; omega
 have n56 : b5 ≠ b6 := by have := e5.lt; omega
 have g6 : w.heap.size ≤ b6 := Nat.le_trans hS.size hb6
 replace e4 := e4.up hT; replace e5 := e5.up hT
 replace hS := hS.trans hT
 refine W ?_
 refine WL_eff OE_alloc rfl ?_
 rintro _ w4 ⟨b7, rfl, hb7, e7, hT⟩
 have n74 : b7 ≠ b4 := by have := e4.lt; omega
 have n75 : b7 ≠ b5 := by have := e5.lt; omega
 have n76 : b7 ≠ b6 := by have := e6.lt; omega
 replace e4 := e4.up hT; replace e5 := e5.up hT; replace e6 := e6.up hT
 replace hS := hS.trans hT
 clear hT
 have g4 : w.heap.size ≤ b4 := hb4
 have hlt4 : ∀ c ∈ [b4, b5, b6, b7], c < w4.heap.size := fun c hc => by
  simp only [List.mem_cons, List.not_mem_nil, or_false] at hc
  rcases hc with rfl | rfl | rfl | rfl
  · exact e4.lt
  · exact e5.lt
  · exact e6.lt
  · exact e7.lt
 refine W ?_
 refine CL rfl (evs1 rfl) rfl (Tokens_any s er _ (hLG.up hS) (hS.cell (by simp) hv4) hev hl) ?_
 rintro r w5 ⟨hr, hT⟩
 replace e4 := e4.up hT; replace e5 := e5.up hT; replace e6 := e6.up hT; replace e7 := e7.up hT
 have hSo := hS
 replace hS := hS.trans hT
 clear hT
 have own3 : ∀ {S : List Nat}, (∀ c ∈ S, c = b4 ∨ c = b5 ∨ c = b6) → ∀ c ∈ S, c ∈ ([] : List Nat) ∨ w.heap.size ≤ c := fun h c hc => by
  rcases h c hc with rfl | rfl | rfl
  · exact .inr g4
  · exact .inr g5
  · exact .inr g6
 cases hK : tokensM s with
 | err a c =>
   rw [hK] at hr
   have hr' : r = .tuple #[.slice none 0 0, .int .i64 a, .int .i64 c] := hr
   subst hr'
   have hc0 := tokensM_err hK
   refine W ?_
   refine WL_eff0 (OE_storeA (us := [.int .i64 a]) rfl rfl rfl rfl (by simp; rfl) e5 rfl) ?_
   rintro _ w6 ⟨hT, e5'⟩
   replace e4 := e4.ext hT (by simpa using n45)
   replace e6 := e6.ext hT (by simpa using n56.symm)
   replace e7 := e7.ext hT (by simpa using n75)
   replace hS := hS.own hT (own3 (by simp))
   refine W ?_
   refine WL_eff0 (OE_storeA (us := [.int .i64 c]) rfl rfl rfl rfl (by simp; rfl) e6 rfl) ?_
   rintro _ w7 ⟨hT2, e6'⟩
   replace e4 := e4.ext hT2 (by simpa using n46)
   replace e5' := e5'.ext hT2 (by simpa using n56)
   replace e7 := e7.ext hT2 (by simpa using n76)
   replace hS := hS.own hT2 (own3 (by simp))
   clear hT hT2 e5 e6
   repeat' (first | refine W1 ?_ | (exfalso; omega) | (refine VG ?_ ?_ <;> intro hg) | (refine VC ?_ ?_ <;> intro hc))
   refine WC_drawn 6 ([b4]) [] [(0, 1), (1, 1), (2, 1), (3, 2), (4, 2), (5, 2)] rfl mixed (by kernel_rfl) (by kernel_rfl) (by kernel_rfl) (fun w8 hS1 => ?_)
   replace e7 := e7.up hS1; replace e4 := e4.up hS1; replace e5' := e5'.up hS1; replace e6' := e6'.up hS1
   replace hS := hS.trans hS1
   clear hS1
   refine WR_load_blk rfl trivial rfl rfl e7 (by simpa using n74) rfl rfl ?_
   refine WR_load_blk rfl trivial rfl rfl e5' (by simpa using n45.symm) rfl rfl ?_
   refine WR_load_blk rfl trivial rfl rfl e6' (by simpa using n46.symm) rfl rfl ?_
   refine WD_eff0 rfl trivial (OE_storeA (us := [.slice none 0 0]) rfl rfl rfl rfl (by simp; rfl) e4 rfl) (fun _ _ h => h.1) ?_
   rintro _ w9 ⟨hT, e4'⟩
   replace e5' := e5'.ext hT (by simpa using n45.symm)
   replace e6' := e6'.ext hT (by simpa using n46.symm)
   replace hS := hS.own hT (own3 (by simp))
   clear hT e4 e7
   refine WD_eff0 (G := fun _ w' => Stp [] w9 w') rfl trivial ((OE_storeA (us := [.int .i64 a]) rfl rfl rfl rfl (by simp; rfl) e5' rfl).mono (fun _ _ h => stp_same h.1 e5' h.2)) (fun _ _ h => h.mono (by simp)) ?_
   intro _ w10 hT
   replace e4' := e4'.up hT; replace e5' := e5'.up hT; replace e6' := e6'.up hT
   replace hS := hS.trans hT
   clear hT
   refine WD_eff0 (G := fun _ w' => Stp [] w10 w') rfl trivial ((OE_storeA (us := [.int .i64 c]) rfl rfl rfl rfl (by simp; rfl) e6' rfl).mono (fun _ _ h => stp_same h.1 e6' h.2)) (fun _ _ h => h.mono (by simp)) ?_
   intro _ w11 hT
   replace e4' := e4'.up hT; replace e5' := e5'.up hT; replace e6' := e6'.up hT
   replace hS := hS.trans hT
   clear hT
   refine WD_nil ?_
   refine W ?_
   refine ⟨fun act ha => ?_⟩
   show Leaves _ _ act.tmps _ act.defers .returning _
   rw [ha.defers]
   refine ⟨_, results3c rfl rfl rfl rfl (ha.vals 4 _ rfl) (ha.vals 5 _ rfl) (ha.vals 6 _ rfl) e4' e5' e6', ?_⟩
   refine .mk ⟨?_, hS⟩
   unfold parseM
   rw [hK]
   rfl
 | ok l =>
   rw [hK] at hr
   obtain ⟨tv, rfl, hrow⟩ : ∃ tv, r = .tuple #[tv, .int .i64 0, .int .i64 0] ∧ RowF 61 w4 w5 tv l := hr
   obtain ⟨hL, -⟩ := tokensM_toks hK
   have hts : SlV (α := Tkn) [b4, b5, b6, b7] w5 tv l := hrow.slv hlt4
   have hlp := hL.pos
   have hll : l.length ≤ 1000000 := by have := hL.len; omega
   refine W ?_
   refine WL_eff0 (OE_storeA (us := [.int .i64 0]) rfl rfl rfl rfl (by simp; rfl) e5 rfl) ?_
   rintro _ w6 ⟨hT, e5'⟩
   replace e4 := e4.ext hT (by simpa using n45)
   replace e6 := e6.ext hT (by simpa using n56.symm)
   replace e7 := e7.ext hT (by simpa using n75)
   replace hts := hts.ext (X' := [b4, b5, b6, b7]) hT (by simp) (fun _ h => .inl h)
   replace hS := hS.own hT (own3 (by simp))
   refine W ?_
   refine WL_eff0 (OE_storeA (us := [.int .i64 0]) rfl rfl rfl rfl (by simp; rfl) e6 rfl) ?_
   rintro _ w7 ⟨hT2, e6'⟩
   replace e4 := e4.ext hT2 (by simpa using n46)
   replace e5' := e5'.ext hT2 (by simpa using n56)
   replace e7 := e7.ext hT2 (by simpa using n76)
   replace hts := hts.ext (X' := [b4, b5, b6, b7]) hT2 (by simp) (fun _ h => .inl h)
   replace hS := hS.own hT2 (own3 (by simp))
   clear hT hT2 e5 e6
   repeat' (first | refine W1 ?_ | (exfalso; omega) | (refine VG ?_ ?_ <;> intro hg) | (refine VC ?_ ?_ <;> intro hc))
   refine WL_pure (PR_makeFunc4 rfl rfl rfl rfl) rfl ?_
   refine WL_defer rfl ?_
   refine WCD_seq (WCD_region ?_)
   refine W ?_
   obtain ⟨tp, tc, htv⟩ := hts.len
   refine WL_pure (PR_build (vs := [(0, tv)]) rfl (by rw [htv]; exact fun w => buildPz _ _ _ w)) rfl ?_
   refine WL_eff (OE_box rfl) rfl ?_
   rintro _ w8 ⟨bp, rfl, hbp, ep, hT⟩
   have l4 := e4.lt
   have l5 := e5'.lt
   have l6 := e6'.lt
   have l7 := e7.lt
   have hXp : ∀ c ∈ bp :: b4 :: b5 :: b6 :: b7 :: X, c < w8.heap.size := fun c hc => by
    have h8 := hT.size
    have hp := ep.lt
    have h0 := hS.size
    simp only [List.mem_cons] at hc
    rcases hc with rfl | rfl | rfl | rfl | rfl | hc
    · exact hp
    · omega
    · omega
    · omega
    · omega
    · have := hX c hc; omega
   have hpd : Pd w8 bp tv l 0 0 := ⟨by rw [htv]; exact ep, hts.ext hT (by simp) (fun c hc => by simp at hc; subst hc; exact .inr hbp), hlp, hll, by omega⟩
   replace hts := hts.ext (X' := [bp, b4, b5, b6, b7]) hT (by simp) (fun c hc => by
    rcases List.mem_cons.1 hc with rfl | hc
    · exact .inr hbp
    · exact .inl hc)
   replace e4 := e4.up hT; replace e5' := e5'.up hT; replace e6' := e6'.up hT; replace e7 := e7.up hT
   replace hS := hS.trans hT
   have gp : w.heap.size ≤ bp := by have := hS.size; omega
   have np4 : b4 ≠ bp := by omega
   have np5 : b5 ≠ bp := by omega
   have np6 : b6 ≠ bp := by omega
   have np7 : b7 ≠ bp := by omega
   clear hT
   refine WL_pure (PR_assign rfl) rfl ?_
   refine WL_nil ?_
   refine WQ_lft (WQD_then ?_)
   refine WCD_seq (WCD_region ?_)
   refine WL_pure (PR_move rfl) rfl ?_
   refine WL_pure (PR_move rfl) rfl ?_
   have hP := Parse1_any (bp :: b4 :: b5 :: b6 :: b7 :: X) bp tv l hL m 0 0 (l.length + 1) w8 (by omega) (by simp) hXp (hS.cell (by simp) hm) hpd (by omega)
   cases hR : rulesO l (l.length + 1) [] 0 0 with
   | err a c =>
     rw [hR] at hP
     refine WL_pcallE rfl (evs1 rfl) hP rfl ?_
     intro w9 hT
     replace e4 := e4.ext hT (by simpa using np4)
     replace e5' := e5'.ext hT (by simpa using np5)
     replace e6' := e6'.ext hT (by simpa using np6)
     replace e7 := e7.ext hT (by simpa using np7)
     replace hS := hS.own hT (fun c hc => .inr (by simp at hc; omega))
     refine WQ_lft (WQD_then_panic ?_)
     refine ⟨fun act ha => ?_⟩
     show Leaves _ _ act.tmps _ (act.defers ++ _) (.panicking _) _
     rw [ha.defers]
     refine leaves_one (f := 66) (by simp) (catch_fail a c b7 b4 b5 b6 _ _ _ _ w9 e7 e4 e5' e6' rfl rfl n74 n75 n76 n45 n46 n56) ?_
     rintro v u' w10 ⟨rfl, e4', e5'', e6'', hT⟩
     refine ⟨rfl, _, results3c rfl rfl rfl rfl (ha.vals 4 _ rfl) (ha.vals 5 _ rfl) (ha.vals 6 _ rfl) e4' e5'' e6'', ?_⟩
     refine .mk ⟨?_, hS.own hT (own3 (by simp))⟩
     unfold parseM
     rw [hK]
     simp only [hR]
     rfl
   | ok rs i' o' =>
     rw [hR] at hP
     refine CL rfl (evs1 rfl) rfl hP ?_
     rintro rv w9 ⟨hrv, hpd', hT⟩
     replace e4 := e4.ext hT (by simpa using np4)
     replace e5' := e5'.ext hT (by simpa using np5)
     replace e6' := e6'.ext hT (by simpa using np6)
     replace e7 := e7.ext hT (by simpa using np7)
     replace hts := hts.ext (X' := [bp, b4, b5, b6, b7]) hT (by simp) (fun _ h => .inl h)
     replace hS := hS.own hT (fun c hc => .inr (by simp at hc; omega))
     obtain ⟨ep', -, hil, -, -⟩ := hpd'
     have hk0 := rulesO_end _ _ _ _ _ _ _ hR (by omega) hil
     refine WL_eff0 (OE_storeA (us := [rv]) rfl rfl hrv.cells rfl (by simpa using hrv.one) e4 rfl) ?_
     rintro _ w10 ⟨hT, e4'⟩
     replace ep' := ep'.ext hT (by simpa using np4.symm)
     replace e5' := e5'.ext hT (by simpa using n45.symm)
     replace e6' := e6'.ext hT (by simpa using n46.symm)
     replace hts := hts.ext (X' := [bp, b4, b5, b6, b7]) hT (by simp) (fun _ h => .inl h)
     replace hrv := hrv.ext (X' := bp :: b4 :: b5 :: b6 :: b7 :: X) hT (by simp) (fun _ h => .inl h)
     replace hS := hS.own hT (own3 (by simp))
     clear hT
     refine WL_nil ?_
     refine WQ_lft (WQD_then ?_)
     refine WCD_seq (WCD_seq ?_)
     refine WCD_drawn 12 [] [] [(0, 0), (1, 0), (2, 0), (3, 1), (4, 0), (5, 0), (6, 0), (7, 1), (8, 0), (9, 0), (10, 1), (11, 0)] rfl mixed (by kernel_rfl) (by kernel_rfl) (by kernel_rfl) (fun w1 hS1 => ?_)
     replace e4' := e4'.up hS1; replace e5' := e5'.up hS1; replace e6' := e6'.up hS1; replace ep' := ep'.up hS1
     replace hts := hts.up hS1
     replace hrv := hrv.up hS1
     replace hS := hS.trans hS1
     clear hS1
     refine D ?_
     refine W ?_
     refine WQ_lft (WQD_then ?_)
     rw [cur_of hil] at hk0
     refine WCD_cond_false (by simp [ev, hk0]; rfl) (WCD_skip (WQD_then (WCD_seq ?_)))
     refine WCD_region ?_
     refine WL_pure (PR_load_blk rfl rfl e4' rfl) rfl ?_
     refine WL_eff0 (G := fun _ w' => Stp [] w1 w') ((OE_storeA (us := [rv]) rfl rfl hrv.cells rfl (by simpa using hrv.one) e4' rfl).mono (fun _ _ h => stp_same h.1 e4' h.2)) ?_
     intro _ w12 hT
     replace e4' := e4'.up hT; replace e5' := e5'.up hT; replace e6' := e6'.up hT; replace hrv := hrv.up hT
     replace hS := hS.trans hT
     clear hT
     refine WL_eff0 (G := fun _ w' => Stp [] w12 w') ((OE_storeA (us := [.int .i64 0]) rfl rfl rfl rfl (by simp; rfl) e5' rfl).mono (fun _ _ h => stp_same h.1 e5' h.2)) ?_
     intro _ w13 hT
     replace e4' := e4'.up hT; replace e5' := e5'.up hT; replace e6' := e6'.up hT; replace hrv := hrv.up hT
     replace hS := hS.trans hT
     clear hT
     refine WL_eff0 (G := fun _ w' => Stp [] w13 w') ((OE_storeA (us := [.int .i64 0]) rfl rfl rfl rfl (by simp; rfl) e6' rfl).mono (fun _ _ h => stp_same h.1 e6' h.2)) ?_
     intro _ w14 hT
     replace e4' := e4'.up hT; replace e5' := e5'.up hT; replace e6' := e6'.up hT; replace hrv := hrv.up hT
     replace hS := hS.trans hT
     clear hT
     refine WL_nil ?_
     refine WQ_lft (WQD_then (WCD_ret ?_))
     refine ⟨fun act ha => ?_⟩
     show Leaves _ _ act.tmps _ (act.defers ++ _) .returning _
     rw [ha.defers]
     refine leaves_one (f := 66) (by simp) (catch_none b7 b4 b5 b6 w14) ?_
     rintro v u' w15 ⟨rfl, hT⟩
     refine ⟨rfl, _, results3c rfl rfl rfl rfl (ha.vals 4 _ rfl) (ha.vals 5 _ rfl) (ha.vals 6 _ rfl) (e4'.up hT) (e5'.up hT) (e6'.up hT), ?_⟩
     have hM : parseM s = .ok rs := by
      unfold parseM
      rw [hK]
      simp only [hR]
     rw [hM]
     exact .mk ⟨⟨rv, rfl, (hrv.up hT).ext (Stp.refl [] _) (by simp) (fun c hc => .inl (by simp [hc]))⟩, hS.trans hT⟩
theorem Parse_any (X : List Nat) (s : Str) (er : Value) (m : Int) (w : World) (hX : ∀ c ∈ X, c < w.heap.size) (hLG : LenG w) (hm : w.cell? ⟨1, 0, none⟩ = some (.int .i64 m)) (hv4 : w.cell? ⟨4, 0, none⟩ = some er) (hev : er = .nilIface ∨ ∃ te pe, er = .iface te pe) (hl : s.length ≤ 1000000) :
 Calls Tryz.prog 6 #[str s] w (Ret fun r w' => PsV X w' r (parseM s) ∧ Stp [] w w') := by
 refine calls_of_WC1 (n := 10) Tryz.func6 rfl rfl rfl ?_
 refine W ?_
 refine CL rfl (evs2 rfl rfl) rfl (parse_any X s er m w hX hLG hm hv4 hev hl) ?_
 rintro r w1 ⟨hr, hS⟩
 cases hK : parseM s with
 | err a c =>
   rw [hK] at hr
   have hr' : r = .tuple #[.slice none 0 0, .int .i64 a, .int .i64 c] := hr
   subst hr'
   refine W ?_
   refine WR ?_
   exact .mk ⟨rfl, hS⟩
 | ok rs =>
   rw [hK] at hr
   obtain ⟨rv, rfl, hrv⟩ := hr
   refine W ?_
   refine WR ?_
   exact .mk ⟨⟨rv, rfl, hrv⟩, hS⟩
structure Cr where
 name : Str
 frm : Int
 on : Str
 cnd : List Ins
 due : List Ins
 unl : Str
 els : Str
abbrev crC (q : Cr) (kc kd : Value) : List Value := [str q.name, .int .i64 q.frm, str q.on, kc, kd, str q.unl, str q.els]
def CrV (X : List Nat) (w : World) (v : Value) (q : Cr) : Prop := ∃ kc kd, v = .agg (crC q kc kd).toArray ∧ SlV X w kc q.cnd ∧ SlV X w kd q.due
theorem crC_one {q : Cr} {X Y : List Nat} {w w' : World} {kc kd : Value} (h1 : SlV X w kc q.cnd) (h2 : SlV Y w' kd q.due) : ∀ c ∈ crC q kc kd, c.oneCell' = true := by
 intro c hc
 have e1 := h1.one
 have e2 := h2.one
 simp only [crC, List.mem_cons, List.not_mem_nil, or_false] at hc
 rcases hc with rfl | rfl | rfl | rfl | rfl | rfl | rfl <;> first | rfl | exact e1 | exact e2
def ruleE (r : Rul) : Int := if checkT r ≠ 0 then checkT r else if errX r.cnd ≠ 0 then errX r.cnd else errX r.due
abbrev crZ : Cr := ⟨[], 0, [], [], [], [], []⟩
def crF (r : Rul) : Cr := if ruleE r = 0 then ⟨r.name, r.frm, r.on, exprF r.cnd, exprF r.due, r.unl, r.els⟩ else crZ
def RuleR (w : World) (r : Rul) (v : Value) (w' : World) : Prop := ∃ cv, v = .tuple #[cv, .int .i64 (ruleE r)] ∧ (∀ X : List Nat, (∀ b ∈ X, b < w.heap.size) → CrV X w' cv (crF r)) ∧ Stp [] w w'
theorem buildCr0 (w : World) : (Instr.build 31 #[]).run Tryz.prog w = .ok (.agg (crC crZ nilS nilS).toArray) w := by kernel_rfl
theorem buildCr (q : Cr) (p1 p2 : Option Addr) (l1 c1 l2 c2 : Nat) (w : World) : (Instr.build 31 #[(0, str q.name), (1, .int .i64 q.frm), (2, str q.on), (3, .slice p1 l1 c1), (4, .slice p2 l2 c2), (5, str q.unl), (6, str q.els)]).run Tryz.prog w = .ok (.agg (crC q (.slice p1 l1 c1) (.slice p2 l2 c2)).toArray) w := by kernel_rfl
theorem Rule_any (v : Value) (r : Rul) (w : World) (hv : RulV [] w v r) (h1 : sizeN r.cnd ≤ 1000) (h2 : sizeN r.due ≤ 1000) (hF : SlV [] w flds fieldNames) (m : Int) (hm : w.cell? ⟨1, 0, none⟩ = some (.int .i64 m)) :
 Calls Tryz.prog 9 #[v] w (Ret (RuleR w r)) := by
 obtain ⟨ki, kd, rfl, hi, hd⟩ := hv
 have hn1 := nest_le_size r.cnd
 have hn2 := nest_le_size r.due
 refine calls_of_WC1 (n := 47) Tryz.func9 rfl rfl rfl ?_
 refine W ?_
 refine WL_eff (OE_box rfl) rfl ?_
 rintro _ w1 ⟨b, rfl, hb, hblk, hS⟩
 replace hblk : Blk w1 b _ (rlC r ki kd) := hblk
 refine W ?_
 refine WL_eff OE_alloc rfl ?_
 rintro _ w2 ⟨b2, rfl, hb2, e2, hT⟩
 have hb2w : w.heap.size ≤ b2 := Nat.le_trans hS.size hb2
 replace hblk := hblk.up hT
 replace hS := hS.trans hT
 clear hT hb hb2
 refine W ?_
 try (refine WL_pure (PR_load_blkA rfl rfl hblk rfl) rfl ?_)
 refine W ?_
 refine CL rfl (evs1 rfl) rfl (Check14_any _ r m _ ⟨ki, kd, rfl, hi.up hS, hd.up hS⟩ (hF.up hS) (hS.cell (by simp) hm)) ?_
 rintro _ w3 ⟨rfl, hT⟩
 replace hblk := hblk.up hT
 replace e2 := e2.up hT
 replace hS := hS.trans hT
 clear hT
 by_cases hck : checkT r = 0
 case neg =>
  have hE : ruleE r = checkT r := by unfold ruleE; rw [if_pos hck]
  have hC : crF r = crZ := by unfold crF; rw [hE, if_neg hck]
  repeat' (first | refine W1 ?_ | (exfalso; omega) | (refine VG ?_ ?_ <;> intro hg) | (refine VC ?_ ?_ <;> intro hc))
  apply WL_build (vs := []) rfl buildCr0 rfl
  refine W ?_
  refine WL_eff0 (OE_storeA (us := crC crZ nilS nilS) rfl rfl rfl rfl (crC_one (q := crZ) (nilSlv [] w) (nilSlv [] w)) e2 rfl) ?_
  rintro _ w9 ⟨hT, e2⟩
  refine W ?_
  refine WQ_retct rfl rfl rfl e2 rfl rfl ?_
  exact .mk ⟨_, by rw [hE] <;> rfl, fun X hX => ⟨nilS, nilS, by rw [hC], by rw [hC]; exact nilSlv X _, by rw [hC]; exact nilSlv X _⟩, hS.own hT (fun b hb => .inr (by simp at hb; omega))⟩
 repeat' (first | refine W1 ?_ | (exfalso; omega) | (refine VG ?_ ?_ <;> intro hg) | (refine VC ?_ ?_ <;> intro hc))
 apply WL_pure (PR_loadN_blk (us := ndC r.cnd ki) rfl rfl hblk rfl rfl) rfl
 refine W ?_
 refine CL rfl (evs1 rfl) rfl (Expression_any _ r.cnd _ h1 ⟨ki, rfl, hi.up hS⟩ (hF.up hS)) ?_
 rintro _ w4 ⟨va, rfl, ha, hT⟩
 replace ha := fun X (hX : ∀ b ∈ X, b < w.heap.size) => ha (b2 :: X) (fun b hb => by
  rcases List.mem_cons.1 hb with rfl | h
  · exact e2.lt
  · exact Nat.lt_of_lt_of_le (hX b h) hS.size)
 replace hblk := hblk.up hT
 replace e2 := e2.up hT
 replace hS := hS.trans hT
 clear hT
 refine W ?_
 by_cases hc1 : errX r.cnd = 0
 case neg =>
  have hE : ruleE r = errX r.cnd := by unfold ruleE; rw [if_neg (by simp [hck]), if_pos hc1]
  have hC : crF r = crZ := by unfold crF; rw [hE, if_neg hc1]
  repeat' (first | refine W1 ?_ | (exfalso; omega) | (refine VG ?_ ?_ <;> intro hg) | (refine VC ?_ ?_ <;> intro hc))
  apply WL_build (vs := []) rfl buildCr0 rfl
  refine W ?_
  refine WL_eff0 (OE_storeA (us := crC crZ nilS nilS) rfl rfl rfl rfl (crC_one (q := crZ) (nilSlv [] w) (nilSlv [] w)) e2 rfl) ?_
  rintro _ w9 ⟨hT, e2⟩
  refine W ?_
  refine WQ_retct rfl rfl rfl e2 rfl rfl ?_
  exact .mk ⟨_, by rw [hE] <;> rfl, fun X hX => ⟨nilS, nilS, by rw [hC], by rw [hC]; exact nilSlv X _, by rw [hC]; exact nilSlv X _⟩, hS.own hT (fun b hb => .inr (by simp at hb; omega))⟩
 rw [if_pos hc1] at ha
 repeat' (first | refine W1 ?_ | (exfalso; omega) | (refine VG ?_ ?_ <;> intro hg) | (refine VC ?_ ?_ <;> intro hc))
 apply WL_pure (PR_loadN_blk (us := ndC r.due kd) rfl rfl hblk rfl rfl) rfl
 refine W ?_
 refine CL rfl (evs1 rfl) rfl (Expression_any _ r.due _ h2 ⟨kd, rfl, hd.up hS⟩ (hF.up hS)) ?_
 rintro _ w5 ⟨vb, rfl, hb, hT⟩
 replace hb := fun X (hX : ∀ b ∈ X, b < w.heap.size) => hb (b2 :: X) (fun b hb => by
  rcases List.mem_cons.1 hb with rfl | h
  · exact e2.lt
  · exact Nat.lt_of_lt_of_le (hX b h) hS.size)
 replace ha := fun X hX => (ha X hX).up hT
 replace hblk := hblk.up hT
 replace e2 := e2.up hT
 replace hS := hS.trans hT
 clear hT
 refine W ?_
 have hE : ruleE r = errX r.due := by unfold ruleE; rw [if_neg (by simp [hck]), if_neg (by simp [hc1])]
 by_cases hc2 : errX r.due = 0
 case neg =>
  have hC : crF r = crZ := by unfold crF; rw [hE, if_neg hc2]
  repeat' (first | refine W1 ?_ | (exfalso; omega) | (refine VG ?_ ?_ <;> intro hg) | (refine VC ?_ ?_ <;> intro hc))
  apply WL_build (vs := []) rfl buildCr0 rfl
  refine W ?_
  refine WL_eff0 (OE_storeA (us := crC crZ nilS nilS) rfl rfl rfl rfl (crC_one (q := crZ) (nilSlv [] w) (nilSlv [] w)) e2 rfl) ?_
  rintro _ w9 ⟨hT, e2⟩
  refine W ?_
  refine WQ_retct rfl rfl rfl e2 rfl rfl ?_
  exact .mk ⟨_, by rw [hE] <;> rfl, fun X hX => ⟨nilS, nilS, by rw [hC], by rw [hC]; exact nilSlv X _, by rw [hC]; exact nilSlv X _⟩, hS.own hT (fun b hb => .inr (by simp at hb; omega))⟩
 rw [if_pos hc2] at hb
 have hC : crF r = ⟨r.name, r.frm, r.on, exprF r.cnd, exprF r.due, r.unl, r.els⟩ := by unfold crF; rw [hE, if_pos hc2]
 obtain ⟨p1, c1, rfl, -⟩ := id (ha [] (by simp))
 obtain ⟨p2, c2, rfl, -⟩ := id (hb [] (by simp))
 repeat' (first | refine W1 ?_ | (exfalso; omega) | (refine VG ?_ ?_ <;> intro hg) | (refine VC ?_ ?_ <;> intro hc))
 apply WL_build (vs := [(0, str r.name), (1, .int .i64 r.frm), (2, str r.on), (3, .slice p1 (exprF r.cnd).length c1), (4, .slice p2 (exprF r.due).length c2), (5, str r.unl), (6, str r.els)]) rfl (buildCr ⟨r.name, r.frm, r.on, exprF r.cnd, exprF r.due, r.unl, r.els⟩ _ _ _ _ _ _) rfl
 refine WL_eff0 (OE_storeA (us := crC ⟨r.name, r.frm, r.on, exprF r.cnd, exprF r.due, r.unl, r.els⟩ (.slice p1 (exprF r.cnd).length c1) (.slice p2 (exprF r.due).length c2)) rfl rfl rfl rfl (crC_one (q := ⟨r.name, r.frm, r.on, exprF r.cnd, exprF r.due, r.unl, r.els⟩) (ha [] (by simp)) (hb [] (by simp))) e2 rfl) ?_
 rintro _ w9 ⟨hT, e2⟩
 refine W ?_
 refine WQ_retct rfl rfl rfl e2 rfl rfl ?_
 exact .mk ⟨_, by rw [hE, hc2], fun X hX => by
  rw [hC]
  exact ⟨_, _, rfl, ((ha X hX).ext hT (by simp) (fun _ h => .inl h)).wk (fun b h => by simp [h]), ((hb X hX).ext hT (by simp) (fun _ h => .inl h)).wk (fun b h => by simp [h])⟩, hS.own hT (fun b hb => .inr (by simp at hb; omega))⟩
end Go.Proofs.YtgpibcgebpgmiaaGreatDoor
