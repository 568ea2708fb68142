/-
Merged by program out of own texts: Cty1, Cty2, Cpt1, Eng4B, Sub1.
-/
import Derived.Test.YtgpibcgebpgmiaaDoorM5

namespace Go.Proofs.YtgpibcgebpgmiaaDoor
open Go Go.Eng Go.RowKit
set_option linter.unusedVariables false
set_option linter.unusedSimpArgs false
theorem sig_mem {x : Sig} (h : sigI x ≠ 0) : (x, Value.int .i64 (sigI x)) ∈ sigs := by
  have hs := sigF_int x
  unfold sigI sigF mget at *
  cases hf : sigs.find? (fun p => decide (p.1 = x)) with
  | none => rw [hf] at h; simp at h
  | some p =>
    have h1 := List.mem_of_find?_eq_some hf
    have h2 := List.find?_some hf
    simp only [decide_eq_true_eq] at h2
    rw [hf] at hs
    simp only at hs ⊢
    rw [← hs, ← h2]
    exact h1
theorem sig_cases {x : Sig} (h : sigI x ≠ 0) : ∃ e ∈ sigs, x = e.1 ∧ e.2 = .int .i64 (sigI x) := ⟨_, sig_mem h, rfl, rfl⟩
theorem ts_of {ts : List Int} (h0 : (0 : Int) ∉ ts) (h3 : ts.length ≤ 3) (hn : ts ≠ []) (h2 : ts.getD 2 0 = 0) : (ts.getD 1 0 = 0 ∧ ts = [ts.getD 0 0]) ∨ (ts.getD 1 0 ≠ 0 ∧ ts = [ts.getD 0 0, ts.getD 1 0]) := by
  match ts, h3 with
  | [], _ => exact absurd rfl hn
  | [a], _ => left; exact ⟨rfl, rfl⟩
  | [a, b], _ => right; refine ⟨fun hb => h0 ?_, rfl⟩; simp at hb; simp [hb]
  | [a, b, c], _ => exact absurd (by simp at h2; simp [h2]) h0
theorem combT_cases {k n : Int} {s : Str} {ts : List Int} (h : combT k n s ts ≠ 0) :
    (ts = [] ∧ combT k n s ts = leafN k n s) ∨
    ((0 : Int) ∉ ts ∧ ts.length ≤ 3 ∧ ts ≠ [] ∧ ((k = 9 ∧ ts = [2, combT k n s ts, combT k n s ts]) ∨ (k = 6 ∧ ts.getD 2 0 = 0 ∧ combT k n s ts = binT s (ts.getD 0 0) (ts.getD 1 0)) ∨ (combT k n s ts = sigI ⟨k, s, ts.getD 0 0, ts.getD 1 0, ts.getD 2 0⟩))) := by
  unfold combT at h ⊢
  split at h
  · exact absurd rfl h
  · rename_i h3
    split at h
    · exact absurd rfl h
    · rename_i h0
      rw [if_neg h3, if_neg h0]
      split at h
      · rename_i he
        left
        exact ⟨he, by rw [if_pos he]⟩
      · rename_i he
        right
        rw [if_neg he]
        refine ⟨h0, by omega, he, ?_⟩
        split at h
        · exact absurd rfl h
        · rename_i hn
          rw [if_neg hn]
          split at h
          · rename_i h9
            left
            rw [if_pos h9]
            refine ⟨h9.1, ?_⟩
            obtain ⟨_, _, e2, e3⟩ := h9
            match ts, h3 with
            | [], _ => exact absurd rfl he
            | [a], _ => simp at e2 e3 h
            | [a, b], _ => simp at e2 e3 h; exact absurd e3 h
            | [a, b, c], _ => simp at e2 e3 ⊢; exact ⟨e2, e3.symm⟩
            | a :: b :: c :: d :: r, h3 => simp at h3
          · rename_i h9
            rw [if_neg h9]
            split at h
            · rename_i h6
              right; left
              rw [if_pos h6]
              exact ⟨h6.1, h6.2, rfl⟩
            · rename_i h6
              right; right
              rw [if_neg h6]
theorem len2 {α : Type} {l : List α} (h : l.length = 2) : ∃ a b, l = [a, b] := by
  match l, h with
  | [a, b], _ => exact ⟨a, b, rfl⟩
theorem len3 {α : Type} {l : List α} (h : l.length = 3) : ∃ a b c, l = [a, b, c] := by
  match l, h with
  | [a, b, c], _ => exact ⟨a, b, c, rfl⟩
theorem codeN_ne (x : Nd) : typeT x ≠ 0 → ∀ p, codeN x p ≠ [] := by
  induction x using Nd.ind with
  | h k n s l ih =>
  intro ht p
  have hk : ∀ y ∈ l, typeT y ≠ 0 := fun y hy => typeT_kid (x := .mk k n s l) ht hy
  rw [codeN]
  unfold combC
  have hp : ∀ p, l ≠ [] → plainC k s (l.map codeN) p ≠ [] := by
    intro p hl
    unfold plainC
    cases l with
    | nil => exact absurd rfl hl
    | cons y r =>
      have := ih y (by simp) (hk y (by simp)) p
      simp only [List.map_cons, seqC]
      intro h
      simp only [List.append_eq_nil_iff] at h
      exact this h.1.1.1
  split
  · simp
  · rename_i hl
    have hl' : l ≠ [] := fun h => hl (by rw [h]; rfl)
    split
    · unfold chC; simp
    · split
      · unfold chC; simp
      · split
        · unfold chC; simp
        · split
          · simp
          · exact hp p hl'
theorem runs_seq {C : List Ins} : ∀ (l : List Nd), (∀ y ∈ l, ∀ p s, Seg C p (codeN y p) → s.length + nestN y ≤ 16 → Runs C p (codeN y p) s (s ++ [typeT y])) → (∀ y ∈ l, ∀ p, codeN y p ≠ []) →
    ∀ p s, l ≠ [] → Seg C p (seqC (l.map codeN) p) → (∀ y ∈ l, s.length + (l.length - 1) + nestN y ≤ 16) → Runs C p (seqC (l.map codeN) p) s (s ++ l.map typeT)
  | [], _, _, _, _, h, _, _ => absurd rfl h
  | [y], hr, hne, p, s, _, hs, hb => by
    have e : seqC ([y].map codeN) p = codeN y p := by simp [seqC]
    rw [e] at hs ⊢
    exact hr y (by simp) p s hs (by have := hb y (by simp); simpa using this)
  | y :: z :: l, hr, hne, p, s, _, hs, hb => by
    have e : seqC ((y :: z :: l).map codeN) p = codeN y p ++ seqC ((z :: l).map codeN) (p + (codeN y p).length) := by simp [seqC]
    rw [e] at hs ⊢
    have h1 := hr y (by simp) p s hs.left (by have := hb y (by simp); omega)
    have h2 := runs_seq (z :: l) (fun y hy => hr y (by simp [hy])) (fun y hy => hne y (by simp [hy])) (p + (codeN y p).length) (s ++ [typeT y]) (by simp) hs.right (fun w hw => by
      have := hb w (by simp [hw])
      simp only [List.length_append, List.length_cons, List.length_nil] at this ⊢
      omega)
    have h3 : seqC ((z :: l).map codeN) (p + (codeN y p).length) ≠ [] := by
      simp only [List.map_cons, seqC]
      intro h
      simp only [List.append_eq_nil_iff] at h
      exact hne z (by simp) _ h.1
    have := Runs.app h1 h2 (hne y (by simp) p) h3
    simpa using this
/-- kids, and operations behind them -/
theorem runs_plain {C : List Ins} {l : List Nd} {L : List Ins} {p : Nat} {s ts r : Shp} (hr : ∀ y ∈ l, ∀ p s, Seg C p (codeN y p) → s.length + nestN y ≤ 16 → Runs C p (codeN y p) s (s ++ [typeT y])) (hne : ∀ y ∈ l, ∀ p, codeN y p ≠ [])
    (hts : l.map typeT = ts) (hl : l ≠ []) (hL : L ≠ []) (hs : Seg C p (seqC (l.map codeN) p ++ L)) (hb : ∀ y ∈ l, s.length + (l.length - 1) + nestN y ≤ 16) (ho : ∀ x ∈ L, x.op ≠ 24 ∧ x.op ≠ 13 ∧ x.op ≠ 14) (hf : foldB 2 L ts = some r) (h2 : s.length + 2 ≤ 16) :
    Runs C p (seqC (l.map codeN) p ++ L) s (s ++ r) := by
  have h1 := runs_seq l hr hne p s hl hs.left hb
  rw [hts] at h1
  have h3 : seqC (l.map codeN) p ≠ [] := by
    cases l with
    | nil => exact absurd rfl hl
    | cons y l =>
      simp only [List.map_cons, seqC]
      intro h
      simp only [List.append_eq_nil_iff] at h
      exact hne y (by simp) _ h.1
  exact Runs.app h1 (runs_line 2 L _ s ts r hL hs.right ho hf h2) h3 hL
def extraL (k : Int) (s : Str) : List Ins := (if k = 8 ∨ k = 5 ∧ s = [45] then [⟨8, 0⟩] else []) ++ insO (opF s)
theorem plainC_eq (k : Int) (s : Str) (cs : List Cf) (p : Nat) : plainC k s cs p = seqC cs p ++ extraL k s := by unfold plainC extraL; rw [List.append_assoc]
def okL (L : List Ins) (ts : List Int) (t : Int) : Bool := decide (L ≠ []) && L.all (fun x => decide (x.op ≠ 24 ∧ x.op ≠ 13 ∧ x.op ≠ 14)) && decide (foldB 2 L ts = some [t])
theorem okL_spec {L : List Ins} {ts : List Int} {t : Int} (h : okL L ts t = true) : L ≠ [] ∧ (∀ x ∈ L, x.op ≠ 24 ∧ x.op ≠ 13 ∧ x.op ≠ 14) ∧ foldB 2 L ts = some [t] := by
  unfold okL at h
  simp only [Bool.and_eq_true, decide_eq_true_eq, List.all_eq_true] at h
  exact ⟨h.1.1, h.1.2, h.2⟩
/-- every row of the table of signatures: its operations have its types -/
def sigOk (e : SigE) : Bool :=
  match e.2 with
  | .int .i64 t => decide (e.1.kind ≠ 9) && decide (e.1.kind ≠ 6) && decide (e.1.c = 0) && okL (extraL e.1.kind e.1.s) (if e.1.b = 0 then [e.1.a] else [e.1.a, e.1.b]) t
  | _ => false
theorem sigs_ok : sigs.all sigOk = true := by decide +kernel
theorem arith_ok : opsA.all (fun s => okL (extraL 6 s ++ (if s = [45] then [⟨6, 0⟩] else [])) [1, 1] 1 && !decide (s = [97, 110, 100]) && !decide (s = [111, 114])) = true := by decide +kernel
theorem comp_ok : opsC.all (fun s => okL (extraL 6 s) [1, 1] 2 && okL (extraL 6 s) [3, 3] 2 && !decide (s = [97, 110, 100]) && !decide (s = [111, 114]) && !decide (s = [45])) = true := by decide +kernel
theorem code_runs (C : List Ins) (x : Nd) : typeT x ≠ 0 → ∀ p s, Seg C p (codeN x p) → s.length + nestN x ≤ 16 → Runs C p (codeN x p) s (s ++ [typeT x]) := by
  induction x using Nd.ind with
  | h k n s l ih =>
  intro ht p sh hs hb
  have hk : ∀ y ∈ l, typeT y ≠ 0 := fun y hy => typeT_kid (x := .mk k n s l) ht hy
  have hr : ∀ y ∈ l, ∀ p s, Seg C p (codeN y p) → s.length + nestN y ≤ 16 → Runs C p (codeN y p) s (s ++ [typeT y]) := fun y hy => ih y hy (hk y hy)
  have hne : ∀ y ∈ l, ∀ p, codeN y p ≠ [] := fun y hy => codeN_ne y (hk y hy)
  have hnest : ∀ y ∈ l, nestN y + 1 ≤ nestN (.mk k n s l) := fun y hy => by have := nest_kid (x := .mk k n s l) hy; omega
  have hrange := typeT_range (.mk k n s l)
  have hteq : typeT (.mk k n s l) = combT k n s (l.map typeT) := typeT_eq _
  rw [codeN] at hs ⊢
  rw [hteq] at ht hrange ⊢
  rcases combT_cases ht with ⟨he, hc⟩ | ⟨h0, h3, hn0, hc⟩
  · -- a leaf
    have hl : l = [] := by simpa using he
    subst hl
    unfold combC at hs ⊢
    rw [if_pos (show (List.map codeN ([] : List Nd)).length = 0 from rfl)] at hs ⊢
    rw [hc] at ht ⊢
    have hlen : sh.length + 1 ≤ 16 := by
      have : 1 ≤ nestN (.mk k n s []) := by rw [nestN_eq]; omega
      omega
    refine runs_one hs ?_ ?_ ?_ ?_
    · unfold leafI; split <;> (try split) <;> (try split) <;> simp
    · unfold leafI; split <;> (try split) <;> (try split) <;> simp
    · unfold leafI; split <;> (try split) <;> (try split) <;> simp
    · have hnx : nextM (leafI k n s) [] = some [leafN k n s] := by
        unfold leafN at ht ⊢
        unfold leafI
        by_cases k4 : k = 4
        · subst k4
          rw [if_pos rfl] at ht ⊢
          split at ht
          · rename_i hn
            rw [if_pos hn]
            have hf : ((fieldF s).2.1 = 3 ∧ ((fieldF s).1 = 0 ∨ (fieldF s).1 = 1)) ∨ ((fieldF s).2.1 = 1 ∧ 2 ≤ (fieldF s).1 ∧ (fieldF s).1 < 7) := by
              have h1 : (fieldF s).2.2 = true := by
                cases hb : (fieldF s).2.2 with
                | true => rfl
                | false => exact absurd (fieldF_no hb) ht
              obtain ⟨i, hi, hsn, _⟩ := (field_spec s (fieldF s).1).1 ⟨h1, rfl⟩
              subst hsn
              match i, hi with
              | 0, _ => decide +kernel
              | 1, _ => decide +kernel
              | 2, _ => decide +kernel
              | 3, _ => decide +kernel
              | 4, _ => decide +kernel
              | 5, _ => decide +kernel
              | 6, _ => decide +kernel
            rw [if_neg (by decide), if_neg (by decide), if_neg (by decide)]
            rcases hf with ⟨e1, e2⟩ | ⟨e1, e2, e3⟩
            · simp [nextM, effF, e1, e2]; omega
            · simp [nextM, effF, e1]; omega
          · exact absurd rfl ht
        · rw [if_neg k4] at ht ⊢
          split at ht
          · exact absurd rfl ht
          · rename_i hs0
            rw [if_neg hs0]
            by_cases k1 : k = 1
            · rw [if_pos k1] at ht ⊢
              rw [if_pos k1]
              split at ht
              · rename_i h; rw [if_pos h]; simp [nextM, effF]; omega
              · exact absurd rfl ht
            · rw [if_neg k1] at ht ⊢
              rw [if_neg k1]
              by_cases k2 : k = 2
              · rw [if_pos k2] at ht ⊢
                rw [if_pos k2]
                split at ht
                · rename_i h; rw [if_pos h]; simp [nextM, effF]; omega
                · exact absurd rfl ht
              · rw [if_neg k2] at ht ⊢
                rw [if_neg k2]
                by_cases k3 : k = 3
                · rw [if_pos k3] at ht ⊢
                  rw [if_pos k3]
                  split at ht
                  · rename_i h; rw [if_pos h]; simp [nextM, effF]; omega
                  · exact absurd rfl ht
                · rw [if_neg k3] at ht; exact absurd rfl ht
      have := next_frame (s := sh) hnx (by simpa using hlen)
      simpa using this
  · have hl : l ≠ [] := fun h => hn0 (by rw [h]; rfl)
    have hlen : l.length ≤ 3 := by simpa using h3
    have hlen0 : ¬ (l.map codeN).length = 0 := by simpa using hl
    unfold combC at hs ⊢
    rw [if_neg hlen0] at hs ⊢
    rcases hc with ⟨h9, hts⟩ | ⟨h6, hg2, hbt⟩ | hsg
    · -- if
      rw [if_pos h9] at hs ⊢
      generalize combT k n s (l.map typeT) = t at *
      have hl3 : l.length = 3 := by have := congrArg List.length hts; simpa using this
      obtain ⟨a, b, c, rfl⟩ := len3 hl3
      · simp only [List.map_cons, List.map_nil, List.cons.injEq, and_true] at hts
        obtain ⟨ta, tb, tc⟩ := hts
        simp only [List.map_cons, List.map_nil, List.getD_cons_zero, List.getD_cons_succ] at hs ⊢
        unfold chC at hs ⊢
        have na := hnest a (by simp)
        have nb := hnest b (by simp)
        have nc := hnest c (by simp)
        refine runs_ch _ _ hs rfl rfl ?_ ?_ ?_ (hne a (by simp) _) (hne b (by simp) _) (hne c (by simp) _) (by omega) (by simp only [List.length_append, List.length_cons, List.length_nil]; omega)
        · rw [← ta]
          exact hr a (by simp) p sh (by have := hs.left.left.left.left; exact this) (by omega)
        · rw [← tb]
          have h2 := hs.left.left.right
          simp only [List.length_append, List.length_cons, List.length_nil] at h2
          exact hr b (by simp) _ sh h2 (by omega)
        · rw [← tc]
          have h2 := hs.right
          simp only [List.length_append, List.length_cons, List.length_nil] at h2
          have e : p + ((codeN a p).length + (0 + 1) + (codeN b (p + (codeN a p).length + 1)).length + (0 + 1)) = p + (codeN a p).length + 1 + (codeN b (p + (codeN a p).length + 1)).length + 1 := by omega
          rw [e] at h2
          exact hr c (by simp) _ sh h2 (by omega)
    · -- a binary operator
      subst h6
      rw [if_neg (by decide)] at hs ⊢
      rcases ts_of h0 h3 hn0 hg2 with ⟨hb0, hts⟩ | ⟨hb0, hts⟩
      · exfalso
        apply ht
        rw [hbt, hb0]
        have ha0 : (l.map typeT).getD 0 0 ≠ 0 := fun h => h0 (by rw [hts, h]; simp)
        unfold binT
        split
        · rw [if_neg (by omega)]
        · split
          · rw [if_neg (by omega)]
          · split
            · rw [if_neg (by omega)]
            · rfl
      · have hl2 : l.length = 2 := by have := congrArg List.length hts; simpa using this
        obtain ⟨a, b, rfl⟩ := len2 hl2
        · simp only [List.map_cons, List.map_nil, List.getD_cons_zero, List.getD_cons_succ] at hbt
          have na := hnest a (by simp)
          have nb := hnest b (by simp)
          have ra := typeT_range a
          have hbnd : ∀ y ∈ [a, b], sh.length + ([a, b].length - 1) + nestN y ≤ 16 := fun y hy => by
            have := hnest y hy
            simp only [List.length_cons, List.length_nil]
            omega
          have h2 : sh.length + 2 ≤ 16 := by
            have : 1 ≤ nestN a := by rw [nestN_eq]; omega
            omega
          by_cases hA : s ∈ opsA
          · have hok := List.all_eq_true.1 arith_ok s hA
            simp only [Bool.and_eq_true, Bool.not_eq_true', decide_eq_false_iff_not] at hok
            obtain ⟨⟨hok, hand⟩, hor⟩ := hok
            obtain ⟨o1, o2, o3⟩ := okL_spec hok
            have hab : typeT a = typeT b ∧ typeT a = 1 := by
              unfold binT at hbt
              rw [if_pos hA] at hbt
              split at hbt
              · assumption
              · exact absurd hbt ht
            have ht1 : combT 6 n s ([a, b].map typeT) = 1 := by
              show combT 6 n s [typeT a, typeT b] = 1
              rw [hbt]; unfold binT; rw [if_pos hA, if_pos hab]
            rw [ht1]
            rw [if_neg (by intro h; exact hand h.2), if_neg (by intro h; exact hor h.2)] at hs ⊢
            split at hs
            · rename_i hm
              rw [if_pos hm]
              rw [plainC_eq, List.append_assoc] at hs ⊢
              rw [if_pos hm.2] at o1 o2 o3
              exact runs_plain hr hne (ts := [1, 1]) (by simp [hab.2, ← hab.1]) (by simp) o1 hs hbnd o2 o3 h2
            · rename_i hm
              rw [if_neg hm]
              have hm' : ¬ s = [45] := fun h => hm ⟨rfl, h⟩
              rw [if_neg hm', List.append_nil] at o1 o2 o3
              rw [plainC_eq] at hs ⊢
              exact runs_plain hr hne (ts := [1, 1]) (by simp [hab.2, ← hab.1]) (by simp) o1 hs hbnd o2 o3 h2
          · by_cases hC : s ∈ opsC
            · have hok := List.all_eq_true.1 comp_ok s hC
              simp only [Bool.and_eq_true, Bool.not_eq_true', decide_eq_false_iff_not] at hok
              obtain ⟨⟨⟨⟨hok1, hok3⟩, hand⟩, hor⟩, hmi⟩ := hok
              have hab : typeT a = typeT b ∧ ¬ typeT a = 2 := by
                unfold binT at hbt
                rw [if_neg hA, if_pos hC] at hbt
                split at hbt
                · assumption
                · exact absurd hbt ht
              have ht2 : combT 6 n s ([a, b].map typeT) = 2 := by
                show combT 6 n s [typeT a, typeT b] = 2
                rw [hbt]; unfold binT; rw [if_neg hA, if_pos hC, if_pos hab]
              rw [ht2]
              rw [if_neg (by intro h; exact hand h.2), if_neg (by intro h; exact hor h.2), if_neg (by intro h; exact hmi h.2), plainC_eq] at hs ⊢
              have ka := hk a (by simp)
              have h13 : typeT a = 1 ∨ typeT a = 3 := by omega
              rcases h13 with h | h
              · obtain ⟨o1, o2, o3⟩ := okL_spec hok1
                exact runs_plain hr hne (ts := [1, 1]) (by simp [h, ← hab.1]) (by simp) o1 hs hbnd o2 o3 h2
              · obtain ⟨o1, o2, o3⟩ := okL_spec hok3
                exact runs_plain hr hne (ts := [3, 3]) (by simp [h, ← hab.1]) (by simp) o1 hs hbnd o2 o3 h2
            · have hL : s ∈ opsL := by
                by_cases hL : s ∈ opsL
                · exact hL
                · exfalso; apply ht; show combT 6 n s [typeT a, typeT b] = 0; rw [hbt]; unfold binT; rw [if_neg hA, if_neg hC, if_neg hL]
              have hab : typeT a = typeT b ∧ typeT a = 2 := by
                unfold binT at hbt
                rw [if_neg hA, if_neg hC, if_pos hL] at hbt
                split at hbt
                · assumption
                · exact absurd hbt ht
              have ht2 : combT 6 n s ([a, b].map typeT) = 2 := by
                show combT 6 n s [typeT a, typeT b] = 2
                rw [hbt]; unfold binT; rw [if_neg hA, if_neg hC, if_pos hL, if_pos hab]
              rw [ht2]
              have hconst : ∀ (z : Int) (q : Nat), (z = 0 ∨ z = 1) → Seg C q [⟨2, z⟩] → Runs C q [⟨2, z⟩] sh (sh ++ [2]) := fun z q hz hsq => by
                have hnx : nextM ⟨2, z⟩ [] = some [2] := by simp [nextM, effF, hz]
                have := next_frame (s := sh) hnx (by simp only [List.length_cons, List.length_nil]; omega)
                rw [List.append_nil] at this
                exact runs_one hsq (by simp) (by simp) (by simp) this
              simp only [opsL, List.mem_cons, List.not_mem_nil, or_false] at hL
              rcases hL with hL | hL
              · rw [if_pos ⟨rfl, hL⟩] at hs ⊢
                simp only [List.map_cons, List.map_nil, List.getD_cons_zero, List.getD_cons_succ] at hs ⊢
                unfold chC at hs ⊢
                refine runs_ch _ _ hs rfl rfl ?_ ?_ ?_ (hne a (by simp) _) (hne b (by simp) _) (by simp) (by omega) (by simp only [List.length_append, List.length_cons, List.length_nil]; omega)
                · have h1 := hr a (by simp) p sh hs.left.left.left.left (by omega)
                  rw [hab.2] at h1
                  exact h1
                · have h2 := hs.left.left.right
                  simp only [List.length_append, List.length_cons, List.length_nil] at h2
                  have h1 := hr b (by simp) _ sh h2 (by omega)
                  rw [← hab.1, hab.2] at h1
                  exact h1
                · have h2 := hs.right
                  simp only [List.length_append, List.length_cons, List.length_nil] at h2
                  have e : p + ((codeN a p).length + (0 + 1) + (codeN b (p + (codeN a p).length + 1)).length + (0 + 1)) = p + (codeN a p).length + 1 + (codeN b (p + (codeN a p).length + 1)).length + 1 := by omega
                  rw [e] at h2
                  exact hconst 0 _ (.inl rfl) h2
              · have hna : ¬ ((6 : Int) = 6 ∧ s = [97, 110, 100]) := by rintro ⟨_, h⟩; rw [hL] at h; exact absurd h (by decide)
                rw [if_neg hna, if_pos ⟨rfl, hL⟩] at hs ⊢
                simp only [List.map_cons, List.map_nil, List.getD_cons_zero, List.getD_cons_succ] at hs ⊢
                unfold chC at hs ⊢
                refine runs_ch _ _ hs rfl rfl ?_ ?_ ?_ (hne a (by simp) _) (by simp) (hne b (by simp) _) (by omega) (by simp only [List.length_append, List.length_cons, List.length_nil]; omega)
                · have h1 := hr a (by simp) p sh hs.left.left.left.left (by omega)
                  rw [hab.2] at h1
                  exact h1
                · have h2 := hs.left.left.right
                  simp only [List.length_append, List.length_cons, List.length_nil] at h2
                  exact hconst 1 _ (.inr rfl) h2
                · have h2 := hs.right
                  simp only [List.length_append, List.length_cons, List.length_nil] at h2
                  have e : p + ((codeN a p).length + (0 + 1) + (0 + 1) + (0 + 1)) = p + (codeN a p).length + 1 + (0 + 1) + 1 := by omega
                  rw [e] at h2
                  have h1 := hr b (by simp) _ sh h2 (by omega)
                  rw [← hab.1, hab.2] at h1
                  exact h1
    · -- the other operators
      obtain ⟨e, he, hxe, hev⟩ := sig_cases (by rw [← hsg]; exact ht)
      have hok := List.all_eq_true.1 sigs_ok e he
      unfold sigOk at hok
      rw [hev] at hok
      simp only [Bool.and_eq_true, decide_eq_true_eq] at hok
      obtain ⟨⟨⟨k9, k6⟩, hc0⟩, hokl⟩ := hok
      rw [← hxe] at k9 k6 hc0 hokl
      simp only at k9 k6 hc0 hokl
      obtain ⟨o1, o2, o3⟩ := okL_spec hokl
      rw [if_neg k9, if_neg (by intro h; exact k6 h.1), if_neg (by intro h; exact k6 h.1), if_neg (by intro h; exact k6 h.1), plainC_eq] at hs ⊢
      rw [hsg]
      have hts : l.map typeT = (if (l.map typeT).getD 1 0 = 0 then [(l.map typeT).getD 0 0] else [(l.map typeT).getD 0 0, (l.map typeT).getD 1 0]) := by
        rcases ts_of h0 h3 hn0 hc0 with ⟨h1, h2⟩ | ⟨h1, h2⟩
        · rw [if_pos h1]; exact h2
        · rw [if_neg h1]; exact h2
      have hl2 : l.length ≤ 2 := by
        have := congrArg List.length hts
        rw [List.length_map] at this
        split at this <;> simp only [List.length_cons, List.length_nil] at this <;> omega
      have h2 : sh.length + 2 ≤ 16 := by
        cases l with
        | nil => exact absurd rfl hl
        | cons y r =>
          have := hnest y (by simp)
          have : 1 ≤ nestN y := by rw [nestN_eq]; omega
          omega
      exact runs_plain hr hne hts hl o1 hs (fun y hy => by have := hnest y hy; omega) o2 o3 h2
/-- the code of an expression is valid and has its type -/
theorem verM_expr (y : Nd) (ht : typeT y ≠ 0) (hn : nestN y ≤ 12) (hl : (exprF y).length ≤ 200) : verM (exprF y) = (typeT y, 0) := by
  have hne := codeN_ne y ht 0
  have hpos := List.length_pos_iff.2 hne
  unfold exprF at hl ⊢
  have hlen : (codeN y 0 ++ [(⟨24, 0⟩ : Ins)]).length = (codeN y 0).length + 1 := by simp
  have hr := code_runs (codeN y 0 ++ [⟨24, 0⟩]) y ht 0 [] ⟨[], [⟨24, 0⟩], by simp, rfl⟩ (by simp only [List.length_nil]; omega)
  obtain ⟨st, r1, r2, r3, _⟩ := hr ((some []) :: List.replicate ((codeN y 0 ++ [(⟨24, 0⟩ : Ins)]).length - 1) none) (by simp) (by rw [hlen]; omega) (by simp) (fun i hi hi2 => by
    cases i with
    | zero => omega
    | succ i =>
      rw [List.getElem?_cons_succ, List.getElem?_replicate, if_pos (by rw [hlen]; omega)]) (.inl (by
    rw [Nat.zero_add]
    obtain ⟨m, hm⟩ : ∃ m, (codeN y 0).length = m + 1 := ⟨(codeN y 0).length - 1, by omega⟩
    rw [hm, List.getElem?_cons_succ, List.getElem?_replicate, if_pos (by rw [hlen]; omega)]))
  rw [Nat.zero_add] at r3
  rw [List.nil_append] at r3
  unfold verM
  rw [if_neg (by rw [hlen] at hl ⊢; omega)]
  have hrun : runM (codeN y 0 ++ [⟨24, 0⟩]) (codeN y 0 ++ [(⟨24, 0⟩ : Ins)]).length ((some []) :: List.replicate ((codeN y 0 ++ [(⟨24, 0⟩ : Ins)]).length - 1) none) = some st := by
    rw [runM_runP]
    conv => lhs; arg 3; rw [hlen]
    rw [runP_add, r1, Option.bind_some, Nat.zero_add, runP_one]
    have hg : (codeN y 0 ++ [(⟨24, 0⟩ : Ins)]).getD (codeN y 0).length ⟨0, 0⟩ = ⟨24, 0⟩ := by simp
    rw [hg]
    unfold stepM
    rw [List.getD_eq_getElem?_getD, r3]
    have hnx : nextM ⟨24, 0⟩ [typeT y] = some [typeT y] := by simp [nextM, effF]
    simp only [Option.getD_some, hnx]
    rw [if_pos trivial, if_pos (by constructor <;> simp [r2])]
  rw [hrun]
  have e : (codeN y 0 ++ [(⟨24, 0⟩ : Ins)]).length - 1 = (codeN y 0).length := by rw [hlen]; omega
  simp only [e]
  rw [List.getD_eq_getElem?_getD, r3]
  rfl
end Go.Proofs.YtgpibcgebpgmiaaDoor

namespace Go.Proofs.YtgpibcgebpgmiaaDoor
open Go Go.Eng Go.RowKit
set_option linter.unusedVariables false
set_option linter.unusedSimpArgs false
theorem mem_seqC (z : Ins) : ∀ (l : List Nd) (p : Nat) (P : Nd → Prop), (∀ y ∈ l, ∀ p, z ∈ codeN y p ↔ P y) → (z ∈ seqC (l.map codeN) p ↔ ∃ y ∈ l, P y)
  | [], p, P, _ => by simp [seqC]
  | y :: l, p, P, h => by
    simp only [List.map_cons, seqC, List.mem_append]
    rw [h y (by simp), mem_seqC z l _ P (fun y hy => h y (by simp [hy]))]
    simp
theorem opF_no4 (s : Str) : ∀ o ∈ opF s, o ≠ 4 := by
  intro o ho
  unfold opF at ho
  cases h : opEs.find? (fun p => decide (p.1 = s)) with
  | none => rw [h] at ho; cases ho
  | some p =>
    rw [h] at ho
    have hall : ∀ q ∈ opEs, ∀ o ∈ q.2, o ≠ 4 := by decide +kernel
    exact hall p (List.mem_of_find?_eq_some h) o ho
theorem extraL_no4 (k z : Int) (s : Str) : (⟨4, z⟩ : Ins) ∉ extraL k s := by
  unfold extraL insO
  simp only [List.mem_append, List.mem_map, not_or]
  refine ⟨?_, ?_⟩
  · split <;> simp
  · rintro ⟨o, ho, he⟩
    exact opF_no4 s o ho (by simpa using congrArg Ins.op he)
theorem mem_chC (z : Ins) (c y n : Cf) (p : Nat) (h1 : z.op ≠ 13) (h2 : z.op ≠ 14) (A B D : Prop) (hc : ∀ p, z ∈ c p ↔ A) (hy : ∀ p, z ∈ y p ↔ B) (hn : ∀ p, z ∈ n p ↔ D) : z ∈ chC c y n p ↔ A ∨ B ∨ D := by
  unfold chC
  simp only [List.mem_append, List.mem_cons, List.not_mem_nil, or_false, hc, hy, hn]
  constructor
  · rintro ((((h | h) | h) | h) | h)
    · exact .inl h
    · exact absurd (by rw [h]) h2
    · exact .inr (.inl h)
    · exact absurd (by rw [h]) h1
    · exact .inr (.inr h)
  · rintro (h | h | h)
    · exact .inl (.inl (.inl (.inl h)))
    · exact .inl (.inl (.inr h))
    · exact .inr h
/-- the fields of a code are those that its expression uses -/
theorem field_mem (i : Nat) (hi : i < 7) (x : Nd) : typeT x ≠ 0 → ∀ p, ((⟨4, (i : Int)⟩ : Ins) ∈ codeN x p ↔ usesT (fieldNames.getD i []) x = true) := by
  induction x using Nd.ind with
  | h k n s l ih =>
  intro ht p
  have hk : ∀ y ∈ l, typeT y ≠ 0 := fun y hy => typeT_kid (x := .mk k n s l) ht hy
  have ih' : ∀ y ∈ l, ∀ p, ((⟨4, (i : Int)⟩ : Ins) ∈ codeN y p ↔ usesT (fieldNames.getD i []) y = true) := fun y hy => ih y hy (hk y hy)
  have hteq : typeT (.mk k n s l) = combT k n s (l.map typeT) := typeT_eq _
  rw [hteq] at ht
  rw [codeN, usesT_eq]
  have hany : ((l.map (usesT (fieldNames.getD i []))).any id = true) ↔ ∃ y ∈ l, usesT (fieldNames.getD i []) y = true := by simp
  rw [Bool.or_eq_true, hany, Bool.and_eq_true, decide_eq_true_eq, decide_eq_true_eq]
  rcases combT_cases ht with ⟨he, hc⟩ | ⟨h0, h3, hn0, hc⟩
  · have hl : l = [] := by simpa using he
    subst hl
    unfold combC
    rw [if_pos (show (List.map codeN ([] : List Nd)).length = 0 from rfl)]
    rw [hc] at ht
    simp only [List.mem_cons, List.not_mem_nil, or_false, false_and, exists_false]
    unfold leafN at ht
    by_cases k4 : k = 4
    · subst k4
      rw [if_pos rfl] at ht
      have hf : (fieldF s).2.2 = true := by
        cases hb : (fieldF s).2.2 with
        | true => rfl
        | false => rw [fieldF_no hb] at ht; simp at ht
      unfold leafI
      rw [if_neg (by decide), if_neg (by decide), if_neg (by decide)]
      simp only [Ins.mk.injEq, true_and]
      constructor
      · intro h
        obtain ⟨j, hj, hs, hij⟩ := (field_spec s (i : Int)).1 ⟨hf, h⟩
        have : i = j := by omega
        subst this
        exact hs
      · intro h
        exact ((field_spec s (i : Int)).2 ⟨i, hi, h, rfl⟩).2
    · have : ¬ (k = 4 ∧ s = fieldNames.getD i []) := fun h => k4 h.1
      simp only [this, iff_false]
      unfold leafI
      rw [if_neg k4] at ht
      intro h
      have hop := congrArg Ins.op h
      by_cases k1 : k = 1
      · rw [if_pos k1] at hop; simp at hop
      · rw [if_neg k1] at hop
        by_cases k2 : k = 2
        · rw [if_pos k2] at hop; simp at hop
        · rw [if_neg k2] at hop
          by_cases k3 : k = 3
          · rw [if_pos k3] at hop; simp at hop
          · rw [if_neg k1, if_neg k2, if_neg k3] at ht
            split at ht <;> exact ht rfl
  · have hl : l ≠ [] := fun h => hn0 (by rw [h]; rfl)
    have hlen0 : ¬ (l.map codeN).length = 0 := by simpa using hl
    unfold combC
    rw [if_neg hlen0]
    have hplain : k ≠ 4 → ((⟨4, (i : Int)⟩ : Ins) ∈ plainC k s (l.map codeN) p ↔ (k = 4 ∧ s = fieldNames.getD i []) ∨ ∃ y ∈ l, usesT (fieldNames.getD i []) y = true) := fun k4 => by
      rw [plainC_eq, List.mem_append, mem_seqC _ l p _ ih']
      have h1 := extraL_no4 k (i : Int) s
      have h2 : ¬ (k = 4 ∧ s = fieldNames.getD i []) := fun h => k4 h.1
      simp only [h1, h2, or_false, false_or]
    rcases hc with ⟨h9, hts⟩ | ⟨h6, hg2, hbt⟩ | hsg
    · rw [if_pos h9]
      have hl3 : l.length = 3 := by have := congrArg List.length hts; simpa using this
      obtain ⟨a, b, c, rfl⟩ := len3 hl3
      simp only [List.map_cons, List.map_nil, List.getD_cons_zero, List.getD_cons_succ]
      rw [mem_chC _ _ _ _ _ (by simp) (by simp) _ _ _ (ih' a (by simp)) (ih' b (by simp)) (ih' c (by simp))]
      have h2 : ¬ (k = 4 ∧ s = fieldNames.getD i []) := by rintro ⟨h, _⟩; omega
      simp only [h2, false_or]
      simp
    · have k4 : k ≠ 4 := by omega
      rw [if_neg (by omega)]
      rcases ts_of h0 h3 hn0 hg2 with ⟨hb0, hts⟩ | ⟨hb0, hts⟩
      · exfalso
        apply ht
        rw [hbt, hb0]
        have ha0 : (l.map typeT).getD 0 0 ≠ 0 := fun h => h0 (by rw [hts, h]; simp)
        unfold binT
        split
        · rw [if_neg (by omega)]
        · split
          · rw [if_neg (by omega)]
          · split
            · rw [if_neg (by omega)]
            · rfl
      · have hl2 : l.length = 2 := by have := congrArg List.length hts; simpa using this
        obtain ⟨a, b, rfl⟩ := len2 hl2
        have h2 : ¬ (k = 4 ∧ s = fieldNames.getD i []) := fun h => k4 h.1
        split
        · simp only [List.map_cons, List.map_nil, List.getD_cons_zero, List.getD_cons_succ]
          rw [mem_chC _ _ _ _ _ (by simp) (by simp) _ _ False (ih' a (by simp)) (ih' b (by simp)) (by simp)]
          simp only [h2, false_or]
          simp
        · split
          · simp only [List.map_cons, List.map_nil, List.getD_cons_zero, List.getD_cons_succ]
            rw [mem_chC _ _ _ _ _ (by simp) (by simp) _ False _ (ih' a (by simp)) (by simp) (ih' b (by simp))]
            simp only [h2, false_or]
            simp
          · split
            · rw [List.mem_append, hplain k4]
              simp
            · exact hplain k4
    · obtain ⟨e, he, hxe, hev⟩ := sig_cases (by rw [← hsg]; exact ht)
      have hok := List.all_eq_true.1 sigs_ok e he
      unfold sigOk at hok
      rw [hev] at hok
      simp only [Bool.and_eq_true, decide_eq_true_eq] at hok
      obtain ⟨⟨⟨k9, k6⟩, hc0⟩, hokl⟩ := hok
      have k4 : e.1.kind ≠ 4 := (show ∀ e ∈ sigs, e.1.kind ≠ 4 by decide +kernel) e he
      rw [← hxe] at k9 k6 k4
      simp only at k9 k6 k4
      rw [if_neg k9, if_neg (by intro h; exact k6 h.1), if_neg (by intro h; exact k6 h.1), if_neg (by intro h; exact k6 h.1)]
      exact hplain k4
/-- the number of a field is among the fields that are used -/
theorem usesR_mem (i : Nat) (hi : i < 7) (x : Nd) : (i : Int) ∈ usesR x ↔ usesT (fieldNames.getD i []) x = true := by
  unfold usesR
  simp only [List.mem_map, List.mem_filter, List.mem_range]
  constructor
  · rintro ⟨j, ⟨hj, hu⟩, he⟩
    have : j = i := by omega
    subst this
    exact hu
  · intro h
    exact ⟨i, ⟨hi, h⟩, rfl⟩
theorem exprF_mem (i : Nat) (hi : i < 7) (x : Nd) (ht : typeT x ≠ 0) : (⟨4, (i : Int)⟩ : Ins) ∈ exprF x ↔ (i : Int) ∈ usesR x := by
  unfold exprF
  rw [List.mem_append, field_mem i hi x ht, usesR_mem i hi]
  simp
/-! ### parts -/
theorem PartR.type {m n a b : Nd} (h : PartR m n a b) : typeT n ≠ 0 → typeT a ≠ 0 := by
  induction h with
  | here n => exact id
  | kid n i hi a b h ih => exact fun ht => ih (typeT_kid ht (List.getElem_mem hi))
theorem PartR.same {m n a b : Nd} (h : PartR m n a b) : typeT a = typeT m → typeT b = typeT n := by
  induction h with
  | here n => exact fun h => h.symm
  | kid n i hi a b h ih =>
    intro hm
    have hb := ih hm
    rw [typeT_eq (.mk _ _ _ _), typeT_eq n]
    show combT n.kind n.num n.word ((n.kids.set i b).map typeT) = _
    rw [List.map_set, hb]
    congr 1
    apply List.ext_getElem (by simp)
    intro j h1 h2
    rw [List.getElem_set]
    split
    · rename_i e; subst e; simp
    · rfl
theorem PartR.uses {m n a b : Nd} (nm : Str) (h : PartR m n a b) : usesT nm b = true → usesT nm n = true ∨ usesT nm m = true := by
  induction h with
  | here n => exact fun h => .inr h
  | kid n i hi a b h ih =>
    intro hu
    rw [usesT_eq, Bool.or_eq_true] at hu
    have hn : usesT nm n = ((decide (n.kind = 4) && decide (n.word = nm)) || (n.kids.map (usesT nm)).any id) := by rw [← usesT_eq nm n.kind n.num n.word n.kids, ← Nd.eta n]
    rw [hn, Bool.or_eq_true]
    rcases hu with h1 | h1
    · exact .inl (.inl h1)
    · simp only [List.any_map, List.any_eq_true, Function.comp_apply, id] at h1
      obtain ⟨y, hy, hyu⟩ := h1
      rcases List.mem_or_eq_of_mem_set hy with h2 | h2
      · left; right
        simp only [List.any_map, List.any_eq_true, Function.comp_apply, id]
        exact ⟨y, h2, hyu⟩
      · subst h2
        rcases ih hyu with h3 | h3
        · left; right
          simp only [List.any_map, List.any_eq_true, Function.comp_apply, id]
          exact ⟨_, List.getElem_mem hi, h3⟩
        · exact .inr h3
theorem nest_le_iff (x : Nd) (b : Nat) : nestN x ≤ b + 1 ↔ ∀ y ∈ x.kids, nestN y ≤ b := by
  rw [nestN_eq, Nat.add_comm, Nat.add_le_add_iff_right, foldl_max_le]
  simp
theorem PartR.nest {m n a b : Nd} (h : PartR m n a b) : nestN a ≤ nestN n ∧ nestN b ≤ nestN n + nestN m := by
  induction h with
  | here n => exact ⟨Nat.le_refl _, by omega⟩
  | kid n i hi a b h ih =>
    have hk := nest_kid (List.getElem_mem hi)
    refine ⟨by omega, ?_⟩
    have h1 : 1 ≤ nestN n := by rw [nestN_eq]; omega
    obtain ⟨c, hc⟩ : ∃ c, nestN n + nestN m = c + 1 := ⟨nestN n + nestN m - 1, by omega⟩
    rw [hc, nest_le_iff]
    intro y hy
    rcases List.mem_or_eq_of_mem_set (show y ∈ n.kids.set i b from hy) with h2 | h2
    · have := nest_kid h2; omega
    · subst h2; omega
end Go.Proofs.YtgpibcgebpgmiaaDoor

/-
The law of CompileTypes: the code of a typed expression verifies with its type, and loads the fields that it uses.
-/
namespace Go.Proofs.YtgpibcgebpgmiaaDoor
open Go Go.Eng Go.RowKit
set_option linter.unusedVariables false
theorem has03_any (v : Value) (l : List Int) (z : Int) (w : World) (hs : SlV [] w v l) : Calls Tryd.prog 28 #[v, .int .i64 z] w (Ret fun r w' => r = .bool (decide (z ∈ l)) ∧ Stp [] w w') := by
  have hmax := hs.max
  refine calls_of_WC2 (n := 18) Tryd.func28 rfl rfl rfl ?_
  refine W ?_
  refine WC_loop (σ := Nat) (fun k => [(0, v), (1, .int .i64 z), (5, .int .i64 (k : Int))]) (fun k w' => k ≤ l.length ∧ Stp [] w w' ∧ ∀ j (h : j < l.length), j < k → l[j] ≠ z) (fun k => l.length - k) 0 ⟨rfl, rfl, rfl, trivial⟩ ⟨Nat.zero_le _, Stp.refl _ _, fun j _ h => absurd h (Nat.not_lt_zero _)⟩ ?_
  rintro k w1 ⟨hk, hS, hno⟩
  replace hs := hs.up hS
  by_cases hlt : k < l.length
  · repeat' (first | refine W1 ?_ | (exfalso; omega) | refine WL_split rfl rfl (fun hg => ?_) (fun hg => ?_) | refine WL_splitB rfl rfl (fun hg => ?_) (fun hg => ?_) | refine WC_cond rfl (fun hc => ?_) (fun hc => ?_) | refine WC_condB rfl (fun hc => ?_) (fun hc => ?_))
    · first | refine WQ_ret1 rfl rfl ?_ | refine WQ_ret2 rfl rfl rfl ?_ | refine WQ_ret3 rfl rfl rfl rfl ?_ | refine WQ_ret0 rfl ?_ | refine WQ_end0 rfl ?_
      exact .mk ⟨by rw [decide_eq_true (by rw [← hc]; exact List.getElem_mem hlt)], hS⟩
    · refine WQ_loop (k + 1) ⟨rfl, rfl, rfl, trivial⟩ ⟨hlt, hS, fun j h hj => ?_⟩ (by omega)
      by_cases e : j = k
      · subst e; exact hc
      · exact hno j h (by omega)
  · repeat' (first | refine W1 ?_ | (exfalso; omega) | refine WL_split rfl rfl (fun hg => ?_) (fun hg => ?_) | refine WL_splitB rfl rfl (fun hg => ?_) (fun hg => ?_) | refine WC_cond rfl (fun hc => ?_) (fun hc => ?_) | refine WC_condB rfl (fun hc => ?_) (fun hc => ?_))
    first | refine WQ_ret1 rfl rfl ?_ | refine WQ_ret2 rfl rfl rfl ?_ | refine WQ_ret3 rfl rfl rfl rfl ?_ | refine WQ_ret0 rfl ?_ | refine WQ_end0 rfl ?_
    exact .mk ⟨by
      rw [decide_eq_false]
      intro hm
      obtain ⟨j, hj, he⟩ := List.getElem_of_mem hm
      exact hno j hj (by omega) he, hS⟩
theorem has01_any (v : Value) (l : List Int) (z : Int) (w : World) (hs : SlV [] w v l) : Calls Tryd.prog 13 #[v, .int .i64 z] w (Ret fun r w' => r = .bool (decide (z ∈ l)) ∧ Stp [] w w') := by
  have hmax := hs.max
  refine calls_of_WC2 (n := 18) Tryd.func13 rfl rfl rfl ?_
  refine W ?_
  refine WC_loop (σ := Nat) (fun k => [(0, v), (1, .int .i64 z), (5, .int .i64 (k : Int))]) (fun k w' => k ≤ l.length ∧ Stp [] w w' ∧ ∀ j (h : j < l.length), j < k → l[j] ≠ z) (fun k => l.length - k) 0 ⟨rfl, rfl, rfl, trivial⟩ ⟨Nat.zero_le _, Stp.refl _ _, fun j _ h => absurd h (Nat.not_lt_zero _)⟩ ?_
  rintro k w1 ⟨hk, hS, hno⟩
  replace hs := hs.up hS
  by_cases hlt : k < l.length
  · repeat' (first | refine W1 ?_ | (exfalso; omega) | refine WL_split rfl rfl (fun hg => ?_) (fun hg => ?_) | refine WL_splitB rfl rfl (fun hg => ?_) (fun hg => ?_) | refine WC_cond rfl (fun hc => ?_) (fun hc => ?_) | refine WC_condB rfl (fun hc => ?_) (fun hc => ?_))
    · first | refine WQ_ret1 rfl rfl ?_ | refine WQ_ret2 rfl rfl rfl ?_ | refine WQ_ret3 rfl rfl rfl rfl ?_ | refine WQ_ret0 rfl ?_ | refine WQ_end0 rfl ?_
      exact .mk ⟨by rw [decide_eq_true (by rw [← hc]; exact List.getElem_mem hlt)], hS⟩
    · refine WQ_loop (k + 1) ⟨rfl, rfl, rfl, trivial⟩ ⟨hlt, hS, fun j h hj => ?_⟩ (by omega)
      by_cases e : j = k
      · subst e; exact hc
      · exact hno j h (by omega)
  · repeat' (first | refine W1 ?_ | (exfalso; omega) | refine WL_split rfl rfl (fun hg => ?_) (fun hg => ?_) | refine WL_splitB rfl rfl (fun hg => ?_) (fun hg => ?_) | refine WC_cond rfl (fun hc => ?_) (fun hc => ?_) | refine WC_condB rfl (fun hc => ?_) (fun hc => ?_))
    first | refine WQ_ret1 rfl rfl ?_ | refine WQ_ret2 rfl rfl rfl ?_ | refine WQ_ret3 rfl rfl rfl rfl ?_ | refine WQ_ret0 rfl ?_ | refine WQ_end0 rfl ?_
    exact .mk ⟨by
      rw [decide_eq_false]
      intro hm
      obtain ⟨j, hj, he⟩ := List.getElem_of_mem hm
      exact hno j hj (by omega) he, hS⟩
theorem eqI (a b : Ins) (w : World) : (binOp .eql 59 (agg a) (agg b)).run Tryd.prog w = .ok (.bool (decide (a = b))) w := by
  have h1 : Program.stoodInHeld Tryd.prog 59 = false := by kernel_rfl
  obtain ⟨a1, a2⟩ := a
  obtain ⟨b1, b2⟩ := b
  simp [agg, Flat.enc, run_eql_struct, run_equalIn_struct, h1, Program.fieldsOf, Tryd.underlying59, Op.eqFields, part, Und.isAgg, aggB, run_equalIn_int w _ _ .i64 .i64 _ _ Tryd.underlying3]
  repeat' split
  all_goals simp_all
theorem kindT_ne (k : Int) : kindT k ≠ 0 := by
  unfold kindT
  split <;> (try split) <;> (try split) <;> (try split) <;> decide
theorem typesLaw15 (lv : Value) (l : List Int) (kind : Int) (w : World) (hF : SlV [] w flds fieldNames) (hs : SlV [] w lv l) (hl : ∀ a ∈ l, I64 a) (hk : I64 kind) :
    Calls Tryd.prog 6 #[lv, .int .i64 kind] w (Ret fun r w' => r = .bool true ∧ Stp [] w w') := by
  refine calls_of_WC2 (n := 80) Tryd.func6 rfl rfl rfl ?_
  refine W ?_
  refine WL_eff (OE_call rfl (evs3 rfl rfl rfl) (Expr_any [] lv l kind 6 6 _ (by decide) (by decide) rfl hk hs hl (by simp))) rfl ?_
  rintro _ w1 ⟨y, ⟨ky, rfl, hky⟩, hsz, ⟨hty, hnest⟩, hS⟩
  refine WL_eff OE_alloc rfl ?_
  rintro _ w2 ⟨b, rfl, hb, e0, hT⟩
  refine WL_eff0 (OE_storeA (us := ndC y ky) rfl rfl rfl rfl (ndC_one hky) e0 rfl) ?_
  rintro _ w3 ⟨hT2, e3⟩
  replace hT := hT.own hT2 (fun b hb => .inr (by simp at hb; omega))
  clear hT2 e0 hb
  replace hky := hky.up hT
  replace hS := hS.trans hT
  clear hT
  have hN : NdV [] w3 (.agg #[.int .i64 y.kind, .int .i64 y.num, str y.word, ky]) y := ⟨ky, rfl, hky⟩
  refine W ?_
  refine WL_eff (OE_call rfl (evs1 rfl) (Of_any [] [] _ y _ hN (hF.up hS))) rfl ?_
  rintro _ w4 ⟨rfl, hT⟩
  replace e3 := e3.up hT
  replace hN := hN.up hT
  replace hky := hky.up hT
  replace hS := hS.trans hT
  clear hT
  have hn12 : nestN y ≤ 12 := by omega
  rw [if_pos hn12, if_pos hn12]
  refine W ?_
  refine WL_eff (OE_call rfl (evs1 rfl) (Expression_any _ y _ (by omega) hN (hF.up hS))) rfl ?_
  rintro _ w5 ⟨cv, rfl, hcv, hT⟩
  replace hcv := hcv [] (by simp)
  replace e3 := e3.up hT
  replace hN := hN.up hT
  replace hky := hky.up hT
  replace hS := hS.trans hT
  clear hT
  have ht0 : typeT y ≠ 0 := by rw [hty]; exact kindT_ne kind
  have herr : errX y = if (exprF y).length > 200 then 2 else 0 := by unfold errX; rw [if_pos hn12, if_neg ht0]
  rw [herr] at hcv ⊢
  simp only [if_neg ht0]
  by_cases hlen : (exprF y).length > 200
  · simp only [if_pos hlen]
    repeat' (first | refine W1 ?_ | (exfalso; omega) | refine WL_split rfl rfl (fun hg => ?_) (fun hg => ?_) | refine WL_splitB rfl rfl (fun hg => ?_) (fun hg => ?_) | refine WC_cond rfl (fun hc => ?_) (fun hc => ?_) | refine WC_condB rfl (fun hc => ?_) (fun hc => ?_))
    refine WL_eff (OE_call rfl evs0 (lives15_any _ (hF.up hS))) rfl ?_
    rintro _ w6 ⟨rfl, hT⟩
    refine W ?_
    first | refine WQ_ret1 rfl rfl ?_ | refine WQ_ret2 rfl rfl rfl ?_ | refine WQ_ret3 rfl rfl rfl rfl ?_ | refine WQ_ret0 rfl ?_ | refine WQ_end0 rfl ?_
    exact .mk ⟨rfl, hS.trans hT⟩
  simp only [if_neg hlen, if_true] at hcv ⊢
  repeat' (first | refine W1 ?_ | (exfalso; omega) | refine WL_split rfl rfl (fun hg => ?_) (fun hg => ?_) | refine WL_splitB rfl rfl (fun hg => ?_) (fun hg => ?_) | refine WC_cond rfl (fun hc => ?_) (fun hc => ?_) | refine WC_condB rfl (fun hc => ?_) (fun hc => ?_))
  refine WL_eff (OE_call rfl (evs1 rfl) (Verify_any _ _ _ hcv)) rfl ?_
  rintro _ w6 ⟨rfl, hT⟩
  rw [verM_expr y ht0 hn12 (by omega)]
  replace e3 := e3.up hT
  replace hN := hN.up hT
  replace hky := hky.up hT
  replace hcv := hcv.up hT
  replace hS := hS.trans hT
  clear hT
  refine W ?_
  refine WL_eff (OE_call rfl (evs1 rfl) (Uses_any y _ _ (okN_of_size _ (by omega)) hN (hF.up hS))) rfl ?_
  rintro uv w7 ⟨hrow, hT⟩
  have huv : SlV [] w7 uv (usesR y) := by rw [← uses_eq]; exact hrow.slv0
  replace hcv := hcv.up hT
  replace hS := hS.trans hT
  clear hT hrow e3
  refine W ?_
  refine WC_loop (σ := Nat) (fun q => [(6, .int .i64 (typeT y)), (8, cv), (10, .int .i64 (typeT y)), (11, .int .i64 0), (12, uv), (13, .int .i64 (q : Int))]) (fun q w' => q ≤ 7 ∧ SlV [] w' cv (exprF y) ∧ SlV [] w' uv (usesR y) ∧ Stp [] w w') (fun q => 7 - q) 0 ⟨rfl, rfl, rfl, rfl, rfl, rfl, trivial⟩ ⟨by omega, hcv, huv, hS⟩ ?_
  clear hcv huv hS
  rintro q w8 ⟨hq, hcv, huv, hS⟩
  have hmem := fun hq => exprF_mem q hq y ht0
  have hcm := hcv.max
  generalize exprF y = C at *
  by_cases hlt : q < 7
  · repeat' (first | refine W1 ?_ | (exfalso; omega) | refine WL_split rfl rfl (fun hg => ?_) (fun hg => ?_) | refine WL_splitB rfl rfl (fun hg => ?_) (fun hg => ?_) | refine WC_cond rfl (fun hc => ?_) (fun hc => ?_) | refine WC_condB rfl (fun hc => ?_) (fun hc => ?_))
    refine WC_loop (σ := Nat × Bool) (fun p => [(6, .int .i64 (typeT y)), (8, cv), (10, .int .i64 (typeT y)), (11, .int .i64 0), (12, uv), (13, .int .i64 (q : Int)), (14, .bool p.2), (15, .int .i64 (p.1 : Int))]) (fun p w' => p.1 ≤ C.length ∧ p.2 = decide ((⟨4, (q : Int)⟩ : Ins) ∈ C.take p.1) ∧ w' = w8) (fun p => C.length - p.1) (0, false) ⟨rfl, rfl, rfl, rfl, rfl, rfl, rfl, rfl, trivial⟩ ⟨by simp, by simp, rfl⟩ ?_
    rintro ⟨j, f⟩ w9 ⟨hj, hf, rfl⟩
    dsimp only at hj hf ⊢
    by_cases hjl : j < C.length
    · cases f with
      | true =>
        repeat' (first | refine W1 ?_ | (exfalso; omega) | refine WL_split rfl rfl (fun hg => ?_) (fun hg => ?_) | refine WL_splitB rfl rfl (fun hg => ?_) (fun hg => ?_) | refine WC_cond rfl (fun hc => ?_) (fun hc => ?_) | refine WC_condB rfl (fun hc => ?_) (fun hc => ?_))
        refine WQ_loop (j + 1, true) ⟨rfl, rfl, rfl, rfl, rfl, rfl, rfl, rfl, trivial⟩ ⟨hjl, ?_, rfl⟩ (by dsimp only; omega)
        have := of_decide_eq_true hf.symm
        exact (decide_eq_true (by rw [List.take_succ_eq_append_getElem hjl]; exact List.mem_append_left _ this)).symm
      | false =>
        repeat' (first | refine W1 ?_ | (exfalso; omega) | refine WL_split rfl rfl (fun hg => ?_) (fun hg => ?_) | refine WL_splitB rfl rfl (fun hg => ?_) (fun hg => ?_) | refine WC_cond rfl (fun hc => ?_) (fun hc => ?_) | refine WC_condB rfl (fun hc => ?_) (fun hc => ?_))
        apply WL_build (vs := [(0, .int .i64 4), (1, .int .i64 _)]) rfl (buildI _ _) rfl
        refine W ?_
        refine WL_pure (PR_eqlS (p := agg C[j]) (q := agg (⟨4, (q : Int)⟩ : Ins)) (c := C[j] = ⟨4, (q : Int)⟩) rfl rfl (fun w => guardI _ _ _ C[j] ⟨4, (q : Int)⟩ w) (fun w => eqI C[j] ⟨4, (q : Int)⟩ w)) rfl ?_
        refine W ?_
        refine WQ_loop (j + 1, decide (C[j] = ⟨4, (q : Int)⟩)) ⟨rfl, rfl, rfl, rfl, rfl, rfl, rfl, rfl, trivial⟩ ⟨hjl, ?_, rfl⟩ (by dsimp only; omega)
        have := of_decide_eq_false hf.symm
        simp only [List.take_succ_eq_append_getElem hjl, List.mem_append, this, false_or, List.mem_singleton]
        exact decide_eq_decide.2 eq_comm
    · have hje : j = C.length := by omega
      subst hje
      rw [List.take_length] at hf
      repeat' (first | refine W1 ?_ | (exfalso; omega) | refine WL_split rfl rfl (fun hg => ?_) (fun hg => ?_) | refine WL_splitB rfl rfl (fun hg => ?_) (fun hg => ?_) | refine WC_cond rfl (fun hc => ?_) (fun hc => ?_) | refine WC_condB rfl (fun hc => ?_) (fun hc => ?_))
      refine WL_eff (OE_call rfl (evs2 rfl rfl) (has03_any uv _ (q : Int) _ huv)) rfl ?_
      rintro _ w10 ⟨rfl, hT⟩
      have hfg : f = decide ((q : Int) ∈ usesR y) := by rw [hf]; exact decide_eq_decide.2 (hmem hlt)
      rw [← hfg]
      cases f with
      | true =>
        repeat' (first | refine W1 ?_ | (exfalso; omega) | refine WL_split rfl rfl (fun hg => ?_) (fun hg => ?_) | refine WL_splitB rfl rfl (fun hg => ?_) (fun hg => ?_) | refine WC_cond rfl (fun hc => ?_) (fun hc => ?_) | refine WC_condB rfl (fun hc => ?_) (fun hc => ?_))
        all_goals try (exact absurd rfl (by assumption))
        exact WQ_loop (q + 1) ⟨rfl, rfl, rfl, rfl, rfl, rfl, trivial⟩ ⟨by omega, hcv.up hT, huv.up hT, hS.trans hT⟩ (by omega)
      | false =>
        repeat' (first | refine W1 ?_ | (exfalso; omega) | refine WL_split rfl rfl (fun hg => ?_) (fun hg => ?_) | refine WL_splitB rfl rfl (fun hg => ?_) (fun hg => ?_) | refine WC_cond rfl (fun hc => ?_) (fun hc => ?_) | refine WC_condB rfl (fun hc => ?_) (fun hc => ?_))
        all_goals try (exact absurd rfl (by assumption))
        exact WQ_loop (q + 1) ⟨rfl, rfl, rfl, rfl, rfl, rfl, trivial⟩ ⟨by omega, hcv.up hT, huv.up hT, hS.trans hT⟩ (by omega)
  · repeat' (first | refine W1 ?_ | (exfalso; omega) | refine WL_split rfl rfl (fun hg => ?_) (fun hg => ?_) | refine WL_splitB rfl rfl (fun hg => ?_) (fun hg => ?_) | refine WC_cond rfl (fun hc => ?_) (fun hc => ?_) | refine WC_condB rfl (fun hc => ?_) (fun hc => ?_))
    all_goals try (exact absurd rfl (by assumption))
    refine WL_eff (OE_call rfl evs0 (lives15_any _ (hF.up hS))) rfl ?_
    rintro _ w6 ⟨rfl, hT⟩
    refine W ?_
    first | refine WQ_ret1 rfl rfl ?_ | refine WQ_ret2 rfl rfl rfl ?_ | refine WQ_ret3 rfl rfl rfl rfl ?_ | refine WQ_ret0 rfl ?_ | refine WQ_end0 rfl ?_
    exact .mk ⟨rfl, hS.trans hT⟩
end Go.Proofs.YtgpibcgebpgmiaaDoor

/-
The walk engine, part 4 B: as part 4, with a base below which the old blocks stand (blocks made inside the region may change). The operations are taken in one order of our own; each either yields one value in every world that may come up, or is the only one that is ready.
-/
namespace Go.EngB
open Go Go.Eng Go.RowKit Go.Proofs
set_option linter.unusedVariables false
/-- the blocks below S.1 that are not of S.2 stand -/
structure StpB (S : Nat × List Nat) (w w' : World) : Prop where
  os : w'.os = w.os
  tape : w'.tape = w.tape
  output : w'.output = w.output
  size : w.heap.size ≤ w'.heap.size
  block : ∀ b, b < S.1 → b ∉ S.2 → w'.heap[b]? = w.heap[b]?
theorem StpB.refl (S : Nat × List Nat) (w : World) : StpB S w w := ⟨rfl, rfl, rfl, Nat.le_refl _, fun _ _ _ => rfl⟩
theorem StpB.trans {S : Nat × List Nat} {a b c : World} (h : StpB S a b) (k : StpB S b c) : StpB S a c :=
  ⟨k.os.trans h.os, k.tape.trans h.tape, k.output.trans h.output, Nat.le_trans h.size k.size, fun x hx hn => (k.block x hx hn).trans (h.block x hx hn)⟩
theorem StpB.of {B : Nat} {S : List Nat} {w w' : World} (h : Stp S w w') (hB : B ≤ w.heap.size) (hS : ∀ b ∈ S, B ≤ b) : StpB (B, []) w w' :=
  ⟨h.os, h.tape, h.output, h.size, fun b hb _ => h.block b (Nat.lt_of_lt_of_le hb hB) (fun hm => by have := hS b hm; omega)⟩
theorem StpB.blk {B b T : Nat} {cs : List Value} {w w' : World} (h : StpB (B, []) w w') (hb : Blk w b T cs) (hl : b < B) : Blk w' b T cs := by
  unfold Blk at *
  rw [h.block b hl (by simp)]
  exact hb

section any
variable {P : Program} {ops : Array Oper} {md : Region.Mode} {S : Nat × List Nat} {Lt : Nat → Bool}

theorem wp_noQ {o : Oper} {a : Act} {w : World} {K : Act → World → Prop} {Q : Exit → Act → World → Prop} (h : o.wp P a w K (fun _ _ _ => False)) : o.wp P a w K Q := by
  unfold Oper.wp at *
  generalize (execOp a.eval o).run P w = r at *
  cases r with
  | ok n w' =>
    cases n <;> simp only [Oper.upon] at h ⊢
    case enter f args =>
      refine Calls.mono h (fun e w'' he => ?_)
      cases e with
      | returned v => exact he
      | panicked c => exact he.elim
      | outgrown => obtain ⟨_, _, hf⟩ := he; exact hf.elim
    all_goals exact h
  | halt x w' => cases x <;> simp only [Oper.upon] at h

theorem wpOp_noQ {i : Nat} {K : Act → World → Prop} {Q : Exit → Act → World → Prop} {a : Act} {w : World} (h : wpOp P ops (fun _ _ _ => False) i K a w) : wpOp P ops Q i K a w := by
  unfold wpOp at *
  cases ho : ops[i]? with
  | none => simp only [ho] at h ⊢; exact h
  | some o =>
    simp only [ho] at h ⊢
    split
    · rename_i hw
      simp only [hw, if_true] at h
      rcases h with h | ⟨_, _, _, hf⟩
      · exact .inl (wp_noQ h)
      · exact hf.elim
    · rename_i hw; simp only [hw] at h; exact h

/-- whatever order is picked from here on; the old blocks stand but behind the operations of Lt -/
def wpAnyE (P : Program) (md : Region.Mode) (ops : Array Oper) (S : Nat × List Nat) (Lt : Nat → Bool) (Z : Act → World → Prop) : Nat → Array Bool → Act → World → Prop
  | 0, listed, a, w => Region.ready md ops listed = [] ∧ Z a w
  | fuel + 1, listed, a, w =>
    (Region.ready md ops listed = [] → Z a w) ∧
    ∀ i ∈ Region.ready md ops listed, wpOp P ops (fun _ _ _ => False) i (fun a' w' => (StpB S w w' ∨ Lt i = true) ∧ wpAnyE P md ops S Lt Z fuel (listed.setIfInBounds i true) a' w') a w

theorem wpAny_of_E {Z : Act → World → Prop} {Q : Exit → Act → World → Prop} (hZ : ∀ a w, Z a w → Q .normal a w) : ∀ (fuel : Nat) (listed : Array Bool) (a : Act) (w : World),
    wpAnyE P md ops S Lt Z fuel listed a w → wpAny P md ops Q fuel listed a w
  | 0, _, _, _, h => ⟨h.1, hZ _ _ h.2⟩
  | fuel + 1, _, _, _, h => ⟨fun h0 => hZ _ _ (h.1 h0), fun i hi => wpOp_mono (fun a' w' hk => wpAny_of_E hZ fuel _ a' w' hk.2) (wpOp_noQ (h.2 i hi))⟩

/-- operation o yields v in every world to which R leads -/
def YE (P : Program) (ops : Array Oper) (R : World → World → Prop) (o : Oper) (v : Value) (a : Act) (w : World) : Prop :=
  (Region.wanted o (yielded ops a.tmps) = true ∧ ∀ w', R w w' → (execOp a.eval o).run P w' = .ok (.value v) w') ∨
  (Region.wanted o (yielded ops a.tmps) = false ∧ v = undef)

theorem YE.same {R : World → World → Prop} {o : Oper} {v : Value} {a a' : Act} {w : World} (hy : YE P ops R o v a w) (he : execOp a'.eval o = execOp a.eval o)
    (hw : Region.wanted o (yielded ops a'.tmps) = Region.wanted o (yielded ops a.tmps)) : YE P ops R o v a' w := by
  unfold YE at *
  rw [he, hw]
  exact hy

theorem first_E {Z : Act → World → Prop} {R : World → World → Prop} (hR0 : ∀ w, R w w) (hRt : ∀ a b c, R a b → R b c → R a c) {i : Nat} {oi : Oper} {v : Value} (hi : ops[i]? = some oi)
    (hRs : ∀ j oj, ops[j]? = some oj → (∀ e ∈ oj.after, Region.binds md e = true → e.on ≠ i) → j ≠ i → ∀ w w', (StpB S w w' ∨ Lt j = true) → R w w')
    (hsel : ∀ (j : Nat) (o : Oper) cs b, ops[j]? = some o → o.op ≠ .select cs b) :
    ∀ (fuel : Nat) (listed : Array Bool) (a : Act) (w : World),
      (∀ j oj, ops[j]? = some oj → j ≠ i → listed.getD j true = false → (∀ e ∈ oj.after, Region.binds md e = true → e.on ≠ i) → oi.apart ops oj = true) →
      (StpB S w w ∨ Lt i = true → True) → i ∈ Region.ready md ops listed → YE P ops R oi v a w →
      wpAnyE P md ops S Lt Z fuel (listed.setIfInBounds i true) (a.put oi.dst v) w → wpAnyE P md ops S Lt Z (fuel + 1) listed a w := by
  have now : ∀ (fuel : Nat) (listed : Array Bool) (a : Act) (w : World), YE P ops R oi v a w → wpAnyE P md ops S Lt Z fuel (listed.setIfInBounds i true) (a.put oi.dst v) w →
      wpOp P ops (fun _ _ _ => False) i (fun a' w' => (StpB S w w' ∨ Lt i = true) ∧ wpAnyE P md ops S Lt Z fuel (listed.setIfInBounds i true) a' w') a w := by
    intro fuel listed a w hy H
    unfold wpOp
    simp only [hi]
    rcases hy with ⟨hw, hv⟩ | ⟨hw, rfl⟩
    · simp only [hw, if_true, Oper.wp, hv w (hR0 w), Oper.upon]; exact .inl ⟨.inl (StpB.refl _ _), H⟩
    · simp only [hw, Bool.false_eq_true, if_false]; exact ⟨.inl (StpB.refl _ _), H⟩
  intro fuel
  induction fuel with
  | zero =>
    intro listed a w _ _ hr hy H
    refine ⟨fun h => (by rw [h] at hr; cases hr), fun j hj => ?_⟩
    by_cases hji : j = i
    · subst hji; exact now _ _ _ _ hy H
    · have := ready_mono hj hji
      rw [H.1] at this
      cases this
  | succ fuel ih =>
    intro listed a w hfree hx hr hy H
    refine ⟨fun h => (by rw [h] at hr; cases hr), fun j hj => ?_⟩
    by_cases hji : j = i
    · subst hji; exact now _ _ _ _ hy H
    · have h1 := H.2 j (ready_mono hj hji)
      obtain ⟨hjun, oj, hoj, hall⟩ := mem_ready.1 hj
      have hnot : ∀ e ∈ oj.after, Region.binds md e = true → e.on ≠ i := fun e he hb heq => by
        have h1 := hall e he hb
        have h0 := (mem_ready.1 hr).1
        rw [heq] at h1
        rcases Nat.lt_or_ge i listed.size with h' | h'
        · simp [h'] at h0 h1; rw [h0] at h1; cases h1
        · simp [Array.getElem?_eq_none h'] at h1
      have hap := hfree j oj hoj hji hjun hnot
      obtain ⟨p1, p2, p3⟩ := Oper.apart_spec hap
      have keep : ∀ (a : Act), YE P ops R oi v a w → ∀ u, YE P ops R oi v (a.put oj.dst u) w := fun a hy u =>
        hy.same (execOp_put oi (fun cs b => hsel i oi cs b hi) a oj.dst u p3) (wanted_put oi a oj.dst u p3)
      have keepD : ∀ (a : Act) d, YE P ops R oi v a w → YE P ops R oi v { a with defers := d :: a.defers } w := fun a d hy => hy.same rfl rfl
      have later : ∀ (a : Act) w', (StpB S w w' ∨ Lt j = true) → YE P ops R oi v a w → YE P ops R oi v a w' := fun a w' hs hy => by
        rcases hy with ⟨hw, hv⟩ | hw
        · exact .inl ⟨hw, fun w'' h'' => hv w'' (hRt _ _ _ (hRs j oj hoj hnot hji w w' hs) h'')⟩
        · exact .inr hw
      have hfree' : ∀ k ok, ops[k]? = some ok → k ≠ i → (listed.setIfInBounds j true).getD k true = false →
          (∀ e ∈ ok.after, Region.binds md e = true → e.on ≠ i) → oi.apart ops ok = true := fun k ok hk hki hun hno => by
        refine hfree k ok hk hki ?_ hno
        by_cases hjk : j = k
        · subst hjk; exact hjun
        · rw [getD_set_ne true hjk] at hun; exact hun
      have fin : ∀ a' w', YE P ops R oi v a' w → (StpB S w w' ∨ Lt j = true) ∧ wpAnyE P md ops S Lt Z fuel ((listed.setIfInBounds i true).setIfInBounds j true) (a'.put oi.dst v) w' →
          (StpB S w w' ∨ Lt j = true) ∧ wpAnyE P md ops S Lt Z (fuel + 1) (listed.setIfInBounds j true) a' w' := by
        rintro a' w' hy' ⟨hs, hk⟩
        refine ⟨hs, ih _ a' w' hfree' (fun _ => trivial) (ready_mono hr (Ne.symm hji)) (later a' w' hs hy') ?_⟩
        rw [Array.setIfInBounds_comm _ _ hji]
        exact hk
      have hsj : ∀ cs b, oj.op ≠ .select cs b := fun cs b => hsel j oj cs b hoj
      unfold wpOp at *
      simp only [hoj] at *
      rw [wanted_put oj a oi.dst v p1] at h1
      split
      · rename_i hw
        simp only [hw, if_true] at h1
        rcases h1 with h1 | ⟨_, _, _, hf⟩
        case inr => exact hf.elim
        refine .inl ?_
        unfold Oper.wp at *
        rw [execOp_put oj hsj a oi.dst v p1] at h1
        generalize (execOp a.eval oj).run P w = r at *
        cases r with
        | ok n w' =>
          cases n <;> simp only [Oper.upon] at h1 ⊢
          case value u => exact fin _ _ (keep a hy u) (by rw [← Act.put_comm a v u p2]; exact h1)
          case skip => exact fin _ _ (keep a hy _) (by rw [← Act.put_comm a v undef p2]; exact h1)
          case defer d =>
            refine fin _ _ (keep _ (keepD a d hy) _) ?_
            rw [← Act.put_comm _ v undef p2, ← Act.put_defers]
            exact h1
          case enter f args =>
            refine Calls.mono h1 fun e w'' he => ?_
            cases e with
            | returned u => exact fin _ _ (keep a hy u) (by rw [← Act.put_comm a v u p2]; exact he)
            | panicked c => exact he
            | outgrown => exact he
          case row row args => exact Rows.mono h1 fun u w'' he => fin _ _ (keep a hy u) (by rw [← Act.put_comm a v u p2]; exact he)
        | halt x w' =>
          cases x <;> simp only [Oper.upon] at h1
      · rename_i hw
        simp only [hw] at h1
        exact fin _ _ (keep a hy _) (by rw [← Act.put_comm a v undef p2]; exact h1)
end any

/-! ### the order, and what a Bool asks of it -/
/-- 0: yields one value in every world; 1: in every world in which the old blocks stand; else: it alone is ready -/
def bound (ops : Array Oper) (Lt : List Nat) (i : Nat) : Bool :=
  Lt.all fun j => j == i || (match ops[j]? with | some oj => oj.after.any (fun e => Region.binds .any e && e.on == i) | none => true)
/-- the numbers of the bits that are set -/
def bits (m : Nat) : List Nat := (List.range 64).filter (fun j => m.testBit j)
def subs : List Nat → List (List Nat)
  | [] => [[]]
  | x :: r => subs r ++ (subs r).map (x :: ·)
/-- all of 'is' but those of 'rem' are listed -/
def lst (listed : Array Bool) (is rem : List Nat) : Array Bool := Array.ofFn (n := listed.size) fun j => listed[j] || (is.contains j.val && !rem.contains j.val)
/-- tags: below 100000 one operation; from there on a set of operations without order, as bits -/
def wt : List (Nat × Nat) → Nat
  | [] => 0
  | (_, k) :: r => (if k < 100000 then 1 else (bits (k - 100000)).length) + wt r
theorem wt_small {i k : Nat} {r : List (Nat × Nat)} (h : k < 100000) : wt ((i, k) :: r) = wt r + 1 := by simp [wt, h]; omega
/-- 'sk': an operation that was listed already, and whose place in the order is passed over -/
def checkS (ops : Array Oper) (Lt : List Nat) : List (Nat × Nat) → Option Nat → Array Bool → Bool
  | [], sk, listed => sk.isNone && (Region.ready .any ops listed).isEmpty
  | (i, 0) :: r, sk, listed => (Region.ready .any ops listed).contains i && Region.free .any ops listed i && checkS ops Lt r sk (listed.setIfInBounds i true)
  | (i, 1) :: r, sk, listed => (Region.ready .any ops listed).contains i && Region.free .any ops listed i && bound ops Lt i && checkS ops Lt r sk (listed.setIfInBounds i true)
  | (i, 2) :: r, sk, listed => if sk = some i then checkS ops Lt r none listed else Region.ready .any ops listed == [i] && checkS ops Lt r sk (listed.setIfInBounds i true)
  | (i, q + 3) :: r, sk, listed => if sk = some q ∧ q + 3 < 100000 then (Region.ready .any ops listed == [i] && checkS ops Lt r sk (listed.setIfInBounds i true)) else sk.isNone && if q + 3 < 100000 then (Region.ready .any ops listed == [i, q] && checkS ops Lt r none (listed.setIfInBounds i true) && Region.ready .any ops (listed.setIfInBounds q true) == [i] && checkS ops Lt r (some q) ((listed.setIfInBounds q true).setIfInBounds i true))
    else (subs (bits (q + 3 - 100000))).all (fun rem => rem.isEmpty || Region.ready .any ops (lst listed (bits (q + 3 - 100000)) rem) == rem) && checkS ops Lt r none (lst listed (bits (q + 3 - 100000)) [])
def checkD (ops : Array Oper) (Lt : List Nat) (ord : List (Nat × Nat)) (listed : Array Bool) : Bool := checkS ops Lt ord none listed
def delO (q : Nat) : List (Nat × Nat) → List (Nat × Nat)
  | [] => []
  | (i, 2) :: r => if i = q then r else (i, 2) :: delO q r
  | (i, 0) :: r => (i, 0) :: delO q r
  | (i, 1) :: r => (i, 1) :: delO q r
  | (i, k + 3) :: r => if k = q ∧ k + 3 < 100000 then (i, 2) :: delO q r else (i, k + 3) :: delO q r
theorem checkS_del {ops : Array Oper} {Lt : List Nat} {q : Nat} : ∀ (r : List (Nat × Nat)) (listed : Array Bool), checkS ops Lt r (some q) listed = true → checkS ops Lt (delO q r) none listed = true ∧ wt r = wt (delO q r) + 1
  | [], listed, h => by simp [checkS] at h
  | (i, 0) :: r, listed, h => by
    simp only [checkS, Bool.and_eq_true] at h
    obtain ⟨h1, h2⟩ := checkS_del r _ h.2
    simp only [delO, checkS, Bool.and_eq_true]
    exact ⟨⟨h.1, h1⟩, by simp [wt, h2]; omega⟩
  | (i, 1) :: r, listed, h => by
    simp only [checkS, Bool.and_eq_true] at h
    obtain ⟨h1, h2⟩ := checkS_del r _ h.2
    simp only [delO, checkS, Bool.and_eq_true]
    exact ⟨⟨h.1, h1⟩, by simp [wt, h2]; omega⟩
  | (i, 2) :: r, listed, h => by
    by_cases e : i = q
    · subst e
      simp only [checkS, if_pos] at h
      simp only [delO, if_pos]
      exact ⟨h, by simp [wt]; omega⟩
    · have e' : ¬ (some q = some i) := by simpa using fun h => e h.symm
      simp only [checkS, if_neg e', Bool.and_eq_true] at h
      obtain ⟨h1, h2⟩ := checkS_del r _ h.2
      simp only [delO, if_neg e, checkS]
      refine ⟨?_, by simp [wt, h2]; omega⟩
      rw [if_neg (by simp)]
      simp only [Bool.and_eq_true]
      exact ⟨h.1, h1⟩
  | (i, k + 3) :: r, listed, h => by
    by_cases e : k = q ∧ k + 3 < 100000
    · simp only [checkS] at h
      rw [if_pos ⟨by rw [e.1], e.2⟩] at h
      simp only [Bool.and_eq_true] at h
      obtain ⟨h1, h2⟩ := checkS_del r _ h.2
      simp only [delO, if_pos e, checkS]
      refine ⟨?_, by rw [wt_small e.2, wt_small (by decide), h2]⟩
      rw [if_neg (by simp)]
      simp only [Bool.and_eq_true]
      exact ⟨h.1, h1⟩
    · simp only [checkS] at h
      rw [if_neg (fun h' => e ⟨(Option.some.inj h'.1).symm, h'.2⟩)] at h
      simp at h

structure WD (P : Program) (n : Nat) (ops : Array Oper) (S : Nat × List Nat) (Lt : List Nat) (Q : Exit → Act → World → Prop) (ord : List (Nat × Nat)) (e : Env) (w : World) : Prop where
  h : ∀ listed : Array Bool, Region.noSelect ops = true → checkD ops Lt ord listed = true → ∀ a, Has n e a → wpAnyE P .any ops S (fun j => Lt.contains j) (fun a w => Q .normal a w) (wt ord) listed a w

section rules
variable {P : Program} {n : Nat} {Q : Exit → Act → World → Prop} {e : Env} {w : World} {ops : Array Oper} {S : Nat × List Nat} {Lt : List Nat} {rest : List (Nat × Nat)}

theorem WC_drawn {id : Nat} {l : List Oper} (m : Nat) (S : Nat × List Nat) (Lt : List Nat) (ord : List (Nat × Nat)) (hlm : l.length = m) (hm : P.follows .mixedOrders = true) (hs : Region.noSelect l.toArray = true) (hl : Nat.beq (wt ord) l.length = true)
    (hB : checkD l.toArray Lt ord (Array.replicate m false) = true)
    (h : ∀ w', Stp [] w w' → WD P n l.toArray S Lt Q ord e w') : WC P n (.region id l.toArray true) Q e w := by
  subst hlm
  refine ⟨fun a ha => wp_region_any hm ?_⟩
  have h1 := (h { w with drawn := w.drawn + 1 } (Stp.drew [] w)).h _ hs hB a ha
  have h2 := wpAny_of_E (Q := Q) (fun a w hz => hz) _ _ _ _ h1
  rw [Nat.eq_of_beq_eq_true hl] at h2
  simpa using h2

theorem WD_nil (h : WQ n Q .normal e w) : WD P n ops S Lt Q [] e w :=
  ⟨fun _ _ hB a ha => ⟨by simpa [checkD, checkS] using hB, h.h a ha⟩⟩

def gdOk (ops : Array Oper) (e : Env) : Option (Nat × Bool) → Prop
  | none => True
  | some (j, b) => yld ops e j = some (.bool b)
theorem wanted_ok {o : Oper} {a : Act} (ha : Has n e a) (hg : gdOk ops e o.guard) : Region.wanted o (yielded ops a.tmps) = true := by
  unfold Region.wanted
  cases hgd : o.guard with
  | none => rfl
  | some jb =>
    obtain ⟨j, b⟩ := jb
    rw [hgd] at hg
    simp [yielded_of ha hg]
theorem WD_step0 {i d : Nat} {o : Oper} {v : Value} (hi : ops[i]? = some o) (hd : o.dst = some d) (hY : ∀ a, Has n e a → YE P ops (fun _ _ => True) o v a w) (hdn : Nat.blt d n = true)
    (k : WD P n ops S Lt Q rest ((d, v) :: e) w) : WD P n ops S Lt Q ((i, 0) :: rest) e w := by
  refine ⟨fun listed hs hB a ha => ?_⟩
  simp only [checkD, checkS, Bool.and_eq_true] at hB
  obtain ⟨⟨h1, h2⟩, h3⟩ := hB
  have hk := k.h _ hs h3 _ (ha.put (v := v) hdn)
  rw [← hd] at hk
  rw [wt_small (by decide)]
  exact first_E (R := fun _ _ => True) (fun _ => trivial) (fun _ _ _ _ _ => trivial) hi (fun _ _ _ _ _ _ _ _ => trivial) (Region.noSelect_spec hs) _ _ _ _ (Region.free_spec hi h2) (fun _ => trivial) (by simpa using h1) (hY a ha) hk

theorem bound_spec {i j : Nat} {oj : Oper} (hb : bound ops Lt i = true) (hj : ops[j]? = some oj) (hn : ∀ e ∈ oj.after, Region.binds .any e = true → e.on ≠ i) (hji : j ≠ i) : Lt.contains j = false := by
  cases hc : Lt.contains j with
  | false => rfl
  | true =>
    have hm : j ∈ Lt := by simpa using hc
    have := (List.all_eq_true.1 hb) j hm
    simp only [hj, Bool.or_eq_true, beq_iff_eq, hji, false_or] at this
    obtain ⟨e, he, hbe⟩ := Array.any_eq_true'.1 this
    simp only [Bool.and_eq_true, beq_iff_eq] at hbe
    exact absurd hbe.2 (hn e he hbe.1)

theorem WD_step1 {i d : Nat} {o : Oper} {v : Value} (hi : ops[i]? = some o) (hd : o.dst = some d) (hY : ∀ a, Has n e a → YE P ops (StpB S) o v a w) (hdn : Nat.blt d n = true)
    (k : WD P n ops S Lt Q rest ((d, v) :: e) w) : WD P n ops S Lt Q ((i, 1) :: rest) e w := by
  refine ⟨fun listed hs hB a ha => ?_⟩
  simp only [checkD, checkS, Bool.and_eq_true] at hB
  obtain ⟨⟨⟨h1, h2⟩, hb⟩, h3⟩ := hB
  have hk := k.h _ hs h3 _ (ha.put (v := v) hdn)
  rw [← hd] at hk
  rw [wt_small (by decide)]
  refine first_E (R := StpB S) (fun w => StpB.refl _ w) (fun _ _ _ h k => h.trans k) hi (fun j oj hj hn hji w w' hs => ?_) (Region.noSelect_spec hs) _ _ _ _ (Region.free_spec hi h2) (fun _ => trivial) (by simpa using h1) (hY a ha) hk
  rcases hs with hs | hs
  · exact hs
  · rw [bound_spec hb hj hn hji] at hs; cases hs

variable {i d : Nat} {op : Op} {ty : TypeId} {pos : String} {af : Array Edge} {gd : Option (Nat × Bool)} {v : Value}
/-- an operation that looks at no memory -/
theorem WD_free (hi : ops[i]? = some ⟨some d, op, ty, pos, af, gd⟩) (hg : gdOk ops e gd) (hp : ∀ w', PR P n ⟨some d, op, ty, pos, af, gd⟩ e w' v) (hdn : Nat.blt d n = true)
    (k : WD P n ops S Lt Q rest ((d, v) :: e) w) : WD P n ops S Lt Q ((i, 0) :: rest) e w :=
  WD_step0 hi rfl (fun a ha => .inl ⟨wanted_ok ha hg, fun w' _ => (hp w').h a ha⟩) hdn k
/-- one that reads old memory -/
theorem WD_read (hi : ops[i]? = some ⟨some d, op, ty, pos, af, gd⟩) (hg : gdOk ops e gd) (hp : ∀ w', StpB S w w' → PR P n ⟨some d, op, ty, pos, af, gd⟩ e w' v) (hdn : Nat.blt d n = true)
    (k : WD P n ops S Lt Q rest ((d, v) :: e) w) : WD P n ops S Lt Q ((i, 1) :: rest) e w :=
  WD_step1 hi rfl (fun a ha => .inl ⟨wanted_ok ha hg, fun w' hw => (hp w' hw).h a ha⟩) hdn k
/-- one that is passed over -/
theorem WD_pass0 (hi : ops[i]? = some ⟨some d, op, ty, pos, af, gd⟩) (hg : noB ops e gd = true) (hdn : Nat.blt d n = true)
    (k : WD P n ops S Lt Q rest ((d, undef) :: e) w) : WD P n ops S Lt Q ((i, 0) :: rest) e w :=
  WD_step0 hi rfl (fun a ha => .inr ⟨wanted_noB ha hg, rfl⟩) hdn k
theorem WD_pass1 (hi : ops[i]? = some ⟨some d, op, ty, pos, af, gd⟩) (hg : noB ops e gd = true) (hdn : Nat.blt d n = true)
    (k : WD P n ops S Lt Q rest ((d, undef) :: e) w) : WD P n ops S Lt Q ((i, 1) :: rest) e w :=
  WD_step1 hi rfl (fun a ha => .inr ⟨wanted_noB ha hg, rfl⟩) hdn k

/-- one operation, whatever else is ready -/
structure WD1 (P : Program) (n : Nat) (ops : Array Oper) (S : Nat × List Nat) (Lt : List Nat) (Q : Exit → Act → World → Prop) (i : Nat) (ord : List (Nat × Nat)) (e : Env) (w : World) : Prop where
  h : ∀ listed : Array Bool, Region.noSelect ops = true → checkD ops Lt ord (listed.setIfInBounds i true) = true → ∀ a, Has n e a →
    wpOp P ops (fun _ _ _ => False) i (fun a' w' => (StpB S w w' ∨ Lt.contains i = true) ∧ wpAnyE P .any ops S (fun j => Lt.contains j) (fun a w => Q .normal a w) (wt ord) (listed.setIfInBounds i true) a' w') a w
theorem WD1_mk {o : Oper} {dst : Option Nat} {G : Value → World → Prop} (hi : ops[i]? = some o) (hdst : o.dst = dst) (hg : gdOk ops e o.guard) (hp : OE P n o e w (fun v w' => (StpB S w w' ∨ Lt.contains i = true) ∧ G v w'))
    (k : ∀ v w' a', G v w' → ∀ a, Has n e a → a' = a.put dst v → ∃ e', Has n e' a' ∧ WD P n ops S Lt Q rest e' w') : WD1 P n ops S Lt Q i rest e w := by
  refine ⟨fun listed hs h3 a ha => ?_⟩
  unfold wpOp
  simp only [hi]
  rw [if_pos (wanted_ok ha hg)]
  refine .inl (Oper.wp_mono ?_ (hp.h a ha _))
  rintro a' w' ⟨v, rfl, hs', hG⟩
  obtain ⟨e', he', hk⟩ := k v w' (a.put o.dst v) hG a ha (by rw [hdst])
  exact ⟨hs', hk.h _ hs h3 _ he'⟩
theorem WD_one (h : WD1 P n ops S Lt Q i rest e w) : WD P n ops S Lt Q ((i, 2) :: rest) e w := by
  refine ⟨fun listed hs hB a ha => ?_⟩
  simp only [checkD, checkS] at hB
  rw [if_neg (by simp)] at hB
  simp only [Bool.and_eq_true, beq_iff_eq] at hB
  obtain ⟨h1, h3⟩ := hB
  rw [wt_small (by decide)]
  refine ⟨fun h0 => absurd (h1 ▸ h0) (by simp), fun j hj => ?_⟩
  rw [h1] at hj
  obtain rfl : j = i := by simpa using hj
  exact h.h _ hs h3 a ha
/-- two are ready, and both orders are shown -/
theorem WD_two {q : Nat} (hq : Nat.blt (q + 3) 100000 = true) (h1 : WD1 P n ops S Lt Q i rest e w) (h2 : WD1 P n ops S Lt Q q ((i, 2) :: delO q rest) e w) : WD P n ops S Lt Q ((i, q + 3) :: rest) e w := by
  refine ⟨fun listed hs hB a ha => ?_⟩
  have hq' : q + 3 < 100000 := Nat.le_of_ble_eq_true hq
  simp only [checkD, checkS] at hB
  rw [if_neg (by simp), if_pos hq'] at hB
  simp only [Bool.and_eq_true, beq_iff_eq] at hB
  obtain ⟨_, ⟨⟨hr, hr1⟩, hr2⟩, h3⟩ := hB
  obtain ⟨h4, h5⟩ := checkS_del _ _ h3
  have hw : wt ((i, q + 3) :: rest) = wt rest + 1 := wt_small hq'
  rw [hw]
  refine ⟨fun h0 => absurd (hr ▸ h0) (by simp), fun j hj => ?_⟩
  rw [hr] at hj
  have c2 : checkD ops Lt ((i, 2) :: delO q rest) (listed.setIfInBounds q true) = true := by
    simp only [checkD, checkS]
    rw [if_neg (by simp)]
    simp only [Bool.and_eq_true, beq_iff_eq]
    exact ⟨hr2, h4⟩
  have hw2 : wt rest = wt ((i, 2) :: delO q rest) := by rw [wt_small (by decide), h5]
  have hj' : j = i ∨ j = q := by simpa using hj
  rcases hj' with rfl | rfl
  · exact h1.h _ hs hr1 a ha
  · rw [hw2]
    exact h2.h _ hs c2 a ha
theorem subs_mem : ∀ {is rem : List Nat}, rem.Sublist is → rem ∈ subs is
  | [], rem, h => by simp at h; simp [subs, h]
  | x :: r, rem, h => by
    simp only [subs, List.mem_append, List.mem_map]
    cases h with
    | cons _ h => exact .inl (subs_mem h)
    | cons_cons _ h => exact .inr ⟨_, subs_mem h, rfl⟩
theorem lst_all (listed : Array Bool) (is : List Nat) : lst listed is is = listed := by
  apply Array.ext
  · simp [lst]
  · intro j h1 h2
    simp only [lst, Array.getElem_ofFn]
    cases is.contains j <;> simp
theorem lst_step {listed : Array Bool} {is rem : List Nat} {j : Nat} (hn : rem.Nodup) (hr : rem.Sublist is) (hj : j ∈ rem) : (lst listed is rem).setIfInBounds j true = lst listed is (rem.erase j) := by
  apply Array.ext
  · simp [lst]
  · intro m h1 h2
    have hm : m < listed.size := by simpa [lst] using h2
    rw [Array.getElem_setIfInBounds]
    · simp only [lst, Array.getElem_ofFn]
      by_cases e : j = m
      · subst e
        have h3 : is.contains j = true := by simpa using hr.subset hj
        have h4 : (rem.erase j).contains j = false := by
          have := hn.not_mem_erase (a := j)
          simpa using this
        simp only [h3, h4, if_true, Bool.not_false, Bool.and_true, Bool.or_true]
      · rw [if_neg e]
        have : (rem.erase j).contains m = rem.contains m := by
          rw [Bool.eq_iff_iff]
          simp only [List.contains_iff_mem]
          exact List.mem_erase_of_ne (fun h => e h.symm)
        rw [this]
    · simpa [lst] using hm
/-- a set of effects without order among them -/
theorem WD_set {q : Nat} (is : List Nat) (J : List Nat → World → Prop) (hq : Nat.ble 100000 (q + 3) = true) (his : bits (q + 3 - 100000) = is) (hnd : is.Nodup) (h0 : J is w)
    (step : ∀ rem j w', rem.Sublist is → j ∈ rem → J rem w' → ∃ o, ops[j]? = some o ∧ o.dst = none ∧ gdOk ops e o.guard ∧ OE P n o e w' (fun _ w'' => (StpB S w' w'' ∨ Lt.contains j = true) ∧ J (rem.erase j) w''))
    (fin : ∀ w', J [] w' → WD P n ops S Lt Q rest e w') : WD P n ops S Lt Q ((i, q + 3) :: rest) e w := by
  refine ⟨fun listed hs hB a ha => ?_⟩
  have hq' : ¬ q + 3 < 100000 := Nat.not_lt.2 (Nat.le_of_ble_eq_true hq)
  have hw : wt ((i, q + 3) :: rest) = is.length + wt rest := by simp only [wt]; rw [if_neg hq', his]
  rw [hw]
  simp only [checkD, checkS] at hB
  rw [if_neg (by simp), if_neg hq', his] at hB
  simp only [Bool.and_eq_true] at hB
  obtain ⟨_, hall, hrest⟩ := hB
  have hready : ∀ rem : List Nat, rem.Sublist is → 0 < rem.length → Region.ready .any ops (lst listed is rem) = rem := fun rem hr h0 => by
    have := List.all_eq_true.1 hall rem (subs_mem hr)
    cases rem with
    | nil => simp at h0
    | cons x r => simpa using this
  have key : ∀ (k : Nat) (rem : List Nat), rem.length = k → rem.Sublist is → ∀ w' a, Has n e a → J rem w' → wpAnyE P .any ops S (fun j => Lt.contains j) (fun a w => Q .normal a w) (k + wt rest) (lst listed is rem) a w' := by
    intro k
    induction k with
    | zero =>
      intro rem hl hr w' a ha hJ
      obtain rfl := List.length_eq_zero_iff.1 hl
      rw [Nat.zero_add]
      exact (fin w' hJ).h _ hs hrest a ha
    | succ k ih =>
      intro rem hl hr w' a ha hJ
      rw [show k + 1 + wt rest = (k + wt rest) + 1 by omega]
      refine ⟨fun h => ?_, fun j hj => ?_⟩
      · rw [hready rem hr (by omega)] at h
        subst h
        simp at hl
      · rw [hready rem hr (by omega)] at hj
        obtain ⟨o, hi, hdst, hg, hp⟩ := step rem j w' hr hj hJ
        unfold wpOp
        simp only [hi]
        rw [if_pos (wanted_ok ha hg)]
        refine .inl (Oper.wp_mono ?_ (hp.h a ha _))
        rintro a' w'' ⟨v, rfl, hs', hJ'⟩
        refine ⟨hs', ?_⟩
        rw [lst_step (hr.nodup hnd) hr hj, hdst]
        exact ih _ (by rw [List.length_erase_of_mem hj]; omega) (List.erase_sublist.trans hr) w'' _ ha hJ'
  have := key is.length is rfl (List.Sublist.refl _) w a ha h0
  rwa [lst_all] at this
theorem WD_only {o : Oper} {dst : Option Nat} {G : Value → World → Prop} (hi : ops[i]? = some o) (hdst : o.dst = dst) (hg : gdOk ops e o.guard) (hp : OE P n o e w (fun v w' => (StpB S w w' ∨ Lt.contains i = true) ∧ G v w'))
    (k : ∀ v w' a', G v w' → ∀ a, Has n e a → a' = a.put dst v → ∃ e', Has n e' a' ∧ WD P n ops S Lt Q rest e' w') : WD P n ops S Lt Q ((i, 2) :: rest) e w :=
  WD_one (WD1_mk hi hdst hg hp k)
/-- an effect that is passed over -/
theorem WD_pass2 (hi : ops[i]? = some ⟨some d, op, ty, pos, af, gd⟩) (hg : noB ops e gd = true) (hdn : Nat.blt d n = true)
    (k : WD P n ops S Lt Q rest ((d, undef) :: e) w) : WD P n ops S Lt Q ((i, 2) :: rest) e w := by
  refine WD_one ⟨fun listed hs h3 a ha => ?_⟩
  unfold wpOp
  simp only [hi]
  have hw := wanted_noB (o := ⟨some d, op, ty, pos, af, gd⟩) ha hg
  rw [if_neg (by simp [hw])]
  exact ⟨.inl (StpB.refl _ _), k.h _ hs h3 _ (ha.put (v := undef) hdn)⟩
theorem WD1_eff {G : Value → World → Prop} (hi : ops[i]? = some ⟨some d, op, ty, pos, af, gd⟩) (hg : gdOk ops e gd) (hp : OE P n ⟨some d, op, ty, pos, af, gd⟩ e w G) (hG : ∀ v w', G v w' → StpB S w w') (hdn : Nat.blt d n = true)
    (k : ∀ v w', G v w' → WD P n ops S Lt Q rest ((d, v) :: e) w') : WD1 P n ops S Lt Q i rest e w :=
  WD1_mk (G := G) hi rfl hg (hp.mono fun v w' h => ⟨.inl (hG v w' h), h⟩) (fun v w' a' h a ha e => ⟨_, by rw [e]; exact ha.put hdn, k v w' h⟩)
/-- the only one that is ready: it leaves the old blocks alone -/
theorem WD_eff {G : Value → World → Prop} (hi : ops[i]? = some ⟨some d, op, ty, pos, af, gd⟩) (hg : gdOk ops e gd) (hp : OE P n ⟨some d, op, ty, pos, af, gd⟩ e w G) (hG : ∀ v w', G v w' → StpB S w w') (hdn : Nat.blt d n = true)
    (k : ∀ v w', G v w' → WD P n ops S Lt Q rest ((d, v) :: e) w') : WD P n ops S Lt Q ((i, 2) :: rest) e w :=
  WD_only (G := G) hi rfl hg (hp.mono fun v w' h => ⟨.inl (hG v w' h), h⟩) (fun v w' a' h a ha e => ⟨_, by rw [e]; exact ha.put hdn, k v w' h⟩)
theorem WD_eff0 {G : Value → World → Prop} (hi : ops[i]? = some ⟨none, op, ty, pos, af, gd⟩) (hg : gdOk ops e gd) (hp : OE P n ⟨none, op, ty, pos, af, gd⟩ e w G) (hG : ∀ v w', G v w' → StpB S w w')
    (k : ∀ v w', G v w' → WD P n ops S Lt Q rest e w') : WD P n ops S Lt Q ((i, 2) :: rest) e w :=
  WD_only (G := G) hi rfl hg (hp.mono fun v w' h => ⟨.inl (hG v w' h), h⟩) (fun v w' a' h a ha e => ⟨_, by rw [e]; exact ha, k v w' h⟩)
/-- the only one that is ready: it is one of Lt -/
theorem WD_late {G : Value → World → Prop} (hi : ops[i]? = some ⟨some d, op, ty, pos, af, gd⟩) (hg : gdOk ops e gd) (hp : OE P n ⟨some d, op, ty, pos, af, gd⟩ e w G) (hL : Lt.contains i = true) (hdn : Nat.blt d n = true)
    (k : ∀ v w', G v w' → WD P n ops S Lt Q rest ((d, v) :: e) w') : WD P n ops S Lt Q ((i, 2) :: rest) e w :=
  WD_only (G := G) hi rfl hg (hp.mono fun v w' h => ⟨.inr hL, h⟩) (fun v w' a' h a ha e => ⟨_, by rw [e]; exact ha.put hdn, k v w' h⟩)
theorem WD_late0 {G : Value → World → Prop} (hi : ops[i]? = some ⟨none, op, ty, pos, af, gd⟩) (hg : gdOk ops e gd) (hp : OE P n ⟨none, op, ty, pos, af, gd⟩ e w G) (hL : Lt.contains i = true)
    (k : ∀ v w', G v w' → WD P n ops S Lt Q rest e w') : WD P n ops S Lt Q ((i, 2) :: rest) e w :=
  WD_only (G := G) hi rfl hg (hp.mono fun v w' h => ⟨.inr hL, h⟩) (fun v w' a' h a ha e => ⟨_, by rw [e]; exact ha, k v w' h⟩)
end rules
end Go.EngB

/-
The law of TypesSubstitutes: a part replaced by an expression of its type leaves the type as it is.
-/
namespace Go.Proofs.YtgpibcgebpgmiaaDoor
open Go Go.Eng Go.RowKit
set_option linter.unusedVariables false
theorem Row.anyX {X X' : List Nat} {w : World} {base T : Nat} {v : Value} {xs : List Int} (h : Row X w base T v xs) : Row X' w base T v xs := by
  obtain ⟨css, hl, hr, ho⟩ := h
  exact ⟨css, hl, fun i h1 h2 => hr i h1 h2, ho⟩
theorem usesR_len (x : Nd) : (usesR x).length ≤ 7 := by
  unfold usesR
  rw [List.length_map]
  exact Nat.le_trans (List.length_filter_le _ _) (by simp)
theorem buildSI0' (w : World) : (Instr.buildSlice 22 0 #[]).run Tryd.prog w = .ok (.slice (some ⟨w.heap.size, 0, none⟩) 0 0) (w.alloc (.cells #[] 3)) := by kernel_rfl
theorem PartR.usesR {m n a b : Nd} (h : PartR m n a b) {z : Int} (hz : z ∈ usesR b) : z ∈ usesR n ++ usesR m := by
  have hz0 := hz
  unfold Go.Proofs.YtgpibcgebpgmiaaDoor.usesR at hz
  simp only [List.mem_map, List.mem_filter, List.mem_range] at hz
  obtain ⟨i, ⟨hi, -⟩, rfl⟩ := hz
  rw [List.mem_append, usesR_mem i hi, usesR_mem i hi]
  exact h.uses _ ((usesR_mem i hi b).1 hz0)
theorem substLaw (lv bv : Value) (l lb : List Int) (kind at_ other m : Int) (w : World) (hF : SlV [] w flds fieldNames) (hm : w.cell? ⟨1, 0, none⟩ = some (.int .i64 m)) (hs : SlV [] w lv l) (hl : ∀ a ∈ l, I64 a) (hsb : SlV [] w bv lb) (hlb : ∀ a ∈ lb, I64 a) (hk : I64 kind) (ha : I64 at_) (ho : I64 other) :
    Calls Tryd.prog 3 #[lv, bv, .int .i64 kind, .int .i64 at_, .int .i64 other] w (Ret fun r w' => r = .bool true ∧ Stp [] w w') := by
  refine calls_of_WC5 (n := 109) Tryd.func3 rfl rfl rfl ?_
  refine W ?_
  refine WL_eff (OE_call rfl (evs3 rfl rfl rfl) (Expr_any [] lv l kind 5 5 _ (by decide) (by decide) rfl hk hs hl (by simp))) rfl ?_
  rintro _ w1 ⟨y, ⟨ky, rfl, hky⟩, hszy, ⟨hty, hny⟩, hS⟩
  refine WL_eff OE_alloc rfl ?_
  rintro _ w2 ⟨b11, rfl, hb11, e0, hT⟩
  refine WL_eff0 (OE_storeA (us := ndC y ky) rfl rfl rfl rfl (ndC_one hky) e0 rfl) ?_
  rintro _ w3 ⟨hT2, e11⟩
  replace hT := hT.own hT2 (fun b hb => .inr (by simp at hb; omega))
  clear hT2 e0 hb11
  replace hky := hky.up hT
  replace hS := hS.trans hT
  clear hT
  refine W ?_
  refine WL_eff (OE_call rfl (evs3 rfl rfl rfl) (Expr_any [] bv lb other 3 3 _ (by decide) (by decide) rfl ho (hsb.up hS) hlb (by simp))) rfl ?_
  rintro _ w4 ⟨z, ⟨kz, rfl, hkz⟩, hszz, ⟨htz, hnz⟩, hT⟩
  replace e11 := e11.up hT
  replace hky := hky.up hT
  replace hS := hS.trans hT
  clear hT
  refine WL_eff OE_alloc rfl ?_
  rintro _ w5 ⟨b12, rfl, hb12, e0, hT⟩
  have n12 : b12 ≠ b11 := by have := e11.lt; omega
  refine WL_eff0 (OE_storeA (us := ndC z kz) rfl rfl rfl rfl (ndC_one hkz) e0 rfl) ?_
  rintro _ w6 ⟨hT2, e12⟩
  replace hT := hT.own hT2 (fun b hb => .inr (by simp at hb; omega))
  clear hT2 e0 hb12
  replace e11 := e11.up hT
  replace hky := hky.up hT
  replace hkz := hkz.up hT
  replace hS := hS.trans hT
  clear hT
  have hNy : NdV [] w6 (.agg #[.int .i64 y.kind, .int .i64 y.num, str y.word, ky]) y := ⟨ky, rfl, hky⟩
  have hNz : NdV [] w6 (.agg #[.int .i64 z.kind, .int .i64 z.num, str z.word, kz]) z := ⟨kz, rfl, hkz⟩
  refine W ?_
  have hK : Keeps (fun w' D => Stp [] w6 w' ∧ ∀ c ∈ D, c < w'.heap.size ∧ w6.heap.size ≤ c) := fun w w' D D' hJ hS hD => ⟨hJ.1.trans hS, fun c hc => by
    rcases hD c hc with h | h
    · have := hJ.2 c h; have := hS.size; omega
    · have := hJ.1.size; omega⟩
  refine WC_drawnP 14 [⟨10, 13, 25, (.agg #[.int .i64 0, .int .i64 0, .string ByteArray.empty, .slice none 0 0])⟩, ⟨11, 14, 25, (.agg #[.int .i64 0, .int .i64 0, .string ByteArray.empty, .slice none 0 0])⟩] [12, 13] [(0,1),(1,0),(2,1),(5,1),(3,2),(4,2),(6,2),(7,0),(8,0),(9,0)] [(12,2),(13,2)] (fun w' D => Stp [] w6 w' ∧ ∀ c ∈ D, c < w'.heap.size ∧ w6.heap.size ≤ c) rfl mixed (by kernel_rfl) (by kernel_rfl) (by kernel_rfl) (by intro f hf; simp at hf; rcases hf with rfl | rfl <;> rfl) (fun w' hS' => ⟨hS', by simp⟩) ?_
  refine WP_with (F := [⟨10, 13, 25, (.agg #[.int .i64 0, .int .i64 0, .string ByteArray.empty, .slice none 0 0])⟩, ⟨11, 14, 25, (.agg #[.int .i64 0, .int .i64 0, .string ByteArray.empty, .slice none 0 0])⟩]) ⟨by intro f hf; simp at hf; rcases hf with rfl | rfl <;> exact ⟨_, _, _, rfl⟩, by intro f hf; simp at hf; rcases hf with rfl | rfl <;> exact inferInstance, by intro f hf; simp at hf; rcases hf with rfl | rfl <;> rfl, by show [10, 11].Nodup; decide, by intro f hf g hg h; simp at hf hg; rcases hf with rfl | rfl <;> rcases hg with rfl | rfl <;> first | rfl | cases h⟩ (fun hF' => ?_)
  refine WP_read hK rfl trivial (fun w D hJ => PR_load_blkA rfl rfl (e11.up hJ.1) rfl) rfl rfl ?_
  refine WP_free rfl trivial (fun w' => PR_move rfl) rfl rfl ?_
  refine WP_read hK rfl trivial (fun w D hJ => PR_load_blkA rfl rfl (e11.up hJ.1) rfl) rfl rfl ?_
  refine WP_read hK rfl trivial (fun w D hJ => PR_load_blkA rfl rfl (e12.up hJ.1) rfl) rfl rfl ?_
  refine WP_eff hF' hK (J' := fun v w' D => v = .int .i64 (sizeN y : Int) ∧ (Stp [] w6 w' ∧ ∀ c ∈ D, c < w'.heap.size ∧ w6.heap.size ≤ c)) rfl trivial
    (fun w D hJ => (OE_call rfl (evs1 rfl) (Size_any y _ _ _ (by omega) (hNy.up hJ.1))).mono (fun v w' ⟨h1, h2⟩ => ⟨h2, h1, hJ.1.trans h2, fun c hc => ⟨Nat.lt_of_lt_of_le (hJ.2 c hc).1 h2.size, (hJ.2 c hc).2⟩⟩)) rfl rfl ?_
  intro v1
  refine WP_and ?_
  rintro rfl
  have hpos := size_pos y
  refine WP_eff hF' hK (J' := fun v w' D => v = .int .i64 ((if at_ < 0 then -(at_ + 1) else at_) % (sizeN y : Int)) ∧ (Stp [] w6 w' ∧ ∀ c ∈ D, c < w'.heap.size ∧ w6.heap.size ≤ c)) rfl trivial
    (fun w D hJ => (OE_call rfl (evs2 rfl rfl) (Around01_any at_ (sizeN y : Int) _ (by omega) ha)).mono (fun v w' ⟨h1, h2⟩ => ⟨h2, h1, hJ.1.trans h2, fun c hc => ⟨Nat.lt_of_lt_of_le (hJ.2 c hc).1 h2.size, (hJ.2 c hc).2⟩⟩)) rfl rfl ?_
  intro v2
  refine WP_and ?_
  rintro rfl
  obtain ⟨a0, ha0, hat⟩ : ∃ a0 : Nat, a0 < sizeN y ∧ (if at_ < 0 then -(at_ + 1) else at_) % (sizeN y : Int) = (a0 : Int) := by
    have h1 := Int.emod_nonneg (if at_ < 0 then -(at_ + 1) else at_) (show (sizeN y : Int) ≠ 0 by omega)
    have h2 := Int.emod_lt_of_pos (if at_ < 0 then -(at_ + 1) else at_) (show (0 : Int) < sizeN y by omega)
    exact ⟨((if at_ < 0 then -(at_ + 1) else at_) % (sizeN y : Int)).toNat, by omega, by omega⟩
  rw [hat]
  refine WP_eff hF' hK (J' := fun v w' D => ∃ va vb a b, v = .tuple #[va, vb] ∧ PartR z y a b ∧ (Stp [] w6 w' ∧ (∀ c ∈ D, c < w'.heap.size ∧ w6.heap.size ≤ c) ∧ NdV D w' va a ∧ NdV D w' vb b)) rfl trivial
    (fun w D hJ => (OE_call rfl (evs3 rfl rfl rfl) (Part_any y z D _ _ w a0 ha0 (by omega) (fun c hc => (hJ.2 c hc).1) ⟨ky, rfl, hky.ext hJ.1 (by simp) (fun c hc => .inr (hJ.2 c hc).2)⟩ ⟨kz, rfl, hkz.ext hJ.1 (by simp) (fun c hc => .inr (hJ.2 c hc).2)⟩)).mono (fun v w' ⟨va, vb, a, b, h1, h2, h3, h4, h5⟩ => ⟨h5, va, vb, a, b, h1, h2, hJ.1.trans h5, fun c hc => ⟨Nat.lt_of_lt_of_le (hJ.2 c hc).1 h5.size, (hJ.2 c hc).2⟩, h3, h4⟩)) rfl rfl ?_
  intro vt
  refine WP_ex fun va => WP_ex fun vb => WP_ex fun pa => WP_ex fun pb => WP_and ?_
  rintro rfl
  refine WP_and fun hpr => ?_
  have hK2 : Keeps (fun w' D => Stp [] w6 w' ∧ (∀ c ∈ D, c < w'.heap.size ∧ w6.heap.size ≤ c) ∧ NdV D w' va pa ∧ NdV D w' vb pb) := fun w w' D D' hJ hS hD => by
    have hsub : ∀ c ∈ D', c ∈ D ∨ w.heap.size ≤ c := fun c hc => (hD c hc).imp id (fun h => h.1)
    exact ⟨hJ.1.trans hS, fun c hc => by
      rcases hD c hc with h | h
      · have := hJ.2.1 c h; have := hS.size; omega
      · have := hJ.1.size; omega, hJ.2.2.1.ext hS (by simp) hsub, hJ.2.2.2.ext hS (by simp) hsub⟩
  refine WP_free rfl trivial (fun w' => PR_move rfl) rfl rfl ?_
  refine WP_free rfl trivial (fun w' => PR_extract rfl rfl) rfl rfl ?_
  refine WP_free rfl trivial (fun w' => PR_extract rfl rfl) rfl rfl ?_
  refine WP_join2 hF' hK2 (by decide) ?_
  rintro w11 DD b13 b14 ⟨hT1, hD, ⟨ka, rfl, hka⟩, ⟨kb, rfl, hkb⟩⟩ d13 d14 n13 hblk13 hblk14
  have hD13 := hD b13 d13
  have hD14 := hD b14 d14
  refine WD_late0 rfl trivial (OE_storeA (us := ndC pa ka) rfl rfl rfl rfl (ndC_one hka) hblk13 rfl) rfl ?_
  rintro _ w12 ⟨hT2, hq13⟩
  have hq14 := hblk14.ext hT2 (by simp; exact fun h => n13 h.symm)
  replace hka := hka.ext (X' := DD) hT2 (fun c hc => by simp at hc; subst hc; exact d13) (fun c hc => .inl hc)
  replace hkb := hkb.ext (X' := DD) hT2 (fun c hc => by simp at hc; subst hc; exact d13) (fun c hc => .inl hc)
  replace hT1 := hT1.own hT2 (fun c hc => by simp at hc; subst hc; exact .inr hD13.2)
  clear hT2 hblk13 hblk14
  refine WD_late0 rfl trivial (OE_storeA (us := ndC pb kb) rfl rfl rfl rfl (ndC_one hkb) hq14 rfl) rfl ?_
  rintro _ w13 ⟨hT2, e14⟩
  have e13 := hq13.ext hT2 (by simp; exact n13)
  replace hka := hka.ext (X' := []) hT2 (fun c hc => by simp at hc; subst hc; exact d14) (fun c hc => by cases hc)
  replace hkb := hkb.ext (X' := []) hT2 (fun c hc => by simp at hc; subst hc; exact d14) (fun c hc => by cases hc)
  replace hT1 := hT1.own hT2 (fun c hc => by simp at hc; subst hc; exact .inr hD14.2)
  replace e11 := e11.up hT1
  replace e12 := e12.up hT1
  replace hNy := hNy.up hT1
  replace hNz := hNz.up hT1
  have hNa : NdV [] w13 (.agg #[.int .i64 pa.kind, .int .i64 pa.num, str pa.word, ka]) pa := ⟨ka, rfl, hka⟩
  have hNb : NdV [] w13 (.agg #[.int .i64 pb.kind, .int .i64 pb.num, str pb.word, kb]) pb := ⟨kb, rfl, hkb⟩
  replace hS := hS.trans hT1
  clear hT1 hT2 hq13 hq14 hD hD13 hD14 d13 d14 n13 hK hK2 hF' hka hkb hky hkz
  have hps := hpr.size
  have hpn := hpr.nest
  have hty0 : typeT y ≠ 0 := by rw [hty]; exact kindT_ne kind
  have htz0 : typeT z ≠ 0 := by rw [htz]; exact kindT_ne other
  have hta0 : typeT pa ≠ 0 := hpr.type hty0
  have hny12 : nestN y ≤ 12 := by omega
  have hnz12 : nestN z ≤ 12 := by omega
  have hna12 : nestN pa ≤ 12 := by omega
  have hnb12 : nestN pb ≤ 12 := by omega
  refine D ?_
  refine W ?_
  refine WL_eff (OE_call rfl (evs1 rfl) (Of_any [] [] _ y _ hNy (hF.up hS))) rfl ?_
  rintro _ w14 ⟨rfl, hT⟩
  replace e11 := e11.up hT
  replace e12 := e12.up hT
  replace e13 := e13.up hT
  replace e14 := e14.up hT
  replace hNy := hNy.up hT
  replace hNz := hNz.up hT
  replace hNa := hNa.up hT
  replace hNb := hNb.up hT
  replace hS := hS.trans hT
  clear hT
  rw [if_pos hny12, if_pos hny12]
  rw [if_neg hty0]
  refine W ?_
  refine WL_eff (OE_call rfl (evs1 rfl) (Of_any [] [] _ pa _ hNa (hF.up hS))) rfl ?_
  rintro _ w15 ⟨rfl, hT⟩
  replace e11 := e11.up hT
  replace e12 := e12.up hT
  replace e13 := e13.up hT
  replace e14 := e14.up hT
  replace hNy := hNy.up hT
  replace hNz := hNz.up hT
  replace hNa := hNa.up hT
  replace hNb := hNb.up hT
  replace hS := hS.trans hT
  clear hT
  rw [if_pos hna12, if_pos hna12]
  rw [if_neg hta0]
  refine W ?_
  refine WL_eff (OE_call rfl (evs1 rfl) (Of_any [] [] _ z _ hNz (hF.up hS))) rfl ?_
  rintro _ w16 ⟨rfl, hT⟩
  replace e11 := e11.up hT
  replace e12 := e12.up hT
  replace e13 := e13.up hT
  replace e14 := e14.up hT
  replace hNy := hNy.up hT
  replace hNz := hNz.up hT
  replace hNa := hNa.up hT
  replace hNb := hNb.up hT
  replace hS := hS.trans hT
  clear hT
  rw [if_pos hnz12, if_pos hnz12]
  rw [if_neg htz0]
  repeat' (first | refine W1 ?_ | (exfalso; omega) | refine WL_split rfl rfl (fun hg => ?_) (fun hg => ?_) | refine WL_splitB rfl rfl (fun hg => ?_) (fun hg => ?_) | refine WC_cond rfl (fun hc => ?_) (fun hc => ?_) | refine WC_condB rfl (fun hc => ?_) (fun hc => ?_))
  refine WL_eff (OE_call rfl (evs1 rfl) (Of_any [] [] _ pb _ hNb (hF.up hS))) rfl ?_
  rintro _ w17 ⟨rfl, hT⟩
  replace e11 := e11.up hT
  replace e12 := e12.up hT
  replace e13 := e13.up hT
  replace e14 := e14.up hT
  replace hNy := hNy.up hT
  replace hNz := hNz.up hT
  replace hNa := hNa.up hT
  replace hNb := hNb.up hT
  replace hS := hS.trans hT
  clear hT
  rw [if_pos hnb12, if_pos hnb12]
  refine W ?_
  refine WL_eff (OE_call rfl (evs1 rfl) (Uses_any pb _ _ (okN_of_size _ (by omega)) hNb (hF.up hS))) rfl ?_
  rintro uv w18 ⟨hrow, hT⟩
  have huv : SlV [] w18 uv (usesR pb) := by rw [← uses_eq]; exact hrow.slv0
  clear hrow
  replace e11 := e11.up hT
  replace e12 := e12.up hT
  replace e13 := e13.up hT
  replace e14 := e14.up hT
  replace hNy := hNy.up hT
  replace hNz := hNz.up hT
  replace hNa := hNa.up hT
  replace hNb := hNb.up hT
  replace hS := hS.trans hT
  clear hT
  have l11 := e11.lt
  have l12 := e12.lt
  have y7 := usesR_len y
  have z7 := usesR_len z
  have b7 := usesR_len pb
  have hsame := hpr.same
  have hmem : ∀ c ∈ usesR pb, c ∈ usesR y ++ usesR z := fun c hc => hpr.usesR hc
  refine W ?_
  refine WC_cutQ (σ := Value) (fun q => [(15, .int .i64 (typeT y)), (17, .int .i64 (typeT pa)), (19, .int .i64 (typeT z)), (21, .int .i64 (typeT pb)), (22, .int .i64 (if typeT pb = 0 then 21 else 0)), (23, uv), (24, q)]) (fun q w' => SlV [] w' q (usesR y ++ usesR z) ∧ Stp [] w18 w') ?_ ?_
  · refine Go.EngB.WC_drawn 8 (w18.heap.size, []) [] [(1,1),(4,1),(0,5),(2,2),(3,2),(5,2),(6,2),(7,0)] rfl mixed (by kernel_rfl) (by kernel_rfl) (by kernel_rfl) (fun w19 hW => ?_)
    refine Go.EngB.WD_read rfl trivial (fun w' hS' => PR_load_blkA rfl rfl (hS'.blk (e11.up hW) l11) rfl) rfl ?_
    refine Go.EngB.WD_read rfl trivial (fun w' hS' => PR_load_blkA rfl rfl (hS'.blk (e12.up hW) l12) rfl) rfl ?_
    apply Go.EngB.WD_two
    · rfl
    · refine Go.EngB.WD1_eff rfl trivial (OE_buildSlice (vs := []) rfl buildSI0') (fun _ _ h => Go.EngB.StpB.of (NewSl.stp h) hW.size (by simp)) rfl ?_
      rintro s0 w20 hN
      have hrow0 : Row [] w20 w18.heap.size 3 s0 ([] : List Int) := hN.row hW.size rfl rfl (by simp [maxLen])
      have hT := NewSl.stp hN
      replace hW := hW.trans hT
      clear hT hN
      refine Go.EngB.WD_eff rfl trivial (OE_call rfl (evs1 rfl) (Uses_any y _ _ (okN_of_size _ (by omega)) (hNy.up hW) (hF.up (hS.trans hW)))) (fun _ _ h => Go.EngB.StpB.of h.2 hW.size (by simp)) rfl ?_
      rintro u1 w21 ⟨hr1, hT⟩
      have hu1 : SlV (ob s0 ++ []) w21 u1 (usesR y) := by
        rw [← uses_eq]
        exact (Row.anyX hr1).slvX (fun b hb hb' => by
          rw [List.append_nil] at hb
          have h1 := (hrow0.ob_le b hb).2
          have h2 := (hr1.ob_le b hb').1
          omega)
      replace hrow0 := hrow0.up hT
      replace hW := hW.trans hT
      clear hT hr1

      refine Go.EngB.WD_eff rfl trivial (OE_append (X := []) (base := w18.heap.size) rfl (by decide) rfl rfl hrow0 hu1 (by simp only [List.length_nil]; omega) (by simp only [List.length_nil, maxLen]; omega) hW.size) (fun _ _ h => Go.EngB.StpB.of h.2.1 hW.size (fun b hb => (hrow0.ob_le b hb).1)) rfl ?_
      rintro nv w22 ⟨hrow1, hT, -⟩
      replace hW := hW.own hT (fun b hb => .inr (hrow0.ob_le b hb).1)
      clear hT hu1 hrow0
      refine Go.EngB.WD_eff rfl trivial (OE_call rfl (evs1 rfl) (Uses_any z _ _ (okN_of_size _ (by omega)) (hNz.up hW) (hF.up (hS.trans hW)))) (fun _ _ h => Go.EngB.StpB.of h.2 hW.size (by simp)) rfl ?_
      rintro u2 w23 ⟨hr2, hT⟩
      have hu2 : SlV (ob nv ++ []) w23 u2 (usesR z) := by
        rw [← uses_eq]
        exact (Row.anyX hr2).slvX (fun b hb hb' => by
          rw [List.append_nil] at hb
          have h1 := (hrow1.ob_le b hb).2
          have h2 := (hr2.ob_le b hb').1
          omega)
      replace hrow1 := hrow1.up hT
      replace hW := hW.trans hT
      clear hT hr2
      refine Go.EngB.WD_eff rfl trivial (OE_append (X := []) (base := w18.heap.size) rfl (by decide) rfl rfl hrow1 hu2 (by simp only [List.nil_append]; omega) (by simp only [List.nil_append, maxLen]; omega) hW.size) (fun _ _ h => Go.EngB.StpB.of h.2.1 hW.size (fun b hb => (hrow1.ob_le b hb).1)) rfl ?_
      rintro kv w24 ⟨hrow2, hT, -⟩
      replace hW := hW.own hT (fun b hb => .inr (hrow1.ob_le b hb).1)
      clear hT hu2 hrow1
      refine Go.EngB.WD_free rfl trivial (fun w' => PR_assign rfl) rfl ?_
      refine Go.EngB.WD_nil ?_
      have hkv : SlV [] w24 kv (usesR y ++ usesR z) := hrow2.slv0
      clear hrow2
      exact WQ_cut kv ⟨rfl, rfl, rfl, rfl, rfl, rfl, rfl, trivial⟩ ⟨hkv, hW⟩

    · refine Go.EngB.WD1_eff rfl trivial (OE_call rfl (evs1 rfl) (Uses_any y _ _ (okN_of_size _ (by omega)) (hNy.up hW) (hF.up (hS.trans hW)))) (fun _ _ h => Go.EngB.StpB.of h.2 hW.size (by simp)) rfl ?_
      rintro u1 w20 ⟨hr1, hT⟩
      replace hW := hW.trans hT
      clear hT
      refine Go.EngB.WD_eff rfl trivial (OE_buildSlice (vs := []) rfl buildSI0') (fun _ _ h => Go.EngB.StpB.of (NewSl.stp h) hW.size (by simp)) rfl ?_
      rintro s0 w21 hN
      have hrow0 : Row [] w21 w18.heap.size 3 s0 ([] : List Int) := hN.row hW.size rfl rfl (by simp [maxLen])
      have hrow00 : Row [] w21 w20.heap.size 3 s0 ([] : List Int) := hN.row (Nat.le_refl _) rfl rfl (by simp [maxLen])
      have hT := NewSl.stp hN
      have hu1 : SlV (ob s0 ++ []) w21 u1 (usesR y) := by
        rw [← uses_eq]
        exact (Row.anyX (hr1.up hT)).slvX (fun b hb hb' => by
          rw [List.append_nil] at hb
          have h1 := (hrow00.ob_le b hb).1
          have h2 := (hr1.ob_le b hb').2
          omega)
      replace hW := hW.trans hT
      clear hT hN hr1 hrow00

      refine Go.EngB.WD_eff rfl trivial (OE_append (X := []) (base := w18.heap.size) rfl (by decide) rfl rfl hrow0 hu1 (by simp only [List.length_nil]; omega) (by simp only [List.length_nil, maxLen]; omega) hW.size) (fun _ _ h => Go.EngB.StpB.of h.2.1 hW.size (fun b hb => (hrow0.ob_le b hb).1)) rfl ?_
      rintro nv w22 ⟨hrow1, hT, -⟩
      replace hW := hW.own hT (fun b hb => .inr (hrow0.ob_le b hb).1)
      clear hT hu1 hrow0
      refine Go.EngB.WD_eff rfl trivial (OE_call rfl (evs1 rfl) (Uses_any z _ _ (okN_of_size _ (by omega)) (hNz.up hW) (hF.up (hS.trans hW)))) (fun _ _ h => Go.EngB.StpB.of h.2 hW.size (by simp)) rfl ?_
      rintro u2 w23 ⟨hr2, hT⟩
      have hu2 : SlV (ob nv ++ []) w23 u2 (usesR z) := by
        rw [← uses_eq]
        exact (Row.anyX hr2).slvX (fun b hb hb' => by
          rw [List.append_nil] at hb
          have h1 := (hrow1.ob_le b hb).2
          have h2 := (hr2.ob_le b hb').1
          omega)
      replace hrow1 := hrow1.up hT
      replace hW := hW.trans hT
      clear hT hr2
      refine Go.EngB.WD_eff rfl trivial (OE_append (X := []) (base := w18.heap.size) rfl (by decide) rfl rfl hrow1 hu2 (by simp only [List.nil_append]; omega) (by simp only [List.nil_append, maxLen]; omega) hW.size) (fun _ _ h => Go.EngB.StpB.of h.2.1 hW.size (fun b hb => (hrow1.ob_le b hb).1)) rfl ?_
      rintro kv w24 ⟨hrow2, hT, -⟩
      replace hW := hW.own hT (fun b hb => .inr (hrow1.ob_le b hb).1)
      clear hT hu2 hrow1
      refine Go.EngB.WD_free rfl trivial (fun w' => PR_assign rfl) rfl ?_
      refine Go.EngB.WD_nil ?_
      have hkv : SlV [] w24 kv (usesR y ++ usesR z) := hrow2.slv0
      clear hrow2
      exact WQ_cut kv ⟨rfl, rfl, rfl, rfl, rfl, rfl, rfl, trivial⟩ ⟨hkv, hW⟩

  rintro kv w24 ⟨hkv, hW⟩
  replace huv := huv.up hW
  replace hS := hS.trans hW
  clear hW e11 e12 e13 e14 hNy hNz hNa hNb
  have hum := huv.max
  refine W ?_
  refine WC_loop (σ := Nat) (fun q => [(15, .int .i64 (typeT y)), (17, .int .i64 (typeT pa)), (19, .int .i64 (typeT z)), (21, .int .i64 (typeT pb)), (22, .int .i64 (if typeT pb = 0 then 21 else 0)), (23, uv), (24, kv), (25, .int .i64 (q : Int))]) (fun q w' => q ≤ (usesR pb).length ∧ SlV [] w' uv (usesR pb) ∧ SlV [] w' kv (usesR y ++ usesR z) ∧ Stp [] w w') (fun q => (usesR pb).length - q) 0 ⟨rfl, rfl, rfl, rfl, rfl, rfl, rfl, rfl, trivial⟩ ⟨by omega, huv, hkv, hS⟩ ?_
  clear huv hkv hS
  rintro q w25 ⟨hq, huv, hkv, hS⟩
  by_cases hlt : q < (usesR pb).length
  · repeat' (first | refine W1 ?_ | (exfalso; omega) | refine WL_split rfl rfl (fun hg => ?_) (fun hg => ?_) | refine WL_splitB rfl rfl (fun hg => ?_) (fun hg => ?_) | refine WC_cond rfl (fun hc => ?_) (fun hc => ?_) | refine WC_condB rfl (fun hc => ?_) (fun hc => ?_))
    refine WL_eff (OE_call rfl (evs2 rfl rfl) (has01_any kv _ (usesR pb)[q] _ hkv)) rfl ?_
    rintro _ w26 ⟨rfl, hT⟩
    rw [decide_eq_true (hmem _ (List.getElem_mem hlt))]
    repeat' (first | refine W1 ?_ | (exfalso; omega) | refine WL_split rfl rfl (fun hg => ?_) (fun hg => ?_) | refine WL_splitB rfl rfl (fun hg => ?_) (fun hg => ?_) | refine WC_cond rfl (fun hc => ?_) (fun hc => ?_) | refine WC_condB rfl (fun hc => ?_) (fun hc => ?_))
    exact WQ_loop (q + 1) ⟨rfl, rfl, rfl, rfl, rfl, rfl, rfl, rfl, trivial⟩ ⟨by omega, huv.up hT, hkv.up hT, hS.trans hT⟩ (by omega)
  · by_cases he : typeT pa = typeT z
    · have hbt : typeT pb = typeT y := hsame he
      have hb0 : ¬ typeT pb = 0 := by rw [hbt]; exact hty0
      simp only [if_neg hb0]
      repeat' (first | refine W1 ?_ | (exfalso; omega) | refine WL_split rfl rfl (fun hg => ?_) (fun hg => ?_) | refine WL_splitB rfl rfl (fun hg => ?_) (fun hg => ?_) | refine WC_cond rfl (fun hc => ?_) (fun hc => ?_) | refine WC_condB rfl (fun hc => ?_) (fun hc => ?_))
      all_goals try (exact absurd rfl (by assumption))
      refine WL_eff (OE_call rfl evs0 (lives14_any m _ (hF.up hS) (hS.cell (by simp) hm))) rfl ?_
      rintro _ w27 ⟨rfl, hT⟩
      refine W ?_
      first | refine WQ_ret1 rfl rfl ?_ | refine WQ_ret2 rfl rfl rfl ?_ | refine WQ_ret3 rfl rfl rfl rfl ?_ | refine WQ_ret0 rfl ?_ | refine WQ_end0 rfl ?_
      exact .mk ⟨rfl, hS.trans hT⟩
    · repeat' (first | refine W1 ?_ | (exfalso; omega) | refine WL_split rfl rfl (fun hg => ?_) (fun hg => ?_) | refine WL_splitB rfl rfl (fun hg => ?_) (fun hg => ?_) | refine WC_cond rfl (fun hc => ?_) (fun hc => ?_) | refine WC_condB rfl (fun hc => ?_) (fun hc => ?_))
      all_goals try (exact absurd rfl (by assumption))
      refine WL_eff (OE_call rfl evs0 (lives14_any m _ (hF.up hS) (hS.cell (by simp) hm))) rfl ?_
      rintro _ w27 ⟨rfl, hT⟩
      refine W ?_
      first | refine WQ_ret1 rfl rfl ?_ | refine WQ_ret2 rfl rfl rfl ?_ | refine WQ_ret3 rfl rfl rfl rfl ?_ | refine WQ_ret0 rfl ?_ | refine WQ_end0 rfl ?_
      exact .mk ⟨rfl, hS.trans hT⟩
end Go.Proofs.YtgpibcgebpgmiaaDoor
