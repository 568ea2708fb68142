/-
Merged by program out of own texts: Cty1, Cty2, Cpt1.
-/
import Derived.Test.YtgpibcgebpgmiaaDoorM5

namespace Go.Proofs.YtgpibcgebpgmiaaDoor
open Go Go.Eng Go.RowKit
set_option linter.unusedVariables false
set_option linter.unusedSimpArgs false
theorem sig_mem {x : Sig} (h : sigI x ≠ 0) : (x, Value.int .i64 (sigI x)) ∈ sigs := by
  have hs := sigF_int x
  unfold sigI sigF mget at *
  cases hf : sigs.find? (fun p => decide (p.1 = x)) with
  | none => rw [hf] at h; simp at h
  | some p =>
    have h1 := List.mem_of_find?_eq_some hf
    have h2 := List.find?_some hf
    simp only [decide_eq_true_eq] at h2
    rw [hf] at hs
    simp only at hs ⊢
    rw [← hs, ← h2]
    exact h1
theorem sig_cases {x : Sig} (h : sigI x ≠ 0) : ∃ e ∈ sigs, x = e.1 ∧ e.2 = .int .i64 (sigI x) := ⟨_, sig_mem h, rfl, rfl⟩
theorem ts_of {ts : List Int} (h0 : (0 : Int) ∉ ts) (h3 : ts.length ≤ 3) (hn : ts ≠ []) (h2 : ts.getD 2 0 = 0) : (ts.getD 1 0 = 0 ∧ ts = [ts.getD 0 0]) ∨ (ts.getD 1 0 ≠ 0 ∧ ts = [ts.getD 0 0, ts.getD 1 0]) := by
  match ts, h3 with
  | [], _ => exact absurd rfl hn
  | [a], _ => left; exact ⟨rfl, rfl⟩
  | [a, b], _ => right; refine ⟨fun hb => h0 ?_, rfl⟩; simp at hb; simp [hb]
  | [a, b, c], _ => exact absurd (by simp at h2; simp [h2]) h0
theorem combT_cases {k n : Int} {s : Str} {ts : List Int} (h : combT k n s ts ≠ 0) :
    (ts = [] ∧ combT k n s ts = leafN k n s) ∨
    ((0 : Int) ∉ ts ∧ ts.length ≤ 3 ∧ ts ≠ [] ∧ ((k = 9 ∧ ts = [2, combT k n s ts, combT k n s ts]) ∨ (k = 6 ∧ ts.getD 2 0 = 0 ∧ combT k n s ts = binT s (ts.getD 0 0) (ts.getD 1 0)) ∨ (combT k n s ts = sigI ⟨k, s, ts.getD 0 0, ts.getD 1 0, ts.getD 2 0⟩))) := by
  unfold combT at h ⊢
  split at h
  · exact absurd rfl h
  · rename_i h3
    split at h
    · exact absurd rfl h
    · rename_i h0
      rw [if_neg h3, if_neg h0]
      split at h
      · rename_i he
        left
        exact ⟨he, by rw [if_pos he]⟩
      · rename_i he
        right
        rw [if_neg he]
        refine ⟨h0, by omega, he, ?_⟩
        split at h
        · exact absurd rfl h
        · rename_i hn
          rw [if_neg hn]
          split at h
          · rename_i h9
            left
            rw [if_pos h9]
            refine ⟨h9.1, ?_⟩
            obtain ⟨_, _, e2, e3⟩ := h9
            match ts, h3 with
            | [], _ => exact absurd rfl he
            | [a], _ => simp at e2 e3 h
            | [a, b], _ => simp at e2 e3 h; exact absurd e3 h
            | [a, b, c], _ => simp at e2 e3 ⊢; exact ⟨e2, e3.symm⟩
            | a :: b :: c :: d :: r, h3 => simp at h3
          · rename_i h9
            rw [if_neg h9]
            split at h
            · rename_i h6
              right; left
              rw [if_pos h6]
              exact ⟨h6.1, h6.2, rfl⟩
            · rename_i h6
              right; right
              rw [if_neg h6]
theorem len2 {α : Type} {l : List α} (h : l.length = 2) : ∃ a b, l = [a, b] := by
  match l, h with
  | [a, b], _ => exact ⟨a, b, rfl⟩
theorem len3 {α : Type} {l : List α} (h : l.length = 3) : ∃ a b c, l = [a, b, c] := by
  match l, h with
  | [a, b, c], _ => exact ⟨a, b, c, rfl⟩
theorem codeN_ne (x : Nd) : typeT x ≠ 0 → ∀ p, codeN x p ≠ [] := by
  induction x using Nd.ind with
  | h k n s l ih =>
  intro ht p
  have hk : ∀ y ∈ l, typeT y ≠ 0 := fun y hy => typeT_kid (x := .mk k n s l) ht hy
  rw [codeN]
  unfold combC
  have hp : ∀ p, l ≠ [] → plainC k s (l.map codeN) p ≠ [] := by
    intro p hl
    unfold plainC
    cases l with
    | nil => exact absurd rfl hl
    | cons y r =>
      have := ih y (by simp) (hk y (by simp)) p
      simp only [List.map_cons, seqC]
      intro h
      simp only [List.append_eq_nil_iff] at h
      exact this h.1.1.1
  split
  · simp
  · rename_i hl
    have hl' : l ≠ [] := fun h => hl (by rw [h]; rfl)
    split
    · unfold chC; simp
    · split
      · unfold chC; simp
      · split
        · unfold chC; simp
        · split
          · simp
          · exact hp p hl'
theorem runs_seq {C : List Ins} : ∀ (l : List Nd), (∀ y ∈ l, ∀ p s, Seg C p (codeN y p) → s.length + nestN y ≤ 16 → Runs C p (codeN y p) s (s ++ [typeT y])) → (∀ y ∈ l, ∀ p, codeN y p ≠ []) →
    ∀ p s, l ≠ [] → Seg C p (seqC (l.map codeN) p) → (∀ y ∈ l, s.length + (l.length - 1) + nestN y ≤ 16) → Runs C p (seqC (l.map codeN) p) s (s ++ l.map typeT)
  | [], _, _, _, _, h, _, _ => absurd rfl h
  | [y], hr, hne, p, s, _, hs, hb => by
    have e : seqC ([y].map codeN) p = codeN y p := by simp [seqC]
    rw [e] at hs ⊢
    exact hr y (by simp) p s hs (by have := hb y (by simp); simpa using this)
  | y :: z :: l, hr, hne, p, s, _, hs, hb => by
    have e : seqC ((y :: z :: l).map codeN) p = codeN y p ++ seqC ((z :: l).map codeN) (p + (codeN y p).length) := by simp [seqC]
    rw [e] at hs ⊢
    have h1 := hr y (by simp) p s hs.left (by have := hb y (by simp); omega)
    have h2 := runs_seq (z :: l) (fun y hy => hr y (by simp [hy])) (fun y hy => hne y (by simp [hy])) (p + (codeN y p).length) (s ++ [typeT y]) (by simp) hs.right (fun w hw => by
      have := hb w (by simp [hw])
      simp only [List.length_append, List.length_cons, List.length_nil] at this ⊢
      omega)
    have h3 : seqC ((z :: l).map codeN) (p + (codeN y p).length) ≠ [] := by
      simp only [List.map_cons, seqC]
      intro h
      simp only [List.append_eq_nil_iff] at h
      exact hne z (by simp) _ h.1
    have := Runs.app h1 h2 (hne y (by simp) p) h3
    simpa using this
/-- kids, and operations behind them -/
theorem runs_plain {C : List Ins} {l : List Nd} {L : List Ins} {p : Nat} {s ts r : Shp} (hr : ∀ y ∈ l, ∀ p s, Seg C p (codeN y p) → s.length + nestN y ≤ 16 → Runs C p (codeN y p) s (s ++ [typeT y])) (hne : ∀ y ∈ l, ∀ p, codeN y p ≠ [])
    (hts : l.map typeT = ts) (hl : l ≠ []) (hL : L ≠ []) (hs : Seg C p (seqC (l.map codeN) p ++ L)) (hb : ∀ y ∈ l, s.length + (l.length - 1) + nestN y ≤ 16) (ho : ∀ x ∈ L, x.op ≠ 24 ∧ x.op ≠ 13 ∧ x.op ≠ 14) (hf : foldB 2 L ts = some r) (h2 : s.length + 2 ≤ 16) :
    Runs C p (seqC (l.map codeN) p ++ L) s (s ++ r) := by
  have h1 := runs_seq l hr hne p s hl hs.left hb
  rw [hts] at h1
  have h3 : seqC (l.map codeN) p ≠ [] := by
    cases l with
    | nil => exact absurd rfl hl
    | cons y l =>
      simp only [List.map_cons, seqC]
      intro h
      simp only [List.append_eq_nil_iff] at h
      exact hne y (by simp) _ h.1
  exact Runs.app h1 (runs_line 2 L _ s ts r hL hs.right ho hf h2) h3 hL
def extraL (k : Int) (s : Str) : List Ins := (if k = 8 ∨ k = 5 ∧ s = [45] then [⟨8, 0⟩] else []) ++ insO (opF s)
theorem plainC_eq (k : Int) (s : Str) (cs : List Cf) (p : Nat) : plainC k s cs p = seqC cs p ++ extraL k s := by unfold plainC extraL; rw [List.append_assoc]
def okL (L : List Ins) (ts : List Int) (t : Int) : Bool := decide (L ≠ []) && L.all (fun x => decide (x.op ≠ 24 ∧ x.op ≠ 13 ∧ x.op ≠ 14)) && decide (foldB 2 L ts = some [t])
theorem okL_spec {L : List Ins} {ts : List Int} {t : Int} (h : okL L ts t = true) : L ≠ [] ∧ (∀ x ∈ L, x.op ≠ 24 ∧ x.op ≠ 13 ∧ x.op ≠ 14) ∧ foldB 2 L ts = some [t] := by
  unfold okL at h
  simp only [Bool.and_eq_true, decide_eq_true_eq, List.all_eq_true] at h
  exact ⟨h.1.1, h.1.2, h.2⟩
/-- every row of the table of signatures: its operations have its types -/
def sigOk (e : SigE) : Bool :=
  match e.2 with
  | .int .i64 t => decide (e.1.kind ≠ 9) && decide (e.1.kind ≠ 6) && decide (e.1.c = 0) && okL (extraL e.1.kind e.1.s) (if e.1.b = 0 then [e.1.a] else [e.1.a, e.1.b]) t
  | _ => false
theorem sigs_ok : sigs.all sigOk = true := by decide +kernel
theorem arith_ok : opsA.all (fun s => okL (extraL 6 s ++ (if s = [45] then [⟨6, 0⟩] else [])) [1, 1] 1 && !decide (s = [97, 110, 100]) && !decide (s = [111, 114])) = true := by decide +kernel
theorem comp_ok : opsC.all (fun s => okL (extraL 6 s) [1, 1] 2 && okL (extraL 6 s) [3, 3] 2 && !decide (s = [97, 110, 100]) && !decide (s = [111, 114]) && !decide (s = [45])) = true := by decide +kernel
theorem code_runs (C : List Ins) (x : Nd) : typeT x ≠ 0 → ∀ p s, Seg C p (codeN x p) → s.length + nestN x ≤ 16 → Runs C p (codeN x p) s (s ++ [typeT x]) := by
  induction x using Nd.ind with
  | h k n s l ih =>
  intro ht p sh hs hb
  have hk : ∀ y ∈ l, typeT y ≠ 0 := fun y hy => typeT_kid (x := .mk k n s l) ht hy
  have hr : ∀ y ∈ l, ∀ p s, Seg C p (codeN y p) → s.length + nestN y ≤ 16 → Runs C p (codeN y p) s (s ++ [typeT y]) := fun y hy => ih y hy (hk y hy)
  have hne : ∀ y ∈ l, ∀ p, codeN y p ≠ [] := fun y hy => codeN_ne y (hk y hy)
  have hnest : ∀ y ∈ l, nestN y + 1 ≤ nestN (.mk k n s l) := fun y hy => by have := nest_kid (x := .mk k n s l) hy; omega
  have hrange := typeT_range (.mk k n s l)
  have hteq : typeT (.mk k n s l) = combT k n s (l.map typeT) := typeT_eq _
  rw [codeN] at hs ⊢
  rw [hteq] at ht hrange ⊢
  rcases combT_cases ht with ⟨he, hc⟩ | ⟨h0, h3, hn0, hc⟩
  · -- a leaf
    have hl : l = [] := by simpa using he
    subst hl
    unfold combC at hs ⊢
    rw [if_pos (show (List.map codeN ([] : List Nd)).length = 0 from rfl)] at hs ⊢
    rw [hc] at ht ⊢
    have hlen : sh.length + 1 ≤ 16 := by
      have : 1 ≤ nestN (.mk k n s []) := by rw [nestN_eq]; omega
      omega
    refine runs_one hs ?_ ?_ ?_ ?_
    · unfold leafI; split <;> (try split) <;> (try split) <;> simp
    · unfold leafI; split <;> (try split) <;> (try split) <;> simp
    · unfold leafI; split <;> (try split) <;> (try split) <;> simp
    · have hnx : nextM (leafI k n s) [] = some [leafN k n s] := by
        unfold leafN at ht ⊢
        unfold leafI
        by_cases k4 : k = 4
        · subst k4
          rw [if_pos rfl] at ht ⊢
          split at ht
          · rename_i hn
            rw [if_pos hn]
            have hf : ((fieldF s).2.1 = 3 ∧ ((fieldF s).1 = 0 ∨ (fieldF s).1 = 1)) ∨ ((fieldF s).2.1 = 1 ∧ 2 ≤ (fieldF s).1 ∧ (fieldF s).1 < 7) := by
              have h1 : (fieldF s).2.2 = true := by
                cases hb : (fieldF s).2.2 with
                | true => rfl
                | false => exact absurd (fieldF_no hb) ht
              obtain ⟨i, hi, hsn, _⟩ := (field_spec s (fieldF s).1).1 ⟨h1, rfl⟩
              subst hsn
              match i, hi with
              | 0, _ => decide +kernel
              | 1, _ => decide +kernel
              | 2, _ => decide +kernel
              | 3, _ => decide +kernel
              | 4, _ => decide +kernel
              | 5, _ => decide +kernel
              | 6, _ => decide +kernel
            rw [if_neg (by decide), if_neg (by decide), if_neg (by decide)]
            rcases hf with ⟨e1, e2⟩ | ⟨e1, e2, e3⟩
            · simp [nextM, effF, e1, e2]; omega
            · simp [nextM, effF, e1]; omega
          · exact absurd rfl ht
        · rw [if_neg k4] at ht ⊢
          split at ht
          · exact absurd rfl ht
          · rename_i hs0
            rw [if_neg hs0]
            by_cases k1 : k = 1
            · rw [if_pos k1] at ht ⊢
              rw [if_pos k1]
              split at ht
              · rename_i h; rw [if_pos h]; simp [nextM, effF]; omega
              · exact absurd rfl ht
            · rw [if_neg k1] at ht ⊢
              rw [if_neg k1]
              by_cases k2 : k = 2
              · rw [if_pos k2] at ht ⊢
                rw [if_pos k2]
                split at ht
                · rename_i h; rw [if_pos h]; simp [nextM, effF]; omega
                · exact absurd rfl ht
              · rw [if_neg k2] at ht ⊢
                rw [if_neg k2]
                by_cases k3 : k = 3
                · rw [if_pos k3] at ht ⊢
                  rw [if_pos k3]
                  split at ht
                  · rename_i h; rw [if_pos h]; simp [nextM, effF]; omega
                  · exact absurd rfl ht
                · rw [if_neg k3] at ht; exact absurd rfl ht
      have := next_frame (s := sh) hnx (by simpa using hlen)
      simpa using this
  · have hl : l ≠ [] := fun h => hn0 (by rw [h]; rfl)
    have hlen : l.length ≤ 3 := by simpa using h3
    have hlen0 : ¬ (l.map codeN).length = 0 := by simpa using hl
    unfold combC at hs ⊢
    rw [if_neg hlen0] at hs ⊢
    rcases hc with ⟨h9, hts⟩ | ⟨h6, hg2, hbt⟩ | hsg
    · -- if
      rw [if_pos h9] at hs ⊢
      generalize combT k n s (l.map typeT) = t at *
      have hl3 : l.length = 3 := by have := congrArg List.length hts; simpa using this
      obtain ⟨a, b, c, rfl⟩ := len3 hl3
      · simp only [List.map_cons, List.map_nil, List.cons.injEq, and_true] at hts
        obtain ⟨ta, tb, tc⟩ := hts
        simp only [List.map_cons, List.map_nil, List.getD_cons_zero, List.getD_cons_succ] at hs ⊢
        unfold chC at hs ⊢
        have na := hnest a (by simp)
        have nb := hnest b (by simp)
        have nc := hnest c (by simp)
        refine runs_ch _ _ hs rfl rfl ?_ ?_ ?_ (hne a (by simp) _) (hne b (by simp) _) (hne c (by simp) _) (by omega) (by simp only [List.length_append, List.length_cons, List.length_nil]; omega)
        · rw [← ta]
          exact hr a (by simp) p sh (by have := hs.left.left.left.left; exact this) (by omega)
        · rw [← tb]
          have h2 := hs.left.left.right
          simp only [List.length_append, List.length_cons, List.length_nil] at h2
          exact hr b (by simp) _ sh h2 (by omega)
        · rw [← tc]
          have h2 := hs.right
          simp only [List.length_append, List.length_cons, List.length_nil] at h2
          have e : p + ((codeN a p).length + (0 + 1) + (codeN b (p + (codeN a p).length + 1)).length + (0 + 1)) = p + (codeN a p).length + 1 + (codeN b (p + (codeN a p).length + 1)).length + 1 := by omega
          rw [e] at h2
          exact hr c (by simp) _ sh h2 (by omega)
    · -- a binary operator
      subst h6
      rw [if_neg (by decide)] at hs ⊢
      rcases ts_of h0 h3 hn0 hg2 with ⟨hb0, hts⟩ | ⟨hb0, hts⟩
      · exfalso
        apply ht
        rw [hbt, hb0]
        have ha0 : (l.map typeT).getD 0 0 ≠ 0 := fun h => h0 (by rw [hts, h]; simp)
        unfold binT
        split
        · rw [if_neg (by omega)]
        · split
          · rw [if_neg (by omega)]
          · split
            · rw [if_neg (by omega)]
            · rfl
      · have hl2 : l.length = 2 := by have := congrArg List.length hts; simpa using this
        obtain ⟨a, b, rfl⟩ := len2 hl2
        · simp only [List.map_cons, List.map_nil, List.getD_cons_zero, List.getD_cons_succ] at hbt
          have na := hnest a (by simp)
          have nb := hnest b (by simp)
          have ra := typeT_range a
          have hbnd : ∀ y ∈ [a, b], sh.length + ([a, b].length - 1) + nestN y ≤ 16 := fun y hy => by
            have := hnest y hy
            simp only [List.length_cons, List.length_nil]
            omega
          have h2 : sh.length + 2 ≤ 16 := by
            have : 1 ≤ nestN a := by rw [nestN_eq]; omega
            omega
          by_cases hA : s ∈ opsA
          · have hok := List.all_eq_true.1 arith_ok s hA
            simp only [Bool.and_eq_true, Bool.not_eq_true', decide_eq_false_iff_not] at hok
            obtain ⟨⟨hok, hand⟩, hor⟩ := hok
            obtain ⟨o1, o2, o3⟩ := okL_spec hok
            have hab : typeT a = typeT b ∧ typeT a = 1 := by
              unfold binT at hbt
              rw [if_pos hA] at hbt
              split at hbt
              · assumption
              · exact absurd hbt ht
            have ht1 : combT 6 n s ([a, b].map typeT) = 1 := by
              show combT 6 n s [typeT a, typeT b] = 1
              rw [hbt]; unfold binT; rw [if_pos hA, if_pos hab]
            rw [ht1]
            rw [if_neg (by intro h; exact hand h.2), if_neg (by intro h; exact hor h.2)] at hs ⊢
            split at hs
            · rename_i hm
              rw [if_pos hm]
              rw [plainC_eq, List.append_assoc] at hs ⊢
              rw [if_pos hm.2] at o1 o2 o3
              exact runs_plain hr hne (ts := [1, 1]) (by simp [hab.2, ← hab.1]) (by simp) o1 hs hbnd o2 o3 h2
            · rename_i hm
              rw [if_neg hm]
              have hm' : ¬ s = [45] := fun h => hm ⟨rfl, h⟩
              rw [if_neg hm', List.append_nil] at o1 o2 o3
              rw [plainC_eq] at hs ⊢
              exact runs_plain hr hne (ts := [1, 1]) (by simp [hab.2, ← hab.1]) (by simp) o1 hs hbnd o2 o3 h2
          · by_cases hC : s ∈ opsC
            · have hok := List.all_eq_true.1 comp_ok s hC
              simp only [Bool.and_eq_true, Bool.not_eq_true', decide_eq_false_iff_not] at hok
              obtain ⟨⟨⟨⟨hok1, hok3⟩, hand⟩, hor⟩, hmi⟩ := hok
              have hab : typeT a = typeT b ∧ ¬ typeT a = 2 := by
                unfold binT at hbt
                rw [if_neg hA, if_pos hC] at hbt
                split at hbt
                · assumption
                · exact absurd hbt ht
              have ht2 : combT 6 n s ([a, b].map typeT) = 2 := by
                show combT 6 n s [typeT a, typeT b] = 2
                rw [hbt]; unfold binT; rw [if_neg hA, if_pos hC, if_pos hab]
              rw [ht2]
              rw [if_neg (by intro h; exact hand h.2), if_neg (by intro h; exact hor h.2), if_neg (by intro h; exact hmi h.2), plainC_eq] at hs ⊢
              have ka := hk a (by simp)
              have h13 : typeT a = 1 ∨ typeT a = 3 := by omega
              rcases h13 with h | h
              · obtain ⟨o1, o2, o3⟩ := okL_spec hok1
                exact runs_plain hr hne (ts := [1, 1]) (by simp [h, ← hab.1]) (by simp) o1 hs hbnd o2 o3 h2
              · obtain ⟨o1, o2, o3⟩ := okL_spec hok3
                exact runs_plain hr hne (ts := [3, 3]) (by simp [h, ← hab.1]) (by simp) o1 hs hbnd o2 o3 h2
            · have hL : s ∈ opsL := by
                by_cases hL : s ∈ opsL
                · exact hL
                · exfalso; apply ht; show combT 6 n s [typeT a, typeT b] = 0; rw [hbt]; unfold binT; rw [if_neg hA, if_neg hC, if_neg hL]
              have hab : typeT a = typeT b ∧ typeT a = 2 := by
                unfold binT at hbt
                rw [if_neg hA, if_neg hC, if_pos hL] at hbt
                split at hbt
                · assumption
                · exact absurd hbt ht
              have ht2 : combT 6 n s ([a, b].map typeT) = 2 := by
                show combT 6 n s [typeT a, typeT b] = 2
                rw [hbt]; unfold binT; rw [if_neg hA, if_neg hC, if_pos hL, if_pos hab]
              rw [ht2]
              have hconst : ∀ (z : Int) (q : Nat), (z = 0 ∨ z = 1) → Seg C q [⟨2, z⟩] → Runs C q [⟨2, z⟩] sh (sh ++ [2]) := fun z q hz hsq => by
                have hnx : nextM ⟨2, z⟩ [] = some [2] := by simp [nextM, effF, hz]
                have := next_frame (s := sh) hnx (by simp only [List.length_cons, List.length_nil]; omega)
                rw [List.append_nil] at this
                exact runs_one hsq (by simp) (by simp) (by simp) this
              simp only [opsL, List.mem_cons, List.not_mem_nil, or_false] at hL
              rcases hL with hL | hL
              · rw [if_pos ⟨rfl, hL⟩] at hs ⊢
                simp only [List.map_cons, List.map_nil, List.getD_cons_zero, List.getD_cons_succ] at hs ⊢
                unfold chC at hs ⊢
                refine runs_ch _ _ hs rfl rfl ?_ ?_ ?_ (hne a (by simp) _) (hne b (by simp) _) (by simp) (by omega) (by simp only [List.length_append, List.length_cons, List.length_nil]; omega)
                · have h1 := hr a (by simp) p sh hs.left.left.left.left (by omega)
                  rw [hab.2] at h1
                  exact h1
                · have h2 := hs.left.left.right
                  simp only [List.length_append, List.length_cons, List.length_nil] at h2
                  have h1 := hr b (by simp) _ sh h2 (by omega)
                  rw [← hab.1, hab.2] at h1
                  exact h1
                · have h2 := hs.right
                  simp only [List.length_append, List.length_cons, List.length_nil] at h2
                  have e : p + ((codeN a p).length + (0 + 1) + (codeN b (p + (codeN a p).length + 1)).length + (0 + 1)) = p + (codeN a p).length + 1 + (codeN b (p + (codeN a p).length + 1)).length + 1 := by omega
                  rw [e] at h2
                  exact hconst 0 _ (.inl rfl) h2
              · have hna : ¬ ((6 : Int) = 6 ∧ s = [97, 110, 100]) := by rintro ⟨_, h⟩; rw [hL] at h; exact absurd h (by decide)
                rw [if_neg hna, if_pos ⟨rfl, hL⟩] at hs ⊢
                simp only [List.map_cons, List.map_nil, List.getD_cons_zero, List.getD_cons_succ] at hs ⊢
                unfold chC at hs ⊢
                refine runs_ch _ _ hs rfl rfl ?_ ?_ ?_ (hne a (by simp) _) (by simp) (hne b (by simp) _) (by omega) (by simp only [List.length_append, List.length_cons, List.length_nil]; omega)
                · have h1 := hr a (by simp) p sh hs.left.left.left.left (by omega)
                  rw [hab.2] at h1
                  exact h1
                · have h2 := hs.left.left.right
                  simp only [List.length_append, List.length_cons, List.length_nil] at h2
                  exact hconst 1 _ (.inr rfl) h2
                · have h2 := hs.right
                  simp only [List.length_append, List.length_cons, List.length_nil] at h2
                  have e : p + ((codeN a p).length + (0 + 1) + (0 + 1) + (0 + 1)) = p + (codeN a p).length + 1 + (0 + 1) + 1 := by omega
                  rw [e] at h2
                  have h1 := hr b (by simp) _ sh h2 (by omega)
                  rw [← hab.1, hab.2] at h1
                  exact h1
    · -- the other operators
      obtain ⟨e, he, hxe, hev⟩ := sig_cases (by rw [← hsg]; exact ht)
      have hok := List.all_eq_true.1 sigs_ok e he
      unfold sigOk at hok
      rw [hev] at hok
      simp only [Bool.and_eq_true, decide_eq_true_eq] at hok
      obtain ⟨⟨⟨k9, k6⟩, hc0⟩, hokl⟩ := hok
      rw [← hxe] at k9 k6 hc0 hokl
      simp only at k9 k6 hc0 hokl
      obtain ⟨o1, o2, o3⟩ := okL_spec hokl
      rw [if_neg k9, if_neg (by intro h; exact k6 h.1), if_neg (by intro h; exact k6 h.1), if_neg (by intro h; exact k6 h.1), plainC_eq] at hs ⊢
      rw [hsg]
      have hts : l.map typeT = (if (l.map typeT).getD 1 0 = 0 then [(l.map typeT).getD 0 0] else [(l.map typeT).getD 0 0, (l.map typeT).getD 1 0]) := by
        rcases ts_of h0 h3 hn0 hc0 with ⟨h1, h2⟩ | ⟨h1, h2⟩
        · rw [if_pos h1]; exact h2
        · rw [if_neg h1]; exact h2
      have hl2 : l.length ≤ 2 := by
        have := congrArg List.length hts
        rw [List.length_map] at this
        split at this <;> simp only [List.length_cons, List.length_nil] at this <;> omega
      have h2 : sh.length + 2 ≤ 16 := by
        cases l with
        | nil => exact absurd rfl hl
        | cons y r =>
          have := hnest y (by simp)
          have : 1 ≤ nestN y := by rw [nestN_eq]; omega
          omega
      exact runs_plain hr hne hts hl o1 hs (fun y hy => by have := hnest y hy; omega) o2 o3 h2
/-- the code of an expression is valid and has its type -/
theorem verM_expr (y : Nd) (ht : typeT y ≠ 0) (hn : nestN y ≤ 12) (hl : (exprF y).length ≤ 200) : verM (exprF y) = (typeT y, 0) := by
  have hne := codeN_ne y ht 0
  have hpos := List.length_pos_iff.2 hne
  unfold exprF at hl ⊢
  have hlen : (codeN y 0 ++ [(⟨24, 0⟩ : Ins)]).length = (codeN y 0).length + 1 := by simp
  have hr := code_runs (codeN y 0 ++ [⟨24, 0⟩]) y ht 0 [] ⟨[], [⟨24, 0⟩], by simp, rfl⟩ (by simp only [List.length_nil]; omega)
  obtain ⟨st, r1, r2, r3, _⟩ := hr ((some []) :: List.replicate ((codeN y 0 ++ [(⟨24, 0⟩ : Ins)]).length - 1) none) (by simp) (by rw [hlen]; omega) (by simp) (fun i hi hi2 => by
    cases i with
    | zero => omega
    | succ i =>
      rw [List.getElem?_cons_succ, List.getElem?_replicate, if_pos (by rw [hlen]; omega)]) (.inl (by
    rw [Nat.zero_add]
    obtain ⟨m, hm⟩ : ∃ m, (codeN y 0).length = m + 1 := ⟨(codeN y 0).length - 1, by omega⟩
    rw [hm, List.getElem?_cons_succ, List.getElem?_replicate, if_pos (by rw [hlen]; omega)]))
  rw [Nat.zero_add] at r3
  rw [List.nil_append] at r3
  unfold verM
  rw [if_neg (by rw [hlen] at hl ⊢; omega)]
  have hrun : runM (codeN y 0 ++ [⟨24, 0⟩]) (codeN y 0 ++ [(⟨24, 0⟩ : Ins)]).length ((some []) :: List.replicate ((codeN y 0 ++ [(⟨24, 0⟩ : Ins)]).length - 1) none) = some st := by
    rw [runM_runP]
    conv => lhs; arg 3; rw [hlen]
    rw [runP_add, r1, Option.bind_some, Nat.zero_add, runP_one]
    have hg : (codeN y 0 ++ [(⟨24, 0⟩ : Ins)]).getD (codeN y 0).length ⟨0, 0⟩ = ⟨24, 0⟩ := by simp
    rw [hg]
    unfold stepM
    rw [List.getD_eq_getElem?_getD, r3]
    have hnx : nextM ⟨24, 0⟩ [typeT y] = some [typeT y] := by simp [nextM, effF]
    simp only [Option.getD_some, hnx]
    rw [if_pos trivial, if_pos (by constructor <;> simp [r2])]
  rw [hrun]
  have e : (codeN y 0 ++ [(⟨24, 0⟩ : Ins)]).length - 1 = (codeN y 0).length := by rw [hlen]; omega
  simp only [e]
  rw [List.getD_eq_getElem?_getD, r3]
  rfl
end Go.Proofs.YtgpibcgebpgmiaaDoor

namespace Go.Proofs.YtgpibcgebpgmiaaDoor
open Go Go.Eng Go.RowKit
set_option linter.unusedVariables false
set_option linter.unusedSimpArgs false
theorem mem_seqC (z : Ins) : ∀ (l : List Nd) (p : Nat) (P : Nd → Prop), (∀ y ∈ l, ∀ p, z ∈ codeN y p ↔ P y) → (z ∈ seqC (l.map codeN) p ↔ ∃ y ∈ l, P y)
  | [], p, P, _ => by simp [seqC]
  | y :: l, p, P, h => by
    simp only [List.map_cons, seqC, List.mem_append]
    rw [h y (by simp), mem_seqC z l _ P (fun y hy => h y (by simp [hy]))]
    simp
theorem opF_no4 (s : Str) : ∀ o ∈ opF s, o ≠ 4 := by
  intro o ho
  unfold opF at ho
  cases h : opEs.find? (fun p => decide (p.1 = s)) with
  | none => rw [h] at ho; cases ho
  | some p =>
    rw [h] at ho
    have hall : ∀ q ∈ opEs, ∀ o ∈ q.2, o ≠ 4 := by decide +kernel
    exact hall p (List.mem_of_find?_eq_some h) o ho
theorem extraL_no4 (k z : Int) (s : Str) : (⟨4, z⟩ : Ins) ∉ extraL k s := by
  unfold extraL insO
  simp only [List.mem_append, List.mem_map, not_or]
  refine ⟨?_, ?_⟩
  · split <;> simp
  · rintro ⟨o, ho, he⟩
    exact opF_no4 s o ho (by simpa using congrArg Ins.op he)
theorem mem_chC (z : Ins) (c y n : Cf) (p : Nat) (h1 : z.op ≠ 13) (h2 : z.op ≠ 14) (A B D : Prop) (hc : ∀ p, z ∈ c p ↔ A) (hy : ∀ p, z ∈ y p ↔ B) (hn : ∀ p, z ∈ n p ↔ D) : z ∈ chC c y n p ↔ A ∨ B ∨ D := by
  unfold chC
  simp only [List.mem_append, List.mem_cons, List.not_mem_nil, or_false, hc, hy, hn]
  constructor
  · rintro ((((h | h) | h) | h) | h)
    · exact .inl h
    · exact absurd (by rw [h]) h2
    · exact .inr (.inl h)
    · exact absurd (by rw [h]) h1
    · exact .inr (.inr h)
  · rintro (h | h | h)
    · exact .inl (.inl (.inl (.inl h)))
    · exact .inl (.inl (.inr h))
    · exact .inr h
/-- the fields of a code are those that its expression uses -/
theorem field_mem (i : Nat) (hi : i < 7) (x : Nd) : typeT x ≠ 0 → ∀ p, ((⟨4, (i : Int)⟩ : Ins) ∈ codeN x p ↔ usesT (fieldNames.getD i []) x = true) := by
  induction x using Nd.ind with
  | h k n s l ih =>
  intro ht p
  have hk : ∀ y ∈ l, typeT y ≠ 0 := fun y hy => typeT_kid (x := .mk k n s l) ht hy
  have ih' : ∀ y ∈ l, ∀ p, ((⟨4, (i : Int)⟩ : Ins) ∈ codeN y p ↔ usesT (fieldNames.getD i []) y = true) := fun y hy => ih y hy (hk y hy)
  have hteq : typeT (.mk k n s l) = combT k n s (l.map typeT) := typeT_eq _
  rw [hteq] at ht
  rw [codeN, usesT_eq]
  have hany : ((l.map (usesT (fieldNames.getD i []))).any id = true) ↔ ∃ y ∈ l, usesT (fieldNames.getD i []) y = true := by simp
  rw [Bool.or_eq_true, hany, Bool.and_eq_true, decide_eq_true_eq, decide_eq_true_eq]
  rcases combT_cases ht with ⟨he, hc⟩ | ⟨h0, h3, hn0, hc⟩
  · have hl : l = [] := by simpa using he
    subst hl
    unfold combC
    rw [if_pos (show (List.map codeN ([] : List Nd)).length = 0 from rfl)]
    rw [hc] at ht
    simp only [List.mem_cons, List.not_mem_nil, or_false, false_and, exists_false]
    unfold leafN at ht
    by_cases k4 : k = 4
    · subst k4
      rw [if_pos rfl] at ht
      have hf : (fieldF s).2.2 = true := by
        cases hb : (fieldF s).2.2 with
        | true => rfl
        | false => rw [fieldF_no hb] at ht; simp at ht
      unfold leafI
      rw [if_neg (by decide), if_neg (by decide), if_neg (by decide)]
      simp only [Ins.mk.injEq, true_and]
      constructor
      · intro h
        obtain ⟨j, hj, hs, hij⟩ := (field_spec s (i : Int)).1 ⟨hf, h⟩
        have : i = j := by omega
        subst this
        exact hs
      · intro h
        exact ((field_spec s (i : Int)).2 ⟨i, hi, h, rfl⟩).2
    · have : ¬ (k = 4 ∧ s = fieldNames.getD i []) := fun h => k4 h.1
      simp only [this, iff_false]
      unfold leafI
      rw [if_neg k4] at ht
      intro h
      have hop := congrArg Ins.op h
      by_cases k1 : k = 1
      · rw [if_pos k1] at hop; simp at hop
      · rw [if_neg k1] at hop
        by_cases k2 : k = 2
        · rw [if_pos k2] at hop; simp at hop
        · rw [if_neg k2] at hop
          by_cases k3 : k = 3
          · rw [if_pos k3] at hop; simp at hop
          · rw [if_neg k1, if_neg k2, if_neg k3] at ht
            split at ht <;> exact ht rfl
  · have hl : l ≠ [] := fun h => hn0 (by rw [h]; rfl)
    have hlen0 : ¬ (l.map codeN).length = 0 := by simpa using hl
    unfold combC
    rw [if_neg hlen0]
    have hplain : k ≠ 4 → ((⟨4, (i : Int)⟩ : Ins) ∈ plainC k s (l.map codeN) p ↔ (k = 4 ∧ s = fieldNames.getD i []) ∨ ∃ y ∈ l, usesT (fieldNames.getD i []) y = true) := fun k4 => by
      rw [plainC_eq, List.mem_append, mem_seqC _ l p _ ih']
      have h1 := extraL_no4 k (i : Int) s
      have h2 : ¬ (k = 4 ∧ s = fieldNames.getD i []) := fun h => k4 h.1
      simp only [h1, h2, or_false, false_or]
    rcases hc with ⟨h9, hts⟩ | ⟨h6, hg2, hbt⟩ | hsg
    · rw [if_pos h9]
      have hl3 : l.length = 3 := by have := congrArg List.length hts; simpa using this
      obtain ⟨a, b, c, rfl⟩ := len3 hl3
      simp only [List.map_cons, List.map_nil, List.getD_cons_zero, List.getD_cons_succ]
      rw [mem_chC _ _ _ _ _ (by simp) (by simp) _ _ _ (ih' a (by simp)) (ih' b (by simp)) (ih' c (by simp))]
      have h2 : ¬ (k = 4 ∧ s = fieldNames.getD i []) := by rintro ⟨h, _⟩; omega
      simp only [h2, false_or]
      simp
    · have k4 : k ≠ 4 := by omega
      rw [if_neg (by omega)]
      rcases ts_of h0 h3 hn0 hg2 with ⟨hb0, hts⟩ | ⟨hb0, hts⟩
      · exfalso
        apply ht
        rw [hbt, hb0]
        have ha0 : (l.map typeT).getD 0 0 ≠ 0 := fun h => h0 (by rw [hts, h]; simp)
        unfold binT
        split
        · rw [if_neg (by omega)]
        · split
          · rw [if_neg (by omega)]
          · split
            · rw [if_neg (by omega)]
            · rfl
      · have hl2 : l.length = 2 := by have := congrArg List.length hts; simpa using this
        obtain ⟨a, b, rfl⟩ := len2 hl2
        have h2 : ¬ (k = 4 ∧ s = fieldNames.getD i []) := fun h => k4 h.1
        split
        · simp only [List.map_cons, List.map_nil, List.getD_cons_zero, List.getD_cons_succ]
          rw [mem_chC _ _ _ _ _ (by simp) (by simp) _ _ False (ih' a (by simp)) (ih' b (by simp)) (by simp)]
          simp only [h2, false_or]
          simp
        · split
          · simp only [List.map_cons, List.map_nil, List.getD_cons_zero, List.getD_cons_succ]
            rw [mem_chC _ _ _ _ _ (by simp) (by simp) _ False _ (ih' a (by simp)) (by simp) (ih' b (by simp))]
            simp only [h2, false_or]
            simp
          · split
            · rw [List.mem_append, hplain k4]
              simp
            · exact hplain k4
    · obtain ⟨e, he, hxe, hev⟩ := sig_cases (by rw [← hsg]; exact ht)
      have hok := List.all_eq_true.1 sigs_ok e he
      unfold sigOk at hok
      rw [hev] at hok
      simp only [Bool.and_eq_true, decide_eq_true_eq] at hok
      obtain ⟨⟨⟨k9, k6⟩, hc0⟩, hokl⟩ := hok
      have k4 : e.1.kind ≠ 4 := (show ∀ e ∈ sigs, e.1.kind ≠ 4 by decide +kernel) e he
      rw [← hxe] at k9 k6 k4
      simp only at k9 k6 k4
      rw [if_neg k9, if_neg (by intro h; exact k6 h.1), if_neg (by intro h; exact k6 h.1), if_neg (by intro h; exact k6 h.1)]
      exact hplain k4
/-- the number of a field is among the fields that are used -/
theorem usesR_mem (i : Nat) (hi : i < 7) (x : Nd) : (i : Int) ∈ usesR x ↔ usesT (fieldNames.getD i []) x = true := by
  unfold usesR
  simp only [List.mem_map, List.mem_filter, List.mem_range]
  constructor
  · rintro ⟨j, ⟨hj, hu⟩, he⟩
    have : j = i := by omega
    subst this
    exact hu
  · intro h
    exact ⟨i, ⟨hi, h⟩, rfl⟩
theorem exprF_mem (i : Nat) (hi : i < 7) (x : Nd) (ht : typeT x ≠ 0) : (⟨4, (i : Int)⟩ : Ins) ∈ exprF x ↔ (i : Int) ∈ usesR x := by
  unfold exprF
  rw [List.mem_append, field_mem i hi x ht, usesR_mem i hi]
  simp
/-! ### parts -/
theorem PartR.type {m n a b : Nd} (h : PartR m n a b) : typeT n ≠ 0 → typeT a ≠ 0 := by
  induction h with
  | here n => exact id
  | kid n i hi a b h ih => exact fun ht => ih (typeT_kid ht (List.getElem_mem hi))
theorem PartR.same {m n a b : Nd} (h : PartR m n a b) : typeT a = typeT m → typeT b = typeT n := by
  induction h with
  | here n => exact fun h => h.symm
  | kid n i hi a b h ih =>
    intro hm
    have hb := ih hm
    rw [typeT_eq (.mk _ _ _ _), typeT_eq n]
    show combT n.kind n.num n.word ((n.kids.set i b).map typeT) = _
    rw [List.map_set, hb]
    congr 1
    apply List.ext_getElem (by simp)
    intro j h1 h2
    rw [List.getElem_set]
    split
    · rename_i e; subst e; simp
    · rfl
theorem PartR.uses {m n a b : Nd} (nm : Str) (h : PartR m n a b) : usesT nm b = true → usesT nm n = true ∨ usesT nm m = true := by
  induction h with
  | here n => exact fun h => .inr h
  | kid n i hi a b h ih =>
    intro hu
    rw [usesT_eq, Bool.or_eq_true] at hu
    have hn : usesT nm n = ((decide (n.kind = 4) && decide (n.word = nm)) || (n.kids.map (usesT nm)).any id) := by rw [← usesT_eq nm n.kind n.num n.word n.kids, ← Nd.eta n]
    rw [hn, Bool.or_eq_true]
    rcases hu with h1 | h1
    · exact .inl (.inl h1)
    · simp only [List.any_map, List.any_eq_true, Function.comp_apply, id] at h1
      obtain ⟨y, hy, hyu⟩ := h1
      rcases List.mem_or_eq_of_mem_set hy with h2 | h2
      · left; right
        simp only [List.any_map, List.any_eq_true, Function.comp_apply, id]
        exact ⟨y, h2, hyu⟩
      · subst h2
        rcases ih hyu with h3 | h3
        · left; right
          simp only [List.any_map, List.any_eq_true, Function.comp_apply, id]
          exact ⟨_, List.getElem_mem hi, h3⟩
        · exact .inr h3
theorem nest_le_iff (x : Nd) (b : Nat) : nestN x ≤ b + 1 ↔ ∀ y ∈ x.kids, nestN y ≤ b := by
  rw [nestN_eq, Nat.add_comm, Nat.add_le_add_iff_right, foldl_max_le]
  simp
theorem PartR.nest {m n a b : Nd} (h : PartR m n a b) : nestN a ≤ nestN n ∧ nestN b ≤ nestN n + nestN m := by
  induction h with
  | here n => exact ⟨Nat.le_refl _, by omega⟩
  | kid n i hi a b h ih =>
    have hk := nest_kid (List.getElem_mem hi)
    refine ⟨by omega, ?_⟩
    have h1 : 1 ≤ nestN n := by rw [nestN_eq]; omega
    obtain ⟨c, hc⟩ : ∃ c, nestN n + nestN m = c + 1 := ⟨nestN n + nestN m - 1, by omega⟩
    rw [hc, nest_le_iff]
    intro y hy
    rcases List.mem_or_eq_of_mem_set (show y ∈ n.kids.set i b from hy) with h2 | h2
    · have := nest_kid h2; omega
    · subst h2; omega
end Go.Proofs.YtgpibcgebpgmiaaDoor

/-
The law of CompileTypes: the code of a typed expression verifies with its type, and loads the fields that it uses.
-/
namespace Go.Proofs.YtgpibcgebpgmiaaDoor
open Go Go.Eng Go.RowKit
set_option linter.unusedVariables false
theorem has03_any (v : Value) (l : List Int) (z : Int) (w : World) (hs : SlV [] w v l) : Calls Tryd.prog 28 #[v, .int .i64 z] w (Ret fun r w' => r = .bool (decide (z ∈ l)) ∧ Stp [] w w') := by
  have hmax := hs.max
  refine calls_of_WC2 (n := 18) Tryd.func28 rfl rfl rfl ?_
  refine W ?_
  refine WC_loop (σ := Nat) (fun k => [(0, v), (1, .int .i64 z), (5, .int .i64 (k : Int))]) (fun k w' => k ≤ l.length ∧ Stp [] w w' ∧ ∀ j (h : j < l.length), j < k → l[j] ≠ z) (fun k => l.length - k) 0 ⟨rfl, rfl, rfl, trivial⟩ ⟨Nat.zero_le _, Stp.refl _ _, fun j _ h => absurd h (Nat.not_lt_zero _)⟩ ?_
  rintro k w1 ⟨hk, hS, hno⟩
  replace hs := hs.up hS
  by_cases hlt : k < l.length
  · repeat' (first | refine W1 ?_ | (exfalso; omega) | refine WL_split rfl rfl (fun hg => ?_) (fun hg => ?_) | refine WL_splitB rfl rfl (fun hg => ?_) (fun hg => ?_) | refine WC_cond rfl (fun hc => ?_) (fun hc => ?_) | refine WC_condB rfl (fun hc => ?_) (fun hc => ?_))
    · first | refine WQ_ret1 rfl rfl ?_ | refine WQ_ret2 rfl rfl rfl ?_ | refine WQ_ret3 rfl rfl rfl rfl ?_ | refine WQ_ret0 rfl ?_ | refine WQ_end0 rfl ?_
      exact .mk ⟨by rw [decide_eq_true (by rw [← hc]; exact List.getElem_mem hlt)], hS⟩
    · refine WQ_loop (k + 1) ⟨rfl, rfl, rfl, trivial⟩ ⟨hlt, hS, fun j h hj => ?_⟩ (by omega)
      by_cases e : j = k
      · subst e; exact hc
      · exact hno j h (by omega)
  · repeat' (first | refine W1 ?_ | (exfalso; omega) | refine WL_split rfl rfl (fun hg => ?_) (fun hg => ?_) | refine WL_splitB rfl rfl (fun hg => ?_) (fun hg => ?_) | refine WC_cond rfl (fun hc => ?_) (fun hc => ?_) | refine WC_condB rfl (fun hc => ?_) (fun hc => ?_))
    first | refine WQ_ret1 rfl rfl ?_ | refine WQ_ret2 rfl rfl rfl ?_ | refine WQ_ret3 rfl rfl rfl rfl ?_ | refine WQ_ret0 rfl ?_ | refine WQ_end0 rfl ?_
    exact .mk ⟨by
      rw [decide_eq_false]
      intro hm
      obtain ⟨j, hj, he⟩ := List.getElem_of_mem hm
      exact hno j hj (by omega) he, hS⟩
theorem has01_any (v : Value) (l : List Int) (z : Int) (w : World) (hs : SlV [] w v l) : Calls Tryd.prog 13 #[v, .int .i64 z] w (Ret fun r w' => r = .bool (decide (z ∈ l)) ∧ Stp [] w w') := by
  have hmax := hs.max
  refine calls_of_WC2 (n := 18) Tryd.func13 rfl rfl rfl ?_
  refine W ?_
  refine WC_loop (σ := Nat) (fun k => [(0, v), (1, .int .i64 z), (5, .int .i64 (k : Int))]) (fun k w' => k ≤ l.length ∧ Stp [] w w' ∧ ∀ j (h : j < l.length), j < k → l[j] ≠ z) (fun k => l.length - k) 0 ⟨rfl, rfl, rfl, trivial⟩ ⟨Nat.zero_le _, Stp.refl _ _, fun j _ h => absurd h (Nat.not_lt_zero _)⟩ ?_
  rintro k w1 ⟨hk, hS, hno⟩
  replace hs := hs.up hS
  by_cases hlt : k < l.length
  · repeat' (first | refine W1 ?_ | (exfalso; omega) | refine WL_split rfl rfl (fun hg => ?_) (fun hg => ?_) | refine WL_splitB rfl rfl (fun hg => ?_) (fun hg => ?_) | refine WC_cond rfl (fun hc => ?_) (fun hc => ?_) | refine WC_condB rfl (fun hc => ?_) (fun hc => ?_))
    · first | refine WQ_ret1 rfl rfl ?_ | refine WQ_ret2 rfl rfl rfl ?_ | refine WQ_ret3 rfl rfl rfl rfl ?_ | refine WQ_ret0 rfl ?_ | refine WQ_end0 rfl ?_
      exact .mk ⟨by rw [decide_eq_true (by rw [← hc]; exact List.getElem_mem hlt)], hS⟩
    · refine WQ_loop (k + 1) ⟨rfl, rfl, rfl, trivial⟩ ⟨hlt, hS, fun j h hj => ?_⟩ (by omega)
      by_cases e : j = k
      · subst e; exact hc
      · exact hno j h (by omega)
  · repeat' (first | refine W1 ?_ | (exfalso; omega) | refine WL_split rfl rfl (fun hg => ?_) (fun hg => ?_) | refine WL_splitB rfl rfl (fun hg => ?_) (fun hg => ?_) | refine WC_cond rfl (fun hc => ?_) (fun hc => ?_) | refine WC_condB rfl (fun hc => ?_) (fun hc => ?_))
    first | refine WQ_ret1 rfl rfl ?_ | refine WQ_ret2 rfl rfl rfl ?_ | refine WQ_ret3 rfl rfl rfl rfl ?_ | refine WQ_ret0 rfl ?_ | refine WQ_end0 rfl ?_
    exact .mk ⟨by
      rw [decide_eq_false]
      intro hm
      obtain ⟨j, hj, he⟩ := List.getElem_of_mem hm
      exact hno j hj (by omega) he, hS⟩
theorem eqI (a b : Ins) (w : World) : (binOp .eql 59 (agg a) (agg b)).run Tryd.prog w = .ok (.bool (decide (a = b))) w := by
  have h1 : Program.stoodInHeld Tryd.prog 59 = false := by kernel_rfl
  obtain ⟨a1, a2⟩ := a
  obtain ⟨b1, b2⟩ := b
  simp [agg, Flat.enc, run_eql_struct, run_equalIn_struct, h1, Program.fieldsOf, Tryd.underlying59, Op.eqFields, part, Und.isAgg, aggB, run_equalIn_int w _ _ .i64 .i64 _ _ Tryd.underlying3]
  repeat' split
  all_goals simp_all
theorem kindT_ne (k : Int) : kindT k ≠ 0 := by
  unfold kindT
  split <;> (try split) <;> (try split) <;> (try split) <;> decide
theorem typesLaw15 (lv : Value) (l : List Int) (kind : Int) (w : World) (hF : SlV [] w flds fieldNames) (hs : SlV [] w lv l) (hl : ∀ a ∈ l, I64 a) (hk : I64 kind) :
    Calls Tryd.prog 6 #[lv, .int .i64 kind] w (Ret fun r w' => r = .bool true ∧ Stp [] w w') := by
  refine calls_of_WC2 (n := 80) Tryd.func6 rfl rfl rfl ?_
  refine W ?_
  refine WL_eff (OE_call rfl (evs3 rfl rfl rfl) (Expr_any [] lv l kind 6 6 _ (by decide) (by decide) rfl hk hs hl (by simp))) rfl ?_
  rintro _ w1 ⟨y, ⟨ky, rfl, hky⟩, hsz, ⟨hty, hnest⟩, hS⟩
  refine WL_eff OE_alloc rfl ?_
  rintro _ w2 ⟨b, rfl, hb, e0, hT⟩
  refine WL_eff0 (OE_storeA (us := ndC y ky) rfl rfl rfl rfl (ndC_one hky) e0 rfl) ?_
  rintro _ w3 ⟨hT2, e3⟩
  replace hT := hT.own hT2 (fun b hb => .inr (by simp at hb; omega))
  clear hT2 e0 hb
  replace hky := hky.up hT
  replace hS := hS.trans hT
  clear hT
  have hN : NdV [] w3 (.agg #[.int .i64 y.kind, .int .i64 y.num, str y.word, ky]) y := ⟨ky, rfl, hky⟩
  refine W ?_
  refine WL_eff (OE_call rfl (evs1 rfl) (Of_any [] [] _ y _ hN (hF.up hS))) rfl ?_
  rintro _ w4 ⟨rfl, hT⟩
  replace e3 := e3.up hT
  replace hN := hN.up hT
  replace hky := hky.up hT
  replace hS := hS.trans hT
  clear hT
  have hn12 : nestN y ≤ 12 := by omega
  rw [if_pos hn12, if_pos hn12]
  refine W ?_
  refine WL_eff (OE_call rfl (evs1 rfl) (Expression_any _ y _ (by omega) hN (hF.up hS))) rfl ?_
  rintro _ w5 ⟨cv, rfl, hcv, hT⟩
  replace hcv := hcv [] (by simp)
  replace e3 := e3.up hT
  replace hN := hN.up hT
  replace hky := hky.up hT
  replace hS := hS.trans hT
  clear hT
  have ht0 : typeT y ≠ 0 := by rw [hty]; exact kindT_ne kind
  have herr : errX y = if (exprF y).length > 200 then 2 else 0 := by unfold errX; rw [if_pos hn12, if_neg ht0]
  rw [herr] at hcv ⊢
  simp only [if_neg ht0]
  by_cases hlen : (exprF y).length > 200
  · simp only [if_pos hlen]
    repeat' (first | refine W1 ?_ | (exfalso; omega) | refine WL_split rfl rfl (fun hg => ?_) (fun hg => ?_) | refine WL_splitB rfl rfl (fun hg => ?_) (fun hg => ?_) | refine WC_cond rfl (fun hc => ?_) (fun hc => ?_) | refine WC_condB rfl (fun hc => ?_) (fun hc => ?_))
    refine WL_eff (OE_call rfl evs0 (lives15_any _ (hF.up hS))) rfl ?_
    rintro _ w6 ⟨rfl, hT⟩
    refine W ?_
    first | refine WQ_ret1 rfl rfl ?_ | refine WQ_ret2 rfl rfl rfl ?_ | refine WQ_ret3 rfl rfl rfl rfl ?_ | refine WQ_ret0 rfl ?_ | refine WQ_end0 rfl ?_
    exact .mk ⟨rfl, hS.trans hT⟩
  simp only [if_neg hlen, if_true] at hcv ⊢
  repeat' (first | refine W1 ?_ | (exfalso; omega) | refine WL_split rfl rfl (fun hg => ?_) (fun hg => ?_) | refine WL_splitB rfl rfl (fun hg => ?_) (fun hg => ?_) | refine WC_cond rfl (fun hc => ?_) (fun hc => ?_) | refine WC_condB rfl (fun hc => ?_) (fun hc => ?_))
  refine WL_eff (OE_call rfl (evs1 rfl) (Verify_any _ _ _ hcv)) rfl ?_
  rintro _ w6 ⟨rfl, hT⟩
  rw [verM_expr y ht0 hn12 (by omega)]
  replace e3 := e3.up hT
  replace hN := hN.up hT
  replace hky := hky.up hT
  replace hcv := hcv.up hT
  replace hS := hS.trans hT
  clear hT
  refine W ?_
  refine WL_eff (OE_call rfl (evs1 rfl) (Uses_any y _ _ (okN_of_size _ (by omega)) hN (hF.up hS))) rfl ?_
  rintro uv w7 ⟨hrow, hT⟩
  have huv : SlV [] w7 uv (usesR y) := by rw [← uses_eq]; exact hrow.slv0
  replace hcv := hcv.up hT
  replace hS := hS.trans hT
  clear hT hrow e3
  refine W ?_
  refine WC_loop (σ := Nat) (fun q => [(6, .int .i64 (typeT y)), (8, cv), (10, .int .i64 (typeT y)), (11, .int .i64 0), (12, uv), (13, .int .i64 (q : Int))]) (fun q w' => q ≤ 7 ∧ SlV [] w' cv (exprF y) ∧ SlV [] w' uv (usesR y) ∧ Stp [] w w') (fun q => 7 - q) 0 ⟨rfl, rfl, rfl, rfl, rfl, rfl, trivial⟩ ⟨by omega, hcv, huv, hS⟩ ?_
  clear hcv huv hS
  rintro q w8 ⟨hq, hcv, huv, hS⟩
  have hmem := fun hq => exprF_mem q hq y ht0
  have hcm := hcv.max
  generalize exprF y = C at *
  by_cases hlt : q < 7
  · repeat' (first | refine W1 ?_ | (exfalso; omega) | refine WL_split rfl rfl (fun hg => ?_) (fun hg => ?_) | refine WL_splitB rfl rfl (fun hg => ?_) (fun hg => ?_) | refine WC_cond rfl (fun hc => ?_) (fun hc => ?_) | refine WC_condB rfl (fun hc => ?_) (fun hc => ?_))
    refine WC_loop (σ := Nat × Bool) (fun p => [(6, .int .i64 (typeT y)), (8, cv), (10, .int .i64 (typeT y)), (11, .int .i64 0), (12, uv), (13, .int .i64 (q : Int)), (14, .bool p.2), (15, .int .i64 (p.1 : Int))]) (fun p w' => p.1 ≤ C.length ∧ p.2 = decide ((⟨4, (q : Int)⟩ : Ins) ∈ C.take p.1) ∧ w' = w8) (fun p => C.length - p.1) (0, false) ⟨rfl, rfl, rfl, rfl, rfl, rfl, rfl, rfl, trivial⟩ ⟨by simp, by simp, rfl⟩ ?_
    rintro ⟨j, f⟩ w9 ⟨hj, hf, rfl⟩
    dsimp only at hj hf ⊢
    by_cases hjl : j < C.length
    · cases f with
      | true =>
        repeat' (first | refine W1 ?_ | (exfalso; omega) | refine WL_split rfl rfl (fun hg => ?_) (fun hg => ?_) | refine WL_splitB rfl rfl (fun hg => ?_) (fun hg => ?_) | refine WC_cond rfl (fun hc => ?_) (fun hc => ?_) | refine WC_condB rfl (fun hc => ?_) (fun hc => ?_))
        refine WQ_loop (j + 1, true) ⟨rfl, rfl, rfl, rfl, rfl, rfl, rfl, rfl, trivial⟩ ⟨hjl, ?_, rfl⟩ (by dsimp only; omega)
        have := of_decide_eq_true hf.symm
        exact (decide_eq_true (by rw [List.take_succ_eq_append_getElem hjl]; exact List.mem_append_left _ this)).symm
      | false =>
        repeat' (first | refine W1 ?_ | (exfalso; omega) | refine WL_split rfl rfl (fun hg => ?_) (fun hg => ?_) | refine WL_splitB rfl rfl (fun hg => ?_) (fun hg => ?_) | refine WC_cond rfl (fun hc => ?_) (fun hc => ?_) | refine WC_condB rfl (fun hc => ?_) (fun hc => ?_))
        apply WL_build (vs := [(0, .int .i64 4), (1, .int .i64 _)]) rfl (buildI _ _) rfl
        refine W ?_
        refine WL_pure (PR_eqlS (p := agg C[j]) (q := agg (⟨4, (q : Int)⟩ : Ins)) (c := C[j] = ⟨4, (q : Int)⟩) rfl rfl (fun w => guardI _ _ _ C[j] ⟨4, (q : Int)⟩ w) (fun w => eqI C[j] ⟨4, (q : Int)⟩ w)) rfl ?_
        refine W ?_
        refine WQ_loop (j + 1, decide (C[j] = ⟨4, (q : Int)⟩)) ⟨rfl, rfl, rfl, rfl, rfl, rfl, rfl, rfl, trivial⟩ ⟨hjl, ?_, rfl⟩ (by dsimp only; omega)
        have := of_decide_eq_false hf.symm
        simp only [List.take_succ_eq_append_getElem hjl, List.mem_append, this, false_or, List.mem_singleton]
        exact decide_eq_decide.2 eq_comm
    · have hje : j = C.length := by omega
      subst hje
      rw [List.take_length] at hf
      repeat' (first | refine W1 ?_ | (exfalso; omega) | refine WL_split rfl rfl (fun hg => ?_) (fun hg => ?_) | refine WL_splitB rfl rfl (fun hg => ?_) (fun hg => ?_) | refine WC_cond rfl (fun hc => ?_) (fun hc => ?_) | refine WC_condB rfl (fun hc => ?_) (fun hc => ?_))
      refine WL_eff (OE_call rfl (evs2 rfl rfl) (has03_any uv _ (q : Int) _ huv)) rfl ?_
      rintro _ w10 ⟨rfl, hT⟩
      have hfg : f = decide ((q : Int) ∈ usesR y) := by rw [hf]; exact decide_eq_decide.2 (hmem hlt)
      rw [← hfg]
      cases f with
      | true =>
        repeat' (first | refine W1 ?_ | (exfalso; omega) | refine WL_split rfl rfl (fun hg => ?_) (fun hg => ?_) | refine WL_splitB rfl rfl (fun hg => ?_) (fun hg => ?_) | refine WC_cond rfl (fun hc => ?_) (fun hc => ?_) | refine WC_condB rfl (fun hc => ?_) (fun hc => ?_))
        all_goals try (exact absurd rfl (by assumption))
        exact WQ_loop (q + 1) ⟨rfl, rfl, rfl, rfl, rfl, rfl, trivial⟩ ⟨by omega, hcv.up hT, huv.up hT, hS.trans hT⟩ (by omega)
      | false =>
        repeat' (first | refine W1 ?_ | (exfalso; omega) | refine WL_split rfl rfl (fun hg => ?_) (fun hg => ?_) | refine WL_splitB rfl rfl (fun hg => ?_) (fun hg => ?_) | refine WC_cond rfl (fun hc => ?_) (fun hc => ?_) | refine WC_condB rfl (fun hc => ?_) (fun hc => ?_))
        all_goals try (exact absurd rfl (by assumption))
        exact WQ_loop (q + 1) ⟨rfl, rfl, rfl, rfl, rfl, rfl, trivial⟩ ⟨by omega, hcv.up hT, huv.up hT, hS.trans hT⟩ (by omega)
  · repeat' (first | refine W1 ?_ | (exfalso; omega) | refine WL_split rfl rfl (fun hg => ?_) (fun hg => ?_) | refine WL_splitB rfl rfl (fun hg => ?_) (fun hg => ?_) | refine WC_cond rfl (fun hc => ?_) (fun hc => ?_) | refine WC_condB rfl (fun hc => ?_) (fun hc => ?_))
    all_goals try (exact absurd rfl (by assumption))
    refine WL_eff (OE_call rfl evs0 (lives15_any _ (hF.up hS))) rfl ?_
    rintro _ w6 ⟨rfl, hT⟩
    refine W ?_
    first | refine WQ_ret1 rfl rfl ?_ | refine WQ_ret2 rfl rfl rfl ?_ | refine WQ_ret3 rfl rfl rfl rfl ?_ | refine WQ_ret0 rfl ?_ | refine WQ_end0 rfl ?_
    exact .mk ⟨rfl, hS.trans hT⟩
end Go.Proofs.YtgpibcgebpgmiaaDoor
