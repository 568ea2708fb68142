import Derived.Test.YtddopcmemiheaaaCar13
namespace Go.Proofs.Ytddopcmemiheaaa
open Go Go.Eng Go.RowKit
set_option linter.unusedVariables false

/-! ### the plain law of the order: sorting is the reference's insertion -/
def insG {α : Type} (lt : α → α → Bool) (l : List α) (d : α) : List α := l.takeWhile (fun x => lt x d) ++ [d] ++ l.dropWhile (fun x => lt x d)
structure OrdB {α : Type} (lt : α → α → Bool) : Prop where
  asym : ∀ a b, lt a b = true → lt b a = false
  trans : ∀ a b d, lt b a = false → lt d b = false → lt d a = false
theorem insG_perm {α : Type} (lt : α → α → Bool) (l : List α) (d : α) : (insG lt l d).Perm (l ++ [d]) := by
  unfold insG
  rw [List.append_assoc, List.singleton_append]
  refine List.Perm.trans List.perm_middle ?_
  rw [List.takeWhile_append_dropWhile]
  exact (List.perm_append_singleton d l).symm
theorem insG_sorted {α : Type} {lt : α → α → Bool} (ho : OrdB lt) {l : List α} (d : α) (h : l.Pairwise (fun a b => lt b a = false)) : (insG lt l d).Pairwise (fun a b => lt b a = false) := by
  unfold insG
  have ht : ∀ a ∈ l.takeWhile (fun x => lt x d), lt a d = true := fun a ha => List.all_eq_true.1 List.all_takeWhile a ha
  have hd : ∀ a ∈ l.dropWhile (fun x => lt x d), lt a d = false := by
    have hp : (l.dropWhile (fun x => lt x d)).Pairwise (fun a b => lt b a = false) := h.sublist (List.dropWhile_sublist _)
    have hh := List.head?_dropWhile_not (fun x => lt x d) l
    cases hc : l.dropWhile (fun x => lt x d) with
    | nil => simp
    | cons y r =>
      rw [hc] at hp hh
      simp at hh
      intro a ha
      rcases List.mem_cons.1 ha with rfl | ha
      · exact hh
      · exact ho.trans _ _ _ hh ((List.pairwise_cons.1 hp).1 a ha)
  rw [List.append_assoc, List.pairwise_append]
  refine ⟨h.sublist (List.takeWhile_sublist _), ?_, ?_⟩
  · rw [List.singleton_append, List.pairwise_cons]
    exact ⟨fun a ha => hd a ha, h.sublist (List.dropWhile_sublist _)⟩
  · intro a ha b hb
    rcases List.mem_cons.1 hb with rfl | hb
    · exact ho.asym _ _ (ht a ha)
    · have := h
      rw [← List.takeWhile_append_dropWhile (p := fun x => lt x d) (l := l), List.pairwise_append] at this
      exact this.2.2 a ha b hb

theorem ordBD : OrdB lessD where
  asym := fun a b => by simp only [lessD, decide_eq_true_eq, decide_eq_false_iff_not]; omega
  trans := fun a b d => by simp only [lessD, decide_eq_false_iff_not]; omega
theorem lessD_eq (a b : Dlv) (h1 : lessD a b = false) (h2 : lessD b a = false) : a.day = b.day ∧ a.attempt = b.attempt := by
  simp only [lessD, decide_eq_false_iff_not] at h1 h2; omega
theorem sortsD {xs ys : List Dlv} (h : Sorts cmpD xs ys) : ys.Perm xs ∧ ys.Pairwise (fun a b => lessD b a = false) :=
  ⟨h.1, h.2.imp (fun {a b} hab => by rw [cmpD_lt] at hab; simpa using hab)⟩
/-- two sorted lists of the same members are one -/
theorem uniqD {xs ys zs : List Dlv} (h1 : ys.Perm xs) (h2 : ys.Pairwise (fun a b => lessD b a = false)) (h3 : zs.Perm xs) (h4 : zs.Pairwise (fun a b => lessD b a = false)) (hd : ∀ a ∈ xs, ∀ b ∈ xs, a.day = b.day → a.attempt = b.attempt → a = b) : ys = zs := by
  refine List.Perm.eq_of_pairwise (fun a b ha hb e1 e2 => ?_) h2 h4 (h1.trans h3.symm)
  obtain ⟨k1, k2⟩ := lessD_eq _ _ e1 e2
  exact (hd b (h3.subset hb) a (h1.subset ha) k1 k2).symm
theorem ordBR : OrdB lessR where
  asym := fun a b => by simp only [lessR, decide_eq_true_eq, decide_eq_false_iff_not]; omega
  trans := fun a b d => by simp only [lessR, decide_eq_false_iff_not]; omega
theorem lessR_eq (a b : Rpt) (h1 : lessR a b = false) (h2 : lessR b a = false) : a.day = b.day ∧ a.attempt = b.attempt := by
  simp only [lessR, decide_eq_false_iff_not] at h1 h2; omega
theorem sortsR {xs ys : List Rpt} (h : Sorts cmpR xs ys) : ys.Perm xs ∧ ys.Pairwise (fun a b => lessR b a = false) :=
  ⟨h.1, h.2.imp (fun {a b} hab => by rw [cmpR_lt] at hab; simpa using hab)⟩
/-- two sorted lists of the same members are one -/
theorem uniqR {xs ys zs : List Rpt} (h1 : ys.Perm xs) (h2 : ys.Pairwise (fun a b => lessR b a = false)) (h3 : zs.Perm xs) (h4 : zs.Pairwise (fun a b => lessR b a = false)) (hd : ∀ a ∈ xs, ∀ b ∈ xs, a.day = b.day → a.attempt = b.attempt → a = b) : ys = zs := by
  refine List.Perm.eq_of_pairwise (fun a b ha hb e1 e2 => ?_) h2 h4 (h1.trans h3.symm)
  obtain ⟨k1, k2⟩ := lessR_eq _ _ e1 e2
  exact (hd b (h3.subset hb) a (h1.subset ha) k1 k2).symm

/-- ways and papers as the laws meet them: the attempts of the papers are distinct -/
def Dist (ps : List Pap) : Prop := ps.Pairwise (fun a b => a.attempt ≠ b.attempt)
theorem Dist.eq {ps : List Pap} (h : Dist ps) {p q : Pap} (hp : p ∈ ps) (hq : q ∈ ps) (e : p.attempt = q.attempt) : p = q := by
  obtain ⟨i, hi, rfl⟩ := List.getElem_of_mem hp
  obtain ⟨j, hj, rfl⟩ := List.getElem_of_mem hq
  have h' := List.pairwise_iff_getElem.1 h
  rcases Nat.lt_trichotomy i j with h1 | h1 | h1
  · exact absurd e (h' i j hi hj h1)
  · subst h1; rfl
  · exact absurd e.symm (h' j i hj hi h1)
theorem wayP_eq (ws : List Wy) (p : Pap) : dlvOf p (wayP ws p.attempt) = dlvOf p (wayOf ws p.attempt) ∧ dlvOk p (wayP ws p.attempt) = dlvOk p (wayOf ws p.attempt) ∧ rptsOf p (wayP ws p.attempt) = rptsOf p (wayOf ws p.attempt) := by
  unfold wayP wayOf
  cases ws.find? (fun x => decide (x.attempt = p.attempt)) with
  | some y => exact ⟨rfl, rfl, rfl⟩
  | none => exact ⟨rfl, rfl, rfl⟩
theorem mem_allD {ws : List Wy} {ps : List Pap} {a : Dlv} (h : a ∈ allD ws ps) : ∃ p ∈ ps, a = dlvOf p (wayP ws p.attempt) := by
  unfold allD at h
  obtain ⟨p, hp, h⟩ := List.mem_flatMap.1 h
  split at h
  · exact ⟨p, hp, by simpa using h⟩
  · simp at h
theorem mem_allR {ws : List Wy} {ps : List Pap} {a : Rpt} (h : a ∈ allR ws ps) : ∃ p ∈ ps, ∃ i : Int, a = rptAt p (wayP ws p.attempt) i := by
  unfold allR at h
  obtain ⟨p, hp, h⟩ := List.mem_flatMap.1 h
  unfold rptsOf at h
  split at h
  · simp at h
  · split at h
    · rcases List.mem_cons.1 h with rfl | h
      · exact ⟨p, hp, 1, rfl⟩
      · exact ⟨p, hp, 2, by simpa using h⟩
    · exact ⟨p, hp, 1, by simpa using h⟩
theorem keyD {ws : List Wy} {ps : List Pap} (hd : Dist ps) {a b : Dlv} (ha : a ∈ allD ws ps) (hb : b ∈ allD ws ps) (h1 : a.day = b.day) (h2 : a.attempt = b.attempt) : a = b := by
  obtain ⟨p, hp, rfl⟩ := mem_allD ha
  obtain ⟨q, hq, rfl⟩ := mem_allD hb
  have : p = q := hd.eq hp hq h2
  rw [this]
theorem keyR {ws : List Wy} {ps : List Pap} (hd : Dist ps) {a b : Rpt} (ha : a ∈ allR ws ps) (hb : b ∈ allR ws ps) (h1 : a.day = b.day) (h2 : a.attempt = b.attempt) : a = b := by
  obtain ⟨p, hp, i, rfl⟩ := mem_allR ha
  obtain ⟨q, hq, j, rfl⟩ := mem_allR hb
  have : p = q := hd.eq hp hq h2
  subst this
  have : i = j := by simp only [rptAt] at h1; omega
  rw [this]
theorem runD_perm (till : Int) (ws : List Wy) : ∀ (ps : List Pap) (acc : List Dlv), (ps.foldl (stepD till ws) acc).Perm (acc ++ (allD ws ps).filter (fun x => !decide (x.day > till)))
  | [], acc => by simp [allD]
  | p :: ps, acc => by
    obtain ⟨e1, e2, _⟩ := wayP_eq ws p
    have ih := runD_perm till ws ps (stepD till ws acc p)
    have hc : allD ws (p :: ps) = (if dlvOk p (wayP ws p.attempt) then [dlvOf p (wayP ws p.attempt)] else []) ++ allD ws ps := by unfold allD; rw [List.flatMap_cons]
    rw [List.foldl_cons, hc, List.filter_append, ← List.append_assoc]
    refine ih.trans (List.Perm.append_right _ ?_)
    unfold stepD
    rw [e1, e2]
    by_cases h1 : dlvOk p (wayOf ws p.attempt) = true
    · by_cases h2 : (dlvOf p (wayOf ws p.attempt)).day ≤ till
      · rw [if_pos ⟨h1, h2⟩, if_pos h1, List.filter_cons_of_pos (by simpa using h2)]
        exact insG_perm lessD acc _
      · rw [if_neg (fun h => h2 h.2), if_pos h1, List.filter_cons_of_neg (by simpa using h2)]
        simp
    · rw [if_neg (fun h => h1 h.1), if_neg h1]
      simp
theorem runD_sorted (till : Int) (ws : List Wy) : ∀ (ps : List Pap) (acc : List Dlv), acc.Pairwise (fun a b => lessD b a = false) → (ps.foldl (stepD till ws) acc).Pairwise (fun a b => lessD b a = false)
  | [], acc, h => h
  | p :: ps, acc, h => by
    rw [List.foldl_cons]
    refine runD_sorted till ws ps _ ?_
    unfold stepD
    split
    · exact insG_sorted ordBD _ h
    · exact h
theorem putR_perm (till : Int) : ∀ (l acc : List Rpt), (l.foldl (putR till) acc).Perm (acc ++ l.filter (fun x => !decide (x.day > till)))
  | [], acc => by simp
  | r :: l, acc => by
    rw [List.foldl_cons]
    refine (putR_perm till l _).trans ?_
    unfold putR
    by_cases h2 : r.day ≤ till
    · rw [if_pos h2, List.filter_cons_of_pos (by simpa using h2)]
      refine (List.Perm.append_right _ (insG_perm lessR acc r)).trans ?_
      simp
    · rw [if_neg h2, List.filter_cons_of_neg (by simpa using h2)]
theorem putR_sorted (till : Int) : ∀ (l acc : List Rpt), acc.Pairwise (fun a b => lessR b a = false) → (l.foldl (putR till) acc).Pairwise (fun a b => lessR b a = false)
  | [], acc, h => h
  | r :: l, acc, h => by
    rw [List.foldl_cons]
    refine putR_sorted till l _ ?_
    unfold putR
    split
    · exact insG_sorted ordBR _ h
    · exact h
theorem runR_perm (till : Int) (ws : List Wy) : ∀ (ps : List Pap) (acc : List Rpt), (ps.foldl (stepR till ws) acc).Perm (acc ++ (allR ws ps).filter (fun x => !decide (x.day > till)))
  | [], acc => by simp [allR]
  | p :: ps, acc => by
    obtain ⟨_, _, e3⟩ := wayP_eq ws p
    have ih := runR_perm till ws ps (stepR till ws acc p)
    have hc : allR ws (p :: ps) = rptsOf p (wayP ws p.attempt) ++ allR ws ps := by unfold allR; rw [List.flatMap_cons]
    rw [List.foldl_cons, hc, List.filter_append, ← List.append_assoc]
    refine ih.trans (List.Perm.append_right _ ?_)
    unfold stepR
    rw [e3]
    exact putR_perm till _ _
theorem runR_sorted (till : Int) (ws : List Wy) : ∀ (ps : List Pap) (acc : List Rpt), acc.Pairwise (fun a b => lessR b a = false) → (ps.foldl (stepR till ws) acc).Pairwise (fun a b => lessR b a = false)
  | [], acc, h => h
  | p :: ps, acc, h => by
    rw [List.foldl_cons]
    exact runR_sorted till ws ps _ (putR_sorted till _ _ h)
/-- the program's order is the reference's -/
theorem sorts_runD {till : Int} {ws : List Wy} {ps : List Pap} {ds : List Dlv} (hd : Dist ps) (h : Sorts cmpD ((allD ws ps).filter (fun x => !decide (x.day > till))) ds) : ds = runD till ws ps := by
  obtain ⟨h1, h2⟩ := sortsD h
  refine uniqD h1 h2 (by have := runD_perm till ws ps []; rw [List.nil_append] at this; exact this) (runD_sorted till ws ps [] .nil) (fun a ha b hb => ?_)
  exact keyD hd (List.mem_filter.1 ha).1 (List.mem_filter.1 hb).1
theorem sorts_runR {till : Int} {ws : List Wy} {ps : List Pap} {rs : List Rpt} (hd : Dist ps) (h : Sorts cmpR ((allR ws ps).filter (fun x => !decide (x.day > till))) rs) : rs = runR till ws ps := by
  obtain ⟨h1, h2⟩ := sortsR h
  refine uniqR h1 h2 (by have := runR_perm till ws ps []; rw [List.nil_append] at this; exact this) (runR_sorted till ws ps [] .nil) (fun a ha b hb => ?_)
  exact keyR hd (List.mem_filter.1 ha).1 (List.mem_filter.1 hb).1
end Go.Proofs.Ytddopcmemiheaaa
