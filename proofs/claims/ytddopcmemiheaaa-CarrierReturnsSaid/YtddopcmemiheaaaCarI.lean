import Derived.Test.YtddopcmemiheaaaCarA
namespace Go.Proofs.Ytddopcmemiheaaa
open Go Go.Eng Go.RowKit
set_option linter.unusedVariables false

/-! ### the order of the papers, and one paper alone: plain laws -/
theorem turn_perm {α : Type} (l : List α) (z : Int) : (turn l z).Perm l := by
  unfold turn
  exact List.perm_append_comm.trans (by rw [List.take_append_drop])
theorem Dist.perm {ps qs : List Pap} (h : Dist ps) (hp : qs.Perm ps) : Dist qs := (hp.pairwise_iff (fun h => Ne.symm h)).2 h
theorem fit_turn {ps : List Pap} {ws : List Wy} (h : Fit ps ws) (z : Int) : Fit (turn ps z) ws where
  dist := h.dist.perm (turn_perm ps z)
  len := by rw [(turn_perm ps z).length_eq]; exact h.len
  sent := fun p hp => h.sent p ((turn_perm ps z).mem_iff.1 hp)
  days := h.days
def ownW (ws : List Wy) (z : Int) : List Wy := ws.filter (fun y => decide (y.attempt = z))
theorem find_filter {α : Type} (p : α → Bool) : ∀ (l : List α), (l.filter p).find? p = l.find? p
  | [] => rfl
  | x :: r => by
    by_cases h : p x = true
    · rw [List.filter_cons_of_pos h, List.find?_cons_of_pos h, List.find?_cons_of_pos h]
    · rw [List.filter_cons_of_neg h, List.find?_cons_of_neg h, find_filter p r]
theorem wayP_own (ws : List Wy) (z : Int) : wayP (ownW ws z) z = wayP ws z := by
  unfold wayP ownW
  rw [find_filter]
theorem fit_one {ps : List Pap} {ws : List Wy} (h : Fit ps ws) {p : Pap} (hp : p ∈ ps) (z : Int) : Fit [p] (ownW ws z) where
  dist := by simp [Dist]
  len := by simp
  sent := fun q hq => by
    obtain rfl : q = p := by simpa using hq
    exact h.sent q hp
  days := fun y hy => h.days y (List.mem_filter.1 hy).1
theorem flatMap_one {α β : Type} [DecidableEq β] (key : α → Int) (f : α → List β) {p : α} : ∀ {ps : List α}, ps.Pairwise (fun a b => key a ≠ key b) → p ∈ ps → ps.flatMap (fun q => if key q = key p then f q else []) = f p
  | [], _, h => by cases h
  | x :: r, hd, h => by
    obtain ⟨h1, h2⟩ := List.pairwise_cons.1 hd
    rw [List.flatMap_cons]
    rcases List.mem_cons.1 h with rfl | h
    · rw [if_pos rfl]
      have : r.flatMap (fun q => if key q = key p then f q else []) = [] := by
        rw [List.flatMap_eq_nil_iff]
        intro q hq
        rw [if_neg (fun e => h1 q hq e.symm)]
      rw [this, List.append_nil]
    · rw [if_neg (h1 p h), List.nil_append]
      exact flatMap_one key f h2 h
theorem filter_all {α : Type} {p : α → Bool} {l : List α} (h : ∀ x ∈ l, p x = true) : l.filter p = l := List.filter_eq_self.2 h
theorem filter_none {α : Type} {p : α → Bool} {l : List α} (h : ∀ x ∈ l, p x = false) : l.filter p = [] := by
  rw [List.filter_eq_nil_iff]
  intro x hx
  simp [h x hx]
def partD (ws : List Wy) (p : Pap) : List Dlv := if dlvOk p (wayP ws p.attempt) then [dlvOf p (wayP ws p.attempt)] else []
def partR (ws : List Wy) (p : Pap) : List Rpt := rptsOf p (wayP ws p.attempt)
theorem partD_att {ws : List Wy} {p : Pap} {x : Dlv} (h : x ∈ partD ws p) : x.attempt = p.attempt := by
  unfold partD at h
  split at h
  · obtain rfl := List.mem_singleton.1 h
    rfl
  · cases h
theorem partR_att {ws : List Wy} {p : Pap} {x : Rpt} (h : x ∈ partR ws p) : x.attempt = p.attempt := by
  unfold partR rptsOf at h
  split at h
  · cases h
  · split at h
    · simp at h
      rcases h with rfl | rfl <;> rfl
    · obtain rfl := List.mem_singleton.1 h
      rfl
theorem allD_one (ws : List Wy) (ps : List Pap) (hd : Dist ps) {p : Pap} (hp : p ∈ ps) : (allD ws ps).filter (fun x => decide (x.attempt = p.attempt)) = partD ws p := by
  have e : allD ws ps = ps.flatMap (partD ws) := rfl
  rw [e, List.filter_flatMap]
  have : (fun q => (partD ws q).filter (fun x => decide (x.attempt = p.attempt))) = fun q => if q.attempt = p.attempt then partD ws q else [] := by
    funext q
    split
    · rename_i h
      exact filter_all (fun x hx => by simp [partD_att hx, h])
    · rename_i h
      exact filter_none (fun x hx => by simp [partD_att hx, h])
  rw [this]
  exact flatMap_one (fun q : Pap => q.attempt) (partD ws) hd hp
theorem runD_turn {ws : List Wy} {ps : List Pap} (hd : Dist ps) (t z : Int) : runD t ws (turn ps z) = runD t ws ps := by
  have p1 := runD_perm t ws (turn ps z) []
  have p2 := runD_perm t ws ps []
  rw [List.nil_append] at p1 p2
  have hperm : (allD ws (turn ps z)).Perm (allD ws ps) := List.Perm.flatMap_right _ (turn_perm ps z)
  exact uniqD (p1.trans (hperm.filter _)) (runD_sorted t ws _ [] List.Pairwise.nil) p2 (runD_sorted t ws ps [] List.Pairwise.nil) (fun x hx y hy h1 h2 => keyD hd (List.mem_filter.1 hx).1 (List.mem_filter.1 hy).1 h1 h2)
theorem runD_one {ws : List Wy} {ps : List Pap} (hd : Dist ps) (t : Int) {p : Pap} (hp : p ∈ ps) : (runD t ws ps).filter (fun x => decide (x.attempt = p.attempt)) = runD t (ownW ws p.attempt) [p] := by
  have p1 := runD_perm t ws ps []
  have p2 := runD_perm t (ownW ws p.attempt) [p] []
  rw [List.nil_append] at p1 p2
  have e2 : allD (ownW ws p.attempt) [p] = partD ws p := by
    show [p].flatMap (partD (ownW ws p.attempt)) = _
    rw [List.flatMap_cons, List.flatMap_nil, List.append_nil]
    unfold partD
    rw [wayP_own]
  rw [e2] at p2
  have p3 := p1.filter (fun x => decide (x.attempt = p.attempt))
  rw [List.filter_filter] at p3
  have e3 : (allD ws ps).filter (fun x => decide (x.attempt = p.attempt) && !decide (x.day > t)) = (partD ws p).filter (fun x => !decide (x.day > t)) := by
    rw [← allD_one ws ps hd hp, List.filter_filter]
    congr 1
    funext x
    exact Bool.and_comm _ _
  rw [e3] at p3
  exact uniqD p3 ((runD_sorted t ws ps [] List.Pairwise.nil).filter _) p2 (runD_sorted t _ _ [] List.Pairwise.nil) (fun x hx y hy h1 h2 => by
    have hx' := (List.mem_filter.1 hx).1
    have hy' := (List.mem_filter.1 hy).1
    rw [← allD_one ws ps hd hp] at hx' hy'
    exact keyD hd (List.mem_filter.1 hx').1 (List.mem_filter.1 hy').1 h1 h2)
theorem runD_att {ws : List Wy} {ps : List Pap} {t : Int} {x : Dlv} (h : x ∈ runD t ws ps) : ps.any (fun p => decide (p.attempt = x.attempt)) = true := by
  have p1 := runD_perm t ws ps []
  rw [List.nil_append] at p1
  obtain ⟨h1, _⟩ := List.mem_filter.1 (p1.mem_iff.1 h)
  obtain ⟨q, hq, hx⟩ := List.mem_flatMap.1 (show x ∈ ps.flatMap (partD ws) from h1)
  rw [List.any_eq_true]
  exact ⟨q, hq, by simp [partD_att hx]⟩
/-- how many belong to the first papers -/
def uptoD (l : List Dlv) (ps : List Pap) (k : Nat) : Nat := (l.filter (fun x => (ps.take k).any (fun p => decide (p.attempt = x.attempt)))).length
theorem uptoD_step {l : List Dlv} {ps : List Pap} (hd : Dist ps) {k : Nat} (hk : k < ps.length) : uptoD l ps (k + 1) = uptoD l ps k + (l.filter (fun x => decide (x.attempt = ps[k].attempt))).length := by
  unfold uptoD
  induction l with
  | nil => rfl
  | cons x r ih =>
    have hdis : (ps.take k).any (fun p => decide (p.attempt = x.attempt)) = true → ¬ x.attempt = ps[k].attempt := by
      intro h e
      obtain ⟨j, hj, hjk, hp⟩ := (any_take_idx _ _ _).1 h
      exact (List.pairwise_iff_getElem.1 hd) j k hj hk hjk (by rw [← e]; simpa using hp)
    have hsuc : (ps.take (k + 1)).any (fun p => decide (p.attempt = x.attempt)) = ((ps.take k).any (fun p => decide (p.attempt = x.attempt)) || decide (x.attempt = ps[k].attempt)) := by
      rw [List.take_succ_eq_append_getElem hk, List.any_append]
      simp [eq_comm]
    simp only [List.filter_cons, hsuc]
    by_cases h1 : (ps.take k).any (fun p => decide (p.attempt = x.attempt)) = true
    · rw [h1]
      simp only [Bool.true_or, if_true]
      rw [if_neg (by simpa using hdis h1)]
      simp only [List.length_cons]
      omega
    · rw [Bool.eq_false_iff.2 h1]
      by_cases h2 : x.attempt = ps[k].attempt
      · simp only [h2, Bool.false_or, decide_true, if_true, Bool.false_eq_true, if_false, List.length_cons]
        omega
      · simp only [h2, Bool.or_false, decide_false, Bool.false_eq_true, if_false]
        exact ih
theorem uptoD_end {ws : List Wy} {ps : List Pap} {t : Int} : uptoD (runD t ws ps) ps ps.length = (runD t ws ps).length := by
  unfold uptoD
  rw [filter_all]
  intro x hx
  rw [List.take_length]
  exact runD_att hx
theorem uptoD_le (l : List Dlv) (ps : List Pap) (k : Nat) : uptoD l ps k ≤ l.length := List.length_filter_le _ _
theorem allR_one (ws : List Wy) (ps : List Pap) (hd : Dist ps) {p : Pap} (hp : p ∈ ps) : (allR ws ps).filter (fun x => decide (x.attempt = p.attempt)) = partR ws p := by
  have e : allR ws ps = ps.flatMap (partR ws) := rfl
  rw [e, List.filter_flatMap]
  have : (fun q => (partR ws q).filter (fun x => decide (x.attempt = p.attempt))) = fun q => if q.attempt = p.attempt then partR ws q else [] := by
    funext q
    split
    · rename_i h
      exact filter_all (fun x hx => by simp [partR_att hx, h])
    · rename_i h
      exact filter_none (fun x hx => by simp [partR_att hx, h])
  rw [this]
  exact flatMap_one (fun q : Pap => q.attempt) (partR ws) hd hp
theorem runR_turn {ws : List Wy} {ps : List Pap} (hd : Dist ps) (t z : Int) : runR t ws (turn ps z) = runR t ws ps := by
  have p1 := runR_perm t ws (turn ps z) []
  have p2 := runR_perm t ws ps []
  rw [List.nil_append] at p1 p2
  have hperm : (allR ws (turn ps z)).Perm (allR ws ps) := List.Perm.flatMap_right _ (turn_perm ps z)
  exact uniqR (p1.trans (hperm.filter _)) (runR_sorted t ws _ [] List.Pairwise.nil) p2 (runR_sorted t ws ps [] List.Pairwise.nil) (fun x hx y hy h1 h2 => keyR hd (List.mem_filter.1 hx).1 (List.mem_filter.1 hy).1 h1 h2)
theorem runR_one {ws : List Wy} {ps : List Pap} (hd : Dist ps) (t : Int) {p : Pap} (hp : p ∈ ps) : (runR t ws ps).filter (fun x => decide (x.attempt = p.attempt)) = runR t (ownW ws p.attempt) [p] := by
  have p1 := runR_perm t ws ps []
  have p2 := runR_perm t (ownW ws p.attempt) [p] []
  rw [List.nil_append] at p1 p2
  have e2 : allR (ownW ws p.attempt) [p] = partR ws p := by
    show [p].flatMap (partR (ownW ws p.attempt)) = _
    rw [List.flatMap_cons, List.flatMap_nil, List.append_nil]
    unfold partR
    rw [wayP_own]
  rw [e2] at p2
  have p3 := p1.filter (fun x => decide (x.attempt = p.attempt))
  rw [List.filter_filter] at p3
  have e3 : (allR ws ps).filter (fun x => decide (x.attempt = p.attempt) && !decide (x.day > t)) = (partR ws p).filter (fun x => !decide (x.day > t)) := by
    rw [← allR_one ws ps hd hp, List.filter_filter]
    congr 1
    funext x
    exact Bool.and_comm _ _
  rw [e3] at p3
  exact uniqR p3 ((runR_sorted t ws ps [] List.Pairwise.nil).filter _) p2 (runR_sorted t _ _ [] List.Pairwise.nil) (fun x hx y hy h1 h2 => by
    have hx' := (List.mem_filter.1 hx).1
    have hy' := (List.mem_filter.1 hy).1
    rw [← allR_one ws ps hd hp] at hx' hy'
    exact keyR hd (List.mem_filter.1 hx').1 (List.mem_filter.1 hy').1 h1 h2)
theorem runR_att {ws : List Wy} {ps : List Pap} {t : Int} {x : Rpt} (h : x ∈ runR t ws ps) : ps.any (fun p => decide (p.attempt = x.attempt)) = true := by
  have p1 := runR_perm t ws ps []
  rw [List.nil_append] at p1
  obtain ⟨h1, _⟩ := List.mem_filter.1 (p1.mem_iff.1 h)
  obtain ⟨q, hq, hx⟩ := List.mem_flatMap.1 (show x ∈ ps.flatMap (partR ws) from h1)
  rw [List.any_eq_true]
  exact ⟨q, hq, by simp [partR_att hx]⟩
/-- how many belong to the first papers -/
def uptoR (l : List Rpt) (ps : List Pap) (k : Nat) : Nat := (l.filter (fun x => (ps.take k).any (fun p => decide (p.attempt = x.attempt)))).length
theorem uptoR_step {l : List Rpt} {ps : List Pap} (hd : Dist ps) {k : Nat} (hk : k < ps.length) : uptoR l ps (k + 1) = uptoR l ps k + (l.filter (fun x => decide (x.attempt = ps[k].attempt))).length := by
  unfold uptoR
  induction l with
  | nil => rfl
  | cons x r ih =>
    have hdis : (ps.take k).any (fun p => decide (p.attempt = x.attempt)) = true → ¬ x.attempt = ps[k].attempt := by
      intro h e
      obtain ⟨j, hj, hjk, hp⟩ := (any_take_idx _ _ _).1 h
      exact (List.pairwise_iff_getElem.1 hd) j k hj hk hjk (by rw [← e]; simpa using hp)
    have hsuc : (ps.take (k + 1)).any (fun p => decide (p.attempt = x.attempt)) = ((ps.take k).any (fun p => decide (p.attempt = x.attempt)) || decide (x.attempt = ps[k].attempt)) := by
      rw [List.take_succ_eq_append_getElem hk, List.any_append]
      simp [eq_comm]
    simp only [List.filter_cons, hsuc]
    by_cases h1 : (ps.take k).any (fun p => decide (p.attempt = x.attempt)) = true
    · rw [h1]
      simp only [Bool.true_or, if_true]
      rw [if_neg (by simpa using hdis h1)]
      simp only [List.length_cons]
      omega
    · rw [Bool.eq_false_iff.2 h1]
      by_cases h2 : x.attempt = ps[k].attempt
      · simp only [h2, Bool.false_or, decide_true, if_true, Bool.false_eq_true, if_false, List.length_cons]
        omega
      · simp only [h2, Bool.or_false, decide_false, Bool.false_eq_true, if_false]
        exact ih
theorem uptoR_end {ws : List Wy} {ps : List Pap} {t : Int} : uptoR (runR t ws ps) ps ps.length = (runR t ws ps).length := by
  unfold uptoR
  rw [filter_all]
  intro x hx
  rw [List.take_length]
  exact runR_att hx
theorem uptoR_le (l : List Rpt) (ps : List Pap) (k : Nat) : uptoR l ps k ≤ l.length := List.length_filter_le _ _
end Go.Proofs.Ytddopcmemiheaaa
