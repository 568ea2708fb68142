/-
The walk engine, part 4: regions that draw their order. The operations are taken in one order of our own; each either yields one value in every world that may come up, or is the only one that is ready.
-/
import Derived.Test.YtddopcmemiheaaaEng3
namespace Go.Eng
open Go Go.RowKit Go.Proofs
set_option linter.unusedVariables false

section any
variable {P : Program} {ops : Array Oper} {md : Region.Mode} {S : List Nat} {Lt : Nat → Bool}

theorem wp_noQ {o : Oper} {a : Act} {w : World} {K : Act → World → Prop} {Q : Exit → Act → World → Prop} (h : o.wp P a w K (fun _ _ _ => False)) : o.wp P a w K Q := by
  unfold Oper.wp at *
  generalize (execOp a.eval o).run P w = r at *
  cases r with
  | ok n w' =>
    cases n <;> simp only [Oper.upon] at h ⊢
    case enter f args =>
      refine Calls.mono h (fun e w'' he => ?_)
      cases e with
      | returned v => exact he
      | panicked c => exact he.elim
      | outgrown => obtain ⟨_, _, hf⟩ := he; exact hf.elim
    all_goals exact h
  | halt x w' => cases x <;> simp only [Oper.upon] at h

theorem wpOp_noQ {i : Nat} {K : Act → World → Prop} {Q : Exit → Act → World → Prop} {a : Act} {w : World} (h : wpOp P ops (fun _ _ _ => False) i K a w) : wpOp P ops Q i K a w := by
  unfold wpOp at *
  cases ho : ops[i]? with
  | none => simp only [ho] at h ⊢; exact h
  | some o =>
    simp only [ho] at h ⊢
    split
    · rename_i hw
      simp only [hw, if_true] at h
      rcases h with h | ⟨_, _, _, hf⟩
      · exact .inl (wp_noQ h)
      · exact hf.elim
    · rename_i hw; simp only [hw] at h; exact h

/-- whatever order is picked from here on; the old blocks stand but behind the operations of Lt -/
def wpAnyE (P : Program) (md : Region.Mode) (ops : Array Oper) (S : List Nat) (Lt : Nat → Bool) (Z : Act → World → Prop) : Nat → Array Bool → Act → World → Prop
  | 0, listed, a, w => Region.ready md ops listed = [] ∧ Z a w
  | fuel + 1, listed, a, w =>
    (Region.ready md ops listed = [] → Z a w) ∧
    ∀ i ∈ Region.ready md ops listed, wpOp P ops (fun _ _ _ => False) i (fun a' w' => (Stp S w w' ∨ Lt i = true) ∧ wpAnyE P md ops S Lt Z fuel (listed.setIfInBounds i true) a' w') a w

theorem wpAny_of_E {Z : Act → World → Prop} {Q : Exit → Act → World → Prop} (hZ : ∀ a w, Z a w → Q .normal a w) : ∀ (fuel : Nat) (listed : Array Bool) (a : Act) (w : World),
    wpAnyE P md ops S Lt Z fuel listed a w → wpAny P md ops Q fuel listed a w
  | 0, _, _, _, h => ⟨h.1, hZ _ _ h.2⟩
  | fuel + 1, _, _, _, h => ⟨fun h0 => hZ _ _ (h.1 h0), fun i hi => wpOp_mono (fun a' w' hk => wpAny_of_E hZ fuel _ a' w' hk.2) (wpOp_noQ (h.2 i hi))⟩

/-- operation o yields v in every world to which R leads -/
def YE (P : Program) (ops : Array Oper) (R : World → World → Prop) (o : Oper) (v : Value) (a : Act) (w : World) : Prop :=
  (Region.wanted o (yielded ops a.tmps) = true ∧ ∀ w', R w w' → (execOp a.eval o).run P w' = .ok (.value v) w') ∨
  (Region.wanted o (yielded ops a.tmps) = false ∧ v = undef)

theorem YE.same {R : World → World → Prop} {o : Oper} {v : Value} {a a' : Act} {w : World} (hy : YE P ops R o v a w) (he : execOp a'.eval o = execOp a.eval o)
    (hw : Region.wanted o (yielded ops a'.tmps) = Region.wanted o (yielded ops a.tmps)) : YE P ops R o v a' w := by
  unfold YE at *
  rw [he, hw]
  exact hy

theorem first_E {Z : Act → World → Prop} {R : World → World → Prop} (hR0 : ∀ w, R w w) (hRt : ∀ a b c, R a b → R b c → R a c) {i : Nat} {oi : Oper} {v : Value} (hi : ops[i]? = some oi)
    (hRs : ∀ j oj, ops[j]? = some oj → (∀ e ∈ oj.after, Region.binds md e = true → e.on ≠ i) → j ≠ i → ∀ w w', (Stp S w w' ∨ Lt j = true) → R w w')
    (hsel : ∀ (j : Nat) (o : Oper) cs b, ops[j]? = some o → o.op ≠ .select cs b) :
    ∀ (fuel : Nat) (listed : Array Bool) (a : Act) (w : World),
      (∀ j oj, ops[j]? = some oj → j ≠ i → listed.getD j true = false → (∀ e ∈ oj.after, Region.binds md e = true → e.on ≠ i) → oi.apart ops oj = true) →
      (Stp S w w ∨ Lt i = true → True) → i ∈ Region.ready md ops listed → YE P ops R oi v a w →
      wpAnyE P md ops S Lt Z fuel (listed.setIfInBounds i true) (a.put oi.dst v) w → wpAnyE P md ops S Lt Z (fuel + 1) listed a w := by
  have now : ∀ (fuel : Nat) (listed : Array Bool) (a : Act) (w : World), YE P ops R oi v a w → wpAnyE P md ops S Lt Z fuel (listed.setIfInBounds i true) (a.put oi.dst v) w →
      wpOp P ops (fun _ _ _ => False) i (fun a' w' => (Stp S w w' ∨ Lt i = true) ∧ wpAnyE P md ops S Lt Z fuel (listed.setIfInBounds i true) a' w') a w := by
    intro fuel listed a w hy H
    unfold wpOp
    simp only [hi]
    rcases hy with ⟨hw, hv⟩ | ⟨hw, rfl⟩
    · simp only [hw, if_true, Oper.wp, hv w (hR0 w), Oper.upon]; exact .inl ⟨.inl (Stp.refl _ _), H⟩
    · simp only [hw, Bool.false_eq_true, if_false]; exact ⟨.inl (Stp.refl _ _), H⟩
  intro fuel
  induction fuel with
  | zero =>
    intro listed a w _ _ hr hy H
    refine ⟨fun h => (by rw [h] at hr; cases hr), fun j hj => ?_⟩
    by_cases hji : j = i
    · subst hji; exact now _ _ _ _ hy H
    · have := ready_mono hj hji
      rw [H.1] at this
      cases this
  | succ fuel ih =>
    intro listed a w hfree hx hr hy H
    refine ⟨fun h => (by rw [h] at hr; cases hr), fun j hj => ?_⟩
    by_cases hji : j = i
    · subst hji; exact now _ _ _ _ hy H
    · have h1 := H.2 j (ready_mono hj hji)
      obtain ⟨hjun, oj, hoj, hall⟩ := mem_ready.1 hj
      have hnot : ∀ e ∈ oj.after, Region.binds md e = true → e.on ≠ i := fun e he hb heq => by
        have h1 := hall e he hb
        have h0 := (mem_ready.1 hr).1
        rw [heq] at h1
        rcases Nat.lt_or_ge i listed.size with h' | h'
        · simp [h'] at h0 h1; rw [h0] at h1; cases h1
        · simp [Array.getElem?_eq_none h'] at h1
      have hap := hfree j oj hoj hji hjun hnot
      obtain ⟨p1, p2, p3⟩ := Oper.apart_spec hap
      have keep : ∀ (a : Act), YE P ops R oi v a w → ∀ u, YE P ops R oi v (a.put oj.dst u) w := fun a hy u =>
        hy.same (execOp_put oi (fun cs b => hsel i oi cs b hi) a oj.dst u p3) (wanted_put oi a oj.dst u p3)
      have keepD : ∀ (a : Act) d, YE P ops R oi v a w → YE P ops R oi v { a with defers := d :: a.defers } w := fun a d hy => hy.same rfl rfl
      have later : ∀ (a : Act) w', (Stp S w w' ∨ Lt j = true) → YE P ops R oi v a w → YE P ops R oi v a w' := fun a w' hs hy => by
        rcases hy with ⟨hw, hv⟩ | hw
        · exact .inl ⟨hw, fun w'' h'' => hv w'' (hRt _ _ _ (hRs j oj hoj hnot hji w w' hs) h'')⟩
        · exact .inr hw
      have hfree' : ∀ k ok, ops[k]? = some ok → k ≠ i → (listed.setIfInBounds j true).getD k true = false →
          (∀ e ∈ ok.after, Region.binds md e = true → e.on ≠ i) → oi.apart ops ok = true := fun k ok hk hki hun hno => by
        refine hfree k ok hk hki ?_ hno
        by_cases hjk : j = k
        · subst hjk; exact hjun
        · rw [getD_set_ne true hjk] at hun; exact hun
      have fin : ∀ a' w', YE P ops R oi v a' w → (Stp S w w' ∨ Lt j = true) ∧ wpAnyE P md ops S Lt Z fuel ((listed.setIfInBounds i true).setIfInBounds j true) (a'.put oi.dst v) w' →
          (Stp S w w' ∨ Lt j = true) ∧ wpAnyE P md ops S Lt Z (fuel + 1) (listed.setIfInBounds j true) a' w' := by
        rintro a' w' hy' ⟨hs, hk⟩
        refine ⟨hs, ih _ a' w' hfree' (fun _ => trivial) (ready_mono hr (Ne.symm hji)) (later a' w' hs hy') ?_⟩
        rw [Array.setIfInBounds_comm _ _ hji]
        exact hk
      have hsj : ∀ cs b, oj.op ≠ .select cs b := fun cs b => hsel j oj cs b hoj
      unfold wpOp at *
      simp only [hoj] at *
      rw [wanted_put oj a oi.dst v p1] at h1
      split
      · rename_i hw
        simp only [hw, if_true] at h1
        rcases h1 with h1 | ⟨_, _, _, hf⟩
        case inr => exact hf.elim
        refine .inl ?_
        unfold Oper.wp at *
        rw [execOp_put oj hsj a oi.dst v p1] at h1
        generalize (execOp a.eval oj).run P w = r at *
        cases r with
        | ok n w' =>
          cases n <;> simp only [Oper.upon] at h1 ⊢
          case value u => exact fin _ _ (keep a hy u) (by rw [← Act.put_comm a v u p2]; exact h1)
          case skip => exact fin _ _ (keep a hy _) (by rw [← Act.put_comm a v undef p2]; exact h1)
          case defer d =>
            refine fin _ _ (keep _ (keepD a d hy) _) ?_
            rw [← Act.put_comm _ v undef p2, ← Act.put_defers]
            exact h1
          case enter f args =>
            refine Calls.mono h1 fun e w'' he => ?_
            cases e with
            | returned u => exact fin _ _ (keep a hy u) (by rw [← Act.put_comm a v u p2]; exact he)
            | panicked c => exact he
            | outgrown => exact he
          case row row args => exact Rows.mono h1 fun u w'' he => fin _ _ (keep a hy u) (by rw [← Act.put_comm a v u p2]; exact he)
        | halt x w' =>
          cases x <;> simp only [Oper.upon] at h1
      · rename_i hw
        simp only [hw] at h1
        exact fin _ _ (keep a hy _) (by rw [← Act.put_comm a v undef p2]; exact h1)
end any

/-! ### the order, and what a Bool asks of it -/
/-- 0: yields one value in every world; 1: in every world in which the old blocks stand; else: it alone is ready -/
def bound (ops : Array Oper) (Lt : List Nat) (i : Nat) : Bool :=
  Lt.all fun j => j == i || (match ops[j]? with | some oj => oj.after.any (fun e => Region.binds .any e && e.on == i) | none => true)
def wt : List (Nat × Nat) → Nat
  | [] => 0
  | (_, _) :: r => wt r + 1
/-- 'sk': an operation that was listed already, and whose place in the order is passed over -/
def checkS (ops : Array Oper) (Lt : List Nat) : List (Nat × Nat) → Option Nat → Array Bool → Bool
  | [], sk, listed => sk.isNone && (Region.ready .any ops listed).isEmpty
  | (i, 0) :: r, sk, listed => (Region.ready .any ops listed).contains i && Region.free .any ops listed i && checkS ops Lt r sk (listed.setIfInBounds i true)
  | (i, 1) :: r, sk, listed => (Region.ready .any ops listed).contains i && Region.free .any ops listed i && bound ops Lt i && checkS ops Lt r sk (listed.setIfInBounds i true)
  | (i, 2) :: r, sk, listed => if sk = some i then checkS ops Lt r none listed else Region.ready .any ops listed == [i] && checkS ops Lt r sk (listed.setIfInBounds i true)
  | (i, q + 3) :: r, sk, listed => sk.isNone && (Region.ready .any ops listed == [i, q] && checkS ops Lt r none (listed.setIfInBounds i true) && Region.ready .any ops (listed.setIfInBounds q true) == [i] && checkS ops Lt r (some q) ((listed.setIfInBounds q true).setIfInBounds i true))
def checkD (ops : Array Oper) (Lt : List Nat) (ord : List (Nat × Nat)) (listed : Array Bool) : Bool := checkS ops Lt ord none listed
def delO (q : Nat) : List (Nat × Nat) → List (Nat × Nat)
  | [] => []
  | (i, 2) :: r => if i = q then r else (i, 2) :: delO q r
  | (i, 0) :: r => (i, 0) :: delO q r
  | (i, 1) :: r => (i, 1) :: delO q r
  | (i, k + 3) :: r => (i, k + 3) :: delO q r
theorem checkS_del {ops : Array Oper} {Lt : List Nat} {q : Nat} : ∀ (r : List (Nat × Nat)) (listed : Array Bool), checkS ops Lt r (some q) listed = true → checkS ops Lt (delO q r) none listed = true ∧ wt r = wt (delO q r) + 1
  | [], listed, h => by simp [checkS] at h
  | (i, 0) :: r, listed, h => by
    simp only [checkS, Bool.and_eq_true] at h
    obtain ⟨h1, h2⟩ := checkS_del r _ h.2
    simp only [delO, checkS, Bool.and_eq_true]
    exact ⟨⟨h.1, h1⟩, by simp [wt, h2]⟩
  | (i, 1) :: r, listed, h => by
    simp only [checkS, Bool.and_eq_true] at h
    obtain ⟨h1, h2⟩ := checkS_del r _ h.2
    simp only [delO, checkS, Bool.and_eq_true]
    exact ⟨⟨h.1, h1⟩, by simp [wt, h2]⟩
  | (i, 2) :: r, listed, h => by
    by_cases e : i = q
    · subst e
      simp only [checkS, if_pos] at h
      simp only [delO, if_pos]
      exact ⟨h, by simp [wt]⟩
    · have e' : ¬ (some q = some i) := by simpa using fun h => e h.symm
      simp only [checkS, if_neg e', Bool.and_eq_true] at h
      obtain ⟨h1, h2⟩ := checkS_del r _ h.2
      simp only [delO, if_neg e, checkS]
      refine ⟨?_, by simp [wt, h2]⟩
      rw [if_neg (by simp)]
      simp only [Bool.and_eq_true]
      exact ⟨h.1, h1⟩
  | (i, k + 3) :: r, listed, h => by simp [checkS] at h

structure WD (P : Program) (n : Nat) (ops : Array Oper) (S : List Nat) (Lt : List Nat) (Q : Exit → Act → World → Prop) (ord : List (Nat × Nat)) (e : Env) (w : World) : Prop where
  h : ∀ listed : Array Bool, Region.noSelect ops = true → checkD ops Lt ord listed = true → ∀ a, Has n e a → wpAnyE P .any ops S (fun j => Lt.contains j) (fun a w => Q .normal a w) (wt ord) listed a w

section rules
variable {P : Program} {n : Nat} {Q : Exit → Act → World → Prop} {e : Env} {w : World} {ops : Array Oper} {S : List Nat} {Lt : List Nat} {rest : List (Nat × Nat)}

theorem WC_drawn {id : Nat} {l : List Oper} (m : Nat) (S : List Nat) (Lt : List Nat) (ord : List (Nat × Nat)) (hlm : l.length = m) (hm : P.follows .mixedOrders = true) (hs : Region.noSelect l.toArray = true) (hl : Nat.beq (wt ord) l.length = true)
    (hB : checkD l.toArray Lt ord (Array.replicate m false) = true)
    (h : ∀ w', Stp [] w w' → WD P n l.toArray S Lt Q ord e w') : WC P n (.region id l.toArray true) Q e w := by
  subst hlm
  refine ⟨fun a ha => wp_region_any hm ?_⟩
  have h1 := (h { w with drawn := w.drawn + 1 } (Stp.drew [] w)).h _ hs hB a ha
  have h2 := wpAny_of_E (Q := Q) (fun a w hz => hz) _ _ _ _ h1
  rw [Nat.eq_of_beq_eq_true hl] at h2
  simpa using h2

theorem WD_nil (h : WQ n Q .normal e w) : WD P n ops S Lt Q [] e w :=
  ⟨fun _ _ hB a ha => ⟨by simpa [checkD, checkS] using hB, h.h a ha⟩⟩

def gdOk (ops : Array Oper) (e : Env) : Option (Nat × Bool) → Prop
  | none => True
  | some (j, b) => yld ops e j = some (.bool b)
theorem wanted_ok {o : Oper} {a : Act} (ha : Has n e a) (hg : gdOk ops e o.guard) : Region.wanted o (yielded ops a.tmps) = true := by
  unfold Region.wanted
  cases hgd : o.guard with
  | none => rfl
  | some jb =>
    obtain ⟨j, b⟩ := jb
    rw [hgd] at hg
    simp [yielded_of ha hg]
theorem WD_step0 {i d : Nat} {o : Oper} {v : Value} (hi : ops[i]? = some o) (hd : o.dst = some d) (hY : ∀ a, Has n e a → YE P ops (fun _ _ => True) o v a w) (hdn : Nat.blt d n = true)
    (k : WD P n ops S Lt Q rest ((d, v) :: e) w) : WD P n ops S Lt Q ((i, 0) :: rest) e w := by
  refine ⟨fun listed hs hB a ha => ?_⟩
  simp only [checkD, checkS, Bool.and_eq_true] at hB
  obtain ⟨⟨h1, h2⟩, h3⟩ := hB
  have hk := k.h _ hs h3 _ (ha.put (v := v) hdn)
  rw [← hd] at hk
  exact first_E (R := fun _ _ => True) (fun _ => trivial) (fun _ _ _ _ _ => trivial) hi (fun _ _ _ _ _ _ _ _ => trivial) (Region.noSelect_spec hs) _ _ _ _ (Region.free_spec hi h2) (fun _ => trivial) (by simpa using h1) (hY a ha) hk

theorem bound_spec {i j : Nat} {oj : Oper} (hb : bound ops Lt i = true) (hj : ops[j]? = some oj) (hn : ∀ e ∈ oj.after, Region.binds .any e = true → e.on ≠ i) (hji : j ≠ i) : Lt.contains j = false := by
  cases hc : Lt.contains j with
  | false => rfl
  | true =>
    have hm : j ∈ Lt := by simpa using hc
    have := (List.all_eq_true.1 hb) j hm
    simp only [hj, Bool.or_eq_true, beq_iff_eq, hji, false_or] at this
    obtain ⟨e, he, hbe⟩ := Array.any_eq_true'.1 this
    simp only [Bool.and_eq_true, beq_iff_eq] at hbe
    exact absurd hbe.2 (hn e he hbe.1)

theorem WD_step1 {i d : Nat} {o : Oper} {v : Value} (hi : ops[i]? = some o) (hd : o.dst = some d) (hY : ∀ a, Has n e a → YE P ops (Stp S) o v a w) (hdn : Nat.blt d n = true)
    (k : WD P n ops S Lt Q rest ((d, v) :: e) w) : WD P n ops S Lt Q ((i, 1) :: rest) e w := by
  refine ⟨fun listed hs hB a ha => ?_⟩
  simp only [checkD, checkS, Bool.and_eq_true] at hB
  obtain ⟨⟨⟨h1, h2⟩, hb⟩, h3⟩ := hB
  have hk := k.h _ hs h3 _ (ha.put (v := v) hdn)
  rw [← hd] at hk
  refine first_E (R := Stp S) (fun w => Stp.refl _ w) (fun _ _ _ h k => h.trans k) hi (fun j oj hj hn hji w w' hs => ?_) (Region.noSelect_spec hs) _ _ _ _ (Region.free_spec hi h2) (fun _ => trivial) (by simpa using h1) (hY a ha) hk
  rcases hs with hs | hs
  · exact hs
  · rw [bound_spec hb hj hn hji] at hs; cases hs

variable {i d : Nat} {op : Op} {ty : TypeId} {pos : String} {af : Array Edge} {gd : Option (Nat × Bool)} {v : Value}
/-- an operation that looks at no memory -/
theorem WD_free (hi : ops[i]? = some ⟨some d, op, ty, pos, af, gd⟩) (hg : gdOk ops e gd) (hp : ∀ w', PR P n ⟨some d, op, ty, pos, af, gd⟩ e w' v) (hdn : Nat.blt d n = true)
    (k : WD P n ops S Lt Q rest ((d, v) :: e) w) : WD P n ops S Lt Q ((i, 0) :: rest) e w :=
  WD_step0 hi rfl (fun a ha => .inl ⟨wanted_ok ha hg, fun w' _ => (hp w').h a ha⟩) hdn k
/-- one that reads old memory -/
theorem WD_read (hi : ops[i]? = some ⟨some d, op, ty, pos, af, gd⟩) (hg : gdOk ops e gd) (hp : ∀ w', Stp S w w' → PR P n ⟨some d, op, ty, pos, af, gd⟩ e w' v) (hdn : Nat.blt d n = true)
    (k : WD P n ops S Lt Q rest ((d, v) :: e) w) : WD P n ops S Lt Q ((i, 1) :: rest) e w :=
  WD_step1 hi rfl (fun a ha => .inl ⟨wanted_ok ha hg, fun w' hw => (hp w' hw).h a ha⟩) hdn k
/-- one that is passed over -/
theorem WD_pass0 (hi : ops[i]? = some ⟨some d, op, ty, pos, af, gd⟩) (hg : noB ops e gd = true) (hdn : Nat.blt d n = true)
    (k : WD P n ops S Lt Q rest ((d, undef) :: e) w) : WD P n ops S Lt Q ((i, 0) :: rest) e w :=
  WD_step0 hi rfl (fun a ha => .inr ⟨wanted_noB ha hg, rfl⟩) hdn k
theorem WD_pass1 (hi : ops[i]? = some ⟨some d, op, ty, pos, af, gd⟩) (hg : noB ops e gd = true) (hdn : Nat.blt d n = true)
    (k : WD P n ops S Lt Q rest ((d, undef) :: e) w) : WD P n ops S Lt Q ((i, 1) :: rest) e w :=
  WD_step1 hi rfl (fun a ha => .inr ⟨wanted_noB ha hg, rfl⟩) hdn k

/-- one operation, whatever else is ready -/
structure WD1 (P : Program) (n : Nat) (ops : Array Oper) (S : List Nat) (Lt : List Nat) (Q : Exit → Act → World → Prop) (i : Nat) (ord : List (Nat × Nat)) (e : Env) (w : World) : Prop where
  h : ∀ listed : Array Bool, Region.noSelect ops = true → checkD ops Lt ord (listed.setIfInBounds i true) = true → ∀ a, Has n e a →
    wpOp P ops (fun _ _ _ => False) i (fun a' w' => (Stp S w w' ∨ Lt.contains i = true) ∧ wpAnyE P .any ops S (fun j => Lt.contains j) (fun a w => Q .normal a w) (wt ord) (listed.setIfInBounds i true) a' w') a w
theorem WD1_mk {o : Oper} {dst : Option Nat} {G : Value → World → Prop} (hi : ops[i]? = some o) (hdst : o.dst = dst) (hg : gdOk ops e o.guard) (hp : OE P n o e w (fun v w' => (Stp S w w' ∨ Lt.contains i = true) ∧ G v w'))
    (k : ∀ v w' a', G v w' → ∀ a, Has n e a → a' = a.put dst v → ∃ e', Has n e' a' ∧ WD P n ops S Lt Q rest e' w') : WD1 P n ops S Lt Q i rest e w := by
  refine ⟨fun listed hs h3 a ha => ?_⟩
  unfold wpOp
  simp only [hi]
  rw [if_pos (wanted_ok ha hg)]
  refine .inl (Oper.wp_mono ?_ (hp.h a ha _))
  rintro a' w' ⟨v, rfl, hs', hG⟩
  obtain ⟨e', he', hk⟩ := k v w' (a.put o.dst v) hG a ha (by rw [hdst])
  exact ⟨hs', hk.h _ hs h3 _ he'⟩
theorem WD_one (h : WD1 P n ops S Lt Q i rest e w) : WD P n ops S Lt Q ((i, 2) :: rest) e w := by
  refine ⟨fun listed hs hB a ha => ?_⟩
  simp only [checkD, checkS] at hB
  rw [if_neg (by simp)] at hB
  simp only [Bool.and_eq_true, beq_iff_eq] at hB
  obtain ⟨h1, h3⟩ := hB
  refine ⟨fun h0 => absurd (h1 ▸ h0) (by simp), fun j hj => ?_⟩
  rw [h1] at hj
  obtain rfl : j = i := by simpa using hj
  exact h.h _ hs h3 a ha
/-- two are ready, and both orders are shown -/
theorem WD_two {q : Nat} (h1 : WD1 P n ops S Lt Q i rest e w) (h2 : WD1 P n ops S Lt Q q ((i, 2) :: delO q rest) e w) : WD P n ops S Lt Q ((i, q + 3) :: rest) e w := by
  refine ⟨fun listed hs hB a ha => ?_⟩
  simp only [checkD, checkS, Bool.and_eq_true, beq_iff_eq] at hB
  obtain ⟨_, ⟨⟨hr, hr1⟩, hr2⟩, h3⟩ := hB
  obtain ⟨h4, h5⟩ := checkS_del _ _ h3
  have hw : wt ((i, q + 3) :: rest) = wt rest + 1 := by simp [wt]
  rw [hw]
  refine ⟨fun h0 => absurd (hr ▸ h0) (by simp), fun j hj => ?_⟩
  rw [hr] at hj
  have c2 : checkD ops Lt ((i, 2) :: delO q rest) (listed.setIfInBounds q true) = true := by
    simp only [checkD, checkS]
    rw [if_neg (by simp)]
    simp only [Bool.and_eq_true, beq_iff_eq]
    exact ⟨hr2, h4⟩
  have hw2 : wt rest = wt ((i, 2) :: delO q rest) := by simp [wt, h5]
  have hj' : j = i ∨ j = q := by simpa using hj
  rcases hj' with rfl | rfl
  · exact h1.h _ hs hr1 a ha
  · rw [hw2]
    exact h2.h _ hs c2 a ha
theorem WD_only {o : Oper} {dst : Option Nat} {G : Value → World → Prop} (hi : ops[i]? = some o) (hdst : o.dst = dst) (hg : gdOk ops e o.guard) (hp : OE P n o e w (fun v w' => (Stp S w w' ∨ Lt.contains i = true) ∧ G v w'))
    (k : ∀ v w' a', G v w' → ∀ a, Has n e a → a' = a.put dst v → ∃ e', Has n e' a' ∧ WD P n ops S Lt Q rest e' w') : WD P n ops S Lt Q ((i, 2) :: rest) e w :=
  WD_one (WD1_mk hi hdst hg hp k)
/-- an effect that is passed over -/
theorem WD_pass2 (hi : ops[i]? = some ⟨some d, op, ty, pos, af, gd⟩) (hg : noB ops e gd = true) (hdn : Nat.blt d n = true)
    (k : WD P n ops S Lt Q rest ((d, undef) :: e) w) : WD P n ops S Lt Q ((i, 2) :: rest) e w := by
  refine WD_one ⟨fun listed hs h3 a ha => ?_⟩
  unfold wpOp
  simp only [hi]
  have hw := wanted_noB (o := ⟨some d, op, ty, pos, af, gd⟩) ha hg
  rw [if_neg (by simp [hw])]
  exact ⟨.inl (Stp.refl _ _), k.h _ hs h3 _ (ha.put (v := undef) hdn)⟩
theorem WD1_eff {G : Value → World → Prop} (hi : ops[i]? = some ⟨some d, op, ty, pos, af, gd⟩) (hg : gdOk ops e gd) (hp : OE P n ⟨some d, op, ty, pos, af, gd⟩ e w G) (hG : ∀ v w', G v w' → Stp S w w') (hdn : Nat.blt d n = true)
    (k : ∀ v w', G v w' → WD P n ops S Lt Q rest ((d, v) :: e) w') : WD1 P n ops S Lt Q i rest e w :=
  WD1_mk (G := G) hi rfl hg (hp.mono fun v w' h => ⟨.inl (hG v w' h), h⟩) (fun v w' a' h a ha e => ⟨_, by rw [e]; exact ha.put hdn, k v w' h⟩)
/-- the only one that is ready: it leaves the old blocks alone -/
theorem WD_eff {G : Value → World → Prop} (hi : ops[i]? = some ⟨some d, op, ty, pos, af, gd⟩) (hg : gdOk ops e gd) (hp : OE P n ⟨some d, op, ty, pos, af, gd⟩ e w G) (hG : ∀ v w', G v w' → Stp S w w') (hdn : Nat.blt d n = true)
    (k : ∀ v w', G v w' → WD P n ops S Lt Q rest ((d, v) :: e) w') : WD P n ops S Lt Q ((i, 2) :: rest) e w :=
  WD_only (G := G) hi rfl hg (hp.mono fun v w' h => ⟨.inl (hG v w' h), h⟩) (fun v w' a' h a ha e => ⟨_, by rw [e]; exact ha.put hdn, k v w' h⟩)
theorem WD_eff0 {G : Value → World → Prop} (hi : ops[i]? = some ⟨none, op, ty, pos, af, gd⟩) (hg : gdOk ops e gd) (hp : OE P n ⟨none, op, ty, pos, af, gd⟩ e w G) (hG : ∀ v w', G v w' → Stp S w w')
    (k : ∀ v w', G v w' → WD P n ops S Lt Q rest e w') : WD P n ops S Lt Q ((i, 2) :: rest) e w :=
  WD_only (G := G) hi rfl hg (hp.mono fun v w' h => ⟨.inl (hG v w' h), h⟩) (fun v w' a' h a ha e => ⟨_, by rw [e]; exact ha, k v w' h⟩)
/-- the only one that is ready: it is one of Lt -/
theorem WD_late {G : Value → World → Prop} (hi : ops[i]? = some ⟨some d, op, ty, pos, af, gd⟩) (hg : gdOk ops e gd) (hp : OE P n ⟨some d, op, ty, pos, af, gd⟩ e w G) (hL : Lt.contains i = true) (hdn : Nat.blt d n = true)
    (k : ∀ v w', G v w' → WD P n ops S Lt Q rest ((d, v) :: e) w') : WD P n ops S Lt Q ((i, 2) :: rest) e w :=
  WD_only (G := G) hi rfl hg (hp.mono fun v w' h => ⟨.inr hL, h⟩) (fun v w' a' h a ha e => ⟨_, by rw [e]; exact ha.put hdn, k v w' h⟩)
theorem WD_late0 {G : Value → World → Prop} (hi : ops[i]? = some ⟨none, op, ty, pos, af, gd⟩) (hg : gdOk ops e gd) (hp : OE P n ⟨none, op, ty, pos, af, gd⟩ e w G) (hL : Lt.contains i = true)
    (k : ∀ v w', G v w' → WD P n ops S Lt Q rest e w') : WD P n ops S Lt Q ((i, 2) :: rest) e w :=
  WD_only (G := G) hi rfl hg (hp.mono fun v w' h => ⟨.inr hL, h⟩) (fun v w' a' h a ha e => ⟨_, by rw [e]; exact ha, k v w' h⟩)
/-- an undecided guard -/
theorem WD_split {ord : List (Nat × Nat)} {j : Nat} {p : Prop} [Decidable p] (hy : look e j = some (.bool (decide p)))
    (ht : p → WD P n ops S Lt Q ord ((j, .bool true) :: e) w) (hf : ¬ p → WD P n ops S Lt Q ord ((j, .bool false) :: e) w) : WD P n ops S Lt Q ord e w := by
  refine ⟨fun listed hs hB a ha => ?_⟩
  by_cases hp : p
  · exact (ht hp).h _ hs hB a (ha.same hy (by simp [hp]))
  · exact (hf hp).h _ hs hB a (ha.same hy (by simp [hp]))
/-- the guard of the operation that comes next is not decided: part on it -/
theorem WD_splitN {i q j d : Nat} {b : Bool} {o : Oper} {p : Prop} [Decidable p] (hi : ops[i]? = some o) (hg : o.guard = some (j, b)) (hj : dstOf ops j = some d) (hy : look e d = some (.bool (decide p)))
    (ht : p → WD P n ops S Lt Q ((i, q) :: rest) ((d, .bool true) :: e) w) (hf : ¬ p → WD P n ops S Lt Q ((i, q) :: rest) ((d, .bool false) :: e) w) : WD P n ops S Lt Q ((i, q) :: rest) e w :=
  WD_split hy ht hf
theorem WD_splitBN {i q j d : Nat} {b : Bool} {o : Oper} {t : Bool} (hi : ops[i]? = some o) (hg : o.guard = some (j, b)) (hj : dstOf ops j = some d) (hy : look e d = some (.bool t))
    (ht : t = true → WD P n ops S Lt Q ((i, q) :: rest) ((d, .bool true) :: e) w) (hf : t = false → WD P n ops S Lt Q ((i, q) :: rest) ((d, .bool false) :: e) w) : WD P n ops S Lt Q ((i, q) :: rest) e w := by
  refine ⟨fun listed hs hB a ha => ?_⟩
  cases t
  · exact (hf rfl).h _ hs hB a (ha.same hy rfl)
  · exact (ht rfl).h _ hs hB a (ha.same hy rfl)
end rules
end Go.Eng
