/-
The walk engine, part 1: sparse environments, the judgements on code and on lists of operations, the rules for control flow and for operations without effect.
-/
import Derived.WalkKit
import Derived.WalkSpells
import Derived.WalkLawsBesides
import Derived.Shelf.Abstract
import Derived.Orders
namespace Go.Eng
open Go Go.RowKit Go.Proofs
set_option linter.unusedVariables false

abbrev Env := List (Nat × Value)

def look : Env → Nat → Option Value
  | [], _ => none
  | (k, v) :: r, t => bif Nat.beq k t then some v else look r t

def ev (e : Env) : Operand → Option Value
  | .tmp t => look e t
  | .const v => some v
  | .global g => some (.pointer (some ⟨g, 0, none⟩))
  | .func f => some (.func (.func f) #[] #[])

structure Has (n : Nat) (e : Env) (a : Act) : Prop where
  defers : a.defers = []
  size : a.tmps.size = n
  vals : ∀ t v, look e t = some v → a.tmps.getD t undef = v

section basics
variable {n : Nat} {e : Env} {a : Act}

theorem Has.ev {x : Operand} {v : Value} (h : Has n e a) (hx : ev e x = some v) : a.eval x = v := by
  cases x with
  | tmp t => exact h.vals t v hx
  | const c => simpa [Eng.ev, Act.eval] using hx
  | global g => simpa [Eng.ev, Act.eval] using hx
  | func f => simpa [Eng.ev, Act.eval] using hx

theorem look_cons (d : Nat) (v : Value) (e : Env) (t : Nat) : look ((d, v) :: e) t = if d = t then some v else look e t := by
  simp only [look]
  by_cases h : d = t
  · subst h; simp
  · have : Nat.beq d t = false := by
      cases hb : Nat.beq d t with
      | false => rfl
      | true => exact absurd (Nat.eq_of_beq_eq_true hb) h
    simp [this, h]

theorem Has.put {d : Nat} {v : Value} (h : Has n e a) (hd : Nat.blt d n = true) : Has n ((d, v) :: e) (a.put (some d) v) := by
  have hlt : d < a.tmps.size := by rw [h.size]; exact Nat.le_of_ble_eq_true hd
  refine ⟨h.defers, by simp [Act.put, h.size], fun t u hu => ?_⟩
  rw [look_cons] at hu
  simp only [Act.put]
  by_cases hdt : d = t
  · subst hdt
    simp at hu
    subst hu
    simp [hlt]
  · rw [if_neg hdt] at hu
    have := h.vals t u hu
    simpa [Array.getElem?_setIfInBounds_ne hdt] using this

theorem Has.weak {e' : Env} (h : Has n e a) (hs : ∀ t v, look e' t = some v → look e t = some v) : Has n e' a :=
  ⟨h.defers, h.size, fun t v hv => h.vals t v (hs t v hv)⟩

/-- each listed slot holds that value -/
def Sub : Env → Env → Prop
  | [], _ => True
  | (k, v) :: r, e => look e k = some v ∧ Sub r e

theorem Sub.look {e' e : Env} (h : Sub e' e) : ∀ t v, Eng.look e' t = some v → Eng.look e t = some v := by
  induction e' with
  | nil => intro t v hv; simp [Eng.look] at hv
  | cons p r ih =>
    intro t v hv
    obtain ⟨d, u⟩ := p
    rw [look_cons] at hv
    by_cases hd : d = t
    · subst hd; simp at hv; subst hv; exact h.1
    · rw [if_neg hd] at hv; exact ih h.2 t v hv

theorem Has.sub {e' : Env} (h : Has n e a) (hs : Sub e' e) : Has n e' a := h.weak hs.look
end basics

/-! ### judgements -/
section judge
variable (P : Program) (n : Nat)

structure WQ (n : Nat) (Q : Exit → Act → World → Prop) (x : Exit) (e : Env) (w : World) : Prop where
  h : ∀ a, Has n e a → Q x a w
structure WC (c : Code) (Q : Exit → Act → World → Prop) (e : Env) (w : World) : Prop where
  h : ∀ a, Has n e a → c.wp P Q a w
structure WL (ops : Array Oper) (Q : Exit → Act → World → Prop) (l : List Oper) (e : Env) (w : World) : Prop where
  h : ∀ a, Has n e a → wpList P ops Q l a w
end judge

section rules
variable {P : Program} {n : Nat} {Q : Exit → Act → World → Prop} {e : Env} {w : World} {ops : Array Oper} {rest : List Oper}

theorem WC_seq {x y : Code} (h : WC P n x (Exit.then (fun a w => y.wp P Q a w) Q) e w) : WC P n (x.seq y) Q e w :=
  ⟨fun a ha => wp_seq (h.h a ha)⟩
theorem WQ_then {y : Code} (h : WC P n y Q e w) : WQ n (Exit.then (fun a w => y.wp P Q a w) Q) .normal e w := ⟨fun a ha => h.h a ha⟩
theorem WQ_then_ret {N : Act → World → Prop} (h : WQ n Q .ret e w) : WQ n (Exit.then N Q) .ret e w := ⟨fun a ha => h.h a ha⟩
theorem WQ_then_exit {N : Act → World → Prop} {i : Nat} (h : WQ n Q (.exit i) e w) : WQ n (Exit.then N Q) (.exit i) e w := ⟨fun a ha => h.h a ha⟩
theorem WQ_block {i : Nat} (h : WQ n Q .normal e w) : WQ n (Exit.inBlock i Q) .normal e w := ⟨fun a ha => h.h a ha⟩
theorem WQ_block_ret {i : Nat} (h : WQ n Q .ret e w) : WQ n (Exit.inBlock i Q) .ret e w := ⟨fun a ha => h.h a ha⟩
theorem WQ_block_here {i : Nat} (h : WQ n Q .normal e w) : WQ n (Exit.inBlock i Q) (.exit i) e w := by
  refine ⟨fun a ha => ?_⟩
  simp only [Exit.inBlock, if_true]
  exact h.h a ha
theorem WQ_block_on {i j : Nat} (hij : Nat.beq i j = false) (h : WQ n Q (.exit i) e w) : WQ n (Exit.inBlock j Q) (.exit i) e w := by
  refine ⟨fun a ha => ?_⟩
  simp only [Exit.inBlock]
  rw [if_neg (Nat.ne_of_beq_eq_false hij)]
  exact h.h a ha
theorem WC_skip (h : WQ n Q .normal e w) : WC P n .skip Q e w := ⟨fun a ha => wp_skip (h.h a ha)⟩
theorem WC_ret (h : WQ n Q .ret e w) : WC P n .ret Q e w := ⟨fun a ha => wp_ret (h.h a ha)⟩
theorem WC_exit {i : Nat} (h : WQ n Q (.exit i) e w) : WC P n (.exit i) Q e w := ⟨fun a ha => wp_exit (h.h a ha)⟩
theorem WC_block {i : Nat} {c : Code} (h : WC P n c (Exit.inBlock i Q) e w) : WC P n (.block i c) Q e w := ⟨fun a ha => wp_block (h.h a ha)⟩
theorem WC_cond_true {c : Operand} {x y : Code} (hc : ev e c = some (.bool true)) (h : WC P n x Q e w) : WC P n (.cond c x y) Q e w :=
  ⟨fun a ha => wp_cond_true (ha.ev hc) (h.h a ha)⟩
theorem WC_cond_false {c : Operand} {x y : Code} (hc : ev e c = some (.bool false)) (h : WC P n y Q e w) : WC P n (.cond c x y) Q e w :=
  ⟨fun a ha => wp_cond_false (ha.ev hc) (h.h a ha)⟩
theorem WC_cond {c : Operand} {x y : Code} {p : Prop} [Decidable p] (hc : ev e c = some (.bool (decide p))) (ht : p → WC P n x Q e w) (hf : ¬ p → WC P n y Q e w) : WC P n (.cond c x y) Q e w :=
  ⟨fun a ha => wp_cond_split (ha.ev hc) (fun h => (ht (of_decide_eq_true h)).h a ha) (fun h => (hf (of_decide_eq_false h)).h a ha)⟩
theorem WC_condB {c : Operand} {x y : Code} {t : Bool} (hc : ev e c = some (.bool t)) (ht : t = true → WC P n x Q e w) (hf : t = false → WC P n y Q e w) : WC P n (.cond c x y) Q e w :=
  ⟨fun a ha => wp_cond_split (ha.ev hc) (fun h => (ht h).h a ha) (fun h => (hf h).h a ha)⟩
theorem WC_region {id : Nat} {l : List Oper} (h : WL P n l.toArray Q l e w) : WC P n (.region id l.toArray false) Q e w :=
  ⟨fun a ha => wp_region_lit (h.h a ha)⟩
theorem WL_nil (h : WQ n Q .normal e w) : WL P n ops Q [] e w := ⟨fun a ha => wpList_nil (h.h a ha)⟩

/-- forget all slots but the listed ones -/
theorem WC_weak {c : Code} (e' : Env) (hs : Sub e' e) (h : WC P n c Q e' w) : WC P n c Q e w := ⟨fun a ha => h.h a (ha.sub hs)⟩
theorem WQ_weak {x : Exit} (e' : Env) (hs : Sub e' e) (h : WQ n Q x e' w) : WQ n Q x e w := ⟨fun a ha => h.h a (ha.sub hs)⟩

/-- a cut: the first part ends normally with the listed slots and a fact, or leaves by another way -/
theorem WC_cut {x y : Code} {σ : Type} (env : σ → Env) (I : σ → World → Prop)
    (h : WC P n x (Exit.then (fun a w => ∃ s, Has n (env s) a ∧ I s w) Q) e w) (k : ∀ s w, I s w → WC P n y Q (env s) w) : WC P n (x.seq y) Q e w :=
  ⟨fun a ha => wp_seq (wp_mono (h.h a ha) (fun ex a w hq => by
    cases ex with
    | normal => obtain ⟨s, h1, h2⟩ := hq; exact (k s w h2).h a h1
    | _ => exact hq))⟩
/-- the same behind the parting of a sequence -/
theorem WC_cutQ {x y : Code} {σ : Type} (env : σ → Env) (I : σ → World → Prop)
    (h : WC P n x (Exit.then (fun a w => ∃ s, Has n (env s) a ∧ I s w) Q) e w) (k : ∀ s w, I s w → WC P n y Q (env s) w) : WC P n x (Exit.then (fun a w => y.wp P Q a w) Q) e w :=
  ⟨fun a ha => wp_mono (h.h a ha) (fun ex a w hq => by
    cases ex with
    | normal => obtain ⟨s, h1, h2⟩ := hq; exact (k s w h2).h a h1
    | _ => exact hq)⟩
/-- the same inside a block -/
theorem WC_cutB {x y : Code} {σ : Type} {i : Nat} (env : σ → Env) (I : σ → World → Prop)
    (h : WC P n x (Exit.inBlock i (Exit.then (fun a w => ∃ s, Has n (env s) a ∧ I s w) Q)) e w) (k : ∀ s w, I s w → WC P n y Q (env s) w) : WC P n x (Exit.inBlock i (Exit.then (fun a w => y.wp P Q a w) Q)) e w :=
  ⟨fun a ha => wp_mono (h.h a ha) (fun ex a w hq => by
    cases ex with
    | normal => obtain ⟨s, h1, h2⟩ := hq; exact (k s w h2).h a h1
    | exit j =>
      simp only [Exit.inBlock] at hq ⊢
      split
      · rename_i hj
        rw [if_pos hj] at hq
        obtain ⟨s, h1, h2⟩ := hq
        exact (k s w h2).h a h1
      · rename_i hj
        rw [if_neg hj] at hq
        exact hq
    | _ => exact hq)⟩
theorem WQ_cut {σ : Type} {env : σ → Env} {I : σ → World → Prop} (s : σ) (hs : Sub (env s) e) (hI : I s w) : WQ n (Exit.then (fun a w => ∃ s, Has n (env s) a ∧ I s w) Q) .normal e w :=
  ⟨fun a ha => ⟨s, ha.sub hs, hI⟩⟩

/-- a loop: the listed slots at each head, a fact, a measure -/
theorem WC_loop {c : Code} {σ : Type} (env : σ → Env) (I : σ → World → Prop) (μ : σ → Nat) (s₀ : σ) (hs : Sub (env s₀) e) (hI : I s₀ w)
    (round : ∀ s w, I s w → WC P n c (Exit.then (fun a' w' => ∃ s', Has n (env s') a' ∧ I s' w' ∧ μ s' < μ s) Q) (env s) w) : WC P n (.loop c) Q e w := by
  refine ⟨fun a ha => ?_⟩
  have key : ∀ (k : Nat) (s : σ) (a : Act) (w : World), μ s ≤ k → Has n (env s) a → I s w → (Code.loop c).wp P Q a w := by
    intro k s a w _ h1 h2
    refine wp_loop (fun a' w' => ∃ s', Has n (env s') a' ∧ I s' w') (fun a' w' => Classical.epsilon (fun m => ∃ s', Has n (env s') a' ∧ I s' w' ∧ μ s' = m ∧ ∀ s'', Has n (env s'') a' → I s'' w' → m ≤ μ s'')) ⟨s, h1, h2⟩ ?_
    intro a w ⟨s', h1', h2'⟩
    have hex : ∀ a w, (∃ s', Has n (env s') a ∧ I s' w) → ∃ m, ∃ s', Has n (env s') a ∧ I s' w ∧ μ s' = m ∧ ∀ s'', Has n (env s'') a → I s'' w → m ≤ μ s'' := by
      intro a w ⟨s', h1', h2'⟩
      have : ∀ m, ∀ s', μ s' = m → Has n (env s') a → I s' w → ∃ m, ∃ s', Has n (env s') a ∧ I s' w ∧ μ s' = m ∧ ∀ s'', Has n (env s'') a → I s'' w → m ≤ μ s'' := by
        intro m
        induction m using Nat.strongRecOn with
        | _ m ih =>
          intro s' hm h1 h2
          by_cases hmin : ∀ s'', Has n (env s'') a → I s'' w → m ≤ μ s''
          · exact ⟨m, s', h1, h2, hm, hmin⟩
          · have : ∃ s'', Has n (env s'') a ∧ I s'' w ∧ μ s'' < m := by
              refine Classical.byContradiction fun hno => hmin fun s'' h1 h2 => ?_
              exact Nat.le_of_not_lt fun hlt => hno ⟨s'', h1, h2, hlt⟩
            obtain ⟨s'', h1', h2', hlt⟩ := this
            exact ih _ hlt s'' rfl h1' h2'
      exact this _ s' rfl h1' h2'
    obtain ⟨s₁, g1, g2, g3, g4⟩ := Classical.epsilon_spec (hex a w ⟨s', h1', h2'⟩)
    have hr := (round s₁ w g2).h a g1
    refine wp_mono hr (fun ex a' w' hq => ?_)
    cases ex with
    | normal =>
      obtain ⟨s₂, k1, k2, k3⟩ := hq
      refine ⟨⟨s₂, k1, k2⟩, ?_⟩
      obtain ⟨s₃, m1, m2, m3, m4⟩ := Classical.epsilon_spec (hex a' w' ⟨s₂, k1, k2⟩)
      have := m4 s₂ k1 k2
      rw [g3] at k3
      exact Nat.lt_of_le_of_lt this k3
    | _ => exact hq
  exact key (μ s₀) s₀ a w (Nat.le_refl _) (ha.sub hs) hI
theorem WQ_loop {σ : Type} {env : σ → Env} {I : σ → World → Prop} {μ : σ → Nat} {m : Nat} (s : σ) (hs : Sub (env s) e) (hI : I s w) (hm : μ s < m) :
    WQ n (Exit.then (fun a w => ∃ s, Has n (env s) a ∧ I s w ∧ μ s < m) Q) .normal e w :=
  ⟨fun a ha => ⟨s, ha.sub hs, hI, hm⟩⟩

/-! ### operations without effect -/
structure PR (P : Program) (n : Nat) (o : Oper) (e : Env) (w : World) (v : Value) : Prop where
  h : ∀ a, Has n e a → (execOp a.eval o).run P w = .ok (.value v) w

theorem WL_pure {d : Nat} {op : Op} {ty : TypeId} {pos : String} {af : Array Edge} {v : Value} (hp : PR P n ⟨some d, op, ty, pos, af, none⟩ e w v) (hd : Nat.blt d n = true)
    (k : WL P n ops Q rest ((d, v) :: e) w) : WL P n ops Q (⟨some d, op, ty, pos, af, none⟩ :: rest) e w := by
  refine ⟨fun a ha => ?_⟩
  refine wpList_plain rfl (fun K hK => ?_)
  unfold Oper.wp
  rw [hp.h a ha]
  exact hK _ _ ((k).h _ (ha.put hd))

/-- an operation with effects: whatever it yields meets G -/
structure OE (P : Program) (n : Nat) (o : Oper) (e : Env) (w : World) (G : Value → World → Prop) : Prop where
  h : ∀ a, Has n e a → ∀ (Q : Exit → Act → World → Prop), o.wp P a w (fun a' w' => ∃ v, a' = a.put o.dst v ∧ G v w') Q

theorem WL_eff {d : Nat} {op : Op} {ty : TypeId} {pos : String} {af : Array Edge} {G : Value → World → Prop} (hp : OE P n ⟨some d, op, ty, pos, af, none⟩ e w G) (hd : Nat.blt d n = true)
    (k : ∀ v w', G v w' → WL P n ops Q rest ((d, v) :: e) w') : WL P n ops Q (⟨some d, op, ty, pos, af, none⟩ :: rest) e w := by
  refine ⟨fun a ha => ?_⟩
  refine wpList_plain rfl (fun K hK => ?_)
  refine Oper.wp_mono ?_ (hp.h a ha Q)
  rintro a' w' ⟨v, rfl, hg⟩
  exact hK _ _ ((k v w' hg).h _ (ha.put hd))
theorem WL_eff0 {op : Op} {ty : TypeId} {pos : String} {af : Array Edge} {G : Value → World → Prop} (hp : OE P n ⟨none, op, ty, pos, af, none⟩ e w G)
    (k : ∀ v w', G v w' → WL P n ops Q rest e w') : WL P n ops Q (⟨none, op, ty, pos, af, none⟩ :: rest) e w := by
  refine ⟨fun a ha => ?_⟩
  refine wpList_plain rfl (fun K hK => ?_)
  refine Oper.wp_mono ?_ (hp.h a ha Q)
  rintro a' w' ⟨v, rfl, hg⟩
  exact hK _ _ ((k v w' hg).h _ ha)

/-! ### guards -/
def yld (ops : Array Oper) (e : Env) (j : Nat) : Option Value := ((ops[j]?).bind (·.dst)).bind (look e)

theorem yielded_of {ops : Array Oper} {a : Act} {j : Nat} {b : Bool} (ha : Has n e a) (h : yld ops e j = some (.bool b)) : yielded ops a.tmps j = some b := by
  unfold yld at h
  unfold yielded
  cases hd : (ops[j]?).bind (·.dst) with
  | none => rw [hd] at h; simp at h
  | some d =>
    rw [hd] at h
    have := ha.vals d _ h
    simp only [Array.getD_eq_getD_getElem?] at this
    simp only [Option.bind_some]
    cases hx : a.tmps[d]? with
    | none => rw [hx] at this; simp [undef] at this
    | some u => rw [hx] at this; simp at this; subst this; simp

theorem WL_go {d : Option Nat} {op : Op} {ty : TypeId} {pos : String} {af : Array Edge} {j : Nat} {b : Bool} (hy : yld ops e j = some (.bool b))
    (k : WL P n ops Q (⟨d, op, ty, pos, af, none⟩ :: rest) e w) : WL P n ops Q (⟨d, op, ty, pos, af, some (j, b)⟩ :: rest) e w := by
  refine ⟨fun a ha => ?_⟩
  have hk := k.h a ha
  have hw : Region.wanted ⟨d, op, ty, pos, af, some (j, b)⟩ (yielded ops a.tmps) = true := by simp [Region.wanted, yielded_of ha hy]
  unfold wpList at hk ⊢
  rw [if_pos hw]
  rw [if_pos (by simp [Region.wanted])] at hk
  exact hk
def notB : Value → Bool → Bool
  | .bool c, b => c != b
  | _, _ => true
def noB (ops : Array Oper) (e : Env) : Option (Nat × Bool) → Bool
  | none => false
  | some (j, b) => match yld ops e j with
    | some u => notB u b
    | none => false
theorem wanted_noB {ops : Array Oper} {a : Act} {o : Oper} (ha : Has n e a) (h : noB ops e o.guard = true) : Region.wanted o (yielded ops a.tmps) = false := by
  unfold Region.wanted
  cases hg : o.guard with
  | none => rw [hg] at h; cases h
  | some jb =>
    obtain ⟨j, b⟩ := jb
    rw [hg] at h
    simp only [noB] at h
    cases hy : yld ops e j with
    | none => rw [hy] at h; cases h
    | some u =>
      rw [hy] at h
      unfold yld at hy
      show (yielded ops a.tmps j == some b) = false
      unfold yielded
      cases hd : (ops[j]?).bind (·.dst) with
      | none => rw [hd] at hy; simp at hy
      | some d =>
        rw [hd] at hy
        simp only [Option.bind_some] at hy
        have := ha.vals d _ hy
        simp only [Array.getD_eq_getD_getElem?] at this
        simp only [Option.bind_some]
        cases hx : a.tmps[d]? with
        | none => rfl
        | some z =>
          rw [hx] at this
          simp at this
          subst this
          cases z <;> first | rfl | (simp only [notB] at h; cases b <;> simp_all)
theorem WL_pass {d : Nat} {op : Op} {ty : TypeId} {pos : String} {af : Array Edge} {j : Nat} {b : Bool} (hy : noB ops e (some (j, b)) = true) (hd : Nat.blt d n = true)
    (k : WL P n ops Q rest ((d, undef) :: e) w) : WL P n ops Q (⟨some d, op, ty, pos, af, some (j, b)⟩ :: rest) e w := by
  refine ⟨fun a ha => ?_⟩
  have hw : Region.wanted ⟨some d, op, ty, pos, af, some (j, b)⟩ (yielded ops a.tmps) = false := wanted_noB ha hy
  unfold wpList
  rw [if_neg (by simp [hw])]
  exact k.h _ (ha.put hd)
theorem WL_pass0 {op : Op} {ty : TypeId} {pos : String} {af : Array Edge} {j : Nat} {b : Bool} (hy : noB ops e (some (j, b)) = true)
    (k : WL P n ops Q rest e w) : WL P n ops Q (⟨none, op, ty, pos, af, some (j, b)⟩ :: rest) e w := by
  refine ⟨fun a ha => ?_⟩
  have hw : Region.wanted ⟨none, op, ty, pos, af, some (j, b)⟩ (yielded ops a.tmps) = false := wanted_noB ha hy
  unfold wpList
  rw [if_neg (by simp [hw])]
  exact k.h _ ha
def dstOf (ops : Array Oper) (j : Nat) : Option Nat := (ops[j]?).bind (·.dst)
theorem Has.same {a : Act} {d : Nat} {u v : Value} (ha : Has n e a) (h : look e d = some u) (huv : u = v) : Has n ((d, v) :: e) a := by
  subst huv
  refine ⟨ha.defers, ha.size, fun t x hx => ?_⟩
  rw [look_cons] at hx
  by_cases hd : d = t
  · subst hd; simp at hx; subst hx; exact ha.vals _ _ h
  · rw [if_neg hd] at hx; exact ha.vals _ _ hx
theorem WL_split {d : Nat} {o : Option Nat} {op : Op} {ty : TypeId} {pos : String} {af : Array Edge} {j : Nat} {b : Bool} {p : Prop} [Decidable p] (hj : dstOf ops j = some d) (hy : look e d = some (.bool (decide p)))
    (ht : p → WL P n ops Q (⟨o, op, ty, pos, af, some (j, b)⟩ :: rest) ((d, .bool true) :: e) w) (hf : ¬ p → WL P n ops Q (⟨o, op, ty, pos, af, some (j, b)⟩ :: rest) ((d, .bool false) :: e) w) :
    WL P n ops Q (⟨o, op, ty, pos, af, some (j, b)⟩ :: rest) e w := by
  refine ⟨fun a ha => ?_⟩
  by_cases hp : p
  · exact (ht hp).h a (ha.same hy (by simp [hp]))
  · exact (hf hp).h a (ha.same hy (by simp [hp]))
theorem WL_splitB {d : Nat} {o : Option Nat} {op : Op} {ty : TypeId} {pos : String} {af : Array Edge} {j : Nat} {b : Bool} {t : Bool} (hj : dstOf ops j = some d) (hy : look e d = some (.bool t))
    (ht : t = true → WL P n ops Q (⟨o, op, ty, pos, af, some (j, b)⟩ :: rest) ((d, .bool true) :: e) w) (hf : t = false → WL P n ops Q (⟨o, op, ty, pos, af, some (j, b)⟩ :: rest) ((d, .bool false) :: e) w) :
    WL P n ops Q (⟨o, op, ty, pos, af, some (j, b)⟩ :: rest) e w := by
  refine ⟨fun a ha => ?_⟩
  cases t
  · exact (hf rfl).h a (ha.same hy rfl)
  · exact (ht rfl).h a (ha.same hy rfl)

end rules

/-! ### a function -/
def argEnv (l : List Value) : Nat → Env
  | k => match l with | [] => [] | v :: r => (k, v) :: argEnv r (k + 1)

theorem look_argEnv (l : List Value) : ∀ (k t : Nat) (v : Value), look (argEnv l k) t = some v → k ≤ t ∧ l[t - k]? = some v := by
  induction l with
  | nil => intro k t v h; simp [argEnv, look] at h
  | cons x r ih =>
    intro k t v h
    simp only [argEnv] at h
    rw [look_cons] at h
    by_cases hk : k = t
    · subst hk; simp at h; simp [h]
    · rw [if_neg hk] at h
      obtain ⟨h1, h2⟩ := ih (k + 1) t v h
      refine ⟨by omega, ?_⟩
      have : t - k = (t - (k + 1)) + 1 := by omega
      rw [this]
      simpa using h2

theorem calls_of_WC {P : Program} {f : FuncId} {fn : Func} {c : Code} {args : Array Value} {w : World} {R : Ending → World → Prop} {n : Nat} (hf : P.funcs[f]? = some fn) (hb : fn.body = some c)
    (hn : fn.ntmps = n) (hs : Nat.ble args.size n = true) (h : WC P n c (bodyPost P fn R) (argEnv args.toList 0) w) : Calls P f args w R := by
  refine calls_of_wp hf hb (h.h _ ?_)
  rw [hn]
  have hle : args.size ≤ n := Nat.le_of_ble_eq_true hs
  refine ⟨rfl, by simp; omega, fun t v hv => ?_⟩
  obtain ⟨_, h2⟩ := look_argEnv _ _ _ _ hv
  simp only [Nat.sub_zero] at h2
  have hlt : t < args.size := by
    have := (List.getElem?_eq_some_iff.1 h2).1
    simpa using this
  have : args[t]? = some v := by simpa using h2
  have h3 : (args ++ Array.replicate (n - args.size) undef)[t]? = some v := by
    rw [Array.getElem?_append_left hlt]; exact this
  simp [Array.getD_eq_getD_getElem?, h3]

theorem calls_of_WC0 {P : Program} {f : FuncId} {fn : Func} {c : Code} {w : World} {R : Ending → World → Prop} {n : Nat} (hf : P.funcs[f]? = some fn) (hb : fn.body = some c)
    (hn : fn.ntmps = n) (h : WC P n c (bodyPost P fn R) [] w) : Calls P f #[] w R := calls_of_WC hf hb hn rfl h
theorem calls_of_WC1 {P : Program} {f : FuncId} {fn : Func} {c : Code} {a0 : Value} {w : World} {R : Ending → World → Prop} {n : Nat} (hf : P.funcs[f]? = some fn) (hb : fn.body = some c)
    (hn : fn.ntmps = n) (hs : Nat.ble 1 n = true) (h : WC P n c (bodyPost P fn R) [(0, a0)] w) : Calls P f #[a0] w R := calls_of_WC hf hb hn hs h
theorem calls_of_WC2 {P : Program} {f : FuncId} {fn : Func} {c : Code} {a0 a1 : Value} {w : World} {R : Ending → World → Prop} {n : Nat} (hf : P.funcs[f]? = some fn) (hb : fn.body = some c)
    (hn : fn.ntmps = n) (hs : Nat.ble 2 n = true) (h : WC P n c (bodyPost P fn R) [(0, a0), (1, a1)] w) : Calls P f #[a0, a1] w R := calls_of_WC hf hb hn hs h
theorem calls_of_WC3 {P : Program} {f : FuncId} {fn : Func} {c : Code} {a0 a1 a2 : Value} {w : World} {R : Ending → World → Prop} {n : Nat} (hf : P.funcs[f]? = some fn) (hb : fn.body = some c)
    (hn : fn.ntmps = n) (hs : Nat.ble 3 n = true) (h : WC P n c (bodyPost P fn R) [(0, a0), (1, a1), (2, a2)] w) : Calls P f #[a0, a1, a2] w R := calls_of_WC hf hb hn hs h
theorem calls_of_WC4 {P : Program} {f : FuncId} {fn : Func} {c : Code} {a0 a1 a2 a3 : Value} {w : World} {R : Ending → World → Prop} {n : Nat} (hf : P.funcs[f]? = some fn) (hb : fn.body = some c)
    (hn : fn.ntmps = n) (hs : Nat.ble 4 n = true) (h : WC P n c (bodyPost P fn R) [(0, a0), (1, a1), (2, a2), (3, a3)] w) : Calls P f #[a0, a1, a2, a3] w R := calls_of_WC hf hb hn hs h
theorem calls_of_WC5 {P : Program} {f : FuncId} {fn : Func} {c : Code} {a0 a1 a2 a3 a4 : Value} {w : World} {R : Ending → World → Prop} {n : Nat} (hf : P.funcs[f]? = some fn) (hb : fn.body = some c)
    (hn : fn.ntmps = n) (hs : Nat.ble 5 n = true) (h : WC P n c (bodyPost P fn R) [(0, a0), (1, a1), (2, a2), (3, a3), (4, a4)] w) : Calls P f #[a0, a1, a2, a3, a4] w R := calls_of_WC hf hb hn hs h
theorem calls_of_WC6 {P : Program} {f : FuncId} {fn : Func} {c : Code} {a0 a1 a2 a3 a4 a5 : Value} {w : World} {R : Ending → World → Prop} {n : Nat} (hf : P.funcs[f]? = some fn) (hb : fn.body = some c)
    (hn : fn.ntmps = n) (hs : Nat.ble 6 n = true) (h : WC P n c (bodyPost P fn R) [(0, a0), (1, a1), (2, a2), (3, a3), (4, a4), (5, a5)] w) : Calls P f #[a0, a1, a2, a3, a4, a5] w R := calls_of_WC hf hb hn hs h
theorem calls_of_WC7 {P : Program} {f : FuncId} {fn : Func} {c : Code} {a0 a1 a2 a3 a4 a5 a6 : Value} {w : World} {R : Ending → World → Prop} {n : Nat} (hf : P.funcs[f]? = some fn) (hb : fn.body = some c)
    (hn : fn.ntmps = n) (hs : Nat.ble 7 n = true) (h : WC P n c (bodyPost P fn R) [(0, a0), (1, a1), (2, a2), (3, a3), (4, a4), (5, a5), (6, a6)] w) : Calls P f #[a0, a1, a2, a3, a4, a5, a6] w R := calls_of_WC hf hb hn hs h

section post
variable {P : Program} {n : Nat} {fn : Func} {R : Ending → World → Prop} {e : Env} {w : World}
theorem WQ_ret0 (hr : fn.results = #[]) (h : R (.returned (.tuple #[])) w) : WQ n (bodyPost P fn R) .ret e w :=
  ⟨fun a ha => ⟨ha.defers, _, results_none hr _ _ _, h⟩⟩
theorem WQ_end0 (hr : fn.results = #[]) (h : R (.returned (.tuple #[])) w) : WQ n (bodyPost P fn R) .normal e w :=
  ⟨fun a ha => ⟨ha.defers, _, results_none hr _ _ _, h⟩⟩
theorem WQ_ret1 {t : Nat} {v : Value} (hr : fn.results = #[.tmp t]) (ht : look e t = some v) (h : R (.returned v) w) : WQ n (bodyPost P fn R) .ret e w :=
  ⟨fun a ha => ⟨ha.defers, _, results_tmp hr _ _ _, by rw [ha.vals t v ht]; exact h⟩⟩
theorem WQ_ret2 {t u : Nat} {v x : Value} (hr : fn.results = #[.tmp t, .tmp u]) (ht : look e t = some v) (hu : look e u = some x) (h : R (.returned (.tuple #[v, x])) w) : WQ n (bodyPost P fn R) .ret e w :=
  ⟨fun a ha => ⟨ha.defers, _, results_tmp2 hr _ _ _, by rw [ha.vals t v ht, ha.vals u x hu]; exact h⟩⟩
theorem WQ_ret3 {t u s : Nat} {v x y : Value} (hr : fn.results = #[.tmp t, .tmp u, .tmp s]) (ht : look e t = some v) (hu : look e u = some x) (hs : look e s = some y) (h : R (.returned (.tuple #[v, x, y])) w) : WQ n (bodyPost P fn R) .ret e w :=
  ⟨fun a ha => ⟨ha.defers, .tuple #[v, x, y], by simp [results, hr]; simpa [Array.getD_eq_getD_getElem?] using And.intro (ha.vals t v ht) (And.intro (ha.vals u x hu) (ha.vals s y hs)), h⟩⟩
end post

end Go.Eng
