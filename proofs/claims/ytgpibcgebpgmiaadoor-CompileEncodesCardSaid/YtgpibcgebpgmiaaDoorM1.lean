/-
Merged by program out of own texts: Eng1, Eng2, Ty, Eng3, Eng4, Eng5, Eng6, Eng7, Eng8.
-/
import Derived.WalkKit
import Derived.WalkSpells
import Derived.WalkLawsBesides
import Derived.Shelf.Abstract
import Derived.Orders
import Derived.Test.YtgpibcgebpgmiaaDoorRows
import Derived.Deep.Slices
import Derived.Deep.Fields
import Derived.ChangeSame
import Derived.Below
import Derived.Carry
import Derived.ChangeOld
import Derived.ProofKit
import Derived.OpenShut
import Derived.SizedLaws

/-
The walk engine, part 1: sparse environments, the judgements on code and on lists of operations, the rules for control flow and for operations without effect.
-/
namespace Go.Eng
open Go Go.RowKit Go.Proofs
set_option linter.unusedVariables false

abbrev Env := List (Nat × Value)

def look : Env → Nat → Option Value
  | [], _ => none
  | (k, v) :: r, t => bif Nat.beq k t then some v else look r t

def ev (e : Env) : Operand → Option Value
  | .tmp t => look e t
  | .const v => some v
  | .global g => some (.pointer (some ⟨g, 0, none⟩))
  | .func f => some (.func (.func f) #[] #[])

structure Has (n : Nat) (e : Env) (a : Act) : Prop where
  defers : a.defers = []
  size : a.tmps.size = n
  vals : ∀ t v, look e t = some v → a.tmps.getD t undef = v

section basics
variable {n : Nat} {e : Env} {a : Act}

theorem Has.ev {x : Operand} {v : Value} (h : Has n e a) (hx : ev e x = some v) : a.eval x = v := by
  cases x with
  | tmp t => exact h.vals t v hx
  | const c => simpa [Eng.ev, Act.eval] using hx
  | global g => simpa [Eng.ev, Act.eval] using hx
  | func f => simpa [Eng.ev, Act.eval] using hx

theorem look_cons (d : Nat) (v : Value) (e : Env) (t : Nat) : look ((d, v) :: e) t = if d = t then some v else look e t := by
  simp only [look]
  by_cases h : d = t
  · subst h; simp
  · have : Nat.beq d t = false := by
      cases hb : Nat.beq d t with
      | false => rfl
      | true => exact absurd (Nat.eq_of_beq_eq_true hb) h
    simp [this, h]

theorem Has.put {d : Nat} {v : Value} (h : Has n e a) (hd : Nat.blt d n = true) : Has n ((d, v) :: e) (a.put (some d) v) := by
  have hlt : d < a.tmps.size := by rw [h.size]; exact Nat.le_of_ble_eq_true hd
  refine ⟨h.defers, by simp [Act.put, h.size], fun t u hu => ?_⟩
  rw [look_cons] at hu
  simp only [Act.put]
  by_cases hdt : d = t
  · subst hdt
    simp at hu
    subst hu
    simp [hlt]
  · rw [if_neg hdt] at hu
    have := h.vals t u hu
    simpa [Array.getElem?_setIfInBounds_ne hdt] using this

theorem Has.weak {e' : Env} (h : Has n e a) (hs : ∀ t v, look e' t = some v → look e t = some v) : Has n e' a :=
  ⟨h.defers, h.size, fun t v hv => h.vals t v (hs t v hv)⟩

/-- each listed slot holds that value -/
def Sub : Env → Env → Prop
  | [], _ => True
  | (k, v) :: r, e => look e k = some v ∧ Sub r e

theorem Sub.look {e' e : Env} (h : Sub e' e) : ∀ t v, Eng.look e' t = some v → Eng.look e t = some v := by
  induction e' with
  | nil => intro t v hv; simp [Eng.look] at hv
  | cons p r ih =>
    intro t v hv
    obtain ⟨d, u⟩ := p
    rw [look_cons] at hv
    by_cases hd : d = t
    · subst hd; simp at hv; subst hv; exact h.1
    · rw [if_neg hd] at hv; exact ih h.2 t v hv

theorem Has.sub {e' : Env} (h : Has n e a) (hs : Sub e' e) : Has n e' a := h.weak hs.look
end basics

/-! ### judgements -/
section judge
variable (P : Program) (n : Nat)

structure WQ (n : Nat) (Q : Exit → Act → World → Prop) (x : Exit) (e : Env) (w : World) : Prop where
  h : ∀ a, Has n e a → Q x a w
structure WC (c : Code) (Q : Exit → Act → World → Prop) (e : Env) (w : World) : Prop where
  h : ∀ a, Has n e a → c.wp P Q a w
structure WL (ops : Array Oper) (Q : Exit → Act → World → Prop) (l : List Oper) (e : Env) (w : World) : Prop where
  h : ∀ a, Has n e a → wpList P ops Q l a w
end judge

section rules
variable {P : Program} {n : Nat} {Q : Exit → Act → World → Prop} {e : Env} {w : World} {ops : Array Oper} {rest : List Oper}

theorem WC_seq {x y : Code} (h : WC P n x (Exit.then (fun a w => y.wp P Q a w) Q) e w) : WC P n (x.seq y) Q e w :=
  ⟨fun a ha => wp_seq (h.h a ha)⟩
theorem WQ_then {y : Code} (h : WC P n y Q e w) : WQ n (Exit.then (fun a w => y.wp P Q a w) Q) .normal e w := ⟨fun a ha => h.h a ha⟩
theorem WQ_then_ret {N : Act → World → Prop} (h : WQ n Q .ret e w) : WQ n (Exit.then N Q) .ret e w := ⟨fun a ha => h.h a ha⟩
theorem WQ_then_exit {N : Act → World → Prop} {i : Nat} (h : WQ n Q (.exit i) e w) : WQ n (Exit.then N Q) (.exit i) e w := ⟨fun a ha => h.h a ha⟩
theorem WQ_block {i : Nat} (h : WQ n Q .normal e w) : WQ n (Exit.inBlock i Q) .normal e w := ⟨fun a ha => h.h a ha⟩
theorem WQ_block_ret {i : Nat} (h : WQ n Q .ret e w) : WQ n (Exit.inBlock i Q) .ret e w := ⟨fun a ha => h.h a ha⟩
theorem WQ_block_here {i : Nat} (h : WQ n Q .normal e w) : WQ n (Exit.inBlock i Q) (.exit i) e w := by
  refine ⟨fun a ha => ?_⟩
  simp only [Exit.inBlock, if_true]
  exact h.h a ha
theorem WQ_block_on {i j : Nat} (hij : Nat.beq i j = false) (h : WQ n Q (.exit i) e w) : WQ n (Exit.inBlock j Q) (.exit i) e w := by
  refine ⟨fun a ha => ?_⟩
  simp only [Exit.inBlock]
  rw [if_neg (Nat.ne_of_beq_eq_false hij)]
  exact h.h a ha
theorem WC_skip (h : WQ n Q .normal e w) : WC P n .skip Q e w := ⟨fun a ha => wp_skip (h.h a ha)⟩
theorem WC_ret (h : WQ n Q .ret e w) : WC P n .ret Q e w := ⟨fun a ha => wp_ret (h.h a ha)⟩
theorem WC_exit {i : Nat} (h : WQ n Q (.exit i) e w) : WC P n (.exit i) Q e w := ⟨fun a ha => wp_exit (h.h a ha)⟩
theorem WC_block {i : Nat} {c : Code} (h : WC P n c (Exit.inBlock i Q) e w) : WC P n (.block i c) Q e w := ⟨fun a ha => wp_block (h.h a ha)⟩
theorem WC_cond_true {c : Operand} {x y : Code} (hc : ev e c = some (.bool true)) (h : WC P n x Q e w) : WC P n (.cond c x y) Q e w :=
  ⟨fun a ha => wp_cond_true (ha.ev hc) (h.h a ha)⟩
theorem WC_cond_false {c : Operand} {x y : Code} (hc : ev e c = some (.bool false)) (h : WC P n y Q e w) : WC P n (.cond c x y) Q e w :=
  ⟨fun a ha => wp_cond_false (ha.ev hc) (h.h a ha)⟩
theorem WC_cond {c : Operand} {x y : Code} {p : Prop} [Decidable p] (hc : ev e c = some (.bool (decide p))) (ht : p → WC P n x Q e w) (hf : ¬ p → WC P n y Q e w) : WC P n (.cond c x y) Q e w :=
  ⟨fun a ha => wp_cond_split (ha.ev hc) (fun h => (ht (of_decide_eq_true h)).h a ha) (fun h => (hf (of_decide_eq_false h)).h a ha)⟩
theorem WC_condB {c : Operand} {x y : Code} {t : Bool} (hc : ev e c = some (.bool t)) (ht : t = true → WC P n x Q e w) (hf : t = false → WC P n y Q e w) : WC P n (.cond c x y) Q e w :=
  ⟨fun a ha => wp_cond_split (ha.ev hc) (fun h => (ht h).h a ha) (fun h => (hf h).h a ha)⟩
theorem WC_region {id : Nat} {l : List Oper} (h : WL P n l.toArray Q l e w) : WC P n (.region id l.toArray false) Q e w :=
  ⟨fun a ha => wp_region_lit (h.h a ha)⟩
theorem WL_nil (h : WQ n Q .normal e w) : WL P n ops Q [] e w := ⟨fun a ha => wpList_nil (h.h a ha)⟩

/-- a cut: the first part ends normally with the listed slots and a fact, or leaves by another way -/
theorem WC_cut {x y : Code} {σ : Type} (env : σ → Env) (I : σ → World → Prop)
    (h : WC P n x (Exit.then (fun a w => ∃ s, Has n (env s) a ∧ I s w) Q) e w) (k : ∀ s w, I s w → WC P n y Q (env s) w) : WC P n (x.seq y) Q e w :=
  ⟨fun a ha => wp_seq (wp_mono (h.h a ha) (fun ex a w hq => by
    cases ex with
    | normal => obtain ⟨s, h1, h2⟩ := hq; exact (k s w h2).h a h1
    | _ => exact hq))⟩
/-- the same behind the parting of a sequence -/
theorem WC_cutQ {x y : Code} {σ : Type} (env : σ → Env) (I : σ → World → Prop)
    (h : WC P n x (Exit.then (fun a w => ∃ s, Has n (env s) a ∧ I s w) Q) e w) (k : ∀ s w, I s w → WC P n y Q (env s) w) : WC P n x (Exit.then (fun a w => y.wp P Q a w) Q) e w :=
  ⟨fun a ha => wp_mono (h.h a ha) (fun ex a w hq => by
    cases ex with
    | normal => obtain ⟨s, h1, h2⟩ := hq; exact (k s w h2).h a h1
    | _ => exact hq)⟩
/-- the same inside a block -/
theorem WC_cutB {x y : Code} {σ : Type} {i : Nat} (env : σ → Env) (I : σ → World → Prop)
    (h : WC P n x (Exit.inBlock i (Exit.then (fun a w => ∃ s, Has n (env s) a ∧ I s w) Q)) e w) (k : ∀ s w, I s w → WC P n y Q (env s) w) : WC P n x (Exit.inBlock i (Exit.then (fun a w => y.wp P Q a w) Q)) e w :=
  ⟨fun a ha => wp_mono (h.h a ha) (fun ex a w hq => by
    cases ex with
    | normal => obtain ⟨s, h1, h2⟩ := hq; exact (k s w h2).h a h1
    | exit j =>
      simp only [Exit.inBlock] at hq ⊢
      split
      · rename_i hj
        rw [if_pos hj] at hq
        obtain ⟨s, h1, h2⟩ := hq
        exact (k s w h2).h a h1
      · rename_i hj
        rw [if_neg hj] at hq
        exact hq
    | _ => exact hq)⟩
theorem WQ_cut {σ : Type} {env : σ → Env} {I : σ → World → Prop} (s : σ) (hs : Sub (env s) e) (hI : I s w) : WQ n (Exit.then (fun a w => ∃ s, Has n (env s) a ∧ I s w) Q) .normal e w :=
  ⟨fun a ha => ⟨s, ha.sub hs, hI⟩⟩

/-- a loop: the listed slots at each head, a fact, a measure -/
theorem WC_loop {c : Code} {σ : Type} (env : σ → Env) (I : σ → World → Prop) (μ : σ → Nat) (s₀ : σ) (hs : Sub (env s₀) e) (hI : I s₀ w)
    (round : ∀ s w, I s w → WC P n c (Exit.then (fun a' w' => ∃ s', Has n (env s') a' ∧ I s' w' ∧ μ s' < μ s) Q) (env s) w) : WC P n (.loop c) Q e w := by
  refine ⟨fun a ha => ?_⟩
  have key : ∀ (k : Nat) (s : σ) (a : Act) (w : World), μ s ≤ k → Has n (env s) a → I s w → (Code.loop c).wp P Q a w := by
    intro k s a w _ h1 h2
    refine wp_loop (fun a' w' => ∃ s', Has n (env s') a' ∧ I s' w') (fun a' w' => Classical.epsilon (fun m => ∃ s', Has n (env s') a' ∧ I s' w' ∧ μ s' = m ∧ ∀ s'', Has n (env s'') a' → I s'' w' → m ≤ μ s'')) ⟨s, h1, h2⟩ ?_
    intro a w ⟨s', h1', h2'⟩
    have hex : ∀ a w, (∃ s', Has n (env s') a ∧ I s' w) → ∃ m, ∃ s', Has n (env s') a ∧ I s' w ∧ μ s' = m ∧ ∀ s'', Has n (env s'') a → I s'' w → m ≤ μ s'' := by
      intro a w ⟨s', h1', h2'⟩
      have : ∀ m, ∀ s', μ s' = m → Has n (env s') a → I s' w → ∃ m, ∃ s', Has n (env s') a ∧ I s' w ∧ μ s' = m ∧ ∀ s'', Has n (env s'') a → I s'' w → m ≤ μ s'' := by
        intro m
        induction m using Nat.strongRecOn with
        | _ m ih =>
          intro s' hm h1 h2
          by_cases hmin : ∀ s'', Has n (env s'') a → I s'' w → m ≤ μ s''
          · exact ⟨m, s', h1, h2, hm, hmin⟩
          · have : ∃ s'', Has n (env s'') a ∧ I s'' w ∧ μ s'' < m := by
              refine Classical.byContradiction fun hno => hmin fun s'' h1 h2 => ?_
              exact Nat.le_of_not_lt fun hlt => hno ⟨s'', h1, h2, hlt⟩
            obtain ⟨s'', h1', h2', hlt⟩ := this
            exact ih _ hlt s'' rfl h1' h2'
      exact this _ s' rfl h1' h2'
    obtain ⟨s₁, g1, g2, g3, g4⟩ := Classical.epsilon_spec (hex a w ⟨s', h1', h2'⟩)
    have hr := (round s₁ w g2).h a g1
    refine wp_mono hr (fun ex a' w' hq => ?_)
    cases ex with
    | normal =>
      obtain ⟨s₂, k1, k2, k3⟩ := hq
      refine ⟨⟨s₂, k1, k2⟩, ?_⟩
      obtain ⟨s₃, m1, m2, m3, m4⟩ := Classical.epsilon_spec (hex a' w' ⟨s₂, k1, k2⟩)
      have := m4 s₂ k1 k2
      rw [g3] at k3
      exact Nat.lt_of_le_of_lt this k3
    | _ => exact hq
  exact key (μ s₀) s₀ a w (Nat.le_refl _) (ha.sub hs) hI
theorem WQ_loop {σ : Type} {env : σ → Env} {I : σ → World → Prop} {μ : σ → Nat} {m : Nat} (s : σ) (hs : Sub (env s) e) (hI : I s w) (hm : μ s < m) :
    WQ n (Exit.then (fun a w => ∃ s, Has n (env s) a ∧ I s w ∧ μ s < m) Q) .normal e w :=
  ⟨fun a ha => ⟨s, ha.sub hs, hI, hm⟩⟩

/-! ### operations without effect -/
structure PR (P : Program) (n : Nat) (o : Oper) (e : Env) (w : World) (v : Value) : Prop where
  h : ∀ a, Has n e a → (execOp a.eval o).run P w = .ok (.value v) w

theorem WL_pure {d : Nat} {op : Op} {ty : TypeId} {pos : String} {af : Array Edge} {v : Value} (hp : PR P n ⟨some d, op, ty, pos, af, none⟩ e w v) (hd : Nat.blt d n = true)
    (k : WL P n ops Q rest ((d, v) :: e) w) : WL P n ops Q (⟨some d, op, ty, pos, af, none⟩ :: rest) e w := by
  refine ⟨fun a ha => ?_⟩
  refine wpList_plain rfl (fun K hK => ?_)
  unfold Oper.wp
  rw [hp.h a ha]
  exact hK _ _ ((k).h _ (ha.put hd))

/-- an operation with effects: whatever it yields meets G -/
structure OE (P : Program) (n : Nat) (o : Oper) (e : Env) (w : World) (G : Value → World → Prop) : Prop where
  h : ∀ a, Has n e a → ∀ (Q : Exit → Act → World → Prop), o.wp P a w (fun a' w' => ∃ v, a' = a.put o.dst v ∧ G v w') Q

theorem WL_eff {d : Nat} {op : Op} {ty : TypeId} {pos : String} {af : Array Edge} {G : Value → World → Prop} (hp : OE P n ⟨some d, op, ty, pos, af, none⟩ e w G) (hd : Nat.blt d n = true)
    (k : ∀ v w', G v w' → WL P n ops Q rest ((d, v) :: e) w') : WL P n ops Q (⟨some d, op, ty, pos, af, none⟩ :: rest) e w := by
  refine ⟨fun a ha => ?_⟩
  refine wpList_plain rfl (fun K hK => ?_)
  refine Oper.wp_mono ?_ (hp.h a ha Q)
  rintro a' w' ⟨v, rfl, hg⟩
  exact hK _ _ ((k v w' hg).h _ (ha.put hd))
theorem WL_eff0 {op : Op} {ty : TypeId} {pos : String} {af : Array Edge} {G : Value → World → Prop} (hp : OE P n ⟨none, op, ty, pos, af, none⟩ e w G)
    (k : ∀ v w', G v w' → WL P n ops Q rest e w') : WL P n ops Q (⟨none, op, ty, pos, af, none⟩ :: rest) e w := by
  refine ⟨fun a ha => ?_⟩
  refine wpList_plain rfl (fun K hK => ?_)
  refine Oper.wp_mono ?_ (hp.h a ha Q)
  rintro a' w' ⟨v, rfl, hg⟩
  exact hK _ _ ((k v w' hg).h _ ha)

/-! ### guards -/
def yld (ops : Array Oper) (e : Env) (j : Nat) : Option Value := ((ops[j]?).bind (·.dst)).bind (look e)

theorem yielded_of {ops : Array Oper} {a : Act} {j : Nat} {b : Bool} (ha : Has n e a) (h : yld ops e j = some (.bool b)) : yielded ops a.tmps j = some b := by
  unfold yld at h
  unfold yielded
  cases hd : (ops[j]?).bind (·.dst) with
  | none => rw [hd] at h; simp at h
  | some d =>
    rw [hd] at h
    have := ha.vals d _ h
    simp only [Array.getD_eq_getD_getElem?] at this
    simp only [Option.bind_some]
    cases hx : a.tmps[d]? with
    | none => rw [hx] at this; simp [undef] at this
    | some u => rw [hx] at this; simp at this; subst this; simp

theorem WL_go {d : Option Nat} {op : Op} {ty : TypeId} {pos : String} {af : Array Edge} {j : Nat} {b : Bool} (hy : yld ops e j = some (.bool b))
    (k : WL P n ops Q (⟨d, op, ty, pos, af, none⟩ :: rest) e w) : WL P n ops Q (⟨d, op, ty, pos, af, some (j, b)⟩ :: rest) e w := by
  refine ⟨fun a ha => ?_⟩
  have hk := k.h a ha
  have hw : Region.wanted ⟨d, op, ty, pos, af, some (j, b)⟩ (yielded ops a.tmps) = true := by simp [Region.wanted, yielded_of ha hy]
  unfold wpList at hk ⊢
  rw [if_pos hw]
  rw [if_pos (by simp [Region.wanted])] at hk
  exact hk
def notB : Value → Bool → Bool
  | .bool c, b => c != b
  | _, _ => true
def noB (ops : Array Oper) (e : Env) : Option (Nat × Bool) → Bool
  | none => false
  | some (j, b) => match yld ops e j with
    | some u => notB u b
    | none => false
theorem wanted_noB {ops : Array Oper} {a : Act} {o : Oper} (ha : Has n e a) (h : noB ops e o.guard = true) : Region.wanted o (yielded ops a.tmps) = false := by
  unfold Region.wanted
  cases hg : o.guard with
  | none => rw [hg] at h; cases h
  | some jb =>
    obtain ⟨j, b⟩ := jb
    rw [hg] at h
    simp only [noB] at h
    cases hy : yld ops e j with
    | none => rw [hy] at h; cases h
    | some u =>
      rw [hy] at h
      unfold yld at hy
      show (yielded ops a.tmps j == some b) = false
      unfold yielded
      cases hd : (ops[j]?).bind (·.dst) with
      | none => rw [hd] at hy; simp at hy
      | some d =>
        rw [hd] at hy
        simp only [Option.bind_some] at hy
        have := ha.vals d _ hy
        simp only [Array.getD_eq_getD_getElem?] at this
        simp only [Option.bind_some]
        cases hx : a.tmps[d]? with
        | none => rfl
        | some z =>
          rw [hx] at this
          simp at this
          subst this
          cases z <;> first | rfl | (simp only [notB] at h; cases b <;> simp_all)
theorem WL_pass {d : Nat} {op : Op} {ty : TypeId} {pos : String} {af : Array Edge} {j : Nat} {b : Bool} (hy : noB ops e (some (j, b)) = true) (hd : Nat.blt d n = true)
    (k : WL P n ops Q rest ((d, undef) :: e) w) : WL P n ops Q (⟨some d, op, ty, pos, af, some (j, b)⟩ :: rest) e w := by
  refine ⟨fun a ha => ?_⟩
  have hw : Region.wanted ⟨some d, op, ty, pos, af, some (j, b)⟩ (yielded ops a.tmps) = false := wanted_noB ha hy
  unfold wpList
  rw [if_neg (by simp [hw])]
  exact k.h _ (ha.put hd)
def dstOf (ops : Array Oper) (j : Nat) : Option Nat := (ops[j]?).bind (·.dst)
theorem Has.same {a : Act} {d : Nat} {u v : Value} (ha : Has n e a) (h : look e d = some u) (huv : u = v) : Has n ((d, v) :: e) a := by
  subst huv
  refine ⟨ha.defers, ha.size, fun t x hx => ?_⟩
  rw [look_cons] at hx
  by_cases hd : d = t
  · subst hd; simp at hx; subst hx; exact ha.vals _ _ h
  · rw [if_neg hd] at hx; exact ha.vals _ _ hx
theorem WL_split {d : Nat} {o : Option Nat} {op : Op} {ty : TypeId} {pos : String} {af : Array Edge} {j : Nat} {b : Bool} {p : Prop} [Decidable p] (hj : dstOf ops j = some d) (hy : look e d = some (.bool (decide p)))
    (ht : p → WL P n ops Q (⟨o, op, ty, pos, af, some (j, b)⟩ :: rest) ((d, .bool true) :: e) w) (hf : ¬ p → WL P n ops Q (⟨o, op, ty, pos, af, some (j, b)⟩ :: rest) ((d, .bool false) :: e) w) :
    WL P n ops Q (⟨o, op, ty, pos, af, some (j, b)⟩ :: rest) e w := by
  refine ⟨fun a ha => ?_⟩
  by_cases hp : p
  · exact (ht hp).h a (ha.same hy (by simp [hp]))
  · exact (hf hp).h a (ha.same hy (by simp [hp]))
theorem WL_splitB {d : Nat} {o : Option Nat} {op : Op} {ty : TypeId} {pos : String} {af : Array Edge} {j : Nat} {b : Bool} {t : Bool} (hj : dstOf ops j = some d) (hy : look e d = some (.bool t))
    (ht : t = true → WL P n ops Q (⟨o, op, ty, pos, af, some (j, b)⟩ :: rest) ((d, .bool true) :: e) w) (hf : t = false → WL P n ops Q (⟨o, op, ty, pos, af, some (j, b)⟩ :: rest) ((d, .bool false) :: e) w) :
    WL P n ops Q (⟨o, op, ty, pos, af, some (j, b)⟩ :: rest) e w := by
  refine ⟨fun a ha => ?_⟩
  cases t
  · exact (hf rfl).h a (ha.same hy rfl)
  · exact (ht rfl).h a (ha.same hy rfl)

end rules

/-! ### a function -/
def argEnv (l : List Value) : Nat → Env
  | k => match l with | [] => [] | v :: r => (k, v) :: argEnv r (k + 1)

theorem look_argEnv (l : List Value) : ∀ (k t : Nat) (v : Value), look (argEnv l k) t = some v → k ≤ t ∧ l[t - k]? = some v := by
  induction l with
  | nil => intro k t v h; simp [argEnv, look] at h
  | cons x r ih =>
    intro k t v h
    simp only [argEnv] at h
    rw [look_cons] at h
    by_cases hk : k = t
    · subst hk; simp at h; simp [h]
    · rw [if_neg hk] at h
      obtain ⟨h1, h2⟩ := ih (k + 1) t v h
      refine ⟨by omega, ?_⟩
      have : t - k = (t - (k + 1)) + 1 := by omega
      rw [this]
      simpa using h2

theorem calls_of_WC {P : Program} {f : FuncId} {fn : Func} {c : Code} {args : Array Value} {w : World} {R : Ending → World → Prop} {n : Nat} (hf : P.funcs[f]? = some fn) (hb : fn.body = some c)
    (hn : fn.ntmps = n) (hs : Nat.ble args.size n = true) (h : WC P n c (bodyPost P fn R) (argEnv args.toList 0) w) : Calls P f args w R := by
  refine calls_of_wp hf hb (h.h _ ?_)
  rw [hn]
  have hle : args.size ≤ n := Nat.le_of_ble_eq_true hs
  refine ⟨rfl, by simp; omega, fun t v hv => ?_⟩
  obtain ⟨_, h2⟩ := look_argEnv _ _ _ _ hv
  simp only [Nat.sub_zero] at h2
  have hlt : t < args.size := by
    have := (List.getElem?_eq_some_iff.1 h2).1
    simpa using this
  have : args[t]? = some v := by simpa using h2
  have h3 : (args ++ Array.replicate (n - args.size) undef)[t]? = some v := by
    rw [Array.getElem?_append_left hlt]; exact this
  simp [Array.getD_eq_getD_getElem?, h3]

theorem calls_of_WC0 {P : Program} {f : FuncId} {fn : Func} {c : Code} {w : World} {R : Ending → World → Prop} {n : Nat} (hf : P.funcs[f]? = some fn) (hb : fn.body = some c)
    (hn : fn.ntmps = n) (h : WC P n c (bodyPost P fn R) [] w) : Calls P f #[] w R := calls_of_WC hf hb hn rfl h
theorem calls_of_WC1 {P : Program} {f : FuncId} {fn : Func} {c : Code} {a0 : Value} {w : World} {R : Ending → World → Prop} {n : Nat} (hf : P.funcs[f]? = some fn) (hb : fn.body = some c)
    (hn : fn.ntmps = n) (hs : Nat.ble 1 n = true) (h : WC P n c (bodyPost P fn R) [(0, a0)] w) : Calls P f #[a0] w R := calls_of_WC hf hb hn hs h
theorem calls_of_WC2 {P : Program} {f : FuncId} {fn : Func} {c : Code} {a0 a1 : Value} {w : World} {R : Ending → World → Prop} {n : Nat} (hf : P.funcs[f]? = some fn) (hb : fn.body = some c)
    (hn : fn.ntmps = n) (hs : Nat.ble 2 n = true) (h : WC P n c (bodyPost P fn R) [(0, a0), (1, a1)] w) : Calls P f #[a0, a1] w R := calls_of_WC hf hb hn hs h
theorem calls_of_WC3 {P : Program} {f : FuncId} {fn : Func} {c : Code} {a0 a1 a2 : Value} {w : World} {R : Ending → World → Prop} {n : Nat} (hf : P.funcs[f]? = some fn) (hb : fn.body = some c)
    (hn : fn.ntmps = n) (hs : Nat.ble 3 n = true) (h : WC P n c (bodyPost P fn R) [(0, a0), (1, a1), (2, a2)] w) : Calls P f #[a0, a1, a2] w R := calls_of_WC hf hb hn hs h
theorem calls_of_WC4 {P : Program} {f : FuncId} {fn : Func} {c : Code} {a0 a1 a2 a3 : Value} {w : World} {R : Ending → World → Prop} {n : Nat} (hf : P.funcs[f]? = some fn) (hb : fn.body = some c)
    (hn : fn.ntmps = n) (hs : Nat.ble 4 n = true) (h : WC P n c (bodyPost P fn R) [(0, a0), (1, a1), (2, a2), (3, a3)] w) : Calls P f #[a0, a1, a2, a3] w R := calls_of_WC hf hb hn hs h
section post
variable {P : Program} {n : Nat} {fn : Func} {R : Ending → World → Prop} {e : Env} {w : World}
theorem WQ_ret0 (hr : fn.results = #[]) (h : R (.returned (.tuple #[])) w) : WQ n (bodyPost P fn R) .ret e w :=
  ⟨fun a ha => ⟨ha.defers, _, results_none hr _ _ _, h⟩⟩
theorem WQ_end0 (hr : fn.results = #[]) (h : R (.returned (.tuple #[])) w) : WQ n (bodyPost P fn R) .normal e w :=
  ⟨fun a ha => ⟨ha.defers, _, results_none hr _ _ _, h⟩⟩
theorem WQ_ret1 {t : Nat} {v : Value} (hr : fn.results = #[.tmp t]) (ht : look e t = some v) (h : R (.returned v) w) : WQ n (bodyPost P fn R) .ret e w :=
  ⟨fun a ha => ⟨ha.defers, _, results_tmp hr _ _ _, by rw [ha.vals t v ht]; exact h⟩⟩
theorem WQ_ret2 {t u : Nat} {v x : Value} (hr : fn.results = #[.tmp t, .tmp u]) (ht : look e t = some v) (hu : look e u = some x) (h : R (.returned (.tuple #[v, x])) w) : WQ n (bodyPost P fn R) .ret e w :=
  ⟨fun a ha => ⟨ha.defers, _, results_tmp2 hr _ _ _, by rw [ha.vals t v ht, ha.vals u x hu]; exact h⟩⟩
theorem WQ_ret3 {t u s : Nat} {v x y : Value} (hr : fn.results = #[.tmp t, .tmp u, .tmp s]) (ht : look e t = some v) (hu : look e u = some x) (hs : look e s = some y) (h : R (.returned (.tuple #[v, x, y])) w) : WQ n (bodyPost P fn R) .ret e w :=
  ⟨fun a ha => ⟨ha.defers, .tuple #[v, x, y], by simp [results, hr]; simpa [Array.getD_eq_getD_getElem?] using And.intro (ha.vals t v ht) (And.intro (ha.vals u x hu) (ha.vals s y hs)), h⟩⟩
end post

end Go.Eng


/-
The walk engine, part 2: the rules for single operations without effect.
-/
namespace Go.Eng
open Go Go.RowKit Go.Proofs
set_option linter.unusedVariables false

/-! ### facts on types, found by instance search -/
class Und (P : Program) (t : Nat) (d : outParam TypeDesc) : Prop where
  h : P.underlying t = some d
class Siz (P : Program) (t : Nat) (k : outParam Nat) : Prop where
  h : (P.info? t).map (·.size) = some k
class Zer (P : Program) (t : Nat) (z : outParam Value) : Prop where
  h : (P.info? t).bind (·.zero) = some z
class Byt (P : Program) (t : Nat) (k : outParam Nat) : Prop where
  h : (P.info? t).map (·.bytes) = some k
/-- field i of the struct type t lies at that offset, and is not of size zero -/
class Fld (P : Program) (t i : Nat) (off : outParam Nat) : Prop where
  h : ∃ fs f k, P.underlying t = some (.struct fs) ∧ fs[i]? = some f ∧ f.offset = off ∧ (P.info? f.type).map (·.size) = some (k + 1)
class Fun (P : Program) (f : Nat) (fn : outParam Func) : Prop where
  h : P.funcs[f]? = some fn
  enters : Enters P f

theorem Siz.run {P : Program} {t k : Nat} [h : Siz P t k] (w : World) : (sizeOf t).run P w = .ok k w := by
  have := h.h
  cases hi : P.info? t with
  | none => simp [hi] at this
  | some i => rw [hi] at this; simp at this; simp [sizeOf, typeInfo, hi, this]
theorem Zer.run {P : Program} {t : Nat} {z : Value} [h : Zer P t z] (w : World) : (zeroValue t).run P w = .ok z w := by
  have := h.h
  cases hi : P.info? t with
  | none => simp [hi] at this
  | some i => rw [hi] at this; simp at this; simp [zeroValue, typeInfo, hi, this]
theorem Und.run {P : Program} {t : Nat} {d : TypeDesc} [h : Und P t d] (w : World) : (underlying t).run P w = .ok d w := run_underlying h.h w
def aggB : TypeDesc → Bool
  | .struct _ | .array _ _ => true
  | _ => false
theorem Und.isAgg {P : Program} {t : Nat} {d : TypeDesc} [h : Und P t d] (w : World) : (Go.isAgg t).run P w = .ok (aggB d) w := by
  cases d <;> simp [Go.isAgg, run_underlying h.h, aggB]

section rules
variable {P : Program} {n : Nat} {e : Env} {w : World} {d : Option Nat} {ty : TypeId} {pos : String} {af : Array Edge} {g : Option (Nat × Bool)}

theorem PR_move {x : Operand} {v : Value} (hx : ev e x = some v) : PR P n ⟨d, .move x, ty, pos, af, g⟩ e w v := ⟨fun a ha => by simp [execOp, ha.ev hx]⟩
theorem PR_assign {x : Operand} {v : Value} (hx : ev e x = some v) : PR P n ⟨d, .assign x, ty, pos, af, g⟩ e w v := ⟨fun a ha => by simp [execOp, ha.ev hx]⟩
theorem PR_pick_t {c x y : Operand} {v : Value} (hc : ev e c = some (.bool true)) (hx : ev e x = some v) : PR P n ⟨d, .pick c x y, ty, pos, af, g⟩ e w v :=
  ⟨fun a ha => by simp [execOp, ha.ev hc, ha.ev hx, asBool]⟩
theorem PR_pick_f {c x y : Operand} {v : Value} (hc : ev e c = some (.bool false)) (hx : ev e y = some v) : PR P n ⟨d, .pick c x y, ty, pos, af, g⟩ e w v :=
  ⟨fun a ha => by simp [execOp, ha.ev hc, ha.ev hx, asBool]⟩
theorem PR_not {x : Operand} {b : Bool} (hx : ev e x = some (.bool b)) {t : TypeId} : PR P n ⟨d, .unOp .not t x, ty, pos, af, g⟩ e w (.bool (!b)) :=
  ⟨fun a ha => by simp [execOp, ha.ev hx, Op.unary]⟩
theorem PR_not_t {x : Operand} (hx : ev e x = some (.bool true)) {t : TypeId} : PR P n ⟨d, .unOp .not t x, ty, pos, af, g⟩ e w (.bool false) :=
  ⟨fun a ha => by simp [execOp, ha.ev hx, Op.unary]⟩
theorem PR_not_f {x : Operand} (hx : ev e x = some (.bool false)) {t : TypeId} : PR P n ⟨d, .unOp .not t x, ty, pos, af, g⟩ e w (.bool true) :=
  ⟨fun a ha => by simp [execOp, ha.ev hx, Op.unary]⟩
def I64 (z : Int) : Prop := -9223372036854775808 ≤ z ∧ z ≤ 9223372036854775807
theorem wrap_i64_of {z : Int} (h : I64 z) : IntKind.i64.wrap z = z := by
  unfold I64 at h
  rw [IntKind.wrap_i64]
  omega

section arith
variable {x y : Operand} {a b : Int} {t u : TypeId}
theorem PR_add (hx : ev e x = some (.int .i64 a)) (hy : ev e y = some (.int .i64 b)) (hr : I64 (a + b)) : PR P n ⟨d, .binOp .add t x y u, ty, pos, af, g⟩ e w (.int .i64 (a + b)) :=
  ⟨fun c ha => by simp only [execOp, ha.ev hx, ha.ev hy]; simp [go_sem, Op.intArith, wrap_i64_of hr]⟩
theorem PR_sub (hx : ev e x = some (.int .i64 a)) (hy : ev e y = some (.int .i64 b)) (hr : I64 (a - b)) : PR P n ⟨d, .binOp .sub t x y u, ty, pos, af, g⟩ e w (.int .i64 (a - b)) :=
  ⟨fun c ha => by simp only [execOp, ha.ev hx, ha.ev hy]; simp [go_sem, Op.intArith, wrap_i64_of hr]⟩
theorem PR_mul (hx : ev e x = some (.int .i64 a)) (hy : ev e y = some (.int .i64 b)) (hr : I64 (a * b)) : PR P n ⟨d, .binOp .mul t x y u, ty, pos, af, g⟩ e w (.int .i64 (a * b)) :=
  ⟨fun c ha => by simp only [execOp, ha.ev hx, ha.ev hy]; simp [go_sem, Op.intArith, wrap_i64_of hr]⟩
theorem PR_neg (hx : ev e x = some (.int .i64 a)) (hr : I64 (- a)) : PR P n ⟨d, .unOp .neg t x, ty, pos, af, g⟩ e w (.int .i64 (- a)) :=
  ⟨fun c ha => by simp only [execOp, ha.ev hx]; simp [go_sem, Op.unary, Op.intArith, wrap_i64_of hr]⟩
theorem PR_rem (hx : ev e x = some (.int .i64 a)) (hy : ev e y = some (.int .i64 b)) (hb : b ≠ 0) (hr : I64 (a.tmod b)) : PR P n ⟨d, .binOp .rem t x y u, ty, pos, af, g⟩ e w (.int .i64 (a.tmod b)) :=
  ⟨fun c ha => by simp only [execOp, ha.ev hx, ha.ev hy]; simp [go_sem, Op.intDiv, hb]; try rw [wrap_i64_of hr]⟩
theorem PR_quo (hx : ev e x = some (.int .i64 a)) (hy : ev e y = some (.int .i64 b)) (hb : b ≠ 0) (hr : I64 (a.tdiv b)) : PR P n ⟨d, .binOp .quo t x y u, ty, pos, af, g⟩ e w (.int .i64 (a.tdiv b)) :=
  ⟨fun c ha => by simp only [execOp, ha.ev hx, ha.ev hy]; simp [go_sem, Op.intDiv, hb]; try rw [wrap_i64_of hr]⟩
theorem PR_remP (hx : ev e x = some (.int .i64 a)) (hy : ev e y = some (.int .i64 b)) (h0 : 0 ≤ a) (hb : 0 < b) (hr : I64 a) : PR P n ⟨d, .binOp .rem t x y u, ty, pos, af, g⟩ e w (.int .i64 (a % b)) := by
  have h1 : a.tmod b = a % b := Int.tmod_eq_emod_of_nonneg h0
  rw [← h1]
  refine PR_rem hx hy (by omega) ?_
  rw [h1]
  have := Int.emod_nonneg a (show b ≠ 0 by omega)
  have h2 : a % b ≤ a := by
    by_cases hab : a < b
    · rw [Int.emod_eq_of_lt h0 hab]; exact Int.le_refl _
    · have := Int.emod_lt_of_pos a hb; omega
  unfold I64 at hr ⊢
  omega
theorem PR_quoP (hx : ev e x = some (.int .i64 a)) (hy : ev e y = some (.int .i64 b)) (h0 : 0 ≤ a) (hb : 0 < b) (hr : I64 a) : PR P n ⟨d, .binOp .quo t x y u, ty, pos, af, g⟩ e w (.int .i64 (a / b)) := by
  have h1 : a.tdiv b = a / b := Int.tdiv_eq_ediv_of_nonneg h0
  rw [← h1]
  refine PR_quo hx hy (by omega) ?_
  rw [h1]
  have := Int.ediv_nonneg h0 (Int.le_of_lt hb)
  have h2 : a / b ≤ a := Int.ediv_le_self _ h0
  unfold I64 at hr ⊢
  omega
variable {k : IntKind}
theorem PR_lss (hx : ev e x = some (.int k a)) (hy : ev e y = some (.int k b)) : PR P n ⟨d, .binOp .lss t x y u, ty, pos, af, g⟩ e w (.bool (decide (a < b))) :=
  ⟨fun c ha => by simp only [execOp, ha.ev hx, ha.ev hy]; simp [go_sem]⟩
theorem PR_leq (hx : ev e x = some (.int k a)) (hy : ev e y = some (.int k b)) : PR P n ⟨d, .binOp .leq t x y u, ty, pos, af, g⟩ e w (.bool (decide (a ≤ b))) :=
  ⟨fun c ha => by simp only [execOp, ha.ev hx, ha.ev hy]; simp [go_sem]⟩
theorem PR_gtr (hx : ev e x = some (.int k a)) (hy : ev e y = some (.int k b)) : PR P n ⟨d, .binOp .gtr t x y u, ty, pos, af, g⟩ e w (.bool (decide (b < a))) :=
  ⟨fun c ha => by simp only [execOp, ha.ev hx, ha.ev hy]; simp [go_sem]⟩
theorem PR_geq (hx : ev e x = some (.int k a)) (hy : ev e y = some (.int k b)) : PR P n ⟨d, .binOp .geq t x y u, ty, pos, af, g⟩ e w (.bool (decide (b ≤ a))) :=
  ⟨fun c ha => by simp only [execOp, ha.ev hx, ha.ev hy]; simp [go_sem]⟩
theorem PR_eql (hx : ev e x = some (.int k a)) (hy : ev e y = some (.int k b)) : PR P n ⟨d, .binOp .eql t x y u, ty, pos, af, g⟩ e w (.bool (decide (a = b))) :=
  ⟨fun c ha => by simp only [execOp, ha.ev hx, ha.ev hy]; simp [go_sem]; exact Bool.beq_eq_decide_eq a b⟩
theorem PR_neq (hx : ev e x = some (.int k a)) (hy : ev e y = some (.int k b)) : PR P n ⟨d, .binOp .neq t x y u, ty, pos, af, g⟩ e w (.bool (decide (¬ a = b))) :=
  ⟨fun c ha => by simp only [execOp, ha.ev hx, ha.ev hy]; simp [go_sem]; rw [bne, Bool.beq_eq_decide_eq]⟩
theorem PR_eqlB {p q : Bool} [hu : Und P t .bool] (hx : ev e x = some (.bool p)) (hy : ev e y = some (.bool q)) : PR P n ⟨d, .binOp .eql t x y u, ty, pos, af, g⟩ e w (.bool (decide (p = q))) :=
  ⟨fun c ha => by simp only [execOp, ha.ev hx, ha.ev hy]; simp [go_sem, binOp, run_equal_bool w t p q hu.h]; cases p <;> cases q <;> rfl⟩
theorem PR_neqB {p q : Bool} [hu : Und P t .bool] (hx : ev e x = some (.bool p)) (hy : ev e y = some (.bool q)) : PR P n ⟨d, .binOp .neq t x y u, ty, pos, af, g⟩ e w (.bool (decide (¬ p = q))) :=
  ⟨fun c ha => by simp only [execOp, ha.ev hx, ha.ev hy]; simp [go_sem, binOp, run_equal_bool w t p q hu.h]; cases p <;> cases q <;> rfl⟩
end arith

theorem PR_extract {x : Operand} {vs : Array Value} {i : Nat} {v : Value} (hx : ev e x = some (.tuple vs)) (hv : vs[i]? = some v) : PR P n ⟨d, .extract x i, ty, pos, af, g⟩ e w v :=
  ⟨fun a ha => by simp [execOp, ha.ev hx, Instr.extract, hv]⟩

theorem PR_len {x : Operand} {t : TypeId} {el : TypeId} [hu : Und P t (.slice el)] {p : Option Addr} {l c : Nat} (hx : ev e x = some (.slice p l c)) :
    PR P n ⟨d, .call { callee := .builtin .len, args := #[x], argTypes := #[t] }, ty, pos, af, g⟩ e w (.int .i64 (l : Int)) :=
  ⟨fun a ha => by
    have := run_len_slice (P := P) w t ty p l c (by rw [hu.h, Program.elem, hu.h])
    simp [execOp, resolve, invoke, builtin, ha.ev hx, this, goInt]⟩

theorem fieldAt_run {t i off : Nat} [h : Fld P t i off] (b o : Nat) (w : World) : (Instr.fieldAt t (.pointer (some ⟨b, o, none⟩)) i).run P w = .ok (.pointer (some ⟨b, o + off, none⟩)) w := by
  obtain ⟨fs, f, k, h1, h2, rfl, h3⟩ := h.h
  have : Siz P f.type (k + 1) := ⟨h3⟩
  simp [Instr.fieldAt, run_underlying h1, h2, Instr.sureAddr, fieldPlace, Siz.run, Addr.add_lit]
theorem PR_fieldAddr {x : Operand} {t : TypeId} {b o i off : Nat} [hf : Fld P t i off] (hx : ev e x = some (.pointer (some ⟨b, o, none⟩))) : PR P n ⟨d, .fieldAddr t x i, ty, pos, af, g⟩ e w (.pointer (some ⟨b, o + off, none⟩)) :=
  ⟨fun a ha => by simp [execOp, ha.ev hx, fieldAt_run]⟩

theorem PR_load1 {x : Operand} {t : TypeId} {D : TypeDesc} {ad : Addr} {v : Value} [hu : Und P t D] (hA : aggB D = false) (hx : ev e x = some (.pointer (some ad))) (hc : w.cell? ad = some v) :
    PR P n ⟨d, .load t x, ty, pos, af, g⟩ e w v :=
  ⟨fun a ha => by simp [execOp, ha.ev hx, Instr.loadAt, Instr.sureAddr, loadVar, Und.isAgg, hA, hc]⟩
theorem PR_loadN {x : Operand} {t : TypeId} {D : TypeDesc} {b o k : Nat} {cs : List Value} [hu : Und P t D] (hA : aggB D = true) [hs : Siz P t k] (hx : ev e x = some (.pointer (some ⟨b, o, none⟩)))
    (hl : cs.length = k) (hc : ∀ j u, cs[j]? = some u → w.cell? ⟨b, o + j, none⟩ = some u) :
    PR P n ⟨d, .load t x, ty, pos, af, g⟩ e w (.agg cs.toArray) :=
  ⟨fun a ha => by
    have := run_loadCells_list (P := P) w ⟨b, o, none⟩ cs (fun j v h => by rw [Addr.add_lit]; exact hc j v h)
    rw [hl] at this
    simp [execOp, ha.ev hx, Instr.loadAt, Instr.sureAddr, loadVar, Und.isAgg, hA, Siz.run, this]⟩

theorem PR_makeFunc0 {f : Nat} : PR P n ⟨d, .makeFunc (.func f) #[] #[], ty, pos, af, g⟩ e w (.func (.func f) #[] #[]) :=
  ⟨fun a ha => by simp [execOp, Instr.makeFunc]⟩
theorem PR_makeFunc1 {f : Nat} {x : Operand} {v : Value} (hx : ev e x = some v) : PR P n ⟨d, .makeFunc (.func f) #[] #[x], ty, pos, af, g⟩ e w (.func (.func f) #[] #[v]) :=
  ⟨fun a ha => by simp [execOp, Instr.makeFunc, ha.ev hx]⟩
theorem PR_makeFunc2 {f : Nat} {x y : Operand} {v u : Value} (hx : ev e x = some v) (hy : ev e y = some u) : PR P n ⟨d, .makeFunc (.func f) #[] #[x, y], ty, pos, af, g⟩ e w (.func (.func f) #[] #[v, u]) :=
  ⟨fun a ha => by simp [execOp, Instr.makeFunc, ha.ev hx, ha.ev hy]⟩

theorem PR_makeFunc3 {f : Nat} {x y z : Operand} {v u s : Value} (hx : ev e x = some v) (hy : ev e y = some u) (hz : ev e z = some s) : PR P n ⟨d, .makeFunc (.func f) #[] #[x, y, z], ty, pos, af, g⟩ e w (.func (.func f) #[] #[v, u, s]) :=
  ⟨fun a ha => by simp [execOp, Instr.makeFunc, ha.ev hx, ha.ev hy, ha.ev hz]⟩

/-! ### calls -/
/-- the call returns a value that meets G -/
def Ret (G : Value → World → Prop) (r : Ending) (w' : World) : Prop := ∃ v, r = .returned v ∧ G v w'
theorem Ret.mk {G : Value → World → Prop} {v : Value} {w' : World} (h : G v w') : Ret G (.returned v) w' := ⟨v, rfl, h⟩
theorem Calls.ret {P : Program} {f : FuncId} {args : Array Value} {w : World} {G G' : Value → World → Prop} (h : Calls P f args w (Ret G)) (hg : ∀ v w', G v w' → G' v w') : Calls P f args w (Ret G') :=
  h.mono fun _ _ ⟨v, h1, h2⟩ => ⟨v, h1, hg _ _ h2⟩
theorem OE_call {f : Nat} {fn : Func} {xs : Array Operand} {ts : Array TypeId} {vs : Array Value} {G : Value → World → Prop} {c : Operand} [hf : Fun P f fn] (hc : ev e c = some (.func (.func f) #[] #[]))
    (hv : ∀ a, Has n e a → xs.map a.eval = vs) (h : Calls P f vs w (Ret G)) :
    OE P n ⟨d, .call { callee := .value c, args := xs, argTypes := ts }, ty, pos, af, g⟩ e w G :=
  ⟨fun a ha Q => by
    have he : (execOp a.eval ⟨d, .call { callee := .value c, args := xs, argTypes := ts }, ty, pos, af, g⟩).run P w = .ok (.enter f vs) w := by
      simp only [execOp, resolve, ha.ev hc, Deferred.ofValue, hv a ha]
      simp [invoke]
      exact hf.enters vs w
    unfold Oper.wp
    rw [he]
    simp only [Oper.upon]
    refine h.mono ?_
    rintro r w' ⟨v, rfl, hg⟩
    exact ⟨v, rfl, hg⟩⟩
theorem evs0 : ∀ a, Has n e a → (#[] : Array Operand).map a.eval = #[] := fun a ha => by simp
theorem evs1 {x : Operand} {v : Value} (hx : ev e x = some v) : ∀ a, Has n e a → #[x].map a.eval = #[v] := fun a ha => by simp [ha.ev hx]
theorem evs2 {x y : Operand} {v u : Value} (hx : ev e x = some v) (hy : ev e y = some u) : ∀ a, Has n e a → #[x, y].map a.eval = #[v, u] := fun a ha => by simp [ha.ev hx, ha.ev hy]
theorem evs3 {x y z : Operand} {v u s : Value} (hx : ev e x = some v) (hy : ev e y = some u) (hz : ev e z = some s) : ∀ a, Has n e a → #[x, y, z].map a.eval = #[v, u, s] := fun a ha => by simp [ha.ev hx, ha.ev hy, ha.ev hz]
theorem evs4 {x y z k : Operand} {v u s r : Value} (hx : ev e x = some v) (hy : ev e y = some u) (hz : ev e z = some s) (hk : ev e k = some r) : ∀ a, Has n e a → #[x, y, z, k].map a.eval = #[v, u, s, r] :=
  fun a ha => by simp [ha.ev hx, ha.ev hy, ha.ev hz, ha.ev hk]
end rules
end Go.Eng

/-
Facts on the types and functions of this seat, as instances: written by a program out of the translation.
-/
namespace Go.Proofs.YtgpibcgebpgmiaaDoor
open Go Go.Eng
theorem mixed : Tryd.prog.follows .mixedOrders = true := by kernel_rfl
abbrev und0 := Und.mk (P := Tryd.prog) (t := 0) Tryd.underlying0
attribute [instance] und0
instance siz0 : Siz Tryd.prog 0 1 := ⟨by kernel_rfl⟩
instance byt0 : Byt Tryd.prog 0 0 := ⟨by kernel_rfl⟩
abbrev und1 := Und.mk (P := Tryd.prog) (t := 1) Tryd.underlying1
attribute [instance] und1
instance siz1 : Siz Tryd.prog 1 1 := ⟨by kernel_rfl⟩
instance byt1 : Byt Tryd.prog 1 8 := ⟨by kernel_rfl⟩
instance zer1 : Zer Tryd.prog 1 (.nilFunc) := ⟨by kernel_rfl⟩
abbrev und2 := Und.mk (P := Tryd.prog) (t := 2) Tryd.underlying2
attribute [instance] und2
instance siz2 : Siz Tryd.prog 2 1 := ⟨by kernel_rfl⟩
instance byt2 : Byt Tryd.prog 2 8 := ⟨by kernel_rfl⟩
instance zer2 : Zer Tryd.prog 2 (.int .i64 0) := ⟨by kernel_rfl⟩
abbrev und3 := Und.mk (P := Tryd.prog) (t := 3) Tryd.underlying3
attribute [instance] und3
instance siz3 : Siz Tryd.prog 3 1 := ⟨by kernel_rfl⟩
instance byt3 : Byt Tryd.prog 3 8 := ⟨by kernel_rfl⟩
instance zer3 : Zer Tryd.prog 3 (.int .i64 0) := ⟨by kernel_rfl⟩
abbrev und4 := Und.mk (P := Tryd.prog) (t := 4) Tryd.underlying4
attribute [instance] und4
instance siz4 : Siz Tryd.prog 4 1 := ⟨by kernel_rfl⟩
instance byt4 : Byt Tryd.prog 4 1 := ⟨by kernel_rfl⟩
instance zer4 : Zer Tryd.prog 4 (.bool false) := ⟨by kernel_rfl⟩
abbrev und5 := Und.mk (P := Tryd.prog) (t := 5) Tryd.underlying5
attribute [instance] und5
instance siz5 : Siz Tryd.prog 5 1 := ⟨by kernel_rfl⟩
instance byt5 : Byt Tryd.prog 5 1 := ⟨by kernel_rfl⟩
instance zer5 : Zer Tryd.prog 5 (.int .u8 0) := ⟨by kernel_rfl⟩
abbrev und6 := Und.mk (P := Tryd.prog) (t := 6) Tryd.underlying6
attribute [instance] und6
instance siz6 : Siz Tryd.prog 6 1 := ⟨by kernel_rfl⟩
instance byt6 : Byt Tryd.prog 6 1 := ⟨by kernel_rfl⟩
instance zer6 : Zer Tryd.prog 6 (.int .u8 0) := ⟨by kernel_rfl⟩
abbrev und7 := Und.mk (P := Tryd.prog) (t := 7) Tryd.underlying7
attribute [instance] und7
instance siz7 : Siz Tryd.prog 7 4 := ⟨by kernel_rfl⟩
instance byt7 : Byt Tryd.prog 7 24 := ⟨by kernel_rfl⟩
instance zer7 : Zer Tryd.prog 7 (.agg #[.int .i64 0, .int .i64 0, .bool false, .int .u8 0]) := ⟨by kernel_rfl⟩
instance fld7x0 : Fld Tryd.prog 7 0 0 := ⟨_, _, 0, Tryd.underlying7, rfl, rfl, by kernel_rfl⟩
instance fld7x1 : Fld Tryd.prog 7 1 1 := ⟨_, _, 0, Tryd.underlying7, rfl, rfl, by kernel_rfl⟩
instance fld7x2 : Fld Tryd.prog 7 2 2 := ⟨_, _, 0, Tryd.underlying7, rfl, rfl, by kernel_rfl⟩
instance fld7x3 : Fld Tryd.prog 7 3 3 := ⟨_, _, 0, Tryd.underlying7, rfl, rfl, by kernel_rfl⟩
abbrev und8 := Und.mk (P := Tryd.prog) (t := 8) Tryd.underlying8
attribute [instance] und8
instance siz8 : Siz Tryd.prog 8 4 := ⟨by kernel_rfl⟩
instance byt8 : Byt Tryd.prog 8 24 := ⟨by kernel_rfl⟩
instance zer8 : Zer Tryd.prog 8 (.agg #[.int .i64 0, .int .i64 0, .bool false, .int .u8 0]) := ⟨by kernel_rfl⟩
instance fld8x0 : Fld Tryd.prog 8 0 0 := ⟨_, _, 0, Tryd.underlying8, rfl, rfl, by kernel_rfl⟩
instance fld8x1 : Fld Tryd.prog 8 1 1 := ⟨_, _, 0, Tryd.underlying8, rfl, rfl, by kernel_rfl⟩
instance fld8x2 : Fld Tryd.prog 8 2 2 := ⟨_, _, 0, Tryd.underlying8, rfl, rfl, by kernel_rfl⟩
instance fld8x3 : Fld Tryd.prog 8 3 3 := ⟨_, _, 0, Tryd.underlying8, rfl, rfl, by kernel_rfl⟩
abbrev und9 := Und.mk (P := Tryd.prog) (t := 9) Tryd.underlying9
attribute [instance] und9
instance siz9 : Siz Tryd.prog 9 1 := ⟨by kernel_rfl⟩
instance byt9 : Byt Tryd.prog 9 16 := ⟨by kernel_rfl⟩
instance zer9 : Zer Tryd.prog 9 (.string ByteArray.empty) := ⟨by kernel_rfl⟩
abbrev und10 := Und.mk (P := Tryd.prog) (t := 10) Tryd.underlying10
attribute [instance] und10
instance siz10 : Siz Tryd.prog 10 1 := ⟨by kernel_rfl⟩
instance byt10 : Byt Tryd.prog 10 16 := ⟨by kernel_rfl⟩
instance zer10 : Zer Tryd.prog 10 (.string ByteArray.empty) := ⟨by kernel_rfl⟩
abbrev und11 := Und.mk (P := Tryd.prog) (t := 11) Tryd.underlying11
attribute [instance] und11
instance siz11 : Siz Tryd.prog 11 1 := ⟨by kernel_rfl⟩
instance byt11 : Byt Tryd.prog 11 16 := ⟨by kernel_rfl⟩
instance zer11 : Zer Tryd.prog 11 (.string ByteArray.empty) := ⟨by kernel_rfl⟩
abbrev und12 := Und.mk (P := Tryd.prog) (t := 12) Tryd.underlying12
attribute [instance] und12
instance siz12 : Siz Tryd.prog 12 1 := ⟨by kernel_rfl⟩
instance byt12 : Byt Tryd.prog 12 8 := ⟨by kernel_rfl⟩
instance zer12 : Zer Tryd.prog 12 (.int .u64 0) := ⟨by kernel_rfl⟩
abbrev und13 := Und.mk (P := Tryd.prog) (t := 13) Tryd.underlying13
attribute [instance] und13
instance siz13 : Siz Tryd.prog 13 2 := ⟨by kernel_rfl⟩
instance byt13 : Byt Tryd.prog 13 24 := ⟨by kernel_rfl⟩
instance zer13 : Zer Tryd.prog 13 (.agg #[.string ByteArray.empty, .int .u64 0]) := ⟨by kernel_rfl⟩
instance fld13x0 : Fld Tryd.prog 13 0 0 := ⟨_, _, 0, Tryd.underlying13, rfl, rfl, by kernel_rfl⟩
instance fld13x1 : Fld Tryd.prog 13 1 1 := ⟨_, _, 0, Tryd.underlying13, rfl, rfl, by kernel_rfl⟩
abbrev und14 := Und.mk (P := Tryd.prog) (t := 14) Tryd.underlying14
attribute [instance] und14
instance siz14 : Siz Tryd.prog 14 2 := ⟨by kernel_rfl⟩
instance byt14 : Byt Tryd.prog 14 24 := ⟨by kernel_rfl⟩
instance zer14 : Zer Tryd.prog 14 (.agg #[.string ByteArray.empty, .int .u64 0]) := ⟨by kernel_rfl⟩
instance fld14x0 : Fld Tryd.prog 14 0 0 := ⟨_, _, 0, Tryd.underlying14, rfl, rfl, by kernel_rfl⟩
instance fld14x1 : Fld Tryd.prog 14 1 1 := ⟨_, _, 0, Tryd.underlying14, rfl, rfl, by kernel_rfl⟩
abbrev und15 := Und.mk (P := Tryd.prog) (t := 15) Tryd.underlying15
attribute [instance] und15
instance siz15 : Siz Tryd.prog 15 1 := ⟨by kernel_rfl⟩
instance byt15 : Byt Tryd.prog 15 8 := ⟨by kernel_rfl⟩
instance zer15 : Zer Tryd.prog 15 (.pointer none) := ⟨by kernel_rfl⟩
abbrev und16 := Und.mk (P := Tryd.prog) (t := 16) Tryd.underlying16
attribute [instance] und16
instance siz16 : Siz Tryd.prog 16 1 := ⟨by kernel_rfl⟩
instance byt16 : Byt Tryd.prog 16 8 := ⟨by kernel_rfl⟩
instance zer16 : Zer Tryd.prog 16 (.pointer none) := ⟨by kernel_rfl⟩
abbrev und17 := Und.mk (P := Tryd.prog) (t := 17) Tryd.underlying17
attribute [instance] und17
instance siz17 : Siz Tryd.prog 17 1 := ⟨by kernel_rfl⟩
instance byt17 : Byt Tryd.prog 17 8 := ⟨by kernel_rfl⟩
instance zer17 : Zer Tryd.prog 17 (.pointer none) := ⟨by kernel_rfl⟩
abbrev und18 := Und.mk (P := Tryd.prog) (t := 18) Tryd.underlying18
attribute [instance] und18
instance siz18 : Siz Tryd.prog 18 1 := ⟨by kernel_rfl⟩
instance byt18 : Byt Tryd.prog 18 8 := ⟨by kernel_rfl⟩
instance zer18 : Zer Tryd.prog 18 (.agg #[.pointer none]) := ⟨by kernel_rfl⟩
instance fld18x0 : Fld Tryd.prog 18 0 0 := ⟨_, _, 0, Tryd.underlying18, rfl, rfl, by kernel_rfl⟩
abbrev und19 := Und.mk (P := Tryd.prog) (t := 19) Tryd.underlying19
attribute [instance] und19
instance siz19 : Siz Tryd.prog 19 1 := ⟨by kernel_rfl⟩
instance byt19 : Byt Tryd.prog 19 8 := ⟨by kernel_rfl⟩
instance zer19 : Zer Tryd.prog 19 (.agg #[.pointer none]) := ⟨by kernel_rfl⟩
instance fld19x0 : Fld Tryd.prog 19 0 0 := ⟨_, _, 0, Tryd.underlying19, rfl, rfl, by kernel_rfl⟩
abbrev und20 := Und.mk (P := Tryd.prog) (t := 20) Tryd.underlying20
attribute [instance] und20
instance siz20 : Siz Tryd.prog 20 1 := ⟨by kernel_rfl⟩
instance byt20 : Byt Tryd.prog 20 16 := ⟨by kernel_rfl⟩
instance zer20 : Zer Tryd.prog 20 (.nilIface) := ⟨by kernel_rfl⟩
abbrev und21 := Und.mk (P := Tryd.prog) (t := 21) Tryd.underlying21
attribute [instance] und21
instance siz21 : Siz Tryd.prog 21 1 := ⟨by kernel_rfl⟩
instance byt21 : Byt Tryd.prog 21 4 := ⟨by kernel_rfl⟩
instance zer21 : Zer Tryd.prog 21 (.int .i32 0) := ⟨by kernel_rfl⟩
abbrev und22 := Und.mk (P := Tryd.prog) (t := 22) Tryd.underlying22
attribute [instance] und22
instance siz22 : Siz Tryd.prog 22 1 := ⟨by kernel_rfl⟩
instance byt22 : Byt Tryd.prog 22 24 := ⟨by kernel_rfl⟩
instance zer22 : Zer Tryd.prog 22 (.slice none 0 0) := ⟨by kernel_rfl⟩
abbrev und23 := Und.mk (P := Tryd.prog) (t := 23) Tryd.underlying23
attribute [instance] und23
instance siz23 : Siz Tryd.prog 23 1 := ⟨by kernel_rfl⟩
instance byt23 : Byt Tryd.prog 23 24 := ⟨by kernel_rfl⟩
instance zer23 : Zer Tryd.prog 23 (.slice none 0 0) := ⟨by kernel_rfl⟩
abbrev und24 := Und.mk (P := Tryd.prog) (t := 24) Tryd.underlying24
attribute [instance] und24
instance siz24 : Siz Tryd.prog 24 4 := ⟨by kernel_rfl⟩
instance byt24 : Byt Tryd.prog 24 56 := ⟨by kernel_rfl⟩
instance zer24 : Zer Tryd.prog 24 (.agg #[.int .i64 0, .int .i64 0, .string ByteArray.empty, .slice none 0 0]) := ⟨by kernel_rfl⟩
instance fld24x0 : Fld Tryd.prog 24 0 0 := ⟨_, _, 0, Tryd.underlying24, rfl, rfl, by kernel_rfl⟩
instance fld24x1 : Fld Tryd.prog 24 1 1 := ⟨_, _, 0, Tryd.underlying24, rfl, rfl, by kernel_rfl⟩
instance fld24x2 : Fld Tryd.prog 24 2 2 := ⟨_, _, 0, Tryd.underlying24, rfl, rfl, by kernel_rfl⟩
instance fld24x3 : Fld Tryd.prog 24 3 3 := ⟨_, _, 0, Tryd.underlying24, rfl, rfl, by kernel_rfl⟩
abbrev und25 := Und.mk (P := Tryd.prog) (t := 25) Tryd.underlying25
attribute [instance] und25
instance siz25 : Siz Tryd.prog 25 4 := ⟨by kernel_rfl⟩
instance byt25 : Byt Tryd.prog 25 56 := ⟨by kernel_rfl⟩
instance zer25 : Zer Tryd.prog 25 (.agg #[.int .i64 0, .int .i64 0, .string ByteArray.empty, .slice none 0 0]) := ⟨by kernel_rfl⟩
instance fld25x0 : Fld Tryd.prog 25 0 0 := ⟨_, _, 0, Tryd.underlying25, rfl, rfl, by kernel_rfl⟩
instance fld25x1 : Fld Tryd.prog 25 1 1 := ⟨_, _, 0, Tryd.underlying25, rfl, rfl, by kernel_rfl⟩
instance fld25x2 : Fld Tryd.prog 25 2 2 := ⟨_, _, 0, Tryd.underlying25, rfl, rfl, by kernel_rfl⟩
instance fld25x3 : Fld Tryd.prog 25 3 3 := ⟨_, _, 0, Tryd.underlying25, rfl, rfl, by kernel_rfl⟩
abbrev und26 := Und.mk (P := Tryd.prog) (t := 26) Tryd.underlying26
attribute [instance] und26
instance siz26 : Siz Tryd.prog 26 1 := ⟨by kernel_rfl⟩
instance byt26 : Byt Tryd.prog 26 8 := ⟨by kernel_rfl⟩
instance zer26 : Zer Tryd.prog 26 (.nilFunc) := ⟨by kernel_rfl⟩
abbrev und27 := Und.mk (P := Tryd.prog) (t := 27) Tryd.underlying27
attribute [instance] und27
instance siz27 : Siz Tryd.prog 27 1 := ⟨by kernel_rfl⟩
instance byt27 : Byt Tryd.prog 27 0 := ⟨by kernel_rfl⟩
abbrev und28 := Und.mk (P := Tryd.prog) (t := 28) Tryd.underlying28
attribute [instance] und28
instance siz28 : Siz Tryd.prog 28 1 := ⟨by kernel_rfl⟩
instance byt28 : Byt Tryd.prog 28 8 := ⟨by kernel_rfl⟩
instance zer28 : Zer Tryd.prog 28 (.nilFunc) := ⟨by kernel_rfl⟩
abbrev und29 := Und.mk (P := Tryd.prog) (t := 29) Tryd.underlying29
attribute [instance] und29
instance siz29 : Siz Tryd.prog 29 1 := ⟨by kernel_rfl⟩
instance byt29 : Byt Tryd.prog 29 8 := ⟨by kernel_rfl⟩
instance zer29 : Zer Tryd.prog 29 (.nilFunc) := ⟨by kernel_rfl⟩
abbrev und30 := Und.mk (P := Tryd.prog) (t := 30) Tryd.underlying30
attribute [instance] und30
instance siz30 : Siz Tryd.prog 30 1 := ⟨by kernel_rfl⟩
instance byt30 : Byt Tryd.prog 30 8 := ⟨by kernel_rfl⟩
instance zer30 : Zer Tryd.prog 30 (.nilFunc) := ⟨by kernel_rfl⟩
abbrev und31 := Und.mk (P := Tryd.prog) (t := 31) Tryd.underlying31
attribute [instance] und31
instance siz31 : Siz Tryd.prog 31 1 := ⟨by kernel_rfl⟩
instance byt31 : Byt Tryd.prog 31 8 := ⟨by kernel_rfl⟩
instance zer31 : Zer Tryd.prog 31 (.int .i64 0) := ⟨by kernel_rfl⟩
abbrev und32 := Und.mk (P := Tryd.prog) (t := 32) Tryd.underlying32
attribute [instance] und32
instance siz32 : Siz Tryd.prog 32 1 := ⟨by kernel_rfl⟩
instance byt32 : Byt Tryd.prog 32 0 := ⟨by kernel_rfl⟩
abbrev und33 := Und.mk (P := Tryd.prog) (t := 33) Tryd.underlying33
attribute [instance] und33
instance siz33 : Siz Tryd.prog 33 1 := ⟨by kernel_rfl⟩
instance byt33 : Byt Tryd.prog 33 8 := ⟨by kernel_rfl⟩
instance zer33 : Zer Tryd.prog 33 (.nilFunc) := ⟨by kernel_rfl⟩
abbrev und34 := Und.mk (P := Tryd.prog) (t := 34) Tryd.underlying34
attribute [instance] und34
instance siz34 : Siz Tryd.prog 34 1 := ⟨by kernel_rfl⟩
instance byt34 : Byt Tryd.prog 34 8 := ⟨by kernel_rfl⟩
instance zer34 : Zer Tryd.prog 34 (.nilFunc) := ⟨by kernel_rfl⟩
abbrev und35 := Und.mk (P := Tryd.prog) (t := 35) Tryd.underlying35
attribute [instance] und35
instance siz35 : Siz Tryd.prog 35 1 := ⟨by kernel_rfl⟩
instance byt35 : Byt Tryd.prog 35 8 := ⟨by kernel_rfl⟩
instance zer35 : Zer Tryd.prog 35 (.nilFunc) := ⟨by kernel_rfl⟩
abbrev und36 := Und.mk (P := Tryd.prog) (t := 36) Tryd.underlying36
attribute [instance] und36
instance siz36 : Siz Tryd.prog 36 1 := ⟨by kernel_rfl⟩
instance byt36 : Byt Tryd.prog 36 8 := ⟨by kernel_rfl⟩
instance zer36 : Zer Tryd.prog 36 (.nilFunc) := ⟨by kernel_rfl⟩
abbrev und37 := Und.mk (P := Tryd.prog) (t := 37) Tryd.underlying37
attribute [instance] und37
instance siz37 : Siz Tryd.prog 37 1 := ⟨by kernel_rfl⟩
instance byt37 : Byt Tryd.prog 37 8 := ⟨by kernel_rfl⟩
instance zer37 : Zer Tryd.prog 37 (.nilFunc) := ⟨by kernel_rfl⟩
abbrev und38 := Und.mk (P := Tryd.prog) (t := 38) Tryd.underlying38
attribute [instance] und38
instance siz38 : Siz Tryd.prog 38 1 := ⟨by kernel_rfl⟩
instance byt38 : Byt Tryd.prog 38 24 := ⟨by kernel_rfl⟩
instance zer38 : Zer Tryd.prog 38 (.slice none 0 0) := ⟨by kernel_rfl⟩
abbrev und39 := Und.mk (P := Tryd.prog) (t := 39) Tryd.underlying39
attribute [instance] und39
instance siz39 : Siz Tryd.prog 39 1 := ⟨by kernel_rfl⟩
instance byt39 : Byt Tryd.prog 39 8 := ⟨by kernel_rfl⟩
instance zer39 : Zer Tryd.prog 39 (.nilFunc) := ⟨by kernel_rfl⟩
abbrev und40 := Und.mk (P := Tryd.prog) (t := 40) Tryd.underlying40
attribute [instance] und40
instance siz40 : Siz Tryd.prog 40 1 := ⟨by kernel_rfl⟩
instance byt40 : Byt Tryd.prog 40 24 := ⟨by kernel_rfl⟩
instance zer40 : Zer Tryd.prog 40 (.slice none 0 0) := ⟨by kernel_rfl⟩
abbrev und41 := Und.mk (P := Tryd.prog) (t := 41) Tryd.underlying41
attribute [instance] und41
instance siz41 : Siz Tryd.prog 41 7 := ⟨by kernel_rfl⟩
instance byt41 : Byt Tryd.prog 41 120 := ⟨by kernel_rfl⟩
instance zer41 : Zer Tryd.prog 41 (.agg #[.string ByteArray.empty, .int .i64 0, .string ByteArray.empty, .slice none 0 0, .slice none 0 0, .string ByteArray.empty, .string ByteArray.empty]) := ⟨by kernel_rfl⟩
instance fld41x0 : Fld Tryd.prog 41 0 0 := ⟨_, _, 0, Tryd.underlying41, rfl, rfl, by kernel_rfl⟩
instance fld41x1 : Fld Tryd.prog 41 1 1 := ⟨_, _, 0, Tryd.underlying41, rfl, rfl, by kernel_rfl⟩
instance fld41x2 : Fld Tryd.prog 41 2 2 := ⟨_, _, 0, Tryd.underlying41, rfl, rfl, by kernel_rfl⟩
instance fld41x3 : Fld Tryd.prog 41 3 3 := ⟨_, _, 0, Tryd.underlying41, rfl, rfl, by kernel_rfl⟩
instance fld41x4 : Fld Tryd.prog 41 4 4 := ⟨_, _, 0, Tryd.underlying41, rfl, rfl, by kernel_rfl⟩
instance fld41x5 : Fld Tryd.prog 41 5 5 := ⟨_, _, 0, Tryd.underlying41, rfl, rfl, by kernel_rfl⟩
instance fld41x6 : Fld Tryd.prog 41 6 6 := ⟨_, _, 0, Tryd.underlying41, rfl, rfl, by kernel_rfl⟩
abbrev und42 := Und.mk (P := Tryd.prog) (t := 42) Tryd.underlying42
attribute [instance] und42
instance siz42 : Siz Tryd.prog 42 7 := ⟨by kernel_rfl⟩
instance byt42 : Byt Tryd.prog 42 120 := ⟨by kernel_rfl⟩
instance zer42 : Zer Tryd.prog 42 (.agg #[.string ByteArray.empty, .int .i64 0, .string ByteArray.empty, .slice none 0 0, .slice none 0 0, .string ByteArray.empty, .string ByteArray.empty]) := ⟨by kernel_rfl⟩
instance fld42x0 : Fld Tryd.prog 42 0 0 := ⟨_, _, 0, Tryd.underlying42, rfl, rfl, by kernel_rfl⟩
instance fld42x1 : Fld Tryd.prog 42 1 1 := ⟨_, _, 0, Tryd.underlying42, rfl, rfl, by kernel_rfl⟩
instance fld42x2 : Fld Tryd.prog 42 2 2 := ⟨_, _, 0, Tryd.underlying42, rfl, rfl, by kernel_rfl⟩
instance fld42x3 : Fld Tryd.prog 42 3 3 := ⟨_, _, 0, Tryd.underlying42, rfl, rfl, by kernel_rfl⟩
instance fld42x4 : Fld Tryd.prog 42 4 4 := ⟨_, _, 0, Tryd.underlying42, rfl, rfl, by kernel_rfl⟩
instance fld42x5 : Fld Tryd.prog 42 5 5 := ⟨_, _, 0, Tryd.underlying42, rfl, rfl, by kernel_rfl⟩
instance fld42x6 : Fld Tryd.prog 42 6 6 := ⟨_, _, 0, Tryd.underlying42, rfl, rfl, by kernel_rfl⟩
abbrev und43 := Und.mk (P := Tryd.prog) (t := 43) Tryd.underlying43
attribute [instance] und43
instance siz43 : Siz Tryd.prog 43 1 := ⟨by kernel_rfl⟩
instance byt43 : Byt Tryd.prog 43 0 := ⟨by kernel_rfl⟩
abbrev und44 := Und.mk (P := Tryd.prog) (t := 44) Tryd.underlying44
attribute [instance] und44
instance siz44 : Siz Tryd.prog 44 1 := ⟨by kernel_rfl⟩
instance byt44 : Byt Tryd.prog 44 8 := ⟨by kernel_rfl⟩
instance zer44 : Zer Tryd.prog 44 (.nilFunc) := ⟨by kernel_rfl⟩
abbrev und45 := Und.mk (P := Tryd.prog) (t := 45) Tryd.underlying45
attribute [instance] und45
instance siz45 : Siz Tryd.prog 45 1 := ⟨by kernel_rfl⟩
instance byt45 : Byt Tryd.prog 45 8 := ⟨by kernel_rfl⟩
instance zer45 : Zer Tryd.prog 45 (.nilFunc) := ⟨by kernel_rfl⟩
abbrev und46 := Und.mk (P := Tryd.prog) (t := 46) Tryd.underlying46
attribute [instance] und46
instance siz46 : Siz Tryd.prog 46 1 := ⟨by kernel_rfl⟩
instance byt46 : Byt Tryd.prog 46 8 := ⟨by kernel_rfl⟩
instance zer46 : Zer Tryd.prog 46 (.nilFunc) := ⟨by kernel_rfl⟩
abbrev und47 := Und.mk (P := Tryd.prog) (t := 47) Tryd.underlying47
attribute [instance] und47
instance siz47 : Siz Tryd.prog 47 1 := ⟨by kernel_rfl⟩
instance byt47 : Byt Tryd.prog 47 8 := ⟨by kernel_rfl⟩
instance zer47 : Zer Tryd.prog 47 (.nilFunc) := ⟨by kernel_rfl⟩
abbrev und48 := Und.mk (P := Tryd.prog) (t := 48) Tryd.underlying48
attribute [instance] und48
instance siz48 : Siz Tryd.prog 48 1 := ⟨by kernel_rfl⟩
instance byt48 : Byt Tryd.prog 48 8 := ⟨by kernel_rfl⟩
instance zer48 : Zer Tryd.prog 48 (.nilFunc) := ⟨by kernel_rfl⟩
abbrev und49 := Und.mk (P := Tryd.prog) (t := 49) Tryd.underlying49
attribute [instance] und49
instance siz49 : Siz Tryd.prog 49 1 := ⟨by kernel_rfl⟩
instance byt49 : Byt Tryd.prog 49 8 := ⟨by kernel_rfl⟩
instance zer49 : Zer Tryd.prog 49 (.nilFunc) := ⟨by kernel_rfl⟩
abbrev und50 := Und.mk (P := Tryd.prog) (t := 50) Tryd.underlying50
attribute [instance] und50
instance siz50 : Siz Tryd.prog 50 13 := ⟨by kernel_rfl⟩
instance byt50 : Byt Tryd.prog 50 184 := ⟨by kernel_rfl⟩
instance zer50 : Zer Tryd.prog 50 (.agg #[.string ByteArray.empty, .int .i64 0, .string ByteArray.empty, .int .i64 0, .int .i64 0, .string ByteArray.empty, .slice none 0 0, .int .i64 0, .int .i64 0, .string ByteArray.empty, .slice none 0 0, .string ByteArray.empty, .string ByteArray.empty]) := ⟨by kernel_rfl⟩
instance fld50x0 : Fld Tryd.prog 50 0 0 := ⟨_, _, 0, Tryd.underlying50, rfl, rfl, by kernel_rfl⟩
instance fld50x1 : Fld Tryd.prog 50 1 1 := ⟨_, _, 0, Tryd.underlying50, rfl, rfl, by kernel_rfl⟩
instance fld50x2 : Fld Tryd.prog 50 2 2 := ⟨_, _, 0, Tryd.underlying50, rfl, rfl, by kernel_rfl⟩
instance fld50x3 : Fld Tryd.prog 50 3 3 := ⟨_, _, 3, Tryd.underlying50, rfl, rfl, by kernel_rfl⟩
instance fld50x4 : Fld Tryd.prog 50 4 7 := ⟨_, _, 3, Tryd.underlying50, rfl, rfl, by kernel_rfl⟩
instance fld50x5 : Fld Tryd.prog 50 5 11 := ⟨_, _, 0, Tryd.underlying50, rfl, rfl, by kernel_rfl⟩
instance fld50x6 : Fld Tryd.prog 50 6 12 := ⟨_, _, 0, Tryd.underlying50, rfl, rfl, by kernel_rfl⟩
abbrev und51 := Und.mk (P := Tryd.prog) (t := 51) Tryd.underlying51
attribute [instance] und51
instance siz51 : Siz Tryd.prog 51 13 := ⟨by kernel_rfl⟩
instance byt51 : Byt Tryd.prog 51 184 := ⟨by kernel_rfl⟩
instance zer51 : Zer Tryd.prog 51 (.agg #[.string ByteArray.empty, .int .i64 0, .string ByteArray.empty, .int .i64 0, .int .i64 0, .string ByteArray.empty, .slice none 0 0, .int .i64 0, .int .i64 0, .string ByteArray.empty, .slice none 0 0, .string ByteArray.empty, .string ByteArray.empty]) := ⟨by kernel_rfl⟩
instance fld51x0 : Fld Tryd.prog 51 0 0 := ⟨_, _, 0, Tryd.underlying51, rfl, rfl, by kernel_rfl⟩
instance fld51x1 : Fld Tryd.prog 51 1 1 := ⟨_, _, 0, Tryd.underlying51, rfl, rfl, by kernel_rfl⟩
instance fld51x2 : Fld Tryd.prog 51 2 2 := ⟨_, _, 0, Tryd.underlying51, rfl, rfl, by kernel_rfl⟩
instance fld51x3 : Fld Tryd.prog 51 3 3 := ⟨_, _, 3, Tryd.underlying51, rfl, rfl, by kernel_rfl⟩
instance fld51x4 : Fld Tryd.prog 51 4 7 := ⟨_, _, 3, Tryd.underlying51, rfl, rfl, by kernel_rfl⟩
instance fld51x5 : Fld Tryd.prog 51 5 11 := ⟨_, _, 0, Tryd.underlying51, rfl, rfl, by kernel_rfl⟩
instance fld51x6 : Fld Tryd.prog 51 6 12 := ⟨_, _, 0, Tryd.underlying51, rfl, rfl, by kernel_rfl⟩
abbrev und52 := Und.mk (P := Tryd.prog) (t := 52) Tryd.underlying52
attribute [instance] und52
instance siz52 : Siz Tryd.prog 52 1 := ⟨by kernel_rfl⟩
instance byt52 : Byt Tryd.prog 52 8 := ⟨by kernel_rfl⟩
instance zer52 : Zer Tryd.prog 52 (.nilFunc) := ⟨by kernel_rfl⟩
abbrev und53 := Und.mk (P := Tryd.prog) (t := 53) Tryd.underlying53
attribute [instance] und53
instance siz53 : Siz Tryd.prog 53 1 := ⟨by kernel_rfl⟩
instance byt53 : Byt Tryd.prog 53 8 := ⟨by kernel_rfl⟩
instance zer53 : Zer Tryd.prog 53 (.nilFunc) := ⟨by kernel_rfl⟩
abbrev und54 := Und.mk (P := Tryd.prog) (t := 54) Tryd.underlying54
attribute [instance] und54
instance siz54 : Siz Tryd.prog 54 1 := ⟨by kernel_rfl⟩
instance byt54 : Byt Tryd.prog 54 8 := ⟨by kernel_rfl⟩
instance zer54 : Zer Tryd.prog 54 (.nilFunc) := ⟨by kernel_rfl⟩
abbrev und55 := Und.mk (P := Tryd.prog) (t := 55) Tryd.underlying55
attribute [instance] und55
instance siz55 : Siz Tryd.prog 55 1 := ⟨by kernel_rfl⟩
instance byt55 : Byt Tryd.prog 55 0 := ⟨by kernel_rfl⟩
abbrev und56 := Und.mk (P := Tryd.prog) (t := 56) Tryd.underlying56
attribute [instance] und56
instance siz56 : Siz Tryd.prog 56 1 := ⟨by kernel_rfl⟩
instance byt56 : Byt Tryd.prog 56 8 := ⟨by kernel_rfl⟩
instance zer56 : Zer Tryd.prog 56 (.nilFunc) := ⟨by kernel_rfl⟩
abbrev und57 := Und.mk (P := Tryd.prog) (t := 57) Tryd.underlying57
attribute [instance] und57
instance siz57 : Siz Tryd.prog 57 1 := ⟨by kernel_rfl⟩
instance byt57 : Byt Tryd.prog 57 8 := ⟨by kernel_rfl⟩
instance zer57 : Zer Tryd.prog 57 (.nilFunc) := ⟨by kernel_rfl⟩
abbrev und58 := Und.mk (P := Tryd.prog) (t := 58) Tryd.underlying58
attribute [instance] und58
instance siz58 : Siz Tryd.prog 58 2 := ⟨by kernel_rfl⟩
instance byt58 : Byt Tryd.prog 58 16 := ⟨by kernel_rfl⟩
instance zer58 : Zer Tryd.prog 58 (.agg #[.int .i64 0, .int .i64 0]) := ⟨by kernel_rfl⟩
instance fld58x0 : Fld Tryd.prog 58 0 0 := ⟨_, _, 0, Tryd.underlying58, rfl, rfl, by kernel_rfl⟩
instance fld58x1 : Fld Tryd.prog 58 1 1 := ⟨_, _, 0, Tryd.underlying58, rfl, rfl, by kernel_rfl⟩
abbrev und59 := Und.mk (P := Tryd.prog) (t := 59) Tryd.underlying59
attribute [instance] und59
instance siz59 : Siz Tryd.prog 59 2 := ⟨by kernel_rfl⟩
instance byt59 : Byt Tryd.prog 59 16 := ⟨by kernel_rfl⟩
instance zer59 : Zer Tryd.prog 59 (.agg #[.int .i64 0, .int .i64 0]) := ⟨by kernel_rfl⟩
instance fld59x0 : Fld Tryd.prog 59 0 0 := ⟨_, _, 0, Tryd.underlying59, rfl, rfl, by kernel_rfl⟩
instance fld59x1 : Fld Tryd.prog 59 1 1 := ⟨_, _, 0, Tryd.underlying59, rfl, rfl, by kernel_rfl⟩
abbrev und60 := Und.mk (P := Tryd.prog) (t := 60) Tryd.underlying60
attribute [instance] und60
instance siz60 : Siz Tryd.prog 60 1 := ⟨by kernel_rfl⟩
instance byt60 : Byt Tryd.prog 60 8 := ⟨by kernel_rfl⟩
instance zer60 : Zer Tryd.prog 60 (.pointer none) := ⟨by kernel_rfl⟩
abbrev und61 := Und.mk (P := Tryd.prog) (t := 61) Tryd.underlying61
attribute [instance] und61
instance siz61 : Siz Tryd.prog 61 2 := ⟨by kernel_rfl⟩
instance byt61 : Byt Tryd.prog 61 32 := ⟨by kernel_rfl⟩
instance zer61 : Zer Tryd.prog 61 (.agg #[.slice none 0 0, .int .i64 0]) := ⟨by kernel_rfl⟩
instance fld61x0 : Fld Tryd.prog 61 0 0 := ⟨_, _, 0, Tryd.underlying61, rfl, rfl, by kernel_rfl⟩
instance fld61x1 : Fld Tryd.prog 61 1 1 := ⟨_, _, 0, Tryd.underlying61, rfl, rfl, by kernel_rfl⟩
abbrev und62 := Und.mk (P := Tryd.prog) (t := 62) Tryd.underlying62
attribute [instance] und62
instance siz62 : Siz Tryd.prog 62 2 := ⟨by kernel_rfl⟩
instance byt62 : Byt Tryd.prog 62 32 := ⟨by kernel_rfl⟩
instance zer62 : Zer Tryd.prog 62 (.agg #[.slice none 0 0, .int .i64 0]) := ⟨by kernel_rfl⟩
instance fld62x0 : Fld Tryd.prog 62 0 0 := ⟨_, _, 0, Tryd.underlying62, rfl, rfl, by kernel_rfl⟩
instance fld62x1 : Fld Tryd.prog 62 1 1 := ⟨_, _, 0, Tryd.underlying62, rfl, rfl, by kernel_rfl⟩
abbrev und63 := Und.mk (P := Tryd.prog) (t := 63) Tryd.underlying63
attribute [instance] und63
instance siz63 : Siz Tryd.prog 63 1 := ⟨by kernel_rfl⟩
instance byt63 : Byt Tryd.prog 63 8 := ⟨by kernel_rfl⟩
instance zer63 : Zer Tryd.prog 63 (.nilFunc) := ⟨by kernel_rfl⟩
abbrev und64 := Und.mk (P := Tryd.prog) (t := 64) Tryd.underlying64
attribute [instance] und64
instance siz64 : Siz Tryd.prog 64 1 := ⟨by kernel_rfl⟩
instance byt64 : Byt Tryd.prog 64 8 := ⟨by kernel_rfl⟩
instance zer64 : Zer Tryd.prog 64 (.nilFunc) := ⟨by kernel_rfl⟩
abbrev und65 := Und.mk (P := Tryd.prog) (t := 65) Tryd.underlying65
attribute [instance] und65
instance siz65 : Siz Tryd.prog 65 1 := ⟨by kernel_rfl⟩
instance byt65 : Byt Tryd.prog 65 0 := ⟨by kernel_rfl⟩
abbrev und66 := Und.mk (P := Tryd.prog) (t := 66) Tryd.underlying66
attribute [instance] und66
instance siz66 : Siz Tryd.prog 66 1 := ⟨by kernel_rfl⟩
instance byt66 : Byt Tryd.prog 66 8 := ⟨by kernel_rfl⟩
instance zer66 : Zer Tryd.prog 66 (.nilFunc) := ⟨by kernel_rfl⟩
abbrev und67 := Und.mk (P := Tryd.prog) (t := 67) Tryd.underlying67
attribute [instance] und67
instance siz67 : Siz Tryd.prog 67 1 := ⟨by kernel_rfl⟩
instance byt67 : Byt Tryd.prog 67 8 := ⟨by kernel_rfl⟩
instance zer67 : Zer Tryd.prog 67 (.nilFunc) := ⟨by kernel_rfl⟩
abbrev und68 := Und.mk (P := Tryd.prog) (t := 68) Tryd.underlying68
attribute [instance] und68
instance siz68 : Siz Tryd.prog 68 1 := ⟨by kernel_rfl⟩
instance byt68 : Byt Tryd.prog 68 8 := ⟨by kernel_rfl⟩
instance zer68 : Zer Tryd.prog 68 (.nilFunc) := ⟨by kernel_rfl⟩
abbrev und69 := Und.mk (P := Tryd.prog) (t := 69) Tryd.underlying69
attribute [instance] und69
instance siz69 : Siz Tryd.prog 69 1 := ⟨by kernel_rfl⟩
instance byt69 : Byt Tryd.prog 69 8 := ⟨by kernel_rfl⟩
instance zer69 : Zer Tryd.prog 69 (.nilFunc) := ⟨by kernel_rfl⟩
abbrev und70 := Und.mk (P := Tryd.prog) (t := 70) Tryd.underlying70
attribute [instance] und70
instance siz70 : Siz Tryd.prog 70 1 := ⟨by kernel_rfl⟩
instance byt70 : Byt Tryd.prog 70 8 := ⟨by kernel_rfl⟩
instance zer70 : Zer Tryd.prog 70 (.nilFunc) := ⟨by kernel_rfl⟩
abbrev und71 := Und.mk (P := Tryd.prog) (t := 71) Tryd.underlying71
attribute [instance] und71
instance siz71 : Siz Tryd.prog 71 1 := ⟨by kernel_rfl⟩
instance byt71 : Byt Tryd.prog 71 8 := ⟨by kernel_rfl⟩
instance zer71 : Zer Tryd.prog 71 (.nilFunc) := ⟨by kernel_rfl⟩
abbrev und72 := Und.mk (P := Tryd.prog) (t := 72) Tryd.underlying72
attribute [instance] und72
instance siz72 : Siz Tryd.prog 72 1 := ⟨by kernel_rfl⟩
instance byt72 : Byt Tryd.prog 72 8 := ⟨by kernel_rfl⟩
instance zer72 : Zer Tryd.prog 72 (.nilFunc) := ⟨by kernel_rfl⟩
abbrev und73 := Und.mk (P := Tryd.prog) (t := 73) Tryd.underlying73
attribute [instance] und73
instance siz73 : Siz Tryd.prog 73 1 := ⟨by kernel_rfl⟩
instance byt73 : Byt Tryd.prog 73 8 := ⟨by kernel_rfl⟩
instance zer73 : Zer Tryd.prog 73 (.pointer none) := ⟨by kernel_rfl⟩
abbrev und74 := Und.mk (P := Tryd.prog) (t := 74) Tryd.underlying74
attribute [instance] und74
instance siz74 : Siz Tryd.prog 74 1 := ⟨by kernel_rfl⟩
instance byt74 : Byt Tryd.prog 74 8 := ⟨by kernel_rfl⟩
instance zer74 : Zer Tryd.prog 74 (.nilFunc) := ⟨by kernel_rfl⟩
abbrev und75 := Und.mk (P := Tryd.prog) (t := 75) Tryd.underlying75
attribute [instance] und75
instance siz75 : Siz Tryd.prog 75 1 := ⟨by kernel_rfl⟩
instance byt75 : Byt Tryd.prog 75 8 := ⟨by kernel_rfl⟩
instance zer75 : Zer Tryd.prog 75 (.nilFunc) := ⟨by kernel_rfl⟩
abbrev und76 := Und.mk (P := Tryd.prog) (t := 76) Tryd.underlying76
attribute [instance] und76
instance siz76 : Siz Tryd.prog 76 1 := ⟨by kernel_rfl⟩
instance byt76 : Byt Tryd.prog 76 8 := ⟨by kernel_rfl⟩
instance zer76 : Zer Tryd.prog 76 (.nilFunc) := ⟨by kernel_rfl⟩
abbrev und77 := Und.mk (P := Tryd.prog) (t := 77) Tryd.underlying77
attribute [instance] und77
instance siz77 : Siz Tryd.prog 77 1 := ⟨by kernel_rfl⟩
instance byt77 : Byt Tryd.prog 77 8 := ⟨by kernel_rfl⟩
instance zer77 : Zer Tryd.prog 77 (.nilFunc) := ⟨by kernel_rfl⟩
abbrev und78 := Und.mk (P := Tryd.prog) (t := 78) Tryd.underlying78
attribute [instance] und78
instance siz78 : Siz Tryd.prog 78 1 := ⟨by kernel_rfl⟩
instance byt78 : Byt Tryd.prog 78 8 := ⟨by kernel_rfl⟩
instance zer78 : Zer Tryd.prog 78 (.nilFunc) := ⟨by kernel_rfl⟩
abbrev und79 := Und.mk (P := Tryd.prog) (t := 79) Tryd.underlying79
attribute [instance] und79
instance siz79 : Siz Tryd.prog 79 1 := ⟨by kernel_rfl⟩
instance byt79 : Byt Tryd.prog 79 8 := ⟨by kernel_rfl⟩
instance zer79 : Zer Tryd.prog 79 (.nilFunc) := ⟨by kernel_rfl⟩
abbrev und80 := Und.mk (P := Tryd.prog) (t := 80) Tryd.underlying80
attribute [instance] und80
instance siz80 : Siz Tryd.prog 80 2 := ⟨by kernel_rfl⟩
instance byt80 : Byt Tryd.prog 80 32 := ⟨by kernel_rfl⟩
instance zer80 : Zer Tryd.prog 80 (.agg #[.slice none 0 0, .int .i64 0]) := ⟨by kernel_rfl⟩
instance fld80x0 : Fld Tryd.prog 80 0 0 := ⟨_, _, 0, Tryd.underlying80, rfl, rfl, by kernel_rfl⟩
instance fld80x1 : Fld Tryd.prog 80 1 1 := ⟨_, _, 0, Tryd.underlying80, rfl, rfl, by kernel_rfl⟩
abbrev und81 := Und.mk (P := Tryd.prog) (t := 81) Tryd.underlying81
attribute [instance] und81
instance siz81 : Siz Tryd.prog 81 2 := ⟨by kernel_rfl⟩
instance byt81 : Byt Tryd.prog 81 32 := ⟨by kernel_rfl⟩
instance zer81 : Zer Tryd.prog 81 (.agg #[.slice none 0 0, .int .i64 0]) := ⟨by kernel_rfl⟩
instance fld81x0 : Fld Tryd.prog 81 0 0 := ⟨_, _, 0, Tryd.underlying81, rfl, rfl, by kernel_rfl⟩
instance fld81x1 : Fld Tryd.prog 81 1 1 := ⟨_, _, 0, Tryd.underlying81, rfl, rfl, by kernel_rfl⟩
abbrev und82 := Und.mk (P := Tryd.prog) (t := 82) Tryd.underlying82
attribute [instance] und82
instance siz82 : Siz Tryd.prog 82 1 := ⟨by kernel_rfl⟩
instance byt82 : Byt Tryd.prog 82 0 := ⟨by kernel_rfl⟩
abbrev und83 := Und.mk (P := Tryd.prog) (t := 83) Tryd.underlying83
attribute [instance] und83
instance siz83 : Siz Tryd.prog 83 1 := ⟨by kernel_rfl⟩
instance byt83 : Byt Tryd.prog 83 8 := ⟨by kernel_rfl⟩
instance zer83 : Zer Tryd.prog 83 (.nilFunc) := ⟨by kernel_rfl⟩
abbrev und84 := Und.mk (P := Tryd.prog) (t := 84) Tryd.underlying84
attribute [instance] und84
instance siz84 : Siz Tryd.prog 84 1 := ⟨by kernel_rfl⟩
instance byt84 : Byt Tryd.prog 84 0 := ⟨by kernel_rfl⟩
abbrev und85 := Und.mk (P := Tryd.prog) (t := 85) Tryd.underlying85
attribute [instance] und85
instance siz85 : Siz Tryd.prog 85 1 := ⟨by kernel_rfl⟩
instance byt85 : Byt Tryd.prog 85 8 := ⟨by kernel_rfl⟩
instance zer85 : Zer Tryd.prog 85 (.nilFunc) := ⟨by kernel_rfl⟩
abbrev und86 := Und.mk (P := Tryd.prog) (t := 86) Tryd.underlying86
attribute [instance] und86
instance siz86 : Siz Tryd.prog 86 1 := ⟨by kernel_rfl⟩
instance byt86 : Byt Tryd.prog 86 0 := ⟨by kernel_rfl⟩
abbrev und87 := Und.mk (P := Tryd.prog) (t := 87) Tryd.underlying87
attribute [instance] und87
instance siz87 : Siz Tryd.prog 87 1 := ⟨by kernel_rfl⟩
instance byt87 : Byt Tryd.prog 87 8 := ⟨by kernel_rfl⟩
instance zer87 : Zer Tryd.prog 87 (.nilFunc) := ⟨by kernel_rfl⟩
abbrev und88 := Und.mk (P := Tryd.prog) (t := 88) Tryd.underlying88
attribute [instance] und88
instance siz88 : Siz Tryd.prog 88 1 := ⟨by kernel_rfl⟩
instance byt88 : Byt Tryd.prog 88 8 := ⟨by kernel_rfl⟩
instance zer88 : Zer Tryd.prog 88 (.nilFunc) := ⟨by kernel_rfl⟩
abbrev und89 := Und.mk (P := Tryd.prog) (t := 89) Tryd.underlying89
attribute [instance] und89
instance siz89 : Siz Tryd.prog 89 1 := ⟨by kernel_rfl⟩
instance byt89 : Byt Tryd.prog 89 8 := ⟨by kernel_rfl⟩
instance zer89 : Zer Tryd.prog 89 (.nilFunc) := ⟨by kernel_rfl⟩
abbrev und90 := Und.mk (P := Tryd.prog) (t := 90) Tryd.underlying90
attribute [instance] und90
instance siz90 : Siz Tryd.prog 90 1 := ⟨by kernel_rfl⟩
instance byt90 : Byt Tryd.prog 90 24 := ⟨by kernel_rfl⟩
instance zer90 : Zer Tryd.prog 90 (.agg #[.slice none 0 0]) := ⟨by kernel_rfl⟩
instance fld90x0 : Fld Tryd.prog 90 0 0 := ⟨_, _, 0, Tryd.underlying90, rfl, rfl, by kernel_rfl⟩
abbrev und91 := Und.mk (P := Tryd.prog) (t := 91) Tryd.underlying91
attribute [instance] und91
instance siz91 : Siz Tryd.prog 91 1 := ⟨by kernel_rfl⟩
instance byt91 : Byt Tryd.prog 91 24 := ⟨by kernel_rfl⟩
instance zer91 : Zer Tryd.prog 91 (.agg #[.slice none 0 0]) := ⟨by kernel_rfl⟩
instance fld91x0 : Fld Tryd.prog 91 0 0 := ⟨_, _, 0, Tryd.underlying91, rfl, rfl, by kernel_rfl⟩
abbrev und92 := Und.mk (P := Tryd.prog) (t := 92) Tryd.underlying92
attribute [instance] und92
instance siz92 : Siz Tryd.prog 92 1 := ⟨by kernel_rfl⟩
instance byt92 : Byt Tryd.prog 92 24 := ⟨by kernel_rfl⟩
instance zer92 : Zer Tryd.prog 92 (.agg #[.slice none 0 0]) := ⟨by kernel_rfl⟩
instance fld92x0 : Fld Tryd.prog 92 0 0 := ⟨_, _, 0, Tryd.underlying92, rfl, rfl, by kernel_rfl⟩
abbrev und93 := Und.mk (P := Tryd.prog) (t := 93) Tryd.underlying93
attribute [instance] und93
instance siz93 : Siz Tryd.prog 93 1 := ⟨by kernel_rfl⟩
instance byt93 : Byt Tryd.prog 93 24 := ⟨by kernel_rfl⟩
instance zer93 : Zer Tryd.prog 93 (.agg #[.slice none 0 0]) := ⟨by kernel_rfl⟩
instance fld93x0 : Fld Tryd.prog 93 0 0 := ⟨_, _, 0, Tryd.underlying93, rfl, rfl, by kernel_rfl⟩
abbrev und94 := Und.mk (P := Tryd.prog) (t := 94) Tryd.underlying94
attribute [instance] und94
instance siz94 : Siz Tryd.prog 94 1 := ⟨by kernel_rfl⟩
instance byt94 : Byt Tryd.prog 94 8 := ⟨by kernel_rfl⟩
instance zer94 : Zer Tryd.prog 94 (.nilFunc) := ⟨by kernel_rfl⟩
abbrev und95 := Und.mk (P := Tryd.prog) (t := 95) Tryd.underlying95
attribute [instance] und95
instance siz95 : Siz Tryd.prog 95 1 := ⟨by kernel_rfl⟩
instance byt95 : Byt Tryd.prog 95 8 := ⟨by kernel_rfl⟩
instance zer95 : Zer Tryd.prog 95 (.nilFunc) := ⟨by kernel_rfl⟩
abbrev und96 := Und.mk (P := Tryd.prog) (t := 96) Tryd.underlying96
attribute [instance] und96
instance siz96 : Siz Tryd.prog 96 1 := ⟨by kernel_rfl⟩
instance byt96 : Byt Tryd.prog 96 8 := ⟨by kernel_rfl⟩
instance zer96 : Zer Tryd.prog 96 (.nilFunc) := ⟨by kernel_rfl⟩
abbrev und97 := Und.mk (P := Tryd.prog) (t := 97) Tryd.underlying97
attribute [instance] und97
instance siz97 : Siz Tryd.prog 97 1 := ⟨by kernel_rfl⟩
instance byt97 : Byt Tryd.prog 97 8 := ⟨by kernel_rfl⟩
instance zer97 : Zer Tryd.prog 97 (.nilFunc) := ⟨by kernel_rfl⟩
abbrev und98 := Und.mk (P := Tryd.prog) (t := 98) Tryd.underlying98
attribute [instance] und98
instance siz98 : Siz Tryd.prog 98 1 := ⟨by kernel_rfl⟩
instance byt98 : Byt Tryd.prog 98 8 := ⟨by kernel_rfl⟩
instance zer98 : Zer Tryd.prog 98 (.nilFunc) := ⟨by kernel_rfl⟩
abbrev und99 := Und.mk (P := Tryd.prog) (t := 99) Tryd.underlying99
attribute [instance] und99
instance siz99 : Siz Tryd.prog 99 1 := ⟨by kernel_rfl⟩
instance byt99 : Byt Tryd.prog 99 8 := ⟨by kernel_rfl⟩
instance zer99 : Zer Tryd.prog 99 (.nilFunc) := ⟨by kernel_rfl⟩
abbrev und100 := Und.mk (P := Tryd.prog) (t := 100) Tryd.underlying100
attribute [instance] und100
instance siz100 : Siz Tryd.prog 100 1 := ⟨by kernel_rfl⟩
instance byt100 : Byt Tryd.prog 100 24 := ⟨by kernel_rfl⟩
instance zer100 : Zer Tryd.prog 100 (.slice none 0 0) := ⟨by kernel_rfl⟩
abbrev und101 := Und.mk (P := Tryd.prog) (t := 101) Tryd.underlying101
attribute [instance] und101
instance siz101 : Siz Tryd.prog 101 1 := ⟨by kernel_rfl⟩
instance byt101 : Byt Tryd.prog 101 8 := ⟨by kernel_rfl⟩
instance zer101 : Zer Tryd.prog 101 (.nilFunc) := ⟨by kernel_rfl⟩
abbrev und102 := Und.mk (P := Tryd.prog) (t := 102) Tryd.underlying102
attribute [instance] und102
instance siz102 : Siz Tryd.prog 102 1 := ⟨by kernel_rfl⟩
instance byt102 : Byt Tryd.prog 102 8 := ⟨by kernel_rfl⟩
instance zer102 : Zer Tryd.prog 102 (.nilFunc) := ⟨by kernel_rfl⟩
abbrev und103 := Und.mk (P := Tryd.prog) (t := 103) Tryd.underlying103
attribute [instance] und103
instance siz103 : Siz Tryd.prog 103 1 := ⟨by kernel_rfl⟩
instance byt103 : Byt Tryd.prog 103 8 := ⟨by kernel_rfl⟩
instance zer103 : Zer Tryd.prog 103 (.nilFunc) := ⟨by kernel_rfl⟩
abbrev und104 := Und.mk (P := Tryd.prog) (t := 104) Tryd.underlying104
attribute [instance] und104
instance siz104 : Siz Tryd.prog 104 1 := ⟨by kernel_rfl⟩
instance byt104 : Byt Tryd.prog 104 8 := ⟨by kernel_rfl⟩
instance zer104 : Zer Tryd.prog 104 (.nilFunc) := ⟨by kernel_rfl⟩
abbrev und105 := Und.mk (P := Tryd.prog) (t := 105) Tryd.underlying105
attribute [instance] und105
instance siz105 : Siz Tryd.prog 105 1 := ⟨by kernel_rfl⟩
instance byt105 : Byt Tryd.prog 105 24 := ⟨by kernel_rfl⟩
instance zer105 : Zer Tryd.prog 105 (.agg #[.slice none 0 0]) := ⟨by kernel_rfl⟩
instance fld105x0 : Fld Tryd.prog 105 0 0 := ⟨_, _, 0, Tryd.underlying105, rfl, rfl, by kernel_rfl⟩
abbrev und106 := Und.mk (P := Tryd.prog) (t := 106) Tryd.underlying106
attribute [instance] und106
instance siz106 : Siz Tryd.prog 106 1 := ⟨by kernel_rfl⟩
instance byt106 : Byt Tryd.prog 106 24 := ⟨by kernel_rfl⟩
instance zer106 : Zer Tryd.prog 106 (.agg #[.slice none 0 0]) := ⟨by kernel_rfl⟩
instance fld106x0 : Fld Tryd.prog 106 0 0 := ⟨_, _, 0, Tryd.underlying106, rfl, rfl, by kernel_rfl⟩
abbrev und107 := Und.mk (P := Tryd.prog) (t := 107) Tryd.underlying107
attribute [instance] und107
instance siz107 : Siz Tryd.prog 107 1 := ⟨by kernel_rfl⟩
instance byt107 : Byt Tryd.prog 107 8 := ⟨by kernel_rfl⟩
instance zer107 : Zer Tryd.prog 107 (.nilFunc) := ⟨by kernel_rfl⟩
abbrev und108 := Und.mk (P := Tryd.prog) (t := 108) Tryd.underlying108
attribute [instance] und108
instance siz108 : Siz Tryd.prog 108 1 := ⟨by kernel_rfl⟩
instance byt108 : Byt Tryd.prog 108 8 := ⟨by kernel_rfl⟩
instance zer108 : Zer Tryd.prog 108 (.pointer none) := ⟨by kernel_rfl⟩
abbrev und109 := Und.mk (P := Tryd.prog) (t := 109) Tryd.underlying109
attribute [instance] und109
instance siz109 : Siz Tryd.prog 109 1 := ⟨by kernel_rfl⟩
instance byt109 : Byt Tryd.prog 109 24 := ⟨by kernel_rfl⟩
instance zer109 : Zer Tryd.prog 109 (.slice none 0 0) := ⟨by kernel_rfl⟩
abbrev und110 := Und.mk (P := Tryd.prog) (t := 110) Tryd.underlying110
attribute [instance] und110
instance siz110 : Siz Tryd.prog 110 1 := ⟨by kernel_rfl⟩
instance byt110 : Byt Tryd.prog 110 24 := ⟨by kernel_rfl⟩
instance zer110 : Zer Tryd.prog 110 (.slice none 0 0) := ⟨by kernel_rfl⟩
abbrev und111 := Und.mk (P := Tryd.prog) (t := 111) Tryd.underlying111
attribute [instance] und111
instance siz111 : Siz Tryd.prog 111 3 := ⟨by kernel_rfl⟩
instance byt111 : Byt Tryd.prog 111 72 := ⟨by kernel_rfl⟩
instance zer111 : Zer Tryd.prog 111 (.agg #[.slice none 0 0, .slice none 0 0, .slice none 0 0]) := ⟨by kernel_rfl⟩
instance fld111x0 : Fld Tryd.prog 111 0 0 := ⟨_, _, 0, Tryd.underlying111, rfl, rfl, by kernel_rfl⟩
instance fld111x1 : Fld Tryd.prog 111 1 1 := ⟨_, _, 0, Tryd.underlying111, rfl, rfl, by kernel_rfl⟩
instance fld111x2 : Fld Tryd.prog 111 2 2 := ⟨_, _, 0, Tryd.underlying111, rfl, rfl, by kernel_rfl⟩
abbrev und112 := Und.mk (P := Tryd.prog) (t := 112) Tryd.underlying112
attribute [instance] und112
instance siz112 : Siz Tryd.prog 112 3 := ⟨by kernel_rfl⟩
instance byt112 : Byt Tryd.prog 112 72 := ⟨by kernel_rfl⟩
instance zer112 : Zer Tryd.prog 112 (.agg #[.slice none 0 0, .slice none 0 0, .slice none 0 0]) := ⟨by kernel_rfl⟩
instance fld112x0 : Fld Tryd.prog 112 0 0 := ⟨_, _, 0, Tryd.underlying112, rfl, rfl, by kernel_rfl⟩
instance fld112x1 : Fld Tryd.prog 112 1 1 := ⟨_, _, 0, Tryd.underlying112, rfl, rfl, by kernel_rfl⟩
instance fld112x2 : Fld Tryd.prog 112 2 2 := ⟨_, _, 0, Tryd.underlying112, rfl, rfl, by kernel_rfl⟩
abbrev und113 := Und.mk (P := Tryd.prog) (t := 113) Tryd.underlying113
attribute [instance] und113
instance siz113 : Siz Tryd.prog 113 1 := ⟨by kernel_rfl⟩
instance byt113 : Byt Tryd.prog 113 8 := ⟨by kernel_rfl⟩
instance zer113 : Zer Tryd.prog 113 (.nilFunc) := ⟨by kernel_rfl⟩
abbrev und114 := Und.mk (P := Tryd.prog) (t := 114) Tryd.underlying114
attribute [instance] und114
instance siz114 : Siz Tryd.prog 114 1 := ⟨by kernel_rfl⟩
instance byt114 : Byt Tryd.prog 114 8 := ⟨by kernel_rfl⟩
instance zer114 : Zer Tryd.prog 114 (.nilFunc) := ⟨by kernel_rfl⟩
abbrev und115 := Und.mk (P := Tryd.prog) (t := 115) Tryd.underlying115
attribute [instance] und115
instance siz115 : Siz Tryd.prog 115 3 := ⟨by kernel_rfl⟩
instance byt115 : Byt Tryd.prog 115 24 := ⟨by kernel_rfl⟩
instance zer115 : Zer Tryd.prog 115 (.agg #[.int .i64 0, .int .i64 0, .int .i64 0]) := ⟨by kernel_rfl⟩
abbrev und116 := Und.mk (P := Tryd.prog) (t := 116) Tryd.underlying116
attribute [instance] und116
instance siz116 : Siz Tryd.prog 116 1 := ⟨by kernel_rfl⟩
instance byt116 : Byt Tryd.prog 116 8 := ⟨by kernel_rfl⟩
instance zer116 : Zer Tryd.prog 116 (.nilFunc) := ⟨by kernel_rfl⟩
abbrev und117 := Und.mk (P := Tryd.prog) (t := 117) Tryd.underlying117
attribute [instance] und117
instance siz117 : Siz Tryd.prog 117 1 := ⟨by kernel_rfl⟩
instance byt117 : Byt Tryd.prog 117 8 := ⟨by kernel_rfl⟩
instance zer117 : Zer Tryd.prog 117 (.map none) := ⟨by kernel_rfl⟩
abbrev und118 := Und.mk (P := Tryd.prog) (t := 118) Tryd.underlying118
attribute [instance] und118
instance siz118 : Siz Tryd.prog 118 1 := ⟨by kernel_rfl⟩
instance byt118 : Byt Tryd.prog 118 8 := ⟨by kernel_rfl⟩
instance zer118 : Zer Tryd.prog 118 (.nilFunc) := ⟨by kernel_rfl⟩
abbrev und119 := Und.mk (P := Tryd.prog) (t := 119) Tryd.underlying119
attribute [instance] und119
instance siz119 : Siz Tryd.prog 119 5 := ⟨by kernel_rfl⟩
instance byt119 : Byt Tryd.prog 119 48 := ⟨by kernel_rfl⟩
instance zer119 : Zer Tryd.prog 119 (.agg #[.int .i64 0, .string ByteArray.empty, .int .i64 0, .int .i64 0, .int .i64 0]) := ⟨by kernel_rfl⟩
instance fld119x0 : Fld Tryd.prog 119 0 0 := ⟨_, _, 0, Tryd.underlying119, rfl, rfl, by kernel_rfl⟩
instance fld119x1 : Fld Tryd.prog 119 1 1 := ⟨_, _, 0, Tryd.underlying119, rfl, rfl, by kernel_rfl⟩
instance fld119x2 : Fld Tryd.prog 119 2 2 := ⟨_, _, 2, Tryd.underlying119, rfl, rfl, by kernel_rfl⟩
abbrev und120 := Und.mk (P := Tryd.prog) (t := 120) Tryd.underlying120
attribute [instance] und120
instance siz120 : Siz Tryd.prog 120 5 := ⟨by kernel_rfl⟩
instance byt120 : Byt Tryd.prog 120 48 := ⟨by kernel_rfl⟩
instance zer120 : Zer Tryd.prog 120 (.agg #[.int .i64 0, .string ByteArray.empty, .int .i64 0, .int .i64 0, .int .i64 0]) := ⟨by kernel_rfl⟩
instance fld120x0 : Fld Tryd.prog 120 0 0 := ⟨_, _, 0, Tryd.underlying120, rfl, rfl, by kernel_rfl⟩
instance fld120x1 : Fld Tryd.prog 120 1 1 := ⟨_, _, 0, Tryd.underlying120, rfl, rfl, by kernel_rfl⟩
instance fld120x2 : Fld Tryd.prog 120 2 2 := ⟨_, _, 2, Tryd.underlying120, rfl, rfl, by kernel_rfl⟩
abbrev und121 := Und.mk (P := Tryd.prog) (t := 121) Tryd.underlying121
attribute [instance] und121
instance siz121 : Siz Tryd.prog 121 1 := ⟨by kernel_rfl⟩
instance byt121 : Byt Tryd.prog 121 8 := ⟨by kernel_rfl⟩
instance zer121 : Zer Tryd.prog 121 (.nilFunc) := ⟨by kernel_rfl⟩
abbrev und122 := Und.mk (P := Tryd.prog) (t := 122) Tryd.underlying122
attribute [instance] und122
instance siz122 : Siz Tryd.prog 122 7 := ⟨by kernel_rfl⟩
instance byt122 : Byt Tryd.prog 122 112 := ⟨by kernel_rfl⟩
instance zer122 : Zer Tryd.prog 122 (.agg #[.string ByteArray.empty, .string ByteArray.empty, .string ByteArray.empty, .string ByteArray.empty, .string ByteArray.empty, .string ByteArray.empty, .string ByteArray.empty]) := ⟨by kernel_rfl⟩
abbrev und123 := Und.mk (P := Tryd.prog) (t := 123) Tryd.underlying123
attribute [instance] und123
instance siz123 : Siz Tryd.prog 123 1 := ⟨by kernel_rfl⟩
instance byt123 : Byt Tryd.prog 123 8 := ⟨by kernel_rfl⟩
instance zer123 : Zer Tryd.prog 123 (.nilFunc) := ⟨by kernel_rfl⟩
abbrev und124 := Und.mk (P := Tryd.prog) (t := 124) Tryd.underlying124
attribute [instance] und124
instance siz124 : Siz Tryd.prog 124 1 := ⟨by kernel_rfl⟩
instance byt124 : Byt Tryd.prog 124 8 := ⟨by kernel_rfl⟩
instance zer124 : Zer Tryd.prog 124 (.nilFunc) := ⟨by kernel_rfl⟩
abbrev und125 := Und.mk (P := Tryd.prog) (t := 125) Tryd.underlying125
attribute [instance] und125
instance siz125 : Siz Tryd.prog 125 1 := ⟨by kernel_rfl⟩
instance byt125 : Byt Tryd.prog 125 8 := ⟨by kernel_rfl⟩
instance zer125 : Zer Tryd.prog 125 (.int .u64 0) := ⟨by kernel_rfl⟩
abbrev und126 := Und.mk (P := Tryd.prog) (t := 126) Tryd.underlying126
attribute [instance] und126
instance siz126 : Siz Tryd.prog 126 1 := ⟨by kernel_rfl⟩
instance byt126 : Byt Tryd.prog 126 8 := ⟨by kernel_rfl⟩
instance zer126 : Zer Tryd.prog 126 (.nilFunc) := ⟨by kernel_rfl⟩
abbrev und127 := Und.mk (P := Tryd.prog) (t := 127) Tryd.underlying127
attribute [instance] und127
instance siz127 : Siz Tryd.prog 127 1 := ⟨by kernel_rfl⟩
instance byt127 : Byt Tryd.prog 127 8 := ⟨by kernel_rfl⟩
instance zer127 : Zer Tryd.prog 127 (.nilFunc) := ⟨by kernel_rfl⟩
abbrev und128 := Und.mk (P := Tryd.prog) (t := 128) Tryd.underlying128
attribute [instance] und128
instance siz128 : Siz Tryd.prog 128 2 := ⟨by kernel_rfl⟩
instance byt128 : Byt Tryd.prog 128 32 := ⟨by kernel_rfl⟩
instance zer128 : Zer Tryd.prog 128 (.agg #[.slice none 0 0, .int .i64 0]) := ⟨by kernel_rfl⟩
instance fld128x0 : Fld Tryd.prog 128 0 0 := ⟨_, _, 0, Tryd.underlying128, rfl, rfl, by kernel_rfl⟩
instance fld128x1 : Fld Tryd.prog 128 1 1 := ⟨_, _, 0, Tryd.underlying128, rfl, rfl, by kernel_rfl⟩
abbrev und129 := Und.mk (P := Tryd.prog) (t := 129) Tryd.underlying129
attribute [instance] und129
instance siz129 : Siz Tryd.prog 129 2 := ⟨by kernel_rfl⟩
instance byt129 : Byt Tryd.prog 129 32 := ⟨by kernel_rfl⟩
instance zer129 : Zer Tryd.prog 129 (.agg #[.slice none 0 0, .int .i64 0]) := ⟨by kernel_rfl⟩
instance fld129x0 : Fld Tryd.prog 129 0 0 := ⟨_, _, 0, Tryd.underlying129, rfl, rfl, by kernel_rfl⟩
instance fld129x1 : Fld Tryd.prog 129 1 1 := ⟨_, _, 0, Tryd.underlying129, rfl, rfl, by kernel_rfl⟩
abbrev und130 := Und.mk (P := Tryd.prog) (t := 130) Tryd.underlying130
attribute [instance] und130
instance siz130 : Siz Tryd.prog 130 2 := ⟨by kernel_rfl⟩
instance byt130 : Byt Tryd.prog 130 32 := ⟨by kernel_rfl⟩
instance zer130 : Zer Tryd.prog 130 (.agg #[.slice none 0 0, .int .i64 0]) := ⟨by kernel_rfl⟩
instance fld130x0 : Fld Tryd.prog 130 0 0 := ⟨_, _, 1, Tryd.underlying130, rfl, rfl, by kernel_rfl⟩
abbrev und131 := Und.mk (P := Tryd.prog) (t := 131) Tryd.underlying131
attribute [instance] und131
instance siz131 : Siz Tryd.prog 131 2 := ⟨by kernel_rfl⟩
instance byt131 : Byt Tryd.prog 131 32 := ⟨by kernel_rfl⟩
instance zer131 : Zer Tryd.prog 131 (.agg #[.slice none 0 0, .int .i64 0]) := ⟨by kernel_rfl⟩
instance fld131x0 : Fld Tryd.prog 131 0 0 := ⟨_, _, 1, Tryd.underlying131, rfl, rfl, by kernel_rfl⟩
abbrev und132 := Und.mk (P := Tryd.prog) (t := 132) Tryd.underlying132
attribute [instance] und132
instance siz132 : Siz Tryd.prog 132 1 := ⟨by kernel_rfl⟩
instance byt132 : Byt Tryd.prog 132 8 := ⟨by kernel_rfl⟩
instance zer132 : Zer Tryd.prog 132 (.nilFunc) := ⟨by kernel_rfl⟩
abbrev und133 := Und.mk (P := Tryd.prog) (t := 133) Tryd.underlying133
attribute [instance] und133
instance siz133 : Siz Tryd.prog 133 1 := ⟨by kernel_rfl⟩
instance byt133 : Byt Tryd.prog 133 8 := ⟨by kernel_rfl⟩
instance zer133 : Zer Tryd.prog 133 (.int .u64 0) := ⟨by kernel_rfl⟩
abbrev und134 := Und.mk (P := Tryd.prog) (t := 134) Tryd.underlying134
attribute [instance] und134
instance siz134 : Siz Tryd.prog 134 1 := ⟨by kernel_rfl⟩
instance byt134 : Byt Tryd.prog 134 8 := ⟨by kernel_rfl⟩
instance zer134 : Zer Tryd.prog 134 (.nilFunc) := ⟨by kernel_rfl⟩
abbrev und135 := Und.mk (P := Tryd.prog) (t := 135) Tryd.underlying135
attribute [instance] und135
instance siz135 : Siz Tryd.prog 135 1 := ⟨by kernel_rfl⟩
instance byt135 : Byt Tryd.prog 135 8 := ⟨by kernel_rfl⟩
instance zer135 : Zer Tryd.prog 135 (.nilFunc) := ⟨by kernel_rfl⟩
abbrev und136 := Und.mk (P := Tryd.prog) (t := 136) Tryd.underlying136
attribute [instance] und136
instance siz136 : Siz Tryd.prog 136 1 := ⟨by kernel_rfl⟩
instance byt136 : Byt Tryd.prog 136 8 := ⟨by kernel_rfl⟩
instance zer136 : Zer Tryd.prog 136 (.nilFunc) := ⟨by kernel_rfl⟩
abbrev und137 := Und.mk (P := Tryd.prog) (t := 137) Tryd.underlying137
attribute [instance] und137
instance siz137 : Siz Tryd.prog 137 1 := ⟨by kernel_rfl⟩
instance byt137 : Byt Tryd.prog 137 8 := ⟨by kernel_rfl⟩
instance zer137 : Zer Tryd.prog 137 (.nilFunc) := ⟨by kernel_rfl⟩
abbrev und138 := Und.mk (P := Tryd.prog) (t := 138) Tryd.underlying138
attribute [instance] und138
instance siz138 : Siz Tryd.prog 138 1 := ⟨by kernel_rfl⟩
instance byt138 : Byt Tryd.prog 138 0 := ⟨by kernel_rfl⟩
abbrev und139 := Und.mk (P := Tryd.prog) (t := 139) Tryd.underlying139
attribute [instance] und139
instance siz139 : Siz Tryd.prog 139 1 := ⟨by kernel_rfl⟩
instance byt139 : Byt Tryd.prog 139 8 := ⟨by kernel_rfl⟩
instance zer139 : Zer Tryd.prog 139 (.nilFunc) := ⟨by kernel_rfl⟩
abbrev und140 := Und.mk (P := Tryd.prog) (t := 140) Tryd.underlying140
attribute [instance] und140
instance siz140 : Siz Tryd.prog 140 1 := ⟨by kernel_rfl⟩
instance byt140 : Byt Tryd.prog 140 8 := ⟨by kernel_rfl⟩
instance zer140 : Zer Tryd.prog 140 (.nilFunc) := ⟨by kernel_rfl⟩
abbrev und141 := Und.mk (P := Tryd.prog) (t := 141) Tryd.underlying141
attribute [instance] und141
instance siz141 : Siz Tryd.prog 141 1 := ⟨by kernel_rfl⟩
instance byt141 : Byt Tryd.prog 141 8 := ⟨by kernel_rfl⟩
instance zer141 : Zer Tryd.prog 141 (.nilFunc) := ⟨by kernel_rfl⟩
abbrev und142 := Und.mk (P := Tryd.prog) (t := 142) Tryd.underlying142
attribute [instance] und142
instance siz142 : Siz Tryd.prog 142 1 := ⟨by kernel_rfl⟩
instance byt142 : Byt Tryd.prog 142 8 := ⟨by kernel_rfl⟩
instance zer142 : Zer Tryd.prog 142 (.pointer none) := ⟨by kernel_rfl⟩
abbrev und143 := Und.mk (P := Tryd.prog) (t := 143) Tryd.underlying143
attribute [instance] und143
instance siz143 : Siz Tryd.prog 143 1 := ⟨by kernel_rfl⟩
instance byt143 : Byt Tryd.prog 143 8 := ⟨by kernel_rfl⟩
instance zer143 : Zer Tryd.prog 143 (.nilFunc) := ⟨by kernel_rfl⟩
abbrev und144 := Und.mk (P := Tryd.prog) (t := 144) Tryd.underlying144
attribute [instance] und144
instance siz144 : Siz Tryd.prog 144 1 := ⟨by kernel_rfl⟩
instance byt144 : Byt Tryd.prog 144 8 := ⟨by kernel_rfl⟩
instance zer144 : Zer Tryd.prog 144 (.pointer none) := ⟨by kernel_rfl⟩
abbrev und145 := Und.mk (P := Tryd.prog) (t := 145) Tryd.underlying145
attribute [instance] und145
instance siz145 : Siz Tryd.prog 145 1 := ⟨by kernel_rfl⟩
instance byt145 : Byt Tryd.prog 145 8 := ⟨by kernel_rfl⟩
instance zer145 : Zer Tryd.prog 145 (.nilFunc) := ⟨by kernel_rfl⟩
abbrev und146 := Und.mk (P := Tryd.prog) (t := 146) Tryd.underlying146
attribute [instance] und146
instance siz146 : Siz Tryd.prog 146 1 := ⟨by kernel_rfl⟩
instance byt146 : Byt Tryd.prog 146 8 := ⟨by kernel_rfl⟩
instance zer146 : Zer Tryd.prog 146 (.pointer none) := ⟨by kernel_rfl⟩
abbrev und147 := Und.mk (P := Tryd.prog) (t := 147) Tryd.underlying147
attribute [instance] und147
instance siz147 : Siz Tryd.prog 147 1 := ⟨by kernel_rfl⟩
instance byt147 : Byt Tryd.prog 147 8 := ⟨by kernel_rfl⟩
instance zer147 : Zer Tryd.prog 147 (.nilFunc) := ⟨by kernel_rfl⟩
abbrev und148 := Und.mk (P := Tryd.prog) (t := 148) Tryd.underlying148
attribute [instance] und148
instance siz148 : Siz Tryd.prog 148 1 := ⟨by kernel_rfl⟩
instance byt148 : Byt Tryd.prog 148 0 := ⟨by kernel_rfl⟩
abbrev und149 := Und.mk (P := Tryd.prog) (t := 149) Tryd.underlying149
attribute [instance] und149
instance siz149 : Siz Tryd.prog 149 1 := ⟨by kernel_rfl⟩
instance byt149 : Byt Tryd.prog 149 8 := ⟨by kernel_rfl⟩
instance zer149 : Zer Tryd.prog 149 (.nilFunc) := ⟨by kernel_rfl⟩
abbrev und150 := Und.mk (P := Tryd.prog) (t := 150) Tryd.underlying150
attribute [instance] und150
instance siz150 : Siz Tryd.prog 150 1 := ⟨by kernel_rfl⟩
instance byt150 : Byt Tryd.prog 150 8 := ⟨by kernel_rfl⟩
instance zer150 : Zer Tryd.prog 150 (.nilFunc) := ⟨by kernel_rfl⟩
abbrev und151 := Und.mk (P := Tryd.prog) (t := 151) Tryd.underlying151
attribute [instance] und151
instance siz151 : Siz Tryd.prog 151 1 := ⟨by kernel_rfl⟩
instance byt151 : Byt Tryd.prog 151 8 := ⟨by kernel_rfl⟩
instance zer151 : Zer Tryd.prog 151 (.nilFunc) := ⟨by kernel_rfl⟩
abbrev und152 := Und.mk (P := Tryd.prog) (t := 152) Tryd.underlying152
attribute [instance] und152
instance siz152 : Siz Tryd.prog 152 1 := ⟨by kernel_rfl⟩
instance byt152 : Byt Tryd.prog 152 8 := ⟨by kernel_rfl⟩
instance zer152 : Zer Tryd.prog 152 (.map none) := ⟨by kernel_rfl⟩
abbrev und153 := Und.mk (P := Tryd.prog) (t := 153) Tryd.underlying153
attribute [instance] und153
instance siz153 : Siz Tryd.prog 153 1 := ⟨by kernel_rfl⟩
instance byt153 : Byt Tryd.prog 153 8 := ⟨by kernel_rfl⟩
instance zer153 : Zer Tryd.prog 153 (.nilFunc) := ⟨by kernel_rfl⟩
abbrev und154 := Und.mk (P := Tryd.prog) (t := 154) Tryd.underlying154
attribute [instance] und154
instance siz154 : Siz Tryd.prog 154 1 := ⟨by kernel_rfl⟩
instance byt154 : Byt Tryd.prog 154 8 := ⟨by kernel_rfl⟩
instance zer154 : Zer Tryd.prog 154 (.int .i64 0) := ⟨by kernel_rfl⟩
abbrev und155 := Und.mk (P := Tryd.prog) (t := 155) Tryd.underlying155
attribute [instance] und155
instance siz155 : Siz Tryd.prog 155 1 := ⟨by kernel_rfl⟩
instance byt155 : Byt Tryd.prog 155 0 := ⟨by kernel_rfl⟩
abbrev und156 := Und.mk (P := Tryd.prog) (t := 156) Tryd.underlying156
attribute [instance] und156
instance siz156 : Siz Tryd.prog 156 1 := ⟨by kernel_rfl⟩
instance byt156 : Byt Tryd.prog 156 8 := ⟨by kernel_rfl⟩
instance zer156 : Zer Tryd.prog 156 (.nilFunc) := ⟨by kernel_rfl⟩
abbrev und157 := Und.mk (P := Tryd.prog) (t := 157) Tryd.underlying157
attribute [instance] und157
instance siz157 : Siz Tryd.prog 157 1 := ⟨by kernel_rfl⟩
instance byt157 : Byt Tryd.prog 157 8 := ⟨by kernel_rfl⟩
instance zer157 : Zer Tryd.prog 157 (.nilFunc) := ⟨by kernel_rfl⟩
abbrev und158 := Und.mk (P := Tryd.prog) (t := 158) Tryd.underlying158
attribute [instance] und158
instance siz158 : Siz Tryd.prog 158 1 := ⟨by kernel_rfl⟩
instance byt158 : Byt Tryd.prog 158 8 := ⟨by kernel_rfl⟩
instance zer158 : Zer Tryd.prog 158 (.nilFunc) := ⟨by kernel_rfl⟩
abbrev und159 := Und.mk (P := Tryd.prog) (t := 159) Tryd.underlying159
attribute [instance] und159
instance siz159 : Siz Tryd.prog 159 1 := ⟨by kernel_rfl⟩
instance byt159 : Byt Tryd.prog 159 8 := ⟨by kernel_rfl⟩
instance zer159 : Zer Tryd.prog 159 (.nilFunc) := ⟨by kernel_rfl⟩
abbrev und160 := Und.mk (P := Tryd.prog) (t := 160) Tryd.underlying160
attribute [instance] und160
instance siz160 : Siz Tryd.prog 160 1 := ⟨by kernel_rfl⟩
instance byt160 : Byt Tryd.prog 160 0 := ⟨by kernel_rfl⟩
abbrev und161 := Und.mk (P := Tryd.prog) (t := 161) Tryd.underlying161
attribute [instance] und161
instance siz161 : Siz Tryd.prog 161 1 := ⟨by kernel_rfl⟩
instance byt161 : Byt Tryd.prog 161 8 := ⟨by kernel_rfl⟩
instance zer161 : Zer Tryd.prog 161 (.nilFunc) := ⟨by kernel_rfl⟩
abbrev und162 := Und.mk (P := Tryd.prog) (t := 162) Tryd.underlying162
attribute [instance] und162
instance siz162 : Siz Tryd.prog 162 1 := ⟨by kernel_rfl⟩
instance byt162 : Byt Tryd.prog 162 8 := ⟨by kernel_rfl⟩
instance zer162 : Zer Tryd.prog 162 (.nilFunc) := ⟨by kernel_rfl⟩
abbrev und163 := Und.mk (P := Tryd.prog) (t := 163) Tryd.underlying163
attribute [instance] und163
instance siz163 : Siz Tryd.prog 163 1 := ⟨by kernel_rfl⟩
instance byt163 : Byt Tryd.prog 163 4 := ⟨by kernel_rfl⟩
instance zer163 : Zer Tryd.prog 163 (.int .u32 0) := ⟨by kernel_rfl⟩
abbrev und164 := Und.mk (P := Tryd.prog) (t := 164) Tryd.underlying164
attribute [instance] und164
instance siz164 : Siz Tryd.prog 164 1 := ⟨by kernel_rfl⟩
instance byt164 : Byt Tryd.prog 164 8 := ⟨by kernel_rfl⟩
instance zer164 : Zer Tryd.prog 164 (.nilFunc) := ⟨by kernel_rfl⟩
abbrev und165 := Und.mk (P := Tryd.prog) (t := 165) Tryd.underlying165
attribute [instance] und165
instance siz165 : Siz Tryd.prog 165 1 := ⟨by kernel_rfl⟩
instance byt165 : Byt Tryd.prog 165 8 := ⟨by kernel_rfl⟩
instance zer165 : Zer Tryd.prog 165 (.nilFunc) := ⟨by kernel_rfl⟩
abbrev und166 := Und.mk (P := Tryd.prog) (t := 166) Tryd.underlying166
attribute [instance] und166
instance siz166 : Siz Tryd.prog 166 1 := ⟨by kernel_rfl⟩
instance byt166 : Byt Tryd.prog 166 8 := ⟨by kernel_rfl⟩
instance zer166 : Zer Tryd.prog 166 (.pointer none) := ⟨by kernel_rfl⟩
abbrev und167 := Und.mk (P := Tryd.prog) (t := 167) Tryd.underlying167
attribute [instance] und167
instance siz167 : Siz Tryd.prog 167 1 := ⟨by kernel_rfl⟩
instance byt167 : Byt Tryd.prog 167 8 := ⟨by kernel_rfl⟩
instance zer167 : Zer Tryd.prog 167 (.nilFunc) := ⟨by kernel_rfl⟩
abbrev und168 := Und.mk (P := Tryd.prog) (t := 168) Tryd.underlying168
attribute [instance] und168
instance siz168 : Siz Tryd.prog 168 1 := ⟨by kernel_rfl⟩
instance byt168 : Byt Tryd.prog 168 0 := ⟨by kernel_rfl⟩
abbrev und169 := Und.mk (P := Tryd.prog) (t := 169) Tryd.underlying169
attribute [instance] und169
instance siz169 : Siz Tryd.prog 169 1 := ⟨by kernel_rfl⟩
instance byt169 : Byt Tryd.prog 169 8 := ⟨by kernel_rfl⟩
instance zer169 : Zer Tryd.prog 169 (.nilFunc) := ⟨by kernel_rfl⟩
abbrev und170 := Und.mk (P := Tryd.prog) (t := 170) Tryd.underlying170
attribute [instance] und170
instance siz170 : Siz Tryd.prog 170 1 := ⟨by kernel_rfl⟩
instance byt170 : Byt Tryd.prog 170 8 := ⟨by kernel_rfl⟩
instance zer170 : Zer Tryd.prog 170 (.nilFunc) := ⟨by kernel_rfl⟩
abbrev und171 := Und.mk (P := Tryd.prog) (t := 171) Tryd.underlying171
attribute [instance] und171
instance siz171 : Siz Tryd.prog 171 1 := ⟨by kernel_rfl⟩
instance byt171 : Byt Tryd.prog 171 8 := ⟨by kernel_rfl⟩
instance zer171 : Zer Tryd.prog 171 (.map none) := ⟨by kernel_rfl⟩
abbrev und172 := Und.mk (P := Tryd.prog) (t := 172) Tryd.underlying172
attribute [instance] und172
instance siz172 : Siz Tryd.prog 172 1 := ⟨by kernel_rfl⟩
instance byt172 : Byt Tryd.prog 172 8 := ⟨by kernel_rfl⟩
instance zer172 : Zer Tryd.prog 172 (.nilFunc) := ⟨by kernel_rfl⟩
abbrev und173 := Und.mk (P := Tryd.prog) (t := 173) Tryd.underlying173
attribute [instance] und173
instance siz173 : Siz Tryd.prog 173 1 := ⟨by kernel_rfl⟩
instance byt173 : Byt Tryd.prog 173 8 := ⟨by kernel_rfl⟩
instance zer173 : Zer Tryd.prog 173 (.nilFunc) := ⟨by kernel_rfl⟩
abbrev und174 := Und.mk (P := Tryd.prog) (t := 174) Tryd.underlying174
attribute [instance] und174
instance siz174 : Siz Tryd.prog 174 1 := ⟨by kernel_rfl⟩
instance byt174 : Byt Tryd.prog 174 8 := ⟨by kernel_rfl⟩
instance zer174 : Zer Tryd.prog 174 (.int .u64 0) := ⟨by kernel_rfl⟩
abbrev und175 := Und.mk (P := Tryd.prog) (t := 175) Tryd.underlying175
attribute [instance] und175
instance siz175 : Siz Tryd.prog 175 1 := ⟨by kernel_rfl⟩
instance byt175 : Byt Tryd.prog 175 8 := ⟨by kernel_rfl⟩
instance zer175 : Zer Tryd.prog 175 (.nilFunc) := ⟨by kernel_rfl⟩
abbrev und176 := Und.mk (P := Tryd.prog) (t := 176) Tryd.underlying176
attribute [instance] und176
instance siz176 : Siz Tryd.prog 176 1 := ⟨by kernel_rfl⟩
instance byt176 : Byt Tryd.prog 176 8 := ⟨by kernel_rfl⟩
instance zer176 : Zer Tryd.prog 176 (.nilFunc) := ⟨by kernel_rfl⟩
abbrev und177 := Und.mk (P := Tryd.prog) (t := 177) Tryd.underlying177
attribute [instance] und177
instance siz177 : Siz Tryd.prog 177 1 := ⟨by kernel_rfl⟩
instance byt177 : Byt Tryd.prog 177 8 := ⟨by kernel_rfl⟩
instance zer177 : Zer Tryd.prog 177 (.pointer none) := ⟨by kernel_rfl⟩
abbrev und178 := Und.mk (P := Tryd.prog) (t := 178) Tryd.underlying178
attribute [instance] und178
instance siz178 : Siz Tryd.prog 178 1 := ⟨by kernel_rfl⟩
instance byt178 : Byt Tryd.prog 178 8 := ⟨by kernel_rfl⟩
instance zer178 : Zer Tryd.prog 178 (.nilFunc) := ⟨by kernel_rfl⟩
abbrev und179 := Und.mk (P := Tryd.prog) (t := 179) Tryd.underlying179
attribute [instance] und179
instance siz179 : Siz Tryd.prog 179 1 := ⟨by kernel_rfl⟩
instance byt179 : Byt Tryd.prog 179 8 := ⟨by kernel_rfl⟩
instance zer179 : Zer Tryd.prog 179 (.nilFunc) := ⟨by kernel_rfl⟩
abbrev und180 := Und.mk (P := Tryd.prog) (t := 180) Tryd.underlying180
attribute [instance] und180
instance siz180 : Siz Tryd.prog 180 1 := ⟨by kernel_rfl⟩
instance byt180 : Byt Tryd.prog 180 24 := ⟨by kernel_rfl⟩
instance zer180 : Zer Tryd.prog 180 (.slice none 0 0) := ⟨by kernel_rfl⟩
abbrev und181 := Und.mk (P := Tryd.prog) (t := 181) Tryd.underlying181
attribute [instance] und181
instance siz181 : Siz Tryd.prog 181 1 := ⟨by kernel_rfl⟩
instance byt181 : Byt Tryd.prog 181 8 := ⟨by kernel_rfl⟩
instance zer181 : Zer Tryd.prog 181 (.nilFunc) := ⟨by kernel_rfl⟩
abbrev und182 := Und.mk (P := Tryd.prog) (t := 182) Tryd.underlying182
attribute [instance] und182
instance siz182 : Siz Tryd.prog 182 4 := ⟨by kernel_rfl⟩
instance byt182 : Byt Tryd.prog 182 48 := ⟨by kernel_rfl⟩
instance zer182 : Zer Tryd.prog 182 (.agg #[.int .i64 0, .int .i64 0, .string ByteArray.empty, .string ByteArray.empty]) := ⟨by kernel_rfl⟩
instance fld182x0 : Fld Tryd.prog 182 0 0 := ⟨_, _, 0, Tryd.underlying182, rfl, rfl, by kernel_rfl⟩
instance fld182x1 : Fld Tryd.prog 182 1 1 := ⟨_, _, 0, Tryd.underlying182, rfl, rfl, by kernel_rfl⟩
instance fld182x2 : Fld Tryd.prog 182 2 2 := ⟨_, _, 0, Tryd.underlying182, rfl, rfl, by kernel_rfl⟩
instance fld182x3 : Fld Tryd.prog 182 3 3 := ⟨_, _, 0, Tryd.underlying182, rfl, rfl, by kernel_rfl⟩
abbrev und183 := Und.mk (P := Tryd.prog) (t := 183) Tryd.underlying183
attribute [instance] und183
instance siz183 : Siz Tryd.prog 183 4 := ⟨by kernel_rfl⟩
instance byt183 : Byt Tryd.prog 183 48 := ⟨by kernel_rfl⟩
instance zer183 : Zer Tryd.prog 183 (.agg #[.int .i64 0, .int .i64 0, .string ByteArray.empty, .string ByteArray.empty]) := ⟨by kernel_rfl⟩
instance fld183x0 : Fld Tryd.prog 183 0 0 := ⟨_, _, 0, Tryd.underlying183, rfl, rfl, by kernel_rfl⟩
instance fld183x1 : Fld Tryd.prog 183 1 1 := ⟨_, _, 0, Tryd.underlying183, rfl, rfl, by kernel_rfl⟩
instance fld183x2 : Fld Tryd.prog 183 2 2 := ⟨_, _, 0, Tryd.underlying183, rfl, rfl, by kernel_rfl⟩
instance fld183x3 : Fld Tryd.prog 183 3 3 := ⟨_, _, 0, Tryd.underlying183, rfl, rfl, by kernel_rfl⟩
abbrev und184 := Und.mk (P := Tryd.prog) (t := 184) Tryd.underlying184
attribute [instance] und184
instance siz184 : Siz Tryd.prog 184 1 := ⟨by kernel_rfl⟩
instance byt184 : Byt Tryd.prog 184 8 := ⟨by kernel_rfl⟩
instance zer184 : Zer Tryd.prog 184 (.pointer none) := ⟨by kernel_rfl⟩
abbrev und185 := Und.mk (P := Tryd.prog) (t := 185) Tryd.underlying185
attribute [instance] und185
instance siz185 : Siz Tryd.prog 185 1 := ⟨by kernel_rfl⟩
instance byt185 : Byt Tryd.prog 185 0 := ⟨by kernel_rfl⟩
abbrev und186 := Und.mk (P := Tryd.prog) (t := 186) Tryd.underlying186
attribute [instance] und186
instance siz186 : Siz Tryd.prog 186 1 := ⟨by kernel_rfl⟩
instance byt186 : Byt Tryd.prog 186 8 := ⟨by kernel_rfl⟩
instance zer186 : Zer Tryd.prog 186 (.nilFunc) := ⟨by kernel_rfl⟩
abbrev und187 := Und.mk (P := Tryd.prog) (t := 187) Tryd.underlying187
attribute [instance] und187
instance siz187 : Siz Tryd.prog 187 1 := ⟨by kernel_rfl⟩
instance byt187 : Byt Tryd.prog 187 8 := ⟨by kernel_rfl⟩
instance zer187 : Zer Tryd.prog 187 (.nilFunc) := ⟨by kernel_rfl⟩
abbrev und188 := Und.mk (P := Tryd.prog) (t := 188) Tryd.underlying188
attribute [instance] und188
instance siz188 : Siz Tryd.prog 188 1 := ⟨by kernel_rfl⟩
instance byt188 : Byt Tryd.prog 188 0 := ⟨by kernel_rfl⟩
abbrev und189 := Und.mk (P := Tryd.prog) (t := 189) Tryd.underlying189
attribute [instance] und189
instance siz189 : Siz Tryd.prog 189 1 := ⟨by kernel_rfl⟩
instance byt189 : Byt Tryd.prog 189 8 := ⟨by kernel_rfl⟩
instance zer189 : Zer Tryd.prog 189 (.nilFunc) := ⟨by kernel_rfl⟩
abbrev und190 := Und.mk (P := Tryd.prog) (t := 190) Tryd.underlying190
attribute [instance] und190
instance siz190 : Siz Tryd.prog 190 1 := ⟨by kernel_rfl⟩
instance byt190 : Byt Tryd.prog 190 8 := ⟨by kernel_rfl⟩
instance zer190 : Zer Tryd.prog 190 (.nilFunc) := ⟨by kernel_rfl⟩
abbrev und191 := Und.mk (P := Tryd.prog) (t := 191) Tryd.underlying191
attribute [instance] und191
instance siz191 : Siz Tryd.prog 191 4 := ⟨by kernel_rfl⟩
instance byt191 : Byt Tryd.prog 191 40 := ⟨by kernel_rfl⟩
instance zer191 : Zer Tryd.prog 191 (.agg #[.pointer none, .pointer none, .pointer none, .string ByteArray.empty]) := ⟨by kernel_rfl⟩
instance fld191x0 : Fld Tryd.prog 191 0 0 := ⟨_, _, 0, Tryd.underlying191, rfl, rfl, by kernel_rfl⟩
instance fld191x1 : Fld Tryd.prog 191 1 1 := ⟨_, _, 0, Tryd.underlying191, rfl, rfl, by kernel_rfl⟩
instance fld191x2 : Fld Tryd.prog 191 2 2 := ⟨_, _, 0, Tryd.underlying191, rfl, rfl, by kernel_rfl⟩
instance fld191x3 : Fld Tryd.prog 191 3 3 := ⟨_, _, 0, Tryd.underlying191, rfl, rfl, by kernel_rfl⟩
abbrev und192 := Und.mk (P := Tryd.prog) (t := 192) Tryd.underlying192
attribute [instance] und192
instance siz192 : Siz Tryd.prog 192 4 := ⟨by kernel_rfl⟩
instance byt192 : Byt Tryd.prog 192 40 := ⟨by kernel_rfl⟩
instance zer192 : Zer Tryd.prog 192 (.agg #[.pointer none, .pointer none, .pointer none, .string ByteArray.empty]) := ⟨by kernel_rfl⟩
instance fld192x0 : Fld Tryd.prog 192 0 0 := ⟨_, _, 0, Tryd.underlying192, rfl, rfl, by kernel_rfl⟩
instance fld192x1 : Fld Tryd.prog 192 1 1 := ⟨_, _, 0, Tryd.underlying192, rfl, rfl, by kernel_rfl⟩
instance fld192x2 : Fld Tryd.prog 192 2 2 := ⟨_, _, 0, Tryd.underlying192, rfl, rfl, by kernel_rfl⟩
instance fld192x3 : Fld Tryd.prog 192 3 3 := ⟨_, _, 0, Tryd.underlying192, rfl, rfl, by kernel_rfl⟩
abbrev und193 := Und.mk (P := Tryd.prog) (t := 193) Tryd.underlying193
attribute [instance] und193
instance siz193 : Siz Tryd.prog 193 0 := ⟨by kernel_rfl⟩
instance byt193 : Byt Tryd.prog 193 0 := ⟨by kernel_rfl⟩
instance zer193 : Zer Tryd.prog 193 (.agg #[]) := ⟨by kernel_rfl⟩
abbrev und194 := Und.mk (P := Tryd.prog) (t := 194) Tryd.underlying194
attribute [instance] und194
instance siz194 : Siz Tryd.prog 194 0 := ⟨by kernel_rfl⟩
instance byt194 : Byt Tryd.prog 194 0 := ⟨by kernel_rfl⟩
instance zer194 : Zer Tryd.prog 194 (.agg #[]) := ⟨by kernel_rfl⟩
abbrev und195 := Und.mk (P := Tryd.prog) (t := 195) Tryd.underlying195
attribute [instance] und195
instance siz195 : Siz Tryd.prog 195 0 := ⟨by kernel_rfl⟩
instance byt195 : Byt Tryd.prog 195 0 := ⟨by kernel_rfl⟩
instance zer195 : Zer Tryd.prog 195 (.agg #[]) := ⟨by kernel_rfl⟩
abbrev und196 := Und.mk (P := Tryd.prog) (t := 196) Tryd.underlying196
attribute [instance] und196
instance siz196 : Siz Tryd.prog 196 1 := ⟨by kernel_rfl⟩
instance byt196 : Byt Tryd.prog 196 1 := ⟨by kernel_rfl⟩
instance zer196 : Zer Tryd.prog 196 (.int .u8 0) := ⟨by kernel_rfl⟩
abbrev und197 := Und.mk (P := Tryd.prog) (t := 197) Tryd.underlying197
attribute [instance] und197
instance siz197 : Siz Tryd.prog 197 1 := ⟨by kernel_rfl⟩
instance byt197 : Byt Tryd.prog 197 1 := ⟨by kernel_rfl⟩
instance zer197 : Zer Tryd.prog 197 (.int .u8 0) := ⟨by kernel_rfl⟩
abbrev und198 := Und.mk (P := Tryd.prog) (t := 198) Tryd.underlying198
attribute [instance] und198
instance siz198 : Siz Tryd.prog 198 1 := ⟨by kernel_rfl⟩
instance byt198 : Byt Tryd.prog 198 8 := ⟨by kernel_rfl⟩
instance zer198 : Zer Tryd.prog 198 (.nilFunc) := ⟨by kernel_rfl⟩
abbrev und199 := Und.mk (P := Tryd.prog) (t := 199) Tryd.underlying199
attribute [instance] und199
instance siz199 : Siz Tryd.prog 199 1 := ⟨by kernel_rfl⟩
instance byt199 : Byt Tryd.prog 199 8 := ⟨by kernel_rfl⟩
instance zer199 : Zer Tryd.prog 199 (.pointer none) := ⟨by kernel_rfl⟩
abbrev und200 := Und.mk (P := Tryd.prog) (t := 200) Tryd.underlying200
attribute [instance] und200
instance siz200 : Siz Tryd.prog 200 1 := ⟨by kernel_rfl⟩
instance byt200 : Byt Tryd.prog 200 4 := ⟨by kernel_rfl⟩
instance zer200 : Zer Tryd.prog 200 (.int .i32 0) := ⟨by kernel_rfl⟩
abbrev und201 := Und.mk (P := Tryd.prog) (t := 201) Tryd.underlying201
attribute [instance] und201
instance siz201 : Siz Tryd.prog 201 1 := ⟨by kernel_rfl⟩
instance byt201 : Byt Tryd.prog 201 4 := ⟨by kernel_rfl⟩
instance zer201 : Zer Tryd.prog 201 (.int .i32 0) := ⟨by kernel_rfl⟩
abbrev und202 := Und.mk (P := Tryd.prog) (t := 202) Tryd.underlying202
attribute [instance] und202
instance siz202 : Siz Tryd.prog 202 11 := ⟨by kernel_rfl⟩
instance byt202 : Byt Tryd.prog 202 48 := ⟨by kernel_rfl⟩
instance zer202 : Zer Tryd.prog 202 (.agg #[.int .u64 0, .int .u64 0, .int .u32 0, .int .u8 0, .int .u8 0, .int .u8 0, .int .u8 0, .nilFunc, .pointer none, .int .i32 0, .int .i32 0]) := ⟨by kernel_rfl⟩
instance fld202x0 : Fld Tryd.prog 202 0 0 := ⟨_, _, 0, Tryd.underlying202, rfl, rfl, by kernel_rfl⟩
instance fld202x1 : Fld Tryd.prog 202 1 1 := ⟨_, _, 0, Tryd.underlying202, rfl, rfl, by kernel_rfl⟩
instance fld202x2 : Fld Tryd.prog 202 2 2 := ⟨_, _, 0, Tryd.underlying202, rfl, rfl, by kernel_rfl⟩
instance fld202x3 : Fld Tryd.prog 202 3 3 := ⟨_, _, 0, Tryd.underlying202, rfl, rfl, by kernel_rfl⟩
instance fld202x4 : Fld Tryd.prog 202 4 4 := ⟨_, _, 0, Tryd.underlying202, rfl, rfl, by kernel_rfl⟩
instance fld202x5 : Fld Tryd.prog 202 5 5 := ⟨_, _, 0, Tryd.underlying202, rfl, rfl, by kernel_rfl⟩
instance fld202x6 : Fld Tryd.prog 202 6 6 := ⟨_, _, 0, Tryd.underlying202, rfl, rfl, by kernel_rfl⟩
instance fld202x7 : Fld Tryd.prog 202 7 7 := ⟨_, _, 0, Tryd.underlying202, rfl, rfl, by kernel_rfl⟩
instance fld202x8 : Fld Tryd.prog 202 8 8 := ⟨_, _, 0, Tryd.underlying202, rfl, rfl, by kernel_rfl⟩
instance fld202x9 : Fld Tryd.prog 202 9 9 := ⟨_, _, 0, Tryd.underlying202, rfl, rfl, by kernel_rfl⟩
instance fld202x10 : Fld Tryd.prog 202 10 10 := ⟨_, _, 0, Tryd.underlying202, rfl, rfl, by kernel_rfl⟩
abbrev und203 := Und.mk (P := Tryd.prog) (t := 203) Tryd.underlying203
attribute [instance] und203
instance siz203 : Siz Tryd.prog 203 11 := ⟨by kernel_rfl⟩
instance byt203 : Byt Tryd.prog 203 48 := ⟨by kernel_rfl⟩
instance zer203 : Zer Tryd.prog 203 (.agg #[.int .u64 0, .int .u64 0, .int .u32 0, .int .u8 0, .int .u8 0, .int .u8 0, .int .u8 0, .nilFunc, .pointer none, .int .i32 0, .int .i32 0]) := ⟨by kernel_rfl⟩
instance fld203x0 : Fld Tryd.prog 203 0 0 := ⟨_, _, 0, Tryd.underlying203, rfl, rfl, by kernel_rfl⟩
instance fld203x1 : Fld Tryd.prog 203 1 1 := ⟨_, _, 0, Tryd.underlying203, rfl, rfl, by kernel_rfl⟩
instance fld203x2 : Fld Tryd.prog 203 2 2 := ⟨_, _, 0, Tryd.underlying203, rfl, rfl, by kernel_rfl⟩
instance fld203x3 : Fld Tryd.prog 203 3 3 := ⟨_, _, 0, Tryd.underlying203, rfl, rfl, by kernel_rfl⟩
instance fld203x4 : Fld Tryd.prog 203 4 4 := ⟨_, _, 0, Tryd.underlying203, rfl, rfl, by kernel_rfl⟩
instance fld203x5 : Fld Tryd.prog 203 5 5 := ⟨_, _, 0, Tryd.underlying203, rfl, rfl, by kernel_rfl⟩
instance fld203x6 : Fld Tryd.prog 203 6 6 := ⟨_, _, 0, Tryd.underlying203, rfl, rfl, by kernel_rfl⟩
instance fld203x7 : Fld Tryd.prog 203 7 7 := ⟨_, _, 0, Tryd.underlying203, rfl, rfl, by kernel_rfl⟩
instance fld203x8 : Fld Tryd.prog 203 8 8 := ⟨_, _, 0, Tryd.underlying203, rfl, rfl, by kernel_rfl⟩
instance fld203x9 : Fld Tryd.prog 203 9 9 := ⟨_, _, 0, Tryd.underlying203, rfl, rfl, by kernel_rfl⟩
instance fld203x10 : Fld Tryd.prog 203 10 10 := ⟨_, _, 0, Tryd.underlying203, rfl, rfl, by kernel_rfl⟩
abbrev und204 := Und.mk (P := Tryd.prog) (t := 204) Tryd.underlying204
attribute [instance] und204
instance siz204 : Siz Tryd.prog 204 1 := ⟨by kernel_rfl⟩
instance byt204 : Byt Tryd.prog 204 8 := ⟨by kernel_rfl⟩
instance zer204 : Zer Tryd.prog 204 (.nilFunc) := ⟨by kernel_rfl⟩
abbrev und205 := Und.mk (P := Tryd.prog) (t := 205) Tryd.underlying205
attribute [instance] und205
instance siz205 : Siz Tryd.prog 205 1 := ⟨by kernel_rfl⟩
instance byt205 : Byt Tryd.prog 205 8 := ⟨by kernel_rfl⟩
instance zer205 : Zer Tryd.prog 205 (.pointer none) := ⟨by kernel_rfl⟩
instance fun3 : Fun Tryd.prog 3 Tryd.f3 := ⟨Tryd.func3, enters_of Tryd.func3 (by kernel_rfl) rfl⟩
instance fun4 : Fun Tryd.prog 4 Tryd.f4 := ⟨Tryd.func4, enters_of Tryd.func4 (by kernel_rfl) rfl⟩
instance fun5 : Fun Tryd.prog 5 Tryd.f5 := ⟨Tryd.func5, enters_of Tryd.func5 (by kernel_rfl) rfl⟩
instance fun6 : Fun Tryd.prog 6 Tryd.f6 := ⟨Tryd.func6, enters_of Tryd.func6 (by kernel_rfl) rfl⟩
instance fun7 : Fun Tryd.prog 7 Tryd.f7 := ⟨Tryd.func7, enters_of Tryd.func7 (by kernel_rfl) rfl⟩
instance fun8 : Fun Tryd.prog 8 Tryd.f8 := ⟨Tryd.func8, enters_of Tryd.func8 (by kernel_rfl) rfl⟩
instance fun9 : Fun Tryd.prog 9 Tryd.f9 := ⟨Tryd.func9, enters_of Tryd.func9 (by kernel_rfl) rfl⟩
instance fun10 : Fun Tryd.prog 10 Tryd.f10 := ⟨Tryd.func10, enters_of Tryd.func10 (by kernel_rfl) rfl⟩
instance fun11 : Fun Tryd.prog 11 Tryd.f11 := ⟨Tryd.func11, enters_of Tryd.func11 (by kernel_rfl) rfl⟩
instance fun12 : Fun Tryd.prog 12 Tryd.f12 := ⟨Tryd.func12, enters_of Tryd.func12 (by kernel_rfl) rfl⟩
instance fun13 : Fun Tryd.prog 13 Tryd.f13 := ⟨Tryd.func13, enters_of Tryd.func13 (by kernel_rfl) rfl⟩
instance fun14 : Fun Tryd.prog 14 Tryd.f14 := ⟨Tryd.func14, enters_of Tryd.func14 (by kernel_rfl) rfl⟩
instance fun15 : Fun Tryd.prog 15 Tryd.f15 := ⟨Tryd.func15, enters_of Tryd.func15 (by kernel_rfl) rfl⟩
instance fun16 : Fun Tryd.prog 16 Tryd.f16 := ⟨Tryd.func16, enters_of Tryd.func16 (by kernel_rfl) rfl⟩
instance fun17 : Fun Tryd.prog 17 Tryd.f17 := ⟨Tryd.func17, enters_of Tryd.func17 (by kernel_rfl) rfl⟩
instance fun18 : Fun Tryd.prog 18 Tryd.f18 := ⟨Tryd.func18, enters_of Tryd.func18 (by kernel_rfl) rfl⟩
instance fun19 : Fun Tryd.prog 19 Tryd.f19 := ⟨Tryd.func19, enters_of Tryd.func19 (by kernel_rfl) rfl⟩
instance fun20 : Fun Tryd.prog 20 Tryd.f20 := ⟨Tryd.func20, enters_of Tryd.func20 (by kernel_rfl) rfl⟩
instance fun21 : Fun Tryd.prog 21 Tryd.f21 := ⟨Tryd.func21, enters_of Tryd.func21 (by kernel_rfl) rfl⟩
instance fun22 : Fun Tryd.prog 22 Tryd.f22 := ⟨Tryd.func22, enters_of Tryd.func22 (by kernel_rfl) rfl⟩
instance fun23 : Fun Tryd.prog 23 Tryd.f23 := ⟨Tryd.func23, enters_of Tryd.func23 (by kernel_rfl) rfl⟩
instance fun24 : Fun Tryd.prog 24 Tryd.f24 := ⟨Tryd.func24, enters_of Tryd.func24 (by kernel_rfl) rfl⟩
instance fun25 : Fun Tryd.prog 25 Tryd.f25 := ⟨Tryd.func25, enters_of Tryd.func25 (by kernel_rfl) rfl⟩
instance fun26 : Fun Tryd.prog 26 Tryd.f26 := ⟨Tryd.func26, enters_of Tryd.func26 (by kernel_rfl) rfl⟩
instance fun27 : Fun Tryd.prog 27 Tryd.f27 := ⟨Tryd.func27, enters_of Tryd.func27 (by kernel_rfl) rfl⟩
instance fun28 : Fun Tryd.prog 28 Tryd.f28 := ⟨Tryd.func28, enters_of Tryd.func28 (by kernel_rfl) rfl⟩
instance fun29 : Fun Tryd.prog 29 Tryd.f29 := ⟨Tryd.func29, enters_of Tryd.func29 (by kernel_rfl) rfl⟩
instance fun30 : Fun Tryd.prog 30 Tryd.f30 := ⟨Tryd.func30, enters_of Tryd.func30 (by kernel_rfl) rfl⟩
instance fun31 : Fun Tryd.prog 31 Tryd.f31 := ⟨Tryd.func31, enters_of Tryd.func31 (by kernel_rfl) rfl⟩
instance fun32 : Fun Tryd.prog 32 Tryd.f32 := ⟨Tryd.func32, enters_of Tryd.func32 (by kernel_rfl) rfl⟩
instance fun33 : Fun Tryd.prog 33 Tryd.f33 := ⟨Tryd.func33, enters_of Tryd.func33 (by kernel_rfl) rfl⟩
instance fun34 : Fun Tryd.prog 34 Tryd.f34 := ⟨Tryd.func34, enters_of Tryd.func34 (by kernel_rfl) rfl⟩
instance fun35 : Fun Tryd.prog 35 Tryd.f35 := ⟨Tryd.func35, enters_of Tryd.func35 (by kernel_rfl) rfl⟩
instance fun36 : Fun Tryd.prog 36 Tryd.f36 := ⟨Tryd.func36, enters_of Tryd.func36 (by kernel_rfl) rfl⟩
instance fun37 : Fun Tryd.prog 37 Tryd.f37 := ⟨Tryd.func37, enters_of Tryd.func37 (by kernel_rfl) rfl⟩
instance fun38 : Fun Tryd.prog 38 Tryd.f38 := ⟨Tryd.func38, enters_of Tryd.func38 (by kernel_rfl) rfl⟩
instance fun39 : Fun Tryd.prog 39 Tryd.f39 := ⟨Tryd.func39, enters_of Tryd.func39 (by kernel_rfl) rfl⟩
instance fun40 : Fun Tryd.prog 40 Tryd.f40 := ⟨Tryd.func40, enters_of Tryd.func40 (by kernel_rfl) rfl⟩
instance fun41 : Fun Tryd.prog 41 Tryd.f41 := ⟨Tryd.func41, enters_of Tryd.func41 (by kernel_rfl) rfl⟩
instance fun42 : Fun Tryd.prog 42 Tryd.f42 := ⟨Tryd.func42, enters_of Tryd.func42 (by kernel_rfl) rfl⟩
instance fun43 : Fun Tryd.prog 43 Tryd.f43 := ⟨Tryd.func43, enters_of Tryd.func43 (by kernel_rfl) rfl⟩
instance fun44 : Fun Tryd.prog 44 Tryd.f44 := ⟨Tryd.func44, enters_of Tryd.func44 (by kernel_rfl) rfl⟩
instance fun45 : Fun Tryd.prog 45 Tryd.f45 := ⟨Tryd.func45, enters_of Tryd.func45 (by kernel_rfl) rfl⟩
instance fun46 : Fun Tryd.prog 46 Tryd.f46 := ⟨Tryd.func46, enters_of Tryd.func46 (by kernel_rfl) rfl⟩
instance fun47 : Fun Tryd.prog 47 Tryd.f47 := ⟨Tryd.func47, enters_of Tryd.func47 (by kernel_rfl) rfl⟩
instance fun48 : Fun Tryd.prog 48 Tryd.f48 := ⟨Tryd.func48, enters_of Tryd.func48 (by kernel_rfl) rfl⟩
instance fun49 : Fun Tryd.prog 49 Tryd.f49 := ⟨Tryd.func49, enters_of Tryd.func49 (by kernel_rfl) rfl⟩
instance fun50 : Fun Tryd.prog 50 Tryd.f50 := ⟨Tryd.func50, enters_of Tryd.func50 (by kernel_rfl) rfl⟩
instance fun51 : Fun Tryd.prog 51 Tryd.f51 := ⟨Tryd.func51, enters_of Tryd.func51 (by kernel_rfl) rfl⟩
instance fun52 : Fun Tryd.prog 52 Tryd.f52 := ⟨Tryd.func52, enters_of Tryd.func52 (by kernel_rfl) rfl⟩
instance fun53 : Fun Tryd.prog 53 Tryd.f53 := ⟨Tryd.func53, enters_of Tryd.func53 (by kernel_rfl) rfl⟩
instance fun54 : Fun Tryd.prog 54 Tryd.f54 := ⟨Tryd.func54, enters_of Tryd.func54 (by kernel_rfl) rfl⟩
instance fun55 : Fun Tryd.prog 55 Tryd.f55 := ⟨Tryd.func55, enters_of Tryd.func55 (by kernel_rfl) rfl⟩
instance fun56 : Fun Tryd.prog 56 Tryd.f56 := ⟨Tryd.func56, enters_of Tryd.func56 (by kernel_rfl) rfl⟩
instance fun57 : Fun Tryd.prog 57 Tryd.f57 := ⟨Tryd.func57, enters_of Tryd.func57 (by kernel_rfl) rfl⟩
instance fun58 : Fun Tryd.prog 58 Tryd.f58 := ⟨Tryd.func58, enters_of Tryd.func58 (by kernel_rfl) rfl⟩
instance fun59 : Fun Tryd.prog 59 Tryd.f59 := ⟨Tryd.func59, enters_of Tryd.func59 (by kernel_rfl) rfl⟩
instance fun60 : Fun Tryd.prog 60 Tryd.f60 := ⟨Tryd.func60, enters_of Tryd.func60 (by kernel_rfl) rfl⟩
instance fun61 : Fun Tryd.prog 61 Tryd.f61 := ⟨Tryd.func61, enters_of Tryd.func61 (by kernel_rfl) rfl⟩
instance fun62 : Fun Tryd.prog 62 Tryd.f62 := ⟨Tryd.func62, enters_of Tryd.func62 (by kernel_rfl) rfl⟩
instance fun63 : Fun Tryd.prog 63 Tryd.f63 := ⟨Tryd.func63, enters_of Tryd.func63 (by kernel_rfl) rfl⟩
instance fun64 : Fun Tryd.prog 64 Tryd.f64 := ⟨Tryd.func64, enters_of Tryd.func64 (by kernel_rfl) rfl⟩
instance fun65 : Fun Tryd.prog 65 Tryd.f65 := ⟨Tryd.func65, enters_of Tryd.func65 (by kernel_rfl) rfl⟩
instance fun66 : Fun Tryd.prog 66 Tryd.f66 := ⟨Tryd.func66, enters_of Tryd.func66 (by kernel_rfl) rfl⟩
instance fun67 : Fun Tryd.prog 67 Tryd.f67 := ⟨Tryd.func67, enters_of Tryd.func67 (by kernel_rfl) rfl⟩
instance fun68 : Fun Tryd.prog 68 Tryd.f68 := ⟨Tryd.func68, enters_of Tryd.func68 (by kernel_rfl) rfl⟩
instance fun69 : Fun Tryd.prog 69 Tryd.f69 := ⟨Tryd.func69, enters_of Tryd.func69 (by kernel_rfl) rfl⟩
instance fun70 : Fun Tryd.prog 70 Tryd.f70 := ⟨Tryd.func70, enters_of Tryd.func70 (by kernel_rfl) rfl⟩
instance fun71 : Fun Tryd.prog 71 Tryd.f71 := ⟨Tryd.func71, enters_of Tryd.func71 (by kernel_rfl) rfl⟩
instance fun72 : Fun Tryd.prog 72 Tryd.f72 := ⟨Tryd.func72, enters_of Tryd.func72 (by kernel_rfl) rfl⟩
instance fun73 : Fun Tryd.prog 73 Tryd.f73 := ⟨Tryd.func73, enters_of Tryd.func73 (by kernel_rfl) rfl⟩
instance fun74 : Fun Tryd.prog 74 Tryd.f74 := ⟨Tryd.func74, enters_of Tryd.func74 (by kernel_rfl) rfl⟩
instance fun75 : Fun Tryd.prog 75 Tryd.f75 := ⟨Tryd.func75, enters_of Tryd.func75 (by kernel_rfl) rfl⟩
instance fun76 : Fun Tryd.prog 76 Tryd.f76 := ⟨Tryd.func76, enters_of Tryd.func76 (by kernel_rfl) rfl⟩
instance fun77 : Fun Tryd.prog 77 Tryd.f77 := ⟨Tryd.func77, enters_of Tryd.func77 (by kernel_rfl) rfl⟩
instance fun78 : Fun Tryd.prog 78 Tryd.f78 := ⟨Tryd.func78, enters_of Tryd.func78 (by kernel_rfl) rfl⟩
instance fun79 : Fun Tryd.prog 79 Tryd.f79 := ⟨Tryd.func79, enters_of Tryd.func79 (by kernel_rfl) rfl⟩
instance fun80 : Fun Tryd.prog 80 Tryd.f80 := ⟨Tryd.func80, enters_of Tryd.func80 (by kernel_rfl) rfl⟩
instance fun81 : Fun Tryd.prog 81 Tryd.f81 := ⟨Tryd.func81, enters_of Tryd.func81 (by kernel_rfl) rfl⟩
instance fun82 : Fun Tryd.prog 82 Tryd.f82 := ⟨Tryd.func82, enters_of Tryd.func82 (by kernel_rfl) rfl⟩
instance fun83 : Fun Tryd.prog 83 Tryd.f83 := ⟨Tryd.func83, enters_of Tryd.func83 (by kernel_rfl) rfl⟩
instance fun84 : Fun Tryd.prog 84 Tryd.f84 := ⟨Tryd.func84, enters_of Tryd.func84 (by kernel_rfl) rfl⟩
instance fun85 : Fun Tryd.prog 85 Tryd.f85 := ⟨Tryd.func85, enters_of Tryd.func85 (by kernel_rfl) rfl⟩
instance fun86 : Fun Tryd.prog 86 Tryd.f86 := ⟨Tryd.func86, enters_of Tryd.func86 (by kernel_rfl) rfl⟩
instance fun87 : Fun Tryd.prog 87 Tryd.f87 := ⟨Tryd.func87, enters_of Tryd.func87 (by kernel_rfl) rfl⟩
instance fun88 : Fun Tryd.prog 88 Tryd.f88 := ⟨Tryd.func88, enters_of Tryd.func88 (by kernel_rfl) rfl⟩
instance fun89 : Fun Tryd.prog 89 Tryd.f89 := ⟨Tryd.func89, enters_of Tryd.func89 (by kernel_rfl) rfl⟩
instance fun90 : Fun Tryd.prog 90 Tryd.f90 := ⟨Tryd.func90, enters_of Tryd.func90 (by kernel_rfl) rfl⟩
instance fun91 : Fun Tryd.prog 91 Tryd.f91 := ⟨Tryd.func91, enters_of Tryd.func91 (by kernel_rfl) rfl⟩
instance fun92 : Fun Tryd.prog 92 Tryd.f92 := ⟨Tryd.func92, enters_of Tryd.func92 (by kernel_rfl) rfl⟩
instance fun93 : Fun Tryd.prog 93 Tryd.f93 := ⟨Tryd.func93, enters_of Tryd.func93 (by kernel_rfl) rfl⟩
instance fun94 : Fun Tryd.prog 94 Tryd.f94 := ⟨Tryd.func94, enters_of Tryd.func94 (by kernel_rfl) rfl⟩
instance fun95 : Fun Tryd.prog 95 Tryd.f95 := ⟨Tryd.func95, enters_of Tryd.func95 (by kernel_rfl) rfl⟩
instance fun96 : Fun Tryd.prog 96 Tryd.f96 := ⟨Tryd.func96, enters_of Tryd.func96 (by kernel_rfl) rfl⟩
instance fun97 : Fun Tryd.prog 97 Tryd.f97 := ⟨Tryd.func97, enters_of Tryd.func97 (by kernel_rfl) rfl⟩
instance fun98 : Fun Tryd.prog 98 Tryd.f98 := ⟨Tryd.func98, enters_of Tryd.func98 (by kernel_rfl) rfl⟩
instance fun99 : Fun Tryd.prog 99 Tryd.f99 := ⟨Tryd.func99, enters_of Tryd.func99 (by kernel_rfl) rfl⟩
instance fun100 : Fun Tryd.prog 100 Tryd.f100 := ⟨Tryd.func100, enters_of Tryd.func100 (by kernel_rfl) rfl⟩
instance fun101 : Fun Tryd.prog 101 Tryd.f101 := ⟨Tryd.func101, enters_of Tryd.func101 (by kernel_rfl) rfl⟩
instance fun102 : Fun Tryd.prog 102 Tryd.f102 := ⟨Tryd.func102, enters_of Tryd.func102 (by kernel_rfl) rfl⟩
instance fun103 : Fun Tryd.prog 103 Tryd.f103 := ⟨Tryd.func103, enters_of Tryd.func103 (by kernel_rfl) rfl⟩
instance fun104 : Fun Tryd.prog 104 Tryd.f104 := ⟨Tryd.func104, enters_of Tryd.func104 (by kernel_rfl) rfl⟩
instance fun105 : Fun Tryd.prog 105 Tryd.f105 := ⟨Tryd.func105, enters_of Tryd.func105 (by kernel_rfl) rfl⟩
instance fun106 : Fun Tryd.prog 106 Tryd.f106 := ⟨Tryd.func106, enters_of Tryd.func106 (by kernel_rfl) rfl⟩
instance fun107 : Fun Tryd.prog 107 Tryd.f107 := ⟨Tryd.func107, enters_of Tryd.func107 (by kernel_rfl) rfl⟩
instance fun108 : Fun Tryd.prog 108 Tryd.f108 := ⟨Tryd.func108, enters_of Tryd.func108 (by kernel_rfl) rfl⟩
instance fun109 : Fun Tryd.prog 109 Tryd.f109 := ⟨Tryd.func109, enters_of Tryd.func109 (by kernel_rfl) rfl⟩
instance fun110 : Fun Tryd.prog 110 Tryd.f110 := ⟨Tryd.func110, enters_of Tryd.func110 (by kernel_rfl) rfl⟩
instance fun111 : Fun Tryd.prog 111 Tryd.f111 := ⟨Tryd.func111, enters_of Tryd.func111 (by kernel_rfl) rfl⟩
instance fun112 : Fun Tryd.prog 112 Tryd.f112 := ⟨Tryd.func112, enters_of Tryd.func112 (by kernel_rfl) rfl⟩
instance fun113 : Fun Tryd.prog 113 Tryd.f113 := ⟨Tryd.func113, enters_of Tryd.func113 (by kernel_rfl) rfl⟩
instance fun114 : Fun Tryd.prog 114 Tryd.f114 := ⟨Tryd.func114, enters_of Tryd.func114 (by kernel_rfl) rfl⟩
instance fun115 : Fun Tryd.prog 115 Tryd.f115 := ⟨Tryd.func115, enters_of Tryd.func115 (by kernel_rfl) rfl⟩
instance fun116 : Fun Tryd.prog 116 Tryd.f116 := ⟨Tryd.func116, enters_of Tryd.func116 (by kernel_rfl) rfl⟩
instance fun117 : Fun Tryd.prog 117 Tryd.f117 := ⟨Tryd.func117, enters_of Tryd.func117 (by kernel_rfl) rfl⟩
instance fun118 : Fun Tryd.prog 118 Tryd.f118 := ⟨Tryd.func118, enters_of Tryd.func118 (by kernel_rfl) rfl⟩
instance fun119 : Fun Tryd.prog 119 Tryd.f119 := ⟨Tryd.func119, enters_of Tryd.func119 (by kernel_rfl) rfl⟩
instance fun120 : Fun Tryd.prog 120 Tryd.f120 := ⟨Tryd.func120, enters_of Tryd.func120 (by kernel_rfl) rfl⟩
instance fun121 : Fun Tryd.prog 121 Tryd.f121 := ⟨Tryd.func121, enters_of Tryd.func121 (by kernel_rfl) rfl⟩
instance fun122 : Fun Tryd.prog 122 Tryd.f122 := ⟨Tryd.func122, enters_of Tryd.func122 (by kernel_rfl) rfl⟩
instance fun123 : Fun Tryd.prog 123 Tryd.f123 := ⟨Tryd.func123, enters_of Tryd.func123 (by kernel_rfl) rfl⟩
instance fun124 : Fun Tryd.prog 124 Tryd.f124 := ⟨Tryd.func124, enters_of Tryd.func124 (by kernel_rfl) rfl⟩
instance fun125 : Fun Tryd.prog 125 Tryd.f125 := ⟨Tryd.func125, enters_of Tryd.func125 (by kernel_rfl) rfl⟩
instance fun126 : Fun Tryd.prog 126 Tryd.f126 := ⟨Tryd.func126, enters_of Tryd.func126 (by kernel_rfl) rfl⟩
instance fun127 : Fun Tryd.prog 127 Tryd.f127 := ⟨Tryd.func127, enters_of Tryd.func127 (by kernel_rfl) rfl⟩
instance fun128 : Fun Tryd.prog 128 Tryd.f128 := ⟨Tryd.func128, enters_of Tryd.func128 (by kernel_rfl) rfl⟩
instance fun129 : Fun Tryd.prog 129 Tryd.f129 := ⟨Tryd.func129, enters_of Tryd.func129 (by kernel_rfl) rfl⟩
instance fun130 : Fun Tryd.prog 130 Tryd.f130 := ⟨Tryd.func130, enters_of Tryd.func130 (by kernel_rfl) rfl⟩
instance fun131 : Fun Tryd.prog 131 Tryd.f131 := ⟨Tryd.func131, enters_of Tryd.func131 (by kernel_rfl) rfl⟩
instance fun132 : Fun Tryd.prog 132 Tryd.f132 := ⟨Tryd.func132, enters_of Tryd.func132 (by kernel_rfl) rfl⟩
instance fun133 : Fun Tryd.prog 133 Tryd.f133 := ⟨Tryd.func133, enters_of Tryd.func133 (by kernel_rfl) rfl⟩
instance fun134 : Fun Tryd.prog 134 Tryd.f134 := ⟨Tryd.func134, enters_of Tryd.func134 (by kernel_rfl) rfl⟩
instance fun136 : Fun Tryd.prog 136 Tryd.f136 := ⟨Tryd.func136, enters_of Tryd.func136 (by kernel_rfl) rfl⟩
instance fun137 : Fun Tryd.prog 137 Tryd.f137 := ⟨Tryd.func137, enters_of Tryd.func137 (by kernel_rfl) rfl⟩
instance fun139 : Fun Tryd.prog 139 Tryd.f139 := ⟨Tryd.func139, enters_of Tryd.func139 (by kernel_rfl) rfl⟩
instance fun164 : Fun Tryd.prog 164 Tryd.f164 := ⟨Tryd.func164, enters_of Tryd.func164 (by kernel_rfl) rfl⟩
end Go.Proofs.YtgpibcgebpgmiaaDoor

/-
The walk engine, part 3: memory. 'Stp S w w'': of the old blocks only those of S may have turned. Data in memory by a class 'GoRep'; slices 'SlV'; whole blocks 'Blk'; rows that are being appended to, 'Row'.
-/
namespace Go.Eng
open Go Go.RowKit Go.Proofs
set_option linter.unusedVariables false

structure Stp (S : List Nat) (w w' : World) : Prop where
  os : w'.os = w.os
  tape : w'.tape = w.tape
  output : w'.output = w.output
  size : w.heap.size ≤ w'.heap.size
  block : ∀ b, b < w.heap.size → b ∉ S → w'.heap[b]? = w.heap[b]?

theorem Stp.refl (S : List Nat) (w : World) : Stp S w w := ⟨rfl, rfl, rfl, Nat.le_refl _, fun _ _ _ => rfl⟩
theorem Stp.trans {S : List Nat} {a b c : World} (h : Stp S a b) (k : Stp S b c) : Stp S a c :=
  ⟨k.os.trans h.os, k.tape.trans h.tape, k.output.trans h.output, Nat.le_trans h.size k.size, fun i hi hn => (k.block i (Nat.lt_of_lt_of_le hi h.size) hn).trans (h.block i hi hn)⟩
theorem Stp.mono {S S' : List Nat} {a b : World} (h : Stp S a b) (hs : ∀ x ∈ S, x ∈ S') : Stp S' a b := ⟨h.os, h.tape, h.output, h.size, fun i hi hn => h.block i hi (fun hx => hn (hs i hx))⟩
/-- own blocks may turn -/
theorem Stp.own {S S' : List Nat} {a b c : World} (h : Stp S a b) (k : Stp S' b c) (hs : ∀ x ∈ S', x ∈ S ∨ a.heap.size ≤ x) : Stp S a c :=
  ⟨k.os.trans h.os, k.tape.trans h.tape, k.output.trans h.output, Nat.le_trans h.size k.size, fun i hi hn => (k.block i (Nat.lt_of_lt_of_le hi h.size) (fun hx => by
    rcases hs i hx with h1 | h1
    · exact hn h1
    · omega)).trans (h.block i hi hn)⟩
theorem Stp.below {a b : World} (h : Stp [] a b) : Below a.heap.size a b := ⟨h.os, h.tape, h.output, h.size, fun i hi => h.block i hi (by simp)⟩
theorem Stp.of_below {a b : World} (h : Below a.heap.size a b) : Stp [] a b := ⟨h.os, h.tape, h.output, h.size, fun i hi _ => h.block i hi⟩
theorem Stp.cell {S : List Nat} {w w' : World} (h : Stp S w w') {b o : Nat} {v : Value} (hb : b ∉ S) (hc : w.cell? ⟨b, o, none⟩ = some v) : w'.cell? ⟨b, o, none⟩ = some v := by
  have hlt : b < w.heap.size := block_lt_of_cell (a := ⟨b, o, none⟩) hc
  rw [← hc]
  exact World.cell?_of_block (w := w) (h.block b hlt hb)
theorem Stp.drew (S : List Nat) (w : World) : Stp S w w.drew := ⟨rfl, rfl, rfl, Nat.le_refl _, fun _ _ _ => rfl⟩
theorem Stp.alloc (S : List Nat) (w : World) (o : Obj) : Stp S w (w.alloc o) := ⟨rfl, rfl, rfl, by simp, fun k hk _ => Below.heap_alloc w o k hk⟩
theorem Stp.of_grown {w w' : World} {row : Option Nat} (h : w.grownBy w' row) : Stp row.toList w w' :=
  ⟨h.os, h.tape, h.output, h.size, fun k hk hn => h.block k hk (fun e => hn (by simp [← e]))⟩

/-! ### data -/
class GoRep (α : Type) where
  k : Nat
  rep : List Nat → World → α → List Value → Prop
  len : ∀ {X : List Nat} {w : World} {x : α} {cs : List Value}, rep X w x cs → cs.length = k
  one : ∀ {X : List Nat} {w : World} {x : α} {cs : List Value}, rep X w x cs → ∀ u ∈ cs, u.oneCell' = true
  ext : ∀ {X S X' : List Nat} {w w' : World} {x : α} {cs : List Value}, rep X w x cs → Stp S w w' → (∀ b ∈ S, b ∈ X) → (∀ b ∈ X', b ∈ X ∨ w.heap.size ≤ b) → rep X' w' x cs

/-- data without memory of its own -/
class Flat (α : Type) where
  k : Nat
  enc : α → List Value
  len : ∀ x, (enc x).length = k
  one : ∀ x, ∀ u ∈ enc x, u.oneCell' = true

instance {α : Type} [Flat α] : GoRep α where
  k := Flat.k α
  rep := fun _ _ x cs => cs = Flat.enc x
  len := fun h => h ▸ Flat.len _
  one := fun h => h ▸ Flat.one _
  ext := fun h _ _ _ => h

instance : Flat Int where
  k := 1
  enc := fun x => [.int .i64 x]
  len := fun _ => rfl
  one := by intro x u hu; simp at hu; subst hu; rfl
instance : Flat Bool where
  k := 1
  enc := fun x => [.bool x]
  len := fun _ => rfl
  one := by intro x u hu; simp at hu; subst hu; rfl

def SlV {α : Type} [GoRep α] (X : List Nat) (w : World) (v : Value) (xs : List α) : Prop :=
  ∃ (p : Option Addr) (c : Nat), v = .slice p xs.length c ∧ xs.length ≤ c ∧ c ≤ maxLen ∧ (p = none → c = 0) ∧
    ∀ i (h : i < xs.length), ∃ b o cs, p = some ⟨b, o, none⟩ ∧ b < w.heap.size ∧ b ∉ X ∧ GoRep.rep X w xs[i] cs ∧ ∀ j u, cs[j]? = some u → w.cell? ⟨b, o + i * GoRep.k α + j, none⟩ = some u

theorem SlV.ext {α : Type} [GoRep α] {X S X' : List Nat} {w w' : World} {v : Value} {xs : List α} (h : SlV X w v xs) (hS : Stp S w w') (h1 : ∀ b ∈ S, b ∈ X) (h2 : ∀ b ∈ X', b ∈ X ∨ w.heap.size ≤ b) : SlV X' w' v xs := by
  obtain ⟨p, c, hv, hl, hm, hn, hc⟩ := h
  refine ⟨p, c, hv, hl, hm, hn, fun i hi => ?_⟩
  obtain ⟨b, o, cs, hp, hb, hx, hr, hcell⟩ := hc i hi
  refine ⟨b, o, cs, hp, Nat.lt_of_lt_of_le hb hS.size, fun hbx => ?_, GoRep.ext hr hS h1 h2, fun j u hu => hS.cell (fun hbs => hx (h1 b hbs)) (hcell j u hu)⟩
  rcases h2 b hbx with h | h
  · exact hx h
  · omega
/-- behind a call, an alloc: everything stands -/
theorem SlV.up {α : Type} [GoRep α] {X : List Nat} {w w' : World} {v : Value} {xs : List α} (h : SlV X w v xs) (hS : Stp [] w w') : SlV X w' v xs :=
  h.ext hS (by simp) (fun b hb => .inl hb)
theorem SlV.len {α : Type} [GoRep α] {X : List Nat} {w : World} {v : Value} {xs : List α} (h : SlV X w v xs) : ∃ p c, v = .slice p xs.length c := let ⟨p, c, hv, _⟩ := h; ⟨p, c, hv⟩
theorem SlV.cells {α : Type} [GoRep α] {X : List Nat} {w : World} {v : Value} {xs : List α} (h : SlV X w v xs) : v.cells.toList = [v] := by
  obtain ⟨p, c, rfl⟩ := h.len
  rfl
theorem SlV.one {α : Type} [GoRep α] {X : List Nat} {w : World} {v : Value} {xs : List α} (h : SlV X w v xs) : v.oneCell' = true := by
  obtain ⟨p, c, rfl⟩ := h.len
  rfl
theorem SlV.max {α : Type} [GoRep α] {X : List Nat} {w : World} {v : Value} {xs : List α} (h : SlV X w v xs) : xs.length ≤ 9223372036854775807 := by
  obtain ⟨p, c, hv, hl, hm, _⟩ := h
  simp only [maxLen] at hm
  omega

def elAddr (v : Value) (i k j : Nat) : Addr :=
  match v with
  | .slice (some a) _ _ => ⟨a.block, a.off + i * k + j, none⟩
  | _ => ⟨0, 0, none⟩

/-- block b holds just these cells -/
def Blk (w : World) (b : Nat) (T : TypeId) (cs : List Value) : Prop := w.heap[b]? = some (.cells cs.toArray T (0, 0))
theorem Blk.lt {w : World} {b T : Nat} {cs : List Value} (h : Blk w b T cs) : b < w.heap.size := (Array.getElem?_eq_some_iff.1 h).1
theorem Blk.ext {w w' : World} {S : List Nat} {b T : Nat} {cs : List Value} (h : Blk w b T cs) (hS : Stp S w w') (hb : b ∉ S) : Blk w' b T cs := by
  unfold Blk at *
  rw [hS.block b (Blk.lt h) hb]
  exact h
theorem Blk.up {w w' : World} {b T : Nat} {cs : List Value} (h : Blk w b T cs) (hS : Stp [] w w') : Blk w' b T cs := h.ext hS (by simp)
theorem Blk.cell {w : World} {b T : Nat} {cs : List Value} (h : Blk w b T cs) {j : Nat} {u : Value} (hu : cs[j]? = some u) : w.cell? ⟨b, j, none⟩ = some u := by
  unfold Blk at h
  simp [World.cell?, h, hu]

section rules
variable {P : Program} {n : Nat} {e : Env} {w : World} {d : Option Nat} {ty : TypeId} {pos : String} {af : Array Edge} {g : Option (Nat × Bool)}

theorem PR_lenS {α : Type} [GoRep α] {X : List Nat} {xs : List α} {v : Value} {x : Operand} {t : TypeId} {el : TypeId} {w₀ : World} [hu : Und P t (.slice el)] (hx : ev e x = some v) (hs : SlV X w₀ v xs) :
    PR P n ⟨d, .call { callee := .builtin .len, args := #[x], argTypes := #[t] }, ty, pos, af, g⟩ e w (.int .i64 (xs.length : Int)) := by
  obtain ⟨p, c, rfl⟩ := hs.len
  exact PR_len hx

theorem PR_idx {α : Type} [GoRep α] {X : List Nat} {xs : List α} {v : Value} {x y : Operand} {t : TypeId} {el k : Nat} [hu : Und P t (.slice el)] [hk : Siz P el k] {z : Int} {i : Nat} {w₀ : World}
    (hx : ev e x = some v) (hs : SlV X w₀ v xs) (hy : ev e y = some (.int .i64 z)) (hz : z = (i : Int)) (hi : i < xs.length) :
    PR P n ⟨d, .indexAddr t x y, ty, pos, af, g⟩ e w (.pointer (some (elAddr v i k 0))) := by
  refine ⟨fun a ha => ?_⟩
  obtain ⟨p, c, rfl, hl, hm, hn, hc⟩ := hs
  obtain ⟨b, o, cs, rfl, _⟩ := hc i hi
  subst hz
  have h0 : (0 : Int) ≤ (i : Int) ∧ (i : Int) < (xs.length : Int) := by omega
  have hr : (Instr.indexAt t (.slice (some ⟨b, o, none⟩) xs.length c) (.int .i64 (i : Int))).run P w = .ok (.pointer (some ⟨b, o + i * k, none⟩)) w := by
    simp only [Instr.indexAt, asIntOf]
    simp [run_underlying hu.h, Siz.run, Addr.add_lit, hi]
  simp [execOp, ha.ev hx, ha.ev hy, hr, elAddr]

theorem PR_field_el {x : Operand} {t : TypeId} {v : Value} {i k j m off : Nat} [hf : Fld P t m off] (hx : ev e x = some (.pointer (some (elAddr v i k j))))
    (hv : ∃ p l c, v = .slice (some p) l c) : PR P n ⟨d, .fieldAddr t x m, ty, pos, af, g⟩ e w (.pointer (some (elAddr v i k (j + off)))) := by
  obtain ⟨p, l, c, rfl⟩ := hv
  exact ⟨fun a ha => by simp [execOp, ha.ev hx, elAddr, fieldAt_run, Nat.add_assoc]⟩
theorem SlV.isSome {α : Type} [GoRep α] {X : List Nat} {v : Value} {xs : List α} {i : Nat} (h : SlV X w v xs) (hi : i < xs.length) : ∃ p l c, v = .slice (some p) l c := by
  obtain ⟨p, c, rfl, _, _, _, hc⟩ := h
  obtain ⟨b, o, cs, rfl, _⟩ := hc i hi
  exact ⟨_, _, _, rfl⟩
theorem SlV.cell {α : Type} [GoRep α] {X : List Nat} {v : Value} {xs : List α} {i : Nat} (h : SlV X w v xs) (hi : i < xs.length) : ∃ cs, GoRep.rep X w xs[i] cs ∧ ∀ j u, cs[j]? = some u → w.cell? (elAddr v i (GoRep.k α) j) = some u := by
  obtain ⟨p, c, rfl, _, _, _, hc⟩ := h
  obtain ⟨b, o, cs, rfl, _, _, hr, hcell⟩ := hc i hi
  exact ⟨cs, hr, fun j u hu => by simpa [elAddr] using hcell j u hu⟩
theorem SlV.cellF {α : Type} [Flat α] {X : List Nat} {v : Value} {xs : List α} {i : Nat} (h : SlV X w v xs) (hi : i < xs.length) {j : Nat} {u : Value} (hu : (Flat.enc xs[i])[j]? = some u) : w.cell? (elAddr v i (Flat.k α) j) = some u := by
  obtain ⟨cs, hr, hc⟩ := h.cell hi
  have hr' : cs = Flat.enc xs[i] := hr
  subst hr'
  exact hc j u hu

/-- one cell of an element -/
theorem PR_load_el {α : Type} [Flat α] {X : List Nat} {xs : List α} {v u : Value} {i j k : Nat} {x : Operand} {t : TypeId} {D : TypeDesc} [hu : Und P t D] (hA : aggB D = false) (hx : ev e x = some (.pointer (some (elAddr v i k j))))
    (hs : SlV X w v xs) (hi : i < xs.length) (hk : k = Flat.k α) (hc : (Flat.enc xs[i])[j]? = some u) : PR P n ⟨d, .load t x, ty, pos, af, g⟩ e w u :=
  PR_load1 hA hx (by subst hk; exact hs.cellF hi hc)
/-- some cells of an element: a field that is a struct, or the whole -/
theorem PR_loadN_el {α : Type} [Flat α] {X : List Nat} {xs : List α} {v : Value} {us : List Value} {i j k m : Nat} {x : Operand} {t : TypeId} {D : TypeDesc} [hu : Und P t D] (hA : aggB D = true) [hsz : Siz P t m] (hx : ev e x = some (.pointer (some (elAddr v i k j))))
    (hs : SlV X w v xs) (hi : i < xs.length) (hk : k = Flat.k α) (hl : us.length = m) (hc : ((Flat.enc xs[i]).drop j).take m = us) : PR P n ⟨d, .load t x, ty, pos, af, g⟩ e w (.agg us.toArray) := by
  obtain ⟨p, l, c, hv⟩ := hs.isSome hi
  have hcell := fun (q : Nat) (u : Value) (h : (Flat.enc xs[i])[q]? = some u) => hs.cellF hi h
  subst hv
  refine PR_loadN hA hx hl (fun q u hq => ?_)
  have h1 : (Flat.enc xs[i])[j + q]? = some u := by
    rw [← hc, List.getElem?_take] at hq
    split at hq
    · simpa using hq
    · cases hq
  have := hcell (j + q) u h1
  subst hk
  simpa [elAddr, Nat.add_assoc] using this
theorem PR_load_elA {α : Type} [Flat α] {X : List Nat} {xs : List α} {v : Value} {i k : Nat} {x : Operand} {t : TypeId} {D : TypeDesc} [hu : Und P t D] (hA : aggB D = true) [hsz : Siz P t k] (hx : ev e x = some (.pointer (some (elAddr v i k 0))))
    (hs : SlV X w v xs) (hi : i < xs.length) (hk : k = Flat.k α) : PR P n ⟨d, .load t x, ty, pos, af, g⟩ e w (.agg (Flat.enc xs[i]).toArray) :=
  PR_loadN_el hA hx hs hi hk (by rw [hk]; exact Flat.len _) (by rw [List.drop_zero, List.take_of_length_le (by rw [hk, Flat.len]; exact Nat.le_refl _)])

theorem PR_load_blk {b T o : Nat} {cs : List Value} {u : Value} {x : Operand} {t : TypeId} {D : TypeDesc} [hu : Und P t D] (hA : aggB D = false) (hx : ev e x = some (.pointer (some ⟨b, o, none⟩))) (hb : Blk w b T cs) (hc : cs[o]? = some u) :
    PR P n ⟨d, .load t x, ty, pos, af, g⟩ e w u := PR_load1 hA hx (hb.cell hc)
theorem PR_loadN_blk {b T o m : Nat} {cs us : List Value} {x : Operand} {t : TypeId} {D : TypeDesc} [hu : Und P t D] (hA : aggB D = true) [hsz : Siz P t m] (hx : ev e x = some (.pointer (some ⟨b, o, none⟩))) (hb : Blk w b T cs)
    (hl : us.length = m) (hc : (cs.drop o).take m = us) : PR P n ⟨d, .load t x, ty, pos, af, g⟩ e w (.agg us.toArray) := by
  refine PR_loadN hA hx hl (fun q u hq => hb.cell ?_)
  rw [← hc, List.getElem?_take] at hq
  split at hq
  · simpa using hq
  · cases hq
/-- a whole block -/
theorem PR_load_blkA {b T m : Nat} {cs : List Value} {x : Operand} {t : TypeId} {D : TypeDesc} [hu : Und P t D] (hA : aggB D = true) [hsz : Siz P t m] (hx : ev e x = some (.pointer (some ⟨b, 0, none⟩))) (hb : Blk w b T cs)
    (hl : cs.length = m) : PR P n ⟨d, .load t x, ty, pos, af, g⟩ e w (.agg cs.toArray) :=
  PR_loadN_blk hA hx hb hl (by rw [List.drop_zero, List.take_of_length_le (by omega)])

/-! ### new blocks -/
def NewBlk (w : World) (T : TypeId) (cs : List Value) (v : Value) (w' : World) : Prop := ∃ b, v = .pointer (some ⟨b, 0, none⟩) ∧ w.heap.size ≤ b ∧ Blk w' b T cs ∧ Stp [] w w'

theorem newBlk (w : World) (T : TypeId) (cs : List Value) : NewBlk w T cs (.pointer (some ⟨w.heap.size, 0, none⟩)) (w.alloc (.cells cs.toArray T)) :=
  ⟨_, rfl, Nat.le_refl _, heap_alloc_new w _, Stp.alloc _ _ _⟩

theorem OE_value {o : Oper} {G : Value → World → Prop} {v : Value} {w' : World} (h : ∀ a, Has n e a → (execOp a.eval o).run P w = .ok (.value v) w') (hg : G v w') : OE P n o e w G :=
  ⟨fun a ha Q => by unfold Oper.wp; rw [h a ha]; exact ⟨v, rfl, hg⟩⟩
theorem OE_skip {o : Oper} {G : Value → World → Prop} {w' : World} (h : ∀ a, Has n e a → (execOp a.eval o).run P w = .ok .skip w') (hg : G undef w') : OE P n o e w G :=
  ⟨fun a ha Q => by unfold Oper.wp; rw [h a ha]; exact ⟨undef, rfl, hg⟩⟩
theorem OE.mono {o : Oper} {G G' : Value → World → Prop} (h : OE P n o e w G) (hg : ∀ v w', G v w' → G' v w') : OE P n o e w G' :=
  ⟨fun a ha Q => Oper.wp_mono (fun a' w' ⟨v, h1, h2⟩ => ⟨v, h1, hg v w' h2⟩) (h.h a ha Q)⟩

theorem OE_alloc {t : TypeId} {z : Value} [hz : Zer P t z] : OE P n ⟨d, .alloc t, ty, pos, af, g⟩ e w (NewBlk w t z.cells.toList) :=
  OE_value (v := .pointer (some ⟨w.heap.size, 0, none⟩)) (w' := w.alloc (.cells z.cells t)) (fun a ha => by
    simp [execOp, Instr.alloc, Zer.run, newVar, newRow, newObj]; rfl) (by simpa using newBlk w t z.cells.toList)
theorem OE_box {t : TypeId} {x : Operand} {v : Value} (hx : ev e x = some v) : OE P n ⟨d, .box t x, ty, pos, af, g⟩ e w (NewBlk w t v.cells.toList) :=
  OE_value (v := .pointer (some ⟨w.heap.size, 0, none⟩)) (w' := w.alloc (.cells v.cells t)) (fun a ha => by
    simp [execOp, Instr.box, ha.ev hx, newVar, newRow, newObj]; rfl) (by simpa using newBlk w t v.cells.toList)

/-! ### stores into a block -/
theorem setRow_stp (w : World) (b : Nat) (cs : Array Value) : Stp [b] w (w.setRow b cs) :=
  ⟨rfl, rfl, rfl, by simp, fun k hk hn => setRow_other w b k cs (by simpa using hn)⟩

theorem OE_store {b T o m t : Nat} {cs us : List Value} {x y : Operand} {u : Value} [hsz : Siz P t m] (hx : ev e x = some (.pointer (some ⟨b, o, none⟩))) (hy : ev e y = some u) (hu : u.cells.toList = us) (hm : us.length = m) (h1 : ∀ c ∈ us, c.oneCell' = true)
    (hb : Blk w b T cs) (hl : o + us.length ≤ cs.length) : OE P n ⟨d, .store t x y, ty, pos, af, g⟩ e w (fun _ w' => Stp [b] w w' ∧ Blk w' b T (cs.take o ++ us ++ cs.drop (o + us.length))) := by
  have hst := run_storeCells_at P b o T us 0 cs.toArray w hb (by simpa using hl) h1
  refine OE_skip (w' := w.setRow b (cs.take o ++ us ++ cs.drop (o + us.length)).toArray) (fun a ha => ?_) ⟨setRow_stp _ _ _, setRow_heap w b cs.toArray _ T (0, 0) hb⟩
  have hcs : u.cells.size = m := by rw [← hm, ← hu, Array.length_toList]
  simp only [Nat.add_zero] at hst
  simp [execOp, ha.ev hx, ha.ev hy, Instr.storeAt, Instr.sureAddr, storeVar, Siz.run, hcs, hu, hst]
/-- the whole block is written -/
theorem OE_storeA {b T m t : Nat} {cs us : List Value} {x y : Operand} {u : Value} [hsz : Siz P t m] (hx : ev e x = some (.pointer (some ⟨b, 0, none⟩))) (hy : ev e y = some u) (hu : u.cells.toList = us) (hm : us.length = m) (h1 : ∀ c ∈ us, c.oneCell' = true)
    (hb : Blk w b T cs) (hl : us.length = cs.length) : OE P n ⟨d, .store t x y, ty, pos, af, g⟩ e w (fun _ w' => Stp [b] w w' ∧ Blk w' b T us) :=
  (OE_store hx hy hu hm h1 hb (by omega)).mono (fun _ w' ⟨h2, h3⟩ => ⟨h2, by simpa [hl] using h3⟩)
/-- one cell is written -/
theorem OE_store1 {b T o t : Nat} {cs : List Value} {x y : Operand} {u : Value} [hsz : Siz P t 1] (hx : ev e x = some (.pointer (some ⟨b, o, none⟩))) (hy : ev e y = some u) (hu : u.cells.toList = [u]) (h1 : u.oneCell' = true)
    (hb : Blk w b T cs) (hl : o < cs.length) : OE P n ⟨d, .store t x y, ty, pos, af, g⟩ e w (fun _ w' => Stp [b] w w' ∧ Blk w' b T (cs.set o u)) :=
  (OE_store hx hy hu rfl (by simpa using h1) hb (by simp; omega)).mono (fun _ w' ⟨h2, h3⟩ => ⟨h2, by
    rw [List.set_eq_take_append_cons_drop, if_pos hl]
    simpa using h3⟩)
end rules

/-! ### rows that grow -/
def ob : Value → List Nat
  | .slice (some a) _ _ => [a.block]
  | _ => []
theorem ob_own (v : Value) : v.ownBlock.toList = ob v := by
  cases v <;> try rfl
  rename_i a _ _
  cases a <;> rfl

def Row {α : Type} [GoRep α] (X : List Nat) (w : World) (base T : Nat) (v : Value) (xs : List α) : Prop :=
  ∃ css : List (List Value), css.length = xs.length ∧ (∀ i (h : i < xs.length) (h' : i < css.length), GoRep.rep (ob v ++ X) w xs[i] css[i]) ∧ w.ownsRow base T (GoRep.k α) v xs.length css.flatten

section row
variable {α : Type} [GoRep α] {X : List Nat} {w w' : World} {base T : Nat} {v : Value} {xs : List α}

theorem Row.nil : Row (α := α) X w base T (.slice none 0 0) [] :=
  ⟨[], rfl, fun i h => absurd h (Nat.not_lt_zero _), by simpa using World.ownsRow_nil w base T (GoRep.k α)⟩
theorem Row.ob_le (h : Row X w base T v xs) : ∀ b ∈ ob v, base ≤ b ∧ b < w.heap.size := by
  obtain ⟨css, _, _, ho⟩ := h
  intro b hb
  rw [← ob_own] at hb
  exact ho.lt b (by simpa using hb)
theorem Row.ext {S X' : List Nat} (h : Row X w base T v xs) (hS : Stp S w w') (h1 : ∀ b ∈ S, b ∈ X ∧ b ∉ ob v) (h2 : ∀ b ∈ X', b ∈ X ∨ w.heap.size ≤ b) : Row X' w' base T v xs := by
  obtain ⟨css, hl, hr, ho⟩ := h
  refine ⟨css, hl, fun i hi hi' => GoRep.ext (hr i hi hi') hS (fun b hb => by simp [(h1 b hb).1]) (fun b hb => ?_), ?_⟩
  · simp only [List.mem_append] at hb ⊢
    rcases hb with hb | hb
    · exact .inl (.inl hb)
    · rcases h2 b hb with h | h
      · exact .inl (.inr h)
      · exact .inr h
  · refine ⟨ho.1, ?_⟩
    rcases ho.2 with hn | ⟨q, cap, cur, rfl, hb, hg, rest⟩
    · exact .inl hn
    · refine .inr ⟨q, cap, cur, rfl, hb, ?_, rest⟩
      rw [hS.block q (Array.getElem?_eq_some_iff.1 hg).1 (fun hq => (h1 q hq).2 (by simp [ob]))]
      exact hg
theorem Row.up (h : Row X w base T v xs) (hS : Stp [] w w') : Row X w' base T v xs := h.ext hS (by simp) (fun b hb => .inl hb)

theorem flatten_at {k : Nat} : ∀ (css : List (List Value)), (∀ c ∈ css, c.length = k) → ∀ (i : Nat) (hi : i < css.length) (j : Nat) (u : Value), css[i][j]? = some u → css.flatten[i * k + j]? = some u
  | [], _, i, hi, _, _, _ => absurd hi (Nat.not_lt_zero _)
  | c :: r, hk, 0, _, j, u, hu => by
    have hj : j < c.length := (List.getElem?_eq_some_iff.1 hu).1
    simp only [List.flatten_cons, Nat.zero_mul, Nat.zero_add]
    rw [List.getElem?_append_left hj]
    exact hu
  | c :: r, hk, i + 1, hi, j, u, hu => by
    have ih := flatten_at r (fun c hc => hk c (by simp [hc])) i (by simpa using hi) j u (by simpa using hu)
    have hc := hk c (by simp)
    simp only [List.flatten_cons]
    rw [List.getElem?_append_right (by rw [hc, Nat.succ_mul]; omega), hc]
    rw [show (i + 1) * k + j - k = i * k + j by rw [Nat.succ_mul]; omega]
    exact ih

/-- a row reads as a slice -/
theorem Row.slv (h : Row X w base T v xs) (hX : ∀ b ∈ X, b < base) : SlV X w v xs := by
  obtain ⟨css, hl, hr, ho⟩ := h
  have hk : ∀ c ∈ css, c.length = GoRep.k α := by
    intro c hc
    obtain ⟨i, hi, rfl⟩ := List.getElem_of_mem hc
    exact GoRep.len (hr i (by omega) hi)
  rcases ho.2 with ⟨rfl, hn⟩ | ⟨q, cap, cur, rfl, hb, hg, hnc, hcm, hcs, ht⟩
  · exact ⟨none, 0, by rw [hn], by omega, by simp [maxLen], fun _ => rfl, fun i hi => by omega⟩
  · refine ⟨some ⟨q, 0, none⟩, cap, rfl, hnc, hcm, fun h => by simp at h, fun i hi => ?_⟩
    refine ⟨q, 0, css[i]'(by omega), rfl, (Array.getElem?_eq_some_iff.1 hg).1, fun hx => by have := hX q hx; omega, ?_, fun j u hu => ?_⟩
    · exact GoRep.ext (hr i hi (by omega)) (Stp.refl [] w) (by simp) (fun b hb => .inl (by simp [hb]))
    · have h1 := flatten_at css hk i (by omega) j u hu
      rw [← ht, List.getElem?_take] at h1
      split at h1
      · have h2 : cur[i * GoRep.k α + j]? = some u := by simpa using h1
        rw [Nat.zero_add, cell_of_row w q _ cur T (0, 0) hg]
        exact h2
      · cases h1

/-- one more fact on append: the new row lies in the old block or in a new one -/
theorem append_block {P : Program} {t ty e size bytes : Nat} {i : TypeInfo} {z : Value} (ht : P.underlying t = some (.slice e)) (hi : P.info? e = some i) (hz : i.zero = some z)
    (hsize : i.size = size) (hby : i.bytes = bytes) {v : Value} {n : Nat} {cs : List Value} (hown : w.ownsRow base e size v n cs)
    {a : Addr} {m c : Nat} {news : List Value} (hl : news.length = m * size) (hnews : ∀ j u, news[j]? = some u → w.cell? (a.add j) = some u) (h1 : ∀ u ∈ news, u.oneCell' = true)
    (h63 : n + m ≤ maxLen) (hbytes : (n + m) * bytes ≤ 140737488355328) {v' : Value} {w' : World} (hr : (Builtin.append_ #[t, t] ty #[v, .slice (some a) m c]).run P w = .ok v' w') :
    ∀ b ∈ ob v', b ∈ ob v ∨ w.heap.size ≤ b := by
  subst hsize
  subst hby
  have hsmall : n + m ≤ 9223372036854775807 := by simp only [maxLen] at h63; omega
  rcases hown.2 with ⟨rfl, rfl⟩ | ⟨q, cap, cur, rfl, hbg, hg, hnc, hcm, hcs, htake⟩
  · by_cases hm : m = 0
    · subst hm
      have hn : news = [] := List.eq_nil_of_length_eq_zero (by simpa using hl)
      subst hn
      have : (Builtin.append_ #[t, t] ty #[.slice none 0 0, .slice (some a) 0 c]).run P w = .ok (.slice none 0 0) w := by
        simp [Builtin.append_, run_underlying ht, sizeOf, typeInfo, hi, Builtin.lenOf, Builtin.firstCells, loadCells, loadCellsFrom]
      rw [this] at hr
      cases hr
      simp [ob]
    · have h := run_append_nil (P := P) w t ty e i z ht hi hz a m c news hl hnews (by omega) (by omega) (by have hb := hbytes; simp only [Nat.zero_add] at hb; omega)
      rw [h] at hr
      cases hr
      simp [ob]
  · by_cases hroom : n + m ≤ cap
    · have hfit : n * i.size + news.length ≤ cur.size := by rw [hl, hcs, ← Nat.add_mul]; exact Nat.mul_le_mul_right _ hroom
      have h := run_append_room (P := P) w t ty e i ht hi q n cap cur hg a m c news hl hnews h1 hroom hfit
      rw [h] at hr
      cases hr
      simp [ob]
    · have holds : ∀ j u, cs[j]? = some u → w.cell? ((⟨q, 0, none⟩ : Addr).add j) = some u := hown.cells (g := q) rfl
      have h := run_append_grow (P := P) w t ty e i z ht hi hz ⟨q, 0, none⟩ n cap cs hown.1 holds a m c news hl hnews (by omega) (by omega) (growslice_fits (by omega) hbytes)
      rw [h] at hr
      cases hr
      simp [ob]

/-- what append leaves -/
def Appended (X : List Nat) (w : World) (base T : Nat) (v : Value) (xs ys : List α) (v' : Value) (w' : World) : Prop :=
  Row X w' base T v' (xs ++ ys) ∧ Stp (ob v) w w' ∧ ∀ b ∈ ob v', b ∈ ob v ∨ w.heap.size ≤ b

theorem OE_append {P : Program} {n : Nat} {e : Env} {d : Option Nat} {ty : TypeId} {pos : String} {af : Array Edge} {g : Option (Nat × Bool)} {x y : Operand} {t bytes : Nat} {u : Value} {z : Value} {ys : List α}
    [ht : Und P t (.slice T)] [hk : Siz P T (GoRep.k α)] [hb : Byt P T bytes] [hz : Zer P T z] (hzs : z.cells.size = GoRep.k α) (hpos : 0 < GoRep.k α)
    (hx : ev e x = some v) (hy : ev e y = some u) (hrow : Row X w base T v xs) (hys : SlV (ob v ++ X) w u ys) (hbytes : (xs.length + ys.length) * bytes ≤ 140737488355328) (hlen : xs.length + ys.length ≤ maxLen) (hbase : base ≤ w.heap.size) :
    OE P n ⟨d, .call { callee := .builtin .append, args := #[x, y], argTypes := #[t, t] }, ty, pos, af, g⟩ e w (Appended X w base T v xs ys) := by
  obtain ⟨i, hi, hi1, hi2, hi3⟩ : ∃ i, P.info? T = some i ∧ i.size = GoRep.k α ∧ i.bytes = bytes ∧ i.zero = some z := by
    have a1 := hk.h
    have a2 := hb.h
    have a3 := hz.h
    cases hi : P.info? T with
    | none => simp [hi] at a1
    | some i => exact ⟨i, rfl, by simpa [hi] using a1, by simpa [hi] using a2, by simpa [hi] using a3⟩
  have hrow0 := hrow
  obtain ⟨css, hl, hr, ho⟩ := hrow
  obtain ⟨p, c, rfl, hyl, hym, hyn, hyc⟩ := hys
  -- the cells of the source
  have hsrc : ∃ dss : List (List Value), dss.length = ys.length ∧ (∀ j (h : j < ys.length) (h' : j < dss.length), GoRep.rep (ob v ++ X) w ys[j] dss[j] ∧ ∃ b o, p = some ⟨b, o, none⟩ ∧ ∀ q u, dss[j][q]? = some u → w.cell? ⟨b, o + j * GoRep.k α + q, none⟩ = some u) := by
    have : ∀ j : Fin ys.length, ∃ ds : List Value, GoRep.rep (ob v ++ X) w ys[j] ds ∧ ∃ b o, p = some ⟨b, o, none⟩ ∧ ∀ q u, ds[q]? = some u → w.cell? ⟨b, o + j * GoRep.k α + q, none⟩ = some u := by
      intro j
      obtain ⟨b, o, cs, h1, h2, h3, h4, h5⟩ := hyc j j.2
      exact ⟨cs, h4, b, o, h1, h5⟩
    obtain ⟨f, hf⟩ := Classical.axiomOfChoice this
    refine ⟨List.ofFn f, by simp, fun j h h' => ?_⟩
    have := hf ⟨j, h⟩
    simpa using this
  obtain ⟨dss, hdl, hd⟩ := hsrc
  have hdk : ∀ c ∈ dss, c.length = GoRep.k α := by
    intro c hc
    obtain ⟨q, hq, rfl⟩ := List.getElem_of_mem hc
    exact GoRep.len (hd q (by omega) hq).1
  have hflen : ∀ (l : List (List Value)), (∀ c ∈ l, c.length = GoRep.k α) → l.flatten.length = l.length * GoRep.k α := by
    intro l
    induction l with
    | nil => intro _; simp
    | cons c r ih => intro h; simp only [List.flatten_cons, List.length_append, List.length_cons, Nat.succ_mul]; rw [ih (fun c hc => h c (by simp [hc])), h c (by simp)]; omega
  have hone : ∀ u ∈ dss.flatten, u.oneCell' = true := by
    intro u hu
    obtain ⟨c, hc, huc⟩ := List.mem_flatten.1 hu
    obtain ⟨q, hq, rfl⟩ := List.getElem_of_mem hc
    exact GoRep.one (hd q (by omega) hq).1 u huc
  -- the end, out of what the law gives
  have fin : ∀ (v' : Value) (w' : World), w'.ownsRow base T (GoRep.k α) v' (xs.length + ys.length) (css.flatten ++ dss.flatten) → Stp (ob v) w w' → (∀ b ∈ ob v', b ∈ ob v ∨ w.heap.size ≤ b) → Appended X w base T v xs ys v' w' := by
    intro v' w' ho' hS hb'
    have hX : ∀ b ∈ ob v' ++ X, b ∈ ob v ++ X ∨ w.heap.size ≤ b := by
      intro b hb
      simp only [List.mem_append] at hb ⊢
      rcases hb with hb | hb
      · rcases hb' b hb with h | h
        · exact .inl (.inl h)
        · exact .inr h
      · exact .inl (.inr hb)
    have hSX : ∀ b ∈ ob v, b ∈ ob v ++ X := fun b hb => by simp [hb]
    refine ⟨⟨css ++ dss, by simp [hl, hdl], fun i hi hi' => ?_, ?_⟩, hS, hb'⟩
    · by_cases hlt : i < xs.length
      · rw [List.getElem_append_left hlt, List.getElem_append_left (by omega)]
        exact GoRep.ext (hr i hlt (by omega)) hS hSX hX
      · have hi2 : i < xs.length + ys.length := by simpa using hi
        rw [List.getElem_append_right (by omega), List.getElem_append_right (by omega)]
        have := GoRep.ext (hd (i - xs.length) (by omega) (by omega)).1 hS hSX hX
        simpa [hl] using this
    · rw [List.flatten_append]
      simpa using ho'
  cases p with
  | none =>
    have hy0 : ys.length = 0 := by
      cases hys : ys with
      | nil => rfl
      | cons y r =>
        obtain ⟨b, o, cs, hp, _⟩ := hyc 0 (by simp [hys])
        simp at hp
    have hc0 : c = 0 := hyn rfl
    subst hc0
    have hd0 : dss = [] := List.eq_nil_of_length_eq_zero (by omega)
    subst hd0
    have hrun := run_append_owned_none (P := P) w base t ty T i (GoRep.k α) ht.h hi v xs.length css.flatten ho
    refine OE_value (v := v) (w' := w) (fun a ha => ?_) (fin v w (by simpa [hy0] using ho) (Stp.refl _ _) (fun b hb => .inl hb))
    rw [hy0] at hy
    simp [execOp, resolve, invoke, builtin, ha.ev hx, ha.ev hy, hrun]
  | some a =>
    have hnews : ∀ j u, dss.flatten[j]? = some u → w.cell? (a.add j) = some u := by
      intro j u hj
      have hjl : j < dss.flatten.length := (List.getElem?_eq_some_iff.1 hj).1
      rw [hflen dss hdk] at hjl
      have hq : j / GoRep.k α < dss.length := (Nat.div_lt_iff_lt_mul hpos).2 hjl
      obtain ⟨h1, b, o, hp, hcell⟩ := hd (j / GoRep.k α) (by omega) hq
      simp only [Option.some.injEq] at hp
      subst hp
      have hmod : j % GoRep.k α < GoRep.k α := Nat.mod_lt _ hpos
      have hj2 : j / GoRep.k α * GoRep.k α + j % GoRep.k α = j := by rw [Nat.mul_comm]; exact Nat.div_add_mod j _
      have hlk : dss[j / GoRep.k α].length = GoRep.k α := hdk _ (List.getElem_mem hq)
      have hat : dss[j / GoRep.k α][j % GoRep.k α]? = some (dss[j / GoRep.k α][j % GoRep.k α]'(by omega)) := List.getElem?_eq_getElem (by omega)
      have h2 := flatten_at dss hdk _ hq _ _ hat
      rw [hj2, hj] at h2
      have h3 := hcell _ _ hat
      rw [Addr.add_lit]
      rw [Nat.add_assoc, hj2] at h3
      rw [h3, h2]
    have hl2 : dss.flatten.length = ys.length * GoRep.k α := by rw [hflen dss hdk, hdl]
    obtain ⟨v', w', hrun, h2, h3, h4⟩ := run_append_own (P := P) w base t ty T i z (GoRep.k α) bytes ht.h hi hi3 hi1 hi2 hzs hpos v xs.length css.flatten ho a ys.length c dss.flatten hl2 hnews hone hlen hbytes hbase
    have hblk := append_block (P := P) ht.h hi hi3 hi1 hi2 ho hl2 hnews hone hlen hbytes hrun
    have hS : Stp (ob v) w w' := by rw [← ob_own]; exact Stp.of_grown h3
    refine OE_value (v := v') (w' := w') (fun a ha => ?_) (fin v' w' h2 hS hblk)
    simp [execOp, resolve, invoke, builtin, ha.ev hx, ha.ev hy, hrun]
end row
end Go.Eng

/-
The walk engine, part 4: regions that draw their order. The operations are taken in one order of our own; each either yields one value in every world that may come up, or is the only one that is ready.
-/
namespace Go.Eng
open Go Go.RowKit Go.Proofs
set_option linter.unusedVariables false

section any
variable {P : Program} {ops : Array Oper} {md : Region.Mode} {S : List Nat} {Lt : Nat → Bool}

theorem wp_noQ {o : Oper} {a : Act} {w : World} {K : Act → World → Prop} {Q : Exit → Act → World → Prop} (h : o.wp P a w K (fun _ _ _ => False)) : o.wp P a w K Q := by
  unfold Oper.wp at *
  generalize (execOp a.eval o).run P w = r at *
  cases r with
  | ok n w' =>
    cases n <;> simp only [Oper.upon] at h ⊢
    case enter f args =>
      refine Calls.mono h (fun e w'' he => ?_)
      cases e with
      | returned v => exact he
      | panicked c => exact he.elim
      | outgrown => obtain ⟨_, _, hf⟩ := he; exact hf.elim
    all_goals exact h
  | halt x w' => cases x <;> simp only [Oper.upon] at h

theorem wpOp_noQ {i : Nat} {K : Act → World → Prop} {Q : Exit → Act → World → Prop} {a : Act} {w : World} (h : wpOp P ops (fun _ _ _ => False) i K a w) : wpOp P ops Q i K a w := by
  unfold wpOp at *
  cases ho : ops[i]? with
  | none => simp only [ho] at h ⊢; exact h
  | some o =>
    simp only [ho] at h ⊢
    split
    · rename_i hw
      simp only [hw, if_true] at h
      rcases h with h | ⟨_, _, _, hf⟩
      · exact .inl (wp_noQ h)
      · exact hf.elim
    · rename_i hw; simp only [hw] at h; exact h

/-- whatever order is picked from here on; the old blocks stand but behind the operations of Lt -/
def wpAnyE (P : Program) (md : Region.Mode) (ops : Array Oper) (S : List Nat) (Lt : Nat → Bool) (Z : Act → World → Prop) : Nat → Array Bool → Act → World → Prop
  | 0, listed, a, w => Region.ready md ops listed = [] ∧ Z a w
  | fuel + 1, listed, a, w =>
    (Region.ready md ops listed = [] → Z a w) ∧
    ∀ i ∈ Region.ready md ops listed, wpOp P ops (fun _ _ _ => False) i (fun a' w' => (Stp S w w' ∨ Lt i = true) ∧ wpAnyE P md ops S Lt Z fuel (listed.setIfInBounds i true) a' w') a w

theorem wpAny_of_E {Z : Act → World → Prop} {Q : Exit → Act → World → Prop} (hZ : ∀ a w, Z a w → Q .normal a w) : ∀ (fuel : Nat) (listed : Array Bool) (a : Act) (w : World),
    wpAnyE P md ops S Lt Z fuel listed a w → wpAny P md ops Q fuel listed a w
  | 0, _, _, _, h => ⟨h.1, hZ _ _ h.2⟩
  | fuel + 1, _, _, _, h => ⟨fun h0 => hZ _ _ (h.1 h0), fun i hi => wpOp_mono (fun a' w' hk => wpAny_of_E hZ fuel _ a' w' hk.2) (wpOp_noQ (h.2 i hi))⟩

/-- operation o yields v in every world to which R leads -/
def YE (P : Program) (ops : Array Oper) (R : World → World → Prop) (o : Oper) (v : Value) (a : Act) (w : World) : Prop :=
  (Region.wanted o (yielded ops a.tmps) = true ∧ ∀ w', R w w' → (execOp a.eval o).run P w' = .ok (.value v) w') ∨
  (Region.wanted o (yielded ops a.tmps) = false ∧ v = undef)

theorem YE.same {R : World → World → Prop} {o : Oper} {v : Value} {a a' : Act} {w : World} (hy : YE P ops R o v a w) (he : execOp a'.eval o = execOp a.eval o)
    (hw : Region.wanted o (yielded ops a'.tmps) = Region.wanted o (yielded ops a.tmps)) : YE P ops R o v a' w := by
  unfold YE at *
  rw [he, hw]
  exact hy

theorem first_E {Z : Act → World → Prop} {R : World → World → Prop} (hR0 : ∀ w, R w w) (hRt : ∀ a b c, R a b → R b c → R a c) {i : Nat} {oi : Oper} {v : Value} (hi : ops[i]? = some oi)
    (hRs : ∀ j oj, ops[j]? = some oj → (∀ e ∈ oj.after, Region.binds md e = true → e.on ≠ i) → j ≠ i → ∀ w w', (Stp S w w' ∨ Lt j = true) → R w w')
    (hsel : ∀ (j : Nat) (o : Oper) cs b, ops[j]? = some o → o.op ≠ .select cs b) :
    ∀ (fuel : Nat) (listed : Array Bool) (a : Act) (w : World),
      (∀ j oj, ops[j]? = some oj → j ≠ i → listed.getD j true = false → (∀ e ∈ oj.after, Region.binds md e = true → e.on ≠ i) → oi.apart ops oj = true) →
      (Stp S w w ∨ Lt i = true → True) → i ∈ Region.ready md ops listed → YE P ops R oi v a w →
      wpAnyE P md ops S Lt Z fuel (listed.setIfInBounds i true) (a.put oi.dst v) w → wpAnyE P md ops S Lt Z (fuel + 1) listed a w := by
  have now : ∀ (fuel : Nat) (listed : Array Bool) (a : Act) (w : World), YE P ops R oi v a w → wpAnyE P md ops S Lt Z fuel (listed.setIfInBounds i true) (a.put oi.dst v) w →
      wpOp P ops (fun _ _ _ => False) i (fun a' w' => (Stp S w w' ∨ Lt i = true) ∧ wpAnyE P md ops S Lt Z fuel (listed.setIfInBounds i true) a' w') a w := by
    intro fuel listed a w hy H
    unfold wpOp
    simp only [hi]
    rcases hy with ⟨hw, hv⟩ | ⟨hw, rfl⟩
    · simp only [hw, if_true, Oper.wp, hv w (hR0 w), Oper.upon]; exact .inl ⟨.inl (Stp.refl _ _), H⟩
    · simp only [hw, Bool.false_eq_true, if_false]; exact ⟨.inl (Stp.refl _ _), H⟩
  intro fuel
  induction fuel with
  | zero =>
    intro listed a w _ _ hr hy H
    refine ⟨fun h => (by rw [h] at hr; cases hr), fun j hj => ?_⟩
    by_cases hji : j = i
    · subst hji; exact now _ _ _ _ hy H
    · have := ready_mono hj hji
      rw [H.1] at this
      cases this
  | succ fuel ih =>
    intro listed a w hfree hx hr hy H
    refine ⟨fun h => (by rw [h] at hr; cases hr), fun j hj => ?_⟩
    by_cases hji : j = i
    · subst hji; exact now _ _ _ _ hy H
    · have h1 := H.2 j (ready_mono hj hji)
      obtain ⟨hjun, oj, hoj, hall⟩ := mem_ready.1 hj
      have hnot : ∀ e ∈ oj.after, Region.binds md e = true → e.on ≠ i := fun e he hb heq => by
        have h1 := hall e he hb
        have h0 := (mem_ready.1 hr).1
        rw [heq] at h1
        rcases Nat.lt_or_ge i listed.size with h' | h'
        · simp [h'] at h0 h1; rw [h0] at h1; cases h1
        · simp [Array.getElem?_eq_none h'] at h1
      have hap := hfree j oj hoj hji hjun hnot
      obtain ⟨p1, p2, p3⟩ := Oper.apart_spec hap
      have keep : ∀ (a : Act), YE P ops R oi v a w → ∀ u, YE P ops R oi v (a.put oj.dst u) w := fun a hy u =>
        hy.same (execOp_put oi (fun cs b => hsel i oi cs b hi) a oj.dst u p3) (wanted_put oi a oj.dst u p3)
      have keepD : ∀ (a : Act) d, YE P ops R oi v a w → YE P ops R oi v { a with defers := d :: a.defers } w := fun a d hy => hy.same rfl rfl
      have later : ∀ (a : Act) w', (Stp S w w' ∨ Lt j = true) → YE P ops R oi v a w → YE P ops R oi v a w' := fun a w' hs hy => by
        rcases hy with ⟨hw, hv⟩ | hw
        · exact .inl ⟨hw, fun w'' h'' => hv w'' (hRt _ _ _ (hRs j oj hoj hnot hji w w' hs) h'')⟩
        · exact .inr hw
      have hfree' : ∀ k ok, ops[k]? = some ok → k ≠ i → (listed.setIfInBounds j true).getD k true = false →
          (∀ e ∈ ok.after, Region.binds md e = true → e.on ≠ i) → oi.apart ops ok = true := fun k ok hk hki hun hno => by
        refine hfree k ok hk hki ?_ hno
        by_cases hjk : j = k
        · subst hjk; exact hjun
        · rw [getD_set_ne true hjk] at hun; exact hun
      have fin : ∀ a' w', YE P ops R oi v a' w → (Stp S w w' ∨ Lt j = true) ∧ wpAnyE P md ops S Lt Z fuel ((listed.setIfInBounds i true).setIfInBounds j true) (a'.put oi.dst v) w' →
          (Stp S w w' ∨ Lt j = true) ∧ wpAnyE P md ops S Lt Z (fuel + 1) (listed.setIfInBounds j true) a' w' := by
        rintro a' w' hy' ⟨hs, hk⟩
        refine ⟨hs, ih _ a' w' hfree' (fun _ => trivial) (ready_mono hr (Ne.symm hji)) (later a' w' hs hy') ?_⟩
        rw [Array.setIfInBounds_comm _ _ hji]
        exact hk
      have hsj : ∀ cs b, oj.op ≠ .select cs b := fun cs b => hsel j oj cs b hoj
      unfold wpOp at *
      simp only [hoj] at *
      rw [wanted_put oj a oi.dst v p1] at h1
      split
      · rename_i hw
        simp only [hw, if_true] at h1
        rcases h1 with h1 | ⟨_, _, _, hf⟩
        case inr => exact hf.elim
        refine .inl ?_
        unfold Oper.wp at *
        rw [execOp_put oj hsj a oi.dst v p1] at h1
        generalize (execOp a.eval oj).run P w = r at *
        cases r with
        | ok n w' =>
          cases n <;> simp only [Oper.upon] at h1 ⊢
          case value u => exact fin _ _ (keep a hy u) (by rw [← Act.put_comm a v u p2]; exact h1)
          case skip => exact fin _ _ (keep a hy _) (by rw [← Act.put_comm a v undef p2]; exact h1)
          case defer d =>
            refine fin _ _ (keep _ (keepD a d hy) _) ?_
            rw [← Act.put_comm _ v undef p2, ← Act.put_defers]
            exact h1
          case enter f args =>
            refine Calls.mono h1 fun e w'' he => ?_
            cases e with
            | returned u => exact fin _ _ (keep a hy u) (by rw [← Act.put_comm a v u p2]; exact he)
            | panicked c => exact he
            | outgrown => exact he
          case row row args => exact Rows.mono h1 fun u w'' he => fin _ _ (keep a hy u) (by rw [← Act.put_comm a v u p2]; exact he)
        | halt x w' =>
          cases x <;> simp only [Oper.upon] at h1
      · rename_i hw
        simp only [hw] at h1
        exact fin _ _ (keep a hy _) (by rw [← Act.put_comm a v undef p2]; exact h1)
end any

/-! ### the order, and what a Bool asks of it -/
/-- 0: yields one value in every world; 1: in every world in which the old blocks stand; else: it alone is ready -/
def bound (ops : Array Oper) (Lt : List Nat) (i : Nat) : Bool :=
  Lt.all fun j => j == i || (match ops[j]? with | some oj => oj.after.any (fun e => Region.binds .any e && e.on == i) | none => true)
/-- the numbers of the bits that are set -/
def bits (m : Nat) : List Nat := (List.range 64).filter (fun j => m.testBit j)
def subs : List Nat → List (List Nat)
  | [] => [[]]
  | x :: r => subs r ++ (subs r).map (x :: ·)
/-- all of 'is' but those of 'rem' are listed -/
def lst (listed : Array Bool) (is rem : List Nat) : Array Bool := Array.ofFn (n := listed.size) fun j => listed[j] || (is.contains j.val && !rem.contains j.val)
/-- tags: below 100000 one operation; from there on a set of operations without order, as bits -/
def wt : List (Nat × Nat) → Nat
  | [] => 0
  | (_, k) :: r => (if k < 100000 then 1 else (bits (k - 100000)).length) + wt r
theorem wt_small {i k : Nat} {r : List (Nat × Nat)} (h : k < 100000) : wt ((i, k) :: r) = wt r + 1 := by simp [wt, h]; omega
/-- 'sk': an operation that was listed already, and whose place in the order is passed over -/
def checkS (ops : Array Oper) (Lt : List Nat) : List (Nat × Nat) → Option Nat → Array Bool → Bool
  | [], sk, listed => sk.isNone && (Region.ready .any ops listed).isEmpty
  | (i, 0) :: r, sk, listed => (Region.ready .any ops listed).contains i && Region.free .any ops listed i && checkS ops Lt r sk (listed.setIfInBounds i true)
  | (i, 1) :: r, sk, listed => (Region.ready .any ops listed).contains i && Region.free .any ops listed i && bound ops Lt i && checkS ops Lt r sk (listed.setIfInBounds i true)
  | (i, 2) :: r, sk, listed => if sk = some i then checkS ops Lt r none listed else Region.ready .any ops listed == [i] && checkS ops Lt r sk (listed.setIfInBounds i true)
  | (i, q + 3) :: r, sk, listed => if sk = some q ∧ q + 3 < 100000 then (Region.ready .any ops listed == [i] && checkS ops Lt r sk (listed.setIfInBounds i true)) else sk.isNone && if q + 3 < 100000 then (Region.ready .any ops listed == [i, q] && checkS ops Lt r none (listed.setIfInBounds i true) && Region.ready .any ops (listed.setIfInBounds q true) == [i] && checkS ops Lt r (some q) ((listed.setIfInBounds q true).setIfInBounds i true))
    else (subs (bits (q + 3 - 100000))).all (fun rem => rem.isEmpty || Region.ready .any ops (lst listed (bits (q + 3 - 100000)) rem) == rem) && checkS ops Lt r none (lst listed (bits (q + 3 - 100000)) [])
def checkD (ops : Array Oper) (Lt : List Nat) (ord : List (Nat × Nat)) (listed : Array Bool) : Bool := checkS ops Lt ord none listed
def delO (q : Nat) : List (Nat × Nat) → List (Nat × Nat)
  | [] => []
  | (i, 2) :: r => if i = q then r else (i, 2) :: delO q r
  | (i, 0) :: r => (i, 0) :: delO q r
  | (i, 1) :: r => (i, 1) :: delO q r
  | (i, k + 3) :: r => if k = q ∧ k + 3 < 100000 then (i, 2) :: delO q r else (i, k + 3) :: delO q r
theorem checkS_del {ops : Array Oper} {Lt : List Nat} {q : Nat} : ∀ (r : List (Nat × Nat)) (listed : Array Bool), checkS ops Lt r (some q) listed = true → checkS ops Lt (delO q r) none listed = true ∧ wt r = wt (delO q r) + 1
  | [], listed, h => by simp [checkS] at h
  | (i, 0) :: r, listed, h => by
    simp only [checkS, Bool.and_eq_true] at h
    obtain ⟨h1, h2⟩ := checkS_del r _ h.2
    simp only [delO, checkS, Bool.and_eq_true]
    exact ⟨⟨h.1, h1⟩, by simp [wt, h2]; omega⟩
  | (i, 1) :: r, listed, h => by
    simp only [checkS, Bool.and_eq_true] at h
    obtain ⟨h1, h2⟩ := checkS_del r _ h.2
    simp only [delO, checkS, Bool.and_eq_true]
    exact ⟨⟨h.1, h1⟩, by simp [wt, h2]; omega⟩
  | (i, 2) :: r, listed, h => by
    by_cases e : i = q
    · subst e
      simp only [checkS, if_pos] at h
      simp only [delO, if_pos]
      exact ⟨h, by simp [wt]; omega⟩
    · have e' : ¬ (some q = some i) := by simpa using fun h => e h.symm
      simp only [checkS, if_neg e', Bool.and_eq_true] at h
      obtain ⟨h1, h2⟩ := checkS_del r _ h.2
      simp only [delO, if_neg e, checkS]
      refine ⟨?_, by simp [wt, h2]; omega⟩
      rw [if_neg (by simp)]
      simp only [Bool.and_eq_true]
      exact ⟨h.1, h1⟩
  | (i, k + 3) :: r, listed, h => by
    by_cases e : k = q ∧ k + 3 < 100000
    · simp only [checkS] at h
      rw [if_pos ⟨by rw [e.1], e.2⟩] at h
      simp only [Bool.and_eq_true] at h
      obtain ⟨h1, h2⟩ := checkS_del r _ h.2
      simp only [delO, if_pos e, checkS]
      refine ⟨?_, by rw [wt_small e.2, wt_small (by decide), h2]⟩
      rw [if_neg (by simp)]
      simp only [Bool.and_eq_true]
      exact ⟨h.1, h1⟩
    · simp only [checkS] at h
      rw [if_neg (fun h' => e ⟨(Option.some.inj h'.1).symm, h'.2⟩)] at h
      simp at h

structure WD (P : Program) (n : Nat) (ops : Array Oper) (S : List Nat) (Lt : List Nat) (Q : Exit → Act → World → Prop) (ord : List (Nat × Nat)) (e : Env) (w : World) : Prop where
  h : ∀ listed : Array Bool, Region.noSelect ops = true → checkD ops Lt ord listed = true → ∀ a, Has n e a → wpAnyE P .any ops S (fun j => Lt.contains j) (fun a w => Q .normal a w) (wt ord) listed a w

section rules
variable {P : Program} {n : Nat} {Q : Exit → Act → World → Prop} {e : Env} {w : World} {ops : Array Oper} {S : List Nat} {Lt : List Nat} {rest : List (Nat × Nat)}

theorem WC_drawn {id : Nat} {l : List Oper} (m : Nat) (S : List Nat) (Lt : List Nat) (ord : List (Nat × Nat)) (hlm : l.length = m) (hm : P.follows .mixedOrders = true) (hs : Region.noSelect l.toArray = true) (hl : Nat.beq (wt ord) l.length = true)
    (hB : checkD l.toArray Lt ord (Array.replicate m false) = true)
    (h : ∀ w', Stp [] w w' → WD P n l.toArray S Lt Q ord e w') : WC P n (.region id l.toArray true) Q e w := by
  subst hlm
  refine ⟨fun a ha => wp_region_any hm ?_⟩
  have h1 := (h { w with drawn := w.drawn + 1 } (Stp.drew [] w)).h _ hs hB a ha
  have h2 := wpAny_of_E (Q := Q) (fun a w hz => hz) _ _ _ _ h1
  rw [Nat.eq_of_beq_eq_true hl] at h2
  simpa using h2

theorem WD_nil (h : WQ n Q .normal e w) : WD P n ops S Lt Q [] e w :=
  ⟨fun _ _ hB a ha => ⟨by simpa [checkD, checkS] using hB, h.h a ha⟩⟩

def gdOk (ops : Array Oper) (e : Env) : Option (Nat × Bool) → Prop
  | none => True
  | some (j, b) => yld ops e j = some (.bool b)
theorem wanted_ok {o : Oper} {a : Act} (ha : Has n e a) (hg : gdOk ops e o.guard) : Region.wanted o (yielded ops a.tmps) = true := by
  unfold Region.wanted
  cases hgd : o.guard with
  | none => rfl
  | some jb =>
    obtain ⟨j, b⟩ := jb
    rw [hgd] at hg
    simp [yielded_of ha hg]
theorem WD_step0 {i d : Nat} {o : Oper} {v : Value} (hi : ops[i]? = some o) (hd : o.dst = some d) (hY : ∀ a, Has n e a → YE P ops (fun _ _ => True) o v a w) (hdn : Nat.blt d n = true)
    (k : WD P n ops S Lt Q rest ((d, v) :: e) w) : WD P n ops S Lt Q ((i, 0) :: rest) e w := by
  refine ⟨fun listed hs hB a ha => ?_⟩
  simp only [checkD, checkS, Bool.and_eq_true] at hB
  obtain ⟨⟨h1, h2⟩, h3⟩ := hB
  have hk := k.h _ hs h3 _ (ha.put (v := v) hdn)
  rw [← hd] at hk
  rw [wt_small (by decide)]
  exact first_E (R := fun _ _ => True) (fun _ => trivial) (fun _ _ _ _ _ => trivial) hi (fun _ _ _ _ _ _ _ _ => trivial) (Region.noSelect_spec hs) _ _ _ _ (Region.free_spec hi h2) (fun _ => trivial) (by simpa using h1) (hY a ha) hk

theorem bound_spec {i j : Nat} {oj : Oper} (hb : bound ops Lt i = true) (hj : ops[j]? = some oj) (hn : ∀ e ∈ oj.after, Region.binds .any e = true → e.on ≠ i) (hji : j ≠ i) : Lt.contains j = false := by
  cases hc : Lt.contains j with
  | false => rfl
  | true =>
    have hm : j ∈ Lt := by simpa using hc
    have := (List.all_eq_true.1 hb) j hm
    simp only [hj, Bool.or_eq_true, beq_iff_eq, hji, false_or] at this
    obtain ⟨e, he, hbe⟩ := Array.any_eq_true'.1 this
    simp only [Bool.and_eq_true, beq_iff_eq] at hbe
    exact absurd hbe.2 (hn e he hbe.1)

theorem WD_step1 {i d : Nat} {o : Oper} {v : Value} (hi : ops[i]? = some o) (hd : o.dst = some d) (hY : ∀ a, Has n e a → YE P ops (Stp S) o v a w) (hdn : Nat.blt d n = true)
    (k : WD P n ops S Lt Q rest ((d, v) :: e) w) : WD P n ops S Lt Q ((i, 1) :: rest) e w := by
  refine ⟨fun listed hs hB a ha => ?_⟩
  simp only [checkD, checkS, Bool.and_eq_true] at hB
  obtain ⟨⟨⟨h1, h2⟩, hb⟩, h3⟩ := hB
  have hk := k.h _ hs h3 _ (ha.put (v := v) hdn)
  rw [← hd] at hk
  rw [wt_small (by decide)]
  refine first_E (R := Stp S) (fun w => Stp.refl _ w) (fun _ _ _ h k => h.trans k) hi (fun j oj hj hn hji w w' hs => ?_) (Region.noSelect_spec hs) _ _ _ _ (Region.free_spec hi h2) (fun _ => trivial) (by simpa using h1) (hY a ha) hk
  rcases hs with hs | hs
  · exact hs
  · rw [bound_spec hb hj hn hji] at hs; cases hs

variable {i d : Nat} {op : Op} {ty : TypeId} {pos : String} {af : Array Edge} {gd : Option (Nat × Bool)} {v : Value}
/-- an operation that looks at no memory -/
theorem WD_free (hi : ops[i]? = some ⟨some d, op, ty, pos, af, gd⟩) (hg : gdOk ops e gd) (hp : ∀ w', PR P n ⟨some d, op, ty, pos, af, gd⟩ e w' v) (hdn : Nat.blt d n = true)
    (k : WD P n ops S Lt Q rest ((d, v) :: e) w) : WD P n ops S Lt Q ((i, 0) :: rest) e w :=
  WD_step0 hi rfl (fun a ha => .inl ⟨wanted_ok ha hg, fun w' _ => (hp w').h a ha⟩) hdn k
/-- one that reads old memory -/
theorem WD_read (hi : ops[i]? = some ⟨some d, op, ty, pos, af, gd⟩) (hg : gdOk ops e gd) (hp : ∀ w', Stp S w w' → PR P n ⟨some d, op, ty, pos, af, gd⟩ e w' v) (hdn : Nat.blt d n = true)
    (k : WD P n ops S Lt Q rest ((d, v) :: e) w) : WD P n ops S Lt Q ((i, 1) :: rest) e w :=
  WD_step1 hi rfl (fun a ha => .inl ⟨wanted_ok ha hg, fun w' hw => (hp w' hw).h a ha⟩) hdn k
/-- one that is passed over -/
theorem WD_pass0 (hi : ops[i]? = some ⟨some d, op, ty, pos, af, gd⟩) (hg : noB ops e gd = true) (hdn : Nat.blt d n = true)
    (k : WD P n ops S Lt Q rest ((d, undef) :: e) w) : WD P n ops S Lt Q ((i, 0) :: rest) e w :=
  WD_step0 hi rfl (fun a ha => .inr ⟨wanted_noB ha hg, rfl⟩) hdn k
theorem WD_pass1 (hi : ops[i]? = some ⟨some d, op, ty, pos, af, gd⟩) (hg : noB ops e gd = true) (hdn : Nat.blt d n = true)
    (k : WD P n ops S Lt Q rest ((d, undef) :: e) w) : WD P n ops S Lt Q ((i, 1) :: rest) e w :=
  WD_step1 hi rfl (fun a ha => .inr ⟨wanted_noB ha hg, rfl⟩) hdn k

/-- one operation, whatever else is ready -/
structure WD1 (P : Program) (n : Nat) (ops : Array Oper) (S : List Nat) (Lt : List Nat) (Q : Exit → Act → World → Prop) (i : Nat) (ord : List (Nat × Nat)) (e : Env) (w : World) : Prop where
  h : ∀ listed : Array Bool, Region.noSelect ops = true → checkD ops Lt ord (listed.setIfInBounds i true) = true → ∀ a, Has n e a →
    wpOp P ops (fun _ _ _ => False) i (fun a' w' => (Stp S w w' ∨ Lt.contains i = true) ∧ wpAnyE P .any ops S (fun j => Lt.contains j) (fun a w => Q .normal a w) (wt ord) (listed.setIfInBounds i true) a' w') a w
theorem WD1_mk {o : Oper} {dst : Option Nat} {G : Value → World → Prop} (hi : ops[i]? = some o) (hdst : o.dst = dst) (hg : gdOk ops e o.guard) (hp : OE P n o e w (fun v w' => (Stp S w w' ∨ Lt.contains i = true) ∧ G v w'))
    (k : ∀ v w' a', G v w' → ∀ a, Has n e a → a' = a.put dst v → ∃ e', Has n e' a' ∧ WD P n ops S Lt Q rest e' w') : WD1 P n ops S Lt Q i rest e w := by
  refine ⟨fun listed hs h3 a ha => ?_⟩
  unfold wpOp
  simp only [hi]
  rw [if_pos (wanted_ok ha hg)]
  refine .inl (Oper.wp_mono ?_ (hp.h a ha _))
  rintro a' w' ⟨v, rfl, hs', hG⟩
  obtain ⟨e', he', hk⟩ := k v w' (a.put o.dst v) hG a ha (by rw [hdst])
  exact ⟨hs', hk.h _ hs h3 _ he'⟩
theorem WD_one (h : WD1 P n ops S Lt Q i rest e w) : WD P n ops S Lt Q ((i, 2) :: rest) e w := by
  refine ⟨fun listed hs hB a ha => ?_⟩
  simp only [checkD, checkS] at hB
  rw [if_neg (by simp)] at hB
  simp only [Bool.and_eq_true, beq_iff_eq] at hB
  obtain ⟨h1, h3⟩ := hB
  rw [wt_small (by decide)]
  refine ⟨fun h0 => absurd (h1 ▸ h0) (by simp), fun j hj => ?_⟩
  rw [h1] at hj
  obtain rfl : j = i := by simpa using hj
  exact h.h _ hs h3 a ha
/-- two are ready, and both orders are shown -/
theorem WD_two {q : Nat} (hq : Nat.blt (q + 3) 100000 = true) (h1 : WD1 P n ops S Lt Q i rest e w) (h2 : WD1 P n ops S Lt Q q ((i, 2) :: delO q rest) e w) : WD P n ops S Lt Q ((i, q + 3) :: rest) e w := by
  refine ⟨fun listed hs hB a ha => ?_⟩
  have hq' : q + 3 < 100000 := Nat.le_of_ble_eq_true hq
  simp only [checkD, checkS] at hB
  rw [if_neg (by simp), if_pos hq'] at hB
  simp only [Bool.and_eq_true, beq_iff_eq] at hB
  obtain ⟨_, ⟨⟨hr, hr1⟩, hr2⟩, h3⟩ := hB
  obtain ⟨h4, h5⟩ := checkS_del _ _ h3
  have hw : wt ((i, q + 3) :: rest) = wt rest + 1 := wt_small hq'
  rw [hw]
  refine ⟨fun h0 => absurd (hr ▸ h0) (by simp), fun j hj => ?_⟩
  rw [hr] at hj
  have c2 : checkD ops Lt ((i, 2) :: delO q rest) (listed.setIfInBounds q true) = true := by
    simp only [checkD, checkS]
    rw [if_neg (by simp)]
    simp only [Bool.and_eq_true, beq_iff_eq]
    exact ⟨hr2, h4⟩
  have hw2 : wt rest = wt ((i, 2) :: delO q rest) := by rw [wt_small (by decide), h5]
  have hj' : j = i ∨ j = q := by simpa using hj
  rcases hj' with rfl | rfl
  · exact h1.h _ hs hr1 a ha
  · rw [hw2]
    exact h2.h _ hs c2 a ha
theorem subs_mem : ∀ {is rem : List Nat}, rem.Sublist is → rem ∈ subs is
  | [], rem, h => by simp at h; simp [subs, h]
  | x :: r, rem, h => by
    simp only [subs, List.mem_append, List.mem_map]
    cases h with
    | cons _ h => exact .inl (subs_mem h)
    | cons_cons _ h => exact .inr ⟨_, subs_mem h, rfl⟩
theorem lst_all (listed : Array Bool) (is : List Nat) : lst listed is is = listed := by
  apply Array.ext
  · simp [lst]
  · intro j h1 h2
    simp only [lst, Array.getElem_ofFn]
    cases is.contains j <;> simp
theorem lst_step {listed : Array Bool} {is rem : List Nat} {j : Nat} (hn : rem.Nodup) (hr : rem.Sublist is) (hj : j ∈ rem) : (lst listed is rem).setIfInBounds j true = lst listed is (rem.erase j) := by
  apply Array.ext
  · simp [lst]
  · intro m h1 h2
    have hm : m < listed.size := by simpa [lst] using h2
    rw [Array.getElem_setIfInBounds]
    · simp only [lst, Array.getElem_ofFn]
      by_cases e : j = m
      · subst e
        have h3 : is.contains j = true := by simpa using hr.subset hj
        have h4 : (rem.erase j).contains j = false := by
          have := hn.not_mem_erase (a := j)
          simpa using this
        simp only [h3, h4, if_true, Bool.not_false, Bool.and_true, Bool.or_true]
      · rw [if_neg e]
        have : (rem.erase j).contains m = rem.contains m := by
          rw [Bool.eq_iff_iff]
          simp only [List.contains_iff_mem]
          exact List.mem_erase_of_ne (fun h => e h.symm)
        rw [this]
    · simpa [lst] using hm
/-- a set of effects without order among them -/
theorem WD_set {q : Nat} (is : List Nat) (J : List Nat → World → Prop) (hq : Nat.ble 100000 (q + 3) = true) (his : bits (q + 3 - 100000) = is) (hnd : is.Nodup) (h0 : J is w)
    (step : ∀ rem j w', rem.Sublist is → j ∈ rem → J rem w' → ∃ o, ops[j]? = some o ∧ o.dst = none ∧ gdOk ops e o.guard ∧ OE P n o e w' (fun _ w'' => (Stp S w' w'' ∨ Lt.contains j = true) ∧ J (rem.erase j) w''))
    (fin : ∀ w', J [] w' → WD P n ops S Lt Q rest e w') : WD P n ops S Lt Q ((i, q + 3) :: rest) e w := by
  refine ⟨fun listed hs hB a ha => ?_⟩
  have hq' : ¬ q + 3 < 100000 := Nat.not_lt.2 (Nat.le_of_ble_eq_true hq)
  have hw : wt ((i, q + 3) :: rest) = is.length + wt rest := by simp only [wt]; rw [if_neg hq', his]
  rw [hw]
  simp only [checkD, checkS] at hB
  rw [if_neg (by simp), if_neg hq', his] at hB
  simp only [Bool.and_eq_true] at hB
  obtain ⟨_, hall, hrest⟩ := hB
  have hready : ∀ rem : List Nat, rem.Sublist is → 0 < rem.length → Region.ready .any ops (lst listed is rem) = rem := fun rem hr h0 => by
    have := List.all_eq_true.1 hall rem (subs_mem hr)
    cases rem with
    | nil => simp at h0
    | cons x r => simpa using this
  have key : ∀ (k : Nat) (rem : List Nat), rem.length = k → rem.Sublist is → ∀ w' a, Has n e a → J rem w' → wpAnyE P .any ops S (fun j => Lt.contains j) (fun a w => Q .normal a w) (k + wt rest) (lst listed is rem) a w' := by
    intro k
    induction k with
    | zero =>
      intro rem hl hr w' a ha hJ
      obtain rfl := List.length_eq_zero_iff.1 hl
      rw [Nat.zero_add]
      exact (fin w' hJ).h _ hs hrest a ha
    | succ k ih =>
      intro rem hl hr w' a ha hJ
      rw [show k + 1 + wt rest = (k + wt rest) + 1 by omega]
      refine ⟨fun h => ?_, fun j hj => ?_⟩
      · rw [hready rem hr (by omega)] at h
        subst h
        simp at hl
      · rw [hready rem hr (by omega)] at hj
        obtain ⟨o, hi, hdst, hg, hp⟩ := step rem j w' hr hj hJ
        unfold wpOp
        simp only [hi]
        rw [if_pos (wanted_ok ha hg)]
        refine .inl (Oper.wp_mono ?_ (hp.h a ha _))
        rintro a' w'' ⟨v, rfl, hs', hJ'⟩
        refine ⟨hs', ?_⟩
        rw [lst_step (hr.nodup hnd) hr hj, hdst]
        exact ih _ (by rw [List.length_erase_of_mem hj]; omega) (List.erase_sublist.trans hr) w'' _ ha hJ'
  have := key is.length is rfl (List.Sublist.refl _) w a ha h0
  rwa [lst_all] at this
theorem WD_only {o : Oper} {dst : Option Nat} {G : Value → World → Prop} (hi : ops[i]? = some o) (hdst : o.dst = dst) (hg : gdOk ops e o.guard) (hp : OE P n o e w (fun v w' => (Stp S w w' ∨ Lt.contains i = true) ∧ G v w'))
    (k : ∀ v w' a', G v w' → ∀ a, Has n e a → a' = a.put dst v → ∃ e', Has n e' a' ∧ WD P n ops S Lt Q rest e' w') : WD P n ops S Lt Q ((i, 2) :: rest) e w :=
  WD_one (WD1_mk hi hdst hg hp k)
/-- an effect that is passed over -/
theorem WD_pass2 (hi : ops[i]? = some ⟨some d, op, ty, pos, af, gd⟩) (hg : noB ops e gd = true) (hdn : Nat.blt d n = true)
    (k : WD P n ops S Lt Q rest ((d, undef) :: e) w) : WD P n ops S Lt Q ((i, 2) :: rest) e w := by
  refine WD_one ⟨fun listed hs h3 a ha => ?_⟩
  unfold wpOp
  simp only [hi]
  have hw := wanted_noB (o := ⟨some d, op, ty, pos, af, gd⟩) ha hg
  rw [if_neg (by simp [hw])]
  exact ⟨.inl (Stp.refl _ _), k.h _ hs h3 _ (ha.put (v := undef) hdn)⟩
theorem WD1_eff {G : Value → World → Prop} (hi : ops[i]? = some ⟨some d, op, ty, pos, af, gd⟩) (hg : gdOk ops e gd) (hp : OE P n ⟨some d, op, ty, pos, af, gd⟩ e w G) (hG : ∀ v w', G v w' → Stp S w w') (hdn : Nat.blt d n = true)
    (k : ∀ v w', G v w' → WD P n ops S Lt Q rest ((d, v) :: e) w') : WD1 P n ops S Lt Q i rest e w :=
  WD1_mk (G := G) hi rfl hg (hp.mono fun v w' h => ⟨.inl (hG v w' h), h⟩) (fun v w' a' h a ha e => ⟨_, by rw [e]; exact ha.put hdn, k v w' h⟩)
/-- the only one that is ready: it leaves the old blocks alone -/
theorem WD_eff {G : Value → World → Prop} (hi : ops[i]? = some ⟨some d, op, ty, pos, af, gd⟩) (hg : gdOk ops e gd) (hp : OE P n ⟨some d, op, ty, pos, af, gd⟩ e w G) (hG : ∀ v w', G v w' → Stp S w w') (hdn : Nat.blt d n = true)
    (k : ∀ v w', G v w' → WD P n ops S Lt Q rest ((d, v) :: e) w') : WD P n ops S Lt Q ((i, 2) :: rest) e w :=
  WD_only (G := G) hi rfl hg (hp.mono fun v w' h => ⟨.inl (hG v w' h), h⟩) (fun v w' a' h a ha e => ⟨_, by rw [e]; exact ha.put hdn, k v w' h⟩)
theorem WD_eff0 {G : Value → World → Prop} (hi : ops[i]? = some ⟨none, op, ty, pos, af, gd⟩) (hg : gdOk ops e gd) (hp : OE P n ⟨none, op, ty, pos, af, gd⟩ e w G) (hG : ∀ v w', G v w' → Stp S w w')
    (k : ∀ v w', G v w' → WD P n ops S Lt Q rest e w') : WD P n ops S Lt Q ((i, 2) :: rest) e w :=
  WD_only (G := G) hi rfl hg (hp.mono fun v w' h => ⟨.inl (hG v w' h), h⟩) (fun v w' a' h a ha e => ⟨_, by rw [e]; exact ha, k v w' h⟩)
theorem WD_late0 {G : Value → World → Prop} (hi : ops[i]? = some ⟨none, op, ty, pos, af, gd⟩) (hg : gdOk ops e gd) (hp : OE P n ⟨none, op, ty, pos, af, gd⟩ e w G) (hL : Lt.contains i = true)
    (k : ∀ v w', G v w' → WD P n ops S Lt Q rest e w') : WD P n ops S Lt Q ((i, 2) :: rest) e w :=
  WD_only (G := G) hi rfl hg (hp.mono fun v w' h => ⟨.inr hL, h⟩) (fun v w' a' h a ha e => ⟨_, by rw [e]; exact ha, k v w' h⟩)
/-- an undecided guard -/
theorem WD_split {ord : List (Nat × Nat)} {j : Nat} {p : Prop} [Decidable p] (hy : look e j = some (.bool (decide p)))
    (ht : p → WD P n ops S Lt Q ord ((j, .bool true) :: e) w) (hf : ¬ p → WD P n ops S Lt Q ord ((j, .bool false) :: e) w) : WD P n ops S Lt Q ord e w := by
  refine ⟨fun listed hs hB a ha => ?_⟩
  by_cases hp : p
  · exact (ht hp).h _ hs hB a (ha.same hy (by simp [hp]))
  · exact (hf hp).h _ hs hB a (ha.same hy (by simp [hp]))
/-- the guard of the operation that comes next is not decided: part on it -/
theorem WD_splitN {i q j d : Nat} {b : Bool} {o : Oper} {p : Prop} [Decidable p] (hi : ops[i]? = some o) (hg : o.guard = some (j, b)) (hj : dstOf ops j = some d) (hy : look e d = some (.bool (decide p)))
    (ht : p → WD P n ops S Lt Q ((i, q) :: rest) ((d, .bool true) :: e) w) (hf : ¬ p → WD P n ops S Lt Q ((i, q) :: rest) ((d, .bool false) :: e) w) : WD P n ops S Lt Q ((i, q) :: rest) e w :=
  WD_split hy ht hf
theorem WD_splitBN {i q j d : Nat} {b : Bool} {o : Oper} {t : Bool} (hi : ops[i]? = some o) (hg : o.guard = some (j, b)) (hj : dstOf ops j = some d) (hy : look e d = some (.bool t))
    (ht : t = true → WD P n ops S Lt Q ((i, q) :: rest) ((d, .bool true) :: e) w) (hf : t = false → WD P n ops S Lt Q ((i, q) :: rest) ((d, .bool false) :: e) w) : WD P n ops S Lt Q ((i, q) :: rest) e w := by
  refine ⟨fun listed hs hB a ha => ?_⟩
  cases t
  · exact (hf rfl).h _ hs hB a (ha.same hy rfl)
  · exact (ht rfl).h _ hs hB a (ha.same hy rfl)
end rules
end Go.Eng


/-
The walk engine, part 5: stores into rows, slices of slices, clear, literals, results that lie in memory, equality of structs.
-/
namespace Go.Eng
open Go Go.RowKit Go.Proofs
set_option linter.unusedVariables false

/-! ### lists of lists of one length -/
theorem flatten_len {k : Nat} : ∀ (l : List (List Value)), (∀ c ∈ l, c.length = k) → l.flatten.length = l.length * k
  | [], _ => by simp
  | c :: r, h => by
    simp only [List.flatten_cons, List.length_append, List.length_cons, Nat.succ_mul]
    rw [flatten_len r (fun c hc => h c (by simp [hc])), h c (by simp)]
    omega
theorem flatten_set {k : Nat} : ∀ (css : List (List Value)), (∀ c ∈ css, c.length = k) → ∀ (i : Nat), i < css.length → ∀ (cs : List Value),
    (css.set i cs).flatten = css.flatten.take (i * k) ++ cs ++ css.flatten.drop (i * k + k)
  | [], _, i, hi, _ => absurd hi (Nat.not_lt_zero _)
  | c :: r, hk, 0, _, cs => by
    have hc := hk c (by simp)
    simp [hc]
  | c :: r, hk, i + 1, hi, cs => by
    have hc := hk c (by simp)
    have ih := flatten_set r (fun c hc => hk c (by simp [hc])) i (by simpa using hi) cs
    simp only [List.set_cons_succ, List.flatten_cons, ih, Nat.succ_mul]
    rw [List.take_append, List.drop_append, hc]
    rw [List.take_of_length_le (l := c) (by omega), show c.drop (i * k + k + k) = [] from List.drop_eq_nil_of_le (by omega)]
    rw [show i * k + k - k = i * k by omega, show i * k + k + k - k = i * k + k by omega]
    simp [List.append_assoc]
theorem flatten_set1 {k : Nat} : ∀ (css : List (List Value)), (∀ c ∈ css, c.length = k) → ∀ (i : Nat) (hi : i < css.length) (j : Nat) (hj : j < k) (u : Value),
    (css.set i (css[i].set j u)).flatten = css.flatten.set (i * k + j) u
  | [], _, i, hi, _, _, _ => absurd hi (Nat.not_lt_zero _)
  | c :: r, hk, 0, _, j, hj, u => by
    have hc := hk c (by simp)
    simp [hc, hj]
  | c :: r, hk, i + 1, hi, j, hj, u => by
    have hc := hk c (by simp)
    have ih := flatten_set1 r (fun c hc => hk c (by simp [hc])) i (by simpa using hi) j hj u
    simp only [List.set_cons_succ, List.flatten_cons, List.getElem_cons_succ, ih, Nat.succ_mul]
    rw [List.set_append, if_neg (by omega), hc]
    rw [show i * k + k + j - k = i * k + j by omega]

section row
variable {α : Type} [GoRep α] {X : List Nat} {w w' : World} {base T : Nat} {v : Value} {xs : List α}
variable {P : Program} {n : Nat} {e : Env} {d : Option Nat} {ty : TypeId} {pos : String} {af : Array Edge} {g : Option (Nat × Bool)}

theorem Row.isSome (h : Row X w base T v xs) {i : Nat} (hi : i < xs.length) : ∃ q l c, v = .slice (some ⟨q, 0, none⟩) l c := by
  obtain ⟨css, hl, hr, ho⟩ := h
  rcases ho.2 with ⟨rfl, hn⟩ | ⟨q, cap, cur, rfl, hb, hg, hnc, hcm, hcs, ht⟩
  · omega
  · exact ⟨_, _, _, rfl⟩

/-- one cell of an element of a row of one's own is written -/
theorem OE_storeF {β : Type} [Flat β] {xs : List β} {i j k : Nat} {t : TypeId} {x y : Operand} {u : Value} {y' : β} [hsz : Siz P t 1] (hx : ev e x = some (.pointer (some (elAddr v i k j)))) (hy : ev e y = some u) (hk : k = Flat.k β)
    (hu : u.cells.toList = [u]) (h1 : u.oneCell' = true) (hrow : Row X w base T v xs) (hi : i < xs.length) (hj : j < Flat.k β) (hr' : Flat.enc y' = (Flat.enc xs[i]).set j u) :
    OE P n ⟨d, .store t x y, ty, pos, af, g⟩ e w (fun _ w' => Row X w' base T v (xs.set i y') ∧ Stp (ob v) w w') := by
  obtain ⟨css, hl, hr, ho⟩ := hrow
  have hlen : ∀ c ∈ css, c.length = GoRep.k β := by
    intro c hc
    obtain ⟨q, hq, rfl⟩ := List.getElem_of_mem hc
    exact GoRep.len (hr q (by omega) hq)
  have hkk : GoRep.k β = Flat.k β := rfl
  rcases ho.2 with ⟨rfl, hn⟩ | ⟨q, cap, cur, rfl, hb, hg, hnc, hcm, hcs, ht⟩
  · omega
  · subst hk
    have hlt : i * Flat.k β + j < xs.length * Flat.k β := by
      have : (i + 1) * Flat.k β ≤ xs.length * Flat.k β := Nat.mul_le_mul_right _ (by omega)
      rw [Nat.succ_mul] at this
      omega
    have hfit : i * Flat.k β + j + [u].length ≤ cur.size := by
      rw [hcs, hkk]
      have := Nat.mul_le_mul_right (Flat.k β) hnc
      simp only [List.length_singleton]
      omega
    have hst := run_storeCells_at P q (i * Flat.k β + j) T [u] 0 cur w hg (by simpa using hfit) (by simpa using h1)
    simp only [Nat.add_zero] at hst
    have hus : u.cells.size = 1 := by rw [← Array.length_toList, hu]; rfl
    have hSt : Stp [q] w (w.setRow q (cur.toList.take (i * Flat.k β + j) ++ [u] ++ cur.toList.drop (i * Flat.k β + j + [u].length)).toArray) := setRow_stp _ _ _
    have hcsi : css[i]'(by omega) = Flat.enc xs[i] := hr i hi (by omega)
    refine OE_skip (w' := w.setRow q (cur.toList.take (i * Flat.k β + j) ++ [u] ++ cur.toList.drop (i * Flat.k β + j + [u].length)).toArray) (fun a ha => ?_) ⟨⟨css.set i ((css[i]'(by omega)).set j u), by simp [hl], fun m hm hm' => ?_, ?_, .inr ⟨q, cap, _, by simp, hb, setRow_heap w q cur _ T (0, 0) hg, by simpa using hnc, hcm, ?_, ?_⟩⟩, hSt⟩
    · have hel : elAddr (.slice (some ⟨q, 0, none⟩) xs.length cap) i (Flat.k β) j = ⟨q, i * Flat.k β + j, none⟩ := by simp [elAddr]
      rw [hel] at hx
      simp [execOp, ha.ev hx, ha.ev hy, Instr.storeAt, Instr.sureAddr, storeVar, Siz.run, hus, hu, hst]
    · by_cases hij : i = m
      · subst hij
        simp only [List.getElem_set_self]
        show _ = Flat.enc y'
        rw [hcsi, hr']
      · simp only [List.getElem_set_ne hij]
        exact hr m (by simpa using hm) (by simpa using hm')
    · rw [flatten_set1 css hlen i (by omega) j hj]
      simpa using ho.1
    · simp only [List.size_toArray, List.length_append, List.length_take, List.length_drop, Array.length_toList]
      omega
    · rw [flatten_set1 css hlen i (by omega) j hj, ← ht]
      have hsz : i * Flat.k β + j < cur.toList.length := by simp; simp at hfit; omega
      simp only [List.length_set, hkk]
      rw [show cur.toList.take (i * Flat.k β + j) ++ [u] ++ cur.toList.drop (i * Flat.k β + j + [u].length) = cur.toList.set (i * Flat.k β + j) u by
        rw [List.set_eq_take_append_cons_drop, if_pos hsz]; simp]
      rw [List.take_set]

/-! ### slices of slices -/
def slc (v : Value) (l h k : Nat) : Value :=
  match v with
  | .slice a _ c => .slice (if c = l then a else a.map (·.add (l * k))) (h - l) (c - l)
  | v => v

theorem SlV.slc (h : SlV X w v xs) {l r : Nat} (hl : l ≤ r) (hr : r ≤ xs.length) : SlV X w (slc v l r (GoRep.k α)) ((xs.take r).drop l) := by
  obtain ⟨p, c, rfl, hlen, hm, hn, hc⟩ := h
  have hlen2 : ((xs.take r).drop l).length = r - l := by simp; omega
  refine ⟨if c = l then p else p.map (·.add (l * GoRep.k α)), c - l, by simp [Eng.slc, hlen2], by omega, by omega, ?_, fun i hi => ?_⟩
  · intro hp
    split at hp
    · omega
    · cases p with
      | none => have := hn rfl; omega
      | some a => simp at hp
  · have hi2 : l + i < xs.length := by omega
    obtain ⟨b, o, cs, rfl, hb, hx, hrep, hcell⟩ := hc (l + i) hi2
    refine ⟨b, o + l * GoRep.k α, cs, ?_, hb, hx, by simpa using hrep, fun j u hu => ?_⟩
    · rw [if_neg (by omega)]
      simp [Addr.add_lit]
    · have := hcell j u hu
      rw [show o + l * GoRep.k α + i * GoRep.k α + j = o + (l + i) * GoRep.k α + j by rw [Nat.add_mul]; omega]
      exact this

theorem PR_slice_h {t el k : Nat} {x hi : Operand} {r : Nat} {b : Int} [hu : Und P t (.slice el)] [hk : Siz P el k] {w₀ : World} (hx : ev e x = some v) (hs : SlV X w₀ v xs) (hb : ev e hi = some (.int .i64 b))
    (hbr : b = (r : Int)) (hrx : r ≤ xs.length) : PR P n ⟨d, .slice t x none (some hi) none, ty, pos, af, g⟩ e w (slc v 0 r k) := by
  refine ⟨fun act ha' => ?_⟩
  obtain ⟨p, c, rfl, hlen, hm, hn, hc⟩ := hs
  subst hbr
  simp [execOp, ha'.ev hx, ha'.ev hb, Instr.sliceAt, run_underlying hu.h, Instr.slice, Instr.sliceBounds, Instr.sliceBound, asIntOf, Siz.run, Eng.slc, show r ≤ c by omega]
theorem PR_slice_l {t el k : Nat} {x lo : Operand} {l : Nat} {a : Int} [hu : Und P t (.slice el)] [hk : Siz P el k] {w₀ : World} (hx : ev e x = some v) (hs : SlV X w₀ v xs) (ha : ev e lo = some (.int .i64 a))
    (hal : a = (l : Int)) (hlx : l ≤ xs.length) : PR P n ⟨d, .slice t x (some lo) none none, ty, pos, af, g⟩ e w (slc v l xs.length k) := by
  refine ⟨fun act ha' => ?_⟩
  obtain ⟨p, c, rfl, hlen, hm, hn, hc⟩ := hs
  subst hal
  simp [execOp, ha'.ev hx, ha'.ev ha, Instr.sliceAt, run_underlying hu.h, Instr.slice, Instr.sliceBounds, Instr.sliceBound, asIntOf, Siz.run, Eng.slc, hlx]

theorem flatten_take {k : Nat} : ∀ (css : List (List Value)), (∀ c ∈ css, c.length = k) → ∀ (i : Nat), (css.take i).flatten = css.flatten.take (i * k)
  | [], _, i => by simp
  | c :: r, hk, 0 => by simp
  | c :: r, hk, i + 1 => by
    have hc := hk c (by simp)
    have ih := flatten_take r (fun c hc => hk c (by simp [hc])) i
    simp only [List.take_succ_cons, List.flatten_cons, ih, Nat.succ_mul]
    rw [List.take_append, hc, List.take_of_length_le (l := c) (by omega), show i * k + k - k = i * k by omega]

theorem ob_slc (v : Value) (r k : Nat) : ob (slc v 0 r k) = ob v := by
  cases v <;> try rfl
  rename_i a l c
  cases a with
  | none => simp [slc, ob]
  | some a => by_cases hc : c = 0 <;> simp [slc, ob, hc, Addr.add]

/-- a row is cut -/
theorem Row.cut (h : Row X w base T v xs) {r : Nat} (hr : r ≤ xs.length) : Row X w base T (slc v 0 r (GoRep.k α)) (xs.take r) := by
  obtain ⟨css, hl, hrep, ho⟩ := h
  have hlen : ∀ c ∈ css, c.length = GoRep.k α := by
    intro c hc
    obtain ⟨q, hq, rfl⟩ := List.getElem_of_mem hc
    exact GoRep.len (hrep q (by omega) hq)
  refine ⟨css.take r, by simp [hl], fun i hi hi' => ?_, ?_, ?_⟩
  · rw [ob_slc]
    simp only [List.getElem_take]
    exact hrep i (by simp at hi; omega) (by simp at hi'; omega)
  · rw [flatten_len _ (fun c hc => hlen c (List.mem_of_mem_take hc))]
    simp [hl]
  · rcases ho.2 with ⟨rfl, hn⟩ | ⟨q, cap, cur, rfl, hb, hg, hnc, hcm, hcs, ht⟩
    · exact .inl ⟨by simp [Eng.slc]; omega, by simp; omega⟩
    · refine .inr ⟨q, cap, cur, ?_, hb, hg, by simp; omega, hcm, hcs, ?_⟩
      · simp [Eng.slc, Addr.add, List.length_take, Nat.min_eq_left hr]
      · rw [flatten_take css hlen, ← ht, List.take_take, List.length_take, Nat.min_eq_left hr]
        congr 1
        have := Nat.mul_le_mul_right (GoRep.k α) hr
        omega

end row

section misc
variable {P : Program} {n : Nat} {e : Env} {w : World} {d : Option Nat} {ty : TypeId} {pos : String} {af : Array Edge} {g : Option (Nat × Bool)}
/-! ### literals -/
def evParts (e : Env) : List (Nat × Operand) → Option (List (Nat × Value))
  | [] => some []
  | (i, x) :: r => match ev e x, evParts e r with
    | some v, some l => some ((i, v) :: l)
    | _, _ => none
theorem Has.parts {a : Act} (ha : Has n e a) : ∀ {l : List (Nat × Operand)} {vs : List (Nat × Value)}, evParts e l = some vs → l.map (fun (p : Nat × Operand) => (p.1, a.eval p.2)) = vs
  | [], vs, h => by simp [evParts] at h; simp [h]
  | (i, x) :: r, vs, h => by
    simp only [evParts] at h
    cases hx : Eng.ev e x with
    | none => simp [hx] at h
    | some v =>
      cases hr : evParts e r with
      | none => simp [hx, hr] at h
      | some l =>
        simp [hx, hr] at h
        subst h
        simp [ha.ev hx, Has.parts ha hr]
theorem PR_build {t : TypeId} {l : List (Nat × Operand)} {vs : List (Nat × Value)} {u : Value} (hv : evParts e l = some vs) (hb : ∀ w, (Instr.build t vs.toArray).run P w = .ok u w) : PR P n ⟨d, .build t l.toArray, ty, pos, af, g⟩ e w u :=
  ⟨fun a ha => by
    have h1 := ha.parts hv
    have h2 : l.toArray.map (fun (x : Nat × Operand) => match x with | (i, x) => (i, a.eval x)) = vs.toArray := by
      rw [List.map_toArray]
      exact congrArg List.toArray h1
    simp only [execOp]
    rw [h2]
    simp [hb]⟩
/-- a slice literal: a new block -/
def NewSl (w : World) (T : TypeId) (len : Nat) (cs : List Value) (v : Value) (w' : World) : Prop := ∃ b, v = .slice (some ⟨b, 0, none⟩) len len ∧ w.heap.size ≤ b ∧ Blk w' b T cs ∧ Stp [] w w'
theorem OE_buildSlice {t T len : Nat} {l : List (Nat × Operand)} {vs : List (Nat × Value)} {cs : List Value} (hv : evParts e l = some vs)
    (hb : ∀ w : World, (Instr.buildSlice t len vs.toArray).run P w = .ok (.slice (some ⟨w.heap.size, 0, none⟩) len len) (w.alloc (.cells cs.toArray T))) :
    OE P n ⟨d, .buildSlice t len l.toArray, ty, pos, af, g⟩ e w (NewSl w T len cs) :=
  OE_value (v := .slice (some ⟨w.heap.size, 0, none⟩) len len) (w' := w.alloc (.cells cs.toArray T)) (fun a ha => by
    have h1 := ha.parts hv
    have h2 : l.toArray.map (fun (x : Nat × Operand) => match x with | (i, x) => (i, a.eval x)) = vs.toArray := by
      rw [List.map_toArray]
      exact congrArg List.toArray h1
    simp only [execOp]
    rw [h2]
    simp [hb w]) ⟨w.heap.size, rfl, Nat.le_refl _, heap_alloc_new w _, Stp.alloc _ _ _⟩
/-- a new slice of flat data reads as its list -/
theorem NewSl.slv {β : Type} [Flat β] {X : List Nat} {T len : Nat} {cs : List Value} {v : Value} {w' : World} {ys : List β} (h : NewSl w T len cs v w') (hX : ∀ b ∈ X, b < w.heap.size) (hl : len = ys.length) (hc : cs = ys.flatMap Flat.enc) (hm : ys.length ≤ maxLen) : SlV X w' v ys := by
  obtain ⟨b, rfl, hb, hblk, hS⟩ := h
  subst hl
  refine ⟨some ⟨b, 0, none⟩, ys.length, rfl, Nat.le_refl _, hm, fun h => by simp at h, fun i hi => ⟨b, 0, Flat.enc ys[i], rfl, hblk.lt, fun hx => by have := hX b hx; omega, rfl, fun j u hu => ?_⟩⟩
  subst hc
  refine hblk.cell ?_
  have hk : ∀ c ∈ ys.map Flat.enc, c.length = Flat.k β := by
    intro c hc
    obtain ⟨y, _, rfl⟩ := List.mem_map.1 hc
    exact Flat.len y
  have := flatten_at (ys.map Flat.enc) hk i (by simpa using hi) j u (by simpa using hu)
  rw [List.flatMap_def, Nat.zero_add]
  exact this
/-- it is a row of one's own too -/
theorem NewSl.row {β : Type} [Flat β] {X : List Nat} {T len base : Nat} {cs : List Value} {v : Value} {w' : World} {ys : List β} (h : NewSl w T len cs v w') (hbase : base ≤ w.heap.size) (hl : len = ys.length) (hc : cs = ys.flatMap Flat.enc) (hm : ys.length ≤ maxLen) : Row X w' base T v ys := by
  obtain ⟨b, rfl, hb, hblk, hS⟩ := h
  subst hl
  subst hc
  have hk : ∀ c ∈ ys.map Flat.enc, c.length = Flat.k β := by
    intro c hc
    obtain ⟨y, _, rfl⟩ := List.mem_map.1 hc
    exact Flat.len y
  have hfl : (ys.flatMap Flat.enc).length = ys.length * Flat.k β := by rw [List.flatMap_def, flatten_len _ hk, List.length_map]
  refine ⟨ys.map Flat.enc, by simp, fun i hi hi' => (by simp : (ys.map Flat.enc)[i] = Flat.enc ys[i]), ?_, .inr ⟨b, ys.length, (ys.flatMap Flat.enc).toArray, rfl, by omega, hblk, Nat.le_refl _, hm, by rw [List.size_toArray]; exact hfl, ?_⟩⟩
  · rw [← List.flatMap_def]; exact hfl
  · rw [← List.flatMap_def]
    exact List.take_of_length_le (by show (ys.flatMap Flat.enc).length ≤ _; rw [hfl]; exact Nat.le_refl _)

/-! ### equality of structs -/
theorem PR_neqS {x y : Operand} {t u : TypeId} {p q : Value} {c : Prop} [Decidable c] (hx : ev e x = some p) (hy : ev e y = some q) (hg : ∀ w, (eqGuard .neq t x y p q).run P w = .ok () w) (h : ∀ w, (binOp .neq t p q).run P w = .ok (.bool (decide (¬ c))) w) :
    PR P n ⟨d, .binOp .neq t x y u, ty, pos, af, g⟩ e w (.bool (decide (¬ c))) := ⟨fun a ha => by simp only [execOp, ha.ev hx, ha.ev hy]; simp [h, hg]⟩
end misc

section post
variable {P : Program} {n : Nat} {fn : Func} {R : Ending → World → Prop} {e : Env} {w : World} {Q : Exit → Act → World → Prop}
theorem loadVar_blk {t b T m : Nat} {D : TypeDesc} {cs : List Value} [hu : Und P t D] (hA : aggB D = true) [hs : Siz P t m] (hb : Blk w b T cs) (hl : cs.length = m) : (loadVar t ⟨b, 0, none⟩).run P w = .ok (.agg cs.toArray) w := by
  have := run_loadCells_list (P := P) w ⟨b, 0, none⟩ cs (fun j v h => by rw [Addr.add_lit, Nat.zero_add]; exact hb.cell h)
  rw [hl] at this
  simp [loadVar, Und.isAgg, hA, Siz.run, this]
theorem WQ_retc {t b T T' m : Nat} {D : TypeDesc} {cs : List Value} (hr : fn.results = #[.cell t T']) [hu : Und P T' D] (hA : aggB D = true) [hs : Siz P T' m] (ht : look e t = some (.pointer (some ⟨b, 0, none⟩))) (hb : Blk w b T cs) (hl : cs.length = m)
    (h : R (.returned (.agg cs.toArray)) w) : WQ n (bodyPost P fn R) .ret e w :=
  ⟨fun a ha => ⟨ha.defers, .agg cs.toArray, by
    have h1 := ha.vals _ _ ht
    rw [Array.getD_eq_getD_getElem?] at h1
    simp [results, hr, h1, asAddr, loadVar_blk hA hb hl], h⟩⟩
theorem WQ_retct {t b T T' m s : Nat} {D : TypeDesc} {cs : List Value} {v : Value} (hr : fn.results = #[.cell t T', .tmp s]) [hu : Und P T' D] (hA : aggB D = true) [hs : Siz P T' m] (ht : look e t = some (.pointer (some ⟨b, 0, none⟩))) (hb : Blk w b T cs) (hl : cs.length = m)
    (hv : look e s = some v) (h : R (.returned (.tuple #[.agg cs.toArray, v])) w) : WQ n (bodyPost P fn R) .ret e w :=
  ⟨fun a ha => ⟨ha.defers, .tuple #[.agg cs.toArray, v], by
    have h1 := ha.vals _ _ ht
    have h2 := ha.vals _ _ hv
    rw [Array.getD_eq_getD_getElem?] at h1 h2
    simp [results, hr, h1, h2, asAddr, loadVar_blk hA hb hl], h⟩⟩
end post
theorem OE_pr {P : Program} {n : Nat} {o : Oper} {e : Env} {w : World} {v : Value} (h : PR P n o e w v) : OE P n o e w (fun u w' => u = v ∧ w' = w) := OE_value h.h ⟨rfl, rfl⟩
end Go.Eng


/-
The walk engine, part 6: each rule for a single operation, stated at the head of a list of operations. Written by a program out of parts 2, 3 and 5.
-/
namespace Go.Eng
open Go Go.RowKit Go.Proofs
set_option linter.unusedVariables false
section
variable {P : Program} {n : Nat} {Q : Exit → Act → World → Prop} {e : Env} {w : World} {ops : Array Oper} {S : List Nat} {Lt : List Nat} {rest : List Oper} {ord : List (Nat × Nat)} {d₀ i₀ : Nat} {ty : TypeId} {pos : String} {af : Array Edge} {gd : Option (Nat × Bool)}
theorem WL_move {x : Operand} {v : Value} (hx : ev e x = some v) (hdn : Nat.blt d₀ n = true) (kk : WL P n ops Q rest ((d₀, v) :: e) w) : WL P n ops Q (⟨some d₀, .move x, ty, pos, af, none⟩ :: rest) e w := by
  refine WL_pure (v := v) ?_ hdn kk
  apply PR_move <;> assumption
theorem WF_move {x : Operand} {v : Value} (hi₀ : ops[i₀]? = some ⟨some d₀, .move x, ty, pos, af, gd⟩) (hg₀ : gdOk ops e gd) (hx : ev e x = some v) (hdn : Nat.blt d₀ n = true) (kk : WD P n ops S Lt Q ord ((d₀, v) :: e) w) : WD P n ops S Lt Q ((i₀, 0) :: ord) e w := by
  refine WD_free (v := v) hi₀ hg₀ (fun w' => ?_) hdn kk
  apply PR_move <;> assumption
theorem WL_assign {x : Operand} {v : Value} (hx : ev e x = some v) (hdn : Nat.blt d₀ n = true) (kk : WL P n ops Q rest ((d₀, v) :: e) w) : WL P n ops Q (⟨some d₀, .assign x, ty, pos, af, none⟩ :: rest) e w := by
  refine WL_pure (v := v) ?_ hdn kk
  apply PR_assign <;> assumption
theorem WF_assign {x : Operand} {v : Value} (hi₀ : ops[i₀]? = some ⟨some d₀, .assign x, ty, pos, af, gd⟩) (hg₀ : gdOk ops e gd) (hx : ev e x = some v) (hdn : Nat.blt d₀ n = true) (kk : WD P n ops S Lt Q ord ((d₀, v) :: e) w) : WD P n ops S Lt Q ((i₀, 0) :: ord) e w := by
  refine WD_free (v := v) hi₀ hg₀ (fun w' => ?_) hdn kk
  apply PR_assign <;> assumption
theorem WL_pick_t {c x y : Operand} {v : Value} (hc : ev e c = some (.bool true)) (hx : ev e x = some v) (hdn : Nat.blt d₀ n = true) (kk : WL P n ops Q rest ((d₀, v) :: e) w) : WL P n ops Q (⟨some d₀, .pick c x y, ty, pos, af, none⟩ :: rest) e w := by
  refine WL_pure (v := v) ?_ hdn kk
  apply PR_pick_t <;> assumption
theorem WF_pick_t {c x y : Operand} {v : Value} (hi₀ : ops[i₀]? = some ⟨some d₀, .pick c x y, ty, pos, af, gd⟩) (hg₀ : gdOk ops e gd) (hc : ev e c = some (.bool true)) (hx : ev e x = some v) (hdn : Nat.blt d₀ n = true) (kk : WD P n ops S Lt Q ord ((d₀, v) :: e) w) : WD P n ops S Lt Q ((i₀, 0) :: ord) e w := by
  refine WD_free (v := v) hi₀ hg₀ (fun w' => ?_) hdn kk
  apply PR_pick_t <;> assumption
theorem WL_pick_f {c x y : Operand} {v : Value} (hc : ev e c = some (.bool false)) (hx : ev e y = some v) (hdn : Nat.blt d₀ n = true) (kk : WL P n ops Q rest ((d₀, v) :: e) w) : WL P n ops Q (⟨some d₀, .pick c x y, ty, pos, af, none⟩ :: rest) e w := by
  refine WL_pure (v := v) ?_ hdn kk
  apply PR_pick_f <;> assumption
theorem WF_pick_f {c x y : Operand} {v : Value} (hi₀ : ops[i₀]? = some ⟨some d₀, .pick c x y, ty, pos, af, gd⟩) (hg₀ : gdOk ops e gd) (hc : ev e c = some (.bool false)) (hx : ev e y = some v) (hdn : Nat.blt d₀ n = true) (kk : WD P n ops S Lt Q ord ((d₀, v) :: e) w) : WD P n ops S Lt Q ((i₀, 0) :: ord) e w := by
  refine WD_free (v := v) hi₀ hg₀ (fun w' => ?_) hdn kk
  apply PR_pick_f <;> assumption
theorem WL_not {t : TypeId} {x : Operand} {b : Bool} (hx : ev e x = some (.bool b))  (hdn : Nat.blt d₀ n = true) (kk : WL P n ops Q rest ((d₀, (.bool (!b))) :: e) w) : WL P n ops Q (⟨some d₀, .unOp .not t x, ty, pos, af, none⟩ :: rest) e w := by
  refine WL_pure (v := (.bool (!b))) ?_ hdn kk
  apply PR_not <;> assumption
theorem WF_not {t : TypeId} {x : Operand} {b : Bool} (hi₀ : ops[i₀]? = some ⟨some d₀, .unOp .not t x, ty, pos, af, gd⟩) (hg₀ : gdOk ops e gd) (hx : ev e x = some (.bool b)) (hdn : Nat.blt d₀ n = true) (kk : WD P n ops S Lt Q ord ((d₀, (.bool (!b))) :: e) w) : WD P n ops S Lt Q ((i₀, 0) :: ord) e w := by
  refine WD_free (v := (.bool (!b))) hi₀ hg₀ (fun w' => ?_) hdn kk
  apply PR_not <;> assumption
theorem WL_not_t {t : TypeId} {x : Operand} (hx : ev e x = some (.bool true))  (hdn : Nat.blt d₀ n = true) (kk : WL P n ops Q rest ((d₀, (.bool false)) :: e) w) : WL P n ops Q (⟨some d₀, .unOp .not t x, ty, pos, af, none⟩ :: rest) e w := by
  refine WL_pure (v := (.bool false)) ?_ hdn kk
  apply PR_not_t <;> assumption
theorem WF_not_t {t : TypeId} {x : Operand} (hi₀ : ops[i₀]? = some ⟨some d₀, .unOp .not t x, ty, pos, af, gd⟩) (hg₀ : gdOk ops e gd) (hx : ev e x = some (.bool true)) (hdn : Nat.blt d₀ n = true) (kk : WD P n ops S Lt Q ord ((d₀, (.bool false)) :: e) w) : WD P n ops S Lt Q ((i₀, 0) :: ord) e w := by
  refine WD_free (v := (.bool false)) hi₀ hg₀ (fun w' => ?_) hdn kk
  apply PR_not_t <;> assumption
theorem WL_not_f {t : TypeId} {x : Operand} (hx : ev e x = some (.bool false))  (hdn : Nat.blt d₀ n = true) (kk : WL P n ops Q rest ((d₀, (.bool true)) :: e) w) : WL P n ops Q (⟨some d₀, .unOp .not t x, ty, pos, af, none⟩ :: rest) e w := by
  refine WL_pure (v := (.bool true)) ?_ hdn kk
  apply PR_not_f <;> assumption
theorem WF_not_f {t : TypeId} {x : Operand} (hi₀ : ops[i₀]? = some ⟨some d₀, .unOp .not t x, ty, pos, af, gd⟩) (hg₀ : gdOk ops e gd) (hx : ev e x = some (.bool false)) (hdn : Nat.blt d₀ n = true) (kk : WD P n ops S Lt Q ord ((d₀, (.bool true)) :: e) w) : WD P n ops S Lt Q ((i₀, 0) :: ord) e w := by
  refine WD_free (v := (.bool true)) hi₀ hg₀ (fun w' => ?_) hdn kk
  apply PR_not_f <;> assumption
theorem WL_add {x y : Operand} {t u : TypeId} {a b : Int} (hx : ev e x = some (.int .i64 a)) (hy : ev e y = some (.int .i64 b)) (hr : I64 (a + b)) (hdn : Nat.blt d₀ n = true) (kk : WL P n ops Q rest ((d₀, (.int .i64 (a + b))) :: e) w) : WL P n ops Q (⟨some d₀, .binOp .add t x y u, ty, pos, af, none⟩ :: rest) e w := by
  refine WL_pure (v := (.int .i64 (a + b))) ?_ hdn kk
  apply PR_add <;> assumption
theorem WF_add {x y : Operand} {t u : TypeId} {a b : Int} (hi₀ : ops[i₀]? = some ⟨some d₀, .binOp .add t x y u, ty, pos, af, gd⟩) (hg₀ : gdOk ops e gd) (hx : ev e x = some (.int .i64 a)) (hy : ev e y = some (.int .i64 b)) (hr : I64 (a + b)) (hdn : Nat.blt d₀ n = true) (kk : WD P n ops S Lt Q ord ((d₀, (.int .i64 (a + b))) :: e) w) : WD P n ops S Lt Q ((i₀, 0) :: ord) e w := by
  refine WD_free (v := (.int .i64 (a + b))) hi₀ hg₀ (fun w' => ?_) hdn kk
  apply PR_add <;> assumption
theorem WL_sub {x y : Operand} {t u : TypeId} {a b : Int} (hx : ev e x = some (.int .i64 a)) (hy : ev e y = some (.int .i64 b)) (hr : I64 (a - b)) (hdn : Nat.blt d₀ n = true) (kk : WL P n ops Q rest ((d₀, (.int .i64 (a - b))) :: e) w) : WL P n ops Q (⟨some d₀, .binOp .sub t x y u, ty, pos, af, none⟩ :: rest) e w := by
  refine WL_pure (v := (.int .i64 (a - b))) ?_ hdn kk
  apply PR_sub <;> assumption
theorem WF_sub {x y : Operand} {t u : TypeId} {a b : Int} (hi₀ : ops[i₀]? = some ⟨some d₀, .binOp .sub t x y u, ty, pos, af, gd⟩) (hg₀ : gdOk ops e gd) (hx : ev e x = some (.int .i64 a)) (hy : ev e y = some (.int .i64 b)) (hr : I64 (a - b)) (hdn : Nat.blt d₀ n = true) (kk : WD P n ops S Lt Q ord ((d₀, (.int .i64 (a - b))) :: e) w) : WD P n ops S Lt Q ((i₀, 0) :: ord) e w := by
  refine WD_free (v := (.int .i64 (a - b))) hi₀ hg₀ (fun w' => ?_) hdn kk
  apply PR_sub <;> assumption
theorem WL_mul {x y : Operand} {t u : TypeId} {a b : Int} (hx : ev e x = some (.int .i64 a)) (hy : ev e y = some (.int .i64 b)) (hr : I64 (a * b)) (hdn : Nat.blt d₀ n = true) (kk : WL P n ops Q rest ((d₀, (.int .i64 (a * b))) :: e) w) : WL P n ops Q (⟨some d₀, .binOp .mul t x y u, ty, pos, af, none⟩ :: rest) e w := by
  refine WL_pure (v := (.int .i64 (a * b))) ?_ hdn kk
  apply PR_mul <;> assumption
theorem WF_mul {x y : Operand} {t u : TypeId} {a b : Int} (hi₀ : ops[i₀]? = some ⟨some d₀, .binOp .mul t x y u, ty, pos, af, gd⟩) (hg₀ : gdOk ops e gd) (hx : ev e x = some (.int .i64 a)) (hy : ev e y = some (.int .i64 b)) (hr : I64 (a * b)) (hdn : Nat.blt d₀ n = true) (kk : WD P n ops S Lt Q ord ((d₀, (.int .i64 (a * b))) :: e) w) : WD P n ops S Lt Q ((i₀, 0) :: ord) e w := by
  refine WD_free (v := (.int .i64 (a * b))) hi₀ hg₀ (fun w' => ?_) hdn kk
  apply PR_mul <;> assumption
theorem WL_neg {x : Operand} {t : TypeId} {a : Int} (hx : ev e x = some (.int .i64 a)) (hr : I64 (- a)) (hdn : Nat.blt d₀ n = true) (kk : WL P n ops Q rest ((d₀, (.int .i64 (- a))) :: e) w) : WL P n ops Q (⟨some d₀, .unOp .neg t x, ty, pos, af, none⟩ :: rest) e w := by
  refine WL_pure (v := (.int .i64 (- a))) ?_ hdn kk
  apply PR_neg <;> assumption
theorem WF_neg {x : Operand} {t : TypeId} {a : Int} (hi₀ : ops[i₀]? = some ⟨some d₀, .unOp .neg t x, ty, pos, af, gd⟩) (hg₀ : gdOk ops e gd) (hx : ev e x = some (.int .i64 a)) (hr : I64 (- a)) (hdn : Nat.blt d₀ n = true) (kk : WD P n ops S Lt Q ord ((d₀, (.int .i64 (- a))) :: e) w) : WD P n ops S Lt Q ((i₀, 0) :: ord) e w := by
  refine WD_free (v := (.int .i64 (- a))) hi₀ hg₀ (fun w' => ?_) hdn kk
  apply PR_neg <;> assumption
theorem WL_remP {x y : Operand} {t u : TypeId} {a b : Int} (hx : ev e x = some (.int .i64 a)) (hy : ev e y = some (.int .i64 b)) (h0 : 0 ≤ a) (hb : 0 < b) (hr : I64 a) (hdn : Nat.blt d₀ n = true) (kk : WL P n ops Q rest ((d₀, (.int .i64 (a % b))) :: e) w) : WL P n ops Q (⟨some d₀, .binOp .rem t x y u, ty, pos, af, none⟩ :: rest) e w := by
  refine WL_pure (v := (.int .i64 (a % b))) ?_ hdn kk
  apply PR_remP <;> assumption
theorem WF_remP {x y : Operand} {t u : TypeId} {a b : Int} (hi₀ : ops[i₀]? = some ⟨some d₀, .binOp .rem t x y u, ty, pos, af, gd⟩) (hg₀ : gdOk ops e gd) (hx : ev e x = some (.int .i64 a)) (hy : ev e y = some (.int .i64 b)) (h0 : 0 ≤ a) (hb : 0 < b) (hr : I64 a) (hdn : Nat.blt d₀ n = true) (kk : WD P n ops S Lt Q ord ((d₀, (.int .i64 (a % b))) :: e) w) : WD P n ops S Lt Q ((i₀, 0) :: ord) e w := by
  refine WD_free (v := (.int .i64 (a % b))) hi₀ hg₀ (fun w' => ?_) hdn kk
  apply PR_remP <;> assumption
theorem WL_quoP {x y : Operand} {t u : TypeId} {a b : Int} (hx : ev e x = some (.int .i64 a)) (hy : ev e y = some (.int .i64 b)) (h0 : 0 ≤ a) (hb : 0 < b) (hr : I64 a) (hdn : Nat.blt d₀ n = true) (kk : WL P n ops Q rest ((d₀, (.int .i64 (a / b))) :: e) w) : WL P n ops Q (⟨some d₀, .binOp .quo t x y u, ty, pos, af, none⟩ :: rest) e w := by
  refine WL_pure (v := (.int .i64 (a / b))) ?_ hdn kk
  apply PR_quoP <;> assumption
theorem WF_quoP {x y : Operand} {t u : TypeId} {a b : Int} (hi₀ : ops[i₀]? = some ⟨some d₀, .binOp .quo t x y u, ty, pos, af, gd⟩) (hg₀ : gdOk ops e gd) (hx : ev e x = some (.int .i64 a)) (hy : ev e y = some (.int .i64 b)) (h0 : 0 ≤ a) (hb : 0 < b) (hr : I64 a) (hdn : Nat.blt d₀ n = true) (kk : WD P n ops S Lt Q ord ((d₀, (.int .i64 (a / b))) :: e) w) : WD P n ops S Lt Q ((i₀, 0) :: ord) e w := by
  refine WD_free (v := (.int .i64 (a / b))) hi₀ hg₀ (fun w' => ?_) hdn kk
  apply PR_quoP <;> assumption
theorem WL_lss {x y : Operand} {t u : TypeId} {a b : Int} {k : IntKind} (hx : ev e x = some (.int k a)) (hy : ev e y = some (.int k b)) (hdn : Nat.blt d₀ n = true) (kk : WL P n ops Q rest ((d₀, (.bool (decide (a < b)))) :: e) w) : WL P n ops Q (⟨some d₀, .binOp .lss t x y u, ty, pos, af, none⟩ :: rest) e w := by
  refine WL_pure (v := (.bool (decide (a < b)))) ?_ hdn kk
  apply PR_lss <;> assumption
theorem WF_lss {x y : Operand} {t u : TypeId} {a b : Int} {k : IntKind} (hi₀ : ops[i₀]? = some ⟨some d₀, .binOp .lss t x y u, ty, pos, af, gd⟩) (hg₀ : gdOk ops e gd) (hx : ev e x = some (.int k a)) (hy : ev e y = some (.int k b)) (hdn : Nat.blt d₀ n = true) (kk : WD P n ops S Lt Q ord ((d₀, (.bool (decide (a < b)))) :: e) w) : WD P n ops S Lt Q ((i₀, 0) :: ord) e w := by
  refine WD_free (v := (.bool (decide (a < b)))) hi₀ hg₀ (fun w' => ?_) hdn kk
  apply PR_lss <;> assumption
theorem WL_leq {x y : Operand} {t u : TypeId} {a b : Int} {k : IntKind} (hx : ev e x = some (.int k a)) (hy : ev e y = some (.int k b)) (hdn : Nat.blt d₀ n = true) (kk : WL P n ops Q rest ((d₀, (.bool (decide (a ≤ b)))) :: e) w) : WL P n ops Q (⟨some d₀, .binOp .leq t x y u, ty, pos, af, none⟩ :: rest) e w := by
  refine WL_pure (v := (.bool (decide (a ≤ b)))) ?_ hdn kk
  apply PR_leq <;> assumption
theorem WF_leq {x y : Operand} {t u : TypeId} {a b : Int} {k : IntKind} (hi₀ : ops[i₀]? = some ⟨some d₀, .binOp .leq t x y u, ty, pos, af, gd⟩) (hg₀ : gdOk ops e gd) (hx : ev e x = some (.int k a)) (hy : ev e y = some (.int k b)) (hdn : Nat.blt d₀ n = true) (kk : WD P n ops S Lt Q ord ((d₀, (.bool (decide (a ≤ b)))) :: e) w) : WD P n ops S Lt Q ((i₀, 0) :: ord) e w := by
  refine WD_free (v := (.bool (decide (a ≤ b)))) hi₀ hg₀ (fun w' => ?_) hdn kk
  apply PR_leq <;> assumption
theorem WL_gtr {x y : Operand} {t u : TypeId} {a b : Int} {k : IntKind} (hx : ev e x = some (.int k a)) (hy : ev e y = some (.int k b)) (hdn : Nat.blt d₀ n = true) (kk : WL P n ops Q rest ((d₀, (.bool (decide (b < a)))) :: e) w) : WL P n ops Q (⟨some d₀, .binOp .gtr t x y u, ty, pos, af, none⟩ :: rest) e w := by
  refine WL_pure (v := (.bool (decide (b < a)))) ?_ hdn kk
  apply PR_gtr <;> assumption
theorem WF_gtr {x y : Operand} {t u : TypeId} {a b : Int} {k : IntKind} (hi₀ : ops[i₀]? = some ⟨some d₀, .binOp .gtr t x y u, ty, pos, af, gd⟩) (hg₀ : gdOk ops e gd) (hx : ev e x = some (.int k a)) (hy : ev e y = some (.int k b)) (hdn : Nat.blt d₀ n = true) (kk : WD P n ops S Lt Q ord ((d₀, (.bool (decide (b < a)))) :: e) w) : WD P n ops S Lt Q ((i₀, 0) :: ord) e w := by
  refine WD_free (v := (.bool (decide (b < a)))) hi₀ hg₀ (fun w' => ?_) hdn kk
  apply PR_gtr <;> assumption
theorem WL_geq {x y : Operand} {t u : TypeId} {a b : Int} {k : IntKind} (hx : ev e x = some (.int k a)) (hy : ev e y = some (.int k b)) (hdn : Nat.blt d₀ n = true) (kk : WL P n ops Q rest ((d₀, (.bool (decide (b ≤ a)))) :: e) w) : WL P n ops Q (⟨some d₀, .binOp .geq t x y u, ty, pos, af, none⟩ :: rest) e w := by
  refine WL_pure (v := (.bool (decide (b ≤ a)))) ?_ hdn kk
  apply PR_geq <;> assumption
theorem WF_geq {x y : Operand} {t u : TypeId} {a b : Int} {k : IntKind} (hi₀ : ops[i₀]? = some ⟨some d₀, .binOp .geq t x y u, ty, pos, af, gd⟩) (hg₀ : gdOk ops e gd) (hx : ev e x = some (.int k a)) (hy : ev e y = some (.int k b)) (hdn : Nat.blt d₀ n = true) (kk : WD P n ops S Lt Q ord ((d₀, (.bool (decide (b ≤ a)))) :: e) w) : WD P n ops S Lt Q ((i₀, 0) :: ord) e w := by
  refine WD_free (v := (.bool (decide (b ≤ a)))) hi₀ hg₀ (fun w' => ?_) hdn kk
  apply PR_geq <;> assumption
theorem WL_eql {x y : Operand} {t u : TypeId} {a b : Int} {k : IntKind} (hx : ev e x = some (.int k a)) (hy : ev e y = some (.int k b)) (hdn : Nat.blt d₀ n = true) (kk : WL P n ops Q rest ((d₀, (.bool (decide (a = b)))) :: e) w) : WL P n ops Q (⟨some d₀, .binOp .eql t x y u, ty, pos, af, none⟩ :: rest) e w := by
  refine WL_pure (v := (.bool (decide (a = b)))) ?_ hdn kk
  apply PR_eql <;> assumption
theorem WF_eql {x y : Operand} {t u : TypeId} {a b : Int} {k : IntKind} (hi₀ : ops[i₀]? = some ⟨some d₀, .binOp .eql t x y u, ty, pos, af, gd⟩) (hg₀ : gdOk ops e gd) (hx : ev e x = some (.int k a)) (hy : ev e y = some (.int k b)) (hdn : Nat.blt d₀ n = true) (kk : WD P n ops S Lt Q ord ((d₀, (.bool (decide (a = b)))) :: e) w) : WD P n ops S Lt Q ((i₀, 0) :: ord) e w := by
  refine WD_free (v := (.bool (decide (a = b)))) hi₀ hg₀ (fun w' => ?_) hdn kk
  apply PR_eql <;> assumption
theorem WL_neq {x y : Operand} {t u : TypeId} {a b : Int} {k : IntKind} (hx : ev e x = some (.int k a)) (hy : ev e y = some (.int k b)) (hdn : Nat.blt d₀ n = true) (kk : WL P n ops Q rest ((d₀, (.bool (decide (¬ a = b)))) :: e) w) : WL P n ops Q (⟨some d₀, .binOp .neq t x y u, ty, pos, af, none⟩ :: rest) e w := by
  refine WL_pure (v := (.bool (decide (¬ a = b)))) ?_ hdn kk
  apply PR_neq <;> assumption
theorem WF_neq {x y : Operand} {t u : TypeId} {a b : Int} {k : IntKind} (hi₀ : ops[i₀]? = some ⟨some d₀, .binOp .neq t x y u, ty, pos, af, gd⟩) (hg₀ : gdOk ops e gd) (hx : ev e x = some (.int k a)) (hy : ev e y = some (.int k b)) (hdn : Nat.blt d₀ n = true) (kk : WD P n ops S Lt Q ord ((d₀, (.bool (decide (¬ a = b)))) :: e) w) : WD P n ops S Lt Q ((i₀, 0) :: ord) e w := by
  refine WD_free (v := (.bool (decide (¬ a = b)))) hi₀ hg₀ (fun w' => ?_) hdn kk
  apply PR_neq <;> assumption
theorem WL_eqlB {x y : Operand} {t u : TypeId} {p q : Bool} [hu : Und P t .bool] (hx : ev e x = some (.bool p)) (hy : ev e y = some (.bool q)) (hdn : Nat.blt d₀ n = true) (kk : WL P n ops Q rest ((d₀, (.bool (decide (p = q)))) :: e) w) : WL P n ops Q (⟨some d₀, .binOp .eql t x y u, ty, pos, af, none⟩ :: rest) e w := by
  refine WL_pure (v := (.bool (decide (p = q)))) ?_ hdn kk
  apply PR_eqlB <;> assumption
theorem WF_eqlB {x y : Operand} {t u : TypeId} {p q : Bool} [hu : Und P t .bool] (hi₀ : ops[i₀]? = some ⟨some d₀, .binOp .eql t x y u, ty, pos, af, gd⟩) (hg₀ : gdOk ops e gd) (hx : ev e x = some (.bool p)) (hy : ev e y = some (.bool q)) (hdn : Nat.blt d₀ n = true) (kk : WD P n ops S Lt Q ord ((d₀, (.bool (decide (p = q)))) :: e) w) : WD P n ops S Lt Q ((i₀, 0) :: ord) e w := by
  refine WD_free (v := (.bool (decide (p = q)))) hi₀ hg₀ (fun w' => ?_) hdn kk
  apply PR_eqlB <;> assumption
theorem WL_neqB {x y : Operand} {t u : TypeId} {p q : Bool} [hu : Und P t .bool] (hx : ev e x = some (.bool p)) (hy : ev e y = some (.bool q)) (hdn : Nat.blt d₀ n = true) (kk : WL P n ops Q rest ((d₀, (.bool (decide (¬ p = q)))) :: e) w) : WL P n ops Q (⟨some d₀, .binOp .neq t x y u, ty, pos, af, none⟩ :: rest) e w := by
  refine WL_pure (v := (.bool (decide (¬ p = q)))) ?_ hdn kk
  apply PR_neqB <;> assumption
theorem WF_neqB {x y : Operand} {t u : TypeId} {p q : Bool} [hu : Und P t .bool] (hi₀ : ops[i₀]? = some ⟨some d₀, .binOp .neq t x y u, ty, pos, af, gd⟩) (hg₀ : gdOk ops e gd) (hx : ev e x = some (.bool p)) (hy : ev e y = some (.bool q)) (hdn : Nat.blt d₀ n = true) (kk : WD P n ops S Lt Q ord ((d₀, (.bool (decide (¬ p = q)))) :: e) w) : WD P n ops S Lt Q ((i₀, 0) :: ord) e w := by
  refine WD_free (v := (.bool (decide (¬ p = q)))) hi₀ hg₀ (fun w' => ?_) hdn kk
  apply PR_neqB <;> assumption
theorem WL_extract {x : Operand} {vs : Array Value} {i : Nat} {v : Value} (hx : ev e x = some (.tuple vs)) (hv : vs[i]? = some v) (hdn : Nat.blt d₀ n = true) (kk : WL P n ops Q rest ((d₀, v) :: e) w) : WL P n ops Q (⟨some d₀, .extract x i, ty, pos, af, none⟩ :: rest) e w := by
  refine WL_pure (v := v) ?_ hdn kk
  apply PR_extract <;> assumption
theorem WF_extract {x : Operand} {vs : Array Value} {i : Nat} {v : Value} (hi₀ : ops[i₀]? = some ⟨some d₀, .extract x i, ty, pos, af, gd⟩) (hg₀ : gdOk ops e gd) (hx : ev e x = some (.tuple vs)) (hv : vs[i]? = some v) (hdn : Nat.blt d₀ n = true) (kk : WD P n ops S Lt Q ord ((d₀, v) :: e) w) : WD P n ops S Lt Q ((i₀, 0) :: ord) e w := by
  refine WD_free (v := v) hi₀ hg₀ (fun w' => ?_) hdn kk
  apply PR_extract <;> assumption
theorem WL_len {x : Operand} {t : TypeId} {el : TypeId} [hu : Und P t (.slice el)] {p : Option Addr} {l c : Nat} (hx : ev e x = some (.slice p l c)) (hdn : Nat.blt d₀ n = true) (kk : WL P n ops Q rest ((d₀, (.int .i64 (l : Int))) :: e) w) : WL P n ops Q (⟨some d₀, .call { callee := .builtin .len, args := #[x], argTypes := #[t] }, ty, pos, af, none⟩ :: rest) e w := by
  refine WL_pure (v := (.int .i64 (l : Int))) ?_ hdn kk
  apply PR_len <;> assumption
theorem WF_len {x : Operand} {t : TypeId} {el : TypeId} [hu : Und P t (.slice el)] {p : Option Addr} {l c : Nat} (hi₀ : ops[i₀]? = some ⟨some d₀, .call { callee := .builtin .len, args := #[x], argTypes := #[t] }, ty, pos, af, gd⟩) (hg₀ : gdOk ops e gd) (hx : ev e x = some (.slice p l c)) (hdn : Nat.blt d₀ n = true) (kk : WD P n ops S Lt Q ord ((d₀, (.int .i64 (l : Int))) :: e) w) : WD P n ops S Lt Q ((i₀, 0) :: ord) e w := by
  refine WD_free (v := (.int .i64 (l : Int))) hi₀ hg₀ (fun w' => ?_) hdn kk
  apply PR_len <;> assumption
theorem WL_fieldAddr {x : Operand} {t : TypeId} {b o i off : Nat} [hf : Fld P t i off] (hx : ev e x = some (.pointer (some ⟨b, o, none⟩))) (hdn : Nat.blt d₀ n = true) (kk : WL P n ops Q rest ((d₀, (.pointer (some ⟨b, o + off, none⟩))) :: e) w) : WL P n ops Q (⟨some d₀, .fieldAddr t x i, ty, pos, af, none⟩ :: rest) e w := by
  refine WL_pure (v := (.pointer (some ⟨b, o + off, none⟩))) ?_ hdn kk
  apply PR_fieldAddr <;> assumption
theorem WF_fieldAddr {x : Operand} {t : TypeId} {b o i off : Nat} [hf : Fld P t i off] (hi₀ : ops[i₀]? = some ⟨some d₀, .fieldAddr t x i, ty, pos, af, gd⟩) (hg₀ : gdOk ops e gd) (hx : ev e x = some (.pointer (some ⟨b, o, none⟩))) (hdn : Nat.blt d₀ n = true) (kk : WD P n ops S Lt Q ord ((d₀, (.pointer (some ⟨b, o + off, none⟩))) :: e) w) : WD P n ops S Lt Q ((i₀, 0) :: ord) e w := by
  refine WD_free (v := (.pointer (some ⟨b, o + off, none⟩))) hi₀ hg₀ (fun w' => ?_) hdn kk
  apply PR_fieldAddr <;> assumption
theorem WL_load1 {x : Operand} {t : TypeId} {D : TypeDesc} {ad : Addr} {v : Value} [hu : Und P t D] (hA : aggB D = false) (hx : ev e x = some (.pointer (some ad))) (hc : w.cell? ad = some v) (hdn : Nat.blt d₀ n = true) (kk : WL P n ops Q rest ((d₀, v) :: e) w) : WL P n ops Q (⟨some d₀, .load t x, ty, pos, af, none⟩ :: rest) e w := by
  refine WL_pure (v := v) ?_ hdn kk
  apply PR_load1 <;> assumption
theorem WL_makeFunc0 {f : Nat} (hdn : Nat.blt d₀ n = true) (kk : WL P n ops Q rest ((d₀, (.func (.func f) #[] #[])) :: e) w) : WL P n ops Q (⟨some d₀, .makeFunc (.func f) #[] #[], ty, pos, af, none⟩ :: rest) e w := by
  refine WL_pure (v := (.func (.func f) #[] #[])) ?_ hdn kk
  apply PR_makeFunc0 <;> assumption
theorem WF_makeFunc0 {f : Nat} (hi₀ : ops[i₀]? = some ⟨some d₀, .makeFunc (.func f) #[] #[], ty, pos, af, gd⟩) (hg₀ : gdOk ops e gd)  (hdn : Nat.blt d₀ n = true) (kk : WD P n ops S Lt Q ord ((d₀, (.func (.func f) #[] #[])) :: e) w) : WD P n ops S Lt Q ((i₀, 0) :: ord) e w := by
  refine WD_free (v := (.func (.func f) #[] #[])) hi₀ hg₀ (fun w' => ?_) hdn kk
  apply PR_makeFunc0 <;> assumption
theorem WL_makeFunc1 {f : Nat} {x : Operand} {v : Value} (hx : ev e x = some v) (hdn : Nat.blt d₀ n = true) (kk : WL P n ops Q rest ((d₀, (.func (.func f) #[] #[v])) :: e) w) : WL P n ops Q (⟨some d₀, .makeFunc (.func f) #[] #[x], ty, pos, af, none⟩ :: rest) e w := by
  refine WL_pure (v := (.func (.func f) #[] #[v])) ?_ hdn kk
  apply PR_makeFunc1 <;> assumption
theorem WF_makeFunc1 {f : Nat} {x : Operand} {v : Value} (hi₀ : ops[i₀]? = some ⟨some d₀, .makeFunc (.func f) #[] #[x], ty, pos, af, gd⟩) (hg₀ : gdOk ops e gd) (hx : ev e x = some v) (hdn : Nat.blt d₀ n = true) (kk : WD P n ops S Lt Q ord ((d₀, (.func (.func f) #[] #[v])) :: e) w) : WD P n ops S Lt Q ((i₀, 0) :: ord) e w := by
  refine WD_free (v := (.func (.func f) #[] #[v])) hi₀ hg₀ (fun w' => ?_) hdn kk
  apply PR_makeFunc1 <;> assumption
theorem WL_makeFunc2 {f : Nat} {x y : Operand} {v u : Value} (hx : ev e x = some v) (hy : ev e y = some u) (hdn : Nat.blt d₀ n = true) (kk : WL P n ops Q rest ((d₀, (.func (.func f) #[] #[v, u])) :: e) w) : WL P n ops Q (⟨some d₀, .makeFunc (.func f) #[] #[x, y], ty, pos, af, none⟩ :: rest) e w := by
  refine WL_pure (v := (.func (.func f) #[] #[v, u])) ?_ hdn kk
  apply PR_makeFunc2 <;> assumption
theorem WF_makeFunc2 {f : Nat} {x y : Operand} {v u : Value} (hi₀ : ops[i₀]? = some ⟨some d₀, .makeFunc (.func f) #[] #[x, y], ty, pos, af, gd⟩) (hg₀ : gdOk ops e gd) (hx : ev e x = some v) (hy : ev e y = some u) (hdn : Nat.blt d₀ n = true) (kk : WD P n ops S Lt Q ord ((d₀, (.func (.func f) #[] #[v, u])) :: e) w) : WD P n ops S Lt Q ((i₀, 0) :: ord) e w := by
  refine WD_free (v := (.func (.func f) #[] #[v, u])) hi₀ hg₀ (fun w' => ?_) hdn kk
  apply PR_makeFunc2 <;> assumption
theorem WL_makeFunc3 {f : Nat} {x y z : Operand} {v u s : Value} (hx : ev e x = some v) (hy : ev e y = some u) (hz : ev e z = some s) (hdn : Nat.blt d₀ n = true) (kk : WL P n ops Q rest ((d₀, (.func (.func f) #[] #[v, u, s])) :: e) w) : WL P n ops Q (⟨some d₀, .makeFunc (.func f) #[] #[x, y, z], ty, pos, af, none⟩ :: rest) e w := by
  refine WL_pure (v := (.func (.func f) #[] #[v, u, s])) ?_ hdn kk
  apply PR_makeFunc3 <;> assumption
theorem WF_makeFunc3 {f : Nat} {x y z : Operand} {v u s : Value} (hi₀ : ops[i₀]? = some ⟨some d₀, .makeFunc (.func f) #[] #[x, y, z], ty, pos, af, gd⟩) (hg₀ : gdOk ops e gd) (hx : ev e x = some v) (hy : ev e y = some u) (hz : ev e z = some s) (hdn : Nat.blt d₀ n = true) (kk : WD P n ops S Lt Q ord ((d₀, (.func (.func f) #[] #[v, u, s])) :: e) w) : WD P n ops S Lt Q ((i₀, 0) :: ord) e w := by
  refine WD_free (v := (.func (.func f) #[] #[v, u, s])) hi₀ hg₀ (fun w' => ?_) hdn kk
  apply PR_makeFunc3 <;> assumption
theorem WL_lenS {α : Type} [GoRep α] {X : List Nat} {xs : List α} {v : Value} {x : Operand} {t : TypeId} {el : TypeId} {w₀ : World} [hu : Und P t (.slice el)] (hx : ev e x = some v) (hs : SlV X w₀ v xs) (hdn : Nat.blt d₀ n = true) (kk : WL P n ops Q rest ((d₀, (.int .i64 (xs.length : Int))) :: e) w) : WL P n ops Q (⟨some d₀, .call { callee := .builtin .len, args := #[x], argTypes := #[t] }, ty, pos, af, none⟩ :: rest) e w := by
  refine WL_pure (v := (.int .i64 (xs.length : Int))) ?_ hdn kk
  apply PR_lenS (α := α) <;> assumption
theorem WF_lenS {α : Type} [GoRep α] {X : List Nat} {xs : List α} {v : Value} {x : Operand} {t : TypeId} {el : TypeId} {w₀ : World} [hu : Und P t (.slice el)] (hi₀ : ops[i₀]? = some ⟨some d₀, .call { callee := .builtin .len, args := #[x], argTypes := #[t] }, ty, pos, af, gd⟩) (hg₀ : gdOk ops e gd) (hx : ev e x = some v) (hs : SlV X w₀ v xs) (hdn : Nat.blt d₀ n = true) (kk : WD P n ops S Lt Q ord ((d₀, (.int .i64 (xs.length : Int))) :: e) w) : WD P n ops S Lt Q ((i₀, 0) :: ord) e w := by
  refine WD_free (v := (.int .i64 (xs.length : Int))) hi₀ hg₀ (fun w' => ?_) hdn kk
  apply PR_lenS (α := α) <;> assumption
theorem WL_idx {α : Type} [GoRep α] {X : List Nat} {xs : List α} {v : Value} {x y : Operand} {t : TypeId} {el k : Nat} [hu : Und P t (.slice el)] [hk : Siz P el k] {z : Int} {i : Nat} {w₀ : World} (hx : ev e x = some v) (hs : SlV X w₀ v xs) (hy : ev e y = some (.int .i64 z)) (hz : z = (i : Int)) (hi : i < xs.length) (hdn : Nat.blt d₀ n = true) (kk : WL P n ops Q rest ((d₀, (.pointer (some (elAddr v i k 0)))) :: e) w) : WL P n ops Q (⟨some d₀, .indexAddr t x y, ty, pos, af, none⟩ :: rest) e w := by
  refine WL_pure (v := (.pointer (some (elAddr v i k 0)))) ?_ hdn kk
  apply PR_idx (α := α) <;> assumption
theorem WF_idx {α : Type} [GoRep α] {X : List Nat} {xs : List α} {v : Value} {x y : Operand} {t : TypeId} {el k : Nat} [hu : Und P t (.slice el)] [hk : Siz P el k] {z : Int} {i : Nat} {w₀ : World} (hi₀ : ops[i₀]? = some ⟨some d₀, .indexAddr t x y, ty, pos, af, gd⟩) (hg₀ : gdOk ops e gd) (hx : ev e x = some v) (hs : SlV X w₀ v xs) (hy : ev e y = some (.int .i64 z)) (hz : z = (i : Int)) (hi : i < xs.length) (hdn : Nat.blt d₀ n = true) (kk : WD P n ops S Lt Q ord ((d₀, (.pointer (some (elAddr v i k 0)))) :: e) w) : WD P n ops S Lt Q ((i₀, 0) :: ord) e w := by
  refine WD_free (v := (.pointer (some (elAddr v i k 0)))) hi₀ hg₀ (fun w' => ?_) hdn kk
  apply PR_idx (α := α) <;> assumption
theorem WL_field_el {x : Operand} {t : TypeId} {v : Value} {i k j m off : Nat} [hf : Fld P t m off] (hx : ev e x = some (.pointer (some (elAddr v i k j)))) (hv : ∃ p l c, v = .slice (some p) l c) (hdn : Nat.blt d₀ n = true) (kk : WL P n ops Q rest ((d₀, (.pointer (some (elAddr v i k (j + off))))) :: e) w) : WL P n ops Q (⟨some d₀, .fieldAddr t x m, ty, pos, af, none⟩ :: rest) e w := by
  refine WL_pure (v := (.pointer (some (elAddr v i k (j + off))))) ?_ hdn kk
  apply PR_field_el <;> assumption
theorem WF_field_el {x : Operand} {t : TypeId} {v : Value} {i k j m off : Nat} [hf : Fld P t m off] (hi₀ : ops[i₀]? = some ⟨some d₀, .fieldAddr t x m, ty, pos, af, gd⟩) (hg₀ : gdOk ops e gd) (hx : ev e x = some (.pointer (some (elAddr v i k j)))) (hv : ∃ p l c, v = .slice (some p) l c) (hdn : Nat.blt d₀ n = true) (kk : WD P n ops S Lt Q ord ((d₀, (.pointer (some (elAddr v i k (j + off))))) :: e) w) : WD P n ops S Lt Q ((i₀, 0) :: ord) e w := by
  refine WD_free (v := (.pointer (some (elAddr v i k (j + off))))) hi₀ hg₀ (fun w' => ?_) hdn kk
  apply PR_field_el <;> assumption
theorem WL_load_el {α : Type} [Flat α] {X : List Nat} {xs : List α} {v u : Value} {i j k : Nat} {x : Operand} {t : TypeId} {D : TypeDesc} [hu : Und P t D] (hA : aggB D = false) (hx : ev e x = some (.pointer (some (elAddr v i k j)))) (hs : SlV X w v xs) (hi : i < xs.length) (hk : k = Flat.k α) (hc : (Flat.enc xs[i])[j]? = some u) (hdn : Nat.blt d₀ n = true) (kk : WL P n ops Q rest ((d₀, u) :: e) w) : WL P n ops Q (⟨some d₀, .load t x, ty, pos, af, none⟩ :: rest) e w := by
  refine WL_pure (v := u) ?_ hdn kk
  apply PR_load_el (α := α) <;> assumption
theorem WL_load_elA {α : Type} [Flat α] {X : List Nat} {xs : List α} {v : Value} {i k : Nat} {x : Operand} {t : TypeId} {D : TypeDesc} [hu : Und P t D] (hA : aggB D = true) [hsz : Siz P t k] (hx : ev e x = some (.pointer (some (elAddr v i k 0)))) (hs : SlV X w v xs) (hi : i < xs.length) (hk : k = Flat.k α) (hdn : Nat.blt d₀ n = true) (kk : WL P n ops Q rest ((d₀, (.agg (Flat.enc xs[i]).toArray)) :: e) w) : WL P n ops Q (⟨some d₀, .load t x, ty, pos, af, none⟩ :: rest) e w := by
  refine WL_pure (v := (.agg (Flat.enc xs[i]).toArray)) ?_ hdn kk
  apply PR_load_elA (α := α) <;> assumption
theorem WL_load_blk {b T o : Nat} {cs : List Value} {u : Value} {x : Operand} {t : TypeId} {D : TypeDesc} [hu : Und P t D] (hA : aggB D = false) (hx : ev e x = some (.pointer (some ⟨b, o, none⟩))) (hb : Blk w b T cs) (hc : cs[o]? = some u) (hdn : Nat.blt d₀ n = true) (kk : WL P n ops Q rest ((d₀, u) :: e) w) : WL P n ops Q (⟨some d₀, .load t x, ty, pos, af, none⟩ :: rest) e w := by
  refine WL_pure (v := u) ?_ hdn kk
  apply PR_load_blk <;> assumption
theorem WL_load_blkA {b T m : Nat} {cs : List Value} {x : Operand} {t : TypeId} {D : TypeDesc} [hu : Und P t D] (hA : aggB D = true) [hsz : Siz P t m] (hx : ev e x = some (.pointer (some ⟨b, 0, none⟩))) (hb : Blk w b T cs) (hl : cs.length = m) (hdn : Nat.blt d₀ n = true) (kk : WL P n ops Q rest ((d₀, (.agg cs.toArray)) :: e) w) : WL P n ops Q (⟨some d₀, .load t x, ty, pos, af, none⟩ :: rest) e w := by
  refine WL_pure (v := (.agg cs.toArray)) ?_ hdn kk
  apply PR_load_blkA <;> assumption
theorem WL_slice_h {α : Type} [GoRep α] {X : List Nat} {v : Value} {xs : List α} {t el k : Nat} {x hi : Operand} {r : Nat} {b : Int} [hu : Und P t (.slice el)] [hk : Siz P el k] {w₀ : World} (hx : ev e x = some v) (hs : SlV X w₀ v xs) (hb : ev e hi = some (.int .i64 b)) (hbr : b = (r : Int)) (hrx : r ≤ xs.length) (hdn : Nat.blt d₀ n = true) (kk : WL P n ops Q rest ((d₀, (slc v 0 r k)) :: e) w) : WL P n ops Q (⟨some d₀, .slice t x none (some hi) none, ty, pos, af, none⟩ :: rest) e w := by
  refine WL_pure (v := (slc v 0 r k)) ?_ hdn kk
  apply PR_slice_h (α := α) <;> assumption
theorem WL_slice_l {α : Type} [GoRep α] {X : List Nat} {v : Value} {xs : List α} {t el k : Nat} {x lo : Operand} {l : Nat} {a : Int} [hu : Und P t (.slice el)] [hk : Siz P el k] {w₀ : World} (hx : ev e x = some v) (hs : SlV X w₀ v xs) (ha : ev e lo = some (.int .i64 a)) (hal : a = (l : Int)) (hlx : l ≤ xs.length) (hdn : Nat.blt d₀ n = true) (kk : WL P n ops Q rest ((d₀, (slc v l xs.length k)) :: e) w) : WL P n ops Q (⟨some d₀, .slice t x (some lo) none none, ty, pos, af, none⟩ :: rest) e w := by
  refine WL_pure (v := (slc v l xs.length k)) ?_ hdn kk
  apply PR_slice_l (α := α) <;> assumption
theorem WL_build {t : TypeId} {l : List (Nat × Operand)} {vs : List (Nat × Value)} {u : Value} (hv : evParts e l = some vs) (hb : ∀ w, (Instr.build t vs.toArray).run P w = .ok u w) (hdn : Nat.blt d₀ n = true) (kk : WL P n ops Q rest ((d₀, u) :: e) w) : WL P n ops Q (⟨some d₀, .build t l.toArray, ty, pos, af, none⟩ :: rest) e w := by
  refine WL_pure (v := u) ?_ hdn kk
  apply PR_build <;> assumption
theorem WF_build {t : TypeId} {l : List (Nat × Operand)} {vs : List (Nat × Value)} {u : Value} (hi₀ : ops[i₀]? = some ⟨some d₀, .build t l.toArray, ty, pos, af, gd⟩) (hg₀ : gdOk ops e gd) (hv : evParts e l = some vs) (hb : ∀ w, (Instr.build t vs.toArray).run P w = .ok u w) (hdn : Nat.blt d₀ n = true) (kk : WD P n ops S Lt Q ord ((d₀, u) :: e) w) : WD P n ops S Lt Q ((i₀, 0) :: ord) e w := by
  refine WD_free (v := u) hi₀ hg₀ (fun w' => ?_) hdn kk
  apply PR_build <;> assumption
theorem WF_neqS {x y : Operand} {t u : TypeId} {p q : Value} {c : Prop} [Decidable c] (hi₀ : ops[i₀]? = some ⟨some d₀, .binOp .neq t x y u, ty, pos, af, gd⟩) (hg₀ : gdOk ops e gd) (hx : ev e x = some p) (hy : ev e y = some q) (hg : ∀ w, (eqGuard .neq t x y p q).run P w = .ok () w) (h : ∀ w, (binOp .neq t p q).run P w = .ok (.bool (decide (¬ c))) w) (hdn : Nat.blt d₀ n = true) (kk : WD P n ops S Lt Q ord ((d₀, (.bool (decide (¬ c)))) :: e) w) : WD P n ops S Lt Q ((i₀, 0) :: ord) e w := by
  refine WD_free (v := (.bool (decide (¬ c)))) hi₀ hg₀ (fun w' => ?_) hdn kk
  apply PR_neqS <;> assumption
theorem is_idx {t : TypeId} {x : Operand} {y : Operand} (h : WL P n ops Q (⟨some d₀, .indexAddr t x y, ty, pos, af, none⟩ :: rest) e w) : WL P n ops Q (⟨some d₀, .indexAddr t x y, ty, pos, af, none⟩ :: rest) e w := h
theorem is_load {t : TypeId} {x : Operand} (h : WL P n ops Q (⟨some d₀, .load t x, ty, pos, af, none⟩ :: rest) e w) : WL P n ops Q (⟨some d₀, .load t x, ty, pos, af, none⟩ :: rest) e w := h
theorem is_len {t : TypeId} {x : Operand} (h : WL P n ops Q (⟨some d₀, .call { callee := .builtin .len, args := #[x], argTypes := #[t] }, ty, pos, af, none⟩ :: rest) e w) : WL P n ops Q (⟨some d₀, .call { callee := .builtin .len, args := #[x], argTypes := #[t] }, ty, pos, af, none⟩ :: rest) e w := h
theorem is_field {t : TypeId} {x : Operand} {m : Nat} (h : WL P n ops Q (⟨some d₀, .fieldAddr t x m, ty, pos, af, none⟩ :: rest) e w) : WL P n ops Q (⟨some d₀, .fieldAddr t x m, ty, pos, af, none⟩ :: rest) e w := h
end
/-! reading rules in a region that draws -/
section
variable {P : Program} {n : Nat} {Q : Exit → Act → World → Prop} {e : Env} {w : World} {ops : Array Oper} {S : List Nat} {Lt : List Nat} {ord : List (Nat × Nat)} {d₀ i₀ : Nat} {ty : TypeId} {pos : String} {af : Array Edge} {gd : Option (Nat × Bool)}
theorem WR_load_blk {b T o : Nat} {cs : List Value} {u : Value} {x : Operand} {t : TypeId} {D : TypeDesc} [hu : Und P t D] (hi₀ : ops[i₀]? = some ⟨some d₀, .load t x, ty, pos, af, gd⟩) (hg₀ : gdOk ops e gd) (hA : aggB D = false) (hx : ev e x = some (.pointer (some ⟨b, o, none⟩))) (hb : Blk w b T cs) (hn : b ∉ S) (hc : cs[o]? = some u) (hdn : Nat.blt d₀ n = true) (kk : WD P n ops S Lt Q ord ((d₀, u) :: e) w) : WD P n ops S Lt Q ((i₀, 1) :: ord) e w :=
  WD_read hi₀ hg₀ (fun w' hS => PR_load_blk hA hx (hb.ext hS hn) hc) hdn kk
theorem WR_load_blkA {b T m : Nat} {cs : List Value} {x : Operand} {t : TypeId} {D : TypeDesc} [hu : Und P t D] [hsz : Siz P t m] (hi₀ : ops[i₀]? = some ⟨some d₀, .load t x, ty, pos, af, gd⟩) (hg₀ : gdOk ops e gd) (hA : aggB D = true) (hx : ev e x = some (.pointer (some ⟨b, 0, none⟩))) (hb : Blk w b T cs) (hn : b ∉ S) (hl : cs.length = m) (hdn : Nat.blt d₀ n = true) (kk : WD P n ops S Lt Q ord ((d₀, .agg cs.toArray) :: e) w) : WD P n ops S Lt Q ((i₀, 1) :: ord) e w :=
  WD_read hi₀ hg₀ (fun w' hS => PR_load_blkA hA hx (hb.ext hS hn) hl) hdn kk
theorem WR_load_el {α : Type} [Flat α] {X : List Nat} {xs : List α} {v u : Value} {i j k : Nat} {x : Operand} {t : TypeId} {D : TypeDesc} [hu : Und P t D] (hi₀ : ops[i₀]? = some ⟨some d₀, .load t x, ty, pos, af, gd⟩) (hg₀ : gdOk ops e gd) (hA : aggB D = false) (hx : ev e x = some (.pointer (some (elAddr v i k j))))
    (hs : SlV X w v xs) (hn : ∀ b ∈ S, b ∈ X) (hi : i < xs.length) (hk : k = Flat.k α) (hc : (Flat.enc xs[i])[j]? = some u) (hdn : Nat.blt d₀ n = true) (kk : WD P n ops S Lt Q ord ((d₀, u) :: e) w) : WD P n ops S Lt Q ((i₀, 1) :: ord) e w :=
  WD_read hi₀ hg₀ (fun w' hS => PR_load_el hA hx (hs.ext hS hn (fun _ h => .inl h)) hi hk hc) hdn kk
theorem WR_load_elA {α : Type} [Flat α] {X : List Nat} {xs : List α} {v : Value} {i k : Nat} {x : Operand} {t : TypeId} {D : TypeDesc} [hu : Und P t D] [hsz : Siz P t k] (hi₀ : ops[i₀]? = some ⟨some d₀, .load t x, ty, pos, af, gd⟩) (hg₀ : gdOk ops e gd) (hA : aggB D = true) (hx : ev e x = some (.pointer (some (elAddr v i k 0))))
    (hs : SlV X w v xs) (hn : ∀ b ∈ S, b ∈ X) (hi : i < xs.length) (hk : k = Flat.k α) (hdn : Nat.blt d₀ n = true) (kk : WD P n ops S Lt Q ord ((d₀, .agg (Flat.enc xs[i]).toArray) :: e) w) : WD P n ops S Lt Q ((i₀, 1) :: ord) e w :=
  WD_read hi₀ hg₀ (fun w' hS => PR_load_elA hA hx (hs.ext hS hn (fun _ h => .inl h)) hi hk) hdn kk
end
end Go.Eng


/-
Arguments opened: a slice of plain data reads as a list ('SlV').
-/
namespace Go.Eng
open Go Go.RowKit Go.Proofs Go.ChangeShapes Go.WideShapes Go.Deep
set_option linter.unusedVariables false
section
variable {H : Type} {enc : TypeId × Value → H} {P : Program} {w : World} {base : Nat} {spare : Nat → Bool} {held : Bool}
theorem addr_add (b o n : Nat) : (⟨b, o, none⟩ : Addr).add n = ⟨b, o + n, none⟩ := by
  unfold Addr.add
  split
  · rename_i h; subst h; rfl
  · rfl
/-- how many elements a datum lists -/
def dlen : DataW H → Nat
  | .slice els _ => els.length
  | _ => 0
theorem slv_of_trod {α : Type} [Flat α] {ok : α → Prop} {t e : TypeId} {fuel : Nat} {cs : List Value} {x : DataW H × List MemPlace} (ht : P.underlying t = some (.slice e)) (hC : P.cellsOf e = Flat.k α) (hpos : 0 < Flat.k α)
    (hread : ∀ n cs' y, cs'.length = Flat.k α → DataW.trod enc P w base spare held n e cs' = some y → ∃ a : α, cs' = Flat.enc a ∧ ok a)
    (h : DataW.trod enc P w base spare held fuel t cs = some x) : ∃ (v : Value) (xs : List α), cs = [v] ∧ SlV [] w v xs ∧ (∀ a ∈ xs, ok a) ∧ dlen x.1 = xs.length := by
  rcases open_slice ht h with ⟨rfl, rfl⟩ | ⟨a, len, cap, m, n, D, Pl, rfl, hb, hl, hm, hmm, hx, hi⟩
  · exact ⟨_, [], rfl, ⟨none, 0, rfl, Nat.le_refl _, by simp [maxLen], fun _ => rfl, fun i h => absurd h (Nat.not_lt_zero _)⟩, by simp, rfl⟩
  · have hlm : len ≤ m := by rw [hmm]; split <;> omega
    have hne : ∀ y : α, ∃ u, (Flat.enc y)[0]? = some u := fun y => ⟨_, List.getElem?_eq_getElem (by rw [Flat.len y]; exact hpos)⟩
    have hall : ∀ i : Fin len, ∃ y : α, ok y ∧ ∀ j u, (Flat.enc y)[j]? = some u → w.cell? (a.add (i * Flat.k α + j)) = some u := by
      intro i
      obtain ⟨cs', hc, htr⟩ := hi i (by omega)
      rw [hC] at hc
      obtain ⟨_, hcl, hat⟩ := World.cells?_some hc
      obtain ⟨y, rfl, hok⟩ := hread n cs' _ hcl htr
      refine ⟨y, hok, fun j u hu => ?_⟩
      have hj : j < Flat.k α := by
        have := (List.getElem?_eq_some_iff.1 hu).1
        rw [Flat.len] at this; exact this
      have := hat j hj
      rw [hu] at this
      rw [← this, Go.Deep.add_add]
    let f : Fin len → α := fun i => (hall i).choose
    have hf : ∀ i : Fin len, ok (f i) ∧ ∀ j u, (Flat.enc (f i))[j]? = some u → w.cell? (a.add (i * Flat.k α + j)) = some u := fun i => (hall i).choose_spec
    refine ⟨_, List.ofFn f, rfl, ⟨some a, cap, by simp, by simpa using hl, hm, by simp, fun i hi' => ?_⟩, fun y hy => ?_, by rw [hx]; simp [dlen]⟩
    · have hi'' : i < len := by simpa using hi'
      have hfi := (hf ⟨i, hi''⟩).2
      obtain ⟨u1, hu1⟩ : ∃ u, (Flat.enc (f ⟨0, by omega⟩))[0]? = some u := hne _
      have hc1 := (hf ⟨0, by omega⟩).2 0 u1 hu1
      obtain ⟨u0, hu0⟩ : ∃ u, (Flat.enc (f ⟨i, hi''⟩))[0]? = some u := hne _
      have hc0 := hfi 0 u0 hu0
      have hsp : a.spot = none := by
        have e0 : a.add ((⟨0, by omega⟩ : Fin len).val * Flat.k α + 0) = a := by simp [Addr.add]
        rw [e0] at hc1
        unfold World.cell? at hc1
        split at hc1
        · cases hs : a.spot with
          | none => rfl
          | some s => simp [hs] at hc1
        · cases hc1
      obtain ⟨b, o, sp⟩ := a
      cases hsp
      refine ⟨b, o, Flat.enc (f ⟨i, hi''⟩), rfl, ?_, by simp, ?_, fun j u hu => ?_⟩
      · have := block_lt_of_cell (a := (⟨b, o, none⟩ : Addr).add (i * Flat.k α + 0)) hc0
        simpa [addr_add] using this
      · simp; rfl
      · have := hfi j u hu
        rw [addr_add] at this
        rw [show o + i * GoRep.k α + j = o + (i * Flat.k α + j) from Nat.add_assoc _ _ _]
        exact this
    · obtain ⟨i, rfl⟩ := List.mem_ofFn.1 hy
      exact (hf i).1

theorem slv_ints {t e : TypeId} {fuel : Nat} {cs : List Value} {x : DataW H × List MemPlace} (ht : P.underlying t = some (.slice e)) (hC : P.cellsOf e = 1) (he : P.underlying e = some (.int .i64))
    (h : DataW.trod enc P w base spare held fuel t cs = some x) : ∃ (v : Value) (xs : List Int), cs = [v] ∧ SlV [] w v xs ∧ (∀ a ∈ xs, I64 a) ∧ dlen x.1 = xs.length :=
  slv_of_trod (α := Int) ht hC (by decide) (fun n cs' y hl hy => by
    obtain ⟨z, rfl, _, hw⟩ := DataW.trod_int he hy
    exact ⟨z, rfl, by simpa [I64, Lit.wf, IntKind.min, IntKind.max, IntKind.signed, IntKind.bits] using hw⟩) h
end
end Go.Eng


/-
A law's last step: the call returns true and leaves the old blocks as they were; so each argument reads as it read.
-/
namespace Go.Eng
open Go Go.RowKit Go.Proofs Go.ChangeShapes Go.WideShapes
set_option linter.unusedVariables false
section
variable {H : Type} {enc : TypeId × Value → H} {P : Program}

/-- the types of the arguments can be read and are rows of the table -/
def rowed (P : Program) (ts : List TypeId) : Bool := ts.all fun t => P.readableRec t && decide (t < P.types.size)

theorem trodAll_stays (hl : laidOutB P = true) {W W' : World} (hb : Below W.heap.size W W') {sp : Nat → Bool} : ∀ {ts : List TypeId} {vs : List Value} {ds : List (DataW H)} {ps : List MemPlace}, rowed P ts = true →
    DataW.TrodAll enc P W 0 (fun _ => true) true ts vs ds ps → (∀ x ∈ ps, x.block < W.heap.size) → (∀ x ∈ ps, sp x.block = true) → DataW.TrodAll enc P W' 0 sp true ts vs ds ps
  | [], [], [], _, _, h, _, _ => h
  | t :: ts, v :: vs, d :: ds, ps, hr, h, hlt, hs => by
    obtain ⟨p, q, h1, h2, rfl⟩ := h
    simp only [rowed, List.all_cons, Bool.and_eq_true, decide_eq_true_eq] at hr
    obtain ⟨⟨r1, r2⟩, r3⟩ := hr
    exact ⟨p, q, WideElems.Trod_stays hl r1 r2 h1 (fun x hx => hb.same (hlt x (by simp [hx]))) (fun x hx => hs x (by simp [hx])), trodAll_stays hl hb (by simpa [rowed] using r3) h2 (fun x hx => hlt x (by simp [hx])) (fun x hx => hs x (by simp [hx])), rfl⟩
  | [], _ :: _, _, _, _, h, _, _ => h.elim
  | [], [], _ :: _, _, _, h, _, _ => h.elim
  | _ :: _, [], _, _, _, h, _, _ => h.elim
  | _ :: _, _ :: _, [], _, _, h, _, _ => h.elim

section
variable {f : Func} {s : ChangeSpec} {apart fresh handsOn again : Bool} {W W' : World} {args : Array Value} {v : Value} {ds gs : List (DataW H)} {before pa pv : List MemPlace}
theorem post_of_below
    (hW : DataW.Whole enc P f.params.toList s.vars apart W args.toList ds gs before)
    (hres : ∀ (b : Nat) (sp : Nat → Bool) (hd : Bool), DataW.TrodAll enc P W' b sp hd f.resultTypes.toList (v.resultList f.resultTypes.size) (s.fn H (ds ++ gs)).results [])
    (hargs : ∀ sp : Nat → Bool, (∀ p ∈ before, sp p.block = true) → DataW.TrodAll enc P W' 0 sp true f.params.toList args.toList (s.fn H (ds ++ gs)).args pa)
    (hvars : ∀ sp : Nat → Bool, (∀ p ∈ before, sp p.block = true) → DataW.TrodVars enc P W' sp s.vars (s.fn H (ds ++ gs)).vars pv)
    (hps : before = pa ++ pv) (hb : Below W.heap.size W W')
    (hok : ∀ (j : Nat) (t : TypeId) (r : Value), f.resultTypes[j]? = some t → (v.resultList f.resultTypes.size)[j]? = some r → Value.okWide P W' .any 0 t r) :
    s.post enc P f apart fresh handsOn again W args v W' := by
  have hlt : ∀ p ∈ before, p.block < W.heap.size := fun p hp => hW.lt p hp
  have hold : ∀ p ∈ before, (fun b => decide (b < W.heap.size)) p.block = true := fun p hp => by simpa using hlt p hp
  refine ⟨ds, gs, before, [], pa, pv, hW, hres _ _ _, hargs _ hold, hvars _ hold, World.keptBut_mono (fun p hp => ⟨hp, ?_⟩) (hb.frame (· ∈ before)), fun _ => ?_⟩
  · rw [hps, List.mem_append] at hp
    exact Or.inr hp
  · obtain ⟨_, _, _, _, _, hz, hn⟩ := hW
    refine ⟨hok, _, _, ([] ++ pa) ++ pv, ⟨[] ++ pa, pv, trodAll_append (hargs _ (fun _ _ => rfl)) (hres _ _ _), hvars _ (fun _ _ => rfl), rfl, ?_, ?_⟩, ?_⟩
    · intro b off hp
      have hin : MemPlace.cell b off ∈ before := by rw [hps]; simpa using hp
      rw [hb.frozen (hlt _ hin)]
      exact hz b off hin
    · intro ha
      have := hn ha
      rw [hps] at this
      simpa using this
    · intro p hp _
      rw [hps]
      simpa using hp
end

/-- what a law answers: true, each argument as it was -/
def LawSpec (s : ChangeSpec) (k : Nat) : Prop := s.vars = [] ∧ ∀ (H : Type) (ds : List (DataW H)), ds.length = k → (s.fn H ds).results = [.lit (.bool true)] ∧ (s.fn H ds).args = ds ∧ (s.fn H ds).vars = []

theorem trodAll_len {W : World} {base : Nat} {sp : Nat → Bool} {hd : Bool} : ∀ {ts : List TypeId} {vs : List Value} {ds : List (DataW H)} {ps : List MemPlace}, DataW.TrodAll enc P W base sp hd ts vs ds ps → ds.length = ts.length
  | [], [], [], _, _ => rfl
  | t :: ts, v :: vs, d :: ds, ps, h => by
    obtain ⟨p, q, h1, h2, rfl⟩ := h
    simp [trodAll_len h2]
  | [], _ :: _, _, _, h => h.elim
  | [], [], _ :: _, _, h => h.elim
  | _ :: _, [], _, _, h => h.elim
  | _ :: _, _ :: _, [], _, h => h.elim

theorem law_post {fn : Func} {K tb : Nat} {s : ChangeSpec} {fresh handsOn again : Bool} {W : World} {args : Array Value} {ds gs : List (DataW H)} {before : List MemPlace} (hl : laidOutB P = true) (hr : rowed P fn.params.toList = true)
    (hres : fn.resultTypes = #[tb]) (hb : P.underlying tb = some .bool) (hs : LawSpec s fn.params.size)
    (hW : DataW.Whole enc P fn.params.toList s.vars false W args.toList ds gs before) (hc : Calls P K args W (Ret fun r w' => r = .bool true ∧ Stp [] W w')) :
    Calls P K args W fun e W' => ∃ v, e = .returned v ∧ s.post enc P fn false fresh handsOn again W args v W' := by
  refine hc.mono ?_
  rintro _ w' ⟨_, rfl, rfl, hS⟩
  refine ⟨_, rfl, ?_⟩
  have hW' := hW
  obtain ⟨p, q, hA, hV, hpq, hfz, hnd⟩ := hW
  rw [hs.1] at hV
  obtain ⟨rfl, rfl⟩ := trodVars_none hV
  have hlen : (ds ++ []).length = fn.params.size := by simpa using trodAll_len hA
  obtain ⟨s1, s2, s3⟩ := hs.2 H (ds ++ []) hlen
  have hlt : ∀ x ∈ before, x.block < W.heap.size := fun x hx => hW'.lt x hx
  refine post_of_below (pa := p) (pv := []) hW' (fun b sp hd => ?_) (fun sp hsp => ?_) (fun sp _ => ?_) hpq hS.below ?_
  · rw [s1, hres]
    exact trodAll_mk1 ⟨1, by simp [DataW.trod, Value.cells, hb]⟩
  · rw [s2]
    simp only [List.append_nil] at hpq ⊢
    subst hpq
    exact trodAll_stays hl hS.below hr hA hlt hsp
  · rw [s3, hs.1]
    rfl
  · exact ok_one hres rfl (by simp [Value.okWide, hb, Cell.okWide, Cell.ok])
end
end Go.Eng

