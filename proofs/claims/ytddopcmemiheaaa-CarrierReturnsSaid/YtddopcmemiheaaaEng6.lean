/-
The walk engine, part 6: each rule for a single operation, stated at the head of a list of operations. Written by a program out of parts 2, 3 and 5.
-/
import Derived.Test.YtddopcmemiheaaaEng5
namespace Go.Eng
open Go Go.RowKit Go.Proofs
set_option linter.unusedVariables false
section
variable {P : Program} {n : Nat} {Q : Exit → Act → World → Prop} {e : Env} {w : World} {ops : Array Oper} {S : List Nat} {Lt : List Nat} {rest : List Oper} {ord : List (Nat × Nat)} {d₀ i₀ : Nat} {ty : TypeId} {pos : String} {af : Array Edge} {gd : Option (Nat × Bool)}
theorem WL_move {x : Operand} {v : Value} (hx : ev e x = some v) (hdn : Nat.blt d₀ n = true) (kk : WL P n ops Q rest ((d₀, v) :: e) w) : WL P n ops Q (⟨some d₀, .move x, ty, pos, af, none⟩ :: rest) e w := by
  refine WL_pure (v := v) ?_ hdn kk
  apply PR_move <;> assumption
theorem WF_move {x : Operand} {v : Value} (hi₀ : ops[i₀]? = some ⟨some d₀, .move x, ty, pos, af, gd⟩) (hg₀ : gdOk ops e gd) (hx : ev e x = some v) (hdn : Nat.blt d₀ n = true) (kk : WD P n ops S Lt Q ord ((d₀, v) :: e) w) : WD P n ops S Lt Q ((i₀, 0) :: ord) e w := by
  refine WD_free (v := v) hi₀ hg₀ (fun w' => ?_) hdn kk
  apply PR_move <;> assumption
theorem WL_assign {x : Operand} {v : Value} (hx : ev e x = some v) (hdn : Nat.blt d₀ n = true) (kk : WL P n ops Q rest ((d₀, v) :: e) w) : WL P n ops Q (⟨some d₀, .assign x, ty, pos, af, none⟩ :: rest) e w := by
  refine WL_pure (v := v) ?_ hdn kk
  apply PR_assign <;> assumption
theorem WF_assign {x : Operand} {v : Value} (hi₀ : ops[i₀]? = some ⟨some d₀, .assign x, ty, pos, af, gd⟩) (hg₀ : gdOk ops e gd) (hx : ev e x = some v) (hdn : Nat.blt d₀ n = true) (kk : WD P n ops S Lt Q ord ((d₀, v) :: e) w) : WD P n ops S Lt Q ((i₀, 0) :: ord) e w := by
  refine WD_free (v := v) hi₀ hg₀ (fun w' => ?_) hdn kk
  apply PR_assign <;> assumption
theorem WL_pick_t {c x y : Operand} {v : Value} (hc : ev e c = some (.bool true)) (hx : ev e x = some v) (hdn : Nat.blt d₀ n = true) (kk : WL P n ops Q rest ((d₀, v) :: e) w) : WL P n ops Q (⟨some d₀, .pick c x y, ty, pos, af, none⟩ :: rest) e w := by
  refine WL_pure (v := v) ?_ hdn kk
  apply PR_pick_t <;> assumption
theorem WF_pick_t {c x y : Operand} {v : Value} (hi₀ : ops[i₀]? = some ⟨some d₀, .pick c x y, ty, pos, af, gd⟩) (hg₀ : gdOk ops e gd) (hc : ev e c = some (.bool true)) (hx : ev e x = some v) (hdn : Nat.blt d₀ n = true) (kk : WD P n ops S Lt Q ord ((d₀, v) :: e) w) : WD P n ops S Lt Q ((i₀, 0) :: ord) e w := by
  refine WD_free (v := v) hi₀ hg₀ (fun w' => ?_) hdn kk
  apply PR_pick_t <;> assumption
theorem WL_pick_f {c x y : Operand} {v : Value} (hc : ev e c = some (.bool false)) (hx : ev e y = some v) (hdn : Nat.blt d₀ n = true) (kk : WL P n ops Q rest ((d₀, v) :: e) w) : WL P n ops Q (⟨some d₀, .pick c x y, ty, pos, af, none⟩ :: rest) e w := by
  refine WL_pure (v := v) ?_ hdn kk
  apply PR_pick_f <;> assumption
theorem WF_pick_f {c x y : Operand} {v : Value} (hi₀ : ops[i₀]? = some ⟨some d₀, .pick c x y, ty, pos, af, gd⟩) (hg₀ : gdOk ops e gd) (hc : ev e c = some (.bool false)) (hx : ev e y = some v) (hdn : Nat.blt d₀ n = true) (kk : WD P n ops S Lt Q ord ((d₀, v) :: e) w) : WD P n ops S Lt Q ((i₀, 0) :: ord) e w := by
  refine WD_free (v := v) hi₀ hg₀ (fun w' => ?_) hdn kk
  apply PR_pick_f <;> assumption
theorem WL_not {t : TypeId} {x : Operand} {b : Bool} (hx : ev e x = some (.bool b))  (hdn : Nat.blt d₀ n = true) (kk : WL P n ops Q rest ((d₀, (.bool (!b))) :: e) w) : WL P n ops Q (⟨some d₀, .unOp .not t x, ty, pos, af, none⟩ :: rest) e w := by
  refine WL_pure (v := (.bool (!b))) ?_ hdn kk
  apply PR_not <;> assumption
theorem WF_not {t : TypeId} {x : Operand} {b : Bool} (hi₀ : ops[i₀]? = some ⟨some d₀, .unOp .not t x, ty, pos, af, gd⟩) (hg₀ : gdOk ops e gd) (hx : ev e x = some (.bool b)) (hdn : Nat.blt d₀ n = true) (kk : WD P n ops S Lt Q ord ((d₀, (.bool (!b))) :: e) w) : WD P n ops S Lt Q ((i₀, 0) :: ord) e w := by
  refine WD_free (v := (.bool (!b))) hi₀ hg₀ (fun w' => ?_) hdn kk
  apply PR_not <;> assumption
theorem WL_not_t {t : TypeId} {x : Operand} (hx : ev e x = some (.bool true))  (hdn : Nat.blt d₀ n = true) (kk : WL P n ops Q rest ((d₀, (.bool false)) :: e) w) : WL P n ops Q (⟨some d₀, .unOp .not t x, ty, pos, af, none⟩ :: rest) e w := by
  refine WL_pure (v := (.bool false)) ?_ hdn kk
  apply PR_not_t <;> assumption
theorem WF_not_t {t : TypeId} {x : Operand} (hi₀ : ops[i₀]? = some ⟨some d₀, .unOp .not t x, ty, pos, af, gd⟩) (hg₀ : gdOk ops e gd) (hx : ev e x = some (.bool true)) (hdn : Nat.blt d₀ n = true) (kk : WD P n ops S Lt Q ord ((d₀, (.bool false)) :: e) w) : WD P n ops S Lt Q ((i₀, 0) :: ord) e w := by
  refine WD_free (v := (.bool false)) hi₀ hg₀ (fun w' => ?_) hdn kk
  apply PR_not_t <;> assumption
theorem WL_not_f {t : TypeId} {x : Operand} (hx : ev e x = some (.bool false))  (hdn : Nat.blt d₀ n = true) (kk : WL P n ops Q rest ((d₀, (.bool true)) :: e) w) : WL P n ops Q (⟨some d₀, .unOp .not t x, ty, pos, af, none⟩ :: rest) e w := by
  refine WL_pure (v := (.bool true)) ?_ hdn kk
  apply PR_not_f <;> assumption
theorem WF_not_f {t : TypeId} {x : Operand} (hi₀ : ops[i₀]? = some ⟨some d₀, .unOp .not t x, ty, pos, af, gd⟩) (hg₀ : gdOk ops e gd) (hx : ev e x = some (.bool false)) (hdn : Nat.blt d₀ n = true) (kk : WD P n ops S Lt Q ord ((d₀, (.bool true)) :: e) w) : WD P n ops S Lt Q ((i₀, 0) :: ord) e w := by
  refine WD_free (v := (.bool true)) hi₀ hg₀ (fun w' => ?_) hdn kk
  apply PR_not_f <;> assumption
theorem WL_not_d {t : TypeId} {x : Operand} {p : Prop} [Decidable p] (hx : ev e x = some (.bool (decide p)))  (hdn : Nat.blt d₀ n = true) (kk : WL P n ops Q rest ((d₀, (.bool (decide (¬ p)))) :: e) w) : WL P n ops Q (⟨some d₀, .unOp .not t x, ty, pos, af, none⟩ :: rest) e w := by
  refine WL_pure (v := (.bool (decide (¬ p)))) ?_ hdn kk
  apply PR_not_d <;> assumption
theorem WF_not_d {t : TypeId} {x : Operand} {p : Prop} [Decidable p] (hi₀ : ops[i₀]? = some ⟨some d₀, .unOp .not t x, ty, pos, af, gd⟩) (hg₀ : gdOk ops e gd) (hx : ev e x = some (.bool (decide p))) (hdn : Nat.blt d₀ n = true) (kk : WD P n ops S Lt Q ord ((d₀, (.bool (decide (¬ p)))) :: e) w) : WD P n ops S Lt Q ((i₀, 0) :: ord) e w := by
  refine WD_free (v := (.bool (decide (¬ p)))) hi₀ hg₀ (fun w' => ?_) hdn kk
  apply PR_not_d <;> assumption
theorem WL_add {x y : Operand} {t u : TypeId} {a b : Int} (hx : ev e x = some (.int .i64 a)) (hy : ev e y = some (.int .i64 b)) (hr : I64 (a + b)) (hdn : Nat.blt d₀ n = true) (kk : WL P n ops Q rest ((d₀, (.int .i64 (a + b))) :: e) w) : WL P n ops Q (⟨some d₀, .binOp .add t x y u, ty, pos, af, none⟩ :: rest) e w := by
  refine WL_pure (v := (.int .i64 (a + b))) ?_ hdn kk
  apply PR_add <;> assumption
theorem WF_add {x y : Operand} {t u : TypeId} {a b : Int} (hi₀ : ops[i₀]? = some ⟨some d₀, .binOp .add t x y u, ty, pos, af, gd⟩) (hg₀ : gdOk ops e gd) (hx : ev e x = some (.int .i64 a)) (hy : ev e y = some (.int .i64 b)) (hr : I64 (a + b)) (hdn : Nat.blt d₀ n = true) (kk : WD P n ops S Lt Q ord ((d₀, (.int .i64 (a + b))) :: e) w) : WD P n ops S Lt Q ((i₀, 0) :: ord) e w := by
  refine WD_free (v := (.int .i64 (a + b))) hi₀ hg₀ (fun w' => ?_) hdn kk
  apply PR_add <;> assumption
theorem WL_sub {x y : Operand} {t u : TypeId} {a b : Int} (hx : ev e x = some (.int .i64 a)) (hy : ev e y = some (.int .i64 b)) (hr : I64 (a - b)) (hdn : Nat.blt d₀ n = true) (kk : WL P n ops Q rest ((d₀, (.int .i64 (a - b))) :: e) w) : WL P n ops Q (⟨some d₀, .binOp .sub t x y u, ty, pos, af, none⟩ :: rest) e w := by
  refine WL_pure (v := (.int .i64 (a - b))) ?_ hdn kk
  apply PR_sub <;> assumption
theorem WF_sub {x y : Operand} {t u : TypeId} {a b : Int} (hi₀ : ops[i₀]? = some ⟨some d₀, .binOp .sub t x y u, ty, pos, af, gd⟩) (hg₀ : gdOk ops e gd) (hx : ev e x = some (.int .i64 a)) (hy : ev e y = some (.int .i64 b)) (hr : I64 (a - b)) (hdn : Nat.blt d₀ n = true) (kk : WD P n ops S Lt Q ord ((d₀, (.int .i64 (a - b))) :: e) w) : WD P n ops S Lt Q ((i₀, 0) :: ord) e w := by
  refine WD_free (v := (.int .i64 (a - b))) hi₀ hg₀ (fun w' => ?_) hdn kk
  apply PR_sub <;> assumption
theorem WL_mul {x y : Operand} {t u : TypeId} {a b : Int} (hx : ev e x = some (.int .i64 a)) (hy : ev e y = some (.int .i64 b)) (hr : I64 (a * b)) (hdn : Nat.blt d₀ n = true) (kk : WL P n ops Q rest ((d₀, (.int .i64 (a * b))) :: e) w) : WL P n ops Q (⟨some d₀, .binOp .mul t x y u, ty, pos, af, none⟩ :: rest) e w := by
  refine WL_pure (v := (.int .i64 (a * b))) ?_ hdn kk
  apply PR_mul <;> assumption
theorem WF_mul {x y : Operand} {t u : TypeId} {a b : Int} (hi₀ : ops[i₀]? = some ⟨some d₀, .binOp .mul t x y u, ty, pos, af, gd⟩) (hg₀ : gdOk ops e gd) (hx : ev e x = some (.int .i64 a)) (hy : ev e y = some (.int .i64 b)) (hr : I64 (a * b)) (hdn : Nat.blt d₀ n = true) (kk : WD P n ops S Lt Q ord ((d₀, (.int .i64 (a * b))) :: e) w) : WD P n ops S Lt Q ((i₀, 0) :: ord) e w := by
  refine WD_free (v := (.int .i64 (a * b))) hi₀ hg₀ (fun w' => ?_) hdn kk
  apply PR_mul <;> assumption
theorem WL_neg {x : Operand} {t : TypeId} {a : Int} (hx : ev e x = some (.int .i64 a)) (hr : I64 (- a)) (hdn : Nat.blt d₀ n = true) (kk : WL P n ops Q rest ((d₀, (.int .i64 (- a))) :: e) w) : WL P n ops Q (⟨some d₀, .unOp .neg t x, ty, pos, af, none⟩ :: rest) e w := by
  refine WL_pure (v := (.int .i64 (- a))) ?_ hdn kk
  apply PR_neg <;> assumption
theorem WF_neg {x : Operand} {t : TypeId} {a : Int} (hi₀ : ops[i₀]? = some ⟨some d₀, .unOp .neg t x, ty, pos, af, gd⟩) (hg₀ : gdOk ops e gd) (hx : ev e x = some (.int .i64 a)) (hr : I64 (- a)) (hdn : Nat.blt d₀ n = true) (kk : WD P n ops S Lt Q ord ((d₀, (.int .i64 (- a))) :: e) w) : WD P n ops S Lt Q ((i₀, 0) :: ord) e w := by
  refine WD_free (v := (.int .i64 (- a))) hi₀ hg₀ (fun w' => ?_) hdn kk
  apply PR_neg <;> assumption
theorem WL_rem {x y : Operand} {t u : TypeId} {a b : Int} (hx : ev e x = some (.int .i64 a)) (hy : ev e y = some (.int .i64 b)) (hb : b ≠ 0) (hr : I64 (a.tmod b)) (hdn : Nat.blt d₀ n = true) (kk : WL P n ops Q rest ((d₀, (.int .i64 (a.tmod b))) :: e) w) : WL P n ops Q (⟨some d₀, .binOp .rem t x y u, ty, pos, af, none⟩ :: rest) e w := by
  refine WL_pure (v := (.int .i64 (a.tmod b))) ?_ hdn kk
  apply PR_rem <;> assumption
theorem WF_rem {x y : Operand} {t u : TypeId} {a b : Int} (hi₀ : ops[i₀]? = some ⟨some d₀, .binOp .rem t x y u, ty, pos, af, gd⟩) (hg₀ : gdOk ops e gd) (hx : ev e x = some (.int .i64 a)) (hy : ev e y = some (.int .i64 b)) (hb : b ≠ 0) (hr : I64 (a.tmod b)) (hdn : Nat.blt d₀ n = true) (kk : WD P n ops S Lt Q ord ((d₀, (.int .i64 (a.tmod b))) :: e) w) : WD P n ops S Lt Q ((i₀, 0) :: ord) e w := by
  refine WD_free (v := (.int .i64 (a.tmod b))) hi₀ hg₀ (fun w' => ?_) hdn kk
  apply PR_rem <;> assumption
theorem WL_quo {x y : Operand} {t u : TypeId} {a b : Int} (hx : ev e x = some (.int .i64 a)) (hy : ev e y = some (.int .i64 b)) (hb : b ≠ 0) (hr : I64 (a.tdiv b)) (hdn : Nat.blt d₀ n = true) (kk : WL P n ops Q rest ((d₀, (.int .i64 (a.tdiv b))) :: e) w) : WL P n ops Q (⟨some d₀, .binOp .quo t x y u, ty, pos, af, none⟩ :: rest) e w := by
  refine WL_pure (v := (.int .i64 (a.tdiv b))) ?_ hdn kk
  apply PR_quo <;> assumption
theorem WF_quo {x y : Operand} {t u : TypeId} {a b : Int} (hi₀ : ops[i₀]? = some ⟨some d₀, .binOp .quo t x y u, ty, pos, af, gd⟩) (hg₀ : gdOk ops e gd) (hx : ev e x = some (.int .i64 a)) (hy : ev e y = some (.int .i64 b)) (hb : b ≠ 0) (hr : I64 (a.tdiv b)) (hdn : Nat.blt d₀ n = true) (kk : WD P n ops S Lt Q ord ((d₀, (.int .i64 (a.tdiv b))) :: e) w) : WD P n ops S Lt Q ((i₀, 0) :: ord) e w := by
  refine WD_free (v := (.int .i64 (a.tdiv b))) hi₀ hg₀ (fun w' => ?_) hdn kk
  apply PR_quo <;> assumption
theorem WL_remP {x y : Operand} {t u : TypeId} {a b : Int} (hx : ev e x = some (.int .i64 a)) (hy : ev e y = some (.int .i64 b)) (h0 : 0 ≤ a) (hb : 0 < b) (hr : I64 a) (hdn : Nat.blt d₀ n = true) (kk : WL P n ops Q rest ((d₀, (.int .i64 (a % b))) :: e) w) : WL P n ops Q (⟨some d₀, .binOp .rem t x y u, ty, pos, af, none⟩ :: rest) e w := by
  refine WL_pure (v := (.int .i64 (a % b))) ?_ hdn kk
  apply PR_remP <;> assumption
theorem WF_remP {x y : Operand} {t u : TypeId} {a b : Int} (hi₀ : ops[i₀]? = some ⟨some d₀, .binOp .rem t x y u, ty, pos, af, gd⟩) (hg₀ : gdOk ops e gd) (hx : ev e x = some (.int .i64 a)) (hy : ev e y = some (.int .i64 b)) (h0 : 0 ≤ a) (hb : 0 < b) (hr : I64 a) (hdn : Nat.blt d₀ n = true) (kk : WD P n ops S Lt Q ord ((d₀, (.int .i64 (a % b))) :: e) w) : WD P n ops S Lt Q ((i₀, 0) :: ord) e w := by
  refine WD_free (v := (.int .i64 (a % b))) hi₀ hg₀ (fun w' => ?_) hdn kk
  apply PR_remP <;> assumption
theorem WL_quoP {x y : Operand} {t u : TypeId} {a b : Int} (hx : ev e x = some (.int .i64 a)) (hy : ev e y = some (.int .i64 b)) (h0 : 0 ≤ a) (hb : 0 < b) (hr : I64 a) (hdn : Nat.blt d₀ n = true) (kk : WL P n ops Q rest ((d₀, (.int .i64 (a / b))) :: e) w) : WL P n ops Q (⟨some d₀, .binOp .quo t x y u, ty, pos, af, none⟩ :: rest) e w := by
  refine WL_pure (v := (.int .i64 (a / b))) ?_ hdn kk
  apply PR_quoP <;> assumption
theorem WF_quoP {x y : Operand} {t u : TypeId} {a b : Int} (hi₀ : ops[i₀]? = some ⟨some d₀, .binOp .quo t x y u, ty, pos, af, gd⟩) (hg₀ : gdOk ops e gd) (hx : ev e x = some (.int .i64 a)) (hy : ev e y = some (.int .i64 b)) (h0 : 0 ≤ a) (hb : 0 < b) (hr : I64 a) (hdn : Nat.blt d₀ n = true) (kk : WD P n ops S Lt Q ord ((d₀, (.int .i64 (a / b))) :: e) w) : WD P n ops S Lt Q ((i₀, 0) :: ord) e w := by
  refine WD_free (v := (.int .i64 (a / b))) hi₀ hg₀ (fun w' => ?_) hdn kk
  apply PR_quoP <;> assumption
theorem WL_lss {x y : Operand} {t u : TypeId} {a b : Int} {k : IntKind} (hx : ev e x = some (.int k a)) (hy : ev e y = some (.int k b)) (hdn : Nat.blt d₀ n = true) (kk : WL P n ops Q rest ((d₀, (.bool (decide (a < b)))) :: e) w) : WL P n ops Q (⟨some d₀, .binOp .lss t x y u, ty, pos, af, none⟩ :: rest) e w := by
  refine WL_pure (v := (.bool (decide (a < b)))) ?_ hdn kk
  apply PR_lss <;> assumption
theorem WF_lss {x y : Operand} {t u : TypeId} {a b : Int} {k : IntKind} (hi₀ : ops[i₀]? = some ⟨some d₀, .binOp .lss t x y u, ty, pos, af, gd⟩) (hg₀ : gdOk ops e gd) (hx : ev e x = some (.int k a)) (hy : ev e y = some (.int k b)) (hdn : Nat.blt d₀ n = true) (kk : WD P n ops S Lt Q ord ((d₀, (.bool (decide (a < b)))) :: e) w) : WD P n ops S Lt Q ((i₀, 0) :: ord) e w := by
  refine WD_free (v := (.bool (decide (a < b)))) hi₀ hg₀ (fun w' => ?_) hdn kk
  apply PR_lss <;> assumption
theorem WL_leq {x y : Operand} {t u : TypeId} {a b : Int} {k : IntKind} (hx : ev e x = some (.int k a)) (hy : ev e y = some (.int k b)) (hdn : Nat.blt d₀ n = true) (kk : WL P n ops Q rest ((d₀, (.bool (decide (a ≤ b)))) :: e) w) : WL P n ops Q (⟨some d₀, .binOp .leq t x y u, ty, pos, af, none⟩ :: rest) e w := by
  refine WL_pure (v := (.bool (decide (a ≤ b)))) ?_ hdn kk
  apply PR_leq <;> assumption
theorem WF_leq {x y : Operand} {t u : TypeId} {a b : Int} {k : IntKind} (hi₀ : ops[i₀]? = some ⟨some d₀, .binOp .leq t x y u, ty, pos, af, gd⟩) (hg₀ : gdOk ops e gd) (hx : ev e x = some (.int k a)) (hy : ev e y = some (.int k b)) (hdn : Nat.blt d₀ n = true) (kk : WD P n ops S Lt Q ord ((d₀, (.bool (decide (a ≤ b)))) :: e) w) : WD P n ops S Lt Q ((i₀, 0) :: ord) e w := by
  refine WD_free (v := (.bool (decide (a ≤ b)))) hi₀ hg₀ (fun w' => ?_) hdn kk
  apply PR_leq <;> assumption
theorem WL_gtr {x y : Operand} {t u : TypeId} {a b : Int} {k : IntKind} (hx : ev e x = some (.int k a)) (hy : ev e y = some (.int k b)) (hdn : Nat.blt d₀ n = true) (kk : WL P n ops Q rest ((d₀, (.bool (decide (b < a)))) :: e) w) : WL P n ops Q (⟨some d₀, .binOp .gtr t x y u, ty, pos, af, none⟩ :: rest) e w := by
  refine WL_pure (v := (.bool (decide (b < a)))) ?_ hdn kk
  apply PR_gtr <;> assumption
theorem WF_gtr {x y : Operand} {t u : TypeId} {a b : Int} {k : IntKind} (hi₀ : ops[i₀]? = some ⟨some d₀, .binOp .gtr t x y u, ty, pos, af, gd⟩) (hg₀ : gdOk ops e gd) (hx : ev e x = some (.int k a)) (hy : ev e y = some (.int k b)) (hdn : Nat.blt d₀ n = true) (kk : WD P n ops S Lt Q ord ((d₀, (.bool (decide (b < a)))) :: e) w) : WD P n ops S Lt Q ((i₀, 0) :: ord) e w := by
  refine WD_free (v := (.bool (decide (b < a)))) hi₀ hg₀ (fun w' => ?_) hdn kk
  apply PR_gtr <;> assumption
theorem WL_geq {x y : Operand} {t u : TypeId} {a b : Int} {k : IntKind} (hx : ev e x = some (.int k a)) (hy : ev e y = some (.int k b)) (hdn : Nat.blt d₀ n = true) (kk : WL P n ops Q rest ((d₀, (.bool (decide (b ≤ a)))) :: e) w) : WL P n ops Q (⟨some d₀, .binOp .geq t x y u, ty, pos, af, none⟩ :: rest) e w := by
  refine WL_pure (v := (.bool (decide (b ≤ a)))) ?_ hdn kk
  apply PR_geq <;> assumption
theorem WF_geq {x y : Operand} {t u : TypeId} {a b : Int} {k : IntKind} (hi₀ : ops[i₀]? = some ⟨some d₀, .binOp .geq t x y u, ty, pos, af, gd⟩) (hg₀ : gdOk ops e gd) (hx : ev e x = some (.int k a)) (hy : ev e y = some (.int k b)) (hdn : Nat.blt d₀ n = true) (kk : WD P n ops S Lt Q ord ((d₀, (.bool (decide (b ≤ a)))) :: e) w) : WD P n ops S Lt Q ((i₀, 0) :: ord) e w := by
  refine WD_free (v := (.bool (decide (b ≤ a)))) hi₀ hg₀ (fun w' => ?_) hdn kk
  apply PR_geq <;> assumption
theorem WL_eql {x y : Operand} {t u : TypeId} {a b : Int} {k : IntKind} (hx : ev e x = some (.int k a)) (hy : ev e y = some (.int k b)) (hdn : Nat.blt d₀ n = true) (kk : WL P n ops Q rest ((d₀, (.bool (decide (a = b)))) :: e) w) : WL P n ops Q (⟨some d₀, .binOp .eql t x y u, ty, pos, af, none⟩ :: rest) e w := by
  refine WL_pure (v := (.bool (decide (a = b)))) ?_ hdn kk
  apply PR_eql <;> assumption
theorem WF_eql {x y : Operand} {t u : TypeId} {a b : Int} {k : IntKind} (hi₀ : ops[i₀]? = some ⟨some d₀, .binOp .eql t x y u, ty, pos, af, gd⟩) (hg₀ : gdOk ops e gd) (hx : ev e x = some (.int k a)) (hy : ev e y = some (.int k b)) (hdn : Nat.blt d₀ n = true) (kk : WD P n ops S Lt Q ord ((d₀, (.bool (decide (a = b)))) :: e) w) : WD P n ops S Lt Q ((i₀, 0) :: ord) e w := by
  refine WD_free (v := (.bool (decide (a = b)))) hi₀ hg₀ (fun w' => ?_) hdn kk
  apply PR_eql <;> assumption
theorem WL_neq {x y : Operand} {t u : TypeId} {a b : Int} {k : IntKind} (hx : ev e x = some (.int k a)) (hy : ev e y = some (.int k b)) (hdn : Nat.blt d₀ n = true) (kk : WL P n ops Q rest ((d₀, (.bool (decide (¬ a = b)))) :: e) w) : WL P n ops Q (⟨some d₀, .binOp .neq t x y u, ty, pos, af, none⟩ :: rest) e w := by
  refine WL_pure (v := (.bool (decide (¬ a = b)))) ?_ hdn kk
  apply PR_neq <;> assumption
theorem WF_neq {x y : Operand} {t u : TypeId} {a b : Int} {k : IntKind} (hi₀ : ops[i₀]? = some ⟨some d₀, .binOp .neq t x y u, ty, pos, af, gd⟩) (hg₀ : gdOk ops e gd) (hx : ev e x = some (.int k a)) (hy : ev e y = some (.int k b)) (hdn : Nat.blt d₀ n = true) (kk : WD P n ops S Lt Q ord ((d₀, (.bool (decide (¬ a = b)))) :: e) w) : WD P n ops S Lt Q ((i₀, 0) :: ord) e w := by
  refine WD_free (v := (.bool (decide (¬ a = b)))) hi₀ hg₀ (fun w' => ?_) hdn kk
  apply PR_neq <;> assumption
theorem WL_eqlB {x y : Operand} {t u : TypeId} {p q : Bool} [hu : Und P t .bool] (hx : ev e x = some (.bool p)) (hy : ev e y = some (.bool q)) (hdn : Nat.blt d₀ n = true) (kk : WL P n ops Q rest ((d₀, (.bool (decide (p = q)))) :: e) w) : WL P n ops Q (⟨some d₀, .binOp .eql t x y u, ty, pos, af, none⟩ :: rest) e w := by
  refine WL_pure (v := (.bool (decide (p = q)))) ?_ hdn kk
  apply PR_eqlB <;> assumption
theorem WF_eqlB {x y : Operand} {t u : TypeId} {p q : Bool} [hu : Und P t .bool] (hi₀ : ops[i₀]? = some ⟨some d₀, .binOp .eql t x y u, ty, pos, af, gd⟩) (hg₀ : gdOk ops e gd) (hx : ev e x = some (.bool p)) (hy : ev e y = some (.bool q)) (hdn : Nat.blt d₀ n = true) (kk : WD P n ops S Lt Q ord ((d₀, (.bool (decide (p = q)))) :: e) w) : WD P n ops S Lt Q ((i₀, 0) :: ord) e w := by
  refine WD_free (v := (.bool (decide (p = q)))) hi₀ hg₀ (fun w' => ?_) hdn kk
  apply PR_eqlB <;> assumption
theorem WL_neqB {x y : Operand} {t u : TypeId} {p q : Bool} [hu : Und P t .bool] (hx : ev e x = some (.bool p)) (hy : ev e y = some (.bool q)) (hdn : Nat.blt d₀ n = true) (kk : WL P n ops Q rest ((d₀, (.bool (decide (¬ p = q)))) :: e) w) : WL P n ops Q (⟨some d₀, .binOp .neq t x y u, ty, pos, af, none⟩ :: rest) e w := by
  refine WL_pure (v := (.bool (decide (¬ p = q)))) ?_ hdn kk
  apply PR_neqB <;> assumption
theorem WF_neqB {x y : Operand} {t u : TypeId} {p q : Bool} [hu : Und P t .bool] (hi₀ : ops[i₀]? = some ⟨some d₀, .binOp .neq t x y u, ty, pos, af, gd⟩) (hg₀ : gdOk ops e gd) (hx : ev e x = some (.bool p)) (hy : ev e y = some (.bool q)) (hdn : Nat.blt d₀ n = true) (kk : WD P n ops S Lt Q ord ((d₀, (.bool (decide (¬ p = q)))) :: e) w) : WD P n ops S Lt Q ((i₀, 0) :: ord) e w := by
  refine WD_free (v := (.bool (decide (¬ p = q)))) hi₀ hg₀ (fun w' => ?_) hdn kk
  apply PR_neqB <;> assumption
theorem WL_extract {x : Operand} {vs : Array Value} {i : Nat} {v : Value} (hx : ev e x = some (.tuple vs)) (hv : vs[i]? = some v) (hdn : Nat.blt d₀ n = true) (kk : WL P n ops Q rest ((d₀, v) :: e) w) : WL P n ops Q (⟨some d₀, .extract x i, ty, pos, af, none⟩ :: rest) e w := by
  refine WL_pure (v := v) ?_ hdn kk
  apply PR_extract <;> assumption
theorem WF_extract {x : Operand} {vs : Array Value} {i : Nat} {v : Value} (hi₀ : ops[i₀]? = some ⟨some d₀, .extract x i, ty, pos, af, gd⟩) (hg₀ : gdOk ops e gd) (hx : ev e x = some (.tuple vs)) (hv : vs[i]? = some v) (hdn : Nat.blt d₀ n = true) (kk : WD P n ops S Lt Q ord ((d₀, v) :: e) w) : WD P n ops S Lt Q ((i₀, 0) :: ord) e w := by
  refine WD_free (v := v) hi₀ hg₀ (fun w' => ?_) hdn kk
  apply PR_extract <;> assumption
theorem WL_len {x : Operand} {t : TypeId} {el : TypeId} [hu : Und P t (.slice el)] {p : Option Addr} {l c : Nat} (hx : ev e x = some (.slice p l c)) (hdn : Nat.blt d₀ n = true) (kk : WL P n ops Q rest ((d₀, (.int .i64 (l : Int))) :: e) w) : WL P n ops Q (⟨some d₀, .call { callee := .builtin .len, args := #[x], argTypes := #[t] }, ty, pos, af, none⟩ :: rest) e w := by
  refine WL_pure (v := (.int .i64 (l : Int))) ?_ hdn kk
  apply PR_len <;> assumption
theorem WF_len {x : Operand} {t : TypeId} {el : TypeId} [hu : Und P t (.slice el)] {p : Option Addr} {l c : Nat} (hi₀ : ops[i₀]? = some ⟨some d₀, .call { callee := .builtin .len, args := #[x], argTypes := #[t] }, ty, pos, af, gd⟩) (hg₀ : gdOk ops e gd) (hx : ev e x = some (.slice p l c)) (hdn : Nat.blt d₀ n = true) (kk : WD P n ops S Lt Q ord ((d₀, (.int .i64 (l : Int))) :: e) w) : WD P n ops S Lt Q ((i₀, 0) :: ord) e w := by
  refine WD_free (v := (.int .i64 (l : Int))) hi₀ hg₀ (fun w' => ?_) hdn kk
  apply PR_len <;> assumption
theorem WL_fieldAddr {x : Operand} {t : TypeId} {b o i off : Nat} [hf : Fld P t i off] (hx : ev e x = some (.pointer (some ⟨b, o, none⟩))) (hdn : Nat.blt d₀ n = true) (kk : WL P n ops Q rest ((d₀, (.pointer (some ⟨b, o + off, none⟩))) :: e) w) : WL P n ops Q (⟨some d₀, .fieldAddr t x i, ty, pos, af, none⟩ :: rest) e w := by
  refine WL_pure (v := (.pointer (some ⟨b, o + off, none⟩))) ?_ hdn kk
  apply PR_fieldAddr <;> assumption
theorem WF_fieldAddr {x : Operand} {t : TypeId} {b o i off : Nat} [hf : Fld P t i off] (hi₀ : ops[i₀]? = some ⟨some d₀, .fieldAddr t x i, ty, pos, af, gd⟩) (hg₀ : gdOk ops e gd) (hx : ev e x = some (.pointer (some ⟨b, o, none⟩))) (hdn : Nat.blt d₀ n = true) (kk : WD P n ops S Lt Q ord ((d₀, (.pointer (some ⟨b, o + off, none⟩))) :: e) w) : WD P n ops S Lt Q ((i₀, 0) :: ord) e w := by
  refine WD_free (v := (.pointer (some ⟨b, o + off, none⟩))) hi₀ hg₀ (fun w' => ?_) hdn kk
  apply PR_fieldAddr <;> assumption
theorem WL_load1 {x : Operand} {t : TypeId} {D : TypeDesc} {ad : Addr} {v : Value} [hu : Und P t D] (hA : aggB D = false) (hx : ev e x = some (.pointer (some ad))) (hc : w.cell? ad = some v) (hdn : Nat.blt d₀ n = true) (kk : WL P n ops Q rest ((d₀, v) :: e) w) : WL P n ops Q (⟨some d₀, .load t x, ty, pos, af, none⟩ :: rest) e w := by
  refine WL_pure (v := v) ?_ hdn kk
  apply PR_load1 <;> assumption
theorem WL_loadN {x : Operand} {t : TypeId} {D : TypeDesc} {b o k : Nat} {cs : List Value} [hu : Und P t D] (hA : aggB D = true) [hs : Siz P t k] (hx : ev e x = some (.pointer (some ⟨b, o, none⟩))) (hl : cs.length = k) (hc : ∀ j u, cs[j]? = some u → w.cell? ⟨b, o + j, none⟩ = some u) (hdn : Nat.blt d₀ n = true) (kk : WL P n ops Q rest ((d₀, (.agg cs.toArray)) :: e) w) : WL P n ops Q (⟨some d₀, .load t x, ty, pos, af, none⟩ :: rest) e w := by
  refine WL_pure (v := (.agg cs.toArray)) ?_ hdn kk
  apply PR_loadN <;> assumption
theorem WL_makeFunc0 {f : Nat} (hdn : Nat.blt d₀ n = true) (kk : WL P n ops Q rest ((d₀, (.func (.func f) #[] #[])) :: e) w) : WL P n ops Q (⟨some d₀, .makeFunc (.func f) #[] #[], ty, pos, af, none⟩ :: rest) e w := by
  refine WL_pure (v := (.func (.func f) #[] #[])) ?_ hdn kk
  apply PR_makeFunc0 <;> assumption
theorem WF_makeFunc0 {f : Nat} (hi₀ : ops[i₀]? = some ⟨some d₀, .makeFunc (.func f) #[] #[], ty, pos, af, gd⟩) (hg₀ : gdOk ops e gd)  (hdn : Nat.blt d₀ n = true) (kk : WD P n ops S Lt Q ord ((d₀, (.func (.func f) #[] #[])) :: e) w) : WD P n ops S Lt Q ((i₀, 0) :: ord) e w := by
  refine WD_free (v := (.func (.func f) #[] #[])) hi₀ hg₀ (fun w' => ?_) hdn kk
  apply PR_makeFunc0 <;> assumption
theorem WL_makeFunc1 {f : Nat} {x : Operand} {v : Value} (hx : ev e x = some v) (hdn : Nat.blt d₀ n = true) (kk : WL P n ops Q rest ((d₀, (.func (.func f) #[] #[v])) :: e) w) : WL P n ops Q (⟨some d₀, .makeFunc (.func f) #[] #[x], ty, pos, af, none⟩ :: rest) e w := by
  refine WL_pure (v := (.func (.func f) #[] #[v])) ?_ hdn kk
  apply PR_makeFunc1 <;> assumption
theorem WF_makeFunc1 {f : Nat} {x : Operand} {v : Value} (hi₀ : ops[i₀]? = some ⟨some d₀, .makeFunc (.func f) #[] #[x], ty, pos, af, gd⟩) (hg₀ : gdOk ops e gd) (hx : ev e x = some v) (hdn : Nat.blt d₀ n = true) (kk : WD P n ops S Lt Q ord ((d₀, (.func (.func f) #[] #[v])) :: e) w) : WD P n ops S Lt Q ((i₀, 0) :: ord) e w := by
  refine WD_free (v := (.func (.func f) #[] #[v])) hi₀ hg₀ (fun w' => ?_) hdn kk
  apply PR_makeFunc1 <;> assumption
theorem WL_makeFunc2 {f : Nat} {x y : Operand} {v u : Value} (hx : ev e x = some v) (hy : ev e y = some u) (hdn : Nat.blt d₀ n = true) (kk : WL P n ops Q rest ((d₀, (.func (.func f) #[] #[v, u])) :: e) w) : WL P n ops Q (⟨some d₀, .makeFunc (.func f) #[] #[x, y], ty, pos, af, none⟩ :: rest) e w := by
  refine WL_pure (v := (.func (.func f) #[] #[v, u])) ?_ hdn kk
  apply PR_makeFunc2 <;> assumption
theorem WF_makeFunc2 {f : Nat} {x y : Operand} {v u : Value} (hi₀ : ops[i₀]? = some ⟨some d₀, .makeFunc (.func f) #[] #[x, y], ty, pos, af, gd⟩) (hg₀ : gdOk ops e gd) (hx : ev e x = some v) (hy : ev e y = some u) (hdn : Nat.blt d₀ n = true) (kk : WD P n ops S Lt Q ord ((d₀, (.func (.func f) #[] #[v, u])) :: e) w) : WD P n ops S Lt Q ((i₀, 0) :: ord) e w := by
  refine WD_free (v := (.func (.func f) #[] #[v, u])) hi₀ hg₀ (fun w' => ?_) hdn kk
  apply PR_makeFunc2 <;> assumption
theorem WL_makeFunc3 {f : Nat} {x y z : Operand} {v u s : Value} (hx : ev e x = some v) (hy : ev e y = some u) (hz : ev e z = some s) (hdn : Nat.blt d₀ n = true) (kk : WL P n ops Q rest ((d₀, (.func (.func f) #[] #[v, u, s])) :: e) w) : WL P n ops Q (⟨some d₀, .makeFunc (.func f) #[] #[x, y, z], ty, pos, af, none⟩ :: rest) e w := by
  refine WL_pure (v := (.func (.func f) #[] #[v, u, s])) ?_ hdn kk
  apply PR_makeFunc3 <;> assumption
theorem WF_makeFunc3 {f : Nat} {x y z : Operand} {v u s : Value} (hi₀ : ops[i₀]? = some ⟨some d₀, .makeFunc (.func f) #[] #[x, y, z], ty, pos, af, gd⟩) (hg₀ : gdOk ops e gd) (hx : ev e x = some v) (hy : ev e y = some u) (hz : ev e z = some s) (hdn : Nat.blt d₀ n = true) (kk : WD P n ops S Lt Q ord ((d₀, (.func (.func f) #[] #[v, u, s])) :: e) w) : WD P n ops S Lt Q ((i₀, 0) :: ord) e w := by
  refine WD_free (v := (.func (.func f) #[] #[v, u, s])) hi₀ hg₀ (fun w' => ?_) hdn kk
  apply PR_makeFunc3 <;> assumption
theorem WL_lenS {α : Type} [GoRep α] {X : List Nat} {xs : List α} {v : Value} {x : Operand} {t : TypeId} {el : TypeId} {w₀ : World} [hu : Und P t (.slice el)] (hx : ev e x = some v) (hs : SlV X w₀ v xs) (hdn : Nat.blt d₀ n = true) (kk : WL P n ops Q rest ((d₀, (.int .i64 (xs.length : Int))) :: e) w) : WL P n ops Q (⟨some d₀, .call { callee := .builtin .len, args := #[x], argTypes := #[t] }, ty, pos, af, none⟩ :: rest) e w := by
  refine WL_pure (v := (.int .i64 (xs.length : Int))) ?_ hdn kk
  apply PR_lenS (α := α) <;> assumption
theorem WF_lenS {α : Type} [GoRep α] {X : List Nat} {xs : List α} {v : Value} {x : Operand} {t : TypeId} {el : TypeId} {w₀ : World} [hu : Und P t (.slice el)] (hi₀ : ops[i₀]? = some ⟨some d₀, .call { callee := .builtin .len, args := #[x], argTypes := #[t] }, ty, pos, af, gd⟩) (hg₀ : gdOk ops e gd) (hx : ev e x = some v) (hs : SlV X w₀ v xs) (hdn : Nat.blt d₀ n = true) (kk : WD P n ops S Lt Q ord ((d₀, (.int .i64 (xs.length : Int))) :: e) w) : WD P n ops S Lt Q ((i₀, 0) :: ord) e w := by
  refine WD_free (v := (.int .i64 (xs.length : Int))) hi₀ hg₀ (fun w' => ?_) hdn kk
  apply PR_lenS (α := α) <;> assumption
theorem WL_idx {α : Type} [GoRep α] {X : List Nat} {xs : List α} {v : Value} {x y : Operand} {t : TypeId} {el k : Nat} [hu : Und P t (.slice el)] [hk : Siz P el k] {z : Int} {i : Nat} {w₀ : World} (hx : ev e x = some v) (hs : SlV X w₀ v xs) (hy : ev e y = some (.int .i64 z)) (hz : z = (i : Int)) (hi : i < xs.length) (hdn : Nat.blt d₀ n = true) (kk : WL P n ops Q rest ((d₀, (.pointer (some (elAddr v i k 0)))) :: e) w) : WL P n ops Q (⟨some d₀, .indexAddr t x y, ty, pos, af, none⟩ :: rest) e w := by
  refine WL_pure (v := (.pointer (some (elAddr v i k 0)))) ?_ hdn kk
  apply PR_idx (α := α) <;> assumption
theorem WF_idx {α : Type} [GoRep α] {X : List Nat} {xs : List α} {v : Value} {x y : Operand} {t : TypeId} {el k : Nat} [hu : Und P t (.slice el)] [hk : Siz P el k] {z : Int} {i : Nat} {w₀ : World} (hi₀ : ops[i₀]? = some ⟨some d₀, .indexAddr t x y, ty, pos, af, gd⟩) (hg₀ : gdOk ops e gd) (hx : ev e x = some v) (hs : SlV X w₀ v xs) (hy : ev e y = some (.int .i64 z)) (hz : z = (i : Int)) (hi : i < xs.length) (hdn : Nat.blt d₀ n = true) (kk : WD P n ops S Lt Q ord ((d₀, (.pointer (some (elAddr v i k 0)))) :: e) w) : WD P n ops S Lt Q ((i₀, 0) :: ord) e w := by
  refine WD_free (v := (.pointer (some (elAddr v i k 0)))) hi₀ hg₀ (fun w' => ?_) hdn kk
  apply PR_idx (α := α) <;> assumption
theorem WL_field_el {x : Operand} {t : TypeId} {v : Value} {i k j m off : Nat} [hf : Fld P t m off] (hx : ev e x = some (.pointer (some (elAddr v i k j)))) (hv : ∃ p l c, v = .slice (some p) l c) (hdn : Nat.blt d₀ n = true) (kk : WL P n ops Q rest ((d₀, (.pointer (some (elAddr v i k (j + off))))) :: e) w) : WL P n ops Q (⟨some d₀, .fieldAddr t x m, ty, pos, af, none⟩ :: rest) e w := by
  refine WL_pure (v := (.pointer (some (elAddr v i k (j + off))))) ?_ hdn kk
  apply PR_field_el <;> assumption
theorem WF_field_el {x : Operand} {t : TypeId} {v : Value} {i k j m off : Nat} [hf : Fld P t m off] (hi₀ : ops[i₀]? = some ⟨some d₀, .fieldAddr t x m, ty, pos, af, gd⟩) (hg₀ : gdOk ops e gd) (hx : ev e x = some (.pointer (some (elAddr v i k j)))) (hv : ∃ p l c, v = .slice (some p) l c) (hdn : Nat.blt d₀ n = true) (kk : WD P n ops S Lt Q ord ((d₀, (.pointer (some (elAddr v i k (j + off))))) :: e) w) : WD P n ops S Lt Q ((i₀, 0) :: ord) e w := by
  refine WD_free (v := (.pointer (some (elAddr v i k (j + off))))) hi₀ hg₀ (fun w' => ?_) hdn kk
  apply PR_field_el <;> assumption
theorem WL_load_el {α : Type} [Flat α] {X : List Nat} {xs : List α} {v u : Value} {i j k : Nat} {x : Operand} {t : TypeId} {D : TypeDesc} [hu : Und P t D] (hA : aggB D = false) (hx : ev e x = some (.pointer (some (elAddr v i k j)))) (hs : SlV X w v xs) (hi : i < xs.length) (hk : k = Flat.k α) (hc : (Flat.enc xs[i])[j]? = some u) (hdn : Nat.blt d₀ n = true) (kk : WL P n ops Q rest ((d₀, u) :: e) w) : WL P n ops Q (⟨some d₀, .load t x, ty, pos, af, none⟩ :: rest) e w := by
  refine WL_pure (v := u) ?_ hdn kk
  apply PR_load_el (α := α) <;> assumption
theorem WL_loadN_el {α : Type} [Flat α] {X : List Nat} {xs : List α} {v : Value} {us : List Value} {i j k m : Nat} {x : Operand} {t : TypeId} {D : TypeDesc} [hu : Und P t D] (hA : aggB D = true) [hsz : Siz P t m] (hx : ev e x = some (.pointer (some (elAddr v i k j)))) (hs : SlV X w v xs) (hi : i < xs.length) (hk : k = Flat.k α) (hl : us.length = m) (hc : ((Flat.enc xs[i]).drop j).take m = us) (hdn : Nat.blt d₀ n = true) (kk : WL P n ops Q rest ((d₀, (.agg us.toArray)) :: e) w) : WL P n ops Q (⟨some d₀, .load t x, ty, pos, af, none⟩ :: rest) e w := by
  refine WL_pure (v := (.agg us.toArray)) ?_ hdn kk
  apply PR_loadN_el (α := α) <;> assumption
theorem WL_load_elA {α : Type} [Flat α] {X : List Nat} {xs : List α} {v : Value} {i k : Nat} {x : Operand} {t : TypeId} {D : TypeDesc} [hu : Und P t D] (hA : aggB D = true) [hsz : Siz P t k] (hx : ev e x = some (.pointer (some (elAddr v i k 0)))) (hs : SlV X w v xs) (hi : i < xs.length) (hk : k = Flat.k α) (hdn : Nat.blt d₀ n = true) (kk : WL P n ops Q rest ((d₀, (.agg (Flat.enc xs[i]).toArray)) :: e) w) : WL P n ops Q (⟨some d₀, .load t x, ty, pos, af, none⟩ :: rest) e w := by
  refine WL_pure (v := (.agg (Flat.enc xs[i]).toArray)) ?_ hdn kk
  apply PR_load_elA (α := α) <;> assumption
theorem WL_load_blk {b T o : Nat} {cs : List Value} {u : Value} {x : Operand} {t : TypeId} {D : TypeDesc} [hu : Und P t D] (hA : aggB D = false) (hx : ev e x = some (.pointer (some ⟨b, o, none⟩))) (hb : Blk w b T cs) (hc : cs[o]? = some u) (hdn : Nat.blt d₀ n = true) (kk : WL P n ops Q rest ((d₀, u) :: e) w) : WL P n ops Q (⟨some d₀, .load t x, ty, pos, af, none⟩ :: rest) e w := by
  refine WL_pure (v := u) ?_ hdn kk
  apply PR_load_blk <;> assumption
theorem WL_loadN_blk {b T o m : Nat} {cs us : List Value} {x : Operand} {t : TypeId} {D : TypeDesc} [hu : Und P t D] (hA : aggB D = true) [hsz : Siz P t m] (hx : ev e x = some (.pointer (some ⟨b, o, none⟩))) (hb : Blk w b T cs) (hl : us.length = m) (hc : (cs.drop o).take m = us) (hdn : Nat.blt d₀ n = true) (kk : WL P n ops Q rest ((d₀, (.agg us.toArray)) :: e) w) : WL P n ops Q (⟨some d₀, .load t x, ty, pos, af, none⟩ :: rest) e w := by
  refine WL_pure (v := (.agg us.toArray)) ?_ hdn kk
  apply PR_loadN_blk <;> assumption
theorem WL_load_blkA {b T m : Nat} {cs : List Value} {x : Operand} {t : TypeId} {D : TypeDesc} [hu : Und P t D] (hA : aggB D = true) [hsz : Siz P t m] (hx : ev e x = some (.pointer (some ⟨b, 0, none⟩))) (hb : Blk w b T cs) (hl : cs.length = m) (hdn : Nat.blt d₀ n = true) (kk : WL P n ops Q rest ((d₀, (.agg cs.toArray)) :: e) w) : WL P n ops Q (⟨some d₀, .load t x, ty, pos, af, none⟩ :: rest) e w := by
  refine WL_pure (v := (.agg cs.toArray)) ?_ hdn kk
  apply PR_load_blkA <;> assumption
theorem WL_slice_lh {α : Type} [GoRep α] {X : List Nat} {v : Value} {xs : List α} {t el k : Nat} {x lo hi : Operand} {l r : Nat} {a b : Int} [hu : Und P t (.slice el)] [hk : Siz P el k] {w₀ : World} (hx : ev e x = some v) (hs : SlV X w₀ v xs) (ha : ev e lo = some (.int .i64 a)) (hb : ev e hi = some (.int .i64 b)) (hal : a = (l : Int)) (hbr : b = (r : Int)) (hlr : l ≤ r) (hrx : r ≤ xs.length) (hdn : Nat.blt d₀ n = true) (kk : WL P n ops Q rest ((d₀, (slc v l r k)) :: e) w) : WL P n ops Q (⟨some d₀, .slice t x (some lo) (some hi) none, ty, pos, af, none⟩ :: rest) e w := by
  refine WL_pure (v := (slc v l r k)) ?_ hdn kk
  apply PR_slice_lh (α := α) <;> assumption
theorem WF_slice_lh {α : Type} [GoRep α] {X : List Nat} {v : Value} {xs : List α} {t el k : Nat} {x lo hi : Operand} {l r : Nat} {a b : Int} [hu : Und P t (.slice el)] [hk : Siz P el k] {w₀ : World} (hi₀ : ops[i₀]? = some ⟨some d₀, .slice t x (some lo) (some hi) none, ty, pos, af, gd⟩) (hg₀ : gdOk ops e gd) (hx : ev e x = some v) (hs : SlV X w₀ v xs) (ha : ev e lo = some (.int .i64 a)) (hb : ev e hi = some (.int .i64 b)) (hal : a = (l : Int)) (hbr : b = (r : Int)) (hlr : l ≤ r) (hrx : r ≤ xs.length) (hdn : Nat.blt d₀ n = true) (kk : WD P n ops S Lt Q ord ((d₀, (slc v l r k)) :: e) w) : WD P n ops S Lt Q ((i₀, 0) :: ord) e w := by
  refine WD_free (v := (slc v l r k)) hi₀ hg₀ (fun w' => ?_) hdn kk
  apply PR_slice_lh (α := α) <;> assumption
theorem WL_slice_h {α : Type} [GoRep α] {X : List Nat} {v : Value} {xs : List α} {t el k : Nat} {x hi : Operand} {r : Nat} {b : Int} [hu : Und P t (.slice el)] [hk : Siz P el k] {w₀ : World} (hx : ev e x = some v) (hs : SlV X w₀ v xs) (hb : ev e hi = some (.int .i64 b)) (hbr : b = (r : Int)) (hrx : r ≤ xs.length) (hdn : Nat.blt d₀ n = true) (kk : WL P n ops Q rest ((d₀, (slc v 0 r k)) :: e) w) : WL P n ops Q (⟨some d₀, .slice t x none (some hi) none, ty, pos, af, none⟩ :: rest) e w := by
  refine WL_pure (v := (slc v 0 r k)) ?_ hdn kk
  apply PR_slice_h (α := α) <;> assumption
theorem WF_slice_h {α : Type} [GoRep α] {X : List Nat} {v : Value} {xs : List α} {t el k : Nat} {x hi : Operand} {r : Nat} {b : Int} [hu : Und P t (.slice el)] [hk : Siz P el k] {w₀ : World} (hi₀ : ops[i₀]? = some ⟨some d₀, .slice t x none (some hi) none, ty, pos, af, gd⟩) (hg₀ : gdOk ops e gd) (hx : ev e x = some v) (hs : SlV X w₀ v xs) (hb : ev e hi = some (.int .i64 b)) (hbr : b = (r : Int)) (hrx : r ≤ xs.length) (hdn : Nat.blt d₀ n = true) (kk : WD P n ops S Lt Q ord ((d₀, (slc v 0 r k)) :: e) w) : WD P n ops S Lt Q ((i₀, 0) :: ord) e w := by
  refine WD_free (v := (slc v 0 r k)) hi₀ hg₀ (fun w' => ?_) hdn kk
  apply PR_slice_h (α := α) <;> assumption
theorem WL_slice_l {α : Type} [GoRep α] {X : List Nat} {v : Value} {xs : List α} {t el k : Nat} {x lo : Operand} {l : Nat} {a : Int} [hu : Und P t (.slice el)] [hk : Siz P el k] {w₀ : World} (hx : ev e x = some v) (hs : SlV X w₀ v xs) (ha : ev e lo = some (.int .i64 a)) (hal : a = (l : Int)) (hlx : l ≤ xs.length) (hdn : Nat.blt d₀ n = true) (kk : WL P n ops Q rest ((d₀, (slc v l xs.length k)) :: e) w) : WL P n ops Q (⟨some d₀, .slice t x (some lo) none none, ty, pos, af, none⟩ :: rest) e w := by
  refine WL_pure (v := (slc v l xs.length k)) ?_ hdn kk
  apply PR_slice_l (α := α) <;> assumption
theorem WF_slice_l {α : Type} [GoRep α] {X : List Nat} {v : Value} {xs : List α} {t el k : Nat} {x lo : Operand} {l : Nat} {a : Int} [hu : Und P t (.slice el)] [hk : Siz P el k] {w₀ : World} (hi₀ : ops[i₀]? = some ⟨some d₀, .slice t x (some lo) none none, ty, pos, af, gd⟩) (hg₀ : gdOk ops e gd) (hx : ev e x = some v) (hs : SlV X w₀ v xs) (ha : ev e lo = some (.int .i64 a)) (hal : a = (l : Int)) (hlx : l ≤ xs.length) (hdn : Nat.blt d₀ n = true) (kk : WD P n ops S Lt Q ord ((d₀, (slc v l xs.length k)) :: e) w) : WD P n ops S Lt Q ((i₀, 0) :: ord) e w := by
  refine WD_free (v := (slc v l xs.length k)) hi₀ hg₀ (fun w' => ?_) hdn kk
  apply PR_slice_l (α := α) <;> assumption
theorem WL_build {t : TypeId} {l : List (Nat × Operand)} {vs : List (Nat × Value)} {u : Value} (hv : evParts e l = some vs) (hb : ∀ w, (Instr.build t vs.toArray).run P w = .ok u w) (hdn : Nat.blt d₀ n = true) (kk : WL P n ops Q rest ((d₀, u) :: e) w) : WL P n ops Q (⟨some d₀, .build t l.toArray, ty, pos, af, none⟩ :: rest) e w := by
  refine WL_pure (v := u) ?_ hdn kk
  apply PR_build <;> assumption
theorem WF_build {t : TypeId} {l : List (Nat × Operand)} {vs : List (Nat × Value)} {u : Value} (hi₀ : ops[i₀]? = some ⟨some d₀, .build t l.toArray, ty, pos, af, gd⟩) (hg₀ : gdOk ops e gd) (hv : evParts e l = some vs) (hb : ∀ w, (Instr.build t vs.toArray).run P w = .ok u w) (hdn : Nat.blt d₀ n = true) (kk : WD P n ops S Lt Q ord ((d₀, u) :: e) w) : WD P n ops S Lt Q ((i₀, 0) :: ord) e w := by
  refine WD_free (v := u) hi₀ hg₀ (fun w' => ?_) hdn kk
  apply PR_build <;> assumption
theorem WL_eqlS {x y : Operand} {t u : TypeId} {p q : Value} {c : Prop} [Decidable c] (hx : ev e x = some p) (hy : ev e y = some q) (hg : ∀ w, (eqGuard .eql t x y p q).run P w = .ok () w) (h : ∀ w, (binOp .eql t p q).run P w = .ok (.bool (decide c)) w) (hdn : Nat.blt d₀ n = true) (kk : WL P n ops Q rest ((d₀, (.bool (decide c))) :: e) w) : WL P n ops Q (⟨some d₀, .binOp .eql t x y u, ty, pos, af, none⟩ :: rest) e w := by
  refine WL_pure (v := (.bool (decide c))) ?_ hdn kk
  apply PR_eqlS <;> assumption
theorem WF_eqlS {x y : Operand} {t u : TypeId} {p q : Value} {c : Prop} [Decidable c] (hi₀ : ops[i₀]? = some ⟨some d₀, .binOp .eql t x y u, ty, pos, af, gd⟩) (hg₀ : gdOk ops e gd) (hx : ev e x = some p) (hy : ev e y = some q) (hg : ∀ w, (eqGuard .eql t x y p q).run P w = .ok () w) (h : ∀ w, (binOp .eql t p q).run P w = .ok (.bool (decide c)) w) (hdn : Nat.blt d₀ n = true) (kk : WD P n ops S Lt Q ord ((d₀, (.bool (decide c))) :: e) w) : WD P n ops S Lt Q ((i₀, 0) :: ord) e w := by
  refine WD_free (v := (.bool (decide c))) hi₀ hg₀ (fun w' => ?_) hdn kk
  apply PR_eqlS <;> assumption
theorem WL_neqS {x y : Operand} {t u : TypeId} {p q : Value} {c : Prop} [Decidable c] (hx : ev e x = some p) (hy : ev e y = some q) (hg : ∀ w, (eqGuard .neq t x y p q).run P w = .ok () w) (h : ∀ w, (binOp .neq t p q).run P w = .ok (.bool (decide (¬ c))) w) (hdn : Nat.blt d₀ n = true) (kk : WL P n ops Q rest ((d₀, (.bool (decide (¬ c)))) :: e) w) : WL P n ops Q (⟨some d₀, .binOp .neq t x y u, ty, pos, af, none⟩ :: rest) e w := by
  refine WL_pure (v := (.bool (decide (¬ c)))) ?_ hdn kk
  apply PR_neqS <;> assumption
theorem WF_neqS {x y : Operand} {t u : TypeId} {p q : Value} {c : Prop} [Decidable c] (hi₀ : ops[i₀]? = some ⟨some d₀, .binOp .neq t x y u, ty, pos, af, gd⟩) (hg₀ : gdOk ops e gd) (hx : ev e x = some p) (hy : ev e y = some q) (hg : ∀ w, (eqGuard .neq t x y p q).run P w = .ok () w) (h : ∀ w, (binOp .neq t p q).run P w = .ok (.bool (decide (¬ c))) w) (hdn : Nat.blt d₀ n = true) (kk : WD P n ops S Lt Q ord ((d₀, (.bool (decide (¬ c)))) :: e) w) : WD P n ops S Lt Q ((i₀, 0) :: ord) e w := by
  refine WD_free (v := (.bool (decide (¬ c)))) hi₀ hg₀ (fun w' => ?_) hdn kk
  apply PR_neqS <;> assumption
theorem is_idx {t : TypeId} {x : Operand} {y : Operand} (h : WL P n ops Q (⟨some d₀, .indexAddr t x y, ty, pos, af, none⟩ :: rest) e w) : WL P n ops Q (⟨some d₀, .indexAddr t x y, ty, pos, af, none⟩ :: rest) e w := h
theorem is_load {t : TypeId} {x : Operand} (h : WL P n ops Q (⟨some d₀, .load t x, ty, pos, af, none⟩ :: rest) e w) : WL P n ops Q (⟨some d₀, .load t x, ty, pos, af, none⟩ :: rest) e w := h
theorem is_len {t : TypeId} {x : Operand} (h : WL P n ops Q (⟨some d₀, .call { callee := .builtin .len, args := #[x], argTypes := #[t] }, ty, pos, af, none⟩ :: rest) e w) : WL P n ops Q (⟨some d₀, .call { callee := .builtin .len, args := #[x], argTypes := #[t] }, ty, pos, af, none⟩ :: rest) e w := h
theorem is_field {t : TypeId} {x : Operand} {m : Nat} (h : WL P n ops Q (⟨some d₀, .fieldAddr t x m, ty, pos, af, none⟩ :: rest) e w) : WL P n ops Q (⟨some d₀, .fieldAddr t x m, ty, pos, af, none⟩ :: rest) e w := h
theorem is_add {t : TypeId} {x : Operand} {y : Operand} {u : TypeId} (h : WL P n ops Q (⟨some d₀, .binOp .add t x y u, ty, pos, af, none⟩ :: rest) e w) : WL P n ops Q (⟨some d₀, .binOp .add t x y u, ty, pos, af, none⟩ :: rest) e w := h
theorem is_slice {t : TypeId} {x : Operand} {lo hi mx : Option Operand} (h : WL P n ops Q (⟨some d₀, .slice t x lo hi mx, ty, pos, af, none⟩ :: rest) e w) : WL P n ops Q (⟨some d₀, .slice t x lo hi mx, ty, pos, af, none⟩ :: rest) e w := h
end
/-! reading rules in a region that draws -/
section
variable {P : Program} {n : Nat} {Q : Exit → Act → World → Prop} {e : Env} {w : World} {ops : Array Oper} {S : List Nat} {Lt : List Nat} {ord : List (Nat × Nat)} {d₀ i₀ : Nat} {ty : TypeId} {pos : String} {af : Array Edge} {gd : Option (Nat × Bool)}
theorem WR_load_blk {b T o : Nat} {cs : List Value} {u : Value} {x : Operand} {t : TypeId} {D : TypeDesc} [hu : Und P t D] (hi₀ : ops[i₀]? = some ⟨some d₀, .load t x, ty, pos, af, gd⟩) (hg₀ : gdOk ops e gd) (hA : aggB D = false) (hx : ev e x = some (.pointer (some ⟨b, o, none⟩))) (hb : Blk w b T cs) (hn : b ∉ S) (hc : cs[o]? = some u) (hdn : Nat.blt d₀ n = true) (kk : WD P n ops S Lt Q ord ((d₀, u) :: e) w) : WD P n ops S Lt Q ((i₀, 1) :: ord) e w :=
  WD_read hi₀ hg₀ (fun w' hS => PR_load_blk hA hx (hb.ext hS hn) hc) hdn kk
theorem WR_load_blkA {b T m : Nat} {cs : List Value} {x : Operand} {t : TypeId} {D : TypeDesc} [hu : Und P t D] [hsz : Siz P t m] (hi₀ : ops[i₀]? = some ⟨some d₀, .load t x, ty, pos, af, gd⟩) (hg₀ : gdOk ops e gd) (hA : aggB D = true) (hx : ev e x = some (.pointer (some ⟨b, 0, none⟩))) (hb : Blk w b T cs) (hn : b ∉ S) (hl : cs.length = m) (hdn : Nat.blt d₀ n = true) (kk : WD P n ops S Lt Q ord ((d₀, .agg cs.toArray) :: e) w) : WD P n ops S Lt Q ((i₀, 1) :: ord) e w :=
  WD_read hi₀ hg₀ (fun w' hS => PR_load_blkA hA hx (hb.ext hS hn) hl) hdn kk
theorem WR_load_el {α : Type} [Flat α] {X : List Nat} {xs : List α} {v u : Value} {i j k : Nat} {x : Operand} {t : TypeId} {D : TypeDesc} [hu : Und P t D] (hi₀ : ops[i₀]? = some ⟨some d₀, .load t x, ty, pos, af, gd⟩) (hg₀ : gdOk ops e gd) (hA : aggB D = false) (hx : ev e x = some (.pointer (some (elAddr v i k j))))
    (hs : SlV X w v xs) (hn : ∀ b ∈ S, b ∈ X) (hi : i < xs.length) (hk : k = Flat.k α) (hc : (Flat.enc xs[i])[j]? = some u) (hdn : Nat.blt d₀ n = true) (kk : WD P n ops S Lt Q ord ((d₀, u) :: e) w) : WD P n ops S Lt Q ((i₀, 1) :: ord) e w :=
  WD_read hi₀ hg₀ (fun w' hS => PR_load_el hA hx (hs.ext hS hn (fun _ h => .inl h)) hi hk hc) hdn kk
theorem WR_load_elA {α : Type} [Flat α] {X : List Nat} {xs : List α} {v : Value} {i k : Nat} {x : Operand} {t : TypeId} {D : TypeDesc} [hu : Und P t D] [hsz : Siz P t k] (hi₀ : ops[i₀]? = some ⟨some d₀, .load t x, ty, pos, af, gd⟩) (hg₀ : gdOk ops e gd) (hA : aggB D = true) (hx : ev e x = some (.pointer (some (elAddr v i k 0))))
    (hs : SlV X w v xs) (hn : ∀ b ∈ S, b ∈ X) (hi : i < xs.length) (hk : k = Flat.k α) (hdn : Nat.blt d₀ n = true) (kk : WD P n ops S Lt Q ord ((d₀, .agg (Flat.enc xs[i]).toArray) :: e) w) : WD P n ops S Lt Q ((i₀, 1) :: ord) e w :=
  WD_read hi₀ hg₀ (fun w' hS => PR_load_elA hA hx (hs.ext hS hn (fun _ h => .inl h)) hi hk) hdn kk
end
end Go.Eng
