/-
Merged by program out of own texts: Eng6, Eng7, Eng8, Eng9a, Eng9, Nd0, Typ1, Eng10, Typ2, Typ3, Typ4, Typ5, Typ6, Typ7, Typ8, Typ9, Typ10, Typ11, Typ12, Typ13, Cmp1, Cmp2.
-/
import Derived.Test.YtgpibcgebpgmiaaDoorM1
import Derived.Deep.Slices
import Derived.Deep.Fields
import Derived.ChangeSame
import Derived.Below
import Derived.Carry
import Derived.ChangeOld
import Derived.ProofKit
import Derived.OpenShut
import Derived.SizedLaws
import Derived.Laws.StructEq
import Derived.Laws.Small
import Derived.MapKept
import Derived.ChangeKeysEq
/-
The walk engine, part 6: each rule for a single operation, stated at the head of a list of operations. Written by a program out of parts 2, 3 and 5.
-/
namespace Go.Eng
open Go Go.RowKit Go.Proofs
set_option linter.unusedVariables false
section
variable {P : Program} {n : Nat} {Q : Exit → Act → World → Prop} {e : Env} {w : World} {ops : Array Oper} {S : List Nat} {Lt : List Nat} {rest : List Oper} {ord : List (Nat × Nat)} {d₀ i₀ : Nat} {ty : TypeId} {pos : String} {af : Array Edge} {gd : Option (Nat × Bool)}
theorem WL_move {x : Operand} {v : Value} (hx : ev e x = some v) (hdn : Nat.blt d₀ n = true) (kk : WL P n ops Q rest ((d₀, v) :: e) w) : WL P n ops Q (⟨some d₀, .move x, ty, pos, af, none⟩ :: rest) e w := by
  refine WL_pure (v := v) ?_ hdn kk
  apply PR_move <;> assumption
theorem WF_move {x : Operand} {v : Value} (hi₀ : ops[i₀]? = some ⟨some d₀, .move x, ty, pos, af, gd⟩) (hg₀ : gdOk ops e gd) (hx : ev e x = some v) (hdn : Nat.blt d₀ n = true) (kk : WD P n ops S Lt Q ord ((d₀, v) :: e) w) : WD P n ops S Lt Q ((i₀, 0) :: ord) e w := by
  refine WD_free (v := v) hi₀ hg₀ (fun w' => ?_) hdn kk
  apply PR_move <;> assumption
theorem WL_assign {x : Operand} {v : Value} (hx : ev e x = some v) (hdn : Nat.blt d₀ n = true) (kk : WL P n ops Q rest ((d₀, v) :: e) w) : WL P n ops Q (⟨some d₀, .assign x, ty, pos, af, none⟩ :: rest) e w := by
  refine WL_pure (v := v) ?_ hdn kk
  apply PR_assign <;> assumption
theorem WF_assign {x : Operand} {v : Value} (hi₀ : ops[i₀]? = some ⟨some d₀, .assign x, ty, pos, af, gd⟩) (hg₀ : gdOk ops e gd) (hx : ev e x = some v) (hdn : Nat.blt d₀ n = true) (kk : WD P n ops S Lt Q ord ((d₀, v) :: e) w) : WD P n ops S Lt Q ((i₀, 0) :: ord) e w := by
  refine WD_free (v := v) hi₀ hg₀ (fun w' => ?_) hdn kk
  apply PR_assign <;> assumption
theorem WL_pick_t {c x y : Operand} {v : Value} (hc : ev e c = some (.bool true)) (hx : ev e x = some v) (hdn : Nat.blt d₀ n = true) (kk : WL P n ops Q rest ((d₀, v) :: e) w) : WL P n ops Q (⟨some d₀, .pick c x y, ty, pos, af, none⟩ :: rest) e w := by
  refine WL_pure (v := v) ?_ hdn kk
  apply PR_pick_t <;> assumption
theorem WF_pick_t {c x y : Operand} {v : Value} (hi₀ : ops[i₀]? = some ⟨some d₀, .pick c x y, ty, pos, af, gd⟩) (hg₀ : gdOk ops e gd) (hc : ev e c = some (.bool true)) (hx : ev e x = some v) (hdn : Nat.blt d₀ n = true) (kk : WD P n ops S Lt Q ord ((d₀, v) :: e) w) : WD P n ops S Lt Q ((i₀, 0) :: ord) e w := by
  refine WD_free (v := v) hi₀ hg₀ (fun w' => ?_) hdn kk
  apply PR_pick_t <;> assumption
theorem WL_pick_f {c x y : Operand} {v : Value} (hc : ev e c = some (.bool false)) (hx : ev e y = some v) (hdn : Nat.blt d₀ n = true) (kk : WL P n ops Q rest ((d₀, v) :: e) w) : WL P n ops Q (⟨some d₀, .pick c x y, ty, pos, af, none⟩ :: rest) e w := by
  refine WL_pure (v := v) ?_ hdn kk
  apply PR_pick_f <;> assumption
theorem WF_pick_f {c x y : Operand} {v : Value} (hi₀ : ops[i₀]? = some ⟨some d₀, .pick c x y, ty, pos, af, gd⟩) (hg₀ : gdOk ops e gd) (hc : ev e c = some (.bool false)) (hx : ev e y = some v) (hdn : Nat.blt d₀ n = true) (kk : WD P n ops S Lt Q ord ((d₀, v) :: e) w) : WD P n ops S Lt Q ((i₀, 0) :: ord) e w := by
  refine WD_free (v := v) hi₀ hg₀ (fun w' => ?_) hdn kk
  apply PR_pick_f <;> assumption
theorem WL_not {t : TypeId} {x : Operand} {b : Bool} (hx : ev e x = some (.bool b))  (hdn : Nat.blt d₀ n = true) (kk : WL P n ops Q rest ((d₀, (.bool (!b))) :: e) w) : WL P n ops Q (⟨some d₀, .unOp .not t x, ty, pos, af, none⟩ :: rest) e w := by
  refine WL_pure (v := (.bool (!b))) ?_ hdn kk
  apply PR_not <;> assumption
theorem WF_not {t : TypeId} {x : Operand} {b : Bool} (hi₀ : ops[i₀]? = some ⟨some d₀, .unOp .not t x, ty, pos, af, gd⟩) (hg₀ : gdOk ops e gd) (hx : ev e x = some (.bool b)) (hdn : Nat.blt d₀ n = true) (kk : WD P n ops S Lt Q ord ((d₀, (.bool (!b))) :: e) w) : WD P n ops S Lt Q ((i₀, 0) :: ord) e w := by
  refine WD_free (v := (.bool (!b))) hi₀ hg₀ (fun w' => ?_) hdn kk
  apply PR_not <;> assumption
theorem WL_not_t {t : TypeId} {x : Operand} (hx : ev e x = some (.bool true))  (hdn : Nat.blt d₀ n = true) (kk : WL P n ops Q rest ((d₀, (.bool false)) :: e) w) : WL P n ops Q (⟨some d₀, .unOp .not t x, ty, pos, af, none⟩ :: rest) e w := by
  refine WL_pure (v := (.bool false)) ?_ hdn kk
  apply PR_not_t <;> assumption
theorem WF_not_t {t : TypeId} {x : Operand} (hi₀ : ops[i₀]? = some ⟨some d₀, .unOp .not t x, ty, pos, af, gd⟩) (hg₀ : gdOk ops e gd) (hx : ev e x = some (.bool true)) (hdn : Nat.blt d₀ n = true) (kk : WD P n ops S Lt Q ord ((d₀, (.bool false)) :: e) w) : WD P n ops S Lt Q ((i₀, 0) :: ord) e w := by
  refine WD_free (v := (.bool false)) hi₀ hg₀ (fun w' => ?_) hdn kk
  apply PR_not_t <;> assumption
theorem WL_not_f {t : TypeId} {x : Operand} (hx : ev e x = some (.bool false))  (hdn : Nat.blt d₀ n = true) (kk : WL P n ops Q rest ((d₀, (.bool true)) :: e) w) : WL P n ops Q (⟨some d₀, .unOp .not t x, ty, pos, af, none⟩ :: rest) e w := by
  refine WL_pure (v := (.bool true)) ?_ hdn kk
  apply PR_not_f <;> assumption
theorem WF_not_f {t : TypeId} {x : Operand} (hi₀ : ops[i₀]? = some ⟨some d₀, .unOp .not t x, ty, pos, af, gd⟩) (hg₀ : gdOk ops e gd) (hx : ev e x = some (.bool false)) (hdn : Nat.blt d₀ n = true) (kk : WD P n ops S Lt Q ord ((d₀, (.bool true)) :: e) w) : WD P n ops S Lt Q ((i₀, 0) :: ord) e w := by
  refine WD_free (v := (.bool true)) hi₀ hg₀ (fun w' => ?_) hdn kk
  apply PR_not_f <;> assumption
theorem WL_not_d {t : TypeId} {x : Operand} {p : Prop} [Decidable p] (hx : ev e x = some (.bool (decide p)))  (hdn : Nat.blt d₀ n = true) (kk : WL P n ops Q rest ((d₀, (.bool (decide (¬ p)))) :: e) w) : WL P n ops Q (⟨some d₀, .unOp .not t x, ty, pos, af, none⟩ :: rest) e w := by
  refine WL_pure (v := (.bool (decide (¬ p)))) ?_ hdn kk
  apply PR_not_d <;> assumption
theorem WF_not_d {t : TypeId} {x : Operand} {p : Prop} [Decidable p] (hi₀ : ops[i₀]? = some ⟨some d₀, .unOp .not t x, ty, pos, af, gd⟩) (hg₀ : gdOk ops e gd) (hx : ev e x = some (.bool (decide p))) (hdn : Nat.blt d₀ n = true) (kk : WD P n ops S Lt Q ord ((d₀, (.bool (decide (¬ p)))) :: e) w) : WD P n ops S Lt Q ((i₀, 0) :: ord) e w := by
  refine WD_free (v := (.bool (decide (¬ p)))) hi₀ hg₀ (fun w' => ?_) hdn kk
  apply PR_not_d <;> assumption
theorem WL_add {x y : Operand} {t u : TypeId} {a b : Int} (hx : ev e x = some (.int .i64 a)) (hy : ev e y = some (.int .i64 b)) (hr : I64 (a + b)) (hdn : Nat.blt d₀ n = true) (kk : WL P n ops Q rest ((d₀, (.int .i64 (a + b))) :: e) w) : WL P n ops Q (⟨some d₀, .binOp .add t x y u, ty, pos, af, none⟩ :: rest) e w := by
  refine WL_pure (v := (.int .i64 (a + b))) ?_ hdn kk
  apply PR_add <;> assumption
theorem WF_add {x y : Operand} {t u : TypeId} {a b : Int} (hi₀ : ops[i₀]? = some ⟨some d₀, .binOp .add t x y u, ty, pos, af, gd⟩) (hg₀ : gdOk ops e gd) (hx : ev e x = some (.int .i64 a)) (hy : ev e y = some (.int .i64 b)) (hr : I64 (a + b)) (hdn : Nat.blt d₀ n = true) (kk : WD P n ops S Lt Q ord ((d₀, (.int .i64 (a + b))) :: e) w) : WD P n ops S Lt Q ((i₀, 0) :: ord) e w := by
  refine WD_free (v := (.int .i64 (a + b))) hi₀ hg₀ (fun w' => ?_) hdn kk
  apply PR_add <;> assumption
theorem WL_sub {x y : Operand} {t u : TypeId} {a b : Int} (hx : ev e x = some (.int .i64 a)) (hy : ev e y = some (.int .i64 b)) (hr : I64 (a - b)) (hdn : Nat.blt d₀ n = true) (kk : WL P n ops Q rest ((d₀, (.int .i64 (a - b))) :: e) w) : WL P n ops Q (⟨some d₀, .binOp .sub t x y u, ty, pos, af, none⟩ :: rest) e w := by
  refine WL_pure (v := (.int .i64 (a - b))) ?_ hdn kk
  apply PR_sub <;> assumption
theorem WF_sub {x y : Operand} {t u : TypeId} {a b : Int} (hi₀ : ops[i₀]? = some ⟨some d₀, .binOp .sub t x y u, ty, pos, af, gd⟩) (hg₀ : gdOk ops e gd) (hx : ev e x = some (.int .i64 a)) (hy : ev e y = some (.int .i64 b)) (hr : I64 (a - b)) (hdn : Nat.blt d₀ n = true) (kk : WD P n ops S Lt Q ord ((d₀, (.int .i64 (a - b))) :: e) w) : WD P n ops S Lt Q ((i₀, 0) :: ord) e w := by
  refine WD_free (v := (.int .i64 (a - b))) hi₀ hg₀ (fun w' => ?_) hdn kk
  apply PR_sub <;> assumption
theorem WL_mul {x y : Operand} {t u : TypeId} {a b : Int} (hx : ev e x = some (.int .i64 a)) (hy : ev e y = some (.int .i64 b)) (hr : I64 (a * b)) (hdn : Nat.blt d₀ n = true) (kk : WL P n ops Q rest ((d₀, (.int .i64 (a * b))) :: e) w) : WL P n ops Q (⟨some d₀, .binOp .mul t x y u, ty, pos, af, none⟩ :: rest) e w := by
  refine WL_pure (v := (.int .i64 (a * b))) ?_ hdn kk
  apply PR_mul <;> assumption
theorem WF_mul {x y : Operand} {t u : TypeId} {a b : Int} (hi₀ : ops[i₀]? = some ⟨some d₀, .binOp .mul t x y u, ty, pos, af, gd⟩) (hg₀ : gdOk ops e gd) (hx : ev e x = some (.int .i64 a)) (hy : ev e y = some (.int .i64 b)) (hr : I64 (a * b)) (hdn : Nat.blt d₀ n = true) (kk : WD P n ops S Lt Q ord ((d₀, (.int .i64 (a * b))) :: e) w) : WD P n ops S Lt Q ((i₀, 0) :: ord) e w := by
  refine WD_free (v := (.int .i64 (a * b))) hi₀ hg₀ (fun w' => ?_) hdn kk
  apply PR_mul <;> assumption
theorem WL_neg {x : Operand} {t : TypeId} {a : Int} (hx : ev e x = some (.int .i64 a)) (hr : I64 (- a)) (hdn : Nat.blt d₀ n = true) (kk : WL P n ops Q rest ((d₀, (.int .i64 (- a))) :: e) w) : WL P n ops Q (⟨some d₀, .unOp .neg t x, ty, pos, af, none⟩ :: rest) e w := by
  refine WL_pure (v := (.int .i64 (- a))) ?_ hdn kk
  apply PR_neg <;> assumption
theorem WF_neg {x : Operand} {t : TypeId} {a : Int} (hi₀ : ops[i₀]? = some ⟨some d₀, .unOp .neg t x, ty, pos, af, gd⟩) (hg₀ : gdOk ops e gd) (hx : ev e x = some (.int .i64 a)) (hr : I64 (- a)) (hdn : Nat.blt d₀ n = true) (kk : WD P n ops S Lt Q ord ((d₀, (.int .i64 (- a))) :: e) w) : WD P n ops S Lt Q ((i₀, 0) :: ord) e w := by
  refine WD_free (v := (.int .i64 (- a))) hi₀ hg₀ (fun w' => ?_) hdn kk
  apply PR_neg <;> assumption
theorem WL_rem {x y : Operand} {t u : TypeId} {a b : Int} (hx : ev e x = some (.int .i64 a)) (hy : ev e y = some (.int .i64 b)) (hb : b ≠ 0) (hr : I64 (a.tmod b)) (hdn : Nat.blt d₀ n = true) (kk : WL P n ops Q rest ((d₀, (.int .i64 (a.tmod b))) :: e) w) : WL P n ops Q (⟨some d₀, .binOp .rem t x y u, ty, pos, af, none⟩ :: rest) e w := by
  refine WL_pure (v := (.int .i64 (a.tmod b))) ?_ hdn kk
  apply PR_rem <;> assumption
theorem WF_rem {x y : Operand} {t u : TypeId} {a b : Int} (hi₀ : ops[i₀]? = some ⟨some d₀, .binOp .rem t x y u, ty, pos, af, gd⟩) (hg₀ : gdOk ops e gd) (hx : ev e x = some (.int .i64 a)) (hy : ev e y = some (.int .i64 b)) (hb : b ≠ 0) (hr : I64 (a.tmod b)) (hdn : Nat.blt d₀ n = true) (kk : WD P n ops S Lt Q ord ((d₀, (.int .i64 (a.tmod b))) :: e) w) : WD P n ops S Lt Q ((i₀, 0) :: ord) e w := by
  refine WD_free (v := (.int .i64 (a.tmod b))) hi₀ hg₀ (fun w' => ?_) hdn kk
  apply PR_rem <;> assumption
theorem WL_quo {x y : Operand} {t u : TypeId} {a b : Int} (hx : ev e x = some (.int .i64 a)) (hy : ev e y = some (.int .i64 b)) (hb : b ≠ 0) (hr : I64 (a.tdiv b)) (hdn : Nat.blt d₀ n = true) (kk : WL P n ops Q rest ((d₀, (.int .i64 (a.tdiv b))) :: e) w) : WL P n ops Q (⟨some d₀, .binOp .quo t x y u, ty, pos, af, none⟩ :: rest) e w := by
  refine WL_pure (v := (.int .i64 (a.tdiv b))) ?_ hdn kk
  apply PR_quo <;> assumption
theorem WF_quo {x y : Operand} {t u : TypeId} {a b : Int} (hi₀ : ops[i₀]? = some ⟨some d₀, .binOp .quo t x y u, ty, pos, af, gd⟩) (hg₀ : gdOk ops e gd) (hx : ev e x = some (.int .i64 a)) (hy : ev e y = some (.int .i64 b)) (hb : b ≠ 0) (hr : I64 (a.tdiv b)) (hdn : Nat.blt d₀ n = true) (kk : WD P n ops S Lt Q ord ((d₀, (.int .i64 (a.tdiv b))) :: e) w) : WD P n ops S Lt Q ((i₀, 0) :: ord) e w := by
  refine WD_free (v := (.int .i64 (a.tdiv b))) hi₀ hg₀ (fun w' => ?_) hdn kk
  apply PR_quo <;> assumption
theorem WL_remP {x y : Operand} {t u : TypeId} {a b : Int} (hx : ev e x = some (.int .i64 a)) (hy : ev e y = some (.int .i64 b)) (h0 : 0 ≤ a) (hb : 0 < b) (hr : I64 a) (hdn : Nat.blt d₀ n = true) (kk : WL P n ops Q rest ((d₀, (.int .i64 (a % b))) :: e) w) : WL P n ops Q (⟨some d₀, .binOp .rem t x y u, ty, pos, af, none⟩ :: rest) e w := by
  refine WL_pure (v := (.int .i64 (a % b))) ?_ hdn kk
  apply PR_remP <;> assumption
theorem WF_remP {x y : Operand} {t u : TypeId} {a b : Int} (hi₀ : ops[i₀]? = some ⟨some d₀, .binOp .rem t x y u, ty, pos, af, gd⟩) (hg₀ : gdOk ops e gd) (hx : ev e x = some (.int .i64 a)) (hy : ev e y = some (.int .i64 b)) (h0 : 0 ≤ a) (hb : 0 < b) (hr : I64 a) (hdn : Nat.blt d₀ n = true) (kk : WD P n ops S Lt Q ord ((d₀, (.int .i64 (a % b))) :: e) w) : WD P n ops S Lt Q ((i₀, 0) :: ord) e w := by
  refine WD_free (v := (.int .i64 (a % b))) hi₀ hg₀ (fun w' => ?_) hdn kk
  apply PR_remP <;> assumption
theorem WL_quoP {x y : Operand} {t u : TypeId} {a b : Int} (hx : ev e x = some (.int .i64 a)) (hy : ev e y = some (.int .i64 b)) (h0 : 0 ≤ a) (hb : 0 < b) (hr : I64 a) (hdn : Nat.blt d₀ n = true) (kk : WL P n ops Q rest ((d₀, (.int .i64 (a / b))) :: e) w) : WL P n ops Q (⟨some d₀, .binOp .quo t x y u, ty, pos, af, none⟩ :: rest) e w := by
  refine WL_pure (v := (.int .i64 (a / b))) ?_ hdn kk
  apply PR_quoP <;> assumption
theorem WF_quoP {x y : Operand} {t u : TypeId} {a b : Int} (hi₀ : ops[i₀]? = some ⟨some d₀, .binOp .quo t x y u, ty, pos, af, gd⟩) (hg₀ : gdOk ops e gd) (hx : ev e x = some (.int .i64 a)) (hy : ev e y = some (.int .i64 b)) (h0 : 0 ≤ a) (hb : 0 < b) (hr : I64 a) (hdn : Nat.blt d₀ n = true) (kk : WD P n ops S Lt Q ord ((d₀, (.int .i64 (a / b))) :: e) w) : WD P n ops S Lt Q ((i₀, 0) :: ord) e w := by
  refine WD_free (v := (.int .i64 (a / b))) hi₀ hg₀ (fun w' => ?_) hdn kk
  apply PR_quoP <;> assumption
theorem WL_lss {x y : Operand} {t u : TypeId} {a b : Int} {k : IntKind} (hx : ev e x = some (.int k a)) (hy : ev e y = some (.int k b)) (hdn : Nat.blt d₀ n = true) (kk : WL P n ops Q rest ((d₀, (.bool (decide (a < b)))) :: e) w) : WL P n ops Q (⟨some d₀, .binOp .lss t x y u, ty, pos, af, none⟩ :: rest) e w := by
  refine WL_pure (v := (.bool (decide (a < b)))) ?_ hdn kk
  apply PR_lss <;> assumption
theorem WF_lss {x y : Operand} {t u : TypeId} {a b : Int} {k : IntKind} (hi₀ : ops[i₀]? = some ⟨some d₀, .binOp .lss t x y u, ty, pos, af, gd⟩) (hg₀ : gdOk ops e gd) (hx : ev e x = some (.int k a)) (hy : ev e y = some (.int k b)) (hdn : Nat.blt d₀ n = true) (kk : WD P n ops S Lt Q ord ((d₀, (.bool (decide (a < b)))) :: e) w) : WD P n ops S Lt Q ((i₀, 0) :: ord) e w := by
  refine WD_free (v := (.bool (decide (a < b)))) hi₀ hg₀ (fun w' => ?_) hdn kk
  apply PR_lss <;> assumption
theorem WL_leq {x y : Operand} {t u : TypeId} {a b : Int} {k : IntKind} (hx : ev e x = some (.int k a)) (hy : ev e y = some (.int k b)) (hdn : Nat.blt d₀ n = true) (kk : WL P n ops Q rest ((d₀, (.bool (decide (a ≤ b)))) :: e) w) : WL P n ops Q (⟨some d₀, .binOp .leq t x y u, ty, pos, af, none⟩ :: rest) e w := by
  refine WL_pure (v := (.bool (decide (a ≤ b)))) ?_ hdn kk
  apply PR_leq <;> assumption
theorem WF_leq {x y : Operand} {t u : TypeId} {a b : Int} {k : IntKind} (hi₀ : ops[i₀]? = some ⟨some d₀, .binOp .leq t x y u, ty, pos, af, gd⟩) (hg₀ : gdOk ops e gd) (hx : ev e x = some (.int k a)) (hy : ev e y = some (.int k b)) (hdn : Nat.blt d₀ n = true) (kk : WD P n ops S Lt Q ord ((d₀, (.bool (decide (a ≤ b)))) :: e) w) : WD P n ops S Lt Q ((i₀, 0) :: ord) e w := by
  refine WD_free (v := (.bool (decide (a ≤ b)))) hi₀ hg₀ (fun w' => ?_) hdn kk
  apply PR_leq <;> assumption
theorem WL_gtr {x y : Operand} {t u : TypeId} {a b : Int} {k : IntKind} (hx : ev e x = some (.int k a)) (hy : ev e y = some (.int k b)) (hdn : Nat.blt d₀ n = true) (kk : WL P n ops Q rest ((d₀, (.bool (decide (b < a)))) :: e) w) : WL P n ops Q (⟨some d₀, .binOp .gtr t x y u, ty, pos, af, none⟩ :: rest) e w := by
  refine WL_pure (v := (.bool (decide (b < a)))) ?_ hdn kk
  apply PR_gtr <;> assumption
theorem WF_gtr {x y : Operand} {t u : TypeId} {a b : Int} {k : IntKind} (hi₀ : ops[i₀]? = some ⟨some d₀, .binOp .gtr t x y u, ty, pos, af, gd⟩) (hg₀ : gdOk ops e gd) (hx : ev e x = some (.int k a)) (hy : ev e y = some (.int k b)) (hdn : Nat.blt d₀ n = true) (kk : WD P n ops S Lt Q ord ((d₀, (.bool (decide (b < a)))) :: e) w) : WD P n ops S Lt Q ((i₀, 0) :: ord) e w := by
  refine WD_free (v := (.bool (decide (b < a)))) hi₀ hg₀ (fun w' => ?_) hdn kk
  apply PR_gtr <;> assumption
theorem WL_geq {x y : Operand} {t u : TypeId} {a b : Int} {k : IntKind} (hx : ev e x = some (.int k a)) (hy : ev e y = some (.int k b)) (hdn : Nat.blt d₀ n = true) (kk : WL P n ops Q rest ((d₀, (.bool (decide (b ≤ a)))) :: e) w) : WL P n ops Q (⟨some d₀, .binOp .geq t x y u, ty, pos, af, none⟩ :: rest) e w := by
  refine WL_pure (v := (.bool (decide (b ≤ a)))) ?_ hdn kk
  apply PR_geq <;> assumption
theorem WF_geq {x y : Operand} {t u : TypeId} {a b : Int} {k : IntKind} (hi₀ : ops[i₀]? = some ⟨some d₀, .binOp .geq t x y u, ty, pos, af, gd⟩) (hg₀ : gdOk ops e gd) (hx : ev e x = some (.int k a)) (hy : ev e y = some (.int k b)) (hdn : Nat.blt d₀ n = true) (kk : WD P n ops S Lt Q ord ((d₀, (.bool (decide (b ≤ a)))) :: e) w) : WD P n ops S Lt Q ((i₀, 0) :: ord) e w := by
  refine WD_free (v := (.bool (decide (b ≤ a)))) hi₀ hg₀ (fun w' => ?_) hdn kk
  apply PR_geq <;> assumption
theorem WL_eql {x y : Operand} {t u : TypeId} {a b : Int} {k : IntKind} (hx : ev e x = some (.int k a)) (hy : ev e y = some (.int k b)) (hdn : Nat.blt d₀ n = true) (kk : WL P n ops Q rest ((d₀, (.bool (decide (a = b)))) :: e) w) : WL P n ops Q (⟨some d₀, .binOp .eql t x y u, ty, pos, af, none⟩ :: rest) e w := by
  refine WL_pure (v := (.bool (decide (a = b)))) ?_ hdn kk
  apply PR_eql <;> assumption
theorem WF_eql {x y : Operand} {t u : TypeId} {a b : Int} {k : IntKind} (hi₀ : ops[i₀]? = some ⟨some d₀, .binOp .eql t x y u, ty, pos, af, gd⟩) (hg₀ : gdOk ops e gd) (hx : ev e x = some (.int k a)) (hy : ev e y = some (.int k b)) (hdn : Nat.blt d₀ n = true) (kk : WD P n ops S Lt Q ord ((d₀, (.bool (decide (a = b)))) :: e) w) : WD P n ops S Lt Q ((i₀, 0) :: ord) e w := by
  refine WD_free (v := (.bool (decide (a = b)))) hi₀ hg₀ (fun w' => ?_) hdn kk
  apply PR_eql <;> assumption
theorem WL_neq {x y : Operand} {t u : TypeId} {a b : Int} {k : IntKind} (hx : ev e x = some (.int k a)) (hy : ev e y = some (.int k b)) (hdn : Nat.blt d₀ n = true) (kk : WL P n ops Q rest ((d₀, (.bool (decide (¬ a = b)))) :: e) w) : WL P n ops Q (⟨some d₀, .binOp .neq t x y u, ty, pos, af, none⟩ :: rest) e w := by
  refine WL_pure (v := (.bool (decide (¬ a = b)))) ?_ hdn kk
  apply PR_neq <;> assumption
theorem WF_neq {x y : Operand} {t u : TypeId} {a b : Int} {k : IntKind} (hi₀ : ops[i₀]? = some ⟨some d₀, .binOp .neq t x y u, ty, pos, af, gd⟩) (hg₀ : gdOk ops e gd) (hx : ev e x = some (.int k a)) (hy : ev e y = some (.int k b)) (hdn : Nat.blt d₀ n = true) (kk : WD P n ops S Lt Q ord ((d₀, (.bool (decide (¬ a = b)))) :: e) w) : WD P n ops S Lt Q ((i₀, 0) :: ord) e w := by
  refine WD_free (v := (.bool (decide (¬ a = b)))) hi₀ hg₀ (fun w' => ?_) hdn kk
  apply PR_neq <;> assumption
theorem WL_eqlB {x y : Operand} {t u : TypeId} {p q : Bool} [hu : Und P t .bool] (hx : ev e x = some (.bool p)) (hy : ev e y = some (.bool q)) (hdn : Nat.blt d₀ n = true) (kk : WL P n ops Q rest ((d₀, (.bool (decide (p = q)))) :: e) w) : WL P n ops Q (⟨some d₀, .binOp .eql t x y u, ty, pos, af, none⟩ :: rest) e w := by
  refine WL_pure (v := (.bool (decide (p = q)))) ?_ hdn kk
  apply PR_eqlB <;> assumption
theorem WF_eqlB {x y : Operand} {t u : TypeId} {p q : Bool} [hu : Und P t .bool] (hi₀ : ops[i₀]? = some ⟨some d₀, .binOp .eql t x y u, ty, pos, af, gd⟩) (hg₀ : gdOk ops e gd) (hx : ev e x = some (.bool p)) (hy : ev e y = some (.bool q)) (hdn : Nat.blt d₀ n = true) (kk : WD P n ops S Lt Q ord ((d₀, (.bool (decide (p = q)))) :: e) w) : WD P n ops S Lt Q ((i₀, 0) :: ord) e w := by
  refine WD_free (v := (.bool (decide (p = q)))) hi₀ hg₀ (fun w' => ?_) hdn kk
  apply PR_eqlB <;> assumption
theorem WL_neqB {x y : Operand} {t u : TypeId} {p q : Bool} [hu : Und P t .bool] (hx : ev e x = some (.bool p)) (hy : ev e y = some (.bool q)) (hdn : Nat.blt d₀ n = true) (kk : WL P n ops Q rest ((d₀, (.bool (decide (¬ p = q)))) :: e) w) : WL P n ops Q (⟨some d₀, .binOp .neq t x y u, ty, pos, af, none⟩ :: rest) e w := by
  refine WL_pure (v := (.bool (decide (¬ p = q)))) ?_ hdn kk
  apply PR_neqB <;> assumption
theorem WF_neqB {x y : Operand} {t u : TypeId} {p q : Bool} [hu : Und P t .bool] (hi₀ : ops[i₀]? = some ⟨some d₀, .binOp .neq t x y u, ty, pos, af, gd⟩) (hg₀ : gdOk ops e gd) (hx : ev e x = some (.bool p)) (hy : ev e y = some (.bool q)) (hdn : Nat.blt d₀ n = true) (kk : WD P n ops S Lt Q ord ((d₀, (.bool (decide (¬ p = q)))) :: e) w) : WD P n ops S Lt Q ((i₀, 0) :: ord) e w := by
  refine WD_free (v := (.bool (decide (¬ p = q)))) hi₀ hg₀ (fun w' => ?_) hdn kk
  apply PR_neqB <;> assumption
theorem WL_extract {x : Operand} {vs : Array Value} {i : Nat} {v : Value} (hx : ev e x = some (.tuple vs)) (hv : vs[i]? = some v) (hdn : Nat.blt d₀ n = true) (kk : WL P n ops Q rest ((d₀, v) :: e) w) : WL P n ops Q (⟨some d₀, .extract x i, ty, pos, af, none⟩ :: rest) e w := by
  refine WL_pure (v := v) ?_ hdn kk
  apply PR_extract <;> assumption
theorem WF_extract {x : Operand} {vs : Array Value} {i : Nat} {v : Value} (hi₀ : ops[i₀]? = some ⟨some d₀, .extract x i, ty, pos, af, gd⟩) (hg₀ : gdOk ops e gd) (hx : ev e x = some (.tuple vs)) (hv : vs[i]? = some v) (hdn : Nat.blt d₀ n = true) (kk : WD P n ops S Lt Q ord ((d₀, v) :: e) w) : WD P n ops S Lt Q ((i₀, 0) :: ord) e w := by
  refine WD_free (v := v) hi₀ hg₀ (fun w' => ?_) hdn kk
  apply PR_extract <;> assumption
theorem WL_len {x : Operand} {t : TypeId} {el : TypeId} [hu : Und P t (.slice el)] {p : Option Addr} {l c : Nat} (hx : ev e x = some (.slice p l c)) (hdn : Nat.blt d₀ n = true) (kk : WL P n ops Q rest ((d₀, (.int .i64 (l : Int))) :: e) w) : WL P n ops Q (⟨some d₀, .call { callee := .builtin .len, args := #[x], argTypes := #[t] }, ty, pos, af, none⟩ :: rest) e w := by
  refine WL_pure (v := (.int .i64 (l : Int))) ?_ hdn kk
  apply PR_len <;> assumption
theorem WF_len {x : Operand} {t : TypeId} {el : TypeId} [hu : Und P t (.slice el)] {p : Option Addr} {l c : Nat} (hi₀ : ops[i₀]? = some ⟨some d₀, .call { callee := .builtin .len, args := #[x], argTypes := #[t] }, ty, pos, af, gd⟩) (hg₀ : gdOk ops e gd) (hx : ev e x = some (.slice p l c)) (hdn : Nat.blt d₀ n = true) (kk : WD P n ops S Lt Q ord ((d₀, (.int .i64 (l : Int))) :: e) w) : WD P n ops S Lt Q ((i₀, 0) :: ord) e w := by
  refine WD_free (v := (.int .i64 (l : Int))) hi₀ hg₀ (fun w' => ?_) hdn kk
  apply PR_len <;> assumption
theorem WL_fieldAddr {x : Operand} {t : TypeId} {b o i off : Nat} [hf : Fld P t i off] (hx : ev e x = some (.pointer (some ⟨b, o, none⟩))) (hdn : Nat.blt d₀ n = true) (kk : WL P n ops Q rest ((d₀, (.pointer (some ⟨b, o + off, none⟩))) :: e) w) : WL P n ops Q (⟨some d₀, .fieldAddr t x i, ty, pos, af, none⟩ :: rest) e w := by
  refine WL_pure (v := (.pointer (some ⟨b, o + off, none⟩))) ?_ hdn kk
  apply PR_fieldAddr <;> assumption
theorem WF_fieldAddr {x : Operand} {t : TypeId} {b o i off : Nat} [hf : Fld P t i off] (hi₀ : ops[i₀]? = some ⟨some d₀, .fieldAddr t x i, ty, pos, af, gd⟩) (hg₀ : gdOk ops e gd) (hx : ev e x = some (.pointer (some ⟨b, o, none⟩))) (hdn : Nat.blt d₀ n = true) (kk : WD P n ops S Lt Q ord ((d₀, (.pointer (some ⟨b, o + off, none⟩))) :: e) w) : WD P n ops S Lt Q ((i₀, 0) :: ord) e w := by
  refine WD_free (v := (.pointer (some ⟨b, o + off, none⟩))) hi₀ hg₀ (fun w' => ?_) hdn kk
  apply PR_fieldAddr <;> assumption
theorem WL_load1 {x : Operand} {t : TypeId} {D : TypeDesc} {ad : Addr} {v : Value} [hu : Und P t D] (hA : aggB D = false) (hx : ev e x = some (.pointer (some ad))) (hc : w.cell? ad = some v) (hdn : Nat.blt d₀ n = true) (kk : WL P n ops Q rest ((d₀, v) :: e) w) : WL P n ops Q (⟨some d₀, .load t x, ty, pos, af, none⟩ :: rest) e w := by
  refine WL_pure (v := v) ?_ hdn kk
  apply PR_load1 <;> assumption
theorem WL_loadN {x : Operand} {t : TypeId} {D : TypeDesc} {b o k : Nat} {cs : List Value} [hu : Und P t D] (hA : aggB D = true) [hs : Siz P t k] (hx : ev e x = some (.pointer (some ⟨b, o, none⟩))) (hl : cs.length = k) (hc : ∀ j u, cs[j]? = some u → w.cell? ⟨b, o + j, none⟩ = some u) (hdn : Nat.blt d₀ n = true) (kk : WL P n ops Q rest ((d₀, (.agg cs.toArray)) :: e) w) : WL P n ops Q (⟨some d₀, .load t x, ty, pos, af, none⟩ :: rest) e w := by
  refine WL_pure (v := (.agg cs.toArray)) ?_ hdn kk
  apply PR_loadN <;> assumption
theorem WL_makeFunc0 {f : Nat} (hdn : Nat.blt d₀ n = true) (kk : WL P n ops Q rest ((d₀, (.func (.func f) #[] #[])) :: e) w) : WL P n ops Q (⟨some d₀, .makeFunc (.func f) #[] #[], ty, pos, af, none⟩ :: rest) e w := by
  refine WL_pure (v := (.func (.func f) #[] #[])) ?_ hdn kk
  apply PR_makeFunc0 <;> assumption
theorem WF_makeFunc0 {f : Nat} (hi₀ : ops[i₀]? = some ⟨some d₀, .makeFunc (.func f) #[] #[], ty, pos, af, gd⟩) (hg₀ : gdOk ops e gd)  (hdn : Nat.blt d₀ n = true) (kk : WD P n ops S Lt Q ord ((d₀, (.func (.func f) #[] #[])) :: e) w) : WD P n ops S Lt Q ((i₀, 0) :: ord) e w := by
  refine WD_free (v := (.func (.func f) #[] #[])) hi₀ hg₀ (fun w' => ?_) hdn kk
  apply PR_makeFunc0 <;> assumption
theorem WL_makeFunc1 {f : Nat} {x : Operand} {v : Value} (hx : ev e x = some v) (hdn : Nat.blt d₀ n = true) (kk : WL P n ops Q rest ((d₀, (.func (.func f) #[] #[v])) :: e) w) : WL P n ops Q (⟨some d₀, .makeFunc (.func f) #[] #[x], ty, pos, af, none⟩ :: rest) e w := by
  refine WL_pure (v := (.func (.func f) #[] #[v])) ?_ hdn kk
  apply PR_makeFunc1 <;> assumption
theorem WF_makeFunc1 {f : Nat} {x : Operand} {v : Value} (hi₀ : ops[i₀]? = some ⟨some d₀, .makeFunc (.func f) #[] #[x], ty, pos, af, gd⟩) (hg₀ : gdOk ops e gd) (hx : ev e x = some v) (hdn : Nat.blt d₀ n = true) (kk : WD P n ops S Lt Q ord ((d₀, (.func (.func f) #[] #[v])) :: e) w) : WD P n ops S Lt Q ((i₀, 0) :: ord) e w := by
  refine WD_free (v := (.func (.func f) #[] #[v])) hi₀ hg₀ (fun w' => ?_) hdn kk
  apply PR_makeFunc1 <;> assumption
theorem WL_makeFunc2 {f : Nat} {x y : Operand} {v u : Value} (hx : ev e x = some v) (hy : ev e y = some u) (hdn : Nat.blt d₀ n = true) (kk : WL P n ops Q rest ((d₀, (.func (.func f) #[] #[v, u])) :: e) w) : WL P n ops Q (⟨some d₀, .makeFunc (.func f) #[] #[x, y], ty, pos, af, none⟩ :: rest) e w := by
  refine WL_pure (v := (.func (.func f) #[] #[v, u])) ?_ hdn kk
  apply PR_makeFunc2 <;> assumption
theorem WF_makeFunc2 {f : Nat} {x y : Operand} {v u : Value} (hi₀ : ops[i₀]? = some ⟨some d₀, .makeFunc (.func f) #[] #[x, y], ty, pos, af, gd⟩) (hg₀ : gdOk ops e gd) (hx : ev e x = some v) (hy : ev e y = some u) (hdn : Nat.blt d₀ n = true) (kk : WD P n ops S Lt Q ord ((d₀, (.func (.func f) #[] #[v, u])) :: e) w) : WD P n ops S Lt Q ((i₀, 0) :: ord) e w := by
  refine WD_free (v := (.func (.func f) #[] #[v, u])) hi₀ hg₀ (fun w' => ?_) hdn kk
  apply PR_makeFunc2 <;> assumption
theorem WL_makeFunc3 {f : Nat} {x y z : Operand} {v u s : Value} (hx : ev e x = some v) (hy : ev e y = some u) (hz : ev e z = some s) (hdn : Nat.blt d₀ n = true) (kk : WL P n ops Q rest ((d₀, (.func (.func f) #[] #[v, u, s])) :: e) w) : WL P n ops Q (⟨some d₀, .makeFunc (.func f) #[] #[x, y, z], ty, pos, af, none⟩ :: rest) e w := by
  refine WL_pure (v := (.func (.func f) #[] #[v, u, s])) ?_ hdn kk
  apply PR_makeFunc3 <;> assumption
theorem WF_makeFunc3 {f : Nat} {x y z : Operand} {v u s : Value} (hi₀ : ops[i₀]? = some ⟨some d₀, .makeFunc (.func f) #[] #[x, y, z], ty, pos, af, gd⟩) (hg₀ : gdOk ops e gd) (hx : ev e x = some v) (hy : ev e y = some u) (hz : ev e z = some s) (hdn : Nat.blt d₀ n = true) (kk : WD P n ops S Lt Q ord ((d₀, (.func (.func f) #[] #[v, u, s])) :: e) w) : WD P n ops S Lt Q ((i₀, 0) :: ord) e w := by
  refine WD_free (v := (.func (.func f) #[] #[v, u, s])) hi₀ hg₀ (fun w' => ?_) hdn kk
  apply PR_makeFunc3 <;> assumption
theorem WL_lenS {α : Type} [GoRep α] {X : List Nat} {xs : List α} {v : Value} {x : Operand} {t : TypeId} {el : TypeId} {w₀ : World} [hu : Und P t (.slice el)] (hx : ev e x = some v) (hs : SlV X w₀ v xs) (hdn : Nat.blt d₀ n = true) (kk : WL P n ops Q rest ((d₀, (.int .i64 (xs.length : Int))) :: e) w) : WL P n ops Q (⟨some d₀, .call { callee := .builtin .len, args := #[x], argTypes := #[t] }, ty, pos, af, none⟩ :: rest) e w := by
  refine WL_pure (v := (.int .i64 (xs.length : Int))) ?_ hdn kk
  apply PR_lenS (α := α) <;> assumption
theorem WF_lenS {α : Type} [GoRep α] {X : List Nat} {xs : List α} {v : Value} {x : Operand} {t : TypeId} {el : TypeId} {w₀ : World} [hu : Und P t (.slice el)] (hi₀ : ops[i₀]? = some ⟨some d₀, .call { callee := .builtin .len, args := #[x], argTypes := #[t] }, ty, pos, af, gd⟩) (hg₀ : gdOk ops e gd) (hx : ev e x = some v) (hs : SlV X w₀ v xs) (hdn : Nat.blt d₀ n = true) (kk : WD P n ops S Lt Q ord ((d₀, (.int .i64 (xs.length : Int))) :: e) w) : WD P n ops S Lt Q ((i₀, 0) :: ord) e w := by
  refine WD_free (v := (.int .i64 (xs.length : Int))) hi₀ hg₀ (fun w' => ?_) hdn kk
  apply PR_lenS (α := α) <;> assumption
theorem WL_idx {α : Type} [GoRep α] {X : List Nat} {xs : List α} {v : Value} {x y : Operand} {t : TypeId} {el k : Nat} [hu : Und P t (.slice el)] [hk : Siz P el k] {z : Int} {i : Nat} {w₀ : World} (hx : ev e x = some v) (hs : SlV X w₀ v xs) (hy : ev e y = some (.int .i64 z)) (hz : z = (i : Int)) (hi : i < xs.length) (hdn : Nat.blt d₀ n = true) (kk : WL P n ops Q rest ((d₀, (.pointer (some (elAddr v i k 0)))) :: e) w) : WL P n ops Q (⟨some d₀, .indexAddr t x y, ty, pos, af, none⟩ :: rest) e w := by
  refine WL_pure (v := (.pointer (some (elAddr v i k 0)))) ?_ hdn kk
  apply PR_idx (α := α) <;> assumption
theorem WF_idx {α : Type} [GoRep α] {X : List Nat} {xs : List α} {v : Value} {x y : Operand} {t : TypeId} {el k : Nat} [hu : Und P t (.slice el)] [hk : Siz P el k] {z : Int} {i : Nat} {w₀ : World} (hi₀ : ops[i₀]? = some ⟨some d₀, .indexAddr t x y, ty, pos, af, gd⟩) (hg₀ : gdOk ops e gd) (hx : ev e x = some v) (hs : SlV X w₀ v xs) (hy : ev e y = some (.int .i64 z)) (hz : z = (i : Int)) (hi : i < xs.length) (hdn : Nat.blt d₀ n = true) (kk : WD P n ops S Lt Q ord ((d₀, (.pointer (some (elAddr v i k 0)))) :: e) w) : WD P n ops S Lt Q ((i₀, 0) :: ord) e w := by
  refine WD_free (v := (.pointer (some (elAddr v i k 0)))) hi₀ hg₀ (fun w' => ?_) hdn kk
  apply PR_idx (α := α) <;> assumption
theorem WL_field_el {x : Operand} {t : TypeId} {v : Value} {i k j m off : Nat} [hf : Fld P t m off] (hx : ev e x = some (.pointer (some (elAddr v i k j)))) (hv : ∃ p l c, v = .slice (some p) l c) (hdn : Nat.blt d₀ n = true) (kk : WL P n ops Q rest ((d₀, (.pointer (some (elAddr v i k (j + off))))) :: e) w) : WL P n ops Q (⟨some d₀, .fieldAddr t x m, ty, pos, af, none⟩ :: rest) e w := by
  refine WL_pure (v := (.pointer (some (elAddr v i k (j + off))))) ?_ hdn kk
  apply PR_field_el <;> assumption
theorem WF_field_el {x : Operand} {t : TypeId} {v : Value} {i k j m off : Nat} [hf : Fld P t m off] (hi₀ : ops[i₀]? = some ⟨some d₀, .fieldAddr t x m, ty, pos, af, gd⟩) (hg₀ : gdOk ops e gd) (hx : ev e x = some (.pointer (some (elAddr v i k j)))) (hv : ∃ p l c, v = .slice (some p) l c) (hdn : Nat.blt d₀ n = true) (kk : WD P n ops S Lt Q ord ((d₀, (.pointer (some (elAddr v i k (j + off))))) :: e) w) : WD P n ops S Lt Q ((i₀, 0) :: ord) e w := by
  refine WD_free (v := (.pointer (some (elAddr v i k (j + off))))) hi₀ hg₀ (fun w' => ?_) hdn kk
  apply PR_field_el <;> assumption
theorem WL_load_el {α : Type} [Flat α] {X : List Nat} {xs : List α} {v u : Value} {i j k : Nat} {x : Operand} {t : TypeId} {D : TypeDesc} [hu : Und P t D] (hA : aggB D = false) (hx : ev e x = some (.pointer (some (elAddr v i k j)))) (hs : SlV X w v xs) (hi : i < xs.length) (hk : k = Flat.k α) (hc : (Flat.enc xs[i])[j]? = some u) (hdn : Nat.blt d₀ n = true) (kk : WL P n ops Q rest ((d₀, u) :: e) w) : WL P n ops Q (⟨some d₀, .load t x, ty, pos, af, none⟩ :: rest) e w := by
  refine WL_pure (v := u) ?_ hdn kk
  apply PR_load_el (α := α) <;> assumption
theorem WL_loadN_el {α : Type} [Flat α] {X : List Nat} {xs : List α} {v : Value} {us : List Value} {i j k m : Nat} {x : Operand} {t : TypeId} {D : TypeDesc} [hu : Und P t D] (hA : aggB D = true) [hsz : Siz P t m] (hx : ev e x = some (.pointer (some (elAddr v i k j)))) (hs : SlV X w v xs) (hi : i < xs.length) (hk : k = Flat.k α) (hl : us.length = m) (hc : ((Flat.enc xs[i]).drop j).take m = us) (hdn : Nat.blt d₀ n = true) (kk : WL P n ops Q rest ((d₀, (.agg us.toArray)) :: e) w) : WL P n ops Q (⟨some d₀, .load t x, ty, pos, af, none⟩ :: rest) e w := by
  refine WL_pure (v := (.agg us.toArray)) ?_ hdn kk
  apply PR_loadN_el (α := α) <;> assumption
theorem WL_load_elA {α : Type} [Flat α] {X : List Nat} {xs : List α} {v : Value} {i k : Nat} {x : Operand} {t : TypeId} {D : TypeDesc} [hu : Und P t D] (hA : aggB D = true) [hsz : Siz P t k] (hx : ev e x = some (.pointer (some (elAddr v i k 0)))) (hs : SlV X w v xs) (hi : i < xs.length) (hk : k = Flat.k α) (hdn : Nat.blt d₀ n = true) (kk : WL P n ops Q rest ((d₀, (.agg (Flat.enc xs[i]).toArray)) :: e) w) : WL P n ops Q (⟨some d₀, .load t x, ty, pos, af, none⟩ :: rest) e w := by
  refine WL_pure (v := (.agg (Flat.enc xs[i]).toArray)) ?_ hdn kk
  apply PR_load_elA (α := α) <;> assumption
theorem WL_load_blk {b T o : Nat} {cs : List Value} {u : Value} {x : Operand} {t : TypeId} {D : TypeDesc} [hu : Und P t D] (hA : aggB D = false) (hx : ev e x = some (.pointer (some ⟨b, o, none⟩))) (hb : Blk w b T cs) (hc : cs[o]? = some u) (hdn : Nat.blt d₀ n = true) (kk : WL P n ops Q rest ((d₀, u) :: e) w) : WL P n ops Q (⟨some d₀, .load t x, ty, pos, af, none⟩ :: rest) e w := by
  refine WL_pure (v := u) ?_ hdn kk
  apply PR_load_blk <;> assumption
theorem WL_loadN_blk {b T o m : Nat} {cs us : List Value} {x : Operand} {t : TypeId} {D : TypeDesc} [hu : Und P t D] (hA : aggB D = true) [hsz : Siz P t m] (hx : ev e x = some (.pointer (some ⟨b, o, none⟩))) (hb : Blk w b T cs) (hl : us.length = m) (hc : (cs.drop o).take m = us) (hdn : Nat.blt d₀ n = true) (kk : WL P n ops Q rest ((d₀, (.agg us.toArray)) :: e) w) : WL P n ops Q (⟨some d₀, .load t x, ty, pos, af, none⟩ :: rest) e w := by
  refine WL_pure (v := (.agg us.toArray)) ?_ hdn kk
  apply PR_loadN_blk <;> assumption
theorem WL_load_blkA {b T m : Nat} {cs : List Value} {x : Operand} {t : TypeId} {D : TypeDesc} [hu : Und P t D] (hA : aggB D = true) [hsz : Siz P t m] (hx : ev e x = some (.pointer (some ⟨b, 0, none⟩))) (hb : Blk w b T cs) (hl : cs.length = m) (hdn : Nat.blt d₀ n = true) (kk : WL P n ops Q rest ((d₀, (.agg cs.toArray)) :: e) w) : WL P n ops Q (⟨some d₀, .load t x, ty, pos, af, none⟩ :: rest) e w := by
  refine WL_pure (v := (.agg cs.toArray)) ?_ hdn kk
  apply PR_load_blkA <;> assumption
theorem WL_slice_lh {α : Type} [GoRep α] {X : List Nat} {v : Value} {xs : List α} {t el k : Nat} {x lo hi : Operand} {l r : Nat} {a b : Int} [hu : Und P t (.slice el)] [hk : Siz P el k] {w₀ : World} (hx : ev e x = some v) (hs : SlV X w₀ v xs) (ha : ev e lo = some (.int .i64 a)) (hb : ev e hi = some (.int .i64 b)) (hal : a = (l : Int)) (hbr : b = (r : Int)) (hlr : l ≤ r) (hrx : r ≤ xs.length) (hdn : Nat.blt d₀ n = true) (kk : WL P n ops Q rest ((d₀, (slc v l r k)) :: e) w) : WL P n ops Q (⟨some d₀, .slice t x (some lo) (some hi) none, ty, pos, af, none⟩ :: rest) e w := by
  refine WL_pure (v := (slc v l r k)) ?_ hdn kk
  apply PR_slice_lh (α := α) <;> assumption
theorem WF_slice_lh {α : Type} [GoRep α] {X : List Nat} {v : Value} {xs : List α} {t el k : Nat} {x lo hi : Operand} {l r : Nat} {a b : Int} [hu : Und P t (.slice el)] [hk : Siz P el k] {w₀ : World} (hi₀ : ops[i₀]? = some ⟨some d₀, .slice t x (some lo) (some hi) none, ty, pos, af, gd⟩) (hg₀ : gdOk ops e gd) (hx : ev e x = some v) (hs : SlV X w₀ v xs) (ha : ev e lo = some (.int .i64 a)) (hb : ev e hi = some (.int .i64 b)) (hal : a = (l : Int)) (hbr : b = (r : Int)) (hlr : l ≤ r) (hrx : r ≤ xs.length) (hdn : Nat.blt d₀ n = true) (kk : WD P n ops S Lt Q ord ((d₀, (slc v l r k)) :: e) w) : WD P n ops S Lt Q ((i₀, 0) :: ord) e w := by
  refine WD_free (v := (slc v l r k)) hi₀ hg₀ (fun w' => ?_) hdn kk
  apply PR_slice_lh (α := α) <;> assumption
theorem WL_slice_h {α : Type} [GoRep α] {X : List Nat} {v : Value} {xs : List α} {t el k : Nat} {x hi : Operand} {r : Nat} {b : Int} [hu : Und P t (.slice el)] [hk : Siz P el k] {w₀ : World} (hx : ev e x = some v) (hs : SlV X w₀ v xs) (hb : ev e hi = some (.int .i64 b)) (hbr : b = (r : Int)) (hrx : r ≤ xs.length) (hdn : Nat.blt d₀ n = true) (kk : WL P n ops Q rest ((d₀, (slc v 0 r k)) :: e) w) : WL P n ops Q (⟨some d₀, .slice t x none (some hi) none, ty, pos, af, none⟩ :: rest) e w := by
  refine WL_pure (v := (slc v 0 r k)) ?_ hdn kk
  apply PR_slice_h (α := α) <;> assumption
theorem WF_slice_h {α : Type} [GoRep α] {X : List Nat} {v : Value} {xs : List α} {t el k : Nat} {x hi : Operand} {r : Nat} {b : Int} [hu : Und P t (.slice el)] [hk : Siz P el k] {w₀ : World} (hi₀ : ops[i₀]? = some ⟨some d₀, .slice t x none (some hi) none, ty, pos, af, gd⟩) (hg₀ : gdOk ops e gd) (hx : ev e x = some v) (hs : SlV X w₀ v xs) (hb : ev e hi = some (.int .i64 b)) (hbr : b = (r : Int)) (hrx : r ≤ xs.length) (hdn : Nat.blt d₀ n = true) (kk : WD P n ops S Lt Q ord ((d₀, (slc v 0 r k)) :: e) w) : WD P n ops S Lt Q ((i₀, 0) :: ord) e w := by
  refine WD_free (v := (slc v 0 r k)) hi₀ hg₀ (fun w' => ?_) hdn kk
  apply PR_slice_h (α := α) <;> assumption
theorem WL_slice_l {α : Type} [GoRep α] {X : List Nat} {v : Value} {xs : List α} {t el k : Nat} {x lo : Operand} {l : Nat} {a : Int} [hu : Und P t (.slice el)] [hk : Siz P el k] {w₀ : World} (hx : ev e x = some v) (hs : SlV X w₀ v xs) (ha : ev e lo = some (.int .i64 a)) (hal : a = (l : Int)) (hlx : l ≤ xs.length) (hdn : Nat.blt d₀ n = true) (kk : WL P n ops Q rest ((d₀, (slc v l xs.length k)) :: e) w) : WL P n ops Q (⟨some d₀, .slice t x (some lo) none none, ty, pos, af, none⟩ :: rest) e w := by
  refine WL_pure (v := (slc v l xs.length k)) ?_ hdn kk
  apply PR_slice_l (α := α) <;> assumption
theorem WF_slice_l {α : Type} [GoRep α] {X : List Nat} {v : Value} {xs : List α} {t el k : Nat} {x lo : Operand} {l : Nat} {a : Int} [hu : Und P t (.slice el)] [hk : Siz P el k] {w₀ : World} (hi₀ : ops[i₀]? = some ⟨some d₀, .slice t x (some lo) none none, ty, pos, af, gd⟩) (hg₀ : gdOk ops e gd) (hx : ev e x = some v) (hs : SlV X w₀ v xs) (ha : ev e lo = some (.int .i64 a)) (hal : a = (l : Int)) (hlx : l ≤ xs.length) (hdn : Nat.blt d₀ n = true) (kk : WD P n ops S Lt Q ord ((d₀, (slc v l xs.length k)) :: e) w) : WD P n ops S Lt Q ((i₀, 0) :: ord) e w := by
  refine WD_free (v := (slc v l xs.length k)) hi₀ hg₀ (fun w' => ?_) hdn kk
  apply PR_slice_l (α := α) <;> assumption
theorem WL_build {t : TypeId} {l : List (Nat × Operand)} {vs : List (Nat × Value)} {u : Value} (hv : evParts e l = some vs) (hb : ∀ w, (Instr.build t vs.toArray).run P w = .ok u w) (hdn : Nat.blt d₀ n = true) (kk : WL P n ops Q rest ((d₀, u) :: e) w) : WL P n ops Q (⟨some d₀, .build t l.toArray, ty, pos, af, none⟩ :: rest) e w := by
  refine WL_pure (v := u) ?_ hdn kk
  apply PR_build <;> assumption
theorem WF_build {t : TypeId} {l : List (Nat × Operand)} {vs : List (Nat × Value)} {u : Value} (hi₀ : ops[i₀]? = some ⟨some d₀, .build t l.toArray, ty, pos, af, gd⟩) (hg₀ : gdOk ops e gd) (hv : evParts e l = some vs) (hb : ∀ w, (Instr.build t vs.toArray).run P w = .ok u w) (hdn : Nat.blt d₀ n = true) (kk : WD P n ops S Lt Q ord ((d₀, u) :: e) w) : WD P n ops S Lt Q ((i₀, 0) :: ord) e w := by
  refine WD_free (v := u) hi₀ hg₀ (fun w' => ?_) hdn kk
  apply PR_build <;> assumption
theorem WL_eqlS {x y : Operand} {t u : TypeId} {p q : Value} {c : Prop} [Decidable c] (hx : ev e x = some p) (hy : ev e y = some q) (hg : ∀ w, (eqGuard .eql t x y p q).run P w = .ok () w) (h : ∀ w, (binOp .eql t p q).run P w = .ok (.bool (decide c)) w) (hdn : Nat.blt d₀ n = true) (kk : WL P n ops Q rest ((d₀, (.bool (decide c))) :: e) w) : WL P n ops Q (⟨some d₀, .binOp .eql t x y u, ty, pos, af, none⟩ :: rest) e w := by
  refine WL_pure (v := (.bool (decide c))) ?_ hdn kk
  apply PR_eqlS <;> assumption
theorem WF_eqlS {x y : Operand} {t u : TypeId} {p q : Value} {c : Prop} [Decidable c] (hi₀ : ops[i₀]? = some ⟨some d₀, .binOp .eql t x y u, ty, pos, af, gd⟩) (hg₀ : gdOk ops e gd) (hx : ev e x = some p) (hy : ev e y = some q) (hg : ∀ w, (eqGuard .eql t x y p q).run P w = .ok () w) (h : ∀ w, (binOp .eql t p q).run P w = .ok (.bool (decide c)) w) (hdn : Nat.blt d₀ n = true) (kk : WD P n ops S Lt Q ord ((d₀, (.bool (decide c))) :: e) w) : WD P n ops S Lt Q ((i₀, 0) :: ord) e w := by
  refine WD_free (v := (.bool (decide c))) hi₀ hg₀ (fun w' => ?_) hdn kk
  apply PR_eqlS <;> assumption
theorem WL_neqS {x y : Operand} {t u : TypeId} {p q : Value} {c : Prop} [Decidable c] (hx : ev e x = some p) (hy : ev e y = some q) (hg : ∀ w, (eqGuard .neq t x y p q).run P w = .ok () w) (h : ∀ w, (binOp .neq t p q).run P w = .ok (.bool (decide (¬ c))) w) (hdn : Nat.blt d₀ n = true) (kk : WL P n ops Q rest ((d₀, (.bool (decide (¬ c)))) :: e) w) : WL P n ops Q (⟨some d₀, .binOp .neq t x y u, ty, pos, af, none⟩ :: rest) e w := by
  refine WL_pure (v := (.bool (decide (¬ c)))) ?_ hdn kk
  apply PR_neqS <;> assumption
theorem WF_neqS {x y : Operand} {t u : TypeId} {p q : Value} {c : Prop} [Decidable c] (hi₀ : ops[i₀]? = some ⟨some d₀, .binOp .neq t x y u, ty, pos, af, gd⟩) (hg₀ : gdOk ops e gd) (hx : ev e x = some p) (hy : ev e y = some q) (hg : ∀ w, (eqGuard .neq t x y p q).run P w = .ok () w) (h : ∀ w, (binOp .neq t p q).run P w = .ok (.bool (decide (¬ c))) w) (hdn : Nat.blt d₀ n = true) (kk : WD P n ops S Lt Q ord ((d₀, (.bool (decide (¬ c)))) :: e) w) : WD P n ops S Lt Q ((i₀, 0) :: ord) e w := by
  refine WD_free (v := (.bool (decide (¬ c)))) hi₀ hg₀ (fun w' => ?_) hdn kk
  apply PR_neqS <;> assumption
theorem is_idx {t : TypeId} {x : Operand} {y : Operand} (h : WL P n ops Q (⟨some d₀, .indexAddr t x y, ty, pos, af, none⟩ :: rest) e w) : WL P n ops Q (⟨some d₀, .indexAddr t x y, ty, pos, af, none⟩ :: rest) e w := h
theorem is_load {t : TypeId} {x : Operand} (h : WL P n ops Q (⟨some d₀, .load t x, ty, pos, af, none⟩ :: rest) e w) : WL P n ops Q (⟨some d₀, .load t x, ty, pos, af, none⟩ :: rest) e w := h
theorem is_len {t : TypeId} {x : Operand} (h : WL P n ops Q (⟨some d₀, .call { callee := .builtin .len, args := #[x], argTypes := #[t] }, ty, pos, af, none⟩ :: rest) e w) : WL P n ops Q (⟨some d₀, .call { callee := .builtin .len, args := #[x], argTypes := #[t] }, ty, pos, af, none⟩ :: rest) e w := h
theorem is_field {t : TypeId} {x : Operand} {m : Nat} (h : WL P n ops Q (⟨some d₀, .fieldAddr t x m, ty, pos, af, none⟩ :: rest) e w) : WL P n ops Q (⟨some d₀, .fieldAddr t x m, ty, pos, af, none⟩ :: rest) e w := h
theorem is_add {t : TypeId} {x : Operand} {y : Operand} {u : TypeId} (h : WL P n ops Q (⟨some d₀, .binOp .add t x y u, ty, pos, af, none⟩ :: rest) e w) : WL P n ops Q (⟨some d₀, .binOp .add t x y u, ty, pos, af, none⟩ :: rest) e w := h
theorem is_slice {t : TypeId} {x : Operand} {lo hi mx : Option Operand} (h : WL P n ops Q (⟨some d₀, .slice t x lo hi mx, ty, pos, af, none⟩ :: rest) e w) : WL P n ops Q (⟨some d₀, .slice t x lo hi mx, ty, pos, af, none⟩ :: rest) e w := h
end
/-! reading rules in a region that draws -/
section
variable {P : Program} {n : Nat} {Q : Exit → Act → World → Prop} {e : Env} {w : World} {ops : Array Oper} {S : List Nat} {Lt : List Nat} {ord : List (Nat × Nat)} {d₀ i₀ : Nat} {ty : TypeId} {pos : String} {af : Array Edge} {gd : Option (Nat × Bool)}
theorem WR_load_blk {b T o : Nat} {cs : List Value} {u : Value} {x : Operand} {t : TypeId} {D : TypeDesc} [hu : Und P t D] (hi₀ : ops[i₀]? = some ⟨some d₀, .load t x, ty, pos, af, gd⟩) (hg₀ : gdOk ops e gd) (hA : aggB D = false) (hx : ev e x = some (.pointer (some ⟨b, o, none⟩))) (hb : Blk w b T cs) (hn : b ∉ S) (hc : cs[o]? = some u) (hdn : Nat.blt d₀ n = true) (kk : WD P n ops S Lt Q ord ((d₀, u) :: e) w) : WD P n ops S Lt Q ((i₀, 1) :: ord) e w :=
  WD_read hi₀ hg₀ (fun w' hS => PR_load_blk hA hx (hb.ext hS hn) hc) hdn kk
theorem WR_load_blkA {b T m : Nat} {cs : List Value} {x : Operand} {t : TypeId} {D : TypeDesc} [hu : Und P t D] [hsz : Siz P t m] (hi₀ : ops[i₀]? = some ⟨some d₀, .load t x, ty, pos, af, gd⟩) (hg₀ : gdOk ops e gd) (hA : aggB D = true) (hx : ev e x = some (.pointer (some ⟨b, 0, none⟩))) (hb : Blk w b T cs) (hn : b ∉ S) (hl : cs.length = m) (hdn : Nat.blt d₀ n = true) (kk : WD P n ops S Lt Q ord ((d₀, .agg cs.toArray) :: e) w) : WD P n ops S Lt Q ((i₀, 1) :: ord) e w :=
  WD_read hi₀ hg₀ (fun w' hS => PR_load_blkA hA hx (hb.ext hS hn) hl) hdn kk
theorem WR_load_el {α : Type} [Flat α] {X : List Nat} {xs : List α} {v u : Value} {i j k : Nat} {x : Operand} {t : TypeId} {D : TypeDesc} [hu : Und P t D] (hi₀ : ops[i₀]? = some ⟨some d₀, .load t x, ty, pos, af, gd⟩) (hg₀ : gdOk ops e gd) (hA : aggB D = false) (hx : ev e x = some (.pointer (some (elAddr v i k j))))
    (hs : SlV X w v xs) (hn : ∀ b ∈ S, b ∈ X) (hi : i < xs.length) (hk : k = Flat.k α) (hc : (Flat.enc xs[i])[j]? = some u) (hdn : Nat.blt d₀ n = true) (kk : WD P n ops S Lt Q ord ((d₀, u) :: e) w) : WD P n ops S Lt Q ((i₀, 1) :: ord) e w :=
  WD_read hi₀ hg₀ (fun w' hS => PR_load_el hA hx (hs.ext hS hn (fun _ h => .inl h)) hi hk hc) hdn kk
theorem WR_load_elA {α : Type} [Flat α] {X : List Nat} {xs : List α} {v : Value} {i k : Nat} {x : Operand} {t : TypeId} {D : TypeDesc} [hu : Und P t D] [hsz : Siz P t k] (hi₀ : ops[i₀]? = some ⟨some d₀, .load t x, ty, pos, af, gd⟩) (hg₀ : gdOk ops e gd) (hA : aggB D = true) (hx : ev e x = some (.pointer (some (elAddr v i k 0))))
    (hs : SlV X w v xs) (hn : ∀ b ∈ S, b ∈ X) (hi : i < xs.length) (hk : k = Flat.k α) (hdn : Nat.blt d₀ n = true) (kk : WD P n ops S Lt Q ord ((d₀, .agg (Flat.enc xs[i]).toArray) :: e) w) : WD P n ops S Lt Q ((i₀, 1) :: ord) e w :=
  WD_read hi₀ hg₀ (fun w' hS => PR_load_elA hA hx (hs.ext hS hn (fun _ h => .inl h)) hi hk) hdn kk
end
end Go.Eng
/-
Arguments opened: a slice of plain data reads as a list ('SlV').
-/
namespace Go.Eng
open Go Go.RowKit Go.Proofs Go.ChangeShapes Go.WideShapes Go.Deep
set_option linter.unusedVariables false
section
variable {H : Type} {enc : TypeId × Value → H} {P : Program} {w : World} {base : Nat} {spare : Nat → Bool} {held : Bool}
theorem addr_add (b o n : Nat) : (⟨b, o, none⟩ : Addr).add n = ⟨b, o + n, none⟩ := by
  unfold Addr.add
  split
  · rename_i h; subst h; rfl
  · rfl
/-- how many elements a datum lists -/
def dlen : DataW H → Nat
  | .slice els _ => els.length
  | _ => 0
theorem slv_of_trod {α : Type} [Flat α] {ok : α → Prop} {t e : TypeId} {fuel : Nat} {cs : List Value} {x : DataW H × List MemPlace} (ht : P.underlying t = some (.slice e)) (hC : P.cellsOf e = Flat.k α) (hpos : 0 < Flat.k α)
    (hread : ∀ n cs' y, cs'.length = Flat.k α → DataW.trod enc P w base spare held n e cs' = some y → ∃ a : α, cs' = Flat.enc a ∧ ok a)
    (h : DataW.trod enc P w base spare held fuel t cs = some x) : ∃ (v : Value) (xs : List α), cs = [v] ∧ SlV [] w v xs ∧ (∀ a ∈ xs, ok a) ∧ dlen x.1 = xs.length := by
  rcases open_slice ht h with ⟨rfl, rfl⟩ | ⟨a, len, cap, m, n, D, Pl, rfl, hb, hl, hm, hmm, hx, hi⟩
  · exact ⟨_, [], rfl, ⟨none, 0, rfl, Nat.le_refl _, by simp [maxLen], fun _ => rfl, fun i h => absurd h (Nat.not_lt_zero _)⟩, by simp, rfl⟩
  · have hlm : len ≤ m := by rw [hmm]; split <;> omega
    have hne : ∀ y : α, ∃ u, (Flat.enc y)[0]? = some u := fun y => ⟨_, List.getElem?_eq_getElem (by rw [Flat.len y]; exact hpos)⟩
    have hall : ∀ i : Fin len, ∃ y : α, ok y ∧ ∀ j u, (Flat.enc y)[j]? = some u → w.cell? (a.add (i * Flat.k α + j)) = some u := by
      intro i
      obtain ⟨cs', hc, htr⟩ := hi i (by omega)
      rw [hC] at hc
      obtain ⟨_, hcl, hat⟩ := World.cells?_some hc
      obtain ⟨y, rfl, hok⟩ := hread n cs' _ hcl htr
      refine ⟨y, hok, fun j u hu => ?_⟩
      have hj : j < Flat.k α := by
        have := (List.getElem?_eq_some_iff.1 hu).1
        rw [Flat.len] at this; exact this
      have := hat j hj
      rw [hu] at this
      rw [← this, Go.Deep.add_add]
    let f : Fin len → α := fun i => (hall i).choose
    have hf : ∀ i : Fin len, ok (f i) ∧ ∀ j u, (Flat.enc (f i))[j]? = some u → w.cell? (a.add (i * Flat.k α + j)) = some u := fun i => (hall i).choose_spec
    refine ⟨_, List.ofFn f, rfl, ⟨some a, cap, by simp, by simpa using hl, hm, by simp, fun i hi' => ?_⟩, fun y hy => ?_, by rw [hx]; simp [dlen]⟩
    · have hi'' : i < len := by simpa using hi'
      have hfi := (hf ⟨i, hi''⟩).2
      obtain ⟨u1, hu1⟩ : ∃ u, (Flat.enc (f ⟨0, by omega⟩))[0]? = some u := hne _
      have hc1 := (hf ⟨0, by omega⟩).2 0 u1 hu1
      obtain ⟨u0, hu0⟩ : ∃ u, (Flat.enc (f ⟨i, hi''⟩))[0]? = some u := hne _
      have hc0 := hfi 0 u0 hu0
      have hsp : a.spot = none := by
        have e0 : a.add ((⟨0, by omega⟩ : Fin len).val * Flat.k α + 0) = a := by simp [Addr.add]
        rw [e0] at hc1
        unfold World.cell? at hc1
        split at hc1
        · cases hs : a.spot with
          | none => rfl
          | some s => simp [hs] at hc1
        · cases hc1
      obtain ⟨b, o, sp⟩ := a
      cases hsp
      refine ⟨b, o, Flat.enc (f ⟨i, hi''⟩), rfl, ?_, by simp, ?_, fun j u hu => ?_⟩
      · have := block_lt_of_cell (a := (⟨b, o, none⟩ : Addr).add (i * Flat.k α + 0)) hc0
        simpa [addr_add] using this
      · simp; rfl
      · have := hfi j u hu
        rw [addr_add] at this
        rw [show o + i * GoRep.k α + j = o + (i * Flat.k α + j) from Nat.add_assoc _ _ _]
        exact this
    · obtain ⟨i, rfl⟩ := List.mem_ofFn.1 hy
      exact (hf i).1

/-- a struct of integers: its cells -/
theorem ints_of_struct {e : TypeId} {fs : Array Field} {fuel : Nat} {cs : List Value} {x : DataW H × List MemPlace} (he : P.underlying e = some (.struct fs)) (hone : oneCellFields P fs = true) (hcl : cs.length = fs.size)
    (hint : ∀ (j : Nat) (f : Field), fs[j]? = some f → P.underlying f.type = some (.int .i64)) (h : DataW.trod enc P w base spare held fuel e cs = some x) : ∀ j (hj : j < cs.length), ∃ z : Int, cs[j] = .int .i64 z ∧ I64 z := by
  intro j hj
  obtain ⟨ys, n', hn', hy, hlen, hyl, hf⟩ := DataW.trod_struct he h
  have hjf : j < fs.size := by omega
  have hfj : fs[j]? = some fs[j] := Array.getElem?_eq_getElem hjf
  obtain ⟨ho, hk⟩ := hone_of hone j fs[j] hfj
  have h1 := hf j fs[j] hfj
  rw [ho, hk] at h1
  have hone' : (cs.drop j).take 1 = [cs[j]] := by
    rw [List.drop_eq_getElem_cons hj]; rfl
  rw [hone'] at h1
  have hys : ys[j]? = some (ys[j]'(by omega)) := List.getElem?_eq_getElem (by omega)
  rw [hys] at h1
  obtain ⟨z, hz, _, hw⟩ := DataW.trod_int (hint j _ hfj) h1
  refine ⟨z, by simpa using hz, ?_⟩
  simpa [I64, Lit.wf, IntKind.min, IntKind.max, IntKind.signed, IntKind.bits] using hw

def i64D : Option TypeDesc → Bool
  | some (.int .i64) => true
  | _ => false
theorem i64D_spec {d : Option TypeDesc} (h : i64D d = true) : d = some (.int .i64) := by
  unfold i64D at h
  split at h
  · rfl
  · cases h
/-- a struct of k integers -/
def intStruct (P : Program) (e k : Nat) : Bool :=
  match P.underlying e with
  | some (.struct fs) => oneCellFields P fs && fs.size == k && fs.all (fun f => i64D (P.underlying f.type))
  | _ => false
theorem intStruct_spec {e k : Nat} {fuel : Nat} {cs : List Value} {x : DataW H × List MemPlace} (hs : intStruct P e k = true) (hcl : cs.length = k) (h : DataW.trod enc P w base spare held fuel e cs = some x) :
    ∃ zs : List Int, zs.length = k ∧ cs = zs.map (Value.int .i64) ∧ ∀ z ∈ zs, I64 z := by
  unfold intStruct at hs
  split at hs
  · rename_i fs he
    simp only [Bool.and_eq_true, beq_iff_eq] at hs
    obtain ⟨⟨hone, hk⟩, hall⟩ := hs
    have hint : ∀ (j : Nat) (f : Field), fs[j]? = some f → P.underlying f.type = some (.int .i64) := by
      intro j f hj
      obtain ⟨hlt, rfl⟩ := Array.getElem?_eq_some_iff.1 hj
      exact i64D_spec (Array.all_eq_true.1 hall j hlt)
    have hz := ints_of_struct he hone (by omega) hint h
    clear h he hone hint hall
    refine (?_ : ∀ (cs : List Value), (∀ j (hj : j < cs.length), ∃ z : Int, cs[j] = .int .i64 z ∧ I64 z) → ∃ zs : List Int, zs.length = cs.length ∧ cs = zs.map (Value.int .i64) ∧ ∀ z ∈ zs, I64 z) cs hz |> fun ⟨zs, h1, h2, h3⟩ => ⟨zs, by omega, h2, h3⟩
    intro cs
    induction cs with
    | nil => intro _; exact ⟨[], rfl, rfl, by simp⟩
    | cons c r ih =>
      intro hz
      obtain ⟨z, e1, e2⟩ := hz 0 (by simp)
      obtain ⟨zs, h1, h2, h3⟩ := ih (fun j hj => by
        have := hz (j + 1) (by simpa using hj)
        simpa using this)
      exact ⟨z :: zs, by simp [h1], by simp at e1; simp [e1, ← h2], by
        intro y hy
        rcases List.mem_cons.1 hy with rfl | hy
        · exact e2
        · exact h3 y hy⟩
  · cases hs
theorem slv_ints {t e : TypeId} {fuel : Nat} {cs : List Value} {x : DataW H × List MemPlace} (ht : P.underlying t = some (.slice e)) (hC : P.cellsOf e = 1) (he : P.underlying e = some (.int .i64))
    (h : DataW.trod enc P w base spare held fuel t cs = some x) : ∃ (v : Value) (xs : List Int), cs = [v] ∧ SlV [] w v xs ∧ (∀ a ∈ xs, I64 a) ∧ dlen x.1 = xs.length :=
  slv_of_trod (α := Int) ht hC (by decide) (fun n cs' y hl hy => by
    obtain ⟨z, rfl, _, hw⟩ := DataW.trod_int he hy
    exact ⟨z, rfl, by simpa [I64, Lit.wf, IntKind.min, IntKind.max, IntKind.signed, IntKind.bits] using hw⟩) h
end
end Go.Eng
/-
A law's last step: the call returns true and leaves the old blocks as they were; so each argument reads as it read.
-/
namespace Go.Eng
open Go Go.RowKit Go.Proofs Go.ChangeShapes Go.WideShapes
set_option linter.unusedVariables false
section
variable {H : Type} {enc : TypeId × Value → H} {P : Program}

/-- the types of the arguments can be read and are rows of the table -/
def rowed (P : Program) (ts : List TypeId) : Bool := ts.all fun t => P.readableRec t && decide (t < P.types.size)

theorem trodAll_stays (hl : laidOutB P = true) {W W' : World} (hb : Below W.heap.size W W') {sp : Nat → Bool} : ∀ {ts : List TypeId} {vs : List Value} {ds : List (DataW H)} {ps : List MemPlace}, rowed P ts = true →
    DataW.TrodAll enc P W 0 (fun _ => true) true ts vs ds ps → (∀ x ∈ ps, x.block < W.heap.size) → (∀ x ∈ ps, sp x.block = true) → DataW.TrodAll enc P W' 0 sp true ts vs ds ps
  | [], [], [], _, _, h, _, _ => h
  | t :: ts, v :: vs, d :: ds, ps, hr, h, hlt, hs => by
    obtain ⟨p, q, h1, h2, rfl⟩ := h
    simp only [rowed, List.all_cons, Bool.and_eq_true, decide_eq_true_eq] at hr
    obtain ⟨⟨r1, r2⟩, r3⟩ := hr
    exact ⟨p, q, WideElems.Trod_stays hl r1 r2 h1 (fun x hx => hb.same (hlt x (by simp [hx]))) (fun x hx => hs x (by simp [hx])), trodAll_stays hl hb (by simpa [rowed] using r3) h2 (fun x hx => hlt x (by simp [hx])) (fun x hx => hs x (by simp [hx])), rfl⟩
  | [], _ :: _, _, _, _, h, _, _ => h.elim
  | [], [], _ :: _, _, _, h, _, _ => h.elim
  | _ :: _, [], _, _, _, h, _, _ => h.elim
  | _ :: _, _ :: _, [], _, _, h, _, _ => h.elim

section
variable {f : Func} {s : ChangeSpec} {apart fresh handsOn again : Bool} {W W' : World} {args : Array Value} {v : Value} {ds gs : List (DataW H)} {before pa pv : List MemPlace}
theorem post_of_below
    (hW : DataW.Whole enc P f.params.toList s.vars apart W args.toList ds gs before)
    (hres : ∀ (b : Nat) (sp : Nat → Bool) (hd : Bool), DataW.TrodAll enc P W' b sp hd f.resultTypes.toList (v.resultList f.resultTypes.size) (s.fn H (ds ++ gs)).results [])
    (hargs : ∀ sp : Nat → Bool, (∀ p ∈ before, sp p.block = true) → DataW.TrodAll enc P W' 0 sp true f.params.toList args.toList (s.fn H (ds ++ gs)).args pa)
    (hvars : ∀ sp : Nat → Bool, (∀ p ∈ before, sp p.block = true) → DataW.TrodVars enc P W' sp s.vars (s.fn H (ds ++ gs)).vars pv)
    (hps : before = pa ++ pv) (hb : Below W.heap.size W W')
    (hok : ∀ (j : Nat) (t : TypeId) (r : Value), f.resultTypes[j]? = some t → (v.resultList f.resultTypes.size)[j]? = some r → Value.okWide P W' .any 0 t r) :
    s.post enc P f apart fresh handsOn again W args v W' := by
  have hlt : ∀ p ∈ before, p.block < W.heap.size := fun p hp => hW.lt p hp
  have hold : ∀ p ∈ before, (fun b => decide (b < W.heap.size)) p.block = true := fun p hp => by simpa using hlt p hp
  refine ⟨ds, gs, before, [], pa, pv, hW, hres _ _ _, hargs _ hold, hvars _ hold, World.keptBut_mono (fun p hp => ⟨hp, ?_⟩) (hb.frame (· ∈ before)), fun _ => ?_⟩
  · rw [hps, List.mem_append] at hp
    exact Or.inr hp
  · obtain ⟨_, _, _, _, _, hz, hn⟩ := hW
    refine ⟨hok, _, _, ([] ++ pa) ++ pv, ⟨[] ++ pa, pv, trodAll_append (hargs _ (fun _ _ => rfl)) (hres _ _ _), hvars _ (fun _ _ => rfl), rfl, ?_, ?_⟩, ?_⟩
    · intro b off hp
      have hin : MemPlace.cell b off ∈ before := by rw [hps]; simpa using hp
      rw [hb.frozen (hlt _ hin)]
      exact hz b off hin
    · intro ha
      have := hn ha
      rw [hps] at this
      simpa using this
    · intro p hp _
      rw [hps]
      simpa using hp
end

theorem sized_len {ts : List TypeId} {ds : List (DataW H)} {j t e : Nat} {d : DataW H} (h : (DataW.weightsEach P ts ds).all (· ≤ reachBytes) = true) (ht : ts[j]? = some t) (hd : ds[j]? = some d) (hu : P.underlying t = some (.slice e)) : dlen d * P.bytesOf e ≤ reachBytes := by
  cases d with
  | slice els sp =>
    have := sized_slice h ht hd hu
    refine Nat.le_trans (Nat.mul_le_mul_right _ ?_) this
    simp [dlen]
  | _ => simp [dlen]
/-- what a law answers: true, each argument as it was -/
def LawSpec (s : ChangeSpec) (k : Nat) : Prop := s.vars = [] ∧ ∀ (H : Type) (ds : List (DataW H)), ds.length = k → (s.fn H ds).results = [.lit (.bool true)] ∧ (s.fn H ds).args = ds ∧ (s.fn H ds).vars = []

theorem trodAll_len {W : World} {base : Nat} {sp : Nat → Bool} {hd : Bool} : ∀ {ts : List TypeId} {vs : List Value} {ds : List (DataW H)} {ps : List MemPlace}, DataW.TrodAll enc P W base sp hd ts vs ds ps → ds.length = ts.length
  | [], [], [], _, _ => rfl
  | t :: ts, v :: vs, d :: ds, ps, h => by
    obtain ⟨p, q, h1, h2, rfl⟩ := h
    simp [trodAll_len h2]
  | [], _ :: _, _, _, h => h.elim
  | [], [], _ :: _, _, h => h.elim
  | _ :: _, [], _, _, h => h.elim
  | _ :: _, _ :: _, [], _, h => h.elim

theorem law_post {fn : Func} {K tb : Nat} {s : ChangeSpec} {fresh handsOn again : Bool} {W : World} {args : Array Value} {ds gs : List (DataW H)} {before : List MemPlace} (hl : laidOutB P = true) (hr : rowed P fn.params.toList = true)
    (hres : fn.resultTypes = #[tb]) (hb : P.underlying tb = some .bool) (hs : LawSpec s fn.params.size)
    (hW : DataW.Whole enc P fn.params.toList s.vars false W args.toList ds gs before) (hc : Calls P K args W (Ret fun r w' => r = .bool true ∧ Stp [] W w')) :
    Calls P K args W fun e W' => ∃ v, e = .returned v ∧ s.post enc P fn false fresh handsOn again W args v W' := by
  refine hc.mono ?_
  rintro _ w' ⟨_, rfl, rfl, hS⟩
  refine ⟨_, rfl, ?_⟩
  have hW' := hW
  obtain ⟨p, q, hA, hV, hpq, hfz, hnd⟩ := hW
  rw [hs.1] at hV
  obtain ⟨rfl, rfl⟩ := trodVars_none hV
  have hlen : (ds ++ []).length = fn.params.size := by simpa using trodAll_len hA
  obtain ⟨s1, s2, s3⟩ := hs.2 H (ds ++ []) hlen
  have hlt : ∀ x ∈ before, x.block < W.heap.size := fun x hx => hW'.lt x hx
  refine post_of_below (pa := p) (pv := []) hW' (fun b sp hd => ?_) (fun sp hsp => ?_) (fun sp _ => ?_) hpq hS.below ?_
  · rw [s1, hres]
    exact trodAll_mk1 ⟨1, by simp [DataW.trod, Value.cells, hb]⟩
  · rw [s2]
    simp only [List.append_nil] at hpq ⊢
    subst hpq
    exact trodAll_stays hl hS.below hr hA hlt hsp
  · rw [s3, hs.1]
    rfl
  · exact ok_one hres rfl (by simp [Value.okWide, hb, Cell.okWide, Cell.ok])
end
end Go.Eng
/-
The walk engine, part 9: strings as lists of bytes.
-/
namespace Go.Eng
open Go Go.RowKit Go.Proofs
set_option linter.unusedVariables false

/-- a string is the list of its bytes -/
abbrev Str := List UInt8
abbrev str (s : Str) : Value := .string ⟨s.toArray⟩
theorem str_eta (b : ByteArray) : Value.string b = str b.data.toList := by
  cases b; simp [str]
theorem mk_inj {a b : Str} : (⟨a.toArray⟩ : ByteArray) = ⟨b.toArray⟩ ↔ a = b := by
  constructor
  · intro h
    have := congrArg (fun x : ByteArray => x.data.toList) h
    simpa using this
  · rintro rfl; rfl
theorem str_beq (a b : Str) : ((⟨a.toArray⟩ : ByteArray).toList == (⟨b.toArray⟩ : ByteArray).toList) = decide (a = b) := by
  rw [ByteArray.toList_eq, ByteArray.toList_eq]
  simp only [Bool.beq_eq_decide_eq]
theorem str_size (a : Str) : (⟨a.toArray⟩ : ByteArray).size = a.length := by simp [ByteArray.size]
theorem str_extract (a : Str) (i j : Nat) : (⟨a.toArray⟩ : ByteArray).extract i j = ⟨((a.take j).drop i).toArray⟩ := by
  apply ByteArray.ext
  simp [ByteArray.data_extract, List.drop_take]
theorem str_append (a b : Str) : (⟨a.toArray⟩ ++ ⟨b.toArray⟩ : ByteArray) = ⟨(a ++ b).toArray⟩ := by
  apply ByteArray.ext
  simp [ByteArray.data_append]
/-- the byte at an index -/
def byte (a : Str) (i : Nat) : Int := ((a.getD i 0).toNat : Int)
theorem byte_at {a : Str} {i : Nat} (h : i < a.length) : byte a i = (a[i].toNat : Int) := by simp [byte, List.getD, h]
theorem byte_range (a : Str) (i : Nat) : 0 ≤ byte a i ∧ byte a i < 256 := by
  unfold byte
  have := (a.getD i 0).toNat_lt
  omega
instance : Flat Str where
  k := 1
  enc := fun x => [str x]
  len := fun _ => rfl
  one := by intro x u hu; simp at hu; subst hu; rfl

section rules
variable {P : Program} {n : Nat} {e : Env} {w : World} {d : Option Nat} {ty : TypeId} {pos : String} {af : Array Edge} {g : Option (Nat × Bool)}
theorem PR_eqlT {t u : TypeId} {x y : Operand} {a b : Str} [hu : Und P t .string] (hx : ev e x = some (str a)) (hy : ev e y = some (str b)) : PR P n ⟨d, .binOp .eql t x y u, ty, pos, af, g⟩ e w (.bool (decide (a = b))) :=
  ⟨fun c ha => by simp only [execOp, ha.ev hx, ha.ev hy]; simp [go_sem, binOp, Op.stringOp]; rw [Bool.beq_eq_decide_eq]⟩
theorem PR_neqT {t u : TypeId} {x y : Operand} {a b : Str} [hu : Und P t .string] (hx : ev e x = some (str a)) (hy : ev e y = some (str b)) : PR P n ⟨d, .binOp .neq t x y u, ty, pos, af, g⟩ e w (.bool (decide (¬ a = b))) :=
  ⟨fun c ha => by simp only [execOp, ha.ev hx, ha.ev hy]; simp [go_sem, binOp, Op.stringOp]; by_cases h : a = b <;> simp [h]⟩
theorem PR_addT {t u : TypeId} {x y : Operand} {a b : Str} [hu : Und P t .string] (hx : ev e x = some (str a)) (hy : ev e y = some (str b)) (hl : a.length + b.length ≤ 9223372036854775807) : PR P n ⟨d, .binOp .add t x y u, ty, pos, af, g⟩ e w (str (a ++ b)) :=
  ⟨fun c ha => by
    simp only [execOp, ha.ev hx, ha.ev hy]
    simp [go_sem, binOp, Op.stringOp, str_append]
    omega⟩
theorem PR_lenT {x : Operand} {t : TypeId} {a : Str} [hu : Und P t .string] (hx : ev e x = some (str a)) :
    PR P n ⟨d, .call { callee := .builtin .len, args := #[x], argTypes := #[t] }, ty, pos, af, g⟩ e w (.int .i64 (a.length : Int)) :=
  ⟨fun c ha => by
    have := run_len_string (P := P) w t ty ⟨a.toArray⟩ hu.h
    simp [execOp, resolve, invoke, builtin, ha.ev hx, this, goInt, str_size]⟩
theorem PR_indexT {t : TypeId} {x y : Operand} {a : Str} {z : Int} {i : Nat} [hu : Und P t .string] (hx : ev e x = some (str a)) (hy : ev e y = some (.int .i64 z)) (hz : z = (i : Int)) (hi : i < a.length) : PR P n ⟨d, .index t x y, ty, pos, af, g⟩ e w (.int .u8 (byte a i)) :=
  ⟨fun c ha => by
    subst hz
    have h1 : (0 : Int) ≤ (i : Int) ∧ ((i : Int) < ((⟨a.toArray⟩ : ByteArray).size : Int)) := by rw [str_size]; omega
    have := run_index_string (P := P) w t ⟨a.toArray⟩ .i64 (i : Int) hu.h
    rw [dif_pos h1] at this
    simp only [execOp, ha.ev hx, ha.ev hy]
    simp [this, byte, List.getD, hi]
    rfl⟩
theorem PR_sliceT_lh {t : TypeId} {x lo hi : Operand} {a : Str} {p q : Int} {l r : Nat} [hu : Und P t .string] (hx : ev e x = some (str a)) (h1 : ev e lo = some (.int .i64 p)) (h2 : ev e hi = some (.int .i64 q)) (hp : p = (l : Int)) (hq : q = (r : Int)) (hlr : l ≤ r) (hr : r ≤ a.length) :
    PR P n ⟨d, .slice t x (some lo) (some hi) none, ty, pos, af, g⟩ e w (str ((a.take r).drop l)) :=
  ⟨fun c ha => by
    subst hp; subst hq
    have := run_slice_string (P := P) w t ⟨a.toArray⟩ .i64 .i64 (l : Int) (r : Int) hu.h (by omega) (by omega) (by rw [str_size]; omega)
    simp only [execOp, ha.ev hx, ha.ev h1, ha.ev h2, Option.map]
    simp [Instr.sliceAt, run_underlying hu.h, this, str_extract]⟩
theorem PR_sliceT_l {t : TypeId} {x lo : Operand} {a : Str} {p : Int} {l : Nat} [hu : Und P t .string] (hx : ev e x = some (str a)) (h1 : ev e lo = some (.int .i64 p)) (hp : p = (l : Int)) (hl : l ≤ a.length) :
    PR P n ⟨d, .slice t x (some lo) none none, ty, pos, af, g⟩ e w (str (a.drop l)) :=
  ⟨fun c ha => by
    subst hp
    have := run_slice_string_l (P := P) (t := t) (s := ⟨a.toArray⟩) w hu.h .i64 (l : Int) (by omega) (by rw [str_size]; omega)
    simp only [execOp, ha.ev hx, ha.ev h1, Option.map]
    simp [Instr.sliceAt, run_underlying hu.h, this, str_extract, str_size]⟩
theorem PR_sliceT_h {t : TypeId} {x hi : Operand} {a : Str} {q : Int} {r : Nat} [hu : Und P t .string] (hx : ev e x = some (str a)) (h2 : ev e hi = some (.int .i64 q)) (hq : q = (r : Int)) (hr : r ≤ a.length) :
    PR P n ⟨d, .slice t x none (some hi) none, ty, pos, af, g⟩ e w (str (a.take r)) :=
  ⟨fun c ha => by
    subst hq
    have := run_slice_string_h (P := P) (t := t) (s := ⟨a.toArray⟩) w hu.h .i64 (r : Int) (by omega) (by rw [str_size]; omega)
    simp only [execOp, ha.ev hx, ha.ev h2, Option.map]
    simp [Instr.sliceAt, run_underlying hu.h, this, str_extract]⟩
theorem PR_nilCheck {x : Operand} {b : Addr} (hx : ev e x = some (.pointer (some b))) : PR P n ⟨d, .nilCheck x, ty, pos, af, g⟩ e w (.pointer (some b)) :=
  ⟨fun a ha => by simp [execOp, ha.ev hx]⟩
theorem PR_not_e {t : TypeId} {x : Operand} {p : Prop} {i : Decidable p} (hx : ev e x = some (.bool (decide p))) : PR P n ⟨d, .unOp .not t x, ty, pos, af, g⟩ e w (.bool (decide (¬ p))) :=
  ⟨fun a ha => by simp [execOp, ha.ev hx, Op.unary]⟩
theorem PR_idxA {t el len k : Nat} {x y : Operand} {b o i : Nat} {z : Int} [hu : Und P t (.array len el)] [hk : Siz P el k] (hx : ev e x = some (.pointer (some ⟨b, o, none⟩))) (hy : ev e y = some (.int .i64 z)) (hz : z = (i : Int)) (hi : i < len) :
    PR P n ⟨d, .indexAddr t x y, ty, pos, af, g⟩ e w (.pointer (some ⟨b, o + i * k, none⟩)) :=
  ⟨fun a ha => by
    subst hz
    have h0 : (0 : Int) ≤ (i : Int) ∧ (i : Int) < (len : Int) := by omega
    have hr : (Instr.indexAt t (.pointer (some ⟨b, o, none⟩)) (.int .i64 (i : Int))).run P w = .ok (.pointer (some ⟨b, o + i * k, none⟩)) w := by
      simp only [Instr.indexAt, asIntOf]
      simp [run_underlying hu.h, Instr.sureAddr, Siz.run, Addr.add_lit, hi]
    simp [execOp, ha.ev hx, ha.ev hy, hr]⟩
theorem PR_sliceA {t el len k : Nat} {x : Operand} {b : Nat} [hu : Und P t (.array len el)] [hk : Siz P el k] (hx : ev e x = some (.pointer (some ⟨b, 0, none⟩))) :
    PR P n ⟨d, .slice t x none none none, ty, pos, af, g⟩ e w (.slice (some ⟨b, 0, none⟩) len len) :=
  ⟨fun a ha => by
    have hr : (Instr.sliceAt t (.pointer (some ⟨b, 0, none⟩)) none none none).run P w = .ok (.slice (some ⟨b, 0, none⟩) len len) w := by
      simp [Instr.sliceAt, Instr.sureAddr, run_underlying hu.h, Instr.sliceBounds, Siz.run, Addr.add]
    simp [execOp, ha.ev hx, hr]⟩
theorem PR_max {x y : Operand} {ts : Array TypeId} {a b : Int} (hx : ev e x = some (.int .i64 a)) (hy : ev e y = some (.int .i64 b)) :
    PR P n ⟨d, .call { callee := .builtin .max, args := #[x, y], argTypes := ts }, ty, pos, af, g⟩ e w (.int .i64 (max a b)) :=
  ⟨fun c ha => by
    have hm : (if b > a then b else a) = max a b := by omega
    simp [execOp, resolve, invoke, builtin, ha.ev hx, ha.ev hy, run_max_int2, hm]⟩
theorem PR_min {x y : Operand} {ts : Array TypeId} {a b : Int} (hx : ev e x = some (.int .i64 a)) (hy : ev e y = some (.int .i64 b)) :
    PR P n ⟨d, .call { callee := .builtin .min, args := #[x, y], argTypes := ts }, ty, pos, af, g⟩ e w (.int .i64 (min a b)) :=
  ⟨fun c ha => by
    have hm : (if b < a then b else a) = min a b := by omega
    simp [execOp, resolve, invoke, builtin, ha.ev hx, ha.ev hy, run_min_int2, hm]⟩
end rules
end Go.Eng
/-
The walk engine, part 9: the string rules at the head of a list and in a drawn region; all rules of a drawn region with the operation laid open ('WO'); two lemmas that walk by themselves ('W', 'D'): what is left of the goal is their argument. Written by a program.
-/
namespace Go.Eng
open Go Go.RowKit Go.Proofs
set_option linter.unusedVariables false
section
variable {P : Program} {n : Nat} {Q : Exit → Act → World → Prop} {e : Env} {w : World} {ops : Array Oper} {S : List Nat} {Lt : List Nat} {rest : List Oper} {ord : List (Nat × Nat)} {d₀ i₀ : Nat} {ty : TypeId} {pos : String} {af : Array Edge} {gd : Option (Nat × Bool)}

theorem WL_eqlT {t u : TypeId} {x y : Operand} {a b : Str} [hu : Und P t .string] (hx : ev e x = some (str a)) (hy : ev e y = some (str b)) (hdn : Nat.blt d₀ n = true) (kk : WL P n ops Q rest ((d₀, (.bool (decide (a = b)))) :: e) w) : WL P n ops Q (⟨some d₀, .binOp .eql t x y u, ty, pos, af, none⟩ :: rest) e w := by
  refine WL_pure (v := (.bool (decide (a = b)))) ?_ hdn kk
  apply PR_eqlT <;> assumption
theorem WF_eqlT {t u : TypeId} {x y : Operand} {a b : Str} [hu : Und P t .string] (hi₀ : ops[i₀]? = some ⟨some d₀, .binOp .eql t x y u, ty, pos, af, gd⟩) (hg₀ : gdOk ops e gd) (hx : ev e x = some (str a)) (hy : ev e y = some (str b)) (hdn : Nat.blt d₀ n = true) (kk : WD P n ops S Lt Q ord ((d₀, (.bool (decide (a = b)))) :: e) w) : WD P n ops S Lt Q ((i₀, 0) :: ord) e w := by
  refine WD_free (v := (.bool (decide (a = b)))) hi₀ hg₀ (fun w' => ?_) hdn kk
  apply PR_eqlT <;> assumption
theorem WL_neqT {t u : TypeId} {x y : Operand} {a b : Str} [hu : Und P t .string] (hx : ev e x = some (str a)) (hy : ev e y = some (str b)) (hdn : Nat.blt d₀ n = true) (kk : WL P n ops Q rest ((d₀, (.bool (decide (¬ a = b)))) :: e) w) : WL P n ops Q (⟨some d₀, .binOp .neq t x y u, ty, pos, af, none⟩ :: rest) e w := by
  refine WL_pure (v := (.bool (decide (¬ a = b)))) ?_ hdn kk
  apply PR_neqT <;> assumption
theorem WF_neqT {t u : TypeId} {x y : Operand} {a b : Str} [hu : Und P t .string] (hi₀ : ops[i₀]? = some ⟨some d₀, .binOp .neq t x y u, ty, pos, af, gd⟩) (hg₀ : gdOk ops e gd) (hx : ev e x = some (str a)) (hy : ev e y = some (str b)) (hdn : Nat.blt d₀ n = true) (kk : WD P n ops S Lt Q ord ((d₀, (.bool (decide (¬ a = b)))) :: e) w) : WD P n ops S Lt Q ((i₀, 0) :: ord) e w := by
  refine WD_free (v := (.bool (decide (¬ a = b)))) hi₀ hg₀ (fun w' => ?_) hdn kk
  apply PR_neqT <;> assumption
theorem WL_addT {t u : TypeId} {x y : Operand} {a b : Str} [hu : Und P t .string] (hx : ev e x = some (str a)) (hy : ev e y = some (str b)) (hl : a.length + b.length ≤ 9223372036854775807) (hdn : Nat.blt d₀ n = true) (kk : WL P n ops Q rest ((d₀, (str (a ++ b))) :: e) w) : WL P n ops Q (⟨some d₀, .binOp .add t x y u, ty, pos, af, none⟩ :: rest) e w := by
  refine WL_pure (v := (str (a ++ b))) ?_ hdn kk
  apply PR_addT <;> assumption
theorem WF_addT {t u : TypeId} {x y : Operand} {a b : Str} [hu : Und P t .string] (hi₀ : ops[i₀]? = some ⟨some d₀, .binOp .add t x y u, ty, pos, af, gd⟩) (hg₀ : gdOk ops e gd) (hx : ev e x = some (str a)) (hy : ev e y = some (str b)) (hl : a.length + b.length ≤ 9223372036854775807) (hdn : Nat.blt d₀ n = true) (kk : WD P n ops S Lt Q ord ((d₀, (str (a ++ b))) :: e) w) : WD P n ops S Lt Q ((i₀, 0) :: ord) e w := by
  refine WD_free (v := (str (a ++ b))) hi₀ hg₀ (fun w' => ?_) hdn kk
  apply PR_addT <;> assumption
theorem WL_lenT {x : Operand} {t : TypeId} {a : Str} [hu : Und P t .string] (hx : ev e x = some (str a)) (hdn : Nat.blt d₀ n = true) (kk : WL P n ops Q rest ((d₀, (.int .i64 (a.length : Int))) :: e) w) : WL P n ops Q (⟨some d₀, .call { callee := .builtin .len, args := #[x], argTypes := #[t] }, ty, pos, af, none⟩ :: rest) e w := by
  refine WL_pure (v := (.int .i64 (a.length : Int))) ?_ hdn kk
  apply PR_lenT <;> assumption
theorem WF_lenT {x : Operand} {t : TypeId} {a : Str} [hu : Und P t .string] (hi₀ : ops[i₀]? = some ⟨some d₀, .call { callee := .builtin .len, args := #[x], argTypes := #[t] }, ty, pos, af, gd⟩) (hg₀ : gdOk ops e gd) (hx : ev e x = some (str a)) (hdn : Nat.blt d₀ n = true) (kk : WD P n ops S Lt Q ord ((d₀, (.int .i64 (a.length : Int))) :: e) w) : WD P n ops S Lt Q ((i₀, 0) :: ord) e w := by
  refine WD_free (v := (.int .i64 (a.length : Int))) hi₀ hg₀ (fun w' => ?_) hdn kk
  apply PR_lenT <;> assumption
theorem WL_indexT {t : TypeId} {x y : Operand} {a : Str} {z : Int} {i : Nat} [hu : Und P t .string] (hx : ev e x = some (str a)) (hy : ev e y = some (.int .i64 z)) (hz : z = (i : Int)) (hi : i < a.length) (hdn : Nat.blt d₀ n = true) (kk : WL P n ops Q rest ((d₀, (.int .u8 (byte a i))) :: e) w) : WL P n ops Q (⟨some d₀, .index t x y, ty, pos, af, none⟩ :: rest) e w := by
  refine WL_pure (v := (.int .u8 (byte a i))) ?_ hdn kk
  apply PR_indexT <;> assumption
theorem WF_indexT {t : TypeId} {x y : Operand} {a : Str} {z : Int} {i : Nat} [hu : Und P t .string] (hi₀ : ops[i₀]? = some ⟨some d₀, .index t x y, ty, pos, af, gd⟩) (hg₀ : gdOk ops e gd) (hx : ev e x = some (str a)) (hy : ev e y = some (.int .i64 z)) (hz : z = (i : Int)) (hi : i < a.length) (hdn : Nat.blt d₀ n = true) (kk : WD P n ops S Lt Q ord ((d₀, (.int .u8 (byte a i))) :: e) w) : WD P n ops S Lt Q ((i₀, 0) :: ord) e w := by
  refine WD_free (v := (.int .u8 (byte a i))) hi₀ hg₀ (fun w' => ?_) hdn kk
  apply PR_indexT <;> assumption
theorem WL_sliceT_lh {t : TypeId} {x lo hi : Operand} {a : Str} {p q : Int} {l r : Nat} [hu : Und P t .string] (hx : ev e x = some (str a)) (h1 : ev e lo = some (.int .i64 p)) (h2 : ev e hi = some (.int .i64 q)) (hp : p = (l : Int)) (hq : q = (r : Int)) (hlr : l ≤ r) (hr : r ≤ a.length) (hdn : Nat.blt d₀ n = true) (kk : WL P n ops Q rest ((d₀, (str ((a.take r).drop l))) :: e) w) : WL P n ops Q (⟨some d₀, .slice t x (some lo) (some hi) none, ty, pos, af, none⟩ :: rest) e w := by
  refine WL_pure (v := (str ((a.take r).drop l))) ?_ hdn kk
  apply PR_sliceT_lh <;> assumption
theorem WF_sliceT_lh {t : TypeId} {x lo hi : Operand} {a : Str} {p q : Int} {l r : Nat} [hu : Und P t .string] (hi₀ : ops[i₀]? = some ⟨some d₀, .slice t x (some lo) (some hi) none, ty, pos, af, gd⟩) (hg₀ : gdOk ops e gd) (hx : ev e x = some (str a)) (h1 : ev e lo = some (.int .i64 p)) (h2 : ev e hi = some (.int .i64 q)) (hp : p = (l : Int)) (hq : q = (r : Int)) (hlr : l ≤ r) (hr : r ≤ a.length) (hdn : Nat.blt d₀ n = true) (kk : WD P n ops S Lt Q ord ((d₀, (str ((a.take r).drop l))) :: e) w) : WD P n ops S Lt Q ((i₀, 0) :: ord) e w := by
  refine WD_free (v := (str ((a.take r).drop l))) hi₀ hg₀ (fun w' => ?_) hdn kk
  apply PR_sliceT_lh <;> assumption
theorem WL_sliceT_l {t : TypeId} {x lo : Operand} {a : Str} {p : Int} {l : Nat} [hu : Und P t .string] (hx : ev e x = some (str a)) (h1 : ev e lo = some (.int .i64 p)) (hp : p = (l : Int)) (hl : l ≤ a.length) (hdn : Nat.blt d₀ n = true) (kk : WL P n ops Q rest ((d₀, (str (a.drop l))) :: e) w) : WL P n ops Q (⟨some d₀, .slice t x (some lo) none none, ty, pos, af, none⟩ :: rest) e w := by
  refine WL_pure (v := (str (a.drop l))) ?_ hdn kk
  apply PR_sliceT_l <;> assumption
theorem WF_sliceT_l {t : TypeId} {x lo : Operand} {a : Str} {p : Int} {l : Nat} [hu : Und P t .string] (hi₀ : ops[i₀]? = some ⟨some d₀, .slice t x (some lo) none none, ty, pos, af, gd⟩) (hg₀ : gdOk ops e gd) (hx : ev e x = some (str a)) (h1 : ev e lo = some (.int .i64 p)) (hp : p = (l : Int)) (hl : l ≤ a.length) (hdn : Nat.blt d₀ n = true) (kk : WD P n ops S Lt Q ord ((d₀, (str (a.drop l))) :: e) w) : WD P n ops S Lt Q ((i₀, 0) :: ord) e w := by
  refine WD_free (v := (str (a.drop l))) hi₀ hg₀ (fun w' => ?_) hdn kk
  apply PR_sliceT_l <;> assumption
theorem WL_sliceT_h {t : TypeId} {x hi : Operand} {a : Str} {q : Int} {r : Nat} [hu : Und P t .string] (hx : ev e x = some (str a)) (h2 : ev e hi = some (.int .i64 q)) (hq : q = (r : Int)) (hr : r ≤ a.length) (hdn : Nat.blt d₀ n = true) (kk : WL P n ops Q rest ((d₀, (str (a.take r))) :: e) w) : WL P n ops Q (⟨some d₀, .slice t x none (some hi) none, ty, pos, af, none⟩ :: rest) e w := by
  refine WL_pure (v := (str (a.take r))) ?_ hdn kk
  apply PR_sliceT_h <;> assumption
theorem WF_sliceT_h {t : TypeId} {x hi : Operand} {a : Str} {q : Int} {r : Nat} [hu : Und P t .string] (hi₀ : ops[i₀]? = some ⟨some d₀, .slice t x none (some hi) none, ty, pos, af, gd⟩) (hg₀ : gdOk ops e gd) (hx : ev e x = some (str a)) (h2 : ev e hi = some (.int .i64 q)) (hq : q = (r : Int)) (hr : r ≤ a.length) (hdn : Nat.blt d₀ n = true) (kk : WD P n ops S Lt Q ord ((d₀, (str (a.take r))) :: e) w) : WD P n ops S Lt Q ((i₀, 0) :: ord) e w := by
  refine WD_free (v := (str (a.take r))) hi₀ hg₀ (fun w' => ?_) hdn kk
  apply PR_sliceT_h <;> assumption
theorem WL_nilCheck {x : Operand} {b : Addr} (hx : ev e x = some (.pointer (some b))) (hdn : Nat.blt d₀ n = true) (kk : WL P n ops Q rest ((d₀, (.pointer (some b))) :: e) w) : WL P n ops Q (⟨some d₀, .nilCheck x, ty, pos, af, none⟩ :: rest) e w := by
  refine WL_pure (v := (.pointer (some b))) ?_ hdn kk
  apply PR_nilCheck <;> assumption
theorem WF_nilCheck {x : Operand} {b : Addr} (hi₀ : ops[i₀]? = some ⟨some d₀, .nilCheck x, ty, pos, af, gd⟩) (hg₀ : gdOk ops e gd) (hx : ev e x = some (.pointer (some b))) (hdn : Nat.blt d₀ n = true) (kk : WD P n ops S Lt Q ord ((d₀, (.pointer (some b))) :: e) w) : WD P n ops S Lt Q ((i₀, 0) :: ord) e w := by
  refine WD_free (v := (.pointer (some b))) hi₀ hg₀ (fun w' => ?_) hdn kk
  apply PR_nilCheck <;> assumption
theorem WL_not_e {t : TypeId} {x : Operand} {p : Prop} {i : Decidable p} (hx : ev e x = some (.bool (decide p))) (hdn : Nat.blt d₀ n = true) (kk : WL P n ops Q rest ((d₀, (.bool (decide (¬ p)))) :: e) w) : WL P n ops Q (⟨some d₀, .unOp .not t x, ty, pos, af, none⟩ :: rest) e w := by
  refine WL_pure (v := (.bool (decide (¬ p)))) ?_ hdn kk
  apply PR_not_e <;> assumption
theorem WF_not_e {t : TypeId} {x : Operand} {p : Prop} {i : Decidable p} (hi₀ : ops[i₀]? = some ⟨some d₀, .unOp .not t x, ty, pos, af, gd⟩) (hg₀ : gdOk ops e gd) (hx : ev e x = some (.bool (decide p))) (hdn : Nat.blt d₀ n = true) (kk : WD P n ops S Lt Q ord ((d₀, (.bool (decide (¬ p)))) :: e) w) : WD P n ops S Lt Q ((i₀, 0) :: ord) e w := by
  refine WD_free (v := (.bool (decide (¬ p)))) hi₀ hg₀ (fun w' => ?_) hdn kk
  apply PR_not_e <;> assumption
theorem WL_idxA {t el len k : Nat} {x y : Operand} {b o i : Nat} {z : Int} [hu : Und P t (.array len el)] [hk : Siz P el k] (hx : ev e x = some (.pointer (some ⟨b, o, none⟩))) (hy : ev e y = some (.int .i64 z)) (hz : z = (i : Int)) (hi : i < len) (hdn : Nat.blt d₀ n = true) (kk : WL P n ops Q rest ((d₀, (.pointer (some ⟨b, o + i * k, none⟩))) :: e) w) : WL P n ops Q (⟨some d₀, .indexAddr t x y, ty, pos, af, none⟩ :: rest) e w := by
  refine WL_pure (v := (.pointer (some ⟨b, o + i * k, none⟩))) ?_ hdn kk
  apply PR_idxA <;> assumption
theorem WF_idxA {t el len k : Nat} {x y : Operand} {b o i : Nat} {z : Int} [hu : Und P t (.array len el)] [hk : Siz P el k] (hi₀ : ops[i₀]? = some ⟨some d₀, .indexAddr t x y, ty, pos, af, gd⟩) (hg₀ : gdOk ops e gd) (hx : ev e x = some (.pointer (some ⟨b, o, none⟩))) (hy : ev e y = some (.int .i64 z)) (hz : z = (i : Int)) (hi : i < len) (hdn : Nat.blt d₀ n = true) (kk : WD P n ops S Lt Q ord ((d₀, (.pointer (some ⟨b, o + i * k, none⟩))) :: e) w) : WD P n ops S Lt Q ((i₀, 0) :: ord) e w := by
  refine WD_free (v := (.pointer (some ⟨b, o + i * k, none⟩))) hi₀ hg₀ (fun w' => ?_) hdn kk
  apply PR_idxA <;> assumption
theorem WL_sliceA {t el len k : Nat} {x : Operand} {b : Nat} [hu : Und P t (.array len el)] [hk : Siz P el k] (hx : ev e x = some (.pointer (some ⟨b, 0, none⟩))) (hdn : Nat.blt d₀ n = true) (kk : WL P n ops Q rest ((d₀, (.slice (some ⟨b, 0, none⟩) len len)) :: e) w) : WL P n ops Q (⟨some d₀, .slice t x none none none, ty, pos, af, none⟩ :: rest) e w := by
  refine WL_pure (v := (.slice (some ⟨b, 0, none⟩) len len)) ?_ hdn kk
  apply PR_sliceA <;> assumption
theorem WF_sliceA {t el len k : Nat} {x : Operand} {b : Nat} [hu : Und P t (.array len el)] [hk : Siz P el k] (hi₀ : ops[i₀]? = some ⟨some d₀, .slice t x none none none, ty, pos, af, gd⟩) (hg₀ : gdOk ops e gd) (hx : ev e x = some (.pointer (some ⟨b, 0, none⟩))) (hdn : Nat.blt d₀ n = true) (kk : WD P n ops S Lt Q ord ((d₀, (.slice (some ⟨b, 0, none⟩) len len)) :: e) w) : WD P n ops S Lt Q ((i₀, 0) :: ord) e w := by
  refine WD_free (v := (.slice (some ⟨b, 0, none⟩) len len)) hi₀ hg₀ (fun w' => ?_) hdn kk
  apply PR_sliceA <;> assumption
theorem WL_max {x y : Operand} {ts : Array TypeId} {a b : Int} (hx : ev e x = some (.int .i64 a)) (hy : ev e y = some (.int .i64 b)) (hdn : Nat.blt d₀ n = true) (kk : WL P n ops Q rest ((d₀, (.int .i64 (max a b))) :: e) w) : WL P n ops Q (⟨some d₀, .call { callee := .builtin .max, args := #[x, y], argTypes := ts }, ty, pos, af, none⟩ :: rest) e w := by
  refine WL_pure (v := (.int .i64 (max a b))) ?_ hdn kk
  apply PR_max <;> assumption
theorem WF_max {x y : Operand} {ts : Array TypeId} {a b : Int} (hi₀ : ops[i₀]? = some ⟨some d₀, .call { callee := .builtin .max, args := #[x, y], argTypes := ts }, ty, pos, af, gd⟩) (hg₀ : gdOk ops e gd) (hx : ev e x = some (.int .i64 a)) (hy : ev e y = some (.int .i64 b)) (hdn : Nat.blt d₀ n = true) (kk : WD P n ops S Lt Q ord ((d₀, (.int .i64 (max a b))) :: e) w) : WD P n ops S Lt Q ((i₀, 0) :: ord) e w := by
  refine WD_free (v := (.int .i64 (max a b))) hi₀ hg₀ (fun w' => ?_) hdn kk
  apply PR_max <;> assumption
theorem WL_min {x y : Operand} {ts : Array TypeId} {a b : Int} (hx : ev e x = some (.int .i64 a)) (hy : ev e y = some (.int .i64 b)) (hdn : Nat.blt d₀ n = true) (kk : WL P n ops Q rest ((d₀, (.int .i64 (min a b))) :: e) w) : WL P n ops Q (⟨some d₀, .call { callee := .builtin .min, args := #[x, y], argTypes := ts }, ty, pos, af, none⟩ :: rest) e w := by
  refine WL_pure (v := (.int .i64 (min a b))) ?_ hdn kk
  apply PR_min <;> assumption
theorem WF_min {x y : Operand} {ts : Array TypeId} {a b : Int} (hi₀ : ops[i₀]? = some ⟨some d₀, .call { callee := .builtin .min, args := #[x, y], argTypes := ts }, ty, pos, af, gd⟩) (hg₀ : gdOk ops e gd) (hx : ev e x = some (.int .i64 a)) (hy : ev e y = some (.int .i64 b)) (hdn : Nat.blt d₀ n = true) (kk : WD P n ops S Lt Q ord ((d₀, (.int .i64 (min a b))) :: e) w) : WD P n ops S Lt Q ((i₀, 0) :: ord) e w := by
  refine WD_free (v := (.int .i64 (min a b))) hi₀ hg₀ (fun w' => ?_) hdn kk
  apply PR_min <;> assumption

/-- one step of a drawn region, the operation laid open -/
structure WO (P : Program) (n : Nat) (ops : Array Oper) (S : List Nat) (Lt : List Nat) (Q : Exit → Act → World → Prop) (o : Oper) (i q : Nat) (ord : List (Nat × Nat)) (e : Env) (w : World) : Prop where
  h : ops[i]? = some o → WD P n ops S Lt Q ((i, q) :: ord) e w
theorem WD_op {o : Oper} {i q : Nat} (hi : ops[i]? = some o) (h : WO P n ops S Lt Q o i q ord e w) : WD P n ops S Lt Q ((i, q) :: ord) e w := h.h hi
theorem WD_isLit {i q j d : Nat} {b : Bool} {o : Oper} (hi : ops[i]? = some o) (hg : o.guard = some (j, b)) (hj : dstOf ops j = some d) (hy : look e d = some (.bool true)) (h : WD P n ops S Lt Q ((i, q) :: ord) e w) : WD P n ops S Lt Q ((i, q) :: ord) e w := h
theorem WO_pass0 {op : Op} {jb : Nat × Bool} (hg : noB ops e (some jb) = true) (hdn : Nat.blt d₀ n = true) (kk : WD P n ops S Lt Q ord ((d₀, undef) :: e) w) : WO P n ops S Lt Q ⟨some d₀, op, ty, pos, af, some jb⟩ i₀ 0 ord e w := ⟨fun hi => WD_pass0 hi hg hdn kk⟩
theorem WO_pass1 {op : Op} {jb : Nat × Bool} (hg : noB ops e (some jb) = true) (hdn : Nat.blt d₀ n = true) (kk : WD P n ops S Lt Q ord ((d₀, undef) :: e) w) : WO P n ops S Lt Q ⟨some d₀, op, ty, pos, af, some jb⟩ i₀ 1 ord e w := ⟨fun hi => WD_pass1 hi hg hdn kk⟩
theorem WO_pass2 {op : Op} {jb : Nat × Bool} (hg : noB ops e (some jb) = true) (hdn : Nat.blt d₀ n = true) (kk : WD P n ops S Lt Q ord ((d₀, undef) :: e) w) : WO P n ops S Lt Q ⟨some d₀, op, ty, pos, af, some jb⟩ i₀ 2 ord e w := ⟨fun hi => WD_pass2 hi hg hdn kk⟩

theorem WO_move {x : Operand} {v : Value} (hg₀ : gdOk ops e gd) (hx : ev e x = some v) (hdn : Nat.blt d₀ n = true) (kk : WD P n ops S Lt Q ord ((d₀, v) :: e) w) : WO P n ops S Lt Q ⟨some d₀, .move x, ty, pos, af, gd⟩ i₀ 0 ord e w := ⟨fun hi₀ => WF_move hi₀ hg₀ hx hdn kk⟩
theorem WO_assign {x : Operand} {v : Value} (hg₀ : gdOk ops e gd) (hx : ev e x = some v) (hdn : Nat.blt d₀ n = true) (kk : WD P n ops S Lt Q ord ((d₀, v) :: e) w) : WO P n ops S Lt Q ⟨some d₀, .assign x, ty, pos, af, gd⟩ i₀ 0 ord e w := ⟨fun hi₀ => WF_assign hi₀ hg₀ hx hdn kk⟩
theorem WO_pick_t {c x y : Operand} {v : Value} (hg₀ : gdOk ops e gd) (hc : ev e c = some (.bool true)) (hx : ev e x = some v) (hdn : Nat.blt d₀ n = true) (kk : WD P n ops S Lt Q ord ((d₀, v) :: e) w) : WO P n ops S Lt Q ⟨some d₀, .pick c x y, ty, pos, af, gd⟩ i₀ 0 ord e w := ⟨fun hi₀ => WF_pick_t hi₀ hg₀ hc hx hdn kk⟩
theorem WO_pick_f {c x y : Operand} {v : Value} (hg₀ : gdOk ops e gd) (hc : ev e c = some (.bool false)) (hx : ev e y = some v) (hdn : Nat.blt d₀ n = true) (kk : WD P n ops S Lt Q ord ((d₀, v) :: e) w) : WO P n ops S Lt Q ⟨some d₀, .pick c x y, ty, pos, af, gd⟩ i₀ 0 ord e w := ⟨fun hi₀ => WF_pick_f hi₀ hg₀ hc hx hdn kk⟩
theorem WO_not {t : TypeId} {x : Operand} {b : Bool} (hg₀ : gdOk ops e gd) (hx : ev e x = some (.bool b)) (hdn : Nat.blt d₀ n = true) (kk : WD P n ops S Lt Q ord ((d₀, (.bool (!b))) :: e) w) : WO P n ops S Lt Q ⟨some d₀, .unOp .not t x, ty, pos, af, gd⟩ i₀ 0 ord e w := ⟨fun hi₀ => WF_not hi₀ hg₀ hx hdn kk⟩
theorem WO_not_t {t : TypeId} {x : Operand} (hg₀ : gdOk ops e gd) (hx : ev e x = some (.bool true)) (hdn : Nat.blt d₀ n = true) (kk : WD P n ops S Lt Q ord ((d₀, (.bool false)) :: e) w) : WO P n ops S Lt Q ⟨some d₀, .unOp .not t x, ty, pos, af, gd⟩ i₀ 0 ord e w := ⟨fun hi₀ => WF_not_t hi₀ hg₀ hx hdn kk⟩
theorem WO_not_f {t : TypeId} {x : Operand} (hg₀ : gdOk ops e gd) (hx : ev e x = some (.bool false)) (hdn : Nat.blt d₀ n = true) (kk : WD P n ops S Lt Q ord ((d₀, (.bool true)) :: e) w) : WO P n ops S Lt Q ⟨some d₀, .unOp .not t x, ty, pos, af, gd⟩ i₀ 0 ord e w := ⟨fun hi₀ => WF_not_f hi₀ hg₀ hx hdn kk⟩
theorem WO_not_d {t : TypeId} {x : Operand} {p : Prop} [Decidable p] (hg₀ : gdOk ops e gd) (hx : ev e x = some (.bool (decide p))) (hdn : Nat.blt d₀ n = true) (kk : WD P n ops S Lt Q ord ((d₀, (.bool (decide (¬ p)))) :: e) w) : WO P n ops S Lt Q ⟨some d₀, .unOp .not t x, ty, pos, af, gd⟩ i₀ 0 ord e w := ⟨fun hi₀ => WF_not_d hi₀ hg₀ hx hdn kk⟩
theorem WO_add {x y : Operand} {t u : TypeId} {a b : Int} (hg₀ : gdOk ops e gd) (hx : ev e x = some (.int .i64 a)) (hy : ev e y = some (.int .i64 b)) (hr : I64 (a + b)) (hdn : Nat.blt d₀ n = true) (kk : WD P n ops S Lt Q ord ((d₀, (.int .i64 (a + b))) :: e) w) : WO P n ops S Lt Q ⟨some d₀, .binOp .add t x y u, ty, pos, af, gd⟩ i₀ 0 ord e w := ⟨fun hi₀ => WF_add hi₀ hg₀ hx hy hr hdn kk⟩
theorem WO_sub {x y : Operand} {t u : TypeId} {a b : Int} (hg₀ : gdOk ops e gd) (hx : ev e x = some (.int .i64 a)) (hy : ev e y = some (.int .i64 b)) (hr : I64 (a - b)) (hdn : Nat.blt d₀ n = true) (kk : WD P n ops S Lt Q ord ((d₀, (.int .i64 (a - b))) :: e) w) : WO P n ops S Lt Q ⟨some d₀, .binOp .sub t x y u, ty, pos, af, gd⟩ i₀ 0 ord e w := ⟨fun hi₀ => WF_sub hi₀ hg₀ hx hy hr hdn kk⟩
theorem WO_mul {x y : Operand} {t u : TypeId} {a b : Int} (hg₀ : gdOk ops e gd) (hx : ev e x = some (.int .i64 a)) (hy : ev e y = some (.int .i64 b)) (hr : I64 (a * b)) (hdn : Nat.blt d₀ n = true) (kk : WD P n ops S Lt Q ord ((d₀, (.int .i64 (a * b))) :: e) w) : WO P n ops S Lt Q ⟨some d₀, .binOp .mul t x y u, ty, pos, af, gd⟩ i₀ 0 ord e w := ⟨fun hi₀ => WF_mul hi₀ hg₀ hx hy hr hdn kk⟩
theorem WO_neg {x : Operand} {t : TypeId} {a : Int} (hg₀ : gdOk ops e gd) (hx : ev e x = some (.int .i64 a)) (hr : I64 (- a)) (hdn : Nat.blt d₀ n = true) (kk : WD P n ops S Lt Q ord ((d₀, (.int .i64 (- a))) :: e) w) : WO P n ops S Lt Q ⟨some d₀, .unOp .neg t x, ty, pos, af, gd⟩ i₀ 0 ord e w := ⟨fun hi₀ => WF_neg hi₀ hg₀ hx hr hdn kk⟩
theorem WO_rem {x y : Operand} {t u : TypeId} {a b : Int} (hg₀ : gdOk ops e gd) (hx : ev e x = some (.int .i64 a)) (hy : ev e y = some (.int .i64 b)) (hb : b ≠ 0) (hr : I64 (a.tmod b)) (hdn : Nat.blt d₀ n = true) (kk : WD P n ops S Lt Q ord ((d₀, (.int .i64 (a.tmod b))) :: e) w) : WO P n ops S Lt Q ⟨some d₀, .binOp .rem t x y u, ty, pos, af, gd⟩ i₀ 0 ord e w := ⟨fun hi₀ => WF_rem hi₀ hg₀ hx hy hb hr hdn kk⟩
theorem WO_quo {x y : Operand} {t u : TypeId} {a b : Int} (hg₀ : gdOk ops e gd) (hx : ev e x = some (.int .i64 a)) (hy : ev e y = some (.int .i64 b)) (hb : b ≠ 0) (hr : I64 (a.tdiv b)) (hdn : Nat.blt d₀ n = true) (kk : WD P n ops S Lt Q ord ((d₀, (.int .i64 (a.tdiv b))) :: e) w) : WO P n ops S Lt Q ⟨some d₀, .binOp .quo t x y u, ty, pos, af, gd⟩ i₀ 0 ord e w := ⟨fun hi₀ => WF_quo hi₀ hg₀ hx hy hb hr hdn kk⟩
theorem WO_remP {x y : Operand} {t u : TypeId} {a b : Int} (hg₀ : gdOk ops e gd) (hx : ev e x = some (.int .i64 a)) (hy : ev e y = some (.int .i64 b)) (h0 : 0 ≤ a) (hb : 0 < b) (hr : I64 a) (hdn : Nat.blt d₀ n = true) (kk : WD P n ops S Lt Q ord ((d₀, (.int .i64 (a % b))) :: e) w) : WO P n ops S Lt Q ⟨some d₀, .binOp .rem t x y u, ty, pos, af, gd⟩ i₀ 0 ord e w := ⟨fun hi₀ => WF_remP hi₀ hg₀ hx hy h0 hb hr hdn kk⟩
theorem WO_quoP {x y : Operand} {t u : TypeId} {a b : Int} (hg₀ : gdOk ops e gd) (hx : ev e x = some (.int .i64 a)) (hy : ev e y = some (.int .i64 b)) (h0 : 0 ≤ a) (hb : 0 < b) (hr : I64 a) (hdn : Nat.blt d₀ n = true) (kk : WD P n ops S Lt Q ord ((d₀, (.int .i64 (a / b))) :: e) w) : WO P n ops S Lt Q ⟨some d₀, .binOp .quo t x y u, ty, pos, af, gd⟩ i₀ 0 ord e w := ⟨fun hi₀ => WF_quoP hi₀ hg₀ hx hy h0 hb hr hdn kk⟩
theorem WO_lss {x y : Operand} {t u : TypeId} {a b : Int} {k : IntKind} (hg₀ : gdOk ops e gd) (hx : ev e x = some (.int k a)) (hy : ev e y = some (.int k b)) (hdn : Nat.blt d₀ n = true) (kk : WD P n ops S Lt Q ord ((d₀, (.bool (decide (a < b)))) :: e) w) : WO P n ops S Lt Q ⟨some d₀, .binOp .lss t x y u, ty, pos, af, gd⟩ i₀ 0 ord e w := ⟨fun hi₀ => WF_lss hi₀ hg₀ hx hy hdn kk⟩
theorem WO_leq {x y : Operand} {t u : TypeId} {a b : Int} {k : IntKind} (hg₀ : gdOk ops e gd) (hx : ev e x = some (.int k a)) (hy : ev e y = some (.int k b)) (hdn : Nat.blt d₀ n = true) (kk : WD P n ops S Lt Q ord ((d₀, (.bool (decide (a ≤ b)))) :: e) w) : WO P n ops S Lt Q ⟨some d₀, .binOp .leq t x y u, ty, pos, af, gd⟩ i₀ 0 ord e w := ⟨fun hi₀ => WF_leq hi₀ hg₀ hx hy hdn kk⟩
theorem WO_gtr {x y : Operand} {t u : TypeId} {a b : Int} {k : IntKind} (hg₀ : gdOk ops e gd) (hx : ev e x = some (.int k a)) (hy : ev e y = some (.int k b)) (hdn : Nat.blt d₀ n = true) (kk : WD P n ops S Lt Q ord ((d₀, (.bool (decide (b < a)))) :: e) w) : WO P n ops S Lt Q ⟨some d₀, .binOp .gtr t x y u, ty, pos, af, gd⟩ i₀ 0 ord e w := ⟨fun hi₀ => WF_gtr hi₀ hg₀ hx hy hdn kk⟩
theorem WO_geq {x y : Operand} {t u : TypeId} {a b : Int} {k : IntKind} (hg₀ : gdOk ops e gd) (hx : ev e x = some (.int k a)) (hy : ev e y = some (.int k b)) (hdn : Nat.blt d₀ n = true) (kk : WD P n ops S Lt Q ord ((d₀, (.bool (decide (b ≤ a)))) :: e) w) : WO P n ops S Lt Q ⟨some d₀, .binOp .geq t x y u, ty, pos, af, gd⟩ i₀ 0 ord e w := ⟨fun hi₀ => WF_geq hi₀ hg₀ hx hy hdn kk⟩
theorem WO_eql {x y : Operand} {t u : TypeId} {a b : Int} {k : IntKind} (hg₀ : gdOk ops e gd) (hx : ev e x = some (.int k a)) (hy : ev e y = some (.int k b)) (hdn : Nat.blt d₀ n = true) (kk : WD P n ops S Lt Q ord ((d₀, (.bool (decide (a = b)))) :: e) w) : WO P n ops S Lt Q ⟨some d₀, .binOp .eql t x y u, ty, pos, af, gd⟩ i₀ 0 ord e w := ⟨fun hi₀ => WF_eql hi₀ hg₀ hx hy hdn kk⟩
theorem WO_neq {x y : Operand} {t u : TypeId} {a b : Int} {k : IntKind} (hg₀ : gdOk ops e gd) (hx : ev e x = some (.int k a)) (hy : ev e y = some (.int k b)) (hdn : Nat.blt d₀ n = true) (kk : WD P n ops S Lt Q ord ((d₀, (.bool (decide (¬ a = b)))) :: e) w) : WO P n ops S Lt Q ⟨some d₀, .binOp .neq t x y u, ty, pos, af, gd⟩ i₀ 0 ord e w := ⟨fun hi₀ => WF_neq hi₀ hg₀ hx hy hdn kk⟩
theorem WO_eqlB {x y : Operand} {t u : TypeId} {p q : Bool} [hu : Und P t .bool] (hg₀ : gdOk ops e gd) (hx : ev e x = some (.bool p)) (hy : ev e y = some (.bool q)) (hdn : Nat.blt d₀ n = true) (kk : WD P n ops S Lt Q ord ((d₀, (.bool (decide (p = q)))) :: e) w) : WO P n ops S Lt Q ⟨some d₀, .binOp .eql t x y u, ty, pos, af, gd⟩ i₀ 0 ord e w := ⟨fun hi₀ => WF_eqlB hi₀ hg₀ hx hy hdn kk⟩
theorem WO_neqB {x y : Operand} {t u : TypeId} {p q : Bool} [hu : Und P t .bool] (hg₀ : gdOk ops e gd) (hx : ev e x = some (.bool p)) (hy : ev e y = some (.bool q)) (hdn : Nat.blt d₀ n = true) (kk : WD P n ops S Lt Q ord ((d₀, (.bool (decide (¬ p = q)))) :: e) w) : WO P n ops S Lt Q ⟨some d₀, .binOp .neq t x y u, ty, pos, af, gd⟩ i₀ 0 ord e w := ⟨fun hi₀ => WF_neqB hi₀ hg₀ hx hy hdn kk⟩
theorem WO_extract {x : Operand} {vs : Array Value} {i : Nat} {v : Value} (hg₀ : gdOk ops e gd) (hx : ev e x = some (.tuple vs)) (hv : vs[i]? = some v) (hdn : Nat.blt d₀ n = true) (kk : WD P n ops S Lt Q ord ((d₀, v) :: e) w) : WO P n ops S Lt Q ⟨some d₀, .extract x i, ty, pos, af, gd⟩ i₀ 0 ord e w := ⟨fun hi₀ => WF_extract hi₀ hg₀ hx hv hdn kk⟩
theorem WO_len {x : Operand} {t : TypeId} {el : TypeId} [hu : Und P t (.slice el)] {p : Option Addr} {l c : Nat} (hg₀ : gdOk ops e gd) (hx : ev e x = some (.slice p l c)) (hdn : Nat.blt d₀ n = true) (kk : WD P n ops S Lt Q ord ((d₀, (.int .i64 (l : Int))) :: e) w) : WO P n ops S Lt Q ⟨some d₀, .call { callee := .builtin .len, args := #[x], argTypes := #[t] }, ty, pos, af, gd⟩ i₀ 0 ord e w := ⟨fun hi₀ => WF_len hi₀ hg₀ hx hdn kk⟩
theorem WO_fieldAddr {x : Operand} {t : TypeId} {b o i off : Nat} [hf : Fld P t i off] (hg₀ : gdOk ops e gd) (hx : ev e x = some (.pointer (some ⟨b, o, none⟩))) (hdn : Nat.blt d₀ n = true) (kk : WD P n ops S Lt Q ord ((d₀, (.pointer (some ⟨b, o + off, none⟩))) :: e) w) : WO P n ops S Lt Q ⟨some d₀, .fieldAddr t x i, ty, pos, af, gd⟩ i₀ 0 ord e w := ⟨fun hi₀ => WF_fieldAddr hi₀ hg₀ hx hdn kk⟩
theorem WO_makeFunc0 {f : Nat} (hg₀ : gdOk ops e gd) (hdn : Nat.blt d₀ n = true) (kk : WD P n ops S Lt Q ord ((d₀, (.func (.func f) #[] #[])) :: e) w) : WO P n ops S Lt Q ⟨some d₀, .makeFunc (.func f) #[] #[], ty, pos, af, gd⟩ i₀ 0 ord e w := ⟨fun hi₀ => WF_makeFunc0 hi₀ hg₀ hdn kk⟩
theorem WO_makeFunc1 {f : Nat} {x : Operand} {v : Value} (hg₀ : gdOk ops e gd) (hx : ev e x = some v) (hdn : Nat.blt d₀ n = true) (kk : WD P n ops S Lt Q ord ((d₀, (.func (.func f) #[] #[v])) :: e) w) : WO P n ops S Lt Q ⟨some d₀, .makeFunc (.func f) #[] #[x], ty, pos, af, gd⟩ i₀ 0 ord e w := ⟨fun hi₀ => WF_makeFunc1 hi₀ hg₀ hx hdn kk⟩
theorem WO_makeFunc2 {f : Nat} {x y : Operand} {v u : Value} (hg₀ : gdOk ops e gd) (hx : ev e x = some v) (hy : ev e y = some u) (hdn : Nat.blt d₀ n = true) (kk : WD P n ops S Lt Q ord ((d₀, (.func (.func f) #[] #[v, u])) :: e) w) : WO P n ops S Lt Q ⟨some d₀, .makeFunc (.func f) #[] #[x, y], ty, pos, af, gd⟩ i₀ 0 ord e w := ⟨fun hi₀ => WF_makeFunc2 hi₀ hg₀ hx hy hdn kk⟩
theorem WO_makeFunc3 {f : Nat} {x y z : Operand} {v u s : Value} (hg₀ : gdOk ops e gd) (hx : ev e x = some v) (hy : ev e y = some u) (hz : ev e z = some s) (hdn : Nat.blt d₀ n = true) (kk : WD P n ops S Lt Q ord ((d₀, (.func (.func f) #[] #[v, u, s])) :: e) w) : WO P n ops S Lt Q ⟨some d₀, .makeFunc (.func f) #[] #[x, y, z], ty, pos, af, gd⟩ i₀ 0 ord e w := ⟨fun hi₀ => WF_makeFunc3 hi₀ hg₀ hx hy hz hdn kk⟩
theorem WO_lenS {α : Type} [GoRep α] {X : List Nat} {xs : List α} {v : Value} {x : Operand} {t : TypeId} {el : TypeId} {w₀ : World} [hu : Und P t (.slice el)] (hg₀ : gdOk ops e gd) (hx : ev e x = some v) (hs : SlV X w₀ v xs) (hdn : Nat.blt d₀ n = true) (kk : WD P n ops S Lt Q ord ((d₀, (.int .i64 (xs.length : Int))) :: e) w) : WO P n ops S Lt Q ⟨some d₀, .call { callee := .builtin .len, args := #[x], argTypes := #[t] }, ty, pos, af, gd⟩ i₀ 0 ord e w := ⟨fun hi₀ => WF_lenS hi₀ hg₀ hx hs hdn kk⟩
theorem WO_idx {α : Type} [GoRep α] {X : List Nat} {xs : List α} {v : Value} {x y : Operand} {t : TypeId} {el k : Nat} [hu : Und P t (.slice el)] [hk : Siz P el k] {z : Int} {i : Nat} {w₀ : World} (hg₀ : gdOk ops e gd) (hx : ev e x = some v) (hs : SlV X w₀ v xs) (hy : ev e y = some (.int .i64 z)) (hz : z = (i : Int)) (hi : i < xs.length) (hdn : Nat.blt d₀ n = true) (kk : WD P n ops S Lt Q ord ((d₀, (.pointer (some (elAddr v i k 0)))) :: e) w) : WO P n ops S Lt Q ⟨some d₀, .indexAddr t x y, ty, pos, af, gd⟩ i₀ 0 ord e w := ⟨fun hi₀ => WF_idx hi₀ hg₀ hx hs hy hz hi hdn kk⟩
theorem WO_field_el {x : Operand} {t : TypeId} {v : Value} {i k j m off : Nat} [hf : Fld P t m off] (hg₀ : gdOk ops e gd) (hx : ev e x = some (.pointer (some (elAddr v i k j)))) (hv : ∃ p l c, v = .slice (some p) l c) (hdn : Nat.blt d₀ n = true) (kk : WD P n ops S Lt Q ord ((d₀, (.pointer (some (elAddr v i k (j + off))))) :: e) w) : WO P n ops S Lt Q ⟨some d₀, .fieldAddr t x m, ty, pos, af, gd⟩ i₀ 0 ord e w := ⟨fun hi₀ => WF_field_el hi₀ hg₀ hx hv hdn kk⟩
theorem WO_slice_lh {α : Type} [GoRep α] {X : List Nat} {v : Value} {xs : List α} {t el k : Nat} {x lo hi : Operand} {l r : Nat} {a b : Int} [hu : Und P t (.slice el)] [hk : Siz P el k] {w₀ : World} (hg₀ : gdOk ops e gd) (hx : ev e x = some v) (hs : SlV X w₀ v xs) (ha : ev e lo = some (.int .i64 a)) (hb : ev e hi = some (.int .i64 b)) (hal : a = (l : Int)) (hbr : b = (r : Int)) (hlr : l ≤ r) (hrx : r ≤ xs.length) (hdn : Nat.blt d₀ n = true) (kk : WD P n ops S Lt Q ord ((d₀, (slc v l r k)) :: e) w) : WO P n ops S Lt Q ⟨some d₀, .slice t x (some lo) (some hi) none, ty, pos, af, gd⟩ i₀ 0 ord e w := ⟨fun hi₀ => WF_slice_lh hi₀ hg₀ hx hs ha hb hal hbr hlr hrx hdn kk⟩
theorem WO_slice_h {α : Type} [GoRep α] {X : List Nat} {v : Value} {xs : List α} {t el k : Nat} {x hi : Operand} {r : Nat} {b : Int} [hu : Und P t (.slice el)] [hk : Siz P el k] {w₀ : World} (hg₀ : gdOk ops e gd) (hx : ev e x = some v) (hs : SlV X w₀ v xs) (hb : ev e hi = some (.int .i64 b)) (hbr : b = (r : Int)) (hrx : r ≤ xs.length) (hdn : Nat.blt d₀ n = true) (kk : WD P n ops S Lt Q ord ((d₀, (slc v 0 r k)) :: e) w) : WO P n ops S Lt Q ⟨some d₀, .slice t x none (some hi) none, ty, pos, af, gd⟩ i₀ 0 ord e w := ⟨fun hi₀ => WF_slice_h hi₀ hg₀ hx hs hb hbr hrx hdn kk⟩
theorem WO_slice_l {α : Type} [GoRep α] {X : List Nat} {v : Value} {xs : List α} {t el k : Nat} {x lo : Operand} {l : Nat} {a : Int} [hu : Und P t (.slice el)] [hk : Siz P el k] {w₀ : World} (hg₀ : gdOk ops e gd) (hx : ev e x = some v) (hs : SlV X w₀ v xs) (ha : ev e lo = some (.int .i64 a)) (hal : a = (l : Int)) (hlx : l ≤ xs.length) (hdn : Nat.blt d₀ n = true) (kk : WD P n ops S Lt Q ord ((d₀, (slc v l xs.length k)) :: e) w) : WO P n ops S Lt Q ⟨some d₀, .slice t x (some lo) none none, ty, pos, af, gd⟩ i₀ 0 ord e w := ⟨fun hi₀ => WF_slice_l hi₀ hg₀ hx hs ha hal hlx hdn kk⟩
theorem WO_build {t : TypeId} {l : List (Nat × Operand)} {vs : List (Nat × Value)} {u : Value} (hg₀ : gdOk ops e gd) (hv : evParts e l = some vs) (hb : ∀ w, (Instr.build t vs.toArray).run P w = .ok u w) (hdn : Nat.blt d₀ n = true) (kk : WD P n ops S Lt Q ord ((d₀, u) :: e) w) : WO P n ops S Lt Q ⟨some d₀, .build t l.toArray, ty, pos, af, gd⟩ i₀ 0 ord e w := ⟨fun hi₀ => WF_build hi₀ hg₀ hv hb hdn kk⟩
theorem WO_eqlS {x y : Operand} {t u : TypeId} {p q : Value} {c : Prop} [Decidable c] (hg₀ : gdOk ops e gd) (hx : ev e x = some p) (hy : ev e y = some q) (hg : ∀ w, (eqGuard .eql t x y p q).run P w = .ok () w) (h : ∀ w, (binOp .eql t p q).run P w = .ok (.bool (decide c)) w) (hdn : Nat.blt d₀ n = true) (kk : WD P n ops S Lt Q ord ((d₀, (.bool (decide c))) :: e) w) : WO P n ops S Lt Q ⟨some d₀, .binOp .eql t x y u, ty, pos, af, gd⟩ i₀ 0 ord e w := ⟨fun hi₀ => WF_eqlS hi₀ hg₀ hx hy hg h hdn kk⟩
theorem WO_neqS {x y : Operand} {t u : TypeId} {p q : Value} {c : Prop} [Decidable c] (hg₀ : gdOk ops e gd) (hx : ev e x = some p) (hy : ev e y = some q) (hg : ∀ w, (eqGuard .neq t x y p q).run P w = .ok () w) (h : ∀ w, (binOp .neq t p q).run P w = .ok (.bool (decide (¬ c))) w) (hdn : Nat.blt d₀ n = true) (kk : WD P n ops S Lt Q ord ((d₀, (.bool (decide (¬ c)))) :: e) w) : WO P n ops S Lt Q ⟨some d₀, .binOp .neq t x y u, ty, pos, af, gd⟩ i₀ 0 ord e w := ⟨fun hi₀ => WF_neqS hi₀ hg₀ hx hy hg h hdn kk⟩
theorem WO_rload_blk {b T o : Nat} {cs : List Value} {u : Value} {x : Operand} {t : TypeId} {D : TypeDesc} [hu : Und P t D] (hg₀ : gdOk ops e gd) (hA : aggB D = false) (hx : ev e x = some (.pointer (some ⟨b, o, none⟩))) (hb : Blk w b T cs) (hn : b ∉ S) (hc : cs[o]? = some u) (hdn : Nat.blt d₀ n = true) (kk : WD P n ops S Lt Q ord ((d₀, u) :: e) w) : WO P n ops S Lt Q ⟨some d₀, .load t x, ty, pos, af, gd⟩ i₀ 1 ord e w := ⟨fun hi₀ => WR_load_blk hi₀ hg₀ hA hx hb hn hc hdn kk⟩
theorem WO_rload_blkA {b T m : Nat} {cs : List Value} {x : Operand} {t : TypeId} {D : TypeDesc} [hu : Und P t D] [hsz : Siz P t m] (hg₀ : gdOk ops e gd) (hA : aggB D = true) (hx : ev e x = some (.pointer (some ⟨b, 0, none⟩))) (hb : Blk w b T cs) (hn : b ∉ S) (hl : cs.length = m) (hdn : Nat.blt d₀ n = true) (kk : WD P n ops S Lt Q ord ((d₀, .agg cs.toArray) :: e) w) : WO P n ops S Lt Q ⟨some d₀, .load t x, ty, pos, af, gd⟩ i₀ 1 ord e w := ⟨fun hi₀ => WR_load_blkA hi₀ hg₀ hA hx hb hn hl hdn kk⟩
theorem WO_rload_el {α : Type} [Flat α] {X : List Nat} {xs : List α} {v u : Value} {i j k : Nat} {x : Operand} {t : TypeId} {D : TypeDesc} [hu : Und P t D] (hg₀ : gdOk ops e gd) (hA : aggB D = false) (hx : ev e x = some (.pointer (some (elAddr v i k j)))) (hs : SlV X w v xs) (hn : ∀ b ∈ S, b ∈ X) (hi : i < xs.length) (hk : k = Flat.k α) (hc : (Flat.enc xs[i])[j]? = some u) (hdn : Nat.blt d₀ n = true) (kk : WD P n ops S Lt Q ord ((d₀, u) :: e) w) : WO P n ops S Lt Q ⟨some d₀, .load t x, ty, pos, af, gd⟩ i₀ 1 ord e w := ⟨fun hi₀ => WR_load_el hi₀ hg₀ hA hx hs hn hi hk hc hdn kk⟩
theorem WO_rload_elA {α : Type} [Flat α] {X : List Nat} {xs : List α} {v : Value} {i k : Nat} {x : Operand} {t : TypeId} {D : TypeDesc} [hu : Und P t D] [hsz : Siz P t k] (hg₀ : gdOk ops e gd) (hA : aggB D = true) (hx : ev e x = some (.pointer (some (elAddr v i k 0)))) (hs : SlV X w v xs) (hn : ∀ b ∈ S, b ∈ X) (hi : i < xs.length) (hk : k = Flat.k α) (hdn : Nat.blt d₀ n = true) (kk : WD P n ops S Lt Q ord ((d₀, .agg (Flat.enc xs[i]).toArray) :: e) w) : WO P n ops S Lt Q ⟨some d₀, .load t x, ty, pos, af, gd⟩ i₀ 1 ord e w := ⟨fun hi₀ => WR_load_elA hi₀ hg₀ hA hx hs hn hi hk hdn kk⟩
theorem WO_eqlT {t u : TypeId} {x y : Operand} {a b : Str} [hu : Und P t .string] (hg₀ : gdOk ops e gd) (hx : ev e x = some (str a)) (hy : ev e y = some (str b)) (hdn : Nat.blt d₀ n = true) (kk : WD P n ops S Lt Q ord ((d₀, (.bool (decide (a = b)))) :: e) w) : WO P n ops S Lt Q ⟨some d₀, .binOp .eql t x y u, ty, pos, af, gd⟩ i₀ 0 ord e w := ⟨fun hi₀ => WF_eqlT hi₀ hg₀ hx hy hdn kk⟩
theorem WO_neqT {t u : TypeId} {x y : Operand} {a b : Str} [hu : Und P t .string] (hg₀ : gdOk ops e gd) (hx : ev e x = some (str a)) (hy : ev e y = some (str b)) (hdn : Nat.blt d₀ n = true) (kk : WD P n ops S Lt Q ord ((d₀, (.bool (decide (¬ a = b)))) :: e) w) : WO P n ops S Lt Q ⟨some d₀, .binOp .neq t x y u, ty, pos, af, gd⟩ i₀ 0 ord e w := ⟨fun hi₀ => WF_neqT hi₀ hg₀ hx hy hdn kk⟩
theorem WO_addT {t u : TypeId} {x y : Operand} {a b : Str} [hu : Und P t .string] (hg₀ : gdOk ops e gd) (hx : ev e x = some (str a)) (hy : ev e y = some (str b)) (hl : a.length + b.length ≤ 9223372036854775807) (hdn : Nat.blt d₀ n = true) (kk : WD P n ops S Lt Q ord ((d₀, (str (a ++ b))) :: e) w) : WO P n ops S Lt Q ⟨some d₀, .binOp .add t x y u, ty, pos, af, gd⟩ i₀ 0 ord e w := ⟨fun hi₀ => WF_addT hi₀ hg₀ hx hy hl hdn kk⟩
theorem WO_lenT {x : Operand} {t : TypeId} {a : Str} [hu : Und P t .string] (hg₀ : gdOk ops e gd) (hx : ev e x = some (str a)) (hdn : Nat.blt d₀ n = true) (kk : WD P n ops S Lt Q ord ((d₀, (.int .i64 (a.length : Int))) :: e) w) : WO P n ops S Lt Q ⟨some d₀, .call { callee := .builtin .len, args := #[x], argTypes := #[t] }, ty, pos, af, gd⟩ i₀ 0 ord e w := ⟨fun hi₀ => WF_lenT hi₀ hg₀ hx hdn kk⟩
theorem WO_indexT {t : TypeId} {x y : Operand} {a : Str} {z : Int} {i : Nat} [hu : Und P t .string] (hg₀ : gdOk ops e gd) (hx : ev e x = some (str a)) (hy : ev e y = some (.int .i64 z)) (hz : z = (i : Int)) (hi : i < a.length) (hdn : Nat.blt d₀ n = true) (kk : WD P n ops S Lt Q ord ((d₀, (.int .u8 (byte a i))) :: e) w) : WO P n ops S Lt Q ⟨some d₀, .index t x y, ty, pos, af, gd⟩ i₀ 0 ord e w := ⟨fun hi₀ => WF_indexT hi₀ hg₀ hx hy hz hi hdn kk⟩
theorem WO_sliceT_lh {t : TypeId} {x lo hi : Operand} {a : Str} {p q : Int} {l r : Nat} [hu : Und P t .string] (hg₀ : gdOk ops e gd) (hx : ev e x = some (str a)) (h1 : ev e lo = some (.int .i64 p)) (h2 : ev e hi = some (.int .i64 q)) (hp : p = (l : Int)) (hq : q = (r : Int)) (hlr : l ≤ r) (hr : r ≤ a.length) (hdn : Nat.blt d₀ n = true) (kk : WD P n ops S Lt Q ord ((d₀, (str ((a.take r).drop l))) :: e) w) : WO P n ops S Lt Q ⟨some d₀, .slice t x (some lo) (some hi) none, ty, pos, af, gd⟩ i₀ 0 ord e w := ⟨fun hi₀ => WF_sliceT_lh hi₀ hg₀ hx h1 h2 hp hq hlr hr hdn kk⟩
theorem WO_sliceT_l {t : TypeId} {x lo : Operand} {a : Str} {p : Int} {l : Nat} [hu : Und P t .string] (hg₀ : gdOk ops e gd) (hx : ev e x = some (str a)) (h1 : ev e lo = some (.int .i64 p)) (hp : p = (l : Int)) (hl : l ≤ a.length) (hdn : Nat.blt d₀ n = true) (kk : WD P n ops S Lt Q ord ((d₀, (str (a.drop l))) :: e) w) : WO P n ops S Lt Q ⟨some d₀, .slice t x (some lo) none none, ty, pos, af, gd⟩ i₀ 0 ord e w := ⟨fun hi₀ => WF_sliceT_l hi₀ hg₀ hx h1 hp hl hdn kk⟩
theorem WO_sliceT_h {t : TypeId} {x hi : Operand} {a : Str} {q : Int} {r : Nat} [hu : Und P t .string] (hg₀ : gdOk ops e gd) (hx : ev e x = some (str a)) (h2 : ev e hi = some (.int .i64 q)) (hq : q = (r : Int)) (hr : r ≤ a.length) (hdn : Nat.blt d₀ n = true) (kk : WD P n ops S Lt Q ord ((d₀, (str (a.take r))) :: e) w) : WO P n ops S Lt Q ⟨some d₀, .slice t x none (some hi) none, ty, pos, af, gd⟩ i₀ 0 ord e w := ⟨fun hi₀ => WF_sliceT_h hi₀ hg₀ hx h2 hq hr hdn kk⟩
theorem WO_nilCheck {x : Operand} {b : Addr} (hg₀ : gdOk ops e gd) (hx : ev e x = some (.pointer (some b))) (hdn : Nat.blt d₀ n = true) (kk : WD P n ops S Lt Q ord ((d₀, (.pointer (some b))) :: e) w) : WO P n ops S Lt Q ⟨some d₀, .nilCheck x, ty, pos, af, gd⟩ i₀ 0 ord e w := ⟨fun hi₀ => WF_nilCheck hi₀ hg₀ hx hdn kk⟩
theorem WO_not_e {t : TypeId} {x : Operand} {p : Prop} {i : Decidable p} (hg₀ : gdOk ops e gd) (hx : ev e x = some (.bool (decide p))) (hdn : Nat.blt d₀ n = true) (kk : WD P n ops S Lt Q ord ((d₀, (.bool (decide (¬ p)))) :: e) w) : WO P n ops S Lt Q ⟨some d₀, .unOp .not t x, ty, pos, af, gd⟩ i₀ 0 ord e w := ⟨fun hi₀ => WF_not_e hi₀ hg₀ hx hdn kk⟩
theorem WO_idxA {t el len k : Nat} {x y : Operand} {b o i : Nat} {z : Int} [hu : Und P t (.array len el)] [hk : Siz P el k] (hg₀ : gdOk ops e gd) (hx : ev e x = some (.pointer (some ⟨b, o, none⟩))) (hy : ev e y = some (.int .i64 z)) (hz : z = (i : Int)) (hi : i < len) (hdn : Nat.blt d₀ n = true) (kk : WD P n ops S Lt Q ord ((d₀, (.pointer (some ⟨b, o + i * k, none⟩))) :: e) w) : WO P n ops S Lt Q ⟨some d₀, .indexAddr t x y, ty, pos, af, gd⟩ i₀ 0 ord e w := ⟨fun hi₀ => WF_idxA hi₀ hg₀ hx hy hz hi hdn kk⟩
theorem WO_sliceA {t el len k : Nat} {x : Operand} {b : Nat} [hu : Und P t (.array len el)] [hk : Siz P el k] (hg₀ : gdOk ops e gd) (hx : ev e x = some (.pointer (some ⟨b, 0, none⟩))) (hdn : Nat.blt d₀ n = true) (kk : WD P n ops S Lt Q ord ((d₀, (.slice (some ⟨b, 0, none⟩) len len)) :: e) w) : WO P n ops S Lt Q ⟨some d₀, .slice t x none none none, ty, pos, af, gd⟩ i₀ 0 ord e w := ⟨fun hi₀ => WF_sliceA hi₀ hg₀ hx hdn kk⟩
theorem WO_max {x y : Operand} {ts : Array TypeId} {a b : Int} (hg₀ : gdOk ops e gd) (hx : ev e x = some (.int .i64 a)) (hy : ev e y = some (.int .i64 b)) (hdn : Nat.blt d₀ n = true) (kk : WD P n ops S Lt Q ord ((d₀, (.int .i64 (max a b))) :: e) w) : WO P n ops S Lt Q ⟨some d₀, .call { callee := .builtin .max, args := #[x, y], argTypes := ts }, ty, pos, af, gd⟩ i₀ 0 ord e w := ⟨fun hi₀ => WF_max hi₀ hg₀ hx hy hdn kk⟩
theorem WO_min {x y : Operand} {ts : Array TypeId} {a b : Int} (hg₀ : gdOk ops e gd) (hx : ev e x = some (.int .i64 a)) (hy : ev e y = some (.int .i64 b)) (hdn : Nat.blt d₀ n = true) (kk : WD P n ops S Lt Q ord ((d₀, (.int .i64 (min a b))) :: e) w) : WO P n ops S Lt Q ⟨some d₀, .call { callee := .builtin .min, args := #[x, y], argTypes := ts }, ty, pos, af, gd⟩ i₀ 0 ord e w := ⟨fun hi₀ => WF_min hi₀ hg₀ hx hy hdn kk⟩
theorem iso_idx {t : TypeId} {x : Operand} {y : Operand} {q : Nat} (h : WO P n ops S Lt Q ⟨some d₀, .indexAddr t x y, ty, pos, af, gd⟩ i₀ q ord e w) : WO P n ops S Lt Q ⟨some d₀, .indexAddr t x y, ty, pos, af, gd⟩ i₀ q ord e w := h
theorem iso_load {t : TypeId} {x : Operand} {q : Nat} (h : WO P n ops S Lt Q ⟨some d₀, .load t x, ty, pos, af, gd⟩ i₀ q ord e w) : WO P n ops S Lt Q ⟨some d₀, .load t x, ty, pos, af, gd⟩ i₀ q ord e w := h
theorem iso_len {t : TypeId} {x : Operand} {q : Nat} (h : WO P n ops S Lt Q ⟨some d₀, .call { callee := .builtin .len, args := #[x], argTypes := #[t] }, ty, pos, af, gd⟩ i₀ q ord e w) : WO P n ops S Lt Q ⟨some d₀, .call { callee := .builtin .len, args := #[x], argTypes := #[t] }, ty, pos, af, gd⟩ i₀ q ord e w := h
theorem iso_field {t : TypeId} {x : Operand} {m : Nat} {q : Nat} (h : WO P n ops S Lt Q ⟨some d₀, .fieldAddr t x m, ty, pos, af, gd⟩ i₀ q ord e w) : WO P n ops S Lt Q ⟨some d₀, .fieldAddr t x m, ty, pos, af, gd⟩ i₀ q ord e w := h
theorem is_bin {t : TypeId} {x : Operand} {y : Operand} {u : TypeId} {bo : BinOp} (h : WL P n ops Q (⟨some d₀, .binOp bo t x y u, ty, pos, af, none⟩ :: rest) e w) : WL P n ops Q (⟨some d₀, .binOp bo t x y u, ty, pos, af, none⟩ :: rest) e w := h
theorem iso_bin {t : TypeId} {x : Operand} {y : Operand} {u : TypeId} {bo : BinOp} {q : Nat} (h : WO P n ops S Lt Q ⟨some d₀, .binOp bo t x y u, ty, pos, af, gd⟩ i₀ q ord e w) : WO P n ops S Lt Q ⟨some d₀, .binOp bo t x y u, ty, pos, af, gd⟩ i₀ q ord e w := h
theorem is_un {t : TypeId} {x : Operand} {uo : UnOp} (h : WL P n ops Q (⟨some d₀, .unOp uo t x, ty, pos, af, none⟩ :: rest) e w) : WL P n ops Q (⟨some d₀, .unOp uo t x, ty, pos, af, none⟩ :: rest) e w := h
theorem iso_un {t : TypeId} {x : Operand} {uo : UnOp} {q : Nat} (h : WO P n ops S Lt Q ⟨some d₀, .unOp uo t x, ty, pos, af, gd⟩ i₀ q ord e w) : WO P n ops S Lt Q ⟨some d₀, .unOp uo t x, ty, pos, af, gd⟩ i₀ q ord e w := h
theorem is_pick {x : Operand} {y : Operand} {z : Operand} (h : WL P n ops Q (⟨some d₀, .pick x y z, ty, pos, af, none⟩ :: rest) e w) : WL P n ops Q (⟨some d₀, .pick x y z, ty, pos, af, none⟩ :: rest) e w := h
theorem iso_pick {x : Operand} {y : Operand} {z : Operand} {q : Nat} (h : WO P n ops S Lt Q ⟨some d₀, .pick x y z, ty, pos, af, gd⟩ i₀ q ord e w) : WO P n ops S Lt Q ⟨some d₀, .pick x y z, ty, pos, af, gd⟩ i₀ q ord e w := h
theorem is_mkf {ff : Fn} {fa ca : Array Operand} (h : WL P n ops Q (⟨some d₀, .makeFunc ff fa ca, ty, pos, af, none⟩ :: rest) e w) : WL P n ops Q (⟨some d₀, .makeFunc ff fa ca, ty, pos, af, none⟩ :: rest) e w := h
theorem iso_mkf {ff : Fn} {fa ca : Array Operand} {q : Nat} (h : WO P n ops S Lt Q ⟨some d₀, .makeFunc ff fa ca, ty, pos, af, gd⟩ i₀ q ord e w) : WO P n ops S Lt Q ⟨some d₀, .makeFunc ff fa ca, ty, pos, af, gd⟩ i₀ q ord e w := h
theorem isWL {l : List Oper} (h : WL P n ops Q l e w) : WL P n ops Q l e w := h
theorem isWC {c : Code} (h : WC P n c Q e w) : WC P n c Q e w := h
theorem isWQ {x : Exit} (h : WQ n Q x e w) : WQ n Q x e w := h
end

/-- the rest of the goal -/
structure Hold (R : Prop) : Prop where
  h : R
/-- the walk goes on as far as it can; what is left is the argument -/
theorem W {G R : Prop} (k : R) (h : Hold R → G := by
    intro r
    repeat' (first
      | (apply isWL; first
      | (apply WL_move; exact rfl; exact rfl)
      | (apply WL_assign; exact rfl; exact rfl)
      | apply WL_nil
      | (apply is_load; first | refine WL_load_blk rfl rfl (by assumption) (by rfl) rfl ?_ | refine WL_load_el rfl rfl (by assumption) (by first | assumption | omega) (by rfl) (by rfl) rfl ?_ | refine WL_load_blkA rfl rfl (by assumption) (by rfl) rfl ?_ | refine WL_load_elA rfl rfl (by assumption) (by assumption) (by rfl) rfl ?_)
      | (apply is_idx; first | refine WL_idx rfl (by assumption) rfl rfl (by assumption) rfl ?_ | refine WL_idx rfl (by assumption) rfl rfl (by omega) rfl ?_ | refine WL_idx rfl (by assumption) rfl (by assumption) (by first | assumption | omega) rfl ?_ | refine WL_idx (i := 0) rfl (by assumption) rfl rfl (by omega) rfl ?_ | refine WL_idx (i := 1) rfl (by assumption) rfl rfl (by omega) rfl ?_ | refine WL_idx (i := 2) rfl (by assumption) rfl rfl (by omega) rfl ?_ | refine WL_idxA (i := 0) rfl rfl rfl (by decide) rfl ?_ | refine WL_idxA (i := 1) rfl rfl rfl (by decide) rfl ?_ | refine WL_idxA (i := 2) rfl rfl rfl (by decide) rfl ?_ | refine WL_idxA rfl rfl rfl (by omega) rfl ?_)
      | (apply WL_fieldAddr; exact rfl; exact rfl)
      | (apply is_field; refine WL_field_el rfl (SlV.isSome (by assumption) (by assumption)) rfl ?_)
      | (apply is_len; first | refine WL_lenT rfl rfl ?_ | refine WL_lenS rfl (by assumption) rfl ?_ | refine WL_len rfl rfl ?_)
      | (apply WL_extract; exact rfl; exact rfl; exact rfl)
      | (apply WL_nilCheck; exact rfl; exact rfl)
      | (apply is_bin; first | (apply WL_eql; exact rfl; exact rfl; exact rfl) | (apply WL_lss; exact rfl; exact rfl; exact rfl) | (apply WL_neq; exact rfl; exact rfl; exact rfl) | (apply WL_eqlT; exact rfl; exact rfl; exact rfl) | (apply WL_neqT; exact rfl; exact rfl; exact rfl) | (apply WL_add; exact rfl; exact rfl; (unfold I64; omega); exact rfl) | (apply WL_sub; exact rfl; exact rfl; (unfold I64; omega); exact rfl) | (apply WL_leq; exact rfl; exact rfl; exact rfl) | (apply WL_gtr; exact rfl; exact rfl; exact rfl) | (apply WL_geq; exact rfl; exact rfl; exact rfl) | (apply WL_eqlB; exact rfl; exact rfl; exact rfl) | (apply WL_neqB; exact rfl; exact rfl; exact rfl) | (apply WL_mul; exact rfl; exact rfl; (unfold I64; omega); exact rfl) | (apply WL_quoP; exact rfl; exact rfl; omega; omega; (unfold I64; omega); exact rfl) | (apply WL_remP; exact rfl; exact rfl; omega; omega; (unfold I64; omega); exact rfl) | (apply WL_addT; exact rfl; exact rfl; omega; exact rfl))
      | (apply is_un; first | (apply WL_not_t; exact rfl; exact rfl) | (apply WL_not_f; exact rfl; exact rfl) | (apply WL_not_e; exact rfl; exact rfl) | (apply WL_not; exact rfl; exact rfl) | (apply WL_neg; exact rfl; (unfold I64; omega); exact rfl))
      | (apply is_pick; first | (apply WL_pick_t; exact rfl; exact rfl; exact rfl) | (apply WL_pick_f; exact rfl; exact rfl; exact rfl))
      | (apply WL_max; exact rfl; exact rfl; exact rfl)
      | (apply WL_min; exact rfl; exact rfl; exact rfl)
      | (apply WL_indexT; exact rfl; exact rfl; exact rfl; first | assumption | omega; exact rfl)
      | (apply is_mkf; first | (apply WL_makeFunc0; exact rfl) | (apply WL_makeFunc1; exact rfl; exact rfl) | (apply WL_makeFunc2; exact rfl; exact rfl; exact rfl) | (apply WL_makeFunc3; exact rfl; exact rfl; exact rfl; exact rfl))
      | (apply WL_go; exact rfl)
      | (apply WL_pass; exact rfl; exact rfl))
      | (apply isWC; first | apply WC_seq | apply WC_region | apply WC_block | apply WC_skip | apply WC_ret | apply WC_exit | (apply WC_cond_true; exact rfl) | (apply WC_cond_false; exact rfl))
      | (apply isWQ; first | apply WQ_then | apply WQ_then_ret | apply WQ_then_exit | apply WQ_block_here | (apply WQ_block_on; exact rfl) | apply WQ_block_ret | apply WQ_block))
    exact r.h) : G := h ⟨k⟩
/-- the same, by at least one step -/
theorem W1 {G R : Prop} (k : R) (h : Hold R → G := by
    intro r
    first
      | (apply isWL; first
      | (apply WL_move; exact rfl; exact rfl)
      | (apply WL_assign; exact rfl; exact rfl)
      | apply WL_nil
      | (apply is_load; first | refine WL_load_blk rfl rfl (by assumption) (by rfl) rfl ?_ | refine WL_load_el rfl rfl (by assumption) (by first | assumption | omega) (by rfl) (by rfl) rfl ?_ | refine WL_load_blkA rfl rfl (by assumption) (by rfl) rfl ?_ | refine WL_load_elA rfl rfl (by assumption) (by assumption) (by rfl) rfl ?_)
      | (apply is_idx; first | refine WL_idx rfl (by assumption) rfl rfl (by assumption) rfl ?_ | refine WL_idx rfl (by assumption) rfl rfl (by omega) rfl ?_ | refine WL_idx rfl (by assumption) rfl (by assumption) (by first | assumption | omega) rfl ?_ | refine WL_idx (i := 0) rfl (by assumption) rfl rfl (by omega) rfl ?_ | refine WL_idx (i := 1) rfl (by assumption) rfl rfl (by omega) rfl ?_ | refine WL_idx (i := 2) rfl (by assumption) rfl rfl (by omega) rfl ?_ | refine WL_idxA (i := 0) rfl rfl rfl (by decide) rfl ?_ | refine WL_idxA (i := 1) rfl rfl rfl (by decide) rfl ?_ | refine WL_idxA (i := 2) rfl rfl rfl (by decide) rfl ?_ | refine WL_idxA rfl rfl rfl (by omega) rfl ?_)
      | (apply WL_fieldAddr; exact rfl; exact rfl)
      | (apply is_field; refine WL_field_el rfl (SlV.isSome (by assumption) (by assumption)) rfl ?_)
      | (apply is_len; first | refine WL_lenT rfl rfl ?_ | refine WL_lenS rfl (by assumption) rfl ?_ | refine WL_len rfl rfl ?_)
      | (apply WL_extract; exact rfl; exact rfl; exact rfl)
      | (apply WL_nilCheck; exact rfl; exact rfl)
      | (apply is_bin; first | (apply WL_eql; exact rfl; exact rfl; exact rfl) | (apply WL_lss; exact rfl; exact rfl; exact rfl) | (apply WL_neq; exact rfl; exact rfl; exact rfl) | (apply WL_eqlT; exact rfl; exact rfl; exact rfl) | (apply WL_neqT; exact rfl; exact rfl; exact rfl) | (apply WL_add; exact rfl; exact rfl; (unfold I64; omega); exact rfl) | (apply WL_sub; exact rfl; exact rfl; (unfold I64; omega); exact rfl) | (apply WL_leq; exact rfl; exact rfl; exact rfl) | (apply WL_gtr; exact rfl; exact rfl; exact rfl) | (apply WL_geq; exact rfl; exact rfl; exact rfl) | (apply WL_eqlB; exact rfl; exact rfl; exact rfl) | (apply WL_neqB; exact rfl; exact rfl; exact rfl) | (apply WL_mul; exact rfl; exact rfl; (unfold I64; omega); exact rfl) | (apply WL_quoP; exact rfl; exact rfl; omega; omega; (unfold I64; omega); exact rfl) | (apply WL_remP; exact rfl; exact rfl; omega; omega; (unfold I64; omega); exact rfl) | (apply WL_addT; exact rfl; exact rfl; omega; exact rfl))
      | (apply is_un; first | (apply WL_not_t; exact rfl; exact rfl) | (apply WL_not_f; exact rfl; exact rfl) | (apply WL_not_e; exact rfl; exact rfl) | (apply WL_not; exact rfl; exact rfl) | (apply WL_neg; exact rfl; (unfold I64; omega); exact rfl))
      | (apply is_pick; first | (apply WL_pick_t; exact rfl; exact rfl; exact rfl) | (apply WL_pick_f; exact rfl; exact rfl; exact rfl))
      | (apply WL_max; exact rfl; exact rfl; exact rfl)
      | (apply WL_min; exact rfl; exact rfl; exact rfl)
      | (apply WL_indexT; exact rfl; exact rfl; exact rfl; first | assumption | omega; exact rfl)
      | (apply is_mkf; first | (apply WL_makeFunc0; exact rfl) | (apply WL_makeFunc1; exact rfl; exact rfl) | (apply WL_makeFunc2; exact rfl; exact rfl; exact rfl) | (apply WL_makeFunc3; exact rfl; exact rfl; exact rfl; exact rfl))
      | (apply WL_go; exact rfl)
      | (apply WL_pass; exact rfl; exact rfl))
      | (apply isWC; first | apply WC_seq | apply WC_region | apply WC_block | apply WC_skip | apply WC_ret | apply WC_exit | (apply WC_cond_true; exact rfl) | (apply WC_cond_false; exact rfl))
      | (apply isWQ; first | apply WQ_then | apply WQ_then_ret | apply WQ_then_exit | apply WQ_block_here | (apply WQ_block_on; exact rfl) | apply WQ_block_ret | apply WQ_block)
    repeat' (first
      | (apply isWL; first
      | (apply WL_move; exact rfl; exact rfl)
      | (apply WL_assign; exact rfl; exact rfl)
      | apply WL_nil
      | (apply is_load; first | refine WL_load_blk rfl rfl (by assumption) (by rfl) rfl ?_ | refine WL_load_el rfl rfl (by assumption) (by first | assumption | omega) (by rfl) (by rfl) rfl ?_ | refine WL_load_blkA rfl rfl (by assumption) (by rfl) rfl ?_ | refine WL_load_elA rfl rfl (by assumption) (by assumption) (by rfl) rfl ?_)
      | (apply is_idx; first | refine WL_idx rfl (by assumption) rfl rfl (by assumption) rfl ?_ | refine WL_idx rfl (by assumption) rfl rfl (by omega) rfl ?_ | refine WL_idx rfl (by assumption) rfl (by assumption) (by first | assumption | omega) rfl ?_ | refine WL_idx (i := 0) rfl (by assumption) rfl rfl (by omega) rfl ?_ | refine WL_idx (i := 1) rfl (by assumption) rfl rfl (by omega) rfl ?_ | refine WL_idx (i := 2) rfl (by assumption) rfl rfl (by omega) rfl ?_ | refine WL_idxA (i := 0) rfl rfl rfl (by decide) rfl ?_ | refine WL_idxA (i := 1) rfl rfl rfl (by decide) rfl ?_ | refine WL_idxA (i := 2) rfl rfl rfl (by decide) rfl ?_ | refine WL_idxA rfl rfl rfl (by omega) rfl ?_)
      | (apply WL_fieldAddr; exact rfl; exact rfl)
      | (apply is_field; refine WL_field_el rfl (SlV.isSome (by assumption) (by assumption)) rfl ?_)
      | (apply is_len; first | refine WL_lenT rfl rfl ?_ | refine WL_lenS rfl (by assumption) rfl ?_ | refine WL_len rfl rfl ?_)
      | (apply WL_extract; exact rfl; exact rfl; exact rfl)
      | (apply WL_nilCheck; exact rfl; exact rfl)
      | (apply is_bin; first | (apply WL_eql; exact rfl; exact rfl; exact rfl) | (apply WL_lss; exact rfl; exact rfl; exact rfl) | (apply WL_neq; exact rfl; exact rfl; exact rfl) | (apply WL_eqlT; exact rfl; exact rfl; exact rfl) | (apply WL_neqT; exact rfl; exact rfl; exact rfl) | (apply WL_add; exact rfl; exact rfl; (unfold I64; omega); exact rfl) | (apply WL_sub; exact rfl; exact rfl; (unfold I64; omega); exact rfl) | (apply WL_leq; exact rfl; exact rfl; exact rfl) | (apply WL_gtr; exact rfl; exact rfl; exact rfl) | (apply WL_geq; exact rfl; exact rfl; exact rfl) | (apply WL_eqlB; exact rfl; exact rfl; exact rfl) | (apply WL_neqB; exact rfl; exact rfl; exact rfl) | (apply WL_mul; exact rfl; exact rfl; (unfold I64; omega); exact rfl) | (apply WL_quoP; exact rfl; exact rfl; omega; omega; (unfold I64; omega); exact rfl) | (apply WL_remP; exact rfl; exact rfl; omega; omega; (unfold I64; omega); exact rfl) | (apply WL_addT; exact rfl; exact rfl; omega; exact rfl))
      | (apply is_un; first | (apply WL_not_t; exact rfl; exact rfl) | (apply WL_not_f; exact rfl; exact rfl) | (apply WL_not_e; exact rfl; exact rfl) | (apply WL_not; exact rfl; exact rfl) | (apply WL_neg; exact rfl; (unfold I64; omega); exact rfl))
      | (apply is_pick; first | (apply WL_pick_t; exact rfl; exact rfl; exact rfl) | (apply WL_pick_f; exact rfl; exact rfl; exact rfl))
      | (apply WL_max; exact rfl; exact rfl; exact rfl)
      | (apply WL_min; exact rfl; exact rfl; exact rfl)
      | (apply WL_indexT; exact rfl; exact rfl; exact rfl; first | assumption | omega; exact rfl)
      | (apply is_mkf; first | (apply WL_makeFunc0; exact rfl) | (apply WL_makeFunc1; exact rfl; exact rfl) | (apply WL_makeFunc2; exact rfl; exact rfl; exact rfl) | (apply WL_makeFunc3; exact rfl; exact rfl; exact rfl; exact rfl))
      | (apply WL_go; exact rfl)
      | (apply WL_pass; exact rfl; exact rfl))
      | (apply isWC; first | apply WC_seq | apply WC_region | apply WC_block | apply WC_skip | apply WC_ret | apply WC_exit | (apply WC_cond_true; exact rfl) | (apply WC_cond_false; exact rfl))
      | (apply isWQ; first | apply WQ_then | apply WQ_then_ret | apply WQ_then_exit | apply WQ_block_here | (apply WQ_block_on; exact rfl) | apply WQ_block_ret | apply WQ_block))
    exact r.h) : G := h ⟨k⟩
/-- in a drawn region -/
theorem D {G R : Prop} (k : R) (h : Hold R → G := by
    intro r
    repeat' (first | apply WD_nil | (apply WD_op; exact rfl; first
      | (apply WO_pass0; exact rfl; exact rfl)
      | (apply WO_pass1; exact rfl; exact rfl)
      | (apply WO_pass2; exact rfl; exact rfl)
      | (apply WO_move; (first | exact trivial | exact rfl); exact rfl; exact rfl)
      | (apply WO_assign; (first | exact trivial | exact rfl); exact rfl; exact rfl)
      | (apply iso_load; first | refine WO_rload_blk (by first | exact trivial | exact rfl) rfl rfl (by assumption) (by first | assumption | (simp; done) | (simp; omega)) (by rfl) rfl ?_ | refine WO_rload_el (by first | exact trivial | exact rfl) rfl rfl (by assumption) (by first | exact fun _ h => h | (simp; done)) (by first | assumption | omega) (by rfl) (by rfl) rfl ?_ | refine WO_rload_blkA (by first | exact trivial | exact rfl) rfl rfl (by assumption) (by first | assumption | (simp; done) | (simp; omega)) (by rfl) rfl ?_ | refine WO_rload_elA (by first | exact trivial | exact rfl) rfl rfl (by assumption) (by first | exact fun _ h => h | (simp; done)) (by assumption) (by rfl) rfl ?_)
      | (apply iso_idx; first | refine WO_idx (by first | exact trivial | exact rfl) rfl (by assumption) rfl rfl (by assumption) rfl ?_ | refine WO_idx (by first | exact trivial | exact rfl) rfl (by assumption) rfl rfl (by omega) rfl ?_ | refine WO_idx (by first | exact trivial | exact rfl) rfl (by assumption) rfl (by assumption) (by first | assumption | omega) rfl ?_ | refine WO_idx (i := 0) (by first | exact trivial | exact rfl) rfl (by assumption) rfl rfl (by omega) rfl ?_ | refine WO_idx (i := 1) (by first | exact trivial | exact rfl) rfl (by assumption) rfl rfl (by omega) rfl ?_ | refine WO_idx (i := 2) (by first | exact trivial | exact rfl) rfl (by assumption) rfl rfl (by omega) rfl ?_ | refine WO_idxA (i := 0) (by first | exact trivial | exact rfl) rfl rfl rfl (by decide) rfl ?_ | refine WO_idxA (i := 1) (by first | exact trivial | exact rfl) rfl rfl rfl (by decide) rfl ?_ | refine WO_idxA (i := 2) (by first | exact trivial | exact rfl) rfl rfl rfl (by decide) rfl ?_ | refine WO_idxA (by first | exact trivial | exact rfl) rfl rfl rfl (by omega) rfl ?_)
      | (apply WO_fieldAddr; (first | exact trivial | exact rfl); exact rfl; exact rfl)
      | (apply iso_field; refine WO_field_el (by first | exact trivial | exact rfl) rfl (SlV.isSome (by assumption) (by assumption)) rfl ?_)
      | (apply iso_len; first | refine WO_lenT (by first | exact trivial | exact rfl) rfl rfl ?_ | refine WO_lenS (by first | exact trivial | exact rfl) rfl (by assumption) rfl ?_ | refine WO_len (by first | exact trivial | exact rfl) rfl rfl ?_)
      | (apply WO_extract; (first | exact trivial | exact rfl); exact rfl; exact rfl; exact rfl)
      | (apply WO_nilCheck; (first | exact trivial | exact rfl); exact rfl; exact rfl)
      | (apply iso_bin; first | (apply WO_eql; (first | exact trivial | exact rfl); exact rfl; exact rfl; exact rfl) | (apply WO_lss; (first | exact trivial | exact rfl); exact rfl; exact rfl; exact rfl) | (apply WO_neq; (first | exact trivial | exact rfl); exact rfl; exact rfl; exact rfl) | (apply WO_eqlT; (first | exact trivial | exact rfl); exact rfl; exact rfl; exact rfl) | (apply WO_neqT; (first | exact trivial | exact rfl); exact rfl; exact rfl; exact rfl) | (apply WO_add; (first | exact trivial | exact rfl); exact rfl; exact rfl; (unfold I64; omega); exact rfl) | (apply WO_sub; (first | exact trivial | exact rfl); exact rfl; exact rfl; (unfold I64; omega); exact rfl) | (apply WO_leq; (first | exact trivial | exact rfl); exact rfl; exact rfl; exact rfl) | (apply WO_gtr; (first | exact trivial | exact rfl); exact rfl; exact rfl; exact rfl) | (apply WO_geq; (first | exact trivial | exact rfl); exact rfl; exact rfl; exact rfl) | (apply WO_eqlB; (first | exact trivial | exact rfl); exact rfl; exact rfl; exact rfl) | (apply WO_neqB; (first | exact trivial | exact rfl); exact rfl; exact rfl; exact rfl) | (apply WO_mul; (first | exact trivial | exact rfl); exact rfl; exact rfl; (unfold I64; omega); exact rfl) | (apply WO_quoP; (first | exact trivial | exact rfl); exact rfl; exact rfl; omega; omega; (unfold I64; omega); exact rfl) | (apply WO_remP; (first | exact trivial | exact rfl); exact rfl; exact rfl; omega; omega; (unfold I64; omega); exact rfl) | (apply WO_addT; (first | exact trivial | exact rfl); exact rfl; exact rfl; omega; exact rfl))
      | (apply iso_un; first | (apply WO_not_t; (first | exact trivial | exact rfl); exact rfl; exact rfl) | (apply WO_not_f; (first | exact trivial | exact rfl); exact rfl; exact rfl) | (apply WO_not_e; (first | exact trivial | exact rfl); exact rfl; exact rfl) | (apply WO_not; (first | exact trivial | exact rfl); exact rfl; exact rfl) | (apply WO_neg; (first | exact trivial | exact rfl); exact rfl; (unfold I64; omega); exact rfl))
      | (apply iso_pick; first | (apply WO_pick_t; (first | exact trivial | exact rfl); exact rfl; exact rfl; exact rfl) | (apply WO_pick_f; (first | exact trivial | exact rfl); exact rfl; exact rfl; exact rfl))
      | (apply WO_max; (first | exact trivial | exact rfl); exact rfl; exact rfl; exact rfl)
      | (apply WO_min; (first | exact trivial | exact rfl); exact rfl; exact rfl; exact rfl)
      | (apply WO_indexT; (first | exact trivial | exact rfl); exact rfl; exact rfl; exact rfl; first | assumption | omega; exact rfl)
      | (apply iso_mkf; first | (apply WO_makeFunc0; (first | exact trivial | exact rfl); exact rfl) | (apply WO_makeFunc1; (first | exact trivial | exact rfl); exact rfl; exact rfl) | (apply WO_makeFunc2; (first | exact trivial | exact rfl); exact rfl; exact rfl; exact rfl) | (apply WO_makeFunc3; (first | exact trivial | exact rfl); exact rfl; exact rfl; exact rfl; exact rfl))))
    exact r.h) : G := h ⟨k⟩
theorem D1 {G R : Prop} (k : R) (h : Hold R → G := by
    intro r
    first | apply WD_nil | (apply WD_op; exact rfl; first
      | (apply WO_pass0; exact rfl; exact rfl)
      | (apply WO_pass1; exact rfl; exact rfl)
      | (apply WO_pass2; exact rfl; exact rfl)
      | (apply WO_move; (first | exact trivial | exact rfl); exact rfl; exact rfl)
      | (apply WO_assign; (first | exact trivial | exact rfl); exact rfl; exact rfl)
      | (apply iso_load; first | refine WO_rload_blk (by first | exact trivial | exact rfl) rfl rfl (by assumption) (by first | assumption | (simp; done) | (simp; omega)) (by rfl) rfl ?_ | refine WO_rload_el (by first | exact trivial | exact rfl) rfl rfl (by assumption) (by first | exact fun _ h => h | (simp; done)) (by first | assumption | omega) (by rfl) (by rfl) rfl ?_ | refine WO_rload_blkA (by first | exact trivial | exact rfl) rfl rfl (by assumption) (by first | assumption | (simp; done) | (simp; omega)) (by rfl) rfl ?_ | refine WO_rload_elA (by first | exact trivial | exact rfl) rfl rfl (by assumption) (by first | exact fun _ h => h | (simp; done)) (by assumption) (by rfl) rfl ?_)
      | (apply iso_idx; first | refine WO_idx (by first | exact trivial | exact rfl) rfl (by assumption) rfl rfl (by assumption) rfl ?_ | refine WO_idx (by first | exact trivial | exact rfl) rfl (by assumption) rfl rfl (by omega) rfl ?_ | refine WO_idx (by first | exact trivial | exact rfl) rfl (by assumption) rfl (by assumption) (by first | assumption | omega) rfl ?_ | refine WO_idx (i := 0) (by first | exact trivial | exact rfl) rfl (by assumption) rfl rfl (by omega) rfl ?_ | refine WO_idx (i := 1) (by first | exact trivial | exact rfl) rfl (by assumption) rfl rfl (by omega) rfl ?_ | refine WO_idx (i := 2) (by first | exact trivial | exact rfl) rfl (by assumption) rfl rfl (by omega) rfl ?_ | refine WO_idxA (i := 0) (by first | exact trivial | exact rfl) rfl rfl rfl (by decide) rfl ?_ | refine WO_idxA (i := 1) (by first | exact trivial | exact rfl) rfl rfl rfl (by decide) rfl ?_ | refine WO_idxA (i := 2) (by first | exact trivial | exact rfl) rfl rfl rfl (by decide) rfl ?_ | refine WO_idxA (by first | exact trivial | exact rfl) rfl rfl rfl (by omega) rfl ?_)
      | (apply WO_fieldAddr; (first | exact trivial | exact rfl); exact rfl; exact rfl)
      | (apply iso_field; refine WO_field_el (by first | exact trivial | exact rfl) rfl (SlV.isSome (by assumption) (by assumption)) rfl ?_)
      | (apply iso_len; first | refine WO_lenT (by first | exact trivial | exact rfl) rfl rfl ?_ | refine WO_lenS (by first | exact trivial | exact rfl) rfl (by assumption) rfl ?_ | refine WO_len (by first | exact trivial | exact rfl) rfl rfl ?_)
      | (apply WO_extract; (first | exact trivial | exact rfl); exact rfl; exact rfl; exact rfl)
      | (apply WO_nilCheck; (first | exact trivial | exact rfl); exact rfl; exact rfl)
      | (apply iso_bin; first | (apply WO_eql; (first | exact trivial | exact rfl); exact rfl; exact rfl; exact rfl) | (apply WO_lss; (first | exact trivial | exact rfl); exact rfl; exact rfl; exact rfl) | (apply WO_neq; (first | exact trivial | exact rfl); exact rfl; exact rfl; exact rfl) | (apply WO_eqlT; (first | exact trivial | exact rfl); exact rfl; exact rfl; exact rfl) | (apply WO_neqT; (first | exact trivial | exact rfl); exact rfl; exact rfl; exact rfl) | (apply WO_add; (first | exact trivial | exact rfl); exact rfl; exact rfl; (unfold I64; omega); exact rfl) | (apply WO_sub; (first | exact trivial | exact rfl); exact rfl; exact rfl; (unfold I64; omega); exact rfl) | (apply WO_leq; (first | exact trivial | exact rfl); exact rfl; exact rfl; exact rfl) | (apply WO_gtr; (first | exact trivial | exact rfl); exact rfl; exact rfl; exact rfl) | (apply WO_geq; (first | exact trivial | exact rfl); exact rfl; exact rfl; exact rfl) | (apply WO_eqlB; (first | exact trivial | exact rfl); exact rfl; exact rfl; exact rfl) | (apply WO_neqB; (first | exact trivial | exact rfl); exact rfl; exact rfl; exact rfl) | (apply WO_mul; (first | exact trivial | exact rfl); exact rfl; exact rfl; (unfold I64; omega); exact rfl) | (apply WO_quoP; (first | exact trivial | exact rfl); exact rfl; exact rfl; omega; omega; (unfold I64; omega); exact rfl) | (apply WO_remP; (first | exact trivial | exact rfl); exact rfl; exact rfl; omega; omega; (unfold I64; omega); exact rfl) | (apply WO_addT; (first | exact trivial | exact rfl); exact rfl; exact rfl; omega; exact rfl))
      | (apply iso_un; first | (apply WO_not_t; (first | exact trivial | exact rfl); exact rfl; exact rfl) | (apply WO_not_f; (first | exact trivial | exact rfl); exact rfl; exact rfl) | (apply WO_not_e; (first | exact trivial | exact rfl); exact rfl; exact rfl) | (apply WO_not; (first | exact trivial | exact rfl); exact rfl; exact rfl) | (apply WO_neg; (first | exact trivial | exact rfl); exact rfl; (unfold I64; omega); exact rfl))
      | (apply iso_pick; first | (apply WO_pick_t; (first | exact trivial | exact rfl); exact rfl; exact rfl; exact rfl) | (apply WO_pick_f; (first | exact trivial | exact rfl); exact rfl; exact rfl; exact rfl))
      | (apply WO_max; (first | exact trivial | exact rfl); exact rfl; exact rfl; exact rfl)
      | (apply WO_min; (first | exact trivial | exact rfl); exact rfl; exact rfl; exact rfl)
      | (apply WO_indexT; (first | exact trivial | exact rfl); exact rfl; exact rfl; exact rfl; first | assumption | omega; exact rfl)
      | (apply iso_mkf; first | (apply WO_makeFunc0; (first | exact trivial | exact rfl); exact rfl) | (apply WO_makeFunc1; (first | exact trivial | exact rfl); exact rfl; exact rfl) | (apply WO_makeFunc2; (first | exact trivial | exact rfl); exact rfl; exact rfl; exact rfl) | (apply WO_makeFunc3; (first | exact trivial | exact rfl); exact rfl; exact rfl; exact rfl; exact rfl)))
    repeat' (first | apply WD_nil | (apply WD_op; exact rfl; first
      | (apply WO_pass0; exact rfl; exact rfl)
      | (apply WO_pass1; exact rfl; exact rfl)
      | (apply WO_pass2; exact rfl; exact rfl)
      | (apply WO_move; (first | exact trivial | exact rfl); exact rfl; exact rfl)
      | (apply WO_assign; (first | exact trivial | exact rfl); exact rfl; exact rfl)
      | (apply iso_load; first | refine WO_rload_blk (by first | exact trivial | exact rfl) rfl rfl (by assumption) (by first | assumption | (simp; done) | (simp; omega)) (by rfl) rfl ?_ | refine WO_rload_el (by first | exact trivial | exact rfl) rfl rfl (by assumption) (by first | exact fun _ h => h | (simp; done)) (by first | assumption | omega) (by rfl) (by rfl) rfl ?_ | refine WO_rload_blkA (by first | exact trivial | exact rfl) rfl rfl (by assumption) (by first | assumption | (simp; done) | (simp; omega)) (by rfl) rfl ?_ | refine WO_rload_elA (by first | exact trivial | exact rfl) rfl rfl (by assumption) (by first | exact fun _ h => h | (simp; done)) (by assumption) (by rfl) rfl ?_)
      | (apply iso_idx; first | refine WO_idx (by first | exact trivial | exact rfl) rfl (by assumption) rfl rfl (by assumption) rfl ?_ | refine WO_idx (by first | exact trivial | exact rfl) rfl (by assumption) rfl rfl (by omega) rfl ?_ | refine WO_idx (by first | exact trivial | exact rfl) rfl (by assumption) rfl (by assumption) (by first | assumption | omega) rfl ?_ | refine WO_idx (i := 0) (by first | exact trivial | exact rfl) rfl (by assumption) rfl rfl (by omega) rfl ?_ | refine WO_idx (i := 1) (by first | exact trivial | exact rfl) rfl (by assumption) rfl rfl (by omega) rfl ?_ | refine WO_idx (i := 2) (by first | exact trivial | exact rfl) rfl (by assumption) rfl rfl (by omega) rfl ?_ | refine WO_idxA (i := 0) (by first | exact trivial | exact rfl) rfl rfl rfl (by decide) rfl ?_ | refine WO_idxA (i := 1) (by first | exact trivial | exact rfl) rfl rfl rfl (by decide) rfl ?_ | refine WO_idxA (i := 2) (by first | exact trivial | exact rfl) rfl rfl rfl (by decide) rfl ?_ | refine WO_idxA (by first | exact trivial | exact rfl) rfl rfl rfl (by omega) rfl ?_)
      | (apply WO_fieldAddr; (first | exact trivial | exact rfl); exact rfl; exact rfl)
      | (apply iso_field; refine WO_field_el (by first | exact trivial | exact rfl) rfl (SlV.isSome (by assumption) (by assumption)) rfl ?_)
      | (apply iso_len; first | refine WO_lenT (by first | exact trivial | exact rfl) rfl rfl ?_ | refine WO_lenS (by first | exact trivial | exact rfl) rfl (by assumption) rfl ?_ | refine WO_len (by first | exact trivial | exact rfl) rfl rfl ?_)
      | (apply WO_extract; (first | exact trivial | exact rfl); exact rfl; exact rfl; exact rfl)
      | (apply WO_nilCheck; (first | exact trivial | exact rfl); exact rfl; exact rfl)
      | (apply iso_bin; first | (apply WO_eql; (first | exact trivial | exact rfl); exact rfl; exact rfl; exact rfl) | (apply WO_lss; (first | exact trivial | exact rfl); exact rfl; exact rfl; exact rfl) | (apply WO_neq; (first | exact trivial | exact rfl); exact rfl; exact rfl; exact rfl) | (apply WO_eqlT; (first | exact trivial | exact rfl); exact rfl; exact rfl; exact rfl) | (apply WO_neqT; (first | exact trivial | exact rfl); exact rfl; exact rfl; exact rfl) | (apply WO_add; (first | exact trivial | exact rfl); exact rfl; exact rfl; (unfold I64; omega); exact rfl) | (apply WO_sub; (first | exact trivial | exact rfl); exact rfl; exact rfl; (unfold I64; omega); exact rfl) | (apply WO_leq; (first | exact trivial | exact rfl); exact rfl; exact rfl; exact rfl) | (apply WO_gtr; (first | exact trivial | exact rfl); exact rfl; exact rfl; exact rfl) | (apply WO_geq; (first | exact trivial | exact rfl); exact rfl; exact rfl; exact rfl) | (apply WO_eqlB; (first | exact trivial | exact rfl); exact rfl; exact rfl; exact rfl) | (apply WO_neqB; (first | exact trivial | exact rfl); exact rfl; exact rfl; exact rfl) | (apply WO_mul; (first | exact trivial | exact rfl); exact rfl; exact rfl; (unfold I64; omega); exact rfl) | (apply WO_quoP; (first | exact trivial | exact rfl); exact rfl; exact rfl; omega; omega; (unfold I64; omega); exact rfl) | (apply WO_remP; (first | exact trivial | exact rfl); exact rfl; exact rfl; omega; omega; (unfold I64; omega); exact rfl) | (apply WO_addT; (first | exact trivial | exact rfl); exact rfl; exact rfl; omega; exact rfl))
      | (apply iso_un; first | (apply WO_not_t; (first | exact trivial | exact rfl); exact rfl; exact rfl) | (apply WO_not_f; (first | exact trivial | exact rfl); exact rfl; exact rfl) | (apply WO_not_e; (first | exact trivial | exact rfl); exact rfl; exact rfl) | (apply WO_not; (first | exact trivial | exact rfl); exact rfl; exact rfl) | (apply WO_neg; (first | exact trivial | exact rfl); exact rfl; (unfold I64; omega); exact rfl))
      | (apply iso_pick; first | (apply WO_pick_t; (first | exact trivial | exact rfl); exact rfl; exact rfl; exact rfl) | (apply WO_pick_f; (first | exact trivial | exact rfl); exact rfl; exact rfl; exact rfl))
      | (apply WO_max; (first | exact trivial | exact rfl); exact rfl; exact rfl; exact rfl)
      | (apply WO_min; (first | exact trivial | exact rfl); exact rfl; exact rfl; exact rfl)
      | (apply WO_indexT; (first | exact trivial | exact rfl); exact rfl; exact rfl; exact rfl; first | assumption | omega; exact rfl)
      | (apply iso_mkf; first | (apply WO_makeFunc0; (first | exact trivial | exact rfl); exact rfl) | (apply WO_makeFunc1; (first | exact trivial | exact rfl); exact rfl; exact rfl) | (apply WO_makeFunc2; (first | exact trivial | exact rfl); exact rfl; exact rfl; exact rfl) | (apply WO_makeFunc3; (first | exact trivial | exact rfl); exact rfl; exact rfl; exact rfl; exact rfl))))
    exact r.h) : G := h ⟨k⟩
end Go.Eng
/-
Expressions as trees, and how they lie in memory.
-/
namespace Go.Eng
open Go Go.RowKit Go.Proofs
set_option linter.unusedVariables false

inductive Nd where
  | mk (kind n : Int) (s : Str) (kids : List Nd)
namespace Nd
def kind : Nd → Int | mk k _ _ _ => k
def num : Nd → Int | mk _ n _ _ => n
def word : Nd → Str | mk _ _ s _ => s
def kids : Nd → List Nd | mk _ _ _ l => l
theorem eta (x : Nd) : x = mk x.kind x.num x.word x.kids := by cases x; rfl
theorem ind {P : Nd → Prop} (h : ∀ k n s l, (∀ x ∈ l, P x) → P (mk k n s l)) : ∀ x, P x
  | mk k n s l => h k n s l (fun x hx => ind h x)
  decreasing_by
    have := List.sizeOf_lt_of_mem hx
    simp only [mk.sizeOf_spec]
    omega
end Nd

/-- a tree in memory: the cells of its node -/
inductive NRep (X : List Nat) (w : World) : Nd → List Value → Prop
  | mk (k n : Int) (s : Str) (l : List Nd) (p : Option Addr) (c : Nat) (b o : Nat) (css : Nat → List Value) (hl : l.length ≤ c) (hm : c ≤ maxLen) (hn : p = none → c = 0)
      (hp : 0 < l.length → p = some ⟨b, o, none⟩ ∧ b < w.heap.size ∧ b ∉ X) (hr : ∀ i (h : i < l.length), NRep X w l[i] (css i))
      (hc : ∀ i, i < l.length → ∀ j u, (css i)[j]? = some u → w.cell? ⟨b, o + i * 4 + j, none⟩ = some u) :
      NRep X w (.mk k n s l) [.int .i64 k, .int .i64 n, str s, .slice p l.length c]

theorem NRep.ext {X S X' : List Nat} {w w' : World} {x : Nd} {cs : List Value} (h : NRep X w x cs) (hS : Stp S w w') (h1 : ∀ b ∈ S, b ∈ X) (h2 : ∀ b ∈ X', b ∈ X ∨ w.heap.size ≤ b) : NRep X' w' x cs := by
  induction h with
  | mk k n s l p c b o css hl hm hn hp hr hc ih =>
    refine .mk k n s l p c b o css hl hm hn (fun h0 => ?_) ih (fun i hi j u hu => ?_)
    · obtain ⟨e1, e2, e3⟩ := hp h0
      refine ⟨e1, Nat.lt_of_lt_of_le e2 hS.size, fun hb => ?_⟩
      rcases h2 b hb with h | h
      · exact e3 h
      · omega
    · obtain ⟨_, _, e3⟩ := hp (by omega)
      exact hS.cell (fun hb => e3 (h1 b hb)) (hc i hi j u hu)
instance : GoRep Nd where
  k := 4
  rep := NRep
  len := by intro X w x cs h; cases h; rfl
  one := by
    intro X w x cs h u hu
    cases h
    simp at hu
    rcases hu with rfl | rfl | rfl | rfl <;> rfl
  ext := NRep.ext

/-- the value of a node -/
def NdV (X : List Nat) (w : World) (v : Value) (x : Nd) : Prop := ∃ kv, v = .agg #[.int .i64 x.kind, .int .i64 x.num, str x.word, kv] ∧ SlV X w kv x.kids

theorem nrep_slv {X : List Nat} {w : World} {x : Nd} {cs : List Value} (h : NRep X w x cs) : ∃ kv, cs = [.int .i64 x.kind, .int .i64 x.num, str x.word, kv] ∧ SlV X w kv x.kids := by
  cases h with
  | mk k n s l p c b o css hl hm hn hp hr hc =>
    refine ⟨_, rfl, p, c, rfl, hl, hm, hn, fun i hi => ?_⟩
    obtain ⟨e1, e2, e3⟩ := hp (by show 0 < l.length; have : i < l.length := hi; omega)
    exact ⟨b, o, css i, e1, e2, e3, hr i hi, hc i hi⟩
theorem slv_nrep {X : List Nat} {w : World} {k n : Int} {s : Str} {l : List Nd} {kv : Value} (h : SlV X w kv l) : NRep X w (.mk k n s l) [.int .i64 k, .int .i64 n, str s, kv] := by
  obtain ⟨p, c, rfl, hl, hm, hn, hc⟩ := h
  have hall : ∀ i : Fin l.length, ∃ cs : List Value, ∃ b o, p = some ⟨b, o, none⟩ ∧ b < w.heap.size ∧ b ∉ X ∧ NRep X w l[i] cs ∧ ∀ j u, cs[j]? = some u → w.cell? ⟨b, o + i * 4 + j, none⟩ = some u := by
    intro i
    obtain ⟨b, o, cs, h1, h2, h3, h4, h5⟩ := hc i i.2
    exact ⟨cs, b, o, h1, h2, h3, h4, h5⟩
  obtain ⟨f, hf⟩ := Classical.axiomOfChoice hall
  by_cases h0 : 0 < l.length
  · obtain ⟨b, o, e1, e2, e3, _⟩ := hf ⟨0, h0⟩
    refine .mk k n s l p c b o (fun i => if h : i < l.length then f ⟨i, h⟩ else []) hl hm hn (fun _ => ⟨e1, e2, e3⟩) (fun i hi => ?_) (fun i hi j u hu => ?_)
    · obtain ⟨_, _, _, _, _, g, _⟩ := hf ⟨i, hi⟩
      simpa [hi] using g
    · obtain ⟨b', o', g1, _, _, _, g⟩ := hf ⟨i, hi⟩
      rw [e1] at g1
      simp only [Option.some.injEq, Addr.mk.injEq] at g1
      obtain ⟨rfl, rfl, _⟩ := g1
      exact g j u (by simpa [hi] using hu)
  · exact .mk k n s l p c 0 0 (fun _ => []) hl hm hn (fun h => absurd h h0) (fun i hi => by omega) (fun i hi => by omega)
theorem NdV.rep {X : List Nat} {w : World} {v : Value} {x : Nd} (h : NdV X w v x) : ∃ cs : List Value, v = .agg cs.toArray ∧ cs.length = 4 ∧ NRep X w x cs := by
  obtain ⟨kv, rfl, hs⟩ := h
  exact ⟨_, rfl, rfl, by rw [x.eta]; exact slv_nrep hs⟩
theorem NdV.up {X : List Nat} {w w' : World} {v : Value} {x : Nd} (h : NdV X w v x) (hS : Stp [] w w') : NdV X w' v x := by
  obtain ⟨kv, rfl, hs⟩ := h
  exact ⟨kv, rfl, hs.up hS⟩
theorem NdV.ext {X S X' : List Nat} {w w' : World} {v : Value} {x : Nd} (h : NdV X w v x) (hS : Stp S w w') (h1 : ∀ b ∈ S, b ∈ X) (h2 : ∀ b ∈ X', b ∈ X ∨ w.heap.size ≤ b) : NdV X' w' v x := by
  obtain ⟨kv, rfl, hs⟩ := h
  exact ⟨kv, rfl, hs.ext hS h1 h2⟩
/-- an element of a slice of nodes, loaded -/
theorem SlV.nd {X : List Nat} {w : World} {v : Value} {l : List Nd} {i : Nat} (h : SlV X w v l) (hi : i < l.length) : ∃ kv, SlV X w kv l[i].kids ∧ ∀ j u, [Value.int .i64 l[i].kind, .int .i64 l[i].num, str l[i].word, kv][j]? = some u → w.cell? (elAddr v i 4 j) = some u := by
  obtain ⟨cs, hr, hc⟩ := h.cell hi
  obtain ⟨kv, rfl, hs⟩ := nrep_slv hr
  exact ⟨kv, hs, hc⟩
section
variable {P : Program} {n : Nat} {e : Env} {w : World} {d : Option Nat} {ty : TypeId} {pos : String} {af : Array Edge} {g : Option (Nat × Bool)}
theorem elAddr_eq {X : List Nat} {α : Type} [GoRep α] {v : Value} {l : List α} {i k j : Nat} (hs : SlV X w v l) (hi : i < l.length) : ∃ b o, elAddr v i k j = ⟨b, o + j, none⟩ := by
  obtain ⟨p, l, c, rfl⟩ := hs.isSome hi
  exact ⟨p.block, p.off + i * k, rfl⟩
theorem PR_loadNd {X : List Nat} {v : Value} {l : List Nd} {i : Nat} {kv : Value} {x : Operand} {t : TypeId} {D : TypeDesc} [hu : Und P t D] (hA : aggB D = true) [hsz : Siz P t 4] (hx : ev e x = some (.pointer (some (elAddr v i 4 0)))) (hs : SlV X w v l) (hi : i < l.length)
    (hc : ∀ j u, [Value.int .i64 l[i].kind, .int .i64 l[i].num, str l[i].word, kv][j]? = some u → w.cell? (elAddr v i 4 j) = some u) :
    PR P n ⟨d, .load t x, ty, pos, af, g⟩ e w (.agg #[.int .i64 l[i].kind, .int .i64 l[i].num, str l[i].word, kv]) := by
  obtain ⟨p, l', c, rfl⟩ := hs.isSome hi
  refine PR_loadN (cs := [.int .i64 l[i].kind, .int .i64 l[i].num, str l[i].word, kv]) hA hx rfl (fun j u hu => ?_)
  have := hc j u hu
  simpa [elAddr] using this
end
end Go.Eng

namespace Go.Proofs.YtgpibcgebpgmiaaDoor
open Go Go.Eng Go.RowKit
set_option linter.unusedVariables false

/-- the cells of a node -/
abbrev ndC (x : Nd) (kv : Value) : List Value := [.int .i64 x.kind, .int .i64 x.num, str x.word, kv]
theorem ndC_one {X : List Nat} {w : World} {x : Nd} {kv : Value} {l : List Nd} (h : SlV X w kv l) : ∀ c ∈ ndC x kv, c.oneCell' = true := by
  intro c hc
  simp only [ndC, List.mem_cons, List.not_mem_nil, or_false] at hc
  rcases hc with rfl | rfl | rfl | rfl
  · rfl
  · rfl
  · rfl
  · exact h.one

def nestedN : Nat → Nd → Bool
  | 0, _ => false
  | m + 1, x => x.kids.all (nestedN m)
theorem all_take_succ {α : Type} (p : α → Bool) (l : List α) (k : Nat) (hk : k < l.length) : (l.take (k + 1)).all p = ((l.take k).all p && p l[k]) := by
  rw [List.take_succ_eq_append_getElem hk, List.all_append]
  simp
theorem nested_any (m : Nat) : ∀ (X : List Nat) (v : Value) (x : Nd) (z : Int) (w : World), z = (m : Int) → m ≤ 1000 → NdV X w v x →
    Calls Tryd.prog 32 #[v, .int .i64 z] w (Ret fun r w' => r = .bool (nestedN m x) ∧ Stp [] w w') := by
  induction m with
  | zero =>
    intro X v x z w hz hm hx
    obtain ⟨kv, rfl, hs⟩ := hx
    refine calls_of_WC2 (n := 22) Tryd.func32 rfl rfl rfl ?_
    refine W ?_
    refine WL_eff (OE_box rfl) rfl ?_
    rintro _ w1 ⟨b, rfl, hb, hblk, hS⟩
    repeat' (first | refine W1 ?_ | (exfalso; omega) | refine WL_split rfl rfl (fun hg => ?_) (fun hg => ?_) | refine WL_splitB rfl rfl (fun hg => ?_) (fun hg => ?_) | refine WC_cond rfl (fun hc => ?_) (fun hc => ?_) | refine WC_condB rfl (fun hc => ?_) (fun hc => ?_))
    first | refine WQ_ret1 rfl rfl ?_ | refine WQ_ret2 rfl rfl rfl ?_ | refine WQ_ret3 rfl rfl rfl rfl ?_ | refine WQ_ret0 rfl ?_ | refine WQ_end0 rfl ?_
    exact .mk ⟨rfl, hS⟩
  | succ m ih =>
    intro X v x z w hz hm hx
    obtain ⟨kv, rfl, hs⟩ := hx
    have hmax := hs.max
    refine calls_of_WC2 (n := 22) Tryd.func32 rfl rfl rfl ?_
    refine W ?_
    refine WL_eff (OE_box rfl) rfl ?_
    rintro _ w1 ⟨b, rfl, hb, hblk, hS⟩
    replace hblk : Blk w1 b _ (ndC x kv) := hblk
    replace hs := hs.up hS
    repeat' (first | refine W1 ?_ | (exfalso; omega) | refine WL_split rfl rfl (fun hg => ?_) (fun hg => ?_) | refine WL_splitB rfl rfl (fun hg => ?_) (fun hg => ?_) | refine WC_cond rfl (fun hc => ?_) (fun hc => ?_) | refine WC_condB rfl (fun hc => ?_) (fun hc => ?_))
    have hs0 := hs
    refine WC_loop (σ := Nat) (fun k => [(1, .int .i64 z), (10, kv), (11, .int .i64 (x.kids.length : Int)), (12, .int .i64 k)]) (fun k w' => k ≤ x.kids.length ∧ Stp [] w1 w' ∧ (x.kids.take k).all (nestedN m) = true) (fun k => x.kids.length - k) 0 ⟨rfl, rfl, rfl, rfl, trivial⟩ ⟨Nat.zero_le _, Stp.refl _ _, rfl⟩ ?_
    clear hs
    rintro k w2 ⟨hk, hS2, hall⟩
    have hs := hs0.up hS2
    by_cases hlt : k < x.kids.length
    · have hnx := all_take_succ (nestedN m) x.kids k hlt
      rw [hall, Bool.true_and] at hnx
      obtain ⟨kv2, hs2, hc2⟩ := hs.nd hlt
      repeat' (first | refine W1 ?_ | (exfalso; omega) | refine WL_split rfl rfl (fun hg => ?_) (fun hg => ?_) | refine WL_splitB rfl rfl (fun hg => ?_) (fun hg => ?_) | refine WC_cond rfl (fun hc => ?_) (fun hc => ?_) | refine WC_condB rfl (fun hc => ?_) (fun hc => ?_))
      apply WL_pure (PR_loadNd rfl rfl hs hlt hc2) rfl
      refine WL_eff OE_alloc rfl ?_
      rintro _ w3 ⟨b3, rfl, hb3, hblk3, hS3⟩
      refine WL_eff0 (OE_storeA (us := ndC x.kids[k] kv2) rfl rfl rfl rfl (ndC_one hs2) hblk3 rfl) ?_
      rintro _ w4 ⟨hS4, hblk4⟩
      have hS34 := hS3.own hS4 (fun b hb => .inr (by simp at hb; omega))
      replace hS2 := hS2.trans hS34
      replace hs2 := hs2.up hS34
      refine W ?_
      refine WL_eff (OE_call rfl (evs2 rfl rfl) (ih X _ x.kids[k] _ _ (by omega) (by omega) ⟨kv2, rfl, hs2⟩)) rfl ?_
      rintro _ w5 ⟨rfl, hS5⟩
      replace hS2 := hS2.trans hS5
      cases hq : nestedN m x.kids[k] with
      | true =>
        refine W ?_
        exact WQ_loop (k + 1) ⟨rfl, rfl, rfl, rfl, trivial⟩ ⟨hlt, hS2, by rw [hnx, hq]⟩ (by omega)
      | false =>
        refine W ?_
        first | refine WQ_ret1 rfl rfl ?_ | refine WQ_ret2 rfl rfl rfl ?_ | refine WQ_ret3 rfl rfl rfl rfl ?_ | refine WQ_ret0 rfl ?_ | refine WQ_end0 rfl ?_
        refine .mk ⟨?_, hS.trans hS2⟩
        have : nestedN (m + 1) x = false := by
          show x.kids.all (nestedN m) = false
          rw [List.all_eq_false]
          exact ⟨_, List.getElem_mem hlt, by simp [hq]⟩
        rw [this]
    · have hke : k = x.kids.length := by omega
      subst hke
      rw [List.take_length] at hall
      repeat' (first | refine W1 ?_ | (exfalso; omega) | refine WL_split rfl rfl (fun hg => ?_) (fun hg => ?_) | refine WL_splitB rfl rfl (fun hg => ?_) (fun hg => ?_) | refine WC_cond rfl (fun hc => ?_) (fun hc => ?_) | refine WC_condB rfl (fun hc => ?_) (fun hc => ?_))
      first | refine WQ_ret1 rfl rfl ?_ | refine WQ_ret2 rfl rfl rfl ?_ | refine WQ_ret3 rfl rfl rfl rfl ?_ | refine WQ_ret0 rfl ?_ | refine WQ_end0 rfl ?_
      refine .mk ⟨?_, hS.trans hS2⟩
      show _ = Value.bool (x.kids.all (nestedN m))
      rw [hall]
end Go.Proofs.YtgpibcgebpgmiaaDoor
/-
The walk engine, part 10: maps.
-/
namespace Go.Eng
open Go Go.RowKit Go.Proofs
set_option linter.unusedVariables false

/-- keys of a map, as data: what the model does with them -/
class MKey (P : Program) (kt : Nat) (κ : outParam Type) [DecidableEq κ] where
  enc : κ → Value
  chk : ∀ (em : Bool) (a : κ) (w : World), (Instr.checkKey em 10000 kt (enc a)).run P w = .ok () w
  find : ∀ (a : κ) (es : List MapEntry) (l : List κ) (w : World), es.map (·.key) = l.map enc →
    (Instr.findKey kt (enc a) es).run P w = .ok ((l.findIdx? (fun b => decide (b = a))).bind fun i => (es[i]?).map fun e => (i, e.val)) w

/-- the map lies at r -/
def MapAt {κ : Type} (enc : κ → Value) (w : World) (r : Nat) (l : List (κ × Value)) : Prop :=
  ∃ (es : Array MapEntry) (clock : Nat), w.heap[r]? = some (.map es clock) ∧ es.toList.map (·.key) = l.map (fun p => enc p.1) ∧ es.toList.map (·.val) = l.map (·.2)
theorem MapAt.lt {κ : Type} {enc : κ → Value} {w : World} {r : Nat} {l : List (κ × Value)} (h : MapAt enc w r l) : r < w.heap.size := by
  obtain ⟨es, c, h1, _⟩ := h
  exact (Array.getElem?_eq_some_iff.1 h1).1
theorem MapAt.ext {κ : Type} {enc : κ → Value} {S : List Nat} {w w' : World} {r : Nat} {l : List (κ × Value)} (h : MapAt enc w r l) (hS : Stp S w w') (hr : r ∉ S) : MapAt enc w' r l := by
  have hlt := h.lt
  obtain ⟨es, c, h1, h2⟩ := h
  exact ⟨es, c, by rw [hS.block r hlt hr]; exact h1, h2⟩
theorem MapAt.up {κ : Type} {enc : κ → Value} {w w' : World} {r : Nat} {l : List (κ × Value)} (h : MapAt enc w r l) (hS : Stp [] w w') : MapAt enc w' r l := h.ext hS (by simp)
/-- the value at a key -/
def mget {κ : Type} [DecidableEq κ] (l : List (κ × Value)) (a : κ) (z : Value) : Value := match l.find? (fun p => decide (p.1 = a)) with | some p => p.2 | none => z

theorem findNow_of {d : TypeDesc} {κ : Type} [DecidableEq κ] (enc : κ → Value) (h : ∀ a b : κ, Instr.sameNow d (enc a) (enc b) = some (decide (a = b))) (a : κ) : ∀ (es : List MapEntry) (l : List κ) (i : Nat), es.map (·.key) = l.map enc →
    Instr.findNow d (enc a) es i = some ((l.findIdx? (fun b => decide (b = a))).bind fun j => (es[j]?).map fun e => (i + j, e.val))
  | [], [], i, _ => by simp [Instr.findNow]
  | [], _ :: _, i, h => by simp at h
  | _ :: _, [], i, h => by simp at h
  | e :: es, b :: l, i, hk => by
    simp only [List.map_cons, List.cons.injEq] at hk
    obtain ⟨h1, h2⟩ := hk
    have ih := findNow_of enc h a es l (i + 1) h2
    simp only [Instr.findNow, h1, h]
    by_cases hab : a = b
    · subst hab
      simp [List.findIdx?_cons]
    · have hba : ¬ b = a := fun h => hab h.symm
      simp only [decide_eq_false hab, ih, List.findIdx?_cons, decide_eq_false hba, Bool.false_eq_true, if_false]
      cases l.findIdx? (fun b => decide (b = a)) with
      | none => rfl
      | some j =>
        simp only [Option.bind_some, Option.map_some, List.getElem?_cons_succ]
        rw [show i + 1 + j = i + (j + 1) by omega]
theorem findAsking_of {P : Program} {kt : Nat} {κ : Type} [DecidableEq κ] (enc : κ → Value) (h : ∀ (a b : κ) (w : World), (Op.equal kt (enc a) (enc b)).run P w = .ok (decide (a = b)) w) (a : κ) (w : World) : ∀ (es : List MapEntry) (l : List κ) (i : Nat), es.map (·.key) = l.map enc →
    (Instr.findAsking kt (enc a) es i).run P w = .ok ((l.findIdx? (fun b => decide (b = a))).bind fun j => (es[j]?).map fun e => (i + j, e.val)) w
  | [], [], i, _ => by simp [Instr.findAsking]
  | [], _ :: _, i, h => by simp at h
  | _ :: _, [], i, h => by simp at h
  | e :: es, b :: l, i, hk => by
    simp only [List.map_cons, List.cons.injEq] at hk
    obtain ⟨h1, h2⟩ := hk
    have ih := findAsking_of enc h a w es l (i + 1) h2
    simp only [Instr.findAsking, h1]
    by_cases hab : a = b
    · subst hab
      simp [List.findIdx?_cons, h]
    · have hba : ¬ b = a := fun h => hab h.symm
      simp only [Sem.run_bind, h, decide_eq_false hab, Result.andThen, List.findIdx?_cons, decide_eq_false hba, Bool.false_eq_true, if_false, ih]
      cases l.findIdx? (fun b => decide (b = a)) with
      | none => rfl
      | some j =>
        simp only [Option.bind_some, Option.map_some, List.getElem?_cons_succ]
        rw [show i + 1 + j = i + (j + 1) by omega]

instance {P : Program} {kt : Nat} [hu : Und P kt (.int .i64)] : MKey P kt Int where
  enc := fun z => .int .i64 z
  chk := fun em a w => MapKept.run_checkKey (k := .int .i64 a) hu.h (by simp [MapKept.IsKey]) em 9999
  find := fun a es l w hk => by
    have := findNow_of (d := .int .i64) (fun z : Int => Value.int .i64 z) (fun a b => by simp [Instr.sameNow, Bool.beq_eq_decide_eq]) a es l 0 hk
    simpa using MapKept.run_findKey (w := w) hu.h this
instance instMKeyStr {P : Program} {kt : Nat} [hu : Und P kt .string] : MKey P kt Str where
  enc := str
  chk := fun em a w => MapKept.run_checkKey (k := str a) hu.h (by simp [MapKept.IsKey]) em 9999
  find := fun a es l w hk => by
    have := findNow_of (d := .string) str (fun a b => by
      simp only [Instr.sameNow, Option.some.injEq]
      rw [beq_toListBytes, str_beq]) a es l 0 hk
    simpa using MapKept.run_findKey (w := w) hu.h this

section
variable {P : Program} {n : Nat} {e : Env} {w : World} {d : Option Nat} {ty : TypeId} {pos : String} {af : Array Edge} {g : Option (Nat × Bool)}

theorem OE_makeMap {t : TypeId} {κ : Type} (enc : κ → Value) : OE P n ⟨d, .makeMap t none, ty, pos, af, g⟩ e w (fun v w' => ∃ r, v = .map (some r) ∧ w.heap.size ≤ r ∧ MapAt enc w' r [] ∧ Stp [] w w') :=
  OE_value (v := .map (some w.heap.size)) (w' := w.alloc (.map #[] 0)) (fun a ha => by
    simp [execOp, run_makeMap]) ⟨_, rfl, Nat.le_refl _, ⟨#[], 0, heap_alloc_new w _, rfl, rfl⟩, Stp.alloc _ _ _⟩

theorem find_fresh {κ : Type} [DecidableEq κ] {l : List κ} {a : κ} (h : ∀ b ∈ l, ¬ b = a) : l.findIdx? (fun b => decide (b = a)) = none := by
  rw [List.findIdx?_eq_none_iff]
  intro b hb
  simp [h b hb]
/-- a new key -/
theorem run_mapAdd {mt kt et r : Nat} {κ : Type} [DecidableEq κ] [hm : Und P mt (.map kt et)] [K : MKey P kt κ] {l : List (κ × Value)} {a : κ} {v : Value} (hr : MapAt K.enc w r l) (hn : ∀ p ∈ l, ¬ p.1 = a) :
    ∃ w', (Instr.mapUpdate mt (.map (some r)) (K.enc a) v).run P w = .ok () w' ∧ MapAt K.enc w' r (l ++ [(a, v)]) ∧ Stp [r] w w' := by
  obtain ⟨es, clock, h1, h2, h3⟩ := hr
  have hf : (Instr.findKey kt (K.enc a) es.toList).run P w = .ok none w := by
    have hk : es.toList.map (·.key) = (l.map (·.1)).map K.enc := by rw [h2, List.map_map]; rfl
    rw [K.find a es.toList (l.map (·.1)) w hk, find_fresh (by simpa using hn)]
    rfl
  have hlt : r < w.heap.size := (Array.getElem?_eq_some_iff.1 h1).1
  refine ⟨{ w with heap := w.heap.setIfInBounds r (.map (es.push { key := K.enc a, val := v, born := clock }) (clock + 1)) }, ?_, ?_, ?_⟩
  · simp [Instr.mapUpdate, run_underlying hm.h, MapKept.run_getObj_map h1, K.chk, hf, MapKept.run_setObj_map _ h1, Result.andThen]
  · refine ⟨es.push { key := K.enc a, val := v, born := clock }, clock + 1, by simp [hlt], ?_, ?_⟩
    · simp [h2]
    · simp [h3]
  · refine ⟨rfl, rfl, rfl, by simp, fun b hb hn => ?_⟩
    simp only [List.mem_singleton] at hn
    simp [Array.getElem?_setIfInBounds_ne (fun h => hn h.symm)]
theorem OE_insert {mt kt et r : Nat} {κ : Type} [DecidableEq κ] {x y z : Operand} [hm : Und P mt (.map kt et)] [K : MKey P kt κ] {l : List (κ × Value)} {a : κ} {v : Value} (hx : ev e x = some (.map (some r))) (hy : ev e y = some (K.enc a)) (hz : ev e z = some v) (hr : MapAt K.enc w r l) (hn : ∀ p ∈ l, ¬ p.1 = a) :
    OE P n ⟨d, .insert mt x y z, ty, pos, af, g⟩ e w (fun _ w' => MapAt K.enc w' r (l ++ [(a, v)]) ∧ Stp [r] w w') := by
  obtain ⟨w', h1, h2, h3⟩ := run_mapAdd (mt := mt) (v := v) hr hn
  exact OE_skip (w' := w') (fun c hc => by simp [execOp, hc.ev hx, hc.ev hy, hc.ev hz, h1]) ⟨h2, h3⟩
theorem OE_mapAdd {mt kt et r : Nat} {κ : Type} [DecidableEq κ] {x y z : Operand} [hm : Und P mt (.map kt et)] [K : MKey P kt κ] {l : List (κ × Value)} {a : κ} {v : Value} (hx : ev e x = some (.map (some r))) (hy : ev e y = some (K.enc a)) (hz : ev e z = some v) (hr : MapAt K.enc w r l) (hn : ∀ p ∈ l, ¬ p.1 = a) :
    OE P n ⟨d, .mapUpdate mt x y z, ty, pos, af, g⟩ e w (fun _ w' => MapAt K.enc w' r (l ++ [(a, v)]) ∧ Stp [r] w w') := by
  obtain ⟨w', h1, h2, h3⟩ := run_mapAdd (mt := mt) (v := v) hr hn
  exact OE_skip (w' := w') (fun c hc => by simp [execOp, hc.ev hx, hc.ev hy, hc.ev hz, h1]) ⟨h2, h3⟩
theorem PR_lookup {mt kt et r : Nat} {κ : Type} [DecidableEq κ] {x y : Operand} {z : Value} [hm : Und P mt (.map kt et)] [K : MKey P kt κ] [hz : Zer P et z] {l : List (κ × Value)} {a : κ} (hx : ev e x = some (.map (some r))) (hy : ev e y = some (K.enc a)) (hr : MapAt K.enc w r l) :
    PR P n ⟨d, .lookup mt x y false, ty, pos, af, g⟩ e w (mget l a z) := by
  refine ⟨fun c hc => ?_⟩
  obtain ⟨es, clock, h1, h2, h3⟩ := hr
  have hk : es.toList.map (·.key) = (l.map (·.1)).map K.enc := by rw [h2, List.map_map]; rfl
  have hf := K.find a es.toList (l.map (·.1)) w hk
  have hlen : es.toList.length = l.length := by have := congrArg List.length h3; simpa using this
  have hv : ∀ i : Nat, (es.toList[i]?).map (fun x : MapEntry => x.val) = (l[i]?).map (fun x : κ × Value => x.2) := fun i => by
    have := congrArg (fun x => x[i]?) h3
    simpa using this
  have hfind : mget l a z = match (l.map (·.1)).findIdx? (fun b => decide (b = a)) with | some i => ((es.toList[i]?).map (fun x : MapEntry => x.val)).getD z | none => z := by
    unfold mget
    rw [List.findIdx?_map]
    cases hi : l.findIdx? ((fun b => decide (b = a)) ∘ fun x => x.1) with
    | none =>
      have : l.find? (fun p => decide (p.1 = a)) = none := by
        rw [List.find?_eq_none]
        intro p hp
        have := (List.findIdx?_eq_none_iff.1 hi) p hp
        simpa using this
      rw [this]
    | some i =>
      obtain ⟨hlt, hp, hb⟩ := List.findIdx?_eq_some_iff_getElem.1 hi
      have : l.find? (fun p => decide (p.1 = a)) = some l[i] := by
        rw [List.find?_eq_some_iff_getElem]
        exact ⟨by simpa using hp, i, hlt, rfl, fun j hj => by simpa using hb j hj⟩
      rw [this]
      simp only [hv, List.getElem?_eq_getElem hlt, Option.map_some, Option.getD_some]
  rw [hfind]
  simp only [execOp, hc.ev hx, hc.ev hy]
  cases hi : (l.map (·.1)).findIdx? (fun b => decide (b = a)) with
  | none =>
    rw [hi] at hf
    simp [Instr.lookup, run_underlying hm.h, MapKept.run_getObj_map h1, K.chk, hf, Result.andThen, Zer.run]
  | some i =>
    obtain ⟨hlt, _⟩ := List.findIdx?_eq_some_iff_getElem.1 hi
    have hlt' : i < es.toList.length := by rw [hlen]; simpa using hlt
    rw [hi] at hf
    simp only [Option.bind_some, List.getElem?_eq_getElem hlt', Option.map_some] at hf
    simp [Instr.lookup, run_underlying hm.h, MapKept.run_getObj_map h1, K.chk, hf, Result.andThen, List.getElem?_eq_getElem hlt']
end
end Go.Eng

namespace Go.Proofs.YtgpibcgebpgmiaaDoor
open Go Go.Eng Go.RowKit
set_option linter.unusedVariables false

/-- the first index at which a predicate holds, or -1 -/
def idx {α : Type} (p : α → Bool) (xs : List α) : Int := match xs.findIdx? p with | some i => (i : Int) | none => -1
theorem idx_of_at {α : Type} {p : α → Bool} {xs : List α} {k : Nat} (hk : k < xs.length) (hp : p xs[k] = true) (hb : ∀ j (h : j < xs.length), j < k → p xs[j] = false) : idx p xs = k := by
  have : xs.findIdx? p = some k := List.findIdx?_eq_some_iff_getElem.2 ⟨hk, hp, fun j hj => by simp [hb j (by omega) hj]⟩
  simp [idx, this]
theorem idx_of_none {α : Type} {p : α → Bool} {xs : List α} (hb : ∀ j (h : j < xs.length), p xs[j] = false) : idx p xs = -1 := by
  have : xs.findIdx? p = none := by
    rw [List.findIdx?_eq_none_iff]
    intro x hx
    obtain ⟨j, hj, rfl⟩ := List.getElem_of_mem hx
    simp [hb j hj]
  simp [idx, this]
theorem idx_range {α : Type} (p : α → Bool) (xs : List α) : -1 ≤ idx p xs ∧ idx p xs < xs.length := by
  unfold idx
  cases h : xs.findIdx? p with
  | none => simp; omega
  | some i =>
    obtain ⟨hi, _⟩ := List.findIdx?_eq_some_iff_getElem.1 h
    simp only
    omega
abbrev isS (a : Str) : Str → Bool := fun x => decide (x = a)

theorem index_any (X : List Nat) (v : Value) (l : List Str) (a : Str) (w : World) (hs : SlV X w v l) : Calls Tryd.prog 76 #[v, str a] w (Ret fun r w' => r = .int .i64 (idx (isS a) l) ∧ Stp [] w w') := by
  have hmax := hs.max
  refine calls_of_WC2 (n := 19) Tryd.func76 rfl rfl rfl ?_
  refine W ?_
  refine WC_loop (σ := Nat) (fun k => [(0, v), (1, str a), (8, .int .i64 k), (7, .int .i64 (l.length : Int))]) (fun k w' => k ≤ l.length ∧ Stp [] w w' ∧ ∀ j (h : j < l.length), j < k → isS a l[j] = false) (fun k => l.length - k) 0 ⟨rfl, rfl, rfl, rfl, trivial⟩ ⟨Nat.zero_le _, Stp.refl _ _, fun j _ h => absurd h (Nat.not_lt_zero _)⟩ ?_
  have hs0 := hs
  clear hs
  rintro k w1 ⟨hk, hS, hno⟩
  have hs := hs0.up hS
  by_cases hlt : k < l.length
  · repeat' (first | refine W1 ?_ | (exfalso; omega) | refine WL_split rfl rfl (fun hg => ?_) (fun hg => ?_) | refine WL_splitB rfl rfl (fun hg => ?_) (fun hg => ?_) | refine WC_cond rfl (fun hc => ?_) (fun hc => ?_) | refine WC_condB rfl (fun hc => ?_) (fun hc => ?_))
    · first | refine WQ_ret1 rfl rfl ?_ | refine WQ_ret2 rfl rfl rfl ?_ | refine WQ_ret3 rfl rfl rfl rfl ?_ | refine WQ_ret0 rfl ?_ | refine WQ_end0 rfl ?_
      have he' : isS a l[k] = true := by simpa [isS, eq_comm] using hc
      exact .mk ⟨by rw [idx_of_at hlt he' hno], hS⟩
    · refine WQ_loop (k + 1) ⟨rfl, rfl, rfl, rfl, trivial⟩ ⟨hlt, hS, fun j h hj => ?_⟩ (by omega)
      by_cases e : j = k
      · subst e; simpa [isS, eq_comm] using hc
      · exact hno j h (by omega)
  · have hke : k = l.length := by omega
    subst hke
    repeat' (first | refine W1 ?_ | (exfalso; omega) | refine WL_split rfl rfl (fun hg => ?_) (fun hg => ?_) | refine WL_splitB rfl rfl (fun hg => ?_) (fun hg => ?_) | refine WC_cond rfl (fun hc => ?_) (fun hc => ?_) | refine WC_condB rfl (fun hc => ?_) (fun hc => ?_))
    first | refine WQ_ret1 rfl rfl ?_ | refine WQ_ret2 rfl rfl rfl ?_ | refine WQ_ret3 rfl rfl rfl rfl ?_ | refine WQ_ret0 rfl ?_ | refine WQ_end0 rfl ?_
    exact .mk ⟨by rw [idx_of_none (fun j h => hno j h h)], hS⟩
theorem place14_any (X : List Nat) (v : Value) (l : List Str) (a : Str) (w : World) (hs : SlV X w v l) : Calls Tryd.prog 116 #[v, str a] w (Ret fun r w' => r = .int .i64 (idx (isS a) l) ∧ Stp [] w w') := by
  have hmax := hs.max
  refine calls_of_WC2 (n := 19) Tryd.func116 rfl rfl rfl ?_
  refine W ?_
  refine WC_loop (σ := Nat) (fun k => [(0, v), (1, str a), (5, .int .i64 k)]) (fun k w' => k ≤ l.length ∧ Stp [] w w' ∧ ∀ j (h : j < l.length), j < k → isS a l[j] = false) (fun k => l.length - k) 0 ⟨rfl, rfl, rfl, trivial⟩ ⟨Nat.zero_le _, Stp.refl _ _, fun j _ h => absurd h (Nat.not_lt_zero _)⟩ ?_
  have hs0 := hs
  clear hs
  rintro k w1 ⟨hk, hS, hno⟩
  have hs := hs0.up hS
  by_cases hlt : k < l.length
  · repeat' (first | refine W1 ?_ | (exfalso; omega) | refine WL_split rfl rfl (fun hg => ?_) (fun hg => ?_) | refine WL_splitB rfl rfl (fun hg => ?_) (fun hg => ?_) | refine WC_cond rfl (fun hc => ?_) (fun hc => ?_) | refine WC_condB rfl (fun hc => ?_) (fun hc => ?_))
    · first | refine WQ_ret1 rfl rfl ?_ | refine WQ_ret2 rfl rfl rfl ?_ | refine WQ_ret3 rfl rfl rfl rfl ?_ | refine WQ_ret0 rfl ?_ | refine WQ_end0 rfl ?_
      have he' : isS a l[k] = true := by simpa [isS, eq_comm] using hc
      exact .mk ⟨by rw [idx_of_at hlt he' hno], hS⟩
    · refine WQ_loop (k + 1) ⟨rfl, rfl, rfl, trivial⟩ ⟨hlt, hS, fun j h hj => ?_⟩ (by omega)
      by_cases e : j = k
      · subst e; simpa [isS, eq_comm] using hc
      · exact hno j h (by omega)
  · have hke : k = l.length := by omega
    subst hke
    repeat' (first | refine W1 ?_ | (exfalso; omega) | refine WL_split rfl rfl (fun hg => ?_) (fun hg => ?_) | refine WL_splitB rfl rfl (fun hg => ?_) (fun hg => ?_) | refine WC_cond rfl (fun hc => ?_) (fun hc => ?_) | refine WC_condB rfl (fun hc => ?_) (fun hc => ?_))
    first | refine WQ_ret1 rfl rfl ?_ | refine WQ_ret2 rfl rfl rfl ?_ | refine WQ_ret3 rfl rfl rfl rfl ?_ | refine WQ_ret0 rfl ?_ | refine WQ_end0 rfl ?_
    exact .mk ⟨by rw [idx_of_none (fun j h => hno j h h)], hS⟩
theorem place15_any (X : List Nat) (v : Value) (l : List Str) (a : Str) (w : World) (hs : SlV X w v l) : Calls Tryd.prog 115 #[v, str a] w (Ret fun r w' => r = .int .i64 (idx (isS a) l) ∧ Stp [] w w') := by
  have hmax := hs.max
  refine calls_of_WC2 (n := 19) Tryd.func115 rfl rfl rfl ?_
  refine W ?_
  refine WC_loop (σ := Nat) (fun k => [(0, v), (1, str a), (5, .int .i64 k)]) (fun k w' => k ≤ l.length ∧ Stp [] w w' ∧ ∀ j (h : j < l.length), j < k → isS a l[j] = false) (fun k => l.length - k) 0 ⟨rfl, rfl, rfl, trivial⟩ ⟨Nat.zero_le _, Stp.refl _ _, fun j _ h => absurd h (Nat.not_lt_zero _)⟩ ?_
  have hs0 := hs
  clear hs
  rintro k w1 ⟨hk, hS, hno⟩
  have hs := hs0.up hS
  by_cases hlt : k < l.length
  · repeat' (first | refine W1 ?_ | (exfalso; omega) | refine WL_split rfl rfl (fun hg => ?_) (fun hg => ?_) | refine WL_splitB rfl rfl (fun hg => ?_) (fun hg => ?_) | refine WC_cond rfl (fun hc => ?_) (fun hc => ?_) | refine WC_condB rfl (fun hc => ?_) (fun hc => ?_))
    · first | refine WQ_ret1 rfl rfl ?_ | refine WQ_ret2 rfl rfl rfl ?_ | refine WQ_ret3 rfl rfl rfl rfl ?_ | refine WQ_ret0 rfl ?_ | refine WQ_end0 rfl ?_
      have he' : isS a l[k] = true := by simpa [isS, eq_comm] using hc
      exact .mk ⟨by rw [idx_of_at hlt he' hno], hS⟩
    · refine WQ_loop (k + 1) ⟨rfl, rfl, rfl, trivial⟩ ⟨hlt, hS, fun j h hj => ?_⟩ (by omega)
      by_cases e : j = k
      · subst e; simpa [isS, eq_comm] using hc
      · exact hno j h (by omega)
  · have hke : k = l.length := by omega
    subst hke
    repeat' (first | refine W1 ?_ | (exfalso; omega) | refine WL_split rfl rfl (fun hg => ?_) (fun hg => ?_) | refine WL_splitB rfl rfl (fun hg => ?_) (fun hg => ?_) | refine WC_cond rfl (fun hc => ?_) (fun hc => ?_) | refine WC_condB rfl (fun hc => ?_) (fun hc => ?_))
    first | refine WQ_ret1 rfl rfl ?_ | refine WQ_ret2 rfl rfl rfl ?_ | refine WQ_ret3 rfl rfl rfl rfl ?_ | refine WQ_ret0 rfl ?_ | refine WQ_end0 rfl ?_
    exact .mk ⟨by rw [idx_of_none (fun j h => hno j h h)], hS⟩

def fieldNames : List Str := [[100, 97, 121], [115, 101, 114, 118, 101, 100], [101, 120, 116, 114, 97], [98, 121], [116, 111], [99, 111, 117, 114, 116], [97, 109, 111, 117, 110, 116]]
/-- the table of the fields, as a slice of the whole -/
abbrev flds : Value := .slice (some ⟨0, 0, none⟩) 7 7
def fieldF (a : Str) : Int × Int × Bool :=
  let i := idx (isS a) fieldNames
  if i < 0 then (0, 0, false) else if i ≤ 1 then (i, 3, true) else (i, 1, true)
abbrev tup3 (x : Int × Int × Bool) : Value := .tuple #[.int .i64 x.1, .int .i64 x.2.1, .bool x.2.2]
theorem Field_any (a : Str) (w : World) (hF : SlV [] w flds fieldNames) : Calls Tryd.prog 34 #[str a] w (Ret fun r w' => r = tup3 (fieldF a) ∧ Stp [] w w') := by
  refine calls_of_WC1 (n := 17) Tryd.func34 rfl rfl rfl ?_
  refine W ?_
  apply WL_pure (PR_sliceA rfl) rfl
  refine W ?_
  refine WL_eff (OE_call rfl (evs2 rfl rfl) (index_any [] _ _ a _ hF)) rfl ?_
  rintro _ w1 ⟨rfl, hS⟩
  unfold fieldF
  generalize idx (isS a) fieldNames = i
  repeat' (first | refine W1 ?_ | refine WL_split rfl rfl (fun hg => ?_) (fun hg => ?_) | refine WL_splitB rfl rfl (fun hg => ?_) (fun hg => ?_) | refine WC_cond rfl (fun hc => ?_) (fun hc => ?_) | refine WC_condB rfl (fun hc => ?_) (fun hc => ?_))
  all_goals (first | refine WQ_ret1 rfl rfl ?_ | refine WQ_ret2 rfl rfl rfl ?_ | refine WQ_ret3 rfl rfl rfl rfl ?_ | refine WQ_ret0 rfl ?_ | refine WQ_end0 rfl ?_)
  · exact .mk ⟨by simp only [if_pos hc], hS⟩
  · rename_i h1
    exact .mk ⟨by simp only [if_neg h1, if_pos hc], hS⟩
  · rename_i h1
    exact .mk ⟨by simp only [if_neg h1, if_neg hc], hS⟩

/-! ### words -/
/-- what the loop of 'words' has found in the first k bytes: the words, and where the next one begins -/
def wst (s : Str) : Nat → List Str × Nat
  | 0 => ([], 0)
  | k + 1 => if k = s.length ∨ byte s k = 32 then ((wst s k).1 ++ [(s.take k).drop (wst s k).2], k + 1) else wst s k
def wordsOf (s : Str) : List Str := (wst s (s.length + 1)).1
theorem wst_le (s : Str) : ∀ k, (wst s k).2 ≤ k ∧ (wst s k).1.length ≤ k
  | 0 => by simp [wst]
  | k + 1 => by
    have := wst_le s k
    simp only [wst]
    split
    · simp; omega
    · omega
theorem buildSS1 (a : Str) (w : World) : (Instr.buildSlice 100 1 #[(0, str a)]).run Tryd.prog w = .ok (.slice (some ⟨w.heap.size, 0, none⟩) 1 1) (w.alloc (.cells #[str a] 9)) := by kernel_rfl
theorem words_any (X : List Nat) (s : Str) (w : World) (hX : ∀ b ∈ X, b < w.heap.size) (hl : s.length ≤ 1000) :
    Calls Tryd.prog 65 #[str s] w (Ret fun r w' => Row X w' w.heap.size 9 r (wordsOf s) ∧ Stp [] w w') := by
  refine calls_of_WC1 (n := 32) Tryd.func65 rfl rfl rfl ?_
  refine W ?_
  refine WC_loop (σ := Nat × Value) (fun q => [(0, str s), (3, q.2), (4, .int .i64 ((wst s q.1).2 : Int)), (5, .int .i64 (q.1 : Int))]) (fun q w' => q.1 ≤ s.length + 1 ∧ Row X w' w.heap.size 9 q.2 (wst s q.1).1 ∧ Stp [] w w') (fun q => s.length + 1 - q.1) (0, .slice none 0 0) ⟨rfl, rfl, rfl, rfl, trivial⟩ ⟨by simp, Row.nil, Stp.refl _ _⟩ ?_
  rintro ⟨k, v⟩ w1 ⟨hk, hrow, hS⟩
  dsimp only at hk hrow ⊢
  obtain ⟨hw1, hw2⟩ := wst_le s k
  by_cases hlt : k ≤ s.length
  · have nxt : wst s (k + 1) = if k = s.length ∨ byte s k = 32 then ((wst s k).1 ++ [(s.take k).drop (wst s k).2], k + 1) else wst s k := rfl
    have hbase := hS.size
    repeat' (first | refine W1 ?_ | (exfalso; omega) | refine WL_split rfl rfl (fun hg => ?_) (fun hg => ?_) | refine WL_splitB rfl rfl (fun hg => ?_) (fun hg => ?_) | refine WC_cond rfl (fun hc => ?_) (fun hc => ?_) | refine WC_condB rfl (fun hc => ?_) (fun hc => ?_))
    rotate_right
    · have hno : ¬ (k = s.length ∨ byte s k = 32) := by rintro (h | h) <;> omega
      rw [if_neg hno] at nxt
      refine WQ_loop (k + 1, v) ⟨rfl, rfl, by rw [nxt]; rfl, rfl, trivial⟩ ⟨by dsimp only; omega, by dsimp only; rw [nxt]; exact hrow, hS⟩ (by dsimp only; omega)
    all_goals
      have hyes : k = s.length ∨ byte s k = 32 := by omega
      rw [if_pos hyes] at nxt
      apply WL_pure (PR_sliceT_lh rfl rfl rfl rfl rfl (by omega) (by omega)) rfl
      refine WL_eff (OE_buildSlice (vs := [(0, str _)]) rfl (buildSS1 _)) rfl ?_
      rintro bv w2 hN
      have hSb := hN.choose_spec.2.2.2
      have hbv : SlV (ob v ++ X) w2 bv [(s.take k).drop (wst s k).2] := hN.slv (fun b hb => (List.mem_append.1 hb).elim (fun h => (hrow.ob_le b h).2) (fun h => Nat.lt_of_lt_of_le (hX b h) hbase)) rfl rfl (by simp [maxLen])
      clear hN
      replace hrow := hrow.up hSb
      replace hS := hS.trans hSb
      have hbase := hS.size
      refine WL_eff (OE_append (X := X) (base := w.heap.size) rfl (by decide) rfl rfl hrow hbv (by simp only [List.length_cons, List.length_nil]; omega) (by simp only [List.length_cons, List.length_nil, maxLen]; omega) hbase) rfl ?_
      rintro v' w3 ⟨hrow', hS', _⟩
      refine W ?_
      refine WQ_loop (k + 1, v') ⟨rfl, rfl, by rw [nxt]; rfl, rfl, trivial⟩ ⟨by dsimp only; omega, by dsimp only; rw [nxt]; exact hrow', hS.own hS' (fun b hb => .inr (hrow.ob_le b hb).1)⟩ (by dsimp only; omega)
  · have hke : k = s.length + 1 := by omega
    subst hke
    repeat' (first | refine W1 ?_ | (exfalso; omega) | refine WL_split rfl rfl (fun hg => ?_) (fun hg => ?_) | refine WL_splitB rfl rfl (fun hg => ?_) (fun hg => ?_) | refine WC_cond rfl (fun hc => ?_) (fun hc => ?_) | refine WC_condB rfl (fun hc => ?_) (fun hc => ?_))
    first | refine WQ_ret1 rfl rfl ?_ | refine WQ_ret2 rfl rfl rfl ?_ | refine WQ_ret3 rfl rfl rfl rfl ?_ | refine WQ_ret0 rfl ?_ | refine WQ_end0 rfl ?_
    exact .mk ⟨hrow, hS⟩
end Go.Proofs.YtgpibcgebpgmiaaDoor

namespace Go.Proofs.YtgpibcgebpgmiaaDoor
open Go Go.Eng Go.RowKit
set_option linter.unusedVariables false

theorem _root_.Go.Eng.Row.slv0 {α : Type} [GoRep α] {w : World} {base T : Nat} {v : Value} {xs : List α} (h : Row [] w base T v xs) : SlV [] w v xs := h.slv (by simp)
theorem fields_words : wordsOf [100, 97, 121, 32, 115, 101, 114, 118, 101, 100, 32, 101, 120, 116, 114, 97, 32, 98, 121, 32, 116, 111, 32, 99, 111, 117, 114, 116, 32, 97, 109, 111, 117, 110, 116] = fieldNames := by decide
theorem Fields_any (X : List Nat) (w : World) (hX : ∀ b ∈ X, b < w.heap.size) : Calls Tryd.prog 71 #[] w (Ret fun r w' => Row X w' w.heap.size 9 r fieldNames ∧ Stp [] w w') := by
  refine calls_of_WC0 (n := 2) Tryd.func71 rfl rfl ?_
  refine W ?_
  refine WL_eff (OE_call rfl (evs1 rfl) (words_any X [100, 97, 121, 32, 115, 101, 114, 118, 101, 100, 32, 101, 120, 116, 114, 97, 32, 98, 121, 32, 116, 111, 32, 99, 111, 117, 114, 116, 32, 97, 109, 111, 117, 110, 116] _ hX (by decide))) rfl ?_
  rintro v w1 ⟨hr, hS⟩
  rw [fields_words] at hr
  refine W ?_
  first | refine WQ_ret1 rfl rfl ?_ | refine WQ_ret2 rfl rfl rfl ?_ | refine WQ_ret3 rfl rfl rfl rfl ?_ | refine WQ_ret0 rfl ?_ | refine WQ_end0 rfl ?_
  exact .mk ⟨hr, hS⟩
/-- the type of a node without kids -/
def leafN (k n : Int) (s : Str) : Int :=
  if k = 4 then (if n = 0 then (fieldF s).2.1 else 0) else if ¬ s = [] then 0
  else if k = 1 then (if 0 ≤ n ∧ n ≤ 2147483647 then 1 else 0) else if k = 2 then (if 0 ≤ n ∧ n ≤ 1 then 2 else 0) else if k = 3 then (if 0 ≤ n ∧ n ≤ 3652058 then 3 else 0) else 0
theorem fieldF_no {a : Str} (h : (fieldF a).2.2 = false) : (fieldF a).2.1 = 0 := by
  unfold fieldF at h ⊢
  dsimp only at h ⊢
  split <;> rename_i h1
  · rfl
  · rw [if_neg h1] at h
    split at h <;> simp at h
theorem leaf_any (X : List Nat) (v : Value) (x : Nd) (w : World) (hx : NdV X w v x) (hF : SlV [] w flds fieldNames) :
    Calls Tryd.prog 73 #[v] w (Ret fun r w' => r = .int .i64 (leafN x.kind x.num x.word) ∧ Stp [] w w') := by
  obtain ⟨kv, rfl, hs⟩ := hx
  refine calls_of_WC1 (n := 50) Tryd.func73 rfl rfl rfl ?_
  refine W ?_
  refine WL_eff (OE_box rfl) rfl ?_
  rintro _ w1 ⟨b, rfl, hb, hblk, hS⟩
  replace hblk : Blk w1 b _ (ndC x kv) := hblk
  replace hF := hF.up hS
  repeat' (first | refine W1 ?_ | (exfalso; omega) | refine WL_split rfl rfl (fun hg => ?_) (fun hg => ?_) | refine WL_splitB rfl rfl (fun hg => ?_) (fun hg => ?_) | refine WC_cond rfl (fun hc => ?_) (fun hc => ?_) | refine WC_condB rfl (fun hc => ?_) (fun hc => ?_))
  · refine WL_eff (OE_call rfl (evs1 rfl) (Field_any x.word _ hF)) rfl ?_
    rintro _ w2 ⟨rfl, hS2⟩
    replace hS := hS.trans hS2
    repeat' (first | refine W1 ?_ | (exfalso; omega) | refine WL_split rfl rfl (fun hg => ?_) (fun hg => ?_) | refine WL_splitB rfl rfl (fun hg => ?_) (fun hg => ?_) | refine WC_cond rfl (fun hc => ?_) (fun hc => ?_) | refine WC_condB rfl (fun hc => ?_) (fun hc => ?_))
    first | refine WQ_ret1 rfl rfl ?_ | refine WQ_ret2 rfl rfl rfl ?_ | refine WQ_ret3 rfl rfl rfl rfl ?_ | refine WQ_ret0 rfl ?_ | refine WQ_end0 rfl ?_
    refine .mk ⟨?_, hS⟩
    simp only [leafN]
    rw [if_pos (by assumption), if_pos (by assumption)]
    rfl
  all_goals first
    | (refine WL_eff (OE_makeMap (fun z : Int => Value.int .i64 z)) rfl ?_
       rintro _ w2 ⟨r, rfl, hr, hm, hS2⟩
       have hbl := hblk.lt
       have hsz := hS.size
       replace hblk := hblk.up hS2
       replace hS := hS.trans hS2
       refine WL_eff0 (OE_insert (a := (1 : Int)) (v := .int .i64 1) rfl rfl rfl hm (by simp)) ?_
       rintro _ w3 ⟨hm, hS3⟩
       replace hblk := hblk.ext hS3 (by simp; omega)
       replace hS := hS.own hS3 (fun b hb => .inr (by simp at hb; omega))
       refine WL_eff0 (OE_insert (a := (2 : Int)) (v := .int .i64 2) rfl rfl rfl hm (by simp)) ?_
       rintro _ w4 ⟨hm, hS4⟩
       replace hblk := hblk.ext hS4 (by simp; omega)
       replace hS := hS.own hS4 (fun b hb => .inr (by simp at hb; omega))
       refine WL_eff0 (OE_insert (a := (3 : Int)) (v := .int .i64 3) rfl rfl rfl hm (by simp)) ?_
       rintro _ w5 ⟨hm, hS5⟩
       replace hblk := hblk.ext hS5 (by simp; omega)
       replace hS := hS.own hS5 (fun b hb => .inr (by simp at hb; omega))
       refine W ?_
       apply WL_pure (PR_lookup (a := x.kind) rfl rfl hm) rfl
       refine W ?_
       first | refine WQ_ret1 rfl rfl ?_ | refine WQ_ret2 rfl rfl rfl ?_ | refine WQ_ret3 rfl rfl rfl rfl ?_ | refine WQ_ret0 rfl ?_ | refine WQ_end0 rfl ?_
       refine .mk ⟨?_, hS⟩
       have hw : x.word = [] := by first | assumption | exact Decidable.not_not.1 (by assumption)
       simp only [leafN, hw, not_true_eq_false, if_false]
       first
         | (have hk : x.kind = 1 := by assumption
            rw [hk, if_neg (by decide), if_pos rfl, if_pos (by omega)]; rfl)
         | (have hk : x.kind = 2 := by assumption
            rw [hk, if_neg (by decide), if_neg (by decide), if_pos rfl, if_pos (by omega)]; rfl)
         | (have hk : x.kind = 3 := by assumption
            rw [hk, if_neg (by decide), if_neg (by decide), if_neg (by decide), if_pos rfl, if_pos (by omega)]; rfl))
    | skip
  all_goals (first | refine WQ_ret1 rfl rfl ?_ | refine WQ_ret2 rfl rfl rfl ?_ | refine WQ_ret3 rfl rfl rfl rfl ?_ | refine WQ_ret0 rfl ?_ | refine WQ_end0 rfl ?_)
  all_goals
    refine .mk ⟨?_, hS⟩
    simp only [leafN]
    repeat' split
    all_goals first | rfl | (exfalso; omega) | (exfalso; simp_all; done) | (exfalso; simp_all; omega)
end Go.Proofs.YtgpibcgebpgmiaaDoor

namespace Go.Proofs.YtgpibcgebpgmiaaDoor
open Go Go.Eng Go.RowKit
set_option linter.unusedVariables false

def areB (l want : List Int) : Bool := decide (l = want ∧ ∀ x ∈ l, x ≠ 0)
theorem buildSI1 (a : Int) (w : World) : (Instr.buildSlice 22 1 #[(0, .int .i64 a)]).run Tryd.prog w = .ok (.slice (some ⟨w.heap.size, 0, none⟩) 1 1) (w.alloc (.cells #[.int .i64 a] 3)) := by kernel_rfl
theorem buildSI2 (a b : Int) (w : World) : (Instr.buildSlice 22 2 #[(0, .int .i64 a), (1, .int .i64 b)]).run Tryd.prog w = .ok (.slice (some ⟨w.heap.size, 0, none⟩) 2 2) (w.alloc (.cells #[.int .i64 a, .int .i64 b] 3)) := by kernel_rfl
theorem buildSI3 (a b c : Int) (w : World) : (Instr.buildSlice 22 3 #[(0, .int .i64 a), (1, .int .i64 b), (2, .int .i64 c)]).run Tryd.prog w = .ok (.slice (some ⟨w.heap.size, 0, none⟩) 3 3) (w.alloc (.cells #[.int .i64 a, .int .i64 b, .int .i64 c] 3)) := by kernel_rfl
theorem NewSl.stp {w w' : World} {T len : Nat} {cs : List Value} {v : Value} (h : NewSl w T len cs v w') : Stp [] w w' := h.choose_spec.2.2.2

def opsA : List Str := [[43], [45], [42]]
def opsC : List Str := [[60], [60, 61], [61], [33, 61], [62], [62, 61]]
def opsL : List Str := [[97, 110, 100], [111, 114]]
theorem opsA_words : wordsOf [43, 32, 45, 32, 42] = opsA := by decide
theorem opsC_words : wordsOf [60, 32, 60, 61, 32, 61, 32, 33, 61, 32, 62, 32, 62, 61] = opsC := by decide
theorem opsL_words : wordsOf [97, 110, 100, 32, 111, 114] = opsL := by decide
def binR (s : Str) (l : List Int) : Int :=
  if 0 ≤ idx (isS s) opsA ∧ areB l [1, 1] = true then 1 else if 0 ≤ idx (isS s) opsC ∧ (areB l [1, 1] = true ∨ areB l [3, 3] = true) then 2 else if 0 ≤ idx (isS s) opsL ∧ areB l [2, 2] = true then 2 else 0
end Go.Proofs.YtgpibcgebpgmiaaDoor

namespace Go.Proofs.YtgpibcgebpgmiaaDoor
open Go Go.Eng Go.RowKit
set_option linter.unusedVariables false

/-! ### signatures: a map keyed by structs -/
structure Sig where
  kind : Int
  s : Str
  a : Int
  b : Int
  c : Int
  deriving DecidableEq
abbrev sigV (x : Sig) : Value := .agg #[.int .i64 x.kind, str x.s, .int .i64 x.a, .int .i64 x.b, .int .i64 x.c]
theorem sig_eq (x y : Sig) (w : World) : (Op.equal 120 (sigV x) (sigV y)).run Tryd.prog w = .ok (decide (x = y)) w := by
  have h1 : Program.stoodInHeld Tryd.prog 120 = false := by kernel_rfl
  obtain ⟨i, hi⟩ : ∃ i, Tryd.prog.info? 3 = some i := by
    have := (inferInstance : Siz Tryd.prog 3 1).h
    cases h : Tryd.prog.info? 3 with
    | none => rw [h] at this; cases this
    | some i => exact ⟨i, rfl⟩
  have hc : Tryd.prog.cellsOf 3 = 1 := by kernel_rfl
  obtain ⟨k, s, a, b, c⟩ := x
  obtain ⟨k', s', a', b', c'⟩ := y
  simp [sigV, Op.equal, Op.maxDepth, run_equalIn_struct, h1, Program.fieldsOf, Tryd.underlying120, Op.eqFields, part, Und.isAgg, Siz.run, aggB, run_equalIn_int w _ _ .i64 .i64 _ _ Tryd.underlying3, run_equalIn_string w _ _ _ _ Tryd.underlying9, run_equalIn_array w _ _ _ Tryd.underlying115 hi, hc, Op.eqItems, List.range_succ_eq_map]
  repeat' split
  all_goals simp_all
theorem sig_chk (em : Bool) (x : Sig) (w : World) : (Instr.checkKey em 10000 120 (sigV x)).run Tryd.prog w = .ok () w := by kernel_rfl
instance : MKey Tryd.prog 120 Sig where
  enc := sigV
  chk := sig_chk
  find := fun a es l w hk => by
    have h2 := run_findKey_eq (P := Tryd.prog) (k := 120) w (by kernel_rfl) (sigV a) es
    have h3 := findAsking_of sigV sig_eq a w es l 0 hk
    simp only [Nat.zero_add] at h3
    exact h2.trans h3
end Go.Proofs.YtgpibcgebpgmiaaDoor

namespace Go.Proofs.YtgpibcgebpgmiaaDoor
open Go Go.Eng Go.RowKit
set_option linter.unusedVariables false

abbrev arr3 (a b c : Int) : Value := .agg #[.int .i64 a, .int .i64 b, .int .i64 c]
theorem buildA1 (a : Int) (w : World) : (Instr.build 115 #[(0, .int .i64 a)]).run Tryd.prog w = .ok (arr3 a 0 0) w := by kernel_rfl
theorem buildA2 (a b : Int) (w : World) : (Instr.build 115 #[(0, .int .i64 a), (1, .int .i64 b)]).run Tryd.prog w = .ok (arr3 a b 0) w := by kernel_rfl
theorem buildSg (k a b c : Int) (s : Str) (w : World) : (Instr.build 120 #[(0, .int .i64 k), (1, str s), (2, arr3 a b c)]).run Tryd.prog w = .ok (sigV ⟨k, s, a, b, c⟩) w := by kernel_rfl
theorem buildSS4 (a b c d : Str) (w : World) : (Instr.buildSlice 100 4 #[(0, str a), (1, str b), (2, str c), (3, str d)]).run Tryd.prog w = .ok (.slice (some ⟨w.heap.size, 0, none⟩) 4 4) (w.alloc (.cells #[str a, str b, str c, str d] 9)) := by kernel_rfl

abbrev SigE := Sig × Value
/-- the entries of the literal, by the number of the operation that inserts them -/
def ent : Nat → SigE
  | 5 => (⟨5, [45], 1, 0, 0⟩, .int .i64 1)
  | 10 => (⟨5, [110, 111, 116], 2, 0, 0⟩, .int .i64 2)
  | 15 => (⟨10, [110, 101, 120, 116], 3, 0, 0⟩, .int .i64 3)
  | 20 => (⟨10, [112, 114, 101, 118], 3, 0, 0⟩, .int .i64 3)
  | 26 => (⟨10, [108, 97, 116, 101, 114], 3, 3, 0⟩, .int .i64 3)
  | 32 => (⟨10, [101, 97, 114, 108, 105, 101, 114], 3, 3, 0⟩, .int .i64 3)
  | _ => (⟨10, [98, 101, 116, 119, 101, 101, 110], 3, 3, 0⟩, .int .i64 1)
def ents : List Nat := [5, 10, 15, 20, 26, 32, 38]
def units : List Str := [[100, 97, 121, 115], [119, 101, 101, 107, 115], [109, 111, 110, 116, 104, 115], [99, 111, 117, 114, 116, 100, 97, 121, 115]]
def unitE (u : Str) : List SigE := [(⟨7, u, 3, 1, 0⟩, .int .i64 3), (⟨8, u, 3, 1, 0⟩, .int .i64 3)]
def sigs : List SigE := ents.map ent ++ units.flatMap unitE
theorem sigs_nodup : (sigs.map (·.1)).Nodup := by decide
theorem mget_perm {κ : Type} [DecidableEq κ] {l m : List (κ × Value)} (hp : l.Perm m) (hn : (m.map (·.1)).Nodup) (a : κ) (z : Value) : mget l a z = mget m a z := by
  have hn' : (l.map (·.1)).Nodup := (hp.map _).nodup_iff.2 hn
  have key : ∀ (l m : List (κ × Value)), (∀ p, p ∈ l → p ∈ m) → (m.map (·.1)).Nodup → ∀ p, l.find? (fun p => decide (p.1 = a)) = some p → m.find? (fun p => decide (p.1 = a)) = some p := by
    intro l m hs hm p hf
    have hpm := hs p (List.mem_of_find?_eq_some hf)
    have hpa : p.1 = a := by simpa using List.find?_some hf
    cases hq : m.find? (fun p => decide (p.1 = a)) with
    | none => exact absurd (List.find?_eq_none.1 hq p hpm) (by simp [hpa])
    | some q =>
      have hqm := List.mem_of_find?_eq_some hq
      have hqa : q.1 = a := by simpa using List.find?_some hq
      obtain ⟨i, hi, rfl⟩ := List.getElem_of_mem hpm
      obtain ⟨j, hj, rfl⟩ := List.getElem_of_mem hqm
      have : i = j := by
        have h1 := (List.getElem_inj (xs := m.map (·.1)) (i := i) (j := j) (h₀ := by simpa using hi) (h₁ := by simpa using hj) hm).1 (by simp [hpa, hqa])
        exact h1
      subst this
      rfl
  unfold mget
  cases h1 : l.find? (fun p => decide (p.1 = a)) with
  | some p => rw [key l m (fun p h => hp.mem_iff.1 h) hn p h1]
  | none =>
    cases h2 : m.find? (fun p => decide (p.1 = a)) with
    | none => rfl
    | some p => rw [key m l (fun p h => hp.mem_iff.2 h) hn' p h2] at h1; cases h1

theorem signatures_any (w : World) : Calls Tryd.prog 75 #[] w (Ret fun r w' => ∃ (m : Nat) (l : List SigE), r = .map (some m) ∧ MapAt sigV w' m l ∧ l.Perm sigs ∧ Stp [] w w') := by
  refine calls_of_WC0 (n := 62) Tryd.func75 rfl rfl ?_
  refine W ?_
  refine WC_drawn 41 [] [5, 10, 15, 20, 26, 32, 38] [(1, 0), (2, 0), (3, 0), (4, 0), (6, 0), (7, 0), (8, 0), (9, 0), (11, 0), (12, 0), (13, 0), (14, 0), (16, 0), (17, 0), (18, 0), (19, 0), (21, 0), (22, 0), (23, 0), (24, 0), (25, 0), (27, 0), (28, 0), (29, 0), (30, 0), (31, 0), (33, 0), (34, 0), (35, 0), (36, 0), (37, 0), (0, 2), (5, 279241165504), (39, 0), (40, 0)] rfl mixed (by kernel_rfl) (by kernel_rfl) (by kernel_rfl) (fun w1 hS1 => ?_)
  repeat' (first | refine D1 ?_ | (apply WD_op; exact rfl; first | (apply WO_build (vs := [(0, .int .i64 _)]); exact trivial; exact rfl; exact buildA1 _; exact rfl) | (apply WO_build (vs := [(0, .int .i64 _), (1, .int .i64 _)]); exact trivial; exact rfl; exact buildA2 _ _; exact rfl) | (apply WO_build (vs := [(0, .int .i64 _), (1, str _), (2, arr3 _ _ _)]); exact trivial; exact rfl; exact buildSg _ _ _ _ _; exact rfl)))
  refine WD_eff rfl trivial (OE_makeMap sigV) (fun _ _ h => h.choose_spec.2.2.2) rfl ?_
  rintro _ w2 ⟨m, rfl, hm, hmap, hS2⟩
  have hw1 := hS1.size
  refine WD_set ents (fun rem w' => ∃ l, MapAt sigV w' m l ∧ (l ++ rem.map ent).Perm (ents.map ent) ∧ Stp [m] w2 w') rfl (by decide) (by decide) ⟨[], hmap, by simp, Stp.refl _ _⟩ ?_ ?_
  · rintro rem j w' hsub hj ⟨l, hl, hp, hS⟩
    have hkeys : ((l ++ rem.map ent).map (·.1)).Nodup := (hp.map (·.1)).nodup_iff.2 (by decide)
    have hfresh : ∀ p ∈ l, ¬ p.1 = (ent j).1 := by
      intro p hp e
      rw [List.map_append, List.nodup_append] at hkeys
      exact hkeys.2.2 p.1 (List.mem_map_of_mem hp) (ent j).1 (by rw [List.map_map]; exact List.mem_map.2 ⟨j, hj, rfl⟩) e
    have gen : ∀ w'', MapAt sigV w'' m (l ++ [ent j]) → Stp [m] w' w'' → ∃ l, MapAt sigV w'' m l ∧ (l ++ (rem.erase j).map ent).Perm (ents.map ent) ∧ Stp [m] w2 w'' := by
      intro w'' h1 h2
      refine ⟨_, h1, ?_, hS.trans h2⟩
      refine List.Perm.trans ?_ hp
      rw [List.append_assoc]
      exact List.Perm.append_left l (((List.perm_cons_erase hj).map ent).symm)
    have hjis := hsub.subset hj
    simp only [ents, List.mem_cons, List.not_mem_nil, or_false] at hjis
    rcases hjis with rfl | rfl | rfl | rfl | rfl | rfl | rfl
    all_goals exact ⟨_, rfl, rfl, trivial, (OE_insert (v := .int .i64 _) rfl rfl rfl hl hfresh).mono (fun _ w'' ⟨h1, h2⟩ => ⟨.inr rfl, gen w'' h1 h2⟩)⟩
  rintro w3 ⟨l, hl, hp, hS3⟩
  rw [List.map_nil, List.append_nil] at hp
  have hS : Stp [] w w3 := (hS1.trans hS2).own hS3 (fun b hb => .inr (by simp at hb; omega))
  have hmw : w.heap.size ≤ m := by omega
  clear hmap hS2 hS3
  repeat' (first | refine D1 ?_ | refine WD_splitN rfl rfl rfl rfl (fun hg => ?_) (fun hg => ?_) | (refine WD_splitBN rfl rfl rfl rfl (fun hg => ?_) (fun hg => ?_) <;> refine D1 ?_) | fail)
  refine W ?_
  refine WL_eff (OE_buildSlice (vs := [(0, str [100, 97, 121, 115]), (1, str [119, 101, 101, 107, 115]), (2, str [109, 111, 110, 116, 104, 115]), (3, str [99, 111, 117, 114, 116, 100, 97, 121, 115])]) rfl (buildSS4 _ _ _ _)) rfl ?_
  rintro uv w4 hN
  have hu : SlV [m] w4 uv units := hN.slv (fun b hb => by simp at hb; subst hb; exact hl.lt) rfl rfl (by simp [units, maxLen])
  have hS4 := NewSl.stp hN
  clear hN
  replace hl := hl.up hS4
  replace hS := hS.trans hS4
  have hkind : ∀ p ∈ l, p.1.kind = 5 ∨ p.1.kind = 10 := fun p hpl => by
    have hpe := hp.mem_iff.1 hpl
    simp only [ents, List.map_cons, List.map_nil, List.mem_cons, List.not_mem_nil, or_false] at hpe
    rcases hpe with rfl | rfl | rfl | rfl | rfl | rfl | rfl <;> decide
  have hseen : ∀ k (h : k < units.length), ∀ p ∈ (units.take k).flatMap unitE, ¬ p.1.s = units[k] := by
    intro k h
    match k, h with
    | 0, _ => (show ∀ p ∈ (units.take 0).flatMap unitE, ¬ p.1.s = units[0]'(by decide)); decide
    | 1, _ => (show ∀ p ∈ (units.take 1).flatMap unitE, ¬ p.1.s = units[1]'(by decide)); decide
    | 2, _ => (show ∀ p ∈ (units.take 2).flatMap unitE, ¬ p.1.s = units[2]'(by decide)); decide
    | 3, _ => (show ∀ p ∈ (units.take 3).flatMap unitE, ¬ p.1.s = units[3]'(by decide)); decide
  refine W ?_
  refine WC_loop (σ := Nat) (fun k => [(1, .int .i64 1), (3, .int .i64 3), (4, .map (some m)), (40, uv), (41, .int .i64 4), (42, .int .i64 k)]) (fun k w' => k ≤ 4 ∧ MapAt sigV w' m (l ++ (units.take k).flatMap unitE) ∧ Stp [m] w4 w') (fun k => 4 - k) 0 ⟨rfl, rfl, rfl, rfl, rfl, rfl, trivial⟩ ⟨by omega, by simpa using hl, Stp.refl _ _⟩ ?_
  rintro k w5 ⟨hk, hmk, hS5⟩
  have hu5 : SlV [m] w5 uv units := hu.ext hS5 (by simp) (fun b hb => .inl hb)
  by_cases hlt : k < 4
  · have hlt2 : k < units.length := hlt
    have hfr : ∀ (t : Int), ¬ t = 5 → ¬ t = 10 → ∀ p ∈ l ++ (units.take k).flatMap unitE, ¬ p.1 = ⟨t, units[k], 3, 1, 0⟩ := by
      intro t h5 h10 p hpm e
      rcases List.mem_append.1 hpm with h | h
      · have := hkind p h
        rw [e] at this
        rcases this with h | h
        · exact h5 h
        · exact h10 h
      · exact hseen k hlt2 p h (by rw [e])
    repeat' (first | refine W1 ?_ | (exfalso; omega) | refine WL_split rfl rfl (fun hg => ?_) (fun hg => ?_) | refine WL_splitB rfl rfl (fun hg => ?_) (fun hg => ?_) | refine WC_cond rfl (fun hc => ?_) (fun hc => ?_) | refine WC_condB rfl (fun hc => ?_) (fun hc => ?_))
    apply WL_build (vs := [(0, .int .i64 3), (1, .int .i64 1)]) rfl (buildA2 _ _) rfl
    apply WL_build (vs := [(0, .int .i64 7), (1, str _), (2, arr3 _ _ _)]) rfl (buildSg _ _ _ _ _) rfl
    refine W ?_
    refine WL_eff0 (OE_mapAdd (a := (⟨7, units[k], 3, 1, 0⟩ : Sig)) (v := .int .i64 3) rfl rfl rfl hmk (hfr 7 (by decide) (by decide))) ?_
    rintro _ w6 ⟨hm6, hS6⟩
    refine W ?_
    apply WL_build (vs := [(0, .int .i64 3), (1, .int .i64 1)]) rfl (buildA2 _ _) rfl
    apply WL_build (vs := [(0, .int .i64 8), (1, str _), (2, arr3 _ _ _)]) rfl (buildSg _ _ _ _ _) rfl
    refine W ?_
    refine WL_eff0 (OE_mapAdd (a := (⟨8, units[k], 3, 1, 0⟩ : Sig)) (v := .int .i64 3) rfl rfl rfl hm6 (fun p hpm e => by
      rcases List.mem_append.1 hpm with h | h
      · exact hfr 8 (by decide) (by decide) p h e
      · simp only [List.mem_singleton] at h
        subst h
        simp at e)) ?_
    rintro _ w7 ⟨hm7, hS7⟩
    refine W ?_
    refine WQ_loop (k + 1) ⟨rfl, rfl, rfl, rfl, rfl, rfl, trivial⟩ ⟨by omega, ?_, (hS5.trans hS6).trans hS7⟩ (by omega)
    rw [List.take_succ_eq_append_getElem hlt2, List.flatMap_append]
    have e : l ++ ((units.take k).flatMap unitE ++ [units[k]].flatMap unitE) = (l ++ (units.take k).flatMap unitE ++ [((⟨7, units[k], 3, 1, 0⟩ : Sig), Value.int .i64 3)]) ++ [((⟨8, units[k], 3, 1, 0⟩ : Sig), Value.int .i64 3)] := by simp [unitE]
    rw [e]
    exact hm7
  · have hke : k = 4 := by omega
    subst hke
    repeat' (first | refine W1 ?_ | (exfalso; omega) | refine WL_split rfl rfl (fun hg => ?_) (fun hg => ?_) | refine WL_splitB rfl rfl (fun hg => ?_) (fun hg => ?_) | refine WC_cond rfl (fun hc => ?_) (fun hc => ?_) | refine WC_condB rfl (fun hc => ?_) (fun hc => ?_))
    first | refine WQ_ret1 rfl rfl ?_ | refine WQ_ret2 rfl rfl rfl ?_ | refine WQ_ret3 rfl rfl rfl rfl ?_ | refine WQ_ret0 rfl ?_ | refine WQ_end0 rfl ?_
    exact .mk ⟨m, _, rfl, hmk, hp.append_right _, hS.own hS5 (fun b hb => .inr (by simp at hb; omega))⟩
/-- the value at a signature -/
def sigF (x : Sig) : Value := mget sigs x (.int .i64 0)
end Go.Proofs.YtgpibcgebpgmiaaDoor

namespace Go.Proofs.YtgpibcgebpgmiaaDoor
open Go Go.Eng Go.RowKit
set_option linter.unusedVariables false

def binT (s : Str) (a b : Int) : Int :=
  if s ∈ opsA then (if a = b ∧ a = 1 then 1 else 0) else if s ∈ opsC then (if a = b ∧ ¬ a = 2 then 2 else 0) else if s ∈ opsL then (if a = b ∧ a = 2 then 2 else 0) else 0
theorem binary_any (s : Str) (a b c : Int) (w : World) : Calls Tryd.prog 74 #[str s, arr3 a b c] w (Ret fun r w' => r = .int .i64 (binT s a b) ∧ Stp [] w w') := by
  refine calls_of_WC2 (n := 46) Tryd.func74 rfl rfl rfl ?_
  refine W ?_
  refine WL_eff (OE_box rfl) rfl ?_
  rintro _ w1 ⟨q, rfl, hq, hblk, hS⟩
  replace hblk : Blk w1 q _ [.int .i64 a, .int .i64 b, .int .i64 c] := hblk
  refine W ?_
  by_cases hA : s ∈ opsA
  · unfold binT
    rw [if_pos hA]
    simp only [opsA, List.mem_cons, List.not_mem_nil, or_false] at hA
    rcases hA with rfl | rfl | rfl
    all_goals (repeat' (first | refine W1 ?_ | (exfalso; omega) | refine WL_split rfl rfl (fun hg => ?_) (fun hg => ?_) | refine WL_splitB rfl rfl (fun hg => ?_) (fun hg => ?_) | refine WC_cond rfl (fun hc => ?_) (fun hc => ?_) | refine WC_condB rfl (fun hc => ?_) (fun hc => ?_)))
    all_goals (first | refine WQ_ret1 rfl rfl ?_ | refine WQ_ret2 rfl rfl rfl ?_ | refine WQ_ret3 rfl rfl rfl rfl ?_ | refine WQ_ret0 rfl ?_ | refine WQ_end0 rfl ?_)
    all_goals refine .mk ⟨?_, hS⟩
    all_goals first
      | rw [if_pos ⟨by assumption, by assumption⟩]
      | rw [if_neg (fun h => by omega)]
  by_cases hC : s ∈ opsC
  · unfold binT
    rw [if_neg hA, if_pos hC]
    simp only [opsC, List.mem_cons, List.not_mem_nil, or_false] at hC
    rcases hC with rfl | rfl | rfl | rfl | rfl | rfl
    all_goals (repeat' (first | refine W1 ?_ | (exfalso; omega) | refine WL_split rfl rfl (fun hg => ?_) (fun hg => ?_) | refine WL_splitB rfl rfl (fun hg => ?_) (fun hg => ?_) | refine WC_cond rfl (fun hc => ?_) (fun hc => ?_) | refine WC_condB rfl (fun hc => ?_) (fun hc => ?_)))
    all_goals (first | refine WQ_ret1 rfl rfl ?_ | refine WQ_ret2 rfl rfl rfl ?_ | refine WQ_ret3 rfl rfl rfl rfl ?_ | refine WQ_ret0 rfl ?_ | refine WQ_end0 rfl ?_)
    all_goals refine .mk ⟨?_, hS⟩
    all_goals first
      | rw [show (if a = b ∧ ¬ a = 2 then (2 : Int) else 0) = 2 from if_pos (by omega)]
      | rw [show (if a = b ∧ ¬ a = 2 then (2 : Int) else 0) = 0 from if_neg (by omega)]
  by_cases hL : s ∈ opsL
  · unfold binT
    rw [if_neg hA, if_neg hC, if_pos hL]
    simp only [opsL, List.mem_cons, List.not_mem_nil, or_false] at hL
    rcases hL with rfl | rfl
    all_goals (repeat' (first | refine W1 ?_ | (exfalso; omega) | refine WL_split rfl rfl (fun hg => ?_) (fun hg => ?_) | refine WL_splitB rfl rfl (fun hg => ?_) (fun hg => ?_) | refine WC_cond rfl (fun hc => ?_) (fun hc => ?_) | refine WC_condB rfl (fun hc => ?_) (fun hc => ?_)))
    all_goals (first | refine WQ_ret1 rfl rfl ?_ | refine WQ_ret2 rfl rfl rfl ?_ | refine WQ_ret3 rfl rfl rfl rfl ?_ | refine WQ_ret0 rfl ?_ | refine WQ_end0 rfl ?_)
    all_goals refine .mk ⟨?_, hS⟩
    all_goals first
      | rw [if_pos ⟨by assumption, by assumption⟩]
      | rw [if_neg (fun h => by omega)]
  unfold binT
  rw [if_neg hA, if_neg hC, if_neg hL]
  simp only [opsA, opsC, opsL, List.mem_cons, List.not_mem_nil, or_false, not_or] at hA hC hL
  obtain ⟨a1, a2, a3⟩ := hA
  obtain ⟨b1, b2, b3, b4, b5, b6⟩ := hC
  obtain ⟨c1, c2⟩ := hL
  repeat' (first | refine W1 ?_ | refine WC_cond rfl (fun hc => absurd hc (by assumption)) (fun hc => ?_))
  first | refine WQ_ret1 rfl rfl ?_ | refine WQ_ret2 rfl rfl rfl ?_ | refine WQ_ret3 rfl rfl rfl rfl ?_ | refine WQ_ret0 rfl ?_ | refine WQ_end0 rfl ?_
  exact .mk ⟨rfl, hS⟩
end Go.Proofs.YtgpibcgebpgmiaaDoor

namespace Go.Proofs.YtgpibcgebpgmiaaDoor
open Go Go.Eng Go.RowKit
set_option linter.unusedVariables false

theorem _root_.Go.Eng.SlV.any {α : Type} [GoRep α] {X : List Nat} {w : World} {v : Value} {xs : List α} (h : SlV X w v xs) : SlV [] w v xs := h.ext (Stp.refl [] w) (by simp) (by simp)
/-- behind a new block, which may be written -/
theorem _root_.Go.Eng.SlV.new {α : Type} [GoRep α] {X : List Nat} {w w' : World} {v : Value} {xs : List α} (h : SlV X w v xs) (hS : Stp [] w w') (b : Nat) (hb : w.heap.size ≤ b) : SlV [b] w' v xs :=
  h.ext hS (by simp) (fun c hc => .inr (by simp at hc; omega))
theorem _root_.Go.Eng.SlV.on {α : Type} [GoRep α] {X S : List Nat} {w w' : World} {v : Value} {xs : List α} (h : SlV X w v xs) (hS : Stp S w w') (hs : ∀ b ∈ S, b ∈ X) : SlV X w' v xs := h.ext hS hs (fun _ h => .inl h)
def sigI (x : Sig) : Int := match sigF x with | .int _ z => z | _ => 0
theorem sigF_int (x : Sig) : sigF x = .int .i64 (sigI x) := by
  have : ∀ p ∈ sigs, ∃ z, p.2 = Value.int .i64 z := by
    intro p hp
    simp only [sigs, ents, units, List.map_cons, List.map_nil, List.flatMap_cons, List.flatMap_nil, unitE, List.cons_append, List.nil_append, List.append_nil, List.mem_cons, List.not_mem_nil, or_false, ent] at hp
    rcases hp with rfl | rfl | rfl | rfl | rfl | rfl | rfl | rfl | rfl | rfl | rfl | rfl | rfl | rfl | rfl <;> exact ⟨_, rfl⟩
  unfold sigI sigF mget
  cases h : sigs.find? (fun p => decide (p.1 = x)) with
  | none => rfl
  | some p =>
    obtain ⟨z, hz⟩ := this p (List.mem_of_find?_eq_some h)
    simp only [hz]
/-- the type of a node for those of its kids -/
def combT (k n : Int) (s : Str) (ts : List Int) : Int :=
  if ts.length > 3 then 0 else if (0 : Int) ∈ ts then 0 else if ts = [] then leafN k n s else if ¬ n = 0 then 0
  else if k = 9 ∧ s = [] ∧ ts.getD 0 0 = 2 ∧ ts.getD 1 0 = ts.getD 2 0 then ts.getD 1 0
  else if k = 6 ∧ ts.getD 2 0 = 0 then binT s (ts.getD 0 0) (ts.getD 1 0) else sigI ⟨k, s, ts.getD 0 0, ts.getD 1 0, ts.getD 2 0⟩
def typeT : Nd → Int
  | .mk k n s l => combT k n s (l.map typeT)
theorem typeT_eq (x : Nd) : typeT x = combT x.kind x.num x.word (x.kids.map typeT) := by
  cases x
  rw [typeT]
  rfl
def arrC (ts : List Int) (k : Nat) : List Value := [.int .i64 (if 0 < k then ts.getD 0 0 else 0), .int .i64 (if 1 < k then ts.getD 1 0 else 0), .int .i64 (if 2 < k then ts.getD 2 0 else 0)]
theorem arrC_set (ts : List Int) (k : Nat) (hk : k < 3) : (arrC ts k).set (0 + k * 1) (.int .i64 (ts.getD k 0)) = arrC ts (k + 1) := by
  match k, hk with
  | 0, _ => rfl
  | 1, _ => rfl
  | 2, _ => rfl
theorem arrC_get (ts : List Int) (k : Nat) (hk : k < 3) : (arrC ts (k + 1))[0 + k * 1]? = some (.int .i64 (ts.getD k 0)) := by
  match k, hk with
  | 0, _ => rfl
  | 1, _ => rfl
  | 2, _ => rfl
theorem arrC_end (ts : List Int) (h : ts.length ≤ 3) : arrC ts ts.length = [.int .i64 (ts.getD 0 0), .int .i64 (ts.getD 1 0), .int .i64 (ts.getD 2 0)] := by
  match ts, h with
  | [], _ => rfl
  | [a], _ => rfl
  | [a, b], _ => rfl
  | [a, b, c], _ => rfl
theorem of_any (x : Nd) : ∀ (X XF : List Nat) (v : Value) (w : World), NdV X w v x → SlV XF w flds fieldNames →
    Calls Tryd.prog 33 #[v] w (Ret fun r w' => r = .int .i64 (typeT x) ∧ Stp [] w w') := by
  induction x using Nd.ind with
  | h k n s l ih =>
  intro X XF v w hx hF
  generalize hxe : Nd.mk k n s l = x at *
  have ih' : ∀ y ∈ x.kids, ∀ (X XF : List Nat) (v : Value) (w : World), NdV X w v y → SlV XF w flds fieldNames → Calls Tryd.prog 33 #[v] w (Ret fun r w' => r = .int .i64 (typeT y) ∧ Stp [] w w') := by
    subst hxe; exact ih
  clear ih hxe k n s l
  have hx0 := hx
  obtain ⟨kv, rfl, hs⟩ := hx
  have hmax := hs.max
  rw [typeT_eq]
  have hlen : (x.kids.map typeT).length = x.kids.length := by simp
  have hget : ∀ k (h : k < x.kids.length), (x.kids.map typeT).getD k 0 = typeT x.kids[k] := fun k h => by simp [List.getD, h]
  generalize hts : x.kids.map typeT = ts at *
  refine calls_of_WC1 (n := 80) Tryd.func33 rfl rfl rfl ?_
  refine W ?_
  refine WL_eff (OE_box rfl) rfl ?_
  rintro _ w1 ⟨b, rfl, hb, hblk, hS⟩
  replace hblk : Blk w1 b _ (ndC x kv) := hblk
  replace hs := hs.up hS
  replace hF := hF.up hS
  have hlt := hblk.lt
  refine W ?_
  refine WL_eff OE_alloc rfl ?_
  rintro _ w2 ⟨q, rfl, hq, harr, hS2⟩
  replace harr : Blk w2 q _ (arrC ts 0) := harr
  replace hblk := hblk.up hS2
  replace hs := hs.new hS2 q hq
  replace hF := hF.new hS2 q hq
  replace hS := hS.trans hS2
  have hwq : w.heap.size ≤ q := Nat.le_trans (Nat.le_trans hb (Nat.le_of_lt hlt)) hq
  have hbq : ¬ b = q := by omega
  repeat' (first | refine W1 ?_ | (exfalso; omega) | refine WL_split rfl rfl (fun hg => ?_) (fun hg => ?_) | refine WL_splitB rfl rfl (fun hg => ?_) (fun hg => ?_) | refine WC_cond rfl (fun hc => ?_) (fun hc => ?_) | refine WC_condB rfl (fun hc => ?_) (fun hc => ?_))
  · first | refine WQ_ret1 rfl rfl ?_ | refine WQ_ret2 rfl rfl rfl ?_ | refine WQ_ret3 rfl rfl rfl rfl ?_ | refine WQ_ret0 rfl ?_ | refine WQ_end0 rfl ?_
    refine .mk ⟨?_, hS⟩
    unfold combT
    rw [if_pos (by omega)]
  have hl3 : x.kids.length ≤ 3 := by omega
  refine WC_cutB (σ := Unit) (fun _ => [(1, .pointer (some ⟨b, 0, none⟩)), (3, .pointer (some ⟨q, 0, none⟩))]) (fun _ w' => Stp [q] w2 w' ∧ Blk w' q 115 [.int .i64 (ts.getD 0 0), .int .i64 (ts.getD 1 0), .int .i64 (ts.getD 2 0)] ∧ ¬ (0 : Int) ∈ ts) ?_ ?_
  · have hs0 := hs
    have hF0 := hF
    refine WC_loop (σ := Nat) (fun k => [(1, .pointer (some ⟨b, 0, none⟩)), (3, .pointer (some ⟨q, 0, none⟩)), (11, kv), (12, .int .i64 (x.kids.length : Int)), (13, .int .i64 k)]) (fun k w' => k ≤ x.kids.length ∧ Stp [q] w2 w' ∧ Blk w' q 115 (arrC ts k) ∧ ¬ (0 : Int) ∈ ts.take k) (fun k => x.kids.length - k) 0 ⟨rfl, rfl, rfl, rfl, rfl, trivial⟩ ⟨Nat.zero_le _, Stp.refl _ _, harr, by simp⟩ ?_
    clear hs hF harr
    rintro k w3 ⟨hk, hS3, harr, hno⟩
    have hs := hs0.on hS3 (by simp)
    have hF := hF0.on hS3 (by simp)
    by_cases hlt : k < x.kids.length
    · have hk3 : k < 3 := by omega
      have hg := hget k hlt
      have hset := arrC_set ts k hk3
      have hgt := arrC_get ts k hk3
      rw [hg] at hset hgt
      obtain ⟨kv2, hs2, hc2⟩ := hs.nd hlt
      repeat' (first | refine W1 ?_ | (exfalso; omega) | refine WL_split rfl rfl (fun hg => ?_) (fun hg => ?_) | refine WL_splitB rfl rfl (fun hg => ?_) (fun hg => ?_) | refine WC_cond rfl (fun hc => ?_) (fun hc => ?_) | refine WC_condB rfl (fun hc => ?_) (fun hc => ?_))
      apply WL_pure (PR_loadNd rfl rfl hs hlt hc2) rfl
      refine WL_eff OE_alloc rfl ?_
      rintro _ w4 ⟨b4, rfl, hb4, hblk4, hS4⟩
      have harl := harr.lt
      replace harr := harr.up hS4
      refine W ?_
      refine WL_eff0 (OE_storeA (us := ndC x.kids[k] kv2) rfl rfl rfl rfl (ndC_one hs2) hblk4 rfl) ?_
      rintro _ w5 ⟨hS5, hblk5⟩
      have h4q : ¬ b4 = q := by omega
      replace harr := harr.ext hS5 (by simp; omega)
      have hS45 := hS4.own hS5 (fun c hc => .inr (by simp at hc; omega))
      replace hs2 := hs2.up hS45
      replace hF := hF.up hS45
      refine W ?_
      refine WL_eff (OE_call rfl (evs1 rfl) (ih' x.kids[k] (List.getElem_mem hlt) _ _ _ _ ⟨kv2, rfl, hs2⟩ hF)) rfl ?_
      rintro _ w6 ⟨rfl, hS6⟩
      replace harr := harr.up hS6
      refine W ?_
      refine WL_eff0 (OE_store1 (u := .int .i64 (typeT x.kids[k])) rfl rfl rfl rfl harr (by simp [arrC]; omega)) ?_
      rintro _ w7 ⟨hS7, harr⟩
      rw [hset] at harr
      have hS37 := ((hS3.trans (hS45.mono (by simp))).trans (hS6.mono (by simp))).trans hS7
      have hnx : ts.take (k + 1) = ts.take k ++ [typeT x.kids[k]] := by
        rw [List.take_succ_eq_append_getElem (by omega)]
        congr 2
        subst hts
        simp
      repeat' (first | refine W1 ?_ | (exfalso; omega) | refine WL_split rfl rfl (fun hg => ?_) (fun hg => ?_) | refine WL_splitB rfl rfl (fun hg => ?_) (fun hg => ?_) | refine WC_cond rfl (fun hc => ?_) (fun hc => ?_) | refine WC_condB rfl (fun hc => ?_) (fun hc => ?_))
      apply WL_load1 rfl rfl (harr.cell hgt) rfl
      repeat' (first | refine W1 ?_ | (exfalso; omega) | refine WL_split rfl rfl (fun hg => ?_) (fun hg => ?_) | refine WL_splitB rfl rfl (fun hg => ?_) (fun hg => ?_) | refine WC_cond rfl (fun hc => ?_) (fun hc => ?_) | refine WC_condB rfl (fun hc => ?_) (fun hc => ?_))
      · first | refine WQ_ret1 rfl rfl ?_ | refine WQ_ret2 rfl rfl rfl ?_ | refine WQ_ret3 rfl rfl rfl rfl ?_ | refine WQ_ret0 rfl ?_ | refine WQ_end0 rfl ?_
        have h0' : typeT x.kids[k] = 0 := hc
        refine .mk ⟨?_, hS.own hS37 (fun c hc => .inr (by simp at hc; omega))⟩
        unfold combT
        rw [if_neg (by omega), if_pos]
        have : typeT x.kids[k] ∈ ts := by
          subst hts
          exact List.mem_map_of_mem (List.getElem_mem hlt)
        rwa [h0'] at this
      · refine WQ_loop (k + 1) ⟨rfl, rfl, rfl, rfl, rfl, trivial⟩ ⟨hlt, hS37, harr, ?_⟩ (by omega)
        rw [hnx, List.mem_append]
        rintro (h | h)
        · exact hno h
        · simp only [List.mem_singleton] at h
          exact hc h.symm
    · have hke : k = x.kids.length := by omega
      subst hke
      repeat' (first | refine W1 ?_ | (exfalso; omega) | refine WL_split rfl rfl (fun hg => ?_) (fun hg => ?_) | refine WL_splitB rfl rfl (fun hg => ?_) (fun hg => ?_) | refine WC_cond rfl (fun hc => ?_) (fun hc => ?_) | refine WC_condB rfl (fun hc => ?_) (fun hc => ?_))
      rw [← hlen, arrC_end ts (by omega)] at harr
      rw [← hlen, List.take_length] at hno
      exact WQ_cut () ⟨rfl, rfl, trivial⟩ ⟨hS3, harr, hno⟩
  rintro _ w3 ⟨hS3, harr, hno⟩
  replace hblk := hblk.ext hS3 (by simpa using hbq)
  replace hF := hF.on hS3 (by simp)
  replace hs := hs.on hS3 (by simp)
  replace hS := hS.own hS3 (fun c hc => .inr (by simp at hc; omega))
  unfold combT
  rw [if_neg (by omega), if_neg hno]
  by_cases h0 : x.kids.length = 0
  · rw [if_pos (List.length_eq_zero_iff.1 (by omega))]
    repeat' (first | refine W1 ?_ | (exfalso; omega) | refine WL_split rfl rfl (fun hg => ?_) (fun hg => ?_) | refine WL_splitB rfl rfl (fun hg => ?_) (fun hg => ?_) | refine WC_cond rfl (fun hc => ?_) (fun hc => ?_) | refine WC_condB rfl (fun hc => ?_) (fun hc => ?_))
    refine WL_eff (OE_call rfl (evs1 rfl) (leaf_any [q] _ x _ ⟨kv, rfl, hs⟩ hF.any)) rfl ?_
    rintro _ w4 ⟨rfl, hS4⟩
    refine W ?_
    first | refine WQ_ret1 rfl rfl ?_ | refine WQ_ret2 rfl rfl rfl ?_ | refine WQ_ret3 rfl rfl rfl rfl ?_ | refine WQ_ret0 rfl ?_ | refine WQ_end0 rfl ?_
    exact .mk ⟨rfl, hS.trans hS4⟩
  rw [if_neg (fun h => h0 (by rw [← hlen, h]; rfl))]
  clear hget hts
  generalize ts.getD 0 0 = a at *
  generalize ts.getD 1 0 = bb at *
  generalize ts.getD 2 0 = c at *
  repeat' (first | refine W1 ?_ | (exfalso; omega) | refine WL_split rfl rfl (fun hg => ?_) (fun hg => ?_) | refine WL_splitB rfl rfl (fun hg => ?_) (fun hg => ?_) | refine WC_cond rfl (fun hc => ?_) (fun hc => ?_) | refine WC_condB rfl (fun hc => ?_) (fun hc => ?_))
  · first | refine WQ_ret1 rfl rfl ?_ | refine WQ_ret2 rfl rfl rfl ?_ | refine WQ_ret3 rfl rfl rfl rfl ?_ | refine WQ_ret0 rfl ?_ | refine WQ_end0 rfl ?_
    exact .mk ⟨by rw [if_pos (by assumption)], hS⟩
  all_goals rw [if_neg (by assumption)]
  all_goals first
    | (have h9 : x.kind = 9 ∧ x.word = [] ∧ a = 2 ∧ bb = c := ⟨by assumption, by assumption, by assumption, by assumption⟩
       rw [if_pos h9]
       first | refine WQ_ret1 rfl rfl ?_ | refine WQ_ret2 rfl rfl rfl ?_ | refine WQ_ret3 rfl rfl rfl rfl ?_ | refine WQ_ret0 rfl ?_ | refine WQ_end0 rfl ?_
       exact .mk ⟨rfl, hS⟩)
    | rw [show (if x.kind = 9 ∧ x.word = [] ∧ a = 2 ∧ bb = c then bb else if x.kind = 6 ∧ c = 0 then binT x.word a bb else sigI ⟨x.kind, x.word, a, bb, c⟩) = if x.kind = 6 ∧ c = 0 then binT x.word a bb else sigI ⟨x.kind, x.word, a, bb, c⟩ from if_neg (fun h => by
        obtain ⟨h1, h2, h3, h4⟩ := h
        first | (exfalso; omega) | contradiction)]
  all_goals first
    | (have h6 : x.kind = 6 ∧ c = 0 := ⟨by assumption, by assumption⟩
       rw [if_pos h6]
       refine WL_eff (OE_call rfl (evs2 rfl rfl) (binary_any x.word a bb c _)) rfl ?_
       rintro _ w4 ⟨rfl, hS4⟩
       refine W ?_
       first | refine WQ_ret1 rfl rfl ?_ | refine WQ_ret2 rfl rfl rfl ?_ | refine WQ_ret3 rfl rfl rfl rfl ?_ | refine WQ_ret0 rfl ?_ | refine WQ_end0 rfl ?_
       exact .mk ⟨rfl, hS.trans hS4⟩)
    | rw [show (if x.kind = 6 ∧ c = 0 then binT x.word a bb else sigI ⟨x.kind, x.word, a, bb, c⟩) = sigI ⟨x.kind, x.word, a, bb, c⟩ from if_neg (fun h => by omega)]
  all_goals
    refine WC_drawn 9 [] [] [(1, 0), (2, 1), (3, 0), (4, 1), (5, 1), (6, 0), (0, 2), (7, 2), (8, 0)] rfl mixed (by kernel_rfl) (by kernel_rfl) (by kernel_rfl) (fun w1 hS1 => ?_)
    replace hblk := hblk.up hS1
    replace harr := harr.up hS1
    replace hS := hS.trans hS1
    refine D ?_
    apply WD_op
    exact rfl
    apply WO_build (vs := [(0, .int .i64 _), (1, str _), (2, arr3 _ _ _)])
    exact trivial
    exact rfl
    exact buildSg _ _ _ _ _
    exact rfl
    refine WD_eff rfl trivial (OE_call rfl evs0 (signatures_any _)) (fun _ _ h => h.choose_spec.choose_spec.2.2.2) rfl ?_
    rintro _ w5 ⟨m, ll, rfl, hm, hp, hS5⟩
    have hmg := sigF_int ⟨x.kind, x.word, a, bb, c⟩
    unfold sigF at hmg
    rw [← mget_perm hp sigs_nodup] at hmg
    refine WD_eff rfl trivial (OE_pr (PR_lookup (a := (⟨x.kind, x.word, a, bb, c⟩ : Sig)) rfl rfl hm)) (fun _ _ h => h.2 ▸ Stp.refl _ _) rfl ?_
    rintro _ _ ⟨rfl, rfl⟩
    rw [hmg]
    refine D ?_
    refine W ?_
    first | refine WQ_ret1 rfl rfl ?_ | refine WQ_ret2 rfl rfl rfl ?_ | refine WQ_ret3 rfl rfl rfl rfl ?_ | refine WQ_ret0 rfl ?_ | refine WQ_end0 rfl ?_
    exact .mk ⟨rfl, hS.trans hS5⟩
end Go.Proofs.YtgpibcgebpgmiaaDoor

namespace Go.Proofs.YtgpibcgebpgmiaaDoor
open Go Go.Eng Go.RowKit
set_option linter.unusedVariables false

theorem sig_vals : ∀ p ∈ sigs, ∃ z, p.2 = Value.int .i64 z := by
  intro p hp
  simp only [sigs, ents, units, List.map_cons, List.map_nil, List.flatMap_cons, List.flatMap_nil, unitE, List.cons_append, List.nil_append, List.append_nil, List.mem_cons, List.not_mem_nil, or_false, ent] at hp
  rcases hp with rfl | rfl | rfl | rfl | rfl | rfl | rfl | rfl | rfl | rfl | rfl | rfl | rfl | rfl | rfl <;> exact ⟨_, rfl⟩
theorem sigI_none {x : Sig} (h : ¬ ∃ p ∈ sigs, p.1 = x) : sigI x = 0 := by
  unfold sigI sigF mget
  have : sigs.find? (fun p => decide (p.1 = x)) = none := by
    rw [List.find?_eq_none]
    intro p hp
    simpa using fun e => h ⟨p, hp, e⟩
  rw [this]
def opsN : List Str := [[110, 101, 120, 116], [112, 114, 101, 118]]
def opsE : List Str := [[108, 97, 116, 101, 114], [101, 97, 114, 108, 105, 101, 114]]
theorem opsN_words : wordsOf [110, 101, 120, 116, 32, 112, 114, 101, 118] = opsN := by decide
theorem opsE_words : wordsOf [108, 97, 116, 101, 114, 32, 101, 97, 114, 108, 105, 101, 114] = opsE := by decide
theorem units_words : wordsOf [100, 97, 121, 115, 32, 119, 101, 101, 107, 115, 32, 109, 111, 110, 116, 104, 115, 32, 99, 111, 117, 114, 116, 100, 97, 121, 115] = units := by decide
theorem idx_mem {s : Str} {l : List Str} : 0 ≤ idx (isS s) l ↔ s ∈ l := by
  unfold idx
  cases h : l.findIdx? (isS s) with
  | none =>
    rw [List.findIdx?_eq_none_iff] at h
    constructor
    · intro h0
      simp at h0
    · intro hm
      have := h s hm
      simp at this
  | some i =>
    obtain ⟨hi, hp, _⟩ := List.findIdx?_eq_some_iff_getElem.1 h
    constructor
    · intro _
      have : l[i] = s := by simpa using hp
      rw [← this]
      exact List.getElem_mem _
    · intro _
      simp
def callR (s : Str) (l : List Int) : Int :=
  if 0 ≤ idx (isS s) opsN ∧ areB l [3] = true then 3 else if 0 ≤ idx (isS s) opsE ∧ areB l [3, 3] = true then 3 else if s = [98, 101, 116, 119, 101, 101, 110] ∧ areB l [3, 3] = true then 1 else 0
def combR (k n : Int) (s : Str) (ts : List Int) : Int :=
  if ts = [] then leafN k n s else if ¬ n = 0 then 0
  else if k = 5 then (if s = [45] ∧ areB ts [1] = true ∨ s = [110, 111, 116] ∧ areB ts [2] = true then ts.getD 0 0 else 0)
  else if k = 6 then binR s ts
  else if k = 7 ∨ k = 8 then (if 0 ≤ idx (isS s) units ∧ areB ts [3, 1] = true then 3 else 0)
  else if k = 9 then (if s = [] ∧ ts.length = 3 ∧ areB ts [2, ts.getD 1 0, ts.getD 1 0] = true then ts.getD 1 0 else 0)
  else if k = 10 then callR s ts else 0
theorem areB_iff {l m : List Int} : areB l m = true ↔ l = m ∧ ∀ x ∈ l, x ≠ 0 := by simp [areB]
theorem areB_no {l m : List Int} (h : ¬ (l = m ∧ ∀ x ∈ l, x ≠ 0)) : areB l m = false := by simp [areB]; simpa using h
/-- where no list of types fits, the node has no type -/
theorem combR_bad (k n : Int) (s : Str) (ts : List Int) (h0 : ¬ ts = []) (hb : (0 : Int) ∈ ts ∨ ts.length > 3) : combR k n s ts = 0 := by
  have hno : ∀ m : List Int, m.length ≤ 3 → areB ts m = false := fun m hm => areB_no (fun ⟨h1, h2⟩ => by
    rcases hb with hb | hb
    · exact h2 0 hb rfl
    · rw [h1] at hb; omega)
  unfold combR binR callR
  simp only [hno _ (show [(1 : Int)].length ≤ 3 by decide), hno _ (show [(2 : Int)].length ≤ 3 by decide), hno _ (show [(3 : Int)].length ≤ 3 by decide), hno [1, 1] (by decide), hno [3, 3] (by decide), hno [2, 2] (by decide), hno [3, 1] (by decide), hno [2, ts.getD 1 0, ts.getD 1 0] (by simp), if_neg h0]
  simp
theorem binR_eq (s : Str) (a b : Int) (ha : a ≠ 0) (hb : b ≠ 0) (hr : 1 ≤ a ∧ a ≤ 3) (hr2 : 1 ≤ b ∧ b ≤ 3) : binR s [a, b] = binT s a b := by
  unfold binR binT
  simp only [idx_mem, areB_iff]
  have e : ∀ c d : Int, ([a, b] = [c, d] ∧ ∀ x ∈ [a, b], x ≠ 0) ↔ (a = c ∧ b = d) := fun c d => by simp [ha, hb]
  simp only [e]
  by_cases hA : s ∈ opsA
  · have hC : ¬ s ∈ opsC := by
      simp only [opsA, List.mem_cons, List.not_mem_nil, or_false] at hA
      rcases hA with rfl | rfl | rfl <;> decide
    have hL : ¬ s ∈ opsL := by
      simp only [opsA, List.mem_cons, List.not_mem_nil, or_false] at hA
      rcases hA with rfl | rfl | rfl <;> decide
    simp only [hA, hC, hL, true_and, false_and, if_false, if_true]
    by_cases h1 : a = 1 ∧ b = 1
    · rw [if_pos h1, if_pos ⟨by omega, by omega⟩]
    · rw [if_neg h1, if_neg (fun h => by omega)]
  · simp only [hA, false_and, if_false]
    by_cases hC : s ∈ opsC
    · have hL : ¬ s ∈ opsL := by
        simp only [opsC, List.mem_cons, List.not_mem_nil, or_false] at hC
        rcases hC with rfl | rfl | rfl | rfl | rfl | rfl <;> decide
      simp only [hC, hL, true_and, false_and, if_false, if_true]
      by_cases h1 : a = 1 ∧ b = 1 ∨ a = 3 ∧ b = 3
      · rw [if_pos h1, if_pos ⟨by omega, by omega⟩]
      · rw [if_neg h1, if_neg (fun h => by omega)]
    · simp only [hC, false_and, if_false]
      by_cases hL : s ∈ opsL
      · simp only [hL, true_and, if_true]
        by_cases h1 : a = 2 ∧ b = 2
        · rw [if_pos h1, if_pos ⟨by omega, by omega⟩]
        · rw [if_neg h1, if_neg (fun h => by omega)]
      · simp only [hL, false_and, if_false]

def keysS : List Sig := sigs.map (·.1)
def sigG (k : Int) (s : Str) (a b c : Int) : Int :=
  if c = 0 then
    if b = 0 then (if k = 5 ∧ s = [45] ∧ a = 1 then 1 else if k = 5 ∧ s = [110, 111, 116] ∧ a = 2 then 2 else if k = 10 ∧ s ∈ opsN ∧ a = 3 then 3 else 0)
    else if a = 3 ∧ b = 3 ∧ k = 10 ∧ s ∈ opsE then 3 else if a = 3 ∧ b = 3 ∧ k = 10 ∧ s = [98, 101, 116, 119, 101, 101, 110] then 1 else if a = 3 ∧ b = 1 ∧ (k = 7 ∨ k = 8) ∧ s ∈ units then 3 else 0
  else 0
theorem keys_all : ∀ x ∈ keysS, sigI x = sigG x.kind x.s x.a x.b x.c := by
  intro x hx
  simp only [keysS, sigs, ents, units, List.map_cons, List.map_nil, List.flatMap_cons, List.flatMap_nil, unitE, List.cons_append, List.nil_append, List.append_nil, List.mem_cons, List.not_mem_nil, or_false, ent] at hx
  rcases hx with rfl | rfl | rfl | rfl | rfl | rfl | rfl | rfl | rfl | rfl | rfl | rfl | rfl | rfl | rfl <;> decide
theorem sigI_eq (k : Int) (s : Str) (a b c : Int) : sigI ⟨k, s, a, b, c⟩ = sigG k s a b c := by
  by_cases hx : (⟨k, s, a, b, c⟩ : Sig) ∈ keysS
  · exact keys_all _ hx
  · rw [sigI_none (fun ⟨p, hp, e⟩ => hx (e ▸ List.mem_map_of_mem hp))]
    unfold sigG
    symm
    split
    · rename_i hc
      subst hc
      split
      · rename_i hb
        subst hb
        split
        · rename_i h; obtain ⟨rfl, rfl, rfl⟩ := h; exact absurd (by decide) hx
        split
        · rename_i h; obtain ⟨rfl, rfl, rfl⟩ := h; exact absurd (by decide) hx
        split
        · rename_i h
          obtain ⟨rfl, h, rfl⟩ := h
          simp only [opsN, List.mem_cons, List.not_mem_nil, or_false] at h
          rcases h with rfl | rfl <;> exact absurd (by decide) hx
        rfl
      · split
        · rename_i h
          obtain ⟨rfl, rfl, rfl, h⟩ := h
          simp only [opsE, List.mem_cons, List.not_mem_nil, or_false] at h
          rcases h with rfl | rfl <;> exact absurd (by decide) hx
        split
        · rename_i h; obtain ⟨rfl, rfl, rfl, rfl⟩ := h; exact absurd (by decide) hx
        split
        · rename_i h
          obtain ⟨rfl, rfl, h1, h⟩ := h
          simp only [units, List.mem_cons, List.not_mem_nil, or_false] at h
          rcases h1 with rfl | rfl <;> rcases h with rfl | rfl | rfl | rfl <;> exact absurd (by decide) hx
        rfl
    · rfl
theorem areB1 {a x : Int} (ha : a ≠ 0) : areB [a] [x] = decide (a = x) := by simp [areB, ha]
theorem areB2 {a b x y : Int} (ha : a ≠ 0) (hb : b ≠ 0) : areB [a, b] [x, y] = decide (a = x ∧ b = y) := by simp [areB, ha, hb]
theorem areB3 {a b c x y z : Int} (ha : a ≠ 0) (hb : b ≠ 0) (hc : c ≠ 0) : areB [a, b, c] [x, y, z] = decide (a = x ∧ b = y ∧ c = z) := by simp [areB, ha, hb, hc]
theorem areB_len {l m : List Int} (h : ¬ l.length = m.length) : areB l m = false := areB_no (fun h' => h (by rw [h'.1]))
theorem combR_eq (k n : Int) (s : Str) (ts : List Int) (hr : ∀ t ∈ ts, 0 ≤ t ∧ t ≤ 3) : combR k n s ts = combT k n s ts := by
  by_cases h0 : ts = []
  · subst h0; simp [combR, combT]
  by_cases hb : (0 : Int) ∈ ts ∨ ts.length > 3
  · rw [combR_bad k n s ts h0 hb]
    unfold combT
    rcases hb with hb | hb
    · simp [hb]
    · simp [show ts.length > 3 from hb]
  have hz : ¬ (0 : Int) ∈ ts := fun h => hb (.inl h)
  have hl : ¬ ts.length > 3 := fun h => hb (.inr h)
  unfold combR combT
  rw [if_neg h0, if_neg hl, if_neg hz, if_neg h0]
  by_cases hn : ¬ n = 0
  · rw [if_pos hn, if_pos hn]
  rw [if_neg hn, if_neg hn]
  match ts, h0, hl with
  | [a], _, _ =>
    have ha : a ≠ 0 := fun e => hz (by simp [e])
    have hra := hr a (by simp)
    simp only [List.getD_cons_zero, List.getD_cons_succ, List.getD_nil, sigI_eq, callR, binR, idx_mem, areB1 ha, areB_len (show ¬ [a].length = [(1 : Int), 1].length by simp), areB_len (show ¬ [a].length = [(3 : Int), 3].length by simp), areB_len (show ¬ [a].length = [(2 : Int), 2].length by simp), areB_len (show ¬ [a].length = [(3 : Int), 1].length by simp), decide_eq_true_eq]
    have hb0 : binT s a 0 = 0 := by
      unfold binT
      have h1 : ¬ (a = 0 ∧ a = 1) := fun h => ha h.1
      have h2 : ¬ (a = 0 ∧ ¬ a = 2) := fun h => ha h.1
      have h3 : ¬ (a = 0 ∧ a = 2) := fun h => ha h.1
      simp only [if_neg h1, if_neg h2, if_neg h3, ite_self]
    simp only [hb0, sigG, List.length_cons, List.length_nil, Bool.false_eq_true, and_false, or_self, if_false]
    grind (splits := 40)
  | [a, b], _, _ =>
    have ha : a ≠ 0 := fun e => hz (by simp [e])
    have hb : b ≠ 0 := fun e => hz (by simp [e])
    have hra := hr a (by simp)
    have hrb := hr b (by simp)
    simp only [List.getD_cons_zero, List.getD_cons_succ, List.getD_nil, sigI_eq, callR, binR_eq s a b ha hb (by omega) (by omega), idx_mem, areB2 ha hb, areB_len (show ¬ [a, b].length = [(1 : Int)].length by simp), areB_len (show ¬ [a, b].length = [(2 : Int)].length by simp), areB_len (show ¬ [a, b].length = [(3 : Int)].length by simp), decide_eq_true_eq]
    simp only [sigG, List.length_cons, List.length_nil, Bool.false_eq_true, and_false, or_self, if_false]
    grind (splits := 40)
  | [a, b, c], _, _ =>
    have ha : a ≠ 0 := fun e => hz (by simp [e])
    have hb : b ≠ 0 := fun e => hz (by simp [e])
    have hc : c ≠ 0 := fun e => hz (by simp [e])
    have hra := hr a (by simp)
    have hrb := hr b (by simp)
    have hrc := hr c (by simp)
    simp only [List.getD_cons_zero, List.getD_cons_succ, sigI_eq, callR, binR, idx_mem, areB3 ha hb hc, areB_len (show ¬ [a, b, c].length = [(1 : Int)].length by simp), areB_len (show ¬ [a, b, c].length = [(2 : Int)].length by simp), areB_len (show ¬ [a, b, c].length = [(3 : Int)].length by simp), areB_len (show ¬ [a, b, c].length = [(1 : Int), 1].length by simp), areB_len (show ¬ [a, b, c].length = [(3 : Int), 3].length by simp), areB_len (show ¬ [a, b, c].length = [(2 : Int), 2].length by simp), areB_len (show ¬ [a, b, c].length = [(3 : Int), 1].length by simp), decide_eq_true_eq]
    simp only [sigG, List.length_cons, List.length_nil, Bool.false_eq_true, and_false, or_self, if_false]
    grind (splits := 40)
  | _ :: _ :: _ :: _ :: _, _, hl => exact absurd (by simp) hl
end Go.Proofs.YtgpibcgebpgmiaaDoor

namespace Go.Proofs.YtgpibcgebpgmiaaDoor
open Go Go.Eng Go.RowKit
set_option linter.unusedVariables false

theorem leafN_range (k n : Int) (s : Str) : 0 ≤ leafN k n s ∧ leafN k n s ≤ 3 := by
  have h : 0 ≤ (fieldF s).2.1 ∧ (fieldF s).2.1 ≤ 3 := by
    unfold fieldF
    dsimp only
    split
    · simp
    · split <;> simp
  unfold leafN
  grind
theorem combT_range (k n : Int) (s : Str) (ts : List Int) (hr : ∀ t ∈ ts, 0 ≤ t ∧ t ≤ 3) : 0 ≤ combT k n s ts ∧ combT k n s ts ≤ 3 := by
  unfold combT
  split
  · omega
  split
  · omega
  split
  · exact leafN_range _ _ _
  split
  · omega
  have hg : ∀ i, 0 ≤ ts.getD i 0 ∧ ts.getD i 0 ≤ 3 := by
    intro i
    by_cases hi : i < ts.length
    · have := hr ts[i] (List.getElem_mem hi)
      simpa [List.getD, hi] using this
    · simp [List.getD, List.getElem?_eq_none (Nat.le_of_not_lt hi)]
  split
  · exact hg 1
  split
  · unfold binT
    split
    · split <;> omega
    split
    · split <;> omega
    split
    · split <;> omega
    · omega
  · rw [sigI_eq]
    unfold sigG
    grind
theorem typeT_range (x : Nd) : 0 ≤ typeT x ∧ typeT x ≤ 3 := by
  induction x using Nd.ind with
  | h k n s l ih =>
  rw [typeT_eq]
  refine combT_range _ _ _ _ (fun t ht => ?_)
  obtain ⟨y, hy, rfl⟩ := List.mem_map.1 ht
  exact ih y hy
theorem typeT_R (x : Nd) : typeT x = combR x.kind x.num x.word (x.kids.map typeT) := by
  rw [typeT_eq, combR_eq]
  intro t ht
  obtain ⟨y, hy, rfl⟩ := List.mem_map.1 ht
  exact typeT_range y

/-! ### nesting -/
def nestN : Nd → Nat
  | .mk k n s l => 1 + (l.map nestN).foldl max 0
theorem nestN_eq (x : Nd) : nestN x = 1 + (x.kids.map nestN).foldl max 0 := by
  cases x
  rw [nestN]
  rfl
theorem foldl_max_le (l : List Nat) : ∀ (m b : Nat), l.foldl max m ≤ b ↔ m ≤ b ∧ ∀ x ∈ l, x ≤ b := by
  induction l with
  | nil => intro m b; simp
  | cons y r ih =>
    intro m b
    rw [List.foldl_cons, ih]
    simp only [List.mem_cons, forall_eq_or_imp]
    constructor
    · rintro ⟨h1, h2⟩
      exact ⟨by omega, by omega, h2⟩
    · rintro ⟨h1, h2, h3⟩
      exact ⟨by omega, h3⟩
theorem nestedN_eq (m : Nat) : ∀ x : Nd, nestedN m x = decide (nestN x ≤ m) := by
  induction m with
  | zero =>
    intro x
    rw [nestN_eq]
    simp [nestedN]
  | succ m ih =>
    intro x
    rw [nestN_eq]
    have e : (1 + (x.kids.map nestN).foldl max 0 ≤ m + 1) ↔ ∀ y ∈ x.kids, nestN y ≤ m := by
      rw [show (1 + (x.kids.map nestN).foldl max 0 ≤ m + 1) ↔ (x.kids.map nestN).foldl max 0 ≤ m by omega, foldl_max_le]
      simp
    rw [Bool.eq_iff_iff, decide_eq_true_iff, e]
    simp only [nestedN, List.all_eq_true]
    exact ⟨fun h y hy => by have := h y hy; rw [ih] at this; simpa using this, fun h y hy => by rw [ih]; simpa using h y hy⟩
theorem nest_kid {x y : Nd} (h : y ∈ x.kids) : nestN y < nestN x := by
  rw [nestN_eq x]
  have := (foldl_max_le (x.kids.map nestN) 0 ((x.kids.map nestN).foldl max 0)).1 (Nat.le_refl _)
  have := this.2 (nestN y) (List.mem_map_of_mem h)
  omega
/-! ### types of nodes -/
theorem Of_any (X XF : List Nat) (v : Value) (x : Nd) (w : World) (hx : NdV X w v x) (hF : SlV XF w flds fieldNames) :
    Calls Tryd.prog 11 #[v] w (Ret fun r w' => r = .tuple #[.int .i64 (if nestN x ≤ 12 then typeT x else 0), .int .i64 (if nestN x ≤ 12 then (if typeT x = 0 then 21 else 0) else 2)] ∧ Stp [] w w') := by
  obtain ⟨kv, rfl, hs⟩ := hx
  refine calls_of_WC1 (n := 13) Tryd.func11 rfl rfl rfl ?_
  refine W ?_
  refine WL_eff (OE_box rfl) rfl ?_
  rintro _ w1 ⟨b, rfl, hbb, hblk, hS⟩
  replace hblk : Blk w1 b _ (ndC x kv) := hblk
  replace hs := hs.up hS; replace hF := hF.up hS
  refine W ?_
  refine WL_eff (OE_call rfl (evs2 rfl rfl) (nested_any 12 X _ x 12 _ rfl (by omega) ⟨kv, rfl, hs⟩)) rfl ?_
  rintro _ w2 ⟨rfl, hS2⟩
  replace hs := hs.up hS2; replace hF := hF.up hS2; replace hblk := hblk.up hS2
  replace hS := hS.trans hS2
  rw [nestedN_eq]
  by_cases hn : nestN x ≤ 12
  · rw [decide_eq_true hn, if_pos hn, if_pos hn]
    refine W ?_
    refine WL_eff (OE_call rfl (evs1 rfl) (of_any x X XF _ _ ⟨kv, rfl, hs⟩ hF)) rfl ?_
    rintro _ w3 ⟨rfl, hS3⟩
    replace hS := hS.trans hS3
    repeat' (first | refine W1 ?_ | (exfalso; omega) | refine WL_split rfl rfl (fun hg => ?_) (fun hg => ?_) | refine WL_splitB rfl rfl (fun hg => ?_) (fun hg => ?_) | refine WC_cond rfl (fun hc => ?_) (fun hc => ?_) | refine WC_condB rfl (fun hc => ?_) (fun hc => ?_))
    · first | refine WQ_ret1 rfl rfl ?_ | refine WQ_ret2 rfl rfl rfl ?_ | refine WQ_ret3 rfl rfl rfl rfl ?_ | refine WQ_ret0 rfl ?_ | refine WQ_end0 rfl ?_
      exact .mk ⟨by rw [if_neg hc], hS⟩
    · first | refine WQ_ret1 rfl rfl ?_ | refine WQ_ret2 rfl rfl rfl ?_ | refine WQ_ret3 rfl rfl rfl rfl ?_ | refine WQ_ret0 rfl ?_ | refine WQ_end0 rfl ?_
      have h0 : typeT x = 0 := by omega
      exact .mk ⟨by rw [if_pos h0, h0], hS⟩
  · rw [decide_eq_false hn, if_neg hn, if_neg hn]
    refine W ?_
    first | refine WQ_ret1 rfl rfl ?_ | refine WQ_ret2 rfl rfl rfl ?_ | refine WQ_ret3 rfl rfl rfl rfl ?_ | refine WQ_ret0 rfl ?_ | refine WQ_end0 rfl ?_
    exact .mk ⟨rfl, hS⟩
end Go.Proofs.YtgpibcgebpgmiaaDoor

namespace Go.Proofs.YtgpibcgebpgmiaaDoor
open Go Go.Eng Go.RowKit
set_option linter.unusedVariables false

def okN : Nd → Bool
  | .mk k n s l => decide (l.length ≤ 1000) && (l.map okN).all id
theorem okN_iff (x : Nd) : okN x = true ↔ x.kids.length ≤ 1000 ∧ ∀ y ∈ x.kids, okN y = true := by
  cases x
  rw [okN]
  simp [Nd.kids]
end Go.Proofs.YtgpibcgebpgmiaaDoor

namespace Go.Proofs.YtgpibcgebpgmiaaDoor
open Go Go.Eng Go.RowKit
set_option linter.unusedVariables false

abbrev ndL (k n : Int) (s : Str) (kv : Value) : List Value := [.int .i64 k, .int .i64 n, str s, kv]
end Go.Proofs.YtgpibcgebpgmiaaDoor

namespace Go.Proofs.YtgpibcgebpgmiaaDoor
open Go Go.Eng Go.RowKit
set_option linter.unusedVariables false

/-- the number of nodes -/
def sizeN : Nd → Nat
  | .mk k n s l => 1 + (l.map sizeN).sum
theorem sizeN_eq (x : Nd) : sizeN x = 1 + (x.kids.map sizeN).sum := by
  cases x
  rw [sizeN]
  rfl
theorem sum_le_of_mem {l : List Nat} {a : Nat} (h : a ∈ l) : a ≤ l.sum := by
  induction l with
  | nil => cases h
  | cons x r ih =>
    rw [List.sum_cons]
    rcases List.mem_cons.1 h with rfl | h
    · omega
    · have := ih h; omega
theorem size_kid {x y : Nd} (h : y ∈ x.kids) : sizeN y < sizeN x := by
  rw [sizeN_eq x]
  have := sum_le_of_mem (List.mem_map_of_mem (f := sizeN) h)
  omega
theorem size_pos (x : Nd) : 1 ≤ sizeN x := by rw [sizeN_eq]; omega
theorem len_le_sum (l : List Nd) : l.length ≤ (l.map sizeN).sum := by
  induction l with
  | nil => simp
  | cons x r ih =>
    have := size_pos x
    simp
    omega
theorem okN_of_size (x : Nd) : sizeN x ≤ 1000 → okN x = true := by
  induction x using Nd.ind with
  | h k n s l ih =>
  intro h
  rw [okN_iff]
  have h1 := sizeN_eq (.mk k n s l)
  have h2 := len_le_sum l
  refine ⟨?_, fun y hy => ih y hy ?_⟩
  · show l.length ≤ 1000
    have : sizeN (.mk k n s l) = 1 + (l.map sizeN).sum := h1
    omega
  · have := size_kid (x := .mk k n s l) (y := y) hy
    omega
/-! ### what a node with a type looks like -/
theorem typed_kids {x : Nd} (h : typeT x ≠ 0) : x.kids.length ≤ 3 ∧ ∀ y ∈ x.kids, typeT y ≠ 0 := by
  rw [typeT_eq] at h
  unfold combT at h
  refine ⟨?_, fun y hy e => ?_⟩
  · by_cases hl : (x.kids.map typeT).length > 3
    · rw [if_pos hl] at h; exact absurd rfl h
    · simpa using hl
  · by_cases hl : (x.kids.map typeT).length > 3
    · rw [if_pos hl] at h; exact absurd rfl h
    · rw [if_neg hl, if_pos (by rw [← e]; exact List.mem_map_of_mem hy)] at h
      exact absurd rfl h
def opsF : List Str := [[110, 101, 120, 116], [112, 114, 101, 118], [108, 97, 116, 101, 114], [101, 97, 114, 108, 105, 101, 114], [98, 101, 116, 119, 101, 101, 110]]
/-- the shapes of a node with kids -/
inductive Shape (k : Int) (s : Str) (m : Nat) : Prop
  | neg (h : k = 5) (hs : s = [45] ∨ s = [110, 111, 116]) (hm : m = 1)
  | bin (h : k = 6) (hs : s ∈ opsA ∨ s ∈ opsC ∨ s ∈ opsL) (hm : m = 2)
  | unit (h : k = 7 ∨ k = 8) (hs : s ∈ units) (hm : m = 2)
  | cond (h : k = 9) (hm : m = 3)
  | call (h : k = 10) (hs : s ∈ opsF) (hm : 1 ≤ m ∧ m ≤ 2)
theorem typed_shape {x : Nd} (h : typeT x ≠ 0) (hk : x.kids ≠ []) : x.num = 0 ∧ Shape x.kind x.word x.kids.length := by
  have hl := (typed_kids h).1
  rw [typeT_R] at h
  have hlen : (x.kids.map typeT).length = x.kids.length := by simp
  have hne : ¬ x.kids.map typeT = [] := by simpa using hk
  generalize x.kids.map typeT = ts at *
  rw [← hlen]
  unfold combR at h
  rw [if_neg hne] at h
  have hn : x.num = 0 := Decidable.byContradiction (fun hn => by rw [if_pos hn] at h; exact absurd rfl h)
  refine ⟨hn, ?_⟩
  rw [if_neg (by simpa using hn)] at h
  have hlm : ∀ m : List Int, areB ts m = true → ts.length = m.length := fun m hm => by rw [(areB_iff.1 hm).1]
  by_cases k5 : x.kind = 5
  · rw [if_pos k5] at h
    split at h
    · rename_i hh
      rcases hh with ⟨h1, h2⟩ | ⟨h1, h2⟩
      · exact .neg k5 (.inl h1) (hlm _ h2)
      · exact .neg k5 (.inr h1) (hlm _ h2)
    · exact absurd rfl h
  rw [if_neg k5] at h
  by_cases k6 : x.kind = 6
  · rw [if_pos k6] at h
    unfold binR at h
    simp only [idx_mem] at h
    split at h
    · rename_i hh; exact .bin k6 (.inl hh.1) (hlm _ hh.2)
    split at h
    · rename_i hh
      rcases hh.2 with h2 | h2
      · exact .bin k6 (.inr (.inl hh.1)) (hlm _ h2)
      · exact .bin k6 (.inr (.inl hh.1)) (hlm _ h2)
    split at h
    · rename_i hh; exact .bin k6 (.inr (.inr hh.1)) (hlm _ hh.2)
    · exact absurd rfl h
  rw [if_neg k6] at h
  by_cases k78 : x.kind = 7 ∨ x.kind = 8
  · rw [if_pos k78] at h
    simp only [idx_mem] at h
    split at h
    · rename_i hh; exact .unit k78 hh.1 (hlm _ hh.2)
    · exact absurd rfl h
  rw [if_neg k78] at h
  by_cases k9 : x.kind = 9
  · rw [if_pos k9] at h
    split at h
    · rename_i hh; exact .cond k9 hh.2.1
    · exact absurd rfl h
  rw [if_neg k9] at h
  by_cases k10 : x.kind = 10
  · rw [if_pos k10] at h
    unfold callR at h
    simp only [idx_mem] at h
    split at h
    · rename_i hh
      refine .call k10 ?_ (by have := hlm _ hh.2; simp at this; omega)
      have := hh.1
      simp only [opsN, opsF, List.mem_cons, List.not_mem_nil, or_false] at this ⊢
      rcases this with h | h <;> simp [h]
    split at h
    · rename_i hh
      refine .call k10 ?_ (by have := hlm _ hh.2; simp at this; omega)
      have := hh.1
      simp only [opsE, opsF, List.mem_cons, List.not_mem_nil, or_false] at this ⊢
      rcases this with h | h <;> simp [h]
    split at h
    · rename_i hh
      refine .call k10 ?_ (by have := hlm _ hh.2; simp at this; omega)
      simp [opsF, hh.1]
    · exact absurd rfl h
  rw [if_neg k10] at h
  exact absurd rfl h
theorem typed_leaf {x : Nd} (h : typeT x ≠ 0) (hk : x.kids = []) : 1 ≤ x.kind ∧ x.kind ≤ 4 := by
  rw [typeT_eq, hk] at h
  simp [combT] at h
  unfold leafN at h
  grind
end Go.Proofs.YtgpibcgebpgmiaaDoor

namespace Go.Eng
open Go
structure Ins where
  op : Int
  n : Int
  deriving DecidableEq, Inhabited
instance : Flat Ins where
  k := 2
  enc := fun x => [.int .i64 x.op, .int .i64 x.n]
  len := fun _ => rfl
  one := by intro x u hu; simp at hu; rcases hu with rfl | rfl <;> rfl
/-- the value of a struct -/
def agg {α : Type} [Flat α] (x : α) : Value := .agg (Flat.enc x).toArray
theorem Row.keep {β : Type} [Flat β] {X S : List Nat} {w w' : World} {base T : Nat} {v : Value} {xs : List β} (h : Row X w base T v xs) (hS : Stp S w w') (hd : ∀ b ∈ S, b ∉ ob v) : Row X w' base T v xs := by
  have h' : Row S w base T v xs := h
  have := h'.ext (X' := X) hS (fun b hb => ⟨hb, hd b hb⟩)
  obtain ⟨css, h1, h2, h3⟩ := h
  refine ⟨css, h1, h2, ?_⟩
  have h4 : Row S w base T v xs := ⟨css, h1, h2, h3⟩
  obtain ⟨ho, hr⟩ := h3
  refine ⟨ho, ?_⟩
  rcases hr with hn | ⟨q, cap, cur, rfl, hb, hg, rest⟩
  · exact .inl hn
  · refine .inr ⟨q, cap, cur, rfl, hb, ?_, rest⟩
    rw [hS.block q (Array.getElem?_eq_some_iff.1 hg).1 (fun hq => hd q hq (by simp [ob]))]
    exact hg
end Go.Eng
namespace Go.Proofs.YtgpibcgebpgmiaaDoor
open Go Go.Eng Go.RowKit
set_option linter.unusedVariables false

theorem buildI (a b : Int) (w : World) : (Instr.build 59 #[(0, .int .i64 a), (1, .int .i64 b)]).run Tryd.prog w = .ok (agg (Ins.mk a b)) w := by kernel_rfl
theorem buildI0 (a : Int) (w : World) : (Instr.build 59 #[(0, .int .i64 a)]).run Tryd.prog w = .ok (agg (Ins.mk a 0)) w := by kernel_rfl
theorem buildSI (d : Ins) (w : World) : (Instr.buildSlice 40 1 #[(0, agg d)]).run Tryd.prog w = .ok (.slice (some ⟨w.heap.size, 0, none⟩) 1 1) (w.alloc (.cells (Flat.enc d).toArray 59)) := by kernel_rfl

/-- a coder: its block, its row of code -/
structure Cod (w : World) (bc base : Nat) (v : Value) (xs : List Ins) : Prop where
  blk : Blk w bc 106 [v]
  row : Row [] w base 59 v xs
  apart : bc ∉ ob v
  low : bc < base
  top : base ≤ w.heap.size
/-- what a method of the coder leaves -/
def Cods (w : World) (bc base : Nat) (v : Value) (ys : List Ins) (w' : World) : Prop :=
  ∃ v', Cod w' bc base v' ys ∧ Stp (bc :: ob v) w w' ∧ ∀ b ∈ ob v', b ∈ ob v ∨ w.heap.size ≤ b
theorem Cod.up {w w' : World} {bc base : Nat} {v : Value} {xs : List Ins} (h : Cod w bc base v xs) (hS : Stp [] w w') : Cod w' bc base v xs :=
  ⟨h.blk.up hS, h.row.up hS, h.apart, h.low, Nat.le_trans h.top hS.size⟩
theorem Cods.pre {w0 w w' : World} {bc base : Nat} {v : Value} {ys : List Ins} (hS : Stp [] w0 w) (h : Cods w bc base v ys w') : Cods w0 bc base v ys w' := by
  obtain ⟨v', h1, h2, h3⟩ := h
  exact ⟨v', h1, (hS.mono (by simp)).trans h2, fun b hb => (h3 b hb).imp id (fun h => Nat.le_trans hS.size h)⟩
theorem Cods.post {w w1 w' : World} {bc base : Nat} {v : Value} {ys : List Ins} (h : Cods w bc base v ys w1) (hS : Stp [] w1 w') : Cods w bc base v ys w' := by
  obtain ⟨v', h1, h2, h3⟩ := h
  exact ⟨v', h1.up hS, h2.trans (hS.mono (by simp)), h3⟩
/-- one after another -/
theorem Cods.next {w w1 w2 : World} {bc base : Nat} {v v1 : Value} {zs : List Ins} (hS : Stp (bc :: ob v) w w1) (hb : ∀ b ∈ ob v1, b ∈ ob v ∨ w.heap.size ≤ b) (h : Cods w1 bc base v1 zs w2) : Cods w bc base v zs w2 := by
  obtain ⟨v', h1, h2, h3⟩ := h
  refine ⟨v', h1, ?_, fun b hb' => ?_⟩
  · exact hS.own h2 (fun b hb' => by
      rcases List.mem_cons.1 hb' with rfl | h
      · exact .inl (by simp)
      · exact (hb b h).imp (fun h => List.mem_cons_of_mem _ h) id)
  · rcases h3 b hb' with h | h
    · exact hb b h
    · exact .inr (Nat.le_trans hS.size h)
/-- what is not the coder's stays -/
theorem keepX {w w' : World} {bc : Nat} {v v' : Value} {α : Type} [GoRep α] {u : Value} {xs : List α} (h : SlV (bc :: ob v) w u xs) (hS : Stp (bc :: ob v) w w') (hb : ∀ b ∈ ob v', b ∈ ob v ∨ w.heap.size ≤ b) : SlV (bc :: ob v') w' u xs :=
  h.ext hS (fun _ h => h) (fun b hb' => by
    rcases List.mem_cons.1 hb' with rfl | h
    · exact .inl (by simp)
    · exact (hb b h).imp (fun h => List.mem_cons_of_mem _ h) id)
theorem put_any (bc base : Nat) (v : Value) (xs : List Ins) (op n : Int) (w : World) (hc : Cod w bc base v xs) (hl : xs.length ≤ 1000000) :
    Calls Tryd.prog 69 #[.pointer (some ⟨bc, 0, none⟩), .int .i64 op, .int .i64 n] w (Ret fun r w' => r = .int .i64 (xs.length : Int) ∧ Cods w bc base v (xs ++ [⟨op, n⟩]) w') := by
  obtain ⟨hblk, hrow, hap, hlow, htop⟩ := hc
  refine calls_of_WC3 (n := 25) Tryd.func69 rfl rfl rfl ?_
  refine W ?_
  apply WL_build (vs := [(0, .int .i64 op), (1, .int .i64 n)]) rfl (buildI _ _) rfl
  refine WL_eff (OE_buildSlice (vs := [(0, agg (Ins.mk op n))]) rfl (buildSI _)) rfl ?_
  rintro bv w1 hN
  have hbv : SlV (ob v ++ []) w1 bv [Ins.mk op n] := hN.slv (fun b hb => (hrow.ob_le b (by simpa using hb)).2) rfl rfl (by simp [maxLen])
  have hS1 := NewSl.stp hN
  clear hN
  have hrow1 := hrow.up hS1
  have hblk1 := hblk.up hS1
  have h1 := hS1.size
  refine WL_eff (OE_append (X := []) (base := base) rfl (by decide) rfl rfl hrow1 hbv (by simp only [List.length_cons, List.length_nil]; omega) (by simp only [List.length_cons, List.length_nil, maxLen]; omega) (by omega)) rfl ?_
  rintro v' w2 ⟨hrow2, hS2, hob⟩
  have hblk2 := hblk1.ext hS2 hap
  have hbl := hblk1.lt
  refine W ?_
  refine WL_eff0 (OE_store1 (u := v') rfl rfl hrow2.slv0.cells hrow2.slv0.one hblk2 (by simp)) ?_
  rintro _ w3 ⟨hS3, hblk3⟩
  replace hblk3 : Blk w3 bc 106 [v'] := hblk3
  have hap' : bc ∉ ob v' := fun hb => by
    rcases hob bc hb with h | h
    · exact hap h
    · omega
  have hrow3 := hrow2.keep hS3 (fun b hb => by simp at hb; subst hb; exact hap')
  have hs3 := hrow3.slv0
  have hll : (xs ++ [Ins.mk op n]).length ≤ 1000001 := by simp only [List.length_append, List.length_cons, List.length_nil]; omega
  refine W ?_
  first | refine WQ_ret1 rfl rfl ?_ | refine WQ_ret2 rfl rfl rfl ?_ | refine WQ_ret3 rfl rfl rfl rfl ?_ | refine WQ_ret0 rfl ?_ | refine WQ_end0 rfl ?_
  refine .mk ⟨?_, v', ⟨hblk3, hrow3, hap', hlow, ?_⟩, ?_, ?_⟩
  · simp only [List.length_append, List.length_cons, List.length_nil]
    congr 1
    omega
  · exact Nat.le_trans htop (Nat.le_trans h1 (Nat.le_trans hS2.size hS3.size))
  · exact ((hS1.mono (by simp)).trans (hS2.mono (fun x hx => by simp [hx]))).trans (hS3.mono (fun x hx => by simp at hx; simp [hx]))
  · intro b hb
    rcases hob b hb with h | h
    · exact .inl h
    · exact .inr (by omega)
end Go.Proofs.YtgpibcgebpgmiaaDoor

namespace Go.Proofs.YtgpibcgebpgmiaaDoor
open Go Go.Eng Go.RowKit
set_option linter.unusedVariables false

theorem here_any (bc base : Nat) (v : Value) (xs : List Ins) (k : Nat) (w : World) (hc : Cod w bc base v xs) (hk : k < xs.length) (hl : xs.length ≤ 1000000) :
    Calls Tryd.prog 121 #[.pointer (some ⟨bc, 0, none⟩), .int .i64 (k : Int)] w (Ret fun r w' => Cods w bc base v (xs.set k ⟨xs[k].op, (xs.length : Int)⟩) w') := by
  obtain ⟨hblk, hrow, hap, hlow, htop⟩ := hc
  refine calls_of_WC2 (n := 16) Tryd.func121 rfl rfl rfl ?_
  refine W ?_
  refine WC_drawn 13 [] [12] [(0, 0), (1, 0), (2, 0), (3, 1), (4, 0), (5, 0), (6, 0), (7, 0), (8, 1), (9, 0), (10, 0), (11, 0), (12, 2)] rfl mixed (by kernel_rfl) (by kernel_rfl) (by kernel_rfl) (fun w1 hS1 => ?_)
  replace hblk := hblk.up hS1
  replace hrow := hrow.up hS1
  have hs := hrow.slv0
  have hsz := hS1.size
  refine D ?_
  refine WD_late0 rfl trivial (OE_storeF (β := Ins) (i := k) (y' := ⟨xs[k].op, (xs.length : Int)⟩) rfl rfl rfl rfl rfl hrow hk (by decide) rfl) rfl ?_
  rintro _ w2 ⟨hrow2, hS2⟩
  refine D ?_
  refine W ?_
  first | refine WQ_ret1 rfl rfl ?_ | refine WQ_ret2 rfl rfl rfl ?_ | refine WQ_ret3 rfl rfl rfl rfl ?_ | refine WQ_ret0 rfl ?_ | refine WQ_end0 rfl ?_
  refine .mk ⟨v, ⟨hblk.ext hS2 hap, hrow2, hap, hlow, by have := hS2.size; omega⟩, ?_, fun b hb => .inl hb⟩
  exact (hS1.mono (by simp)).trans (hS2.mono (fun x hx => by simp [hx]))

/-- the coder on its way from w0 -/
structure Fr (w0 w : World) (bc base : Nat) (v0 v : Value) (xs : List Ins) : Prop where
  cod : Cod w bc base v xs
  stp : Stp (bc :: ob v0) w0 w
  sub : ∀ b ∈ ob v, b ∈ ob v0 ∨ w0.heap.size ≤ b
theorem Fr.start {w : World} {bc base : Nat} {v : Value} {xs : List Ins} (h : Cod w bc base v xs) : Fr w w bc base v v xs := ⟨h, Stp.refl _ _, fun b hb => .inl hb⟩
theorem Fr.step {w0 w w' : World} {bc base : Nat} {v0 v : Value} {xs ys : List Ins} (h : Fr w0 w bc base v0 v xs) (k : Cods w bc base v ys w') : ∃ v', Fr w0 w' bc base v0 v' ys := by
  obtain ⟨v', h1, h2, h3⟩ := Cods.next h.stp h.sub k
  exact ⟨v', h1, h2, h3⟩
theorem Fr.up {w0 w w' : World} {bc base : Nat} {v0 v : Value} {xs : List Ins} (h : Fr w0 w bc base v0 v xs) (hS : Stp [] w w') : Fr w0 w' bc base v0 v xs := ⟨h.cod.up hS, h.stp.trans (hS.mono (by simp)), h.sub⟩
theorem Fr.fin {w0 w : World} {bc base : Nat} {v0 v : Value} {xs : List Ins} (h : Fr w0 w bc base v0 v xs) : Cods w0 bc base v0 xs w := ⟨v, h.cod, h.stp, h.sub⟩
theorem Fr.sl {w0 w : World} {bc base : Nat} {v0 v : Value} {xs : List Ins} {α : Type} [GoRep α] {u : Value} {ys : List α} (h : Fr w0 w bc base v0 v xs) (hs : SlV (bc :: ob v0) w0 u ys) : SlV (bc :: ob v) w u ys := keepX hs h.stp h.sub
theorem Fr.bk {w0 w : World} {bc base b T : Nat} {v0 v : Value} {xs : List Ins} {cs : List Value} (h : Fr w0 w bc base v0 v xs) (hb : Blk w0 b T cs) (hn : b ∉ bc :: ob v0) : Blk w b T cs := hb.ext h.stp hn
abbrev Cf := Nat → List Ins
/-- the code of a condition and two cases -/
def chC (c y n : Cf) (p0 : Nat) : List Ins :=
  c p0 ++ [⟨14, ((p0 + (c p0).length + 1 + (y (p0 + (c p0).length + 1)).length + 1 : Nat) : Int)⟩] ++ y (p0 + (c p0).length + 1) ++
    [⟨13, ((p0 + (c p0).length + 1 + (y (p0 + (c p0).length + 1)).length + 1 + (n (p0 + (c p0).length + 1 + (y (p0 + (c p0).length + 1)).length + 1)).length : Nat) : Int)⟩] ++ n (p0 + (c p0).length + 1 + (y (p0 + (c p0).length + 1)).length + 1)
/-- 'expression' puts this code behind what is there -/
def ExprOk (x : Nd) (f : Cf) : Prop := ∀ (w : World) (bc base : Nat) (v nv : Value) (xs : List Ins), Cod w bc base v xs → NdV (bc :: ob v) w nv x → SlV (bc :: ob v) w flds fieldNames → xs.length + (f xs.length).length ≤ 100000 →
  Calls Tryd.prog 68 #[.pointer (some ⟨bc, 0, none⟩), nv] w (Ret fun r w' => Cods w bc base v (xs ++ f xs.length) w')

theorem choice_any {x y n : Nd} {f g h : Cf} (hx : ExprOk x f) (hy : ExprOk y g) (hn : ExprOk n h) (w : World) (bc base : Nat) (v xv yv nv : Value) (xs : List Ins) (hc : Cod w bc base v xs)
    (gx : NdV (bc :: ob v) w xv x) (gy : NdV (bc :: ob v) w yv y) (gn : NdV (bc :: ob v) w nv n) (hF : SlV (bc :: ob v) w flds fieldNames) (hl : xs.length + (chC f g h xs.length).length ≤ 100000) :
    Calls Tryd.prog 94 #[.pointer (some ⟨bc, 0, none⟩), xv, yv, nv] w (Ret fun r w' => Cods w bc base v (xs ++ chC f g h xs.length) w') := by
  have hl' := hl
  unfold chC at hl'
  simp only [List.length_append, List.length_cons, List.length_nil] at hl'
  obtain ⟨xk, rfl, sx⟩ := gx
  obtain ⟨yk, rfl, sy⟩ := gy
  obtain ⟨nk, rfl, sn⟩ := gn
  refine calls_of_WC4 (n := 29) Tryd.func94 rfl rfl rfl ?_
  refine W ?_
  refine WL_eff (OE_box rfl) rfl ?_
  rintro _ w1 ⟨b1, rfl, hb1, k1, hS1⟩
  replace k1 : Blk w1 b1 _ (ndC x xk) := k1
  refine WL_eff (OE_box rfl) rfl ?_
  rintro _ w2 ⟨b2, rfl, hb2, k2, hS2⟩
  replace k2 : Blk w2 b2 _ (ndC y yk) := k2
  refine WL_eff (OE_box rfl) rfl ?_
  rintro _ w3 ⟨b3, rfl, hb3, k3, hS3⟩
  replace k3 : Blk w3 b3 _ (ndC n nk) := k3
  have hS := (hS1.trans hS2).trans hS3
  have l1 := k1.lt
  have l2 := k2.lt
  have l3 := k3.lt
  replace k1 := (k1.up hS2).up hS3
  replace k2 := k2.up hS3
  have hobv : ∀ b ∈ bc :: ob v, b < w.heap.size := fun b hb => by
    rcases List.mem_cons.1 hb with rfl | h
    · exact hc.blk.lt
    · exact (hc.row.ob_le b h).2
  have n1 : b1 ∉ bc :: ob v := fun h => by have := hobv _ h; omega
  have n2 : b2 ∉ bc :: ob v := fun h => by have := hobv _ h; omega
  have n3 : b3 ∉ bc :: ob v := fun h => by have := hobv _ h; omega
  replace hc := hc.up hS
  replace sx := sx.up hS
  replace sy := sy.up hS
  replace sn := sn.up hS
  replace hF := hF.up hS
  have l1 := k1.lt
  have l2 := k2.lt
  have l3 := k3.lt
  have main : ∀ ys w', Cods w3 bc base v ys w' → Cods w bc base v ys w' := fun ys w' h => h.pre hS
  refine W ?_
  have fr := Fr.start hc
  refine WL_eff (OE_call rfl (evs2 rfl rfl) (hx _ bc base _ _ _ fr.cod ⟨xk, rfl, fr.sl sx⟩ (fr.sl hF) (by omega))) rfl ?_
  rintro _ w4 hq
  obtain ⟨v4, fr⟩ := fr.step hq
  refine W ?_
  refine WL_eff (OE_call rfl (evs3 rfl rfl rfl) (put_any bc base _ _ 14 0 _ fr.cod (by simp only [List.length_append]; omega))) rfl ?_
  rintro _ w5 ⟨rfl, hq⟩
  obtain ⟨v5, fr⟩ := fr.step hq
  have q2 := fr.bk k2 n2
  refine W ?_
  have e1 : (xs ++ f xs.length ++ [(⟨14, 0⟩ : Ins)]).length = xs.length + (f xs.length).length + 1 := by simp only [List.length_append, List.length_cons, List.length_nil]
  refine WL_eff (OE_call rfl (evs2 rfl rfl) (hy _ bc base _ _ _ fr.cod ⟨yk, rfl, fr.sl sy⟩ (fr.sl hF) (by rw [e1]; omega))) rfl ?_
  rintro _ w6 hq
  obtain ⟨v6, fr⟩ := fr.step hq
  rw [e1] at fr
  refine W ?_
  refine WL_eff (OE_call rfl (evs3 rfl rfl rfl) (put_any bc base _ _ 13 0 _ fr.cod (by simp only [List.length_append, List.length_cons, List.length_nil]; omega))) rfl ?_
  rintro _ w7 ⟨rfl, hq⟩
  obtain ⟨v7, fr⟩ := fr.step hq
  refine W ?_
  have hch := chC.eq_1 f g h xs.length
  generalize hA : f xs.length = A at *
  generalize hp : xs.length + A.length + 1 = p at *
  generalize hB : g p = B at *
  generalize hqq : p + B.length + 1 = q at *
  generalize hD : h q = D at *
  have e2 : ((xs ++ A).length : Int) = ((xs.length + A.length : Nat) : Int) := by simp only [List.length_append]
  rw [e2]
  refine WL_eff (OE_call rfl (evs2 rfl rfl) (here_any bc base _ _ (xs.length + A.length) _ fr.cod (by simp only [List.length_append, List.length_cons, List.length_nil]; omega) (by simp only [List.length_append, List.length_cons, List.length_nil]; omega))) rfl ?_
  rintro _ w8 hq
  obtain ⟨v8, fr⟩ := fr.step hq
  have e3 : ∀ (l : List Ins) (h : xs.length + A.length < l.length), l = xs ++ A ++ [⟨14, 0⟩] ++ B ++ [⟨13, 0⟩] → l.set (xs.length + A.length) ⟨l[xs.length + A.length].op, (l.length : Int)⟩ = xs ++ A ++ [⟨14, (q : Int)⟩] ++ B ++ [⟨13, 0⟩] := by
    intro l h hl
    have hop : l[xs.length + A.length].op = 14 := by
      have : l[xs.length + A.length]? = some ⟨14, 0⟩ := by
        rw [hl]
        simp
      rw [List.getElem?_eq_getElem h] at this
      rw [Option.some.inj this]
    have hlen : (l.length : Int) = (q : Int) := by
      rw [hl]
      simp only [List.length_append, List.length_cons, List.length_nil]
      omega
    rw [hop, hlen, hl]
    simp
  rw [e3 _ _ rfl] at fr
  have q3 := fr.bk k3 n3
  refine W ?_
  have e4 : (xs ++ A ++ [(⟨14, (q : Int)⟩ : Ins)] ++ B ++ [(⟨13, 0⟩ : Ins)]).length = q := by simp only [List.length_append, List.length_cons, List.length_nil]; omega
  refine WL_eff (OE_call rfl (evs2 rfl rfl) (hn _ bc base _ _ _ fr.cod ⟨nk, rfl, fr.sl sn⟩ (fr.sl hF) (by rw [e4, hD]; omega))) rfl ?_
  rintro _ w9 hq
  obtain ⟨v9, fr⟩ := fr.step hq
  rw [e4, hD] at fr
  refine W ?_
  have e5 : ((xs ++ A ++ [(⟨14, 0⟩ : Ins)] ++ B).length : Int) = ((p + B.length : Nat) : Int) := by simp only [List.length_append, List.length_cons, List.length_nil]; omega
  rw [e5]
  refine WL_eff (OE_call rfl (evs2 rfl rfl) (here_any bc base _ _ (p + B.length) _ fr.cod (by simp only [List.length_append, List.length_cons, List.length_nil]; omega) (by simp only [List.length_append, List.length_cons, List.length_nil]; omega))) rfl ?_
  rintro _ w10 hq
  obtain ⟨v10, fr⟩ := fr.step hq
  rw [hch]
  have e6 : ∀ (l : List Ins) (hl : p + B.length < l.length), l = xs ++ A ++ [⟨14, (q : Int)⟩] ++ B ++ [⟨13, 0⟩] ++ D → l.set (p + B.length) ⟨l[p + B.length].op, (l.length : Int)⟩ = xs ++ (A ++ [⟨14, (q : Int)⟩] ++ B ++ [⟨13, ((q + D.length : Nat) : Int)⟩] ++ D) := by
    intro l h hl
    have e7 : (xs ++ A ++ [(⟨14, (q : Int)⟩ : Ins)] ++ B).length = p + B.length := by simp only [List.length_append, List.length_cons, List.length_nil]; omega
    have hl2 : l = (xs ++ A ++ [⟨14, (q : Int)⟩] ++ B) ++ ⟨13, 0⟩ :: D := by rw [hl]; simp
    have hop : l[p + B.length].op = 13 := by
      have : l[p + B.length]? = some ⟨13, 0⟩ := by
        rw [hl2, List.getElem?_append_right (by omega), e7]
        simp
      rw [List.getElem?_eq_getElem h] at this
      rw [Option.some.inj this]
    have hlen : (l.length : Int) = ((q + D.length : Nat) : Int) := by
      rw [hl2, List.length_append, e7]
      simp only [List.length_cons]
      omega
    rw [hop, hlen, hl2, List.set_append_right _ _ (by omega), e7]
    simp
  rw [e6 _ _ rfl] at fr
  refine W ?_
  first | refine WQ_ret1 rfl rfl ?_ | refine WQ_ret2 rfl rfl rfl ?_ | refine WQ_ret3 rfl rfl rfl rfl ?_ | refine WQ_ret0 rfl ?_ | refine WQ_end0 rfl ?_
  exact .mk (main _ _ fr.fin)
end Go.Proofs.YtgpibcgebpgmiaaDoor
