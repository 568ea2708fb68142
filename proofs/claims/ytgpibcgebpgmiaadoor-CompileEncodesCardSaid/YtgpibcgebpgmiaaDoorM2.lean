/-
Merged by program out of own texts: Eng9a, Eng9, Nd0, Typ1, Eng10, Typ2, Typ3, Typ4, Typ5, Typ6, Typ7, Typ8, Typ9, Typ10, Typ11, Typ12, Typ13, Cmp1, Cmp2, Cmp3, Cmp4, Cmp5, Cmp6, Cmp7, Cmp8, Cmp9, Eng11, Prn1, Gen1, Gen2.
-/
import Derived.Test.YtgpibcgebpgmiaaDoorM1
import Derived.Laws.StructEq
import Derived.Laws.Small
import Derived.MapKept
import Derived.ChangeKeysEq

/-
The walk engine, part 9: strings as lists of bytes.
-/
namespace Go.Eng
open Go Go.RowKit Go.Proofs
set_option linter.unusedVariables false

/-- a string is the list of its bytes -/
abbrev Str := List UInt8
abbrev str (s : Str) : Value := .string ⟨s.toArray⟩
theorem str_beq (a b : Str) : ((⟨a.toArray⟩ : ByteArray).toList == (⟨b.toArray⟩ : ByteArray).toList) = decide (a = b) := by
  rw [ByteArray.toList_eq, ByteArray.toList_eq]
  simp only [Bool.beq_eq_decide_eq]
theorem str_size (a : Str) : (⟨a.toArray⟩ : ByteArray).size = a.length := by simp [ByteArray.size]
theorem str_extract (a : Str) (i j : Nat) : (⟨a.toArray⟩ : ByteArray).extract i j = ⟨((a.take j).drop i).toArray⟩ := by
  apply ByteArray.ext
  simp [ByteArray.data_extract, List.drop_take]
theorem str_append (a b : Str) : (⟨a.toArray⟩ ++ ⟨b.toArray⟩ : ByteArray) = ⟨(a ++ b).toArray⟩ := by
  apply ByteArray.ext
  simp [ByteArray.data_append]
/-- the byte at an index -/
def byte (a : Str) (i : Nat) : Int := ((a.getD i 0).toNat : Int)
theorem byte_at {a : Str} {i : Nat} (h : i < a.length) : byte a i = (a[i].toNat : Int) := by simp [byte, List.getD, h]
instance : Flat Str where
  k := 1
  enc := fun x => [str x]
  len := fun _ => rfl
  one := by intro x u hu; simp at hu; subst hu; rfl

section rules
variable {P : Program} {n : Nat} {e : Env} {w : World} {d : Option Nat} {ty : TypeId} {pos : String} {af : Array Edge} {g : Option (Nat × Bool)}
theorem PR_eqlT {t u : TypeId} {x y : Operand} {a b : Str} [hu : Und P t .string] (hx : ev e x = some (str a)) (hy : ev e y = some (str b)) : PR P n ⟨d, .binOp .eql t x y u, ty, pos, af, g⟩ e w (.bool (decide (a = b))) :=
  ⟨fun c ha => by simp only [execOp, ha.ev hx, ha.ev hy]; simp [go_sem, binOp, Op.stringOp]; rw [Bool.beq_eq_decide_eq]⟩
theorem PR_neqT {t u : TypeId} {x y : Operand} {a b : Str} [hu : Und P t .string] (hx : ev e x = some (str a)) (hy : ev e y = some (str b)) : PR P n ⟨d, .binOp .neq t x y u, ty, pos, af, g⟩ e w (.bool (decide (¬ a = b))) :=
  ⟨fun c ha => by simp only [execOp, ha.ev hx, ha.ev hy]; simp [go_sem, binOp, Op.stringOp]; by_cases h : a = b <;> simp [h]⟩
theorem PR_addT {t u : TypeId} {x y : Operand} {a b : Str} [hu : Und P t .string] (hx : ev e x = some (str a)) (hy : ev e y = some (str b)) (hl : a.length + b.length ≤ 9223372036854775807) : PR P n ⟨d, .binOp .add t x y u, ty, pos, af, g⟩ e w (str (a ++ b)) :=
  ⟨fun c ha => by
    simp only [execOp, ha.ev hx, ha.ev hy]
    simp [go_sem, binOp, Op.stringOp, str_append]
    omega⟩
theorem PR_lenT {x : Operand} {t : TypeId} {a : Str} [hu : Und P t .string] (hx : ev e x = some (str a)) :
    PR P n ⟨d, .call { callee := .builtin .len, args := #[x], argTypes := #[t] }, ty, pos, af, g⟩ e w (.int .i64 (a.length : Int)) :=
  ⟨fun c ha => by
    have := run_len_string (P := P) w t ty ⟨a.toArray⟩ hu.h
    simp [execOp, resolve, invoke, builtin, ha.ev hx, this, goInt, str_size]⟩
theorem PR_indexT {t : TypeId} {x y : Operand} {a : Str} {z : Int} {i : Nat} [hu : Und P t .string] (hx : ev e x = some (str a)) (hy : ev e y = some (.int .i64 z)) (hz : z = (i : Int)) (hi : i < a.length) : PR P n ⟨d, .index t x y, ty, pos, af, g⟩ e w (.int .u8 (byte a i)) :=
  ⟨fun c ha => by
    subst hz
    have h1 : (0 : Int) ≤ (i : Int) ∧ ((i : Int) < ((⟨a.toArray⟩ : ByteArray).size : Int)) := by rw [str_size]; omega
    have := run_index_string (P := P) w t ⟨a.toArray⟩ .i64 (i : Int) hu.h
    rw [dif_pos h1] at this
    simp only [execOp, ha.ev hx, ha.ev hy]
    simp [this, byte, List.getD, hi]
    rfl⟩
theorem PR_sliceT_lh {t : TypeId} {x lo hi : Operand} {a : Str} {p q : Int} {l r : Nat} [hu : Und P t .string] (hx : ev e x = some (str a)) (h1 : ev e lo = some (.int .i64 p)) (h2 : ev e hi = some (.int .i64 q)) (hp : p = (l : Int)) (hq : q = (r : Int)) (hlr : l ≤ r) (hr : r ≤ a.length) :
    PR P n ⟨d, .slice t x (some lo) (some hi) none, ty, pos, af, g⟩ e w (str ((a.take r).drop l)) :=
  ⟨fun c ha => by
    subst hp; subst hq
    have := run_slice_string (P := P) w t ⟨a.toArray⟩ .i64 .i64 (l : Int) (r : Int) hu.h (by omega) (by omega) (by rw [str_size]; omega)
    simp only [execOp, ha.ev hx, ha.ev h1, ha.ev h2, Option.map]
    simp [Instr.sliceAt, run_underlying hu.h, this, str_extract]⟩
theorem PR_nilCheck {x : Operand} {b : Addr} (hx : ev e x = some (.pointer (some b))) : PR P n ⟨d, .nilCheck x, ty, pos, af, g⟩ e w (.pointer (some b)) :=
  ⟨fun a ha => by simp [execOp, ha.ev hx]⟩
theorem PR_not_e {t : TypeId} {x : Operand} {p : Prop} {i : Decidable p} (hx : ev e x = some (.bool (decide p))) : PR P n ⟨d, .unOp .not t x, ty, pos, af, g⟩ e w (.bool (decide (¬ p))) :=
  ⟨fun a ha => by simp [execOp, ha.ev hx, Op.unary]⟩
theorem PR_idxA {t el len k : Nat} {x y : Operand} {b o i : Nat} {z : Int} [hu : Und P t (.array len el)] [hk : Siz P el k] (hx : ev e x = some (.pointer (some ⟨b, o, none⟩))) (hy : ev e y = some (.int .i64 z)) (hz : z = (i : Int)) (hi : i < len) :
    PR P n ⟨d, .indexAddr t x y, ty, pos, af, g⟩ e w (.pointer (some ⟨b, o + i * k, none⟩)) :=
  ⟨fun a ha => by
    subst hz
    have h0 : (0 : Int) ≤ (i : Int) ∧ (i : Int) < (len : Int) := by omega
    have hr : (Instr.indexAt t (.pointer (some ⟨b, o, none⟩)) (.int .i64 (i : Int))).run P w = .ok (.pointer (some ⟨b, o + i * k, none⟩)) w := by
      simp only [Instr.indexAt, asIntOf]
      simp [run_underlying hu.h, Instr.sureAddr, Siz.run, Addr.add_lit, hi]
    simp [execOp, ha.ev hx, ha.ev hy, hr]⟩
theorem PR_sliceA {t el len k : Nat} {x : Operand} {b : Nat} [hu : Und P t (.array len el)] [hk : Siz P el k] (hx : ev e x = some (.pointer (some ⟨b, 0, none⟩))) :
    PR P n ⟨d, .slice t x none none none, ty, pos, af, g⟩ e w (.slice (some ⟨b, 0, none⟩) len len) :=
  ⟨fun a ha => by
    have hr : (Instr.sliceAt t (.pointer (some ⟨b, 0, none⟩)) none none none).run P w = .ok (.slice (some ⟨b, 0, none⟩) len len) w := by
      simp [Instr.sliceAt, Instr.sureAddr, run_underlying hu.h, Instr.sliceBounds, Siz.run, Addr.add]
    simp [execOp, ha.ev hx, hr]⟩
theorem PR_max {x y : Operand} {ts : Array TypeId} {a b : Int} (hx : ev e x = some (.int .i64 a)) (hy : ev e y = some (.int .i64 b)) :
    PR P n ⟨d, .call { callee := .builtin .max, args := #[x, y], argTypes := ts }, ty, pos, af, g⟩ e w (.int .i64 (max a b)) :=
  ⟨fun c ha => by
    have hm : (if b > a then b else a) = max a b := by omega
    simp [execOp, resolve, invoke, builtin, ha.ev hx, ha.ev hy, run_max_int2, hm]⟩
theorem PR_min {x y : Operand} {ts : Array TypeId} {a b : Int} (hx : ev e x = some (.int .i64 a)) (hy : ev e y = some (.int .i64 b)) :
    PR P n ⟨d, .call { callee := .builtin .min, args := #[x, y], argTypes := ts }, ty, pos, af, g⟩ e w (.int .i64 (min a b)) :=
  ⟨fun c ha => by
    have hm : (if b < a then b else a) = min a b := by omega
    simp [execOp, resolve, invoke, builtin, ha.ev hx, ha.ev hy, run_min_int2, hm]⟩
end rules
end Go.Eng


/-
The walk engine, part 9: the string rules at the head of a list and in a drawn region; all rules of a drawn region with the operation laid open ('WO'); two lemmas that walk by themselves ('W', 'D'): what is left of the goal is their argument. Written by a program.
-/
namespace Go.Eng
open Go Go.RowKit Go.Proofs
set_option linter.unusedVariables false
section
variable {P : Program} {n : Nat} {Q : Exit → Act → World → Prop} {e : Env} {w : World} {ops : Array Oper} {S : List Nat} {Lt : List Nat} {rest : List Oper} {ord : List (Nat × Nat)} {d₀ i₀ : Nat} {ty : TypeId} {pos : String} {af : Array Edge} {gd : Option (Nat × Bool)}

theorem WL_eqlT {t u : TypeId} {x y : Operand} {a b : Str} [hu : Und P t .string] (hx : ev e x = some (str a)) (hy : ev e y = some (str b)) (hdn : Nat.blt d₀ n = true) (kk : WL P n ops Q rest ((d₀, (.bool (decide (a = b)))) :: e) w) : WL P n ops Q (⟨some d₀, .binOp .eql t x y u, ty, pos, af, none⟩ :: rest) e w := by
  refine WL_pure (v := (.bool (decide (a = b)))) ?_ hdn kk
  apply PR_eqlT <;> assumption
theorem WF_eqlT {t u : TypeId} {x y : Operand} {a b : Str} [hu : Und P t .string] (hi₀ : ops[i₀]? = some ⟨some d₀, .binOp .eql t x y u, ty, pos, af, gd⟩) (hg₀ : gdOk ops e gd) (hx : ev e x = some (str a)) (hy : ev e y = some (str b)) (hdn : Nat.blt d₀ n = true) (kk : WD P n ops S Lt Q ord ((d₀, (.bool (decide (a = b)))) :: e) w) : WD P n ops S Lt Q ((i₀, 0) :: ord) e w := by
  refine WD_free (v := (.bool (decide (a = b)))) hi₀ hg₀ (fun w' => ?_) hdn kk
  apply PR_eqlT <;> assumption
theorem WL_neqT {t u : TypeId} {x y : Operand} {a b : Str} [hu : Und P t .string] (hx : ev e x = some (str a)) (hy : ev e y = some (str b)) (hdn : Nat.blt d₀ n = true) (kk : WL P n ops Q rest ((d₀, (.bool (decide (¬ a = b)))) :: e) w) : WL P n ops Q (⟨some d₀, .binOp .neq t x y u, ty, pos, af, none⟩ :: rest) e w := by
  refine WL_pure (v := (.bool (decide (¬ a = b)))) ?_ hdn kk
  apply PR_neqT <;> assumption
theorem WF_neqT {t u : TypeId} {x y : Operand} {a b : Str} [hu : Und P t .string] (hi₀ : ops[i₀]? = some ⟨some d₀, .binOp .neq t x y u, ty, pos, af, gd⟩) (hg₀ : gdOk ops e gd) (hx : ev e x = some (str a)) (hy : ev e y = some (str b)) (hdn : Nat.blt d₀ n = true) (kk : WD P n ops S Lt Q ord ((d₀, (.bool (decide (¬ a = b)))) :: e) w) : WD P n ops S Lt Q ((i₀, 0) :: ord) e w := by
  refine WD_free (v := (.bool (decide (¬ a = b)))) hi₀ hg₀ (fun w' => ?_) hdn kk
  apply PR_neqT <;> assumption
theorem WL_addT {t u : TypeId} {x y : Operand} {a b : Str} [hu : Und P t .string] (hx : ev e x = some (str a)) (hy : ev e y = some (str b)) (hl : a.length + b.length ≤ 9223372036854775807) (hdn : Nat.blt d₀ n = true) (kk : WL P n ops Q rest ((d₀, (str (a ++ b))) :: e) w) : WL P n ops Q (⟨some d₀, .binOp .add t x y u, ty, pos, af, none⟩ :: rest) e w := by
  refine WL_pure (v := (str (a ++ b))) ?_ hdn kk
  apply PR_addT <;> assumption
theorem WF_addT {t u : TypeId} {x y : Operand} {a b : Str} [hu : Und P t .string] (hi₀ : ops[i₀]? = some ⟨some d₀, .binOp .add t x y u, ty, pos, af, gd⟩) (hg₀ : gdOk ops e gd) (hx : ev e x = some (str a)) (hy : ev e y = some (str b)) (hl : a.length + b.length ≤ 9223372036854775807) (hdn : Nat.blt d₀ n = true) (kk : WD P n ops S Lt Q ord ((d₀, (str (a ++ b))) :: e) w) : WD P n ops S Lt Q ((i₀, 0) :: ord) e w := by
  refine WD_free (v := (str (a ++ b))) hi₀ hg₀ (fun w' => ?_) hdn kk
  apply PR_addT <;> assumption
theorem WL_lenT {x : Operand} {t : TypeId} {a : Str} [hu : Und P t .string] (hx : ev e x = some (str a)) (hdn : Nat.blt d₀ n = true) (kk : WL P n ops Q rest ((d₀, (.int .i64 (a.length : Int))) :: e) w) : WL P n ops Q (⟨some d₀, .call { callee := .builtin .len, args := #[x], argTypes := #[t] }, ty, pos, af, none⟩ :: rest) e w := by
  refine WL_pure (v := (.int .i64 (a.length : Int))) ?_ hdn kk
  apply PR_lenT <;> assumption
theorem WF_lenT {x : Operand} {t : TypeId} {a : Str} [hu : Und P t .string] (hi₀ : ops[i₀]? = some ⟨some d₀, .call { callee := .builtin .len, args := #[x], argTypes := #[t] }, ty, pos, af, gd⟩) (hg₀ : gdOk ops e gd) (hx : ev e x = some (str a)) (hdn : Nat.blt d₀ n = true) (kk : WD P n ops S Lt Q ord ((d₀, (.int .i64 (a.length : Int))) :: e) w) : WD P n ops S Lt Q ((i₀, 0) :: ord) e w := by
  refine WD_free (v := (.int .i64 (a.length : Int))) hi₀ hg₀ (fun w' => ?_) hdn kk
  apply PR_lenT <;> assumption
theorem WL_indexT {t : TypeId} {x y : Operand} {a : Str} {z : Int} {i : Nat} [hu : Und P t .string] (hx : ev e x = some (str a)) (hy : ev e y = some (.int .i64 z)) (hz : z = (i : Int)) (hi : i < a.length) (hdn : Nat.blt d₀ n = true) (kk : WL P n ops Q rest ((d₀, (.int .u8 (byte a i))) :: e) w) : WL P n ops Q (⟨some d₀, .index t x y, ty, pos, af, none⟩ :: rest) e w := by
  refine WL_pure (v := (.int .u8 (byte a i))) ?_ hdn kk
  apply PR_indexT <;> assumption
theorem WF_indexT {t : TypeId} {x y : Operand} {a : Str} {z : Int} {i : Nat} [hu : Und P t .string] (hi₀ : ops[i₀]? = some ⟨some d₀, .index t x y, ty, pos, af, gd⟩) (hg₀ : gdOk ops e gd) (hx : ev e x = some (str a)) (hy : ev e y = some (.int .i64 z)) (hz : z = (i : Int)) (hi : i < a.length) (hdn : Nat.blt d₀ n = true) (kk : WD P n ops S Lt Q ord ((d₀, (.int .u8 (byte a i))) :: e) w) : WD P n ops S Lt Q ((i₀, 0) :: ord) e w := by
  refine WD_free (v := (.int .u8 (byte a i))) hi₀ hg₀ (fun w' => ?_) hdn kk
  apply PR_indexT <;> assumption
theorem WL_nilCheck {x : Operand} {b : Addr} (hx : ev e x = some (.pointer (some b))) (hdn : Nat.blt d₀ n = true) (kk : WL P n ops Q rest ((d₀, (.pointer (some b))) :: e) w) : WL P n ops Q (⟨some d₀, .nilCheck x, ty, pos, af, none⟩ :: rest) e w := by
  refine WL_pure (v := (.pointer (some b))) ?_ hdn kk
  apply PR_nilCheck <;> assumption
theorem WF_nilCheck {x : Operand} {b : Addr} (hi₀ : ops[i₀]? = some ⟨some d₀, .nilCheck x, ty, pos, af, gd⟩) (hg₀ : gdOk ops e gd) (hx : ev e x = some (.pointer (some b))) (hdn : Nat.blt d₀ n = true) (kk : WD P n ops S Lt Q ord ((d₀, (.pointer (some b))) :: e) w) : WD P n ops S Lt Q ((i₀, 0) :: ord) e w := by
  refine WD_free (v := (.pointer (some b))) hi₀ hg₀ (fun w' => ?_) hdn kk
  apply PR_nilCheck <;> assumption
theorem WL_not_e {t : TypeId} {x : Operand} {p : Prop} {i : Decidable p} (hx : ev e x = some (.bool (decide p))) (hdn : Nat.blt d₀ n = true) (kk : WL P n ops Q rest ((d₀, (.bool (decide (¬ p)))) :: e) w) : WL P n ops Q (⟨some d₀, .unOp .not t x, ty, pos, af, none⟩ :: rest) e w := by
  refine WL_pure (v := (.bool (decide (¬ p)))) ?_ hdn kk
  apply PR_not_e <;> assumption
theorem WF_not_e {t : TypeId} {x : Operand} {p : Prop} {i : Decidable p} (hi₀ : ops[i₀]? = some ⟨some d₀, .unOp .not t x, ty, pos, af, gd⟩) (hg₀ : gdOk ops e gd) (hx : ev e x = some (.bool (decide p))) (hdn : Nat.blt d₀ n = true) (kk : WD P n ops S Lt Q ord ((d₀, (.bool (decide (¬ p)))) :: e) w) : WD P n ops S Lt Q ((i₀, 0) :: ord) e w := by
  refine WD_free (v := (.bool (decide (¬ p)))) hi₀ hg₀ (fun w' => ?_) hdn kk
  apply PR_not_e <;> assumption
theorem WL_idxA {t el len k : Nat} {x y : Operand} {b o i : Nat} {z : Int} [hu : Und P t (.array len el)] [hk : Siz P el k] (hx : ev e x = some (.pointer (some ⟨b, o, none⟩))) (hy : ev e y = some (.int .i64 z)) (hz : z = (i : Int)) (hi : i < len) (hdn : Nat.blt d₀ n = true) (kk : WL P n ops Q rest ((d₀, (.pointer (some ⟨b, o + i * k, none⟩))) :: e) w) : WL P n ops Q (⟨some d₀, .indexAddr t x y, ty, pos, af, none⟩ :: rest) e w := by
  refine WL_pure (v := (.pointer (some ⟨b, o + i * k, none⟩))) ?_ hdn kk
  apply PR_idxA <;> assumption
theorem WF_idxA {t el len k : Nat} {x y : Operand} {b o i : Nat} {z : Int} [hu : Und P t (.array len el)] [hk : Siz P el k] (hi₀ : ops[i₀]? = some ⟨some d₀, .indexAddr t x y, ty, pos, af, gd⟩) (hg₀ : gdOk ops e gd) (hx : ev e x = some (.pointer (some ⟨b, o, none⟩))) (hy : ev e y = some (.int .i64 z)) (hz : z = (i : Int)) (hi : i < len) (hdn : Nat.blt d₀ n = true) (kk : WD P n ops S Lt Q ord ((d₀, (.pointer (some ⟨b, o + i * k, none⟩))) :: e) w) : WD P n ops S Lt Q ((i₀, 0) :: ord) e w := by
  refine WD_free (v := (.pointer (some ⟨b, o + i * k, none⟩))) hi₀ hg₀ (fun w' => ?_) hdn kk
  apply PR_idxA <;> assumption
theorem WL_sliceA {t el len k : Nat} {x : Operand} {b : Nat} [hu : Und P t (.array len el)] [hk : Siz P el k] (hx : ev e x = some (.pointer (some ⟨b, 0, none⟩))) (hdn : Nat.blt d₀ n = true) (kk : WL P n ops Q rest ((d₀, (.slice (some ⟨b, 0, none⟩) len len)) :: e) w) : WL P n ops Q (⟨some d₀, .slice t x none none none, ty, pos, af, none⟩ :: rest) e w := by
  refine WL_pure (v := (.slice (some ⟨b, 0, none⟩) len len)) ?_ hdn kk
  apply PR_sliceA <;> assumption
theorem WL_max {x y : Operand} {ts : Array TypeId} {a b : Int} (hx : ev e x = some (.int .i64 a)) (hy : ev e y = some (.int .i64 b)) (hdn : Nat.blt d₀ n = true) (kk : WL P n ops Q rest ((d₀, (.int .i64 (max a b))) :: e) w) : WL P n ops Q (⟨some d₀, .call { callee := .builtin .max, args := #[x, y], argTypes := ts }, ty, pos, af, none⟩ :: rest) e w := by
  refine WL_pure (v := (.int .i64 (max a b))) ?_ hdn kk
  apply PR_max <;> assumption
theorem WF_max {x y : Operand} {ts : Array TypeId} {a b : Int} (hi₀ : ops[i₀]? = some ⟨some d₀, .call { callee := .builtin .max, args := #[x, y], argTypes := ts }, ty, pos, af, gd⟩) (hg₀ : gdOk ops e gd) (hx : ev e x = some (.int .i64 a)) (hy : ev e y = some (.int .i64 b)) (hdn : Nat.blt d₀ n = true) (kk : WD P n ops S Lt Q ord ((d₀, (.int .i64 (max a b))) :: e) w) : WD P n ops S Lt Q ((i₀, 0) :: ord) e w := by
  refine WD_free (v := (.int .i64 (max a b))) hi₀ hg₀ (fun w' => ?_) hdn kk
  apply PR_max <;> assumption
theorem WL_min {x y : Operand} {ts : Array TypeId} {a b : Int} (hx : ev e x = some (.int .i64 a)) (hy : ev e y = some (.int .i64 b)) (hdn : Nat.blt d₀ n = true) (kk : WL P n ops Q rest ((d₀, (.int .i64 (min a b))) :: e) w) : WL P n ops Q (⟨some d₀, .call { callee := .builtin .min, args := #[x, y], argTypes := ts }, ty, pos, af, none⟩ :: rest) e w := by
  refine WL_pure (v := (.int .i64 (min a b))) ?_ hdn kk
  apply PR_min <;> assumption
theorem WF_min {x y : Operand} {ts : Array TypeId} {a b : Int} (hi₀ : ops[i₀]? = some ⟨some d₀, .call { callee := .builtin .min, args := #[x, y], argTypes := ts }, ty, pos, af, gd⟩) (hg₀ : gdOk ops e gd) (hx : ev e x = some (.int .i64 a)) (hy : ev e y = some (.int .i64 b)) (hdn : Nat.blt d₀ n = true) (kk : WD P n ops S Lt Q ord ((d₀, (.int .i64 (min a b))) :: e) w) : WD P n ops S Lt Q ((i₀, 0) :: ord) e w := by
  refine WD_free (v := (.int .i64 (min a b))) hi₀ hg₀ (fun w' => ?_) hdn kk
  apply PR_min <;> assumption

/-- one step of a drawn region, the operation laid open -/
structure WO (P : Program) (n : Nat) (ops : Array Oper) (S : List Nat) (Lt : List Nat) (Q : Exit → Act → World → Prop) (o : Oper) (i q : Nat) (ord : List (Nat × Nat)) (e : Env) (w : World) : Prop where
  h : ops[i]? = some o → WD P n ops S Lt Q ((i, q) :: ord) e w
theorem WD_op {o : Oper} {i q : Nat} (hi : ops[i]? = some o) (h : WO P n ops S Lt Q o i q ord e w) : WD P n ops S Lt Q ((i, q) :: ord) e w := h.h hi
theorem WO_pass0 {op : Op} {jb : Nat × Bool} (hg : noB ops e (some jb) = true) (hdn : Nat.blt d₀ n = true) (kk : WD P n ops S Lt Q ord ((d₀, undef) :: e) w) : WO P n ops S Lt Q ⟨some d₀, op, ty, pos, af, some jb⟩ i₀ 0 ord e w := ⟨fun hi => WD_pass0 hi hg hdn kk⟩
theorem WO_pass1 {op : Op} {jb : Nat × Bool} (hg : noB ops e (some jb) = true) (hdn : Nat.blt d₀ n = true) (kk : WD P n ops S Lt Q ord ((d₀, undef) :: e) w) : WO P n ops S Lt Q ⟨some d₀, op, ty, pos, af, some jb⟩ i₀ 1 ord e w := ⟨fun hi => WD_pass1 hi hg hdn kk⟩
theorem WO_pass2 {op : Op} {jb : Nat × Bool} (hg : noB ops e (some jb) = true) (hdn : Nat.blt d₀ n = true) (kk : WD P n ops S Lt Q ord ((d₀, undef) :: e) w) : WO P n ops S Lt Q ⟨some d₀, op, ty, pos, af, some jb⟩ i₀ 2 ord e w := ⟨fun hi => WD_pass2 hi hg hdn kk⟩

theorem WO_move {x : Operand} {v : Value} (hg₀ : gdOk ops e gd) (hx : ev e x = some v) (hdn : Nat.blt d₀ n = true) (kk : WD P n ops S Lt Q ord ((d₀, v) :: e) w) : WO P n ops S Lt Q ⟨some d₀, .move x, ty, pos, af, gd⟩ i₀ 0 ord e w := ⟨fun hi₀ => WF_move hi₀ hg₀ hx hdn kk⟩
theorem WO_assign {x : Operand} {v : Value} (hg₀ : gdOk ops e gd) (hx : ev e x = some v) (hdn : Nat.blt d₀ n = true) (kk : WD P n ops S Lt Q ord ((d₀, v) :: e) w) : WO P n ops S Lt Q ⟨some d₀, .assign x, ty, pos, af, gd⟩ i₀ 0 ord e w := ⟨fun hi₀ => WF_assign hi₀ hg₀ hx hdn kk⟩
theorem WO_pick_t {c x y : Operand} {v : Value} (hg₀ : gdOk ops e gd) (hc : ev e c = some (.bool true)) (hx : ev e x = some v) (hdn : Nat.blt d₀ n = true) (kk : WD P n ops S Lt Q ord ((d₀, v) :: e) w) : WO P n ops S Lt Q ⟨some d₀, .pick c x y, ty, pos, af, gd⟩ i₀ 0 ord e w := ⟨fun hi₀ => WF_pick_t hi₀ hg₀ hc hx hdn kk⟩
theorem WO_pick_f {c x y : Operand} {v : Value} (hg₀ : gdOk ops e gd) (hc : ev e c = some (.bool false)) (hx : ev e y = some v) (hdn : Nat.blt d₀ n = true) (kk : WD P n ops S Lt Q ord ((d₀, v) :: e) w) : WO P n ops S Lt Q ⟨some d₀, .pick c x y, ty, pos, af, gd⟩ i₀ 0 ord e w := ⟨fun hi₀ => WF_pick_f hi₀ hg₀ hc hx hdn kk⟩
theorem WO_not {t : TypeId} {x : Operand} {b : Bool} (hg₀ : gdOk ops e gd) (hx : ev e x = some (.bool b)) (hdn : Nat.blt d₀ n = true) (kk : WD P n ops S Lt Q ord ((d₀, (.bool (!b))) :: e) w) : WO P n ops S Lt Q ⟨some d₀, .unOp .not t x, ty, pos, af, gd⟩ i₀ 0 ord e w := ⟨fun hi₀ => WF_not hi₀ hg₀ hx hdn kk⟩
theorem WO_not_t {t : TypeId} {x : Operand} (hg₀ : gdOk ops e gd) (hx : ev e x = some (.bool true)) (hdn : Nat.blt d₀ n = true) (kk : WD P n ops S Lt Q ord ((d₀, (.bool false)) :: e) w) : WO P n ops S Lt Q ⟨some d₀, .unOp .not t x, ty, pos, af, gd⟩ i₀ 0 ord e w := ⟨fun hi₀ => WF_not_t hi₀ hg₀ hx hdn kk⟩
theorem WO_not_f {t : TypeId} {x : Operand} (hg₀ : gdOk ops e gd) (hx : ev e x = some (.bool false)) (hdn : Nat.blt d₀ n = true) (kk : WD P n ops S Lt Q ord ((d₀, (.bool true)) :: e) w) : WO P n ops S Lt Q ⟨some d₀, .unOp .not t x, ty, pos, af, gd⟩ i₀ 0 ord e w := ⟨fun hi₀ => WF_not_f hi₀ hg₀ hx hdn kk⟩
theorem WO_add {x y : Operand} {t u : TypeId} {a b : Int} (hg₀ : gdOk ops e gd) (hx : ev e x = some (.int .i64 a)) (hy : ev e y = some (.int .i64 b)) (hr : I64 (a + b)) (hdn : Nat.blt d₀ n = true) (kk : WD P n ops S Lt Q ord ((d₀, (.int .i64 (a + b))) :: e) w) : WO P n ops S Lt Q ⟨some d₀, .binOp .add t x y u, ty, pos, af, gd⟩ i₀ 0 ord e w := ⟨fun hi₀ => WF_add hi₀ hg₀ hx hy hr hdn kk⟩
theorem WO_sub {x y : Operand} {t u : TypeId} {a b : Int} (hg₀ : gdOk ops e gd) (hx : ev e x = some (.int .i64 a)) (hy : ev e y = some (.int .i64 b)) (hr : I64 (a - b)) (hdn : Nat.blt d₀ n = true) (kk : WD P n ops S Lt Q ord ((d₀, (.int .i64 (a - b))) :: e) w) : WO P n ops S Lt Q ⟨some d₀, .binOp .sub t x y u, ty, pos, af, gd⟩ i₀ 0 ord e w := ⟨fun hi₀ => WF_sub hi₀ hg₀ hx hy hr hdn kk⟩
theorem WO_mul {x y : Operand} {t u : TypeId} {a b : Int} (hg₀ : gdOk ops e gd) (hx : ev e x = some (.int .i64 a)) (hy : ev e y = some (.int .i64 b)) (hr : I64 (a * b)) (hdn : Nat.blt d₀ n = true) (kk : WD P n ops S Lt Q ord ((d₀, (.int .i64 (a * b))) :: e) w) : WO P n ops S Lt Q ⟨some d₀, .binOp .mul t x y u, ty, pos, af, gd⟩ i₀ 0 ord e w := ⟨fun hi₀ => WF_mul hi₀ hg₀ hx hy hr hdn kk⟩
theorem WO_neg {x : Operand} {t : TypeId} {a : Int} (hg₀ : gdOk ops e gd) (hx : ev e x = some (.int .i64 a)) (hr : I64 (- a)) (hdn : Nat.blt d₀ n = true) (kk : WD P n ops S Lt Q ord ((d₀, (.int .i64 (- a))) :: e) w) : WO P n ops S Lt Q ⟨some d₀, .unOp .neg t x, ty, pos, af, gd⟩ i₀ 0 ord e w := ⟨fun hi₀ => WF_neg hi₀ hg₀ hx hr hdn kk⟩
theorem WO_remP {x y : Operand} {t u : TypeId} {a b : Int} (hg₀ : gdOk ops e gd) (hx : ev e x = some (.int .i64 a)) (hy : ev e y = some (.int .i64 b)) (h0 : 0 ≤ a) (hb : 0 < b) (hr : I64 a) (hdn : Nat.blt d₀ n = true) (kk : WD P n ops S Lt Q ord ((d₀, (.int .i64 (a % b))) :: e) w) : WO P n ops S Lt Q ⟨some d₀, .binOp .rem t x y u, ty, pos, af, gd⟩ i₀ 0 ord e w := ⟨fun hi₀ => WF_remP hi₀ hg₀ hx hy h0 hb hr hdn kk⟩
theorem WO_quoP {x y : Operand} {t u : TypeId} {a b : Int} (hg₀ : gdOk ops e gd) (hx : ev e x = some (.int .i64 a)) (hy : ev e y = some (.int .i64 b)) (h0 : 0 ≤ a) (hb : 0 < b) (hr : I64 a) (hdn : Nat.blt d₀ n = true) (kk : WD P n ops S Lt Q ord ((d₀, (.int .i64 (a / b))) :: e) w) : WO P n ops S Lt Q ⟨some d₀, .binOp .quo t x y u, ty, pos, af, gd⟩ i₀ 0 ord e w := ⟨fun hi₀ => WF_quoP hi₀ hg₀ hx hy h0 hb hr hdn kk⟩
theorem WO_lss {x y : Operand} {t u : TypeId} {a b : Int} {k : IntKind} (hg₀ : gdOk ops e gd) (hx : ev e x = some (.int k a)) (hy : ev e y = some (.int k b)) (hdn : Nat.blt d₀ n = true) (kk : WD P n ops S Lt Q ord ((d₀, (.bool (decide (a < b)))) :: e) w) : WO P n ops S Lt Q ⟨some d₀, .binOp .lss t x y u, ty, pos, af, gd⟩ i₀ 0 ord e w := ⟨fun hi₀ => WF_lss hi₀ hg₀ hx hy hdn kk⟩
theorem WO_leq {x y : Operand} {t u : TypeId} {a b : Int} {k : IntKind} (hg₀ : gdOk ops e gd) (hx : ev e x = some (.int k a)) (hy : ev e y = some (.int k b)) (hdn : Nat.blt d₀ n = true) (kk : WD P n ops S Lt Q ord ((d₀, (.bool (decide (a ≤ b)))) :: e) w) : WO P n ops S Lt Q ⟨some d₀, .binOp .leq t x y u, ty, pos, af, gd⟩ i₀ 0 ord e w := ⟨fun hi₀ => WF_leq hi₀ hg₀ hx hy hdn kk⟩
theorem WO_gtr {x y : Operand} {t u : TypeId} {a b : Int} {k : IntKind} (hg₀ : gdOk ops e gd) (hx : ev e x = some (.int k a)) (hy : ev e y = some (.int k b)) (hdn : Nat.blt d₀ n = true) (kk : WD P n ops S Lt Q ord ((d₀, (.bool (decide (b < a)))) :: e) w) : WO P n ops S Lt Q ⟨some d₀, .binOp .gtr t x y u, ty, pos, af, gd⟩ i₀ 0 ord e w := ⟨fun hi₀ => WF_gtr hi₀ hg₀ hx hy hdn kk⟩
theorem WO_geq {x y : Operand} {t u : TypeId} {a b : Int} {k : IntKind} (hg₀ : gdOk ops e gd) (hx : ev e x = some (.int k a)) (hy : ev e y = some (.int k b)) (hdn : Nat.blt d₀ n = true) (kk : WD P n ops S Lt Q ord ((d₀, (.bool (decide (b ≤ a)))) :: e) w) : WO P n ops S Lt Q ⟨some d₀, .binOp .geq t x y u, ty, pos, af, gd⟩ i₀ 0 ord e w := ⟨fun hi₀ => WF_geq hi₀ hg₀ hx hy hdn kk⟩
theorem WO_eql {x y : Operand} {t u : TypeId} {a b : Int} {k : IntKind} (hg₀ : gdOk ops e gd) (hx : ev e x = some (.int k a)) (hy : ev e y = some (.int k b)) (hdn : Nat.blt d₀ n = true) (kk : WD P n ops S Lt Q ord ((d₀, (.bool (decide (a = b)))) :: e) w) : WO P n ops S Lt Q ⟨some d₀, .binOp .eql t x y u, ty, pos, af, gd⟩ i₀ 0 ord e w := ⟨fun hi₀ => WF_eql hi₀ hg₀ hx hy hdn kk⟩
theorem WO_neq {x y : Operand} {t u : TypeId} {a b : Int} {k : IntKind} (hg₀ : gdOk ops e gd) (hx : ev e x = some (.int k a)) (hy : ev e y = some (.int k b)) (hdn : Nat.blt d₀ n = true) (kk : WD P n ops S Lt Q ord ((d₀, (.bool (decide (¬ a = b)))) :: e) w) : WO P n ops S Lt Q ⟨some d₀, .binOp .neq t x y u, ty, pos, af, gd⟩ i₀ 0 ord e w := ⟨fun hi₀ => WF_neq hi₀ hg₀ hx hy hdn kk⟩
theorem WO_eqlB {x y : Operand} {t u : TypeId} {p q : Bool} [hu : Und P t .bool] (hg₀ : gdOk ops e gd) (hx : ev e x = some (.bool p)) (hy : ev e y = some (.bool q)) (hdn : Nat.blt d₀ n = true) (kk : WD P n ops S Lt Q ord ((d₀, (.bool (decide (p = q)))) :: e) w) : WO P n ops S Lt Q ⟨some d₀, .binOp .eql t x y u, ty, pos, af, gd⟩ i₀ 0 ord e w := ⟨fun hi₀ => WF_eqlB hi₀ hg₀ hx hy hdn kk⟩
theorem WO_neqB {x y : Operand} {t u : TypeId} {p q : Bool} [hu : Und P t .bool] (hg₀ : gdOk ops e gd) (hx : ev e x = some (.bool p)) (hy : ev e y = some (.bool q)) (hdn : Nat.blt d₀ n = true) (kk : WD P n ops S Lt Q ord ((d₀, (.bool (decide (¬ p = q)))) :: e) w) : WO P n ops S Lt Q ⟨some d₀, .binOp .neq t x y u, ty, pos, af, gd⟩ i₀ 0 ord e w := ⟨fun hi₀ => WF_neqB hi₀ hg₀ hx hy hdn kk⟩
theorem WO_extract {x : Operand} {vs : Array Value} {i : Nat} {v : Value} (hg₀ : gdOk ops e gd) (hx : ev e x = some (.tuple vs)) (hv : vs[i]? = some v) (hdn : Nat.blt d₀ n = true) (kk : WD P n ops S Lt Q ord ((d₀, v) :: e) w) : WO P n ops S Lt Q ⟨some d₀, .extract x i, ty, pos, af, gd⟩ i₀ 0 ord e w := ⟨fun hi₀ => WF_extract hi₀ hg₀ hx hv hdn kk⟩
theorem WO_len {x : Operand} {t : TypeId} {el : TypeId} [hu : Und P t (.slice el)] {p : Option Addr} {l c : Nat} (hg₀ : gdOk ops e gd) (hx : ev e x = some (.slice p l c)) (hdn : Nat.blt d₀ n = true) (kk : WD P n ops S Lt Q ord ((d₀, (.int .i64 (l : Int))) :: e) w) : WO P n ops S Lt Q ⟨some d₀, .call { callee := .builtin .len, args := #[x], argTypes := #[t] }, ty, pos, af, gd⟩ i₀ 0 ord e w := ⟨fun hi₀ => WF_len hi₀ hg₀ hx hdn kk⟩
theorem WO_fieldAddr {x : Operand} {t : TypeId} {b o i off : Nat} [hf : Fld P t i off] (hg₀ : gdOk ops e gd) (hx : ev e x = some (.pointer (some ⟨b, o, none⟩))) (hdn : Nat.blt d₀ n = true) (kk : WD P n ops S Lt Q ord ((d₀, (.pointer (some ⟨b, o + off, none⟩))) :: e) w) : WO P n ops S Lt Q ⟨some d₀, .fieldAddr t x i, ty, pos, af, gd⟩ i₀ 0 ord e w := ⟨fun hi₀ => WF_fieldAddr hi₀ hg₀ hx hdn kk⟩
theorem WO_makeFunc0 {f : Nat} (hg₀ : gdOk ops e gd) (hdn : Nat.blt d₀ n = true) (kk : WD P n ops S Lt Q ord ((d₀, (.func (.func f) #[] #[])) :: e) w) : WO P n ops S Lt Q ⟨some d₀, .makeFunc (.func f) #[] #[], ty, pos, af, gd⟩ i₀ 0 ord e w := ⟨fun hi₀ => WF_makeFunc0 hi₀ hg₀ hdn kk⟩
theorem WO_makeFunc1 {f : Nat} {x : Operand} {v : Value} (hg₀ : gdOk ops e gd) (hx : ev e x = some v) (hdn : Nat.blt d₀ n = true) (kk : WD P n ops S Lt Q ord ((d₀, (.func (.func f) #[] #[v])) :: e) w) : WO P n ops S Lt Q ⟨some d₀, .makeFunc (.func f) #[] #[x], ty, pos, af, gd⟩ i₀ 0 ord e w := ⟨fun hi₀ => WF_makeFunc1 hi₀ hg₀ hx hdn kk⟩
theorem WO_makeFunc2 {f : Nat} {x y : Operand} {v u : Value} (hg₀ : gdOk ops e gd) (hx : ev e x = some v) (hy : ev e y = some u) (hdn : Nat.blt d₀ n = true) (kk : WD P n ops S Lt Q ord ((d₀, (.func (.func f) #[] #[v, u])) :: e) w) : WO P n ops S Lt Q ⟨some d₀, .makeFunc (.func f) #[] #[x, y], ty, pos, af, gd⟩ i₀ 0 ord e w := ⟨fun hi₀ => WF_makeFunc2 hi₀ hg₀ hx hy hdn kk⟩
theorem WO_makeFunc3 {f : Nat} {x y z : Operand} {v u s : Value} (hg₀ : gdOk ops e gd) (hx : ev e x = some v) (hy : ev e y = some u) (hz : ev e z = some s) (hdn : Nat.blt d₀ n = true) (kk : WD P n ops S Lt Q ord ((d₀, (.func (.func f) #[] #[v, u, s])) :: e) w) : WO P n ops S Lt Q ⟨some d₀, .makeFunc (.func f) #[] #[x, y, z], ty, pos, af, gd⟩ i₀ 0 ord e w := ⟨fun hi₀ => WF_makeFunc3 hi₀ hg₀ hx hy hz hdn kk⟩
theorem WO_lenS {α : Type} [GoRep α] {X : List Nat} {xs : List α} {v : Value} {x : Operand} {t : TypeId} {el : TypeId} {w₀ : World} [hu : Und P t (.slice el)] (hg₀ : gdOk ops e gd) (hx : ev e x = some v) (hs : SlV X w₀ v xs) (hdn : Nat.blt d₀ n = true) (kk : WD P n ops S Lt Q ord ((d₀, (.int .i64 (xs.length : Int))) :: e) w) : WO P n ops S Lt Q ⟨some d₀, .call { callee := .builtin .len, args := #[x], argTypes := #[t] }, ty, pos, af, gd⟩ i₀ 0 ord e w := ⟨fun hi₀ => WF_lenS hi₀ hg₀ hx hs hdn kk⟩
theorem WO_idx {α : Type} [GoRep α] {X : List Nat} {xs : List α} {v : Value} {x y : Operand} {t : TypeId} {el k : Nat} [hu : Und P t (.slice el)] [hk : Siz P el k] {z : Int} {i : Nat} {w₀ : World} (hg₀ : gdOk ops e gd) (hx : ev e x = some v) (hs : SlV X w₀ v xs) (hy : ev e y = some (.int .i64 z)) (hz : z = (i : Int)) (hi : i < xs.length) (hdn : Nat.blt d₀ n = true) (kk : WD P n ops S Lt Q ord ((d₀, (.pointer (some (elAddr v i k 0)))) :: e) w) : WO P n ops S Lt Q ⟨some d₀, .indexAddr t x y, ty, pos, af, gd⟩ i₀ 0 ord e w := ⟨fun hi₀ => WF_idx hi₀ hg₀ hx hs hy hz hi hdn kk⟩
theorem WO_field_el {x : Operand} {t : TypeId} {v : Value} {i k j m off : Nat} [hf : Fld P t m off] (hg₀ : gdOk ops e gd) (hx : ev e x = some (.pointer (some (elAddr v i k j)))) (hv : ∃ p l c, v = .slice (some p) l c) (hdn : Nat.blt d₀ n = true) (kk : WD P n ops S Lt Q ord ((d₀, (.pointer (some (elAddr v i k (j + off))))) :: e) w) : WO P n ops S Lt Q ⟨some d₀, .fieldAddr t x m, ty, pos, af, gd⟩ i₀ 0 ord e w := ⟨fun hi₀ => WF_field_el hi₀ hg₀ hx hv hdn kk⟩
theorem WO_build {t : TypeId} {l : List (Nat × Operand)} {vs : List (Nat × Value)} {u : Value} (hg₀ : gdOk ops e gd) (hv : evParts e l = some vs) (hb : ∀ w, (Instr.build t vs.toArray).run P w = .ok u w) (hdn : Nat.blt d₀ n = true) (kk : WD P n ops S Lt Q ord ((d₀, u) :: e) w) : WO P n ops S Lt Q ⟨some d₀, .build t l.toArray, ty, pos, af, gd⟩ i₀ 0 ord e w := ⟨fun hi₀ => WF_build hi₀ hg₀ hv hb hdn kk⟩
theorem WO_neqS {x y : Operand} {t u : TypeId} {p q : Value} {c : Prop} [Decidable c] (hg₀ : gdOk ops e gd) (hx : ev e x = some p) (hy : ev e y = some q) (hg : ∀ w, (eqGuard .neq t x y p q).run P w = .ok () w) (h : ∀ w, (binOp .neq t p q).run P w = .ok (.bool (decide (¬ c))) w) (hdn : Nat.blt d₀ n = true) (kk : WD P n ops S Lt Q ord ((d₀, (.bool (decide (¬ c)))) :: e) w) : WO P n ops S Lt Q ⟨some d₀, .binOp .neq t x y u, ty, pos, af, gd⟩ i₀ 0 ord e w := ⟨fun hi₀ => WF_neqS hi₀ hg₀ hx hy hg h hdn kk⟩
theorem WO_rload_blk {b T o : Nat} {cs : List Value} {u : Value} {x : Operand} {t : TypeId} {D : TypeDesc} [hu : Und P t D] (hg₀ : gdOk ops e gd) (hA : aggB D = false) (hx : ev e x = some (.pointer (some ⟨b, o, none⟩))) (hb : Blk w b T cs) (hn : b ∉ S) (hc : cs[o]? = some u) (hdn : Nat.blt d₀ n = true) (kk : WD P n ops S Lt Q ord ((d₀, u) :: e) w) : WO P n ops S Lt Q ⟨some d₀, .load t x, ty, pos, af, gd⟩ i₀ 1 ord e w := ⟨fun hi₀ => WR_load_blk hi₀ hg₀ hA hx hb hn hc hdn kk⟩
theorem WO_rload_blkA {b T m : Nat} {cs : List Value} {x : Operand} {t : TypeId} {D : TypeDesc} [hu : Und P t D] [hsz : Siz P t m] (hg₀ : gdOk ops e gd) (hA : aggB D = true) (hx : ev e x = some (.pointer (some ⟨b, 0, none⟩))) (hb : Blk w b T cs) (hn : b ∉ S) (hl : cs.length = m) (hdn : Nat.blt d₀ n = true) (kk : WD P n ops S Lt Q ord ((d₀, .agg cs.toArray) :: e) w) : WO P n ops S Lt Q ⟨some d₀, .load t x, ty, pos, af, gd⟩ i₀ 1 ord e w := ⟨fun hi₀ => WR_load_blkA hi₀ hg₀ hA hx hb hn hl hdn kk⟩
theorem WO_rload_el {α : Type} [Flat α] {X : List Nat} {xs : List α} {v u : Value} {i j k : Nat} {x : Operand} {t : TypeId} {D : TypeDesc} [hu : Und P t D] (hg₀ : gdOk ops e gd) (hA : aggB D = false) (hx : ev e x = some (.pointer (some (elAddr v i k j)))) (hs : SlV X w v xs) (hn : ∀ b ∈ S, b ∈ X) (hi : i < xs.length) (hk : k = Flat.k α) (hc : (Flat.enc xs[i])[j]? = some u) (hdn : Nat.blt d₀ n = true) (kk : WD P n ops S Lt Q ord ((d₀, u) :: e) w) : WO P n ops S Lt Q ⟨some d₀, .load t x, ty, pos, af, gd⟩ i₀ 1 ord e w := ⟨fun hi₀ => WR_load_el hi₀ hg₀ hA hx hs hn hi hk hc hdn kk⟩
theorem WO_rload_elA {α : Type} [Flat α] {X : List Nat} {xs : List α} {v : Value} {i k : Nat} {x : Operand} {t : TypeId} {D : TypeDesc} [hu : Und P t D] [hsz : Siz P t k] (hg₀ : gdOk ops e gd) (hA : aggB D = true) (hx : ev e x = some (.pointer (some (elAddr v i k 0)))) (hs : SlV X w v xs) (hn : ∀ b ∈ S, b ∈ X) (hi : i < xs.length) (hk : k = Flat.k α) (hdn : Nat.blt d₀ n = true) (kk : WD P n ops S Lt Q ord ((d₀, .agg (Flat.enc xs[i]).toArray) :: e) w) : WO P n ops S Lt Q ⟨some d₀, .load t x, ty, pos, af, gd⟩ i₀ 1 ord e w := ⟨fun hi₀ => WR_load_elA hi₀ hg₀ hA hx hs hn hi hk hdn kk⟩
theorem WO_eqlT {t u : TypeId} {x y : Operand} {a b : Str} [hu : Und P t .string] (hg₀ : gdOk ops e gd) (hx : ev e x = some (str a)) (hy : ev e y = some (str b)) (hdn : Nat.blt d₀ n = true) (kk : WD P n ops S Lt Q ord ((d₀, (.bool (decide (a = b)))) :: e) w) : WO P n ops S Lt Q ⟨some d₀, .binOp .eql t x y u, ty, pos, af, gd⟩ i₀ 0 ord e w := ⟨fun hi₀ => WF_eqlT hi₀ hg₀ hx hy hdn kk⟩
theorem WO_neqT {t u : TypeId} {x y : Operand} {a b : Str} [hu : Und P t .string] (hg₀ : gdOk ops e gd) (hx : ev e x = some (str a)) (hy : ev e y = some (str b)) (hdn : Nat.blt d₀ n = true) (kk : WD P n ops S Lt Q ord ((d₀, (.bool (decide (¬ a = b)))) :: e) w) : WO P n ops S Lt Q ⟨some d₀, .binOp .neq t x y u, ty, pos, af, gd⟩ i₀ 0 ord e w := ⟨fun hi₀ => WF_neqT hi₀ hg₀ hx hy hdn kk⟩
theorem WO_addT {t u : TypeId} {x y : Operand} {a b : Str} [hu : Und P t .string] (hg₀ : gdOk ops e gd) (hx : ev e x = some (str a)) (hy : ev e y = some (str b)) (hl : a.length + b.length ≤ 9223372036854775807) (hdn : Nat.blt d₀ n = true) (kk : WD P n ops S Lt Q ord ((d₀, (str (a ++ b))) :: e) w) : WO P n ops S Lt Q ⟨some d₀, .binOp .add t x y u, ty, pos, af, gd⟩ i₀ 0 ord e w := ⟨fun hi₀ => WF_addT hi₀ hg₀ hx hy hl hdn kk⟩
theorem WO_lenT {x : Operand} {t : TypeId} {a : Str} [hu : Und P t .string] (hg₀ : gdOk ops e gd) (hx : ev e x = some (str a)) (hdn : Nat.blt d₀ n = true) (kk : WD P n ops S Lt Q ord ((d₀, (.int .i64 (a.length : Int))) :: e) w) : WO P n ops S Lt Q ⟨some d₀, .call { callee := .builtin .len, args := #[x], argTypes := #[t] }, ty, pos, af, gd⟩ i₀ 0 ord e w := ⟨fun hi₀ => WF_lenT hi₀ hg₀ hx hdn kk⟩
theorem WO_indexT {t : TypeId} {x y : Operand} {a : Str} {z : Int} {i : Nat} [hu : Und P t .string] (hg₀ : gdOk ops e gd) (hx : ev e x = some (str a)) (hy : ev e y = some (.int .i64 z)) (hz : z = (i : Int)) (hi : i < a.length) (hdn : Nat.blt d₀ n = true) (kk : WD P n ops S Lt Q ord ((d₀, (.int .u8 (byte a i))) :: e) w) : WO P n ops S Lt Q ⟨some d₀, .index t x y, ty, pos, af, gd⟩ i₀ 0 ord e w := ⟨fun hi₀ => WF_indexT hi₀ hg₀ hx hy hz hi hdn kk⟩
theorem WO_nilCheck {x : Operand} {b : Addr} (hg₀ : gdOk ops e gd) (hx : ev e x = some (.pointer (some b))) (hdn : Nat.blt d₀ n = true) (kk : WD P n ops S Lt Q ord ((d₀, (.pointer (some b))) :: e) w) : WO P n ops S Lt Q ⟨some d₀, .nilCheck x, ty, pos, af, gd⟩ i₀ 0 ord e w := ⟨fun hi₀ => WF_nilCheck hi₀ hg₀ hx hdn kk⟩
theorem WO_not_e {t : TypeId} {x : Operand} {p : Prop} {i : Decidable p} (hg₀ : gdOk ops e gd) (hx : ev e x = some (.bool (decide p))) (hdn : Nat.blt d₀ n = true) (kk : WD P n ops S Lt Q ord ((d₀, (.bool (decide (¬ p)))) :: e) w) : WO P n ops S Lt Q ⟨some d₀, .unOp .not t x, ty, pos, af, gd⟩ i₀ 0 ord e w := ⟨fun hi₀ => WF_not_e hi₀ hg₀ hx hdn kk⟩
theorem WO_idxA {t el len k : Nat} {x y : Operand} {b o i : Nat} {z : Int} [hu : Und P t (.array len el)] [hk : Siz P el k] (hg₀ : gdOk ops e gd) (hx : ev e x = some (.pointer (some ⟨b, o, none⟩))) (hy : ev e y = some (.int .i64 z)) (hz : z = (i : Int)) (hi : i < len) (hdn : Nat.blt d₀ n = true) (kk : WD P n ops S Lt Q ord ((d₀, (.pointer (some ⟨b, o + i * k, none⟩))) :: e) w) : WO P n ops S Lt Q ⟨some d₀, .indexAddr t x y, ty, pos, af, gd⟩ i₀ 0 ord e w := ⟨fun hi₀ => WF_idxA hi₀ hg₀ hx hy hz hi hdn kk⟩
theorem WO_max {x y : Operand} {ts : Array TypeId} {a b : Int} (hg₀ : gdOk ops e gd) (hx : ev e x = some (.int .i64 a)) (hy : ev e y = some (.int .i64 b)) (hdn : Nat.blt d₀ n = true) (kk : WD P n ops S Lt Q ord ((d₀, (.int .i64 (max a b))) :: e) w) : WO P n ops S Lt Q ⟨some d₀, .call { callee := .builtin .max, args := #[x, y], argTypes := ts }, ty, pos, af, gd⟩ i₀ 0 ord e w := ⟨fun hi₀ => WF_max hi₀ hg₀ hx hy hdn kk⟩
theorem WO_min {x y : Operand} {ts : Array TypeId} {a b : Int} (hg₀ : gdOk ops e gd) (hx : ev e x = some (.int .i64 a)) (hy : ev e y = some (.int .i64 b)) (hdn : Nat.blt d₀ n = true) (kk : WD P n ops S Lt Q ord ((d₀, (.int .i64 (min a b))) :: e) w) : WO P n ops S Lt Q ⟨some d₀, .call { callee := .builtin .min, args := #[x, y], argTypes := ts }, ty, pos, af, gd⟩ i₀ 0 ord e w := ⟨fun hi₀ => WF_min hi₀ hg₀ hx hy hdn kk⟩
theorem iso_idx {t : TypeId} {x : Operand} {y : Operand} {q : Nat} (h : WO P n ops S Lt Q ⟨some d₀, .indexAddr t x y, ty, pos, af, gd⟩ i₀ q ord e w) : WO P n ops S Lt Q ⟨some d₀, .indexAddr t x y, ty, pos, af, gd⟩ i₀ q ord e w := h
theorem iso_load {t : TypeId} {x : Operand} {q : Nat} (h : WO P n ops S Lt Q ⟨some d₀, .load t x, ty, pos, af, gd⟩ i₀ q ord e w) : WO P n ops S Lt Q ⟨some d₀, .load t x, ty, pos, af, gd⟩ i₀ q ord e w := h
theorem iso_len {t : TypeId} {x : Operand} {q : Nat} (h : WO P n ops S Lt Q ⟨some d₀, .call { callee := .builtin .len, args := #[x], argTypes := #[t] }, ty, pos, af, gd⟩ i₀ q ord e w) : WO P n ops S Lt Q ⟨some d₀, .call { callee := .builtin .len, args := #[x], argTypes := #[t] }, ty, pos, af, gd⟩ i₀ q ord e w := h
theorem iso_field {t : TypeId} {x : Operand} {m : Nat} {q : Nat} (h : WO P n ops S Lt Q ⟨some d₀, .fieldAddr t x m, ty, pos, af, gd⟩ i₀ q ord e w) : WO P n ops S Lt Q ⟨some d₀, .fieldAddr t x m, ty, pos, af, gd⟩ i₀ q ord e w := h
theorem is_bin {t : TypeId} {x : Operand} {y : Operand} {u : TypeId} {bo : BinOp} (h : WL P n ops Q (⟨some d₀, .binOp bo t x y u, ty, pos, af, none⟩ :: rest) e w) : WL P n ops Q (⟨some d₀, .binOp bo t x y u, ty, pos, af, none⟩ :: rest) e w := h
theorem iso_bin {t : TypeId} {x : Operand} {y : Operand} {u : TypeId} {bo : BinOp} {q : Nat} (h : WO P n ops S Lt Q ⟨some d₀, .binOp bo t x y u, ty, pos, af, gd⟩ i₀ q ord e w) : WO P n ops S Lt Q ⟨some d₀, .binOp bo t x y u, ty, pos, af, gd⟩ i₀ q ord e w := h
theorem is_un {t : TypeId} {x : Operand} {uo : UnOp} (h : WL P n ops Q (⟨some d₀, .unOp uo t x, ty, pos, af, none⟩ :: rest) e w) : WL P n ops Q (⟨some d₀, .unOp uo t x, ty, pos, af, none⟩ :: rest) e w := h
theorem iso_un {t : TypeId} {x : Operand} {uo : UnOp} {q : Nat} (h : WO P n ops S Lt Q ⟨some d₀, .unOp uo t x, ty, pos, af, gd⟩ i₀ q ord e w) : WO P n ops S Lt Q ⟨some d₀, .unOp uo t x, ty, pos, af, gd⟩ i₀ q ord e w := h
theorem is_pick {x : Operand} {y : Operand} {z : Operand} (h : WL P n ops Q (⟨some d₀, .pick x y z, ty, pos, af, none⟩ :: rest) e w) : WL P n ops Q (⟨some d₀, .pick x y z, ty, pos, af, none⟩ :: rest) e w := h
theorem iso_pick {x : Operand} {y : Operand} {z : Operand} {q : Nat} (h : WO P n ops S Lt Q ⟨some d₀, .pick x y z, ty, pos, af, gd⟩ i₀ q ord e w) : WO P n ops S Lt Q ⟨some d₀, .pick x y z, ty, pos, af, gd⟩ i₀ q ord e w := h
theorem is_mkf {ff : Fn} {fa ca : Array Operand} (h : WL P n ops Q (⟨some d₀, .makeFunc ff fa ca, ty, pos, af, none⟩ :: rest) e w) : WL P n ops Q (⟨some d₀, .makeFunc ff fa ca, ty, pos, af, none⟩ :: rest) e w := h
theorem iso_mkf {ff : Fn} {fa ca : Array Operand} {q : Nat} (h : WO P n ops S Lt Q ⟨some d₀, .makeFunc ff fa ca, ty, pos, af, gd⟩ i₀ q ord e w) : WO P n ops S Lt Q ⟨some d₀, .makeFunc ff fa ca, ty, pos, af, gd⟩ i₀ q ord e w := h
theorem isWL {l : List Oper} (h : WL P n ops Q l e w) : WL P n ops Q l e w := h
theorem isWC {c : Code} (h : WC P n c Q e w) : WC P n c Q e w := h
theorem isWQ {x : Exit} (h : WQ n Q x e w) : WQ n Q x e w := h
end

/-- the rest of the goal -/
structure Hold (R : Prop) : Prop where
  h : R
/-- the walk goes on as far as it can; what is left is the argument -/
theorem W {G R : Prop} (k : R) (h : Hold R → G := by
    intro r
    repeat' (first
      | (apply isWL; first
      | (apply WL_move; exact rfl; exact rfl)
      | (apply WL_assign; exact rfl; exact rfl)
      | apply WL_nil
      | (apply is_load; first | refine WL_load_blk rfl rfl (by assumption) (by rfl) rfl ?_ | refine WL_load_el rfl rfl (by assumption) (by first | assumption | omega) (by rfl) (by rfl) rfl ?_ | refine WL_load_blkA rfl rfl (by assumption) (by rfl) rfl ?_ | refine WL_load_elA rfl rfl (by assumption) (by assumption) (by rfl) rfl ?_)
      | (apply is_idx; first | refine WL_idx rfl (by assumption) rfl rfl (by assumption) rfl ?_ | refine WL_idx rfl (by assumption) rfl rfl (by omega) rfl ?_ | refine WL_idx rfl (by assumption) rfl (by assumption) (by first | assumption | omega) rfl ?_ | refine WL_idx (i := 0) rfl (by assumption) rfl rfl (by omega) rfl ?_ | refine WL_idx (i := 1) rfl (by assumption) rfl rfl (by omega) rfl ?_ | refine WL_idx (i := 2) rfl (by assumption) rfl rfl (by omega) rfl ?_ | refine WL_idxA (i := 0) rfl rfl rfl (by decide) rfl ?_ | refine WL_idxA (i := 1) rfl rfl rfl (by decide) rfl ?_ | refine WL_idxA (i := 2) rfl rfl rfl (by decide) rfl ?_ | refine WL_idxA rfl rfl rfl (by omega) rfl ?_)
      | (apply WL_fieldAddr; exact rfl; exact rfl)
      | (apply is_field; refine WL_field_el rfl (SlV.isSome (by assumption) (by assumption)) rfl ?_)
      | (apply is_len; first | refine WL_lenT rfl rfl ?_ | refine WL_lenS rfl (by assumption) rfl ?_ | refine WL_len rfl rfl ?_)
      | (apply WL_extract; exact rfl; exact rfl; exact rfl)
      | (apply WL_nilCheck; exact rfl; exact rfl)
      | (apply is_bin; first | (apply WL_eql; exact rfl; exact rfl; exact rfl) | (apply WL_lss; exact rfl; exact rfl; exact rfl) | (apply WL_neq; exact rfl; exact rfl; exact rfl) | (apply WL_eqlT; exact rfl; exact rfl; exact rfl) | (apply WL_neqT; exact rfl; exact rfl; exact rfl) | (apply WL_add; exact rfl; exact rfl; (unfold I64; omega); exact rfl) | (apply WL_sub; exact rfl; exact rfl; (unfold I64; omega); exact rfl) | (apply WL_leq; exact rfl; exact rfl; exact rfl) | (apply WL_gtr; exact rfl; exact rfl; exact rfl) | (apply WL_geq; exact rfl; exact rfl; exact rfl) | (apply WL_eqlB; exact rfl; exact rfl; exact rfl) | (apply WL_neqB; exact rfl; exact rfl; exact rfl) | (apply WL_mul; exact rfl; exact rfl; (unfold I64; omega); exact rfl) | (apply WL_quoP; exact rfl; exact rfl; omega; omega; (unfold I64; omega); exact rfl) | (apply WL_remP; exact rfl; exact rfl; omega; omega; (unfold I64; omega); exact rfl) | (apply WL_addT; exact rfl; exact rfl; omega; exact rfl))
      | (apply is_un; first | (apply WL_not_t; exact rfl; exact rfl) | (apply WL_not_f; exact rfl; exact rfl) | (apply WL_not_e; exact rfl; exact rfl) | (apply WL_not; exact rfl; exact rfl) | (apply WL_neg; exact rfl; (unfold I64; omega); exact rfl))
      | (apply is_pick; first | (apply WL_pick_t; exact rfl; exact rfl; exact rfl) | (apply WL_pick_f; exact rfl; exact rfl; exact rfl))
      | (apply WL_max; exact rfl; exact rfl; exact rfl)
      | (apply WL_min; exact rfl; exact rfl; exact rfl)
      | (apply WL_indexT; exact rfl; exact rfl; exact rfl; first | assumption | omega; exact rfl)
      | (apply is_mkf; first | (apply WL_makeFunc0; exact rfl) | (apply WL_makeFunc1; exact rfl; exact rfl) | (apply WL_makeFunc2; exact rfl; exact rfl; exact rfl) | (apply WL_makeFunc3; exact rfl; exact rfl; exact rfl; exact rfl))
      | (apply WL_go; exact rfl)
      | (apply WL_pass; exact rfl; exact rfl))
      | (apply isWC; first | apply WC_seq | apply WC_region | apply WC_block | apply WC_skip | apply WC_ret | apply WC_exit | (apply WC_cond_true; exact rfl) | (apply WC_cond_false; exact rfl))
      | (apply isWQ; first | apply WQ_then | apply WQ_then_ret | apply WQ_then_exit | apply WQ_block_here | (apply WQ_block_on; exact rfl) | apply WQ_block_ret | apply WQ_block))
    exact r.h) : G := h ⟨k⟩
/-- the same, by at least one step -/
theorem W1 {G R : Prop} (k : R) (h : Hold R → G := by
    intro r
    first
      | (apply isWL; first
      | (apply WL_move; exact rfl; exact rfl)
      | (apply WL_assign; exact rfl; exact rfl)
      | apply WL_nil
      | (apply is_load; first | refine WL_load_blk rfl rfl (by assumption) (by rfl) rfl ?_ | refine WL_load_el rfl rfl (by assumption) (by first | assumption | omega) (by rfl) (by rfl) rfl ?_ | refine WL_load_blkA rfl rfl (by assumption) (by rfl) rfl ?_ | refine WL_load_elA rfl rfl (by assumption) (by assumption) (by rfl) rfl ?_)
      | (apply is_idx; first | refine WL_idx rfl (by assumption) rfl rfl (by assumption) rfl ?_ | refine WL_idx rfl (by assumption) rfl rfl (by omega) rfl ?_ | refine WL_idx rfl (by assumption) rfl (by assumption) (by first | assumption | omega) rfl ?_ | refine WL_idx (i := 0) rfl (by assumption) rfl rfl (by omega) rfl ?_ | refine WL_idx (i := 1) rfl (by assumption) rfl rfl (by omega) rfl ?_ | refine WL_idx (i := 2) rfl (by assumption) rfl rfl (by omega) rfl ?_ | refine WL_idxA (i := 0) rfl rfl rfl (by decide) rfl ?_ | refine WL_idxA (i := 1) rfl rfl rfl (by decide) rfl ?_ | refine WL_idxA (i := 2) rfl rfl rfl (by decide) rfl ?_ | refine WL_idxA rfl rfl rfl (by omega) rfl ?_)
      | (apply WL_fieldAddr; exact rfl; exact rfl)
      | (apply is_field; refine WL_field_el rfl (SlV.isSome (by assumption) (by assumption)) rfl ?_)
      | (apply is_len; first | refine WL_lenT rfl rfl ?_ | refine WL_lenS rfl (by assumption) rfl ?_ | refine WL_len rfl rfl ?_)
      | (apply WL_extract; exact rfl; exact rfl; exact rfl)
      | (apply WL_nilCheck; exact rfl; exact rfl)
      | (apply is_bin; first | (apply WL_eql; exact rfl; exact rfl; exact rfl) | (apply WL_lss; exact rfl; exact rfl; exact rfl) | (apply WL_neq; exact rfl; exact rfl; exact rfl) | (apply WL_eqlT; exact rfl; exact rfl; exact rfl) | (apply WL_neqT; exact rfl; exact rfl; exact rfl) | (apply WL_add; exact rfl; exact rfl; (unfold I64; omega); exact rfl) | (apply WL_sub; exact rfl; exact rfl; (unfold I64; omega); exact rfl) | (apply WL_leq; exact rfl; exact rfl; exact rfl) | (apply WL_gtr; exact rfl; exact rfl; exact rfl) | (apply WL_geq; exact rfl; exact rfl; exact rfl) | (apply WL_eqlB; exact rfl; exact rfl; exact rfl) | (apply WL_neqB; exact rfl; exact rfl; exact rfl) | (apply WL_mul; exact rfl; exact rfl; (unfold I64; omega); exact rfl) | (apply WL_quoP; exact rfl; exact rfl; omega; omega; (unfold I64; omega); exact rfl) | (apply WL_remP; exact rfl; exact rfl; omega; omega; (unfold I64; omega); exact rfl) | (apply WL_addT; exact rfl; exact rfl; omega; exact rfl))
      | (apply is_un; first | (apply WL_not_t; exact rfl; exact rfl) | (apply WL_not_f; exact rfl; exact rfl) | (apply WL_not_e; exact rfl; exact rfl) | (apply WL_not; exact rfl; exact rfl) | (apply WL_neg; exact rfl; (unfold I64; omega); exact rfl))
      | (apply is_pick; first | (apply WL_pick_t; exact rfl; exact rfl; exact rfl) | (apply WL_pick_f; exact rfl; exact rfl; exact rfl))
      | (apply WL_max; exact rfl; exact rfl; exact rfl)
      | (apply WL_min; exact rfl; exact rfl; exact rfl)
      | (apply WL_indexT; exact rfl; exact rfl; exact rfl; first | assumption | omega; exact rfl)
      | (apply is_mkf; first | (apply WL_makeFunc0; exact rfl) | (apply WL_makeFunc1; exact rfl; exact rfl) | (apply WL_makeFunc2; exact rfl; exact rfl; exact rfl) | (apply WL_makeFunc3; exact rfl; exact rfl; exact rfl; exact rfl))
      | (apply WL_go; exact rfl)
      | (apply WL_pass; exact rfl; exact rfl))
      | (apply isWC; first | apply WC_seq | apply WC_region | apply WC_block | apply WC_skip | apply WC_ret | apply WC_exit | (apply WC_cond_true; exact rfl) | (apply WC_cond_false; exact rfl))
      | (apply isWQ; first | apply WQ_then | apply WQ_then_ret | apply WQ_then_exit | apply WQ_block_here | (apply WQ_block_on; exact rfl) | apply WQ_block_ret | apply WQ_block)
    repeat' (first
      | (apply isWL; first
      | (apply WL_move; exact rfl; exact rfl)
      | (apply WL_assign; exact rfl; exact rfl)
      | apply WL_nil
      | (apply is_load; first | refine WL_load_blk rfl rfl (by assumption) (by rfl) rfl ?_ | refine WL_load_el rfl rfl (by assumption) (by first | assumption | omega) (by rfl) (by rfl) rfl ?_ | refine WL_load_blkA rfl rfl (by assumption) (by rfl) rfl ?_ | refine WL_load_elA rfl rfl (by assumption) (by assumption) (by rfl) rfl ?_)
      | (apply is_idx; first | refine WL_idx rfl (by assumption) rfl rfl (by assumption) rfl ?_ | refine WL_idx rfl (by assumption) rfl rfl (by omega) rfl ?_ | refine WL_idx rfl (by assumption) rfl (by assumption) (by first | assumption | omega) rfl ?_ | refine WL_idx (i := 0) rfl (by assumption) rfl rfl (by omega) rfl ?_ | refine WL_idx (i := 1) rfl (by assumption) rfl rfl (by omega) rfl ?_ | refine WL_idx (i := 2) rfl (by assumption) rfl rfl (by omega) rfl ?_ | refine WL_idxA (i := 0) rfl rfl rfl (by decide) rfl ?_ | refine WL_idxA (i := 1) rfl rfl rfl (by decide) rfl ?_ | refine WL_idxA (i := 2) rfl rfl rfl (by decide) rfl ?_ | refine WL_idxA rfl rfl rfl (by omega) rfl ?_)
      | (apply WL_fieldAddr; exact rfl; exact rfl)
      | (apply is_field; refine WL_field_el rfl (SlV.isSome (by assumption) (by assumption)) rfl ?_)
      | (apply is_len; first | refine WL_lenT rfl rfl ?_ | refine WL_lenS rfl (by assumption) rfl ?_ | refine WL_len rfl rfl ?_)
      | (apply WL_extract; exact rfl; exact rfl; exact rfl)
      | (apply WL_nilCheck; exact rfl; exact rfl)
      | (apply is_bin; first | (apply WL_eql; exact rfl; exact rfl; exact rfl) | (apply WL_lss; exact rfl; exact rfl; exact rfl) | (apply WL_neq; exact rfl; exact rfl; exact rfl) | (apply WL_eqlT; exact rfl; exact rfl; exact rfl) | (apply WL_neqT; exact rfl; exact rfl; exact rfl) | (apply WL_add; exact rfl; exact rfl; (unfold I64; omega); exact rfl) | (apply WL_sub; exact rfl; exact rfl; (unfold I64; omega); exact rfl) | (apply WL_leq; exact rfl; exact rfl; exact rfl) | (apply WL_gtr; exact rfl; exact rfl; exact rfl) | (apply WL_geq; exact rfl; exact rfl; exact rfl) | (apply WL_eqlB; exact rfl; exact rfl; exact rfl) | (apply WL_neqB; exact rfl; exact rfl; exact rfl) | (apply WL_mul; exact rfl; exact rfl; (unfold I64; omega); exact rfl) | (apply WL_quoP; exact rfl; exact rfl; omega; omega; (unfold I64; omega); exact rfl) | (apply WL_remP; exact rfl; exact rfl; omega; omega; (unfold I64; omega); exact rfl) | (apply WL_addT; exact rfl; exact rfl; omega; exact rfl))
      | (apply is_un; first | (apply WL_not_t; exact rfl; exact rfl) | (apply WL_not_f; exact rfl; exact rfl) | (apply WL_not_e; exact rfl; exact rfl) | (apply WL_not; exact rfl; exact rfl) | (apply WL_neg; exact rfl; (unfold I64; omega); exact rfl))
      | (apply is_pick; first | (apply WL_pick_t; exact rfl; exact rfl; exact rfl) | (apply WL_pick_f; exact rfl; exact rfl; exact rfl))
      | (apply WL_max; exact rfl; exact rfl; exact rfl)
      | (apply WL_min; exact rfl; exact rfl; exact rfl)
      | (apply WL_indexT; exact rfl; exact rfl; exact rfl; first | assumption | omega; exact rfl)
      | (apply is_mkf; first | (apply WL_makeFunc0; exact rfl) | (apply WL_makeFunc1; exact rfl; exact rfl) | (apply WL_makeFunc2; exact rfl; exact rfl; exact rfl) | (apply WL_makeFunc3; exact rfl; exact rfl; exact rfl; exact rfl))
      | (apply WL_go; exact rfl)
      | (apply WL_pass; exact rfl; exact rfl))
      | (apply isWC; first | apply WC_seq | apply WC_region | apply WC_block | apply WC_skip | apply WC_ret | apply WC_exit | (apply WC_cond_true; exact rfl) | (apply WC_cond_false; exact rfl))
      | (apply isWQ; first | apply WQ_then | apply WQ_then_ret | apply WQ_then_exit | apply WQ_block_here | (apply WQ_block_on; exact rfl) | apply WQ_block_ret | apply WQ_block))
    exact r.h) : G := h ⟨k⟩
/-- in a drawn region -/
theorem D {G R : Prop} (k : R) (h : Hold R → G := by
    intro r
    repeat' (first | apply WD_nil | (apply WD_op; exact rfl; first
      | (apply WO_pass0; exact rfl; exact rfl)
      | (apply WO_pass1; exact rfl; exact rfl)
      | (apply WO_pass2; exact rfl; exact rfl)
      | (apply WO_move; (first | exact trivial | exact rfl); exact rfl; exact rfl)
      | (apply WO_assign; (first | exact trivial | exact rfl); exact rfl; exact rfl)
      | (apply iso_load; first | refine WO_rload_blk (by first | exact trivial | exact rfl) rfl rfl (by assumption) (by first | assumption | (simp; done) | (simp; omega)) (by rfl) rfl ?_ | refine WO_rload_el (by first | exact trivial | exact rfl) rfl rfl (by assumption) (by first | exact fun _ h => h | (simp; done)) (by first | assumption | omega) (by rfl) (by rfl) rfl ?_ | refine WO_rload_blkA (by first | exact trivial | exact rfl) rfl rfl (by assumption) (by first | assumption | (simp; done) | (simp; omega)) (by rfl) rfl ?_ | refine WO_rload_elA (by first | exact trivial | exact rfl) rfl rfl (by assumption) (by first | exact fun _ h => h | (simp; done)) (by assumption) (by rfl) rfl ?_)
      | (apply iso_idx; first | refine WO_idx (by first | exact trivial | exact rfl) rfl (by assumption) rfl rfl (by assumption) rfl ?_ | refine WO_idx (by first | exact trivial | exact rfl) rfl (by assumption) rfl rfl (by omega) rfl ?_ | refine WO_idx (by first | exact trivial | exact rfl) rfl (by assumption) rfl (by assumption) (by first | assumption | omega) rfl ?_ | refine WO_idx (i := 0) (by first | exact trivial | exact rfl) rfl (by assumption) rfl rfl (by omega) rfl ?_ | refine WO_idx (i := 1) (by first | exact trivial | exact rfl) rfl (by assumption) rfl rfl (by omega) rfl ?_ | refine WO_idx (i := 2) (by first | exact trivial | exact rfl) rfl (by assumption) rfl rfl (by omega) rfl ?_ | refine WO_idxA (i := 0) (by first | exact trivial | exact rfl) rfl rfl rfl (by decide) rfl ?_ | refine WO_idxA (i := 1) (by first | exact trivial | exact rfl) rfl rfl rfl (by decide) rfl ?_ | refine WO_idxA (i := 2) (by first | exact trivial | exact rfl) rfl rfl rfl (by decide) rfl ?_ | refine WO_idxA (by first | exact trivial | exact rfl) rfl rfl rfl (by omega) rfl ?_)
      | (apply WO_fieldAddr; (first | exact trivial | exact rfl); exact rfl; exact rfl)
      | (apply iso_field; refine WO_field_el (by first | exact trivial | exact rfl) rfl (SlV.isSome (by assumption) (by assumption)) rfl ?_)
      | (apply iso_len; first | refine WO_lenT (by first | exact trivial | exact rfl) rfl rfl ?_ | refine WO_lenS (by first | exact trivial | exact rfl) rfl (by assumption) rfl ?_ | refine WO_len (by first | exact trivial | exact rfl) rfl rfl ?_)
      | (apply WO_extract; (first | exact trivial | exact rfl); exact rfl; exact rfl; exact rfl)
      | (apply WO_nilCheck; (first | exact trivial | exact rfl); exact rfl; exact rfl)
      | (apply iso_bin; first | (apply WO_eql; (first | exact trivial | exact rfl); exact rfl; exact rfl; exact rfl) | (apply WO_lss; (first | exact trivial | exact rfl); exact rfl; exact rfl; exact rfl) | (apply WO_neq; (first | exact trivial | exact rfl); exact rfl; exact rfl; exact rfl) | (apply WO_eqlT; (first | exact trivial | exact rfl); exact rfl; exact rfl; exact rfl) | (apply WO_neqT; (first | exact trivial | exact rfl); exact rfl; exact rfl; exact rfl) | (apply WO_add; (first | exact trivial | exact rfl); exact rfl; exact rfl; (unfold I64; omega); exact rfl) | (apply WO_sub; (first | exact trivial | exact rfl); exact rfl; exact rfl; (unfold I64; omega); exact rfl) | (apply WO_leq; (first | exact trivial | exact rfl); exact rfl; exact rfl; exact rfl) | (apply WO_gtr; (first | exact trivial | exact rfl); exact rfl; exact rfl; exact rfl) | (apply WO_geq; (first | exact trivial | exact rfl); exact rfl; exact rfl; exact rfl) | (apply WO_eqlB; (first | exact trivial | exact rfl); exact rfl; exact rfl; exact rfl) | (apply WO_neqB; (first | exact trivial | exact rfl); exact rfl; exact rfl; exact rfl) | (apply WO_mul; (first | exact trivial | exact rfl); exact rfl; exact rfl; (unfold I64; omega); exact rfl) | (apply WO_quoP; (first | exact trivial | exact rfl); exact rfl; exact rfl; omega; omega; (unfold I64; omega); exact rfl) | (apply WO_remP; (first | exact trivial | exact rfl); exact rfl; exact rfl; omega; omega; (unfold I64; omega); exact rfl) | (apply WO_addT; (first | exact trivial | exact rfl); exact rfl; exact rfl; omega; exact rfl))
      | (apply iso_un; first | (apply WO_not_t; (first | exact trivial | exact rfl); exact rfl; exact rfl) | (apply WO_not_f; (first | exact trivial | exact rfl); exact rfl; exact rfl) | (apply WO_not_e; (first | exact trivial | exact rfl); exact rfl; exact rfl) | (apply WO_not; (first | exact trivial | exact rfl); exact rfl; exact rfl) | (apply WO_neg; (first | exact trivial | exact rfl); exact rfl; (unfold I64; omega); exact rfl))
      | (apply iso_pick; first | (apply WO_pick_t; (first | exact trivial | exact rfl); exact rfl; exact rfl; exact rfl) | (apply WO_pick_f; (first | exact trivial | exact rfl); exact rfl; exact rfl; exact rfl))
      | (apply WO_max; (first | exact trivial | exact rfl); exact rfl; exact rfl; exact rfl)
      | (apply WO_min; (first | exact trivial | exact rfl); exact rfl; exact rfl; exact rfl)
      | (apply WO_indexT; (first | exact trivial | exact rfl); exact rfl; exact rfl; exact rfl; first | assumption | omega; exact rfl)
      | (apply iso_mkf; first | (apply WO_makeFunc0; (first | exact trivial | exact rfl); exact rfl) | (apply WO_makeFunc1; (first | exact trivial | exact rfl); exact rfl; exact rfl) | (apply WO_makeFunc2; (first | exact trivial | exact rfl); exact rfl; exact rfl; exact rfl) | (apply WO_makeFunc3; (first | exact trivial | exact rfl); exact rfl; exact rfl; exact rfl; exact rfl))))
    exact r.h) : G := h ⟨k⟩
theorem D1 {G R : Prop} (k : R) (h : Hold R → G := by
    intro r
    first | apply WD_nil | (apply WD_op; exact rfl; first
      | (apply WO_pass0; exact rfl; exact rfl)
      | (apply WO_pass1; exact rfl; exact rfl)
      | (apply WO_pass2; exact rfl; exact rfl)
      | (apply WO_move; (first | exact trivial | exact rfl); exact rfl; exact rfl)
      | (apply WO_assign; (first | exact trivial | exact rfl); exact rfl; exact rfl)
      | (apply iso_load; first | refine WO_rload_blk (by first | exact trivial | exact rfl) rfl rfl (by assumption) (by first | assumption | (simp; done) | (simp; omega)) (by rfl) rfl ?_ | refine WO_rload_el (by first | exact trivial | exact rfl) rfl rfl (by assumption) (by first | exact fun _ h => h | (simp; done)) (by first | assumption | omega) (by rfl) (by rfl) rfl ?_ | refine WO_rload_blkA (by first | exact trivial | exact rfl) rfl rfl (by assumption) (by first | assumption | (simp; done) | (simp; omega)) (by rfl) rfl ?_ | refine WO_rload_elA (by first | exact trivial | exact rfl) rfl rfl (by assumption) (by first | exact fun _ h => h | (simp; done)) (by assumption) (by rfl) rfl ?_)
      | (apply iso_idx; first | refine WO_idx (by first | exact trivial | exact rfl) rfl (by assumption) rfl rfl (by assumption) rfl ?_ | refine WO_idx (by first | exact trivial | exact rfl) rfl (by assumption) rfl rfl (by omega) rfl ?_ | refine WO_idx (by first | exact trivial | exact rfl) rfl (by assumption) rfl (by assumption) (by first | assumption | omega) rfl ?_ | refine WO_idx (i := 0) (by first | exact trivial | exact rfl) rfl (by assumption) rfl rfl (by omega) rfl ?_ | refine WO_idx (i := 1) (by first | exact trivial | exact rfl) rfl (by assumption) rfl rfl (by omega) rfl ?_ | refine WO_idx (i := 2) (by first | exact trivial | exact rfl) rfl (by assumption) rfl rfl (by omega) rfl ?_ | refine WO_idxA (i := 0) (by first | exact trivial | exact rfl) rfl rfl rfl (by decide) rfl ?_ | refine WO_idxA (i := 1) (by first | exact trivial | exact rfl) rfl rfl rfl (by decide) rfl ?_ | refine WO_idxA (i := 2) (by first | exact trivial | exact rfl) rfl rfl rfl (by decide) rfl ?_ | refine WO_idxA (by first | exact trivial | exact rfl) rfl rfl rfl (by omega) rfl ?_)
      | (apply WO_fieldAddr; (first | exact trivial | exact rfl); exact rfl; exact rfl)
      | (apply iso_field; refine WO_field_el (by first | exact trivial | exact rfl) rfl (SlV.isSome (by assumption) (by assumption)) rfl ?_)
      | (apply iso_len; first | refine WO_lenT (by first | exact trivial | exact rfl) rfl rfl ?_ | refine WO_lenS (by first | exact trivial | exact rfl) rfl (by assumption) rfl ?_ | refine WO_len (by first | exact trivial | exact rfl) rfl rfl ?_)
      | (apply WO_extract; (first | exact trivial | exact rfl); exact rfl; exact rfl; exact rfl)
      | (apply WO_nilCheck; (first | exact trivial | exact rfl); exact rfl; exact rfl)
      | (apply iso_bin; first | (apply WO_eql; (first | exact trivial | exact rfl); exact rfl; exact rfl; exact rfl) | (apply WO_lss; (first | exact trivial | exact rfl); exact rfl; exact rfl; exact rfl) | (apply WO_neq; (first | exact trivial | exact rfl); exact rfl; exact rfl; exact rfl) | (apply WO_eqlT; (first | exact trivial | exact rfl); exact rfl; exact rfl; exact rfl) | (apply WO_neqT; (first | exact trivial | exact rfl); exact rfl; exact rfl; exact rfl) | (apply WO_add; (first | exact trivial | exact rfl); exact rfl; exact rfl; (unfold I64; omega); exact rfl) | (apply WO_sub; (first | exact trivial | exact rfl); exact rfl; exact rfl; (unfold I64; omega); exact rfl) | (apply WO_leq; (first | exact trivial | exact rfl); exact rfl; exact rfl; exact rfl) | (apply WO_gtr; (first | exact trivial | exact rfl); exact rfl; exact rfl; exact rfl) | (apply WO_geq; (first | exact trivial | exact rfl); exact rfl; exact rfl; exact rfl) | (apply WO_eqlB; (first | exact trivial | exact rfl); exact rfl; exact rfl; exact rfl) | (apply WO_neqB; (first | exact trivial | exact rfl); exact rfl; exact rfl; exact rfl) | (apply WO_mul; (first | exact trivial | exact rfl); exact rfl; exact rfl; (unfold I64; omega); exact rfl) | (apply WO_quoP; (first | exact trivial | exact rfl); exact rfl; exact rfl; omega; omega; (unfold I64; omega); exact rfl) | (apply WO_remP; (first | exact trivial | exact rfl); exact rfl; exact rfl; omega; omega; (unfold I64; omega); exact rfl) | (apply WO_addT; (first | exact trivial | exact rfl); exact rfl; exact rfl; omega; exact rfl))
      | (apply iso_un; first | (apply WO_not_t; (first | exact trivial | exact rfl); exact rfl; exact rfl) | (apply WO_not_f; (first | exact trivial | exact rfl); exact rfl; exact rfl) | (apply WO_not_e; (first | exact trivial | exact rfl); exact rfl; exact rfl) | (apply WO_not; (first | exact trivial | exact rfl); exact rfl; exact rfl) | (apply WO_neg; (first | exact trivial | exact rfl); exact rfl; (unfold I64; omega); exact rfl))
      | (apply iso_pick; first | (apply WO_pick_t; (first | exact trivial | exact rfl); exact rfl; exact rfl; exact rfl) | (apply WO_pick_f; (first | exact trivial | exact rfl); exact rfl; exact rfl; exact rfl))
      | (apply WO_max; (first | exact trivial | exact rfl); exact rfl; exact rfl; exact rfl)
      | (apply WO_min; (first | exact trivial | exact rfl); exact rfl; exact rfl; exact rfl)
      | (apply WO_indexT; (first | exact trivial | exact rfl); exact rfl; exact rfl; exact rfl; first | assumption | omega; exact rfl)
      | (apply iso_mkf; first | (apply WO_makeFunc0; (first | exact trivial | exact rfl); exact rfl) | (apply WO_makeFunc1; (first | exact trivial | exact rfl); exact rfl; exact rfl) | (apply WO_makeFunc2; (first | exact trivial | exact rfl); exact rfl; exact rfl; exact rfl) | (apply WO_makeFunc3; (first | exact trivial | exact rfl); exact rfl; exact rfl; exact rfl; exact rfl)))
    repeat' (first | apply WD_nil | (apply WD_op; exact rfl; first
      | (apply WO_pass0; exact rfl; exact rfl)
      | (apply WO_pass1; exact rfl; exact rfl)
      | (apply WO_pass2; exact rfl; exact rfl)
      | (apply WO_move; (first | exact trivial | exact rfl); exact rfl; exact rfl)
      | (apply WO_assign; (first | exact trivial | exact rfl); exact rfl; exact rfl)
      | (apply iso_load; first | refine WO_rload_blk (by first | exact trivial | exact rfl) rfl rfl (by assumption) (by first | assumption | (simp; done) | (simp; omega)) (by rfl) rfl ?_ | refine WO_rload_el (by first | exact trivial | exact rfl) rfl rfl (by assumption) (by first | exact fun _ h => h | (simp; done)) (by first | assumption | omega) (by rfl) (by rfl) rfl ?_ | refine WO_rload_blkA (by first | exact trivial | exact rfl) rfl rfl (by assumption) (by first | assumption | (simp; done) | (simp; omega)) (by rfl) rfl ?_ | refine WO_rload_elA (by first | exact trivial | exact rfl) rfl rfl (by assumption) (by first | exact fun _ h => h | (simp; done)) (by assumption) (by rfl) rfl ?_)
      | (apply iso_idx; first | refine WO_idx (by first | exact trivial | exact rfl) rfl (by assumption) rfl rfl (by assumption) rfl ?_ | refine WO_idx (by first | exact trivial | exact rfl) rfl (by assumption) rfl rfl (by omega) rfl ?_ | refine WO_idx (by first | exact trivial | exact rfl) rfl (by assumption) rfl (by assumption) (by first | assumption | omega) rfl ?_ | refine WO_idx (i := 0) (by first | exact trivial | exact rfl) rfl (by assumption) rfl rfl (by omega) rfl ?_ | refine WO_idx (i := 1) (by first | exact trivial | exact rfl) rfl (by assumption) rfl rfl (by omega) rfl ?_ | refine WO_idx (i := 2) (by first | exact trivial | exact rfl) rfl (by assumption) rfl rfl (by omega) rfl ?_ | refine WO_idxA (i := 0) (by first | exact trivial | exact rfl) rfl rfl rfl (by decide) rfl ?_ | refine WO_idxA (i := 1) (by first | exact trivial | exact rfl) rfl rfl rfl (by decide) rfl ?_ | refine WO_idxA (i := 2) (by first | exact trivial | exact rfl) rfl rfl rfl (by decide) rfl ?_ | refine WO_idxA (by first | exact trivial | exact rfl) rfl rfl rfl (by omega) rfl ?_)
      | (apply WO_fieldAddr; (first | exact trivial | exact rfl); exact rfl; exact rfl)
      | (apply iso_field; refine WO_field_el (by first | exact trivial | exact rfl) rfl (SlV.isSome (by assumption) (by assumption)) rfl ?_)
      | (apply iso_len; first | refine WO_lenT (by first | exact trivial | exact rfl) rfl rfl ?_ | refine WO_lenS (by first | exact trivial | exact rfl) rfl (by assumption) rfl ?_ | refine WO_len (by first | exact trivial | exact rfl) rfl rfl ?_)
      | (apply WO_extract; (first | exact trivial | exact rfl); exact rfl; exact rfl; exact rfl)
      | (apply WO_nilCheck; (first | exact trivial | exact rfl); exact rfl; exact rfl)
      | (apply iso_bin; first | (apply WO_eql; (first | exact trivial | exact rfl); exact rfl; exact rfl; exact rfl) | (apply WO_lss; (first | exact trivial | exact rfl); exact rfl; exact rfl; exact rfl) | (apply WO_neq; (first | exact trivial | exact rfl); exact rfl; exact rfl; exact rfl) | (apply WO_eqlT; (first | exact trivial | exact rfl); exact rfl; exact rfl; exact rfl) | (apply WO_neqT; (first | exact trivial | exact rfl); exact rfl; exact rfl; exact rfl) | (apply WO_add; (first | exact trivial | exact rfl); exact rfl; exact rfl; (unfold I64; omega); exact rfl) | (apply WO_sub; (first | exact trivial | exact rfl); exact rfl; exact rfl; (unfold I64; omega); exact rfl) | (apply WO_leq; (first | exact trivial | exact rfl); exact rfl; exact rfl; exact rfl) | (apply WO_gtr; (first | exact trivial | exact rfl); exact rfl; exact rfl; exact rfl) | (apply WO_geq; (first | exact trivial | exact rfl); exact rfl; exact rfl; exact rfl) | (apply WO_eqlB; (first | exact trivial | exact rfl); exact rfl; exact rfl; exact rfl) | (apply WO_neqB; (first | exact trivial | exact rfl); exact rfl; exact rfl; exact rfl) | (apply WO_mul; (first | exact trivial | exact rfl); exact rfl; exact rfl; (unfold I64; omega); exact rfl) | (apply WO_quoP; (first | exact trivial | exact rfl); exact rfl; exact rfl; omega; omega; (unfold I64; omega); exact rfl) | (apply WO_remP; (first | exact trivial | exact rfl); exact rfl; exact rfl; omega; omega; (unfold I64; omega); exact rfl) | (apply WO_addT; (first | exact trivial | exact rfl); exact rfl; exact rfl; omega; exact rfl))
      | (apply iso_un; first | (apply WO_not_t; (first | exact trivial | exact rfl); exact rfl; exact rfl) | (apply WO_not_f; (first | exact trivial | exact rfl); exact rfl; exact rfl) | (apply WO_not_e; (first | exact trivial | exact rfl); exact rfl; exact rfl) | (apply WO_not; (first | exact trivial | exact rfl); exact rfl; exact rfl) | (apply WO_neg; (first | exact trivial | exact rfl); exact rfl; (unfold I64; omega); exact rfl))
      | (apply iso_pick; first | (apply WO_pick_t; (first | exact trivial | exact rfl); exact rfl; exact rfl; exact rfl) | (apply WO_pick_f; (first | exact trivial | exact rfl); exact rfl; exact rfl; exact rfl))
      | (apply WO_max; (first | exact trivial | exact rfl); exact rfl; exact rfl; exact rfl)
      | (apply WO_min; (first | exact trivial | exact rfl); exact rfl; exact rfl; exact rfl)
      | (apply WO_indexT; (first | exact trivial | exact rfl); exact rfl; exact rfl; exact rfl; first | assumption | omega; exact rfl)
      | (apply iso_mkf; first | (apply WO_makeFunc0; (first | exact trivial | exact rfl); exact rfl) | (apply WO_makeFunc1; (first | exact trivial | exact rfl); exact rfl; exact rfl) | (apply WO_makeFunc2; (first | exact trivial | exact rfl); exact rfl; exact rfl; exact rfl) | (apply WO_makeFunc3; (first | exact trivial | exact rfl); exact rfl; exact rfl; exact rfl; exact rfl))))
    exact r.h) : G := h ⟨k⟩
end Go.Eng


/-
Expressions as trees, and how they lie in memory.
-/
namespace Go.Eng
open Go Go.RowKit Go.Proofs
set_option linter.unusedVariables false

inductive Nd where
  | mk (kind n : Int) (s : Str) (kids : List Nd)
namespace Nd
def kind : Nd → Int | mk k _ _ _ => k
def num : Nd → Int | mk _ n _ _ => n
def word : Nd → Str | mk _ _ s _ => s
def kids : Nd → List Nd | mk _ _ _ l => l
theorem eta (x : Nd) : x = mk x.kind x.num x.word x.kids := by cases x; rfl
theorem ind {P : Nd → Prop} (h : ∀ k n s l, (∀ x ∈ l, P x) → P (mk k n s l)) : ∀ x, P x
  | mk k n s l => h k n s l (fun x hx => ind h x)
  decreasing_by
    have := List.sizeOf_lt_of_mem hx
    simp only [mk.sizeOf_spec]
    omega
end Nd

/-- a tree in memory: the cells of its node -/
inductive NRep (X : List Nat) (w : World) : Nd → List Value → Prop
  | mk (k n : Int) (s : Str) (l : List Nd) (p : Option Addr) (c : Nat) (b o : Nat) (css : Nat → List Value) (hl : l.length ≤ c) (hm : c ≤ maxLen) (hn : p = none → c = 0)
      (hp : 0 < l.length → p = some ⟨b, o, none⟩ ∧ b < w.heap.size ∧ b ∉ X) (hr : ∀ i (h : i < l.length), NRep X w l[i] (css i))
      (hc : ∀ i, i < l.length → ∀ j u, (css i)[j]? = some u → w.cell? ⟨b, o + i * 4 + j, none⟩ = some u) :
      NRep X w (.mk k n s l) [.int .i64 k, .int .i64 n, str s, .slice p l.length c]

theorem NRep.ext {X S X' : List Nat} {w w' : World} {x : Nd} {cs : List Value} (h : NRep X w x cs) (hS : Stp S w w') (h1 : ∀ b ∈ S, b ∈ X) (h2 : ∀ b ∈ X', b ∈ X ∨ w.heap.size ≤ b) : NRep X' w' x cs := by
  induction h with
  | mk k n s l p c b o css hl hm hn hp hr hc ih =>
    refine .mk k n s l p c b o css hl hm hn (fun h0 => ?_) ih (fun i hi j u hu => ?_)
    · obtain ⟨e1, e2, e3⟩ := hp h0
      refine ⟨e1, Nat.lt_of_lt_of_le e2 hS.size, fun hb => ?_⟩
      rcases h2 b hb with h | h
      · exact e3 h
      · omega
    · obtain ⟨_, _, e3⟩ := hp (by omega)
      exact hS.cell (fun hb => e3 (h1 b hb)) (hc i hi j u hu)
instance : GoRep Nd where
  k := 4
  rep := NRep
  len := by intro X w x cs h; cases h; rfl
  one := by
    intro X w x cs h u hu
    cases h
    simp at hu
    rcases hu with rfl | rfl | rfl | rfl <;> rfl
  ext := NRep.ext

/-- the value of a node -/
def NdV (X : List Nat) (w : World) (v : Value) (x : Nd) : Prop := ∃ kv, v = .agg #[.int .i64 x.kind, .int .i64 x.num, str x.word, kv] ∧ SlV X w kv x.kids

theorem nrep_slv {X : List Nat} {w : World} {x : Nd} {cs : List Value} (h : NRep X w x cs) : ∃ kv, cs = [.int .i64 x.kind, .int .i64 x.num, str x.word, kv] ∧ SlV X w kv x.kids := by
  cases h with
  | mk k n s l p c b o css hl hm hn hp hr hc =>
    refine ⟨_, rfl, p, c, rfl, hl, hm, hn, fun i hi => ?_⟩
    obtain ⟨e1, e2, e3⟩ := hp (by show 0 < l.length; have : i < l.length := hi; omega)
    exact ⟨b, o, css i, e1, e2, e3, hr i hi, hc i hi⟩
theorem slv_nrep {X : List Nat} {w : World} {k n : Int} {s : Str} {l : List Nd} {kv : Value} (h : SlV X w kv l) : NRep X w (.mk k n s l) [.int .i64 k, .int .i64 n, str s, kv] := by
  obtain ⟨p, c, rfl, hl, hm, hn, hc⟩ := h
  have hall : ∀ i : Fin l.length, ∃ cs : List Value, ∃ b o, p = some ⟨b, o, none⟩ ∧ b < w.heap.size ∧ b ∉ X ∧ NRep X w l[i] cs ∧ ∀ j u, cs[j]? = some u → w.cell? ⟨b, o + i * 4 + j, none⟩ = some u := by
    intro i
    obtain ⟨b, o, cs, h1, h2, h3, h4, h5⟩ := hc i i.2
    exact ⟨cs, b, o, h1, h2, h3, h4, h5⟩
  obtain ⟨f, hf⟩ := Classical.axiomOfChoice hall
  by_cases h0 : 0 < l.length
  · obtain ⟨b, o, e1, e2, e3, _⟩ := hf ⟨0, h0⟩
    refine .mk k n s l p c b o (fun i => if h : i < l.length then f ⟨i, h⟩ else []) hl hm hn (fun _ => ⟨e1, e2, e3⟩) (fun i hi => ?_) (fun i hi j u hu => ?_)
    · obtain ⟨_, _, _, _, _, g, _⟩ := hf ⟨i, hi⟩
      simpa [hi] using g
    · obtain ⟨b', o', g1, _, _, _, g⟩ := hf ⟨i, hi⟩
      rw [e1] at g1
      simp only [Option.some.injEq, Addr.mk.injEq] at g1
      obtain ⟨rfl, rfl, _⟩ := g1
      exact g j u (by simpa [hi] using hu)
  · exact .mk k n s l p c 0 0 (fun _ => []) hl hm hn (fun h => absurd h h0) (fun i hi => by omega) (fun i hi => by omega)
theorem NdV.rep {X : List Nat} {w : World} {v : Value} {x : Nd} (h : NdV X w v x) : ∃ cs : List Value, v = .agg cs.toArray ∧ cs.length = 4 ∧ NRep X w x cs := by
  obtain ⟨kv, rfl, hs⟩ := h
  exact ⟨_, rfl, rfl, by rw [x.eta]; exact slv_nrep hs⟩
theorem NdV.up {X : List Nat} {w w' : World} {v : Value} {x : Nd} (h : NdV X w v x) (hS : Stp [] w w') : NdV X w' v x := by
  obtain ⟨kv, rfl, hs⟩ := h
  exact ⟨kv, rfl, hs.up hS⟩
theorem NdV.ext {X S X' : List Nat} {w w' : World} {v : Value} {x : Nd} (h : NdV X w v x) (hS : Stp S w w') (h1 : ∀ b ∈ S, b ∈ X) (h2 : ∀ b ∈ X', b ∈ X ∨ w.heap.size ≤ b) : NdV X' w' v x := by
  obtain ⟨kv, rfl, hs⟩ := h
  exact ⟨kv, rfl, hs.ext hS h1 h2⟩
/-- an element of a slice of nodes, loaded -/
theorem SlV.nd {X : List Nat} {w : World} {v : Value} {l : List Nd} {i : Nat} (h : SlV X w v l) (hi : i < l.length) : ∃ kv, SlV X w kv l[i].kids ∧ ∀ j u, [Value.int .i64 l[i].kind, .int .i64 l[i].num, str l[i].word, kv][j]? = some u → w.cell? (elAddr v i 4 j) = some u := by
  obtain ⟨cs, hr, hc⟩ := h.cell hi
  obtain ⟨kv, rfl, hs⟩ := nrep_slv hr
  exact ⟨kv, hs, hc⟩
section
variable {P : Program} {n : Nat} {e : Env} {w : World} {d : Option Nat} {ty : TypeId} {pos : String} {af : Array Edge} {g : Option (Nat × Bool)}
theorem PR_loadNd {X : List Nat} {v : Value} {l : List Nd} {i : Nat} {kv : Value} {x : Operand} {t : TypeId} {D : TypeDesc} [hu : Und P t D] (hA : aggB D = true) [hsz : Siz P t 4] (hx : ev e x = some (.pointer (some (elAddr v i 4 0)))) (hs : SlV X w v l) (hi : i < l.length)
    (hc : ∀ j u, [Value.int .i64 l[i].kind, .int .i64 l[i].num, str l[i].word, kv][j]? = some u → w.cell? (elAddr v i 4 j) = some u) :
    PR P n ⟨d, .load t x, ty, pos, af, g⟩ e w (.agg #[.int .i64 l[i].kind, .int .i64 l[i].num, str l[i].word, kv]) := by
  obtain ⟨p, l', c, rfl⟩ := hs.isSome hi
  refine PR_loadN (cs := [.int .i64 l[i].kind, .int .i64 l[i].num, str l[i].word, kv]) hA hx rfl (fun j u hu => ?_)
  have := hc j u hu
  simpa [elAddr] using this
end
end Go.Eng


namespace Go.Proofs.YtgpibcgebpgmiaaDoor
open Go Go.Eng Go.RowKit
set_option linter.unusedVariables false

/-- the cells of a node -/
abbrev ndC (x : Nd) (kv : Value) : List Value := [.int .i64 x.kind, .int .i64 x.num, str x.word, kv]
theorem ndC_one {X : List Nat} {w : World} {x : Nd} {kv : Value} {l : List Nd} (h : SlV X w kv l) : ∀ c ∈ ndC x kv, c.oneCell' = true := by
  intro c hc
  simp only [ndC, List.mem_cons, List.not_mem_nil, or_false] at hc
  rcases hc with rfl | rfl | rfl | rfl
  · rfl
  · rfl
  · rfl
  · exact h.one

def nestedN : Nat → Nd → Bool
  | 0, _ => false
  | m + 1, x => x.kids.all (nestedN m)
theorem all_take_succ {α : Type} (p : α → Bool) (l : List α) (k : Nat) (hk : k < l.length) : (l.take (k + 1)).all p = ((l.take k).all p && p l[k]) := by
  rw [List.take_succ_eq_append_getElem hk, List.all_append]
  simp
theorem nested_any (m : Nat) : ∀ (X : List Nat) (v : Value) (x : Nd) (z : Int) (w : World), z = (m : Int) → m ≤ 1000 → NdV X w v x →
    Calls Tryd.prog 32 #[v, .int .i64 z] w (Ret fun r w' => r = .bool (nestedN m x) ∧ Stp [] w w') := by
  induction m with
  | zero =>
    intro X v x z w hz hm hx
    obtain ⟨kv, rfl, hs⟩ := hx
    refine calls_of_WC2 (n := 22) Tryd.func32 rfl rfl rfl ?_
    refine W ?_
    refine WL_eff (OE_box rfl) rfl ?_
    rintro _ w1 ⟨b, rfl, hb, hblk, hS⟩
    repeat' (first | refine W1 ?_ | (exfalso; omega) | refine WL_split rfl rfl (fun hg => ?_) (fun hg => ?_) | refine WL_splitB rfl rfl (fun hg => ?_) (fun hg => ?_) | refine WC_cond rfl (fun hc => ?_) (fun hc => ?_) | refine WC_condB rfl (fun hc => ?_) (fun hc => ?_))
    first | refine WQ_ret1 rfl rfl ?_ | refine WQ_ret2 rfl rfl rfl ?_ | refine WQ_ret3 rfl rfl rfl rfl ?_ | refine WQ_ret0 rfl ?_ | refine WQ_end0 rfl ?_
    exact .mk ⟨rfl, hS⟩
  | succ m ih =>
    intro X v x z w hz hm hx
    obtain ⟨kv, rfl, hs⟩ := hx
    have hmax := hs.max
    refine calls_of_WC2 (n := 22) Tryd.func32 rfl rfl rfl ?_
    refine W ?_
    refine WL_eff (OE_box rfl) rfl ?_
    rintro _ w1 ⟨b, rfl, hb, hblk, hS⟩
    replace hblk : Blk w1 b _ (ndC x kv) := hblk
    replace hs := hs.up hS
    repeat' (first | refine W1 ?_ | (exfalso; omega) | refine WL_split rfl rfl (fun hg => ?_) (fun hg => ?_) | refine WL_splitB rfl rfl (fun hg => ?_) (fun hg => ?_) | refine WC_cond rfl (fun hc => ?_) (fun hc => ?_) | refine WC_condB rfl (fun hc => ?_) (fun hc => ?_))
    have hs0 := hs
    refine WC_loop (σ := Nat) (fun k => [(1, .int .i64 z), (10, kv), (11, .int .i64 (x.kids.length : Int)), (12, .int .i64 k)]) (fun k w' => k ≤ x.kids.length ∧ Stp [] w1 w' ∧ (x.kids.take k).all (nestedN m) = true) (fun k => x.kids.length - k) 0 ⟨rfl, rfl, rfl, rfl, trivial⟩ ⟨Nat.zero_le _, Stp.refl _ _, rfl⟩ ?_
    clear hs
    rintro k w2 ⟨hk, hS2, hall⟩
    have hs := hs0.up hS2
    by_cases hlt : k < x.kids.length
    · have hnx := all_take_succ (nestedN m) x.kids k hlt
      rw [hall, Bool.true_and] at hnx
      obtain ⟨kv2, hs2, hc2⟩ := hs.nd hlt
      repeat' (first | refine W1 ?_ | (exfalso; omega) | refine WL_split rfl rfl (fun hg => ?_) (fun hg => ?_) | refine WL_splitB rfl rfl (fun hg => ?_) (fun hg => ?_) | refine WC_cond rfl (fun hc => ?_) (fun hc => ?_) | refine WC_condB rfl (fun hc => ?_) (fun hc => ?_))
      apply WL_pure (PR_loadNd rfl rfl hs hlt hc2) rfl
      refine WL_eff OE_alloc rfl ?_
      rintro _ w3 ⟨b3, rfl, hb3, hblk3, hS3⟩
      refine WL_eff0 (OE_storeA (us := ndC x.kids[k] kv2) rfl rfl rfl rfl (ndC_one hs2) hblk3 rfl) ?_
      rintro _ w4 ⟨hS4, hblk4⟩
      have hS34 := hS3.own hS4 (fun b hb => .inr (by simp at hb; omega))
      replace hS2 := hS2.trans hS34
      replace hs2 := hs2.up hS34
      refine W ?_
      refine WL_eff (OE_call rfl (evs2 rfl rfl) (ih X _ x.kids[k] _ _ (by omega) (by omega) ⟨kv2, rfl, hs2⟩)) rfl ?_
      rintro _ w5 ⟨rfl, hS5⟩
      replace hS2 := hS2.trans hS5
      cases hq : nestedN m x.kids[k] with
      | true =>
        refine W ?_
        exact WQ_loop (k + 1) ⟨rfl, rfl, rfl, rfl, trivial⟩ ⟨hlt, hS2, by rw [hnx, hq]⟩ (by omega)
      | false =>
        refine W ?_
        first | refine WQ_ret1 rfl rfl ?_ | refine WQ_ret2 rfl rfl rfl ?_ | refine WQ_ret3 rfl rfl rfl rfl ?_ | refine WQ_ret0 rfl ?_ | refine WQ_end0 rfl ?_
        refine .mk ⟨?_, hS.trans hS2⟩
        have : nestedN (m + 1) x = false := by
          show x.kids.all (nestedN m) = false
          rw [List.all_eq_false]
          exact ⟨_, List.getElem_mem hlt, by simp [hq]⟩
        rw [this]
    · have hke : k = x.kids.length := by omega
      subst hke
      rw [List.take_length] at hall
      repeat' (first | refine W1 ?_ | (exfalso; omega) | refine WL_split rfl rfl (fun hg => ?_) (fun hg => ?_) | refine WL_splitB rfl rfl (fun hg => ?_) (fun hg => ?_) | refine WC_cond rfl (fun hc => ?_) (fun hc => ?_) | refine WC_condB rfl (fun hc => ?_) (fun hc => ?_))
      first | refine WQ_ret1 rfl rfl ?_ | refine WQ_ret2 rfl rfl rfl ?_ | refine WQ_ret3 rfl rfl rfl rfl ?_ | refine WQ_ret0 rfl ?_ | refine WQ_end0 rfl ?_
      refine .mk ⟨?_, hS.trans hS2⟩
      show _ = Value.bool (x.kids.all (nestedN m))
      rw [hall]
end Go.Proofs.YtgpibcgebpgmiaaDoor


/-
The walk engine, part 10: maps.
-/
namespace Go.Eng
open Go Go.RowKit Go.Proofs
set_option linter.unusedVariables false

/-- keys of a map, as data: what the model does with them -/
class MKey (P : Program) (kt : Nat) (κ : outParam Type) [DecidableEq κ] where
  enc : κ → Value
  chk : ∀ (em : Bool) (a : κ) (w : World), (Instr.checkKey em 10000 kt (enc a)).run P w = .ok () w
  find : ∀ (a : κ) (es : List MapEntry) (l : List κ) (w : World), es.map (·.key) = l.map enc →
    (Instr.findKey kt (enc a) es).run P w = .ok ((l.findIdx? (fun b => decide (b = a))).bind fun i => (es[i]?).map fun e => (i, e.val)) w

/-- the map lies at r -/
def MapAt {κ : Type} (enc : κ → Value) (w : World) (r : Nat) (l : List (κ × Value)) : Prop :=
  ∃ (es : Array MapEntry) (clock : Nat), w.heap[r]? = some (.map es clock) ∧ es.toList.map (·.key) = l.map (fun p => enc p.1) ∧ es.toList.map (·.val) = l.map (·.2)
theorem MapAt.lt {κ : Type} {enc : κ → Value} {w : World} {r : Nat} {l : List (κ × Value)} (h : MapAt enc w r l) : r < w.heap.size := by
  obtain ⟨es, c, h1, _⟩ := h
  exact (Array.getElem?_eq_some_iff.1 h1).1
theorem MapAt.ext {κ : Type} {enc : κ → Value} {S : List Nat} {w w' : World} {r : Nat} {l : List (κ × Value)} (h : MapAt enc w r l) (hS : Stp S w w') (hr : r ∉ S) : MapAt enc w' r l := by
  have hlt := h.lt
  obtain ⟨es, c, h1, h2⟩ := h
  exact ⟨es, c, by rw [hS.block r hlt hr]; exact h1, h2⟩
theorem MapAt.up {κ : Type} {enc : κ → Value} {w w' : World} {r : Nat} {l : List (κ × Value)} (h : MapAt enc w r l) (hS : Stp [] w w') : MapAt enc w' r l := h.ext hS (by simp)
/-- the value at a key -/
def mget {κ : Type} [DecidableEq κ] (l : List (κ × Value)) (a : κ) (z : Value) : Value := match l.find? (fun p => decide (p.1 = a)) with | some p => p.2 | none => z

theorem findNow_of {d : TypeDesc} {κ : Type} [DecidableEq κ] (enc : κ → Value) (h : ∀ a b : κ, Instr.sameNow d (enc a) (enc b) = some (decide (a = b))) (a : κ) : ∀ (es : List MapEntry) (l : List κ) (i : Nat), es.map (·.key) = l.map enc →
    Instr.findNow d (enc a) es i = some ((l.findIdx? (fun b => decide (b = a))).bind fun j => (es[j]?).map fun e => (i + j, e.val))
  | [], [], i, _ => by simp [Instr.findNow]
  | [], _ :: _, i, h => by simp at h
  | _ :: _, [], i, h => by simp at h
  | e :: es, b :: l, i, hk => by
    simp only [List.map_cons, List.cons.injEq] at hk
    obtain ⟨h1, h2⟩ := hk
    have ih := findNow_of enc h a es l (i + 1) h2
    simp only [Instr.findNow, h1, h]
    by_cases hab : a = b
    · subst hab
      simp [List.findIdx?_cons]
    · have hba : ¬ b = a := fun h => hab h.symm
      simp only [decide_eq_false hab, ih, List.findIdx?_cons, decide_eq_false hba, Bool.false_eq_true, if_false]
      cases l.findIdx? (fun b => decide (b = a)) with
      | none => rfl
      | some j =>
        simp only [Option.bind_some, Option.map_some, List.getElem?_cons_succ]
        rw [show i + 1 + j = i + (j + 1) by omega]
theorem findAsking_of {P : Program} {kt : Nat} {κ : Type} [DecidableEq κ] (enc : κ → Value) (h : ∀ (a b : κ) (w : World), (Op.equal kt (enc a) (enc b)).run P w = .ok (decide (a = b)) w) (a : κ) (w : World) : ∀ (es : List MapEntry) (l : List κ) (i : Nat), es.map (·.key) = l.map enc →
    (Instr.findAsking kt (enc a) es i).run P w = .ok ((l.findIdx? (fun b => decide (b = a))).bind fun j => (es[j]?).map fun e => (i + j, e.val)) w
  | [], [], i, _ => by simp [Instr.findAsking]
  | [], _ :: _, i, h => by simp at h
  | _ :: _, [], i, h => by simp at h
  | e :: es, b :: l, i, hk => by
    simp only [List.map_cons, List.cons.injEq] at hk
    obtain ⟨h1, h2⟩ := hk
    have ih := findAsking_of enc h a w es l (i + 1) h2
    simp only [Instr.findAsking, h1]
    by_cases hab : a = b
    · subst hab
      simp [List.findIdx?_cons, h]
    · have hba : ¬ b = a := fun h => hab h.symm
      simp only [Sem.run_bind, h, decide_eq_false hab, Result.andThen, List.findIdx?_cons, decide_eq_false hba, Bool.false_eq_true, if_false, ih]
      cases l.findIdx? (fun b => decide (b = a)) with
      | none => rfl
      | some j =>
        simp only [Option.bind_some, Option.map_some, List.getElem?_cons_succ]
        rw [show i + 1 + j = i + (j + 1) by omega]

instance {P : Program} {kt : Nat} [hu : Und P kt (.int .i64)] : MKey P kt Int where
  enc := fun z => .int .i64 z
  chk := fun em a w => MapKept.run_checkKey (k := .int .i64 a) hu.h (by simp [MapKept.IsKey]) em 9999
  find := fun a es l w hk => by
    have := findNow_of (d := .int .i64) (fun z : Int => Value.int .i64 z) (fun a b => by simp [Instr.sameNow, Bool.beq_eq_decide_eq]) a es l 0 hk
    simpa using MapKept.run_findKey (w := w) hu.h this
instance instMKeyStr {P : Program} {kt : Nat} [hu : Und P kt .string] : MKey P kt Str where
  enc := str
  chk := fun em a w => MapKept.run_checkKey (k := str a) hu.h (by simp [MapKept.IsKey]) em 9999
  find := fun a es l w hk => by
    have := findNow_of (d := .string) str (fun a b => by
      simp only [Instr.sameNow, Option.some.injEq]
      rw [beq_toListBytes, str_beq]) a es l 0 hk
    simpa using MapKept.run_findKey (w := w) hu.h this

section
variable {P : Program} {n : Nat} {e : Env} {w : World} {d : Option Nat} {ty : TypeId} {pos : String} {af : Array Edge} {g : Option (Nat × Bool)}

theorem OE_makeMap {t : TypeId} {κ : Type} (enc : κ → Value) : OE P n ⟨d, .makeMap t none, ty, pos, af, g⟩ e w (fun v w' => ∃ r, v = .map (some r) ∧ w.heap.size ≤ r ∧ MapAt enc w' r [] ∧ Stp [] w w') :=
  OE_value (v := .map (some w.heap.size)) (w' := w.alloc (.map #[] 0)) (fun a ha => by
    simp [execOp, run_makeMap]) ⟨_, rfl, Nat.le_refl _, ⟨#[], 0, heap_alloc_new w _, rfl, rfl⟩, Stp.alloc _ _ _⟩

theorem find_fresh {κ : Type} [DecidableEq κ] {l : List κ} {a : κ} (h : ∀ b ∈ l, ¬ b = a) : l.findIdx? (fun b => decide (b = a)) = none := by
  rw [List.findIdx?_eq_none_iff]
  intro b hb
  simp [h b hb]
/-- a new key -/
theorem run_mapAdd {mt kt et r : Nat} {κ : Type} [DecidableEq κ] [hm : Und P mt (.map kt et)] [K : MKey P kt κ] {l : List (κ × Value)} {a : κ} {v : Value} (hr : MapAt K.enc w r l) (hn : ∀ p ∈ l, ¬ p.1 = a) :
    ∃ w', (Instr.mapUpdate mt (.map (some r)) (K.enc a) v).run P w = .ok () w' ∧ MapAt K.enc w' r (l ++ [(a, v)]) ∧ Stp [r] w w' := by
  obtain ⟨es, clock, h1, h2, h3⟩ := hr
  have hf : (Instr.findKey kt (K.enc a) es.toList).run P w = .ok none w := by
    have hk : es.toList.map (·.key) = (l.map (·.1)).map K.enc := by rw [h2, List.map_map]; rfl
    rw [K.find a es.toList (l.map (·.1)) w hk, find_fresh (by simpa using hn)]
    rfl
  have hlt : r < w.heap.size := (Array.getElem?_eq_some_iff.1 h1).1
  refine ⟨{ w with heap := w.heap.setIfInBounds r (.map (es.push { key := K.enc a, val := v, born := clock }) (clock + 1)) }, ?_, ?_, ?_⟩
  · simp [Instr.mapUpdate, run_underlying hm.h, MapKept.run_getObj_map h1, K.chk, hf, MapKept.run_setObj_map _ h1, Result.andThen]
  · refine ⟨es.push { key := K.enc a, val := v, born := clock }, clock + 1, by simp [hlt], ?_, ?_⟩
    · simp [h2]
    · simp [h3]
  · refine ⟨rfl, rfl, rfl, by simp, fun b hb hn => ?_⟩
    simp only [List.mem_singleton] at hn
    simp [Array.getElem?_setIfInBounds_ne (fun h => hn h.symm)]
theorem OE_insert {mt kt et r : Nat} {κ : Type} [DecidableEq κ] {x y z : Operand} [hm : Und P mt (.map kt et)] [K : MKey P kt κ] {l : List (κ × Value)} {a : κ} {v : Value} (hx : ev e x = some (.map (some r))) (hy : ev e y = some (K.enc a)) (hz : ev e z = some v) (hr : MapAt K.enc w r l) (hn : ∀ p ∈ l, ¬ p.1 = a) :
    OE P n ⟨d, .insert mt x y z, ty, pos, af, g⟩ e w (fun _ w' => MapAt K.enc w' r (l ++ [(a, v)]) ∧ Stp [r] w w') := by
  obtain ⟨w', h1, h2, h3⟩ := run_mapAdd (mt := mt) (v := v) hr hn
  exact OE_skip (w' := w') (fun c hc => by simp [execOp, hc.ev hx, hc.ev hy, hc.ev hz, h1]) ⟨h2, h3⟩
theorem OE_mapAdd {mt kt et r : Nat} {κ : Type} [DecidableEq κ] {x y z : Operand} [hm : Und P mt (.map kt et)] [K : MKey P kt κ] {l : List (κ × Value)} {a : κ} {v : Value} (hx : ev e x = some (.map (some r))) (hy : ev e y = some (K.enc a)) (hz : ev e z = some v) (hr : MapAt K.enc w r l) (hn : ∀ p ∈ l, ¬ p.1 = a) :
    OE P n ⟨d, .mapUpdate mt x y z, ty, pos, af, g⟩ e w (fun _ w' => MapAt K.enc w' r (l ++ [(a, v)]) ∧ Stp [r] w w') := by
  obtain ⟨w', h1, h2, h3⟩ := run_mapAdd (mt := mt) (v := v) hr hn
  exact OE_skip (w' := w') (fun c hc => by simp [execOp, hc.ev hx, hc.ev hy, hc.ev hz, h1]) ⟨h2, h3⟩
theorem PR_lookup {mt kt et r : Nat} {κ : Type} [DecidableEq κ] {x y : Operand} {z : Value} [hm : Und P mt (.map kt et)] [K : MKey P kt κ] [hz : Zer P et z] {l : List (κ × Value)} {a : κ} (hx : ev e x = some (.map (some r))) (hy : ev e y = some (K.enc a)) (hr : MapAt K.enc w r l) :
    PR P n ⟨d, .lookup mt x y false, ty, pos, af, g⟩ e w (mget l a z) := by
  refine ⟨fun c hc => ?_⟩
  obtain ⟨es, clock, h1, h2, h3⟩ := hr
  have hk : es.toList.map (·.key) = (l.map (·.1)).map K.enc := by rw [h2, List.map_map]; rfl
  have hf := K.find a es.toList (l.map (·.1)) w hk
  have hlen : es.toList.length = l.length := by have := congrArg List.length h3; simpa using this
  have hv : ∀ i : Nat, (es.toList[i]?).map (fun x : MapEntry => x.val) = (l[i]?).map (fun x : κ × Value => x.2) := fun i => by
    have := congrArg (fun x => x[i]?) h3
    simpa using this
  have hfind : mget l a z = match (l.map (·.1)).findIdx? (fun b => decide (b = a)) with | some i => ((es.toList[i]?).map (fun x : MapEntry => x.val)).getD z | none => z := by
    unfold mget
    rw [List.findIdx?_map]
    cases hi : l.findIdx? ((fun b => decide (b = a)) ∘ fun x => x.1) with
    | none =>
      have : l.find? (fun p => decide (p.1 = a)) = none := by
        rw [List.find?_eq_none]
        intro p hp
        have := (List.findIdx?_eq_none_iff.1 hi) p hp
        simpa using this
      rw [this]
    | some i =>
      obtain ⟨hlt, hp, hb⟩ := List.findIdx?_eq_some_iff_getElem.1 hi
      have : l.find? (fun p => decide (p.1 = a)) = some l[i] := by
        rw [List.find?_eq_some_iff_getElem]
        exact ⟨by simpa using hp, i, hlt, rfl, fun j hj => by simpa using hb j hj⟩
      rw [this]
      simp only [hv, List.getElem?_eq_getElem hlt, Option.map_some, Option.getD_some]
  rw [hfind]
  simp only [execOp, hc.ev hx, hc.ev hy]
  cases hi : (l.map (·.1)).findIdx? (fun b => decide (b = a)) with
  | none =>
    rw [hi] at hf
    simp [Instr.lookup, run_underlying hm.h, MapKept.run_getObj_map h1, K.chk, hf, Result.andThen, Zer.run]
  | some i =>
    obtain ⟨hlt, _⟩ := List.findIdx?_eq_some_iff_getElem.1 hi
    have hlt' : i < es.toList.length := by rw [hlen]; simpa using hlt
    rw [hi] at hf
    simp only [Option.bind_some, List.getElem?_eq_getElem hlt', Option.map_some] at hf
    simp [Instr.lookup, run_underlying hm.h, MapKept.run_getObj_map h1, K.chk, hf, Result.andThen, List.getElem?_eq_getElem hlt']
end
end Go.Eng


namespace Go.Proofs.YtgpibcgebpgmiaaDoor
open Go Go.Eng Go.RowKit
set_option linter.unusedVariables false

/-- the first index at which a predicate holds, or -1 -/
def idx {α : Type} (p : α → Bool) (xs : List α) : Int := match xs.findIdx? p with | some i => (i : Int) | none => -1
theorem idx_of_at {α : Type} {p : α → Bool} {xs : List α} {k : Nat} (hk : k < xs.length) (hp : p xs[k] = true) (hb : ∀ j (h : j < xs.length), j < k → p xs[j] = false) : idx p xs = k := by
  have : xs.findIdx? p = some k := List.findIdx?_eq_some_iff_getElem.2 ⟨hk, hp, fun j hj => by simp [hb j (by omega) hj]⟩
  simp [idx, this]
theorem idx_of_none {α : Type} {p : α → Bool} {xs : List α} (hb : ∀ j (h : j < xs.length), p xs[j] = false) : idx p xs = -1 := by
  have : xs.findIdx? p = none := by
    rw [List.findIdx?_eq_none_iff]
    intro x hx
    obtain ⟨j, hj, rfl⟩ := List.getElem_of_mem hx
    simp [hb j hj]
  simp [idx, this]
abbrev isS (a : Str) : Str → Bool := fun x => decide (x = a)

theorem index_any (X : List Nat) (v : Value) (l : List Str) (a : Str) (w : World) (hs : SlV X w v l) : Calls Tryd.prog 76 #[v, str a] w (Ret fun r w' => r = .int .i64 (idx (isS a) l) ∧ Stp [] w w') := by
  have hmax := hs.max
  refine calls_of_WC2 (n := 19) Tryd.func76 rfl rfl rfl ?_
  refine W ?_
  refine WC_loop (σ := Nat) (fun k => [(0, v), (1, str a), (8, .int .i64 k), (7, .int .i64 (l.length : Int))]) (fun k w' => k ≤ l.length ∧ Stp [] w w' ∧ ∀ j (h : j < l.length), j < k → isS a l[j] = false) (fun k => l.length - k) 0 ⟨rfl, rfl, rfl, rfl, trivial⟩ ⟨Nat.zero_le _, Stp.refl _ _, fun j _ h => absurd h (Nat.not_lt_zero _)⟩ ?_
  have hs0 := hs
  clear hs
  rintro k w1 ⟨hk, hS, hno⟩
  have hs := hs0.up hS
  by_cases hlt : k < l.length
  · repeat' (first | refine W1 ?_ | (exfalso; omega) | refine WL_split rfl rfl (fun hg => ?_) (fun hg => ?_) | refine WL_splitB rfl rfl (fun hg => ?_) (fun hg => ?_) | refine WC_cond rfl (fun hc => ?_) (fun hc => ?_) | refine WC_condB rfl (fun hc => ?_) (fun hc => ?_))
    · first | refine WQ_ret1 rfl rfl ?_ | refine WQ_ret2 rfl rfl rfl ?_ | refine WQ_ret3 rfl rfl rfl rfl ?_ | refine WQ_ret0 rfl ?_ | refine WQ_end0 rfl ?_
      have he' : isS a l[k] = true := by simpa [isS, eq_comm] using hc
      exact .mk ⟨by rw [idx_of_at hlt he' hno], hS⟩
    · refine WQ_loop (k + 1) ⟨rfl, rfl, rfl, rfl, trivial⟩ ⟨hlt, hS, fun j h hj => ?_⟩ (by omega)
      by_cases e : j = k
      · subst e; simpa [isS, eq_comm] using hc
      · exact hno j h (by omega)
  · have hke : k = l.length := by omega
    subst hke
    repeat' (first | refine W1 ?_ | (exfalso; omega) | refine WL_split rfl rfl (fun hg => ?_) (fun hg => ?_) | refine WL_splitB rfl rfl (fun hg => ?_) (fun hg => ?_) | refine WC_cond rfl (fun hc => ?_) (fun hc => ?_) | refine WC_condB rfl (fun hc => ?_) (fun hc => ?_))
    first | refine WQ_ret1 rfl rfl ?_ | refine WQ_ret2 rfl rfl rfl ?_ | refine WQ_ret3 rfl rfl rfl rfl ?_ | refine WQ_ret0 rfl ?_ | refine WQ_end0 rfl ?_
    exact .mk ⟨by rw [idx_of_none (fun j h => hno j h h)], hS⟩
def fieldNames : List Str := [[100, 97, 121], [115, 101, 114, 118, 101, 100], [101, 120, 116, 114, 97], [98, 121], [116, 111], [99, 111, 117, 114, 116], [97, 109, 111, 117, 110, 116]]
/-- the table of the fields, as a slice of the whole -/
abbrev flds : Value := .slice (some ⟨0, 0, none⟩) 7 7
def fieldF (a : Str) : Int × Int × Bool :=
  let i := idx (isS a) fieldNames
  if i < 0 then (0, 0, false) else if i ≤ 1 then (i, 3, true) else (i, 1, true)
abbrev tup3 (x : Int × Int × Bool) : Value := .tuple #[.int .i64 x.1, .int .i64 x.2.1, .bool x.2.2]
theorem Field_any (a : Str) (w : World) (hF : SlV [] w flds fieldNames) : Calls Tryd.prog 34 #[str a] w (Ret fun r w' => r = tup3 (fieldF a) ∧ Stp [] w w') := by
  refine calls_of_WC1 (n := 17) Tryd.func34 rfl rfl rfl ?_
  refine W ?_
  apply WL_pure (PR_sliceA rfl) rfl
  refine W ?_
  refine WL_eff (OE_call rfl (evs2 rfl rfl) (index_any [] _ _ a _ hF)) rfl ?_
  rintro _ w1 ⟨rfl, hS⟩
  unfold fieldF
  generalize idx (isS a) fieldNames = i
  repeat' (first | refine W1 ?_ | refine WL_split rfl rfl (fun hg => ?_) (fun hg => ?_) | refine WL_splitB rfl rfl (fun hg => ?_) (fun hg => ?_) | refine WC_cond rfl (fun hc => ?_) (fun hc => ?_) | refine WC_condB rfl (fun hc => ?_) (fun hc => ?_))
  all_goals (first | refine WQ_ret1 rfl rfl ?_ | refine WQ_ret2 rfl rfl rfl ?_ | refine WQ_ret3 rfl rfl rfl rfl ?_ | refine WQ_ret0 rfl ?_ | refine WQ_end0 rfl ?_)
  · exact .mk ⟨by simp only [if_pos hc], hS⟩
  · rename_i h1
    exact .mk ⟨by simp only [if_neg h1, if_pos hc], hS⟩
  · rename_i h1
    exact .mk ⟨by simp only [if_neg h1, if_neg hc], hS⟩

/-! ### words -/
/-- what the loop of 'words' has found in the first k bytes: the words, and where the next one begins -/
def wst (s : Str) : Nat → List Str × Nat
  | 0 => ([], 0)
  | k + 1 => if k = s.length ∨ byte s k = 32 then ((wst s k).1 ++ [(s.take k).drop (wst s k).2], k + 1) else wst s k
def wordsOf (s : Str) : List Str := (wst s (s.length + 1)).1
theorem wst_le (s : Str) : ∀ k, (wst s k).2 ≤ k ∧ (wst s k).1.length ≤ k
  | 0 => by simp [wst]
  | k + 1 => by
    have := wst_le s k
    simp only [wst]
    split
    · simp; omega
    · omega
theorem buildSS1 (a : Str) (w : World) : (Instr.buildSlice 100 1 #[(0, str a)]).run Tryd.prog w = .ok (.slice (some ⟨w.heap.size, 0, none⟩) 1 1) (w.alloc (.cells #[str a] 9)) := by kernel_rfl
theorem words_any (X : List Nat) (s : Str) (w : World) (hX : ∀ b ∈ X, b < w.heap.size) (hl : s.length ≤ 1000) :
    Calls Tryd.prog 65 #[str s] w (Ret fun r w' => Row X w' w.heap.size 9 r (wordsOf s) ∧ Stp [] w w') := by
  refine calls_of_WC1 (n := 32) Tryd.func65 rfl rfl rfl ?_
  refine W ?_
  refine WC_loop (σ := Nat × Value) (fun q => [(0, str s), (3, q.2), (4, .int .i64 ((wst s q.1).2 : Int)), (5, .int .i64 (q.1 : Int))]) (fun q w' => q.1 ≤ s.length + 1 ∧ Row X w' w.heap.size 9 q.2 (wst s q.1).1 ∧ Stp [] w w') (fun q => s.length + 1 - q.1) (0, .slice none 0 0) ⟨rfl, rfl, rfl, rfl, trivial⟩ ⟨by simp, Row.nil, Stp.refl _ _⟩ ?_
  rintro ⟨k, v⟩ w1 ⟨hk, hrow, hS⟩
  dsimp only at hk hrow ⊢
  obtain ⟨hw1, hw2⟩ := wst_le s k
  by_cases hlt : k ≤ s.length
  · have nxt : wst s (k + 1) = if k = s.length ∨ byte s k = 32 then ((wst s k).1 ++ [(s.take k).drop (wst s k).2], k + 1) else wst s k := rfl
    have hbase := hS.size
    repeat' (first | refine W1 ?_ | (exfalso; omega) | refine WL_split rfl rfl (fun hg => ?_) (fun hg => ?_) | refine WL_splitB rfl rfl (fun hg => ?_) (fun hg => ?_) | refine WC_cond rfl (fun hc => ?_) (fun hc => ?_) | refine WC_condB rfl (fun hc => ?_) (fun hc => ?_))
    rotate_right
    · have hno : ¬ (k = s.length ∨ byte s k = 32) := by rintro (h | h) <;> omega
      rw [if_neg hno] at nxt
      refine WQ_loop (k + 1, v) ⟨rfl, rfl, by rw [nxt]; rfl, rfl, trivial⟩ ⟨by dsimp only; omega, by dsimp only; rw [nxt]; exact hrow, hS⟩ (by dsimp only; omega)
    all_goals
      have hyes : k = s.length ∨ byte s k = 32 := by omega
      rw [if_pos hyes] at nxt
      apply WL_pure (PR_sliceT_lh rfl rfl rfl rfl rfl (by omega) (by omega)) rfl
      refine WL_eff (OE_buildSlice (vs := [(0, str _)]) rfl (buildSS1 _)) rfl ?_
      rintro bv w2 hN
      have hSb := hN.choose_spec.2.2.2
      have hbv : SlV (ob v ++ X) w2 bv [(s.take k).drop (wst s k).2] := hN.slv (fun b hb => (List.mem_append.1 hb).elim (fun h => (hrow.ob_le b h).2) (fun h => Nat.lt_of_lt_of_le (hX b h) hbase)) rfl rfl (by simp [maxLen])
      clear hN
      replace hrow := hrow.up hSb
      replace hS := hS.trans hSb
      have hbase := hS.size
      refine WL_eff (OE_append (X := X) (base := w.heap.size) rfl (by decide) rfl rfl hrow hbv (by simp only [List.length_cons, List.length_nil]; omega) (by simp only [List.length_cons, List.length_nil, maxLen]; omega) hbase) rfl ?_
      rintro v' w3 ⟨hrow', hS', _⟩
      refine W ?_
      refine WQ_loop (k + 1, v') ⟨rfl, rfl, by rw [nxt]; rfl, rfl, trivial⟩ ⟨by dsimp only; omega, by dsimp only; rw [nxt]; exact hrow', hS.own hS' (fun b hb => .inr (hrow.ob_le b hb).1)⟩ (by dsimp only; omega)
  · have hke : k = s.length + 1 := by omega
    subst hke
    repeat' (first | refine W1 ?_ | (exfalso; omega) | refine WL_split rfl rfl (fun hg => ?_) (fun hg => ?_) | refine WL_splitB rfl rfl (fun hg => ?_) (fun hg => ?_) | refine WC_cond rfl (fun hc => ?_) (fun hc => ?_) | refine WC_condB rfl (fun hc => ?_) (fun hc => ?_))
    first | refine WQ_ret1 rfl rfl ?_ | refine WQ_ret2 rfl rfl rfl ?_ | refine WQ_ret3 rfl rfl rfl rfl ?_ | refine WQ_ret0 rfl ?_ | refine WQ_end0 rfl ?_
    exact .mk ⟨hrow, hS⟩
end Go.Proofs.YtgpibcgebpgmiaaDoor


namespace Go.Proofs.YtgpibcgebpgmiaaDoor
open Go Go.Eng Go.RowKit
set_option linter.unusedVariables false

theorem _root_.Go.Eng.Row.slv0 {α : Type} [GoRep α] {w : World} {base T : Nat} {v : Value} {xs : List α} (h : Row [] w base T v xs) : SlV [] w v xs := h.slv (by simp)
theorem fields_words : wordsOf [100, 97, 121, 32, 115, 101, 114, 118, 101, 100, 32, 101, 120, 116, 114, 97, 32, 98, 121, 32, 116, 111, 32, 99, 111, 117, 114, 116, 32, 97, 109, 111, 117, 110, 116] = fieldNames := by decide
theorem Fields_any (X : List Nat) (w : World) (hX : ∀ b ∈ X, b < w.heap.size) : Calls Tryd.prog 71 #[] w (Ret fun r w' => Row X w' w.heap.size 9 r fieldNames ∧ Stp [] w w') := by
  refine calls_of_WC0 (n := 2) Tryd.func71 rfl rfl ?_
  refine W ?_
  refine WL_eff (OE_call rfl (evs1 rfl) (words_any X [100, 97, 121, 32, 115, 101, 114, 118, 101, 100, 32, 101, 120, 116, 114, 97, 32, 98, 121, 32, 116, 111, 32, 99, 111, 117, 114, 116, 32, 97, 109, 111, 117, 110, 116] _ hX (by decide))) rfl ?_
  rintro v w1 ⟨hr, hS⟩
  rw [fields_words] at hr
  refine W ?_
  first | refine WQ_ret1 rfl rfl ?_ | refine WQ_ret2 rfl rfl rfl ?_ | refine WQ_ret3 rfl rfl rfl rfl ?_ | refine WQ_ret0 rfl ?_ | refine WQ_end0 rfl ?_
  exact .mk ⟨hr, hS⟩
/-- the type of a node without kids -/
def leafN (k n : Int) (s : Str) : Int :=
  if k = 4 then (if n = 0 then (fieldF s).2.1 else 0) else if ¬ s = [] then 0
  else if k = 1 then (if 0 ≤ n ∧ n ≤ 2147483647 then 1 else 0) else if k = 2 then (if 0 ≤ n ∧ n ≤ 1 then 2 else 0) else if k = 3 then (if 0 ≤ n ∧ n ≤ 3652058 then 3 else 0) else 0
theorem fieldF_no {a : Str} (h : (fieldF a).2.2 = false) : (fieldF a).2.1 = 0 := by
  unfold fieldF at h ⊢
  dsimp only at h ⊢
  split <;> rename_i h1
  · rfl
  · rw [if_neg h1] at h
    split at h <;> simp at h
theorem leaf_any (X : List Nat) (v : Value) (x : Nd) (w : World) (hx : NdV X w v x) (hF : SlV [] w flds fieldNames) :
    Calls Tryd.prog 73 #[v] w (Ret fun r w' => r = .int .i64 (leafN x.kind x.num x.word) ∧ Stp [] w w') := by
  obtain ⟨kv, rfl, hs⟩ := hx
  refine calls_of_WC1 (n := 50) Tryd.func73 rfl rfl rfl ?_
  refine W ?_
  refine WL_eff (OE_box rfl) rfl ?_
  rintro _ w1 ⟨b, rfl, hb, hblk, hS⟩
  replace hblk : Blk w1 b _ (ndC x kv) := hblk
  replace hF := hF.up hS
  repeat' (first | refine W1 ?_ | (exfalso; omega) | refine WL_split rfl rfl (fun hg => ?_) (fun hg => ?_) | refine WL_splitB rfl rfl (fun hg => ?_) (fun hg => ?_) | refine WC_cond rfl (fun hc => ?_) (fun hc => ?_) | refine WC_condB rfl (fun hc => ?_) (fun hc => ?_))
  · refine WL_eff (OE_call rfl (evs1 rfl) (Field_any x.word _ hF)) rfl ?_
    rintro _ w2 ⟨rfl, hS2⟩
    replace hS := hS.trans hS2
    repeat' (first | refine W1 ?_ | (exfalso; omega) | refine WL_split rfl rfl (fun hg => ?_) (fun hg => ?_) | refine WL_splitB rfl rfl (fun hg => ?_) (fun hg => ?_) | refine WC_cond rfl (fun hc => ?_) (fun hc => ?_) | refine WC_condB rfl (fun hc => ?_) (fun hc => ?_))
    first | refine WQ_ret1 rfl rfl ?_ | refine WQ_ret2 rfl rfl rfl ?_ | refine WQ_ret3 rfl rfl rfl rfl ?_ | refine WQ_ret0 rfl ?_ | refine WQ_end0 rfl ?_
    refine .mk ⟨?_, hS⟩
    simp only [leafN]
    rw [if_pos (by assumption), if_pos (by assumption)]
    rfl
  all_goals first
    | (refine WL_eff (OE_makeMap (fun z : Int => Value.int .i64 z)) rfl ?_
       rintro _ w2 ⟨r, rfl, hr, hm, hS2⟩
       have hbl := hblk.lt
       have hsz := hS.size
       replace hblk := hblk.up hS2
       replace hS := hS.trans hS2
       refine WL_eff0 (OE_insert (a := (1 : Int)) (v := .int .i64 1) rfl rfl rfl hm (by simp)) ?_
       rintro _ w3 ⟨hm, hS3⟩
       replace hblk := hblk.ext hS3 (by simp; omega)
       replace hS := hS.own hS3 (fun b hb => .inr (by simp at hb; omega))
       refine WL_eff0 (OE_insert (a := (2 : Int)) (v := .int .i64 2) rfl rfl rfl hm (by simp)) ?_
       rintro _ w4 ⟨hm, hS4⟩
       replace hblk := hblk.ext hS4 (by simp; omega)
       replace hS := hS.own hS4 (fun b hb => .inr (by simp at hb; omega))
       refine WL_eff0 (OE_insert (a := (3 : Int)) (v := .int .i64 3) rfl rfl rfl hm (by simp)) ?_
       rintro _ w5 ⟨hm, hS5⟩
       replace hblk := hblk.ext hS5 (by simp; omega)
       replace hS := hS.own hS5 (fun b hb => .inr (by simp at hb; omega))
       refine W ?_
       apply WL_pure (PR_lookup (a := x.kind) rfl rfl hm) rfl
       refine W ?_
       first | refine WQ_ret1 rfl rfl ?_ | refine WQ_ret2 rfl rfl rfl ?_ | refine WQ_ret3 rfl rfl rfl rfl ?_ | refine WQ_ret0 rfl ?_ | refine WQ_end0 rfl ?_
       refine .mk ⟨?_, hS⟩
       have hw : x.word = [] := by first | assumption | exact Decidable.not_not.1 (by assumption)
       simp only [leafN, hw, not_true_eq_false, if_false]
       first
         | (have hk : x.kind = 1 := by assumption
            rw [hk, if_neg (by decide), if_pos rfl, if_pos (by omega)]; rfl)
         | (have hk : x.kind = 2 := by assumption
            rw [hk, if_neg (by decide), if_neg (by decide), if_pos rfl, if_pos (by omega)]; rfl)
         | (have hk : x.kind = 3 := by assumption
            rw [hk, if_neg (by decide), if_neg (by decide), if_neg (by decide), if_pos rfl, if_pos (by omega)]; rfl))
    | skip
  all_goals (first | refine WQ_ret1 rfl rfl ?_ | refine WQ_ret2 rfl rfl rfl ?_ | refine WQ_ret3 rfl rfl rfl rfl ?_ | refine WQ_ret0 rfl ?_ | refine WQ_end0 rfl ?_)
  all_goals
    refine .mk ⟨?_, hS⟩
    simp only [leafN]
    repeat' split
    all_goals first | rfl | (exfalso; omega) | (exfalso; simp_all; done) | (exfalso; simp_all; omega)
end Go.Proofs.YtgpibcgebpgmiaaDoor


namespace Go.Proofs.YtgpibcgebpgmiaaDoor
open Go Go.Eng Go.RowKit
set_option linter.unusedVariables false

def areB (l want : List Int) : Bool := decide (l = want ∧ ∀ x ∈ l, x ≠ 0)
theorem buildSI1 (a : Int) (w : World) : (Instr.buildSlice 22 1 #[(0, .int .i64 a)]).run Tryd.prog w = .ok (.slice (some ⟨w.heap.size, 0, none⟩) 1 1) (w.alloc (.cells #[.int .i64 a] 3)) := by kernel_rfl
theorem buildSI2 (a b : Int) (w : World) : (Instr.buildSlice 22 2 #[(0, .int .i64 a), (1, .int .i64 b)]).run Tryd.prog w = .ok (.slice (some ⟨w.heap.size, 0, none⟩) 2 2) (w.alloc (.cells #[.int .i64 a, .int .i64 b] 3)) := by kernel_rfl
theorem NewSl.stp {w w' : World} {T len : Nat} {cs : List Value} {v : Value} (h : NewSl w T len cs v w') : Stp [] w w' := h.choose_spec.2.2.2

def opsA : List Str := [[43], [45], [42]]
def opsC : List Str := [[60], [60, 61], [61], [33, 61], [62], [62, 61]]
def opsL : List Str := [[97, 110, 100], [111, 114]]
def binR (s : Str) (l : List Int) : Int :=
  if 0 ≤ idx (isS s) opsA ∧ areB l [1, 1] = true then 1 else if 0 ≤ idx (isS s) opsC ∧ (areB l [1, 1] = true ∨ areB l [3, 3] = true) then 2 else if 0 ≤ idx (isS s) opsL ∧ areB l [2, 2] = true then 2 else 0
end Go.Proofs.YtgpibcgebpgmiaaDoor


namespace Go.Proofs.YtgpibcgebpgmiaaDoor
open Go Go.Eng Go.RowKit
set_option linter.unusedVariables false

/-! ### signatures: a map keyed by structs -/
structure Sig where
  kind : Int
  s : Str
  a : Int
  b : Int
  c : Int
  deriving DecidableEq
abbrev sigV (x : Sig) : Value := .agg #[.int .i64 x.kind, str x.s, .int .i64 x.a, .int .i64 x.b, .int .i64 x.c]
theorem sig_eq (x y : Sig) (w : World) : (Op.equal 120 (sigV x) (sigV y)).run Tryd.prog w = .ok (decide (x = y)) w := by
  have h1 : Program.stoodInHeld Tryd.prog 120 = false := by kernel_rfl
  obtain ⟨i, hi⟩ : ∃ i, Tryd.prog.info? 3 = some i := by
    have := (inferInstance : Siz Tryd.prog 3 1).h
    cases h : Tryd.prog.info? 3 with
    | none => rw [h] at this; cases this
    | some i => exact ⟨i, rfl⟩
  have hc : Tryd.prog.cellsOf 3 = 1 := by kernel_rfl
  obtain ⟨k, s, a, b, c⟩ := x
  obtain ⟨k', s', a', b', c'⟩ := y
  simp [sigV, Op.equal, Op.maxDepth, run_equalIn_struct, h1, Program.fieldsOf, Tryd.underlying120, Op.eqFields, part, Und.isAgg, Siz.run, aggB, run_equalIn_int w _ _ .i64 .i64 _ _ Tryd.underlying3, run_equalIn_string w _ _ _ _ Tryd.underlying9, run_equalIn_array w _ _ _ Tryd.underlying115 hi, hc, Op.eqItems, List.range_succ_eq_map]
  repeat' split
  all_goals simp_all
theorem sig_chk (em : Bool) (x : Sig) (w : World) : (Instr.checkKey em 10000 120 (sigV x)).run Tryd.prog w = .ok () w := by kernel_rfl
instance : MKey Tryd.prog 120 Sig where
  enc := sigV
  chk := sig_chk
  find := fun a es l w hk => by
    have h2 := run_findKey_eq (P := Tryd.prog) (k := 120) w (by kernel_rfl) (sigV a) es
    have h3 := findAsking_of sigV sig_eq a w es l 0 hk
    simp only [Nat.zero_add] at h3
    exact h2.trans h3
end Go.Proofs.YtgpibcgebpgmiaaDoor


namespace Go.Proofs.YtgpibcgebpgmiaaDoor
open Go Go.Eng Go.RowKit
set_option linter.unusedVariables false

abbrev arr3 (a b c : Int) : Value := .agg #[.int .i64 a, .int .i64 b, .int .i64 c]
theorem buildA1 (a : Int) (w : World) : (Instr.build 115 #[(0, .int .i64 a)]).run Tryd.prog w = .ok (arr3 a 0 0) w := by kernel_rfl
theorem buildA2 (a b : Int) (w : World) : (Instr.build 115 #[(0, .int .i64 a), (1, .int .i64 b)]).run Tryd.prog w = .ok (arr3 a b 0) w := by kernel_rfl
theorem buildSg (k a b c : Int) (s : Str) (w : World) : (Instr.build 120 #[(0, .int .i64 k), (1, str s), (2, arr3 a b c)]).run Tryd.prog w = .ok (sigV ⟨k, s, a, b, c⟩) w := by kernel_rfl
theorem buildSS4 (a b c d : Str) (w : World) : (Instr.buildSlice 100 4 #[(0, str a), (1, str b), (2, str c), (3, str d)]).run Tryd.prog w = .ok (.slice (some ⟨w.heap.size, 0, none⟩) 4 4) (w.alloc (.cells #[str a, str b, str c, str d] 9)) := by kernel_rfl

abbrev SigE := Sig × Value
/-- the entries of the literal, by the number of the operation that inserts them -/
def ent : Nat → SigE
  | 5 => (⟨5, [45], 1, 0, 0⟩, .int .i64 1)
  | 10 => (⟨5, [110, 111, 116], 2, 0, 0⟩, .int .i64 2)
  | 15 => (⟨10, [110, 101, 120, 116], 3, 0, 0⟩, .int .i64 3)
  | 20 => (⟨10, [112, 114, 101, 118], 3, 0, 0⟩, .int .i64 3)
  | 26 => (⟨10, [108, 97, 116, 101, 114], 3, 3, 0⟩, .int .i64 3)
  | 32 => (⟨10, [101, 97, 114, 108, 105, 101, 114], 3, 3, 0⟩, .int .i64 3)
  | _ => (⟨10, [98, 101, 116, 119, 101, 101, 110], 3, 3, 0⟩, .int .i64 1)
def ents : List Nat := [5, 10, 15, 20, 26, 32, 38]
def units : List Str := [[100, 97, 121, 115], [119, 101, 101, 107, 115], [109, 111, 110, 116, 104, 115], [99, 111, 117, 114, 116, 100, 97, 121, 115]]
def unitE (u : Str) : List SigE := [(⟨7, u, 3, 1, 0⟩, .int .i64 3), (⟨8, u, 3, 1, 0⟩, .int .i64 3)]
def sigs : List SigE := ents.map ent ++ units.flatMap unitE
theorem sigs_nodup : (sigs.map (·.1)).Nodup := by decide
theorem mget_perm {κ : Type} [DecidableEq κ] {l m : List (κ × Value)} (hp : l.Perm m) (hn : (m.map (·.1)).Nodup) (a : κ) (z : Value) : mget l a z = mget m a z := by
  have hn' : (l.map (·.1)).Nodup := (hp.map _).nodup_iff.2 hn
  have key : ∀ (l m : List (κ × Value)), (∀ p, p ∈ l → p ∈ m) → (m.map (·.1)).Nodup → ∀ p, l.find? (fun p => decide (p.1 = a)) = some p → m.find? (fun p => decide (p.1 = a)) = some p := by
    intro l m hs hm p hf
    have hpm := hs p (List.mem_of_find?_eq_some hf)
    have hpa : p.1 = a := by simpa using List.find?_some hf
    cases hq : m.find? (fun p => decide (p.1 = a)) with
    | none => exact absurd (List.find?_eq_none.1 hq p hpm) (by simp [hpa])
    | some q =>
      have hqm := List.mem_of_find?_eq_some hq
      have hqa : q.1 = a := by simpa using List.find?_some hq
      obtain ⟨i, hi, rfl⟩ := List.getElem_of_mem hpm
      obtain ⟨j, hj, rfl⟩ := List.getElem_of_mem hqm
      have : i = j := by
        have h1 := (List.getElem_inj (xs := m.map (·.1)) (i := i) (j := j) (h₀ := by simpa using hi) (h₁ := by simpa using hj) hm).1 (by simp [hpa, hqa])
        exact h1
      subst this
      rfl
  unfold mget
  cases h1 : l.find? (fun p => decide (p.1 = a)) with
  | some p => rw [key l m (fun p h => hp.mem_iff.1 h) hn p h1]
  | none =>
    cases h2 : m.find? (fun p => decide (p.1 = a)) with
    | none => rfl
    | some p => rw [key m l (fun p h => hp.mem_iff.2 h) hn' p h2] at h1; cases h1

theorem signatures_any (w : World) : Calls Tryd.prog 75 #[] w (Ret fun r w' => ∃ (m : Nat) (l : List SigE), r = .map (some m) ∧ MapAt sigV w' m l ∧ l.Perm sigs ∧ Stp [] w w') := by
  refine calls_of_WC0 (n := 62) Tryd.func75 rfl rfl ?_
  refine W ?_
  refine WC_drawn 41 [] [5, 10, 15, 20, 26, 32, 38] [(1, 0), (2, 0), (3, 0), (4, 0), (6, 0), (7, 0), (8, 0), (9, 0), (11, 0), (12, 0), (13, 0), (14, 0), (16, 0), (17, 0), (18, 0), (19, 0), (21, 0), (22, 0), (23, 0), (24, 0), (25, 0), (27, 0), (28, 0), (29, 0), (30, 0), (31, 0), (33, 0), (34, 0), (35, 0), (36, 0), (37, 0), (0, 2), (5, 279241165504), (39, 0), (40, 0)] rfl mixed (by kernel_rfl) (by kernel_rfl) (by kernel_rfl) (fun w1 hS1 => ?_)
  repeat' (first | refine D1 ?_ | (apply WD_op; exact rfl; first | (apply WO_build (vs := [(0, .int .i64 _)]); exact trivial; exact rfl; exact buildA1 _; exact rfl) | (apply WO_build (vs := [(0, .int .i64 _), (1, .int .i64 _)]); exact trivial; exact rfl; exact buildA2 _ _; exact rfl) | (apply WO_build (vs := [(0, .int .i64 _), (1, str _), (2, arr3 _ _ _)]); exact trivial; exact rfl; exact buildSg _ _ _ _ _; exact rfl)))
  refine WD_eff rfl trivial (OE_makeMap sigV) (fun _ _ h => h.choose_spec.2.2.2) rfl ?_
  rintro _ w2 ⟨m, rfl, hm, hmap, hS2⟩
  have hw1 := hS1.size
  refine WD_set ents (fun rem w' => ∃ l, MapAt sigV w' m l ∧ (l ++ rem.map ent).Perm (ents.map ent) ∧ Stp [m] w2 w') rfl (by decide) (by decide) ⟨[], hmap, by simp, Stp.refl _ _⟩ ?_ ?_
  · rintro rem j w' hsub hj ⟨l, hl, hp, hS⟩
    have hkeys : ((l ++ rem.map ent).map (·.1)).Nodup := (hp.map (·.1)).nodup_iff.2 (by decide)
    have hfresh : ∀ p ∈ l, ¬ p.1 = (ent j).1 := by
      intro p hp e
      rw [List.map_append, List.nodup_append] at hkeys
      exact hkeys.2.2 p.1 (List.mem_map_of_mem hp) (ent j).1 (by rw [List.map_map]; exact List.mem_map.2 ⟨j, hj, rfl⟩) e
    have gen : ∀ w'', MapAt sigV w'' m (l ++ [ent j]) → Stp [m] w' w'' → ∃ l, MapAt sigV w'' m l ∧ (l ++ (rem.erase j).map ent).Perm (ents.map ent) ∧ Stp [m] w2 w'' := by
      intro w'' h1 h2
      refine ⟨_, h1, ?_, hS.trans h2⟩
      refine List.Perm.trans ?_ hp
      rw [List.append_assoc]
      exact List.Perm.append_left l (((List.perm_cons_erase hj).map ent).symm)
    have hjis := hsub.subset hj
    simp only [ents, List.mem_cons, List.not_mem_nil, or_false] at hjis
    rcases hjis with rfl | rfl | rfl | rfl | rfl | rfl | rfl
    all_goals exact ⟨_, rfl, rfl, trivial, (OE_insert (v := .int .i64 _) rfl rfl rfl hl hfresh).mono (fun _ w'' ⟨h1, h2⟩ => ⟨.inr rfl, gen w'' h1 h2⟩)⟩
  rintro w3 ⟨l, hl, hp, hS3⟩
  rw [List.map_nil, List.append_nil] at hp
  have hS : Stp [] w w3 := (hS1.trans hS2).own hS3 (fun b hb => .inr (by simp at hb; omega))
  have hmw : w.heap.size ≤ m := by omega
  clear hmap hS2 hS3
  repeat' (first | refine D1 ?_ | refine WD_splitN rfl rfl rfl rfl (fun hg => ?_) (fun hg => ?_) | (refine WD_splitBN rfl rfl rfl rfl (fun hg => ?_) (fun hg => ?_) <;> refine D1 ?_) | fail)
  refine W ?_
  refine WL_eff (OE_buildSlice (vs := [(0, str [100, 97, 121, 115]), (1, str [119, 101, 101, 107, 115]), (2, str [109, 111, 110, 116, 104, 115]), (3, str [99, 111, 117, 114, 116, 100, 97, 121, 115])]) rfl (buildSS4 _ _ _ _)) rfl ?_
  rintro uv w4 hN
  have hu : SlV [m] w4 uv units := hN.slv (fun b hb => by simp at hb; subst hb; exact hl.lt) rfl rfl (by simp [units, maxLen])
  have hS4 := NewSl.stp hN
  clear hN
  replace hl := hl.up hS4
  replace hS := hS.trans hS4
  have hkind : ∀ p ∈ l, p.1.kind = 5 ∨ p.1.kind = 10 := fun p hpl => by
    have hpe := hp.mem_iff.1 hpl
    simp only [ents, List.map_cons, List.map_nil, List.mem_cons, List.not_mem_nil, or_false] at hpe
    rcases hpe with rfl | rfl | rfl | rfl | rfl | rfl | rfl <;> decide
  have hseen : ∀ k (h : k < units.length), ∀ p ∈ (units.take k).flatMap unitE, ¬ p.1.s = units[k] := by
    intro k h
    match k, h with
    | 0, _ => (show ∀ p ∈ (units.take 0).flatMap unitE, ¬ p.1.s = units[0]'(by decide)); decide
    | 1, _ => (show ∀ p ∈ (units.take 1).flatMap unitE, ¬ p.1.s = units[1]'(by decide)); decide
    | 2, _ => (show ∀ p ∈ (units.take 2).flatMap unitE, ¬ p.1.s = units[2]'(by decide)); decide
    | 3, _ => (show ∀ p ∈ (units.take 3).flatMap unitE, ¬ p.1.s = units[3]'(by decide)); decide
  refine W ?_
  refine WC_loop (σ := Nat) (fun k => [(1, .int .i64 1), (3, .int .i64 3), (4, .map (some m)), (40, uv), (41, .int .i64 4), (42, .int .i64 k)]) (fun k w' => k ≤ 4 ∧ MapAt sigV w' m (l ++ (units.take k).flatMap unitE) ∧ Stp [m] w4 w') (fun k => 4 - k) 0 ⟨rfl, rfl, rfl, rfl, rfl, rfl, trivial⟩ ⟨by omega, by simpa using hl, Stp.refl _ _⟩ ?_
  rintro k w5 ⟨hk, hmk, hS5⟩
  have hu5 : SlV [m] w5 uv units := hu.ext hS5 (by simp) (fun b hb => .inl hb)
  by_cases hlt : k < 4
  · have hlt2 : k < units.length := hlt
    have hfr : ∀ (t : Int), ¬ t = 5 → ¬ t = 10 → ∀ p ∈ l ++ (units.take k).flatMap unitE, ¬ p.1 = ⟨t, units[k], 3, 1, 0⟩ := by
      intro t h5 h10 p hpm e
      rcases List.mem_append.1 hpm with h | h
      · have := hkind p h
        rw [e] at this
        rcases this with h | h
        · exact h5 h
        · exact h10 h
      · exact hseen k hlt2 p h (by rw [e])
    repeat' (first | refine W1 ?_ | (exfalso; omega) | refine WL_split rfl rfl (fun hg => ?_) (fun hg => ?_) | refine WL_splitB rfl rfl (fun hg => ?_) (fun hg => ?_) | refine WC_cond rfl (fun hc => ?_) (fun hc => ?_) | refine WC_condB rfl (fun hc => ?_) (fun hc => ?_))
    apply WL_build (vs := [(0, .int .i64 3), (1, .int .i64 1)]) rfl (buildA2 _ _) rfl
    apply WL_build (vs := [(0, .int .i64 7), (1, str _), (2, arr3 _ _ _)]) rfl (buildSg _ _ _ _ _) rfl
    refine W ?_
    refine WL_eff0 (OE_mapAdd (a := (⟨7, units[k], 3, 1, 0⟩ : Sig)) (v := .int .i64 3) rfl rfl rfl hmk (hfr 7 (by decide) (by decide))) ?_
    rintro _ w6 ⟨hm6, hS6⟩
    refine W ?_
    apply WL_build (vs := [(0, .int .i64 3), (1, .int .i64 1)]) rfl (buildA2 _ _) rfl
    apply WL_build (vs := [(0, .int .i64 8), (1, str _), (2, arr3 _ _ _)]) rfl (buildSg _ _ _ _ _) rfl
    refine W ?_
    refine WL_eff0 (OE_mapAdd (a := (⟨8, units[k], 3, 1, 0⟩ : Sig)) (v := .int .i64 3) rfl rfl rfl hm6 (fun p hpm e => by
      rcases List.mem_append.1 hpm with h | h
      · exact hfr 8 (by decide) (by decide) p h e
      · simp only [List.mem_singleton] at h
        subst h
        simp at e)) ?_
    rintro _ w7 ⟨hm7, hS7⟩
    refine W ?_
    refine WQ_loop (k + 1) ⟨rfl, rfl, rfl, rfl, rfl, rfl, trivial⟩ ⟨by omega, ?_, (hS5.trans hS6).trans hS7⟩ (by omega)
    rw [List.take_succ_eq_append_getElem hlt2, List.flatMap_append]
    have e : l ++ ((units.take k).flatMap unitE ++ [units[k]].flatMap unitE) = (l ++ (units.take k).flatMap unitE ++ [((⟨7, units[k], 3, 1, 0⟩ : Sig), Value.int .i64 3)]) ++ [((⟨8, units[k], 3, 1, 0⟩ : Sig), Value.int .i64 3)] := by simp [unitE]
    rw [e]
    exact hm7
  · have hke : k = 4 := by omega
    subst hke
    repeat' (first | refine W1 ?_ | (exfalso; omega) | refine WL_split rfl rfl (fun hg => ?_) (fun hg => ?_) | refine WL_splitB rfl rfl (fun hg => ?_) (fun hg => ?_) | refine WC_cond rfl (fun hc => ?_) (fun hc => ?_) | refine WC_condB rfl (fun hc => ?_) (fun hc => ?_))
    first | refine WQ_ret1 rfl rfl ?_ | refine WQ_ret2 rfl rfl rfl ?_ | refine WQ_ret3 rfl rfl rfl rfl ?_ | refine WQ_ret0 rfl ?_ | refine WQ_end0 rfl ?_
    exact .mk ⟨m, _, rfl, hmk, hp.append_right _, hS.own hS5 (fun b hb => .inr (by simp at hb; omega))⟩
/-- the value at a signature -/
def sigF (x : Sig) : Value := mget sigs x (.int .i64 0)
end Go.Proofs.YtgpibcgebpgmiaaDoor


namespace Go.Proofs.YtgpibcgebpgmiaaDoor
open Go Go.Eng Go.RowKit
set_option linter.unusedVariables false

def binT (s : Str) (a b : Int) : Int :=
  if s ∈ opsA then (if a = b ∧ a = 1 then 1 else 0) else if s ∈ opsC then (if a = b ∧ ¬ a = 2 then 2 else 0) else if s ∈ opsL then (if a = b ∧ a = 2 then 2 else 0) else 0
theorem binary_any (s : Str) (a b c : Int) (w : World) : Calls Tryd.prog 74 #[str s, arr3 a b c] w (Ret fun r w' => r = .int .i64 (binT s a b) ∧ Stp [] w w') := by
  refine calls_of_WC2 (n := 46) Tryd.func74 rfl rfl rfl ?_
  refine W ?_
  refine WL_eff (OE_box rfl) rfl ?_
  rintro _ w1 ⟨q, rfl, hq, hblk, hS⟩
  replace hblk : Blk w1 q _ [.int .i64 a, .int .i64 b, .int .i64 c] := hblk
  refine W ?_
  by_cases hA : s ∈ opsA
  · unfold binT
    rw [if_pos hA]
    simp only [opsA, List.mem_cons, List.not_mem_nil, or_false] at hA
    rcases hA with rfl | rfl | rfl
    all_goals (repeat' (first | refine W1 ?_ | (exfalso; omega) | refine WL_split rfl rfl (fun hg => ?_) (fun hg => ?_) | refine WL_splitB rfl rfl (fun hg => ?_) (fun hg => ?_) | refine WC_cond rfl (fun hc => ?_) (fun hc => ?_) | refine WC_condB rfl (fun hc => ?_) (fun hc => ?_)))
    all_goals (first | refine WQ_ret1 rfl rfl ?_ | refine WQ_ret2 rfl rfl rfl ?_ | refine WQ_ret3 rfl rfl rfl rfl ?_ | refine WQ_ret0 rfl ?_ | refine WQ_end0 rfl ?_)
    all_goals refine .mk ⟨?_, hS⟩
    all_goals first
      | rw [if_pos ⟨by assumption, by assumption⟩]
      | rw [if_neg (fun h => by omega)]
  by_cases hC : s ∈ opsC
  · unfold binT
    rw [if_neg hA, if_pos hC]
    simp only [opsC, List.mem_cons, List.not_mem_nil, or_false] at hC
    rcases hC with rfl | rfl | rfl | rfl | rfl | rfl
    all_goals (repeat' (first | refine W1 ?_ | (exfalso; omega) | refine WL_split rfl rfl (fun hg => ?_) (fun hg => ?_) | refine WL_splitB rfl rfl (fun hg => ?_) (fun hg => ?_) | refine WC_cond rfl (fun hc => ?_) (fun hc => ?_) | refine WC_condB rfl (fun hc => ?_) (fun hc => ?_)))
    all_goals (first | refine WQ_ret1 rfl rfl ?_ | refine WQ_ret2 rfl rfl rfl ?_ | refine WQ_ret3 rfl rfl rfl rfl ?_ | refine WQ_ret0 rfl ?_ | refine WQ_end0 rfl ?_)
    all_goals refine .mk ⟨?_, hS⟩
    all_goals first
      | rw [show (if a = b ∧ ¬ a = 2 then (2 : Int) else 0) = 2 from if_pos (by omega)]
      | rw [show (if a = b ∧ ¬ a = 2 then (2 : Int) else 0) = 0 from if_neg (by omega)]
  by_cases hL : s ∈ opsL
  · unfold binT
    rw [if_neg hA, if_neg hC, if_pos hL]
    simp only [opsL, List.mem_cons, List.not_mem_nil, or_false] at hL
    rcases hL with rfl | rfl
    all_goals (repeat' (first | refine W1 ?_ | (exfalso; omega) | refine WL_split rfl rfl (fun hg => ?_) (fun hg => ?_) | refine WL_splitB rfl rfl (fun hg => ?_) (fun hg => ?_) | refine WC_cond rfl (fun hc => ?_) (fun hc => ?_) | refine WC_condB rfl (fun hc => ?_) (fun hc => ?_)))
    all_goals (first | refine WQ_ret1 rfl rfl ?_ | refine WQ_ret2 rfl rfl rfl ?_ | refine WQ_ret3 rfl rfl rfl rfl ?_ | refine WQ_ret0 rfl ?_ | refine WQ_end0 rfl ?_)
    all_goals refine .mk ⟨?_, hS⟩
    all_goals first
      | rw [if_pos ⟨by assumption, by assumption⟩]
      | rw [if_neg (fun h => by omega)]
  unfold binT
  rw [if_neg hA, if_neg hC, if_neg hL]
  simp only [opsA, opsC, opsL, List.mem_cons, List.not_mem_nil, or_false, not_or] at hA hC hL
  obtain ⟨a1, a2, a3⟩ := hA
  obtain ⟨b1, b2, b3, b4, b5, b6⟩ := hC
  obtain ⟨c1, c2⟩ := hL
  repeat' (first | refine W1 ?_ | refine WC_cond rfl (fun hc => absurd hc (by assumption)) (fun hc => ?_))
  first | refine WQ_ret1 rfl rfl ?_ | refine WQ_ret2 rfl rfl rfl ?_ | refine WQ_ret3 rfl rfl rfl rfl ?_ | refine WQ_ret0 rfl ?_ | refine WQ_end0 rfl ?_
  exact .mk ⟨rfl, hS⟩
end Go.Proofs.YtgpibcgebpgmiaaDoor


namespace Go.Proofs.YtgpibcgebpgmiaaDoor
open Go Go.Eng Go.RowKit
set_option linter.unusedVariables false

theorem _root_.Go.Eng.SlV.any {α : Type} [GoRep α] {X : List Nat} {w : World} {v : Value} {xs : List α} (h : SlV X w v xs) : SlV [] w v xs := h.ext (Stp.refl [] w) (by simp) (by simp)
/-- behind a new block, which may be written -/
theorem _root_.Go.Eng.SlV.new {α : Type} [GoRep α] {X : List Nat} {w w' : World} {v : Value} {xs : List α} (h : SlV X w v xs) (hS : Stp [] w w') (b : Nat) (hb : w.heap.size ≤ b) : SlV [b] w' v xs :=
  h.ext hS (by simp) (fun c hc => .inr (by simp at hc; omega))
theorem _root_.Go.Eng.SlV.on {α : Type} [GoRep α] {X S : List Nat} {w w' : World} {v : Value} {xs : List α} (h : SlV X w v xs) (hS : Stp S w w') (hs : ∀ b ∈ S, b ∈ X) : SlV X w' v xs := h.ext hS hs (fun _ h => .inl h)
def sigI (x : Sig) : Int := match sigF x with | .int _ z => z | _ => 0
theorem sigF_int (x : Sig) : sigF x = .int .i64 (sigI x) := by
  have : ∀ p ∈ sigs, ∃ z, p.2 = Value.int .i64 z := by
    intro p hp
    simp only [sigs, ents, units, List.map_cons, List.map_nil, List.flatMap_cons, List.flatMap_nil, unitE, List.cons_append, List.nil_append, List.append_nil, List.mem_cons, List.not_mem_nil, or_false, ent] at hp
    rcases hp with rfl | rfl | rfl | rfl | rfl | rfl | rfl | rfl | rfl | rfl | rfl | rfl | rfl | rfl | rfl <;> exact ⟨_, rfl⟩
  unfold sigI sigF mget
  cases h : sigs.find? (fun p => decide (p.1 = x)) with
  | none => rfl
  | some p =>
    obtain ⟨z, hz⟩ := this p (List.mem_of_find?_eq_some h)
    simp only [hz]
/-- the type of a node for those of its kids -/
def combT (k n : Int) (s : Str) (ts : List Int) : Int :=
  if ts.length > 3 then 0 else if (0 : Int) ∈ ts then 0 else if ts = [] then leafN k n s else if ¬ n = 0 then 0
  else if k = 9 ∧ s = [] ∧ ts.getD 0 0 = 2 ∧ ts.getD 1 0 = ts.getD 2 0 then ts.getD 1 0
  else if k = 6 ∧ ts.getD 2 0 = 0 then binT s (ts.getD 0 0) (ts.getD 1 0) else sigI ⟨k, s, ts.getD 0 0, ts.getD 1 0, ts.getD 2 0⟩
def typeT : Nd → Int
  | .mk k n s l => combT k n s (l.map typeT)
theorem typeT_eq (x : Nd) : typeT x = combT x.kind x.num x.word (x.kids.map typeT) := by
  cases x
  rw [typeT]
  rfl
def arrC (ts : List Int) (k : Nat) : List Value := [.int .i64 (if 0 < k then ts.getD 0 0 else 0), .int .i64 (if 1 < k then ts.getD 1 0 else 0), .int .i64 (if 2 < k then ts.getD 2 0 else 0)]
theorem arrC_set (ts : List Int) (k : Nat) (hk : k < 3) : (arrC ts k).set (0 + k * 1) (.int .i64 (ts.getD k 0)) = arrC ts (k + 1) := by
  match k, hk with
  | 0, _ => rfl
  | 1, _ => rfl
  | 2, _ => rfl
theorem arrC_get (ts : List Int) (k : Nat) (hk : k < 3) : (arrC ts (k + 1))[0 + k * 1]? = some (.int .i64 (ts.getD k 0)) := by
  match k, hk with
  | 0, _ => rfl
  | 1, _ => rfl
  | 2, _ => rfl
theorem arrC_end (ts : List Int) (h : ts.length ≤ 3) : arrC ts ts.length = [.int .i64 (ts.getD 0 0), .int .i64 (ts.getD 1 0), .int .i64 (ts.getD 2 0)] := by
  match ts, h with
  | [], _ => rfl
  | [a], _ => rfl
  | [a, b], _ => rfl
  | [a, b, c], _ => rfl
theorem of_any (x : Nd) : ∀ (X XF : List Nat) (v : Value) (w : World), NdV X w v x → SlV XF w flds fieldNames →
    Calls Tryd.prog 33 #[v] w (Ret fun r w' => r = .int .i64 (typeT x) ∧ Stp [] w w') := by
  induction x using Nd.ind with
  | h k n s l ih =>
  intro X XF v w hx hF
  generalize hxe : Nd.mk k n s l = x at *
  have ih' : ∀ y ∈ x.kids, ∀ (X XF : List Nat) (v : Value) (w : World), NdV X w v y → SlV XF w flds fieldNames → Calls Tryd.prog 33 #[v] w (Ret fun r w' => r = .int .i64 (typeT y) ∧ Stp [] w w') := by
    subst hxe; exact ih
  clear ih hxe k n s l
  have hx0 := hx
  obtain ⟨kv, rfl, hs⟩ := hx
  have hmax := hs.max
  rw [typeT_eq]
  have hlen : (x.kids.map typeT).length = x.kids.length := by simp
  have hget : ∀ k (h : k < x.kids.length), (x.kids.map typeT).getD k 0 = typeT x.kids[k] := fun k h => by simp [List.getD, h]
  generalize hts : x.kids.map typeT = ts at *
  refine calls_of_WC1 (n := 80) Tryd.func33 rfl rfl rfl ?_
  refine W ?_
  refine WL_eff (OE_box rfl) rfl ?_
  rintro _ w1 ⟨b, rfl, hb, hblk, hS⟩
  replace hblk : Blk w1 b _ (ndC x kv) := hblk
  replace hs := hs.up hS
  replace hF := hF.up hS
  have hlt := hblk.lt
  refine W ?_
  refine WL_eff OE_alloc rfl ?_
  rintro _ w2 ⟨q, rfl, hq, harr, hS2⟩
  replace harr : Blk w2 q _ (arrC ts 0) := harr
  replace hblk := hblk.up hS2
  replace hs := hs.new hS2 q hq
  replace hF := hF.new hS2 q hq
  replace hS := hS.trans hS2
  have hwq : w.heap.size ≤ q := Nat.le_trans (Nat.le_trans hb (Nat.le_of_lt hlt)) hq
  have hbq : ¬ b = q := by omega
  repeat' (first | refine W1 ?_ | (exfalso; omega) | refine WL_split rfl rfl (fun hg => ?_) (fun hg => ?_) | refine WL_splitB rfl rfl (fun hg => ?_) (fun hg => ?_) | refine WC_cond rfl (fun hc => ?_) (fun hc => ?_) | refine WC_condB rfl (fun hc => ?_) (fun hc => ?_))
  · first | refine WQ_ret1 rfl rfl ?_ | refine WQ_ret2 rfl rfl rfl ?_ | refine WQ_ret3 rfl rfl rfl rfl ?_ | refine WQ_ret0 rfl ?_ | refine WQ_end0 rfl ?_
    refine .mk ⟨?_, hS⟩
    unfold combT
    rw [if_pos (by omega)]
  have hl3 : x.kids.length ≤ 3 := by omega
  refine WC_cutB (σ := Unit) (fun _ => [(1, .pointer (some ⟨b, 0, none⟩)), (3, .pointer (some ⟨q, 0, none⟩))]) (fun _ w' => Stp [q] w2 w' ∧ Blk w' q 115 [.int .i64 (ts.getD 0 0), .int .i64 (ts.getD 1 0), .int .i64 (ts.getD 2 0)] ∧ ¬ (0 : Int) ∈ ts) ?_ ?_
  · have hs0 := hs
    have hF0 := hF
    refine WC_loop (σ := Nat) (fun k => [(1, .pointer (some ⟨b, 0, none⟩)), (3, .pointer (some ⟨q, 0, none⟩)), (11, kv), (12, .int .i64 (x.kids.length : Int)), (13, .int .i64 k)]) (fun k w' => k ≤ x.kids.length ∧ Stp [q] w2 w' ∧ Blk w' q 115 (arrC ts k) ∧ ¬ (0 : Int) ∈ ts.take k) (fun k => x.kids.length - k) 0 ⟨rfl, rfl, rfl, rfl, rfl, trivial⟩ ⟨Nat.zero_le _, Stp.refl _ _, harr, by simp⟩ ?_
    clear hs hF harr
    rintro k w3 ⟨hk, hS3, harr, hno⟩
    have hs := hs0.on hS3 (by simp)
    have hF := hF0.on hS3 (by simp)
    by_cases hlt : k < x.kids.length
    · have hk3 : k < 3 := by omega
      have hg := hget k hlt
      have hset := arrC_set ts k hk3
      have hgt := arrC_get ts k hk3
      rw [hg] at hset hgt
      obtain ⟨kv2, hs2, hc2⟩ := hs.nd hlt
      repeat' (first | refine W1 ?_ | (exfalso; omega) | refine WL_split rfl rfl (fun hg => ?_) (fun hg => ?_) | refine WL_splitB rfl rfl (fun hg => ?_) (fun hg => ?_) | refine WC_cond rfl (fun hc => ?_) (fun hc => ?_) | refine WC_condB rfl (fun hc => ?_) (fun hc => ?_))
      apply WL_pure (PR_loadNd rfl rfl hs hlt hc2) rfl
      refine WL_eff OE_alloc rfl ?_
      rintro _ w4 ⟨b4, rfl, hb4, hblk4, hS4⟩
      have harl := harr.lt
      replace harr := harr.up hS4
      refine W ?_
      refine WL_eff0 (OE_storeA (us := ndC x.kids[k] kv2) rfl rfl rfl rfl (ndC_one hs2) hblk4 rfl) ?_
      rintro _ w5 ⟨hS5, hblk5⟩
      have h4q : ¬ b4 = q := by omega
      replace harr := harr.ext hS5 (by simp; omega)
      have hS45 := hS4.own hS5 (fun c hc => .inr (by simp at hc; omega))
      replace hs2 := hs2.up hS45
      replace hF := hF.up hS45
      refine W ?_
      refine WL_eff (OE_call rfl (evs1 rfl) (ih' x.kids[k] (List.getElem_mem hlt) _ _ _ _ ⟨kv2, rfl, hs2⟩ hF)) rfl ?_
      rintro _ w6 ⟨rfl, hS6⟩
      replace harr := harr.up hS6
      refine W ?_
      refine WL_eff0 (OE_store1 (u := .int .i64 (typeT x.kids[k])) rfl rfl rfl rfl harr (by simp [arrC]; omega)) ?_
      rintro _ w7 ⟨hS7, harr⟩
      rw [hset] at harr
      have hS37 := ((hS3.trans (hS45.mono (by simp))).trans (hS6.mono (by simp))).trans hS7
      have hnx : ts.take (k + 1) = ts.take k ++ [typeT x.kids[k]] := by
        rw [List.take_succ_eq_append_getElem (by omega)]
        congr 2
        subst hts
        simp
      repeat' (first | refine W1 ?_ | (exfalso; omega) | refine WL_split rfl rfl (fun hg => ?_) (fun hg => ?_) | refine WL_splitB rfl rfl (fun hg => ?_) (fun hg => ?_) | refine WC_cond rfl (fun hc => ?_) (fun hc => ?_) | refine WC_condB rfl (fun hc => ?_) (fun hc => ?_))
      apply WL_load1 rfl rfl (harr.cell hgt) rfl
      repeat' (first | refine W1 ?_ | (exfalso; omega) | refine WL_split rfl rfl (fun hg => ?_) (fun hg => ?_) | refine WL_splitB rfl rfl (fun hg => ?_) (fun hg => ?_) | refine WC_cond rfl (fun hc => ?_) (fun hc => ?_) | refine WC_condB rfl (fun hc => ?_) (fun hc => ?_))
      · first | refine WQ_ret1 rfl rfl ?_ | refine WQ_ret2 rfl rfl rfl ?_ | refine WQ_ret3 rfl rfl rfl rfl ?_ | refine WQ_ret0 rfl ?_ | refine WQ_end0 rfl ?_
        have h0' : typeT x.kids[k] = 0 := hc
        refine .mk ⟨?_, hS.own hS37 (fun c hc => .inr (by simp at hc; omega))⟩
        unfold combT
        rw [if_neg (by omega), if_pos]
        have : typeT x.kids[k] ∈ ts := by
          subst hts
          exact List.mem_map_of_mem (List.getElem_mem hlt)
        rwa [h0'] at this
      · refine WQ_loop (k + 1) ⟨rfl, rfl, rfl, rfl, rfl, trivial⟩ ⟨hlt, hS37, harr, ?_⟩ (by omega)
        rw [hnx, List.mem_append]
        rintro (h | h)
        · exact hno h
        · simp only [List.mem_singleton] at h
          exact hc h.symm
    · have hke : k = x.kids.length := by omega
      subst hke
      repeat' (first | refine W1 ?_ | (exfalso; omega) | refine WL_split rfl rfl (fun hg => ?_) (fun hg => ?_) | refine WL_splitB rfl rfl (fun hg => ?_) (fun hg => ?_) | refine WC_cond rfl (fun hc => ?_) (fun hc => ?_) | refine WC_condB rfl (fun hc => ?_) (fun hc => ?_))
      rw [← hlen, arrC_end ts (by omega)] at harr
      rw [← hlen, List.take_length] at hno
      exact WQ_cut () ⟨rfl, rfl, trivial⟩ ⟨hS3, harr, hno⟩
  rintro _ w3 ⟨hS3, harr, hno⟩
  replace hblk := hblk.ext hS3 (by simpa using hbq)
  replace hF := hF.on hS3 (by simp)
  replace hs := hs.on hS3 (by simp)
  replace hS := hS.own hS3 (fun c hc => .inr (by simp at hc; omega))
  unfold combT
  rw [if_neg (by omega), if_neg hno]
  by_cases h0 : x.kids.length = 0
  · rw [if_pos (List.length_eq_zero_iff.1 (by omega))]
    repeat' (first | refine W1 ?_ | (exfalso; omega) | refine WL_split rfl rfl (fun hg => ?_) (fun hg => ?_) | refine WL_splitB rfl rfl (fun hg => ?_) (fun hg => ?_) | refine WC_cond rfl (fun hc => ?_) (fun hc => ?_) | refine WC_condB rfl (fun hc => ?_) (fun hc => ?_))
    refine WL_eff (OE_call rfl (evs1 rfl) (leaf_any [q] _ x _ ⟨kv, rfl, hs⟩ hF.any)) rfl ?_
    rintro _ w4 ⟨rfl, hS4⟩
    refine W ?_
    first | refine WQ_ret1 rfl rfl ?_ | refine WQ_ret2 rfl rfl rfl ?_ | refine WQ_ret3 rfl rfl rfl rfl ?_ | refine WQ_ret0 rfl ?_ | refine WQ_end0 rfl ?_
    exact .mk ⟨rfl, hS.trans hS4⟩
  rw [if_neg (fun h => h0 (by rw [← hlen, h]; rfl))]
  clear hget hts
  generalize ts.getD 0 0 = a at *
  generalize ts.getD 1 0 = bb at *
  generalize ts.getD 2 0 = c at *
  repeat' (first | refine W1 ?_ | (exfalso; omega) | refine WL_split rfl rfl (fun hg => ?_) (fun hg => ?_) | refine WL_splitB rfl rfl (fun hg => ?_) (fun hg => ?_) | refine WC_cond rfl (fun hc => ?_) (fun hc => ?_) | refine WC_condB rfl (fun hc => ?_) (fun hc => ?_))
  · first | refine WQ_ret1 rfl rfl ?_ | refine WQ_ret2 rfl rfl rfl ?_ | refine WQ_ret3 rfl rfl rfl rfl ?_ | refine WQ_ret0 rfl ?_ | refine WQ_end0 rfl ?_
    exact .mk ⟨by rw [if_pos (by assumption)], hS⟩
  all_goals rw [if_neg (by assumption)]
  all_goals first
    | (have h9 : x.kind = 9 ∧ x.word = [] ∧ a = 2 ∧ bb = c := ⟨by assumption, by assumption, by assumption, by assumption⟩
       rw [if_pos h9]
       first | refine WQ_ret1 rfl rfl ?_ | refine WQ_ret2 rfl rfl rfl ?_ | refine WQ_ret3 rfl rfl rfl rfl ?_ | refine WQ_ret0 rfl ?_ | refine WQ_end0 rfl ?_
       exact .mk ⟨rfl, hS⟩)
    | rw [show (if x.kind = 9 ∧ x.word = [] ∧ a = 2 ∧ bb = c then bb else if x.kind = 6 ∧ c = 0 then binT x.word a bb else sigI ⟨x.kind, x.word, a, bb, c⟩) = if x.kind = 6 ∧ c = 0 then binT x.word a bb else sigI ⟨x.kind, x.word, a, bb, c⟩ from if_neg (fun h => by
        obtain ⟨h1, h2, h3, h4⟩ := h
        first | (exfalso; omega) | contradiction)]
  all_goals first
    | (have h6 : x.kind = 6 ∧ c = 0 := ⟨by assumption, by assumption⟩
       rw [if_pos h6]
       refine WL_eff (OE_call rfl (evs2 rfl rfl) (binary_any x.word a bb c _)) rfl ?_
       rintro _ w4 ⟨rfl, hS4⟩
       refine W ?_
       first | refine WQ_ret1 rfl rfl ?_ | refine WQ_ret2 rfl rfl rfl ?_ | refine WQ_ret3 rfl rfl rfl rfl ?_ | refine WQ_ret0 rfl ?_ | refine WQ_end0 rfl ?_
       exact .mk ⟨rfl, hS.trans hS4⟩)
    | rw [show (if x.kind = 6 ∧ c = 0 then binT x.word a bb else sigI ⟨x.kind, x.word, a, bb, c⟩) = sigI ⟨x.kind, x.word, a, bb, c⟩ from if_neg (fun h => by omega)]
  all_goals
    refine WC_drawn 9 [] [] [(1, 0), (2, 1), (3, 0), (4, 1), (5, 1), (6, 0), (0, 2), (7, 2), (8, 0)] rfl mixed (by kernel_rfl) (by kernel_rfl) (by kernel_rfl) (fun w1 hS1 => ?_)
    replace hblk := hblk.up hS1
    replace harr := harr.up hS1
    replace hS := hS.trans hS1
    refine D ?_
    apply WD_op
    exact rfl
    apply WO_build (vs := [(0, .int .i64 _), (1, str _), (2, arr3 _ _ _)])
    exact trivial
    exact rfl
    exact buildSg _ _ _ _ _
    exact rfl
    refine WD_eff rfl trivial (OE_call rfl evs0 (signatures_any _)) (fun _ _ h => h.choose_spec.choose_spec.2.2.2) rfl ?_
    rintro _ w5 ⟨m, ll, rfl, hm, hp, hS5⟩
    have hmg := sigF_int ⟨x.kind, x.word, a, bb, c⟩
    unfold sigF at hmg
    rw [← mget_perm hp sigs_nodup] at hmg
    refine WD_eff rfl trivial (OE_pr (PR_lookup (a := (⟨x.kind, x.word, a, bb, c⟩ : Sig)) rfl rfl hm)) (fun _ _ h => h.2 ▸ Stp.refl _ _) rfl ?_
    rintro _ _ ⟨rfl, rfl⟩
    rw [hmg]
    refine D ?_
    refine W ?_
    first | refine WQ_ret1 rfl rfl ?_ | refine WQ_ret2 rfl rfl rfl ?_ | refine WQ_ret3 rfl rfl rfl rfl ?_ | refine WQ_ret0 rfl ?_ | refine WQ_end0 rfl ?_
    exact .mk ⟨rfl, hS.trans hS5⟩
end Go.Proofs.YtgpibcgebpgmiaaDoor


namespace Go.Proofs.YtgpibcgebpgmiaaDoor
open Go Go.Eng Go.RowKit
set_option linter.unusedVariables false

theorem sigI_none {x : Sig} (h : ¬ ∃ p ∈ sigs, p.1 = x) : sigI x = 0 := by
  unfold sigI sigF mget
  have : sigs.find? (fun p => decide (p.1 = x)) = none := by
    rw [List.find?_eq_none]
    intro p hp
    simpa using fun e => h ⟨p, hp, e⟩
  rw [this]
def opsN : List Str := [[110, 101, 120, 116], [112, 114, 101, 118]]
def opsE : List Str := [[108, 97, 116, 101, 114], [101, 97, 114, 108, 105, 101, 114]]
theorem idx_mem {s : Str} {l : List Str} : 0 ≤ idx (isS s) l ↔ s ∈ l := by
  unfold idx
  cases h : l.findIdx? (isS s) with
  | none =>
    rw [List.findIdx?_eq_none_iff] at h
    constructor
    · intro h0
      simp at h0
    · intro hm
      have := h s hm
      simp at this
  | some i =>
    obtain ⟨hi, hp, _⟩ := List.findIdx?_eq_some_iff_getElem.1 h
    constructor
    · intro _
      have : l[i] = s := by simpa using hp
      rw [← this]
      exact List.getElem_mem _
    · intro _
      simp
def callR (s : Str) (l : List Int) : Int :=
  if 0 ≤ idx (isS s) opsN ∧ areB l [3] = true then 3 else if 0 ≤ idx (isS s) opsE ∧ areB l [3, 3] = true then 3 else if s = [98, 101, 116, 119, 101, 101, 110] ∧ areB l [3, 3] = true then 1 else 0
def combR (k n : Int) (s : Str) (ts : List Int) : Int :=
  if ts = [] then leafN k n s else if ¬ n = 0 then 0
  else if k = 5 then (if s = [45] ∧ areB ts [1] = true ∨ s = [110, 111, 116] ∧ areB ts [2] = true then ts.getD 0 0 else 0)
  else if k = 6 then binR s ts
  else if k = 7 ∨ k = 8 then (if 0 ≤ idx (isS s) units ∧ areB ts [3, 1] = true then 3 else 0)
  else if k = 9 then (if s = [] ∧ ts.length = 3 ∧ areB ts [2, ts.getD 1 0, ts.getD 1 0] = true then ts.getD 1 0 else 0)
  else if k = 10 then callR s ts else 0
theorem areB_iff {l m : List Int} : areB l m = true ↔ l = m ∧ ∀ x ∈ l, x ≠ 0 := by simp [areB]
theorem areB_no {l m : List Int} (h : ¬ (l = m ∧ ∀ x ∈ l, x ≠ 0)) : areB l m = false := by simp [areB]; simpa using h
/-- where no list of types fits, the node has no type -/
theorem combR_bad (k n : Int) (s : Str) (ts : List Int) (h0 : ¬ ts = []) (hb : (0 : Int) ∈ ts ∨ ts.length > 3) : combR k n s ts = 0 := by
  have hno : ∀ m : List Int, m.length ≤ 3 → areB ts m = false := fun m hm => areB_no (fun ⟨h1, h2⟩ => by
    rcases hb with hb | hb
    · exact h2 0 hb rfl
    · rw [h1] at hb; omega)
  unfold combR binR callR
  simp only [hno _ (show [(1 : Int)].length ≤ 3 by decide), hno _ (show [(2 : Int)].length ≤ 3 by decide), hno _ (show [(3 : Int)].length ≤ 3 by decide), hno [1, 1] (by decide), hno [3, 3] (by decide), hno [2, 2] (by decide), hno [3, 1] (by decide), hno [2, ts.getD 1 0, ts.getD 1 0] (by simp), if_neg h0]
  simp
theorem binR_eq (s : Str) (a b : Int) (ha : a ≠ 0) (hb : b ≠ 0) (hr : 1 ≤ a ∧ a ≤ 3) (hr2 : 1 ≤ b ∧ b ≤ 3) : binR s [a, b] = binT s a b := by
  unfold binR binT
  simp only [idx_mem, areB_iff]
  have e : ∀ c d : Int, ([a, b] = [c, d] ∧ ∀ x ∈ [a, b], x ≠ 0) ↔ (a = c ∧ b = d) := fun c d => by simp [ha, hb]
  simp only [e]
  by_cases hA : s ∈ opsA
  · have hC : ¬ s ∈ opsC := by
      simp only [opsA, List.mem_cons, List.not_mem_nil, or_false] at hA
      rcases hA with rfl | rfl | rfl <;> decide
    have hL : ¬ s ∈ opsL := by
      simp only [opsA, List.mem_cons, List.not_mem_nil, or_false] at hA
      rcases hA with rfl | rfl | rfl <;> decide
    simp only [hA, hC, hL, true_and, false_and, if_false, if_true]
    by_cases h1 : a = 1 ∧ b = 1
    · rw [if_pos h1, if_pos ⟨by omega, by omega⟩]
    · rw [if_neg h1, if_neg (fun h => by omega)]
  · simp only [hA, false_and, if_false]
    by_cases hC : s ∈ opsC
    · have hL : ¬ s ∈ opsL := by
        simp only [opsC, List.mem_cons, List.not_mem_nil, or_false] at hC
        rcases hC with rfl | rfl | rfl | rfl | rfl | rfl <;> decide
      simp only [hC, hL, true_and, false_and, if_false, if_true]
      by_cases h1 : a = 1 ∧ b = 1 ∨ a = 3 ∧ b = 3
      · rw [if_pos h1, if_pos ⟨by omega, by omega⟩]
      · rw [if_neg h1, if_neg (fun h => by omega)]
    · simp only [hC, false_and, if_false]
      by_cases hL : s ∈ opsL
      · simp only [hL, true_and, if_true]
        by_cases h1 : a = 2 ∧ b = 2
        · rw [if_pos h1, if_pos ⟨by omega, by omega⟩]
        · rw [if_neg h1, if_neg (fun h => by omega)]
      · simp only [hL, false_and, if_false]

def keysS : List Sig := sigs.map (·.1)
def sigG (k : Int) (s : Str) (a b c : Int) : Int :=
  if c = 0 then
    if b = 0 then (if k = 5 ∧ s = [45] ∧ a = 1 then 1 else if k = 5 ∧ s = [110, 111, 116] ∧ a = 2 then 2 else if k = 10 ∧ s ∈ opsN ∧ a = 3 then 3 else 0)
    else if a = 3 ∧ b = 3 ∧ k = 10 ∧ s ∈ opsE then 3 else if a = 3 ∧ b = 3 ∧ k = 10 ∧ s = [98, 101, 116, 119, 101, 101, 110] then 1 else if a = 3 ∧ b = 1 ∧ (k = 7 ∨ k = 8) ∧ s ∈ units then 3 else 0
  else 0
theorem keys_all : ∀ x ∈ keysS, sigI x = sigG x.kind x.s x.a x.b x.c := by
  intro x hx
  simp only [keysS, sigs, ents, units, List.map_cons, List.map_nil, List.flatMap_cons, List.flatMap_nil, unitE, List.cons_append, List.nil_append, List.append_nil, List.mem_cons, List.not_mem_nil, or_false, ent] at hx
  rcases hx with rfl | rfl | rfl | rfl | rfl | rfl | rfl | rfl | rfl | rfl | rfl | rfl | rfl | rfl | rfl <;> decide
theorem sigI_eq (k : Int) (s : Str) (a b c : Int) : sigI ⟨k, s, a, b, c⟩ = sigG k s a b c := by
  by_cases hx : (⟨k, s, a, b, c⟩ : Sig) ∈ keysS
  · exact keys_all _ hx
  · rw [sigI_none (fun ⟨p, hp, e⟩ => hx (e ▸ List.mem_map_of_mem hp))]
    unfold sigG
    symm
    split
    · rename_i hc
      subst hc
      split
      · rename_i hb
        subst hb
        split
        · rename_i h; obtain ⟨rfl, rfl, rfl⟩ := h; exact absurd (by decide) hx
        split
        · rename_i h; obtain ⟨rfl, rfl, rfl⟩ := h; exact absurd (by decide) hx
        split
        · rename_i h
          obtain ⟨rfl, h, rfl⟩ := h
          simp only [opsN, List.mem_cons, List.not_mem_nil, or_false] at h
          rcases h with rfl | rfl <;> exact absurd (by decide) hx
        rfl
      · split
        · rename_i h
          obtain ⟨rfl, rfl, rfl, h⟩ := h
          simp only [opsE, List.mem_cons, List.not_mem_nil, or_false] at h
          rcases h with rfl | rfl <;> exact absurd (by decide) hx
        split
        · rename_i h; obtain ⟨rfl, rfl, rfl, rfl⟩ := h; exact absurd (by decide) hx
        split
        · rename_i h
          obtain ⟨rfl, rfl, h1, h⟩ := h
          simp only [units, List.mem_cons, List.not_mem_nil, or_false] at h
          rcases h1 with rfl | rfl <;> rcases h with rfl | rfl | rfl | rfl <;> exact absurd (by decide) hx
        rfl
    · rfl
theorem areB1 {a x : Int} (ha : a ≠ 0) : areB [a] [x] = decide (a = x) := by simp [areB, ha]
theorem areB2 {a b x y : Int} (ha : a ≠ 0) (hb : b ≠ 0) : areB [a, b] [x, y] = decide (a = x ∧ b = y) := by simp [areB, ha, hb]
theorem areB3 {a b c x y z : Int} (ha : a ≠ 0) (hb : b ≠ 0) (hc : c ≠ 0) : areB [a, b, c] [x, y, z] = decide (a = x ∧ b = y ∧ c = z) := by simp [areB, ha, hb, hc]
theorem areB_len {l m : List Int} (h : ¬ l.length = m.length) : areB l m = false := areB_no (fun h' => h (by rw [h'.1]))
theorem combR_eq (k n : Int) (s : Str) (ts : List Int) (hr : ∀ t ∈ ts, 0 ≤ t ∧ t ≤ 3) : combR k n s ts = combT k n s ts := by
  by_cases h0 : ts = []
  · subst h0; simp [combR, combT]
  by_cases hb : (0 : Int) ∈ ts ∨ ts.length > 3
  · rw [combR_bad k n s ts h0 hb]
    unfold combT
    rcases hb with hb | hb
    · simp [hb]
    · simp [show ts.length > 3 from hb]
  have hz : ¬ (0 : Int) ∈ ts := fun h => hb (.inl h)
  have hl : ¬ ts.length > 3 := fun h => hb (.inr h)
  unfold combR combT
  rw [if_neg h0, if_neg hl, if_neg hz, if_neg h0]
  by_cases hn : ¬ n = 0
  · rw [if_pos hn, if_pos hn]
  rw [if_neg hn, if_neg hn]
  match ts, h0, hl with
  | [a], _, _ =>
    have ha : a ≠ 0 := fun e => hz (by simp [e])
    have hra := hr a (by simp)
    simp only [List.getD_cons_zero, List.getD_cons_succ, List.getD_nil, sigI_eq, callR, binR, idx_mem, areB1 ha, areB_len (show ¬ [a].length = [(1 : Int), 1].length by simp), areB_len (show ¬ [a].length = [(3 : Int), 3].length by simp), areB_len (show ¬ [a].length = [(2 : Int), 2].length by simp), areB_len (show ¬ [a].length = [(3 : Int), 1].length by simp), decide_eq_true_eq]
    have hb0 : binT s a 0 = 0 := by
      unfold binT
      have h1 : ¬ (a = 0 ∧ a = 1) := fun h => ha h.1
      have h2 : ¬ (a = 0 ∧ ¬ a = 2) := fun h => ha h.1
      have h3 : ¬ (a = 0 ∧ a = 2) := fun h => ha h.1
      simp only [if_neg h1, if_neg h2, if_neg h3, ite_self]
    simp only [hb0, sigG, List.length_cons, List.length_nil, Bool.false_eq_true, and_false, or_self, if_false]
    grind (splits := 40)
  | [a, b], _, _ =>
    have ha : a ≠ 0 := fun e => hz (by simp [e])
    have hb : b ≠ 0 := fun e => hz (by simp [e])
    have hra := hr a (by simp)
    have hrb := hr b (by simp)
    simp only [List.getD_cons_zero, List.getD_cons_succ, List.getD_nil, sigI_eq, callR, binR_eq s a b ha hb (by omega) (by omega), idx_mem, areB2 ha hb, areB_len (show ¬ [a, b].length = [(1 : Int)].length by simp), areB_len (show ¬ [a, b].length = [(2 : Int)].length by simp), areB_len (show ¬ [a, b].length = [(3 : Int)].length by simp), decide_eq_true_eq]
    simp only [sigG, List.length_cons, List.length_nil, Bool.false_eq_true, and_false, or_self, if_false]
    grind (splits := 40)
  | [a, b, c], _, _ =>
    have ha : a ≠ 0 := fun e => hz (by simp [e])
    have hb : b ≠ 0 := fun e => hz (by simp [e])
    have hc : c ≠ 0 := fun e => hz (by simp [e])
    have hra := hr a (by simp)
    have hrb := hr b (by simp)
    have hrc := hr c (by simp)
    simp only [List.getD_cons_zero, List.getD_cons_succ, sigI_eq, callR, binR, idx_mem, areB3 ha hb hc, areB_len (show ¬ [a, b, c].length = [(1 : Int)].length by simp), areB_len (show ¬ [a, b, c].length = [(2 : Int)].length by simp), areB_len (show ¬ [a, b, c].length = [(3 : Int)].length by simp), areB_len (show ¬ [a, b, c].length = [(1 : Int), 1].length by simp), areB_len (show ¬ [a, b, c].length = [(3 : Int), 3].length by simp), areB_len (show ¬ [a, b, c].length = [(2 : Int), 2].length by simp), areB_len (show ¬ [a, b, c].length = [(3 : Int), 1].length by simp), decide_eq_true_eq]
    simp only [sigG, List.length_cons, List.length_nil, Bool.false_eq_true, and_false, or_self, if_false]
    grind (splits := 40)
  | _ :: _ :: _ :: _ :: _, _, hl => exact absurd (by simp) hl
end Go.Proofs.YtgpibcgebpgmiaaDoor


namespace Go.Proofs.YtgpibcgebpgmiaaDoor
open Go Go.Eng Go.RowKit
set_option linter.unusedVariables false

theorem leafN_range (k n : Int) (s : Str) : 0 ≤ leafN k n s ∧ leafN k n s ≤ 3 := by
  have h : 0 ≤ (fieldF s).2.1 ∧ (fieldF s).2.1 ≤ 3 := by
    unfold fieldF
    dsimp only
    split
    · simp
    · split <;> simp
  unfold leafN
  grind
theorem combT_range (k n : Int) (s : Str) (ts : List Int) (hr : ∀ t ∈ ts, 0 ≤ t ∧ t ≤ 3) : 0 ≤ combT k n s ts ∧ combT k n s ts ≤ 3 := by
  unfold combT
  split
  · omega
  split
  · omega
  split
  · exact leafN_range _ _ _
  split
  · omega
  have hg : ∀ i, 0 ≤ ts.getD i 0 ∧ ts.getD i 0 ≤ 3 := by
    intro i
    by_cases hi : i < ts.length
    · have := hr ts[i] (List.getElem_mem hi)
      simpa [List.getD, hi] using this
    · simp [List.getD, List.getElem?_eq_none (Nat.le_of_not_lt hi)]
  split
  · exact hg 1
  split
  · unfold binT
    split
    · split <;> omega
    split
    · split <;> omega
    split
    · split <;> omega
    · omega
  · rw [sigI_eq]
    unfold sigG
    grind
theorem typeT_range (x : Nd) : 0 ≤ typeT x ∧ typeT x ≤ 3 := by
  induction x using Nd.ind with
  | h k n s l ih =>
  rw [typeT_eq]
  refine combT_range _ _ _ _ (fun t ht => ?_)
  obtain ⟨y, hy, rfl⟩ := List.mem_map.1 ht
  exact ih y hy
theorem typeT_R (x : Nd) : typeT x = combR x.kind x.num x.word (x.kids.map typeT) := by
  rw [typeT_eq, combR_eq]
  intro t ht
  obtain ⟨y, hy, rfl⟩ := List.mem_map.1 ht
  exact typeT_range y

/-! ### nesting -/
def nestN : Nd → Nat
  | .mk k n s l => 1 + (l.map nestN).foldl max 0
theorem nestN_eq (x : Nd) : nestN x = 1 + (x.kids.map nestN).foldl max 0 := by
  cases x
  rw [nestN]
  rfl
theorem foldl_max_le (l : List Nat) : ∀ (m b : Nat), l.foldl max m ≤ b ↔ m ≤ b ∧ ∀ x ∈ l, x ≤ b := by
  induction l with
  | nil => intro m b; simp
  | cons y r ih =>
    intro m b
    rw [List.foldl_cons, ih]
    simp only [List.mem_cons, forall_eq_or_imp]
    constructor
    · rintro ⟨h1, h2⟩
      exact ⟨by omega, by omega, h2⟩
    · rintro ⟨h1, h2, h3⟩
      exact ⟨by omega, h3⟩
theorem nestedN_eq (m : Nat) : ∀ x : Nd, nestedN m x = decide (nestN x ≤ m) := by
  induction m with
  | zero =>
    intro x
    rw [nestN_eq]
    simp [nestedN]
  | succ m ih =>
    intro x
    rw [nestN_eq]
    have e : (1 + (x.kids.map nestN).foldl max 0 ≤ m + 1) ↔ ∀ y ∈ x.kids, nestN y ≤ m := by
      rw [show (1 + (x.kids.map nestN).foldl max 0 ≤ m + 1) ↔ (x.kids.map nestN).foldl max 0 ≤ m by omega, foldl_max_le]
      simp
    rw [Bool.eq_iff_iff, decide_eq_true_iff, e]
    simp only [nestedN, List.all_eq_true]
    exact ⟨fun h y hy => by have := h y hy; rw [ih] at this; simpa using this, fun h y hy => by rw [ih]; simpa using h y hy⟩
theorem nest_kid {x y : Nd} (h : y ∈ x.kids) : nestN y < nestN x := by
  rw [nestN_eq x]
  have := (foldl_max_le (x.kids.map nestN) 0 ((x.kids.map nestN).foldl max 0)).1 (Nat.le_refl _)
  have := this.2 (nestN y) (List.mem_map_of_mem h)
  omega
/-! ### types of nodes -/
theorem Of_any (X XF : List Nat) (v : Value) (x : Nd) (w : World) (hx : NdV X w v x) (hF : SlV XF w flds fieldNames) :
    Calls Tryd.prog 11 #[v] w (Ret fun r w' => r = .tuple #[.int .i64 (if nestN x ≤ 12 then typeT x else 0), .int .i64 (if nestN x ≤ 12 then (if typeT x = 0 then 21 else 0) else 2)] ∧ Stp [] w w') := by
  obtain ⟨kv, rfl, hs⟩ := hx
  refine calls_of_WC1 (n := 13) Tryd.func11 rfl rfl rfl ?_
  refine W ?_
  refine WL_eff (OE_box rfl) rfl ?_
  rintro _ w1 ⟨b, rfl, hbb, hblk, hS⟩
  replace hblk : Blk w1 b _ (ndC x kv) := hblk
  replace hs := hs.up hS; replace hF := hF.up hS
  refine W ?_
  refine WL_eff (OE_call rfl (evs2 rfl rfl) (nested_any 12 X _ x 12 _ rfl (by omega) ⟨kv, rfl, hs⟩)) rfl ?_
  rintro _ w2 ⟨rfl, hS2⟩
  replace hs := hs.up hS2; replace hF := hF.up hS2; replace hblk := hblk.up hS2
  replace hS := hS.trans hS2
  rw [nestedN_eq]
  by_cases hn : nestN x ≤ 12
  · rw [decide_eq_true hn, if_pos hn, if_pos hn]
    refine W ?_
    refine WL_eff (OE_call rfl (evs1 rfl) (of_any x X XF _ _ ⟨kv, rfl, hs⟩ hF)) rfl ?_
    rintro _ w3 ⟨rfl, hS3⟩
    replace hS := hS.trans hS3
    repeat' (first | refine W1 ?_ | (exfalso; omega) | refine WL_split rfl rfl (fun hg => ?_) (fun hg => ?_) | refine WL_splitB rfl rfl (fun hg => ?_) (fun hg => ?_) | refine WC_cond rfl (fun hc => ?_) (fun hc => ?_) | refine WC_condB rfl (fun hc => ?_) (fun hc => ?_))
    · first | refine WQ_ret1 rfl rfl ?_ | refine WQ_ret2 rfl rfl rfl ?_ | refine WQ_ret3 rfl rfl rfl rfl ?_ | refine WQ_ret0 rfl ?_ | refine WQ_end0 rfl ?_
      exact .mk ⟨by rw [if_neg hc], hS⟩
    · first | refine WQ_ret1 rfl rfl ?_ | refine WQ_ret2 rfl rfl rfl ?_ | refine WQ_ret3 rfl rfl rfl rfl ?_ | refine WQ_ret0 rfl ?_ | refine WQ_end0 rfl ?_
      have h0 : typeT x = 0 := by omega
      exact .mk ⟨by rw [if_pos h0, h0], hS⟩
  · rw [decide_eq_false hn, if_neg hn, if_neg hn]
    refine W ?_
    first | refine WQ_ret1 rfl rfl ?_ | refine WQ_ret2 rfl rfl rfl ?_ | refine WQ_ret3 rfl rfl rfl rfl ?_ | refine WQ_ret0 rfl ?_ | refine WQ_end0 rfl ?_
    exact .mk ⟨rfl, hS⟩
end Go.Proofs.YtgpibcgebpgmiaaDoor


namespace Go.Proofs.YtgpibcgebpgmiaaDoor
open Go Go.Eng Go.RowKit
set_option linter.unusedVariables false

end Go.Proofs.YtgpibcgebpgmiaaDoor


namespace Go.Proofs.YtgpibcgebpgmiaaDoor
open Go Go.Eng Go.RowKit
set_option linter.unusedVariables false

end Go.Proofs.YtgpibcgebpgmiaaDoor


namespace Go.Proofs.YtgpibcgebpgmiaaDoor
open Go Go.Eng Go.RowKit
set_option linter.unusedVariables false

/-- the number of nodes -/
def sizeN : Nd → Nat
  | .mk k n s l => 1 + (l.map sizeN).sum
theorem sizeN_eq (x : Nd) : sizeN x = 1 + (x.kids.map sizeN).sum := by
  cases x
  rw [sizeN]
  rfl
theorem sum_le_of_mem {l : List Nat} {a : Nat} (h : a ∈ l) : a ≤ l.sum := by
  induction l with
  | nil => cases h
  | cons x r ih =>
    rw [List.sum_cons]
    rcases List.mem_cons.1 h with rfl | h
    · omega
    · have := ih h; omega
theorem size_kid {x y : Nd} (h : y ∈ x.kids) : sizeN y < sizeN x := by
  rw [sizeN_eq x]
  have := sum_le_of_mem (List.mem_map_of_mem (f := sizeN) h)
  omega
theorem size_pos (x : Nd) : 1 ≤ sizeN x := by rw [sizeN_eq]; omega
/-! ### what a node with a type looks like -/
theorem typed_kids {x : Nd} (h : typeT x ≠ 0) : x.kids.length ≤ 3 ∧ ∀ y ∈ x.kids, typeT y ≠ 0 := by
  rw [typeT_eq] at h
  unfold combT at h
  refine ⟨?_, fun y hy e => ?_⟩
  · by_cases hl : (x.kids.map typeT).length > 3
    · rw [if_pos hl] at h; exact absurd rfl h
    · simpa using hl
  · by_cases hl : (x.kids.map typeT).length > 3
    · rw [if_pos hl] at h; exact absurd rfl h
    · rw [if_neg hl, if_pos (by rw [← e]; exact List.mem_map_of_mem hy)] at h
      exact absurd rfl h
def opsF : List Str := [[110, 101, 120, 116], [112, 114, 101, 118], [108, 97, 116, 101, 114], [101, 97, 114, 108, 105, 101, 114], [98, 101, 116, 119, 101, 101, 110]]
/-- the shapes of a node with kids -/
inductive Shape (k : Int) (s : Str) (m : Nat) : Prop
  | neg (h : k = 5) (hs : s = [45] ∨ s = [110, 111, 116]) (hm : m = 1)
  | bin (h : k = 6) (hs : s ∈ opsA ∨ s ∈ opsC ∨ s ∈ opsL) (hm : m = 2)
  | unit (h : k = 7 ∨ k = 8) (hs : s ∈ units) (hm : m = 2)
  | cond (h : k = 9) (hm : m = 3)
  | call (h : k = 10) (hs : s ∈ opsF) (hm : 1 ≤ m ∧ m ≤ 2)
theorem typed_shape {x : Nd} (h : typeT x ≠ 0) (hk : x.kids ≠ []) : x.num = 0 ∧ Shape x.kind x.word x.kids.length := by
  have hl := (typed_kids h).1
  rw [typeT_R] at h
  have hlen : (x.kids.map typeT).length = x.kids.length := by simp
  have hne : ¬ x.kids.map typeT = [] := by simpa using hk
  generalize x.kids.map typeT = ts at *
  rw [← hlen]
  unfold combR at h
  rw [if_neg hne] at h
  have hn : x.num = 0 := Decidable.byContradiction (fun hn => by rw [if_pos hn] at h; exact absurd rfl h)
  refine ⟨hn, ?_⟩
  rw [if_neg (by simpa using hn)] at h
  have hlm : ∀ m : List Int, areB ts m = true → ts.length = m.length := fun m hm => by rw [(areB_iff.1 hm).1]
  by_cases k5 : x.kind = 5
  · rw [if_pos k5] at h
    split at h
    · rename_i hh
      rcases hh with ⟨h1, h2⟩ | ⟨h1, h2⟩
      · exact .neg k5 (.inl h1) (hlm _ h2)
      · exact .neg k5 (.inr h1) (hlm _ h2)
    · exact absurd rfl h
  rw [if_neg k5] at h
  by_cases k6 : x.kind = 6
  · rw [if_pos k6] at h
    unfold binR at h
    simp only [idx_mem] at h
    split at h
    · rename_i hh; exact .bin k6 (.inl hh.1) (hlm _ hh.2)
    split at h
    · rename_i hh
      rcases hh.2 with h2 | h2
      · exact .bin k6 (.inr (.inl hh.1)) (hlm _ h2)
      · exact .bin k6 (.inr (.inl hh.1)) (hlm _ h2)
    split at h
    · rename_i hh; exact .bin k6 (.inr (.inr hh.1)) (hlm _ hh.2)
    · exact absurd rfl h
  rw [if_neg k6] at h
  by_cases k78 : x.kind = 7 ∨ x.kind = 8
  · rw [if_pos k78] at h
    simp only [idx_mem] at h
    split at h
    · rename_i hh; exact .unit k78 hh.1 (hlm _ hh.2)
    · exact absurd rfl h
  rw [if_neg k78] at h
  by_cases k9 : x.kind = 9
  · rw [if_pos k9] at h
    split at h
    · rename_i hh; exact .cond k9 hh.2.1
    · exact absurd rfl h
  rw [if_neg k9] at h
  by_cases k10 : x.kind = 10
  · rw [if_pos k10] at h
    unfold callR at h
    simp only [idx_mem] at h
    split at h
    · rename_i hh
      refine .call k10 ?_ (by have := hlm _ hh.2; simp at this; omega)
      have := hh.1
      simp only [opsN, opsF, List.mem_cons, List.not_mem_nil, or_false] at this ⊢
      rcases this with h | h <;> simp [h]
    split at h
    · rename_i hh
      refine .call k10 ?_ (by have := hlm _ hh.2; simp at this; omega)
      have := hh.1
      simp only [opsE, opsF, List.mem_cons, List.not_mem_nil, or_false] at this ⊢
      rcases this with h | h <;> simp [h]
    split at h
    · rename_i hh
      refine .call k10 ?_ (by have := hlm _ hh.2; simp at this; omega)
      simp [opsF, hh.1]
    · exact absurd rfl h
  rw [if_neg k10] at h
  exact absurd rfl h
theorem typed_leaf {x : Nd} (h : typeT x ≠ 0) (hk : x.kids = []) : 1 ≤ x.kind ∧ x.kind ≤ 4 := by
  rw [typeT_eq, hk] at h
  simp [combT] at h
  unfold leafN at h
  grind
end Go.Proofs.YtgpibcgebpgmiaaDoor


namespace Go.Eng
open Go
structure Ins where
  op : Int
  n : Int
  deriving DecidableEq, Inhabited
instance : Flat Ins where
  k := 2
  enc := fun x => [.int .i64 x.op, .int .i64 x.n]
  len := fun _ => rfl
  one := by intro x u hu; simp at hu; rcases hu with rfl | rfl <;> rfl
/-- the value of a struct -/
def agg {α : Type} [Flat α] (x : α) : Value := .agg (Flat.enc x).toArray
theorem Row.keep {β : Type} [Flat β] {X S : List Nat} {w w' : World} {base T : Nat} {v : Value} {xs : List β} (h : Row X w base T v xs) (hS : Stp S w w') (hd : ∀ b ∈ S, b ∉ ob v) : Row X w' base T v xs := by
  have h' : Row S w base T v xs := h
  have := h'.ext (X' := X) hS (fun b hb => ⟨hb, hd b hb⟩)
  obtain ⟨css, h1, h2, h3⟩ := h
  refine ⟨css, h1, h2, ?_⟩
  have h4 : Row S w base T v xs := ⟨css, h1, h2, h3⟩
  obtain ⟨ho, hr⟩ := h3
  refine ⟨ho, ?_⟩
  rcases hr with hn | ⟨q, cap, cur, rfl, hb, hg, rest⟩
  · exact .inl hn
  · refine .inr ⟨q, cap, cur, rfl, hb, ?_, rest⟩
    rw [hS.block q (Array.getElem?_eq_some_iff.1 hg).1 (fun hq => hd q hq (by simp [ob]))]
    exact hg
end Go.Eng
namespace Go.Proofs.YtgpibcgebpgmiaaDoor
open Go Go.Eng Go.RowKit
set_option linter.unusedVariables false

theorem buildI (a b : Int) (w : World) : (Instr.build 59 #[(0, .int .i64 a), (1, .int .i64 b)]).run Tryd.prog w = .ok (agg (Ins.mk a b)) w := by kernel_rfl
theorem buildI0 (a : Int) (w : World) : (Instr.build 59 #[(0, .int .i64 a)]).run Tryd.prog w = .ok (agg (Ins.mk a 0)) w := by kernel_rfl
theorem buildSI (d : Ins) (w : World) : (Instr.buildSlice 40 1 #[(0, agg d)]).run Tryd.prog w = .ok (.slice (some ⟨w.heap.size, 0, none⟩) 1 1) (w.alloc (.cells (Flat.enc d).toArray 59)) := by kernel_rfl

/-- a coder: its block, its row of code -/
structure Cod (w : World) (bc base : Nat) (v : Value) (xs : List Ins) : Prop where
  blk : Blk w bc 106 [v]
  row : Row [] w base 59 v xs
  apart : bc ∉ ob v
  low : bc < base
  top : base ≤ w.heap.size
/-- what a method of the coder leaves -/
def Cods (w : World) (bc base : Nat) (v : Value) (ys : List Ins) (w' : World) : Prop :=
  ∃ v', Cod w' bc base v' ys ∧ Stp (bc :: ob v) w w' ∧ ∀ b ∈ ob v', b ∈ ob v ∨ w.heap.size ≤ b
theorem Cod.up {w w' : World} {bc base : Nat} {v : Value} {xs : List Ins} (h : Cod w bc base v xs) (hS : Stp [] w w') : Cod w' bc base v xs :=
  ⟨h.blk.up hS, h.row.up hS, h.apart, h.low, Nat.le_trans h.top hS.size⟩
theorem Cods.pre {w0 w w' : World} {bc base : Nat} {v : Value} {ys : List Ins} (hS : Stp [] w0 w) (h : Cods w bc base v ys w') : Cods w0 bc base v ys w' := by
  obtain ⟨v', h1, h2, h3⟩ := h
  exact ⟨v', h1, (hS.mono (by simp)).trans h2, fun b hb => (h3 b hb).imp id (fun h => Nat.le_trans hS.size h)⟩
theorem Cods.post {w w1 w' : World} {bc base : Nat} {v : Value} {ys : List Ins} (h : Cods w bc base v ys w1) (hS : Stp [] w1 w') : Cods w bc base v ys w' := by
  obtain ⟨v', h1, h2, h3⟩ := h
  exact ⟨v', h1.up hS, h2.trans (hS.mono (by simp)), h3⟩
/-- one after another -/
theorem Cods.next {w w1 w2 : World} {bc base : Nat} {v v1 : Value} {zs : List Ins} (hS : Stp (bc :: ob v) w w1) (hb : ∀ b ∈ ob v1, b ∈ ob v ∨ w.heap.size ≤ b) (h : Cods w1 bc base v1 zs w2) : Cods w bc base v zs w2 := by
  obtain ⟨v', h1, h2, h3⟩ := h
  refine ⟨v', h1, ?_, fun b hb' => ?_⟩
  · exact hS.own h2 (fun b hb' => by
      rcases List.mem_cons.1 hb' with rfl | h
      · exact .inl (by simp)
      · exact (hb b h).imp (fun h => List.mem_cons_of_mem _ h) id)
  · rcases h3 b hb' with h | h
    · exact hb b h
    · exact .inr (Nat.le_trans hS.size h)
/-- what is not the coder's stays -/
theorem keepX {w w' : World} {bc : Nat} {v v' : Value} {α : Type} [GoRep α] {u : Value} {xs : List α} (h : SlV (bc :: ob v) w u xs) (hS : Stp (bc :: ob v) w w') (hb : ∀ b ∈ ob v', b ∈ ob v ∨ w.heap.size ≤ b) : SlV (bc :: ob v') w' u xs :=
  h.ext hS (fun _ h => h) (fun b hb' => by
    rcases List.mem_cons.1 hb' with rfl | h
    · exact .inl (by simp)
    · exact (hb b h).imp (fun h => List.mem_cons_of_mem _ h) id)
theorem put_any (bc base : Nat) (v : Value) (xs : List Ins) (op n : Int) (w : World) (hc : Cod w bc base v xs) (hl : xs.length ≤ 1000000) :
    Calls Tryd.prog 69 #[.pointer (some ⟨bc, 0, none⟩), .int .i64 op, .int .i64 n] w (Ret fun r w' => r = .int .i64 (xs.length : Int) ∧ Cods w bc base v (xs ++ [⟨op, n⟩]) w') := by
  obtain ⟨hblk, hrow, hap, hlow, htop⟩ := hc
  refine calls_of_WC3 (n := 25) Tryd.func69 rfl rfl rfl ?_
  refine W ?_
  apply WL_build (vs := [(0, .int .i64 op), (1, .int .i64 n)]) rfl (buildI _ _) rfl
  refine WL_eff (OE_buildSlice (vs := [(0, agg (Ins.mk op n))]) rfl (buildSI _)) rfl ?_
  rintro bv w1 hN
  have hbv : SlV (ob v ++ []) w1 bv [Ins.mk op n] := hN.slv (fun b hb => (hrow.ob_le b (by simpa using hb)).2) rfl rfl (by simp [maxLen])
  have hS1 := NewSl.stp hN
  clear hN
  have hrow1 := hrow.up hS1
  have hblk1 := hblk.up hS1
  have h1 := hS1.size
  refine WL_eff (OE_append (X := []) (base := base) rfl (by decide) rfl rfl hrow1 hbv (by simp only [List.length_cons, List.length_nil]; omega) (by simp only [List.length_cons, List.length_nil, maxLen]; omega) (by omega)) rfl ?_
  rintro v' w2 ⟨hrow2, hS2, hob⟩
  have hblk2 := hblk1.ext hS2 hap
  have hbl := hblk1.lt
  refine W ?_
  refine WL_eff0 (OE_store1 (u := v') rfl rfl hrow2.slv0.cells hrow2.slv0.one hblk2 (by simp)) ?_
  rintro _ w3 ⟨hS3, hblk3⟩
  replace hblk3 : Blk w3 bc 106 [v'] := hblk3
  have hap' : bc ∉ ob v' := fun hb => by
    rcases hob bc hb with h | h
    · exact hap h
    · omega
  have hrow3 := hrow2.keep hS3 (fun b hb => by simp at hb; subst hb; exact hap')
  have hs3 := hrow3.slv0
  have hll : (xs ++ [Ins.mk op n]).length ≤ 1000001 := by simp only [List.length_append, List.length_cons, List.length_nil]; omega
  refine W ?_
  first | refine WQ_ret1 rfl rfl ?_ | refine WQ_ret2 rfl rfl rfl ?_ | refine WQ_ret3 rfl rfl rfl rfl ?_ | refine WQ_ret0 rfl ?_ | refine WQ_end0 rfl ?_
  refine .mk ⟨?_, v', ⟨hblk3, hrow3, hap', hlow, ?_⟩, ?_, ?_⟩
  · simp only [List.length_append, List.length_cons, List.length_nil]
    congr 1
    omega
  · exact Nat.le_trans htop (Nat.le_trans h1 (Nat.le_trans hS2.size hS3.size))
  · exact ((hS1.mono (by simp)).trans (hS2.mono (fun x hx => by simp [hx]))).trans (hS3.mono (fun x hx => by simp at hx; simp [hx]))
  · intro b hb
    rcases hob b hb with h | h
    · exact .inl h
    · exact .inr (by omega)
end Go.Proofs.YtgpibcgebpgmiaaDoor


namespace Go.Proofs.YtgpibcgebpgmiaaDoor
open Go Go.Eng Go.RowKit
set_option linter.unusedVariables false

theorem here_any (bc base : Nat) (v : Value) (xs : List Ins) (k : Nat) (w : World) (hc : Cod w bc base v xs) (hk : k < xs.length) (hl : xs.length ≤ 1000000) :
    Calls Tryd.prog 121 #[.pointer (some ⟨bc, 0, none⟩), .int .i64 (k : Int)] w (Ret fun r w' => Cods w bc base v (xs.set k ⟨xs[k].op, (xs.length : Int)⟩) w') := by
  obtain ⟨hblk, hrow, hap, hlow, htop⟩ := hc
  refine calls_of_WC2 (n := 16) Tryd.func121 rfl rfl rfl ?_
  refine W ?_
  refine WC_drawn 13 [] [12] [(0, 0), (1, 0), (2, 0), (3, 1), (4, 0), (5, 0), (6, 0), (7, 0), (8, 1), (9, 0), (10, 0), (11, 0), (12, 2)] rfl mixed (by kernel_rfl) (by kernel_rfl) (by kernel_rfl) (fun w1 hS1 => ?_)
  replace hblk := hblk.up hS1
  replace hrow := hrow.up hS1
  have hs := hrow.slv0
  have hsz := hS1.size
  refine D ?_
  refine WD_late0 rfl trivial (OE_storeF (β := Ins) (i := k) (y' := ⟨xs[k].op, (xs.length : Int)⟩) rfl rfl rfl rfl rfl hrow hk (by decide) rfl) rfl ?_
  rintro _ w2 ⟨hrow2, hS2⟩
  refine D ?_
  refine W ?_
  first | refine WQ_ret1 rfl rfl ?_ | refine WQ_ret2 rfl rfl rfl ?_ | refine WQ_ret3 rfl rfl rfl rfl ?_ | refine WQ_ret0 rfl ?_ | refine WQ_end0 rfl ?_
  refine .mk ⟨v, ⟨hblk.ext hS2 hap, hrow2, hap, hlow, by have := hS2.size; omega⟩, ?_, fun b hb => .inl hb⟩
  exact (hS1.mono (by simp)).trans (hS2.mono (fun x hx => by simp [hx]))

/-- the coder on its way from w0 -/
structure Fr (w0 w : World) (bc base : Nat) (v0 v : Value) (xs : List Ins) : Prop where
  cod : Cod w bc base v xs
  stp : Stp (bc :: ob v0) w0 w
  sub : ∀ b ∈ ob v, b ∈ ob v0 ∨ w0.heap.size ≤ b
theorem Fr.start {w : World} {bc base : Nat} {v : Value} {xs : List Ins} (h : Cod w bc base v xs) : Fr w w bc base v v xs := ⟨h, Stp.refl _ _, fun b hb => .inl hb⟩
theorem Fr.step {w0 w w' : World} {bc base : Nat} {v0 v : Value} {xs ys : List Ins} (h : Fr w0 w bc base v0 v xs) (k : Cods w bc base v ys w') : ∃ v', Fr w0 w' bc base v0 v' ys := by
  obtain ⟨v', h1, h2, h3⟩ := Cods.next h.stp h.sub k
  exact ⟨v', h1, h2, h3⟩
theorem Fr.up {w0 w w' : World} {bc base : Nat} {v0 v : Value} {xs : List Ins} (h : Fr w0 w bc base v0 v xs) (hS : Stp [] w w') : Fr w0 w' bc base v0 v xs := ⟨h.cod.up hS, h.stp.trans (hS.mono (by simp)), h.sub⟩
theorem Fr.fin {w0 w : World} {bc base : Nat} {v0 v : Value} {xs : List Ins} (h : Fr w0 w bc base v0 v xs) : Cods w0 bc base v0 xs w := ⟨v, h.cod, h.stp, h.sub⟩
theorem Fr.sl {w0 w : World} {bc base : Nat} {v0 v : Value} {xs : List Ins} {α : Type} [GoRep α] {u : Value} {ys : List α} (h : Fr w0 w bc base v0 v xs) (hs : SlV (bc :: ob v0) w0 u ys) : SlV (bc :: ob v) w u ys := keepX hs h.stp h.sub
theorem Fr.bk {w0 w : World} {bc base b T : Nat} {v0 v : Value} {xs : List Ins} {cs : List Value} (h : Fr w0 w bc base v0 v xs) (hb : Blk w0 b T cs) (hn : b ∉ bc :: ob v0) : Blk w b T cs := hb.ext h.stp hn
abbrev Cf := Nat → List Ins
/-- the code of a condition and two cases -/
def chC (c y n : Cf) (p0 : Nat) : List Ins :=
  c p0 ++ [⟨14, ((p0 + (c p0).length + 1 + (y (p0 + (c p0).length + 1)).length + 1 : Nat) : Int)⟩] ++ y (p0 + (c p0).length + 1) ++
    [⟨13, ((p0 + (c p0).length + 1 + (y (p0 + (c p0).length + 1)).length + 1 + (n (p0 + (c p0).length + 1 + (y (p0 + (c p0).length + 1)).length + 1)).length : Nat) : Int)⟩] ++ n (p0 + (c p0).length + 1 + (y (p0 + (c p0).length + 1)).length + 1)
/-- 'expression' puts this code behind what is there -/
def ExprOk (x : Nd) (f : Cf) : Prop := ∀ (w : World) (bc base : Nat) (v nv : Value) (xs : List Ins), Cod w bc base v xs → NdV (bc :: ob v) w nv x → SlV (bc :: ob v) w flds fieldNames → xs.length + (f xs.length).length ≤ 100000 →
  Calls Tryd.prog 68 #[.pointer (some ⟨bc, 0, none⟩), nv] w (Ret fun r w' => Cods w bc base v (xs ++ f xs.length) w')

theorem choice_any {x y n : Nd} {f g h : Cf} (hx : ExprOk x f) (hy : ExprOk y g) (hn : ExprOk n h) (w : World) (bc base : Nat) (v xv yv nv : Value) (xs : List Ins) (hc : Cod w bc base v xs)
    (gx : NdV (bc :: ob v) w xv x) (gy : NdV (bc :: ob v) w yv y) (gn : NdV (bc :: ob v) w nv n) (hF : SlV (bc :: ob v) w flds fieldNames) (hl : xs.length + (chC f g h xs.length).length ≤ 100000) :
    Calls Tryd.prog 94 #[.pointer (some ⟨bc, 0, none⟩), xv, yv, nv] w (Ret fun r w' => Cods w bc base v (xs ++ chC f g h xs.length) w') := by
  have hl' := hl
  unfold chC at hl'
  simp only [List.length_append, List.length_cons, List.length_nil] at hl'
  obtain ⟨xk, rfl, sx⟩ := gx
  obtain ⟨yk, rfl, sy⟩ := gy
  obtain ⟨nk, rfl, sn⟩ := gn
  refine calls_of_WC4 (n := 29) Tryd.func94 rfl rfl rfl ?_
  refine W ?_
  refine WL_eff (OE_box rfl) rfl ?_
  rintro _ w1 ⟨b1, rfl, hb1, k1, hS1⟩
  replace k1 : Blk w1 b1 _ (ndC x xk) := k1
  refine WL_eff (OE_box rfl) rfl ?_
  rintro _ w2 ⟨b2, rfl, hb2, k2, hS2⟩
  replace k2 : Blk w2 b2 _ (ndC y yk) := k2
  refine WL_eff (OE_box rfl) rfl ?_
  rintro _ w3 ⟨b3, rfl, hb3, k3, hS3⟩
  replace k3 : Blk w3 b3 _ (ndC n nk) := k3
  have hS := (hS1.trans hS2).trans hS3
  have l1 := k1.lt
  have l2 := k2.lt
  have l3 := k3.lt
  replace k1 := (k1.up hS2).up hS3
  replace k2 := k2.up hS3
  have hobv : ∀ b ∈ bc :: ob v, b < w.heap.size := fun b hb => by
    rcases List.mem_cons.1 hb with rfl | h
    · exact hc.blk.lt
    · exact (hc.row.ob_le b h).2
  have n1 : b1 ∉ bc :: ob v := fun h => by have := hobv _ h; omega
  have n2 : b2 ∉ bc :: ob v := fun h => by have := hobv _ h; omega
  have n3 : b3 ∉ bc :: ob v := fun h => by have := hobv _ h; omega
  replace hc := hc.up hS
  replace sx := sx.up hS
  replace sy := sy.up hS
  replace sn := sn.up hS
  replace hF := hF.up hS
  have l1 := k1.lt
  have l2 := k2.lt
  have l3 := k3.lt
  have main : ∀ ys w', Cods w3 bc base v ys w' → Cods w bc base v ys w' := fun ys w' h => h.pre hS
  refine W ?_
  have fr := Fr.start hc
  refine WL_eff (OE_call rfl (evs2 rfl rfl) (hx _ bc base _ _ _ fr.cod ⟨xk, rfl, fr.sl sx⟩ (fr.sl hF) (by omega))) rfl ?_
  rintro _ w4 hq
  obtain ⟨v4, fr⟩ := fr.step hq
  refine W ?_
  refine WL_eff (OE_call rfl (evs3 rfl rfl rfl) (put_any bc base _ _ 14 0 _ fr.cod (by simp only [List.length_append]; omega))) rfl ?_
  rintro _ w5 ⟨rfl, hq⟩
  obtain ⟨v5, fr⟩ := fr.step hq
  have q2 := fr.bk k2 n2
  refine W ?_
  have e1 : (xs ++ f xs.length ++ [(⟨14, 0⟩ : Ins)]).length = xs.length + (f xs.length).length + 1 := by simp only [List.length_append, List.length_cons, List.length_nil]
  refine WL_eff (OE_call rfl (evs2 rfl rfl) (hy _ bc base _ _ _ fr.cod ⟨yk, rfl, fr.sl sy⟩ (fr.sl hF) (by rw [e1]; omega))) rfl ?_
  rintro _ w6 hq
  obtain ⟨v6, fr⟩ := fr.step hq
  rw [e1] at fr
  refine W ?_
  refine WL_eff (OE_call rfl (evs3 rfl rfl rfl) (put_any bc base _ _ 13 0 _ fr.cod (by simp only [List.length_append, List.length_cons, List.length_nil]; omega))) rfl ?_
  rintro _ w7 ⟨rfl, hq⟩
  obtain ⟨v7, fr⟩ := fr.step hq
  refine W ?_
  have hch := chC.eq_1 f g h xs.length
  generalize hA : f xs.length = A at *
  generalize hp : xs.length + A.length + 1 = p at *
  generalize hB : g p = B at *
  generalize hqq : p + B.length + 1 = q at *
  generalize hD : h q = D at *
  have e2 : ((xs ++ A).length : Int) = ((xs.length + A.length : Nat) : Int) := by simp only [List.length_append]
  rw [e2]
  refine WL_eff (OE_call rfl (evs2 rfl rfl) (here_any bc base _ _ (xs.length + A.length) _ fr.cod (by simp only [List.length_append, List.length_cons, List.length_nil]; omega) (by simp only [List.length_append, List.length_cons, List.length_nil]; omega))) rfl ?_
  rintro _ w8 hq
  obtain ⟨v8, fr⟩ := fr.step hq
  have e3 : ∀ (l : List Ins) (h : xs.length + A.length < l.length), l = xs ++ A ++ [⟨14, 0⟩] ++ B ++ [⟨13, 0⟩] → l.set (xs.length + A.length) ⟨l[xs.length + A.length].op, (l.length : Int)⟩ = xs ++ A ++ [⟨14, (q : Int)⟩] ++ B ++ [⟨13, 0⟩] := by
    intro l h hl
    have hop : l[xs.length + A.length].op = 14 := by
      have : l[xs.length + A.length]? = some ⟨14, 0⟩ := by
        rw [hl]
        simp
      rw [List.getElem?_eq_getElem h] at this
      rw [Option.some.inj this]
    have hlen : (l.length : Int) = (q : Int) := by
      rw [hl]
      simp only [List.length_append, List.length_cons, List.length_nil]
      omega
    rw [hop, hlen, hl]
    simp
  rw [e3 _ _ rfl] at fr
  have q3 := fr.bk k3 n3
  refine W ?_
  have e4 : (xs ++ A ++ [(⟨14, (q : Int)⟩ : Ins)] ++ B ++ [(⟨13, 0⟩ : Ins)]).length = q := by simp only [List.length_append, List.length_cons, List.length_nil]; omega
  refine WL_eff (OE_call rfl (evs2 rfl rfl) (hn _ bc base _ _ _ fr.cod ⟨nk, rfl, fr.sl sn⟩ (fr.sl hF) (by rw [e4, hD]; omega))) rfl ?_
  rintro _ w9 hq
  obtain ⟨v9, fr⟩ := fr.step hq
  rw [e4, hD] at fr
  refine W ?_
  have e5 : ((xs ++ A ++ [(⟨14, 0⟩ : Ins)] ++ B).length : Int) = ((p + B.length : Nat) : Int) := by simp only [List.length_append, List.length_cons, List.length_nil]; omega
  rw [e5]
  refine WL_eff (OE_call rfl (evs2 rfl rfl) (here_any bc base _ _ (p + B.length) _ fr.cod (by simp only [List.length_append, List.length_cons, List.length_nil]; omega) (by simp only [List.length_append, List.length_cons, List.length_nil]; omega))) rfl ?_
  rintro _ w10 hq
  obtain ⟨v10, fr⟩ := fr.step hq
  rw [hch]
  have e6 : ∀ (l : List Ins) (hl : p + B.length < l.length), l = xs ++ A ++ [⟨14, (q : Int)⟩] ++ B ++ [⟨13, 0⟩] ++ D → l.set (p + B.length) ⟨l[p + B.length].op, (l.length : Int)⟩ = xs ++ (A ++ [⟨14, (q : Int)⟩] ++ B ++ [⟨13, ((q + D.length : Nat) : Int)⟩] ++ D) := by
    intro l h hl
    have e7 : (xs ++ A ++ [(⟨14, (q : Int)⟩ : Ins)] ++ B).length = p + B.length := by simp only [List.length_append, List.length_cons, List.length_nil]; omega
    have hl2 : l = (xs ++ A ++ [⟨14, (q : Int)⟩] ++ B) ++ ⟨13, 0⟩ :: D := by rw [hl]; simp
    have hop : l[p + B.length].op = 13 := by
      have : l[p + B.length]? = some ⟨13, 0⟩ := by
        rw [hl2, List.getElem?_append_right (by omega), e7]
        simp
      rw [List.getElem?_eq_getElem h] at this
      rw [Option.some.inj this]
    have hlen : (l.length : Int) = ((q + D.length : Nat) : Int) := by
      rw [hl2, List.length_append, e7]
      simp only [List.length_cons]
      omega
    rw [hop, hlen, hl2, List.set_append_right _ _ (by omega), e7]
    simp
  rw [e6 _ _ rfl] at fr
  refine W ?_
  first | refine WQ_ret1 rfl rfl ?_ | refine WQ_ret2 rfl rfl rfl ?_ | refine WQ_ret3 rfl rfl rfl rfl ?_ | refine WQ_ret0 rfl ?_ | refine WQ_end0 rfl ?_
  exact .mk (main _ _ fr.fin)
end Go.Proofs.YtgpibcgebpgmiaaDoor


namespace Go.Proofs.YtgpibcgebpgmiaaDoor
open Go Go.Eng Go.RowKit
set_option linter.unusedVariables false

/-- a map from strings to slices of numbers -/
def MapS (X : List Nat) (w : World) (r : Nat) (es : List (Str × List Int)) : Prop :=
  ∃ l : List (Str × Value), MapAt str w r l ∧ l.length = es.length ∧ ∀ i (h : i < l.length) (h' : i < es.length), l[i].1 = es[i].1 ∧ SlV (r :: X) w l[i].2 es[i].2
theorem MapS.up {X : List Nat} {w w' : World} {r : Nat} {es : List (Str × List Int)} (h : MapS X w r es) (hS : Stp [] w w') : MapS X w' r es := by
  obtain ⟨l, h1, h2, h3⟩ := h
  exact ⟨l, h1.up hS, h2, fun i h h' => ⟨(h3 i h h').1, (h3 i h h').2.up hS⟩⟩
theorem OE_insertS {P : Program} {n : Nat} {e : Env} {w : World} {d : Option Nat} {ty : TypeId} {pos : String} {af : Array Edge} {g : Option (Nat × Bool)} {mt kt et r : Nat} {x y z : Operand} [hm : Und P mt (.map kt et)] [hk : Und P kt .string] {X : List Nat} {es : List (Str × List Int)} {a : Str} {v : Value} {xs : List Int} (hx : ev e x = some (.map (some r))) (hy : ev e y = some (str a)) (hz : ev e z = some v)
    (hr : MapS X w r es) (hv : SlV (r :: X) w v xs) (hn : ∀ p ∈ es, ¬ p.1 = a) : OE P n ⟨d, .insert mt x y z, ty, pos, af, g⟩ e w (fun _ w' => MapS X w' r (es ++ [(a, xs)]) ∧ Stp [r] w w') := by
  obtain ⟨l, h1, h2, h3⟩ := hr
  have hfr : ∀ p ∈ l, ¬ p.1 = a := by
    intro p hp
    obtain ⟨i, hi, rfl⟩ := List.getElem_of_mem hp
    rw [(h3 i hi (by omega)).1]
    exact hn _ (List.getElem_mem _)
  refine (OE_insert (K := inferInstance) hx hy hz h1 hfr).mono ?_
  rintro _ w' ⟨g1, g2⟩
  refine ⟨⟨_, g1, by simp [h2], fun i h h' => ?_⟩, g2⟩
  by_cases hi : i < l.length
  · have hi' : i < es.length := by omega
    rw [List.getElem_append_left hi, List.getElem_append_left hi']
    exact ⟨(h3 i hi hi').1, (h3 i hi hi').2.on g2 (by simp)⟩
  · have hil : i = l.length := by simp at h; omega
    subst hil
    rw [List.getElem_append_right (Nat.le_refl _), List.getElem_append_right (by omega)]
    simp only [Nat.sub_self, h2, List.getElem_cons_zero]
    exact ⟨trivial, hv.on g2 (by simp)⟩
def opEs : List (Str × List Int) := [([43], [5]), ([42], [7]), ([110, 111, 116], [12]), ([60], [9]), ([60, 61], [10]), ([61], [11]), ([62], [10, 12]), ([62, 61], [9, 12]), ([33, 61], [11, 12]), ([100, 97, 121, 115], [15]), ([119, 101, 101, 107, 115], [16]), ([109, 111, 110, 116, 104, 115], [17]), ([99, 111, 117, 114, 116, 100, 97, 121, 115], [18]), ([110, 101, 120, 116], [19]), ([112, 114, 101, 118], [20]), ([108, 97, 116, 101, 114], [21]), ([101, 97, 114, 108, 105, 101, 114], [22]), ([98, 101, 116, 119, 101, 101, 110], [23])]
theorem operators_any (X : List Nat) (w : World) (hX : ∀ b ∈ X, b < w.heap.size) : Calls Tryd.prog 122 #[] w (Ret fun r w' => ∃ m, r = .map (some m) ∧ MapS X w' m opEs ∧ Stp [] w w') := by
  refine calls_of_WC0 (n := 21) Tryd.func122 rfl rfl ?_
  refine W ?_
  refine WL_eff (OE_makeMap str) rfl ?_
  rintro _ w1 ⟨m, rfl, hm, hmap, hS⟩
  have hmp : MapS X w1 m [] := ⟨[], hmap, rfl, fun i h => absurd h (Nat.not_lt_zero _)⟩
  have hml := hmap.lt
  clear hmap
  have hXw : ∀ b ∈ m :: X, b ≤ m := fun b hb => (List.mem_cons.1 hb).elim (fun h => by omega) (fun h => by have := hX b h; omega)
  refine WL_eff (OE_buildSlice (vs := [(0, .int .i64 5)]) rfl (buildSI1 _)) rfl ?_
  rintro bv w2 hN
  have hbv : SlV (m :: X) w2 bv [(5 : Int)] := hN.slv (fun b hb => by have := hXw b hb; omega) rfl rfl (by simp [maxLen])
  have hS2 := NewSl.stp hN
  clear hN
  replace hmp := hmp.up hS2
  have hml2 := hS2.size
  refine WL_eff0 (OE_insertS (a := [43]) rfl rfl rfl hmp hbv (by decide)) ?_
  clear hmp
  rintro _ w3 ⟨hmp, hS3⟩
  have hml3 := hS3.size
  replace hml := Nat.lt_of_lt_of_le (Nat.lt_of_lt_of_le hml hml2) hml3
  replace hS := (hS.trans hS2).own hS3 (fun b hb => .inr (by simp at hb; omega))
  clear hS2 hS3 hbv hml2 hml3
  refine WL_eff (OE_buildSlice (vs := [(0, .int .i64 7)]) rfl (buildSI1 _)) rfl ?_
  rintro bv w2 hN
  have hbv : SlV (m :: X) w2 bv [(7 : Int)] := hN.slv (fun b hb => by have := hXw b hb; omega) rfl rfl (by simp [maxLen])
  have hS2 := NewSl.stp hN
  clear hN
  replace hmp := hmp.up hS2
  have hml2 := hS2.size
  refine WL_eff0 (OE_insertS (a := [42]) rfl rfl rfl hmp hbv (by decide)) ?_
  clear hmp
  rintro _ w3 ⟨hmp, hS3⟩
  have hml3 := hS3.size
  replace hml := Nat.lt_of_lt_of_le (Nat.lt_of_lt_of_le hml hml2) hml3
  replace hS := (hS.trans hS2).own hS3 (fun b hb => .inr (by simp at hb; omega))
  clear hS2 hS3 hbv hml2 hml3
  refine WL_eff (OE_buildSlice (vs := [(0, .int .i64 12)]) rfl (buildSI1 _)) rfl ?_
  rintro bv w2 hN
  have hbv : SlV (m :: X) w2 bv [(12 : Int)] := hN.slv (fun b hb => by have := hXw b hb; omega) rfl rfl (by simp [maxLen])
  have hS2 := NewSl.stp hN
  clear hN
  replace hmp := hmp.up hS2
  have hml2 := hS2.size
  refine WL_eff0 (OE_insertS (a := [110, 111, 116]) rfl rfl rfl hmp hbv (by decide)) ?_
  clear hmp
  rintro _ w3 ⟨hmp, hS3⟩
  have hml3 := hS3.size
  replace hml := Nat.lt_of_lt_of_le (Nat.lt_of_lt_of_le hml hml2) hml3
  replace hS := (hS.trans hS2).own hS3 (fun b hb => .inr (by simp at hb; omega))
  clear hS2 hS3 hbv hml2 hml3
  refine WL_eff (OE_buildSlice (vs := [(0, .int .i64 9)]) rfl (buildSI1 _)) rfl ?_
  rintro bv w2 hN
  have hbv : SlV (m :: X) w2 bv [(9 : Int)] := hN.slv (fun b hb => by have := hXw b hb; omega) rfl rfl (by simp [maxLen])
  have hS2 := NewSl.stp hN
  clear hN
  replace hmp := hmp.up hS2
  have hml2 := hS2.size
  refine WL_eff0 (OE_insertS (a := [60]) rfl rfl rfl hmp hbv (by decide)) ?_
  clear hmp
  rintro _ w3 ⟨hmp, hS3⟩
  have hml3 := hS3.size
  replace hml := Nat.lt_of_lt_of_le (Nat.lt_of_lt_of_le hml hml2) hml3
  replace hS := (hS.trans hS2).own hS3 (fun b hb => .inr (by simp at hb; omega))
  clear hS2 hS3 hbv hml2 hml3
  refine WL_eff (OE_buildSlice (vs := [(0, .int .i64 10)]) rfl (buildSI1 _)) rfl ?_
  rintro bv w2 hN
  have hbv : SlV (m :: X) w2 bv [(10 : Int)] := hN.slv (fun b hb => by have := hXw b hb; omega) rfl rfl (by simp [maxLen])
  have hS2 := NewSl.stp hN
  clear hN
  replace hmp := hmp.up hS2
  have hml2 := hS2.size
  refine WL_eff0 (OE_insertS (a := [60, 61]) rfl rfl rfl hmp hbv (by decide)) ?_
  clear hmp
  rintro _ w3 ⟨hmp, hS3⟩
  have hml3 := hS3.size
  replace hml := Nat.lt_of_lt_of_le (Nat.lt_of_lt_of_le hml hml2) hml3
  replace hS := (hS.trans hS2).own hS3 (fun b hb => .inr (by simp at hb; omega))
  clear hS2 hS3 hbv hml2 hml3
  refine WL_eff (OE_buildSlice (vs := [(0, .int .i64 11)]) rfl (buildSI1 _)) rfl ?_
  rintro bv w2 hN
  have hbv : SlV (m :: X) w2 bv [(11 : Int)] := hN.slv (fun b hb => by have := hXw b hb; omega) rfl rfl (by simp [maxLen])
  have hS2 := NewSl.stp hN
  clear hN
  replace hmp := hmp.up hS2
  have hml2 := hS2.size
  refine WL_eff0 (OE_insertS (a := [61]) rfl rfl rfl hmp hbv (by decide)) ?_
  clear hmp
  rintro _ w3 ⟨hmp, hS3⟩
  have hml3 := hS3.size
  replace hml := Nat.lt_of_lt_of_le (Nat.lt_of_lt_of_le hml hml2) hml3
  replace hS := (hS.trans hS2).own hS3 (fun b hb => .inr (by simp at hb; omega))
  clear hS2 hS3 hbv hml2 hml3
  refine WL_eff (OE_buildSlice (vs := [(0, .int .i64 10), (1, .int .i64 12)]) rfl (buildSI2 _ _)) rfl ?_
  rintro bv w2 hN
  have hbv : SlV (m :: X) w2 bv [(10 : Int), (12 : Int)] := hN.slv (fun b hb => by have := hXw b hb; omega) rfl rfl (by simp [maxLen])
  have hS2 := NewSl.stp hN
  clear hN
  replace hmp := hmp.up hS2
  have hml2 := hS2.size
  refine WL_eff0 (OE_insertS (a := [62]) rfl rfl rfl hmp hbv (by decide)) ?_
  clear hmp
  rintro _ w3 ⟨hmp, hS3⟩
  have hml3 := hS3.size
  replace hml := Nat.lt_of_lt_of_le (Nat.lt_of_lt_of_le hml hml2) hml3
  replace hS := (hS.trans hS2).own hS3 (fun b hb => .inr (by simp at hb; omega))
  clear hS2 hS3 hbv hml2 hml3
  refine WL_eff (OE_buildSlice (vs := [(0, .int .i64 9), (1, .int .i64 12)]) rfl (buildSI2 _ _)) rfl ?_
  rintro bv w2 hN
  have hbv : SlV (m :: X) w2 bv [(9 : Int), (12 : Int)] := hN.slv (fun b hb => by have := hXw b hb; omega) rfl rfl (by simp [maxLen])
  have hS2 := NewSl.stp hN
  clear hN
  replace hmp := hmp.up hS2
  have hml2 := hS2.size
  refine WL_eff0 (OE_insertS (a := [62, 61]) rfl rfl rfl hmp hbv (by decide)) ?_
  clear hmp
  rintro _ w3 ⟨hmp, hS3⟩
  have hml3 := hS3.size
  replace hml := Nat.lt_of_lt_of_le (Nat.lt_of_lt_of_le hml hml2) hml3
  replace hS := (hS.trans hS2).own hS3 (fun b hb => .inr (by simp at hb; omega))
  clear hS2 hS3 hbv hml2 hml3
  refine WL_eff (OE_buildSlice (vs := [(0, .int .i64 11), (1, .int .i64 12)]) rfl (buildSI2 _ _)) rfl ?_
  rintro bv w2 hN
  have hbv : SlV (m :: X) w2 bv [(11 : Int), (12 : Int)] := hN.slv (fun b hb => by have := hXw b hb; omega) rfl rfl (by simp [maxLen])
  have hS2 := NewSl.stp hN
  clear hN
  replace hmp := hmp.up hS2
  have hml2 := hS2.size
  refine WL_eff0 (OE_insertS (a := [33, 61]) rfl rfl rfl hmp hbv (by decide)) ?_
  clear hmp
  rintro _ w3 ⟨hmp, hS3⟩
  have hml3 := hS3.size
  replace hml := Nat.lt_of_lt_of_le (Nat.lt_of_lt_of_le hml hml2) hml3
  replace hS := (hS.trans hS2).own hS3 (fun b hb => .inr (by simp at hb; omega))
  clear hS2 hS3 hbv hml2 hml3
  refine WL_eff (OE_buildSlice (vs := [(0, .int .i64 15)]) rfl (buildSI1 _)) rfl ?_
  rintro bv w2 hN
  have hbv : SlV (m :: X) w2 bv [(15 : Int)] := hN.slv (fun b hb => by have := hXw b hb; omega) rfl rfl (by simp [maxLen])
  have hS2 := NewSl.stp hN
  clear hN
  replace hmp := hmp.up hS2
  have hml2 := hS2.size
  refine WL_eff0 (OE_insertS (a := [100, 97, 121, 115]) rfl rfl rfl hmp hbv (by decide)) ?_
  clear hmp
  rintro _ w3 ⟨hmp, hS3⟩
  have hml3 := hS3.size
  replace hml := Nat.lt_of_lt_of_le (Nat.lt_of_lt_of_le hml hml2) hml3
  replace hS := (hS.trans hS2).own hS3 (fun b hb => .inr (by simp at hb; omega))
  clear hS2 hS3 hbv hml2 hml3
  refine WL_eff (OE_buildSlice (vs := [(0, .int .i64 16)]) rfl (buildSI1 _)) rfl ?_
  rintro bv w2 hN
  have hbv : SlV (m :: X) w2 bv [(16 : Int)] := hN.slv (fun b hb => by have := hXw b hb; omega) rfl rfl (by simp [maxLen])
  have hS2 := NewSl.stp hN
  clear hN
  replace hmp := hmp.up hS2
  have hml2 := hS2.size
  refine WL_eff0 (OE_insertS (a := [119, 101, 101, 107, 115]) rfl rfl rfl hmp hbv (by decide)) ?_
  clear hmp
  rintro _ w3 ⟨hmp, hS3⟩
  have hml3 := hS3.size
  replace hml := Nat.lt_of_lt_of_le (Nat.lt_of_lt_of_le hml hml2) hml3
  replace hS := (hS.trans hS2).own hS3 (fun b hb => .inr (by simp at hb; omega))
  clear hS2 hS3 hbv hml2 hml3
  refine WL_eff (OE_buildSlice (vs := [(0, .int .i64 17)]) rfl (buildSI1 _)) rfl ?_
  rintro bv w2 hN
  have hbv : SlV (m :: X) w2 bv [(17 : Int)] := hN.slv (fun b hb => by have := hXw b hb; omega) rfl rfl (by simp [maxLen])
  have hS2 := NewSl.stp hN
  clear hN
  replace hmp := hmp.up hS2
  have hml2 := hS2.size
  refine WL_eff0 (OE_insertS (a := [109, 111, 110, 116, 104, 115]) rfl rfl rfl hmp hbv (by decide)) ?_
  clear hmp
  rintro _ w3 ⟨hmp, hS3⟩
  have hml3 := hS3.size
  replace hml := Nat.lt_of_lt_of_le (Nat.lt_of_lt_of_le hml hml2) hml3
  replace hS := (hS.trans hS2).own hS3 (fun b hb => .inr (by simp at hb; omega))
  clear hS2 hS3 hbv hml2 hml3
  refine WL_eff (OE_buildSlice (vs := [(0, .int .i64 18)]) rfl (buildSI1 _)) rfl ?_
  rintro bv w2 hN
  have hbv : SlV (m :: X) w2 bv [(18 : Int)] := hN.slv (fun b hb => by have := hXw b hb; omega) rfl rfl (by simp [maxLen])
  have hS2 := NewSl.stp hN
  clear hN
  replace hmp := hmp.up hS2
  have hml2 := hS2.size
  refine WL_eff0 (OE_insertS (a := [99, 111, 117, 114, 116, 100, 97, 121, 115]) rfl rfl rfl hmp hbv (by decide)) ?_
  clear hmp
  rintro _ w3 ⟨hmp, hS3⟩
  have hml3 := hS3.size
  replace hml := Nat.lt_of_lt_of_le (Nat.lt_of_lt_of_le hml hml2) hml3
  replace hS := (hS.trans hS2).own hS3 (fun b hb => .inr (by simp at hb; omega))
  clear hS2 hS3 hbv hml2 hml3
  refine WL_eff (OE_buildSlice (vs := [(0, .int .i64 19)]) rfl (buildSI1 _)) rfl ?_
  rintro bv w2 hN
  have hbv : SlV (m :: X) w2 bv [(19 : Int)] := hN.slv (fun b hb => by have := hXw b hb; omega) rfl rfl (by simp [maxLen])
  have hS2 := NewSl.stp hN
  clear hN
  replace hmp := hmp.up hS2
  have hml2 := hS2.size
  refine WL_eff0 (OE_insertS (a := [110, 101, 120, 116]) rfl rfl rfl hmp hbv (by decide)) ?_
  clear hmp
  rintro _ w3 ⟨hmp, hS3⟩
  have hml3 := hS3.size
  replace hml := Nat.lt_of_lt_of_le (Nat.lt_of_lt_of_le hml hml2) hml3
  replace hS := (hS.trans hS2).own hS3 (fun b hb => .inr (by simp at hb; omega))
  clear hS2 hS3 hbv hml2 hml3
  refine WL_eff (OE_buildSlice (vs := [(0, .int .i64 20)]) rfl (buildSI1 _)) rfl ?_
  rintro bv w2 hN
  have hbv : SlV (m :: X) w2 bv [(20 : Int)] := hN.slv (fun b hb => by have := hXw b hb; omega) rfl rfl (by simp [maxLen])
  have hS2 := NewSl.stp hN
  clear hN
  replace hmp := hmp.up hS2
  have hml2 := hS2.size
  refine WL_eff0 (OE_insertS (a := [112, 114, 101, 118]) rfl rfl rfl hmp hbv (by decide)) ?_
  clear hmp
  rintro _ w3 ⟨hmp, hS3⟩
  have hml3 := hS3.size
  replace hml := Nat.lt_of_lt_of_le (Nat.lt_of_lt_of_le hml hml2) hml3
  replace hS := (hS.trans hS2).own hS3 (fun b hb => .inr (by simp at hb; omega))
  clear hS2 hS3 hbv hml2 hml3
  refine WL_eff (OE_buildSlice (vs := [(0, .int .i64 21)]) rfl (buildSI1 _)) rfl ?_
  rintro bv w2 hN
  have hbv : SlV (m :: X) w2 bv [(21 : Int)] := hN.slv (fun b hb => by have := hXw b hb; omega) rfl rfl (by simp [maxLen])
  have hS2 := NewSl.stp hN
  clear hN
  replace hmp := hmp.up hS2
  have hml2 := hS2.size
  refine WL_eff0 (OE_insertS (a := [108, 97, 116, 101, 114]) rfl rfl rfl hmp hbv (by decide)) ?_
  clear hmp
  rintro _ w3 ⟨hmp, hS3⟩
  have hml3 := hS3.size
  replace hml := Nat.lt_of_lt_of_le (Nat.lt_of_lt_of_le hml hml2) hml3
  replace hS := (hS.trans hS2).own hS3 (fun b hb => .inr (by simp at hb; omega))
  clear hS2 hS3 hbv hml2 hml3
  refine WL_eff (OE_buildSlice (vs := [(0, .int .i64 22)]) rfl (buildSI1 _)) rfl ?_
  rintro bv w2 hN
  have hbv : SlV (m :: X) w2 bv [(22 : Int)] := hN.slv (fun b hb => by have := hXw b hb; omega) rfl rfl (by simp [maxLen])
  have hS2 := NewSl.stp hN
  clear hN
  replace hmp := hmp.up hS2
  have hml2 := hS2.size
  refine WL_eff0 (OE_insertS (a := [101, 97, 114, 108, 105, 101, 114]) rfl rfl rfl hmp hbv (by decide)) ?_
  clear hmp
  rintro _ w3 ⟨hmp, hS3⟩
  have hml3 := hS3.size
  replace hml := Nat.lt_of_lt_of_le (Nat.lt_of_lt_of_le hml hml2) hml3
  replace hS := (hS.trans hS2).own hS3 (fun b hb => .inr (by simp at hb; omega))
  clear hS2 hS3 hbv hml2 hml3
  refine WL_eff (OE_buildSlice (vs := [(0, .int .i64 23)]) rfl (buildSI1 _)) rfl ?_
  rintro bv w2 hN
  have hbv : SlV (m :: X) w2 bv [(23 : Int)] := hN.slv (fun b hb => by have := hXw b hb; omega) rfl rfl (by simp [maxLen])
  have hS2 := NewSl.stp hN
  clear hN
  replace hmp := hmp.up hS2
  have hml2 := hS2.size
  refine WL_eff0 (OE_insertS (a := [98, 101, 116, 119, 101, 101, 110]) rfl rfl rfl hmp hbv (by decide)) ?_
  clear hmp
  rintro _ w3 ⟨hmp, hS3⟩
  have hml3 := hS3.size
  replace hml := Nat.lt_of_lt_of_le (Nat.lt_of_lt_of_le hml hml2) hml3
  replace hS := (hS.trans hS2).own hS3 (fun b hb => .inr (by simp at hb; omega))
  clear hS2 hS3 hbv hml2 hml3
  refine W ?_
  first | refine WQ_ret1 rfl rfl ?_ | refine WQ_ret2 rfl rfl rfl ?_ | refine WQ_ret3 rfl rfl rfl rfl ?_ | refine WQ_ret0 rfl ?_ | refine WQ_end0 rfl ?_
  exact .mk ⟨m, rfl, hmp, hS⟩
/-- the instructions of a word -/
def opF (s : Str) : List Int := match opEs.find? (fun p => decide (p.1 = s)) with | some p => p.2 | none => []
theorem opF_len (s : Str) : (opF s).length ≤ 2 := by
  unfold opF
  cases h : opEs.find? (fun p => decide (p.1 = s)) with
  | none => simp
  | some p =>
    have hp := List.mem_of_find?_eq_some h
    have : ∀ p ∈ opEs, p.2.length ≤ 2 := by decide
    exact this p hp
theorem MapS.get {X : List Nat} {w : World} {m : Nat} (h : MapS X w m opEs) (s : Str) : ∃ l : List (Str × Value), MapAt str w m l ∧ SlV X w (mget l s (.slice none 0 0)) (opF s) := by
  obtain ⟨l, h1, h2, h3⟩ := h
  refine ⟨l, h1, ?_⟩
  unfold mget opF
  have hf : (l.find? (fun p => decide (p.1 = s)) = none ∧ opEs.find? (fun p => decide (p.1 = s)) = none) ∨ ∃ i, ∃ (h : i < l.length) (h' : i < opEs.length), l.find? (fun p => decide (p.1 = s)) = some l[i] ∧ opEs.find? (fun p => decide (p.1 = s)) = some opEs[i] := by
    cases hq : l.find? (fun p => decide (p.1 = s)) with
    | none =>
      left
      refine ⟨rfl, ?_⟩
      rw [List.find?_eq_none]
      intro p hp
      obtain ⟨i, hi, rfl⟩ := List.getElem_of_mem hp
      have := List.find?_eq_none.1 hq l[i] (List.getElem_mem (by omega))
      rwa [(h3 i (by omega) hi).1] at this
    | some p =>
      right
      obtain ⟨hp, i, hi, rfl, hb⟩ := List.find?_eq_some_iff_getElem.1 hq
      refine ⟨i, hi, by omega, rfl, ?_⟩
      rw [List.find?_eq_some_iff_getElem]
      refine ⟨by rw [← (h3 i hi (by omega)).1]; exact hp, i, by omega, rfl, fun j hj => ?_⟩
      rw [← (h3 j (by omega) (by omega)).1]
      exact hb j hj
  rcases hf with ⟨e1, e2⟩ | ⟨i, h, h', e1, e2⟩
  · rw [e1, e2]
    exact ⟨none, 0, rfl, Nat.le_refl _, by simp [maxLen], fun _ => rfl, fun i h => absurd h (Nat.not_lt_zero _)⟩
  · rw [e1, e2]
    exact (h3 i h h').2.ext (Stp.refl [] w) (by simp) (fun b hb => .inl (List.mem_cons_of_mem _ hb))
end Go.Proofs.YtgpibcgebpgmiaaDoor


namespace Go.Proofs.YtgpibcgebpgmiaaDoor
open Go Go.Eng Go.RowKit
set_option linter.unusedVariables false

/-- codes one after another -/
def seqC : List Cf → Nat → List Ins
  | [], _ => []
  | c :: r, p => c p ++ seqC r (p + (c p).length)
theorem seqC_append (a b : List Cf) (p : Nat) : seqC (a ++ b) p = seqC a p ++ seqC b (p + (seqC a p).length) := by
  induction a generalizing p with
  | nil => simp [seqC]
  | cons c r ih =>
    simp only [List.cons_append, seqC, ih, List.length_append, List.append_assoc]
    rw [Nat.add_assoc]
theorem seqC_step (cs : List Cf) (p i : Nat) (h : i < cs.length) : seqC (cs.take (i + 1)) p = seqC (cs.take i) p ++ cs[i] (p + (seqC (cs.take i) p).length) := by
  rw [List.take_succ_eq_append_getElem h, seqC_append]
  simp [seqC]
theorem seqC_le (cs : List Cf) (p i : Nat) : (seqC (cs.take i) p).length ≤ (seqC cs p).length := by
  have : seqC cs p = seqC (cs.take i) p ++ seqC (cs.drop i) (p + (seqC (cs.take i) p).length) := by rw [← seqC_append, List.take_append_drop]
  rw [this, List.length_append]
  omega
def insO (l : List Int) : List Ins := l.map (fun o => ⟨o, 0⟩)
def plainC (k : Int) (s : Str) (cs : List Cf) (p : Nat) : List Ins := seqC cs p ++ (if k = 8 ∨ k = 5 ∧ s = [45] then [⟨8, 0⟩] else []) ++ insO (opF s)
theorem plain_any (x : Nd) (cs : List Cf) (hcl : cs.length = x.kids.length) (hcs : ∀ i (h : i < x.kids.length) (h' : i < cs.length), ExprOk x.kids[i] cs[i]) (w : World) (bc base : Nat) (v nv : Value) (xs : List Ins) (hc : Cod w bc base v xs)
    (hx : NdV (bc :: ob v) w nv x) (hF : SlV (bc :: ob v) w flds fieldNames) (hl : xs.length + (plainC x.kind x.word cs xs.length).length ≤ 100000) :
    Calls Tryd.prog 95 #[.pointer (some ⟨bc, 0, none⟩), nv] w (Ret fun r w' => Cods w bc base v (xs ++ plainC x.kind x.word cs xs.length) w') := by
  have hl' := hl
  unfold plainC at hl'
  simp only [List.length_append] at hl'
  obtain ⟨kv, rfl, hs⟩ := hx
  have hmax := hs.max
  refine calls_of_WC2 (n := 47) Tryd.func95 rfl rfl rfl ?_
  refine W ?_
  refine WL_eff (OE_box rfl) rfl ?_
  rintro _ wA ⟨b, rfl, hb, hblk, hS⟩
  replace hblk : Blk wA b _ (ndC x kv) := hblk
  have hobv : ∀ b ∈ bc :: ob v, b < w.heap.size := fun b hb => by
    rcases List.mem_cons.1 hb with rfl | h
    · exact hc.blk.lt
    · exact (hc.row.ob_le b h).2
  have nb : b ∉ bc :: ob v := fun h => by have := hobv _ h; omega
  replace hc := hc.up hS
  replace hs := hs.up hS
  replace hF := hF.up hS
  have main : ∀ ys w', Cods wA bc base v ys w' → Cods w bc base v ys w' := fun ys w' h => h.pre hS
  refine W ?_
  refine WC_cutB (σ := Value) (fun u => [(0, .pointer (some ⟨bc, 0, none⟩)), (3, .pointer (some ⟨b, 0, none⟩))]) (fun u w' => Fr wA w' bc base v u (xs ++ seqC cs xs.length)) ?_ ?_
  · refine WC_loop (σ := Nat × Value) (fun q => [(0, .pointer (some ⟨bc, 0, none⟩)), (3, .pointer (some ⟨b, 0, none⟩)), (9, kv), (10, .int .i64 (x.kids.length : Int)), (11, .int .i64 (q.1 : Int))]) (fun q w' => q.1 ≤ x.kids.length ∧ Fr wA w' bc base v q.2 (xs ++ seqC (cs.take q.1) xs.length)) (fun q => x.kids.length - q.1) (0, v) ⟨rfl, rfl, rfl, rfl, rfl, trivial⟩ ⟨Nat.zero_le _, by simpa [seqC] using Fr.start hc⟩ ?_
    rintro ⟨j, u⟩ w2 ⟨hj, fr⟩
    dsimp only at hj fr ⊢
    by_cases hlt : j < x.kids.length
    · have hs2 := fr.sl hs
      obtain ⟨kv2, hk2, hc2⟩ := hs2.nd hlt
      have hst := seqC_step cs xs.length j (by omega)
      have hle := seqC_le cs xs.length (j + 1)
      have hle0 := seqC_le cs xs.length j
      rw [hst, List.length_append] at hle
      repeat' (first | refine W1 ?_ | (exfalso; omega) | refine WL_split rfl rfl (fun hg => ?_) (fun hg => ?_) | refine WL_splitB rfl rfl (fun hg => ?_) (fun hg => ?_) | refine WC_cond rfl (fun hc => ?_) (fun hc => ?_) | refine WC_condB rfl (fun hc => ?_) (fun hc => ?_))
      apply WL_pure (PR_loadNd rfl rfl hs2 hlt hc2) rfl
      refine WL_eff OE_alloc rfl ?_
      rintro _ w3 ⟨b3, rfl, hb3, hblk3, hS3⟩
      refine WL_eff0 (OE_storeA (us := ndC x.kids[j] kv2) rfl rfl rfl rfl (ndC_one hk2) hblk3 rfl) ?_
      rintro _ w4 ⟨hS4, hblk4⟩
      have hS34 := hS3.own hS4 (fun c hc => .inr (by simp at hc; omega))
      replace fr := fr.up hS34
      replace hk2 := hk2.up hS34
      refine W ?_
      have hlen : (xs ++ seqC (cs.take j) xs.length).length = xs.length + (seqC (cs.take j) xs.length).length := List.length_append
      refine WL_eff (OE_call rfl (evs2 rfl rfl) (hcs j hlt (by omega) _ bc base _ _ _ fr.cod ⟨kv2, rfl, hk2⟩ (fr.sl hF) (by rw [hlen]; omega))) rfl ?_
      rintro _ w5 hq
      obtain ⟨u5, fr⟩ := fr.step hq
      rw [hlen, List.append_assoc, ← hst] at fr
      refine W ?_
      exact WQ_loop (j + 1, u5) ⟨rfl, rfl, rfl, rfl, rfl, trivial⟩ ⟨by dsimp only; omega, fr⟩ (by dsimp only; omega)
    · have hje : j = x.kids.length := by omega
      subst hje
      rw [← hcl, List.take_length] at fr
      repeat' (first | refine W1 ?_ | (exfalso; omega) | refine WL_split rfl rfl (fun hg => ?_) (fun hg => ?_) | refine WL_splitB rfl rfl (fun hg => ?_) (fun hg => ?_) | refine WC_cond rfl (fun hc => ?_) (fun hc => ?_) | refine WC_condB rfl (fun hc => ?_) (fun hc => ?_))
      exact WQ_cut u ⟨rfl, rfl, trivial⟩ fr
  rintro u w2 fr
  have hbk := fr.bk hblk nb
  unfold plainC
  generalize seqC cs xs.length = A at *
  rw [← List.append_assoc, ← List.append_assoc]
  refine WC_cut (σ := Value) (fun u => [(0, .pointer (some ⟨bc, 0, none⟩)), (3, .pointer (some ⟨b, 0, none⟩))]) (fun u w' => Fr wA w' bc base v u (xs ++ A ++ if x.kind = 8 ∨ x.kind = 5 ∧ x.word = [45] then [⟨8, 0⟩] else [])) ?_ ?_
  · by_cases hneg : x.kind = 8 ∨ x.kind = 5 ∧ x.word = [45]
    · have hln : (xs ++ A).length ≤ 1000000 := by simp only [List.length_append]; omega
      rw [if_pos hneg]
      repeat' (first | refine W1 ?_ | (exfalso; omega) | refine WL_split rfl rfl (fun hg => ?_) (fun hg => ?_) | refine WL_splitB rfl rfl (fun hg => ?_) (fun hg => ?_) | refine WC_cond rfl (fun hc => ?_) (fun hc => ?_) | refine WC_condB rfl (fun hc => ?_) (fun hc => ?_))
      all_goals first
        | (refine WL_eff (OE_call rfl (evs3 rfl rfl rfl) (put_any bc base _ _ 8 0 _ fr.cod hln)) rfl ?_
           rintro _ w3 ⟨rfl, hq⟩
           obtain ⟨u3, fr⟩ := fr.step hq
           refine W ?_
           exact WQ_cut u3 ⟨rfl, rfl, trivial⟩ fr)
        | (exfalso; rcases hneg with h | ⟨h1, h2⟩ <;> first | omega | contradiction)
    · rw [if_neg hneg, List.append_nil]
      have hn8 : ¬ x.kind = 8 := fun h => hneg (.inl h)
      repeat' (first | refine W1 ?_ | (exfalso; omega) | refine WL_split rfl rfl (fun hg => ?_) (fun hg => ?_) | refine WL_splitB rfl rfl (fun hg => ?_) (fun hg => ?_) | refine WC_cond rfl (fun hc => ?_) (fun hc => ?_) | refine WC_condB rfl (fun hc => ?_) (fun hc => ?_))
      all_goals first
        | exact WQ_cut u ⟨rfl, rfl, trivial⟩ fr
        | (exfalso; exact hneg (.inr ⟨by assumption, by assumption⟩))
  rintro u3 w3 fr
  have hbk := fr.bk hblk nb
  have hol := opF_len x.word
  generalize hB : xs ++ A ++ (if x.kind = 8 ∨ x.kind = 5 ∧ x.word = [45] then [(⟨8, 0⟩ : Ins)] else []) = B at *
  have hBl : B.length ≤ 200000 := by
    rw [← hB]
    simp only [List.length_append]
    have : (if x.kind = 8 ∨ x.kind = 5 ∧ x.word = [45] then [(⟨8, 0⟩ : Ins)] else []).length ≤ 1 := by split <;> simp
    omega
  refine W ?_
  refine WC_drawn 6 [] [] [(1, 0), (2, 1), (5, 0), (0, 2), (3, 2), (4, 0)] rfl mixed (by kernel_rfl) (by kernel_rfl) (by kernel_rfl) (fun w1 hS1 => ?_)
  replace fr := fr.up hS1
  replace hbk := hbk.up hS1
  have hou : ∀ b ∈ bc :: ob u3, b < w1.heap.size := fun b hb => (List.mem_cons.1 hb).elim (fun h => h ▸ fr.cod.blk.lt) (fun h => (fr.cod.row.ob_le b h).2)
  refine D ?_
  refine WD_eff rfl trivial (OE_call rfl evs0 (operators_any (bc :: ob u3) _ hou)) (fun _ _ h => h.choose_spec.2.2) rfl ?_
  rintro _ w5 ⟨m, rfl, hm, hS5⟩
  replace fr := fr.up hS5
  obtain ⟨l, hml, hsl⟩ := hm.get x.word
  refine WD_eff rfl trivial (OE_pr (PR_lookup (K := inferInstance) (a := x.word) rfl rfl hml)) (fun _ _ h => h.2 ▸ Stp.refl _ _) rfl ?_
  rintro _ _ ⟨rfl, rfl⟩
  generalize mget l x.word (.slice none 0 0) = ov at *
  generalize opF x.word = O at *
  refine D ?_
  refine W ?_
  refine WC_loop (σ := Nat × Value) (fun q => [(0, .pointer (some ⟨bc, 0, none⟩)), (37, ov), (38, .int .i64 (O.length : Int)), (39, .int .i64 (q.1 : Int))]) (fun q w' => q.1 ≤ O.length ∧ SlV (bc :: ob q.2) w' ov O ∧ Fr wA w' bc base v q.2 (B ++ insO (O.take q.1))) (fun q => O.length - q.1) (0, u3) ⟨rfl, rfl, rfl, rfl, trivial⟩ ⟨Nat.zero_le _, hsl, by simpa [insO] using fr⟩ ?_
  clear fr hsl hou
  rintro ⟨j, u⟩ w6 ⟨hj, hsl, fr⟩
  dsimp only at hj fr ⊢
  by_cases hlt : j < O.length
  · have hln : (B ++ insO (O.take j)).length ≤ 1000000 := by simp only [List.length_append, insO, List.length_map, List.length_take]; omega
    repeat' (first | refine W1 ?_ | (exfalso; omega) | refine WL_split rfl rfl (fun hg => ?_) (fun hg => ?_) | refine WL_splitB rfl rfl (fun hg => ?_) (fun hg => ?_) | refine WC_cond rfl (fun hc => ?_) (fun hc => ?_) | refine WC_condB rfl (fun hc => ?_) (fun hc => ?_))
    refine WL_eff (OE_call rfl (evs3 rfl rfl rfl) (put_any bc base _ _ O[j] 0 _ fr.cod hln)) rfl ?_
    rintro _ w7 ⟨rfl, hq⟩
    obtain ⟨u7, hc7, hS7, hb7⟩ := id hq
    have hsl7 : SlV (bc :: ob u7) w7 ov O := keepX hsl hS7 hb7
    have fr7 : Fr wA w7 bc base v u7 (B ++ insO (O.take j) ++ [⟨O[j], 0⟩]) := by
      refine ⟨hc7, ?_, fun b hb => ?_⟩
      · exact fr.stp.own hS7 (fun b hb => by
          rcases List.mem_cons.1 hb with rfl | h
          · exact .inl (by simp)
          · exact (fr.sub b h).imp (fun h => List.mem_cons_of_mem _ h) id)
      · rcases hb7 b hb with h | h
        · exact fr.sub b h
        · exact .inr (Nat.le_trans fr.stp.size h)
    refine W ?_
    refine WQ_loop (j + 1, u7) ⟨rfl, rfl, rfl, rfl, trivial⟩ ⟨by dsimp only; omega, hsl7, ?_⟩ (by dsimp only; omega)
    dsimp only
    rw [List.take_succ_eq_append_getElem hlt]
    unfold insO at fr7 ⊢
    rw [List.map_append, ← List.append_assoc]
    exact fr7
  · have hje : j = O.length := by omega
    subst hje
    rw [List.take_length] at fr
    repeat' (first | refine W1 ?_ | (exfalso; omega) | refine WL_split rfl rfl (fun hg => ?_) (fun hg => ?_) | refine WL_splitB rfl rfl (fun hg => ?_) (fun hg => ?_) | refine WC_cond rfl (fun hc => ?_) (fun hc => ?_) | refine WC_condB rfl (fun hc => ?_) (fun hc => ?_))
    first | refine WQ_ret1 rfl rfl ?_ | refine WQ_ret2 rfl rfl rfl ?_ | refine WQ_ret3 rfl rfl rfl rfl ?_ | refine WQ_ret0 rfl ?_ | refine WQ_end0 rfl ?_
    exact .mk (main _ _ fr.fin)
end Go.Proofs.YtgpibcgebpgmiaaDoor


namespace Go.Proofs.YtgpibcgebpgmiaaDoor
open Go Go.Eng Go.RowKit
set_option linter.unusedVariables false

/-- the instruction of a node without kids -/
def leafI (k n : Int) (s : Str) : Ins := if k = 1 then ⟨1, n⟩ else if k = 2 then ⟨2, n⟩ else if k = 3 then ⟨3, n⟩ else ⟨4, (fieldF s).1⟩
def nilC : Cf := fun _ => []
/-- the code of a node for those of its kids -/
def combC (k n : Int) (s : Str) (cs : List Cf) (p : Nat) : List Ins :=
  if cs.length = 0 then [leafI k n s]
  else if k = 9 then chC (cs.getD 0 nilC) (cs.getD 1 nilC) (cs.getD 2 nilC) p
  else if k = 6 ∧ s = [97, 110, 100] then chC (cs.getD 0 nilC) (cs.getD 1 nilC) (fun _ => [⟨2, 0⟩]) p
  else if k = 6 ∧ s = [111, 114] then chC (cs.getD 0 nilC) (fun _ => [⟨2, 1⟩]) (cs.getD 1 nilC) p
  else if k = 6 ∧ s = [45] then plainC k s cs p ++ [⟨6, 0⟩]
  else plainC k s cs p
def codeN : Nd → Nat → List Ins
  | .mk k n s l => combC k n s (l.map codeN)
theorem codeN_eq (x : Nd) : codeN x = combC x.kind x.num x.word (x.kids.map codeN) := by
  cases x
  rw [codeN]
  rfl
theorem buildNb0 (w : World) : (Instr.build 25 #[(0, .int .i64 2)]).run Tryd.prog w = .ok (.agg #[.int .i64 2, .int .i64 0, str [], .slice none 0 0]) w := by kernel_rfl
theorem buildNb1 (w : World) : (Instr.build 25 #[(0, .int .i64 2), (1, .int .i64 1)]).run Tryd.prog w = .ok (.agg #[.int .i64 2, .int .i64 1, str [], .slice none 0 0]) w := by kernel_rfl
theorem nilSlv {α : Type} [GoRep α] (X : List Nat) (w : World) : SlV (α := α) X w (.slice none 0 0) [] := ⟨none, 0, rfl, Nat.le_refl _, by simp [maxLen], fun _ => rfl, fun i h => absurd h (Nat.not_lt_zero _)⟩
/-- a constant -/
theorem exprBool (z : Int) : ExprOk (.mk 2 z [] []) (fun _ => [⟨2, z⟩]) := by
  intro w bc base v nv xs hc hx hF hl
  obtain ⟨kv, rfl, hs⟩ := hx
  refine calls_of_WC2 (n := 63) Tryd.func68 rfl rfl rfl ?_
  refine W ?_
  refine WL_eff (OE_box rfl) rfl ?_
  rintro _ w1 ⟨b, rfl, hb, hblk, hS⟩
  replace hblk : Blk w1 b _ [.int .i64 2, .int .i64 z, str [], kv] := hblk
  refine W ?_
  refine WL_eff (OE_call rfl (evs3 rfl rfl rfl) (put_any bc base _ _ 2 z _ (hc.up hS) (by omega))) rfl ?_
  rintro _ w2 ⟨rfl, hq⟩
  refine W ?_
  first | refine WQ_ret1 rfl rfl ?_ | refine WQ_ret2 rfl rfl rfl ?_ | refine WQ_ret3 rfl rfl rfl rfl ?_ | refine WQ_ret0 rfl ?_ | refine WQ_end0 rfl ?_
  exact .mk (hq.pre hS)
theorem minus_any (x : Nd) (cs : List Cf) (hcl : cs.length = x.kids.length) (hcs : ∀ i (h : i < x.kids.length) (h' : i < cs.length), ExprOk x.kids[i] cs[i]) (w : World) (bc base : Nat) (v nv : Value) (xs : List Ins) (hc : Cod w bc base v xs)
    (hx : NdV (bc :: ob v) w nv x) (hF : SlV (bc :: ob v) w flds fieldNames) (hl : xs.length + (plainC x.kind x.word cs xs.length).length ≤ 100000) :
    Calls Tryd.prog 120 #[.pointer (some ⟨bc, 0, none⟩), nv] w (Ret fun r w' => Cods w bc base v (xs ++ (plainC x.kind x.word cs xs.length ++ [⟨6, 0⟩])) w') := by
  obtain ⟨kv, rfl, hs⟩ := hx
  refine calls_of_WC2 (n := 9) Tryd.func120 rfl rfl rfl ?_
  refine W ?_
  refine WL_eff (OE_box rfl) rfl ?_
  rintro _ w1 ⟨b, rfl, hb, hblk, hS⟩
  replace hblk : Blk w1 b _ (ndC x kv) := hblk
  have fr := Fr.start (hc.up hS)
  refine W ?_
  refine WL_eff (OE_call rfl (evs2 rfl rfl) (plain_any x cs hcl hcs _ bc base _ _ _ fr.cod ⟨kv, rfl, hs.up hS⟩ (hF.up hS) hl)) rfl ?_
  rintro _ w2 hq
  obtain ⟨v2, fr⟩ := fr.step hq
  refine W ?_
  refine WL_eff (OE_call rfl (evs3 rfl rfl rfl) (put_any bc base _ _ 6 0 _ fr.cod (by simp only [List.length_append]; omega))) rfl ?_
  rintro _ w3 ⟨rfl, hq⟩
  obtain ⟨v3, fr⟩ := fr.step hq
  rw [List.append_assoc] at fr
  refine W ?_
  first | refine WQ_ret1 rfl rfl ?_ | refine WQ_ret2 rfl rfl rfl ?_ | refine WQ_ret3 rfl rfl rfl rfl ?_ | refine WQ_ret0 rfl ?_ | refine WQ_end0 rfl ?_
  exact .mk (fr.fin.pre hS)
end Go.Proofs.YtgpibcgebpgmiaaDoor


namespace Go.Proofs.YtgpibcgebpgmiaaDoor
open Go Go.Eng Go.RowKit
set_option linter.unusedVariables false

theorem cell_on {α : Type} [GoRep α] {X : List Nat} {w w' : World} {v u : Value} {l : List α} {i k j : Nat} (hs : SlV X w v l) (hi : i < l.length) (hS : Stp X w w') (h : w.cell? (elAddr v i k j) = some u) : w'.cell? (elAddr v i k j) = some u := by
  obtain ⟨p, c, rfl, _, _, _, hc⟩ := hs
  obtain ⟨b, o, cs, rfl, _, hx, _⟩ := hc i hi
  exact hS.cell hx h
theorem and_any (x : Nd) (cs : List Cf) (hk2 : x.kids.length = 2) (hcl : cs.length = x.kids.length) (hcs : ∀ i (h : i < x.kids.length) (h' : i < cs.length), ExprOk x.kids[i] cs[i]) (w : World) (bc base : Nat) (v nv : Value) (xs : List Ins) (hc : Cod w bc base v xs)
    (hx : NdV (bc :: ob v) w nv x) (hF : SlV (bc :: ob v) w flds fieldNames) (hl : xs.length + (chC (cs.getD 0 nilC) (cs.getD 1 nilC) (fun _ => [⟨2, 0⟩]) xs.length).length ≤ 100000) :
    Calls Tryd.prog 118 #[.pointer (some ⟨bc, 0, none⟩), nv] w (Ret fun r w' => Cods w bc base v (xs ++ chC (cs.getD 0 nilC) (cs.getD 1 nilC) (fun _ => [⟨2, 0⟩]) xs.length) w') := by
  obtain ⟨kv, rfl, hs⟩ := hx
  have h0 : 0 < x.kids.length := by omega
  have h1 : 1 < x.kids.length := by omega
  have g0 : cs.getD 0 nilC = cs[0]'(by omega) := by simp [List.getD, hcl, h0]
  have g1 : cs.getD 1 nilC = cs[1]'(by omega) := by simp [List.getD, hcl, h1]
  rw [g0, g1] at hl ⊢
  refine calls_of_WC2 (n := 15) Tryd.func118 rfl rfl rfl ?_
  refine W ?_
  refine WL_eff (OE_box rfl) rfl ?_
  rintro _ wA ⟨b, rfl, hb, hblk, hS⟩
  replace hblk : Blk wA b _ (ndC x kv) := hblk
  replace hs := hs.up hS
  have nb : b ∉ bc :: ob v := fun h => by
    rcases List.mem_cons.1 h with rfl | h
    · have := hc.blk.lt; omega
    · have := (hc.row.ob_le b h).2; omega
  refine W ?_
  refine WC_drawn 11 (bc :: ob v) [] [(0, 0), (1, 0), (2, 1), (3, 0), (4, 1), (5, 0), (6, 1), (7, 0), (8, 1), (9, 0), (10, 2)] rfl mixed (by kernel_rfl) (by kernel_rfl) (by kernel_rfl) (fun w1 hS1 => ?_)
  replace hs := hs.up hS1
  replace hblk := hblk.up hS1
  replace hS := hS.trans hS1
  obtain ⟨u0, s0, c0⟩ := hs.nd h0
  obtain ⟨u1, s1, c1⟩ := hs.nd h1
  refine D ?_
  try (refine WD_read rfl trivial (fun w' hS' => PR_load_blk rfl rfl (hblk.ext hS' nb) rfl) rfl ?_)
  refine D ?_
  refine WD_read rfl trivial (fun w' hS' => PR_loadNd rfl rfl (hs.on hS' (fun _ h => h)) h0 (fun j u hj => cell_on hs h0 hS' (c0 j u hj))) rfl ?_
  refine D ?_
  try (refine WD_read rfl trivial (fun w' hS' => PR_load_blk rfl rfl (hblk.ext hS' nb) rfl) rfl ?_)
  refine D ?_
  refine WD_read rfl trivial (fun w' hS' => PR_loadNd rfl rfl (hs.on hS' (fun _ h => h)) h1 (fun j u hj => cell_on hs h1 hS' (c1 j u hj))) rfl ?_
  refine D ?_
  apply WD_op
  exact rfl
  apply WO_build (vs := [(0, .int .i64 2)])
  exact trivial
  exact rfl
  exact buildNb0
  exact rfl
  refine WD_eff rfl trivial (OE_call rfl (evs4 rfl rfl rfl rfl) (choice_any (x := x.kids[0]) (y := x.kids[1]) (n := .mk 2 0 [] []) (hcs 0 h0 (by omega)) (hcs 1 h1 (by omega)) (exprBool 0) _ bc base v _ _ _ xs (hc.up hS) ⟨u0, rfl, s0⟩ ⟨u1, rfl, s1⟩ ⟨_, rfl, nilSlv _ _⟩ (hF.up hS) hl)) (fun _ _ h => by obtain ⟨_, _, h2, _⟩ := h; exact h2) rfl ?_
  rintro _ w5 hq
  refine D ?_
  refine W ?_
  first | refine WQ_ret1 rfl rfl ?_ | refine WQ_ret2 rfl rfl rfl ?_ | refine WQ_ret3 rfl rfl rfl rfl ?_ | refine WQ_ret0 rfl ?_ | refine WQ_end0 rfl ?_
  exact .mk (hq.pre hS)
theorem or_any (x : Nd) (cs : List Cf) (hk2 : x.kids.length = 2) (hcl : cs.length = x.kids.length) (hcs : ∀ i (h : i < x.kids.length) (h' : i < cs.length), ExprOk x.kids[i] cs[i]) (w : World) (bc base : Nat) (v nv : Value) (xs : List Ins) (hc : Cod w bc base v xs)
    (hx : NdV (bc :: ob v) w nv x) (hF : SlV (bc :: ob v) w flds fieldNames) (hl : xs.length + (chC (cs.getD 0 nilC) (fun _ => [⟨2, 1⟩]) (cs.getD 1 nilC) xs.length).length ≤ 100000) :
    Calls Tryd.prog 119 #[.pointer (some ⟨bc, 0, none⟩), nv] w (Ret fun r w' => Cods w bc base v (xs ++ chC (cs.getD 0 nilC) (fun _ => [⟨2, 1⟩]) (cs.getD 1 nilC) xs.length) w') := by
  obtain ⟨kv, rfl, hs⟩ := hx
  have h0 : 0 < x.kids.length := by omega
  have h1 : 1 < x.kids.length := by omega
  have g0 : cs.getD 0 nilC = cs[0]'(by omega) := by simp [List.getD, hcl, h0]
  have g1 : cs.getD 1 nilC = cs[1]'(by omega) := by simp [List.getD, hcl, h1]
  rw [g0, g1] at hl ⊢
  refine calls_of_WC2 (n := 15) Tryd.func119 rfl rfl rfl ?_
  refine W ?_
  refine WL_eff (OE_box rfl) rfl ?_
  rintro _ wA ⟨b, rfl, hb, hblk, hS⟩
  replace hblk : Blk wA b _ (ndC x kv) := hblk
  replace hs := hs.up hS
  have nb : b ∉ bc :: ob v := fun h => by
    rcases List.mem_cons.1 h with rfl | h
    · have := hc.blk.lt; omega
    · have := (hc.row.ob_le b h).2; omega
  refine W ?_
  refine WC_drawn 11 (bc :: ob v) [] [(0, 0), (1, 0), (2, 1), (3, 0), (4, 1), (5, 0), (6, 0), (7, 1), (8, 0), (9, 1), (10, 2)] rfl mixed (by kernel_rfl) (by kernel_rfl) (by kernel_rfl) (fun w1 hS1 => ?_)
  replace hs := hs.up hS1
  replace hblk := hblk.up hS1
  replace hS := hS.trans hS1
  obtain ⟨u0, s0, c0⟩ := hs.nd h0
  obtain ⟨u1, s1, c1⟩ := hs.nd h1
  refine D ?_
  try (refine WD_read rfl trivial (fun w' hS' => PR_load_blk rfl rfl (hblk.ext hS' nb) rfl) rfl ?_)
  refine D ?_
  refine WD_read rfl trivial (fun w' hS' => PR_loadNd rfl rfl (hs.on hS' (fun _ h => h)) h0 (fun j u hj => cell_on hs h0 hS' (c0 j u hj))) rfl ?_
  refine D ?_
  apply WD_op
  exact rfl
  apply WO_build (vs := [(0, .int .i64 2), (1, .int .i64 1)])
  exact trivial
  exact rfl
  exact buildNb1
  exact rfl
  refine D ?_
  try (refine WD_read rfl trivial (fun w' hS' => PR_load_blk rfl rfl (hblk.ext hS' nb) rfl) rfl ?_)
  refine D ?_
  refine WD_read rfl trivial (fun w' hS' => PR_loadNd rfl rfl (hs.on hS' (fun _ h => h)) h1 (fun j u hj => cell_on hs h1 hS' (c1 j u hj))) rfl ?_
  refine WD_eff rfl trivial (OE_call rfl (evs4 rfl rfl rfl rfl) (choice_any (x := x.kids[0]) (y := .mk 2 1 [] []) (n := x.kids[1]) (hcs 0 h0 (by omega)) (exprBool 1) (hcs 1 h1 (by omega)) _ bc base v _ _ _ xs (hc.up hS) ⟨u0, rfl, s0⟩ ⟨_, rfl, nilSlv _ _⟩ ⟨u1, rfl, s1⟩ (hF.up hS) hl)) (fun _ _ h => by obtain ⟨_, _, h2, _⟩ := h; exact h2) rfl ?_
  rintro _ w5 hq
  refine D ?_
  refine W ?_
  first | refine WQ_ret1 rfl rfl ?_ | refine WQ_ret2 rfl rfl rfl ?_ | refine WQ_ret3 rfl rfl rfl rfl ?_ | refine WQ_ret0 rfl ?_ | refine WQ_end0 rfl ?_
  exact .mk (hq.pre hS)
end Go.Proofs.YtgpibcgebpgmiaaDoor


namespace Go.Proofs.YtgpibcgebpgmiaaDoor
open Go Go.Eng Go.RowKit
set_option linter.unusedVariables false

theorem SlV.nil {α : Type} [GoRep α] {X : List Nat} {w : World} {v : Value} {l : List α} (h : SlV X w v l) : SlV [] w v l := h.ext (Stp.refl [] w) (by simp) (by simp)
theorem binaryC_any (x : Nd) (hk6 : x.kind = 6) (cs : List Cf) (hk2 : x.kids.length = 2) (hcl : cs.length = x.kids.length) (hcs : ∀ i (h : i < x.kids.length) (h' : i < cs.length), ExprOk x.kids[i] cs[i]) (w : World) (bc base : Nat) (v nv : Value) (xs : List Ins) (hcd : Cod w bc base v xs)
    (hx : NdV (bc :: ob v) w nv x) (hF : SlV (bc :: ob v) w flds fieldNames) (hl : xs.length + (combC x.kind x.num x.word cs xs.length).length ≤ 100000) :
    Calls Tryd.prog 93 #[.pointer (some ⟨bc, 0, none⟩), nv] w (Ret fun r w' => Cods w bc base v (xs ++ combC x.kind x.num x.word cs xs.length) w') := by
  have hne : ¬ cs.length = 0 := by omega
  have hn9 : ¬ x.kind = 9 := by omega
  unfold combC at hl ⊢
  rw [if_neg hne, if_neg hn9] at hl ⊢
  obtain ⟨kv, rfl, hs⟩ := hx
  refine calls_of_WC2 (n := 17) Tryd.func93 rfl rfl rfl ?_
  refine W ?_
  refine WL_eff (OE_box rfl) rfl ?_
  rintro _ wA ⟨b, rfl, hb, hblk, hS⟩
  replace hblk : Blk wA b _ (ndC x kv) := hblk
  have main : ∀ ys w', Cods wA bc base v ys w' → Cods w bc base v ys w' := fun ys w' h => h.pre hS
  replace hcd := hcd.up hS
  replace hs := hs.up hS
  replace hF := hF.up hS
  repeat' (first | refine W1 ?_ | (exfalso; omega) | refine WL_split rfl rfl (fun hg => ?_) (fun hg => ?_) | refine WL_splitB rfl rfl (fun hg => ?_) (fun hg => ?_) | refine WC_cond rfl (fun hc => ?_) (fun hc => ?_) | refine WC_condB rfl (fun hc => ?_) (fun hc => ?_))
  · rw [if_pos ⟨hk6, by assumption⟩] at hl ⊢
    refine WL_eff (OE_call rfl (evs2 rfl rfl) (and_any x cs hk2 hcl hcs _ bc base _ _ _ hcd ⟨kv, rfl, hs⟩ hF hl)) rfl ?_
    rintro _ w2 hq
    refine W ?_
    first | refine WQ_ret1 rfl rfl ?_ | refine WQ_ret2 rfl rfl rfl ?_ | refine WQ_ret3 rfl rfl rfl rfl ?_ | refine WQ_ret0 rfl ?_ | refine WQ_end0 rfl ?_
    exact .mk (main _ _ hq)
  · rw [if_neg (fun h => absurd h.2 (by assumption)), if_pos ⟨hk6, by assumption⟩] at hl ⊢
    refine WL_eff (OE_call rfl (evs2 rfl rfl) (or_any x cs hk2 hcl hcs _ bc base _ _ _ hcd ⟨kv, rfl, hs⟩ hF hl)) rfl ?_
    rintro _ w2 hq
    refine W ?_
    first | refine WQ_ret1 rfl rfl ?_ | refine WQ_ret2 rfl rfl rfl ?_ | refine WQ_ret3 rfl rfl rfl rfl ?_ | refine WQ_ret0 rfl ?_ | refine WQ_end0 rfl ?_
    exact .mk (main _ _ hq)
  · rw [if_neg (fun h => absurd h.2 (by assumption)), if_neg (fun h => absurd h.2 (by assumption)), if_pos ⟨hk6, by assumption⟩] at hl ⊢
    rw [List.length_append] at hl
    refine WL_eff (OE_call rfl (evs2 rfl rfl) (minus_any x cs hcl hcs _ bc base _ _ _ hcd ⟨kv, rfl, hs⟩ hF (by omega))) rfl ?_
    rintro _ w2 hq
    refine W ?_
    first | refine WQ_ret1 rfl rfl ?_ | refine WQ_ret2 rfl rfl rfl ?_ | refine WQ_ret3 rfl rfl rfl rfl ?_ | refine WQ_ret0 rfl ?_ | refine WQ_end0 rfl ?_
    exact .mk (main _ _ hq)
  · rw [if_neg (fun h => absurd h.2 (by assumption)), if_neg (fun h => absurd h.2 (by assumption)), if_neg (fun h => absurd h.2 (by assumption))] at hl ⊢
    refine WL_eff (OE_call rfl (evs2 rfl rfl) (plain_any x cs hcl hcs _ bc base _ _ _ hcd ⟨kv, rfl, hs⟩ hF hl)) rfl ?_
    rintro _ w2 hq
    refine W ?_
    first | refine WQ_ret1 rfl rfl ?_ | refine WQ_ret2 rfl rfl rfl ?_ | refine WQ_ret3 rfl rfl rfl rfl ?_ | refine WQ_ret0 rfl ?_ | refine WQ_end0 rfl ?_
    exact .mk (main _ _ hq)
theorem codeN_leaf {x : Nd} (h : x.kids = []) (p : Nat) : codeN x p = [leafI x.kind x.num x.word] := by
  rw [codeN_eq, h]
  simp [combC]
theorem codeN_kids {x : Nd} (h : x.kids ≠ []) : (x.kids.map codeN).length ≠ 0 := by simpa using h
theorem codeN_getD {x : Nd} {i : Nat} (h : i < x.kids.length) : (x.kids.map codeN).getD i nilC = codeN x.kids[i] := by simp [List.getD, h]
theorem expr_ok (x : Nd) : typeT x ≠ 0 → ExprOk x (codeN x) := by
  induction x using Nd.ind with
  | h k n s l ih =>
  intro hty
  have hkt := (typed_kids hty).2
  have hcs : ∀ i (h : i < (Nd.mk k n s l).kids.length) (h' : i < ((Nd.mk k n s l).kids.map codeN).length), ExprOk (Nd.mk k n s l).kids[i] ((Nd.mk k n s l).kids.map codeN)[i] := by
    intro i h h'
    rw [List.getElem_map]
    exact ih _ (List.getElem_mem h) (hkt _ (List.getElem_mem h))
  have hcl : ((Nd.mk k n s l).kids.map codeN).length = (Nd.mk k n s l).kids.length := by simp
  have hsh := typed_shape hty
  have hlf := typed_leaf hty
  have hcN := codeN_eq (.mk k n s l)
  have hcL := codeN_leaf (x := .mk k n s l)
  have hkl : (Nd.mk k n s l).kids ≠ [] → 5 ≤ (Nd.mk k n s l).kind := by
    intro h
    rcases (hsh h).2 with ⟨h, _, _⟩ | ⟨h, _, _⟩ | ⟨h, _, _⟩ | ⟨h, _⟩ | ⟨h, _, _⟩ <;> omega
  have hk6 : (Nd.mk k n s l).kind = 6 → (Nd.mk k n s l).kids.length = 2 := by
    intro h6
    by_cases h0 : (Nd.mk k n s l).kids = []
    · have := hlf h0; omega
    rcases (hsh h0).2 with ⟨h, _, _⟩ | ⟨h, _, hm⟩ | ⟨h, _, _⟩ | ⟨h, _⟩ | ⟨h, _, _⟩ <;> omega
  have hk9 : (Nd.mk k n s l).kind = 9 → (Nd.mk k n s l).kids.length = 3 := by
    intro h6
    by_cases h0 : (Nd.mk k n s l).kids = []
    · have := hlf h0; omega
    rcases (hsh h0).2 with ⟨h, _, _⟩ | ⟨h, _, hm⟩ | ⟨h, _, _⟩ | ⟨h, hm⟩ | ⟨h, _, _⟩ <;> omega
  have hgD := fun i => codeN_getD (x := .mk k n s l) (i := i)
  generalize (Nd.mk k n s l) = x at *
  clear ih
  intro w bc base v nv xs hcd hx hF hl
  obtain ⟨kv, rfl, hs⟩ := hx
  refine calls_of_WC2 (n := 63) Tryd.func68 rfl rfl rfl ?_
  refine W ?_
  refine WL_eff (OE_box rfl) rfl ?_
  rintro _ wA ⟨b, rfl, hb, hblk, hS⟩
  replace hblk : Blk wA b _ (ndC x kv) := hblk
  have main : ∀ ys w', Cods wA bc base v ys w' → Cods w bc base v ys w' := fun ys w' h => h.pre hS
  have hobv : ∀ b ∈ bc :: ob v, b < w.heap.size := fun b hb => by
    rcases List.mem_cons.1 hb with rfl | h
    · exact hcd.blk.lt
    · exact (hcd.row.ob_le b h).2
  have nb : b ∉ bc :: ob v := fun h => by have := hobv _ h; omega
  replace hcd := hcd.up hS
  replace hs := hs.up hS
  replace hF := hF.up hS
  have leaf : ∀ op n, [(⟨op, n⟩ : Ins)] = codeN x xs.length → ∀ w', Cods wA bc base v (xs ++ [⟨op, n⟩]) w' → Cods w bc base v (xs ++ codeN x xs.length) w' := fun op n h w' h' => h ▸ main _ _ h'
  repeat' (first | refine W1 ?_ | (exfalso; omega) | refine WL_split rfl rfl (fun hg => ?_) (fun hg => ?_) | refine WL_splitB rfl rfl (fun hg => ?_) (fun hg => ?_) | refine WC_cond rfl (fun hc => ?_) (fun hc => ?_) | refine WC_condB rfl (fun hc => ?_) (fun hc => ?_))
  · have h0 : x.kids = [] := Decidable.byContradiction (fun h => by have := hkl h; omega)
    refine WL_eff (OE_call rfl (evs3 rfl rfl rfl) (put_any bc base _ _ 1 x.num _ hcd (by omega))) rfl ?_
    rintro _ w2 ⟨rfl, hq⟩
    refine W ?_
    first | refine WQ_ret1 rfl rfl ?_ | refine WQ_ret2 rfl rfl rfl ?_ | refine WQ_ret3 rfl rfl rfl rfl ?_ | refine WQ_ret0 rfl ?_ | refine WQ_end0 rfl ?_
    exact .mk (leaf _ _ (by rw [hcL h0, leafI, if_pos (by assumption)]) _ hq)
  · have h0 : x.kids = [] := Decidable.byContradiction (fun h => by have := hkl h; omega)
    refine WL_eff (OE_call rfl (evs3 rfl rfl rfl) (put_any bc base _ _ 2 x.num _ hcd (by omega))) rfl ?_
    rintro _ w2 ⟨rfl, hq⟩
    refine W ?_
    first | refine WQ_ret1 rfl rfl ?_ | refine WQ_ret2 rfl rfl rfl ?_ | refine WQ_ret3 rfl rfl rfl rfl ?_ | refine WQ_ret0 rfl ?_ | refine WQ_end0 rfl ?_
    exact .mk (leaf _ _ (by rw [hcL h0, leafI, if_neg (by assumption), if_pos (by assumption)]) _ hq)
  · have h0 : x.kids = [] := Decidable.byContradiction (fun h => by have := hkl h; omega)
    refine WL_eff (OE_call rfl (evs3 rfl rfl rfl) (put_any bc base _ _ 3 x.num _ hcd (by omega))) rfl ?_
    rintro _ w2 ⟨rfl, hq⟩
    refine W ?_
    first | refine WQ_ret1 rfl rfl ?_ | refine WQ_ret2 rfl rfl rfl ?_ | refine WQ_ret3 rfl rfl rfl rfl ?_ | refine WQ_ret0 rfl ?_ | refine WQ_end0 rfl ?_
    exact .mk (leaf _ _ (by rw [hcL h0, leafI, if_neg (by assumption), if_neg (by assumption), if_pos (by assumption)]) _ hq)
  · have h0 : x.kids = [] := Decidable.byContradiction (fun h => by have := hkl h; omega)
    refine WL_eff (OE_call rfl (evs1 rfl) (Field_any x.word _ (SlV.nil hF))) rfl ?_
    rintro _ w2 ⟨rfl, hS2⟩
    refine W ?_
    refine WL_eff (OE_call rfl (evs3 rfl rfl rfl) (put_any bc base _ _ 4 (fieldF x.word).1 _ (hcd.up hS2) (by omega))) rfl ?_
    rintro _ w3 ⟨rfl, hq⟩
    refine W ?_
    first | refine WQ_ret1 rfl rfl ?_ | refine WQ_ret2 rfl rfl rfl ?_ | refine WQ_ret3 rfl rfl rfl rfl ?_ | refine WQ_ret0 rfl ?_ | refine WQ_end0 rfl ?_
    exact .mk (leaf _ _ (by rw [hcL h0, leafI, if_neg (by assumption), if_neg (by assumption), if_neg (by assumption)]) _ (hq.pre hS2))
  · have h6 : x.kind = 6 := by assumption
    rw [hcN] at hl ⊢
    refine WL_eff (OE_call rfl (evs2 rfl rfl) (binaryC_any x h6 _ (hk6 h6) hcl hcs _ bc base _ _ _ hcd ⟨kv, rfl, hs⟩ hF hl)) rfl ?_
    rintro _ w2 hq
    refine W ?_
    first | refine WQ_ret1 rfl rfl ?_ | refine WQ_ret2 rfl rfl rfl ?_ | refine WQ_ret3 rfl rfl rfl rfl ?_ | refine WQ_ret0 rfl ?_ | refine WQ_end0 rfl ?_
    exact .mk (main _ _ hq)
  · have h9 : x.kind = 9 := by assumption
    have h3 := hk9 h9
    have e9 : codeN x = chC (codeN (x.kids[0]'(by omega))) (codeN (x.kids[1]'(by omega))) (codeN (x.kids[2]'(by omega))) := by
      funext p
      rw [hcN, combC, if_neg (by omega), if_pos h9, hgD 0 (by omega), hgD 1 (by omega), hgD 2 (by omega)]
    have c0 := hcs 0 (by omega) (by omega)
    have c1 := hcs 1 (by omega) (by omega)
    have c2 := hcs 2 (by omega) (by omega)
    rw [List.getElem_map] at c0 c1 c2
    rw [e9] at hl ⊢
    have h0 : 0 < x.kids.length := by omega
    have h1 : 1 < x.kids.length := by omega
    have h2 : 2 < x.kids.length := by omega
    refine WC_drawn 14 (bc :: ob v) [] [(0, 0), (1, 0), (2, 1), (3, 0), (4, 1), (5, 0), (6, 1), (7, 0), (8, 1), (9, 0), (10, 1), (11, 0), (12, 1), (13, 2)] rfl mixed (by kernel_rfl) (by kernel_rfl) (by kernel_rfl) (fun w1 hS1 => ?_)
    replace hs := hs.up hS1
    replace hblk := hblk.up hS1
    replace hS := hS.trans hS1
    obtain ⟨u0, s0, d0⟩ := hs.nd h0
    obtain ⟨u1, s1, d1⟩ := hs.nd h1
    obtain ⟨u2, s2, d2⟩ := hs.nd h2
    refine D ?_
    try (refine WD_read rfl trivial (fun w' hS' => PR_load_blk rfl rfl (hblk.ext hS' nb) rfl) rfl ?_)
    refine D ?_
    refine WD_read rfl trivial (fun w' hS' => PR_loadNd rfl rfl (hs.on hS' (fun _ h => h)) h0 (fun j u hj => cell_on hs h0 hS' (d0 j u hj))) rfl ?_
    refine D ?_
    try (refine WD_read rfl trivial (fun w' hS' => PR_load_blk rfl rfl (hblk.ext hS' nb) rfl) rfl ?_)
    refine D ?_
    refine WD_read rfl trivial (fun w' hS' => PR_loadNd rfl rfl (hs.on hS' (fun _ h => h)) h1 (fun j u hj => cell_on hs h1 hS' (d1 j u hj))) rfl ?_
    refine D ?_
    try (refine WD_read rfl trivial (fun w' hS' => PR_load_blk rfl rfl (hblk.ext hS' nb) rfl) rfl ?_)
    refine D ?_
    refine WD_read rfl trivial (fun w' hS' => PR_loadNd rfl rfl (hs.on hS' (fun _ h => h)) h2 (fun j u hj => cell_on hs h2 hS' (d2 j u hj))) rfl ?_
    refine D ?_
    refine WD_eff rfl trivial (OE_call rfl (evs4 rfl rfl rfl rfl) (choice_any c0 c1 c2 _ bc base v _ _ _ xs (hcd.up hS1) ⟨u0, rfl, s0⟩ ⟨u1, rfl, s1⟩ ⟨u2, rfl, s2⟩ (hF.up hS1) hl)) (fun _ _ h => by obtain ⟨_, _, h2, _⟩ := h; exact h2) rfl ?_
    rintro _ w5 hq
    refine D ?_
    refine W ?_
    first | refine WQ_ret1 rfl rfl ?_ | refine WQ_ret2 rfl rfl rfl ?_ | refine WQ_ret3 rfl rfl rfl rfl ?_ | refine WQ_ret0 rfl ?_ | refine WQ_end0 rfl ?_
    exact .mk (hq.pre hS)
  · have h0 : x.kids ≠ [] := fun h => by have := hlf h; omega
    have e0 : combC x.kind x.num x.word (x.kids.map codeN) xs.length = plainC x.kind x.word (x.kids.map codeN) xs.length := by
      rw [combC, if_neg (codeN_kids h0), if_neg (by assumption), if_neg (fun h => absurd h.1 (by assumption)), if_neg (fun h => absurd h.1 (by assumption)), if_neg (fun h => absurd h.1 (by assumption))]
    rw [hcN, e0] at hl ⊢
    refine WL_eff (OE_call rfl (evs2 rfl rfl) (plain_any x _ hcl hcs _ bc base _ _ _ hcd ⟨kv, rfl, hs⟩ hF hl)) rfl ?_
    rintro _ w2 hq
    refine W ?_
    first | refine WQ_ret1 rfl rfl ?_ | refine WQ_ret2 rfl rfl rfl ?_ | refine WQ_ret3 rfl rfl rfl rfl ?_ | refine WQ_ret0 rfl ?_ | refine WQ_end0 rfl ?_
    exact .mk (main _ _ hq)
end Go.Proofs.YtgpibcgebpgmiaaDoor


namespace Go.Proofs.YtgpibcgebpgmiaaDoor
open Go Go.Eng Go.RowKit
set_option linter.unusedVariables false

theorem seqC_len (l : List Nd) (h : ∀ y ∈ l, ∀ p, (codeN y p).length ≤ 8 * sizeN y) (p : Nat) : (seqC (l.map codeN) p).length ≤ 8 * (l.map sizeN).sum := by
  induction l generalizing p with
  | nil => simp [seqC]
  | cons x r ih =>
    simp only [List.map_cons, seqC, List.length_append, List.sum_cons]
    have h1 := h x (by simp) p
    have h2 := ih (fun y hy => h y (by simp [hy])) (p + (codeN x p).length)
    omega
theorem insO_len (l : List Int) : (insO l).length = l.length := by simp [insO]
theorem getD_len {l : List Nd} (h : ∀ y ∈ l, ∀ p, (codeN y p).length ≤ 8 * sizeN y) (i p : Nat) : ((l.map codeN).getD i nilC p).length ≤ 8 * (l.map sizeN).getD i 0 := by
  by_cases hi : i < l.length
  · simp [List.getD, hi]
    exact h _ (List.getElem_mem hi) p
  · simp [List.getD, hi, nilC]
theorem getD_sum (l : List Nat) : l.getD 0 0 + l.getD 1 0 + l.getD 2 0 ≤ l.sum := by
  rcases l with _ | ⟨a, _ | ⟨b, _ | ⟨c, r⟩⟩⟩ <;> simp <;> omega
theorem chC_len (c y n : Cf) (A B C : Nat) (hc : ∀ p, (c p).length ≤ A) (hy : ∀ p, (y p).length ≤ B) (hn : ∀ p, (n p).length ≤ C) (p : Nat) : (chC c y n p).length ≤ A + B + C + 2 := by
  unfold chC
  simp only [List.length_append, List.length_cons, List.length_nil]
  have h1 := hc p
  have h2 := hy (p + (c p).length + 1)
  have h3 := hn (p + (c p).length + 1 + (y (p + (c p).length + 1)).length + 1)
  omega
theorem codeN_len (x : Nd) : ∀ p, (codeN x p).length ≤ 8 * sizeN x := by
  induction x using Nd.ind with
  | h k n s l ih =>
  intro p
  rw [codeN_eq, sizeN_eq]
  show (combC k n s (l.map codeN) p).length ≤ 8 * (1 + (l.map sizeN).sum)
  have hs := getD_sum (l.map sizeN)
  have g := getD_len ih
  have hp : (plainC k s (l.map codeN) p).length ≤ 8 * (l.map sizeN).sum + 3 := by
    unfold plainC
    simp only [List.length_append, insO_len]
    have h1 := seqC_len l ih p
    have h2 := opF_len s
    have h3 : (if k = 8 ∨ k = 5 ∧ s = [45] then [(⟨8, 0⟩ : Ins)] else []).length ≤ 1 := by split <;> simp
    omega
  unfold combC
  split
  · simp; omega
  split
  · refine Nat.le_trans (chC_len _ _ _ _ _ _ (g 0) (g 1) (g 2) p) (by omega)
  split
  · refine Nat.le_trans (chC_len _ _ _ _ _ 1 (g 0) (g 1) (fun _ => by simp) p) (by omega)
  split
  · refine Nat.le_trans (chC_len _ _ _ _ 1 _ (g 0) (fun _ => by simp) (g 1) p) (by omega)
  split
  · simp only [List.length_append, List.length_cons, List.length_nil]; omega
  · omega
def exprF (x : Nd) : List Ins := codeN x 0 ++ [⟨24, 0⟩]
def errX (x : Nd) : Int := if nestN x ≤ 12 then (if typeT x = 0 then 21 else if (exprF x).length > 200 then 2 else 0) else 2
/-- what 'compile.Expression' gives -/
def ExprR (w : World) (x : Nd) (r : Value) (w' : World) : Prop := ∃ cv, r = .tuple #[cv, .int .i64 (errX x)] ∧ (∀ X : List Nat, (∀ b ∈ X, b < w.heap.size) → SlV X w' cv (if errX x = 0 then exprF x else [])) ∧ Stp [] w w'
theorem Expression_any (v : Value) (x : Nd) (w : World) (hsz : sizeN x ≤ 1000) (hx : NdV [] w v x) (hF : SlV [] w flds fieldNames) :
    Calls Tryd.prog 26 #[v] w (Ret (ExprR w x)) := by
  have hN := hx
  obtain ⟨kv, rfl, hs⟩ := hx
  refine calls_of_WC1 (n := 24) Tryd.func26 rfl rfl rfl ?_
  refine W ?_
  refine WL_eff (OE_box rfl) rfl ?_
  rintro _ w1 ⟨b, rfl, hb, hblk, hS⟩
  replace hblk : Blk w1 b _ (ndC x kv) := hblk
  replace hs := hs.up hS; replace hN := hN.up hS; replace hF := hF.up hS
  refine W ?_
  refine WL_eff (OE_call rfl (evs1 rfl) (Of_any [] [] _ x _ hN hF)) rfl ?_
  rintro _ w2 ⟨rfl, hS2⟩
  replace hs := hs.up hS2; replace hN := hN.up hS2; replace hF := hF.up hS2; replace hblk := hblk.up hS2
  replace hS := hS.trans hS2
  by_cases hn : nestN x ≤ 12
  case neg =>
    rw [if_neg hn, if_neg hn]
    have he : errX x = 2 := by rw [errX, if_neg hn]
    repeat' (first | refine W1 ?_ | (exfalso; omega) | refine WL_split rfl rfl (fun hg => ?_) (fun hg => ?_) | refine WL_splitB rfl rfl (fun hg => ?_) (fun hg => ?_) | refine WC_cond rfl (fun hc => ?_) (fun hc => ?_) | refine WC_condB rfl (fun hc => ?_) (fun hc => ?_))
    first | refine WQ_ret1 rfl rfl ?_ | refine WQ_ret2 rfl rfl rfl ?_ | refine WQ_ret3 rfl rfl rfl rfl ?_ | refine WQ_ret0 rfl ?_ | refine WQ_end0 rfl ?_
    refine .mk ⟨_, by rw [he]; rfl, fun X hX => ?_, hS⟩
    rw [he, if_neg (by decide)]
    exact nilSlv _ _
  by_cases ht : typeT x = 0
  · rw [if_pos hn, if_pos hn, if_pos ht]
    have he : errX x = 21 := by rw [errX, if_pos hn, if_pos ht]
    repeat' (first | refine W1 ?_ | (exfalso; omega) | refine WL_split rfl rfl (fun hg => ?_) (fun hg => ?_) | refine WL_splitB rfl rfl (fun hg => ?_) (fun hg => ?_) | refine WC_cond rfl (fun hc => ?_) (fun hc => ?_) | refine WC_condB rfl (fun hc => ?_) (fun hc => ?_))
    first | refine WQ_ret1 rfl rfl ?_ | refine WQ_ret2 rfl rfl rfl ?_ | refine WQ_ret3 rfl rfl rfl rfl ?_ | refine WQ_ret0 rfl ?_ | refine WQ_end0 rfl ?_
    refine .mk ⟨_, by rw [he]; rfl, fun X hX => ?_, hS⟩
    rw [he, if_neg (by decide)]
    exact nilSlv _ _
  rw [if_pos hn, if_pos hn, if_neg ht]
  repeat' (first | refine W1 ?_ | (exfalso; omega) | refine WL_split rfl rfl (fun hg => ?_) (fun hg => ?_) | refine WL_splitB rfl rfl (fun hg => ?_) (fun hg => ?_) | refine WC_cond rfl (fun hc => ?_) (fun hc => ?_) | refine WC_condB rfl (fun hc => ?_) (fun hc => ?_))
  refine WL_eff OE_alloc rfl ?_
  rintro _ w3 ⟨bc, rfl, hbc, hblkc, hS3⟩
  replace hblk := hblk.up hS3
  replace hblkc : Blk w3 bc 106 [.slice none 0 0] := hblkc
  refine W ?_
  have hcod : Cod w3 bc w3.heap.size (.slice none 0 0) [] := ⟨hblkc, Row.nil, by simp [ob], hblkc.lt, Nat.le_refl _⟩
  have fr := Fr.start hcod
  have hlen := codeN_len x 0
  refine WL_eff (OE_call rfl (evs2 rfl rfl) (expr_ok x ht _ bc _ _ _ [] hcod ⟨kv, rfl, ?_⟩ ?_ ?_)) rfl ?_
  · refine hs.ext hS3 (by simp) (fun c hc => .inr ?_)
    simp [ob] at hc; omega
  · refine hF.ext hS3 (by simp) (fun c hc => .inr ?_)
    simp [ob] at hc; omega
  · simp only [List.length_nil]; omega
  rintro _ w4 hq
  obtain ⟨v4, fr⟩ := fr.step hq
  rw [List.nil_append, List.length_nil] at fr
  refine W ?_
  refine WL_eff (OE_call rfl (evs3 rfl rfl rfl) (put_any bc _ _ _ 24 0 _ fr.cod (by omega))) rfl ?_
  rintro _ w5 ⟨rfl, hq⟩
  obtain ⟨v5, fr⟩ := fr.step hq
  have hfin : Stp [] w w5 := hS.trans (hS3.own fr.stp (fun c hc => .inr (by simp [ob] at hc; omega)))
  have hrow := fr.cod.row
  have hblk5 := fr.cod.blk
  have hslv := hrow.slv0
  have hel : ((codeN x 0 ++ [(⟨24, 0⟩ : Ins)]).length : Int) = (exprF x).length := rfl
  by_cases hg : (exprF x).length > 200
  · have he : errX x = 2 := by rw [errX, if_pos hn, if_neg ht, if_pos hg]
    repeat' (first | refine W1 ?_ | (exfalso; omega) | refine WL_split rfl rfl (fun hg => ?_) (fun hg => ?_) | refine WL_splitB rfl rfl (fun hg => ?_) (fun hg => ?_) | refine WC_cond rfl (fun hc => ?_) (fun hc => ?_) | refine WC_condB rfl (fun hc => ?_) (fun hc => ?_))
    first | refine WQ_ret1 rfl rfl ?_ | refine WQ_ret2 rfl rfl rfl ?_ | refine WQ_ret3 rfl rfl rfl rfl ?_ | refine WQ_ret0 rfl ?_ | refine WQ_end0 rfl ?_
    refine .mk ⟨_, by rw [he], fun X hX => ?_, hfin⟩
    rw [he, if_neg (by decide)]
    exact nilSlv _ _
  · have he : errX x = 0 := by rw [errX, if_pos hn, if_neg ht, if_neg hg]
    repeat' (first | refine W1 ?_ | (exfalso; omega) | refine WL_split rfl rfl (fun hg => ?_) (fun hg => ?_) | refine WL_splitB rfl rfl (fun hg => ?_) (fun hg => ?_) | refine WC_cond rfl (fun hc => ?_) (fun hc => ?_) | refine WC_condB rfl (fun hc => ?_) (fun hc => ?_))
    first | refine WQ_ret1 rfl rfl ?_ | refine WQ_ret2 rfl rfl rfl ?_ | refine WQ_ret3 rfl rfl rfl rfl ?_ | refine WQ_ret0 rfl ?_ | refine WQ_end0 rfl ?_
    refine .mk ⟨_, by rw [he], fun X hX => ?_, hfin⟩
    rw [he, if_pos rfl]
    exact Row.slv (X := X) hrow (fun b hb => by have := hX b hb; have := hS.size; have := hS3.size; omega)
end Go.Proofs.YtgpibcgebpgmiaaDoor


namespace Go.Proofs.YtgpibcgebpgmiaaDoor
open Go Go.Eng Go.RowKit
set_option linter.unusedVariables false

theorem guardI (op : BinOp) (x y : Operand) (a b : Ins) (w : World) : (eqGuard op 59 x y (agg a) (agg b)).run Tryd.prog w = .ok () w := by
  cases op <;> kernel_rfl
theorem neqI (a b : Ins) (w : World) : (binOp .neq 59 (agg a) (agg b)).run Tryd.prog w = .ok (.bool (decide (¬ a = b))) w := by
  have h1 : Program.stoodInHeld Tryd.prog 59 = false := by kernel_rfl
  obtain ⟨a1, a2⟩ := a
  obtain ⟨b1, b2⟩ := b
  simp [agg, Flat.enc, run_neq_struct, run_equalIn_struct, h1, Program.fieldsOf, Tryd.underlying59, Op.eqFields, part, Und.isAgg, aggB, run_equalIn_int w _ _ .i64 .i64 _ _ Tryd.underlying3]
  repeat' split
  all_goals simp_all
theorem SameCode_any (va vb : Value) (xs ys : List Ins) (w : World) (ha : SlV [] w va xs) (hb : SlV [] w vb ys) :
    Calls Tryd.prog 54 #[va, vb] w (Ret fun r w' => r = .bool (decide (xs = ys)) ∧ Stp [] w w') := by
  have hma := ha.max
  have hmb := hb.max
  refine calls_of_WC2 (n := 26) Tryd.func54 rfl rfl rfl ?_
  refine W ?_
  by_cases hl : xs.length = ys.length
  case neg =>
    repeat' (first | refine W1 ?_ | (exfalso; omega) | refine WL_split rfl rfl (fun hg => ?_) (fun hg => ?_) | refine WL_splitB rfl rfl (fun hg => ?_) (fun hg => ?_) | refine WC_cond rfl (fun hc => ?_) (fun hc => ?_) | refine WC_condB rfl (fun hc => ?_) (fun hc => ?_))
    first | refine WQ_ret1 rfl rfl ?_ | refine WQ_ret2 rfl rfl rfl ?_ | refine WQ_ret3 rfl rfl rfl rfl ?_ | refine WQ_ret0 rfl ?_ | refine WQ_end0 rfl ?_
    exact .mk ⟨by congr 1; rw [eq_comm, decide_eq_false_iff_not]; exact fun h => hl (by rw [h]), Stp.refl _ _⟩
  repeat' (first | refine W1 ?_ | (exfalso; omega) | refine WL_split rfl rfl (fun hg => ?_) (fun hg => ?_) | refine WL_splitB rfl rfl (fun hg => ?_) (fun hg => ?_) | refine WC_cond rfl (fun hc => ?_) (fun hc => ?_) | refine WC_condB rfl (fun hc => ?_) (fun hc => ?_))
  refine WC_loop (σ := Nat) (fun j => [(0, va), (1, vb), (4, .bool false), (5, .int .i64 (j : Int))]) (fun j w' => j ≤ xs.length ∧ Stp [] w w' ∧ ∀ i (h : i < xs.length), i < j → xs[i] = ys[i]'(by omega)) (fun j => xs.length - j) 0 ⟨rfl, rfl, rfl, rfl, trivial⟩ ⟨Nat.zero_le _, Stp.refl _ _, fun i _ h => absurd h (Nat.not_lt_zero _)⟩ ?_
  rintro j w2 ⟨hj, hS, heq⟩
  try dsimp only at hj heq ⊢
  replace ha := ha.up hS
  replace hb := hb.up hS
  by_cases hlt : j < xs.length
  · have hlt' : j < ys.length := by omega
    repeat' (first | refine W1 ?_ | (exfalso; omega) | refine WL_split rfl rfl (fun hg => ?_) (fun hg => ?_) | refine WL_splitB rfl rfl (fun hg => ?_) (fun hg => ?_) | refine WC_cond rfl (fun hc => ?_) (fun hc => ?_) | refine WC_condB rfl (fun hc => ?_) (fun hc => ?_))
    refine WC_drawn 9 [] [] [(0, 0), (1, 0), (2, 0), (3, 1), (4, 0), (5, 0), (6, 0), (7, 1), (8, 0)] rfl mixed (by kernel_rfl) (by kernel_rfl) (by kernel_rfl) (fun w1 hS1 => ?_)
    replace ha := ha.up hS1
    replace hb := hb.up hS1
    replace hS := hS.trans hS1
    refine D ?_
    apply WD_op
    exact rfl
    refine WO_neqS (c := xs[j] = ys[j]) trivial rfl rfl (fun w => guardI _ _ _ xs[j] ys[j] w) (by intro w; exact neqI xs[j] ys[j] w) rfl ?_
    refine D ?_
    repeat' (first | refine W1 ?_ | (exfalso; omega) | refine WL_split rfl rfl (fun hg => ?_) (fun hg => ?_) | refine WL_splitB rfl rfl (fun hg => ?_) (fun hg => ?_) | refine WC_cond rfl (fun hc => ?_) (fun hc => ?_) | refine WC_condB rfl (fun hc => ?_) (fun hc => ?_))
    · first | refine WQ_ret1 rfl rfl ?_ | refine WQ_ret2 rfl rfl rfl ?_ | refine WQ_ret3 rfl rfl rfl rfl ?_ | refine WQ_ret0 rfl ?_ | refine WQ_end0 rfl ?_
      exact .mk ⟨by congr 1; rw [eq_comm, decide_eq_false_iff_not]; exact fun h => hc (by simp [h]), hS⟩
    · have he : xs[j] = ys[j] := Decidable.byContradiction hc
      have hk : ∀ i (h : i < xs.length), i < j + 1 → xs[i] = ys[i]'(by omega) := fun i h hi => by
        by_cases hij : i = j
        · subst hij; exact he
        · exact heq i h (by omega)
      exact WQ_loop (j + 1) ⟨rfl, rfl, rfl, rfl, trivial⟩ ⟨hlt, hS, hk⟩ (Nat.sub_lt_sub_left hlt (Nat.lt_succ_self j))
  · have hje : j = xs.length := by omega
    subst hje
    repeat' (first | refine W1 ?_ | (exfalso; omega) | refine WL_split rfl rfl (fun hg => ?_) (fun hg => ?_) | refine WL_splitB rfl rfl (fun hg => ?_) (fun hg => ?_) | refine WC_cond rfl (fun hc => ?_) (fun hc => ?_) | refine WC_condB rfl (fun hc => ?_) (fun hc => ?_))
    first | refine WQ_ret1 rfl rfl ?_ | refine WQ_ret2 rfl rfl rfl ?_ | refine WQ_ret3 rfl rfl rfl rfl ?_ | refine WQ_ret0 rfl ?_ | refine WQ_end0 rfl ?_
    exact .mk ⟨by congr 1; rw [eq_comm, decide_eq_true_eq]; exact List.ext_getElem hl (fun i h h' => heq i h h), hS⟩
end Go.Proofs.YtgpibcgebpgmiaaDoor


/-
Rows that a pure function makes; slices of slices.
-/
namespace Go.Eng
open Go Go.RowKit Go.Proofs
set_option linter.unusedVariables false

/-- a row made since w: nothing else has changed -/
def RowF {β : Type} [Flat β] (T : Nat) (w w' : World) (v : Value) (xs : List β) : Prop := Row [] w' w.heap.size T v xs ∧ Stp [] w w'
section
variable {β : Type} [Flat β] {T : Nat} {w w' w'' : World} {v : Value} {xs ys : List β}
theorem Row.lower {α : Type} [GoRep α] {X : List Nat} {a b : Nat} {xs : List α} (h : Row X w b T v xs) (hab : a ≤ b) : Row X w a T v xs := by
  obtain ⟨css, h1, h2, h3, h4⟩ := h
  refine ⟨css, h1, h2, h3, h4.imp id ?_⟩
  rintro ⟨g, cap, cur, e1, e2, rest⟩
  exact ⟨g, cap, cur, e1, Nat.le_trans hab e2, rest⟩
theorem RowF.nil : RowF (β := β) T w w (.slice none 0 0) [] := ⟨Row.nil, Stp.refl _ _⟩
theorem RowF.up (h : RowF T w w' v xs) (hS : Stp [] w' w'') : RowF T w w'' v xs := ⟨h.1.up hS, h.2.trans hS⟩
theorem RowF.pre (hS : Stp [] w w') (h : RowF T w' w'' v xs) : RowF T w w'' v xs := ⟨h.1.lower hS.size, hS.trans h.2⟩
theorem RowF.one {cs : List Value} {len : Nat} (h : NewSl w T len cs v w') (hl : len = xs.length) (hc : cs = xs.flatMap Flat.enc) (hm : xs.length ≤ maxLen) : RowF T w w' v xs := ⟨h.row (Nat.le_refl _) hl hc hm, h.choose_spec.2.2.2⟩
theorem RowF.slv (h : RowF T w w' v xs) {X : List Nat} (hX : ∀ b ∈ X, b < w.heap.size) : SlV X w' v xs := Row.slv (X := X) h.1 hX
theorem RowF.ob_le (h : RowF T w w' v xs) : ∀ b ∈ ob v, w.heap.size ≤ b ∧ b < w'.heap.size := h.1.ob_le
/-- a step that may write only the row's own block, or newer ones -/
theorem RowF.step {S : List Nat} (h : RowF T w w' v xs) (hS : Stp S w' w'') (ho : ∀ b ∈ S, b ∈ ob v) : Stp [] w w'' := h.2.own hS (fun b hb => .inr (h.ob_le b (ho b hb)).1)
section
variable {P : Program} {n : Nat} {e : Env} {d : Option Nat} {ty : TypeId} {pos : String} {af : Array Edge} {g : Option (Nat × Bool)}
theorem OE_appF {x y : Operand} {t bytes : Nat} {u : Value} {z : Value} [ht : Und P t (.slice T)] [hk : Siz P T (GoRep.k β)] [hb : Byt P T bytes] [hz : Zer P T z] (hzs : z.cells.size = GoRep.k β) (hpos : 0 < GoRep.k β)
    (hx : ev e x = some v) (hy : ev e y = some u) (h : RowF T w w' v xs) (hys : SlV (ob v) w' u ys) (hbytes : (xs.length + ys.length) * bytes ≤ 140737488355328) (hlen : xs.length + ys.length ≤ maxLen) :
    OE P n ⟨d, .call { callee := .builtin .append, args := #[x, y], argTypes := #[t, t] }, ty, pos, af, g⟩ e w' (fun v' w'' => RowF T w w'' v' (xs ++ ys) ∧ Stp (ob v) w' w'' ∧ ∀ b ∈ ob v', b ∈ ob v ∨ w'.heap.size ≤ b) := by
  refine (OE_append (X := []) (base := w.heap.size) hzs hpos hx hy h.1 (by rw [List.append_nil]; exact hys) hbytes hlen h.2.size).mono ?_
  rintro v' w2 ⟨h1, h2, h3⟩
  exact ⟨⟨h1, h.step h2 (fun _ hb => hb)⟩, h2, h3⟩
end
end

/-- a slice as an element -/
structure Sl (α : Type) where
  l : List α
instance {α : Type} [GoRep α] : GoRep (Sl α) where
  k := 1
  rep := fun X w x cs => ∃ v, cs = [v] ∧ SlV X w v x.l
  len := by rintro X w x cs ⟨v, rfl, _⟩; rfl
  one := by
    rintro X w x cs ⟨v, rfl, p, c, rfl, _⟩ u hu
    simp at hu
    subst hu
    rfl
  ext := by
    rintro X S X' w w' x cs ⟨v, rfl, h⟩ hS h1 h2
    exact ⟨v, rfl, h.ext hS h1 h2⟩
theorem NewSl.slvS {α : Type} [GoRep α] {w w' : World} {X : List Nat} {T len : Nat} {vs : List Value} {v : Value} {xss : List (Sl α)} (h : NewSl w T len vs v w') (hX : ∀ b ∈ X, b < w.heap.size) (hl : len = xss.length) (hvl : vs.length = xss.length)
    (hr : ∀ i (hi : i < xss.length) (hi' : i < vs.length), SlV X w vs[i] xss[i].l) (hm : xss.length ≤ maxLen) : SlV X w' v xss := by
  obtain ⟨b, rfl, hb, hblk, hS⟩ := h
  subst hl
  refine ⟨some ⟨b, 0, none⟩, xss.length, rfl, Nat.le_refl _, hm, fun h => by simp at h, fun i hi => ⟨b, 0, [vs[i]'(by omega)], rfl, hblk.lt, fun hx => by have := hX b hx; omega, ⟨_, rfl, (hr i hi (by omega)).up hS⟩, fun j u hu => ?_⟩⟩
  refine hblk.cell ?_
  have : j = 0 := by
    have := (List.getElem?_eq_some_iff.1 hu).1
    simp at this
    exact this
  subst this
  simp at hu
  subst hu
  simp [GoRep.k]
theorem SlV.sub {α : Type} [GoRep α] {w : World} {X : List Nat} {v : Value} {xss : List (Sl α)} {i : Nat} (h : SlV X w v xss) (hi : i < xss.length) : ∃ u, w.cell? (elAddr v i 1 0) = some u ∧ SlV X w u xss[i].l := by
  obtain ⟨cs, ⟨u, rfl, hu⟩, hc⟩ := h.cell hi
  exact ⟨u, hc 0 u rfl, hu⟩
end Go.Eng


namespace Go.Eng
open Go Go.RowKit Go.Proofs
set_option linter.unusedVariables false
theorem NewSl.slvG {α : Type} [GoRep α] {w w' : World} {X : List Nat} {T len : Nat} {cs : List Value} {v : Value} {ys : List α} {css : List (List Value)} (h : NewSl w T len cs v w') (hX : ∀ b ∈ X, b < w.heap.size) (hl : len = ys.length) (hcl : css.length = ys.length)
    (hc : cs = css.flatten) (hr : ∀ i (hi : i < ys.length) (hi' : i < css.length), GoRep.rep X w ys[i] css[i]) (hm : ys.length ≤ maxLen) : SlV X w' v ys := by
  obtain ⟨b, rfl, hb, hblk, hS⟩ := h
  subst hl
  subst hc
  have hk : ∀ c ∈ css, c.length = GoRep.k α := by
    intro c hc
    obtain ⟨i, hi, rfl⟩ := List.getElem_of_mem hc
    exact GoRep.len (hr i (by omega) hi)
  refine ⟨some ⟨b, 0, none⟩, ys.length, rfl, Nat.le_refl _, hm, fun h => by simp at h, fun i hi => ⟨b, 0, css[i]'(by omega), rfl, hblk.lt, fun hx => by have := hX b hx; omega, GoRep.ext (hr i hi (by omega)) hS (by simp) (fun b hb => .inl hb), fun j u hu => ?_⟩⟩
  refine hblk.cell ?_
  have := flatten_at css hk i (by omega) j u hu
  rw [Nat.zero_add]
  exact this
theorem SlV.wk {α : Type} [GoRep α] {X X' : List Nat} {w : World} {v : Value} {l : List α} (h : SlV X w v l) (hs : ∀ b ∈ X', b ∈ X) : SlV X' w v l := h.ext (Stp.refl [] w) (by simp) (fun b hb => .inl (hs b hb))
end Go.Eng
namespace Go.Proofs.YtgpibcgebpgmiaaDoor
open Go Go.Eng Go.RowKit
set_option linter.unusedVariables false

theorem nest_le_size (x : Nd) : nestN x ≤ sizeN x := by
  induction x using Nd.ind with
  | h k n s l ih =>
  rw [nestN_eq, sizeN_eq]
  show 1 + (l.map nestN).foldl max 0 ≤ 1 + (l.map sizeN).sum
  have : ∀ (l : List Nd) (a : Nat), (∀ x ∈ l, nestN x ≤ sizeN x) → (l.map nestN).foldl max a ≤ a + (l.map sizeN).sum := by
    intro l
    induction l with
    | nil => intro a _; simp
    | cons y r ihr =>
      intro a h
      simp only [List.map_cons, List.foldl_cons, List.sum_cons]
      have h1 := ihr (max a (nestN y)) (fun x hx => h x (by simp [hx]))
      have h2 := h y (by simp)
      omega
  have := this l 0 ih
  omega
theorem buildSN1 (k n : Int) (s : Str) (p : Option Addr) (l c : Nat) (w : World) : (Instr.buildSlice 23 1 #[(0, .agg #[.int .i64 k, .int .i64 n, str s, .slice p l c])]).run Tryd.prog w = .ok (.slice (some ⟨w.heap.size, 0, none⟩) 1 1) (w.alloc (.cells #[.int .i64 k, .int .i64 n, str s, .slice p l c] 25)) := by kernel_rfl
end Go.Proofs.YtgpibcgebpgmiaaDoor


namespace Go.Proofs.YtgpibcgebpgmiaaDoor
open Go Go.Eng Go.RowKit
set_option linter.unusedVariables false

theorem Around01_any (z : Int) (m : Int) (w : World) (hm : 0 < m) (hz : I64 z) : Calls Tryd.prog 9 #[.int .i64 z, .int .i64 m] w (Ret fun r w' => r = .int .i64 ((if z < 0 then -(z + 1) else z) % m) ∧ Stp [] w w') := by
  unfold I64 at hz
  refine calls_of_WC2 (n := 13) Tryd.func9 rfl rfl rfl ?_
  by_cases h : z < 0
  · repeat' (first | refine W1 ?_ | (exfalso; omega) | refine WL_split rfl rfl (fun hg => ?_) (fun hg => ?_) | refine WL_splitB rfl rfl (fun hg => ?_) (fun hg => ?_) | refine WC_cond rfl (fun hc => ?_) (fun hc => ?_) | refine WC_condB rfl (fun hc => ?_) (fun hc => ?_))
    first | refine WQ_ret1 rfl rfl ?_ | refine WQ_ret2 rfl rfl rfl ?_ | refine WQ_ret3 rfl rfl rfl rfl ?_ | refine WQ_ret0 rfl ?_ | refine WQ_end0 rfl ?_
    exact .mk ⟨by rw [if_pos h], Stp.refl _ _⟩
  · repeat' (first | refine W1 ?_ | (exfalso; omega) | refine WL_split rfl rfl (fun hg => ?_) (fun hg => ?_) | refine WL_splitB rfl rfl (fun hg => ?_) (fun hg => ?_) | refine WC_cond rfl (fun hc => ?_) (fun hc => ?_) | refine WC_condB rfl (fun hc => ?_) (fun hc => ?_))
    first | refine WQ_ret1 rfl rfl ?_ | refine WQ_ret2 rfl rfl rfl ?_ | refine WQ_ret3 rfl rfl rfl rfl ?_ | refine WQ_ret0 rfl ?_ | refine WQ_end0 rfl ?_
    exact .mk ⟨by rw [if_neg h], Stp.refl _ _⟩
theorem around_range (z m : Int) (hm : 0 < m) : 0 ≤ z % m ∧ z % m < m := ⟨Int.emod_nonneg _ (by omega), Int.emod_lt_of_pos _ hm⟩
/-- an int list in memory: each of its numbers fits -/
theorem Pick01_any (X : List Nat) (v : Value) (l : List Int) (i m : Int) (w : World) (hm : 0 < m) (hi : I64 i) (hs : SlV X w v l) (hl : ∀ a ∈ l, I64 a) : Calls Tryd.prog 92 #[v, .int .i64 i, .int .i64 m] w (Ret fun r w' => ∃ q : Nat, r = .int .i64 (q : Int) ∧ (q : Int) < m ∧ Stp [] w w') := by
  unfold I64 at hi
  have hmax := hs.max
  refine calls_of_WC3 (n := 21) Tryd.func92 rfl rfl rfl ?_
  refine W ?_
  by_cases hgo : 0 ≤ i ∧ i < l.length
  · obtain ⟨h0, h1⟩ := hgo
    obtain ⟨k, rfl⟩ : ∃ k : Nat, i = (k : Int) := ⟨i.toNat, by omega⟩
    have hk : k < l.length := by omega
    repeat' (first | refine W1 ?_ | (exfalso; omega) | refine WL_split rfl rfl (fun hg => ?_) (fun hg => ?_) | refine WL_splitB rfl rfl (fun hg => ?_) (fun hg => ?_) | refine WC_cond rfl (fun hc => ?_) (fun hc => ?_) | refine WC_condB rfl (fun hc => ?_) (fun hc => ?_))
    refine WL_eff (OE_call rfl (evs2 rfl rfl) (Around01_any _ m _ hm (hl _ (List.getElem_mem hk)))) rfl ?_
    rintro _ w2 ⟨rfl, hS⟩
    refine W ?_
    first | refine WQ_ret1 rfl rfl ?_ | refine WQ_ret2 rfl rfl rfl ?_ | refine WQ_ret3 rfl rfl rfl rfl ?_ | refine WQ_ret0 rfl ?_ | refine WQ_end0 rfl ?_
    have := around_range (if l[k] < 0 then -(l[k] + 1) else l[k]) m hm
    exact .mk ⟨_, by rw [Int.toNat_of_nonneg this.1], by rw [Int.toNat_of_nonneg this.1]; exact this.2, hS⟩
  · repeat' (first | refine W1 ?_ | (exfalso; omega) | refine WL_split rfl rfl (fun hg => ?_) (fun hg => ?_) | refine WL_splitB rfl rfl (fun hg => ?_) (fun hg => ?_) | refine WC_cond rfl (fun hc => ?_) (fun hc => ?_) | refine WC_condB rfl (fun hc => ?_) (fun hc => ?_))
    all_goals first
      | (first | refine WQ_ret1 rfl rfl ?_ | refine WQ_ret2 rfl rfl rfl ?_ | refine WQ_ret3 rfl rfl rfl rfl ?_ | refine WQ_ret0 rfl ?_ | refine WQ_end0 rfl ?_
         exact .mk ⟨0, rfl, by simpa using hm, Stp.refl _ _⟩)
theorem buildN023 (k : Int) (s : Str) (p : Option Addr) (l c : Nat) (w : World) : (Instr.build 25 #[(0, .int .i64 k), (2, str s), (3, .slice p l c)]).run Tryd.prog w = .ok (.agg #[.int .i64 k, .int .i64 0, str s, .slice p l c]) w := by kernel_rfl
theorem node14_any (X : List Nat) (k : Int) (s : Str) (kv : Value) (kids : List Nd) (w : World) (hX : ∀ b ∈ X, b < w.heap.size) (hs : SlV X w kv kids) : Calls Tryd.prog 72 #[.int .i64 k, str s, kv] w (Ret fun r w' => NdV X w' r (.mk k 0 s kids) ∧ Stp [] w w') := by
  obtain ⟨p, c, rfl, -⟩ := id hs
  refine calls_of_WC3 (n := 11) Tryd.func72 rfl rfl rfl ?_
  refine W ?_
  refine WL_eff OE_alloc rfl ?_
  rintro _ w1 ⟨b, rfl, hb, hblk, hS⟩
  refine W ?_
  apply WL_build (vs := [(0, .int .i64 k), (2, str s), (3, .slice p kids.length c)]) rfl (buildN023 _ _ _ _ _) rfl
  refine WL_eff0 (OE_storeA (us := ndC (.mk k 0 s kids) (.slice p kids.length c)) rfl rfl rfl rfl (ndC_one hs) hblk rfl) ?_
  rintro _ w2 ⟨hS2, hblk2⟩
  have hT := hS.own hS2 (fun c hc => .inr (by simp at hc; omega))
  refine W ?_
  refine WQ_retc rfl rfl rfl hblk2 rfl ?_
  exact .mk ⟨⟨_, rfl, hs.up hT⟩, hT⟩
end Go.Proofs.YtgpibcgebpgmiaaDoor


namespace Go.Proofs.YtgpibcgebpgmiaaDoor
open Go Go.Eng Go.RowKit
set_option linter.unusedVariables false

/-- a maker: its block holds the numbers and how many it has used -/
abbrev Mk (w : World) (bm : Nat) (lv : Value) (i : Nat) : Prop := Blk w bm 62 [lv, .int .i64 (i : Int)]
theorem Next_any (bm : Nat) (lv : Value) (l : List Int) (i : Nat) (n : Int) (w : World) (hn : 0 < n) (hi : i ≤ 1000000) (hb : Mk w bm lv i) (hs : SlV [bm] w lv l) (hl : ∀ a ∈ l, I64 a) :
    Calls Tryd.prog 66 #[.pointer (some ⟨bm, 0, none⟩), .int .i64 n] w (Ret fun r w' => ∃ q : Nat, r = .int .i64 (q : Int) ∧ (q : Int) < n ∧ Mk w' bm lv (i + 1) ∧ Stp [bm] w w') := by
  refine calls_of_WC2 (n := 23) Tryd.func66 rfl rfl rfl ?_
  refine W ?_
  refine WL_eff0 (OE_store1 (u := .int .i64 ((i : Int) + 1)) rfl rfl rfl rfl hb (by simp)) ?_
  rintro _ w1 ⟨hS1', hb1⟩
  replace hb1 : Mk w1 bm lv (i + 1) := hb1
  replace hs := hs.ext hS1' (fun _ h => h) (fun _ h => .inl h)
  replace hs : SlV [] w1 lv l := hs.wk (by simp)
  refine W ?_
  refine WC_drawn 12 [] [] [(0, 0), (1, 0), (2, 0), (3, 1), (4, 0), (5, 0), (6, 0), (7, 1), (8, 0), (9, 0), (10, 2), (11, 0)] rfl mixed (by kernel_rfl) (by kernel_rfl) (by kernel_rfl) (fun w1 hS1 => ?_)
  replace hb1 := hb1.up hS1
  replace hs := hs.up hS1
  refine D ?_
  refine WD_eff rfl trivial (OE_call rfl (evs3 rfl rfl rfl) (Pick01_any [] _ l _ n _ hn (by unfold I64; omega) hs hl)) (fun _ _ h => h.choose_spec.2.2) rfl ?_
  rintro _ w3 ⟨q, rfl, hq, hS3⟩
  replace hb1 := hb1.up hS3
  refine D ?_
  refine W ?_
  first | refine WQ_ret1 rfl rfl ?_ | refine WQ_ret2 rfl rfl rfl ?_ | refine WQ_ret3 rfl rfl rfl rfl ?_ | refine WQ_ret0 rfl ?_ | refine WQ_end0 rfl ?_
  exact .mk ⟨q, rfl, hq, hb1, (hS1'.trans (hS1.mono (by simp))).trans (hS3.mono (by simp))⟩
end Go.Proofs.YtgpibcgebpgmiaaDoor

