/-
The walk engine, part 2: the rules for single operations without effect.
-/
import Derived.Test.YtddopcmemiheaaaEng1
namespace Go.Eng
open Go Go.RowKit Go.Proofs
set_option linter.unusedVariables false

/-! ### facts on types, found by instance search -/
class Und (P : Program) (t : Nat) (d : outParam TypeDesc) : Prop where
  h : P.underlying t = some d
class Siz (P : Program) (t : Nat) (k : outParam Nat) : Prop where
  h : (P.info? t).map (·.size) = some k
class Zer (P : Program) (t : Nat) (z : outParam Value) : Prop where
  h : (P.info? t).bind (·.zero) = some z
class Byt (P : Program) (t : Nat) (k : outParam Nat) : Prop where
  h : (P.info? t).map (·.bytes) = some k
/-- field i of the struct type t lies at that offset, and is not of size zero -/
class Fld (P : Program) (t i : Nat) (off : outParam Nat) : Prop where
  h : ∃ fs f k, P.underlying t = some (.struct fs) ∧ fs[i]? = some f ∧ f.offset = off ∧ (P.info? f.type).map (·.size) = some (k + 1)
class Fun (P : Program) (f : Nat) (fn : outParam Func) : Prop where
  h : P.funcs[f]? = some fn
  enters : Enters P f

theorem Siz.run {P : Program} {t k : Nat} [h : Siz P t k] (w : World) : (sizeOf t).run P w = .ok k w := by
  have := h.h
  cases hi : P.info? t with
  | none => simp [hi] at this
  | some i => rw [hi] at this; simp at this; simp [sizeOf, typeInfo, hi, this]
theorem Zer.run {P : Program} {t : Nat} {z : Value} [h : Zer P t z] (w : World) : (zeroValue t).run P w = .ok z w := by
  have := h.h
  cases hi : P.info? t with
  | none => simp [hi] at this
  | some i => rw [hi] at this; simp at this; simp [zeroValue, typeInfo, hi, this]
theorem Und.run {P : Program} {t : Nat} {d : TypeDesc} [h : Und P t d] (w : World) : (underlying t).run P w = .ok d w := run_underlying h.h w
def aggB : TypeDesc → Bool
  | .struct _ | .array _ _ => true
  | _ => false
theorem Und.isAgg {P : Program} {t : Nat} {d : TypeDesc} [h : Und P t d] (w : World) : (Go.isAgg t).run P w = .ok (aggB d) w := by
  cases d <;> simp [Go.isAgg, run_underlying h.h, aggB]

section rules
variable {P : Program} {n : Nat} {e : Env} {w : World} {d : Option Nat} {ty : TypeId} {pos : String} {af : Array Edge} {g : Option (Nat × Bool)}

theorem PR_move {x : Operand} {v : Value} (hx : ev e x = some v) : PR P n ⟨d, .move x, ty, pos, af, g⟩ e w v := ⟨fun a ha => by simp [execOp, ha.ev hx]⟩
theorem PR_assign {x : Operand} {v : Value} (hx : ev e x = some v) : PR P n ⟨d, .assign x, ty, pos, af, g⟩ e w v := ⟨fun a ha => by simp [execOp, ha.ev hx]⟩
theorem PR_pick_t {c x y : Operand} {v : Value} (hc : ev e c = some (.bool true)) (hx : ev e x = some v) : PR P n ⟨d, .pick c x y, ty, pos, af, g⟩ e w v :=
  ⟨fun a ha => by simp [execOp, ha.ev hc, ha.ev hx, asBool]⟩
theorem PR_pick_f {c x y : Operand} {v : Value} (hc : ev e c = some (.bool false)) (hx : ev e y = some v) : PR P n ⟨d, .pick c x y, ty, pos, af, g⟩ e w v :=
  ⟨fun a ha => by simp [execOp, ha.ev hc, ha.ev hx, asBool]⟩
theorem PR_not {x : Operand} {b : Bool} (hx : ev e x = some (.bool b)) {t : TypeId} : PR P n ⟨d, .unOp .not t x, ty, pos, af, g⟩ e w (.bool (!b)) :=
  ⟨fun a ha => by simp [execOp, ha.ev hx, Op.unary]⟩
theorem PR_not_t {x : Operand} (hx : ev e x = some (.bool true)) {t : TypeId} : PR P n ⟨d, .unOp .not t x, ty, pos, af, g⟩ e w (.bool false) :=
  ⟨fun a ha => by simp [execOp, ha.ev hx, Op.unary]⟩
theorem PR_not_f {x : Operand} (hx : ev e x = some (.bool false)) {t : TypeId} : PR P n ⟨d, .unOp .not t x, ty, pos, af, g⟩ e w (.bool true) :=
  ⟨fun a ha => by simp [execOp, ha.ev hx, Op.unary]⟩
theorem PR_not_d {x : Operand} {p : Prop} [Decidable p] (hx : ev e x = some (.bool (decide p))) {t : TypeId} : PR P n ⟨d, .unOp .not t x, ty, pos, af, g⟩ e w (.bool (decide (¬ p))) :=
  ⟨fun a ha => by simp [execOp, ha.ev hx, Op.unary]⟩

def I64 (z : Int) : Prop := -9223372036854775808 ≤ z ∧ z ≤ 9223372036854775807
theorem wrap_i64_of {z : Int} (h : I64 z) : IntKind.i64.wrap z = z := by
  unfold I64 at h
  rw [IntKind.wrap_i64]
  omega

section arith
variable {x y : Operand} {a b : Int} {t u : TypeId}
theorem PR_add (hx : ev e x = some (.int .i64 a)) (hy : ev e y = some (.int .i64 b)) (hr : I64 (a + b)) : PR P n ⟨d, .binOp .add t x y u, ty, pos, af, g⟩ e w (.int .i64 (a + b)) :=
  ⟨fun c ha => by simp only [execOp, ha.ev hx, ha.ev hy]; simp [go_sem, Op.intArith, wrap_i64_of hr]⟩
theorem PR_sub (hx : ev e x = some (.int .i64 a)) (hy : ev e y = some (.int .i64 b)) (hr : I64 (a - b)) : PR P n ⟨d, .binOp .sub t x y u, ty, pos, af, g⟩ e w (.int .i64 (a - b)) :=
  ⟨fun c ha => by simp only [execOp, ha.ev hx, ha.ev hy]; simp [go_sem, Op.intArith, wrap_i64_of hr]⟩
theorem PR_mul (hx : ev e x = some (.int .i64 a)) (hy : ev e y = some (.int .i64 b)) (hr : I64 (a * b)) : PR P n ⟨d, .binOp .mul t x y u, ty, pos, af, g⟩ e w (.int .i64 (a * b)) :=
  ⟨fun c ha => by simp only [execOp, ha.ev hx, ha.ev hy]; simp [go_sem, Op.intArith, wrap_i64_of hr]⟩
theorem PR_neg (hx : ev e x = some (.int .i64 a)) (hr : I64 (- a)) : PR P n ⟨d, .unOp .neg t x, ty, pos, af, g⟩ e w (.int .i64 (- a)) :=
  ⟨fun c ha => by simp only [execOp, ha.ev hx]; simp [go_sem, Op.unary, Op.intArith, wrap_i64_of hr]⟩
theorem PR_rem (hx : ev e x = some (.int .i64 a)) (hy : ev e y = some (.int .i64 b)) (hb : b ≠ 0) (hr : I64 (a.tmod b)) : PR P n ⟨d, .binOp .rem t x y u, ty, pos, af, g⟩ e w (.int .i64 (a.tmod b)) :=
  ⟨fun c ha => by simp only [execOp, ha.ev hx, ha.ev hy]; simp [go_sem, Op.intDiv, hb]; try rw [wrap_i64_of hr]⟩
theorem PR_quo (hx : ev e x = some (.int .i64 a)) (hy : ev e y = some (.int .i64 b)) (hb : b ≠ 0) (hr : I64 (a.tdiv b)) : PR P n ⟨d, .binOp .quo t x y u, ty, pos, af, g⟩ e w (.int .i64 (a.tdiv b)) :=
  ⟨fun c ha => by simp only [execOp, ha.ev hx, ha.ev hy]; simp [go_sem, Op.intDiv, hb]; try rw [wrap_i64_of hr]⟩
theorem PR_remP (hx : ev e x = some (.int .i64 a)) (hy : ev e y = some (.int .i64 b)) (h0 : 0 ≤ a) (hb : 0 < b) (hr : I64 a) : PR P n ⟨d, .binOp .rem t x y u, ty, pos, af, g⟩ e w (.int .i64 (a % b)) := by
  have h1 : a.tmod b = a % b := Int.tmod_eq_emod_of_nonneg h0
  rw [← h1]
  refine PR_rem hx hy (by omega) ?_
  rw [h1]
  have := Int.emod_nonneg a (show b ≠ 0 by omega)
  have h2 : a % b ≤ a := by
    by_cases hab : a < b
    · rw [Int.emod_eq_of_lt h0 hab]; exact Int.le_refl _
    · have := Int.emod_lt_of_pos a hb; omega
  unfold I64 at hr ⊢
  omega
theorem PR_quoP (hx : ev e x = some (.int .i64 a)) (hy : ev e y = some (.int .i64 b)) (h0 : 0 ≤ a) (hb : 0 < b) (hr : I64 a) : PR P n ⟨d, .binOp .quo t x y u, ty, pos, af, g⟩ e w (.int .i64 (a / b)) := by
  have h1 : a.tdiv b = a / b := Int.tdiv_eq_ediv_of_nonneg h0
  rw [← h1]
  refine PR_quo hx hy (by omega) ?_
  rw [h1]
  have := Int.ediv_nonneg h0 (Int.le_of_lt hb)
  have h2 : a / b ≤ a := Int.ediv_le_self _ h0
  unfold I64 at hr ⊢
  omega
variable {k : IntKind}
theorem PR_lss (hx : ev e x = some (.int k a)) (hy : ev e y = some (.int k b)) : PR P n ⟨d, .binOp .lss t x y u, ty, pos, af, g⟩ e w (.bool (decide (a < b))) :=
  ⟨fun c ha => by simp only [execOp, ha.ev hx, ha.ev hy]; simp [go_sem]⟩
theorem PR_leq (hx : ev e x = some (.int k a)) (hy : ev e y = some (.int k b)) : PR P n ⟨d, .binOp .leq t x y u, ty, pos, af, g⟩ e w (.bool (decide (a ≤ b))) :=
  ⟨fun c ha => by simp only [execOp, ha.ev hx, ha.ev hy]; simp [go_sem]⟩
theorem PR_gtr (hx : ev e x = some (.int k a)) (hy : ev e y = some (.int k b)) : PR P n ⟨d, .binOp .gtr t x y u, ty, pos, af, g⟩ e w (.bool (decide (b < a))) :=
  ⟨fun c ha => by simp only [execOp, ha.ev hx, ha.ev hy]; simp [go_sem]⟩
theorem PR_geq (hx : ev e x = some (.int k a)) (hy : ev e y = some (.int k b)) : PR P n ⟨d, .binOp .geq t x y u, ty, pos, af, g⟩ e w (.bool (decide (b ≤ a))) :=
  ⟨fun c ha => by simp only [execOp, ha.ev hx, ha.ev hy]; simp [go_sem]⟩
theorem PR_eql (hx : ev e x = some (.int k a)) (hy : ev e y = some (.int k b)) : PR P n ⟨d, .binOp .eql t x y u, ty, pos, af, g⟩ e w (.bool (decide (a = b))) :=
  ⟨fun c ha => by simp only [execOp, ha.ev hx, ha.ev hy]; simp [go_sem]; exact Bool.beq_eq_decide_eq a b⟩
theorem PR_neq (hx : ev e x = some (.int k a)) (hy : ev e y = some (.int k b)) : PR P n ⟨d, .binOp .neq t x y u, ty, pos, af, g⟩ e w (.bool (decide (¬ a = b))) :=
  ⟨fun c ha => by simp only [execOp, ha.ev hx, ha.ev hy]; simp [go_sem]; rw [bne, Bool.beq_eq_decide_eq]⟩
theorem PR_eqlB {p q : Bool} [hu : Und P t .bool] (hx : ev e x = some (.bool p)) (hy : ev e y = some (.bool q)) : PR P n ⟨d, .binOp .eql t x y u, ty, pos, af, g⟩ e w (.bool (decide (p = q))) :=
  ⟨fun c ha => by simp only [execOp, ha.ev hx, ha.ev hy]; simp [go_sem, binOp, run_equal_bool w t p q hu.h]; cases p <;> cases q <;> rfl⟩
theorem PR_neqB {p q : Bool} [hu : Und P t .bool] (hx : ev e x = some (.bool p)) (hy : ev e y = some (.bool q)) : PR P n ⟨d, .binOp .neq t x y u, ty, pos, af, g⟩ e w (.bool (decide (¬ p = q))) :=
  ⟨fun c ha => by simp only [execOp, ha.ev hx, ha.ev hy]; simp [go_sem, binOp, run_equal_bool w t p q hu.h]; cases p <;> cases q <;> rfl⟩
end arith

theorem PR_extract {x : Operand} {vs : Array Value} {i : Nat} {v : Value} (hx : ev e x = some (.tuple vs)) (hv : vs[i]? = some v) : PR P n ⟨d, .extract x i, ty, pos, af, g⟩ e w v :=
  ⟨fun a ha => by simp [execOp, ha.ev hx, Instr.extract, hv]⟩

theorem PR_len {x : Operand} {t : TypeId} {el : TypeId} [hu : Und P t (.slice el)] {p : Option Addr} {l c : Nat} (hx : ev e x = some (.slice p l c)) :
    PR P n ⟨d, .call { callee := .builtin .len, args := #[x], argTypes := #[t] }, ty, pos, af, g⟩ e w (.int .i64 (l : Int)) :=
  ⟨fun a ha => by
    have := run_len_slice (P := P) w t ty p l c (by rw [hu.h, Program.elem, hu.h])
    simp [execOp, resolve, invoke, builtin, ha.ev hx, this, goInt]⟩

theorem fieldAt_run {t i off : Nat} [h : Fld P t i off] (b o : Nat) (w : World) : (Instr.fieldAt t (.pointer (some ⟨b, o, none⟩)) i).run P w = .ok (.pointer (some ⟨b, o + off, none⟩)) w := by
  obtain ⟨fs, f, k, h1, h2, rfl, h3⟩ := h.h
  have : Siz P f.type (k + 1) := ⟨h3⟩
  simp [Instr.fieldAt, run_underlying h1, h2, Instr.sureAddr, fieldPlace, Siz.run, Addr.add_lit]
theorem PR_fieldAddr {x : Operand} {t : TypeId} {b o i off : Nat} [hf : Fld P t i off] (hx : ev e x = some (.pointer (some ⟨b, o, none⟩))) : PR P n ⟨d, .fieldAddr t x i, ty, pos, af, g⟩ e w (.pointer (some ⟨b, o + off, none⟩)) :=
  ⟨fun a ha => by simp [execOp, ha.ev hx, fieldAt_run]⟩

theorem PR_load1 {x : Operand} {t : TypeId} {D : TypeDesc} {ad : Addr} {v : Value} [hu : Und P t D] (hA : aggB D = false) (hx : ev e x = some (.pointer (some ad))) (hc : w.cell? ad = some v) :
    PR P n ⟨d, .load t x, ty, pos, af, g⟩ e w v :=
  ⟨fun a ha => by simp [execOp, ha.ev hx, Instr.loadAt, Instr.sureAddr, loadVar, Und.isAgg, hA, hc]⟩
theorem PR_loadN {x : Operand} {t : TypeId} {D : TypeDesc} {b o k : Nat} {cs : List Value} [hu : Und P t D] (hA : aggB D = true) [hs : Siz P t k] (hx : ev e x = some (.pointer (some ⟨b, o, none⟩)))
    (hl : cs.length = k) (hc : ∀ j u, cs[j]? = some u → w.cell? ⟨b, o + j, none⟩ = some u) :
    PR P n ⟨d, .load t x, ty, pos, af, g⟩ e w (.agg cs.toArray) :=
  ⟨fun a ha => by
    have := run_loadCells_list (P := P) w ⟨b, o, none⟩ cs (fun j v h => by rw [Addr.add_lit]; exact hc j v h)
    rw [hl] at this
    simp [execOp, ha.ev hx, Instr.loadAt, Instr.sureAddr, loadVar, Und.isAgg, hA, Siz.run, this]⟩

theorem PR_makeFunc0 {f : Nat} : PR P n ⟨d, .makeFunc (.func f) #[] #[], ty, pos, af, g⟩ e w (.func (.func f) #[] #[]) :=
  ⟨fun a ha => by simp [execOp, Instr.makeFunc]⟩
theorem PR_makeFunc1 {f : Nat} {x : Operand} {v : Value} (hx : ev e x = some v) : PR P n ⟨d, .makeFunc (.func f) #[] #[x], ty, pos, af, g⟩ e w (.func (.func f) #[] #[v]) :=
  ⟨fun a ha => by simp [execOp, Instr.makeFunc, ha.ev hx]⟩
theorem PR_makeFunc2 {f : Nat} {x y : Operand} {v u : Value} (hx : ev e x = some v) (hy : ev e y = some u) : PR P n ⟨d, .makeFunc (.func f) #[] #[x, y], ty, pos, af, g⟩ e w (.func (.func f) #[] #[v, u]) :=
  ⟨fun a ha => by simp [execOp, Instr.makeFunc, ha.ev hx, ha.ev hy]⟩

theorem PR_makeFunc3 {f : Nat} {x y z : Operand} {v u s : Value} (hx : ev e x = some v) (hy : ev e y = some u) (hz : ev e z = some s) : PR P n ⟨d, .makeFunc (.func f) #[] #[x, y, z], ty, pos, af, g⟩ e w (.func (.func f) #[] #[v, u, s]) :=
  ⟨fun a ha => by simp [execOp, Instr.makeFunc, ha.ev hx, ha.ev hy, ha.ev hz]⟩

/-! ### calls -/
/-- the call returns a value that meets G -/
def Ret (G : Value → World → Prop) (r : Ending) (w' : World) : Prop := ∃ v, r = .returned v ∧ G v w'
theorem Ret.mk {G : Value → World → Prop} {v : Value} {w' : World} (h : G v w') : Ret G (.returned v) w' := ⟨v, rfl, h⟩
theorem Calls.ret {P : Program} {f : FuncId} {args : Array Value} {w : World} {G G' : Value → World → Prop} (h : Calls P f args w (Ret G)) (hg : ∀ v w', G v w' → G' v w') : Calls P f args w (Ret G') :=
  h.mono fun _ _ ⟨v, h1, h2⟩ => ⟨v, h1, hg _ _ h2⟩
theorem OE_call {f : Nat} {fn : Func} {xs : Array Operand} {ts : Array TypeId} {vs : Array Value} {G : Value → World → Prop} {c : Operand} [hf : Fun P f fn] (hc : ev e c = some (.func (.func f) #[] #[]))
    (hv : ∀ a, Has n e a → xs.map a.eval = vs) (h : Calls P f vs w (Ret G)) :
    OE P n ⟨d, .call { callee := .value c, args := xs, argTypes := ts }, ty, pos, af, g⟩ e w G :=
  ⟨fun a ha Q => by
    have he : (execOp a.eval ⟨d, .call { callee := .value c, args := xs, argTypes := ts }, ty, pos, af, g⟩).run P w = .ok (.enter f vs) w := by
      simp only [execOp, resolve, ha.ev hc, Deferred.ofValue, hv a ha]
      simp [invoke]
      exact hf.enters vs w
    unfold Oper.wp
    rw [he]
    simp only [Oper.upon]
    refine h.mono ?_
    rintro r w' ⟨v, rfl, hg⟩
    exact ⟨v, rfl, hg⟩⟩
theorem OE_callC {f : Nat} {fn : Func} {xs : Array Operand} {ts : Array TypeId} {vs cap us : Array Value} {G : Value → World → Prop} {c : Operand} [hf : Fun P f fn] (hc : ev e c = some (.func (.func f) #[] cap))
    (hv : ∀ a, Has n e a → xs.map a.eval = vs) (hu : vs ++ cap = us) (h : Calls P f us w (Ret G)) :
    OE P n ⟨d, .call { callee := .value c, args := xs, argTypes := ts }, ty, pos, af, g⟩ e w G :=
  ⟨fun a ha Q => by
    have he : (execOp a.eval ⟨d, .call { callee := .value c, args := xs, argTypes := ts }, ty, pos, af, g⟩).run P w = .ok (.enter f us) w := by
      simp only [execOp, resolve, ha.ev hc, Deferred.ofValue, hv a ha]
      simp [invoke, hu]
      exact hf.enters us w
    unfold Oper.wp
    rw [he]
    simp only [Oper.upon]
    refine h.mono ?_
    rintro r w' ⟨v, rfl, hg⟩
    exact ⟨v, rfl, hg⟩⟩
theorem evs0 : ∀ a, Has n e a → (#[] : Array Operand).map a.eval = #[] := fun a ha => by simp
theorem evs1 {x : Operand} {v : Value} (hx : ev e x = some v) : ∀ a, Has n e a → #[x].map a.eval = #[v] := fun a ha => by simp [ha.ev hx]
theorem evs2 {x y : Operand} {v u : Value} (hx : ev e x = some v) (hy : ev e y = some u) : ∀ a, Has n e a → #[x, y].map a.eval = #[v, u] := fun a ha => by simp [ha.ev hx, ha.ev hy]
theorem evs3 {x y z : Operand} {v u s : Value} (hx : ev e x = some v) (hy : ev e y = some u) (hz : ev e z = some s) : ∀ a, Has n e a → #[x, y, z].map a.eval = #[v, u, s] := fun a ha => by simp [ha.ev hx, ha.ev hy, ha.ev hz]
theorem evs4 {x y z k : Operand} {v u s r : Value} (hx : ev e x = some v) (hy : ev e y = some u) (hz : ev e z = some s) (hk : ev e k = some r) : ∀ a, Has n e a → #[x, y, z, k].map a.eval = #[v, u, s, r] :=
  fun a ha => by simp [ha.ev hx, ha.ev hy, ha.ev hz, ha.ev hk]
theorem evs5 {x y z k l : Operand} {v u s r q : Value} (hx : ev e x = some v) (hy : ev e y = some u) (hz : ev e z = some s) (hk : ev e k = some r) (hl : ev e l = some q) : ∀ a, Has n e a → #[x, y, z, k, l].map a.eval = #[v, u, s, r, q] :=
  fun a ha => by simp [ha.ev hx, ha.ev hy, ha.ev hz, ha.ev hk, ha.ev hl]
end rules
end Go.Eng
