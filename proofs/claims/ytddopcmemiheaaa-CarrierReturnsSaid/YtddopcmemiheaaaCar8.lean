import Derived.Test.YtddopcmemiheaaaCar7
namespace Go.Proofs.Ytddopcmemiheaaa
open Go Go.Eng Go.RowKit
set_option linter.unusedVariables false

/-- as Pred, where the blocks of S may turn between two calls -/
def PredS {α : Type} [Flat α] (P : Program) (S : List Nat) (g : Nat) (lb : Array Value) (p : α → Bool) (w : World) : Prop :=
  ∀ (x : α) (w' : World), Stp S w w' → Calls P g (#[agg x] ++ lb) w' (Ret fun v w'' => v = .bool (p x) ∧ Stp [] w' w'')
theorem PredS.pred {α : Type} [Flat α] {P : Program} {S : List Nat} {g : Nat} {lb : Array Value} {p : α → Bool} {w w' : World} (h : PredS P S g lb p w) (hS : Stp S w w') : Pred P g lb p w' :=
  fun x w'' h2 => h x w'' (hS.trans (h2.mono (by simp)))
theorem PredS.on {α : Type} [Flat α] {P : Program} {S : List Nat} {g : Nat} {lb : Array Value} {p : α → Bool} {w w' : World} (h : PredS P S g lb p w) (hS : Stp S w w') : PredS P S g lb p w' :=
  fun x w'' h2 => h x w'' (hS.trans h2)
def CmpS {α : Type} [Flat α] (P : Program) (S : List Nat) (g : Nat) (lb : Array Value) (c : α → α → Int) (w : World) : Prop :=
  ∀ (x y : α) (w' : World), Stp S w w' → Calls P g (#[agg x, agg y] ++ lb) w' (Ret fun v w'' => v = .int .i64 (c x y) ∧ Stp [] w' w'')
theorem CmpS.on {α : Type} [Flat α] {P : Program} {S : List Nat} {g : Nat} {lb : Array Value} {c : α → α → Int} {w w' : World} (h : CmpS P S g lb c w) (hS : Stp S w w') : CmpS P S g lb c w' :=
  fun x y w'' h2 => h x y w'' (hS.trans h2)

theorem key36 (d : Dlv) (w : World) : Calls Try.prog 36 #[agg d] w (Ret fun v w' => v = .tuple #[.int .i64 d.day, .int .i64 d.attempt] ∧ Stp [] w w') := by
  refine calls_of_WC1 (n := 8) Try.func36 rfl rfl rfl ?_
  repeat' (first | (apply WL_assign; exact rfl; exact rfl) | apply WL_nil | (apply WL_fieldAddr; exact rfl; exact rfl) | (apply is_field; first | refine WL_field_el rfl (SlV.isSome (by assumption) (by assumption)) rfl ?_) | (apply is_load; first | refine WL_load_blk rfl rfl (by assumption) (by rfl) rfl ?_ | refine WL_load_blkA rfl rfl (by assumption) (by rfl) rfl ?_ | refine WL_load_el rfl rfl (by assumption) (by assumption) (by rfl) (by rfl) rfl ?_ | refine WL_load_elA rfl rfl (by assumption) (by assumption) (by rfl) rfl ?_) | apply WC_seq | apply WC_region | apply WC_ret | refine WQ_then ?_ | refine WQ_then_ret ?_)
  refine WL_eff (OE_box rfl) rfl ?_
  rintro _ w2 ⟨c, rfl, hc, hblk, hS⟩
  replace hblk : Blk w2 c _ (Flat.enc d) := hblk
  repeat' (first | (apply WL_assign; exact rfl; exact rfl) | apply WL_nil | (apply WL_fieldAddr; exact rfl; exact rfl) | (apply is_field; first | refine WL_field_el rfl (SlV.isSome (by assumption) (by assumption)) rfl ?_) | (apply is_load; first | refine WL_load_blk rfl rfl (by assumption) (by rfl) rfl ?_ | refine WL_load_blkA rfl rfl (by assumption) (by rfl) rfl ?_ | refine WL_load_el rfl rfl (by assumption) (by assumption) (by rfl) (by rfl) rfl ?_ | refine WL_load_elA rfl rfl (by assumption) (by assumption) (by rfl) rfl ?_) | apply WC_seq | apply WC_region | apply WC_ret | refine WQ_then ?_ | refine WQ_then_ret ?_)
  refine WC_drawn 6 [] [] [(0, 0), (1, 1), (2, 0), (3, 1), (4, 0), (5, 0)] rfl mixed (by kernel_rfl) rfl (by kernel_rfl) (fun w1 hS1 => ?_)
  replace hS := hS.trans hS1
  replace hblk := hblk.up hS1
  (all_goals (first | refine WF_fieldAddr rfl (by first | exact trivial | exact rfl) rfl rfl ?_ | refine WF_field_el rfl (by first | exact trivial | exact rfl) rfl (SlV.isSome (by assumption) (by assumption)) rfl ?_); all_goals (first | refine WR_load_blk rfl (by first | exact trivial | exact rfl) rfl rfl (by assumption) (by first | (simp; done) | (simp; omega)) (by rfl) rfl ?_ | refine WR_load_blkA rfl (by first | exact trivial | exact rfl) rfl rfl (by assumption) (by first | (simp; done) | (simp; omega)) (by rfl) rfl ?_ | refine WR_load_el rfl (by first | exact trivial | exact rfl) rfl rfl (by assumption) (by simp) (by assumption) (by rfl) (by rfl) rfl ?_ | refine WR_load_elA rfl (by first | exact trivial | exact rfl) rfl rfl (by assumption) (by simp) (by assumption) (by rfl) rfl ?_); all_goals (first | refine WF_fieldAddr rfl (by first | exact trivial | exact rfl) rfl rfl ?_ | refine WF_field_el rfl (by first | exact trivial | exact rfl) rfl (SlV.isSome (by assumption) (by assumption)) rfl ?_); all_goals (first | refine WR_load_blk rfl (by first | exact trivial | exact rfl) rfl rfl (by assumption) (by first | (simp; done) | (simp; omega)) (by rfl) rfl ?_ | refine WR_load_blkA rfl (by first | exact trivial | exact rfl) rfl rfl (by assumption) (by first | (simp; done) | (simp; omega)) (by rfl) rfl ?_ | refine WR_load_el rfl (by first | exact trivial | exact rfl) rfl rfl (by assumption) (by simp) (by assumption) (by rfl) (by rfl) rfl ?_ | refine WR_load_elA rfl (by first | exact trivial | exact rfl) rfl rfl (by assumption) (by simp) (by assumption) (by rfl) rfl ?_); all_goals (first | refine WF_assign rfl (by first | exact trivial | exact rfl) rfl rfl ?_); all_goals (first | refine WF_assign rfl (by first | exact trivial | exact rfl) rfl rfl ?_); all_goals (refine WD_nil ?_))
  repeat' (first | (apply WL_assign; exact rfl; exact rfl) | apply WL_nil | (apply WL_fieldAddr; exact rfl; exact rfl) | (apply is_field; first | refine WL_field_el rfl (SlV.isSome (by assumption) (by assumption)) rfl ?_) | (apply is_load; first | refine WL_load_blk rfl rfl (by assumption) (by rfl) rfl ?_ | refine WL_load_blkA rfl rfl (by assumption) (by rfl) rfl ?_ | refine WL_load_el rfl rfl (by assumption) (by assumption) (by rfl) (by rfl) rfl ?_ | refine WL_load_elA rfl rfl (by assumption) (by assumption) (by rfl) rfl ?_) | apply WC_seq | apply WC_region | apply WC_ret | refine WQ_then ?_ | refine WQ_then_ret ?_)
  first | refine WQ_ret1 rfl rfl ?_ | refine WQ_ret2 rfl rfl rfl ?_ | refine WQ_ret3 rfl rfl rfl rfl ?_ | refine WQ_ret0 rfl ?_ | refine WQ_end0 rfl ?_
  exact .mk ⟨rfl, hS⟩
theorem key38 (d : Rpt) (w : World) : Calls Try.prog 38 #[agg d] w (Ret fun v w' => v = .tuple #[.int .i64 d.day, .int .i64 d.attempt] ∧ Stp [] w w') := by
  refine calls_of_WC1 (n := 8) Try.func38 rfl rfl rfl ?_
  repeat' (first | (apply WL_assign; exact rfl; exact rfl) | apply WL_nil | (apply WL_fieldAddr; exact rfl; exact rfl) | (apply is_field; first | refine WL_field_el rfl (SlV.isSome (by assumption) (by assumption)) rfl ?_) | (apply is_load; first | refine WL_load_blk rfl rfl (by assumption) (by rfl) rfl ?_ | refine WL_load_blkA rfl rfl (by assumption) (by rfl) rfl ?_ | refine WL_load_el rfl rfl (by assumption) (by assumption) (by rfl) (by rfl) rfl ?_ | refine WL_load_elA rfl rfl (by assumption) (by assumption) (by rfl) rfl ?_) | apply WC_seq | apply WC_region | apply WC_ret | refine WQ_then ?_ | refine WQ_then_ret ?_)
  refine WL_eff (OE_box rfl) rfl ?_
  rintro _ w2 ⟨c, rfl, hc, hblk, hS⟩
  replace hblk : Blk w2 c _ (Flat.enc d) := hblk
  repeat' (first | (apply WL_assign; exact rfl; exact rfl) | apply WL_nil | (apply WL_fieldAddr; exact rfl; exact rfl) | (apply is_field; first | refine WL_field_el rfl (SlV.isSome (by assumption) (by assumption)) rfl ?_) | (apply is_load; first | refine WL_load_blk rfl rfl (by assumption) (by rfl) rfl ?_ | refine WL_load_blkA rfl rfl (by assumption) (by rfl) rfl ?_ | refine WL_load_el rfl rfl (by assumption) (by assumption) (by rfl) (by rfl) rfl ?_ | refine WL_load_elA rfl rfl (by assumption) (by assumption) (by rfl) rfl ?_) | apply WC_seq | apply WC_region | apply WC_ret | refine WQ_then ?_ | refine WQ_then_ret ?_)
  refine WC_drawn 6 [] [] [(0, 0), (1, 1), (2, 0), (3, 1), (4, 0), (5, 0)] rfl mixed (by kernel_rfl) rfl (by kernel_rfl) (fun w1 hS1 => ?_)
  replace hS := hS.trans hS1
  replace hblk := hblk.up hS1
  (all_goals (first | refine WF_fieldAddr rfl (by first | exact trivial | exact rfl) rfl rfl ?_ | refine WF_field_el rfl (by first | exact trivial | exact rfl) rfl (SlV.isSome (by assumption) (by assumption)) rfl ?_); all_goals (first | refine WR_load_blk rfl (by first | exact trivial | exact rfl) rfl rfl (by assumption) (by first | (simp; done) | (simp; omega)) (by rfl) rfl ?_ | refine WR_load_blkA rfl (by first | exact trivial | exact rfl) rfl rfl (by assumption) (by first | (simp; done) | (simp; omega)) (by rfl) rfl ?_ | refine WR_load_el rfl (by first | exact trivial | exact rfl) rfl rfl (by assumption) (by simp) (by assumption) (by rfl) (by rfl) rfl ?_ | refine WR_load_elA rfl (by first | exact trivial | exact rfl) rfl rfl (by assumption) (by simp) (by assumption) (by rfl) rfl ?_); all_goals (first | refine WF_fieldAddr rfl (by first | exact trivial | exact rfl) rfl rfl ?_ | refine WF_field_el rfl (by first | exact trivial | exact rfl) rfl (SlV.isSome (by assumption) (by assumption)) rfl ?_); all_goals (first | refine WR_load_blk rfl (by first | exact trivial | exact rfl) rfl rfl (by assumption) (by first | (simp; done) | (simp; omega)) (by rfl) rfl ?_ | refine WR_load_blkA rfl (by first | exact trivial | exact rfl) rfl rfl (by assumption) (by first | (simp; done) | (simp; omega)) (by rfl) rfl ?_ | refine WR_load_el rfl (by first | exact trivial | exact rfl) rfl rfl (by assumption) (by simp) (by assumption) (by rfl) (by rfl) rfl ?_ | refine WR_load_elA rfl (by first | exact trivial | exact rfl) rfl rfl (by assumption) (by simp) (by assumption) (by rfl) rfl ?_); all_goals (first | refine WF_assign rfl (by first | exact trivial | exact rfl) rfl rfl ?_); all_goals (first | refine WF_assign rfl (by first | exact trivial | exact rfl) rfl rfl ?_); all_goals (refine WD_nil ?_))
  repeat' (first | (apply WL_assign; exact rfl; exact rfl) | apply WL_nil | (apply WL_fieldAddr; exact rfl; exact rfl) | (apply is_field; first | refine WL_field_el rfl (SlV.isSome (by assumption) (by assumption)) rfl ?_) | (apply is_load; first | refine WL_load_blk rfl rfl (by assumption) (by rfl) rfl ?_ | refine WL_load_blkA rfl rfl (by assumption) (by rfl) rfl ?_ | refine WL_load_el rfl rfl (by assumption) (by assumption) (by rfl) (by rfl) rfl ?_ | refine WL_load_elA rfl rfl (by assumption) (by assumption) (by rfl) rfl ?_) | apply WC_seq | apply WC_region | apply WC_ret | refine WQ_then ?_ | refine WQ_then_ret ?_)
  first | refine WQ_ret1 rfl rfl ?_ | refine WQ_ret2 rfl rfl rfl ?_ | refine WQ_ret3 rfl rfl rfl rfl ?_ | refine WQ_ret0 rfl ?_ | refine WQ_end0 rfl ?_
  exact .mk ⟨rfl, hS⟩

theorem nan_any (x : Int) (w : World) : Calls Try.prog 60 #[.int .i64 x] w (Ret fun v w' => v = .bool false ∧ Stp [] w w') := by
  refine calls_of_WC1 (n := 6) Try.func60 rfl rfl rfl ?_
  repeat' (first | (apply WL_assign; exact rfl; exact rfl) | apply WL_nil | (apply WL_move; exact rfl; exact rfl) | (apply WL_neq; exact rfl; exact rfl; exact rfl) | (apply WL_neqB; exact rfl; exact rfl; exact rfl) | apply WC_seq | apply WC_region | apply WC_ret | refine WQ_then ?_ | refine WQ_then_ret ?_)
  first | refine WQ_ret1 rfl rfl ?_ | refine WQ_ret2 rfl rfl rfl ?_ | refine WQ_ret3 rfl rfl rfl rfl ?_ | refine WQ_ret0 rfl ?_ | refine WQ_end0 rfl ?_
  exact .mk ⟨by simp, Stp.refl _ _⟩
def cmpI (x y : Int) : Int := if x < y then -1 else if x > y then 1 else 0
theorem compare_any (x y : Int) (w : World) : Calls Try.prog 53 #[.int .i64 x, .int .i64 y] w (Ret fun v w' => v = .int .i64 (cmpI x y) ∧ Stp [] w w') := by
  refine calls_of_WC2 (n := 20) Try.func53 rfl rfl rfl ?_
  repeat' (first | (apply WL_assign; exact rfl; exact rfl) | apply WL_nil | (apply WL_move; exact rfl; exact rfl) | (apply WL_lss; exact rfl; exact rfl; exact rfl) | (apply WL_gtr; exact rfl; exact rfl; exact rfl) | apply WC_seq | apply WC_region | apply WC_skip | apply WC_ret | (apply WC_cond_true; exact rfl) | (apply WC_cond_false; exact rfl) | refine WQ_then ?_ | refine WQ_then_ret ?_)
  refine WL_eff (OE_call rfl (evs1 rfl) (nan_any _ _)) rfl ?_
  rintro _ w1 ⟨rfl, hS⟩
  repeat' (first | (apply WL_assign; exact rfl; exact rfl) | apply WL_nil | (apply WL_move; exact rfl; exact rfl) | (apply WL_lss; exact rfl; exact rfl; exact rfl) | (apply WL_gtr; exact rfl; exact rfl; exact rfl) | apply WC_seq | apply WC_region | apply WC_skip | apply WC_ret | (apply WC_cond_true; exact rfl) | (apply WC_cond_false; exact rfl) | refine WQ_then ?_ | refine WQ_then_ret ?_)
  refine WL_eff (OE_call rfl (evs1 rfl) (nan_any _ _)) rfl ?_
  rintro _ w2 ⟨rfl, hS2⟩
  replace hS := hS.trans hS2
  repeat' (first | (apply WL_assign; exact rfl; exact rfl) | apply WL_nil | (apply WL_move; exact rfl; exact rfl) | (apply WL_lss; exact rfl; exact rfl; exact rfl) | (apply WL_gtr; exact rfl; exact rfl; exact rfl) | apply WC_seq | apply WC_region | apply WC_skip | apply WC_ret | (apply WC_cond_true; exact rfl) | (apply WC_cond_false; exact rfl) | refine WQ_then ?_ | refine WQ_then_ret ?_ | refine WC_cond rfl (fun hc => ?_) (fun hc => ?_) | refine WC_condB rfl (fun hc => ?_) (fun hc => ?_))
  all_goals (first | refine WQ_ret1 rfl rfl ?_ | refine WQ_ret2 rfl rfl rfl ?_ | refine WQ_ret3 rfl rfl rfl rfl ?_ | refine WQ_ret0 rfl ?_ | refine WQ_end0 rfl ?_)
  all_goals exact .mk ⟨by unfold cmpI; (first | (simp_all; done) | (rw [if_neg (by omega), if_neg (by omega)])), hS⟩
def orI (x y : Int) : Int := if x ≠ 0 then x else y
theorem or_any (X : List Nat) (v : Value) (x y : Int) (w : World) (hv : SlV X w v [x, y]) : Calls Try.prog 52 #[v] w (Ret fun r w' => r = .int .i64 (orI x y) ∧ Stp [] w w') := by
  refine calls_of_WC1 (n := 18) Try.func52 rfl rfl rfl ?_
  repeat' (first | (apply WL_move; exact rfl; exact rfl) | apply WL_nil | (apply WL_assign; exact rfl; exact rfl) | (apply is_len; first | refine WL_lenS rfl (by assumption) rfl ?_ | refine WL_len rfl rfl ?_) | (apply WL_lss; exact rfl; exact rfl; exact rfl) | (apply is_idx; first | refine WL_idx rfl (by assumption) rfl rfl (by assumption) rfl ?_ | refine WL_idx rfl (by assumption) rfl rfl (by omega) rfl ?_ | refine WL_idx rfl (by assumption) rfl (by assumption) (by first | assumption | omega) rfl ?_) | (apply is_load; first | refine WL_load_blk rfl rfl (by assumption) (by rfl) rfl ?_ | refine WL_load_blkA rfl rfl (by assumption) (by rfl) rfl ?_ | refine WL_load_el rfl rfl (by assumption) (by assumption) (by rfl) (by rfl) rfl ?_ | refine WL_load_elA rfl rfl (by assumption) (by assumption) (by rfl) rfl ?_) | (apply WL_neq; exact rfl; exact rfl; exact rfl) | (apply WL_neqB; exact rfl; exact rfl; exact rfl) | (apply WL_add; exact rfl; exact rfl; (unfold I64; omega); exact rfl) | apply WC_seq | apply WC_region | apply WC_block | apply WC_skip | apply WC_ret | apply WC_exit | (apply WC_cond_true; exact rfl) | (apply WC_cond_false; exact rfl) | refine WQ_then ?_ | refine WQ_then_ret ?_ | refine WQ_then_exit ?_ | refine WQ_block_here ?_ | refine WQ_block_on rfl ?_ | refine WQ_block_ret ?_ | refine WQ_block ?_)
  refine WC_loop (σ := Nat) (fun k => [(3, .int .i64 0), (6, v), (7, .int .i64 2), (8, .int .i64 k)]) (fun k w' => k ≤ 2 ∧ Stp [] w w' ∧ (0 < k → x = 0) ∧ (1 < k → y = 0)) (fun k => 2 - k) 0 ⟨rfl, rfl, rfl, rfl, trivial⟩ ⟨by omega, Stp.refl _ _, by omega, by omega⟩ ?_
  rintro k w1 ⟨hk, hS, hx, hy⟩
  replace hv := hv.up hS
  have hc : k = 0 ∨ k = 1 ∨ k = 2 := by omega
  rcases hc with rfl | rfl | rfl
  · have h2 : 0 < [x, y].length := by simp
    repeat' (first | (apply WL_move; exact rfl; exact rfl) | apply WL_nil | (apply WL_assign; exact rfl; exact rfl) | (apply is_len; first | refine WL_lenS rfl (by assumption) rfl ?_ | refine WL_len rfl rfl ?_) | (apply WL_lss; exact rfl; exact rfl; exact rfl) | (apply is_idx; first | refine WL_idx rfl (by assumption) rfl rfl (by assumption) rfl ?_ | refine WL_idx rfl (by assumption) rfl rfl (by omega) rfl ?_ | refine WL_idx rfl (by assumption) rfl (by assumption) (by first | assumption | omega) rfl ?_) | (apply is_load; first | refine WL_load_blk rfl rfl (by assumption) (by rfl) rfl ?_ | refine WL_load_blkA rfl rfl (by assumption) (by rfl) rfl ?_ | refine WL_load_el rfl rfl (by assumption) (by assumption) (by rfl) (by rfl) rfl ?_ | refine WL_load_elA rfl rfl (by assumption) (by assumption) (by rfl) rfl ?_) | (apply WL_neq; exact rfl; exact rfl; exact rfl) | (apply WL_neqB; exact rfl; exact rfl; exact rfl) | (apply WL_add; exact rfl; exact rfl; (unfold I64; omega); exact rfl) | apply WC_seq | apply WC_region | apply WC_block | apply WC_skip | apply WC_ret | apply WC_exit | (apply WC_cond_true; exact rfl) | (apply WC_cond_false; exact rfl) | refine WQ_then ?_ | refine WQ_then_ret ?_ | refine WQ_then_exit ?_ | refine WQ_block_here ?_ | refine WQ_block_on rfl ?_ | refine WQ_block_ret ?_ | refine WQ_block ?_ | refine WC_cond rfl (fun hc => ?_) (fun hc => ?_) | refine WC_condB rfl (fun hc => ?_) (fun hc => ?_))
    · first | refine WQ_ret1 rfl rfl ?_ | refine WQ_ret2 rfl rfl rfl ?_ | refine WQ_ret3 rfl rfl rfl rfl ?_ | refine WQ_ret0 rfl ?_ | refine WQ_end0 rfl ?_
      exact .mk ⟨by simp_all [orI], hS⟩
    · exact WQ_loop 1 ⟨rfl, rfl, rfl, rfl, trivial⟩ ⟨by omega, hS, fun _ => by simp_all, by omega⟩ (by omega)
  · have h2 : 1 < [x, y].length := by simp
    repeat' (first | (apply WL_move; exact rfl; exact rfl) | apply WL_nil | (apply WL_assign; exact rfl; exact rfl) | (apply is_len; first | refine WL_lenS rfl (by assumption) rfl ?_ | refine WL_len rfl rfl ?_) | (apply WL_lss; exact rfl; exact rfl; exact rfl) | (apply is_idx; first | refine WL_idx rfl (by assumption) rfl rfl (by assumption) rfl ?_ | refine WL_idx rfl (by assumption) rfl rfl (by omega) rfl ?_ | refine WL_idx rfl (by assumption) rfl (by assumption) (by first | assumption | omega) rfl ?_) | (apply is_load; first | refine WL_load_blk rfl rfl (by assumption) (by rfl) rfl ?_ | refine WL_load_blkA rfl rfl (by assumption) (by rfl) rfl ?_ | refine WL_load_el rfl rfl (by assumption) (by assumption) (by rfl) (by rfl) rfl ?_ | refine WL_load_elA rfl rfl (by assumption) (by assumption) (by rfl) rfl ?_) | (apply WL_neq; exact rfl; exact rfl; exact rfl) | (apply WL_neqB; exact rfl; exact rfl; exact rfl) | (apply WL_add; exact rfl; exact rfl; (unfold I64; omega); exact rfl) | apply WC_seq | apply WC_region | apply WC_block | apply WC_skip | apply WC_ret | apply WC_exit | (apply WC_cond_true; exact rfl) | (apply WC_cond_false; exact rfl) | refine WQ_then ?_ | refine WQ_then_ret ?_ | refine WQ_then_exit ?_ | refine WQ_block_here ?_ | refine WQ_block_on rfl ?_ | refine WQ_block_ret ?_ | refine WQ_block ?_ | refine WC_cond rfl (fun hc => ?_) (fun hc => ?_) | refine WC_condB rfl (fun hc => ?_) (fun hc => ?_))
    · first | refine WQ_ret1 rfl rfl ?_ | refine WQ_ret2 rfl rfl rfl ?_ | refine WQ_ret3 rfl rfl rfl rfl ?_ | refine WQ_ret0 rfl ?_ | refine WQ_end0 rfl ?_
      exact .mk ⟨by simp_all [orI], hS⟩
    · exact WQ_loop 2 ⟨rfl, rfl, rfl, rfl, trivial⟩ ⟨by omega, hS, fun _ => hx (by omega), fun _ => by simp_all⟩ (by omega)
  · repeat' (first | (apply WL_move; exact rfl; exact rfl) | apply WL_nil | (apply WL_assign; exact rfl; exact rfl) | (apply is_len; first | refine WL_lenS rfl (by assumption) rfl ?_ | refine WL_len rfl rfl ?_) | (apply WL_lss; exact rfl; exact rfl; exact rfl) | (apply is_idx; first | refine WL_idx rfl (by assumption) rfl rfl (by assumption) rfl ?_ | refine WL_idx rfl (by assumption) rfl rfl (by omega) rfl ?_ | refine WL_idx rfl (by assumption) rfl (by assumption) (by first | assumption | omega) rfl ?_) | (apply is_load; first | refine WL_load_blk rfl rfl (by assumption) (by rfl) rfl ?_ | refine WL_load_blkA rfl rfl (by assumption) (by rfl) rfl ?_ | refine WL_load_el rfl rfl (by assumption) (by assumption) (by rfl) (by rfl) rfl ?_ | refine WL_load_elA rfl rfl (by assumption) (by assumption) (by rfl) rfl ?_) | (apply WL_neq; exact rfl; exact rfl; exact rfl) | (apply WL_neqB; exact rfl; exact rfl; exact rfl) | (apply WL_add; exact rfl; exact rfl; (unfold I64; omega); exact rfl) | apply WC_seq | apply WC_region | apply WC_block | apply WC_skip | apply WC_ret | apply WC_exit | (apply WC_cond_true; exact rfl) | (apply WC_cond_false; exact rfl) | refine WQ_then ?_ | refine WQ_then_ret ?_ | refine WQ_then_exit ?_ | refine WQ_block_here ?_ | refine WQ_block_on rfl ?_ | refine WQ_block_ret ?_ | refine WQ_block ?_ | refine WC_cond rfl (fun hc => ?_) (fun hc => ?_) | refine WC_condB rfl (fun hc => ?_) (fun hc => ?_))
    first | refine WQ_ret1 rfl rfl ?_ | refine WQ_ret2 rfl rfl rfl ?_ | refine WQ_ret3 rfl rfl rfl rfl ?_ | refine WQ_ret0 rfl ?_ | refine WQ_end0 rfl ?_
    exact .mk ⟨by simp_all [orI], hS⟩

theorem lateD (S : List Nat) (b1 b2 T1 T2 : Nat) (till : Int) (w : World) (h1 : Blk w b1 T1 [.func (.func 36) #[] #[]]) (h2 : Blk w b2 T2 [.int .i64 till]) (n1 : b1 ∉ S) (n2 : b2 ∉ S) :
    PredS Try.prog S 49 #[.pointer (some ⟨b1, 0, none⟩), .pointer (some ⟨b2, 0, none⟩)] (fun x : Dlv => decide (x.day > till)) w := by
  intro x w1 hS
  replace h1 := h1.ext hS n1
  replace h2 := h2.ext hS n2
  show Calls _ _ #[agg x, .pointer (some ⟨b1, 0, none⟩), .pointer (some ⟨b2, 0, none⟩)] _ _
  refine calls_of_WC3 (n := 16) Try.func49 rfl rfl rfl ?_
  repeat' (first | (apply WL_assign; exact rfl; exact rfl) | apply WL_nil | (apply is_load; first | refine WL_load_blk rfl rfl (by assumption) (by rfl) rfl ?_ | refine WL_load_blkA rfl rfl (by assumption) (by rfl) rfl ?_ | refine WL_load_el rfl rfl (by assumption) (by assumption) (by rfl) (by rfl) rfl ?_ | refine WL_load_elA rfl rfl (by assumption) (by assumption) (by rfl) rfl ?_) | (apply WL_move; exact rfl; exact rfl) | (apply WL_extract; exact rfl; exact rfl; exact rfl) | (apply WL_gtr; exact rfl; exact rfl; exact rfl) | apply WC_seq | apply WC_region | apply WC_ret | refine WQ_then ?_ | refine WQ_then_ret ?_)
  refine WL_eff (OE_box rfl) rfl ?_
  rintro _ w2 ⟨c, rfl, hc, hblk, hS2⟩
  replace hblk : Blk w2 c _ (Flat.enc x) := hblk
  replace h1 := h1.up hS2; replace h2 := h2.up hS2
  repeat' (first | (apply WL_assign; exact rfl; exact rfl) | apply WL_nil | (apply is_load; first | refine WL_load_blk rfl rfl (by assumption) (by rfl) rfl ?_ | refine WL_load_blkA rfl rfl (by assumption) (by rfl) rfl ?_ | refine WL_load_el rfl rfl (by assumption) (by assumption) (by rfl) (by rfl) rfl ?_ | refine WL_load_elA rfl rfl (by assumption) (by assumption) (by rfl) rfl ?_) | (apply WL_move; exact rfl; exact rfl) | (apply WL_extract; exact rfl; exact rfl; exact rfl) | (apply WL_gtr; exact rfl; exact rfl; exact rfl) | apply WC_seq | apply WC_region | apply WC_ret | refine WQ_then ?_ | refine WQ_then_ret ?_)
  refine WL_eff (OE_callC (f := 36) rfl (evs1 rfl) rfl (key36 _ _)) rfl ?_
  rintro _ w3 ⟨rfl, hS3⟩
  replace h2 := h2.up hS3
  repeat' (first | (apply WL_assign; exact rfl; exact rfl) | apply WL_nil | (apply is_load; first | refine WL_load_blk rfl rfl (by assumption) (by rfl) rfl ?_ | refine WL_load_blkA rfl rfl (by assumption) (by rfl) rfl ?_ | refine WL_load_el rfl rfl (by assumption) (by assumption) (by rfl) (by rfl) rfl ?_ | refine WL_load_elA rfl rfl (by assumption) (by assumption) (by rfl) rfl ?_) | (apply WL_move; exact rfl; exact rfl) | (apply WL_extract; exact rfl; exact rfl; exact rfl) | (apply WL_gtr; exact rfl; exact rfl; exact rfl) | apply WC_seq | apply WC_region | apply WC_ret | refine WQ_then ?_ | refine WQ_then_ret ?_)
  first | refine WQ_ret1 rfl rfl ?_ | refine WQ_ret2 rfl rfl rfl ?_ | refine WQ_ret3 rfl rfl rfl rfl ?_ | refine WQ_ret0 rfl ?_ | refine WQ_end0 rfl ?_
  exact .mk ⟨rfl, hS2.trans hS3⟩
def cmpD (x y : Dlv) : Int := orI (cmpI x.day y.day) (cmpI x.attempt y.attempt)
theorem compD (S : List Nat) (b T : Nat) (w : World) (h1 : Blk w b T [.func (.func 36) #[] #[]]) (n1 : b ∉ S) :
    CmpS Try.prog S 51 #[.pointer (some ⟨b, 0, none⟩)] cmpD w := by
  intro x y w1 hS
  replace h1 := h1.ext hS n1
  show Calls _ _ #[agg x, agg y, .pointer (some ⟨b, 0, none⟩)] _ _
  refine calls_of_WC3 (n := 30) Try.func51 rfl rfl rfl ?_
  repeat' (first | (apply WL_assign; exact rfl; exact rfl) | apply WL_nil | (apply WL_move; exact rfl; exact rfl) | (apply is_load; first | refine WL_load_blk rfl rfl (by assumption) (by rfl) rfl ?_ | refine WL_load_blkA rfl rfl (by assumption) (by rfl) rfl ?_ | refine WL_load_el rfl rfl (by assumption) (by assumption) (by rfl) (by rfl) rfl ?_ | refine WL_load_elA rfl rfl (by assumption) (by assumption) (by rfl) rfl ?_) | (apply WL_extract; exact rfl; exact rfl; exact rfl) | apply WC_seq | apply WC_region | apply WC_ret | refine WQ_then ?_ | refine WQ_then_ret ?_)
  refine WL_eff (OE_box rfl) rfl ?_
  rintro _ w2 ⟨c, rfl, hc, hblk, hS2⟩
  replace hblk : Blk w2 c _ (Flat.enc x) := hblk
  replace h1 := h1.up hS2
  refine WL_eff (OE_box rfl) rfl ?_
  rintro _ w3 ⟨c2, rfl, hc2, hblk2, hS3⟩
  replace hblk2 : Blk w3 c2 _ (Flat.enc y) := hblk2
  replace h1 := h1.up hS3; replace hblk := hblk.up hS3
  replace hS2 := hS2.trans hS3
  repeat' (first | (apply WL_assign; exact rfl; exact rfl) | apply WL_nil | (apply WL_move; exact rfl; exact rfl) | (apply is_load; first | refine WL_load_blk rfl rfl (by assumption) (by rfl) rfl ?_ | refine WL_load_blkA rfl rfl (by assumption) (by rfl) rfl ?_ | refine WL_load_el rfl rfl (by assumption) (by assumption) (by rfl) (by rfl) rfl ?_ | refine WL_load_elA rfl rfl (by assumption) (by assumption) (by rfl) rfl ?_) | (apply WL_extract; exact rfl; exact rfl; exact rfl) | apply WC_seq | apply WC_region | apply WC_ret | refine WQ_then ?_ | refine WQ_then_ret ?_)
  refine WL_eff (OE_callC (f := 36) rfl (evs1 rfl) rfl (key36 _ _)) rfl ?_
  rintro _ w4 ⟨rfl, hS4⟩
  replace h1 := h1.up hS4; replace hblk := hblk.up hS4; replace hblk2 := hblk2.up hS4
  replace hS2 := hS2.trans hS4
  repeat' (first | (apply WL_assign; exact rfl; exact rfl) | apply WL_nil | (apply WL_move; exact rfl; exact rfl) | (apply is_load; first | refine WL_load_blk rfl rfl (by assumption) (by rfl) rfl ?_ | refine WL_load_blkA rfl rfl (by assumption) (by rfl) rfl ?_ | refine WL_load_el rfl rfl (by assumption) (by assumption) (by rfl) (by rfl) rfl ?_ | refine WL_load_elA rfl rfl (by assumption) (by assumption) (by rfl) rfl ?_) | (apply WL_extract; exact rfl; exact rfl; exact rfl) | apply WC_seq | apply WC_region | apply WC_ret | refine WQ_then ?_ | refine WQ_then_ret ?_)
  refine WL_eff (OE_callC (f := 36) rfl (evs1 rfl) rfl (key36 _ _)) rfl ?_
  rintro _ w5 ⟨rfl, hS5⟩
  replace hS2 := hS2.trans hS5
  repeat' (first | (apply WL_assign; exact rfl; exact rfl) | apply WL_nil | (apply WL_move; exact rfl; exact rfl) | (apply is_load; first | refine WL_load_blk rfl rfl (by assumption) (by rfl) rfl ?_ | refine WL_load_blkA rfl rfl (by assumption) (by rfl) rfl ?_ | refine WL_load_el rfl rfl (by assumption) (by assumption) (by rfl) (by rfl) rfl ?_ | refine WL_load_elA rfl rfl (by assumption) (by assumption) (by rfl) rfl ?_) | (apply WL_extract; exact rfl; exact rfl; exact rfl) | apply WC_seq | apply WC_region | apply WC_ret | refine WQ_then ?_ | refine WQ_then_ret ?_)
  refine WL_eff (OE_call rfl (evs2 rfl rfl) (compare_any _ _ _)) rfl ?_
  rintro _ w6 ⟨rfl, hS6⟩
  replace hS2 := hS2.trans hS6
  repeat' (first | (apply WL_assign; exact rfl; exact rfl) | apply WL_nil | (apply WL_move; exact rfl; exact rfl) | (apply is_load; first | refine WL_load_blk rfl rfl (by assumption) (by rfl) rfl ?_ | refine WL_load_blkA rfl rfl (by assumption) (by rfl) rfl ?_ | refine WL_load_el rfl rfl (by assumption) (by assumption) (by rfl) (by rfl) rfl ?_ | refine WL_load_elA rfl rfl (by assumption) (by assumption) (by rfl) rfl ?_) | (apply WL_extract; exact rfl; exact rfl; exact rfl) | apply WC_seq | apply WC_region | apply WC_ret | refine WQ_then ?_ | refine WQ_then_ret ?_)
  refine WL_eff (OE_call rfl (evs2 rfl rfl) (compare_any _ _ _)) rfl ?_
  rintro _ w7 ⟨rfl, hS7⟩
  replace hS2 := hS2.trans hS7
  refine WL_eff (OE_buildSlice (vs := [(0, .int .i64 (cmpI x.day y.day)), (1, .int .i64 (cmpI x.attempt y.attempt))]) rfl (buildSI2 _ _)) rfl ?_
  rintro u w8 hN
  have hu : SlV [] w8 u [cmpI x.day y.day, cmpI x.attempt y.attempt] := hN.slv (by simp) rfl rfl (by simp [maxLen])
  replace hS2 := hS2.trans hN.choose_spec.2.2.2
  refine WL_eff (OE_call rfl (evs1 rfl) (or_any _ _ _ _ _ hu)) rfl ?_
  rintro _ w9 ⟨rfl, hS9⟩
  repeat' (first | (apply WL_assign; exact rfl; exact rfl) | apply WL_nil | (apply WL_move; exact rfl; exact rfl) | (apply is_load; first | refine WL_load_blk rfl rfl (by assumption) (by rfl) rfl ?_ | refine WL_load_blkA rfl rfl (by assumption) (by rfl) rfl ?_ | refine WL_load_el rfl rfl (by assumption) (by assumption) (by rfl) (by rfl) rfl ?_ | refine WL_load_elA rfl rfl (by assumption) (by assumption) (by rfl) rfl ?_) | (apply WL_extract; exact rfl; exact rfl; exact rfl) | apply WC_seq | apply WC_region | apply WC_ret | refine WQ_then ?_ | refine WQ_then_ret ?_)
  first | refine WQ_ret1 rfl rfl ?_ | refine WQ_ret2 rfl rfl rfl ?_ | refine WQ_ret3 rfl rfl rfl rfl ?_ | refine WQ_ret0 rfl ?_ | refine WQ_end0 rfl ?_
  exact .mk ⟨rfl, hS2.trans hS9⟩
theorem lateR (S : List Nat) (b1 b2 T1 T2 : Nat) (till : Int) (w : World) (h1 : Blk w b1 T1 [.func (.func 38) #[] #[]]) (h2 : Blk w b2 T2 [.int .i64 till]) (n1 : b1 ∉ S) (n2 : b2 ∉ S) :
    PredS Try.prog S 55 #[.pointer (some ⟨b1, 0, none⟩), .pointer (some ⟨b2, 0, none⟩)] (fun x : Rpt => decide (x.day > till)) w := by
  intro x w1 hS
  replace h1 := h1.ext hS n1
  replace h2 := h2.ext hS n2
  show Calls _ _ #[agg x, .pointer (some ⟨b1, 0, none⟩), .pointer (some ⟨b2, 0, none⟩)] _ _
  refine calls_of_WC3 (n := 16) Try.func55 rfl rfl rfl ?_
  repeat' (first | (apply WL_assign; exact rfl; exact rfl) | apply WL_nil | (apply is_load; first | refine WL_load_blk rfl rfl (by assumption) (by rfl) rfl ?_ | refine WL_load_blkA rfl rfl (by assumption) (by rfl) rfl ?_ | refine WL_load_el rfl rfl (by assumption) (by assumption) (by rfl) (by rfl) rfl ?_ | refine WL_load_elA rfl rfl (by assumption) (by assumption) (by rfl) rfl ?_) | (apply WL_move; exact rfl; exact rfl) | (apply WL_extract; exact rfl; exact rfl; exact rfl) | (apply WL_gtr; exact rfl; exact rfl; exact rfl) | apply WC_seq | apply WC_region | apply WC_ret | refine WQ_then ?_ | refine WQ_then_ret ?_)
  refine WL_eff (OE_box rfl) rfl ?_
  rintro _ w2 ⟨c, rfl, hc, hblk, hS2⟩
  replace hblk : Blk w2 c _ (Flat.enc x) := hblk
  replace h1 := h1.up hS2; replace h2 := h2.up hS2
  repeat' (first | (apply WL_assign; exact rfl; exact rfl) | apply WL_nil | (apply is_load; first | refine WL_load_blk rfl rfl (by assumption) (by rfl) rfl ?_ | refine WL_load_blkA rfl rfl (by assumption) (by rfl) rfl ?_ | refine WL_load_el rfl rfl (by assumption) (by assumption) (by rfl) (by rfl) rfl ?_ | refine WL_load_elA rfl rfl (by assumption) (by assumption) (by rfl) rfl ?_) | (apply WL_move; exact rfl; exact rfl) | (apply WL_extract; exact rfl; exact rfl; exact rfl) | (apply WL_gtr; exact rfl; exact rfl; exact rfl) | apply WC_seq | apply WC_region | apply WC_ret | refine WQ_then ?_ | refine WQ_then_ret ?_)
  refine WL_eff (OE_callC (f := 38) rfl (evs1 rfl) rfl (key38 _ _)) rfl ?_
  rintro _ w3 ⟨rfl, hS3⟩
  replace h2 := h2.up hS3
  repeat' (first | (apply WL_assign; exact rfl; exact rfl) | apply WL_nil | (apply is_load; first | refine WL_load_blk rfl rfl (by assumption) (by rfl) rfl ?_ | refine WL_load_blkA rfl rfl (by assumption) (by rfl) rfl ?_ | refine WL_load_el rfl rfl (by assumption) (by assumption) (by rfl) (by rfl) rfl ?_ | refine WL_load_elA rfl rfl (by assumption) (by assumption) (by rfl) rfl ?_) | (apply WL_move; exact rfl; exact rfl) | (apply WL_extract; exact rfl; exact rfl; exact rfl) | (apply WL_gtr; exact rfl; exact rfl; exact rfl) | apply WC_seq | apply WC_region | apply WC_ret | refine WQ_then ?_ | refine WQ_then_ret ?_)
  first | refine WQ_ret1 rfl rfl ?_ | refine WQ_ret2 rfl rfl rfl ?_ | refine WQ_ret3 rfl rfl rfl rfl ?_ | refine WQ_ret0 rfl ?_ | refine WQ_end0 rfl ?_
  exact .mk ⟨rfl, hS2.trans hS3⟩
def cmpR (x y : Rpt) : Int := orI (cmpI x.day y.day) (cmpI x.attempt y.attempt)
theorem compR (S : List Nat) (b T : Nat) (w : World) (h1 : Blk w b T [.func (.func 38) #[] #[]]) (n1 : b ∉ S) :
    CmpS Try.prog S 57 #[.pointer (some ⟨b, 0, none⟩)] cmpR w := by
  intro x y w1 hS
  replace h1 := h1.ext hS n1
  show Calls _ _ #[agg x, agg y, .pointer (some ⟨b, 0, none⟩)] _ _
  refine calls_of_WC3 (n := 30) Try.func57 rfl rfl rfl ?_
  repeat' (first | (apply WL_assign; exact rfl; exact rfl) | apply WL_nil | (apply WL_move; exact rfl; exact rfl) | (apply is_load; first | refine WL_load_blk rfl rfl (by assumption) (by rfl) rfl ?_ | refine WL_load_blkA rfl rfl (by assumption) (by rfl) rfl ?_ | refine WL_load_el rfl rfl (by assumption) (by assumption) (by rfl) (by rfl) rfl ?_ | refine WL_load_elA rfl rfl (by assumption) (by assumption) (by rfl) rfl ?_) | (apply WL_extract; exact rfl; exact rfl; exact rfl) | apply WC_seq | apply WC_region | apply WC_ret | refine WQ_then ?_ | refine WQ_then_ret ?_)
  refine WL_eff (OE_box rfl) rfl ?_
  rintro _ w2 ⟨c, rfl, hc, hblk, hS2⟩
  replace hblk : Blk w2 c _ (Flat.enc x) := hblk
  replace h1 := h1.up hS2
  refine WL_eff (OE_box rfl) rfl ?_
  rintro _ w3 ⟨c2, rfl, hc2, hblk2, hS3⟩
  replace hblk2 : Blk w3 c2 _ (Flat.enc y) := hblk2
  replace h1 := h1.up hS3; replace hblk := hblk.up hS3
  replace hS2 := hS2.trans hS3
  repeat' (first | (apply WL_assign; exact rfl; exact rfl) | apply WL_nil | (apply WL_move; exact rfl; exact rfl) | (apply is_load; first | refine WL_load_blk rfl rfl (by assumption) (by rfl) rfl ?_ | refine WL_load_blkA rfl rfl (by assumption) (by rfl) rfl ?_ | refine WL_load_el rfl rfl (by assumption) (by assumption) (by rfl) (by rfl) rfl ?_ | refine WL_load_elA rfl rfl (by assumption) (by assumption) (by rfl) rfl ?_) | (apply WL_extract; exact rfl; exact rfl; exact rfl) | apply WC_seq | apply WC_region | apply WC_ret | refine WQ_then ?_ | refine WQ_then_ret ?_)
  refine WL_eff (OE_callC (f := 38) rfl (evs1 rfl) rfl (key38 _ _)) rfl ?_
  rintro _ w4 ⟨rfl, hS4⟩
  replace h1 := h1.up hS4; replace hblk := hblk.up hS4; replace hblk2 := hblk2.up hS4
  replace hS2 := hS2.trans hS4
  repeat' (first | (apply WL_assign; exact rfl; exact rfl) | apply WL_nil | (apply WL_move; exact rfl; exact rfl) | (apply is_load; first | refine WL_load_blk rfl rfl (by assumption) (by rfl) rfl ?_ | refine WL_load_blkA rfl rfl (by assumption) (by rfl) rfl ?_ | refine WL_load_el rfl rfl (by assumption) (by assumption) (by rfl) (by rfl) rfl ?_ | refine WL_load_elA rfl rfl (by assumption) (by assumption) (by rfl) rfl ?_) | (apply WL_extract; exact rfl; exact rfl; exact rfl) | apply WC_seq | apply WC_region | apply WC_ret | refine WQ_then ?_ | refine WQ_then_ret ?_)
  refine WL_eff (OE_callC (f := 38) rfl (evs1 rfl) rfl (key38 _ _)) rfl ?_
  rintro _ w5 ⟨rfl, hS5⟩
  replace hS2 := hS2.trans hS5
  repeat' (first | (apply WL_assign; exact rfl; exact rfl) | apply WL_nil | (apply WL_move; exact rfl; exact rfl) | (apply is_load; first | refine WL_load_blk rfl rfl (by assumption) (by rfl) rfl ?_ | refine WL_load_blkA rfl rfl (by assumption) (by rfl) rfl ?_ | refine WL_load_el rfl rfl (by assumption) (by assumption) (by rfl) (by rfl) rfl ?_ | refine WL_load_elA rfl rfl (by assumption) (by assumption) (by rfl) rfl ?_) | (apply WL_extract; exact rfl; exact rfl; exact rfl) | apply WC_seq | apply WC_region | apply WC_ret | refine WQ_then ?_ | refine WQ_then_ret ?_)
  refine WL_eff (OE_call rfl (evs2 rfl rfl) (compare_any _ _ _)) rfl ?_
  rintro _ w6 ⟨rfl, hS6⟩
  replace hS2 := hS2.trans hS6
  repeat' (first | (apply WL_assign; exact rfl; exact rfl) | apply WL_nil | (apply WL_move; exact rfl; exact rfl) | (apply is_load; first | refine WL_load_blk rfl rfl (by assumption) (by rfl) rfl ?_ | refine WL_load_blkA rfl rfl (by assumption) (by rfl) rfl ?_ | refine WL_load_el rfl rfl (by assumption) (by assumption) (by rfl) (by rfl) rfl ?_ | refine WL_load_elA rfl rfl (by assumption) (by assumption) (by rfl) rfl ?_) | (apply WL_extract; exact rfl; exact rfl; exact rfl) | apply WC_seq | apply WC_region | apply WC_ret | refine WQ_then ?_ | refine WQ_then_ret ?_)
  refine WL_eff (OE_call rfl (evs2 rfl rfl) (compare_any _ _ _)) rfl ?_
  rintro _ w7 ⟨rfl, hS7⟩
  replace hS2 := hS2.trans hS7
  refine WL_eff (OE_buildSlice (vs := [(0, .int .i64 (cmpI x.day y.day)), (1, .int .i64 (cmpI x.attempt y.attempt))]) rfl (buildSI2 _ _)) rfl ?_
  rintro u w8 hN
  have hu : SlV [] w8 u [cmpI x.day y.day, cmpI x.attempt y.attempt] := hN.slv (by simp) rfl rfl (by simp [maxLen])
  replace hS2 := hS2.trans hN.choose_spec.2.2.2
  refine WL_eff (OE_call rfl (evs1 rfl) (or_any _ _ _ _ _ hu)) rfl ?_
  rintro _ w9 ⟨rfl, hS9⟩
  repeat' (first | (apply WL_assign; exact rfl; exact rfl) | apply WL_nil | (apply WL_move; exact rfl; exact rfl) | (apply is_load; first | refine WL_load_blk rfl rfl (by assumption) (by rfl) rfl ?_ | refine WL_load_blkA rfl rfl (by assumption) (by rfl) rfl ?_ | refine WL_load_el rfl rfl (by assumption) (by assumption) (by rfl) (by rfl) rfl ?_ | refine WL_load_elA rfl rfl (by assumption) (by assumption) (by rfl) rfl ?_) | (apply WL_extract; exact rfl; exact rfl; exact rfl) | apply WC_seq | apply WC_region | apply WC_ret | refine WQ_then ?_ | refine WQ_then_ret ?_)
  first | refine WQ_ret1 rfl rfl ?_ | refine WQ_ret2 rfl rfl rfl ?_ | refine WQ_ret3 rfl rfl rfl rfl ?_ | refine WQ_ret0 rfl ?_ | refine WQ_end0 rfl ?_
  exact .mk ⟨rfl, hS2.trans hS9⟩
end Go.Proofs.Ytddopcmemiheaaa
