import Derived.Test.YtddopcmemiheaaaCar9
namespace Go.Proofs.Ytddopcmemiheaaa
open Go Go.Eng Go.RowKit
set_option linter.unusedVariables false

theorem cmpI_lt (x y : Int) : cmpI x y < 0 ↔ x < y := by unfold cmpI; split <;> (try split) <;> omega
theorem cmpI_ne (x y : Int) : cmpI x y ≠ 0 ↔ x ≠ y := by unfold cmpI; split <;> (try split) <;> omega
theorem orI_lt (x y : Int) : orI x y < 0 ↔ x < 0 ∨ x = 0 ∧ y < 0 := by unfold orI; split <;> omega
theorem cmpD_lt (x y : Dlv) : cmpD x y < 0 ↔ lessD x y = true := by
  unfold cmpD lessD
  rw [orI_lt, cmpI_lt, cmpI_lt, decide_eq_true_eq]
  have := cmpI_ne x.day y.day
  constructor
  · rintro (h | ⟨h, h2⟩)
    · exact .inl h
    · exact .inr ⟨by omega, h2⟩
  · rintro (h | ⟨h, h2⟩)
    · exact .inl h
    · exact .inr ⟨by omega, h2⟩
theorem ordD : Ord cmpD where
  asym := fun a b => by rw [cmpD_lt, cmpD_lt]; simp only [lessD, decide_eq_true_eq]; omega
  trans := fun a b d => by rw [cmpD_lt, cmpD_lt, cmpD_lt]; simp only [lessD, decide_eq_true_eq]; omega
theorem cmpR_lt (x y : Rpt) : cmpR x y < 0 ↔ lessR x y = true := by
  unfold cmpR lessR
  rw [orI_lt, cmpI_lt, cmpI_lt, decide_eq_true_eq]
  have := cmpI_ne x.day y.day
  constructor
  · rintro (h | ⟨h, h2⟩)
    · exact .inl h
    · exact .inr ⟨by omega, h2⟩
  · rintro (h | ⟨h, h2⟩)
    · exact .inl h
    · exact .inr ⟨by omega, h2⟩
theorem ordR : Ord cmpR where
  asym := fun a b => by rw [cmpR_lt, cmpR_lt]; simp only [lessR, decide_eq_true_eq]; omega
  trans := fun a b d => by rw [cmpR_lt, cmpR_lt, cmpR_lt]; simp only [lessR, decide_eq_true_eq]; omega

theorem stableD (g : Nat) (fn : Func) [Fun Try.prog g fn] (lb : Array Value) (c : Dlv → Dlv → Int) (ho : Ord c) (X : List Nat) (base : Nat) (v : Value) (xs : List Dlv) (w : World) (hX : ∀ b ∈ X, b < base) (hbase : base ≤ w.heap.size) (hrow : Row X w base 48 v xs) (hp : CmpS Try.prog (ob v) g lb c w) (hlen : xs.length < 20) :
    Calls Try.prog 59 #[v, .int .i64 xs.length, .func (.func g) #[] lb] w (Ret fun r w' => ∃ ys, Sorts c xs ys ∧ Row X w' base 48 v ys ∧ Stp (ob v) w w') := by
  have nl : ¬ ((20 : Int) ≤ xs.length) := by omega
  have nl2 : ¬ ((20 : Int) < xs.length) := by omega
  refine calls_of_WC3 (n := 63) Try.func59 rfl rfl rfl ?_
  repeat' (first | (apply WL_move; exact rfl; exact rfl) | apply WL_nil | (apply WL_assign; exact rfl; exact rfl) | (apply WL_add; exact rfl; exact rfl; (unfold I64; omega); exact rfl) | (apply WL_mul; exact rfl; exact rfl; (unfold I64; omega); exact rfl) | (apply WL_leq; exact rfl; exact rfl; exact rfl) | (apply WL_lss; exact rfl; exact rfl; exact rfl) | apply WC_seq | apply WC_region | apply WC_block | apply WC_skip | apply WC_exit | (apply WC_cond_true; exact rfl) | (apply WC_cond_false; exact rfl) | refine WQ_then ?_ | refine WQ_then_exit ?_ | refine WQ_block_here ?_ | refine WQ_block_on rfl ?_ | refine WQ_block_ret ?_ | refine WQ_block ?_)
  refine WC_loop (σ := Unit) (fun _ => [(0, v), (1, .int .i64 xs.length), (2, .func (.func g) #[] lb), (6, .int .i64 20), (7, .int .i64 0), (8, .int .i64 20)]) (fun _ w' => w' = w) (fun _ => 0) () ⟨rfl, rfl, rfl, rfl, rfl, rfl, trivial⟩ rfl ?_
  rintro _ w' rfl
  repeat' (first | (apply WL_move; exact rfl; exact rfl) | apply WL_nil | (apply WL_assign; exact rfl; exact rfl) | (apply WL_add; exact rfl; exact rfl; (unfold I64; omega); exact rfl) | (apply WL_mul; exact rfl; exact rfl; (unfold I64; omega); exact rfl) | (apply WL_leq; exact rfl; exact rfl; exact rfl) | (apply WL_lss; exact rfl; exact rfl; exact rfl) | apply WC_seq | apply WC_region | apply WC_block | apply WC_skip | apply WC_exit | (apply WC_cond_true; exact rfl) | (apply WC_cond_false; exact rfl) | refine WQ_then ?_ | refine WQ_then_exit ?_ | refine WQ_block_here ?_ | refine WQ_block_on rfl ?_ | refine WQ_block_ret ?_ | refine WQ_block ?_ | refine WC_cond rfl (fun hc => ?_) (fun hc => ?_) | refine WC_condB rfl (fun hc => ?_) (fun hc => ?_))
  · exact absurd (by assumption) nl
  refine WL_eff (OE_call rfl (evs4 rfl rfl rfl rfl) (insertionD g fn lb c ho X base v xs _ hX hbase hrow hp (by omega))) rfl ?_
  rintro r w2 hres
  repeat' (first | (apply WL_move; exact rfl; exact rfl) | apply WL_nil | (apply WL_assign; exact rfl; exact rfl) | (apply WL_add; exact rfl; exact rfl; (unfold I64; omega); exact rfl) | (apply WL_mul; exact rfl; exact rfl; (unfold I64; omega); exact rfl) | (apply WL_leq; exact rfl; exact rfl; exact rfl) | (apply WL_lss; exact rfl; exact rfl; exact rfl) | apply WC_seq | apply WC_region | apply WC_block | apply WC_skip | apply WC_exit | (apply WC_cond_true; exact rfl) | (apply WC_cond_false; exact rfl) | refine WQ_then ?_ | refine WQ_then_exit ?_ | refine WQ_block_here ?_ | refine WQ_block_on rfl ?_ | refine WQ_block_ret ?_ | refine WQ_block ?_)
  refine WC_loop (σ := Unit) (fun _ => [(1, .int .i64 xs.length), (6, .int .i64 20)]) (fun _ w' => w' = w2) (fun _ => 0) () ⟨rfl, rfl, trivial⟩ rfl ?_
  rintro _ w' rfl
  repeat' (first | (apply WL_move; exact rfl; exact rfl) | apply WL_nil | (apply WL_assign; exact rfl; exact rfl) | (apply WL_add; exact rfl; exact rfl; (unfold I64; omega); exact rfl) | (apply WL_mul; exact rfl; exact rfl; (unfold I64; omega); exact rfl) | (apply WL_leq; exact rfl; exact rfl; exact rfl) | (apply WL_lss; exact rfl; exact rfl; exact rfl) | apply WC_seq | apply WC_region | apply WC_block | apply WC_skip | apply WC_exit | (apply WC_cond_true; exact rfl) | (apply WC_cond_false; exact rfl) | refine WQ_then ?_ | refine WQ_then_exit ?_ | refine WQ_block_here ?_ | refine WQ_block_on rfl ?_ | refine WQ_block_ret ?_ | refine WQ_block ?_ | refine WC_cond rfl (fun hc => ?_) (fun hc => ?_) | refine WC_condB rfl (fun hc => ?_) (fun hc => ?_))
  · exact absurd (by assumption) nl2
  first | refine WQ_ret1 rfl rfl ?_ | refine WQ_ret2 rfl rfl rfl ?_ | refine WQ_ret3 rfl rfl rfl rfl ?_ | refine WQ_ret0 rfl ?_ | refine WQ_end0 rfl ?_
  exact .mk hres
theorem sortStableD (g : Nat) (fn : Func) [Fun Try.prog g fn] (lb : Array Value) (c : Dlv → Dlv → Int) (ho : Ord c) (X : List Nat) (base : Nat) (v : Value) (xs : List Dlv) (w : World) (hX : ∀ b ∈ X, b < base) (hbase : base ≤ w.heap.size) (hrow : Row X w base 48 v xs) (hp : CmpS Try.prog (ob v) g lb c w) (hlen : xs.length < 20) :
    Calls Try.prog 50 #[v, .func (.func g) #[] lb] w (Ret fun r w' => ∃ ys, Sorts c xs ys ∧ Row X w' base 48 v ys ∧ Stp (ob v) w w') := by
  have hs := hrow.slv hX
  refine calls_of_WC2 (n := 9) Try.func50 rfl rfl rfl ?_
  repeat' (first | (apply WL_move; exact rfl; exact rfl) | apply WL_nil | (apply is_len; first | refine WL_lenS rfl (by assumption) rfl ?_ | refine WL_len rfl rfl ?_) | apply WC_seq | apply WC_region | refine WQ_then ?_)
  refine WL_eff (OE_call rfl (evs3 rfl rfl rfl) (stableD g fn lb c ho X base v xs _ hX hbase hrow hp hlen)) rfl ?_
  rintro r w2 hres
  repeat' (first | (apply WL_move; exact rfl; exact rfl) | apply WL_nil | (apply is_len; first | refine WL_lenS rfl (by assumption) rfl ?_ | refine WL_len rfl rfl ?_) | apply WC_seq | apply WC_region | refine WQ_then ?_)
  first | refine WQ_ret1 rfl rfl ?_ | refine WQ_ret2 rfl rfl rfl ?_ | refine WQ_ret3 rfl rfl rfl rfl ?_ | refine WQ_ret0 rfl ?_ | refine WQ_end0 rfl ?_
  exact .mk hres
theorem stableR (g : Nat) (fn : Func) [Fun Try.prog g fn] (lb : Array Value) (c : Rpt → Rpt → Int) (ho : Ord c) (X : List Nat) (base : Nat) (v : Value) (xs : List Rpt) (w : World) (hX : ∀ b ∈ X, b < base) (hbase : base ≤ w.heap.size) (hrow : Row X w base 52 v xs) (hp : CmpS Try.prog (ob v) g lb c w) (hlen : xs.length < 20) :
    Calls Try.prog 62 #[v, .int .i64 xs.length, .func (.func g) #[] lb] w (Ret fun r w' => ∃ ys, Sorts c xs ys ∧ Row X w' base 52 v ys ∧ Stp (ob v) w w') := by
  have nl : ¬ ((20 : Int) ≤ xs.length) := by omega
  have nl2 : ¬ ((20 : Int) < xs.length) := by omega
  refine calls_of_WC3 (n := 63) Try.func62 rfl rfl rfl ?_
  repeat' (first | (apply WL_move; exact rfl; exact rfl) | apply WL_nil | (apply WL_assign; exact rfl; exact rfl) | (apply WL_add; exact rfl; exact rfl; (unfold I64; omega); exact rfl) | (apply WL_mul; exact rfl; exact rfl; (unfold I64; omega); exact rfl) | (apply WL_leq; exact rfl; exact rfl; exact rfl) | (apply WL_lss; exact rfl; exact rfl; exact rfl) | apply WC_seq | apply WC_region | apply WC_block | apply WC_skip | apply WC_exit | (apply WC_cond_true; exact rfl) | (apply WC_cond_false; exact rfl) | refine WQ_then ?_ | refine WQ_then_exit ?_ | refine WQ_block_here ?_ | refine WQ_block_on rfl ?_ | refine WQ_block_ret ?_ | refine WQ_block ?_)
  refine WC_loop (σ := Unit) (fun _ => [(0, v), (1, .int .i64 xs.length), (2, .func (.func g) #[] lb), (6, .int .i64 20), (7, .int .i64 0), (8, .int .i64 20)]) (fun _ w' => w' = w) (fun _ => 0) () ⟨rfl, rfl, rfl, rfl, rfl, rfl, trivial⟩ rfl ?_
  rintro _ w' rfl
  repeat' (first | (apply WL_move; exact rfl; exact rfl) | apply WL_nil | (apply WL_assign; exact rfl; exact rfl) | (apply WL_add; exact rfl; exact rfl; (unfold I64; omega); exact rfl) | (apply WL_mul; exact rfl; exact rfl; (unfold I64; omega); exact rfl) | (apply WL_leq; exact rfl; exact rfl; exact rfl) | (apply WL_lss; exact rfl; exact rfl; exact rfl) | apply WC_seq | apply WC_region | apply WC_block | apply WC_skip | apply WC_exit | (apply WC_cond_true; exact rfl) | (apply WC_cond_false; exact rfl) | refine WQ_then ?_ | refine WQ_then_exit ?_ | refine WQ_block_here ?_ | refine WQ_block_on rfl ?_ | refine WQ_block_ret ?_ | refine WQ_block ?_ | refine WC_cond rfl (fun hc => ?_) (fun hc => ?_) | refine WC_condB rfl (fun hc => ?_) (fun hc => ?_))
  · exact absurd (by assumption) nl
  refine WL_eff (OE_call rfl (evs4 rfl rfl rfl rfl) (insertionR g fn lb c ho X base v xs _ hX hbase hrow hp (by omega))) rfl ?_
  rintro r w2 hres
  repeat' (first | (apply WL_move; exact rfl; exact rfl) | apply WL_nil | (apply WL_assign; exact rfl; exact rfl) | (apply WL_add; exact rfl; exact rfl; (unfold I64; omega); exact rfl) | (apply WL_mul; exact rfl; exact rfl; (unfold I64; omega); exact rfl) | (apply WL_leq; exact rfl; exact rfl; exact rfl) | (apply WL_lss; exact rfl; exact rfl; exact rfl) | apply WC_seq | apply WC_region | apply WC_block | apply WC_skip | apply WC_exit | (apply WC_cond_true; exact rfl) | (apply WC_cond_false; exact rfl) | refine WQ_then ?_ | refine WQ_then_exit ?_ | refine WQ_block_here ?_ | refine WQ_block_on rfl ?_ | refine WQ_block_ret ?_ | refine WQ_block ?_)
  refine WC_loop (σ := Unit) (fun _ => [(1, .int .i64 xs.length), (6, .int .i64 20)]) (fun _ w' => w' = w2) (fun _ => 0) () ⟨rfl, rfl, trivial⟩ rfl ?_
  rintro _ w' rfl
  repeat' (first | (apply WL_move; exact rfl; exact rfl) | apply WL_nil | (apply WL_assign; exact rfl; exact rfl) | (apply WL_add; exact rfl; exact rfl; (unfold I64; omega); exact rfl) | (apply WL_mul; exact rfl; exact rfl; (unfold I64; omega); exact rfl) | (apply WL_leq; exact rfl; exact rfl; exact rfl) | (apply WL_lss; exact rfl; exact rfl; exact rfl) | apply WC_seq | apply WC_region | apply WC_block | apply WC_skip | apply WC_exit | (apply WC_cond_true; exact rfl) | (apply WC_cond_false; exact rfl) | refine WQ_then ?_ | refine WQ_then_exit ?_ | refine WQ_block_here ?_ | refine WQ_block_on rfl ?_ | refine WQ_block_ret ?_ | refine WQ_block ?_ | refine WC_cond rfl (fun hc => ?_) (fun hc => ?_) | refine WC_condB rfl (fun hc => ?_) (fun hc => ?_))
  · exact absurd (by assumption) nl2
  first | refine WQ_ret1 rfl rfl ?_ | refine WQ_ret2 rfl rfl rfl ?_ | refine WQ_ret3 rfl rfl rfl rfl ?_ | refine WQ_ret0 rfl ?_ | refine WQ_end0 rfl ?_
  exact .mk hres
theorem sortStableR (g : Nat) (fn : Func) [Fun Try.prog g fn] (lb : Array Value) (c : Rpt → Rpt → Int) (ho : Ord c) (X : List Nat) (base : Nat) (v : Value) (xs : List Rpt) (w : World) (hX : ∀ b ∈ X, b < base) (hbase : base ≤ w.heap.size) (hrow : Row X w base 52 v xs) (hp : CmpS Try.prog (ob v) g lb c w) (hlen : xs.length < 20) :
    Calls Try.prog 56 #[v, .func (.func g) #[] lb] w (Ret fun r w' => ∃ ys, Sorts c xs ys ∧ Row X w' base 52 v ys ∧ Stp (ob v) w w') := by
  have hs := hrow.slv hX
  refine calls_of_WC2 (n := 9) Try.func56 rfl rfl rfl ?_
  repeat' (first | (apply WL_move; exact rfl; exact rfl) | apply WL_nil | (apply is_len; first | refine WL_lenS rfl (by assumption) rfl ?_ | refine WL_len rfl rfl ?_) | apply WC_seq | apply WC_region | refine WQ_then ?_)
  refine WL_eff (OE_call rfl (evs3 rfl rfl rfl) (stableR g fn lb c ho X base v xs _ hX hbase hrow hp hlen)) rfl ?_
  rintro r w2 hres
  repeat' (first | (apply WL_move; exact rfl; exact rfl) | apply WL_nil | (apply is_len; first | refine WL_lenS rfl (by assumption) rfl ?_ | refine WL_len rfl rfl ?_) | apply WC_seq | apply WC_region | refine WQ_then ?_)
  first | refine WQ_ret1 rfl rfl ?_ | refine WQ_ret2 rfl rfl rfl ?_ | refine WQ_ret3 rfl rfl rfl rfl ?_ | refine WQ_ret0 rfl ?_ | refine WQ_end0 rfl ?_
  exact .mk hres

theorem sortedD (X : List Nat) (base : Nat) (v : Value) (xs : List Dlv) (till : Int) (w : World) (hX : ∀ b ∈ X, b < base) (hbase : base ≤ w.heap.size) (hrow : Row X w base 48 v xs) (hlen : xs.length < 20) :
    Calls Try.prog 35 #[v, .int .i64 till, .func (.func 36) #[] #[]] w (Ret fun r w' => ∃ ys, Sorts cmpD (xs.filter (fun x => !decide (x.day > till))) ys ∧ Row X w' base 48 r ys ∧ Stp (ob v) w w' ∧ ob r = ob v) := by
  have hob := hrow.ob_le
  have hs := hrow.slv hX
  refine calls_of_WC3 (n := 14) Try.func35 rfl rfl rfl ?_
  repeat' (first | (apply WL_assign; exact rfl; exact rfl) | apply WL_nil | (apply WL_move; exact rfl; exact rfl) | (apply WL_makeFunc0; exact rfl) | (apply WL_makeFunc1; exact rfl; exact rfl) | (apply WL_makeFunc2; exact rfl; exact rfl; exact rfl) | (apply WL_makeFunc3; exact rfl; exact rfl; exact rfl; exact rfl) | apply WC_seq | apply WC_region | apply WC_ret | refine WQ_then ?_ | refine WQ_then_ret ?_)
  refine WL_eff (OE_box rfl) rfl ?_
  rintro _ w1 ⟨b1, rfl, hb1, hblk1, hS1⟩
  refine WL_eff (OE_box rfl) rfl ?_
  rintro _ w2 ⟨b2, rfl, hb2, hblk2, hS2⟩
  replace hblk1 := hblk1.up hS2
  have hw0 := hS1.size
  replace hS1 := hS1.trans hS2
  replace hrow := hrow.up hS1; replace hs := hs.up hS1
  have n1 : b1 ∉ ob v := fun h => by have := (hob _ h).2; omega
  have n2 : b2 ∉ ob v := fun h => by have := (hob _ h).2; have := hS2.size; omega
  repeat' (first | (apply WL_assign; exact rfl; exact rfl) | apply WL_nil | (apply WL_move; exact rfl; exact rfl) | (apply WL_makeFunc0; exact rfl) | (apply WL_makeFunc1; exact rfl; exact rfl) | (apply WL_makeFunc2; exact rfl; exact rfl; exact rfl) | (apply WL_makeFunc3; exact rfl; exact rfl; exact rfl; exact rfl) | apply WC_seq | apply WC_region | apply WC_ret | refine WQ_then ?_ | refine WQ_then_ret ?_)
  have hw1 := hS1.size
  refine WL_eff (OE_call rfl (evs2 rfl rfl) (deleteD 49 _ _ (fun x => decide (x.day > till)) X base v xs _ hX (by omega) hrow (lateD (ob v) b2 b1 _ _ till _ hblk2 hblk1 n2 n1) (by omega))) rfl ?_
  rintro r w3 ⟨hrow, hS3, hobr⟩
  replace hblk2 := hblk2.ext hS3 n2
  have hw3 := hS3.size
  repeat' (first | (apply WL_assign; exact rfl; exact rfl) | apply WL_nil | (apply WL_move; exact rfl; exact rfl) | (apply WL_makeFunc0; exact rfl) | (apply WL_makeFunc1; exact rfl; exact rfl) | (apply WL_makeFunc2; exact rfl; exact rfl; exact rfl) | (apply WL_makeFunc3; exact rfl; exact rfl; exact rfl; exact rfl) | apply WC_seq | apply WC_region | apply WC_ret | refine WQ_then ?_ | refine WQ_then_ret ?_)
  refine WL_eff (OE_call rfl (evs2 rfl rfl) (sortStableD 51 _ _ cmpD ordD X base r _ _ hX (by omega) hrow (compD (ob r) b2 _ _ hblk2 (by rw [hobr]; exact n2)) (Nat.lt_of_le_of_lt (List.length_filter_le _ _) hlen))) rfl ?_
  rintro z w4 ⟨ys, hys, hrow, hS4⟩
  repeat' (first | (apply WL_assign; exact rfl; exact rfl) | apply WL_nil | (apply WL_move; exact rfl; exact rfl) | (apply WL_makeFunc0; exact rfl) | (apply WL_makeFunc1; exact rfl; exact rfl) | (apply WL_makeFunc2; exact rfl; exact rfl; exact rfl) | (apply WL_makeFunc3; exact rfl; exact rfl; exact rfl; exact rfl) | apply WC_seq | apply WC_region | apply WC_ret | refine WQ_then ?_ | refine WQ_then_ret ?_)
  first | refine WQ_ret1 rfl rfl ?_ | refine WQ_ret2 rfl rfl rfl ?_ | refine WQ_ret3 rfl rfl rfl rfl ?_ | refine WQ_ret0 rfl ?_ | refine WQ_end0 rfl ?_
  exact .mk ⟨ys, hys, hrow, ((hS1.mono (by simp)).trans hS3).trans (hobr ▸ hS4), hobr⟩
theorem sortedR (X : List Nat) (base : Nat) (v : Value) (xs : List Rpt) (till : Int) (w : World) (hX : ∀ b ∈ X, b < base) (hbase : base ≤ w.heap.size) (hrow : Row X w base 52 v xs) (hlen : xs.length < 20) :
    Calls Try.prog 37 #[v, .int .i64 till, .func (.func 38) #[] #[]] w (Ret fun r w' => ∃ ys, Sorts cmpR (xs.filter (fun x => !decide (x.day > till))) ys ∧ Row X w' base 52 r ys ∧ Stp (ob v) w w' ∧ ob r = ob v) := by
  have hob := hrow.ob_le
  have hs := hrow.slv hX
  refine calls_of_WC3 (n := 14) Try.func37 rfl rfl rfl ?_
  repeat' (first | (apply WL_assign; exact rfl; exact rfl) | apply WL_nil | (apply WL_move; exact rfl; exact rfl) | (apply WL_makeFunc0; exact rfl) | (apply WL_makeFunc1; exact rfl; exact rfl) | (apply WL_makeFunc2; exact rfl; exact rfl; exact rfl) | (apply WL_makeFunc3; exact rfl; exact rfl; exact rfl; exact rfl) | apply WC_seq | apply WC_region | apply WC_ret | refine WQ_then ?_ | refine WQ_then_ret ?_)
  refine WL_eff (OE_box rfl) rfl ?_
  rintro _ w1 ⟨b1, rfl, hb1, hblk1, hS1⟩
  refine WL_eff (OE_box rfl) rfl ?_
  rintro _ w2 ⟨b2, rfl, hb2, hblk2, hS2⟩
  replace hblk1 := hblk1.up hS2
  have hw0 := hS1.size
  replace hS1 := hS1.trans hS2
  replace hrow := hrow.up hS1; replace hs := hs.up hS1
  have n1 : b1 ∉ ob v := fun h => by have := (hob _ h).2; omega
  have n2 : b2 ∉ ob v := fun h => by have := (hob _ h).2; have := hS2.size; omega
  repeat' (first | (apply WL_assign; exact rfl; exact rfl) | apply WL_nil | (apply WL_move; exact rfl; exact rfl) | (apply WL_makeFunc0; exact rfl) | (apply WL_makeFunc1; exact rfl; exact rfl) | (apply WL_makeFunc2; exact rfl; exact rfl; exact rfl) | (apply WL_makeFunc3; exact rfl; exact rfl; exact rfl; exact rfl) | apply WC_seq | apply WC_region | apply WC_ret | refine WQ_then ?_ | refine WQ_then_ret ?_)
  have hw1 := hS1.size
  refine WL_eff (OE_call rfl (evs2 rfl rfl) (deleteR 55 _ _ (fun x => decide (x.day > till)) X base v xs _ hX (by omega) hrow (lateR (ob v) b2 b1 _ _ till _ hblk2 hblk1 n2 n1) (by omega))) rfl ?_
  rintro r w3 ⟨hrow, hS3, hobr⟩
  replace hblk2 := hblk2.ext hS3 n2
  have hw3 := hS3.size
  repeat' (first | (apply WL_assign; exact rfl; exact rfl) | apply WL_nil | (apply WL_move; exact rfl; exact rfl) | (apply WL_makeFunc0; exact rfl) | (apply WL_makeFunc1; exact rfl; exact rfl) | (apply WL_makeFunc2; exact rfl; exact rfl; exact rfl) | (apply WL_makeFunc3; exact rfl; exact rfl; exact rfl; exact rfl) | apply WC_seq | apply WC_region | apply WC_ret | refine WQ_then ?_ | refine WQ_then_ret ?_)
  refine WL_eff (OE_call rfl (evs2 rfl rfl) (sortStableR 57 _ _ cmpR ordR X base r _ _ hX (by omega) hrow (compR (ob r) b2 _ _ hblk2 (by rw [hobr]; exact n2)) (Nat.lt_of_le_of_lt (List.length_filter_le _ _) hlen))) rfl ?_
  rintro z w4 ⟨ys, hys, hrow, hS4⟩
  repeat' (first | (apply WL_assign; exact rfl; exact rfl) | apply WL_nil | (apply WL_move; exact rfl; exact rfl) | (apply WL_makeFunc0; exact rfl) | (apply WL_makeFunc1; exact rfl; exact rfl) | (apply WL_makeFunc2; exact rfl; exact rfl; exact rfl) | (apply WL_makeFunc3; exact rfl; exact rfl; exact rfl; exact rfl) | apply WC_seq | apply WC_region | apply WC_ret | refine WQ_then ?_ | refine WQ_then_ret ?_)
  first | refine WQ_ret1 rfl rfl ?_ | refine WQ_ret2 rfl rfl rfl ?_ | refine WQ_ret3 rfl rfl rfl rfl ?_ | refine WQ_ret0 rfl ?_ | refine WQ_end0 rfl ?_
  exact .mk ⟨ys, hys, hrow, ((hS1.mono (by simp)).trans hS3).trans (hobr ▸ hS4), hobr⟩
end Go.Proofs.Ytddopcmemiheaaa
