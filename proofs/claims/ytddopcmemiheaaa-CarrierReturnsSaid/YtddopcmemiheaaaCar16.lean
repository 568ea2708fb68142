import Derived.Test.YtddopcmemiheaaaCar15
namespace Go.Proofs.Ytddopcmemiheaaa
open Go Go.Eng Go.RowKit
set_option linter.unusedVariables false

def turn {α : Type} (l : List α) (z : Int) : List α := l.drop (around z l.length).toNat ++ l.take (around z l.length).toNat
theorem turned_any (X Y : List Nat) (v : Value) (l : List Pap) (z : Int) (w : World) (hX : ∀ b ∈ X, b < w.heap.size) (hl : SlV Y w v l) (hz : I64 z) (hn : l.length ≤ 1000) :
    Calls Try.prog 21 #[v, .int .i64 z] w (Ret fun r w' => SlV X w' r (turn l z) ∧ Stp [] w w') := by
  have hmax := hl.max
  by_cases h0 : l.length = 0
  · refine calls_of_WC2 (n := 22) Try.func21 rfl rfl rfl ?_
    repeat' (first | (apply WL_assign; exact rfl; exact rfl) | apply WL_nil | (apply WL_move; exact rfl; exact rfl) | (apply is_len; first | refine WL_lenS rfl (by assumption) rfl ?_ | refine WL_len rfl rfl ?_) | (apply WL_eql; exact rfl; exact rfl; exact rfl) | (apply WL_eqlB; exact rfl; exact rfl; exact rfl) | apply WC_seq | apply WC_region | apply WC_skip | apply WC_ret | (apply WC_cond_true; exact rfl) | (apply WC_cond_false; exact rfl) | refine WQ_then ?_ | refine WQ_then_ret ?_ | refine WC_cond rfl (fun hc => ?_) (fun hc => ?_) | refine WC_condB rfl (fun hc => ?_) (fun hc => ?_))
    · first | refine WQ_ret1 rfl rfl ?_ | refine WQ_ret2 rfl rfl rfl ?_ | refine WQ_ret3 rfl rfl rfl rfl ?_ | refine WQ_ret0 rfl ?_ | refine WQ_end0 rfl ?_
      have : l = [] := List.length_eq_zero_iff.1 h0
      subst this
      exact .mk ⟨by simpa [turn] using SlV.nil (α := Pap) X w, Stp.refl _ _⟩
    · omega
  · refine calls_of_WC2 (n := 22) Try.func21 rfl rfl rfl ?_
    repeat' (first | (apply WL_assign; exact rfl; exact rfl) | apply WL_nil | (apply WL_move; exact rfl; exact rfl) | (apply is_len; first | refine WL_lenS rfl (by assumption) rfl ?_ | refine WL_len rfl rfl ?_) | (apply WL_eql; exact rfl; exact rfl; exact rfl) | (apply WL_eqlB; exact rfl; exact rfl; exact rfl) | apply WC_seq | apply WC_region | apply WC_skip | apply WC_ret | (apply WC_cond_true; exact rfl) | (apply WC_cond_false; exact rfl) | refine WQ_then ?_ | refine WQ_then_ret ?_ | refine WC_cond rfl (fun hc => ?_) (fun hc => ?_) | refine WC_condB rfl (fun hc => ?_) (fun hc => ?_))
    · omega
    refine WL_eff (OE_call rfl (evs2 rfl rfl) (around_any _ l.length hz (by omega) _)) rfl ?_
    rintro _ w1 ⟨rfl, hS⟩
    obtain ⟨g0, g1⟩ := around_lo z l.length (by omega)
    unfold turn
    obtain ⟨k, hk⟩ : ∃ k : Nat, around z l.length = (k : Int) := ⟨(around z l.length).toNat, by omega⟩
    rw [hk] at g0 g1 ⊢
    rw [Int.toNat_natCast]
    replace hl := hl.up hS
    have hkl : k ≤ l.length := by omega
    repeat' (first | (apply WL_assign; exact rfl; exact rfl) | apply WL_nil | (apply WL_move; exact rfl; exact rfl) | (apply is_len; first | refine WL_lenS rfl (by assumption) rfl ?_ | refine WL_len rfl rfl ?_) | (apply WL_eql; exact rfl; exact rfl; exact rfl) | (apply WL_eqlB; exact rfl; exact rfl; exact rfl) | apply WC_seq | apply WC_region | apply WC_skip | apply WC_ret | (apply WC_cond_true; exact rfl) | (apply WC_cond_false; exact rfl) | refine WQ_then ?_ | refine WQ_then_ret ?_)
    refine WC_drawn 10 [] [4, 8] [(1, 0), (2, 0), (3, 0), (5, 0), (6, 0), (7, 0), (0, 2), (4, 2), (8, 2), (9, 0)] rfl mixed (by kernel_rfl) rfl (by kernel_rfl) (fun w1 hS1 => ?_)
    replace hl := hl.up hS1
    replace hS := hS.trans hS1
    have hw1 := hS.size
    (all_goals (first | refine WF_move rfl (by first | exact trivial | exact rfl) rfl rfl ?_); all_goals (first | refine WF_move rfl (by first | exact trivial | exact rfl) rfl rfl ?_))
    refine WD_free rfl trivial (fun w' => PR_slice_l rfl hl rfl rfl hkl) rfl ?_
    (all_goals (first | refine WF_move rfl (by first | exact trivial | exact rfl) rfl rfl ?_); all_goals (first | refine WF_move rfl (by first | exact trivial | exact rfl) rfl rfl ?_))
    refine WD_free rfl trivial (fun w' => PR_slice_h rfl hl rfl rfl hkl) rfl ?_
    (skip)
    refine WD_eff rfl trivial (OE_buildSlice (vs := []) rfl (buildSP0)) (fun _ _ h => h.choose_spec.2.2.2) rfl ?_
    rintro o w2 hN
    have hSb := hN.choose_spec.2.2.2
    have hrow : Row [] w2 w.heap.size 42 o ([] : List Pap) := hN.row hw1 rfl rfl (by simp [maxLen])
    obtain ⟨bo, hbo, hbo2, _, _⟩ := hN
    have hob : ∀ b ∈ ob o, w1.heap.size ≤ b := by subst hbo; simp [ob]; omega
    have hl2 : SlV (ob o ++ []) w2 v l := hl.ext hSb (by simp) (fun b hb => .inr (hob b (by simpa using hb)))
    have hs2 := hl2.slc (r := l.length) hkl (Nat.le_refl _)
    rw [List.take_length] at hs2
    have hw2 := hSb.size
    refine WD_late rfl trivial (OE_append (X := []) (base := w.heap.size) rfl (by decide) rfl rfl hrow hs2 (by simp; omega) (by simp [maxLen]; omega) (by omega)) rfl rfl ?_
    rintro r w3 ⟨hrow3, hS3, hob3⟩
    have hSc := hSb.own hS3 (fun b hb => .inr (hob b hb))
    have hob4 : ∀ b ∈ ob r, w1.heap.size ≤ b := fun b hb => (hob3 b hb).elim (hob b) (fun h => by omega)
    have hl3 : SlV (ob r ++ []) w3 v l := hl.ext hSc (by simp) (fun b hb => .inr (hob4 b (by simpa using hb)))
    have hs3 := hl3.slc (Nat.zero_le k) hkl
    have hw3 := hSc.size
    refine WD_late rfl trivial (OE_append (X := []) (base := w.heap.size) rfl (by decide) rfl rfl hrow3 hs3 (by simp; omega) (by simp [maxLen]; omega) (by omega)) rfl rfl ?_
    rintro r2 w4 ⟨hrow4, hS4, hob5⟩
    (all_goals (first | refine WF_assign rfl (by first | exact trivial | exact rfl) rfl rfl ?_); all_goals (refine WD_nil ?_))
    repeat' (first | (apply WL_assign; exact rfl; exact rfl) | apply WL_nil | (apply WL_move; exact rfl; exact rfl) | (apply is_len; first | refine WL_lenS rfl (by assumption) rfl ?_ | refine WL_len rfl rfl ?_) | (apply WL_eql; exact rfl; exact rfl; exact rfl) | (apply WL_eqlB; exact rfl; exact rfl; exact rfl) | apply WC_seq | apply WC_region | apply WC_skip | apply WC_ret | (apply WC_cond_true; exact rfl) | (apply WC_cond_false; exact rfl) | refine WQ_then ?_ | refine WQ_then_ret ?_)
    first | refine WQ_ret1 rfl rfl ?_ | refine WQ_ret2 rfl rfl rfl ?_ | refine WQ_ret3 rfl rfl rfl rfl ?_ | refine WQ_ret0 rfl ?_ | refine WQ_end0 rfl ?_
    refine .mk ⟨?_, hS.trans (hSc.own hS4 (fun b hb => .inr (hob4 b hb)))⟩
    have := (hrow4.reX (X' := X)).slv hX
    simpa using this
end Go.Proofs.Ytddopcmemiheaaa
