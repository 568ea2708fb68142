/-
Merged by program out of own texts: Wlk2.
-/
import Derived.Test.YtfjmlobgjdmecaaDoorM4
namespace Go.Proofs.YtfjmlobgjdmecaaDoor
open Go Go.Eng Go.RowKit
set_option linter.unusedVariables false

theorem walk_any (v tv : Value) (code : List Ins) (turns : List Bool) (t : Int) (w : World) (hs : SlV [] w v code) (ht : SlV [] w tv turns) (hv : verM code = (t, 0)) :
    Calls Tryd.prog 23 #[v, tv] w (Ret fun r w' => (t = 1 ∨ t = 2 ∨ t = 3) ∧ r = .tuple #[str [tyB t], .bool true] ∧ Stp [] w w') := by
  obtain ⟨hn0, hn200, st, hlen, hok, h16, hz, hlast, hgood⟩ := ver_good hv
  have ht3 : t = 1 ∨ t = 2 ∨ t = 3 := by
    have := getD_ok hok (by omega) hlast
    exact this t (by simp)
  have hmt := ht.max
  refine calls_of_WC2 (n := 87) Tryd.func23 rfl rfl rfl ?_
  refine W ?_
  refine WC_loop (σ := Nat × Nat × Shp) (fun q => [(0, v), (1, tv), (6, str (encS q.2.2)), (7, .int .i64 (q.2.1 : Int)), (8, .int .i64 (q.1 : Int))])
    (fun q w' => q.1 ≤ q.2.1 ∧ q.2.1 < code.length ∧ st.getD q.2.1 none = some q.2.2 ∧ Stp [] w w') (fun q => code.length - q.1) (0, 0, []) ⟨rfl, rfl, rfl, rfl, rfl, trivial⟩ ⟨Nat.le_refl _, hn0, hz, Stp.refl _ _⟩ ?_
  rintro ⟨k, a, s⟩ w1 ⟨hka, ha, hst, hS⟩
  try dsimp only at hka ha hst ⊢
  obtain ⟨s', nx, hg⟩ := hgood a ha
  obtain rfl : s = s' := by have := hg.at_; rw [hst] at this; exact Option.some.inj this
  replace hs := hs.up hS
  replace ht := ht.up hS
  have hcg : code.getD a ⟨0, 0⟩ = code[a] := by simp [List.getD, ha]
  obtain ⟨-, hnext, hstop, hjump, hon⟩ := hg
  rw [hcg] at hnext hstop hjump hon
  rw [hlen] at hstop hjump hon
  have hs0 : okS s := getD_ok hok (by omega) hst
  have hl16 : s.length ≤ 16 := by
    refine h16 s ?_
    have : st.getD a none = st[a]'(by omega) := by simp [List.getD, show a < st.length by omega]
    rw [← hst, this]; exact List.getElem_mem _
  have hA : afterM code[a] a code.length (encS s) = some (encS nx) := by
    rw [after_next hs0, if_neg ?_, hnext]; rfl
    rintro ⟨h1, h2⟩
    have := hjump h1
    omega
  have hklt : k < code.length := by omega
  repeat' (first | refine W1 ?_ | (exfalso; omega) | refine WL_split rfl rfl (fun hg => ?_) (fun hg => ?_) | refine WL_splitB rfl rfl (fun hg => ?_) (fun hg => ?_) | refine WC_cond rfl (fun hc => ?_) (fun hc => ?_) | refine WC_condB rfl (fun hc => ?_) (fun hc => ?_))
  refine WL_eff (OE_call rfl (evs4 rfl rfl rfl rfl) (After_any code[a] a code.length (encS s) _ (by omega) (by omega) (by rw [encS_len]; omega))) rfl ?_
  rintro _ w2 ⟨rfl, hS2⟩
  rw [hA]
  replace hs := hs.up hS2
  replace ht := ht.up hS2
  replace hS := hS.trans hS2
  by_cases h24 : code[a].op = 24
  · obtain ⟨e1, e2⟩ := hstop h24
    have hnx : nx = s := by
      unfold nextM at hnext
      have he : effF code[a] = ([], [], [], decide (code[a].n = 0)) := by
        generalize code[a] = x at h24
        obtain ⟨op, n⟩ := x
        dsimp only at h24
        subst h24
        rfl
      rw [he] at hnext
      simp at hnext
      exact hnext.2.symm
    have hsl : s = [t] := by
      rw [show a = code.length - 1 by omega, hlast] at hst
      exact (Option.some.inj hst).symm
    repeat' (first | refine W1 ?_ | (exfalso; omega) | refine WL_split rfl rfl (fun hg => ?_) (fun hg => ?_) | refine WL_splitB rfl rfl (fun hg => ?_) (fun hg => ?_) | refine WC_cond rfl (fun hc => ?_) (fun hc => ?_) | refine WC_condB rfl (fun hc => ?_) (fun hc => ?_))
    first | refine WQ_ret1 rfl rfl ?_ | refine WQ_ret2 rfl rfl rfl ?_ | refine WQ_ret3 rfl rfl rfl rfl ?_ | refine WQ_ret0 rfl ?_ | refine WQ_end0 rfl ?_
    refine .mk ⟨ht3, ?_, hS⟩
    rw [hnx, hsl, decide_eq_true (by omega)]
    rfl
  by_cases hj : code[a].op = 13 ∨ code[a].op = 14
  · obtain ⟨j1, j2, j3⟩ := hjump hj
    obtain ⟨q, hq⟩ : ∃ q : Nat, code[a].n = (q : Int) := ⟨code[a].n.toNat, by omega⟩
    have j3' : st.getD q none = some nx := by rw [hq] at j3; exact j3
    by_cases h13 : code[a].op = 13
    · by_cases hlt : a < turns.length
      · repeat' (first | refine W1 ?_ | (exfalso; omega) | refine WL_split rfl rfl (fun hg => ?_) (fun hg => ?_) | refine WL_splitB rfl rfl (fun hg => ?_) (fun hg => ?_) | refine WC_cond rfl (fun hc => ?_) (fun hc => ?_) | refine WC_condB rfl (fun hc => ?_) (fun hc => ?_))
        all_goals exact WQ_loop (k + 1, q, nx) ⟨rfl, rfl, rfl, by rw [← hq]; rfl, rfl, trivial⟩ ⟨by dsimp only; omega, by dsimp only; omega, j3', hS⟩ (by dsimp only; omega)
      · repeat' (first | refine W1 ?_ | (exfalso; omega) | refine WL_split rfl rfl (fun hg => ?_) (fun hg => ?_) | refine WL_splitB rfl rfl (fun hg => ?_) (fun hg => ?_) | refine WC_cond rfl (fun hc => ?_) (fun hc => ?_) | refine WC_condB rfl (fun hc => ?_) (fun hc => ?_))
        all_goals exact WQ_loop (k + 1, q, nx) ⟨rfl, rfl, rfl, by rw [← hq]; rfl, rfl, trivial⟩ ⟨by dsimp only; omega, by dsimp only; omega, j3', hS⟩ (by dsimp only; omega)
    · obtain ⟨o1, o2⟩ := hon h24 h13
      by_cases hlt : a < turns.length
      · repeat' (first | refine W1 ?_ | (exfalso; omega) | refine WL_split rfl rfl (fun hg => ?_) (fun hg => ?_) | refine WL_splitB rfl rfl (fun hg => ?_) (fun hg => ?_) | refine WC_cond rfl (fun hc => ?_) (fun hc => ?_) | refine WC_condB rfl (fun hc => ?_) (fun hc => ?_))
        all_goals first
          | exact WQ_loop (k + 1, a + 1, nx) ⟨rfl, rfl, rfl, rfl, rfl, trivial⟩ ⟨by dsimp only; omega, by dsimp only; omega, o2, hS⟩ (by dsimp only; omega)
          | exact WQ_loop (k + 1, q, nx) ⟨rfl, rfl, rfl, by rw [← hq]; rfl, rfl, trivial⟩ ⟨by dsimp only; omega, by dsimp only; omega, j3', hS⟩ (by dsimp only; omega)
      · repeat' (first | refine W1 ?_ | (exfalso; omega) | refine WL_split rfl rfl (fun hg => ?_) (fun hg => ?_) | refine WL_splitB rfl rfl (fun hg => ?_) (fun hg => ?_) | refine WC_cond rfl (fun hc => ?_) (fun hc => ?_) | refine WC_condB rfl (fun hc => ?_) (fun hc => ?_))
        all_goals first
          | exact WQ_loop (k + 1, a + 1, nx) ⟨rfl, rfl, rfl, rfl, rfl, trivial⟩ ⟨by dsimp only; omega, by dsimp only; omega, o2, hS⟩ (by dsimp only; omega)
          | exact WQ_loop (k + 1, q, nx) ⟨rfl, rfl, rfl, by rw [← hq]; rfl, rfl, trivial⟩ ⟨by dsimp only; omega, by dsimp only; omega, j3', hS⟩ (by dsimp only; omega)
  · have h13 : ¬ code[a].op = 13 := fun h => hj (.inl h)
    have h14 : ¬ code[a].op = 14 := fun h => hj (.inr h)
    obtain ⟨o1, o2⟩ := hon h24 h13
    by_cases hlt : a < turns.length
    · repeat' (first | refine W1 ?_ | (exfalso; omega) | refine WL_split rfl rfl (fun hg => ?_) (fun hg => ?_) | refine WL_splitB rfl rfl (fun hg => ?_) (fun hg => ?_) | refine WC_cond rfl (fun hc => ?_) (fun hc => ?_) | refine WC_condB rfl (fun hc => ?_) (fun hc => ?_))
      all_goals exact WQ_loop (k + 1, a + 1, nx) ⟨rfl, rfl, rfl, rfl, rfl, trivial⟩ ⟨by dsimp only; omega, by dsimp only; omega, o2, hS⟩ (by dsimp only; omega)
    · repeat' (first | refine W1 ?_ | (exfalso; omega) | refine WL_split rfl rfl (fun hg => ?_) (fun hg => ?_) | refine WL_splitB rfl rfl (fun hg => ?_) (fun hg => ?_) | refine WC_cond rfl (fun hc => ?_) (fun hc => ?_) | refine WC_condB rfl (fun hc => ?_) (fun hc => ?_))
      all_goals exact WQ_loop (k + 1, a + 1, nx) ⟨rfl, rfl, rfl, rfl, rfl, trivial⟩ ⟨by dsimp only; omega, by dsimp only; omega, o2, hS⟩ (by dsimp only; omega)
end Go.Proofs.YtfjmlobgjdmecaaDoor
