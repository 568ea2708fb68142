/-
CarrierChecks: for all papers and ways, with arbitrary fields, and for those made from numbers with a further paper or way, Check returns the specified error. No condition.
-/
import Derived.Test.YtddopcmemiheaaaCarC
namespace Go.Proofs.Ytddopcmemiheaaa
open Go Go.Eng Go.RowKit Go.Proofs Go.ChangeShapes Go.WideShapes
set_option linter.unusedVariables false
theorem carrierChecks_spec : LawSpec Rows.carrierChecksSpec 3 := ⟨rfl, fun H ds hl => by
  match ds, hl with
  | [d0, d1, d2], _ => exact ⟨rfl, rfl, rfl⟩⟩
set_option maxRecDepth 100000 in
theorem carrierChecks_lifted (os : Os) (started : os.Started) (H : Type) (enc : TypeId × Value → H) :
    ReturnsInHanded {} Try.checked os 3 .any (Rows.carrierChecksSpec.pre6 enc Try.prog Try.f3 Rows.carrierChecksRow.domain false) (Rows.carrierChecksSpec.post enc Try.prog Try.f3 false true false false) := by
  refine returnsInHanded_of_change_sized (C := Try.checked) law_own started (by kernel_rfl) Try.func3
    (ChangeSpec.witness6 (enc := enc) (C := Try.checked) false ⟨#[], #[.slice none 0 0, .slice none 0 0, .agg #[.slice none 0 0, .slice none 0 0, .int .i64 0]], []⟩ 8 (by kernel_rfl) (by kernel_rfl) (by kernel_rfl) (by kernel_rfl)) ?_
  intro W base args ds gs before hval0 hW _ hsz0 _
  have hval : ∀ (j : Nat) t v, Try.f3.params[j]? = some t → args[j]? = some v → Value.okWide Try.prog W .any base t v := hval0
  refine law_post law_laid (by kernel_rfl) (tb := 4) rfl Try.underlying4 carrierChecks_spec hW ?_
  obtain ⟨p, q, hA0, hV, _⟩ := hW
  obtain ⟨rfl, rfl⟩ := trodVars_none hV
  have hA : DataW.TrodAll enc Try.prog W 0 (fun _ => true) true Try.f3.params.toList args.toList ds p := hA0
  have hsz : (DataW.weightsEach Try.prog (Try.f3.params.toList ++ []) (ds ++ [])).all (· ≤ reachBytes) = true := hsz0
  rw [List.append_nil, List.append_nil, Try.params3] at hsz
  rw [Try.params3] at hA hval
  obtain ⟨v0, v1, v2, d0, d1, d2, p0, p1, p2, rfl, rfl, rfl, h0, h1, h2⟩ := trodAll_three hA
  have z0 := sized_len hsz (j := 0) rfl rfl Try.underlying22
  have z1 := sized_len hsz (j := 1) rfl rfl Try.underlying23
  rw [show Try.prog.bytesOf 42 = 32 by kernel_rfl] at z0
  rw [show Try.prog.bytesOf 55 = 32 by kernel_rfl] at z1
  obtain ⟨ps, hps, _, l0⟩ := paps_read (hval 0 _ v0 rfl rfl) h0
  obtain ⟨ws, hws, _, l1⟩ := wys_read (hval 1 _ v1 rfl rfl) h1
  obtain ⟨va, vb, a, b, n, rfl, ha, hb, hia, hib, hn⟩ := case_read (hval 2 _ v2 rfl rfl) h2
  rw [l0] at z0
  rw [l1] at z1
  unfold reachBytes at z0 z1
  exact checksLaw [] [] [] [] v0 v1 va vb ps ws a b n W hps hws ha hb hia hib hn (by omega) (by omega)
theorem carrierChecks_holds : Rows.CarrierChecksSaid :=
  OpenClaim.holds_of_wide 3 Try.f3 rfl rfl rfl rfl rfl rfl rfl ⟨rfl, rfl, rfl, rfl, rfl⟩ rfl rfl rfl rfl rfl (by kernel_rfl) Try.func3 (by kernel_rfl)
    (of_decide_eq_true (by kernel_rfl)) (by unfold Func.isWrapper; first | (rw [if_pos (by decide +kernel)]; kernel_rfl) | (rw [if_neg (by decide +kernel)]; exact ⟨rfl, rfl⟩))
    (fun os started H enc _ => carrierChecks_lifted os started H enc)
end Go.Proofs.Ytddopcmemiheaaa
