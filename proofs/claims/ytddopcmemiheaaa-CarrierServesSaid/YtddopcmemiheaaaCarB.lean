/-
CarrierServes: for all deliveries, papers made from numbers and attempts, Served returns what is specified. No condition.
-/
import Derived.Test.YtddopcmemiheaaaCarA
namespace Go.Proofs.Ytddopcmemiheaaa
open Go Go.Eng Go.RowKit Go.Proofs Go.ChangeShapes Go.WideShapes
set_option linter.unusedVariables false
theorem serves_spec : LawSpec Rows.carrierServesSpec 3 := ⟨rfl, fun H ds hl => by
  match ds, hl with
  | [a, b, c], _ => exact ⟨rfl, rfl, rfl⟩⟩
set_option maxRecDepth 100000 in
theorem serves_lifted (os : Os) (started : os.Started) (H : Type) (enc : TypeId × Value → H) :
    ReturnsInHanded {} Try.checked os 6 .any (Rows.carrierServesSpec.pre6 enc Try.prog Try.f6 Rows.carrierServesRow.domain false) (Rows.carrierServesSpec.post enc Try.prog Try.f6 false true false false) := by
  refine returnsInHanded_of_change (C := Try.checked) law_own started (by kernel_rfl) Try.func6
    (ChangeSpec.witness6 (enc := enc) (C := Try.checked) false ⟨#[], #[.slice none 0 0, .agg #[.slice none 0 0, .slice none 0 0, .int .i64 0], .int .i64 0], []⟩ 8 (by kernel_rfl) (by kernel_rfl) (by kernel_rfl) (by kernel_rfl)) ?_
  intro W base args ds gs before hval0 hW _ _
  have hval : ∀ (j : Nat) t v, Try.f6.params[j]? = some t → args[j]? = some v → Value.okWide Try.prog W .any base t v := hval0
  refine law_post law_laid (by kernel_rfl) (tb := 4) rfl Try.underlying4 serves_spec hW ?_
  obtain ⟨p, q, hA0, _⟩ := hW
  have hA : DataW.TrodAll enc Try.prog W 0 (fun _ => true) true Try.f6.params.toList args.toList ds p := hA0
  rw [Try.params6] at hA hval
  obtain ⟨v0, v1, v2, d0, d1, d2, p0, p1, p2, rfl, rfl, rfl, h0, h1, h2⟩ := trodAll_three hA
  obtain ⟨l, hl, _⟩ := dlvs_read (hval 0 _ v0 rfl rfl) h0
  obtain ⟨va, vb, a, b, n, rfl, ha, hb, hia, hib, hn⟩ := case_read (hval 1 _ v1 rfl rfl) h1
  obtain ⟨z, rfl, hz⟩ := open_i64 (hval 2 _ v2 rfl rfl) h2
  exact servesLaw [] [] [] va vb v0 a b l n z W ha hb hl hia hib hn hz
theorem serves_holds : Rows.CarrierServesSaid :=
  OpenClaim.holds_of_wide 6 Try.f6 rfl rfl rfl rfl rfl rfl rfl ⟨rfl, rfl, rfl, rfl, rfl⟩ rfl rfl rfl rfl rfl (by kernel_rfl) Try.func6 (by kernel_rfl)
    (of_decide_eq_true (by kernel_rfl)) (by unfold Func.isWrapper; first | (rw [if_pos (by decide +kernel)]; kernel_rfl) | (rw [if_neg (by decide +kernel)]; exact ⟨rfl, rfl⟩))
    (fun os started H enc _ => serves_lifted os started H enc)
end Go.Proofs.Ytddopcmemiheaaa
