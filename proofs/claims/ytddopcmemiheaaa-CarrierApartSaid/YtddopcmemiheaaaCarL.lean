/-
CarrierApart: for all papers and ways made from numbers, the order of the papers does not matter, and the deliveries and reports of each attempt are those of Run for its paper and way alone. No condition.
-/
import Derived.Test.YtddopcmemiheaaaCarJ
namespace Go.Proofs.Ytddopcmemiheaaa
open Go Go.Eng Go.RowKit Go.Proofs Go.ChangeShapes Go.WideShapes
set_option linter.unusedVariables false
theorem carrierApart_spec : LawSpec Rows.carrierApartSpec 2 := ⟨rfl, fun H ds hl => by
  match ds, hl with
  | [d0, d1], _ => exact ⟨rfl, rfl, rfl⟩⟩
set_option maxRecDepth 100000 in
theorem carrierApart_lifted (os : Os) (started : os.Started) (H : Type) (enc : TypeId × Value → H) :
    ReturnsInHanded {} Try.checked os 8 .any (Rows.carrierApartSpec.pre6 enc Try.prog Try.f8 Rows.carrierApartRow.domain false) (Rows.carrierApartSpec.post enc Try.prog Try.f8 false true false false) := by
  refine returnsInHanded_of_change (C := Try.checked) law_own started (by kernel_rfl) Try.func8
    (ChangeSpec.witness6 (enc := enc) (C := Try.checked) false ⟨#[], #[.agg #[.slice none 0 0, .slice none 0 0, .int .i64 0], .int .i64 0], []⟩ 8 (by kernel_rfl) (by kernel_rfl) (by kernel_rfl) (by kernel_rfl)) ?_
  intro W base args ds gs before hval0 hW _ _
  have hval : ∀ (j : Nat) t v, Try.f8.params[j]? = some t → args[j]? = some v → Value.okWide Try.prog W .any base t v := hval0
  refine law_post law_laid (by kernel_rfl) (tb := 4) rfl Try.underlying4 carrierApart_spec hW ?_
  obtain ⟨p, q, hA0, hV, _⟩ := hW
  obtain ⟨rfl, rfl⟩ := trodVars_none hV
  have hA : DataW.TrodAll enc Try.prog W 0 (fun _ => true) true Try.f8.params.toList args.toList ds p := hA0
  rw [Try.params8] at hA hval
  obtain ⟨v0, v1, d0, d1, p0, p1, rfl, rfl, rfl, h0, h1⟩ := trodAll_two hA
  obtain ⟨va, vb, a, b, n, rfl, ha, hb, hia, hib, hn⟩ := case_read (hval 0 _ v0 rfl rfl) h0
  obtain ⟨z, rfl, hz⟩ := open_i64 (hval 1 _ v1 rfl rfl) h1
  exact apartLaw [] [] va vb a b n z W ha hb hia hib hn hz
theorem carrierApart_holds : Rows.CarrierApartSaid :=
  OpenClaim.holds_of_wide 8 Try.f8 rfl rfl rfl rfl rfl rfl rfl ⟨rfl, rfl, rfl, rfl, rfl⟩ rfl rfl rfl rfl rfl (by kernel_rfl) Try.func8 (by kernel_rfl)
    (of_decide_eq_true (by kernel_rfl)) (by unfold Func.isWrapper; first | (rw [if_pos (by decide +kernel)]; kernel_rfl) | (rw [if_neg (by decide +kernel)]; exact ⟨rfl, rfl⟩))
    (fun os started H enc _ => carrierApart_lifted os started H enc)
end Go.Proofs.Ytddopcmemiheaaa
