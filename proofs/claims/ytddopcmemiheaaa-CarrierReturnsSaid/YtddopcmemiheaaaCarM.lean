/-
CarrierReturns: for all papers and ways made from numbers, a report arrives one or two days behind the day that it names, an attempt has at most two equal returns and one delivery, on the day that the return names, and the party is truly served exactly as its way says. No condition.
-/
import Derived.Test.YtddopcmemiheaaaCarK
namespace Go.Proofs.Ytddopcmemiheaaa
open Go Go.Eng Go.RowKit Go.Proofs Go.ChangeShapes Go.WideShapes
set_option linter.unusedVariables false
theorem carrierReturns_spec : LawSpec Rows.carrierReturnsSpec 1 := ⟨rfl, fun H ds hl => by
  match ds, hl with
  | [d0], _ => exact ⟨rfl, rfl, rfl⟩⟩
set_option maxRecDepth 100000 in
theorem carrierReturns_lifted (os : Os) (started : os.Started) (H : Type) (enc : TypeId × Value → H) :
    ReturnsInHanded {} Try.checked os 9 .any (Rows.carrierReturnsSpec.pre6 enc Try.prog Try.f9 Rows.carrierReturnsRow.domain false) (Rows.carrierReturnsSpec.post enc Try.prog Try.f9 false true false false) := by
  refine returnsInHanded_of_change (C := Try.checked) law_own started (by kernel_rfl) Try.func9
    (ChangeSpec.witness6 (enc := enc) (C := Try.checked) false ⟨#[], #[.agg #[.slice none 0 0, .slice none 0 0, .int .i64 0]], []⟩ 8 (by kernel_rfl) (by kernel_rfl) (by kernel_rfl) (by kernel_rfl)) ?_
  intro W base args ds gs before hval0 hW _ _
  have hval : ∀ (j : Nat) t v, Try.f9.params[j]? = some t → args[j]? = some v → Value.okWide Try.prog W .any base t v := hval0
  refine law_post law_laid (by kernel_rfl) (tb := 4) rfl Try.underlying4 carrierReturns_spec hW ?_
  obtain ⟨p, q, hA0, hV, _⟩ := hW
  obtain ⟨rfl, rfl⟩ := trodVars_none hV
  have hA : DataW.TrodAll enc Try.prog W 0 (fun _ => true) true Try.f9.params.toList args.toList ds p := hA0
  rw [Try.params9] at hA hval
  obtain ⟨v0, d0, rfl, rfl, h0⟩ := trodAll_one hA
  obtain ⟨va, vb, a, b, n, rfl, ha, hb, hia, hib, hn⟩ := case_read (hval 0 _ v0 rfl rfl) h0
  exact returnsLaw [] [] va vb a b n W ha hb hia hib hn
theorem carrierReturns_holds : Rows.CarrierReturnsSaid :=
  OpenClaim.holds_of_wide 9 Try.f9 rfl rfl rfl rfl rfl rfl rfl ⟨rfl, rfl, rfl, rfl, rfl⟩ rfl rfl rfl rfl rfl (by kernel_rfl) Try.func9 (by kernel_rfl)
    (of_decide_eq_true (by kernel_rfl)) (by unfold Func.isWrapper; first | (rw [if_pos (by decide +kernel)]; kernel_rfl) | (rw [if_neg (by decide +kernel)]; exact ⟨rfl, rfl⟩))
    (fun os started H enc _ => carrierReturns_lifted os started H enc)
end Go.Proofs.Ytddopcmemiheaaa
