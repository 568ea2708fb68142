
/-
VmDays: for all cases made from numbers, a calendar with the same open days in the spans has the same result and spans. Condition: the listed variables read as the program's text lays them (the card ties them).
-/
import Derived.Test.YtjdjdoefppebkaaGreatDoorM7
import Derived.Deep.DeepLaidRun
namespace Go.Proofs.YtjdjdoefppebkaaGreatDoor
open Go Go.Eng Go.RowKit Go.Proofs Go.ChangeShapes Go.WideShapes Go.Deep
set_option linter.unusedVariables false
section
variable {H : Type} {enc : TypeId × Value → H} {w : World} {base : Nat} {spare : Nat → Bool} {held : Bool}
theorem okWide_array {P : Program} {t e : TypeId} {n b0 : Nat} {r : Reach} {v : Value} (ht : P.underlying t = some (.array n e)) (h : Value.okWide P w r b0 t v) : ∃ cs, v = .agg cs ∧ cs.size = P.cellsOf t := by
  simp only [Value.okWide, ht] at h
  obtain ⟨cs, h1, h2, _⟩ := h
  exact ⟨cs, h1, h2⟩
theorem arr_read {P : Program} {t e : TypeId} {n b0 : Nat} {r : Reach} {v : Value} {d : DataW H} {p : List MemPlace} (ht : P.underlying t = some (.array n e)) (he : P.underlying e = some (.int .i64)) (hce : P.cellsOf e = 1) (hct : P.cellsOf t = n) (hv : Value.okWide P w r b0 t v) (h : DataW.Trod enc P w base spare held t v d p) :
    ∃ zs : List Int, zs.length = n ∧ v = .agg (zs.map fun z => Value.int .i64 z).toArray ∧ ∀ z ∈ zs, I64 z := by
  obtain ⟨cs, rfl, hsz⟩ := okWide_array ht hv
  obtain ⟨fuel, h⟩ := h
  obtain ⟨xs, m, rfl, hx, hlen, hxl, hel⟩ := DataW.trod_array ht h
  have hcs : (Value.agg cs).cells.toList = cs.toList := rfl
  rw [hcs] at hel hlen
  rw [hct] at hsz
  have hall : ∀ i : Fin n, ∃ z : Int, cs.toList[i.val]? = some (.int .i64 z) ∧ I64 z := by
    intro i
    have h1 := hel i.val i.2
    rw [hce, Nat.mul_one] at h1
    have hi : i.val < xs.length := by rw [hxl]; exact i.2
    rw [List.getElem?_eq_getElem hi] at h1
    obtain ⟨z, e1, _, hz⟩ := DataW.trod_int he h1
    refine ⟨z, ?_, by simpa [I64, Lit.wf, IntKind.min, IntKind.max, IntKind.signed, IntKind.bits] using hz⟩
    have h2 := congrArg (fun l => l[0]?) e1
    simpa [List.getElem?_take, List.getElem?_drop] using h2
  obtain ⟨f, hf⟩ := Classical.axiomOfChoice hall
  refine ⟨List.ofFn f, by simp, ?_, ?_⟩
  · have : cs.toList = (List.ofFn f).map fun z => Value.int .i64 z := by
      apply List.ext_getElem?
      intro i
      by_cases hi : i < n
      · have := (hf ⟨i, hi⟩).1
        rw [this]
        simp [hi]
      · rw [List.getElem?_eq_none (by simpa [hsz] using hi), List.getElem?_eq_none (by simpa using hi)]
    rw [← this]
  · intro z hz
    obtain ⟨i, rfl⟩ := (List.mem_ofFn).1 hz
    exact (hf i).2
end
theorem vmDays_spec : Zfa Rows.vmDaysSpec 2 := ⟨rfl, fun H ds hl => by
  match ds, hl with
  | [d0, d1], _ => exact ⟨rfl, rfl, rfl⟩⟩
theorem vmDays_met (os : Os) (args : Array Value) : laidMetH Tryz.prog Rows.vmDaysRow.laid ((World.doorLaid Tryz.prog 300 os).forCall (fun _ _ => 0) ⟨#[], args, []⟩).memory :=
  laidMetH_of_parts3 (fuel := 8) (laidMet_of_run3 8 (by kernel_rfl) (by kernel_rfl) (by kernel_rfl)) (by kernel_rfl) (by kernel_rfl)
set_option maxRecDepth 100000 in
theorem vmDays_lifted (os : Os) (started : os.Started) (H : Type) (enc : TypeId × Value → H) :
    ReturnsInHanded {} Tryz.checked os 8 .any (fun w args => (Rows.vmDaysSpec.pre enc Tryz.prog Tryz.f8 [] false w args ∧ laidMetH Tryz.prog Rows.vmDaysRow.laid w) ∧ sizedMet enc Tryz.prog Tryz.f8 (OpenSpec.ofChange Rows.vmDaysSpec) false w args) (Rows.vmDaysSpec.post enc Tryz.prog Tryz.f8 false true false false) := by
  refine Zd3 (C := Tryz.checked) (X := fun w _ => laidMetH Tryz.prog Rows.vmDaysRow.laid w) (fun _ _ _ hh h => h.of_heap hh) Znt started (by kernel_rfl) Tryz.func8
    (ChangeSpec.witness_shaped (enc := enc) (C := Tryz.checked) (os := os) (X := fun w _ => laidMetH Tryz.prog Rows.vmDaysRow.laid w) false (World.doorLaid Tryz.prog 300 os) #[.agg #[.slice none 0 0, .slice none 0 0, .slice none 0 0, .int .i64 0, .int .i64 0], .agg #[.int .i64 0, .int .i64 0, .int .i64 0, .int .i64 0]] 8 rfl (World.shaped_of_RefB (by kernel_rfl) (by kernel_rfl)) (by kernel_rfl) (by kernel_rfl) (by kernel_rfl) (vmDays_met os _)) ?_
  intro W base args ds gs before hval0 hW hsz0 hL hsh
  have hval : ∀ (j : Nat) t v, Tryz.f8.params[j]? = some t → args[j]? = some v → Value.okWide Tryz.prog W .any base t v := hval0
  refine Zk2 ZlV (by kernel_rfl) (tb := 4) rfl Tryz.underlying4 vmDays_spec hW ?_
  obtain ⟨p, q, hA0, hV, _⟩ := hW
  obtain ⟨rfl, rfl⟩ := trodVars_none hV
  have hA : DataW.TrodAll enc Tryz.prog W 0 (fun _ => true) true Tryz.f8.params.toList args.toList ds p := hA0
  have hF : SlV [] W Z2l Z8 := (ZjX hL).2
  rw [Tryz.params8] at hA hval
  obtain ⟨v0, v1, d0, d1, p0, p1, rfl, rfl, rfl, h0, h1⟩ := trodAll_two hA
  obtain ⟨a0, a1, a2, kd, kz, l0, l1, l2, rfl, hs0, hs1, hs2, hl0, hl1, hl2, hkd, hkz⟩ := ZjY (hval 0 _ v0 rfl rfl) h0
  obtain ⟨m, hm⟩ := Tryz.laysM144.s1_3 W hsh
  obtain ⟨⟨hLn, hMv, er, h4_, hev⟩, -⟩ := ZjX hL
  obtain ⟨zs, hzl, rfl, hz⟩ := arr_read Tryz.underlying79 Tryz.underlying3 (by kernel_rfl) (by kernel_rfl) (hval 1 _ v1 rfl rfl) h1
  exact ZjZ a0 a1 a2 l0 l1 l2 kd kz er m zs W hs0 hs1 hs2 hl0 hl1 hl2 hkd hkz hF hLn hMv hm h4_ hev hzl hz
theorem vmDays_j1 : Rows.vmDaysRow.wf (OpenSpec.ofChange Rows.vmDaysSpec) = true := by kernel_rfl
theorem vmDays_j2 : (Rows.vmDaysRow.inPlace == Tryz.prog.inPlace 8) = true := by kernel_rfl
theorem vmDays_j3 : (Rows.vmDaysRow.unfollowed == Tryz.prog.unfollowed 8) = true := by kernel_rfl
theorem vmDays_j4 : (Rows.vmDaysRow.recurses == Tryz.prog.recurses 8) = true := by kernel_rfl
theorem vmDays_j5 : (Rows.vmDaysRow.named == Tryz.prog.varsNamed 8) = true := by kernel_rfl
theorem vmDays_joined : joinedFacts Tryz.prog 8 Tryz.f8 Rows.vmDaysSpec Rows.vmDaysRow = true :=
  Zgh vmDays_j1 ZlV Zn1 (by kernel_rfl) (by kernel_rfl) (by kernel_rfl) vmDays_j2 vmDays_j3 vmDays_j4 vmDays_j5 (by kernel_rfl)
theorem vmDays_holds : Rows.VmDaysSaid :=
  OpenClaim.holds_of_wide 8 Tryz.f8 rfl rfl rfl rfl rfl rfl rfl ⟨rfl, rfl, rfl, rfl, rfl⟩ rfl rfl rfl rfl rfl (by kernel_rfl) Tryz.func8 vmDays_joined
    (of_decide_eq_true (by kernel_rfl)) (by unfold Func.isWrapper; first | (rw [if_pos (by decide +kernel)]; kernel_rfl) | (rw [if_neg (by decide +kernel)]; exact ⟨rfl, rfl⟩))
    (fun os started H enc _ => vmDays_lifted os started H enc)
theorem vmDays_card_holds : Rows.VmDaysCardSaid :=
  Claim7.holds_tied_plain_at .later [] [.data, .data, .data, .sentinel, .sentinel, .data, .data, .widerDeep] true Rows.vmDaysCard.stood.harness true
    vmDays_holds (fun _ h => by cases h) (by kernel_rfl) (fun _ h => by cases h) vmDays_row_tie rfl ⟨rfl, rfl⟩ (by kernel_rfl) rfl
    (fun f fn hf hfn => by
      obtain rfl : f = 8 := Option.some.inj ((show Tryz.prog.funcNamed Rows.vmDaysRow.func = some 8 by kernel_rfl).symm.trans hf) |>.symm
      obtain rfl : fn = Tryz.f8 := (Option.some.inj (Tryz.func8.symm.trans hfn)).symm
      exact ⟨by kernel_rfl, fun j t ht => by
        rw [Tryz.params8] at ht
        have hm : t ∈ Tryz.f8.params.toList := by rw [Tryz.params8]; simpa using Array.mem_of_getElem? ht
        have hall : (Tryz.f8.params.toList.all fun u => !Tryz.prog.wantsStandIn u) = true := by kernel_rfl
        exact (show Tryz.prog.wantsStandIn t = false by simpa using List.all_eq_true.1 hall t hm)⟩)
    (Znu Zn2 rfl)
end Go.Proofs.YtjdjdoefppebkaaGreatDoor
