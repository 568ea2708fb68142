import Derived.Test.YtddopcmemiheaaaCar17
namespace Go.Proofs.Ytddopcmemiheaaa
open Go Go.Eng Go.RowKit
set_option linter.unusedVariables false

theorem buildW12 (a c : Int) (w : World) : (Instr.build 55 #[(1, .int .i64 a), (2, .int .i64 c)]).run Try.prog w = .ok (agg (Wy.mk 0 a c 0)) w := by kernel_rfl
theorem buildW13 (a c : Int) (w : World) : (Instr.build 55 #[(1, .int .i64 a), (3, .int .i64 c)]).run Try.prog w = .ok (agg (Wy.mk 0 a 0 c)) w := by kernel_rfl
theorem buildD12 (a c : Int) (w : World) : (Instr.build 48 #[(1, .int .i64 a), (2, .int .i64 c)]).run Try.prog w = .ok (agg (Dlv.mk 0 a c)) w := by kernel_rfl
example : runD 101 [] [pap0] = [⟨0, 3, 101⟩] := by decide
example : runR 101 [] [pap0] = [] := by decide
example : served [⟨0, 3, 101⟩] [pap0] 0 = (101, true) := by decide
example : served [⟨0, 5, 100⟩] [pap0] 0 = (0, false) := by decide
example : chk [pap0] [] = 0 := by decide
example : runD 200 [] [pap0] = [⟨0, 3, 101⟩] ∧ runR 200 [] [pap0] = [102].map (rptG 101) := by decide
example : chk [pap0] [⟨0,3,4,0⟩] = 0 ∧ runD 200 [⟨0,3,4,0⟩] [pap0] = [⟨0, 3, 104⟩] ∧ runR 200 [⟨0,3,4,0⟩] [pap0] = [105,106].map (rptG 104) := by decide
example : chk [pap0] [⟨0,4,0,5⟩] = 0 ∧ runD 200 [⟨0,4,0,5⟩] [pap0] = [⟨0, 5, 100⟩] ∧ runR 200 [⟨0,4,0,5⟩] [pap0] = [101].map (rptG 100) := by decide
example : chk [pap0] [⟨0,5,2,0⟩] = 0 ∧ runD 200 [⟨0,5,2,0⟩] [pap0] = [] ∧ runR 200 [⟨0,5,2,0⟩] [pap0] = [103].map (rptG 102) := by decide

theorem lives_any (w : World) : Calls Try.prog 13 #[] w (Ret fun r w' => r = .bool true ∧ Stp [] w w') := by
  refine calls_of_WC0 (n := 81) Try.func13 rfl rfl ?_
  repeat' (first | (apply WL_move; exact rfl; exact rfl) | apply WL_nil | (apply WL_assign; exact rfl; exact rfl) | (apply WL_pick_t; exact rfl; exact rfl; exact rfl) | (apply WL_pick_f; exact rfl; exact rfl; exact rfl) | (apply WL_extract; exact rfl; exact rfl; exact rfl) | (apply WL_eql; exact rfl; exact rfl; exact rfl) | (apply WL_eqlB; exact rfl; exact rfl; exact rfl) | (apply is_len; first | refine WL_lenS rfl (by assumption) rfl ?_ | refine WL_len rfl rfl ?_) | (apply WL_not_t; exact rfl; exact rfl) | (apply WL_not_f; exact rfl; exact rfl) | (apply WL_not_d; exact rfl; exact rfl) | (apply WL_not; exact rfl; exact rfl) | (apply WL_go; exact rfl) | (apply WL_pass; exact rfl; exact rfl) | apply WC_seq | apply WC_region | apply WC_ret | refine WQ_then ?_ | refine WQ_then_ret ?_)
  apply WL_build (vs := [(0, .int .i64 0), (1, .int .i64 3), (2, .int .i64 1), (3, .int .i64 100)]) rfl (buildP _ _ _ _) rfl
  repeat' (first | (apply WL_move; exact rfl; exact rfl) | apply WL_nil | (apply WL_assign; exact rfl; exact rfl) | (apply WL_pick_t; exact rfl; exact rfl; exact rfl) | (apply WL_pick_f; exact rfl; exact rfl; exact rfl) | (apply WL_extract; exact rfl; exact rfl; exact rfl) | (apply WL_eql; exact rfl; exact rfl; exact rfl) | (apply WL_eqlB; exact rfl; exact rfl; exact rfl) | (apply is_len; first | refine WL_lenS rfl (by assumption) rfl ?_ | refine WL_len rfl rfl ?_) | (apply WL_not_t; exact rfl; exact rfl) | (apply WL_not_f; exact rfl; exact rfl) | (apply WL_not_d; exact rfl; exact rfl) | (apply WL_not; exact rfl; exact rfl) | (apply WL_go; exact rfl) | (apply WL_pass; exact rfl; exact rfl) | apply WC_seq | apply WC_region | apply WC_ret | refine WQ_then ?_ | refine WQ_then_ret ?_)
  refine WL_eff (OE_buildSlice (vs := [(0, agg (Pap.mk _ _ _ _))]) rfl (buildSP _)) rfl ?_
  rintro pv w1 hN
  have hp : SlV [] w1 pv [pap0] := hN.slv (by simp) rfl rfl (by simp [maxLen])
  have hS := hN.choose_spec.2.2.2
  clear hN
  repeat' (first | (apply WL_move; exact rfl; exact rfl) | apply WL_nil | (apply WL_assign; exact rfl; exact rfl) | (apply WL_pick_t; exact rfl; exact rfl; exact rfl) | (apply WL_pick_f; exact rfl; exact rfl; exact rfl) | (apply WL_extract; exact rfl; exact rfl; exact rfl) | (apply WL_eql; exact rfl; exact rfl; exact rfl) | (apply WL_eqlB; exact rfl; exact rfl; exact rfl) | (apply is_len; first | refine WL_lenS rfl (by assumption) rfl ?_ | refine WL_len rfl rfl ?_) | (apply WL_not_t; exact rfl; exact rfl) | (apply WL_not_f; exact rfl; exact rfl) | (apply WL_not_d; exact rfl; exact rfl) | (apply WL_not; exact rfl; exact rfl) | (apply WL_go; exact rfl) | (apply WL_pass; exact rfl; exact rfl) | apply WC_seq | apply WC_region | apply WC_ret | refine WQ_then ?_ | refine WQ_then_ret ?_)
  refine WL_eff (OE_call rfl (evs3 rfl rfl rfl) (run_any [] [] [] pv _ [pap0] [] 101 _ (by simp) hp (SlV.nil _ _) ⟨by simp [Dist], by simp, by simp [pap0], by simp⟩)) rfl ?_
  rintro _ w2 ⟨a, b, rfl, ha, hb, hS2⟩
  replace hp := hp.up hS2
  replace hS := hS.trans hS2
  rw [show runD 101 [] [pap0] = [⟨0, 3, 101⟩] by decide] at ha
  rw [show runR 101 [] [pap0] = [] by decide] at hb
  repeat' (first | (apply WL_move; exact rfl; exact rfl) | apply WL_nil | (apply WL_assign; exact rfl; exact rfl) | (apply WL_pick_t; exact rfl; exact rfl; exact rfl) | (apply WL_pick_f; exact rfl; exact rfl; exact rfl) | (apply WL_extract; exact rfl; exact rfl; exact rfl) | (apply WL_eql; exact rfl; exact rfl; exact rfl) | (apply WL_eqlB; exact rfl; exact rfl; exact rfl) | (apply is_len; first | refine WL_lenS rfl (by assumption) rfl ?_ | refine WL_len rfl rfl ?_) | (apply WL_not_t; exact rfl; exact rfl) | (apply WL_not_f; exact rfl; exact rfl) | (apply WL_not_d; exact rfl; exact rfl) | (apply WL_not; exact rfl; exact rfl) | (apply WL_go; exact rfl) | (apply WL_pass; exact rfl; exact rfl) | apply WC_seq | apply WC_region | apply WC_ret | refine WQ_then ?_ | refine WQ_then_ret ?_)
  refine WL_eff (OE_call rfl (evs3 rfl rfl rfl) (served_any [] [] a pv _ _ 0 _ ha hp)) rfl ?_
  rintro _ _ ⟨rfl, hS1⟩
  replace ha := ha.up hS1; replace hb := hb.up hS1; replace hp := hp.up hS1
  replace hS := hS.trans hS1
  clear hS1
  rw [show served [⟨0, 3, 101⟩] [pap0] 0 = (101, true) by decide]
  repeat' (first | (apply WL_move; exact rfl; exact rfl) | apply WL_nil | (apply WL_assign; exact rfl; exact rfl) | (apply WL_pick_t; exact rfl; exact rfl; exact rfl) | (apply WL_pick_f; exact rfl; exact rfl; exact rfl) | (apply WL_extract; exact rfl; exact rfl; exact rfl) | (apply WL_eql; exact rfl; exact rfl; exact rfl) | (apply WL_eqlB; exact rfl; exact rfl; exact rfl) | (apply is_len; first | refine WL_lenS rfl (by assumption) rfl ?_ | refine WL_len rfl rfl ?_) | (apply WL_not_t; exact rfl; exact rfl) | (apply WL_not_f; exact rfl; exact rfl) | (apply WL_not_d; exact rfl; exact rfl) | (apply WL_not; exact rfl; exact rfl) | (apply WL_go; exact rfl) | (apply WL_pass; exact rfl; exact rfl) | apply WC_seq | apply WC_region | apply WC_ret | refine WQ_then ?_ | refine WQ_then_ret ?_)
  apply WL_build (vs := [(1, .int .i64 5), (2, .int .i64 100)]) rfl (buildD12 _ _) rfl
  repeat' (first | (apply WL_move; exact rfl; exact rfl) | apply WL_nil | (apply WL_assign; exact rfl; exact rfl) | (apply WL_pick_t; exact rfl; exact rfl; exact rfl) | (apply WL_pick_f; exact rfl; exact rfl; exact rfl) | (apply WL_extract; exact rfl; exact rfl; exact rfl) | (apply WL_eql; exact rfl; exact rfl; exact rfl) | (apply WL_eqlB; exact rfl; exact rfl; exact rfl) | (apply is_len; first | refine WL_lenS rfl (by assumption) rfl ?_ | refine WL_len rfl rfl ?_) | (apply WL_not_t; exact rfl; exact rfl) | (apply WL_not_f; exact rfl; exact rfl) | (apply WL_not_d; exact rfl; exact rfl) | (apply WL_not; exact rfl; exact rfl) | (apply WL_go; exact rfl) | (apply WL_pass; exact rfl; exact rfl) | apply WC_seq | apply WC_region | apply WC_ret | refine WQ_then ?_ | refine WQ_then_ret ?_)
  refine WL_eff (OE_buildSlice (vs := [(0, agg (Dlv.mk 0 5 100))]) rfl (buildSD _)) rfl ?_
  rintro d5 _ hN
  have hd5 := hN.slv (X := []) (ys := [Dlv.mk 0 5 100]) (by simp) rfl rfl (by simp [maxLen])
  have hS1 := hN.choose_spec.2.2.2
  clear hN
  replace ha := ha.up hS1; replace hb := hb.up hS1; replace hp := hp.up hS1
  replace hS := hS.trans hS1
  clear hS1
  repeat' (first | (apply WL_move; exact rfl; exact rfl) | apply WL_nil | (apply WL_assign; exact rfl; exact rfl) | (apply WL_pick_t; exact rfl; exact rfl; exact rfl) | (apply WL_pick_f; exact rfl; exact rfl; exact rfl) | (apply WL_extract; exact rfl; exact rfl; exact rfl) | (apply WL_eql; exact rfl; exact rfl; exact rfl) | (apply WL_eqlB; exact rfl; exact rfl; exact rfl) | (apply is_len; first | refine WL_lenS rfl (by assumption) rfl ?_ | refine WL_len rfl rfl ?_) | (apply WL_not_t; exact rfl; exact rfl) | (apply WL_not_f; exact rfl; exact rfl) | (apply WL_not_d; exact rfl; exact rfl) | (apply WL_not; exact rfl; exact rfl) | (apply WL_go; exact rfl) | (apply WL_pass; exact rfl; exact rfl) | apply WC_seq | apply WC_region | apply WC_ret | refine WQ_then ?_ | refine WQ_then_ret ?_)
  refine WL_eff (OE_call rfl (evs3 rfl rfl rfl) (served_any [] [] d5 pv _ _ 0 _ hd5 hp)) rfl ?_
  rintro _ _ ⟨rfl, hS1⟩
  replace ha := ha.up hS1; replace hb := hb.up hS1
  replace hS := hS.trans hS1
  clear hS1
  rw [show served [⟨0, 5, 100⟩] [pap0] 0 = (0, false) by decide]
  repeat' (first | (apply WL_move; exact rfl; exact rfl) | apply WL_nil | (apply WL_assign; exact rfl; exact rfl) | (apply WL_pick_t; exact rfl; exact rfl; exact rfl) | (apply WL_pick_f; exact rfl; exact rfl; exact rfl) | (apply WL_extract; exact rfl; exact rfl; exact rfl) | (apply WL_eql; exact rfl; exact rfl; exact rfl) | (apply WL_eqlB; exact rfl; exact rfl; exact rfl) | (apply is_len; first | refine WL_lenS rfl (by assumption) rfl ?_ | refine WL_len rfl rfl ?_) | (apply WL_not_t; exact rfl; exact rfl) | (apply WL_not_f; exact rfl; exact rfl) | (apply WL_not_d; exact rfl; exact rfl) | (apply WL_not; exact rfl; exact rfl) | (apply WL_go; exact rfl) | (apply WL_pass; exact rfl; exact rfl) | apply WC_seq | apply WC_region | apply WC_ret | refine WQ_then ?_ | refine WQ_then_ret ?_)
  apply WL_build (vs := [(1, .int .i64 3), (2, .int .i64 101)]) rfl (buildD12 _ _) rfl
  repeat' (first | (apply WL_move; exact rfl; exact rfl) | apply WL_nil | (apply WL_assign; exact rfl; exact rfl) | (apply WL_pick_t; exact rfl; exact rfl; exact rfl) | (apply WL_pick_f; exact rfl; exact rfl; exact rfl) | (apply WL_extract; exact rfl; exact rfl; exact rfl) | (apply WL_eql; exact rfl; exact rfl; exact rfl) | (apply WL_eqlB; exact rfl; exact rfl; exact rfl) | (apply is_len; first | refine WL_lenS rfl (by assumption) rfl ?_ | refine WL_len rfl rfl ?_) | (apply WL_not_t; exact rfl; exact rfl) | (apply WL_not_f; exact rfl; exact rfl) | (apply WL_not_d; exact rfl; exact rfl) | (apply WL_not; exact rfl; exact rfl) | (apply WL_go; exact rfl) | (apply WL_pass; exact rfl; exact rfl) | apply WC_seq | apply WC_region | apply WC_ret | refine WQ_then ?_ | refine WQ_then_ret ?_)
  refine WL_eff (OE_buildSlice (vs := [(0, agg (Dlv.mk 0 3 101))]) rfl (buildSD _)) rfl ?_
  rintro e1 _ hN
  have he1 := hN.slv (X := []) (ys := [Dlv.mk 0 3 101]) (by simp) rfl rfl (by simp [maxLen])
  have hS1 := hN.choose_spec.2.2.2
  clear hN
  replace ha := ha.up hS1; replace hb := hb.up hS1
  replace hS := hS.trans hS1
  clear hS1
  repeat' (first | (apply WL_move; exact rfl; exact rfl) | apply WL_nil | (apply WL_assign; exact rfl; exact rfl) | (apply WL_pick_t; exact rfl; exact rfl; exact rfl) | (apply WL_pick_f; exact rfl; exact rfl; exact rfl) | (apply WL_extract; exact rfl; exact rfl; exact rfl) | (apply WL_eql; exact rfl; exact rfl; exact rfl) | (apply WL_eqlB; exact rfl; exact rfl; exact rfl) | (apply is_len; first | refine WL_lenS rfl (by assumption) rfl ?_ | refine WL_len rfl rfl ?_) | (apply WL_not_t; exact rfl; exact rfl) | (apply WL_not_f; exact rfl; exact rfl) | (apply WL_not_d; exact rfl; exact rfl) | (apply WL_not; exact rfl; exact rfl) | (apply WL_go; exact rfl) | (apply WL_pass; exact rfl; exact rfl) | apply WC_seq | apply WC_region | apply WC_ret | refine WQ_then ?_ | refine WQ_then_ret ?_)
  refine WL_eff (OE_buildSlice (vs := [(0, .int .i64 102)]) rfl (buildSI1 _)) rfl ?_
  rintro n1 _ hN
  have hn1 := hN.slv (X := []) (ys := [(102 : Int)]) (by simp) rfl rfl (by simp [maxLen])
  have hS1 := hN.choose_spec.2.2.2
  clear hN
  replace ha := ha.up hS1; replace hb := hb.up hS1; replace he1 := he1.up hS1
  replace hS := hS.trans hS1
  clear hS1
  repeat' (first | (apply WL_move; exact rfl; exact rfl) | apply WL_nil | (apply WL_assign; exact rfl; exact rfl) | (apply WL_pick_t; exact rfl; exact rfl; exact rfl) | (apply WL_pick_f; exact rfl; exact rfl; exact rfl) | (apply WL_extract; exact rfl; exact rfl; exact rfl) | (apply WL_eql; exact rfl; exact rfl; exact rfl) | (apply WL_eqlB; exact rfl; exact rfl; exact rfl) | (apply is_len; first | refine WL_lenS rfl (by assumption) rfl ?_ | refine WL_len rfl rfl ?_) | (apply WL_not_t; exact rfl; exact rfl) | (apply WL_not_f; exact rfl; exact rfl) | (apply WL_not_d; exact rfl; exact rfl) | (apply WL_not; exact rfl; exact rfl) | (apply WL_go; exact rfl) | (apply WL_pass; exact rfl; exact rfl) | apply WC_seq | apply WC_region | apply WC_ret | refine WQ_then ?_ | refine WQ_then_ret ?_)
  refine WL_eff (OE_call rfl (evs4 rfl rfl rfl rfl) (gives_any [] [] [] _ _ _ [] [Dlv.mk 0 3 101] [(102 : Int)] 101 _ (SlV.nil [] _) he1 hn1 (by simp) (by decide) (by decide) (by decide))) rfl ?_
  rintro _ _ ⟨rfl, hS1⟩
  replace ha := ha.up hS1; replace hb := hb.up hS1
  replace hS := hS.trans hS1
  clear hS1
  repeat' (first | (apply WL_move; exact rfl; exact rfl) | apply WL_nil | (apply WL_assign; exact rfl; exact rfl) | (apply WL_pick_t; exact rfl; exact rfl; exact rfl) | (apply WL_pick_f; exact rfl; exact rfl; exact rfl) | (apply WL_extract; exact rfl; exact rfl; exact rfl) | (apply WL_eql; exact rfl; exact rfl; exact rfl) | (apply WL_eqlB; exact rfl; exact rfl; exact rfl) | (apply is_len; first | refine WL_lenS rfl (by assumption) rfl ?_ | refine WL_len rfl rfl ?_) | (apply WL_not_t; exact rfl; exact rfl) | (apply WL_not_f; exact rfl; exact rfl) | (apply WL_not_d; exact rfl; exact rfl) | (apply WL_not; exact rfl; exact rfl) | (apply WL_go; exact rfl) | (apply WL_pass; exact rfl; exact rfl) | apply WC_seq | apply WC_region | apply WC_ret | refine WQ_then ?_ | refine WQ_then_ret ?_)
  apply WL_build (vs := [(1, .int .i64 3), (2, .int .i64 4)]) rfl (buildW12 _ _) rfl
  repeat' (first | (apply WL_move; exact rfl; exact rfl) | apply WL_nil | (apply WL_assign; exact rfl; exact rfl) | (apply WL_pick_t; exact rfl; exact rfl; exact rfl) | (apply WL_pick_f; exact rfl; exact rfl; exact rfl) | (apply WL_extract; exact rfl; exact rfl; exact rfl) | (apply WL_eql; exact rfl; exact rfl; exact rfl) | (apply WL_eqlB; exact rfl; exact rfl; exact rfl) | (apply is_len; first | refine WL_lenS rfl (by assumption) rfl ?_ | refine WL_len rfl rfl ?_) | (apply WL_not_t; exact rfl; exact rfl) | (apply WL_not_f; exact rfl; exact rfl) | (apply WL_not_d; exact rfl; exact rfl) | (apply WL_not; exact rfl; exact rfl) | (apply WL_go; exact rfl) | (apply WL_pass; exact rfl; exact rfl) | apply WC_seq | apply WC_region | apply WC_ret | refine WQ_then ?_ | refine WQ_then_ret ?_)
  refine WL_eff (OE_buildSlice (vs := [(0, agg (Wy.mk 0 3 4 0))]) rfl (buildSW _)) rfl ?_
  rintro y2 _ hN
  have hy2 := hN.slv (X := []) (ys := [Wy.mk 0 3 4 0]) (by simp) rfl rfl (by simp [maxLen])
  have hS1 := hN.choose_spec.2.2.2
  clear hN
  replace ha := ha.up hS1; replace hb := hb.up hS1
  replace hS := hS.trans hS1
  clear hS1
  repeat' (first | (apply WL_move; exact rfl; exact rfl) | apply WL_nil | (apply WL_assign; exact rfl; exact rfl) | (apply WL_pick_t; exact rfl; exact rfl; exact rfl) | (apply WL_pick_f; exact rfl; exact rfl; exact rfl) | (apply WL_extract; exact rfl; exact rfl; exact rfl) | (apply WL_eql; exact rfl; exact rfl; exact rfl) | (apply WL_eqlB; exact rfl; exact rfl; exact rfl) | (apply is_len; first | refine WL_lenS rfl (by assumption) rfl ?_ | refine WL_len rfl rfl ?_) | (apply WL_not_t; exact rfl; exact rfl) | (apply WL_not_f; exact rfl; exact rfl) | (apply WL_not_d; exact rfl; exact rfl) | (apply WL_not; exact rfl; exact rfl) | (apply WL_go; exact rfl) | (apply WL_pass; exact rfl; exact rfl) | apply WC_seq | apply WC_region | apply WC_ret | refine WQ_then ?_ | refine WQ_then_ret ?_)
  apply WL_build (vs := [(1, .int .i64 3), (2, .int .i64 104)]) rfl (buildD12 _ _) rfl
  repeat' (first | (apply WL_move; exact rfl; exact rfl) | apply WL_nil | (apply WL_assign; exact rfl; exact rfl) | (apply WL_pick_t; exact rfl; exact rfl; exact rfl) | (apply WL_pick_f; exact rfl; exact rfl; exact rfl) | (apply WL_extract; exact rfl; exact rfl; exact rfl) | (apply WL_eql; exact rfl; exact rfl; exact rfl) | (apply WL_eqlB; exact rfl; exact rfl; exact rfl) | (apply is_len; first | refine WL_lenS rfl (by assumption) rfl ?_ | refine WL_len rfl rfl ?_) | (apply WL_not_t; exact rfl; exact rfl) | (apply WL_not_f; exact rfl; exact rfl) | (apply WL_not_d; exact rfl; exact rfl) | (apply WL_not; exact rfl; exact rfl) | (apply WL_go; exact rfl) | (apply WL_pass; exact rfl; exact rfl) | apply WC_seq | apply WC_region | apply WC_ret | refine WQ_then ?_ | refine WQ_then_ret ?_)
  refine WL_eff (OE_buildSlice (vs := [(0, agg (Dlv.mk 0 3 104))]) rfl (buildSD _)) rfl ?_
  rintro e2 _ hN
  have he2 := hN.slv (X := []) (ys := [Dlv.mk 0 3 104]) (by simp) rfl rfl (by simp [maxLen])
  have hS1 := hN.choose_spec.2.2.2
  clear hN
  replace ha := ha.up hS1; replace hb := hb.up hS1; replace hy2 := hy2.up hS1
  replace hS := hS.trans hS1
  clear hS1
  repeat' (first | (apply WL_move; exact rfl; exact rfl) | apply WL_nil | (apply WL_assign; exact rfl; exact rfl) | (apply WL_pick_t; exact rfl; exact rfl; exact rfl) | (apply WL_pick_f; exact rfl; exact rfl; exact rfl) | (apply WL_extract; exact rfl; exact rfl; exact rfl) | (apply WL_eql; exact rfl; exact rfl; exact rfl) | (apply WL_eqlB; exact rfl; exact rfl; exact rfl) | (apply is_len; first | refine WL_lenS rfl (by assumption) rfl ?_ | refine WL_len rfl rfl ?_) | (apply WL_not_t; exact rfl; exact rfl) | (apply WL_not_f; exact rfl; exact rfl) | (apply WL_not_d; exact rfl; exact rfl) | (apply WL_not; exact rfl; exact rfl) | (apply WL_go; exact rfl) | (apply WL_pass; exact rfl; exact rfl) | apply WC_seq | apply WC_region | apply WC_ret | refine WQ_then ?_ | refine WQ_then_ret ?_)
  refine WL_eff (OE_buildSlice (vs := [(0, .int .i64 105), (1, .int .i64 106)]) rfl (buildSI2 _ _)) rfl ?_
  rintro n2 _ hN
  have hn2 := hN.slv (X := []) (ys := [(105 : Int), (106 : Int)]) (by simp) rfl rfl (by simp [maxLen])
  have hS1 := hN.choose_spec.2.2.2
  clear hN
  replace ha := ha.up hS1; replace hb := hb.up hS1; replace hy2 := hy2.up hS1; replace he2 := he2.up hS1
  replace hS := hS.trans hS1
  clear hS1
  repeat' (first | (apply WL_move; exact rfl; exact rfl) | apply WL_nil | (apply WL_assign; exact rfl; exact rfl) | (apply WL_pick_t; exact rfl; exact rfl; exact rfl) | (apply WL_pick_f; exact rfl; exact rfl; exact rfl) | (apply WL_extract; exact rfl; exact rfl; exact rfl) | (apply WL_eql; exact rfl; exact rfl; exact rfl) | (apply WL_eqlB; exact rfl; exact rfl; exact rfl) | (apply is_len; first | refine WL_lenS rfl (by assumption) rfl ?_ | refine WL_len rfl rfl ?_) | (apply WL_not_t; exact rfl; exact rfl) | (apply WL_not_f; exact rfl; exact rfl) | (apply WL_not_d; exact rfl; exact rfl) | (apply WL_not; exact rfl; exact rfl) | (apply WL_go; exact rfl) | (apply WL_pass; exact rfl; exact rfl) | apply WC_seq | apply WC_region | apply WC_ret | refine WQ_then ?_ | refine WQ_then_ret ?_)
  refine WL_eff (OE_call rfl (evs4 rfl rfl rfl rfl) (gives_any [] [] [] _ _ _ [Wy.mk 0 3 4 0] [Dlv.mk 0 3 104] [(105 : Int), (106 : Int)] 104 _ hy2 he2 hn2 (by simp) (by decide) (by decide) (by decide))) rfl ?_
  rintro _ _ ⟨rfl, hS1⟩
  replace ha := ha.up hS1; replace hb := hb.up hS1
  replace hS := hS.trans hS1
  clear hS1
  repeat' (first | (apply WL_move; exact rfl; exact rfl) | apply WL_nil | (apply WL_assign; exact rfl; exact rfl) | (apply WL_pick_t; exact rfl; exact rfl; exact rfl) | (apply WL_pick_f; exact rfl; exact rfl; exact rfl) | (apply WL_extract; exact rfl; exact rfl; exact rfl) | (apply WL_eql; exact rfl; exact rfl; exact rfl) | (apply WL_eqlB; exact rfl; exact rfl; exact rfl) | (apply is_len; first | refine WL_lenS rfl (by assumption) rfl ?_ | refine WL_len rfl rfl ?_) | (apply WL_not_t; exact rfl; exact rfl) | (apply WL_not_f; exact rfl; exact rfl) | (apply WL_not_d; exact rfl; exact rfl) | (apply WL_not; exact rfl; exact rfl) | (apply WL_go; exact rfl) | (apply WL_pass; exact rfl; exact rfl) | apply WC_seq | apply WC_region | apply WC_ret | refine WQ_then ?_ | refine WQ_then_ret ?_)
  apply WL_build (vs := [(1, .int .i64 4), (3, .int .i64 5)]) rfl (buildW13 _ _) rfl
  repeat' (first | (apply WL_move; exact rfl; exact rfl) | apply WL_nil | (apply WL_assign; exact rfl; exact rfl) | (apply WL_pick_t; exact rfl; exact rfl; exact rfl) | (apply WL_pick_f; exact rfl; exact rfl; exact rfl) | (apply WL_extract; exact rfl; exact rfl; exact rfl) | (apply WL_eql; exact rfl; exact rfl; exact rfl) | (apply WL_eqlB; exact rfl; exact rfl; exact rfl) | (apply is_len; first | refine WL_lenS rfl (by assumption) rfl ?_ | refine WL_len rfl rfl ?_) | (apply WL_not_t; exact rfl; exact rfl) | (apply WL_not_f; exact rfl; exact rfl) | (apply WL_not_d; exact rfl; exact rfl) | (apply WL_not; exact rfl; exact rfl) | (apply WL_go; exact rfl) | (apply WL_pass; exact rfl; exact rfl) | apply WC_seq | apply WC_region | apply WC_ret | refine WQ_then ?_ | refine WQ_then_ret ?_)
  refine WL_eff (OE_buildSlice (vs := [(0, agg (Wy.mk 0 4 0 5))]) rfl (buildSW _)) rfl ?_
  rintro y3 _ hN
  have hy3 := hN.slv (X := []) (ys := [Wy.mk 0 4 0 5]) (by simp) rfl rfl (by simp [maxLen])
  have hS1 := hN.choose_spec.2.2.2
  clear hN
  replace ha := ha.up hS1; replace hb := hb.up hS1
  replace hS := hS.trans hS1
  clear hS1
  repeat' (first | (apply WL_move; exact rfl; exact rfl) | apply WL_nil | (apply WL_assign; exact rfl; exact rfl) | (apply WL_pick_t; exact rfl; exact rfl; exact rfl) | (apply WL_pick_f; exact rfl; exact rfl; exact rfl) | (apply WL_extract; exact rfl; exact rfl; exact rfl) | (apply WL_eql; exact rfl; exact rfl; exact rfl) | (apply WL_eqlB; exact rfl; exact rfl; exact rfl) | (apply is_len; first | refine WL_lenS rfl (by assumption) rfl ?_ | refine WL_len rfl rfl ?_) | (apply WL_not_t; exact rfl; exact rfl) | (apply WL_not_f; exact rfl; exact rfl) | (apply WL_not_d; exact rfl; exact rfl) | (apply WL_not; exact rfl; exact rfl) | (apply WL_go; exact rfl) | (apply WL_pass; exact rfl; exact rfl) | apply WC_seq | apply WC_region | apply WC_ret | refine WQ_then ?_ | refine WQ_then_ret ?_)
  apply WL_build (vs := [(1, .int .i64 5), (2, .int .i64 100)]) rfl (buildD12 _ _) rfl
  repeat' (first | (apply WL_move; exact rfl; exact rfl) | apply WL_nil | (apply WL_assign; exact rfl; exact rfl) | (apply WL_pick_t; exact rfl; exact rfl; exact rfl) | (apply WL_pick_f; exact rfl; exact rfl; exact rfl) | (apply WL_extract; exact rfl; exact rfl; exact rfl) | (apply WL_eql; exact rfl; exact rfl; exact rfl) | (apply WL_eqlB; exact rfl; exact rfl; exact rfl) | (apply is_len; first | refine WL_lenS rfl (by assumption) rfl ?_ | refine WL_len rfl rfl ?_) | (apply WL_not_t; exact rfl; exact rfl) | (apply WL_not_f; exact rfl; exact rfl) | (apply WL_not_d; exact rfl; exact rfl) | (apply WL_not; exact rfl; exact rfl) | (apply WL_go; exact rfl) | (apply WL_pass; exact rfl; exact rfl) | apply WC_seq | apply WC_region | apply WC_ret | refine WQ_then ?_ | refine WQ_then_ret ?_)
  refine WL_eff (OE_buildSlice (vs := [(0, agg (Dlv.mk 0 5 100))]) rfl (buildSD _)) rfl ?_
  rintro e3 _ hN
  have he3 := hN.slv (X := []) (ys := [Dlv.mk 0 5 100]) (by simp) rfl rfl (by simp [maxLen])
  have hS1 := hN.choose_spec.2.2.2
  clear hN
  replace ha := ha.up hS1; replace hb := hb.up hS1; replace hy3 := hy3.up hS1
  replace hS := hS.trans hS1
  clear hS1
  repeat' (first | (apply WL_move; exact rfl; exact rfl) | apply WL_nil | (apply WL_assign; exact rfl; exact rfl) | (apply WL_pick_t; exact rfl; exact rfl; exact rfl) | (apply WL_pick_f; exact rfl; exact rfl; exact rfl) | (apply WL_extract; exact rfl; exact rfl; exact rfl) | (apply WL_eql; exact rfl; exact rfl; exact rfl) | (apply WL_eqlB; exact rfl; exact rfl; exact rfl) | (apply is_len; first | refine WL_lenS rfl (by assumption) rfl ?_ | refine WL_len rfl rfl ?_) | (apply WL_not_t; exact rfl; exact rfl) | (apply WL_not_f; exact rfl; exact rfl) | (apply WL_not_d; exact rfl; exact rfl) | (apply WL_not; exact rfl; exact rfl) | (apply WL_go; exact rfl) | (apply WL_pass; exact rfl; exact rfl) | apply WC_seq | apply WC_region | apply WC_ret | refine WQ_then ?_ | refine WQ_then_ret ?_)
  refine WL_eff (OE_buildSlice (vs := [(0, .int .i64 101)]) rfl (buildSI1 _)) rfl ?_
  rintro n3 _ hN
  have hn3 := hN.slv (X := []) (ys := [(101 : Int)]) (by simp) rfl rfl (by simp [maxLen])
  have hS1 := hN.choose_spec.2.2.2
  clear hN
  replace ha := ha.up hS1; replace hb := hb.up hS1; replace hy3 := hy3.up hS1; replace he3 := he3.up hS1
  replace hS := hS.trans hS1
  clear hS1
  repeat' (first | (apply WL_move; exact rfl; exact rfl) | apply WL_nil | (apply WL_assign; exact rfl; exact rfl) | (apply WL_pick_t; exact rfl; exact rfl; exact rfl) | (apply WL_pick_f; exact rfl; exact rfl; exact rfl) | (apply WL_extract; exact rfl; exact rfl; exact rfl) | (apply WL_eql; exact rfl; exact rfl; exact rfl) | (apply WL_eqlB; exact rfl; exact rfl; exact rfl) | (apply is_len; first | refine WL_lenS rfl (by assumption) rfl ?_ | refine WL_len rfl rfl ?_) | (apply WL_not_t; exact rfl; exact rfl) | (apply WL_not_f; exact rfl; exact rfl) | (apply WL_not_d; exact rfl; exact rfl) | (apply WL_not; exact rfl; exact rfl) | (apply WL_go; exact rfl) | (apply WL_pass; exact rfl; exact rfl) | apply WC_seq | apply WC_region | apply WC_ret | refine WQ_then ?_ | refine WQ_then_ret ?_)
  refine WL_eff (OE_call rfl (evs4 rfl rfl rfl rfl) (gives_any [] [] [] _ _ _ [Wy.mk 0 4 0 5] [Dlv.mk 0 5 100] [(101 : Int)] 100 _ hy3 he3 hn3 (by simp) (by decide) (by decide) (by decide))) rfl ?_
  rintro _ _ ⟨rfl, hS1⟩
  replace ha := ha.up hS1; replace hb := hb.up hS1
  replace hS := hS.trans hS1
  clear hS1
  repeat' (first | (apply WL_move; exact rfl; exact rfl) | apply WL_nil | (apply WL_assign; exact rfl; exact rfl) | (apply WL_pick_t; exact rfl; exact rfl; exact rfl) | (apply WL_pick_f; exact rfl; exact rfl; exact rfl) | (apply WL_extract; exact rfl; exact rfl; exact rfl) | (apply WL_eql; exact rfl; exact rfl; exact rfl) | (apply WL_eqlB; exact rfl; exact rfl; exact rfl) | (apply is_len; first | refine WL_lenS rfl (by assumption) rfl ?_ | refine WL_len rfl rfl ?_) | (apply WL_not_t; exact rfl; exact rfl) | (apply WL_not_f; exact rfl; exact rfl) | (apply WL_not_d; exact rfl; exact rfl) | (apply WL_not; exact rfl; exact rfl) | (apply WL_go; exact rfl) | (apply WL_pass; exact rfl; exact rfl) | apply WC_seq | apply WC_region | apply WC_ret | refine WQ_then ?_ | refine WQ_then_ret ?_)
  apply WL_build (vs := [(1, .int .i64 5), (2, .int .i64 2)]) rfl (buildW12 _ _) rfl
  repeat' (first | (apply WL_move; exact rfl; exact rfl) | apply WL_nil | (apply WL_assign; exact rfl; exact rfl) | (apply WL_pick_t; exact rfl; exact rfl; exact rfl) | (apply WL_pick_f; exact rfl; exact rfl; exact rfl) | (apply WL_extract; exact rfl; exact rfl; exact rfl) | (apply WL_eql; exact rfl; exact rfl; exact rfl) | (apply WL_eqlB; exact rfl; exact rfl; exact rfl) | (apply is_len; first | refine WL_lenS rfl (by assumption) rfl ?_ | refine WL_len rfl rfl ?_) | (apply WL_not_t; exact rfl; exact rfl) | (apply WL_not_f; exact rfl; exact rfl) | (apply WL_not_d; exact rfl; exact rfl) | (apply WL_not; exact rfl; exact rfl) | (apply WL_go; exact rfl) | (apply WL_pass; exact rfl; exact rfl) | apply WC_seq | apply WC_region | apply WC_ret | refine WQ_then ?_ | refine WQ_then_ret ?_)
  refine WL_eff (OE_buildSlice (vs := [(0, agg (Wy.mk 0 5 2 0))]) rfl (buildSW _)) rfl ?_
  rintro y4 _ hN
  have hy4 := hN.slv (X := []) (ys := [Wy.mk 0 5 2 0]) (by simp) rfl rfl (by simp [maxLen])
  have hS1 := hN.choose_spec.2.2.2
  clear hN
  replace ha := ha.up hS1; replace hb := hb.up hS1
  replace hS := hS.trans hS1
  clear hS1
  repeat' (first | (apply WL_move; exact rfl; exact rfl) | apply WL_nil | (apply WL_assign; exact rfl; exact rfl) | (apply WL_pick_t; exact rfl; exact rfl; exact rfl) | (apply WL_pick_f; exact rfl; exact rfl; exact rfl) | (apply WL_extract; exact rfl; exact rfl; exact rfl) | (apply WL_eql; exact rfl; exact rfl; exact rfl) | (apply WL_eqlB; exact rfl; exact rfl; exact rfl) | (apply is_len; first | refine WL_lenS rfl (by assumption) rfl ?_ | refine WL_len rfl rfl ?_) | (apply WL_not_t; exact rfl; exact rfl) | (apply WL_not_f; exact rfl; exact rfl) | (apply WL_not_d; exact rfl; exact rfl) | (apply WL_not; exact rfl; exact rfl) | (apply WL_go; exact rfl) | (apply WL_pass; exact rfl; exact rfl) | apply WC_seq | apply WC_region | apply WC_ret | refine WQ_then ?_ | refine WQ_then_ret ?_)
  refine WL_eff (OE_buildSlice (vs := [(0, .int .i64 103)]) rfl (buildSI1 _)) rfl ?_
  rintro n4 _ hN
  have hn4 := hN.slv (X := []) (ys := [(103 : Int)]) (by simp) rfl rfl (by simp [maxLen])
  have hS1 := hN.choose_spec.2.2.2
  clear hN
  replace ha := ha.up hS1; replace hb := hb.up hS1; replace hy4 := hy4.up hS1
  replace hS := hS.trans hS1
  clear hS1
  repeat' (first | (apply WL_move; exact rfl; exact rfl) | apply WL_nil | (apply WL_assign; exact rfl; exact rfl) | (apply WL_pick_t; exact rfl; exact rfl; exact rfl) | (apply WL_pick_f; exact rfl; exact rfl; exact rfl) | (apply WL_extract; exact rfl; exact rfl; exact rfl) | (apply WL_eql; exact rfl; exact rfl; exact rfl) | (apply WL_eqlB; exact rfl; exact rfl; exact rfl) | (apply is_len; first | refine WL_lenS rfl (by assumption) rfl ?_ | refine WL_len rfl rfl ?_) | (apply WL_not_t; exact rfl; exact rfl) | (apply WL_not_f; exact rfl; exact rfl) | (apply WL_not_d; exact rfl; exact rfl) | (apply WL_not; exact rfl; exact rfl) | (apply WL_go; exact rfl) | (apply WL_pass; exact rfl; exact rfl) | apply WC_seq | apply WC_region | apply WC_ret | refine WQ_then ?_ | refine WQ_then_ret ?_)
  refine WL_eff (OE_call rfl (evs4 rfl rfl rfl rfl) (gives_any [] [] [] _ _ _ [Wy.mk 0 5 2 0] [] [(103 : Int)] 102 _ hy4 (SlV.nil [] _) hn4 (by simp) (by decide) (by decide) (by decide))) rfl ?_
  rintro _ _ ⟨rfl, hS1⟩
  replace ha := ha.up hS1; replace hb := hb.up hS1
  replace hS := hS.trans hS1
  clear hS1
  repeat' (first | (apply WL_move; exact rfl; exact rfl) | apply WL_nil | (apply WL_assign; exact rfl; exact rfl) | (apply WL_pick_t; exact rfl; exact rfl; exact rfl) | (apply WL_pick_f; exact rfl; exact rfl; exact rfl) | (apply WL_extract; exact rfl; exact rfl; exact rfl) | (apply WL_eql; exact rfl; exact rfl; exact rfl) | (apply WL_eqlB; exact rfl; exact rfl; exact rfl) | (apply is_len; first | refine WL_lenS rfl (by assumption) rfl ?_ | refine WL_len rfl rfl ?_) | (apply WL_not_t; exact rfl; exact rfl) | (apply WL_not_f; exact rfl; exact rfl) | (apply WL_not_d; exact rfl; exact rfl) | (apply WL_not; exact rfl; exact rfl) | (apply WL_go; exact rfl) | (apply WL_pass; exact rfl; exact rfl) | apply WC_seq | apply WC_region | apply WC_ret | refine WQ_then ?_ | refine WQ_then_ret ?_)
  first | refine WQ_ret1 rfl rfl ?_ | refine WQ_ret2 rfl rfl rfl ?_ | refine WQ_ret3 rfl rfl rfl rfl ?_ | refine WQ_ret0 rfl ?_ | refine WQ_end0 rfl ?_
  exact .mk ⟨rfl, hS⟩
end Go.Proofs.Ytddopcmemiheaaa
