/-
Merged by program out of own texts: Rdr3, Dec2, Rdr4, Rdr5, Rdr6, Rdr7, Par1, Dcr1, Eng22, Par2, Dcp1, Elw1, Arg19.
-/
import Derived.Test.YtgpibcgebpgmiaaDoorM4
import Derived.RangeFuncBox
import Derived.RangeFuncNested
import Derived.RangeFuncCalls
import Derived.OrdersIn
import Derived.Test.YtgpibcgebpgmiaaDoorChu1

namespace Go.Proofs.YtgpibcgebpgmiaaDoor
open Go Go.Eng Go.RowKit
set_option linter.unusedVariables false
theorem Rd.ext {X X' S : List Nat} {w w' : World} {b : Nat} {s : Rs} (h : Rd X w b s) (hS : Stp S w w') (h1 : ∀ c ∈ S, c ∈ X) (hb : b ∉ S) (h2 : ∀ c ∈ X', c ∈ X ∨ w.heap.size ≤ c) : Rd X' w' b s := by
  obtain ⟨v, h3, h4⟩ := h
  exact ⟨v, h3.ext hS hb, h4.ext hS (fun c hc => List.mem_cons_of_mem _ (h1 c hc)) (fun c hc => by
    rcases List.mem_cons.1 hc with rfl | hc
    · exact .inl (by simp)
    · exact (h2 c hc).imp (fun h => List.mem_cons_of_mem _ h) id)⟩
theorem Rd.sub {X X' : List Nat} {w : World} {b : Nat} {s : Rs} (h : Rd X w b s) (h2 : ∀ c ∈ X', c ∈ X) : Rd X' w b s :=
  h.ext (Stp.refl [] w) (by simp) (by simp) (fun c hc => .inl (h2 c hc))
theorem _root_.Go.Eng.Row.anyX' {β : Type} [Flat β] {X X' : List Nat} {w : World} {base T : Nat} {v : Value} {xs : List β} (h : Row X w base T v xs) : Row X' w base T v xs := by
  obtain ⟨css, hl, hr, ho⟩ := h
  exact ⟨css, hl, fun i h1 h2 => hr i h1 h2, ho⟩
theorem Rlen_any (X : List Nat) (b most : Nat) (s : Rs) (w : World) (hm : most ≤ 1000000) (hr : Rd X w b s) :
    Calls Tryd.prog 82 #[.pointer (some ⟨b, 0, none⟩), .int .i64 (most : Int)] w (Ret fun r w' => r = .int .i64 ((lengthS most s).2 : Int) ∧ Rd X w' b (lengthS most s).1 ∧ Stp [b] w w') := by
  refine calls_of_WC2 (n := 36) Tryd.func82 rfl rfl rfl ?_
  refine W ?_
  refine WL_eff (OE_call rfl (evs1 rfl) (RUint_any X b s w hr)) rfl ?_
  rintro _ w1 ⟨rfl, hr1, hT⟩
  have hlt := uintS_lt s
  have hdef : lengthS most s = (if (uintS s).1.e = 0 then (if most < (uintS s).2 then (⟨(uintS s).1.bs, 2⟩, 0) else ((uintS s).1, (uintS s).2)) else ((uintS s).1, 0)) := rfl
  rw [hdef]
  clear hdef hr
  generalize (uintS s).2 = u at *
  generalize (uintS s).1 = s1 at *
  obtain ⟨v, hblk, hs⟩ := id hr1
  by_cases he : s1.e = 0
  · rw [if_pos he]
    by_cases hmu : most < u
    · rw [if_pos hmu]
      repeat' (first | refine W1 ?_ | (exfalso; omega) | refine WL_split rfl rfl (fun hg => ?_) (fun hg => ?_) | refine WL_splitB rfl rfl (fun hg => ?_) (fun hg => ?_) | refine WC_cond rfl (fun hc => ?_) (fun hc => ?_) | refine WC_condB rfl (fun hc => ?_) (fun hc => ?_))
      refine WL_pure (PR_convTo (b := ((most : Nat) : Int)) rfl (wrap_u64_of (by omega) (by omega))) rfl ?_
      repeat' (first | refine W1 ?_ | (exfalso; omega) | refine WL_split rfl rfl (fun hg => ?_) (fun hg => ?_) | refine WL_splitB rfl rfl (fun hg => ?_) (fun hg => ?_) | refine WC_cond rfl (fun hc => ?_) (fun hc => ?_) | refine WC_condB rfl (fun hc => ?_) (fun hc => ?_))
      refine WL_eff (OE_call rfl (evs2 rfl rfl) (Fail_any b 2 v s1.e _ hblk)) rfl ?_
      rintro _ w2 ⟨rfl, hb2, hT2⟩
      rw [if_pos he] at hb2
      repeat' (first | refine W1 ?_ | (exfalso; omega) | refine WL_split rfl rfl (fun hg => ?_) (fun hg => ?_) | refine WL_splitB rfl rfl (fun hg => ?_) (fun hg => ?_) | refine WC_cond rfl (fun hc => ?_) (fun hc => ?_) | refine WC_condB rfl (fun hc => ?_) (fun hc => ?_))
      first | refine WQ_ret1 rfl rfl ?_ | refine WQ_ret2 rfl rfl rfl ?_ | refine WQ_ret3 rfl rfl rfl rfl ?_ | refine WQ_ret0 rfl ?_ | refine WQ_end0 rfl ?_
      exact .mk ⟨rfl, ⟨v, hb2, hs.ext hT2 (fun c hc => by simp at hc; simp [hc]) (fun c hc => .inl hc)⟩, hT.trans hT2⟩
    · rw [if_neg hmu]
      repeat' (first | refine W1 ?_ | (exfalso; omega) | refine WL_split rfl rfl (fun hg => ?_) (fun hg => ?_) | refine WL_splitB rfl rfl (fun hg => ?_) (fun hg => ?_) | refine WC_cond rfl (fun hc => ?_) (fun hc => ?_) | refine WC_condB rfl (fun hc => ?_) (fun hc => ?_))
      refine WL_pure (PR_convTo (b := ((most : Nat) : Int)) rfl (wrap_u64_of (by omega) (by omega))) rfl ?_
      repeat' (first | refine W1 ?_ | (exfalso; omega) | refine WL_split rfl rfl (fun hg => ?_) (fun hg => ?_) | refine WL_splitB rfl rfl (fun hg => ?_) (fun hg => ?_) | refine WC_cond rfl (fun hc => ?_) (fun hc => ?_) | refine WC_condB rfl (fun hc => ?_) (fun hc => ?_))
      refine WL_pure (PR_convTo (b := ((u : Nat) : Int)) rfl (wrap_i64_of (by unfold I64; omega))) rfl ?_
      refine W ?_
      first | refine WQ_ret1 rfl rfl ?_ | refine WQ_ret2 rfl rfl rfl ?_ | refine WQ_ret3 rfl rfl rfl rfl ?_ | refine WQ_ret0 rfl ?_ | refine WQ_end0 rfl ?_
      exact .mk ⟨rfl, hr1, hT⟩
  · rw [if_neg he]
    repeat' (first | refine W1 ?_ | (exfalso; omega) | refine WL_split rfl rfl (fun hg => ?_) (fun hg => ?_) | refine WL_splitB rfl rfl (fun hg => ?_) (fun hg => ?_) | refine WC_cond rfl (fun hc => ?_) (fun hc => ?_) | refine WC_condB rfl (fun hc => ?_) (fun hc => ?_))
    first | refine WQ_ret1 rfl rfl ?_ | refine WQ_ret2 rfl rfl rfl ?_ | refine WQ_ret3 rfl rfl rfl rfl ?_ | refine WQ_ret0 rfl ?_ | refine WQ_end0 rfl ?_
    exact .mk ⟨rfl, hr1, hT⟩
theorem RText_any (X : List Nat) (b most : Nat) (s : Rs) (w : World) (hm : most ≤ 1000000) (hr : Rd X w b s) :
    Calls Tryd.prog 43 #[.pointer (some ⟨b, 0, none⟩), .int .i64 (most : Int)] w (Ret fun r w' => r = str (textS most s).2 ∧ Rd X w' b (textS most s).1 ∧ Stp [b] w w') := by
  refine calls_of_WC2 (n := 56) Tryd.func43 rfl rfl rfl ?_
  refine W ?_
  refine WL_eff (OE_call rfl (evs2 rfl rfl) (Rlen_any X b most s w hm hr)) rfl ?_
  rintro _ w1 ⟨rfl, hr1, hT⟩
  have hdef : textS most s = (if (lengthS most s).1.e = 0 then (if (lengthS most s).1.bs.length < (lengthS most s).2 then (⟨(lengthS most s).1.bs, 6⟩, [])
    else (⟨(lengthS most s).1.bs.drop (lengthS most s).2, 0⟩, (lengthS most s).1.bs.take (lengthS most s).2)) else ((lengthS most s).1, [])) := rfl
  rw [hdef]
  clear hdef hr
  generalize (lengthS most s).2 = u at *
  generalize (lengthS most s).1 = s1 at *
  obtain ⟨v, hblk, hs⟩ := id hr1
  have hmax := hs.max
  by_cases he : s1.e = 0
  · rw [if_pos he]
    by_cases hmu : s1.bs.length < u
    · rw [if_pos hmu]
      repeat' (first | refine W1 ?_ | (exfalso; omega) | refine WL_split rfl rfl (fun hg => ?_) (fun hg => ?_) | refine WL_splitB rfl rfl (fun hg => ?_) (fun hg => ?_) | refine WC_cond rfl (fun hc => ?_) (fun hc => ?_) | refine WC_condB rfl (fun hc => ?_) (fun hc => ?_))
      refine WL_eff (OE_call rfl (evs2 rfl rfl) (Fail_any b 6 v s1.e _ hblk)) rfl ?_
      rintro _ w2 ⟨rfl, hb2, hT2⟩
      rw [if_pos he] at hb2
      repeat' (first | refine W1 ?_ | (exfalso; omega) | refine WL_split rfl rfl (fun hg => ?_) (fun hg => ?_) | refine WL_splitB rfl rfl (fun hg => ?_) (fun hg => ?_) | refine WC_cond rfl (fun hc => ?_) (fun hc => ?_) | refine WC_condB rfl (fun hc => ?_) (fun hc => ?_))
      first | refine WQ_ret1 rfl rfl ?_ | refine WQ_ret2 rfl rfl rfl ?_ | refine WQ_ret3 rfl rfl rfl rfl ?_ | refine WQ_ret0 rfl ?_ | refine WQ_end0 rfl ?_
      exact .mk ⟨rfl, ⟨v, hb2, hs.ext hT2 (fun c hc => by simp at hc; simp [hc]) (fun c hc => .inl hc)⟩, hT.trans hT2⟩
    · rw [if_neg hmu]
      have hs1 := hs.slc (l := 0) (r := u) (by omega) (by omega)
      rw [List.drop_zero] at hs1
      replace hs1 : SlV (b :: X) w1 (slc v 0 u 1) (s1.bs.take u) := hs1
      have hs2 := hs.slc (l := u) (r := s1.bs.length) (by omega) (Nat.le_refl _)
      rw [List.take_length] at hs2
      replace hs2 : SlV (b :: X) w1 (slc v u s1.bs.length 1) (s1.bs.drop u) := hs2
      repeat' (first | refine W1 ?_ | (exfalso; omega) | refine WL_split rfl rfl (fun hg => ?_) (fun hg => ?_) | refine WL_splitB rfl rfl (fun hg => ?_) (fun hg => ?_) | refine WC_cond rfl (fun hc => ?_) (fun hc => ?_) | refine WC_condB rfl (fun hc => ?_) (fun hc => ?_))
      refine WL_slice_h (r := u) rfl hs rfl rfl (by omega) rfl ?_
      refine WL_pure (PR_convB rfl hs1) rfl ?_
      refine W ?_
      refine WL_slice_l (l := u) rfl hs rfl rfl (by omega) rfl ?_
      refine W ?_
      refine WL_eff0 (OE_store1 (u := slc v u s1.bs.length 1) rfl rfl hs2.cells hs2.one hblk (by simp)) ?_
      rintro _ w3 ⟨hT3, hb3⟩
      refine W ?_
      first | refine WQ_ret1 rfl rfl ?_ | refine WQ_ret2 rfl rfl rfl ?_ | refine WQ_ret3 rfl rfl rfl rfl ?_ | refine WQ_ret0 rfl ?_ | refine WQ_end0 rfl ?_
      rw [he] at hb3
      exact .mk ⟨rfl, ⟨_, hb3, hs2.ext hT3 (fun c hc => by simp at hc; simp [hc]) (fun c hc => .inl hc)⟩, hT.trans hT3⟩
  · rw [if_neg he]
    repeat' (first | refine W1 ?_ | (exfalso; omega) | refine WL_split rfl rfl (fun hg => ?_) (fun hg => ?_) | refine WL_splitB rfl rfl (fun hg => ?_) (fun hg => ?_) | refine WC_cond rfl (fun hc => ?_) (fun hc => ?_) | refine WC_condB rfl (fun hc => ?_) (fun hc => ?_))
    first | refine WQ_ret1 rfl rfl ?_ | refine WQ_ret2 rfl rfl rfl ?_ | refine WQ_ret3 rfl rfl rfl rfl ?_ | refine WQ_ret0 rfl ?_ | refine WQ_end0 rfl ?_
    exact .mk ⟨rfl, hr1, hT⟩
theorem REnd_any (X : List Nat) (b : Nat) (s : Rs) (w : World) (hr : Rd X w b s) :
    Calls Tryd.prog 46 #[.pointer (some ⟨b, 0, none⟩)] w (Ret fun r w' => r = .int .i64 (endS s) ∧ Stp [] w w') := by
  obtain ⟨v, hblk, hs⟩ := hr
  have hmax := hs.max
  unfold endS
  refine calls_of_WC1 (n := 23) Tryd.func46 rfl rfl rfl ?_
  by_cases he : s.e = 0
  · by_cases hl : 0 < s.bs.length
    · rw [if_pos ⟨he, hl⟩]
      repeat' (first | refine W1 ?_ | (exfalso; omega) | refine WL_split rfl rfl (fun hg => ?_) (fun hg => ?_) | refine WL_splitB rfl rfl (fun hg => ?_) (fun hg => ?_) | refine WC_cond rfl (fun hc => ?_) (fun hc => ?_) | refine WC_condB rfl (fun hc => ?_) (fun hc => ?_))
      first | refine WQ_ret1 rfl rfl ?_ | refine WQ_ret2 rfl rfl rfl ?_ | refine WQ_ret3 rfl rfl rfl rfl ?_ | refine WQ_ret0 rfl ?_ | refine WQ_end0 rfl ?_
      exact .mk ⟨rfl, Stp.refl _ _⟩
    · rw [if_neg (fun h => hl h.2)]
      repeat' (first | refine W1 ?_ | (exfalso; omega) | refine WL_split rfl rfl (fun hg => ?_) (fun hg => ?_) | refine WL_splitB rfl rfl (fun hg => ?_) (fun hg => ?_) | refine WC_cond rfl (fun hc => ?_) (fun hc => ?_) | refine WC_condB rfl (fun hc => ?_) (fun hc => ?_))
      first | refine WQ_ret1 rfl rfl ?_ | refine WQ_ret2 rfl rfl rfl ?_ | refine WQ_ret3 rfl rfl rfl rfl ?_ | refine WQ_ret0 rfl ?_ | refine WQ_end0 rfl ?_
      exact .mk ⟨rfl, Stp.refl _ _⟩
  · rw [if_neg (fun h => he h.1)]
    repeat' (first | refine W1 ?_ | (exfalso; omega) | refine WL_split rfl rfl (fun hg => ?_) (fun hg => ?_) | refine WL_splitB rfl rfl (fun hg => ?_) (fun hg => ?_) | refine WC_cond rfl (fun hc => ?_) (fun hc => ?_) | refine WC_condB rfl (fun hc => ?_) (fun hc => ?_))
    first | refine WQ_ret1 rfl rfl ?_ | refine WQ_ret2 rfl rfl rfl ?_ | refine WQ_ret3 rfl rfl rfl rfl ?_ | refine WQ_ret0 rfl ?_ | refine WQ_end0 rfl ?_
    exact .mk ⟨rfl, Stp.refl _ _⟩
theorem buildBf (p : Option Addr) (l c : Nat) (w : World) : (Instr.build 129 #[(0, .slice p l c)]).run Tryd.prog w = .ok (.agg #[.slice p l c, .int .i64 0]) w := by kernel_rfl
theorem buildRd (p : Option Addr) (l c : Nat) (w : World) : (Instr.build 131 #[(0, .agg #[.slice p l c, .int .i64 0])]).run Tryd.prog w = .ok (.agg #[.slice p l c, .int .i64 0]) w := by kernel_rfl
theorem buildSI1r (a : Int) (w : World) : (Instr.buildSlice 22 1 #[(0, .int .i64 a)]).run Tryd.prog w = .ok (.slice (some ⟨w.heap.size, 0, none⟩) 1 1) (w.alloc (.cells #[.int .i64 a] 3)) := by kernel_rfl
theorem NewReader_any (X : List Nat) (v : Value) (bs : Bs) (w : World) (hl : bs.length ≤ 140737488355328) (hs : SlV [] w v bs) (hX : ∀ c ∈ X, c < w.heap.size) :
    Calls Tryd.prog 42 #[v] w (Ret fun r w' => ∃ b, r = .pointer (some ⟨b, 0, none⟩) ∧ w.heap.size ≤ b ∧ Rd X w' b ⟨bs, 0⟩ ∧ Stp [] w w') := by
  refine calls_of_WC1 (n := 8) Tryd.func42 rfl rfl rfl ?_
  refine W ?_
  refine WL_eff (OE_call rfl (evs1 rfl) (Clone_any v bs w hs hl)) rfl ?_
  rintro cv w1 ⟨hrow, hT⟩
  have hsv := hrow.slv0
  obtain ⟨p, c, rfl, -⟩ := id hsv
  refine WL_build (vs := [(0, .slice p bs.length c)]) rfl (buildBf _ _ _) rfl ?_
  refine WL_build (vs := [(0, .agg #[.slice p bs.length c, .int .i64 0])]) rfl (buildRd _ _ _) rfl ?_
  refine WL_eff (OE_box rfl) rfl ?_
  rintro _ w2 ⟨b, rfl, hb, e0, hS⟩
  replace e0 : Blk w2 b 131 [.slice p bs.length c, .int .i64 0] := e0
  refine W ?_
  first | refine WQ_ret1 rfl rfl ?_ | refine WQ_ret2 rfl rfl rfl ?_ | refine WQ_ret3 rfl rfl rfl rfl ?_ | refine WQ_ret0 rfl ?_ | refine WQ_end0 rfl ?_
  have hz := hT.size
  refine .mk ⟨b, rfl, by omega, ⟨_, e0, ?_⟩, hT.trans hS⟩
  have hx := hrow.anyX' (X' := X) |>.slvX (fun d hd hd' => by
    have h1 := (hrow.ob_le d hd').1
    have h2 := hX d hd
    omega)
  exact hx.ext (X' := b :: X) hS (by simp) (fun d hd => by
    rcases List.mem_cons.1 hd with rfl | hd
    · exact .inr hb
    · exact .inl hd)
theorem RInts_any (X : List Nat) (b most : Nat) (s : Rs) (w : World) (hm : most ≤ 1000000) (hr : Rd X w b s) (hX : ∀ c ∈ X, c < w.heap.size) :
    Calls Tryd.prog 45 #[.pointer (some ⟨b, 0, none⟩), .int .i64 (most : Int)] w (Ret fun r w' => Row [] w' w.heap.size 3 r (intsS most s).2 ∧ Rd (ob r ++ X) w' b (intsS most s).1 ∧ Stp [b] w w') := by
  have hbw : b < w.heap.size := by obtain ⟨v, h1, -⟩ := hr; exact h1.lt
  refine calls_of_WC2 (n := 34) Tryd.func45 rfl rfl rfl ?_
  refine W ?_
  refine WL_eff (OE_call rfl (evs2 rfl rfl) (Rlen_any X b most s w hm hr)) rfl ?_
  rintro _ w1 ⟨rfl, hr1, hT⟩
  have hdef : intsS most s = (if (intsLp (lengthS most s).2 (lengthS most s).1 []).1.e = 0 then intsLp (lengthS most s).2 (lengthS most s).1 [] else ((intsLp (lengthS most s).2 (lengthS most s).1 []).1, [])) := rfl
  have hle : (lengthS most s).2 ≤ 1000000 := by
    unfold lengthS
    split
    · split
      · simp
      · omega
    · simp
  rw [hdef]
  clear hdef hr
  generalize (lengthS most s).2 = n at *
  generalize (lengthS most s).1 = s1 at *
  refine W ?_
  refine WC_loop (σ := Nat × Rs × List Int × Value) (fun q => [(0, .pointer (some ⟨b, 0, none⟩)), (5, q.2.2.2), (6, .int .i64 (q.1 : Int))]) (fun q w' => q.1 ≤ n ∧ q.2.2.1.length + q.1 ≤ n ∧ Row [b] w' w.heap.size 3 q.2.2.2 q.2.2.1 ∧ Rd (ob q.2.2.2 ++ X) w' b q.2.1 ∧ Stp [b] w w' ∧ intsLp n s1 [] = intsLp q.1 q.2.1 q.2.2.1) (fun q => q.1) (n, s1, [], .slice none 0 0) ⟨rfl, rfl, rfl, trivial⟩
    ⟨Nat.le_refl _, by simp, Row.nil, hr1, hT, rfl⟩ ?_
  clear hr1 hT
  rintro ⟨k, s2, out, u⟩ w2 ⟨hk, hol, hrow, hr2, hT, heq⟩
  dsimp only at hk hol hrow hr2 hT heq ⊢
  obtain ⟨v, hblk, hs⟩ := id hr2
  have fin : ∀ hz : k = 0 ∨ s2.e ≠ 0, intsLp n s1 [] = (s2, out) := fun hz => by
    rw [heq]
    rcases hz with rfl | h
    · rfl
    · exact intsLp_bad h _ _
  by_cases hk0 : k = 0
  · have hf := fin (.inl hk0)
    rw [hf]
    dsimp only
    by_cases he : s2.e = 0
    · rw [if_pos he]
      repeat' (first | refine W1 ?_ | (exfalso; omega) | refine WL_split rfl rfl (fun hg => ?_) (fun hg => ?_) | refine WL_splitB rfl rfl (fun hg => ?_) (fun hg => ?_) | refine WC_cond rfl (fun hc => ?_) (fun hc => ?_) | refine WC_condB rfl (fun hc => ?_) (fun hc => ?_))
      first | refine WQ_ret1 rfl rfl ?_ | refine WQ_ret2 rfl rfl rfl ?_ | refine WQ_ret3 rfl rfl rfl rfl ?_ | refine WQ_ret0 rfl ?_ | refine WQ_end0 rfl ?_
      exact .mk ⟨hrow.anyX', hr2, hT⟩
    · rw [if_neg he]
      repeat' (first | refine W1 ?_ | (exfalso; omega) | refine WL_split rfl rfl (fun hg => ?_) (fun hg => ?_) | refine WL_splitB rfl rfl (fun hg => ?_) (fun hg => ?_) | refine WC_cond rfl (fun hc => ?_) (fun hc => ?_) | refine WC_condB rfl (fun hc => ?_) (fun hc => ?_))
      first | refine WQ_ret1 rfl rfl ?_ | refine WQ_ret2 rfl rfl rfl ?_ | refine WQ_ret3 rfl rfl rfl rfl ?_ | refine WQ_ret0 rfl ?_ | refine WQ_end0 rfl ?_
      exact .mk ⟨Row.nil, hr2.sub (fun c hc => List.mem_append_right _ (by simpa [ob] using hc)), hT⟩
  · by_cases he : s2.e = 0
    · rw [show k = (k - 1) + 1 by omega, intsLp, if_pos he] at heq
      repeat' (first | refine W1 ?_ | (exfalso; omega) | refine WL_split rfl rfl (fun hg => ?_) (fun hg => ?_) | refine WL_splitB rfl rfl (fun hg => ?_) (fun hg => ?_) | refine WC_cond rfl (fun hc => ?_) (fun hc => ?_) | refine WC_condB rfl (fun hc => ?_) (fun hc => ?_))
      refine WL_eff (OE_call rfl (evs1 rfl) (RInt_any _ b s2 w2 hr2)) rfl ?_
      rintro _ w3 ⟨rfl, hr3, hT3⟩
      have hb2 := hrow.ob_le
      have hrow3 : Row [b] w3 w.heap.size 3 u out := hrow.ext hT3 (fun c hc => by
        simp at hc
        subst hc
        exact ⟨by simp, fun h => by have := (hb2 _ h).1; omega⟩) (fun c hc => .inl hc)
      refine WL_eff (OE_buildSlice (vs := [(0, .int .i64 (intS s2).2)]) rfl (buildSI1r _)) rfl ?_
      rintro bv w4 hN
      have hbv : SlV (ob u ++ [b]) w4 bv [(intS s2).2] := hN.slv (fun c hc => by
        rcases List.mem_append.1 hc with h | h
        · have := (hrow3.ob_le c h).2; omega
        · simp at h; subst h; have := hT3.size; have := hT.size; omega) rfl rfl (by simp [maxLen])
      have hT4 := NewSl.stp hN
      have hrow4 := hrow3.up hT4
      have hr4 := hr3.up hT4
      clear hN
      have hz := hT.size
      have hz3 := hT3.size
      have hz4 := hT4.size
      refine WL_eff (OE_append (X := [b]) (base := w.heap.size) rfl (by decide) rfl rfl hrow4 hbv (by simp only [List.length_cons, List.length_nil]; omega) (by simp only [List.length_cons, List.length_nil, maxLen]; omega) (by omega)) rfl ?_
      rintro u' w5 ⟨hrow5, hT5, hob⟩
      have hr5 : Rd (ob u' ++ X) w5 b (intS s2).1 := hr4.ext hT5 (fun c hc => List.mem_append_left _ hc) (fun h => by have := (hrow4.ob_le b h).1; omega) (fun c hc => by
        rcases List.mem_append.1 hc with h | h
        · exact (hob c h).imp (fun h => List.mem_append_left _ h) id
        · exact .inl (List.mem_append_right _ h))
      have hT' : Stp [b] w w5 := ((hT.trans hT3).trans (hT4.mono (by simp))).own hT5 (fun c hc => .inr (hrow4.ob_le c hc).1)
      refine W ?_
      exact WQ_loop (k - 1, (intS s2).1, out ++ [(intS s2).2], u') ⟨rfl, rfl, by show some _ = some _; congr 2; simp only; omega, trivial⟩ ⟨by dsimp only; omega, by simp only [List.length_append, List.length_cons, List.length_nil]; omega, hrow5, hr5, hT', heq⟩ (by dsimp only; omega)
    · have hf := fin (.inr he)
      rw [hf]
      dsimp only
      rw [if_neg he]
      repeat' (first | refine W1 ?_ | (exfalso; omega) | refine WL_split rfl rfl (fun hg => ?_) (fun hg => ?_) | refine WL_splitB rfl rfl (fun hg => ?_) (fun hg => ?_) | refine WC_cond rfl (fun hc => ?_) (fun hc => ?_) | refine WC_condB rfl (fun hc => ?_) (fun hc => ?_))
      first | refine WQ_ret1 rfl rfl ?_ | refine WQ_ret2 rfl rfl rfl ?_ | refine WQ_ret3 rfl rfl rfl rfl ?_ | refine WQ_ret0 rfl ?_ | refine WQ_end0 rfl ?_
      exact .mk ⟨Row.nil, hr2.sub (fun c hc => List.mem_append_right _ (by simpa [ob] using hc)), hT⟩
end Go.Proofs.YtgpibcgebpgmiaaDoor


/-
Reading an unsigned number, as the reference does: first the length, then the digits from the last one.
-/
namespace Go.Eng
open Go
end Go.Eng


namespace Go.Proofs.YtgpibcgebpgmiaaDoor
open Go Go.Eng Go.RowKit
set_option linter.unusedVariables false
/-- the reference's reader: a value -/
def RfV (X : List Nat) (w : World) (v : Value) (s : Rs) : Prop := ∃ bv, v = .agg #[bv, .int .i64 s.e] ∧ SlV X w bv s.bs
theorem RfV.ext {X X' S : List Nat} {w w' : World} {v : Value} {s : Rs} (h : RfV X w v s) (hS : Stp S w w') (h1 : ∀ c ∈ S, c ∈ X) (h2 : ∀ c ∈ X', c ∈ X ∨ w.heap.size ≤ c) : RfV X' w' v s := by
  obtain ⟨bv, h3, h4⟩ := h
  exact ⟨bv, h3, h4.ext hS h1 h2⟩
theorem RfV.up {X : List Nat} {w w' : World} {v : Value} {s : Rs} (h : RfV X w v s) (hS : Stp [] w w') : RfV X w' v s := h.ext hS (by simp) (fun c hc => .inl hc)
end Go.Proofs.YtgpibcgebpgmiaaDoor


namespace Go.Proofs.YtgpibcgebpgmiaaDoor
open Go Go.Eng Go.RowKit
set_option linter.unusedVariables false
end Go.Proofs.YtgpibcgebpgmiaaDoor


namespace Go.Proofs.YtgpibcgebpgmiaaDoor
open Go Go.Eng Go.RowKit
set_option linter.unusedVariables false
end Go.Proofs.YtgpibcgebpgmiaaDoor
namespace Go.Eng
open Go Go.RowKit
section
variable {P : Program} {n : Nat} {e : Env} {w : World} {d : Option Nat} {ty : TypeId} {pos : String} {af : Array Edge} {g : Option (Nat × Bool)} {α : Type} [GoRep α] {X : List Nat} {v : Value} {xs : List α}
end
end Go.Eng
namespace Go.Proofs.YtgpibcgebpgmiaaDoor
open Go Go.Eng Go.RowKit
set_option linter.unusedVariables false
end Go.Proofs.YtgpibcgebpgmiaaDoor


namespace Go.Proofs.YtgpibcgebpgmiaaDoor
open Go Go.Eng Go.RowKit
set_option linter.unusedVariables false
end Go.Proofs.YtgpibcgebpgmiaaDoor


namespace Go.Proofs.YtgpibcgebpgmiaaDoor
open Go Go.Eng Go.RowKit
set_option linter.unusedVariables false
end Go.Proofs.YtgpibcgebpgmiaaDoor


namespace Go.Proofs.YtgpibcgebpgmiaaDoor
open Go Go.Eng Go.RowKit
set_option linter.unusedVariables false
/-- what both 'Decode' give -/
def DecR (w : World) (bs : Bs) (v : Value) (w' : World) : Prop := ∃ cv, v = .tuple #[cv, .int .i64 (decE bs)] ∧ (∀ X : List Nat, (∀ b ∈ X, b < w.heap.size) → CrV X w' cv (decF bs)) ∧ Stp [] w w'
theorem intsS_len (most : Nat) (s : Rs) : (intsS most s).2.length ≤ most := by
  by_cases h : (intsS most s).1.e = 0
  · exact (intsS_dec h).2.2.1
  · unfold intsS at h ⊢
    split
    · rename_i h1
      rw [if_pos h1] at h
      exact absurd h1 h
    · simp
end Go.Proofs.YtgpibcgebpgmiaaDoor


/-
The walk engine, part 22: a region in a round of a range over a function (the wide fence).
-/
namespace Go.Eng
open Go Go.RowKit Go.Proofs
set_option linter.unusedVariables false
def noDefer (o : Oper) : Bool := match o.op with | .defer _ => false | _ => true
theorem noDefer_ne {o : Oper} (h : noDefer o = true) : ∀ c, o.op ≠ .defer c := by
  intro c hc
  simp [noDefer, hc] at h
section
variable {P : Program} {n m : Nat} {Q : Exit → Act → World → Prop} {ops : Array Oper} {md : Region.Mode} {l : Nat}
theorem wp_inRound {o : Oper} (hd : noDefer o = true) {a : Act} {w : World} {K : Act → World → Prop} (h : o.wp P a w K (fun _ _ _ => False)) : o.wpIn (Fence.wide.inRound l) m P a w K Q := by
  refine ⟨fun f _ => trivial, ?_⟩
  rw [Oper.semAt_eq _ _ _ (noDefer_ne hd)]
  unfold Oper.wp at h
  generalize (execOp a.eval o).run P w = r at h ⊢
  cases r with
  | ok x w' =>
    cases x with
    | enter f args =>
      refine ⟨(fun h => by cases h), CallsIn.inRound l (callsIn_wide.2 (Calls.mono h ?_))⟩
      intro e w2 he
      cases e with
      | returned v => exact he
      | panicked ch => exact he.elim
      | outgrown => obtain ⟨_, _, hx⟩ := he; exact hx.elim
    | row row args => exact ⟨(fun h => by cases h), fun c cs _ => let ⟨v, w2, r, s⟩ := h c cs; ⟨v, w2, r, stepsIn_wide.2 s⟩⟩
    | round l2 f2 tm2 as2 bd2 => exact h.elim
    | _ => exact h
  | halt x w' => cases x <;> exact h.elim
theorem wpOp_inRound (hd : ∀ o ∈ ops, noDefer o = true) {i : Nat} {a : Act} {w : World} {K : Act → World → Prop} (h : wpOp P ops (fun _ _ _ => False) i K a w) : wpOpIn (Fence.wide.inRound l) m P ops Q i K a w := by
  unfold wpOp at h
  unfold wpOpIn
  split
  · rename_i ho
    rw [ho] at h
    exact h
  · rename_i o ho
    rw [ho] at h
    dsimp only at h
    split
    · rename_i hw
      rw [if_pos hw] at h
      rcases h with h | ⟨_, _, _, hx⟩
      · exact wp_inRound (hd o (Array.mem_of_getElem? ho)) h
      · exact hx.elim
    · rename_i hw
      rw [if_neg hw] at h
      exact ⟨fun f _ => trivial, h⟩
theorem wpAny_inRound {S : List Nat} {Lt : Nat → Bool} {Z : Act → World → Prop} (hZ : ∀ a w, Z a w → Q .normal a w) (hd : ∀ o ∈ ops, noDefer o = true) : ∀ (fuel : Nat) (listed : Array Bool) (a : Act) (w : World), wpAnyE P md ops S Lt Z fuel listed a w → wpAnyIn (Fence.wide.inRound l) m P md ops Q fuel listed a w
  | 0, _, _, _, h => ⟨h.1, hZ _ _ h.2⟩
  | fuel + 1, listed, a, w, h => ⟨fun h0 => hZ _ _ (h.1 h0), fun i hi => wpOpIn_mono (fun a w h => wpAny_inRound hZ hd fuel _ a w h.2) (wpOp_inRound hd (h.2 i hi))⟩
/-- a drawn region in a round -/
theorem WC_drawnIn {id : Nat} {ll : List Oper} {e : Env} {w : World} {a : Act} (ha : Has n e a) (k : Nat) (S : List Nat) (Lt : List Nat) (ord : List (Nat × Nat)) (hlm : ll.length = k) (hm : P.follows .mixedOrders = true) (hs : Region.noSelect ll.toArray = true) (hl : Nat.beq (wt ord) ll.length = true)
    (hB : checkD ll.toArray Lt ord (Array.replicate k false) = true) (hd : ll.all noDefer = true)
    (h : ∀ w', Stp [] w w' → WD P n ll.toArray S Lt Q ord e w') : (Code.region id ll.toArray true).wpIn (Fence.wide.inRound l) m P Q a w := by
  subst hlm
  refine wpIn_region_any hm ?_
  have h1 := (h { w with drawn := w.drawn + 1 } (Stp.drew [] w)).h _ hs hB a ha
  have h2 := wpAny_inRound (l := l) (m := m) (Q := Q) (fun a w hz => hz) (fun o ho => List.all_eq_true.1 hd o (by simpa using ho)) _ _ _ _ h1
  rw [Nat.eq_of_beq_eq_true hl] at h2
  simpa using h2
end
end Go.Eng


namespace Go.Proofs.YtgpibcgebpgmiaaDoor
open Go Go.Eng Go.RowKit Go.Proofs
set_option linter.unusedVariables false
attribute [local go_sem] Oper.semAt_some
/-- the instruction made of chunk k -/
def chE (l : List Int) (k : Nat) : Ins := ⟨l[2 * k]?.getD 0, l[2 * k + 1]?.getD 0⟩
def chL (l : List Int) {m : Nat} (pre : List (Fin m)) : List Ins := pre.map (fun k => chE l k.1)
theorem pairF_chE : ∀ (m : Nat) (l : List Int), l.length = 2 * m → pairF l = (List.finRange m).map (fun k => chE l k.1)
  | 0, l, h => by
    obtain rfl : l = [] := List.length_eq_zero_iff.1 (by omega)
    simp [pairF]
  | m + 1, l, h => by
    match l, h with
    | a :: b :: r, h =>
      have ih := pairF_chE m r (by simp only [List.length_cons] at h; omega)
      rw [pairF, ih, List.finRange_succ, List.map_cons, List.map_map]
      congr 1
    | [], h => simp at h
    | [_], h => simp at h; omega
theorem ownsIns {w : World} {base T : Nat} {v : Value} {xs : List Ins} {X : List Nat} (h : Row X w base T v xs) : w.ownsRow base T 2 v xs.length (xs.flatMap Flat.enc) := by
  obtain ⟨css, hl, hr, ho⟩ := h
  have e : css = xs.map Flat.enc := List.ext_getElem (by simp [hl]) (fun i h1 h2 => by
    have h3 : i < xs.length := by rw [← hl]; exact h1
    have : css[i] = Flat.enc xs[i] := hr i h3 h1
    simpa using this)
  subst e
  rw [List.flatMap_def]
  exact ho
theorem insOwns {w : World} {base T : Nat} {v : Value} {xs : List Ins} {X : List Nat} (h : w.ownsRow base T 2 v xs.length (xs.flatMap Flat.enc)) : Row X w base T v xs :=
  ⟨xs.map Flat.enc, by simp, fun i h1 h2 => by show _ = Flat.enc _; simp, by rw [← List.flatMap_def]; exact h⟩
theorem kpC_t {n₀ Bs Bn : Nat} {X Y Z : World} (h : Tryd.KpC n₀ Bs Bn X Y) (k : Tryd.KpC n₀ Bs Bn Y Z) : Tryd.KpC n₀ Bs Bn X Z := ⟨h.1.trans k.1, k.2.1.trans h.2.1, k.2.2.trans h.2.2⟩
theorem kpC_b {n₀ Bs Bn : Nat} {w0 : World} (hn : n₀ ≤ w0.heap.size) (hs : Bs < w0.heap.size) (hn2 : Bn < w0.heap.size) (W : World) (l : Nat) (o o' : Obj) (hl : w0.heap.size ≤ l) (h : W.heap[l]? = some o) (h1 : o.isCells = false) (h2 : o.isWalk = false) : Tryd.KpC n₀ Bs Bn W (W.putObj l o') := by
  have hlt := (Array.getElem?_eq_some_iff.1 h).1
  have hg := grownBy_putObj' W l o'
  exact ⟨belowK_b hn W l o o' hl h h1 h2, World.cell?_of_block (a := ⟨Bs, 0, none⟩) (hg.block Bs (by omega) (fun e => by cases e; omega)), World.cell?_of_block (a := ⟨Bn, 0, none⟩) (hg.block Bn (by omega) (fun e => by cases e; omega))⟩
theorem has_two {n : Nat} {x y : Value} {i j : Nat} {tm : Array Value} (hn : tm.size = n) (hi : tm.getD i undef = x) (hj : tm.getD j undef = y) : Has n [(i, x), (j, y)] { tmps := tm, defers := [] } := by
  subst hn
  refine ⟨rfl, rfl, fun t v hv => ?_⟩
  rw [look_cons] at hv
  split at hv
  · rename_i e; subst e; cases hv; exact hi
  · rw [look_cons] at hv
    split at hv
    · rename_i e; subst e; cases hv; exact hj
    · cases hv
set_option maxRecDepth 100000 in
set_option maxHeartbeats 4000000 in
theorem paired_in (p : Option Addr) (b off m cap : Nat) (l : List Int) (w : World) (hm : m ≤ 1000000) (hll : l.length = 2 * m) (hs : SlV [] w (.slice p (2 * m) cap) l) (hcap : 2 * m ≤ cap) (hp : 0 < m → p = some ⟨b, off, none⟩) :
    CallsIn Fence.wide 3 Tryd.prog 47 #[.slice p (2 * m) cap] w fun e W' => ∃ r, e = .returned r ∧ Row [] W' w.heap.size 59 r (chL l (List.finRange m)) ∧ Below w.heap.size w W' := by
  refine callsIn_of_wp_marks Tryd.func47 rfl trivial ?_ rfl
  simp only [Tryd.ntmps47, List.size_toArray, List.length_cons, List.length_nil, Nat.reduceAdd, Nat.reduceSub, Array.replicate_succ, Array.replicate_zero, List.push_toArray, List.append_toArray, List.nil_append, List.cons_append]
  gi_wp2_with (refine ⟨trivial, ?_⟩; gi_at_call 85; refine (Tryd.chunk_in Fence.wide 2 trivial rfl _ _ _ _).mono ?_; rintro e w' ⟨rfl, rfl⟩)
  have bO := Boxed.new w 40 (.slice none 0 0)
  have bS := Boxed.new (w.alloc (.cells #[.slice none 0 0] 40)) 22 (.slice p (2 * m) cap)
  have bN := Boxed.new ((w.alloc (.cells #[.slice none 0 0] 40)).alloc (.cells #[.slice p (2 * m) cap] 22)) 3 (.int .i64 2)
  simp only [World.size_alloc] at bS bN ⊢
  have hB0 : Below w.heap.size w (((w.alloc (.cells #[.slice none 0 0] 40)).alloc (.cells #[.slice p (2 * m) cap] 22)).alloc (.cells #[.int .i64 2] 3)) := (((Below.refl _ w).alloc (Nat.le_refl _) _).alloc (by simp) _).alloc (by simp; omega) _
  refine wpIn_rangeFunc_ownG (F := Fence.wide) rfl (by omega) (gf := 113) (lb := #[.pointer (some ⟨w.heap.size + 1, 0, none⟩), .pointer (some ⟨w.heap.size + 1 + 1, 0, none⟩)]) rfl trivial (enters_of Tryd.func113 (by kernel_rfl) rfl)
    (Tryd.chunk_stops Fence.wide 2 trivial rfl (by omega) (w.heap.size + 1) (w.heap.size + 1 + 1) w.heap.size m cap p b off hp hm hcap _ (by simp) (by simp) (bS.alloc _).cell bN.cell) kpC_t (kpC_b (by simp; omega) (by simp) (by simp)) (Below.refl _ _) (fun _ => rfl)
    (fun pre W => (∃ r, Boxed W w.heap.size 40 r ∧ W.ownsRow w.heap.size 59 2 r (chL l pre).length ((chL l pre).flatMap Flat.enc) ∧ True) ∧ (Boxed W (w.heap.size + 1) 22 (.slice p (2 * m) cap) ∧ Boxed W (w.heap.size + 1 + 1) 3 (.int .i64 2)) ∧ Below w.heap.size w W)
    (fun _ _ _ => False)
    (OwnFrom.and (Own.from (holdsRow_own w.heap.size w.heap.size 40 59 2 (fun pre : List (Fin m) => (chL l pre).length) (fun pre => (chL l pre).flatMap Flat.enc) (fun _ _ => True)) _) (OwnFrom.and (OwnFrom.and (Own.from (boxed_own _ _ _) _) (Own.from (boxed_own _ _ _) _)) (ownFrom_below (Nat.le_refl _) (by simp; omega))))
    (fun _ _ _ _ _ hs _ _ => hs)
    ⟨⟨_, (bO.alloc _).alloc _, World.ownsRow_nil _ _ _ _, trivial⟩, ⟨bS.alloc _, bN⟩, hB0⟩
    (fun x => { tmps := #[.slice p (2 * m) cap, undef, .slice none 0 0, .pointer (some ⟨w.heap.size, 0, none⟩), .slice (some ⟨b, off + 2 * x.1, none⟩) 2 2, .slice p (2 * m) cap, .func (.func 113) #[] #[.pointer (some ⟨w.heap.size + 1, 0, none⟩), .pointer (some ⟨w.heap.size + 1 + 1, 0, none⟩)], .slice (some ⟨b, off + 2 * x.1, none⟩) 2 2, undef, undef, undef, undef, undef, undef, undef, undef, undef, undef, undef], defers := [] }) ?assign ?body ?done ?stop
  case assign =>
    intro l0 x W K hK
    gi_wp2
    exact hK
  case body =>
    rintro l0 pre x W ⟨⟨r, hv, hrow, -⟩, ⟨hbs, hbn⟩, hB⟩ hlt
    have hlx : 2 * x.1 + 1 < l.length := by have := x.2; omega
    have hmp : 0 < m := by have := x.2; omega
    obtain rfl := hp hmp
    have hlen : (chL l pre).length = pre.length := by simp [chL]
    have hrw : Row [] W w.heap.size 59 r (chL l pre) := insOwns hrow
    have hvb : Blk W w.heap.size 40 [r] := hv
    have hcell : ∀ i, i < l.length → b < w.heap.size ∧ W.cell? ⟨b, off + i, none⟩ = some (.int .i64 (l[i]?.getD 0)) := by
      intro i hi
      obtain ⟨p', c', hveq, hl1, hm1, hn1, hc1⟩ := hs
      obtain ⟨b', o', cs, hpe, hb', _, hr', hcc⟩ := hc1 i hi
      subst hpe
      injection hveq with e1 e2 e3
      injection e1 with e1
      injection e1 with e4 e5 e6
      subst e4 e5
      have hr2 : cs = [.int .i64 l[i]] := hr'
      subst hr2
      refine ⟨hb', (hB.cell (p := ⟨b, off + i, none⟩) hb').trans ?_⟩
      have := hcc 0 (.int .i64 l[i]) rfl
      simpa [List.getElem?_eq_getElem hi, show GoRep.k Int = 1 from rfl] using this
    have hge := fun d hd => (hrw.ob_le d hd).1
    have hbn0 : b ∉ ob r := fun h => by
      have := (hcell 0 (by omega)).1
      have := hge _ h
      omega
    have hsl : SlV (ob r) W (.slice (some ⟨b, off + 2 * x.1, none⟩) 2 2) [l[2 * x.1]?.getD 0, l[2 * x.1 + 1]?.getD 0] := by
      refine ⟨some ⟨b, off + 2 * x.1, none⟩, 2, rfl, Nat.le_refl _, by simp [maxLen], (fun h => by cases h), fun i hi => ?_⟩
      have hi2 : i = 0 ∨ i = 1 := by simp at hi; omega
      have hbW : b < W.heap.size := Nat.lt_of_lt_of_le (hcell 0 (by omega)).1 hB.size
      rcases hi2 with rfl | rfl
      · refine ⟨b, _, [.int .i64 (l[2 * x.1]?.getD 0)], rfl, hbW, hbn0, rfl, fun j u hu => ?_⟩
        match j, hu with
        | 0, hu => cases hu; simpa using (hcell (2 * x.1) (by omega)).2
        | j + 1, hu => simp at hu
      · refine ⟨b, _, [.int .i64 (l[2 * x.1 + 1]?.getD 0)], rfl, hbW, hbn0, rfl, fun j u hu => ?_⟩
        match j, hu with
        | 0, hu => cases hu; simpa [Nat.add_assoc, show GoRep.k Int = 1 from rfl] using (hcell (2 * x.1 + 1) (by omega)).2
        | j + 1, hu => simp at hu
    have hnr : w.heap.size ∉ ob r := fun h => hv.not_row (by decide) hrow (by rw [← ob_own] at h; simpa using (Option.mem_toList.1 h).symm)
    have hnr1 : w.heap.size + 1 ∉ ob r := fun h => hbs.not_row (by decide) hrow (by rw [← ob_own] at h; simpa using (Option.mem_toList.1 h).symm)
    have hnr2 : w.heap.size + 1 + 1 ∉ ob r := fun h => hbn.not_row (by decide) hrow (by rw [← ob_own] at h; simpa using (Option.mem_toList.1 h).symm)
    have hgc : ∀ d ∈ ob r, ∃ cs T fz, W.heap[d]? = some (.cells cs T fz) := by
      intro d hd
      rcases hrow.2 with ⟨rfl, _⟩ | ⟨g, cp, cur, rfl, _, hgb, _⟩
      · simp [ob] at hd
      · simp [ob] at hd; subst hd; exact ⟨_, _, _, hgb⟩
    have hfin : ∀ B w4 r', Stp (w.heap.size :: ob r) W w4 → Boxed w4 w.heap.size 40 r' → Row [] w4 w.heap.size 59 r' (chL l (pre ++ [x])) → KeepsFrom B W w4 ∧ Tryd.KpC w.heap.size (w.heap.size + 1) (w.heap.size + 1 + 1) W w4 ∧
        (∃ r, Boxed w4 w.heap.size 40 r ∧ w4.ownsRow w.heap.size 59 2 r (chL l (pre ++ [x])).length ((chL l (pre ++ [x])).flatMap Flat.enc) ∧ True) ∧ (Boxed w4 (w.heap.size + 1) 22 (.slice (some ⟨b, off, none⟩) (2 * m) cap) ∧ Boxed w4 (w.heap.size + 1 + 1) 3 (.int .i64 2)) ∧ Below w.heap.size w w4 := by
      intro B w4 r' hT hb4 hr4
      have hbel : Below w.heap.size W w4 := ⟨hT.os, hT.tape, hT.output, hT.size, fun k hk => hT.block k (by have := hB.size; omega) (fun h => by
        rcases List.mem_cons.1 h with h | h
        · omega
        · have := hge _ h; omega)⟩
      have h1 : w4.heap[w.heap.size + 1]? = W.heap[w.heap.size + 1]? := hT.block _ hbs.lt (fun h => by
        rcases List.mem_cons.1 h with h | h
        · omega
        · exact hnr1 h)
      have h2 : w4.heap[w.heap.size + 1 + 1]? = W.heap[w.heap.size + 1 + 1]? := hT.block _ hbn.lt (fun h => by
        rcases List.mem_cons.1 h with h | h
        · omega
        · exact hnr2 h)
      refine ⟨⟨hT.size, fun k o _ hk ho => (hT.block k (Array.getElem?_eq_some_iff.1 hk).1 (fun h => ?_)).trans hk⟩, ⟨hbel, World.cell?_of_block (a := ⟨_, 0, none⟩) h1, World.cell?_of_block (a := ⟨_, 0, none⟩) h2⟩, ⟨r', hb4, ownsIns hr4, trivial⟩, ⟨h1.trans hbs, h2.trans hbn⟩, hB.trans hbel⟩
      rcases List.mem_cons.1 h with h | h
      · subst h
        rw [show W.heap[w.heap.size]? = _ from hv] at hk
        cases hk; cases ho
      · obtain ⟨cs, T, fz, hd⟩ := hgc k h
        rw [hd] at hk
        cases hk; cases ho
    have hchl : chL l (pre ++ [x]) = chL l pre ++ [Ins.mk (l[2 * x.1]?.getD 0) (l[2 * x.1 + 1]?.getD 0)] := by simp [chL, chE]
    gi_wp2
    have ha : Has 19 [(3, .pointer (some ⟨w.heap.size, 0, none⟩)), (4, .slice (some ⟨b, off + 2 * x.1, none⟩) 2 2)] { tmps := #[.slice (some ⟨b, off, none⟩) (2 * m) cap, undef, .slice none 0 0, .pointer (some ⟨w.heap.size, 0, none⟩), .slice (some ⟨b, off + 2 * x.1, none⟩) 2 2, .slice (some ⟨b, off, none⟩) (2 * m) cap, .func (.func 113) #[] #[.pointer (some ⟨w.heap.size + 1, 0, none⟩), .pointer (some ⟨w.heap.size + 1 + 1, 0, none⟩)], .slice (some ⟨b, off + 2 * x.1, none⟩) 2 2, undef, undef, undef, undef, undef, undef, undef, undef, undef, undef, undef], defers := [] } := has_two (by rfl) (by rfl) (by rfl)
    have hlx0 : 0 < [l[2 * x.1]?.getD 0, l[2 * x.1 + 1]?.getD 0].length := by simp
    have hlx1 : 1 < [l[2 * x.1]?.getD 0, l[2 * x.1 + 1]?.getD 0].length := by simp
    refine WC_drawnIn ha 11 (ob r) [10] [(0, 1), (1, 0), (2, 0), (3, 1), (4, 0), (5, 0), (6, 1), (7, 0), (8, 2), (9, 2), (10, 2)] rfl mixed (by kernel_rfl) (by kernel_rfl) (by kernel_rfl) (by kernel_rfl) (fun w1 hS1 => ?_)
    have hT := hS1
    replace hvb := hvb.up hS1
    replace hrw := hrw.up hS1
    replace hsl := hsl.up hS1
    have hz1 := hS1.size
    have hzB := hB.size
    refine WR_load_blk rfl trivial rfl rfl hvb hnr (by rfl) rfl ?_
    refine D ?_
    refine WF_build rfl trivial (vs := [(0, .int .i64 (l[2 * x.1]?.getD 0)), (1, .int .i64 (l[2 * x.1 + 1]?.getD 0))]) rfl (buildI _ _) rfl ?_
    refine WD_eff rfl trivial (OE_buildSlice (vs := [(0, agg (Ins.mk (l[2 * x.1]?.getD 0) (l[2 * x.1 + 1]?.getD 0)))]) rfl (buildSI _)) (fun _ _ h => (NewSl.stp h).mono (by simp)) rfl ?_
    rintro bn w2 hN
    have hbnS : SlV (ob r ++ []) w2 bn [Ins.mk (l[2 * x.1]?.getD 0) (l[2 * x.1 + 1]?.getD 0)] := hN.slv (fun d hd => (hrw.ob_le d (by simpa using hd)).2) rfl rfl (by simp [maxLen])
    have hT2 := NewSl.stp hN
    have hz2 := hT2.size
    have hrow2 := hrw.up hT2
    have hvb2 := hvb.up hT2
    have hoblt := fun d hd => (hrw.ob_le d hd).2
    refine WD_eff rfl trivial (OE_append (X := []) (base := w.heap.size) rfl (by decide) rfl rfl hrow2 hbnS (by simp only [List.length_cons, List.length_nil]; omega) (by simp only [List.length_cons, List.length_nil, maxLen]; omega) (by omega)) (fun _ _ h => h.2.1) rfl ?_
    rintro r' w3 ⟨hrow3, hT3, hob3⟩
    have hvb3 := hvb2.ext hT3 hnr
    have hn3 : w.heap.size ∉ ob r' := fun h => by
      rcases hob3 _ h with h | h
      · exact hnr h
      · have := hvb2.lt; omega
    refine WD_late0 rfl trivial (OE_store1 (u := r') rfl rfl (Row.slv (X := []) hrow3 (by simp)).cells (Row.slv (X := []) hrow3 (by simp)).one hvb3 (by simp)) rfl ?_
    rintro _ w4 ⟨hT4, hvb4⟩
    refine WD_nil ?_
    refine ⟨fun a' _ => ?_⟩
    have hTT : Stp (w.heap.size :: ob r) W w4 := ((((hT.mono (by simp)).trans (hT2.mono (by simp))).trans (hT3.mono (fun d hd => List.mem_cons_of_mem _ hd))).trans (hT4.mono (fun d hd => by simp at hd; simp [hd])))
    exact hfin _ w4 r' hTT hvb4 (by rw [hchl]; exact hrow3.keep hT4 (by simpa using hn3))
  case done =>
    rintro D ys W hD rfl ⟨⟨r, hv, hrow, -⟩, _, hB⟩ hK
    have hc := hv.cell
    gi_wp2
    refine ⟨by simp, .inl ⟨_, _, rfl, run_takeDeferred hK, ?_⟩⟩
    exact ⟨_, results_tmp rfl _ _ _, r, rfl, insOwns (ownsRow_putObj hrow _ hK rfl), hB.trans (belowK_b (w := w) (Nat.le_refl _) W D _ _ (by simp at hD; omega) hK rfl rfl)⟩
  case stop =>
    rintro D c pre W _ _ h _
    exact h.elim
theorem paired_any (v : Value) (l : List Int) (w : World) (hl : l.length ≤ 1000000) (he : l.length % 2 = 0) (hs : SlV [] w v l) :
    Calls Tryd.prog 47 #[v] w (Ret fun r w' => Row [] w' w.heap.size 59 r (pairF l) ∧ Stp [] w w') := by
  have h2 : l.length = 2 * (l.length / 2) := by omega
  obtain ⟨p, c, rfl, hlc, hmc, hn, hc⟩ := id hs
  have hp : ∃ b off, 0 < l.length / 2 → p = some ⟨b, off, none⟩ := by
    by_cases h0 : 0 < l.length
    · obtain ⟨b, o, _, h1, _⟩ := hc 0 h0
      exact ⟨b, o, fun _ => h1⟩
    · exact ⟨0, 0, fun h => by omega⟩
  obtain ⟨b, off, hp⟩ := hp
  rw [h2] at hs ⊢
  refine Calls.mono (callsIn_wide.1 (paired_in p b off (l.length / 2) c l w (by omega) h2 hs (by omega) hp)) ?_
  rintro e w' ⟨r, rfl, hr, hB⟩
  refine .mk ⟨?_, Stp.of_below hB⟩
  rw [pairF_chE _ l h2]
  exact hr
end Go.Proofs.YtgpibcgebpgmiaaDoor


namespace Go.Proofs.YtgpibcgebpgmiaaDoor
open Go Go.Eng Go.RowKit
set_option linter.unusedVariables false
theorem buildCr3 (a : Str) (z : Int) (c : Str) (w : World) : (Instr.build 42 #[(0, str a), (1, .int .i64 z), (2, str c)]).run Tryd.prog w = .ok (.agg (crC ⟨a, z, c, [], [], [], []⟩ nilS nilS).toArray) w := by kernel_rfl
theorem Decode_any (v : Value) (bs : Bs) (m : Int) (w : World) (hl : bs.length ≤ 140737488355328) (hF : SlV [] w flds fieldNames) (hm : w.cell? ⟨1, 0, none⟩ = some (.int .i64 m)) (hs0 : SlV [] w v bs) :
    Calls Tryd.prog 16 #[v] w (Ret (DecR w bs)) := by
  refine calls_of_WC1 (n := 56) Tryd.func16 rfl rfl rfl ?_
  refine W ?_
  refine WL_eff OE_alloc rfl ?_
  rintro _ w1 ⟨b2, rfl, hb2, e2, hS⟩
  refine W ?_
  refine WL_eff (OE_call rfl (evs1 rfl) (NewReader_any [] v bs _ hl (hs0.up hS) (by simp))) rfl ?_
  rintro _ w2 ⟨b, rfl, hb, hr, hT⟩
  have hb2l := e2.lt
  have hsz := hS.size
  have n2 : b2 ≠ b := by omega
  have hbv : w.heap.size ≤ b := by omega
  have hbv2 : w.heap.size ≤ b2 := by omega
  replace e2 := e2.up hT
  replace hS := hS.trans hT
  clear hT
  obtain ⟨s0, hr0⟩ : ∃ s : Rs, s = ⟨bs, 0⟩ := ⟨_, rfl⟩
  rw [← hr0] at hr
  refine W ?_
  refine WL_eff (OE_call rfl (evs2 rfl rfl) (RText_any [] b 12 s0 _ (by decide) hr)) rfl ?_
  rintro _ w4 ⟨rfl, hr, hT⟩
  generalize h1 : textS 12 s0 = p1 at *
  replace e2 := e2.ext hT (by simp; exact n2)
  replace hS := hS.own hT (fun d hd => by simp at hd; subst hd; exact .inr hbv)
  clear hT
  refine W ?_
  refine WL_eff (OE_call rfl (evs1 rfl) (RInt_any [] b p1.1 _ hr)) rfl ?_
  rintro _ w4 ⟨rfl, hr, hT⟩
  generalize h2 : intS p1.1 = p2 at *
  replace e2 := e2.ext hT (by simp; exact n2)
  replace hS := hS.own hT (fun d hd => by simp at hd; subst hd; exact .inr hbv)
  clear hT
  refine W ?_
  refine WL_eff (OE_call rfl (evs2 rfl rfl) (RText_any [] b 12 p2.1 _ (by decide) hr)) rfl ?_
  rintro _ w4 ⟨rfl, hr, hT⟩
  generalize h3 : textS 12 p2.1 = p3 at *
  replace e2 := e2.ext hT (by simp; exact n2)
  replace hS := hS.own hT (fun d hd => by simp at hd; subst hd; exact .inr hbv)
  clear hT
  refine W ?_
  refine WL_build (vs := [(0, str p1.2), (1, .int .i64 p2.2), (2, str p3.2)]) rfl (buildCr3 _ _ _) rfl ?_
  refine WL_eff OE_alloc rfl ?_
  rintro _ w5 ⟨b5, rfl, hb5, e50, hT⟩
  have lb0 : b < _ := (show Rd _ _ _ _ from hr).choose_spec.1.lt
  have n5 : b5 ≠ b := by omega
  have n25 : b2 ≠ b5 := by have := e2.lt; omega
  have hbv5 : w.heap.size ≤ b5 := by have := hS.size; omega
  refine WL_eff0 (OE_storeA (us := crC ⟨p1.2, p2.2, p3.2, [], [], [], []⟩ nilS nilS) rfl rfl rfl rfl (crC_one (nilSlv [] w) (nilSlv [] w)) e50 rfl) ?_
  rintro _ w6 ⟨hT2, e5⟩
  replace hr := (hr.ext (X' := [b5]) hT (by simp) (by simp) (fun d hd => by simp at hd; subst hd; exact .inr hb5)).ext (X' := [b5]) hT2 (fun d hd => hd) (by simp; exact n5.symm) (fun d hd => .inl hd)
  replace e2 := (e2.up hT).ext hT2 (by simp; exact n25)
  replace hS := (hS.trans hT).own hT2 (fun d hd => by simp at hd; subst hd; exact .inr hbv5)
  clear hT hT2 e50
  refine W ?_
  have hz4 := hS.size
  have l54 := e5.lt
  have lb4 : b < _ := (show Rd _ _ _ _ from hr).choose_spec.1.lt
  refine WL_eff (OE_call rfl (evs2 rfl rfl) (RInts_any [b5] b 400 p3.1 _ (by decide) hr (by simp; exact e5.lt))) rfl ?_
  rintro lv4 w4 ⟨hrow4, hr, hT⟩
  replace hr := hr.sub (X' := [b5]) (fun d hd => List.mem_append_right _ hd)
  have ob4 : ∀ d ∈ ob lv4, b < d ∧ b5 < d := fun d hd => by have := (hrow4.ob_le d hd).1; omega
  replace hrow4 := hrow4.lower hz4
  have hlen4 := intsS_len 400 p3.1
  generalize h4 : intsS 400 p3.1 = p4 at *
  replace e2 := e2.ext hT (by simp; exact n2)
  replace e5 := e5.ext hT (by simp; exact n5)
  replace hS := hS.own hT (fun d hd => by simp at hd; subst hd; exact .inr hbv)
  clear hT
  refine W ?_
  have hz5 := hS.size
  have l55 := e5.lt
  have lb5 : b < _ := (show Rd _ _ _ _ from hr).choose_spec.1.lt
  refine WL_eff (OE_call rfl (evs2 rfl rfl) (RInts_any [b5] b 400 p4.1 _ (by decide) hr (by simp; exact e5.lt))) rfl ?_
  rintro lv5 w4 ⟨hrow5, hr, hT⟩
  replace hr := hr.sub (X' := [b5]) (fun d hd => List.mem_append_right _ hd)
  have ob5 : ∀ d ∈ ob lv5, b < d ∧ b5 < d := fun d hd => by have := (hrow5.ob_le d hd).1; omega
  replace hrow5 := hrow5.lower hz5
  have hlen5 := intsS_len 400 p4.1
  generalize h5 : intsS 400 p4.1 = p5 at *
  replace e2 := e2.ext hT (by simp; exact n2)
  replace e5 := e5.ext hT (by simp; exact n5)
  replace hrow4 : Row [] w4 w.heap.size 3 lv4 p4.2 := Row.anyX' ((Row.anyX' (X' := [b]) hrow4).ext hT (fun d hd => ⟨hd, fun h => by simp at hd; subst hd; have := (ob4 _ h).1; omega⟩) (fun d hd => .inl hd))
  replace hS := hS.own hT (fun d hd => by simp at hd; subst hd; exact .inr hbv)
  clear hT
  refine W ?_
  refine WL_eff (OE_call rfl (evs2 rfl rfl) (RText_any [b5] b 12 p5.1 _ (by decide) hr)) rfl ?_
  rintro _ w4 ⟨rfl, hr, hT⟩
  generalize h6 : textS 12 p5.1 = p6 at *
  replace e2 := e2.ext hT (by simp; exact n2)
  replace e5 := e5.ext hT (by simp; exact n5)
  replace hrow4 : Row [] w4 w.heap.size 3 lv4 p4.2 := Row.anyX' ((Row.anyX' (X' := [b]) hrow4).ext hT (fun d hd => ⟨hd, fun h => by simp at hd; subst hd; have := (ob4 _ h).1; omega⟩) (fun d hd => .inl hd))
  replace hrow5 : Row [] w4 w.heap.size 3 lv5 p5.2 := Row.anyX' ((Row.anyX' (X' := [b]) hrow5).ext hT (fun d hd => ⟨hd, fun h => by simp at hd; subst hd; have := (ob5 _ h).1; omega⟩) (fun d hd => .inl hd))
  replace hS := hS.own hT (fun d hd => by simp at hd; subst hd; exact .inr hbv)
  clear hT
  refine W ?_
  refine WL_eff0 (OE_store1 (u := str p6.2) rfl rfl rfl rfl e5 (by simp)) ?_
  rintro _ w7 ⟨hT, e5q⟩
  clear e5
  have e5 : Blk w7 b5 42 (crC ⟨p1.2, p2.2, p3.2, [], [], p6.2, []⟩ nilS nilS) := e5q
  clear e5q
  replace hr := hr.ext (X' := [b5]) hT (fun d hd => hd) (by simp; exact n5.symm) (fun d hd => .inl hd)
  replace e2 := e2.ext hT (by simp; exact n25)
  replace hrow4 : Row [] w7 w.heap.size 3 lv4 p4.2 := Row.anyX' ((Row.anyX' (X' := [b5]) hrow4).ext hT (fun d hd => ⟨hd, fun h => by simp at hd; subst hd; have := (ob4 _ h).2; omega⟩) (fun d hd => .inl hd))
  replace hrow5 : Row [] w7 w.heap.size 3 lv5 p5.2 := Row.anyX' ((Row.anyX' (X' := [b5]) hrow5).ext hT (fun d hd => ⟨hd, fun h => by simp at hd; subst hd; have := (ob5 _ h).2; omega⟩) (fun d hd => .inl hd))
  replace hS := hS.own hT (fun d hd => by simp at hd; subst hd; exact .inr hbv5)
  clear hT
  refine W ?_
  refine WL_eff (OE_call rfl (evs2 rfl rfl) (RText_any [b5] b 12 p6.1 _ (by decide) hr)) rfl ?_
  rintro _ w4 ⟨rfl, hr, hT⟩
  generalize h7 : textS 12 p6.1 = p7 at *
  replace e2 := e2.ext hT (by simp; exact n2)
  replace e5 := e5.ext hT (by simp; exact n5)
  replace hrow4 : Row [] w4 w.heap.size 3 lv4 p4.2 := Row.anyX' ((Row.anyX' (X' := [b]) hrow4).ext hT (fun d hd => ⟨hd, fun h => by simp at hd; subst hd; have := (ob4 _ h).1; omega⟩) (fun d hd => .inl hd))
  replace hrow5 : Row [] w4 w.heap.size 3 lv5 p5.2 := Row.anyX' ((Row.anyX' (X' := [b]) hrow5).ext hT (fun d hd => ⟨hd, fun h => by simp at hd; subst hd; have := (ob5 _ h).1; omega⟩) (fun d hd => .inl hd))
  replace hS := hS.own hT (fun d hd => by simp at hd; subst hd; exact .inr hbv)
  clear hT
  refine W ?_
  refine WL_eff0 (OE_store1 (u := str p7.2) rfl rfl rfl rfl e5 (by simp)) ?_
  rintro _ w7 ⟨hT, e5q⟩
  clear e5
  have e5 : Blk w7 b5 42 (crC ⟨p1.2, p2.2, p3.2, [], [], p6.2, p7.2⟩ nilS nilS) := e5q
  clear e5q
  replace hr := hr.ext (X' := [b5]) hT (fun d hd => hd) (by simp; exact n5.symm) (fun d hd => .inl hd)
  replace e2 := e2.ext hT (by simp; exact n25)
  replace hrow4 : Row [] w7 w.heap.size 3 lv4 p4.2 := Row.anyX' ((Row.anyX' (X' := [b5]) hrow4).ext hT (fun d hd => ⟨hd, fun h => by simp at hd; subst hd; have := (ob4 _ h).2; omega⟩) (fun d hd => .inl hd))
  replace hrow5 : Row [] w7 w.heap.size 3 lv5 p5.2 := Row.anyX' ((Row.anyX' (X' := [b5]) hrow5).ext hT (fun d hd => ⟨hd, fun h => by simp at hd; subst hd; have := (ob5 _ h).2; omega⟩) (fun d hd => .inl hd))
  replace hS := hS.own hT (fun d hd => by simp at hd; subst hd; exact .inr hbv5)
  clear hT
  refine W ?_
  refine WL_eff (OE_call rfl (evs1 rfl) (REnd_any [b5] b p7.1 _ hr)) rfl ?_
  rintro _ w8 ⟨rfl, hT⟩
  replace e2 := e2.up hT
  replace e5 := e5.up hT
  replace hrow4 := hrow4.up hT
  replace hrow5 := hrow5.up hT
  replace hS := hS.trans hT
  clear hT hr
  have d1 : dS1 bs = p1 := by unfold dS1; rw [← hr0]; exact h1
  have d2 : dS2 bs = p2 := by unfold dS2; rw [d1]; exact h2
  have d3 : dS3 bs = p3 := by unfold dS3; rw [d2]; exact h3
  have d4 : dS4 bs = p4 := by unfold dS4; rw [d3]; exact h4
  have d5 : dS5 bs = p5 := by unfold dS5; rw [d4]; exact h5
  have d6 : dS6 bs = p6 := by unfold dS6; rw [d5]; exact h6
  have d7 : dS7 bs = p7 := by unfold dS7; rw [d6]; exact h7
  have hE : decE bs = (if endS p7.1 = 0 then (if p4.2.length % 2 = 1 ∨ p5.2.length % 2 = 1 then 7 else if chkC (decQ bs) = 0 then 0 else 22) else endS p7.1) := by unfold decE; rw [d4, d5, d7]
  have hQ : decQ bs = ⟨p1.2, p2.2, p3.2, pairF p4.2, pairF p5.2, p6.2, p7.2⟩ := by unfold decQ; rw [d1, d2, d3, d4, d5, d6, d7]
  clear d1 d2 d3 d4 d5 d6 d7 h1 h2 h3 h4 h5 h6 h7
  generalize endS p7.1 = e7 at *
  have bad : ∀ (e : Int) (w' w3 : World), e ≠ 0 → decE bs = e → Stp [] w w3 → Stp [b2] w3 w' → (Ret (DecR w bs)) (.returned (.tuple #[.agg (crC crZ nilS nilS).toArray, .int .i64 e])) w' := fun e w' w3 h1 h2 h3 h4 => by
    have hS' := h3.own h4 (fun d hd => by simp at hd; subst hd; exact .inr hbv2)
    have hF : decF bs = crZ := by unfold decF; rw [h2, if_neg h1]
    exact .mk ⟨_, by rw [h2], fun X hX => by rw [hF]; exact ⟨_, _, rfl, nilSlv _ _, nilSlv _ _⟩, hS'⟩
  by_cases he : e7 = 0
  · rw [if_pos he] at hE
    have m4 := hrow4.slv0.max
    have m5 := hrow5.slv0.max
    have s4 := hrow4.slv0
    have s5 := hrow5.slv0
    have t4 : ((p4.2.length : Nat) : Int).tmod 2 = ((p4.2.length % 2 : Nat) : Int) := by rw [Int.tmod_eq_emod_of_nonneg (by omega)]; omega
    have t5 : ((p5.2.length : Nat) : Int).tmod 2 = ((p5.2.length % 2 : Nat) : Int) := by rw [Int.tmod_eq_emod_of_nonneg (by omega)]; omega
    by_cases hodd : p4.2.length % 2 = 1 ∨ p5.2.length % 2 = 1
    · rw [if_pos hodd] at hE
      repeat' (first | refine W1 ?_ | (exfalso; omega) | refine WL_split rfl rfl (fun hg => ?_) (fun hg => ?_) | refine WL_splitB rfl rfl (fun hg => ?_) (fun hg => ?_) | refine WC_cond rfl (fun hc => ?_) (fun hc => ?_) | refine WC_condB rfl (fun hc => ?_) (fun hc => ?_))
      all_goals
        refine WL_build (vs := []) rfl buildCr0 rfl ?_
        refine W ?_
        refine WL_eff0 (OE_storeA (us := crC crZ nilS nilS) rfl rfl rfl rfl (crC_one (q := crZ) (nilSlv [] w) (nilSlv [] w)) e2 rfl) ?_
        rintro _ w9 ⟨hT, e2'⟩
        refine W ?_
        refine WQ_retct rfl rfl rfl e2' rfl rfl ?_
        exact bad 7 _ _ (by decide) hE hS hT
    · rw [if_neg hodd] at hE
      repeat' (first | refine W1 ?_ | (exfalso; omega) | refine WL_split rfl rfl (fun hg => ?_) (fun hg => ?_) | refine WL_splitB rfl rfl (fun hg => ?_) (fun hg => ?_) | refine WC_cond rfl (fun hc => ?_) (fun hc => ?_) | refine WC_condB rfl (fun hc => ?_) (fun hc => ?_))
      refine WL_eff (OE_call rfl (evs1 rfl) (paired_any _ p4.2 _ (by omega) (by omega) s4)) rfl ?_
      rintro kc w7 ⟨hk4, hT⟩
      have hz7 := hS.size
      have o4 : ∀ d ∈ ob kc, b2 < d ∧ b5 < d := fun d hd => by have := (hk4.ob_le d hd).1; have := e2.lt; have := e5.lt; omega
      replace hk4 := hk4.lower hz7
      replace s5 := s5.up hT
      replace e2 := e2.up hT
      replace e5 := e5.up hT
      replace hS := hS.trans hT
      clear hT s4 hrow4 hrow5
      refine W ?_
      refine WL_eff (OE_call rfl (evs1 rfl) (paired_any _ p5.2 _ (by omega) (by omega) s5)) rfl ?_
      rintro kd w8 ⟨hk5, hT⟩
      have hz8 := hS.size
      have o5 : ∀ d ∈ ob kd, b2 < d ∧ b5 < d := fun d hd => by have := (hk5.ob_le d hd).1; have := e2.lt; have := e5.lt; omega
      replace hk5 := hk5.lower hz8
      replace hk4 := hk4.up hT
      replace e2 := e2.up hT
      replace e5 := e5.up hT
      replace hS := hS.trans hT
      clear hT s5
      have c4 := hk4.slv0
      have c5 := hk5.slv0
      refine W ?_
      refine WL_eff0 (OE_store1 (u := kc) rfl rfl c4.cells c4.one e5 (by simp)) ?_
      rintro _ w9 ⟨hT, e5'⟩
      have q5 : Blk w9 b5 42 (crC ⟨p1.2, p2.2, p3.2, [], [], p6.2, p7.2⟩ kc nilS) := e5'
      have ho4 : ∀ d ∈ [b5], d ∉ ob kc := fun d hd h => by simp at hd; subst hd; have := (o4 _ h).2; omega
      have ho5 : ∀ d ∈ [b5], d ∉ ob kd := fun d hd h => by simp at hd; subst hd; have := (o5 _ h).2; omega
      replace hk4 := Row.anyX' (X' := []) ((Row.anyX' (X' := [b5]) hk4).ext (X' := [b5]) hT (fun d hd => ⟨hd, ho4 d hd⟩) (fun d hd => .inl hd))
      replace hk5 := Row.anyX' (X' := []) ((Row.anyX' (X' := [b5]) hk5).ext (X' := [b5]) hT (fun d hd => ⟨hd, ho5 d hd⟩) (fun d hd => .inl hd))
      replace e2 := e2.ext hT (by simp; exact n25)
      replace hS := hS.own hT (fun d hd => by simp at hd; subst hd; exact .inr hbv5)
      clear hT e5 e5' c4 c5
      have c4 := hk4.slv0
      have c5 := hk5.slv0
      refine W ?_
      refine WL_eff0 (OE_store1 (u := kd) rfl rfl c5.cells c5.one q5 (by simp)) ?_
      rintro _ w10 ⟨hT, e5'⟩
      have e5 : Blk w10 b5 42 (crC (decQ bs) kc kd) := by rw [hQ]; exact e5'
      replace hk4 := Row.anyX' (X' := []) ((Row.anyX' (X' := [b5]) hk4).ext (X' := [b5]) hT (fun d hd => ⟨hd, ho4 d hd⟩) (fun d hd => .inl hd))
      replace hk5 := Row.anyX' (X' := []) ((Row.anyX' (X' := [b5]) hk5).ext (X' := [b5]) hT (fun d hd => ⟨hd, ho5 d hd⟩) (fun d hd => .inl hd))
      replace e2 := e2.ext hT (by simp; exact n25)
      replace hS := hS.own hT (fun d hd => by simp at hd; subst hd; exact .inr hbv5)
      clear hT q5 e5' c4 c5
      have q4 : SlV [] w10 kc (decQ bs).cnd := by rw [hQ]; exact hk4.slv0
      have q5 : SlV [] w10 kd (decQ bs).due := by rw [hQ]; exact hk5.slv0
      refine W ?_
      refine WL_eff (OE_call rfl (evs1 rfl) (CheckC_any _ (decQ bs) _ m (hF.up hS) (hS.cell (by simp) hm) ⟨_, _, rfl, q4, q5⟩)) rfl ?_
      rintro _ w11 ⟨rfl, hT⟩
      replace e2 := e2.up hT
      replace e5 := e5.up hT
      replace hk4 := hk4.up hT
      replace hk5 := hk5.up hT
      replace q4 := q4.up hT
      replace q5 := q5.up hT
      replace hS := hS.trans hT
      clear hT
      by_cases hck : chkC (decQ bs) = 0
      · rw [if_pos hck] at hE
        have hF : decF bs = decQ bs := by unfold decF; rw [if_pos hE]
        repeat' (first | refine W1 ?_ | (exfalso; omega) | refine WL_split rfl rfl (fun hg => ?_) (fun hg => ?_) | refine WL_splitB rfl rfl (fun hg => ?_) (fun hg => ?_) | refine WC_cond rfl (fun hc => ?_) (fun hc => ?_) | refine WC_condB rfl (fun hc => ?_) (fun hc => ?_))
        refine WL_eff0 (OE_storeA (us := crC (decQ bs) kc kd) rfl rfl rfl rfl (crC_one q4 q5) e2 rfl) ?_
        rintro _ w12 ⟨hT, e2'⟩
        refine W ?_
        refine WQ_retct rfl rfl rfl e2' rfl rfl ?_
        have hS' := hS.own hT (fun d hd => by simp at hd; subst hd; exact .inr hbv2)
        refine .mk ⟨_, by rw [hE], fun X hX => ?_, hS'⟩
        rw [hF]
        have x4 : SlV (b2 :: X) w11 kc (decQ bs).cnd := by
          rw [hQ]
          exact (Row.anyX' hk4).slvX (fun d hd hd' => by
            rcases List.mem_cons.1 hd with h | h
            · have := (o4 d hd').1; omega
            · have := (hk4.ob_le d hd').1; have := hX d h; omega)
        have x5 : SlV (b2 :: X) w11 kd (decQ bs).due := by
          rw [hQ]
          exact (Row.anyX' hk5).slvX (fun d hd hd' => by
            rcases List.mem_cons.1 hd with h | h
            · have := (o5 d hd').1; omega
            · have := (hk5.ob_le d hd').1; have := hX d h; omega)
        exact ⟨_, _, rfl, x4.ext hT (fun d hd => by simp at hd; simp [hd]) (fun d hd => .inl (List.mem_cons_of_mem _ hd)), x5.ext hT (fun d hd => by simp at hd; simp [hd]) (fun d hd => .inl (List.mem_cons_of_mem _ hd))⟩
      · rw [if_neg hck] at hE
        repeat' (first | refine W1 ?_ | (exfalso; omega) | refine WL_split rfl rfl (fun hg => ?_) (fun hg => ?_) | refine WL_splitB rfl rfl (fun hg => ?_) (fun hg => ?_) | refine WC_cond rfl (fun hc => ?_) (fun hc => ?_) | refine WC_condB rfl (fun hc => ?_) (fun hc => ?_))
        refine WL_build (vs := []) rfl buildCr0 rfl ?_
        refine W ?_
        refine WL_eff0 (OE_storeA (us := crC crZ nilS nilS) rfl rfl rfl rfl (crC_one (q := crZ) (nilSlv [] w) (nilSlv [] w)) e2 rfl) ?_
        rintro _ w12 ⟨hT, e2'⟩
        refine W ?_
        refine WQ_retct rfl rfl rfl e2' rfl rfl ?_
        exact bad 22 _ _ (by decide) hE hS hT
  · rw [if_neg he] at hE
    repeat' (first | refine W1 ?_ | (exfalso; omega) | refine WL_split rfl rfl (fun hg => ?_) (fun hg => ?_) | refine WL_splitB rfl rfl (fun hg => ?_) (fun hg => ?_) | refine WC_cond rfl (fun hc => ?_) (fun hc => ?_) | refine WC_condB rfl (fun hc => ?_) (fun hc => ?_))
    refine WL_build (vs := []) rfl buildCr0 rfl ?_
    refine W ?_
    refine WL_eff0 (OE_storeA (us := crC crZ nilS nilS) rfl rfl rfl rfl (crC_one (q := crZ) (nilSlv [] w) (nilSlv [] w)) e2 rfl) ?_
    rintro _ w9 ⟨hT, e2'⟩
    refine W ?_
    refine WQ_retct rfl rfl rfl e2' rfl rfl ?_
    exact bad e7 _ _ he hE hS hT
end Go.Proofs.YtgpibcgebpgmiaaDoor


/-
The law of CompileEncodes.
-/
namespace Go.Proofs.YtgpibcgebpgmiaaDoor
open Go Go.Eng Go.RowKit
set_option linter.unusedVariables false
theorem ruleE_two {r : Rul} (h : checkT r = 0) (h0 : ruleE r ≠ 0) : ruleE r = 2 := by
  have key : ∀ (x : Nd) (t : Int), mustF x t = 0 → errX x ≠ 0 → errX x = 2 := fun x t hm he => by
    unfold mustF at hm
    unfold errX at he ⊢
    split at hm
    · rename_i hn
      rw [if_pos hn] at he ⊢
      split at hm
      · simp at hm
      · rename_i h1
        rw [if_neg h1] at he ⊢
        split at he
        · rename_i h2; rw [if_pos h2]
        · exact absurd rfl he
    · simp at hm
  unfold ruleE at h0 ⊢
  rw [if_neg (by simpa using h)] at h0 ⊢
  unfold checkT at h
  split at h
  · simp at h
  · split at h
    · simp at h
    · split at h
      · contradiction
      · rename_i hm1
        have hm1' : mustF r.cnd 2 = 0 := by omega
        split at h0
        · rename_i he
          rw [if_pos he]
          exact key _ _ hm1' he
        · rename_i he
          rw [if_neg he]
          exact key _ _ h h0
theorem encC_pos (q : Cr) : 1 ≤ (encC q).length := by
  unfold encC textB
  simp only [List.length_append]
  have := uintB_pos q.name.length
  omega
theorem encC_len {q : Cr} (h : CrOk q) : (encC q).length ≤ 100000000 := by
  have l1 := textB_len h.lname
  have l2 := intB_len h.frm
  have l3 := textB_len h.lon
  have l4 := intsB_len h.cnd h.lcnd
  have l5 := intsB_len h.due h.ldue
  have l6 := textB_len h.lunl
  have l7 := textB_len h.lels
  unfold encC
  simp only [List.length_append]
  omega
theorem encodesLaw (lv : Value) (l : List Int) (cut : Int) (more : UInt8) (m : Int) (w : World) (hF : SlV [] w flds fieldNames) (hm : w.cell? ⟨1, 0, none⟩ = some (.int .i64 m)) (hs : SlV [] w lv l) (hl : ∀ a ∈ l, I64 a) (hcut : I64 cut) :
    Calls Tryd.prog 5 #[lv, .int .i64 cut, .int .u8 (more.toNat : Int)] w (Ret fun r w' => r = .bool true ∧ Stp [] w w') := by
  refine calls_of_WC3 (n := 81) Tryd.func5 rfl rfl rfl ?_
  refine W ?_
  refine WL_eff (OE_call rfl (evs1 rfl) (Rule14_any [] lv l _ hs hl (by simp))) rfl ?_
  rintro _ w1 ⟨r, ⟨ki, kd, rfl, hi, hd⟩, hz1, hz2, hck, hS⟩
  refine WL_eff (OE_call rfl (evs1 rfl) (Rule_any _ r _ ⟨_, _, rfl, hi, hd⟩ (Nat.le_trans hz1 (by decide)) (Nat.le_trans hz2 (by decide)) (hF.up hS) m (hS.cell (by simp) hm))) rfl ?_
  rintro _ w2 ⟨cv, rfl, hcv, hT⟩
  obtain ⟨k1, d1, rfl, hk1, hd1⟩ := hcv [] (by simp)
  replace hS := hS.trans hT
  clear hT hcv hi hd
  refine W ?_
  refine WL_eff OE_alloc rfl ?_
  rintro _ w3 ⟨b7, rfl, hb7, e0, hT⟩
  refine WL_eff0 (OE_storeA (us := crC (crF r) k1 d1) rfl rfl rfl rfl (crC_one hk1 hd1) e0 rfl) ?_
  rintro _ w4 ⟨hT2, e7⟩
  replace hT := hT.own hT2 (fun d hd => by simp at hd; subst hd; exact .inr hb7)
  replace hk1 := hk1.up hT
  replace hd1 := hd1.up hT
  replace hS := hS.trans hT
  clear hT hT2 e0 hb7
  by_cases he : ruleE r = 0
  · obtain ⟨hfit, hchk⟩ := rule_fit r he
    have hok := hfit.ok
    have hlen := encC_len hok
    have hpos := encC_pos (crF r)
    obtain ⟨hde, hdq⟩ := dec_enc hfit hchk
    have hdf : decF (encC (crF r)) = crF r := by unfold decF; rw [if_pos hde]; exact hdq
    have hmore := dec_more hfit more
    have hshort := fun (k : Nat) => dec_short (m := k) hfit
    rw [he]
    generalize crF r = q at *
    repeat' (first | refine W1 ?_ | (exfalso; omega) | refine WL_split rfl rfl (fun hg => ?_) (fun hg => ?_) | refine WL_splitB rfl rfl (fun hg => ?_) (fun hg => ?_) | refine WC_cond rfl (fun hc => ?_) (fun hc => ?_) | refine WC_condB rfl (fun hc => ?_) (fun hc => ?_))
    refine WL_eff (OE_call rfl (evs1 rfl) (Encode_any _ q _ hok ⟨_, _, rfl, hk1, hd1⟩)) rfl ?_
    rintro ev w5 ⟨hrow, hT⟩
    have hw4 := hS.size
    have hx := hrow.slv0
    replace e7 := e7.up hT
    replace hk1 := hk1.up hT
    replace hd1 := hd1.up hT
    replace hS := hS.trans hT
    have hW := hT
    have hz4w := hS.size
    clear hT
    refine W ?_
    refine WL_eff (OE_call rfl (evs1 rfl) (Decode_any ev _ m _ (by omega) (hF.up hS) (hS.cell (by simp) hm) hx)) rfl ?_
    rintro _ w6 ⟨cv, rfl, hcv, hT⟩
    obtain ⟨k2, d2, rfl, hk2, hd2⟩ := hcv [] (by simp)
    rw [hdf] at hk2 hd2
    rw [hdf, hde]
    replace e7 := e7.up hT
    replace hx := hx.up hT
    replace hrow := hrow.up hT
    replace hk1 := hk1.up hT
    replace hd1 := hd1.up hT
    replace hS := hS.trans hT
    replace hW := hW.trans hT
    clear hT hcv
    refine W ?_
    refine WL_eff OE_alloc rfl ?_
    rintro _ w7 ⟨b10, rfl, hb10, e0, hT⟩
    refine WL_eff0 (OE_storeA (us := crC q k2 d2) rfl rfl rfl rfl (crC_one hk2 hd2) e0 rfl) ?_
    rintro _ w8 ⟨hT2, e10⟩
    replace hT := hT.own hT2 (fun d hd => by simp at hd; subst hd; exact .inr hb10)
    replace e7 := e7.up hT
    replace hx := hx.up hT
    replace hrow := hrow.up hT
    replace hk1 := hk1.up hT
    replace hd1 := hd1.up hT
    replace hk2 := hk2.up hT
    replace hd2 := hd2.up hT
    replace hS := hS.trans hT
    replace hW := hW.trans hT
    clear hT hT2 e0 hb10
    refine W ?_
    refine WL_eff (OE_call rfl (evs1 rfl) (CheckC_any _ q _ m (hF.up hS) (hS.cell (by simp) hm) ⟨_, _, rfl, hk1, hd1⟩)) rfl ?_
    rintro _ w9 ⟨rfl, hT⟩
    rw [hchk]
    replace e7 := e7.up hT
    replace e10 := e10.up hT
    replace hx := hx.up hT
    replace hrow := hrow.up hT
    replace hk1 := hk1.up hT
    replace hd1 := hd1.up hT
    replace hk2 := hk2.up hT
    replace hd2 := hd2.up hT
    replace hS := hS.trans hT
    replace hW := hW.trans hT
    clear hT
    repeat' (first | refine W1 ?_ | (exfalso; omega) | refine WL_split rfl rfl (fun hg => ?_) (fun hg => ?_) | refine WL_splitB rfl rfl (fun hg => ?_) (fun hg => ?_) | refine WC_cond rfl (fun hc => ?_) (fun hc => ?_) | refine WC_condB rfl (fun hc => ?_) (fun hc => ?_))
    refine WL_eff (OE_call rfl (evs2 rfl rfl) (SameR_any _ _ q _ ⟨_, _, rfl, hk1, hd1⟩ ⟨_, _, rfl, hk2, hd2⟩)) rfl ?_
    rintro _ w10 ⟨rfl, hT⟩
    replace hx := hx.up hT
    replace hrow := hrow.up hT
    replace hS := hS.trans hT
    replace hW := hW.trans hT
    clear hT e7 e10 hk1 hd1 hk2 hd2
    repeat' (first | refine W1 ?_ | (exfalso; omega) | refine WL_split rfl rfl (fun hg => ?_) (fun hg => ?_) | refine WL_splitB rfl rfl (fun hg => ?_) (fun hg => ?_) | refine WC_cond rfl (fun hc => ?_) (fun hc => ?_) | refine WC_condB rfl (fun hc => ?_) (fun hc => ?_))
    refine WL_eff (OE_call rfl (evs2 rfl rfl) (Around03_any cut ((encC q).length : Int) _ (by omega) hcut)) rfl ?_
    rintro _ w11 ⟨rfl, hT⟩
    obtain ⟨k, hk, hke⟩ : ∃ k : Nat, k < (encC q).length ∧ (if cut < 0 then -(cut + 1) else cut) % ((encC q).length : Int) = (k : Int) := by
      have h1 := Int.emod_nonneg (if cut < 0 then -(cut + 1) else cut) (show ((encC q).length : Int) ≠ 0 by omega)
      have h2 := Int.emod_lt_of_pos (if cut < 0 then -(cut + 1) else cut) (show (0 : Int) < (encC q).length by omega)
      exact ⟨((if cut < 0 then -(cut + 1) else cut) % ((encC q).length : Int)).toNat, by omega, by omega⟩
    rw [hke]
    replace hx := hx.up hT
    replace hrow := hrow.up hT
    replace hS := hS.trans hT
    replace hW := hW.trans hT
    clear hT
    have hsl := hx.slc (l := 0) (r := k) (by omega) (by omega)
    rw [List.drop_zero] at hsl
    replace hsl : SlV [] w11 (slc ev 0 k 1) ((encC q).take k) := hsl
    refine WL_slice_h (r := k) rfl hx rfl rfl (by omega) rfl ?_
    refine WL_eff (OE_call rfl (evs1 rfl) (Decode_any _ ((encC q).take k) m _ (by rw [List.length_take]; omega) (hF.up hS) (hS.cell (by simp) hm) hsl)) rfl ?_
    rintro _ w12 ⟨cv, rfl, hcv, hT⟩
    rw [hshort k hk]
    obtain ⟨k3, d3, rfl, hk3, hd3⟩ := hcv [] (by simp)
    replace hrow := hrow.up hT
    replace hS := hS.trans hT
    replace hW := hW.trans hT
    clear hT hcv hsl hx
    refine W ?_
    refine WL_eff OE_alloc rfl ?_
    rintro _ w13 ⟨b12, rfl, hb12, e0, hT⟩
    refine WL_eff0 (OE_storeA (us := crC _ k3 d3) rfl rfl rfl rfl (crC_one hk3 hd3) e0 rfl) ?_
    rintro _ w14 ⟨hT2, e12⟩
    replace hT := hT.own hT2 (fun d hd => by simp at hd; subst hd; exact .inr hb12)
    replace hrow := hrow.up hT
    replace hS := hS.trans hT
    replace hW := hW.trans hT
    clear hT hT2 e0 hb12 e12 hk3 hd3
    refine W ?_
    refine WL_eff (OE_buildSlice (vs := [(0, .int .u8 (more.toNat : Int))]) rfl (buildB1 more)) rfl ?_
    rintro bn w15 hN
    have hbn : SlV (ob ev ++ []) w15 bn [more] := hN.slv (fun d hd => (hrow.ob_le d (by simpa using hd)).2) rfl rfl (by simp [maxLen])
    have hT := NewSl.stp hN
    replace hrow := hrow.up hT
    replace hS := hS.trans hT
    replace hW := hW.trans hT
    clear hT hN
    have hzW := hW.size
    refine WL_eff (OE_append (X := []) (base := w4.heap.size) rfl (by decide) rfl rfl hrow hbn (by simp only [List.length_cons, List.length_nil]; omega) (by simp only [List.length_cons, List.length_nil, maxLen]; omega) hzW) rfl ?_
    rintro av w16 ⟨hrow2, hT, -⟩
    have hz4 := hrow.ob_le
    replace hS := hS.own hT (fun d hd => .inr (by have := (hz4 d hd).1; omega))
    refine WL_eff (OE_call rfl (evs1 rfl) (Decode_any av (encC q ++ [more]) m _ (by simp only [List.length_append, List.length_cons, List.length_nil]; omega) (hF.up hS) (hS.cell (by simp) hm) hrow2.slv0)) rfl ?_
    rintro _ w17 ⟨cv, rfl, hcv, hT3⟩
    rw [hmore]
    obtain ⟨k4, d4, rfl, hk4, hd4⟩ := hcv [] (by simp)
    replace hS := hS.trans hT3
    refine W ?_
    refine WL_eff OE_alloc rfl ?_
    rintro _ w18 ⟨b14, rfl, hb14, e0, hT4⟩
    refine WL_eff0 (OE_storeA (us := crC _ k4 d4) rfl rfl rfl rfl (crC_one hk4 hd4) e0 rfl) ?_
    rintro _ w19 ⟨hT5, e14⟩
    replace hS := hS.trans (hT4.own hT5 (fun d hd => by simp at hd; subst hd; exact .inr hb14))
    repeat' (first | refine W1 ?_ | (exfalso; omega) | refine WL_split rfl rfl (fun hg => ?_) (fun hg => ?_) | refine WL_splitB rfl rfl (fun hg => ?_) (fun hg => ?_) | refine WC_cond rfl (fun hc => ?_) (fun hc => ?_) | refine WC_condB rfl (fun hc => ?_) (fun hc => ?_))
    refine WL_eff (OE_call rfl evs0 (lives15_any _ (hF.up hS))) rfl ?_
    rintro _ w20 ⟨rfl, hT6⟩
    refine W ?_
    first | refine WQ_ret1 rfl rfl ?_ | refine WQ_ret2 rfl rfl rfl ?_ | refine WQ_ret3 rfl rfl rfl rfl ?_ | refine WQ_ret0 rfl ?_ | refine WQ_end0 rfl ?_
    exact .mk ⟨rfl, hS.trans hT6⟩
  · have h2 := ruleE_two hck he
    rw [h2]
    repeat' (first | refine W1 ?_ | (exfalso; omega) | refine WL_split rfl rfl (fun hg => ?_) (fun hg => ?_) | refine WL_splitB rfl rfl (fun hg => ?_) (fun hg => ?_) | refine WC_cond rfl (fun hc => ?_) (fun hc => ?_) | refine WC_condB rfl (fun hc => ?_) (fun hc => ?_))
    refine WL_eff (OE_call rfl evs0 (lives15_any _ (hF.up hS))) rfl ?_
    rintro _ w9 ⟨rfl, hT⟩
    refine W ?_
    first | refine WQ_ret1 rfl rfl ?_ | refine WQ_ret2 rfl rfl rfl ?_ | refine WQ_ret3 rfl rfl rfl rfl ?_ | refine WQ_ret0 rfl ?_ | refine WQ_end0 rfl ?_
    exact .mk ⟨rfl, hS.trans hT⟩
end Go.Proofs.YtgpibcgebpgmiaaDoor


/-
Arguments: a slice of bytes, a byte.
-/
namespace Go.Proofs.YtgpibcgebpgmiaaDoor
open Go Go.Eng Go.RowKit Go.Proofs Go.ChangeShapes Go.WideShapes Go.Deep
set_option linter.unusedVariables false
theorem u8_of {z : Int} (h : (Lit.int .u8 z).wf = true) : ∃ b : UInt8, z = (b.toNat : Int) := by
  have h2 : 0 ≤ z ∧ z ≤ 255 := by simpa [Lit.wf, IntKind.min, IntKind.max, IntKind.signed, IntKind.bits] using h
  refine ⟨UInt8.ofNat z.toNat, ?_⟩
  rw [UInt8.toNat_ofNat']
  omega
set_option maxRecDepth 100000 in
theorem open_u8 {H : Type} {enc : TypeId × Value → H} {w : World} {base : Nat} {spare : Nat → Bool} {held : Bool} {r : Reach} {b0 : Nat} {v : Value} {d : DataW H} {p : List MemPlace} (hv : Value.okWide Tryd.prog w r b0 5 v) (h : DataW.Trod enc Tryd.prog w base spare held 5 v d p) : ∃ b : UInt8, v = .int .u8 (b.toNat : Int) := by
  obtain ⟨z, rfl, _, _, hw⟩ := open_int Tryd.underlying5 hv h
  obtain ⟨b, rfl⟩ := u8_of hw
  exact ⟨b, rfl⟩
end Go.Proofs.YtgpibcgebpgmiaaDoor

