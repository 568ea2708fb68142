
/-
slices.Chunk at n = 2: the closure's contract for a range over it (kit page 'a range over a function'), and Chunk itself.
-/
import Derived.RangeFuncBox
import Derived.RangeFuncLeaves
import Derived.RangeFuncNested
import Derived.RangeFuncBound
import Derived.RangeFuncCalls
import Derived.Shelf.Abstract
import Derived.Shelf.RegionOpen
import Derived.BigRegionIn
import Derived.WalkKit
import Derived.OwnWalkIn
import Derived.TacticsInMore
import Derived.LoopNIn
import Derived.LoopIn
import Derived.Maps.AppendAt
import Derived.Test.YtgpibcgebpgmiaaDoorProg
namespace Go.Proofs
open Go.RowKit Go.Shelf
attribute [local go_sem] Oper.semAt_some
/-- what a round keeps: what lay below n₀, and the two boxes of the closure -/
def Tryd.KpC (n₀ Bs Bn : Nat) (W W' : World) : Prop := Below n₀ W W' ∧ W'.cell? ⟨Bs, 0, none⟩ = W.cell? ⟨Bs, 0, none⟩ ∧ W'.cell? ⟨Bn, 0, none⟩ = W.cell? ⟨Bn, 0, none⟩
set_option maxRecDepth 100000 in
set_option maxHeartbeats 2000000 in
theorem Tryd.chunk1_in (F : Fence) (n : Nat) (h7 : F.fn 113) (hro : F.round = none) (hn : 1 ≤ n) (l Bs Bn n₀ b off m cap : Nat) (hreach : m ≤ 1000000) (hcap : 2 * m ≤ cap) (J Jx : List (Fin m) → World → Prop)
    (hJd : ∀ s W, J s W → J s W.drew)
    (hY : ∀ pre x W, J pre W → pre.length < m → YieldAt F (n - 1) Tryd.prog l #[.slice (some ⟨b, off + 2 * x.1, none⟩) 2 2] W fun e W' =>
      (e = .returned (.bool true) ∧ J (pre ++ [x]) W' ∧ Tryd.KpC n₀ Bs Bn W W') ∨ (e = .returned (.bool false) ∧ Jx (pre ++ [x]) W'))
    (W : World) (hcs0 : W.cell? ⟨Bs, 0, none⟩ = some (.slice (some ⟨b, off, none⟩) (2 * m) cap)) (hcn0 : W.cell? ⟨Bn, 0, none⟩ = some (.int .i64 2)) (h0 : J [] W) :
    CallsIn F n Tryd.prog 113 #[.func (.yield l) #[] #[], .pointer (some ⟨Bs, 0, none⟩), .pointer (some ⟨Bn, 0, none⟩)] W fun e W' => (∃ v, e = .returned v) ∧
      ((∃ ys, ys = List.finRange m ∧ J ys W') ∨ (∃ pre, True ∧ Jx pre W')) := by
  refine callsIn_of_wp Tryd.func113 rfl h7 ?_ hro
  simp only [Tryd.ntmps113, List.size_toArray, List.length_cons, List.length_nil, Nat.reduceAdd, Nat.reduceSub, Array.replicate_succ, Array.replicate_zero, List.push_toArray, List.append_toArray, List.nil_append, List.cons_append]
  gi_wp2
  gi_loopw [4] (fun i wr => ∃ k : Nat, k ≤ m ∧ i = .int .i64 ((2 * k : Nat) : Int) ∧ J ((List.finRange m).take k) wr ∧ wr.cell? ⟨Bs, 0, none⟩ = some (.slice (some ⟨b, off, none⟩) (2 * m) cap) ∧ wr.cell? ⟨Bn, 0, none⟩ = some (.int .i64 2))
    (fun i _ => 2 * m - (intOf i).toNat)
  case atStart => exact ⟨0, Nat.zero_le _, rfl, h0, hcs0, hcn0⟩
  case round =>
    obtain ⟨k, hk, rfl, hJs, hcs', hcn'⟩ := hrel
    by_cases hlt : k < m
    · have htk : (List.finRange m).take k ++ [⟨k, hlt⟩] = (List.finRange m).take (k + 1) := by
        rw [List.take_add_one, List.getElem?_eq_getElem (by simp; exact hlt)]
        simp
      obtain ⟨fn, tmps, assign, body, hy, hR⟩ := hY _ ⟨k, hlt⟩ wr.drew (hJd _ _ hJs) (by rw [List.length_take, List.length_finRange]; omega)
      dsimp only at hy
      gi_wp2
      have hmin : (if ((2 * m - 2 * k : Nat) : Int) < 2 then ((2 * m - 2 * k : Nat) : Int) else 2) = 2 := if_neg (by omega)
      gi_region
      all_goals (try simp only [hmin])
      all_goals gi_wp2
      all_goals
        refine hR.mono ?_
        rintro e W3 (⟨rfl, hJ3, hk3, hks, hkn⟩ | ⟨rfl, hJx3⟩)
        · have hcs3 : W3.cell? ⟨Bs, 0, none⟩ = some (.slice (some ⟨b, off, none⟩) (2 * m) cap) := hks.trans hcs'
          have hcn3 : W3.cell? ⟨Bn, 0, none⟩ = some (.int .i64 2) := hkn.trans hcn'
          gi_wp2
          go_roundw
          case rel => exact ⟨k + 1, by omega, by simp; omega, by rw [← htk]; exact hJ3, hcs3, hcn3⟩
          case measure => simp [intOf]; omega
        · gi_wp2
          refine bodyPost_ret (results_none rfl _ _ _) rfl ?_
          exact ⟨⟨_, rfl⟩, .inr ⟨_, trivial, hJx3⟩⟩
    · obtain rfl : k = m := by omega
      gi_wp2
      go_end0
      exact ⟨⟨_, rfl⟩, .inl ⟨_, rfl, by rw [List.take_of_length_le (by simp)] at hJs; exact hJs⟩⟩
set_option maxRecDepth 100000 in
set_option maxHeartbeats 1000000 in
/-- .. at an empty slice: no round -/
theorem Tryd.chunk1_nil (F : Fence) (n : Nat) (h7 : F.fn 113) (hro : F.round = none) (l Bs Bn cap : Nat) (p : Option Addr) (J : List (Fin 0) → World → Prop)
    (W : World) (hcs0 : W.cell? ⟨Bs, 0, none⟩ = some (.slice p 0 cap)) (h0 : J [] W) :
    CallsIn F n Tryd.prog 113 #[.func (.yield l) #[] #[], .pointer (some ⟨Bs, 0, none⟩), .pointer (some ⟨Bn, 0, none⟩)] W fun e W' => (∃ v, e = .returned v) ∧ J [] W' := by
  refine callsIn_of_wp Tryd.func113 rfl h7 ?_ hro
  simp only [Tryd.ntmps113, List.size_toArray, List.length_cons, List.length_nil, Nat.reduceAdd, Nat.reduceSub, Array.replicate_succ, Array.replicate_zero, List.push_toArray, List.append_toArray, List.nil_append, List.cons_append]
  gi_wp2
  gi_loopw [4] (fun i wr => i = .int .i64 0 ∧ J [] wr ∧ wr.cell? ⟨Bs, 0, none⟩ = some (.slice p 0 cap)) (fun _ _ => 0)
  case atStart => exact ⟨rfl, h0, hcs0⟩
  case round =>
    obtain ⟨rfl, hJs, hcs'⟩ := hrel
    gi_wp2
    go_end0
    exact ⟨⟨_, rfl⟩, hJs⟩
set_option maxRecDepth 100000 in
set_option maxHeartbeats 1000000 in
theorem Tryd.chunk_in (F : Fence) (n : Nat) (h5 : F.fn 85) (hro : F.round = none) (a : Option Addr) (len cap : Nat) (w : World) :
    CallsIn F n Tryd.prog 85 #[.slice a len cap, .int .i64 2] w fun e w' => e = .returned (.func (.func 113) #[] #[.pointer (some ⟨w.heap.size, 0, none⟩), .pointer (some ⟨w.heap.size + 1, 0, none⟩)]) ∧ w' = (w.alloc (.cells #[.slice a len cap] 22)).alloc (.cells #[.int .i64 2] 3) := by
  refine callsIn_of_wp Tryd.func85 rfl h5 ?_ hro
  simp only [Tryd.ntmps85, List.size_toArray, List.length_cons, List.length_nil, Nat.reduceAdd, Nat.reduceSub, Array.replicate_succ, Array.replicate_zero, List.push_toArray, List.append_toArray, List.nil_append, List.cons_append]
  have hc := (Boxed.new (w.alloc (.cells #[.slice a len cap] 22)) 3 (.int .i64 2)).cell
  rw [World.size_alloc] at hc
  gi_wp2
  go_ret
  exact ⟨rfl, rfl⟩
/-- **slices.Chunk(l, 2), the list even**: chunks 0, 1, .., m - 1 -/
theorem Tryd.chunk_stops (F : Fence) (n : Nat) (h7 : F.fn 113) (hro : F.round = none) (hn : 1 ≤ n) (Bs Bn n₀ m cap : Nat) (p : Option Addr) (b off : Nat) (hp : 0 < m → p = some ⟨b, off, none⟩) (hreach : m ≤ 1000000) (hcap : 2 * m ≤ cap)
    (w : World) (hBs : Bs < w.heap.size) (hBn : Bn < w.heap.size) (hcs : w.cell? ⟨Bs, 0, none⟩ = some (.slice p (2 * m) cap)) (hcn : w.cell? ⟨Bn, 0, none⟩ = some (.int .i64 2)) :
    SeqStopsK F n Tryd.prog 113 #[.pointer (some ⟨Bs, 0, none⟩), .pointer (some ⟨Bn, 0, none⟩)] (fun x : Fin m => #[Value.slice (some ⟨b, off + 2 * x.1, none⟩) 2 2]) (Tryd.KpC n₀ Bs Bn) (fun ys => ys = List.finRange m)
      (fun _ => True) m w := fun l J Jx W hW hJ _ hY h0 => by
  have hcs' := (hW.cell (p := ⟨Bs, 0, none⟩) hBs).trans hcs
  have hcn' := (hW.cell (p := ⟨Bn, 0, none⟩) hBn).trans hcn
  have hJd : ∀ s W', J s W' → J s W'.drew := fun s W' h => hJ s W' W'.drew none h ⟨rfl, rfl, rfl, Nat.le_refl _, fun _ _ _ => rfl⟩ (fun r e => by cases e)
  by_cases hm : 0 < m
  · obtain rfl := hp hm
    exact Tryd.chunk1_in F n h7 hro hn l Bs Bn n₀ b off m cap hreach hcap J Jx hJd hY W hcs' hcn' h0
  · obtain rfl : m = 0 := by omega
    exact (Tryd.chunk1_nil F n h7 hro l Bs Bn cap p J W hcs' h0).mono fun e W' ⟨he, hj⟩ => ⟨he, .inl ⟨_, rfl, hj⟩⟩
end Go.Proofs

