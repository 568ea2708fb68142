import Derived.Test.YtddopcmemiheaaaCar14
namespace Go.Proofs.Ytddopcmemiheaaa
open Go Go.Eng Go.RowKit
set_option linter.unusedVariables false

theorem papersOf_dist (l : List Int) : Dist (papersOf l) := by
  unfold Dist papersOf
  rw [List.pairwise_map]
  refine List.pairwise_lt_range.imp (fun {i j} hij => ?_)
  simp only [papAt]
  omega
theorem papersOf_len (l : List Int) : (papersOf l).length ≤ 8 := by simp [papersOf]; omega
theorem papersOf_mem {l : List Int} {p : Pap} (h : p ∈ papersOf l) : 0 ≤ p.attempt ∧ p.attempt < 24 ∧ 0 ≤ p.party ∧ p.party < 4 ∧ 0 ≤ p.carrier ∧ p.carrier < 3 ∧ 739616 ≤ p.sent ∧ p.sent < 739656 := by
  unfold papersOf at h
  obtain ⟨i, hi, rfl⟩ := List.mem_map.1 h
  simp only [List.mem_range] at hi
  obtain ⟨h0, h1⟩ := around_lo (l.getD i 0) 1000000 (by omega)
  simp only [papAt]
  omega
theorem waysOf_mem {ps : List Pap} {l : List Int} {y : Wy} (h : y ∈ waysOf ps l) : 0 ≤ y.kind ∧ y.kind < 6 ∧ 0 ≤ y.days ∧ y.days < 9 ∧ 0 ≤ y.party ∧ y.party < 4 := by
  unfold waysOf at h
  obtain ⟨i, hi, he⟩ := List.mem_filterMap.1 h
  obtain ⟨h0, h1⟩ := around_lo (l.getD i 0) 1000000 (by omega)
  unfold wayAt at he
  dsimp only at he
  split at he
  · cases he; dsimp only; omega
  · cases he
theorem wayP_days {ws : List Wy} {lo hi : Int} (h : ∀ y ∈ ws, lo ≤ y.days ∧ y.days ≤ hi) (h1 : lo ≤ 1 ∧ 1 ≤ hi) (z : Int) : lo ≤ (wayP ws z).days ∧ (wayP ws z).days ≤ hi := by
  unfold wayP
  cases hf : ws.find? (fun x => decide (x.attempt = z)) with
  | some y => exact h y (List.mem_of_find?_eq_some hf)
  | none => exact h1
theorem wayO_days {ws : List Wy} {lo hi : Int} (h : ∀ y ∈ ws, lo ≤ y.days ∧ y.days ≤ hi) (h1 : lo ≤ 1 ∧ 1 ≤ hi) (z : Int) : lo ≤ (wayOf ws z).days ∧ (wayOf ws z).days ≤ hi := by
  unfold wayOf
  cases hf : ws.find? (fun x => decide (x.attempt = z)) with
  | some y => exact h y (List.mem_of_find?_eq_some hf)
  | none => exact h1
/-- what the laws ask of papers and ways before they are run -/
structure Fit (ps : List Pap) (ws : List Wy) : Prop where
  dist : Dist ps
  len : ps.length ≤ 9
  sent : ∀ p ∈ ps, 0 ≤ p.sent ∧ p.sent ≤ 4000000
  days : ∀ y ∈ ws, 0 ≤ y.days ∧ y.days ≤ 4000000
theorem run_any (X Y Z : List Nat) (u v : Value) (ps : List Pap) (ws : List Wy) (till : Int) (w : World) (hX : ∀ b ∈ X, b < w.heap.size) (hps : SlV Y w u ps) (hws : SlV Z w v ws) (hf : Fit ps ws) :
    Calls Try.prog 14 #[u, v, .int .i64 till] w (Ret fun r w' => ∃ a b, r = .tuple #[a, b] ∧ SlV X w' a (runD till ws ps) ∧ SlV X w' b (runR till ws ps) ∧ Stp [] w w') := by
  have h := runPre X Y Z u v ps ws till w hX hps hws hf.len (fun p hp => by
    have h1 := hf.sent p hp
    have h2 := wayP_days hf.days (by omega) p.attempt
    unfold I64; omega)
  refine h.mono ?_
  rintro r w' ⟨z, rfl, a, b, ds, rs, rfl, hd, hr, ha, hb, hS⟩
  rw [sorts_runD hf.dist hd] at ha
  rw [sorts_runR hf.dist hr] at hb
  exact ⟨_, rfl, a, b, rfl, ha, hb, hS⟩
theorem run_ref (X Y Z : List Nat) (u v : Value) (ps : List Pap) (ws : List Wy) (till : Int) (w : World) (hX : ∀ b ∈ X, b < w.heap.size) (hps : SlV Y w u ps) (hws : SlV Z w v ws) (hf : Fit ps ws) :
    Calls Try.prog 15 #[u, v, .int .i64 till] w (Ret fun r w' => ∃ a b, r = .tuple #[a, b] ∧ SlV X w' a (runD till ws ps) ∧ SlV X w' b (runR till ws ps) ∧ Stp [] w w') :=
  runRef X Y Z u v ps ws till w hX hps hws (by have := hf.len; omega) (fun p hp => by
    have h1 := hf.sent p hp
    have h2 := wayO_days hf.days (by omega) p.attempt
    unfold I64; omega)
theorem fit_made (a b : List Int) : Fit (papersOf a) (waysOf (papersOf a) b) where
  dist := papersOf_dist a
  len := by have := papersOf_len a; omega
  sent := fun p hp => by have := papersOf_mem hp; omega
  days := fun y hy => by have := waysOf_mem hy; omega
end Go.Proofs.Ytddopcmemiheaaa
