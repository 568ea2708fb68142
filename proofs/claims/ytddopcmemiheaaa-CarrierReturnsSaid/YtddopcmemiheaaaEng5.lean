/-
The walk engine, part 5: stores into rows, slices of slices, clear, literals, results that lie in memory, equality of structs.
-/
import Derived.Test.YtddopcmemiheaaaEng4
namespace Go.Eng
open Go Go.RowKit Go.Proofs
set_option linter.unusedVariables false

/-! ### lists of lists of one length -/
theorem flatten_len {k : Nat} : ∀ (l : List (List Value)), (∀ c ∈ l, c.length = k) → l.flatten.length = l.length * k
  | [], _ => by simp
  | c :: r, h => by
    simp only [List.flatten_cons, List.length_append, List.length_cons, Nat.succ_mul]
    rw [flatten_len r (fun c hc => h c (by simp [hc])), h c (by simp)]
    omega
theorem flatten_set {k : Nat} : ∀ (css : List (List Value)), (∀ c ∈ css, c.length = k) → ∀ (i : Nat), i < css.length → ∀ (cs : List Value),
    (css.set i cs).flatten = css.flatten.take (i * k) ++ cs ++ css.flatten.drop (i * k + k)
  | [], _, i, hi, _ => absurd hi (Nat.not_lt_zero _)
  | c :: r, hk, 0, _, cs => by
    have hc := hk c (by simp)
    simp [hc]
  | c :: r, hk, i + 1, hi, cs => by
    have hc := hk c (by simp)
    have ih := flatten_set r (fun c hc => hk c (by simp [hc])) i (by simpa using hi) cs
    simp only [List.set_cons_succ, List.flatten_cons, ih, Nat.succ_mul]
    rw [List.take_append, List.drop_append, hc]
    rw [List.take_of_length_le (l := c) (by omega), show c.drop (i * k + k + k) = [] from List.drop_eq_nil_of_le (by omega)]
    rw [show i * k + k - k = i * k by omega, show i * k + k + k - k = i * k + k by omega]
    simp [List.append_assoc]
theorem flatten_set1 {k : Nat} : ∀ (css : List (List Value)), (∀ c ∈ css, c.length = k) → ∀ (i : Nat) (hi : i < css.length) (j : Nat) (hj : j < k) (u : Value),
    (css.set i (css[i].set j u)).flatten = css.flatten.set (i * k + j) u
  | [], _, i, hi, _, _, _ => absurd hi (Nat.not_lt_zero _)
  | c :: r, hk, 0, _, j, hj, u => by
    have hc := hk c (by simp)
    simp [hc, hj]
  | c :: r, hk, i + 1, hi, j, hj, u => by
    have hc := hk c (by simp)
    have ih := flatten_set1 r (fun c hc => hk c (by simp [hc])) i (by simpa using hi) j hj u
    simp only [List.set_cons_succ, List.flatten_cons, List.getElem_cons_succ, ih, Nat.succ_mul]
    rw [List.set_append, if_neg (by omega), hc]
    rw [show i * k + k + j - k = i * k + j by omega]

section row
variable {α : Type} [GoRep α] {X : List Nat} {w w' : World} {base T : Nat} {v : Value} {xs : List α}
variable {P : Program} {n : Nat} {e : Env} {d : Option Nat} {ty : TypeId} {pos : String} {af : Array Edge} {g : Option (Nat × Bool)}

theorem Row.isSome (h : Row X w base T v xs) {i : Nat} (hi : i < xs.length) : ∃ q l c, v = .slice (some ⟨q, 0, none⟩) l c := by
  obtain ⟨css, hl, hr, ho⟩ := h
  rcases ho.2 with ⟨rfl, hn⟩ | ⟨q, cap, cur, rfl, hb, hg, hnc, hcm, hcs, ht⟩
  · omega
  · exact ⟨_, _, _, rfl⟩

/-- an element of a row of one's own is written -/
theorem OE_storeEl {i k : Nat} {t : TypeId} {x y : Operand} {u : Value} {y' : α} [hsz : Siz P t k] (hx : ev e x = some (.pointer (some (elAddr v i k 0)))) (hy : ev e y = some u) (hk : k = GoRep.k α)
    (hr' : GoRep.rep (ob v ++ X) w y' u.cells.toList) (hrow : Row X w base T v xs) (hX : ∀ b ∈ X, b < base) (hi : i < xs.length) :
    OE P n ⟨d, .store t x y, ty, pos, af, g⟩ e w (fun _ w' => Row X w' base T v (xs.set i y') ∧ Stp (ob v) w w') := by
  have hrow0 := hrow
  obtain ⟨css, hl, hr, ho⟩ := hrow
  have hlen : ∀ c ∈ css, c.length = GoRep.k α := by
    intro c hc
    obtain ⟨q, hq, rfl⟩ := List.getElem_of_mem hc
    exact GoRep.len (hr q (by omega) hq)
  rcases ho.2 with ⟨rfl, hn⟩ | ⟨q, cap, cur, rfl, hb, hg, hnc, hcm, hcs, ht⟩
  · omega
  · subst hk
    have hul : u.cells.toList.length = GoRep.k α := GoRep.len hr'
    have hfit : i * GoRep.k α + u.cells.toList.length ≤ cur.size := by
      rw [hul, hcs, ← Nat.succ_mul]
      exact Nat.mul_le_mul_right _ (by omega)
    have hst := run_storeCells_at P q (i * GoRep.k α) T u.cells.toList 0 cur w hg (by simpa using hfit) (GoRep.one hr')
    simp only [Nat.add_zero] at hst
    have hus : u.cells.size = GoRep.k α := by simpa using hul
    have hSt : Stp [q] w (w.setRow q (cur.toList.take (i * GoRep.k α) ++ u.cells.toList ++ cur.toList.drop (i * GoRep.k α + u.cells.toList.length)).toArray) := setRow_stp _ _ _
    refine OE_skip (w' := w.setRow q (cur.toList.take (i * GoRep.k α) ++ u.cells.toList ++ cur.toList.drop (i * GoRep.k α + u.cells.toList.length)).toArray) (fun a ha => ?_) ⟨⟨css.set i u.cells.toList, by simp [hl], fun j hj hj' => ?_, ?_, .inr ⟨q, cap, _, by simp, hb, setRow_heap w q cur _ T (0, 0) hg, by simpa using hnc, hcm, ?_, ?_⟩⟩, hSt⟩
    · have hel : elAddr (.slice (some ⟨q, 0, none⟩) xs.length cap) i (GoRep.k α) 0 = ⟨q, i * GoRep.k α, none⟩ := by simp [elAddr]
      rw [hel] at hx
      simp [execOp, ha.ev hx, ha.ev hy, Instr.storeAt, Instr.sureAddr, storeVar, Siz.run, hus, hst]
    · have hS1 : ∀ b ∈ [q], b ∈ ob (.slice (some ⟨q, 0, none⟩) xs.length cap) ++ X := by simp [ob]
      by_cases hij : i = j
      · subst hij
        simp only [List.getElem_set_self]
        exact GoRep.ext hr' hSt hS1 (fun b hb => .inl hb)
      · simp only [List.getElem_set_ne hij]
        exact GoRep.ext (hr j (by simpa using hj) (by simpa using hj')) hSt hS1 (fun b hb => .inl hb)
    · rw [flatten_set css hlen i (by omega)]
      have h1 := ho.1
      simp only [List.length_append, List.length_take, List.length_drop, List.length_set, hul, h1]
      have : (i + 1) * GoRep.k α ≤ xs.length * GoRep.k α := Nat.mul_le_mul_right _ (by omega)
      rw [Nat.succ_mul] at this
      omega
    · simp only [List.size_toArray, List.length_append, List.length_take, List.length_drop, Array.length_toList, hul, hcs]
      rw [hul, hcs] at hfit
      omega
    · rw [flatten_set css hlen i (by omega), ← ht]
      have h2 : (i + 1) * GoRep.k α ≤ xs.length * GoRep.k α := Nat.mul_le_mul_right _ (by omega)
      rw [Nat.succ_mul] at h2
      have h3 : i * GoRep.k α ≤ cur.toList.length := by simp [hcs]; exact Nat.le_trans (by omega) (Nat.mul_le_mul_right _ hnc)
      simp only [List.length_set, hul]
      rw [List.take_append, List.take_append, List.take_take, List.take_take, List.drop_take]
      simp only [List.length_append, List.length_take, hul]
      rw [Nat.min_eq_left h3, List.take_of_length_le (l := u.cells.toList) (by rw [hul]; omega)]
      rw [Nat.min_eq_right (by omega : i * GoRep.k α ≤ xs.length * GoRep.k α), Nat.min_eq_left (by omega : i * GoRep.k α ≤ xs.length * GoRep.k α)]

/-- one cell of an element of a row of one's own is written -/
theorem OE_storeF {β : Type} [Flat β] {xs : List β} {i j k : Nat} {t : TypeId} {x y : Operand} {u : Value} {y' : β} [hsz : Siz P t 1] (hx : ev e x = some (.pointer (some (elAddr v i k j)))) (hy : ev e y = some u) (hk : k = Flat.k β)
    (hu : u.cells.toList = [u]) (h1 : u.oneCell' = true) (hrow : Row X w base T v xs) (hi : i < xs.length) (hj : j < Flat.k β) (hr' : Flat.enc y' = (Flat.enc xs[i]).set j u) :
    OE P n ⟨d, .store t x y, ty, pos, af, g⟩ e w (fun _ w' => Row X w' base T v (xs.set i y') ∧ Stp (ob v) w w') := by
  obtain ⟨css, hl, hr, ho⟩ := hrow
  have hlen : ∀ c ∈ css, c.length = GoRep.k β := by
    intro c hc
    obtain ⟨q, hq, rfl⟩ := List.getElem_of_mem hc
    exact GoRep.len (hr q (by omega) hq)
  have hkk : GoRep.k β = Flat.k β := rfl
  rcases ho.2 with ⟨rfl, hn⟩ | ⟨q, cap, cur, rfl, hb, hg, hnc, hcm, hcs, ht⟩
  · omega
  · subst hk
    have hlt : i * Flat.k β + j < xs.length * Flat.k β := by
      have : (i + 1) * Flat.k β ≤ xs.length * Flat.k β := Nat.mul_le_mul_right _ (by omega)
      rw [Nat.succ_mul] at this
      omega
    have hfit : i * Flat.k β + j + [u].length ≤ cur.size := by
      rw [hcs, hkk]
      have := Nat.mul_le_mul_right (Flat.k β) hnc
      simp only [List.length_singleton]
      omega
    have hst := run_storeCells_at P q (i * Flat.k β + j) T [u] 0 cur w hg (by simpa using hfit) (by simpa using h1)
    simp only [Nat.add_zero] at hst
    have hus : u.cells.size = 1 := by rw [← Array.length_toList, hu]; rfl
    have hSt : Stp [q] w (w.setRow q (cur.toList.take (i * Flat.k β + j) ++ [u] ++ cur.toList.drop (i * Flat.k β + j + [u].length)).toArray) := setRow_stp _ _ _
    have hcsi : css[i]'(by omega) = Flat.enc xs[i] := hr i hi (by omega)
    refine OE_skip (w' := w.setRow q (cur.toList.take (i * Flat.k β + j) ++ [u] ++ cur.toList.drop (i * Flat.k β + j + [u].length)).toArray) (fun a ha => ?_) ⟨⟨css.set i ((css[i]'(by omega)).set j u), by simp [hl], fun m hm hm' => ?_, ?_, .inr ⟨q, cap, _, by simp, hb, setRow_heap w q cur _ T (0, 0) hg, by simpa using hnc, hcm, ?_, ?_⟩⟩, hSt⟩
    · have hel : elAddr (.slice (some ⟨q, 0, none⟩) xs.length cap) i (Flat.k β) j = ⟨q, i * Flat.k β + j, none⟩ := by simp [elAddr]
      rw [hel] at hx
      simp [execOp, ha.ev hx, ha.ev hy, Instr.storeAt, Instr.sureAddr, storeVar, Siz.run, hus, hu, hst]
    · by_cases hij : i = m
      · subst hij
        simp only [List.getElem_set_self]
        show _ = Flat.enc y'
        rw [hcsi, hr']
      · simp only [List.getElem_set_ne hij]
        exact hr m (by simpa using hm) (by simpa using hm')
    · rw [flatten_set1 css hlen i (by omega) j hj]
      simpa using ho.1
    · simp only [List.size_toArray, List.length_append, List.length_take, List.length_drop, Array.length_toList]
      omega
    · rw [flatten_set1 css hlen i (by omega) j hj, ← ht]
      have hsz : i * Flat.k β + j < cur.toList.length := by simp; simp at hfit; omega
      simp only [List.length_set, hkk]
      rw [show cur.toList.take (i * Flat.k β + j) ++ [u] ++ cur.toList.drop (i * Flat.k β + j + [u].length) = cur.toList.set (i * Flat.k β + j) u by
        rw [List.set_eq_take_append_cons_drop, if_pos hsz]; simp]
      rw [List.take_set]

/-! ### slices of slices -/
def slc (v : Value) (l h k : Nat) : Value :=
  match v with
  | .slice a _ c => .slice (if c = l then a else a.map (·.add (l * k))) (h - l) (c - l)
  | v => v

theorem SlV.slc (h : SlV X w v xs) {l r : Nat} (hl : l ≤ r) (hr : r ≤ xs.length) : SlV X w (slc v l r (GoRep.k α)) ((xs.take r).drop l) := by
  obtain ⟨p, c, rfl, hlen, hm, hn, hc⟩ := h
  have hlen2 : ((xs.take r).drop l).length = r - l := by simp; omega
  refine ⟨if c = l then p else p.map (·.add (l * GoRep.k α)), c - l, by simp [Eng.slc, hlen2], by omega, by omega, ?_, fun i hi => ?_⟩
  · intro hp
    split at hp
    · omega
    · cases p with
      | none => have := hn rfl; omega
      | some a => simp at hp
  · have hi2 : l + i < xs.length := by omega
    obtain ⟨b, o, cs, rfl, hb, hx, hrep, hcell⟩ := hc (l + i) hi2
    refine ⟨b, o + l * GoRep.k α, cs, ?_, hb, hx, by simpa using hrep, fun j u hu => ?_⟩
    · rw [if_neg (by omega)]
      simp [Addr.add_lit]
    · have := hcell j u hu
      rw [show o + l * GoRep.k α + i * GoRep.k α + j = o + (l + i) * GoRep.k α + j by rw [Nat.add_mul]; omega]
      exact this

theorem PR_slice_lh {t el k : Nat} {x lo hi : Operand} {l r : Nat} {a b : Int} [hu : Und P t (.slice el)] [hk : Siz P el k] {w₀ : World} (hx : ev e x = some v) (hs : SlV X w₀ v xs) (ha : ev e lo = some (.int .i64 a)) (hb : ev e hi = some (.int .i64 b))
    (hal : a = (l : Int)) (hbr : b = (r : Int)) (hlr : l ≤ r) (hrx : r ≤ xs.length) : PR P n ⟨d, .slice t x (some lo) (some hi) none, ty, pos, af, g⟩ e w (slc v l r k) := by
  refine ⟨fun act ha' => ?_⟩
  obtain ⟨p, c, rfl, hlen, hm, hn, hc⟩ := hs
  subst hal; subst hbr
  simp [execOp, ha'.ev hx, ha'.ev ha, ha'.ev hb, Instr.sliceAt, run_underlying hu.h, Instr.slice, Instr.sliceBounds, Instr.sliceBound, asIntOf, Siz.run, Eng.slc, hlr, show r ≤ c by omega]
theorem PR_slice_h {t el k : Nat} {x hi : Operand} {r : Nat} {b : Int} [hu : Und P t (.slice el)] [hk : Siz P el k] {w₀ : World} (hx : ev e x = some v) (hs : SlV X w₀ v xs) (hb : ev e hi = some (.int .i64 b))
    (hbr : b = (r : Int)) (hrx : r ≤ xs.length) : PR P n ⟨d, .slice t x none (some hi) none, ty, pos, af, g⟩ e w (slc v 0 r k) := by
  refine ⟨fun act ha' => ?_⟩
  obtain ⟨p, c, rfl, hlen, hm, hn, hc⟩ := hs
  subst hbr
  simp [execOp, ha'.ev hx, ha'.ev hb, Instr.sliceAt, run_underlying hu.h, Instr.slice, Instr.sliceBounds, Instr.sliceBound, asIntOf, Siz.run, Eng.slc, show r ≤ c by omega]
theorem PR_slice_l {t el k : Nat} {x lo : Operand} {l : Nat} {a : Int} [hu : Und P t (.slice el)] [hk : Siz P el k] {w₀ : World} (hx : ev e x = some v) (hs : SlV X w₀ v xs) (ha : ev e lo = some (.int .i64 a))
    (hal : a = (l : Int)) (hlx : l ≤ xs.length) : PR P n ⟨d, .slice t x (some lo) none none, ty, pos, af, g⟩ e w (slc v l xs.length k) := by
  refine ⟨fun act ha' => ?_⟩
  obtain ⟨p, c, rfl, hlen, hm, hn, hc⟩ := hs
  subst hal
  simp [execOp, ha'.ev hx, ha'.ev ha, Instr.sliceAt, run_underlying hu.h, Instr.slice, Instr.sliceBounds, Instr.sliceBound, asIntOf, Siz.run, Eng.slc, hlx]

theorem flatten_take {k : Nat} : ∀ (css : List (List Value)), (∀ c ∈ css, c.length = k) → ∀ (i : Nat), (css.take i).flatten = css.flatten.take (i * k)
  | [], _, i => by simp
  | c :: r, hk, 0 => by simp
  | c :: r, hk, i + 1 => by
    have hc := hk c (by simp)
    have ih := flatten_take r (fun c hc => hk c (by simp [hc])) i
    simp only [List.take_succ_cons, List.flatten_cons, ih, Nat.succ_mul]
    rw [List.take_append, hc, List.take_of_length_le (l := c) (by omega), show i * k + k - k = i * k by omega]

theorem ob_slc (v : Value) (r k : Nat) : ob (slc v 0 r k) = ob v := by
  cases v <;> try rfl
  rename_i a l c
  cases a with
  | none => simp [slc, ob]
  | some a => by_cases hc : c = 0 <;> simp [slc, ob, hc, Addr.add]

/-- a row is cut -/
theorem Row.cut (h : Row X w base T v xs) {r : Nat} (hr : r ≤ xs.length) : Row X w base T (slc v 0 r (GoRep.k α)) (xs.take r) := by
  obtain ⟨css, hl, hrep, ho⟩ := h
  have hlen : ∀ c ∈ css, c.length = GoRep.k α := by
    intro c hc
    obtain ⟨q, hq, rfl⟩ := List.getElem_of_mem hc
    exact GoRep.len (hrep q (by omega) hq)
  refine ⟨css.take r, by simp [hl], fun i hi hi' => ?_, ?_, ?_⟩
  · rw [ob_slc]
    simp only [List.getElem_take]
    exact hrep i (by simp at hi; omega) (by simp at hi'; omega)
  · rw [flatten_len _ (fun c hc => hlen c (List.mem_of_mem_take hc))]
    simp [hl]
  · rcases ho.2 with ⟨rfl, hn⟩ | ⟨q, cap, cur, rfl, hb, hg, hnc, hcm, hcs, ht⟩
    · exact .inl ⟨by simp [Eng.slc]; omega, by simp; omega⟩
    · refine .inr ⟨q, cap, cur, ?_, hb, hg, by simp; omega, hcm, hcs, ?_⟩
      · simp [Eng.slc, Addr.add, List.length_take, Nat.min_eq_left hr]
      · rw [flatten_take css hlen, ← ht, List.take_take, List.length_take, Nat.min_eq_left hr]
        congr 1
        have := Nat.mul_le_mul_right (GoRep.k α) hr
        omega

/-- the tail of a row is cleared; what stands before it stays -/
theorem OE_clearTail {x : Operand} {t : Nat} {z : Value} {i : Nat} [hu : Und P t (.slice T)] [hz : Zer P T z] (hzs : z.cells.size = GoRep.k α) (hz1 : ∀ c ∈ z.cells.toList, c.oneCell' = true) (hpos : 0 < GoRep.k α) (hx : ev e x = some (slc v i xs.length (GoRep.k α))) (hrow : Row X w base T v xs) (hi : i ≤ xs.length) :
    OE P n ⟨d, .call { callee := .builtin .clear, args := #[x], argTypes := #[t] }, ty, pos, af, g⟩ e w (fun _ w' => Row X w' base T (slc v 0 i (GoRep.k α)) (xs.take i) ∧ Stp (ob v) w w') := by
  have hcut := hrow.cut hi
  by_cases hlt : i < xs.length
  case neg =>
    have hie : i = xs.length := by omega
    refine OE_value (v := .tuple #[]) (w' := w) (fun a ha => ?_) ⟨hcut, Stp.refl _ _⟩
    obtain ⟨css, hl, hr, ho⟩ := hrow
    have hv : ∃ p c, v = .slice p xs.length c := by
      rcases ho.2 with ⟨rfl, hn⟩ | ⟨q, cap, cur, rfl, _⟩
      · exact ⟨none, 0, by rw [hn]⟩
      · exact ⟨_, _, rfl⟩
    obtain ⟨p, c, rfl⟩ := hv
    have hs : slc (.slice p xs.length c) i xs.length (GoRep.k α) = .slice (if c = i then p else p.map (·.add (i * GoRep.k α))) 0 (c - i) := by simp [slc, hie]
    rw [hs] at hx
    simp only [execOp, resolve, List.map_toArray, List.map_cons, List.map_nil, ha.ev hx]
    cases hpp : (if c = i then p else p.map (·.add (i * GoRep.k α))) <;> simp [invoke, builtin, Builtin.clear_, run_underlying hu.h]
  case pos =>
    obtain ⟨css, hl, hr, ho⟩ := hrow
    have hlen : ∀ c ∈ css, c.length = GoRep.k α := by
      intro c hc
      obtain ⟨q, hq, rfl⟩ := List.getElem_of_mem hc
      exact GoRep.len (hr q (by omega) hq)
    rcases ho.2 with ⟨rfl, hn⟩ | ⟨q, cap, cur, rfl, hb, hg, hnc, hcm, hcs, ht⟩
    · omega
    · have hs : slc (.slice (some ⟨q, 0, none⟩) xs.length cap) i xs.length (GoRep.k α) = .slice (some ⟨q, i * GoRep.k α, none⟩) (xs.length - i) (cap - i) := by
        simp [slc, show ¬ cap = i by omega, Addr.add_lit]
      rw [hs] at hx
      have hzc : (Builtin.zeroCells z.cells (xs.length - i)).toList.length = (xs.length - i) * GoRep.k α := by rw [Array.length_toList, size_zeroCells, hzs]
      have hfit : i * GoRep.k α + (Builtin.zeroCells z.cells (xs.length - i)).toList.length ≤ cur.size := by
        rw [hzc, hcs, ← Nat.add_mul]
        exact Nat.mul_le_mul_right _ (by omega)
      have h1 : ∀ c ∈ (Builtin.zeroCells z.cells (xs.length - i)).toList, c.oneCell' = true := by
        intro c hc
        simp only [Builtin.zeroCells, Array.toList_map, List.mem_map] at hc
        obtain ⟨j, _, rfl⟩ := hc
        have hlt : j % z.cells.size < z.cells.size := Nat.mod_lt _ (by omega)
        rw [getElem!_pos z.cells _ hlt]
        exact hz1 _ (by simp)
      have hst := run_storeCells_at P q (i * GoRep.k α) T (Builtin.zeroCells z.cells (xs.length - i)).toList 0 cur w hg (by simpa using hfit) h1
      simp only [Nat.add_zero] at hst
      have hSt : Stp [q] w (w.setRow q (cur.toList.take (i * GoRep.k α) ++ (Builtin.zeroCells z.cells (xs.length - i)).toList ++ cur.toList.drop (i * GoRep.k α + (Builtin.zeroCells z.cells (xs.length - i)).toList.length)).toArray) := setRow_stp _ _ _
      refine OE_value (v := .tuple #[]) (w' := w.setRow q (cur.toList.take (i * GoRep.k α) ++ (Builtin.zeroCells z.cells (xs.length - i)).toList ++ cur.toList.drop (i * GoRep.k α + (Builtin.zeroCells z.cells (xs.length - i)).toList.length)).toArray) (fun a ha => ?_) ⟨⟨css.take i, by simp [hl], fun j hj hj' => ?_, ?_, .inr ⟨q, cap, _, ?_, hb, setRow_heap w q cur _ T (0, 0) hg, by simp; omega, hcm, ?_, ?_⟩⟩, hSt⟩
      · have hne : xs.length - i ≠ 0 := by omega
        obtain ⟨m, hm⟩ : ∃ m, xs.length - i = m + 1 := ⟨xs.length - i - 1, by omega⟩
        rw [hm] at hx hst
        simp only [execOp, resolve, List.map_toArray, List.map_cons, List.map_nil, ha.ev hx]
        simp [invoke, builtin, Builtin.clear_, run_underlying hu.h, Zer.run, hst]
        rw [hm]
      · rw [ob_slc]
        simp only [List.getElem_take]
        exact GoRep.ext (hr j (by simp at hj; omega) (by simp at hj'; omega)) hSt (by simp [ob]) (fun b hb => .inl hb)
      · rw [flatten_len _ (fun c hc => hlen c (List.mem_of_mem_take hc))]
        simp [hl]
      · simp [Eng.slc, Addr.add, List.length_take, Nat.min_eq_left hi]
      · simp only [List.size_toArray, List.length_append, List.length_take, List.length_drop, Array.length_toList]
        simp only [Array.length_toList] at hfit
        omega
      · rw [flatten_take css hlen, ← ht, List.take_take, List.length_take, Nat.min_eq_left hi]
        have h3 : i * GoRep.k α ≤ cur.toList.length := by simp; omega
        rw [List.append_assoc, List.take_append_of_le_length (by simp; omega), List.take_take]
        congr 1
        have := Nat.mul_le_mul_right (GoRep.k α) hi
        omega
end row

section misc
variable {P : Program} {n : Nat} {e : Env} {w : World} {d : Option Nat} {ty : TypeId} {pos : String} {af : Array Edge} {g : Option (Nat × Bool)}
/-! ### literals -/
def evParts (e : Env) : List (Nat × Operand) → Option (List (Nat × Value))
  | [] => some []
  | (i, x) :: r => match ev e x, evParts e r with
    | some v, some l => some ((i, v) :: l)
    | _, _ => none
theorem Has.parts {a : Act} (ha : Has n e a) : ∀ {l : List (Nat × Operand)} {vs : List (Nat × Value)}, evParts e l = some vs → l.map (fun (p : Nat × Operand) => (p.1, a.eval p.2)) = vs
  | [], vs, h => by simp [evParts] at h; simp [h]
  | (i, x) :: r, vs, h => by
    simp only [evParts] at h
    cases hx : Eng.ev e x with
    | none => simp [hx] at h
    | some v =>
      cases hr : evParts e r with
      | none => simp [hx, hr] at h
      | some l =>
        simp [hx, hr] at h
        subst h
        simp [ha.ev hx, Has.parts ha hr]
theorem PR_build {t : TypeId} {l : List (Nat × Operand)} {vs : List (Nat × Value)} {u : Value} (hv : evParts e l = some vs) (hb : ∀ w, (Instr.build t vs.toArray).run P w = .ok u w) : PR P n ⟨d, .build t l.toArray, ty, pos, af, g⟩ e w u :=
  ⟨fun a ha => by
    have h1 := ha.parts hv
    have h2 : l.toArray.map (fun (x : Nat × Operand) => match x with | (i, x) => (i, a.eval x)) = vs.toArray := by
      rw [List.map_toArray]
      exact congrArg List.toArray h1
    simp only [execOp]
    rw [h2]
    simp [hb]⟩
/-- a slice literal: a new block -/
def NewSl (w : World) (T : TypeId) (len : Nat) (cs : List Value) (v : Value) (w' : World) : Prop := ∃ b, v = .slice (some ⟨b, 0, none⟩) len len ∧ w.heap.size ≤ b ∧ Blk w' b T cs ∧ Stp [] w w'
theorem OE_buildSlice {t T len : Nat} {l : List (Nat × Operand)} {vs : List (Nat × Value)} {cs : List Value} (hv : evParts e l = some vs)
    (hb : ∀ w : World, (Instr.buildSlice t len vs.toArray).run P w = .ok (.slice (some ⟨w.heap.size, 0, none⟩) len len) (w.alloc (.cells cs.toArray T))) :
    OE P n ⟨d, .buildSlice t len l.toArray, ty, pos, af, g⟩ e w (NewSl w T len cs) :=
  OE_value (v := .slice (some ⟨w.heap.size, 0, none⟩) len len) (w' := w.alloc (.cells cs.toArray T)) (fun a ha => by
    have h1 := ha.parts hv
    have h2 : l.toArray.map (fun (x : Nat × Operand) => match x with | (i, x) => (i, a.eval x)) = vs.toArray := by
      rw [List.map_toArray]
      exact congrArg List.toArray h1
    simp only [execOp]
    rw [h2]
    simp [hb w]) ⟨w.heap.size, rfl, Nat.le_refl _, heap_alloc_new w _, Stp.alloc _ _ _⟩
/-- a new slice of flat data reads as its list -/
theorem NewSl.slv {β : Type} [Flat β] {X : List Nat} {T len : Nat} {cs : List Value} {v : Value} {w' : World} {ys : List β} (h : NewSl w T len cs v w') (hX : ∀ b ∈ X, b < w.heap.size) (hl : len = ys.length) (hc : cs = ys.flatMap Flat.enc) (hm : ys.length ≤ maxLen) : SlV X w' v ys := by
  obtain ⟨b, rfl, hb, hblk, hS⟩ := h
  subst hl
  refine ⟨some ⟨b, 0, none⟩, ys.length, rfl, Nat.le_refl _, hm, fun h => by simp at h, fun i hi => ⟨b, 0, Flat.enc ys[i], rfl, hblk.lt, fun hx => by have := hX b hx; omega, rfl, fun j u hu => ?_⟩⟩
  subst hc
  refine hblk.cell ?_
  have hk : ∀ c ∈ ys.map Flat.enc, c.length = Flat.k β := by
    intro c hc
    obtain ⟨y, _, rfl⟩ := List.mem_map.1 hc
    exact Flat.len y
  have := flatten_at (ys.map Flat.enc) hk i (by simpa using hi) j u (by simpa using hu)
  rw [List.flatMap_def, Nat.zero_add]
  exact this
/-- it is a row of one's own too -/
theorem NewSl.row {β : Type} [Flat β] {X : List Nat} {T len base : Nat} {cs : List Value} {v : Value} {w' : World} {ys : List β} (h : NewSl w T len cs v w') (hbase : base ≤ w.heap.size) (hl : len = ys.length) (hc : cs = ys.flatMap Flat.enc) (hm : ys.length ≤ maxLen) : Row X w' base T v ys := by
  obtain ⟨b, rfl, hb, hblk, hS⟩ := h
  subst hl
  subst hc
  have hk : ∀ c ∈ ys.map Flat.enc, c.length = Flat.k β := by
    intro c hc
    obtain ⟨y, _, rfl⟩ := List.mem_map.1 hc
    exact Flat.len y
  have hfl : (ys.flatMap Flat.enc).length = ys.length * Flat.k β := by rw [List.flatMap_def, flatten_len _ hk, List.length_map]
  refine ⟨ys.map Flat.enc, by simp, fun i hi hi' => (by simp : (ys.map Flat.enc)[i] = Flat.enc ys[i]), ?_, .inr ⟨b, ys.length, (ys.flatMap Flat.enc).toArray, rfl, by omega, hblk, Nat.le_refl _, hm, by rw [List.size_toArray]; exact hfl, ?_⟩⟩
  · rw [← List.flatMap_def]; exact hfl
  · rw [← List.flatMap_def]
    exact List.take_of_length_le (by show (ys.flatMap Flat.enc).length ≤ _; rw [hfl]; exact Nat.le_refl _)

/-! ### equality of structs -/
theorem PR_eqlS {x y : Operand} {t u : TypeId} {p q : Value} {c : Prop} [Decidable c] (hx : ev e x = some p) (hy : ev e y = some q) (hg : ∀ w, (eqGuard .eql t x y p q).run P w = .ok () w) (h : ∀ w, (binOp .eql t p q).run P w = .ok (.bool (decide c)) w) :
    PR P n ⟨d, .binOp .eql t x y u, ty, pos, af, g⟩ e w (.bool (decide c)) := ⟨fun a ha => by simp [execOp, ha.ev hx, ha.ev hy, h, hg]⟩
theorem PR_neqS {x y : Operand} {t u : TypeId} {p q : Value} {c : Prop} [Decidable c] (hx : ev e x = some p) (hy : ev e y = some q) (hg : ∀ w, (eqGuard .neq t x y p q).run P w = .ok () w) (h : ∀ w, (binOp .neq t p q).run P w = .ok (.bool (decide (¬ c))) w) :
    PR P n ⟨d, .binOp .neq t x y u, ty, pos, af, g⟩ e w (.bool (decide (¬ c))) := ⟨fun a ha => by simp only [execOp, ha.ev hx, ha.ev hy]; simp [h, hg]⟩
end misc

section post
variable {P : Program} {n : Nat} {fn : Func} {R : Ending → World → Prop} {e : Env} {w : World} {Q : Exit → Act → World → Prop}
theorem loadVar_blk {t b T m : Nat} {D : TypeDesc} {cs : List Value} [hu : Und P t D] (hA : aggB D = true) [hs : Siz P t m] (hb : Blk w b T cs) (hl : cs.length = m) : (loadVar t ⟨b, 0, none⟩).run P w = .ok (.agg cs.toArray) w := by
  have := run_loadCells_list (P := P) w ⟨b, 0, none⟩ cs (fun j v h => by rw [Addr.add_lit, Nat.zero_add]; exact hb.cell h)
  rw [hl] at this
  simp [loadVar, Und.isAgg, hA, Siz.run, this]
theorem WQ_retc {t b T T' m : Nat} {D : TypeDesc} {cs : List Value} (hr : fn.results = #[.cell t T']) [hu : Und P T' D] (hA : aggB D = true) [hs : Siz P T' m] (ht : look e t = some (.pointer (some ⟨b, 0, none⟩))) (hb : Blk w b T cs) (hl : cs.length = m)
    (h : R (.returned (.agg cs.toArray)) w) : WQ n (bodyPost P fn R) .ret e w :=
  ⟨fun a ha => ⟨ha.defers, .agg cs.toArray, by
    have h1 := ha.vals _ _ ht
    rw [Array.getD_eq_getD_getElem?] at h1
    simp [results, hr, h1, asAddr, loadVar_blk hA hb hl], h⟩⟩
theorem WQ_retct {t b T T' m s : Nat} {D : TypeDesc} {cs : List Value} {v : Value} (hr : fn.results = #[.cell t T', .tmp s]) [hu : Und P T' D] (hA : aggB D = true) [hs : Siz P T' m] (ht : look e t = some (.pointer (some ⟨b, 0, none⟩))) (hb : Blk w b T cs) (hl : cs.length = m)
    (hv : look e s = some v) (h : R (.returned (.tuple #[.agg cs.toArray, v])) w) : WQ n (bodyPost P fn R) .ret e w :=
  ⟨fun a ha => ⟨ha.defers, .tuple #[.agg cs.toArray, v], by
    have h1 := ha.vals _ _ ht
    have h2 := ha.vals _ _ hv
    rw [Array.getD_eq_getD_getElem?] at h1 h2
    simp [results, hr, h1, h2, asAddr, loadVar_blk hA hb hl], h⟩⟩
end post
theorem OE_pr {P : Program} {n : Nat} {o : Oper} {e : Env} {w : World} {v : Value} (h : PR P n o e w v) : OE P n o e w (fun u w' => u = v ∧ w' = w) := OE_value h.h ⟨rfl, rfl⟩
end Go.Eng
