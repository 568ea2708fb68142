/-
Merged by program out of own texts: Eng1, Eng2, Ty, Eng3, Eng4, Eng5, Eng6, Eng9a, Eng9, Nd0, Typ1, Eng10, Typ2, Typ3, Typ4, Typ5, Typ6, Typ7, Typ8, Typ9, Typ10, Cmp1, Car0, Car1.
-/
import Derived.WalkKit
import Derived.WalkSpells
import Derived.WalkLawsBesides
import Derived.Shelf.Abstract
import Derived.Orders
import Derived.Test.YtjdjdoefppebkaaGreatDoorRows
import Derived.Laws.StructEq
import Derived.Laws.Small
import Derived.MapKept
import Derived.ChangeKeysEq
set_option linter.unusedVariables false
set_option linter.unusedSimpArgs false
namespace Go
abbrev Xa:=@List.forall_mem_cons
abbrev Xb:=@Nat.lt_of_lt_of_le
abbrev Xc:=@Option.some.injEq
abbrev Xd:=@List.mem_cons
abbrev Xe:=@List.length_cons
abbrev Xf:=@Bool.and_eq_true
abbrev Xg:=@Nat.le_trans
abbrev Xh:=@List.length_append
abbrev Xi:=@List.length_nil
abbrev Xj:=@List.getElem_of_mem
abbrev Xk:=@Nat.le_refl
abbrev Xl:=@List.take_succ_eq_append_getElem
abbrev Xm:=@List.getElem_mem
abbrev Xn:=@List.take_of_length_le
abbrev Xo:=@Nat.zero_le
abbrev Xp:=@List.mem_singleton
abbrev Xq:=@List.take_append_drop
abbrev Xr:=@List.append_assoc
abbrev Xs:=@Nat.not_lt_zero
abbrev Xt:=@List.mem_append
abbrev Xu:=@List.length_take
abbrev Xv:=@List.not_mem_nil
abbrev Xw:=@List.take_length
abbrev Xx:=@List.length_eq_zero_iff
abbrev Xy:=@List.map_cons
abbrev Xz:=@List.getElem_append_right
abbrev XA:=@List.drop_eq_getElem_cons
abbrev XB:=@List.getElem_append_left
abbrev XC:=@List.all_eq_true
abbrev XD:=@Nat.le_of_ble_eq_true
abbrev XE:=@Nat.mul_le_mul_right
abbrev XF:=@Bool.false_eq_true
abbrev XG:=@List.filter_append
abbrev XH:=@List.mem_cons_of_mem
abbrev XI:=@List.cons_append
abbrev XJ:=@Option.some.inj
abbrev XK:=@List.nil_append
abbrev XL:=@List.append_nil
abbrev XM:=@List.any_eq_true
abbrev XN:=@List.Perm.append_right
abbrev XO:=@Nat.min_eq_left
abbrev XP:=@Nat.eq_of_beq_eq_true
abbrev XQ:=@List.map_nil
abbrev XR:=@List.take_take
abbrev XS:=@List.flatten_cons
abbrev XT:=@List.foldl_cons
abbrev XU:=@Bool.eq_iff_iff
abbrev XV:=@List.getD_cons_zero
abbrev XW:=@Nat.succ_mul
abbrev XX:=@List.drop_eq_nil_of_le
abbrev XY:=@List.perm_append_singleton
abbrev XZ:=@Bool.beq_eq_decide_eq
abbrev X0:=@List.length_filter_le
abbrev X1:=@List.take_left'
abbrev X2:=@Nat.lt_or_ge
abbrev X3:=@Nat.lt_of_succ_le
abbrev X4:=@Array.length_toList
abbrev X5:=@Option.bind_some
abbrev X6:=@List.take_append
abbrev X7:=@List.drop_length
abbrev X8:=@Nat.zero_add
abbrev X9:=@List.mem_filter
abbrev Yaa:=@List.size_toArray
abbrev Yab:=@List.flatMap_cons
abbrev Yac:=@Int.le_refl
abbrev Yad:=@List.pairwise_append
abbrev Yae:=@List.pairwise_iff_getElem
abbrev Yaf:=@List.take_succ_cons
abbrev Yag:=@List.mem_map_of_mem
abbrev Yah:=@List.filter_eq_self
abbrev Yai:=@List.all_cons
abbrev Yaj:=@List.length_set
abbrev Yak:=@List.cons.injEq
abbrev Yal:=@List.map_append
abbrev Yam:=@Int.emod_lt_of_pos
abbrev Yan:=@List.getElem_take
abbrev Yao:=@List.mem_map
abbrev Yap:=@List.map_toArray
abbrev Yaq:=@List.ext_getElem
abbrev Yar:=@List.perm_middle
abbrev Yas:=@List.mem_of_mem_take
abbrev Yat:=@Int.emod_nonneg
abbrev Yau:=@Option.map_some
abbrev Yav:=@List.range_succ
abbrev Yaw:=@List.length_map
abbrev Yax:=@List.takeWhile_cons
abbrev Yay:=@Nat.lt_of_le_of_lt
abbrev Yaz:=@List.pairwise_cons
abbrev YaA:=@List.mem_cons_self
abbrev YaB:=@Int.toNat_natCast
abbrev YaC:=@Nat.add_assoc
abbrev YaD:=@Bool.false_or
abbrev YaE:=@List.length_drop
abbrev YaF:=@List.flatMap_nil
abbrev YaG:=@List.mem_flatMap
abbrev YaH:=@List.getElem_map
abbrev YaI:=@List.map_map
abbrev YaJ:=@Bool.or_eq_true
abbrev YaK:=@List.drop_take
abbrev YaL:=@List.drop_drop
abbrev YaM:=@List.Perm.refl
abbrev YaN:=@List.mem_range
end Go
namespace Go.Eng
open Go Go.RowKit Go.Proofs
abbrev Env:=List (Nat×Value)
def look:Env→Nat→Option Value
 | [],_=>none
 | (k,v) :: r,t=>bif Nat.beq k t then some v else look r t
def ev (e:Env):Operand→Option Value
 | .tmp t=>look e t
 | .const v=>some v
 | .global g=>some (.pointer (some ⟨g,0,none⟩))
 | .func f=>some (.func (.func f) #[] #[])
structure Has (n:Nat) (e:Env) (a:Act):Prop where
 defers:a.defers=[]
 size:a.tmps.size=n
 vals:∀ t v,look e t=some v→a.tmps.getD t undef=v
section basics
variable {n:Nat} {e:Env} {a:Act}
theorem Has.ev {x:Operand} {v:Value} (h:Has n e a) (hx:ev e x=some v):a.eval x=v:=by
 cases x with
 | tmp t=>exact h.vals t v hx
 | const c=>simpa [Eng.ev,Act.eval] using hx
 | global g=>simpa [Eng.ev,Act.eval] using hx
 | func f=>simpa [Eng.ev,Act.eval] using hx
theorem Z0P (d:Nat) (v:Value) (e:Env) (t:Nat):look ((d,v) :: e) t=if d=t then some v else look e t:=by
 simp only [look]
 by_cases h:d=t
 subst h;simp
 · have:Nat.beq d t=false:=by
    cases hb:Nat.beq d t with
    | false=>rfl
    | true=>exact absurd (XP hb) h
   simp [this,h]
theorem Has.put {d:Nat} {v:Value} (h:Has n e a) (hd:Nat.blt d n=true):Has n ((d,v) :: e) (a.put (some d) v):=by
 have hlt:d<a.tmps.size:=by rw [h.size];exact XD hd
 refine ⟨h.defers,by simp [Act.put,h.size],fun t u hu=>?_⟩
 rw [Z0P] at hu
 simp only [Act.put]
 by_cases hdt:d=t
 subst hdt
 simp at hu
 subst hu
 simp [hlt]
 rw [if_neg hdt] at hu
 have:=h.vals t u hu
 simpa [Array.getElem?_setIfInBounds_ne hdt] using this
theorem Has.weak {e':Env} (h:Has n e a) (hs:∀ t v,look e' t=some v→look e t=some v):Has n e' a:=
 ⟨h.defers,h.size,fun t v hv=>h.vals t v (hs t v hv)⟩
def Sub:Env→Env→Prop
 | [],_=>True
 | (k,v) :: r,e=>look e k=some v∧Sub r e
theorem Sub.look {e' e:Env} (h:Sub e' e):∀ t v,Eng.look e' t=some v→Eng.look e t=some v:=by
 induction e' with
 | nil=>intro t v hv;simp [Eng.look] at hv
 | cons p r ih=>
   intro t v hv
   obtain ⟨d,u⟩:=p
   rw [Z0P] at hv
   by_cases hd:d=t
   subst hd;simp at hv;subst hv;exact h.1
   rw [if_neg hd] at hv;exact ih h.2 t v hv
theorem Has.sub {e':Env} (h:Has n e a) (hs:Sub e' e):Has n e' a:=h.weak hs.look
end basics
section judge
variable (P:Program) (n:Nat)
structure WQ (n:Nat) (Q:Exit→Act→World→Prop) (x:Exit) (e:Env) (w:World):Prop where
 h:∀ a,Has n e a→Q x a w
structure WC (c:Code) (Q:Exit→Act→World→Prop) (e:Env) (w:World):Prop where
 h:∀ a,Has n e a→c.wp P Q a w
structure WL (ops:Array Oper) (Q:Exit→Act→World→Prop) (l:List Oper) (e:Env) (w:World):Prop where
 h:∀ a,Has n e a→wpList P ops Q l a w
end judge
section rules
variable {P:Program} {n:Nat} {Q:Exit→Act→World→Prop} {e:Env} {w:World} {ops:Array Oper} {rest:List Oper}
theorem Z1c {x y:Code} (h:WC P n x (Exit.then (fun a w=>y.wp P Q a w) Q) e w):WC P n (x.seq y) Q e w:=
 ⟨fun a ha=>wp_seq (h.h a ha)⟩
theorem Z0p {y:Code} (h:WC P n y Q e w):WQ n (Exit.then (fun a w=>y.wp P Q a w) Q) .normal e w:=⟨fun a ha=>h.h a ha⟩
theorem J0 {N:Act→World→Prop} (h:WQ n Q .ret e w):WQ n (Exit.then N Q) .ret e w:=⟨fun a ha=>h.h a ha⟩
theorem Z00 {N:Act→World→Prop} {i:Nat} (h:WQ n Q (.exit i) e w):WQ n (Exit.then N Q) (.exit i) e w:=⟨fun a ha=>h.h a ha⟩
theorem Z1T {i:Nat} (h:WQ n Q .normal e w):WQ n (Exit.inBlock i Q) .normal e w:=⟨fun a ha=>h.h a ha⟩
theorem Z01 {i:Nat} (h:WQ n Q .ret e w):WQ n (Exit.inBlock i Q) .ret e w:=⟨fun a ha=>h.h a ha⟩
theorem JN {i:Nat} (h:WQ n Q .normal e w):WQ n (Exit.inBlock i Q) (.exit i) e w:=by
 refine ⟨fun a ha=>?_⟩
 simp only [Exit.inBlock,if_true]
 exact h.h a ha
theorem Z0t {i j:Nat} (hij:Nat.beq i j=false) (h:WQ n Q (.exit i) e w):WQ n (Exit.inBlock j Q) (.exit i) e w:=by
 refine ⟨fun a ha=>?_⟩
 simp only [Exit.inBlock]
 rw [if_neg (Nat.ne_of_beq_eq_false hij)]
 exact h.h a ha
theorem Z0Y (h:WQ n Q .normal e w):WC P n .skip Q e w:=⟨fun a ha=>wp_skip (h.h a ha)⟩
theorem Z1u (h:WQ n Q .ret e w):WC P n .ret Q e w:=⟨fun a ha=>wp_ret (h.h a ha)⟩
theorem Z32 {i:Nat} (h:WQ n Q (.exit i) e w):WC P n (.exit i) Q e w:=⟨fun a ha=>wp_exit (h.h a ha)⟩
theorem Z1U {i:Nat} {c:Code} (h:WC P n c (Exit.inBlock i Q) e w):WC P n (.block i c) Q e w:=⟨fun a ha=>wp_block (h.h a ha)⟩
theorem J1 {c:Operand} {x y:Code} (hc:ev e c=some (.bool true)) (h:WC P n x Q e w):WC P n (.cond c x y) Q e w:=
 ⟨fun a ha=>wp_cond_true (ha.ev hc) (h.h a ha)⟩
theorem ZS {c:Operand} {x y:Code} (hc:ev e c=some (.bool false)) (h:WC P n y Q e w):WC P n (.cond c x y) Q e w:=
 ⟨fun a ha=>wp_cond_false (ha.ev hc) (h.h a ha)⟩
theorem Z97 {c:Operand} {x y:Code} {p:Prop} [Decidable p] (hc:ev e c=some (.bool (decide p))) (ht:p→WC P n x Q e w) (hf:¬ p→WC P n y Q e w):WC P n (.cond c x y) Q e w:=
 ⟨fun a ha=>wp_cond_split (ha.ev hc) (fun h=>(ht (of_decide_eq_true h)).h a ha) (fun h=>(hf (of_decide_eq_false h)).h a ha)⟩
theorem Z76 {c:Operand} {x y:Code} {t:Bool} (hc:ev e c=some (.bool t)) (ht:t=true→WC P n x Q e w) (hf:t=false→WC P n y Q e w):WC P n (.cond c x y) Q e w:=
 ⟨fun a ha=>wp_cond_split (ha.ev hc) (fun h=>(ht h).h a ha) (fun h=>(hf h).h a ha)⟩
theorem Jm {id:Nat} {l:List Oper} (h:WL P n l.toArray Q l e w):WC P n (.region id l.toArray false) Q e w:=
 ⟨fun a ha=>wp_region_lit (h.h a ha)⟩
theorem Z0h (h:WQ n Q .normal e w):WL P n ops Q [] e w:=⟨fun a ha=>wpList_nil (h.h a ha)⟩
theorem Z3A {x y:Code} {σ:Type} (env:σ→Env) (I:σ→World→Prop)
 (h:WC P n x (Exit.then (fun a w=>∃ s,Has n (env s) a∧I s w) Q) e w) (k:∀ s w,I s w→WC P n y Q (env s) w):WC P n (x.seq y) Q e w:=
 ⟨fun a ha => wp_seq (wp_mono (h.h a ha) (fun ex a w hq => by
   cases ex with
   | normal=>obtain ⟨s,h1,h2⟩:=hq;exact (k s w h2).h a h1
   | _=>exact hq))⟩
theorem Z33 {x y:Code} {σ:Type} (env:σ→Env) (I:σ→World→Prop)
 (h:WC P n x (Exit.then (fun a w=>∃ s,Has n (env s) a∧I s w) Q) e w) (k:∀ s w,I s w→WC P n y Q (env s) w):WC P n x (Exit.then (fun a w=>y.wp P Q a w) Q) e w:=
 ⟨fun a ha => wp_mono (h.h a ha) (fun ex a w hq => by
   cases ex with
   | normal=>obtain ⟨s,h1,h2⟩:=hq;exact (k s w h2).h a h1
   | _=>exact hq)⟩
theorem Z6h {x y:Code} {σ:Type} {i:Nat} (env:σ→Env) (I:σ→World→Prop)
 (h:WC P n x (Exit.inBlock i (Exit.then (fun a w=>∃ s,Has n (env s) a∧I s w) Q)) e w) (k:∀ s w,I s w→WC P n y Q (env s) w):WC P n x (Exit.inBlock i (Exit.then (fun a w=>y.wp P Q a w) Q)) e w:=
 ⟨fun a ha => wp_mono (h.h a ha) (fun ex a w hq => by
   cases ex with
   | normal=>obtain ⟨s,h1,h2⟩:=hq;exact (k s w h2).h a h1
   | exit j=>
     simp only [Exit.inBlock] at hq ⊢
     split
     rename_i hj
     rw [if_pos hj] at hq
     obtain ⟨s,h1,h2⟩:=hq
     exact (k s w h2).h a h1
     rename_i hj
     rw [if_neg hj] at hq
     exact hq
   | _=>exact hq)⟩
theorem ZJ {σ:Type} {env:σ→Env} {I:σ→World→Prop} (s:σ) (hs:Sub (env s) e) (hI:I s w):WQ n (Exit.then (fun a w=>∃ s,Has n (env s) a∧I s w) Q) .normal e w:=
 ⟨fun a ha=>⟨s,ha.sub hs,hI⟩⟩
theorem Zh {c:Code} {σ:Type} (env:σ→Env) (I:σ→World→Prop) (μ:σ→Nat) (s₀:σ) (hs:Sub (env s₀) e) (hI:I s₀ w)
 (round:∀ s w,I s w→WC P n c (Exit.then (fun a' w'=>∃ s',Has n (env s') a'∧I s' w'∧μ s' < μ s) Q) (env s) w):WC P n (.loop c) Q e w:=by
 refine ⟨fun a ha=>?_⟩
 have key:∀ (k:Nat) (s:σ) (a:Act) (w:World),μ s≤k→Has n (env s) a→I s w→(Code.loop c).wp P Q a w:=by
  intro k s a w _ h1 h2
  refine wp_loop (fun a' w'=>∃ s',Has n (env s') a'∧I s' w') (fun a' w'=>Classical.epsilon (fun m=>∃ s',Has n (env s') a'∧I s' w'∧μ s'=m∧∀ s'',Has n (env s'') a'→I s'' w'→m≤μ s'')) ⟨s,h1,h2⟩ ?_
  intro a w ⟨s',h1',h2'⟩
  have hex:∀ a w,(∃ s',Has n (env s') a∧I s' w)→∃ m,∃ s',Has n (env s') a∧I s' w∧μ s'=m∧∀ s'',Has n (env s'') a→I s'' w→m≤μ s'':=by
   intro a w ⟨s',h1',h2'⟩
   have:∀ m,∀ s',μ s'=m→Has n (env s') a→I s' w→∃ m,∃ s',Has n (env s') a∧I s' w∧μ s'=m∧∀ s'',Has n (env s'') a→I s'' w→m≤μ s'':=by
    intro m
    induction m using Nat.strongRecOn with
    | _ m ih=>
      intro s' hm h1 h2
      by_cases hmin:∀ s'',Has n (env s'') a→I s'' w→m≤μ s''
      exact ⟨m,s',h1,h2,hm,hmin⟩
      have:∃ s'',Has n (env s'') a∧I s'' w∧μ s''<m:=by
       refine Classical.byContradiction fun hno=>hmin fun s'' h1 h2=>?_
       exact Nat.le_of_not_lt fun hlt=>hno ⟨s'',h1,h2,hlt⟩
      obtain ⟨s'',h1',h2',hlt⟩:=this
      exact ih _ hlt s'' rfl h1' h2'
   exact this _ s' rfl h1' h2'
  obtain ⟨s₁,g1,g2,g3,g4⟩:=Classical.epsilon_spec (hex a w ⟨s',h1',h2'⟩)
  have hr:=(round s₁ w g2).h a g1
  refine wp_mono hr (fun ex a' w' hq=>?_)
  cases ex with
  | normal=>
    obtain ⟨s₂,k1,k2,k3⟩:=hq
    refine ⟨⟨s₂,k1,k2⟩,?_⟩
    obtain ⟨s₃,m1,m2,m3,m4⟩:=Classical.epsilon_spec (hex a' w' ⟨s₂,k1,k2⟩)
    have:=m4 s₂ k1 k2
    rw [g3] at k3
    exact Yay this k3
  | _=>exact hq
 exact key (μ s₀) s₀ a w (Xk _) (ha.sub hs) hI
theorem Zd {σ:Type} {env:σ→Env} {I:σ→World→Prop} {μ:σ→Nat} {m:Nat} (s:σ) (hs:Sub (env s) e) (hI:I s w) (hm:μ s<m) :
 WQ n (Exit.then (fun a w=>∃ s,Has n (env s) a∧I s w∧μ s<m) Q) .normal e w:=
 ⟨fun a ha=>⟨s,ha.sub hs,hI,hm⟩⟩
structure PR (P:Program) (n:Nat) (o:Oper) (e:Env) (w:World) (v:Value):Prop where
 h:∀ a,Has n e a→(execOp a.eval o).run P w=.ok (.value v) w
theorem Z7 {d:Nat} {op:Op} {ty:TypeId} {pos:String} {af:Array Edge} {v:Value} (hp:PR P n ⟨some d,op,ty,pos,af,none⟩ e w v) (hd:Nat.blt d n=true)
 (k:WL P n ops Q rest ((d,v) :: e) w):WL P n ops Q (⟨some d,op,ty,pos,af,none⟩ :: rest) e w:=by
 refine ⟨fun a ha=>?_⟩
 refine wpList_plain rfl (fun K hK=>?_)
 unfold Oper.wp
 rw [hp.h a ha]
 exact hK _ _ ((k).h _ (ha.put hd))
structure OE (P:Program) (n:Nat) (o:Oper) (e:Env) (w:World) (G:Value→World→Prop):Prop where
 h:∀ a,Has n e a→∀ (Q:Exit→Act→World→Prop),o.wp P a w (fun a' w'=>∃ v,a'=a.put o.dst v∧G v w') Q
theorem Z0 {d:Nat} {op:Op} {ty:TypeId} {pos:String} {af:Array Edge} {G:Value→World→Prop} (hp:OE P n ⟨some d,op,ty,pos,af,none⟩ e w G) (hd:Nat.blt d n=true)
 (k:∀ v w',G v w'→WL P n ops Q rest ((d,v) :: e) w'):WL P n ops Q (⟨some d,op,ty,pos,af,none⟩ :: rest) e w:=by
 refine ⟨fun a ha=>?_⟩
 refine wpList_plain rfl (fun K hK=>?_)
 refine Oper.wp_mono ?_ (hp.h a ha Q)
 rintro a' w' ⟨v,rfl,hg⟩
 exact hK _ _ ((k v w' hg).h _ (ha.put hd))
theorem Z1 {op:Op} {ty:TypeId} {pos:String} {af:Array Edge} {G:Value→World→Prop} (hp:OE P n ⟨none,op,ty,pos,af,none⟩ e w G)
 (k:∀ v w',G v w'→WL P n ops Q rest e w'):WL P n ops Q (⟨none,op,ty,pos,af,none⟩ :: rest) e w:=by
 refine ⟨fun a ha=>?_⟩
 refine wpList_plain rfl (fun K hK=>?_)
 refine Oper.wp_mono ?_ (hp.h a ha Q)
 rintro a' w' ⟨v,rfl,hg⟩
 exact hK _ _ ((k v w' hg).h _ ha)
def yld (ops:Array Oper) (e:Env) (j:Nat):Option Value:=((ops[j]?).bind (·.dst)).bind (look e)
theorem Z4I {ops:Array Oper} {a:Act} {j:Nat} {b:Bool} (ha:Has n e a) (h:yld ops e j=some (.bool b)):yielded ops a.tmps j=some b:=by
 unfold yld at h
 unfold yielded
 cases hd:(ops[j]?).bind (·.dst) with
 | none=>rw [hd] at h;simp at h
 | some d=>
   rw [hd] at h
   have:=ha.vals d _ h
   simp only [Array.getD_eq_getD_getElem?] at this
   simp only [X5]
   cases hx:a.tmps[d]? with
   | none=>rw [hx] at this;simp [undef] at this
   | some u=>rw [hx] at this;simp at this;subst this;simp
theorem Z77 {d:Option Nat} {op:Op} {ty:TypeId} {pos:String} {af:Array Edge} {j:Nat} {b:Bool} (hy:yld ops e j=some (.bool b))
 (k:WL P n ops Q (⟨d,op,ty,pos,af,none⟩ :: rest) e w):WL P n ops Q (⟨d,op,ty,pos,af,some (j,b)⟩ :: rest) e w:=by
 refine ⟨fun a ha=>?_⟩
 have hk:=k.h a ha
 have hw:Region.wanted ⟨d,op,ty,pos,af,some (j,b)⟩ (yielded ops a.tmps)=true:=by simp [Region.wanted,Z4I ha hy]
 unfold wpList at hk ⊢
 rw [if_pos hw]
 rw [if_pos (by simp [Region.wanted])] at hk
 exact hk
def ZhM:Value→Bool→Bool
 | .bool c,b=>c != b
 | _,_=>true
def noB (ops:Array Oper) (e:Env):Option (Nat×Bool)→Bool
 | none=>false
 | some (j, b) => match yld ops e j with
   | some u=>ZhM u b
   | none=>false
theorem Z1v {ops:Array Oper} {a:Act} {o:Oper} (ha:Has n e a) (h:noB ops e o.guard=true):Region.wanted o (yielded ops a.tmps)=false:=by
 unfold Region.wanted
 cases hg:o.guard with
 | none=>rw [hg] at h;cases h
 | some jb=>
   obtain ⟨j,b⟩:=jb
   rw [hg] at h
   simp only [noB] at h
   cases hy:yld ops e j with
   | none=>rw [hy] at h;cases h
   | some u=>
     rw [hy] at h
     unfold yld at hy
     show (yielded ops a.tmps j == some b)=false
     unfold yielded
     cases hd:(ops[j]?).bind (·.dst) with
     | none=>rw [hd] at hy;simp at hy
     | some d=>
       rw [hd] at hy
       simp only [X5] at hy
       have:=ha.vals d _ hy
       simp only [Array.getD_eq_getD_getElem?] at this
       simp only [X5]
       cases hx:a.tmps[d]? with
       | none=>rfl
       | some z=>
         rw [hx] at this
         simp at this
         subst this
         cases z<;>first|rfl|(simp only [ZhM] at h;cases b<;>simp_all)
theorem Z34 {d:Nat} {op:Op} {ty:TypeId} {pos:String} {af:Array Edge} {j:Nat} {b:Bool} (hy:noB ops e (some (j,b))=true) (hd:Nat.blt d n=true)
 (k:WL P n ops Q rest ((d,undef) :: e) w):WL P n ops Q (⟨some d,op,ty,pos,af,some (j,b)⟩ :: rest) e w:=by
 refine ⟨fun a ha=>?_⟩
 have hw:Region.wanted ⟨some d,op,ty,pos,af,some (j,b)⟩ (yielded ops a.tmps)=false:=Z1v ha hy
 unfold wpList
 rw [if_neg (by simp [hw])]
 exact k.h _ (ha.put hd)
def ZaJ (ops:Array Oper) (j:Nat):Option Nat:=(ops[j]?).bind (·.dst)
theorem Has.same {a:Act} {d:Nat} {u v:Value} (ha:Has n e a) (h:look e d=some u) (huv:u=v):Has n ((d,v) :: e) a:=by
 subst huv
 refine ⟨ha.defers,ha.size,fun t x hx=>?_⟩
 rw [Z0P] at hx
 by_cases hd:d=t
 subst hd;simp at hx;subst hx;exact ha.vals _ _ h
 rw [if_neg hd] at hx;exact ha.vals _ _ hx
theorem ZaK {d:Nat} {o:Option Nat} {op:Op} {ty:TypeId} {pos:String} {af:Array Edge} {j:Nat} {b:Bool} {p:Prop} [Decidable p] (hj:ZaJ ops j=some d) (hy:look e d=some (.bool (decide p)))
 (ht:p→WL P n ops Q (⟨o,op,ty,pos,af,some (j,b)⟩ :: rest) ((d,.bool true) :: e) w) (hf:¬ p→WL P n ops Q (⟨o,op,ty,pos,af,some (j,b)⟩ :: rest) ((d,.bool false) :: e) w) :
 WL P n ops Q (⟨o,op,ty,pos,af,some (j,b)⟩ :: rest) e w:=by
 refine ⟨fun a ha=>?_⟩
 by_cases hp:p
 exact (ht hp).h a (ha.same hy (by simp [hp]))
 exact (hf hp).h a (ha.same hy (by simp [hp]))
end rules
def Z3B (l:List Value):Nat→Env
 | k=>match l with|[]=>[]|v :: r=>(k,v) :: Z3B r (k+1)
theorem Z44 (l:List Value):∀ (k t:Nat) (v:Value),look (Z3B l k) t=some v→k≤t∧l[t - k]?=some v:=by
 induction l with
 | nil=>intro k t v h;simp [Z3B,look] at h
 | cons x r ih=>
   intro k t v h
   simp only [Z3B] at h
   rw [Z0P] at h
   by_cases hk:k=t
   subst hk;simp at h;simp [h]
   rw [if_neg hk] at h
   obtain ⟨h1,h2⟩:=ih (k+1) t v h
   refine ⟨by omega,?_⟩
   have:t - k=(t - (k+1))+1:=by omega
   rw [this]
   simpa using h2
theorem Zz {P:Program} {f:FuncId} {fn:Func} {c:Code} {args:Array Value} {w:World} {R:Ending→World→Prop} {n:Nat} (hf:P.funcs[f]?=some fn) (hb:fn.body=some c)
 (hn:fn.ntmps=n) (hs:Nat.ble args.size n=true) (h:WC P n c (bodyPost P fn R) (Z3B args.toList 0) w):Calls P f args w R:=by
 refine calls_of_wp hf hb (h.h _ ?_)
 rw [hn]
 have hle:args.size≤n:=XD hs
 refine ⟨rfl,by simp;omega,fun t v hv=>?_⟩
 obtain ⟨_,h2⟩:=Z44 _ _ _ _ hv
 simp only [Nat.sub_zero] at h2
 have hlt:t<args.size:=by
  have:=(List.getElem?_eq_some_iff.1 h2).1
  simpa using this
 have:args[t]?=some v:=by simpa using h2
 have h3:(args++Array.replicate (n - args.size) undef)[t]?=some v:=by
  rw [Array.getElem?_append_left hlt];exact this
 simp [Array.getD_eq_getD_getElem?,h3]
theorem Zct {P:Program} {f:FuncId} {fn:Func} {c:Code} {w:World} {R:Ending→World→Prop} {n:Nat} (hf:P.funcs[f]?=some fn) (hb:fn.body=some c)
 (hn:fn.ntmps=n) (h:WC P n c (bodyPost P fn R) [] w):Calls P f #[] w R:=Zz hf hb hn rfl h
theorem Zcu {P:Program} {f:FuncId} {fn:Func} {c:Code} {a0:Value} {w:World} {R:Ending→World→Prop} {n:Nat} (hf:P.funcs[f]?=some fn) (hb:fn.body=some c)
 (hn:fn.ntmps=n) (hs:Nat.ble 1 n=true) (h:WC P n c (bodyPost P fn R) [(0,a0)] w):Calls P f #[a0] w R:=Zz hf hb hn hs h
theorem Zcv {P:Program} {f:FuncId} {fn:Func} {c:Code} {a0 a1:Value} {w:World} {R:Ending→World→Prop} {n:Nat} (hf:P.funcs[f]?=some fn) (hb:fn.body=some c)
 (hn:fn.ntmps=n) (hs:Nat.ble 2 n=true) (h:WC P n c (bodyPost P fn R) [(0,a0),(1,a1)] w):Calls P f #[a0,a1] w R:=Zz hf hb hn hs h
theorem Zcw {P:Program} {f:FuncId} {fn:Func} {c:Code} {a0 a1 a2:Value} {w:World} {R:Ending→World→Prop} {n:Nat} (hf:P.funcs[f]?=some fn) (hb:fn.body=some c)
 (hn:fn.ntmps=n) (hs:Nat.ble 3 n=true) (h:WC P n c (bodyPost P fn R) [(0,a0),(1,a1),(2,a2)] w):Calls P f #[a0,a1,a2] w R:=Zz hf hb hn hs h
theorem Zcx {P:Program} {f:FuncId} {fn:Func} {c:Code} {a0 a1 a2 a3:Value} {w:World} {R:Ending→World→Prop} {n:Nat} (hf:P.funcs[f]?=some fn) (hb:fn.body=some c)
 (hn:fn.ntmps=n) (hs:Nat.ble 4 n=true) (h:WC P n c (bodyPost P fn R) [(0,a0),(1,a1),(2,a2),(3,a3)] w):Calls P f #[a0,a1,a2,a3] w R:=Zz hf hb hn hs h
section post
variable {P:Program} {n:Nat} {fn:Func} {R:Ending→World→Prop} {e:Env} {w:World}
theorem Z4y (hr:fn.results=#[]) (h:R (.returned (.tuple #[])) w):WQ n (bodyPost P fn R) .ret e w:=
 ⟨fun a ha=>⟨ha.defers,_,results_none hr _ _ _,h⟩⟩
theorem Z4z (hr:fn.results=#[]) (h:R (.returned (.tuple #[])) w):WQ n (bodyPost P fn R) .normal e w:=
 ⟨fun a ha=>⟨ha.defers,_,results_none hr _ _ _,h⟩⟩
theorem Zcy {t:Nat} {v:Value} (hr:fn.results=#[.tmp t]) (ht:look e t=some v) (h:R (.returned v) w):WQ n (bodyPost P fn R) .ret e w:=
 ⟨fun a ha=>⟨ha.defers,_,results_tmp hr _ _ _,by rw [ha.vals t v ht];exact h⟩⟩
theorem Zcz {t u:Nat} {v x:Value} (hr:fn.results=#[.tmp t,.tmp u]) (ht:look e t=some v) (hu:look e u=some x) (h:R (.returned (.tuple #[v,x])) w):WQ n (bodyPost P fn R) .ret e w:=
 ⟨fun a ha=>⟨ha.defers,_,results_tmp2 hr _ _ _,by rw [ha.vals t v ht,ha.vals u x hu];exact h⟩⟩
theorem ZcA {t u s:Nat} {v x y:Value} (hr:fn.results=#[.tmp t,.tmp u,.tmp s]) (ht:look e t=some v) (hu:look e u=some x) (hs:look e s=some y) (h:R (.returned (.tuple #[v,x,y])) w):WQ n (bodyPost P fn R) .ret e w:=
 ⟨fun a ha=>⟨ha.defers,.tuple #[v,x,y],by simp [results,hr];simpa [Array.getD_eq_getD_getElem?] using And.intro (ha.vals t v ht) (And.intro (ha.vals u x hu) (ha.vals s y hs)),h⟩⟩
end post
theorem cW0 {P:Program} {f:FuncId} {fn:Func} {c:Code} {w:World} {R:Ending→World→Prop} (n:Nat) (hf:P.funcs[f]?=some fn) (h:WC P n c (bodyPost P fn R) [] w) (hb:fn.body=some c:=by exact rfl) (hn:fn.ntmps=n:=by exact rfl):Calls P f #[] w R:=Zz hf hb hn rfl h
theorem cW1 {P:Program} {f:FuncId} {fn:Func} {c:Code} {a0:Value} {w:World} {R:Ending→World→Prop} (n:Nat) (hf:P.funcs[f]?=some fn) (h:WC P n c (bodyPost P fn R) [(0,a0)] w) (hb:fn.body=some c:=by exact rfl) (hn:fn.ntmps=n:=by exact rfl) (hs:Nat.ble 1 n=true:=by exact rfl):Calls P f #[a0] w R:=Zz hf hb hn hs h
theorem cW2 {P:Program} {f:FuncId} {fn:Func} {c:Code} {a0 a1:Value} {w:World} {R:Ending→World→Prop} (n:Nat) (hf:P.funcs[f]?=some fn) (h:WC P n c (bodyPost P fn R) [(0,a0),(1,a1)] w) (hb:fn.body=some c:=by exact rfl) (hn:fn.ntmps=n:=by exact rfl) (hs:Nat.ble 2 n=true:=by exact rfl):Calls P f #[a0,a1] w R:=Zz hf hb hn hs h
theorem cW3 {P:Program} {f:FuncId} {fn:Func} {c:Code} {a0 a1 a2:Value} {w:World} {R:Ending→World→Prop} (n:Nat) (hf:P.funcs[f]?=some fn) (h:WC P n c (bodyPost P fn R) [(0,a0),(1,a1),(2,a2)] w) (hb:fn.body=some c:=by exact rfl) (hn:fn.ntmps=n:=by exact rfl) (hs:Nat.ble 3 n=true:=by exact rfl):Calls P f #[a0,a1,a2] w R:=Zz hf hb hn hs h
theorem cW4 {P:Program} {f:FuncId} {fn:Func} {c:Code} {a0 a1 a2 a3:Value} {w:World} {R:Ending→World→Prop} (n:Nat) (hf:P.funcs[f]?=some fn) (h:WC P n c (bodyPost P fn R) [(0,a0),(1,a1),(2,a2),(3,a3)] w) (hb:fn.body=some c:=by exact rfl) (hn:fn.ntmps=n:=by exact rfl) (hs:Nat.ble 4 n=true:=by exact rfl):Calls P f #[a0,a1,a2,a3] w R:=Zz hf hb hn hs h
theorem cW5 {P:Program} {f:FuncId} {fn:Func} {c:Code} {a0 a1 a2 a3 a4:Value} {w:World} {R:Ending→World→Prop} (n:Nat) (hf:P.funcs[f]?=some fn) (h:WC P n c (bodyPost P fn R) [(0,a0),(1,a1),(2,a2),(3,a3),(4,a4)] w) (hb:fn.body=some c:=by exact rfl) (hn:fn.ntmps=n:=by exact rfl) (hs:Nat.ble 5 n=true:=by exact rfl):Calls P f #[a0,a1,a2,a3,a4] w R:=Zz hf hb hn hs h
theorem cW6 {P:Program} {f:FuncId} {fn:Func} {c:Code} {a0 a1 a2 a3 a4 a5:Value} {w:World} {R:Ending→World→Prop} (n:Nat) (hf:P.funcs[f]?=some fn) (h:WC P n c (bodyPost P fn R) [(0,a0),(1,a1),(2,a2),(3,a3),(4,a4),(5,a5)] w) (hb:fn.body=some c:=by exact rfl) (hn:fn.ntmps=n:=by exact rfl) (hs:Nat.ble 6 n=true:=by exact rfl):Calls P f #[a0,a1,a2,a3,a4,a5] w R:=Zz hf hb hn hs h
theorem cW7 {P:Program} {f:FuncId} {fn:Func} {c:Code} {a0 a1 a2 a3 a4 a5 a6:Value} {w:World} {R:Ending→World→Prop} (n:Nat) (hf:P.funcs[f]?=some fn) (h:WC P n c (bodyPost P fn R) [(0,a0),(1,a1),(2,a2),(3,a3),(4,a4),(5,a5),(6,a6)] w) (hb:fn.body=some c:=by exact rfl) (hn:fn.ntmps=n:=by exact rfl) (hs:Nat.ble 7 n=true:=by exact rfl):Calls P f #[a0,a1,a2,a3,a4,a5,a6] w R:=Zz hf hb hn hs h
theorem cW8 {P:Program} {f:FuncId} {fn:Func} {c:Code} {a0 a1 a2 a3 a4 a5 a6 a7:Value} {w:World} {R:Ending→World→Prop} (n:Nat) (hf:P.funcs[f]?=some fn) (h:WC P n c (bodyPost P fn R) [(0,a0),(1,a1),(2,a2),(3,a3),(4,a4),(5,a5),(6,a6),(7,a7)] w) (hb:fn.body=some c:=by exact rfl) (hn:fn.ntmps=n:=by exact rfl) (hs:Nat.ble 8 n=true:=by exact rfl):Calls P f #[a0,a1,a2,a3,a4,a5,a6,a7] w R:=Zz hf hb hn hs h
theorem cW9 {P:Program} {f:FuncId} {fn:Func} {c:Code} {a0 a1 a2 a3 a4 a5 a6 a7 a8:Value} {w:World} {R:Ending→World→Prop} (n:Nat) (hf:P.funcs[f]?=some fn) (h:WC P n c (bodyPost P fn R) [(0,a0),(1,a1),(2,a2),(3,a3),(4,a4),(5,a5),(6,a6),(7,a7),(8,a8)] w) (hb:fn.body=some c:=by exact rfl) (hn:fn.ntmps=n:=by exact rfl) (hs:Nat.ble 9 n=true:=by exact rfl):Calls P f #[a0,a1,a2,a3,a4,a5,a6,a7,a8] w R:=Zz hf hb hn hs h
class Und (P:Program) (t:Nat) (d:outParam TypeDesc):Prop where
 h:P.underlying t=some d
class Siz (P:Program) (t:Nat) (k:outParam Nat):Prop where
 h:(P.info? t).map (·.size)=some k
class Zer (P:Program) (t:Nat) (z:outParam Value):Prop where
 h:(P.info? t).bind (·.zero)=some z
class Byt (P:Program) (t:Nat) (k:outParam Nat):Prop where
 h:(P.info? t).map (·.bytes)=some k
class Fld (P:Program) (t i:Nat) (off:outParam Nat):Prop where
 h:∃ fs f k,P.underlying t=some (.struct fs)∧fs[i]?=some f∧f.offset=off∧(P.info? f.type).map (·.size)=some (k+1)
class Fun (P:Program) (f:Nat) (fn:outParam Func):Prop where
 h:P.funcs[f]?=some fn
 enters:Enters P f
theorem Siz.run {P:Program} {t k:Nat} [h:Siz P t k] (w:World):(sizeOf t).run P w=.ok k w:=by
 have:=h.h
 cases hi:P.info? t with
 | none=>simp [hi] at this
 | some i=>rw [hi] at this;simp at this;simp [sizeOf,typeInfo,hi,this]
theorem Zer.run {P:Program} {t:Nat} {z:Value} [h:Zer P t z] (w:World):(zeroValue t).run P w=.ok z w:=by
 have:=h.h
 cases hi:P.info? t with
 | none=>simp [hi] at this
 | some i=>rw [hi] at this;simp at this;simp [zeroValue,typeInfo,hi,this]
def JA:TypeDesc→Bool
 | .struct _|.array _ _=>true
 | _=>false
theorem Und.isAgg {P:Program} {t:Nat} {d:TypeDesc} [h:Und P t d] (w:World):(Go.isAgg t).run P w=.ok (JA d) w:=by
 cases d<;>simp [Go.isAgg,run_underlying h.h,JA]
section rules
variable {P:Program} {n:Nat} {e:Env} {w:World} {d:Option Nat} {ty:TypeId} {pos:String} {af:Array Edge} {g:Option (Nat×Bool)}
theorem J2 {x:Operand} {v:Value} (hx:ev e x=some v):PR P n ⟨d,.move x,ty,pos,af,g⟩ e w v:=⟨fun a ha=>by simp [execOp,ha.ev hx]⟩
theorem Z3C {x:Operand} {v:Value} (hx:ev e x=some v):PR P n ⟨d,.assign x,ty,pos,af,g⟩ e w v:=⟨fun a ha=>by simp [execOp,ha.ev hx]⟩
theorem Z5H {c x y:Operand} {v:Value} (hc:ev e c=some (.bool true)) (hx:ev e x=some v):PR P n ⟨d,.pick c x y,ty,pos,af,g⟩ e w v:=
 ⟨fun a ha=>by simp [execOp,ha.ev hc,ha.ev hx,asBool]⟩
theorem Z5I {c x y:Operand} {v:Value} (hc:ev e c=some (.bool false)) (hx:ev e y=some v):PR P n ⟨d,.pick c x y,ty,pos,af,g⟩ e w v:=
 ⟨fun a ha=>by simp [execOp,ha.ev hc,ha.ev hx,asBool]⟩
theorem Zeh {x:Operand} {b:Bool} (hx:ev e x=some (.bool b)) {t:TypeId}:PR P n ⟨d,.unOp .not t x,ty,pos,af,g⟩ e w (.bool (!b)):=
 ⟨fun a ha=>by simp [execOp,ha.ev hx,Op.unary]⟩
theorem ZaL {x:Operand} (hx:ev e x=some (.bool true)) {t:TypeId}:PR P n ⟨d,.unOp .not t x,ty,pos,af,g⟩ e w (.bool false):=
 ⟨fun a ha=>by simp [execOp,ha.ev hx,Op.unary]⟩
theorem ZaM {x:Operand} (hx:ev e x=some (.bool false)) {t:TypeId}:PR P n ⟨d,.unOp .not t x,ty,pos,af,g⟩ e w (.bool true):=
 ⟨fun a ha=>by simp [execOp,ha.ev hx,Op.unary]⟩
theorem ZaN {x:Operand} {p:Prop} [Decidable p] (hx:ev e x=some (.bool (decide p))) {t:TypeId}:PR P n ⟨d,.unOp .not t x,ty,pos,af,g⟩ e w (.bool (decide (¬ p))):=
 ⟨fun a ha=>by simp [execOp,ha.ev hx,Op.unary]⟩
def I64 (z:Int):Prop:=-9223372036854775808≤z∧z≤9223372036854775807
theorem Jd {z:Int} (h:I64 z):IntKind.i64.wrap z=z:=by
 unfold I64 at h
 rw [IntKind.wrap_i64]
 omega
section arith
variable {x y:Operand} {a b:Int} {t u:TypeId}
theorem Z6i (hx:ev e x=some (.int .i64 a)) (hy:ev e y=some (.int .i64 b)) (hr:I64 (a+b)):PR P n ⟨d,.binOp .add t x y u,ty,pos,af,g⟩ e w (.int .i64 (a+b)):=
 ⟨fun c ha=>by simp only [execOp,ha.ev hx,ha.ev hy];simp [go_sem,Op.intArith,Jd hr]⟩
theorem Z6j (hx:ev e x=some (.int .i64 a)) (hy:ev e y=some (.int .i64 b)) (hr:I64 (a - b)):PR P n ⟨d,.binOp .sub t x y u,ty,pos,af,g⟩ e w (.int .i64 (a - b)):=
 ⟨fun c ha=>by simp only [execOp,ha.ev hx,ha.ev hy];simp [go_sem,Op.intArith,Jd hr]⟩
theorem Zei (hx:ev e x=some (.int .i64 a)) (hy:ev e y=some (.int .i64 b)) (hr:I64 (a * b)):PR P n ⟨d,.binOp .mul t x y u,ty,pos,af,g⟩ e w (.int .i64 (a * b)):=
 ⟨fun c ha=>by simp only [execOp,ha.ev hx,ha.ev hy];simp [go_sem,Op.intArith,Jd hr]⟩
theorem Zej (hx:ev e x=some (.int .i64 a)) (hr:I64 (- a)):PR P n ⟨d,.unOp .neg t x,ty,pos,af,g⟩ e w (.int .i64 (- a)):=
 ⟨fun c ha=>by simp only [execOp,ha.ev hx];simp [go_sem,Op.unary,Op.intArith,Jd hr]⟩
theorem Zek (hx:ev e x=some (.int .i64 a)) (hy:ev e y=some (.int .i64 b)) (hb:b≠0) (hr:I64 (a.tmod b)):PR P n ⟨d,.binOp .rem t x y u,ty,pos,af,g⟩ e w (.int .i64 (a.tmod b)):=
 ⟨fun c ha=>by simp only [execOp,ha.ev hx,ha.ev hy];simp [go_sem,Op.intDiv,hb];try rw [Jd hr]⟩
theorem Zel (hx:ev e x=some (.int .i64 a)) (hy:ev e y=some (.int .i64 b)) (hb:b≠0) (hr:I64 (a.tdiv b)):PR P n ⟨d,.binOp .quo t x y u,ty,pos,af,g⟩ e w (.int .i64 (a.tdiv b)):=
 ⟨fun c ha=>by simp only [execOp,ha.ev hx,ha.ev hy];simp [go_sem,Op.intDiv,hb];try rw [Jd hr]⟩
theorem Z98 (hx:ev e x=some (.int .i64 a)) (hy:ev e y=some (.int .i64 b)) (h0:0≤a) (hb:0<b) (hr:I64 a):PR P n ⟨d,.binOp .rem t x y u,ty,pos,af,g⟩ e w (.int .i64 (a % b)):=by
 have h1:a.tmod b=a % b:=Int.tmod_eq_emod_of_nonneg h0
 rw [← h1]
 refine Zek hx hy (by omega) ?_
 rw [h1]
 have:=Yat a (show b≠0 by omega)
 have h2:a % b≤a:=by
  by_cases hab:a<b
  rw [Int.emod_eq_of_lt h0 hab];exact Yac _
  have:=Yam a hb;omega
 unfold I64 at hr ⊢
 omega
theorem ZcB (hx:ev e x=some (.int .i64 a)) (hy:ev e y=some (.int .i64 b)) (h0:0≤a) (hb:0<b) (hr:I64 a):PR P n ⟨d,.binOp .quo t x y u,ty,pos,af,g⟩ e w (.int .i64 (a / b)):=by
 have h1:a.tdiv b=a / b:=Int.tdiv_eq_ediv_of_nonneg h0
 rw [← h1]
 refine Zel hx hy (by omega) ?_
 rw [h1]
 have:=Int.ediv_nonneg h0 (Int.le_of_lt hb)
 have h2:a / b≤a:=Int.ediv_le_self _ h0
 unfold I64 at hr ⊢
 omega
variable {k:IntKind}
theorem ZaO (hx:ev e x=some (.int k a)) (hy:ev e y=some (.int k b)):PR P n ⟨d,.binOp .lss t x y u,ty,pos,af,g⟩ e w (.bool (decide (a<b))):=
 ⟨fun c ha=>by simp only [execOp,ha.ev hx,ha.ev hy];simp [go_sem]⟩
theorem Zem (hx:ev e x=some (.int k a)) (hy:ev e y=some (.int k b)):PR P n ⟨d,.binOp .leq t x y u,ty,pos,af,g⟩ e w (.bool (decide (a≤b))):=
 ⟨fun c ha=>by simp only [execOp,ha.ev hx,ha.ev hy];simp [go_sem]⟩
theorem ZaP (hx:ev e x=some (.int k a)) (hy:ev e y=some (.int k b)):PR P n ⟨d,.binOp .gtr t x y u,ty,pos,af,g⟩ e w (.bool (decide (b<a))):=
 ⟨fun c ha=>by simp only [execOp,ha.ev hx,ha.ev hy];simp [go_sem]⟩
theorem Zen (hx:ev e x=some (.int k a)) (hy:ev e y=some (.int k b)):PR P n ⟨d,.binOp .geq t x y u,ty,pos,af,g⟩ e w (.bool (decide (b≤a))):=
 ⟨fun c ha=>by simp only [execOp,ha.ev hx,ha.ev hy];simp [go_sem]⟩
theorem ZaQ (hx:ev e x=some (.int k a)) (hy:ev e y=some (.int k b)):PR P n ⟨d,.binOp .eql t x y u,ty,pos,af,g⟩ e w (.bool (decide (a=b))):=
 ⟨fun c ha=>by simp only [execOp,ha.ev hx,ha.ev hy];simp [go_sem];exact XZ a b⟩
theorem ZaR (hx:ev e x=some (.int k a)) (hy:ev e y=some (.int k b)):PR P n ⟨d,.binOp .neq t x y u,ty,pos,af,g⟩ e w (.bool (decide (¬ a=b))):=
 ⟨fun c ha=>by simp only [execOp,ha.ev hx,ha.ev hy];simp [go_sem];rw [bne,XZ]⟩
theorem ZcC {p q:Bool} [hu:Und P t .bool] (hx:ev e x=some (.bool p)) (hy:ev e y=some (.bool q)):PR P n ⟨d,.binOp .eql t x y u,ty,pos,af,g⟩ e w (.bool (decide (p=q))):=
 ⟨fun c ha=>by simp only [execOp,ha.ev hx,ha.ev hy];simp [go_sem,binOp,run_equal_bool w t p q hu.h];cases p<;>cases q<;>rfl⟩
theorem ZcD {p q:Bool} [hu:Und P t .bool] (hx:ev e x=some (.bool p)) (hy:ev e y=some (.bool q)):PR P n ⟨d,.binOp .neq t x y u,ty,pos,af,g⟩ e w (.bool (decide (¬ p=q))):=
 ⟨fun c ha=>by simp only [execOp,ha.ev hx,ha.ev hy];simp [go_sem,binOp,run_equal_bool w t p q hu.h];cases p<;>cases q<;>rfl⟩
end arith
theorem Z4J {x:Operand} {vs:Array Value} {i:Nat} {v:Value} (hx:ev e x=some (.tuple vs)) (hv:vs[i]?=some v):PR P n ⟨d,.extract x i,ty,pos,af,g⟩ e w v:=
 ⟨fun a ha=>by simp [execOp,ha.ev hx,Instr.extract,hv]⟩
theorem ZaS {x:Operand} {t:TypeId} {el:TypeId} [hu:Und P t (.slice el)] {p:Option Addr} {l c:Nat} (hx:ev e x=some (.slice p l c)) :
 PR P n ⟨d,.call { callee:=.builtin .len,args:=#[x],argTypes:=#[t] },ty,pos,af,g⟩ e w (.int .i64 (l:Int)):=
 ⟨fun a ha => by
   have:=run_len_slice (P:=P) w t ty p l c (by rw [hu.h,Program.elem,hu.h])
   simp [execOp,resolve,invoke,builtin,ha.ev hx,this,goInt]⟩
theorem Z45 {t i off:Nat} [h:Fld P t i off] (b o:Nat) (w:World):(Instr.fieldAt t (.pointer (some ⟨b,o,none⟩)) i).run P w=.ok (.pointer (some ⟨b,o+off,none⟩)) w:=by
 obtain ⟨fs,f,k,h1,h2,rfl,h3⟩:=h.h
 have:Siz P f.type (k+1):=⟨h3⟩
 simp [Instr.fieldAt,run_underlying h1,h2,Instr.sureAddr,fieldPlace,Siz.run,Addr.add_lit]
theorem J3 {x:Operand} {t:TypeId} {b o i off:Nat} [hf:Fld P t i off] (hx:ev e x=some (.pointer (some ⟨b,o,none⟩))):PR P n ⟨d,.fieldAddr t x i,ty,pos,af,g⟩ e w (.pointer (some ⟨b,o+off,none⟩)):=
 ⟨fun a ha=>by simp [execOp,ha.ev hx,Z45]⟩
theorem Z1V {x:Operand} {t:TypeId} {D:TypeDesc} {ad:Addr} {v:Value} [hu:Und P t D] (hA:JA D=false) (hx:ev e x=some (.pointer (some ad))) (hc:w.cell? ad=some v) :
 PR P n ⟨d,.load t x,ty,pos,af,g⟩ e w v:=
 ⟨fun a ha=>by simp [execOp,ha.ev hx,Instr.loadAt,Instr.sureAddr,loadVar,Und.isAgg,hA,hc]⟩
theorem Z4K {x:Operand} {t:TypeId} {D:TypeDesc} {b o k:Nat} {cs:List Value} [hu:Und P t D] (hA:JA D=true) [hs:Siz P t k] (hx:ev e x=some (.pointer (some ⟨b,o,none⟩)))
 (hl:cs.length=k) (hc:∀ j u,cs[j]?=some u→w.cell? ⟨b,o+j,none⟩=some u) :
 PR P n ⟨d,.load t x,ty,pos,af,g⟩ e w (.agg cs.toArray):=
 ⟨fun a ha => by
   have:=run_loadCells_list (P:=P) w ⟨b,o,none⟩ cs (fun j v h=>by rw [Addr.add_lit];exact hc j v h)
   rw [hl] at this
   simp [execOp,ha.ev hx,Instr.loadAt,Instr.sureAddr,loadVar,Und.isAgg,hA,Siz.run,this]⟩
theorem Z6k {f:Nat}:PR P n ⟨d,.makeFunc (.func f) #[] #[],ty,pos,af,g⟩ e w (.func (.func f) #[] #[]):=
 ⟨fun a ha=>by simp [execOp,Instr.makeFunc]⟩
theorem Z6l {f:Nat} {x:Operand} {v:Value} (hx:ev e x=some v):PR P n ⟨d,.makeFunc (.func f) #[] #[x],ty,pos,af,g⟩ e w (.func (.func f) #[] #[v]):=
 ⟨fun a ha=>by simp [execOp,Instr.makeFunc,ha.ev hx]⟩
theorem Z6m {f:Nat} {x y:Operand} {v u:Value} (hx:ev e x=some v) (hy:ev e y=some u):PR P n ⟨d,.makeFunc (.func f) #[] #[x,y],ty,pos,af,g⟩ e w (.func (.func f) #[] #[v,u]):=
 ⟨fun a ha=>by simp [execOp,Instr.makeFunc,ha.ev hx,ha.ev hy]⟩
theorem Z6n {f:Nat} {x y z:Operand} {v u s:Value} (hx:ev e x=some v) (hy:ev e y=some u) (hz:ev e z=some s):PR P n ⟨d,.makeFunc (.func f) #[] #[x,y,z],ty,pos,af,g⟩ e w (.func (.func f) #[] #[v,u,s]):=
 ⟨fun a ha=>by simp [execOp,Instr.makeFunc,ha.ev hx,ha.ev hy,ha.ev hz]⟩
def Ret (G:Value→World→Prop) (r:Ending) (w':World):Prop:=∃ v,r=.returned v∧G v w'
theorem Ret.mk {G:Value→World→Prop} {v:Value} {w':World} (h:G v w'):Ret G (.returned v) w':=⟨v,rfl,h⟩
theorem Calls.ret {P:Program} {f:FuncId} {args:Array Value} {w:World} {G G':Value→World→Prop} (h:Calls P f args w (Ret G)) (hg:∀ v w',G v w'→G' v w'):Calls P f args w (Ret G'):=
 h.mono fun _ _ ⟨v,h1,h2⟩=>⟨v,h1,hg _ _ h2⟩
theorem Ze {f:Nat} {fn:Func} {xs:Array Operand} {ts:Array TypeId} {vs:Array Value} {G:Value→World→Prop} {c:Operand} [hf:Fun P f fn] (hc:ev e c=some (.func (.func f) #[] #[]))
 (hv:∀ a,Has n e a→xs.map a.eval=vs) (h:Calls P f vs w (Ret G)) :
 OE P n ⟨d,.call { callee:=.value c,args:=xs,argTypes:=ts },ty,pos,af,g⟩ e w G:=
 ⟨fun a ha Q => by
   have he:(execOp a.eval ⟨d,.call { callee:=.value c,args:=xs,argTypes:=ts },ty,pos,af,g⟩).run P w=.ok (.enter f vs) w:=by
    simp only [execOp,resolve,ha.ev hc,Deferred.ofValue,hv a ha]
    simp [invoke]
    exact hf.enters vs w
   unfold Oper.wp
   rw [he]
   simp only [Oper.upon]
   refine h.mono ?_
   rintro r w' ⟨v,rfl,hg⟩
   exact ⟨v,rfl,hg⟩⟩
theorem ZK {f:Nat} {fn:Func} {xs:Array Operand} {ts:Array TypeId} {vs cap us:Array Value} {G:Value→World→Prop} {c:Operand} [hf:Fun P f fn] (hc:ev e c=some (.func (.func f) #[] cap))
 (hv:∀ a,Has n e a→xs.map a.eval=vs) (hu:vs++cap=us) (h:Calls P f us w (Ret G)) :
 OE P n ⟨d,.call { callee:=.value c,args:=xs,argTypes:=ts },ty,pos,af,g⟩ e w G:=
 ⟨fun a ha Q => by
   have he:(execOp a.eval ⟨d,.call { callee:=.value c,args:=xs,argTypes:=ts },ty,pos,af,g⟩).run P w=.ok (.enter f us) w:=by
    simp only [execOp,resolve,ha.ev hc,Deferred.ofValue,hv a ha]
    simp [invoke,hu]
    exact hf.enters us w
   unfold Oper.wp
   rw [he]
   simp only [Oper.upon]
   refine h.mono ?_
   rintro r w' ⟨v,rfl,hg⟩
   exact ⟨v,rfl,hg⟩⟩
theorem ZhN:∀ a,Has n e a→(#[]:Array Operand).map a.eval=#[]:=fun a ha=>by simp
theorem Zk {x:Operand} {v:Value} (hx:ev e x=some v):∀ a,Has n e a→#[x].map a.eval=#[v]:=fun a ha=>by simp [ha.ev hx]
theorem Zb {x y:Operand} {v u:Value} (hx:ev e x=some v) (hy:ev e y=some u):∀ a,Has n e a→#[x,y].map a.eval=#[v,u]:=fun a ha=>by simp [ha.ev hx,ha.ev hy]
theorem J7 {x y z:Operand} {v u s:Value} (hx:ev e x=some v) (hy:ev e y=some u) (hz:ev e z=some s):∀ a,Has n e a→#[x,y,z].map a.eval=#[v,u,s]:=fun a ha=>by simp [ha.ev hx,ha.ev hy,ha.ev hz]
theorem Z2z {x y z k:Operand} {v u s r:Value} (hx:ev e x=some v) (hy:ev e y=some u) (hz:ev e z=some s) (hk:ev e k=some r):∀ a,Has n e a→#[x,y,z,k].map a.eval=#[v,u,s,r]:=
 fun a ha=>by simp [ha.ev hx,ha.ev hy,ha.ev hz,ha.ev hk]
end rules
theorem mkF {P:Program} {f:Nat} {fn:Func} {c:Code} (h:P.funcs[f]?=some fn) (h2:(fn.name == "runtime.NumGoroutine")=false:=by kernel_rfl) (h3:fn.body=some c:=by exact rfl):Fun P f fn:=⟨h,enters_of h h2 h3⟩
theorem uM {P:Program} {t:Nat} {d:TypeDesc} (h:P.underlying t=some d):Und P t d:=⟨h⟩
end Go.Eng
namespace Go.Proofs.YtjdjdoefppebkaaGreatDoor
open Go Go.Eng
theorem mixed:Tryz.prog.follows .mixedOrders=true:=by kernel_rfl
abbrev ZkP:=uM Tryz.underlying3
instance ZmV:Siz Tryz.prog 3 1:=⟨by kernel_rfl⟩
instance ZmW:Byt Tryz.prog 3 8:=⟨by kernel_rfl⟩
instance ZmX:Zer Tryz.prog 3 (.int .i64 0):=⟨by kernel_rfl⟩
abbrev ZkQ:=uM Tryz.underlying4
instance ZmY:Siz Tryz.prog 4 1:=⟨by kernel_rfl⟩
abbrev ZkR:=uM Tryz.underlying5
instance ZmZ:Siz Tryz.prog 5 1:=⟨by kernel_rfl⟩
abbrev ZkS:=uM Tryz.underlying9
instance Zn0:Siz Tryz.prog 9 1:=⟨by kernel_rfl⟩
abbrev ZhO:=uM Tryz.underlying20
abbrev ZhP:=uM Tryz.underlying21
abbrev ZhQ:=uM Tryz.underlying22
instance ZmC:Siz Tryz.prog 22 1:=⟨by kernel_rfl⟩
abbrev ZhR:=uM Tryz.underlying25
instance ZmD:Siz Tryz.prog 25 1:=⟨by kernel_rfl⟩
abbrev ZhS:=uM Tryz.underlying27
instance ZmE:Siz Tryz.prog 27 4:=⟨by kernel_rfl⟩
instance ZmF:Byt Tryz.prog 27 56:=⟨by kernel_rfl⟩
instance ZmG:Zer Tryz.prog 27 (.agg #[.int .i64 0,.int .i64 0,.string ByteArray.empty,.slice none 0 0]):=⟨by kernel_rfl⟩
instance Zkp:Fld Tryz.prog 27 0 0:=⟨_,_,0,Tryz.underlying27,rfl,rfl,by kernel_rfl⟩
instance Zkq:Fld Tryz.prog 27 1 1:=⟨_,_,0,Tryz.underlying27,rfl,rfl,by kernel_rfl⟩
instance Zkr:Fld Tryz.prog 27 2 2:=⟨_,_,0,Tryz.underlying27,rfl,rfl,by kernel_rfl⟩
instance Zks:Fld Tryz.prog 27 3 3:=⟨_,_,0,Tryz.underlying27,rfl,rfl,by kernel_rfl⟩
abbrev ZhT:=uM Tryz.underlying29
instance ZmH:Siz Tryz.prog 29 7:=⟨by kernel_rfl⟩
instance ZmI:Zer Tryz.prog 29 (.agg #[.int .i64 0,.int .i64 0,.int .i64 0,.int .i64 0,.int .i64 0,.int .i64 0,.int .i64 0]):=⟨by kernel_rfl⟩
instance Zkt:Fld Tryz.prog 29 0 0:=⟨_,_,0,Tryz.underlying29,rfl,rfl,by kernel_rfl⟩
instance Zku:Fld Tryz.prog 29 1 1:=⟨_,_,0,Tryz.underlying29,rfl,rfl,by kernel_rfl⟩
instance Zkv:Fld Tryz.prog 29 2 2:=⟨_,_,0,Tryz.underlying29,rfl,rfl,by kernel_rfl⟩
instance Zkw:Fld Tryz.prog 29 3 3:=⟨_,_,0,Tryz.underlying29,rfl,rfl,by kernel_rfl⟩
instance Zkx:Fld Tryz.prog 29 4 4:=⟨_,_,0,Tryz.underlying29,rfl,rfl,by kernel_rfl⟩
instance Zky:Fld Tryz.prog 29 5 5:=⟨_,_,0,Tryz.underlying29,rfl,rfl,by kernel_rfl⟩
instance Zkz:Fld Tryz.prog 29 6 6:=⟨_,_,0,Tryz.underlying29,rfl,rfl,by kernel_rfl⟩
abbrev ZhU:=uM Tryz.underlying30
abbrev ZhV:=uM Tryz.underlying31
abbrev ZhW:=uM Tryz.underlying32
abbrev ZhX:=uM Tryz.underlying37
instance ZmJ:Siz Tryz.prog 37 12:=⟨by kernel_rfl⟩
instance ZkA:Fld Tryz.prog 37 0 0:=⟨_,_,6,Tryz.underlying37,rfl,rfl,by kernel_rfl⟩
instance ZkB:Fld Tryz.prog 37 1 7:=⟨_,_,0,Tryz.underlying37,rfl,rfl,by kernel_rfl⟩
instance ZkC:Fld Tryz.prog 37 2 8:=⟨_,_,0,Tryz.underlying37,rfl,rfl,by kernel_rfl⟩
abbrev ZhY:=uM Tryz.underlying41
instance ZmK:Siz Tryz.prog 41 1:=⟨by kernel_rfl⟩
instance ZmL:Zer Tryz.prog 41 (.int .i64 0):=⟨by kernel_rfl⟩
abbrev ZhZ:=uM Tryz.underlying45
instance ZmM:Siz Tryz.prog 45 1:=⟨by kernel_rfl⟩
abbrev Zi0:=uM Tryz.underlying60
instance ZmN:Siz Tryz.prog 60 3:=⟨by kernel_rfl⟩
instance ZkD:Fld Tryz.prog 60 0 0:=⟨_,_,0,Tryz.underlying60,rfl,rfl,by kernel_rfl⟩
instance ZkE:Fld Tryz.prog 60 1 1:=⟨_,_,0,Tryz.underlying60,rfl,rfl,by kernel_rfl⟩
instance ZkF:Fld Tryz.prog 60 2 2:=⟨_,_,0,Tryz.underlying60,rfl,rfl,by kernel_rfl⟩
abbrev Zi1:=uM Tryz.underlying61
abbrev Zi2:=uM Tryz.underlying62
abbrev Zi3:=uM Tryz.underlying67
abbrev Zi4:=uM Tryz.underlying68
abbrev Zi5:=uM Tryz.underlying72
instance ZmO:Siz Tryz.prog 72 4:=⟨by kernel_rfl⟩
instance ZmP:Byt Tryz.prog 72 32:=⟨by kernel_rfl⟩
instance ZmQ:Zer Tryz.prog 72 (.agg #[.int .i64 0,.int .i64 0,.int .i64 0,.int .i64 0]):=⟨by kernel_rfl⟩
instance ZkG:Fld Tryz.prog 72 0 0:=⟨_,_,0,Tryz.underlying72,rfl,rfl,by kernel_rfl⟩
instance ZkH:Fld Tryz.prog 72 1 1:=⟨_,_,0,Tryz.underlying72,rfl,rfl,by kernel_rfl⟩
instance ZkI:Fld Tryz.prog 72 2 2:=⟨_,_,0,Tryz.underlying72,rfl,rfl,by kernel_rfl⟩
instance ZkJ:Fld Tryz.prog 72 3 3:=⟨_,_,0,Tryz.underlying72,rfl,rfl,by kernel_rfl⟩
abbrev Zi6:=uM Tryz.underlying77
instance ZmR:Siz Tryz.prog 77 3:=⟨by kernel_rfl⟩
instance ZmS:Zer Tryz.prog 77 (.agg #[.int .i64 0,.int .i64 0,.int .i64 0]):=⟨by kernel_rfl⟩
instance ZkK:Fld Tryz.prog 77 0 0:=⟨_,_,0,Tryz.underlying77,rfl,rfl,by kernel_rfl⟩
instance ZkL:Fld Tryz.prog 77 1 1:=⟨_,_,0,Tryz.underlying77,rfl,rfl,by kernel_rfl⟩
instance ZkM:Fld Tryz.prog 77 2 2:=⟨_,_,0,Tryz.underlying77,rfl,rfl,by kernel_rfl⟩
abbrev Zi7:=uM Tryz.underlying83
instance ZmT:Siz Tryz.prog 83 7:=⟨by kernel_rfl⟩
instance ZmU:Zer Tryz.prog 83 (.agg #[.int .i64 0,.int .i64 0,.int .i64 0,.int .i64 0,.int .i64 0,.int .i64 0,.int .i64 0]):=⟨by kernel_rfl⟩
instance ZkT:Siz Tryz.prog 111 2:=⟨by kernel_rfl⟩
instance ZkU:Byt Tryz.prog 111 16:=⟨by kernel_rfl⟩
instance ZkV:Zer Tryz.prog 111 (.agg #[.int .i64 0,.int .i64 0]):=⟨by kernel_rfl⟩
abbrev Zeo:=uM Tryz.underlying119
abbrev Zep:=uM Tryz.underlying124
instance Zi8:Fld Tryz.prog 126 0 0:=⟨_,_,6,Tryz.underlying126,rfl,rfl,by kernel_rfl⟩
instance Zi9:Fld Tryz.prog 126 1 7:=⟨_,_,11,Tryz.underlying126,rfl,rfl,by kernel_rfl⟩
instance Zia:Fld Tryz.prog 126 2 19:=⟨_,_,0,Tryz.underlying126,rfl,rfl,by kernel_rfl⟩
instance Zib:Fld Tryz.prog 126 3 20:=⟨_,_,0,Tryz.underlying126,rfl,rfl,by kernel_rfl⟩
instance Zic:Fld Tryz.prog 126 4 21:=⟨_,_,0,Tryz.underlying126,rfl,rfl,by kernel_rfl⟩
instance Zid:Fld Tryz.prog 126 5 22:=⟨_,_,0,Tryz.underlying126,rfl,rfl,by kernel_rfl⟩
instance Zie:Fld Tryz.prog 126 6 23:=⟨_,_,0,Tryz.underlying126,rfl,rfl,by kernel_rfl⟩
instance Zif:Fld Tryz.prog 126 7 24:=⟨_,_,0,Tryz.underlying126,rfl,rfl,by kernel_rfl⟩
abbrev Zeq:=uM Tryz.underlying137
instance ZkW:Siz Tryz.prog 137 4:=⟨by kernel_rfl⟩
instance ZkX:Byt Tryz.prog 137 32:=⟨by kernel_rfl⟩
instance ZkY:Zer Tryz.prog 137 (.agg #[.int .i64 0,.int .i64 0,.int .i64 0,.int .i64 0]):=⟨by kernel_rfl⟩
instance Zig:Fld Tryz.prog 137 0 0:=⟨_,_,0,Tryz.underlying137,rfl,rfl,by kernel_rfl⟩
instance Zih:Fld Tryz.prog 137 1 1:=⟨_,_,0,Tryz.underlying137,rfl,rfl,by kernel_rfl⟩
instance Zii:Fld Tryz.prog 137 2 2:=⟨_,_,0,Tryz.underlying137,rfl,rfl,by kernel_rfl⟩
instance Zij:Fld Tryz.prog 137 3 3:=⟨_,_,0,Tryz.underlying137,rfl,rfl,by kernel_rfl⟩
abbrev Zes:=uM Tryz.underlying141
instance ZkZ:Siz Tryz.prog 141 3:=⟨by kernel_rfl⟩
instance Zl0:Byt Tryz.prog 141 24:=⟨by kernel_rfl⟩
instance Zl1:Zer Tryz.prog 141 (.agg #[.int .i64 0,.int .i64 0,.int .i64 0]):=⟨by kernel_rfl⟩
instance Zik:Fld Tryz.prog 141 0 0:=⟨_,_,0,Tryz.underlying141,rfl,rfl,by kernel_rfl⟩
instance Zil:Fld Tryz.prog 141 1 1:=⟨_,_,0,Tryz.underlying141,rfl,rfl,by kernel_rfl⟩
instance Zim:Fld Tryz.prog 141 2 2:=⟨_,_,0,Tryz.underlying141,rfl,rfl,by kernel_rfl⟩
abbrev Zet:=uM Tryz.underlying143
instance Zl2:Siz Tryz.prog 143 4:=⟨by kernel_rfl⟩
abbrev Zeu:=uM Tryz.underlying145
instance Zl3:Siz Tryz.prog 145 6:=⟨by kernel_rfl⟩
instance Zl4:Byt Tryz.prog 145 48:=⟨by kernel_rfl⟩
instance Zl5:Zer Tryz.prog 145 (.agg #[.int .i64 0,.int .i64 0,.int .i64 0,.int .i64 0,.int .i64 0,.int .i64 0]):=⟨by kernel_rfl⟩
instance Zin:Fld Tryz.prog 145 0 0:=⟨_,_,0,Tryz.underlying145,rfl,rfl,by kernel_rfl⟩
instance Zio:Fld Tryz.prog 145 1 1:=⟨_,_,0,Tryz.underlying145,rfl,rfl,by kernel_rfl⟩
abbrev Zev:=uM Tryz.underlying147
abbrev Zew:=uM Tryz.underlying149
abbrev Zex:=uM Tryz.underlying159
instance Zl6:Siz Tryz.prog 159 1:=⟨by kernel_rfl⟩
instance Zl7:Zer Tryz.prog 159 (.nilFunc):=⟨by kernel_rfl⟩
abbrev Zey:=uM Tryz.underlying167
instance Zl8:Siz Tryz.prog 167 4:=⟨by kernel_rfl⟩
instance Zl9:Byt Tryz.prog 167 40:=⟨by kernel_rfl⟩
instance Zla:Zer Tryz.prog 167 (.agg #[.int .i64 0,.int .i64 0,.string ByteArray.empty,.int .i64 0]):=⟨by kernel_rfl⟩
instance Zip:Fld Tryz.prog 167 0 0:=⟨_,_,0,Tryz.underlying167,rfl,rfl,by kernel_rfl⟩
instance Ziq:Fld Tryz.prog 167 1 1:=⟨_,_,0,Tryz.underlying167,rfl,rfl,by kernel_rfl⟩
instance Zir:Fld Tryz.prog 167 2 2:=⟨_,_,0,Tryz.underlying167,rfl,rfl,by kernel_rfl⟩
instance Zis:Fld Tryz.prog 167 3 3:=⟨_,_,0,Tryz.underlying167,rfl,rfl,by kernel_rfl⟩
abbrev Zez:=uM Tryz.underlying168
instance Zit:Fld Tryz.prog 170 0 0:=⟨_,_,0,Tryz.underlying170,rfl,rfl,by kernel_rfl⟩
instance Ziu:Fld Tryz.prog 170 1 1:=⟨_,_,0,Tryz.underlying170,rfl,rfl,by kernel_rfl⟩
instance Ziv:Fld Tryz.prog 170 2 2:=⟨_,_,0,Tryz.underlying170,rfl,rfl,by kernel_rfl⟩
abbrev ZeA:=uM Tryz.underlying187
instance Zlb:Siz Tryz.prog 187 9:=⟨by kernel_rfl⟩
instance Zlc:Zer Tryz.prog 187 (.agg #[.int .i64 0,.int .i64 0,.int .i64 0,.int .i64 0,.int .i64 0,.int .i64 0,.int .i64 0,.int .i64 0,.int .i64 0]):=⟨by kernel_rfl⟩
instance Ziw:Fld Tryz.prog 187 0 0:=⟨_,_,0,Tryz.underlying187,rfl,rfl,by kernel_rfl⟩
instance Zix:Fld Tryz.prog 187 1 1:=⟨_,_,0,Tryz.underlying187,rfl,rfl,by kernel_rfl⟩
instance Ziy:Fld Tryz.prog 187 2 2:=⟨_,_,0,Tryz.underlying187,rfl,rfl,by kernel_rfl⟩
instance Ziz:Fld Tryz.prog 187 3 3:=⟨_,_,0,Tryz.underlying187,rfl,rfl,by kernel_rfl⟩
instance ZiA:Fld Tryz.prog 187 4 4:=⟨_,_,0,Tryz.underlying187,rfl,rfl,by kernel_rfl⟩
instance ZiB:Fld Tryz.prog 187 5 5:=⟨_,_,0,Tryz.underlying187,rfl,rfl,by kernel_rfl⟩
instance ZiC:Fld Tryz.prog 187 6 6:=⟨_,_,0,Tryz.underlying187,rfl,rfl,by kernel_rfl⟩
instance ZiD:Fld Tryz.prog 187 7 7:=⟨_,_,0,Tryz.underlying187,rfl,rfl,by kernel_rfl⟩
instance ZiE:Fld Tryz.prog 187 8 8:=⟨_,_,0,Tryz.underlying187,rfl,rfl,by kernel_rfl⟩
abbrev ZeB:=uM Tryz.underlying204
instance Zld:Zer Tryz.prog 204 (.slice none 0 0):=⟨by kernel_rfl⟩
abbrev ZeC:=uM Tryz.underlying210
instance Zle:Siz Tryz.prog 210 2:=⟨by kernel_rfl⟩
instance Zlf:Zer Tryz.prog 210 (.agg #[.int .i64 0,.int .i64 0]):=⟨by kernel_rfl⟩
instance ZiF:Fld Tryz.prog 210 0 0:=⟨_,_,0,Tryz.underlying210,rfl,rfl,by kernel_rfl⟩
instance ZiG:Fld Tryz.prog 210 1 1:=⟨_,_,0,Tryz.underlying210,rfl,rfl,by kernel_rfl⟩
abbrev ZeD:=uM Tryz.underlying238
abbrev ZeE:=uM Tryz.underlying262
abbrev ZeF:=uM Tryz.underlying263
abbrev ZeG:=uM Tryz.underlying291
instance Zlg:Siz Tryz.prog 291 3:=⟨by kernel_rfl⟩
instance Zlh:Zer Tryz.prog 291 (.agg #[.int .i64 0,.int .i64 0,.int .i64 0]):=⟨by kernel_rfl⟩
instance ZiH:Fld Tryz.prog 291 0 0:=⟨_,_,0,Tryz.underlying291,rfl,rfl,by kernel_rfl⟩
instance ZiI:Fld Tryz.prog 291 1 1:=⟨_,_,0,Tryz.underlying291,rfl,rfl,by kernel_rfl⟩
instance ZiJ:Fld Tryz.prog 291 2 2:=⟨_,_,0,Tryz.underlying291,rfl,rfl,by kernel_rfl⟩
abbrev ZeH:=uM Tryz.underlying303
abbrev ZeI:=uM Tryz.underlying322
abbrev ZeJ:=uM Tryz.underlying326
abbrev ZeK:=uM Tryz.underlying329
instance Zli:Siz Tryz.prog 329 2:=⟨by kernel_rfl⟩
instance Zlj:Byt Tryz.prog 329 16:=⟨by kernel_rfl⟩
instance Zlk:Zer Tryz.prog 329 (.agg #[.int .i64 0,.int .i64 0]):=⟨by kernel_rfl⟩
instance ZiK:Fld Tryz.prog 329 0 0:=⟨_,_,0,Tryz.underlying329,rfl,rfl,by kernel_rfl⟩
abbrev ZeL:=uM Tryz.underlying340
instance Zll:Siz Tryz.prog 342 2:=⟨by kernel_rfl⟩
instance ZiL:Fld Tryz.prog 342 1 1:=⟨_,_,0,Tryz.underlying342,rfl,rfl,by kernel_rfl⟩
abbrev ZeM:=uM Tryz.underlying343
instance Zlm:Siz Tryz.prog 343 8:=⟨by kernel_rfl⟩
instance Zln:Zer Tryz.prog 343 (.agg #[.nilFunc,.nilFunc,.nilFunc,.nilFunc,.nilFunc,.nilFunc,.nilFunc,.nilFunc]):=⟨by kernel_rfl⟩
abbrev ZeN:=uM Tryz.underlying345
abbrev ZiM:=mkF Tryz.func18
abbrev ZiN:=mkF Tryz.func20
abbrev ZiO:=mkF Tryz.func22
abbrev ZiP:=mkF Tryz.func23
abbrev ZiQ:=mkF Tryz.func24
abbrev ZiR:=mkF Tryz.func25
abbrev ZiS:=mkF Tryz.func26
abbrev ZiT:=mkF Tryz.func57
abbrev ZiU:=mkF Tryz.func58
abbrev ZiV:=mkF Tryz.func59
abbrev ZiW:=mkF Tryz.func61
abbrev ZiX:=mkF Tryz.func62
abbrev ZiY:=mkF Tryz.func63
abbrev ZiZ:=mkF Tryz.func64
abbrev Zj0:=mkF Tryz.func65
abbrev Zj1:=mkF Tryz.func66
abbrev Zj2:=mkF Tryz.func67
abbrev Zj3:=mkF Tryz.func68
abbrev Zj4:=mkF Tryz.func69
abbrev Zj5:=mkF Tryz.func70
abbrev Zj6:=mkF Tryz.func71
abbrev Zj7:=mkF Tryz.func72
abbrev Zj8:=mkF Tryz.func73
abbrev Zj9:=mkF Tryz.func74
abbrev Zja:=mkF Tryz.func75
abbrev Zjb:=mkF Tryz.func78
abbrev Zjc:=mkF Tryz.func82
abbrev Zjd:=mkF Tryz.func83
abbrev ZeO:=mkF Tryz.func109
abbrev ZeP:=mkF Tryz.func110
abbrev ZeQ:=mkF Tryz.func111
abbrev ZeR:=mkF Tryz.func112
abbrev ZeS:=mkF Tryz.func117
abbrev ZeT:=mkF Tryz.func118
abbrev ZeU:=mkF Tryz.func119
abbrev ZeV:=mkF Tryz.func120
abbrev ZeW:=mkF Tryz.func121
abbrev ZeX:=mkF Tryz.func122
abbrev ZeY:=mkF Tryz.func123
abbrev ZeZ:=mkF Tryz.func124
abbrev Zf0:=mkF Tryz.func125
abbrev Zf1:=mkF Tryz.func126
abbrev Zf2:=mkF Tryz.func127
abbrev Zf3:=mkF Tryz.func128
abbrev Zf4:=mkF Tryz.func129
abbrev Zf5:=mkF Tryz.func130
abbrev Zf6:=mkF Tryz.func131
abbrev Zf7:=mkF Tryz.func132
abbrev Zf8:=mkF Tryz.func133
abbrev Zf9:=mkF Tryz.func134
abbrev Zfa:=mkF Tryz.func135
abbrev Zfb:=mkF Tryz.func139
abbrev Zfc:=mkF Tryz.func140
abbrev Zfd:=mkF Tryz.func141
abbrev Zfe:=mkF Tryz.func142
abbrev Zff:=mkF Tryz.func143
abbrev Zfg:=mkF Tryz.func144
abbrev Zfh:=mkF Tryz.func145
abbrev Zfi:=mkF Tryz.func146
abbrev Zfj:=mkF Tryz.func147
abbrev Zfk:=mkF Tryz.func148
abbrev Zfl:=mkF Tryz.func149
abbrev Zfm:=mkF Tryz.func150
abbrev Zfn:=mkF Tryz.func151
abbrev Zfo:=mkF Tryz.func152
abbrev Zfp:=mkF Tryz.func153
abbrev Zfq:=mkF Tryz.func154
abbrev Zfr:=mkF Tryz.func155
abbrev Zfs:=mkF Tryz.func156
abbrev Zft:=mkF Tryz.func157
abbrev Zfu:=mkF Tryz.func158
abbrev Zfv:=mkF Tryz.func159
abbrev Zfw:=mkF Tryz.func165
abbrev Zfx:=mkF Tryz.func167
abbrev Zfy:=mkF Tryz.func168
abbrev Zfz:=mkF Tryz.func176
abbrev ZfA:=mkF Tryz.func202
abbrev ZfB:=mkF Tryz.func203
abbrev ZfC:=mkF Tryz.func204
abbrev ZfD:=mkF Tryz.func205
abbrev ZfE:=mkF Tryz.func206
abbrev ZfF:=mkF Tryz.func207
abbrev ZfG:=mkF Tryz.func208
abbrev ZfH:=mkF Tryz.func209
abbrev ZfI:=mkF Tryz.func210
abbrev ZfJ:=mkF Tryz.func211
abbrev ZfK:=mkF Tryz.func212
abbrev ZfL:=mkF Tryz.func213
abbrev ZfM:=mkF Tryz.func214
abbrev ZfN:=mkF Tryz.func215
abbrev ZfO:=mkF Tryz.func216
abbrev ZfP:=mkF Tryz.func217
abbrev ZfQ:=mkF Tryz.func218
abbrev ZfR:=mkF Tryz.func219
abbrev ZfS:=mkF Tryz.func220
abbrev ZfT:=mkF Tryz.func221
abbrev ZfU:=mkF Tryz.func222
abbrev ZfV:=mkF Tryz.func223
abbrev ZfW:=mkF Tryz.func229
abbrev ZfX:=mkF Tryz.func230
abbrev ZfY:=mkF Tryz.func231
abbrev ZfZ:=mkF Tryz.func232
abbrev Zg0:=mkF Tryz.func233
abbrev Zg1:=mkF Tryz.func234
abbrev Zg2:=mkF Tryz.func235
abbrev Zg3:=mkF Tryz.func236
abbrev Zg4:=mkF Tryz.func238
abbrev Zg5:=mkF Tryz.func239
abbrev Zg6:=mkF Tryz.func251
abbrev Zg7:=mkF Tryz.func267
abbrev Zg8:=mkF Tryz.func268
abbrev Zg9:=mkF Tryz.func269
abbrev Zga:=mkF Tryz.func270
abbrev Zgb:=mkF Tryz.func271
abbrev Zgc:=mkF Tryz.func272
abbrev Zgd:=mkF Tryz.func273
abbrev Zge:=mkF Tryz.func274
abbrev Zgf:=mkF Tryz.func275
abbrev Zgg:=mkF Tryz.func276
abbrev Zgh:=mkF Tryz.func278
abbrev Zgi:=mkF Tryz.func280
abbrev Zgj:=mkF Tryz.func281
abbrev Zgk:=mkF Tryz.func282
abbrev Zgl:=mkF Tryz.func283
abbrev Zgm:=mkF Tryz.func284
abbrev Zgn:=mkF Tryz.func285
abbrev Zgo:=mkF Tryz.func286
abbrev Zgp:=mkF Tryz.func300
abbrev Zgq:=mkF Tryz.func305
abbrev Zgr:=mkF Tryz.func306
abbrev Zgs:=mkF Tryz.func307
abbrev Zgt:=mkF Tryz.func310
abbrev Zgu:=mkF Tryz.func312
abbrev Zgv:=mkF Tryz.func325
abbrev Zgw:=mkF Tryz.func329
abbrev Zgx:=mkF Tryz.func330
abbrev Zgy:=mkF Tryz.func331
abbrev Zgz:=mkF Tryz.func339
abbrev ZgA:=mkF Tryz.func341
abbrev ZgB:=mkF Tryz.func342
abbrev ZgC:=mkF Tryz.func344
abbrev ZgD:=mkF Tryz.func346
abbrev ZgE:=mkF Tryz.func347
abbrev ZgF:=mkF Tryz.func348
abbrev ZgG:=mkF Tryz.func354
abbrev CC (f:Nat) (a:Array Value) (w:World) (G:Value→World→Prop):=Calls Tryz.prog f a w (Ret G)
attribute [instance] ZkP ZkQ ZkR ZkS ZhO ZhP ZhQ ZhR ZhS ZhT ZhU ZhV ZhW ZhX ZhY ZhZ Zi0 Zi1 Zi2 Zi3 Zi4 Zi5 Zi6 Zi7 Zeo Zep Zeq Zes Zet Zeu Zev Zew Zex Zey Zez ZeA ZeB ZeC ZeD ZeE ZeF ZeG ZeH ZeI ZeJ ZeK ZeL ZeM ZeN ZiM ZiN ZiO ZiP ZiQ ZiR ZiS ZiT ZiU ZiV ZiW ZiX ZiY ZiZ Zj0 Zj1 Zj2 Zj3 Zj4 Zj5 Zj6 Zj7 Zj8 Zj9 Zja Zjb Zjc Zjd ZeO ZeP ZeQ ZeR ZeS ZeT ZeU ZeV ZeW ZeX ZeY ZeZ Zf0 Zf1 Zf2 Zf3 Zf4 Zf5 Zf6 Zf7 Zf8 Zf9 Zfa Zfb Zfc Zfd Zfe Zff Zfg Zfh Zfi Zfj Zfk Zfl Zfm Zfn Zfo Zfp Zfq Zfr Zfs Zft Zfu Zfv Zfw Zfx Zfy Zfz ZfA ZfB ZfC ZfD ZfE ZfF ZfG ZfH ZfI ZfJ ZfK ZfL ZfM ZfN ZfO ZfP ZfQ ZfR ZfS ZfT ZfU ZfV ZfW ZfX ZfY ZfZ Zg0 Zg1 Zg2 Zg3 Zg4 Zg5 Zg6 Zg7 Zg8 Zg9 Zga Zgb Zgc Zgd Zge Zgf Zgg Zgh Zgi Zgj Zgk Zgl Zgm Zgn Zgo Zgp Zgq Zgr Zgs Zgt Zgu Zgv Zgw Zgx Zgy Zgz ZgA ZgB ZgC ZgD ZgE ZgF ZgG
end Go.Proofs.YtjdjdoefppebkaaGreatDoor
namespace Go.Eng
open Go Go.RowKit Go.Proofs
structure Stp (S:List Nat) (w w':World):Prop where
 os:w'.os=w.os
 tape:w'.tape=w.tape
 output:w'.output=w.output
 size:w.heap.size≤w'.heap.size
 block:∀ b,b<w.heap.size→b∉S→w'.heap[b]?=w.heap[b]?
theorem Stp.refl (S:List Nat) (w:World):Stp S w w:=⟨rfl,rfl,rfl,Xk _,fun _ _ _=>rfl⟩
theorem Stp.trans {S:List Nat} {a b c:World} (h:Stp S a b) (k:Stp S b c):Stp S a c:=
 ⟨k.os.trans h.os,k.tape.trans h.tape,k.output.trans h.output,Xg h.size k.size,fun i hi hn=>(k.block i (Xb hi h.size) hn).trans (h.block i hi hn)⟩
theorem Stp.mono {S S':List Nat} {a b:World} (h:Stp S a b) (hs:∀ x∈S,x∈S'):Stp S' a b:=⟨h.os,h.tape,h.output,h.size,fun i hi hn=>h.block i hi (fun hx=>hn (hs i hx))⟩
theorem Stp.own {S S':List Nat} {a b c:World} (h:Stp S a b) (k:Stp S' b c) (hs:∀ x∈S',x∈S∨a.heap.size≤x):Stp S a c:=
 ⟨k.os.trans h.os, k.tape.trans h.tape, k.output.trans h.output, Xg h.size k.size, fun i hi hn => (k.block i (Xb hi h.size) (fun hx => by
   rcases hs i hx with h1|h1
   exact hn h1
   omega)).trans (h.block i hi hn)⟩
theorem Stp.below {a b:World} (h:Stp [] a b):Below a.heap.size a b:=⟨h.os,h.tape,h.output,h.size,fun i hi=>h.block i hi (by simp)⟩
theorem Stp.of_below {a b:World} (h:Below a.heap.size a b):Stp [] a b:=⟨h.os,h.tape,h.output,h.size,fun i hi _=>h.block i hi⟩
theorem Stp.cell {S:List Nat} {w w':World} (h:Stp S w w') {b o:Nat} {v:Value} (hb:b∉S) (hc:w.cell? ⟨b,o,none⟩=some v):w'.cell? ⟨b,o,none⟩=some v:=by
 have hlt:b<w.heap.size:=block_lt_of_cell (a:=⟨b,o,none⟩) hc
 rw [← hc]
 exact World.cell?_of_block (w:=w) (h.block b hlt hb)
theorem Stp.drew (S:List Nat) (w:World):Stp S w w.drew:=⟨rfl,rfl,rfl,Xk _,fun _ _ _=>rfl⟩
theorem Stp.alloc (S:List Nat) (w:World) (o:Obj):Stp S w (w.alloc o):=⟨rfl,rfl,rfl,by simp,fun k hk _=>Below.heap_alloc w o k hk⟩
theorem Stp.of_grown {w w':World} {row:Option Nat} (h:w.grownBy w' row):Stp row.toList w w':=
 ⟨h.os,h.tape,h.output,h.size,fun k hk hn=>h.block k hk (fun e=>hn (by simp [← e]))⟩
class Z4 (α:Type) where
 k:Nat
 rep:List Nat→World→α→List Value→Prop
 len:∀ {X:List Nat} {w:World} {x:α} {cs:List Value},rep X w x cs→cs.length=k
 one:∀ {X:List Nat} {w:World} {x:α} {cs:List Value},rep X w x cs→∀ u∈cs,u.oneCell'=true
 ext:∀ {X S X':List Nat} {w w':World} {x:α} {cs:List Value},rep X w x cs→Stp S w w'→(∀ b∈S,b∈X)→(∀ b∈X',b∈X∨w.heap.size≤b)→rep X' w' x cs
class Z5 (α:Type) where
 k:Nat
 enc:α→List Value
 len:∀ x,(enc x).length=k
 one:∀ x,∀ u∈enc x,u.oneCell'=true
instance {α:Type} [Z5 α]:Z4 α where
 k:=Z5.k α
 rep:=fun _ _ x cs=>cs=Z5.enc x
 len:=fun h=>h ▸ Z5.len _
 one:=fun h=>h ▸ Z5.one _
 ext:=fun h _ _ _=>h
instance:Z5 Int where
 k:=1
 enc:=fun x=>[.int .i64 x]
 len:=fun _=>rfl
 one:=by intro x u hu;simp at hu;subst hu;rfl
instance:Z5 Bool where
 k:=1
 enc:=fun x=>[.bool x]
 len:=fun _=>rfl
 one:=by intro x u hu;simp at hu;subst hu;rfl
def SlV {α:Type} [Z4 α] (X:List Nat) (w:World) (v:Value) (xs:List α):Prop:=
 ∃ (p : Option Addr) (c : Nat), v = .slice p xs.length c ∧ xs.length ≤ c ∧ c ≤ maxLen ∧ (p = none → c = 0)∧
   ∀ i (h:i<xs.length),∃ b o cs,p=some ⟨b,o,none⟩∧b<w.heap.size∧b∉X∧Z4.rep X w xs[i] cs∧∀ j u,cs[j]?=some u→w.cell? ⟨b,o+i * Z4.k α+j,none⟩=some u
theorem SlV.ext {α:Type} [Z4 α] {X S X':List Nat} {w w':World} {v:Value} {xs:List α} (h:SlV X w v xs) (hS:Stp S w w') (h1:∀ b∈S,b∈X) (h2:∀ b∈X',b∈X∨w.heap.size≤b):SlV X' w' v xs:=by
 obtain ⟨p,c,hv,hl,hm,hn,hc⟩:=h
 refine ⟨p,c,hv,hl,hm,hn,fun i hi=>?_⟩
 obtain ⟨b,o,cs,hp,hb,hx,hr,hcell⟩:=hc i hi
 refine ⟨b,o,cs,hp,Xb hb hS.size,fun hbx=>?_,Z4.ext hr hS h1 h2,fun j u hu=>hS.cell (fun hbs=>hx (h1 b hbs)) (hcell j u hu)⟩
 rcases h2 b hbx with h|h
 exact hx h
 omega
theorem SlV.up {α:Type} [Z4 α] {X:List Nat} {w w':World} {v:Value} {xs:List α} (h:SlV X w v xs) (hS:Stp [] w w'):SlV X w' v xs:=
 h.ext hS (by simp) (fun b hb=>.inl hb)
theorem SlV.len {α:Type} [Z4 α] {X:List Nat} {w:World} {v:Value} {xs:List α} (h:SlV X w v xs):∃ p c,v=.slice p xs.length c:=let ⟨p,c,hv,_⟩:=h;⟨p,c,hv⟩
theorem SlV.cells {α:Type} [Z4 α] {X:List Nat} {w:World} {v:Value} {xs:List α} (h:SlV X w v xs):v.cells.toList=[v]:=by
 obtain ⟨p,c,rfl⟩:=h.len
 rfl
theorem SlV.one {α:Type} [Z4 α] {X:List Nat} {w:World} {v:Value} {xs:List α} (h:SlV X w v xs):v.oneCell'=true:=by
 obtain ⟨p,c,rfl⟩:=h.len
 rfl
theorem SlV.max {α:Type} [Z4 α] {X:List Nat} {w:World} {v:Value} {xs:List α} (h:SlV X w v xs):xs.length≤9223372036854775807:=by
 obtain ⟨p,c,hv,hl,hm,_⟩:=h
 simp only [maxLen] at hm
 omega
def Zq (v:Value) (i k j:Nat):Addr:=
 match v with
 | .slice (some a) _ _=>⟨a.block,a.off+i * k+j,none⟩
 | _=>⟨0,0,none⟩
def Blk (w:World) (b:Nat) (T:TypeId) (cs:List Value):Prop:=w.heap[b]?=some (.cells cs.toArray T (0,0))
theorem Blk.lt {w:World} {b T:Nat} {cs:List Value} (h:Blk w b T cs):b<w.heap.size:=(Array.getElem?_eq_some_iff.1 h).1
theorem Blk.ext {w w':World} {S:List Nat} {b T:Nat} {cs:List Value} (h:Blk w b T cs) (hS:Stp S w w') (hb:b∉S):Blk w' b T cs:=by
 unfold Blk at *
 rw [hS.block b (Blk.lt h) hb]
 exact h
theorem Blk.up {w w':World} {b T:Nat} {cs:List Value} (h:Blk w b T cs) (hS:Stp [] w w'):Blk w' b T cs:=h.ext hS (by simp)
theorem Blk.cell {w:World} {b T:Nat} {cs:List Value} (h:Blk w b T cs) {j:Nat} {u:Value} (hu:cs[j]?=some u):w.cell? ⟨b,j,none⟩=some u:=by
 unfold Blk at h
 simp [World.cell?,h,hu]
section rules
variable {P:Program} {n:Nat} {e:Env} {w:World} {d:Option Nat} {ty:TypeId} {pos:String} {af:Array Edge} {g:Option (Nat×Bool)}
theorem Z99 {α:Type} [Z4 α] {X:List Nat} {xs:List α} {v:Value} {x:Operand} {t:TypeId} {el:TypeId} {w₀:World} [hu:Und P t (.slice el)] (hx:ev e x=some v) (hs:SlV X w₀ v xs) :
 PR P n ⟨d,.call { callee:=.builtin .len,args:=#[x],argTypes:=#[t] },ty,pos,af,g⟩ e w (.int .i64 (xs.length:Int)):=by
 obtain ⟨p,c,rfl⟩:=hs.len
 exact ZaS hx
theorem Z8k {α:Type} [Z4 α] {X:List Nat} {xs:List α} {v:Value} {x y:Operand} {t:TypeId} {el k:Nat} [hu:Und P t (.slice el)] [hk:Siz P el k] {z:Int} {i:Nat} {w₀:World}
 (hx:ev e x=some v) (hs:SlV X w₀ v xs) (hy:ev e y=some (.int .i64 z)) (hz:z=(i:Int)) (hi:i<xs.length) :
 PR P n ⟨d,.indexAddr t x y,ty,pos,af,g⟩ e w (.pointer (some (Zq v i k 0))):=by
 refine ⟨fun a ha=>?_⟩
 obtain ⟨p,c,rfl,hl,hm,hn,hc⟩:=hs
 obtain ⟨b,o,cs,rfl,_⟩:=hc i hi
 subst hz
 have h0:(0:Int)≤(i:Int)∧(i:Int)<(xs.length:Int):=by omega
 have hr:(Instr.indexAt t (.slice (some ⟨b,o,none⟩) xs.length c) (.int .i64 (i:Int))).run P w=.ok (.pointer (some ⟨b,o+i * k,none⟩)) w:=by
  simp only [Instr.indexAt,asIntOf]
  simp [run_underlying hu.h,Siz.run,Addr.add_lit,hi]
 simp [execOp,ha.ev hx,ha.ev hy,hr,Zq]
theorem Z1W {x:Operand} {t:TypeId} {v:Value} {i k j m off:Nat} [hf:Fld P t m off] (hx:ev e x=some (.pointer (some (Zq v i k j))))
 (hv:∃ p l c,v=.slice (some p) l c):PR P n ⟨d,.fieldAddr t x m,ty,pos,af,g⟩ e w (.pointer (some (Zq v i k (j+off)))):=by
 obtain ⟨p,l,c,rfl⟩:=hv
 exact ⟨fun a ha=>by simp [execOp,ha.ev hx,Zq,Z45,YaC]⟩
theorem SlV.isSome {α:Type} [Z4 α] {X:List Nat} {v:Value} {xs:List α} {i:Nat} (h:SlV X w v xs) (hi:i<xs.length):∃ p l c,v=.slice (some p) l c:=by
 obtain ⟨p,c,rfl,_,_,_,hc⟩:=h
 obtain ⟨b,o,cs,rfl,_⟩:=hc i hi
 exact ⟨_,_,_,rfl⟩
theorem SlV.cell {α:Type} [Z4 α] {X:List Nat} {v:Value} {xs:List α} {i:Nat} (h:SlV X w v xs) (hi:i<xs.length):∃ cs,Z4.rep X w xs[i] cs∧∀ j u,cs[j]?=some u→w.cell? (Zq v i (Z4.k α) j)=some u:=by
 obtain ⟨p,c,rfl,_,_,_,hc⟩:=h
 obtain ⟨b,o,cs,rfl,_,_,hr,hcell⟩:=hc i hi
 exact ⟨cs,hr,fun j u hu=>by simpa [Zq] using hcell j u hu⟩
theorem SlV.cellF {α:Type} [Z5 α] {X:List Nat} {v:Value} {xs:List α} {i:Nat} (h:SlV X w v xs) (hi:i<xs.length) {j:Nat} {u:Value} (hu:(Z5.enc xs[i])[j]?=some u):w.cell? (Zq v i (Z5.k α) j)=some u:=by
 obtain ⟨cs,hr,hc⟩:=h.cell hi
 have hr':cs=Z5.enc xs[i]:=hr
 subst hr'
 exact hc j u hu
theorem Z2J {α:Type} [Z5 α] {X:List Nat} {xs:List α} {v u:Value} {i j k:Nat} {x:Operand} {t:TypeId} {D:TypeDesc} [hu:Und P t D] (hA:JA D=false) (hx:ev e x=some (.pointer (some (Zq v i k j))))
 (hs:SlV X w v xs) (hi:i<xs.length) (hk:k=Z5.k α) (hc:(Z5.enc xs[i])[j]?=some u):PR P n ⟨d,.load t x,ty,pos,af,g⟩ e w u:=
 Z1V hA hx (by subst hk;exact hs.cellF hi hc)
theorem Z78 {α:Type} [Z5 α] {X:List Nat} {xs:List α} {v:Value} {us:List Value} {i j k m:Nat} {x:Operand} {t:TypeId} {D:TypeDesc} [hu:Und P t D] (hA:JA D=true) [hsz:Siz P t m] (hx:ev e x=some (.pointer (some (Zq v i k j))))
 (hs:SlV X w v xs) (hi:i<xs.length) (hk:k=Z5.k α) (hl:us.length=m) (hc:((Z5.enc xs[i]).drop j).take m=us):PR P n ⟨d,.load t x,ty,pos,af,g⟩ e w (.agg us.toArray):=by
 obtain ⟨p,l,c,hv⟩:=hs.isSome hi
 have hcell:=fun (q:Nat) (u:Value) (h:(Z5.enc xs[i])[q]?=some u)=>hs.cellF hi h
 subst hv
 refine Z4K hA hx hl (fun q u hq=>?_)
 have h1:(Z5.enc xs[i])[j+q]?=some u:=by
  rw [← hc,List.getElem?_take] at hq
  split at hq
  simpa using hq
  cases hq
 have:=hcell (j+q) u h1
 subst hk
 simpa [Zq,YaC] using this
theorem Z46 {α:Type} [Z5 α] {X:List Nat} {xs:List α} {v:Value} {i k:Nat} {x:Operand} {t:TypeId} {D:TypeDesc} [hu:Und P t D] (hA:JA D=true) [hsz:Siz P t k] (hx:ev e x=some (.pointer (some (Zq v i k 0))))
 (hs:SlV X w v xs) (hi:i<xs.length) (hk:k=Z5.k α):PR P n ⟨d,.load t x,ty,pos,af,g⟩ e w (.agg (Z5.enc xs[i]).toArray):=
 Z78 hA hx hs hi hk (by rw [hk];exact Z5.len _) (by rw [List.drop_zero,Xn (by rw [hk,Z5.len];exact Xk _)])
theorem ZT {b T o:Nat} {cs:List Value} {u:Value} {x:Operand} {t:TypeId} {D:TypeDesc} [hu:Und P t D] (hA:JA D=false) (hx:ev e x=some (.pointer (some ⟨b,o,none⟩))) (hb:Blk w b T cs) (hc:cs[o]?=some u) :
 PR P n ⟨d,.load t x,ty,pos,af,g⟩ e w u:=Z1V hA hx (hb.cell hc)
theorem Z0F {b T o m:Nat} {cs us:List Value} {x:Operand} {t:TypeId} {D:TypeDesc} [hu:Und P t D] (hA:JA D=true) [hsz:Siz P t m] (hx:ev e x=some (.pointer (some ⟨b,o,none⟩))) (hb:Blk w b T cs)
 (hl:us.length=m) (hc:(cs.drop o).take m=us):PR P n ⟨d,.load t x,ty,pos,af,g⟩ e w (.agg us.toArray):=by
 refine Z4K hA hx hl (fun q u hq=>hb.cell ?_)
 rw [← hc,List.getElem?_take] at hq
 split at hq
 simpa using hq
 cases hq
theorem Z0G {b T m:Nat} {cs:List Value} {x:Operand} {t:TypeId} {D:TypeDesc} [hu:Und P t D] (hA:JA D=true) [hsz:Siz P t m] (hx:ev e x=some (.pointer (some ⟨b,0,none⟩))) (hb:Blk w b T cs)
 (hl:cs.length=m):PR P n ⟨d,.load t x,ty,pos,af,g⟩ e w (.agg cs.toArray):=
 Z0F hA hx hb hl (by rw [List.drop_zero,Xn (by omega)])
def Z6o (w:World) (T:TypeId) (cs:List Value) (v:Value) (w':World):Prop:=∃ b,v=.pointer (some ⟨b,0,none⟩)∧w.heap.size≤b∧Blk w' b T cs∧Stp [] w w'
theorem ZaT (w:World) (T:TypeId) (cs:List Value):Z6o w T cs (.pointer (some ⟨w.heap.size,0,none⟩)) (w.alloc (.cells cs.toArray T)):=
 ⟨_,rfl,Xk _,heap_alloc_new w _,Stp.alloc _ _ _⟩
theorem Jj {o:Oper} {G:Value→World→Prop} {v:Value} {w':World} (h:∀ a,Has n e a→(execOp a.eval o).run P w=.ok (.value v) w') (hg:G v w'):OE P n o e w G:=
 ⟨fun a ha Q=>by unfold Oper.wp;rw [h a ha];exact ⟨v,rfl,hg⟩⟩
theorem Z6p {o:Oper} {G:Value→World→Prop} {w':World} (h:∀ a,Has n e a→(execOp a.eval o).run P w=.ok .skip w') (hg:G undef w'):OE P n o e w G:=
 ⟨fun a ha Q=>by unfold Oper.wp;rw [h a ha];exact ⟨undef,rfl,hg⟩⟩
theorem OE.mono {o:Oper} {G G':Value→World→Prop} (h:OE P n o e w G) (hg:∀ v w',G v w'→G' v w'):OE P n o e w G':=
 ⟨fun a ha Q=>Oper.wp_mono (fun a' w' ⟨v,h1,h2⟩=>⟨v,h1,hg v w' h2⟩) (h.h a ha Q)⟩
theorem Z8 {t:TypeId} {z:Value} [hz:Zer P t z]:OE P n ⟨d,.alloc t,ty,pos,af,g⟩ e w (Z6o w t z.cells.toList):=
 Jj (v:=.pointer (some ⟨w.heap.size,0,none⟩)) (w':=w.alloc (.cells z.cells t)) (fun a ha=>by
  simp [execOp,Instr.alloc,Zer.run,newVar,newRow,newObj];rfl) (by simpa using ZaT w t z.cells.toList)
theorem Zl {t:TypeId} {x:Operand} {v:Value} (hx:ev e x=some v):OE P n ⟨d,.box t x,ty,pos,af,g⟩ e w (Z6o w t v.cells.toList):=
 Jj (v:=.pointer (some ⟨w.heap.size,0,none⟩)) (w':=w.alloc (.cells v.cells t)) (fun a ha=>by
  simp [execOp,Instr.box,ha.ev hx,newVar,newRow,newObj];rfl) (by simpa using ZaT w t v.cells.toList)
theorem ZcE {α:Type} [Z4 α] {X:List Nat} {w₀:World} {xs:List α} {t:TypeId} {x:Operand} {v:Value} (hx:ev e x=some v) (hs:SlV X w₀ v xs):OE P n ⟨d,.box t x,ty,pos,af,g⟩ e w (Z6o w t [v]):=by
 rw [← hs.cells]
 exact Zl hx
theorem Z2K (w:World) (b:Nat) (cs:Array Value):Stp [b] w (w.setRow b cs):=
 ⟨rfl,rfl,rfl,by simp,fun k hk hn=>setRow_other w b k cs (by simpa using hn)⟩
theorem Z79 {b T o m t:Nat} {cs us:List Value} {x y:Operand} {u:Value} [hsz:Siz P t m] (hx:ev e x=some (.pointer (some ⟨b,o,none⟩))) (hy:ev e y=some u) (hu:u.cells.toList=us) (hm:us.length=m) (h1:∀ c∈us,c.oneCell'=true)
 (hb:Blk w b T cs) (hl:o+us.length≤cs.length):OE P n ⟨d,.store t x y,ty,pos,af,g⟩ e w (fun _ w'=>Stp [b] w w'∧Blk w' b T (cs.take o++us++cs.drop (o+us.length))):=by
 have hst:=run_storeCells_at P b o T us 0 cs.toArray w hb (by simpa using hl) h1
 refine Z6p (w':=w.setRow b (cs.take o++us++cs.drop (o+us.length)).toArray) (fun a ha=>?_) ⟨Z2K _ _ _,setRow_heap w b cs.toArray _ T (0,0) hb⟩
 have hcs:u.cells.size=m:=by rw [← hm,← hu,X4]
 simp only [Nat.add_zero] at hst
 simp [execOp,ha.ev hx,ha.ev hy,Instr.storeAt,Instr.sureAddr,storeVar,Siz.run,hcs,hu,hst]
theorem Z2 {b T m t:Nat} {cs us:List Value} {x y:Operand} {u:Value} [hsz:Siz P t m] (hx:ev e x=some (.pointer (some ⟨b,0,none⟩))) (hy:ev e y=some u) (hu:u.cells.toList=us) (hm:us.length=m) (h1:∀ c∈us,c.oneCell'=true)
 (hb:Blk w b T cs) (hl:us.length=cs.length):OE P n ⟨d,.store t x y,ty,pos,af,g⟩ e w (fun _ w'=>Stp [b] w w'∧Blk w' b T us):=
 (Z79 hx hy hu hm h1 hb (by omega)).mono (fun _ w' ⟨h2,h3⟩=>⟨h2,by simpa [hl] using h3⟩)
theorem Zg {b T o t:Nat} {cs:List Value} {x y:Operand} {u:Value} [hsz:Siz P t 1] (hx:ev e x=some (.pointer (some ⟨b,o,none⟩))) (hy:ev e y=some u) (hu:u.cells.toList=[u]) (h1:u.oneCell'=true)
 (hb:Blk w b T cs) (hl:o<cs.length):OE P n ⟨d,.store t x y,ty,pos,af,g⟩ e w (fun _ w'=>Stp [b] w w'∧Blk w' b T (cs.set o u)):=
 (Z79 hx hy hu rfl (by simpa using h1) hb (by simp; omega)).mono (fun _ w' ⟨h2, h3⟩ => ⟨h2, by
   rw [List.set_eq_take_append_cons_drop,if_pos hl]
   simpa using h3⟩)
end rules
def ob:Value→List Nat
 | .slice (some a) _ _=>[a.block]
 | _=>[]
theorem ZaU (v:Value):v.ownBlock.toList=ob v:=by
 cases v<;>try rfl
 rename_i a _ _
 cases a<;>rfl
def Row {α:Type} [Z4 α] (X:List Nat) (w:World) (base T:Nat) (v:Value) (xs:List α):Prop:=
 ∃ css:List (List Value),css.length=xs.length∧(∀ i (h:i<xs.length) (h':i<css.length),Z4.rep (ob v++X) w xs[i] css[i])∧w.ownsRow base T (Z4.k α) v xs.length css.flatten
section row
variable {α:Type} [Z4 α] {X:List Nat} {w w':World} {base T:Nat} {v:Value} {xs:List α}
theorem Row.nil:Row (α:=α) X w base T (.slice none 0 0) []:=
 ⟨[],rfl,fun i h=>absurd h (Xs _),by simpa using World.ownsRow_nil w base T (Z4.k α)⟩
theorem Row.ob_le (h:Row X w base T v xs):∀ b∈ob v,base≤b∧b<w.heap.size:=by
 obtain ⟨css,_,_,ho⟩:=h
 intro b hb
 rw [← ZaU] at hb
 exact ho.lt b (by simpa using hb)
theorem Row.ext {S X':List Nat} (h:Row X w base T v xs) (hS:Stp S w w') (h1:∀ b∈S,b∈X∧b∉ob v) (h2:∀ b∈X',b∈X∨w.heap.size≤b):Row X' w' base T v xs:=by
 obtain ⟨css,hl,hr,ho⟩:=h
 refine ⟨css,hl,fun i hi hi'=>Z4.ext (hr i hi hi') hS (fun b hb=>by simp [(h1 b hb).1]) (fun b hb=>?_),?_⟩
 simp only [Xt] at hb ⊢
 rcases hb with hb|hb
 exact .inl (.inl hb)
 rcases h2 b hb with h|h
 exact .inl (.inr h)
 exact .inr h
 refine ⟨ho.1,?_⟩
 rcases ho.2 with hn|⟨q,cap,cur,rfl,hb,hg,rest⟩
 exact .inl hn
 refine .inr ⟨q,cap,cur,rfl,hb,?_,rest⟩
 rw [hS.block q (Array.getElem?_eq_some_iff.1 hg).1 (fun hq=>(h1 q hq).2 (by simp [ob]))]
 exact hg
theorem Row.up (h:Row X w base T v xs) (hS:Stp [] w w'):Row X w' base T v xs:=h.ext hS (by simp) (fun b hb=>.inl hb)
theorem Z0i {k:Nat}:∀ (css:List (List Value)),(∀ c∈css,c.length=k)→∀ (i:Nat) (hi:i<css.length) (j:Nat) (u:Value),css[i][j]?=some u→css.flatten[i * k+j]?=some u
 | [],_,i,hi,_,_,_=>absurd hi (Xs _)
 | c :: r, hk, 0, _, j, u, hu => by
   have hj:j<c.length:=(List.getElem?_eq_some_iff.1 hu).1
   simp only [XS,Nat.zero_mul,X8]
   rw [List.getElem?_append_left hj]
   exact hu
 | c :: r, hk, i + 1, hi, j, u, hu => by
   have ih:=Z0i r (fun c hc=>hk c (by simp [hc])) i (by simpa using hi) j u (by simpa using hu)
   have hc:=hk c (by simp)
   simp only [XS]
   rw [List.getElem?_append_right (by rw [hc,XW];omega),hc]
   rw [show (i+1) * k+j - k=i * k+j by rw [XW];omega]
   exact ih
theorem Row.slv (h:Row X w base T v xs) (hX:∀ b∈X,b<base):SlV X w v xs:=by
 obtain ⟨css,hl,hr,ho⟩:=h
 have hk:∀ c∈css,c.length=Z4.k α:=by
  intro c hc
  obtain ⟨i,hi,rfl⟩:=Xj hc
  exact Z4.len (hr i (by omega) hi)
 rcases ho.2 with ⟨rfl,hn⟩|⟨q,cap,cur,rfl,hb,hg,hnc,hcm,hcs,ht⟩
 exact ⟨none,0,by rw [hn],by omega,by simp [maxLen],fun _=>rfl,fun i hi=>by omega⟩
 refine ⟨some ⟨q,0,none⟩,cap,rfl,hnc,hcm,fun h=>by simp at h,fun i hi=>?_⟩
 refine ⟨q,0,css[i]'(by omega),rfl,(Array.getElem?_eq_some_iff.1 hg).1,fun hx=>by have:=hX q hx;omega,?_,fun j u hu=>?_⟩
 exact Z4.ext (hr i hi (by omega)) (Stp.refl [] w) (by simp) (fun b hb=>.inl (by simp [hb]))
 have h1:=Z0i css hk i (by omega) j u hu
 rw [← ht,List.getElem?_take] at h1
 split at h1
 have h2:cur[i * Z4.k α+j]?=some u:=by simpa using h1
 rw [X8,cell_of_row w q _ cur T (0,0) hg]
 exact h2
 cases h1
theorem Z6q {P:Program} {t ty e size bytes:Nat} {i:TypeInfo} {z:Value} (ht:P.underlying t=some (.slice e)) (hi:P.info? e=some i) (hz:i.zero=some z)
 (hsize:i.size=size) (hby:i.bytes=bytes) {v:Value} {n:Nat} {cs:List Value} (hown:w.ownsRow base e size v n cs)
 {a:Addr} {m c:Nat} {news:List Value} (hl:news.length=m * size) (hnews:∀ j u,news[j]?=some u→w.cell? (a.add j)=some u) (h1:∀ u∈news,u.oneCell'=true)
 (h63:n+m≤maxLen) (hbytes:(n+m) * bytes≤140737488355328) {v':Value} {w':World} (hr:(Builtin.append_ #[t,t] ty #[v,.slice (some a) m c]).run P w=.ok v' w') :
 ∀ b∈ob v',b∈ob v∨w.heap.size≤b:=by
 subst hsize
 subst hby
 have hsmall:n+m≤9223372036854775807:=by simp only [maxLen] at h63;omega
 rcases hown.2 with ⟨rfl,rfl⟩|⟨q,cap,cur,rfl,hbg,hg,hnc,hcm,hcs,htake⟩
 by_cases hm:m=0
 subst hm
 have hn:news=[]:=List.eq_nil_of_length_eq_zero (by simpa using hl)
 subst hn
 have:(Builtin.append_ #[t,t] ty #[.slice none 0 0,.slice (some a) 0 c]).run P w=.ok (.slice none 0 0) w:=by
  simp [Builtin.append_,run_underlying ht,sizeOf,typeInfo,hi,Builtin.lenOf,Builtin.firstCells,loadCells,loadCellsFrom]
 rw [this] at hr
 cases hr
 simp [ob]
 have h:=run_append_nil (P:=P) w t ty e i z ht hi hz a m c news hl hnews (by omega) (by omega) (by have hb:=hbytes;simp only [X8] at hb;omega)
 rw [h] at hr
 cases hr
 simp [ob]
 by_cases hroom:n+m≤cap
 have hfit:n * i.size+news.length≤cur.size:=by rw [hl,hcs,← Nat.add_mul];exact XE _ hroom
 have h:=run_append_room (P:=P) w t ty e i ht hi q n cap cur hg a m c news hl hnews h1 hroom hfit
 rw [h] at hr
 cases hr
 simp [ob]
 have holds:∀ j u,cs[j]?=some u→w.cell? ((⟨q,0,none⟩:Addr).add j)=some u:=hown.cells (g:=q) rfl
 have h:=run_append_grow (P:=P) w t ty e i z ht hi hz ⟨q,0,none⟩ n cap cs hown.1 holds a m c news hl hnews (by omega) (by omega) (growslice_fits (by omega) hbytes)
 rw [h] at hr
 cases hr
 simp [ob]
def Z7a (X:List Nat) (w:World) (base T:Nat) (v:Value) (xs ys:List α) (v':Value) (w':World):Prop:=
 Row X w' base T v' (xs++ys)∧Stp (ob v) w w'∧∀ b∈ob v',b∈ob v∨w.heap.size≤b
theorem Jn {P:Program} {n:Nat} {e:Env} {d:Option Nat} {ty:TypeId} {pos:String} {af:Array Edge} {g:Option (Nat×Bool)} {x y:Operand} {t bytes:Nat} {u:Value} {z:Value} {ys:List α}
 [ht:Und P t (.slice T)] [hk:Siz P T (Z4.k α)] [hb:Byt P T bytes] [hz:Zer P T z] (hzs:z.cells.size=Z4.k α) (hpos:0<Z4.k α)
 (hx:ev e x=some v) (hy:ev e y=some u) (hrow:Row X w base T v xs) (hys:SlV (ob v++X) w u ys) (hbytes:(xs.length+ys.length) * bytes≤140737488355328) (hlen:xs.length+ys.length≤maxLen) (hbase:base≤w.heap.size) :
 OE P n ⟨d,.call { callee:=.builtin .append,args:=#[x,y],argTypes:=#[t,t] },ty,pos,af,g⟩ e w (Z7a X w base T v xs ys):=by
 obtain ⟨i,hi,hi1,hi2,hi3⟩:∃ i,P.info? T=some i∧i.size=Z4.k α∧i.bytes=bytes∧i.zero=some z:=by
  have a1:=hk.h
  have a2:=hb.h
  have a3:=hz.h
  cases hi:P.info? T with
  | none=>simp [hi] at a1
  | some i=>exact ⟨i,rfl,by simpa [hi] using a1,by simpa [hi] using a2,by simpa [hi] using a3⟩
 have hrow0:=hrow
 obtain ⟨css,hl,hr,ho⟩:=hrow
 obtain ⟨p,c,rfl,hyl,hym,hyn,hyc⟩:=hys
 have hsrc:∃ dss:List (List Value),dss.length=ys.length∧(∀ j (h:j<ys.length) (h':j<dss.length),Z4.rep (ob v++X) w ys[j] dss[j]∧∃ b o,p=some ⟨b,o,none⟩∧∀ q u,dss[j][q]?=some u→w.cell? ⟨b,o+j * Z4.k α+q,none⟩=some u):=by
  have:∀ j:Fin ys.length,∃ ds:List Value,Z4.rep (ob v++X) w ys[j] ds∧∃ b o,p=some ⟨b,o,none⟩∧∀ q u,ds[q]?=some u→w.cell? ⟨b,o+j * Z4.k α+q,none⟩=some u:=by
   intro j
   obtain ⟨b,o,cs,h1,h2,h3,h4,h5⟩:=hyc j j.2
   exact ⟨cs,h4,b,o,h1,h5⟩
  obtain ⟨f,hf⟩:=Classical.axiomOfChoice this
  refine ⟨List.ofFn f,by simp,fun j h h'=>?_⟩
  have:=hf ⟨j,h⟩
  simpa using this
 obtain ⟨dss,hdl,hd⟩:=hsrc
 have hdk:∀ c∈dss,c.length=Z4.k α:=by
  intro c hc
  obtain ⟨q,hq,rfl⟩:=Xj hc
  exact Z4.len (hd q (by omega) hq).1
 have hflen:∀ (l:List (List Value)),(∀ c∈l,c.length=Z4.k α)→l.flatten.length=l.length * Z4.k α:=by
  intro l
  induction l with
  | nil=>intro _;simp
  | cons c r ih=>intro h;simp only [XS,Xh,Xe,XW];rw [ih (fun c hc=>h c (by simp [hc])),h c (by simp)];omega
 have hone:∀ u∈dss.flatten,u.oneCell'=true:=by
  intro u hu
  obtain ⟨c,hc,huc⟩:=List.mem_flatten.1 hu
  obtain ⟨q,hq,rfl⟩:=Xj hc
  exact Z4.one (hd q (by omega) hq).1 u huc
 have fin:∀ (v':Value) (w':World),w'.ownsRow base T (Z4.k α) v' (xs.length+ys.length) (css.flatten++dss.flatten)→Stp (ob v) w w'→(∀ b∈ob v',b∈ob v∨w.heap.size≤b)→Z7a X w base T v xs ys v' w':=by
  intro v' w' ho' hS hb'
  have hX:∀ b∈ob v'++X,b∈ob v++X∨w.heap.size≤b:=by
   intro b hb
   simp only [Xt] at hb ⊢
   rcases hb with hb|hb
   rcases hb' b hb with h|h
   exact .inl (.inl h)
   exact .inr h
   exact .inl (.inr hb)
  have hSX:∀ b∈ob v,b∈ob v++X:=fun b hb=>by simp [hb]
  refine ⟨⟨css++dss,by simp [hl,hdl],fun i hi hi'=>?_,?_⟩,hS,hb'⟩
  by_cases hlt:i<xs.length
  rw [XB hlt,XB (by omega)]
  exact Z4.ext (hr i hlt (by omega)) hS hSX hX
  have hi2:i<xs.length+ys.length:=by simpa using hi
  rw [Xz (by omega),Xz (by omega)]
  have:=Z4.ext (hd (i - xs.length) (by omega) (by omega)).1 hS hSX hX
  simpa [hl] using this
  rw [List.flatten_append]
  simpa using ho'
 cases p with
 | none=>
   have hy0:ys.length=0:=by
    cases hys:ys with
    | nil=>rfl
    | cons y r=>
      obtain ⟨b,o,cs,hp,_⟩:=hyc 0 (by simp [hys])
      simp at hp
   have hc0:c=0:=hyn rfl
   subst hc0
   have hd0:dss=[]:=List.eq_nil_of_length_eq_zero (by omega)
   subst hd0
   have hrun:=run_append_owned_none (P:=P) w base t ty T i (Z4.k α) ht.h hi v xs.length css.flatten ho
   refine Jj (v:=v) (w':=w) (fun a ha=>?_) (fin v w (by simpa [hy0] using ho) (Stp.refl _ _) (fun b hb=>.inl hb))
   rw [hy0] at hy
   simp [execOp,resolve,invoke,builtin,ha.ev hx,ha.ev hy,hrun]
 | some a=>
   have hnews:∀ j u,dss.flatten[j]?=some u→w.cell? (a.add j)=some u:=by
    intro j u hj
    have hjl:j<dss.flatten.length:=(List.getElem?_eq_some_iff.1 hj).1
    rw [hflen dss hdk] at hjl
    have hq:j / Z4.k α<dss.length:=(Nat.div_lt_iff_lt_mul hpos).2 hjl
    obtain ⟨h1,b,o,hp,hcell⟩:=hd (j / Z4.k α) (by omega) hq
    simp only [Xc] at hp
    subst hp
    have hmod:j % Z4.k α<Z4.k α:=Nat.mod_lt _ hpos
    have hj2:j / Z4.k α * Z4.k α+j % Z4.k α=j:=by rw [Nat.mul_comm];exact Nat.div_add_mod j _
    have hlk:dss[j / Z4.k α].length=Z4.k α:=hdk _ (Xm hq)
    have hat:dss[j / Z4.k α][j % Z4.k α]?=some (dss[j / Z4.k α][j % Z4.k α]'(by omega)):=List.getElem?_eq_getElem (by omega)
    have h2:=Z0i dss hdk _ hq _ _ hat
    rw [hj2,hj] at h2
    have h3:=hcell _ _ hat
    rw [Addr.add_lit]
    rw [YaC,hj2] at h3
    rw [h3,h2]
   have hl2:dss.flatten.length=ys.length * Z4.k α:=by rw [hflen dss hdk,hdl]
   obtain ⟨v',w',hrun,h2,h3,h4⟩:=run_append_own (P:=P) w base t ty T i z (Z4.k α) bytes ht.h hi hi3 hi1 hi2 hzs hpos v xs.length css.flatten ho a ys.length c dss.flatten hl2 hnews hone hlen hbytes hbase
   have hblk:=Z6q (P:=P) ht.h hi hi3 hi1 hi2 ho hl2 hnews hone hlen hbytes hrun
   have hS:Stp (ob v) w w':=by rw [← ZaU];exact Stp.of_grown h3
   refine Jj (v:=v') (w':=w') (fun a ha=>?_) (fin v' w' h2 hS hblk)
   simp [execOp,resolve,invoke,builtin,ha.ev hx,ha.ev hy,hrun]
end row
section any
variable {P:Program} {ops:Array Oper} {md:Region.Mode} {S:List Nat} {Lt:Nat→Bool}
theorem ZgH {o:Oper} {a:Act} {w:World} {K:Act→World→Prop} {Q:Exit→Act→World→Prop} (h:o.wp P a w K (fun _ _ _=>False)):o.wp P a w K Q:=by
 unfold Oper.wp at *
 generalize (execOp a.eval o).run P w=r at *
 cases r with
 | ok n w'=>
   cases n<;>simp only [Oper.upon] at h ⊢
   case enter f args=>
    refine Calls.mono h (fun e w'' he=>?_)
    cases e with
    | returned v=>exact he
    | panicked c=>exact he.elim
    | outgrown=>obtain ⟨_,_,hf⟩:=he;exact hf.elim
   all_goals exact h
 | halt x w'=>cases x<;>simp only [Oper.upon] at h
theorem ZaV {i:Nat} {K:Act→World→Prop} {Q:Exit→Act→World→Prop} {a:Act} {w:World} (h:wpOp P ops (fun _ _ _=>False) i K a w):wpOp P ops Q i K a w:=by
 unfold wpOp at *
 cases ho:ops[i]? with
 | none=>simp only [ho] at h ⊢;exact h
 | some o=>
   simp only [ho] at h ⊢
   split
   rename_i hw
   simp only [hw,if_true] at h
   rcases h with h|⟨_,_,_,hf⟩
   exact .inl (ZgH h)
   exact hf.elim
   rename_i hw;simp only [hw] at h;exact h
def Z0z (P:Program) (md:Region.Mode) (ops:Array Oper) (S:List Nat) (Lt:Nat→Bool) (Z:Act→World→Prop):Nat→Array Bool→Act→World→Prop
 | 0,listed,a,w=>Region.ready md ops listed=[]∧Z a w
 | fuel + 1, listed, a, w=>
   (Region.ready md ops listed=[]→Z a w)∧
   ∀ i∈Region.ready md ops listed,wpOp P ops (fun _ _ _=>False) i (fun a' w'=>(Stp S w w'∨Lt i=true)∧Z0z P md ops S Lt Z fuel (listed.setIfInBounds i true) a' w') a w
theorem Z1w {Z:Act→World→Prop} {Q:Exit→Act→World→Prop} (hZ:∀ a w,Z a w→Q .normal a w):∀ (fuel:Nat) (listed:Array Bool) (a:Act) (w:World),
 Z0z P md ops S Lt Z fuel listed a w→wpAny P md ops Q fuel listed a w
 | 0,_,_,_,h=>⟨h.1,hZ _ _ h.2⟩
 | fuel+1,_,_,_,h=>⟨fun h0=>hZ _ _ (h.1 h0),fun i hi=>wpOp_mono (fun a' w' hk=>Z1w hZ fuel _ a' w' hk.2) (ZaV (h.2 i hi))⟩
def YE (P:Program) (ops:Array Oper) (R:World→World→Prop) (o:Oper) (v:Value) (a:Act) (w:World):Prop:=
 (Region.wanted o (yielded ops a.tmps)=true∧∀ w',R w w'→(execOp a.eval o).run P w'=.ok (.value v) w')∨
 (Region.wanted o (yielded ops a.tmps)=false∧v=undef)
theorem YE.same {R:World→World→Prop} {o:Oper} {v:Value} {a a':Act} {w:World} (hy:YE P ops R o v a w) (he:execOp a'.eval o=execOp a.eval o)
 (hw:Region.wanted o (yielded ops a'.tmps)=Region.wanted o (yielded ops a.tmps)):YE P ops R o v a' w:=by
 unfold YE at *
 rw [he,hw]
 exact hy
theorem Z6r {Z:Act→World→Prop} {R:World→World→Prop} (hR0:∀ w,R w w) (hRt:∀ a b c,R a b→R b c→R a c) {i:Nat} {oi:Oper} {v:Value} (hi:ops[i]?=some oi)
 (hRs:∀ j oj,ops[j]?=some oj→(∀ e∈oj.after,Region.binds md e=true→e.on≠i)→j≠i→∀ w w',(Stp S w w'∨Lt j=true)→R w w')
 (hsel:∀ (j:Nat) (o:Oper) cs b,ops[j]?=some o→o.op≠.select cs b) :
 ∀ (fuel : Nat) (listed : Array Bool) (a : Act) (w : World),
   (∀ j oj,ops[j]?=some oj→j≠i→listed.getD j true=false→(∀ e∈oj.after,Region.binds md e=true→e.on≠i)→oi.apart ops oj=true)→
   (Stp S w w∨Lt i=true→True)→i∈Region.ready md ops listed→YE P ops R oi v a w→
   Z0z P md ops S Lt Z fuel (listed.setIfInBounds i true) (a.put oi.dst v) w→Z0z P md ops S Lt Z (fuel+1) listed a w:=by
 have now:∀ (fuel:Nat) (listed:Array Bool) (a:Act) (w:World),YE P ops R oi v a w→Z0z P md ops S Lt Z fuel (listed.setIfInBounds i true) (a.put oi.dst v) w→
  wpOp P ops (fun _ _ _=>False) i (fun a' w'=>(Stp S w w'∨Lt i=true)∧Z0z P md ops S Lt Z fuel (listed.setIfInBounds i true) a' w') a w:=by
  intro fuel listed a w hy H
  unfold wpOp
  simp only [hi]
  rcases hy with ⟨hw,hv⟩|⟨hw,rfl⟩
  simp only [hw,if_true,Oper.wp,hv w (hR0 w),Oper.upon];exact .inl ⟨.inl (Stp.refl _ _),H⟩
  simp only [hw,XF,if_false];exact ⟨.inl (Stp.refl _ _),H⟩
 intro fuel
 induction fuel with
 | zero=>
   intro listed a w _ _ hr hy H
   refine ⟨fun h=>(by rw [h] at hr;cases hr),fun j hj=>?_⟩
   by_cases hji:j=i
   subst hji;exact now _ _ _ _ hy H
   have:=ready_mono hj hji
   rw [H.1] at this
   cases this
 | succ fuel ih=>
   intro listed a w hfree hx hr hy H
   refine ⟨fun h=>(by rw [h] at hr;cases hr),fun j hj=>?_⟩
   by_cases hji:j=i
   subst hji;exact now _ _ _ _ hy H
   have h1:=H.2 j (ready_mono hj hji)
   obtain ⟨hjun,oj,hoj,hall⟩:=mem_ready.1 hj
   have hnot:∀ e∈oj.after,Region.binds md e=true→e.on≠i:=fun e he hb heq=>by
    have h1:=hall e he hb
    have h0:=(mem_ready.1 hr).1
    rw [heq] at h1
    rcases X2 i listed.size with h'|h'
    simp [h'] at h0 h1;rw [h0] at h1;cases h1
    simp [Array.getElem?_eq_none h'] at h1
   have hap:=hfree j oj hoj hji hjun hnot
   obtain ⟨p1,p2,p3⟩:=Oper.apart_spec hap
   have keep:∀ (a:Act),YE P ops R oi v a w→∀ u,YE P ops R oi v (a.put oj.dst u) w:=fun a hy u=>
    hy.same (execOp_put oi (fun cs b=>hsel i oi cs b hi) a oj.dst u p3) (wanted_put oi a oj.dst u p3)
   have keepD:∀ (a:Act) d,YE P ops R oi v a w→YE P ops R oi v { a with defers:=d :: a.defers } w:=fun a d hy=>hy.same rfl rfl
   have later:∀ (a:Act) w',(Stp S w w'∨Lt j=true)→YE P ops R oi v a w→YE P ops R oi v a w':=fun a w' hs hy=>by
    rcases hy with ⟨hw,hv⟩|hw
    exact .inl ⟨hw,fun w'' h''=>hv w'' (hRt _ _ _ (hRs j oj hoj hnot hji w w' hs) h'')⟩
    exact .inr hw
   have hfree':∀ k ok,ops[k]?=some ok→k≠i→(listed.setIfInBounds j true).getD k true=false→
    (∀ e∈ok.after,Region.binds md e=true→e.on≠i)→oi.apart ops ok=true:=fun k ok hk hki hun hno=>by
    refine hfree k ok hk hki ?_ hno
    by_cases hjk:j=k
    subst hjk;exact hjun
    rw [getD_set_ne true hjk] at hun;exact hun
   have fin:∀ a' w',YE P ops R oi v a' w→(Stp S w w'∨Lt j=true)∧Z0z P md ops S Lt Z fuel ((listed.setIfInBounds i true).setIfInBounds j true) (a'.put oi.dst v) w'→
    (Stp S w w'∨Lt j=true)∧Z0z P md ops S Lt Z (fuel+1) (listed.setIfInBounds j true) a' w':=by
    rintro a' w' hy' ⟨hs,hk⟩
    refine ⟨hs,ih _ a' w' hfree' (fun _=>trivial) (ready_mono hr (Ne.symm hji)) (later a' w' hs hy') ?_⟩
    rw [Array.setIfInBounds_comm _ _ hji]
    exact hk
   have hsj:∀ cs b,oj.op≠.select cs b:=fun cs b=>hsel j oj cs b hoj
   unfold wpOp at *
   simp only [hoj] at *
   rw [wanted_put oj a oi.dst v p1] at h1
   split
   · rename_i hw
     simp only [hw,if_true] at h1
     rcases h1 with h1|⟨_,_,_,hf⟩
     case inr=>exact hf.elim
     refine .inl ?_
     unfold Oper.wp at *
     rw [execOp_put oj hsj a oi.dst v p1] at h1
     generalize (execOp a.eval oj).run P w=r at *
     cases r with
     | ok n w'=>
       cases n<;>simp only [Oper.upon] at h1 ⊢
       case value u=>exact fin _ _ (keep a hy u) (by rw [← Act.put_comm a v u p2];exact h1)
       case skip=>exact fin _ _ (keep a hy _) (by rw [← Act.put_comm a v undef p2];exact h1)
       case defer d=>
        refine fin _ _ (keep _ (keepD a d hy) _) ?_
        rw [← Act.put_comm _ v undef p2,← Act.put_defers]
        exact h1
       case enter f args=>
        refine Calls.mono h1 fun e w'' he=>?_
        cases e with
        | returned u=>exact fin _ _ (keep a hy u) (by rw [← Act.put_comm a v u p2];exact he)
        | panicked c=>exact he
        | outgrown=>exact he
       case row row args=>exact Rows.mono h1 fun u w'' he=>fin _ _ (keep a hy u) (by rw [← Act.put_comm a v u p2];exact he)
     | halt x w'=>
       cases x<;>simp only [Oper.upon] at h1
   rename_i hw
   simp only [hw] at h1
   exact fin _ _ (keep a hy _) (by rw [← Act.put_comm a v undef p2];exact h1)
end any
def Ze3 (ops:Array Oper) (Lt:List Nat) (i:Nat):Bool:=
 Lt.all fun j=>j == i || (match ops[j]? with|some oj=>oj.after.any (fun e=>Region.binds .any e && e.on == i)|none=>true)
def bits (m:Nat):List Nat:=(List.range 64).filter (fun j=>m.testBit j)
def ZgI:List Nat→List (List Nat)
 | []=>[[]]
 | x :: r=>ZgI r++(ZgI r).map (x :: ·)
def lst (listed:Array Bool) (is rem:List Nat):Array Bool:=Array.ofFn (n:=listed.size) fun j=>listed[j] || (is.contains j.val && !rem.contains j.val)
def wt:List (Nat×Nat)→Nat
 | []=>0
 | (_,k) :: r=>(if k<100000 then 1 else (bits (k - 100000)).length)+wt r
theorem JO {i k:Nat} {r:List (Nat×Nat)} (h:k<100000):wt ((i,k) :: r)=wt r+1:=by simp [wt,h];omega
def ZH (ops:Array Oper) (Lt:List Nat):List (Nat×Nat)→Option Nat→Array Bool→Bool
 | [],sk,listed=>sk.isNone && (Region.ready .any ops listed).isEmpty
 | (i,0) :: r,sk,listed=>(Region.ready .any ops listed).contains i && Region.free .any ops listed i && ZH ops Lt r sk (listed.setIfInBounds i true)
 | (i,1) :: r,sk,listed=>(Region.ready .any ops listed).contains i && Region.free .any ops listed i && Ze3 ops Lt i && ZH ops Lt r sk (listed.setIfInBounds i true)
 | (i,2) :: r,sk,listed=>if sk=some i then ZH ops Lt r none listed else Region.ready .any ops listed == [i] && ZH ops Lt r sk (listed.setIfInBounds i true)
 | (i, q + 3) :: r, sk, listed => if sk = some q ∧ q + 3 < 100000 then (Region.ready .any ops listed == [i] && ZH ops Lt r sk (listed.setIfInBounds i true)) else sk.isNone && if q + 3 < 100000 then (Region.ready .any ops listed == [i, q] && ZH ops Lt r none (listed.setIfInBounds i true) && Region.ready .any ops (listed.setIfInBounds q true) == [i] && ZH ops Lt r (some q) ((listed.setIfInBounds q true).setIfInBounds i true))
   else (ZgI (bits (q+3 - 100000))).all (fun rem=>rem.isEmpty || Region.ready .any ops (lst listed (bits (q+3 - 100000)) rem) == rem) && ZH ops Lt r none (lst listed (bits (q+3 - 100000)) [])
def Je (ops:Array Oper) (Lt:List Nat) (ord:List (Nat×Nat)) (listed:Array Bool):Bool:=ZH ops Lt ord none listed
def Z2L (q:Nat):List (Nat×Nat)→List (Nat×Nat)
 | []=>[]
 | (i,2) :: r=>if i=q then r else (i,2) :: Z2L q r
 | (i,0) :: r=>(i,0) :: Z2L q r
 | (i,1) :: r=>(i,1) :: Z2L q r
 | (i,k+3) :: r=>if k=q∧k+3<100000 then (i,2) :: Z2L q r else (i,k+3) :: Z2L q r
theorem Z0R {ops:Array Oper} {Lt:List Nat} {q:Nat}:∀ (r:List (Nat×Nat)) (listed:Array Bool),ZH ops Lt r (some q) listed=true→ZH ops Lt (Z2L q r) none listed=true∧wt r=wt (Z2L q r)+1
 | [],listed,h=>by simp [ZH] at h
 | (i, 0) :: r, listed, h => by
   simp only [ZH,Xf] at h
   obtain ⟨h1,h2⟩:=Z0R r _ h.2
   simp only [Z2L,ZH,Xf]
   exact ⟨⟨h.1,h1⟩,by simp [wt,h2];omega⟩
 | (i, 1) :: r, listed, h => by
   simp only [ZH,Xf] at h
   obtain ⟨h1,h2⟩:=Z0R r _ h.2
   simp only [Z2L,ZH,Xf]
   exact ⟨⟨h.1,h1⟩,by simp [wt,h2];omega⟩
 | (i, 2) :: r, listed, h => by
   by_cases e:i=q
   subst e
   simp only [ZH,if_pos] at h
   simp only [Z2L,if_pos]
   exact ⟨h,by simp [wt];omega⟩
   have e':¬ (some q=some i):=by simpa using fun h=>e h.symm
   simp only [ZH,if_neg e',Xf] at h
   obtain ⟨h1,h2⟩:=Z0R r _ h.2
   simp only [Z2L,if_neg e,ZH]
   refine ⟨?_,by simp [wt,h2];omega⟩
   rw [if_neg (by simp)]
   simp only [Xf]
   exact ⟨h.1,h1⟩
 | (i, k + 3) :: r, listed, h => by
   by_cases e:k=q∧k+3<100000
   simp only [ZH] at h
   rw [if_pos ⟨by rw [e.1],e.2⟩] at h
   simp only [Xf] at h
   obtain ⟨h1,h2⟩:=Z0R r _ h.2
   simp only [Z2L,if_pos e,ZH]
   refine ⟨?_,by rw [JO e.2,JO (by decide),h2]⟩
   rw [if_neg (by simp)]
   simp only [Xf]
   exact ⟨h.1,h1⟩
   simp only [ZH] at h
   rw [if_neg (fun h'=>e ⟨(XJ h'.1).symm,h'.2⟩)] at h
   simp at h
structure WD (P:Program) (n:Nat) (ops:Array Oper) (S:List Nat) (Lt:List Nat) (Q:Exit→Act→World→Prop) (ord:List (Nat×Nat)) (e:Env) (w:World):Prop where
 h:∀ listed:Array Bool,Region.noSelect ops=true→Je ops Lt ord listed=true→∀ a,Has n e a→Z0z P .any ops S (fun j=>Lt.contains j) (fun a w=>Q .normal a w) (wt ord) listed a w
section rules
variable {P:Program} {n:Nat} {Q:Exit→Act→World→Prop} {e:Env} {w:World} {ops:Array Oper} {S:List Nat} {Lt:List Nat} {rest:List (Nat×Nat)}
theorem Z4L {id:Nat} {l:List Oper} (m:Nat) (S:List Nat) (Lt:List Nat) (ord:List (Nat×Nat)) (hlm:l.length=m) (hm:P.follows .mixedOrders=true) (hs:Region.noSelect l.toArray=true) (hl:Nat.beq (wt ord) l.length=true)
 (hB:Je l.toArray Lt ord (Array.replicate m false)=true)
 (h:∀ w',Stp [] w w'→WD P n l.toArray S Lt Q ord e w'):WC P n (.region id l.toArray true) Q e w:=by
 subst hlm
 refine ⟨fun a ha=>wp_region_any hm ?_⟩
 have h1:=(h { w with drawn:=w.drawn+1 } (Stp.drew [] w)).h _ hs hB a ha
 have h2:=Z1w (Q:=Q) (fun a w hz=>hz) _ _ _ _ h1
 rw [XP hl] at h2
 simpa using h2
theorem Z1x (h:WQ n Q .normal e w):WD P n ops S Lt Q [] e w:=
 ⟨fun _ _ hB a ha=>⟨by simpa [Je,ZH] using hB,h.h a ha⟩⟩
def Zy (ops:Array Oper) (e:Env):Option (Nat×Bool)→Prop
 | none=>True
 | some (j,b)=>yld ops e j=some (.bool b)
theorem JB {o:Oper} {a:Act} (ha:Has n e a) (hg:Zy ops e o.guard):Region.wanted o (yielded ops a.tmps)=true:=by
 unfold Region.wanted
 cases hgd:o.guard with
 | none=>rfl
 | some jb=>
   obtain ⟨j,b⟩:=jb
   rw [hgd] at hg
   simp [Z4I ha hg]
theorem Z7b {i d:Nat} {o:Oper} {v:Value} (hi:ops[i]?=some o) (hd:o.dst=some d) (hY:∀ a,Has n e a→YE P ops (fun _ _=>True) o v a w) (hdn:Nat.blt d n=true)
 (k:WD P n ops S Lt Q rest ((d,v) :: e) w):WD P n ops S Lt Q ((i,0) :: rest) e w:=by
 refine ⟨fun listed hs hB a ha=>?_⟩
 simp only [Je,ZH,Xf] at hB
 obtain ⟨⟨h1,h2⟩,h3⟩:=hB
 have hk:=k.h _ hs h3 _ (ha.put (v:=v) hdn)
 rw [← hd] at hk
 rw [JO (by decide)]
 exact Z6r (R:=fun _ _=>True) (fun _=>trivial) (fun _ _ _ _ _=>trivial) hi (fun _ _ _ _ _ _ _ _=>trivial) (Region.noSelect_spec hs) _ _ _ _ (Region.free_spec hi h2) (fun _=>trivial) (by simpa using h1) (hY a ha) hk
theorem Z4M {i j:Nat} {oj:Oper} (hb:Ze3 ops Lt i=true) (hj:ops[j]?=some oj) (hn:∀ e∈oj.after,Region.binds .any e=true→e.on≠i) (hji:j≠i):Lt.contains j=false:=by
 cases hc:Lt.contains j with
 | false=>rfl
 | true=>
   have hm:j∈Lt:=by simpa using hc
   have:=(XC.1 hb) j hm
   simp only [hj,YaJ,beq_iff_eq,hji,false_or] at this
   obtain ⟨e,he,hbe⟩:=Array.any_eq_true'.1 this
   simp only [Xf,beq_iff_eq] at hbe
   exact absurd hbe.2 (hn e he hbe.1)
theorem Z7c {i d:Nat} {o:Oper} {v:Value} (hi:ops[i]?=some o) (hd:o.dst=some d) (hY:∀ a,Has n e a→YE P ops (Stp S) o v a w) (hdn:Nat.blt d n=true)
 (k:WD P n ops S Lt Q rest ((d,v) :: e) w):WD P n ops S Lt Q ((i,1) :: rest) e w:=by
 refine ⟨fun listed hs hB a ha=>?_⟩
 simp only [Je,ZH,Xf] at hB
 obtain ⟨⟨⟨h1,h2⟩,hb⟩,h3⟩:=hB
 have hk:=k.h _ hs h3 _ (ha.put (v:=v) hdn)
 rw [← hd] at hk
 rw [JO (by decide)]
 refine Z6r (R:=Stp S) (fun w=>Stp.refl _ w) (fun _ _ _ h k=>h.trans k) hi (fun j oj hj hn hji w w' hs=>?_) (Region.noSelect_spec hs) _ _ _ _ (Region.free_spec hi h2) (fun _=>trivial) (by simpa using h1) (hY a ha) hk
 rcases hs with hs|hs
 exact hs
 rw [Z4M hb hj hn hji] at hs;cases hs
variable {i d:Nat} {op:Op} {ty:TypeId} {pos:String} {af:Array Edge} {gd:Option (Nat×Bool)} {v:Value}
theorem ZB (hi:ops[i]?=some ⟨some d,op,ty,pos,af,gd⟩) (hg:Zy ops e gd) (hp:∀ w',PR P n ⟨some d,op,ty,pos,af,gd⟩ e w' v) (hdn:Nat.blt d n=true)
 (k:WD P n ops S Lt Q rest ((d,v) :: e) w):WD P n ops S Lt Q ((i,0) :: rest) e w:=
 Z7b hi rfl (fun a ha=>.inl ⟨JB ha hg,fun w' _=>(hp w').h a ha⟩) hdn k
theorem JR (hi:ops[i]?=some ⟨some d,op,ty,pos,af,gd⟩) (hg:Zy ops e gd) (hp:∀ w',Stp S w w'→PR P n ⟨some d,op,ty,pos,af,gd⟩ e w' v) (hdn:Nat.blt d n=true)
 (k:WD P n ops S Lt Q rest ((d,v) :: e) w):WD P n ops S Lt Q ((i,1) :: rest) e w:=
 Z7c hi rfl (fun a ha=>.inl ⟨JB ha hg,fun w' hw=>(hp w' hw).h a ha⟩) hdn k
theorem ZaW (hi:ops[i]?=some ⟨some d,op,ty,pos,af,gd⟩) (hg:noB ops e gd=true) (hdn:Nat.blt d n=true)
 (k:WD P n ops S Lt Q rest ((d,undef) :: e) w):WD P n ops S Lt Q ((i,0) :: rest) e w:=
 Z7b hi rfl (fun a ha=>.inr ⟨Z1v ha hg,rfl⟩) hdn k
theorem ZaX (hi:ops[i]?=some ⟨some d,op,ty,pos,af,gd⟩) (hg:noB ops e gd=true) (hdn:Nat.blt d n=true)
 (k:WD P n ops S Lt Q rest ((d,undef) :: e) w):WD P n ops S Lt Q ((i,1) :: rest) e w:=
 Z7c hi rfl (fun a ha=>.inr ⟨Z1v ha hg,rfl⟩) hdn k
structure WD1 (P:Program) (n:Nat) (ops:Array Oper) (S:List Nat) (Lt:List Nat) (Q:Exit→Act→World→Prop) (i:Nat) (ord:List (Nat×Nat)) (e:Env) (w:World):Prop where
 h : ∀ listed : Array Bool, Region.noSelect ops = true → Je ops Lt ord (listed.setIfInBounds i true) = true → ∀ a, Has n e a→
   wpOp P ops (fun _ _ _=>False) i (fun a' w'=>(Stp S w w'∨Lt.contains i=true)∧Z0z P .any ops S (fun j=>Lt.contains j) (fun a w=>Q .normal a w) (wt ord) (listed.setIfInBounds i true) a' w') a w
theorem ZaY {o:Oper} {dst:Option Nat} {G:Value→World→Prop} (hi:ops[i]?=some o) (hdst:o.dst=dst) (hg:Zy ops e o.guard) (hp:OE P n o e w (fun v w'=>(Stp S w w'∨Lt.contains i=true)∧G v w'))
 (k:∀ v w' a',G v w'→∀ a,Has n e a→a'=a.put dst v→∃ e',Has n e' a'∧WD P n ops S Lt Q rest e' w'):WD1 P n ops S Lt Q i rest e w:=by
 refine ⟨fun listed hs h3 a ha=>?_⟩
 unfold wpOp
 simp only [hi]
 rw [if_pos (JB ha hg)]
 refine .inl (Oper.wp_mono ?_ (hp.h a ha _))
 rintro a' w' ⟨v,rfl,hs',hG⟩
 obtain ⟨e',he',hk⟩:=k v w' (a.put o.dst v) hG a ha (by rw [hdst])
 exact ⟨hs',hk.h _ hs h3 _ he'⟩
theorem ZaZ (h:WD1 P n ops S Lt Q i rest e w):WD P n ops S Lt Q ((i,2) :: rest) e w:=by
 refine ⟨fun listed hs hB a ha=>?_⟩
 simp only [Je,ZH] at hB
 rw [if_neg (by simp)] at hB
 simp only [Xf,beq_iff_eq] at hB
 obtain ⟨h1,h3⟩:=hB
 rw [JO (by decide)]
 refine ⟨fun h0=>absurd (h1 ▸ h0) (by simp),fun j hj=>?_⟩
 rw [h1] at hj
 obtain rfl:j=i:=by simpa using hj
 exact h.h _ hs h3 a ha
theorem ZgJ {q:Nat} (hq:Nat.blt (q+3) 100000=true) (h1:WD1 P n ops S Lt Q i rest e w) (h2:WD1 P n ops S Lt Q q ((i,2) :: Z2L q rest) e w):WD P n ops S Lt Q ((i,q+3) :: rest) e w:=by
 refine ⟨fun listed hs hB a ha=>?_⟩
 have hq':q+3<100000:=XD hq
 simp only [Je,ZH] at hB
 rw [if_neg (by simp),if_pos hq'] at hB
 simp only [Xf,beq_iff_eq] at hB
 obtain ⟨_,⟨⟨hr,hr1⟩,hr2⟩,h3⟩:=hB
 obtain ⟨h4,h5⟩:=Z0R _ _ h3
 have hw:wt ((i,q+3) :: rest)=wt rest+1:=JO hq'
 rw [hw]
 refine ⟨fun h0=>absurd (hr ▸ h0) (by simp),fun j hj=>?_⟩
 rw [hr] at hj
 have c2:Je ops Lt ((i,2) :: Z2L q rest) (listed.setIfInBounds q true)=true:=by
  simp only [Je,ZH]
  rw [if_neg (by simp)]
  simp only [Xf,beq_iff_eq]
  exact ⟨hr2,h4⟩
 have hw2:wt rest=wt ((i,2) :: Z2L q rest):=by rw [JO (by decide),h5]
 have hj':j=i∨j=q:=by simpa using hj
 rcases hj' with rfl|rfl
 exact h1.h _ hs hr1 a ha
 rw [hw2]
 exact h2.h _ hs c2 a ha
theorem Z4A {o:Oper} {dst:Option Nat} {G:Value→World→Prop} (hi:ops[i]?=some o) (hdst:o.dst=dst) (hg:Zy ops e o.guard) (hp:OE P n o e w (fun v w'=>(Stp S w w'∨Lt.contains i=true)∧G v w'))
 (k:∀ v w' a',G v w'→∀ a,Has n e a→a'=a.put dst v→∃ e',Has n e' a'∧WD P n ops S Lt Q rest e' w'):WD P n ops S Lt Q ((i,2) :: rest) e w:=
 ZaZ (ZaY hi hdst hg hp k)
theorem Zb0 (hi:ops[i]?=some ⟨some d,op,ty,pos,af,gd⟩) (hg:noB ops e gd=true) (hdn:Nat.blt d n=true)
 (k:WD P n ops S Lt Q rest ((d,undef) :: e) w):WD P n ops S Lt Q ((i,2) :: rest) e w:=by
 refine ZaZ ⟨fun listed hs h3 a ha=>?_⟩
 unfold wpOp
 simp only [hi]
 have hw:=Z1v (o:=⟨some d,op,ty,pos,af,gd⟩) ha hg
 rw [if_neg (by simp [hw])]
 exact ⟨.inl (Stp.refl _ _),k.h _ hs h3 _ (ha.put (v:=undef) hdn)⟩
theorem Z9a {G:Value→World→Prop} (hi:ops[i]?=some ⟨some d,op,ty,pos,af,gd⟩) (hg:Zy ops e gd) (hp:OE P n ⟨some d,op,ty,pos,af,gd⟩ e w G) (hG:∀ v w',G v w'→Stp S w w') (hdn:Nat.blt d n=true)
 (k:∀ v w',G v w'→WD P n ops S Lt Q rest ((d,v) :: e) w'):WD1 P n ops S Lt Q i rest e w:=
 ZaY (G:=G) hi rfl hg (hp.mono fun v w' h=>⟨.inl (hG v w' h),h⟩) (fun v w' a' h a ha e=>⟨_,by rw [e];exact ha.put hdn,k v w' h⟩)
theorem ZC {G:Value→World→Prop} (hi:ops[i]?=some ⟨some d,op,ty,pos,af,gd⟩) (hg:Zy ops e gd) (hp:OE P n ⟨some d,op,ty,pos,af,gd⟩ e w G) (hG:∀ v w',G v w'→Stp S w w') (hdn:Nat.blt d n=true)
 (k:∀ v w',G v w'→WD P n ops S Lt Q rest ((d,v) :: e) w'):WD P n ops S Lt Q ((i,2) :: rest) e w:=
 Z4A (G:=G) hi rfl hg (hp.mono fun v w' h=>⟨.inl (hG v w' h),h⟩) (fun v w' a' h a ha e=>⟨_,by rw [e];exact ha.put hdn,k v w' h⟩)
theorem Z2m {G:Value→World→Prop} (hi:ops[i]?=some ⟨none,op,ty,pos,af,gd⟩) (hg:Zy ops e gd) (hp:OE P n ⟨none,op,ty,pos,af,gd⟩ e w G) (hG:∀ v w',G v w'→Stp S w w')
 (k:∀ v w',G v w'→WD P n ops S Lt Q rest e w'):WD P n ops S Lt Q ((i,2) :: rest) e w:=
 Z4A (G:=G) hi rfl hg (hp.mono fun v w' h=>⟨.inl (hG v w' h),h⟩) (fun v w' a' h a ha e=>⟨_,by rw [e];exact ha,k v w' h⟩)
theorem Z4B {G:Value→World→Prop} (hi:ops[i]?=some ⟨some d,op,ty,pos,af,gd⟩) (hg:Zy ops e gd) (hp:OE P n ⟨some d,op,ty,pos,af,gd⟩ e w G) (hL:Lt.contains i=true) (hdn:Nat.blt d n=true)
 (k:∀ v w',G v w'→WD P n ops S Lt Q rest ((d,v) :: e) w'):WD P n ops S Lt Q ((i,2) :: rest) e w:=
 Z4A (G:=G) hi rfl hg (hp.mono fun v w' h=>⟨.inr hL,h⟩) (fun v w' a' h a ha e=>⟨_,by rw [e];exact ha.put hdn,k v w' h⟩)
theorem ZU {G:Value→World→Prop} (hi:ops[i]?=some ⟨none,op,ty,pos,af,gd⟩) (hg:Zy ops e gd) (hp:OE P n ⟨none,op,ty,pos,af,gd⟩ e w G) (hL:Lt.contains i=true)
 (k:∀ v w',G v w'→WD P n ops S Lt Q rest e w'):WD P n ops S Lt Q ((i,2) :: rest) e w:=
 Z4A (G:=G) hi rfl hg (hp.mono fun v w' h=>⟨.inr hL,h⟩) (fun v w' a' h a ha e=>⟨_,by rw [e];exact ha,k v w' h⟩)
theorem Zb1 {ord:List (Nat×Nat)} {j:Nat} {p:Prop} [Decidable p] (hy:look e j=some (.bool (decide p)))
 (ht:p→WD P n ops S Lt Q ord ((j,.bool true) :: e) w) (hf:¬ p→WD P n ops S Lt Q ord ((j,.bool false) :: e) w):WD P n ops S Lt Q ord e w:=by
 refine ⟨fun listed hs hB a ha=>?_⟩
 by_cases hp:p
 exact (ht hp).h _ hs hB a (ha.same hy (by simp [hp]))
 exact (hf hp).h _ hs hB a (ha.same hy (by simp [hp]))
theorem Zm {i q j d:Nat} {b:Bool} {o:Oper} {p:Prop} [Decidable p] (hi:ops[i]?=some o) (hg:o.guard=some (j,b)) (hj:ZaJ ops j=some d) (hy:look e d=some (.bool (decide p)))
 (ht:p→WD P n ops S Lt Q ((i,q) :: rest) ((d,.bool true) :: e) w) (hf:¬ p→WD P n ops S Lt Q ((i,q) :: rest) ((d,.bool false) :: e) w):WD P n ops S Lt Q ((i,q) :: rest) e w:=
 Zb1 hy ht hf
theorem Zi {i q j d:Nat} {b:Bool} {o:Oper} {t:Bool} (hi:ops[i]?=some o) (hg:o.guard=some (j,b)) (hj:ZaJ ops j=some d) (hy:look e d=some (.bool t))
 (ht:t=true→WD P n ops S Lt Q ((i,q) :: rest) ((d,.bool true) :: e) w) (hf:t=false→WD P n ops S Lt Q ((i,q) :: rest) ((d,.bool false) :: e) w):WD P n ops S Lt Q ((i,q) :: rest) e w:=by
 refine ⟨fun listed hs hB a ha=>?_⟩
 cases t
 exact (hf rfl).h _ hs hB a (ha.same hy rfl)
 exact (ht rfl).h _ hs hB a (ha.same hy rfl)
end rules
theorem ZDr {P:Program} {n:Nat} {Q:Exit→Act→World→Prop} {e:Env} {w:World} {id:Nat} {l:List Oper} (m:Nat) (S:List Nat) (Lt:List Nat) (ord:List (Nat×Nat)) (h:∀ w',Stp [] w w'→WD P n l.toArray S Lt Q ord e w') (hlm:l.length=m:=by exact rfl) (hm:P.follows .mixedOrders=true:=by kernel_rfl) (hs:Region.noSelect l.toArray=true:=by kernel_rfl) (hl:Nat.beq (wt ord) l.length=true:=by kernel_rfl)
 (hB:Je l.toArray Lt ord (Array.replicate m false)=true:=by kernel_rfl):WC P n (.region id l.toArray true) Q e w:=Z4L m S Lt ord hlm hm hs hl hB h
theorem Z1X {k:Nat}:∀ (l:List (List Value)),(∀ c∈l,c.length=k)→l.flatten.length=l.length * k
 | [],_=>by simp
 | c :: r, h => by
   simp only [XS,Xh,Xe,XW]
   rw [Z1X r (fun c hc=>h c (by simp [hc])),h c (by simp)]
   omega
theorem Z1Y {k:Nat}:∀ (css:List (List Value)),(∀ c∈css,c.length=k)→∀ (i:Nat),i<css.length→∀ (cs:List Value),
 (css.set i cs).flatten=css.flatten.take (i * k)++cs++css.flatten.drop (i * k+k)
 | [],_,i,hi,_=>absurd hi (Xs _)
 | c :: r, hk, 0, _, cs => by
   have hc:=hk c (by simp)
   simp [hc]
 | c :: r, hk, i + 1, hi, cs => by
   have hc:=hk c (by simp)
   have ih:=Z1Y r (fun c hc=>hk c (by simp [hc])) i (by simpa using hi) cs
   simp only [List.set_cons_succ,XS,ih,XW]
   rw [X6,List.drop_append,hc]
   rw [Xn (l:=c) (by omega),show c.drop (i * k+k+k)=[] from XX (by omega)]
   rw [show i * k+k - k=i * k by omega,show i * k+k+k - k=i * k+k by omega]
   simp [Xr]
section row
variable {α:Type} [Z4 α] {X:List Nat} {w w':World} {base T:Nat} {v:Value} {xs:List α}
variable {P:Program} {n:Nat} {e:Env} {d:Option Nat} {ty:TypeId} {pos:String} {af:Array Edge} {g:Option (Nat×Bool)}
theorem Row.isSome (h:Row X w base T v xs) {i:Nat} (hi:i<xs.length):∃ q l c,v=.slice (some ⟨q,0,none⟩) l c:=by
 obtain ⟨css,hl,hr,ho⟩:=h
 rcases ho.2 with ⟨rfl,hn⟩|⟨q,cap,cur,rfl,hb,hg,hnc,hcm,hcs,ht⟩
 omega
 exact ⟨_,_,_,rfl⟩
theorem Ju {i k:Nat} {t:TypeId} {x y:Operand} {u:Value} {y':α} [hsz:Siz P t k] (hx:ev e x=some (.pointer (some (Zq v i k 0)))) (hy:ev e y=some u) (hk:k=Z4.k α)
 (hr':Z4.rep (ob v++X) w y' u.cells.toList) (hrow:Row X w base T v xs) (hX:∀ b∈X,b<base) (hi:i<xs.length) :
 OE P n ⟨d,.store t x y,ty,pos,af,g⟩ e w (fun _ w'=>Row X w' base T v (xs.set i y')∧Stp (ob v) w w'):=by
 have hrow0:=hrow
 obtain ⟨css,hl,hr,ho⟩:=hrow
 have hlen:∀ c∈css,c.length=Z4.k α:=by
  intro c hc
  obtain ⟨q,hq,rfl⟩:=Xj hc
  exact Z4.len (hr q (by omega) hq)
 rcases ho.2 with ⟨rfl,hn⟩|⟨q,cap,cur,rfl,hb,hg,hnc,hcm,hcs,ht⟩
 omega
 subst hk
 have hul:u.cells.toList.length=Z4.k α:=Z4.len hr'
 have hfit:i * Z4.k α+u.cells.toList.length≤cur.size:=by
  rw [hul,hcs,← XW]
  exact XE _ (by omega)
 have hst:=run_storeCells_at P q (i * Z4.k α) T u.cells.toList 0 cur w hg (by simpa using hfit) (Z4.one hr')
 simp only [Nat.add_zero] at hst
 have hus:u.cells.size=Z4.k α:=by simpa using hul
 have hSt:Stp [q] w (w.setRow q (cur.toList.take (i * Z4.k α)++u.cells.toList++cur.toList.drop (i * Z4.k α+u.cells.toList.length)).toArray):=Z2K _ _ _
 refine Z6p (w':=w.setRow q (cur.toList.take (i * Z4.k α)++u.cells.toList++cur.toList.drop (i * Z4.k α+u.cells.toList.length)).toArray) (fun a ha=>?_) ⟨⟨css.set i u.cells.toList,by simp [hl],fun j hj hj'=>?_,?_,.inr ⟨q,cap,_,by simp,hb,setRow_heap w q cur _ T (0,0) hg,by simpa using hnc,hcm,?_,?_⟩⟩,hSt⟩
 have hel:Zq (.slice (some ⟨q,0,none⟩) xs.length cap) i (Z4.k α) 0=⟨q,i * Z4.k α,none⟩:=by simp [Zq]
 rw [hel] at hx
 simp [execOp,ha.ev hx,ha.ev hy,Instr.storeAt,Instr.sureAddr,storeVar,Siz.run,hus,hst]
 have hS1:∀ b∈[q],b∈ob (.slice (some ⟨q,0,none⟩) xs.length cap)++X:=by simp [ob]
 by_cases hij:i=j
 subst hij
 simp only [List.getElem_set_self]
 exact Z4.ext hr' hSt hS1 (fun b hb=>.inl hb)
 simp only [List.getElem_set_ne hij]
 exact Z4.ext (hr j (by simpa using hj) (by simpa using hj')) hSt hS1 (fun b hb=>.inl hb)
 rw [Z1Y css hlen i (by omega)]
 have h1:=ho.1
 simp only [Xh,Xu,YaE,Yaj,hul,h1]
 have:(i+1) * Z4.k α≤xs.length * Z4.k α:=XE _ (by omega)
 rw [XW] at this
 omega
 simp only [Yaa,Xh,Xu,YaE,X4,hul,hcs]
 rw [hul,hcs] at hfit
 omega
 rw [Z1Y css hlen i (by omega),← ht]
 have h2:(i+1) * Z4.k α≤xs.length * Z4.k α:=XE _ (by omega)
 rw [XW] at h2
 have h3:i * Z4.k α≤cur.toList.length:=by simp [hcs];exact Xg (by omega) (XE _ hnc)
 simp only [Yaj,hul]
 rw [X6,X6,XR,XR,YaK]
 simp only [Xh,Xu,hul]
 rw [XO h3,Xn (l:=u.cells.toList) (by rw [hul];omega)]
 rw [Nat.min_eq_right (by omega:i * Z4.k α≤xs.length * Z4.k α),XO (by omega:i * Z4.k α≤xs.length * Z4.k α)]
def slc (v:Value) (l h k:Nat):Value:=
 match v with
 | .slice a _ c=>.slice (if c=l then a else a.map (·.add (l * k))) (h - l) (c - l)
 | v=>v
theorem Z2M {t el k:Nat} {x hi:Operand} {r:Nat} {b:Int} [hu:Und P t (.slice el)] [hk:Siz P el k] {w₀:World} (hx:ev e x=some v) (hs:SlV X w₀ v xs) (hb:ev e hi=some (.int .i64 b))
 (hbr:b=(r:Int)) (hrx:r≤xs.length):PR P n ⟨d,.slice t x none (some hi) none,ty,pos,af,g⟩ e w (slc v 0 r k):=by
 refine ⟨fun act ha'=>?_⟩
 obtain ⟨p,c,rfl,hlen,hm,hn,hc⟩:=hs
 subst hbr
 simp [execOp,ha'.ev hx,ha'.ev hb,Instr.sliceAt,run_underlying hu.h,Instr.slice,Instr.sliceBounds,Instr.sliceBound,asIntOf,Siz.run,Eng.slc,show r≤c by omega]
theorem Z4N {t el k:Nat} {x lo:Operand} {l:Nat} {a:Int} [hu:Und P t (.slice el)] [hk:Siz P el k] {w₀:World} (hx:ev e x=some v) (hs:SlV X w₀ v xs) (ha:ev e lo=some (.int .i64 a))
 (hal:a=(l:Int)) (hlx:l≤xs.length):PR P n ⟨d,.slice t x (some lo) none none,ty,pos,af,g⟩ e w (slc v l xs.length k):=by
 refine ⟨fun act ha'=>?_⟩
 obtain ⟨p,c,rfl,hlen,hm,hn,hc⟩:=hs
 subst hal
 simp [execOp,ha'.ev hx,ha'.ev ha,Instr.sliceAt,run_underlying hu.h,Instr.slice,Instr.sliceBounds,Instr.sliceBound,asIntOf,Siz.run,Eng.slc,hlx]
theorem Z1y {k:Nat}:∀ (css:List (List Value)),(∀ c∈css,c.length=k)→∀ (i:Nat),(css.take i).flatten=css.flatten.take (i * k)
 | [],_,i=>by simp
 | c :: r,hk,0=>by simp
 | c :: r, hk, i + 1 => by
   have hc:=hk c (by simp)
   have ih:=Z1y r (fun c hc=>hk c (by simp [hc])) i
   simp only [Yaf,XS,ih,XW]
   rw [X6,hc,Xn (l:=c) (by omega),show i * k+k - k=i * k by omega]
theorem Z4O (v:Value) (r k:Nat):ob (slc v 0 r k)=ob v:=by
 cases v<;>try rfl
 rename_i a l c
 cases a with
 | none=>simp [slc,ob]
 | some a=>by_cases hc:c=0<;>simp [slc,ob,hc,Addr.add]
theorem Row.cut (h:Row X w base T v xs) {r:Nat} (hr:r≤xs.length):Row X w base T (slc v 0 r (Z4.k α)) (xs.take r):=by
 obtain ⟨css,hl,hrep,ho⟩:=h
 have hlen:∀ c∈css,c.length=Z4.k α:=by
  intro c hc
  obtain ⟨q,hq,rfl⟩:=Xj hc
  exact Z4.len (hrep q (by omega) hq)
 refine ⟨css.take r,by simp [hl],fun i hi hi'=>?_,?_,?_⟩
 rw [Z4O]
 simp only [Yan]
 exact hrep i (by simp at hi;omega) (by simp at hi';omega)
 rw [Z1X _ (fun c hc=>hlen c (Yas hc))]
 simp [hl]
 rcases ho.2 with ⟨rfl,hn⟩|⟨q,cap,cur,rfl,hb,hg,hnc,hcm,hcs,ht⟩
 exact .inl ⟨by simp [Eng.slc];omega,by simp;omega⟩
 refine .inr ⟨q,cap,cur,?_,hb,hg,by simp;omega,hcm,hcs,?_⟩
 simp [Eng.slc,Addr.add,Xu,XO hr]
 rw [Z1y css hlen,← ht,XR,Xu,XO hr]
 congr 1
 have:=XE (Z4.k α) hr
 omega
theorem Z35 {x:Operand} {t:Nat} {z:Value} {i:Nat} [hu:Und P t (.slice T)] [hz:Zer P T z] (hzs:z.cells.size=Z4.k α) (hz1:∀ c∈z.cells.toList,c.oneCell'=true) (hpos:0<Z4.k α) (hx:ev e x=some (slc v i xs.length (Z4.k α))) (hrow:Row X w base T v xs) (hi:i≤xs.length) :
 OE P n ⟨d,.call { callee:=.builtin .clear,args:=#[x],argTypes:=#[t] },ty,pos,af,g⟩ e w (fun _ w'=>Row X w' base T (slc v 0 i (Z4.k α)) (xs.take i)∧Stp (ob v) w w'):=by
 have hcut:=hrow.cut hi
 by_cases hlt:i<xs.length
 case neg=>
  have hie:i=xs.length:=by omega
  refine Jj (v:=.tuple #[]) (w':=w) (fun a ha=>?_) ⟨hcut,Stp.refl _ _⟩
  obtain ⟨css,hl,hr,ho⟩:=hrow
  have hv:∃ p c,v=.slice p xs.length c:=by
   rcases ho.2 with ⟨rfl,hn⟩|⟨q,cap,cur,rfl,_⟩
   exact ⟨none,0,by rw [hn]⟩
   exact ⟨_,_,rfl⟩
  obtain ⟨p,c,rfl⟩:=hv
  have hs:slc (.slice p xs.length c) i xs.length (Z4.k α)=.slice (if c=i then p else p.map (·.add (i * Z4.k α))) 0 (c - i):=by simp [slc,hie]
  rw [hs] at hx
  simp only [execOp,resolve,Yap,Xy,XQ,ha.ev hx]
  cases hpp:(if c=i then p else p.map (·.add (i * Z4.k α)))<;>simp [invoke,builtin,Builtin.clear_,run_underlying hu.h]
 case pos=>
  obtain ⟨css,hl,hr,ho⟩:=hrow
  have hlen:∀ c∈css,c.length=Z4.k α:=by
   intro c hc
   obtain ⟨q,hq,rfl⟩:=Xj hc
   exact Z4.len (hr q (by omega) hq)
  rcases ho.2 with ⟨rfl,hn⟩|⟨q,cap,cur,rfl,hb,hg,hnc,hcm,hcs,ht⟩
  omega
  have hs:slc (.slice (some ⟨q,0,none⟩) xs.length cap) i xs.length (Z4.k α)=.slice (some ⟨q,i * Z4.k α,none⟩) (xs.length - i) (cap - i):=by
   simp [slc,show ¬ cap=i by omega,Addr.add_lit]
  rw [hs] at hx
  have hzc:(Builtin.zeroCells z.cells (xs.length - i)).toList.length=(xs.length - i) * Z4.k α:=by rw [X4,size_zeroCells,hzs]
  have hfit:i * Z4.k α+(Builtin.zeroCells z.cells (xs.length - i)).toList.length≤cur.size:=by
   rw [hzc,hcs,← Nat.add_mul]
   exact XE _ (by omega)
  have h1:∀ c∈(Builtin.zeroCells z.cells (xs.length - i)).toList,c.oneCell'=true:=by
   intro c hc
   simp only [Builtin.zeroCells,Array.toList_map,Yao] at hc
   obtain ⟨j,_,rfl⟩:=hc
   have hlt:j % z.cells.size<z.cells.size:=Nat.mod_lt _ (by omega)
   rw [getElem!_pos z.cells _ hlt]
   exact hz1 _ (by simp)
  have hst:=run_storeCells_at P q (i * Z4.k α) T (Builtin.zeroCells z.cells (xs.length - i)).toList 0 cur w hg (by simpa using hfit) h1
  simp only [Nat.add_zero] at hst
  have hSt:Stp [q] w (w.setRow q (cur.toList.take (i * Z4.k α)++(Builtin.zeroCells z.cells (xs.length - i)).toList++cur.toList.drop (i * Z4.k α+(Builtin.zeroCells z.cells (xs.length - i)).toList.length)).toArray):=Z2K _ _ _
  refine Jj (v:=.tuple #[]) (w':=w.setRow q (cur.toList.take (i * Z4.k α)++(Builtin.zeroCells z.cells (xs.length - i)).toList++cur.toList.drop (i * Z4.k α+(Builtin.zeroCells z.cells (xs.length - i)).toList.length)).toArray) (fun a ha=>?_) ⟨⟨css.take i,by simp [hl],fun j hj hj'=>?_,?_,.inr ⟨q,cap,_,?_,hb,setRow_heap w q cur _ T (0,0) hg,by simp;omega,hcm,?_,?_⟩⟩,hSt⟩
  have hne:xs.length - i≠0:=by omega
  obtain ⟨m,hm⟩:∃ m,xs.length - i=m+1:=⟨xs.length - i - 1,by omega⟩
  rw [hm] at hx hst
  simp only [execOp,resolve,Yap,Xy,XQ,ha.ev hx]
  simp [invoke,builtin,Builtin.clear_,run_underlying hu.h,Zer.run,hst]
  rw [hm]
  rw [Z4O]
  simp only [Yan]
  exact Z4.ext (hr j (by simp at hj;omega) (by simp at hj';omega)) hSt (by simp [ob]) (fun b hb=>.inl hb)
  rw [Z1X _ (fun c hc=>hlen c (Yas hc))]
  simp [hl]
  simp [Eng.slc,Addr.add,Xu,XO hi]
  simp only [Yaa,Xh,Xu,YaE,X4]
  simp only [X4] at hfit
  omega
  rw [Z1y css hlen,← ht,XR,Xu,XO hi]
  have h3:i * Z4.k α≤cur.toList.length:=by simp;omega
  rw [Xr,List.take_append_of_le_length (by simp;omega),XR]
  congr 1
  have:=XE (Z4.k α) hi
  omega
end row
section misc
variable {P:Program} {n:Nat} {e:Env} {w:World} {d:Option Nat} {ty:TypeId} {pos:String} {af:Array Edge} {g:Option (Nat×Bool)}
def Z0H (e:Env):List (Nat×Operand)→Option (List (Nat×Value))
 | []=>some []
 | (i, x) :: r => match ev e x, Z0H e r with
   | some v,some l=>some ((i,v) :: l)
   | _,_=>none
theorem Has.parts {a:Act} (ha:Has n e a):∀ {l:List (Nat×Operand)} {vs:List (Nat×Value)},Z0H e l=some vs→l.map (fun (p:Nat×Operand)=>(p.1,a.eval p.2))=vs
 | [],vs,h=>by simp [Z0H] at h;simp [h]
 | (i, x) :: r, vs, h => by
   simp only [Z0H] at h
   cases hx:Eng.ev e x with
   | none=>simp [hx] at h
   | some v=>
     cases hr:Z0H e r with
     | none=>simp [hx,hr] at h
     | some l=>
       simp [hx,hr] at h
       subst h
       simp [ha.ev hx,Has.parts ha hr]
theorem Z1g {t:TypeId} {l:List (Nat×Operand)} {vs:List (Nat×Value)} {u:Value} (hv:Z0H e l=some vs) (hb:∀ w,(Instr.build t vs.toArray).run P w=.ok u w):PR P n ⟨d,.build t l.toArray,ty,pos,af,g⟩ e w u:=
 ⟨fun a ha => by
   have h1:=ha.parts hv
   have h2:l.toArray.map (fun (x:Nat×Operand)=>match x with|(i,x)=>(i,a.eval x))=vs.toArray:=by
    rw [Yap]
    exact congrArg List.toArray h1
   simp only [execOp]
   rw [h2]
   simp [hb]⟩
def ZA (w:World) (T:TypeId) (len:Nat) (cs:List Value) (v:Value) (w':World):Prop:=∃ b,v=.slice (some ⟨b,0,none⟩) len len∧w.heap.size≤b∧Blk w' b T cs∧Stp [] w w'
theorem Z3 {t T len:Nat} {l:List (Nat×Operand)} {vs:List (Nat×Value)} {cs:List Value} (hv:Z0H e l=some vs)
 (hb:∀ w:World,(Instr.buildSlice t len vs.toArray).run P w=.ok (.slice (some ⟨w.heap.size,0,none⟩) len len) (w.alloc (.cells cs.toArray T))) :
 OE P n ⟨d,.buildSlice t len l.toArray,ty,pos,af,g⟩ e w (ZA w T len cs):=
 Jj (v:=.slice (some ⟨w.heap.size,0,none⟩) len len) (w':=w.alloc (.cells cs.toArray T)) (fun a ha=>by
  have h1:=ha.parts hv
  have h2:l.toArray.map (fun (x:Nat×Operand)=>match x with|(i,x)=>(i,a.eval x))=vs.toArray:=by
   rw [Yap]
   exact congrArg List.toArray h1
  simp only [execOp]
  rw [h2]
  simp [hb w]) ⟨w.heap.size,rfl,Xk _,heap_alloc_new w _,Stp.alloc _ _ _⟩
theorem ZA.slv {β:Type} [Z5 β] {X:List Nat} {T len:Nat} {cs:List Value} {v:Value} {w':World} {ys:List β} (h:ZA w T len cs v w') (hX:∀ b∈X,b<w.heap.size) (hl:len=ys.length) (hc:cs=ys.flatMap Z5.enc) (hm:ys.length≤maxLen):SlV X w' v ys:=by
 obtain ⟨b,rfl,hb,hblk,hS⟩:=h
 subst hl
 refine ⟨some ⟨b,0,none⟩,ys.length,rfl,Xk _,hm,fun h=>by simp at h,fun i hi=>⟨b,0,Z5.enc ys[i],rfl,hblk.lt,fun hx=>by have:=hX b hx;omega,rfl,fun j u hu=>?_⟩⟩
 subst hc
 refine hblk.cell ?_
 have hk:∀ c∈ys.map Z5.enc,c.length=Z5.k β:=by
  intro c hc
  obtain ⟨y,_,rfl⟩:=Yao.1 hc
  exact Z5.len y
 have:=Z0i (ys.map Z5.enc) hk i (by simpa using hi) j u (by simpa using hu)
 rw [List.flatMap_def,X8]
 exact this
theorem ZcF {x y:Operand} {t u:TypeId} {p q:Value} {c:Prop} [Decidable c] (hx:ev e x=some p) (hy:ev e y=some q) (hg:∀ w,(eqGuard .neq t x y p q).run P w=.ok () w) (h:∀ w,(binOp .neq t p q).run P w=.ok (.bool (decide (¬ c))) w) :
 PR P n ⟨d,.binOp .neq t x y u,ty,pos,af,g⟩ e w (.bool (decide (¬ c))):=⟨fun a ha=>by simp only [execOp,ha.ev hx,ha.ev hy];simp [h,hg]⟩
end misc
section post
variable {P:Program} {n:Nat} {fn:Func} {R:Ending→World→Prop} {e:Env} {w:World} {Q:Exit→Act→World→Prop}
theorem Z0Z {t b T m:Nat} {D:TypeDesc} {cs:List Value} [hu:Und P t D] (hA:JA D=true) [hs:Siz P t m] (hb:Blk w b T cs) (hl:cs.length=m):(loadVar t ⟨b,0,none⟩).run P w=.ok (.agg cs.toArray) w:=by
 have:=run_loadCells_list (P:=P) w ⟨b,0,none⟩ cs (fun j v h=>by rw [Addr.add_lit,X8];exact hb.cell h)
 rw [hl] at this
 simp [loadVar,Und.isAgg,hA,Siz.run,this]
theorem ZW {t b T T' m:Nat} {D:TypeDesc} {cs:List Value} (hr:fn.results=#[.cell t T']) [hu:Und P T' D] (hA:JA D=true) [hs:Siz P T' m] (ht:look e t=some (.pointer (some ⟨b,0,none⟩))) (hb:Blk w b T cs) (hl:cs.length=m)
 (h:R (.returned (.agg cs.toArray)) w):WQ n (bodyPost P fn R) .ret e w:=
 ⟨fun a ha => ⟨ha.defers, .agg cs.toArray, by
   have h1:=ha.vals _ _ ht
   rw [Array.getD_eq_getD_getElem?] at h1
   simp [results,hr,h1,asAddr,Z0Z hA hb hl],h⟩⟩
theorem ZP {t b T T' m s:Nat} {D:TypeDesc} {cs:List Value} {v:Value} (hr:fn.results=#[.cell t T',.tmp s]) [hu:Und P T' D] (hA:JA D=true) [hs:Siz P T' m] (ht:look e t=some (.pointer (some ⟨b,0,none⟩))) (hb:Blk w b T cs) (hl:cs.length=m)
 (hv:look e s=some v) (h:R (.returned (.tuple #[.agg cs.toArray,v])) w):WQ n (bodyPost P fn R) .ret e w:=
 ⟨fun a ha => ⟨ha.defers, .tuple #[.agg cs.toArray, v], by
   have h1:=ha.vals _ _ ht
   have h2:=ha.vals _ _ hv
   rw [Array.getD_eq_getD_getElem?] at h1 h2
   simp [results,hr,h1,h2,asAddr,Z0Z hA hb hl],h⟩⟩
end post
section
variable {P:Program} {n:Nat} {Q:Exit→Act→World→Prop} {e:Env} {w:World} {ops:Array Oper} {S:List Nat} {Lt:List Nat} {rest:List Oper} {ord:List (Nat×Nat)} {d₀ i₀:Nat} {ty:TypeId} {pos:String} {af:Array Edge} {gd:Option (Nat×Bool)}
theorem Z0I {x:Operand} {v:Value} (hx:ev e x=some v) (hdn:Nat.blt d₀ n=true) (kk:WL P n ops Q rest ((d₀,v) :: e) w):WL P n ops Q (⟨some d₀,.move x,ty,pos,af,none⟩ :: rest) e w:=by
 refine Z7 (v:=v) ?_ hdn kk
 apply J2<;>assumption
theorem Z6s {x:Operand} {v:Value} (hi₀:ops[i₀]?=some ⟨some d₀,.move x,ty,pos,af,gd⟩) (hg₀:Zy ops e gd) (hx:ev e x=some v) (hdn:Nat.blt d₀ n=true) (kk:WD P n ops S Lt Q ord ((d₀,v) :: e) w):WD P n ops S Lt Q ((i₀,0) :: ord) e w:=by
 refine ZB (v:=v) hi₀ hg₀ (fun w'=>?_) hdn kk
 apply J2<;>assumption
theorem JC {x:Operand} {v:Value} (hx:ev e x=some v) (hdn:Nat.blt d₀ n=true) (kk:WL P n ops Q rest ((d₀,v) :: e) w):WL P n ops Q (⟨some d₀,.assign x,ty,pos,af,none⟩ :: rest) e w:=by
 refine Z7 (v:=v) ?_ hdn kk
 apply Z3C<;>assumption
theorem Z9E {x:Operand} {v:Value} (hi₀:ops[i₀]?=some ⟨some d₀,.assign x,ty,pos,af,gd⟩) (hg₀:Zy ops e gd) (hx:ev e x=some v) (hdn:Nat.blt d₀ n=true) (kk:WD P n ops S Lt Q ord ((d₀,v) :: e) w):WD P n ops S Lt Q ((i₀,0) :: ord) e w:=by
 refine ZB (v:=v) hi₀ hg₀ (fun w'=>?_) hdn kk
 apply Z3C<;>assumption
theorem Z1h {c x y:Operand} {v:Value} (hc:ev e c=some (.bool true)) (hx:ev e x=some v) (hdn:Nat.blt d₀ n=true) (kk:WL P n ops Q rest ((d₀,v) :: e) w):WL P n ops Q (⟨some d₀,.pick c x y,ty,pos,af,none⟩ :: rest) e w:=by
 refine Z7 (v:=v) ?_ hdn kk
 apply Z5H<;>assumption
theorem Z9F {c x y:Operand} {v:Value} (hi₀:ops[i₀]?=some ⟨some d₀,.pick c x y,ty,pos,af,gd⟩) (hg₀:Zy ops e gd) (hc:ev e c=some (.bool true)) (hx:ev e x=some v) (hdn:Nat.blt d₀ n=true) (kk:WD P n ops S Lt Q ord ((d₀,v) :: e) w):WD P n ops S Lt Q ((i₀,0) :: ord) e w:=by
 refine ZB (v:=v) hi₀ hg₀ (fun w'=>?_) hdn kk
 apply Z5H<;>assumption
theorem Z1i {c x y:Operand} {v:Value} (hc:ev e c=some (.bool false)) (hx:ev e y=some v) (hdn:Nat.blt d₀ n=true) (kk:WL P n ops Q rest ((d₀,v) :: e) w):WL P n ops Q (⟨some d₀,.pick c x y,ty,pos,af,none⟩ :: rest) e w:=by
 refine Z7 (v:=v) ?_ hdn kk
 apply Z5I<;>assumption
theorem Z9G {c x y:Operand} {v:Value} (hi₀:ops[i₀]?=some ⟨some d₀,.pick c x y,ty,pos,af,gd⟩) (hg₀:Zy ops e gd) (hc:ev e c=some (.bool false)) (hx:ev e y=some v) (hdn:Nat.blt d₀ n=true) (kk:WD P n ops S Lt Q ord ((d₀,v) :: e) w):WD P n ops S Lt Q ((i₀,0) :: ord) e w:=by
 refine ZB (v:=v) hi₀ hg₀ (fun w'=>?_) hdn kk
 apply Z5I<;>assumption
theorem Z4P {t:TypeId} {x:Operand} {b:Bool} (hx:ev e x=some (.bool b))  (hdn:Nat.blt d₀ n=true) (kk:WL P n ops Q rest ((d₀,(.bool (!b))) :: e) w):WL P n ops Q (⟨some d₀,.unOp .not t x,ty,pos,af,none⟩ :: rest) e w:=by
 refine Z7 (v:=(.bool (!b))) ?_ hdn kk
 apply Zeh<;>assumption
theorem Z1Z {t:TypeId} {x:Operand} (hx:ev e x=some (.bool true))  (hdn:Nat.blt d₀ n=true) (kk:WL P n ops Q rest ((d₀,(.bool false)) :: e) w):WL P n ops Q (⟨some d₀,.unOp .not t x,ty,pos,af,none⟩ :: rest) e w:=by
 refine Z7 (v:=(.bool false)) ?_ hdn kk
 apply ZaL<;>assumption
theorem Z20 {t:TypeId} {x:Operand} (hx:ev e x=some (.bool false))  (hdn:Nat.blt d₀ n=true) (kk:WL P n ops Q rest ((d₀,(.bool true)) :: e) w):WL P n ops Q (⟨some d₀,.unOp .not t x,ty,pos,af,none⟩ :: rest) e w:=by
 refine Z7 (v:=(.bool true)) ?_ hdn kk
 apply ZaM<;>assumption
theorem Z36 {t:TypeId} {x:Operand} {p:Prop} [Decidable p] (hx:ev e x=some (.bool (decide p)))  (hdn:Nat.blt d₀ n=true) (kk:WL P n ops Q rest ((d₀,(.bool (decide (¬ p)))) :: e) w):WL P n ops Q (⟨some d₀,.unOp .not t x,ty,pos,af,none⟩ :: rest) e w:=by
 refine Z7 (v:=(.bool (decide (¬ p)))) ?_ hdn kk
 apply ZaN<;>assumption
theorem Z4Q {x y:Operand} {t u:TypeId} {a b:Int} (hx:ev e x=some (.int .i64 a)) (hy:ev e y=some (.int .i64 b)) (hr:I64 (a+b)) (hdn:Nat.blt d₀ n=true) (kk:WL P n ops Q rest ((d₀,(.int .i64 (a+b))) :: e) w):WL P n ops Q (⟨some d₀,.binOp .add t x y u,ty,pos,af,none⟩ :: rest) e w:=by
 refine Z7 (v:=(.int .i64 (a+b))) ?_ hdn kk
 apply Z6i<;>assumption
theorem ZgK {x y:Operand} {t u:TypeId} {a b:Int} (hi₀:ops[i₀]?=some ⟨some d₀,.binOp .add t x y u,ty,pos,af,gd⟩) (hg₀:Zy ops e gd) (hx:ev e x=some (.int .i64 a)) (hy:ev e y=some (.int .i64 b)) (hr:I64 (a+b)) (hdn:Nat.blt d₀ n=true) (kk:WD P n ops S Lt Q ord ((d₀,(.int .i64 (a+b))) :: e) w):WD P n ops S Lt Q ((i₀,0) :: ord) e w:=by
 refine ZB (v:=(.int .i64 (a+b))) hi₀ hg₀ (fun w'=>?_) hdn kk
 apply Z6i<;>assumption
theorem ZgL {x y:Operand} {t u:TypeId} {a b:Int} (hx:ev e x=some (.int .i64 a)) (hy:ev e y=some (.int .i64 b)) (hr:I64 (a - b)) (hdn:Nat.blt d₀ n=true) (kk:WL P n ops Q rest ((d₀,(.int .i64 (a - b))) :: e) w):WL P n ops Q (⟨some d₀,.binOp .sub t x y u,ty,pos,af,none⟩ :: rest) e w:=by
 refine Z7 (v:=(.int .i64 (a - b))) ?_ hdn kk
 apply Z6j<;>assumption
theorem ZgM {x y:Operand} {t u:TypeId} {a b:Int} (hi₀:ops[i₀]?=some ⟨some d₀,.binOp .sub t x y u,ty,pos,af,gd⟩) (hg₀:Zy ops e gd) (hx:ev e x=some (.int .i64 a)) (hy:ev e y=some (.int .i64 b)) (hr:I64 (a - b)) (hdn:Nat.blt d₀ n=true) (kk:WD P n ops S Lt Q ord ((d₀,(.int .i64 (a - b))) :: e) w):WD P n ops S Lt Q ((i₀,0) :: ord) e w:=by
 refine ZB (v:=(.int .i64 (a - b))) hi₀ hg₀ (fun w'=>?_) hdn kk
 apply Z6j<;>assumption
theorem ZgN {x y:Operand} {t u:TypeId} {a b:Int} (hx:ev e x=some (.int .i64 a)) (hy:ev e y=some (.int .i64 b)) (hr:I64 (a * b)) (hdn:Nat.blt d₀ n=true) (kk:WL P n ops Q rest ((d₀,(.int .i64 (a * b))) :: e) w):WL P n ops Q (⟨some d₀,.binOp .mul t x y u,ty,pos,af,none⟩ :: rest) e w:=by
 refine Z7 (v:=(.int .i64 (a * b))) ?_ hdn kk
 apply Zei<;>assumption
theorem ZgO {x:Operand} {t:TypeId} {a:Int} (hx:ev e x=some (.int .i64 a)) (hr:I64 (- a)) (hdn:Nat.blt d₀ n=true) (kk:WL P n ops Q rest ((d₀,(.int .i64 (- a))) :: e) w):WL P n ops Q (⟨some d₀,.unOp .neg t x,ty,pos,af,none⟩ :: rest) e w:=by
 refine Z7 (v:=(.int .i64 (- a))) ?_ hdn kk
 apply Zej<;>assumption
theorem ZcG {x y:Operand} {t u:TypeId} {a b:Int} (hx:ev e x=some (.int .i64 a)) (hy:ev e y=some (.int .i64 b)) (h0:0≤a) (hb:0<b) (hr:I64 a) (hdn:Nat.blt d₀ n=true) (kk:WL P n ops Q rest ((d₀,(.int .i64 (a % b))) :: e) w):WL P n ops Q (⟨some d₀,.binOp .rem t x y u,ty,pos,af,none⟩ :: rest) e w:=by
 refine Z7 (v:=(.int .i64 (a % b))) ?_ hdn kk
 apply Z98<;>assumption
theorem ZcH {x y:Operand} {t u:TypeId} {a b:Int} (hi₀:ops[i₀]?=some ⟨some d₀,.binOp .rem t x y u,ty,pos,af,gd⟩) (hg₀:Zy ops e gd) (hx:ev e x=some (.int .i64 a)) (hy:ev e y=some (.int .i64 b)) (h0:0≤a) (hb:0<b) (hr:I64 a) (hdn:Nat.blt d₀ n=true) (kk:WD P n ops S Lt Q ord ((d₀,(.int .i64 (a % b))) :: e) w):WD P n ops S Lt Q ((i₀,0) :: ord) e w:=by
 refine ZB (v:=(.int .i64 (a % b))) hi₀ hg₀ (fun w'=>?_) hdn kk
 apply Z98<;>assumption
theorem ZcI {x y:Operand} {t u:TypeId} {a b:Int} (hx:ev e x=some (.int .i64 a)) (hy:ev e y=some (.int .i64 b)) (h0:0≤a) (hb:0<b) (hr:I64 a) (hdn:Nat.blt d₀ n=true) (kk:WL P n ops Q rest ((d₀,(.int .i64 (a / b))) :: e) w):WL P n ops Q (⟨some d₀,.binOp .quo t x y u,ty,pos,af,none⟩ :: rest) e w:=by
 refine Z7 (v:=(.int .i64 (a / b))) ?_ hdn kk
 apply ZcB<;>assumption
theorem Z21 {x y:Operand} {t u:TypeId} {a b:Int} {k:IntKind} (hx:ev e x=some (.int k a)) (hy:ev e y=some (.int k b)) (hdn:Nat.blt d₀ n=true) (kk:WL P n ops Q rest ((d₀,(.bool (decide (a<b)))) :: e) w):WL P n ops Q (⟨some d₀,.binOp .lss t x y u,ty,pos,af,none⟩ :: rest) e w:=by
 refine Z7 (v:=(.bool (decide (a<b)))) ?_ hdn kk
 apply ZaO<;>assumption
theorem ZgP {x y:Operand} {t u:TypeId} {a b:Int} {k:IntKind} (hi₀:ops[i₀]?=some ⟨some d₀,.binOp .lss t x y u,ty,pos,af,gd⟩) (hg₀:Zy ops e gd) (hx:ev e x=some (.int k a)) (hy:ev e y=some (.int k b)) (hdn:Nat.blt d₀ n=true) (kk:WD P n ops S Lt Q ord ((d₀,(.bool (decide (a<b)))) :: e) w):WD P n ops S Lt Q ((i₀,0) :: ord) e w:=by
 refine ZB (v:=(.bool (decide (a<b)))) hi₀ hg₀ (fun w'=>?_) hdn kk
 apply ZaO<;>assumption
theorem ZgQ {x y:Operand} {t u:TypeId} {a b:Int} {k:IntKind} (hx:ev e x=some (.int k a)) (hy:ev e y=some (.int k b)) (hdn:Nat.blt d₀ n=true) (kk:WL P n ops Q rest ((d₀,(.bool (decide (a≤b)))) :: e) w):WL P n ops Q (⟨some d₀,.binOp .leq t x y u,ty,pos,af,none⟩ :: rest) e w:=by
 refine Z7 (v:=(.bool (decide (a≤b)))) ?_ hdn kk
 apply Zem<;>assumption
theorem Z6t {x y:Operand} {t u:TypeId} {a b:Int} {k:IntKind} (hx:ev e x=some (.int k a)) (hy:ev e y=some (.int k b)) (hdn:Nat.blt d₀ n=true) (kk:WL P n ops Q rest ((d₀,(.bool (decide (b<a)))) :: e) w):WL P n ops Q (⟨some d₀,.binOp .gtr t x y u,ty,pos,af,none⟩ :: rest) e w:=by
 refine Z7 (v:=(.bool (decide (b<a)))) ?_ hdn kk
 apply ZaP<;>assumption
theorem ZgR {x y:Operand} {t u:TypeId} {a b:Int} {k:IntKind} (hi₀:ops[i₀]?=some ⟨some d₀,.binOp .gtr t x y u,ty,pos,af,gd⟩) (hg₀:Zy ops e gd) (hx:ev e x=some (.int k a)) (hy:ev e y=some (.int k b)) (hdn:Nat.blt d₀ n=true) (kk:WD P n ops S Lt Q ord ((d₀,(.bool (decide (b<a)))) :: e) w):WD P n ops S Lt Q ((i₀,0) :: ord) e w:=by
 refine ZB (v:=(.bool (decide (b<a)))) hi₀ hg₀ (fun w'=>?_) hdn kk
 apply ZaP<;>assumption
theorem ZgS {x y:Operand} {t u:TypeId} {a b:Int} {k:IntKind} (hx:ev e x=some (.int k a)) (hy:ev e y=some (.int k b)) (hdn:Nat.blt d₀ n=true) (kk:WL P n ops Q rest ((d₀,(.bool (decide (b≤a)))) :: e) w):WL P n ops Q (⟨some d₀,.binOp .geq t x y u,ty,pos,af,none⟩ :: rest) e w:=by
 refine Z7 (v:=(.bool (decide (b≤a)))) ?_ hdn kk
 apply Zen<;>assumption
theorem ZgT {x y:Operand} {t u:TypeId} {a b:Int} {k:IntKind} (hx:ev e x=some (.int k a)) (hy:ev e y=some (.int k b)) (hdn:Nat.blt d₀ n=true) (kk:WL P n ops Q rest ((d₀,(.bool (decide (a=b)))) :: e) w):WL P n ops Q (⟨some d₀,.binOp .eql t x y u,ty,pos,af,none⟩ :: rest) e w:=by
 refine Z7 (v:=(.bool (decide (a=b)))) ?_ hdn kk
 apply ZaQ<;>assumption
theorem ZgU {x y:Operand} {t u:TypeId} {a b:Int} {k:IntKind} (hi₀:ops[i₀]?=some ⟨some d₀,.binOp .eql t x y u,ty,pos,af,gd⟩) (hg₀:Zy ops e gd) (hx:ev e x=some (.int k a)) (hy:ev e y=some (.int k b)) (hdn:Nat.blt d₀ n=true) (kk:WD P n ops S Lt Q ord ((d₀,(.bool (decide (a=b)))) :: e) w):WD P n ops S Lt Q ((i₀,0) :: ord) e w:=by
 refine ZB (v:=(.bool (decide (a=b)))) hi₀ hg₀ (fun w'=>?_) hdn kk
 apply ZaQ<;>assumption
theorem Zb2 {x y:Operand} {t u:TypeId} {a b:Int} {k:IntKind} (hx:ev e x=some (.int k a)) (hy:ev e y=some (.int k b)) (hdn:Nat.blt d₀ n=true) (kk:WL P n ops Q rest ((d₀,(.bool (decide (¬ a=b)))) :: e) w):WL P n ops Q (⟨some d₀,.binOp .neq t x y u,ty,pos,af,none⟩ :: rest) e w:=by
 refine Z7 (v:=(.bool (decide (¬ a=b)))) ?_ hdn kk
 apply ZaR<;>assumption
theorem ZgV {x y:Operand} {t u:TypeId} {a b:Int} {k:IntKind} (hi₀:ops[i₀]?=some ⟨some d₀,.binOp .neq t x y u,ty,pos,af,gd⟩) (hg₀:Zy ops e gd) (hx:ev e x=some (.int k a)) (hy:ev e y=some (.int k b)) (hdn:Nat.blt d₀ n=true) (kk:WD P n ops S Lt Q ord ((d₀,(.bool (decide (¬ a=b)))) :: e) w):WD P n ops S Lt Q ((i₀,0) :: ord) e w:=by
 refine ZB (v:=(.bool (decide (¬ a=b)))) hi₀ hg₀ (fun w'=>?_) hdn kk
 apply ZaR<;>assumption
theorem ZcJ {x y:Operand} {t u:TypeId} {p q:Bool} [hu:Und P t .bool] (hi₀:ops[i₀]?=some ⟨some d₀,.binOp .eql t x y u,ty,pos,af,gd⟩) (hg₀:Zy ops e gd) (hx:ev e x=some (.bool p)) (hy:ev e y=some (.bool q)) (hdn:Nat.blt d₀ n=true) (kk:WD P n ops S Lt Q ord ((d₀,(.bool (decide (p=q)))) :: e) w):WD P n ops S Lt Q ((i₀,0) :: ord) e w:=by
 refine ZB (v:=(.bool (decide (p=q)))) hi₀ hg₀ (fun w'=>?_) hdn kk
 apply ZcC<;>assumption
theorem Z9b {x y:Operand} {t u:TypeId} {p q:Bool} [hu:Und P t .bool] (hx:ev e x=some (.bool p)) (hy:ev e y=some (.bool q)) (hdn:Nat.blt d₀ n=true) (kk:WL P n ops Q rest ((d₀,(.bool (decide (¬ p=q)))) :: e) w):WL P n ops Q (⟨some d₀,.binOp .neq t x y u,ty,pos,af,none⟩ :: rest) e w:=by
 refine Z7 (v:=(.bool (decide (¬ p=q)))) ?_ hdn kk
 apply ZcD<;>assumption
theorem Z8l {x:Operand} {vs:Array Value} {i:Nat} {v:Value} (hx:ev e x=some (.tuple vs)) (hv:vs[i]?=some v) (hdn:Nat.blt d₀ n=true) (kk:WL P n ops Q rest ((d₀,v) :: e) w):WL P n ops Q (⟨some d₀,.extract x i,ty,pos,af,none⟩ :: rest) e w:=by
 refine Z7 (v:=v) ?_ hdn kk
 apply Z4J<;>assumption
theorem Z8m {x:Operand} {vs:Array Value} {i:Nat} {v:Value} (hi₀:ops[i₀]?=some ⟨some d₀,.extract x i,ty,pos,af,gd⟩) (hg₀:Zy ops e gd) (hx:ev e x=some (.tuple vs)) (hv:vs[i]?=some v) (hdn:Nat.blt d₀ n=true) (kk:WD P n ops S Lt Q ord ((d₀,v) :: e) w):WD P n ops S Lt Q ((i₀,0) :: ord) e w:=by
 refine ZB (v:=v) hi₀ hg₀ (fun w'=>?_) hdn kk
 apply Z4J<;>assumption
theorem Z4R {x:Operand} {t:TypeId} {el:TypeId} [hu:Und P t (.slice el)] {p:Option Addr} {l c:Nat} (hx:ev e x=some (.slice p l c)) (hdn:Nat.blt d₀ n=true) (kk:WL P n ops Q rest ((d₀,(.int .i64 (l:Int))) :: e) w):WL P n ops Q (⟨some d₀,.call { callee:=.builtin .len,args:=#[x],argTypes:=#[t] },ty,pos,af,none⟩ :: rest) e w:=by
 refine Z7 (v:=(.int .i64 (l:Int))) ?_ hdn kk
 apply ZaS<;>assumption
theorem Z02 {x:Operand} {t:TypeId} {b o i off:Nat} [hf:Fld P t i off] (hx:ev e x=some (.pointer (some ⟨b,o,none⟩))) (hdn:Nat.blt d₀ n=true) (kk:WL P n ops Q rest ((d₀,(.pointer (some ⟨b,o+off,none⟩))) :: e) w):WL P n ops Q (⟨some d₀,.fieldAddr t x i,ty,pos,af,none⟩ :: rest) e w:=by
 refine Z7 (v:=(.pointer (some ⟨b,o+off,none⟩))) ?_ hdn kk
 apply J3<;>assumption
theorem Jf {x:Operand} {t:TypeId} {b o i off:Nat} [hf:Fld P t i off] (hi₀:ops[i₀]?=some ⟨some d₀,.fieldAddr t x i,ty,pos,af,gd⟩) (hg₀:Zy ops e gd) (hx:ev e x=some (.pointer (some ⟨b,o,none⟩))) (hdn:Nat.blt d₀ n=true) (kk:WD P n ops S Lt Q ord ((d₀,(.pointer (some ⟨b,o+off,none⟩))) :: e) w):WD P n ops S Lt Q ((i₀,0) :: ord) e w:=by
 refine ZB (v:=(.pointer (some ⟨b,o+off,none⟩))) hi₀ hg₀ (fun w'=>?_) hdn kk
 apply J3<;>assumption
theorem Z03 {f:Nat} (hdn:Nat.blt d₀ n=true) (kk:WL P n ops Q rest ((d₀,(.func (.func f) #[] #[])) :: e) w):WL P n ops Q (⟨some d₀,.makeFunc (.func f) #[] #[],ty,pos,af,none⟩ :: rest) e w:=by
 refine Z7 (v:=(.func (.func f) #[] #[])) ?_ hdn kk
 apply Z6k<;>assumption
theorem Z04 {f:Nat} {x:Operand} {v:Value} (hx:ev e x=some v) (hdn:Nat.blt d₀ n=true) (kk:WL P n ops Q rest ((d₀,(.func (.func f) #[] #[v])) :: e) w):WL P n ops Q (⟨some d₀,.makeFunc (.func f) #[] #[x],ty,pos,af,none⟩ :: rest) e w:=by
 refine Z7 (v:=(.func (.func f) #[] #[v])) ?_ hdn kk
 apply Z6l<;>assumption
theorem Z05 {f:Nat} {x y:Operand} {v u:Value} (hx:ev e x=some v) (hy:ev e y=some u) (hdn:Nat.blt d₀ n=true) (kk:WL P n ops Q rest ((d₀,(.func (.func f) #[] #[v,u])) :: e) w):WL P n ops Q (⟨some d₀,.makeFunc (.func f) #[] #[x,y],ty,pos,af,none⟩ :: rest) e w:=by
 refine Z7 (v:=(.func (.func f) #[] #[v,u])) ?_ hdn kk
 apply Z6m<;>assumption
theorem Z06 {f:Nat} {x y z:Operand} {v u s:Value} (hx:ev e x=some v) (hy:ev e y=some u) (hz:ev e z=some s) (hdn:Nat.blt d₀ n=true) (kk:WL P n ops Q rest ((d₀,(.func (.func f) #[] #[v,u,s])) :: e) w):WL P n ops Q (⟨some d₀,.makeFunc (.func f) #[] #[x,y,z],ty,pos,af,none⟩ :: rest) e w:=by
 refine Z7 (v:=(.func (.func f) #[] #[v,u,s])) ?_ hdn kk
 apply Z6n<;>assumption
theorem Z37 {α:Type} [Z4 α] {X:List Nat} {xs:List α} {v:Value} {x:Operand} {t:TypeId} {el:TypeId} {w₀:World} [hu:Und P t (.slice el)] (hx:ev e x=some v) (hs:SlV X w₀ v xs) (hdn:Nat.blt d₀ n=true) (kk:WL P n ops Q rest ((d₀,(.int .i64 (xs.length:Int))) :: e) w):WL P n ops Q (⟨some d₀,.call { callee:=.builtin .len,args:=#[x],argTypes:=#[t] },ty,pos,af,none⟩ :: rest) e w:=by
 refine Z7 (v:=(.int .i64 (xs.length:Int))) ?_ hdn kk
 apply Z99 (α:=α)<;>assumption
theorem ZcK {α:Type} [Z4 α] {X:List Nat} {xs:List α} {v:Value} {x:Operand} {t:TypeId} {el:TypeId} {w₀:World} [hu:Und P t (.slice el)] (hi₀:ops[i₀]?=some ⟨some d₀,.call { callee:=.builtin .len,args:=#[x],argTypes:=#[t] },ty,pos,af,gd⟩) (hg₀:Zy ops e gd) (hx:ev e x=some v) (hs:SlV X w₀ v xs) (hdn:Nat.blt d₀ n=true) (kk:WD P n ops S Lt Q ord ((d₀,(.int .i64 (xs.length:Int))) :: e) w):WD P n ops S Lt Q ((i₀,0) :: ord) e w:=by
 refine ZB (v:=(.int .i64 (xs.length:Int))) hi₀ hg₀ (fun w'=>?_) hdn kk
 apply Z99 (α:=α)<;>assumption
theorem Jr {α:Type} [Z4 α] {X:List Nat} {xs:List α} {v:Value} {x y:Operand} {t:TypeId} {el k:Nat} [hu:Und P t (.slice el)] [hk:Siz P el k] {z:Int} {i:Nat} {w₀:World} (hx:ev e x=some v) (hs:SlV X w₀ v xs) (hy:ev e y=some (.int .i64 z)) (hz:z=(i:Int)) (hi:i<xs.length) (hdn:Nat.blt d₀ n=true) (kk:WL P n ops Q rest ((d₀,(.pointer (some (Zq v i k 0)))) :: e) w):WL P n ops Q (⟨some d₀,.indexAddr t x y,ty,pos,af,none⟩ :: rest) e w:=by
 refine Z7 (v:=(.pointer (some (Zq v i k 0)))) ?_ hdn kk
 apply Z8k (α:=α)<;>assumption
theorem ZgW {α:Type} [Z4 α] {X:List Nat} {xs:List α} {v:Value} {x y:Operand} {t:TypeId} {el k:Nat} [hu:Und P t (.slice el)] [hk:Siz P el k] {z:Int} {i:Nat} {w₀:World} (hi₀:ops[i₀]?=some ⟨some d₀,.indexAddr t x y,ty,pos,af,gd⟩) (hg₀:Zy ops e gd) (hx:ev e x=some v) (hs:SlV X w₀ v xs) (hy:ev e y=some (.int .i64 z)) (hz:z=(i:Int)) (hi:i<xs.length) (hdn:Nat.blt d₀ n=true) (kk:WD P n ops S Lt Q ord ((d₀,(.pointer (some (Zq v i k 0)))) :: e) w):WD P n ops S Lt Q ((i₀,0) :: ord) e w:=by
 refine ZB (v:=(.pointer (some (Zq v i k 0)))) hi₀ hg₀ (fun w'=>?_) hdn kk
 apply Z8k (α:=α)<;>assumption
theorem Z0u {x:Operand} {t:TypeId} {v:Value} {i k j m off:Nat} [hf:Fld P t m off] (hx:ev e x=some (.pointer (some (Zq v i k j)))) (hv:∃ p l c,v=.slice (some p) l c) (hdn:Nat.blt d₀ n=true) (kk:WL P n ops Q rest ((d₀,(.pointer (some (Zq v i k (j+off))))) :: e) w):WL P n ops Q (⟨some d₀,.fieldAddr t x m,ty,pos,af,none⟩ :: rest) e w:=by
 refine Z7 (v:=(.pointer (some (Zq v i k (j+off))))) ?_ hdn kk
 apply Z1W<;>assumption
theorem Z7d {x:Operand} {t:TypeId} {v:Value} {i k j m off:Nat} [hf:Fld P t m off] (hi₀:ops[i₀]?=some ⟨some d₀,.fieldAddr t x m,ty,pos,af,gd⟩) (hg₀:Zy ops e gd) (hx:ev e x=some (.pointer (some (Zq v i k j)))) (hv:∃ p l c,v=.slice (some p) l c) (hdn:Nat.blt d₀ n=true) (kk:WD P n ops S Lt Q ord ((d₀,(.pointer (some (Zq v i k (j+off))))) :: e) w):WD P n ops S Lt Q ((i₀,0) :: ord) e w:=by
 refine ZB (v:=(.pointer (some (Zq v i k (j+off))))) hi₀ hg₀ (fun w'=>?_) hdn kk
 apply Z1W<;>assumption
theorem Z0S {α:Type} [Z5 α] {X:List Nat} {xs:List α} {v u:Value} {i j k:Nat} {x:Operand} {t:TypeId} {D:TypeDesc} [hu:Und P t D] (hA:JA D=false) (hx:ev e x=some (.pointer (some (Zq v i k j)))) (hs:SlV X w v xs) (hi:i<xs.length) (hk:k=Z5.k α) (hc:(Z5.enc xs[i])[j]?=some u) (hdn:Nat.blt d₀ n=true) (kk:WL P n ops Q rest ((d₀,u) :: e) w):WL P n ops Q (⟨some d₀,.load t x,ty,pos,af,none⟩ :: rest) e w:=by
 refine Z7 (v:=u) ?_ hdn kk
 apply Z2J (α:=α)<;>assumption
theorem Z0v {α:Type} [Z5 α] {X:List Nat} {xs:List α} {v:Value} {i k:Nat} {x:Operand} {t:TypeId} {D:TypeDesc} [hu:Und P t D] (hA:JA D=true) [hsz:Siz P t k] (hx:ev e x=some (.pointer (some (Zq v i k 0)))) (hs:SlV X w v xs) (hi:i<xs.length) (hk:k=Z5.k α) (hdn:Nat.blt d₀ n=true) (kk:WL P n ops Q rest ((d₀,(.agg (Z5.enc xs[i]).toArray)) :: e) w):WL P n ops Q (⟨some d₀,.load t x,ty,pos,af,none⟩ :: rest) e w:=by
 refine Z7 (v:=(.agg (Z5.enc xs[i]).toArray)) ?_ hdn kk
 apply Z46 (α:=α)<;>assumption
theorem JV {b T o:Nat} {cs:List Value} {u:Value} {x:Operand} {t:TypeId} {D:TypeDesc} [hu:Und P t D] (hA:JA D=false) (hx:ev e x=some (.pointer (some ⟨b,o,none⟩))) (hb:Blk w b T cs) (hc:cs[o]?=some u) (hdn:Nat.blt d₀ n=true) (kk:WL P n ops Q rest ((d₀,u) :: e) w):WL P n ops Q (⟨some d₀,.load t x,ty,pos,af,none⟩ :: rest) e w:=by
 refine Z7 (v:=u) ?_ hdn kk
 apply ZT<;>assumption
theorem Z07 {b T m:Nat} {cs:List Value} {x:Operand} {t:TypeId} {D:TypeDesc} [hu:Und P t D] (hA:JA D=true) [hsz:Siz P t m] (hx:ev e x=some (.pointer (some ⟨b,0,none⟩))) (hb:Blk w b T cs) (hl:cs.length=m) (hdn:Nat.blt d₀ n=true) (kk:WL P n ops Q rest ((d₀,(.agg cs.toArray)) :: e) w):WL P n ops Q (⟨some d₀,.load t x,ty,pos,af,none⟩ :: rest) e w:=by
 refine Z7 (v:=(.agg cs.toArray)) ?_ hdn kk
 apply Z0G<;>assumption
theorem Za {t:TypeId} {l:List (Nat×Operand)} {vs:List (Nat×Value)} {u:Value} (hv:Z0H e l=some vs) (hb:∀ w,(Instr.build t vs.toArray).run P w=.ok u w) (hdn:Nat.blt d₀ n=true) (kk:WL P n ops Q rest ((d₀,u) :: e) w):WL P n ops Q (⟨some d₀,.build t l.toArray,ty,pos,af,none⟩ :: rest) e w:=by
 refine Z7 (v:=u) ?_ hdn kk
 apply Z1g<;>assumption
theorem Z38 {t:TypeId} {l:List (Nat×Operand)} {vs:List (Nat×Value)} {u:Value} (hi₀:ops[i₀]?=some ⟨some d₀,.build t l.toArray,ty,pos,af,gd⟩) (hg₀:Zy ops e gd) (hv:Z0H e l=some vs) (hb:∀ w,(Instr.build t vs.toArray).run P w=.ok u w) (hdn:Nat.blt d₀ n=true) (kk:WD P n ops S Lt Q ord ((d₀,u) :: e) w):WD P n ops S Lt Q ((i₀,0) :: ord) e w:=by
 refine ZB (v:=u) hi₀ hg₀ (fun w'=>?_) hdn kk
 apply Z1g<;>assumption
theorem Z9c {x y:Operand} {t u:TypeId} {p q:Value} {c:Prop} [Decidable c] (hi₀:ops[i₀]?=some ⟨some d₀,.binOp .neq t x y u,ty,pos,af,gd⟩) (hg₀:Zy ops e gd) (hx:ev e x=some p) (hy:ev e y=some q) (hg:∀ w,(eqGuard .neq t x y p q).run P w=.ok () w) (h:∀ w,(binOp .neq t p q).run P w=.ok (.bool (decide (¬ c))) w) (hdn:Nat.blt d₀ n=true) (kk:WD P n ops S Lt Q ord ((d₀,(.bool (decide (¬ c)))) :: e) w):WD P n ops S Lt Q ((i₀,0) :: ord) e w:=by
 refine ZB (v:=(.bool (decide (¬ c)))) hi₀ hg₀ (fun w'=>?_) hdn kk
 apply ZcF<;>assumption
theorem Z4S {t:TypeId} {x:Operand} {y:Operand} (h:WL P n ops Q (⟨some d₀,.indexAddr t x y,ty,pos,af,none⟩ :: rest) e w):WL P n ops Q (⟨some d₀,.indexAddr t x y,ty,pos,af,none⟩ :: rest) e w:=h
theorem Z39 {t:TypeId} {x:Operand} (h:WL P n ops Q (⟨some d₀,.load t x,ty,pos,af,none⟩ :: rest) e w):WL P n ops Q (⟨some d₀,.load t x,ty,pos,af,none⟩ :: rest) e w:=h
theorem Z4T {t:TypeId} {x:Operand} (h:WL P n ops Q (⟨some d₀,.call { callee:=.builtin .len,args:=#[x],argTypes:=#[t] },ty,pos,af,none⟩ :: rest) e w):WL P n ops Q (⟨some d₀,.call { callee:=.builtin .len,args:=#[x],argTypes:=#[t] },ty,pos,af,none⟩ :: rest) e w:=h
theorem Z22 {t:TypeId} {x:Operand} {m:Nat} (h:WL P n ops Q (⟨some d₀,.fieldAddr t x m,ty,pos,af,none⟩ :: rest) e w):WL P n ops Q (⟨some d₀,.fieldAddr t x m,ty,pos,af,none⟩ :: rest) e w:=h
end
section
variable {P:Program} {n:Nat} {Q:Exit→Act→World→Prop} {e:Env} {w:World} {ops:Array Oper} {S:List Nat} {Lt:List Nat} {ord:List (Nat×Nat)} {d₀ i₀:Nat} {ty:TypeId} {pos:String} {af:Array Edge} {gd:Option (Nat×Bool)}
theorem Jv {b T o:Nat} {cs:List Value} {u:Value} {x:Operand} {t:TypeId} {D:TypeDesc} [hu:Und P t D] (hi₀:ops[i₀]?=some ⟨some d₀,.load t x,ty,pos,af,gd⟩) (hg₀:Zy ops e gd) (hA:JA D=false) (hx:ev e x=some (.pointer (some ⟨b,o,none⟩))) (hb:Blk w b T cs) (hn:b∉S) (hc:cs[o]?=some u) (hdn:Nat.blt d₀ n=true) (kk:WD P n ops S Lt Q ord ((d₀,u) :: e) w):WD P n ops S Lt Q ((i₀,1) :: ord) e w:=
 JR hi₀ hg₀ (fun w' hS=>ZT hA hx (hb.ext hS hn) hc) hdn kk
theorem Z1z {b T m:Nat} {cs:List Value} {x:Operand} {t:TypeId} {D:TypeDesc} [hu:Und P t D] [hsz:Siz P t m] (hi₀:ops[i₀]?=some ⟨some d₀,.load t x,ty,pos,af,gd⟩) (hg₀:Zy ops e gd) (hA:JA D=true) (hx:ev e x=some (.pointer (some ⟨b,0,none⟩))) (hb:Blk w b T cs) (hn:b∉S) (hl:cs.length=m) (hdn:Nat.blt d₀ n=true) (kk:WD P n ops S Lt Q ord ((d₀,.agg cs.toArray) :: e) w):WD P n ops S Lt Q ((i₀,1) :: ord) e w:=
 JR hi₀ hg₀ (fun w' hS=>Z0G hA hx (hb.ext hS hn) hl) hdn kk
theorem Z8n {α:Type} [Z5 α] {X:List Nat} {xs:List α} {v u:Value} {i j k:Nat} {x:Operand} {t:TypeId} {D:TypeDesc} [hu:Und P t D] (hi₀:ops[i₀]?=some ⟨some d₀,.load t x,ty,pos,af,gd⟩) (hg₀:Zy ops e gd) (hA:JA D=false) (hx:ev e x=some (.pointer (some (Zq v i k j))))
 (hs:SlV X w v xs) (hn:∀ b∈S,b∈X) (hi:i<xs.length) (hk:k=Z5.k α) (hc:(Z5.enc xs[i])[j]?=some u) (hdn:Nat.blt d₀ n=true) (kk:WD P n ops S Lt Q ord ((d₀,u) :: e) w):WD P n ops S Lt Q ((i₀,1) :: ord) e w:=
 JR hi₀ hg₀ (fun w' hS=>Z2J hA hx (hs.ext hS hn (fun _ h=>.inl h)) hi hk hc) hdn kk
theorem Z7e {α:Type} [Z5 α] {X:List Nat} {xs:List α} {v:Value} {i k:Nat} {x:Operand} {t:TypeId} {D:TypeDesc} [hu:Und P t D] [hsz:Siz P t k] (hi₀:ops[i₀]?=some ⟨some d₀,.load t x,ty,pos,af,gd⟩) (hg₀:Zy ops e gd) (hA:JA D=true) (hx:ev e x=some (.pointer (some (Zq v i k 0))))
 (hs:SlV X w v xs) (hn:∀ b∈S,b∈X) (hi:i<xs.length) (hk:k=Z5.k α) (hdn:Nat.blt d₀ n=true) (kk:WD P n ops S Lt Q ord ((d₀,.agg (Z5.enc xs[i]).toArray) :: e) w):WD P n ops S Lt Q ((i₀,1) :: ord) e w:=
 JR hi₀ hg₀ (fun w' hS=>Z46 hA hx (hs.ext hS hn (fun _ h=>.inl h)) hi hk) hdn kk
end
abbrev Str:=List UInt8
abbrev str (s:Str):Value:=.string ⟨s.toArray⟩
theorem ZcL (a b:Str):((⟨a.toArray⟩:ByteArray).toList == (⟨b.toArray⟩:ByteArray).toList)=decide (a=b):=by
 rw [ByteArray.toList_eq,ByteArray.toList_eq]
 simp only [XZ]
theorem Jw (a:Str):(⟨a.toArray⟩:ByteArray).size=a.length:=by simp [ByteArray.size]
theorem Z23 (a:Str) (i j:Nat):(⟨a.toArray⟩:ByteArray).extract i j=⟨((a.take j).drop i).toArray⟩:=by
 apply ByteArray.ext
 simp [ByteArray.data_extract,YaK]
theorem Z8o (a b:Str):(⟨a.toArray⟩++⟨b.toArray⟩:ByteArray)=⟨(a++b).toArray⟩:=by
 apply ByteArray.ext
 simp [ByteArray.data_append]
def Z08 (a:Str) (i:Nat):Int:=((a.getD i 0).toNat:Int)
theorem Z4U (a:Str) (i:Nat):0≤Z08 a i∧Z08 a i<256:=by
 unfold Z08
 have:=(a.getD i 0).toNat_lt
 omega
instance:Z5 Str where
 k:=1
 enc:=fun x=>[str x]
 len:=fun _=>rfl
 one:=by intro x u hu;simp at hu;subst hu;rfl
section rules
variable {P:Program} {n:Nat} {e:Env} {w:World} {d:Option Nat} {ty:TypeId} {pos:String} {af:Array Edge} {g:Option (Nat×Bool)}
theorem Z9d {t u:TypeId} {x y:Operand} {a b:Str} [hu:Und P t .string] (hx:ev e x=some (str a)) (hy:ev e y=some (str b)):PR P n ⟨d,.binOp .eql t x y u,ty,pos,af,g⟩ e w (.bool (decide (a=b))):=
 ⟨fun c ha=>by simp only [execOp,ha.ev hx,ha.ev hy];simp [go_sem,binOp,Op.stringOp];rw [XZ]⟩
theorem ZcM {t u:TypeId} {x y:Operand} {a b:Str} [hu:Und P t .string] (hx:ev e x=some (str a)) (hy:ev e y=some (str b)):PR P n ⟨d,.binOp .neq t x y u,ty,pos,af,g⟩ e w (.bool (decide (¬ a=b))):=
 ⟨fun c ha=>by simp only [execOp,ha.ev hx,ha.ev hy];simp [go_sem,binOp,Op.stringOp];by_cases h:a=b<;>simp [h]⟩
theorem ZcN {t u:TypeId} {x y:Operand} {a b:Str} [hu:Und P t .string] (hx:ev e x=some (str a)) (hy:ev e y=some (str b)) (hl:a.length+b.length≤9223372036854775807):PR P n ⟨d,.binOp .add t x y u,ty,pos,af,g⟩ e w (str (a++b)):=
 ⟨fun c ha => by
   simp only [execOp,ha.ev hx,ha.ev hy]
   simp [go_sem,binOp,Op.stringOp,Z8o]
   omega⟩
theorem ZcO {x:Operand} {t:TypeId} {a:Str} [hu:Und P t .string] (hx:ev e x=some (str a)) :
 PR P n ⟨d,.call { callee:=.builtin .len,args:=#[x],argTypes:=#[t] },ty,pos,af,g⟩ e w (.int .i64 (a.length:Int)):=
 ⟨fun c ha => by
   have:=run_len_string (P:=P) w t ty ⟨a.toArray⟩ hu.h
   simp [execOp,resolve,invoke,builtin,ha.ev hx,this,goInt,Jw]⟩
theorem Z5J {t:TypeId} {x y:Operand} {a:Str} {z:Int} {i:Nat} [hu:Und P t .string] (hx:ev e x=some (str a)) (hy:ev e y=some (.int .i64 z)) (hz:z=(i:Int)) (hi:i<a.length):PR P n ⟨d,.index t x y,ty,pos,af,g⟩ e w (.int .u8 (Z08 a i)):=
 ⟨fun c ha => by
   subst hz
   have h1:(0:Int)≤(i:Int)∧((i:Int)<((⟨a.toArray⟩:ByteArray).size:Int)):=by rw [Jw];omega
   have:=run_index_string (P:=P) w t ⟨a.toArray⟩ .i64 (i:Int) hu.h
   rw [dif_pos h1] at this
   simp only [execOp,ha.ev hx,ha.ev hy]
   simp [this,Z08,List.getD,hi]
   rfl⟩
theorem Z6u {t:TypeId} {x lo hi:Operand} {a:Str} {p q:Int} {l r:Nat} [hu:Und P t .string] (hx:ev e x=some (str a)) (h1:ev e lo=some (.int .i64 p)) (h2:ev e hi=some (.int .i64 q)) (hp:p=(l:Int)) (hq:q=(r:Int)) (hlr:l≤r) (hr:r≤a.length) :
 PR P n ⟨d,.slice t x (some lo) (some hi) none,ty,pos,af,g⟩ e w (str ((a.take r).drop l)):=
 ⟨fun c ha => by
   subst hp;subst hq
   have:=run_slice_string (P:=P) w t ⟨a.toArray⟩ .i64 .i64 (l:Int) (r:Int) hu.h (by omega) (by omega) (by rw [Jw];omega)
   simp only [execOp,ha.ev hx,ha.ev h1,ha.ev h2,Option.map]
   simp [Instr.sliceAt,run_underlying hu.h,this,Z23]⟩
theorem Z47 {t:TypeId} {x lo:Operand} {a:Str} {p:Int} {l:Nat} [hu:Und P t .string] (hx:ev e x=some (str a)) (h1:ev e lo=some (.int .i64 p)) (hp:p=(l:Int)) (hl:l≤a.length) :
 PR P n ⟨d,.slice t x (some lo) none none,ty,pos,af,g⟩ e w (str (a.drop l)):=
 ⟨fun c ha => by
   subst hp
   have:=run_slice_string_l (P:=P) (t:=t) (s:=⟨a.toArray⟩) w hu.h .i64 (l:Int) (by omega) (by rw [Jw];omega)
   simp only [execOp,ha.ev hx,ha.ev h1,Option.map]
   simp [Instr.sliceAt,run_underlying hu.h,this,Z23,Jw]⟩
theorem Z7f {t:TypeId} {x hi:Operand} {a:Str} {q:Int} {r:Nat} [hu:Und P t .string] (hx:ev e x=some (str a)) (h2:ev e hi=some (.int .i64 q)) (hq:q=(r:Int)) (hr:r≤a.length) :
 PR P n ⟨d,.slice t x none (some hi) none,ty,pos,af,g⟩ e w (str (a.take r)):=
 ⟨fun c ha => by
   subst hq
   have:=run_slice_string_h (P:=P) (t:=t) (s:=⟨a.toArray⟩) w hu.h .i64 (r:Int) (by omega) (by rw [Jw];omega)
   simp only [execOp,ha.ev hx,ha.ev h2,Option.map]
   simp [Instr.sliceAt,run_underlying hu.h,this,Z23]⟩
theorem Z10 {x:Operand} {b:Addr} (hx:ev e x=some (.pointer (some b))):PR P n ⟨d,.nilCheck x,ty,pos,af,g⟩ e w (.pointer (some b)):=
 ⟨fun a ha=>by simp [execOp,ha.ev hx]⟩
theorem Z9e {t el len k:Nat} {x y:Operand} {b o i:Nat} {z:Int} [hu:Und P t (.array len el)] [hk:Siz P el k] (hx:ev e x=some (.pointer (some ⟨b,o,none⟩))) (hy:ev e y=some (.int .i64 z)) (hz:z=(i:Int)) (hi:i<len) :
 PR P n ⟨d,.indexAddr t x y,ty,pos,af,g⟩ e w (.pointer (some ⟨b,o+i * k,none⟩)):=
 ⟨fun a ha => by
   subst hz
   have h0:(0:Int)≤(i:Int)∧(i:Int)<(len:Int):=by omega
   have hr:(Instr.indexAt t (.pointer (some ⟨b,o,none⟩)) (.int .i64 (i:Int))).run P w=.ok (.pointer (some ⟨b,o+i * k,none⟩)) w:=by
    simp only [Instr.indexAt,asIntOf]
    simp [run_underlying hu.h,Instr.sureAddr,Siz.run,Addr.add_lit,hi]
   simp [execOp,ha.ev hx,ha.ev hy,hr]⟩
theorem ZgX {x y:Operand} {ts:Array TypeId} {a b:Int} (hx:ev e x=some (.int .i64 a)) (hy:ev e y=some (.int .i64 b)) :
 PR P n ⟨d,.call { callee:=.builtin .max,args:=#[x,y],argTypes:=ts },ty,pos,af,g⟩ e w (.int .i64 (max a b)):=
 ⟨fun c ha => by
   have hm:(if b > a then b else a)=max a b:=by omega
   simp [execOp,resolve,invoke,builtin,ha.ev hx,ha.ev hy,run_max_int2,hm]⟩
theorem Zb3 {x y:Operand} {ts:Array TypeId} {a b:Int} (hx:ev e x=some (.int .i64 a)) (hy:ev e y=some (.int .i64 b)) :
 PR P n ⟨d,.call { callee:=.builtin .min,args:=#[x,y],argTypes:=ts },ty,pos,af,g⟩ e w (.int .i64 (min a b)):=
 ⟨fun c ha => by
   have hm:(if b<a then b else a)=min a b:=by omega
   simp [execOp,resolve,invoke,builtin,ha.ev hx,ha.ev hy,run_min_int2,hm]⟩
end rules
section
variable {P:Program} {n:Nat} {Q:Exit→Act→World→Prop} {e:Env} {w:World} {ops:Array Oper} {S:List Nat} {Lt:List Nat} {rest:List Oper} {ord:List (Nat×Nat)} {d₀ i₀:Nat} {ty:TypeId} {pos:String} {af:Array Edge} {gd:Option (Nat×Bool)}
theorem ZcP {t u:TypeId} {x y:Operand} {a b:Str} [hu:Und P t .string] (hx:ev e x=some (str a)) (hy:ev e y=some (str b)) (hdn:Nat.blt d₀ n=true) (kk:WL P n ops Q rest ((d₀,(.bool (decide (a=b)))) :: e) w):WL P n ops Q (⟨some d₀,.binOp .eql t x y u,ty,pos,af,none⟩ :: rest) e w:=by
 refine Z7 (v:=(.bool (decide (a=b)))) ?_ hdn kk
 apply Z9d<;>assumption
theorem ZcQ {t u:TypeId} {x y:Operand} {a b:Str} [hu:Und P t .string] (hi₀:ops[i₀]?=some ⟨some d₀,.binOp .eql t x y u,ty,pos,af,gd⟩) (hg₀:Zy ops e gd) (hx:ev e x=some (str a)) (hy:ev e y=some (str b)) (hdn:Nat.blt d₀ n=true) (kk:WD P n ops S Lt Q ord ((d₀,(.bool (decide (a=b)))) :: e) w):WD P n ops S Lt Q ((i₀,0) :: ord) e w:=by
 refine ZB (v:=(.bool (decide (a=b)))) hi₀ hg₀ (fun w'=>?_) hdn kk
 apply Z9d<;>assumption
theorem ZcR {t u:TypeId} {x y:Operand} {a b:Str} [hu:Und P t .string] (hx:ev e x=some (str a)) (hy:ev e y=some (str b)) (hdn:Nat.blt d₀ n=true) (kk:WL P n ops Q rest ((d₀,(.bool (decide (¬ a=b)))) :: e) w):WL P n ops Q (⟨some d₀,.binOp .neq t x y u,ty,pos,af,none⟩ :: rest) e w:=by
 refine Z7 (v:=(.bool (decide (¬ a=b)))) ?_ hdn kk
 apply ZcM<;>assumption
theorem Z6v {t u:TypeId} {x y:Operand} {a b:Str} [hu:Und P t .string] (hx:ev e x=some (str a)) (hy:ev e y=some (str b)) (hl:a.length+b.length≤9223372036854775807) (hdn:Nat.blt d₀ n=true) (kk:WL P n ops Q rest ((d₀,(str (a++b))) :: e) w):WL P n ops Q (⟨some d₀,.binOp .add t x y u,ty,pos,af,none⟩ :: rest) e w:=by
 refine Z7 (v:=(str (a++b))) ?_ hdn kk
 apply ZcN<;>assumption
theorem ZcS {x:Operand} {t:TypeId} {a:Str} [hu:Und P t .string] (hx:ev e x=some (str a)) (hdn:Nat.blt d₀ n=true) (kk:WL P n ops Q rest ((d₀,(.int .i64 (a.length:Int))) :: e) w):WL P n ops Q (⟨some d₀,.call { callee:=.builtin .len,args:=#[x],argTypes:=#[t] },ty,pos,af,none⟩ :: rest) e w:=by
 refine Z7 (v:=(.int .i64 (a.length:Int))) ?_ hdn kk
 apply ZcO<;>assumption
theorem Jo {t:TypeId} {x y:Operand} {a:Str} {z:Int} {i:Nat} [hu:Und P t .string] (hx:ev e x=some (str a)) (hy:ev e y=some (.int .i64 z)) (hz:z=(i:Int)) (hi:i<a.length) (hdn:Nat.blt d₀ n=true) (kk:WL P n ops Q rest ((d₀,(.int .u8 (Z08 a i))) :: e) w):WL P n ops Q (⟨some d₀,.index t x y,ty,pos,af,none⟩ :: rest) e w:=by
 refine Z7 (v:=(.int .u8 (Z08 a i))) ?_ hdn kk
 apply Z5J<;>assumption
theorem Z9H {t:TypeId} {x y:Operand} {a:Str} {z:Int} {i:Nat} [hu:Und P t .string] (hi₀:ops[i₀]?=some ⟨some d₀,.index t x y,ty,pos,af,gd⟩) (hg₀:Zy ops e gd) (hx:ev e x=some (str a)) (hy:ev e y=some (.int .i64 z)) (hz:z=(i:Int)) (hi:i<a.length) (hdn:Nat.blt d₀ n=true) (kk:WD P n ops S Lt Q ord ((d₀,(.int .u8 (Z08 a i))) :: e) w):WD P n ops S Lt Q ((i₀,0) :: ord) e w:=by
 refine ZB (v:=(.int .u8 (Z08 a i))) hi₀ hg₀ (fun w'=>?_) hdn kk
 apply Z5J<;>assumption
theorem Z3a {t:TypeId} {x lo hi:Operand} {a:Str} {p q:Int} {l r:Nat} [hu:Und P t .string] (hx:ev e x=some (str a)) (h1:ev e lo=some (.int .i64 p)) (h2:ev e hi=some (.int .i64 q)) (hp:p=(l:Int)) (hq:q=(r:Int)) (hlr:l≤r) (hr:r≤a.length) (hdn:Nat.blt d₀ n=true) (kk:WL P n ops Q rest ((d₀,(str ((a.take r).drop l))) :: e) w):WL P n ops Q (⟨some d₀,.slice t x (some lo) (some hi) none,ty,pos,af,none⟩ :: rest) e w:=by
 refine Z7 (v:=(str ((a.take r).drop l))) ?_ hdn kk
 apply Z6u<;>assumption
theorem Z7g {t:TypeId} {x lo:Operand} {a:Str} {p:Int} {l:Nat} [hu:Und P t .string] (hx:ev e x=some (str a)) (h1:ev e lo=some (.int .i64 p)) (hp:p=(l:Int)) (hl:l≤a.length) (hdn:Nat.blt d₀ n=true) (kk:WL P n ops Q rest ((d₀,(str (a.drop l))) :: e) w):WL P n ops Q (⟨some d₀,.slice t x (some lo) none none,ty,pos,af,none⟩ :: rest) e w:=by
 refine Z7 (v:=(str (a.drop l))) ?_ hdn kk
 apply Z47<;>assumption
theorem Z7h {t:TypeId} {x lo:Operand} {a:Str} {p:Int} {l:Nat} [hu:Und P t .string] (hi₀:ops[i₀]?=some ⟨some d₀,.slice t x (some lo) none none,ty,pos,af,gd⟩) (hg₀:Zy ops e gd) (hx:ev e x=some (str a)) (h1:ev e lo=some (.int .i64 p)) (hp:p=(l:Int)) (hl:l≤a.length) (hdn:Nat.blt d₀ n=true) (kk:WD P n ops S Lt Q ord ((d₀,(str (a.drop l))) :: e) w):WD P n ops S Lt Q ((i₀,0) :: ord) e w:=by
 refine ZB (v:=(str (a.drop l))) hi₀ hg₀ (fun w'=>?_) hdn kk
 apply Z47<;>assumption
theorem Jy {t:TypeId} {x hi:Operand} {a:Str} {q:Int} {r:Nat} [hu:Und P t .string] (hx:ev e x=some (str a)) (h2:ev e hi=some (.int .i64 q)) (hq:q=(r:Int)) (hr:r≤a.length) (hdn:Nat.blt d₀ n=true) (kk:WL P n ops Q rest ((d₀,(str (a.take r))) :: e) w):WL P n ops Q (⟨some d₀,.slice t x none (some hi) none,ty,pos,af,none⟩ :: rest) e w:=by
 refine Z7 (v:=(str (a.take r))) ?_ hdn kk
 apply Z7f<;>assumption
theorem Z7i {x:Operand} {b:Addr} (hx:ev e x=some (.pointer (some b))) (hdn:Nat.blt d₀ n=true) (kk:WL P n ops Q rest ((d₀,(.pointer (some b))) :: e) w):WL P n ops Q (⟨some d₀,.nilCheck x,ty,pos,af,none⟩ :: rest) e w:=by
 refine Z7 (v:=(.pointer (some b))) ?_ hdn kk
 apply Z10<;>assumption
theorem Z7j {x:Operand} {b:Addr} (hi₀:ops[i₀]?=some ⟨some d₀,.nilCheck x,ty,pos,af,gd⟩) (hg₀:Zy ops e gd) (hx:ev e x=some (.pointer (some b))) (hdn:Nat.blt d₀ n=true) (kk:WD P n ops S Lt Q ord ((d₀,(.pointer (some b))) :: e) w):WD P n ops S Lt Q ((i₀,0) :: ord) e w:=by
 refine ZB (v:=(.pointer (some b))) hi₀ hg₀ (fun w'=>?_) hdn kk
 apply Z10<;>assumption
theorem Z0J {t el len k:Nat} {x y:Operand} {b o i:Nat} {z:Int} [hu:Und P t (.array len el)] [hk:Siz P el k] (hx:ev e x=some (.pointer (some ⟨b,o,none⟩))) (hy:ev e y=some (.int .i64 z)) (hz:z=(i:Int)) (hi:i<len) (hdn:Nat.blt d₀ n=true) (kk:WL P n ops Q rest ((d₀,(.pointer (some ⟨b,o+i * k,none⟩))) :: e) w):WL P n ops Q (⟨some d₀,.indexAddr t x y,ty,pos,af,none⟩ :: rest) e w:=by
 refine Z7 (v:=(.pointer (some ⟨b,o+i * k,none⟩))) ?_ hdn kk
 apply Z9e<;>assumption
theorem ZcT {t el len k:Nat} {x y:Operand} {b o i:Nat} {z:Int} [hu:Und P t (.array len el)] [hk:Siz P el k] (hi₀:ops[i₀]?=some ⟨some d₀,.indexAddr t x y,ty,pos,af,gd⟩) (hg₀:Zy ops e gd) (hx:ev e x=some (.pointer (some ⟨b,o,none⟩))) (hy:ev e y=some (.int .i64 z)) (hz:z=(i:Int)) (hi:i<len) (hdn:Nat.blt d₀ n=true) (kk:WD P n ops S Lt Q ord ((d₀,(.pointer (some ⟨b,o+i * k,none⟩))) :: e) w):WD P n ops S Lt Q ((i₀,0) :: ord) e w:=by
 refine ZB (v:=(.pointer (some ⟨b,o+i * k,none⟩))) hi₀ hg₀ (fun w'=>?_) hdn kk
 apply Z9e<;>assumption
theorem ZgY {x y:Operand} {ts:Array TypeId} {a b:Int} (hx:ev e x=some (.int .i64 a)) (hy:ev e y=some (.int .i64 b)) (hdn:Nat.blt d₀ n=true) (kk:WL P n ops Q rest ((d₀,(.int .i64 (max a b))) :: e) w):WL P n ops Q (⟨some d₀,.call { callee:=.builtin .max,args:=#[x,y],argTypes:=ts },ty,pos,af,none⟩ :: rest) e w:=by
 refine Z7 (v:=(.int .i64 (max a b))) ?_ hdn kk
 apply ZgX<;>assumption
theorem ZgZ {x y:Operand} {ts:Array TypeId} {a b:Int} (hx:ev e x=some (.int .i64 a)) (hy:ev e y=some (.int .i64 b)) (hdn:Nat.blt d₀ n=true) (kk:WL P n ops Q rest ((d₀,(.int .i64 (min a b))) :: e) w):WL P n ops Q (⟨some d₀,.call { callee:=.builtin .min,args:=#[x,y],argTypes:=ts },ty,pos,af,none⟩ :: rest) e w:=by
 refine Z7 (v:=(.int .i64 (min a b))) ?_ hdn kk
 apply Zb3<;>assumption
theorem Zh0 {x y:Operand} {ts:Array TypeId} {a b:Int} (hi₀:ops[i₀]?=some ⟨some d₀,.call { callee:=.builtin .min,args:=#[x,y],argTypes:=ts },ty,pos,af,gd⟩) (hg₀:Zy ops e gd) (hx:ev e x=some (.int .i64 a)) (hy:ev e y=some (.int .i64 b)) (hdn:Nat.blt d₀ n=true) (kk:WD P n ops S Lt Q ord ((d₀,(.int .i64 (min a b))) :: e) w):WD P n ops S Lt Q ((i₀,0) :: ord) e w:=by
 refine ZB (v:=(.int .i64 (min a b))) hi₀ hg₀ (fun w'=>?_) hdn kk
 apply Zb3<;>assumption
structure WO (P:Program) (n:Nat) (ops:Array Oper) (S:List Nat) (Lt:List Nat) (Q:Exit→Act→World→Prop) (o:Oper) (i q:Nat) (ord:List (Nat×Nat)) (e:Env) (w:World):Prop where
 h:ops[i]?=some o→WD P n ops S Lt Q ((i,q) :: ord) e w
theorem Z0w {o:Oper} {i q:Nat} (hi:ops[i]?=some o) (h:WO P n ops S Lt Q o i q ord e w):WD P n ops S Lt Q ((i,q) :: ord) e w:=h.h hi
theorem Zb4 {op:Op} {jb:Nat×Bool} (hg:noB ops e (some jb)=true) (hdn:Nat.blt d₀ n=true) (kk:WD P n ops S Lt Q ord ((d₀,undef) :: e) w):WO P n ops S Lt Q ⟨some d₀,op,ty,pos,af,some jb⟩ i₀ 0 ord e w:=⟨fun hi=>ZaW hi hg hdn kk⟩
theorem Zb5 {op:Op} {jb:Nat×Bool} (hg:noB ops e (some jb)=true) (hdn:Nat.blt d₀ n=true) (kk:WD P n ops S Lt Q ord ((d₀,undef) :: e) w):WO P n ops S Lt Q ⟨some d₀,op,ty,pos,af,some jb⟩ i₀ 1 ord e w:=⟨fun hi=>ZaX hi hg hdn kk⟩
theorem Zb6 {op:Op} {jb:Nat×Bool} (hg:noB ops e (some jb)=true) (hdn:Nat.blt d₀ n=true) (kk:WD P n ops S Lt Q ord ((d₀,undef) :: e) w):WO P n ops S Lt Q ⟨some d₀,op,ty,pos,af,some jb⟩ i₀ 2 ord e w:=⟨fun hi=>Zb0 hi hg hdn kk⟩
theorem ZcU {x:Operand} {v:Value} (hg₀:Zy ops e gd) (hx:ev e x=some v) (hdn:Nat.blt d₀ n=true) (kk:WD P n ops S Lt Q ord ((d₀,v) :: e) w):WO P n ops S Lt Q ⟨some d₀,.move x,ty,pos,af,gd⟩ i₀ 0 ord e w:=⟨fun hi₀=>Z6s hi₀ hg₀ hx hdn kk⟩
theorem Z9I {x:Operand} {v:Value} (hg₀:Zy ops e gd) (hx:ev e x=some v) (hdn:Nat.blt d₀ n=true) (kk:WD P n ops S Lt Q ord ((d₀,v) :: e) w):WO P n ops S Lt Q ⟨some d₀,.assign x,ty,pos,af,gd⟩ i₀ 0 ord e w:=⟨fun hi₀=>Z9E hi₀ hg₀ hx hdn kk⟩
theorem Z9J {c x y:Operand} {v:Value} (hg₀:Zy ops e gd) (hc:ev e c=some (.bool true)) (hx:ev e x=some v) (hdn:Nat.blt d₀ n=true) (kk:WD P n ops S Lt Q ord ((d₀,v) :: e) w):WO P n ops S Lt Q ⟨some d₀,.pick c x y,ty,pos,af,gd⟩ i₀ 0 ord e w:=⟨fun hi₀=>Z9F hi₀ hg₀ hc hx hdn kk⟩
theorem Z9K {c x y:Operand} {v:Value} (hg₀:Zy ops e gd) (hc:ev e c=some (.bool false)) (hx:ev e y=some v) (hdn:Nat.blt d₀ n=true) (kk:WD P n ops S Lt Q ord ((d₀,v) :: e) w):WO P n ops S Lt Q ⟨some d₀,.pick c x y,ty,pos,af,gd⟩ i₀ 0 ord e w:=⟨fun hi₀=>Z9G hi₀ hg₀ hc hx hdn kk⟩
theorem Zh1 {x y:Operand} {t u:TypeId} {a b:Int} (hg₀:Zy ops e gd) (hx:ev e x=some (.int .i64 a)) (hy:ev e y=some (.int .i64 b)) (hr:I64 (a+b)) (hdn:Nat.blt d₀ n=true) (kk:WD P n ops S Lt Q ord ((d₀,(.int .i64 (a+b))) :: e) w):WO P n ops S Lt Q ⟨some d₀,.binOp .add t x y u,ty,pos,af,gd⟩ i₀ 0 ord e w:=⟨fun hi₀=>ZgK hi₀ hg₀ hx hy hr hdn kk⟩
theorem Z8p {x y:Operand} {t u:TypeId} {a b:Int} (hg₀:Zy ops e gd) (hx:ev e x=some (.int .i64 a)) (hy:ev e y=some (.int .i64 b)) (hr:I64 (a - b)) (hdn:Nat.blt d₀ n=true) (kk:WD P n ops S Lt Q ord ((d₀,(.int .i64 (a - b))) :: e) w):WO P n ops S Lt Q ⟨some d₀,.binOp .sub t x y u,ty,pos,af,gd⟩ i₀ 0 ord e w:=⟨fun hi₀=>ZgM hi₀ hg₀ hx hy hr hdn kk⟩
theorem ZcV {x y:Operand} {t u:TypeId} {a b:Int} (hg₀:Zy ops e gd) (hx:ev e x=some (.int .i64 a)) (hy:ev e y=some (.int .i64 b)) (h0:0≤a) (hb:0<b) (hr:I64 a) (hdn:Nat.blt d₀ n=true) (kk:WD P n ops S Lt Q ord ((d₀,(.int .i64 (a % b))) :: e) w):WO P n ops S Lt Q ⟨some d₀,.binOp .rem t x y u,ty,pos,af,gd⟩ i₀ 0 ord e w:=⟨fun hi₀=>ZcH hi₀ hg₀ hx hy h0 hb hr hdn kk⟩
theorem Zh2 {x y:Operand} {t u:TypeId} {a b:Int} {k:IntKind} (hg₀:Zy ops e gd) (hx:ev e x=some (.int k a)) (hy:ev e y=some (.int k b)) (hdn:Nat.blt d₀ n=true) (kk:WD P n ops S Lt Q ord ((d₀,(.bool (decide (a<b)))) :: e) w):WO P n ops S Lt Q ⟨some d₀,.binOp .lss t x y u,ty,pos,af,gd⟩ i₀ 0 ord e w:=⟨fun hi₀=>ZgP hi₀ hg₀ hx hy hdn kk⟩
theorem Zh3 {x y:Operand} {t u:TypeId} {a b:Int} {k:IntKind} (hg₀:Zy ops e gd) (hx:ev e x=some (.int k a)) (hy:ev e y=some (.int k b)) (hdn:Nat.blt d₀ n=true) (kk:WD P n ops S Lt Q ord ((d₀,(.bool (decide (b<a)))) :: e) w):WO P n ops S Lt Q ⟨some d₀,.binOp .gtr t x y u,ty,pos,af,gd⟩ i₀ 0 ord e w:=⟨fun hi₀=>ZgR hi₀ hg₀ hx hy hdn kk⟩
theorem Zh4 {x y:Operand} {t u:TypeId} {a b:Int} {k:IntKind} (hg₀:Zy ops e gd) (hx:ev e x=some (.int k a)) (hy:ev e y=some (.int k b)) (hdn:Nat.blt d₀ n=true) (kk:WD P n ops S Lt Q ord ((d₀,(.bool (decide (a=b)))) :: e) w):WO P n ops S Lt Q ⟨some d₀,.binOp .eql t x y u,ty,pos,af,gd⟩ i₀ 0 ord e w:=⟨fun hi₀=>ZgU hi₀ hg₀ hx hy hdn kk⟩
theorem Zh5 {x y:Operand} {t u:TypeId} {a b:Int} {k:IntKind} (hg₀:Zy ops e gd) (hx:ev e x=some (.int k a)) (hy:ev e y=some (.int k b)) (hdn:Nat.blt d₀ n=true) (kk:WD P n ops S Lt Q ord ((d₀,(.bool (decide (¬ a=b)))) :: e) w):WO P n ops S Lt Q ⟨some d₀,.binOp .neq t x y u,ty,pos,af,gd⟩ i₀ 0 ord e w:=⟨fun hi₀=>ZgV hi₀ hg₀ hx hy hdn kk⟩
theorem ZcW {x y:Operand} {t u:TypeId} {p q:Bool} [hu:Und P t .bool] (hg₀:Zy ops e gd) (hx:ev e x=some (.bool p)) (hy:ev e y=some (.bool q)) (hdn:Nat.blt d₀ n=true) (kk:WD P n ops S Lt Q ord ((d₀,(.bool (decide (p=q)))) :: e) w):WO P n ops S Lt Q ⟨some d₀,.binOp .eql t x y u,ty,pos,af,gd⟩ i₀ 0 ord e w:=⟨fun hi₀=>ZcJ hi₀ hg₀ hx hy hdn kk⟩
theorem Z8q {x:Operand} {vs:Array Value} {i:Nat} {v:Value} (hg₀:Zy ops e gd) (hx:ev e x=some (.tuple vs)) (hv:vs[i]?=some v) (hdn:Nat.blt d₀ n=true) (kk:WD P n ops S Lt Q ord ((d₀,v) :: e) w):WO P n ops S Lt Q ⟨some d₀,.extract x i,ty,pos,af,gd⟩ i₀ 0 ord e w:=⟨fun hi₀=>Z8m hi₀ hg₀ hx hv hdn kk⟩
theorem Z6w {x:Operand} {t:TypeId} {b o i off:Nat} [hf:Fld P t i off] (hg₀:Zy ops e gd) (hx:ev e x=some (.pointer (some ⟨b,o,none⟩))) (hdn:Nat.blt d₀ n=true) (kk:WD P n ops S Lt Q ord ((d₀,(.pointer (some ⟨b,o+off,none⟩))) :: e) w):WO P n ops S Lt Q ⟨some d₀,.fieldAddr t x i,ty,pos,af,gd⟩ i₀ 0 ord e w:=⟨fun hi₀=>Jf hi₀ hg₀ hx hdn kk⟩
theorem ZcX {α:Type} [Z4 α] {X:List Nat} {xs:List α} {v:Value} {x:Operand} {t:TypeId} {el:TypeId} {w₀:World} [hu:Und P t (.slice el)] (hg₀:Zy ops e gd) (hx:ev e x=some v) (hs:SlV X w₀ v xs) (hdn:Nat.blt d₀ n=true) (kk:WD P n ops S Lt Q ord ((d₀,(.int .i64 (xs.length:Int))) :: e) w):WO P n ops S Lt Q ⟨some d₀,.call { callee:=.builtin .len,args:=#[x],argTypes:=#[t] },ty,pos,af,gd⟩ i₀ 0 ord e w:=⟨fun hi₀=>ZcK hi₀ hg₀ hx hs hdn kk⟩
theorem Z09 {α:Type} [Z4 α] {X:List Nat} {xs:List α} {v:Value} {x y:Operand} {t:TypeId} {el k:Nat} [hu:Und P t (.slice el)] [hk:Siz P el k] {z:Int} {i:Nat} {w₀:World} (hg₀:Zy ops e gd) (hx:ev e x=some v) (hs:SlV X w₀ v xs) (hy:ev e y=some (.int .i64 z)) (hz:z=(i:Int)) (hi:i<xs.length) (hdn:Nat.blt d₀ n=true) (kk:WD P n ops S Lt Q ord ((d₀,(.pointer (some (Zq v i k 0)))) :: e) w):WO P n ops S Lt Q ⟨some d₀,.indexAddr t x y,ty,pos,af,gd⟩ i₀ 0 ord e w:=⟨fun hi₀=>ZgW hi₀ hg₀ hx hs hy hz hi hdn kk⟩
theorem Z7k {x:Operand} {t:TypeId} {v:Value} {i k j m off:Nat} [hf:Fld P t m off] (hg₀:Zy ops e gd) (hx:ev e x=some (.pointer (some (Zq v i k j)))) (hv:∃ p l c,v=.slice (some p) l c) (hdn:Nat.blt d₀ n=true) (kk:WD P n ops S Lt Q ord ((d₀,(.pointer (some (Zq v i k (j+off))))) :: e) w):WO P n ops S Lt Q ⟨some d₀,.fieldAddr t x m,ty,pos,af,gd⟩ i₀ 0 ord e w:=⟨fun hi₀=>Z7d hi₀ hg₀ hx hv hdn kk⟩
theorem Z6x {b T o:Nat} {cs:List Value} {u:Value} {x:Operand} {t:TypeId} {D:TypeDesc} [hu:Und P t D] (hg₀:Zy ops e gd) (hA:JA D=false) (hx:ev e x=some (.pointer (some ⟨b,o,none⟩))) (hb:Blk w b T cs) (hn:b∉S) (hc:cs[o]?=some u) (hdn:Nat.blt d₀ n=true) (kk:WD P n ops S Lt Q ord ((d₀,u) :: e) w):WO P n ops S Lt Q ⟨some d₀,.load t x,ty,pos,af,gd⟩ i₀ 1 ord e w:=⟨fun hi₀=>Jv hi₀ hg₀ hA hx hb hn hc hdn kk⟩
theorem Z5v {b T m:Nat} {cs:List Value} {x:Operand} {t:TypeId} {D:TypeDesc} [hu:Und P t D] [hsz:Siz P t m] (hg₀:Zy ops e gd) (hA:JA D=true) (hx:ev e x=some (.pointer (some ⟨b,0,none⟩))) (hb:Blk w b T cs) (hn:b∉S) (hl:cs.length=m) (hdn:Nat.blt d₀ n=true) (kk:WD P n ops S Lt Q ord ((d₀,.agg cs.toArray) :: e) w):WO P n ops S Lt Q ⟨some d₀,.load t x,ty,pos,af,gd⟩ i₀ 1 ord e w:=⟨fun hi₀=>Z1z hi₀ hg₀ hA hx hb hn hl hdn kk⟩
theorem Z7l {α:Type} [Z5 α] {X:List Nat} {xs:List α} {v u:Value} {i j k:Nat} {x:Operand} {t:TypeId} {D:TypeDesc} [hu:Und P t D] (hg₀:Zy ops e gd) (hA:JA D=false) (hx:ev e x=some (.pointer (some (Zq v i k j)))) (hs:SlV X w v xs) (hn:∀ b∈S,b∈X) (hi:i<xs.length) (hk:k=Z5.k α) (hc:(Z5.enc xs[i])[j]?=some u) (hdn:Nat.blt d₀ n=true) (kk:WD P n ops S Lt Q ord ((d₀,u) :: e) w):WO P n ops S Lt Q ⟨some d₀,.load t x,ty,pos,af,gd⟩ i₀ 1 ord e w:=⟨fun hi₀=>Z8n hi₀ hg₀ hA hx hs hn hi hk hc hdn kk⟩
theorem Z6y {α:Type} [Z5 α] {X:List Nat} {xs:List α} {v:Value} {i k:Nat} {x:Operand} {t:TypeId} {D:TypeDesc} [hu:Und P t D] [hsz:Siz P t k] (hg₀:Zy ops e gd) (hA:JA D=true) (hx:ev e x=some (.pointer (some (Zq v i k 0)))) (hs:SlV X w v xs) (hn:∀ b∈S,b∈X) (hi:i<xs.length) (hk:k=Z5.k α) (hdn:Nat.blt d₀ n=true) (kk:WD P n ops S Lt Q ord ((d₀,.agg (Z5.enc xs[i]).toArray) :: e) w):WO P n ops S Lt Q ⟨some d₀,.load t x,ty,pos,af,gd⟩ i₀ 1 ord e w:=⟨fun hi₀=>Z7e hi₀ hg₀ hA hx hs hn hi hk hdn kk⟩
theorem ZcY {t u:TypeId} {x y:Operand} {a b:Str} [hu:Und P t .string] (hg₀:Zy ops e gd) (hx:ev e x=some (str a)) (hy:ev e y=some (str b)) (hdn:Nat.blt d₀ n=true) (kk:WD P n ops S Lt Q ord ((d₀,(.bool (decide (a=b)))) :: e) w):WO P n ops S Lt Q ⟨some d₀,.binOp .eql t x y u,ty,pos,af,gd⟩ i₀ 0 ord e w:=⟨fun hi₀=>ZcQ hi₀ hg₀ hx hy hdn kk⟩
theorem Z9L {t:TypeId} {x y:Operand} {a:Str} {z:Int} {i:Nat} [hu:Und P t .string] (hg₀:Zy ops e gd) (hx:ev e x=some (str a)) (hy:ev e y=some (.int .i64 z)) (hz:z=(i:Int)) (hi:i<a.length) (hdn:Nat.blt d₀ n=true) (kk:WD P n ops S Lt Q ord ((d₀,(.int .u8 (Z08 a i))) :: e) w):WO P n ops S Lt Q ⟨some d₀,.index t x y,ty,pos,af,gd⟩ i₀ 0 ord e w:=⟨fun hi₀=>Z9H hi₀ hg₀ hx hy hz hi hdn kk⟩
theorem Z7m {x:Operand} {b:Addr} (hg₀:Zy ops e gd) (hx:ev e x=some (.pointer (some b))) (hdn:Nat.blt d₀ n=true) (kk:WD P n ops S Lt Q ord ((d₀,(.pointer (some b))) :: e) w):WO P n ops S Lt Q ⟨some d₀,.nilCheck x,ty,pos,af,gd⟩ i₀ 0 ord e w:=⟨fun hi₀=>Z7j hi₀ hg₀ hx hdn kk⟩
theorem Z0q {t el len k:Nat} {x y:Operand} {b o i:Nat} {z:Int} [hu:Und P t (.array len el)] [hk:Siz P el k] (hg₀:Zy ops e gd) (hx:ev e x=some (.pointer (some ⟨b,o,none⟩))) (hy:ev e y=some (.int .i64 z)) (hz:z=(i:Int)) (hi:i<len) (hdn:Nat.blt d₀ n=true) (kk:WD P n ops S Lt Q ord ((d₀,(.pointer (some ⟨b,o+i * k,none⟩))) :: e) w):WO P n ops S Lt Q ⟨some d₀,.indexAddr t x y,ty,pos,af,gd⟩ i₀ 0 ord e w:=⟨fun hi₀=>ZcT hi₀ hg₀ hx hy hz hi hdn kk⟩
theorem Zh6 {x y:Operand} {ts:Array TypeId} {a b:Int} (hg₀:Zy ops e gd) (hx:ev e x=some (.int .i64 a)) (hy:ev e y=some (.int .i64 b)) (hdn:Nat.blt d₀ n=true) (kk:WD P n ops S Lt Q ord ((d₀,(.int .i64 (min a b))) :: e) w):WO P n ops S Lt Q ⟨some d₀,.call { callee:=.builtin .min,args:=#[x,y],argTypes:=ts },ty,pos,af,gd⟩ i₀ 0 ord e w:=⟨fun hi₀=>Zh0 hi₀ hg₀ hx hy hdn kk⟩
theorem ZcZ {t:TypeId} {x:Operand} {y:Operand} {q:Nat} (h:WO P n ops S Lt Q ⟨some d₀,.indexAddr t x y,ty,pos,af,gd⟩ i₀ q ord e w):WO P n ops S Lt Q ⟨some d₀,.indexAddr t x y,ty,pos,af,gd⟩ i₀ q ord e w:=h
theorem Zb7 {t:TypeId} {x:Operand} {q:Nat} (h:WO P n ops S Lt Q ⟨some d₀,.load t x,ty,pos,af,gd⟩ i₀ q ord e w):WO P n ops S Lt Q ⟨some d₀,.load t x,ty,pos,af,gd⟩ i₀ q ord e w:=h
theorem Zd0 {t:TypeId} {x:Operand} {q:Nat} (h:WO P n ops S Lt Q ⟨some d₀,.call { callee:=.builtin .len,args:=#[x],argTypes:=#[t] },ty,pos,af,gd⟩ i₀ q ord e w):WO P n ops S Lt Q ⟨some d₀,.call { callee:=.builtin .len,args:=#[x],argTypes:=#[t] },ty,pos,af,gd⟩ i₀ q ord e w:=h
theorem Z9M {t:TypeId} {x:Operand} {m:Nat} {q:Nat} (h:WO P n ops S Lt Q ⟨some d₀,.fieldAddr t x m,ty,pos,af,gd⟩ i₀ q ord e w):WO P n ops S Lt Q ⟨some d₀,.fieldAddr t x m,ty,pos,af,gd⟩ i₀ q ord e w:=h
theorem Zh7 {t:TypeId} {x:Operand} {y:Operand} {u:TypeId} {bo:BinOp} (h:WL P n ops Q (⟨some d₀,.binOp bo t x y u,ty,pos,af,none⟩ :: rest) e w):WL P n ops Q (⟨some d₀,.binOp bo t x y u,ty,pos,af,none⟩ :: rest) e w:=h
theorem Zd1 {t:TypeId} {x:Operand} {y:Operand} {u:TypeId} {bo:BinOp} {q:Nat} (h:WO P n ops S Lt Q ⟨some d₀,.binOp bo t x y u,ty,pos,af,gd⟩ i₀ q ord e w):WO P n ops S Lt Q ⟨some d₀,.binOp bo t x y u,ty,pos,af,gd⟩ i₀ q ord e w:=h
theorem Zje {t:TypeId} {x:Operand} {uo:UnOp} (h:WL P n ops Q (⟨some d₀,.unOp uo t x,ty,pos,af,none⟩ :: rest) e w):WL P n ops Q (⟨some d₀,.unOp uo t x,ty,pos,af,none⟩ :: rest) e w:=h
theorem Zd2 {x:Operand} {y:Operand} {z:Operand} (h:WL P n ops Q (⟨some d₀,.pick x y z,ty,pos,af,none⟩ :: rest) e w):WL P n ops Q (⟨some d₀,.pick x y z,ty,pos,af,none⟩ :: rest) e w:=h
theorem Zb8 {x:Operand} {y:Operand} {z:Operand} {q:Nat} (h:WO P n ops S Lt Q ⟨some d₀,.pick x y z,ty,pos,af,gd⟩ i₀ q ord e w):WO P n ops S Lt Q ⟨some d₀,.pick x y z,ty,pos,af,gd⟩ i₀ q ord e w:=h
theorem Zh8 {ff:Fn} {fa ca:Array Operand} (h:WL P n ops Q (⟨some d₀,.makeFunc ff fa ca,ty,pos,af,none⟩ :: rest) e w):WL P n ops Q (⟨some d₀,.makeFunc ff fa ca,ty,pos,af,none⟩ :: rest) e w:=h
theorem Zlo {l:List Oper} (h:WL P n ops Q l e w):WL P n ops Q l e w:=h
theorem Zlp {c:Code} (h:WC P n c Q e w):WC P n c Q e w:=h
theorem Zlq {x:Exit} (h:WQ n Q x e w):WQ n Q x e w:=h
end
structure Z5w (R:Prop):Prop where
 h:R
theorem W1 {G R:Prop} (k:R) (h:Z5w R→G:=by
 intro r
 repeat1' (first
  | (apply Zlo;first
  | (apply Z0I;exact rfl;exact rfl)
  | (apply JC;exact rfl;exact rfl)
  | apply Z0h
  | (apply Z39;first|refine JV rfl rfl (by assumption) (by rfl) rfl ?_|refine Z0S rfl rfl (by assumption) (by first|assumption|omega) (by rfl) (by rfl) rfl ?_|refine Z07 rfl rfl (by assumption) (by rfl) rfl ?_|refine Z0v rfl rfl (by assumption) (by assumption) (by rfl) rfl ?_)
  | (apply Z4S;first|refine Jr rfl (by assumption) rfl rfl (by assumption) rfl ?_|refine Jr rfl (by assumption) rfl rfl (by omega) rfl ?_|refine Jr rfl (by assumption) rfl (by assumption) (by first|assumption|omega) rfl ?_|refine Jr (i:=0) rfl (by assumption) rfl rfl (by omega) rfl ?_|refine Jr (i:=1) rfl (by assumption) rfl rfl (by omega) rfl ?_|refine Jr (i:=2) rfl (by assumption) rfl rfl (by omega) rfl ?_|refine Z0J (i:=0) rfl rfl rfl (by decide) rfl ?_|refine Z0J (i:=1) rfl rfl rfl (by decide) rfl ?_|refine Z0J (i:=2) rfl rfl rfl (by decide) rfl ?_|refine Z0J rfl rfl rfl (by omega) rfl ?_)
  | (apply Z02;exact rfl;exact rfl)
  | (apply Z22;refine Z0u rfl (SlV.isSome (by assumption) (by assumption)) rfl ?_)
  | (apply Z4T;first|refine ZcS rfl rfl ?_|refine Z37 rfl (by assumption) rfl ?_|refine Z4R rfl rfl ?_)
  | (apply Z8l;exact rfl;exact rfl;exact rfl)
  | (apply Z7i;exact rfl;exact rfl)
  | (apply Zh7;first|(apply ZgT;exact rfl;exact rfl;exact rfl)|(apply Z21;exact rfl;exact rfl;exact rfl)|(apply Zb2;exact rfl;exact rfl;exact rfl)|(apply ZcP;exact rfl;exact rfl;exact rfl)|(apply ZcR;exact rfl;exact rfl;exact rfl)|(apply Z4Q;exact rfl;exact rfl;(unfold I64;omega);exact rfl)|(apply ZgL;exact rfl;exact rfl;(unfold I64;omega);exact rfl)|(apply ZgQ;exact rfl;exact rfl;exact rfl)|(apply Z6t;exact rfl;exact rfl;exact rfl)|(apply ZgS;exact rfl;exact rfl;exact rfl)|(apply WL_eqlB;exact rfl;exact rfl;exact rfl)|(apply Z9b;exact rfl;exact rfl;exact rfl)|(apply ZgN;exact rfl;exact rfl;(unfold I64;omega);exact rfl)|(apply ZcI;exact rfl;exact rfl;omega;omega;(unfold I64;omega);exact rfl)|(apply ZcG;exact rfl;exact rfl;omega;omega;(unfold I64;omega);exact rfl)|(apply Z6v;exact rfl;exact rfl;omega;exact rfl))
  | (apply Zje;first|(apply Z1Z;exact rfl;exact rfl)|(apply Z20;exact rfl;exact rfl)|(apply WL_not_e;exact rfl;exact rfl)|(apply Z4P;exact rfl;exact rfl)|(apply ZgO;exact rfl;(unfold I64;omega);exact rfl))
  | (apply Zd2;first|(apply Z1h;exact rfl;exact rfl;exact rfl)|(apply Z1i;exact rfl;exact rfl;exact rfl))
  | (apply ZgY;exact rfl;exact rfl;exact rfl)
  | (apply ZgZ;exact rfl;exact rfl;exact rfl)
  | (apply Jo;exact rfl;exact rfl;exact rfl;first|assumption|omega;exact rfl)
  | (apply Zh8;first|(apply Z03;exact rfl)|(apply Z04;exact rfl;exact rfl)|(apply Z05;exact rfl;exact rfl;exact rfl)|(apply Z06;exact rfl;exact rfl;exact rfl;exact rfl))
  | (apply Z77;exact rfl)
  | (apply Z34;exact rfl;exact rfl))
  | (apply Zlp;first|apply Z1c|apply Jm|apply Z1U|apply Z0Y|apply Z1u|apply Z32|(apply J1;exact rfl)|(apply ZS;exact rfl))
  | (apply Zlq;first|apply Z0p|apply J0|apply Z00|apply JN|(apply Z0t;exact rfl)|apply Z01|apply Z1T))
 exact r.h):G:=h ⟨k⟩
theorem W {G R:Prop} (k:R) (h:Z5w R→G:=by
 intro r
 first|(refine W1 ?_;exact r.h)|exact r.h):G:=h ⟨k⟩
theorem D1 {G R:Prop} (k:R) (h:Z5w R→G:=by
 intro r
 repeat1' (first|apply Z1x|(apply Z0w;exact rfl;first
  | (apply Zb4;exact rfl;exact rfl)
  | (apply Zb5;exact rfl;exact rfl)
  | (apply Zb6;exact rfl;exact rfl)
  | (apply ZcU;(first|exact trivial|exact rfl);exact rfl;exact rfl)
  | (apply Z9I;(first|exact trivial|exact rfl);exact rfl;exact rfl)
  | (apply Zb7;first|refine Z6x (by first|exact trivial|exact rfl) rfl rfl (by assumption) (by first|assumption|(simp;done)|(simp;omega)) (by rfl) rfl ?_|refine Z7l (by first|exact trivial|exact rfl) rfl rfl (by assumption) (by first|exact fun _ h=>h|(simp;done)) (by first|assumption|omega) (by rfl) (by rfl) rfl ?_|refine Z5v (by first|exact trivial|exact rfl) rfl rfl (by assumption) (by first|assumption|(simp;done)|(simp;omega)) (by rfl) rfl ?_|refine Z6y (by first|exact trivial|exact rfl) rfl rfl (by assumption) (by first|exact fun _ h=>h|(simp;done)) (by assumption) (by rfl) rfl ?_)
  | (apply ZcZ;first|refine Z09 (by first|exact trivial|exact rfl) rfl (by assumption) rfl rfl (by assumption) rfl ?_|refine Z09 (by first|exact trivial|exact rfl) rfl (by assumption) rfl rfl (by omega) rfl ?_|refine Z09 (by first|exact trivial|exact rfl) rfl (by assumption) rfl (by assumption) (by first|assumption|omega) rfl ?_|refine Z09 (i:=0) (by first|exact trivial|exact rfl) rfl (by assumption) rfl rfl (by omega) rfl ?_|refine Z09 (i:=1) (by first|exact trivial|exact rfl) rfl (by assumption) rfl rfl (by omega) rfl ?_|refine Z09 (i:=2) (by first|exact trivial|exact rfl) rfl (by assumption) rfl rfl (by omega) rfl ?_|refine Z0q (i:=0) (by first|exact trivial|exact rfl) rfl rfl rfl (by decide) rfl ?_|refine Z0q (i:=1) (by first|exact trivial|exact rfl) rfl rfl rfl (by decide) rfl ?_|refine Z0q (i:=2) (by first|exact trivial|exact rfl) rfl rfl rfl (by decide) rfl ?_|refine Z0q (by first|exact trivial|exact rfl) rfl rfl rfl (by omega) rfl ?_)
  | (apply Z6w;(first|exact trivial|exact rfl);exact rfl;exact rfl)
  | (apply Z9M;refine Z7k (by first|exact trivial|exact rfl) rfl (SlV.isSome (by assumption) (by assumption)) rfl ?_)
  | (apply Zd0;first|refine WO_lenT (by first|exact trivial|exact rfl) rfl rfl ?_|refine ZcX (by first|exact trivial|exact rfl) rfl (by assumption) rfl ?_|refine WO_len (by first|exact trivial|exact rfl) rfl rfl ?_)
  | (apply Z8q;(first|exact trivial|exact rfl);exact rfl;exact rfl;exact rfl)
  | (apply Z7m;(first|exact trivial|exact rfl);exact rfl;exact rfl)
  | (apply Zd1;first|(apply Zh4;(first|exact trivial|exact rfl);exact rfl;exact rfl;exact rfl)|(apply Zh2;(first|exact trivial|exact rfl);exact rfl;exact rfl;exact rfl)|(apply Zh5;(first|exact trivial|exact rfl);exact rfl;exact rfl;exact rfl)|(apply ZcY;(first|exact trivial|exact rfl);exact rfl;exact rfl;exact rfl)|(apply WO_neqT;(first|exact trivial|exact rfl);exact rfl;exact rfl;exact rfl)|(apply Zh1;(first|exact trivial|exact rfl);exact rfl;exact rfl;(unfold I64;omega);exact rfl)|(apply Z8p;(first|exact trivial|exact rfl);exact rfl;exact rfl;(unfold I64;omega);exact rfl)|(apply WO_leq;(first|exact trivial|exact rfl);exact rfl;exact rfl;exact rfl)|(apply Zh3;(first|exact trivial|exact rfl);exact rfl;exact rfl;exact rfl)|(apply WO_geq;(first|exact trivial|exact rfl);exact rfl;exact rfl;exact rfl)|(apply ZcW;(first|exact trivial|exact rfl);exact rfl;exact rfl;exact rfl)|(apply WO_neqB;(first|exact trivial|exact rfl);exact rfl;exact rfl;exact rfl)|(apply WO_mul;(first|exact trivial|exact rfl);exact rfl;exact rfl;(unfold I64;omega);exact rfl)|(apply WO_quoP;(first|exact trivial|exact rfl);exact rfl;exact rfl;omega;omega;(unfold I64;omega);exact rfl)|(apply ZcV;(first|exact trivial|exact rfl);exact rfl;exact rfl;omega;omega;(unfold I64;omega);exact rfl)|(apply WO_addT;(first|exact trivial|exact rfl);exact rfl;exact rfl;omega;exact rfl))
  | (apply iso_un;first|(apply WO_not_t;(first|exact trivial|exact rfl);exact rfl;exact rfl)|(apply WO_not_f;(first|exact trivial|exact rfl);exact rfl;exact rfl)|(apply WO_not_e;(first|exact trivial|exact rfl);exact rfl;exact rfl)|(apply WO_not;(first|exact trivial|exact rfl);exact rfl;exact rfl)|(apply WO_neg;(first|exact trivial|exact rfl);exact rfl;(unfold I64;omega);exact rfl))
  | (apply Zb8;first|(apply Z9J;(first|exact trivial|exact rfl);exact rfl;exact rfl;exact rfl)|(apply Z9K;(first|exact trivial|exact rfl);exact rfl;exact rfl;exact rfl))
  | (apply WO_max;(first|exact trivial|exact rfl);exact rfl;exact rfl;exact rfl)
  | (apply Zh6;(first|exact trivial|exact rfl);exact rfl;exact rfl;exact rfl)
  | (apply Z9L;(first|exact trivial|exact rfl);exact rfl;exact rfl;exact rfl;first|assumption|omega;exact rfl)
  | (apply iso_mkf;first|(apply WO_makeFunc0;(first|exact trivial|exact rfl);exact rfl)|(apply WO_makeFunc1;(first|exact trivial|exact rfl);exact rfl;exact rfl)|(apply WO_makeFunc2;(first|exact trivial|exact rfl);exact rfl;exact rfl;exact rfl)|(apply WO_makeFunc3;(first|exact trivial|exact rfl);exact rfl;exact rfl;exact rfl;exact rfl))))
 exact r.h):G:=h ⟨k⟩
theorem D {G R:Prop} (k:R) (h:Z5w R→G:=by
 intro r
 first|(refine D1 ?_;exact r.h)|exact r.h):G:=h ⟨k⟩
theorem WR {G R:Prop} (k:R) (h:Z5w R→G:=by
 intro r
 first|refine Zcy rfl rfl ?_|refine Zcz rfl rfl rfl ?_|refine ZcA rfl rfl rfl rfl ?_|refine Z4y rfl ?_|refine Z4z rfl ?_
 exact r.h):G:=h ⟨k⟩
theorem VG {G R S:Prop} (k:R) (l:S) (h:Z5w R→Z5w S→G:=by
 intro r s
 first|refine ZaK rfl rfl ?_ ?_|refine WL_splitB rfl rfl ?_ ?_
 exact r.h
 exact s.h):G:=h ⟨k⟩ ⟨l⟩
theorem VC {G R S:Prop} (k:R) (l:S) (h:Z5w R→Z5w S→G:=by
 intro r s
 first|refine Z97 rfl ?_ ?_|refine Z76 rfl ?_ ?_
 exact r.h
 exact s.h):G:=h ⟨k⟩ ⟨l⟩
theorem CL {P:Program} {n:Nat} {Q:Exit→Act→World→Prop} {e:Env} {w:World} {rest:List Oper} {f d:Nat} {fn:Func} {xs:Array Operand} {ts:Array TypeId} {vs:Array Value} {G:Value→World→Prop} {c:Operand} {ty:TypeId} {pos:String} {af:Array Edge} {ops:Array Oper} [hf:Fun P f fn] (hc:ev e c=some (.func (.func f) #[] #[])) (hv:∀ a,Has n e a→xs.map a.eval=vs) (hd:Nat.blt d n=true) (h:Calls P f vs w (Ret G)) (k:∀ v w',G v w'→WL P n ops Q rest ((d,v) :: e) w'):WL P n ops Q (⟨some d,.call { callee:=.value c,args:=xs,argTypes:=ts },ty,pos,af,none⟩ :: rest) e w:=Z0 (Ze hc hv h) hd k
inductive Nd where
 | mk (kind n:Int) (s:Str) (kids:List Nd)
namespace Nd
def kind:Nd→Int|mk k _ _ _=>k
def num:Nd→Int|mk _ n _ _=>n
def word:Nd→Str|mk _ _ s _=>s
def kids:Nd→List Nd|mk _ _ _ l=>l
theorem eta (x:Nd):x=mk x.kind x.num x.word x.kids:=by cases x;rfl
theorem ind {P:Nd→Prop} (h:∀ k n s l,(∀ x∈l,P x)→P (mk k n s l)):∀ x,P x
 | mk k n s l=>h k n s l (fun x hx=>ind h x)
 decreasing_by
  have:=List.sizeOf_lt_of_mem hx
  simp only [mk.sizeOf_spec]
  omega
end Nd
inductive Z3D (X:List Nat) (w:World):Nd→List Value→Prop
 | mk (k n : Int) (s : Str) (l : List Nd) (p : Option Addr) (c : Nat) (b o : Nat) (css : Nat → List Value) (hl : l.length ≤ c) (hm : c ≤ maxLen) (hn : p = none → c = 0)
    (hp:0<l.length→p=some ⟨b,o,none⟩∧b<w.heap.size∧b∉X) (hr:∀ i (h:i<l.length),Z3D X w l[i] (css i))
    (hc:∀ i,i<l.length→∀ j u,(css i)[j]?=some u→w.cell? ⟨b,o+i * 4+j,none⟩=some u) :
    Z3D X w (.mk k n s l) [.int .i64 k,.int .i64 n,str s,.slice p l.length c]
theorem Z3D.ext {X S X':List Nat} {w w':World} {x:Nd} {cs:List Value} (h:Z3D X w x cs) (hS:Stp S w w') (h1:∀ b∈S,b∈X) (h2:∀ b∈X',b∈X∨w.heap.size≤b):Z3D X' w' x cs:=by
 induction h with
 | mk k n s l p c b o css hl hm hn hp hr hc ih=>
   refine .mk k n s l p c b o css hl hm hn (fun h0=>?_) ih (fun i hi j u hu=>?_)
   obtain ⟨e1,e2,e3⟩:=hp h0
   refine ⟨e1,Xb e2 hS.size,fun hb=>?_⟩
   rcases h2 b hb with h|h
   exact e3 h
   omega
   obtain ⟨_,_,e3⟩:=hp (by omega)
   exact hS.cell (fun hb=>e3 (h1 b hb)) (hc i hi j u hu)
instance:Z4 Nd where
 k:=4
 rep:=Z3D
 len:=by intro X w x cs h;cases h;rfl
 one:=by
  intro X w x cs h u hu
  cases h
  simp at hu
  rcases hu with rfl|rfl|rfl|rfl<;>rfl
 ext:=Z3D.ext
def NdV (X:List Nat) (w:World) (v:Value) (x:Nd):Prop:=∃ kv,v=.agg #[.int .i64 x.kind,.int .i64 x.num,str x.word,kv]∧SlV X w kv x.kids
theorem Zb9 {X:List Nat} {w:World} {x:Nd} {cs:List Value} (h:Z3D X w x cs):∃ kv,cs=[.int .i64 x.kind,.int .i64 x.num,str x.word,kv]∧SlV X w kv x.kids:=by
 cases h with
 | mk k n s l p c b o css hl hm hn hp hr hc=>
   refine ⟨_,rfl,p,c,rfl,hl,hm,hn,fun i hi=>?_⟩
   obtain ⟨e1,e2,e3⟩:=hp (by show 0<l.length;have:i<l.length:=hi;omega)
   exact ⟨b,o,css i,e1,e2,e3,hr i hi,hc i hi⟩
theorem Z4V {X:List Nat} {w:World} {k n:Int} {s:Str} {l:List Nd} {kv:Value} (h:SlV X w kv l):Z3D X w (.mk k n s l) [.int .i64 k,.int .i64 n,str s,kv]:=by
 obtain ⟨p,c,rfl,hl,hm,hn,hc⟩:=h
 have hall:∀ i:Fin l.length,∃ cs:List Value,∃ b o,p=some ⟨b,o,none⟩∧b<w.heap.size∧b∉X∧Z3D X w l[i] cs∧∀ j u,cs[j]?=some u→w.cell? ⟨b,o+i * 4+j,none⟩=some u:=by
  intro i
  obtain ⟨b,o,cs,h1,h2,h3,h4,h5⟩:=hc i i.2
  exact ⟨cs,b,o,h1,h2,h3,h4,h5⟩
 obtain ⟨f,hf⟩:=Classical.axiomOfChoice hall
 by_cases h0:0<l.length
 obtain ⟨b,o,e1,e2,e3,_⟩:=hf ⟨0,h0⟩
 refine .mk k n s l p c b o (fun i=>if h:i<l.length then f ⟨i,h⟩ else []) hl hm hn (fun _=>⟨e1,e2,e3⟩) (fun i hi=>?_) (fun i hi j u hu=>?_)
 obtain ⟨_,_,_,_,_,g,_⟩:=hf ⟨i,hi⟩
 simpa [hi] using g
 obtain ⟨b',o',g1,_,_,_,g⟩:=hf ⟨i,hi⟩
 rw [e1] at g1
 simp only [Xc,Addr.mk.injEq] at g1
 obtain ⟨rfl,rfl,_⟩:=g1
 exact g j u (by simpa [hi] using hu)
 exact .mk k n s l p c 0 0 (fun _=>[]) hl hm hn (fun h=>absurd h h0) (fun i hi=>by omega) (fun i hi=>by omega)
theorem SlV.nd {X:List Nat} {w:World} {v:Value} {l:List Nd} {i:Nat} (h:SlV X w v l) (hi:i<l.length):∃ kv,SlV X w kv l[i].kids∧∀ j u,[Value.int .i64 l[i].kind,.int .i64 l[i].num,str l[i].word,kv][j]?=some u→w.cell? (Zq v i 4 j)=some u:=by
 obtain ⟨cs,hr,hc⟩:=h.cell hi
 obtain ⟨kv,rfl,hs⟩:=Zb9 hr
 exact ⟨kv,hs,hc⟩
section
variable {P:Program} {n:Nat} {e:Env} {w:World} {d:Option Nat} {ty:TypeId} {pos:String} {af:Array Edge} {g:Option (Nat×Bool)}
theorem Jp {X:List Nat} {v:Value} {l:List Nd} {i:Nat} {kv:Value} {x:Operand} {t:TypeId} {D:TypeDesc} [hu:Und P t D] (hA:JA D=true) [hsz:Siz P t 4] (hx:ev e x=some (.pointer (some (Zq v i 4 0)))) (hs:SlV X w v l) (hi:i<l.length)
 (hc:∀ j u,[Value.int .i64 l[i].kind,.int .i64 l[i].num,str l[i].word,kv][j]?=some u→w.cell? (Zq v i 4 j)=some u) :
 PR P n ⟨d,.load t x,ty,pos,af,g⟩ e w (.agg #[.int .i64 l[i].kind,.int .i64 l[i].num,str l[i].word,kv]):=by
 obtain ⟨p,l',c,rfl⟩:=hs.isSome hi
 refine Z4K (cs:=[.int .i64 l[i].kind,.int .i64 l[i].num,str l[i].word,kv]) hA hx rfl (fun j u hu=>?_)
 have:=hc j u hu
 simpa [Zq] using this
end
end Go.Eng
namespace Go.Proofs.YtjdjdoefppebkaaGreatDoor
open Go Go.Eng Go.RowKit
abbrev ndC (x:Nd) (kv:Value):List Value:=[.int .i64 x.kind,.int .i64 x.num,str x.word,kv]
theorem ZD {X:List Nat} {w:World} {x:Nd} {kv:Value} {l:List Nd} (h:SlV X w kv l):∀ c∈ndC x kv,c.oneCell'=true:=by
 intro c hc
 simp only [ndC,Xd,Xv,or_false] at hc
 rcases hc with rfl|rfl|rfl|rfl
 rfl
 rfl
 rfl
 exact h.one
end Go.Proofs.YtjdjdoefppebkaaGreatDoor
namespace Go.Eng
open Go Go.RowKit Go.Proofs
class Zba (P:Program) (kt:Nat) (κ:outParam Type) [DecidableEq κ] where
 enc:κ→Value
 chk:∀ (em:Bool) (a:κ) (w:World),(Instr.checkKey em 10000 kt (enc a)).run P w=.ok () w
 find:∀ (a:κ) (es:List MapEntry) (l:List κ) (w:World),es.map (·.key)=l.map enc→
  (Instr.findKey kt (enc a) es).run P w=.ok ((l.findIdx? (fun b=>decide (b=a))).bind fun i=>(es[i]?).map fun e=>(i,e.val)) w
def Z0e {κ:Type} (enc:κ→Value) (w:World) (r:Nat) (l:List (κ×Value)):Prop:=
 ∃ (es:Array MapEntry) (clock:Nat),w.heap[r]?=some (.map es clock)∧es.toList.map (·.key)=l.map (fun p=>enc p.1)∧es.toList.map (·.val)=l.map (·.2)
theorem Z0e.lt {κ:Type} {enc:κ→Value} {w:World} {r:Nat} {l:List (κ×Value)} (h:Z0e enc w r l):r<w.heap.size:=by
 obtain ⟨es,c,h1,_⟩:=h
 exact (Array.getElem?_eq_some_iff.1 h1).1
theorem Z0e.ext {κ:Type} {enc:κ→Value} {S:List Nat} {w w':World} {r:Nat} {l:List (κ×Value)} (h:Z0e enc w r l) (hS:Stp S w w') (hr:r∉S):Z0e enc w' r l:=by
 have hlt:=h.lt
 obtain ⟨es,c,h1,h2⟩:=h
 exact ⟨es,c,by rw [hS.block r hlt hr];exact h1,h2⟩
theorem Z0e.up {κ:Type} {enc:κ→Value} {w w':World} {r:Nat} {l:List (κ×Value)} (h:Z0e enc w r l) (hS:Stp [] w w'):Z0e enc w' r l:=h.ext hS (by simp)
def Z3E {κ:Type} [DecidableEq κ] (l:List (κ×Value)) (a:κ) (z:Value):Value:=match l.find? (fun p=>decide (p.1=a)) with|some p=>p.2|none=>z
theorem Z2N {d:TypeDesc} {κ:Type} [DecidableEq κ] (enc:κ→Value) (h:∀ a b:κ,Instr.sameNow d (enc a) (enc b)=some (decide (a=b))) (a:κ):∀ (es:List MapEntry) (l:List κ) (i:Nat),es.map (·.key)=l.map enc→
 Instr.findNow d (enc a) es i=some ((l.findIdx? (fun b=>decide (b=a))).bind fun j=>(es[j]?).map fun e=>(i+j,e.val))
 | [],[],i,_=>by simp [Instr.findNow]
 | [],_ :: _,i,h=>by simp at h
 | _ :: _,[],i,h=>by simp at h
 | e :: es, b :: l, i, hk => by
   simp only [Xy,Yak] at hk
   obtain ⟨h1,h2⟩:=hk
   have ih:=Z2N enc h a es l (i+1) h2
   simp only [Instr.findNow,h1,h]
   by_cases hab:a=b
   subst hab
   simp [List.findIdx?_cons]
   · have hba:¬ b=a:=fun h=>hab h.symm
     simp only [decide_eq_false hab,ih,List.findIdx?_cons,decide_eq_false hba,XF,if_false]
     cases l.findIdx? (fun b=>decide (b=a)) with
     | none=>rfl
     | some j=>
       simp only [X5,Yau,List.getElem?_cons_succ]
       rw [show i+1+j=i+(j+1) by omega]
theorem Z5x {P:Program} {kt:Nat} {κ:Type} [DecidableEq κ] (enc:κ→Value) (h:∀ (a b:κ) (w:World),(Op.equal kt (enc a) (enc b)).run P w=.ok (decide (a=b)) w) (a:κ) (w:World):∀ (es:List MapEntry) (l:List κ) (i:Nat),es.map (·.key)=l.map enc→
 (Instr.findAsking kt (enc a) es i).run P w=.ok ((l.findIdx? (fun b=>decide (b=a))).bind fun j=>(es[j]?).map fun e=>(i+j,e.val)) w
 | [],[],i,_=>by simp [Instr.findAsking]
 | [],_ :: _,i,h=>by simp at h
 | _ :: _,[],i,h=>by simp at h
 | e :: es, b :: l, i, hk => by
   simp only [Xy,Yak] at hk
   obtain ⟨h1,h2⟩:=hk
   have ih:=Z5x enc h a w es l (i+1) h2
   simp only [Instr.findAsking,h1]
   by_cases hab:a=b
   subst hab
   simp [List.findIdx?_cons,h]
   · have hba:¬ b=a:=fun h=>hab h.symm
     simp only [Sem.run_bind,h,decide_eq_false hab,Result.andThen,List.findIdx?_cons,decide_eq_false hba,XF,if_false,ih]
     cases l.findIdx? (fun b=>decide (b=a)) with
     | none=>rfl
     | some j=>
       simp only [X5,Yau,List.getElem?_cons_succ]
       rw [show i+1+j=i+(j+1) by omega]
instance {P:Program} {kt:Nat} [hu:Und P kt (.int .i64)]:Zba P kt Int where
 enc:=fun z=>.int .i64 z
 chk:=fun em a w=>MapKept.run_checkKey (k:=.int .i64 a) hu.h (by simp [MapKept.IsKey]) em 9999
 find:=fun a es l w hk=>by
  have:=Z2N (d:=.int .i64) (fun z:Int=>Value.int .i64 z) (fun a b=>by simp [Instr.sameNow,XZ]) a es l 0 hk
  simpa using MapKept.run_findKey (w:=w) hu.h this
instance Ze4 {P:Program} {kt:Nat} [hu:Und P kt .string]:Zba P kt Str where
 enc:=str
 chk:=fun em a w=>MapKept.run_checkKey (k:=str a) hu.h (by simp [MapKept.IsKey]) em 9999
 find:=fun a es l w hk=>by
  have:=Z2N (d:=.string) str (fun a b=>by
   simp only [Instr.sameNow,Xc]
   rw [beq_toListBytes,ZcL]) a es l 0 hk
  simpa using MapKept.run_findKey (w:=w) hu.h this
section
variable {P:Program} {n:Nat} {e:Env} {w:World} {d:Option Nat} {ty:TypeId} {pos:String} {af:Array Edge} {g:Option (Nat×Bool)}
theorem Z2O {t:TypeId} {κ:Type} (enc:κ→Value):OE P n ⟨d,.makeMap t none,ty,pos,af,g⟩ e w (fun v w'=>∃ r,v=.map (some r)∧w.heap.size≤r∧Z0e enc w' r []∧Stp [] w w'):=
 Jj (v:=.map (some w.heap.size)) (w':=w.alloc (.map #[] 0)) (fun a ha=>by
  simp [execOp,run_makeMap]) ⟨_,rfl,Xk _,⟨#[],0,heap_alloc_new w _,rfl,rfl⟩,Stp.alloc _ _ _⟩
theorem Z8r {κ:Type} [DecidableEq κ] {l:List κ} {a:κ} (h:∀ b∈l,¬ b=a):l.findIdx? (fun b=>decide (b=a))=none:=by
 rw [List.findIdx?_eq_none_iff]
 intro b hb
 simp [h b hb]
theorem Z8s {mt kt et r:Nat} {κ:Type} [DecidableEq κ] [hm:Und P mt (.map kt et)] [K:Zba P kt κ] {l:List (κ×Value)} {a:κ} {v:Value} (hr:Z0e K.enc w r l) (hn:∀ p∈l,¬ p.1=a) :
 ∃ w',(Instr.mapUpdate mt (.map (some r)) (K.enc a) v).run P w=.ok () w'∧Z0e K.enc w' r (l++[(a,v)])∧Stp [r] w w':=by
 obtain ⟨es,clock,h1,h2,h3⟩:=hr
 have hf:(Instr.findKey kt (K.enc a) es.toList).run P w=.ok none w:=by
  have hk:es.toList.map (·.key)=(l.map (·.1)).map K.enc:=by rw [h2,YaI];rfl
  rw [K.find a es.toList (l.map (·.1)) w hk,Z8r (by simpa using hn)]
  rfl
 have hlt:r<w.heap.size:=(Array.getElem?_eq_some_iff.1 h1).1
 refine ⟨{ w with heap:=w.heap.setIfInBounds r (.map (es.push { key:=K.enc a,val:=v,born:=clock }) (clock+1)) },?_,?_,?_⟩
 simp [Instr.mapUpdate,run_underlying hm.h,MapKept.run_getObj_map h1,K.chk,hf,MapKept.run_setObj_map _ h1,Result.andThen]
 refine ⟨es.push { key:=K.enc a,val:=v,born:=clock },clock+1,by simp [hlt],?_,?_⟩
 simp [h2]
 simp [h3]
 refine ⟨rfl,rfl,rfl,by simp,fun b hb hn=>?_⟩
 simp only [Xp] at hn
 simp [Array.getElem?_setIfInBounds_ne (fun h=>hn h.symm)]
theorem JD {mt kt et r:Nat} {κ:Type} [DecidableEq κ] {x y z:Operand} [hm:Und P mt (.map kt et)] [K:Zba P kt κ] {l:List (κ×Value)} {a:κ} {v:Value} (hx:ev e x=some (.map (some r))) (hy:ev e y=some (K.enc a)) (hz:ev e z=some v) (hr:Z0e K.enc w r l) (hn:∀ p∈l,¬ p.1=a) :
 OE P n ⟨d,.insert mt x y z,ty,pos,af,g⟩ e w (fun _ w'=>Z0e K.enc w' r (l++[(a,v)])∧Stp [r] w w'):=by
 obtain ⟨w',h1,h2,h3⟩:=Z8s (mt:=mt) (v:=v) hr hn
 exact Z6p (w':=w') (fun c hc=>by simp [execOp,hc.ev hx,hc.ev hy,hc.ev hz,h1]) ⟨h2,h3⟩
theorem Z3F {mt kt et r:Nat} {κ:Type} [DecidableEq κ] {x y:Operand} {z:Value} [hm:Und P mt (.map kt et)] [K:Zba P kt κ] [hz:Zer P et z] {l:List (κ×Value)} {a:κ} (hx:ev e x=some (.map (some r))) (hy:ev e y=some (K.enc a)) (hr:Z0e K.enc w r l) :
 PR P n ⟨d,.lookup mt x y false,ty,pos,af,g⟩ e w (Z3E l a z):=by
 refine ⟨fun c hc=>?_⟩
 obtain ⟨es,clock,h1,h2,h3⟩:=hr
 have hk:es.toList.map (·.key)=(l.map (·.1)).map K.enc:=by rw [h2,YaI];rfl
 have hf:=K.find a es.toList (l.map (·.1)) w hk
 have hlen:es.toList.length=l.length:=by have:=congrArg List.length h3;simpa using this
 have hv:∀ i:Nat,(es.toList[i]?).map (fun x:MapEntry=>x.val)=(l[i]?).map (fun x:κ×Value=>x.2):=fun i=>by
  have:=congrArg (fun x=>x[i]?) h3
  simpa using this
 have hfind:Z3E l a z=match (l.map (·.1)).findIdx? (fun b=>decide (b=a)) with|some i=>((es.toList[i]?).map (fun x:MapEntry=>x.val)).getD z|none=>z:=by
  unfold Z3E
  rw [List.findIdx?_map]
  cases hi:l.findIdx? ((fun b=>decide (b=a)) ∘ fun x=>x.1) with
  | none=>
    have:l.find? (fun p=>decide (p.1=a))=none:=by
     rw [List.find?_eq_none]
     intro p hp
     have:=(List.findIdx?_eq_none_iff.1 hi) p hp
     simpa using this
    rw [this]
  | some i=>
    obtain ⟨hlt,hp,hb⟩:=List.findIdx?_eq_some_iff_getElem.1 hi
    have:l.find? (fun p=>decide (p.1=a))=some l[i]:=by
     rw [List.find?_eq_some_iff_getElem]
     exact ⟨by simpa using hp,i,hlt,rfl,fun j hj=>by simpa using hb j hj⟩
    rw [this]
    simp only [hv,List.getElem?_eq_getElem hlt,Yau,Option.getD_some]
 rw [hfind]
 simp only [execOp,hc.ev hx,hc.ev hy]
 cases hi:(l.map (·.1)).findIdx? (fun b=>decide (b=a)) with
 | none=>
   rw [hi] at hf
   simp [Instr.lookup,run_underlying hm.h,MapKept.run_getObj_map h1,K.chk,hf,Result.andThen,Zer.run]
 | some i=>
   obtain ⟨hlt,_⟩:=List.findIdx?_eq_some_iff_getElem.1 hi
   have hlt':i<es.toList.length:=by rw [hlen];simpa using hlt
   rw [hi] at hf
   simp only [X5,List.getElem?_eq_getElem hlt',Yau] at hf
   simp [Instr.lookup,run_underlying hm.h,MapKept.run_getObj_map h1,K.chk,hf,Result.andThen,List.getElem?_eq_getElem hlt']
end
end Go.Eng
namespace Go.Proofs.YtjdjdoefppebkaaGreatDoor
open Go Go.Eng Go.RowKit
def idx {α:Type} (p:α→Bool) (xs:List α):Int:=match xs.findIdx? p with|some i=>(i:Int)|none=>-1
theorem Z2n {α:Type} {p:α→Bool} {xs:List α} {k:Nat} (hk:k<xs.length) (hp:p xs[k]=true) (hb:∀ j (h:j<xs.length),j<k→p xs[j]=false):idx p xs=k:=by
 have:xs.findIdx? p=some k:=List.findIdx?_eq_some_iff_getElem.2 ⟨hk,hp,fun j hj=>by simp [hb j (by omega) hj]⟩
 simp [idx,this]
theorem Z11 {α:Type} {p:α→Bool} {xs:List α} (hb:∀ j (h:j<xs.length),p xs[j]=false):idx p xs=-1:=by
 have:xs.findIdx? p=none:=by
  rw [List.findIdx?_eq_none_iff]
  intro x hx
  obtain ⟨j,hj,rfl⟩:=Xj hx
  simp [hb j hj]
 simp [idx,this]
abbrev isS (a:Str):Str→Bool:=fun x=>decide (x=a)
def Zj:List Str:=[[100,97,121],[115,101,114,118,101,100],[101,120,116,114,97],[98,121],[116,111],[99,111,117,114,116],[97,109,111,117,110,116]]
def ZZ (a:Str):Int×Int×Bool:=
 let i:=idx (isS a) Zj
 if i<0 then (0,0,false) else if i≤1 then (i,3,true) else (i,1,true)
def Z48 (k n:Int) (s:Str):Int:=
 if k=4 then (if n=0 then (ZZ s).2.1 else 0) else if ¬ s=[] then 0
 else if k=1 then (if 0≤n∧n≤2147483647 then 1 else 0) else if k=2 then (if 0≤n∧n≤1 then 2 else 0) else if k=3 then (if 0≤n∧n≤3652058 then 3 else 0) else 0
theorem Z9N {a:Str} (h:(ZZ a).2.2=false):(ZZ a).2.1=0:=by
 unfold ZZ at h ⊢
 dsimp only at h ⊢
 split<;>rename_i h1
 rfl
 rw [if_neg h1] at h
 split at h<;>simp at h
theorem Z7n (a:Int) (w:World):(Instr.buildSlice 22 1 #[(0,.int .i64 a)]).run Tryz.prog w=.ok (.slice (some ⟨w.heap.size,0,none⟩) 1 1) (w.alloc (.cells #[.int .i64 a] 3)):=by kernel_rfl
theorem ZA.stp {w w':World} {T len:Nat} {cs:List Value} {v:Value} (h:ZA w T len cs v w'):Stp [] w w':=h.choose_spec.2.2.2
def Zh9:List Str:=[[43],[45],[42]]
def Zha:List Str:=[[60],[60,61],[61],[33,61],[62],[62,61]]
def Zjf:List Str:=[[97,110,100],[111,114]]
structure Sig where
 kind:Int
 s:Str
 a:Int
 b:Int
 c:Int
 deriving DecidableEq
abbrev Zhb:=Sig×Value
def ent:Nat→Zhb
 | 5=>(⟨5,[45],1,0,0⟩,.int .i64 1)
 | 10=>(⟨5,[110,111,116],2,0,0⟩,.int .i64 2)
 | 15=>(⟨10,[110,101,120,116],3,0,0⟩,.int .i64 3)
 | 20=>(⟨10,[112,114,101,118],3,0,0⟩,.int .i64 3)
 | 26=>(⟨10,[108,97,116,101,114],3,3,0⟩,.int .i64 3)
 | 32=>(⟨10,[101,97,114,108,105,101,114],3,3,0⟩,.int .i64 3)
 | _=>(⟨10,[98,101,116,119,101,101,110],3,3,0⟩,.int .i64 1)
def Zd3:List Nat:=[5,10,15,20,26,32,38]
def Z2A:List Str:=[[100,97,121,115],[119,101,101,107,115],[109,111,110,116,104,115],[99,111,117,114,116,100,97,121,115]]
def Z9f (u:Str):List Zhb:=[(⟨7,u,3,1,0⟩,.int .i64 3),(⟨8,u,3,1,0⟩,.int .i64 3)]
def Z3b:List Zhb:=Zd3.map ent++Z2A.flatMap Z9f
def Zbb (x:Sig):Value:=Z3E Z3b x (.int .i64 0)
def Zbc (s:Str) (a b:Int):Int:=
 if s∈Zh9 then (if a=b∧a=1 then 1 else 0) else if s∈Zha then (if a=b∧¬ a=2 then 2 else 0) else if s∈Zjf then (if a=b∧a=2 then 2 else 0) else 0
theorem _root_.Go.Eng.SlV.on {α:Type} [Z4 α] {X S:List Nat} {w w':World} {v:Value} {xs:List α} (h:SlV X w v xs) (hS:Stp S w w') (hs:∀ b∈S,b∈X):SlV X w' v xs:=h.ext hS hs (fun _ h=>.inl h)
def Z3G (x:Sig):Int:=match Zbb x with|.int _ z=>z|_=>0
theorem Zbd (x:Sig):Zbb x=.int .i64 (Z3G x):=by
 have:∀ p∈Z3b,∃ z,p.2=Value.int .i64 z:=by
  intro p hp
  simp only [Z3b,Zd3,Z2A,Xy,XQ,Yab,YaF,Z9f,XI,XK,XL,Xd,Xv,or_false,ent] at hp
  rcases hp with rfl|rfl|rfl|rfl|rfl|rfl|rfl|rfl|rfl|rfl|rfl|rfl|rfl|rfl|rfl<;>exact ⟨_,rfl⟩
 unfold Z3G Zbb Z3E
 cases h:Z3b.find? (fun p=>decide (p.1=x)) with
 | none=>rfl
 | some p=>
   obtain ⟨z,hz⟩:=this p (List.mem_of_find?_eq_some h)
   simp only [hz]
def Z12 (k n:Int) (s:Str) (ts:List Int):Int:=
 if ts.length > 3 then 0 else if (0:Int)∈ts then 0 else if ts=[] then Z48 k n s else if ¬ n=0 then 0
 else if k=9∧s=[]∧ts.getD 0 0=2∧ts.getD 1 0=ts.getD 2 0 then ts.getD 1 0
 else if k=6∧ts.getD 2 0=0 then Zbc s (ts.getD 0 0) (ts.getD 1 0) else Z3G ⟨k,s,ts.getD 0 0,ts.getD 1 0,ts.getD 2 0⟩
def Zr:Nd→Int
 | .mk k n s l=>Z12 k n s (l.map Zr)
theorem Z4W (x:Nd):Zr x=Z12 x.kind x.num x.word (x.kids.map Zr):=by
 cases x
 rw [Zr]
 rfl
theorem Zjg:∀ p∈Z3b,∃ z,p.2=Value.int .i64 z:=by
 intro p hp
 simp only [Z3b,Zd3,Z2A,Xy,XQ,Yab,YaF,Z9f,XI,XK,XL,Xd,Xv,or_false,ent] at hp
 rcases hp with rfl|rfl|rfl|rfl|rfl|rfl|rfl|rfl|rfl|rfl|rfl|rfl|rfl|rfl|rfl<;>exact ⟨_,rfl⟩
theorem Z9O {x:Sig} (h:¬ ∃ p∈Z3b,p.1=x):Z3G x=0:=by
 unfold Z3G Zbb Z3E
 have:Z3b.find? (fun p=>decide (p.1=x))=none:=by
  rw [List.find?_eq_none]
  intro p hp
  simpa using fun e=>h ⟨p,hp,e⟩
 rw [this]
def Zjh:List Str:=[[110,101,120,116],[112,114,101,118]]
def Zji:List Str:=[[108,97,116,101,114],[101,97,114,108,105,101,114]]
def Zbe:List Sig:=Z3b.map (·.1)
def Zd4 (k:Int) (s:Str) (a b c:Int):Int:=
 if c=0 then
  if b=0 then (if k=5∧s=[45]∧a=1 then 1 else if k=5∧s=[110,111,116]∧a=2 then 2 else if k=10∧s∈Zjh∧a=3 then 3 else 0)
  else if a=3∧b=3∧k=10∧s∈Zji then 3 else if a=3∧b=3∧k=10∧s=[98,101,116,119,101,101,110] then 1 else if a=3∧b=1∧(k=7∨k=8)∧s∈Z2A then 3 else 0
 else 0
theorem Zbf:∀ x∈Zbe,Z3G x=Zd4 x.kind x.s x.a x.b x.c:=by
 intro x hx
 simp only [Zbe,Z3b,Zd3,Z2A,Xy,XQ,Yab,YaF,Z9f,XI,XK,XL,Xd,Xv,or_false,ent] at hx
 rcases hx with rfl|rfl|rfl|rfl|rfl|rfl|rfl|rfl|rfl|rfl|rfl|rfl|rfl|rfl|rfl<;>decide
theorem Zd5 (k:Int) (s:Str) (a b c:Int):Z3G ⟨k,s,a,b,c⟩=Zd4 k s a b c:=by
 by_cases hx:(⟨k,s,a,b,c⟩:Sig)∈Zbe
 exact Zbf _ hx
 rw [Z9O (fun ⟨p,hp,e⟩=>hx (e ▸ Yag hp))]
 unfold Zd4
 symm
 split
 rename_i hc
 subst hc
 split
 rename_i hb
 subst hb
 split
 rename_i h;obtain ⟨rfl,rfl,rfl⟩:=h;exact absurd (by decide) hx
 split
 rename_i h;obtain ⟨rfl,rfl,rfl⟩:=h;exact absurd (by decide) hx
 split
 rename_i h
 obtain ⟨rfl,h,rfl⟩:=h
 simp only [Zjh,Xd,Xv,or_false] at h
 rcases h with rfl|rfl<;>exact absurd (by decide) hx
 rfl
 split
 rename_i h
 obtain ⟨rfl,rfl,rfl,h⟩:=h
 simp only [Zji,Xd,Xv,or_false] at h
 rcases h with rfl|rfl<;>exact absurd (by decide) hx
 split
 rename_i h;obtain ⟨rfl,rfl,rfl,rfl⟩:=h;exact absurd (by decide) hx
 split
 rename_i h
 obtain ⟨rfl,rfl,h1,h⟩:=h
 simp only [Z2A,Xd,Xv,or_false] at h
 rcases h1 with rfl|rfl<;>rcases h with rfl|rfl|rfl|rfl<;>exact absurd (by decide) hx
 rfl
 rfl
theorem Z7o (k n:Int) (s:Str):0≤Z48 k n s∧Z48 k n s≤3:=by
 have h:0≤(ZZ s).2.1∧(ZZ s).2.1≤3:=by
  unfold ZZ
  dsimp only
  split
  simp
  split<;>simp
 unfold Z48
 grind
theorem Z7p (k n:Int) (s:Str) (ts:List Int) (hr:∀ t∈ts,0≤t∧t≤3):0≤Z12 k n s ts∧Z12 k n s ts≤3:=by
 unfold Z12
 split
 omega
 split
 omega
 split
 exact Z7o _ _ _
 split
 omega
 have hg:∀ i,0≤ts.getD i 0∧ts.getD i 0≤3:=by
  intro i
  by_cases hi:i<ts.length
  have:=hr ts[i] (Xm hi)
  simpa [List.getD,hi] using this
  simp [List.getD,List.getElem?_eq_none (Nat.le_of_not_lt hi)]
 split
 exact hg 1
 split
 unfold Zbc
 split
 split<;>omega
 split
 split<;>omega
 split
 split<;>omega
 omega
 rw [Zd5]
 unfold Zd4
 grind
theorem Z7q (x:Nd):0≤Zr x∧Zr x≤3:=by
 induction x using Nd.ind with
 | h k n s l ih=>
 rw [Z4W]
 refine Z7p _ _ _ _ (fun t ht=>?_)
 obtain ⟨y,hy,rfl⟩:=Yao.1 ht
 exact ih y hy
def ZE:Nd→Nat
 | .mk k n s l=>1+(l.map ZE).foldl max 0
theorem Z4X (x:Nd):ZE x=1+(x.kids.map ZE).foldl max 0:=by
 cases x
 rw [ZE]
 rfl
theorem Z6z (l:List Nat):∀ (m b:Nat),l.foldl max m≤b↔m≤b∧∀ x∈l,x≤b:=by
 induction l with
 | nil=>intro m b;simp
 | cons y r ih=>
   intro m b
   rw [XT,ih]
   simp only [Xd,forall_eq_or_imp]
   constructor
   rintro ⟨h1,h2⟩
   exact ⟨by omega,by omega,h2⟩
   rintro ⟨h1,h2,h3⟩
   exact ⟨by omega,h3⟩
theorem Z0x {x y:Nd} (h:y∈x.kids):ZE y<ZE x:=by
 rw [Z4X x]
 have:=(Z6z (x.kids.map ZE) 0 ((x.kids.map ZE).foldl max 0)).1 (Xk _)
 have:=this.2 (ZE y) (Yag h)
 omega
end Go.Proofs.YtjdjdoefppebkaaGreatDoor
namespace Go.Eng
open Go
structure Ins where
 op:Int
 n:Int
 deriving DecidableEq,Inhabited
instance:Z5 Ins where
 k:=2
 enc:=fun x=>[.int .i64 x.op,.int .i64 x.n]
 len:=fun _=>rfl
 one:=by intro x u hu;simp at hu;rcases hu with rfl|rfl<;>rfl
def agg {α:Type} [Z5 α] (x:α):Value:=.agg (Z5.enc x).toArray
theorem Row.keep {β:Type} [Z5 β] {X S:List Nat} {w w':World} {base T:Nat} {v:Value} {xs:List β} (h:Row X w base T v xs) (hS:Stp S w w') (hd:∀ b∈S,b∉ob v):Row X w' base T v xs:=by
 have h':Row S w base T v xs:=h
 have:=h'.ext (X':=X) hS (fun b hb=>⟨hb,hd b hb⟩)
 obtain ⟨css,h1,h2,h3⟩:=h
 refine ⟨css,h1,h2,?_⟩
 have h4:Row S w base T v xs:=⟨css,h1,h2,h3⟩
 obtain ⟨ho,hr⟩:=h3
 refine ⟨ho,?_⟩
 rcases hr with hn|⟨q,cap,cur,rfl,hb,hg,rest⟩
 exact .inl hn
 refine .inr ⟨q,cap,cur,rfl,hb,?_,rest⟩
 rw [hS.block q (Array.getElem?_eq_some_iff.1 hg).1 (fun hq=>hd q hq (by simp [ob]))]
 exact hg
end Go.Eng
namespace Go.Proofs.YtjdjdoefppebkaaGreatDoor
open Go Go.Eng Go.RowKit
end Go.Proofs.YtjdjdoefppebkaaGreatDoor
namespace Go.Eng
open Go
structure Pap where
 attempt:Int
 party:Int
 carrier:Int
 sent:Int
 deriving DecidableEq,Inhabited
structure Wy where
 attempt:Int
 kind:Int
 days:Int
 party:Int
 deriving DecidableEq,Inhabited
structure Dlv where
 attempt:Int
 party:Int
 day:Int
 deriving DecidableEq,Inhabited
structure Rpt where
 attempt:Int
 day:Int
 carrier:Int
 kind:Int
 frm:Int
 til:Int
 deriving DecidableEq,Inhabited
instance:Z5 Pap where
 k:=4
 enc:=fun p=>[.int .i64 p.attempt,.int .i64 p.party,.int .i64 p.carrier,.int .i64 p.sent]
 len:=fun _=>rfl
 one:=by intro x u hu;simp at hu;rcases hu with rfl|rfl|rfl|rfl<;>rfl
instance:Z5 Wy where
 k:=4
 enc:=fun p=>[.int .i64 p.attempt,.int .i64 p.kind,.int .i64 p.days,.int .i64 p.party]
 len:=fun _=>rfl
 one:=by intro x u hu;simp at hu;rcases hu with rfl|rfl|rfl|rfl<;>rfl
instance:Z5 Dlv where
 k:=3
 enc:=fun p=>[.int .i64 p.attempt,.int .i64 p.party,.int .i64 p.day]
 len:=fun _=>rfl
 one:=by intro x u hu;simp at hu;rcases hu with rfl|rfl|rfl<;>rfl
instance:Z5 Rpt where
 k:=6
 enc:=fun p=>[.int .i64 p.attempt,.int .i64 p.day,.int .i64 p.carrier,.int .i64 p.kind,.int .i64 p.frm,.int .i64 p.til]
 len:=fun _=>rfl
 one:=by intro x u hu;simp at hu;rcases hu with rfl|rfl|rfl|rfl|rfl|rfl<;>rfl
def Z3c {α:Type} [Z5 α] (P:Program) (g:Nat) (lb:Array Value) (p:α→Bool) (w:World):Prop:=
 ∀ (x:α) (w':World),Stp [] w w'→Calls P g (#[agg x]++lb) w' (Ret fun v w''=>v=.bool (p x)∧Stp [] w' w'')
end Go.Eng
namespace Go.Proofs.YtjdjdoefppebkaaGreatDoor
open Go Go.Eng Go.RowKit
theorem Z7r (a b:Int) (w:World):CC 220 #[.int .i64 a,.int .i64 b] w fun v w'=>v=.bool (decide (0≤a∧a<b))∧Stp [] w w':=by
 refine cW2 12 Tryz.func220 ?_
 repeat'(first|refine W1 ?_|refine VG ?_ ?_<;>intro hg|refine VC ?_ ?_<;>intro hc)
 all_goals (refine WR ?_)
 exact .mk ⟨by simp [hg],Stp.refl _ _⟩
 exact .mk ⟨by simp [hg],Stp.refl _ _⟩
def ZL (n most:Int):Int:=if n<0 then (-(n+1)) % most else n % most
theorem Z0T (a b:Int) (ha:I64 a) (hb:0<b) (w:World):CC 18 #[.int .i64 a,.int .i64 b] w fun v w'=>v=.int .i64 (ZL a b)∧Stp [] w w':=by
 have ha':=ha
 unfold I64 at ha
 refine cW2 13 Tryz.func18 ?_
 repeat'(first|refine W1 ?_|refine VG ?_ ?_<;>intro hg|refine VC ?_ ?_<;>intro hc)
 all_goals (refine WR ?_)
 exact .mk ⟨by simp [ZL,hc],Stp.refl _ _⟩
 exact .mk ⟨by simp [ZL,hc],Stp.refl _ _⟩
theorem Z8t (g:Nat) (fn:Func) [Fun Tryz.prog g fn] (lb:Array Value) (p:Pap→Bool) (X:List Nat) (v:Value) (xs:List Pap) (w:World) (hs:SlV X w v xs) (hp:Z3c Tryz.prog g lb p w) :
 CC 132 #[v,.func (.func g) #[] lb] w fun r w'=>r=.int .i64 (idx p xs)∧Stp [] w w':=by
 have hmax:=hs.max
 refine cW2 19 Tryz.func132 ?_
 refine W ?_
 refine Zh (σ:=Nat) (fun k=>[(0,v),(1,.func (.func g) #[] lb),(7,.int .i64 xs.length),(8,.int .i64 k)]) (fun k w'=>k≤xs.length∧Stp [] w w'∧∀ j (h:j<xs.length),j<k→p xs[j]=false) (fun k=>xs.length - k) 0 ⟨rfl,rfl,rfl,rfl,trivial⟩ ⟨Xo _,Stp.refl _ _,fun j _ h=>absurd h (Xs _)⟩ ?_
 rintro k w1 ⟨hk,hS,hb⟩
 have hs:=hs.up hS
 by_cases hlt:k<xs.length
 focus repeat'(first|refine W1 ?_|refine VG ?_ ?_<;>intro hg|refine VC ?_ ?_<;>intro hc)
 · refine Z0 (ZK (f:=g) rfl (Zk rfl) rfl (hp xs[k] w1 hS)) rfl ?_
   rintro _ w2 ⟨rfl,hS2⟩
   cases hq:p xs[k] with
   | true=>
     repeat'(first|refine W1 ?_|refine VG ?_ ?_<;>intro hg|refine VC ?_ ?_<;>intro hc)
     refine WR ?_
     exact .mk ⟨by rw [Z2n hlt hq hb],hS.trans hS2⟩
   | false=>
     repeat'(first|refine W1 ?_|refine VG ?_ ?_<;>intro hg|refine VC ?_ ?_<;>intro hc)
     refine Zd (k+1) ⟨rfl,rfl,rfl,rfl,trivial⟩ ⟨by omega,hS.trans hS2,fun j h hj=>?_⟩ (by omega)
     by_cases e:j=k
     subst e;exact hq
     exact hb j h (by omega)
 omega
 focus repeat'(first|refine W1 ?_|refine VG ?_ ?_<;>intro hg|refine VC ?_ ?_<;>intro hc)
 omega
 refine WR ?_
 exact .mk ⟨by rw [Z11 (fun j h=>hb j h (by omega))],hS⟩
theorem Zbg (g:Nat) (fn:Func) [Fun Tryz.prog g fn] (lb:Array Value) (p:Wy→Bool) (X:List Nat) (v:Value) (xs:List Wy) (w:World) (hs:SlV X w v xs) (hp:Z3c Tryz.prog g lb p w) :
 CC 121 #[v,.func (.func g) #[] lb] w fun r w'=>r=.int .i64 (idx p xs)∧Stp [] w w':=by
 have hmax:=hs.max
 refine cW2 19 Tryz.func121 ?_
 refine W ?_
 refine Zh (σ:=Nat) (fun k=>[(0,v),(1,.func (.func g) #[] lb),(7,.int .i64 xs.length),(8,.int .i64 k)]) (fun k w'=>k≤xs.length∧Stp [] w w'∧∀ j (h:j<xs.length),j<k→p xs[j]=false) (fun k=>xs.length - k) 0 ⟨rfl,rfl,rfl,rfl,trivial⟩ ⟨Xo _,Stp.refl _ _,fun j _ h=>absurd h (Xs _)⟩ ?_
 rintro k w1 ⟨hk,hS,hb⟩
 have hs:=hs.up hS
 by_cases hlt:k<xs.length
 focus repeat'(first|refine W1 ?_|refine VG ?_ ?_<;>intro hg|refine VC ?_ ?_<;>intro hc)
 · refine Z0 (ZK (f:=g) rfl (Zk rfl) rfl (hp xs[k] w1 hS)) rfl ?_
   rintro _ w2 ⟨rfl,hS2⟩
   cases hq:p xs[k] with
   | true=>
     repeat'(first|refine W1 ?_|refine VG ?_ ?_<;>intro hg|refine VC ?_ ?_<;>intro hc)
     refine WR ?_
     exact .mk ⟨by rw [Z2n hlt hq hb],hS.trans hS2⟩
   | false=>
     repeat'(first|refine W1 ?_|refine VG ?_ ?_<;>intro hg|refine VC ?_ ?_<;>intro hc)
     refine Zd (k+1) ⟨rfl,rfl,rfl,rfl,trivial⟩ ⟨by omega,hS.trans hS2,fun j h hj=>?_⟩ (by omega)
     by_cases e:j=k
     subst e;exact hq
     exact hb j h (by omega)
 omega
 focus repeat'(first|refine W1 ?_|refine VG ?_ ?_<;>intro hg|refine VC ?_ ?_<;>intro hc)
 omega
 refine WR ?_
 exact .mk ⟨by rw [Z11 (fun j h=>hb j h (by omega))],hS⟩
theorem Z2B (g:Nat) (fn:Func) [Fun Tryz.prog g fn] (lb:Array Value) (p:Dlv→Bool) (X:List Nat) (v:Value) (xs:List Dlv) (w:World) (hs:SlV X w v xs) (hp:Z3c Tryz.prog g lb p w) :
 CC 133 #[v,.func (.func g) #[] lb] w fun r w'=>r=.int .i64 (idx p xs)∧Stp [] w w':=by
 have hmax:=hs.max
 refine cW2 19 Tryz.func133 ?_
 refine W ?_
 refine Zh (σ:=Nat) (fun k=>[(0,v),(1,.func (.func g) #[] lb),(7,.int .i64 xs.length),(8,.int .i64 k)]) (fun k w'=>k≤xs.length∧Stp [] w w'∧∀ j (h:j<xs.length),j<k→p xs[j]=false) (fun k=>xs.length - k) 0 ⟨rfl,rfl,rfl,rfl,trivial⟩ ⟨Xo _,Stp.refl _ _,fun j _ h=>absurd h (Xs _)⟩ ?_
 rintro k w1 ⟨hk,hS,hb⟩
 have hs:=hs.up hS
 by_cases hlt:k<xs.length
 focus repeat'(first|refine W1 ?_|refine VG ?_ ?_<;>intro hg|refine VC ?_ ?_<;>intro hc)
 · refine Z0 (ZK (f:=g) rfl (Zk rfl) rfl (hp xs[k] w1 hS)) rfl ?_
   rintro _ w2 ⟨rfl,hS2⟩
   cases hq:p xs[k] with
   | true=>
     repeat'(first|refine W1 ?_|refine VG ?_ ?_<;>intro hg|refine VC ?_ ?_<;>intro hc)
     refine WR ?_
     exact .mk ⟨by rw [Z2n hlt hq hb],hS.trans hS2⟩
   | false=>
     repeat'(first|refine W1 ?_|refine VG ?_ ?_<;>intro hg|refine VC ?_ ?_<;>intro hc)
     refine Zd (k+1) ⟨rfl,rfl,rfl,rfl,trivial⟩ ⟨by omega,hS.trans hS2,fun j h hj=>?_⟩ (by omega)
     by_cases e:j=k
     subst e;exact hq
     exact hb j h (by omega)
 omega
 focus repeat'(first|refine W1 ?_|refine VG ?_ ?_<;>intro hg|refine VC ?_ ?_<;>intro hc)
 omega
 refine WR ?_
 exact .mk ⟨by rw [Z11 (fun j h=>hb j h (by omega))],hS⟩
theorem Z7s (g:Nat) (fn:Func) [Fun Tryz.prog g fn] (lb:Array Value) (p:Rpt→Bool) (X:List Nat) (v:Value) (xs:List Rpt) (w:World) (hs:SlV X w v xs) (hp:Z3c Tryz.prog g lb p w) :
 CC 218 #[v,.func (.func g) #[] lb] w fun r w'=>r=.int .i64 (idx p xs)∧Stp [] w w':=by
 have hmax:=hs.max
 refine cW2 19 Tryz.func218 ?_
 refine W ?_
 refine Zh (σ:=Nat) (fun k=>[(0,v),(1,.func (.func g) #[] lb),(7,.int .i64 xs.length),(8,.int .i64 k)]) (fun k w'=>k≤xs.length∧Stp [] w w'∧∀ j (h:j<xs.length),j<k→p xs[j]=false) (fun k=>xs.length - k) 0 ⟨rfl,rfl,rfl,rfl,trivial⟩ ⟨Xo _,Stp.refl _ _,fun j _ h=>absurd h (Xs _)⟩ ?_
 rintro k w1 ⟨hk,hS,hb⟩
 have hs:=hs.up hS
 by_cases hlt:k<xs.length
 focus repeat'(first|refine W1 ?_|refine VG ?_ ?_<;>intro hg|refine VC ?_ ?_<;>intro hc)
 · refine Z0 (ZK (f:=g) rfl (Zk rfl) rfl (hp xs[k] w1 hS)) rfl ?_
   rintro _ w2 ⟨rfl,hS2⟩
   cases hq:p xs[k] with
   | true=>
     repeat'(first|refine W1 ?_|refine VG ?_ ?_<;>intro hg|refine VC ?_ ?_<;>intro hc)
     refine WR ?_
     exact .mk ⟨by rw [Z2n hlt hq hb],hS.trans hS2⟩
   | false=>
     repeat'(first|refine W1 ?_|refine VG ?_ ?_<;>intro hg|refine VC ?_ ?_<;>intro hc)
     refine Zd (k+1) ⟨rfl,rfl,rfl,rfl,trivial⟩ ⟨by omega,hS.trans hS2,fun j h hj=>?_⟩ (by omega)
     by_cases e:j=k
     subst e;exact hq
     exact hb j h (by omega)
 omega
 focus repeat'(first|refine W1 ?_|refine VG ?_ ?_<;>intro hg|refine VC ?_ ?_<;>intro hc)
 omega
 refine WR ?_
 exact .mk ⟨by rw [Z11 (fun j h=>hb j h (by omega))],hS⟩
end Go.Proofs.YtjdjdoefppebkaaGreatDoor
