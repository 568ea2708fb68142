/-
Contracts and plain laws, merged out of own texts.
-/
import Derived.WalkKit
import Derived.WalkSpells
import Derived.WalkLawsBesides
import Derived.Shelf.Abstract
import Derived.Orders
import Derived.Test.YtipfkbkkndacjaaGreatDoorRows
import Derived.Laws.StructEq
import Derived.Laws.Small
import Derived.MapKept
import Derived.ChangeKeysEq
set_option linter.unusedVariables false
set_option linter.unusedSimpArgs false
set_option maxHeartbeats 4000000
set_option maxRecDepth 20000
namespace Go
abbrev Xa:=@Nat.lt_of_lt_of_le
abbrev Xb:=@List.mem_cons
abbrev Xc:=@List.length_append
abbrev Xd:=@List.getElem_mem
abbrev Xe:=@List.length_cons
abbrev Xf:=@List.length_nil
abbrev Xg:=@Nat.le_trans
abbrev Xh:=@List.mem_append
abbrev Xi:=@List.take_succ_eq_append_getElem
abbrev Xj:=@List.not_mem_nil
abbrev Xk:=@Array.getElem?_eq_some_iff
abbrev Xl:=@List.mem_singleton
abbrev Xm:=@Bool.and_eq_true
abbrev Xn:=@Nat.le_refl
abbrev Xo:=@List.take_length
abbrev Xp:=@Nat.mul_le_mul_right
abbrev Xq:=@Nat.zero_le
abbrev Xr:=@List.getElem_of_mem
abbrev Xs:=@List.length_map
abbrev Xt:=@List.length_take
abbrev Xu:=@Nat.not_lt_zero
abbrev Xv:=@List.length_eq_zero_iff
abbrev Xw:=@List.getElem?_eq_some_iff
abbrev Xx:=@List.append_assoc
abbrev Xy:=@List.map_cons
abbrev Xz:=@Array.getD_eq_getD_getElem?
abbrev XA:=@List.getD_eq_getElem?_getD
abbrev XB:=@List.take_append_drop
abbrev XC:=@List.mem_map
abbrev XD:=@Option.some.injEq
abbrev XE:=@List.mem_cons_of_mem
abbrev XG:=@List.append_nil
abbrev XH:=@List.take_of_length_le
abbrev XI:=@List.map_append
abbrev XJ:=@Nat.zero_add
abbrev XK:=@Nat.eq_of_beq_eq_true
abbrev XL:=@List.nil_append
abbrev XM:=@Nat.sub_lt_sub_left
abbrev XN:=@List.getElem?_eq_getElem
abbrev XO:=@Option.bind_some
abbrev XP:=@Bool.false_eq_true
abbrev XQ:=@List.map_nil
abbrev XR:=@List.cons_append
abbrev XS:=@Nat.lt_succ_self
abbrev XT:=@Array.getElem?_append_left
abbrev XU:=@Nat.le_of_ble_eq_true
abbrev XV:=@Option.bind_eq_some_iff
abbrev XW:=@List.getD_cons_zero
abbrev XX:=@Option.some.inj
abbrev XY:=@List.all_eq_true
abbrev XZ:=@List.pairwise_cons
abbrev X0:=@List.length_filter_le
abbrev X1:=@List.foldl_cons
abbrev X2:=@List.getElem_append_right
abbrev X3:=@List.mem_of_find?_eq_some
abbrev X4:=@List.length_set
abbrev X5:=@List.findIdx?_eq_some_iff_getElem
abbrev X6:=@List.getElem_append_left
abbrev X7:=@List.length_pos_iff
abbrev X8:=@Nat.succ_mul
abbrev X9:=@List.getElem?_append_left
abbrev Yaa:=@List.findIdx?_eq_none_iff
abbrev Yab:=@List.drop_eq_getElem_cons
abbrev Yac:=@Bool.eq_iff_iff
abbrev Yad:=@Nat.min_eq_left
abbrev Yae:=@List.getElem?_take
abbrev Yaf:=@List.length_drop
abbrev Yag:=@List.flatten_cons
abbrev Yah:=@Array.length_toList
abbrev Yai:=@List.mem_map_of_mem
abbrev Yaj:=@List.flatMap_append
abbrev Yak:=@List.getD_cons_succ
abbrev Yal:=@List.pairwise_iff_getElem
abbrev Yam:=@List.eq_nil_or_concat
abbrev Yan:=@List.concat_eq_append
abbrev Yao:=@List.find?_eq_none
abbrev Yap:=@List.find?_eq_some_iff_getElem
abbrev Yaq:=@List.mem_of_mem_take
abbrev Yar:=@List.size_toArray
abbrev Yas:=@Nat.lt_or_ge
abbrev Yat:=@Array.getElem?_eq_none
abbrev Yau:=@List.drop_eq_nil_of_le
abbrev Yav:=@Nat.add_assoc
abbrev Yaw:=@List.take_append
abbrev Yax:=@Option.getD_some
abbrev Yay:=@List.ext_getElem
abbrev Yaz:=@List.getElem?_append_right
abbrev YaA:=@List.take_take
abbrev YaB:=@List.Perm.refl
abbrev YaC:=@Bool.beq_eq_decide_eq
abbrev YaD:=@List.dropLast_eq_take
abbrev YaE:=@Bool.or_eq_true
abbrev YaF:=@List.foldl_append
abbrev YaG:=@List.mem_of_mem_drop
abbrev YaH:=@Array.getElem?_setIfInBounds_ne
abbrev YaI:=@List.getElem_set_ne
abbrev YaJ:=@List.getElem?_cons_succ
abbrev YaK:=@List.any_eq_true
abbrev YaL:=@List.eq_nil_of_length_eq_zero
abbrev YaM:=@Nat.mul_one
abbrev YaN:=@Int.emod_lt_of_pos
abbrev YaO:=@List.mem_cons_self
abbrev YaP:=@List.getElem?_eq_none
abbrev YaQ:=@Array.getElem?_modify
abbrev YaR:=@Array.getElem?_toList
abbrev YaS:=@List.flatMap_cons
abbrev YaT:=@Int.le_refl
abbrev YaU:=@List.drop_length
abbrev YaV:=@List.take_succ_cons
abbrev YaW:=@Int.toNat_of_nonneg
abbrev YaX:=@List.replicate_succ
abbrev YaY:=@Array.setIfInBounds_comm
abbrev YaZ:=@List.all_cons
abbrev Ya0:=@Int.emod_nonneg
abbrev Ya1:=@Option.map_some
abbrev Ya2:=@List.findIdx?_cons
abbrev Ya3:=@List.getElem?_replicate
abbrev Ya4:=@Nat.mul_comm
abbrev Ya5:=@List.getElem_cons_zero
abbrev Ya6:=@List.length_eq_one_iff
abbrev Ya7:=@List.append_eq_nil_iff
abbrev Ya8:=@Nat.mul_le_mul
abbrev Ya9:=@List.getElem_set_self
abbrev Yba:=@List.length_mergeSort
abbrev Ybb:=@List.flatMap_def
abbrev Ybc:=@Bool.and_true
abbrev Ybd:=@List.pairwise_append
abbrev Ybe:=@Nat.add_le_add_right
abbrev Ybf:=@Nat.div_add_mod
abbrev Ybg:=@List.cons.injEq
abbrev Ybh:=@List.find?_some
abbrev Ybi:=@Int.natCast_add
abbrev Ybj:=@List.takeWhile_cons
abbrev Ybk:=@Nat.add_zero
abbrev Ybl:=@Nat.pow_succ
abbrev Ybm:=@List.drop_zero
abbrev Ybn:=@List.drop_take
abbrev Ybo:=@Nat.add_sub_cancel
abbrev Ybp:=@List.filter_append
abbrev Ybq:=@Int.emod_eq_of_lt
abbrev Ybr:=@List.Sublist.refl
abbrev Ybs:=@Bool.eq_false_iff
abbrev Ybt:=@Int.toNat_natCast
abbrev Ybu:=@List.getElem?_map
abbrev Ybv:=@Bool.false_or
abbrev Ybw:=@Nat.le_of_not_lt
abbrev Ybx:=@Nat.min_eq_right
abbrev Yby:=@List.map_toArray
abbrev Ybz:=@List.flatMap_nil
abbrev YbA:=@List.mem_flatMap
abbrev YbB:=@Nat.mod_lt
abbrev YbC:=@List.map_map
abbrev YbD:=@List.set_append
abbrev YbE:=@List.mem_filter
abbrev YbF:=@List.take_left'
abbrev YbG:=@List.take_zero
abbrev YbH:=@Bool.and_false
abbrev YbI:=@List.mem_range
end Go
namespace Go.Eng
open Go Go.RowKit Go.Proofs
abbrev Env:=List (Nat×Value)
def look:Env→Nat→Option Value
 | [],_=>none
 | (k,v) :: r,t=>bif Nat.beq k t then some v else look r t
def ev (e:Env):Operand→Option Value
 | .tmp t=>look e t
 | .const v=>some v
 | .global g=>some (.pointer (some ⟨g,0,none⟩))
 | .func f=>some (.func (.func f) #[] #[])
structure Has (n:Nat) (e:Env) (a:Act):Prop where
 defers:a.defers=[]
 size:a.tmps.size=n
 vals:∀ t v,look e t=some v→a.tmps.getD t undef=v
section basics
variable {n:Nat} {e:Env} {a:Act}
theorem Has.ev {x:Operand} {v:Value} (h:Has n e a) (hx:ev e x=some v):a.eval x=v:=by
 cases x with
 | tmp t=>exact h.vals t v hx
 | const c=>simpa [Eng.ev,Act.eval] using hx
 | global g=>simpa [Eng.ev,Act.eval] using hx
 | func f=>simpa [Eng.ev,Act.eval] using hx
theorem Z1I (d:Nat) (v:Value) (e:Env) (t:Nat):look ((d,v) :: e) t=if d=t then some v else look e t:=by
 simp only [look];by_cases h:d=t;subst h;simp
 · have:Nat.beq d t=false:=by
    cases hb:Nat.beq d t with
    | false=>rfl
    | true=>exact absurd (XK hb) h
   simp [this,h]
theorem Has.put {d:Nat} {v:Value} (h:Has n e a) (hd:Nat.blt d n=true):Has n ((d,v) :: e) (a.put (some d) v):=by
 have hlt:d<a.tmps.size:=by rw [h.size];exact XU hd
 refine ⟨h.defers,by simp [Act.put,h.size],fun t u hu=>?_⟩;rw [Z1I] at hu;simp only [Act.put];by_cases hdt:d=t;subst hdt;simp at hu;subst hu;simp [hlt];rw [if_neg hdt] at hu;have:=h.vals t u hu;simpa [YaH hdt] using this
theorem Has.weak {e':Env} (h:Has n e a) (hs:∀ t v,look e' t=some v→look e t=some v):Has n e' a:=
 ⟨h.defers,h.size,fun t v hv=>h.vals t v (hs t v hv)⟩
def Sub:Env→Env→Prop
 | [],_=>True
 | (k,v) :: r,e=>look e k=some v∧Sub r e
theorem Sub.look {e' e:Env} (h:Sub e' e):∀ t v,Eng.look e' t=some v→Eng.look e t=some v:=by
 induction e' with
 | nil=>intro t v hv;simp [Eng.look] at hv
 | cons p r ih=>
   intro t v hv;obtain ⟨d,u⟩:=p;rw [Z1I] at hv;by_cases hd:d=t;subst hd;simp at hv;subst hv;exact h.1;rw [if_neg hd] at hv;exact ih h.2 t v hv
theorem Has.sub {e':Env} (h:Has n e a) (hs:Sub e' e):Has n e' a:=h.weak hs.look
end basics
section judge
variable (P:Program) (n:Nat)
structure WQ (n:Nat) (Q:Exit→Act→World→Prop) (x:Exit) (e:Env) (w:World):Prop where
 h:∀ a,Has n e a→Q x a w
structure WC (c:Code) (Q:Exit→Act→World→Prop) (e:Env) (w:World):Prop where
 h:∀ a,Has n e a→c.wp P Q a w
structure WL (ops:Array Oper) (Q:Exit→Act→World→Prop) (l:List Oper) (e:Env) (w:World):Prop where
 h:∀ a,Has n e a→wpList P ops Q l a w
end judge
section rules
variable {P:Program} {n:Nat} {Q:Exit→Act→World→Prop} {e:Env} {w:World} {ops:Array Oper} {rest:List Oper}
theorem Z7h {x y:Code} (h:WC P n x (Exit.then (fun a w=>y.wp P Q a w) Q) e w):WC P n (x.seq y) Q e w:=
 ⟨fun a ha=>wp_seq (h.h a ha)⟩
theorem Z46 {y:Code} (h:WC P n y Q e w):WQ n (Exit.then (fun a w=>y.wp P Q a w) Q) .normal e w:=⟨fun a ha=>h.h a ha⟩
theorem Z1k {N:Act→World→Prop} (h:WQ n Q .ret e w):WQ n (Exit.then N Q) .ret e w:=⟨fun a ha=>h.h a ha⟩
theorem ZC {N:Act→World→Prop} {i:Nat} (h:WQ n Q (.exit i) e w):WQ n (Exit.then N Q) (.exit i) e w:=⟨fun a ha=>h.h a ha⟩
theorem Ji {i:Nat} (h:WQ n Q .normal e w):WQ n (Exit.inBlock i Q) .normal e w:=⟨fun a ha=>h.h a ha⟩
theorem Z9N {i:Nat} (h:WQ n Q .ret e w):WQ n (Exit.inBlock i Q) .ret e w:=⟨fun a ha=>h.h a ha⟩
theorem Zx {i:Nat} (h:WQ n Q .normal e w):WQ n (Exit.inBlock i Q) (.exit i) e w:=by
 refine ⟨fun a ha=>?_⟩;simp only [Exit.inBlock,if_true];exact h.h a ha
theorem ZK {i j:Nat} (hij:Nat.beq i j=false) (h:WQ n Q (.exit i) e w):WQ n (Exit.inBlock j Q) (.exit i) e w:=by
 refine ⟨fun a ha=>?_⟩;simp only [Exit.inBlock];rw [if_neg (Nat.ne_of_beq_eq_false hij)];exact h.h a ha
theorem Z75 (h:WQ n Q .normal e w):WC P n .skip Q e w:=⟨fun a ha=>wp_skip (h.h a ha)⟩
theorem Z7i (h:WQ n Q .ret e w):WC P n .ret Q e w:=⟨fun a ha=>wp_ret (h.h a ha)⟩
theorem Zl1 {i:Nat} (h:WQ n Q (.exit i) e w):WC P n (.exit i) Q e w:=⟨fun a ha=>wp_exit (h.h a ha)⟩
theorem Zhj {i:Nat} {c:Code} (h:WC P n c (Exit.inBlock i Q) e w):WC P n (.block i c) Q e w:=⟨fun a ha=>wp_block (h.h a ha)⟩
theorem Z1A {c:Operand} {x y:Code} (hc:ev e c=some (.bool true)) (h:WC P n x Q e w):WC P n (.cond c x y) Q e w:=
 ⟨fun a ha=>wp_cond_true (ha.ev hc) (h.h a ha)⟩
theorem Z1f {c:Operand} {x y:Code} (hc:ev e c=some (.bool false)) (h:WC P n y Q e w):WC P n (.cond c x y) Q e w:=
 ⟨fun a ha=>wp_cond_false (ha.ev hc) (h.h a ha)⟩
theorem Z9O {c:Operand} {x y:Code} {p:Prop} [Decidable p] (hc:ev e c=some (.bool (decide p))) (ht:p→WC P n x Q e w) (hf:¬ p→WC P n y Q e w):WC P n (.cond c x y) Q e w:=
 ⟨fun a ha=>wp_cond_split (ha.ev hc) (fun h=>(ht (of_decide_eq_true h)).h a ha) (fun h=>(hf (of_decide_eq_false h)).h a ha)⟩
theorem Zba {c:Operand} {x y:Code} {t:Bool} (hc:ev e c=some (.bool t)) (ht:t=true→WC P n x Q e w) (hf:t=false→WC P n y Q e w):WC P n (.cond c x y) Q e w:=
 ⟨fun a ha=>wp_cond_split (ha.ev hc) (fun h=>(ht h).h a ha) (fun h=>(hf h).h a ha)⟩
theorem Z2u {id:Nat} {l:List Oper} (h:WL P n l.toArray Q l e w):WC P n (.region id l.toArray false) Q e w:=
 ⟨fun a ha=>wp_region_lit (h.h a ha)⟩
theorem Z2K (h:WQ n Q .normal e w):WL P n ops Q [] e w:=⟨fun a ha=>wpList_nil (h.h a ha)⟩
theorem Zl2 {c:Code} (e':Env) (hs:Sub e' e) (h:WC P n c Q e' w):WC P n c Q e w:=⟨fun a ha=>h.h a (ha.sub hs)⟩
theorem Zl3 {x:Exit} (e':Env) (hs:Sub e' e) (h:WQ n Q x e' w):WQ n Q x e w:=⟨fun a ha=>h.h a (ha.sub hs)⟩
theorem Zhk {x y:Code} {σ:Type} (env:σ→Env) (I:σ→World→Prop)
 (h:WC P n x (Exit.then (fun a w=>∃ s,Has n (env s) a∧I s w) Q) e w) (k:∀ s w,I s w→WC P n y Q (env s) w):WC P n (x.seq y) Q e w:=
 ⟨fun a ha => wp_seq (wp_mono (h.h a ha) (fun ex a w hq => by
   cases ex with
   | normal=>obtain ⟨s,h1,h2⟩:=hq;exact (k s w h2).h a h1
   | _=>exact hq))⟩
theorem JA {x y:Code} {σ:Type} (env:σ→Env) (I:σ→World→Prop)
 (h:WC P n x (Exit.then (fun a w=>∃ s,Has n (env s) a∧I s w) Q) e w) (k:∀ s w,I s w→WC P n y Q (env s) w):WC P n x (Exit.then (fun a w=>y.wp P Q a w) Q) e w:=
 ⟨fun a ha => wp_mono (h.h a ha) (fun ex a w hq => by
   cases ex with
   | normal=>obtain ⟨s,h1,h2⟩:=hq;exact (k s w h2).h a h1
   | _=>exact hq)⟩
theorem Z0l {x y:Code} {σ:Type} {i:Nat} (env:σ→Env) (I:σ→World→Prop)
 (h:WC P n x (Exit.inBlock i (Exit.then (fun a w=>∃ s,Has n (env s) a∧I s w) Q)) e w) (k:∀ s w,I s w→WC P n y Q (env s) w):WC P n x (Exit.inBlock i (Exit.then (fun a w=>y.wp P Q a w) Q)) e w:=
 ⟨fun a ha => wp_mono (h.h a ha) (fun ex a w hq => by
   cases ex with
   | normal=>obtain ⟨s,h1,h2⟩:=hq;exact (k s w h2).h a h1
   | exit j=>
     simp only [Exit.inBlock] at hq ⊢;split;rename_i hj;rw [if_pos hj] at hq;obtain ⟨s,h1,h2⟩:=hq;exact (k s w h2).h a h1;rename_i hj;rw [if_neg hj] at hq;exact hq
   | _=>exact hq)⟩
theorem ZN {σ:Type} {env:σ→Env} {I:σ→World→Prop} (s:σ) (hs:Sub (env s) e) (hI:I s w):WQ n (Exit.then (fun a w=>∃ s,Has n (env s) a∧I s w) Q) .normal e w:=
 ⟨fun a ha=>⟨s,ha.sub hs,hI⟩⟩
theorem Zu {c:Code} {σ:Type} (env:σ→Env) (I:σ→World→Prop) (μ:σ→Nat) (s₀:σ) (hs:Sub (env s₀) e) (hI:I s₀ w)
 (round:∀ s w,I s w→WC P n c (Exit.then (fun a' w'=>∃ s',Has n (env s') a'∧I s' w'∧μ s' < μ s) Q) (env s) w):WC P n (.loop c) Q e w:=by
 refine ⟨fun a ha=>?_⟩;have key:∀ (k:Nat) (s:σ) (a:Act) (w:World),μ s≤k→Has n (env s) a→I s w→(Code.loop c).wp P Q a w:=by
  intro k s a w _ h1 h2;refine wp_loop (fun a' w'=>∃ s',Has n (env s') a'∧I s' w') (fun a' w'=>Classical.epsilon (fun m=>∃ s',Has n (env s') a'∧I s' w'∧μ s'=m∧∀ s'',Has n (env s'') a'→I s'' w'→m≤μ s'')) ⟨s,h1,h2⟩ ?_;intro a w ⟨s',h1',h2'⟩;have hex:∀ a w,(∃ s',Has n (env s') a∧I s' w)→∃ m,∃ s',Has n (env s') a∧I s' w∧μ s'=m∧∀ s'',Has n (env s'') a→I s'' w→m≤μ s'':=by
   intro a w ⟨s',h1',h2'⟩;have:∀ m,∀ s',μ s'=m→Has n (env s') a→I s' w→∃ m,∃ s',Has n (env s') a∧I s' w∧μ s'=m∧∀ s'',Has n (env s'') a→I s'' w→m≤μ s'':=by
    intro m
    induction m using Nat.strongRecOn with
    | _ m ih=>
      intro s' hm h1 h2;by_cases hmin:∀ s'',Has n (env s'') a→I s'' w→m≤μ s'';exact ⟨m,s',h1,h2,hm,hmin⟩;have:∃ s'',Has n (env s'') a∧I s'' w∧μ s''<m:=by
       refine Classical.byContradiction fun hno=>hmin fun s'' h1 h2=>?_;exact Ybw fun hlt=>hno ⟨s'',h1,h2,hlt⟩
      obtain ⟨s'',h1',h2',hlt⟩:=this;exact ih _ hlt s'' rfl h1' h2'
   exact this _ s' rfl h1' h2'
  obtain ⟨s₁,g1,g2,g3,g4⟩:=Classical.epsilon_spec (hex a w ⟨s',h1',h2'⟩);have hr:=(round s₁ w g2).h a g1;refine wp_mono hr (fun ex a' w' hq=>?_);cases ex with
  | normal=>
    obtain ⟨s₂,k1,k2,k3⟩:=hq;refine ⟨⟨s₂,k1,k2⟩,?_⟩;obtain ⟨s₃,m1,m2,m3,m4⟩:=Classical.epsilon_spec (hex a' w' ⟨s₂,k1,k2⟩);have:=m4 s₂ k1 k2;rw [g3] at k3;exact Nat.lt_of_le_of_lt this k3
  | _=>exact hq
 exact key (μ s₀) s₀ a w (Xn _) (ha.sub hs) hI
theorem ZD {σ:Type} {env:σ→Env} {I:σ→World→Prop} {μ:σ→Nat} {m:Nat} (s:σ) (hs:Sub (env s) e) (hI:I s w) (hm:μ s<m) :
 WQ n (Exit.then (fun a w=>∃ s,Has n (env s) a∧I s w∧μ s<m) Q) .normal e w:=
 ⟨fun a ha=>⟨s,ha.sub hs,hI,hm⟩⟩
structure PR (P:Program) (n:Nat) (o:Oper) (e:Env) (w:World) (v:Value):Prop where
 h:∀ a,Has n e a→(execOp a.eval o).run P w=.ok (.value v) w
theorem Z4 {d:Nat} {op:Op} {ty:TypeId} {pos:String} {af:Array Edge} {v:Value} (hp:PR P n ⟨some d,op,ty,pos,af,none⟩ e w v) (hd:Nat.blt d n=true)
 (k:WL P n ops Q rest ((d,v) :: e) w):WL P n ops Q (⟨some d,op,ty,pos,af,none⟩ :: rest) e w:=by
 refine ⟨fun a ha=>?_⟩;refine wpList_plain rfl (fun K hK=>?_);unfold Oper.wp;rw [hp.h a ha];exact hK _ _ ((k).h _ (ha.put hd))
structure OE (P:Program) (n:Nat) (o:Oper) (e:Env) (w:World) (G:Value→World→Prop):Prop where
 h:∀ a,Has n e a→∀ (Q:Exit→Act→World→Prop),o.wp P a w (fun a' w'=>∃ v,a'=a.put o.dst v∧G v w') Q
theorem Z1 {d:Nat} {op:Op} {ty:TypeId} {pos:String} {af:Array Edge} {G:Value→World→Prop} (hp:OE P n ⟨some d,op,ty,pos,af,none⟩ e w G) (hd:Nat.blt d n=true)
 (k:∀ v w',G v w'→WL P n ops Q rest ((d,v) :: e) w'):WL P n ops Q (⟨some d,op,ty,pos,af,none⟩ :: rest) e w:=by
 refine ⟨fun a ha=>?_⟩;refine wpList_plain rfl (fun K hK=>?_);refine Oper.wp_mono ?_ (hp.h a ha Q);rintro a' w' ⟨v,rfl,hg⟩;exact hK _ _ ((k v w' hg).h _ (ha.put hd))
theorem Z5 {op:Op} {ty:TypeId} {pos:String} {af:Array Edge} {G:Value→World→Prop} (hp:OE P n ⟨none,op,ty,pos,af,none⟩ e w G)
 (k:∀ v w',G v w'→WL P n ops Q rest e w'):WL P n ops Q (⟨none,op,ty,pos,af,none⟩ :: rest) e w:=by
 refine ⟨fun a ha=>?_⟩;refine wpList_plain rfl (fun K hK=>?_);refine Oper.wp_mono ?_ (hp.h a ha Q);rintro a' w' ⟨v,rfl,hg⟩;exact hK _ _ ((k v w' hg).h _ ha)
def yld (ops:Array Oper) (e:Env) (j:Nat):Option Value:=((ops[j]?).bind (·.dst)).bind (look e)
theorem Z7j {ops:Array Oper} {a:Act} {j:Nat} {b:Bool} (ha:Has n e a) (h:yld ops e j=some (.bool b)):yielded ops a.tmps j=some b:=by
 unfold yld at h;unfold yielded;cases hd:(ops[j]?).bind (·.dst) with
 | none=>rw [hd] at h;simp at h
 | some d=>
   rw [hd] at h;have:=ha.vals d _ h;simp only [Xz] at this;simp only [XO];cases hx:a.tmps[d]? with
   | none=>rw [hx] at this;simp [undef] at this
   | some u=>rw [hx] at this;simp at this;subst this;simp
theorem ZtX {d:Option Nat} {op:Op} {ty:TypeId} {pos:String} {af:Array Edge} {j:Nat} {b:Bool} (hy:yld ops e j=some (.bool b))
 (k:WL P n ops Q (⟨d,op,ty,pos,af,none⟩ :: rest) e w):WL P n ops Q (⟨d,op,ty,pos,af,some (j,b)⟩ :: rest) e w:=by
 refine ⟨fun a ha=>?_⟩;have hk:=k.h a ha;have hw:Region.wanted ⟨d,op,ty,pos,af,some (j,b)⟩ (yielded ops a.tmps)=true:=by simp [Region.wanted,Z7j ha hy]
 unfold wpList at hk ⊢;rw [if_pos hw];rw [if_pos (by simp [Region.wanted])] at hk;exact hk
def ZtY:Value→Bool→Bool
 | .bool c,b=>c != b
 | _,_=>true
def noB (ops:Array Oper) (e:Env):Option (Nat×Bool)→Bool
 | none=>false
 | some (j, b) => match yld ops e j with
   | some u=>ZtY u b
   | none=>false
theorem Z2L {ops:Array Oper} {a:Act} {o:Oper} (ha:Has n e a) (h:noB ops e o.guard=true):Region.wanted o (yielded ops a.tmps)=false:=by
 unfold Region.wanted;cases hg:o.guard with
 | none=>rw [hg] at h;cases h
 | some jb=>
   obtain ⟨j,b⟩:=jb;rw [hg] at h;simp only [noB] at h;cases hy:yld ops e j with
   | none=>rw [hy] at h;cases h
   | some u=>
     rw [hy] at h;unfold yld at hy;show (yielded ops a.tmps j == some b)=false;unfold yielded;cases hd:(ops[j]?).bind (·.dst) with
     | none=>rw [hd] at hy;simp at hy
     | some d=>
       rw [hd] at hy;simp only [XO] at hy;have:=ha.vals d _ hy;simp only [Xz] at this;simp only [XO];cases hx:a.tmps[d]? with
       | none=>rfl
       | some z=>
         rw [hx] at this;simp at this;subst this;cases z<;>first|rfl|(simp only [ZtY] at h;cases b<;>simp_all)
theorem Zl4 {d:Nat} {op:Op} {ty:TypeId} {pos:String} {af:Array Edge} {j:Nat} {b:Bool} (hy:noB ops e (some (j,b))=true) (hd:Nat.blt d n=true)
 (k:WL P n ops Q rest ((d,undef) :: e) w):WL P n ops Q (⟨some d,op,ty,pos,af,some (j,b)⟩ :: rest) e w:=by
 refine ⟨fun a ha=>?_⟩;have hw:Region.wanted ⟨some d,op,ty,pos,af,some (j,b)⟩ (yielded ops a.tmps)=false:=Z2L ha hy;unfold wpList;rw [if_neg (by simp [hw])];exact k.h _ (ha.put hd)
def Zeq (ops:Array Oper) (j:Nat):Option Nat:=(ops[j]?).bind (·.dst)
theorem Has.same {a:Act} {d:Nat} {u v:Value} (ha:Has n e a) (h:look e d=some u) (huv:u=v):Has n ((d,v) :: e) a:=by
 subst huv;refine ⟨ha.defers,ha.size,fun t x hx=>?_⟩;rw [Z1I] at hx;by_cases hd:d=t;subst hd;simp at hx;subst hx;exact ha.vals _ _ h;rw [if_neg hd] at hx;exact ha.vals _ _ hx
theorem Zhl {d:Nat} {o:Option Nat} {op:Op} {ty:TypeId} {pos:String} {af:Array Edge} {j:Nat} {b:Bool} {p:Prop} [Decidable p] (hj:Zeq ops j=some d) (hy:look e d=some (.bool (decide p)))
 (ht:p→WL P n ops Q (⟨o,op,ty,pos,af,some (j,b)⟩ :: rest) ((d,.bool true) :: e) w) (hf:¬ p→WL P n ops Q (⟨o,op,ty,pos,af,some (j,b)⟩ :: rest) ((d,.bool false) :: e) w) :
 WL P n ops Q (⟨o,op,ty,pos,af,some (j,b)⟩ :: rest) e w:=by
 refine ⟨fun a ha=>?_⟩;by_cases hp:p;exact (ht hp).h a (ha.same hy (by simp [hp]));exact (hf hp).h a (ha.same hy (by simp [hp]))
theorem Zfk {d:Nat} {o:Option Nat} {op:Op} {ty:TypeId} {pos:String} {af:Array Edge} {j:Nat} {b:Bool} {t:Bool} (hj:Zeq ops j=some d) (hy:look e d=some (.bool t))
 (ht:t=true→WL P n ops Q (⟨o,op,ty,pos,af,some (j,b)⟩ :: rest) ((d,.bool true) :: e) w) (hf:t=false→WL P n ops Q (⟨o,op,ty,pos,af,some (j,b)⟩ :: rest) ((d,.bool false) :: e) w) :
 WL P n ops Q (⟨o,op,ty,pos,af,some (j,b)⟩ :: rest) e w:=by
 refine ⟨fun a ha=>?_⟩;cases t;exact (hf rfl).h a (ha.same hy rfl);exact (ht rfl).h a (ha.same hy rfl)
end rules
def Z4L (l:List Value):Nat→Env
 | k=>match l with|[]=>[]|v :: r=>(k,v) :: Z4L r (k+1)
theorem Z3p (l:List Value):∀ (k t:Nat) (v:Value),look (Z4L l k) t=some v→k≤t∧l[t - k]?=some v:=by
 induction l with
 | nil=>intro k t v h;simp [Z4L,look] at h
 | cons x r ih=>
   intro k t v h;simp only [Z4L] at h;rw [Z1I] at h;by_cases hk:k=t;subst hk;simp at h;simp [h];rw [if_neg hk] at h;obtain ⟨h1,h2⟩:=ih (k+1) t v h;refine ⟨by omega,?_⟩;have:t - k=(t - (k+1))+1:=by omega
   rw [this];simpa using h2
theorem Z0V {P:Program} {f:FuncId} {fn:Func} {c:Code} {args:Array Value} {w:World} {R:Ending→World→Prop} {n:Nat} (hf:P.funcs[f]?=some fn) (hb:fn.body=some c)
 (hn:fn.ntmps=n) (hs:Nat.ble args.size n=true) (h:WC P n c (bodyPost P fn R) (Z4L args.toList 0) w):Calls P f args w R:=by
 refine calls_of_wp hf hb (h.h _ ?_);rw [hn];have hle:args.size≤n:=XU hs;refine ⟨rfl,by simp;omega,fun t v hv=>?_⟩;obtain ⟨_,h2⟩:=Z3p _ _ _ _ hv;simp only [Nat.sub_zero] at h2;have hlt:t<args.size:=by
  have:=(Xw.1 h2).1;simpa using this
 have:args[t]?=some v:=by simpa using h2
 have h3:(args++Array.replicate (n - args.size) undef)[t]?=some v:=by
  rw [XT hlt];exact this
 simp [Xz,h3]
section post
variable {P:Program} {n:Nat} {fn:Func} {R:Ending→World→Prop} {e:Env} {w:World}
theorem Z9P (hr:fn.results=#[]) (h:R (.returned (.tuple #[])) w):WQ n (bodyPost P fn R) .ret e w:=
 ⟨fun a ha=>⟨ha.defers,_,results_none hr _ _ _,h⟩⟩
theorem Z9Q (hr:fn.results=#[]) (h:R (.returned (.tuple #[])) w):WQ n (bodyPost P fn R) .normal e w:=
 ⟨fun a ha=>⟨ha.defers,_,results_none hr _ _ _,h⟩⟩
theorem Zl5 {t:Nat} {v:Value} (hr:fn.results=#[.tmp t]) (ht:look e t=some v) (h:R (.returned v) w):WQ n (bodyPost P fn R) .ret e w:=
 ⟨fun a ha=>⟨ha.defers,_,results_tmp hr _ _ _,by rw [ha.vals t v ht];exact h⟩⟩
theorem Zl6 {t u:Nat} {v x:Value} (hr:fn.results=#[.tmp t,.tmp u]) (ht:look e t=some v) (hu:look e u=some x) (h:R (.returned (.tuple #[v,x])) w):WQ n (bodyPost P fn R) .ret e w:=
 ⟨fun a ha=>⟨ha.defers,_,results_tmp2 hr _ _ _,by rw [ha.vals t v ht,ha.vals u x hu];exact h⟩⟩
theorem Zl7 {t u s:Nat} {v x y:Value} (hr:fn.results=#[.tmp t,.tmp u,.tmp s]) (ht:look e t=some v) (hu:look e u=some x) (hs:look e s=some y) (h:R (.returned (.tuple #[v,x,y])) w):WQ n (bodyPost P fn R) .ret e w:=
 ⟨fun a ha=>⟨ha.defers,.tuple #[v,x,y],by simp [results,hr];simpa [Xz] using And.intro (ha.vals t v ht) (And.intro (ha.vals u x hu) (ha.vals s y hs)),h⟩⟩
end post
theorem cW0 {P:Program} {f:FuncId} {fn:Func} {c:Code} {w:World} {R:Ending→World→Prop} (n:Nat) (hf:P.funcs[f]?=some fn) (h:WC P n c (bodyPost P fn R) [] w) (hb:fn.body=some c:=by exact rfl) (hn:fn.ntmps=n:=by exact rfl):Calls P f #[] w R:=Z0V hf hb hn rfl h
theorem cW1 {P:Program} {f:FuncId} {fn:Func} {c:Code} {a0:Value} {w:World} {R:Ending→World→Prop} (n:Nat) (hf:P.funcs[f]?=some fn) (h:WC P n c (bodyPost P fn R) [(0,a0)] w) (hb:fn.body=some c:=by exact rfl) (hn:fn.ntmps=n:=by exact rfl) (hs:Nat.ble 1 n=true:=by exact rfl):Calls P f #[a0] w R:=Z0V hf hb hn hs h
theorem cW2 {P:Program} {f:FuncId} {fn:Func} {c:Code} {a0 a1:Value} {w:World} {R:Ending→World→Prop} (n:Nat) (hf:P.funcs[f]?=some fn) (h:WC P n c (bodyPost P fn R) [(0,a0),(1,a1)] w) (hb:fn.body=some c:=by exact rfl) (hn:fn.ntmps=n:=by exact rfl) (hs:Nat.ble 2 n=true:=by exact rfl):Calls P f #[a0,a1] w R:=Z0V hf hb hn hs h
theorem cW3 {P:Program} {f:FuncId} {fn:Func} {c:Code} {a0 a1 a2:Value} {w:World} {R:Ending→World→Prop} (n:Nat) (hf:P.funcs[f]?=some fn) (h:WC P n c (bodyPost P fn R) [(0,a0),(1,a1),(2,a2)] w) (hb:fn.body=some c:=by exact rfl) (hn:fn.ntmps=n:=by exact rfl) (hs:Nat.ble 3 n=true:=by exact rfl):Calls P f #[a0,a1,a2] w R:=Z0V hf hb hn hs h
theorem cW4 {P:Program} {f:FuncId} {fn:Func} {c:Code} {a0 a1 a2 a3:Value} {w:World} {R:Ending→World→Prop} (n:Nat) (hf:P.funcs[f]?=some fn) (h:WC P n c (bodyPost P fn R) [(0,a0),(1,a1),(2,a2),(3,a3)] w) (hb:fn.body=some c:=by exact rfl) (hn:fn.ntmps=n:=by exact rfl) (hs:Nat.ble 4 n=true:=by exact rfl):Calls P f #[a0,a1,a2,a3] w R:=Z0V hf hb hn hs h
theorem cW5 {P:Program} {f:FuncId} {fn:Func} {c:Code} {a0 a1 a2 a3 a4:Value} {w:World} {R:Ending→World→Prop} (n:Nat) (hf:P.funcs[f]?=some fn) (h:WC P n c (bodyPost P fn R) [(0,a0),(1,a1),(2,a2),(3,a3),(4,a4)] w) (hb:fn.body=some c:=by exact rfl) (hn:fn.ntmps=n:=by exact rfl) (hs:Nat.ble 5 n=true:=by exact rfl):Calls P f #[a0,a1,a2,a3,a4] w R:=Z0V hf hb hn hs h
class Und (P:Program) (t:Nat) (d:outParam TypeDesc):Prop where
 h:P.underlying t=some d
class Siz (P:Program) (t:Nat) (k:outParam Nat):Prop where
 h:(P.info? t).map (·.size)=some k
class Zer (P:Program) (t:Nat) (z:outParam Value):Prop where
 h:(P.info? t).bind (·.zero)=some z
class Byt (P:Program) (t:Nat) (k:outParam Nat):Prop where
 h:(P.info? t).map (·.bytes)=some k
class Fld (P:Program) (t i:Nat) (off:outParam Nat):Prop where
 h:∃ fs f k,P.underlying t=some (.struct fs)∧fs[i]?=some f∧f.offset=off∧(P.info? f.type).map (·.size)=some (k+1)
class Fun (P:Program) (f:Nat) (fn:outParam Func):Prop where
 h:P.funcs[f]?=some fn
 enters:Enters P f
theorem Siz.run {P:Program} {t k:Nat} [h:Siz P t k] (w:World):(sizeOf t).run P w=.ok k w:=by
 have:=h.h;cases hi:P.info? t with
 | none=>simp [hi] at this
 | some i=>rw [hi] at this;simp at this;simp [sizeOf,typeInfo,hi,this]
theorem Zer.run {P:Program} {t:Nat} {z:Value} [h:Zer P t z] (w:World):(zeroValue t).run P w=.ok z w:=by
 have:=h.h;cases hi:P.info? t with
 | none=>simp [hi] at this
 | some i=>rw [hi] at this;simp at this;simp [zeroValue,typeInfo,hi,this]
def JV:TypeDesc→Bool
 | .struct _|.array _ _=>true
 | _=>false
theorem Und.isAgg {P:Program} {t:Nat} {d:TypeDesc} [h:Und P t d] (w:World):(Go.isAgg t).run P w=.ok (JV d) w:=by
 cases d<;>simp [Go.isAgg,run_underlying h.h,JV]
section rules
variable {P:Program} {n:Nat} {e:Env} {w:World} {d:Option Nat} {ty:TypeId} {pos:String} {af:Array Edge} {g:Option (Nat×Bool)}
theorem ZY {x:Operand} {v:Value} (hx:ev e x=some v):PR P n ⟨d,.move x,ty,pos,af,g⟩ e w v:=⟨fun a ha=>by simp [execOp,ha.ev hx]⟩
theorem Z5P {x:Operand} {v:Value} (hx:ev e x=some v):PR P n ⟨d,.assign x,ty,pos,af,g⟩ e w v:=⟨fun a ha=>by simp [execOp,ha.ev hx]⟩
theorem Z8W {c x y:Operand} {v:Value} (hc:ev e c=some (.bool true)) (hx:ev e x=some v):PR P n ⟨d,.pick c x y,ty,pos,af,g⟩ e w v:=
 ⟨fun a ha=>by simp [execOp,ha.ev hc,ha.ev hx,asBool]⟩
theorem Z8X {c x y:Operand} {v:Value} (hc:ev e c=some (.bool false)) (hx:ev e y=some v):PR P n ⟨d,.pick c x y,ty,pos,af,g⟩ e w v:=
 ⟨fun a ha=>by simp [execOp,ha.ev hc,ha.ev hx,asBool]⟩
theorem Zhm {x:Operand} {b:Bool} (hx:ev e x=some (.bool b)) {t:TypeId}:PR P n ⟨d,.unOp .not t x,ty,pos,af,g⟩ e w (.bool (!b)):=
 ⟨fun a ha=>by simp [execOp,ha.ev hx,Op.unary]⟩
theorem Zhn {x:Operand} (hx:ev e x=some (.bool true)) {t:TypeId}:PR P n ⟨d,.unOp .not t x,ty,pos,af,g⟩ e w (.bool false):=
 ⟨fun a ha=>by simp [execOp,ha.ev hx,Op.unary]⟩
theorem Zho {x:Operand} (hx:ev e x=some (.bool false)) {t:TypeId}:PR P n ⟨d,.unOp .not t x,ty,pos,af,g⟩ e w (.bool true):=
 ⟨fun a ha=>by simp [execOp,ha.ev hx,Op.unary]⟩
def I64 (z:Int):Prop:=-9223372036854775808≤z∧z≤9223372036854775807
theorem Z06 {z:Int} (h:I64 z):IntKind.i64.wrap z=z:=by
 unfold I64 at h;rw [IntKind.wrap_i64];omega
section arith
variable {x y:Operand} {a b:Int} {t u:TypeId}
theorem Z9R (hx:ev e x=some (.int .i64 a)) (hy:ev e y=some (.int .i64 b)) (hr:I64 (a+b)):PR P n ⟨d,.binOp .add t x y u,ty,pos,af,g⟩ e w (.int .i64 (a+b)):=
 ⟨fun c ha=>by simp only [execOp,ha.ev hx,ha.ev hy];simp [go_sem,Op.intArith,Z06 hr]⟩
theorem Z4M (hx:ev e x=some (.int .i64 a)) (hy:ev e y=some (.int .i64 b)) (hr:I64 (a - b)):PR P n ⟨d,.binOp .sub t x y u,ty,pos,af,g⟩ e w (.int .i64 (a - b)):=
 ⟨fun c ha=>by simp only [execOp,ha.ev hx,ha.ev hy];simp [go_sem,Op.intArith,Z06 hr]⟩
theorem Zhp (hx:ev e x=some (.int .i64 a)) (hy:ev e y=some (.int .i64 b)) (hr:I64 (a * b)):PR P n ⟨d,.binOp .mul t x y u,ty,pos,af,g⟩ e w (.int .i64 (a * b)):=
 ⟨fun c ha=>by simp only [execOp,ha.ev hx,ha.ev hy];simp [go_sem,Op.intArith,Z06 hr]⟩
theorem ZoI (hx:ev e x=some (.int .i64 a)) (hr:I64 (- a)):PR P n ⟨d,.unOp .neg t x,ty,pos,af,g⟩ e w (.int .i64 (- a)):=
 ⟨fun c ha=>by simp only [execOp,ha.ev hx];simp [go_sem,Op.unary,Op.intArith,Z06 hr]⟩
theorem ZoJ (hx:ev e x=some (.int .i64 a)) (hy:ev e y=some (.int .i64 b)) (hb:b≠0) (hr:I64 (a.tmod b)):PR P n ⟨d,.binOp .rem t x y u,ty,pos,af,g⟩ e w (.int .i64 (a.tmod b)):=
 ⟨fun c ha=>by simp only [execOp,ha.ev hx,ha.ev hy];simp [go_sem,Op.intDiv,hb];try rw [Z06 hr]⟩
theorem ZoK (hx:ev e x=some (.int .i64 a)) (hy:ev e y=some (.int .i64 b)) (hb:b≠0) (hr:I64 (a.tdiv b)):PR P n ⟨d,.binOp .quo t x y u,ty,pos,af,g⟩ e w (.int .i64 (a.tdiv b)):=
 ⟨fun c ha=>by simp only [execOp,ha.ev hx,ha.ev hy];simp [go_sem,Op.intDiv,hb];try rw [Z06 hr]⟩
theorem Z9S (hx:ev e x=some (.int .i64 a)) (hy:ev e y=some (.int .i64 b)) (h0:0≤a) (hb:0<b) (hr:I64 a):PR P n ⟨d,.binOp .rem t x y u,ty,pos,af,g⟩ e w (.int .i64 (a % b)):=by
 have h1:a.tmod b=a % b:=Int.tmod_eq_emod_of_nonneg h0;rw [← h1];refine ZoJ hx hy (by omega) ?_;rw [h1];have:=Ya0 a (show b≠0 by omega);have h2:a % b≤a:=by
  by_cases hab:a<b;rw [Ybq h0 hab];exact YaT _;have:=YaN a hb;omega
 unfold I64 at hr ⊢;omega
theorem Z9T (hx:ev e x=some (.int .i64 a)) (hy:ev e y=some (.int .i64 b)) (h0:0≤a) (hb:0<b) (hr:I64 a):PR P n ⟨d,.binOp .quo t x y u,ty,pos,af,g⟩ e w (.int .i64 (a / b)):=by
 have h1:a.tdiv b=a / b:=Int.tdiv_eq_ediv_of_nonneg h0;rw [← h1];refine ZoK hx hy (by omega) ?_;rw [h1];have:=Int.ediv_nonneg h0 (Int.le_of_lt hb);have h2:a / b≤a:=Int.ediv_le_self _ h0;unfold I64 at hr ⊢;omega
variable {k:IntKind}
theorem Zhq (hx:ev e x=some (.int k a)) (hy:ev e y=some (.int k b)):PR P n ⟨d,.binOp .lss t x y u,ty,pos,af,g⟩ e w (.bool (decide (a<b))):=
 ⟨fun c ha=>by simp only [execOp,ha.ev hx,ha.ev hy];simp [go_sem]⟩
theorem Zhr (hx:ev e x=some (.int k a)) (hy:ev e y=some (.int k b)):PR P n ⟨d,.binOp .leq t x y u,ty,pos,af,g⟩ e w (.bool (decide (a≤b))):=
 ⟨fun c ha=>by simp only [execOp,ha.ev hx,ha.ev hy];simp [go_sem]⟩
theorem Zhs (hx:ev e x=some (.int k a)) (hy:ev e y=some (.int k b)):PR P n ⟨d,.binOp .gtr t x y u,ty,pos,af,g⟩ e w (.bool (decide (b<a))):=
 ⟨fun c ha=>by simp only [execOp,ha.ev hx,ha.ev hy];simp [go_sem]⟩
theorem Zht (hx:ev e x=some (.int k a)) (hy:ev e y=some (.int k b)):PR P n ⟨d,.binOp .geq t x y u,ty,pos,af,g⟩ e w (.bool (decide (b≤a))):=
 ⟨fun c ha=>by simp only [execOp,ha.ev hx,ha.ev hy];simp [go_sem]⟩
theorem Zhu (hx:ev e x=some (.int k a)) (hy:ev e y=some (.int k b)):PR P n ⟨d,.binOp .eql t x y u,ty,pos,af,g⟩ e w (.bool (decide (a=b))):=
 ⟨fun c ha=>by simp only [execOp,ha.ev hx,ha.ev hy];simp [go_sem];exact YaC a b⟩
theorem Zhv (hx:ev e x=some (.int k a)) (hy:ev e y=some (.int k b)):PR P n ⟨d,.binOp .neq t x y u,ty,pos,af,g⟩ e w (.bool (decide (¬ a=b))):=
 ⟨fun c ha=>by simp only [execOp,ha.ev hx,ha.ev hy];simp [go_sem];rw [bne,YaC]⟩
theorem Zl8 {p q:Bool} [hu:Und P t .bool] (hx:ev e x=some (.bool p)) (hy:ev e y=some (.bool q)):PR P n ⟨d,.binOp .eql t x y u,ty,pos,af,g⟩ e w (.bool (decide (p=q))):=
 ⟨fun c ha=>by simp only [execOp,ha.ev hx,ha.ev hy];simp [go_sem,binOp,run_equal_bool w t p q hu.h];cases p<;>cases q<;>rfl⟩
theorem Zl9 {p q:Bool} [hu:Und P t .bool] (hx:ev e x=some (.bool p)) (hy:ev e y=some (.bool q)):PR P n ⟨d,.binOp .neq t x y u,ty,pos,af,g⟩ e w (.bool (decide (¬ p=q))):=
 ⟨fun c ha=>by simp only [execOp,ha.ev hx,ha.ev hy];simp [go_sem,binOp,run_equal_bool w t p q hu.h];cases p<;>cases q<;>rfl⟩
end arith
theorem Z7k {x:Operand} {vs:Array Value} {i:Nat} {v:Value} (hx:ev e x=some (.tuple vs)) (hv:vs[i]?=some v):PR P n ⟨d,.extract x i,ty,pos,af,g⟩ e w v:=
 ⟨fun a ha=>by simp [execOp,ha.ev hx,Instr.extract,hv]⟩
theorem Zhw {x:Operand} {t:TypeId} {el:TypeId} [hu:Und P t (.slice el)] {p:Option Addr} {l c:Nat} (hx:ev e x=some (.slice p l c)) :
 PR P n ⟨d,.call { callee:=.builtin .len,args:=#[x],argTypes:=#[t] },ty,pos,af,g⟩ e w (.int .i64 (l:Int)):=
 ⟨fun a ha => by
   have:=run_len_slice (P:=P) w t ty p l c (by rw [hu.h,Program.elem,hu.h]);simp [execOp,resolve,invoke,builtin,ha.ev hx,this,goInt]⟩
theorem Z6w {t i off:Nat} [h:Fld P t i off] (b o:Nat) (w:World):(Instr.fieldAt t (.pointer (some ⟨b,o,none⟩)) i).run P w=.ok (.pointer (some ⟨b,o+off,none⟩)) w:=by
 obtain ⟨fs,f,k,h1,h2,rfl,h3⟩:=h.h;have:Siz P f.type (k+1):=⟨h3⟩
 simp [Instr.fieldAt,run_underlying h1,h2,Instr.sureAddr,fieldPlace,Siz.run,Addr.add_lit]
theorem Z1B {x:Operand} {t:TypeId} {b o i off:Nat} [hf:Fld P t i off] (hx:ev e x=some (.pointer (some ⟨b,o,none⟩))):PR P n ⟨d,.fieldAddr t x i,ty,pos,af,g⟩ e w (.pointer (some ⟨b,o+off,none⟩)):=
 ⟨fun a ha=>by simp [execOp,ha.ev hx,Z6w]⟩
theorem Jw {x:Operand} {t:TypeId} {D:TypeDesc} {ad:Addr} {v:Value} [hu:Und P t D] (hA:JV D=false) (hx:ev e x=some (.pointer (some ad))) (hc:w.cell? ad=some v) :
 PR P n ⟨d,.load t x,ty,pos,af,g⟩ e w v:=
 ⟨fun a ha=>by simp [execOp,ha.ev hx,Instr.loadAt,Instr.sureAddr,loadVar,Und.isAgg,hA,hc]⟩
theorem Z3q {x:Operand} {t:TypeId} {D:TypeDesc} {b o k:Nat} {cs:List Value} [hu:Und P t D] (hA:JV D=true) [hs:Siz P t k] (hx:ev e x=some (.pointer (some ⟨b,o,none⟩)))
 (hl:cs.length=k) (hc:∀ j u,cs[j]?=some u→w.cell? ⟨b,o+j,none⟩=some u) :
 PR P n ⟨d,.load t x,ty,pos,af,g⟩ e w (.agg cs.toArray):=
 ⟨fun a ha => by
   have:=run_loadCells_list (P:=P) w ⟨b,o,none⟩ cs (fun j v h=>by rw [Addr.add_lit];exact hc j v h);rw [hl] at this;simp [execOp,ha.ev hx,Instr.loadAt,Instr.sureAddr,loadVar,Und.isAgg,hA,Siz.run,this]⟩
theorem Z9U {f:Nat} {x:Operand} {v:Value} (hx:ev e x=some v):PR P n ⟨d,.makeFunc (.func f) #[] #[x],ty,pos,af,g⟩ e w (.func (.func f) #[] #[v]):=
 ⟨fun a ha=>by simp [execOp,Instr.makeFunc,ha.ev hx]⟩
theorem Z9V {f:Nat} {x y:Operand} {v u:Value} (hx:ev e x=some v) (hy:ev e y=some u):PR P n ⟨d,.makeFunc (.func f) #[] #[x,y],ty,pos,af,g⟩ e w (.func (.func f) #[] #[v,u]):=
 ⟨fun a ha=>by simp [execOp,Instr.makeFunc,ha.ev hx,ha.ev hy]⟩
theorem Z9W {f:Nat} {x y z:Operand} {v u s:Value} (hx:ev e x=some v) (hy:ev e y=some u) (hz:ev e z=some s):PR P n ⟨d,.makeFunc (.func f) #[] #[x,y,z],ty,pos,af,g⟩ e w (.func (.func f) #[] #[v,u,s]):=
 ⟨fun a ha=>by simp [execOp,Instr.makeFunc,ha.ev hx,ha.ev hy,ha.ev hz]⟩
def Ret (G:Value→World→Prop) (r:Ending) (w':World):Prop:=∃ v,r=.returned v∧G v w'
theorem Ret.mk {G:Value→World→Prop} {v:Value} {w':World} (h:G v w'):Ret G (.returned v) w':=⟨v,rfl,h⟩
theorem Calls.ret {P:Program} {f:FuncId} {args:Array Value} {w:World} {G G':Value→World→Prop} (h:Calls P f args w (Ret G)) (hg:∀ v w',G v w'→G' v w'):Calls P f args w (Ret G'):=
 h.mono fun _ _ ⟨v,h1,h2⟩=>⟨v,h1,hg _ _ h2⟩
theorem Zd {f:Nat} {fn:Func} {xs:Array Operand} {ts:Array TypeId} {vs:Array Value} {G:Value→World→Prop} {c:Operand} [hf:Fun P f fn] (hc:ev e c=some (.func (.func f) #[] #[]))
 (hv:∀ a,Has n e a→xs.map a.eval=vs) (h:Calls P f vs w (Ret G)) :
 OE P n ⟨d,.call { callee:=.value c,args:=xs,argTypes:=ts },ty,pos,af,g⟩ e w G:=
 ⟨fun a ha Q => by
   have he:(execOp a.eval ⟨d,.call { callee:=.value c,args:=xs,argTypes:=ts },ty,pos,af,g⟩).run P w=.ok (.enter f vs) w:=by
    simp only [execOp,resolve,ha.ev hc,Deferred.ofValue,hv a ha];simp [invoke];exact hf.enters vs w
   unfold Oper.wp;rw [he];simp only [Oper.upon];refine h.mono ?_;rintro r w' ⟨v,rfl,hg⟩;exact ⟨v,rfl,hg⟩⟩
theorem Z0h {f:Nat} {fn:Func} {xs:Array Operand} {ts:Array TypeId} {vs cap us:Array Value} {G:Value→World→Prop} {c:Operand} [hf:Fun P f fn] (hc:ev e c=some (.func (.func f) #[] cap))
 (hv:∀ a,Has n e a→xs.map a.eval=vs) (hu:vs++cap=us) (h:Calls P f us w (Ret G)) :
 OE P n ⟨d,.call { callee:=.value c,args:=xs,argTypes:=ts },ty,pos,af,g⟩ e w G:=
 ⟨fun a ha Q => by
   have he:(execOp a.eval ⟨d,.call { callee:=.value c,args:=xs,argTypes:=ts },ty,pos,af,g⟩).run P w=.ok (.enter f us) w:=by
    simp only [execOp,resolve,ha.ev hc,Deferred.ofValue,hv a ha];simp [invoke,hu];exact hf.enters us w
   unfold Oper.wp;rw [he];simp only [Oper.upon];refine h.mono ?_;rintro r w' ⟨v,rfl,hg⟩;exact ⟨v,rfl,hg⟩⟩
theorem Z5Q:∀ a,Has n e a→(#[]:Array Operand).map a.eval=#[]:=fun a ha=>by simp
theorem ZX {x:Operand} {v:Value} (hx:ev e x=some v):∀ a,Has n e a→#[x].map a.eval=#[v]:=fun a ha=>by simp [ha.ev hx]
theorem Zh {x y:Operand} {v u:Value} (hx:ev e x=some v) (hy:ev e y=some u):∀ a,Has n e a→#[x,y].map a.eval=#[v,u]:=fun a ha=>by simp [ha.ev hx,ha.ev hy]
theorem Js {x y z:Operand} {v u s:Value} (hx:ev e x=some v) (hy:ev e y=some u) (hz:ev e z=some s):∀ a,Has n e a→#[x,y,z].map a.eval=#[v,u,s]:=fun a ha=>by simp [ha.ev hx,ha.ev hy,ha.ev hz]
theorem Z6Y {x y z k:Operand} {v u s r:Value} (hx:ev e x=some v) (hy:ev e y=some u) (hz:ev e z=some s) (hk:ev e k=some r):∀ a,Has n e a→#[x,y,z,k].map a.eval=#[v,u,s,r]:=
 fun a ha=>by simp [ha.ev hx,ha.ev hy,ha.ev hz,ha.ev hk]
theorem Zfl {x y z k l:Operand} {v u s r q:Value} (hx:ev e x=some v) (hy:ev e y=some u) (hz:ev e z=some s) (hk:ev e k=some r) (hl:ev e l=some q):∀ a,Has n e a→#[x,y,z,k,l].map a.eval=#[v,u,s,r,q]:=
 fun a ha=>by simp [ha.ev hx,ha.ev hy,ha.ev hz,ha.ev hk,ha.ev hl]
end rules
theorem mkF {P:Program} {f:Nat} {fn:Func} {c:Code} (h:P.funcs[f]?=some fn) (h2:(fn.name == "runtime.NumGoroutine")=false:=by kernel_rfl) (h3:fn.body=some c:=by exact rfl):Fun P f fn:=⟨h,enters_of h h2 h3⟩
theorem uM {P:Program} {t:Nat} {d:TypeDesc} (h:P.underlying t=some d):Und P t d:=⟨h⟩
end Go.Eng
namespace Go.Proofs.YtipfkbkkndacjaaGreatDoor
open Go Go.Eng
theorem sMz (t k:Nat) (h:(Tryz.prog.info? t).map (·.size)=some k:=by kernel_rfl):Siz Tryz.prog t k:=⟨h⟩
theorem bMz (t k:Nat) (h:(Tryz.prog.info? t).map (·.bytes)=some k:=by kernel_rfl):Byt Tryz.prog t k:=⟨h⟩
theorem zMz (t:Nat) (z:Value) (h:(Tryz.prog.info? t).bind (·.zero)=some z:=by kernel_rfl):Zer Tryz.prog t z:=⟨h⟩
theorem fMz {t:Nat} (i off k:Nat) {fs:Array Field} {f:Field} (hu:Tryz.prog.underlying t=some (.struct fs)) (h1:fs[i]?=some f:=by exact rfl) (h2:f.offset=off:=by exact rfl) (h3:(Tryz.prog.info? f.type).map (·.size)=some (k+1):=by kernel_rfl):Fld Tryz.prog t i off:=⟨fs,f,k,hu,h1,h2,h3⟩
theorem mixed:Tryz.prog.follows .mixedOrders=true:=by kernel_rfl
abbrev Zxw:=uM Tryz.underlying3
abbrev Zxx:=sMz 3 1
abbrev Zxy:=bMz 3 8
abbrev Zxz:=zMz 3 (.int .i64 0)
abbrev ZxA:=uM Tryz.underlying4
abbrev ZxB:=sMz 4 1
abbrev ZxC:=bMz 4 1
abbrev ZxD:=zMz 4 (.bool false)
abbrev ZxE:=uM Tryz.underlying5
abbrev ZxF:=sMz 5 1
abbrev ZxG:=uM Tryz.underlying9
abbrev ZxH:=sMz 9 1
abbrev ZxI:=bMz 9 16
abbrev ZxJ:=zMz 9 (.string ByteArray.empty)
abbrev ZtZ:=uM Tryz.underlying20
abbrev Zu0:=uM Tryz.underlying21
abbrev Zu1:=uM Tryz.underlying22
abbrev Zu2:=sMz 22 1
abbrev Zu3:=uM Tryz.underlying23
abbrev Zu4:=sMz 23 1
abbrev Zu5:=bMz 23 24
abbrev Zu6:=zMz 23 (.slice none 0 0)
abbrev Zu7:=uM Tryz.underlying24
abbrev Zu8:=sMz 24 1
abbrev Zu9:=zMz 24 (.slice none 0 0)
abbrev Zua:=uM Tryz.underlying25
abbrev Zub:=sMz 25 1
abbrev Zuc:=uM Tryz.underlying26
abbrev Zud:=uM Tryz.underlying27
abbrev Zue:=sMz 27 1
abbrev Zuf:=zMz 27 (.slice none 0 0)
abbrev Zug:=uM Tryz.underlying28
abbrev Zuh:=uM Tryz.underlying29
abbrev Zui:=sMz 29 1
abbrev Zuj:=uM Tryz.underlying30
abbrev Zuk:=sMz 30 1
abbrev Zul:=uM Tryz.underlying31
abbrev Zum:=sMz 31 1
abbrev Zun:=uM Tryz.underlying33
abbrev Zuo:=sMz 33 2
abbrev Zup:=zMz 33 (.agg #[.int .i64 0,.slice none 0 0])
abbrev Zla:=fMz 0 0 0 Tryz.underlying33
abbrev Zlb:=fMz 1 1 0 Tryz.underlying33
abbrev Zuq:=uM Tryz.underlying35
abbrev Zur:=sMz 35 12
abbrev Zus:=zMz 35 (.agg #[.bool false,.bool false,.bool false,.bool false,.bool false,.bool false,.bool false,.slice none 0 0,.slice none 0 0,.int .i64 0,.slice none 0 0,.int .i64 0])
abbrev Zlc:=fMz 0 0 6 Tryz.underlying35
abbrev Zld:=fMz 1 7 0 Tryz.underlying35
abbrev Zle:=fMz 2 8 0 Tryz.underlying35
abbrev Zlf:=fMz 3 9 1 Tryz.underlying35
abbrev Zlg:=fMz 4 11 0 Tryz.underlying35
abbrev Zut:=uM Tryz.underlying37
abbrev Zuu:=sMz 37 19
abbrev Zuv:=zMz 37 (.agg #[.slice none 0 0,.slice none 0 0,.slice none 0 0,.slice none 0 0,.slice none 0 0,.bool false,.bool false,.bool false,.bool false,.bool false,.bool false,.bool false,.slice none 0 0,.slice none 0 0,.int .i64 0,.slice none 0 0,.int .i64 0,.int .i64 0,.int .i64 0])
abbrev Zlh:=fMz 0 0 0 Tryz.underlying37
abbrev Zli:=fMz 1 1 0 Tryz.underlying37
abbrev Zlj:=fMz 2 2 0 Tryz.underlying37
abbrev Zlk:=fMz 3 3 0 Tryz.underlying37
abbrev Zll:=fMz 4 4 0 Tryz.underlying37
abbrev Zlm:=fMz 5 5 11 Tryz.underlying37
abbrev Zln:=fMz 6 17 0 Tryz.underlying37
abbrev Zlo:=fMz 7 18 0 Tryz.underlying37
abbrev Zuw:=uM Tryz.underlying45
abbrev Zux:=sMz 45 6
abbrev Zuy:=bMz 45 56
abbrev Zuz:=zMz 45 (.agg #[.int .i64 0,.string ByteArray.empty,.int .i64 0,.int .i64 0,.int .i64 0,.int .i64 0])
abbrev Zlp:=fMz 0 0 0 Tryz.underlying45
abbrev Zlq:=fMz 1 1 0 Tryz.underlying45
abbrev Zlr:=fMz 2 2 0 Tryz.underlying45
abbrev Zls:=fMz 3 3 0 Tryz.underlying45
abbrev Zlt:=fMz 4 4 0 Tryz.underlying45
abbrev Zlu:=fMz 5 5 0 Tryz.underlying45
abbrev ZuA:=uM Tryz.underlying47
abbrev ZuB:=sMz 47 1
abbrev ZuC:=zMz 47 (.slice none 0 0)
abbrev ZuD:=uM Tryz.underlying54
abbrev ZuE:=sMz 54 1
abbrev ZuF:=uM Tryz.underlying56
abbrev ZuG:=sMz 56 11
abbrev ZuH:=bMz 56 120
abbrev ZuI:=zMz 56 (.agg #[.string ByteArray.empty,.int .i64 0,.string ByteArray.empty,.int .i64 0,.int .i64 0,.int .i64 0,.int .i64 0,.int .i64 0,.int .i64 0,.int .i64 0,.slice none 0 0])
abbrev Zlv:=fMz 0 0 0 Tryz.underlying56
abbrev Zlw:=fMz 1 1 5 Tryz.underlying56
abbrev Zlx:=fMz 2 7 0 Tryz.underlying56
abbrev Zly:=fMz 3 8 0 Tryz.underlying56
abbrev Zlz:=fMz 4 9 0 Tryz.underlying56
abbrev ZlA:=fMz 5 10 0 Tryz.underlying56
abbrev ZuJ:=uM Tryz.underlying60
abbrev ZuK:=sMz 60 1
abbrev ZuL:=uM Tryz.underlying62
abbrev ZuM:=sMz 62 7
abbrev ZuN:=bMz 62 120
abbrev ZuO:=zMz 62 (.agg #[.string ByteArray.empty,.int .i64 0,.string ByteArray.empty,.slice none 0 0,.slice none 0 0,.string ByteArray.empty,.string ByteArray.empty])
abbrev ZlB:=fMz 0 0 0 Tryz.underlying62
abbrev ZlC:=fMz 1 1 0 Tryz.underlying62
abbrev ZlD:=fMz 2 2 0 Tryz.underlying62
abbrev ZlE:=fMz 3 3 0 Tryz.underlying62
abbrev ZlF:=fMz 4 4 0 Tryz.underlying62
abbrev ZlG:=fMz 5 5 0 Tryz.underlying62
abbrev ZlH:=fMz 6 6 0 Tryz.underlying62
abbrev ZuP:=uM Tryz.underlying67
abbrev ZuQ:=sMz 67 3
abbrev ZuR:=bMz 67 24
abbrev ZuS:=zMz 67 (.agg #[.int .i64 0,.int .i64 0,.int .i64 0])
abbrev ZuT:=uM Tryz.underlying73
abbrev ZuU:=sMz 73 3
abbrev ZuV:=bMz 73 24
abbrev ZuW:=zMz 73 (.agg #[.int .i64 0,.int .i64 0,.int .i64 0])
abbrev ZlI:=fMz 0 0 0 Tryz.underlying73
abbrev ZlJ:=fMz 1 1 0 Tryz.underlying73
abbrev ZlK:=fMz 2 2 0 Tryz.underlying73
abbrev ZuX:=uM Tryz.underlying75
abbrev ZuY:=sMz 75 2
abbrev ZuZ:=bMz 75 16
abbrev Zv0:=zMz 75 (.agg #[.int .i64 0,.int .i64 0])
abbrev ZlL:=fMz 0 0 0 Tryz.underlying75
abbrev ZlM:=fMz 1 1 0 Tryz.underlying75
abbrev Zv1:=uM Tryz.underlying76
abbrev Zv2:=sMz 76 1
abbrev Zv3:=uM Tryz.underlying78
abbrev Zv4:=sMz 78 5
abbrev Zv5:=bMz 78 56
abbrev Zv6:=zMz 78 (.agg #[.int .i64 0,.int .i64 0,.int .i64 0,.int .i64 0,.slice none 0 0])
abbrev ZlN:=fMz 0 0 0 Tryz.underlying78
abbrev ZlO:=fMz 1 1 0 Tryz.underlying78
abbrev ZlP:=fMz 2 2 0 Tryz.underlying78
abbrev ZlQ:=fMz 3 3 0 Tryz.underlying78
abbrev ZlR:=fMz 4 4 0 Tryz.underlying78
abbrev Zv7:=uM Tryz.underlying80
abbrev Zv8:=sMz 80 4
abbrev Zv9:=bMz 80 32
abbrev Zva:=zMz 80 (.agg #[.int .i64 0,.int .i64 0,.int .i64 0,.int .i64 0])
abbrev ZlS:=fMz 0 0 0 Tryz.underlying80
abbrev ZlT:=fMz 1 1 0 Tryz.underlying80
abbrev ZlU:=fMz 2 2 0 Tryz.underlying80
abbrev ZlV:=fMz 3 3 0 Tryz.underlying80
abbrev Zvb:=uM Tryz.underlying90
abbrev Zvc:=sMz 90 1
abbrev Zvd:=zMz 90 (.slice none 0 0)
abbrev Zve:=uM Tryz.underlying92
abbrev Zvf:=sMz 92 1
abbrev Zvg:=zMz 92 (.int .i64 0)
abbrev Zvh:=uM Tryz.underlying95
abbrev Zvi:=uM Tryz.underlying97
abbrev Zvj:=sMz 97 4
abbrev Zvk:=zMz 97 (.agg #[.int .i64 0,.int .i64 0,.string ByteArray.empty,.slice none 0 0])
abbrev ZlW:=fMz 0 0 0 Tryz.underlying97
abbrev ZlX:=fMz 1 1 0 Tryz.underlying97
abbrev ZlY:=fMz 2 2 0 Tryz.underlying97
abbrev ZlZ:=fMz 3 3 0 Tryz.underlying97
abbrev Zvl:=uM Tryz.underlying99
abbrev Zvm:=sMz 99 13
abbrev Zvn:=bMz 99 184
abbrev Zvo:=zMz 99 (.agg #[.string ByteArray.empty,.int .i64 0,.string ByteArray.empty,.int .i64 0,.int .i64 0,.string ByteArray.empty,.slice none 0 0,.int .i64 0,.int .i64 0,.string ByteArray.empty,.slice none 0 0,.string ByteArray.empty,.string ByteArray.empty])
abbrev Zm0:=fMz 0 0 0 Tryz.underlying99
abbrev Zm1:=fMz 1 1 0 Tryz.underlying99
abbrev Zm2:=fMz 2 2 0 Tryz.underlying99
abbrev Zm3:=fMz 3 3 3 Tryz.underlying99
abbrev Zm4:=fMz 4 7 3 Tryz.underlying99
abbrev Zm5:=fMz 5 11 0 Tryz.underlying99
abbrev Zm6:=fMz 6 12 0 Tryz.underlying99
abbrev ZoL:=uM Tryz.underlying108
abbrev ZoM:=sMz 108 1
abbrev ZoN:=zMz 108 (.map none)
abbrev ZoO:=uM Tryz.underlying113
abbrev ZoP:=sMz 113 7
abbrev ZoQ:=zMz 113 (.agg #[.int .i64 0,.int .i64 0,.int .i64 0,.int .i64 0,.int .i64 0,.int .i64 0,.int .i64 0])
abbrev Zhx:=fMz 0 0 0 Tryz.underlying113
abbrev Zhy:=fMz 1 1 0 Tryz.underlying113
abbrev Zhz:=fMz 2 2 0 Tryz.underlying113
abbrev ZhA:=fMz 3 3 0 Tryz.underlying113
abbrev ZhB:=fMz 4 4 0 Tryz.underlying113
abbrev ZhC:=fMz 5 5 0 Tryz.underlying113
abbrev ZhD:=fMz 6 6 0 Tryz.underlying113
abbrev ZoR:=uM Tryz.underlying115
abbrev ZoS:=sMz 115 3
abbrev ZoT:=bMz 115 24
abbrev ZoU:=zMz 115 (.agg #[.int .i64 0,.int .i64 0,.int .i64 0])
abbrev ZhE:=fMz 0 0 0 Tryz.underlying115
abbrev ZhF:=fMz 1 1 0 Tryz.underlying115
abbrev ZhG:=fMz 2 2 0 Tryz.underlying115
abbrev ZoV:=uM Tryz.underlying128
abbrev ZoW:=uM Tryz.underlying132
abbrev ZoX:=sMz 132 3
abbrev ZoY:=zMz 132 (.agg #[.int .i64 0,.int .i64 0,.int .i64 0])
abbrev ZhH:=fMz 0 0 0 Tryz.underlying132
abbrev ZhI:=fMz 1 1 0 Tryz.underlying132
abbrev ZhJ:=fMz 2 2 0 Tryz.underlying132
abbrev ZoZ:=uM Tryz.underlying138
abbrev Zp0:=sMz 138 9
abbrev Zp1:=bMz 138 72
abbrev Zp2:=zMz 138 (.agg #[.int .i64 0,.int .i64 0,.int .i64 0,.int .i64 0,.int .i64 0,.int .i64 0,.int .i64 0,.int .i64 0,.int .i64 0])
abbrev ZhK:=fMz 0 0 0 Tryz.underlying138
abbrev ZhL:=fMz 1 1 0 Tryz.underlying138
abbrev ZhM:=fMz 2 2 0 Tryz.underlying138
abbrev ZhN:=fMz 3 3 0 Tryz.underlying138
abbrev ZhO:=fMz 4 4 0 Tryz.underlying138
abbrev ZhP:=fMz 5 5 0 Tryz.underlying138
abbrev ZhQ:=fMz 6 6 0 Tryz.underlying138
abbrev ZhR:=fMz 7 7 0 Tryz.underlying138
abbrev ZhS:=fMz 8 8 0 Tryz.underlying138
abbrev Zp3:=sMz 141 2
abbrev Zp4:=bMz 141 16
abbrev Zp5:=zMz 141 (.agg #[.int .i64 0,.int .i64 0])
abbrev ZhT:=fMz 0 0 0 Tryz.underlying141
abbrev Zp6:=uM Tryz.underlying143
abbrev Zp7:=sMz 143 2
abbrev Zp8:=bMz 143 16
abbrev Zp9:=zMz 143 (.agg #[.int .i64 0,.int .i64 0])
abbrev ZhU:=fMz 0 0 0 Tryz.underlying143
abbrev ZhV:=fMz 1 1 0 Tryz.underlying143
abbrev ZhW:=fMz 0 0 0 Tryz.underlying146
abbrev ZhX:=fMz 1 1 0 Tryz.underlying146
abbrev Zpa:=uM Tryz.underlying153
abbrev Zpb:=uM Tryz.underlying160
abbrev Zpc:=uM Tryz.underlying164
abbrev ZhY:=fMz 0 0 6 Tryz.underlying167
abbrev ZhZ:=fMz 1 7 11 Tryz.underlying167
abbrev Zi0:=fMz 2 19 0 Tryz.underlying167
abbrev Zi1:=fMz 3 20 0 Tryz.underlying167
abbrev Zi2:=fMz 4 21 0 Tryz.underlying167
abbrev Zi3:=fMz 5 22 0 Tryz.underlying167
abbrev Zi4:=fMz 6 23 0 Tryz.underlying167
abbrev Zi5:=fMz 7 24 0 Tryz.underlying167
abbrev Zpd:=uM Tryz.underlying168
abbrev Zpe:=uM Tryz.underlying171
abbrev Zpf:=sMz 171 2
abbrev Zpg:=bMz 171 16
abbrev Zph:=zMz 171 (.agg #[.int .i64 0,.int .i64 0])
abbrev Zi6:=fMz 0 0 0 Tryz.underlying171
abbrev Zi7:=fMz 1 1 0 Tryz.underlying171
abbrev Zpi:=zMz 172 (.nilFunc)
abbrev Zpj:=uM Tryz.underlying183
abbrev Zpk:=sMz 183 4
abbrev Zpl:=bMz 183 40
abbrev Zpm:=zMz 183 (.agg #[.int .i64 0,.int .i64 0,.string ByteArray.empty,.int .i64 0])
abbrev Zi8:=fMz 0 0 0 Tryz.underlying183
abbrev Zi9:=fMz 1 1 0 Tryz.underlying183
abbrev Zia:=fMz 2 2 0 Tryz.underlying183
abbrev Zib:=fMz 3 3 0 Tryz.underlying183
abbrev Zpn:=uM Tryz.underlying184
abbrev Zic:=fMz 0 0 0 Tryz.underlying186
abbrev Zid:=fMz 1 1 0 Tryz.underlying186
abbrev Zpo:=uM Tryz.underlying192
abbrev Zpp:=uM Tryz.underlying197
abbrev Zpq:=uM Tryz.underlying235
abbrev Zpr:=sMz 235 2
abbrev Zps:=zMz 235 (.agg #[.int .i64 0,.int .i64 0])
abbrev Zie:=fMz 0 0 0 Tryz.underlying235
abbrev Zif:=fMz 1 1 0 Tryz.underlying235
abbrev Zpt:=zMz 244 (.agg #[.slice none 0 0])
abbrev Zig:=fMz 0 0 0 Tryz.underlying244
abbrev Zpu:=uM Tryz.underlying259
abbrev Zpv:=uM Tryz.underlying262
abbrev Zpw:=sMz 262 8
abbrev Zpx:=zMz 262 (.agg #[.int .i64 0,.bool false,.int .i64 0,.string ByteArray.empty,.int .i64 0,.int .i64 0,.int .i64 0,.int .i64 0])
abbrev Zih:=fMz 0 0 0 Tryz.underlying262
abbrev Zii:=fMz 1 1 0 Tryz.underlying262
abbrev Zij:=fMz 2 2 5 Tryz.underlying262
abbrev Zpy:=uM Tryz.underlying263
abbrev Zpz:=uM Tryz.underlying265
abbrev ZpA:=uM Tryz.underlying268
abbrev ZpB:=uM Tryz.underlying282
abbrev ZpC:=sMz 282 7
abbrev ZpD:=zMz 282 (.agg #[.int .i64 0,.int .i64 0,.int .i64 0,.int .i64 0,.int .i64 0,.int .i64 0,.int .i64 0])
abbrev ZpE:=uM Tryz.underlying295
abbrev ZpF:=uM Tryz.underlying312
abbrev ZpG:=uM Tryz.underlying313
abbrev Zik:=fMz 0 0 0 Tryz.underlying318
abbrev Zil:=fMz 1 1 0 Tryz.underlying318
abbrev Zim:=fMz 2 2 0 Tryz.underlying318
abbrev ZpH:=uM Tryz.underlying322
abbrev ZpI:=sMz 324 2
abbrev Zin:=fMz 1 1 0 Tryz.underlying324
abbrev ZpJ:=uM Tryz.underlying325
abbrev ZpK:=sMz 325 8
abbrev ZpL:=zMz 325 (.agg #[.nilFunc,.nilFunc,.nilFunc,.nilFunc,.nilFunc,.nilFunc,.nilFunc,.nilFunc])
abbrev ZpM:=uM Tryz.underlying329
abbrev ZpN:=zMz 329 (.agg #[.int .i64 0,.int .i64 0,.int .i64 0,.int .i64 0,.int .i64 0,.int .i64 0,.int .i64 0,.int .i64 0,.int .i64 0,.int .i64 0,.int .i64 0,.int .i64 0,.int .i64 0,.int .i64 0,.int .i64 0,.int .i64 0,.int .i64 0,.int .i64 0,.int .i64 0,.int .i64 0,.int .i64 0,.int .i64 0,.int .i64 0,.int .i64 0,.int .i64 0,.int .i64 0,.int .i64 0,.int .i64 0,.int .i64 0,.int .i64 0,.int .i64 0,.int .i64 0])
abbrev ZpO:=uM Tryz.underlying342
abbrev ZpP:=uM Tryz.underlying345
abbrev ZpQ:=sMz 345 2
abbrev ZpR:=bMz 345 16
abbrev ZpS:=zMz 345 (.agg #[.int .i64 0,.int .i64 0])
abbrev Zio:=fMz 0 0 0 Tryz.underlying345
abbrev ZpT:=uM Tryz.underlying350
abbrev ZpU:=sMz 350 3
abbrev ZpV:=zMz 350 (.agg #[.int .i64 0,.int .i64 0,.int .i64 0])
abbrev ZpW:=uM Tryz.underlying352
abbrev ZpX:=uM Tryz.underlying357
abbrev ZpY:=uM Tryz.underlying371
abbrev ZpZ:=uM Tryz.underlying374
abbrev Zq0:=uM Tryz.underlying378
abbrev Zvp:=mkF Tryz.func10
abbrev Zvq:=mkF Tryz.func11
abbrev Zvr:=mkF Tryz.func12
abbrev Zvs:=mkF Tryz.func13
abbrev Zvt:=mkF Tryz.func15
abbrev Zvu:=mkF Tryz.func17
abbrev Zvv:=mkF Tryz.func18
abbrev Zvw:=mkF Tryz.func19
abbrev Zvx:=mkF Tryz.func20
abbrev Zvy:=mkF Tryz.func21
abbrev Zvz:=mkF Tryz.func24
abbrev ZvA:=mkF Tryz.func25
abbrev ZvB:=mkF Tryz.func26
abbrev ZvC:=mkF Tryz.func28
abbrev ZvD:=mkF Tryz.func29
abbrev ZvE:=mkF Tryz.func31
abbrev ZvF:=mkF Tryz.func32
abbrev ZvG:=mkF Tryz.func33
abbrev ZvH:=mkF Tryz.func34
abbrev ZvI:=mkF Tryz.func35
abbrev ZvJ:=mkF Tryz.func36
abbrev ZvK:=mkF Tryz.func37
abbrev ZvL:=mkF Tryz.func38
abbrev ZvM:=mkF Tryz.func39
abbrev ZvN:=mkF Tryz.func40
abbrev ZvO:=mkF Tryz.func41
abbrev ZvP:=mkF Tryz.func42
abbrev ZvQ:=mkF Tryz.func43
abbrev ZvR:=mkF Tryz.func44
abbrev ZvS:=mkF Tryz.func45
abbrev ZvT:=mkF Tryz.func46
abbrev ZvU:=mkF Tryz.func47
abbrev ZvV:=mkF Tryz.func48
abbrev ZvW:=mkF Tryz.func49
abbrev ZvX:=mkF Tryz.func50
abbrev ZvY:=mkF Tryz.func51
abbrev ZvZ:=mkF Tryz.func52
abbrev Zw0:=mkF Tryz.func53
abbrev Zw1:=mkF Tryz.func54
abbrev Zw2:=mkF Tryz.func55
abbrev Zw3:=mkF Tryz.func56
abbrev Zw4:=mkF Tryz.func58
abbrev Zw5:=mkF Tryz.func59
abbrev Zw6:=mkF Tryz.func60
abbrev Zw7:=mkF Tryz.func64
abbrev Zw8:=mkF Tryz.func65
abbrev Zw9:=mkF Tryz.func66
abbrev Zwa:=mkF Tryz.func67
abbrev Zwb:=mkF Tryz.func68
abbrev Zwc:=mkF Tryz.func69
abbrev Zwd:=mkF Tryz.func70
abbrev Zwe:=mkF Tryz.func71
abbrev Zwf:=mkF Tryz.func74
abbrev Zwg:=mkF Tryz.func75
abbrev Zwh:=mkF Tryz.func76
abbrev Zwi:=mkF Tryz.func77
abbrev Zwj:=mkF Tryz.func78
abbrev Zwk:=mkF Tryz.func79
abbrev Zwl:=mkF Tryz.func80
abbrev Zwm:=mkF Tryz.func81
abbrev Zwn:=mkF Tryz.func82
abbrev Zwo:=mkF Tryz.func83
abbrev Zwp:=mkF Tryz.func84
abbrev Zwq:=mkF Tryz.func85
abbrev Zwr:=mkF Tryz.func86
abbrev Zws:=mkF Tryz.func87
abbrev Zwt:=mkF Tryz.func89
abbrev Zwu:=mkF Tryz.func90
abbrev Zwv:=mkF Tryz.func91
abbrev Zww:=mkF Tryz.func92
abbrev Zwx:=mkF Tryz.func93
abbrev Zwy:=mkF Tryz.func96
abbrev Zq1:=mkF Tryz.func101
abbrev Zq2:=mkF Tryz.func102
abbrev Zq3:=mkF Tryz.func103
abbrev Zq4:=mkF Tryz.func104
abbrev Zq5:=mkF Tryz.func105
abbrev Zq6:=mkF Tryz.func106
abbrev Zq7:=mkF Tryz.func107
abbrev Zq8:=mkF Tryz.func108
abbrev Zq9:=mkF Tryz.func109
abbrev Zqa:=mkF Tryz.func110
abbrev Zqb:=mkF Tryz.func111
abbrev Zqc:=mkF Tryz.func112
abbrev Zqd:=mkF Tryz.func113
abbrev Zqe:=mkF Tryz.func114
abbrev Zqf:=mkF Tryz.func125
abbrev Zqg:=mkF Tryz.func126
abbrev Zqh:=mkF Tryz.func127
abbrev Zqi:=mkF Tryz.func128
abbrev Zqj:=mkF Tryz.func129
abbrev Zqk:=mkF Tryz.func130
abbrev Zql:=mkF Tryz.func131
abbrev Zqm:=mkF Tryz.func132
abbrev Zqn:=mkF Tryz.func133
abbrev Zqo:=mkF Tryz.func134
abbrev Zqp:=mkF Tryz.func135
abbrev Zqq:=mkF Tryz.func136
abbrev Zqr:=mkF Tryz.func137
abbrev Zqs:=mkF Tryz.func138
abbrev Zqt:=mkF Tryz.func139
abbrev Zqu:=mkF Tryz.func140
abbrev Zqv:=mkF Tryz.func141
abbrev Zqw:=mkF Tryz.func142
abbrev Zqx:=mkF Tryz.func143
abbrev Zqy:=mkF Tryz.func144
abbrev Zqz:=mkF Tryz.func145
abbrev ZqA:=mkF Tryz.func146
abbrev ZqB:=mkF Tryz.func147
abbrev ZqC:=mkF Tryz.func148
abbrev ZqD:=mkF Tryz.func149
abbrev ZqE:=mkF Tryz.func150
abbrev ZqF:=mkF Tryz.func151
abbrev ZqG:=mkF Tryz.func153
abbrev ZqH:=mkF Tryz.func155
abbrev ZqI:=mkF Tryz.func156
abbrev ZqJ:=mkF Tryz.func157
abbrev ZqK:=mkF Tryz.func158
abbrev ZqL:=mkF Tryz.func159
abbrev ZqM:=mkF Tryz.func160
abbrev ZqN:=mkF Tryz.func161
abbrev ZqO:=mkF Tryz.func162
abbrev ZqP:=mkF Tryz.func163
abbrev ZqQ:=mkF Tryz.func164
abbrev ZqR:=mkF Tryz.func165
abbrev ZqS:=mkF Tryz.func166
abbrev ZqT:=mkF Tryz.func167
abbrev ZqU:=mkF Tryz.func168
abbrev ZqV:=mkF Tryz.func169
abbrev ZqW:=mkF Tryz.func170
abbrev ZqX:=mkF Tryz.func171
abbrev ZqY:=mkF Tryz.func178
abbrev ZqZ:=mkF Tryz.func179
abbrev Zr0:=mkF Tryz.func180
abbrev Zr1:=mkF Tryz.func181
abbrev Zr2:=mkF Tryz.func182
abbrev Zr3:=mkF Tryz.func183
abbrev Zr4:=mkF Tryz.func184
abbrev Zr5:=mkF Tryz.func185
abbrev Zr6:=mkF Tryz.func186
abbrev Zr7:=mkF Tryz.func187
abbrev Zr8:=mkF Tryz.func188
abbrev Zr9:=mkF Tryz.func189
abbrev Zra:=mkF Tryz.func190
abbrev Zrb:=mkF Tryz.func191
abbrev Zrc:=mkF Tryz.func192
abbrev Zrd:=mkF Tryz.func193
abbrev Zre:=mkF Tryz.func194
abbrev Zrf:=mkF Tryz.func195
abbrev Zrg:=mkF Tryz.func201
abbrev Zrh:=mkF Tryz.func202
abbrev Zri:=mkF Tryz.func203
abbrev Zrj:=mkF Tryz.func204
abbrev Zrk:=mkF Tryz.func205
abbrev Zrl:=mkF Tryz.func206
abbrev Zrm:=mkF Tryz.func207
abbrev Zrn:=mkF Tryz.func208
abbrev Zro:=mkF Tryz.func209
abbrev Zrp:=mkF Tryz.func210
abbrev Zrq:=mkF Tryz.func213
abbrev Zrr:=mkF Tryz.func214
abbrev Zrs:=mkF Tryz.func215
abbrev Zrt:=mkF Tryz.func216
abbrev Zru:=mkF Tryz.func217
abbrev Zrv:=mkF Tryz.func218
abbrev Zrw:=mkF Tryz.func219
abbrev Zrx:=mkF Tryz.func220
abbrev Zry:=mkF Tryz.func221
abbrev Zrz:=mkF Tryz.func222
abbrev ZrA:=mkF Tryz.func223
abbrev ZrB:=mkF Tryz.func224
abbrev ZrC:=mkF Tryz.func225
abbrev ZrD:=mkF Tryz.func226
abbrev ZrE:=mkF Tryz.func227
abbrev ZrF:=mkF Tryz.func228
abbrev ZrG:=mkF Tryz.func229
abbrev ZrH:=mkF Tryz.func230
abbrev ZrI:=mkF Tryz.func231
abbrev ZrJ:=mkF Tryz.func234
abbrev ZrK:=mkF Tryz.func241
abbrev ZrL:=mkF Tryz.func242
abbrev ZrM:=mkF Tryz.func243
abbrev ZrN:=mkF Tryz.func244
abbrev ZrO:=mkF Tryz.func245
abbrev ZrP:=mkF Tryz.func246
abbrev ZrQ:=mkF Tryz.func247
abbrev ZrR:=mkF Tryz.func248
abbrev ZrS:=mkF Tryz.func249
abbrev ZrT:=mkF Tryz.func250
abbrev ZrU:=mkF Tryz.func251
abbrev ZrV:=mkF Tryz.func252
abbrev ZrW:=mkF Tryz.func253
abbrev ZrX:=mkF Tryz.func254
abbrev ZrY:=mkF Tryz.func256
abbrev ZrZ:=mkF Tryz.func257
abbrev Zs0:=mkF Tryz.func258
abbrev Zs1:=mkF Tryz.func259
abbrev Zs2:=mkF Tryz.func260
abbrev Zs3:=mkF Tryz.func261
abbrev Zs4:=mkF Tryz.func262
abbrev Zs5:=mkF Tryz.func263
abbrev Zs6:=mkF Tryz.func272
abbrev Zs7:=mkF Tryz.func273
abbrev Zs8:=mkF Tryz.func274
abbrev Zs9:=mkF Tryz.func275
abbrev Zsa:=mkF Tryz.func276
abbrev Zsb:=mkF Tryz.func277
abbrev Zsc:=mkF Tryz.func279
abbrev Zsd:=mkF Tryz.func280
abbrev Zse:=mkF Tryz.func282
abbrev Zsf:=mkF Tryz.func283
abbrev Zsg:=mkF Tryz.func284
abbrev Zsh:=mkF Tryz.func285
abbrev Zsi:=mkF Tryz.func290
abbrev Zsj:=mkF Tryz.func295
abbrev Zsk:=mkF Tryz.func296
abbrev Zsl:=mkF Tryz.func297
abbrev Zsm:=mkF Tryz.func298
abbrev Zsn:=mkF Tryz.func299
abbrev Zso:=mkF Tryz.func300
abbrev Zsp:=mkF Tryz.func301
abbrev Zsq:=mkF Tryz.func303
abbrev Zsr:=mkF Tryz.func304
abbrev Zss:=mkF Tryz.func306
abbrev Zst:=mkF Tryz.func307
abbrev Zsu:=mkF Tryz.func309
abbrev Zsv:=mkF Tryz.func311
abbrev Zsw:=mkF Tryz.func312
abbrev Zsx:=mkF Tryz.func314
abbrev Zsy:=mkF Tryz.func318
abbrev Zsz:=mkF Tryz.func319
abbrev ZsA:=mkF Tryz.func321
abbrev ZsB:=mkF Tryz.func326
abbrev ZsC:=mkF Tryz.func333
abbrev ZsD:=mkF Tryz.func334
abbrev ZsE:=mkF Tryz.func335
abbrev ZsF:=mkF Tryz.func336
abbrev ZsG:=mkF Tryz.func347
abbrev ZsH:=mkF Tryz.func356
abbrev ZsI:=mkF Tryz.func360
abbrev CC (f:Nat) (a:Array Value) (w:World) (G:Value→World→Prop):=Calls Tryz.prog f a w (Ret G)
attribute [instance] Zxw ZxA ZxE ZxG ZtZ Zu0 Zu1 Zu3 Zu7 Zua Zuc Zud Zug Zuh Zuj Zul Zun Zuq Zut Zuw ZuA ZuD ZuF ZuJ ZuL ZuP ZuT ZuX Zv1 Zv3 Zv7 Zvb Zve Zvh Zvi Zvl ZoL ZoO ZoR ZoV ZoW ZoZ Zp6 Zpa Zpb Zpc Zpd Zpe Zpj Zpn Zpo Zpp Zpq Zpu Zpv Zpy Zpz ZpA ZpB ZpE ZpF ZpG ZpH ZpJ ZpM ZpO ZpP ZpT ZpW ZpX ZpY ZpZ Zq0 Zvp Zvq Zvr Zvs Zvt Zvu Zvv Zvw Zvx Zvy Zvz ZvA ZvB ZvC ZvD ZvE ZvF ZvG ZvH ZvI ZvJ ZvK ZvL ZvM ZvN ZvO ZvP ZvQ ZvR ZvS ZvT ZvU ZvV ZvW ZvX ZvY ZvZ Zw0 Zw1 Zw2 Zw3 Zw4 Zw5 Zw6 Zw7 Zw8 Zw9 Zwa Zwb Zwc Zwd Zwe Zwf Zwg Zwh Zwi Zwj Zwk Zwl Zwm Zwn Zwo Zwp Zwq Zwr Zws Zwt Zwu Zwv Zww Zwx Zwy Zq1 Zq2 Zq3 Zq4 Zq5 Zq6 Zq7 Zq8 Zq9 Zqa Zqb Zqc Zqd Zqe Zqf Zqg Zqh Zqi Zqj Zqk Zql Zqm Zqn Zqo Zqp Zqq Zqr Zqs Zqt Zqu Zqv Zqw Zqx Zqy Zqz ZqA ZqB ZqC ZqD ZqE ZqF ZqG ZqH ZqI ZqJ ZqK ZqL ZqM ZqN ZqO ZqP ZqQ ZqR ZqS ZqT ZqU ZqV ZqW ZqX ZqY ZqZ Zr0 Zr1 Zr2 Zr3 Zr4 Zr5 Zr6 Zr7 Zr8 Zr9 Zra Zrb Zrc Zrd Zre Zrf Zrg Zrh Zri Zrj Zrk Zrl Zrm Zrn Zro Zrp Zrq Zrr Zrs Zrt Zru Zrv Zrw Zrx Zry Zrz ZrA ZrB ZrC ZrD ZrE ZrF ZrG ZrH ZrI ZrJ ZrK ZrL ZrM ZrN ZrO ZrP ZrQ ZrR ZrS ZrT ZrU ZrV ZrW ZrX ZrY ZrZ Zs0 Zs1 Zs2 Zs3 Zs4 Zs5 Zs6 Zs7 Zs8 Zs9 Zsa Zsb Zsc Zsd Zse Zsf Zsg Zsh Zsi Zsj Zsk Zsl Zsm Zsn Zso Zsp Zsq Zsr Zss Zst Zsu Zsv Zsw Zsx Zsy Zsz ZsA ZsB ZsC ZsD ZsE ZsF ZsG ZsH ZsI Zxx Zxy Zxz ZxB ZxC ZxD ZxF ZxH ZxI ZxJ Zu2 Zu4 Zu5 Zu6 Zu8 Zu9 Zub Zue Zuf Zui Zuk Zum Zuo Zup Zla Zlb Zur Zus Zlc Zld Zle Zlf Zlg Zuu Zuv Zlh Zli Zlj Zlk Zll Zlm Zln Zlo Zux Zuy Zuz Zlp Zlq Zlr Zls Zlt Zlu ZuB ZuC ZuE ZuG ZuH ZuI Zlv Zlw Zlx Zly Zlz ZlA ZuK ZuM ZuN ZuO ZlB ZlC ZlD ZlE ZlF ZlG ZlH ZuQ ZuR ZuS ZuU ZuV ZuW ZlI ZlJ ZlK ZuY ZuZ Zv0 ZlL ZlM Zv2 Zv4 Zv5 Zv6 ZlN ZlO ZlP ZlQ ZlR Zv8 Zv9 Zva ZlS ZlT ZlU ZlV Zvc Zvd Zvf Zvg Zvj Zvk ZlW ZlX ZlY ZlZ Zvm Zvn Zvo Zm0 Zm1 Zm2 Zm3 Zm4 Zm5 Zm6 ZoM ZoN ZoP ZoQ Zhx Zhy Zhz ZhA ZhB ZhC ZhD ZoS ZoT ZoU ZhE ZhF ZhG ZoX ZoY ZhH ZhI ZhJ Zp0 Zp1 Zp2 ZhK ZhL ZhM ZhN ZhO ZhP ZhQ ZhR ZhS Zp3 Zp4 Zp5 ZhT Zp7 Zp8 Zp9 ZhU ZhV ZhW ZhX ZhY ZhZ Zi0 Zi1 Zi2 Zi3 Zi4 Zi5 Zpf Zpg Zph Zi6 Zi7 Zpi Zpk Zpl Zpm Zi8 Zi9 Zia Zib Zic Zid Zpr Zps Zie Zif Zpt Zig Zpw Zpx Zih Zii Zij ZpC ZpD Zik Zil Zim ZpI Zin ZpK ZpL ZpN ZpQ ZpR ZpS Zio ZpU ZpV
end Go.Proofs.YtipfkbkkndacjaaGreatDoor
namespace Go.Eng
open Go Go.RowKit Go.Proofs
structure Stp (S:List Nat) (w w':World):Prop where
 os:w'.os=w.os
 tape:w'.tape=w.tape
 output:w'.output=w.output
 size:w.heap.size≤w'.heap.size
 block:∀ b,b<w.heap.size→b∉S→w'.heap[b]?=w.heap[b]?
theorem Stp.refl (S:List Nat) (w:World):Stp S w w:=⟨rfl,rfl,rfl,Xn _,fun _ _ _=>rfl⟩
theorem Stp.trans {S:List Nat} {a b c:World} (h:Stp S a b) (k:Stp S b c):Stp S a c:=
 ⟨k.os.trans h.os,k.tape.trans h.tape,k.output.trans h.output,Xg h.size k.size,fun i hi hn=>(k.block i (Xa hi h.size) hn).trans (h.block i hi hn)⟩
theorem Stp.mono {S S':List Nat} {a b:World} (h:Stp S a b) (hs:∀ x∈S,x∈S'):Stp S' a b:=⟨h.os,h.tape,h.output,h.size,fun i hi hn=>h.block i hi (fun hx=>hn (hs i hx))⟩
theorem Stp.own {S S':List Nat} {a b c:World} (h:Stp S a b) (k:Stp S' b c) (hs:∀ x∈S',x∈S∨a.heap.size≤x):Stp S a c:=
 ⟨k.os.trans h.os, k.tape.trans h.tape, k.output.trans h.output, Xg h.size k.size, fun i hi hn => (k.block i (Xa hi h.size) (fun hx => by
   rcases hs i hx with h1|h1
   exact hn h1;omega)).trans (h.block i hi hn)⟩
theorem Stp.below {a b:World} (h:Stp [] a b):Below a.heap.size a b:=⟨h.os,h.tape,h.output,h.size,fun i hi=>h.block i hi (by simp)⟩
theorem Stp.of_below {a b:World} (h:Below a.heap.size a b):Stp [] a b:=⟨h.os,h.tape,h.output,h.size,fun i hi _=>h.block i hi⟩
theorem Stp.cell {S:List Nat} {w w':World} (h:Stp S w w') {b o:Nat} {v:Value} (hb:b∉S) (hc:w.cell? ⟨b,o,none⟩=some v):w'.cell? ⟨b,o,none⟩=some v:=by
 have hlt:b<w.heap.size:=block_lt_of_cell (a:=⟨b,o,none⟩) hc;rw [← hc];exact World.cell?_of_block (w:=w) (h.block b hlt hb)
theorem Stp.drew (S:List Nat) (w:World):Stp S w w.drew:=⟨rfl,rfl,rfl,Xn _,fun _ _ _=>rfl⟩
theorem Stp.alloc (S:List Nat) (w:World) (o:Obj):Stp S w (w.alloc o):=⟨rfl,rfl,rfl,by simp,fun k hk _=>Below.heap_alloc w o k hk⟩
theorem Stp.of_grown {w w':World} {row:Option Nat} (h:w.grownBy w' row):Stp row.toList w w':=
 ⟨h.os,h.tape,h.output,h.size,fun k hk hn=>h.block k hk (fun e=>hn (by simp [← e]))⟩
class Z7 (α:Type) where
 k:Nat
 rep:List Nat→World→α→List Value→Prop
 len:∀ {X:List Nat} {w:World} {x:α} {cs:List Value},rep X w x cs→cs.length=k
 one:∀ {X:List Nat} {w:World} {x:α} {cs:List Value},rep X w x cs→∀ u∈cs,u.oneCell'=true
 ext:∀ {X S X':List Nat} {w w':World} {x:α} {cs:List Value},rep X w x cs→Stp S w w'→(∀ b∈S,b∈X)→(∀ b∈X',b∈X∨w.heap.size≤b)→rep X' w' x cs
class Z3 (α:Type) where
 k:Nat
 enc:α→List Value
 len:∀ x,(enc x).length=k
 one:∀ x,∀ u∈enc x,u.oneCell'=true
instance {α:Type} [Z3 α]:Z7 α where
 k:=Z3.k α
 rep:=fun _ _ x cs=>cs=Z3.enc x
 len:=fun h=>h ▸ Z3.len _
 one:=fun h=>h ▸ Z3.one _
 ext:=fun h _ _ _=>h
instance:Z3 Int where
 k:=1
 enc:=fun x=>[.int .i64 x]
 len:=fun _=>rfl
 one:=by intro x u hu;simp at hu;subst hu;rfl
instance:Z3 Bool where
 k:=1
 enc:=fun x=>[.bool x]
 len:=fun _=>rfl
 one:=by intro x u hu;simp at hu;subst hu;rfl
def SlV {α:Type} [Z7 α] (X:List Nat) (w:World) (v:Value) (xs:List α):Prop:=
 ∃ (p : Option Addr) (c : Nat), v = .slice p xs.length c ∧ xs.length ≤ c ∧ c ≤ maxLen ∧ (p = none → c = 0)∧
   ∀ i (h:i<xs.length),∃ b o cs,p=some ⟨b,o,none⟩∧b<w.heap.size∧b∉X∧Z7.rep X w xs[i] cs∧∀ j u,cs[j]?=some u→w.cell? ⟨b,o+i * Z7.k α+j,none⟩=some u
theorem SlV.ext {α:Type} [Z7 α] {X S X':List Nat} {w w':World} {v:Value} {xs:List α} (h:SlV X w v xs) (hS:Stp S w w') (h1:∀ b∈S,b∈X) (h2:∀ b∈X',b∈X∨w.heap.size≤b):SlV X' w' v xs:=by
 obtain ⟨p,c,hv,hl,hm,hn,hc⟩:=h;refine ⟨p,c,hv,hl,hm,hn,fun i hi=>?_⟩;obtain ⟨b,o,cs,hp,hb,hx,hr,hcell⟩:=hc i hi;refine ⟨b,o,cs,hp,Xa hb hS.size,fun hbx=>?_,Z7.ext hr hS h1 h2,fun j u hu=>hS.cell (fun hbs=>hx (h1 b hbs)) (hcell j u hu)⟩;rcases h2 b hbx with h|h
 exact hx h;omega
theorem SlV.up {α:Type} [Z7 α] {X:List Nat} {w w':World} {v:Value} {xs:List α} (h:SlV X w v xs) (hS:Stp [] w w'):SlV X w' v xs:=
 h.ext hS (by simp) (fun b hb=>.inl hb)
theorem SlV.len {α:Type} [Z7 α] {X:List Nat} {w:World} {v:Value} {xs:List α} (h:SlV X w v xs):∃ p c,v=.slice p xs.length c:=let ⟨p,c,hv,_⟩:=h;⟨p,c,hv⟩
theorem SlV.cells {α:Type} [Z7 α] {X:List Nat} {w:World} {v:Value} {xs:List α} (h:SlV X w v xs):v.cells.toList=[v]:=by
 obtain ⟨p,c,rfl⟩:=h.len;rfl
theorem SlV.one {α:Type} [Z7 α] {X:List Nat} {w:World} {v:Value} {xs:List α} (h:SlV X w v xs):v.oneCell'=true:=by
 obtain ⟨p,c,rfl⟩:=h.len;rfl
theorem SlV.max {α:Type} [Z7 α] {X:List Nat} {w:World} {v:Value} {xs:List α} (h:SlV X w v xs):xs.length≤9223372036854775807:=by
 obtain ⟨p,c,hv,hl,hm,_⟩:=h;simp only [maxLen] at hm;omega
def Zp (v:Value) (i k j:Nat):Addr:=
 match v with
 | .slice (some a) _ _=>⟨a.block,a.off+i * k+j,none⟩
 | _=>⟨0,0,none⟩
def Blk (w:World) (b:Nat) (T:TypeId) (cs:List Value):Prop:=w.heap[b]?=some (.cells cs.toArray T (0,0))
theorem Blk.lt {w:World} {b T:Nat} {cs:List Value} (h:Blk w b T cs):b<w.heap.size:=(Xk.1 h).1
theorem Blk.ext {w w':World} {S:List Nat} {b T:Nat} {cs:List Value} (h:Blk w b T cs) (hS:Stp S w w') (hb:b∉S):Blk w' b T cs:=by
 unfold Blk at *;rw [hS.block b (Blk.lt h) hb];exact h
theorem Blk.up {w w':World} {b T:Nat} {cs:List Value} (h:Blk w b T cs) (hS:Stp [] w w'):Blk w' b T cs:=h.ext hS (by simp)
theorem Blk.cell {w:World} {b T:Nat} {cs:List Value} (h:Blk w b T cs) {j:Nat} {u:Value} (hu:cs[j]?=some u):w.cell? ⟨b,j,none⟩=some u:=by
 unfold Blk at h;simp [World.cell?,h,hu]
section rules
variable {P:Program} {n:Nat} {e:Env} {w:World} {d:Option Nat} {ty:TypeId} {pos:String} {af:Array Edge} {g:Option (Nat×Bool)}
theorem Zes {α:Type} [Z7 α] {X:List Nat} {xs:List α} {v:Value} {x:Operand} {t:TypeId} {el:TypeId} {w₀:World} [hu:Und P t (.slice el)] (hx:ev e x=some v) (hs:SlV X w₀ v xs) :
 PR P n ⟨d,.call { callee:=.builtin .len,args:=#[x],argTypes:=#[t] },ty,pos,af,g⟩ e w (.int .i64 (xs.length:Int)):=by
 obtain ⟨p,c,rfl⟩:=hs.len;exact Zhw hx
theorem Z7l {α:Type} [Z7 α] {X:List Nat} {xs:List α} {v:Value} {x y:Operand} {t:TypeId} {el k:Nat} [hu:Und P t (.slice el)] [hk:Siz P el k] {z:Int} {i:Nat} {w₀:World}
 (hx:ev e x=some v) (hs:SlV X w₀ v xs) (hy:ev e y=some (.int .i64 z)) (hz:z=(i:Int)) (hi:i<xs.length) :
 PR P n ⟨d,.indexAddr t x y,ty,pos,af,g⟩ e w (.pointer (some (Zp v i k 0))):=by
 refine ⟨fun a ha=>?_⟩;obtain ⟨p,c,rfl,hl,hm,hn,hc⟩:=hs;obtain ⟨b,o,cs,rfl,_⟩:=hc i hi;subst hz;have h0:(0:Int)≤(i:Int)∧(i:Int)<(xs.length:Int):=by omega
 have hr:(Instr.indexAt t (.slice (some ⟨b,o,none⟩) xs.length c) (.int .i64 (i:Int))).run P w=.ok (.pointer (some ⟨b,o+i * k,none⟩)) w:=by
  simp only [Instr.indexAt,asIntOf];simp [run_underlying hu.h,Siz.run,Addr.add_lit,hi]
 simp [execOp,ha.ev hx,ha.ev hy,hr,Zp]
theorem Z3r {x:Operand} {t:TypeId} {v:Value} {i k j m off:Nat} [hf:Fld P t m off] (hx:ev e x=some (.pointer (some (Zp v i k j))))
 (hv:∃ p l c,v=.slice (some p) l c):PR P n ⟨d,.fieldAddr t x m,ty,pos,af,g⟩ e w (.pointer (some (Zp v i k (j+off)))):=by
 obtain ⟨p,l,c,rfl⟩:=hv;exact ⟨fun a ha=>by simp [execOp,ha.ev hx,Zp,Z6w,Yav]⟩
theorem SlV.isSome {α:Type} [Z7 α] {X:List Nat} {v:Value} {xs:List α} {i:Nat} (h:SlV X w v xs) (hi:i<xs.length):∃ p l c,v=.slice (some p) l c:=by
 obtain ⟨p,c,rfl,_,_,_,hc⟩:=h;obtain ⟨b,o,cs,rfl,_⟩:=hc i hi;exact ⟨_,_,_,rfl⟩
theorem SlV.cell {α:Type} [Z7 α] {X:List Nat} {v:Value} {xs:List α} {i:Nat} (h:SlV X w v xs) (hi:i<xs.length):∃ cs,Z7.rep X w xs[i] cs∧∀ j u,cs[j]?=some u→w.cell? (Zp v i (Z7.k α) j)=some u:=by
 obtain ⟨p,c,rfl,_,_,_,hc⟩:=h;obtain ⟨b,o,cs,rfl,_,_,hr,hcell⟩:=hc i hi;exact ⟨cs,hr,fun j u hu=>by simpa [Zp] using hcell j u hu⟩
theorem SlV.cellF {α:Type} [Z3 α] {X:List Nat} {v:Value} {xs:List α} {i:Nat} (h:SlV X w v xs) (hi:i<xs.length) {j:Nat} {u:Value} (hu:(Z3.enc xs[i])[j]?=some u):w.cell? (Zp v i (Z3.k α) j)=some u:=by
 obtain ⟨cs,hr,hc⟩:=h.cell hi;have hr':cs=Z3.enc xs[i]:=hr;subst hr';exact hc j u hu
theorem Z1N {α:Type} [Z3 α] {X:List Nat} {xs:List α} {v u:Value} {i j k:Nat} {x:Operand} {t:TypeId} {D:TypeDesc} [hu:Und P t D] (hA:JV D=false) (hx:ev e x=some (.pointer (some (Zp v i k j))))
 (hs:SlV X w v xs) (hi:i<xs.length) (hk:k=Z3.k α) (hc:(Z3.enc xs[i])[j]?=some u):PR P n ⟨d,.load t x,ty,pos,af,g⟩ e w u:=
 Jw hA hx (by subst hk;exact hs.cellF hi hc)
theorem Zbb {α:Type} [Z3 α] {X:List Nat} {xs:List α} {v:Value} {us:List Value} {i j k m:Nat} {x:Operand} {t:TypeId} {D:TypeDesc} [hu:Und P t D] (hA:JV D=true) [hsz:Siz P t m] (hx:ev e x=some (.pointer (some (Zp v i k j))))
 (hs:SlV X w v xs) (hi:i<xs.length) (hk:k=Z3.k α) (hl:us.length=m) (hc:((Z3.enc xs[i]).drop j).take m=us):PR P n ⟨d,.load t x,ty,pos,af,g⟩ e w (.agg us.toArray):=by
 obtain ⟨p,l,c,hv⟩:=hs.isSome hi;have hcell:=fun (q:Nat) (u:Value) (h:(Z3.enc xs[i])[q]?=some u)=>hs.cellF hi h;subst hv;refine Z3q hA hx hl (fun q u hq=>?_);have h1:(Z3.enc xs[i])[j+q]?=some u:=by
  rw [← hc,Yae] at hq;split at hq;simpa using hq;cases hq
 have:=hcell (j+q) u h1;subst hk;simpa [Zp,Yav] using this
theorem Z6x {α:Type} [Z3 α] {X:List Nat} {xs:List α} {v:Value} {i k:Nat} {x:Operand} {t:TypeId} {D:TypeDesc} [hu:Und P t D] (hA:JV D=true) [hsz:Siz P t k] (hx:ev e x=some (.pointer (some (Zp v i k 0))))
 (hs:SlV X w v xs) (hi:i<xs.length) (hk:k=Z3.k α):PR P n ⟨d,.load t x,ty,pos,af,g⟩ e w (.agg (Z3.enc xs[i]).toArray):=
 Zbb hA hx hs hi hk (by rw [hk];exact Z3.len _) (by rw [Ybm,XH (by rw [hk,Z3.len];exact Xn _)])
theorem JN {b T o:Nat} {cs:List Value} {u:Value} {x:Operand} {t:TypeId} {D:TypeDesc} [hu:Und P t D] (hA:JV D=false) (hx:ev e x=some (.pointer (some ⟨b,o,none⟩))) (hb:Blk w b T cs) (hc:cs[o]?=some u) :
 PR P n ⟨d,.load t x,ty,pos,af,g⟩ e w u:=Jw hA hx (hb.cell hc)
theorem Zn {b T o m:Nat} {cs us:List Value} {x:Operand} {t:TypeId} {D:TypeDesc} [hu:Und P t D] (hA:JV D=true) [hsz:Siz P t m] (hx:ev e x=some (.pointer (some ⟨b,o,none⟩))) (hb:Blk w b T cs)
 (hl:us.length=m) (hc:(cs.drop o).take m=us):PR P n ⟨d,.load t x,ty,pos,af,g⟩ e w (.agg us.toArray):=by
 refine Z3q hA hx hl (fun q u hq=>hb.cell ?_);rw [← hc,Yae] at hq;split at hq;simpa using hq;cases hq
theorem J2 {b T m:Nat} {cs:List Value} {x:Operand} {t:TypeId} {D:TypeDesc} [hu:Und P t D] (hA:JV D=true) [hsz:Siz P t m] (hx:ev e x=some (.pointer (some ⟨b,0,none⟩))) (hb:Blk w b T cs)
 (hl:cs.length=m):PR P n ⟨d,.load t x,ty,pos,af,g⟩ e w (.agg cs.toArray):=
 Zn hA hx hb hl (by rw [Ybm,XH (by omega)])
def Z7m (w:World) (T:TypeId) (cs:List Value) (v:Value) (w':World):Prop:=∃ b,v=.pointer (some ⟨b,0,none⟩)∧w.heap.size≤b∧Blk w' b T cs∧Stp [] w w'
theorem Z9X (w:World) (T:TypeId) (cs:List Value):Z7m w T cs (.pointer (some ⟨w.heap.size,0,none⟩)) (w.alloc (.cells cs.toArray T)):=
 ⟨_,rfl,Xn _,heap_alloc_new w _,Stp.alloc _ _ _⟩
theorem Jd {o:Oper} {G:Value→World→Prop} {v:Value} {w':World} (h:∀ a,Has n e a→(execOp a.eval o).run P w=.ok (.value v) w') (hg:G v w'):OE P n o e w G:=
 ⟨fun a ha Q=>by unfold Oper.wp;rw [h a ha];exact ⟨v,rfl,hg⟩⟩
theorem Z47 {o:Oper} {G:Value→World→Prop} {w':World} (h:∀ a,Has n e a→(execOp a.eval o).run P w=.ok .skip w') (hg:G undef w'):OE P n o e w G:=
 ⟨fun a ha Q=>by unfold Oper.wp;rw [h a ha];exact ⟨undef,rfl,hg⟩⟩
theorem OE.mono {o:Oper} {G G':Value→World→Prop} (h:OE P n o e w G) (hg:∀ v w',G v w'→G' v w'):OE P n o e w G':=
 ⟨fun a ha Q=>Oper.wp_mono (fun a' w' ⟨v,h1,h2⟩=>⟨v,h1,hg v w' h2⟩) (h.h a ha Q)⟩
theorem Z2 {t:TypeId} {z:Value} [hz:Zer P t z]:OE P n ⟨d,.alloc t,ty,pos,af,g⟩ e w (Z7m w t z.cells.toList):=
 Jd (v:=.pointer (some ⟨w.heap.size,0,none⟩)) (w':=w.alloc (.cells z.cells t)) (fun a ha=>by
  simp [execOp,Instr.alloc,Zer.run,newVar,newRow,newObj];rfl) (by simpa using Z9X w t z.cells.toList)
theorem Zq {t:TypeId} {x:Operand} {v:Value} (hx:ev e x=some v):OE P n ⟨d,.box t x,ty,pos,af,g⟩ e w (Z7m w t v.cells.toList):=
 Jd (v:=.pointer (some ⟨w.heap.size,0,none⟩)) (w':=w.alloc (.cells v.cells t)) (fun a ha=>by
  simp [execOp,Instr.box,ha.ev hx,newVar,newRow,newObj];rfl) (by simpa using Z9X w t v.cells.toList)
theorem Z9Y {α:Type} [Z7 α] {X:List Nat} {w₀:World} {xs:List α} {t:TypeId} {x:Operand} {v:Value} (hx:ev e x=some v) (hs:SlV X w₀ v xs):OE P n ⟨d,.box t x,ty,pos,af,g⟩ e w (Z7m w t [v]):=by
 rw [← hs.cells];exact Zq hx
theorem Z1O (w:World) (b:Nat) (cs:Array Value):Stp [b] w (w.setRow b cs):=
 ⟨rfl,rfl,rfl,by simp,fun k hk hn=>setRow_other w b k cs (by simpa using hn)⟩
theorem Z12 {b T o m t:Nat} {cs us:List Value} {x y:Operand} {u:Value} [hsz:Siz P t m] (hx:ev e x=some (.pointer (some ⟨b,o,none⟩))) (hy:ev e y=some u) (hu:u.cells.toList=us) (hm:us.length=m) (h1:∀ c∈us,c.oneCell'=true)
 (hb:Blk w b T cs) (hl:o+us.length≤cs.length):OE P n ⟨d,.store t x y,ty,pos,af,g⟩ e w (fun _ w'=>Stp [b] w w'∧Blk w' b T (cs.take o++us++cs.drop (o+us.length))):=by
 have hst:=run_storeCells_at P b o T us 0 cs.toArray w hb (by simpa using hl) h1;refine Z47 (w':=w.setRow b (cs.take o++us++cs.drop (o+us.length)).toArray) (fun a ha=>?_) ⟨Z1O _ _ _,setRow_heap w b cs.toArray _ T (0,0) hb⟩;have hcs:u.cells.size=m:=by rw [← hm,← hu,Yah]
 simp only [Ybk] at hst;simp [execOp,ha.ev hx,ha.ev hy,Instr.storeAt,Instr.sureAddr,storeVar,Siz.run,hcs,hu,hst]
theorem Z9 {b T m t:Nat} {cs us:List Value} {x y:Operand} {u:Value} [hsz:Siz P t m] (hx:ev e x=some (.pointer (some ⟨b,0,none⟩))) (hy:ev e y=some u) (hu:u.cells.toList=us) (hm:us.length=m) (h1:∀ c∈us,c.oneCell'=true)
 (hb:Blk w b T cs) (hl:us.length=cs.length):OE P n ⟨d,.store t x y,ty,pos,af,g⟩ e w (fun _ w'=>Stp [b] w w'∧Blk w' b T us):=
 (Z12 hx hy hu hm h1 hb (by omega)).mono (fun _ w' ⟨h2,h3⟩=>⟨h2,by simpa [hl] using h3⟩)
theorem Za {b T o t:Nat} {cs:List Value} {x y:Operand} {u:Value} [hsz:Siz P t 1] (hx:ev e x=some (.pointer (some ⟨b,o,none⟩))) (hy:ev e y=some u) (hu:u.cells.toList=[u]) (h1:u.oneCell'=true)
 (hb:Blk w b T cs) (hl:o<cs.length):OE P n ⟨d,.store t x y,ty,pos,af,g⟩ e w (fun _ w'=>Stp [b] w w'∧Blk w' b T (cs.set o u)):=
 (Z12 hx hy hu rfl (by simpa using h1) hb (by simp; omega)).mono (fun _ w' ⟨h2, h3⟩ => ⟨h2, by
   rw [List.set_eq_take_append_cons_drop,if_pos hl];simpa using h3⟩)
end rules
def ob:Value→List Nat
 | .slice (some a) _ _=>[a.block]
 | _=>[]
theorem Zip (v:Value):v.ownBlock.toList=ob v:=by
 cases v<;>try rfl
 rename_i a _ _;cases a<;>rfl
def Row {α:Type} [Z7 α] (X:List Nat) (w:World) (base T:Nat) (v:Value) (xs:List α):Prop:=
 ∃ css:List (List Value),css.length=xs.length∧(∀ i (h:i<xs.length) (h':i<css.length),Z7.rep (ob v++X) w xs[i] css[i])∧w.ownsRow base T (Z7.k α) v xs.length css.flatten
section row
variable {α:Type} [Z7 α] {X:List Nat} {w w':World} {base T:Nat} {v:Value} {xs:List α}
theorem Row.nil:Row (α:=α) X w base T (.slice none 0 0) []:=
 ⟨[],rfl,fun i h=>absurd h (Xu _),by simpa using World.ownsRow_nil w base T (Z7.k α)⟩
theorem Row.ob_le (h:Row X w base T v xs):∀ b∈ob v,base≤b∧b<w.heap.size:=by
 obtain ⟨css,_,_,ho⟩:=h;intro b hb;rw [← Zip] at hb;exact ho.lt b (by simpa using hb)
theorem Row.ext {S X':List Nat} (h:Row X w base T v xs) (hS:Stp S w w') (h1:∀ b∈S,b∈X∧b∉ob v) (h2:∀ b∈X',b∈X∨w.heap.size≤b):Row X' w' base T v xs:=by
 obtain ⟨css,hl,hr,ho⟩:=h;refine ⟨css,hl,fun i hi hi'=>Z7.ext (hr i hi hi') hS (fun b hb=>by simp [(h1 b hb).1]) (fun b hb=>?_),?_⟩;simp only [Xh] at hb ⊢;rcases hb with hb|hb
 exact .inl (.inl hb);rcases h2 b hb with h|h
 exact .inl (.inr h);exact .inr h;refine ⟨ho.1,?_⟩;rcases ho.2 with hn|⟨q,cap,cur,rfl,hb,hg,rest⟩
 exact .inl hn;refine .inr ⟨q,cap,cur,rfl,hb,?_,rest⟩;rw [hS.block q (Xk.1 hg).1 (fun hq=>(h1 q hq).2 (by simp [ob]))];exact hg
theorem Row.up (h:Row X w base T v xs) (hS:Stp [] w w'):Row X w' base T v xs:=h.ext hS (by simp) (fun b hb=>.inl hb)
theorem Z0q {k:Nat}:∀ (css:List (List Value)),(∀ c∈css,c.length=k)→∀ (i:Nat) (hi:i<css.length) (j:Nat) (u:Value),css[i][j]?=some u→css.flatten[i * k+j]?=some u
 | [],_,i,hi,_,_,_=>absurd hi (Xu _)
 | c :: r, hk, 0, _, j, u, hu => by
   have hj:j<c.length:=(Xw.1 hu).1;simp only [Yag,Nat.zero_mul,XJ];rw [X9 hj];exact hu
 | c :: r, hk, i + 1, hi, j, u, hu => by
   have ih:=Z0q r (fun c hc=>hk c (by simp [hc])) i (by simpa using hi) j u (by simpa using hu);have hc:=hk c (by simp);simp only [Yag];rw [Yaz (by rw [hc,X8];omega),hc];rw [show (i+1) * k+j - k=i * k+j by rw [X8];omega];exact ih
theorem Row.slv (h:Row X w base T v xs) (hX:∀ b∈X,b<base):SlV X w v xs:=by
 obtain ⟨css,hl,hr,ho⟩:=h;have hk:∀ c∈css,c.length=Z7.k α:=by
  intro c hc;obtain ⟨i,hi,rfl⟩:=Xr hc;exact Z7.len (hr i (by omega) hi)
 rcases ho.2 with ⟨rfl,hn⟩|⟨q,cap,cur,rfl,hb,hg,hnc,hcm,hcs,ht⟩
 exact ⟨none,0,by rw [hn],by omega,by simp [maxLen],fun _=>rfl,fun i hi=>by omega⟩;refine ⟨some ⟨q,0,none⟩,cap,rfl,hnc,hcm,fun h=>by simp at h,fun i hi=>?_⟩;refine ⟨q,0,css[i]'(by omega),rfl,(Xk.1 hg).1,fun hx=>by have:=hX q hx;omega,?_,fun j u hu=>?_⟩;exact Z7.ext (hr i hi (by omega)) (Stp.refl [] w) (by simp) (fun b hb=>.inl (by simp [hb]));have h1:=Z0q css hk i (by omega) j u hu;rw [← ht,Yae] at h1;split at h1;have h2:cur[i * Z7.k α+j]?=some u:=by simpa using h1
 rw [XJ,cell_of_row w q _ cur T (0,0) hg];exact h2;cases h1
theorem Z9Z {P:Program} {t ty e size bytes:Nat} {i:TypeInfo} {z:Value} (ht:P.underlying t=some (.slice e)) (hi:P.info? e=some i) (hz:i.zero=some z)
 (hsize:i.size=size) (hby:i.bytes=bytes) {v:Value} {n:Nat} {cs:List Value} (hown:w.ownsRow base e size v n cs)
 {a:Addr} {m c:Nat} {news:List Value} (hl:news.length=m * size) (hnews:∀ j u,news[j]?=some u→w.cell? (a.add j)=some u) (h1:∀ u∈news,u.oneCell'=true)
 (h63:n+m≤maxLen) (hbytes:(n+m) * bytes≤140737488355328) {v':Value} {w':World} (hr:(Builtin.append_ #[t,t] ty #[v,.slice (some a) m c]).run P w=.ok v' w') :
 ∀ b∈ob v',b∈ob v∨w.heap.size≤b:=by
 subst hsize;subst hby;have hsmall:n+m≤9223372036854775807:=by simp only [maxLen] at h63;omega
 rcases hown.2 with ⟨rfl,rfl⟩|⟨q,cap,cur,rfl,hbg,hg,hnc,hcm,hcs,htake⟩
 by_cases hm:m=0;subst hm;have hn:news=[]:=YaL (by simpa using hl);subst hn;have:(Builtin.append_ #[t,t] ty #[.slice none 0 0,.slice (some a) 0 c]).run P w=.ok (.slice none 0 0) w:=by
  simp [Builtin.append_,run_underlying ht,sizeOf,typeInfo,hi,Builtin.lenOf,Builtin.firstCells,loadCells,loadCellsFrom]
 rw [this] at hr;cases hr;simp [ob];have h:=run_append_nil (P:=P) w t ty e i z ht hi hz a m c news hl hnews (by omega) (by omega) (by have hb:=hbytes;simp only [XJ] at hb;omega);rw [h] at hr;cases hr;simp [ob];by_cases hroom:n+m≤cap;have hfit:n * i.size+news.length≤cur.size:=by rw [hl,hcs,← Nat.add_mul];exact Xp _ hroom
 have h:=run_append_room (P:=P) w t ty e i ht hi q n cap cur hg a m c news hl hnews h1 hroom hfit;rw [h] at hr;cases hr;simp [ob];have holds:∀ j u,cs[j]?=some u→w.cell? ((⟨q,0,none⟩:Addr).add j)=some u:=hown.cells (g:=q) rfl;have h:=run_append_grow (P:=P) w t ty e i z ht hi hz ⟨q,0,none⟩ n cap cs hown.1 holds a m c news hl hnews (by omega) (by omega) (growslice_fits (by omega) hbytes);rw [h] at hr;cases hr;simp [ob]
def Zbc (X:List Nat) (w:World) (base T:Nat) (v:Value) (xs ys:List α) (v':Value) (w':World):Prop:=
 Row X w' base T v' (xs++ys)∧Stp (ob v) w w'∧∀ b∈ob v',b∈ob v∨w.heap.size≤b
theorem ZW {P:Program} {n:Nat} {e:Env} {d:Option Nat} {ty:TypeId} {pos:String} {af:Array Edge} {g:Option (Nat×Bool)} {x y:Operand} {t bytes:Nat} {u:Value} {z:Value} {ys:List α}
 [ht:Und P t (.slice T)] [hk:Siz P T (Z7.k α)] [hb:Byt P T bytes] [hz:Zer P T z] (hzs:z.cells.size=Z7.k α) (hpos:0<Z7.k α)
 (hx:ev e x=some v) (hy:ev e y=some u) (hrow:Row X w base T v xs) (hys:SlV (ob v++X) w u ys) (hbytes:(xs.length+ys.length) * bytes≤140737488355328) (hlen:xs.length+ys.length≤maxLen) (hbase:base≤w.heap.size) :
 OE P n ⟨d,.call { callee:=.builtin .append,args:=#[x,y],argTypes:=#[t,t] },ty,pos,af,g⟩ e w (Zbc X w base T v xs ys):=by
 obtain ⟨i,hi,hi1,hi2,hi3⟩:∃ i,P.info? T=some i∧i.size=Z7.k α∧i.bytes=bytes∧i.zero=some z:=by
  have a1:=hk.h;have a2:=hb.h;have a3:=hz.h;cases hi:P.info? T with
  | none=>simp [hi] at a1
  | some i=>exact ⟨i,rfl,by simpa [hi] using a1,by simpa [hi] using a2,by simpa [hi] using a3⟩
 have hrow0:=hrow;obtain ⟨css,hl,hr,ho⟩:=hrow;obtain ⟨p,c,rfl,hyl,hym,hyn,hyc⟩:=hys;have hsrc:∃ dss:List (List Value),dss.length=ys.length∧(∀ j (h:j<ys.length) (h':j<dss.length),Z7.rep (ob v++X) w ys[j] dss[j]∧∃ b o,p=some ⟨b,o,none⟩∧∀ q u,dss[j][q]?=some u→w.cell? ⟨b,o+j * Z7.k α+q,none⟩=some u):=by
  have:∀ j:Fin ys.length,∃ ds:List Value,Z7.rep (ob v++X) w ys[j] ds∧∃ b o,p=some ⟨b,o,none⟩∧∀ q u,ds[q]?=some u→w.cell? ⟨b,o+j * Z7.k α+q,none⟩=some u:=by
   intro j;obtain ⟨b,o,cs,h1,h2,h3,h4,h5⟩:=hyc j j.2;exact ⟨cs,h4,b,o,h1,h5⟩
  obtain ⟨f,hf⟩:=Classical.axiomOfChoice this;refine ⟨List.ofFn f,by simp,fun j h h'=>?_⟩;have:=hf ⟨j,h⟩;simpa using this
 obtain ⟨dss,hdl,hd⟩:=hsrc;have hdk:∀ c∈dss,c.length=Z7.k α:=by
  intro c hc;obtain ⟨q,hq,rfl⟩:=Xr hc;exact Z7.len (hd q (by omega) hq).1
 have hflen:∀ (l:List (List Value)),(∀ c∈l,c.length=Z7.k α)→l.flatten.length=l.length * Z7.k α:=by
  intro l
  induction l with
  | nil=>intro _;simp
  | cons c r ih=>intro h;simp only [Yag,Xc,Xe,X8];rw [ih (fun c hc=>h c (by simp [hc])),h c (by simp)];omega
 have hone:∀ u∈dss.flatten,u.oneCell'=true:=by
  intro u hu;obtain ⟨c,hc,huc⟩:=List.mem_flatten.1 hu;obtain ⟨q,hq,rfl⟩:=Xr hc;exact Z7.one (hd q (by omega) hq).1 u huc
 have fin:∀ (v':Value) (w':World),w'.ownsRow base T (Z7.k α) v' (xs.length+ys.length) (css.flatten++dss.flatten)→Stp (ob v) w w'→(∀ b∈ob v',b∈ob v∨w.heap.size≤b)→Zbc X w base T v xs ys v' w':=by
  intro v' w' ho' hS hb';have hX:∀ b∈ob v'++X,b∈ob v++X∨w.heap.size≤b:=by
   intro b hb;simp only [Xh] at hb ⊢;rcases hb with hb|hb
   rcases hb' b hb with h|h
   exact .inl (.inl h);exact .inr h;exact .inl (.inr hb)
  have hSX:∀ b∈ob v,b∈ob v++X:=fun b hb=>by simp [hb]
  refine ⟨⟨css++dss,by simp [hl,hdl],fun i hi hi'=>?_,?_⟩,hS,hb'⟩;by_cases hlt:i<xs.length;rw [X6 hlt,X6 (by omega)];exact Z7.ext (hr i hlt (by omega)) hS hSX hX;have hi2:i<xs.length+ys.length:=by simpa using hi
  rw [X2 (by omega),X2 (by omega)];have:=Z7.ext (hd (i - xs.length) (by omega) (by omega)).1 hS hSX hX;simpa [hl] using this;rw [List.flatten_append];simpa using ho'
 cases p with
 | none=>
   have hy0:ys.length=0:=by
    cases hys:ys with
    | nil=>rfl
    | cons y r=>
      obtain ⟨b,o,cs,hp,_⟩:=hyc 0 (by simp [hys]);simp at hp
   have hc0:c=0:=hyn rfl;subst hc0;have hd0:dss=[]:=YaL (by omega);subst hd0;have hrun:=run_append_owned_none (P:=P) w base t ty T i (Z7.k α) ht.h hi v xs.length css.flatten ho;refine Jd (v:=v) (w':=w) (fun a ha=>?_) (fin v w (by simpa [hy0] using ho) (Stp.refl _ _) (fun b hb=>.inl hb));rw [hy0] at hy;simp [execOp,resolve,invoke,builtin,ha.ev hx,ha.ev hy,hrun]
 | some a=>
   have hnews:∀ j u,dss.flatten[j]?=some u→w.cell? (a.add j)=some u:=by
    intro j u hj;have hjl:j<dss.flatten.length:=(Xw.1 hj).1;rw [hflen dss hdk] at hjl;have hq:j / Z7.k α<dss.length:=(Nat.div_lt_iff_lt_mul hpos).2 hjl;obtain ⟨h1,b,o,hp,hcell⟩:=hd (j / Z7.k α) (by omega) hq;simp only [XD] at hp;subst hp;have hmod:j % Z7.k α<Z7.k α:=YbB _ hpos;have hj2:j / Z7.k α * Z7.k α+j % Z7.k α=j:=by rw [Ya4];exact Ybf j _
    have hlk:dss[j / Z7.k α].length=Z7.k α:=hdk _ (Xd hq);have hat:dss[j / Z7.k α][j % Z7.k α]?=some (dss[j / Z7.k α][j % Z7.k α]'(by omega)):=XN (by omega);have h2:=Z0q dss hdk _ hq _ _ hat;rw [hj2,hj] at h2;have h3:=hcell _ _ hat;rw [Addr.add_lit];rw [Yav,hj2] at h3;rw [h3,h2]
   have hl2:dss.flatten.length=ys.length * Z7.k α:=by rw [hflen dss hdk,hdl]
   obtain ⟨v',w',hrun,h2,h3,h4⟩:=run_append_own (P:=P) w base t ty T i z (Z7.k α) bytes ht.h hi hi3 hi1 hi2 hzs hpos v xs.length css.flatten ho a ys.length c dss.flatten hl2 hnews hone hlen hbytes hbase;have hblk:=Z9Z (P:=P) ht.h hi hi3 hi1 hi2 ho hl2 hnews hone hlen hbytes hrun;have hS:Stp (ob v) w w':=by rw [← Zip];exact Stp.of_grown h3
   refine Jd (v:=v') (w':=w') (fun a ha=>?_) (fin v' w' h2 hS hblk);simp [execOp,resolve,invoke,builtin,ha.ev hx,ha.ev hy,hrun]
end row
abbrev _root_.Go.Value.I (z:Int):Value:=.int .i64 z
abbrev _root_.Go.Value.N:Value:=.slice none 0 0
abbrev _root_.Go.Value.B (b:Bool):Value:=.bool b
abbrev aG {α:Type} [Z3 α] (x:α):Value:=.agg (Z3.enc x).toArray
theorem Stp.ow {S S':List Nat} {a b c:World} (h:Stp S a b) (k:Stp S' b c) (hs:∀ x∈S',x∈S∨a.heap.size≤x:=by intro c hc;exact .inr (by simp at hc;omega)):Stp S a c:=h.own k hs
theorem Stp.mn {S S':List Nat} {a b:World} (h:Stp S a b) (hs:∀ x∈S,x∈S':=by simp):Stp S' a b:=h.mono hs
abbrev pQ (b:Nat):Value:=.pointer (some ⟨b,0,none⟩)
section any
variable {P:Program} {ops:Array Oper} {md:Region.Mode} {S:List Nat} {Lt:Nat→Bool}
theorem ZsJ {o:Oper} {a:Act} {w} {K:Act→World→Prop} {Q:Exit→Act→World→Prop} (h:o.wp P a w K (fun _ _ _=>False)):o.wp P a w K Q:=by
 unfold Oper.wp at *;generalize (execOp a.eval o).run P w=r at *;cases r with
 | ok n w'=>
   cases n<;>simp only [Oper.upon] at h ⊢
   case enter f args=>
    refine Calls.mono h (fun e w'' he=>?_);cases e with
    | returned v=>exact he
    | panicked c=>exact he.elim
    | outgrown=>obtain ⟨_,_,hf⟩:=he;exact hf.elim
   all_goals exact h
 | halt x w'=>cases x<;>simp only [Oper.upon] at h
theorem Ziq {i:Nat} {K:Act→World→Prop} {Q:Exit→Act→World→Prop} {a:Act} {w} (h:wpOp P ops (fun _ _ _=>False) i K a w):wpOp P ops Q i K a w:=by
 unfold wpOp at *;cases ho:ops[i]? with
 | none=>simp only [ho] at h ⊢;exact h
 | some o=>
   simp only [ho] at h ⊢;split;rename_i hw;simp only [hw,if_true] at h;rcases h with h|⟨_,_,_,hf⟩
   exact .inl (ZsJ h);exact hf.elim;rename_i hw;simp only [hw] at h;exact h
def Z0P (P:Program) (md:Region.Mode) (ops:Array Oper) (S:List Nat) (Lt:Nat→Bool) (Z:Act→World→Prop):Nat→Array Bool→Act→World→Prop
 | 0,listed,a,w=>Region.ready md ops listed=[]∧Z a w
 | fuel + 1, listed, a, w=>
   (Region.ready md ops listed=[]→Z a w)∧
   ∀ i∈Region.ready md ops listed,wpOp P ops (fun _ _ _=>False) i (fun a' w'=>(Stp S w w'∨Lt i=true)∧Z0P P md ops S Lt Z fuel (listed.setIfInBounds i true) a' w') a w
theorem Z0Q {Z:Act→World→Prop} {Q:Exit→Act→World→Prop} (hZ:∀ a w,Z a w→Q .normal a w):∀ (fuel:Nat) (listed:Array Bool) (a:Act) (w),
 Z0P P md ops S Lt Z fuel listed a w→wpAny P md ops Q fuel listed a w
 | 0,_,_,_,h=>⟨h.1,hZ _ _ h.2⟩
 | fuel+1,_,_,_,h=>⟨fun h0=>hZ _ _ (h.1 h0),fun i hi=>wpOp_mono (fun a' w' hk=>Z0Q hZ fuel _ a' w' hk.2) (Ziq (h.2 i hi))⟩
def YE (P:Program) (ops:Array Oper) (R:World→World→Prop) (o:Oper) (v:Value) (a:Act) (w:World):Prop:=
 (Region.wanted o (yielded ops a.tmps)=true∧∀ w',R w w'→(execOp a.eval o).run P w'=.ok (.value v) w')∨
 (Region.wanted o (yielded ops a.tmps)=false∧v=undef)
theorem YE.same {R:World→World→Prop} {o:Oper} {v:Value} {a a':Act} {w} (hy:YE P ops R o v a w) (he:execOp a'.eval o=execOp a.eval o)
 (hw:Region.wanted o (yielded ops a'.tmps)=Region.wanted o (yielded ops a.tmps)):YE P ops R o v a' w:=by
 unfold YE at *;rw [he,hw];exact hy
theorem Z55 {Z:Act→World→Prop} {R:World→World→Prop} (hR0:∀ w,R w w) (hRt:∀ a b c,R a b→R b c→R a c) {i:Nat} {oi:Oper} {v:Value} (hi:ops[i]?=some oi)
 (hRs:∀ j oj,ops[j]?=some oj→(∀ e∈oj.after,Region.binds md e=true→e.on≠i)→j≠i→∀ w w',(Stp S w w'∨Lt j=true)→R w w')
 (hsel:∀ (j:Nat) (o:Oper) cs b,ops[j]?=some o→o.op≠.select cs b) :
 ∀ (fuel : Nat) (listed : Array Bool) (a : Act) (w),
   (∀ j oj,ops[j]?=some oj→j≠i→listed.getD j true=false→(∀ e∈oj.after,Region.binds md e=true→e.on≠i)→oi.apart ops oj=true)→
   (Stp S w w∨Lt i=true→True)→i∈Region.ready md ops listed→YE P ops R oi v a w→
   Z0P P md ops S Lt Z fuel (listed.setIfInBounds i true) (a.put oi.dst v) w→Z0P P md ops S Lt Z (fuel+1) listed a w:=by
 have now:∀ (fuel:Nat) (listed:Array Bool) (a:Act) (w:World),YE P ops R oi v a w→Z0P P md ops S Lt Z fuel (listed.setIfInBounds i true) (a.put oi.dst v) w→
  wpOp P ops (fun _ _ _=>False) i (fun a' w'=>(Stp S w w'∨Lt i=true)∧Z0P P md ops S Lt Z fuel (listed.setIfInBounds i true) a' w') a w:=by
  intro fuel listed a w hy H;unfold wpOp;simp only [hi];rcases hy with ⟨hw,hv⟩|⟨hw,rfl⟩
  simp only [hw,if_true,Oper.wp,hv w (hR0 w),Oper.upon];exact .inl ⟨.inl (Stp.refl _ _),H⟩;simp only [hw,XP,if_false];exact ⟨.inl (Stp.refl _ _),H⟩
 intro fuel
 induction fuel with
 | zero=>
   intro listed a w _ _ hr hy H;refine ⟨fun h=>(by rw [h] at hr;cases hr),fun j hj=>?_⟩;by_cases hji:j=i;subst hji;exact now _ _ _ _ hy H;have:=ready_mono hj hji;rw [H.1] at this;cases this
 | succ fuel ih=>
   intro listed a w hfree hx hr hy H;refine ⟨fun h=>(by rw [h] at hr;cases hr),fun j hj=>?_⟩;by_cases hji:j=i;subst hji;exact now _ _ _ _ hy H;have h1:=H.2 j (ready_mono hj hji);obtain ⟨hjun,oj,hoj,hall⟩:=mem_ready.1 hj;have hnot:∀ e∈oj.after,Region.binds md e=true→e.on≠i:=fun e he hb heq=>by
    have h1:=hall e he hb;have h0:=(mem_ready.1 hr).1;rw [heq] at h1;rcases Yas i listed.size with h'|h'
    simp [h'] at h0 h1;rw [h0] at h1;cases h1;simp [Yat h'] at h1
   have hap:=hfree j oj hoj hji hjun hnot;obtain ⟨p1,p2,p3⟩:=Oper.apart_spec hap;have keep:∀ (a:Act),YE P ops R oi v a w→∀ u,YE P ops R oi v (a.put oj.dst u) w:=fun a hy u=>
    hy.same (execOp_put oi (fun cs b=>hsel i oi cs b hi) a oj.dst u p3) (wanted_put oi a oj.dst u p3)
   have keepD:∀ (a:Act) d,YE P ops R oi v a w→YE P ops R oi v { a with defers:=d :: a.defers } w:=fun a d hy=>hy.same rfl rfl;have later:∀ (a:Act) w',(Stp S w w'∨Lt j=true)→YE P ops R oi v a w→YE P ops R oi v a w':=fun a w' hs hy=>by
    rcases hy with ⟨hw,hv⟩|hw
    exact .inl ⟨hw,fun w'' h''=>hv w'' (hRt _ _ _ (hRs j oj hoj hnot hji w w' hs) h'')⟩;exact .inr hw
   have hfree':∀ k ok,ops[k]?=some ok→k≠i→(listed.setIfInBounds j true).getD k true=false→
    (∀ e∈ok.after,Region.binds md e=true→e.on≠i)→oi.apart ops ok=true:=fun k ok hk hki hun hno=>by
    refine hfree k ok hk hki ?_ hno;by_cases hjk:j=k;subst hjk;exact hjun;rw [getD_set_ne true hjk] at hun;exact hun
   have fin:∀ a' w',YE P ops R oi v a' w→(Stp S w w'∨Lt j=true)∧Z0P P md ops S Lt Z fuel ((listed.setIfInBounds i true).setIfInBounds j true) (a'.put oi.dst v) w'→
    (Stp S w w'∨Lt j=true)∧Z0P P md ops S Lt Z (fuel+1) (listed.setIfInBounds j true) a' w':=by
    rintro a' w' hy' ⟨hs,hk⟩;refine ⟨hs,ih _ a' w' hfree' (fun _=>trivial) (ready_mono hr (Ne.symm hji)) (later a' w' hs hy') ?_⟩;rw [YaY _ _ hji];exact hk
   have hsj:∀ cs b,oj.op≠.select cs b:=fun cs b=>hsel j oj cs b hoj;unfold wpOp at *;simp only [hoj] at *;rw [wanted_put oj a oi.dst v p1] at h1;split
   · rename_i hw
     simp only [hw,if_true] at h1;rcases h1 with h1|⟨_,_,_,hf⟩
     case inr=>exact hf.elim
     refine .inl ?_;unfold Oper.wp at *;rw [execOp_put oj hsj a oi.dst v p1] at h1;generalize (execOp a.eval oj).run P w=r at *;cases r with
     | ok n w'=>
       cases n<;>simp only [Oper.upon] at h1 ⊢
       case value u=>exact fin _ _ (keep a hy u) (by rw [← Act.put_comm a v u p2];exact h1)
       case skip=>exact fin _ _ (keep a hy _) (by rw [← Act.put_comm a v undef p2];exact h1)
       case defer d=>
        refine fin _ _ (keep _ (keepD a d hy) _) ?_;rw [← Act.put_comm _ v undef p2,← Act.put_defers];exact h1
       case enter f args=>
        refine Calls.mono h1 fun e w'' he=>?_;cases e with
        | returned u=>exact fin _ _ (keep a hy u) (by rw [← Act.put_comm a v u p2];exact he)
        | panicked c=>exact he
        | outgrown=>exact he
       case row row args=>exact Rows.mono h1 fun u w'' he=>fin _ _ (keep a hy u) (by rw [← Act.put_comm a v u p2];exact he)
     | halt x w'=>
       cases x<;>simp only [Oper.upon] at h1
   rename_i hw;simp only [hw] at h1;exact fin _ _ (keep a hy _) (by rw [← Act.put_comm a v undef p2];exact h1)
end any
def Zet (ops:Array Oper) (Lt:List Nat) (i:Nat):Bool:=
 Lt.all fun j=>j == i || (match ops[j]? with|some oj=>oj.after.any (fun e=>Region.binds .any e && e.on == i)|none=>true)
def bits (m:Nat):List Nat:=(List.range 64).filter (fun j=>m.testBit j)
def Zfm:List Nat→List (List Nat)
 | []=>[[]]
 | x :: r=>Zfm r++(Zfm r).map (x :: ·)
def lst (listed:Array Bool) (is rem:List Nat):Array Bool:=Array.ofFn (n:=listed.size) fun j=>listed[j] || (is.contains j.val && !rem.contains j.val)
def wt:List (Nat×Nat)→Nat
 | []=>0
 | (_,k) :: r=>(if k<100000 then 1 else (bits (k - 100000)).length)+wt r
theorem JW {i k:Nat} {r:List (Nat×Nat)} (h:k<100000):wt ((i,k) :: r)=wt r+1:=by simp [wt,h];omega
def ZV (ops:Array Oper) (Lt:List Nat):List (Nat×Nat)→Option Nat→Array Bool→Bool
 | [],sk,listed=>sk.isNone && (Region.ready .any ops listed).isEmpty
 | (i,0) :: r,sk,listed=>(Region.ready .any ops listed).contains i && Region.free .any ops listed i && ZV ops Lt r sk (listed.setIfInBounds i true)
 | (i,1) :: r,sk,listed=>(Region.ready .any ops listed).contains i && Region.free .any ops listed i && Zet ops Lt i && ZV ops Lt r sk (listed.setIfInBounds i true)
 | (i,2) :: r,sk,listed=>if sk=some i then ZV ops Lt r none listed else Region.ready .any ops listed == [i] && ZV ops Lt r sk (listed.setIfInBounds i true)
 | (i, q + 3) :: r, sk, listed => if sk = some q ∧ q + 3 < 100000 then (Region.ready .any ops listed == [i] && ZV ops Lt r sk (listed.setIfInBounds i true)) else sk.isNone && if q + 3 < 100000 then (Region.ready .any ops listed == [i, q] && ZV ops Lt r none (listed.setIfInBounds i true) && Region.ready .any ops (listed.setIfInBounds q true) == [i] && ZV ops Lt r (some q) ((listed.setIfInBounds q true).setIfInBounds i true))
   else (Zfm (bits (q+3 - 100000))).all (fun rem=>rem.isEmpty || Region.ready .any ops (lst listed (bits (q+3 - 100000)) rem) == rem) && ZV ops Lt r none (lst listed (bits (q+3 - 100000)) [])
def J9 (ops:Array Oper) (Lt:List Nat) (ord:List (Nat×Nat)) (listed:Array Bool):Bool:=ZV ops Lt ord none listed
def Z4N (q:Nat):List (Nat×Nat)→List (Nat×Nat)
 | []=>[]
 | (i,2) :: r=>if i=q then r else (i,2) :: Z4N q r
 | (i,0) :: r=>(i,0) :: Z4N q r
 | (i,1) :: r=>(i,1) :: Z4N q r
 | (i,k+3) :: r=>if k=q∧k+3<100000 then (i,2) :: Z4N q r else (i,k+3) :: Z4N q r
theorem Z1P {ops:Array Oper} {Lt:List Nat} {q:Nat}:∀ (r:List (Nat×Nat)) (listed:Array Bool),ZV ops Lt r (some q) listed=true→ZV ops Lt (Z4N q r) none listed=true∧wt r=wt (Z4N q r)+1
 | [],listed,h=>by simp [ZV] at h
 | (i, 0) :: r, listed, h => by
   simp only [ZV,Xm] at h;obtain ⟨h1,h2⟩:=Z1P r _ h.2;simp only [Z4N,ZV,Xm];exact ⟨⟨h.1,h1⟩,by simp [wt,h2];omega⟩
 | (i, 1) :: r, listed, h => by
   simp only [ZV,Xm] at h;obtain ⟨h1,h2⟩:=Z1P r _ h.2;simp only [Z4N,ZV,Xm];exact ⟨⟨h.1,h1⟩,by simp [wt,h2];omega⟩
 | (i, 2) :: r, listed, h => by
   by_cases e:i=q;subst e;simp only [ZV,if_pos] at h;simp only [Z4N,if_pos];exact ⟨h,by simp [wt];omega⟩;have e':¬ (some q=some i):=by simpa using fun h=>e h.symm
   simp only [ZV,if_neg e',Xm] at h;obtain ⟨h1,h2⟩:=Z1P r _ h.2;simp only [Z4N,if_neg e,ZV];refine ⟨?_,by simp [wt,h2];omega⟩;rw [if_neg (by simp)];simp only [Xm];exact ⟨h.1,h1⟩
 | (i, k + 3) :: r, listed, h => by
   by_cases e:k=q∧k+3<100000;simp only [ZV] at h;rw [if_pos ⟨by rw [e.1],e.2⟩] at h;simp only [Xm] at h;obtain ⟨h1,h2⟩:=Z1P r _ h.2;simp only [Z4N,if_pos e,ZV];refine ⟨?_,by rw [JW e.2,JW (by decide),h2]⟩;rw [if_neg (by simp)];simp only [Xm];exact ⟨h.1,h1⟩;simp only [ZV] at h;rw [if_neg (fun h'=>e ⟨(XX h'.1).symm,h'.2⟩)] at h;simp at h
structure WD (P:Program) (n:Nat) (ops:Array Oper) (S:List Nat) (Lt:List Nat) (Q:Exit→Act→World→Prop) (ord:List (Nat×Nat)) (e:Env) (w:World):Prop where
 h:∀ listed:Array Bool,Region.noSelect ops=true→J9 ops Lt ord listed=true→∀ a,Has n e a→Z0P P .any ops S (fun j=>Lt.contains j) (fun a w=>Q .normal a w) (wt ord) listed a w
section rules
variable {P:Program} {n:Nat} {Q:Exit→Act→World→Prop} {e:Env} {w:World} {ops:Array Oper} {S:List Nat} {Lt:List Nat} {rest:List (Nat×Nat)}
theorem Z7n {id:Nat} {l:List Oper} (m:Nat) (S:List Nat) (Lt:List Nat) (ord:List (Nat×Nat)) (hlm:l.length=m) (hm:P.follows .mixedOrders=true) (hs:Region.noSelect l.toArray=true) (hl:Nat.beq (wt ord) l.length=true)
 (hB:J9 l.toArray Lt ord (Array.replicate m false)=true)
 (h:∀ w',Stp [] w w'→WD P n l.toArray S Lt Q ord e w'):WC P n (.region id l.toArray true) Q e w:=by
 subst hlm;refine ⟨fun a ha=>wp_region_any hm ?_⟩;have h1:=(h { w with drawn:=w.drawn+1 } (Stp.drew [] w)).h _ hs hB a ha;have h2:=Z0Q (Q:=Q) (fun a w hz=>hz) _ _ _ _ h1;rw [XK hl] at h2;simpa using h2
theorem Zd7 (h:WQ n Q .normal e w):WD P n ops S Lt Q [] e w:=
 ⟨fun _ _ hB a ha=>⟨by simpa [J9,ZV] using hB,h.h a ha⟩⟩
def Zz (ops:Array Oper) (e:Env):Option (Nat×Bool)→Prop
 | none=>True
 | some (j,b)=>yld ops e j=some (.B b)
theorem Jt {o:Oper} {a:Act} (ha:Has n e a) (hg:Zz ops e o.guard):Region.wanted o (yielded ops a.tmps)=true:=by
 unfold Region.wanted;cases hgd:o.guard with
 | none=>rfl
 | some jb=>
   obtain ⟨j,b⟩:=jb;rw [hgd] at hg;simp [Z7j ha hg]
theorem Zbd {i d:Nat} {o:Oper} {v:Value} (hi:ops[i]?=some o) (hd:o.dst=some d) (hY:∀ a,Has n e a→YE P ops (fun _ _=>True) o v a w) (hdn:Nat.blt d n=true)
 (k:WD P n ops S Lt Q rest ((d,v) :: e) w):WD P n ops S Lt Q ((i,0) :: rest) e w:=by
 refine ⟨fun listed hs hB a ha=>?_⟩;simp only [J9,ZV,Xm] at hB;obtain ⟨⟨h1,h2⟩,h3⟩:=hB;have hk:=k.h _ hs h3 _ (ha.put (v:=v) hdn);rw [← hd] at hk;rw [JW (by decide)];exact Z55 (R:=fun _ _=>True) (fun _=>trivial) (fun _ _ _ _ _=>trivial) hi (fun _ _ _ _ _ _ _ _=>trivial) (Region.noSelect_spec hs) _ _ _ _ (Region.free_spec hi h2) (fun _=>trivial) (by simpa using h1) (hY a ha) hk
theorem Z4O {i j:Nat} {oj:Oper} (hb:Zet ops Lt i=true) (hj:ops[j]?=some oj) (hn:∀ e∈oj.after,Region.binds .any e=true→e.on≠i) (hji:j≠i):Lt.contains j=false:=by
 cases hc:Lt.contains j with
 | false=>rfl
 | true=>
   have hm:j∈Lt:=by simpa using hc
   have:=(XY.1 hb) j hm;simp only [hj,YaE,beq_iff_eq,hji,false_or] at this;obtain ⟨e,he,hbe⟩:=Array.any_eq_true'.1 this;simp only [Xm,beq_iff_eq] at hbe;exact absurd hbe.2 (hn e he hbe.1)
theorem Zbe {i d:Nat} {o:Oper} {v:Value} (hi:ops[i]?=some o) (hd:o.dst=some d) (hY:∀ a,Has n e a→YE P ops (Stp S) o v a w) (hdn:Nat.blt d n=true)
 (k:WD P n ops S Lt Q rest ((d,v) :: e) w):WD P n ops S Lt Q ((i,1) :: rest) e w:=by
 refine ⟨fun listed hs hB a ha=>?_⟩;simp only [J9,ZV,Xm] at hB;obtain ⟨⟨⟨h1,h2⟩,hb⟩,h3⟩:=hB;have hk:=k.h _ hs h3 _ (ha.put (v:=v) hdn);rw [← hd] at hk;rw [JW (by decide)];refine Z55 (R:=Stp S) (fun w=>Stp.refl _ w) (fun _ _ _ h k=>h.trans k) hi (fun j oj hj hn hji w w' hs=>?_) (Region.noSelect_spec hs) _ _ _ _ (Region.free_spec hi h2) (fun _=>trivial) (by simpa using h1) (hY a ha) hk;rcases hs with hs|hs
 exact hs;rw [Z4O hb hj hn hji] at hs;cases hs
variable {i d:Nat} {op:Op} {ty:TypeId} {pos:String} {af:Array Edge} {gd:Option (Nat×Bool)} {v:Value}
theorem ZA (hi:ops[i]?=some ⟨some d,op,ty,pos,af,gd⟩) (hg:Zz ops e gd) (hp:∀ w',PR P n ⟨some d,op,ty,pos,af,gd⟩ e w' v) (hdn:Nat.blt d n=true)
 (k:WD P n ops S Lt Q rest ((d,v) :: e) w):WD P n ops S Lt Q ((i,0) :: rest) e w:=
 Zbd hi rfl (fun a ha=>.inl ⟨Jt ha hg,fun w' _=>(hp w').h a ha⟩) hdn k
theorem J3 (hi:ops[i]?=some ⟨some d,op,ty,pos,af,gd⟩) (hg:Zz ops e gd) (hp:∀ w',Stp S w w'→PR P n ⟨some d,op,ty,pos,af,gd⟩ e w' v) (hdn:Nat.blt d n=true)
 (k:WD P n ops S Lt Q rest ((d,v) :: e) w):WD P n ops S Lt Q ((i,1) :: rest) e w:=
 Zbe hi rfl (fun a ha=>.inl ⟨Jt ha hg,fun w' hw=>(hp w' hw).h a ha⟩) hdn k
theorem Zir (hi:ops[i]?=some ⟨some d,op,ty,pos,af,gd⟩) (hg:noB ops e gd=true) (hdn:Nat.blt d n=true)
 (k:WD P n ops S Lt Q rest ((d,undef) :: e) w):WD P n ops S Lt Q ((i,0) :: rest) e w:=
 Zbd hi rfl (fun a ha=>.inr ⟨Z2L ha hg,rfl⟩) hdn k
theorem Zis (hi:ops[i]?=some ⟨some d,op,ty,pos,af,gd⟩) (hg:noB ops e gd=true) (hdn:Nat.blt d n=true)
 (k:WD P n ops S Lt Q rest ((d,undef) :: e) w):WD P n ops S Lt Q ((i,1) :: rest) e w:=
 Zbe hi rfl (fun a ha=>.inr ⟨Z2L ha hg,rfl⟩) hdn k
structure WD1 (P:Program) (n:Nat) (ops:Array Oper) (S:List Nat) (Lt:List Nat) (Q:Exit→Act→World→Prop) (i:Nat) (ord:List (Nat×Nat)) (e:Env) (w:World):Prop where
 h : ∀ listed : Array Bool, Region.noSelect ops = true → J9 ops Lt ord (listed.setIfInBounds i true) = true → ∀ a, Has n e a→
   wpOp P ops (fun _ _ _=>False) i (fun a' w'=>(Stp S w w'∨Lt.contains i=true)∧Z0P P .any ops S (fun j=>Lt.contains j) (fun a w=>Q .normal a w) (wt ord) (listed.setIfInBounds i true) a' w') a w
theorem Zit {o:Oper} {dst:Option Nat} {G:Value→World→Prop} (hi:ops[i]?=some o) (hdst:o.dst=dst) (hg:Zz ops e o.guard) (hp:OE P n o e w (fun v w'=>(Stp S w w'∨Lt.contains i=true)∧G v w'))
 (k:∀ v w' a',G v w'→∀ a,Has n e a→a'=a.put dst v→∃ e',Has n e' a'∧WD P n ops S Lt Q rest e' w'):WD1 P n ops S Lt Q i rest e w:=by
 refine ⟨fun listed hs h3 a ha=>?_⟩;unfold wpOp;simp only [hi];rw [if_pos (Jt ha hg)];refine .inl (Oper.wp_mono ?_ (hp.h a ha _));rintro a' w' ⟨v,rfl,hs',hG⟩;obtain ⟨e',he',hk⟩:=k v w' (a.put o.dst v) hG a ha (by rw [hdst]);exact ⟨hs',hk.h _ hs h3 _ he'⟩
theorem Ziu (h:WD1 P n ops S Lt Q i rest e w):WD P n ops S Lt Q ((i,2) :: rest) e w:=by
 refine ⟨fun listed hs hB a ha=>?_⟩;simp only [J9,ZV] at hB;rw [if_neg (by simp)] at hB;simp only [Xm,beq_iff_eq] at hB;obtain ⟨h1,h3⟩:=hB;rw [JW (by decide)];refine ⟨fun h0=>absurd (h1 ▸ h0) (by simp),fun j hj=>?_⟩;rw [h1] at hj;obtain rfl:j=i:=by simpa using hj
 exact h.h _ hs h3 a ha
theorem Ziv {q:Nat} (hq:Nat.blt (q+3) 100000=true) (h1:WD1 P n ops S Lt Q i rest e w) (h2:WD1 P n ops S Lt Q q ((i,2) :: Z4N q rest) e w):WD P n ops S Lt Q ((i,q+3) :: rest) e w:=by
 refine ⟨fun listed hs hB a ha=>?_⟩;have hq':q+3<100000:=XU hq;simp only [J9,ZV] at hB;rw [if_neg (by simp),if_pos hq'] at hB;simp only [Xm,beq_iff_eq] at hB;obtain ⟨_,⟨⟨hr,hr1⟩,hr2⟩,h3⟩:=hB;obtain ⟨h4,h5⟩:=Z1P _ _ h3;have hw:wt ((i,q+3) :: rest)=wt rest+1:=JW hq';rw [hw];refine ⟨fun h0=>absurd (hr ▸ h0) (by simp),fun j hj=>?_⟩;rw [hr] at hj;have c2:J9 ops Lt ((i,2) :: Z4N q rest) (listed.setIfInBounds q true)=true:=by
  simp only [J9,ZV];rw [if_neg (by simp)];simp only [Xm,beq_iff_eq];exact ⟨hr2,h4⟩
 have hw2:wt rest=wt ((i,2) :: Z4N q rest):=by rw [JW (by decide),h5]
 have hj':j=i∨j=q:=by simpa using hj
 rcases hj' with rfl|rfl
 exact h1.h _ hs hr1 a ha;rw [hw2];exact h2.h _ hs c2 a ha
theorem Z7o:∀ {is rem:List Nat},rem.Sublist is→rem∈Zfm is
 | [],rem,h=>by simp at h;simp [Zfm,h]
 | x :: r, rem, h => by
   simp only [Zfm,Xh,XC];cases h with
   | cons _ h=>exact .inl (Z7o h)
   | cons_cons _ h=>exact .inr ⟨_,Z7o h,rfl⟩
theorem Zm7 (listed:Array Bool) (is:List Nat):lst listed is is=listed:=by
 apply Array.ext;simp [lst];intro j h1 h2;simp only [lst,Array.getElem_ofFn];cases is.contains j<;>simp
theorem Ziw {listed:Array Bool} {is rem:List Nat} {j:Nat} (hn:rem.Nodup) (hr:rem.Sublist is) (hj:j∈rem):(lst listed is rem).setIfInBounds j true=lst listed is (rem.erase j):=by
 apply Array.ext;simp [lst];intro m h1 h2;have hm:m<listed.size:=by simpa [lst] using h2
 rw [Array.getElem_setIfInBounds];simp only [lst,Array.getElem_ofFn];by_cases e:j=m;subst e;have h3:is.contains j=true:=by simpa using hr.subset hj
 have h4:(rem.erase j).contains j=false:=by
  have:=hn.not_mem_erase (a:=j);simpa using this
 simp only [h3,h4,if_true,Bool.not_false,Ybc,Bool.or_true];rw [if_neg e];have:(rem.erase j).contains m=rem.contains m:=by
  rw [Yac];simp only [List.contains_iff_mem];exact List.mem_erase_of_ne (fun h=>e h.symm)
 rw [this];simpa [lst] using hm
theorem ZsK {q:Nat} (is:List Nat) (J:List Nat→World→Prop) (hq:Nat.ble 100000 (q+3)=true) (his:bits (q+3 - 100000)=is) (hnd:is.Nodup) (h0:J is w)
 (step:∀ rem j w',rem.Sublist is→j∈rem→J rem w'→∃ o,ops[j]?=some o∧o.dst=none∧Zz ops e o.guard∧OE P n o e w' (fun _ w''=>(Stp S w' w''∨Lt.contains j=true)∧J (rem.erase j) w''))
 (fin:∀ w',J [] w'→WD P n ops S Lt Q rest e w'):WD P n ops S Lt Q ((i,q+3) :: rest) e w:=by
 refine ⟨fun listed hs hB a ha=>?_⟩;have hq':¬ q+3<100000:=Nat.not_lt.2 (XU hq);have hw:wt ((i,q+3) :: rest)=is.length+wt rest:=by simp only [wt];rw [if_neg hq',his]
 rw [hw];simp only [J9,ZV] at hB;rw [if_neg (by simp),if_neg hq',his] at hB;simp only [Xm] at hB;obtain ⟨_,hall,hrest⟩:=hB;have hready:∀ rem:List Nat,rem.Sublist is→0<rem.length→Region.ready .any ops (lst listed is rem)=rem:=fun rem hr h0=>by
  have:=XY.1 hall rem (Z7o hr);cases rem with
  | nil=>simp at h0
  | cons x r=>simpa using this
 have key:∀ (k:Nat) (rem:List Nat),rem.length=k→rem.Sublist is→∀ w' a,Has n e a→J rem w'→Z0P P .any ops S (fun j=>Lt.contains j) (fun a w=>Q .normal a w) (k+wt rest) (lst listed is rem) a w':=by
  intro k
  induction k with
  | zero=>
    intro rem hl hr w' a ha hJ;obtain rfl:=Xv.1 hl;rw [XJ];exact (fin w' hJ).h _ hs hrest a ha
  | succ k ih=>
    intro rem hl hr w' a ha hJ;rw [show k+1+wt rest=(k+wt rest)+1 by omega];refine ⟨fun h=>?_,fun j hj=>?_⟩;rw [hready rem hr (by omega)] at h;subst h;simp at hl;rw [hready rem hr (by omega)] at hj;obtain ⟨o,hi,hdst,hg,hp⟩:=step rem j w' hr hj hJ;unfold wpOp;simp only [hi];rw [if_pos (Jt ha hg)];refine .inl (Oper.wp_mono ?_ (hp.h a ha _));rintro a' w'' ⟨v,rfl,hs',hJ'⟩;refine ⟨hs',?_⟩;rw [Ziw (hr.nodup hnd) hr hj,hdst];exact ih _ (by rw [List.length_erase_of_mem hj];omega) (List.erase_sublist.trans hr) w'' _ ha hJ'
 have:=key is.length is rfl (Ybr _) w a ha h0
 rwa [Zm7] at this
theorem Z76 {o:Oper} {dst:Option Nat} {G:Value→World→Prop} (hi:ops[i]?=some o) (hdst:o.dst=dst) (hg:Zz ops e o.guard) (hp:OE P n o e w (fun v w'=>(Stp S w w'∨Lt.contains i=true)∧G v w'))
 (k:∀ v w' a',G v w'→∀ a,Has n e a→a'=a.put dst v→∃ e',Has n e' a'∧WD P n ops S Lt Q rest e' w'):WD P n ops S Lt Q ((i,2) :: rest) e w:=
 Ziu (Zit hi hdst hg hp k)
theorem Zix (hi:ops[i]?=some ⟨some d,op,ty,pos,af,gd⟩) (hg:noB ops e gd=true) (hdn:Nat.blt d n=true)
 (k:WD P n ops S Lt Q rest ((d,undef) :: e) w):WD P n ops S Lt Q ((i,2) :: rest) e w:=by
 refine Ziu ⟨fun listed hs h3 a ha=>?_⟩;unfold wpOp;simp only [hi];have hw:=Z2L (o:=⟨some d,op,ty,pos,af,gd⟩) ha hg;rw [if_neg (by simp [hw])];exact ⟨.inl (Stp.refl _ _),k.h _ hs h3 _ (ha.put (v:=undef) hdn)⟩
theorem Z48 {G:Value→World→Prop} (hi:ops[i]?=some ⟨some d,op,ty,pos,af,gd⟩) (hg:Zz ops e gd) (hp:OE P n ⟨some d,op,ty,pos,af,gd⟩ e w G) (hG:∀ v w',G v w'→Stp S w w') (hdn:Nat.blt d n=true)
 (k:∀ v w',G v w'→WD P n ops S Lt Q rest ((d,v) :: e) w'):WD1 P n ops S Lt Q i rest e w:=
 Zit (G:=G) hi rfl hg (hp.mono fun v w' h=>⟨.inl (hG v w' h),h⟩) (fun v w' a' h a ha e=>⟨_,by rw [e];exact ha.put hdn,k v w' h⟩)
theorem Zc {G:Value→World→Prop} (hi:ops[i]?=some ⟨some d,op,ty,pos,af,gd⟩) (hg:Zz ops e gd) (hp:OE P n ⟨some d,op,ty,pos,af,gd⟩ e w G) (hG:∀ v w',G v w'→Stp S w w') (hdn:Nat.blt d n=true)
 (k:∀ v w',G v w'→WD P n ops S Lt Q rest ((d,v) :: e) w'):WD P n ops S Lt Q ((i,2) :: rest) e w:=
 Z76 (G:=G) hi rfl hg (hp.mono fun v w' h=>⟨.inl (hG v w' h),h⟩) (fun v w' a' h a ha e=>⟨_,by rw [e];exact ha.put hdn,k v w' h⟩)
theorem ZH {G:Value→World→Prop} (hi:ops[i]?=some ⟨none,op,ty,pos,af,gd⟩) (hg:Zz ops e gd) (hp:OE P n ⟨none,op,ty,pos,af,gd⟩ e w G) (hG:∀ v w',G v w'→Stp S w w')
 (k:∀ v w',G v w'→WD P n ops S Lt Q rest e w'):WD P n ops S Lt Q ((i,2) :: rest) e w:=
 Z76 (G:=G) hi rfl hg (hp.mono fun v w' h=>⟨.inl (hG v w' h),h⟩) (fun v w' a' h a ha e=>⟨_,by rw [e];exact ha,k v w' h⟩)
theorem Zm8 {G:Value→World→Prop} (hi:ops[i]?=some ⟨some d,op,ty,pos,af,gd⟩) (hg:Zz ops e gd) (hp:OE P n ⟨some d,op,ty,pos,af,gd⟩ e w G) (hL:Lt.contains i=true) (hdn:Nat.blt d n=true)
 (k:∀ v w',G v w'→WD P n ops S Lt Q rest ((d,v) :: e) w'):WD P n ops S Lt Q ((i,2) :: rest) e w:=
 Z76 (G:=G) hi rfl hg (hp.mono fun v w' h=>⟨.inr hL,h⟩) (fun v w' a' h a ha e=>⟨_,by rw [e];exact ha.put hdn,k v w' h⟩)
theorem Jy {G:Value→World→Prop} (hi:ops[i]?=some ⟨none,op,ty,pos,af,gd⟩) (hg:Zz ops e gd) (hp:OE P n ⟨none,op,ty,pos,af,gd⟩ e w G) (hL:Lt.contains i=true)
 (k:∀ v w',G v w'→WD P n ops S Lt Q rest e w'):WD P n ops S Lt Q ((i,2) :: rest) e w:=
 Z76 (G:=G) hi rfl hg (hp.mono fun v w' h=>⟨.inr hL,h⟩) (fun v w' a' h a ha e=>⟨_,by rw [e];exact ha,k v w' h⟩)
theorem Ziy {ord:List (Nat×Nat)} {j:Nat} {p:Prop} [Decidable p] (hy:look e j=some (.B (decide p)))
 (ht:p→WD P n ops S Lt Q ord ((j,.B true) :: e) w) (hf:¬ p→WD P n ops S Lt Q ord ((j,.B false) :: e) w):WD P n ops S Lt Q ord e w:=by
 refine ⟨fun listed hs hB a ha=>?_⟩;by_cases hp:p;exact (ht hp).h _ hs hB a (ha.same hy (by simp [hp]));exact (hf hp).h _ hs hB a (ha.same hy (by simp [hp]))
theorem Zy {i q j d:Nat} {b:Bool} {o:Oper} {p:Prop} [Decidable p] (hi:ops[i]?=some o) (hg:o.guard=some (j,b)) (hj:Zeq ops j=some d) (hy:look e d=some (.B (decide p)))
 (ht:p→WD P n ops S Lt Q ((i,q) :: rest) ((d,.B true) :: e) w) (hf:¬ p→WD P n ops S Lt Q ((i,q) :: rest) ((d,.B false) :: e) w):WD P n ops S Lt Q ((i,q) :: rest) e w:=
 Ziy hy ht hf
theorem Zr {i q j d:Nat} {b:Bool} {o:Oper} {t:Bool} (hi:ops[i]?=some o) (hg:o.guard=some (j,b)) (hj:Zeq ops j=some d) (hy:look e d=some (.B t))
 (ht:t=true→WD P n ops S Lt Q ((i,q) :: rest) ((d,.B true) :: e) w) (hf:t=false→WD P n ops S Lt Q ((i,q) :: rest) ((d,.B false) :: e) w):WD P n ops S Lt Q ((i,q) :: rest) e w:=by
 refine ⟨fun listed hs hB a ha=>?_⟩;cases t;exact (hf rfl).h _ hs hB a (ha.same hy rfl);exact (ht rfl).h _ hs hB a (ha.same hy rfl)
end rules
theorem ZDr {P:Program} {n:Nat} {Q:Exit→Act→World→Prop} {e:Env} {w} {id:Nat} {l:List Oper} (m:Nat) (S:List Nat) (Lt:List Nat) (ord:List (Nat×Nat)) (h:∀ w',Stp [] w w'→WD P n l.toArray S Lt Q ord e w') (hlm:l.length=m:=by exact rfl) (hm:P.follows .mixedOrders=true:=by kernel_rfl) (hs:Region.noSelect l.toArray=true:=by kernel_rfl) (hl:Nat.beq (wt ord) l.length=true:=by kernel_rfl)
 (hB:J9 l.toArray Lt ord (Array.replicate m false)=true:=by kernel_rfl):WC P n (.region id l.toArray true) Q e w:=Z7n m S Lt ord hlm hm hs hl hB h
theorem Z0W {k:Nat}:∀ (l:List (List Value)),(∀ c∈l,c.length=k)→l.flatten.length=l.length * k
 | [],_=>by simp
 | c :: r, h => by
   simp only [Yag,Xc,Xe,X8];rw [Z0W r (fun c hc=>h c (by simp [hc])),h c (by simp)];omega
theorem Z1l {k:Nat}:∀ (css:List (List Value)),(∀ c∈css,c.length=k)→∀ (i:Nat),i<css.length→∀ (cs:List Value),
 (css.set i cs).flatten=css.flatten.take (i * k)++cs++css.flatten.drop (i * k+k)
 | [],_,i,hi,_=>absurd hi (Xu _)
 | c :: r, hk, 0, _, cs => by
   have hc:=hk c (by simp);simp [hc]
 | c :: r, hk, i + 1, hi, cs => by
   have hc:=hk c (by simp);have ih:=Z1l r (fun c hc=>hk c (by simp [hc])) i (by simpa using hi) cs;simp only [List.set_cons_succ,Yag,ih,X8];rw [Yaw,List.drop_append,hc];rw [XH (l:=c) (by omega),show c.drop (i * k+k+k)=[] from Yau (by omega)];rw [show i * k+k - k=i * k by omega,show i * k+k+k - k=i * k+k by omega];simp [Xx]
theorem Z2M {k:Nat}:∀ (css:List (List Value)),(∀ c∈css,c.length=k)→∀ (i:Nat) (hi:i<css.length) (j:Nat) (hj:j<k) (u:Value),
 (css.set i (css[i].set j u)).flatten=css.flatten.set (i * k+j) u
 | [],_,i,hi,_,_,_=>absurd hi (Xu _)
 | c :: r, hk, 0, _, j, hj, u => by
   have hc:=hk c (by simp);simp [hc,hj]
 | c :: r, hk, i + 1, hi, j, hj, u => by
   have hc:=hk c (by simp);have ih:=Z2M r (fun c hc=>hk c (by simp [hc])) i (by simpa using hi) j hj u;simp only [List.set_cons_succ,Yag,List.getElem_cons_succ,ih,X8];rw [YbD,if_neg (by omega),hc];rw [show i * k+k+j - k=i * k+j by omega]
section row
variable {α:Type} [Z7 α] {X:List Nat} {w w':World} {base T:Nat} {v:Value} {xs:List α}
variable {P:Program} {n:Nat} {e:Env} {d:Option Nat} {ty:TypeId} {pos:String} {af:Array Edge} {g:Option (Nat×Bool)}
theorem Row.isSome (h:Row X w base T v xs) {i:Nat} (hi:i<xs.length):∃ q l c,v=.slice (some ⟨q,0,none⟩) l c:=by
 obtain ⟨css,hl,hr,ho⟩:=h;rcases ho.2 with ⟨rfl,hn⟩|⟨q,cap,cur,rfl,hb,hg,hnc,hcm,hcs,ht⟩
 omega;exact ⟨_,_,_,rfl⟩
theorem Z7p {i k:Nat} {t:TypeId} {x y:Operand} {u:Value} {y':α} [hsz:Siz P t k] (hx:ev e x=some (.pointer (some (Zp v i k 0)))) (hy:ev e y=some u) (hk:k=Z7.k α)
 (hr':Z7.rep (ob v++X) w y' u.cells.toList) (hrow:Row X w base T v xs) (hX:∀ b∈X,b<base) (hi:i<xs.length) :
 OE P n ⟨d,.store t x y,ty,pos,af,g⟩ e w (fun _ w'=>Row X w' base T v (xs.set i y')∧Stp (ob v) w w'):=by
 have hrow0:=hrow;obtain ⟨css,hl,hr,ho⟩:=hrow;have hlen:∀ c∈css,c.length=Z7.k α:=by
  intro c hc;obtain ⟨q,hq,rfl⟩:=Xr hc;exact Z7.len (hr q (by omega) hq)
 rcases ho.2 with ⟨rfl,hn⟩|⟨q,cap,cur,rfl,hb,hg,hnc,hcm,hcs,ht⟩
 omega;subst hk;have hul:u.cells.toList.length=Z7.k α:=Z7.len hr';have hfit:i * Z7.k α+u.cells.toList.length≤cur.size:=by
  rw [hul,hcs,← X8];exact Xp _ (by omega)
 have hst:=run_storeCells_at P q (i * Z7.k α) T u.cells.toList 0 cur w hg (by simpa using hfit) (Z7.one hr');simp only [Ybk] at hst;have hus:u.cells.size=Z7.k α:=by simpa using hul
 have hSt:Stp [q] w (w.setRow q (cur.toList.take (i * Z7.k α)++u.cells.toList++cur.toList.drop (i * Z7.k α+u.cells.toList.length)).toArray):=Z1O _ _ _;refine Z47 (w':=w.setRow q (cur.toList.take (i * Z7.k α)++u.cells.toList++cur.toList.drop (i * Z7.k α+u.cells.toList.length)).toArray) (fun a ha=>?_) ⟨⟨css.set i u.cells.toList,by simp [hl],fun j hj hj'=>?_,?_,.inr ⟨q,cap,_,by simp,hb,setRow_heap w q cur _ T (0,0) hg,by simpa using hnc,hcm,?_,?_⟩⟩,hSt⟩;have hel:Zp (.slice (some ⟨q,0,none⟩) xs.length cap) i (Z7.k α) 0=⟨q,i * Z7.k α,none⟩:=by simp [Zp]
 rw [hel] at hx;simp [execOp,ha.ev hx,ha.ev hy,Instr.storeAt,Instr.sureAddr,storeVar,Siz.run,hus,hst];have hS1:∀ b∈[q],b∈ob (.slice (some ⟨q,0,none⟩) xs.length cap)++X:=by simp [ob]
 by_cases hij:i=j;subst hij;simp only [Ya9];exact Z7.ext hr' hSt hS1 (fun b hb=>.inl hb);simp only [YaI hij];exact Z7.ext (hr j (by simpa using hj) (by simpa using hj')) hSt hS1 (fun b hb=>.inl hb);rw [Z1l css hlen i (by omega)];have h1:=ho.1;simp only [Xc,Xt,Yaf,X4,hul,h1];have:(i+1) * Z7.k α≤xs.length * Z7.k α:=Xp _ (by omega);rw [X8] at this;omega;simp only [Yar,Xc,Xt,Yaf,Yah,hul,hcs];rw [hul,hcs] at hfit;omega;rw [Z1l css hlen i (by omega),← ht];have h2:(i+1) * Z7.k α≤xs.length * Z7.k α:=Xp _ (by omega);rw [X8] at h2;have h3:i * Z7.k α≤cur.toList.length:=by simp [hcs];exact Xg (by omega) (Xp _ hnc)
 simp only [X4,hul];rw [Yaw,Yaw,YaA,YaA,Ybn];simp only [Xc,Xt,hul];rw [Yad h3,XH (l:=u.cells.toList) (by rw [hul];omega)];rw [Ybx (by omega:i * Z7.k α≤xs.length * Z7.k α),Yad (by omega:i * Z7.k α≤xs.length * Z7.k α)]
theorem Z49 {β:Type} [Z3 β] {xs:List β} {i j k:Nat} {t:TypeId} {x y:Operand} {u:Value} {y':β} [hsz:Siz P t 1] (hx:ev e x=some (.pointer (some (Zp v i k j)))) (hy:ev e y=some u) (hk:k=Z3.k β)
 (hu:u.cells.toList=[u]) (h1:u.oneCell'=true) (hrow:Row X w base T v xs) (hi:i<xs.length) (hj:j<Z3.k β) (hr':Z3.enc y'=(Z3.enc xs[i]).set j u) :
 OE P n ⟨d,.store t x y,ty,pos,af,g⟩ e w (fun _ w'=>Row X w' base T v (xs.set i y')∧Stp (ob v) w w'):=by
 obtain ⟨css,hl,hr,ho⟩:=hrow;have hlen:∀ c∈css,c.length=Z7.k β:=by
  intro c hc;obtain ⟨q,hq,rfl⟩:=Xr hc;exact Z7.len (hr q (by omega) hq)
 have hkk:Z7.k β=Z3.k β:=rfl;rcases ho.2 with ⟨rfl,hn⟩|⟨q,cap,cur,rfl,hb,hg,hnc,hcm,hcs,ht⟩
 omega;subst hk;have hlt:i * Z3.k β+j<xs.length * Z3.k β:=by
  have:(i+1) * Z3.k β≤xs.length * Z3.k β:=Xp _ (by omega);rw [X8] at this;omega
 have hfit:i * Z3.k β+j+[u].length≤cur.size:=by
  rw [hcs,hkk];have:=Xp (Z3.k β) hnc;simp only [List.length_singleton];omega
 have hst:=run_storeCells_at P q (i * Z3.k β+j) T [u] 0 cur w hg (by simpa using hfit) (by simpa using h1);simp only [Ybk] at hst;have hus:u.cells.size=1:=by rw [← Yah,hu];rfl
 have hSt:Stp [q] w (w.setRow q (cur.toList.take (i * Z3.k β+j)++[u]++cur.toList.drop (i * Z3.k β+j+[u].length)).toArray):=Z1O _ _ _;have hcsi:css[i]'(by omega)=Z3.enc xs[i]:=hr i hi (by omega);refine Z47 (w':=w.setRow q (cur.toList.take (i * Z3.k β+j)++[u]++cur.toList.drop (i * Z3.k β+j+[u].length)).toArray) (fun a ha=>?_) ⟨⟨css.set i ((css[i]'(by omega)).set j u),by simp [hl],fun m hm hm'=>?_,?_,.inr ⟨q,cap,_,by simp,hb,setRow_heap w q cur _ T (0,0) hg,by simpa using hnc,hcm,?_,?_⟩⟩,hSt⟩;have hel:Zp (.slice (some ⟨q,0,none⟩) xs.length cap) i (Z3.k β) j=⟨q,i * Z3.k β+j,none⟩:=by simp [Zp]
 rw [hel] at hx;simp [execOp,ha.ev hx,ha.ev hy,Instr.storeAt,Instr.sureAddr,storeVar,Siz.run,hus,hu,hst];by_cases hij:i=m;subst hij;simp only [Ya9];show _=Z3.enc y';rw [hcsi,hr'];simp only [YaI hij];exact hr m (by simpa using hm) (by simpa using hm');rw [Z2M css hlen i (by omega) j hj];simpa using ho.1;simp only [Yar,Xc,Xt,Yaf,Yah];omega;rw [Z2M css hlen i (by omega) j hj,← ht];have hsz:i * Z3.k β+j<cur.toList.length:=by simp;simp at hfit;omega
 simp only [X4,hkk];rw [show cur.toList.take (i * Z3.k β+j)++[u]++cur.toList.drop (i * Z3.k β+j+[u].length)=cur.toList.set (i * Z3.k β+j) u by
  rw [List.set_eq_take_append_cons_drop,if_pos hsz];simp]
 rw [List.take_set]
def slc (v:Value) (l h k:Nat):Value:=
 match v with
 | .slice a _ c=>.slice (if c=l then a else a.map (·.add (l * k))) (h - l) (c - l)
 | v=>v
theorem SlV.slc (h:SlV X w v xs) {l r:Nat} (hl:l≤r) (hr:r≤xs.length):SlV X w (slc v l r (Z7.k α)) ((xs.take r).drop l):=by
 obtain ⟨p,c,rfl,hlen,hm,hn,hc⟩:=h;have hlen2:((xs.take r).drop l).length=r - l:=by simp;omega
 refine ⟨if c=l then p else p.map (·.add (l * Z7.k α)),c - l,by simp [Eng.slc,hlen2],by omega,by omega,?_,fun i hi=>?_⟩;intro hp;split at hp;omega
 · cases p with
   | none=>have:=hn rfl;omega
   | some a=>simp at hp
 have hi2:l+i<xs.length:=by omega
 obtain ⟨b,o,cs,rfl,hb,hx,hrep,hcell⟩:=hc (l+i) hi2;refine ⟨b,o+l * Z7.k α,cs,?_,hb,hx,by simpa using hrep,fun j u hu=>?_⟩;rw [if_neg (by omega)];simp [Addr.add_lit];have:=hcell j u hu;rw [show o+l * Z7.k α+i * Z7.k α+j=o+(l+i) * Z7.k α+j by rw [Nat.add_mul];omega];exact this
theorem Z1d {t el k:Nat} {x hi:Operand} {r:Nat} {b:Int} [hu:Und P t (.slice el)] [hk:Siz P el k] {w₀:World} (hx:ev e x=some v) (hs:SlV X w₀ v xs) (hb:ev e hi=some (.I b))
 (hbr:b=(r:Int)) (hrx:r≤xs.length):PR P n ⟨d,.slice t x none (some hi) none,ty,pos,af,g⟩ e w (slc v 0 r k):=by
 refine ⟨fun act ha'=>?_⟩;obtain ⟨p,c,rfl,hlen,hm,hn,hc⟩:=hs;subst hbr;simp [execOp,ha'.ev hx,ha'.ev hb,Instr.sliceAt,run_underlying hu.h,Instr.slice,Instr.sliceBounds,Instr.sliceBound,asIntOf,Siz.run,Eng.slc,show r≤c by omega]
theorem Z2N {t el k:Nat} {x lo:Operand} {l:Nat} {a:Int} [hu:Und P t (.slice el)] [hk:Siz P el k] {w₀:World} (hx:ev e x=some v) (hs:SlV X w₀ v xs) (ha:ev e lo=some (.I a))
 (hal:a=(l:Int)) (hlx:l≤xs.length):PR P n ⟨d,.slice t x (some lo) none none,ty,pos,af,g⟩ e w (slc v l xs.length k):=by
 refine ⟨fun act ha'=>?_⟩;obtain ⟨p,c,rfl,hlen,hm,hn,hc⟩:=hs;subst hal;simp [execOp,ha'.ev hx,ha'.ev ha,Instr.sliceAt,run_underlying hu.h,Instr.slice,Instr.sliceBounds,Instr.sliceBound,asIntOf,Siz.run,Eng.slc,hlx]
theorem Z56 {k:Nat}:∀ (css:List (List Value)),(∀ c∈css,c.length=k)→∀ (i:Nat),(css.take i).flatten=css.flatten.take (i * k)
 | [],_,i=>by simp
 | c :: r,hk,0=>by simp
 | c :: r, hk, i + 1 => by
   have hc:=hk c (by simp);have ih:=Z56 r (fun c hc=>hk c (by simp [hc])) i;simp only [YaV,Yag,ih,X8];rw [Yaw,hc,XH (l:=c) (by omega),show i * k+k - k=i * k by omega]
theorem Ziz (v:Value) (r k:Nat):ob (slc v 0 r k)=ob v:=by
 cases v<;>try rfl
 rename_i a l c;cases a with
 | none=>simp [slc,ob]
 | some a=>by_cases hc:c=0<;>simp [slc,ob,hc,Addr.add]
theorem Row.cut (h:Row X w base T v xs) {r:Nat} (hr:r≤xs.length):Row X w base T (slc v 0 r (Z7.k α)) (xs.take r):=by
 obtain ⟨css,hl,hrep,ho⟩:=h;have hlen:∀ c∈css,c.length=Z7.k α:=by
  intro c hc;obtain ⟨q,hq,rfl⟩:=Xr hc;exact Z7.len (hrep q (by omega) hq)
 refine ⟨css.take r,by simp [hl],fun i hi hi'=>?_,?_,?_⟩;rw [Ziz];simp only [List.getElem_take];exact hrep i (by simp at hi;omega) (by simp at hi';omega);rw [Z0W _ (fun c hc=>hlen c (Yaq hc))];simp [hl];rcases ho.2 with ⟨rfl,hn⟩|⟨q,cap,cur,rfl,hb,hg,hnc,hcm,hcs,ht⟩
 exact .inl ⟨by simp [Eng.slc];omega,by simp;omega⟩;refine .inr ⟨q,cap,cur,?_,hb,hg,by simp;omega,hcm,hcs,?_⟩;simp [Eng.slc,Addr.add,Xt,Yad hr];rw [Z56 css hlen,← ht,YaA,Xt,Yad hr];congr 1;have:=Xp (Z7.k α) hr;omega
end row
section misc
variable {P:Program} {n:Nat} {e:Env} {w:World} {d:Option Nat} {ty:TypeId} {pos:String} {af:Array Edge} {g:Option (Nat×Bool)}
def Z0m (e:Env):List (Nat×Operand)→Option (List (Nat×Value))
 | []=>some []
 | (i, x) :: r => match ev e x, Z0m e r with
   | some v,some l=>some ((i,v) :: l)
   | _,_=>none
theorem Has.parts {a:Act} (ha:Has n e a):∀ {l:List (Nat×Operand)} {vs:List (Nat×Value)},Z0m e l=some vs→l.map (fun (p:Nat×Operand)=>(p.1,a.eval p.2))=vs
 | [],vs,h=>by simp [Z0m] at h;simp [h]
 | (i, x) :: r, vs, h => by
   simp only [Z0m] at h;cases hx:Eng.ev e x with
   | none=>simp [hx] at h
   | some v=>
     cases hr:Z0m e r with
     | none=>simp [hx,hr] at h
     | some l=>
       simp [hx,hr] at h;subst h;simp [ha.ev hx,Has.parts ha hr]
theorem Z0H {t:TypeId} {l:List (Nat×Operand)} {vs:List (Nat×Value)} {u:Value} (hv:Z0m e l=some vs) (hb:∀ w,(Instr.build t vs.toArray).run P w=.ok u w):PR P n ⟨d,.build t l.toArray,ty,pos,af,g⟩ e w u:=
 ⟨fun a ha => by
   have h1:=ha.parts hv;have h2:l.toArray.map (fun (x:Nat×Operand)=>match x with|(i,x)=>(i,a.eval x))=vs.toArray:=by
    rw [Yby];exact congrArg List.toArray h1
   simp only [execOp];rw [h2];simp [hb]⟩
def Z6 (w:World) (T:TypeId) (len:Nat) (cs:List Value) (v:Value) (w':World):Prop:=∃ b,v=.slice (some ⟨b,0,none⟩) len len∧w.heap.size≤b∧Blk w' b T cs∧Stp [] w w'
theorem Z0 {t T len:Nat} {l:List (Nat×Operand)} {vs:List (Nat×Value)} {cs:List Value} (hv:Z0m e l=some vs)
 (hb:∀ w:World,(Instr.buildSlice t len vs.toArray).run P w=.ok (.slice (some ⟨w.heap.size,0,none⟩) len len) (w.alloc (.cells cs.toArray T))) :
 OE P n ⟨d,.buildSlice t len l.toArray,ty,pos,af,g⟩ e w (Z6 w T len cs):=
 Jd (v:=.slice (some ⟨w.heap.size,0,none⟩) len len) (w':=w.alloc (.cells cs.toArray T)) (fun a ha=>by
  have h1:=ha.parts hv;have h2:l.toArray.map (fun (x:Nat×Operand)=>match x with|(i,x)=>(i,a.eval x))=vs.toArray:=by
   rw [Yby];exact congrArg List.toArray h1
  simp only [execOp];rw [h2];simp [hb w]) ⟨w.heap.size,rfl,Xn _,heap_alloc_new w _,Stp.alloc _ _ _⟩
theorem Z6.slv {β:Type} [Z3 β] {X:List Nat} {T len:Nat} {cs:List Value} {v:Value} {w':World} {ys:List β} (h:Z6 w T len cs v w') (hX:∀ b∈X,b<w.heap.size) (hl:len=ys.length) (hc:cs=ys.flatMap Z3.enc) (hm:ys.length≤maxLen):SlV X w' v ys:=by
 obtain ⟨b,rfl,hb,hblk,hS⟩:=h;subst hl;refine ⟨some ⟨b,0,none⟩,ys.length,rfl,Xn _,hm,fun h=>by simp at h,fun i hi=>⟨b,0,Z3.enc ys[i],rfl,hblk.lt,fun hx=>by have:=hX b hx;omega,rfl,fun j u hu=>?_⟩⟩;subst hc;refine hblk.cell ?_;have hk:∀ c∈ys.map Z3.enc,c.length=Z3.k β:=by
  intro c hc;obtain ⟨y,_,rfl⟩:=XC.1 hc;exact Z3.len y
 have:=Z0q (ys.map Z3.enc) hk i (by simpa using hi) j u (by simpa using hu);rw [Ybb,XJ];exact this
theorem Z6.row {β:Type} [Z3 β] {X:List Nat} {T len base:Nat} {cs:List Value} {v:Value} {w':World} {ys:List β} (h:Z6 w T len cs v w') (hbase:base≤w.heap.size) (hl:len=ys.length) (hc:cs=ys.flatMap Z3.enc) (hm:ys.length≤maxLen):Row X w' base T v ys:=by
 obtain ⟨b,rfl,hb,hblk,hS⟩:=h;subst hl;subst hc;have hk:∀ c∈ys.map Z3.enc,c.length=Z3.k β:=by
  intro c hc;obtain ⟨y,_,rfl⟩:=XC.1 hc;exact Z3.len y
 have hfl:(ys.flatMap Z3.enc).length=ys.length * Z3.k β:=by rw [Ybb,Z0W _ hk,Xs]
 refine ⟨ys.map Z3.enc,by simp,fun i hi hi'=>(by simp:(ys.map Z3.enc)[i]=Z3.enc ys[i]),?_,.inr ⟨b,ys.length,(ys.flatMap Z3.enc).toArray,rfl,by omega,hblk,Xn _,hm,by rw [Yar];exact hfl,?_⟩⟩;rw [← Ybb];exact hfl;rw [← Ybb];exact XH (by show (ys.flatMap Z3.enc).length≤_;rw [hfl];exact Xn _)
theorem Zm9 {x y:Operand} {t u:TypeId} {p q:Value} {c:Prop} [Decidable c] (hx:ev e x=some p) (hy:ev e y=some q) (hg:∀ w,(eqGuard .eql t x y p q).run P w=.ok () w) (h:∀ w,(binOp .eql t p q).run P w=.ok (.B (decide c)) w) :
 PR P n ⟨d,.binOp .eql t x y u,ty,pos,af,g⟩ e w (.B (decide c)):=⟨fun a ha=>by simp [execOp,ha.ev hx,ha.ev hy,h,hg]⟩
theorem Zeu {x y:Operand} {t u:TypeId} {p q:Value} {c:Prop} [Decidable c] (hx:ev e x=some p) (hy:ev e y=some q) (hg:∀ w,(eqGuard .neq t x y p q).run P w=.ok () w) (h:∀ w,(binOp .neq t p q).run P w=.ok (.B (decide (¬ c))) w) :
 PR P n ⟨d,.binOp .neq t x y u,ty,pos,af,g⟩ e w (.B (decide (¬ c))):=⟨fun a ha=>by simp only [execOp,ha.ev hx,ha.ev hy];simp [h,hg]⟩
end misc
section post
variable {P:Program} {n:Nat} {fn:Func} {R:Ending→World→Prop} {e:Env} {w:World} {Q:Exit→Act→World→Prop}
theorem Z6y {t b T m:Nat} {D:TypeDesc} {cs:List Value} [hu:Und P t D] (hA:JV D=true) [hs:Siz P t m] (hb:Blk w b T cs) (hl:cs.length=m):(loadVar t ⟨b,0,none⟩).run P w=.ok (.agg cs.toArray) w:=by
 have:=run_loadCells_list (P:=P) w ⟨b,0,none⟩ cs (fun j v h=>by rw [Addr.add_lit,XJ];exact hb.cell h);rw [hl] at this;simp [loadVar,Und.isAgg,hA,Siz.run,this]
theorem Zk {t b T T' m:Nat} {D:TypeDesc} {cs:List Value} (hr:fn.results=#[.cell t T']) [hu:Und P T' D] (hA:JV D=true) [hs:Siz P T' m] (ht:look e t=some (pQ b)) (hb:Blk w b T cs) (hl:cs.length=m)
 (h:R (.returned (.agg cs.toArray)) w):WQ n (bodyPost P fn R) .ret e w:=
 ⟨fun a ha => ⟨ha.defers, .agg cs.toArray, by
   have h1:=ha.vals _ _ ht;rw [Xz] at h1;simp [results,hr,h1,asAddr,Z6y hA hb hl],h⟩⟩
theorem Zl {t b T T' m s:Nat} {D:TypeDesc} {cs:List Value} {v:Value} (hr:fn.results=#[.cell t T',.tmp s]) [hu:Und P T' D] (hA:JV D=true) [hs:Siz P T' m] (ht:look e t=some (pQ b)) (hb:Blk w b T cs) (hl:cs.length=m)
 (hv:look e s=some v) (h:R (.returned (.tuple #[.agg cs.toArray,v])) w):WQ n (bodyPost P fn R) .ret e w:=
 ⟨fun a ha => ⟨ha.defers, .tuple #[.agg cs.toArray, v], by
   have h1:=ha.vals _ _ ht;have h2:=ha.vals _ _ hv;rw [Xz] at h1 h2;simp [results,hr,h1,h2,asAddr,Z6y hA hb hl],h⟩⟩
end post
theorem Zoj {P:Program} {n:Nat} {o:Oper} {e:Env} {w} {v:Value} (h:PR P n o e w v):OE P n o e w (fun u w'=>u=v∧w'=w):=Jd h.h ⟨rfl,rfl⟩
section
variable {P:Program} {n:Nat} {Q:Exit→Act→World→Prop} {e:Env} {w:World} {ops:Array Oper} {S:List Nat} {Lt:List Nat} {rest:List Oper} {ord:List (Nat×Nat)} {d₀ i₀:Nat} {ty:TypeId} {pos:String} {af:Array Edge} {gd:Option (Nat×Bool)}
theorem Z57 {x:Operand} {v:Value} (hx:ev e x=some v) (hdn:Nat.blt d₀ n=true) (kk:WL P n ops Q rest ((d₀,v) :: e) w):WL P n ops Q (⟨some d₀,.move x,ty,pos,af,none⟩ :: rest) e w:=by
 refine Z4 (v:=v) ?_ hdn kk;apply ZY<;>assumption
theorem Zma {x:Operand} {v:Value} (hi₀:ops[i₀]?=some ⟨some d₀,.move x,ty,pos,af,gd⟩) (hg₀:Zz ops e gd) (hx:ev e x=some v) (hdn:Nat.blt d₀ n=true) (kk:WD P n ops S Lt Q ord ((d₀,v) :: e) w):WD P n ops S Lt Q ((i₀,0) :: ord) e w:=by
 refine ZA (v:=v) hi₀ hg₀ (fun w'=>?_) hdn kk;apply ZY<;>assumption
theorem Z2v {x:Operand} {v:Value} (hx:ev e x=some v) (hdn:Nat.blt d₀ n=true) (kk:WL P n ops Q rest ((d₀,v) :: e) w):WL P n ops Q (⟨some d₀,.assign x,ty,pos,af,none⟩ :: rest) e w:=by
 refine Z4 (v:=v) ?_ hdn kk;apply Z5P<;>assumption
theorem Zfn {x:Operand} {v:Value} (hi₀:ops[i₀]?=some ⟨some d₀,.assign x,ty,pos,af,gd⟩) (hg₀:Zz ops e gd) (hx:ev e x=some v) (hdn:Nat.blt d₀ n=true) (kk:WD P n ops S Lt Q ord ((d₀,v) :: e) w):WD P n ops S Lt Q ((i₀,0) :: ord) e w:=by
 refine ZA (v:=v) hi₀ hg₀ (fun w'=>?_) hdn kk;apply Z5P<;>assumption
theorem Zfo {c x y:Operand} {v:Value} (hc:ev e c=some (.B true)) (hx:ev e x=some v) (hdn:Nat.blt d₀ n=true) (kk:WL P n ops Q rest ((d₀,v) :: e) w):WL P n ops Q (⟨some d₀,.pick c x y,ty,pos,af,none⟩ :: rest) e w:=by
 refine Z4 (v:=v) ?_ hdn kk;apply Z8W<;>assumption
theorem Zfp {c x y:Operand} {v:Value} (hi₀:ops[i₀]?=some ⟨some d₀,.pick c x y,ty,pos,af,gd⟩) (hg₀:Zz ops e gd) (hc:ev e c=some (.B true)) (hx:ev e x=some v) (hdn:Nat.blt d₀ n=true) (kk:WD P n ops S Lt Q ord ((d₀,v) :: e) w):WD P n ops S Lt Q ((i₀,0) :: ord) e w:=by
 refine ZA (v:=v) hi₀ hg₀ (fun w'=>?_) hdn kk;apply Z8W<;>assumption
theorem Zfq {c x y:Operand} {v:Value} (hc:ev e c=some (.B false)) (hx:ev e y=some v) (hdn:Nat.blt d₀ n=true) (kk:WL P n ops Q rest ((d₀,v) :: e) w):WL P n ops Q (⟨some d₀,.pick c x y,ty,pos,af,none⟩ :: rest) e w:=by
 refine Z4 (v:=v) ?_ hdn kk;apply Z8X<;>assumption
theorem Zfr {c x y:Operand} {v:Value} (hi₀:ops[i₀]?=some ⟨some d₀,.pick c x y,ty,pos,af,gd⟩) (hg₀:Zz ops e gd) (hc:ev e c=some (.B false)) (hx:ev e y=some v) (hdn:Nat.blt d₀ n=true) (kk:WD P n ops S Lt Q ord ((d₀,v) :: e) w):WD P n ops S Lt Q ((i₀,0) :: ord) e w:=by
 refine ZA (v:=v) hi₀ hg₀ (fun w'=>?_) hdn kk;apply Z8X<;>assumption
theorem ZsL {t:TypeId} {x:Operand} {b:Bool} (hx:ev e x=some (.B b))  (hdn:Nat.blt d₀ n=true) (kk:WL P n ops Q rest ((d₀,(.B (!b))) :: e) w):WL P n ops Q (⟨some d₀,.unOp .not t x,ty,pos,af,none⟩ :: rest) e w:=by
 refine Z4 (v:=(.B (!b))) ?_ hdn kk;apply Zhm<;>assumption
theorem ZiA {t:TypeId} {x:Operand} (hx:ev e x=some (.B true))  (hdn:Nat.blt d₀ n=true) (kk:WL P n ops Q rest ((d₀,(.B false)) :: e) w):WL P n ops Q (⟨some d₀,.unOp .not t x,ty,pos,af,none⟩ :: rest) e w:=by
 refine Z4 (v:=(.B false)) ?_ hdn kk;apply Zhn<;>assumption
theorem ZiB {t:TypeId} {x:Operand} (hx:ev e x=some (.B false))  (hdn:Nat.blt d₀ n=true) (kk:WL P n ops Q rest ((d₀,(.B true)) :: e) w):WL P n ops Q (⟨some d₀,.unOp .not t x,ty,pos,af,none⟩ :: rest) e w:=by
 refine Z4 (v:=(.B true)) ?_ hdn kk;apply Zho<;>assumption
theorem ZsM {x y:Operand} {t u:TypeId} {a b:Int} (hx:ev e x=some (.I a)) (hy:ev e y=some (.I b)) (hr:I64 (a+b)) (hdn:Nat.blt d₀ n=true) (kk:WL P n ops Q rest ((d₀,(.I (a+b))) :: e) w):WL P n ops Q (⟨some d₀,.binOp .add t x y u,ty,pos,af,none⟩ :: rest) e w:=by
 refine Z4 (v:=(.I (a+b))) ?_ hdn kk;apply Z9R<;>assumption
theorem ZsN {x y:Operand} {t u:TypeId} {a b:Int} (hi₀:ops[i₀]?=some ⟨some d₀,.binOp .add t x y u,ty,pos,af,gd⟩) (hg₀:Zz ops e gd) (hx:ev e x=some (.I a)) (hy:ev e y=some (.I b)) (hr:I64 (a+b)) (hdn:Nat.blt d₀ n=true) (kk:WD P n ops S Lt Q ord ((d₀,(.I (a+b))) :: e) w):WD P n ops S Lt Q ((i₀,0) :: ord) e w:=by
 refine ZA (v:=(.I (a+b))) hi₀ hg₀ (fun w'=>?_) hdn kk;apply Z9R<;>assumption
theorem ZsO {x y:Operand} {t u:TypeId} {a b:Int} (hx:ev e x=some (.I a)) (hy:ev e y=some (.I b)) (hr:I64 (a - b)) (hdn:Nat.blt d₀ n=true) (kk:WL P n ops Q rest ((d₀,(.I (a - b))) :: e) w):WL P n ops Q (⟨some d₀,.binOp .sub t x y u,ty,pos,af,none⟩ :: rest) e w:=by
 refine Z4 (v:=(.I (a - b))) ?_ hdn kk;apply Z4M<;>assumption
theorem ZsP {x y:Operand} {t u:TypeId} {a b:Int} (hi₀:ops[i₀]?=some ⟨some d₀,.binOp .sub t x y u,ty,pos,af,gd⟩) (hg₀:Zz ops e gd) (hx:ev e x=some (.I a)) (hy:ev e y=some (.I b)) (hr:I64 (a - b)) (hdn:Nat.blt d₀ n=true) (kk:WD P n ops S Lt Q ord ((d₀,(.I (a - b))) :: e) w):WD P n ops S Lt Q ((i₀,0) :: ord) e w:=by
 refine ZA (v:=(.I (a - b))) hi₀ hg₀ (fun w'=>?_) hdn kk;apply Z4M<;>assumption
theorem ZsQ {x y:Operand} {t u:TypeId} {a b:Int} (hx:ev e x=some (.I a)) (hy:ev e y=some (.I b)) (hr:I64 (a * b)) (hdn:Nat.blt d₀ n=true) (kk:WL P n ops Q rest ((d₀,(.I (a * b))) :: e) w):WL P n ops Q (⟨some d₀,.binOp .mul t x y u,ty,pos,af,none⟩ :: rest) e w:=by
 refine Z4 (v:=(.I (a * b))) ?_ hdn kk;apply Zhp<;>assumption
theorem ZsR {x y:Operand} {t u:TypeId} {a b:Int} (hi₀:ops[i₀]?=some ⟨some d₀,.binOp .mul t x y u,ty,pos,af,gd⟩) (hg₀:Zz ops e gd) (hx:ev e x=some (.I a)) (hy:ev e y=some (.I b)) (hr:I64 (a * b)) (hdn:Nat.blt d₀ n=true) (kk:WD P n ops S Lt Q ord ((d₀,(.I (a * b))) :: e) w):WD P n ops S Lt Q ((i₀,0) :: ord) e w:=by
 refine ZA (v:=(.I (a * b))) hi₀ hg₀ (fun w'=>?_) hdn kk;apply Zhp<;>assumption
theorem ZsS {x:Operand} {t:TypeId} {a:Int} (hx:ev e x=some (.I a)) (hr:I64 (- a)) (hdn:Nat.blt d₀ n=true) (kk:WL P n ops Q rest ((d₀,(.I (- a))) :: e) w):WL P n ops Q (⟨some d₀,.unOp .neg t x,ty,pos,af,none⟩ :: rest) e w:=by
 refine Z4 (v:=(.I (- a))) ?_ hdn kk;apply ZoI<;>assumption
theorem Zmb {x y:Operand} {t u:TypeId} {a b:Int} (hx:ev e x=some (.I a)) (hy:ev e y=some (.I b)) (h0:0≤a) (hb:0<b) (hr:I64 a) (hdn:Nat.blt d₀ n=true) (kk:WL P n ops Q rest ((d₀,(.I (a % b))) :: e) w):WL P n ops Q (⟨some d₀,.binOp .rem t x y u,ty,pos,af,none⟩ :: rest) e w:=by
 refine Z4 (v:=(.I (a % b))) ?_ hdn kk;apply Z9S<;>assumption
theorem Zmc {x y:Operand} {t u:TypeId} {a b:Int} (hi₀:ops[i₀]?=some ⟨some d₀,.binOp .rem t x y u,ty,pos,af,gd⟩) (hg₀:Zz ops e gd) (hx:ev e x=some (.I a)) (hy:ev e y=some (.I b)) (h0:0≤a) (hb:0<b) (hr:I64 a) (hdn:Nat.blt d₀ n=true) (kk:WD P n ops S Lt Q ord ((d₀,(.I (a % b))) :: e) w):WD P n ops S Lt Q ((i₀,0) :: ord) e w:=by
 refine ZA (v:=(.I (a % b))) hi₀ hg₀ (fun w'=>?_) hdn kk;apply Z9S<;>assumption
theorem Zmd {x y:Operand} {t u:TypeId} {a b:Int} (hx:ev e x=some (.I a)) (hy:ev e y=some (.I b)) (h0:0≤a) (hb:0<b) (hr:I64 a) (hdn:Nat.blt d₀ n=true) (kk:WL P n ops Q rest ((d₀,(.I (a / b))) :: e) w):WL P n ops Q (⟨some d₀,.binOp .quo t x y u,ty,pos,af,none⟩ :: rest) e w:=by
 refine Z4 (v:=(.I (a / b))) ?_ hdn kk;apply Z9T<;>assumption
theorem Zme {x y:Operand} {t u:TypeId} {a b:Int} (hi₀:ops[i₀]?=some ⟨some d₀,.binOp .quo t x y u,ty,pos,af,gd⟩) (hg₀:Zz ops e gd) (hx:ev e x=some (.I a)) (hy:ev e y=some (.I b)) (h0:0≤a) (hb:0<b) (hr:I64 a) (hdn:Nat.blt d₀ n=true) (kk:WD P n ops S Lt Q ord ((d₀,(.I (a / b))) :: e) w):WD P n ops S Lt Q ((i₀,0) :: ord) e w:=by
 refine ZA (v:=(.I (a / b))) hi₀ hg₀ (fun w'=>?_) hdn kk;apply Z9T<;>assumption
theorem Za0 {x y:Operand} {t u:TypeId} {a b:Int} {k:IntKind} (hx:ev e x=some (.int k a)) (hy:ev e y=some (.int k b)) (hdn:Nat.blt d₀ n=true) (kk:WL P n ops Q rest ((d₀,(.B (decide (a<b)))) :: e) w):WL P n ops Q (⟨some d₀,.binOp .lss t x y u,ty,pos,af,none⟩ :: rest) e w:=by
 refine Z4 (v:=(.B (decide (a<b)))) ?_ hdn kk;apply Zhq<;>assumption
theorem ZsT {x y:Operand} {t u:TypeId} {a b:Int} {k:IntKind} (hi₀:ops[i₀]?=some ⟨some d₀,.binOp .lss t x y u,ty,pos,af,gd⟩) (hg₀:Zz ops e gd) (hx:ev e x=some (.int k a)) (hy:ev e y=some (.int k b)) (hdn:Nat.blt d₀ n=true) (kk:WD P n ops S Lt Q ord ((d₀,(.B (decide (a<b)))) :: e) w):WD P n ops S Lt Q ((i₀,0) :: ord) e w:=by
 refine ZA (v:=(.B (decide (a<b)))) hi₀ hg₀ (fun w'=>?_) hdn kk;apply Zhq<;>assumption
theorem ZsU {x y:Operand} {t u:TypeId} {a b:Int} {k:IntKind} (hx:ev e x=some (.int k a)) (hy:ev e y=some (.int k b)) (hdn:Nat.blt d₀ n=true) (kk:WL P n ops Q rest ((d₀,(.B (decide (a≤b)))) :: e) w):WL P n ops Q (⟨some d₀,.binOp .leq t x y u,ty,pos,af,none⟩ :: rest) e w:=by
 refine Z4 (v:=(.B (decide (a≤b)))) ?_ hdn kk;apply Zhr<;>assumption
theorem ZsV {x y:Operand} {t u:TypeId} {a b:Int} {k:IntKind} (hi₀:ops[i₀]?=some ⟨some d₀,.binOp .leq t x y u,ty,pos,af,gd⟩) (hg₀:Zz ops e gd) (hx:ev e x=some (.int k a)) (hy:ev e y=some (.int k b)) (hdn:Nat.blt d₀ n=true) (kk:WD P n ops S Lt Q ord ((d₀,(.B (decide (a≤b)))) :: e) w):WD P n ops S Lt Q ((i₀,0) :: ord) e w:=by
 refine ZA (v:=(.B (decide (a≤b)))) hi₀ hg₀ (fun w'=>?_) hdn kk;apply Zhr<;>assumption
theorem Za1 {x y:Operand} {t u:TypeId} {a b:Int} {k:IntKind} (hx:ev e x=some (.int k a)) (hy:ev e y=some (.int k b)) (hdn:Nat.blt d₀ n=true) (kk:WL P n ops Q rest ((d₀,(.B (decide (b<a)))) :: e) w):WL P n ops Q (⟨some d₀,.binOp .gtr t x y u,ty,pos,af,none⟩ :: rest) e w:=by
 refine Z4 (v:=(.B (decide (b<a)))) ?_ hdn kk;apply Zhs<;>assumption
theorem ZsW {x y:Operand} {t u:TypeId} {a b:Int} {k:IntKind} (hi₀:ops[i₀]?=some ⟨some d₀,.binOp .gtr t x y u,ty,pos,af,gd⟩) (hg₀:Zz ops e gd) (hx:ev e x=some (.int k a)) (hy:ev e y=some (.int k b)) (hdn:Nat.blt d₀ n=true) (kk:WD P n ops S Lt Q ord ((d₀,(.B (decide (b<a)))) :: e) w):WD P n ops S Lt Q ((i₀,0) :: ord) e w:=by
 refine ZA (v:=(.B (decide (b<a)))) hi₀ hg₀ (fun w'=>?_) hdn kk;apply Zhs<;>assumption
theorem ZsX {x y:Operand} {t u:TypeId} {a b:Int} {k:IntKind} (hx:ev e x=some (.int k a)) (hy:ev e y=some (.int k b)) (hdn:Nat.blt d₀ n=true) (kk:WL P n ops Q rest ((d₀,(.B (decide (b≤a)))) :: e) w):WL P n ops Q (⟨some d₀,.binOp .geq t x y u,ty,pos,af,none⟩ :: rest) e w:=by
 refine Z4 (v:=(.B (decide (b≤a)))) ?_ hdn kk;apply Zht<;>assumption
theorem ZsY {x y:Operand} {t u:TypeId} {a b:Int} {k:IntKind} (hi₀:ops[i₀]?=some ⟨some d₀,.binOp .geq t x y u,ty,pos,af,gd⟩) (hg₀:Zz ops e gd) (hx:ev e x=some (.int k a)) (hy:ev e y=some (.int k b)) (hdn:Nat.blt d₀ n=true) (kk:WD P n ops S Lt Q ord ((d₀,(.B (decide (b≤a)))) :: e) w):WD P n ops S Lt Q ((i₀,0) :: ord) e w:=by
 refine ZA (v:=(.B (decide (b≤a)))) hi₀ hg₀ (fun w'=>?_) hdn kk;apply Zht<;>assumption
theorem ZsZ {x y:Operand} {t u:TypeId} {a b:Int} {k:IntKind} (hx:ev e x=some (.int k a)) (hy:ev e y=some (.int k b)) (hdn:Nat.blt d₀ n=true) (kk:WL P n ops Q rest ((d₀,(.B (decide (a=b)))) :: e) w):WL P n ops Q (⟨some d₀,.binOp .eql t x y u,ty,pos,af,none⟩ :: rest) e w:=by
 refine Z4 (v:=(.B (decide (a=b)))) ?_ hdn kk;apply Zhu<;>assumption
theorem Zt0 {x y:Operand} {t u:TypeId} {a b:Int} {k:IntKind} (hi₀:ops[i₀]?=some ⟨some d₀,.binOp .eql t x y u,ty,pos,af,gd⟩) (hg₀:Zz ops e gd) (hx:ev e x=some (.int k a)) (hy:ev e y=some (.int k b)) (hdn:Nat.blt d₀ n=true) (kk:WD P n ops S Lt Q ord ((d₀,(.B (decide (a=b)))) :: e) w):WD P n ops S Lt Q ((i₀,0) :: ord) e w:=by
 refine ZA (v:=(.B (decide (a=b)))) hi₀ hg₀ (fun w'=>?_) hdn kk;apply Zhu<;>assumption
theorem ZiC {x y:Operand} {t u:TypeId} {a b:Int} {k:IntKind} (hx:ev e x=some (.int k a)) (hy:ev e y=some (.int k b)) (hdn:Nat.blt d₀ n=true) (kk:WL P n ops Q rest ((d₀,(.B (decide (¬ a=b)))) :: e) w):WL P n ops Q (⟨some d₀,.binOp .neq t x y u,ty,pos,af,none⟩ :: rest) e w:=by
 refine Z4 (v:=(.B (decide (¬ a=b)))) ?_ hdn kk;apply Zhv<;>assumption
theorem Zt1 {x y:Operand} {t u:TypeId} {a b:Int} {k:IntKind} (hi₀:ops[i₀]?=some ⟨some d₀,.binOp .neq t x y u,ty,pos,af,gd⟩) (hg₀:Zz ops e gd) (hx:ev e x=some (.int k a)) (hy:ev e y=some (.int k b)) (hdn:Nat.blt d₀ n=true) (kk:WD P n ops S Lt Q ord ((d₀,(.B (decide (¬ a=b)))) :: e) w):WD P n ops S Lt Q ((i₀,0) :: ord) e w:=by
 refine ZA (v:=(.B (decide (¬ a=b)))) hi₀ hg₀ (fun w'=>?_) hdn kk;apply Zhv<;>assumption
theorem Zmf {x y:Operand} {t u:TypeId} {p q:Bool} [hu:Und P t .bool] (hx:ev e x=some (.B p)) (hy:ev e y=some (.B q)) (hdn:Nat.blt d₀ n=true) (kk:WL P n ops Q rest ((d₀,(.B (decide (p=q)))) :: e) w):WL P n ops Q (⟨some d₀,.binOp .eql t x y u,ty,pos,af,none⟩ :: rest) e w:=by
 refine Z4 (v:=(.B (decide (p=q)))) ?_ hdn kk;apply Zl8<;>assumption
theorem Zev {x y:Operand} {t u:TypeId} {p q:Bool} [hu:Und P t .bool] (hx:ev e x=some (.B p)) (hy:ev e y=some (.B q)) (hdn:Nat.blt d₀ n=true) (kk:WL P n ops Q rest ((d₀,(.B (decide (¬ p=q)))) :: e) w):WL P n ops Q (⟨some d₀,.binOp .neq t x y u,ty,pos,af,none⟩ :: rest) e w:=by
 refine Z4 (v:=(.B (decide (¬ p=q)))) ?_ hdn kk;apply Zl9<;>assumption
theorem Zd8 {x:Operand} {vs:Array Value} {i:Nat} {v:Value} (hx:ev e x=some (.tuple vs)) (hv:vs[i]?=some v) (hdn:Nat.blt d₀ n=true) (kk:WL P n ops Q rest ((d₀,v) :: e) w):WL P n ops Q (⟨some d₀,.extract x i,ty,pos,af,none⟩ :: rest) e w:=by
 refine Z4 (v:=v) ?_ hdn kk;apply Z7k<;>assumption
theorem Zd9 {x:Operand} {vs:Array Value} {i:Nat} {v:Value} (hi₀:ops[i₀]?=some ⟨some d₀,.extract x i,ty,pos,af,gd⟩) (hg₀:Zz ops e gd) (hx:ev e x=some (.tuple vs)) (hv:vs[i]?=some v) (hdn:Nat.blt d₀ n=true) (kk:WD P n ops S Lt Q ord ((d₀,v) :: e) w):WD P n ops S Lt Q ((i₀,0) :: ord) e w:=by
 refine ZA (v:=v) hi₀ hg₀ (fun w'=>?_) hdn kk;apply Z7k<;>assumption
theorem Zt2 {x:Operand} {t:TypeId} {el:TypeId} [hu:Und P t (.slice el)] {p:Option Addr} {l c:Nat} (hx:ev e x=some (.slice p l c)) (hdn:Nat.blt d₀ n=true) (kk:WL P n ops Q rest ((d₀,(.I (l:Int))) :: e) w):WL P n ops Q (⟨some d₀,.call { callee:=.builtin .len,args:=#[x],argTypes:=#[t] },ty,pos,af,none⟩ :: rest) e w:=by
 refine Z4 (v:=(.I (l:Int))) ?_ hdn kk;apply Zhw<;>assumption
theorem Za2 {x:Operand} {t:TypeId} {b o i off:Nat} [hf:Fld P t i off] (hx:ev e x=some (.pointer (some ⟨b,o,none⟩))) (hdn:Nat.blt d₀ n=true) (kk:WL P n ops Q rest ((d₀,(.pointer (some ⟨b,o+off,none⟩))) :: e) w):WL P n ops Q (⟨some d₀,.fieldAddr t x i,ty,pos,af,none⟩ :: rest) e w:=by
 refine Z4 (v:=(.pointer (some ⟨b,o+off,none⟩))) ?_ hdn kk;apply Z1B<;>assumption
theorem Z2O {x:Operand} {t:TypeId} {b o i off:Nat} [hf:Fld P t i off] (hi₀:ops[i₀]?=some ⟨some d₀,.fieldAddr t x i,ty,pos,af,gd⟩) (hg₀:Zz ops e gd) (hx:ev e x=some (.pointer (some ⟨b,o,none⟩))) (hdn:Nat.blt d₀ n=true) (kk:WD P n ops S Lt Q ord ((d₀,(.pointer (some ⟨b,o+off,none⟩))) :: e) w):WD P n ops S Lt Q ((i₀,0) :: ord) e w:=by
 refine ZA (v:=(.pointer (some ⟨b,o+off,none⟩))) hi₀ hg₀ (fun w'=>?_) hdn kk;apply Z1B<;>assumption
theorem ZiD {x:Operand} {t:TypeId} {D:TypeDesc} {ad:Addr} {v:Value} [hu:Und P t D] (hA:JV D=false) (hx:ev e x=some (.pointer (some ad))) (hc:w.cell? ad=some v) (hdn:Nat.blt d₀ n=true) (kk:WL P n ops Q rest ((d₀,v) :: e) w):WL P n ops Q (⟨some d₀,.load t x,ty,pos,af,none⟩ :: rest) e w:=by
 refine Z4 (v:=v) ?_ hdn kk;apply Jw<;>assumption
theorem Za3 {f:Nat} {x:Operand} {v:Value} (hx:ev e x=some v) (hdn:Nat.blt d₀ n=true) (kk:WL P n ops Q rest ((d₀,(.func (.func f) #[] #[v])) :: e) w):WL P n ops Q (⟨some d₀,.makeFunc (.func f) #[] #[x],ty,pos,af,none⟩ :: rest) e w:=by
 refine Z4 (v:=(.func (.func f) #[] #[v])) ?_ hdn kk;apply Z9U<;>assumption
theorem Za4 {f:Nat} {x y:Operand} {v u:Value} (hx:ev e x=some v) (hy:ev e y=some u) (hdn:Nat.blt d₀ n=true) (kk:WL P n ops Q rest ((d₀,(.func (.func f) #[] #[v,u])) :: e) w):WL P n ops Q (⟨some d₀,.makeFunc (.func f) #[] #[x,y],ty,pos,af,none⟩ :: rest) e w:=by
 refine Z4 (v:=(.func (.func f) #[] #[v,u])) ?_ hdn kk;apply Z9V<;>assumption
theorem Za5 {f:Nat} {x y z:Operand} {v u s:Value} (hx:ev e x=some v) (hy:ev e y=some u) (hz:ev e z=some s) (hdn:Nat.blt d₀ n=true) (kk:WL P n ops Q rest ((d₀,(.func (.func f) #[] #[v,u,s])) :: e) w):WL P n ops Q (⟨some d₀,.makeFunc (.func f) #[] #[x,y,z],ty,pos,af,none⟩ :: rest) e w:=by
 refine Z4 (v:=(.func (.func f) #[] #[v,u,s])) ?_ hdn kk;apply Z9W<;>assumption
theorem Zmg {α:Type} [Z7 α] {X:List Nat} {xs:List α} {v:Value} {x:Operand} {t:TypeId} {el:TypeId} {w₀:World} [hu:Und P t (.slice el)] (hx:ev e x=some v) (hs:SlV X w₀ v xs) (hdn:Nat.blt d₀ n=true) (kk:WL P n ops Q rest ((d₀,(.I (xs.length:Int))) :: e) w):WL P n ops Q (⟨some d₀,.call { callee:=.builtin .len,args:=#[x],argTypes:=#[t] },ty,pos,af,none⟩ :: rest) e w:=by
 refine Z4 (v:=(.I (xs.length:Int))) ?_ hdn kk;apply Zes (α:=α)<;>assumption
theorem Zmh {α:Type} [Z7 α] {X:List Nat} {xs:List α} {v:Value} {x:Operand} {t:TypeId} {el:TypeId} {w₀:World} [hu:Und P t (.slice el)] (hi₀:ops[i₀]?=some ⟨some d₀,.call { callee:=.builtin .len,args:=#[x],argTypes:=#[t] },ty,pos,af,gd⟩) (hg₀:Zz ops e gd) (hx:ev e x=some v) (hs:SlV X w₀ v xs) (hdn:Nat.blt d₀ n=true) (kk:WD P n ops S Lt Q ord ((d₀,(.I (xs.length:Int))) :: e) w):WD P n ops S Lt Q ((i₀,0) :: ord) e w:=by
 refine ZA (v:=(.I (xs.length:Int))) hi₀ hg₀ (fun w'=>?_) hdn kk;apply Zes (α:=α)<;>assumption
theorem Z5R {α:Type} [Z7 α] {X:List Nat} {xs:List α} {v:Value} {x y:Operand} {t:TypeId} {el k:Nat} [hu:Und P t (.slice el)] [hk:Siz P el k] {z:Int} {i:Nat} {w₀:World} (hx:ev e x=some v) (hs:SlV X w₀ v xs) (hy:ev e y=some (.I z)) (hz:z=(i:Int)) (hi:i<xs.length) (hdn:Nat.blt d₀ n=true) (kk:WL P n ops Q rest ((d₀,(.pointer (some (Zp v i k 0)))) :: e) w):WL P n ops Q (⟨some d₀,.indexAddr t x y,ty,pos,af,none⟩ :: rest) e w:=by
 refine Z4 (v:=(.pointer (some (Zp v i k 0)))) ?_ hdn kk;apply Z7l (α:=α)<;>assumption
theorem Zt3 {α:Type} [Z7 α] {X:List Nat} {xs:List α} {v:Value} {x y:Operand} {t:TypeId} {el k:Nat} [hu:Und P t (.slice el)] [hk:Siz P el k] {z:Int} {i:Nat} {w₀:World} (hi₀:ops[i₀]?=some ⟨some d₀,.indexAddr t x y,ty,pos,af,gd⟩) (hg₀:Zz ops e gd) (hx:ev e x=some v) (hs:SlV X w₀ v xs) (hy:ev e y=some (.I z)) (hz:z=(i:Int)) (hi:i<xs.length) (hdn:Nat.blt d₀ n=true) (kk:WD P n ops S Lt Q ord ((d₀,(.pointer (some (Zp v i k 0)))) :: e) w):WD P n ops S Lt Q ((i₀,0) :: ord) e w:=by
 refine ZA (v:=(.pointer (some (Zp v i k 0)))) hi₀ hg₀ (fun w'=>?_) hdn kk;apply Z7l (α:=α)<;>assumption
theorem Zbf {x:Operand} {t:TypeId} {v:Value} {i k j m off:Nat} [hf:Fld P t m off] (hx:ev e x=some (.pointer (some (Zp v i k j)))) (hv:∃ p l c,v=.slice (some p) l c) (hdn:Nat.blt d₀ n=true) (kk:WL P n ops Q rest ((d₀,(.pointer (some (Zp v i k (j+off))))) :: e) w):WL P n ops Q (⟨some d₀,.fieldAddr t x m,ty,pos,af,none⟩ :: rest) e w:=by
 refine Z4 (v:=(.pointer (some (Zp v i k (j+off))))) ?_ hdn kk;apply Z3r<;>assumption
theorem Zbg {x:Operand} {t:TypeId} {v:Value} {i k j m off:Nat} [hf:Fld P t m off] (hi₀:ops[i₀]?=some ⟨some d₀,.fieldAddr t x m,ty,pos,af,gd⟩) (hg₀:Zz ops e gd) (hx:ev e x=some (.pointer (some (Zp v i k j)))) (hv:∃ p l c,v=.slice (some p) l c) (hdn:Nat.blt d₀ n=true) (kk:WD P n ops S Lt Q ord ((d₀,(.pointer (some (Zp v i k (j+off))))) :: e) w):WD P n ops S Lt Q ((i₀,0) :: ord) e w:=by
 refine ZA (v:=(.pointer (some (Zp v i k (j+off))))) hi₀ hg₀ (fun w'=>?_) hdn kk;apply Z3r<;>assumption
theorem Zda {α:Type} [Z3 α] {X:List Nat} {xs:List α} {v u:Value} {i j k:Nat} {x:Operand} {t:TypeId} {D:TypeDesc} [hu:Und P t D] (hA:JV D=false) (hx:ev e x=some (.pointer (some (Zp v i k j)))) (hs:SlV X w v xs) (hi:i<xs.length) (hk:k=Z3.k α) (hc:(Z3.enc xs[i])[j]?=some u) (hdn:Nat.blt d₀ n=true) (kk:WL P n ops Q rest ((d₀,u) :: e) w):WL P n ops Q (⟨some d₀,.load t x,ty,pos,af,none⟩ :: rest) e w:=by
 refine Z4 (v:=u) ?_ hdn kk;apply Z1N (α:=α)<;>assumption
theorem Zbh {α:Type} [Z3 α] {X:List Nat} {xs:List α} {v:Value} {i k:Nat} {x:Operand} {t:TypeId} {D:TypeDesc} [hu:Und P t D] (hA:JV D=true) [hsz:Siz P t k] (hx:ev e x=some (.pointer (some (Zp v i k 0)))) (hs:SlV X w v xs) (hi:i<xs.length) (hk:k=Z3.k α) (hdn:Nat.blt d₀ n=true) (kk:WL P n ops Q rest ((d₀,(.agg (Z3.enc xs[i]).toArray)) :: e) w):WL P n ops Q (⟨some d₀,.load t x,ty,pos,af,none⟩ :: rest) e w:=by
 refine Z4 (v:=(.agg (Z3.enc xs[i]).toArray)) ?_ hdn kk;apply Z6x (α:=α)<;>assumption
theorem Z6z {b T o:Nat} {cs:List Value} {u:Value} {x:Operand} {t:TypeId} {D:TypeDesc} [hu:Und P t D] (hA:JV D=false) (hx:ev e x=some (.pointer (some ⟨b,o,none⟩))) (hb:Blk w b T cs) (hc:cs[o]?=some u) (hdn:Nat.blt d₀ n=true) (kk:WL P n ops Q rest ((d₀,u) :: e) w):WL P n ops Q (⟨some d₀,.load t x,ty,pos,af,none⟩ :: rest) e w:=by
 refine Z4 (v:=u) ?_ hdn kk;apply JN<;>assumption
theorem Za6 {b T m:Nat} {cs:List Value} {x:Operand} {t:TypeId} {D:TypeDesc} [hu:Und P t D] (hA:JV D=true) [hsz:Siz P t m] (hx:ev e x=some (pQ b)) (hb:Blk w b T cs) (hl:cs.length=m) (hdn:Nat.blt d₀ n=true) (kk:WL P n ops Q rest ((d₀,(.agg cs.toArray)) :: e) w):WL P n ops Q (⟨some d₀,.load t x,ty,pos,af,none⟩ :: rest) e w:=by
 refine Z4 (v:=(.agg cs.toArray)) ?_ hdn kk;apply J2<;>assumption
theorem Zdb {α:Type} [Z7 α] {X:List Nat} {v:Value} {xs:List α} {t el k:Nat} {x hi:Operand} {r:Nat} {b:Int} [hu:Und P t (.slice el)] [hk:Siz P el k] {w₀:World} (hx:ev e x=some v) (hs:SlV X w₀ v xs) (hb:ev e hi=some (.I b)) (hbr:b=(r:Int)) (hrx:r≤xs.length) (hdn:Nat.blt d₀ n=true) (kk:WL P n ops Q rest ((d₀,(slc v 0 r k)) :: e) w):WL P n ops Q (⟨some d₀,.slice t x none (some hi) none,ty,pos,af,none⟩ :: rest) e w:=by
 refine Z4 (v:=(slc v 0 r k)) ?_ hdn kk;apply Z1d (α:=α)<;>assumption
theorem Z4P {α:Type} [Z7 α] {X:List Nat} {v:Value} {xs:List α} {t el k:Nat} {x lo:Operand} {l:Nat} {a:Int} [hu:Und P t (.slice el)] [hk:Siz P el k] {w₀:World} (hx:ev e x=some v) (hs:SlV X w₀ v xs) (ha:ev e lo=some (.I a)) (hal:a=(l:Int)) (hlx:l≤xs.length) (hdn:Nat.blt d₀ n=true) (kk:WL P n ops Q rest ((d₀,(slc v l xs.length k)) :: e) w):WL P n ops Q (⟨some d₀,.slice t x (some lo) none none,ty,pos,af,none⟩ :: rest) e w:=by
 refine Z4 (v:=(slc v l xs.length k)) ?_ hdn kk;apply Z2N (α:=α)<;>assumption
theorem Z8 {t:TypeId} {l:List (Nat×Operand)} {vs:List (Nat×Value)} {u:Value} (hv:Z0m e l=some vs) (hb:∀ w,(Instr.build t vs.toArray).run P w=.ok u w) (hdn:Nat.blt d₀ n=true) (kk:WL P n ops Q rest ((d₀,u) :: e) w):WL P n ops Q (⟨some d₀,.build t l.toArray,ty,pos,af,none⟩ :: rest) e w:=by
 refine Z4 (v:=u) ?_ hdn kk;apply Z0H<;>assumption
theorem Z2w {t:TypeId} {l:List (Nat×Operand)} {vs:List (Nat×Value)} {u:Value} (hi₀:ops[i₀]?=some ⟨some d₀,.build t l.toArray,ty,pos,af,gd⟩) (hg₀:Zz ops e gd) (hv:Z0m e l=some vs) (hb:∀ w,(Instr.build t vs.toArray).run P w=.ok u w) (hdn:Nat.blt d₀ n=true) (kk:WD P n ops S Lt Q ord ((d₀,u) :: e) w):WD P n ops S Lt Q ((i₀,0) :: ord) e w:=by
 refine ZA (v:=u) hi₀ hg₀ (fun w'=>?_) hdn kk;apply Z0H<;>assumption
theorem Zmi {x y:Operand} {t u:TypeId} {p q:Value} {c:Prop} [Decidable c] (hi₀:ops[i₀]?=some ⟨some d₀,.binOp .eql t x y u,ty,pos,af,gd⟩) (hg₀:Zz ops e gd) (hx:ev e x=some p) (hy:ev e y=some q) (hg:∀ w,(eqGuard .eql t x y p q).run P w=.ok () w) (h:∀ w,(binOp .eql t p q).run P w=.ok (.B (decide c)) w) (hdn:Nat.blt d₀ n=true) (kk:WD P n ops S Lt Q ord ((d₀,(.B (decide c))) :: e) w):WD P n ops S Lt Q ((i₀,0) :: ord) e w:=by
 refine ZA (v:=(.B (decide c))) hi₀ hg₀ (fun w'=>?_) hdn kk;apply Zm9<;>assumption
theorem Zmj {x y:Operand} {t u:TypeId} {p q:Value} {c:Prop} [Decidable c] (hx:ev e x=some p) (hy:ev e y=some q) (hg:∀ w,(eqGuard .neq t x y p q).run P w=.ok () w) (h:∀ w,(binOp .neq t p q).run P w=.ok (.B (decide (¬ c))) w) (hdn:Nat.blt d₀ n=true) (kk:WL P n ops Q rest ((d₀,(.B (decide (¬ c)))) :: e) w):WL P n ops Q (⟨some d₀,.binOp .neq t x y u,ty,pos,af,none⟩ :: rest) e w:=by
 refine Z4 (v:=(.B (decide (¬ c)))) ?_ hdn kk;apply Zeu<;>assumption
theorem Zmk {x y:Operand} {t u:TypeId} {p q:Value} {c:Prop} [Decidable c] (hi₀:ops[i₀]?=some ⟨some d₀,.binOp .neq t x y u,ty,pos,af,gd⟩) (hg₀:Zz ops e gd) (hx:ev e x=some p) (hy:ev e y=some q) (hg:∀ w,(eqGuard .neq t x y p q).run P w=.ok () w) (h:∀ w,(binOp .neq t p q).run P w=.ok (.B (decide (¬ c))) w) (hdn:Nat.blt d₀ n=true) (kk:WD P n ops S Lt Q ord ((d₀,(.B (decide (¬ c)))) :: e) w):WD P n ops S Lt Q ((i₀,0) :: ord) e w:=by
 refine ZA (v:=(.B (decide (¬ c)))) hi₀ hg₀ (fun w'=>?_) hdn kk;apply Zeu<;>assumption
theorem Zt4 {t:TypeId} {x:Operand} {y:Operand} (h:WL P n ops Q (⟨some d₀,.indexAddr t x y,ty,pos,af,none⟩ :: rest) e w):WL P n ops Q (⟨some d₀,.indexAddr t x y,ty,pos,af,none⟩ :: rest) e w:=h
theorem Zml {t:TypeId} {x:Operand} (h:WL P n ops Q (⟨some d₀,.load t x,ty,pos,af,none⟩ :: rest) e w):WL P n ops Q (⟨some d₀,.load t x,ty,pos,af,none⟩ :: rest) e w:=h
theorem Zt5 {t:TypeId} {x:Operand} (h:WL P n ops Q (⟨some d₀,.call { callee:=.builtin .len,args:=#[x],argTypes:=#[t] },ty,pos,af,none⟩ :: rest) e w):WL P n ops Q (⟨some d₀,.call { callee:=.builtin .len,args:=#[x],argTypes:=#[t] },ty,pos,af,none⟩ :: rest) e w:=h
theorem ZiE {t:TypeId} {x:Operand} {m:Nat} (h:WL P n ops Q (⟨some d₀,.fieldAddr t x m,ty,pos,af,none⟩ :: rest) e w):WL P n ops Q (⟨some d₀,.fieldAddr t x m,ty,pos,af,none⟩ :: rest) e w:=h
end
section
variable {P:Program} {n:Nat} {Q:Exit→Act→World→Prop} {e:Env} {w:World} {ops:Array Oper} {S:List Nat} {Lt:List Nat} {ord:List (Nat×Nat)} {d₀ i₀:Nat} {ty:TypeId} {pos:String} {af:Array Edge} {gd:Option (Nat×Bool)}
theorem Z07 {b T o:Nat} {cs:List Value} {u:Value} {x:Operand} {t:TypeId} {D:TypeDesc} [hu:Und P t D] (hi₀:ops[i₀]?=some ⟨some d₀,.load t x,ty,pos,af,gd⟩) (hg₀:Zz ops e gd) (hA:JV D=false) (hx:ev e x=some (.pointer (some ⟨b,o,none⟩))) (hb:Blk w b T cs) (hn:b∉S) (hc:cs[o]?=some u) (hdn:Nat.blt d₀ n=true) (kk:WD P n ops S Lt Q ord ((d₀,u) :: e) w):WD P n ops S Lt Q ((i₀,1) :: ord) e w:=
 J3 hi₀ hg₀ (fun w' hS=>JN hA hx (hb.ext hS hn) hc) hdn kk
theorem Za7 {b T m:Nat} {cs:List Value} {x:Operand} {t:TypeId} {D:TypeDesc} [hu:Und P t D] [hsz:Siz P t m] (hi₀:ops[i₀]?=some ⟨some d₀,.load t x,ty,pos,af,gd⟩) (hg₀:Zz ops e gd) (hA:JV D=true) (hx:ev e x=some (pQ b)) (hb:Blk w b T cs) (hn:b∉S) (hl:cs.length=m) (hdn:Nat.blt d₀ n=true) (kk:WD P n ops S Lt Q ord ((d₀,.agg cs.toArray) :: e) w):WD P n ops S Lt Q ((i₀,1) :: ord) e w:=
 J3 hi₀ hg₀ (fun w' hS=>J2 hA hx (hb.ext hS hn) hl) hdn kk
theorem Zdc {α:Type} [Z3 α] {X:List Nat} {xs:List α} {v u:Value} {i j k:Nat} {x:Operand} {t:TypeId} {D:TypeDesc} [hu:Und P t D] (hi₀:ops[i₀]?=some ⟨some d₀,.load t x,ty,pos,af,gd⟩) (hg₀:Zz ops e gd) (hA:JV D=false) (hx:ev e x=some (.pointer (some (Zp v i k j))))
 (hs:SlV X w v xs) (hn:∀ b∈S,b∈X) (hi:i<xs.length) (hk:k=Z3.k α) (hc:(Z3.enc xs[i])[j]?=some u) (hdn:Nat.blt d₀ n=true) (kk:WD P n ops S Lt Q ord ((d₀,u) :: e) w):WD P n ops S Lt Q ((i₀,1) :: ord) e w:=
 J3 hi₀ hg₀ (fun w' hS=>Z1N hA hx (hs.ext hS hn (fun _ h=>.inl h)) hi hk hc) hdn kk
theorem Zbi {α:Type} [Z3 α] {X:List Nat} {xs:List α} {v:Value} {i k:Nat} {x:Operand} {t:TypeId} {D:TypeDesc} [hu:Und P t D] [hsz:Siz P t k] (hi₀:ops[i₀]?=some ⟨some d₀,.load t x,ty,pos,af,gd⟩) (hg₀:Zz ops e gd) (hA:JV D=true) (hx:ev e x=some (.pointer (some (Zp v i k 0))))
 (hs:SlV X w v xs) (hn:∀ b∈S,b∈X) (hi:i<xs.length) (hk:k=Z3.k α) (hdn:Nat.blt d₀ n=true) (kk:WD P n ops S Lt Q ord ((d₀,.agg (Z3.enc xs[i]).toArray) :: e) w):WD P n ops S Lt Q ((i₀,1) :: ord) e w:=
 J3 hi₀ hg₀ (fun w' hS=>Z6x hA hx (hs.ext hS hn (fun _ h=>.inl h)) hi hk) hdn kk
end
abbrev Str:=List UInt8
abbrev str (s:Str):Value:=.string ⟨s.toArray⟩
theorem Zmm (a b:Str):((⟨a.toArray⟩:ByteArray).toList == (⟨b.toArray⟩:ByteArray).toList)=decide (a=b):=by
 rw [ByteArray.toList_eq,ByteArray.toList_eq];simp only [YaC]
theorem Z0r (a:Str):(⟨a.toArray⟩:ByteArray).size=a.length:=by simp [ByteArray.size]
theorem Z3s (a:Str) (i j:Nat):(⟨a.toArray⟩:ByteArray).extract i j=⟨((a.take j).drop i).toArray⟩:=by
 apply ByteArray.ext;simp [ByteArray.data_extract,Ybn]
theorem Zdd (a b:Str):(⟨a.toArray⟩++⟨b.toArray⟩:ByteArray)=⟨(a++b).toArray⟩:=by
 apply ByteArray.ext;simp [ByteArray.data_append]
def Jc (a:Str) (i:Nat):Int:=((a.getD i 0).toNat:Int)
theorem byte_at {a:Str} {i:Nat} (h:i<a.length):Jc a i=(a[i].toNat:Int):=by simp [Jc,List.getD,h]
theorem Z7q (a:Str) (i:Nat):0≤Jc a i∧Jc a i<256:=by
 unfold Jc;have:=(a.getD i 0).toNat_lt;omega
instance:Z3 Str where
 k:=1
 enc:=fun x=>[str x]
 len:=fun _=>rfl
 one:=by intro x u hu;simp at hu;subst hu;rfl
section rules
variable {P:Program} {n:Nat} {e:Env} {w:World} {d:Option Nat} {ty:TypeId} {pos:String} {af:Array Edge} {g:Option (Nat×Bool)}
theorem Zew {t u:TypeId} {x y:Operand} {a b:Str} [hu:Und P t .string] (hx:ev e x=some (str a)) (hy:ev e y=some (str b)):PR P n ⟨d,.binOp .eql t x y u,ty,pos,af,g⟩ e w (.B (decide (a=b))):=
 ⟨fun c ha=>by simp only [execOp,ha.ev hx,ha.ev hy];simp [go_sem,binOp,Op.stringOp];rw [YaC]⟩
theorem Zex {t u:TypeId} {x y:Operand} {a b:Str} [hu:Und P t .string] (hx:ev e x=some (str a)) (hy:ev e y=some (str b)):PR P n ⟨d,.binOp .neq t x y u,ty,pos,af,g⟩ e w (.B (decide (¬ a=b))):=
 ⟨fun c ha=>by simp only [execOp,ha.ev hx,ha.ev hy];simp [go_sem,binOp,Op.stringOp];by_cases h:a=b<;>simp [h]⟩
theorem Zmn {t u:TypeId} {x y:Operand} {a b:Str} [hu:Und P t .string] (hx:ev e x=some (str a)) (hy:ev e y=some (str b)) (hl:a.length+b.length≤9223372036854775807):PR P n ⟨d,.binOp .add t x y u,ty,pos,af,g⟩ e w (str (a++b)):=
 ⟨fun c ha => by
   simp only [execOp,ha.ev hx,ha.ev hy];simp [go_sem,binOp,Op.stringOp,Zdd];omega⟩
theorem Zmo {x:Operand} {t:TypeId} {a:Str} [hu:Und P t .string] (hx:ev e x=some (str a)) :
 PR P n ⟨d,.call { callee:=.builtin .len,args:=#[x],argTypes:=#[t] },ty,pos,af,g⟩ e w (.I (a.length:Int)):=
 ⟨fun c ha => by
   have:=run_len_string (P:=P) w t ty ⟨a.toArray⟩ hu.h;simp [execOp,resolve,invoke,builtin,ha.ev hx,this,goInt,Z0r]⟩
theorem Z8Y {t:TypeId} {x y:Operand} {a:Str} {z:Int} {i:Nat} [hu:Und P t .string] (hx:ev e x=some (str a)) (hy:ev e y=some (.I z)) (hz:z=(i:Int)) (hi:i<a.length):PR P n ⟨d,.index t x y,ty,pos,af,g⟩ e w (.int .u8 (Jc a i)):=
 ⟨fun c ha => by
   subst hz;have h1:(0:Int)≤(i:Int)∧((i:Int)<((⟨a.toArray⟩:ByteArray).size:Int)):=by rw [Z0r];omega
   have:=run_index_string (P:=P) w t ⟨a.toArray⟩ .i64 (i:Int) hu.h;rw [dif_pos h1] at this;simp only [execOp,ha.ev hx,ha.ev hy];simp [this,Jc,List.getD,hi];rfl⟩
theorem Z2P {t:TypeId} {x lo hi:Operand} {a:Str} {p q:Int} {l r:Nat} [hu:Und P t .string] (hx:ev e x=some (str a)) (h1:ev e lo=some (.I p)) (h2:ev e hi=some (.I q)) (hp:p=(l:Int)) (hq:q=(r:Int)) (hlr:l≤r) (hr:r≤a.length) :
 PR P n ⟨d,.slice t x (some lo) (some hi) none,ty,pos,af,g⟩ e w (str ((a.take r).drop l)):=
 ⟨fun c ha => by
   subst hp;subst hq;have:=run_slice_string (P:=P) w t ⟨a.toArray⟩ .i64 .i64 (l:Int) (r:Int) hu.h (by omega) (by omega) (by rw [Z0r];omega);simp only [execOp,ha.ev hx,ha.ev h1,ha.ev h2,Option.map];simp [Instr.sliceAt,run_underlying hu.h,this,Z3s]⟩
theorem Z6A {t:TypeId} {x lo:Operand} {a:Str} {p:Int} {l:Nat} [hu:Und P t .string] (hx:ev e x=some (str a)) (h1:ev e lo=some (.I p)) (hp:p=(l:Int)) (hl:l≤a.length) :
 PR P n ⟨d,.slice t x (some lo) none none,ty,pos,af,g⟩ e w (str (a.drop l)):=
 ⟨fun c ha => by
   subst hp;have:=run_slice_string_l (P:=P) (t:=t) (s:=⟨a.toArray⟩) w hu.h .i64 (l:Int) (by omega) (by rw [Z0r];omega);simp only [execOp,ha.ev hx,ha.ev h1,Option.map];simp [Instr.sliceAt,run_underlying hu.h,this,Z3s,Z0r]⟩
theorem Zbj {t:TypeId} {x hi:Operand} {a:Str} {q:Int} {r:Nat} [hu:Und P t .string] (hx:ev e x=some (str a)) (h2:ev e hi=some (.I q)) (hq:q=(r:Int)) (hr:r≤a.length) :
 PR P n ⟨d,.slice t x none (some hi) none,ty,pos,af,g⟩ e w (str (a.take r)):=
 ⟨fun c ha => by
   subst hq;have:=run_slice_string_h (P:=P) (t:=t) (s:=⟨a.toArray⟩) w hu.h .i64 (r:Int) (by omega) (by rw [Z0r];omega);simp only [execOp,ha.ev hx,ha.ev h2,Option.map];simp [Instr.sliceAt,run_underlying hu.h,this,Z3s]⟩
theorem Z2b {x:Operand} {b:Addr} (hx:ev e x=some (.pointer (some b))):PR P n ⟨d,.nilCheck x,ty,pos,af,g⟩ e w (.pointer (some b)):=
 ⟨fun a ha=>by simp [execOp,ha.ev hx]⟩
theorem ZiF {t:TypeId} {x:Operand} {p:Prop} {i:Decidable p} (hx:ev e x=some (.B (decide p))):PR P n ⟨d,.unOp .not t x,ty,pos,af,g⟩ e w (.B (decide (¬ p))):=
 ⟨fun a ha=>by simp [execOp,ha.ev hx,Op.unary]⟩
theorem Zey {t el len k:Nat} {x y:Operand} {b o i:Nat} {z:Int} [hu:Und P t (.array len el)] [hk:Siz P el k] (hx:ev e x=some (.pointer (some ⟨b,o,none⟩))) (hy:ev e y=some (.I z)) (hz:z=(i:Int)) (hi:i<len) :
 PR P n ⟨d,.indexAddr t x y,ty,pos,af,g⟩ e w (.pointer (some ⟨b,o+i * k,none⟩)):=
 ⟨fun a ha => by
   subst hz;have h0:(0:Int)≤(i:Int)∧(i:Int)<(len:Int):=by omega
   have hr:(Instr.indexAt t (.pointer (some ⟨b,o,none⟩)) (.I (i:Int))).run P w=.ok (.pointer (some ⟨b,o+i * k,none⟩)) w:=by
    simp only [Instr.indexAt,asIntOf];simp [run_underlying hu.h,Instr.sureAddr,Siz.run,Addr.add_lit,hi]
   simp [execOp,ha.ev hx,ha.ev hy,hr]⟩
theorem Z5S {t el len k:Nat} {x:Operand} {b:Nat} [hu:Und P t (.array len el)] [hk:Siz P el k] (hx:ev e x=some (pQ b)) :
 PR P n ⟨d,.slice t x none none none,ty,pos,af,g⟩ e w (.slice (some ⟨b,0,none⟩) len len):=
 ⟨fun a ha => by
   have hr:(Instr.sliceAt t (pQ b) none none none).run P w=.ok (.slice (some ⟨b,0,none⟩) len len) w:=by
    simp [Instr.sliceAt,Instr.sureAddr,run_underlying hu.h,Instr.sliceBounds,Siz.run,Addr.add]
   simp [execOp,ha.ev hx,hr]⟩
theorem ZiG {x y:Operand} {ts:Array TypeId} {a b:Int} (hx:ev e x=some (.I a)) (hy:ev e y=some (.I b)) :
 PR P n ⟨d,.call { callee:=.builtin .max,args:=#[x,y],argTypes:=ts },ty,pos,af,g⟩ e w (.I (max a b)):=
 ⟨fun c ha => by
   have hm:(if b > a then b else a)=max a b:=by omega
   simp [execOp,resolve,invoke,builtin,ha.ev hx,ha.ev hy,run_max_int2,hm]⟩
theorem ZiH {x y:Operand} {ts:Array TypeId} {a b:Int} (hx:ev e x=some (.I a)) (hy:ev e y=some (.I b)) :
 PR P n ⟨d,.call { callee:=.builtin .min,args:=#[x,y],argTypes:=ts },ty,pos,af,g⟩ e w (.I (min a b)):=
 ⟨fun c ha => by
   have hm:(if b<a then b else a)=min a b:=by omega
   simp [execOp,resolve,invoke,builtin,ha.ev hx,ha.ev hy,run_min_int2,hm]⟩
end rules
section
variable {P:Program} {n:Nat} {Q:Exit→Act→World→Prop} {e:Env} {w:World} {ops:Array Oper} {S:List Nat} {Lt:List Nat} {rest:List Oper} {ord:List (Nat×Nat)} {d₀ i₀:Nat} {ty:TypeId} {pos:String} {af:Array Edge} {gd:Option (Nat×Bool)}
theorem Zmp {t u:TypeId} {x y:Operand} {a b:Str} [hu:Und P t .string] (hx:ev e x=some (str a)) (hy:ev e y=some (str b)) (hdn:Nat.blt d₀ n=true) (kk:WL P n ops Q rest ((d₀,(.bool (decide (a=b)))) :: e) w):WL P n ops Q (⟨some d₀,.binOp .eql t x y u,ty,pos,af,none⟩ :: rest) e w:=by
 refine Z4 (v:=(.bool (decide (a=b)))) ?_ hdn kk;apply Zew<;>assumption
theorem Zmq {t u:TypeId} {x y:Operand} {a b:Str} [hu:Und P t .string] (hi₀:ops[i₀]?=some ⟨some d₀,.binOp .eql t x y u,ty,pos,af,gd⟩) (hg₀:Zz ops e gd) (hx:ev e x=some (str a)) (hy:ev e y=some (str b)) (hdn:Nat.blt d₀ n=true) (kk:WD P n ops S Lt Q ord ((d₀,(.bool (decide (a=b)))) :: e) w):WD P n ops S Lt Q ((i₀,0) :: ord) e w:=by
 refine ZA (v:=(.bool (decide (a=b)))) hi₀ hg₀ (fun w'=>?_) hdn kk;apply Zew<;>assumption
theorem Zmr {t u:TypeId} {x y:Operand} {a b:Str} [hu:Und P t .string] (hx:ev e x=some (str a)) (hy:ev e y=some (str b)) (hdn:Nat.blt d₀ n=true) (kk:WL P n ops Q rest ((d₀,(.bool (decide (¬ a=b)))) :: e) w):WL P n ops Q (⟨some d₀,.binOp .neq t x y u,ty,pos,af,none⟩ :: rest) e w:=by
 refine Z4 (v:=(.bool (decide (¬ a=b)))) ?_ hdn kk;apply Zex<;>assumption
theorem Zms {t u:TypeId} {x y:Operand} {a b:Str} [hu:Und P t .string] (hi₀:ops[i₀]?=some ⟨some d₀,.binOp .neq t x y u,ty,pos,af,gd⟩) (hg₀:Zz ops e gd) (hx:ev e x=some (str a)) (hy:ev e y=some (str b)) (hdn:Nat.blt d₀ n=true) (kk:WD P n ops S Lt Q ord ((d₀,(.bool (decide (¬ a=b)))) :: e) w):WD P n ops S Lt Q ((i₀,0) :: ord) e w:=by
 refine ZA (v:=(.bool (decide (¬ a=b)))) hi₀ hg₀ (fun w'=>?_) hdn kk;apply Zex<;>assumption
theorem Z2Q {t u:TypeId} {x y:Operand} {a b:Str} [hu:Und P t .string] (hx:ev e x=some (str a)) (hy:ev e y=some (str b)) (hl:a.length+b.length≤9223372036854775807) (hdn:Nat.blt d₀ n=true) (kk:WL P n ops Q rest ((d₀,(str (a++b))) :: e) w):WL P n ops Q (⟨some d₀,.binOp .add t x y u,ty,pos,af,none⟩ :: rest) e w:=by
 refine Z4 (v:=(str (a++b))) ?_ hdn kk;apply Zmn<;>assumption
theorem Zmt {x:Operand} {t:TypeId} {a:Str} [hu:Und P t .string] (hx:ev e x=some (str a)) (hdn:Nat.blt d₀ n=true) (kk:WL P n ops Q rest ((d₀,(.int .i64 (a.length:Int))) :: e) w):WL P n ops Q (⟨some d₀,.call { callee:=.builtin .len,args:=#[x],argTypes:=#[t] },ty,pos,af,none⟩ :: rest) e w:=by
 refine Z4 (v:=(.int .i64 (a.length:Int))) ?_ hdn kk;apply Zmo<;>assumption
theorem J5 {t:TypeId} {x y:Operand} {a:Str} {z:Int} {i:Nat} [hu:Und P t .string] (hx:ev e x=some (str a)) (hy:ev e y=some (.int .i64 z)) (hz:z=(i:Int)) (hi:i<a.length) (hdn:Nat.blt d₀ n=true) (kk:WL P n ops Q rest ((d₀,(.int .u8 (Jc a i))) :: e) w):WL P n ops Q (⟨some d₀,.index t x y,ty,pos,af,none⟩ :: rest) e w:=by
 refine Z4 (v:=(.int .u8 (Jc a i))) ?_ hdn kk;apply Z8Y<;>assumption
theorem Zfs {t:TypeId} {x y:Operand} {a:Str} {z:Int} {i:Nat} [hu:Und P t .string] (hi₀:ops[i₀]?=some ⟨some d₀,.index t x y,ty,pos,af,gd⟩) (hg₀:Zz ops e gd) (hx:ev e x=some (str a)) (hy:ev e y=some (.int .i64 z)) (hz:z=(i:Int)) (hi:i<a.length) (hdn:Nat.blt d₀ n=true) (kk:WD P n ops S Lt Q ord ((d₀,(.int .u8 (Jc a i))) :: e) w):WD P n ops S Lt Q ((i₀,0) :: ord) e w:=by
 refine ZA (v:=(.int .u8 (Jc a i))) hi₀ hg₀ (fun w'=>?_) hdn kk;apply Z8Y<;>assumption
theorem Z58 {t:TypeId} {x lo hi:Operand} {a:Str} {p q:Int} {l r:Nat} [hu:Und P t .string] (hx:ev e x=some (str a)) (h1:ev e lo=some (.int .i64 p)) (h2:ev e hi=some (.int .i64 q)) (hp:p=(l:Int)) (hq:q=(r:Int)) (hlr:l≤r) (hr:r≤a.length) (hdn:Nat.blt d₀ n=true) (kk:WL P n ops Q rest ((d₀,(str ((a.take r).drop l))) :: e) w):WL P n ops Q (⟨some d₀,.slice t x (some lo) (some hi) none,ty,pos,af,none⟩ :: rest) e w:=by
 refine Z4 (v:=(str ((a.take r).drop l))) ?_ hdn kk;apply Z2P<;>assumption
theorem Zbk {t:TypeId} {x lo:Operand} {a:Str} {p:Int} {l:Nat} [hu:Und P t .string] (hx:ev e x=some (str a)) (h1:ev e lo=some (.int .i64 p)) (hp:p=(l:Int)) (hl:l≤a.length) (hdn:Nat.blt d₀ n=true) (kk:WL P n ops Q rest ((d₀,(str (a.drop l))) :: e) w):WL P n ops Q (⟨some d₀,.slice t x (some lo) none none,ty,pos,af,none⟩ :: rest) e w:=by
 refine Z4 (v:=(str (a.drop l))) ?_ hdn kk;apply Z6A<;>assumption
theorem Zbl {t:TypeId} {x lo:Operand} {a:Str} {p:Int} {l:Nat} [hu:Und P t .string] (hi₀:ops[i₀]?=some ⟨some d₀,.slice t x (some lo) none none,ty,pos,af,gd⟩) (hg₀:Zz ops e gd) (hx:ev e x=some (str a)) (h1:ev e lo=some (.int .i64 p)) (hp:p=(l:Int)) (hl:l≤a.length) (hdn:Nat.blt d₀ n=true) (kk:WD P n ops S Lt Q ord ((d₀,(str (a.drop l))) :: e) w):WD P n ops S Lt Q ((i₀,0) :: ord) e w:=by
 refine ZA (v:=(str (a.drop l))) hi₀ hg₀ (fun w'=>?_) hdn kk;apply Z6A<;>assumption
theorem Z0s {t:TypeId} {x hi:Operand} {a:Str} {q:Int} {r:Nat} [hu:Und P t .string] (hx:ev e x=some (str a)) (h2:ev e hi=some (.int .i64 q)) (hq:q=(r:Int)) (hr:r≤a.length) (hdn:Nat.blt d₀ n=true) (kk:WL P n ops Q rest ((d₀,(str (a.take r))) :: e) w):WL P n ops Q (⟨some d₀,.slice t x none (some hi) none,ty,pos,af,none⟩ :: rest) e w:=by
 refine Z4 (v:=(str (a.take r))) ?_ hdn kk;apply Zbj<;>assumption
theorem Zbm {x:Operand} {b:Addr} (hx:ev e x=some (.pointer (some b))) (hdn:Nat.blt d₀ n=true) (kk:WL P n ops Q rest ((d₀,(.pointer (some b))) :: e) w):WL P n ops Q (⟨some d₀,.nilCheck x,ty,pos,af,none⟩ :: rest) e w:=by
 refine Z4 (v:=(.pointer (some b))) ?_ hdn kk;apply Z2b<;>assumption
theorem Zbn {x:Operand} {b:Addr} (hi₀:ops[i₀]?=some ⟨some d₀,.nilCheck x,ty,pos,af,gd⟩) (hg₀:Zz ops e gd) (hx:ev e x=some (.pointer (some b))) (hdn:Nat.blt d₀ n=true) (kk:WD P n ops S Lt Q ord ((d₀,(.pointer (some b))) :: e) w):WD P n ops S Lt Q ((i₀,0) :: ord) e w:=by
 refine ZA (v:=(.pointer (some b))) hi₀ hg₀ (fun w'=>?_) hdn kk;apply Z2b<;>assumption
theorem ZiI {t:TypeId} {x:Operand} {p:Prop} {i:Decidable p} (hx:ev e x=some (.bool (decide p))) (hdn:Nat.blt d₀ n=true) (kk:WL P n ops Q rest ((d₀,(.bool (decide (¬ p)))) :: e) w):WL P n ops Q (⟨some d₀,.unOp .not t x,ty,pos,af,none⟩ :: rest) e w:=by
 refine Z4 (v:=(.bool (decide (¬ p)))) ?_ hdn kk;apply ZiF<;>assumption
theorem Z13 {t el len k:Nat} {x y:Operand} {b o i:Nat} {z:Int} [hu:Und P t (.array len el)] [hk:Siz P el k] (hx:ev e x=some (.pointer (some ⟨b,o,none⟩))) (hy:ev e y=some (.int .i64 z)) (hz:z=(i:Int)) (hi:i<len) (hdn:Nat.blt d₀ n=true) (kk:WL P n ops Q rest ((d₀,(.pointer (some ⟨b,o+i * k,none⟩))) :: e) w):WL P n ops Q (⟨some d₀,.indexAddr t x y,ty,pos,af,none⟩ :: rest) e w:=by
 refine Z4 (v:=(.pointer (some ⟨b,o+i * k,none⟩))) ?_ hdn kk;apply Zey<;>assumption
theorem Zmu {t el len k:Nat} {x y:Operand} {b o i:Nat} {z:Int} [hu:Und P t (.array len el)] [hk:Siz P el k] (hi₀:ops[i₀]?=some ⟨some d₀,.indexAddr t x y,ty,pos,af,gd⟩) (hg₀:Zz ops e gd) (hx:ev e x=some (.pointer (some ⟨b,o,none⟩))) (hy:ev e y=some (.int .i64 z)) (hz:z=(i:Int)) (hi:i<len) (hdn:Nat.blt d₀ n=true) (kk:WD P n ops S Lt Q ord ((d₀,(.pointer (some ⟨b,o+i * k,none⟩))) :: e) w):WD P n ops S Lt Q ((i₀,0) :: ord) e w:=by
 refine ZA (v:=(.pointer (some ⟨b,o+i * k,none⟩))) hi₀ hg₀ (fun w'=>?_) hdn kk;apply Zey<;>assumption
theorem Zft {t el len k:Nat} {x:Operand} {b:Nat} [hu:Und P t (.array len el)] [hk:Siz P el k] (hx:ev e x=some (.pointer (some ⟨b,0,none⟩))) (hdn:Nat.blt d₀ n=true) (kk:WL P n ops Q rest ((d₀,(.slice (some ⟨b,0,none⟩) len len)) :: e) w):WL P n ops Q (⟨some d₀,.slice t x none none none,ty,pos,af,none⟩ :: rest) e w:=by
 refine Z4 (v:=(.slice (some ⟨b,0,none⟩) len len)) ?_ hdn kk;apply Z5S<;>assumption
theorem Zt6 {x y:Operand} {ts:Array TypeId} {a b:Int} (hx:ev e x=some (.int .i64 a)) (hy:ev e y=some (.int .i64 b)) (hdn:Nat.blt d₀ n=true) (kk:WL P n ops Q rest ((d₀,(.int .i64 (max a b))) :: e) w):WL P n ops Q (⟨some d₀,.call { callee:=.builtin .max,args:=#[x,y],argTypes:=ts },ty,pos,af,none⟩ :: rest) e w:=by
 refine Z4 (v:=(.int .i64 (max a b))) ?_ hdn kk;apply ZiG<;>assumption
theorem Zt7 {x y:Operand} {ts:Array TypeId} {a b:Int} (hi₀:ops[i₀]?=some ⟨some d₀,.call { callee:=.builtin .max,args:=#[x,y],argTypes:=ts },ty,pos,af,gd⟩) (hg₀:Zz ops e gd) (hx:ev e x=some (.int .i64 a)) (hy:ev e y=some (.int .i64 b)) (hdn:Nat.blt d₀ n=true) (kk:WD P n ops S Lt Q ord ((d₀,(.int .i64 (max a b))) :: e) w):WD P n ops S Lt Q ((i₀,0) :: ord) e w:=by
 refine ZA (v:=(.int .i64 (max a b))) hi₀ hg₀ (fun w'=>?_) hdn kk;apply ZiG<;>assumption
theorem Zt8 {x y:Operand} {ts:Array TypeId} {a b:Int} (hx:ev e x=some (.int .i64 a)) (hy:ev e y=some (.int .i64 b)) (hdn:Nat.blt d₀ n=true) (kk:WL P n ops Q rest ((d₀,(.int .i64 (min a b))) :: e) w):WL P n ops Q (⟨some d₀,.call { callee:=.builtin .min,args:=#[x,y],argTypes:=ts },ty,pos,af,none⟩ :: rest) e w:=by
 refine Z4 (v:=(.int .i64 (min a b))) ?_ hdn kk;apply ZiH<;>assumption
theorem Zt9 {x y:Operand} {ts:Array TypeId} {a b:Int} (hi₀:ops[i₀]?=some ⟨some d₀,.call { callee:=.builtin .min,args:=#[x,y],argTypes:=ts },ty,pos,af,gd⟩) (hg₀:Zz ops e gd) (hx:ev e x=some (.int .i64 a)) (hy:ev e y=some (.int .i64 b)) (hdn:Nat.blt d₀ n=true) (kk:WD P n ops S Lt Q ord ((d₀,(.int .i64 (min a b))) :: e) w):WD P n ops S Lt Q ((i₀,0) :: ord) e w:=by
 refine ZA (v:=(.int .i64 (min a b))) hi₀ hg₀ (fun w'=>?_) hdn kk;apply ZiH<;>assumption
structure WO (P:Program) (n:Nat) (ops:Array Oper) (S:List Nat) (Lt:List Nat) (Q:Exit→Act→World→Prop) (o:Oper) (i q:Nat) (ord:List (Nat×Nat)) (e:Env) (w:World):Prop where
 h:ops[i]?=some o→WD P n ops S Lt Q ((i,q) :: ord) e w
theorem Z2c {o:Oper} {i q:Nat} (hi:ops[i]?=some o) (h:WO P n ops S Lt Q o i q ord e w):WD P n ops S Lt Q ((i,q) :: ord) e w:=h.h hi
theorem ZiJ {op:Op} {jb:Nat×Bool} (hg:noB ops e (some jb)=true) (hdn:Nat.blt d₀ n=true) (kk:WD P n ops S Lt Q ord ((d₀,undef) :: e) w):WO P n ops S Lt Q ⟨some d₀,op,ty,pos,af,some jb⟩ i₀ 0 ord e w:=⟨fun hi=>Zir hi hg hdn kk⟩
theorem ZiK {op:Op} {jb:Nat×Bool} (hg:noB ops e (some jb)=true) (hdn:Nat.blt d₀ n=true) (kk:WD P n ops S Lt Q ord ((d₀,undef) :: e) w):WO P n ops S Lt Q ⟨some d₀,op,ty,pos,af,some jb⟩ i₀ 1 ord e w:=⟨fun hi=>Zis hi hg hdn kk⟩
theorem ZiL {op:Op} {jb:Nat×Bool} (hg:noB ops e (some jb)=true) (hdn:Nat.blt d₀ n=true) (kk:WD P n ops S Lt Q ord ((d₀,undef) :: e) w):WO P n ops S Lt Q ⟨some d₀,op,ty,pos,af,some jb⟩ i₀ 2 ord e w:=⟨fun hi=>Zix hi hg hdn kk⟩
theorem Zmv {x:Operand} {v:Value} (hg₀:Zz ops e gd) (hx:ev e x=some v) (hdn:Nat.blt d₀ n=true) (kk:WD P n ops S Lt Q ord ((d₀,v) :: e) w):WO P n ops S Lt Q ⟨some d₀,.move x,ty,pos,af,gd⟩ i₀ 0 ord e w:=⟨fun hi₀=>Zma hi₀ hg₀ hx hdn kk⟩
theorem Zfu {x:Operand} {v:Value} (hg₀:Zz ops e gd) (hx:ev e x=some v) (hdn:Nat.blt d₀ n=true) (kk:WD P n ops S Lt Q ord ((d₀,v) :: e) w):WO P n ops S Lt Q ⟨some d₀,.assign x,ty,pos,af,gd⟩ i₀ 0 ord e w:=⟨fun hi₀=>Zfn hi₀ hg₀ hx hdn kk⟩
theorem Zfv {c x y:Operand} {v:Value} (hg₀:Zz ops e gd) (hc:ev e c=some (.bool true)) (hx:ev e x=some v) (hdn:Nat.blt d₀ n=true) (kk:WD P n ops S Lt Q ord ((d₀,v) :: e) w):WO P n ops S Lt Q ⟨some d₀,.pick c x y,ty,pos,af,gd⟩ i₀ 0 ord e w:=⟨fun hi₀=>Zfp hi₀ hg₀ hc hx hdn kk⟩
theorem Zfw {c x y:Operand} {v:Value} (hg₀:Zz ops e gd) (hc:ev e c=some (.bool false)) (hx:ev e y=some v) (hdn:Nat.blt d₀ n=true) (kk:WD P n ops S Lt Q ord ((d₀,v) :: e) w):WO P n ops S Lt Q ⟨some d₀,.pick c x y,ty,pos,af,gd⟩ i₀ 0 ord e w:=⟨fun hi₀=>Zfr hi₀ hg₀ hc hx hdn kk⟩
theorem Zta {x y:Operand} {t u:TypeId} {a b:Int} (hg₀:Zz ops e gd) (hx:ev e x=some (.int .i64 a)) (hy:ev e y=some (.int .i64 b)) (hr:I64 (a+b)) (hdn:Nat.blt d₀ n=true) (kk:WD P n ops S Lt Q ord ((d₀,(.int .i64 (a+b))) :: e) w):WO P n ops S Lt Q ⟨some d₀,.binOp .add t x y u,ty,pos,af,gd⟩ i₀ 0 ord e w:=⟨fun hi₀=>ZsN hi₀ hg₀ hx hy hr hdn kk⟩
theorem Ztb {x y:Operand} {t u:TypeId} {a b:Int} (hg₀:Zz ops e gd) (hx:ev e x=some (.int .i64 a)) (hy:ev e y=some (.int .i64 b)) (hr:I64 (a - b)) (hdn:Nat.blt d₀ n=true) (kk:WD P n ops S Lt Q ord ((d₀,(.int .i64 (a - b))) :: e) w):WO P n ops S Lt Q ⟨some d₀,.binOp .sub t x y u,ty,pos,af,gd⟩ i₀ 0 ord e w:=⟨fun hi₀=>ZsP hi₀ hg₀ hx hy hr hdn kk⟩
theorem Ztc {x y:Operand} {t u:TypeId} {a b:Int} (hg₀:Zz ops e gd) (hx:ev e x=some (.int .i64 a)) (hy:ev e y=some (.int .i64 b)) (hr:I64 (a * b)) (hdn:Nat.blt d₀ n=true) (kk:WD P n ops S Lt Q ord ((d₀,(.int .i64 (a * b))) :: e) w):WO P n ops S Lt Q ⟨some d₀,.binOp .mul t x y u,ty,pos,af,gd⟩ i₀ 0 ord e w:=⟨fun hi₀=>ZsR hi₀ hg₀ hx hy hr hdn kk⟩
theorem Zmw {x y:Operand} {t u:TypeId} {a b:Int} (hg₀:Zz ops e gd) (hx:ev e x=some (.int .i64 a)) (hy:ev e y=some (.int .i64 b)) (h0:0≤a) (hb:0<b) (hr:I64 a) (hdn:Nat.blt d₀ n=true) (kk:WD P n ops S Lt Q ord ((d₀,(.int .i64 (a % b))) :: e) w):WO P n ops S Lt Q ⟨some d₀,.binOp .rem t x y u,ty,pos,af,gd⟩ i₀ 0 ord e w:=⟨fun hi₀=>Zmc hi₀ hg₀ hx hy h0 hb hr hdn kk⟩
theorem Zmx {x y:Operand} {t u:TypeId} {a b:Int} (hg₀:Zz ops e gd) (hx:ev e x=some (.int .i64 a)) (hy:ev e y=some (.int .i64 b)) (h0:0≤a) (hb:0<b) (hr:I64 a) (hdn:Nat.blt d₀ n=true) (kk:WD P n ops S Lt Q ord ((d₀,(.int .i64 (a / b))) :: e) w):WO P n ops S Lt Q ⟨some d₀,.binOp .quo t x y u,ty,pos,af,gd⟩ i₀ 0 ord e w:=⟨fun hi₀=>Zme hi₀ hg₀ hx hy h0 hb hr hdn kk⟩
theorem Ztd {x y:Operand} {t u:TypeId} {a b:Int} {k:IntKind} (hg₀:Zz ops e gd) (hx:ev e x=some (.int k a)) (hy:ev e y=some (.int k b)) (hdn:Nat.blt d₀ n=true) (kk:WD P n ops S Lt Q ord ((d₀,(.bool (decide (a<b)))) :: e) w):WO P n ops S Lt Q ⟨some d₀,.binOp .lss t x y u,ty,pos,af,gd⟩ i₀ 0 ord e w:=⟨fun hi₀=>ZsT hi₀ hg₀ hx hy hdn kk⟩
theorem Zte {x y:Operand} {t u:TypeId} {a b:Int} {k:IntKind} (hg₀:Zz ops e gd) (hx:ev e x=some (.int k a)) (hy:ev e y=some (.int k b)) (hdn:Nat.blt d₀ n=true) (kk:WD P n ops S Lt Q ord ((d₀,(.bool (decide (a≤b)))) :: e) w):WO P n ops S Lt Q ⟨some d₀,.binOp .leq t x y u,ty,pos,af,gd⟩ i₀ 0 ord e w:=⟨fun hi₀=>ZsV hi₀ hg₀ hx hy hdn kk⟩
theorem Ztf {x y:Operand} {t u:TypeId} {a b:Int} {k:IntKind} (hg₀:Zz ops e gd) (hx:ev e x=some (.int k a)) (hy:ev e y=some (.int k b)) (hdn:Nat.blt d₀ n=true) (kk:WD P n ops S Lt Q ord ((d₀,(.bool (decide (b<a)))) :: e) w):WO P n ops S Lt Q ⟨some d₀,.binOp .gtr t x y u,ty,pos,af,gd⟩ i₀ 0 ord e w:=⟨fun hi₀=>ZsW hi₀ hg₀ hx hy hdn kk⟩
theorem Ztg {x y:Operand} {t u:TypeId} {a b:Int} {k:IntKind} (hg₀:Zz ops e gd) (hx:ev e x=some (.int k a)) (hy:ev e y=some (.int k b)) (hdn:Nat.blt d₀ n=true) (kk:WD P n ops S Lt Q ord ((d₀,(.bool (decide (b≤a)))) :: e) w):WO P n ops S Lt Q ⟨some d₀,.binOp .geq t x y u,ty,pos,af,gd⟩ i₀ 0 ord e w:=⟨fun hi₀=>ZsY hi₀ hg₀ hx hy hdn kk⟩
theorem Zth {x y:Operand} {t u:TypeId} {a b:Int} {k:IntKind} (hg₀:Zz ops e gd) (hx:ev e x=some (.int k a)) (hy:ev e y=some (.int k b)) (hdn:Nat.blt d₀ n=true) (kk:WD P n ops S Lt Q ord ((d₀,(.bool (decide (a=b)))) :: e) w):WO P n ops S Lt Q ⟨some d₀,.binOp .eql t x y u,ty,pos,af,gd⟩ i₀ 0 ord e w:=⟨fun hi₀=>Zt0 hi₀ hg₀ hx hy hdn kk⟩
theorem Zti {x y:Operand} {t u:TypeId} {a b:Int} {k:IntKind} (hg₀:Zz ops e gd) (hx:ev e x=some (.int k a)) (hy:ev e y=some (.int k b)) (hdn:Nat.blt d₀ n=true) (kk:WD P n ops S Lt Q ord ((d₀,(.bool (decide (¬ a=b)))) :: e) w):WO P n ops S Lt Q ⟨some d₀,.binOp .neq t x y u,ty,pos,af,gd⟩ i₀ 0 ord e w:=⟨fun hi₀=>Zt1 hi₀ hg₀ hx hy hdn kk⟩
theorem Zde {x:Operand} {vs:Array Value} {i:Nat} {v:Value} (hg₀:Zz ops e gd) (hx:ev e x=some (.tuple vs)) (hv:vs[i]?=some v) (hdn:Nat.blt d₀ n=true) (kk:WD P n ops S Lt Q ord ((d₀,v) :: e) w):WO P n ops S Lt Q ⟨some d₀,.extract x i,ty,pos,af,gd⟩ i₀ 0 ord e w:=⟨fun hi₀=>Zd9 hi₀ hg₀ hx hv hdn kk⟩
theorem Za8 {x:Operand} {t:TypeId} {b o i off:Nat} [hf:Fld P t i off] (hg₀:Zz ops e gd) (hx:ev e x=some (.pointer (some ⟨b,o,none⟩))) (hdn:Nat.blt d₀ n=true) (kk:WD P n ops S Lt Q ord ((d₀,(.pointer (some ⟨b,o+off,none⟩))) :: e) w):WO P n ops S Lt Q ⟨some d₀,.fieldAddr t x i,ty,pos,af,gd⟩ i₀ 0 ord e w:=⟨fun hi₀=>Z2O hi₀ hg₀ hx hdn kk⟩
theorem Zmy {α:Type} [Z7 α] {X:List Nat} {xs:List α} {v:Value} {x:Operand} {t:TypeId} {el:TypeId} {w₀:World} [hu:Und P t (.slice el)] (hg₀:Zz ops e gd) (hx:ev e x=some v) (hs:SlV X w₀ v xs) (hdn:Nat.blt d₀ n=true) (kk:WD P n ops S Lt Q ord ((d₀,(.int .i64 (xs.length:Int))) :: e) w):WO P n ops S Lt Q ⟨some d₀,.call { callee:=.builtin .len,args:=#[x],argTypes:=#[t] },ty,pos,af,gd⟩ i₀ 0 ord e w:=⟨fun hi₀=>Zmh hi₀ hg₀ hx hs hdn kk⟩
theorem Z5T {α:Type} [Z7 α] {X:List Nat} {xs:List α} {v:Value} {x y:Operand} {t:TypeId} {el k:Nat} [hu:Und P t (.slice el)] [hk:Siz P el k] {z:Int} {i:Nat} {w₀:World} (hg₀:Zz ops e gd) (hx:ev e x=some v) (hs:SlV X w₀ v xs) (hy:ev e y=some (.int .i64 z)) (hz:z=(i:Int)) (hi:i<xs.length) (hdn:Nat.blt d₀ n=true) (kk:WD P n ops S Lt Q ord ((d₀,(.pointer (some (Zp v i k 0)))) :: e) w):WO P n ops S Lt Q ⟨some d₀,.indexAddr t x y,ty,pos,af,gd⟩ i₀ 0 ord e w:=⟨fun hi₀=>Zt3 hi₀ hg₀ hx hs hy hz hi hdn kk⟩
theorem Zbo {x:Operand} {t:TypeId} {v:Value} {i k j m off:Nat} [hf:Fld P t m off] (hg₀:Zz ops e gd) (hx:ev e x=some (.pointer (some (Zp v i k j)))) (hv:∃ p l c,v=.slice (some p) l c) (hdn:Nat.blt d₀ n=true) (kk:WD P n ops S Lt Q ord ((d₀,(.pointer (some (Zp v i k (j+off))))) :: e) w):WO P n ops S Lt Q ⟨some d₀,.fieldAddr t x m,ty,pos,af,gd⟩ i₀ 0 ord e w:=⟨fun hi₀=>Zbg hi₀ hg₀ hx hv hdn kk⟩
theorem Z2x {t:TypeId} {l:List (Nat×Operand)} {vs:List (Nat×Value)} {u:Value} (hg₀:Zz ops e gd) (hv:Z0m e l=some vs) (hb:∀ w,(Instr.build t vs.toArray).run P w=.ok u w) (hdn:Nat.blt d₀ n=true) (kk:WD P n ops S Lt Q ord ((d₀,u) :: e) w):WO P n ops S Lt Q ⟨some d₀,.build t l.toArray,ty,pos,af,gd⟩ i₀ 0 ord e w:=⟨fun hi₀=>Z2w hi₀ hg₀ hv hb hdn kk⟩
theorem Zmz {x y:Operand} {t u:TypeId} {p q:Value} {c:Prop} [Decidable c] (hg₀:Zz ops e gd) (hx:ev e x=some p) (hy:ev e y=some q) (hg:∀ w,(eqGuard .eql t x y p q).run P w=.ok () w) (h:∀ w,(binOp .eql t p q).run P w=.ok (.bool (decide c)) w) (hdn:Nat.blt d₀ n=true) (kk:WD P n ops S Lt Q ord ((d₀,(.bool (decide c))) :: e) w):WO P n ops S Lt Q ⟨some d₀,.binOp .eql t x y u,ty,pos,af,gd⟩ i₀ 0 ord e w:=⟨fun hi₀=>Zmi hi₀ hg₀ hx hy hg h hdn kk⟩
theorem Zez {x y:Operand} {t u:TypeId} {p q:Value} {c:Prop} [Decidable c] (hg₀:Zz ops e gd) (hx:ev e x=some p) (hy:ev e y=some q) (hg:∀ w,(eqGuard .neq t x y p q).run P w=.ok () w) (h:∀ w,(binOp .neq t p q).run P w=.ok (.bool (decide (¬ c))) w) (hdn:Nat.blt d₀ n=true) (kk:WD P n ops S Lt Q ord ((d₀,(.bool (decide (¬ c)))) :: e) w):WO P n ops S Lt Q ⟨some d₀,.binOp .neq t x y u,ty,pos,af,gd⟩ i₀ 0 ord e w:=⟨fun hi₀=>Zmk hi₀ hg₀ hx hy hg h hdn kk⟩
theorem Za9 {b T o:Nat} {cs:List Value} {u:Value} {x:Operand} {t:TypeId} {D:TypeDesc} [hu:Und P t D] (hg₀:Zz ops e gd) (hA:JV D=false) (hx:ev e x=some (.pointer (some ⟨b,o,none⟩))) (hb:Blk w b T cs) (hn:b∉S) (hc:cs[o]?=some u) (hdn:Nat.blt d₀ n=true) (kk:WD P n ops S Lt Q ord ((d₀,u) :: e) w):WO P n ops S Lt Q ⟨some d₀,.load t x,ty,pos,af,gd⟩ i₀ 1 ord e w:=⟨fun hi₀=>Z07 hi₀ hg₀ hA hx hb hn hc hdn kk⟩
theorem Z8B {b T m:Nat} {cs:List Value} {x:Operand} {t:TypeId} {D:TypeDesc} [hu:Und P t D] [hsz:Siz P t m] (hg₀:Zz ops e gd) (hA:JV D=true) (hx:ev e x=some (.pointer (some ⟨b,0,none⟩))) (hb:Blk w b T cs) (hn:b∉S) (hl:cs.length=m) (hdn:Nat.blt d₀ n=true) (kk:WD P n ops S Lt Q ord ((d₀,.agg cs.toArray) :: e) w):WO P n ops S Lt Q ⟨some d₀,.load t x,ty,pos,af,gd⟩ i₀ 1 ord e w:=⟨fun hi₀=>Za7 hi₀ hg₀ hA hx hb hn hl hdn kk⟩
theorem Zbp {α:Type} [Z3 α] {X:List Nat} {xs:List α} {v u:Value} {i j k:Nat} {x:Operand} {t:TypeId} {D:TypeDesc} [hu:Und P t D] (hg₀:Zz ops e gd) (hA:JV D=false) (hx:ev e x=some (.pointer (some (Zp v i k j)))) (hs:SlV X w v xs) (hn:∀ b∈S,b∈X) (hi:i<xs.length) (hk:k=Z3.k α) (hc:(Z3.enc xs[i])[j]?=some u) (hdn:Nat.blt d₀ n=true) (kk:WD P n ops S Lt Q ord ((d₀,u) :: e) w):WO P n ops S Lt Q ⟨some d₀,.load t x,ty,pos,af,gd⟩ i₀ 1 ord e w:=⟨fun hi₀=>Zdc hi₀ hg₀ hA hx hs hn hi hk hc hdn kk⟩
theorem Zaa {α:Type} [Z3 α] {X:List Nat} {xs:List α} {v:Value} {i k:Nat} {x:Operand} {t:TypeId} {D:TypeDesc} [hu:Und P t D] [hsz:Siz P t k] (hg₀:Zz ops e gd) (hA:JV D=true) (hx:ev e x=some (.pointer (some (Zp v i k 0)))) (hs:SlV X w v xs) (hn:∀ b∈S,b∈X) (hi:i<xs.length) (hk:k=Z3.k α) (hdn:Nat.blt d₀ n=true) (kk:WD P n ops S Lt Q ord ((d₀,.agg (Z3.enc xs[i]).toArray) :: e) w):WO P n ops S Lt Q ⟨some d₀,.load t x,ty,pos,af,gd⟩ i₀ 1 ord e w:=⟨fun hi₀=>Zbi hi₀ hg₀ hA hx hs hn hi hk hdn kk⟩
theorem ZmA {t u:TypeId} {x y:Operand} {a b:Str} [hu:Und P t .string] (hg₀:Zz ops e gd) (hx:ev e x=some (str a)) (hy:ev e y=some (str b)) (hdn:Nat.blt d₀ n=true) (kk:WD P n ops S Lt Q ord ((d₀,(.bool (decide (a=b)))) :: e) w):WO P n ops S Lt Q ⟨some d₀,.binOp .eql t x y u,ty,pos,af,gd⟩ i₀ 0 ord e w:=⟨fun hi₀=>Zmq hi₀ hg₀ hx hy hdn kk⟩
theorem ZmB {t u:TypeId} {x y:Operand} {a b:Str} [hu:Und P t .string] (hg₀:Zz ops e gd) (hx:ev e x=some (str a)) (hy:ev e y=some (str b)) (hdn:Nat.blt d₀ n=true) (kk:WD P n ops S Lt Q ord ((d₀,(.bool (decide (¬ a=b)))) :: e) w):WO P n ops S Lt Q ⟨some d₀,.binOp .neq t x y u,ty,pos,af,gd⟩ i₀ 0 ord e w:=⟨fun hi₀=>Zms hi₀ hg₀ hx hy hdn kk⟩
theorem Zfx {t:TypeId} {x y:Operand} {a:Str} {z:Int} {i:Nat} [hu:Und P t .string] (hg₀:Zz ops e gd) (hx:ev e x=some (str a)) (hy:ev e y=some (.int .i64 z)) (hz:z=(i:Int)) (hi:i<a.length) (hdn:Nat.blt d₀ n=true) (kk:WD P n ops S Lt Q ord ((d₀,(.int .u8 (Jc a i))) :: e) w):WO P n ops S Lt Q ⟨some d₀,.index t x y,ty,pos,af,gd⟩ i₀ 0 ord e w:=⟨fun hi₀=>Zfs hi₀ hg₀ hx hy hz hi hdn kk⟩
theorem Zbq {x:Operand} {b:Addr} (hg₀:Zz ops e gd) (hx:ev e x=some (.pointer (some b))) (hdn:Nat.blt d₀ n=true) (kk:WD P n ops S Lt Q ord ((d₀,(.pointer (some b))) :: e) w):WO P n ops S Lt Q ⟨some d₀,.nilCheck x,ty,pos,af,gd⟩ i₀ 0 ord e w:=⟨fun hi₀=>Zbn hi₀ hg₀ hx hdn kk⟩
theorem Z1g {t el len k:Nat} {x y:Operand} {b o i:Nat} {z:Int} [hu:Und P t (.array len el)] [hk:Siz P el k] (hg₀:Zz ops e gd) (hx:ev e x=some (.pointer (some ⟨b,o,none⟩))) (hy:ev e y=some (.int .i64 z)) (hz:z=(i:Int)) (hi:i<len) (hdn:Nat.blt d₀ n=true) (kk:WD P n ops S Lt Q ord ((d₀,(.pointer (some ⟨b,o+i * k,none⟩))) :: e) w):WO P n ops S Lt Q ⟨some d₀,.indexAddr t x y,ty,pos,af,gd⟩ i₀ 0 ord e w:=⟨fun hi₀=>Zmu hi₀ hg₀ hx hy hz hi hdn kk⟩
theorem Ztj {x y:Operand} {ts:Array TypeId} {a b:Int} (hg₀:Zz ops e gd) (hx:ev e x=some (.int .i64 a)) (hy:ev e y=some (.int .i64 b)) (hdn:Nat.blt d₀ n=true) (kk:WD P n ops S Lt Q ord ((d₀,(.int .i64 (max a b))) :: e) w):WO P n ops S Lt Q ⟨some d₀,.call { callee:=.builtin .max,args:=#[x,y],argTypes:=ts },ty,pos,af,gd⟩ i₀ 0 ord e w:=⟨fun hi₀=>Zt7 hi₀ hg₀ hx hy hdn kk⟩
theorem Ztk {x y:Operand} {ts:Array TypeId} {a b:Int} (hg₀:Zz ops e gd) (hx:ev e x=some (.int .i64 a)) (hy:ev e y=some (.int .i64 b)) (hdn:Nat.blt d₀ n=true) (kk:WD P n ops S Lt Q ord ((d₀,(.int .i64 (min a b))) :: e) w):WO P n ops S Lt Q ⟨some d₀,.call { callee:=.builtin .min,args:=#[x,y],argTypes:=ts },ty,pos,af,gd⟩ i₀ 0 ord e w:=⟨fun hi₀=>Zt9 hi₀ hg₀ hx hy hdn kk⟩
theorem ZmC {t:TypeId} {x:Operand} {y:Operand} {q:Nat} (h:WO P n ops S Lt Q ⟨some d₀,.indexAddr t x y,ty,pos,af,gd⟩ i₀ q ord e w):WO P n ops S Lt Q ⟨some d₀,.indexAddr t x y,ty,pos,af,gd⟩ i₀ q ord e w:=h
theorem ZiM {t:TypeId} {x:Operand} {q:Nat} (h:WO P n ops S Lt Q ⟨some d₀,.load t x,ty,pos,af,gd⟩ i₀ q ord e w):WO P n ops S Lt Q ⟨some d₀,.load t x,ty,pos,af,gd⟩ i₀ q ord e w:=h
theorem ZmD {t:TypeId} {x:Operand} {q:Nat} (h:WO P n ops S Lt Q ⟨some d₀,.call { callee:=.builtin .len,args:=#[x],argTypes:=#[t] },ty,pos,af,gd⟩ i₀ q ord e w):WO P n ops S Lt Q ⟨some d₀,.call { callee:=.builtin .len,args:=#[x],argTypes:=#[t] },ty,pos,af,gd⟩ i₀ q ord e w:=h
theorem Zfy {t:TypeId} {x:Operand} {m:Nat} {q:Nat} (h:WO P n ops S Lt Q ⟨some d₀,.fieldAddr t x m,ty,pos,af,gd⟩ i₀ q ord e w):WO P n ops S Lt Q ⟨some d₀,.fieldAddr t x m,ty,pos,af,gd⟩ i₀ q ord e w:=h
theorem Ztl {t:TypeId} {x:Operand} {y:Operand} {u:TypeId} {bo:BinOp} (h:WL P n ops Q (⟨some d₀,.binOp bo t x y u,ty,pos,af,none⟩ :: rest) e w):WL P n ops Q (⟨some d₀,.binOp bo t x y u,ty,pos,af,none⟩ :: rest) e w:=h
theorem ZmE {t:TypeId} {x:Operand} {y:Operand} {u:TypeId} {bo:BinOp} {q:Nat} (h:WO P n ops S Lt Q ⟨some d₀,.binOp bo t x y u,ty,pos,af,gd⟩ i₀ q ord e w):WO P n ops S Lt Q ⟨some d₀,.binOp bo t x y u,ty,pos,af,gd⟩ i₀ q ord e w:=h
theorem Zwz {t:TypeId} {x:Operand} {uo:UnOp} (h:WL P n ops Q (⟨some d₀,.unOp uo t x,ty,pos,af,none⟩ :: rest) e w):WL P n ops Q (⟨some d₀,.unOp uo t x,ty,pos,af,none⟩ :: rest) e w:=h
theorem ZmF {x:Operand} {y:Operand} {z:Operand} (h:WL P n ops Q (⟨some d₀,.pick x y z,ty,pos,af,none⟩ :: rest) e w):WL P n ops Q (⟨some d₀,.pick x y z,ty,pos,af,none⟩ :: rest) e w:=h
theorem ZiN {x:Operand} {y:Operand} {z:Operand} {q:Nat} (h:WO P n ops S Lt Q ⟨some d₀,.pick x y z,ty,pos,af,gd⟩ i₀ q ord e w):WO P n ops S Lt Q ⟨some d₀,.pick x y z,ty,pos,af,gd⟩ i₀ q ord e w:=h
theorem Ztm {ff:Fn} {fa ca:Array Operand} (h:WL P n ops Q (⟨some d₀,.makeFunc ff fa ca,ty,pos,af,none⟩ :: rest) e w):WL P n ops Q (⟨some d₀,.makeFunc ff fa ca,ty,pos,af,none⟩ :: rest) e w:=h
theorem ZxK {l:List Oper} (h:WL P n ops Q l e w):WL P n ops Q l e w:=h
theorem ZxL {c:Code} (h:WC P n c Q e w):WC P n c Q e w:=h
theorem ZxM {x:Exit} (h:WQ n Q x e w):WQ n Q x e w:=h
end
structure Z2R (R:Prop):Prop where
 h:R
theorem W1 {G R:Prop} (k:R) (h:Z2R R→G:=by
 intro r
 repeat1' (first
  | (apply ZxK;first
  | (apply Z57;exact rfl;exact rfl)
  | (apply Z2v;exact rfl;exact rfl)
  | apply Z2K
  | (apply Zml;first|refine Z6z rfl rfl (by assumption) (by rfl) rfl ?_|refine Zda rfl rfl (by assumption) (by first|assumption|omega) (by rfl) (by rfl) rfl ?_|refine Za6 rfl rfl (by assumption) (by rfl) rfl ?_|refine Zbh rfl rfl (by assumption) (by assumption) (by rfl) rfl ?_)
  | (apply Zt4;first|refine Z5R rfl (by assumption) rfl rfl (by assumption) rfl ?_|refine Z5R rfl (by assumption) rfl rfl (by omega) rfl ?_|refine Z5R rfl (by assumption) rfl (by assumption) (by first|assumption|omega) rfl ?_|refine Z5R (i:=0) rfl (by assumption) rfl rfl (by omega) rfl ?_|refine Z5R (i:=1) rfl (by assumption) rfl rfl (by omega) rfl ?_|refine Z5R (i:=2) rfl (by assumption) rfl rfl (by omega) rfl ?_|refine Z13 (i:=0) rfl rfl rfl (by decide) rfl ?_|refine Z13 (i:=1) rfl rfl rfl (by decide) rfl ?_|refine Z13 (i:=2) rfl rfl rfl (by decide) rfl ?_|refine Z13 rfl rfl rfl (by omega) rfl ?_)
  | (apply Za2;exact rfl;exact rfl)
  | (apply ZiE;refine Zbf rfl (SlV.isSome (by assumption) (by assumption)) rfl ?_)
  | (apply Zt5;first|refine Zmt rfl rfl ?_|refine Zmg rfl (by assumption) rfl ?_|refine Zt2 rfl rfl ?_)
  | (apply Zd8;exact rfl;exact rfl;exact rfl)
  | (apply Zbm;exact rfl;exact rfl)
  | (apply Ztl;first|(apply ZsZ;exact rfl;exact rfl;exact rfl)|(apply Za0;exact rfl;exact rfl;exact rfl)|(apply ZiC;exact rfl;exact rfl;exact rfl)|(apply Zmp;exact rfl;exact rfl;exact rfl)|(apply Zmr;exact rfl;exact rfl;exact rfl)|(apply ZsM;exact rfl;exact rfl;(unfold I64;omega);exact rfl)|(apply ZsO;exact rfl;exact rfl;(unfold I64;omega);exact rfl)|(apply ZsU;exact rfl;exact rfl;exact rfl)|(apply Za1;exact rfl;exact rfl;exact rfl)|(apply ZsX;exact rfl;exact rfl;exact rfl)|(apply Zmf;exact rfl;exact rfl;exact rfl)|(apply Zev;exact rfl;exact rfl;exact rfl)|(apply ZsQ;exact rfl;exact rfl;(unfold I64;omega);exact rfl)|(apply Zmd;exact rfl;exact rfl;omega;omega;(unfold I64;omega);exact rfl)|(apply Zmb;exact rfl;exact rfl;omega;omega;(unfold I64;omega);exact rfl)|(apply Z2Q;exact rfl;exact rfl;omega;exact rfl))
  | (apply Zwz;first|(apply ZiA;exact rfl;exact rfl)|(apply ZiB;exact rfl;exact rfl)|(apply ZiI;exact rfl;exact rfl)|(apply ZsL;exact rfl;exact rfl)|(apply ZsS;exact rfl;(unfold I64;omega);exact rfl))
  | (apply ZmF;first|(apply Zfo;exact rfl;exact rfl;exact rfl)|(apply Zfq;exact rfl;exact rfl;exact rfl))
  | (apply Zt6;exact rfl;exact rfl;exact rfl)
  | (apply Zt8;exact rfl;exact rfl;exact rfl)
  | (apply J5;exact rfl;exact rfl;exact rfl;first|assumption|omega;exact rfl)
  | (apply Ztm;first|(apply WL_makeFunc0;exact rfl)|(apply Za3;exact rfl;exact rfl)|(apply Za4;exact rfl;exact rfl;exact rfl)|(apply Za5;exact rfl;exact rfl;exact rfl;exact rfl))
  | (apply ZtX;exact rfl)
  | (apply Zl4;exact rfl;exact rfl))
  | (apply ZxL;first|apply Z7h|apply Z2u|apply Zhj|apply Z75|apply Z7i|apply Zl1|(apply Z1A;exact rfl)|(apply Z1f;exact rfl))
  | (apply ZxM;first|apply Z46|apply Z1k|apply ZC|apply Zx|(apply ZK;exact rfl)|apply Z9N|apply Ji))
 exact r.h):G:=h ⟨k⟩
theorem W {G R:Prop} (k:R) (h:Z2R R→G:=by
 intro r;first|(refine W1 ?_;exact r.h)|exact r.h):G:=h ⟨k⟩
theorem D1 {G R:Prop} (k:R) (h:Z2R R→G:=by
 intro r
 repeat1' (first|apply Zd7|(apply Z2c;exact rfl;first
  | (apply ZiJ;exact rfl;exact rfl)
  | (apply ZiK;exact rfl;exact rfl)
  | (apply ZiL;exact rfl;exact rfl)
  | (apply Zmv;(first|exact trivial|exact rfl);exact rfl;exact rfl)
  | (apply Zfu;(first|exact trivial|exact rfl);exact rfl;exact rfl)
  | (apply ZiM;first|refine Za9 (by first|exact trivial|exact rfl) rfl rfl (by assumption) (by first|assumption|(simp;done)|(simp;omega)) (by rfl) rfl ?_|refine Zbp (by first|exact trivial|exact rfl) rfl rfl (by assumption) (by first|exact fun _ h=>h|(simp;done)) (by first|assumption|omega) (by rfl) (by rfl) rfl ?_|refine Z8B (by first|exact trivial|exact rfl) rfl rfl (by assumption) (by first|assumption|(simp;done)|(simp;omega)) (by rfl) rfl ?_|refine Zaa (by first|exact trivial|exact rfl) rfl rfl (by assumption) (by first|exact fun _ h=>h|(simp;done)) (by assumption) (by rfl) rfl ?_)
  | (apply ZmC;first|refine Z5T (by first|exact trivial|exact rfl) rfl (by assumption) rfl rfl (by assumption) rfl ?_|refine Z5T (by first|exact trivial|exact rfl) rfl (by assumption) rfl rfl (by omega) rfl ?_|refine Z5T (by first|exact trivial|exact rfl) rfl (by assumption) rfl (by assumption) (by first|assumption|omega) rfl ?_|refine Z5T (i:=0) (by first|exact trivial|exact rfl) rfl (by assumption) rfl rfl (by omega) rfl ?_|refine Z5T (i:=1) (by first|exact trivial|exact rfl) rfl (by assumption) rfl rfl (by omega) rfl ?_|refine Z5T (i:=2) (by first|exact trivial|exact rfl) rfl (by assumption) rfl rfl (by omega) rfl ?_|refine Z1g (i:=0) (by first|exact trivial|exact rfl) rfl rfl rfl (by decide) rfl ?_|refine Z1g (i:=1) (by first|exact trivial|exact rfl) rfl rfl rfl (by decide) rfl ?_|refine Z1g (i:=2) (by first|exact trivial|exact rfl) rfl rfl rfl (by decide) rfl ?_|refine Z1g (by first|exact trivial|exact rfl) rfl rfl rfl (by omega) rfl ?_)
  | (apply Za8;(first|exact trivial|exact rfl);exact rfl;exact rfl)
  | (apply Zfy;refine Zbo (by first|exact trivial|exact rfl) rfl (SlV.isSome (by assumption) (by assumption)) rfl ?_)
  | (apply ZmD;first|refine WO_lenT (by first|exact trivial|exact rfl) rfl rfl ?_|refine Zmy (by first|exact trivial|exact rfl) rfl (by assumption) rfl ?_|refine WO_len (by first|exact trivial|exact rfl) rfl rfl ?_)
  | (apply Zde;(first|exact trivial|exact rfl);exact rfl;exact rfl;exact rfl)
  | (apply Zbq;(first|exact trivial|exact rfl);exact rfl;exact rfl)
  | (apply ZmE;first|(apply Zth;(first|exact trivial|exact rfl);exact rfl;exact rfl;exact rfl)|(apply Ztd;(first|exact trivial|exact rfl);exact rfl;exact rfl;exact rfl)|(apply Zti;(first|exact trivial|exact rfl);exact rfl;exact rfl;exact rfl)|(apply ZmA;(first|exact trivial|exact rfl);exact rfl;exact rfl;exact rfl)|(apply ZmB;(first|exact trivial|exact rfl);exact rfl;exact rfl;exact rfl)|(apply Zta;(first|exact trivial|exact rfl);exact rfl;exact rfl;(unfold I64;omega);exact rfl)|(apply Ztb;(first|exact trivial|exact rfl);exact rfl;exact rfl;(unfold I64;omega);exact rfl)|(apply Zte;(first|exact trivial|exact rfl);exact rfl;exact rfl;exact rfl)|(apply Ztf;(first|exact trivial|exact rfl);exact rfl;exact rfl;exact rfl)|(apply Ztg;(first|exact trivial|exact rfl);exact rfl;exact rfl;exact rfl)|(apply WO_eqlB;(first|exact trivial|exact rfl);exact rfl;exact rfl;exact rfl)|(apply WO_neqB;(first|exact trivial|exact rfl);exact rfl;exact rfl;exact rfl)|(apply Ztc;(first|exact trivial|exact rfl);exact rfl;exact rfl;(unfold I64;omega);exact rfl)|(apply Zmx;(first|exact trivial|exact rfl);exact rfl;exact rfl;omega;omega;(unfold I64;omega);exact rfl)|(apply Zmw;(first|exact trivial|exact rfl);exact rfl;exact rfl;omega;omega;(unfold I64;omega);exact rfl)|(apply WO_addT;(first|exact trivial|exact rfl);exact rfl;exact rfl;omega;exact rfl))
  | (apply iso_un;first|(apply WO_not_t;(first|exact trivial|exact rfl);exact rfl;exact rfl)|(apply WO_not_f;(first|exact trivial|exact rfl);exact rfl;exact rfl)|(apply WO_not_e;(first|exact trivial|exact rfl);exact rfl;exact rfl)|(apply WO_not;(first|exact trivial|exact rfl);exact rfl;exact rfl)|(apply WO_neg;(first|exact trivial|exact rfl);exact rfl;(unfold I64;omega);exact rfl))
  | (apply ZiN;first|(apply Zfv;(first|exact trivial|exact rfl);exact rfl;exact rfl;exact rfl)|(apply Zfw;(first|exact trivial|exact rfl);exact rfl;exact rfl;exact rfl))
  | (apply Ztj;(first|exact trivial|exact rfl);exact rfl;exact rfl;exact rfl)
  | (apply Ztk;(first|exact trivial|exact rfl);exact rfl;exact rfl;exact rfl)
  | (apply Zfx;(first|exact trivial|exact rfl);exact rfl;exact rfl;exact rfl;first|assumption|omega;exact rfl)
  | (apply iso_mkf;first|(apply WO_makeFunc0;(first|exact trivial|exact rfl);exact rfl)|(apply WO_makeFunc1;(first|exact trivial|exact rfl);exact rfl;exact rfl)|(apply WO_makeFunc2;(first|exact trivial|exact rfl);exact rfl;exact rfl;exact rfl)|(apply WO_makeFunc3;(first|exact trivial|exact rfl);exact rfl;exact rfl;exact rfl;exact rfl))))
 exact r.h):G:=h ⟨k⟩
theorem D {G R:Prop} (k:R) (h:Z2R R→G:=by
 intro r;first|(refine D1 ?_;exact r.h)|exact r.h):G:=h ⟨k⟩
theorem WR {G R:Prop} (k:R) (h:Z2R R→G:=by
 intro r;first|refine Zl5 rfl rfl ?_|refine Zl6 rfl rfl rfl ?_|refine Zl7 rfl rfl rfl rfl ?_|refine Z9P rfl ?_|refine Z9Q rfl ?_
 exact r.h):G:=h ⟨k⟩
theorem VG {G R S:Prop} (k:R) (l:S) (h:Z2R R→Z2R S→G:=by
 intro r s;first|refine Zhl rfl rfl ?_ ?_|refine Zfk rfl rfl ?_ ?_
 exact r.h;exact s.h):G:=h ⟨k⟩ ⟨l⟩
theorem VC {G R S:Prop} (k:R) (l:S) (h:Z2R R→Z2R S→G:=by
 intro r s;first|refine Z9O rfl ?_ ?_|refine Zba rfl ?_ ?_
 exact r.h;exact s.h):G:=h ⟨k⟩ ⟨l⟩
theorem hap {p A:Prop} (r:Z2R (p→A)) (h:p):A:=r.h h
theorem QO {G R:Prop} (k:R) (h:Z2R R→G:=by
 intro r
 repeat1' (first|refine W1 ?_|(refine VG ?_ ?_<;>intro hg;(first|(focus omega)|(rotate_left;focus omega)))|(refine VC ?_ ?_<;>intro hg;(first|(focus omega)|(rotate_left;focus omega))))
 exact r.h):G:=h ⟨k⟩
theorem QP {G R S:Prop} (k:R) (l:S) (h:Z2R R→Z2R S→G:=by
 intro r s;first|refine QO ?_|skip
 first|(refine VG ?_ ?_<;>intro hg)|(refine VC ?_ ?_<;>intro hg)
 first|(refine QO ?_;exact hap r hg)|exact hap r hg
 first|(refine QO ?_;exact hap s hg)|exact hap s hg):G:=h ⟨k⟩ ⟨l⟩
theorem QD {G R:Prop} (k:R) (h:Z2R R→G:=by
 intro r
 repeat1' (first|refine D1 ?_|refine Zy rfl rfl rfl rfl (fun hg=>?_) (fun hg=>absurd hg (by omega))|refine Zy rfl rfl rfl rfl (fun hg=>absurd hg (by omega)) (fun hg=>?_)|(refine Zr rfl rfl rfl rfl (fun hg=>?_) (fun hg=>?_)<;>refine D1 ?_;(first|(focus omega)|(rotate_left;focus omega))))
 exact r.h):G:=h ⟨k⟩
theorem QE {G R S:Prop} (k:R) (l:S) (h:Z2R R→Z2R S→G:=by
 intro r s;first|refine QD ?_|skip
 first|refine Zy rfl rfl rfl rfl (fun hg=>?_) (fun hg=>?_)|refine Zr rfl rfl rfl rfl (fun hg=>?_) (fun hg=>?_)
 first|(refine QD ?_;exact hap r (by assumption))|exact hap r (by assumption)
 first|(refine QD ?_;exact hap s (by assumption))|exact hap s (by assumption)):G:=h ⟨k⟩ ⟨l⟩
theorem SA {P:Program} {n:Nat} {Q:Exit→Act→World→Prop} {e:Env} {w:World} {rest:List Oper} {ops:Array Oper} {ty:TypeId} {pos:String} {af:Array Edge} {b T m t:Nat} {cs us:List Value} {x y:Operand} {u:Value} [hsz:Siz P t m] (hb:Blk w b T cs) (k:∀ (v:Value) (w':World),Stp [b] w w'∧Blk w' b T us→WL P n ops Q rest e w')
 (hx:ev e x=some (.pointer (some ⟨b,0,none⟩)):=by exact rfl) (hy:ev e y=some u:=by exact rfl) (hu:u.cells.toList=us:=by exact rfl) (hm:us.length=m:=by exact rfl) (h1:∀ c∈us,c.oneCell'=true:=by exact Z3.one _) (hl:us.length=cs.length:=by exact rfl):WL P n ops Q (⟨none,.store t x y,ty,pos,af,none⟩ :: rest) e w:=Z5 (Z9 hx hy hu hm h1 hb hl) k
theorem S1 {P:Program} {n:Nat} {Q:Exit→Act→World→Prop} {e:Env} {w:World} {rest:List Oper} {ops:Array Oper} {ty:TypeId} {pos:String} {af:Array Edge} {b T o t:Nat} {cs:List Value} {x y:Operand} {u:Value} [hsz:Siz P t 1] (hb:Blk w b T cs) (k:∀ (v:Value) (w':World),Stp [b] w w'∧Blk w' b T (cs.set o u)→WL P n ops Q rest e w')
 (hx:ev e x=some (.pointer (some ⟨b,o,none⟩)):=by exact rfl) (hy:ev e y=some u:=by exact rfl) (hu:u.cells.toList=[u]:=by exact rfl) (h1:u.oneCell'=true:=by exact rfl) (hl:o<cs.length:=by simp):WL P n ops Q (⟨none,.store t x y,ty,pos,af,none⟩ :: rest) e w:=Z5 (Za hx hy hu h1 hb hl) k
theorem LP {P:Program} {n:Nat} {Q:Exit→Act→World→Prop} {e:Env} {w:World} {c:Code} {σ:Type} (env:σ→Env) (I:σ→World→Prop) (μ:σ→Nat) (s₀:σ) (hI:I s₀ w) (round:∀ s w,I s w→WC P n c (Exit.then (fun a' w'=>∃ s',Has n (env s') a'∧I s' w'∧μ s' < μ s) Q) (env s) w) (hs:Sub (env s₀) e:=by repeat (first|exact trivial|refine ⟨rfl,?_⟩)):WC P n (.loop c) Q e w:=Zu env I μ s₀ hs hI round
theorem SB {P:Program} {n:Nat} {Q:Exit→Act→World→Prop} {e:Env} {w:World} {rest:List Oper} {ops:Array Oper} {ty:TypeId} {pos:String} {af:Array Edge} {b T m t:Nat} {cs us:List Value} {x y:Operand} {u:Value} [hsz:Siz P t m] (h1:∀ c∈us,c.oneCell'=true) (hb:Blk w b T cs) (k:∀ (v:Value) (w':World),Stp [b] w w'∧Blk w' b T us→WL P n ops Q rest e w')
 (hx:ev e x=some (.pointer (some ⟨b,0,none⟩)):=by exact rfl) (hy:ev e y=some u:=by exact rfl) (hu:u.cells.toList=us:=by exact rfl) (hm:us.length=m:=by exact rfl) (hl:us.length=cs.length:=by exact rfl):WL P n ops Q (⟨none,.store t x y,ty,pos,af,none⟩ :: rest) e w:=Z5 (Z9 hx hy hu hm h1 hb hl) k
theorem QL {σ:Type} {n:Nat} {Q:Exit→Act→World→Prop} {e:Env} {w:World} {env:σ→Env} {I:σ→World→Prop} {μ:σ→Nat} {m:Nat} (s:σ) (hI:I s w) (hm:μ s<m) (hs:Sub (env s) e:=by repeat (first|exact trivial|refine ⟨rfl,?_⟩)):WQ n (Exit.then (fun a w=>∃ s,Has n (env s) a∧I s w∧μ s<m) Q) .normal e w:=ZD s hs hI hm
theorem QT {σ:Type} {n:Nat} {Q:Exit→Act→World→Prop} {e:Env} {w:World} {env:σ→Env} {I:σ→World→Prop} (s:σ) (hI:I s w) (hs:Sub (env s) e:=by repeat (first|exact trivial|refine ⟨rfl,?_⟩)):WQ n (Exit.then (fun a w=>∃ s,Has n (env s) a∧I s w) Q) .normal e w:=ZN s hs hI
theorem RU {G A:Prop} (k:A) (h:Z2R A→G:=by
 intro r;refine WR ?_;exact .mk r.h):G:=h ⟨k⟩
theorem RT {G A:Prop} (k:A) (h:Z2R A→G:=by
 intro r;first|refine QO ?_|skip
 refine WR ?_;exact .mk r.h):G:=h ⟨k⟩
theorem CL {P:Program} {n:Nat} {Q:Exit→Act→World→Prop} {e:Env} {w:World} {rest:List Oper} {f d:Nat} {fn:Func} {xs:Array Operand} {ts:Array TypeId} {vs:Array Value} {G:Value→World→Prop} {c:Operand} {ty:TypeId} {pos:String} {af:Array Edge} {ops:Array Oper} [hf:Fun P f fn] (h:Calls P f vs w (Ret G)) (k:∀ v w',G v w'→WL P n ops Q rest ((d,v) :: e) w') (hc:ev e c=some (.func (.func f) #[] #[]):=by exact rfl) (hv:∀ a,Has n e a→xs.map a.eval=vs:=by first|exact Z5Q|exact ZX rfl|exact Zh rfl rfl|exact Js rfl rfl rfl|exact Z6Y rfl rfl rfl rfl|exact Zfl rfl rfl rfl rfl rfl) (hd:Nat.blt d n=true:=by exact rfl):WL P n ops Q (⟨some d,.call { callee:=.value c,args:=xs,argTypes:=ts },ty,pos,af,none⟩ :: rest) e w:=Z1 (Zd hc hv h) hd k
theorem CM {P:Program} {n:Nat} {Q:Exit→Act→World→Prop} {e:Env} {w:World} {rest:List Oper} {f d:Nat} {fn:Func} {xs:Array Operand} {ts:Array TypeId} {vs:Array Value} {G:Value→World→Prop} {c:Operand} {ty:TypeId} {pos:String} {af:Array Edge} {ops:Array Oper} [hf:Fun P f fn] (hv:∀ a,Has n e a→xs.map a.eval=vs) (h:Calls P f vs w (Ret G)) (k:∀ v w',G v w'→WL P n ops Q rest ((d,v) :: e) w') (hc:ev e c=some (.func (.func f) #[] #[]):=by exact rfl) (hd:Nat.blt d n=true:=by exact rfl):WL P n ops Q (⟨some d,.call { callee:=.value c,args:=xs,argTypes:=ts },ty,pos,af,none⟩ :: rest) e w:=Z1 (Zd hc hv h) hd k
theorem DC {P:Program} {n:Nat} {S Lt:List Nat} {Q:Exit→Act→World→Prop} {e:Env} {w:World} {ord:List (Nat×Nat)} {i f d:Nat} {fn:Func} {gd:Option (Nat×Bool)} {xs:Array Operand} {ts:Array TypeId} {vs:Array Value} {G:Value→World→Prop} {c:Operand} {ty:TypeId} {pos:String} {af:Array Edge} {ops:Array Oper} [hf:Fun P f fn] (h:Calls P f vs w (Ret G)) (hG:∀ v w',G v w'→Stp S w w') (k:∀ v w',G v w'→WD P n ops S Lt Q ord ((d,v) :: e) w') (hi:ops[i]?=some ⟨some d,.call { callee:=.value c,args:=xs,argTypes:=ts },ty,pos,af,gd⟩:=by exact rfl) (hg:Zz ops e gd:=by first|exact trivial|exact rfl) (hc:ev e c=some (.func (.func f) #[] #[]):=by exact rfl) (hv:∀ a,Has n e a→xs.map a.eval=vs:=by first|exact Z5Q|exact ZX rfl|exact Zh rfl rfl|exact Js rfl rfl rfl|exact Z6Y rfl rfl rfl rfl|exact Zfl rfl rfl rfl rfl rfl) (hd:Nat.blt d n=true:=by exact rfl):WD P n ops S Lt Q ((i,2) :: ord) e w:=Zc hi hg (Zd hc hv h) hG hd k
inductive Nd where
 | mk (kind n:Int) (s:Str) (kids:List Nd)
namespace Nd
def kind:Nd→Int|mk k _ _ _=>k
def num:Nd→Int|mk _ n _ _=>n
def word:Nd→Str|mk _ _ s _=>s
def kids:Nd→List Nd|mk _ _ _ l=>l
theorem eta (x:Nd):x=mk x.kind x.num x.word x.kids:=by cases x;rfl
theorem ind {P:Nd→Prop} (h:∀ k n s l,(∀ x∈l,P x)→P (mk k n s l)):∀ x,P x
 | mk k n s l=>h k n s l (fun x hx=>ind h x)
 decreasing_by
  have:=List.sizeOf_lt_of_mem hx;simp only [mk.sizeOf_spec];omega
end Nd
inductive Z4u (X:List Nat) (w:World):Nd→List Value→Prop
 | mk (k n : Int) (s : Str) (l : List Nd) (p : Option Addr) (c : Nat) (b o : Nat) (css : Nat → List Value) (hl : l.length ≤ c) (hm : c ≤ maxLen) (hn : p = none → c = 0)
    (hp:0<l.length→p=some ⟨b,o,none⟩∧b<w.heap.size∧b∉X) (hr:∀ i (h:i<l.length),Z4u X w l[i] (css i))
    (hc:∀ i,i<l.length→∀ j u,(css i)[j]?=some u→w.cell? ⟨b,o+i * 4+j,none⟩=some u) :
    Z4u X w (.mk k n s l) [.I k,.I n,str s,.slice p l.length c]
theorem Z4u.ext {X S X':List Nat} {w w':World} {x:Nd} {cs:List Value} (h:Z4u X w x cs) (hS:Stp S w w') (h1:∀ b∈S,b∈X) (h2:∀ b∈X',b∈X∨w.heap.size≤b):Z4u X' w' x cs:=by
 induction h with
 | mk k n s l p c b o css hl hm hn hp hr hc ih=>
   refine .mk k n s l p c b o css hl hm hn (fun h0=>?_) ih (fun i hi j u hu=>?_);obtain ⟨e1,e2,e3⟩:=hp h0;refine ⟨e1,Xa e2 hS.size,fun hb=>?_⟩;rcases h2 b hb with h|h
   exact e3 h;omega;obtain ⟨_,_,e3⟩:=hp (by omega);exact hS.cell (fun hb=>e3 (h1 b hb)) (hc i hi j u hu)
instance:Z7 Nd where
 k:=4
 rep:=Z4u
 len:=by intro X w x cs h;cases h;rfl
 one:=by
  intro X w x cs h u hu;cases h;simp at hu;rcases hu with rfl|rfl|rfl|rfl<;>rfl
 ext:=Z4u.ext
def NdV (X:List Nat) (w:World) (v:Value) (x:Nd):Prop:=∃ kv,v=.agg #[.I x.kind,.I x.num,str x.word,kv]∧SlV X w kv x.kids
theorem ZiO {X:List Nat} {w} {x:Nd} {cs:List Value} (h:Z4u X w x cs):∃ kv,cs=[.I x.kind,.I x.num,str x.word,kv]∧SlV X w kv x.kids:=by
 cases h with
 | mk k n s l p c b o css hl hm hn hp hr hc=>
   refine ⟨_,rfl,p,c,rfl,hl,hm,hn,fun i hi=>?_⟩;obtain ⟨e1,e2,e3⟩:=hp (by show 0<l.length;have:i<l.length:=hi;omega);exact ⟨b,o,css i,e1,e2,e3,hr i hi,hc i hi⟩
theorem Z2y {X:List Nat} {w} {k n:Int} {s:Str} {l:List Nd} {kv:Value} (h:SlV X w kv l):Z4u X w (.mk k n s l) [.I k,.I n,str s,kv]:=by
 obtain ⟨p,c,rfl,hl,hm,hn,hc⟩:=h;have hall:∀ i:Fin l.length,∃ cs:List Value,∃ b o,p=some ⟨b,o,none⟩∧b<w.heap.size∧b∉X∧Z4u X w l[i] cs∧∀ j u,cs[j]?=some u→w.cell? ⟨b,o+i * 4+j,none⟩=some u:=by
  intro i;obtain ⟨b,o,cs,h1,h2,h3,h4,h5⟩:=hc i i.2;exact ⟨cs,b,o,h1,h2,h3,h4,h5⟩
 obtain ⟨f,hf⟩:=Classical.axiomOfChoice hall;by_cases h0:0<l.length;obtain ⟨b,o,e1,e2,e3,_⟩:=hf ⟨0,h0⟩;refine .mk k n s l p c b o (fun i=>if h:i<l.length then f ⟨i,h⟩ else []) hl hm hn (fun _=>⟨e1,e2,e3⟩) (fun i hi=>?_) (fun i hi j u hu=>?_);obtain ⟨_,_,_,_,_,g,_⟩:=hf ⟨i,hi⟩;simpa [hi] using g;obtain ⟨b',o',g1,_,_,_,g⟩:=hf ⟨i,hi⟩;rw [e1] at g1;simp only [XD,Addr.mk.injEq] at g1;obtain ⟨rfl,rfl,_⟩:=g1;exact g j u (by simpa [hi] using hu);exact .mk k n s l p c 0 0 (fun _=>[]) hl hm hn (fun h=>absurd h h0) (fun i hi=>by omega) (fun i hi=>by omega)
theorem NdV.up {X:List Nat} {w w':World} {v:Value} {x:Nd} (h:NdV X w v x) (hS:Stp [] w w'):NdV X w' v x:=by
 obtain ⟨kv,rfl,hs⟩:=h;exact ⟨kv,rfl,hs.up hS⟩
theorem SlV.nd {X:List Nat} {w} {v:Value} {l:List Nd} {i:Nat} (h:SlV X w v l) (hi:i<l.length):∃ kv,SlV X w kv l[i].kids∧∀ j u,[Value.int .i64 l[i].kind,.I l[i].num,str l[i].word,kv][j]?=some u→w.cell? (Zp v i 4 j)=some u:=by
 obtain ⟨cs,hr,hc⟩:=h.cell hi;obtain ⟨kv,rfl,hs⟩:=ZiO hr;exact ⟨kv,hs,hc⟩
section
variable {P:Program} {n:Nat} {e:Env} {w:World} {d:Option Nat} {ty:TypeId} {pos:String} {af:Array Edge} {g:Option (Nat×Bool)}
theorem JG {X:List Nat} {v:Value} {l:List Nd} {i:Nat} {kv:Value} {x:Operand} {t:TypeId} {D:TypeDesc} [hu:Und P t D] (hA:JV D=true) [hsz:Siz P t 4] (hx:ev e x=some (.pointer (some (Zp v i 4 0)))) (hs:SlV X w v l) (hi:i<l.length)
 (hc:∀ j u,[Value.int .i64 l[i].kind,.I l[i].num,str l[i].word,kv][j]?=some u→w.cell? (Zp v i 4 j)=some u) :
 PR P n ⟨d,.load t x,ty,pos,af,g⟩ e w (.agg #[.I l[i].kind,.I l[i].num,str l[i].word,kv]):=by
 obtain ⟨p,l',c,rfl⟩:=hs.isSome hi;refine Z3q (cs:=[.I l[i].kind,.I l[i].num,str l[i].word,kv]) hA hx rfl (fun j u hu=>?_);have:=hc j u hu;simpa [Zp] using this
end
end Go.Eng
namespace Go.Proofs.YtipfkbkkndacjaaGreatDoor
open Go Go.Eng Go.RowKit
abbrev ndC (x:Nd) (kv:Value):List Value:=[.I x.kind,.I x.num,str x.word,kv]
theorem Zi {X:List Nat} {w} {x:Nd} {kv:Value} {l:List Nd} (h:SlV X w kv l):∀ c∈ndC x kv,c.oneCell'=true:=by
 intro c hc;simp only [ndC,Xb,Xj,or_false] at hc;rcases hc with rfl|rfl|rfl|rfl
 rfl;rfl;rfl;exact h.one
def Z14:Nat→Nd→Bool
 | 0,_=>false
 | m+1,x=>x.kids.all (Z14 m)
theorem Z8C {α:Type} (p:α→Bool) (l:List α) (k:Nat) (hk:k<l.length):(l.take (k+1)).all p=((l.take k).all p && p l[k]):=by
 rw [Xi hk,List.all_append];simp
theorem Zdf (m:Nat):∀ (X:List Nat) (v:Value) (x:Nd) (z:Int) (w),z=(m:Int)→m≤1000→NdV X w v x→
 CC 229 #[v,.I z] w fun r w'=>r=.B (Z14 m x)∧Stp [] w w':=by
 induction m with
 | zero=>
   intro X v x z w hz hm hx;obtain ⟨kv,rfl,hs⟩:=hx;refine cW2 22 Tryz.func229 ?_;refine W ?_;refine Z1 (Zq rfl) rfl ?_;rintro _ w1 ⟨b,rfl,hb,hblk,hS⟩;refine RT ?_;exact ⟨rfl,hS⟩
 | succ m ih=>
   intro X v x z w hz hm hx;obtain ⟨kv,rfl,hs⟩:=hx;have hmax:=hs.max;refine cW2 22 Tryz.func229 ?_;refine W ?_;refine Z1 (Zq rfl) rfl ?_;rintro _ w1 ⟨b,rfl,hb,hblk,hS⟩;replace hblk:Blk w1 b _ (ndC x kv):=hblk;replace hs:=hs.up hS;refine QO ?_;have hs0:=hs;refine LP (σ:=Nat) (fun k=>[(1,.I z),(10,kv),(11,.I (x.kids.length:Int)),(12,.I k)]) (fun k w'=>k≤x.kids.length∧Stp [] w1 w'∧(x.kids.take k).all (Z14 m)=true) (fun k=>x.kids.length - k) 0 ⟨Xq _,Stp.refl _ _,rfl⟩ ?_;clear hs;rintro k w2 ⟨hk,hS2,hall⟩;have hs:=hs0.up hS2;by_cases hlt:k<x.kids.length
   · have hnx:=Z8C (Z14 m) x.kids k hlt
     rw [hall,Bool.true_and] at hnx;obtain ⟨kv2,hs2,hc2⟩:=hs.nd hlt;refine QO ?_;apply Z4 (JG rfl rfl hs hlt hc2) rfl;refine Z1 Z2 rfl ?_;rintro _ w3 ⟨b3,rfl,hb3,hblk3,hS3⟩;refine SB (us:=ndC x.kids[k] kv2) (Zi hs2) hblk3 ?_;rintro _ w4 ⟨hS4,hblk4⟩;have hS34:=hS3.ow hS4;replace hS2:=hS2.trans hS34;replace hs2:=hs2.up hS34;refine W ?_;refine CM (Zh rfl rfl) (ih X _ x.kids[k] _ _ (by omega) (by omega) ⟨kv2,rfl,hs2⟩) ?_;rintro _ w5 ⟨rfl,hS5⟩;replace hS2:=hS2.trans hS5;cases hq:Z14 m x.kids[k] with
     | true=>
       refine W ?_;exact QL (k+1) ⟨hlt,hS2,by rw [hnx,hq]⟩ (by omega)
     | false=>
       refine W ?_;refine WR ?_;refine .mk ⟨?_,hS.trans hS2⟩;have:Z14 (m+1) x=false:=by
        show x.kids.all (Z14 m)=false;rw [List.all_eq_false];exact ⟨_,Xd hlt,by simp [hq]⟩
       rw [this]
   have hke:k=x.kids.length:=by omega
   subst hke;rw [Xo] at hall;refine QO ?_;refine WR ?_;refine .mk ⟨?_,hS.trans hS2⟩;show _=Value.bool (x.kids.all (Z14 m));rw [hall]
end Go.Proofs.YtipfkbkkndacjaaGreatDoor
namespace Go.Eng
open Go Go.RowKit Go.Proofs
class Zbr (P:Program) (kt:Nat) (κ:outParam Type) [DecidableEq κ] where
 enc:κ→Value
 chk:∀ (em:Bool) (a:κ) (w:World),(Instr.checkKey em 10000 kt (enc a)).run P w=.ok () w
 find:∀ (a:κ) (es:List MapEntry) (l:List κ) (w:World),es.map (·.key)=l.map enc→
  (Instr.findKey kt (enc a) es).run P w=.ok ((l.findIdx? (fun b=>decide (b=a))).bind fun i=>(es[i]?).map fun e=>(i,e.val)) w
def JI {κ:Type} (enc:κ→Value) (w:World) (r:Nat) (l:List (κ×Value)):Prop:=
 ∃ (es:Array MapEntry) (clock:Nat),w.heap[r]?=some (.map es clock)∧es.toList.map (·.key)=l.map (fun p=>enc p.1)∧es.toList.map (·.val)=l.map (·.2)
theorem JI.lt {κ:Type} {enc:κ→Value} {w} {r:Nat} {l:List (κ×Value)} (h:JI enc w r l):r<w.heap.size:=by
 obtain ⟨es,c,h1,_⟩:=h;exact (Xk.1 h1).1
theorem JI.ext {κ:Type} {enc:κ→Value} {S:List Nat} {w w':World} {r:Nat} {l:List (κ×Value)} (h:JI enc w r l) (hS:Stp S w w') (hr:r∉S):JI enc w' r l:=by
 have hlt:=h.lt;obtain ⟨es,c,h1,h2⟩:=h;exact ⟨es,c,by rw [hS.block r hlt hr];exact h1,h2⟩
theorem JI.up {κ:Type} {enc:κ→Value} {w w':World} {r:Nat} {l:List (κ×Value)} (h:JI enc w r l) (hS:Stp [] w w'):JI enc w' r l:=h.ext hS (by simp)
def Z3t {κ:Type} [DecidableEq κ] (l:List (κ×Value)) (a:κ) (z:Value):Value:=match l.find? (fun p=>decide (p.1=a)) with|some p=>p.2|none=>z
theorem Z4Q {d:TypeDesc} {κ:Type} [DecidableEq κ] (enc:κ→Value) (h:∀ a b:κ,Instr.sameNow d (enc a) (enc b)=some (decide (a=b))) (a:κ):∀ (es:List MapEntry) (l:List κ) (i:Nat),es.map (·.key)=l.map enc→
 Instr.findNow d (enc a) es i=some ((l.findIdx? (fun b=>decide (b=a))).bind fun j=>(es[j]?).map fun e=>(i+j,e.val))
 | [],[],i,_=>by simp [Instr.findNow]
 | [],_ :: _,i,h=>by simp at h
 | _ :: _,[],i,h=>by simp at h
 | e :: es, b :: l, i, hk => by
   simp only [Xy,Ybg] at hk;obtain ⟨h1,h2⟩:=hk;have ih:=Z4Q enc h a es l (i+1) h2;simp only [Instr.findNow,h1,h];by_cases hab:a=b;subst hab;simp [Ya2]
   · have hba:¬ b=a:=fun h=>hab h.symm
     simp only [decide_eq_false hab,ih,Ya2,decide_eq_false hba,XP,if_false];cases l.findIdx? (fun b=>decide (b=a)) with
     | none=>rfl
     | some j=>
       simp only [XO,Ya1,YaJ];rw [show i+1+j=i+(j+1) by omega]
theorem Z2p {P:Program} {kt:Nat} {κ:Type} [DecidableEq κ] (enc:κ→Value) (h:∀ (a b:κ) (w),(Op.equal kt (enc a) (enc b)).run P w=.ok (decide (a=b)) w) (a:κ) (w):∀ (es:List MapEntry) (l:List κ) (i:Nat),es.map (·.key)=l.map enc→
 (Instr.findAsking kt (enc a) es i).run P w=.ok ((l.findIdx? (fun b=>decide (b=a))).bind fun j=>(es[j]?).map fun e=>(i+j,e.val)) w
 | [],[],i,_=>by simp [Instr.findAsking]
 | [],_ :: _,i,h=>by simp at h
 | _ :: _,[],i,h=>by simp at h
 | e :: es, b :: l, i, hk => by
   simp only [Xy,Ybg] at hk;obtain ⟨h1,h2⟩:=hk;have ih:=Z2p enc h a w es l (i+1) h2;simp only [Instr.findAsking,h1];by_cases hab:a=b;subst hab;simp [Ya2,h]
   · have hba:¬ b=a:=fun h=>hab h.symm
     simp only [Sem.run_bind,h,decide_eq_false hab,Result.andThen,Ya2,decide_eq_false hba,XP,if_false,ih];cases l.findIdx? (fun b=>decide (b=a)) with
     | none=>rfl
     | some j=>
       simp only [XO,Ya1,YaJ];rw [show i+1+j=i+(j+1) by omega]
instance {P:Program} {kt:Nat} [hu:Und P kt (.int .i64)]:Zbr P kt Int where
 enc:=fun z=>.I z
 chk:=fun em a w=>MapKept.run_checkKey (k:=.I a) hu.h (by simp [MapKept.IsKey]) em 9999
 find:=fun a es l w hk=>by
  have:=Z4Q (d:=.int .i64) (fun z:Int=>Value.int .i64 z) (fun a b=>by simp [Instr.sameNow,YaC]) a es l 0 hk;simpa using MapKept.run_findKey (w:=w) hu.h this
instance Zok {P:Program} {kt:Nat} [hu:Und P kt .string]:Zbr P kt Str where
 enc:=str
 chk:=fun em a w=>MapKept.run_checkKey (k:=str a) hu.h (by simp [MapKept.IsKey]) em 9999
 find:=fun a es l w hk=>by
  have:=Z4Q (d:=.string) str (fun a b=>by
   simp only [Instr.sameNow,XD];rw [beq_toListBytes,Zmm]) a es l 0 hk
  simpa using MapKept.run_findKey (w:=w) hu.h this
section
variable {P:Program} {n:Nat} {e:Env} {w:World} {d:Option Nat} {ty:TypeId} {pos:String} {af:Array Edge} {g:Option (Nat×Bool)}
theorem Z0R {t:TypeId} {κ:Type} (enc:κ→Value):OE P n ⟨d,.makeMap t none,ty,pos,af,g⟩ e w (fun v w'=>∃ r,v=.map (some r)∧w.heap.size≤r∧JI enc w' r []∧Stp [] w w'):=
 Jd (v:=.map (some w.heap.size)) (w':=w.alloc (.map #[] 0)) (fun a ha=>by
  simp [execOp,run_makeMap]) ⟨_,rfl,Xn _,⟨#[],0,heap_alloc_new w _,rfl,rfl⟩,Stp.alloc _ _ _⟩
theorem Zdg {κ:Type} [DecidableEq κ] {l:List κ} {a:κ} (h:∀ b∈l,¬ b=a):l.findIdx? (fun b=>decide (b=a))=none:=by
 rw [Yaa];intro b hb;simp [h b hb]
theorem Z7r {mt kt et r:Nat} {κ:Type} [DecidableEq κ] [hm:Und P mt (.map kt et)] [K:Zbr P kt κ] {l:List (κ×Value)} {a:κ} {v:Value} (hr:JI K.enc w r l) (hn:∀ p∈l,¬ p.1=a) :
 ∃ w',(Instr.mapUpdate mt (.map (some r)) (K.enc a) v).run P w=.ok () w'∧JI K.enc w' r (l++[(a,v)])∧Stp [r] w w':=by
 obtain ⟨es,clock,h1,h2,h3⟩:=hr;have hf:(Instr.findKey kt (K.enc a) es.toList).run P w=.ok none w:=by
  have hk:es.toList.map (·.key)=(l.map (·.1)).map K.enc:=by rw [h2,YbC];rfl
  rw [K.find a es.toList (l.map (·.1)) w hk,Zdg (by simpa using hn)];rfl
 have hlt:r<w.heap.size:=(Xk.1 h1).1;refine ⟨{ w with heap:=w.heap.setIfInBounds r (.map (es.push { key:=K.enc a,val:=v,born:=clock }) (clock+1)) },?_,?_,?_⟩;simp [Instr.mapUpdate,run_underlying hm.h,MapKept.run_getObj_map h1,K.chk,hf,MapKept.run_setObj_map _ h1,Result.andThen];refine ⟨es.push { key:=K.enc a,val:=v,born:=clock },clock+1,by simp [hlt],?_,?_⟩;simp [h2];simp [h3];refine ⟨rfl,rfl,rfl,by simp,fun b hb hn=>?_⟩;simp only [Xl] at hn;simp [YaH (fun h=>hn h.symm)]
theorem Zv {mt kt et r:Nat} {κ:Type} [DecidableEq κ] {x y z:Operand} [hm:Und P mt (.map kt et)] [K:Zbr P kt κ] {l:List (κ×Value)} {a:κ} {v:Value} (hx:ev e x=some (.map (some r))) (hy:ev e y=some (K.enc a)) (hz:ev e z=some v) (hr:JI K.enc w r l) (hn:∀ p∈l,¬ p.1=a) :
 OE P n ⟨d,.insert mt x y z,ty,pos,af,g⟩ e w (fun _ w'=>JI K.enc w' r (l++[(a,v)])∧Stp [r] w w'):=by
 obtain ⟨w',h1,h2,h3⟩:=Z7r (mt:=mt) (v:=v) hr hn;exact Z47 (w':=w') (fun c hc=>by simp [execOp,hc.ev hx,hc.ev hy,hc.ev hz,h1]) ⟨h2,h3⟩
theorem Z1J {mt kt et r:Nat} {κ:Type} [DecidableEq κ] {x y z:Operand} [hm:Und P mt (.map kt et)] [K:Zbr P kt κ] {l:List (κ×Value)} {a:κ} {v:Value} (hx:ev e x=some (.map (some r))) (hy:ev e y=some (K.enc a)) (hz:ev e z=some v) (hr:JI K.enc w r l) (hn:∀ p∈l,¬ p.1=a) :
 OE P n ⟨d,.mapUpdate mt x y z,ty,pos,af,g⟩ e w (fun _ w'=>JI K.enc w' r (l++[(a,v)])∧Stp [r] w w'):=by
 obtain ⟨w',h1,h2,h3⟩:=Z7r (mt:=mt) (v:=v) hr hn;exact Z47 (w':=w') (fun c hc=>by simp [execOp,hc.ev hx,hc.ev hy,hc.ev hz,h1]) ⟨h2,h3⟩
theorem Z1K {mt kt et r:Nat} {κ:Type} [DecidableEq κ] {x y:Operand} {z:Value} [hm:Und P mt (.map kt et)] [K:Zbr P kt κ] [hz:Zer P et z] {l:List (κ×Value)} {a:κ} (hx:ev e x=some (.map (some r))) (hy:ev e y=some (K.enc a)) (hr:JI K.enc w r l) :
 PR P n ⟨d,.lookup mt x y false,ty,pos,af,g⟩ e w (Z3t l a z):=by
 refine ⟨fun c hc=>?_⟩;obtain ⟨es,clock,h1,h2,h3⟩:=hr;have hk:es.toList.map (·.key)=(l.map (·.1)).map K.enc:=by rw [h2,YbC];rfl
 have hf:=K.find a es.toList (l.map (·.1)) w hk;have hlen:es.toList.length=l.length:=by have:=congrArg List.length h3;simpa using this
 have hv:∀ i:Nat,(es.toList[i]?).map (fun x:MapEntry=>x.val)=(l[i]?).map (fun x:κ×Value=>x.2):=fun i=>by
  have:=congrArg (fun x=>x[i]?) h3;simpa using this
 have hfind:Z3t l a z=match (l.map (·.1)).findIdx? (fun b=>decide (b=a)) with|some i=>((es.toList[i]?).map (fun x:MapEntry=>x.val)).getD z|none=>z:=by
  unfold Z3t;rw [List.findIdx?_map];cases hi:l.findIdx? ((fun b=>decide (b=a)) ∘ fun x=>x.1) with
  | none=>
    have:l.find? (fun p=>decide (p.1=a))=none:=by
     rw [Yao];intro p hp;have:=(Yaa.1 hi) p hp;simpa using this
    rw [this]
  | some i=>
    obtain ⟨hlt,hp,hb⟩:=X5.1 hi;have:l.find? (fun p=>decide (p.1=a))=some l[i]:=by
     rw [Yap];exact ⟨by simpa using hp,i,hlt,rfl,fun j hj=>by simpa using hb j hj⟩
    rw [this];simp only [hv,XN hlt,Ya1,Yax]
 rw [hfind];simp only [execOp,hc.ev hx,hc.ev hy];cases hi:(l.map (·.1)).findIdx? (fun b=>decide (b=a)) with
 | none=>
   rw [hi] at hf;simp [Instr.lookup,run_underlying hm.h,MapKept.run_getObj_map h1,K.chk,hf,Result.andThen,Zer.run]
 | some i=>
   obtain ⟨hlt,_⟩:=X5.1 hi;have hlt':i<es.toList.length:=by rw [hlen];simpa using hlt
   rw [hi] at hf;simp only [XO,XN hlt',Ya1] at hf;simp [Instr.lookup,run_underlying hm.h,MapKept.run_getObj_map h1,K.chk,hf,Result.andThen,XN hlt']
end
end Go.Eng
namespace Go.Proofs.YtipfkbkkndacjaaGreatDoor
open Go Go.Eng Go.RowKit
def idx {α:Type} (p:α→Bool) (xs:List α):Int:=match xs.findIdx? p with|some i=>(i:Int)|none=>-1
theorem Z5U {α:Type} {p:α→Bool} {xs:List α} {k:Nat} (hk:k<xs.length) (hp:p xs[k]=true) (hb:∀ j (h:j<xs.length),j<k→p xs[j]=false):idx p xs=k:=by
 have:xs.findIdx? p=some k:=X5.2 ⟨hk,hp,fun j hj=>by simp [hb j (by omega) hj]⟩;simp [idx,this]
theorem Z3u {α:Type} {p:α→Bool} {xs:List α} (hb:∀ j (h:j<xs.length),p xs[j]=false):idx p xs=-1:=by
 have:xs.findIdx? p=none:=by
  rw [Yaa];intro x hx;obtain ⟨j,hj,rfl⟩:=Xr hx;simp [hb j hj]
 simp [idx,this]
abbrev isS (a:Str):Str→Bool:=fun x=>decide (x=a)
theorem Z8Z (X:List Nat) (v:Value) (l:List Str) (a:Str) (w) (hs:SlV X w v l):CC 282 #[v,str a] w fun r w'=>r=.I (idx (isS a) l)∧Stp [] w w':=by
 have hmax:=hs.max;refine cW2 19 Tryz.func282 ?_;refine W ?_;refine LP (σ:=Nat) (fun k=>[(0,v),(1,str a),(8,.I k),(7,.I (l.length:Int))]) (fun k w'=>k≤l.length∧Stp [] w w'∧∀ j (h:j<l.length),j<k→isS a l[j]=false) (fun k=>l.length - k) 0 ⟨Xq _,Stp.refl _ _,fun j _ h=>absurd h (Xu _)⟩ ?_;have hs0:=hs;clear hs;rintro k w1 ⟨hk,hS,hno⟩;have hs:=hs0.up hS;by_cases hlt:k<l.length
 (refine QP ?_ ?_<;>intro hc)
 refine WR ?_;have he':isS a l[k]=true:=by simpa [isS,eq_comm] using hc
 exact .mk ⟨by rw [Z5U hlt he' hno],hS⟩;refine QL (k+1) ⟨hlt,hS,fun j h hj=>?_⟩ (by omega);by_cases e:j=k;subst e;simpa [isS,eq_comm] using hc;exact hno j h (by omega);have hke:k=l.length:=by omega
 subst hke;refine RT ?_;exact ⟨by rw [Z3u (fun j h=>hno j h h)],hS⟩
theorem Z08 (X:List Nat) (v:Value) (l:List Str) (a:Str) (w) (hs:SlV X w v l):CC 182 #[v,str a] w fun r w'=>r=.I (idx (isS a) l)∧Stp [] w w':=by
 have hmax:=hs.max;refine cW2 19 Tryz.func182 ?_;refine W ?_;refine LP (σ:=Nat) (fun k=>[(0,v),(1,str a),(5,.I k)]) (fun k w'=>k≤l.length∧Stp [] w w'∧∀ j (h:j<l.length),j<k→isS a l[j]=false) (fun k=>l.length - k) 0 ⟨Xq _,Stp.refl _ _,fun j _ h=>absurd h (Xu _)⟩ ?_;have hs0:=hs;clear hs;rintro k w1 ⟨hk,hS,hno⟩;have hs:=hs0.up hS;by_cases hlt:k<l.length
 (refine QP ?_ ?_<;>intro hc)
 refine WR ?_;have he':isS a l[k]=true:=by simpa [isS,eq_comm] using hc
 exact .mk ⟨by rw [Z5U hlt he' hno],hS⟩;refine QL (k+1) ⟨hlt,hS,fun j h hj=>?_⟩ (by omega);by_cases e:j=k;subst e;simpa [isS,eq_comm] using hc;exact hno j h (by omega);have hke:k=l.length:=by omega
 subst hke;refine RT ?_;exact ⟨by rw [Z3u (fun j h=>hno j h h)],hS⟩
theorem Z3v (X:List Nat) (v:Value) (l:List Str) (a:Str) (w) (hs:SlV X w v l):CC 248 #[v,str a] w fun r w'=>r=.I (idx (isS a) l)∧Stp [] w w':=by
 have hmax:=hs.max;refine cW2 19 Tryz.func248 ?_;refine W ?_;refine LP (σ:=Nat) (fun k=>[(0,v),(1,str a),(5,.I k)]) (fun k w'=>k≤l.length∧Stp [] w w'∧∀ j (h:j<l.length),j<k→isS a l[j]=false) (fun k=>l.length - k) 0 ⟨Xq _,Stp.refl _ _,fun j _ h=>absurd h (Xu _)⟩ ?_;have hs0:=hs;clear hs;rintro k w1 ⟨hk,hS,hno⟩;have hs:=hs0.up hS;by_cases hlt:k<l.length
 (refine QP ?_ ?_<;>intro hc)
 refine WR ?_;have he':isS a l[k]=true:=by simpa [isS,eq_comm] using hc
 exact .mk ⟨by rw [Z5U hlt he' hno],hS⟩;refine QL (k+1) ⟨hlt,hS,fun j h hj=>?_⟩ (by omega);by_cases e:j=k;subst e;simpa [isS,eq_comm] using hc;exact hno j h (by omega);have hke:k=l.length:=by omega
 subst hke;refine RT ?_;exact ⟨by rw [Z3u (fun j h=>hno j h h)],hS⟩
def Zf:List Str:=[[100,97,121],[115,101,114,118,101,100],[101,120,116,114,97],[98,121],[116,111],[99,111,117,114,116],[97,109,111,117,110,116]]
abbrev Z2q:Value:=.slice (some ⟨0,0,none⟩) 7 7
def ZR (a:Str):Int×Int×Bool:=
 let i:=idx (isS a) Zf
 if i<0 then (0,0,false) else if i≤1 then (i,3,true) else (i,1,true)
abbrev ZwA (x:Int×Int×Bool):Value:=.tuple #[.I x.1,.I x.2.1,.B x.2.2]
theorem Z90 (a:Str) (w) (hF:SlV [] w Z2q Zf):CC 231 #[str a] w fun r w'=>r=ZwA (ZR a)∧Stp [] w w':=by
 refine cW1 17 Tryz.func231 ?_;refine W ?_;apply Z4 (Z5S rfl) rfl;refine W ?_;refine CL (Z8Z [] _ _ a _ hF) ?_;rintro _ w1 ⟨rfl,hS⟩;unfold ZR;generalize idx (isS a) Zf=i;repeat'(first|refine W1 ?_|refine VG ?_ ?_<;>intro hg|refine VC ?_ ?_<;>intro hc)
 all_goals (refine WR ?_)
 exact .mk ⟨by simp only [if_pos hc],hS⟩;rename_i h1;exact .mk ⟨by simp only [if_neg h1,if_pos hc],hS⟩;rename_i h1;exact .mk ⟨by simp only [if_neg h1,if_neg hc],hS⟩
def wst (s:Str):Nat→List Str×Nat
 | 0=>([],0)
 | k+1=>if k=s.length∨Jc s k=32 then ((wst s k).1++[(s.take k).drop (wst s k).2],k+1) else wst s k
def Z1C (s:Str):List Str:=(wst s (s.length+1)).1
theorem ZiP (s:Str):∀ k,(wst s k).2≤k∧(wst s k).1.length≤k
 | 0=>by simp [wst]
 | k + 1 => by
   have:=ZiP s k;simp only [wst];split;simp;omega;omega
theorem ZiQ (a:Str) (w):(Instr.buildSlice 128 1 #[(0,str a)]).run Tryz.prog w=.ok (.slice (some ⟨w.heap.size,0,none⟩) 1 1) (w.alloc (.cells #[str a] 9)):=by kernel_rfl
theorem Z0X (X:List Nat) (s:Str) (w:World) (hX:∀ b∈X,b<w.heap.size) (hl:s.length≤1000) :
 CC 242 #[str s] w fun r w'=>Row X w' w.heap.size 9 r (Z1C s)∧Stp [] w w':=by
 refine cW1 32 Tryz.func242 ?_;refine W ?_;refine LP (σ:=Nat×Value) (fun q=>[(0,str s),(3,q.2),(4,.I ((wst s q.1).2:Int)),(5,.I (q.1:Int))]) (fun q w'=>q.1≤s.length+1∧Row X w' w.heap.size 9 q.2 (wst s q.1).1∧Stp [] w w') (fun q=>s.length+1 - q.1) (0,.N) ⟨by simp,Row.nil,Stp.refl _ _⟩ ?_;rintro ⟨k,v⟩ w1 ⟨hk,hrow,hS⟩;dsimp only at hk hrow ⊢;obtain ⟨hw1,hw2⟩:=ZiP s k;by_cases hlt:k≤s.length
 · have nxt:wst s (k+1)=if k=s.length∨Jc s k=32 then ((wst s k).1++[(s.take k).drop (wst s k).2],k+1) else wst s k:=rfl
   have hbase:=hS.size;repeat'(first|refine W1 ?_|omega|refine VG ?_ ?_<;>intro hg|refine VC ?_ ?_<;>intro hc)
   rotate_right
   have hno:¬ (k=s.length∨Jc s k=32):=by rintro (h|h)<;>omega
   rw [if_neg hno] at nxt;refine ZD (k+1,v) ⟨rfl,rfl,by rw [nxt];rfl,rfl,trivial⟩ ⟨by dsimp only;omega,by dsimp only;rw [nxt];exact hrow,hS⟩ (by dsimp only;omega)
   all_goals
    have hyes:k=s.length∨Jc s k=32:=by omega
    rw [if_pos hyes] at nxt;apply Z4 (Z2P rfl rfl rfl rfl rfl (by omega) (by omega)) rfl;refine Z1 (Z0 (vs:=[(0,str _)]) rfl (ZiQ _)) rfl ?_;rintro bv w2 hN;have hSb:=hN.choose_spec.2.2.2;have hbv:SlV (ob v++X) w2 bv [(s.take k).drop (wst s k).2]:=hN.slv (fun b hb=>(Xh.1 hb).elim (fun h=>(hrow.ob_le b h).2) (fun h=>Xa (hX b h) hbase)) rfl rfl (by simp [maxLen]);clear hN;replace hrow:=hrow.up hSb;replace hS:=hS.trans hSb;have hbase:=hS.size;refine Z1 (ZW (X:=X) (base:=w.heap.size) rfl (by decide) rfl rfl hrow hbv (by simp only [Xe,Xf];omega) (by simp only [Xe,Xf,maxLen];omega) hbase) rfl ?_;rintro v' w3 ⟨hrow',hS',_⟩;refine W ?_;refine ZD (k+1,v') ⟨rfl,rfl,by rw [nxt];rfl,rfl,trivial⟩ ⟨by dsimp only;omega,by dsimp only;rw [nxt];exact hrow',hS.own hS' (fun b hb=>.inr (hrow.ob_le b hb).1)⟩ (by dsimp only;omega)
 have hke:k=s.length+1:=by omega
 subst hke;refine RT ?_;exact ⟨hrow,hS⟩
theorem _root_.Go.Eng.Row.slv0 {α:Type} [Z7 α] {w} {base T:Nat} {v:Value} {xs:List α} (h:Row [] w base T v xs):SlV [] w v xs:=h.slv (by simp)
theorem Zab:Z1C [100,97,121,32,115,101,114,118,101,100,32,101,120,116,114,97,32,98,121,32,116,111,32,99,111,117,114,116,32,97,109,111,117,110,116]=Zf:=by decide
theorem Zdh (X:List Nat) (w:World) (hX:∀ b∈X,b<w.heap.size):CC 295 #[] w fun r w'=>Row X w' w.heap.size 9 r Zf∧Stp [] w w':=by
 refine cW0 2 Tryz.func295 ?_;refine W ?_;refine CM (ZX rfl) (Z0X X [100,97,121,32,115,101,114,118,101,100,32,101,120,116,114,97,32,98,121,32,116,111,32,99,111,117,114,116,32,97,109,111,117,110,116] _ hX (by decide)) ?_;rintro v w1 ⟨hr,hS⟩;rw [Zab] at hr;refine RT ?_;exact ⟨hr,hS⟩
theorem Z6B (a:Str) (w):CC 247 #[str a] w fun r w'=>r=ZwA (ZR a)∧Stp [] w w':=by
 refine cW1 15 Tryz.func247 ?_;refine W ?_;refine CM Z5Q (Zdh [] _ (by simp)) ?_;rintro v w1 ⟨hr,hS⟩;refine W ?_;refine CM (Zh rfl rfl) (Z08 [] _ _ a _ (hr.slv (by simp))) ?_;rintro _ w2 ⟨rfl,hS2⟩;replace hS:=hS.trans hS2;unfold ZR;generalize idx (isS a) Zf=i;repeat'(first|refine W1 ?_|refine VG ?_ ?_<;>intro hg|refine VC ?_ ?_<;>intro hc)
 all_goals (refine WR ?_)
 exact .mk ⟨by simp only [if_pos hc],hS⟩;rename_i h1;exact .mk ⟨by simp only [if_neg h1,if_pos hc],hS⟩;rename_i h1;exact .mk ⟨by simp only [if_neg h1,if_neg hc],hS⟩
def Z0Y (k n:Int) (s:Str):Int:=
 if k=4 then (if n=0 then (ZR s).2.1 else 0) else if ¬ s=[] then 0
 else if k=1 then (if 0≤n∧n≤2147483647 then 1 else 0) else if k=2 then (if 0≤n∧n≤1 then 2 else 0) else if k=3 then (if 0≤n∧n≤3652058 then 3 else 0) else 0
theorem Z5V {a:Str} (h:(ZR a).2.2=false):(ZR a).2.1=0:=by
 unfold ZR at h ⊢;dsimp only at h ⊢;split<;>rename_i h1
 rfl;rw [if_neg h1] at h;split at h<;>simp at h
theorem Zdi (X:List Nat) (v:Value) (x:Nd) (w) (hx:NdV X w v x) :
 CC 243 #[v] w fun r w'=>r=.I (Z0Y x.kind x.num x.word)∧Stp [] w w':=by
 obtain ⟨kv,rfl,hs⟩:=hx;refine cW1 69 Tryz.func243 ?_;refine W ?_;refine Z1 (Zq rfl) rfl ?_;rintro _ w1 ⟨b,rfl,hb,hblk,hS⟩;replace hblk:Blk w1 b _ (ndC x kv):=hblk;repeat'(first|refine W1 ?_|omega|refine VG ?_ ?_<;>intro hg|refine VC ?_ ?_<;>intro hc)
 · refine CL (Z6B x.word _) ?_
   rintro _ w2 ⟨rfl,hS2⟩;have hno:=@Z5V x.word;have hk:x.kind=4:=hc;generalize hfd:ZR x.word=fd at *;obtain ⟨f1,f2,f3⟩:=fd;replace hblk:=hblk.up hS2;replace hS:=hS.trans hS2;cases f3 with
   | true=>
     (refine QP ?_ ?_<;>intro hc)
     all_goals (refine WR ?_)
     refine .mk ⟨?_,hS⟩;simp only [Z0Y,if_pos hk];rw [if_neg (by assumption)];refine .mk ⟨?_,hS⟩;simp only [Z0Y,if_pos hk];rw [if_pos (by omega),hfd];rfl
   | false=>
     have h0:=hno rfl;dsimp only at h0;subst h0;refine QO ?_;all_goals (refine WR ?_)
     refine .mk ⟨?_,hS⟩;simp only [Z0Y,if_pos hk];split;rw [hfd];rfl
 all_goals (refine WR ?_)
 all_goals
  refine .mk ⟨?_,hS⟩;simp only [Z0Y];repeat' split
  all_goals first|rfl|omega|(exfalso;simp_all;done)|(exfalso;simp_all;omega)
theorem ZiR (X:List Nat) (v:Value) (x:Nd) (w) (hx:NdV X w v x) (hF:SlV [] w Z2q Zf) :
 CC 283 #[v] w fun r w'=>r=.I (Z0Y x.kind x.num x.word)∧Stp [] w w':=by
 obtain ⟨kv,rfl,hs⟩:=hx;refine cW1 50 Tryz.func283 ?_;refine W ?_;refine Z1 (Zq rfl) rfl ?_;rintro _ w1 ⟨b,rfl,hb,hblk,hS⟩;replace hblk:Blk w1 b _ (ndC x kv):=hblk;replace hF:=hF.up hS;repeat'(first|refine W1 ?_|omega|refine VG ?_ ?_<;>intro hg|refine VC ?_ ?_<;>intro hc)
 refine CL (Z90 x.word _ hF) ?_;rintro _ w2 ⟨rfl,hS2⟩;replace hS:=hS.trans hS2;refine QO ?_;refine WR ?_;refine .mk ⟨?_,hS⟩;simp only [Z0Y];rw [if_pos (by assumption),if_pos (by assumption)];rfl
 all_goals first
  | (refine Z1 (Z0R (fun z : Int => Value.int .i64 z)) rfl ?_
     rintro _ w2 ⟨r,rfl,hr,hm,hS2⟩;have hbl:=hblk.lt;have hsz:=hS.size;replace hblk:=hblk.up hS2;replace hS:=hS.trans hS2;refine Z5 (Zv (a:=(1:Int)) (v:=.I 1) rfl rfl rfl hm (by simp)) ?_;rintro _ w3 ⟨hm,hS3⟩;replace hblk:=hblk.ext hS3 (by simp;omega);replace hS:=hS.ow hS3;refine Z5 (Zv (a:=(2:Int)) (v:=.I 2) rfl rfl rfl hm (by simp)) ?_;rintro _ w4 ⟨hm,hS4⟩;replace hblk:=hblk.ext hS4 (by simp;omega);replace hS:=hS.ow hS4;refine Z5 (Zv (a:=(3:Int)) (v:=.I 3) rfl rfl rfl hm (by simp)) ?_;rintro _ w5 ⟨hm,hS5⟩;replace hblk:=hblk.ext hS5 (by simp;omega);replace hS:=hS.ow hS5;refine W ?_;apply Z4 (Z1K (a:=x.kind) rfl rfl hm) rfl;refine W ?_;refine WR ?_;refine .mk ⟨?_,hS⟩;have hw:x.word=[]:=by first|assumption|exact Decidable.not_not.1 (by assumption)
     simp only [Z0Y,hw,not_true_eq_false,if_false]
     first
      | (have hk : x.kind = 1 := by assumption
         rw [hk,if_neg (by decide),if_pos rfl,if_pos (by omega)];rfl)
      | (have hk : x.kind = 2 := by assumption
         rw [hk,if_neg (by decide),if_neg (by decide),if_pos rfl,if_pos (by omega)];rfl)
      | (have hk : x.kind = 3 := by assumption
         rw [hk,if_neg (by decide),if_neg (by decide),if_neg (by decide),if_pos rfl,if_pos (by omega)];rfl))
  | skip
 all_goals (refine WR ?_)
 all_goals
  refine .mk ⟨?_,hS⟩;simp only [Z0Y];repeat' split
  all_goals first|rfl|omega|(exfalso;simp_all;done)|(exfalso;simp_all;omega)
def Z0i (l want:List Int):Bool:=decide (l=want∧∀ x∈l,x≠0)
theorem Z1D (X Y:List Nat) (u v:Value) (l m:List Int) (w) (hl:SlV X w u l) (hm:SlV Y w v m) :
 CC 244 #[u,v] w fun r w'=>r=.B (Z0i l m)∧Stp [] w w':=by
 have hmax:=hl.max;have hmax2:=hm.max;refine cW2 33 Tryz.func244 ?_
 (refine QP ?_ ?_<;>intro hc)
 refine WR ?_;refine .mk ⟨?_,Stp.refl _ _⟩;congr 1;symm;refine decide_eq_false (fun h=>?_);have:=congrArg List.length h.1;omega;have hlen:l.length=m.length:=by omega
 have hl0:=hl;have hm0:=hm;refine LP (σ:=Nat) (fun k=>[(0,u),(1,v),(5,.I k)]) (fun k w'=>k≤l.length∧Stp [] w w'∧∀ j (h:j<l.length) (h':j<m.length),j<k→l[j]=m[j]∧l[j]≠0) (fun k=>l.length - k) 0 ⟨Xq _,Stp.refl _ _,fun j _ _ h=>absurd h (Xu _)⟩ ?_;clear hl hm;rintro k w1 ⟨hk,hS,hall⟩;have hl:=hl0.up hS;have hm:=hm0.up hS;by_cases hlt:k<l.length
 · have hlt2:k<m.length:=by omega
   refine QO ?_;refine ZDr 16 [] [] [(0,0),(1,0),(2,0),(3,1),(4,0),(5,0),(6,0),(7,1),(8,0),(9,0),(10,0),(11,0),(12,0),(13,1),(14,0),(15,0)] (fun w1 hS1=>?_);replace hl:=hl.up hS1;replace hm:=hm.up hS1;replace hS:=hS.trans hS1
   (refine QE ?_ ?_<;>intro hg)
   all_goals (repeat'(first|refine W1 ?_|omega|refine VG ?_ ?_<;>intro hg|refine VC ?_ ?_<;>intro hc))
   all_goals first
    | (refine QL (k + 1) ⟨hlt, hS, fun j h h' hj => ?_⟩ (by omega)
       by_cases e:j=k;subst e;omega;exact hall j h h' (by omega))
    | (refine WR ?_)
   all_goals
    refine .mk ⟨?_,hS⟩;congr 1;symm;refine decide_eq_false (fun h=>?_);obtain ⟨rfl,h2⟩:=h;have:=h2 _ (Xd hlt);omega
 refine QO ?_;refine WR ?_;refine .mk ⟨?_,hS⟩;congr 1;symm;refine decide_eq_true ⟨Yay hlen (fun j h h'=>(hall j h h' (by omega)).1),fun x hx=>?_⟩;obtain ⟨j,hj,rfl⟩:=Xr hx;exact (hall j hj (by omega) (by omega)).2
theorem Zt (a:Int) (w):(Instr.buildSlice 23 1 #[(0,.I a)]).run Tryz.prog w=.ok (.slice (some ⟨w.heap.size,0,none⟩) 1 1) (w.alloc (.cells #[.I a] 3)):=by kernel_rfl
theorem JX (a b:Int) (w):(Instr.buildSlice 23 2 #[(0,.I a),(1,.I b)]).run Tryz.prog w=.ok (.slice (some ⟨w.heap.size,0,none⟩) 2 2) (w.alloc (.cells #[.I a,.I b] 3)):=by kernel_rfl
theorem ZiS (a b c:Int) (w):(Instr.buildSlice 23 3 #[(0,.I a),(1,.I b),(2,.I c)]).run Tryz.prog w=.ok (.slice (some ⟨w.heap.size,0,none⟩) 3 3) (w.alloc (.cells #[.I a,.I b,.I c] 3)):=by kernel_rfl
theorem Z6.stp {w w':World} {T len:Nat} {cs:List Value} {v:Value} (h:Z6 w T len cs v w'):Stp [] w w':=h.choose_spec.2.2.2
def Z0a:List Str:=[[43],[45],[42]]
def Z28:List Str:=[[60],[60,61],[61],[33,61],[62],[62,61]]
def Z03:List Str:=[[97,110,100],[111,114]]
theorem Zdj:Z1C [43,32,45,32,42]=Z0a:=by decide
theorem Zdk:Z1C [60,32,60,61,32,61,32,33,61,32,62,32,62,61]=Z28:=by decide
theorem Zdl:Z1C [97,110,100,32,111,114]=Z03:=by decide
def Zac (s:Str) (l:List Int):Int:=
 if 0≤idx (isS s) Z0a∧Z0i l [1,1]=true then 1 else if 0≤idx (isS s) Z28∧(Z0i l [1,1]=true∨Z0i l [3,3]=true) then 2 else if 0≤idx (isS s) Z03∧Z0i l [2,2]=true then 2 else 0
theorem Zad (X:List Nat) (s:Str) (u:Value) (l:List Int) (w) (hl:SlV X w u l) :
 CC 245 #[str s,u] w fun r w'=>r=.I (Zac s l)∧Stp [] w w':=by
 refine cW2 42 Tryz.func245 ?_;refine W ?_;refine Z1 (Z0 (vs:=[(0,.I 1),(1,.I 1)]) rfl (JX _ _)) rfl ?_;rintro a1 w1 hN;have ha:=hN.slv (X:=[]) (ys:=[(1:Int),1]) (by simp) rfl rfl (by simp [maxLen]);have hS:=Z6.stp hN;clear hN;replace hl:=hl.up hS;refine CL (Z1D _ _ _ _ _ _ _ hl ha) ?_;rintro _ w2 ⟨rfl,hS2⟩;replace hl:=hl.up hS2;replace hS:=hS.trans hS2;refine W ?_;refine Z1 (Z0 (vs:=[(0,.I 3),(1,.I 3)]) rfl (JX _ _)) rfl ?_;rintro a3 w3 hN;have ha:=hN.slv (X:=[]) (ys:=[(3:Int),3]) (by simp) rfl rfl (by simp [maxLen]);have hS3:=Z6.stp hN;clear hN;replace hl:=hl.up hS3;replace hS:=hS.trans hS3;refine CL (Z1D _ _ _ _ _ _ _ hl ha) ?_;rintro _ w4 ⟨rfl,hS4⟩;replace hl:=hl.up hS4;replace hS:=hS.trans hS4;clear ha;unfold Zac;generalize Z0i l [1,1]=p1;generalize Z0i l [3,3]=p3;refine W ?_;refine CM (ZX rfl) (Z0X [] [43,32,45,32,42] _ (by simp) (by decide)) ?_;rintro _ w5 ⟨hr,hS5⟩;rw [Zdj] at hr;replace hl:=hl.up hS5;replace hS:=hS.trans hS5;refine W ?_;refine CL (Z08 [] _ _ s _ hr.slv0) ?_;rintro _ w6 ⟨rfl,hS6⟩;replace hl:=hl.up hS6;replace hS:=hS.trans hS6;generalize idx (isS s) Z0a=i1;clear hr;cases p1<;>cases p3<;>by_cases hi:0≤i1;all_goals (refine QO ?_)
 all_goals first
  | (refine CM (ZX rfl) (Z0X [] [60, 32, 60, 61, 32, 61, 32, 33, 61, 32, 62, 32, 62, 61] _ (by simp) (by decide)) ?_
     rintro _ w7 ⟨hr,hS7⟩;rw [Zdk] at hr;replace hl:=hl.up hS7;replace hS:=hS.trans hS7;refine W ?_;refine CL (Z08 [] _ _ s _ hr.slv0) ?_;rintro _ w8 ⟨rfl,hS8⟩;replace hl:=hl.up hS8;replace hS:=hS.trans hS8;generalize idx (isS s) Z28=i2;clear hr;by_cases hi2:0≤i2)
  | (refine RU ?_
     exact ⟨by simp [hi],hS⟩)
 all_goals (refine QO ?_)
 all_goals first
  | (refine CM (ZX rfl) (Z0X [] [97, 110, 100, 32, 111, 114] _ (by simp) (by decide)) ?_
     rintro _ w9 ⟨hr,hS9⟩;rw [Zdl] at hr;replace hl:=hl.up hS9;replace hS:=hS.trans hS9;refine W ?_;refine CL (Z08 [] _ _ s _ hr.slv0) ?_;rintro _ w10 ⟨rfl,hS10⟩;replace hl:=hl.up hS10;replace hS:=hS.trans hS10;generalize idx (isS s) Z03=i3;clear hr;by_cases hi3:0≤i3)
  | (refine RU ?_
     exact ⟨by simp [hi,hi2],hS⟩)
 all_goals (refine QO ?_)
 all_goals first
  | (refine Z1 (Z0 (vs := [(0, .I 2), (1, .I 2)]) rfl (JX _ _)) rfl ?_
     rintro a2 w11 hN;have ha:=hN.slv (X:=[]) (ys:=[(2:Int),2]) (by simp) rfl rfl (by simp [maxLen]);have hS11:=Z6.stp hN;clear hN;replace hl:=hl.up hS11;replace hS:=hS.trans hS11;refine W ?_;refine CL (Z1D _ _ _ _ _ _ _ hl ha) ?_;rintro _ w12 ⟨rfl,hS12⟩;replace hS:=hS.trans hS12;generalize Z0i l [2,2]=p2;cases p2)
  | (refine RU ?_
     exact ⟨by simp [hi,hi2,hi3],hS⟩)
 all_goals (refine W ?_)
 all_goals (refine WR ?_)
 all_goals exact .mk ⟨by simp [hi,hi2,hi3],hS⟩
structure Sig where
 kind:Int
 s:Str
 a:Int
 b:Int
 c:Int
 deriving DecidableEq
abbrev Z59 (x:Sig):Value:=.agg #[.I x.kind,str x.s,.I x.a,.I x.b,.I x.c]
theorem Ztn (x y:Sig) (w):(Op.equal 355 (Z59 x) (Z59 y)).run Tryz.prog w=.ok (decide (x=y)) w:=by
 have h1:Program.stoodInHeld Tryz.prog 355=false:=by kernel_rfl
 obtain ⟨i,hi⟩:∃ i,Tryz.prog.info? 3=some i:=by
  have:=(inferInstance:Siz Tryz.prog 3 1).h;cases h:Tryz.prog.info? 3 with
  | none=>rw [h] at this;cases this
  | some i=>exact ⟨i,rfl⟩
 have hc:Tryz.prog.cellsOf 3=1:=by kernel_rfl
 obtain ⟨k,s,a,b,c⟩:=x;obtain ⟨k',s',a',b',c'⟩:=y;simp [Z59,Op.equal,Op.maxDepth,run_equalIn_struct,h1,Program.fieldsOf,Tryz.underlying355,Op.eqFields,part,Und.isAgg,Siz.run,JV,run_equalIn_int w _ _ .i64 .i64 _ _ Tryz.underlying3,run_equalIn_string w _ _ _ _ Tryz.underlying9,run_equalIn_array w _ _ _ Tryz.underlying350 hi,hc,Op.eqItems,List.range_succ_eq_map];repeat' split
 all_goals simp_all
theorem ZmG (em:Bool) (x:Sig) (w):(Instr.checkKey em 10000 355 (Z59 x)).run Tryz.prog w=.ok () w:=by kernel_rfl
instance:Zbr Tryz.prog 355 Sig where
 enc:=Z59
 chk:=ZmG
 find:=fun a es l w hk=>by
  have h2:=run_findKey_eq (P:=Tryz.prog) (k:=355) w (by kernel_rfl) (Z59 a) es;have h3:=Z2p Z59 Ztn a w es l 0 hk;simp only [XJ] at h3;exact h2.trans h3
abbrev Zbs (a b c:Int):Value:=.agg #[.I a,.I b,.I c]
theorem ZmH (a:Int) (w):(Instr.build 350 #[(0,.I a)]).run Tryz.prog w=.ok (Zbs a 0 0) w:=by kernel_rfl
theorem Zae (a b:Int) (w):(Instr.build 350 #[(0,.I a),(1,.I b)]).run Tryz.prog w=.ok (Zbs a b 0) w:=by kernel_rfl
theorem Z77 (k a b c:Int) (s:Str) (w):(Instr.build 355 #[(0,.I k),(1,str s),(2,Zbs a b c)]).run Tryz.prog w=.ok (Z59 ⟨k,s,a,b,c⟩) w:=by kernel_rfl
theorem Zbt (a b c d:Str) (w):(Instr.buildSlice 128 4 #[(0,str a),(1,str b),(2,str c),(3,str d)]).run Tryz.prog w=.ok (.slice (some ⟨w.heap.size,0,none⟩) 4 4) (w.alloc (.cells #[str a,str b,str c,str d] 9)):=by kernel_rfl
abbrev ZiT:=Sig×Value
def ent:Nat→ZiT
 | 5=>(⟨5,[45],1,0,0⟩,.I 1)
 | 10=>(⟨5,[110,111,116],2,0,0⟩,.I 2)
 | 15=>(⟨10,[110,101,120,116],3,0,0⟩,.I 3)
 | 20=>(⟨10,[112,114,101,118],3,0,0⟩,.I 3)
 | 26=>(⟨10,[108,97,116,101,114],3,3,0⟩,.I 3)
 | 32=>(⟨10,[101,97,114,108,105,101,114],3,3,0⟩,.I 3)
 | _=>(⟨10,[98,101,116,119,101,101,110],3,3,0⟩,.I 1)
def Zaf:List Nat:=[5,10,15,20,26,32,38]
def J4:List Str:=[[100,97,121,115],[119,101,101,107,115],[109,111,110,116,104,115],[99,111,117,114,116,100,97,121,115]]
def Z1Q (u:Str):List ZiT:=[(⟨7,u,3,1,0⟩,.I 3),(⟨8,u,3,1,0⟩,.I 3)]
def Z3w:List ZiT:=Zaf.map ent++J4.flatMap Z1Q
theorem Zdm:(Z3w.map (·.1)).Nodup:=by decide
theorem Zfz {κ:Type} [DecidableEq κ] {l m:List (κ×Value)} (hp:l.Perm m) (hn:(m.map (·.1)).Nodup) (a:κ) (z:Value):Z3t l a z=Z3t m a z:=by
 have hn':(l.map (·.1)).Nodup:=(hp.map _).nodup_iff.2 hn;have key:∀ (l m:List (κ×Value)),(∀ p,p∈l→p∈m)→(m.map (·.1)).Nodup→∀ p,l.find? (fun p=>decide (p.1=a))=some p→m.find? (fun p=>decide (p.1=a))=some p:=by
  intro l m hs hm p hf;have hpm:=hs p (X3 hf);have hpa:p.1=a:=by simpa using Ybh hf
  cases hq:m.find? (fun p=>decide (p.1=a)) with
  | none=>exact absurd (Yao.1 hq p hpm) (by simp [hpa])
  | some q=>
    have hqm:=X3 hq;have hqa:q.1=a:=by simpa using Ybh hq
    obtain ⟨i,hi,rfl⟩:=Xr hpm;obtain ⟨j,hj,rfl⟩:=Xr hqm;have:i=j:=by
     have h1:=(List.getElem_inj (xs:=m.map (·.1)) (i:=i) (j:=j) (h₀:=by simpa using hi) (h₁:=by simpa using hj) hm).1 (by simp [hpa,hqa]);exact h1
    subst this;rfl
 unfold Z3t;cases h1:l.find? (fun p=>decide (p.1=a)) with
 | some p=>rw [key l m (fun p h=>hp.mem_iff.1 h) hn p h1]
 | none=>
   cases h2:m.find? (fun p=>decide (p.1=a)) with
   | none=>rfl
   | some p=>rw [key m l (fun p h=>hp.mem_iff.2 h) hn' p h2] at h1;cases h1
theorem Z7s (w):CC 285 #[] w fun r w'=>∃ (m:Nat) (l:List ZiT),r=.map (some m)∧JI Z59 w' m l∧l.Perm Z3w∧Stp [] w w':=by
 refine cW0 62 Tryz.func285 ?_;refine W ?_;refine ZDr 41 [] [5,10,15,20,26,32,38] [(1,0),(2,0),(3,0),(4,0),(6,0),(7,0),(8,0),(9,0),(11,0),(12,0),(13,0),(14,0),(16,0),(17,0),(18,0),(19,0),(21,0),(22,0),(23,0),(24,0),(25,0),(27,0),(28,0),(29,0),(30,0),(31,0),(33,0),(34,0),(35,0),(36,0),(37,0),(0,2),(5,279241165504),(39,0),(40,0)] (fun w1 hS1=>?_);repeat'(first|refine D1 ?_|(apply Z2c;exact rfl;first|(apply Z2x (vs:=[(0,.I _)]);exact trivial;exact rfl;exact ZmH _;exact rfl)|(apply Z2x (vs:=[(0,.I _),(1,.I _)]);exact trivial;exact rfl;exact Zae _ _;exact rfl)|(apply Z2x (vs:=[(0,.I _),(1,str _),(2,Zbs _ _ _)]);exact trivial;exact rfl;exact Z77 _ _ _ _ _;exact rfl)))
 refine Zc rfl trivial (Z0R Z59) (fun _ _ h=>h.choose_spec.2.2.2) rfl ?_;rintro _ w2 ⟨m,rfl,hm,hmap,hS2⟩;have hw1:=hS1.size;refine ZsK Zaf (fun rem w'=>∃ l,JI Z59 w' m l∧(l++rem.map ent).Perm (Zaf.map ent)∧Stp [m] w2 w') rfl (by decide) (by decide) ⟨[],hmap,by simp,Stp.refl _ _⟩ ?_ ?_
 · rintro rem j w' hsub hj ⟨l,hl,hp,hS⟩
   have hkeys:((l++rem.map ent).map (·.1)).Nodup:=(hp.map (·.1)).nodup_iff.2 (by decide);have hfresh:∀ p∈l,¬ p.1=(ent j).1:=by
    intro p hp e;rw [XI,List.nodup_append] at hkeys;exact hkeys.2.2 p.1 (Yai hp) (ent j).1 (by rw [YbC];exact XC.2 ⟨j,hj,rfl⟩) e
   have gen:∀ w'',JI Z59 w'' m (l++[ent j])→Stp [m] w' w''→∃ l,JI Z59 w'' m l∧(l++(rem.erase j).map ent).Perm (Zaf.map ent)∧Stp [m] w2 w'':=by
    intro w'' h1 h2;refine ⟨_,h1,?_,hS.trans h2⟩;refine List.Perm.trans ?_ hp;rw [Xx];exact List.Perm.append_left l (((List.perm_cons_erase hj).map ent).symm)
   have hjis:=hsub.subset hj;simp only [Zaf,Xb,Xj,or_false] at hjis;rcases hjis with rfl|rfl|rfl|rfl|rfl|rfl|rfl
   all_goals exact ⟨_,rfl,rfl,trivial,(Zv (v:=.I _) rfl rfl rfl hl hfresh).mono (fun _ w'' ⟨h1,h2⟩=>⟨.inr rfl,gen w'' h1 h2⟩)⟩
 rintro w3 ⟨l,hl,hp,hS3⟩;rw [XQ,XG] at hp;have hS:Stp [] w w3:=(hS1.trans hS2).ow hS3;have hmw:w.heap.size≤m:=by omega
 clear hmap hS2 hS3;repeat'(first|refine D1 ?_|refine Zy rfl rfl rfl rfl (fun hg=>?_) (fun hg=>?_)|(refine Zr rfl rfl rfl rfl (fun hg=>?_) (fun hg=>?_)<;>refine D1 ?_)|fail)
 refine W ?_;refine Z1 (Z0 (vs:=[(0,str [100,97,121,115]),(1,str [119,101,101,107,115]),(2,str [109,111,110,116,104,115]),(3,str [99,111,117,114,116,100,97,121,115])]) rfl (Zbt _ _ _ _)) rfl ?_;rintro uv w4 hN;have hu:SlV [m] w4 uv J4:=hN.slv (fun b hb=>by simp at hb;subst hb;exact hl.lt) rfl rfl (by simp [J4,maxLen]);have hS4:=Z6.stp hN;clear hN;replace hl:=hl.up hS4;replace hS:=hS.trans hS4;have hkind:∀ p∈l,p.1.kind=5∨p.1.kind=10:=fun p hpl=>by
  have hpe:=hp.mem_iff.1 hpl;simp only [Zaf,Xy,XQ,Xb,Xj,or_false] at hpe;rcases hpe with rfl|rfl|rfl|rfl|rfl|rfl|rfl<;>decide
 have hseen:∀ k (h:k<J4.length),∀ p∈(J4.take k).flatMap Z1Q,¬ p.1.s=J4[k]:=by
  intro k h
  match k,h with
  | 0,_=>(show ∀ p∈(J4.take 0).flatMap Z1Q,¬ p.1.s=J4[0]'(by decide));decide
  | 1,_=>(show ∀ p∈(J4.take 1).flatMap Z1Q,¬ p.1.s=J4[1]'(by decide));decide
  | 2,_=>(show ∀ p∈(J4.take 2).flatMap Z1Q,¬ p.1.s=J4[2]'(by decide));decide
  | 3,_=>(show ∀ p∈(J4.take 3).flatMap Z1Q,¬ p.1.s=J4[3]'(by decide));decide
 refine W ?_;refine LP (σ:=Nat) (fun k=>[(1,.I 1),(3,.I 3),(4,.map (some m)),(40,uv),(41,.I 4),(42,.I k)]) (fun k w'=>k≤4∧JI Z59 w' m (l++(J4.take k).flatMap Z1Q)∧Stp [m] w4 w') (fun k=>4 - k) 0 ⟨by omega,by simpa using hl,Stp.refl _ _⟩ ?_;rintro k w5 ⟨hk,hmk,hS5⟩;have hu5:SlV [m] w5 uv J4:=hu.ext hS5 (by simp) (fun b hb=>.inl hb);by_cases hlt:k<4;have hlt2:k<J4.length:=hlt;have hfr:∀ (t:Int),¬ t=5→¬ t=10→∀ p∈l++(J4.take k).flatMap Z1Q,¬ p.1=⟨t,J4[k],3,1,0⟩:=by
  intro t h5 h10 p hpm e;rcases Xh.1 hpm with h|h
  have:=hkind p h;rw [e] at this;rcases this with h|h
  exact h5 h;exact h10 h;exact hseen k hlt2 p h (by rw [e])
 refine QO ?_;apply Z8 (vs:=[(0,.I 3),(1,.I 1)]) rfl (Zae _ _) rfl;apply Z8 (vs:=[(0,.I 7),(1,str _),(2,Zbs _ _ _)]) rfl (Z77 _ _ _ _ _) rfl;refine W ?_;refine Z5 (Z1J (a:=(⟨7,J4[k],3,1,0⟩:Sig)) (v:=.I 3) rfl rfl rfl hmk (hfr 7 (by decide) (by decide))) ?_;rintro _ w6 ⟨hm6,hS6⟩;refine W ?_;apply Z8 (vs:=[(0,.I 3),(1,.I 1)]) rfl (Zae _ _) rfl;apply Z8 (vs:=[(0,.I 8),(1,str _),(2,Zbs _ _ _)]) rfl (Z77 _ _ _ _ _) rfl;refine W ?_;refine Z5 (Z1J (a:=(⟨8,J4[k],3,1,0⟩:Sig)) (v:=.I 3) rfl rfl rfl hm6 (fun p hpm e=>by
  rcases Xh.1 hpm with h|h
  exact hfr 8 (by decide) (by decide) p h e;simp only [Xl] at h;subst h;simp at e)) ?_
 rintro _ w7 ⟨hm7,hS7⟩;refine W ?_;refine QL (k+1) ⟨by omega,?_,(hS5.trans hS6).trans hS7⟩ (by omega);rw [Xi hlt2,Yaj];have e:l++((J4.take k).flatMap Z1Q++[J4[k]].flatMap Z1Q)=(l++(J4.take k).flatMap Z1Q++[((⟨7,J4[k],3,1,0⟩:Sig),Value.int .i64 3)])++[((⟨8,J4[k],3,1,0⟩:Sig),Value.int .i64 3)]:=by simp [Z1Q]
 rw [e];exact hm7;have hke:k=4:=by omega
 subst hke;refine RT ?_;exact ⟨m,_,rfl,hmk,hp.append_right _,hS.ow hS5⟩
def ZfA (x:Sig):Value:=Z3t Z3w x (.I 0)
end Go.Proofs.YtipfkbkkndacjaaGreatDoor
