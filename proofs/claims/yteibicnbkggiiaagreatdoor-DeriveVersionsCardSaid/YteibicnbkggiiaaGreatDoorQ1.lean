/-
Contracts and plain laws, merged out of own texts.
-/
import Derived.WalkKit
import Derived.WalkSpells
import Derived.WalkLawsBesides
import Derived.Shelf.Abstract
import Derived.Orders
import Derived.Test.YteibicnbkggiiaaGreatDoorRows
import Derived.Laws.StructEq
import Derived.Laws.Small
import Derived.MapKept
import Derived.ChangeKeysEq
set_option linter.unusedVariables false
set_option linter.unusedSimpArgs false
set_option maxHeartbeats 4000000
set_option maxRecDepth 20000
namespace Go
abbrev Xa:=@List.mem_cons
abbrev Xb:=@List.length_append
abbrev Xc:=@List.getElem_mem
abbrev Xd:=@Bool.and_eq_true
abbrev Xe:=@List.mem_append
abbrev Xf:=@List.length_cons
abbrev Xg:=@Nat.le_of_ble_eq_true
abbrev Xh:=@List.length_nil
abbrev Xi:=@Nat.lt_of_lt_of_le
abbrev Xj:=@List.take_succ_eq_append_getElem
abbrev Xk:=@Nat.le_trans
abbrev Xl:=@Option.some.injEq
abbrev Xm:=@Array.getElem?_eq_some_iff
abbrev Xn:=@List.mem_singleton
abbrev Xo:=@List.not_mem_nil
abbrev Xp:=@Nat.eq_of_beq_eq_true
abbrev Xq:=@Nat.le_refl
abbrev Xr:=@Nat.mul_le_mul_right
abbrev Xs:=@List.take_length
abbrev Xt:=@List.getElem?_eq_some_iff
abbrev Xu:=@Nat.zero_le
abbrev Xv:=@List.getElem_of_mem
abbrev Xw:=@List.mem_map
abbrev Xx:=@List.all_eq_true
abbrev Xy:=@Nat.not_lt_zero
abbrev Xz:=@List.length_take
abbrev XA:=@Nat.lt_succ_self
abbrev XB:=@List.length_map
abbrev XC:=@List.getElem?_eq_getElem
abbrev XD:=@List.map_cons
abbrev XE:=@Nat.sub_lt_sub_left
abbrev XG:=@List.append_nil
abbrev XH:=@List.map_append
abbrev XI:=@List.append_assoc
abbrev XJ:=@Array.getD_eq_getD_getElem?
abbrev XK:=@Nat.zero_add
abbrev XL:=@Option.some.inj
abbrev XM:=@Prod.mk.injEq
abbrev XN:=@List.take_append_drop
abbrev XO:=@Option.map_eq_some_iff
abbrev XP:=@List.length_singleton
abbrev XQ:=@List.length_eq_zero_iff
abbrev XR:=@List.take_of_length_le
abbrev XS:=@List.getD_eq_getElem?_getD
abbrev XT:=@List.mem_cons_self
abbrev XU:=@List.pairwise_cons
abbrev XV:=@List.getElem?_map
abbrev XW:=@List.nil_append
abbrev XX:=@List.mem_cons_of_mem
abbrev XY:=@List.map_map
abbrev XZ:=@List.pairwise_iff_getElem
abbrev X0:=@List.length_filter_le
abbrev X1:=@Option.bind_some
abbrev X2:=@Nat.ble_eq_true_of_le
abbrev X3:=@Array.toArray_toList
abbrev X4:=@Array.getElem?_append_left
abbrev X5:=@List.filter_append
abbrev X6:=@Option.bind_eq_some_iff
abbrev X7:=@Int.toNat_of_nonneg
abbrev X8:=@List.findIdx?_eq_some_iff_getElem
abbrev X9:=@List.mem_of_find?_eq_some
abbrev Yaa:=@List.length_set
abbrev Yab:=@List.cons_append
abbrev Yac:=@Option.isSome_iff_exists
abbrev Yad:=@Array.getElem?_setIfInBounds_ne
abbrev Yae:=@Array.length_toList
abbrev Yaf:=@List.length_pos_iff
abbrev Yag:=@List.foldl_cons
abbrev Yah:=@List.length_drop
abbrev Yai:=@List.take_append_of_le_length
abbrev Yaj:=@List.map_nil
abbrev Yak:=@List.mem_filter
abbrev Yal:=@List.getElem_append_left
abbrev Yam:=@Nat.succ_mul
abbrev Yan:=@List.size_toArray
abbrev Yao:=@List.mem_of_mem_take
abbrev Yap:=@Nat.min_eq_left
abbrev Yaq:=@List.getElem?_append_left
abbrev Yar:=@List.getElem_append_right
abbrev Yas:=@List.findIdx?_eq_none_iff
abbrev Yat:=@List.drop_eq_getElem_cons
abbrev Yau:=@List.eq_nil_of_length_eq_zero
abbrev Yav:=@List.getElem?_take
abbrev Yaw:=@List.find?_eq_none
abbrev Yax:=@List.mem_of_mem_drop
abbrev Yay:=@List.flatten_cons
abbrev Yaz:=@List.Perm.refl
abbrev YaA:=@List.getElem_set_ne
abbrev YaB:=@List.mem_map_of_mem
abbrev YaC:=@List.flatMap_append
abbrev YaD:=@List.getD_cons_zero
abbrev YaE:=@List.getD_cons_succ
abbrev YaF:=@List.map_congr_left
abbrev YaG:=@List.getElem?_eq_none
abbrev YaH:=@Array.getElem?_toList
abbrev YaI:=@List.eq_nil_or_concat
abbrev YaJ:=@List.concat_eq_append
abbrev YaK:=@Bool.false_eq_true
abbrev YaL:=@List.filter_cons_of_neg
abbrev YaM:=@List.filter_cons_of_pos
abbrev YaN:=@Option.map_some
abbrev YaO:=@Int.le_refl
abbrev YaP:=@Nat.add_assoc
abbrev YaQ:=@List.take_append
abbrev YaR:=@Option.getD_some
abbrev YaS:=@List.any_eq_true
abbrev YaT:=@List.getElem?_append_right
abbrev YaU:=@List.take_take
abbrev YaV:=@Nat.mul_le_mul
abbrev YaW:=@Bool.beq_eq_decide_eq
abbrev YaX:=@List.getElem_set_self
abbrev YaY:=@List.dropLast_eq_take
abbrev YaZ:=@Bool.or_eq_true
abbrev Ya0:=@Nat.not_lt
abbrev Ya1:=@Nat.le_of_not_lt
abbrev Ya2:=@List.getElem?_cons_succ
abbrev Ya3:=@List.ext_getElem
abbrev Ya4:=@List.perm_middle
abbrev Ya5:=@Nat.mul_one
abbrev Ya6:=@Int.emod_lt_of_pos
abbrev Ya7:=@Array.getElem?_eq_none
abbrev Ya8:=@List.drop_eq_nil_of_le
abbrev Ya9:=@Array.getElem?_modify
abbrev Yba:=@Array.getElem_setIfInBounds
abbrev Ybb:=@List.nodup_append
abbrev Ybc:=@List.flatMap_cons
abbrev Ybd:=@List.foldl_append
abbrev Ybe:=@Bool.eq_false_iff
abbrev Ybf:=@Bool.not_eq_true'
abbrev Ybg:=@List.pairwise_append
abbrev Ybh:=@List.nodup_iff_pairwise_ne
abbrev Ybi:=@List.drop_length
abbrev Ybj:=@List.replicate_succ
abbrev Ybk:=@List.length_erase_of_mem
abbrev Ybl:=@Bool.true_and
abbrev Ybm:=@Int.emod_nonneg
abbrev Ybn:=@Bool.eq_iff_iff
abbrev Ybo:=@List.find?_some
abbrev Ybp:=@List.filter_nil
abbrev Ybq:=@List.findIdx?_cons
abbrev Ybr:=@List.getElem?_replicate
abbrev Ybs:=@Nat.add_zero
abbrev Ybt:=@Nat.mul_comm
abbrev Ybu:=@List.length_eq_one_iff
abbrev Ybv:=@Int.toNat_natCast
abbrev Ybw:=@List.append_eq_nil_iff
abbrev Ybx:=@List.length_mergeSort
abbrev Yby:=@List.singleton_append
abbrev Ybz:=@List.map_toArray
abbrev YbA:=@List.flatMap_def
abbrev YbB:=@Nat.add_le_add_right
abbrev YbC:=@Nat.div_add_mod
abbrev YbD:=@Int.natCast_add
abbrev YbE:=@List.find?_cons
abbrev YbF:=@Array.toList_modify
abbrev YbG:=@Nat.lt_or_ge
abbrev YbH:=@Nat.pow_succ
abbrev YbI:=@Array.getElem_ofFn
abbrev YbJ:=@List.erase_sublist
abbrev YbK:=@Nat.add_sub_cancel
abbrev YbL:=@List.append_of_mem
abbrev YbM:=@Bool.false_and
abbrev YbN:=@List.getElem?_drop
abbrev YbO:=@Int.emod_eq_of_lt
abbrev YbP:=@Nat.le_succ
abbrev YbQ:=@List.ext_getElem?
abbrev YbR:=@Bool.false_or
abbrev YbS:=@Nat.lt_irrefl
abbrev YbT:=@Nat.min_eq_right
abbrev YbU:=@List.flatMap_nil
abbrev YbV:=@List.mem_flatMap
abbrev YbW:=@Nat.mod_lt
abbrev YbX:=@List.set_append
abbrev YbY:=@List.cons.injEq
abbrev YbZ:=@List.take_left'
abbrev Yb0:=@List.drop_zero
abbrev Yb1:=@Nat.add_mul
abbrev Yb2:=@List.drop_take
abbrev Yb3:=@Bool.and_false
end Go
namespace Go.Eng
open Go Go.RowKit Go.Proofs
abbrev Env:=List (Nat×Value)
def look:Env->Nat->Option Value
 | [],_=>none
 | (k,v) :: r,t=>bif Nat.beq k t then some v else look r t
def ev (e:Env):Operand->Option Value
 | .tmp t=>look e t
 | .const v=>some v
 | .global g=>some (.pointer (some ⟨g,0,none⟩))
 | .func f=>some (.func (.func f) #[] #[])
structure Has (n:Nat) (e:Env) (a:Act):Prop where
 defers:a.defers=[]
 size:a.tmps.size=n
 vals:∀ t v,look e t=some v->a.tmps.getD t undef=v
section basics
variable {n:Nat} {e:Env} {a:Act}
theorem Has.ev {x:Operand} {v:Value} (h:Has n e a) (hx:ev e x=some v):a.eval x=v:=by
 cases x with
 | tmp t=>exact h.vals t v hx
 | const c=>simpa [Eng.ev,Act.eval] using hx
 | global g=>simpa [Eng.ev,Act.eval] using hx
 | func f=>simpa [Eng.ev,Act.eval] using hx
theorem Ju (d:Nat) (v:Value) (e:Env) (t:Nat):look ((d,v) :: e) t=if d=t then some v else look e t:=by
 simp only [look];by_cases h:d=t;subst h;simp
 . have:Nat.beq d t=false:=by
    cases hb:Nat.beq d t with
    | false=>rfl
    | true=>exact absurd (Xp hb) h
   simp [this,h]
theorem Has.put {d:Nat} {v:Value} (h:Has n e a) (hd:Nat.blt d n=true):Has n ((d,v) :: e) (a.put (some d) v):=by
 have hlt:d<a.tmps.size:=by rw [h.size];exact Xg hd
 refine ⟨h.defers,by simp [Act.put,h.size],λt u hu=>?_⟩;rw [Ju] at hu;simp only [Act.put];by_cases il:d=t;subst il;simp at hu;subst hu;simp [hlt];rw [if_neg il] at hu;have:=h.vals t u hu;simpa [Yad il] using this
theorem Has.weak {e':Env} (h:Has n e a) (hs:∀ t v,look e' t=some v->look e t=some v):Has n e' a:=
 ⟨h.defers,h.size,λt v hv=>h.vals t v (hs t v hv)⟩
def Sub:Env->Env->Prop
 | [],_=>True
 | (k,v) :: r,e=>look e k=some v/\Sub r e
theorem Sub.look {e' e:Env} (h:Sub e' e):∀ t v,Eng.look e' t=some v->Eng.look e t=some v:=by
 induction e' with
 | nil=>intro t v hv;simp [Eng.look] at hv
 | cons p r ih=>
   intro t v hv;obtain ⟨d,u⟩:=p;rw [Ju] at hv;by_cases hd:d=t;subst hd;simp at hv;subst hv;exact h.1;rw [if_neg hd] at hv;exact ih h.2 t v hv
theorem Has.sub {e':Env} (h:Has n e a) (hs:Sub e' e):Has n e' a:=h.weak hs.look
end basics
section judge
variable (P:Program) (n:Nat)
structure WQ (n:Nat) (Q:Exit->Act->World->Prop) (x:Exit) (e:Env) (w:World):Prop where
 h:∀ a,Has n e a->Q x a w
structure WC (c:Code) (Q:Exit->Act->World->Prop) (e:Env) (w:World):Prop where
 h:∀ a,Has n e a->c.wp P Q a w
structure WL (ops:Array Oper) (Q:Exit->Act->World->Prop) (l:List Oper) (e:Env) (w:World):Prop where
 h:∀ a,Has n e a->wpList P ops Q l a w
end judge
section rules
variable {P:Program} {n:Nat} {Q:Exit->Act->World->Prop} {e:Env} {w:World} {ops:Array Oper} {rest:List Oper}
theorem Z43 {x y:Code} (h:WC P n x (Exit.then (λa w=>y.wp P Q a w) Q) e w):WC P n (x.seq y) Q e w:=
 ⟨λa ha=>wp_seq (h.h a ha)⟩
theorem Z3x {y:Code} (h:WC P n y Q e w):WQ n (Exit.then (λa w=>y.wp P Q a w) Q) .normal e w:=⟨λa ha=>h.h a ha⟩
theorem Z0V {N:Act->World->Prop} (h:WQ n Q .ret e w):WQ n (Exit.then N Q) .ret e w:=⟨λa ha=>h.h a ha⟩
theorem Zs {N:Act->World->Prop} {i:Nat} (h:WQ n Q (.exit i) e w):WQ n (Exit.then N Q) (.exit i) e w:=⟨λa ha=>h.h a ha⟩
theorem J0 {i:Nat} (h:WQ n Q .normal e w):WQ n (Exit.inBlock i Q) .normal e w:=⟨λa ha=>h.h a ha⟩
theorem Z8O {i:Nat} (h:WQ n Q .ret e w):WQ n (Exit.inBlock i Q) .ret e w:=⟨λa ha=>h.h a ha⟩
theorem Zl {i:Nat} (h:WQ n Q .normal e w):WQ n (Exit.inBlock i Q) (.exit i) e w:=by
 refine ⟨λa ha=>?_⟩;simp only [Exit.inBlock,if_true];exact h.h a ha
theorem Zu {i j:Nat} (bR:Nat.beq i j=false) (h:WQ n Q (.exit i) e w):WQ n (Exit.inBlock j Q) (.exit i) e w:=by
 refine ⟨λa ha=>?_⟩;simp only [Exit.inBlock];rw [if_neg (Nat.ne_of_beq_eq_false bR)];exact h.h a ha
theorem Z6g (h:WQ n Q .normal e w):WC P n .skip Q e w:=⟨λa ha=>wp_skip (h.h a ha)⟩
theorem Z6x (h:WQ n Q .ret e w):WC P n .ret Q e w:=⟨λa ha=>wp_ret (h.h a ha)⟩
theorem Zk2 {i:Nat} (h:WQ n Q (.exit i) e w):WC P n (.exit i) Q e w:=⟨λa ha=>wp_exit (h.h a ha)⟩
theorem Zgo {i:Nat} {c:Code} (h:WC P n c (Exit.inBlock i Q) e w):WC P n (.block i c) Q e w:=⟨λa ha=>wp_block (h.h a ha)⟩
theorem Z1f {c:Operand} {x y:Code} (hc:ev e c=some (.bool true)) (h:WC P n x Q e w):WC P n (.cond c x y) Q e w:=
 ⟨λa ha=>wp_cond_true (ha.ev hc) (h.h a ha)⟩
theorem Z0N {c:Operand} {x y:Code} (hc:ev e c=some (.bool false)) (h:WC P n y Q e w):WC P n (.cond c x y) Q e w:=
 ⟨λa ha=>wp_cond_false (ha.ev hc) (h.h a ha)⟩
theorem Z8P {c:Operand} {x y:Code} {p:Prop} [Decidable p] (hc:ev e c=some (.bool (decide p))) (ht:p->WC P n x Q e w) (hf:¬ p->WC P n y Q e w):WC P n (.cond c x y) Q e w:=
 ⟨λa ha=>wp_cond_split (ha.ev hc) (λh=>(ht (of_decide_eq_true h)).h a ha) (λh=>(hf (of_decide_eq_false h)).h a ha)⟩
theorem Za1 {c:Operand} {x y:Code} {t:Bool} (hc:ev e c=some (.bool t)) (ht:t=true->WC P n x Q e w) (hf:t=false->WC P n y Q e w):WC P n (.cond c x y) Q e w:=
 ⟨λa ha=>wp_cond_split (ha.ev hc) (λh=>(ht h).h a ha) (λh=>(hf h).h a ha)⟩
theorem Z1o {id:Nat} {l:List Oper} (h:WL P n l.toArray Q l e w):WC P n (.region id l.toArray false) Q e w:=
 ⟨λa ha=>wp_region_lit (h.h a ha)⟩
theorem Z51 (h:WQ n Q .normal e w):WL P n ops Q [] e w:=⟨λa ha=>wpList_nil (h.h a ha)⟩
theorem Zk3 {c:Code} (e':Env) (hs:Sub e' e) (h:WC P n c Q e' w):WC P n c Q e w:=⟨λa ha=>h.h a (ha.sub hs)⟩
theorem Zk4 {x:Exit} (e':Env) (hs:Sub e' e) (h:WQ n Q x e' w):WQ n Q x e w:=⟨λa ha=>h.h a (ha.sub hs)⟩
theorem JG {x y:Code} {σ:Type} (env:σ->Env) (I:σ->World->Prop)
 (h:WC P n x (Exit.then (λa w=>∃ s,Has n (env s) a/\I s w) Q) e w) (k:∀ s w,I s w->WC P n y Q (env s) w):WC P n x (Exit.then (λa w=>y.wp P Q a w) Q) e w:=
 ⟨λa ha => wp_mono (h.h a ha) (λex a w hq => by
   cases ex with
   | normal=>obtain ⟨s,h1,h2⟩:=hq;exact (k s w h2).h a h1
   | _=>exact hq)⟩
theorem Z0b {x y:Code} {σ:Type} {i:Nat} (env:σ->Env) (I:σ->World->Prop)
 (h:WC P n x (Exit.inBlock i (Exit.then (λa w=>∃ s,Has n (env s) a/\I s w) Q)) e w) (k:∀ s w,I s w->WC P n y Q (env s) w):WC P n x (Exit.inBlock i (Exit.then (λa w=>y.wp P Q a w) Q)) e w:=
 ⟨λa ha => wp_mono (h.h a ha) (λex a w hq => by
   cases ex with
   | normal=>obtain ⟨s,h1,h2⟩:=hq;exact (k s w h2).h a h1
   | exit j=>
     simp only [Exit.inBlock] at hq ⊢;split;rename_i hj;rw [if_pos hj] at hq;obtain ⟨s,h1,h2⟩:=hq;exact (k s w h2).h a h1;rename_i hj;rw [if_neg hj] at hq;exact hq
   | _=>exact hq)⟩
theorem Zw {σ:Type} {env:σ->Env} {I:σ->World->Prop} (s:σ) (hs:Sub (env s) e) (hI:I s w):WQ n (Exit.then (λa w=>∃ s,Has n (env s) a/\I s w) Q) .normal e w:=
 ⟨λa ha=>⟨s,ha.sub hs,hI⟩⟩
theorem Zt {c:Code} {σ:Type} (env:σ->Env) (I:σ->World->Prop) (μ:σ->Nat) (d7:σ) (hs:Sub (env d7) e) (hI:I d7 w)
 (round:∀ s w,I s w->WC P n c (Exit.then (λa' w'=>∃ s',Has n (env s') a'/\I s' w'/\μ s' < μ s) Q) (env s) w):WC P n (.loop c) Q e w:=by
 refine ⟨λa ha=>?_⟩;have key:∀ (k:Nat) (s:σ) (a:Act) (w:World),μ s<=k->Has n (env s) a->I s w->(Code.loop c).wp P Q a w:=by
  intro k s a w _ h1 h2;refine wp_loop (λa' w'=>∃ s',Has n (env s') a'/\I s' w') (λa' w'=>Classical.epsilon (λm=>∃ s',Has n (env s') a'/\I s' w'/\μ s'=m/\∀ s'',Has n (env s'') a'->I s'' w'->m<=μ s'')) ⟨s,h1,h2⟩ ?_;intro a w ⟨s',jz,fG⟩;have kB:∀ a w,(∃ s',Has n (env s') a/\I s' w)->∃ m,∃ s',Has n (env s') a/\I s' w/\μ s'=m/\∀ s'',Has n (env s'') a->I s'' w->m<=μ s'':=by
   intro a w ⟨s',jz,fG⟩;have:∀ m,∀ s',μ s'=m->Has n (env s') a->I s' w->∃ m,∃ s',Has n (env s') a/\I s' w/\μ s'=m/\∀ s'',Has n (env s'') a->I s'' w->m<=μ s'':=by
    intro m
    induction m using Nat.strongRecOn with
    | _ m ih=>
      intro s' hm h1 h2;by_cases jA:∀ s'',Has n (env s'') a->I s'' w->m<=μ s'';exact ⟨m,s',h1,h2,hm,jA⟩;have:∃ s'',Has n (env s'') a/\I s'' w/\μ s''<m:=by
       refine Classical.byContradiction λaY=>jA λs'' h1 h2=>?_;exact Ya1 λhlt=>aY ⟨s'',h1,h2,hlt⟩
      obtain ⟨s'',jz,fG,hlt⟩:=this;exact ih _ hlt s'' rfl jz fG
   exact this _ s' rfl jz fG
  obtain ⟨s₁,g1,g2,g3,g4⟩:=Classical.epsilon_spec (kB a w ⟨s',jz,fG⟩);have hr:=(round s₁ w g2).h a g1;refine wp_mono hr (λex a' w' hq=>?_);cases ex with
  | normal=>
    obtain ⟨s₂,k1,k2,k3⟩:=hq;refine ⟨⟨s₂,k1,k2⟩,?_⟩;obtain ⟨s₃,m1,m2,m3,m4⟩:=Classical.epsilon_spec (kB a' w' ⟨s₂,k1,k2⟩);have:=m4 s₂ k1 k2;rw [g3] at k3;exact Nat.lt_of_le_of_lt this k3
  | _=>exact hq
 exact key (μ d7) d7 a w (Xq _) (ha.sub hs) hI
theorem ZF {σ:Type} {env:σ->Env} {I:σ->World->Prop} {μ:σ->Nat} {m:Nat} (s:σ) (hs:Sub (env s) e) (hI:I s w) (hm:μ s<m) :
 WQ n (Exit.then (λa w=>∃ s,Has n (env s) a/\I s w/\μ s<m) Q) .normal e w:=
 ⟨λa ha=>⟨s,ha.sub hs,hI,hm⟩⟩
structure PR (P:Program) (n:Nat) (o:Oper) (e:Env) (w:World) (v:Value):Prop where
 h:∀ a,Has n e a->(execOp a.eval o).run P w=.ok (.value v) w
theorem Za {d:Nat} {op:Op} {ty:TypeId} {pos:String} {af:Array Edge} {v:Value} (hp:PR P n ⟨some d,op,ty,pos,af,none⟩ e w v) (hd:Nat.blt d n=true)
 (k:WL P n ops Q rest ((d,v) :: e) w):WL P n ops Q (⟨some d,op,ty,pos,af,none⟩ :: rest) e w:=by
 refine ⟨λa ha=>?_⟩;refine wpList_plain rfl (λK hK=>?_);unfold Oper.wp;rw [hp.h a ha];exact hK _ _ ((k).h _ (ha.put hd))
structure OE (P:Program) (n:Nat) (o:Oper) (e:Env) (w:World) (G:Value->World->Prop):Prop where
 h:∀ a,Has n e a->∀ (Q:Exit->Act->World->Prop),o.wp P a w (λa' w'=>∃ v,a'=a.put o.dst v/\G v w') Q
theorem Z0 {d:Nat} {op:Op} {ty:TypeId} {pos:String} {af:Array Edge} {G:Value->World->Prop} (hp:OE P n ⟨some d,op,ty,pos,af,none⟩ e w G) (hd:Nat.blt d n=true)
 (k:∀ v w',G v w'->WL P n ops Q rest ((d,v) :: e) w'):WL P n ops Q (⟨some d,op,ty,pos,af,none⟩ :: rest) e w:=by
 refine ⟨λa ha=>?_⟩;refine wpList_plain rfl (λK hK=>?_);refine Oper.wp_mono ?_ (hp.h a ha Q);rintro a' w' ⟨v,rfl,hg⟩;exact hK _ _ ((k v w' hg).h _ (ha.put hd))
theorem Z8 {op:Op} {ty:TypeId} {pos:String} {af:Array Edge} {G:Value->World->Prop} (hp:OE P n ⟨none,op,ty,pos,af,none⟩ e w G)
 (k:∀ v w',G v w'->WL P n ops Q rest e w'):WL P n ops Q (⟨none,op,ty,pos,af,none⟩ :: rest) e w:=by
 refine ⟨λa ha=>?_⟩;refine wpList_plain rfl (λK hK=>?_);refine Oper.wp_mono ?_ (hp.h a ha Q);rintro a' w' ⟨v,rfl,hg⟩;exact hK _ _ ((k v w' hg).h _ ha)
def yld (ops:Array Oper) (e:Env) (j:Nat):Option Value:=((ops[j]?).bind (·.dst)).bind (look e)
theorem Z6y {ops:Array Oper} {a:Act} {j:Nat} {b:Bool} (ha:Has n e a) (h:yld ops e j=some (.bool b)):yielded ops a.tmps j=some b:=by
 unfold yld at h;unfold yielded;cases hd:(ops[j]?).bind (·.dst) with
 | none=>rw [hd] at h;simp at h
 | some d=>
   rw [hd] at h;have:=ha.vals d _ h;simp only [XJ] at this;simp only [X1];cases hx:a.tmps[d]? with
   | none=>rw [hx] at this;simp [undef] at this
   | some u=>rw [hx] at this;simp at this;subst this;simp
theorem Zn7 {d:Option Nat} {op:Op} {ty:TypeId} {pos:String} {af:Array Edge} {j:Nat} {b:Bool} (hy:yld ops e j=some (.bool b))
 (k:WL P n ops Q (⟨d,op,ty,pos,af,none⟩ :: rest) e w):WL P n ops Q (⟨d,op,ty,pos,af,some (j,b)⟩ :: rest) e w:=by
 refine ⟨λa ha=>?_⟩;have hk:=k.h a ha;have hw:Region.wanted ⟨d,op,ty,pos,af,some (j,b)⟩ (yielded ops a.tmps)=true:=by simp [Region.wanted,Z6y ha hy]
 unfold wpList at hk ⊢;rw [if_pos hw];rw [if_pos (by simp [Region.wanted])] at hk;exact hk
def Zno:Value->Bool->Bool
 | .bool c,b=>c != b
 | _,_=>true
def noB (ops:Array Oper) (e:Env):Option (Nat×Bool)->Bool
 | none=>false
 | some (j, b) => match yld ops e j with
   | some u=>Zno u b
   | none=>false
theorem Z1q {ops:Array Oper} {a:Act} {o:Oper} (ha:Has n e a) (h:noB ops e o.guard=true):Region.wanted o (yielded ops a.tmps)=false:=by
 unfold Region.wanted;cases hg:o.guard with
 | none=>rw [hg] at h;cases h
 | some jb=>
   obtain ⟨j,b⟩:=jb;rw [hg] at h;simp only [noB] at h;cases hy:yld ops e j with
   | none=>rw [hy] at h;cases h
   | some u=>
     rw [hy] at h;unfold yld at hy;show (yielded ops a.tmps j == some b)=false;unfold yielded;cases hd:(ops[j]?).bind (·.dst) with
     | none=>rw [hd] at hy;simp at hy
     | some d=>
       rw [hd] at hy;simp only [X1] at hy;have:=ha.vals d _ hy;simp only [XJ] at this;simp only [X1];cases hx:a.tmps[d]? with
       | none=>rfl
       | some z=>
         rw [hx] at this;simp at this;subst this;cases z<;>first|rfl|(simp only [Zno] at h;cases b<;>simp_all)
theorem ZdG {d:Nat} {op:Op} {ty:TypeId} {pos:String} {af:Array Edge} {j:Nat} {b:Bool} (hy:noB ops e (some (j,b))=true) (hd:Nat.blt d n=true)
 (k:WL P n ops Q rest ((d,undef) :: e) w):WL P n ops Q (⟨some d,op,ty,pos,af,some (j,b)⟩ :: rest) e w:=by
 refine ⟨λa ha=>?_⟩;have hw:Region.wanted ⟨some d,op,ty,pos,af,some (j,b)⟩ (yielded ops a.tmps)=false:=Z1q ha hy;unfold wpList;rw [if_neg (by simp [hw])];exact k.h _ (ha.put hd)
theorem Zgp {op:Op} {ty:TypeId} {pos:String} {af:Array Edge} {j:Nat} {b:Bool} (hy:noB ops e (some (j,b))=true)
 (k:WL P n ops Q rest e w):WL P n ops Q (⟨none,op,ty,pos,af,some (j,b)⟩ :: rest) e w:=by
 refine ⟨λa ha=>?_⟩;have hw:Region.wanted ⟨none,op,ty,pos,af,some (j,b)⟩ (yielded ops a.tmps)=false:=Z1q ha hy;unfold wpList;rw [if_neg (by simp [hw])];exact k.h _ ha
def ZdH (ops:Array Oper) (j:Nat):Option Nat:=(ops[j]?).bind (·.dst)
theorem Has.same {a:Act} {d:Nat} {u v:Value} (ha:Has n e a) (h:look e d=some u) (sE:u=v):Has n ((d,v) :: e) a:=by
 subst sE;refine ⟨ha.defers,ha.size,λt x hx=>?_⟩;rw [Ju] at hx;by_cases hd:d=t;subst hd;simp at hx;subst hx;exact ha.vals _ _ h;rw [if_neg hd] at hx;exact ha.vals _ _ hx
theorem Zgq {d:Nat} {o:Option Nat} {op:Op} {ty:TypeId} {pos:String} {af:Array Edge} {j:Nat} {b:Bool} {p:Prop} [Decidable p] (hj:ZdH ops j=some d) (hy:look e d=some (.bool (decide p)))
 (ht:p->WL P n ops Q (⟨o,op,ty,pos,af,some (j,b)⟩ :: rest) ((d,.bool true) :: e) w) (hf:¬ p->WL P n ops Q (⟨o,op,ty,pos,af,some (j,b)⟩ :: rest) ((d,.bool false) :: e) w) :
 WL P n ops Q (⟨o,op,ty,pos,af,some (j,b)⟩ :: rest) e w:=by
 refine ⟨λa ha=>?_⟩;by_cases hp:p;exact (ht hp).h a (ha.same hy (by simp [hp]));exact (hf hp).h a (ha.same hy (by simp [hp]))
theorem ZeE {d:Nat} {o:Option Nat} {op:Op} {ty:TypeId} {pos:String} {af:Array Edge} {j:Nat} {b:Bool} {t:Bool} (hj:ZdH ops j=some d) (hy:look e d=some (.bool t))
 (ht:t=true->WL P n ops Q (⟨o,op,ty,pos,af,some (j,b)⟩ :: rest) ((d,.bool true) :: e) w) (hf:t=false->WL P n ops Q (⟨o,op,ty,pos,af,some (j,b)⟩ :: rest) ((d,.bool false) :: e) w) :
 WL P n ops Q (⟨o,op,ty,pos,af,some (j,b)⟩ :: rest) e w:=by
 refine ⟨λa ha=>?_⟩;cases t;exact (hf rfl).h a (ha.same hy rfl);exact (ht rfl).h a (ha.same hy rfl)
end rules
def Z2W (l:List Value):Nat->Env
 | k=>match l with|[]=>[]|v :: r=>(k,v) :: Z2W r (k+1)
theorem Z2X (l:List Value):∀ (k t:Nat) (v:Value),look (Z2W l k) t=some v->k<=t/\l[t - k]?=some v:=by
 induction l with
 | nil=>intro k t v h;simp [Z2W,look] at h
 | cons x r ih=>
   intro k t v h;simp only [Z2W] at h;rw [Ju] at h;by_cases hk:k=t;subst hk;simp at h;simp [h];rw [if_neg hk] at h;obtain ⟨h1,h2⟩:=ih (k+1) t v h;refine ⟨by omega,?_⟩;have:t - k=(t - (k+1))+1:=by omega
   rw [this];simpa using h2
theorem Z04 {P:Program} {f:FuncId} {fn:Func} {c:Code} {args:Array Value} {w:World} {R:Ending->World->Prop} {n:Nat} (hf:P.funcs[f]?=some fn) (hb:fn.body=some c)
 (hn:fn.ntmps=n) (hs:Nat.ble args.size n=true) (h:WC P n c (bodyPost P fn R) (Z2W args.toList 0) w):Calls P f args w R:=by
 refine calls_of_wp hf hb (h.h _ ?_);rw [hn];have cK:args.size<=n:=Xg hs;refine ⟨rfl,by simp;omega,λt v hv=>?_⟩;obtain ⟨_,h2⟩:=Z2X _ _ _ _ hv;simp only [Nat.sub_zero] at h2;have hlt:t<args.size:=by
  have:=(Xt.1 h2).1;simpa using this
 have:args[t]?=some v:=by simpa using h2
 have h3:(args++Array.replicate (n - args.size) undef)[t]?=some v:=by
  rw [X4 hlt];exact this
 simp [XJ,h3]
section post
variable {P:Program} {n:Nat} {fn:Func} {R:Ending->World->Prop} {e:Env} {w:World}
theorem ZdI (hr:fn.results=#[]) (h:R (.returned (.tuple #[])) w):WQ n (bodyPost P fn R) .ret e w:=
 ⟨λa ha=>⟨ha.defers,_,results_none hr _ _ _,h⟩⟩
theorem Z8Q (hr:fn.results=#[]) (h:R (.returned (.tuple #[])) w):WQ n (bodyPost P fn R) .normal e w:=
 ⟨λa ha=>⟨ha.defers,_,results_none hr _ _ _,h⟩⟩
theorem Zk5 {t:Nat} {v:Value} (hr:fn.results=#[.tmp t]) (ht:look e t=some v) (h:R (.returned v) w):WQ n (bodyPost P fn R) .ret e w:=
 ⟨λa ha=>⟨ha.defers,_,results_tmp hr _ _ _,by rw [ha.vals t v ht];exact h⟩⟩
theorem Zk6 {t u:Nat} {v x:Value} (hr:fn.results=#[.tmp t,.tmp u]) (ht:look e t=some v) (hu:look e u=some x) (h:R (.returned (.tuple #[v,x])) w):WQ n (bodyPost P fn R) .ret e w:=
 ⟨λa ha=>⟨ha.defers,_,results_tmp2 hr _ _ _,by rw [ha.vals t v ht,ha.vals u x hu];exact h⟩⟩
theorem Zk7 {t u s:Nat} {v x y:Value} (hr:fn.results=#[.tmp t,.tmp u,.tmp s]) (ht:look e t=some v) (hu:look e u=some x) (hs:look e s=some y) (h:R (.returned (.tuple #[v,x,y])) w):WQ n (bodyPost P fn R) .ret e w:=
 ⟨λa ha=>⟨ha.defers,.tuple #[v,x,y],by simp [results,hr];simpa [XJ] using And.intro (ha.vals t v ht) (And.intro (ha.vals u x hu) (ha.vals s y hs)),h⟩⟩
end post
theorem cW0 {P:Program} {f:FuncId} {fn:Func} {c:Code} {w:World} {R:Ending->World->Prop} (n:Nat) (hf:P.funcs[f]?=some fn) (h:WC P n c (bodyPost P fn R) [] w) (hb:fn.body=some c:=by exact rfl) (hn:fn.ntmps=n:=by exact rfl):Calls P f #[] w R:=Z04 hf hb hn rfl h
theorem cW1 {P:Program} {f:FuncId} {fn:Func} {c:Code} {a0:Value} {w:World} {R:Ending->World->Prop} (n:Nat) (hf:P.funcs[f]?=some fn) (h:WC P n c (bodyPost P fn R) [(0,a0)] w) (hb:fn.body=some c:=by exact rfl) (hn:fn.ntmps=n:=by exact rfl) (hs:Nat.ble 1 n=true:=by exact rfl):Calls P f #[a0] w R:=Z04 hf hb hn hs h
theorem cW2 {P:Program} {f:FuncId} {fn:Func} {c:Code} {a0 a1:Value} {w:World} {R:Ending->World->Prop} (n:Nat) (hf:P.funcs[f]?=some fn) (h:WC P n c (bodyPost P fn R) [(0,a0),(1,a1)] w) (hb:fn.body=some c:=by exact rfl) (hn:fn.ntmps=n:=by exact rfl) (hs:Nat.ble 2 n=true:=by exact rfl):Calls P f #[a0,a1] w R:=Z04 hf hb hn hs h
theorem cW3 {P:Program} {f:FuncId} {fn:Func} {c:Code} {a0 a1 a2:Value} {w:World} {R:Ending->World->Prop} (n:Nat) (hf:P.funcs[f]?=some fn) (h:WC P n c (bodyPost P fn R) [(0,a0),(1,a1),(2,a2)] w) (hb:fn.body=some c:=by exact rfl) (hn:fn.ntmps=n:=by exact rfl) (hs:Nat.ble 3 n=true:=by exact rfl):Calls P f #[a0,a1,a2] w R:=Z04 hf hb hn hs h
theorem cW4 {P:Program} {f:FuncId} {fn:Func} {c:Code} {a0 a1 a2 a3:Value} {w:World} {R:Ending->World->Prop} (n:Nat) (hf:P.funcs[f]?=some fn) (h:WC P n c (bodyPost P fn R) [(0,a0),(1,a1),(2,a2),(3,a3)] w) (hb:fn.body=some c:=by exact rfl) (hn:fn.ntmps=n:=by exact rfl) (hs:Nat.ble 4 n=true:=by exact rfl):Calls P f #[a0,a1,a2,a3] w R:=Z04 hf hb hn hs h
theorem cW5 {P:Program} {f:FuncId} {fn:Func} {c:Code} {a0 a1 a2 a3 a4:Value} {w:World} {R:Ending->World->Prop} (n:Nat) (hf:P.funcs[f]?=some fn) (h:WC P n c (bodyPost P fn R) [(0,a0),(1,a1),(2,a2),(3,a3),(4,a4)] w) (hb:fn.body=some c:=by exact rfl) (hn:fn.ntmps=n:=by exact rfl) (hs:Nat.ble 5 n=true:=by exact rfl):Calls P f #[a0,a1,a2,a3,a4] w R:=Z04 hf hb hn hs h
class Und (P:Program) (t:Nat) (d:outParam TypeDesc):Prop where
 h:P.underlying t=some d
class Siz (P:Program) (t:Nat) (k:outParam Nat):Prop where
 h:(P.info? t).map (·.size)=some k
class Zer (P:Program) (t:Nat) (z:outParam Value):Prop where
 h:(P.info? t).bind (·.zero)=some z
class Byt (P:Program) (t:Nat) (k:outParam Nat):Prop where
 h:(P.info? t).map (·.bytes)=some k
class Fld (P:Program) (t i:Nat) (off:outParam Nat):Prop where
 h:∃ fs f k,P.underlying t=some (.struct fs)/\fs[i]?=some f/\f.offset=off/\(P.info? f.type).map (·.size)=some (k+1)
class Fun (P:Program) (f:Nat) (fn:outParam Func):Prop where
 h:P.funcs[f]?=some fn
 enters:Enters P f
theorem Siz.run {P:Program} {t k:Nat} [h:Siz P t k] (w:World):(sizeOf t).run P w=.ok k w:=by
 have:=h.h;cases hi:P.info? t with
 | none=>simp [hi] at this
 | some i=>rw [hi] at this;simp at this;simp [sizeOf,typeInfo,hi,this]
theorem Zer.run {P:Program} {t:Nat} {z:Value} [h:Zer P t z] (w:World):(zeroValue t).run P w=.ok z w:=by
 have:=h.h;cases hi:P.info? t with
 | none=>simp [hi] at this
 | some i=>rw [hi] at this;simp at this;simp [zeroValue,typeInfo,hi,this]
def Z0h:TypeDesc->Bool
 | .struct _|.array _ _=>true
 | _=>false
theorem Und.isAgg {P:Program} {t:Nat} {d:TypeDesc} [h:Und P t d] (w:World):(Go.isAgg t).run P w=.ok (Z0h d) w:=by
 cases d<;>simp [Go.isAgg,run_underlying h.h,Z0h]
section rules
variable {P:Program} {n:Nat} {e:Env} {w:World} {d:Option Nat} {ty:TypeId} {pos:String} {af:Array Edge} {g:Option (Nat×Bool)}
theorem ZJ {x:Operand} {v:Value} (hx:ev e x=some v):PR P n ⟨d,.move x,ty,pos,af,g⟩ e w v:=⟨λa ha=>by simp [execOp,ha.ev hx]⟩
theorem Z0H {x:Operand} {v:Value} (hx:ev e x=some v):PR P n ⟨d,.assign x,ty,pos,af,g⟩ e w v:=⟨λa ha=>by simp [execOp,ha.ev hx]⟩
theorem Z89 {c x y:Operand} {v:Value} (hc:ev e c=some (.bool true)) (hx:ev e x=some v):PR P n ⟨d,.pick c x y,ty,pos,af,g⟩ e w v:=
 ⟨λa ha=>by simp [execOp,ha.ev hc,ha.ev hx,asBool]⟩
theorem Z8a {c x y:Operand} {v:Value} (hc:ev e c=some (.bool false)) (hx:ev e y=some v):PR P n ⟨d,.pick c x y,ty,pos,af,g⟩ e w v:=
 ⟨λa ha=>by simp [execOp,ha.ev hc,ha.ev hx,asBool]⟩
theorem ZbU {x:Operand} {b:Bool} (hx:ev e x=some (.bool b)) {t:TypeId}:PR P n ⟨d,.unOp .not t x,ty,pos,af,g⟩ e w (.bool (!b)):=
 ⟨λa ha=>by simp [execOp,ha.ev hx,Op.unary]⟩
theorem Zgr {x:Operand} (hx:ev e x=some (.bool true)) {t:TypeId}:PR P n ⟨d,.unOp .not t x,ty,pos,af,g⟩ e w (.bool false):=
 ⟨λa ha=>by simp [execOp,ha.ev hx,Op.unary]⟩
theorem Zgs {x:Operand} (hx:ev e x=some (.bool false)) {t:TypeId}:PR P n ⟨d,.unOp .not t x,ty,pos,af,g⟩ e w (.bool true):=
 ⟨λa ha=>by simp [execOp,ha.ev hx,Op.unary]⟩
def I64 (z:Int):Prop:=-9223372036854775808<=z/\z<=9223372036854775807
theorem Z0p {z:Int} (h:I64 z):IntKind.i64.wrap z=z:=by
 unfold I64 at h;rw [IntKind.wrap_i64];omega
section arith
variable {x y:Operand} {a b:Int} {t u:TypeId}
theorem Z8R (hx:ev e x=some (.int .i64 a)) (hy:ev e y=some (.int .i64 b)) (hr:I64 (a+b)):PR P n ⟨d,.binOp .add t x y u,ty,pos,af,g⟩ e w (.int .i64 (a+b)):=
 ⟨λc ha=>by simp only [execOp,ha.ev hx,ha.ev hy];simp [go_sem,Op.intArith,Z0p hr]⟩
theorem Z52 (hx:ev e x=some (.int .i64 a)) (hy:ev e y=some (.int .i64 b)) (hr:I64 (a - b)):PR P n ⟨d,.binOp .sub t x y u,ty,pos,af,g⟩ e w (.int .i64 (a - b)):=
 ⟨λc ha=>by simp only [execOp,ha.ev hx,ha.ev hy];simp [go_sem,Op.intArith,Z0p hr]⟩
theorem Znp (hx:ev e x=some (.int .i64 a)) (hy:ev e y=some (.int .i64 b)) (hr:I64 (a * b)):PR P n ⟨d,.binOp .mul t x y u,ty,pos,af,g⟩ e w (.int .i64 (a * b)):=
 ⟨λc ha=>by simp only [execOp,ha.ev hx,ha.ev hy];simp [go_sem,Op.intArith,Z0p hr]⟩
theorem Znq (hx:ev e x=some (.int .i64 a)) (hr:I64 (- a)):PR P n ⟨d,.unOp .neg t x,ty,pos,af,g⟩ e w (.int .i64 (- a)):=
 ⟨λc ha=>by simp only [execOp,ha.ev hx];simp [go_sem,Op.unary,Op.intArith,Z0p hr]⟩
theorem Znr (hx:ev e x=some (.int .i64 a)) (hy:ev e y=some (.int .i64 b)) (hb:b≠0) (hr:I64 (a.tmod b)):PR P n ⟨d,.binOp .rem t x y u,ty,pos,af,g⟩ e w (.int .i64 (a.tmod b)):=
 ⟨λc ha=>by simp only [execOp,ha.ev hx,ha.ev hy];simp [go_sem,Op.intDiv,hb];try rw [Z0p hr]⟩
theorem Zns (hx:ev e x=some (.int .i64 a)) (hy:ev e y=some (.int .i64 b)) (hb:b≠0) (hr:I64 (a.tdiv b)):PR P n ⟨d,.binOp .quo t x y u,ty,pos,af,g⟩ e w (.int .i64 (a.tdiv b)):=
 ⟨λc ha=>by simp only [execOp,ha.ev hx,ha.ev hy];simp [go_sem,Op.intDiv,hb];try rw [Z0p hr]⟩
theorem ZdJ (hx:ev e x=some (.int .i64 a)) (hy:ev e y=some (.int .i64 b)) (h0:0<=a) (hb:0<b) (hr:I64 a):PR P n ⟨d,.binOp .rem t x y u,ty,pos,af,g⟩ e w (.int .i64 (a % b)):=by
 have h1:a.tmod b=a % b:=Int.tmod_eq_emod_of_nonneg h0;rw [<- h1];refine Znr hx hy (by omega) ?_;rw [h1];have:=Ybm a (show b≠0 by omega);have h2:a % b<=a:=by
  by_cases bK:a<b;rw [YbO h0 bK];exact YaO _;have:=Ya6 a hb;omega
 unfold I64 at hr ⊢;omega
theorem ZdK (hx:ev e x=some (.int .i64 a)) (hy:ev e y=some (.int .i64 b)) (h0:0<=a) (hb:0<b) (hr:I64 a):PR P n ⟨d,.binOp .quo t x y u,ty,pos,af,g⟩ e w (.int .i64 (a / b)):=by
 have h1:a.tdiv b=a / b:=Int.tdiv_eq_ediv_of_nonneg h0;rw [<- h1];refine Zns hx hy (by omega) ?_;rw [h1];have:=Int.ediv_nonneg h0 (Int.le_of_lt hb);have h2:a / b<=a:=Int.ediv_le_self _ h0;unfold I64 at hr ⊢;omega
variable {k:IntKind}
theorem ZbV (hx:ev e x=some (.int k a)) (hy:ev e y=some (.int k b)):PR P n ⟨d,.binOp .lss t x y u,ty,pos,af,g⟩ e w (.bool (decide (a<b))):=
 ⟨λc ha=>by simp only [execOp,ha.ev hx,ha.ev hy];simp [go_sem]⟩
theorem Zgt (hx:ev e x=some (.int k a)) (hy:ev e y=some (.int k b)):PR P n ⟨d,.binOp .leq t x y u,ty,pos,af,g⟩ e w (.bool (decide (a<=b))):=
 ⟨λc ha=>by simp only [execOp,ha.ev hx,ha.ev hy];simp [go_sem]⟩
theorem ZbW (hx:ev e x=some (.int k a)) (hy:ev e y=some (.int k b)):PR P n ⟨d,.binOp .gtr t x y u,ty,pos,af,g⟩ e w (.bool (decide (b<a))):=
 ⟨λc ha=>by simp only [execOp,ha.ev hx,ha.ev hy];simp [go_sem]⟩
theorem Zgu (hx:ev e x=some (.int k a)) (hy:ev e y=some (.int k b)):PR P n ⟨d,.binOp .geq t x y u,ty,pos,af,g⟩ e w (.bool (decide (b<=a))):=
 ⟨λc ha=>by simp only [execOp,ha.ev hx,ha.ev hy];simp [go_sem]⟩
theorem ZbX (hx:ev e x=some (.int k a)) (hy:ev e y=some (.int k b)):PR P n ⟨d,.binOp .eql t x y u,ty,pos,af,g⟩ e w (.bool (decide (a=b))):=
 ⟨λc ha=>by simp only [execOp,ha.ev hx,ha.ev hy];simp [go_sem];exact YaW a b⟩
theorem ZbY (hx:ev e x=some (.int k a)) (hy:ev e y=some (.int k b)):PR P n ⟨d,.binOp .neq t x y u,ty,pos,af,g⟩ e w (.bool (decide (¬ a=b))):=
 ⟨λc ha=>by simp only [execOp,ha.ev hx,ha.ev hy];simp [go_sem];rw [bne,YaW]⟩
theorem ZdL {p q:Bool} [hu:Und P t .bool] (hx:ev e x=some (.bool p)) (hy:ev e y=some (.bool q)):PR P n ⟨d,.binOp .eql t x y u,ty,pos,af,g⟩ e w (.bool (decide (p=q))):=
 ⟨λc ha=>by simp only [execOp,ha.ev hx,ha.ev hy];simp [go_sem,binOp,run_equal_bool w t p q hu.h];cases p<;>cases q<;>rfl⟩
theorem Z8S {p q:Bool} [hu:Und P t .bool] (hx:ev e x=some (.bool p)) (hy:ev e y=some (.bool q)):PR P n ⟨d,.binOp .neq t x y u,ty,pos,af,g⟩ e w (.bool (decide (¬ p=q))):=
 ⟨λc ha=>by simp only [execOp,ha.ev hx,ha.ev hy];simp [go_sem,binOp,run_equal_bool w t p q hu.h];cases p<;>cases q<;>rfl⟩
end arith
theorem Z6z {x:Operand} {vs:Array Value} {i:Nat} {v:Value} (hx:ev e x=some (.tuple vs)) (hv:vs[i]?=some v):PR P n ⟨d,.extract x i,ty,pos,af,g⟩ e w v:=
 ⟨λa ha=>by simp [execOp,ha.ev hx,Instr.extract,hv]⟩
theorem ZbZ {x:Operand} {t:TypeId} {el:TypeId} [hu:Und P t (.slice el)] {p:Option Addr} {l c:Nat} (hx:ev e x=some (.slice p l c)) :
 PR P n ⟨d,.call { callee:=.builtin .len,args:=#[x],argTypes:=#[t] },ty,pos,af,g⟩ e w (.int .i64 (l:Int)):=
 ⟨λa ha => by
   have:=run_len_slice (P:=P) w t ty p l c (by rw [hu.h,Program.elem,hu.h]);simp [execOp,resolve,invoke,builtin,ha.ev hx,this,goInt]⟩
theorem Z5G {t i off:Nat} [h:Fld P t i off] (b o:Nat) (w:World):(Instr.fieldAt t (.pointer (some ⟨b,o,none⟩)) i).run P w=.ok (.pointer (some ⟨b,o+off,none⟩)) w:=by
 obtain ⟨fs,f,k,h1,h2,rfl,h3⟩:=h.h;have:Siz P f.type (k+1):=⟨h3⟩
 simp [Instr.fieldAt,run_underlying h1,h2,Instr.sureAddr,fieldPlace,Siz.run,Addr.add_lit]
theorem Z1g {x:Operand} {t:TypeId} {b o i off:Nat} [hf:Fld P t i off] (hx:ev e x=some (.pointer (some ⟨b,o,none⟩))):PR P n ⟨d,.fieldAddr t x i,ty,pos,af,g⟩ e w (.pointer (some ⟨b,o+off,none⟩)):=
 ⟨λa ha=>by simp [execOp,ha.ev hx,Z5G]⟩
theorem Jd {x:Operand} {t:TypeId} {D:TypeDesc} {ad:Addr} {v:Value} [hu:Und P t D] (hA:Z0h D=false) (hx:ev e x=some (.pointer (some ad))) (hc:w.cell? ad=some v) :
 PR P n ⟨d,.load t x,ty,pos,af,g⟩ e w v:=
 ⟨λa ha=>by simp [execOp,ha.ev hx,Instr.loadAt,Instr.sureAddr,loadVar,Und.isAgg,hA,hc]⟩
theorem Z25 {x:Operand} {t:TypeId} {D:TypeDesc} {b o k:Nat} {cs:List Value} [hu:Und P t D] (hA:Z0h D=true) [hs:Siz P t k] (hx:ev e x=some (.pointer (some ⟨b,o,none⟩)))
 (hl:cs.length=k) (hc:∀ j u,cs[j]?=some u->w.cell? ⟨b,o+j,none⟩=some u) :
 PR P n ⟨d,.load t x,ty,pos,af,g⟩ e w (.agg cs.toArray):=
 ⟨λa ha => by
   have:=run_loadCells_list (P:=P) w ⟨b,o,none⟩ cs (λj v h=>by rw [Addr.add_lit];exact hc j v h);rw [hl] at this;simp [execOp,ha.ev hx,Instr.loadAt,Instr.sureAddr,loadVar,Und.isAgg,hA,Siz.run,this]⟩
theorem Z8T {f:Nat}:PR P n ⟨d,.makeFunc (.func f) #[] #[],ty,pos,af,g⟩ e w (.func (.func f) #[] #[]):=
 ⟨λa ha=>by simp [execOp,Instr.makeFunc]⟩
theorem Z8U {f:Nat} {x:Operand} {v:Value} (hx:ev e x=some v):PR P n ⟨d,.makeFunc (.func f) #[] #[x],ty,pos,af,g⟩ e w (.func (.func f) #[] #[v]):=
 ⟨λa ha=>by simp [execOp,Instr.makeFunc,ha.ev hx]⟩
theorem Z8V {f:Nat} {x y:Operand} {v u:Value} (hx:ev e x=some v) (hy:ev e y=some u):PR P n ⟨d,.makeFunc (.func f) #[] #[x,y],ty,pos,af,g⟩ e w (.func (.func f) #[] #[v,u]):=
 ⟨λa ha=>by simp [execOp,Instr.makeFunc,ha.ev hx,ha.ev hy]⟩
theorem Z8W {f:Nat} {x y z:Operand} {v u s:Value} (hx:ev e x=some v) (hy:ev e y=some u) (hz:ev e z=some s):PR P n ⟨d,.makeFunc (.func f) #[] #[x,y,z],ty,pos,af,g⟩ e w (.func (.func f) #[] #[v,u,s]):=
 ⟨λa ha=>by simp [execOp,Instr.makeFunc,ha.ev hx,ha.ev hy,ha.ev hz]⟩
def Ret (G:Value->World->Prop) (r:Ending) (w':World):Prop:=∃ v,r=.returned v/\G v w'
theorem Ret.mk {G:Value->World->Prop} {v:Value} {w':World} (h:G v w'):Ret G (.returned v) w':=⟨v,rfl,h⟩
theorem Calls.ret {P:Program} {f:FuncId} {args:Array Value} {w:World} {G G':Value->World->Prop} (h:Calls P f args w (Ret G)) (hg:∀ v w',G v w'->G' v w'):Calls P f args w (Ret G'):=
 h.mono λ_ _ ⟨v,h1,h2⟩=>⟨v,h1,hg _ _ h2⟩
theorem Z3 {f:Nat} {fn:Func} {xs:Array Operand} {ts:Array TypeId} {vs:Array Value} {G:Value->World->Prop} {c:Operand} [hf:Fun P f fn] (hc:ev e c=some (.func (.func f) #[] #[]))
 (hv:∀ a,Has n e a->xs.map a.eval=vs) (h:Calls P f vs w (Ret G)) :
 OE P n ⟨d,.call { callee:=.value c,args:=xs,argTypes:=ts },ty,pos,af,g⟩ e w G:=
 ⟨λa ha Q => by
   have he:(execOp a.eval ⟨d,.call { callee:=.value c,args:=xs,argTypes:=ts },ty,pos,af,g⟩).run P w=.ok (.enter f vs) w:=by
    simp only [execOp,resolve,ha.ev hc,Deferred.ofValue,hv a ha];simp [invoke];exact hf.enters vs w
   unfold Oper.wp;rw [he];simp only [Oper.upon];refine h.mono ?_;rintro r w' ⟨v,rfl,hg⟩;exact ⟨v,rfl,hg⟩⟩
theorem Z0v {f:Nat} {fn:Func} {xs:Array Operand} {ts:Array TypeId} {vs cap us:Array Value} {G:Value->World->Prop} {c:Operand} [hf:Fun P f fn] (hc:ev e c=some (.func (.func f) #[] cap))
 (hv:∀ a,Has n e a->xs.map a.eval=vs) (hu:vs++cap=us) (h:Calls P f us w (Ret G)) :
 OE P n ⟨d,.call { callee:=.value c,args:=xs,argTypes:=ts },ty,pos,af,g⟩ e w G:=
 ⟨λa ha Q => by
   have he:(execOp a.eval ⟨d,.call { callee:=.value c,args:=xs,argTypes:=ts },ty,pos,af,g⟩).run P w=.ok (.enter f us) w:=by
    simp only [execOp,resolve,ha.ev hc,Deferred.ofValue,hv a ha];simp [invoke,hu];exact hf.enters us w
   unfold Oper.wp;rw [he];simp only [Oper.upon];refine h.mono ?_;rintro r w' ⟨v,rfl,hg⟩;exact ⟨v,rfl,hg⟩⟩
theorem Z8X:∀ a,Has n e a->(#[]:Array Operand).map a.eval=#[]:=λa ha=>by simp
theorem ZO {x:Operand} {v:Value} (hx:ev e x=some v):∀ a,Has n e a->#[x].map a.eval=#[v]:=λa ha=>by simp [ha.ev hx]
theorem Zh {x y:Operand} {v u:Value} (hx:ev e x=some v) (hy:ev e y=some u):∀ a,Has n e a->#[x,y].map a.eval=#[v,u]:=λa ha=>by simp [ha.ev hx,ha.ev hy]
theorem ZL {x y z:Operand} {v u s:Value} (hx:ev e x=some v) (hy:ev e y=some u) (hz:ev e z=some s):∀ a,Has n e a->#[x,y,z].map a.eval=#[v,u,s]:=λa ha=>by simp [ha.ev hx,ha.ev hy,ha.ev hz]
theorem Z67 {x y z k:Operand} {v u s r:Value} (hx:ev e x=some v) (hy:ev e y=some u) (hz:ev e z=some s) (hk:ev e k=some r):∀ a,Has n e a->#[x,y,z,k].map a.eval=#[v,u,s,r]:=
 λa ha=>by simp [ha.ev hx,ha.ev hy,ha.ev hz,ha.ev hk]
theorem ZrU {x y z k l:Operand} {v u s r q:Value} (hx:ev e x=some v) (hy:ev e y=some u) (hz:ev e z=some s) (hk:ev e k=some r) (hl:ev e l=some q):∀ a,Has n e a->#[x,y,z,k,l].map a.eval=#[v,u,s,r,q]:=
 λa ha=>by simp [ha.ev hx,ha.ev hy,ha.ev hz,ha.ev hk,ha.ev hl]
end rules
theorem mkF {P:Program} {f:Nat} {fn:Func} {c:Code} (h:P.funcs[f]?=some fn) (h2:(fn.name == "runtime.NumGoroutine")=false:=by kernel_rfl) (h3:fn.body=some c:=by exact rfl):Fun P f fn:=⟨h,enters_of h h2 h3⟩
theorem uM {P:Program} {t:Nat} {d:TypeDesc} (h:P.underlying t=some d):Und P t d:=⟨h⟩
end Go.Eng
namespace Go.Proofs.YteibicnbkggiiaaGreatDoor
open Go Go.Eng
theorem sMz (t k:Nat) (h:(Tryz.prog.info? t).map (·.size)=some k:=by kernel_rfl):Siz Tryz.prog t k:=⟨h⟩
theorem bMz (t k:Nat) (h:(Tryz.prog.info? t).map (·.bytes)=some k:=by kernel_rfl):Byt Tryz.prog t k:=⟨h⟩
theorem zMz (t:Nat) (z:Value) (h:(Tryz.prog.info? t).bind (·.zero)=some z:=by kernel_rfl):Zer Tryz.prog t z:=⟨h⟩
theorem fMz {t:Nat} (i off k:Nat) {fs:Array Field} {f:Field} (hu:Tryz.prog.underlying t=some (.struct fs)) (h1:fs[i]?=some f:=by exact rfl) (h2:f.offset=off:=by exact rfl) (h3:(Tryz.prog.info? f.type).map (·.size)=some (k+1):=by kernel_rfl):Fld Tryz.prog t i off:=⟨fs,f,k,hu,h1,h2,h3⟩
theorem mixed:Tryz.prog.follows .mixedOrders=true:=by kernel_rfl
abbrev Zvk:=uM Tryz.underlying3
abbrev Zvl:=sMz 3 1
abbrev Zvm:=bMz 3 8
abbrev Zvn:=zMz 3 (.int .i64 0)
abbrev Zvo:=uM Tryz.underlying4
abbrev Zvp:=sMz 4 1
abbrev Zvq:=bMz 4 1
abbrev Zvr:=zMz 4 (.bool false)
abbrev Zvs:=uM Tryz.underlying5
abbrev Zvt:=sMz 5 1
abbrev Zvu:=uM Tryz.underlying9
abbrev Zvv:=sMz 9 1
abbrev Zvw:=bMz 9 16
abbrev Zvx:=zMz 9 (.string ByteArray.empty)
abbrev ZrV:=uM Tryz.underlying20
abbrev ZrW:=uM Tryz.underlying22
abbrev ZrX:=sMz 22 1
abbrev ZrY:=bMz 22 24
abbrev ZrZ:=zMz 22 (.slice none 0 0)
abbrev Zs0:=uM Tryz.underlying24
abbrev Zs1:=sMz 24 6
abbrev Zs2:=bMz 24 56
abbrev Zs3:=zMz 24 (.agg #[.int .i64 0,.string ByteArray.empty,.int .i64 0,.int .i64 0,.int .i64 0,.int .i64 0])
abbrev Zk8:=fMz 0 0 0 Tryz.underlying24
abbrev Zk9:=fMz 1 1 0 Tryz.underlying24
abbrev Zka:=fMz 2 2 0 Tryz.underlying24
abbrev Zkb:=fMz 3 3 0 Tryz.underlying24
abbrev Zkc:=fMz 4 4 0 Tryz.underlying24
abbrev Zkd:=fMz 5 5 0 Tryz.underlying24
abbrev Zs4:=uM Tryz.underlying25
abbrev Zs5:=uM Tryz.underlying27
abbrev Zs6:=sMz 27 7
abbrev Zs7:=bMz 27 120
abbrev Zs8:=zMz 27 (.agg #[.string ByteArray.empty,.int .i64 0,.string ByteArray.empty,.slice none 0 0,.slice none 0 0,.string ByteArray.empty,.string ByteArray.empty])
abbrev Zke:=fMz 0 0 0 Tryz.underlying27
abbrev Zkf:=fMz 1 1 0 Tryz.underlying27
abbrev Zkg:=fMz 2 2 0 Tryz.underlying27
abbrev Zkh:=fMz 3 3 0 Tryz.underlying27
abbrev Zki:=fMz 4 4 0 Tryz.underlying27
abbrev Zkj:=fMz 5 5 0 Tryz.underlying27
abbrev Zkk:=fMz 6 6 0 Tryz.underlying27
abbrev Zs9:=uM Tryz.underlying29
abbrev Zsa:=sMz 29 2
abbrev Zsb:=bMz 29 16
abbrev Zsc:=zMz 29 (.agg #[.int .i64 0,.int .i64 0])
abbrev Zkl:=fMz 0 0 0 Tryz.underlying29
abbrev Zkm:=fMz 1 1 0 Tryz.underlying29
abbrev Zsd:=uM Tryz.underlying30
abbrev Zse:=sMz 30 1
abbrev Zsf:=uM Tryz.underlying32
abbrev Zsg:=sMz 32 5
abbrev Zsh:=bMz 32 56
abbrev Zsi:=zMz 32 (.agg #[.int .i64 0,.int .i64 0,.int .i64 0,.int .i64 0,.slice none 0 0])
abbrev Zkn:=fMz 0 0 0 Tryz.underlying32
abbrev Zko:=fMz 1 1 0 Tryz.underlying32
abbrev Zkp:=fMz 2 2 0 Tryz.underlying32
abbrev Zkq:=fMz 3 3 0 Tryz.underlying32
abbrev Zkr:=fMz 4 4 0 Tryz.underlying32
abbrev Zsj:=uM Tryz.underlying35
abbrev Zsk:=sMz 35 1
abbrev Zsl:=zMz 35 (.slice none 0 0)
abbrev Zsm:=uM Tryz.underlying36
abbrev Zsn:=sMz 36 1
abbrev Zso:=uM Tryz.underlying37
abbrev Zsp:=sMz 37 1
abbrev Zsq:=uM Tryz.underlying38
abbrev Zsr:=uM Tryz.underlying39
abbrev Zss:=sMz 39 1
abbrev Zst:=zMz 39 (.slice none 0 0)
abbrev Zsu:=uM Tryz.underlying40
abbrev Zsv:=uM Tryz.underlying41
abbrev Zsw:=sMz 41 1
abbrev Zsx:=uM Tryz.underlying42
abbrev Zsy:=sMz 42 1
abbrev Zsz:=uM Tryz.underlying43
abbrev ZsA:=sMz 43 1
abbrev ZsB:=uM Tryz.underlying45
abbrev ZsC:=sMz 45 2
abbrev ZsD:=zMz 45 (.agg #[.int .i64 0,.slice none 0 0])
abbrev Zks:=fMz 0 0 0 Tryz.underlying45
abbrev Zkt:=fMz 1 1 0 Tryz.underlying45
abbrev ZsE:=uM Tryz.underlying47
abbrev ZsF:=sMz 47 12
abbrev ZsG:=zMz 47 (.agg #[.bool false,.bool false,.bool false,.bool false,.bool false,.bool false,.bool false,.slice none 0 0,.slice none 0 0,.int .i64 0,.slice none 0 0,.int .i64 0])
abbrev Zku:=fMz 0 0 6 Tryz.underlying47
abbrev Zkv:=fMz 1 7 0 Tryz.underlying47
abbrev Zkw:=fMz 2 8 0 Tryz.underlying47
abbrev Zkx:=fMz 3 9 1 Tryz.underlying47
abbrev Zky:=fMz 4 11 0 Tryz.underlying47
abbrev ZsH:=uM Tryz.underlying49
abbrev ZsI:=sMz 49 19
abbrev ZsJ:=zMz 49 (.agg #[.slice none 0 0,.slice none 0 0,.slice none 0 0,.slice none 0 0,.slice none 0 0,.bool false,.bool false,.bool false,.bool false,.bool false,.bool false,.bool false,.slice none 0 0,.slice none 0 0,.int .i64 0,.slice none 0 0,.int .i64 0,.int .i64 0,.int .i64 0])
abbrev Zkz:=fMz 0 0 0 Tryz.underlying49
abbrev ZkA:=fMz 1 1 0 Tryz.underlying49
abbrev ZkB:=fMz 2 2 0 Tryz.underlying49
abbrev ZkC:=fMz 3 3 0 Tryz.underlying49
abbrev ZkD:=fMz 4 4 0 Tryz.underlying49
abbrev ZkE:=fMz 5 5 11 Tryz.underlying49
abbrev ZkF:=fMz 6 17 0 Tryz.underlying49
abbrev ZkG:=fMz 7 18 0 Tryz.underlying49
abbrev ZsK:=uM Tryz.underlying52
abbrev ZsL:=sMz 52 1
abbrev ZsM:=uM Tryz.underlying56
abbrev ZsN:=uM Tryz.underlying60
abbrev ZsO:=sMz 60 8
abbrev ZsP:=bMz 60 72
abbrev ZsQ:=zMz 60 (.agg #[.int .i64 0,.bool false,.int .i64 0,.string ByteArray.empty,.int .i64 0,.int .i64 0,.int .i64 0,.int .i64 0])
abbrev ZkH:=fMz 0 0 0 Tryz.underlying60
abbrev ZkI:=fMz 1 1 0 Tryz.underlying60
abbrev ZkJ:=fMz 2 2 5 Tryz.underlying60
abbrev ZsR:=uM Tryz.underlying63
abbrev ZsS:=sMz 63 1
abbrev ZsT:=zMz 63 (.slice none 0 0)
abbrev ZsU:=uM Tryz.underlying68
abbrev ZsV:=sMz 68 1
abbrev ZsW:=uM Tryz.underlying70
abbrev ZsX:=sMz 70 11
abbrev ZsY:=bMz 70 120
abbrev ZsZ:=zMz 70 (.agg #[.string ByteArray.empty,.int .i64 0,.string ByteArray.empty,.int .i64 0,.int .i64 0,.int .i64 0,.int .i64 0,.int .i64 0,.int .i64 0,.int .i64 0,.slice none 0 0])
abbrev ZkK:=fMz 0 0 0 Tryz.underlying70
abbrev ZkL:=fMz 1 1 5 Tryz.underlying70
abbrev ZkM:=fMz 2 7 0 Tryz.underlying70
abbrev ZkN:=fMz 3 8 0 Tryz.underlying70
abbrev ZkO:=fMz 4 9 0 Tryz.underlying70
abbrev ZkP:=fMz 5 10 0 Tryz.underlying70
abbrev Zt0:=uM Tryz.underlying76
abbrev Zt1:=uM Tryz.underlying80
abbrev Zt2:=uM Tryz.underlying82
abbrev Zt3:=sMz 82 4
abbrev Zt4:=zMz 82 (.agg #[.int .i64 0,.int .i64 0,.string ByteArray.empty,.slice none 0 0])
abbrev ZkQ:=fMz 0 0 0 Tryz.underlying82
abbrev ZkR:=fMz 1 1 0 Tryz.underlying82
abbrev ZkS:=fMz 2 2 0 Tryz.underlying82
abbrev ZkT:=fMz 3 3 0 Tryz.underlying82
abbrev Zt5:=uM Tryz.underlying84
abbrev Zt6:=sMz 84 13
abbrev Zt7:=bMz 84 184
abbrev Zt8:=zMz 84 (.agg #[.string ByteArray.empty,.int .i64 0,.string ByteArray.empty,.int .i64 0,.int .i64 0,.string ByteArray.empty,.slice none 0 0,.int .i64 0,.int .i64 0,.string ByteArray.empty,.slice none 0 0,.string ByteArray.empty,.string ByteArray.empty])
abbrev ZkU:=fMz 0 0 0 Tryz.underlying84
abbrev ZkV:=fMz 1 1 0 Tryz.underlying84
abbrev ZkW:=fMz 2 2 0 Tryz.underlying84
abbrev ZkX:=fMz 3 3 3 Tryz.underlying84
abbrev ZkY:=fMz 4 7 3 Tryz.underlying84
abbrev ZkZ:=fMz 5 11 0 Tryz.underlying84
abbrev Zl0:=fMz 6 12 0 Tryz.underlying84
abbrev Zt9:=uM Tryz.underlying88
abbrev Zta:=sMz 88 2
abbrev Ztb:=bMz 88 16
abbrev Ztc:=zMz 88 (.agg #[.int .i64 0,.int .i64 0])
abbrev Zl1:=fMz 0 0 0 Tryz.underlying88
abbrev Zl2:=fMz 1 1 0 Tryz.underlying88
abbrev Ztd:=uM Tryz.underlying98
abbrev Znt:=uM Tryz.underlying104
abbrev Znu:=sMz 104 3
abbrev Znv:=bMz 104 24
abbrev Znw:=zMz 104 (.agg #[.int .i64 0,.int .i64 0,.int .i64 0])
abbrev Znx:=uM Tryz.underlying107
abbrev Zny:=uM Tryz.underlying115
abbrev Znz:=uM Tryz.underlying116
abbrev ZnA:=uM Tryz.underlying122
abbrev ZnB:=sMz 122 9
abbrev ZnC:=bMz 122 72
abbrev ZnD:=zMz 122 (.agg #[.int .i64 0,.int .i64 0,.int .i64 0,.int .i64 0,.int .i64 0,.int .i64 0,.int .i64 0,.int .i64 0,.int .i64 0])
abbrev Zgv:=fMz 0 0 0 Tryz.underlying122
abbrev Zgw:=fMz 1 1 0 Tryz.underlying122
abbrev Zgx:=fMz 2 2 0 Tryz.underlying122
abbrev Zgy:=fMz 3 3 0 Tryz.underlying122
abbrev Zgz:=fMz 4 4 0 Tryz.underlying122
abbrev ZgA:=fMz 5 5 0 Tryz.underlying122
abbrev ZgB:=fMz 6 6 0 Tryz.underlying122
abbrev ZgC:=fMz 7 7 0 Tryz.underlying122
abbrev ZgD:=fMz 8 8 0 Tryz.underlying122
abbrev ZnE:=uM Tryz.underlying124
abbrev ZnF:=sMz 124 3
abbrev ZnG:=bMz 124 24
abbrev ZnH:=zMz 124 (.agg #[.int .i64 0,.int .i64 0,.int .i64 0])
abbrev ZgE:=fMz 0 0 0 Tryz.underlying124
abbrev ZgF:=fMz 1 1 0 Tryz.underlying124
abbrev ZgG:=fMz 2 2 0 Tryz.underlying124
abbrev ZnI:=uM Tryz.underlying127
abbrev ZnJ:=sMz 127 2
abbrev ZnK:=bMz 127 16
abbrev ZnL:=zMz 127 (.agg #[.int .i64 0,.int .i64 0])
abbrev ZgH:=fMz 0 0 0 Tryz.underlying127
abbrev ZgI:=fMz 1 1 0 Tryz.underlying127
abbrev ZgJ:=fMz 0 0 0 Tryz.underlying131
abbrev ZgK:=fMz 1 1 0 Tryz.underlying131
abbrev ZnM:=uM Tryz.underlying138
abbrev ZnN:=sMz 138 4
abbrev ZnO:=bMz 138 32
abbrev ZnP:=zMz 138 (.agg #[.int .i64 0,.int .i64 0,.int .i64 0,.int .i64 0])
abbrev ZgL:=fMz 0 0 0 Tryz.underlying138
abbrev ZgM:=fMz 1 1 0 Tryz.underlying138
abbrev ZgN:=fMz 2 2 0 Tryz.underlying138
abbrev ZgO:=fMz 3 3 0 Tryz.underlying138
abbrev ZnQ:=uM Tryz.underlying145
abbrev ZnR:=uM Tryz.underlying158
abbrev ZnS:=uM Tryz.underlying160
abbrev ZnT:=sMz 160 1
abbrev ZnU:=zMz 160 (.map none)
abbrev ZnV:=uM Tryz.underlying168
abbrev ZnW:=uM Tryz.underlying174
abbrev ZnX:=sMz 174 2
abbrev ZnY:=bMz 174 16
abbrev ZnZ:=zMz 174 (.agg #[.int .i64 0,.int .i64 0])
abbrev ZgP:=fMz 0 0 0 Tryz.underlying174
abbrev ZgQ:=fMz 1 1 0 Tryz.underlying174
abbrev Zo0:=uM Tryz.underlying176
abbrev ZgR:=fMz 0 0 0 Tryz.underlying178
abbrev ZgS:=fMz 1 1 0 Tryz.underlying178
abbrev ZgT:=fMz 2 2 0 Tryz.underlying178
abbrev Zo1:=uM Tryz.underlying181
abbrev Zo2:=uM Tryz.underlying182
abbrev Zo3:=sMz 184 2
abbrev ZgU:=fMz 0 0 0 Tryz.underlying184
abbrev ZgV:=fMz 1 1 0 Tryz.underlying184
abbrev Zo4:=uM Tryz.underlying185
abbrev Zo5:=sMz 185 8
abbrev Zo6:=zMz 185 (.agg #[.nilFunc,.nilFunc,.nilFunc,.nilFunc,.nilFunc,.nilFunc,.nilFunc,.nilFunc])
abbrev Zo7:=uM Tryz.underlying209
abbrev Zo8:=sMz 209 7
abbrev Zo9:=zMz 209 (.agg #[.int .i64 0,.int .i64 0,.int .i64 0,.int .i64 0,.int .i64 0,.int .i64 0,.int .i64 0])
abbrev ZgW:=fMz 0 0 0 Tryz.underlying209
abbrev ZgX:=fMz 1 1 0 Tryz.underlying209
abbrev ZgY:=fMz 2 2 0 Tryz.underlying209
abbrev ZgZ:=fMz 3 3 0 Tryz.underlying209
abbrev Zh0:=fMz 4 4 0 Tryz.underlying209
abbrev Zh1:=fMz 5 5 0 Tryz.underlying209
abbrev Zh2:=fMz 6 6 0 Tryz.underlying209
abbrev Zoa:=uM Tryz.underlying211
abbrev Zob:=sMz 211 3
abbrev Zoc:=bMz 211 24
abbrev Zod:=zMz 211 (.agg #[.int .i64 0,.int .i64 0,.int .i64 0])
abbrev Zh3:=fMz 0 0 0 Tryz.underlying211
abbrev Zh4:=fMz 1 1 0 Tryz.underlying211
abbrev Zh5:=fMz 2 2 0 Tryz.underlying211
abbrev Zoe:=uM Tryz.underlying237
abbrev Zof:=sMz 237 3
abbrev Zog:=zMz 237 (.agg #[.int .i64 0,.int .i64 0,.int .i64 0])
abbrev Zh6:=fMz 0 0 0 Tryz.underlying237
abbrev Zh7:=fMz 1 1 0 Tryz.underlying237
abbrev Zh8:=fMz 2 2 0 Tryz.underlying237
abbrev Zoh:=sMz 248 2
abbrev Zoi:=zMz 248 (.agg #[.int .i64 0,.int .i64 0])
abbrev Zoj:=uM Tryz.underlying265
abbrev Zok:=uM Tryz.underlying269
abbrev Zh9:=fMz 0 0 6 Tryz.underlying272
abbrev Zha:=fMz 1 7 11 Tryz.underlying272
abbrev Zhb:=fMz 2 19 0 Tryz.underlying272
abbrev Zhc:=fMz 3 20 0 Tryz.underlying272
abbrev Zhd:=fMz 4 21 0 Tryz.underlying272
abbrev Zhe:=fMz 5 22 0 Tryz.underlying272
abbrev Zhf:=fMz 6 23 0 Tryz.underlying272
abbrev Zhg:=fMz 7 24 0 Tryz.underlying272
abbrev Zol:=uM Tryz.underlying273
abbrev Zom:=zMz 275 (.nilFunc)
abbrev Zon:=uM Tryz.underlying287
abbrev Zoo:=uM Tryz.underlying290
abbrev Zop:=uM Tryz.underlying293
abbrev Zoq:=uM Tryz.underlying326
abbrev Zor:=sMz 326 3
abbrev Zos:=zMz 326 (.agg #[.int .i64 0,.int .i64 0,.int .i64 0])
abbrev Zot:=uM Tryz.underlying328
abbrev Zou:=uM Tryz.underlying340
abbrev Zov:=sMz 340 7
abbrev Zow:=zMz 340 (.agg #[.int .i64 0,.int .i64 0,.int .i64 0,.int .i64 0,.int .i64 0,.int .i64 0,.int .i64 0])
abbrev Zox:=uM Tryz.underlying347
abbrev Zoy:=uM Tryz.underlying348
abbrev Zoz:=zMz 348 (.agg #[.int .i64 0,.int .i64 0,.int .i64 0,.int .i64 0,.int .i64 0,.int .i64 0,.int .i64 0,.int .i64 0,.int .i64 0,.int .i64 0,.int .i64 0,.int .i64 0,.int .i64 0,.int .i64 0,.int .i64 0,.int .i64 0,.int .i64 0,.int .i64 0,.int .i64 0,.int .i64 0,.int .i64 0,.int .i64 0,.int .i64 0,.int .i64 0,.int .i64 0,.int .i64 0,.int .i64 0,.int .i64 0,.int .i64 0,.int .i64 0,.int .i64 0,.int .i64 0])
abbrev ZoA:=uM Tryz.underlying372
abbrev ZoB:=uM Tryz.underlying375
abbrev ZoC:=sMz 375 2
abbrev ZoD:=bMz 375 16
abbrev ZoE:=zMz 375 (.agg #[.int .i64 0,.int .i64 0])
abbrev Zhh:=fMz 0 0 0 Tryz.underlying375
abbrev ZoF:=uM Tryz.underlying390
abbrev Zvy:=mkF Tryz.func5
abbrev Zvz:=mkF Tryz.func7
abbrev ZvA:=mkF Tryz.func9
abbrev Zte:=mkF Tryz.func10
abbrev Ztf:=mkF Tryz.func11
abbrev Ztg:=mkF Tryz.func12
abbrev Zth:=mkF Tryz.func13
abbrev Zti:=mkF Tryz.func14
abbrev Ztj:=mkF Tryz.func15
abbrev Ztk:=mkF Tryz.func16
abbrev Ztl:=mkF Tryz.func17
abbrev Ztm:=mkF Tryz.func18
abbrev Ztn:=mkF Tryz.func19
abbrev Zto:=mkF Tryz.func20
abbrev Ztp:=mkF Tryz.func21
abbrev Ztq:=mkF Tryz.func22
abbrev Ztr:=mkF Tryz.func23
abbrev Zts:=mkF Tryz.func24
abbrev Ztt:=mkF Tryz.func25
abbrev Ztu:=mkF Tryz.func26
abbrev Ztv:=mkF Tryz.func27
abbrev Ztw:=mkF Tryz.func28
abbrev Ztx:=mkF Tryz.func29
abbrev Zty:=mkF Tryz.func30
abbrev Ztz:=mkF Tryz.func31
abbrev ZtA:=mkF Tryz.func32
abbrev ZtB:=mkF Tryz.func43
abbrev ZtC:=mkF Tryz.func44
abbrev ZtD:=mkF Tryz.func45
abbrev ZtE:=mkF Tryz.func46
abbrev ZtF:=mkF Tryz.func47
abbrev ZtG:=mkF Tryz.func48
abbrev ZtH:=mkF Tryz.func49
abbrev ZtI:=mkF Tryz.func50
abbrev ZtJ:=mkF Tryz.func51
abbrev ZtK:=mkF Tryz.func52
abbrev ZtL:=mkF Tryz.func53
abbrev ZtM:=mkF Tryz.func54
abbrev ZtN:=mkF Tryz.func55
abbrev ZtO:=mkF Tryz.func56
abbrev ZtP:=mkF Tryz.func57
abbrev ZtQ:=mkF Tryz.func58
abbrev ZtR:=mkF Tryz.func59
abbrev ZtS:=mkF Tryz.func60
abbrev ZtT:=mkF Tryz.func61
abbrev ZtU:=mkF Tryz.func62
abbrev ZtV:=mkF Tryz.func63
abbrev ZtW:=mkF Tryz.func64
abbrev ZtX:=mkF Tryz.func65
abbrev ZtY:=mkF Tryz.func66
abbrev ZtZ:=mkF Tryz.func67
abbrev Zu0:=mkF Tryz.func68
abbrev Zu1:=mkF Tryz.func69
abbrev Zu2:=mkF Tryz.func70
abbrev Zu3:=mkF Tryz.func71
abbrev Zu4:=mkF Tryz.func72
abbrev Zu5:=mkF Tryz.func73
abbrev Zu6:=mkF Tryz.func82
abbrev Zu7:=mkF Tryz.func83
abbrev Zu8:=mkF Tryz.func86
abbrev Zu9:=mkF Tryz.func87
abbrev Zua:=mkF Tryz.func88
abbrev Zub:=mkF Tryz.func89
abbrev Zuc:=mkF Tryz.func90
abbrev Zud:=mkF Tryz.func91
abbrev Zue:=mkF Tryz.func92
abbrev Zuf:=mkF Tryz.func93
abbrev Zug:=mkF Tryz.func94
abbrev Zuh:=mkF Tryz.func95
abbrev Zui:=mkF Tryz.func96
abbrev Zuj:=mkF Tryz.func97
abbrev Zuk:=mkF Tryz.func98
abbrev Zul:=mkF Tryz.func99
abbrev ZoG:=mkF Tryz.func100
abbrev ZoH:=mkF Tryz.func101
abbrev ZoI:=mkF Tryz.func102
abbrev ZoJ:=mkF Tryz.func103
abbrev ZoK:=mkF Tryz.func104
abbrev ZoL:=mkF Tryz.func105
abbrev ZoM:=mkF Tryz.func106
abbrev ZoN:=mkF Tryz.func107
abbrev ZoO:=mkF Tryz.func108
abbrev ZoP:=mkF Tryz.func109
abbrev ZoQ:=mkF Tryz.func115
abbrev ZoR:=mkF Tryz.func129
abbrev ZoS:=mkF Tryz.func130
abbrev ZoT:=mkF Tryz.func131
abbrev ZoU:=mkF Tryz.func132
abbrev ZoV:=mkF Tryz.func133
abbrev ZoW:=mkF Tryz.func134
abbrev ZoX:=mkF Tryz.func135
abbrev ZoY:=mkF Tryz.func136
abbrev ZoZ:=mkF Tryz.func137
abbrev Zp0:=mkF Tryz.func138
abbrev Zp1:=mkF Tryz.func139
abbrev Zp2:=mkF Tryz.func140
abbrev Zp3:=mkF Tryz.func141
abbrev Zp4:=mkF Tryz.func142
abbrev Zp5:=mkF Tryz.func143
abbrev Zp6:=mkF Tryz.func144
abbrev Zp7:=mkF Tryz.func145
abbrev Zp8:=mkF Tryz.func146
abbrev Zp9:=mkF Tryz.func147
abbrev Zpa:=mkF Tryz.func148
abbrev Zpb:=mkF Tryz.func149
abbrev Zpc:=mkF Tryz.func150
abbrev Zpd:=mkF Tryz.func151
abbrev Zpe:=mkF Tryz.func152
abbrev Zpf:=mkF Tryz.func153
abbrev Zpg:=mkF Tryz.func154
abbrev Zph:=mkF Tryz.func155
abbrev Zpi:=mkF Tryz.func156
abbrev Zpj:=mkF Tryz.func157
abbrev Zpk:=mkF Tryz.func158
abbrev Zpl:=mkF Tryz.func159
abbrev Zpm:=mkF Tryz.func160
abbrev Zpn:=mkF Tryz.func161
abbrev Zpo:=mkF Tryz.func162
abbrev Zpp:=mkF Tryz.func163
abbrev Zpq:=mkF Tryz.func164
abbrev Zpr:=mkF Tryz.func165
abbrev Zps:=mkF Tryz.func166
abbrev Zpt:=mkF Tryz.func167
abbrev Zpu:=mkF Tryz.func168
abbrev Zpv:=mkF Tryz.func169
abbrev Zpw:=mkF Tryz.func170
abbrev Zpx:=mkF Tryz.func171
abbrev Zpy:=mkF Tryz.func172
abbrev Zpz:=mkF Tryz.func174
abbrev ZpA:=mkF Tryz.func178
abbrev ZpB:=mkF Tryz.func187
abbrev ZpC:=mkF Tryz.func195
abbrev ZpD:=mkF Tryz.func196
abbrev ZpE:=mkF Tryz.func197
abbrev ZpF:=mkF Tryz.func198
abbrev ZpG:=mkF Tryz.func199
abbrev ZpH:=mkF Tryz.func200
abbrev ZpI:=mkF Tryz.func201
abbrev ZpJ:=mkF Tryz.func202
abbrev ZpK:=mkF Tryz.func203
abbrev ZpL:=mkF Tryz.func204
abbrev ZpM:=mkF Tryz.func205
abbrev ZpN:=mkF Tryz.func206
abbrev ZpO:=mkF Tryz.func207
abbrev ZpP:=mkF Tryz.func208
abbrev ZpQ:=mkF Tryz.func209
abbrev ZpR:=mkF Tryz.func210
abbrev ZpS:=mkF Tryz.func211
abbrev ZpT:=mkF Tryz.func212
abbrev ZpU:=mkF Tryz.func213
abbrev ZpV:=mkF Tryz.func214
abbrev ZpW:=mkF Tryz.func215
abbrev ZpX:=mkF Tryz.func216
abbrev ZpY:=mkF Tryz.func217
abbrev ZpZ:=mkF Tryz.func218
abbrev Zq0:=mkF Tryz.func222
abbrev Zq1:=mkF Tryz.func233
abbrev Zq2:=mkF Tryz.func234
abbrev Zq3:=mkF Tryz.func235
abbrev Zq4:=mkF Tryz.func240
abbrev Zq5:=mkF Tryz.func241
abbrev Zq6:=mkF Tryz.func242
abbrev Zq7:=mkF Tryz.func243
abbrev Zq8:=mkF Tryz.func244
abbrev Zq9:=mkF Tryz.func245
abbrev Zqa:=mkF Tryz.func246
abbrev Zqb:=mkF Tryz.func247
abbrev Zqc:=mkF Tryz.func248
abbrev Zqd:=mkF Tryz.func249
abbrev Zqe:=mkF Tryz.func250
abbrev Zqf:=mkF Tryz.func251
abbrev Zqg:=mkF Tryz.func252
abbrev Zqh:=mkF Tryz.func253
abbrev Zqi:=mkF Tryz.func254
abbrev Zqj:=mkF Tryz.func255
abbrev Zqk:=mkF Tryz.func256
abbrev Zql:=mkF Tryz.func257
abbrev Zqm:=mkF Tryz.func258
abbrev Zqn:=mkF Tryz.func259
abbrev Zqo:=mkF Tryz.func260
abbrev Zqp:=mkF Tryz.func261
abbrev Zqq:=mkF Tryz.func262
abbrev Zqr:=mkF Tryz.func263
abbrev Zqs:=mkF Tryz.func264
abbrev Zqt:=mkF Tryz.func267
abbrev Zqu:=mkF Tryz.func268
abbrev Zqv:=mkF Tryz.func270
abbrev Zqw:=mkF Tryz.func272
abbrev Zqx:=mkF Tryz.func275
abbrev Zqy:=mkF Tryz.func280
abbrev Zqz:=mkF Tryz.func281
abbrev ZqA:=mkF Tryz.func282
abbrev ZqB:=mkF Tryz.func288
abbrev ZqC:=mkF Tryz.func289
abbrev ZqD:=mkF Tryz.func290
abbrev ZqE:=mkF Tryz.func291
abbrev ZqF:=mkF Tryz.func292
abbrev ZqG:=mkF Tryz.func293
abbrev ZqH:=mkF Tryz.func294
abbrev ZqI:=mkF Tryz.func295
abbrev ZqJ:=mkF Tryz.func296
abbrev ZqK:=mkF Tryz.func297
abbrev ZqL:=mkF Tryz.func300
abbrev ZqM:=mkF Tryz.func314
abbrev ZqN:=mkF Tryz.func315
abbrev ZqO:=mkF Tryz.func316
abbrev ZqP:=mkF Tryz.func317
abbrev ZqQ:=mkF Tryz.func318
abbrev ZqR:=mkF Tryz.func319
abbrev ZqS:=mkF Tryz.func320
abbrev ZqT:=mkF Tryz.func329
abbrev ZqU:=mkF Tryz.func342
abbrev ZqV:=mkF Tryz.func358
abbrev ZqW:=mkF Tryz.func359
abbrev ZqX:=mkF Tryz.func366
abbrev ZqY:=mkF Tryz.func369
abbrev CC (f:Nat) (a:Array Value) (w:World) (G:Value->World->Prop):=Calls Tryz.prog f a w (Ret G)
attribute [instance] Zvk Zvo Zvs Zvu ZrV ZrW Zs0 Zs4 Zs5 Zs9 Zsd Zsf Zsj Zsm Zso Zsq Zsr Zsu Zsv Zsx Zsz ZsB ZsE ZsH ZsK ZsM ZsN ZsR ZsU ZsW Zt0 Zt1 Zt2 Zt5 Zt9 Ztd Znt Znx Zny Znz ZnA ZnE ZnI ZnM ZnQ ZnR ZnS ZnV ZnW Zo0 Zo1 Zo2 Zo4 Zo7 Zoa Zoe Zoj Zok Zol Zon Zoo Zop Zoq Zot Zou Zox Zoy ZoA ZoB ZoF Zvy Zvz ZvA Zte Ztf Ztg Zth Zti Ztj Ztk Ztl Ztm Ztn Zto Ztp Ztq Ztr Zts Ztt Ztu Ztv Ztw Ztx Zty Ztz ZtA ZtB ZtC ZtD ZtE ZtF ZtG ZtH ZtI ZtJ ZtK ZtL ZtM ZtN ZtO ZtP ZtQ ZtR ZtS ZtT ZtU ZtV ZtW ZtX ZtY ZtZ Zu0 Zu1 Zu2 Zu3 Zu4 Zu5 Zu6 Zu7 Zu8 Zu9 Zua Zub Zuc Zud Zue Zuf Zug Zuh Zui Zuj Zuk Zul ZoG ZoH ZoI ZoJ ZoK ZoL ZoM ZoN ZoO ZoP ZoQ ZoR ZoS ZoT ZoU ZoV ZoW ZoX ZoY ZoZ Zp0 Zp1 Zp2 Zp3 Zp4 Zp5 Zp6 Zp7 Zp8 Zp9 Zpa Zpb Zpc Zpd Zpe Zpf Zpg Zph Zpi Zpj Zpk Zpl Zpm Zpn Zpo Zpp Zpq Zpr Zps Zpt Zpu Zpv Zpw Zpx Zpy Zpz ZpA ZpB ZpC ZpD ZpE ZpF ZpG ZpH ZpI ZpJ ZpK ZpL ZpM ZpN ZpO ZpP ZpQ ZpR ZpS ZpT ZpU ZpV ZpW ZpX ZpY ZpZ Zq0 Zq1 Zq2 Zq3 Zq4 Zq5 Zq6 Zq7 Zq8 Zq9 Zqa Zqb Zqc Zqd Zqe Zqf Zqg Zqh Zqi Zqj Zqk Zql Zqm Zqn Zqo Zqp Zqq Zqr Zqs Zqt Zqu Zqv Zqw Zqx Zqy Zqz ZqA ZqB ZqC ZqD ZqE ZqF ZqG ZqH ZqI ZqJ ZqK ZqL ZqM ZqN ZqO ZqP ZqQ ZqR ZqS ZqT ZqU ZqV ZqW ZqX ZqY Zvl Zvm Zvn Zvp Zvq Zvr Zvt Zvv Zvw Zvx ZrX ZrY ZrZ Zs1 Zs2 Zs3 Zk8 Zk9 Zka Zkb Zkc Zkd Zs6 Zs7 Zs8 Zke Zkf Zkg Zkh Zki Zkj Zkk Zsa Zsb Zsc Zkl Zkm Zse Zsg Zsh Zsi Zkn Zko Zkp Zkq Zkr Zsk Zsl Zsn Zsp Zss Zst Zsw Zsy ZsA ZsC ZsD Zks Zkt ZsF ZsG Zku Zkv Zkw Zkx Zky ZsI ZsJ Zkz ZkA ZkB ZkC ZkD ZkE ZkF ZkG ZsL ZsO ZsP ZsQ ZkH ZkI ZkJ ZsS ZsT ZsV ZsX ZsY ZsZ ZkK ZkL ZkM ZkN ZkO ZkP Zt3 Zt4 ZkQ ZkR ZkS ZkT Zt6 Zt7 Zt8 ZkU ZkV ZkW ZkX ZkY ZkZ Zl0 Zta Ztb Ztc Zl1 Zl2 Znu Znv Znw ZnB ZnC ZnD Zgv Zgw Zgx Zgy Zgz ZgA ZgB ZgC ZgD ZnF ZnG ZnH ZgE ZgF ZgG ZnJ ZnK ZnL ZgH ZgI ZgJ ZgK ZnN ZnO ZnP ZgL ZgM ZgN ZgO ZnT ZnU ZnX ZnY ZnZ ZgP ZgQ ZgR ZgS ZgT Zo3 ZgU ZgV Zo5 Zo6 Zo8 Zo9 ZgW ZgX ZgY ZgZ Zh0 Zh1 Zh2 Zob Zoc Zod Zh3 Zh4 Zh5 Zof Zog Zh6 Zh7 Zh8 Zoh Zoi Zh9 Zha Zhb Zhc Zhd Zhe Zhf Zhg Zom Zor Zos Zov Zow Zoz ZoC ZoD ZoE Zhh
end Go.Proofs.YteibicnbkggiiaaGreatDoor
namespace Go.Eng
open Go Go.RowKit Go.Proofs
structure Stp (S:List Nat) (w w':World):Prop where
 os:w'.os=w.os
 tape:w'.tape=w.tape
 output:w'.output=w.output
 size:w.heap.size<=w'.heap.size
 block:∀ b,b<w.heap.size->b∉S->w'.heap[b]?=w.heap[b]?
theorem Stp.refl (S:List Nat) (w:World):Stp S w w:=⟨rfl,rfl,rfl,Xq _,λ_ _ _=>rfl⟩
theorem Stp.trans {S:List Nat} {a b c:World} (h:Stp S a b) (k:Stp S b c):Stp S a c:=
 ⟨k.os.trans h.os,k.tape.trans h.tape,k.output.trans h.output,Xk h.size k.size,λi hi hn=>(k.block i (Xi hi h.size) hn).trans (h.block i hi hn)⟩
theorem Stp.mono {S S':List Nat} {a b:World} (h:Stp S a b) (hs:∀ x∈S,x∈S'):Stp S' a b:=⟨h.os,h.tape,h.output,h.size,λi hi hn=>h.block i hi (λhx=>hn (hs i hx))⟩
theorem Stp.own {S S':List Nat} {a b c:World} (h:Stp S a b) (k:Stp S' b c) (hs:∀ x∈S',x∈S\/a.heap.size<=x):Stp S a c:=
 ⟨k.os.trans h.os, k.tape.trans h.tape, k.output.trans h.output, Xk h.size k.size, λi hi hn => (k.block i (Xi hi h.size) (λhx => by
   rcases hs i hx with h1|h1
   exact hn h1;omega)).trans (h.block i hi hn)⟩
theorem Stp.below {a b:World} (h:Stp [] a b):Below a.heap.size a b:=⟨h.os,h.tape,h.output,h.size,λi hi=>h.block i hi (by simp)⟩
theorem Stp.cell {S:List Nat} {w w':World} (h:Stp S w w') {b o:Nat} {v:Value} (hb:b∉S) (hc:w.cell? ⟨b,o,none⟩=some v):w'.cell? ⟨b,o,none⟩=some v:=by
 have hlt:b<w.heap.size:=block_lt_of_cell (a:=⟨b,o,none⟩) hc;rw [<- hc];exact World.cell?_of_block (w:=w) (h.block b hlt hb)
theorem Stp.drew (S:List Nat) (w:World):Stp S w w.drew:=⟨rfl,rfl,rfl,Xq _,λ_ _ _=>rfl⟩
theorem Stp.alloc (S:List Nat) (w:World) (o:Obj):Stp S w (w.alloc o):=⟨rfl,rfl,rfl,by simp,λk hk _=>Below.heap_alloc w o k hk⟩
theorem Stp.of_grown {w w':World} {row:Option Nat} (h:w.grownBy w' row):Stp row.toList w w':=
 ⟨h.os,h.tape,h.output,h.size,λk hk hn=>h.block k hk (λe=>hn (by simp [<- e]))⟩
class Z5 (α:Type) where
 k:Nat
 rep:List Nat->World->α->List Value->Prop
 len:∀ {X:List Nat} {w:World} {x:α} {cs:List Value},rep X w x cs->cs.length=k
 one:∀ {X:List Nat} {w:World} {x:α} {cs:List Value},rep X w x cs->∀ u∈cs,u.oneCell'=true
 ext:∀ {X S X':List Nat} {w w':World} {x:α} {cs:List Value},rep X w x cs->Stp S w w'->(∀ b∈S,b∈X)->(∀ b∈X',b∈X\/w.heap.size<=b)->rep X' w' x cs
class Z2 (α:Type) where
 k:Nat
 enc:α->List Value
 len:∀ x,(enc x).length=k
 one:∀ x,∀ u∈enc x,u.oneCell'=true
instance {α:Type} [Z2 α]:Z5 α where
 k:=Z2.k α
 rep:=λ_ _ x cs=>cs=Z2.enc x
 len:=λh=>h ▸ Z2.len _
 one:=λh=>h ▸ Z2.one _
 ext:=λh _ _ _=>h
instance:Z2 Int where
 k:=1
 enc:=λx=>[.int .i64 x]
 len:=λ_=>rfl
 one:=by intro x u hu;simp at hu;subst hu;rfl
instance:Z2 Bool where
 k:=1
 enc:=λx=>[.bool x]
 len:=λ_=>rfl
 one:=by intro x u hu;simp at hu;subst hu;rfl
def SlV {α:Type} [Z5 α] (X:List Nat) (w:World) (v:Value) (xs:List α):Prop:=
 ∃ (p : Option Addr) (c : Nat), v = .slice p xs.length c /\ xs.length <= c /\ c <= maxLen /\ (p = none -> c = 0)/\
   ∀ i (h:i<xs.length),∃ b o cs,p=some ⟨b,o,none⟩/\b<w.heap.size/\b∉X/\Z5.rep X w xs[i] cs/\∀ j u,cs[j]?=some u->w.cell? ⟨b,o+i * Z5.k α+j,none⟩=some u
theorem SlV.ext {α:Type} [Z5 α] {X S X':List Nat} {w w':World} {v:Value} {xs:List α} (h:SlV X w v xs) (hS:Stp S w w') (h1:∀ b∈S,b∈X) (h2:∀ b∈X',b∈X\/w.heap.size<=b):SlV X' w' v xs:=by
 obtain ⟨p,c,hv,hl,hm,hn,hc⟩:=h;refine ⟨p,c,hv,hl,hm,hn,λi hi=>?_⟩;obtain ⟨b,o,cs,hp,hb,hx,hr,am⟩:=hc i hi;refine ⟨b,o,cs,hp,Xi hb hS.size,λsF=>?_,Z5.ext hr hS h1 h2,λj u hu=>hS.cell (λcM=>hx (h1 b cM)) (am j u hu)⟩;rcases h2 b sF with h|h
 exact hx h;omega
theorem SlV.up {α:Type} [Z5 α] {X:List Nat} {w w':World} {v:Value} {xs:List α} (h:SlV X w v xs) (hS:Stp [] w w'):SlV X w' v xs:=
 h.ext hS (by simp) (λb hb=>.inl hb)
theorem SlV.len {α:Type} [Z5 α] {X:List Nat} {w:World} {v:Value} {xs:List α} (h:SlV X w v xs):∃ p c,v=.slice p xs.length c:=let ⟨p,c,hv,_⟩:=h;⟨p,c,hv⟩
theorem SlV.cells {α:Type} [Z5 α] {X:List Nat} {w:World} {v:Value} {xs:List α} (h:SlV X w v xs):v.cells.toList=[v]:=by
 obtain ⟨p,c,rfl⟩:=h.len;rfl
theorem SlV.one {α:Type} [Z5 α] {X:List Nat} {w:World} {v:Value} {xs:List α} (h:SlV X w v xs):v.oneCell'=true:=by
 obtain ⟨p,c,rfl⟩:=h.len;rfl
theorem SlV.max {α:Type} [Z5 α] {X:List Nat} {w:World} {v:Value} {xs:List α} (h:SlV X w v xs):xs.length<=9223372036854775807:=by
 obtain ⟨p,c,hv,hl,hm,_⟩:=h;simp only [maxLen] at hm;omega
def ZB (v:Value) (i k j:Nat):Addr:=
 match v with
 | .slice (some a) _ _=>⟨a.block,a.off+i * k+j,none⟩
 | _=>⟨0,0,none⟩
def Blk (w:World) (b:Nat) (T:TypeId) (cs:List Value):Prop:=w.heap[b]?=some (.cells cs.toArray T (0,0))
theorem Blk.lt {w:World} {b T:Nat} {cs:List Value} (h:Blk w b T cs):b<w.heap.size:=(Xm.1 h).1
theorem Blk.ext {w w':World} {S:List Nat} {b T:Nat} {cs:List Value} (h:Blk w b T cs) (hS:Stp S w w') (hb:b∉S):Blk w' b T cs:=by
 unfold Blk at *;rw [hS.block b (Blk.lt h) hb];exact h
theorem Blk.up {w w':World} {b T:Nat} {cs:List Value} (h:Blk w b T cs) (hS:Stp [] w w'):Blk w' b T cs:=h.ext hS (by simp)
theorem Blk.cell {w:World} {b T:Nat} {cs:List Value} (h:Blk w b T cs) {j:Nat} {u:Value} (hu:cs[j]?=some u):w.cell? ⟨b,j,none⟩=some u:=by
 unfold Blk at h;simp [World.cell?,h,hu]
section rules
variable {P:Program} {n:Nat} {e:Env} {w:World} {d:Option Nat} {ty:TypeId} {pos:String} {af:Array Edge} {g:Option (Nat×Bool)}
theorem Z8Y {α:Type} [Z5 α] {X:List Nat} {xs:List α} {v:Value} {x:Operand} {t:TypeId} {el:TypeId} {cI:World} [hu:Und P t (.slice el)] (hx:ev e x=some v) (hs:SlV X cI v xs) :
 PR P n ⟨d,.call { callee:=.builtin .len,args:=#[x],argTypes:=#[t] },ty,pos,af,g⟩ e w (.int .i64 (xs.length:Int)):=by
 obtain ⟨p,c,rfl⟩:=hs.len;exact ZbZ hx
theorem Z2m {α:Type} [Z5 α] {X:List Nat} {xs:List α} {v:Value} {x y:Operand} {t:TypeId} {el k:Nat} [hu:Und P t (.slice el)] [hk:Siz P el k] {z:Int} {i:Nat} {cI:World}
 (hx:ev e x=some v) (hs:SlV X cI v xs) (hy:ev e y=some (.int .i64 z)) (hz:z=(i:Int)) (hi:i<xs.length) :
 PR P n ⟨d,.indexAddr t x y,ty,pos,af,g⟩ e w (.pointer (some (ZB v i k 0))):=by
 refine ⟨λa ha=>?_⟩;obtain ⟨p,c,rfl,hl,hm,hn,hc⟩:=hs;obtain ⟨b,o,cs,rfl,_⟩:=hc i hi;subst hz;have h0:(0:Int)<=(i:Int)/\(i:Int)<(xs.length:Int):=by omega
 have hr:(Instr.indexAt t (.slice (some ⟨b,o,none⟩) xs.length c) (.int .i64 (i:Int))).run P w=.ok (.pointer (some ⟨b,o+i * k,none⟩)) w:=by
  simp only [Instr.indexAt,asIntOf];simp [run_underlying hu.h,Siz.run,Addr.add_lit,hi]
 simp [execOp,ha.ev hx,ha.ev hy,hr,ZB]
theorem Za2 {x:Operand} {t:TypeId} {v:Value} {i k j m off:Nat} [hf:Fld P t m off] (hx:ev e x=some (.pointer (some (ZB v i k j))))
 (hv:∃ p l c,v=.slice (some p) l c):PR P n ⟨d,.fieldAddr t x m,ty,pos,af,g⟩ e w (.pointer (some (ZB v i k (j+off)))):=by
 obtain ⟨p,l,c,rfl⟩:=hv;exact ⟨λa ha=>by simp [execOp,ha.ev hx,ZB,Z5G,YaP]⟩
theorem SlV.isSome {α:Type} [Z5 α] {X:List Nat} {v:Value} {xs:List α} {i:Nat} (h:SlV X w v xs) (hi:i<xs.length):∃ p l c,v=.slice (some p) l c:=by
 obtain ⟨p,c,rfl,_,_,_,hc⟩:=h;obtain ⟨b,o,cs,rfl,_⟩:=hc i hi;exact ⟨_,_,_,rfl⟩
theorem SlV.cell {α:Type} [Z5 α] {X:List Nat} {v:Value} {xs:List α} {i:Nat} (h:SlV X w v xs) (hi:i<xs.length):∃ cs,Z5.rep X w xs[i] cs/\∀ j u,cs[j]?=some u->w.cell? (ZB v i (Z5.k α) j)=some u:=by
 obtain ⟨p,c,rfl,_,_,_,hc⟩:=h;obtain ⟨b,o,cs,rfl,_,_,hr,am⟩:=hc i hi;exact ⟨cs,hr,λj u hu=>by simpa [ZB] using am j u hu⟩
theorem SlV.cellF {α:Type} [Z2 α] {X:List Nat} {v:Value} {xs:List α} {i:Nat} (h:SlV X w v xs) (hi:i<xs.length) {j:Nat} {u:Value} (hu:(Z2.enc xs[i])[j]?=some u):w.cell? (ZB v i (Z2.k α) j)=some u:=by
 obtain ⟨cs,hr,hc⟩:=h.cell hi;have bB:cs=Z2.enc xs[i]:=hr;subst bB;exact hc j u hu
theorem Z2n {α:Type} [Z2 α] {X:List Nat} {xs:List α} {v u:Value} {i j k:Nat} {x:Operand} {t:TypeId} {D:TypeDesc} [hu:Und P t D] (hA:Z0h D=false) (hx:ev e x=some (.pointer (some (ZB v i k j))))
 (hs:SlV X w v xs) (hi:i<xs.length) (hk:k=Z2.k α) (hc:(Z2.enc xs[i])[j]?=some u):PR P n ⟨d,.load t x,ty,pos,af,g⟩ e w u:=
 Jd hA hx (by subst hk;exact hs.cellF hi hc)
theorem Za3 {α:Type} [Z2 α] {X:List Nat} {xs:List α} {v:Value} {us:List Value} {i j k m:Nat} {x:Operand} {t:TypeId} {D:TypeDesc} [hu:Und P t D] (hA:Z0h D=true) [br:Siz P t m] (hx:ev e x=some (.pointer (some (ZB v i k j))))
 (hs:SlV X w v xs) (hi:i<xs.length) (hk:k=Z2.k α) (hl:us.length=m) (hc:((Z2.enc xs[i]).drop j).take m=us):PR P n ⟨d,.load t x,ty,pos,af,g⟩ e w (.agg us.toArray):=by
 obtain ⟨p,l,c,hv⟩:=hs.isSome hi;have am:=λ(q:Nat) (u:Value) (h:(Z2.enc xs[i])[q]?=some u)=>hs.cellF hi h;subst hv;refine Z25 hA hx hl (λq u hq=>?_);have h1:(Z2.enc xs[i])[j+q]?=some u:=by
  rw [<- hc,Yav] at hq;split at hq;simpa using hq;cases hq
 have:=am (j+q) u h1;subst hk;simpa [ZB,YaP] using this
theorem Z5H {α:Type} [Z2 α] {X:List Nat} {xs:List α} {v:Value} {i k:Nat} {x:Operand} {t:TypeId} {D:TypeDesc} [hu:Und P t D] (hA:Z0h D=true) [br:Siz P t k] (hx:ev e x=some (.pointer (some (ZB v i k 0))))
 (hs:SlV X w v xs) (hi:i<xs.length) (hk:k=Z2.k α):PR P n ⟨d,.load t x,ty,pos,af,g⟩ e w (.agg (Z2.enc xs[i]).toArray):=
 Za3 hA hx hs hi hk (by rw [hk];exact Z2.len _) (by rw [Yb0,XR (by rw [hk,Z2.len];exact Xq _)])
theorem Ji {b T o:Nat} {cs:List Value} {u:Value} {x:Operand} {t:TypeId} {D:TypeDesc} [hu:Und P t D] (hA:Z0h D=false) (hx:ev e x=some (.pointer (some ⟨b,o,none⟩))) (hb:Blk w b T cs) (hc:cs[o]?=some u) :
 PR P n ⟨d,.load t x,ty,pos,af,g⟩ e w u:=Jd hA hx (hb.cell hc)
theorem Zj {b T o m:Nat} {cs us:List Value} {x:Operand} {t:TypeId} {D:TypeDesc} [hu:Und P t D] (hA:Z0h D=true) [br:Siz P t m] (hx:ev e x=some (.pointer (some ⟨b,o,none⟩))) (hb:Blk w b T cs)
 (hl:us.length=m) (hc:(cs.drop o).take m=us):PR P n ⟨d,.load t x,ty,pos,af,g⟩ e w (.agg us.toArray):=by
 refine Z25 hA hx hl (λq u hq=>hb.cell ?_);rw [<- hc,Yav] at hq;split at hq;simpa using hq;cases hq
theorem ZY {b T m:Nat} {cs:List Value} {x:Operand} {t:TypeId} {D:TypeDesc} [hu:Und P t D] (hA:Z0h D=true) [br:Siz P t m] (hx:ev e x=some (.pointer (some ⟨b,0,none⟩))) (hb:Blk w b T cs)
 (hl:cs.length=m):PR P n ⟨d,.load t x,ty,pos,af,g⟩ e w (.agg cs.toArray):=
 Zj hA hx hb hl (by rw [Yb0,XR (by omega)])
def Z53 (w:World) (T:TypeId) (cs:List Value) (v:Value) (w':World):Prop:=∃ b,v=.pointer (some ⟨b,0,none⟩)/\w.heap.size<=b/\Blk w' b T cs/\Stp [] w w'
theorem Z8Z (w:World) (T:TypeId) (cs:List Value):Z53 w T cs (.pointer (some ⟨w.heap.size,0,none⟩)) (w.alloc (.cells cs.toArray T)):=
 ⟨_,rfl,Xq _,heap_alloc_new w _,Stp.alloc _ _ _⟩
theorem Zv {o:Oper} {G:Value->World->Prop} {v:Value} {w':World} (h:∀ a,Has n e a->(execOp a.eval o).run P w=.ok (.value v) w') (hg:G v w'):OE P n o e w G:=
 ⟨λa ha Q=>by unfold Oper.wp;rw [h a ha];exact ⟨v,rfl,hg⟩⟩
theorem Z2o {o:Oper} {G:Value->World->Prop} {w':World} (h:∀ a,Has n e a->(execOp a.eval o).run P w=.ok .skip w') (hg:G undef w'):OE P n o e w G:=
 ⟨λa ha Q=>by unfold Oper.wp;rw [h a ha];exact ⟨undef,rfl,hg⟩⟩
theorem OE.mono {o:Oper} {G G':Value->World->Prop} (h:OE P n o e w G) (hg:∀ v w',G v w'->G' v w'):OE P n o e w G':=
 ⟨λa ha Q=>Oper.wp_mono (λa' w' ⟨v,h1,h2⟩=>⟨v,h1,hg v w' h2⟩) (h.h a ha Q)⟩
theorem Z4 {t:TypeId} {z:Value} [hz:Zer P t z]:OE P n ⟨d,.alloc t,ty,pos,af,g⟩ e w (Z53 w t z.cells.toList):=
 Zv (v:=.pointer (some ⟨w.heap.size,0,none⟩)) (w':=w.alloc (.cells z.cells t)) (λa ha=>by
  simp [execOp,Instr.alloc,Zer.run,newVar,newRow,newObj];rfl) (by simpa using Z8Z w t z.cells.toList)
theorem Zn {t:TypeId} {x:Operand} {v:Value} (hx:ev e x=some v):OE P n ⟨d,.box t x,ty,pos,af,g⟩ e w (Z53 w t v.cells.toList):=
 Zv (v:=.pointer (some ⟨w.heap.size,0,none⟩)) (w':=w.alloc (.cells v.cells t)) (λa ha=>by
  simp [execOp,Instr.box,ha.ev hx,newVar,newRow,newObj];rfl) (by simpa using Z8Z w t v.cells.toList)
theorem Z90 {α:Type} [Z5 α] {X:List Nat} {cI:World} {xs:List α} {t:TypeId} {x:Operand} {v:Value} (hx:ev e x=some v) (hs:SlV X cI v xs):OE P n ⟨d,.box t x,ty,pos,af,g⟩ e w (Z53 w t [v]):=by
 rw [<- hs.cells];exact Zn hx
theorem Z0I (w:World) (b:Nat) (cs:Array Value):Stp [b] w (w.setRow b cs):=
 ⟨rfl,rfl,rfl,by simp,λk hk hn=>setRow_other w b k cs (by simpa using hn)⟩
theorem Z1r {b T o m t:Nat} {cs us:List Value} {x y:Operand} {u:Value} [br:Siz P t m] (hx:ev e x=some (.pointer (some ⟨b,o,none⟩))) (hy:ev e y=some u) (hu:u.cells.toList=us) (hm:us.length=m) (h1:∀ c∈us,c.oneCell'=true)
 (hb:Blk w b T cs) (hl:o+us.length<=cs.length):OE P n ⟨d,.store t x y,ty,pos,af,g⟩ e w (λ_ w'=>Stp [b] w w'/\Blk w' b T (cs.take o++us++cs.drop (o+us.length))):=by
 have ar:=run_storeCells_at P b o T us 0 cs.toArray w hb (by simpa using hl) h1;refine Z2o (w':=w.setRow b (cs.take o++us++cs.drop (o+us.length)).toArray) (λa ha=>?_) ⟨Z0I _ _ _,setRow_heap w b cs.toArray _ T (0,0) hb⟩;have aV:u.cells.size=m:=by rw [<- hm,<- hu,Yae]
 simp only [Ybs] at ar;simp [execOp,ha.ev hx,ha.ev hy,Instr.storeAt,Instr.sureAddr,storeVar,Siz.run,aV,hu,ar]
theorem Zy {b T m t:Nat} {cs us:List Value} {x y:Operand} {u:Value} [br:Siz P t m] (hx:ev e x=some (.pointer (some ⟨b,0,none⟩))) (hy:ev e y=some u) (hu:u.cells.toList=us) (hm:us.length=m) (h1:∀ c∈us,c.oneCell'=true)
 (hb:Blk w b T cs) (hl:us.length=cs.length):OE P n ⟨d,.store t x y,ty,pos,af,g⟩ e w (λ_ w'=>Stp [b] w w'/\Blk w' b T us):=
 (Z1r hx hy hu hm h1 hb (by omega)).mono (λ_ w' ⟨h2,h3⟩=>⟨h2,by simpa [hl] using h3⟩)
theorem Zf {b T o t:Nat} {cs:List Value} {x y:Operand} {u:Value} [br:Siz P t 1] (hx:ev e x=some (.pointer (some ⟨b,o,none⟩))) (hy:ev e y=some u) (hu:u.cells.toList=[u]) (h1:u.oneCell'=true)
 (hb:Blk w b T cs) (hl:o<cs.length):OE P n ⟨d,.store t x y,ty,pos,af,g⟩ e w (λ_ w'=>Stp [b] w w'/\Blk w' b T (cs.set o u)):=
 (Z1r hx hy hu rfl (by simpa using h1) hb (by simp; omega)).mono (λ_ w' ⟨h2, h3⟩ => ⟨h2, by
   rw [List.set_eq_take_append_cons_drop,if_pos hl];simpa using h3⟩)
end rules
def ob:Value->List Nat
 | .slice (some a) _ _=>[a.block]
 | _=>[]
theorem Zc0 (v:Value):v.ownBlock.toList=ob v:=by
 cases v<;>try rfl
 rename_i a _ _;cases a<;>rfl
def Row {α:Type} [Z5 α] (X:List Nat) (w:World) (base T:Nat) (v:Value) (xs:List α):Prop:=
 ∃ css:List (List Value),css.length=xs.length/\(∀ i (h:i<xs.length) (h':i<css.length),Z5.rep (ob v++X) w xs[i] css[i])/\w.ownsRow base T (Z5.k α) v xs.length css.flatten
section row
variable {α:Type} [Z5 α] {X:List Nat} {w w':World} {base T:Nat} {v:Value} {xs:List α}
theorem Row.nil:Row (α:=α) X w base T (.slice none 0 0) []:=
 ⟨[],rfl,λi h=>absurd h (Xy _),by simpa using World.ownsRow_nil w base T (Z5.k α)⟩
theorem Row.ob_le (h:Row X w base T v xs):∀ b∈ob v,base<=b/\b<w.heap.size:=by
 obtain ⟨css,_,_,ho⟩:=h;intro b hb;rw [<- Zc0] at hb;exact ho.lt b (by simpa using hb)
theorem Row.ext {S X':List Nat} (h:Row X w base T v xs) (hS:Stp S w w') (h1:∀ b∈S,b∈X/\b∉ob v) (h2:∀ b∈X',b∈X\/w.heap.size<=b):Row X' w' base T v xs:=by
 obtain ⟨css,hl,hr,ho⟩:=h;refine ⟨css,hl,λi hi be=>Z5.ext (hr i hi be) hS (λb hb=>by simp [(h1 b hb).1]) (λb hb=>?_),?_⟩;simp only [Xe] at hb ⊢;rcases hb with hb|hb
 exact .inl (.inl hb);rcases h2 b hb with h|h
 exact .inl (.inr h);exact .inr h;refine ⟨ho.1,?_⟩;rcases ho.2 with hn|⟨q,cap,cur,rfl,hb,hg,rest⟩
 exact .inl hn;refine .inr ⟨q,cap,cur,rfl,hb,?_,rest⟩;rw [hS.block q (Xm.1 hg).1 (λhq=>(h1 q hq).2 (by simp [ob]))];exact hg
theorem Row.up (h:Row X w base T v xs) (hS:Stp [] w w'):Row X w' base T v xs:=h.ext hS (by simp) (λb hb=>.inl hb)
theorem Z05 {k:Nat}:∀ (css:List (List Value)),(∀ c∈css,c.length=k)->∀ (i:Nat) (hi:i<css.length) (j:Nat) (u:Value),css[i][j]?=some u->css.flatten[i * k+j]?=some u
 | [],_,i,hi,_,_,_=>absurd hi (Xy _)
 | c :: r, hk, 0, _, j, u, hu => by
   have hj:j<c.length:=(Xt.1 hu).1;simp only [Yay,Nat.zero_mul,XK];rw [Yaq hj];exact hu
 | c :: r, hk, i + 1, hi, j, u, hu => by
   have ih:=Z05 r (λc hc=>hk c (by simp [hc])) i (by simpa using hi) j u (by simpa using hu);have hc:=hk c (by simp);simp only [Yay];rw [YaT (by rw [hc,Yam];omega),hc];rw [show (i+1) * k+j - k=i * k+j by rw [Yam];omega];exact ih
theorem Row.slv (h:Row X w base T v xs) (hX:∀ b∈X,b<base):SlV X w v xs:=by
 obtain ⟨css,hl,hr,ho⟩:=h;have hk:∀ c∈css,c.length=Z5.k α:=by
  intro c hc;obtain ⟨i,hi,rfl⟩:=Xv hc;exact Z5.len (hr i (by omega) hi)
 rcases ho.2 with ⟨rfl,hn⟩|⟨q,cap,cur,rfl,hb,hg,bN,bC,aV,ht⟩
 exact ⟨none,0,by rw [hn],by omega,by simp [maxLen],λ_=>rfl,λi hi=>by omega⟩;refine ⟨some ⟨q,0,none⟩,cap,rfl,bN,bC,λh=>by simp at h,λi hi=>?_⟩;refine ⟨q,0,css[i]'(by omega),rfl,(Xm.1 hg).1,λhx=>by have:=hX q hx;omega,?_,λj u hu=>?_⟩;exact Z5.ext (hr i hi (by omega)) (Stp.refl [] w) (by simp) (λb hb=>.inl (by simp [hb]));have h1:=Z05 css hk i (by omega) j u hu;rw [<- ht,Yav] at h1;split at h1;have h2:cur[i * Z5.k α+j]?=some u:=by simpa using h1
 rw [XK,cell_of_row w q _ cur T (0,0) hg];exact h2;cases h1
theorem Z4j {P:Program} {t ty e size bytes:Nat} {i:TypeInfo} {z:Value} (ht:P.underlying t=some (.slice e)) (hi:P.info? e=some i) (hz:i.zero=some z)
 (la:i.size=size) (nT:i.bytes=bytes) {v:Value} {n:Nat} {cs:List Value} (bF:w.ownsRow base e size v n cs)
 {a:Addr} {m c:Nat} {news:List Value} (hl:news.length=m * size) (cA:∀ j u,news[j]?=some u->w.cell? (a.add j)=some u) (h1:∀ u∈news,u.oneCell'=true)
 (sG:n+m<=maxLen) (hbytes:(n+m) * bytes<=140737488355328) {v':Value} {w':World} (hr:(Builtin.append_ #[t,t] ty #[v,.slice (some a) m c]).run P w=.ok v' w') :
 ∀ b∈ob v',b∈ob v\/w.heap.size<=b:=by
 subst la;subst nT;have hsmall:n+m<=9223372036854775807:=by simp only [maxLen] at sG;omega
 rcases bF.2 with ⟨rfl,rfl⟩|⟨q,cap,cur,rfl,vZ,hg,bN,bC,aV,qI⟩
 by_cases hm:m=0;subst hm;have hn:news=[]:=Yau (by simpa using hl);subst hn;have:(Builtin.append_ #[t,t] ty #[.slice none 0 0,.slice (some a) 0 c]).run P w=.ok (.slice none 0 0) w:=by
  simp [Builtin.append_,run_underlying ht,sizeOf,typeInfo,hi,Builtin.lenOf,Builtin.firstCells,loadCells,loadCellsFrom]
 rw [this] at hr;cases hr;simp [ob];have h:=run_append_nil (P:=P) w t ty e i z ht hi hz a m c news hl cA (by omega) (by omega) (by have hb:=hbytes;simp only [XK] at hb;omega);rw [h] at hr;cases hr;simp [ob];by_cases iV:n+m<=cap;have dm:n * i.size+news.length<=cur.size:=by rw [hl,aV,<- Yb1];exact Xr _ iV
 have h:=run_append_room (P:=P) w t ty e i ht hi q n cap cur hg a m c news hl cA h1 iV dm;rw [h] at hr;cases hr;simp [ob];have holds:∀ j u,cs[j]?=some u->w.cell? ((⟨q,0,none⟩:Addr).add j)=some u:=bF.cells (g:=q) rfl;have h:=run_append_grow (P:=P) w t ty e i z ht hi hz ⟨q,0,none⟩ n cap cs bF.1 holds a m c news hl cA (by omega) (by omega) (growslice_fits (by omega) hbytes);rw [h] at hr;cases hr;simp [ob]
def Za4 (X:List Nat) (w:World) (base T:Nat) (v:Value) (xs ys:List α) (v':Value) (w':World):Prop:=
 Row X w' base T v' (xs++ys)/\Stp (ob v) w w'/\∀ b∈ob v',b∈ob v\/w.heap.size<=b
theorem ZA {P:Program} {n:Nat} {e:Env} {d:Option Nat} {ty:TypeId} {pos:String} {af:Array Edge} {g:Option (Nat×Bool)} {x y:Operand} {t bytes:Nat} {u:Value} {z:Value} {ys:List α}
 [ht:Und P t (.slice T)] [hk:Siz P T (Z5.k α)] [hb:Byt P T bytes] [hz:Zer P T z] (dC:z.cells.size=Z5.k α) (aZ:0<Z5.k α)
 (hx:ev e x=some v) (hy:ev e y=some u) (ac:Row X w base T v xs) (ce:SlV (ob v++X) w u ys) (hbytes:(xs.length+ys.length) * bytes<=140737488355328) (ai:xs.length+ys.length<=maxLen) (aT:base<=w.heap.size) :
 OE P n ⟨d,.call { callee:=.builtin .append,args:=#[x,y],argTypes:=#[t,t] },ty,pos,af,g⟩ e w (Za4 X w base T v xs ys):=by
 obtain ⟨i,hi,cg,bI,fj⟩:∃ i,P.info? T=some i/\i.size=Z5.k α/\i.bytes=bytes/\i.zero=some z:=by
  have a1:=hk.h;have a2:=hb.h;have a3:=hz.h;cases hi:P.info? T with
  | none=>simp [hi] at a1
  | some i=>exact ⟨i,rfl,by simpa [hi] using a1,by simpa [hi] using a2,by simpa [hi] using a3⟩
 have dD:=ac;obtain ⟨css,hl,hr,ho⟩:=ac;obtain ⟨p,c,rfl,dH,ww,sH,qJ⟩:=ce;have nU:∃ dss:List (List Value),dss.length=ys.length/\(∀ j (h:j<ys.length) (h':j<dss.length),Z5.rep (ob v++X) w ys[j] dss[j]/\∃ b o,p=some ⟨b,o,none⟩/\∀ q u,dss[j][q]?=some u->w.cell? ⟨b,o+j * Z5.k α+q,none⟩=some u):=by
  have:∀ j:Fin ys.length,∃ ds:List Value,Z5.rep (ob v++X) w ys[j] ds/\∃ b o,p=some ⟨b,o,none⟩/\∀ q u,ds[q]?=some u->w.cell? ⟨b,o+j * Z5.k α+q,none⟩=some u:=by
   intro j;obtain ⟨b,o,cs,h1,h2,h3,h4,h5⟩:=qJ j j.2;exact ⟨cs,h4,b,o,h1,h5⟩
  obtain ⟨f,hf⟩:=Classical.axiomOfChoice this;refine ⟨List.ofFn f,by simp,λj h h'=>?_⟩;have:=hf ⟨j,h⟩;simpa using this
 obtain ⟨dss,iW,hd⟩:=nU;have mS:∀ c∈dss,c.length=Z5.k α:=by
  intro c hc;obtain ⟨q,hq,rfl⟩:=Xv hc;exact Z5.len (hd q (by omega) hq).1
 have iX:∀ (l:List (List Value)),(∀ c∈l,c.length=Z5.k α)->l.flatten.length=l.length * Z5.k α:=by
  intro l
  induction l with
  | nil=>intro _;simp
  | cons c r ih=>intro h;simp only [Yay,Xb,Xf,Yam];rw [ih (λc hc=>h c (by simp [hc])),h c (by simp)];omega
 have aB:∀ u∈dss.flatten,u.oneCell'=true:=by
  intro u hu;obtain ⟨c,hc,sI⟩:=List.mem_flatten.1 hu;obtain ⟨q,hq,rfl⟩:=Xv hc;exact Z5.one (hd q (by omega) hq).1 u sI
 have fin:∀ (v':Value) (w':World),w'.ownsRow base T (Z5.k α) v' (xs.length+ys.length) (css.flatten++dss.flatten)->Stp (ob v) w w'->(∀ b∈ob v',b∈ob v\/w.heap.size<=b)->Za4 X w base T v xs ys v' w':=by
  intro v' w' im hS cO;have hX:∀ b∈ob v'++X,b∈ob v++X\/w.heap.size<=b:=by
   intro b hb;simp only [Xe] at hb ⊢;rcases hb with hb|hb
   rcases cO b hb with h|h
   exact .inl (.inl h);exact .inr h;exact .inl (.inr hb)
  have qK:∀ b∈ob v,b∈ob v++X:=λb hb=>by simp [hb]
  refine ⟨⟨css++dss,by simp [hl,iW],λi hi be=>?_,?_⟩,hS,cO⟩;by_cases hlt:i<xs.length;rw [Yal hlt,Yal (by omega)];exact Z5.ext (hr i hlt (by omega)) hS qK hX;have bI:i<xs.length+ys.length:=by simpa using hi
  rw [Yar (by omega),Yar (by omega)];have:=Z5.ext (hd (i - xs.length) (by omega) (by omega)).1 hS qK hX;simpa [hl] using this;rw [List.flatten_append];simpa using im
 cases p with
 | none=>
   have kC:ys.length=0:=by
    cases ce:ys with
    | nil=>rfl
    | cons y r=>
      obtain ⟨b,o,cs,hp,_⟩:=qJ 0 (by simp [ce]);simp at hp
   have gX:c=0:=sH rfl;subst gX;have dp:dss=[]:=Yau (by omega);subst dp;have aJ:=run_append_owned_none (P:=P) w base t ty T i (Z5.k α) ht.h hi v xs.length css.flatten ho;refine Zv (v:=v) (w':=w) (λa ha=>?_) (fin v w (by simpa [kC] using ho) (Stp.refl _ _) (λb hb=>.inl hb));rw [kC] at hy;simp [execOp,resolve,invoke,builtin,ha.ev hx,ha.ev hy,aJ]
 | some a=>
   have cA:∀ j u,dss.flatten[j]?=some u->w.cell? (a.add j)=some u:=by
    intro j u hj;have dI:j<dss.flatten.length:=(Xt.1 hj).1;rw [iX dss mS] at dI;have hq:j / Z5.k α<dss.length:=(Nat.div_lt_iff_lt_mul aZ).2 dI;obtain ⟨h1,b,o,hp,am⟩:=hd (j / Z5.k α) (by omega) hq;simp only [Xl] at hp;subst hp;have sJ:j % Z5.k α<Z5.k α:=YbW _ aZ;have kD:j / Z5.k α * Z5.k α+j % Z5.k α=j:=by rw [Ybt];exact YbC j _
    have sK:dss[j / Z5.k α].length=Z5.k α:=mS _ (Xc hq);have bO:dss[j / Z5.k α][j % Z5.k α]?=some (dss[j / Z5.k α][j % Z5.k α]'(by omega)):=XC (by omega);have h2:=Z05 dss mS _ hq _ _ bO;rw [kD,hj] at h2;have h3:=am _ _ bO;rw [Addr.add_lit];rw [YaP,kD] at h3;rw [h3,h2]
   have dJ:dss.flatten.length=ys.length * Z5.k α:=by rw [iX dss mS,iW]
   obtain ⟨v',w',aJ,h2,h3,h4⟩:=run_append_own (P:=P) w base t ty T i z (Z5.k α) bytes ht.h hi fj cg bI dC aZ v xs.length css.flatten ho a ys.length c dss.flatten dJ cA aB ai hbytes aT;have ab:=Z4j (P:=P) ht.h hi fj cg bI ho dJ cA aB ai hbytes aJ;have hS:Stp (ob v) w w':=by rw [<- Zc0];exact Stp.of_grown h3
   refine Zv (v:=v') (w':=w') (λa ha=>?_) (fin v' w' h2 hS ab);simp [execOp,resolve,invoke,builtin,ha.ev hx,ha.ev hy,aJ]
end row
abbrev _root_.Go.Value.I (z:Int):Value:=.int .i64 z
abbrev _root_.Go.Value.N:Value:=.slice none 0 0
abbrev _root_.Go.Value.B (b:Bool):Value:=.bool b
abbrev aG {α:Type} [Z2 α] (x:α):Value:=.agg (Z2.enc x).toArray
theorem Stp.ow {S S':List Nat} {a b c:World} (h:Stp S a b) (k:Stp S' b c) (hs:∀ x∈S',x∈S\/a.heap.size<=x:=by intro c hc;exact .inr (by simp at hc;omega)):Stp S a c:=h.own k hs
theorem Stp.mn {S S':List Nat} {a b:World} (h:Stp S a b) (hs:∀ x∈S,x∈S':=by simp):Stp S' a b:=h.mono hs
abbrev pQ (b:Nat):Value:=.pointer (some ⟨b,0,none⟩)
class Rl (σ:Type) where
 rel:σ->World->World->Prop
 refl:∀ S w,rel S w w
 trans:∀ {S a b c},rel S a b->rel S b c->rel S a c
instance:Rl (List Nat):=⟨Stp,Stp.refl,λh k=>h.trans k⟩
section any
variable {P:Program} {ops:Array Oper} {md:Region.Mode} {σ:Type} [Rl σ] {S:σ} {Lt:Nat->Bool}
theorem ZqZ {o:Oper} {a:Act} {w} {K:Act->World->Prop} {Q:Exit->Act->World->Prop} (h:o.wp P a w K (λ_ _ _=>False)):o.wp P a w K Q:=by
 unfold Oper.wp at *;generalize (execOp a.eval o).run P w=r at *;cases r with
 | ok n w'=>
   cases n<;>simp only [Oper.upon] at h ⊢
   case enter f args=>
    refine Calls.mono h (λe w'' he=>?_);cases e with
    | returned v=>exact he
    | panicked c=>exact he.elim
    | outgrown=>obtain ⟨_,_,hf⟩:=he;exact hf.elim
   all_goals exact h
 | halt x w'=>cases x<;>simp only [Oper.upon] at h
theorem Zhi {i:Nat} {K:Act->World->Prop} {Q:Exit->Act->World->Prop} {a:Act} {w} (h:wpOp P ops (λ_ _ _=>False) i K a w):wpOp P ops Q i K a w:=by
 unfold wpOp at *;cases ho:ops[i]? with
 | none=>simp only [ho] at h ⊢;exact h
 | some o=>
   simp only [ho] at h ⊢;split;rename_i hw;simp only [hw,if_true] at h;rcases h with h|⟨_,_,_,hf⟩
   exact .inl (ZqZ h);exact hf.elim;rename_i hw;simp only [hw] at h;exact h
def Z17 (P:Program) (md:Region.Mode) (ops:Array Oper) {σ:Type} [Rl σ] (S:σ) (Lt:Nat->Bool) (Z:Act->World->Prop):Nat->Array Bool->Act->World->Prop
 | 0,listed,a,w=>Region.ready md ops listed=[]/\Z a w
 | fuel + 1, listed, a, w=>
   (Region.ready md ops listed=[]->Z a w)/\
   ∀ i∈Region.ready md ops listed,wpOp P ops (λ_ _ _=>False) i (λa' w'=>(Rl.rel S w w'\/Lt i=true)/\Z17 P md ops S Lt Z fuel (listed.setIfInBounds i true) a' w') a w
theorem JS {Z:Act->World->Prop} {Q:Exit->Act->World->Prop} (hZ:∀ a w,Z a w->Q .normal a w):∀ (fuel:Nat) (listed:Array Bool) (a:Act) (w),
 Z17 P md ops S Lt Z fuel listed a w->wpAny P md ops Q fuel listed a w
 | 0,_,_,_,h=>⟨h.1,hZ _ _ h.2⟩
 | fuel+1,_,_,_,h=>⟨λh0=>hZ _ _ (h.1 h0),λi hi=>wpOp_mono (λa' w' hk=>JS hZ fuel _ a' w' hk.2) (Zhi (h.2 i hi))⟩
def YE (P:Program) (ops:Array Oper) (R:World->World->Prop) (o:Oper) (v:Value) (a:Act) (w:World):Prop:=
 (Region.wanted o (yielded ops a.tmps)=true/\∀ w',R w w'->(execOp a.eval o).run P w'=.ok (.value v) w')\/
 (Region.wanted o (yielded ops a.tmps)=false/\v=undef)
theorem YE.same {R:World->World->Prop} {o:Oper} {v:Value} {a a':Act} {w} (hy:YE P ops R o v a w) (he:execOp a'.eval o=execOp a.eval o)
 (hw:Region.wanted o (yielded ops a'.tmps)=Region.wanted o (yielded ops a.tmps)):YE P ops R o v a' w:=by
 unfold YE at *;rw [he,hw];exact hy
theorem Z2p {Z:Act->World->Prop} {R:World->World->Prop} (eK:∀ w,R w w) (nV:∀ a b c,R a b->R b c->R a c) {i:Nat} {oi:Oper} {v:Value} (hi:ops[i]?=some oi)
 (nW:∀ j oj,ops[j]?=some oj->(∀ e∈oj.after,Region.binds md e=true->e.on≠i)->j≠i->∀ w w',(Rl.rel S w w'\/Lt j=true)->R w w')
 (gj:∀ (j:Nat) (o:Oper) cs b,ops[j]?=some o->o.op≠.select cs b) :
 ∀ (fuel : Nat) (listed : Array Bool) (a : Act) (w),
   (∀ j oj,ops[j]?=some oj->j≠i->listed.getD j true=false->(∀ e∈oj.after,Region.binds md e=true->e.on≠i)->oi.apart ops oj=true)->
   (Rl.rel S w w\/Lt i=true->True)->i∈Region.ready md ops listed->YE P ops R oi v a w->
   Z17 P md ops S Lt Z fuel (listed.setIfInBounds i true) (a.put oi.dst v) w->Z17 P md ops S Lt Z (fuel+1) listed a w:=by
 have now:∀ (fuel:Nat) (listed:Array Bool) (a:Act) (w:World),YE P ops R oi v a w->Z17 P md ops S Lt Z fuel (listed.setIfInBounds i true) (a.put oi.dst v) w->
  wpOp P ops (λ_ _ _=>False) i (λa' w'=>(Rl.rel S w w'\/Lt i=true)/\Z17 P md ops S Lt Z fuel (listed.setIfInBounds i true) a' w') a w:=by
  intro fuel listed a w hy H;unfold wpOp;simp only [hi];rcases hy with ⟨hw,hv⟩|⟨hw,rfl⟩
  simp only [hw,if_true,Oper.wp,hv w (eK w),Oper.upon];exact .inl ⟨.inl (Rl.refl _ _),H⟩;simp only [hw,YaK,if_false];exact ⟨.inl (Rl.refl _ _),H⟩
 intro fuel
 induction fuel with
 | zero=>
   intro listed a w _ _ hr hy H;refine ⟨λh=>(by rw [h] at hr;cases hr),λj hj=>?_⟩;by_cases cr:j=i;subst cr;exact now _ _ _ _ hy H;have:=ready_mono hj cr;rw [H.1] at this;cases this
 | succ fuel ih=>
   intro listed a w d8 hx hr hy H;refine ⟨λh=>(by rw [h] at hr;cases hr),λj hj=>?_⟩;by_cases cr:j=i;subst cr;exact now _ _ _ _ hy H;have h1:=H.2 j (ready_mono hj cr);obtain ⟨gk,oj,io,aD⟩:=mem_ready.1 hj;have eM:∀ e∈oj.after,Region.binds md e=true->e.on≠i:=λe he hb bD=>by
    have h1:=aD e he hb;have h0:=(mem_ready.1 hr).1;rw [bD] at h1;rcases YbG i listed.size with h'|h'
    simp [h'] at h0 h1;rw [h0] at h1;cases h1;simp [Ya7 h'] at h1
   have hap:=d8 j oj io cr gk eM;obtain ⟨p1,p2,p3⟩:=Oper.apart_spec hap;have keep:∀ (a:Act),YE P ops R oi v a w->∀ u,YE P ops R oi v (a.put oj.dst u) w:=λa hy u=>
    hy.same (execOp_put oi (λcs b=>gj i oi cs b hi) a oj.dst u p3) (wanted_put oi a oj.dst u p3)
   have keepD:∀ (a:Act) d,YE P ops R oi v a w->YE P ops R oi v { a with defers:=d :: a.defers } w:=λa d hy=>hy.same rfl rfl;have later:∀ (a:Act) w',(Rl.rel S w w'\/Lt j=true)->YE P ops R oi v a w->YE P ops R oi v a w':=λa w' hs hy=>by
    rcases hy with ⟨hw,hv⟩|hw
    exact .inl ⟨hw,λw'' h''=>hv w'' (nV _ _ _ (nW j oj io eM cr w w' hs) h'')⟩;exact .inr hw
   have eN:∀ k ok,ops[k]?=some ok->k≠i->(listed.setIfInBounds j true).getD k true=false->
    (∀ e∈ok.after,Region.binds md e=true->e.on≠i)->oi.apart ops ok=true:=λk ok hk jB lc aY=>by
    refine d8 k ok hk jB ?_ aY;by_cases iY:j=k;subst iY;exact gk;rw [getD_set_ne true iY] at lc;exact lc
   have fin:∀ a' w',YE P ops R oi v a' w->(Rl.rel S w w'\/Lt j=true)/\Z17 P md ops S Lt Z fuel ((listed.setIfInBounds i true).setIfInBounds j true) (a'.put oi.dst v) w'->
    (Rl.rel S w w'\/Lt j=true)/\Z17 P md ops S Lt Z (fuel+1) (listed.setIfInBounds j true) a' w':=by
    rintro a' w' ip ⟨hs,hk⟩;refine ⟨hs,ih _ a' w' eN (λ_=>trivial) (ready_mono hr (Ne.symm cr)) (later a' w' hs ip) ?_⟩;rw [Array.setIfInBounds_comm _ _ cr];exact hk
   have nX:∀ cs b,oj.op≠.select cs b:=λcs b=>gj j oj cs b io;unfold wpOp at *;simp only [io] at *;rw [wanted_put oj a oi.dst v p1] at h1;split
   . rename_i hw
     simp only [hw,if_true] at h1;rcases h1 with h1|⟨_,_,_,hf⟩
     case inr=>exact hf.elim
     refine .inl ?_;unfold Oper.wp at *;rw [execOp_put oj nX a oi.dst v p1] at h1;generalize (execOp a.eval oj).run P w=r at *;cases r with
     | ok n w'=>
       cases n<;>simp only [Oper.upon] at h1 ⊢
       case value u=>exact fin _ _ (keep a hy u) (by rw [<- Act.put_comm a v u p2];exact h1)
       case skip=>exact fin _ _ (keep a hy _) (by rw [<- Act.put_comm a v undef p2];exact h1)
       case defer d=>
        refine fin _ _ (keep _ (keepD a d hy) _) ?_;rw [<- Act.put_comm _ v undef p2,<- Act.put_defers];exact h1
       case enter f args=>
        refine Calls.mono h1 λe w'' he=>?_;cases e with
        | returned u=>exact fin _ _ (keep a hy u) (by rw [<- Act.put_comm a v u p2];exact he)
        | panicked c=>exact he
        | outgrown=>exact he
       case row row args=>exact Rows.mono h1 λu w'' he=>fin _ _ (keep a hy u) (by rw [<- Act.put_comm a v u p2];exact he)
     | halt x w'=>
       cases x<;>simp only [Oper.upon] at h1
   rename_i hw;simp only [hw] at h1;exact fin _ _ (keep a hy _) (by rw [<- Act.put_comm a v undef p2];exact h1)
end any
def Za5 (ops:Array Oper) (Lt:List Nat) (i:Nat):Bool:=
 Lt.all λj=>j == i || (match ops[j]? with|some oj=>oj.after.any (λe=>Region.binds .any e && e.on == i)|none=>true)
def bits (m:Nat):List Nat:=(List.range 64).filter (λj=>m.testBit j)
def Z7M:List Nat->List (List Nat)
 | []=>[[]]
 | x :: r=>Z7M r++(Z7M r).map (x :: ·)
def lst (listed:Array Bool) (is rem:List Nat):Array Bool:=Array.ofFn (n:=listed.size) λj=>listed[j] || (is.contains j.val && !rem.contains j.val)
def wt:List (Nat×Nat)->Nat
 | []=>0
 | (_,k) :: r=>(if k<100000 then 1 else (bits (k - 100000)).length)+wt r
theorem Jj {i k:Nat} {r:List (Nat×Nat)} (h:k<100000):wt ((i,k) :: r)=wt r+1:=by simp [wt,h];omega
def ZP (ops:Array Oper) (Lt:List Nat):List (Nat×Nat)->Option Nat->Array Bool->Bool
 | [],sk,listed=>sk.isNone && (Region.ready .any ops listed).isEmpty
 | (i,0) :: r,sk,listed=>(Region.ready .any ops listed).contains i && Region.free .any ops listed i && ZP ops Lt r sk (listed.setIfInBounds i true)
 | (i,1) :: r,sk,listed=>(Region.ready .any ops listed).contains i && Region.free .any ops listed i && Za5 ops Lt i && ZP ops Lt r sk (listed.setIfInBounds i true)
 | (i,2) :: r,sk,listed=>if sk=some i then ZP ops Lt r none listed else Region.ready .any ops listed == [i] && ZP ops Lt r sk (listed.setIfInBounds i true)
 | (i, q + 3) :: r, sk, listed => if sk = some q /\ q + 3 < 100000 then (Region.ready .any ops listed == [i] && ZP ops Lt r sk (listed.setIfInBounds i true)) else sk.isNone && if q + 3 < 100000 then (Region.ready .any ops listed == [i, q] && ZP ops Lt r none (listed.setIfInBounds i true) && Region.ready .any ops (listed.setIfInBounds q true) == [i] && ZP ops Lt r (some q) ((listed.setIfInBounds q true).setIfInBounds i true))
   else (Z7M (bits (q+3 - 100000))).all (λrem=>rem.isEmpty || Region.ready .any ops (lst listed (bits (q+3 - 100000)) rem) == rem) && ZP ops Lt r none (lst listed (bits (q+3 - 100000)) [])
def ZX (ops:Array Oper) (Lt:List Nat) (ord:List (Nat×Nat)) (listed:Array Bool):Bool:=ZP ops Lt ord none listed
def Z3N (q:Nat):List (Nat×Nat)->List (Nat×Nat)
 | []=>[]
 | (i,2) :: r=>if i=q then r else (i,2) :: Z3N q r
 | (i,0) :: r=>(i,0) :: Z3N q r
 | (i,1) :: r=>(i,1) :: Z3N q r
 | (i,k+3) :: r=>if k=q/\k+3<100000 then (i,2) :: Z3N q r else (i,k+3) :: Z3N q r
theorem Z1s {ops:Array Oper} {Lt:List Nat} {q:Nat}:∀ (r:List (Nat×Nat)) (listed:Array Bool),ZP ops Lt r (some q) listed=true->ZP ops Lt (Z3N q r) none listed=true/\wt r=wt (Z3N q r)+1
 | [],listed,h=>by simp [ZP] at h
 | (i, 0) :: r, listed, h => by
   simp only [ZP,Xd] at h;obtain ⟨h1,h2⟩:=Z1s r _ h.2;simp only [Z3N,ZP,Xd];exact ⟨⟨h.1,h1⟩,by simp [wt,h2];omega⟩
 | (i, 1) :: r, listed, h => by
   simp only [ZP,Xd] at h;obtain ⟨h1,h2⟩:=Z1s r _ h.2;simp only [Z3N,ZP,Xd];exact ⟨⟨h.1,h1⟩,by simp [wt,h2];omega⟩
 | (i, 2) :: r, listed, h => by
   by_cases e:i=q;subst e;simp only [ZP,if_pos] at h;simp only [Z3N,if_pos];exact ⟨h,by simp [wt];omega⟩;have e':¬ (some q=some i):=by simpa using λh=>e h.symm
   simp only [ZP,if_neg e',Xd] at h;obtain ⟨h1,h2⟩:=Z1s r _ h.2;simp only [Z3N,if_neg e,ZP];refine ⟨?_,by simp [wt,h2];omega⟩;rw [if_neg (by simp)];simp only [Xd];exact ⟨h.1,h1⟩
 | (i, k + 3) :: r, listed, h => by
   by_cases e:k=q/\k+3<100000;simp only [ZP] at h;rw [if_pos ⟨by rw [e.1],e.2⟩] at h;simp only [Xd] at h;obtain ⟨h1,h2⟩:=Z1s r _ h.2;simp only [Z3N,if_pos e,ZP];refine ⟨?_,by rw [Jj e.2,Jj (by decide),h2]⟩;rw [if_neg (by simp)];simp only [Xd];exact ⟨h.1,h1⟩;simp only [ZP] at h;rw [if_neg (λh'=>e ⟨(XL h'.1).symm,h'.2⟩)] at h;simp at h
structure WG (P:Program) (n:Nat) (ops:Array Oper) {σ:Type} [Rl σ] (S:σ) (Lt:List Nat) (Q:Exit->Act->World->Prop) (ord:List (Nat×Nat)) (e:Env) (w:World):Prop where
 h:∀ listed:Array Bool,Region.noSelect ops=true->ZX ops Lt ord listed=true->∀ a,Has n e a->Z17 P .any ops S (λj=>Lt.contains j) (λa w=>Q .normal a w) (wt ord) listed a w
section rules
variable {P:Program} {n:Nat} {Q:Exit->Act->World->Prop} {e:Env} {w:World} {ops:Array Oper} {σ:Type} [Rl σ] {S:σ} {Lt:List Nat} {rest:List (Nat×Nat)}
theorem Z8b {id:Nat} {l:List Oper} (m:Nat) {σ:Type} [Rl σ] (S:σ) (Lt:List Nat) (ord:List (Nat×Nat)) (bP:l.length=m) (hm:P.follows .mixedOrders=true) (hs:Region.noSelect l.toArray=true) (hl:Nat.beq (wt ord) l.length=true)
 (hB:ZX l.toArray Lt ord (Array.replicate m false)=true)
 (h:∀ w',Stp [] w w'->WG P n l.toArray S Lt Q ord e w'):WC P n (.region id l.toArray true) Q e w:=by
 subst bP;refine ⟨λa ha=>wp_region_any hm ?_⟩;have h1:=(h { w with drawn:=w.drawn+1 } (Stp.drew [] w)).h _ hs hB a ha;have h2:=JS (Q:=Q) (λa w hz=>hz) _ _ _ _ h1;rw [Xp hl] at h2;simpa using h2
theorem Z54 (h:WQ n Q .normal e w):WG P n ops S Lt Q [] e w:=
 ⟨λ_ _ hB a ha=>⟨by simpa [ZX,ZP] using hB,h.h a ha⟩⟩
def JV (ops:Array Oper) (e:Env):Option (Nat×Bool)->Prop
 | none=>True
 | some (j,b)=>yld ops e j=some (.B b)
theorem Jb {o:Oper} {a:Act} (ha:Has n e a) (hg:JV ops e o.guard):Region.wanted o (yielded ops a.tmps)=true:=by
 unfold Region.wanted;cases kE:o.guard with
 | none=>rfl
 | some jb=>
   obtain ⟨j,b⟩:=jb;rw [kE] at hg;simp [Z6y ha hg]
theorem Za6 {i d:Nat} {o:Oper} {v:Value} (hi:ops[i]?=some o) (hd:o.dst=some d) (hY:∀ a,Has n e a->YE P ops (λ_ _=>True) o v a w) (aw:Nat.blt d n=true)
 (k:WG P n ops S Lt Q rest ((d,v) :: e) w):WG P n ops S Lt Q ((i,0) :: rest) e w:=by
 refine ⟨λlisted hs hB a ha=>?_⟩;simp only [ZX,ZP,Xd] at hB;obtain ⟨⟨h1,h2⟩,h3⟩:=hB;have hk:=k.h _ hs h3 _ (ha.put (v:=v) aw);rw [<- hd] at hk;rw [Jj (by decide)];exact Z2p (R:=λ_ _=>True) (λ_=>trivial) (λ_ _ _ _ _=>trivial) hi (λ_ _ _ _ _ _ _ _=>trivial) (Region.noSelect_spec hs) _ _ _ _ (Region.free_spec hi h2) (λ_=>trivial) (by simpa using h1) (hY a ha) hk
theorem Z44 {i j:Nat} {oj:Oper} (hb:Za5 ops Lt i=true) (hj:ops[j]?=some oj) (hn:∀ e∈oj.after,Region.binds .any e=true->e.on≠i) (cr:j≠i):Lt.contains j=false:=by
 cases hc:Lt.contains j with
 | false=>rfl
 | true=>
   have hm:j∈Lt:=by simpa using hc
   have:=(Xx.1 hb) j hm;simp only [hj,YaZ,beq_iff_eq,cr,false_or] at this;obtain ⟨e,he,nY⟩:=Array.any_eq_true'.1 this;simp only [Xd,beq_iff_eq] at nY;exact absurd nY.2 (hn e he nY.1)
theorem Za7 {i d:Nat} {o:Oper} {v:Value} (hi:ops[i]?=some o) (hd:o.dst=some d) (hY:∀ a,Has n e a->YE P ops (Rl.rel S) o v a w) (aw:Nat.blt d n=true)
 (k:WG P n ops S Lt Q rest ((d,v) :: e) w):WG P n ops S Lt Q ((i,1) :: rest) e w:=by
 refine ⟨λlisted hs hB a ha=>?_⟩;simp only [ZX,ZP,Xd] at hB;obtain ⟨⟨⟨h1,h2⟩,hb⟩,h3⟩:=hB;have hk:=k.h _ hs h3 _ (ha.put (v:=v) aw);rw [<- hd] at hk;rw [Jj (by decide)];refine Z2p (R:=Rl.rel S) (λw=>Rl.refl _ w) (λ_ _ _ h k=>Rl.trans h k) hi (λj oj hj hn cr w w' hs=>?_) (Region.noSelect_spec hs) _ _ _ _ (Region.free_spec hi h2) (λ_=>trivial) (by simpa using h1) (hY a ha) hk;rcases hs with hs|hs
 exact hs;rw [Z44 hb hj hn cr] at hs;cases hs
variable {i d:Nat} {op:Op} {ty:TypeId} {pos:String} {af:Array Edge} {gd:Option (Nat×Bool)} {v:Value}
theorem Jn (hi:ops[i]?=some ⟨some d,op,ty,pos,af,gd⟩) (hg:JV ops e gd) (hp:∀ w',PR P n ⟨some d,op,ty,pos,af,gd⟩ e w' v) (aw:Nat.blt d n=true)
 (k:WG P n ops S Lt Q rest ((d,v) :: e) w):WG P n ops S Lt Q ((i,0) :: rest) e w:=
 Za6 hi rfl (λa ha=>.inl ⟨Jb ha hg,λw' _=>(hp w').h a ha⟩) aw k
theorem ZdM (hi:ops[i]?=some ⟨some d,op,ty,pos,af,gd⟩) (hg:JV ops e gd) (hp:∀ w',Rl.rel S w w'->PR P n ⟨some d,op,ty,pos,af,gd⟩ e w' v) (aw:Nat.blt d n=true)
 (k:WG P n ops S Lt Q rest ((d,v) :: e) w):WG P n ops S Lt Q ((i,1) :: rest) e w:=
 Za7 hi rfl (λa ha=>.inl ⟨Jb ha hg,λw' hw=>(hp w' hw).h a ha⟩) aw k
theorem Za8 (hi:ops[i]?=some ⟨some d,op,ty,pos,af,gd⟩) (hg:noB ops e gd=true) (aw:Nat.blt d n=true)
 (k:WG P n ops S Lt Q rest ((d,undef) :: e) w):WG P n ops S Lt Q ((i,0) :: rest) e w:=
 Za6 hi rfl (λa ha=>.inr ⟨Z1q ha hg,rfl⟩) aw k
theorem Za9 (hi:ops[i]?=some ⟨some d,op,ty,pos,af,gd⟩) (hg:noB ops e gd=true) (aw:Nat.blt d n=true)
 (k:WG P n ops S Lt Q rest ((d,undef) :: e) w):WG P n ops S Lt Q ((i,1) :: rest) e w:=
 Za7 hi rfl (λa ha=>.inr ⟨Z1q ha hg,rfl⟩) aw k
structure WG1 (P:Program) (n:Nat) (ops:Array Oper) {σ:Type} [Rl σ] (S:σ) (Lt:List Nat) (Q:Exit->Act->World->Prop) (i:Nat) (ord:List (Nat×Nat)) (e:Env) (w:World):Prop where
 h : ∀ listed : Array Bool, Region.noSelect ops = true -> ZX ops Lt ord (listed.setIfInBounds i true) = true -> ∀ a, Has n e a->
   wpOp P ops (λ_ _ _=>False) i (λa' w'=>(Rl.rel S w w'\/Lt.contains i=true)/\Z17 P .any ops S (λj=>Lt.contains j) (λa w=>Q .normal a w) (wt ord) (listed.setIfInBounds i true) a' w') a w
theorem Zhj {o:Oper} {dst:Option Nat} {G:Value->World->Prop} (hi:ops[i]?=some o) (eO:o.dst=dst) (hg:JV ops e o.guard) (hp:OE P n o e w (λv w'=>(Rl.rel S w w'\/Lt.contains i=true)/\G v w'))
 (k:∀ v w' a',G v w'->∀ a,Has n e a->a'=a.put dst v->∃ e',Has n e' a'/\WG P n ops S Lt Q rest e' w'):WG1 P n ops S Lt Q i rest e w:=by
 refine ⟨λlisted hs h3 a ha=>?_⟩;unfold wpOp;simp only [hi];rw [if_pos (Jb ha hg)];refine .inl (Oper.wp_mono ?_ (hp.h a ha _));rintro a' w' ⟨v,rfl,cu,hG⟩;obtain ⟨e',gt,hk⟩:=k v w' (a.put o.dst v) hG a ha (by rw [eO]);exact ⟨cu,hk.h _ hs h3 _ gt⟩
theorem Zhk (h:WG1 P n ops S Lt Q i rest e w):WG P n ops S Lt Q ((i,2) :: rest) e w:=by
 refine ⟨λlisted hs hB a ha=>?_⟩;simp only [ZX,ZP] at hB;rw [if_neg (by simp)] at hB;simp only [Xd,beq_iff_eq] at hB;obtain ⟨h1,h3⟩:=hB;rw [Jj (by decide)];refine ⟨λh0=>absurd (h1 ▸ h0) (by simp),λj hj=>?_⟩;rw [h1] at hj;obtain rfl:j=i:=by simpa using hj
 exact h.h _ hs h3 a ha
theorem Z91 {q:Nat} (hq:Nat.blt (q+3) 100000=true) (h1:WG1 P n ops S Lt Q i rest e w) (h2:WG1 P n ops S Lt Q q ((i,2) :: Z3N q rest) e w):WG P n ops S Lt Q ((i,q+3) :: rest) e w:=by
 refine ⟨λlisted hs hB a ha=>?_⟩;have eP:q+3<100000:=Xg hq;simp only [ZX,ZP] at hB;rw [if_neg (by simp),if_pos eP] at hB;simp only [Xd,beq_iff_eq] at hB;obtain ⟨_,⟨⟨hr,eA⟩,cw⟩,h3⟩:=hB;obtain ⟨h4,h5⟩:=Z1s _ _ h3;have hw:wt ((i,q+3) :: rest)=wt rest+1:=Jj eP;rw [hw];refine ⟨λh0=>absurd (hr ▸ h0) (by simp),λj hj=>?_⟩;rw [hr] at hj;have c2:ZX ops Lt ((i,2) :: Z3N q rest) (listed.setIfInBounds q true)=true:=by
  simp only [ZX,ZP];rw [if_neg (by simp)];simp only [Xd,beq_iff_eq];exact ⟨cw,h4⟩
 have jC:wt rest=wt ((i,2) :: Z3N q rest):=by rw [Jj (by decide),h5]
 have eB:j=i\/j=q:=by simpa using hj
 rcases eB with rfl|rfl
 exact h1.h _ hs eA a ha;rw [jC];exact h2.h _ hs c2 a ha
theorem Z0W:∀ {is rem:List Nat},rem.Sublist is->rem∈Z7M is
 | [],rem,h=>by simp at h;simp [Z7M,h]
 | x :: r, rem, h => by
   simp only [Z7M,Xe,Xw];cases h with
   | cons _ h=>exact .inl (Z0W h)
   | cons_cons _ h=>exact .inr ⟨_,Z0W h,rfl⟩
theorem ZdN (listed:Array Bool) (is:List Nat):lst listed is is=listed:=by
 apply Array.ext;simp [lst];intro j h1 h2;simp only [lst,YbI];cases is.contains j<;>simp
theorem Z6A {listed:Array Bool} {is rem:List Nat} {j:Nat} (hn:rem.Nodup) (hr:rem.Sublist is) (hj:j∈rem):(lst listed is rem).setIfInBounds j true=lst listed is (rem.erase j):=by
 apply Array.ext;simp [lst];intro m h1 h2;have hm:m<listed.size:=by simpa [lst] using h2
 rw [Yba];simp only [lst,YbI];by_cases e:j=m;subst e;have h3:is.contains j=true:=by simpa using hr.subset hj
 have h4:(rem.erase j).contains j=false:=by
  have:=hn.not_mem_erase (a:=j);simpa using this
 simp only [h3,h4,if_true,Bool.not_false,Bool.and_true,Bool.or_true];rw [if_neg e];have:(rem.erase j).contains m=rem.contains m:=by
  rw [Ybn];simp only [List.contains_iff_mem];exact List.mem_erase_of_ne (λh=>e h.symm)
 rw [this];simpa [lst] using hm
theorem Zr0 {q:Nat} (is:List Nat) (J:List Nat->World->Prop) (hq:Nat.ble 100000 (q+3)=true) (fH:bits (q+3 - 100000)=is) (dT:is.Nodup) (h0:J is w)
 (step:∀ rem j w',rem.Sublist is->j∈rem->J rem w'->∃ o,ops[j]?=some o/\o.dst=none/\JV ops e o.guard/\OE P n o e w' (λ_ w''=>(Rl.rel S w' w''\/Lt.contains j=true)/\J (rem.erase j) w''))
 (fin:∀ w',J [] w'->WG P n ops S Lt Q rest e w'):WG P n ops S Lt Q ((i,q+3) :: rest) e w:=by
 refine ⟨λlisted hs hB a ha=>?_⟩;have eP:¬ q+3<100000:=Ya0.2 (Xg hq);have hw:wt ((i,q+3) :: rest)=is.length+wt rest:=by simp only [wt];rw [if_neg eP,fH]
 rw [hw];simp only [ZX,ZP] at hB;rw [if_neg (by simp),if_neg eP,fH] at hB;simp only [Xd] at hB;obtain ⟨_,aD,ld⟩:=hB;have hready:∀ rem:List Nat,rem.Sublist is->0<rem.length->Region.ready .any ops (lst listed is rem)=rem:=λrem hr h0=>by
  have:=Xx.1 aD rem (Z0W hr);cases rem with
  | nil=>simp at h0
  | cons x r=>simpa using this
 have key:∀ (k:Nat) (rem:List Nat),rem.length=k->rem.Sublist is->∀ w' a,Has n e a->J rem w'->Z17 P .any ops S (λj=>Lt.contains j) (λa w=>Q .normal a w) (k+wt rest) (lst listed is rem) a w':=by
  intro k
  induction k with
  | zero=>
    intro rem hl hr w' a ha hJ;obtain rfl:=XQ.1 hl;rw [XK];exact (fin w' hJ).h _ hs ld a ha
  | succ k ih=>
    intro rem hl hr w' a ha hJ;rw [show k+1+wt rest=(k+wt rest)+1 by omega];refine ⟨λh=>?_,λj hj=>?_⟩;rw [hready rem hr (by omega)] at h;subst h;simp at hl;rw [hready rem hr (by omega)] at hj;obtain ⟨o,hi,eO,hg,hp⟩:=step rem j w' hr hj hJ;unfold wpOp;simp only [hi];rw [if_pos (Jb ha hg)];refine .inl (Oper.wp_mono ?_ (hp.h a ha _));rintro a' w'' ⟨v,rfl,cu,iq⟩;refine ⟨cu,?_⟩;rw [Z6A (hr.nodup dT) hr hj,eO];exact ih _ (by rw [Ybk hj];omega) (YbJ.trans hr) w'' _ ha iq
 have:=key is.length is rfl (List.Sublist.refl _) w a ha h0
 rwa [ZdN] at this
theorem Z6h {o:Oper} {dst:Option Nat} {G:Value->World->Prop} (hi:ops[i]?=some o) (eO:o.dst=dst) (hg:JV ops e o.guard) (hp:OE P n o e w (λv w'=>(Rl.rel S w w'\/Lt.contains i=true)/\G v w'))
 (k:∀ v w' a',G v w'->∀ a,Has n e a->a'=a.put dst v->∃ e',Has n e' a'/\WG P n ops S Lt Q rest e' w'):WG P n ops S Lt Q ((i,2) :: rest) e w:=
 Zhk (Zhj hi eO hg hp k)
theorem Zaa (hi:ops[i]?=some ⟨some d,op,ty,pos,af,gd⟩) (hg:noB ops e gd=true) (aw:Nat.blt d n=true)
 (k:WG P n ops S Lt Q rest ((d,undef) :: e) w):WG P n ops S Lt Q ((i,2) :: rest) e w:=by
 refine Zhk ⟨λlisted hs h3 a ha=>?_⟩;unfold wpOp;simp only [hi];have hw:=Z1q (o:=⟨some d,op,ty,pos,af,gd⟩) ha hg;rw [if_neg (by simp [hw])];exact ⟨.inl (Rl.refl _ _),k.h _ hs h3 _ (ha.put (v:=undef) aw)⟩
theorem Z0O {G:Value->World->Prop} (hi:ops[i]?=some ⟨some d,op,ty,pos,af,gd⟩) (hg:JV ops e gd) (hp:OE P n ⟨some d,op,ty,pos,af,gd⟩ e w G) (hG:∀ v w',G v w'->Rl.rel S w w') (aw:Nat.blt d n=true)
 (k:∀ v w',G v w'->WG P n ops S Lt Q rest ((d,v) :: e) w'):WG1 P n ops S Lt Q i rest e w:=
 Zhj (G:=G) hi rfl hg (hp.mono λv w' h=>⟨.inl (hG v w' h),h⟩) (λv w' a' h a ha e=>⟨_,by rw [e];exact ha.put aw,k v w' h⟩)
theorem Z9 {G:Value->World->Prop} (hi:ops[i]?=some ⟨some d,op,ty,pos,af,gd⟩) (hg:JV ops e gd) (hp:OE P n ⟨some d,op,ty,pos,af,gd⟩ e w G) (hG:∀ v w',G v w'->Rl.rel S w w') (aw:Nat.blt d n=true)
 (k:∀ v w',G v w'->WG P n ops S Lt Q rest ((d,v) :: e) w'):WG P n ops S Lt Q ((i,2) :: rest) e w:=
 Z6h (G:=G) hi rfl hg (hp.mono λv w' h=>⟨.inl (hG v w' h),h⟩) (λv w' a' h a ha e=>⟨_,by rw [e];exact ha.put aw,k v w' h⟩)
theorem Z1O {G:Value->World->Prop} (hi:ops[i]?=some ⟨none,op,ty,pos,af,gd⟩) (hg:JV ops e gd) (hp:OE P n ⟨none,op,ty,pos,af,gd⟩ e w G) (hG:∀ v w',G v w'->Rl.rel S w w')
 (k:∀ v w',G v w'->WG P n ops S Lt Q rest e w'):WG P n ops S Lt Q ((i,2) :: rest) e w:=
 Z6h (G:=G) hi rfl hg (hp.mono λv w' h=>⟨.inl (hG v w' h),h⟩) (λv w' a' h a ha e=>⟨_,by rw [e];exact ha,k v w' h⟩)
theorem ZdO {G:Value->World->Prop} (hi:ops[i]?=some ⟨some d,op,ty,pos,af,gd⟩) (hg:JV ops e gd) (hp:OE P n ⟨some d,op,ty,pos,af,gd⟩ e w G) (hL:Lt.contains i=true) (aw:Nat.blt d n=true)
 (k:∀ v w',G v w'->WG P n ops S Lt Q rest ((d,v) :: e) w'):WG P n ops S Lt Q ((i,2) :: rest) e w:=
 Z6h (G:=G) hi rfl hg (hp.mono λv w' h=>⟨.inr hL,h⟩) (λv w' a' h a ha e=>⟨_,by rw [e];exact ha.put aw,k v w' h⟩)
theorem Je {G:Value->World->Prop} (hi:ops[i]?=some ⟨none,op,ty,pos,af,gd⟩) (hg:JV ops e gd) (hp:OE P n ⟨none,op,ty,pos,af,gd⟩ e w G) (hL:Lt.contains i=true)
 (k:∀ v w',G v w'->WG P n ops S Lt Q rest e w'):WG P n ops S Lt Q ((i,2) :: rest) e w:=
 Z6h (G:=G) hi rfl hg (hp.mono λv w' h=>⟨.inr hL,h⟩) (λv w' a' h a ha e=>⟨_,by rw [e];exact ha,k v w' h⟩)
theorem Zhl {ord:List (Nat×Nat)} {j:Nat} {p:Prop} [Decidable p] (hy:look e j=some (.B (decide p)))
 (ht:p->WG P n ops S Lt Q ord ((j,.B true) :: e) w) (hf:¬ p->WG P n ops S Lt Q ord ((j,.B false) :: e) w):WG P n ops S Lt Q ord e w:=by
 refine ⟨λlisted hs hB a ha=>?_⟩;by_cases hp:p;exact (ht hp).h _ hs hB a (ha.same hy (by simp [hp]));exact (hf hp).h _ hs hB a (ha.same hy (by simp [hp]))
theorem Zb {i q j d:Nat} {b:Bool} {o:Oper} {p:Prop} [Decidable p] (hi:ops[i]?=some o) (hg:o.guard=some (j,b)) (hj:ZdH ops j=some d) (hy:look e d=some (.B (decide p)))
 (ht:p->WG P n ops S Lt Q ((i,q) :: rest) ((d,.B true) :: e) w) (hf:¬ p->WG P n ops S Lt Q ((i,q) :: rest) ((d,.B false) :: e) w):WG P n ops S Lt Q ((i,q) :: rest) e w:=
 Zhl hy ht hf
theorem Z7 {i q j d:Nat} {b:Bool} {o:Oper} {t:Bool} (hi:ops[i]?=some o) (hg:o.guard=some (j,b)) (hj:ZdH ops j=some d) (hy:look e d=some (.B t))
 (ht:t=true->WG P n ops S Lt Q ((i,q) :: rest) ((d,.B true) :: e) w) (hf:t=false->WG P n ops S Lt Q ((i,q) :: rest) ((d,.B false) :: e) w):WG P n ops S Lt Q ((i,q) :: rest) e w:=by
 refine ⟨λlisted hs hB a ha=>?_⟩;cases t;exact (hf rfl).h _ hs hB a (ha.same hy rfl);exact (ht rfl).h _ hs hB a (ha.same hy rfl)
end rules
abbrev Z45 (P:Program) (md:Region.Mode) (ops:Array Oper) (S:List Nat) (Lt:Nat->Bool) (Z:Act->World->Prop):Nat->Array Bool->Act->World->Prop:=Z17 P md ops S Lt Z
abbrev WD (P:Program) (n:Nat) (ops:Array Oper) (S:List Nat) (Lt:List Nat) (Q:Exit->Act->World->Prop) (ord:List (Nat×Nat)) (e:Env) (w:World):Prop:=WG P n ops S Lt Q ord e w
abbrev WD1 (P:Program) (n:Nat) (ops:Array Oper) (S:List Nat) (Lt:List Nat) (Q:Exit->Act->World->Prop) (i:Nat) (ord:List (Nat×Nat)) (e:Env) (w:World):Prop:=WG1 P n ops S Lt Q i ord e w
section
variable {P:Program} {n:Nat} {Q:Exit->Act->World->Prop} {e:Env} {w:World} {ops:Array Oper} {Lt:List Nat} {rest:List (Nat×Nat)} {i d:Nat} {op:Op} {ty:TypeId} {pos:String} {af:Array Edge} {gd:Option (Nat×Bool)} {v:Value}
theorem WC_drawn {id:Nat} {l:List Oper} (m:Nat) (S:List Nat) (Lt:List Nat) (ord:List (Nat×Nat)) (bP:l.length=m) (hm:P.follows .mixedOrders=true) (hs:Region.noSelect l.toArray=true) (hl:Nat.beq (wt ord) l.length=true)
 (hB:ZX l.toArray Lt ord (Array.replicate m false)=true)
 (h:∀ w',Stp [] w w'->WD P n l.toArray S Lt Q ord e w'):WC P n (.region id l.toArray true) Q e w:=Z8b m S Lt ord bP hm hs hl hB h
theorem WD_read {S:List Nat} (hi:ops[i]?=some ⟨some d,op,ty,pos,af,gd⟩) (hg:JV ops e gd) (hp:∀ w',Stp S w w'->PR P n ⟨some d,op,ty,pos,af,gd⟩ e w' v) (aw:Nat.blt d n=true)
 (k:WD P n ops S Lt Q rest ((d,v) :: e) w):WD P n ops S Lt Q ((i,1) :: rest) e w:=ZdM hi hg hp aw k
end
theorem ZDr {P:Program} {n:Nat} {Q:Exit->Act->World->Prop} {e:Env} {w} {id:Nat} {l:List Oper} (m:Nat) (S:List Nat) (Lt:List Nat) (ord:List (Nat×Nat)) (h:∀ w',Stp [] w w'->WD P n l.toArray S Lt Q ord e w') (bP:l.length=m:=by exact rfl) (hm:P.follows .mixedOrders=true:=by kernel_rfl) (hs:Region.noSelect l.toArray=true:=by kernel_rfl) (hl:Nat.beq (wt ord) l.length=true:=by kernel_rfl)
 (hB:ZX l.toArray Lt ord (Array.replicate m false)=true:=by kernel_rfl):WC P n (.region id l.toArray true) Q e w:=WC_drawn m S Lt ord bP hm hs hl hB h
theorem Z0q {k:Nat}:∀ (l:List (List Value)),(∀ c∈l,c.length=k)->l.flatten.length=l.length * k
 | [],_=>by simp
 | c :: r, h => by
   simp only [Yay,Xb,Xf,Yam];rw [Z0q r (λc hc=>h c (by simp [hc])),h c (by simp)];omega
theorem Z0X {k:Nat}:∀ (css:List (List Value)),(∀ c∈css,c.length=k)->∀ (i:Nat),i<css.length->∀ (cs:List Value),
 (css.set i cs).flatten=css.flatten.take (i * k)++cs++css.flatten.drop (i * k+k)
 | [],_,i,hi,_=>absurd hi (Xy _)
 | c :: r, hk, 0, _, cs => by
   have hc:=hk c (by simp);simp [hc]
 | c :: r, hk, i + 1, hi, cs => by
   have hc:=hk c (by simp);have ih:=Z0X r (λc hc=>hk c (by simp [hc])) i (by simpa using hi) cs;simp only [List.set_cons_succ,Yay,ih,Yam];rw [YaQ,List.drop_append,hc];rw [XR (l:=c) (by omega),show c.drop (i * k+k+k)=[] from Ya8 (by omega)];rw [show i * k+k - k=i * k by omega,show i * k+k+k - k=i * k+k by omega];simp [XI]
theorem Z2q {k:Nat}:∀ (css:List (List Value)),(∀ c∈css,c.length=k)->∀ (i:Nat) (hi:i<css.length) (j:Nat) (hj:j<k) (u:Value),
 (css.set i (css[i].set j u)).flatten=css.flatten.set (i * k+j) u
 | [],_,i,hi,_,_,_=>absurd hi (Xy _)
 | c :: r, hk, 0, _, j, hj, u => by
   have hc:=hk c (by simp);simp [hc,hj]
 | c :: r, hk, i + 1, hi, j, hj, u => by
   have hc:=hk c (by simp);have ih:=Z2q r (λc hc=>hk c (by simp [hc])) i (by simpa using hi) j hj u;simp only [List.set_cons_succ,Yay,List.getElem_cons_succ,ih,Yam];rw [YbX,if_neg (by omega),hc];rw [show i * k+k+j - k=i * k+j by omega]
section row
variable {α:Type} [Z5 α] {X:List Nat} {w w':World} {base T:Nat} {v:Value} {xs:List α}
variable {P:Program} {n:Nat} {e:Env} {d:Option Nat} {ty:TypeId} {pos:String} {af:Array Edge} {g:Option (Nat×Bool)}
theorem Row.isSome (h:Row X w base T v xs) {i:Nat} (hi:i<xs.length):∃ q l c,v=.slice (some ⟨q,0,none⟩) l c:=by
 obtain ⟨css,hl,hr,ho⟩:=h;rcases ho.2 with ⟨rfl,hn⟩|⟨q,cap,cur,rfl,hb,hg,bN,bC,aV,ht⟩
 omega;exact ⟨_,_,_,rfl⟩
theorem Z6B {i k:Nat} {t:TypeId} {x y:Operand} {u:Value} {y':α} [br:Siz P t k] (hx:ev e x=some (.pointer (some (ZB v i k 0)))) (hy:ev e y=some u) (hk:k=Z5.k α)
 (bB:Z5.rep (ob v++X) w y' u.cells.toList) (ac:Row X w base T v xs) (hX:∀ b∈X,b<base) (hi:i<xs.length) :
 OE P n ⟨d,.store t x y,ty,pos,af,g⟩ e w (λ_ w'=>Row X w' base T v (xs.set i y')/\Stp (ob v) w w'):=by
 have dD:=ac;obtain ⟨css,hl,hr,ho⟩:=ac;have ai:∀ c∈css,c.length=Z5.k α:=by
  intro c hc;obtain ⟨q,hq,rfl⟩:=Xv hc;exact Z5.len (hr q (by omega) hq)
 rcases ho.2 with ⟨rfl,hn⟩|⟨q,cap,cur,rfl,hb,hg,bN,bC,aV,ht⟩
 omega;subst hk;have dE:u.cells.toList.length=Z5.k α:=Z5.len bB;have dm:i * Z5.k α+u.cells.toList.length<=cur.size:=by
  rw [dE,aV,<- Yam];exact Xr _ (by omega)
 have ar:=run_storeCells_at P q (i * Z5.k α) T u.cells.toList 0 cur w hg (by simpa using dm) (Z5.one bB);simp only [Ybs] at ar;have dt:u.cells.size=Z5.k α:=by simpa using dE
 have ir:Stp [q] w (w.setRow q (cur.toList.take (i * Z5.k α)++u.cells.toList++cur.toList.drop (i * Z5.k α+u.cells.toList.length)).toArray):=Z0I _ _ _;refine Z2o (w':=w.setRow q (cur.toList.take (i * Z5.k α)++u.cells.toList++cur.toList.drop (i * Z5.k α+u.cells.toList.length)).toArray) (λa ha=>?_) ⟨⟨css.set i u.cells.toList,by simp [hl],λj hj eB=>?_,?_,.inr ⟨q,cap,_,by simp,hb,setRow_heap w q cur _ T (0,0) hg,by simpa using bN,bC,?_,?_⟩⟩,ir⟩;have cU:ZB (.slice (some ⟨q,0,none⟩) xs.length cap) i (Z5.k α) 0=⟨q,i * Z5.k α,none⟩:=by simp [ZB]
 rw [cU] at hx;simp [execOp,ha.ev hx,ha.ev hy,Instr.storeAt,Instr.sureAddr,storeVar,Siz.run,dt,ar];have ae:∀ b∈[q],b∈ob (.slice (some ⟨q,0,none⟩) xs.length cap)++X:=by simp [ob]
 by_cases bR:i=j;subst bR;simp only [YaX];exact Z5.ext bB ir ae (λb hb=>.inl hb);simp only [YaA bR];exact Z5.ext (hr j (by simpa using hj) (by simpa using eB)) ir ae (λb hb=>.inl hb);rw [Z0X css ai i (by omega)];have h1:=ho.1;simp only [Xb,Xz,Yah,Yaa,dE,h1];have:(i+1) * Z5.k α<=xs.length * Z5.k α:=Xr _ (by omega);rw [Yam] at this;omega;simp only [Yan,Xb,Xz,Yah,Yae,dE,aV];rw [dE,aV] at dm;omega;rw [Z0X css ai i (by omega),<- ht];have h2:(i+1) * Z5.k α<=xs.length * Z5.k α:=Xr _ (by omega);rw [Yam] at h2;have h3:i * Z5.k α<=cur.toList.length:=by simp [aV];exact Xk (by omega) (Xr _ bN)
 simp only [Yaa,dE];rw [YaQ,YaQ,YaU,YaU,Yb2];simp only [Xb,Xz,dE];rw [Yap h3,XR (l:=u.cells.toList) (by rw [dE];omega)];rw [YbT (by omega:i * Z5.k α<=xs.length * Z5.k α),Yap (by omega:i * Z5.k α<=xs.length * Z5.k α)]
theorem Z3y {β:Type} [Z2 β] {xs:List β} {i j k:Nat} {t:TypeId} {x y:Operand} {u:Value} {y':β} [br:Siz P t 1] (hx:ev e x=some (.pointer (some (ZB v i k j)))) (hy:ev e y=some u) (hk:k=Z2.k β)
 (hu:u.cells.toList=[u]) (h1:u.oneCell'=true) (ac:Row X w base T v xs) (hi:i<xs.length) (hj:j<Z2.k β) (bB:Z2.enc y'=(Z2.enc xs[i]).set j u) :
 OE P n ⟨d,.store t x y,ty,pos,af,g⟩ e w (λ_ w'=>Row X w' base T v (xs.set i y')/\Stp (ob v) w w'):=by
 obtain ⟨css,hl,hr,ho⟩:=ac;have ai:∀ c∈css,c.length=Z5.k β:=by
  intro c hc;obtain ⟨q,hq,rfl⟩:=Xv hc;exact Z5.len (hr q (by omega) hq)
 have bY:Z5.k β=Z2.k β:=rfl;rcases ho.2 with ⟨rfl,hn⟩|⟨q,cap,cur,rfl,hb,hg,bN,bC,aV,ht⟩
 omega;subst hk;have hlt:i * Z2.k β+j<xs.length * Z2.k β:=by
  have:(i+1) * Z2.k β<=xs.length * Z2.k β:=Xr _ (by omega);rw [Yam] at this;omega
 have dm:i * Z2.k β+j+[u].length<=cur.size:=by
  rw [aV,bY];have:=Xr (Z2.k β) bN;simp only [XP];omega
 have ar:=run_storeCells_at P q (i * Z2.k β+j) T [u] 0 cur w hg (by simpa using dm) (by simpa using h1);simp only [Ybs] at ar;have dt:u.cells.size=1:=by rw [<- Yae,hu];rfl
 have ir:Stp [q] w (w.setRow q (cur.toList.take (i * Z2.k β+j)++[u]++cur.toList.drop (i * Z2.k β+j+[u].length)).toArray):=Z0I _ _ _;have nZ:css[i]'(by omega)=Z2.enc xs[i]:=hr i hi (by omega);refine Z2o (w':=w.setRow q (cur.toList.take (i * Z2.k β+j)++[u]++cur.toList.drop (i * Z2.k β+j+[u].length)).toArray) (λa ha=>?_) ⟨⟨css.set i ((css[i]'(by omega)).set j u),by simp [hl],λm hm lf=>?_,?_,.inr ⟨q,cap,_,by simp,hb,setRow_heap w q cur _ T (0,0) hg,by simpa using bN,bC,?_,?_⟩⟩,ir⟩;have cU:ZB (.slice (some ⟨q,0,none⟩) xs.length cap) i (Z2.k β) j=⟨q,i * Z2.k β+j,none⟩:=by simp [ZB]
 rw [cU] at hx;simp [execOp,ha.ev hx,ha.ev hy,Instr.storeAt,Instr.sureAddr,storeVar,Siz.run,dt,hu,ar];by_cases bR:i=m;subst bR;simp only [YaX];show _=Z2.enc y';rw [nZ,bB];simp only [YaA bR];exact hr m (by simpa using hm) (by simpa using lf);rw [Z2q css ai i (by omega) j hj];simpa using ho.1;simp only [Yan,Xb,Xz,Yah,Yae];omega;rw [Z2q css ai i (by omega) j hj,<- ht];have br:i * Z2.k β+j<cur.toList.length:=by simp;simp at dm;omega
 simp only [Yaa,bY];rw [show cur.toList.take (i * Z2.k β+j)++[u]++cur.toList.drop (i * Z2.k β+j+[u].length)=cur.toList.set (i * Z2.k β+j) u by
  rw [List.set_eq_take_append_cons_drop,if_pos br];simp]
 rw [List.take_set]
def slc (v:Value) (l h k:Nat):Value:=
 match v with
 | .slice a _ c=>.slice (if c=l then a else a.map (·.add (l * k))) (h - l) (c - l)
 | v=>v
theorem SlV.slc (h:SlV X w v xs) {l r:Nat} (hl:l<=r) (hr:r<=xs.length):SlV X w (slc v l r (Z5.k α)) ((xs.take r).drop l):=by
 obtain ⟨p,c,rfl,ai,hm,hn,hc⟩:=h;have fk:((xs.take r).drop l).length=r - l:=by simp;omega
 refine ⟨if c=l then p else p.map (·.add (l * Z5.k α)),c - l,by simp [Eng.slc,fk],by omega,by omega,?_,λi hi=>?_⟩;intro hp;split at hp;omega
 . cases p with
   | none=>have:=hn rfl;omega
   | some a=>simp at hp
 have bI:l+i<xs.length:=by omega
 obtain ⟨b,o,cs,rfl,hb,hx,d9,am⟩:=hc (l+i) bI;refine ⟨b,o+l * Z5.k α,cs,?_,hb,hx,by simpa using d9,λj u hu=>?_⟩;rw [if_neg (by omega)];simp [Addr.add_lit];have:=am j u hu;rw [show o+l * Z5.k α+i * Z5.k α+j=o+(l+i) * Z5.k α+j by rw [Yb1];omega];exact this
theorem Z1t {t el k:Nat} {x hi:Operand} {r:Nat} {b:Int} [hu:Und P t (.slice el)] [hk:Siz P el k] {cI:World} (hx:ev e x=some v) (hs:SlV X cI v xs) (hb:ev e hi=some (.I b))
 (mT:b=(r:Int)) (lg:r<=xs.length):PR P n ⟨d,.slice t x none (some hi) none,ty,pos,af,g⟩ e w (slc v 0 r k):=by
 refine ⟨λact dV=>?_⟩;obtain ⟨p,c,rfl,ai,hm,hn,hc⟩:=hs;subst mT;simp [execOp,dV.ev hx,dV.ev hb,Instr.sliceAt,run_underlying hu.h,Instr.slice,Instr.sliceBounds,Instr.sliceBound,asIntOf,Siz.run,Eng.slc,show r<=c by omega]
theorem Z2r {t el k:Nat} {x lo:Operand} {l:Nat} {a:Int} [hu:Und P t (.slice el)] [hk:Siz P el k] {cI:World} (hx:ev e x=some v) (hs:SlV X cI v xs) (ha:ev e lo=some (.I a))
 (eC:a=(l:Int)) (mU:l<=xs.length):PR P n ⟨d,.slice t x (some lo) none none,ty,pos,af,g⟩ e w (slc v l xs.length k):=by
 refine ⟨λact dV=>?_⟩;obtain ⟨p,c,rfl,ai,hm,hn,hc⟩:=hs;subst eC;simp [execOp,dV.ev hx,dV.ev ha,Instr.sliceAt,run_underlying hu.h,Instr.slice,Instr.sliceBounds,Instr.sliceBound,asIntOf,Siz.run,Eng.slc,mU]
theorem Z4k {k:Nat}:∀ (css:List (List Value)),(∀ c∈css,c.length=k)->∀ (i:Nat),(css.take i).flatten=css.flatten.take (i * k)
 | [],_,i=>by simp
 | c :: r,hk,0=>by simp
 | c :: r, hk, i + 1 => by
   have hc:=hk c (by simp);have ih:=Z4k r (λc hc=>hk c (by simp [hc])) i;simp only [List.take_succ_cons,Yay,ih,Yam];rw [YaQ,hc,XR (l:=c) (by omega),show i * k+k - k=i * k by omega]
theorem Zhm (v:Value) (r k:Nat):ob (slc v 0 r k)=ob v:=by
 cases v<;>try rfl
 rename_i a l c;cases a with
 | none=>simp [slc,ob]
 | some a=>by_cases hc:c=0<;>simp [slc,ob,hc,Addr.add]
theorem Row.cut (h:Row X w base T v xs) {r:Nat} (hr:r<=xs.length):Row X w base T (slc v 0 r (Z5.k α)) (xs.take r):=by
 obtain ⟨css,hl,d9,ho⟩:=h;have ai:∀ c∈css,c.length=Z5.k α:=by
  intro c hc;obtain ⟨q,hq,rfl⟩:=Xv hc;exact Z5.len (d9 q (by omega) hq)
 refine ⟨css.take r,by simp [hl],λi hi be=>?_,?_,?_⟩;rw [Zhm];simp only [List.getElem_take];exact d9 i (by simp at hi;omega) (by simp at be;omega);rw [Z0q _ (λc hc=>ai c (Yao hc))];simp [hl];rcases ho.2 with ⟨rfl,hn⟩|⟨q,cap,cur,rfl,hb,hg,bN,bC,aV,ht⟩
 exact .inl ⟨by simp [Eng.slc];omega,by simp;omega⟩;refine .inr ⟨q,cap,cur,?_,hb,hg,by simp;omega,bC,aV,?_⟩;simp [Eng.slc,Addr.add,Xz,Yap hr];rw [Z4k css ai,<- ht,YaU,Xz,Yap hr];congr 1;have:=Xr (Z5.k α) hr;omega
end row
section misc
variable {P:Program} {n:Nat} {e:Env} {w:World} {d:Option Nat} {ty:TypeId} {pos:String} {af:Array Edge} {g:Option (Nat×Bool)}
def Jg (e:Env):List (Nat×Operand)->Option (List (Nat×Value))
 | []=>some []
 | (i, x) :: r => match ev e x, Jg e r with
   | some v,some l=>some ((i,v) :: l)
   | _,_=>none
theorem Has.parts {a:Act} (ha:Has n e a):∀ {l:List (Nat×Operand)} {vs:List (Nat×Value)},Jg e l=some vs->l.map (λ(p:Nat×Operand)=>(p.1,a.eval p.2))=vs
 | [],vs,h=>by simp [Jg] at h;simp [h]
 | (i, x) :: r, vs, h => by
   simp only [Jg] at h;cases hx:Eng.ev e x with
   | none=>simp [hx] at h
   | some v=>
     cases hr:Jg e r with
     | none=>simp [hx,hr] at h
     | some l=>
       simp [hx,hr] at h;subst h;simp [ha.ev hx,Has.parts ha hr]
theorem Z0i {t:TypeId} {l:List (Nat×Operand)} {vs:List (Nat×Value)} {u:Value} (hv:Jg e l=some vs) (hb:∀ w,(Instr.build t vs.toArray).run P w=.ok u w):PR P n ⟨d,.build t l.toArray,ty,pos,af,g⟩ e w u:=
 ⟨λa ha => by
   have h1:=ha.parts hv;have h2:l.toArray.map (λ(x:Nat×Operand)=>match x with|(i,x)=>(i,a.eval x))=vs.toArray:=by
    rw [Ybz];exact congrArg List.toArray h1
   simp only [execOp];rw [h2];simp [hb]⟩
def Z6 (w:World) (T:TypeId) (len:Nat) (cs:List Value) (v:Value) (w':World):Prop:=∃ b,v=.slice (some ⟨b,0,none⟩) len len/\w.heap.size<=b/\Blk w' b T cs/\Stp [] w w'
theorem Z1 {t T len:Nat} {l:List (Nat×Operand)} {vs:List (Nat×Value)} {cs:List Value} (hv:Jg e l=some vs)
 (hb:∀ w:World,(Instr.buildSlice t len vs.toArray).run P w=.ok (.slice (some ⟨w.heap.size,0,none⟩) len len) (w.alloc (.cells cs.toArray T))) :
 OE P n ⟨d,.buildSlice t len l.toArray,ty,pos,af,g⟩ e w (Z6 w T len cs):=
 Zv (v:=.slice (some ⟨w.heap.size,0,none⟩) len len) (w':=w.alloc (.cells cs.toArray T)) (λa ha=>by
  have h1:=ha.parts hv;have h2:l.toArray.map (λ(x:Nat×Operand)=>match x with|(i,x)=>(i,a.eval x))=vs.toArray:=by
   rw [Ybz];exact congrArg List.toArray h1
  simp only [execOp];rw [h2];simp [hb w]) ⟨w.heap.size,rfl,Xq _,heap_alloc_new w _,Stp.alloc _ _ _⟩
theorem Z6.slv {β:Type} [Z2 β] {X:List Nat} {T len:Nat} {cs:List Value} {v:Value} {w':World} {ys:List β} (h:Z6 w T len cs v w') (hX:∀ b∈X,b<w.heap.size) (hl:len=ys.length) (hc:cs=ys.flatMap Z2.enc) (hm:ys.length<=maxLen):SlV X w' v ys:=by
 obtain ⟨b,rfl,hb,ab,hS⟩:=h;subst hl;refine ⟨some ⟨b,0,none⟩,ys.length,rfl,Xq _,hm,λh=>by simp at h,λi hi=>⟨b,0,Z2.enc ys[i],rfl,ab.lt,λhx=>by have:=hX b hx;omega,rfl,λj u hu=>?_⟩⟩;subst hc;refine ab.cell ?_;have hk:∀ c∈ys.map Z2.enc,c.length=Z2.k β:=by
  intro c hc;obtain ⟨y,_,rfl⟩:=Xw.1 hc;exact Z2.len y
 have:=Z05 (ys.map Z2.enc) hk i (by simpa using hi) j u (by simpa using hu);rw [YbA,XK];exact this
theorem Z6.row {β:Type} [Z2 β] {X:List Nat} {T len base:Nat} {cs:List Value} {v:Value} {w':World} {ys:List β} (h:Z6 w T len cs v w') (aT:base<=w.heap.size) (hl:len=ys.length) (hc:cs=ys.flatMap Z2.enc) (hm:ys.length<=maxLen):Row X w' base T v ys:=by
 obtain ⟨b,rfl,hb,ab,hS⟩:=h;subst hl;subst hc;have hk:∀ c∈ys.map Z2.enc,c.length=Z2.k β:=by
  intro c hc;obtain ⟨y,_,rfl⟩:=Xw.1 hc;exact Z2.len y
 have cP:(ys.flatMap Z2.enc).length=ys.length * Z2.k β:=by rw [YbA,Z0q _ hk,XB]
 refine ⟨ys.map Z2.enc,by simp,λi hi be=>(by simp:(ys.map Z2.enc)[i]=Z2.enc ys[i]),?_,.inr ⟨b,ys.length,(ys.flatMap Z2.enc).toArray,rfl,by omega,ab,Xq _,hm,by rw [Yan];exact cP,?_⟩⟩;rw [<- YbA];exact cP;rw [<- YbA];exact XR (by show (ys.flatMap Z2.enc).length<=_;rw [cP];exact Xq _)
theorem Zl3 {x y:Operand} {t u:TypeId} {p q:Value} {c:Prop} [Decidable c] (hx:ev e x=some p) (hy:ev e y=some q) (hg:∀ w,(eqGuard .eql t x y p q).run P w=.ok () w) (h:∀ w,(binOp .eql t p q).run P w=.ok (.B (decide c)) w) :
 PR P n ⟨d,.binOp .eql t x y u,ty,pos,af,g⟩ e w (.B (decide c)):=⟨λa ha=>by simp [execOp,ha.ev hx,ha.ev hy,h,hg]⟩
theorem ZdP {x y:Operand} {t u:TypeId} {p q:Value} {c:Prop} [Decidable c] (hx:ev e x=some p) (hy:ev e y=some q) (hg:∀ w,(eqGuard .neq t x y p q).run P w=.ok () w) (h:∀ w,(binOp .neq t p q).run P w=.ok (.B (decide (¬ c))) w) :
 PR P n ⟨d,.binOp .neq t x y u,ty,pos,af,g⟩ e w (.B (decide (¬ c))):=⟨λa ha=>by simp only [execOp,ha.ev hx,ha.ev hy];simp [h,hg]⟩
end misc
section post
variable {P:Program} {n:Nat} {fn:Func} {R:Ending->World->Prop} {e:Env} {w:World} {Q:Exit->Act->World->Prop}
theorem Z5I {t b T m:Nat} {D:TypeDesc} {cs:List Value} [hu:Und P t D] (hA:Z0h D=true) [hs:Siz P t m] (hb:Blk w b T cs) (hl:cs.length=m):(loadVar t ⟨b,0,none⟩).run P w=.ok (.agg cs.toArray) w:=by
 have:=run_loadCells_list (P:=P) w ⟨b,0,none⟩ cs (λj v h=>by rw [Addr.add_lit,XK];exact hb.cell h);rw [hl] at this;simp [loadVar,Und.isAgg,hA,Siz.run,this]
theorem JH {t b T T' m:Nat} {D:TypeDesc} {cs:List Value} (hr:fn.results=#[.cell t T']) [hu:Und P T' D] (hA:Z0h D=true) [hs:Siz P T' m] (ht:look e t=some (pQ b)) (hb:Blk w b T cs) (hl:cs.length=m)
 (h:R (.returned (.agg cs.toArray)) w):WQ n (bodyPost P fn R) .ret e w:=
 ⟨λa ha => ⟨ha.defers, .agg cs.toArray, by
   have h1:=ha.vals _ _ ht;rw [XJ] at h1;simp [results,hr,h1,asAddr,Z5I hA hb hl],h⟩⟩
theorem ZM {t b T T' m s:Nat} {D:TypeDesc} {cs:List Value} {v:Value} (hr:fn.results=#[.cell t T',.tmp s]) [hu:Und P T' D] (hA:Z0h D=true) [hs:Siz P T' m] (ht:look e t=some (pQ b)) (hb:Blk w b T cs) (hl:cs.length=m)
 (hv:look e s=some v) (h:R (.returned (.tuple #[.agg cs.toArray,v])) w):WQ n (bodyPost P fn R) .ret e w:=
 ⟨λa ha => ⟨ha.defers, .tuple #[.agg cs.toArray, v], by
   have h1:=ha.vals _ _ ht;have h2:=ha.vals _ _ hv;rw [XJ] at h1 h2;simp [results,hr,h1,h2,asAddr,Z5I hA hb hl],h⟩⟩
end post
theorem Zhn {P:Program} {n:Nat} {o:Oper} {e:Env} {w} {v:Value} (h:PR P n o e w v):OE P n o e w (λu w'=>u=v/\w'=w):=Zv h.h ⟨rfl,rfl⟩
section
variable {P:Program} {n:Nat} {Q:Exit->Act->World->Prop} {e:Env} {w:World} {ops:Array Oper} {S:List Nat} {Lt:List Nat} {rest:List Oper} {ord:List (Nat×Nat)} {an ci:Nat} {ty:TypeId} {pos:String} {af:Array Edge} {gd:Option (Nat×Bool)}
theorem Z6i {x:Operand} {v:Value} (hx:ev e x=some v) (aw:Nat.blt an n=true) (kk:WL P n ops Q rest ((an,v) :: e) w):WL P n ops Q (⟨some an,.move x,ty,pos,af,none⟩ :: rest) e w:=by
 refine Za (v:=v) ?_ aw kk;apply ZJ<;>assumption
theorem Z3z {x:Operand} {v:Value} (hx:ev e x=some v) (aw:Nat.blt an n=true) (kk:WL P n ops Q rest ((an,v) :: e) w):WL P n ops Q (⟨some an,.assign x,ty,pos,af,none⟩ :: rest) e w:=by
 refine Za (v:=v) ?_ aw kk;apply Z0H<;>assumption
theorem Zc1 {x y:Operand} {t u:TypeId} {a b:Int} {k:IntKind} (hx:ev e x=some (.int k a)) (hy:ev e y=some (.int k b)) (aw:Nat.blt an n=true) (kk:WL P n ops Q rest ((an,(.B (decide (a<b)))) :: e) w):WL P n ops Q (⟨some an,.binOp .lss t x y u,ty,pos,af,none⟩ :: rest) e w:=by
 refine Za (v:=(.B (decide (a<b)))) ?_ aw kk;apply ZbV<;>assumption
theorem Zc2 {x y:Operand} {t u:TypeId} {a b:Int} {k:IntKind} (hx:ev e x=some (.int k a)) (hy:ev e y=some (.int k b)) (aw:Nat.blt an n=true) (kk:WL P n ops Q rest ((an,(.B (decide (b<a)))) :: e) w):WL P n ops Q (⟨some an,.binOp .gtr t x y u,ty,pos,af,none⟩ :: rest) e w:=by
 refine Za (v:=(.B (decide (b<a)))) ?_ aw kk;apply ZbW<;>assumption
theorem Zr1 {x y:Operand} {t u:TypeId} {a b:Int} {k:IntKind} (hx:ev e x=some (.int k a)) (hy:ev e y=some (.int k b)) (aw:Nat.blt an n=true) (kk:WL P n ops Q rest ((an,(.B (decide (¬ a=b)))) :: e) w):WL P n ops Q (⟨some an,.binOp .neq t x y u,ty,pos,af,none⟩ :: rest) e w:=by
 refine Za (v:=(.B (decide (¬ a=b)))) ?_ aw kk;apply ZbY<;>assumption
theorem Zl4 {x y:Operand} {t u:TypeId} {p q:Bool} [hu:Und P t .bool] (hx:ev e x=some (.B p)) (hy:ev e y=some (.B q)) (aw:Nat.blt an n=true) (kk:WL P n ops Q rest ((an,(.B (decide (¬ p=q)))) :: e) w):WL P n ops Q (⟨some an,.binOp .neq t x y u,ty,pos,af,none⟩ :: rest) e w:=by
 refine Za (v:=(.B (decide (¬ p=q)))) ?_ aw kk;apply Z8S<;>assumption
theorem Zho {x:Operand} {t:TypeId} {D:TypeDesc} {ad:Addr} {v:Value} [hu:Und P t D] (hA:Z0h D=false) (hx:ev e x=some (.pointer (some ad))) (hc:w.cell? ad=some v) (aw:Nat.blt an n=true) (kk:WL P n ops Q rest ((an,v) :: e) w):WL P n ops Q (⟨some an,.load t x,ty,pos,af,none⟩ :: rest) e w:=by
 refine Za (v:=v) ?_ aw kk;apply Jd<;>assumption
theorem Zab {b T o:Nat} {cs:List Value} {u:Value} {x:Operand} {t:TypeId} {D:TypeDesc} [hu:Und P t D] (hA:Z0h D=false) (hx:ev e x=some (.pointer (some ⟨b,o,none⟩))) (hb:Blk w b T cs) (hc:cs[o]?=some u) (aw:Nat.blt an n=true) (kk:WL P n ops Q rest ((an,u) :: e) w):WL P n ops Q (⟨some an,.load t x,ty,pos,af,none⟩ :: rest) e w:=by
 refine Za (v:=u) ?_ aw kk;apply Ji<;>assumption
theorem Zc3 {α:Type} [Z5 α] {X:List Nat} {v:Value} {xs:List α} {t el k:Nat} {x hi:Operand} {r:Nat} {b:Int} [hu:Und P t (.slice el)] [hk:Siz P el k] {cI:World} (hx:ev e x=some v) (hs:SlV X cI v xs) (hb:ev e hi=some (.I b)) (mT:b=(r:Int)) (lg:r<=xs.length) (aw:Nat.blt an n=true) (kk:WL P n ops Q rest ((an,(slc v 0 r k)) :: e) w):WL P n ops Q (⟨some an,.slice t x none (some hi) none,ty,pos,af,none⟩ :: rest) e w:=by
 refine Za (v:=(slc v 0 r k)) ?_ aw kk;apply Z1t (α:=α)<;>assumption
theorem Z46 {α:Type} [Z5 α] {X:List Nat} {v:Value} {xs:List α} {t el k:Nat} {x lo:Operand} {l:Nat} {a:Int} [hu:Und P t (.slice el)] [hk:Siz P el k] {cI:World} (hx:ev e x=some v) (hs:SlV X cI v xs) (ha:ev e lo=some (.I a)) (eC:a=(l:Int)) (mU:l<=xs.length) (aw:Nat.blt an n=true) (kk:WL P n ops Q rest ((an,(slc v l xs.length k)) :: e) w):WL P n ops Q (⟨some an,.slice t x (some lo) none none,ty,pos,af,none⟩ :: rest) e w:=by
 refine Za (v:=(slc v l xs.length k)) ?_ aw kk;apply Z2r (α:=α)<;>assumption
theorem Zc {t:TypeId} {l:List (Nat×Operand)} {vs:List (Nat×Value)} {u:Value} (hv:Jg e l=some vs) (hb:∀ w,(Instr.build t vs.toArray).run P w=.ok u w) (aw:Nat.blt an n=true) (kk:WL P n ops Q rest ((an,u) :: e) w):WL P n ops Q (⟨some an,.build t l.toArray,ty,pos,af,none⟩ :: rest) e w:=by
 refine Za (v:=u) ?_ aw kk;apply Z0i<;>assumption
theorem Z2Y {t:TypeId} {l:List (Nat×Operand)} {vs:List (Nat×Value)} {u:Value} (bg:ops[ci]?=some ⟨some an,.build t l.toArray,ty,pos,af,gd⟩) (bh:JV ops e gd) (hv:Jg e l=some vs) (hb:∀ w,(Instr.build t vs.toArray).run P w=.ok u w) (aw:Nat.blt an n=true) (kk:WD P n ops S Lt Q ord ((an,u) :: e) w):WD P n ops S Lt Q ((ci,0) :: ord) e w:=by
 refine Jn (v:=u) bg bh (λw'=>?_) aw kk;apply Z0i<;>assumption
theorem Zl5 {x y:Operand} {t u:TypeId} {p q:Value} {c:Prop} [Decidable c] (bg:ops[ci]?=some ⟨some an,.binOp .eql t x y u,ty,pos,af,gd⟩) (bh:JV ops e gd) (hx:ev e x=some p) (hy:ev e y=some q) (hg:∀ w,(eqGuard .eql t x y p q).run P w=.ok () w) (h:∀ w,(binOp .eql t p q).run P w=.ok (.B (decide c)) w) (aw:Nat.blt an n=true) (kk:WD P n ops S Lt Q ord ((an,(.B (decide c))) :: e) w):WD P n ops S Lt Q ((ci,0) :: ord) e w:=by
 refine Jn (v:=(.B (decide c))) bg bh (λw'=>?_) aw kk;apply Zl3<;>assumption
theorem Zl6 {x y:Operand} {t u:TypeId} {p q:Value} {c:Prop} [Decidable c] (hx:ev e x=some p) (hy:ev e y=some q) (hg:∀ w,(eqGuard .neq t x y p q).run P w=.ok () w) (h:∀ w,(binOp .neq t p q).run P w=.ok (.B (decide (¬ c))) w) (aw:Nat.blt an n=true) (kk:WL P n ops Q rest ((an,(.B (decide (¬ c)))) :: e) w):WL P n ops Q (⟨some an,.binOp .neq t x y u,ty,pos,af,none⟩ :: rest) e w:=by
 refine Za (v:=(.B (decide (¬ c)))) ?_ aw kk;apply ZdP<;>assumption
theorem Zl7 {x y:Operand} {t u:TypeId} {p q:Value} {c:Prop} [Decidable c] (bg:ops[ci]?=some ⟨some an,.binOp .neq t x y u,ty,pos,af,gd⟩) (bh:JV ops e gd) (hx:ev e x=some p) (hy:ev e y=some q) (hg:∀ w,(eqGuard .neq t x y p q).run P w=.ok () w) (h:∀ w,(binOp .neq t p q).run P w=.ok (.B (decide (¬ c))) w) (aw:Nat.blt an n=true) (kk:WD P n ops S Lt Q ord ((an,(.B (decide (¬ c)))) :: e) w):WD P n ops S Lt Q ((ci,0) :: ord) e w:=by
 refine Jn (v:=(.B (decide (¬ c)))) bg bh (λw'=>?_) aw kk;apply ZdP<;>assumption
end
section
variable {P:Program} {n:Nat} {Q:Exit->Act->World->Prop} {e:Env} {w:World} {ops:Array Oper} {S:List Nat} {Lt:List Nat} {ord:List (Nat×Nat)} {an ci:Nat} {ty:TypeId} {pos:String} {af:Array Edge} {gd:Option (Nat×Bool)}
theorem Zac {b T o:Nat} {cs:List Value} {u:Value} {x:Operand} {t:TypeId} {D:TypeDesc} [hu:Und P t D] (bg:ops[ci]?=some ⟨some an,.load t x,ty,pos,af,gd⟩) (bh:JV ops e gd) (hA:Z0h D=false) (hx:ev e x=some (.pointer (some ⟨b,o,none⟩))) (hb:Blk w b T cs) (hn:b∉S) (hc:cs[o]?=some u) (aw:Nat.blt an n=true) (kk:WD P n ops S Lt Q ord ((an,u) :: e) w):WD P n ops S Lt Q ((ci,1) :: ord) e w:=
 WD_read bg bh (λw' hS=>Ji hA hx (hb.ext hS hn) hc) aw kk
end
abbrev Str:=List UInt8
abbrev str (s:Str):Value:=.string ⟨s.toArray⟩
theorem Zl8 (a b:Str):((⟨a.toArray⟩:ByteArray).toList == (⟨b.toArray⟩:ByteArray).toList)=decide (a=b):=by
 rw [ByteArray.toList_eq,ByteArray.toList_eq];simp only [YaW]
theorem Jy (a:Str):(⟨a.toArray⟩:ByteArray).size=a.length:=by simp [ByteArray.size]
theorem Z2Z (a:Str) (i j:Nat):(⟨a.toArray⟩:ByteArray).extract i j=⟨((a.take j).drop i).toArray⟩:=by
 apply ByteArray.ext;simp [ByteArray.data_extract,Yb2]
theorem Zc4 (a b:Str):(⟨a.toArray⟩++⟨b.toArray⟩:ByteArray)=⟨(a++b).toArray⟩:=by
 apply ByteArray.ext;simp [ByteArray.data_append]
def J5 (a:Str) (i:Nat):Int:=((a.getD i 0).toNat:Int)
theorem byte_at {a:Str} {i:Nat} (h:i<a.length):J5 a i=(a[i].toNat:Int):=by simp [J5,List.getD,h]
instance:Z2 Str where
 k:=1
 enc:=λx=>[str x]
 len:=λ_=>rfl
 one:=by intro x u hu;simp at hu;subst hu;rfl
section rules
variable {P:Program} {n:Nat} {e:Env} {w:World} {d:Option Nat} {ty:TypeId} {pos:String} {af:Array Edge} {g:Option (Nat×Bool)}
theorem ZdQ {t u:TypeId} {x y:Operand} {a b:Str} [hu:Und P t .string] (hx:ev e x=some (str a)) (hy:ev e y=some (str b)):PR P n ⟨d,.binOp .eql t x y u,ty,pos,af,g⟩ e w (.B (decide (a=b))):=
 ⟨λc ha=>by simp only [execOp,ha.ev hx,ha.ev hy];simp [go_sem,binOp,Op.stringOp];rw [YaW]⟩
theorem ZdR {t u:TypeId} {x y:Operand} {a b:Str} [hu:Und P t .string] (hx:ev e x=some (str a)) (hy:ev e y=some (str b)):PR P n ⟨d,.binOp .neq t x y u,ty,pos,af,g⟩ e w (.B (decide (¬ a=b))):=
 ⟨λc ha=>by simp only [execOp,ha.ev hx,ha.ev hy];simp [go_sem,binOp,Op.stringOp];by_cases h:a=b<;>simp [h]⟩
theorem Z92 {t u:TypeId} {x y:Operand} {a b:Str} [hu:Und P t .string] (hx:ev e x=some (str a)) (hy:ev e y=some (str b)) (hl:a.length+b.length<=9223372036854775807):PR P n ⟨d,.binOp .add t x y u,ty,pos,af,g⟩ e w (str (a++b)):=
 ⟨λc ha => by
   simp only [execOp,ha.ev hx,ha.ev hy];simp [go_sem,binOp,Op.stringOp,Zc4];omega⟩
theorem ZdS {x:Operand} {t:TypeId} {a:Str} [hu:Und P t .string] (hx:ev e x=some (str a)) :
 PR P n ⟨d,.call { callee:=.builtin .len,args:=#[x],argTypes:=#[t] },ty,pos,af,g⟩ e w (.I (a.length:Int)):=
 ⟨λc ha => by
   have:=run_len_string (P:=P) w t ty ⟨a.toArray⟩ hu.h;simp [execOp,resolve,invoke,builtin,ha.ev hx,this,goInt,Jy]⟩
theorem Z8c {t:TypeId} {x y:Operand} {a:Str} {z:Int} {i:Nat} [hu:Und P t .string] (hx:ev e x=some (str a)) (hy:ev e y=some (.I z)) (hz:z=(i:Int)) (hi:i<a.length):PR P n ⟨d,.index t x y,ty,pos,af,g⟩ e w (.int .u8 (J5 a i)):=
 ⟨λc ha => by
   subst hz;have h1:(0:Int)<=(i:Int)/\((i:Int)<((⟨a.toArray⟩:ByteArray).size:Int)):=by rw [Jy];omega
   have:=run_index_string (P:=P) w t ⟨a.toArray⟩ .i64 (i:Int) hu.h;rw [dif_pos h1] at this;simp only [execOp,ha.ev hx,ha.ev hy];simp [this,J5,List.getD,hi];rfl⟩
theorem Z2s {t:TypeId} {x lo hi:Operand} {a:Str} {p q:Int} {l r:Nat} [hu:Und P t .string] (hx:ev e x=some (str a)) (h1:ev e lo=some (.I p)) (h2:ev e hi=some (.I q)) (hp:p=(l:Int)) (hq:q=(r:Int)) (sL:l<=r) (hr:r<=a.length) :
 PR P n ⟨d,.slice t x (some lo) (some hi) none,ty,pos,af,g⟩ e w (str ((a.take r).drop l)):=
 ⟨λc ha => by
   subst hp;subst hq;have:=run_slice_string (P:=P) w t ⟨a.toArray⟩ .i64 .i64 (l:Int) (r:Int) hu.h (by omega) (by omega) (by rw [Jy];omega);simp only [execOp,ha.ev hx,ha.ev h1,ha.ev h2,Option.map];simp [Instr.sliceAt,run_underlying hu.h,this,Z2Z]⟩
theorem Zad {t:TypeId} {x lo:Operand} {a:Str} {p:Int} {l:Nat} [hu:Und P t .string] (hx:ev e x=some (str a)) (h1:ev e lo=some (.I p)) (hp:p=(l:Int)) (hl:l<=a.length) :
 PR P n ⟨d,.slice t x (some lo) none none,ty,pos,af,g⟩ e w (str (a.drop l)):=
 ⟨λc ha => by
   subst hp;have:=run_slice_string_l (P:=P) (t:=t) (s:=⟨a.toArray⟩) w hu.h .i64 (l:Int) (by omega) (by rw [Jy];omega);simp only [execOp,ha.ev hx,ha.ev h1,Option.map];simp [Instr.sliceAt,run_underlying hu.h,this,Z2Z,Jy]⟩
theorem Zae {t:TypeId} {x hi:Operand} {a:Str} {q:Int} {r:Nat} [hu:Und P t .string] (hx:ev e x=some (str a)) (h2:ev e hi=some (.I q)) (hq:q=(r:Int)) (hr:r<=a.length) :
 PR P n ⟨d,.slice t x none (some hi) none,ty,pos,af,g⟩ e w (str (a.take r)):=
 ⟨λc ha => by
   subst hq;have:=run_slice_string_h (P:=P) (t:=t) (s:=⟨a.toArray⟩) w hu.h .i64 (r:Int) (by omega) (by rw [Jy];omega);simp only [execOp,ha.ev hx,ha.ev h2,Option.map];simp [Instr.sliceAt,run_underlying hu.h,this,Z2Z]⟩
theorem Z5J {x:Operand} {b:Addr} (hx:ev e x=some (.pointer (some b))):PR P n ⟨d,.nilCheck x,ty,pos,af,g⟩ e w (.pointer (some b)):=
 ⟨λa ha=>by simp [execOp,ha.ev hx]⟩
theorem Zhp {t:TypeId} {x:Operand} {p:Prop} {i:Decidable p} (hx:ev e x=some (.B (decide p))):PR P n ⟨d,.unOp .not t x,ty,pos,af,g⟩ e w (.B (decide (¬ p))):=
 ⟨λa ha=>by simp [execOp,ha.ev hx,Op.unary]⟩
theorem Z2t {t el len k:Nat} {x y:Operand} {b o i:Nat} {z:Int} [hu:Und P t (.array len el)] [hk:Siz P el k] (hx:ev e x=some (.pointer (some ⟨b,o,none⟩))) (hy:ev e y=some (.I z)) (hz:z=(i:Int)) (hi:i<len) :
 PR P n ⟨d,.indexAddr t x y,ty,pos,af,g⟩ e w (.pointer (some ⟨b,o+i * k,none⟩)):=
 ⟨λa ha => by
   subst hz;have h0:(0:Int)<=(i:Int)/\(i:Int)<(len:Int):=by omega
   have hr:(Instr.indexAt t (.pointer (some ⟨b,o,none⟩)) (.I (i:Int))).run P w=.ok (.pointer (some ⟨b,o+i * k,none⟩)) w:=by
    simp only [Instr.indexAt,asIntOf];simp [run_underlying hu.h,Instr.sureAddr,Siz.run,Addr.add_lit,hi]
   simp [execOp,ha.ev hx,ha.ev hy,hr]⟩
theorem Z55 {t el len k:Nat} {x:Operand} {b:Nat} [hu:Und P t (.array len el)] [hk:Siz P el k] (hx:ev e x=some (pQ b)) :
 PR P n ⟨d,.slice t x none none none,ty,pos,af,g⟩ e w (.slice (some ⟨b,0,none⟩) len len):=
 ⟨λa ha => by
   have hr:(Instr.sliceAt t (pQ b) none none none).run P w=.ok (.slice (some ⟨b,0,none⟩) len len) w:=by
    simp [Instr.sliceAt,Instr.sureAddr,run_underlying hu.h,Instr.sliceBounds,Siz.run,Addr.add]
   simp [execOp,ha.ev hx,hr]⟩
theorem Zhq {x y:Operand} {ts:Array TypeId} {a b:Int} (hx:ev e x=some (.I a)) (hy:ev e y=some (.I b)) :
 PR P n ⟨d,.call { callee:=.builtin .max,args:=#[x,y],argTypes:=ts },ty,pos,af,g⟩ e w (.I (max a b)):=
 ⟨λc ha => by
   have hm:(if b > a then b else a)=max a b:=by omega
   simp [execOp,resolve,invoke,builtin,ha.ev hx,ha.ev hy,run_max_int2,hm]⟩
theorem Zc5 {x y:Operand} {ts:Array TypeId} {a b:Int} (hx:ev e x=some (.I a)) (hy:ev e y=some (.I b)) :
 PR P n ⟨d,.call { callee:=.builtin .min,args:=#[x,y],argTypes:=ts },ty,pos,af,g⟩ e w (.I (min a b)):=
 ⟨λc ha => by
   have hm:(if b<a then b else a)=min a b:=by omega
   simp [execOp,resolve,invoke,builtin,ha.ev hx,ha.ev hy,run_min_int2,hm]⟩
end rules
section
variable {P:Program} {n:Nat} {Q:Exit->Act->World->Prop} {e:Env} {w:World} {ops:Array Oper} {S:List Nat} {Lt:List Nat} {rest:List Oper} {ord:List (Nat×Nat)} {an ci:Nat} {ty:TypeId} {pos:String} {af:Array Edge} {gd:Option (Nat×Bool)}
theorem Z6j {t u:TypeId} {x y:Operand} {a b:Str} [hu:Und P t .string] (hx:ev e x=some (str a)) (hy:ev e y=some (str b)) (hl:a.length+b.length<=9223372036854775807) (aw:Nat.blt an n=true) (kk:WL P n ops Q rest ((an,(str (a++b))) :: e) w):WL P n ops Q (⟨some an,.binOp .add t x y u,ty,pos,af,none⟩ :: rest) e w:=by
 refine Za (v:=(str (a++b))) ?_ aw kk;apply Z92<;>assumption
theorem Z0c {t:TypeId} {x y:Operand} {a:Str} {z:Int} {i:Nat} [hu:Und P t .string] (hx:ev e x=some (str a)) (hy:ev e y=some (.int .i64 z)) (hz:z=(i:Int)) (hi:i<a.length) (aw:Nat.blt an n=true) (kk:WL P n ops Q rest ((an,(.int .u8 (J5 a i))) :: e) w):WL P n ops Q (⟨some an,.index t x y,ty,pos,af,none⟩ :: rest) e w:=by
 refine Za (v:=(.int .u8 (J5 a i))) ?_ aw kk;apply Z8c<;>assumption
theorem Z2u {t el len k:Nat} {x y:Operand} {b o i:Nat} {z:Int} [hu:Und P t (.array len el)] [hk:Siz P el k] (hx:ev e x=some (.pointer (some ⟨b,o,none⟩))) (hy:ev e y=some (.int .i64 z)) (hz:z=(i:Int)) (hi:i<len) (aw:Nat.blt an n=true) (kk:WL P n ops Q rest ((an,(.pointer (some ⟨b,o+i * k,none⟩))) :: e) w):WL P n ops Q (⟨some an,.indexAddr t x y,ty,pos,af,none⟩ :: rest) e w:=by
 refine Za (v:=(.pointer (some ⟨b,o+i * k,none⟩))) ?_ aw kk;apply Z2t<;>assumption
theorem Zl9 {t el len k:Nat} {x y:Operand} {b o i:Nat} {z:Int} [hu:Und P t (.array len el)] [hk:Siz P el k] (bg:ops[ci]?=some ⟨some an,.indexAddr t x y,ty,pos,af,gd⟩) (bh:JV ops e gd) (hx:ev e x=some (.pointer (some ⟨b,o,none⟩))) (hy:ev e y=some (.int .i64 z)) (hz:z=(i:Int)) (hi:i<len) (aw:Nat.blt an n=true) (kk:WD P n ops S Lt Q ord ((an,(.pointer (some ⟨b,o+i * k,none⟩))) :: e) w):WD P n ops S Lt Q ((ci,0) :: ord) e w:=by
 refine Jn (v:=(.pointer (some ⟨b,o+i * k,none⟩))) bg bh (λw'=>?_) aw kk;apply Z2t<;>assumption
theorem ZeF {t el len k:Nat} {x:Operand} {b:Nat} [hu:Und P t (.array len el)] [hk:Siz P el k] (hx:ev e x=some (.pointer (some ⟨b,0,none⟩))) (aw:Nat.blt an n=true) (kk:WL P n ops Q rest ((an,(.slice (some ⟨b,0,none⟩) len len)) :: e) w):WL P n ops Q (⟨some an,.slice t x none none none,ty,pos,af,none⟩ :: rest) e w:=by
 refine Za (v:=(.slice (some ⟨b,0,none⟩) len len)) ?_ aw kk;apply Z55<;>assumption
structure WO (P:Program) (n:Nat) (ops:Array Oper) (S:List Nat) (Lt:List Nat) (Q:Exit->Act->World->Prop) (o:Oper) (i q:Nat) (ord:List (Nat×Nat)) (e:Env) (w:World):Prop where
 h:ops[i]?=some o->WD P n ops S Lt Q ((i,q) :: ord) e w
theorem Z1d {o:Oper} {i q:Nat} (hi:ops[i]?=some o) (h:WO P n ops S Lt Q o i q ord e w):WD P n ops S Lt Q ((i,q) :: ord) e w:=h.h hi
theorem Z26 {t:TypeId} {l:List (Nat×Operand)} {vs:List (Nat×Value)} {u:Value} (bh:JV ops e gd) (hv:Jg e l=some vs) (hb:∀ w,(Instr.build t vs.toArray).run P w=.ok u w) (aw:Nat.blt an n=true) (kk:WD P n ops S Lt Q ord ((an,u) :: e) w):WO P n ops S Lt Q ⟨some an,.build t l.toArray,ty,pos,af,gd⟩ ci 0 ord e w:=⟨λbg=>Z2Y bg bh hv hb aw kk⟩
theorem Zla {x y:Operand} {t u:TypeId} {p q:Value} {c:Prop} [Decidable c] (bh:JV ops e gd) (hx:ev e x=some p) (hy:ev e y=some q) (hg:∀ w,(eqGuard .eql t x y p q).run P w=.ok () w) (h:∀ w,(binOp .eql t p q).run P w=.ok (.bool (decide c)) w) (aw:Nat.blt an n=true) (kk:WD P n ops S Lt Q ord ((an,(.bool (decide c))) :: e) w):WO P n ops S Lt Q ⟨some an,.binOp .eql t x y u,ty,pos,af,gd⟩ ci 0 ord e w:=⟨λbg=>Zl5 bg bh hx hy hg h aw kk⟩
theorem Zlb {x y:Operand} {t u:TypeId} {p q:Value} {c:Prop} [Decidable c] (bh:JV ops e gd) (hx:ev e x=some p) (hy:ev e y=some q) (hg:∀ w,(eqGuard .neq t x y p q).run P w=.ok () w) (h:∀ w,(binOp .neq t p q).run P w=.ok (.bool (decide (¬ c))) w) (aw:Nat.blt an n=true) (kk:WD P n ops S Lt Q ord ((an,(.bool (decide (¬ c)))) :: e) w):WO P n ops S Lt Q ⟨some an,.binOp .neq t x y u,ty,pos,af,gd⟩ ci 0 ord e w:=⟨λbg=>Zl7 bg bh hx hy hg h aw kk⟩
theorem Z0P {t el len k:Nat} {x y:Operand} {b o i:Nat} {z:Int} [hu:Und P t (.array len el)] [hk:Siz P el k] (bh:JV ops e gd) (hx:ev e x=some (.pointer (some ⟨b,o,none⟩))) (hy:ev e y=some (.int .i64 z)) (hz:z=(i:Int)) (hi:i<len) (aw:Nat.blt an n=true) (kk:WD P n ops S Lt Q ord ((an,(.pointer (some ⟨b,o+i * k,none⟩))) :: e) w):WO P n ops S Lt Q ⟨some an,.indexAddr t x y,ty,pos,af,gd⟩ ci 0 ord e w:=⟨λbg=>Zl9 bg bh hx hy hz hi aw kk⟩
theorem elB {α:Type} [Z2 α] {X:List Nat} {xs:List α} {v u:Value} {i k:Nat} {x:Operand} {t:TypeId} {D:TypeDesc} {d:Option Nat} [hu:Und P t D] [br:Siz P t k] (hA:Z0h D=true) (hx:ev e x=some (.pointer (some (ZB v i k 0)))) (hs:SlV X w v xs) (hi:i<xs.length) (hk:k=Z2.k α) (h:u=.agg (Z2.enc xs[i]).toArray):PR P n ⟨d,.load t x,ty,pos,af,gd⟩ e w u:=h ▸ Z5H hA hx hs hi hk
theorem exF {α:Type} [Z2 α] {X:List Nat} {w':World} {v:Value} {xs:List α} (h:SlV X w v xs) (hS:Stp S w w') (h1:∀ b∈S,b∈X):SlV X w' v xs:=h.ext hS h1 (λ_ h=>.inl h)
theorem Zaf {t:TypeId} {x:Operand} {d:Option Nat} {v:Value} (h:PR P n ⟨d,.load t x,ty,pos,af,gd⟩ e w v):PR P n ⟨d,.load t x,ty,pos,af,gd⟩ e w v:=h
theorem Zlc {t:TypeId} {x y:Operand} {d:Option Nat} {v:Value} (h:PR P n ⟨d,.indexAddr t x y,ty,pos,af,gd⟩ e w v):PR P n ⟨d,.indexAddr t x y,ty,pos,af,gd⟩ e w v:=h
theorem ZeG {t:TypeId} {x:Operand} {m:Nat} {d:Option Nat} {v:Value} (h:PR P n ⟨d,.fieldAddr t x m,ty,pos,af,gd⟩ e w v):PR P n ⟨d,.fieldAddr t x m,ty,pos,af,gd⟩ e w v:=h
theorem Zld {t:TypeId} {x:Operand} {d:Option Nat} {v:Value} (h:PR P n ⟨d,.call { callee:=.builtin .len,args:=#[x],argTypes:=#[t] },ty,pos,af,gd⟩ e w v):PR P n ⟨d,.call { callee:=.builtin .len,args:=#[x],argTypes:=#[t] },ty,pos,af,gd⟩ e w v:=h
theorem ZvB {l:List Oper} (h:WL P n ops Q l e w):WL P n ops Q l e w:=h
theorem ZvC {c:Code} (h:WC P n c Q e w):WC P n c Q e w:=h
theorem ZvD {x:Exit} (h:WQ n Q x e w):WQ n Q x e w:=h
end
theorem PX {G:Prop} (h:G:=by
 first
  | (apply ZJ;exact rfl)
  | (apply Z0H;exact rfl)
  | (apply Z1g;exact rfl)
  | (apply Zlc;first|exact Z2m rfl (by assumption) rfl rfl (by assumption)|exact Z2m rfl (by assumption) rfl rfl (by omega)|exact Z2m rfl (by assumption) rfl (by assumption) (by first|assumption|omega)|exact Z2m (i:=0) rfl (by assumption) rfl rfl (by omega)|exact Z2m (i:=1) rfl (by assumption) rfl rfl (by omega)|exact Z2m (i:=2) rfl (by assumption) rfl rfl (by omega)|exact Z2t (i:=0) rfl rfl rfl (by decide)|exact Z2t (i:=1) rfl rfl rfl (by decide)|exact Z2t (i:=2) rfl rfl rfl (by decide)|exact Z2t rfl rfl rfl (by omega))
  | (apply ZeG;exact Za2 rfl (SlV.isSome (by assumption) (by assumption)))
  | (apply Zld;first|exact ZdS rfl|exact Z8Y rfl (by assumption)|exact ZbZ rfl)
  | (apply Z6z;exact rfl;exact rfl)
  | (apply Z5J;exact rfl)
  | (apply ZbX;exact rfl;exact rfl)
  | (apply ZbV;exact rfl;exact rfl)
  | (apply ZbY;exact rfl;exact rfl)
  | (apply ZdQ;exact rfl;exact rfl)
  | (apply ZdR;exact rfl;exact rfl)
  | (apply Z8R;exact rfl;exact rfl;(unfold I64;omega))
  | (apply Z52;exact rfl;exact rfl;(unfold I64;omega))
  | (apply Zgt;exact rfl;exact rfl)
  | (apply ZbW;exact rfl;exact rfl)
  | (apply Zgu;exact rfl;exact rfl)
  | (apply ZdL;exact rfl;exact rfl)
  | (apply Z8S;exact rfl;exact rfl)
  | (apply Znp;exact rfl;exact rfl;(unfold I64;omega))
  | (apply ZdK;exact rfl;exact rfl;omega;omega;(unfold I64;omega))
  | (apply ZdJ;exact rfl;exact rfl;omega;omega;(unfold I64;omega))
  | (apply Z92;exact rfl;exact rfl;omega)
  | (apply Zgr;exact rfl)
  | (apply Zgs;exact rfl)
  | (apply Zhp;exact rfl)
  | (apply ZbU;exact rfl)
  | (apply Znq;exact rfl;(unfold I64;omega))
  | (apply Z89;exact rfl;exact rfl)
  | (apply Z8a;exact rfl;exact rfl)
  | (apply Zhq;exact rfl;exact rfl)
  | (apply Zc5;exact rfl;exact rfl)
  | (apply Z8c;exact rfl;exact rfl;exact rfl;(first|assumption|omega))
  | apply Z8T
  | (apply Z8U;exact rfl)
  | (apply Z8V;exact rfl;exact rfl)
  | (apply Z8W;exact rfl;exact rfl;exact rfl)):G:=h
structure Z2v (R:Prop):Prop where
 h:R
theorem W1 {G R:Prop} (k:R) (h:Z2v R->G:=by
 intro r
 repeat1' (first
  | (apply ZvB;first
  | apply Z51
  | (apply Za;exact PX;exact rfl)
  | (apply Za;(apply Zaf;first|exact Ji rfl rfl (by assumption) (by rfl)|exact Z2n rfl rfl (by assumption) (by first|assumption|omega) (by rfl) (by rfl)|exact ZY rfl rfl (by assumption) (by rfl)|exact elB rfl rfl (by assumption) (by assumption) (by rfl) rfl);exact rfl)
  | (apply Zn7;exact rfl)
  | (apply ZdG;exact rfl;exact rfl))
  | (apply ZvC;first|apply Z43|apply Z1o|apply Zgo|apply Z6g|apply Z6x|apply Zk2|(apply Z1f;exact rfl)|(apply Z0N;exact rfl))
  | (apply ZvD;first|apply Z3x|apply Z0V|apply Zs|apply Zl|(apply Zu;exact rfl)|apply Z8O|apply J0))
 exact r.h):G:=h ⟨k⟩
theorem W {G R:Prop} (k:R) (h:Z2v R->G:=by
 intro r;first|(refine W1 ?_;exact r.h)|exact r.h):G:=h ⟨k⟩
theorem D1 {G R:Prop} (k:R) (h:Z2v R->G:=by
 intro r
 repeat1' (first
  | apply Z54
  | (apply Jn;exact rfl;(first|exact trivial|exact rfl);(intro w';exact PX);exact rfl)
  | (apply WD_read;exact rfl;(first|exact trivial|exact rfl);(intro w' hS;apply Zaf;first|exact Ji rfl rfl (Blk.ext (by assumption) hS (by first|assumption|(simp;done)|(simp;omega))) (by rfl)|exact Z2n rfl rfl (exF (by assumption) hS (by first|exact λ_ h=>h|(simp;done))) (by first|assumption|omega) (by rfl) (by rfl)|exact ZY rfl rfl (Blk.ext (by assumption) hS (by first|assumption|(simp;done)|(simp;omega))) (by rfl)|exact elB rfl rfl (exF (by assumption) hS (by first|exact λ_ h=>h|(simp;done))) (by assumption) (by rfl) rfl);exact rfl)
  | (apply Za8;exact rfl;exact rfl;exact rfl)
  | (apply Za9;exact rfl;exact rfl;exact rfl)
  | (apply Zaa;exact rfl;exact rfl;exact rfl))
 exact r.h):G:=h ⟨k⟩
theorem D {G R:Prop} (k:R) (h:Z2v R->G:=by
 intro r;first|(refine D1 ?_;exact r.h)|exact r.h):G:=h ⟨k⟩
theorem WR {G R:Prop} (k:R) (h:Z2v R->G:=by
 intro r;first|refine Zk5 rfl rfl ?_|refine Zk6 rfl rfl rfl ?_|refine Zk7 rfl rfl rfl rfl ?_|refine ZdI rfl ?_|refine Z8Q rfl ?_
 exact r.h):G:=h ⟨k⟩
theorem VG {G R S:Prop} (k:R) (l:S) (h:Z2v R->Z2v S->G:=by
 intro r s;first|refine Zgq rfl rfl ?_ ?_|refine ZeE rfl rfl ?_ ?_
 exact r.h;exact s.h):G:=h ⟨k⟩ ⟨l⟩
theorem VC {G R S:Prop} (k:R) (l:S) (h:Z2v R->Z2v S->G:=by
 intro r s;first|refine Z8P rfl ?_ ?_|refine Za1 rfl ?_ ?_
 exact r.h;exact s.h):G:=h ⟨k⟩ ⟨l⟩
theorem hap {p A:Prop} (r:Z2v (p->A)) (h:p):A:=r.h h
theorem QO {G R:Prop} (k:R) (h:Z2v R->G:=by
 intro r
 repeat1' (first|refine W1 ?_|(refine VG ?_ ?_<;>intro hg;(first|(focus omega)|(rotate_left;focus omega)))|(refine VC ?_ ?_<;>intro hg;(first|(focus omega)|(rotate_left;focus omega))))
 exact r.h):G:=h ⟨k⟩
theorem QP {G R S:Prop} (k:R) (l:S) (h:Z2v R->Z2v S->G:=by
 intro r s;first|refine QO ?_|skip
 first|(refine VG ?_ ?_<;>intro hg)|(refine VC ?_ ?_<;>intro hg)
 first|(refine QO ?_;exact hap r hg)|exact hap r hg
 first|(refine QO ?_;exact hap s hg)|exact hap s hg):G:=h ⟨k⟩ ⟨l⟩
theorem QD {G R:Prop} (k:R) (h:Z2v R->G:=by
 intro r
 repeat1' (first|refine D1 ?_|refine Zb rfl rfl rfl rfl (λhg=>?_) (λhg=>absurd hg (by omega))|refine Zb rfl rfl rfl rfl (λhg=>absurd hg (by omega)) (λhg=>?_)|(refine Z7 rfl rfl rfl rfl (λhg=>?_) (λhg=>?_)<;>refine D1 ?_;(first|(focus omega)|(rotate_left;focus omega))))
 exact r.h):G:=h ⟨k⟩
theorem QE {G R S:Prop} (k:R) (l:S) (h:Z2v R->Z2v S->G:=by
 intro r s;first|refine QD ?_|skip
 first|refine Zb rfl rfl rfl rfl (λhg=>?_) (λhg=>?_)|refine Z7 rfl rfl rfl rfl (λhg=>?_) (λhg=>?_)
 first|(refine QD ?_;exact hap r (by assumption))|exact hap r (by assumption)
 first|(refine QD ?_;exact hap s (by assumption))|exact hap s (by assumption)):G:=h ⟨k⟩ ⟨l⟩
theorem SA {P:Program} {n:Nat} {Q:Exit->Act->World->Prop} {e:Env} {w:World} {rest:List Oper} {ops:Array Oper} {ty:TypeId} {pos:String} {af:Array Edge} {b T m t:Nat} {cs us:List Value} {x y:Operand} {u:Value} [br:Siz P t m] (hb:Blk w b T cs) (k:∀ (v:Value) (w':World),Stp [b] w w'/\Blk w' b T us->WL P n ops Q rest e w')
 (hx:ev e x=some (.pointer (some ⟨b,0,none⟩)):=by exact rfl) (hy:ev e y=some u:=by exact rfl) (hu:u.cells.toList=us:=by exact rfl) (hm:us.length=m:=by exact rfl) (h1:∀ c∈us,c.oneCell'=true:=by exact Z2.one _) (hl:us.length=cs.length:=by exact rfl):WL P n ops Q (⟨none,.store t x y,ty,pos,af,none⟩ :: rest) e w:=Z8 (Zy hx hy hu hm h1 hb hl) k
theorem S1 {P:Program} {n:Nat} {Q:Exit->Act->World->Prop} {e:Env} {w:World} {rest:List Oper} {ops:Array Oper} {ty:TypeId} {pos:String} {af:Array Edge} {b T o t:Nat} {cs:List Value} {x y:Operand} {u:Value} [br:Siz P t 1] (hb:Blk w b T cs) (k:∀ (v:Value) (w':World),Stp [b] w w'/\Blk w' b T (cs.set o u)->WL P n ops Q rest e w')
 (hx:ev e x=some (.pointer (some ⟨b,o,none⟩)):=by exact rfl) (hy:ev e y=some u:=by exact rfl) (hu:u.cells.toList=[u]:=by exact rfl) (h1:u.oneCell'=true:=by exact rfl) (hl:o<cs.length:=by simp):WL P n ops Q (⟨none,.store t x y,ty,pos,af,none⟩ :: rest) e w:=Z8 (Zf hx hy hu h1 hb hl) k
theorem LP {P:Program} {n:Nat} {Q:Exit->Act->World->Prop} {e:Env} {w:World} {c:Code} {σ:Type} (env:σ->Env) (I:σ->World->Prop) (μ:σ->Nat) (d7:σ) (hI:I d7 w) (round:∀ s w,I s w->WC P n c (Exit.then (λa' w'=>∃ s',Has n (env s') a'/\I s' w'/\μ s' < μ s) Q) (env s) w) (hs:Sub (env d7) e:=by repeat (first|exact trivial|refine ⟨rfl,?_⟩)):WC P n (.loop c) Q e w:=Zt env I μ d7 hs hI round
theorem SB {P:Program} {n:Nat} {Q:Exit->Act->World->Prop} {e:Env} {w:World} {rest:List Oper} {ops:Array Oper} {ty:TypeId} {pos:String} {af:Array Edge} {b T m t:Nat} {cs us:List Value} {x y:Operand} {u:Value} [br:Siz P t m] (h1:∀ c∈us,c.oneCell'=true) (hb:Blk w b T cs) (k:∀ (v:Value) (w':World),Stp [b] w w'/\Blk w' b T us->WL P n ops Q rest e w')
 (hx:ev e x=some (.pointer (some ⟨b,0,none⟩)):=by exact rfl) (hy:ev e y=some u:=by exact rfl) (hu:u.cells.toList=us:=by exact rfl) (hm:us.length=m:=by exact rfl) (hl:us.length=cs.length:=by exact rfl):WL P n ops Q (⟨none,.store t x y,ty,pos,af,none⟩ :: rest) e w:=Z8 (Zy hx hy hu hm h1 hb hl) k
theorem QL {σ:Type} {n:Nat} {Q:Exit->Act->World->Prop} {e:Env} {w:World} {env:σ->Env} {I:σ->World->Prop} {μ:σ->Nat} {m:Nat} (s:σ) (hI:I s w) (hm:μ s<m) (hs:Sub (env s) e:=by repeat (first|exact trivial|refine ⟨rfl,?_⟩)):WQ n (Exit.then (λa w=>∃ s,Has n (env s) a/\I s w/\μ s<m) Q) .normal e w:=ZF s hs hI hm
theorem QT {σ:Type} {n:Nat} {Q:Exit->Act->World->Prop} {e:Env} {w:World} {env:σ->Env} {I:σ->World->Prop} (s:σ) (hI:I s w) (hs:Sub (env s) e:=by repeat (first|exact trivial|refine ⟨rfl,?_⟩)):WQ n (Exit.then (λa w=>∃ s,Has n (env s) a/\I s w) Q) .normal e w:=Zw s hs hI
theorem RU {G A:Prop} (k:A) (h:Z2v A->G:=by
 intro r;refine WR ?_;exact .mk r.h):G:=h ⟨k⟩
theorem RT {G A:Prop} (k:A) (h:Z2v A->G:=by
 intro r;first|refine QO ?_|skip
 refine WR ?_;exact .mk r.h):G:=h ⟨k⟩
theorem CL {P:Program} {n:Nat} {Q:Exit->Act->World->Prop} {e:Env} {w:World} {rest:List Oper} {f d:Nat} {fn:Func} {xs:Array Operand} {ts:Array TypeId} {vs:Array Value} {G:Value->World->Prop} {c:Operand} {ty:TypeId} {pos:String} {af:Array Edge} {ops:Array Oper} [hf:Fun P f fn] (h:Calls P f vs w (Ret G)) (k:∀ v w',G v w'->WL P n ops Q rest ((d,v) :: e) w') (hc:ev e c=some (.func (.func f) #[] #[]):=by exact rfl) (hv:∀ a,Has n e a->xs.map a.eval=vs:=by first|exact Z8X|exact ZO rfl|exact Zh rfl rfl|exact ZL rfl rfl rfl|exact Z67 rfl rfl rfl rfl|exact ZrU rfl rfl rfl rfl rfl) (hd:Nat.blt d n=true:=by exact rfl):WL P n ops Q (⟨some d,.call { callee:=.value c,args:=xs,argTypes:=ts },ty,pos,af,none⟩ :: rest) e w:=Z0 (Z3 hc hv h) hd k
theorem CM {P:Program} {n:Nat} {Q:Exit->Act->World->Prop} {e:Env} {w:World} {rest:List Oper} {f d:Nat} {fn:Func} {xs:Array Operand} {ts:Array TypeId} {vs:Array Value} {G:Value->World->Prop} {c:Operand} {ty:TypeId} {pos:String} {af:Array Edge} {ops:Array Oper} [hf:Fun P f fn] (hv:∀ a,Has n e a->xs.map a.eval=vs) (h:Calls P f vs w (Ret G)) (k:∀ v w',G v w'->WL P n ops Q rest ((d,v) :: e) w') (hc:ev e c=some (.func (.func f) #[] #[]):=by exact rfl) (hd:Nat.blt d n=true:=by exact rfl):WL P n ops Q (⟨some d,.call { callee:=.value c,args:=xs,argTypes:=ts },ty,pos,af,none⟩ :: rest) e w:=Z0 (Z3 hc hv h) hd k
theorem DC {P:Program} {n:Nat} {S Lt:List Nat} {Q:Exit->Act->World->Prop} {e:Env} {w:World} {ord:List (Nat×Nat)} {i f d:Nat} {fn:Func} {gd:Option (Nat×Bool)} {xs:Array Operand} {ts:Array TypeId} {vs:Array Value} {G:Value->World->Prop} {c:Operand} {ty:TypeId} {pos:String} {af:Array Edge} {ops:Array Oper} [hf:Fun P f fn] (h:Calls P f vs w (Ret G)) (hG:∀ v w',G v w'->Stp S w w') (k:∀ v w',G v w'->WD P n ops S Lt Q ord ((d,v) :: e) w') (hi:ops[i]?=some ⟨some d,.call { callee:=.value c,args:=xs,argTypes:=ts },ty,pos,af,gd⟩:=by exact rfl) (hg:JV ops e gd:=by first|exact trivial|exact rfl) (hc:ev e c=some (.func (.func f) #[] #[]):=by exact rfl) (hv:∀ a,Has n e a->xs.map a.eval=vs:=by first|exact Z8X|exact ZO rfl|exact Zh rfl rfl|exact ZL rfl rfl rfl|exact Z67 rfl rfl rfl rfl|exact ZrU rfl rfl rfl rfl rfl) (hd:Nat.blt d n=true:=by exact rfl):WD P n ops S Lt Q ((i,2) :: ord) e w:=Z9 hi hg (Z3 hc hv h) hG hd k
inductive Nd where
 | mk (kind n:Int) (s:Str) (kids:List Nd)
namespace Nd
def kind:Nd->Int|mk k _ _ _=>k
def num:Nd->Int|mk _ n _ _=>n
def word:Nd->Str|mk _ _ s _=>s
def kids:Nd->List Nd|mk _ _ _ l=>l
theorem eta (x:Nd):x=mk x.kind x.num x.word x.kids:=by cases x;rfl
theorem ind {P:Nd->Prop} (h:∀ k n s l,(∀ x∈l,P x)->P (mk k n s l)):∀ x,P x
 | mk k n s l=>h k n s l (λx hx=>ind h x)
 decreasing_by
  have:=List.sizeOf_lt_of_mem hx;simp only [mk.sizeOf_spec];omega
end Nd
inductive Z3O (X:List Nat) (w:World):Nd->List Value->Prop
 | mk (k n : Int) (s : Str) (l : List Nd) (p : Option Addr) (c : Nat) (b o : Nat) (css : Nat -> List Value) (hl : l.length <= c) (hm : c <= maxLen) (hn : p = none -> c = 0)
    (hp:0<l.length->p=some ⟨b,o,none⟩/\b<w.heap.size/\b∉X) (hr:∀ i (h:i<l.length),Z3O X w l[i] (css i))
    (hc:∀ i,i<l.length->∀ j u,(css i)[j]?=some u->w.cell? ⟨b,o+i * 4+j,none⟩=some u) :
    Z3O X w (.mk k n s l) [.I k,.I n,str s,.slice p l.length c]
theorem Z3O.ext {X S X':List Nat} {w w':World} {x:Nd} {cs:List Value} (h:Z3O X w x cs) (hS:Stp S w w') (h1:∀ b∈S,b∈X) (h2:∀ b∈X',b∈X\/w.heap.size<=b):Z3O X' w' x cs:=by
 induction h with
 | mk k n s l p c b o css hl hm hn hp hr hc ih=>
   refine .mk k n s l p c b o css hl hm hn (λh0=>?_) ih (λi hi j u hu=>?_);obtain ⟨e1,e2,e3⟩:=hp h0;refine ⟨e1,Xi e2 hS.size,λhb=>?_⟩;rcases h2 b hb with h|h
   exact e3 h;omega;obtain ⟨_,_,e3⟩:=hp (by omega);exact hS.cell (λhb=>e3 (h1 b hb)) (hc i hi j u hu)
instance:Z5 Nd where
 k:=4
 rep:=Z3O
 len:=by intro X w x cs h;cases h;rfl
 one:=by
  intro X w x cs h u hu;cases h;simp at hu;rcases hu with rfl|rfl|rfl|rfl<;>rfl
 ext:=Z3O.ext
def NdV (X:List Nat) (w:World) (v:Value) (x:Nd):Prop:=∃ kv,v=.agg #[.I x.kind,.I x.num,str x.word,kv]/\SlV X w kv x.kids
theorem Zhr {X:List Nat} {w} {x:Nd} {cs:List Value} (h:Z3O X w x cs):∃ kv,cs=[.I x.kind,.I x.num,str x.word,kv]/\SlV X w kv x.kids:=by
 cases h with
 | mk k n s l p c b o css hl hm hn hp hr hc=>
   refine ⟨_,rfl,p,c,rfl,hl,hm,hn,λi hi=>?_⟩;obtain ⟨e1,e2,e3⟩:=hp (by show 0<l.length;have:i<l.length:=hi;omega);exact ⟨b,o,css i,e1,e2,e3,hr i hi,hc i hi⟩
theorem Z27 {X:List Nat} {w} {k n:Int} {s:Str} {l:List Nd} {kv:Value} (h:SlV X w kv l):Z3O X w (.mk k n s l) [.I k,.I n,str s,kv]:=by
 obtain ⟨p,c,rfl,hl,hm,hn,hc⟩:=h;have aD:∀ i:Fin l.length,∃ cs:List Value,∃ b o,p=some ⟨b,o,none⟩/\b<w.heap.size/\b∉X/\Z3O X w l[i] cs/\∀ j u,cs[j]?=some u->w.cell? ⟨b,o+i * 4+j,none⟩=some u:=by
  intro i;obtain ⟨b,o,cs,h1,h2,h3,h4,h5⟩:=hc i i.2;exact ⟨cs,b,o,h1,h2,h3,h4,h5⟩
 obtain ⟨f,hf⟩:=Classical.axiomOfChoice aD;by_cases h0:0<l.length;obtain ⟨b,o,e1,e2,e3,_⟩:=hf ⟨0,h0⟩;refine .mk k n s l p c b o (λi=>if h:i<l.length then f ⟨i,h⟩ else []) hl hm hn (λ_=>⟨e1,e2,e3⟩) (λi hi=>?_) (λi hi j u hu=>?_);obtain ⟨_,_,_,_,_,g,_⟩:=hf ⟨i,hi⟩;simpa [hi] using g;obtain ⟨b',o',g1,_,_,_,g⟩:=hf ⟨i,hi⟩;rw [e1] at g1;simp only [Xl,Addr.mk.injEq] at g1;obtain ⟨rfl,rfl,_⟩:=g1;exact g j u (by simpa [hi] using hu);exact .mk k n s l p c 0 0 (λ_=>[]) hl hm hn (λh=>absurd h h0) (λi hi=>by omega) (λi hi=>by omega)
theorem NdV.up {X:List Nat} {w w':World} {v:Value} {x:Nd} (h:NdV X w v x) (hS:Stp [] w w'):NdV X w' v x:=by
 obtain ⟨kv,rfl,hs⟩:=h;exact ⟨kv,rfl,hs.up hS⟩
theorem SlV.nd {X:List Nat} {w} {v:Value} {l:List Nd} {i:Nat} (h:SlV X w v l) (hi:i<l.length):∃ kv,SlV X w kv l[i].kids/\∀ j u,[Value.int .i64 l[i].kind,.I l[i].num,str l[i].word,kv][j]?=some u->w.cell? (ZB v i 4 j)=some u:=by
 obtain ⟨cs,hr,hc⟩:=h.cell hi;obtain ⟨kv,rfl,hs⟩:=Zhr hr;exact ⟨kv,hs,hc⟩
section
variable {P:Program} {n:Nat} {e:Env} {w:World} {d:Option Nat} {ty:TypeId} {pos:String} {af:Array Edge} {g:Option (Nat×Bool)}
theorem Jv {X:List Nat} {v:Value} {l:List Nd} {i:Nat} {kv:Value} {x:Operand} {t:TypeId} {D:TypeDesc} [hu:Und P t D] (hA:Z0h D=true) [br:Siz P t 4] (hx:ev e x=some (.pointer (some (ZB v i 4 0)))) (hs:SlV X w v l) (hi:i<l.length)
 (hc:∀ j u,[Value.int .i64 l[i].kind,.I l[i].num,str l[i].word,kv][j]?=some u->w.cell? (ZB v i 4 j)=some u) :
 PR P n ⟨d,.load t x,ty,pos,af,g⟩ e w (.agg #[.I l[i].kind,.I l[i].num,str l[i].word,kv]):=by
 obtain ⟨p,l',c,rfl⟩:=hs.isSome hi;refine Z25 (cs:=[.I l[i].kind,.I l[i].num,str l[i].word,kv]) hA hx rfl (λj u hu=>?_);have:=hc j u hu;simpa [ZB] using this
end
end Go.Eng
namespace Go.Proofs.YteibicnbkggiiaaGreatDoor
open Go Go.Eng Go.RowKit
abbrev ndC (x:Nd) (kv:Value):List Value:=[.I x.kind,.I x.num,str x.word,kv]
theorem Jo {X:List Nat} {w} {x:Nd} {kv:Value} {l:List Nd} (h:SlV X w kv l):∀ c∈ndC x kv,c.oneCell'=true:=by
 intro c hc;simp only [ndC,Xa,Xo,or_false] at hc;rcases hc with rfl|rfl|rfl|rfl
 rfl;rfl;rfl;exact h.one
def Z0w:Nat->Nd->Bool
 | 0,_=>false
 | m+1,x=>x.kids.all (Z0w m)
theorem Z7N {α:Type} (p:α->Bool) (l:List α) (k:Nat) (hk:k<l.length):(l.take (k+1)).all p=((l.take k).all p && p l[k]):=by
 rw [Xj hk,List.all_append];simp
theorem Zc6 (m:Nat):∀ (X:List Nat) (v:Value) (x:Nd) (z:Int) (w),z=(m:Int)->m<=1000->NdV X w v x->
 CC 233 #[v,.I z] w λr w'=>r=.B (Z0w m x)/\Stp [] w w':=by
 induction m with
 | zero=>
   intro X v x z w hz hm hx;obtain ⟨kv,rfl,hs⟩:=hx;refine cW2 22 Tryz.func233 ?_;refine W ?_;refine Z0 (Zn rfl) rfl ?_;rintro _ w1 ⟨b,rfl,hb,ab,hS⟩;refine RT ?_;exact ⟨rfl,hS⟩
 | succ m ih=>
   intro X v x z w hz hm hx;obtain ⟨kv,rfl,hs⟩:=hx;have aW:=hs.max;refine cW2 22 Tryz.func233 ?_;refine W ?_;refine Z0 (Zn rfl) rfl ?_;rintro _ w1 ⟨b,rfl,hb,ab,hS⟩;replace ab:Blk w1 b _ (ndC x kv):=ab;replace hs:=hs.up hS;refine QO ?_;have bM:=hs;refine LP (σ:=Nat) (λk=>[(1,.I z),(10,kv),(11,.I (x.kids.length:Int)),(12,.I k)]) (λk w'=>k<=x.kids.length/\Stp [] w1 w'/\(x.kids.take k).all (Z0w m)=true) (λk=>x.kids.length - k) 0 ⟨Xu _,Stp.refl _ _,rfl⟩ ?_;clear hs;rintro k w2 ⟨hk,ak,aD⟩;have hs:=bM.up ak;by_cases hlt:k<x.kids.length
   . have cF:=Z7N (Z0w m) x.kids k hlt
     rw [aD,Ybl] at cF;obtain ⟨kv2,aO,bT⟩:=hs.nd hlt;refine QO ?_;apply Za (Jv rfl rfl hs hlt bT) rfl;refine Z0 Z4 rfl ?_;rintro _ w3 ⟨b3,rfl,eD,aM,az⟩;refine SB (us:=ndC x.kids[k] kv2) (Jo aO) aM ?_;rintro _ w4 ⟨aF,bo⟩;have lh:=az.ow aF;replace ak:=ak.trans lh;replace aO:=aO.up lh;refine W ?_;refine Z0 (Z3 rfl (Zh rfl rfl) (ih X _ x.kids[k] _ _ (by omega) (by omega) ⟨kv2,rfl,aO⟩)) rfl ?_;rintro _ w5 ⟨rfl,aC⟩;replace ak:=ak.trans aC;cases hq:Z0w m x.kids[k] with
     | true=>
       refine W ?_;exact QL (k+1) ⟨hlt,ak,by rw [cF,hq]⟩ (by omega)
     | false=>
       refine W ?_;refine WR ?_;refine .mk ⟨?_,hS.trans ak⟩;have:Z0w (m+1) x=false:=by
        show x.kids.all (Z0w m)=false;rw [List.all_eq_false];exact ⟨_,Xc hlt,by simp [hq]⟩
       rw [this]
   have dK:k=x.kids.length:=by omega
   subst dK;rw [Xs] at aD;refine QO ?_;refine WR ?_;refine .mk ⟨?_,hS.trans ak⟩;show _=Value.bool (x.kids.all (Z0w m));rw [aD]
end Go.Proofs.YteibicnbkggiiaaGreatDoor
namespace Go.Eng
open Go Go.RowKit Go.Proofs
class Z6C (P:Program) (kt:Nat) (κ:outParam Type) [DecidableEq κ] where
 enc:κ->Value
 chk:∀ (em:Bool) (a:κ) (w:World),(Instr.checkKey em 10000 kt (enc a)).run P w=.ok () w
 find:∀ (a:κ) (es:List MapEntry) (l:List κ) (w:World),es.map (·.key)=l.map enc->
  (Instr.findKey kt (enc a) es).run P w=.ok ((l.findIdx? (λb=>decide (b=a))).bind λi=>(es[i]?).map λe=>(i,e.val)) w
def Jf {κ:Type} (enc:κ->Value) (w:World) (r:Nat) (l:List (κ×Value)):Prop:=
 ∃ (es:Array MapEntry) (clock:Nat),w.heap[r]?=some (.map es clock)/\es.toList.map (·.key)=l.map (λp=>enc p.1)/\es.toList.map (·.val)=l.map (·.2)
theorem Jf.lt {κ:Type} {enc:κ->Value} {w} {r:Nat} {l:List (κ×Value)} (h:Jf enc w r l):r<w.heap.size:=by
 obtain ⟨es,c,h1,_⟩:=h;exact (Xm.1 h1).1
theorem Jf.ext {κ:Type} {enc:κ->Value} {S:List Nat} {w w':World} {r:Nat} {l:List (κ×Value)} (h:Jf enc w r l) (hS:Stp S w w') (hr:r∉S):Jf enc w' r l:=by
 have hlt:=h.lt;obtain ⟨es,c,h1,h2⟩:=h;exact ⟨es,c,by rw [hS.block r hlt hr];exact h1,h2⟩
theorem Jf.up {κ:Type} {enc:κ->Value} {w w':World} {r:Nat} {l:List (κ×Value)} (h:Jf enc w r l) (hS:Stp [] w w'):Jf enc w' r l:=h.ext hS (by simp)
def Z0t {κ:Type} [DecidableEq κ] (l:List (κ×Value)) (a:κ) (z:Value):Value:=match l.find? (λp=>decide (p.1=a)) with|some p=>p.2|none=>z
theorem Z47 {d:TypeDesc} {κ:Type} [DecidableEq κ] (enc:κ->Value) (h:∀ a b:κ,Instr.sameNow d (enc a) (enc b)=some (decide (a=b))) (a:κ):∀ (es:List MapEntry) (l:List κ) (i:Nat),es.map (·.key)=l.map enc->
 Instr.findNow d (enc a) es i=some ((l.findIdx? (λb=>decide (b=a))).bind λj=>(es[j]?).map λe=>(i+j,e.val))
 | [],[],i,_=>by simp [Instr.findNow]
 | [],_ :: _,i,h=>by simp at h
 | _ :: _,[],i,h=>by simp at h
 | e :: es, b :: l, i, hk => by
   simp only [XD,YbY] at hk;obtain ⟨h1,h2⟩:=hk;have ih:=Z47 enc h a es l (i+1) h2;simp only [Instr.findNow,h1,h];by_cases bK:a=b;subst bK;simp [Ybq]
   . have n4:¬ b=a:=λh=>bK h.symm
     simp only [decide_eq_false bK,ih,Ybq,decide_eq_false n4,YaK,if_false];cases l.findIdx? (λb=>decide (b=a)) with
     | none=>rfl
     | some j=>
       simp only [X1,YaN,Ya2];rw [show i+1+j=i+(j+1) by omega]
theorem Z21 {P:Program} {kt:Nat} {κ:Type} [DecidableEq κ] (enc:κ->Value) (h:∀ (a b:κ) (w),(Op.equal kt (enc a) (enc b)).run P w=.ok (decide (a=b)) w) (a:κ) (w):∀ (es:List MapEntry) (l:List κ) (i:Nat),es.map (·.key)=l.map enc->
 (Instr.findAsking kt (enc a) es i).run P w=.ok ((l.findIdx? (λb=>decide (b=a))).bind λj=>(es[j]?).map λe=>(i+j,e.val)) w
 | [],[],i,_=>by simp [Instr.findAsking]
 | [],_ :: _,i,h=>by simp at h
 | _ :: _,[],i,h=>by simp at h
 | e :: es, b :: l, i, hk => by
   simp only [XD,YbY] at hk;obtain ⟨h1,h2⟩:=hk;have ih:=Z21 enc h a w es l (i+1) h2;simp only [Instr.findAsking,h1];by_cases bK:a=b;subst bK;simp [Ybq,h]
   . have n4:¬ b=a:=λh=>bK h.symm
     simp only [Sem.run_bind,h,decide_eq_false bK,Result.andThen,Ybq,decide_eq_false n4,YaK,if_false,ih];cases l.findIdx? (λb=>decide (b=a)) with
     | none=>rfl
     | some j=>
       simp only [X1,YaN,Ya2];rw [show i+1+j=i+(j+1) by omega]
instance {P:Program} {kt:Nat} [hu:Und P kt (.int .i64)]:Z6C P kt Int where
 enc:=λz=>.I z
 chk:=λem a w=>MapKept.run_checkKey (k:=.I a) hu.h (by simp [MapKept.IsKey]) em 9999
 find:=λa es l w hk=>by
  have:=Z47 (d:=.int .i64) (λz:Int=>Value.int .i64 z) (λa b=>by simp [Instr.sameNow,YaW]) a es l 0 hk;simpa using MapKept.run_findKey (w:=w) hu.h this
instance Zn8 {P:Program} {kt:Nat} [hu:Und P kt .string]:Z6C P kt Str where
 enc:=str
 chk:=λem a w=>MapKept.run_checkKey (k:=str a) hu.h (by simp [MapKept.IsKey]) em 9999
 find:=λa es l w hk=>by
  have:=Z47 (d:=.string) str (λa b=>by
   simp only [Instr.sameNow,Xl];rw [beq_toListBytes,Zl8]) a es l 0 hk
  simpa using MapKept.run_findKey (w:=w) hu.h this
section
variable {P:Program} {n:Nat} {e:Env} {w:World} {d:Option Nat} {ty:TypeId} {pos:String} {af:Array Edge} {g:Option (Nat×Bool)}
theorem Z06 {t:TypeId} {κ:Type} (enc:κ->Value):OE P n ⟨d,.makeMap t none,ty,pos,af,g⟩ e w (λv w'=>∃ r,v=.map (some r)/\w.heap.size<=r/\Jf enc w' r []/\Stp [] w w'):=
 Zv (v:=.map (some w.heap.size)) (w':=w.alloc (.map #[] 0)) (λa ha=>by
  simp [execOp,run_makeMap]) ⟨_,rfl,Xq _,⟨#[],0,heap_alloc_new w _,rfl,rfl⟩,Stp.alloc _ _ _⟩
theorem Z6D {κ:Type} [DecidableEq κ] {l:List κ} {a:κ} (h:∀ b∈l,¬ b=a):l.findIdx? (λb=>decide (b=a))=none:=by
 rw [Yas];intro b hb;simp [h b hb]
theorem Z6E {mt kt et r:Nat} {κ:Type} [DecidableEq κ] [hm:Und P mt (.map kt et)] [K:Z6C P kt κ] {l:List (κ×Value)} {a:κ} {v:Value} (hr:Jf K.enc w r l) (hn:∀ p∈l,¬ p.1=a) :
 ∃ w',(Instr.mapUpdate mt (.map (some r)) (K.enc a) v).run P w=.ok () w'/\Jf K.enc w' r (l++[(a,v)])/\Stp [r] w w':=by
 obtain ⟨es,clock,h1,h2,h3⟩:=hr;have hf:(Instr.findKey kt (K.enc a) es.toList).run P w=.ok none w:=by
  have hk:es.toList.map (·.key)=(l.map (·.1)).map K.enc:=by rw [h2,XY];rfl
  rw [K.find a es.toList (l.map (·.1)) w hk,Z6D (by simpa using hn)];rfl
 have hlt:r<w.heap.size:=(Xm.1 h1).1;refine ⟨{ w with heap:=w.heap.setIfInBounds r (.map (es.push { key:=K.enc a,val:=v,born:=clock }) (clock+1)) },?_,?_,?_⟩;simp [Instr.mapUpdate,run_underlying hm.h,MapKept.run_getObj_map h1,K.chk,hf,MapKept.run_setObj_map _ h1,Result.andThen];refine ⟨es.push { key:=K.enc a,val:=v,born:=clock },clock+1,by simp [hlt],?_,?_⟩;simp [h2];simp [h3];refine ⟨rfl,rfl,rfl,by simp,λb hb hn=>?_⟩;simp only [Xn] at hn;simp [Yad (λh=>hn h.symm)]
theorem Zm {mt kt et r:Nat} {κ:Type} [DecidableEq κ] {x y z:Operand} [hm:Und P mt (.map kt et)] [K:Z6C P kt κ] {l:List (κ×Value)} {a:κ} {v:Value} (hx:ev e x=some (.map (some r))) (hy:ev e y=some (K.enc a)) (hz:ev e z=some v) (hr:Jf K.enc w r l) (hn:∀ p∈l,¬ p.1=a) :
 OE P n ⟨d,.insert mt x y z,ty,pos,af,g⟩ e w (λ_ w'=>Jf K.enc w' r (l++[(a,v)])/\Stp [r] w w'):=by
 obtain ⟨w',h1,h2,h3⟩:=Z6E (mt:=mt) (v:=v) hr hn;exact Z2o (w':=w') (λc hc=>by simp [execOp,hc.ev hx,hc.ev hy,hc.ev hz,h1]) ⟨h2,h3⟩
theorem Z0J {mt kt et r:Nat} {κ:Type} [DecidableEq κ] {x y z:Operand} [hm:Und P mt (.map kt et)] [K:Z6C P kt κ] {l:List (κ×Value)} {a:κ} {v:Value} (hx:ev e x=some (.map (some r))) (hy:ev e y=some (K.enc a)) (hz:ev e z=some v) (hr:Jf K.enc w r l) (hn:∀ p∈l,¬ p.1=a) :
 OE P n ⟨d,.mapUpdate mt x y z,ty,pos,af,g⟩ e w (λ_ w'=>Jf K.enc w' r (l++[(a,v)])/\Stp [r] w w'):=by
 obtain ⟨w',h1,h2,h3⟩:=Z6E (mt:=mt) (v:=v) hr hn;exact Z2o (w':=w') (λc hc=>by simp [execOp,hc.ev hx,hc.ev hy,hc.ev hz,h1]) ⟨h2,h3⟩
theorem Z0K {mt kt et r:Nat} {κ:Type} [DecidableEq κ] {x y:Operand} {z:Value} [hm:Und P mt (.map kt et)] [K:Z6C P kt κ] [hz:Zer P et z] {l:List (κ×Value)} {a:κ} (hx:ev e x=some (.map (some r))) (hy:ev e y=some (K.enc a)) (hr:Jf K.enc w r l) :
 PR P n ⟨d,.lookup mt x y false,ty,pos,af,g⟩ e w (Z0t l a z):=by
 refine ⟨λc hc=>?_⟩;obtain ⟨es,clock,h1,h2,h3⟩:=hr;have hk:es.toList.map (·.key)=(l.map (·.1)).map K.enc:=by rw [h2,XY];rfl
 have hf:=K.find a es.toList (l.map (·.1)) w hk;have ai:es.toList.length=l.length:=by have:=congrArg List.length h3;simpa using this
 have hv:∀ i:Nat,(es.toList[i]?).map (λx:MapEntry=>x.val)=(l[i]?).map (λx:κ×Value=>x.2):=λi=>by
  have:=congrArg (λx=>x[i]?) h3;simpa using this
 have lj:Z0t l a z=match (l.map (·.1)).findIdx? (λb=>decide (b=a)) with|some i=>((es.toList[i]?).map (λx:MapEntry=>x.val)).getD z|none=>z:=by
  unfold Z0t;rw [List.findIdx?_map];cases hi:l.findIdx? ((λb=>decide (b=a)) ∘ λx=>x.1) with
  | none=>
    have:l.find? (λp=>decide (p.1=a))=none:=by
     rw [Yaw];intro p hp;have:=(Yas.1 hi) p hp;simpa using this
    rw [this]
  | some i=>
    obtain ⟨hlt,hp,hb⟩:=X8.1 hi;have:l.find? (λp=>decide (p.1=a))=some l[i]:=by
     rw [List.find?_eq_some_iff_getElem];exact ⟨by simpa using hp,i,hlt,rfl,λj hj=>by simpa using hb j hj⟩
    rw [this];simp only [hv,XC hlt,YaN,YaR]
 rw [lj];simp only [execOp,hc.ev hx,hc.ev hy];cases hi:(l.map (·.1)).findIdx? (λb=>decide (b=a)) with
 | none=>
   rw [hi] at hf;simp [Instr.lookup,run_underlying hm.h,MapKept.run_getObj_map h1,K.chk,hf,Result.andThen,Zer.run]
 | some i=>
   obtain ⟨hlt,_⟩:=X8.1 hi;have ea:i<es.toList.length:=by rw [ai];simpa using hlt
   rw [hi] at hf;simp only [X1,XC ea,YaN] at hf;simp [Instr.lookup,run_underlying hm.h,MapKept.run_getObj_map h1,K.chk,hf,Result.andThen,XC ea]
end
end Go.Eng
namespace Go.Proofs.YteibicnbkggiiaaGreatDoor
open Go Go.Eng Go.RowKit
def idx {α:Type} (p:α->Bool) (xs:List α):Int:=match xs.findIdx? p with|some i=>(i:Int)|none=>-1
theorem Z56 {α:Type} {p:α->Bool} {xs:List α} {k:Nat} (hk:k<xs.length) (hp:p xs[k]=true) (hb:∀ j (h:j<xs.length),j<k->p xs[j]=false):idx p xs=k:=by
 have:xs.findIdx? p=some k:=X8.2 ⟨hk,hp,λj hj=>by simp [hb j (by omega) hj]⟩;simp [idx,this]
theorem Z30 {α:Type} {p:α->Bool} {xs:List α} (hb:∀ j (h:j<xs.length),p xs[j]=false):idx p xs=-1:=by
 have:xs.findIdx? p=none:=by
  rw [Yas];intro x hx;obtain ⟨j,hj,rfl⟩:=Xv hx;simp [hb j hj]
 simp [idx,this]
abbrev isS (a:Str):Str->Bool:=λx=>decide (x=a)
theorem Z8d (X:List Nat) (v:Value) (l:List Str) (a:Str) (w) (hs:SlV X w v l):CC 270 #[v,str a] w λr w'=>r=.I (idx (isS a) l)/\Stp [] w w':=by
 have aW:=hs.max;refine cW2 19 Tryz.func270 ?_;refine W ?_;refine LP (σ:=Nat) (λk=>[(0,v),(1,str a),(8,.I k),(7,.I (l.length:Int))]) (λk w'=>k<=l.length/\Stp [] w w'/\∀ j (h:j<l.length),j<k->isS a l[j]=false) (λk=>l.length - k) 0 ⟨Xu _,Stp.refl _ _,λj _ h=>absurd h (Xy _)⟩ ?_;have bM:=hs;clear hs;rintro k w1 ⟨hk,hS,aY⟩;have hs:=bM.up hS;by_cases hlt:k<l.length
 (refine QP ?_ ?_<;>intro hc)
 refine WR ?_;have gt:isS a l[k]=true:=by simpa [isS,eq_comm] using hc
 exact .mk ⟨by rw [Z56 hlt gt aY],hS⟩;refine QL (k+1) ⟨hlt,hS,λj h hj=>?_⟩ (by omega);by_cases e:j=k;subst e;simpa [isS,eq_comm] using hc;exact aY j h (by omega);have dK:k=l.length:=by omega
 subst dK;refine RT ?_;exact ⟨by rw [Z30 (λj h=>aY j h h)],hS⟩
theorem JP (X:List Nat) (v:Value) (l:List Str) (a:Str) (w) (hs:SlV X w v l):CC 145 #[v,str a] w λr w'=>r=.I (idx (isS a) l)/\Stp [] w w':=by
 have aW:=hs.max;refine cW2 19 Tryz.func145 ?_;refine W ?_;refine LP (σ:=Nat) (λk=>[(0,v),(1,str a),(5,.I k)]) (λk w'=>k<=l.length/\Stp [] w w'/\∀ j (h:j<l.length),j<k->isS a l[j]=false) (λk=>l.length - k) 0 ⟨Xu _,Stp.refl _ _,λj _ h=>absurd h (Xy _)⟩ ?_;have bM:=hs;clear hs;rintro k w1 ⟨hk,hS,aY⟩;have hs:=bM.up hS;by_cases hlt:k<l.length
 (refine QP ?_ ?_<;>intro hc)
 refine WR ?_;have gt:isS a l[k]=true:=by simpa [isS,eq_comm] using hc
 exact .mk ⟨by rw [Z56 hlt gt aY],hS⟩;refine QL (k+1) ⟨hlt,hS,λj h hj=>?_⟩ (by omega);by_cases e:j=k;subst e;simpa [isS,eq_comm] using hc;exact aY j h (by omega);have dK:k=l.length:=by omega
 subst dK;refine RT ?_;exact ⟨by rw [Z30 (λj h=>aY j h h)],hS⟩
theorem Z31 (X:List Nat) (v:Value) (l:List Str) (a:Str) (w) (hs:SlV X w v l):CC 174 #[v,str a] w λr w'=>r=.I (idx (isS a) l)/\Stp [] w w':=by
 have aW:=hs.max;refine cW2 19 Tryz.func174 ?_;refine W ?_;refine LP (σ:=Nat) (λk=>[(0,v),(1,str a),(5,.I k)]) (λk w'=>k<=l.length/\Stp [] w w'/\∀ j (h:j<l.length),j<k->isS a l[j]=false) (λk=>l.length - k) 0 ⟨Xu _,Stp.refl _ _,λj _ h=>absurd h (Xy _)⟩ ?_;have bM:=hs;clear hs;rintro k w1 ⟨hk,hS,aY⟩;have hs:=bM.up hS;by_cases hlt:k<l.length
 (refine QP ?_ ?_<;>intro hc)
 refine WR ?_;have gt:isS a l[k]=true:=by simpa [isS,eq_comm] using hc
 exact .mk ⟨by rw [Z56 hlt gt aY],hS⟩;refine QL (k+1) ⟨hlt,hS,λj h hj=>?_⟩ (by omega);by_cases e:j=k;subst e;simpa [isS,eq_comm] using hc;exact aY j h (by omega);have dK:k=l.length:=by omega
 subst dK;refine RT ?_;exact ⟨by rw [Z30 (λj h=>aY j h h)],hS⟩
def Zd:List Str:=[[100,97,121],[115,101,114,118,101,100],[101,120,116,114,97],[98,121],[116,111],[99,111,117,114,116],[97,109,111,117,110,116]]
abbrev Z2S:Value:=.slice (some ⟨0,0,none⟩) 7 7
def ZK (a:Str):Int×Int×Bool:=
 let i:=idx (isS a) Zd
 if i<0 then (0,0,false) else if i<=1 then (i,3,true) else (i,1,true)
abbrev Zum (x:Int×Int×Bool):Value:=.tuple #[.I x.1,.I x.2.1,.B x.2.2]
theorem ZeH (a:Str) (w) (hF:SlV [] w Z2S Zd):CC 235 #[str a] w λr w'=>r=Zum (ZK a)/\Stp [] w w':=by
 refine cW1 17 Tryz.func235 ?_;refine W ?_;apply Za (Z55 rfl) rfl;refine W ?_;refine CL (Z8d [] _ _ a _ hF) ?_;rintro _ w1 ⟨rfl,hS⟩;unfold ZK;generalize idx (isS a) Zd=i;repeat'(first|refine W1 ?_|refine VG ?_ ?_<;>intro hg|refine VC ?_ ?_<;>intro hc)
 all_goals (refine WR ?_)
 exact .mk ⟨by simp only [if_pos hc],hS⟩;rename_i h1;exact .mk ⟨by simp only [if_neg h1,if_pos hc],hS⟩;rename_i h1;exact .mk ⟨by simp only [if_neg h1,if_neg hc],hS⟩
def wst (s:Str):Nat->List Str×Nat
 | 0=>([],0)
 | k+1=>if k=s.length\/J5 s k=32 then ((wst s k).1++[(s.take k).drop (wst s k).2],k+1) else wst s k
def Z1h (s:Str):List Str:=(wst s (s.length+1)).1
theorem Zhs (s:Str):∀ k,(wst s k).2<=k/\(wst s k).1.length<=k
 | 0=>by simp [wst]
 | k + 1 => by
   have:=Zhs s k;simp only [wst];split;simp;omega;omega
theorem Zht (a:Str) (w):(Instr.buildSlice 168 1 #[(0,str a)]).run Tryz.prog w=.ok (.slice (some ⟨w.heap.size,0,none⟩) 1 1) (w.alloc (.cells #[str a] 9)):=by kernel_rfl
theorem Z0r (X:List Nat) (s:Str) (w:World) (hX:∀ b∈X,b<w.heap.size) (hl:s.length<=1000) :
 CC 206 #[str s] w λr w'=>Row X w' w.heap.size 9 r (Z1h s)/\Stp [] w w':=by
 refine cW1 32 Tryz.func206 ?_;refine W ?_;refine LP (σ:=Nat×Value) (λq=>[(0,str s),(3,q.2),(4,.I ((wst s q.1).2:Int)),(5,.I (q.1:Int))]) (λq w'=>q.1<=s.length+1/\Row X w' w.heap.size 9 q.2 (wst s q.1).1/\Stp [] w w') (λq=>s.length+1 - q.1) (0,.N) ⟨by simp,Row.nil,Stp.refl _ _⟩ ?_;rintro ⟨k,v⟩ w1 ⟨hk,ac,hS⟩;dsimp only at hk ac ⊢;obtain ⟨iZ,jC⟩:=Zhs s k;by_cases hlt:k<=s.length
 . have nxt:wst s (k+1)=if k=s.length\/J5 s k=32 then ((wst s k).1++[(s.take k).drop (wst s k).2],k+1) else wst s k:=rfl
   have aT:=hS.size;repeat'(first|refine W1 ?_|omega|refine VG ?_ ?_<;>intro hg|refine VC ?_ ?_<;>intro hc)
   rotate_right
   have aY:¬ (k=s.length\/J5 s k=32):=by rintro (h|h)<;>omega
   rw [if_neg aY] at nxt;refine ZF (k+1,v) ⟨rfl,rfl,by rw [nxt];rfl,rfl,trivial⟩ ⟨by dsimp only;omega,by dsimp only;rw [nxt];exact ac,hS⟩ (by dsimp only;omega)
   all_goals
    have cx:k=s.length\/J5 s k=32:=by omega
    rw [if_pos cx] at nxt;apply Za (Z2s rfl rfl rfl rfl rfl (by omega) (by omega)) rfl;refine Z0 (Z1 (vs:=[(0,str _)]) rfl (Zht _)) rfl ?_;rintro bv w2 hN;have aH:=hN.choose_spec.2.2.2;have aI:SlV (ob v++X) w2 bv [(s.take k).drop (wst s k).2]:=hN.slv (λb hb=>(Xe.1 hb).elim (λh=>(ac.ob_le b h).2) (λh=>Xi (hX b h) aT)) rfl rfl (by simp [maxLen]);clear hN;replace ac:=ac.up aH;replace hS:=hS.trans aH;have aT:=hS.size;refine Z0 (ZA (X:=X) (base:=w.heap.size) rfl (by decide) rfl rfl ac aI (by simp only [Xf,Xh];omega) (by simp only [Xf,Xh,maxLen];omega) aT) rfl ?_;rintro v' w3 ⟨aR,aL,_⟩;refine W ?_;refine ZF (k+1,v') ⟨rfl,rfl,by rw [nxt];rfl,rfl,trivial⟩ ⟨by dsimp only;omega,by dsimp only;rw [nxt];exact aR,hS.own aL (λb hb=>.inr (ac.ob_le b hb).1)⟩ (by dsimp only;omega)
 have dK:k=s.length+1:=by omega
 subst dK;refine RT ?_;exact ⟨ac,hS⟩
theorem _root_.Go.Eng.Row.slv0 {α:Type} [Z5 α] {w} {base T:Nat} {v:Value} {xs:List α} (h:Row [] w base T v xs):SlV [] w v xs:=h.slv (by simp)
theorem Z93:Z1h [100,97,121,32,115,101,114,118,101,100,32,101,120,116,114,97,32,98,121,32,116,111,32,99,111,117,114,116,32,97,109,111,117,110,116]=Zd:=by decide
theorem Zc7 (X:List Nat) (w:World) (hX:∀ b∈X,b<w.heap.size):CC 268 #[] w λr w'=>Row X w' w.heap.size 9 r Zd/\Stp [] w w':=by
 refine cW0 2 Tryz.func268 ?_;refine W ?_;refine CM (ZO rfl) (Z0r X [100,97,121,32,115,101,114,118,101,100,32,101,120,116,114,97,32,98,121,32,116,111,32,99,111,117,114,116,32,97,109,111,117,110,116] _ hX (by decide)) ?_;rintro v w1 ⟨hr,hS⟩;rw [Z93] at hr;refine RT ?_;exact ⟨hr,hS⟩
theorem Z5K (a:Str) (w):CC 211 #[str a] w λr w'=>r=Zum (ZK a)/\Stp [] w w':=by
 refine cW1 15 Tryz.func211 ?_;refine W ?_;refine CM Z8X (Zc7 [] _ (by simp)) ?_;rintro v w1 ⟨hr,hS⟩;refine W ?_;refine CM (Zh rfl rfl) (JP [] _ _ a _ (hr.slv (by simp))) ?_;rintro _ w2 ⟨rfl,ak⟩;replace hS:=hS.trans ak;unfold ZK;generalize idx (isS a) Zd=i;repeat'(first|refine W1 ?_|refine VG ?_ ?_<;>intro hg|refine VC ?_ ?_<;>intro hc)
 all_goals (refine WR ?_)
 exact .mk ⟨by simp only [if_pos hc],hS⟩;rename_i h1;exact .mk ⟨by simp only [if_neg h1,if_pos hc],hS⟩;rename_i h1;exact .mk ⟨by simp only [if_neg h1,if_neg hc],hS⟩
def Z0x (k n:Int) (s:Str):Int:=
 if k=4 then (if n=0 then (ZK s).2.1 else 0) else if ¬ s=[] then 0
 else if k=1 then (if 0<=n/\n<=2147483647 then 1 else 0) else if k=2 then (if 0<=n/\n<=1 then 2 else 0) else if k=3 then (if 0<=n/\n<=3652058 then 3 else 0) else 0
theorem Z57 {a:Str} (h:(ZK a).2.2=false):(ZK a).2.1=0:=by
 unfold ZK at h ⊢;dsimp only at h ⊢;split<;>rename_i h1
 rfl;rw [if_neg h1] at h;split at h<;>simp at h
theorem Zc8 (X:List Nat) (v:Value) (x:Nd) (w) (hx:NdV X w v x) :
 CC 207 #[v] w λr w'=>r=.I (Z0x x.kind x.num x.word)/\Stp [] w w':=by
 obtain ⟨kv,rfl,hs⟩:=hx;refine cW1 69 Tryz.func207 ?_;refine W ?_;refine Z0 (Zn rfl) rfl ?_;rintro _ w1 ⟨b,rfl,hb,ab,hS⟩;replace ab:Blk w1 b _ (ndC x kv):=ab;repeat'(first|refine W1 ?_|omega|refine VG ?_ ?_<;>intro hg|refine VC ?_ ?_<;>intro hc)
 . refine CL (Z5K x.word _) ?_
   rintro _ w2 ⟨rfl,ak⟩;have aY:=@Z57 x.word;have hk:x.kind=4:=hc;generalize gY:ZK x.word=fd at *;obtain ⟨f1,f2,f3⟩:=fd;replace ab:=ab.up ak;replace hS:=hS.trans ak;cases f3 with
   | true=>
     (refine QP ?_ ?_<;>intro hc)
     all_goals (refine WR ?_)
     refine .mk ⟨?_,hS⟩;simp only [Z0x,if_pos hk];rw [if_neg (by assumption)];refine .mk ⟨?_,hS⟩;simp only [Z0x,if_pos hk];rw [if_pos (by omega),gY];rfl
   | false=>
     have h0:=aY rfl;dsimp only at h0;subst h0;refine QO ?_;all_goals (refine WR ?_)
     refine .mk ⟨?_,hS⟩;simp only [Z0x,if_pos hk];split;rw [gY];rfl
 all_goals (refine WR ?_)
 all_goals
  refine .mk ⟨?_,hS⟩;simp only [Z0x];repeat' split
  all_goals first|rfl|omega|(exfalso;simp_all;done)|(exfalso;simp_all;omega)
theorem Zhu (X:List Nat) (v:Value) (x:Nd) (w) (hx:NdV X w v x) (hF:SlV [] w Z2S Zd) :
 CC 280 #[v] w λr w'=>r=.I (Z0x x.kind x.num x.word)/\Stp [] w w':=by
 obtain ⟨kv,rfl,hs⟩:=hx;refine cW1 50 Tryz.func280 ?_;refine W ?_;refine Z0 (Zn rfl) rfl ?_;rintro _ w1 ⟨b,rfl,hb,ab,hS⟩;replace ab:Blk w1 b _ (ndC x kv):=ab;replace hF:=hF.up hS;repeat'(first|refine W1 ?_|omega|refine VG ?_ ?_<;>intro hg|refine VC ?_ ?_<;>intro hc)
 refine CL (ZeH x.word _ hF) ?_;rintro _ w2 ⟨rfl,ak⟩;replace hS:=hS.trans ak;refine QO ?_;refine WR ?_;refine .mk ⟨?_,hS⟩;simp only [Z0x];rw [if_pos (by assumption),if_pos (by assumption)];rfl
 all_goals first
  | (refine Z0 (Z06 (λz : Int => Value.int .i64 z)) rfl ?_
     rintro _ w2 ⟨r,rfl,hr,hm,ak⟩;have qL:=ab.lt;have br:=hS.size;replace ab:=ab.up ak;replace hS:=hS.trans ak;refine Z8 (Zm (a:=(1:Int)) (v:=.I 1) rfl rfl rfl hm (by simp)) ?_;rintro _ w3 ⟨hm,az⟩;replace ab:=ab.ext az (by simp;omega);replace hS:=hS.ow az;refine Z8 (Zm (a:=(2:Int)) (v:=.I 2) rfl rfl rfl hm (by simp)) ?_;rintro _ w4 ⟨hm,aF⟩;replace ab:=ab.ext aF (by simp;omega);replace hS:=hS.ow aF;refine Z8 (Zm (a:=(3:Int)) (v:=.I 3) rfl rfl rfl hm (by simp)) ?_;rintro _ w5 ⟨hm,aC⟩;replace ab:=ab.ext aC (by simp;omega);replace hS:=hS.ow aC;refine W ?_;apply Za (Z0K (a:=x.kind) rfl rfl hm) rfl;refine W ?_;refine WR ?_;refine .mk ⟨?_,hS⟩;have hw:x.word=[]:=by first|assumption|exact Decidable.not_not.1 (by assumption)
     simp only [Z0x,hw,not_true_eq_false,if_false]
     first
      | (have hk : x.kind = 1 := by assumption
         rw [hk,if_neg (by decide),if_pos rfl,if_pos (by omega)];rfl)
      | (have hk : x.kind = 2 := by assumption
         rw [hk,if_neg (by decide),if_neg (by decide),if_pos rfl,if_pos (by omega)];rfl)
      | (have hk : x.kind = 3 := by assumption
         rw [hk,if_neg (by decide),if_neg (by decide),if_neg (by decide),if_pos rfl,if_pos (by omega)];rfl))
  | skip
 all_goals (refine WR ?_)
 all_goals
  refine .mk ⟨?_,hS⟩;simp only [Z0x];repeat' split
  all_goals first|rfl|omega|(exfalso;simp_all;done)|(exfalso;simp_all;omega)
def JW (l want:List Int):Bool:=decide (l=want/\∀ x∈l,x≠0)
theorem Z1i (X Y:List Nat) (u v:Value) (l m:List Int) (w) (hl:SlV X w u l) (hm:SlV Y w v m) :
 CC 208 #[u,v] w λr w'=>r=.B (JW l m)/\Stp [] w w':=by
 have aW:=hl.max;have qM:=hm.max;refine cW2 33 Tryz.func208 ?_
 (refine QP ?_ ?_<;>intro hc)
 refine WR ?_;refine .mk ⟨?_,Stp.refl _ _⟩;congr 1;symm;refine decide_eq_false (λh=>?_);have:=congrArg List.length h.1;omega;have ai:l.length=m.length:=by omega
 have cm:=hl;have qN:=hm;refine LP (σ:=Nat) (λk=>[(0,u),(1,v),(5,.I k)]) (λk w'=>k<=l.length/\Stp [] w w'/\∀ j (h:j<l.length) (h':j<m.length),j<k->l[j]=m[j]/\l[j]≠0) (λk=>l.length - k) 0 ⟨Xu _,Stp.refl _ _,λj _ _ h=>absurd h (Xy _)⟩ ?_;clear hl hm;rintro k w1 ⟨hk,hS,aD⟩;have hl:=cm.up hS;have hm:=qN.up hS;by_cases hlt:k<l.length
 . have jD:k<m.length:=by omega
   refine QO ?_;refine ZDr 16 [] [] [(0,0),(1,0),(2,0),(3,1),(4,0),(5,0),(6,0),(7,1),(8,0),(9,0),(10,0),(11,0),(12,0),(13,1),(14,0),(15,0)] (λw1 ae=>?_);replace hl:=hl.up ae;replace hm:=hm.up ae;replace hS:=hS.trans ae
   (refine QE ?_ ?_<;>intro hg)
   all_goals (repeat'(first|refine W1 ?_|omega|refine VG ?_ ?_<;>intro hg|refine VC ?_ ?_<;>intro hc))
   all_goals first
    | (refine QL (k + 1) ⟨hlt, hS, λj h h' hj => ?_⟩ (by omega)
       by_cases e:j=k;subst e;omega;exact aD j h h' (by omega))
    | (refine WR ?_)
   all_goals
    refine .mk ⟨?_,hS⟩;congr 1;symm;refine decide_eq_false (λh=>?_);obtain ⟨rfl,h2⟩:=h;have:=h2 _ (Xc hlt);omega
 refine QO ?_;refine WR ?_;refine .mk ⟨?_,hS⟩;congr 1;symm;refine decide_eq_true ⟨Ya3 ai (λj h h'=>(aD j h h' (by omega)).1),λx hx=>?_⟩;obtain ⟨j,hj,rfl⟩:=Xv hx;exact (aD j hj (by omega) (by omega)).2
theorem Zo (a:Int) (w):(Instr.buildSlice 22 1 #[(0,.I a)]).run Tryz.prog w=.ok (.slice (some ⟨w.heap.size,0,none⟩) 1 1) (w.alloc (.cells #[.I a] 3)):=by kernel_rfl
theorem Jk (a b:Int) (w):(Instr.buildSlice 22 2 #[(0,.I a),(1,.I b)]).run Tryz.prog w=.ok (.slice (some ⟨w.heap.size,0,none⟩) 2 2) (w.alloc (.cells #[.I a,.I b] 3)):=by kernel_rfl
theorem Zhv (a b c:Int) (w):(Instr.buildSlice 22 3 #[(0,.I a),(1,.I b),(2,.I c)]).run Tryz.prog w=.ok (.slice (some ⟨w.heap.size,0,none⟩) 3 3) (w.alloc (.cells #[.I a,.I b,.I c] 3)):=by kernel_rfl
theorem Z6.stp {w w':World} {T len:Nat} {cs:List Value} {v:Value} (h:Z6 w T len cs v w'):Stp [] w w':=h.choose_spec.2.2.2
def Z0n:List Str:=[[43],[45],[42]]
def Z1K:List Str:=[[60],[60,61],[61],[33,61],[62],[62,61]]
def Z0j:List Str:=[[97,110,100],[111,114]]
theorem Zc9:Z1h [43,32,45,32,42]=Z0n:=by decide
theorem Zca:Z1h [60,32,60,61,32,61,32,33,61,32,62,32,62,61]=Z1K:=by decide
theorem Zcb:Z1h [97,110,100,32,111,114]=Z0j:=by decide
def Z94 (s:Str) (l:List Int):Int:=
 if 0<=idx (isS s) Z0n/\JW l [1,1]=true then 1 else if 0<=idx (isS s) Z1K/\(JW l [1,1]=true\/JW l [3,3]=true) then 2 else if 0<=idx (isS s) Z0j/\JW l [2,2]=true then 2 else 0
theorem Z95 (X:List Nat) (s:Str) (u:Value) (l:List Int) (w) (hl:SlV X w u l) :
 CC 209 #[str s,u] w λr w'=>r=.I (Z94 s l)/\Stp [] w w':=by
 refine cW2 42 Tryz.func209 ?_;refine W ?_;refine Z0 (Z1 (vs:=[(0,.I 1),(1,.I 1)]) rfl (Jk _ _)) rfl ?_;rintro a1 w1 hN;have ha:=hN.slv (X:=[]) (ys:=[(1:Int),1]) (by simp) rfl rfl (by simp [maxLen]);have hS:=Z6.stp hN;clear hN;replace hl:=hl.up hS;refine CL (Z1i _ _ _ _ _ _ _ hl ha) ?_;rintro _ w2 ⟨rfl,ak⟩;replace hl:=hl.up ak;replace hS:=hS.trans ak;refine W ?_;refine Z0 (Z1 (vs:=[(0,.I 3),(1,.I 3)]) rfl (Jk _ _)) rfl ?_;rintro a3 w3 hN;have ha:=hN.slv (X:=[]) (ys:=[(3:Int),3]) (by simp) rfl rfl (by simp [maxLen]);have az:=Z6.stp hN;clear hN;replace hl:=hl.up az;replace hS:=hS.trans az;refine CL (Z1i _ _ _ _ _ _ _ hl ha) ?_;rintro _ w4 ⟨rfl,aF⟩;replace hl:=hl.up aF;replace hS:=hS.trans aF;clear ha;unfold Z94;generalize JW l [1,1]=p1;generalize JW l [3,3]=p3;refine W ?_;refine CM (ZO rfl) (Z0r [] [43,32,45,32,42] _ (by simp) (by decide)) ?_;rintro _ w5 ⟨hr,aC⟩;rw [Zc9] at hr;replace hl:=hl.up aC;replace hS:=hS.trans aC;refine W ?_;refine CL (JP [] _ _ s _ hr.slv0) ?_;rintro _ w6 ⟨rfl,cG⟩;replace hl:=hl.up cG;replace hS:=hS.trans cG;generalize idx (isS s) Z0n=i1;clear hr;cases p1<;>cases p3<;>by_cases hi:0<=i1;all_goals (refine QO ?_)
 all_goals first
  | (refine CM (ZO rfl) (Z0r [] [60, 32, 60, 61, 32, 61, 32, 33, 61, 32, 62, 32, 62, 61] _ (by simp) (by decide)) ?_
     rintro _ w7 ⟨hr,aQ⟩;rw [Zca] at hr;replace hl:=hl.up aQ;replace hS:=hS.trans aQ;refine W ?_;refine CL (JP [] _ _ s _ hr.slv0) ?_;rintro _ w8 ⟨rfl,bZ⟩;replace hl:=hl.up bZ;replace hS:=hS.trans bZ;generalize idx (isS s) Z1K=i2;clear hr;by_cases bI:0<=i2)
  | (refine RU ?_
     exact ⟨by simp [hi],hS⟩)
 all_goals (refine QO ?_)
 all_goals first
  | (refine CM (ZO rfl) (Z0r [] [97, 110, 100, 32, 111, 114] _ (by simp) (by decide)) ?_
     rintro _ w9 ⟨hr,fp⟩;rw [Zcb] at hr;replace hl:=hl.up fp;replace hS:=hS.trans fp;refine W ?_;refine CL (JP [] _ _ s _ hr.slv0) ?_;rintro _ w10 ⟨rfl,du⟩;replace hl:=hl.up du;replace hS:=hS.trans du;generalize idx (isS s) Z0j=i3;clear hr;by_cases fj:0<=i3)
  | (refine RU ?_
     exact ⟨by simp [hi,bI],hS⟩)
 all_goals (refine QO ?_)
 all_goals first
  | (refine Z0 (Z1 (vs := [(0, .I 2), (1, .I 2)]) rfl (Jk _ _)) rfl ?_
     rintro a2 w11 hN;have ha:=hN.slv (X:=[]) (ys:=[(2:Int),2]) (by simp) rfl rfl (by simp [maxLen]);have lm:=Z6.stp hN;clear hN;replace hl:=hl.up lm;replace hS:=hS.trans lm;refine W ?_;refine CL (Z1i _ _ _ _ _ _ _ hl ha) ?_;rintro _ w12 ⟨rfl,iu⟩;replace hS:=hS.trans iu;generalize JW l [2,2]=p2;cases p2)
  | (refine RU ?_
     exact ⟨by simp [hi,bI,fj],hS⟩)
 all_goals (refine W ?_)
 all_goals (refine WR ?_)
 all_goals exact .mk ⟨by simp [hi,bI,fj],hS⟩
structure Sig where
 kind:Int
 s:Str
 a:Int
 b:Int
 c:Int
 deriving DecidableEq
abbrev Z48 (x:Sig):Value:=.agg #[.I x.kind,str x.s,.I x.a,.I x.b,.I x.c]
theorem Zr2 (x y:Sig) (w):(Op.equal 331 (Z48 x) (Z48 y)).run Tryz.prog w=.ok (decide (x=y)) w:=by
 have h1:Program.stoodInHeld Tryz.prog 331=false:=by kernel_rfl
 obtain ⟨i,hi⟩:∃ i,Tryz.prog.info? 3=some i:=by
  have:=(inferInstance:Siz Tryz.prog 3 1).h;cases h:Tryz.prog.info? 3 with
  | none=>rw [h] at this;cases this
  | some i=>exact ⟨i,rfl⟩
 have hc:Tryz.prog.cellsOf 3=1:=by kernel_rfl
 obtain ⟨k,s,a,b,c⟩:=x;obtain ⟨k',s',a',b',c'⟩:=y;simp [Z48,Op.equal,Op.maxDepth,run_equalIn_struct,h1,Program.fieldsOf,Tryz.underlying331,Op.eqFields,part,Und.isAgg,Siz.run,Z0h,run_equalIn_int w _ _ .i64 .i64 _ _ Tryz.underlying3,run_equalIn_string w _ _ _ _ Tryz.underlying9,run_equalIn_array w _ _ _ Tryz.underlying326 hi,hc,Op.eqItems,List.range_succ_eq_map];repeat' split
 all_goals simp_all
theorem Zle (em:Bool) (x:Sig) (w):(Instr.checkKey em 10000 331 (Z48 x)).run Tryz.prog w=.ok () w:=by kernel_rfl
instance:Z6C Tryz.prog 331 Sig where
 enc:=Z48
 chk:=Zle
 find:=λa es l w hk=>by
  have h2:=run_findKey_eq (P:=Tryz.prog) (k:=331) w (by kernel_rfl) (Z48 a) es;have h3:=Z21 Z48 Zr2 a w es l 0 hk;simp only [XK] at h3;exact h2.trans h3
abbrev Zag (a b c:Int):Value:=.agg #[.I a,.I b,.I c]
theorem Zlf (a:Int) (w):(Instr.build 326 #[(0,.I a)]).run Tryz.prog w=.ok (Zag a 0 0) w:=by kernel_rfl
theorem Z96 (a b:Int) (w):(Instr.build 326 #[(0,.I a),(1,.I b)]).run Tryz.prog w=.ok (Zag a b 0) w:=by kernel_rfl
theorem Z6k (k a b c:Int) (s:Str) (w):(Instr.build 331 #[(0,.I k),(1,str s),(2,Zag a b c)]).run Tryz.prog w=.ok (Z48 ⟨k,s,a,b,c⟩) w:=by kernel_rfl
theorem Zah (a b c d:Str) (w):(Instr.buildSlice 168 4 #[(0,str a),(1,str b),(2,str c),(3,str d)]).run Tryz.prog w=.ok (.slice (some ⟨w.heap.size,0,none⟩) 4 4) (w.alloc (.cells #[str a,str b,str c,str d] 9)):=by kernel_rfl
abbrev Zcc:=Sig×Value
def ent:Nat->Zcc
 | 5=>(⟨5,[45],1,0,0⟩,.I 1)
 | 10=>(⟨5,[110,111,116],2,0,0⟩,.I 2)
 | 15=>(⟨10,[110,101,120,116],3,0,0⟩,.I 3)
 | 20=>(⟨10,[112,114,101,118],3,0,0⟩,.I 3)
 | 26=>(⟨10,[108,97,116,101,114],3,3,0⟩,.I 3)
 | 32=>(⟨10,[101,97,114,108,105,101,114],3,3,0⟩,.I 3)
 | _=>(⟨10,[98,101,116,119,101,101,110],3,3,0⟩,.I 1)
def Z97:List Nat:=[5,10,15,20,26,32,38]
def ZQ:List Str:=[[100,97,121,115],[119,101,101,107,115],[109,111,110,116,104,115],[99,111,117,114,116,100,97,121,115]]
def Z1u (u:Str):List Zcc:=[(⟨7,u,3,1,0⟩,.I 3),(⟨8,u,3,1,0⟩,.I 3)]
def Z28:List Zcc:=Z97.map ent++ZQ.flatMap Z1u
theorem Zcd:(Z28.map (·.1)).Nodup:=by decide
theorem ZeI {κ:Type} [DecidableEq κ] {l m:List (κ×Value)} (hp:l.Perm m) (hn:(m.map (·.1)).Nodup) (a:κ) (z:Value):Z0t l a z=Z0t m a z:=by
 have jE:(l.map (·.1)).Nodup:=(hp.map _).nodup_iff.2 hn;have key:∀ (l m:List (κ×Value)),(∀ p,p∈l->p∈m)->(m.map (·.1)).Nodup->∀ p,l.find? (λp=>decide (p.1=a))=some p->m.find? (λp=>decide (p.1=a))=some p:=by
  intro l m hs hm p hf;have ft:=hs p (X9 hf);have i7:p.1=a:=by simpa using Ybo hf
  cases hq:m.find? (λp=>decide (p.1=a)) with
  | none=>exact absurd (Yaw.1 hq p ft) (by simp [i7])
  | some q=>
    have sM:=X9 hq;have sN:q.1=a:=by simpa using Ybo hq
    obtain ⟨i,hi,rfl⟩:=Xv ft;obtain ⟨j,hj,rfl⟩:=Xv sM;have:i=j:=by
     have h1:=(List.getElem_inj (xs:=m.map (·.1)) (i:=i) (j:=j) (h₀:=by simpa using hi) (h₁:=by simpa using hj) hm).1 (by simp [i7,sN]);exact h1
    subst this;rfl
 unfold Z0t;cases h1:l.find? (λp=>decide (p.1=a)) with
 | some p=>rw [key l m (λp h=>hp.mem_iff.1 h) hn p h1]
 | none=>
   cases h2:m.find? (λp=>decide (p.1=a)) with
   | none=>rfl
   | some p=>rw [key m l (λp h=>hp.mem_iff.2 h) jE p h2] at h1;cases h1
theorem Z2N (w):CC 282 #[] w λr w'=>∃ (m:Nat) (l:List Zcc),r=.map (some m)/\Jf Z48 w' m l/\l.Perm Z28/\Stp [] w w'/\w.heap.size<=m:=by
 refine cW0 62 Tryz.func282 ?_;refine W ?_;refine ZDr 41 [] [5,10,15,20,26,32,38] [(1,0),(2,0),(3,0),(4,0),(6,0),(7,0),(8,0),(9,0),(11,0),(12,0),(13,0),(14,0),(16,0),(17,0),(18,0),(19,0),(21,0),(22,0),(23,0),(24,0),(25,0),(27,0),(28,0),(29,0),(30,0),(31,0),(33,0),(34,0),(35,0),(36,0),(37,0),(0,2),(5,279241165504),(39,0),(40,0)] (λw1 ae=>?_);repeat'(first|refine D1 ?_|(apply Z1d;exact rfl;first|(apply Z26 (vs:=[(0,.I _)]);exact trivial;exact rfl;exact Zlf _;exact rfl)|(apply Z26 (vs:=[(0,.I _),(1,.I _)]);exact trivial;exact rfl;exact Z96 _ _;exact rfl)|(apply Z26 (vs:=[(0,.I _),(1,str _),(2,Zag _ _ _)]);exact trivial;exact rfl;exact Z6k _ _ _ _ _;exact rfl)))
 refine Z9 rfl trivial (Z06 Z48) (λ_ _ h=>h.choose_spec.2.2.2) rfl ?_;rintro _ w2 ⟨m,rfl,hm,aq,ak⟩;have iZ:=ae.size;refine Zr0 Z97 (λrem w'=>∃ l,Jf Z48 w' m l/\(l++rem.map ent).Perm (Z97.map ent)/\Stp [m] w2 w') rfl (by decide) (by decide) ⟨[],aq,by simp,Stp.refl _ _⟩ ?_ ?_
 . rintro rem j w' n5 hj ⟨l,hl,hp,hS⟩
   have i8:((l++rem.map ent).map (·.1)).Nodup:=(hp.map (·.1)).nodup_iff.2 (by decide);have hfresh:∀ p∈l,¬ p.1=(ent j).1:=by
    intro p hp e;rw [XH,Ybb] at i8;exact i8.2.2 p.1 (YaB hp) (ent j).1 (by rw [XY];exact Xw.2 ⟨j,hj,rfl⟩) e
   have gen:∀ w'',Jf Z48 w'' m (l++[ent j])->Stp [m] w' w''->∃ l,Jf Z48 w'' m l/\(l++(rem.erase j).map ent).Perm (Z97.map ent)/\Stp [m] w2 w'':=by
    intro w'' h1 h2;refine ⟨_,h1,?_,hS.trans h2⟩;refine List.Perm.trans ?_ hp;rw [XI];exact List.Perm.append_left l (((List.perm_cons_erase hj).map ent).symm)
   have ln:=n5.subset hj;simp only [Z97,Xa,Xo,or_false] at ln;rcases ln with rfl|rfl|rfl|rfl|rfl|rfl|rfl
   all_goals exact ⟨_,rfl,rfl,trivial,(Zm (v:=.I _) rfl rfl rfl hl hfresh).mono (λ_ w'' ⟨h1,h2⟩=>⟨.inr rfl,gen w'' h1 h2⟩)⟩
 rintro w3 ⟨l,hl,hp,az⟩;rw [Yaj,XG] at hp;have hS:Stp [] w w3:=(ae.trans ak).ow az;have sO:w.heap.size<=m:=by omega
 clear aq ak az;repeat'(first|refine D1 ?_|refine Zb rfl rfl rfl rfl (λhg=>?_) (λhg=>?_)|(refine Z7 rfl rfl rfl rfl (λhg=>?_) (λhg=>?_)<;>refine D1 ?_)|fail)
 refine W ?_;refine Z0 (Z1 (vs:=[(0,str [100,97,121,115]),(1,str [119,101,101,107,115]),(2,str [109,111,110,116,104,115]),(3,str [99,111,117,114,116,100,97,121,115])]) rfl (Zah _ _ _ _)) rfl ?_;rintro uv w4 hN;have hu:SlV [m] w4 uv ZQ:=hN.slv (λb hb=>by simp at hb;subst hb;exact hl.lt) rfl rfl (by simp [ZQ,maxLen]);have aF:=Z6.stp hN;clear hN;replace hl:=hl.up aF;replace hS:=hS.trans aF;have lp:∀ p∈l,p.1.kind=5\/p.1.kind=10:=λp fu=>by
  have kF:=hp.mem_iff.1 fu;simp only [Z97,XD,Yaj,Xa,Xo,or_false] at kF;rcases kF with rfl|rfl|rfl|rfl|rfl|rfl|rfl<;>decide
 have gu:∀ k (h:k<ZQ.length),∀ p∈(ZQ.take k).flatMap Z1u,¬ p.1.s=ZQ[k]:=by
  intro k h
  match k,h with
  | 0,_=>(show ∀ p∈(ZQ.take 0).flatMap Z1u,¬ p.1.s=ZQ[0]'(by decide));decide
  | 1,_=>(show ∀ p∈(ZQ.take 1).flatMap Z1u,¬ p.1.s=ZQ[1]'(by decide));decide
  | 2,_=>(show ∀ p∈(ZQ.take 2).flatMap Z1u,¬ p.1.s=ZQ[2]'(by decide));decide
  | 3,_=>(show ∀ p∈(ZQ.take 3).flatMap Z1u,¬ p.1.s=ZQ[3]'(by decide));decide
 refine W ?_;refine LP (σ:=Nat) (λk=>[(1,.I 1),(3,.I 3),(4,.map (some m)),(40,uv),(41,.I 4),(42,.I k)]) (λk w'=>k<=4/\Jf Z48 w' m (l++(ZQ.take k).flatMap Z1u)/\Stp [m] w4 w') (λk=>4 - k) 0 ⟨by omega,by simpa using hl,Stp.refl _ _⟩ ?_;rintro k w5 ⟨hk,aA,aC⟩;have wB:SlV [m] w5 uv ZQ:=hu.ext aC (by simp) (λb hb=>.inl hb);by_cases hlt:k<4;have jD:k<ZQ.length:=hlt;have lq:∀ (t:Int),¬ t=5->¬ t=10->∀ p∈l++(ZQ.take k).flatMap Z1u,¬ p.1=⟨t,ZQ[k],3,1,0⟩:=by
  intro t h5 gw p ft e;rcases Xe.1 ft with h|h
  have:=lp p h;rw [e] at this;rcases this with h|h
  exact h5 h;exact gw h;exact gu k jD p h (by rw [e])
 refine QO ?_;apply Zc (vs:=[(0,.I 3),(1,.I 1)]) rfl (Z96 _ _) rfl;apply Zc (vs:=[(0,.I 7),(1,str _),(2,Zag _ _ _)]) rfl (Z6k _ _ _ _ _) rfl;refine W ?_;refine Z8 (Z0J (a:=(⟨7,ZQ[k],3,1,0⟩:Sig)) (v:=.I 3) rfl rfl rfl aA (lq 7 (by decide) (by decide))) ?_;rintro _ w6 ⟨sP,cG⟩;refine W ?_;apply Zc (vs:=[(0,.I 3),(1,.I 1)]) rfl (Z96 _ _) rfl;apply Zc (vs:=[(0,.I 8),(1,str _),(2,Zag _ _ _)]) rfl (Z6k _ _ _ _ _) rfl;refine W ?_;refine Z8 (Z0J (a:=(⟨8,ZQ[k],3,1,0⟩:Sig)) (v:=.I 3) rfl rfl rfl sP (λp ft e=>by
  rcases Xe.1 ft with h|h
  exact lq 8 (by decide) (by decide) p h e;simp only [Xn] at h;subst h;simp at e)) ?_
 rintro _ w7 ⟨n7,aQ⟩;refine W ?_;refine QL (k+1) ⟨by omega,?_,(aC.trans cG).trans aQ⟩ (by omega);rw [Xj jD,YaC];have e:l++((ZQ.take k).flatMap Z1u++[ZQ[k]].flatMap Z1u)=(l++(ZQ.take k).flatMap Z1u++[((⟨7,ZQ[k],3,1,0⟩:Sig),Value.int .i64 3)])++[((⟨8,ZQ[k],3,1,0⟩:Sig),Value.int .i64 3)]:=by simp [Z1u]
 rw [e];exact n7;have dK:k=4:=by omega
 subst dK;refine RT ?_;exact ⟨m,_,rfl,aA,hp.append_right _,hS.ow aC,sO⟩
theorem Z6F (w):CC 282 #[] w λr w'=>∃ (m:Nat) (l:List Zcc),r=.map (some m)/\Jf Z48 w' m l/\l.Perm Z28/\Stp [] w w':=
 (Z2N w).mono (by
   rintro _ w' ⟨u,rfl,m,l,h1,h2,h3,h4,-⟩;exact ⟨u,rfl,m,l,h1,h2,h3,h4⟩)
def ZeJ (x:Sig):Value:=Z0t Z28 x (.I 0)
def Z1v (s:Str) (a b:Int):Int:=
 if s∈Z0n then (if a=b/\a=1 then 1 else 0) else if s∈Z1K then (if a=b/\¬ a=2 then 2 else 0) else if s∈Z0j then (if a=b/\a=2 then 2 else 0) else 0
theorem Zce (s:Str) (a b c:Int) (w):CC 281 #[str s,Zag a b c] w λr w'=>r=.I (Z1v s a b)/\Stp [] w w':=by
 refine cW2 46 Tryz.func281 ?_;refine W ?_;refine Z0 (Zn rfl) rfl ?_;rintro _ w1 ⟨q,rfl,hq,ab,hS⟩;replace ab:Blk w1 q _ [.I a,.I b,.I c]:=ab;refine W ?_;by_cases hA:s∈Z0n
 . unfold Z1v
   rw [if_pos hA];simp only [Z0n,Xa,Xo,or_false] at hA;rcases hA with rfl|rfl|rfl
   all_goals (repeat'(first|refine W1 ?_|omega|refine VG ?_ ?_<;>intro hg|refine VC ?_ ?_<;>intro hc))
   all_goals (refine WR ?_)
   all_goals refine .mk ⟨?_,hS⟩
   all_goals first
    | rw [if_pos ⟨by assumption,by assumption⟩]
    | rw [if_neg (λh=>by omega)]
 by_cases hC:s∈Z1K
 . unfold Z1v
   rw [if_neg hA,if_pos hC];simp only [Z1K,Xa,Xo,or_false] at hC;rcases hC with rfl|rfl|rfl|rfl|rfl|rfl
   all_goals (repeat'(first|refine W1 ?_|omega|refine VG ?_ ?_<;>intro hg|refine VC ?_ ?_<;>intro hc))
   all_goals (refine WR ?_)
   all_goals refine .mk ⟨?_,hS⟩
   all_goals first
    | rw [show (if a=b/\¬ a=2 then (2:Int) else 0)=2 from if_pos (by omega)]
    | rw [show (if a=b/\¬ a=2 then (2:Int) else 0)=0 from if_neg (by omega)]
 by_cases hL:s∈Z0j
 . unfold Z1v
   rw [if_neg hA,if_neg hC,if_pos hL];simp only [Z0j,Xa,Xo,or_false] at hL;rcases hL with rfl|rfl
   all_goals (repeat'(first|refine W1 ?_|omega|refine VG ?_ ?_<;>intro hg|refine VC ?_ ?_<;>intro hc))
   all_goals (refine WR ?_)
   all_goals refine .mk ⟨?_,hS⟩
   all_goals first
    | rw [if_pos ⟨by assumption,by assumption⟩]
    | rw [if_neg (λh=>by omega)]
 unfold Z1v;rw [if_neg hA,if_neg hC,if_neg hL];simp only [Z0n,Z1K,Z0j,Xa,Xo,or_false,not_or] at hA hC hL;obtain ⟨a1,a2,a3⟩:=hA;obtain ⟨b1,b2,b3,b4,b5,b6⟩:=hC;obtain ⟨c1,c2⟩:=hL;repeat'(first|refine W1 ?_|refine Z8P rfl (λhc=>absurd hc (by assumption)) (λhc=>?_))
 refine RU ?_;exact ⟨rfl,hS⟩
theorem _root_.Go.Eng.SlV.any {α:Type} [Z5 α] {X:List Nat} {w} {v:Value} {xs:List α} (h:SlV X w v xs):SlV [] w v xs:=h.ext (Stp.refl [] w) (by simp) (by simp)
theorem _root_.Go.Eng.SlV.new {α:Type} [Z5 α] {X:List Nat} {w w':World} {v:Value} {xs:List α} (h:SlV X w v xs) (hS:Stp [] w w') (b:Nat) (hb:w.heap.size<=b):SlV [b] w' v xs:=
 h.ext hS (by simp) (λc hc=>.inr (by simp at hc;omega))
theorem _root_.Go.Eng.SlV.on {α:Type} [Z5 α] {X S:List Nat} {w w':World} {v:Value} {xs:List α} (h:SlV X w v xs) (hS:Stp S w w') (hs:∀ b∈S,b∈X):SlV X w' v xs:=h.ext hS hs (λ_ h=>.inl h)
def Z32 (x:Sig):Int:=match ZeJ x with|.int _ z=>z|_=>0
theorem Zai (x:Sig):ZeJ x=.I (Z32 x):=by
 have:∀ p∈Z28,∃ z,p.2=Value.int .i64 z:=by
  intro p hp;simp only [Z28,Z97,ZQ,XD,Yaj,Ybc,YbU,Z1u,Yab,XW,XG,Xa,Xo,or_false,ent] at hp;rcases hp with rfl|rfl|rfl|rfl|rfl|rfl|rfl|rfl|rfl|rfl|rfl|rfl|rfl|rfl|rfl<;>exact ⟨_,rfl⟩
 unfold Z32 ZeJ Z0t;cases h:Z28.find? (λp=>decide (p.1=x)) with
 | none=>rfl
 | some p=>
   obtain ⟨z,hz⟩:=this p (X9 h);simp only [hz]
def Jl (k n:Int) (s:Str) (ts:List Int):Int:=
 if ts.length > 3 then 0 else if (0:Int)∈ts then 0 else if ts=[] then Z0x k n s else if ¬ n=0 then 0
 else if k=9/\s=[]/\ts.getD 0 0=2/\ts.getD 1 0=ts.getD 2 0 then ts.getD 1 0
 else if k=6/\ts.getD 2 0=0 then Z1v s (ts.getD 0 0) (ts.getD 1 0) else Z32 ⟨k,s,ts.getD 0 0,ts.getD 1 0,ts.getD 2 0⟩
def Zg:Nd->Int
 | .mk k n s l=>Jl k n s (l.map Zg)
theorem Z0y (x:Nd):Zg x=Jl x.kind x.num x.word (x.kids.map Zg):=by
 cases x;rw [Zg];rfl
def Zcf (ts:List Int) (k:Nat):List Value:=[.I (if 0<k then ts.getD 0 0 else 0),.I (if 1<k then ts.getD 1 0 else 0),.I (if 2<k then ts.getD 2 0 else 0)]
theorem Zhw (ts:List Int) (k:Nat) (hk:k<3):(Zcf ts k).set (0+k * 1) (.I (ts.getD k 0))=Zcf ts (k+1):=by
 match k,hk with
 | 0,_=>rfl
 | 1,_=>rfl
 | 2,_=>rfl
theorem Zhx (ts:List Int) (k:Nat) (hk:k<3):(Zcf ts (k+1))[0+k * 1]?=some (.I (ts.getD k 0)):=by
 match k,hk with
 | 0,_=>rfl
 | 1,_=>rfl
 | 2,_=>rfl
theorem Zhy (ts:List Int) (h:ts.length<=3):Zcf ts ts.length=[.I (ts.getD 0 0),.I (ts.getD 1 0),.I (ts.getD 2 0)]:=by
 match ts,h with
 | [],_=>rfl
 | [a],_=>rfl
 | [a,b],_=>rfl
 | [a,b,c],_=>rfl
theorem Zr3 (x:Nd):∀ (X XF:List Nat) (v:Value) (w),NdV X w v x->SlV XF w Z2S Zd->
 CC 234 #[v] w λr w'=>r=.I (Zg x)/\Stp [] w w':=by
 induction x using Nd.ind with
 | h k n s l ih=>
 intro X XF v w hx hF;generalize gZ:Nd.mk k n s l=x at *;have ih':∀ y∈x.kids,∀ (X XF:List Nat) (v:Value) (w:World),NdV X w v y->SlV XF w Z2S Zd->CC 234 #[v] w λr w'=>r=.I (Zg y)/\Stp [] w w':=by
  subst gZ;exact ih
 clear ih gZ k n s l;have oa:=hx;obtain ⟨kv,rfl,hs⟩:=hx;have aW:=hs.max;rw [Z0y];have ai:(x.kids.map Zg).length=x.kids.length:=by simp
 have bi:∀ k (h:k<x.kids.length),(x.kids.map Zg).getD k 0=Zg x.kids[k]:=λk h=>by simp [List.getD,h]
 generalize cY:x.kids.map Zg=ts at *;refine cW1 80 Tryz.func234 ?_;refine W ?_;refine Z0 (Zn rfl) rfl ?_;rintro _ w1 ⟨b,rfl,hb,ab,hS⟩;replace ab:Blk w1 b _ (ndC x kv):=ab;replace hs:=hs.up hS;replace hF:=hF.up hS;have hlt:=ab.lt;refine W ?_;refine Z0 Z4 rfl ?_;rintro _ w2 ⟨q,rfl,hq,bu,ak⟩;replace bu:Blk w2 q _ (Zcf ts 0):=bu;replace ab:=ab.up ak;replace hs:=hs.new ak q hq;replace hF:=hF.new ak q hq;replace hS:=hS.trans ak;have wC:w.heap.size<=q:=Xk (Xk hb (Nat.le_of_lt hlt)) hq;have oe:¬ b=q:=by omega
 (refine QP ?_ ?_<;>intro hc)
 refine WR ?_;refine .mk ⟨?_,hS⟩;unfold Jl;rw [if_pos (by omega)];have gz:x.kids.length<=3:=by omega
 refine Z0b (σ:=Unit) (λ_=>[(1,pQ b),(3,pQ q)]) (λ_ w'=>Stp [q] w2 w'/\Blk w' q 326 [.I (ts.getD 0 0),.I (ts.getD 1 0),.I (ts.getD 2 0)]/\¬ (0:Int)∈ts) ?_ ?_;have bM:=hs;have mV:=hF;refine LP (σ:=Nat) (λk=>[(1,pQ b),(3,pQ q),(11,kv),(12,.I (x.kids.length:Int)),(13,.I k)]) (λk w'=>k<=x.kids.length/\Stp [q] w2 w'/\Blk w' q 326 (Zcf ts k)/\¬ (0:Int)∈ts.take k) (λk=>x.kids.length - k) 0 ⟨Xu _,Stp.refl _ _,bu,by simp⟩ ?_;clear hs hF bu;rintro k w3 ⟨hk,az,bu,aY⟩;have hs:=bM.on az (by simp);have hF:=mV.on az (by simp);by_cases hlt:k<x.kids.length;have ja:k<3:=by omega
 have hg:=bi k hlt;have ls:=Zhw ts k ja;have iw:=Zhx ts k ja;rw [hg] at ls iw;obtain ⟨kv2,aO,bT⟩:=hs.nd hlt;refine QO ?_;apply Za (Jv rfl rfl hs hlt bT) rfl;refine Z0 Z4 rfl ?_;rintro _ w4 ⟨b4,rfl,bE,bo,aF⟩;have sQ:=bu.lt;replace bu:=bu.up aF;refine W ?_;refine SB (us:=ndC x.kids[k] kv2) (Jo aO) bo ?_;rintro _ w5 ⟨aC,qO⟩;have wD:¬ b4=q:=by omega
 replace bu:=bu.ext aC (by simp;omega);have jF:=aF.ow aC;replace aO:=aO.up jF;replace hF:=hF.up jF;refine W ?_;refine CL (ih' x.kids[k] (Xc hlt) _ _ _ _ ⟨kv2,rfl,aO⟩ hF) ?_;rintro _ w6 ⟨rfl,cG⟩;replace bu:=bu.up cG;refine W ?_;refine Z8 (Zf (u:=.I (Zg x.kids[k])) rfl rfl rfl rfl bu (by simp [Zcf];omega)) ?_;rintro _ w7 ⟨aQ,bu⟩;rw [ls] at bu;have lu:=((az.trans jF.mn).trans cG.mn).trans aQ;have cF:ts.take (k+1)=ts.take k++[Zg x.kids[k]]:=by
  rw [Xj (by omega)];congr 2;subst cY;simp
 refine QO ?_;apply Zho rfl rfl (bu.cell iw) rfl
 (refine QP ?_ ?_<;>intro hc)
 refine WR ?_;have sR:Zg x.kids[k]=0:=hc;refine .mk ⟨?_,hS.ow lu⟩;unfold Jl;rw [if_neg (by omega),if_pos];have:Zg x.kids[k]∈ts:=by
  subst cY;exact YaB (Xc hlt)
 rwa [sR] at this
 refine QL (k+1) ⟨hlt,lu,bu,?_⟩ (by omega);rw [cF,Xe];rintro (h|h);exact aY h;simp only [Xn] at h;exact hc h.symm;have dK:k=x.kids.length:=by omega
 subst dK;refine QO ?_;rw [<- ai,Zhy ts (by omega)] at bu;rw [<- ai,Xs] at aY;exact QT () ⟨az,bu,aY⟩;rintro _ w3 ⟨az,bu,aY⟩;replace ab:=ab.ext az (by simpa using oe);replace hF:=hF.on az (by simp);replace hs:=hs.on az (by simp);replace hS:=hS.ow az;unfold Jl;rw [if_neg (by omega),if_neg aY];by_cases h0:x.kids.length=0;rw [if_pos (XQ.1 (by omega))];refine QO ?_;refine CL (Zhu [q] _ x _ ⟨kv,rfl,hs⟩ hF.any) ?_;rintro _ w4 ⟨rfl,aF⟩;refine RT ?_;exact ⟨rfl,hS.trans aF⟩;rw [if_neg (λh=>h0 (by rw [<- ai,h];rfl))];clear bi cY;generalize ts.getD 0 0=a at *;generalize ts.getD 1 0=bb at *;generalize ts.getD 2 0=c at *;repeat'(first|refine W1 ?_|omega|refine VG ?_ ?_<;>intro hg|refine VC ?_ ?_<;>intro hc)
 refine RU ?_;exact ⟨by rw [if_pos (by assumption)],hS⟩;all_goals rw [if_neg (by assumption)]
 all_goals first
  | (have h9 : x.kind = 9 /\ x.word = [] /\ a = 2 /\ bb = c := ⟨by assumption, by assumption, by assumption, by assumption⟩
     rw [if_pos h9];refine RU ?_;exact ⟨rfl,hS⟩)
  | rw [show (if x.kind = 9 /\ x.word = [] /\ a = 2 /\ bb = c then bb else if x.kind = 6 /\ c = 0 then Z1v x.word a bb else Z32 ⟨x.kind, x.word, a, bb, c⟩) = if x.kind = 6 /\ c = 0 then Z1v x.word a bb else Z32 ⟨x.kind, x.word, a, bb, c⟩ from if_neg (λh => by
     obtain ⟨h1,h2,h3,h4⟩:=h;first|omega|contradiction)]
 all_goals first
  | (have h6 : x.kind = 6 /\ c = 0 := ⟨by assumption, by assumption⟩
     rw [if_pos h6];refine CL (Zce x.word a bb c _) ?_;rintro _ w4 ⟨rfl,aF⟩;refine RT ?_;exact ⟨rfl,hS.trans aF⟩)
  | rw [show (if x.kind=6/\c=0 then Z1v x.word a bb else Z32 ⟨x.kind,x.word,a,bb,c⟩)=Z32 ⟨x.kind,x.word,a,bb,c⟩ from if_neg (λh=>by omega)]
 all_goals
  refine ZDr 9 [] [] [(1,0),(2,1),(3,0),(4,1),(5,1),(6,0),(0,2),(7,2),(8,0)] (λw1 ae=>?_);replace ab:=ab.up ae;replace bu:=bu.up ae;replace hS:=hS.trans ae;refine D ?_;apply Z1d;exact rfl;apply Z26 (vs:=[(0,.I _),(1,str _),(2,Zag _ _ _)]);exact trivial;exact rfl;exact Z6k _ _ _ _ _;exact rfl;refine DC (Z6F _) (λ_ _ h=>h.choose_spec.choose_spec.2.2.2) ?_;rintro _ w5 ⟨m,ll,rfl,hm,hp,aC⟩;have mW:=Zai ⟨x.kind,x.word,a,bb,c⟩;unfold ZeJ at mW;rw [<- ZeI hp Zcd] at mW;refine Z9 rfl trivial (Zhn (Z0K (a:=(⟨x.kind,x.word,a,bb,c⟩:Sig)) rfl rfl hm)) (λ_ _ h=>h.2 ▸ Stp.refl _ _) rfl ?_;rintro _ _ ⟨rfl,rfl⟩;rw [mW];refine D ?_;refine RT ?_;exact ⟨rfl,hS.trans aC⟩
end Go.Proofs.YteibicnbkggiiaaGreatDoor
