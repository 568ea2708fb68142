/-
Contracts and plain laws, merged out of own texts.
-/
import Derived.WalkKit
import Derived.WalkSpells
import Derived.WalkLawsBesides
import Derived.Shelf.Abstract
import Derived.Orders
import Derived.Test.YtipfkbkkndacjaaGreatDoorProg
import Derived.Laws.StructEq
import Derived.Laws.Small
import Derived.MapKept
import Derived.ChangeKeysEq
set_option linter.unusedVariables false
set_option linter.unusedSimpArgs false
set_option maxHeartbeats 4000000
set_option maxRecDepth 20000
namespace Go
abbrev Xa:=@Nat.lt_of_lt_of_le
abbrev Xb:=@List.mem_cons
abbrev Xc:=@List.length_append
abbrev Xd:=@List.getElem_mem
abbrev Xe:=@List.length_cons
abbrev Xf:=@List.length_nil
abbrev Xg:=@Nat.le_trans
abbrev Xh:=@List.take_succ_eq_append_getElem
abbrev Xi:=@List.mem_append
abbrev Xj:=@List.not_mem_nil
abbrev Xk:=@List.mem_singleton
abbrev Xl:=@Bool.and_eq_true
abbrev Xm:=@Array.getElem?_eq_some_iff
abbrev Xn:=@Nat.le_refl
abbrev Xo:=@List.take_length
abbrev Xp:=@Nat.mul_le_mul_right
abbrev Xq:=@Nat.zero_le
abbrev Xr:=@List.getElem_of_mem
abbrev Xs:=@List.map_cons
abbrev Xt:=@List.length_map
abbrev Xu:=@Nat.not_lt_zero
abbrev Xv:=@List.length_take
abbrev Xw:=@List.length_eq_zero_iff
abbrev Xx:=@List.getElem?_eq_some_iff
abbrev Xy:=@List.append_assoc
abbrev Xz:=@List.getD_cons_zero
abbrev XA:=@List.cons_append
abbrev XB:=@Array.getD_eq_getD_getElem?
abbrev XC:=@List.getD_eq_getElem?_getD
abbrev XD:=@List.append_nil
abbrev XE:=@Nat.sub_lt_sub_left
abbrev XG:=@List.map_eq_cons_iff
abbrev XH:=@List.take_of_length_le
abbrev XI:=@Option.some.injEq
abbrev XJ:=@List.mem_cons_of_mem
abbrev XK:=@List.mem_map
abbrev XL:=@List.map_nil
abbrev XM:=@List.take_append_drop
abbrev XN:=@Nat.zero_add
abbrev XO:=@Bool.false_eq_true
abbrev XP:=@Nat.lt_succ_self
abbrev XQ:=@List.map_append
abbrev XR:=@Nat.eq_of_beq_eq_true
abbrev XS:=@Option.bind_some
abbrev XT:=@List.nil_append
abbrev XU:=@List.getElem?_eq_getElem
abbrev XV:=@List.all_eq_true
abbrev XW:=@List.length_pos_iff
abbrev XX:=@Array.getElem?_append_left
abbrev XY:=@Nat.le_of_ble_eq_true
abbrev XZ:=@List.length_filter_le
abbrev X0:=@Option.bind_eq_some_iff
abbrev X1:=@Option.some.inj
abbrev X2:=@List.foldl_cons
abbrev X3:=@List.pairwise_cons
abbrev X4:=@List.getElem_append_right
abbrev X5:=@List.mem_of_find?_eq_some
abbrev X6:=@List.length_set
abbrev X7:=@List.findIdx?_eq_some_iff_getElem
abbrev X8:=@List.getElem_append_left
abbrev X9:=@Nat.succ_mul
abbrev Yaa:=@List.getElem?_append_left
abbrev Yab:=@List.findIdx?_eq_none_iff
abbrev Yac:=@List.drop_eq_getElem_cons
abbrev Yad:=@Bool.eq_iff_iff
abbrev Yae:=@Nat.min_eq_left
abbrev Yaf:=@List.getElem?_take
abbrev Yag:=@List.flatten_cons
abbrev Yah:=@Array.getElem?_eq_none
abbrev Yai:=@Array.length_toList
abbrev Yaj:=@List.mem_map_of_mem
abbrev Yak:=@List.flatMap_append
abbrev Yal:=@List.getD_cons_succ
abbrev Yam:=@List.pairwise_iff_getElem
abbrev Yan:=@List.eq_nil_or_concat
abbrev Yao:=@List.concat_eq_append
abbrev Yap:=@List.length_drop
abbrev Yaq:=@List.find?_eq_none
abbrev Yar:=@List.find?_eq_some_iff_getElem
abbrev Yas:=@List.mem_of_mem_take
abbrev Yat:=@List.size_toArray
abbrev Yau:=@List.foldl_append
abbrev Yav:=@Bool.or_eq_true
abbrev Yaw:=@List.take_succ_cons
abbrev Yax:=@Int.toNat_of_nonneg
abbrev Yay:=@List.replicate_succ
abbrev Yaz:=@Nat.lt_or_ge
abbrev YaA:=@List.drop_eq_nil_of_le
abbrev YaB:=@Nat.add_assoc
abbrev YaC:=@List.take_append
abbrev YaD:=@Option.getD_some
abbrev YaE:=@List.ext_getElem
abbrev YaF:=@List.getElem?_append_right
abbrev YaG:=@List.take_take
abbrev YaH:=@List.Perm.refl
abbrev YaI:=@Bool.beq_eq_decide_eq
abbrev YaJ:=@List.dropLast_eq_take
abbrev YaK:=@List.mem_of_mem_drop
abbrev YaL:=@Array.getElem?_setIfInBounds_ne
abbrev YaM:=@List.getElem_set_ne
abbrev YaN:=@List.getElem?_cons_succ
abbrev YaO:=@List.any_eq_true
abbrev YaP:=@List.eq_nil_of_length_eq_zero
abbrev YaQ:=@Nat.mul_one
abbrev YaR:=@Int.emod_lt_of_pos
abbrev YaS:=@List.mem_cons_self
abbrev YaT:=@List.all_cons
abbrev YaU:=@List.getElem?_eq_none
abbrev YaV:=@Array.getElem?_modify
abbrev YaW:=@Array.getElem?_toList
abbrev YaX:=@List.flatMap_cons
abbrev YaY:=@Int.le_refl
abbrev YaZ:=@List.drop_length
abbrev Ya0:=@List.takeWhile_cons
abbrev Ya1:=@Array.setIfInBounds_comm
abbrev Ya2:=@Bool.and_true
abbrev Ya3:=@Int.emod_nonneg
abbrev Ya4:=@List.cons.injEq
abbrev Ya5:=@Option.map_some
abbrev Ya6:=@List.findIdx?_cons
abbrev Ya7:=@List.filter_append
abbrev Ya8:=@List.getElem?_replicate
abbrev Ya9:=@Nat.mul_comm
abbrev Yba:=@List.getElem_cons_zero
abbrev Ybb:=@List.length_eq_one_iff
abbrev Ybc:=@List.append_eq_nil_iff
abbrev Ybd:=@Nat.mul_le_mul
abbrev Ybe:=@List.getElem_set_self
abbrev Ybf:=@List.length_mergeSort
abbrev Ybg:=@List.flatMap_def
abbrev Ybh:=@List.pairwise_append
abbrev Ybi:=@Nat.add_le_add_right
abbrev Ybj:=@Nat.div_add_mod
abbrev Ybk:=@List.find?_some
abbrev Ybl:=@Int.natCast_add
abbrev Ybm:=@List.mem_filter
abbrev Ybn:=@Nat.add_zero
abbrev Ybo:=@Nat.pow_succ
abbrev Ybp:=@List.drop_zero
abbrev Ybq:=@List.drop_take
abbrev Ybr:=@Nat.add_sub_cancel
abbrev Ybs:=@List.take_zero
abbrev Ybt:=@Int.emod_eq_of_lt
abbrev Ybu:=@Bool.eq_false_iff
abbrev Ybv:=@Int.toNat_natCast
abbrev Ybw:=@List.getElem?_map
abbrev Ybx:=@Bool.false_or
abbrev Yby:=@Nat.le_of_not_lt
abbrev Ybz:=@Nat.min_eq_right
abbrev YbA:=@List.map_toArray
abbrev YbB:=@List.flatMap_nil
abbrev YbC:=@List.mem_flatMap
abbrev YbD:=@Nat.mod_lt
abbrev YbE:=@List.map_map
abbrev YbF:=@List.set_append
abbrev YbG:=@List.all_append
abbrev YbH:=@List.take_left'
abbrev YbI:=@Bool.and_false
abbrev YbJ:=@List.mem_range
end Go
namespace Go.Eng
open Go Go.RowKit Go.Proofs
abbrev Env:=List (Nat×Value)
def look:Env->Nat->Option Value
 | [],_=>none
 | (k,v) :: r,t=>bif Nat.beq k t then some v else look r t
def ev (e:Env):Operand->Option Value
 | .tmp t=>look e t
 | .const v=>some v
 | .global g=>some (.pointer (some ⟨g,0,none⟩))
 | .func f=>some (.func (.func f) #[] #[])
structure Has (n:Nat) (e:Env) (a:Act):Prop where
 defers:a.defers=[]
 size:a.tmps.size=n
 vals:∀ t v,look e t=some v->a.tmps.getD t undef=v
section basics
variable {n:Nat} {e:Env} {a:Act}
theorem Has.ev {x:Operand} {v:Value} (h:Has n e a) (hx:ev e x=some v):a.eval x=v:=by
 cases x with
 | tmp t=>exact h.vals t v hx
 | const c=>simpa [Eng.ev,Act.eval] using hx
 | global g=>simpa [Eng.ev,Act.eval] using hx
 | func f=>simpa [Eng.ev,Act.eval] using hx
theorem Z1O (d:Nat) (v:Value) (e:Env) (t:Nat):look ((d,v) :: e) t=if d=t then some v else look e t:=by
 simp only [look];by_cases h:d=t;subst h;simp
 . have:Nat.beq d t=false:=by
    cases hb:Nat.beq d t with
    | false=>rfl
    | true=>exact absurd (XR hb) h
   simp [this,h]
theorem Has.put {d:Nat} {v:Value} (h:Has n e a) (hd:Nat.blt d n=true):Has n ((d,v) :: e) (a.put (some d) v):=by
 have ag:d<a.tmps.size:=by rw [h.size];exact XY hd
 refine ⟨h.defers,by simp [Act.put,h.size],λt u hu=>?_⟩;rw [Z1O] at hu;simp only [Act.put];by_cases lA:d=t;subst lA;simp at hu;subst hu;simp [ag];rw [if_neg lA] at hu;have:=h.vals t u hu;simpa [YaL lA] using this
theorem Has.weak {e':Env} (h:Has n e a) (hs:∀ t v,look e' t=some v->look e t=some v):Has n e' a:=
 ⟨h.defers,h.size,λt v hv=>h.vals t v (hs t v hv)⟩
def Sub:Env->Env->Prop
 | [],_=>True
 | (k,v) :: r,e=>look e k=some v/\Sub r e
theorem Sub.look {e' e:Env} (h:Sub e' e):∀ t v,Eng.look e' t=some v->Eng.look e t=some v:=by
 induction e' with
 | nil=>intro t v hv;simp [Eng.look] at hv
 | cons p r ih=>
   intro t v hv;obtain ⟨d,u⟩:=p;rw [Z1O] at hv;by_cases hd:d=t;subst hd;simp at hv;subst hv;exact h.1;rw [if_neg hd] at hv;exact ih h.2 t v hv
theorem Has.sub {e':Env} (h:Has n e a) (hs:Sub e' e):Has n e' a:=h.weak hs.look
end basics
section judge
variable (P:Program) (n:Nat)
structure WQ (n:Nat) (Q:Exit->Act->World->Prop) (x:Exit) (e:Env) (w:World):Prop where
 h:∀ a,Has n e a->Q x a w
structure WC (c:Code) (Q:Exit->Act->World->Prop) (e:Env) (w:World):Prop where
 h:∀ a,Has n e a->c.wp P Q a w
structure WL (ops:Array Oper) (Q:Exit->Act->World->Prop) (l:List Oper) (e:Env) (w:World):Prop where
 h:∀ a,Has n e a->wpList P ops Q l a w
end judge
section rules
variable {P:Program} {n:Nat} {Q:Exit->Act->World->Prop} {e:Env} {w:World} {ops:Array Oper} {rest:List Oper}
theorem Z7C {x y:Code} (h:WC P n x (Exit.then (λa w=>y.wp P Q a w) Q) e w):WC P n (x.seq y) Q e w:=
 ⟨λa ha=>wp_seq (h.h a ha)⟩
theorem Z4g {y:Code} (h:WC P n y Q e w):WQ n (Exit.then (λa w=>y.wp P Q a w) Q) .normal e w:=⟨λa ha=>h.h a ha⟩
theorem Z1r {N:Act->World->Prop} (h:WQ n Q .ret e w):WQ n (Exit.then N Q) .ret e w:=⟨λa ha=>h.h a ha⟩
theorem ZB {N:Act->World->Prop} {i:Nat} (h:WQ n Q (.exit i) e w):WQ n (Exit.then N Q) (.exit i) e w:=⟨λa ha=>h.h a ha⟩
theorem Jj {i:Nat} (h:WQ n Q .normal e w):WQ n (Exit.inBlock i Q) .normal e w:=⟨λa ha=>h.h a ha⟩
theorem Zaa {i:Nat} (h:WQ n Q .ret e w):WQ n (Exit.inBlock i Q) .ret e w:=⟨λa ha=>h.h a ha⟩
theorem Zw {i:Nat} (h:WQ n Q .normal e w):WQ n (Exit.inBlock i Q) (.exit i) e w:=by
 refine ⟨λa ha=>?_⟩;simp only [Exit.inBlock,if_true];exact h.h a ha
theorem ZJ {i j:Nat} (dC:Nat.beq i j=false) (h:WQ n Q (.exit i) e w):WQ n (Exit.inBlock j Q) (.exit i) e w:=by
 refine ⟨λa ha=>?_⟩;simp only [Exit.inBlock];rw [if_neg (Nat.ne_of_beq_eq_false dC)];exact h.h a ha
theorem Z7p (h:WQ n Q .normal e w):WC P n .skip Q e w:=⟨λa ha=>wp_skip (h.h a ha)⟩
theorem Z7D (h:WQ n Q .ret e w):WC P n .ret Q e w:=⟨λa ha=>wp_ret (h.h a ha)⟩
theorem Zl0 {i:Nat} (h:WQ n Q (.exit i) e w):WC P n (.exit i) Q e w:=⟨λa ha=>wp_exit (h.h a ha)⟩
theorem Zhs {i:Nat} {c:Code} (h:WC P n c (Exit.inBlock i Q) e w):WC P n (.block i c) Q e w:=⟨λa ha=>wp_block (h.h a ha)⟩
theorem Z1I {c:Operand} {x y:Code} (hc:ev e c=some (.bool true)) (h:WC P n x Q e w):WC P n (.cond c x y) Q e w:=
 ⟨λa ha=>wp_cond_true (ha.ev hc) (h.h a ha)⟩
theorem Z1n {c:Operand} {x y:Code} (hc:ev e c=some (.bool false)) (h:WC P n y Q e w):WC P n (.cond c x y) Q e w:=
 ⟨λa ha=>wp_cond_false (ha.ev hc) (h.h a ha)⟩
theorem Zab {c:Operand} {x y:Code} {p:Prop} [Decidable p] (hc:ev e c=some (.bool (decide p))) (ht:p->WC P n x Q e w) (hf:¬ p->WC P n y Q e w):WC P n (.cond c x y) Q e w:=
 ⟨λa ha=>wp_cond_split (ha.ev hc) (λh=>(ht (of_decide_eq_true h)).h a ha) (λh=>(hf (of_decide_eq_false h)).h a ha)⟩
theorem Zbn {c:Operand} {x y:Code} {t:Bool} (hc:ev e c=some (.bool t)) (ht:t=true->WC P n x Q e w) (hf:t=false->WC P n y Q e w):WC P n (.cond c x y) Q e w:=
 ⟨λa ha=>wp_cond_split (ha.ev hc) (λh=>(ht h).h a ha) (λh=>(hf h).h a ha)⟩
theorem Z2C {id:Nat} {l:List Oper} (h:WL P n l.toArray Q l e w):WC P n (.region id l.toArray false) Q e w:=
 ⟨λa ha=>wp_region_lit (h.h a ha)⟩
theorem Z2U (h:WQ n Q .normal e w):WL P n ops Q [] e w:=⟨λa ha=>wpList_nil (h.h a ha)⟩
theorem Zl1 {c:Code} (e':Env) (hs:Sub e' e) (h:WC P n c Q e' w):WC P n c Q e w:=⟨λa ha=>h.h a (ha.sub hs)⟩
theorem Zl2 {x:Exit} (e':Env) (hs:Sub e' e) (h:WQ n Q x e' w):WQ n Q x e w:=⟨λa ha=>h.h a (ha.sub hs)⟩
theorem Zht {x y:Code} {σ:Type} (env:σ->Env) (I:σ->World->Prop)
 (h:WC P n x (Exit.then (λa w=>∃ s,Has n (env s) a/\I s w) Q) e w) (k:∀ s w,I s w->WC P n y Q (env s) w):WC P n (x.seq y) Q e w:=
 ⟨λa ha => wp_seq (wp_mono (h.h a ha) (λex a w hq => by
   cases ex with
   | normal=>obtain ⟨s,h1,h2⟩:=hq;exact (k s w h2).h a h1
   | _=>exact hq))⟩
theorem JJ {x y:Code} {σ:Type} (env:σ->Env) (I:σ->World->Prop)
 (h:WC P n x (Exit.then (λa w=>∃ s,Has n (env s) a/\I s w) Q) e w) (k:∀ s w,I s w->WC P n y Q (env s) w):WC P n x (Exit.then (λa w=>y.wp P Q a w) Q) e w:=
 ⟨λa ha => wp_mono (h.h a ha) (λex a w hq => by
   cases ex with
   | normal=>obtain ⟨s,h1,h2⟩:=hq;exact (k s w h2).h a h1
   | _=>exact hq)⟩
theorem Z0o {x y:Code} {σ:Type} {i:Nat} (env:σ->Env) (I:σ->World->Prop)
 (h:WC P n x (Exit.inBlock i (Exit.then (λa w=>∃ s,Has n (env s) a/\I s w) Q)) e w) (k:∀ s w,I s w->WC P n y Q (env s) w):WC P n x (Exit.inBlock i (Exit.then (λa w=>y.wp P Q a w) Q)) e w:=
 ⟨λa ha => wp_mono (h.h a ha) (λex a w hq => by
   cases ex with
   | normal=>obtain ⟨s,h1,h2⟩:=hq;exact (k s w h2).h a h1
   | exit j=>
     simp only [Exit.inBlock] at hq ⊢;split;rename_i hj;rw [if_pos hj] at hq;obtain ⟨s,h1,h2⟩:=hq;exact (k s w h2).h a h1;rename_i hj;rw [if_neg hj] at hq;exact hq
   | _=>exact hq)⟩
theorem ZD {σ:Type} {env:σ->Env} {I:σ->World->Prop} (s:σ) (hs:Sub (env s) e) (hI:I s w):WQ n (Exit.then (λa w=>∃ s,Has n (env s) a/\I s w) Q) .normal e w:=
 ⟨λa ha=>⟨s,ha.sub hs,hI⟩⟩
theorem Zt {c:Code} {σ:Type} (env:σ->Env) (I:σ->World->Prop) (μ:σ->Nat) (eU:σ) (hs:Sub (env eU) e) (hI:I eU w)
 (round:∀ s w,I s w->WC P n c (Exit.then (λa' w'=>∃ s',Has n (env s') a'/\I s' w'/\μ s' < μ s) Q) (env s) w):WC P n (.loop c) Q e w:=by
 refine ⟨λa ha=>?_⟩;have key:∀ (k:Nat) (s:σ) (a:Act) (w:World),μ s<=k->Has n (env s) a->I s w->(Code.loop c).wp P Q a w:=by
  intro k s a w _ h1 h2;refine wp_loop (λa' w'=>∃ s',Has n (env s') a'/\I s' w') (λa' w'=>Classical.epsilon (λm=>∃ s',Has n (env s') a'/\I s' w'/\μ s'=m/\∀ s'',Has n (env s'') a'->I s'' w'->m<=μ s'')) ⟨s,h1,h2⟩ ?_;intro a w ⟨s',j0,j4⟩;have sw:∀ a w,(∃ s',Has n (env s') a/\I s' w)->∃ m,∃ s',Has n (env s') a/\I s' w/\μ s'=m/\∀ s'',Has n (env s'') a->I s'' w->m<=μ s'':=by
   intro a w ⟨s',j0,j4⟩;have:∀ m,∀ s',μ s'=m->Has n (env s') a->I s' w->∃ m,∃ s',Has n (env s') a/\I s' w/\μ s'=m/\∀ s'',Has n (env s'') a->I s'' w->m<=μ s'':=by
    intro m
    induction m using Nat.strongRecOn with
    | _ m ih=>
      intro s' hm h1 h2;by_cases j5:∀ s'',Has n (env s'') a->I s'' w->m<=μ s'';exact ⟨m,s',h1,h2,hm,j5⟩;have:∃ s'',Has n (env s'') a/\I s'' w/\μ s''<m:=by
       refine Classical.byContradiction λbg=>j5 λs'' h1 h2=>?_;exact Yby λag=>bg ⟨s'',h1,h2,ag⟩
      obtain ⟨s'',j0,j4,ag⟩:=this;exact ih _ ag s'' rfl j0 j4
   exact this _ s' rfl j0 j4
  obtain ⟨s₁,g1,g2,g3,g4⟩:=Classical.epsilon_spec (sw a w ⟨s',j0,j4⟩);have hr:=(round s₁ w g2).h a g1;refine wp_mono hr (λex a' w' hq=>?_);cases ex with
  | normal=>
    obtain ⟨s₂,k1,k2,k3⟩:=hq;refine ⟨⟨s₂,k1,k2⟩,?_⟩;obtain ⟨s₃,m1,m2,m3,m4⟩:=Classical.epsilon_spec (sw a' w' ⟨s₂,k1,k2⟩);have:=m4 s₂ k1 k2;rw [g3] at k3;exact Nat.lt_of_le_of_lt this k3
  | _=>exact hq
 exact key (μ eU) eU a w (Xn _) (ha.sub hs) hI
theorem Zx {σ:Type} {env:σ->Env} {I:σ->World->Prop} {μ:σ->Nat} {m:Nat} (s:σ) (hs:Sub (env s) e) (hI:I s w) (hm:μ s<m) :
 WQ n (Exit.then (λa w=>∃ s,Has n (env s) a/\I s w/\μ s<m) Q) .normal e w:=
 ⟨λa ha=>⟨s,ha.sub hs,hI,hm⟩⟩
structure PR (P:Program) (n:Nat) (o:Oper) (e:Env) (w:World) (v:Value):Prop where
 h:∀ a,Has n e a->(execOp a.eval o).run P w=.ok (.value v) w
theorem Z9 {d:Nat} {op:Op} {ty:TypeId} {pos:String} {af:Array Edge} {v:Value} (hp:PR P n ⟨some d,op,ty,pos,af,none⟩ e w v) (hd:Nat.blt d n=true)
 (k:WL P n ops Q rest ((d,v) :: e) w):WL P n ops Q (⟨some d,op,ty,pos,af,none⟩ :: rest) e w:=by
 refine ⟨λa ha=>?_⟩;refine wpList_plain rfl (λK hK=>?_);unfold Oper.wp;rw [hp.h a ha];exact hK _ _ ((k).h _ (ha.put hd))
structure OE (P:Program) (n:Nat) (o:Oper) (e:Env) (w:World) (G:Value->World->Prop):Prop where
 h:∀ a,Has n e a->∀ (Q:Exit->Act->World->Prop),o.wp P a w (λa' w'=>∃ v,a'=a.put o.dst v/\G v w') Q
theorem Z1 {d:Nat} {op:Op} {ty:TypeId} {pos:String} {af:Array Edge} {G:Value->World->Prop} (hp:OE P n ⟨some d,op,ty,pos,af,none⟩ e w G) (hd:Nat.blt d n=true)
 (k:∀ v w',G v w'->WL P n ops Q rest ((d,v) :: e) w'):WL P n ops Q (⟨some d,op,ty,pos,af,none⟩ :: rest) e w:=by
 refine ⟨λa ha=>?_⟩;refine wpList_plain rfl (λK hK=>?_);refine Oper.wp_mono ?_ (hp.h a ha Q);rintro a' w' ⟨v,rfl,hg⟩;exact hK _ _ ((k v w' hg).h _ (ha.put hd))
theorem Z4 {op:Op} {ty:TypeId} {pos:String} {af:Array Edge} {G:Value->World->Prop} (hp:OE P n ⟨none,op,ty,pos,af,none⟩ e w G)
 (k:∀ v w',G v w'->WL P n ops Q rest e w'):WL P n ops Q (⟨none,op,ty,pos,af,none⟩ :: rest) e w:=by
 refine ⟨λa ha=>?_⟩;refine wpList_plain rfl (λK hK=>?_);refine Oper.wp_mono ?_ (hp.h a ha Q);rintro a' w' ⟨v,rfl,hg⟩;exact hK _ _ ((k v w' hg).h _ ha)
def yld (ops:Array Oper) (e:Env) (j:Nat):Option Value:=((ops[j]?).bind (·.dst)).bind (look e)
theorem Z7E {ops:Array Oper} {a:Act} {j:Nat} {b:Bool} (ha:Has n e a) (h:yld ops e j=some (.bool b)):yielded ops a.tmps j=some b:=by
 unfold yld at h;unfold yielded;cases hd:(ops[j]?).bind (·.dst) with
 | none=>rw [hd] at h;simp at h
 | some d=>
   rw [hd] at h;have:=ha.vals d _ h;simp only [XB] at this;simp only [XS];cases hx:a.tmps[d]? with
   | none=>rw [hx] at this;simp [undef] at this
   | some u=>rw [hx] at this;simp at this;subst this;simp
theorem Ztb {d:Option Nat} {op:Op} {ty:TypeId} {pos:String} {af:Array Edge} {j:Nat} {b:Bool} (hy:yld ops e j=some (.bool b))
 (k:WL P n ops Q (⟨d,op,ty,pos,af,none⟩ :: rest) e w):WL P n ops Q (⟨d,op,ty,pos,af,some (j,b)⟩ :: rest) e w:=by
 refine ⟨λa ha=>?_⟩;have hk:=k.h a ha;have hw:Region.wanted ⟨d,op,ty,pos,af,some (j,b)⟩ (yielded ops a.tmps)=true:=by simp [Region.wanted,Z7E ha hy]
 unfold wpList at hk ⊢;rw [if_pos hw];rw [if_pos (by simp [Region.wanted])] at hk;exact hk
def Ztc:Value->Bool->Bool
 | .bool c,b=>c != b
 | _,_=>true
def noB (ops:Array Oper) (e:Env):Option (Nat×Bool)->Bool
 | none=>false
 | some (j, b) => match yld ops e j with
   | some u=>Ztc u b
   | none=>false
theorem Z2V {ops:Array Oper} {a:Act} {o:Oper} (ha:Has n e a) (h:noB ops e o.guard=true):Region.wanted o (yielded ops a.tmps)=false:=by
 unfold Region.wanted;cases hg:o.guard with
 | none=>rw [hg] at h;cases h
 | some jb=>
   obtain ⟨j,b⟩:=jb;rw [hg] at h;simp only [noB] at h;cases hy:yld ops e j with
   | none=>rw [hy] at h;cases h
   | some u=>
     rw [hy] at h;unfold yld at hy;show (yielded ops a.tmps j == some b)=false;unfold yielded;cases hd:(ops[j]?).bind (·.dst) with
     | none=>rw [hd] at hy;simp at hy
     | some d=>
       rw [hd] at hy;simp only [XS] at hy;have:=ha.vals d _ hy;simp only [XB] at this;simp only [XS];cases hx:a.tmps[d]? with
       | none=>rfl
       | some z=>
         rw [hx] at this;simp at this;subst this;cases z<;>first|rfl|(simp only [Ztc] at h;cases b<;>simp_all)
theorem Zl3 {d:Nat} {op:Op} {ty:TypeId} {pos:String} {af:Array Edge} {j:Nat} {b:Bool} (hy:noB ops e (some (j,b))=true) (hd:Nat.blt d n=true)
 (k:WL P n ops Q rest ((d,undef) :: e) w):WL P n ops Q (⟨some d,op,ty,pos,af,some (j,b)⟩ :: rest) e w:=by
 refine ⟨λa ha=>?_⟩;have hw:Region.wanted ⟨some d,op,ty,pos,af,some (j,b)⟩ (yielded ops a.tmps)=false:=Z2V ha hy;unfold wpList;rw [if_neg (by simp [hw])];exact k.h _ (ha.put hd)
def ZeD (ops:Array Oper) (j:Nat):Option Nat:=(ops[j]?).bind (·.dst)
theorem Has.same {a:Act} {d:Nat} {u v:Value} (ha:Has n e a) (h:look e d=some u) (ue:u=v):Has n ((d,v) :: e) a:=by
 subst ue;refine ⟨ha.defers,ha.size,λt x hx=>?_⟩;rw [Z1O] at hx;by_cases hd:d=t;subst hd;simp at hx;subst hx;exact ha.vals _ _ h;rw [if_neg hd] at hx;exact ha.vals _ _ hx
theorem Zhu {d:Nat} {o:Option Nat} {op:Op} {ty:TypeId} {pos:String} {af:Array Edge} {j:Nat} {b:Bool} {p:Prop} [Decidable p] (hj:ZeD ops j=some d) (hy:look e d=some (.bool (decide p)))
 (ht:p->WL P n ops Q (⟨o,op,ty,pos,af,some (j,b)⟩ :: rest) ((d,.bool true) :: e) w) (hf:¬ p->WL P n ops Q (⟨o,op,ty,pos,af,some (j,b)⟩ :: rest) ((d,.bool false) :: e) w) :
 WL P n ops Q (⟨o,op,ty,pos,af,some (j,b)⟩ :: rest) e w:=by
 refine ⟨λa ha=>?_⟩;by_cases hp:p;exact (ht hp).h a (ha.same hy (by simp [hp]));exact (hf hp).h a (ha.same hy (by simp [hp]))
theorem Zfx {d:Nat} {o:Option Nat} {op:Op} {ty:TypeId} {pos:String} {af:Array Edge} {j:Nat} {b:Bool} {t:Bool} (hj:ZeD ops j=some d) (hy:look e d=some (.bool t))
 (ht:t=true->WL P n ops Q (⟨o,op,ty,pos,af,some (j,b)⟩ :: rest) ((d,.bool true) :: e) w) (hf:t=false->WL P n ops Q (⟨o,op,ty,pos,af,some (j,b)⟩ :: rest) ((d,.bool false) :: e) w) :
 WL P n ops Q (⟨o,op,ty,pos,af,some (j,b)⟩ :: rest) e w:=by
 refine ⟨λa ha=>?_⟩;cases t;exact (hf rfl).h a (ha.same hy rfl);exact (ht rfl).h a (ha.same hy rfl)
end rules
def Z51 (l:List Value):Nat->Env
 | k=>match l with|[]=>[]|v :: r=>(k,v) :: Z51 r (k+1)
theorem Z3A (l:List Value):∀ (k t:Nat) (v:Value),look (Z51 l k) t=some v->k<=t/\l[t - k]?=some v:=by
 induction l with
 | nil=>intro k t v h;simp [Z51,look] at h
 | cons x r ih=>
   intro k t v h;simp only [Z51] at h;rw [Z1O] at h;by_cases hk:k=t;subst hk;simp at h;simp [h];rw [if_neg hk] at h;obtain ⟨h1,h2⟩:=ih (k+1) t v h;refine ⟨by omega,?_⟩;have:t - k=(t - (k+1))+1:=by omega
   rw [this];simpa using h2
theorem Z11 {P:Program} {f:FuncId} {fn:Func} {c:Code} {args:Array Value} {w:World} {R:Ending->World->Prop} {n:Nat} (hf:P.funcs[f]?=some fn) (hb:fn.body=some c)
 (hn:fn.ntmps=n) (hs:Nat.ble args.size n=true) (h:WC P n c (bodyPost P fn R) (Z51 args.toList 0) w):Calls P f args w R:=by
 refine calls_of_wp hf hb (h.h _ ?_);rw [hn];have cO:args.size<=n:=XY hs;refine ⟨rfl,by simp;omega,λt v hv=>?_⟩;obtain ⟨_,h2⟩:=Z3A _ _ _ _ hv;simp only [Nat.sub_zero] at h2;have ag:t<args.size:=by
  have:=(Xx.1 h2).1;simpa using this
 have:args[t]?=some v:=by simpa using h2
 have h3:(args++Array.replicate (n - args.size) undef)[t]?=some v:=by
  rw [XX ag];exact this
 simp [XB,h3]
section post
variable {P:Program} {n:Nat} {fn:Func} {R:Ending->World->Prop} {e:Env} {w:World}
theorem Zac (hr:fn.results=#[]) (h:R (.returned (.tuple #[])) w):WQ n (bodyPost P fn R) .ret e w:=
 ⟨λa ha=>⟨ha.defers,_,results_none hr _ _ _,h⟩⟩
theorem Zad (hr:fn.results=#[]) (h:R (.returned (.tuple #[])) w):WQ n (bodyPost P fn R) .normal e w:=
 ⟨λa ha=>⟨ha.defers,_,results_none hr _ _ _,h⟩⟩
theorem Zl4 {t:Nat} {v:Value} (hr:fn.results=#[.tmp t]) (ht:look e t=some v) (h:R (.returned v) w):WQ n (bodyPost P fn R) .ret e w:=
 ⟨λa ha=>⟨ha.defers,_,results_tmp hr _ _ _,by rw [ha.vals t v ht];exact h⟩⟩
theorem Zl5 {t u:Nat} {v x:Value} (hr:fn.results=#[.tmp t,.tmp u]) (ht:look e t=some v) (hu:look e u=some x) (h:R (.returned (.tuple #[v,x])) w):WQ n (bodyPost P fn R) .ret e w:=
 ⟨λa ha=>⟨ha.defers,_,results_tmp2 hr _ _ _,by rw [ha.vals t v ht,ha.vals u x hu];exact h⟩⟩
theorem Zl6 {t u s:Nat} {v x y:Value} (hr:fn.results=#[.tmp t,.tmp u,.tmp s]) (ht:look e t=some v) (hu:look e u=some x) (hs:look e s=some y) (h:R (.returned (.tuple #[v,x,y])) w):WQ n (bodyPost P fn R) .ret e w:=
 ⟨λa ha=>⟨ha.defers,.tuple #[v,x,y],by simp [results,hr];simpa [XB] using And.intro (ha.vals t v ht) (And.intro (ha.vals u x hu) (ha.vals s y hs)),h⟩⟩
end post
theorem cW0 {P:Program} {f:FuncId} {fn:Func} {c:Code} {w:World} {R:Ending->World->Prop} (n:Nat) (hf:P.funcs[f]?=some fn) (h:WC P n c (bodyPost P fn R) [] w) (hb:fn.body=some c:=by exact rfl) (hn:fn.ntmps=n:=by exact rfl):Calls P f #[] w R:=Z11 hf hb hn rfl h
theorem cW1 {P:Program} {f:FuncId} {fn:Func} {c:Code} {a0:Value} {w:World} {R:Ending->World->Prop} (n:Nat) (hf:P.funcs[f]?=some fn) (h:WC P n c (bodyPost P fn R) [(0,a0)] w) (hb:fn.body=some c:=by exact rfl) (hn:fn.ntmps=n:=by exact rfl) (hs:Nat.ble 1 n=true:=by exact rfl):Calls P f #[a0] w R:=Z11 hf hb hn hs h
theorem cW2 {P:Program} {f:FuncId} {fn:Func} {c:Code} {a0 a1:Value} {w:World} {R:Ending->World->Prop} (n:Nat) (hf:P.funcs[f]?=some fn) (h:WC P n c (bodyPost P fn R) [(0,a0),(1,a1)] w) (hb:fn.body=some c:=by exact rfl) (hn:fn.ntmps=n:=by exact rfl) (hs:Nat.ble 2 n=true:=by exact rfl):Calls P f #[a0,a1] w R:=Z11 hf hb hn hs h
theorem cW3 {P:Program} {f:FuncId} {fn:Func} {c:Code} {a0 a1 a2:Value} {w:World} {R:Ending->World->Prop} (n:Nat) (hf:P.funcs[f]?=some fn) (h:WC P n c (bodyPost P fn R) [(0,a0),(1,a1),(2,a2)] w) (hb:fn.body=some c:=by exact rfl) (hn:fn.ntmps=n:=by exact rfl) (hs:Nat.ble 3 n=true:=by exact rfl):Calls P f #[a0,a1,a2] w R:=Z11 hf hb hn hs h
theorem cW4 {P:Program} {f:FuncId} {fn:Func} {c:Code} {a0 a1 a2 a3:Value} {w:World} {R:Ending->World->Prop} (n:Nat) (hf:P.funcs[f]?=some fn) (h:WC P n c (bodyPost P fn R) [(0,a0),(1,a1),(2,a2),(3,a3)] w) (hb:fn.body=some c:=by exact rfl) (hn:fn.ntmps=n:=by exact rfl) (hs:Nat.ble 4 n=true:=by exact rfl):Calls P f #[a0,a1,a2,a3] w R:=Z11 hf hb hn hs h
theorem cW5 {P:Program} {f:FuncId} {fn:Func} {c:Code} {a0 a1 a2 a3 a4:Value} {w:World} {R:Ending->World->Prop} (n:Nat) (hf:P.funcs[f]?=some fn) (h:WC P n c (bodyPost P fn R) [(0,a0),(1,a1),(2,a2),(3,a3),(4,a4)] w) (hb:fn.body=some c:=by exact rfl) (hn:fn.ntmps=n:=by exact rfl) (hs:Nat.ble 5 n=true:=by exact rfl):Calls P f #[a0,a1,a2,a3,a4] w R:=Z11 hf hb hn hs h
class Und (P:Program) (t:Nat) (d:outParam TypeDesc):Prop where
 h:P.underlying t=some d
class Siz (P:Program) (t:Nat) (k:outParam Nat):Prop where
 h:(P.info? t).map (·.size)=some k
class Zer (P:Program) (t:Nat) (z:outParam Value):Prop where
 h:(P.info? t).bind (·.zero)=some z
class Byt (P:Program) (t:Nat) (k:outParam Nat):Prop where
 h:(P.info? t).map (·.bytes)=some k
class Fld (P:Program) (t i:Nat) (off:outParam Nat):Prop where
 h:∃ fs f k,P.underlying t=some (.struct fs)/\fs[i]?=some f/\f.offset=off/\(P.info? f.type).map (·.size)=some (k+1)
class Fun (P:Program) (f:Nat) (fn:outParam Func):Prop where
 h:P.funcs[f]?=some fn
 enters:Enters P f
theorem Siz.run {P:Program} {t k:Nat} [h:Siz P t k] (w:World):(sizeOf t).run P w=.ok k w:=by
 have:=h.h;cases hi:P.info? t with
 | none=>simp [hi] at this
 | some i=>rw [hi] at this;simp at this;simp [sizeOf,typeInfo,hi,this]
theorem Zer.run {P:Program} {t:Nat} {z:Value} [h:Zer P t z] (w:World):(zeroValue t).run P w=.ok z w:=by
 have:=h.h;cases hi:P.info? t with
 | none=>simp [hi] at this
 | some i=>rw [hi] at this;simp at this;simp [zeroValue,typeInfo,hi,this]
def Z0V:TypeDesc->Bool
 | .struct _|.array _ _=>true
 | _=>false
theorem Und.isAgg {P:Program} {t:Nat} {d:TypeDesc} [h:Und P t d] (w:World):(Go.isAgg t).run P w=.ok (Z0V d) w:=by
 cases d<;>simp [Go.isAgg,run_underlying h.h,Z0V]
section rules
variable {P:Program} {n:Nat} {e:Env} {w:World} {d:Option Nat} {ty:TypeId} {pos:String} {af:Array Edge} {g:Option (Nat×Bool)}
theorem ZZ {x:Operand} {v:Value} (hx:ev e x=some v):PR P n ⟨d,.move x,ty,pos,af,g⟩ e w v:=⟨λa ha=>by simp [execOp,ha.ev hx]⟩
theorem Z65 {x:Operand} {v:Value} (hx:ev e x=some v):PR P n ⟨d,.assign x,ty,pos,af,g⟩ e w v:=⟨λa ha=>by simp [execOp,ha.ev hx]⟩
theorem Zfy {c x y:Operand} {v:Value} (hc:ev e c=some (.bool true)) (hx:ev e x=some v):PR P n ⟨d,.pick c x y,ty,pos,af,g⟩ e w v:=
 ⟨λa ha=>by simp [execOp,ha.ev hc,ha.ev hx,asBool]⟩
theorem Zfz {c x y:Operand} {v:Value} (hc:ev e c=some (.bool false)) (hx:ev e y=some v):PR P n ⟨d,.pick c x y,ty,pos,af,g⟩ e w v:=
 ⟨λa ha=>by simp [execOp,ha.ev hc,ha.ev hx,asBool]⟩
theorem Zhv {x:Operand} {b:Bool} (hx:ev e x=some (.bool b)) {t:TypeId}:PR P n ⟨d,.unOp .not t x,ty,pos,af,g⟩ e w (.bool (!b)):=
 ⟨λa ha=>by simp [execOp,ha.ev hx,Op.unary]⟩
theorem Zhw {x:Operand} (hx:ev e x=some (.bool true)) {t:TypeId}:PR P n ⟨d,.unOp .not t x,ty,pos,af,g⟩ e w (.bool false):=
 ⟨λa ha=>by simp [execOp,ha.ev hx,Op.unary]⟩
theorem Zhx {x:Operand} (hx:ev e x=some (.bool false)) {t:TypeId}:PR P n ⟨d,.unOp .not t x,ty,pos,af,g⟩ e w (.bool true):=
 ⟨λa ha=>by simp [execOp,ha.ev hx,Op.unary]⟩
def I64 (z:Int):Prop:=-9223372036854775808<=z/\z<=9223372036854775807
theorem Z0c {z:Int} (h:I64 z):IntKind.i64.wrap z=z:=by
 unfold I64 at h;rw [IntKind.wrap_i64];omega
section arith
variable {x y:Operand} {a b:Int} {t u:TypeId}
theorem Zdh (hx:ev e x=some (.int .i64 a)) (hy:ev e y=some (.int .i64 b)) (hr:I64 (a+b)):PR P n ⟨d,.binOp .add t x y u,ty,pos,af,g⟩ e w (.int .i64 (a+b)):=
 ⟨λc ha=>by simp only [execOp,ha.ev hx,ha.ev hy];simp [go_sem,Op.intArith,Z0c hr]⟩
theorem Z66 (hx:ev e x=some (.int .i64 a)) (hy:ev e y=some (.int .i64 b)) (hr:I64 (a - b)):PR P n ⟨d,.binOp .sub t x y u,ty,pos,af,g⟩ e w (.int .i64 (a - b)):=
 ⟨λc ha=>by simp only [execOp,ha.ev hx,ha.ev hy];simp [go_sem,Op.intArith,Z0c hr]⟩
theorem Zop (hx:ev e x=some (.int .i64 a)) (hy:ev e y=some (.int .i64 b)) (hr:I64 (a * b)):PR P n ⟨d,.binOp .mul t x y u,ty,pos,af,g⟩ e w (.int .i64 (a * b)):=
 ⟨λc ha=>by simp only [execOp,ha.ev hx,ha.ev hy];simp [go_sem,Op.intArith,Z0c hr]⟩
theorem Zoq (hx:ev e x=some (.int .i64 a)) (hr:I64 (- a)):PR P n ⟨d,.unOp .neg t x,ty,pos,af,g⟩ e w (.int .i64 (- a)):=
 ⟨λc ha=>by simp only [execOp,ha.ev hx];simp [go_sem,Op.unary,Op.intArith,Z0c hr]⟩
theorem Zor (hx:ev e x=some (.int .i64 a)) (hy:ev e y=some (.int .i64 b)) (hb:b≠0) (hr:I64 (a.tmod b)):PR P n ⟨d,.binOp .rem t x y u,ty,pos,af,g⟩ e w (.int .i64 (a.tmod b)):=
 ⟨λc ha=>by simp only [execOp,ha.ev hx,ha.ev hy];simp [go_sem,Op.intDiv,hb];try rw [Z0c hr]⟩
theorem Zos (hx:ev e x=some (.int .i64 a)) (hy:ev e y=some (.int .i64 b)) (hb:b≠0) (hr:I64 (a.tdiv b)):PR P n ⟨d,.binOp .quo t x y u,ty,pos,af,g⟩ e w (.int .i64 (a.tdiv b)):=
 ⟨λc ha=>by simp only [execOp,ha.ev hx,ha.ev hy];simp [go_sem,Op.intDiv,hb];try rw [Z0c hr]⟩
theorem ZeE (hx:ev e x=some (.int .i64 a)) (hy:ev e y=some (.int .i64 b)) (h0:0<=a) (hb:0<b) (hr:I64 a):PR P n ⟨d,.binOp .rem t x y u,ty,pos,af,g⟩ e w (.int .i64 (a % b)):=by
 have h1:a.tmod b=a % b:=Int.tmod_eq_emod_of_nonneg h0;rw [<- h1];refine Zor hx hy (by omega) ?_;rw [h1];have:=Ya3 a (show b≠0 by omega);have h2:a % b<=a:=by
  by_cases cP:a<b;rw [Ybt h0 cP];exact YaY _;have:=YaR a hb;omega
 unfold I64 at hr ⊢;omega
theorem ZeF (hx:ev e x=some (.int .i64 a)) (hy:ev e y=some (.int .i64 b)) (h0:0<=a) (hb:0<b) (hr:I64 a):PR P n ⟨d,.binOp .quo t x y u,ty,pos,af,g⟩ e w (.int .i64 (a / b)):=by
 have h1:a.tdiv b=a / b:=Int.tdiv_eq_ediv_of_nonneg h0;rw [<- h1];refine Zos hx hy (by omega) ?_;rw [h1];have:=Int.ediv_nonneg h0 (Int.le_of_lt hb);have h2:a / b<=a:=Int.ediv_le_self _ h0;unfold I64 at hr ⊢;omega
variable {k:IntKind}
theorem Zhy (hx:ev e x=some (.int k a)) (hy:ev e y=some (.int k b)):PR P n ⟨d,.binOp .lss t x y u,ty,pos,af,g⟩ e w (.bool (decide (a<b))):=
 ⟨λc ha=>by simp only [execOp,ha.ev hx,ha.ev hy];simp [go_sem]⟩
theorem Zot (hx:ev e x=some (.int k a)) (hy:ev e y=some (.int k b)):PR P n ⟨d,.binOp .leq t x y u,ty,pos,af,g⟩ e w (.bool (decide (a<=b))):=
 ⟨λc ha=>by simp only [execOp,ha.ev hx,ha.ev hy];simp [go_sem]⟩
theorem Zhz (hx:ev e x=some (.int k a)) (hy:ev e y=some (.int k b)):PR P n ⟨d,.binOp .gtr t x y u,ty,pos,af,g⟩ e w (.bool (decide (b<a))):=
 ⟨λc ha=>by simp only [execOp,ha.ev hx,ha.ev hy];simp [go_sem]⟩
theorem Zou (hx:ev e x=some (.int k a)) (hy:ev e y=some (.int k b)):PR P n ⟨d,.binOp .geq t x y u,ty,pos,af,g⟩ e w (.bool (decide (b<=a))):=
 ⟨λc ha=>by simp only [execOp,ha.ev hx,ha.ev hy];simp [go_sem]⟩
theorem Zov (hx:ev e x=some (.int k a)) (hy:ev e y=some (.int k b)):PR P n ⟨d,.binOp .eql t x y u,ty,pos,af,g⟩ e w (.bool (decide (a=b))):=
 ⟨λc ha=>by simp only [execOp,ha.ev hx,ha.ev hy];simp [go_sem];exact YaI a b⟩
theorem ZhA (hx:ev e x=some (.int k a)) (hy:ev e y=some (.int k b)):PR P n ⟨d,.binOp .neq t x y u,ty,pos,af,g⟩ e w (.bool (decide (¬ a=b))):=
 ⟨λc ha=>by simp only [execOp,ha.ev hx,ha.ev hy];simp [go_sem];rw [bne,YaI]⟩
theorem Zl7 {p q:Bool} [hu:Und P t .bool] (hx:ev e x=some (.bool p)) (hy:ev e y=some (.bool q)):PR P n ⟨d,.binOp .eql t x y u,ty,pos,af,g⟩ e w (.bool (decide (p=q))):=
 ⟨λc ha=>by simp only [execOp,ha.ev hx,ha.ev hy];simp [go_sem,binOp,run_equal_bool w t p q hu.h];cases p<;>cases q<;>rfl⟩
theorem ZeG {p q:Bool} [hu:Und P t .bool] (hx:ev e x=some (.bool p)) (hy:ev e y=some (.bool q)):PR P n ⟨d,.binOp .neq t x y u,ty,pos,af,g⟩ e w (.bool (decide (¬ p=q))):=
 ⟨λc ha=>by simp only [execOp,ha.ev hx,ha.ev hy];simp [go_sem,binOp,run_equal_bool w t p q hu.h];cases p<;>cases q<;>rfl⟩
end arith
theorem Zdi {x:Operand} {vs:Array Value} {i:Nat} {v:Value} (hx:ev e x=some (.tuple vs)) (hv:vs[i]?=some v):PR P n ⟨d,.extract x i,ty,pos,af,g⟩ e w v:=
 ⟨λa ha=>by simp [execOp,ha.ev hx,Instr.extract,hv]⟩
theorem ZhB {x:Operand} {t:TypeId} {el:TypeId} [hu:Und P t (.slice el)] {p:Option Addr} {l c:Nat} (hx:ev e x=some (.slice p l c)) :
 PR P n ⟨d,.call { callee:=.builtin .len,args:=#[x],argTypes:=#[t] },ty,pos,af,g⟩ e w (.int .i64 (l:Int)):=
 ⟨λa ha => by
   have:=run_len_slice (P:=P) w t ty p l c (by rw [hu.h,Program.elem,hu.h]);simp [execOp,resolve,invoke,builtin,ha.ev hx,this,goInt]⟩
theorem Z6O {t i off:Nat} [h:Fld P t i off] (b o:Nat) (w:World):(Instr.fieldAt t (.pointer (some ⟨b,o,none⟩)) i).run P w=.ok (.pointer (some ⟨b,o+off,none⟩)) w:=by
 obtain ⟨fs,f,k,h1,h2,rfl,h3⟩:=h.h;have:Siz P f.type (k+1):=⟨h3⟩
 simp [Instr.fieldAt,run_underlying h1,h2,Instr.sureAddr,fieldPlace,Siz.run,Addr.add_lit]
theorem Z1J {x:Operand} {t:TypeId} {b o i off:Nat} [hf:Fld P t i off] (hx:ev e x=some (.pointer (some ⟨b,o,none⟩))):PR P n ⟨d,.fieldAddr t x i,ty,pos,af,g⟩ e w (.pointer (some ⟨b,o+off,none⟩)):=
 ⟨λa ha=>by simp [execOp,ha.ev hx,Z6O]⟩
theorem JH {x:Operand} {t:TypeId} {D:TypeDesc} {ad:Addr} {v:Value} [hu:Und P t D] (hA:Z0V D=false) (hx:ev e x=some (.pointer (some ad))) (hc:w.cell? ad=some v) :
 PR P n ⟨d,.load t x,ty,pos,af,g⟩ e w v:=
 ⟨λa ha=>by simp [execOp,ha.ev hx,Instr.loadAt,Instr.sureAddr,loadVar,Und.isAgg,hA,hc]⟩
theorem Z3B {x:Operand} {t:TypeId} {D:TypeDesc} {b o k:Nat} {cs:List Value} [hu:Und P t D] (hA:Z0V D=true) [hs:Siz P t k] (hx:ev e x=some (.pointer (some ⟨b,o,none⟩)))
 (hl:cs.length=k) (hc:∀ j u,cs[j]?=some u->w.cell? ⟨b,o+j,none⟩=some u) :
 PR P n ⟨d,.load t x,ty,pos,af,g⟩ e w (.agg cs.toArray):=
 ⟨λa ha => by
   have:=run_loadCells_list (P:=P) w ⟨b,o,none⟩ cs (λj v h=>by rw [Addr.add_lit];exact hc j v h);rw [hl] at this;simp [execOp,ha.ev hx,Instr.loadAt,Instr.sureAddr,loadVar,Und.isAgg,hA,Siz.run,this]⟩
theorem Zae {f:Nat}:PR P n ⟨d,.makeFunc (.func f) #[] #[],ty,pos,af,g⟩ e w (.func (.func f) #[] #[]):=
 ⟨λa ha=>by simp [execOp,Instr.makeFunc]⟩
theorem Zaf {f:Nat} {x:Operand} {v:Value} (hx:ev e x=some v):PR P n ⟨d,.makeFunc (.func f) #[] #[x],ty,pos,af,g⟩ e w (.func (.func f) #[] #[v]):=
 ⟨λa ha=>by simp [execOp,Instr.makeFunc,ha.ev hx]⟩
theorem Zag {f:Nat} {x y:Operand} {v u:Value} (hx:ev e x=some v) (hy:ev e y=some u):PR P n ⟨d,.makeFunc (.func f) #[] #[x,y],ty,pos,af,g⟩ e w (.func (.func f) #[] #[v,u]):=
 ⟨λa ha=>by simp [execOp,Instr.makeFunc,ha.ev hx,ha.ev hy]⟩
theorem Zah {f:Nat} {x y z:Operand} {v u s:Value} (hx:ev e x=some v) (hy:ev e y=some u) (hz:ev e z=some s):PR P n ⟨d,.makeFunc (.func f) #[] #[x,y,z],ty,pos,af,g⟩ e w (.func (.func f) #[] #[v,u,s]):=
 ⟨λa ha=>by simp [execOp,Instr.makeFunc,ha.ev hx,ha.ev hy,ha.ev hz]⟩
def Ret (G:Value->World->Prop) (r:Ending) (w':World):Prop:=∃ v,r=.returned v/\G v w'
theorem Ret.mk {G:Value->World->Prop} {v:Value} {w':World} (h:G v w'):Ret G (.returned v) w':=⟨v,rfl,h⟩
theorem Calls.ret {P:Program} {f:FuncId} {args:Array Value} {w:World} {G G':Value->World->Prop} (h:Calls P f args w (Ret G)) (hg:∀ v w',G v w'->G' v w'):Calls P f args w (Ret G'):=
 h.mono λ_ _ ⟨v,h1,h2⟩=>⟨v,h1,hg _ _ h2⟩
theorem Z6 {f:Nat} {fn:Func} {xs:Array Operand} {ts:Array TypeId} {vs:Array Value} {G:Value->World->Prop} {c:Operand} [hf:Fun P f fn] (hc:ev e c=some (.func (.func f) #[] #[]))
 (hv:∀ a,Has n e a->xs.map a.eval=vs) (h:Calls P f vs w (Ret G)) :
 OE P n ⟨d,.call { callee:=.value c,args:=xs,argTypes:=ts },ty,pos,af,g⟩ e w G:=
 ⟨λa ha Q => by
   have he:(execOp a.eval ⟨d,.call { callee:=.value c,args:=xs,argTypes:=ts },ty,pos,af,g⟩).run P w=.ok (.enter f vs) w:=by
    simp only [execOp,resolve,ha.ev hc,Deferred.ofValue,hv a ha];simp [invoke];exact hf.enters vs w
   unfold Oper.wp;rw [he];simp only [Oper.upon];refine h.mono ?_;rintro r w' ⟨v,rfl,hg⟩;exact ⟨v,rfl,hg⟩⟩
theorem Z0k {f:Nat} {fn:Func} {xs:Array Operand} {ts:Array TypeId} {vs cap us:Array Value} {G:Value->World->Prop} {c:Operand} [hf:Fun P f fn] (hc:ev e c=some (.func (.func f) #[] cap))
 (hv:∀ a,Has n e a->xs.map a.eval=vs) (hu:vs++cap=us) (h:Calls P f us w (Ret G)) :
 OE P n ⟨d,.call { callee:=.value c,args:=xs,argTypes:=ts },ty,pos,af,g⟩ e w G:=
 ⟨λa ha Q => by
   have he:(execOp a.eval ⟨d,.call { callee:=.value c,args:=xs,argTypes:=ts },ty,pos,af,g⟩).run P w=.ok (.enter f us) w:=by
    simp only [execOp,resolve,ha.ev hc,Deferred.ofValue,hv a ha];simp [invoke,hu];exact hf.enters us w
   unfold Oper.wp;rw [he];simp only [Oper.upon];refine h.mono ?_;rintro r w' ⟨v,rfl,hg⟩;exact ⟨v,rfl,hg⟩⟩
theorem Z67:∀ a,Has n e a->(#[]:Array Operand).map a.eval=#[]:=λa ha=>by simp
theorem ZP {x:Operand} {v:Value} (hx:ev e x=some v):∀ a,Has n e a->#[x].map a.eval=#[v]:=λa ha=>by simp [ha.ev hx]
theorem Zg {x y:Operand} {v u:Value} (hx:ev e x=some v) (hy:ev e y=some u):∀ a,Has n e a->#[x,y].map a.eval=#[v,u]:=λa ha=>by simp [ha.ev hx,ha.ev hy]
theorem ZY {x y z:Operand} {v u s:Value} (hx:ev e x=some v) (hy:ev e y=some u) (hz:ev e z=some s):∀ a,Has n e a->#[x,y,z].map a.eval=#[v,u,s]:=λa ha=>by simp [ha.ev hx,ha.ev hy,ha.ev hz]
theorem Z7j {x y z k:Operand} {v u s r:Value} (hx:ev e x=some v) (hy:ev e y=some u) (hz:ev e z=some s) (hk:ev e k=some r):∀ a,Has n e a->#[x,y,z,k].map a.eval=#[v,u,s,r]:=
 λa ha=>by simp [ha.ev hx,ha.ev hy,ha.ev hz,ha.ev hk]
theorem ZfA {x y z k l:Operand} {v u s r q:Value} (hx:ev e x=some v) (hy:ev e y=some u) (hz:ev e z=some s) (hk:ev e k=some r) (hl:ev e l=some q):∀ a,Has n e a->#[x,y,z,k,l].map a.eval=#[v,u,s,r,q]:=
 λa ha=>by simp [ha.ev hx,ha.ev hy,ha.ev hz,ha.ev hk,ha.ev hl]
end rules
theorem mkF {P:Program} {f:Nat} {fn:Func} {c:Code} (h:P.funcs[f]?=some fn) (h2:(fn.name == "runtime.NumGoroutine")=false:=by kernel_rfl) (h3:fn.body=some c:=by exact rfl):Fun P f fn:=⟨h,enters_of h h2 h3⟩
theorem uM {P:Program} {t:Nat} {d:TypeDesc} (h:P.underlying t=some d):Und P t d:=⟨h⟩
end Go.Eng
namespace Go.Proofs.YtipfkbkkndacjaaGreatDoor
open Go Go.Eng
theorem sMz (t k:Nat) (h:(Tryz.prog.info? t).map (·.size)=some k:=by kernel_rfl):Siz Tryz.prog t k:=⟨h⟩
theorem bMz (t k:Nat) (h:(Tryz.prog.info? t).map (·.bytes)=some k:=by kernel_rfl):Byt Tryz.prog t k:=⟨h⟩
theorem zMz (t:Nat) (z:Value) (h:(Tryz.prog.info? t).bind (·.zero)=some z:=by kernel_rfl):Zer Tryz.prog t z:=⟨h⟩
theorem fMz {t:Nat} (i off k:Nat) {fs:Array Field} {f:Field} (hu:Tryz.prog.underlying t=some (.struct fs)) (h1:fs[i]?=some f:=by exact rfl) (h2:f.offset=off:=by exact rfl) (h3:(Tryz.prog.info? f.type).map (·.size)=some (k+1):=by kernel_rfl):Fld Tryz.prog t i off:=⟨fs,f,k,hu,h1,h2,h3⟩
theorem mixed:Tryz.prog.follows .mixedOrders=true:=by kernel_rfl
abbrev ZwS:=uM Tryz.underlying3
abbrev ZwT:=sMz 3 1
abbrev ZwU:=bMz 3 8
abbrev ZwV:=zMz 3 (.int .i64 0)
abbrev ZwW:=uM Tryz.underlying4
abbrev ZwX:=sMz 4 1
abbrev ZwY:=bMz 4 1
abbrev ZwZ:=zMz 4 (.bool false)
abbrev Zx0:=uM Tryz.underlying5
abbrev Zx1:=sMz 5 1
abbrev Zx2:=uM Tryz.underlying9
abbrev Zx3:=sMz 9 1
abbrev Zx4:=bMz 9 16
abbrev Zx5:=zMz 9 (.string ByteArray.empty)
abbrev Ztd:=uM Tryz.underlying20
abbrev Zte:=uM Tryz.underlying21
abbrev Ztf:=uM Tryz.underlying22
abbrev Ztg:=sMz 22 1
abbrev Zth:=uM Tryz.underlying23
abbrev Zti:=sMz 23 1
abbrev Ztj:=bMz 23 24
abbrev Ztk:=zMz 23 (.slice none 0 0)
abbrev Ztl:=uM Tryz.underlying24
abbrev Ztm:=sMz 24 1
abbrev Ztn:=zMz 24 (.slice none 0 0)
abbrev Zto:=uM Tryz.underlying25
abbrev Ztp:=sMz 25 1
abbrev Ztq:=uM Tryz.underlying26
abbrev Ztr:=uM Tryz.underlying27
abbrev Zts:=sMz 27 1
abbrev Ztt:=zMz 27 (.slice none 0 0)
abbrev Ztu:=uM Tryz.underlying28
abbrev Ztv:=uM Tryz.underlying29
abbrev Ztw:=sMz 29 1
abbrev Ztx:=uM Tryz.underlying30
abbrev Zty:=sMz 30 1
abbrev Ztz:=uM Tryz.underlying31
abbrev ZtA:=sMz 31 1
abbrev ZtB:=uM Tryz.underlying33
abbrev ZtC:=sMz 33 2
abbrev ZtD:=zMz 33 (.agg #[.int .i64 0,.slice none 0 0])
abbrev Zl8:=fMz 0 0 0 Tryz.underlying33
abbrev Zl9:=fMz 1 1 0 Tryz.underlying33
abbrev ZtE:=uM Tryz.underlying35
abbrev ZtF:=sMz 35 12
abbrev ZtG:=zMz 35 (.agg #[.bool false,.bool false,.bool false,.bool false,.bool false,.bool false,.bool false,.slice none 0 0,.slice none 0 0,.int .i64 0,.slice none 0 0,.int .i64 0])
abbrev Zla:=fMz 0 0 6 Tryz.underlying35
abbrev Zlb:=fMz 1 7 0 Tryz.underlying35
abbrev Zlc:=fMz 2 8 0 Tryz.underlying35
abbrev Zld:=fMz 3 9 1 Tryz.underlying35
abbrev Zle:=fMz 4 11 0 Tryz.underlying35
abbrev ZtH:=uM Tryz.underlying37
abbrev ZtI:=sMz 37 19
abbrev ZtJ:=zMz 37 (.agg #[.slice none 0 0,.slice none 0 0,.slice none 0 0,.slice none 0 0,.slice none 0 0,.bool false,.bool false,.bool false,.bool false,.bool false,.bool false,.bool false,.slice none 0 0,.slice none 0 0,.int .i64 0,.slice none 0 0,.int .i64 0,.int .i64 0,.int .i64 0])
abbrev Zlf:=fMz 0 0 0 Tryz.underlying37
abbrev Zlg:=fMz 1 1 0 Tryz.underlying37
abbrev Zlh:=fMz 2 2 0 Tryz.underlying37
abbrev Zli:=fMz 3 3 0 Tryz.underlying37
abbrev Zlj:=fMz 4 4 0 Tryz.underlying37
abbrev Zlk:=fMz 5 5 11 Tryz.underlying37
abbrev Zll:=fMz 6 17 0 Tryz.underlying37
abbrev Zlm:=fMz 7 18 0 Tryz.underlying37
abbrev ZtK:=uM Tryz.underlying45
abbrev ZtL:=sMz 45 6
abbrev ZtM:=bMz 45 56
abbrev ZtN:=zMz 45 (.agg #[.int .i64 0,.string ByteArray.empty,.int .i64 0,.int .i64 0,.int .i64 0,.int .i64 0])
abbrev Zln:=fMz 0 0 0 Tryz.underlying45
abbrev Zlo:=fMz 1 1 0 Tryz.underlying45
abbrev Zlp:=fMz 2 2 0 Tryz.underlying45
abbrev Zlq:=fMz 3 3 0 Tryz.underlying45
abbrev Zlr:=fMz 4 4 0 Tryz.underlying45
abbrev Zls:=fMz 5 5 0 Tryz.underlying45
abbrev ZtO:=uM Tryz.underlying47
abbrev ZtP:=sMz 47 1
abbrev ZtQ:=zMz 47 (.slice none 0 0)
abbrev ZtR:=uM Tryz.underlying54
abbrev ZtS:=sMz 54 1
abbrev ZtT:=uM Tryz.underlying56
abbrev ZtU:=sMz 56 11
abbrev ZtV:=bMz 56 120
abbrev ZtW:=zMz 56 (.agg #[.string ByteArray.empty,.int .i64 0,.string ByteArray.empty,.int .i64 0,.int .i64 0,.int .i64 0,.int .i64 0,.int .i64 0,.int .i64 0,.int .i64 0,.slice none 0 0])
abbrev Zlt:=fMz 0 0 0 Tryz.underlying56
abbrev Zlu:=fMz 1 1 5 Tryz.underlying56
abbrev Zlv:=fMz 2 7 0 Tryz.underlying56
abbrev Zlw:=fMz 3 8 0 Tryz.underlying56
abbrev Zlx:=fMz 4 9 0 Tryz.underlying56
abbrev Zly:=fMz 5 10 0 Tryz.underlying56
abbrev ZtX:=uM Tryz.underlying60
abbrev ZtY:=sMz 60 1
abbrev ZtZ:=uM Tryz.underlying62
abbrev Zu0:=sMz 62 7
abbrev Zu1:=bMz 62 120
abbrev Zu2:=zMz 62 (.agg #[.string ByteArray.empty,.int .i64 0,.string ByteArray.empty,.slice none 0 0,.slice none 0 0,.string ByteArray.empty,.string ByteArray.empty])
abbrev Zlz:=fMz 0 0 0 Tryz.underlying62
abbrev ZlA:=fMz 1 1 0 Tryz.underlying62
abbrev ZlB:=fMz 2 2 0 Tryz.underlying62
abbrev ZlC:=fMz 3 3 0 Tryz.underlying62
abbrev ZlD:=fMz 4 4 0 Tryz.underlying62
abbrev ZlE:=fMz 5 5 0 Tryz.underlying62
abbrev ZlF:=fMz 6 6 0 Tryz.underlying62
abbrev Zu3:=uM Tryz.underlying67
abbrev Zu4:=sMz 67 3
abbrev Zu5:=bMz 67 24
abbrev Zu6:=zMz 67 (.agg #[.int .i64 0,.int .i64 0,.int .i64 0])
abbrev Zu7:=uM Tryz.underlying73
abbrev Zu8:=sMz 73 3
abbrev Zu9:=bMz 73 24
abbrev Zua:=zMz 73 (.agg #[.int .i64 0,.int .i64 0,.int .i64 0])
abbrev ZlG:=fMz 0 0 0 Tryz.underlying73
abbrev ZlH:=fMz 1 1 0 Tryz.underlying73
abbrev ZlI:=fMz 2 2 0 Tryz.underlying73
abbrev Zub:=uM Tryz.underlying75
abbrev Zuc:=sMz 75 2
abbrev Zud:=bMz 75 16
abbrev Zue:=zMz 75 (.agg #[.int .i64 0,.int .i64 0])
abbrev ZlJ:=fMz 0 0 0 Tryz.underlying75
abbrev ZlK:=fMz 1 1 0 Tryz.underlying75
abbrev Zuf:=uM Tryz.underlying76
abbrev Zug:=sMz 76 1
abbrev Zuh:=uM Tryz.underlying78
abbrev Zui:=sMz 78 5
abbrev Zuj:=bMz 78 56
abbrev Zuk:=zMz 78 (.agg #[.int .i64 0,.int .i64 0,.int .i64 0,.int .i64 0,.slice none 0 0])
abbrev ZlL:=fMz 0 0 0 Tryz.underlying78
abbrev ZlM:=fMz 1 1 0 Tryz.underlying78
abbrev ZlN:=fMz 2 2 0 Tryz.underlying78
abbrev ZlO:=fMz 3 3 0 Tryz.underlying78
abbrev ZlP:=fMz 4 4 0 Tryz.underlying78
abbrev Zul:=uM Tryz.underlying80
abbrev Zum:=sMz 80 4
abbrev Zun:=bMz 80 32
abbrev Zuo:=zMz 80 (.agg #[.int .i64 0,.int .i64 0,.int .i64 0,.int .i64 0])
abbrev ZlQ:=fMz 0 0 0 Tryz.underlying80
abbrev ZlR:=fMz 1 1 0 Tryz.underlying80
abbrev ZlS:=fMz 2 2 0 Tryz.underlying80
abbrev ZlT:=fMz 3 3 0 Tryz.underlying80
abbrev Zup:=uM Tryz.underlying90
abbrev Zuq:=sMz 90 1
abbrev Zur:=zMz 90 (.slice none 0 0)
abbrev Zus:=uM Tryz.underlying92
abbrev Zut:=sMz 92 1
abbrev Zuu:=zMz 92 (.int .i64 0)
abbrev Zuv:=uM Tryz.underlying95
abbrev Zuw:=uM Tryz.underlying97
abbrev Zux:=sMz 97 4
abbrev Zuy:=zMz 97 (.agg #[.int .i64 0,.int .i64 0,.string ByteArray.empty,.slice none 0 0])
abbrev ZlU:=fMz 0 0 0 Tryz.underlying97
abbrev ZlV:=fMz 1 1 0 Tryz.underlying97
abbrev ZlW:=fMz 2 2 0 Tryz.underlying97
abbrev ZlX:=fMz 3 3 0 Tryz.underlying97
abbrev Zuz:=uM Tryz.underlying99
abbrev ZuA:=sMz 99 13
abbrev ZuB:=bMz 99 184
abbrev ZuC:=zMz 99 (.agg #[.string ByteArray.empty,.int .i64 0,.string ByteArray.empty,.int .i64 0,.int .i64 0,.string ByteArray.empty,.slice none 0 0,.int .i64 0,.int .i64 0,.string ByteArray.empty,.slice none 0 0,.string ByteArray.empty,.string ByteArray.empty])
abbrev ZlY:=fMz 0 0 0 Tryz.underlying99
abbrev ZlZ:=fMz 1 1 0 Tryz.underlying99
abbrev Zm0:=fMz 2 2 0 Tryz.underlying99
abbrev Zm1:=fMz 3 3 3 Tryz.underlying99
abbrev Zm2:=fMz 4 7 3 Tryz.underlying99
abbrev Zm3:=fMz 5 11 0 Tryz.underlying99
abbrev Zm4:=fMz 6 12 0 Tryz.underlying99
abbrev Zow:=uM Tryz.underlying108
abbrev Zox:=sMz 108 1
abbrev Zoy:=zMz 108 (.map none)
abbrev Zoz:=uM Tryz.underlying113
abbrev ZoA:=sMz 113 7
abbrev ZoB:=zMz 113 (.agg #[.int .i64 0,.int .i64 0,.int .i64 0,.int .i64 0,.int .i64 0,.int .i64 0,.int .i64 0])
abbrev ZhC:=fMz 0 0 0 Tryz.underlying113
abbrev ZhD:=fMz 1 1 0 Tryz.underlying113
abbrev ZhE:=fMz 2 2 0 Tryz.underlying113
abbrev ZhF:=fMz 3 3 0 Tryz.underlying113
abbrev ZhG:=fMz 4 4 0 Tryz.underlying113
abbrev ZhH:=fMz 5 5 0 Tryz.underlying113
abbrev ZhI:=fMz 6 6 0 Tryz.underlying113
abbrev ZoC:=uM Tryz.underlying115
abbrev ZoD:=sMz 115 3
abbrev ZoE:=bMz 115 24
abbrev ZoF:=zMz 115 (.agg #[.int .i64 0,.int .i64 0,.int .i64 0])
abbrev ZhJ:=fMz 0 0 0 Tryz.underlying115
abbrev ZhK:=fMz 1 1 0 Tryz.underlying115
abbrev ZhL:=fMz 2 2 0 Tryz.underlying115
abbrev ZoG:=uM Tryz.underlying128
abbrev ZoH:=uM Tryz.underlying132
abbrev ZoI:=sMz 132 3
abbrev ZoJ:=zMz 132 (.agg #[.int .i64 0,.int .i64 0,.int .i64 0])
abbrev ZhM:=fMz 0 0 0 Tryz.underlying132
abbrev ZhN:=fMz 1 1 0 Tryz.underlying132
abbrev ZhO:=fMz 2 2 0 Tryz.underlying132
abbrev ZoK:=uM Tryz.underlying138
abbrev ZoL:=sMz 138 9
abbrev ZoM:=bMz 138 72
abbrev ZoN:=zMz 138 (.agg #[.int .i64 0,.int .i64 0,.int .i64 0,.int .i64 0,.int .i64 0,.int .i64 0,.int .i64 0,.int .i64 0,.int .i64 0])
abbrev ZhP:=fMz 0 0 0 Tryz.underlying138
abbrev ZhQ:=fMz 1 1 0 Tryz.underlying138
abbrev ZhR:=fMz 2 2 0 Tryz.underlying138
abbrev ZhS:=fMz 3 3 0 Tryz.underlying138
abbrev ZhT:=fMz 4 4 0 Tryz.underlying138
abbrev ZhU:=fMz 5 5 0 Tryz.underlying138
abbrev ZhV:=fMz 6 6 0 Tryz.underlying138
abbrev ZhW:=fMz 7 7 0 Tryz.underlying138
abbrev ZhX:=fMz 8 8 0 Tryz.underlying138
abbrev ZoO:=sMz 141 2
abbrev ZoP:=bMz 141 16
abbrev ZoQ:=zMz 141 (.agg #[.int .i64 0,.int .i64 0])
abbrev ZhY:=fMz 0 0 0 Tryz.underlying141
abbrev ZoR:=uM Tryz.underlying143
abbrev ZoS:=sMz 143 2
abbrev ZoT:=bMz 143 16
abbrev ZoU:=zMz 143 (.agg #[.int .i64 0,.int .i64 0])
abbrev ZhZ:=fMz 0 0 0 Tryz.underlying143
abbrev Zi0:=fMz 1 1 0 Tryz.underlying143
abbrev Zi1:=fMz 0 0 0 Tryz.underlying146
abbrev Zi2:=fMz 1 1 0 Tryz.underlying146
abbrev ZoV:=uM Tryz.underlying153
abbrev ZoW:=uM Tryz.underlying160
abbrev ZoX:=uM Tryz.underlying164
abbrev Zi3:=fMz 0 0 6 Tryz.underlying167
abbrev Zi4:=fMz 1 7 11 Tryz.underlying167
abbrev Zi5:=fMz 2 19 0 Tryz.underlying167
abbrev Zi6:=fMz 3 20 0 Tryz.underlying167
abbrev Zi7:=fMz 4 21 0 Tryz.underlying167
abbrev Zi8:=fMz 5 22 0 Tryz.underlying167
abbrev Zi9:=fMz 6 23 0 Tryz.underlying167
abbrev Zia:=fMz 7 24 0 Tryz.underlying167
abbrev ZoY:=uM Tryz.underlying168
abbrev ZoZ:=uM Tryz.underlying171
abbrev Zp0:=sMz 171 2
abbrev Zp1:=bMz 171 16
abbrev Zp2:=zMz 171 (.agg #[.int .i64 0,.int .i64 0])
abbrev Zib:=fMz 0 0 0 Tryz.underlying171
abbrev Zic:=fMz 1 1 0 Tryz.underlying171
abbrev Zp3:=zMz 172 (.nilFunc)
abbrev Zp4:=uM Tryz.underlying183
abbrev Zp5:=sMz 183 4
abbrev Zp6:=bMz 183 40
abbrev Zp7:=zMz 183 (.agg #[.int .i64 0,.int .i64 0,.string ByteArray.empty,.int .i64 0])
abbrev Zid:=fMz 0 0 0 Tryz.underlying183
abbrev Zie:=fMz 1 1 0 Tryz.underlying183
abbrev Zif:=fMz 2 2 0 Tryz.underlying183
abbrev Zig:=fMz 3 3 0 Tryz.underlying183
abbrev Zp8:=uM Tryz.underlying184
abbrev Zih:=fMz 0 0 0 Tryz.underlying186
abbrev Zii:=fMz 1 1 0 Tryz.underlying186
abbrev Zp9:=uM Tryz.underlying192
abbrev Zpa:=uM Tryz.underlying197
abbrev Zpb:=uM Tryz.underlying235
abbrev Zpc:=sMz 235 2
abbrev Zpd:=zMz 235 (.agg #[.int .i64 0,.int .i64 0])
abbrev Zij:=fMz 0 0 0 Tryz.underlying235
abbrev Zik:=fMz 1 1 0 Tryz.underlying235
abbrev Zpe:=zMz 244 (.agg #[.slice none 0 0])
abbrev Zil:=fMz 0 0 0 Tryz.underlying244
abbrev Zpf:=uM Tryz.underlying259
abbrev Zpg:=uM Tryz.underlying262
abbrev Zph:=sMz 262 8
abbrev Zpi:=zMz 262 (.agg #[.int .i64 0,.bool false,.int .i64 0,.string ByteArray.empty,.int .i64 0,.int .i64 0,.int .i64 0,.int .i64 0])
abbrev Zim:=fMz 0 0 0 Tryz.underlying262
abbrev Zin:=fMz 1 1 0 Tryz.underlying262
abbrev Zio:=fMz 2 2 5 Tryz.underlying262
abbrev Zpj:=uM Tryz.underlying263
abbrev Zpk:=uM Tryz.underlying265
abbrev Zpl:=uM Tryz.underlying268
abbrev Zpm:=uM Tryz.underlying282
abbrev Zpn:=sMz 282 7
abbrev Zpo:=zMz 282 (.agg #[.int .i64 0,.int .i64 0,.int .i64 0,.int .i64 0,.int .i64 0,.int .i64 0,.int .i64 0])
abbrev Zpp:=uM Tryz.underlying295
abbrev Zpq:=uM Tryz.underlying312
abbrev Zpr:=uM Tryz.underlying313
abbrev Zip:=fMz 0 0 0 Tryz.underlying318
abbrev Ziq:=fMz 1 1 0 Tryz.underlying318
abbrev Zir:=fMz 2 2 0 Tryz.underlying318
abbrev Zps:=uM Tryz.underlying322
abbrev Zpt:=sMz 324 2
abbrev Zis:=fMz 1 1 0 Tryz.underlying324
abbrev Zpu:=uM Tryz.underlying325
abbrev Zpv:=sMz 325 8
abbrev Zpw:=zMz 325 (.agg #[.nilFunc,.nilFunc,.nilFunc,.nilFunc,.nilFunc,.nilFunc,.nilFunc,.nilFunc])
abbrev Zpx:=uM Tryz.underlying329
abbrev Zpy:=zMz 329 (.agg #[.int .i64 0,.int .i64 0,.int .i64 0,.int .i64 0,.int .i64 0,.int .i64 0,.int .i64 0,.int .i64 0,.int .i64 0,.int .i64 0,.int .i64 0,.int .i64 0,.int .i64 0,.int .i64 0,.int .i64 0,.int .i64 0,.int .i64 0,.int .i64 0,.int .i64 0,.int .i64 0,.int .i64 0,.int .i64 0,.int .i64 0,.int .i64 0,.int .i64 0,.int .i64 0,.int .i64 0,.int .i64 0,.int .i64 0,.int .i64 0,.int .i64 0,.int .i64 0])
abbrev Zpz:=uM Tryz.underlying342
abbrev ZpA:=uM Tryz.underlying345
abbrev ZpB:=sMz 345 2
abbrev ZpC:=bMz 345 16
abbrev ZpD:=zMz 345 (.agg #[.int .i64 0,.int .i64 0])
abbrev Zit:=fMz 0 0 0 Tryz.underlying345
abbrev ZpE:=uM Tryz.underlying350
abbrev ZpF:=sMz 350 3
abbrev ZpG:=zMz 350 (.agg #[.int .i64 0,.int .i64 0,.int .i64 0])
abbrev ZpH:=uM Tryz.underlying352
abbrev ZpI:=uM Tryz.underlying357
abbrev ZpJ:=uM Tryz.underlying371
abbrev ZpK:=uM Tryz.underlying374
abbrev ZpL:=uM Tryz.underlying378
abbrev ZuD:=mkF Tryz.func10
abbrev ZuE:=mkF Tryz.func11
abbrev ZuF:=mkF Tryz.func12
abbrev ZuG:=mkF Tryz.func13
abbrev ZuH:=mkF Tryz.func15
abbrev ZuI:=mkF Tryz.func17
abbrev ZuJ:=mkF Tryz.func18
abbrev ZuK:=mkF Tryz.func19
abbrev ZuL:=mkF Tryz.func24
abbrev ZuM:=mkF Tryz.func25
abbrev ZuN:=mkF Tryz.func26
abbrev ZuO:=mkF Tryz.func28
abbrev ZuP:=mkF Tryz.func29
abbrev ZuQ:=mkF Tryz.func30
abbrev ZuR:=mkF Tryz.func31
abbrev ZuS:=mkF Tryz.func32
abbrev ZuT:=mkF Tryz.func33
abbrev ZuU:=mkF Tryz.func34
abbrev ZuV:=mkF Tryz.func35
abbrev ZuW:=mkF Tryz.func36
abbrev ZuX:=mkF Tryz.func37
abbrev ZuY:=mkF Tryz.func38
abbrev ZuZ:=mkF Tryz.func39
abbrev Zv0:=mkF Tryz.func40
abbrev Zv1:=mkF Tryz.func41
abbrev Zv2:=mkF Tryz.func42
abbrev Zv3:=mkF Tryz.func43
abbrev Zv4:=mkF Tryz.func44
abbrev Zv5:=mkF Tryz.func45
abbrev Zv6:=mkF Tryz.func46
abbrev Zv7:=mkF Tryz.func47
abbrev Zv8:=mkF Tryz.func48
abbrev Zv9:=mkF Tryz.func49
abbrev Zva:=mkF Tryz.func50
abbrev Zvb:=mkF Tryz.func51
abbrev Zvc:=mkF Tryz.func52
abbrev Zvd:=mkF Tryz.func53
abbrev Zve:=mkF Tryz.func54
abbrev Zvf:=mkF Tryz.func55
abbrev Zvg:=mkF Tryz.func56
abbrev Zvh:=mkF Tryz.func58
abbrev Zvi:=mkF Tryz.func59
abbrev Zvj:=mkF Tryz.func60
abbrev Zvk:=mkF Tryz.func61
abbrev Zvl:=mkF Tryz.func62
abbrev Zvm:=mkF Tryz.func63
abbrev Zvn:=mkF Tryz.func64
abbrev Zvo:=mkF Tryz.func65
abbrev Zvp:=mkF Tryz.func66
abbrev Zvq:=mkF Tryz.func67
abbrev Zvr:=mkF Tryz.func68
abbrev Zvs:=mkF Tryz.func69
abbrev Zvt:=mkF Tryz.func70
abbrev Zvu:=mkF Tryz.func71
abbrev Zvv:=mkF Tryz.func74
abbrev Zvw:=mkF Tryz.func75
abbrev Zvx:=mkF Tryz.func76
abbrev Zvy:=mkF Tryz.func77
abbrev Zvz:=mkF Tryz.func78
abbrev ZvA:=mkF Tryz.func79
abbrev ZvB:=mkF Tryz.func80
abbrev ZvC:=mkF Tryz.func81
abbrev ZvD:=mkF Tryz.func82
abbrev ZvE:=mkF Tryz.func83
abbrev ZvF:=mkF Tryz.func84
abbrev ZvG:=mkF Tryz.func85
abbrev ZvH:=mkF Tryz.func86
abbrev ZvI:=mkF Tryz.func87
abbrev ZvJ:=mkF Tryz.func89
abbrev ZvK:=mkF Tryz.func90
abbrev ZvL:=mkF Tryz.func91
abbrev ZvM:=mkF Tryz.func92
abbrev ZvN:=mkF Tryz.func93
abbrev ZvO:=mkF Tryz.func96
abbrev ZpM:=mkF Tryz.func101
abbrev ZpN:=mkF Tryz.func102
abbrev ZpO:=mkF Tryz.func103
abbrev ZpP:=mkF Tryz.func104
abbrev ZpQ:=mkF Tryz.func105
abbrev ZpR:=mkF Tryz.func106
abbrev ZpS:=mkF Tryz.func107
abbrev ZpT:=mkF Tryz.func108
abbrev ZpU:=mkF Tryz.func109
abbrev ZpV:=mkF Tryz.func110
abbrev ZpW:=mkF Tryz.func111
abbrev ZpX:=mkF Tryz.func112
abbrev ZpY:=mkF Tryz.func113
abbrev ZpZ:=mkF Tryz.func114
abbrev Zq0:=mkF Tryz.func125
abbrev Zq1:=mkF Tryz.func126
abbrev Zq2:=mkF Tryz.func127
abbrev Zq3:=mkF Tryz.func128
abbrev Zq4:=mkF Tryz.func129
abbrev Zq5:=mkF Tryz.func130
abbrev Zq6:=mkF Tryz.func131
abbrev Zq7:=mkF Tryz.func132
abbrev Zq8:=mkF Tryz.func133
abbrev Zq9:=mkF Tryz.func134
abbrev Zqa:=mkF Tryz.func135
abbrev Zqb:=mkF Tryz.func136
abbrev Zqc:=mkF Tryz.func137
abbrev Zqd:=mkF Tryz.func138
abbrev Zqe:=mkF Tryz.func139
abbrev Zqf:=mkF Tryz.func140
abbrev Zqg:=mkF Tryz.func141
abbrev Zqh:=mkF Tryz.func142
abbrev Zqi:=mkF Tryz.func143
abbrev Zqj:=mkF Tryz.func144
abbrev Zqk:=mkF Tryz.func145
abbrev Zql:=mkF Tryz.func146
abbrev Zqm:=mkF Tryz.func147
abbrev Zqn:=mkF Tryz.func148
abbrev Zqo:=mkF Tryz.func149
abbrev Zqp:=mkF Tryz.func150
abbrev Zqq:=mkF Tryz.func151
abbrev Zqr:=mkF Tryz.func153
abbrev Zqs:=mkF Tryz.func155
abbrev Zqt:=mkF Tryz.func156
abbrev Zqu:=mkF Tryz.func157
abbrev Zqv:=mkF Tryz.func158
abbrev Zqw:=mkF Tryz.func159
abbrev Zqx:=mkF Tryz.func160
abbrev Zqy:=mkF Tryz.func161
abbrev Zqz:=mkF Tryz.func162
abbrev ZqA:=mkF Tryz.func163
abbrev ZqB:=mkF Tryz.func164
abbrev ZqC:=mkF Tryz.func165
abbrev ZqD:=mkF Tryz.func166
abbrev ZqE:=mkF Tryz.func167
abbrev ZqF:=mkF Tryz.func168
abbrev ZqG:=mkF Tryz.func169
abbrev ZqH:=mkF Tryz.func170
abbrev ZqI:=mkF Tryz.func171
abbrev ZqJ:=mkF Tryz.func178
abbrev ZqK:=mkF Tryz.func179
abbrev ZqL:=mkF Tryz.func180
abbrev ZqM:=mkF Tryz.func181
abbrev ZqN:=mkF Tryz.func182
abbrev ZqO:=mkF Tryz.func183
abbrev ZqP:=mkF Tryz.func184
abbrev ZqQ:=mkF Tryz.func185
abbrev ZqR:=mkF Tryz.func186
abbrev ZqS:=mkF Tryz.func187
abbrev ZqT:=mkF Tryz.func188
abbrev ZqU:=mkF Tryz.func189
abbrev ZqV:=mkF Tryz.func190
abbrev ZqW:=mkF Tryz.func191
abbrev ZqX:=mkF Tryz.func192
abbrev ZqY:=mkF Tryz.func193
abbrev ZqZ:=mkF Tryz.func194
abbrev Zr0:=mkF Tryz.func195
abbrev Zr1:=mkF Tryz.func201
abbrev Zr2:=mkF Tryz.func202
abbrev Zr3:=mkF Tryz.func203
abbrev Zr4:=mkF Tryz.func204
abbrev Zr5:=mkF Tryz.func205
abbrev Zr6:=mkF Tryz.func206
abbrev Zr7:=mkF Tryz.func207
abbrev Zr8:=mkF Tryz.func208
abbrev Zr9:=mkF Tryz.func209
abbrev Zra:=mkF Tryz.func210
abbrev Zrb:=mkF Tryz.func213
abbrev Zrc:=mkF Tryz.func214
abbrev Zrd:=mkF Tryz.func215
abbrev Zre:=mkF Tryz.func216
abbrev Zrf:=mkF Tryz.func217
abbrev Zrg:=mkF Tryz.func218
abbrev Zrh:=mkF Tryz.func219
abbrev Zri:=mkF Tryz.func220
abbrev Zrj:=mkF Tryz.func221
abbrev Zrk:=mkF Tryz.func222
abbrev Zrl:=mkF Tryz.func223
abbrev Zrm:=mkF Tryz.func224
abbrev Zrn:=mkF Tryz.func225
abbrev Zro:=mkF Tryz.func226
abbrev Zrp:=mkF Tryz.func227
abbrev Zrq:=mkF Tryz.func228
abbrev Zrr:=mkF Tryz.func229
abbrev Zrs:=mkF Tryz.func230
abbrev Zrt:=mkF Tryz.func231
abbrev Zru:=mkF Tryz.func234
abbrev Zrv:=mkF Tryz.func241
abbrev Zrw:=mkF Tryz.func242
abbrev Zrx:=mkF Tryz.func243
abbrev Zry:=mkF Tryz.func244
abbrev Zrz:=mkF Tryz.func245
abbrev ZrA:=mkF Tryz.func246
abbrev ZrB:=mkF Tryz.func247
abbrev ZrC:=mkF Tryz.func248
abbrev ZrD:=mkF Tryz.func249
abbrev ZrE:=mkF Tryz.func250
abbrev ZrF:=mkF Tryz.func251
abbrev ZrG:=mkF Tryz.func252
abbrev ZrH:=mkF Tryz.func253
abbrev ZrI:=mkF Tryz.func254
abbrev ZrJ:=mkF Tryz.func256
abbrev ZrK:=mkF Tryz.func257
abbrev ZrL:=mkF Tryz.func258
abbrev ZrM:=mkF Tryz.func259
abbrev ZrN:=mkF Tryz.func260
abbrev ZrO:=mkF Tryz.func261
abbrev ZrP:=mkF Tryz.func262
abbrev ZrQ:=mkF Tryz.func263
abbrev ZrR:=mkF Tryz.func272
abbrev ZrS:=mkF Tryz.func273
abbrev ZrT:=mkF Tryz.func274
abbrev ZrU:=mkF Tryz.func275
abbrev ZrV:=mkF Tryz.func276
abbrev ZrW:=mkF Tryz.func277
abbrev ZrX:=mkF Tryz.func279
abbrev ZrY:=mkF Tryz.func280
abbrev ZrZ:=mkF Tryz.func282
abbrev Zs0:=mkF Tryz.func283
abbrev Zs1:=mkF Tryz.func284
abbrev Zs2:=mkF Tryz.func285
abbrev Zs3:=mkF Tryz.func290
abbrev Zs4:=mkF Tryz.func295
abbrev Zs5:=mkF Tryz.func296
abbrev Zs6:=mkF Tryz.func297
abbrev Zs7:=mkF Tryz.func298
abbrev Zs8:=mkF Tryz.func299
abbrev Zs9:=mkF Tryz.func300
abbrev Zsa:=mkF Tryz.func301
abbrev Zsb:=mkF Tryz.func303
abbrev Zsc:=mkF Tryz.func304
abbrev Zsd:=mkF Tryz.func306
abbrev Zse:=mkF Tryz.func307
abbrev Zsf:=mkF Tryz.func309
abbrev Zsg:=mkF Tryz.func311
abbrev Zsh:=mkF Tryz.func312
abbrev Zsi:=mkF Tryz.func314
abbrev Zsj:=mkF Tryz.func318
abbrev Zsk:=mkF Tryz.func319
abbrev Zsl:=mkF Tryz.func321
abbrev Zsm:=mkF Tryz.func326
abbrev Zsn:=mkF Tryz.func333
abbrev Zso:=mkF Tryz.func334
abbrev Zsp:=mkF Tryz.func335
abbrev Zsq:=mkF Tryz.func336
abbrev Zsr:=mkF Tryz.func347
abbrev Zss:=mkF Tryz.func356
abbrev Zst:=mkF Tryz.func360
abbrev CC (f:Nat) (a:Array Value) (w:World) (G:Value->World->Prop):=Calls Tryz.prog f a w (Ret G)
attribute [instance] ZwS ZwW Zx0 Zx2 Ztd Zte Ztf Zth Ztl Zto Ztq Ztr Ztu Ztv Ztx Ztz ZtB ZtE ZtH ZtK ZtO ZtR ZtT ZtX ZtZ Zu3 Zu7 Zub Zuf Zuh Zul Zup Zus Zuv Zuw Zuz Zow Zoz ZoC ZoG ZoH ZoK ZoR ZoV ZoW ZoX ZoY ZoZ Zp4 Zp8 Zp9 Zpa Zpb Zpf Zpg Zpj Zpk Zpl Zpm Zpp Zpq Zpr Zps Zpu Zpx Zpz ZpA ZpE ZpH ZpI ZpJ ZpK ZpL ZuD ZuE ZuF ZuG ZuH ZuI ZuJ ZuK ZuL ZuM ZuN ZuO ZuP ZuQ ZuR ZuS ZuT ZuU ZuV ZuW ZuX ZuY ZuZ Zv0 Zv1 Zv2 Zv3 Zv4 Zv5 Zv6 Zv7 Zv8 Zv9 Zva Zvb Zvc Zvd Zve Zvf Zvg Zvh Zvi Zvj Zvk Zvl Zvm Zvn Zvo Zvp Zvq Zvr Zvs Zvt Zvu Zvv Zvw Zvx Zvy Zvz ZvA ZvB ZvC ZvD ZvE ZvF ZvG ZvH ZvI ZvJ ZvK ZvL ZvM ZvN ZvO ZpM ZpN ZpO ZpP ZpQ ZpR ZpS ZpT ZpU ZpV ZpW ZpX ZpY ZpZ Zq0 Zq1 Zq2 Zq3 Zq4 Zq5 Zq6 Zq7 Zq8 Zq9 Zqa Zqb Zqc Zqd Zqe Zqf Zqg Zqh Zqi Zqj Zqk Zql Zqm Zqn Zqo Zqp Zqq Zqr Zqs Zqt Zqu Zqv Zqw Zqx Zqy Zqz ZqA ZqB ZqC ZqD ZqE ZqF ZqG ZqH ZqI ZqJ ZqK ZqL ZqM ZqN ZqO ZqP ZqQ ZqR ZqS ZqT ZqU ZqV ZqW ZqX ZqY ZqZ Zr0 Zr1 Zr2 Zr3 Zr4 Zr5 Zr6 Zr7 Zr8 Zr9 Zra Zrb Zrc Zrd Zre Zrf Zrg Zrh Zri Zrj Zrk Zrl Zrm Zrn Zro Zrp Zrq Zrr Zrs Zrt Zru Zrv Zrw Zrx Zry Zrz ZrA ZrB ZrC ZrD ZrE ZrF ZrG ZrH ZrI ZrJ ZrK ZrL ZrM ZrN ZrO ZrP ZrQ ZrR ZrS ZrT ZrU ZrV ZrW ZrX ZrY ZrZ Zs0 Zs1 Zs2 Zs3 Zs4 Zs5 Zs6 Zs7 Zs8 Zs9 Zsa Zsb Zsc Zsd Zse Zsf Zsg Zsh Zsi Zsj Zsk Zsl Zsm Zsn Zso Zsp Zsq Zsr Zss Zst ZwT ZwU ZwV ZwX ZwY ZwZ Zx1 Zx3 Zx4 Zx5 Ztg Zti Ztj Ztk Ztm Ztn Ztp Zts Ztt Ztw Zty ZtA ZtC ZtD Zl8 Zl9 ZtF ZtG Zla Zlb Zlc Zld Zle ZtI ZtJ Zlf Zlg Zlh Zli Zlj Zlk Zll Zlm ZtL ZtM ZtN Zln Zlo Zlp Zlq Zlr Zls ZtP ZtQ ZtS ZtU ZtV ZtW Zlt Zlu Zlv Zlw Zlx Zly ZtY Zu0 Zu1 Zu2 Zlz ZlA ZlB ZlC ZlD ZlE ZlF Zu4 Zu5 Zu6 Zu8 Zu9 Zua ZlG ZlH ZlI Zuc Zud Zue ZlJ ZlK Zug Zui Zuj Zuk ZlL ZlM ZlN ZlO ZlP Zum Zun Zuo ZlQ ZlR ZlS ZlT Zuq Zur Zut Zuu Zux Zuy ZlU ZlV ZlW ZlX ZuA ZuB ZuC ZlY ZlZ Zm0 Zm1 Zm2 Zm3 Zm4 Zox Zoy ZoA ZoB ZhC ZhD ZhE ZhF ZhG ZhH ZhI ZoD ZoE ZoF ZhJ ZhK ZhL ZoI ZoJ ZhM ZhN ZhO ZoL ZoM ZoN ZhP ZhQ ZhR ZhS ZhT ZhU ZhV ZhW ZhX ZoO ZoP ZoQ ZhY ZoS ZoT ZoU ZhZ Zi0 Zi1 Zi2 Zi3 Zi4 Zi5 Zi6 Zi7 Zi8 Zi9 Zia Zp0 Zp1 Zp2 Zib Zic Zp3 Zp5 Zp6 Zp7 Zid Zie Zif Zig Zih Zii Zpc Zpd Zij Zik Zpe Zil Zph Zpi Zim Zin Zio Zpn Zpo Zip Ziq Zir Zpt Zis Zpv Zpw Zpy ZpB ZpC ZpD Zit ZpF ZpG
end Go.Proofs.YtipfkbkkndacjaaGreatDoor
namespace Go.Eng
open Go Go.RowKit Go.Proofs
structure Stp (S:List Nat) (w w':World):Prop where
 os:w'.os=w.os
 tape:w'.tape=w.tape
 output:w'.output=w.output
 size:w.heap.size<=w'.heap.size
 block:∀ b,b<w.heap.size->b∉S->w'.heap[b]?=w.heap[b]?
theorem Stp.refl (S:List Nat) (w:World):Stp S w w:=⟨rfl,rfl,rfl,Xn _,λ_ _ _=>rfl⟩
theorem Stp.trans {S:List Nat} {a b c:World} (h:Stp S a b) (k:Stp S b c):Stp S a c:=
 ⟨k.os.trans h.os,k.tape.trans h.tape,k.output.trans h.output,Xg h.size k.size,λi hi hn=>(k.block i (Xa hi h.size) hn).trans (h.block i hi hn)⟩
theorem Stp.mono {S S':List Nat} {a b:World} (h:Stp S a b) (hs:∀ x∈S,x∈S'):Stp S' a b:=⟨h.os,h.tape,h.output,h.size,λi hi hn=>h.block i hi (λhx=>hn (hs i hx))⟩
theorem Stp.own {S S':List Nat} {a b c:World} (h:Stp S a b) (k:Stp S' b c) (hs:∀ x∈S',x∈S\/a.heap.size<=x):Stp S a c:=
 ⟨k.os.trans h.os, k.tape.trans h.tape, k.output.trans h.output, Xg h.size k.size, λi hi hn => (k.block i (Xa hi h.size) (λhx => by
   rcases hs i hx with h1|h1
   exact hn h1;omega)).trans (h.block i hi hn)⟩
theorem Stp.below {a b:World} (h:Stp [] a b):Below a.heap.size a b:=⟨h.os,h.tape,h.output,h.size,λi hi=>h.block i hi (by simp)⟩
theorem Stp.of_below {a b:World} (h:Below a.heap.size a b):Stp [] a b:=⟨h.os,h.tape,h.output,h.size,λi hi _=>h.block i hi⟩
theorem Stp.cell {S:List Nat} {w w':World} (h:Stp S w w') {b o:Nat} {v:Value} (hb:b∉S) (hc:w.cell? ⟨b,o,none⟩=some v):w'.cell? ⟨b,o,none⟩=some v:=by
 have ag:b<w.heap.size:=block_lt_of_cell (a:=⟨b,o,none⟩) hc;rw [<- hc];exact World.cell?_of_block (w:=w) (h.block b ag hb)
theorem Stp.drew (S:List Nat) (w:World):Stp S w w.drew:=⟨rfl,rfl,rfl,Xn _,λ_ _ _=>rfl⟩
theorem Stp.alloc (S:List Nat) (w:World) (o:Obj):Stp S w (w.alloc o):=⟨rfl,rfl,rfl,by simp,λk hk _=>Below.heap_alloc w o k hk⟩
theorem Stp.of_grown {w w':World} {row:Option Nat} (h:w.grownBy w' row):Stp row.toList w w':=
 ⟨h.os,h.tape,h.output,h.size,λk hk hn=>h.block k hk (λe=>hn (by simp [<- e]))⟩
class Z7 (α:Type) where
 k:Nat
 rep:List Nat->World->α->List Value->Prop
 len:∀ {X:List Nat} {w:World} {x:α} {cs:List Value},rep X w x cs->cs.length=k
 one:∀ {X:List Nat} {w:World} {x:α} {cs:List Value},rep X w x cs->∀ u∈cs,u.oneCell'=true
 ext:∀ {X S X':List Nat} {w w':World} {x:α} {cs:List Value},rep X w x cs->Stp S w w'->(∀ b∈S,b∈X)->(∀ b∈X',b∈X\/w.heap.size<=b)->rep X' w' x cs
class Z3 (α:Type) where
 k:Nat
 enc:α->List Value
 len:∀ x,(enc x).length=k
 one:∀ x,∀ u∈enc x,u.oneCell'=true
instance {α:Type} [Z3 α]:Z7 α where
 k:=Z3.k α
 rep:=λ_ _ x cs=>cs=Z3.enc x
 len:=λh=>h ▸ Z3.len _
 one:=λh=>h ▸ Z3.one _
 ext:=λh _ _ _=>h
instance:Z3 Int where
 k:=1
 enc:=λx=>[.int .i64 x]
 len:=λ_=>rfl
 one:=by intro x u hu;simp at hu;subst hu;rfl
instance:Z3 Bool where
 k:=1
 enc:=λx=>[.bool x]
 len:=λ_=>rfl
 one:=by intro x u hu;simp at hu;subst hu;rfl
def SlV {α:Type} [Z7 α] (X:List Nat) (w:World) (v:Value) (xs:List α):Prop:=
 ∃ (p : Option Addr) (c : Nat), v = .slice p xs.length c /\ xs.length <= c /\ c <= maxLen /\ (p = none -> c = 0)/\
   ∀ i (h:i<xs.length),∃ b o cs,p=some ⟨b,o,none⟩/\b<w.heap.size/\b∉X/\Z7.rep X w xs[i] cs/\∀ j u,cs[j]?=some u->w.cell? ⟨b,o+i * Z7.k α+j,none⟩=some u
theorem SlV.ext {α:Type} [Z7 α] {X S X':List Nat} {w w':World} {v:Value} {xs:List α} (h:SlV X w v xs) (hS:Stp S w w') (h1:∀ b∈S,b∈X) (h2:∀ b∈X',b∈X\/w.heap.size<=b):SlV X' w' v xs:=by
 obtain ⟨p,c,hv,hl,hm,hn,hc⟩:=h;refine ⟨p,c,hv,hl,hm,hn,λi hi=>?_⟩;obtain ⟨b,o,cs,hp,hb,hx,hr,au⟩:=hc i hi;refine ⟨b,o,cs,hp,Xa hb hS.size,λuf=>?_,Z7.ext hr hS h1 h2,λj u hu=>hS.cell (λdD=>hx (h1 b dD)) (au j u hu)⟩;rcases h2 b uf with h|h
 exact hx h;omega
theorem SlV.up {α:Type} [Z7 α] {X:List Nat} {w w':World} {v:Value} {xs:List α} (h:SlV X w v xs) (hS:Stp [] w w'):SlV X w' v xs:=
 h.ext hS (by simp) (λb hb=>.inl hb)
theorem SlV.len {α:Type} [Z7 α] {X:List Nat} {w:World} {v:Value} {xs:List α} (h:SlV X w v xs):∃ p c,v=.slice p xs.length c:=let ⟨p,c,hv,_⟩:=h;⟨p,c,hv⟩
theorem SlV.cells {α:Type} [Z7 α] {X:List Nat} {w:World} {v:Value} {xs:List α} (h:SlV X w v xs):v.cells.toList=[v]:=by
 obtain ⟨p,c,rfl⟩:=h.len;rfl
theorem SlV.one {α:Type} [Z7 α] {X:List Nat} {w:World} {v:Value} {xs:List α} (h:SlV X w v xs):v.oneCell'=true:=by
 obtain ⟨p,c,rfl⟩:=h.len;rfl
theorem SlV.max {α:Type} [Z7 α] {X:List Nat} {w:World} {v:Value} {xs:List α} (h:SlV X w v xs):xs.length<=9223372036854775807:=by
 obtain ⟨p,c,hv,hl,hm,_⟩:=h;simp only [maxLen] at hm;omega
def ZM (v:Value) (i k j:Nat):Addr:=
 match v with
 | .slice (some a) _ _=>⟨a.block,a.off+i * k+j,none⟩
 | _=>⟨0,0,none⟩
def Blk (w:World) (b:Nat) (T:TypeId) (cs:List Value):Prop:=w.heap[b]?=some (.cells cs.toArray T (0,0))
theorem Blk.lt {w:World} {b T:Nat} {cs:List Value} (h:Blk w b T cs):b<w.heap.size:=(Xm.1 h).1
theorem Blk.ext {w w':World} {S:List Nat} {b T:Nat} {cs:List Value} (h:Blk w b T cs) (hS:Stp S w w') (hb:b∉S):Blk w' b T cs:=by
 unfold Blk at *;rw [hS.block b (Blk.lt h) hb];exact h
theorem Blk.up {w w':World} {b T:Nat} {cs:List Value} (h:Blk w b T cs) (hS:Stp [] w w'):Blk w' b T cs:=h.ext hS (by simp)
theorem Blk.cell {w:World} {b T:Nat} {cs:List Value} (h:Blk w b T cs) {j:Nat} {u:Value} (hu:cs[j]?=some u):w.cell? ⟨b,j,none⟩=some u:=by
 unfold Blk at h;simp [World.cell?,h,hu]
section rules
variable {P:Program} {n:Nat} {e:Env} {w:World} {d:Option Nat} {ty:TypeId} {pos:String} {af:Array Edge} {g:Option (Nat×Bool)}
theorem Zm5 {α:Type} [Z7 α] {X:List Nat} {xs:List α} {v:Value} {x:Operand} {t:TypeId} {el:TypeId} {dq:World} [hu:Und P t (.slice el)] (hx:ev e x=some v) (hs:SlV X dq v xs) :
 PR P n ⟨d,.call { callee:=.builtin .len,args:=#[x],argTypes:=#[t] },ty,pos,af,g⟩ e w (.int .i64 (xs.length:Int)):=by
 obtain ⟨p,c,rfl⟩:=hs.len;exact ZhB hx
theorem Z2W {α:Type} [Z7 α] {X:List Nat} {xs:List α} {v:Value} {x y:Operand} {t:TypeId} {el k:Nat} [hu:Und P t (.slice el)] [hk:Siz P el k] {z:Int} {i:Nat} {dq:World}
 (hx:ev e x=some v) (hs:SlV X dq v xs) (hy:ev e y=some (.int .i64 z)) (hz:z=(i:Int)) (hi:i<xs.length) :
 PR P n ⟨d,.indexAddr t x y,ty,pos,af,g⟩ e w (.pointer (some (ZM v i k 0))):=by
 refine ⟨λa ha=>?_⟩;obtain ⟨p,c,rfl,hl,hm,hn,hc⟩:=hs;obtain ⟨b,o,cs,rfl,_⟩:=hc i hi;subst hz;have h0:(0:Int)<=(i:Int)/\(i:Int)<(xs.length:Int):=by omega
 have hr:(Instr.indexAt t (.slice (some ⟨b,o,none⟩) xs.length c) (.int .i64 (i:Int))).run P w=.ok (.pointer (some ⟨b,o+i * k,none⟩)) w:=by
  simp only [Instr.indexAt,asIntOf];simp [run_underlying hu.h,Siz.run,Addr.add_lit,hi]
 simp [execOp,ha.ev hx,ha.ev hy,hr,ZM]
theorem Z6P {x:Operand} {t:TypeId} {v:Value} {i k j m off:Nat} [hf:Fld P t m off] (hx:ev e x=some (.pointer (some (ZM v i k j))))
 (hv:∃ p l c,v=.slice (some p) l c):PR P n ⟨d,.fieldAddr t x m,ty,pos,af,g⟩ e w (.pointer (some (ZM v i k (j+off)))):=by
 obtain ⟨p,l,c,rfl⟩:=hv;exact ⟨λa ha=>by simp [execOp,ha.ev hx,ZM,Z6O,YaB]⟩
theorem SlV.isSome {α:Type} [Z7 α] {X:List Nat} {v:Value} {xs:List α} {i:Nat} (h:SlV X w v xs) (hi:i<xs.length):∃ p l c,v=.slice (some p) l c:=by
 obtain ⟨p,c,rfl,_,_,_,hc⟩:=h;obtain ⟨b,o,cs,rfl,_⟩:=hc i hi;exact ⟨_,_,_,rfl⟩
theorem SlV.cell {α:Type} [Z7 α] {X:List Nat} {v:Value} {xs:List α} {i:Nat} (h:SlV X w v xs) (hi:i<xs.length):∃ cs,Z7.rep X w xs[i] cs/\∀ j u,cs[j]?=some u->w.cell? (ZM v i (Z7.k α) j)=some u:=by
 obtain ⟨p,c,rfl,_,_,_,hc⟩:=h;obtain ⟨b,o,cs,rfl,_,_,hr,au⟩:=hc i hi;exact ⟨cs,hr,λj u hu=>by simpa [ZM] using au j u hu⟩
theorem SlV.cellF {α:Type} [Z3 α] {X:List Nat} {v:Value} {xs:List α} {i:Nat} (h:SlV X w v xs) (hi:i<xs.length) {j:Nat} {u:Value} (hu:(Z3.enc xs[i])[j]?=some u):w.cell? (ZM v i (Z3.k α) j)=some u:=by
 obtain ⟨cs,hr,hc⟩:=h.cell hi;have bH:cs=Z3.enc xs[i]:=hr;subst bH;exact hc j u hu
theorem Z1T {α:Type} [Z3 α] {X:List Nat} {xs:List α} {v u:Value} {i j k:Nat} {x:Operand} {t:TypeId} {D:TypeDesc} [hu:Und P t D] (hA:Z0V D=false) (hx:ev e x=some (.pointer (some (ZM v i k j))))
 (hs:SlV X w v xs) (hi:i<xs.length) (hk:k=Z3.k α) (hc:(Z3.enc xs[i])[j]?=some u):PR P n ⟨d,.load t x,ty,pos,af,g⟩ e w u:=
 JH hA hx (by subst hk;exact hs.cellF hi hc)
theorem Zbo {α:Type} [Z3 α] {X:List Nat} {xs:List α} {v:Value} {us:List Value} {i j k m:Nat} {x:Operand} {t:TypeId} {D:TypeDesc} [hu:Und P t D] (hA:Z0V D=true) [bI:Siz P t m] (hx:ev e x=some (.pointer (some (ZM v i k j))))
 (hs:SlV X w v xs) (hi:i<xs.length) (hk:k=Z3.k α) (hl:us.length=m) (hc:((Z3.enc xs[i]).drop j).take m=us):PR P n ⟨d,.load t x,ty,pos,af,g⟩ e w (.agg us.toArray):=by
 obtain ⟨p,l,c,hv⟩:=hs.isSome hi;have au:=λ(q:Nat) (u:Value) (h:(Z3.enc xs[i])[q]?=some u)=>hs.cellF hi h;subst hv;refine Z3B hA hx hl (λq u hq=>?_);have h1:(Z3.enc xs[i])[j+q]?=some u:=by
  rw [<- hc,Yaf] at hq;split at hq;simpa using hq;cases hq
 have:=au (j+q) u h1;subst hk;simpa [ZM,YaB] using this
theorem Zbp {α:Type} [Z3 α] {X:List Nat} {xs:List α} {v:Value} {i k:Nat} {x:Operand} {t:TypeId} {D:TypeDesc} [hu:Und P t D] (hA:Z0V D=true) [bI:Siz P t k] (hx:ev e x=some (.pointer (some (ZM v i k 0))))
 (hs:SlV X w v xs) (hi:i<xs.length) (hk:k=Z3.k α):PR P n ⟨d,.load t x,ty,pos,af,g⟩ e w (.agg (Z3.enc xs[i]).toArray):=
 Zbo hA hx hs hi hk (by rw [hk];exact Z3.len _) (by rw [Ybp,XH (by rw [hk,Z3.len];exact Xn _)])
theorem Jp {b T o:Nat} {cs:List Value} {u:Value} {x:Operand} {t:TypeId} {D:TypeDesc} [hu:Und P t D] (hA:Z0V D=false) (hx:ev e x=some (.pointer (some ⟨b,o,none⟩))) (hb:Blk w b T cs) (hc:cs[o]?=some u) :
 PR P n ⟨d,.load t x,ty,pos,af,g⟩ e w u:=JH hA hx (hb.cell hc)
theorem Zn {b T o m:Nat} {cs us:List Value} {x:Operand} {t:TypeId} {D:TypeDesc} [hu:Und P t D] (hA:Z0V D=true) [bI:Siz P t m] (hx:ev e x=some (.pointer (some ⟨b,o,none⟩))) (hb:Blk w b T cs)
 (hl:us.length=m) (hc:(cs.drop o).take m=us):PR P n ⟨d,.load t x,ty,pos,af,g⟩ e w (.agg us.toArray):=by
 refine Z3B hA hx hl (λq u hq=>hb.cell ?_);rw [<- hc,Yaf] at hq;split at hq;simpa using hq;cases hq
theorem J2 {b T m:Nat} {cs:List Value} {x:Operand} {t:TypeId} {D:TypeDesc} [hu:Und P t D] (hA:Z0V D=true) [bI:Siz P t m] (hx:ev e x=some (.pointer (some ⟨b,0,none⟩))) (hb:Blk w b T cs)
 (hl:cs.length=m):PR P n ⟨d,.load t x,ty,pos,af,g⟩ e w (.agg cs.toArray):=
 Zn hA hx hb hl (by rw [Ybp,XH (by omega)])
def Z7F (w:World) (T:TypeId) (cs:List Value) (v:Value) (w':World):Prop:=∃ b,v=.pointer (some ⟨b,0,none⟩)/\w.heap.size<=b/\Blk w' b T cs/\Stp [] w w'
theorem Zai (w:World) (T:TypeId) (cs:List Value):Z7F w T cs (.pointer (some ⟨w.heap.size,0,none⟩)) (w.alloc (.cells cs.toArray T)):=
 ⟨_,rfl,Xn _,heap_alloc_new w _,Stp.alloc _ _ _⟩
theorem Jd {o:Oper} {G:Value->World->Prop} {v:Value} {w':World} (h:∀ a,Has n e a->(execOp a.eval o).run P w=.ok (.value v) w') (hg:G v w'):OE P n o e w G:=
 ⟨λa ha Q=>by unfold Oper.wp;rw [h a ha];exact ⟨v,rfl,hg⟩⟩
theorem Z4h {o:Oper} {G:Value->World->Prop} {w':World} (h:∀ a,Has n e a->(execOp a.eval o).run P w=.ok .skip w') (hg:G undef w'):OE P n o e w G:=
 ⟨λa ha Q=>by unfold Oper.wp;rw [h a ha];exact ⟨undef,rfl,hg⟩⟩
theorem OE.mono {o:Oper} {G G':Value->World->Prop} (h:OE P n o e w G) (hg:∀ v w',G v w'->G' v w'):OE P n o e w G':=
 ⟨λa ha Q=>Oper.wp_mono (λa' w' ⟨v,h1,h2⟩=>⟨v,h1,hg v w' h2⟩) (h.h a ha Q)⟩
theorem Z2 {t:TypeId} {z:Value} [hz:Zer P t z]:OE P n ⟨d,.alloc t,ty,pos,af,g⟩ e w (Z7F w t z.cells.toList):=
 Jd (v:=.pointer (some ⟨w.heap.size,0,none⟩)) (w':=w.alloc (.cells z.cells t)) (λa ha=>by
  simp [execOp,Instr.alloc,Zer.run,newVar,newRow,newObj];rfl) (by simpa using Zai w t z.cells.toList)
theorem Zp {t:TypeId} {x:Operand} {v:Value} (hx:ev e x=some v):OE P n ⟨d,.box t x,ty,pos,af,g⟩ e w (Z7F w t v.cells.toList):=
 Jd (v:=.pointer (some ⟨w.heap.size,0,none⟩)) (w':=w.alloc (.cells v.cells t)) (λa ha=>by
  simp [execOp,Instr.box,ha.ev hx,newVar,newRow,newObj];rfl) (by simpa using Zai w t v.cells.toList)
theorem Zaj {α:Type} [Z7 α] {X:List Nat} {dq:World} {xs:List α} {t:TypeId} {x:Operand} {v:Value} (hx:ev e x=some v) (hs:SlV X dq v xs):OE P n ⟨d,.box t x,ty,pos,af,g⟩ e w (Z7F w t [v]):=by
 rw [<- hs.cells];exact Zp hx
theorem Z1U (w:World) (b:Nat) (cs:Array Value):Stp [b] w (w.setRow b cs):=
 ⟨rfl,rfl,rfl,by simp,λk hk hn=>setRow_other w b k cs (by simpa using hn)⟩
theorem Z18 {b T o m t:Nat} {cs us:List Value} {x y:Operand} {u:Value} [bI:Siz P t m] (hx:ev e x=some (.pointer (some ⟨b,o,none⟩))) (hy:ev e y=some u) (hu:u.cells.toList=us) (hm:us.length=m) (h1:∀ c∈us,c.oneCell'=true)
 (hb:Blk w b T cs) (hl:o+us.length<=cs.length):OE P n ⟨d,.store t x y,ty,pos,af,g⟩ e w (λ_ w'=>Stp [b] w w'/\Blk w' b T (cs.take o++us++cs.drop (o+us.length))):=by
 have ay:=run_storeCells_at P b o T us 0 cs.toArray w hb (by simpa using hl) h1;refine Z4h (w':=w.setRow b (cs.take o++us++cs.drop (o+us.length)).toArray) (λa ha=>?_) ⟨Z1U _ _ _,setRow_heap w b cs.toArray _ T (0,0) hb⟩;have bo:u.cells.size=m:=by rw [<- hm,<- hu,Yai]
 simp only [Ybn] at ay;simp [execOp,ha.ev hx,ha.ev hy,Instr.storeAt,Instr.sureAddr,storeVar,Siz.run,bo,hu,ay]
theorem Zb {b T m t:Nat} {cs us:List Value} {x y:Operand} {u:Value} [bI:Siz P t m] (hx:ev e x=some (.pointer (some ⟨b,0,none⟩))) (hy:ev e y=some u) (hu:u.cells.toList=us) (hm:us.length=m) (h1:∀ c∈us,c.oneCell'=true)
 (hb:Blk w b T cs) (hl:us.length=cs.length):OE P n ⟨d,.store t x y,ty,pos,af,g⟩ e w (λ_ w'=>Stp [b] w w'/\Blk w' b T us):=
 (Z18 hx hy hu hm h1 hb (by omega)).mono (λ_ w' ⟨h2,h3⟩=>⟨h2,by simpa [hl] using h3⟩)
theorem Zc {b T o t:Nat} {cs:List Value} {x y:Operand} {u:Value} [bI:Siz P t 1] (hx:ev e x=some (.pointer (some ⟨b,o,none⟩))) (hy:ev e y=some u) (hu:u.cells.toList=[u]) (h1:u.oneCell'=true)
 (hb:Blk w b T cs) (hl:o<cs.length):OE P n ⟨d,.store t x y,ty,pos,af,g⟩ e w (λ_ w'=>Stp [b] w w'/\Blk w' b T (cs.set o u)):=
 (Z18 hx hy hu rfl (by simpa using h1) hb (by simp; omega)).mono (λ_ w' ⟨h2, h3⟩ => ⟨h2, by
   rw [List.set_eq_take_append_cons_drop,if_pos hl];simpa using h3⟩)
end rules
def ob:Value->List Nat
 | .slice (some a) _ _=>[a.block]
 | _=>[]
theorem Ziu (v:Value):v.ownBlock.toList=ob v:=by
 cases v<;>try rfl
 rename_i a _ _;cases a<;>rfl
def Row {α:Type} [Z7 α] (X:List Nat) (w:World) (base T:Nat) (v:Value) (xs:List α):Prop:=
 ∃ css:List (List Value),css.length=xs.length/\(∀ i (h:i<xs.length) (h':i<css.length),Z7.rep (ob v++X) w xs[i] css[i])/\w.ownsRow base T (Z7.k α) v xs.length css.flatten
section row
variable {α:Type} [Z7 α] {X:List Nat} {w w':World} {base T:Nat} {v:Value} {xs:List α}
theorem Row.nil:Row (α:=α) X w base T (.slice none 0 0) []:=
 ⟨[],rfl,λi h=>absurd h (Xu _),by simpa using World.ownsRow_nil w base T (Z7.k α)⟩
theorem Row.ob_le (h:Row X w base T v xs):∀ b∈ob v,base<=b/\b<w.heap.size:=by
 obtain ⟨css,_,_,ho⟩:=h;intro b hb;rw [<- Ziu] at hb;exact ho.lt b (by simpa using hb)
theorem Row.ext {S X':List Nat} (h:Row X w base T v xs) (hS:Stp S w w') (h1:∀ b∈S,b∈X/\b∉ob v) (h2:∀ b∈X',b∈X\/w.heap.size<=b):Row X' w' base T v xs:=by
 obtain ⟨css,hl,hr,ho⟩:=h;refine ⟨css,hl,λi hi cQ=>Z7.ext (hr i hi cQ) hS (λb hb=>by simp [(h1 b hb).1]) (λb hb=>?_),?_⟩;simp only [Xi] at hb ⊢;rcases hb with hb|hb
 exact .inl (.inl hb);rcases h2 b hb with h|h
 exact .inl (.inr h);exact .inr h;refine ⟨ho.1,?_⟩;rcases ho.2 with hn|⟨q,cap,cur,rfl,hb,hg,rest⟩
 exact .inl hn;refine .inr ⟨q,cap,cur,rfl,hb,?_,rest⟩;rw [hS.block q (Xm.1 hg).1 (λhq=>(h1 q hq).2 (by simp [ob]))];exact hg
theorem Row.up (h:Row X w base T v xs) (hS:Stp [] w w'):Row X w' base T v xs:=h.ext hS (by simp) (λb hb=>.inl hb)
theorem Z0v {k:Nat}:∀ (css:List (List Value)),(∀ c∈css,c.length=k)->∀ (i:Nat) (hi:i<css.length) (j:Nat) (u:Value),css[i][j]?=some u->css.flatten[i * k+j]?=some u
 | [],_,i,hi,_,_,_=>absurd hi (Xu _)
 | c :: r, hk, 0, _, j, u, hu => by
   have hj:j<c.length:=(Xx.1 hu).1;simp only [Yag,Nat.zero_mul,XN];rw [Yaa hj];exact hu
 | c :: r, hk, i + 1, hi, j, u, hu => by
   have ih:=Z0v r (λc hc=>hk c (by simp [hc])) i (by simpa using hi) j u (by simpa using hu);have hc:=hk c (by simp);simp only [Yag];rw [YaF (by rw [hc,X9];omega),hc];rw [show (i+1) * k+j - k=i * k+j by rw [X9];omega];exact ih
theorem Row.slv (h:Row X w base T v xs) (hX:∀ b∈X,b<base):SlV X w v xs:=by
 obtain ⟨css,hl,hr,ho⟩:=h;have hk:∀ c∈css,c.length=Z7.k α:=by
  intro c hc;obtain ⟨i,hi,rfl⟩:=Xr hc;exact Z7.len (hr i (by omega) hi)
 rcases ho.2 with ⟨rfl,hn⟩|⟨q,cap,cur,rfl,hb,hg,cI,bR,bo,ht⟩
 exact ⟨none,0,by rw [hn],by omega,by simp [maxLen],λ_=>rfl,λi hi=>by omega⟩;refine ⟨some ⟨q,0,none⟩,cap,rfl,cI,bR,λh=>by simp at h,λi hi=>?_⟩;refine ⟨q,0,css[i]'(by omega),rfl,(Xm.1 hg).1,λhx=>by have:=hX q hx;omega,?_,λj u hu=>?_⟩;exact Z7.ext (hr i hi (by omega)) (Stp.refl [] w) (by simp) (λb hb=>.inl (by simp [hb]));have h1:=Z0v css hk i (by omega) j u hu;rw [<- ht,Yaf] at h1;split at h1;have h2:cur[i * Z7.k α+j]?=some u:=by simpa using h1
 rw [XN,cell_of_row w q _ cur T (0,0) hg];exact h2;cases h1
theorem Zak {P:Program} {t ty e size bytes:Nat} {i:TypeInfo} {z:Value} (ht:P.underlying t=some (.slice e)) (hi:P.info? e=some i) (hz:i.zero=some z)
 (mi:i.size=size) (lB:i.bytes=bytes) {v:Value} {n:Nat} {cs:List Value} (cb:w.ownsRow base e size v n cs)
 {a:Addr} {m c:Nat} {news:List Value} (hl:news.length=m * size) (ej:∀ j u,news[j]?=some u->w.cell? (a.add j)=some u) (h1:∀ u∈news,u.oneCell'=true)
 (ug:n+m<=maxLen) (hbytes:(n+m) * bytes<=140737488355328) {v':Value} {w':World} (hr:(Builtin.append_ #[t,t] ty #[v,.slice (some a) m c]).run P w=.ok v' w') :
 ∀ b∈ob v',b∈ob v\/w.heap.size<=b:=by
 subst mi;subst lB;have hsmall:n+m<=9223372036854775807:=by simp only [maxLen] at ug;omega
 rcases cb.2 with ⟨rfl,rfl⟩|⟨q,cap,cur,rfl,xt,hg,cI,bR,bo,jB⟩
 by_cases hm:m=0;subst hm;have hn:news=[]:=YaP (by simpa using hl);subst hn;have:(Builtin.append_ #[t,t] ty #[.slice none 0 0,.slice (some a) 0 c]).run P w=.ok (.slice none 0 0) w:=by
  simp [Builtin.append_,run_underlying ht,sizeOf,typeInfo,hi,Builtin.lenOf,Builtin.firstCells,loadCells,loadCellsFrom]
 rw [this] at hr;cases hr;simp [ob];have h:=run_append_nil (P:=P) w t ty e i z ht hi hz a m c news hl ej (by omega) (by omega) (by have hb:=hbytes;simp only [XN] at hb;omega);rw [h] at hr;cases hr;simp [ob];by_cases jC:n+m<=cap;have cB:n * i.size+news.length<=cur.size:=by rw [hl,bo,<- Nat.add_mul];exact Xp _ jC
 have h:=run_append_room (P:=P) w t ty e i ht hi q n cap cur hg a m c news hl ej h1 jC cB;rw [h] at hr;cases hr;simp [ob];have holds:∀ j u,cs[j]?=some u->w.cell? ((⟨q,0,none⟩:Addr).add j)=some u:=cb.cells (g:=q) rfl;have h:=run_append_grow (P:=P) w t ty e i z ht hi hz ⟨q,0,none⟩ n cap cs cb.1 holds a m c news hl ej (by omega) (by omega) (growslice_fits (by omega) hbytes);rw [h] at hr;cases hr;simp [ob]
def Zbq (X:List Nat) (w:World) (base T:Nat) (v:Value) (xs ys:List α) (v':Value) (w':World):Prop:=
 Row X w' base T v' (xs++ys)/\Stp (ob v) w w'/\∀ b∈ob v',b∈ob v\/w.heap.size<=b
theorem J4 {P:Program} {n:Nat} {e:Env} {d:Option Nat} {ty:TypeId} {pos:String} {af:Array Edge} {g:Option (Nat×Bool)} {x y:Operand} {t bytes:Nat} {u:Value} {z:Value} {ys:List α}
 [ht:Und P t (.slice T)] [hk:Siz P T (Z7.k α)] [hb:Byt P T bytes] [hz:Zer P T z] (fF:z.cells.size=Z7.k α) (br:0<Z7.k α)
 (hx:ev e x=some v) (hy:ev e y=some u) (ab:Row X w base T v xs) (cJ:SlV (ob v++X) w u ys) (hbytes:(xs.length+ys.length) * bytes<=140737488355328) (ai:xs.length+ys.length<=maxLen) (aX:base<=w.heap.size) :
 OE P n ⟨d,.call { callee:=.builtin .append,args:=#[x,y],argTypes:=#[t,t] },ty,pos,af,g⟩ e w (Zbq X w base T v xs ys):=by
 obtain ⟨i,hi,bJ,cp,fq⟩:∃ i,P.info? T=some i/\i.size=Z7.k α/\i.bytes=bytes/\i.zero=some z:=by
  have a1:=hk.h;have a2:=hb.h;have a3:=hz.h;cases hi:P.info? T with
  | none=>simp [hi] at a1
  | some i=>exact ⟨i,rfl,by simpa [hi] using a1,by simpa [hi] using a2,by simpa [hi] using a3⟩
 have dt:=ab;obtain ⟨css,hl,hr,ho⟩:=ab;obtain ⟨p,c,rfl,fG,xu,uh,sz⟩:=cJ;have pn:∃ dss:List (List Value),dss.length=ys.length/\(∀ j (h:j<ys.length) (h':j<dss.length),Z7.rep (ob v++X) w ys[j] dss[j]/\∃ b o,p=some ⟨b,o,none⟩/\∀ q u,dss[j][q]?=some u->w.cell? ⟨b,o+j * Z7.k α+q,none⟩=some u):=by
  have:∀ j:Fin ys.length,∃ ds:List Value,Z7.rep (ob v++X) w ys[j] ds/\∃ b o,p=some ⟨b,o,none⟩/\∀ q u,ds[q]?=some u->w.cell? ⟨b,o+j * Z7.k α+q,none⟩=some u:=by
   intro j;obtain ⟨b,o,cs,h1,h2,h3,h4,h5⟩:=sz j j.2;exact ⟨cs,h4,b,o,h1,h5⟩
  obtain ⟨f,hf⟩:=Classical.axiomOfChoice this;refine ⟨List.ofFn f,by simp,λj h h'=>?_⟩;have:=hf ⟨j,h⟩;simpa using this
 obtain ⟨dss,jD,hd⟩:=pn;have oe:∀ c∈dss,c.length=Z7.k α:=by
  intro c hc;obtain ⟨q,hq,rfl⟩:=Xr hc;exact Z7.len (hd q (by omega) hq).1
 have jE:∀ (l:List (List Value)),(∀ c∈l,c.length=Z7.k α)->l.flatten.length=l.length * Z7.k α:=by
  intro l
  induction l with
  | nil=>intro _;simp
  | cons c r ih=>intro h;simp only [Yag,Xc,Xe,X9];rw [ih (λc hc=>h c (by simp [hc])),h c (by simp)];omega
 have aN:∀ u∈dss.flatten,u.oneCell'=true:=by
  intro u hu;obtain ⟨c,hc,ui⟩:=List.mem_flatten.1 hu;obtain ⟨q,hq,rfl⟩:=Xr hc;exact Z7.one (hd q (by omega) hq).1 u ui
 have fin:∀ (v':Value) (w':World),w'.ownsRow base T (Z7.k α) v' (xs.length+ys.length) (css.flatten++dss.flatten)->Stp (ob v) w w'->(∀ b∈ob v',b∈ob v\/w.heap.size<=b)->Zbq X w base T v xs ys v' w':=by
  intro v' w' uj hS dz;have hX:∀ b∈ob v'++X,b∈ob v++X\/w.heap.size<=b:=by
   intro b hb;simp only [Xi] at hb ⊢;rcases hb with hb|hb
   rcases dz b hb with h|h
   exact .inl (.inl h);exact .inr h;exact .inl (.inr hb)
  have sA:∀ b∈ob v,b∈ob v++X:=λb hb=>by simp [hb]
  refine ⟨⟨css++dss,by simp [hl,jD],λi hi cQ=>?_,?_⟩,hS,dz⟩;by_cases ag:i<xs.length;rw [X8 ag,X8 (by omega)];exact Z7.ext (hr i ag (by omega)) hS sA hX;have cp:i<xs.length+ys.length:=by simpa using hi
  rw [X4 (by omega),X4 (by omega)];have:=Z7.ext (hd (i - xs.length) (by omega) (by omega)).1 hS sA hX;simpa [hl] using this;rw [List.flatten_append];simpa using uj
 cases p with
 | none=>
   have lC:ys.length=0:=by
    cases cJ:ys with
    | nil=>rfl
    | cons y r=>
      obtain ⟨b,o,cs,hp,_⟩:=sz 0 (by simp [cJ]);simp at hp
   have ia:c=0:=uh rfl;subst ia;have eJ:dss=[]:=YaP (by omega);subst eJ;have bh:=run_append_owned_none (P:=P) w base t ty T i (Z7.k α) ht.h hi v xs.length css.flatten ho;refine Jd (v:=v) (w':=w) (λa ha=>?_) (fin v w (by simpa [lC] using ho) (Stp.refl _ _) (λb hb=>.inl hb));rw [lC] at hy;simp [execOp,resolve,invoke,builtin,ha.ev hx,ha.ev hy,bh]
 | some a=>
   have ej:∀ j u,dss.flatten[j]?=some u->w.cell? (a.add j)=some u:=by
    intro j u hj;have ft:j<dss.flatten.length:=(Xx.1 hj).1;rw [jE dss oe] at ft;have hq:j / Z7.k α<dss.length:=(Nat.div_lt_iff_lt_mul br).2 ft;obtain ⟨h1,b,o,hp,au⟩:=hd (j / Z7.k α) (by omega) hq;simp only [XI] at hp;subst hp;have uk:j % Z7.k α<Z7.k α:=YbD _ br;have sB:j / Z7.k α * Z7.k α+j % Z7.k α=j:=by rw [Ya9];exact Ybj j _
    have ul:dss[j / Z7.k α].length=Z7.k α:=oe _ (Xd hq);have iR:dss[j / Z7.k α][j % Z7.k α]?=some (dss[j / Z7.k α][j % Z7.k α]'(by omega)):=XU (by omega);have h2:=Z0v dss oe _ hq _ _ iR;rw [sB,hj] at h2;have h3:=au _ _ iR;rw [Addr.add_lit];rw [YaB,sB] at h3;rw [h3,h2]
   have dS:dss.flatten.length=ys.length * Z7.k α:=by rw [jE dss oe,jD]
   obtain ⟨v',w',bh,h2,h3,h4⟩:=run_append_own (P:=P) w base t ty T i z (Z7.k α) bytes ht.h hi fq bJ cp fF br v xs.length css.flatten ho a ys.length c dss.flatten dS ej aN ai hbytes aX;have ac:=Zak (P:=P) ht.h hi fq bJ cp ho dS ej aN ai hbytes bh;have hS:Stp (ob v) w w':=by rw [<- Ziu];exact Stp.of_grown h3
   refine Jd (v:=v') (w':=w') (λa ha=>?_) (fin v' w' h2 hS ac);simp [execOp,resolve,invoke,builtin,ha.ev hx,ha.ev hy,bh]
end row
abbrev _root_.Go.Value.I (z:Int):Value:=.int .i64 z
abbrev _root_.Go.Value.N:Value:=.slice none 0 0
abbrev _root_.Go.Value.B (b:Bool):Value:=.bool b
abbrev aG {α:Type} [Z3 α] (x:α):Value:=.agg (Z3.enc x).toArray
theorem Stp.ow {S S':List Nat} {a b c:World} (h:Stp S a b) (k:Stp S' b c) (hs:∀ x∈S',x∈S\/a.heap.size<=x:=by intro c hc;exact .inr (by simp at hc;omega)):Stp S a c:=h.own k hs
theorem Stp.mn {S S':List Nat} {a b:World} (h:Stp S a b) (hs:∀ x∈S,x∈S':=by simp):Stp S' a b:=h.mono hs
abbrev pQ (b:Nat):Value:=.pointer (some ⟨b,0,none⟩)
class Rl (σ:Type) where
 rel:σ->World->World->Prop
 refl:∀ S w,rel S w w
 trans:∀ {S a b c},rel S a b->rel S b c->rel S a c
instance:Rl (List Nat):=⟨Stp,Stp.refl,λh k=>h.trans k⟩
section any
variable {P:Program} {ops:Array Oper} {md:Region.Mode} {σ:Type} [Rl σ] {S:σ} {Lt:Nat->Bool}
theorem Zsu {o:Oper} {a:Act} {w} {K:Act->World->Prop} {Q:Exit->Act->World->Prop} (h:o.wp P a w K (λ_ _ _=>False)):o.wp P a w K Q:=by
 unfold Oper.wp at *;generalize (execOp a.eval o).run P w=r at *;cases r with
 | ok n w'=>
   cases n<;>simp only [Oper.upon] at h ⊢
   case enter f args=>
    refine Calls.mono h (λe w'' he=>?_);cases e with
    | returned v=>exact he
    | panicked c=>exact he.elim
    | outgrown=>obtain ⟨_,_,hf⟩:=he;exact hf.elim
   all_goals exact h
 | halt x w'=>cases x<;>simp only [Oper.upon] at h
theorem Ziv {i:Nat} {K:Act->World->Prop} {Q:Exit->Act->World->Prop} {a:Act} {w} (h:wpOp P ops (λ_ _ _=>False) i K a w):wpOp P ops Q i K a w:=by
 unfold wpOp at *;cases ho:ops[i]? with
 | none=>simp only [ho] at h ⊢;exact h
 | some o=>
   simp only [ho] at h ⊢;split;rename_i hw;simp only [hw,if_true] at h;rcases h with h|⟨_,_,_,hf⟩
   exact .inl (Zsu h);exact hf.elim;rename_i hw;simp only [hw] at h;exact h
def Z1C (P:Program) (md:Region.Mode) (ops:Array Oper) {σ:Type} [Rl σ] (S:σ) (Lt:Nat->Bool) (Z:Act->World->Prop):Nat->Array Bool->Act->World->Prop
 | 0,listed,a,w=>Region.ready md ops listed=[]/\Z a w
 | fuel + 1, listed, a, w=>
   (Region.ready md ops listed=[]->Z a w)/\
   ∀ i∈Region.ready md ops listed,wpOp P ops (λ_ _ _=>False) i (λa' w'=>(Rl.rel S w w'\/Lt i=true)/\Z1C P md ops S Lt Z fuel (listed.setIfInBounds i true) a' w') a w
theorem Z0W {Z:Act->World->Prop} {Q:Exit->Act->World->Prop} (hZ:∀ a w,Z a w->Q .normal a w):∀ (fuel:Nat) (listed:Array Bool) (a:Act) (w),
 Z1C P md ops S Lt Z fuel listed a w->wpAny P md ops Q fuel listed a w
 | 0,_,_,_,h=>⟨h.1,hZ _ _ h.2⟩
 | fuel+1,_,_,_,h=>⟨λh0=>hZ _ _ (h.1 h0),λi hi=>wpOp_mono (λa' w' hk=>Z0W hZ fuel _ a' w' hk.2) (Ziv (h.2 i hi))⟩
def YE (P:Program) (ops:Array Oper) (R:World->World->Prop) (o:Oper) (v:Value) (a:Act) (w:World):Prop:=
 (Region.wanted o (yielded ops a.tmps)=true/\∀ w',R w w'->(execOp a.eval o).run P w'=.ok (.value v) w')\/
 (Region.wanted o (yielded ops a.tmps)=false/\v=undef)
theorem YE.same {R:World->World->Prop} {o:Oper} {v:Value} {a a':Act} {w} (hy:YE P ops R o v a w) (he:execOp a'.eval o=execOp a.eval o)
 (hw:Region.wanted o (yielded ops a'.tmps)=Region.wanted o (yielded ops a.tmps)):YE P ops R o v a' w:=by
 unfold YE at *;rw [he,hw];exact hy
theorem Z5o {Z:Act->World->Prop} {R:World->World->Prop} (jF:∀ w,R w w) (mj:∀ a b c,R a b->R b c->R a c) {i:Nat} {oi:Oper} {v:Value} (hi:ops[i]?=some oi)
 (ml:∀ j oj,ops[j]?=some oj->(∀ e∈oj.after,Region.binds md e=true->e.on≠i)->j≠i->∀ w w',(Rl.rel S w w'\/Lt j=true)->R w w')
 (eV:∀ (j:Nat) (o:Oper) cs b,ops[j]?=some o->o.op≠.select cs b) :
 ∀ (fuel : Nat) (listed : Array Bool) (a : Act) (w),
   (∀ j oj,ops[j]?=some oj->j≠i->listed.getD j true=false->(∀ e∈oj.after,Region.binds md e=true->e.on≠i)->oi.apart ops oj=true)->
   (Rl.rel S w w\/Lt i=true->True)->i∈Region.ready md ops listed->YE P ops R oi v a w->
   Z1C P md ops S Lt Z fuel (listed.setIfInBounds i true) (a.put oi.dst v) w->Z1C P md ops S Lt Z (fuel+1) listed a w:=by
 have now:∀ (fuel:Nat) (listed:Array Bool) (a:Act) (w:World),YE P ops R oi v a w->Z1C P md ops S Lt Z fuel (listed.setIfInBounds i true) (a.put oi.dst v) w->
  wpOp P ops (λ_ _ _=>False) i (λa' w'=>(Rl.rel S w w'\/Lt i=true)/\Z1C P md ops S Lt Z fuel (listed.setIfInBounds i true) a' w') a w:=by
  intro fuel listed a w hy H;unfold wpOp;simp only [hi];rcases hy with ⟨hw,hv⟩|⟨hw,rfl⟩
  simp only [hw,if_true,Oper.wp,hv w (jF w),Oper.upon];exact .inl ⟨.inl (Rl.refl _ _),H⟩;simp only [hw,XO,if_false];exact ⟨.inl (Rl.refl _ _),H⟩
 intro fuel
 induction fuel with
 | zero=>
   intro listed a w _ _ hr hy H;refine ⟨λh=>(by rw [h] at hr;cases hr),λj hj=>?_⟩;by_cases cj:j=i;subst cj;exact now _ _ _ _ hy H;have:=ready_mono hj cj;rw [H.1] at this;cases this
 | succ fuel ih=>
   intro listed a w du hx hr hy H;refine ⟨λh=>(by rw [h] at hr;cases hr),λj hj=>?_⟩;by_cases cj:j=i;subst cj;exact now _ _ _ _ hy H;have h1:=H.2 j (ready_mono hj cj);obtain ⟨eW,oj,fZ,aB⟩:=mem_ready.1 hj;have eX:∀ e∈oj.after,Region.binds md e=true->e.on≠i:=λe he hb cZ=>by
    have h1:=aB e he hb;have h0:=(mem_ready.1 hr).1;rw [cZ] at h1;rcases Yaz i listed.size with h'|h'
    simp [h'] at h0 h1;rw [h0] at h1;cases h1;simp [Yah h'] at h1
   have hap:=du j oj fZ cj eW eX;obtain ⟨p1,p2,p3⟩:=Oper.apart_spec hap;have keep:∀ (a:Act),YE P ops R oi v a w->∀ u,YE P ops R oi v (a.put oj.dst u) w:=λa hy u=>
    hy.same (execOp_put oi (λcs b=>eV i oi cs b hi) a oj.dst u p3) (wanted_put oi a oj.dst u p3)
   have keepD:∀ (a:Act) d,YE P ops R oi v a w->YE P ops R oi v { a with defers:=d :: a.defers } w:=λa d hy=>hy.same rfl rfl;have later:∀ (a:Act) w',(Rl.rel S w w'\/Lt j=true)->YE P ops R oi v a w->YE P ops R oi v a w':=λa w' hs hy=>by
    rcases hy with ⟨hw,hv⟩|hw
    exact .inl ⟨hw,λw'' h''=>hv w'' (mj _ _ _ (ml j oj fZ eX cj w w' hs) h'')⟩;exact .inr hw
   have dG:∀ k ok,ops[k]?=some ok->k≠i->(listed.setIfInBounds j true).getD k true=false->
    (∀ e∈ok.after,Region.binds md e=true->e.on≠i)->oi.apart ops ok=true:=λk ok hk gA jG bg=>by
    refine du k ok hk gA ?_ bg;by_cases ib:j=k;subst ib;exact eW;rw [getD_set_ne true ib] at jG;exact jG
   have fin:∀ a' w',YE P ops R oi v a' w->(Rl.rel S w w'\/Lt j=true)/\Z1C P md ops S Lt Z fuel ((listed.setIfInBounds i true).setIfInBounds j true) (a'.put oi.dst v) w'->
    (Rl.rel S w w'\/Lt j=true)/\Z1C P md ops S Lt Z (fuel+1) (listed.setIfInBounds j true) a' w':=by
    rintro a' w' ic ⟨hs,hk⟩;refine ⟨hs,ih _ a' w' dG (λ_=>trivial) (ready_mono hr (Ne.symm cj)) (later a' w' hs ic) ?_⟩;rw [Ya1 _ _ cj];exact hk
   have mm:∀ cs b,oj.op≠.select cs b:=λcs b=>eV j oj cs b fZ;unfold wpOp at *;simp only [fZ] at *;rw [wanted_put oj a oi.dst v p1] at h1;split
   . rename_i hw
     simp only [hw,if_true] at h1;rcases h1 with h1|⟨_,_,_,hf⟩
     case inr=>exact hf.elim
     refine .inl ?_;unfold Oper.wp at *;rw [execOp_put oj mm a oi.dst v p1] at h1;generalize (execOp a.eval oj).run P w=r at *;cases r with
     | ok n w'=>
       cases n<;>simp only [Oper.upon] at h1 ⊢
       case value u=>exact fin _ _ (keep a hy u) (by rw [<- Act.put_comm a v u p2];exact h1)
       case skip=>exact fin _ _ (keep a hy _) (by rw [<- Act.put_comm a v undef p2];exact h1)
       case defer d=>
        refine fin _ _ (keep _ (keepD a d hy) _) ?_;rw [<- Act.put_comm _ v undef p2,<- Act.put_defers];exact h1
       case enter f args=>
        refine Calls.mono h1 λe w'' he=>?_;cases e with
        | returned u=>exact fin _ _ (keep a hy u) (by rw [<- Act.put_comm a v u p2];exact he)
        | panicked c=>exact he
        | outgrown=>exact he
       case row row args=>exact Rows.mono h1 λu w'' he=>fin _ _ (keep a hy u) (by rw [<- Act.put_comm a v u p2];exact he)
     | halt x w'=>
       cases x<;>simp only [Oper.upon] at h1
   rename_i hw;simp only [hw] at h1;exact fin _ _ (keep a hy _) (by rw [<- Act.put_comm a v undef p2];exact h1)
end any
def ZeH (ops:Array Oper) (Lt:List Nat) (i:Nat):Bool:=
 Lt.all λj=>j == i || (match ops[j]? with|some oj=>oj.after.any (λe=>Region.binds .any e && e.on == i)|none=>true)
def bits (m:Nat):List Nat:=(List.range 64).filter (λj=>m.testBit j)
def ZfB:List Nat->List (List Nat)
 | []=>[[]]
 | x :: r=>ZfB r++(ZfB r).map (x :: ·)
def lst (listed:Array Bool) (is rem:List Nat):Array Bool:=Array.ofFn (n:=listed.size) λj=>listed[j] || (is.contains j.val && !rem.contains j.val)
def wt:List (Nat×Nat)->Nat
 | []=>0
 | (_,k) :: r=>(if k<100000 then 1 else (bits (k - 100000)).length)+wt r
theorem Z01 {i k:Nat} {r:List (Nat×Nat)} (h:k<100000):wt ((i,k) :: r)=wt r+1:=by simp [wt,h];omega
def ZW (ops:Array Oper) (Lt:List Nat):List (Nat×Nat)->Option Nat->Array Bool->Bool
 | [],sk,listed=>sk.isNone && (Region.ready .any ops listed).isEmpty
 | (i,0) :: r,sk,listed=>(Region.ready .any ops listed).contains i && Region.free .any ops listed i && ZW ops Lt r sk (listed.setIfInBounds i true)
 | (i,1) :: r,sk,listed=>(Region.ready .any ops listed).contains i && Region.free .any ops listed i && ZeH ops Lt i && ZW ops Lt r sk (listed.setIfInBounds i true)
 | (i,2) :: r,sk,listed=>if sk=some i then ZW ops Lt r none listed else Region.ready .any ops listed == [i] && ZW ops Lt r sk (listed.setIfInBounds i true)
 | (i, q + 3) :: r, sk, listed => if sk = some q /\ q + 3 < 100000 then (Region.ready .any ops listed == [i] && ZW ops Lt r sk (listed.setIfInBounds i true)) else sk.isNone && if q + 3 < 100000 then (Region.ready .any ops listed == [i, q] && ZW ops Lt r none (listed.setIfInBounds i true) && Region.ready .any ops (listed.setIfInBounds q true) == [i] && ZW ops Lt r (some q) ((listed.setIfInBounds q true).setIfInBounds i true))
   else (ZfB (bits (q+3 - 100000))).all (λrem=>rem.isEmpty || Region.ready .any ops (lst listed (bits (q+3 - 100000)) rem) == rem) && ZW ops Lt r none (lst listed (bits (q+3 - 100000)) [])
def J6 (ops:Array Oper) (Lt:List Nat) (ord:List (Nat×Nat)) (listed:Array Bool):Bool:=ZW ops Lt ord none listed
def Z52 (q:Nat):List (Nat×Nat)->List (Nat×Nat)
 | []=>[]
 | (i,2) :: r=>if i=q then r else (i,2) :: Z52 q r
 | (i,0) :: r=>(i,0) :: Z52 q r
 | (i,1) :: r=>(i,1) :: Z52 q r
 | (i,k+3) :: r=>if k=q/\k+3<100000 then (i,2) :: Z52 q r else (i,k+3) :: Z52 q r
theorem Z1V {ops:Array Oper} {Lt:List Nat} {q:Nat}:∀ (r:List (Nat×Nat)) (listed:Array Bool),ZW ops Lt r (some q) listed=true->ZW ops Lt (Z52 q r) none listed=true/\wt r=wt (Z52 q r)+1
 | [],listed,h=>by simp [ZW] at h
 | (i, 0) :: r, listed, h => by
   simp only [ZW,Xl] at h;obtain ⟨h1,h2⟩:=Z1V r _ h.2;simp only [Z52,ZW,Xl];exact ⟨⟨h.1,h1⟩,by simp [wt,h2];omega⟩
 | (i, 1) :: r, listed, h => by
   simp only [ZW,Xl] at h;obtain ⟨h1,h2⟩:=Z1V r _ h.2;simp only [Z52,ZW,Xl];exact ⟨⟨h.1,h1⟩,by simp [wt,h2];omega⟩
 | (i, 2) :: r, listed, h => by
   by_cases e:i=q;subst e;simp only [ZW,if_pos] at h;simp only [Z52,if_pos];exact ⟨h,by simp [wt];omega⟩;have e':¬ (some q=some i):=by simpa using λh=>e h.symm
   simp only [ZW,if_neg e',Xl] at h;obtain ⟨h1,h2⟩:=Z1V r _ h.2;simp only [Z52,if_neg e,ZW];refine ⟨?_,by simp [wt,h2];omega⟩;rw [if_neg (by simp)];simp only [Xl];exact ⟨h.1,h1⟩
 | (i, k + 3) :: r, listed, h => by
   by_cases e:k=q/\k+3<100000;simp only [ZW] at h;rw [if_pos ⟨by rw [e.1],e.2⟩] at h;simp only [Xl] at h;obtain ⟨h1,h2⟩:=Z1V r _ h.2;simp only [Z52,if_pos e,ZW];refine ⟨?_,by rw [Z01 e.2,Z01 (by decide),h2]⟩;rw [if_neg (by simp)];simp only [Xl];exact ⟨h.1,h1⟩;simp only [ZW] at h;rw [if_neg (λh'=>e ⟨(X1 h'.1).symm,h'.2⟩)] at h;simp at h
structure WG (P:Program) (n:Nat) (ops:Array Oper) {σ:Type} [Rl σ] (S:σ) (Lt:List Nat) (Q:Exit->Act->World->Prop) (ord:List (Nat×Nat)) (e:Env) (w:World):Prop where
 h:∀ listed:Array Bool,Region.noSelect ops=true->J6 ops Lt ord listed=true->∀ a,Has n e a->Z1C P .any ops S (λj=>Lt.contains j) (λa w=>Q .normal a w) (wt ord) listed a w
section rules
variable {P:Program} {n:Nat} {Q:Exit->Act->World->Prop} {e:Env} {w:World} {ops:Array Oper} {σ:Type} [Rl σ] {S:σ} {Lt:List Nat} {rest:List (Nat×Nat)}
theorem ZfC {id:Nat} {l:List Oper} (m:Nat) {σ:Type} [Rl σ] (S:σ) (Lt:List Nat) (ord:List (Nat×Nat)) (cF:l.length=m) (hm:P.follows .mixedOrders=true) (hs:Region.noSelect l.toArray=true) (hl:Nat.beq (wt ord) l.length=true)
 (hB:J6 l.toArray Lt ord (Array.replicate m false)=true)
 (h:∀ w',Stp [] w w'->WG P n l.toArray S Lt Q ord e w'):WC P n (.region id l.toArray true) Q e w:=by
 subst cF;refine ⟨λa ha=>wp_region_any hm ?_⟩;have h1:=(h { w with drawn:=w.drawn+1 } (Stp.drew [] w)).h _ hs hB a ha;have h2:=Z0W (Q:=Q) (λa w hz=>hz) _ _ _ _ h1;rw [XR hl] at h2;simpa using h2
theorem Zdj (h:WQ n Q .normal e w):WG P n ops S Lt Q [] e w:=
 ⟨λ_ _ hB a ha=>⟨by simpa [J6,ZW] using hB,h.h a ha⟩⟩
def Z08 (ops:Array Oper) (e:Env):Option (Nat×Bool)->Prop
 | none=>True
 | some (j,b)=>yld ops e j=some (.B b)
theorem Jw {o:Oper} {a:Act} (ha:Has n e a) (hg:Z08 ops e o.guard):Region.wanted o (yielded ops a.tmps)=true:=by
 unfold Region.wanted;cases lD:o.guard with
 | none=>rfl
 | some jb=>
   obtain ⟨j,b⟩:=jb;rw [lD] at hg;simp [Z7E ha hg]
theorem Zbr {i d:Nat} {o:Oper} {v:Value} (hi:ops[i]?=some o) (hd:o.dst=some d) (hY:∀ a,Has n e a->YE P ops (λ_ _=>True) o v a w) (aw:Nat.blt d n=true)
 (k:WG P n ops S Lt Q rest ((d,v) :: e) w):WG P n ops S Lt Q ((i,0) :: rest) e w:=by
 refine ⟨λlisted hs hB a ha=>?_⟩;simp only [J6,ZW,Xl] at hB;obtain ⟨⟨h1,h2⟩,h3⟩:=hB;have hk:=k.h _ hs h3 _ (ha.put (v:=v) aw);rw [<- hd] at hk;rw [Z01 (by decide)];exact Z5o (R:=λ_ _=>True) (λ_=>trivial) (λ_ _ _ _ _=>trivial) hi (λ_ _ _ _ _ _ _ _=>trivial) (Region.noSelect_spec hs) _ _ _ _ (Region.free_spec hi h2) (λ_=>trivial) (by simpa using h1) (hY a ha) hk
theorem Z53 {i j:Nat} {oj:Oper} (hb:ZeH ops Lt i=true) (hj:ops[j]?=some oj) (hn:∀ e∈oj.after,Region.binds .any e=true->e.on≠i) (cj:j≠i):Lt.contains j=false:=by
 cases hc:Lt.contains j with
 | false=>rfl
 | true=>
   have hm:j∈Lt:=by simpa using hc
   have:=(XV.1 hb) j hm;simp only [hj,Yav,beq_iff_eq,cj,false_or] at this;obtain ⟨e,he,lE⟩:=Array.any_eq_true'.1 this;simp only [Xl,beq_iff_eq] at lE;exact absurd lE.2 (hn e he lE.1)
theorem Zbs {i d:Nat} {o:Oper} {v:Value} (hi:ops[i]?=some o) (hd:o.dst=some d) (hY:∀ a,Has n e a->YE P ops (Rl.rel S) o v a w) (aw:Nat.blt d n=true)
 (k:WG P n ops S Lt Q rest ((d,v) :: e) w):WG P n ops S Lt Q ((i,1) :: rest) e w:=by
 refine ⟨λlisted hs hB a ha=>?_⟩;simp only [J6,ZW,Xl] at hB;obtain ⟨⟨⟨h1,h2⟩,hb⟩,h3⟩:=hB;have hk:=k.h _ hs h3 _ (ha.put (v:=v) aw);rw [<- hd] at hk;rw [Z01 (by decide)];refine Z5o (R:=Rl.rel S) (λw=>Rl.refl _ w) (λ_ _ _ h k=>Rl.trans h k) hi (λj oj hj hn cj w w' hs=>?_) (Region.noSelect_spec hs) _ _ _ _ (Region.free_spec hi h2) (λ_=>trivial) (by simpa using h1) (hY a ha) hk;rcases hs with hs|hs
 exact hs;rw [Z53 hb hj hn cj] at hs;cases hs
variable {i d:Nat} {op:Op} {ty:TypeId} {pos:String} {af:Array Edge} {gd:Option (Nat×Bool)} {v:Value}
theorem JK (hi:ops[i]?=some ⟨some d,op,ty,pos,af,gd⟩) (hg:Z08 ops e gd) (hp:∀ w',PR P n ⟨some d,op,ty,pos,af,gd⟩ e w' v) (aw:Nat.blt d n=true)
 (k:WG P n ops S Lt Q rest ((d,v) :: e) w):WG P n ops S Lt Q ((i,0) :: rest) e w:=
 Zbr hi rfl (λa ha=>.inl ⟨Jw ha hg,λw' _=>(hp w').h a ha⟩) aw k
theorem Zm6 (hi:ops[i]?=some ⟨some d,op,ty,pos,af,gd⟩) (hg:Z08 ops e gd) (hp:∀ w',Rl.rel S w w'->PR P n ⟨some d,op,ty,pos,af,gd⟩ e w' v) (aw:Nat.blt d n=true)
 (k:WG P n ops S Lt Q rest ((d,v) :: e) w):WG P n ops S Lt Q ((i,1) :: rest) e w:=
 Zbs hi rfl (λa ha=>.inl ⟨Jw ha hg,λw' hw=>(hp w' hw).h a ha⟩) aw k
theorem Ziw (hi:ops[i]?=some ⟨some d,op,ty,pos,af,gd⟩) (hg:noB ops e gd=true) (aw:Nat.blt d n=true)
 (k:WG P n ops S Lt Q rest ((d,undef) :: e) w):WG P n ops S Lt Q ((i,0) :: rest) e w:=
 Zbr hi rfl (λa ha=>.inr ⟨Z2V ha hg,rfl⟩) aw k
theorem Zix (hi:ops[i]?=some ⟨some d,op,ty,pos,af,gd⟩) (hg:noB ops e gd=true) (aw:Nat.blt d n=true)
 (k:WG P n ops S Lt Q rest ((d,undef) :: e) w):WG P n ops S Lt Q ((i,1) :: rest) e w:=
 Zbs hi rfl (λa ha=>.inr ⟨Z2V ha hg,rfl⟩) aw k
structure WG1 (P:Program) (n:Nat) (ops:Array Oper) {σ:Type} [Rl σ] (S:σ) (Lt:List Nat) (Q:Exit->Act->World->Prop) (i:Nat) (ord:List (Nat×Nat)) (e:Env) (w:World):Prop where
 h : ∀ listed : Array Bool, Region.noSelect ops = true -> J6 ops Lt ord (listed.setIfInBounds i true) = true -> ∀ a, Has n e a->
   wpOp P ops (λ_ _ _=>False) i (λa' w'=>(Rl.rel S w w'\/Lt.contains i=true)/\Z1C P .any ops S (λj=>Lt.contains j) (λa w=>Q .normal a w) (wt ord) (listed.setIfInBounds i true) a' w') a w
theorem Ziy {o:Oper} {dst:Option Nat} {G:Value->World->Prop} (hi:ops[i]?=some o) (fH:o.dst=dst) (hg:Z08 ops e o.guard) (hp:OE P n o e w (λv w'=>(Rl.rel S w w'\/Lt.contains i=true)/\G v w'))
 (k:∀ v w' a',G v w'->∀ a,Has n e a->a'=a.put dst v->∃ e',Has n e' a'/\WG P n ops S Lt Q rest e' w'):WG1 P n ops S Lt Q i rest e w:=by
 refine ⟨λlisted hs h3 a ha=>?_⟩;unfold wpOp;simp only [hi];rw [if_pos (Jw ha hg)];refine .inl (Oper.wp_mono ?_ (hp.h a ha _));rintro a' w' ⟨v,rfl,cU,hG⟩;obtain ⟨e',iS,hk⟩:=k v w' (a.put o.dst v) hG a ha (by rw [fH]);exact ⟨cU,hk.h _ hs h3 _ iS⟩
theorem Ziz (h:WG1 P n ops S Lt Q i rest e w):WG P n ops S Lt Q ((i,2) :: rest) e w:=by
 refine ⟨λlisted hs hB a ha=>?_⟩;simp only [J6,ZW] at hB;rw [if_neg (by simp)] at hB;simp only [Xl,beq_iff_eq] at hB;obtain ⟨h1,h3⟩:=hB;rw [Z01 (by decide)];refine ⟨λh0=>absurd (h1 ▸ h0) (by simp),λj hj=>?_⟩;rw [h1] at hj;obtain rfl:j=i:=by simpa using hj
 exact h.h _ hs h3 a ha
theorem ZiA {q:Nat} (hq:Nat.blt (q+3) 100000=true) (h1:WG1 P n ops S Lt Q i rest e w) (h2:WG1 P n ops S Lt Q q ((i,2) :: Z52 q rest) e w):WG P n ops S Lt Q ((i,q+3) :: rest) e w:=by
 refine ⟨λlisted hs hB a ha=>?_⟩;have gB:q+3<100000:=XY hq;simp only [J6,ZW] at hB;rw [if_neg (by simp),if_pos gB] at hB;simp only [Xl,beq_iff_eq] at hB;obtain ⟨_,⟨⟨hr,fu⟩,dh⟩,h3⟩:=hB;obtain ⟨h4,h5⟩:=Z1V _ _ h3;have hw:wt ((i,q+3) :: rest)=wt rest+1:=Z01 gB;rw [hw];refine ⟨λh0=>absurd (hr ▸ h0) (by simp),λj hj=>?_⟩;rw [hr] at hj;have c2:J6 ops Lt ((i,2) :: Z52 q rest) (listed.setIfInBounds q true)=true:=by
  simp only [J6,ZW];rw [if_neg (by simp)];simp only [Xl,beq_iff_eq];exact ⟨dh,h4⟩
 have jH:wt rest=wt ((i,2) :: Z52 q rest):=by rw [Z01 (by decide),h5]
 have ga:j=i\/j=q:=by simpa using hj
 rcases ga with rfl|rfl
 exact h1.h _ hs fu a ha;rw [jH];exact h2.h _ hs c2 a ha
theorem Z7G:∀ {is rem:List Nat},rem.Sublist is->rem∈ZfB is
 | [],rem,h=>by simp at h;simp [ZfB,h]
 | x :: r, rem, h => by
   simp only [ZfB,Xi,XK];cases h with
   | cons _ h=>exact .inl (Z7G h)
   | cons_cons _ h=>exact .inr ⟨_,Z7G h,rfl⟩
theorem Zm7 (listed:Array Bool) (is:List Nat):lst listed is is=listed:=by
 apply Array.ext;simp [lst];intro j h1 h2;simp only [lst,Array.getElem_ofFn];cases is.contains j<;>simp
theorem ZiB {listed:Array Bool} {is rem:List Nat} {j:Nat} (hn:rem.Nodup) (hr:rem.Sublist is) (hj:j∈rem):(lst listed is rem).setIfInBounds j true=lst listed is (rem.erase j):=by
 apply Array.ext;simp [lst];intro m h1 h2;have hm:m<listed.size:=by simpa [lst] using h2
 rw [Array.getElem_setIfInBounds];simp only [lst,Array.getElem_ofFn];by_cases e:j=m;subst e;have h3:is.contains j=true:=by simpa using hr.subset hj
 have h4:(rem.erase j).contains j=false:=by
  have:=hn.not_mem_erase (a:=j);simpa using this
 simp only [h3,h4,if_true,Bool.not_false,Ya2,Bool.or_true];rw [if_neg e];have:(rem.erase j).contains m=rem.contains m:=by
  rw [Yad];simp only [List.contains_iff_mem];exact List.mem_erase_of_ne (λh=>e h.symm)
 rw [this];simpa [lst] using hm
theorem Zsv {q:Nat} (is:List Nat) (J:List Nat->World->Prop) (hq:Nat.ble 100000 (q+3)=true) (sC:bits (q+3 - 100000)=is) (ge:is.Nodup) (h0:J is w)
 (step:∀ rem j w',rem.Sublist is->j∈rem->J rem w'->∃ o,ops[j]?=some o/\o.dst=none/\Z08 ops e o.guard/\OE P n o e w' (λ_ w''=>(Rl.rel S w' w''\/Lt.contains j=true)/\J (rem.erase j) w''))
 (fin:∀ w',J [] w'->WG P n ops S Lt Q rest e w'):WG P n ops S Lt Q ((i,q+3) :: rest) e w:=by
 refine ⟨λlisted hs hB a ha=>?_⟩;have gB:¬ q+3<100000:=Nat.not_lt.2 (XY hq);have hw:wt ((i,q+3) :: rest)=is.length+wt rest:=by simp only [wt];rw [if_neg gB,sC]
 rw [hw];simp only [J6,ZW] at hB;rw [if_neg (by simp),if_neg gB,sC] at hB;simp only [Xl] at hB;obtain ⟨_,aB,mo⟩:=hB;have hready:∀ rem:List Nat,rem.Sublist is->0<rem.length->Region.ready .any ops (lst listed is rem)=rem:=λrem hr h0=>by
  have:=XV.1 aB rem (Z7G hr);cases rem with
  | nil=>simp at h0
  | cons x r=>simpa using this
 have key:∀ (k:Nat) (rem:List Nat),rem.length=k->rem.Sublist is->∀ w' a,Has n e a->J rem w'->Z1C P .any ops S (λj=>Lt.contains j) (λa w=>Q .normal a w) (k+wt rest) (lst listed is rem) a w':=by
  intro k
  induction k with
  | zero=>
    intro rem hl hr w' a ha hJ;obtain rfl:=Xw.1 hl;rw [XN];exact (fin w' hJ).h _ hs mo a ha
  | succ k ih=>
    intro rem hl hr w' a ha hJ;rw [show k+1+wt rest=(k+wt rest)+1 by omega];refine ⟨λh=>?_,λj hj=>?_⟩;rw [hready rem hr (by omega)] at h;subst h;simp at hl;rw [hready rem hr (by omega)] at hj;obtain ⟨o,hi,fH,hg,hp⟩:=step rem j w' hr hj hJ;unfold wpOp;simp only [hi];rw [if_pos (Jw ha hg)];refine .inl (Oper.wp_mono ?_ (hp.h a ha _));rintro a' w'' ⟨v,rfl,cU,mq⟩;refine ⟨cU,?_⟩;rw [ZiB (hr.nodup ge) hr hj,fH];exact ih _ (by rw [List.length_erase_of_mem hj];omega) (List.erase_sublist.trans hr) w'' _ ha mq
 have:=key is.length is rfl (List.Sublist.refl _) w a ha h0
 rwa [Zm7] at this
theorem Z7q {o:Oper} {dst:Option Nat} {G:Value->World->Prop} (hi:ops[i]?=some o) (fH:o.dst=dst) (hg:Z08 ops e o.guard) (hp:OE P n o e w (λv w'=>(Rl.rel S w w'\/Lt.contains i=true)/\G v w'))
 (k:∀ v w' a',G v w'->∀ a,Has n e a->a'=a.put dst v->∃ e',Has n e' a'/\WG P n ops S Lt Q rest e' w'):WG P n ops S Lt Q ((i,2) :: rest) e w:=
 Ziz (Ziy hi fH hg hp k)
theorem ZiC (hi:ops[i]?=some ⟨some d,op,ty,pos,af,gd⟩) (hg:noB ops e gd=true) (aw:Nat.blt d n=true)
 (k:WG P n ops S Lt Q rest ((d,undef) :: e) w):WG P n ops S Lt Q ((i,2) :: rest) e w:=by
 refine Ziz ⟨λlisted hs h3 a ha=>?_⟩;unfold wpOp;simp only [hi];have hw:=Z2V (o:=⟨some d,op,ty,pos,af,gd⟩) ha hg;rw [if_neg (by simp [hw])];exact ⟨.inl (Rl.refl _ _),k.h _ hs h3 _ (ha.put (v:=undef) aw)⟩
theorem Z4i {G:Value->World->Prop} (hi:ops[i]?=some ⟨some d,op,ty,pos,af,gd⟩) (hg:Z08 ops e gd) (hp:OE P n ⟨some d,op,ty,pos,af,gd⟩ e w G) (hG:∀ v w',G v w'->Rl.rel S w w') (aw:Nat.blt d n=true)
 (k:∀ v w',G v w'->WG P n ops S Lt Q rest ((d,v) :: e) w'):WG1 P n ops S Lt Q i rest e w:=
 Ziy (G:=G) hi rfl hg (hp.mono λv w' h=>⟨.inl (hG v w' h),h⟩) (λv w' a' h a ha e=>⟨_,by rw [e];exact ha.put aw,k v w' h⟩)
theorem Za {G:Value->World->Prop} (hi:ops[i]?=some ⟨some d,op,ty,pos,af,gd⟩) (hg:Z08 ops e gd) (hp:OE P n ⟨some d,op,ty,pos,af,gd⟩ e w G) (hG:∀ v w',G v w'->Rl.rel S w w') (aw:Nat.blt d n=true)
 (k:∀ v w',G v w'->WG P n ops S Lt Q rest ((d,v) :: e) w'):WG P n ops S Lt Q ((i,2) :: rest) e w:=
 Z7q (G:=G) hi rfl hg (hp.mono λv w' h=>⟨.inl (hG v w' h),h⟩) (λv w' a' h a ha e=>⟨_,by rw [e];exact ha.put aw,k v w' h⟩)
theorem ZF {G:Value->World->Prop} (hi:ops[i]?=some ⟨none,op,ty,pos,af,gd⟩) (hg:Z08 ops e gd) (hp:OE P n ⟨none,op,ty,pos,af,gd⟩ e w G) (hG:∀ v w',G v w'->Rl.rel S w w')
 (k:∀ v w',G v w'->WG P n ops S Lt Q rest e w'):WG P n ops S Lt Q ((i,2) :: rest) e w:=
 Z7q (G:=G) hi rfl hg (hp.mono λv w' h=>⟨.inl (hG v w' h),h⟩) (λv w' a' h a ha e=>⟨_,by rw [e];exact ha,k v w' h⟩)
theorem Zm8 {G:Value->World->Prop} (hi:ops[i]?=some ⟨some d,op,ty,pos,af,gd⟩) (hg:Z08 ops e gd) (hp:OE P n ⟨some d,op,ty,pos,af,gd⟩ e w G) (hL:Lt.contains i=true) (aw:Nat.blt d n=true)
 (k:∀ v w',G v w'->WG P n ops S Lt Q rest ((d,v) :: e) w'):WG P n ops S Lt Q ((i,2) :: rest) e w:=
 Z7q (G:=G) hi rfl hg (hp.mono λv w' h=>⟨.inr hL,h⟩) (λv w' a' h a ha e=>⟨_,by rw [e];exact ha.put aw,k v w' h⟩)
theorem JA {G:Value->World->Prop} (hi:ops[i]?=some ⟨none,op,ty,pos,af,gd⟩) (hg:Z08 ops e gd) (hp:OE P n ⟨none,op,ty,pos,af,gd⟩ e w G) (hL:Lt.contains i=true)
 (k:∀ v w',G v w'->WG P n ops S Lt Q rest e w'):WG P n ops S Lt Q ((i,2) :: rest) e w:=
 Z7q (G:=G) hi rfl hg (hp.mono λv w' h=>⟨.inr hL,h⟩) (λv w' a' h a ha e=>⟨_,by rw [e];exact ha,k v w' h⟩)
theorem ZiD {ord:List (Nat×Nat)} {j:Nat} {p:Prop} [Decidable p] (hy:look e j=some (.B (decide p)))
 (ht:p->WG P n ops S Lt Q ord ((j,.B true) :: e) w) (hf:¬ p->WG P n ops S Lt Q ord ((j,.B false) :: e) w):WG P n ops S Lt Q ord e w:=by
 refine ⟨λlisted hs hB a ha=>?_⟩;by_cases hp:p;exact (ht hp).h _ hs hB a (ha.same hy (by simp [hp]));exact (hf hp).h _ hs hB a (ha.same hy (by simp [hp]))
theorem Zy {i q j d:Nat} {b:Bool} {o:Oper} {p:Prop} [Decidable p] (hi:ops[i]?=some o) (hg:o.guard=some (j,b)) (hj:ZeD ops j=some d) (hy:look e d=some (.B (decide p)))
 (ht:p->WG P n ops S Lt Q ((i,q) :: rest) ((d,.B true) :: e) w) (hf:¬ p->WG P n ops S Lt Q ((i,q) :: rest) ((d,.B false) :: e) w):WG P n ops S Lt Q ((i,q) :: rest) e w:=
 ZiD hy ht hf
theorem Zq {i q j d:Nat} {b:Bool} {o:Oper} {t:Bool} (hi:ops[i]?=some o) (hg:o.guard=some (j,b)) (hj:ZeD ops j=some d) (hy:look e d=some (.B t))
 (ht:t=true->WG P n ops S Lt Q ((i,q) :: rest) ((d,.B true) :: e) w) (hf:t=false->WG P n ops S Lt Q ((i,q) :: rest) ((d,.B false) :: e) w):WG P n ops S Lt Q ((i,q) :: rest) e w:=by
 refine ⟨λlisted hs hB a ha=>?_⟩;cases t;exact (hf rfl).h _ hs hB a (ha.same hy rfl);exact (ht rfl).h _ hs hB a (ha.same hy rfl)
end rules
abbrev Zal (P:Program) (md:Region.Mode) (ops:Array Oper) (S:List Nat) (Lt:Nat->Bool) (Z:Act->World->Prop):Nat->Array Bool->Act->World->Prop:=Z1C P md ops S Lt Z
abbrev WD (P:Program) (n:Nat) (ops:Array Oper) (S:List Nat) (Lt:List Nat) (Q:Exit->Act->World->Prop) (ord:List (Nat×Nat)) (e:Env) (w:World):Prop:=WG P n ops S Lt Q ord e w
abbrev WD1 (P:Program) (n:Nat) (ops:Array Oper) (S:List Nat) (Lt:List Nat) (Q:Exit->Act->World->Prop) (i:Nat) (ord:List (Nat×Nat)) (e:Env) (w:World):Prop:=WG1 P n ops S Lt Q i ord e w
section
variable {P:Program} {n:Nat} {Q:Exit->Act->World->Prop} {e:Env} {w:World} {ops:Array Oper} {Lt:List Nat} {rest:List (Nat×Nat)} {i d:Nat} {op:Op} {ty:TypeId} {pos:String} {af:Array Edge} {gd:Option (Nat×Bool)} {v:Value}
theorem Z7H {id:Nat} {l:List Oper} (m:Nat) (S:List Nat) (Lt:List Nat) (ord:List (Nat×Nat)) (cF:l.length=m) (hm:P.follows .mixedOrders=true) (hs:Region.noSelect l.toArray=true) (hl:Nat.beq (wt ord) l.length=true)
 (hB:J6 l.toArray Lt ord (Array.replicate m false)=true)
 (h:∀ w',Stp [] w w'->WD P n l.toArray S Lt Q ord e w'):WC P n (.region id l.toArray true) Q e w:=ZfC m S Lt ord cF hm hs hl hB h
theorem J7 {S:List Nat} (hi:ops[i]?=some ⟨some d,op,ty,pos,af,gd⟩) (hg:Z08 ops e gd) (hp:∀ w',Stp S w w'->PR P n ⟨some d,op,ty,pos,af,gd⟩ e w' v) (aw:Nat.blt d n=true)
 (k:WD P n ops S Lt Q rest ((d,v) :: e) w):WD P n ops S Lt Q ((i,1) :: rest) e w:=Zm6 hi hg hp aw k
end
theorem ZDr {P:Program} {n:Nat} {Q:Exit->Act->World->Prop} {e:Env} {w} {id:Nat} {l:List Oper} (m:Nat) (S:List Nat) (Lt:List Nat) (ord:List (Nat×Nat)) (h:∀ w',Stp [] w w'->WD P n l.toArray S Lt Q ord e w') (cF:l.length=m:=by exact rfl) (hm:P.follows .mixedOrders=true:=by kernel_rfl) (hs:Region.noSelect l.toArray=true:=by kernel_rfl) (hl:Nat.beq (wt ord) l.length=true:=by kernel_rfl)
 (hB:J6 l.toArray Lt ord (Array.replicate m false)=true:=by kernel_rfl):WC P n (.region id l.toArray true) Q e w:=Z7H m S Lt ord cF hm hs hl hB h
theorem Z12 {k:Nat}:∀ (l:List (List Value)),(∀ c∈l,c.length=k)->l.flatten.length=l.length * k
 | [],_=>by simp
 | c :: r, h => by
   simp only [Yag,Xc,Xe,X9];rw [Z12 r (λc hc=>h c (by simp [hc])),h c (by simp)];omega
theorem Z1s {k:Nat}:∀ (css:List (List Value)),(∀ c∈css,c.length=k)->∀ (i:Nat),i<css.length->∀ (cs:List Value),
 (css.set i cs).flatten=css.flatten.take (i * k)++cs++css.flatten.drop (i * k+k)
 | [],_,i,hi,_=>absurd hi (Xu _)
 | c :: r, hk, 0, _, cs => by
   have hc:=hk c (by simp);simp [hc]
 | c :: r, hk, i + 1, hi, cs => by
   have hc:=hk c (by simp);have ih:=Z1s r (λc hc=>hk c (by simp [hc])) i (by simpa using hi) cs;simp only [List.set_cons_succ,Yag,ih,X9];rw [YaC,List.drop_append,hc];rw [XH (l:=c) (by omega),show c.drop (i * k+k+k)=[] from YaA (by omega)];rw [show i * k+k - k=i * k by omega,show i * k+k+k - k=i * k+k by omega];simp [Xy]
theorem Z2X {k:Nat}:∀ (css:List (List Value)),(∀ c∈css,c.length=k)->∀ (i:Nat) (hi:i<css.length) (j:Nat) (hj:j<k) (u:Value),
 (css.set i (css[i].set j u)).flatten=css.flatten.set (i * k+j) u
 | [],_,i,hi,_,_,_=>absurd hi (Xu _)
 | c :: r, hk, 0, _, j, hj, u => by
   have hc:=hk c (by simp);simp [hc,hj]
 | c :: r, hk, i + 1, hi, j, hj, u => by
   have hc:=hk c (by simp);have ih:=Z2X r (λc hc=>hk c (by simp [hc])) i (by simpa using hi) j hj u;simp only [List.set_cons_succ,Yag,List.getElem_cons_succ,ih,X9];rw [YbF,if_neg (by omega),hc];rw [show i * k+k+j - k=i * k+j by omega]
section row
variable {α:Type} [Z7 α] {X:List Nat} {w w':World} {base T:Nat} {v:Value} {xs:List α}
variable {P:Program} {n:Nat} {e:Env} {d:Option Nat} {ty:TypeId} {pos:String} {af:Array Edge} {g:Option (Nat×Bool)}
theorem Row.isSome (h:Row X w base T v xs) {i:Nat} (hi:i<xs.length):∃ q l c,v=.slice (some ⟨q,0,none⟩) l c:=by
 obtain ⟨css,hl,hr,ho⟩:=h;rcases ho.2 with ⟨rfl,hn⟩|⟨q,cap,cur,rfl,hb,hg,cI,bR,bo,ht⟩
 omega;exact ⟨_,_,_,rfl⟩
theorem Z7I {i k:Nat} {t:TypeId} {x y:Operand} {u:Value} {y':α} [bI:Siz P t k] (hx:ev e x=some (.pointer (some (ZM v i k 0)))) (hy:ev e y=some u) (hk:k=Z7.k α)
 (bH:Z7.rep (ob v++X) w y' u.cells.toList) (ab:Row X w base T v xs) (hX:∀ b∈X,b<base) (hi:i<xs.length) :
 OE P n ⟨d,.store t x y,ty,pos,af,g⟩ e w (λ_ w'=>Row X w' base T v (xs.set i y')/\Stp (ob v) w w'):=by
 have dt:=ab;obtain ⟨css,hl,hr,ho⟩:=ab;have ai:∀ c∈css,c.length=Z7.k α:=by
  intro c hc;obtain ⟨q,hq,rfl⟩:=Xr hc;exact Z7.len (hr q (by omega) hq)
 rcases ho.2 with ⟨rfl,hn⟩|⟨q,cap,cur,rfl,hb,hg,cI,bR,bo,ht⟩
 omega;subst hk;have eo:u.cells.toList.length=Z7.k α:=Z7.len bH;have cB:i * Z7.k α+u.cells.toList.length<=cur.size:=by
  rw [eo,bo,<- X9];exact Xp _ (by omega)
 have ay:=run_storeCells_at P q (i * Z7.k α) T u.cells.toList 0 cur w hg (by simpa using cB) (Z7.one bH);simp only [Ybn] at ay;have d6:u.cells.size=Z7.k α:=by simpa using eo
 have iT:Stp [q] w (w.setRow q (cur.toList.take (i * Z7.k α)++u.cells.toList++cur.toList.drop (i * Z7.k α+u.cells.toList.length)).toArray):=Z1U _ _ _;refine Z4h (w':=w.setRow q (cur.toList.take (i * Z7.k α)++u.cells.toList++cur.toList.drop (i * Z7.k α+u.cells.toList.length)).toArray) (λa ha=>?_) ⟨⟨css.set i u.cells.toList,by simp [hl],λj hj ga=>?_,?_,.inr ⟨q,cap,_,by simp,hb,setRow_heap w q cur _ T (0,0) hg,by simpa using cI,bR,?_,?_⟩⟩,iT⟩;have dw:ZM (.slice (some ⟨q,0,none⟩) xs.length cap) i (Z7.k α) 0=⟨q,i * Z7.k α,none⟩:=by simp [ZM]
 rw [dw] at hx;simp [execOp,ha.ev hx,ha.ev hy,Instr.storeAt,Instr.sureAddr,storeVar,Siz.run,d6,ay];have ae:∀ b∈[q],b∈ob (.slice (some ⟨q,0,none⟩) xs.length cap)++X:=by simp [ob]
 by_cases dC:i=j;subst dC;simp only [Ybe];exact Z7.ext bH iT ae (λb hb=>.inl hb);simp only [YaM dC];exact Z7.ext (hr j (by simpa using hj) (by simpa using ga)) iT ae (λb hb=>.inl hb);rw [Z1s css ai i (by omega)];have h1:=ho.1;simp only [Xc,Xv,Yap,X6,eo,h1];have:(i+1) * Z7.k α<=xs.length * Z7.k α:=Xp _ (by omega);rw [X9] at this;omega;simp only [Yat,Xc,Xv,Yap,Yai,eo,bo];rw [eo,bo] at cB;omega;rw [Z1s css ai i (by omega),<- ht];have h2:(i+1) * Z7.k α<=xs.length * Z7.k α:=Xp _ (by omega);rw [X9] at h2;have h3:i * Z7.k α<=cur.toList.length:=by simp [bo];exact Xg (by omega) (Xp _ cI)
 simp only [X6,eo];rw [YaC,YaC,YaG,YaG,Ybq];simp only [Xc,Xv,eo];rw [Yae h3,XH (l:=u.cells.toList) (by rw [eo];omega)];rw [Ybz (by omega:i * Z7.k α<=xs.length * Z7.k α),Yae (by omega:i * Z7.k α<=xs.length * Z7.k α)]
theorem Z4j {β:Type} [Z3 β] {xs:List β} {i j k:Nat} {t:TypeId} {x y:Operand} {u:Value} {y':β} [bI:Siz P t 1] (hx:ev e x=some (.pointer (some (ZM v i k j)))) (hy:ev e y=some u) (hk:k=Z3.k β)
 (hu:u.cells.toList=[u]) (h1:u.oneCell'=true) (ab:Row X w base T v xs) (hi:i<xs.length) (hj:j<Z3.k β) (bH:Z3.enc y'=(Z3.enc xs[i]).set j u) :
 OE P n ⟨d,.store t x y,ty,pos,af,g⟩ e w (λ_ w'=>Row X w' base T v (xs.set i y')/\Stp (ob v) w w'):=by
 obtain ⟨css,hl,hr,ho⟩:=ab;have ai:∀ c∈css,c.length=Z7.k β:=by
  intro c hc;obtain ⟨q,hq,rfl⟩:=Xr hc;exact Z7.len (hr q (by omega) hq)
 have dT:Z7.k β=Z3.k β:=rfl;rcases ho.2 with ⟨rfl,hn⟩|⟨q,cap,cur,rfl,hb,hg,cI,bR,bo,ht⟩
 omega;subst hk;have ag:i * Z3.k β+j<xs.length * Z3.k β:=by
  have:(i+1) * Z3.k β<=xs.length * Z3.k β:=Xp _ (by omega);rw [X9] at this;omega
 have cB:i * Z3.k β+j+[u].length<=cur.size:=by
  rw [bo,dT];have:=Xp (Z3.k β) cI;simp only [List.length_singleton];omega
 have ay:=run_storeCells_at P q (i * Z3.k β+j) T [u] 0 cur w hg (by simpa using cB) (by simpa using h1);simp only [Ybn] at ay;have d6:u.cells.size=1:=by rw [<- Yai,hu];rfl
 have iT:Stp [q] w (w.setRow q (cur.toList.take (i * Z3.k β+j)++[u]++cur.toList.drop (i * Z3.k β+j+[u].length)).toArray):=Z1U _ _ _;have po:css[i]'(by omega)=Z3.enc xs[i]:=hr i hi (by omega);refine Z4h (w':=w.setRow q (cur.toList.take (i * Z3.k β+j)++[u]++cur.toList.drop (i * Z3.k β+j+[u].length)).toArray) (λa ha=>?_) ⟨⟨css.set i ((css[i]'(by omega)).set j u),by simp [hl],λm hm j6=>?_,?_,.inr ⟨q,cap,_,by simp,hb,setRow_heap w q cur _ T (0,0) hg,by simpa using cI,bR,?_,?_⟩⟩,iT⟩;have dw:ZM (.slice (some ⟨q,0,none⟩) xs.length cap) i (Z3.k β) j=⟨q,i * Z3.k β+j,none⟩:=by simp [ZM]
 rw [dw] at hx;simp [execOp,ha.ev hx,ha.ev hy,Instr.storeAt,Instr.sureAddr,storeVar,Siz.run,d6,hu,ay];by_cases dC:i=m;subst dC;simp only [Ybe];show _=Z3.enc y';rw [po,bH];simp only [YaM dC];exact hr m (by simpa using hm) (by simpa using j6);rw [Z2X css ai i (by omega) j hj];simpa using ho.1;simp only [Yat,Xc,Xv,Yap,Yai];omega;rw [Z2X css ai i (by omega) j hj,<- ht];have bI:i * Z3.k β+j<cur.toList.length:=by simp;simp at cB;omega
 simp only [X6,dT];rw [show cur.toList.take (i * Z3.k β+j)++[u]++cur.toList.drop (i * Z3.k β+j+[u].length)=cur.toList.set (i * Z3.k β+j) u by
  rw [List.set_eq_take_append_cons_drop,if_pos bI];simp]
 rw [List.take_set]
def slc (v:Value) (l h k:Nat):Value:=
 match v with
 | .slice a _ c=>.slice (if c=l then a else a.map (·.add (l * k))) (h - l) (c - l)
 | v=>v
theorem SlV.slc (h:SlV X w v xs) {l r:Nat} (hl:l<=r) (hr:r<=xs.length):SlV X w (slc v l r (Z7.k α)) ((xs.take r).drop l):=by
 obtain ⟨p,c,rfl,ai,hm,hn,hc⟩:=h;have gf:((xs.take r).drop l).length=r - l:=by simp;omega
 refine ⟨if c=l then p else p.map (·.add (l * Z7.k α)),c - l,by simp [Eng.slc,gf],by omega,by omega,?_,λi hi=>?_⟩;intro hp;split at hp;omega
 . cases p with
   | none=>have:=hn rfl;omega
   | some a=>simp at hp
 have cp:l+i<xs.length:=by omega
 obtain ⟨b,o,cs,rfl,hb,hx,eY,au⟩:=hc (l+i) cp;refine ⟨b,o+l * Z7.k α,cs,?_,hb,hx,by simpa using eY,λj u hu=>?_⟩;rw [if_neg (by omega)];simp [Addr.add_lit];have:=au j u hu;rw [show o+l * Z7.k α+i * Z7.k α+j=o+(l+i) * Z7.k α+j by rw [Nat.add_mul];omega];exact this
theorem Z1W {t el k:Nat} {x hi:Operand} {r:Nat} {b:Int} [hu:Und P t (.slice el)] [hk:Siz P el k] {dq:World} (hx:ev e x=some v) (hs:SlV X dq v xs) (hb:ev e hi=some (.I b))
 (lF:b=(r:Int)) (mr:r<=xs.length):PR P n ⟨d,.slice t x none (some hi) none,ty,pos,af,g⟩ e w (slc v 0 r k):=by
 refine ⟨λact eK=>?_⟩;obtain ⟨p,c,rfl,ai,hm,hn,hc⟩:=hs;subst lF;simp [execOp,eK.ev hx,eK.ev hb,Instr.sliceAt,run_underlying hu.h,Instr.slice,Instr.sliceBounds,Instr.sliceBound,asIntOf,Siz.run,Eng.slc,show r<=c by omega]
theorem Z54 {t el k:Nat} {x lo:Operand} {l:Nat} {a:Int} [hu:Und P t (.slice el)] [hk:Siz P el k] {dq:World} (hx:ev e x=some v) (hs:SlV X dq v xs) (ha:ev e lo=some (.I a))
 (iG:a=(l:Int)) (pp:l<=xs.length):PR P n ⟨d,.slice t x (some lo) none none,ty,pos,af,g⟩ e w (slc v l xs.length k):=by
 refine ⟨λact eK=>?_⟩;obtain ⟨p,c,rfl,ai,hm,hn,hc⟩:=hs;subst iG;simp [execOp,eK.ev hx,eK.ev ha,Instr.sliceAt,run_underlying hu.h,Instr.slice,Instr.sliceBounds,Instr.sliceBound,asIntOf,Siz.run,Eng.slc,pp]
theorem Z5p {k:Nat}:∀ (css:List (List Value)),(∀ c∈css,c.length=k)->∀ (i:Nat),(css.take i).flatten=css.flatten.take (i * k)
 | [],_,i=>by simp
 | c :: r,hk,0=>by simp
 | c :: r, hk, i + 1 => by
   have hc:=hk c (by simp);have ih:=Z5p r (λc hc=>hk c (by simp [hc])) i;simp only [Yaw,Yag,ih,X9];rw [YaC,hc,XH (l:=c) (by omega),show i * k+k - k=i * k by omega]
theorem ZiE (v:Value) (r k:Nat):ob (slc v 0 r k)=ob v:=by
 cases v<;>try rfl
 rename_i a l c;cases a with
 | none=>simp [slc,ob]
 | some a=>by_cases hc:c=0<;>simp [slc,ob,hc,Addr.add]
theorem Row.cut (h:Row X w base T v xs) {r:Nat} (hr:r<=xs.length):Row X w base T (slc v 0 r (Z7.k α)) (xs.take r):=by
 obtain ⟨css,hl,eY,ho⟩:=h;have ai:∀ c∈css,c.length=Z7.k α:=by
  intro c hc;obtain ⟨q,hq,rfl⟩:=Xr hc;exact Z7.len (eY q (by omega) hq)
 refine ⟨css.take r,by simp [hl],λi hi cQ=>?_,?_,?_⟩;rw [ZiE];simp only [List.getElem_take];exact eY i (by simp at hi;omega) (by simp at cQ;omega);rw [Z12 _ (λc hc=>ai c (Yas hc))];simp [hl];rcases ho.2 with ⟨rfl,hn⟩|⟨q,cap,cur,rfl,hb,hg,cI,bR,bo,ht⟩
 exact .inl ⟨by simp [Eng.slc];omega,by simp;omega⟩;refine .inr ⟨q,cap,cur,?_,hb,hg,by simp;omega,bR,bo,?_⟩;simp [Eng.slc,Addr.add,Xv,Yae hr];rw [Z5p css ai,<- ht,YaG,Xv,Yae hr];congr 1;have:=Xp (Z7.k α) hr;omega
end row
section misc
variable {P:Program} {n:Nat} {e:Env} {w:World} {d:Option Nat} {ty:TypeId} {pos:String} {af:Array Edge} {g:Option (Nat×Bool)}
def Z0p (e:Env):List (Nat×Operand)->Option (List (Nat×Value))
 | []=>some []
 | (i, x) :: r => match ev e x, Z0p e r with
   | some v,some l=>some ((i,v) :: l)
   | _,_=>none
theorem Has.parts {a:Act} (ha:Has n e a):∀ {l:List (Nat×Operand)} {vs:List (Nat×Value)},Z0p e l=some vs->l.map (λ(p:Nat×Operand)=>(p.1,a.eval p.2))=vs
 | [],vs,h=>by simp [Z0p] at h;simp [h]
 | (i, x) :: r, vs, h => by
   simp only [Z0p] at h;cases hx:Eng.ev e x with
   | none=>simp [hx] at h
   | some v=>
     cases hr:Z0p e r with
     | none=>simp [hx,hr] at h
     | some l=>
       simp [hx,hr] at h;subst h;simp [ha.ev hx,Has.parts ha hr]
theorem Z0L {t:TypeId} {l:List (Nat×Operand)} {vs:List (Nat×Value)} {u:Value} (hv:Z0p e l=some vs) (hb:∀ w,(Instr.build t vs.toArray).run P w=.ok u w):PR P n ⟨d,.build t l.toArray,ty,pos,af,g⟩ e w u:=
 ⟨λa ha => by
   have h1:=ha.parts hv;have h2:l.toArray.map (λ(x:Nat×Operand)=>match x with|(i,x)=>(i,a.eval x))=vs.toArray:=by
    rw [YbA];exact congrArg List.toArray h1
   simp only [execOp];rw [h2];simp [hb]⟩
def Z5 (w:World) (T:TypeId) (len:Nat) (cs:List Value) (v:Value) (w':World):Prop:=∃ b,v=.slice (some ⟨b,0,none⟩) len len/\w.heap.size<=b/\Blk w' b T cs/\Stp [] w w'
theorem Z0 {t T len:Nat} {l:List (Nat×Operand)} {vs:List (Nat×Value)} {cs:List Value} (hv:Z0p e l=some vs)
 (hb:∀ w:World,(Instr.buildSlice t len vs.toArray).run P w=.ok (.slice (some ⟨w.heap.size,0,none⟩) len len) (w.alloc (.cells cs.toArray T))) :
 OE P n ⟨d,.buildSlice t len l.toArray,ty,pos,af,g⟩ e w (Z5 w T len cs):=
 Jd (v:=.slice (some ⟨w.heap.size,0,none⟩) len len) (w':=w.alloc (.cells cs.toArray T)) (λa ha=>by
  have h1:=ha.parts hv;have h2:l.toArray.map (λ(x:Nat×Operand)=>match x with|(i,x)=>(i,a.eval x))=vs.toArray:=by
   rw [YbA];exact congrArg List.toArray h1
  simp only [execOp];rw [h2];simp [hb w]) ⟨w.heap.size,rfl,Xn _,heap_alloc_new w _,Stp.alloc _ _ _⟩
theorem Z5.slv {β:Type} [Z3 β] {X:List Nat} {T len:Nat} {cs:List Value} {v:Value} {w':World} {ys:List β} (h:Z5 w T len cs v w') (hX:∀ b∈X,b<w.heap.size) (hl:len=ys.length) (hc:cs=ys.flatMap Z3.enc) (hm:ys.length<=maxLen):SlV X w' v ys:=by
 obtain ⟨b,rfl,hb,ac,hS⟩:=h;subst hl;refine ⟨some ⟨b,0,none⟩,ys.length,rfl,Xn _,hm,λh=>by simp at h,λi hi=>⟨b,0,Z3.enc ys[i],rfl,ac.lt,λhx=>by have:=hX b hx;omega,rfl,λj u hu=>?_⟩⟩;subst hc;refine ac.cell ?_;have hk:∀ c∈ys.map Z3.enc,c.length=Z3.k β:=by
  intro c hc;obtain ⟨y,_,rfl⟩:=XK.1 hc;exact Z3.len y
 have:=Z0v (ys.map Z3.enc) hk i (by simpa using hi) j u (by simpa using hu);rw [Ybg,XN];exact this
theorem Z5.row {β:Type} [Z3 β] {X:List Nat} {T len base:Nat} {cs:List Value} {v:Value} {w':World} {ys:List β} (h:Z5 w T len cs v w') (aX:base<=w.heap.size) (hl:len=ys.length) (hc:cs=ys.flatMap Z3.enc) (hm:ys.length<=maxLen):Row X w' base T v ys:=by
 obtain ⟨b,rfl,hb,ac,hS⟩:=h;subst hl;subst hc;have hk:∀ c∈ys.map Z3.enc,c.length=Z3.k β:=by
  intro c hc;obtain ⟨y,_,rfl⟩:=XK.1 hc;exact Z3.len y
 have dE:(ys.flatMap Z3.enc).length=ys.length * Z3.k β:=by rw [Ybg,Z12 _ hk,Xt]
 refine ⟨ys.map Z3.enc,by simp,λi hi cQ=>(by simp:(ys.map Z3.enc)[i]=Z3.enc ys[i]),?_,.inr ⟨b,ys.length,(ys.flatMap Z3.enc).toArray,rfl,by omega,ac,Xn _,hm,by rw [Yat];exact dE,?_⟩⟩;rw [<- Ybg];exact dE;rw [<- Ybg];exact XH (by show (ys.flatMap Z3.enc).length<=_;rw [dE];exact Xn _)
theorem Zm9 {x y:Operand} {t u:TypeId} {p q:Value} {c:Prop} [Decidable c] (hx:ev e x=some p) (hy:ev e y=some q) (hg:∀ w,(eqGuard .eql t x y p q).run P w=.ok () w) (h:∀ w,(binOp .eql t p q).run P w=.ok (.B (decide c)) w) :
 PR P n ⟨d,.binOp .eql t x y u,ty,pos,af,g⟩ e w (.B (decide c)):=⟨λa ha=>by simp [execOp,ha.ev hx,ha.ev hy,h,hg]⟩
theorem ZeI {x y:Operand} {t u:TypeId} {p q:Value} {c:Prop} [Decidable c] (hx:ev e x=some p) (hy:ev e y=some q) (hg:∀ w,(eqGuard .neq t x y p q).run P w=.ok () w) (h:∀ w,(binOp .neq t p q).run P w=.ok (.B (decide (¬ c))) w) :
 PR P n ⟨d,.binOp .neq t x y u,ty,pos,af,g⟩ e w (.B (decide (¬ c))):=⟨λa ha=>by simp only [execOp,ha.ev hx,ha.ev hy];simp [h,hg]⟩
end misc
section post
variable {P:Program} {n:Nat} {fn:Func} {R:Ending->World->Prop} {e:Env} {w:World} {Q:Exit->Act->World->Prop}
theorem Z6Q {t b T m:Nat} {D:TypeDesc} {cs:List Value} [hu:Und P t D] (hA:Z0V D=true) [hs:Siz P t m] (hb:Blk w b T cs) (hl:cs.length=m):(loadVar t ⟨b,0,none⟩).run P w=.ok (.agg cs.toArray) w:=by
 have:=run_loadCells_list (P:=P) w ⟨b,0,none⟩ cs (λj v h=>by rw [Addr.add_lit,XN];exact hb.cell h);rw [hl] at this;simp [loadVar,Und.isAgg,hA,Siz.run,this]
theorem Zk {t b T T' m:Nat} {D:TypeDesc} {cs:List Value} (hr:fn.results=#[.cell t T']) [hu:Und P T' D] (hA:Z0V D=true) [hs:Siz P T' m] (ht:look e t=some (pQ b)) (hb:Blk w b T cs) (hl:cs.length=m)
 (h:R (.returned (.agg cs.toArray)) w):WQ n (bodyPost P fn R) .ret e w:=
 ⟨λa ha => ⟨ha.defers, .agg cs.toArray, by
   have h1:=ha.vals _ _ ht;rw [XB] at h1;simp [results,hr,h1,asAddr,Z6Q hA hb hl],h⟩⟩
theorem Zl {t b T T' m s:Nat} {D:TypeDesc} {cs:List Value} {v:Value} (hr:fn.results=#[.cell t T',.tmp s]) [hu:Und P T' D] (hA:Z0V D=true) [hs:Siz P T' m] (ht:look e t=some (pQ b)) (hb:Blk w b T cs) (hl:cs.length=m)
 (hv:look e s=some v) (h:R (.returned (.tuple #[.agg cs.toArray,v])) w):WQ n (bodyPost P fn R) .ret e w:=
 ⟨λa ha => ⟨ha.defers, .tuple #[.agg cs.toArray, v], by
   have h1:=ha.vals _ _ ht;have h2:=ha.vals _ _ hv;rw [XB] at h1 h2;simp [results,hr,h1,h2,asAddr,Z6Q hA hb hl],h⟩⟩
end post
theorem ZnY {P:Program} {n:Nat} {o:Oper} {e:Env} {w} {v:Value} (h:PR P n o e w v):OE P n o e w (λu w'=>u=v/\w'=w):=Jd h.h ⟨rfl,rfl⟩
section
variable {P:Program} {n:Nat} {Q:Exit->Act->World->Prop} {e:Env} {w:World} {ops:Array Oper} {S:List Nat} {Lt:List Nat} {rest:List Oper} {ord:List (Nat×Nat)} {ak bX:Nat} {ty:TypeId} {pos:String} {af:Array Edge} {gd:Option (Nat×Bool)}
theorem Z7r {x:Operand} {v:Value} (hx:ev e x=some v) (aw:Nat.blt ak n=true) (kk:WL P n ops Q rest ((ak,v) :: e) w):WL P n ops Q (⟨some ak,.move x,ty,pos,af,none⟩ :: rest) e w:=by
 refine Z9 (v:=v) ?_ aw kk;apply ZZ<;>assumption
theorem Z4k {x:Operand} {v:Value} (hx:ev e x=some v) (aw:Nat.blt ak n=true) (kk:WL P n ops Q rest ((ak,v) :: e) w):WL P n ops Q (⟨some ak,.assign x,ty,pos,af,none⟩ :: rest) e w:=by
 refine Z9 (v:=v) ?_ aw kk;apply Z65<;>assumption
theorem Zdk {x y:Operand} {t u:TypeId} {a b:Int} {k:IntKind} (hx:ev e x=some (.int k a)) (hy:ev e y=some (.int k b)) (aw:Nat.blt ak n=true) (kk:WL P n ops Q rest ((ak,(.B (decide (a<b)))) :: e) w):WL P n ops Q (⟨some ak,.binOp .lss t x y u,ty,pos,af,none⟩ :: rest) e w:=by
 refine Z9 (v:=(.B (decide (a<b)))) ?_ aw kk;apply Zhy<;>assumption
theorem Zdl {x y:Operand} {t u:TypeId} {a b:Int} {k:IntKind} (hx:ev e x=some (.int k a)) (hy:ev e y=some (.int k b)) (aw:Nat.blt ak n=true) (kk:WL P n ops Q rest ((ak,(.B (decide (b<a)))) :: e) w):WL P n ops Q (⟨some ak,.binOp .gtr t x y u,ty,pos,af,none⟩ :: rest) e w:=by
 refine Z9 (v:=(.B (decide (b<a)))) ?_ aw kk;apply Zhz<;>assumption
theorem Zsw {x y:Operand} {t u:TypeId} {a b:Int} {k:IntKind} (hx:ev e x=some (.int k a)) (hy:ev e y=some (.int k b)) (aw:Nat.blt ak n=true) (kk:WL P n ops Q rest ((ak,(.B (decide (¬ a=b)))) :: e) w):WL P n ops Q (⟨some ak,.binOp .neq t x y u,ty,pos,af,none⟩ :: rest) e w:=by
 refine Z9 (v:=(.B (decide (¬ a=b)))) ?_ aw kk;apply ZhA<;>assumption
theorem Zma {x y:Operand} {t u:TypeId} {p q:Bool} [hu:Und P t .bool] (hx:ev e x=some (.B p)) (hy:ev e y=some (.B q)) (aw:Nat.blt ak n=true) (kk:WL P n ops Q rest ((ak,(.B (decide (¬ p=q)))) :: e) w):WL P n ops Q (⟨some ak,.binOp .neq t x y u,ty,pos,af,none⟩ :: rest) e w:=by
 refine Z9 (v:=(.B (decide (¬ p=q)))) ?_ aw kk;apply ZeG<;>assumption
theorem Z5q {x:Operand} {t:TypeId} {b o i off:Nat} [hf:Fld P t i off] (aY:ops[bX]?=some ⟨some ak,.fieldAddr t x i,ty,pos,af,gd⟩) (aZ:Z08 ops e gd) (hx:ev e x=some (.pointer (some ⟨b,o,none⟩))) (aw:Nat.blt ak n=true) (kk:WD P n ops S Lt Q ord ((ak,(.pointer (some ⟨b,o+off,none⟩))) :: e) w):WD P n ops S Lt Q ((bX,0) :: ord) e w:=by
 refine JK (v:=(.pointer (some ⟨b,o+off,none⟩))) aY aZ (λw'=>?_) aw kk;apply Z1J<;>assumption
theorem ZiF {x:Operand} {t:TypeId} {D:TypeDesc} {ad:Addr} {v:Value} [hu:Und P t D] (hA:Z0V D=false) (hx:ev e x=some (.pointer (some ad))) (hc:w.cell? ad=some v) (aw:Nat.blt ak n=true) (kk:WL P n ops Q rest ((ak,v) :: e) w):WL P n ops Q (⟨some ak,.load t x,ty,pos,af,none⟩ :: rest) e w:=by
 refine Z9 (v:=v) ?_ aw kk;apply JH<;>assumption
theorem Zbt {b T o:Nat} {cs:List Value} {u:Value} {x:Operand} {t:TypeId} {D:TypeDesc} [hu:Und P t D] (hA:Z0V D=false) (hx:ev e x=some (.pointer (some ⟨b,o,none⟩))) (hb:Blk w b T cs) (hc:cs[o]?=some u) (aw:Nat.blt ak n=true) (kk:WL P n ops Q rest ((ak,u) :: e) w):WL P n ops Q (⟨some ak,.load t x,ty,pos,af,none⟩ :: rest) e w:=by
 refine Z9 (v:=u) ?_ aw kk;apply Jp<;>assumption
theorem Zdm {α:Type} [Z7 α] {X:List Nat} {v:Value} {xs:List α} {t el k:Nat} {x hi:Operand} {r:Nat} {b:Int} [hu:Und P t (.slice el)] [hk:Siz P el k] {dq:World} (hx:ev e x=some v) (hs:SlV X dq v xs) (hb:ev e hi=some (.I b)) (lF:b=(r:Int)) (mr:r<=xs.length) (aw:Nat.blt ak n=true) (kk:WL P n ops Q rest ((ak,(slc v 0 r k)) :: e) w):WL P n ops Q (⟨some ak,.slice t x none (some hi) none,ty,pos,af,none⟩ :: rest) e w:=by
 refine Z9 (v:=(slc v 0 r k)) ?_ aw kk;apply Z1W (α:=α)<;>assumption
theorem Z55 {α:Type} [Z7 α] {X:List Nat} {v:Value} {xs:List α} {t el k:Nat} {x lo:Operand} {l:Nat} {a:Int} [hu:Und P t (.slice el)] [hk:Siz P el k] {dq:World} (hx:ev e x=some v) (hs:SlV X dq v xs) (ha:ev e lo=some (.I a)) (iG:a=(l:Int)) (pp:l<=xs.length) (aw:Nat.blt ak n=true) (kk:WL P n ops Q rest ((ak,(slc v l xs.length k)) :: e) w):WL P n ops Q (⟨some ak,.slice t x (some lo) none none,ty,pos,af,none⟩ :: rest) e w:=by
 refine Z9 (v:=(slc v l xs.length k)) ?_ aw kk;apply Z54 (α:=α)<;>assumption
theorem Z8 {t:TypeId} {l:List (Nat×Operand)} {vs:List (Nat×Value)} {u:Value} (hv:Z0p e l=some vs) (hb:∀ w,(Instr.build t vs.toArray).run P w=.ok u w) (aw:Nat.blt ak n=true) (kk:WL P n ops Q rest ((ak,u) :: e) w):WL P n ops Q (⟨some ak,.build t l.toArray,ty,pos,af,none⟩ :: rest) e w:=by
 refine Z9 (v:=u) ?_ aw kk;apply Z0L<;>assumption
theorem Z2D {t:TypeId} {l:List (Nat×Operand)} {vs:List (Nat×Value)} {u:Value} (aY:ops[bX]?=some ⟨some ak,.build t l.toArray,ty,pos,af,gd⟩) (aZ:Z08 ops e gd) (hv:Z0p e l=some vs) (hb:∀ w,(Instr.build t vs.toArray).run P w=.ok u w) (aw:Nat.blt ak n=true) (kk:WD P n ops S Lt Q ord ((ak,u) :: e) w):WD P n ops S Lt Q ((bX,0) :: ord) e w:=by
 refine JK (v:=u) aY aZ (λw'=>?_) aw kk;apply Z0L<;>assumption
theorem Zmb {x y:Operand} {t u:TypeId} {p q:Value} {c:Prop} [Decidable c] (aY:ops[bX]?=some ⟨some ak,.binOp .eql t x y u,ty,pos,af,gd⟩) (aZ:Z08 ops e gd) (hx:ev e x=some p) (hy:ev e y=some q) (hg:∀ w,(eqGuard .eql t x y p q).run P w=.ok () w) (h:∀ w,(binOp .eql t p q).run P w=.ok (.B (decide c)) w) (aw:Nat.blt ak n=true) (kk:WD P n ops S Lt Q ord ((ak,(.B (decide c))) :: e) w):WD P n ops S Lt Q ((bX,0) :: ord) e w:=by
 refine JK (v:=(.B (decide c))) aY aZ (λw'=>?_) aw kk;apply Zm9<;>assumption
theorem Zmc {x y:Operand} {t u:TypeId} {p q:Value} {c:Prop} [Decidable c] (hx:ev e x=some p) (hy:ev e y=some q) (hg:∀ w,(eqGuard .neq t x y p q).run P w=.ok () w) (h:∀ w,(binOp .neq t p q).run P w=.ok (.B (decide (¬ c))) w) (aw:Nat.blt ak n=true) (kk:WL P n ops Q rest ((ak,(.B (decide (¬ c)))) :: e) w):WL P n ops Q (⟨some ak,.binOp .neq t x y u,ty,pos,af,none⟩ :: rest) e w:=by
 refine Z9 (v:=(.B (decide (¬ c)))) ?_ aw kk;apply ZeI<;>assumption
theorem Zmd {x y:Operand} {t u:TypeId} {p q:Value} {c:Prop} [Decidable c] (aY:ops[bX]?=some ⟨some ak,.binOp .neq t x y u,ty,pos,af,gd⟩) (aZ:Z08 ops e gd) (hx:ev e x=some p) (hy:ev e y=some q) (hg:∀ w,(eqGuard .neq t x y p q).run P w=.ok () w) (h:∀ w,(binOp .neq t p q).run P w=.ok (.B (decide (¬ c))) w) (aw:Nat.blt ak n=true) (kk:WD P n ops S Lt Q ord ((ak,(.B (decide (¬ c)))) :: e) w):WD P n ops S Lt Q ((bX,0) :: ord) e w:=by
 refine JK (v:=(.B (decide (¬ c)))) aY aZ (λw'=>?_) aw kk;apply ZeI<;>assumption
end
section
variable {P:Program} {n:Nat} {Q:Exit->Act->World->Prop} {e:Env} {w:World} {ops:Array Oper} {S:List Nat} {Lt:List Nat} {ord:List (Nat×Nat)} {ak bX:Nat} {ty:TypeId} {pos:String} {af:Array Edge} {gd:Option (Nat×Bool)}
theorem Z0w {b T o:Nat} {cs:List Value} {u:Value} {x:Operand} {t:TypeId} {D:TypeDesc} [hu:Und P t D] (aY:ops[bX]?=some ⟨some ak,.load t x,ty,pos,af,gd⟩) (aZ:Z08 ops e gd) (hA:Z0V D=false) (hx:ev e x=some (.pointer (some ⟨b,o,none⟩))) (hb:Blk w b T cs) (hn:b∉S) (hc:cs[o]?=some u) (aw:Nat.blt ak n=true) (kk:WD P n ops S Lt Q ord ((ak,u) :: e) w):WD P n ops S Lt Q ((bX,1) :: ord) e w:=
 J7 aY aZ (λw' hS=>Jp hA hx (hb.ext hS hn) hc) aw kk
end
abbrev Str:=List UInt8
abbrev str (s:Str):Value:=.string ⟨s.toArray⟩
theorem Zme (a b:Str):((⟨a.toArray⟩:ByteArray).toList == (⟨b.toArray⟩:ByteArray).toList)=decide (a=b):=by
 rw [ByteArray.toList_eq,ByteArray.toList_eq];simp only [YaI]
theorem Z0x (a:Str):(⟨a.toArray⟩:ByteArray).size=a.length:=by simp [ByteArray.size]
theorem Z3C (a:Str) (i j:Nat):(⟨a.toArray⟩:ByteArray).extract i j=⟨((a.take j).drop i).toArray⟩:=by
 apply ByteArray.ext;simp [ByteArray.data_extract,Ybq]
theorem Zdn (a b:Str):(⟨a.toArray⟩++⟨b.toArray⟩:ByteArray)=⟨(a++b).toArray⟩:=by
 apply ByteArray.ext;simp [ByteArray.data_append]
def Jg (a:Str) (i:Nat):Int:=((a.getD i 0).toNat:Int)
theorem byte_at {a:Str} {i:Nat} (h:i<a.length):Jg a i=(a[i].toNat:Int):=by simp [Jg,List.getD,h]
theorem Z7J (a:Str) (i:Nat):0<=Jg a i/\Jg a i<256:=by
 unfold Jg;have:=(a.getD i 0).toNat_lt;omega
instance:Z3 Str where
 k:=1
 enc:=λx=>[str x]
 len:=λ_=>rfl
 one:=by intro x u hu;simp at hu;subst hu;rfl
section rules
variable {P:Program} {n:Nat} {e:Env} {w:World} {d:Option Nat} {ty:TypeId} {pos:String} {af:Array Edge} {g:Option (Nat×Bool)}
theorem Zmf {t u:TypeId} {x y:Operand} {a b:Str} [hu:Und P t .string] (hx:ev e x=some (str a)) (hy:ev e y=some (str b)):PR P n ⟨d,.binOp .eql t x y u,ty,pos,af,g⟩ e w (.B (decide (a=b))):=
 ⟨λc ha=>by simp only [execOp,ha.ev hx,ha.ev hy];simp [go_sem,binOp,Op.stringOp];rw [YaI]⟩
theorem Zmg {t u:TypeId} {x y:Operand} {a b:Str} [hu:Und P t .string] (hx:ev e x=some (str a)) (hy:ev e y=some (str b)):PR P n ⟨d,.binOp .neq t x y u,ty,pos,af,g⟩ e w (.B (decide (¬ a=b))):=
 ⟨λc ha=>by simp only [execOp,ha.ev hx,ha.ev hy];simp [go_sem,binOp,Op.stringOp];by_cases h:a=b<;>simp [h]⟩
theorem Z4l {t u:TypeId} {x y:Operand} {a b:Str} [hu:Und P t .string] (hx:ev e x=some (str a)) (hy:ev e y=some (str b)) (hl:a.length+b.length<=9223372036854775807):PR P n ⟨d,.binOp .add t x y u,ty,pos,af,g⟩ e w (str (a++b)):=
 ⟨λc ha => by
   simp only [execOp,ha.ev hx,ha.ev hy];simp [go_sem,binOp,Op.stringOp,Zdn];omega⟩
theorem Zmh {x:Operand} {t:TypeId} {a:Str} [hu:Und P t .string] (hx:ev e x=some (str a)) :
 PR P n ⟨d,.call { callee:=.builtin .len,args:=#[x],argTypes:=#[t] },ty,pos,af,g⟩ e w (.I (a.length:Int)):=
 ⟨λc ha => by
   have:=run_len_string (P:=P) w t ty ⟨a.toArray⟩ hu.h;simp [execOp,resolve,invoke,builtin,ha.ev hx,this,goInt,Z0x]⟩
theorem Z9j {t:TypeId} {x y:Operand} {a:Str} {z:Int} {i:Nat} [hu:Und P t .string] (hx:ev e x=some (str a)) (hy:ev e y=some (.I z)) (hz:z=(i:Int)) (hi:i<a.length):PR P n ⟨d,.index t x y,ty,pos,af,g⟩ e w (.int .u8 (Jg a i)):=
 ⟨λc ha => by
   subst hz;have h1:(0:Int)<=(i:Int)/\((i:Int)<((⟨a.toArray⟩:ByteArray).size:Int)):=by rw [Z0x];omega
   have:=run_index_string (P:=P) w t ⟨a.toArray⟩ .i64 (i:Int) hu.h;rw [dif_pos h1] at this;simp only [execOp,ha.ev hx,ha.ev hy];simp [this,Jg,List.getD,hi];rfl⟩
theorem Z2Y {t:TypeId} {x lo hi:Operand} {a:Str} {p q:Int} {l r:Nat} [hu:Und P t .string] (hx:ev e x=some (str a)) (h1:ev e lo=some (.I p)) (h2:ev e hi=some (.I q)) (hp:p=(l:Int)) (hq:q=(r:Int)) (px:l<=r) (hr:r<=a.length) :
 PR P n ⟨d,.slice t x (some lo) (some hi) none,ty,pos,af,g⟩ e w (str ((a.take r).drop l)):=
 ⟨λc ha => by
   subst hp;subst hq;have:=run_slice_string (P:=P) w t ⟨a.toArray⟩ .i64 .i64 (l:Int) (r:Int) hu.h (by omega) (by omega) (by rw [Z0x];omega);simp only [execOp,ha.ev hx,ha.ev h1,ha.ev h2,Option.map];simp [Instr.sliceAt,run_underlying hu.h,this,Z3C]⟩
theorem Z6R {t:TypeId} {x lo:Operand} {a:Str} {p:Int} {l:Nat} [hu:Und P t .string] (hx:ev e x=some (str a)) (h1:ev e lo=some (.I p)) (hp:p=(l:Int)) (hl:l<=a.length) :
 PR P n ⟨d,.slice t x (some lo) none none,ty,pos,af,g⟩ e w (str (a.drop l)):=
 ⟨λc ha => by
   subst hp;have:=run_slice_string_l (P:=P) (t:=t) (s:=⟨a.toArray⟩) w hu.h .i64 (l:Int) (by omega) (by rw [Z0x];omega);simp only [execOp,ha.ev hx,ha.ev h1,Option.map];simp [Instr.sliceAt,run_underlying hu.h,this,Z3C,Z0x]⟩
theorem Zbu {t:TypeId} {x hi:Operand} {a:Str} {q:Int} {r:Nat} [hu:Und P t .string] (hx:ev e x=some (str a)) (h2:ev e hi=some (.I q)) (hq:q=(r:Int)) (hr:r<=a.length) :
 PR P n ⟨d,.slice t x none (some hi) none,ty,pos,af,g⟩ e w (str (a.take r)):=
 ⟨λc ha => by
   subst hq;have:=run_slice_string_h (P:=P) (t:=t) (s:=⟨a.toArray⟩) w hu.h .i64 (r:Int) (by omega) (by rw [Z0x];omega);simp only [execOp,ha.ev hx,ha.ev h2,Option.map];simp [Instr.sliceAt,run_underlying hu.h,this,Z3C]⟩
theorem Z3D {x:Operand} {b:Addr} (hx:ev e x=some (.pointer (some b))):PR P n ⟨d,.nilCheck x,ty,pos,af,g⟩ e w (.pointer (some b)):=
 ⟨λa ha=>by simp [execOp,ha.ev hx]⟩
theorem ZiG {t:TypeId} {x:Operand} {p:Prop} {i:Decidable p} (hx:ev e x=some (.B (decide p))):PR P n ⟨d,.unOp .not t x,ty,pos,af,g⟩ e w (.B (decide (¬ p))):=
 ⟨λa ha=>by simp [execOp,ha.ev hx,Op.unary]⟩
theorem Z4m {t el len k:Nat} {x y:Operand} {b o i:Nat} {z:Int} [hu:Und P t (.array len el)] [hk:Siz P el k] (hx:ev e x=some (.pointer (some ⟨b,o,none⟩))) (hy:ev e y=some (.I z)) (hz:z=(i:Int)) (hi:i<len) :
 PR P n ⟨d,.indexAddr t x y,ty,pos,af,g⟩ e w (.pointer (some ⟨b,o+i * k,none⟩)):=
 ⟨λa ha => by
   subst hz;have h0:(0:Int)<=(i:Int)/\(i:Int)<(len:Int):=by omega
   have hr:(Instr.indexAt t (.pointer (some ⟨b,o,none⟩)) (.I (i:Int))).run P w=.ok (.pointer (some ⟨b,o+i * k,none⟩)) w:=by
    simp only [Instr.indexAt,asIntOf];simp [run_underlying hu.h,Instr.sureAddr,Siz.run,Addr.add_lit,hi]
   simp [execOp,ha.ev hx,ha.ev hy,hr]⟩
theorem Z68 {t el len k:Nat} {x:Operand} {b:Nat} [hu:Und P t (.array len el)] [hk:Siz P el k] (hx:ev e x=some (pQ b)) :
 PR P n ⟨d,.slice t x none none none,ty,pos,af,g⟩ e w (.slice (some ⟨b,0,none⟩) len len):=
 ⟨λa ha => by
   have hr:(Instr.sliceAt t (pQ b) none none none).run P w=.ok (.slice (some ⟨b,0,none⟩) len len) w:=by
    simp [Instr.sliceAt,Instr.sureAddr,run_underlying hu.h,Instr.sliceBounds,Siz.run,Addr.add]
   simp [execOp,ha.ev hx,hr]⟩
theorem Zsx {x y:Operand} {ts:Array TypeId} {a b:Int} (hx:ev e x=some (.I a)) (hy:ev e y=some (.I b)) :
 PR P n ⟨d,.call { callee:=.builtin .max,args:=#[x,y],argTypes:=ts },ty,pos,af,g⟩ e w (.I (max a b)):=
 ⟨λc ha => by
   have hm:(if b > a then b else a)=max a b:=by omega
   simp [execOp,resolve,invoke,builtin,ha.ev hx,ha.ev hy,run_max_int2,hm]⟩
theorem Zsy {x y:Operand} {ts:Array TypeId} {a b:Int} (hx:ev e x=some (.I a)) (hy:ev e y=some (.I b)) :
 PR P n ⟨d,.call { callee:=.builtin .min,args:=#[x,y],argTypes:=ts },ty,pos,af,g⟩ e w (.I (min a b)):=
 ⟨λc ha => by
   have hm:(if b<a then b else a)=min a b:=by omega
   simp [execOp,resolve,invoke,builtin,ha.ev hx,ha.ev hy,run_min_int2,hm]⟩
end rules
section
variable {P:Program} {n:Nat} {Q:Exit->Act->World->Prop} {e:Env} {w:World} {ops:Array Oper} {S:List Nat} {Lt:List Nat} {rest:List Oper} {ord:List (Nat×Nat)} {ak bX:Nat} {ty:TypeId} {pos:String} {af:Array Edge} {gd:Option (Nat×Bool)}
theorem Z0A {t u:TypeId} {x y:Operand} {a b:Str} [hu:Und P t .string] (hx:ev e x=some (str a)) (hy:ev e y=some (str b)) (hl:a.length+b.length<=9223372036854775807) (aw:Nat.blt ak n=true) (kk:WL P n ops Q rest ((ak,(str (a++b))) :: e) w):WL P n ops Q (⟨some ak,.binOp .add t x y u,ty,pos,af,none⟩ :: rest) e w:=by
 refine Z9 (v:=(str (a++b))) ?_ aw kk;apply Z4l<;>assumption
theorem J9 {t:TypeId} {x y:Operand} {a:Str} {z:Int} {i:Nat} [hu:Und P t .string] (hx:ev e x=some (str a)) (hy:ev e y=some (.int .i64 z)) (hz:z=(i:Int)) (hi:i<a.length) (aw:Nat.blt ak n=true) (kk:WL P n ops Q rest ((ak,(.int .u8 (Jg a i))) :: e) w):WL P n ops Q (⟨some ak,.index t x y,ty,pos,af,none⟩ :: rest) e w:=by
 refine Z9 (v:=(.int .u8 (Jg a i))) ?_ aw kk;apply Z9j<;>assumption
theorem Z5r {t:TypeId} {x lo hi:Operand} {a:Str} {p q:Int} {l r:Nat} [hu:Und P t .string] (hx:ev e x=some (str a)) (h1:ev e lo=some (.int .i64 p)) (h2:ev e hi=some (.int .i64 q)) (hp:p=(l:Int)) (hq:q=(r:Int)) (px:l<=r) (hr:r<=a.length) (aw:Nat.blt ak n=true) (kk:WL P n ops Q rest ((ak,(str ((a.take r).drop l))) :: e) w):WL P n ops Q (⟨some ak,.slice t x (some lo) (some hi) none,ty,pos,af,none⟩ :: rest) e w:=by
 refine Z9 (v:=(str ((a.take r).drop l))) ?_ aw kk;apply Z2Y<;>assumption
theorem Zbv {t:TypeId} {x lo:Operand} {a:Str} {p:Int} {l:Nat} [hu:Und P t .string] (hx:ev e x=some (str a)) (h1:ev e lo=some (.int .i64 p)) (hp:p=(l:Int)) (hl:l<=a.length) (aw:Nat.blt ak n=true) (kk:WL P n ops Q rest ((ak,(str (a.drop l))) :: e) w):WL P n ops Q (⟨some ak,.slice t x (some lo) none none,ty,pos,af,none⟩ :: rest) e w:=by
 refine Z9 (v:=(str (a.drop l))) ?_ aw kk;apply Z6R<;>assumption
theorem Zbw {t:TypeId} {x lo:Operand} {a:Str} {p:Int} {l:Nat} [hu:Und P t .string] (aY:ops[bX]?=some ⟨some ak,.slice t x (some lo) none none,ty,pos,af,gd⟩) (aZ:Z08 ops e gd) (hx:ev e x=some (str a)) (h1:ev e lo=some (.int .i64 p)) (hp:p=(l:Int)) (hl:l<=a.length) (aw:Nat.blt ak n=true) (kk:WD P n ops S Lt Q ord ((ak,(str (a.drop l))) :: e) w):WD P n ops S Lt Q ((bX,0) :: ord) e w:=by
 refine JK (v:=(str (a.drop l))) aY aZ (λw'=>?_) aw kk;apply Z6R<;>assumption
theorem Z0y {t:TypeId} {x hi:Operand} {a:Str} {q:Int} {r:Nat} [hu:Und P t .string] (hx:ev e x=some (str a)) (h2:ev e hi=some (.int .i64 q)) (hq:q=(r:Int)) (hr:r<=a.length) (aw:Nat.blt ak n=true) (kk:WL P n ops Q rest ((ak,(str (a.take r))) :: e) w):WL P n ops Q (⟨some ak,.slice t x none (some hi) none,ty,pos,af,none⟩ :: rest) e w:=by
 refine Z9 (v:=(str (a.take r))) ?_ aw kk;apply Zbu<;>assumption
theorem Z2Z {t el len k:Nat} {x y:Operand} {b o i:Nat} {z:Int} [hu:Und P t (.array len el)] [hk:Siz P el k] (hx:ev e x=some (.pointer (some ⟨b,o,none⟩))) (hy:ev e y=some (.int .i64 z)) (hz:z=(i:Int)) (hi:i<len) (aw:Nat.blt ak n=true) (kk:WL P n ops Q rest ((ak,(.pointer (some ⟨b,o+i * k,none⟩))) :: e) w):WL P n ops Q (⟨some ak,.indexAddr t x y,ty,pos,af,none⟩ :: rest) e w:=by
 refine Z9 (v:=(.pointer (some ⟨b,o+i * k,none⟩))) ?_ aw kk;apply Z4m<;>assumption
theorem Zmi {t el len k:Nat} {x y:Operand} {b o i:Nat} {z:Int} [hu:Und P t (.array len el)] [hk:Siz P el k] (aY:ops[bX]?=some ⟨some ak,.indexAddr t x y,ty,pos,af,gd⟩) (aZ:Z08 ops e gd) (hx:ev e x=some (.pointer (some ⟨b,o,none⟩))) (hy:ev e y=some (.int .i64 z)) (hz:z=(i:Int)) (hi:i<len) (aw:Nat.blt ak n=true) (kk:WD P n ops S Lt Q ord ((ak,(.pointer (some ⟨b,o+i * k,none⟩))) :: e) w):WD P n ops S Lt Q ((bX,0) :: ord) e w:=by
 refine JK (v:=(.pointer (some ⟨b,o+i * k,none⟩))) aY aZ (λw'=>?_) aw kk;apply Z4m<;>assumption
theorem ZfD {t el len k:Nat} {x:Operand} {b:Nat} [hu:Und P t (.array len el)] [hk:Siz P el k] (hx:ev e x=some (.pointer (some ⟨b,0,none⟩))) (aw:Nat.blt ak n=true) (kk:WL P n ops Q rest ((ak,(.slice (some ⟨b,0,none⟩) len len)) :: e) w):WL P n ops Q (⟨some ak,.slice t x none none none,ty,pos,af,none⟩ :: rest) e w:=by
 refine Z9 (v:=(.slice (some ⟨b,0,none⟩) len len)) ?_ aw kk;apply Z68<;>assumption
structure WO (P:Program) (n:Nat) (ops:Array Oper) (S:List Nat) (Lt:List Nat) (Q:Exit->Act->World->Prop) (o:Oper) (i q:Nat) (ord:List (Nat×Nat)) (e:Env) (w:World):Prop where
 h:ops[i]?=some o->WD P n ops S Lt Q ((i,q) :: ord) e w
theorem Z2E {o:Oper} {i q:Nat} (hi:ops[i]?=some o) (h:WO P n ops S Lt Q o i q ord e w):WD P n ops S Lt Q ((i,q) :: ord) e w:=h.h hi
theorem Z2F {t:TypeId} {l:List (Nat×Operand)} {vs:List (Nat×Value)} {u:Value} (aZ:Z08 ops e gd) (hv:Z0p e l=some vs) (hb:∀ w,(Instr.build t vs.toArray).run P w=.ok u w) (aw:Nat.blt ak n=true) (kk:WD P n ops S Lt Q ord ((ak,u) :: e) w):WO P n ops S Lt Q ⟨some ak,.build t l.toArray,ty,pos,af,gd⟩ bX 0 ord e w:=⟨λaY=>Z2D aY aZ hv hb aw kk⟩
theorem Zmj {x y:Operand} {t u:TypeId} {p q:Value} {c:Prop} [Decidable c] (aZ:Z08 ops e gd) (hx:ev e x=some p) (hy:ev e y=some q) (hg:∀ w,(eqGuard .eql t x y p q).run P w=.ok () w) (h:∀ w,(binOp .eql t p q).run P w=.ok (.bool (decide c)) w) (aw:Nat.blt ak n=true) (kk:WD P n ops S Lt Q ord ((ak,(.bool (decide c))) :: e) w):WO P n ops S Lt Q ⟨some ak,.binOp .eql t x y u,ty,pos,af,gd⟩ bX 0 ord e w:=⟨λaY=>Zmb aY aZ hx hy hg h aw kk⟩
theorem ZeJ {x y:Operand} {t u:TypeId} {p q:Value} {c:Prop} [Decidable c] (aZ:Z08 ops e gd) (hx:ev e x=some p) (hy:ev e y=some q) (hg:∀ w,(eqGuard .neq t x y p q).run P w=.ok () w) (h:∀ w,(binOp .neq t p q).run P w=.ok (.bool (decide (¬ c))) w) (aw:Nat.blt ak n=true) (kk:WD P n ops S Lt Q ord ((ak,(.bool (decide (¬ c)))) :: e) w):WO P n ops S Lt Q ⟨some ak,.binOp .neq t x y u,ty,pos,af,gd⟩ bX 0 ord e w:=⟨λaY=>Zmd aY aZ hx hy hg h aw kk⟩
theorem Z4n {t el len k:Nat} {x y:Operand} {b o i:Nat} {z:Int} [hu:Und P t (.array len el)] [hk:Siz P el k] (aZ:Z08 ops e gd) (hx:ev e x=some (.pointer (some ⟨b,o,none⟩))) (hy:ev e y=some (.int .i64 z)) (hz:z=(i:Int)) (hi:i<len) (aw:Nat.blt ak n=true) (kk:WD P n ops S Lt Q ord ((ak,(.pointer (some ⟨b,o+i * k,none⟩))) :: e) w):WO P n ops S Lt Q ⟨some ak,.indexAddr t x y,ty,pos,af,gd⟩ bX 0 ord e w:=⟨λaY=>Zmi aY aZ hx hy hz hi aw kk⟩
theorem elB {α:Type} [Z3 α] {X:List Nat} {xs:List α} {v u:Value} {i k:Nat} {x:Operand} {t:TypeId} {D:TypeDesc} {d:Option Nat} [hu:Und P t D] [bI:Siz P t k] (hA:Z0V D=true) (hx:ev e x=some (.pointer (some (ZM v i k 0)))) (hs:SlV X w v xs) (hi:i<xs.length) (hk:k=Z3.k α) (h:u=.agg (Z3.enc xs[i]).toArray):PR P n ⟨d,.load t x,ty,pos,af,gd⟩ e w u:=h ▸ Zbp hA hx hs hi hk
theorem exF {α:Type} [Z3 α] {X:List Nat} {w':World} {v:Value} {xs:List α} (h:SlV X w v xs) (hS:Stp S w w') (h1:∀ b∈S,b∈X):SlV X w' v xs:=h.ext hS h1 (λ_ h=>.inl h)
theorem Zbx {t:TypeId} {x:Operand} {d:Option Nat} {v:Value} (h:PR P n ⟨d,.load t x,ty,pos,af,gd⟩ e w v):PR P n ⟨d,.load t x,ty,pos,af,gd⟩ e w v:=h
theorem Zmk {t:TypeId} {x y:Operand} {d:Option Nat} {v:Value} (h:PR P n ⟨d,.indexAddr t x y,ty,pos,af,gd⟩ e w v):PR P n ⟨d,.indexAddr t x y,ty,pos,af,gd⟩ e w v:=h
theorem ZfE {t:TypeId} {x:Operand} {m:Nat} {d:Option Nat} {v:Value} (h:PR P n ⟨d,.fieldAddr t x m,ty,pos,af,gd⟩ e w v):PR P n ⟨d,.fieldAddr t x m,ty,pos,af,gd⟩ e w v:=h
theorem Zml {t:TypeId} {x:Operand} {d:Option Nat} {v:Value} (h:PR P n ⟨d,.call { callee:=.builtin .len,args:=#[x],argTypes:=#[t] },ty,pos,af,gd⟩ e w v):PR P n ⟨d,.call { callee:=.builtin .len,args:=#[x],argTypes:=#[t] },ty,pos,af,gd⟩ e w v:=h
theorem Zx6 {l:List Oper} (h:WL P n ops Q l e w):WL P n ops Q l e w:=h
theorem Zx7 {c:Code} (h:WC P n c Q e w):WC P n c Q e w:=h
theorem Zx8 {x:Exit} (h:WQ n Q x e w):WQ n Q x e w:=h
end
theorem PX {G:Prop} (h:G:=by
 first
  | (apply ZZ;exact rfl)
  | (apply Z65;exact rfl)
  | (apply Z1J;exact rfl)
  | (apply Zmk;first|exact Z2W rfl (by assumption) rfl rfl (by assumption)|exact Z2W rfl (by assumption) rfl rfl (by omega)|exact Z2W rfl (by assumption) rfl (by assumption) (by first|assumption|omega)|exact Z2W (i:=0) rfl (by assumption) rfl rfl (by omega)|exact Z2W (i:=1) rfl (by assumption) rfl rfl (by omega)|exact Z2W (i:=2) rfl (by assumption) rfl rfl (by omega)|exact Z4m (i:=0) rfl rfl rfl (by decide)|exact Z4m (i:=1) rfl rfl rfl (by decide)|exact Z4m (i:=2) rfl rfl rfl (by decide)|exact Z4m rfl rfl rfl (by omega))
  | (apply ZfE;exact Z6P rfl (SlV.isSome (by assumption) (by assumption)))
  | (apply Zml;first|exact Zmh rfl|exact Zm5 rfl (by assumption)|exact ZhB rfl)
  | (apply Zdi;exact rfl;exact rfl)
  | (apply Z3D;exact rfl)
  | (apply Zov;exact rfl;exact rfl)
  | (apply Zhy;exact rfl;exact rfl)
  | (apply ZhA;exact rfl;exact rfl)
  | (apply Zmf;exact rfl;exact rfl)
  | (apply Zmg;exact rfl;exact rfl)
  | (apply Zdh;exact rfl;exact rfl;(unfold I64;omega))
  | (apply Z66;exact rfl;exact rfl;(unfold I64;omega))
  | (apply Zot;exact rfl;exact rfl)
  | (apply Zhz;exact rfl;exact rfl)
  | (apply Zou;exact rfl;exact rfl)
  | (apply Zl7;exact rfl;exact rfl)
  | (apply ZeG;exact rfl;exact rfl)
  | (apply Zop;exact rfl;exact rfl;(unfold I64;omega))
  | (apply ZeF;exact rfl;exact rfl;omega;omega;(unfold I64;omega))
  | (apply ZeE;exact rfl;exact rfl;omega;omega;(unfold I64;omega))
  | (apply Z4l;exact rfl;exact rfl;omega)
  | (apply Zhw;exact rfl)
  | (apply Zhx;exact rfl)
  | (apply ZiG;exact rfl)
  | (apply Zhv;exact rfl)
  | (apply Zoq;exact rfl;(unfold I64;omega))
  | (apply Zfy;exact rfl;exact rfl)
  | (apply Zfz;exact rfl;exact rfl)
  | (apply Zsx;exact rfl;exact rfl)
  | (apply Zsy;exact rfl;exact rfl)
  | (apply Z9j;exact rfl;exact rfl;exact rfl;(first|assumption|omega))
  | apply Zae
  | (apply Zaf;exact rfl)
  | (apply Zag;exact rfl;exact rfl)
  | (apply Zah;exact rfl;exact rfl;exact rfl)):G:=h
structure Z30 (R:Prop):Prop where
 h:R
theorem W1 {G R:Prop} (k:R) (h:Z30 R->G:=by
 intro r
 repeat1' (first
  | (apply Zx6;first
  | apply Z2U
  | (apply Z9;exact PX;exact rfl)
  | (apply Z9;(apply Zbx;first|exact Jp rfl rfl (by assumption) (by rfl)|exact Z1T rfl rfl (by assumption) (by first|assumption|omega) (by rfl) (by rfl)|exact J2 rfl rfl (by assumption) (by rfl)|exact elB rfl rfl (by assumption) (by assumption) (by rfl) rfl);exact rfl)
  | (apply Ztb;exact rfl)
  | (apply Zl3;exact rfl;exact rfl))
  | (apply Zx7;first|apply Z7C|apply Z2C|apply Zhs|apply Z7p|apply Z7D|apply Zl0|(apply Z1I;exact rfl)|(apply Z1n;exact rfl))
  | (apply Zx8;first|apply Z4g|apply Z1r|apply ZB|apply Zw|(apply ZJ;exact rfl)|apply Zaa|apply Jj))
 exact r.h):G:=h ⟨k⟩
theorem W {G R:Prop} (k:R) (h:Z30 R->G:=by
 intro r;first|(refine W1 ?_;exact r.h)|exact r.h):G:=h ⟨k⟩
theorem D1 {G R:Prop} (k:R) (h:Z30 R->G:=by
 intro r
 repeat1' (first
  | apply Zdj
  | (apply JK;exact rfl;(first|exact trivial|exact rfl);(intro w';exact PX);exact rfl)
  | (apply J7;exact rfl;(first|exact trivial|exact rfl);(intro w' hS;apply Zbx;first|exact Jp rfl rfl (Blk.ext (by assumption) hS (by first|assumption|(simp;done)|(simp;omega))) (by rfl)|exact Z1T rfl rfl (exF (by assumption) hS (by first|exact λ_ h=>h|(simp;done))) (by first|assumption|omega) (by rfl) (by rfl)|exact J2 rfl rfl (Blk.ext (by assumption) hS (by first|assumption|(simp;done)|(simp;omega))) (by rfl)|exact elB rfl rfl (exF (by assumption) hS (by first|exact λ_ h=>h|(simp;done))) (by assumption) (by rfl) rfl);exact rfl)
  | (apply Ziw;exact rfl;exact rfl;exact rfl)
  | (apply Zix;exact rfl;exact rfl;exact rfl)
  | (apply ZiC;exact rfl;exact rfl;exact rfl))
 exact r.h):G:=h ⟨k⟩
theorem D {G R:Prop} (k:R) (h:Z30 R->G:=by
 intro r;first|(refine D1 ?_;exact r.h)|exact r.h):G:=h ⟨k⟩
theorem WR {G R:Prop} (k:R) (h:Z30 R->G:=by
 intro r;first|refine Zl4 rfl rfl ?_|refine Zl5 rfl rfl rfl ?_|refine Zl6 rfl rfl rfl rfl ?_|refine Zac rfl ?_|refine Zad rfl ?_
 exact r.h):G:=h ⟨k⟩
theorem VG {G R S:Prop} (k:R) (l:S) (h:Z30 R->Z30 S->G:=by
 intro r s;first|refine Zhu rfl rfl ?_ ?_|refine Zfx rfl rfl ?_ ?_
 exact r.h;exact s.h):G:=h ⟨k⟩ ⟨l⟩
theorem VC {G R S:Prop} (k:R) (l:S) (h:Z30 R->Z30 S->G:=by
 intro r s;first|refine Zab rfl ?_ ?_|refine Zbn rfl ?_ ?_
 exact r.h;exact s.h):G:=h ⟨k⟩ ⟨l⟩
theorem hap {p A:Prop} (r:Z30 (p->A)) (h:p):A:=r.h h
theorem QO {G R:Prop} (k:R) (h:Z30 R->G:=by
 intro r
 repeat1' (first|refine W1 ?_|(refine VG ?_ ?_<;>intro hg;(first|(focus omega)|(rotate_left;focus omega)))|(refine VC ?_ ?_<;>intro hg;(first|(focus omega)|(rotate_left;focus omega))))
 exact r.h):G:=h ⟨k⟩
theorem QP {G R S:Prop} (k:R) (l:S) (h:Z30 R->Z30 S->G:=by
 intro r s;first|refine QO ?_|skip
 first|(refine VG ?_ ?_<;>intro hg)|(refine VC ?_ ?_<;>intro hg)
 first|(refine QO ?_;exact hap r hg)|exact hap r hg
 first|(refine QO ?_;exact hap s hg)|exact hap s hg):G:=h ⟨k⟩ ⟨l⟩
theorem QD {G R:Prop} (k:R) (h:Z30 R->G:=by
 intro r
 repeat1' (first|refine D1 ?_|refine Zy rfl rfl rfl rfl (λhg=>?_) (λhg=>absurd hg (by omega))|refine Zy rfl rfl rfl rfl (λhg=>absurd hg (by omega)) (λhg=>?_)|(refine Zq rfl rfl rfl rfl (λhg=>?_) (λhg=>?_)<;>refine D1 ?_;(first|(focus omega)|(rotate_left;focus omega))))
 exact r.h):G:=h ⟨k⟩
theorem QE {G R S:Prop} (k:R) (l:S) (h:Z30 R->Z30 S->G:=by
 intro r s;first|refine QD ?_|skip
 first|refine Zy rfl rfl rfl rfl (λhg=>?_) (λhg=>?_)|refine Zq rfl rfl rfl rfl (λhg=>?_) (λhg=>?_)
 first|(refine QD ?_;exact hap r (by assumption))|exact hap r (by assumption)
 first|(refine QD ?_;exact hap s (by assumption))|exact hap s (by assumption)):G:=h ⟨k⟩ ⟨l⟩
theorem SA {P:Program} {n:Nat} {Q:Exit->Act->World->Prop} {e:Env} {w:World} {rest:List Oper} {ops:Array Oper} {ty:TypeId} {pos:String} {af:Array Edge} {b T m t:Nat} {cs us:List Value} {x y:Operand} {u:Value} [bI:Siz P t m] (hb:Blk w b T cs) (k:∀ (v:Value) (w':World),Stp [b] w w'/\Blk w' b T us->WL P n ops Q rest e w')
 (hx:ev e x=some (.pointer (some ⟨b,0,none⟩)):=by exact rfl) (hy:ev e y=some u:=by exact rfl) (hu:u.cells.toList=us:=by exact rfl) (hm:us.length=m:=by exact rfl) (h1:∀ c∈us,c.oneCell'=true:=by exact Z3.one _) (hl:us.length=cs.length:=by exact rfl):WL P n ops Q (⟨none,.store t x y,ty,pos,af,none⟩ :: rest) e w:=Z4 (Zb hx hy hu hm h1 hb hl) k
theorem S1 {P:Program} {n:Nat} {Q:Exit->Act->World->Prop} {e:Env} {w:World} {rest:List Oper} {ops:Array Oper} {ty:TypeId} {pos:String} {af:Array Edge} {b T o t:Nat} {cs:List Value} {x y:Operand} {u:Value} [bI:Siz P t 1] (hb:Blk w b T cs) (k:∀ (v:Value) (w':World),Stp [b] w w'/\Blk w' b T (cs.set o u)->WL P n ops Q rest e w')
 (hx:ev e x=some (.pointer (some ⟨b,o,none⟩)):=by exact rfl) (hy:ev e y=some u:=by exact rfl) (hu:u.cells.toList=[u]:=by exact rfl) (h1:u.oneCell'=true:=by exact rfl) (hl:o<cs.length:=by simp):WL P n ops Q (⟨none,.store t x y,ty,pos,af,none⟩ :: rest) e w:=Z4 (Zc hx hy hu h1 hb hl) k
theorem LP {P:Program} {n:Nat} {Q:Exit->Act->World->Prop} {e:Env} {w:World} {c:Code} {σ:Type} (env:σ->Env) (I:σ->World->Prop) (μ:σ->Nat) (eU:σ) (hI:I eU w) (round:∀ s w,I s w->WC P n c (Exit.then (λa' w'=>∃ s',Has n (env s') a'/\I s' w'/\μ s' < μ s) Q) (env s) w) (hs:Sub (env eU) e:=by repeat (first|exact trivial|refine ⟨rfl,?_⟩)):WC P n (.loop c) Q e w:=Zt env I μ eU hs hI round
theorem SB {P:Program} {n:Nat} {Q:Exit->Act->World->Prop} {e:Env} {w:World} {rest:List Oper} {ops:Array Oper} {ty:TypeId} {pos:String} {af:Array Edge} {b T m t:Nat} {cs us:List Value} {x y:Operand} {u:Value} [bI:Siz P t m] (h1:∀ c∈us,c.oneCell'=true) (hb:Blk w b T cs) (k:∀ (v:Value) (w':World),Stp [b] w w'/\Blk w' b T us->WL P n ops Q rest e w')
 (hx:ev e x=some (.pointer (some ⟨b,0,none⟩)):=by exact rfl) (hy:ev e y=some u:=by exact rfl) (hu:u.cells.toList=us:=by exact rfl) (hm:us.length=m:=by exact rfl) (hl:us.length=cs.length:=by exact rfl):WL P n ops Q (⟨none,.store t x y,ty,pos,af,none⟩ :: rest) e w:=Z4 (Zb hx hy hu hm h1 hb hl) k
theorem QL {σ:Type} {n:Nat} {Q:Exit->Act->World->Prop} {e:Env} {w:World} {env:σ->Env} {I:σ->World->Prop} {μ:σ->Nat} {m:Nat} (s:σ) (hI:I s w) (hm:μ s<m) (hs:Sub (env s) e:=by repeat (first|exact trivial|refine ⟨rfl,?_⟩)):WQ n (Exit.then (λa w=>∃ s,Has n (env s) a/\I s w/\μ s<m) Q) .normal e w:=Zx s hs hI hm
theorem QT {σ:Type} {n:Nat} {Q:Exit->Act->World->Prop} {e:Env} {w:World} {env:σ->Env} {I:σ->World->Prop} (s:σ) (hI:I s w) (hs:Sub (env s) e:=by repeat (first|exact trivial|refine ⟨rfl,?_⟩)):WQ n (Exit.then (λa w=>∃ s,Has n (env s) a/\I s w) Q) .normal e w:=ZD s hs hI
theorem RU {G A:Prop} (k:A) (h:Z30 A->G:=by
 intro r;refine WR ?_;exact .mk r.h):G:=h ⟨k⟩
theorem RT {G A:Prop} (k:A) (h:Z30 A->G:=by
 intro r;first|refine QO ?_|skip
 refine WR ?_;exact .mk r.h):G:=h ⟨k⟩
theorem CL {P:Program} {n:Nat} {Q:Exit->Act->World->Prop} {e:Env} {w:World} {rest:List Oper} {f d:Nat} {fn:Func} {xs:Array Operand} {ts:Array TypeId} {vs:Array Value} {G:Value->World->Prop} {c:Operand} {ty:TypeId} {pos:String} {af:Array Edge} {ops:Array Oper} [hf:Fun P f fn] (h:Calls P f vs w (Ret G)) (k:∀ v w',G v w'->WL P n ops Q rest ((d,v) :: e) w') (hc:ev e c=some (.func (.func f) #[] #[]):=by exact rfl) (hv:∀ a,Has n e a->xs.map a.eval=vs:=by first|exact Z67|exact ZP rfl|exact Zg rfl rfl|exact ZY rfl rfl rfl|exact Z7j rfl rfl rfl rfl|exact ZfA rfl rfl rfl rfl rfl) (hd:Nat.blt d n=true:=by exact rfl):WL P n ops Q (⟨some d,.call { callee:=.value c,args:=xs,argTypes:=ts },ty,pos,af,none⟩ :: rest) e w:=Z1 (Z6 hc hv h) hd k
theorem CM {P:Program} {n:Nat} {Q:Exit->Act->World->Prop} {e:Env} {w:World} {rest:List Oper} {f d:Nat} {fn:Func} {xs:Array Operand} {ts:Array TypeId} {vs:Array Value} {G:Value->World->Prop} {c:Operand} {ty:TypeId} {pos:String} {af:Array Edge} {ops:Array Oper} [hf:Fun P f fn] (hv:∀ a,Has n e a->xs.map a.eval=vs) (h:Calls P f vs w (Ret G)) (k:∀ v w',G v w'->WL P n ops Q rest ((d,v) :: e) w') (hc:ev e c=some (.func (.func f) #[] #[]):=by exact rfl) (hd:Nat.blt d n=true:=by exact rfl):WL P n ops Q (⟨some d,.call { callee:=.value c,args:=xs,argTypes:=ts },ty,pos,af,none⟩ :: rest) e w:=Z1 (Z6 hc hv h) hd k
theorem DC {P:Program} {n:Nat} {S Lt:List Nat} {Q:Exit->Act->World->Prop} {e:Env} {w:World} {ord:List (Nat×Nat)} {i f d:Nat} {fn:Func} {gd:Option (Nat×Bool)} {xs:Array Operand} {ts:Array TypeId} {vs:Array Value} {G:Value->World->Prop} {c:Operand} {ty:TypeId} {pos:String} {af:Array Edge} {ops:Array Oper} [hf:Fun P f fn] (h:Calls P f vs w (Ret G)) (hG:∀ v w',G v w'->Stp S w w') (k:∀ v w',G v w'->WD P n ops S Lt Q ord ((d,v) :: e) w') (hi:ops[i]?=some ⟨some d,.call { callee:=.value c,args:=xs,argTypes:=ts },ty,pos,af,gd⟩:=by exact rfl) (hg:Z08 ops e gd:=by first|exact trivial|exact rfl) (hc:ev e c=some (.func (.func f) #[] #[]):=by exact rfl) (hv:∀ a,Has n e a->xs.map a.eval=vs:=by first|exact Z67|exact ZP rfl|exact Zg rfl rfl|exact ZY rfl rfl rfl|exact Z7j rfl rfl rfl rfl|exact ZfA rfl rfl rfl rfl rfl) (hd:Nat.blt d n=true:=by exact rfl):WD P n ops S Lt Q ((i,2) :: ord) e w:=Za hi hg (Z6 hc hv h) hG hd k
inductive Nd where
 | mk (kind n:Int) (s:Str) (kids:List Nd)
namespace Nd
def kind:Nd->Int|mk k _ _ _=>k
def num:Nd->Int|mk _ n _ _=>n
def word:Nd->Str|mk _ _ s _=>s
def kids:Nd->List Nd|mk _ _ _ l=>l
theorem eta (x:Nd):x=mk x.kind x.num x.word x.kids:=by cases x;rfl
theorem ind {P:Nd->Prop} (h:∀ k n s l,(∀ x∈l,P x)->P (mk k n s l)):∀ x,P x
 | mk k n s l=>h k n s l (λx hx=>ind h x)
 decreasing_by
  have:=List.sizeOf_lt_of_mem hx;simp only [mk.sizeOf_spec];omega
end Nd
inductive Z4H (X:List Nat) (w:World):Nd->List Value->Prop
 | mk (k n : Int) (s : Str) (l : List Nd) (p : Option Addr) (c : Nat) (b o : Nat) (css : Nat -> List Value) (hl : l.length <= c) (hm : c <= maxLen) (hn : p = none -> c = 0)
    (hp:0<l.length->p=some ⟨b,o,none⟩/\b<w.heap.size/\b∉X) (hr:∀ i (h:i<l.length),Z4H X w l[i] (css i))
    (hc:∀ i,i<l.length->∀ j u,(css i)[j]?=some u->w.cell? ⟨b,o+i * 4+j,none⟩=some u) :
    Z4H X w (.mk k n s l) [.I k,.I n,str s,.slice p l.length c]
theorem Z4H.ext {X S X':List Nat} {w w':World} {x:Nd} {cs:List Value} (h:Z4H X w x cs) (hS:Stp S w w') (h1:∀ b∈S,b∈X) (h2:∀ b∈X',b∈X\/w.heap.size<=b):Z4H X' w' x cs:=by
 induction h with
 | mk k n s l p c b o css hl hm hn hp hr hc ih=>
   refine .mk k n s l p c b o css hl hm hn (λh0=>?_) ih (λi hi j u hu=>?_);obtain ⟨e1,e2,e3⟩:=hp h0;refine ⟨e1,Xa e2 hS.size,λhb=>?_⟩;rcases h2 b hb with h|h
   exact e3 h;omega;obtain ⟨_,_,e3⟩:=hp (by omega);exact hS.cell (λhb=>e3 (h1 b hb)) (hc i hi j u hu)
instance:Z7 Nd where
 k:=4
 rep:=Z4H
 len:=by intro X w x cs h;cases h;rfl
 one:=by
  intro X w x cs h u hu;cases h;simp at hu;rcases hu with rfl|rfl|rfl|rfl<;>rfl
 ext:=Z4H.ext
def NdV (X:List Nat) (w:World) (v:Value) (x:Nd):Prop:=∃ kv,v=.agg #[.I x.kind,.I x.num,str x.word,kv]/\SlV X w kv x.kids
theorem ZiH {X:List Nat} {w} {x:Nd} {cs:List Value} (h:Z4H X w x cs):∃ kv,cs=[.I x.kind,.I x.num,str x.word,kv]/\SlV X w kv x.kids:=by
 cases h with
 | mk k n s l p c b o css hl hm hn hp hr hc=>
   refine ⟨_,rfl,p,c,rfl,hl,hm,hn,λi hi=>?_⟩;obtain ⟨e1,e2,e3⟩:=hp (by show 0<l.length;have:i<l.length:=hi;omega);exact ⟨b,o,css i,e1,e2,e3,hr i hi,hc i hi⟩
theorem Z2G {X:List Nat} {w} {k n:Int} {s:Str} {l:List Nd} {kv:Value} (h:SlV X w kv l):Z4H X w (.mk k n s l) [.I k,.I n,str s,kv]:=by
 obtain ⟨p,c,rfl,hl,hm,hn,hc⟩:=h;have aB:∀ i:Fin l.length,∃ cs:List Value,∃ b o,p=some ⟨b,o,none⟩/\b<w.heap.size/\b∉X/\Z4H X w l[i] cs/\∀ j u,cs[j]?=some u->w.cell? ⟨b,o+i * 4+j,none⟩=some u:=by
  intro i;obtain ⟨b,o,cs,h1,h2,h3,h4,h5⟩:=hc i i.2;exact ⟨cs,b,o,h1,h2,h3,h4,h5⟩
 obtain ⟨f,hf⟩:=Classical.axiomOfChoice aB;by_cases h0:0<l.length;obtain ⟨b,o,e1,e2,e3,_⟩:=hf ⟨0,h0⟩;refine .mk k n s l p c b o (λi=>if h:i<l.length then f ⟨i,h⟩ else []) hl hm hn (λ_=>⟨e1,e2,e3⟩) (λi hi=>?_) (λi hi j u hu=>?_);obtain ⟨_,_,_,_,_,g,_⟩:=hf ⟨i,hi⟩;simpa [hi] using g;obtain ⟨b',o',g1,_,_,_,g⟩:=hf ⟨i,hi⟩;rw [e1] at g1;simp only [XI,Addr.mk.injEq] at g1;obtain ⟨rfl,rfl,_⟩:=g1;exact g j u (by simpa [hi] using hu);exact .mk k n s l p c 0 0 (λ_=>[]) hl hm hn (λh=>absurd h h0) (λi hi=>by omega) (λi hi=>by omega)
theorem NdV.up {X:List Nat} {w w':World} {v:Value} {x:Nd} (h:NdV X w v x) (hS:Stp [] w w'):NdV X w' v x:=by
 obtain ⟨kv,rfl,hs⟩:=h;exact ⟨kv,rfl,hs.up hS⟩
theorem SlV.nd {X:List Nat} {w} {v:Value} {l:List Nd} {i:Nat} (h:SlV X w v l) (hi:i<l.length):∃ kv,SlV X w kv l[i].kids/\∀ j u,[Value.int .i64 l[i].kind,.I l[i].num,str l[i].word,kv][j]?=some u->w.cell? (ZM v i 4 j)=some u:=by
 obtain ⟨cs,hr,hc⟩:=h.cell hi;obtain ⟨kv,rfl,hs⟩:=ZiH hr;exact ⟨kv,hs,hc⟩
section
variable {P:Program} {n:Nat} {e:Env} {w:World} {d:Option Nat} {ty:TypeId} {pos:String} {af:Array Edge} {g:Option (Nat×Bool)}
theorem JF {X:List Nat} {v:Value} {l:List Nd} {i:Nat} {kv:Value} {x:Operand} {t:TypeId} {D:TypeDesc} [hu:Und P t D] (hA:Z0V D=true) [bI:Siz P t 4] (hx:ev e x=some (.pointer (some (ZM v i 4 0)))) (hs:SlV X w v l) (hi:i<l.length)
 (hc:∀ j u,[Value.int .i64 l[i].kind,.I l[i].num,str l[i].word,kv][j]?=some u->w.cell? (ZM v i 4 j)=some u) :
 PR P n ⟨d,.load t x,ty,pos,af,g⟩ e w (.agg #[.I l[i].kind,.I l[i].num,str l[i].word,kv]):=by
 obtain ⟨p,l',c,rfl⟩:=hs.isSome hi;refine Z3B (cs:=[.I l[i].kind,.I l[i].num,str l[i].word,kv]) hA hx rfl (λj u hu=>?_);have:=hc j u hu;simpa [ZM] using this
end
end Go.Eng
namespace Go.Proofs.YtipfkbkkndacjaaGreatDoor
open Go Go.Eng Go.RowKit
abbrev ndC (x:Nd) (kv:Value):List Value:=[.I x.kind,.I x.num,str x.word,kv]
theorem Zi {X:List Nat} {w} {x:Nd} {kv:Value} {l:List Nd} (h:SlV X w kv l):∀ c∈ndC x kv,c.oneCell'=true:=by
 intro c hc;simp only [ndC,Xb,Xj,or_false] at hc;rcases hc with rfl|rfl|rfl|rfl
 rfl;rfl;rfl;exact h.one
def Z19:Nat->Nd->Bool
 | 0,_=>false
 | m+1,x=>x.kids.all (Z19 m)
theorem Z91 {α:Type} (p:α->Bool) (l:List α) (k:Nat) (hk:k<l.length):(l.take (k+1)).all p=((l.take k).all p && p l[k]):=by
 rw [Xh hk,YbG];simp
theorem Zdo (m:Nat):∀ (X:List Nat) (v:Value) (x:Nd) (z:Int) (w),z=(m:Int)->m<=1000->NdV X w v x->
 CC 229 #[v,.I z] w λr w'=>r=.B (Z19 m x)/\Stp [] w w':=by
 induction m with
 | zero=>
   intro X v x z w hz hm hx;obtain ⟨kv,rfl,hs⟩:=hx;refine cW2 22 Tryz.func229 ?_;refine W ?_;refine Z1 (Zp rfl) rfl ?_;rintro _ w1 ⟨b,rfl,hb,ac,hS⟩;refine RT ?_;exact ⟨rfl,hS⟩
 | succ m ih=>
   intro X v x z w hz hm hx;obtain ⟨kv,rfl,hs⟩:=hx;have aT:=hs.max;refine cW2 22 Tryz.func229 ?_;refine W ?_;refine Z1 (Zp rfl) rfl ?_;rintro _ w1 ⟨b,rfl,hb,ac,hS⟩;replace ac:Blk w1 b _ (ndC x kv):=ac;replace hs:=hs.up hS;refine QO ?_;have ba:=hs;refine LP (σ:=Nat) (λk=>[(1,.I z),(10,kv),(11,.I (x.kids.length:Int)),(12,.I k)]) (λk w'=>k<=x.kids.length/\Stp [] w1 w'/\(x.kids.take k).all (Z19 m)=true) (λk=>x.kids.length - k) 0 ⟨Xq _,Stp.refl _ _,rfl⟩ ?_;clear hs;rintro k w2 ⟨hk,ah,aB⟩;have hs:=ba.up ah;by_cases ag:k<x.kids.length
   . have di:=Z91 (Z19 m) x.kids k ag
     rw [aB,Bool.true_and] at di;obtain ⟨kv2,bu,ce⟩:=hs.nd ag;refine QO ?_;apply Z9 (JF rfl rfl hs ag ce) rfl;refine Z1 Z2 rfl ?_;rintro _ w3 ⟨b3,rfl,dV,aK,am⟩;refine SB (us:=ndC x.kids[k] kv2) (Zi bu) aK ?_;rintro _ w4 ⟨aI,bA⟩;have ie:=am.ow aI;replace ah:=ah.trans ie;replace bu:=bu.up ie;refine W ?_;refine Z1 (Z6 rfl (Zg rfl rfl) (ih X _ x.kids[k] _ _ (by omega) (by omega) ⟨kv2,rfl,bu⟩)) rfl ?_;rintro _ w5 ⟨rfl,aD⟩;replace ah:=ah.trans aD;cases hq:Z19 m x.kids[k] with
     | true=>
       refine W ?_;exact QL (k+1) ⟨ag,ah,by rw [di,hq]⟩ (by omega)
     | false=>
       refine W ?_;refine WR ?_;refine .mk ⟨?_,hS.trans ah⟩;have:Z19 (m+1) x=false:=by
        show x.kids.all (Z19 m)=false;rw [List.all_eq_false];exact ⟨_,Xd ag,by simp [hq]⟩
       rw [this]
   have eA:k=x.kids.length:=by omega
   subst eA;rw [Xo] at aB;refine QO ?_;refine WR ?_;refine .mk ⟨?_,hS.trans ah⟩;show _=Value.bool (x.kids.all (Z19 m));rw [aB]
end Go.Proofs.YtipfkbkkndacjaaGreatDoor
namespace Go.Eng
open Go Go.RowKit Go.Proofs
class Zby (P:Program) (kt:Nat) (κ:outParam Type) [DecidableEq κ] where
 enc:κ->Value
 chk:∀ (em:Bool) (a:κ) (w:World),(Instr.checkKey em 10000 kt (enc a)).run P w=.ok () w
 find:∀ (a:κ) (es:List MapEntry) (l:List κ) (w:World),es.map (·.key)=l.map enc->
  (Instr.findKey kt (enc a) es).run P w=.ok ((l.findIdx? (λb=>decide (b=a))).bind λi=>(es[i]?).map λe=>(i,e.val)) w
def JL {κ:Type} (enc:κ->Value) (w:World) (r:Nat) (l:List (κ×Value)):Prop:=
 ∃ (es:Array MapEntry) (clock:Nat),w.heap[r]?=some (.map es clock)/\es.toList.map (·.key)=l.map (λp=>enc p.1)/\es.toList.map (·.val)=l.map (·.2)
theorem JL.lt {κ:Type} {enc:κ->Value} {w} {r:Nat} {l:List (κ×Value)} (h:JL enc w r l):r<w.heap.size:=by
 obtain ⟨es,c,h1,_⟩:=h;exact (Xm.1 h1).1
theorem JL.ext {κ:Type} {enc:κ->Value} {S:List Nat} {w w':World} {r:Nat} {l:List (κ×Value)} (h:JL enc w r l) (hS:Stp S w w') (hr:r∉S):JL enc w' r l:=by
 have ag:=h.lt;obtain ⟨es,c,h1,h2⟩:=h;exact ⟨es,c,by rw [hS.block r ag hr];exact h1,h2⟩
theorem JL.up {κ:Type} {enc:κ->Value} {w w':World} {r:Nat} {l:List (κ×Value)} (h:JL enc w r l) (hS:Stp [] w w'):JL enc w' r l:=h.ext hS (by simp)
def Z3E {κ:Type} [DecidableEq κ] (l:List (κ×Value)) (a:κ) (z:Value):Value:=match l.find? (λp=>decide (p.1=a)) with|some p=>p.2|none=>z
theorem Z56 {d:TypeDesc} {κ:Type} [DecidableEq κ] (enc:κ->Value) (h:∀ a b:κ,Instr.sameNow d (enc a) (enc b)=some (decide (a=b))) (a:κ):∀ (es:List MapEntry) (l:List κ) (i:Nat),es.map (·.key)=l.map enc->
 Instr.findNow d (enc a) es i=some ((l.findIdx? (λb=>decide (b=a))).bind λj=>(es[j]?).map λe=>(i+j,e.val))
 | [],[],i,_=>by simp [Instr.findNow]
 | [],_ :: _,i,h=>by simp at h
 | _ :: _,[],i,h=>by simp at h
 | e :: es, b :: l, i, hk => by
   simp only [Xs,Ya4] at hk;obtain ⟨h1,h2⟩:=hk;have ih:=Z56 enc h a es l (i+1) h2;simp only [Instr.findNow,h1,h];by_cases cP:a=b;subst cP;simp [Ya6]
   . have pA:¬ b=a:=λh=>cP h.symm
     simp only [decide_eq_false cP,ih,Ya6,decide_eq_false pA,XO,if_false];cases l.findIdx? (λb=>decide (b=a)) with
     | none=>rfl
     | some j=>
       simp only [XS,Ya5,YaN];rw [show i+1+j=i+(j+1) by omega]
theorem Z2w {P:Program} {kt:Nat} {κ:Type} [DecidableEq κ] (enc:κ->Value) (h:∀ (a b:κ) (w),(Op.equal kt (enc a) (enc b)).run P w=.ok (decide (a=b)) w) (a:κ) (w):∀ (es:List MapEntry) (l:List κ) (i:Nat),es.map (·.key)=l.map enc->
 (Instr.findAsking kt (enc a) es i).run P w=.ok ((l.findIdx? (λb=>decide (b=a))).bind λj=>(es[j]?).map λe=>(i+j,e.val)) w
 | [],[],i,_=>by simp [Instr.findAsking]
 | [],_ :: _,i,h=>by simp at h
 | _ :: _,[],i,h=>by simp at h
 | e :: es, b :: l, i, hk => by
   simp only [Xs,Ya4] at hk;obtain ⟨h1,h2⟩:=hk;have ih:=Z2w enc h a w es l (i+1) h2;simp only [Instr.findAsking,h1];by_cases cP:a=b;subst cP;simp [Ya6,h]
   . have pA:¬ b=a:=λh=>cP h.symm
     simp only [Sem.run_bind,h,decide_eq_false cP,Result.andThen,Ya6,decide_eq_false pA,XO,if_false,ih];cases l.findIdx? (λb=>decide (b=a)) with
     | none=>rfl
     | some j=>
       simp only [XS,Ya5,YaN];rw [show i+1+j=i+(j+1) by omega]
instance {P:Program} {kt:Nat} [hu:Und P kt (.int .i64)]:Zby P kt Int where
 enc:=λz=>.I z
 chk:=λem a w=>MapKept.run_checkKey (k:=.I a) hu.h (by simp [MapKept.IsKey]) em 9999
 find:=λa es l w hk=>by
  have:=Z56 (d:=.int .i64) (λz:Int=>Value.int .i64 z) (λa b=>by simp [Instr.sameNow,YaI]) a es l 0 hk;simpa using MapKept.run_findKey (w:=w) hu.h this
instance ZnZ {P:Program} {kt:Nat} [hu:Und P kt .string]:Zby P kt Str where
 enc:=str
 chk:=λem a w=>MapKept.run_checkKey (k:=str a) hu.h (by simp [MapKept.IsKey]) em 9999
 find:=λa es l w hk=>by
  have:=Z56 (d:=.string) str (λa b=>by
   simp only [Instr.sameNow,XI];rw [beq_toListBytes,Zme]) a es l 0 hk
  simpa using MapKept.run_findKey (w:=w) hu.h this
section
variable {P:Program} {n:Nat} {e:Env} {w:World} {d:Option Nat} {ty:TypeId} {pos:String} {af:Array Edge} {g:Option (Nat×Bool)}
theorem Z0X {t:TypeId} {κ:Type} (enc:κ->Value):OE P n ⟨d,.makeMap t none,ty,pos,af,g⟩ e w (λv w'=>∃ r,v=.map (some r)/\w.heap.size<=r/\JL enc w' r []/\Stp [] w w'):=
 Jd (v:=.map (some w.heap.size)) (w':=w.alloc (.map #[] 0)) (λa ha=>by
  simp [execOp,run_makeMap]) ⟨_,rfl,Xn _,⟨#[],0,heap_alloc_new w _,rfl,rfl⟩,Stp.alloc _ _ _⟩
theorem Zdp {κ:Type} [DecidableEq κ] {l:List κ} {a:κ} (h:∀ b∈l,¬ b=a):l.findIdx? (λb=>decide (b=a))=none:=by
 rw [Yab];intro b hb;simp [h b hb]
theorem Z7K {mt kt et r:Nat} {κ:Type} [DecidableEq κ] [hm:Und P mt (.map kt et)] [K:Zby P kt κ] {l:List (κ×Value)} {a:κ} {v:Value} (hr:JL K.enc w r l) (hn:∀ p∈l,¬ p.1=a) :
 ∃ w',(Instr.mapUpdate mt (.map (some r)) (K.enc a) v).run P w=.ok () w'/\JL K.enc w' r (l++[(a,v)])/\Stp [r] w w':=by
 obtain ⟨es,clock,h1,h2,h3⟩:=hr;have hf:(Instr.findKey kt (K.enc a) es.toList).run P w=.ok none w:=by
  have hk:es.toList.map (·.key)=(l.map (·.1)).map K.enc:=by rw [h2,YbE];rfl
  rw [K.find a es.toList (l.map (·.1)) w hk,Zdp (by simpa using hn)];rfl
 have ag:r<w.heap.size:=(Xm.1 h1).1;refine ⟨{ w with heap:=w.heap.setIfInBounds r (.map (es.push { key:=K.enc a,val:=v,born:=clock }) (clock+1)) },?_,?_,?_⟩;simp [Instr.mapUpdate,run_underlying hm.h,MapKept.run_getObj_map h1,K.chk,hf,MapKept.run_setObj_map _ h1,Result.andThen];refine ⟨es.push { key:=K.enc a,val:=v,born:=clock },clock+1,by simp [ag],?_,?_⟩;simp [h2];simp [h3];refine ⟨rfl,rfl,rfl,by simp,λb hb hn=>?_⟩;simp only [Xk] at hn;simp [YaL (λh=>hn h.symm)]
theorem Zu {mt kt et r:Nat} {κ:Type} [DecidableEq κ] {x y z:Operand} [hm:Und P mt (.map kt et)] [K:Zby P kt κ] {l:List (κ×Value)} {a:κ} {v:Value} (hx:ev e x=some (.map (some r))) (hy:ev e y=some (K.enc a)) (hz:ev e z=some v) (hr:JL K.enc w r l) (hn:∀ p∈l,¬ p.1=a) :
 OE P n ⟨d,.insert mt x y z,ty,pos,af,g⟩ e w (λ_ w'=>JL K.enc w' r (l++[(a,v)])/\Stp [r] w w'):=by
 obtain ⟨w',h1,h2,h3⟩:=Z7K (mt:=mt) (v:=v) hr hn;exact Z4h (w':=w') (λc hc=>by simp [execOp,hc.ev hx,hc.ev hy,hc.ev hz,h1]) ⟨h2,h3⟩
theorem Z1P {mt kt et r:Nat} {κ:Type} [DecidableEq κ] {x y z:Operand} [hm:Und P mt (.map kt et)] [K:Zby P kt κ] {l:List (κ×Value)} {a:κ} {v:Value} (hx:ev e x=some (.map (some r))) (hy:ev e y=some (K.enc a)) (hz:ev e z=some v) (hr:JL K.enc w r l) (hn:∀ p∈l,¬ p.1=a) :
 OE P n ⟨d,.mapUpdate mt x y z,ty,pos,af,g⟩ e w (λ_ w'=>JL K.enc w' r (l++[(a,v)])/\Stp [r] w w'):=by
 obtain ⟨w',h1,h2,h3⟩:=Z7K (mt:=mt) (v:=v) hr hn;exact Z4h (w':=w') (λc hc=>by simp [execOp,hc.ev hx,hc.ev hy,hc.ev hz,h1]) ⟨h2,h3⟩
theorem Z1Q {mt kt et r:Nat} {κ:Type} [DecidableEq κ] {x y:Operand} {z:Value} [hm:Und P mt (.map kt et)] [K:Zby P kt κ] [hz:Zer P et z] {l:List (κ×Value)} {a:κ} (hx:ev e x=some (.map (some r))) (hy:ev e y=some (K.enc a)) (hr:JL K.enc w r l) :
 PR P n ⟨d,.lookup mt x y false,ty,pos,af,g⟩ e w (Z3E l a z):=by
 refine ⟨λc hc=>?_⟩;obtain ⟨es,clock,h1,h2,h3⟩:=hr;have hk:es.toList.map (·.key)=(l.map (·.1)).map K.enc:=by rw [h2,YbE];rfl
 have hf:=K.find a es.toList (l.map (·.1)) w hk;have ai:es.toList.length=l.length:=by have:=congrArg List.length h3;simpa using this
 have hv:∀ i:Nat,(es.toList[i]?).map (λx:MapEntry=>x.val)=(l[i]?).map (λx:κ×Value=>x.2):=λi=>by
  have:=congrArg (λx=>x[i]?) h3;simpa using this
 have mu:Z3E l a z=match (l.map (·.1)).findIdx? (λb=>decide (b=a)) with|some i=>((es.toList[i]?).map (λx:MapEntry=>x.val)).getD z|none=>z:=by
  unfold Z3E;rw [List.findIdx?_map];cases hi:l.findIdx? ((λb=>decide (b=a)) ∘ λx=>x.1) with
  | none=>
    have:l.find? (λp=>decide (p.1=a))=none:=by
     rw [Yaq];intro p hp;have:=(Yab.1 hi) p hp;simpa using this
    rw [this]
  | some i=>
    obtain ⟨ag,hp,hb⟩:=X7.1 hi;have:l.find? (λp=>decide (p.1=a))=some l[i]:=by
     rw [Yar];exact ⟨by simpa using hp,i,ag,rfl,λj hj=>by simpa using hb j hj⟩
    rw [this];simp only [hv,XU ag,Ya5,YaD]
 rw [mu];simp only [execOp,hc.ev hx,hc.ev hy];cases hi:(l.map (·.1)).findIdx? (λb=>decide (b=a)) with
 | none=>
   rw [hi] at hf;simp [Instr.lookup,run_underlying hm.h,MapKept.run_getObj_map h1,K.chk,hf,Result.andThen,Zer.run]
 | some i=>
   obtain ⟨ag,_⟩:=X7.1 hi;have eB:i<es.toList.length:=by rw [ai];simpa using ag
   rw [hi] at hf;simp only [XS,XU eB,Ya5] at hf;simp [Instr.lookup,run_underlying hm.h,MapKept.run_getObj_map h1,K.chk,hf,Result.andThen,XU eB]
end
end Go.Eng
namespace Go.Proofs.YtipfkbkkndacjaaGreatDoor
open Go Go.Eng Go.RowKit
def idx {α:Type} (p:α->Bool) (xs:List α):Int:=match xs.findIdx? p with|some i=>(i:Int)|none=>-1
theorem Z69 {α:Type} {p:α->Bool} {xs:List α} {k:Nat} (hk:k<xs.length) (hp:p xs[k]=true) (hb:∀ j (h:j<xs.length),j<k->p xs[j]=false):idx p xs=k:=by
 have:xs.findIdx? p=some k:=X7.2 ⟨hk,hp,λj hj=>by simp [hb j (by omega) hj]⟩;simp [idx,this]
theorem Z3F {α:Type} {p:α->Bool} {xs:List α} (hb:∀ j (h:j<xs.length),p xs[j]=false):idx p xs=-1:=by
 have:xs.findIdx? p=none:=by
  rw [Yab];intro x hx;obtain ⟨j,hj,rfl⟩:=Xr hx;simp [hb j hj]
 simp [idx,this]
abbrev isS (a:Str):Str->Bool:=λx=>decide (x=a)
theorem Z9k (X:List Nat) (v:Value) (l:List Str) (a:Str) (w) (hs:SlV X w v l):CC 282 #[v,str a] w λr w'=>r=.I (idx (isS a) l)/\Stp [] w w':=by
 have aT:=hs.max;refine cW2 19 Tryz.func282 ?_;refine W ?_;refine LP (σ:=Nat) (λk=>[(0,v),(1,str a),(8,.I k),(7,.I (l.length:Int))]) (λk w'=>k<=l.length/\Stp [] w w'/\∀ j (h:j<l.length),j<k->isS a l[j]=false) (λk=>l.length - k) 0 ⟨Xq _,Stp.refl _ _,λj _ h=>absurd h (Xu _)⟩ ?_;have ba:=hs;clear hs;rintro k w1 ⟨hk,hS,bg⟩;have hs:=ba.up hS;by_cases ag:k<l.length
 (refine QP ?_ ?_<;>intro hc)
 refine WR ?_;have iS:isS a l[k]=true:=by simpa [isS,eq_comm] using hc
 exact .mk ⟨by rw [Z69 ag iS bg],hS⟩;refine QL (k+1) ⟨ag,hS,λj h hj=>?_⟩ (by omega);by_cases e:j=k;subst e;simpa [isS,eq_comm] using hc;exact bg j h (by omega);have eA:k=l.length:=by omega
 subst eA;refine RT ?_;exact ⟨by rw [Z3F (λj h=>bg j h h)],hS⟩
theorem Z0d (X:List Nat) (v:Value) (l:List Str) (a:Str) (w) (hs:SlV X w v l):CC 182 #[v,str a] w λr w'=>r=.I (idx (isS a) l)/\Stp [] w w':=by
 have aT:=hs.max;refine cW2 19 Tryz.func182 ?_;refine W ?_;refine LP (σ:=Nat) (λk=>[(0,v),(1,str a),(5,.I k)]) (λk w'=>k<=l.length/\Stp [] w w'/\∀ j (h:j<l.length),j<k->isS a l[j]=false) (λk=>l.length - k) 0 ⟨Xq _,Stp.refl _ _,λj _ h=>absurd h (Xu _)⟩ ?_;have ba:=hs;clear hs;rintro k w1 ⟨hk,hS,bg⟩;have hs:=ba.up hS;by_cases ag:k<l.length
 (refine QP ?_ ?_<;>intro hc)
 refine WR ?_;have iS:isS a l[k]=true:=by simpa [isS,eq_comm] using hc
 exact .mk ⟨by rw [Z69 ag iS bg],hS⟩;refine QL (k+1) ⟨ag,hS,λj h hj=>?_⟩ (by omega);by_cases e:j=k;subst e;simpa [isS,eq_comm] using hc;exact bg j h (by omega);have eA:k=l.length:=by omega
 subst eA;refine RT ?_;exact ⟨by rw [Z3F (λj h=>bg j h h)],hS⟩
theorem Z3G (X:List Nat) (v:Value) (l:List Str) (a:Str) (w) (hs:SlV X w v l):CC 248 #[v,str a] w λr w'=>r=.I (idx (isS a) l)/\Stp [] w w':=by
 have aT:=hs.max;refine cW2 19 Tryz.func248 ?_;refine W ?_;refine LP (σ:=Nat) (λk=>[(0,v),(1,str a),(5,.I k)]) (λk w'=>k<=l.length/\Stp [] w w'/\∀ j (h:j<l.length),j<k->isS a l[j]=false) (λk=>l.length - k) 0 ⟨Xq _,Stp.refl _ _,λj _ h=>absurd h (Xu _)⟩ ?_;have ba:=hs;clear hs;rintro k w1 ⟨hk,hS,bg⟩;have hs:=ba.up hS;by_cases ag:k<l.length
 (refine QP ?_ ?_<;>intro hc)
 refine WR ?_;have iS:isS a l[k]=true:=by simpa [isS,eq_comm] using hc
 exact .mk ⟨by rw [Z69 ag iS bg],hS⟩;refine QL (k+1) ⟨ag,hS,λj h hj=>?_⟩ (by omega);by_cases e:j=k;subst e;simpa [isS,eq_comm] using hc;exact bg j h (by omega);have eA:k=l.length:=by omega
 subst eA;refine RT ?_;exact ⟨by rw [Z3F (λj h=>bg j h h)],hS⟩
def Zf:List Str:=[[100,97,121],[115,101,114,118,101,100],[101,120,116,114,97],[98,121],[116,111],[99,111,117,114,116],[97,109,111,117,110,116]]
abbrev Z2x:Value:=.slice (some ⟨0,0,none⟩) 7 7
def ZR (a:Str):Int×Int×Bool:=
 let i:=idx (isS a) Zf
 if i<0 then (0,0,false) else if i<=1 then (i,3,true) else (i,1,true)
abbrev ZvP (x:Int×Int×Bool):Value:=.tuple #[.I x.1,.I x.2.1,.B x.2.2]
theorem Z9l (a:Str) (w) (hF:SlV [] w Z2x Zf):CC 231 #[str a] w λr w'=>r=ZvP (ZR a)/\Stp [] w w':=by
 refine cW1 17 Tryz.func231 ?_;refine W ?_;apply Z9 (Z68 rfl) rfl;refine W ?_;refine CL (Z9k [] _ _ a _ hF) ?_;rintro _ w1 ⟨rfl,hS⟩;unfold ZR;generalize idx (isS a) Zf=i;repeat'(first|refine W1 ?_|refine VG ?_ ?_<;>intro hg|refine VC ?_ ?_<;>intro hc)
 all_goals (refine WR ?_)
 exact .mk ⟨by simp only [if_pos hc],hS⟩;rename_i h1;exact .mk ⟨by simp only [if_neg h1,if_pos hc],hS⟩;rename_i h1;exact .mk ⟨by simp only [if_neg h1,if_neg hc],hS⟩
def wst (s:Str):Nat->List Str×Nat
 | 0=>([],0)
 | k+1=>if k=s.length\/Jg s k=32 then ((wst s k).1++[(s.take k).drop (wst s k).2],k+1) else wst s k
def Z1K (s:Str):List Str:=(wst s (s.length+1)).1
theorem ZiI (s:Str):∀ k,(wst s k).2<=k/\(wst s k).1.length<=k
 | 0=>by simp [wst]
 | k + 1 => by
   have:=ZiI s k;simp only [wst];split;simp;omega;omega
theorem ZiJ (a:Str) (w):(Instr.buildSlice 128 1 #[(0,str a)]).run Tryz.prog w=.ok (.slice (some ⟨w.heap.size,0,none⟩) 1 1) (w.alloc (.cells #[str a] 9)):=by kernel_rfl
theorem Z13 (X:List Nat) (s:Str) (w:World) (hX:∀ b∈X,b<w.heap.size) (hl:s.length<=1000) :
 CC 242 #[str s] w λr w'=>Row X w' w.heap.size 9 r (Z1K s)/\Stp [] w w':=by
 refine cW1 32 Tryz.func242 ?_;refine W ?_;refine LP (σ:=Nat×Value) (λq=>[(0,str s),(3,q.2),(4,.I ((wst s q.1).2:Int)),(5,.I (q.1:Int))]) (λq w'=>q.1<=s.length+1/\Row X w' w.heap.size 9 q.2 (wst s q.1).1/\Stp [] w w') (λq=>s.length+1 - q.1) (0,.N) ⟨by simp,Row.nil,Stp.refl _ _⟩ ?_;rintro ⟨k,v⟩ w1 ⟨hk,ab,hS⟩;dsimp only at hk ab ⊢;obtain ⟨sD,jH⟩:=ZiI s k;by_cases ag:k<=s.length
 . have nxt:wst s (k+1)=if k=s.length\/Jg s k=32 then ((wst s k).1++[(s.take k).drop (wst s k).2],k+1) else wst s k:=rfl
   have aX:=hS.size;repeat'(first|refine W1 ?_|omega|refine VG ?_ ?_<;>intro hg|refine VC ?_ ?_<;>intro hc)
   rotate_right
   have bg:¬ (k=s.length\/Jg s k=32):=by rintro (h|h)<;>omega
   rw [if_neg bg] at nxt;refine Zx (k+1,v) ⟨rfl,rfl,by rw [nxt];rfl,rfl,trivial⟩ ⟨by dsimp only;omega,by dsimp only;rw [nxt];exact ab,hS⟩ (by dsimp only;omega)
   all_goals
    have dH:k=s.length\/Jg s k=32:=by omega
    rw [if_pos dH] at nxt;apply Z9 (Z2Y rfl rfl rfl rfl rfl (by omega) (by omega)) rfl;refine Z1 (Z0 (vs:=[(0,str _)]) rfl (ZiJ _)) rfl ?_;rintro bv w2 hN;have aJ:=hN.choose_spec.2.2.2;have an:SlV (ob v++X) w2 bv [(s.take k).drop (wst s k).2]:=hN.slv (λb hb=>(Xi.1 hb).elim (λh=>(ab.ob_le b h).2) (λh=>Xa (hX b h) aX)) rfl rfl (by simp [maxLen]);clear hN;replace ab:=ab.up aJ;replace hS:=hS.trans aJ;have aX:=hS.size;refine Z1 (J4 (X:=X) (base:=w.heap.size) rfl (by decide) rfl rfl ab an (by simp only [Xe,Xf];omega) (by simp only [Xe,Xf,maxLen];omega) aX) rfl ?_;rintro v' w3 ⟨aC,aU,_⟩;refine W ?_;refine Zx (k+1,v') ⟨rfl,rfl,by rw [nxt];rfl,rfl,trivial⟩ ⟨by dsimp only;omega,by dsimp only;rw [nxt];exact aC,hS.own aU (λb hb=>.inr (ab.ob_le b hb).1)⟩ (by dsimp only;omega)
 have eA:k=s.length+1:=by omega
 subst eA;refine RT ?_;exact ⟨ab,hS⟩
theorem _root_.Go.Eng.Row.slv0 {α:Type} [Z7 α] {w} {base T:Nat} {v:Value} {xs:List α} (h:Row [] w base T v xs):SlV [] w v xs:=h.slv (by simp)
theorem Zam:Z1K [100,97,121,32,115,101,114,118,101,100,32,101,120,116,114,97,32,98,121,32,116,111,32,99,111,117,114,116,32,97,109,111,117,110,116]=Zf:=by decide
theorem Zdq (X:List Nat) (w:World) (hX:∀ b∈X,b<w.heap.size):CC 295 #[] w λr w'=>Row X w' w.heap.size 9 r Zf/\Stp [] w w':=by
 refine cW0 2 Tryz.func295 ?_;refine W ?_;refine CM (ZP rfl) (Z13 X [100,97,121,32,115,101,114,118,101,100,32,101,120,116,114,97,32,98,121,32,116,111,32,99,111,117,114,116,32,97,109,111,117,110,116] _ hX (by decide)) ?_;rintro v w1 ⟨hr,hS⟩;rw [Zam] at hr;refine RT ?_;exact ⟨hr,hS⟩
theorem Z6S (a:Str) (w):CC 247 #[str a] w λr w'=>r=ZvP (ZR a)/\Stp [] w w':=by
 refine cW1 15 Tryz.func247 ?_;refine W ?_;refine CM Z67 (Zdq [] _ (by simp)) ?_;rintro v w1 ⟨hr,hS⟩;refine W ?_;refine CM (Zg rfl rfl) (Z0d [] _ _ a _ (hr.slv (by simp))) ?_;rintro _ w2 ⟨rfl,ah⟩;replace hS:=hS.trans ah;unfold ZR;generalize idx (isS a) Zf=i;repeat'(first|refine W1 ?_|refine VG ?_ ?_<;>intro hg|refine VC ?_ ?_<;>intro hc)
 all_goals (refine WR ?_)
 exact .mk ⟨by simp only [if_pos hc],hS⟩;rename_i h1;exact .mk ⟨by simp only [if_neg h1,if_pos hc],hS⟩;rename_i h1;exact .mk ⟨by simp only [if_neg h1,if_neg hc],hS⟩
def Z0M (k n:Int) (s:Str):Int:=
 if k=4 then (if n=0 then (ZR s).2.1 else 0) else if ¬ s=[] then 0
 else if k=1 then (if 0<=n/\n<=2147483647 then 1 else 0) else if k=2 then (if 0<=n/\n<=1 then 2 else 0) else if k=3 then (if 0<=n/\n<=3652058 then 3 else 0) else 0
theorem Z6a {a:Str} (h:(ZR a).2.2=false):(ZR a).2.1=0:=by
 unfold ZR at h ⊢;dsimp only at h ⊢;split<;>rename_i h1
 rfl;rw [if_neg h1] at h;split at h<;>simp at h
theorem Zdr (X:List Nat) (v:Value) (x:Nd) (w) (hx:NdV X w v x) :
 CC 243 #[v] w λr w'=>r=.I (Z0M x.kind x.num x.word)/\Stp [] w w':=by
 obtain ⟨kv,rfl,hs⟩:=hx;refine cW1 69 Tryz.func243 ?_;refine W ?_;refine Z1 (Zp rfl) rfl ?_;rintro _ w1 ⟨b,rfl,hb,ac,hS⟩;replace ac:Blk w1 b _ (ndC x kv):=ac;repeat'(first|refine W1 ?_|omega|refine VG ?_ ?_<;>intro hg|refine VC ?_ ?_<;>intro hc)
 . refine CL (Z6S x.word _) ?_
   rintro _ w2 ⟨rfl,ah⟩;have bg:=@Z6a x.word;have hk:x.kind=4:=hc;generalize gC:ZR x.word=fd at *;obtain ⟨f1,f2,f3⟩:=fd;replace ac:=ac.up ah;replace hS:=hS.trans ah;cases f3 with
   | true=>
     (refine QP ?_ ?_<;>intro hc)
     all_goals (refine WR ?_)
     refine .mk ⟨?_,hS⟩;simp only [Z0M,if_pos hk];rw [if_neg (by assumption)];refine .mk ⟨?_,hS⟩;simp only [Z0M,if_pos hk];rw [if_pos (by omega),gC];rfl
   | false=>
     have h0:=bg rfl;dsimp only at h0;subst h0;refine QO ?_;all_goals (refine WR ?_)
     refine .mk ⟨?_,hS⟩;simp only [Z0M,if_pos hk];split;rw [gC];rfl
 all_goals (refine WR ?_)
 all_goals
  refine .mk ⟨?_,hS⟩;simp only [Z0M];repeat' split
  all_goals first|rfl|omega|(exfalso;simp_all;done)|(exfalso;simp_all;omega)
theorem ZiK (X:List Nat) (v:Value) (x:Nd) (w) (hx:NdV X w v x) (hF:SlV [] w Z2x Zf) :
 CC 283 #[v] w λr w'=>r=.I (Z0M x.kind x.num x.word)/\Stp [] w w':=by
 obtain ⟨kv,rfl,hs⟩:=hx;refine cW1 50 Tryz.func283 ?_;refine W ?_;refine Z1 (Zp rfl) rfl ?_;rintro _ w1 ⟨b,rfl,hb,ac,hS⟩;replace ac:Blk w1 b _ (ndC x kv):=ac;replace hF:=hF.up hS;repeat'(first|refine W1 ?_|omega|refine VG ?_ ?_<;>intro hg|refine VC ?_ ?_<;>intro hc)
 refine CL (Z9l x.word _ hF) ?_;rintro _ w2 ⟨rfl,ah⟩;replace hS:=hS.trans ah;refine QO ?_;refine WR ?_;refine .mk ⟨?_,hS⟩;simp only [Z0M];rw [if_pos (by assumption),if_pos (by assumption)];rfl
 all_goals first
  | (refine Z1 (Z0X (λz : Int => Value.int .i64 z)) rfl ?_
     rintro _ w2 ⟨r,rfl,hr,hm,ah⟩;have pB:=ac.lt;have bI:=hS.size;replace ac:=ac.up ah;replace hS:=hS.trans ah;refine Z4 (Zu (a:=(1:Int)) (v:=.I 1) rfl rfl rfl hm (by simp)) ?_;rintro _ w3 ⟨hm,am⟩;replace ac:=ac.ext am (by simp;omega);replace hS:=hS.ow am;refine Z4 (Zu (a:=(2:Int)) (v:=.I 2) rfl rfl rfl hm (by simp)) ?_;rintro _ w4 ⟨hm,aI⟩;replace ac:=ac.ext aI (by simp;omega);replace hS:=hS.ow aI;refine Z4 (Zu (a:=(3:Int)) (v:=.I 3) rfl rfl rfl hm (by simp)) ?_;rintro _ w5 ⟨hm,aD⟩;replace ac:=ac.ext aD (by simp;omega);replace hS:=hS.ow aD;refine W ?_;apply Z9 (Z1Q (a:=x.kind) rfl rfl hm) rfl;refine W ?_;refine WR ?_;refine .mk ⟨?_,hS⟩;have hw:x.word=[]:=by first|assumption|exact Decidable.not_not.1 (by assumption)
     simp only [Z0M,hw,not_true_eq_false,if_false]
     first
      | (have hk : x.kind = 1 := by assumption
         rw [hk,if_neg (by decide),if_pos rfl,if_pos (by omega)];rfl)
      | (have hk : x.kind = 2 := by assumption
         rw [hk,if_neg (by decide),if_neg (by decide),if_pos rfl,if_pos (by omega)];rfl)
      | (have hk : x.kind = 3 := by assumption
         rw [hk,if_neg (by decide),if_neg (by decide),if_neg (by decide),if_pos rfl,if_pos (by omega)];rfl))
  | skip
 all_goals (refine WR ?_)
 all_goals
  refine .mk ⟨?_,hS⟩;simp only [Z0M];repeat' split
  all_goals first|rfl|omega|(exfalso;simp_all;done)|(exfalso;simp_all;omega)
def Z0l (l want:List Int):Bool:=decide (l=want/\∀ x∈l,x≠0)
theorem Z1L (X Y:List Nat) (u v:Value) (l m:List Int) (w) (hl:SlV X w u l) (hm:SlV Y w v m) :
 CC 244 #[u,v] w λr w'=>r=.B (Z0l l m)/\Stp [] w w':=by
 have aT:=hl.max;have sE:=hm.max;refine cW2 33 Tryz.func244 ?_
 (refine QP ?_ ?_<;>intro hc)
 refine WR ?_;refine .mk ⟨?_,Stp.refl _ _⟩;congr 1;symm;refine decide_eq_false (λh=>?_);have:=congrArg List.length h.1;omega;have ai:l.length=m.length:=by omega
 have cR:=hl;have og:=hm;refine LP (σ:=Nat) (λk=>[(0,u),(1,v),(5,.I k)]) (λk w'=>k<=l.length/\Stp [] w w'/\∀ j (h:j<l.length) (h':j<m.length),j<k->l[j]=m[j]/\l[j]≠0) (λk=>l.length - k) 0 ⟨Xq _,Stp.refl _ _,λj _ _ h=>absurd h (Xu _)⟩ ?_;clear hl hm;rintro k w1 ⟨hk,hS,aB⟩;have hl:=cR.up hS;have hm:=og.up hS;by_cases ag:k<l.length
 . have j7:k<m.length:=by omega
   refine QO ?_;refine ZDr 16 [] [] [(0,0),(1,0),(2,0),(3,1),(4,0),(5,0),(6,0),(7,1),(8,0),(9,0),(10,0),(11,0),(12,0),(13,1),(14,0),(15,0)] (λw1 ae=>?_);replace hl:=hl.up ae;replace hm:=hm.up ae;replace hS:=hS.trans ae
   (refine QE ?_ ?_<;>intro hg)
   all_goals (repeat'(first|refine W1 ?_|omega|refine VG ?_ ?_<;>intro hg|refine VC ?_ ?_<;>intro hc))
   all_goals first
    | (refine QL (k + 1) ⟨ag, hS, λj h h' hj => ?_⟩ (by omega)
       by_cases e:j=k;subst e;omega;exact aB j h h' (by omega))
    | (refine WR ?_)
   all_goals
    refine .mk ⟨?_,hS⟩;congr 1;symm;refine decide_eq_false (λh=>?_);obtain ⟨rfl,h2⟩:=h;have:=h2 _ (Xd ag);omega
 refine QO ?_;refine WR ?_;refine .mk ⟨?_,hS⟩;congr 1;symm;refine decide_eq_true ⟨YaE ai (λj h h'=>(aB j h h' (by omega)).1),λx hx=>?_⟩;obtain ⟨j,hj,rfl⟩:=Xr hx;exact (aB j hj (by omega) (by omega)).2
theorem Zs (a:Int) (w):(Instr.buildSlice 23 1 #[(0,.I a)]).run Tryz.prog w=.ok (.slice (some ⟨w.heap.size,0,none⟩) 1 1) (w.alloc (.cells #[.I a] 3)):=by kernel_rfl
theorem Z02 (a b:Int) (w):(Instr.buildSlice 23 2 #[(0,.I a),(1,.I b)]).run Tryz.prog w=.ok (.slice (some ⟨w.heap.size,0,none⟩) 2 2) (w.alloc (.cells #[.I a,.I b] 3)):=by kernel_rfl
theorem ZiL (a b c:Int) (w):(Instr.buildSlice 23 3 #[(0,.I a),(1,.I b),(2,.I c)]).run Tryz.prog w=.ok (.slice (some ⟨w.heap.size,0,none⟩) 3 3) (w.alloc (.cells #[.I a,.I b,.I c] 3)):=by kernel_rfl
theorem Z5.stp {w w':World} {T len:Nat} {cs:List Value} {v:Value} (h:Z5 w T len cs v w'):Stp [] w w':=h.choose_spec.2.2.2
def Z0f:List Str:=[[43],[45],[42]]
def Z2g:List Str:=[[60],[60,61],[61],[33,61],[62],[62,61]]
def Z09:List Str:=[[97,110,100],[111,114]]
theorem Zds:Z1K [43,32,45,32,42]=Z0f:=by decide
theorem Zdt:Z1K [60,32,60,61,32,61,32,33,61,32,62,32,62,61]=Z2g:=by decide
theorem Zdu:Z1K [97,110,100,32,111,114]=Z09:=by decide
def Zan (s:Str) (l:List Int):Int:=
 if 0<=idx (isS s) Z0f/\Z0l l [1,1]=true then 1 else if 0<=idx (isS s) Z2g/\(Z0l l [1,1]=true\/Z0l l [3,3]=true) then 2 else if 0<=idx (isS s) Z09/\Z0l l [2,2]=true then 2 else 0
theorem Zao (X:List Nat) (s:Str) (u:Value) (l:List Int) (w) (hl:SlV X w u l) :
 CC 245 #[str s,u] w λr w'=>r=.I (Zan s l)/\Stp [] w w':=by
 refine cW2 42 Tryz.func245 ?_;refine W ?_;refine Z1 (Z0 (vs:=[(0,.I 1),(1,.I 1)]) rfl (Z02 _ _)) rfl ?_;rintro a1 w1 hN;have ha:=hN.slv (X:=[]) (ys:=[(1:Int),1]) (by simp) rfl rfl (by simp [maxLen]);have hS:=Z5.stp hN;clear hN;replace hl:=hl.up hS;refine CL (Z1L _ _ _ _ _ _ _ hl ha) ?_;rintro _ w2 ⟨rfl,ah⟩;replace hl:=hl.up ah;replace hS:=hS.trans ah;refine W ?_;refine Z1 (Z0 (vs:=[(0,.I 3),(1,.I 3)]) rfl (Z02 _ _)) rfl ?_;rintro a3 w3 hN;have ha:=hN.slv (X:=[]) (ys:=[(3:Int),3]) (by simp) rfl rfl (by simp [maxLen]);have am:=Z5.stp hN;clear hN;replace hl:=hl.up am;replace hS:=hS.trans am;refine CL (Z1L _ _ _ _ _ _ _ hl ha) ?_;rintro _ w4 ⟨rfl,aI⟩;replace hl:=hl.up aI;replace hS:=hS.trans aI;clear ha;unfold Zan;generalize Z0l l [1,1]=p1;generalize Z0l l [3,3]=p3;refine W ?_;refine CM (ZP rfl) (Z13 [] [43,32,45,32,42] _ (by simp) (by decide)) ?_;rintro _ w5 ⟨hr,aD⟩;rw [Zds] at hr;replace hl:=hl.up aD;replace hS:=hS.trans aD;refine W ?_;refine CL (Z0d [] _ _ s _ hr.slv0) ?_;rintro _ w6 ⟨rfl,dj⟩;replace hl:=hl.up dj;replace hS:=hS.trans dj;generalize idx (isS s) Z0f=i1;clear hr;cases p1<;>cases p3<;>by_cases hi:0<=i1;all_goals (refine QO ?_)
 all_goals first
  | (refine CM (ZP rfl) (Z13 [] [60, 32, 60, 61, 32, 61, 32, 33, 61, 32, 62, 32, 62, 61] _ (by simp) (by decide)) ?_
     rintro _ w7 ⟨hr,aQ⟩;rw [Zdt] at hr;replace hl:=hl.up aQ;replace hS:=hS.trans aQ;refine W ?_;refine CL (Z0d [] _ _ s _ hr.slv0) ?_;rintro _ w8 ⟨rfl,cG⟩;replace hl:=hl.up cG;replace hS:=hS.trans cG;generalize idx (isS s) Z2g=i2;clear hr;by_cases cp:0<=i2)
  | (refine RU ?_
     exact ⟨by simp [hi],hS⟩)
 all_goals (refine QO ?_)
 all_goals first
  | (refine CM (ZP rfl) (Z13 [] [97, 110, 100, 32, 111, 114] _ (by simp) (by decide)) ?_
     rintro _ w9 ⟨hr,gg⟩;rw [Zdu] at hr;replace hl:=hl.up gg;replace hS:=hS.trans gg;refine W ?_;refine CL (Z0d [] _ _ s _ hr.slv0) ?_;rintro _ w10 ⟨rfl,d7⟩;replace hl:=hl.up d7;replace hS:=hS.trans d7;generalize idx (isS s) Z09=i3;clear hr;by_cases fq:0<=i3)
  | (refine RU ?_
     exact ⟨by simp [hi,cp],hS⟩)
 all_goals (refine QO ?_)
 all_goals first
  | (refine Z1 (Z0 (vs := [(0, .I 2), (1, .I 2)]) rfl (Z02 _ _)) rfl ?_
     rintro a2 w11 hN;have ha:=hN.slv (X:=[]) (ys:=[(2:Int),2]) (by simp) rfl rfl (by simp [maxLen]);have mw:=Z5.stp hN;clear hN;replace hl:=hl.up mw;replace hS:=hS.trans mw;refine W ?_;refine CL (Z1L _ _ _ _ _ _ _ hl ha) ?_;rintro _ w12 ⟨rfl,iU⟩;replace hS:=hS.trans iU;generalize Z0l l [2,2]=p2;cases p2)
  | (refine RU ?_
     exact ⟨by simp [hi,cp,fq],hS⟩)
 all_goals (refine W ?_)
 all_goals (refine WR ?_)
 all_goals exact .mk ⟨by simp [hi,cp,fq],hS⟩
structure Sig where
 kind:Int
 s:Str
 a:Int
 b:Int
 c:Int
 deriving DecidableEq
abbrev Z5s (x:Sig):Value:=.agg #[.I x.kind,str x.s,.I x.a,.I x.b,.I x.c]
theorem Zsz (x y:Sig) (w):(Op.equal 355 (Z5s x) (Z5s y)).run Tryz.prog w=.ok (decide (x=y)) w:=by
 have h1:Program.stoodInHeld Tryz.prog 355=false:=by kernel_rfl
 obtain ⟨i,hi⟩:∃ i,Tryz.prog.info? 3=some i:=by
  have:=(inferInstance:Siz Tryz.prog 3 1).h;cases h:Tryz.prog.info? 3 with
  | none=>rw [h] at this;cases this
  | some i=>exact ⟨i,rfl⟩
 have hc:Tryz.prog.cellsOf 3=1:=by kernel_rfl
 obtain ⟨k,s,a,b,c⟩:=x;obtain ⟨k',s',a',b',c'⟩:=y;simp [Z5s,Op.equal,Op.maxDepth,run_equalIn_struct,h1,Program.fieldsOf,Tryz.underlying355,Op.eqFields,part,Und.isAgg,Siz.run,Z0V,run_equalIn_int w _ _ .i64 .i64 _ _ Tryz.underlying3,run_equalIn_string w _ _ _ _ Tryz.underlying9,run_equalIn_array w _ _ _ Tryz.underlying350 hi,hc,Op.eqItems,List.range_succ_eq_map];repeat' split
 all_goals simp_all
theorem Zmm (em:Bool) (x:Sig) (w):(Instr.checkKey em 10000 355 (Z5s x)).run Tryz.prog w=.ok () w:=by kernel_rfl
instance:Zby Tryz.prog 355 Sig where
 enc:=Z5s
 chk:=Zmm
 find:=λa es l w hk=>by
  have h2:=run_findKey_eq (P:=Tryz.prog) (k:=355) w (by kernel_rfl) (Z5s a) es;have h3:=Z2w Z5s Zsz a w es l 0 hk;simp only [XN] at h3;exact h2.trans h3
abbrev Zbz (a b c:Int):Value:=.agg #[.I a,.I b,.I c]
theorem Zmn (a:Int) (w):(Instr.build 350 #[(0,.I a)]).run Tryz.prog w=.ok (Zbz a 0 0) w:=by kernel_rfl
theorem Zap (a b:Int) (w):(Instr.build 350 #[(0,.I a),(1,.I b)]).run Tryz.prog w=.ok (Zbz a b 0) w:=by kernel_rfl
theorem Z7s (k a b c:Int) (s:Str) (w):(Instr.build 355 #[(0,.I k),(1,str s),(2,Zbz a b c)]).run Tryz.prog w=.ok (Z5s ⟨k,s,a,b,c⟩) w:=by kernel_rfl
theorem ZbA (a b c d:Str) (w):(Instr.buildSlice 128 4 #[(0,str a),(1,str b),(2,str c),(3,str d)]).run Tryz.prog w=.ok (.slice (some ⟨w.heap.size,0,none⟩) 4 4) (w.alloc (.cells #[str a,str b,str c,str d] 9)):=by kernel_rfl
abbrev ZiM:=Sig×Value
def ent:Nat->ZiM
 | 5=>(⟨5,[45],1,0,0⟩,.I 1)
 | 10=>(⟨5,[110,111,116],2,0,0⟩,.I 2)
 | 15=>(⟨10,[110,101,120,116],3,0,0⟩,.I 3)
 | 20=>(⟨10,[112,114,101,118],3,0,0⟩,.I 3)
 | 26=>(⟨10,[108,97,116,101,114],3,3,0⟩,.I 3)
 | 32=>(⟨10,[101,97,114,108,105,101,114],3,3,0⟩,.I 3)
 | _=>(⟨10,[98,101,116,119,101,101,110],3,3,0⟩,.I 1)
def Zaq:List Nat:=[5,10,15,20,26,32,38]
def J3:List Str:=[[100,97,121,115],[119,101,101,107,115],[109,111,110,116,104,115],[99,111,117,114,116,100,97,121,115]]
def Z1X (u:Str):List ZiM:=[(⟨7,u,3,1,0⟩,.I 3),(⟨8,u,3,1,0⟩,.I 3)]
def Z3H:List ZiM:=Zaq.map ent++J3.flatMap Z1X
theorem Zdv:(Z3H.map (·.1)).Nodup:=by decide
theorem ZfF {κ:Type} [DecidableEq κ] {l m:List (κ×Value)} (hp:l.Perm m) (hn:(m.map (·.1)).Nodup) (a:κ) (z:Value):Z3E l a z=Z3E m a z:=by
 have pC:(l.map (·.1)).Nodup:=(hp.map _).nodup_iff.2 hn;have key:∀ (l m:List (κ×Value)),(∀ p,p∈l->p∈m)->(m.map (·.1)).Nodup->∀ p,l.find? (λp=>decide (p.1=a))=some p->m.find? (λp=>decide (p.1=a))=some p:=by
  intro l m hs hm p hf;have lG:=hs p (X5 hf);have sF:p.1=a:=by simpa using Ybk hf
  cases hq:m.find? (λp=>decide (p.1=a)) with
  | none=>exact absurd (Yaq.1 hq p lG) (by simp [sF])
  | some q=>
    have um:=X5 hq;have uo:q.1=a:=by simpa using Ybk hq
    obtain ⟨i,hi,rfl⟩:=Xr lG;obtain ⟨j,hj,rfl⟩:=Xr um;have:i=j:=by
     have h1:=(List.getElem_inj (xs:=m.map (·.1)) (i:=i) (j:=j) (h₀:=by simpa using hi) (h₁:=by simpa using hj) hm).1 (by simp [sF,uo]);exact h1
    subst this;rfl
 unfold Z3E;cases h1:l.find? (λp=>decide (p.1=a)) with
 | some p=>rw [key l m (λp h=>hp.mem_iff.1 h) hn p h1]
 | none=>
   cases h2:m.find? (λp=>decide (p.1=a)) with
   | none=>rfl
   | some p=>rw [key m l (λp h=>hp.mem_iff.2 h) pC p h2] at h1;cases h1
theorem Z7L (w):CC 285 #[] w λr w'=>∃ (m:Nat) (l:List ZiM),r=.map (some m)/\JL Z5s w' m l/\l.Perm Z3H/\Stp [] w w':=by
 refine cW0 62 Tryz.func285 ?_;refine W ?_;refine ZDr 41 [] [5,10,15,20,26,32,38] [(1,0),(2,0),(3,0),(4,0),(6,0),(7,0),(8,0),(9,0),(11,0),(12,0),(13,0),(14,0),(16,0),(17,0),(18,0),(19,0),(21,0),(22,0),(23,0),(24,0),(25,0),(27,0),(28,0),(29,0),(30,0),(31,0),(33,0),(34,0),(35,0),(36,0),(37,0),(0,2),(5,279241165504),(39,0),(40,0)] (λw1 ae=>?_);repeat'(first|refine D1 ?_|(apply Z2E;exact rfl;first|(apply Z2F (vs:=[(0,.I _)]);exact trivial;exact rfl;exact Zmn _;exact rfl)|(apply Z2F (vs:=[(0,.I _),(1,.I _)]);exact trivial;exact rfl;exact Zap _ _;exact rfl)|(apply Z2F (vs:=[(0,.I _),(1,str _),(2,Zbz _ _ _)]);exact trivial;exact rfl;exact Z7s _ _ _ _ _;exact rfl)))
 refine Za rfl trivial (Z0X Z5s) (λ_ _ h=>h.choose_spec.2.2.2) rfl ?_;rintro _ w2 ⟨m,rfl,hm,ar,ah⟩;have sD:=ae.size;refine Zsv Zaq (λrem w'=>∃ l,JL Z5s w' m l/\(l++rem.map ent).Perm (Zaq.map ent)/\Stp [m] w2 w') rfl (by decide) (by decide) ⟨[],ar,by simp,Stp.refl _ _⟩ ?_ ?_
 . rintro rem j w' bE hj ⟨l,hl,hp,hS⟩
   have jI:((l++rem.map ent).map (·.1)).Nodup:=(hp.map (·.1)).nodup_iff.2 (by decide);have hfresh:∀ p∈l,¬ p.1=(ent j).1:=by
    intro p hp e;rw [XQ,List.nodup_append] at jI;exact jI.2.2 p.1 (Yaj hp) (ent j).1 (by rw [YbE];exact XK.2 ⟨j,hj,rfl⟩) e
   have gen:∀ w'',JL Z5s w'' m (l++[ent j])->Stp [m] w' w''->∃ l,JL Z5s w'' m l/\(l++(rem.erase j).map ent).Perm (Zaq.map ent)/\Stp [m] w2 w'':=by
    intro w'' h1 h2;refine ⟨_,h1,?_,hS.trans h2⟩;refine List.Perm.trans ?_ hp;rw [Xy];exact List.Perm.append_left l (((List.perm_cons_erase hj).map ent).symm)
   have mx:=bE.subset hj;simp only [Zaq,Xb,Xj,or_false] at mx;rcases mx with rfl|rfl|rfl|rfl|rfl|rfl|rfl
   all_goals exact ⟨_,rfl,rfl,trivial,(Zu (v:=.I _) rfl rfl rfl hl hfresh).mono (λ_ w'' ⟨h1,h2⟩=>⟨.inr rfl,gen w'' h1 h2⟩)⟩
 rintro w3 ⟨l,hl,hp,am⟩;rw [XL,XD] at hp;have hS:Stp [] w w3:=(ae.trans ah).ow am;have xw:w.heap.size<=m:=by omega
 clear ar ah am;repeat'(first|refine D1 ?_|refine Zy rfl rfl rfl rfl (λhg=>?_) (λhg=>?_)|(refine Zq rfl rfl rfl rfl (λhg=>?_) (λhg=>?_)<;>refine D1 ?_)|fail)
 refine W ?_;refine Z1 (Z0 (vs:=[(0,str [100,97,121,115]),(1,str [119,101,101,107,115]),(2,str [109,111,110,116,104,115]),(3,str [99,111,117,114,116,100,97,121,115])]) rfl (ZbA _ _ _ _)) rfl ?_;rintro uv w4 hN;have hu:SlV [m] w4 uv J3:=hN.slv (λb hb=>by simp at hb;subst hb;exact hl.lt) rfl rfl (by simp [J3,maxLen]);have aI:=Z5.stp hN;clear hN;replace hl:=hl.up aI;replace hS:=hS.trans aI;have my:∀ p∈l,p.1.kind=5\/p.1.kind=10:=λp cq=>by
  have sG:=hp.mem_iff.1 cq;simp only [Zaq,Xs,XL,Xb,Xj,or_false] at sG;rcases sG with rfl|rfl|rfl|rfl|rfl|rfl|rfl<;>decide
 have ig:∀ k (h:k<J3.length),∀ p∈(J3.take k).flatMap Z1X,¬ p.1.s=J3[k]:=by
  intro k h
  match k,h with
  | 0,_=>(show ∀ p∈(J3.take 0).flatMap Z1X,¬ p.1.s=J3[0]'(by decide));decide
  | 1,_=>(show ∀ p∈(J3.take 1).flatMap Z1X,¬ p.1.s=J3[1]'(by decide));decide
  | 2,_=>(show ∀ p∈(J3.take 2).flatMap Z1X,¬ p.1.s=J3[2]'(by decide));decide
  | 3,_=>(show ∀ p∈(J3.take 3).flatMap Z1X,¬ p.1.s=J3[3]'(by decide));decide
 refine W ?_;refine LP (σ:=Nat) (λk=>[(1,.I 1),(3,.I 3),(4,.map (some m)),(40,uv),(41,.I 4),(42,.I k)]) (λk w'=>k<=4/\JL Z5s w' m (l++(J3.take k).flatMap Z1X)/\Stp [m] w4 w') (λk=>4 - k) 0 ⟨by omega,by simpa using hl,Stp.refl _ _⟩ ?_;rintro k w5 ⟨hk,aA,aD⟩;have xx:SlV [m] w5 uv J3:=hu.ext aD (by simp) (λb hb=>.inl hb);by_cases ag:k<4;have j7:k<J3.length:=ag;have iV:∀ (t:Int),¬ t=5->¬ t=10->∀ p∈l++(J3.take k).flatMap Z1X,¬ p.1=⟨t,J3[k],3,1,0⟩:=by
  intro t h5 eZ p lG e;rcases Xi.1 lG with h|h
  have:=my p h;rw [e] at this;rcases this with h|h
  exact h5 h;exact eZ h;exact ig k j7 p h (by rw [e])
 refine QO ?_;apply Z8 (vs:=[(0,.I 3),(1,.I 1)]) rfl (Zap _ _) rfl;apply Z8 (vs:=[(0,.I 7),(1,str _),(2,Zbz _ _ _)]) rfl (Z7s _ _ _ _ _) rfl;refine W ?_;refine Z4 (Z1P (a:=(⟨7,J3[k],3,1,0⟩:Sig)) (v:=.I 3) rfl rfl rfl aA (iV 7 (by decide) (by decide))) ?_;rintro _ w6 ⟨lH,dj⟩;refine W ?_;apply Z8 (vs:=[(0,.I 3),(1,.I 1)]) rfl (Zap _ _) rfl;apply Z8 (vs:=[(0,.I 8),(1,str _),(2,Zbz _ _ _)]) rfl (Z7s _ _ _ _ _) rfl;refine W ?_;refine Z4 (Z1P (a:=(⟨8,J3[k],3,1,0⟩:Sig)) (v:=.I 3) rfl rfl rfl lH (λp lG e=>by
  rcases Xi.1 lG with h|h
  exact iV 8 (by decide) (by decide) p h e;simp only [Xk] at h;subst h;simp at e)) ?_
 rintro _ w7 ⟨pD,aQ⟩;refine W ?_;refine QL (k+1) ⟨by omega,?_,(aD.trans dj).trans aQ⟩ (by omega);rw [Xh j7,Yak];have e:l++((J3.take k).flatMap Z1X++[J3[k]].flatMap Z1X)=(l++(J3.take k).flatMap Z1X++[((⟨7,J3[k],3,1,0⟩:Sig),Value.int .i64 3)])++[((⟨8,J3[k],3,1,0⟩:Sig),Value.int .i64 3)]:=by simp [Z1X]
 rw [e];exact pD;have eA:k=4:=by omega
 subst eA;refine RT ?_;exact ⟨m,_,rfl,aA,hp.append_right _,hS.ow aD⟩
def ZfG (x:Sig):Value:=Z3E Z3H x (.I 0)
def Z1Y (s:Str) (a b:Int):Int:=
 if s∈Z0f then (if a=b/\a=1 then 1 else 0) else if s∈Z2g then (if a=b/\¬ a=2 then 2 else 0) else if s∈Z09 then (if a=b/\a=2 then 2 else 0) else 0
theorem Zdw (s:Str) (a b c:Int) (w):CC 284 #[str s,Zbz a b c] w λr w'=>r=.I (Z1Y s a b)/\Stp [] w w':=by
 refine cW2 46 Tryz.func284 ?_;refine W ?_;refine Z1 (Zp rfl) rfl ?_;rintro _ w1 ⟨q,rfl,hq,ac,hS⟩;replace ac:Blk w1 q _ [.I a,.I b,.I c]:=ac;refine W ?_;by_cases hA:s∈Z0f
 . unfold Z1Y
   rw [if_pos hA];simp only [Z0f,Xb,Xj,or_false] at hA;rcases hA with rfl|rfl|rfl
   all_goals (repeat'(first|refine W1 ?_|omega|refine VG ?_ ?_<;>intro hg|refine VC ?_ ?_<;>intro hc))
   all_goals (refine WR ?_)
   all_goals refine .mk ⟨?_,hS⟩
   all_goals first
    | rw [if_pos ⟨by assumption,by assumption⟩]
    | rw [if_neg (λh=>by omega)]
 by_cases hC:s∈Z2g
 . unfold Z1Y
   rw [if_neg hA,if_pos hC];simp only [Z2g,Xb,Xj,or_false] at hC;rcases hC with rfl|rfl|rfl|rfl|rfl|rfl
   all_goals (repeat'(first|refine W1 ?_|omega|refine VG ?_ ?_<;>intro hg|refine VC ?_ ?_<;>intro hc))
   all_goals (refine WR ?_)
   all_goals refine .mk ⟨?_,hS⟩
   all_goals first
    | rw [show (if a=b/\¬ a=2 then (2:Int) else 0)=2 from if_pos (by omega)]
    | rw [show (if a=b/\¬ a=2 then (2:Int) else 0)=0 from if_neg (by omega)]
 by_cases hL:s∈Z09
 . unfold Z1Y
   rw [if_neg hA,if_neg hC,if_pos hL];simp only [Z09,Xb,Xj,or_false] at hL;rcases hL with rfl|rfl
   all_goals (repeat'(first|refine W1 ?_|omega|refine VG ?_ ?_<;>intro hg|refine VC ?_ ?_<;>intro hc))
   all_goals (refine WR ?_)
   all_goals refine .mk ⟨?_,hS⟩
   all_goals first
    | rw [if_pos ⟨by assumption,by assumption⟩]
    | rw [if_neg (λh=>by omega)]
 unfold Z1Y;rw [if_neg hA,if_neg hC,if_neg hL];simp only [Z0f,Z2g,Z09,Xb,Xj,or_false,not_or] at hA hC hL;obtain ⟨a1,a2,a3⟩:=hA;obtain ⟨b1,b2,b3,b4,b5,b6⟩:=hC;obtain ⟨c1,c2⟩:=hL;repeat'(first|refine W1 ?_|refine Zab rfl (λhc=>absurd hc (by assumption)) (λhc=>?_))
 refine RU ?_;exact ⟨rfl,hS⟩
theorem _root_.Go.Eng.SlV.any {α:Type} [Z7 α] {X:List Nat} {w} {v:Value} {xs:List α} (h:SlV X w v xs):SlV [] w v xs:=h.ext (Stp.refl [] w) (by simp) (by simp)
theorem _root_.Go.Eng.SlV.new {α:Type} [Z7 α] {X:List Nat} {w w':World} {v:Value} {xs:List α} (h:SlV X w v xs) (hS:Stp [] w w') (b:Nat) (hb:w.heap.size<=b):SlV [b] w' v xs:=
 h.ext hS (by simp) (λc hc=>.inr (by simp at hc;omega))
theorem _root_.Go.Eng.SlV.on {α:Type} [Z7 α] {X S:List Nat} {w w':World} {v:Value} {xs:List α} (h:SlV X w v xs) (hS:Stp S w w') (hs:∀ b∈S,b∈X):SlV X w' v xs:=h.ext hS hs (λ_ h=>.inl h)
def Z3I (x:Sig):Int:=match ZfG x with|.int _ z=>z|_=>0
theorem ZbB (x:Sig):ZfG x=.I (Z3I x):=by
 have:∀ p∈Z3H,∃ z,p.2=Value.int .i64 z:=by
  intro p hp;simp only [Z3H,Zaq,J3,Xs,XL,YaX,YbB,Z1X,XA,XT,XD,Xb,Xj,or_false,ent] at hp;rcases hp with rfl|rfl|rfl|rfl|rfl|rfl|rfl|rfl|rfl|rfl|rfl|rfl|rfl|rfl|rfl<;>exact ⟨_,rfl⟩
 unfold Z3I ZfG Z3E;cases h:Z3H.find? (λp=>decide (p.1=x)) with
 | none=>rfl
 | some p=>
   obtain ⟨z,hz⟩:=this p (X5 h);simp only [hz]
def JB (k n:Int) (s:Str) (ts:List Int):Int:=
 if ts.length > 3 then 0 else if (0:Int)∈ts then 0 else if ts=[] then Z0M k n s else if ¬ n=0 then 0
 else if k=9/\s=[]/\ts.getD 0 0=2/\ts.getD 1 0=ts.getD 2 0 then ts.getD 1 0
 else if k=6/\ts.getD 2 0=0 then Z1Y s (ts.getD 0 0) (ts.getD 1 0) else Z3I ⟨k,s,ts.getD 0 0,ts.getD 1 0,ts.getD 2 0⟩
def Ze:Nd->Int
 | .mk k n s l=>JB k n s (l.map Ze)
theorem Z0N (x:Nd):Ze x=JB x.kind x.num x.word (x.kids.map Ze):=by
 cases x;rw [Ze];rfl
def Zdx (ts:List Int) (k:Nat):List Value:=[.I (if 0<k then ts.getD 0 0 else 0),.I (if 1<k then ts.getD 1 0 else 0),.I (if 2<k then ts.getD 2 0 else 0)]
theorem ZiN (ts:List Int) (k:Nat) (hk:k<3):(Zdx ts k).set (0+k * 1) (.I (ts.getD k 0))=Zdx ts (k+1):=by
 match k,hk with
 | 0,_=>rfl
 | 1,_=>rfl
 | 2,_=>rfl
theorem ZiO (ts:List Int) (k:Nat) (hk:k<3):(Zdx ts (k+1))[0+k * 1]?=some (.I (ts.getD k 0)):=by
 match k,hk with
 | 0,_=>rfl
 | 1,_=>rfl
 | 2,_=>rfl
theorem ZiP (ts:List Int) (h:ts.length<=3):Zdx ts ts.length=[.I (ts.getD 0 0),.I (ts.getD 1 0),.I (ts.getD 2 0)]:=by
 match ts,h with
 | [],_=>rfl
 | [a],_=>rfl
 | [a,b],_=>rfl
 | [a,b,c],_=>rfl
theorem ZsA (x:Nd):∀ (X XF:List Nat) (v:Value) (w),NdV X w v x->SlV XF w Z2x Zf->
 CC 230 #[v] w λr w'=>r=.I (Ze x)/\Stp [] w w':=by
 induction x using Nd.ind with
 | h k n s l ih=>
 intro X XF v w hx hF;generalize iH:Nd.mk k n s l=x at *;have ih':∀ y∈x.kids,∀ (X XF:List Nat) (v:Value) (w:World),NdV X w v y->SlV XF w Z2x Zf->CC 230 #[v] w λr w'=>r=.I (Ze y)/\Stp [] w w':=by
  subst iH;exact ih
 clear ih iH k n s l;have pE:=hx;obtain ⟨kv,rfl,hs⟩:=hx;have aT:=hs.max;rw [Z0N];have ai:(x.kids.map Ze).length=x.kids.length:=by simp
 have cC:∀ k (h:k<x.kids.length),(x.kids.map Ze).getD k 0=Ze x.kids[k]:=λk h=>by simp [List.getD,h]
 generalize cg:x.kids.map Ze=ts at *;refine cW1 80 Tryz.func230 ?_;refine W ?_;refine Z1 (Zp rfl) rfl ?_;rintro _ w1 ⟨b,rfl,hb,ac,hS⟩;replace ac:Blk w1 b _ (ndC x kv):=ac;replace hs:=hs.up hS;replace hF:=hF.up hS;have ag:=ac.lt;refine W ?_;refine Z1 Z2 rfl ?_;rintro _ w2 ⟨q,rfl,hq,bO,ah⟩;replace bO:Blk w2 q _ (Zdx ts 0):=bO;replace ac:=ac.up ah;replace hs:=hs.new ah q hq;replace hF:=hF.new ah q hq;replace hS:=hS.trans ah;have xy:w.heap.size<=q:=Xg (Xg hb (Nat.le_of_lt ag)) hq;have uq:¬ b=q:=by omega
 (refine QP ?_ ?_<;>intro hc)
 refine WR ?_;refine .mk ⟨?_,hS⟩;unfold JB;rw [if_pos (by omega)];have ii:x.kids.length<=3:=by omega
 refine Z0o (σ:=Unit) (λ_=>[(1,pQ b),(3,pQ q)]) (λ_ w'=>Stp [q] w2 w'/\Blk w' q 350 [.I (ts.getD 0 0),.I (ts.getD 1 0),.I (ts.getD 2 0)]/\¬ (0:Int)∈ts) ?_ ?_;have ba:=hs;have oh:=hF;refine LP (σ:=Nat) (λk=>[(1,pQ b),(3,pQ q),(11,kv),(12,.I (x.kids.length:Int)),(13,.I k)]) (λk w'=>k<=x.kids.length/\Stp [q] w2 w'/\Blk w' q 350 (Zdx ts k)/\¬ (0:Int)∈ts.take k) (λk=>x.kids.length - k) 0 ⟨Xq _,Stp.refl _ _,bO,by simp⟩ ?_;clear hs hF bO;rintro k w3 ⟨hk,am,bO,bg⟩;have hs:=ba.on am (by simp);have hF:=oh.on am (by simp);by_cases ag:k<x.kids.length;have jJ:k<3:=by omega
 have hg:=cC k ag;have mz:=ZiN ts k jJ;have iW:=ZiO ts k jJ;rw [hg] at mz iW;obtain ⟨kv2,bu,ce⟩:=hs.nd ag;refine QO ?_;apply Z9 (JF rfl rfl hs ag ce) rfl;refine Z1 Z2 rfl ?_;rintro _ w4 ⟨b4,rfl,bC,bA,aI⟩;have ur:=bO.lt;replace bO:=bO.up aI;refine W ?_;refine SB (us:=ndC x.kids[k] kv2) (Zi bu) bA ?_;rintro _ w5 ⟨aD,mA⟩;have xz:¬ b4=q:=by omega
 replace bO:=bO.ext aD (by simp;omega);have j8:=aI.ow aD;replace bu:=bu.up j8;replace hF:=hF.up j8;refine W ?_;refine CL (ih' x.kids[k] (Xd ag) _ _ _ _ ⟨kv2,rfl,bu⟩ hF) ?_;rintro _ w6 ⟨rfl,dj⟩;replace bO:=bO.up dj;refine W ?_;refine Z4 (Zc (u:=.I (Ze x.kids[k])) rfl rfl rfl rfl bO (by simp [Zdx];omega)) ?_;rintro _ w7 ⟨aQ,bO⟩;rw [mz] at bO;have mB:=((am.trans j8.mn).trans dj.mn).trans aQ;have di:ts.take (k+1)=ts.take k++[Ze x.kids[k]]:=by
  rw [Xh (by omega)];congr 2;subst cg;simp
 refine QO ?_;apply ZiF rfl rfl (bO.cell iW) rfl
 (refine QP ?_ ?_<;>intro hc)
 refine WR ?_;have ut:Ze x.kids[k]=0:=hc;refine .mk ⟨?_,hS.ow mB⟩;unfold JB;rw [if_neg (by omega),if_pos];have:Ze x.kids[k]∈ts:=by
  subst cg;exact Yaj (Xd ag)
 rwa [ut] at this
 refine QL (k+1) ⟨ag,mB,bO,?_⟩ (by omega);rw [di,Xi];rintro (h|h);exact bg h;simp only [Xk] at h;exact hc h.symm;have eA:k=x.kids.length:=by omega
 subst eA;refine QO ?_;rw [<- ai,ZiP ts (by omega)] at bO;rw [<- ai,Xo] at bg;exact QT () ⟨am,bO,bg⟩;rintro _ w3 ⟨am,bO,bg⟩;replace ac:=ac.ext am (by simpa using uq);replace hF:=hF.on am (by simp);replace hs:=hs.on am (by simp);replace hS:=hS.ow am;unfold JB;rw [if_neg (by omega),if_neg bg];by_cases h0:x.kids.length=0;rw [if_pos (Xw.1 (by omega))];refine QO ?_;refine CL (ZiK [q] _ x _ ⟨kv,rfl,hs⟩ hF.any) ?_;rintro _ w4 ⟨rfl,aI⟩;refine RT ?_;exact ⟨rfl,hS.trans aI⟩;rw [if_neg (λh=>h0 (by rw [<- ai,h];rfl))];clear cC cg;generalize ts.getD 0 0=a at *;generalize ts.getD 1 0=bb at *;generalize ts.getD 2 0=c at *;repeat'(first|refine W1 ?_|omega|refine VG ?_ ?_<;>intro hg|refine VC ?_ ?_<;>intro hc)
 refine RU ?_;exact ⟨by rw [if_pos (by assumption)],hS⟩;all_goals rw [if_neg (by assumption)]
 all_goals first
  | (have h9 : x.kind = 9 /\ x.word = [] /\ a = 2 /\ bb = c := ⟨by assumption, by assumption, by assumption, by assumption⟩
     rw [if_pos h9];refine RU ?_;exact ⟨rfl,hS⟩)
  | rw [show (if x.kind = 9 /\ x.word = [] /\ a = 2 /\ bb = c then bb else if x.kind = 6 /\ c = 0 then Z1Y x.word a bb else Z3I ⟨x.kind, x.word, a, bb, c⟩) = if x.kind = 6 /\ c = 0 then Z1Y x.word a bb else Z3I ⟨x.kind, x.word, a, bb, c⟩ from if_neg (λh => by
     obtain ⟨h1,h2,h3,h4⟩:=h;first|omega|contradiction)]
 all_goals first
  | (have h6 : x.kind = 6 /\ c = 0 := ⟨by assumption, by assumption⟩
     rw [if_pos h6];refine CL (Zdw x.word a bb c _) ?_;rintro _ w4 ⟨rfl,aI⟩;refine RT ?_;exact ⟨rfl,hS.trans aI⟩)
  | rw [show (if x.kind=6/\c=0 then Z1Y x.word a bb else Z3I ⟨x.kind,x.word,a,bb,c⟩)=Z3I ⟨x.kind,x.word,a,bb,c⟩ from if_neg (λh=>by omega)]
 all_goals
  refine ZDr 9 [] [] [(1,0),(2,1),(3,0),(4,1),(5,1),(6,0),(0,2),(7,2),(8,0)] (λw1 ae=>?_);replace ac:=ac.up ae;replace bO:=bO.up ae;replace hS:=hS.trans ae;refine D ?_;apply Z2E;exact rfl;apply Z2F (vs:=[(0,.I _),(1,str _),(2,Zbz _ _ _)]);exact trivial;exact rfl;exact Z7s _ _ _ _ _;exact rfl;refine DC (Z7L _) (λ_ _ h=>h.choose_spec.choose_spec.2.2.2) ?_;rintro _ w5 ⟨m,ll,rfl,hm,hp,aD⟩;have mC:=ZbB ⟨x.kind,x.word,a,bb,c⟩;unfold ZfG at mC;rw [<- ZfF hp Zdv] at mC;refine Za rfl trivial (ZnY (Z1Q (a:=(⟨x.kind,x.word,a,bb,c⟩:Sig)) rfl rfl hm)) (λ_ _ h=>h.2 ▸ Stp.refl _ _) rfl ?_;rintro _ _ ⟨rfl,rfl⟩;rw [mC];refine D ?_;refine RT ?_;exact ⟨rfl,hS.trans aD⟩
theorem ZvQ:∀ p∈Z3H,∃ z,p.2=Value.int .i64 z:=by
 intro p hp;simp only [Z3H,Zaq,J3,Xs,XL,YaX,YbB,Z1X,XA,XT,XD,Xb,Xj,or_false,ent] at hp;rcases hp with rfl|rfl|rfl|rfl|rfl|rfl|rfl|rfl|rfl|rfl|rfl|rfl|rfl|rfl|rfl<;>exact ⟨_,rfl⟩
theorem ZfH {x:Sig} (h:¬ ∃ p∈Z3H,p.1=x):Z3I x=0:=by
 unfold Z3I ZfG Z3E;have:Z3H.find? (λp=>decide (p.1=x))=none:=by
  rw [Yaq];intro p hp;simpa using λe=>h ⟨p,hp,e⟩
 rw [this]
def Z1a:List Str:=[[110,101,120,116],[112,114,101,118]]
def Z1b:List Str:=[[108,97,116,101,114],[101,97,114,108,105,101,114]]
theorem Zdy:Z1K [110,101,120,116,32,112,114,101,118]=Z1a:=by decide
theorem Zdz:Z1K [108,97,116,101,114,32,101,97,114,108,105,101,114]=Z1b:=by decide
theorem ZbC:Z1K [100,97,121,115,32,119,101,101,107,115,32,109,111,110,116,104,115,32,99,111,117,114,116,100,97,121,115]=J3:=by decide
theorem Z31 {s:Str} {l:List Str}:0<=idx (isS s) l↔s∈l:=by
 unfold idx;cases h:l.findIdx? (isS s) with
 | none=>
   rw [Yab] at h;constructor;intro h0;simp at h0;intro hm;have:=h s hm;simp at this
 | some i=>
   obtain ⟨hi,hp,_⟩:=X7.1 h;constructor;intro _;have:l[i]=s:=by simpa using hp
   rw [<- this];exact Xd _;intro _;simp
def Z6T (s:Str) (l:List Int):Int:=
 if 0<=idx (isS s) Z1a/\Z0l l [3]=true then 3 else if 0<=idx (isS s) Z1b/\Z0l l [3,3]=true then 3 else if s=[98,101,116,119,101,101,110]/\Z0l l [3,3]=true then 1 else 0
def Z4P (k n:Int) (s:Str) (ts:List Int):Int:=
 if ts=[] then Z0M k n s else if ¬ n=0 then 0
 else if k=5 then (if s=[45]/\Z0l ts [1]=true\/s=[110,111,116]/\Z0l ts [2]=true then ts.getD 0 0 else 0)
 else if k=6 then Zan s ts
 else if k=7\/k=8 then (if 0<=idx (isS s) J3/\Z0l ts [3,1]=true then 3 else 0)
 else if k=9 then (if s=[]/\ts.length=3/\Z0l ts [2,ts.getD 1 0,ts.getD 1 0]=true then ts.getD 1 0 else 0)
 else if k=10 then Z6T s ts else 0
theorem ZbD {l m:List Int}:Z0l l m=true↔l=m/\∀ x∈l,x≠0:=by simp [Z0l]
theorem ZeK {l m:List Int} (h:¬ (l=m/\∀ x∈l,x≠0)):Z0l l m=false:=by simp [Z0l];simpa using h
theorem ZfI (k n:Int) (s:Str) (ts:List Int) (h0:¬ ts=[]) (hb:(0:Int)∈ts\/ts.length > 3):Z4P k n s ts=0:=by
 have bg:∀ m:List Int,m.length<=3->Z0l ts m=false:=λm hm=>ZeK (λ⟨h1,h2⟩=>by
  rcases hb with hb|hb
  exact h2 0 hb rfl;rw [h1] at hb;omega)
 unfold Z4P Zan Z6T;simp only [bg _ (show [(1:Int)].length<=3 by decide),bg _ (show [(2:Int)].length<=3 by decide),bg _ (show [(3:Int)].length<=3 by decide),bg [1,1] (by decide),bg [3,3] (by decide),bg [2,2] (by decide),bg [3,1] (by decide),bg [2,ts.getD 1 0,ts.getD 1 0] (by simp),if_neg h0];simp
theorem Zmo (s:Str) (a b:Int) (ha:a≠0) (hb:b≠0) (hr:1<=a/\a<=3) (dh:1<=b/\b<=3):Zan s [a,b]=Z1Y s a b:=by
 unfold Zan Z1Y;simp only [Z31,ZbD];have e:∀ c d:Int,([a,b]=[c,d]/\∀ x∈[a,b],x≠0)↔(a=c/\b=d):=λc d=>by simp [ha,hb]
 simp only [e];by_cases hA:s∈Z0f;have hC:¬ s∈Z2g:=by
  simp only [Z0f,Xb,Xj,or_false] at hA;rcases hA with rfl|rfl|rfl<;>decide
 have hL:¬ s∈Z09:=by
  simp only [Z0f,Xb,Xj,or_false] at hA;rcases hA with rfl|rfl|rfl<;>decide
 simp only [hA,hC,hL,true_and,false_and,if_false,if_true];by_cases h1:a=1/\b=1;rw [if_pos h1,if_pos ⟨by omega,by omega⟩];rw [if_neg h1,if_neg (λh=>by omega)];simp only [hA,false_and,if_false];by_cases hC:s∈Z2g;have hL:¬ s∈Z09:=by
  simp only [Z2g,Xb,Xj,or_false] at hC;rcases hC with rfl|rfl|rfl|rfl|rfl|rfl<;>decide
 simp only [hC,hL,true_and,false_and,if_false,if_true];by_cases h1:a=1/\b=1\/a=3/\b=3;rw [if_pos h1,if_pos ⟨by omega,by omega⟩];rw [if_neg h1,if_neg (λh=>by omega)];simp only [hC,false_and,if_false];by_cases hL:s∈Z09;simp only [hL,true_and,if_true];by_cases h1:a=2/\b=2;rw [if_pos h1,if_pos ⟨by omega,by omega⟩];rw [if_neg h1,if_neg (λh=>by omega)];simp only [hL,false_and,if_false]
def ZiQ:List Sig:=Z3H.map (·.1)
def ZdA (k:Int) (s:Str) (a b c:Int):Int:=
 if c=0 then
  if b=0 then (if k=5/\s=[45]/\a=1 then 1 else if k=5/\s=[110,111,116]/\a=2 then 2 else if k=10/\s∈Z1a/\a=3 then 3 else 0)
  else if a=3/\b=3/\k=10/\s∈Z1b then 3 else if a=3/\b=3/\k=10/\s=[98,101,116,119,101,101,110] then 1 else if a=3/\b=1/\(k=7\/k=8)/\s∈J3 then 3 else 0
 else 0
theorem ZiR:∀ x∈ZiQ,Z3I x=ZdA x.kind x.s x.a x.b x.c:=by
 intro x hx;simp only [ZiQ,Z3H,Zaq,J3,Xs,XL,YaX,YbB,Z1X,XA,XT,XD,Xb,Xj,or_false,ent] at hx;rcases hx with rfl|rfl|rfl|rfl|rfl|rfl|rfl|rfl|rfl|rfl|rfl|rfl|rfl|rfl|rfl<;>decide
theorem Z7t (k:Int) (s:Str) (a b c:Int):Z3I ⟨k,s,a,b,c⟩=ZdA k s a b c:=by
 by_cases hx:(⟨k,s,a,b,c⟩:Sig)∈ZiQ;exact ZiR _ hx;rw [ZfH (λ⟨p,hp,e⟩=>hx (e ▸ Yaj hp))];unfold ZdA;symm;split;rename_i hc;subst hc;split;rename_i hb;subst hb;split;rename_i h;obtain ⟨rfl,rfl,rfl⟩:=h;exact absurd (by decide) hx;split;rename_i h;obtain ⟨rfl,rfl,rfl⟩:=h;exact absurd (by decide) hx;split;rename_i h;obtain ⟨rfl,h,rfl⟩:=h;simp only [Z1a,Xb,Xj,or_false] at h;rcases h with rfl|rfl<;>exact absurd (by decide) hx
 rfl;split;rename_i h;obtain ⟨rfl,rfl,rfl,h⟩:=h;simp only [Z1b,Xb,Xj,or_false] at h;rcases h with rfl|rfl<;>exact absurd (by decide) hx
 split;rename_i h;obtain ⟨rfl,rfl,rfl,rfl⟩:=h;exact absurd (by decide) hx;split;rename_i h;obtain ⟨rfl,rfl,h1,h⟩:=h;simp only [J3,Xb,Xj,or_false] at h;rcases h1 with rfl|rfl<;>rcases h with rfl|rfl|rfl|rfl<;>exact absurd (by decide) hx
 rfl;rfl
theorem ZvR {a x:Int} (ha:a≠0):Z0l [a] [x]=decide (a=x):=by simp [Z0l,ha]
theorem ZvS {a b x y:Int} (ha:a≠0) (hb:b≠0):Z0l [a,b] [x,y]=decide (a=x/\b=y):=by simp [Z0l,ha,hb]
theorem ZvT {a b c x y z:Int} (ha:a≠0) (hb:b≠0) (hc:c≠0):Z0l [a,b,c] [x,y,z]=decide (a=x/\b=y/\c=z):=by simp [Z0l,ha,hb,hc]
theorem JP {l m:List Int} (h:¬ l.length=m.length):Z0l l m=false:=ZeK (λh'=>h (by rw [h'.1]))
theorem ZiS (k n:Int) (s:Str) (ts:List Int) (hr:∀ t∈ts,0<=t/\t<=3):Z4P k n s ts=JB k n s ts:=by
 by_cases h0:ts=[]
 subst h0;simp [Z4P,JB];by_cases hb:(0:Int)∈ts\/ts.length > 3;rw [ZfI k n s ts h0 hb];unfold JB;rcases hb with hb|hb
 simp [hb];simp [show ts.length > 3 from hb];have hz:¬ (0:Int)∈ts:=λh=>hb (.inl h);have hl:¬ ts.length > 3:=λh=>hb (.inr h);unfold Z4P JB;rw [if_neg h0,if_neg hl,if_neg hz,if_neg h0];by_cases hn:¬ n=0;rw [if_pos hn,if_pos hn];rw [if_neg hn,if_neg hn]
 match ts,h0,hl with
 | [a], _, _=>
   have ha:a≠0:=λe=>hz (by simp [e])
   have iI:=hr a (by simp);simp only [Xz,Yal,List.getD_nil,Z7t,Z6T,Zan,Z31,ZvR ha,JP (show ¬ [a].length=[(1:Int),1].length by simp),JP (show ¬ [a].length=[(3:Int),3].length by simp),JP (show ¬ [a].length=[(2:Int),2].length by simp),JP (show ¬ [a].length=[(3:Int),1].length by simp),decide_eq_true_eq];have lI:Z1Y s a 0=0:=by
    unfold Z1Y;have h1:¬ (a=0/\a=1):=λh=>ha h.1;have h2:¬ (a=0/\¬ a=2):=λh=>ha h.1;have h3:¬ (a=0/\a=2):=λh=>ha h.1;simp only [if_neg h1,if_neg h2,if_neg h3,ite_self]
   simp only [lI,ZdA,Xe,Xf,XO,and_false,or_self,if_false]
   grind (splits:=40)
 | [a, b], _, _=>
   have ha:a≠0:=λe=>hz (by simp [e])
   have hb:b≠0:=λe=>hz (by simp [e])
   have iI:=hr a (by simp);have uu:=hr b (by simp);simp only [Xz,Yal,List.getD_nil,Z7t,Z6T,Zmo s a b ha hb (by omega) (by omega),Z31,ZvS ha hb,JP (show ¬ [a,b].length=[(1:Int)].length by simp),JP (show ¬ [a,b].length=[(2:Int)].length by simp),JP (show ¬ [a,b].length=[(3:Int)].length by simp),decide_eq_true_eq];simp only [ZdA,Xe,Xf,XO,and_false,or_self,if_false]
   grind (splits:=40)
 | [a, b, c], _, _=>
   have ha:a≠0:=λe=>hz (by simp [e])
   have hb:b≠0:=λe=>hz (by simp [e])
   have hc:c≠0:=λe=>hz (by simp [e])
   have iI:=hr a (by simp);have uu:=hr b (by simp);have xA:=hr c (by simp);simp only [Xz,Yal,Z7t,Z6T,Zan,Z31,ZvT ha hb hc,JP (show ¬ [a,b,c].length=[(1:Int)].length by simp),JP (show ¬ [a,b,c].length=[(2:Int)].length by simp),JP (show ¬ [a,b,c].length=[(3:Int)].length by simp),JP (show ¬ [a,b,c].length=[(1:Int),1].length by simp),JP (show ¬ [a,b,c].length=[(3:Int),3].length by simp),JP (show ¬ [a,b,c].length=[(2:Int),2].length by simp),JP (show ¬ [a,b,c].length=[(3:Int),1].length by simp),decide_eq_true_eq];simp only [ZdA,Xe,Xf,XO,and_false,or_self,if_false]
   grind (splits:=40)
 | _ :: _ :: _ :: _ :: _,_,hl=>exact absurd (by simp) hl
theorem ZbE (k n:Int) (s:Str):0<=Z0M k n s/\Z0M k n s<=3:=by
 have h:0<=(ZR s).2.1/\(ZR s).2.1<=3:=by
  unfold ZR;dsimp only;split;simp;split<;>simp
 unfold Z0M
 grind
theorem ZbF (k n:Int) (s:Str) (ts:List Int) (hr:∀ t∈ts,0<=t/\t<=3):0<=JB k n s ts/\JB k n s ts<=3:=by
 unfold JB;split;omega;split;omega;split;exact ZbE _ _ _;split;omega;have hg:∀ i,0<=ts.getD i 0/\ts.getD i 0<=3:=by
  intro i;by_cases hi:i<ts.length;have:=hr ts[i] (Xd hi);simpa [List.getD,hi] using this;simp [List.getD,YaU (Yby hi)]
 split;exact hg 1;split;unfold Z1Y;split;split<;>omega
 split;split<;>omega
 split;split<;>omega
 omega;rw [Z7t];unfold ZdA
 grind
theorem Z3J (x:Nd):0<=Ze x/\Ze x<=3:=by
 induction x using Nd.ind with
 | h k n s l ih=>
 rw [Z0N];refine ZbF _ _ _ _ (λt ht=>?_);obtain ⟨y,hy,rfl⟩:=XK.1 ht;exact ih y hy
theorem ZeL (x:Nd):Ze x=Z4P x.kind x.num x.word (x.kids.map Ze):=by
 rw [Z0N,ZiS];intro t ht;obtain ⟨y,hy,rfl⟩:=XK.1 ht;exact Z3J y
def Zz:Nd->Nat
 | .mk k n s l=>1+(l.map Zz).foldl max 0
theorem Z0O (x:Nd):Zz x=1+(x.kids.map Zz).foldl max 0:=by
 cases x;rw [Zz];rfl
theorem Z5t (l:List Nat):∀ (m b:Nat),l.foldl max m<=b↔m<=b/\∀ x∈l,x<=b:=by
 induction l with
 | nil=>intro m b;simp
 | cons y r ih=>
   intro m b;rw [X2,ih];simp only [Xb,forall_eq_or_imp];constructor;rintro ⟨h1,h2⟩;exact ⟨by omega,by omega,h2⟩;rintro ⟨h1,h2,h3⟩;exact ⟨by omega,h3⟩
theorem ZdB (m:Nat):∀ x:Nd,Z19 m x=decide (Zz x<=m):=by
 induction m with
 | zero=>
   intro x;rw [Z0O];simp [Z19]
 | succ m ih=>
   intro x;rw [Z0O];have e:(1+(x.kids.map Zz).foldl max 0<=m+1)↔∀ y∈x.kids,Zz y<=m:=by
    rw [show (1+(x.kids.map Zz).foldl max 0<=m+1)↔(x.kids.map Zz).foldl max 0<=m by omega,Z5t];simp
   rw [Yad,decide_eq_true_iff,e];simp only [Z19,XV];exact ⟨λh y hy=>by have:=h y hy;rw [ih] at this;simpa using this,λh y hy=>by rw [ih];simpa using h y hy⟩
theorem ZbG {x y:Nd} (h:y∈x.kids):Zz y<Zz x:=by
 rw [Z0O x];have:=(Z5t (x.kids.map Zz) 0 ((x.kids.map Zz).foldl max 0)).1 (Xn _);have:=this.2 (Zz y) (Yaj h);omega
theorem ZbH (x:Nd):∀ (X:List Nat) (v:Value) (w),Zz x<=1000000->NdV X w v x->
 CC 184 #[v] w λr w'=>r=.I (Zz x:Int)/\Stp [] w w':=by
 induction x using Nd.ind with
 | h k n s l ih=>
 intro X v w hb hx;generalize iH:Nd.mk k n s l=x at *;have ih':∀ y∈x.kids,∀ (X:List Nat) (v:Value) (w:World),Zz y<=1000000->NdV X w v y->CC 184 #[v] w λr w'=>r=.I (Zz y:Int)/\Stp [] w w':=by
  subst iH;exact ih
 clear ih iH k n s l;obtain ⟨kv,rfl,hs⟩:=hx;have aT:=hs.max;refine cW1 22 Tryz.func184 ?_;refine W ?_;refine Z1 (Zp rfl) rfl ?_;rintro _ w1 ⟨b,rfl,lJ,ac,hS⟩;replace ac:Blk w1 b _ (ndC x kv):=ac;replace hs:=hs.up hS;refine W ?_;have ba:=hs;have ij:=ac;refine LP (σ:=Nat) (λk=>[(1,pQ b),(3,.I ((((x.kids.take k).map Zz).foldl max 0:Nat):Int)),(4,.I k)]) (λk w'=>k<=x.kids.length/\Stp [] w1 w') (λk=>x.kids.length - k) 0 ⟨Xq _,Stp.refl _ _⟩ ?_;clear hs ac;rintro k w2 ⟨hk,ah⟩;have hs:=ba.up ah;have ac:=ij.up ah;by_cases ag:k<x.kids.length;obtain ⟨kv2,bu,ce⟩:=hs.nd ag;have uw:=ZbG (Xd ag);refine QO ?_;apply Z9 (JF rfl rfl hs ag ce) rfl;refine CM (ZP rfl) (ih' x.kids[k] (Xd ag) X _ _ (by omega) ⟨kv2,rfl,bu⟩) ?_;rintro _ w3 ⟨rfl,am⟩;refine W ?_;refine Zx (k+1) ⟨rfl,?_,rfl,trivial⟩ ⟨ag,ah.trans am⟩ (by omega);rw [Xh ag,XQ,Yau];show some _=some _;congr 2;simp only [Xs,XL,X2,List.foldl_nil];omega;have eA:k=x.kids.length:=by omega
 subst eA;have hn:=Z0O x;rw [Xo];refine QO ?_;refine WR ?_;refine .mk ⟨?_,hS.trans ah⟩;rw [hn];congr 1
theorem ZiT (X XF:List Nat) (v:Value) (x:Nd) (w) (hx:NdV X w v x) (hF:SlV XF w Z2x Zf) :
 CC 169 #[v] w λr w'=>r=.tuple #[.I (if Zz x<=12 then Ze x else 0),.I (if Zz x<=12 then (if Ze x=0 then 21 else 0) else 2)]/\Stp [] w w':=by
 obtain ⟨kv,rfl,hs⟩:=hx;refine cW1 13 Tryz.func169 ?_;refine W ?_;refine Z1 (Zp rfl) rfl ?_;rintro _ w1 ⟨b,rfl,lJ,ac,hS⟩;replace ac:Blk w1 b _ (ndC x kv):=ac;replace hs:=hs.up hS;replace hF:=hF.up hS;refine W ?_;refine CM (Zg rfl rfl) (Zdo 12 X _ x 12 _ rfl (by omega) ⟨kv,rfl,hs⟩) ?_;rintro _ w2 ⟨rfl,ah⟩;replace hs:=hs.up ah;replace hF:=hF.up ah;replace ac:=ac.up ah;replace hS:=hS.trans ah;rw [ZdB];by_cases hn:Zz x<=12;rw [decide_eq_true hn,if_pos hn,if_pos hn];refine W ?_;refine CL (ZsA x X XF _ _ ⟨kv,rfl,hs⟩ hF) ?_;rintro _ w3 ⟨rfl,am⟩;replace hS:=hS.trans am
 (refine QP ?_ ?_<;>intro hc)
 refine RU ?_;exact ⟨by rw [if_neg hc],hS⟩;refine WR ?_;have h0:Ze x=0:=by omega
 exact .mk ⟨by rw [if_pos h0,h0],hS⟩;rw [decide_eq_false hn,if_neg hn,if_neg hn];refine RT ?_;exact ⟨rfl,hS⟩
theorem ZdC (X:List Nat) (s:Str) (u:Value) (l:List Int) (w) (hl:SlV X w u l) :
 CC 246 #[str s,u] w λr w'=>r=.I (Z6T s l)/\Stp [] w w':=by
 refine cW2 33 Tryz.func246 ?_;refine W ?_;refine Z1 (Z0 (vs:=[(0,.I 3),(1,.I 3)]) rfl (Z02 _ _)) rfl ?_;rintro a3 w3 hN;have ha:=hN.slv (X:=[]) (ys:=[(3:Int),3]) (by simp) rfl rfl (by simp [maxLen]);have hS:=Z5.stp hN;clear hN;replace hl:=hl.up hS;refine CL (Z1L _ _ _ _ _ _ _ hl ha) ?_;rintro _ w4 ⟨rfl,aI⟩;replace hl:=hl.up aI;replace hS:=hS.trans aI;clear ha;unfold Z6T;generalize Z0l l [3,3]=p3;refine W ?_;refine CM (ZP rfl) (Z13 [] [110,101,120,116,32,112,114,101,118] _ (by simp) (by decide)) ?_;rintro _ w5 ⟨hr,aD⟩;rw [Zdy] at hr;replace hl:=hl.up aD;replace hS:=hS.trans aD;refine W ?_;refine CL (Z0d [] _ _ s _ hr.slv0) ?_;rintro _ w6 ⟨rfl,dj⟩;replace hl:=hl.up dj;replace hS:=hS.trans dj;generalize idx (isS s) Z1a=i1;clear hr;have rest:∀ (w:World) (Q:Exit->Act->World->Prop),True:=λ_ _=>trivial;by_cases hi:0<=i1;all_goals (refine QO ?_)
 all_goals first
  | (refine Z1 (Z0 (vs := [(0, .I 3)]) rfl (Zs _)) rfl ?_
     rintro a1 w7 hN;have ha:=hN.slv (X:=[]) (ys:=[(3:Int)]) (by simp) rfl rfl (by simp [maxLen]);have aQ:=Z5.stp hN;clear hN;replace hl:=hl.up aQ;replace hS:=hS.trans aQ;refine W ?_;refine CL (Z1L _ _ _ _ _ _ _ hl ha) ?_;rintro _ w8 ⟨rfl,cG⟩;replace hl:=hl.up cG;replace hS:=hS.trans cG;generalize Z0l l [3]=p1;cases p1)
  | generalize Z0l l [3]=p1
 all_goals (repeat'(first|refine W1 ?_|omega|refine VG ?_ ?_<;>intro hg|refine VC ?_ ?_<;>intro hc))
 all_goals first
  | (refine RU ?_
     exact ⟨by simp [hi],hS⟩)
  | (refine CM (ZP rfl) (Z13 [] [108, 97, 116, 101, 114, 32, 101, 97, 114, 108, 105, 101, 114] _ (by simp) (by decide)) ?_
     rintro _ w9 ⟨hr,gg⟩;rw [Zdz] at hr;replace hl:=hl.up gg;replace hS:=hS.trans gg;refine W ?_;refine CL (Z0d [] _ _ s _ hr.slv0) ?_;rintro _ w10 ⟨rfl,d7⟩;replace hS:=hS.trans d7;generalize idx (isS s) Z1b=i2;clear hr)
 all_goals by_cases cp:0<=i2
 all_goals cases p3
 all_goals by_cases hs:s=[98,101,116,119,101,101,110]
 all_goals (repeat'(first|refine W1 ?_|omega|refine VG ?_ ?_<;>intro hg|refine VC ?_ ?_<;>intro hc))
 all_goals try contradiction
 all_goals (refine WR ?_)
 all_goals exact .mk ⟨by simp [hi,cp,hs],hS⟩
def okN:Nd->Bool
 | .mk k n s l=>decide (l.length<=1000) && (l.map okN).all id
theorem ZeM (x:Nd):okN x=true↔x.kids.length<=1000/\∀ y∈x.kids,okN y=true:=by
 cases x;rw [okN];simp [Nd.kids]
abbrev ndL (k n:Int) (s:Str) (kv:Value):List Value:=[.I k,.I n,str s,kv]
theorem ZfJ (x:Nd):∀ (X:List Nat) (v:Value) (w),okN x=true->NdV X w v x->
 CC 185 #[v] w λr w'=>r=.I (Ze x)/\Stp [] w w':=by
 induction x using Nd.ind with
 | h k n s l ih=>
 intro X v w aO hx;obtain ⟨bF,de⟩:=(ZeM _).1 aO;replace bF:l.length<=1000:=bF;replace de:∀ y∈l,okN y=true:=de;obtain ⟨kv,rfl,hs⟩:=hx;replace hs:SlV X w kv l:=hs;rw [ZeL];show Calls _ _ _ _ (Ret λr w'=>r=.I (Z4P k n s (l.map Ze))/\Stp [] w w');refine cW1 104 Tryz.func185 ?_;refine W ?_;refine Z1 (Zp rfl) rfl ?_;rintro _ w1 ⟨b,rfl,lJ,ac,hS⟩;replace ac:Blk w1 b _ (ndL k n s kv):=ac;replace hs:=hs.up hS
 (refine QP ?_ ?_<;>intro hc)
 refine CL (Zdr X _ (.mk k n s l) _ ⟨kv,rfl,hs⟩) ?_;rintro _ w2 ⟨rfl,ah⟩;refine W ?_;refine WR ?_;have cR:l=[]:=Xw.1 (by omega);subst cR;exact .mk ⟨by simp [Z4P];rfl,hS.trans ah⟩;have aR:¬ l.map Ze=[]:=by
  intro h;have:=congrArg List.length h;simp at this;subst this;simp at hc
 have ai:(l.map Ze).length=l.length:=by simp
 have cC:∀ i (h:i<l.length) (h':i<(l.map Ze).length),(l.map Ze)[i]=Ze l[i]:=by intro i h h';simp
 generalize cg:l.map Ze=ts at *;refine Z0o (σ:=Value) (λu=>[(1,pQ b),(3,u)]) (λu w'=>SlV [] w' u ts/\Stp [] w1 w') ?_ ?_;have ba:=hs;have ij:=ac;have eC:w1.heap.size<=w1.heap.size:=Xn _;refine LP (σ:=Nat×Value) (λq=>[(1,pQ b),(3,q.2),(4,.I (q.1:Int))]) (λq w'=>q.1<=l.length/\Row [] w' w1.heap.size 3 q.2 (ts.take q.1)/\Stp [] w1 w') (λq=>l.length - q.1) (0,.N) ⟨Xq _,Row.nil,Stp.refl _ _⟩ ?_;clear hs ac;rintro ⟨j,u⟩ w2 ⟨hj,ab,ah⟩;dsimp only at hj ab ⊢;have hs:=ba.up ah;have ac:=ij.up ah;by_cases ag:j<l.length;obtain ⟨kv2,bu,ce⟩:=hs.nd ag;refine QO ?_;apply Z9 (JF rfl rfl hs ag ce) rfl;refine CL (ih l[j] (Xd ag) X _ _ (de _ (Xd ag)) ⟨kv2,rfl,bu⟩) ?_;rintro _ w3 ⟨rfl,am⟩;replace ab:=ab.up am;replace ah:=ah.trans am;refine W ?_;refine Z1 (Z0 (vs:=[(0,.I (Ze l[j]))]) rfl (Zs _)) rfl ?_;rintro bv w4 hN;have an:SlV (ob u++[]) w4 bv [Ze l[j]]:=hN.slv (λb hb=>(ab.ob_le b (by simpa using hb)).2) rfl rfl (by simp [maxLen]);have aI:=Z5.stp hN;clear hN;replace ab:=ab.up aI;replace ah:=ah.trans aI;have aX:=ah.size;have eB:(ts.take j).length<=1000:=by rw [Xv];omega
 refine Z1 (J4 (X:=[]) (base:=w1.heap.size) rfl (by decide) rfl rfl ab an (by simp only [Xe,Xf];omega) (by simp only [Xe,Xf,maxLen];omega) aX) rfl ?_;rintro u' w5 ⟨aC,aD,_⟩;refine W ?_;refine QL (j+1,u') ⟨by dsimp only;omega,?_,ah.own aD (λc hc=>.inr (ab.ob_le c hc).1)⟩ (by dsimp only;omega);dsimp only;rw [Xh (by omega),cC j ag];exact aC;have d8:j=l.length:=by omega
 subst d8;rw [<- ai,Xo] at ab;refine QO ?_;exact QT u ⟨ab.slv0,ah⟩;rintro u w2 ⟨hu,ah⟩;replace ac:=ac.up ah;replace hS:=hS.trans ah;have mD:1<=ts.length:=by
  cases ts with
  | nil=>exact absurd rfl aR
  | cons=>simp
 clear cC cg hs;have h0:∀ (h:0<ts.length),ts.getD 0 0=ts[0]:=λh=>by simp [List.getD,h]
 have h1:∀ (h:1<ts.length),ts.getD 1 0=ts[1]:=λh=>by simp [List.getD,h]
 unfold Z4P;rw [if_neg aR];refine W ?_;by_cases hn:¬ n=0;rw [if_pos hn];refine RT ?_;exact ⟨rfl,hS⟩;rw [if_neg hn];by_cases k5:k=5;subst k5;rw [if_pos rfl];have cR:0<ts.length:=by omega
 by_cases hm:s=[45]\/s=[110,111,116]
 have fin:∀ (z:Int) (p:Bool),(s=[45]/\z=1\/s=[110,111,116]/\z=2)->Z0l ts [z]=p->(if s=[45]/\Z0l ts [1]=true\/s=[110,111,116]/\Z0l ts [2]=true then ts.getD 0 0 else 0)=if p then ts.getD 0 0 else 0:=by
  rintro z p (⟨rfl,rfl⟩|⟨rfl,rfl⟩) hp<;>simp [hp]
 rcases hm with rfl|rfl
 . refine QO ?_
   refine Z1 (Z0 (vs:=[(0,.I 1)]) rfl (Zs _)) rfl ?_;rintro a1 w7 hN;have ha:=hN.slv (X:=[]) (ys:=[(1:Int)]) (by simp) rfl rfl (by simp [maxLen]);have aQ:=Z5.stp hN;clear hN;replace hu:=hu.up aQ;replace ac:=ac.up aQ;replace hS:=hS.trans aQ;refine W ?_;refine CL (Z1L _ _ _ _ _ _ _ hu ha) ?_;rintro _ w8 ⟨rfl,cG⟩;replace hu:=hu.up cG;replace ac:=ac.up cG;replace hS:=hS.trans cG;rw [fin 1 _ (.inl ⟨rfl,rfl⟩) rfl];cases Z0l ts [1] with
   | true=>
     refine QO ?_;refine WR ?_;refine .mk ⟨?_,hS⟩;rw [if_pos rfl,h0 mD]
   | false=>
     refine RT ?_;exact ⟨rfl,hS⟩
 . refine QO ?_
   refine Z1 (Z0 (vs:=[(0,.I 2)]) rfl (Zs _)) rfl ?_;rintro a1 w7 hN;have ha:=hN.slv (X:=[]) (ys:=[(2:Int)]) (by simp) rfl rfl (by simp [maxLen]);have aQ:=Z5.stp hN;clear hN;replace hu:=hu.up aQ;replace ac:=ac.up aQ;replace hS:=hS.trans aQ;refine W ?_;refine CL (Z1L _ _ _ _ _ _ _ hu ha) ?_;rintro _ w8 ⟨rfl,cG⟩;replace hu:=hu.up cG;replace hS:=hS.trans cG;rw [fin 2 _ (.inr ⟨rfl,rfl⟩) rfl];cases Z0l ts [2] with
   | true=>
     refine QO ?_;refine WR ?_;refine .mk ⟨?_,hS⟩;rw [if_pos rfl,h0 mD]
   | false=>
     refine RT ?_;exact ⟨rfl,hS⟩
 . have ik:¬ s=[45]:=λh=>hm (.inl h)
   have eM:¬ s=[110,111,116]:=λh=>hm (.inr h);rw [if_neg (by rintro (⟨h,_⟩|⟨h,_⟩)<;>contradiction)];repeat'(first|refine W1 ?_|omega|refine VG ?_ ?_<;>intro hg|refine VC ?_ ?_<;>intro hc)
   all_goals try contradiction
   refine RU ?_;exact ⟨rfl,hS⟩
 rw [if_neg k5];by_cases k6:k=6;subst k6;rw [if_pos rfl];refine QO ?_;refine CL (Zao [] s u ts _ hu) ?_;rintro _ w3 ⟨rfl,am⟩;refine RT ?_;exact ⟨rfl,hS.trans am⟩;rw [if_neg k6];by_cases k78:k=7\/k=8
 . rw [if_pos k78]
   have n9:¬ k=9:=by omega
   have n10:¬ k=10:=by omega
   (refine QP ?_ ?_<;>intro hc)
   all_goals
    refine ZDr 10 [] [] [(1,0),(2,1),(0,2),(3,2),(4,0),(5,0),(6,0),(7,2),(8,2),(9,0)] (λw1 ae=>?_);replace hu:=hu.up ae;replace ac:=ac.up ae;replace hS:=hS.trans ae;refine D ?_;refine Za rfl trivial (Z6 rfl (ZP rfl) (Z13 [] [100,97,121,115,32,119,101,101,107,115,32,109,111,110,116,104,115,32,99,111,117,114,116,100,97,121,115] _ (by simp) (by decide))) (λ_ _ h=>h.2) rfl ?_;rintro _ w5 ⟨hr,aD⟩;rw [ZbC] at hr;replace hu:=hu.up aD;replace hS:=hS.trans aD;refine DC (Z0d [] _ _ s _ hr.slv0) (λ_ _ h=>h.2) ?_;rintro _ w6 ⟨rfl,dj⟩;replace hu:=hu.up dj;replace hS:=hS.trans dj;generalize idx (isS s) J3=i1;by_cases hi:0<=i1;refine QD ?_;refine Za rfl rfl (Z0 (vs:=[(0,.I 3),(1,.I 1)]) rfl (Z02 _ _)) (λ_ _ h=>Z5.stp h) rfl ?_;rintro a1 w7 hN;have ha:=hN.slv (X:=[]) (ys:=[(3:Int),1]) (by simp) rfl rfl (by simp [maxLen]);have aQ:=Z5.stp hN;clear hN;replace hu:=hu.up aQ;replace hS:=hS.trans aQ;refine DC (Z1L _ _ _ _ _ _ _ hu ha) (λ_ _ h=>h.2) ?_;rintro _ w8 ⟨rfl,cG⟩;replace hS:=hS.trans cG;generalize Z0l ts [3,1]=p;cases p;refine D ?_;refine RT ?_;exact ⟨by simp,hS⟩;refine D ?_;refine RT ?_;exact ⟨by simp [hi],hS⟩;refine QD ?_;refine RT ?_;exact ⟨by simp [hi],hS⟩
 rw [if_neg k78];by_cases k9:k=9;subst k9;rw [if_pos rfl];refine QO ?_;refine ZDr 19 [] [] [(0,0),(1,1),(2,0),(3,0),(4,0),(5,0),(6,0),(7,0),(8,0),(9,0),(10,0),(11,0),(12,1),(13,0),(14,0),(15,1),(16,2),(17,2),(18,0)] (λw1 ae=>?_);replace hu:=hu.up ae;replace ac:=ac.up ae;replace hS:=hS.trans ae;have ol:=hu.max;by_cases hs:s=[]
 subst hs;by_cases h3:ts.length=3;have fI:1<ts.length:=by omega
 have j0:=h1 fI;refine QD ?_;refine Za rfl rfl (Z0 (vs:=[(0,.I 2),(1,.I _),(2,.I _)]) rfl (ZiL _ _ _)) (λ_ _ h=>Z5.stp h) rfl ?_;rintro a1 w7 hN;have ha:=hN.slv (X:=[]) (ys:=[(2:Int),ts[1],ts[1]]) (by simp) rfl rfl (by simp [maxLen]);have aQ:=Z5.stp hN;clear hN;replace hu:=hu.up aQ;replace hS:=hS.trans aQ;refine DC (Z1L _ _ _ _ _ _ _ hu ha) (λ_ _ h=>h.2) ?_;rintro _ w8 ⟨rfl,cG⟩;replace hu:=hu.up cG;replace hS:=hS.trans cG;rw [j0];cases hp:Z0l ts [2,ts[1],ts[1]];refine D ?_;refine RT ?_;exact ⟨by simp,hS⟩;refine D ?_;refine RT ?_;exact ⟨by simp [h3],hS⟩;refine QD ?_;refine RT ?_;exact ⟨by simp [h3],hS⟩
 . repeat'(first|refine D1 ?_|omega|refine Zy rfl rfl rfl rfl (λhg=>?_) (λhg=>?_)|(refine Zq rfl rfl rfl rfl (λhg=>?_) (λhg=>?_)<;>refine D1 ?_)|fail)
   all_goals try contradiction
   refine RT ?_;exact ⟨by simp [hs],hS⟩
 rw [if_neg k9];by_cases k10:k=10;subst k10;rw [if_pos rfl];refine QO ?_;refine CL (ZdC [] s u ts _ hu) ?_;rintro _ w3 ⟨rfl,am⟩;refine RT ?_;exact ⟨rfl,hS.trans am⟩;rw [if_neg k10];refine RT ?_;exact ⟨rfl,hS⟩
end Go.Proofs.YtipfkbkkndacjaaGreatDoor
