/-
Contracts and plain laws, merged out of own texts.
-/
import Derived.WalkKit
import Derived.WalkSpells
import Derived.WalkLawsBesides
import Derived.Shelf.Abstract
import Derived.Orders
import Derived.Test.YtgdicjnjhchooaaGreatDoorRows
import Derived.Laws.StructEq
import Derived.Laws.Small
import Derived.MapKept
import Derived.ChangeKeysEq
set_option linter.unusedVariables false
set_option linter.unusedSimpArgs false
set_option maxHeartbeats 4000000
set_option maxRecDepth 20000
namespace Go
abbrev Xa:=@List.length_append
abbrev Xb:=@List.getElem_mem
abbrev Xc:=@List.mem_cons
abbrev Xd:=@List.mem_append
abbrev Xe:=@List.length_cons
abbrev Xf:=@Bool.and_eq_true
abbrev Xg:=@List.take_succ_eq_append_getElem
abbrev Xh:=@Nat.le_trans
abbrev Xi:=@List.length_nil
abbrev Xj:=@Nat.le_of_ble_eq_true
abbrev Xk:=@Option.some.injEq
abbrev Xl:=@Nat.le_refl
abbrev Xm:=@List.mem_singleton
abbrev Xn:=@List.not_mem_nil
abbrev Xo:=@Array.getElem?_eq_some_iff
abbrev Xp:=@Nat.sub_lt_sub_left
abbrev Xq:=@Nat.eq_of_beq_eq_true
abbrev Xr:=@Nat.zero_le
abbrev Xs:=@List.take_length
abbrev Xt:=@Nat.lt_succ_self
abbrev Xu:=@Nat.mul_le_mul_right
abbrev Xv:=@Nat.lt_of_lt_of_le
abbrev Xw:=@List.getElem?_eq_some_iff
abbrev Xx:=@List.length_take
abbrev Xy:=@List.length_map
abbrev Xz:=@List.append_nil
abbrev XA:=@List.getD_eq_getElem?_getD
abbrev XB:=@List.getElem_of_mem
abbrev XC:=@List.append_assoc
abbrev XD:=@List.pairwise_cons
abbrev XE:=@List.map_cons
abbrev XF:=@Nat.not_lt_zero
abbrev XG:=@List.length_filter_le
abbrev XH:=@Array.getD_eq_getD_getElem?
abbrev XI:=@Int.le_refl
abbrev XJ:=@Nat.zero_add
abbrev XK:=@List.mem_map
abbrev XL:=@List.map_append
abbrev XM:=@Prod.mk.injEq
abbrev XN:=@Option.map_eq_some_iff
abbrev XO:=@List.nil_append
abbrev XP:=@List.foldl_append
abbrev XQ:=@List.all_eq_true
abbrev XR:=@List.getElem?_eq_getElem
abbrev XS:=@List.take_of_length_le
abbrev XT:=@List.filter_cons
abbrev XU:=@Option.some.inj
abbrev XV:=@List.length_eq_zero_iff
abbrev XW:=@List.mem_filter
abbrev XX:=@List.pairwise_append
abbrev XY:=@Option.bind_some
abbrev XZ:=@List.take_append_drop
abbrev X0:=@Nat.ble_eq_true_of_le
abbrev X1:=@List.getElem?_append_left
abbrev X2:=@Array.toArray_toList
abbrev X3:=@Array.getElem?_append_left
abbrev X4:=@Int.toNat_of_nonneg
abbrev X5:=@List.foldl_cons
abbrev X6:=@Option.isSome_iff_exists
abbrev X7:=@List.length_pos_iff
abbrev X8:=@Int.tmod_eq_emod_of_nonneg
abbrev X9:=@List.findIdx?_eq_some_iff_getElem
abbrev Yaa:=@List.cons_append
abbrev Yab:=@Array.length_toList
abbrev Yac:=@List.dropLast_eq_take
abbrev Yad:=@List.mem_of_mem_take
abbrev Yae:=@List.length_drop
abbrev Yaf:=@List.findIdx?_eq_none_iff
abbrev Yag:=@List.pairwise_iff_getElem
abbrev Yah:=@List.size_toArray
abbrev Yai:=@List.getElem?_map
abbrev Yaj:=@List.eq_nil_or_concat
abbrev Yak:=@List.concat_eq_append
abbrev Yal:=@Nat.mul_le_mul
abbrev Yam:=@List.Perm.refl
abbrev Yan:=@List.length_set
abbrev Yao:=@List.map_map
abbrev Yap:=@List.map_nil
abbrev Yaq:=@List.getElem?_take
abbrev Yar:=@Option.bind_eq_some_iff
abbrev Yas:=@List.mem_cons_of_mem
abbrev Yat:=@List.any_eq_true
abbrev Yau:=@Nat.succ_mul
abbrev Yav:=@List.getD_cons_zero
abbrev Yaw:=@List.getD_cons_succ
abbrev Yax:=@Bool.or_eq_true
abbrev Yay:=@Nat.min_eq_left
abbrev Yaz:=@List.getElem_append_right
abbrev YaA:=@List.mem_of_find?_eq_some
abbrev YaB:=@Bool.false_eq_true
abbrev YaC:=@Option.getD_some
abbrev YaD:=@List.filter_append
abbrev YaE:=@List.getElem_append_left
abbrev YaF:=@List.mem_of_mem_drop
abbrev YaG:=@List.flatten_cons
abbrev YaH:=@Bool.eq_false_iff
abbrev YaI:=@Bool.eq_iff_iff
abbrev YaJ:=@List.mem_map_of_mem
abbrev YaK:=@Nat.add_assoc
abbrev YaL:=@Bool.false_or
abbrev YaM:=@List.getElem?_append_right
abbrev YaN:=@Nat.not_lt
abbrev YaO:=@List.find?_eq_none
abbrev YaP:=@List.mem_cons_self
abbrev YaQ:=@Bool.beq_eq_decide_eq
abbrev YaR:=@Array.getElem?_toList
abbrev YaS:=@List.drop_eq_getElem_cons
abbrev YaT:=@Option.map_some
abbrev YaU:=@Array.getElem?_setIfInBounds_ne
abbrev YaV:=@List.flatMap_append
abbrev YaW:=@Nat.le_of_not_lt
abbrev YaX:=@List.getElem?_cons_succ
abbrev YaY:=@List.ext_getElem
abbrev YaZ:=@List.pairwise_singleton
abbrev Ya0:=@List.eq_nil_of_length_eq_zero
abbrev Ya1:=@List.take_append_of_le_length
abbrev Ya2:=@Int.emod_lt_of_pos
abbrev Ya3:=@Array.getElem?_eq_none
abbrev Ya4:=@List.drop_eq_nil_of_le
abbrev Ya5:=@List.getElem?_eq_none
abbrev Ya6:=@Array.getElem?_modify
abbrev Ya7:=@List.flatMap_cons
abbrev Ya8:=@Int.toNat_natCast
abbrev Ya9:=@Bool.not_eq_true'
abbrev Yba:=@Int.tdiv_eq_ediv_of_nonneg
abbrev Ybb:=@List.drop_zero
abbrev Ybc:=@List.take_take
abbrev Ybd:=@Nat.mul_one
abbrev Ybe:=@List.take_append
abbrev Ybf:=@List.mem_flatMap
abbrev Ybg:=@List.drop_length
abbrev Ybh:=@List.getElem_set_ne
abbrev Ybi:=@List.map_congr_left
abbrev Ybj:=@List.filter_sublist
abbrev Ybk:=@List.sum_cons
abbrev Ybl:=@Int.emod_nonneg
abbrev Ybm:=@List.findIdx?_cons
abbrev Ybn:=@List.getElem?_replicate
abbrev Ybo:=@Nat.mul_comm
abbrev Ybp:=@Nat.lt_or_ge
abbrev Ybq:=@List.nodup_append
abbrev Ybr:=@List.append_eq_nil_iff
abbrev Ybs:=@Bool.and_false
abbrev Ybt:=@List.length_mergeSort
abbrev Ybu:=@Bool.and_eq_false_iff
abbrev Ybv:=@List.map_toArray
abbrev Ybw:=@List.flatMap_def
abbrev Ybx:=@Nat.succ_lt_succ
abbrev Yby:=@Nat.add_le_add_right
abbrev Ybz:=@Nat.div_add_mod
abbrev YbA:=@Nat.add_zero
abbrev YbB:=@Nat.pow_succ
abbrev YbC:=@Int.le_trans
abbrev YbD:=@Nat.mod_lt
abbrev YbE:=@Nat.add_sub_cancel
abbrev YbF:=@List.getElem?_drop
abbrev YbG:=@Int.emod_eq_of_lt
abbrev YbH:=@Nat.le_succ
abbrev YbI:=@Bool.true_and
abbrev YbJ:=@List.flatMap_nil
abbrev YbK:=@List.perm_middle
abbrev YbL:=@List.set_append
abbrev YbM:=@List.cons.injEq
abbrev YbN:=@List.of_mem_zip
abbrev YbO:=@List.take_left'
abbrev YbP:=@Int.natCast_add
abbrev YbQ:=@List.find?_cons
abbrev YbR:=@Nat.add_mul
end Go
namespace Go.Eng
open Go Go.RowKit Go.Proofs
abbrev Env:=List (Nat×Value)
def look:Env->Nat->Option Value
 | [],_=>none
 | (k,v) :: r,t=>bif Nat.beq k t then some v else look r t
def ev (e:Env):Operand->Option Value
 | .tmp t=>look e t
 | .const v=>some v
 | .global g=>some (.pointer (some ⟨g,0,none⟩))
 | .func f=>some (.func (.func f) #[] #[])
structure Has (n:Nat) (e:Env) (a:Act):Prop where
 defers:a.defers=[]
 size:a.tmps.size=n
 vals:∀ t v,look e t=some v->a.tmps.getD t undef=v
section basics
variable {n:Nat} {e:Env} {a:Act}
theorem Has.ev {x:Operand} {v:Value} (h:Has n e a) (hx:ev e x=some v):a.eval x=v:=by
 cases x with
 | tmp t=>exact h.vals t v hx
 | const c=>simpa [Eng.ev,Act.eval] using hx
 | global g=>simpa [Eng.ev,Act.eval] using hx
 | func f=>simpa [Eng.ev,Act.eval] using hx
theorem Zf (d:Nat) (v:Value) (e:Env) (t:Nat):look ((d,v) :: e) t=if d=t then some v else look e t:=by
 simp only [look];by_cases h:d=t;subst h;simp
 . have:Nat.beq d t=false:=by
    cases hb:Nat.beq d t with
    | false=>rfl
    | true=>exact absurd (Xq hb) h
   simp [this,h]
theorem Has.put {d:Nat} {v:Value} (h:Has n e a) (hd:Nat.blt d n=true):Has n ((d,v) :: e) (a.put (some d) v):=by
 have hlt:d<a.tmps.size:=by rw [h.size];exact Xj hd
 refine ⟨h.defers,by simp [Act.put,h.size],λt u hu=>?_⟩;rw [Zf] at hu;simp only [Act.put];by_cases ip:d=t;subst ip;simp at hu;subst hu;simp [hlt];rw [if_neg ip] at hu;have:=h.vals t u hu;simpa [YaU ip] using this
theorem Has.weak {e':Env} (h:Has n e a) (hs:∀ t v,look e' t=some v->look e t=some v):Has n e' a:=
 ⟨h.defers,h.size,λt v hv=>h.vals t v (hs t v hv)⟩
def Sub:Env->Env->Prop
 | [],_=>True
 | (k,v) :: r,e=>look e k=some v/\Sub r e
theorem Sub.look {e' e:Env} (h:Sub e' e):∀ t v,Eng.look e' t=some v->Eng.look e t=some v:=by
 induction e' with
 | nil=>intro t v hv;simp [Eng.look] at hv
 | cons p r ih=>
   intro t v hv;obtain ⟨d,u⟩:=p;rw [Zf] at hv;by_cases hd:d=t;subst hd;simp at hv;subst hv;exact h.1;rw [if_neg hd] at hv;exact ih h.2 t v hv
theorem Has.sub {e':Env} (h:Has n e a) (hs:Sub e' e):Has n e' a:=h.weak hs.look
end basics
section judge
variable (P:Program) (n:Nat)
structure WQ (n:Nat) (Q:Exit->Act->World->Prop) (x:Exit) (e:Env) (w:World):Prop where
 h:∀ a,Has n e a->Q x a w
structure WC (c:Code) (Q:Exit->Act->World->Prop) (e:Env) (w:World):Prop where
 h:∀ a,Has n e a->c.wp P Q a w
structure WL (ops:Array Oper) (Q:Exit->Act->World->Prop) (l:List Oper) (e:Env) (w:World):Prop where
 h:∀ a,Has n e a->wpList P ops Q l a w
end judge
section rules
variable {P:Program} {n:Nat} {Q:Exit->Act->World->Prop} {e:Env} {w:World} {ops:Array Oper} {rest:List Oper}
theorem Z4g {x y:Code} (h:WC P n x (Exit.then (λa w=>y.wp P Q a w) Q) e w):WC P n (x.seq y) Q e w:=
 ⟨λa ha=>wp_seq (h.h a ha)⟩
theorem Z3H {y:Code} (h:WC P n y Q e w):WQ n (Exit.then (λa w=>y.wp P Q a w) Q) .normal e w:=⟨λa ha=>h.h a ha⟩
theorem Z1b {N:Act->World->Prop} (h:WQ n Q .ret e w):WQ n (Exit.then N Q) .ret e w:=⟨λa ha=>h.h a ha⟩
theorem Zy {N:Act->World->Prop} {i:Nat} (h:WQ n Q (.exit i) e w):WQ n (Exit.then N Q) (.exit i) e w:=⟨λa ha=>h.h a ha⟩
theorem J8 {i:Nat} (h:WQ n Q .normal e w):WQ n (Exit.inBlock i Q) .normal e w:=⟨λa ha=>h.h a ha⟩
theorem Z8H {i:Nat} (h:WQ n Q .ret e w):WQ n (Exit.inBlock i Q) .ret e w:=⟨λa ha=>h.h a ha⟩
theorem Zt {i:Nat} (h:WQ n Q .normal e w):WQ n (Exit.inBlock i Q) (.exit i) e w:=by
 refine ⟨λa ha=>?_⟩;simp only [Exit.inBlock,if_true];exact h.h a ha
theorem ZB {i j:Nat} (cW:Nat.beq i j=false) (h:WQ n Q (.exit i) e w):WQ n (Exit.inBlock j Q) (.exit i) e w:=by
 refine ⟨λa ha=>?_⟩;simp only [Exit.inBlock];rw [if_neg (Nat.ne_of_beq_eq_false cW)];exact h.h a ha
theorem Z6j (h:WQ n Q .normal e w):WC P n .skip Q e w:=⟨λa ha=>wp_skip (h.h a ha)⟩
theorem Z6u (h:WQ n Q .ret e w):WC P n .ret Q e w:=⟨λa ha=>wp_ret (h.h a ha)⟩
theorem ZjE {i:Nat} (h:WQ n Q (.exit i) e w):WC P n (.exit i) Q e w:=⟨λa ha=>wp_exit (h.h a ha)⟩
theorem Zg0 {i:Nat} {c:Code} (h:WC P n c (Exit.inBlock i Q) e w):WC P n (.block i c) Q e w:=⟨λa ha=>wp_block (h.h a ha)⟩
theorem Z1o {c:Operand} {x y:Code} (hc:ev e c=some (.bool true)) (h:WC P n x Q e w):WC P n (.cond c x y) Q e w:=
 ⟨λa ha=>wp_cond_true (ha.ev hc) (h.h a ha)⟩
theorem Z15 {c:Operand} {x y:Code} (hc:ev e c=some (.bool false)) (h:WC P n y Q e w):WC P n (.cond c x y) Q e w:=
 ⟨λa ha=>wp_cond_false (ha.ev hc) (h.h a ha)⟩
theorem Zdk {c:Operand} {x y:Code} {p:Prop} [Decidable p] (hc:ev e c=some (.bool (decide p))) (ht:p->WC P n x Q e w) (hf:¬ p->WC P n y Q e w):WC P n (.cond c x y) Q e w:=
 ⟨λa ha=>wp_cond_split (ha.ev hc) (λh=>(ht (of_decide_eq_true h)).h a ha) (λh=>(hf (of_decide_eq_false h)).h a ha)⟩
theorem Za2 {c:Operand} {x y:Code} {t:Bool} (hc:ev e c=some (.bool t)) (ht:t=true->WC P n x Q e w) (hf:t=false->WC P n y Q e w):WC P n (.cond c x y) Q e w:=
 ⟨λa ha=>wp_cond_split (ha.ev hc) (λh=>(ht h).h a ha) (λh=>(hf h).h a ha)⟩
theorem Z1A {id:Nat} {l:List Oper} (h:WL P n l.toArray Q l e w):WC P n (.region id l.toArray false) Q e w:=
 ⟨λa ha=>wp_region_lit (h.h a ha)⟩
theorem Z5k (h:WQ n Q .normal e w):WL P n ops Q [] e w:=⟨λa ha=>wpList_nil (h.h a ha)⟩
theorem ZjF {c:Code} (e':Env) (hs:Sub e' e) (h:WC P n c Q e' w):WC P n c Q e w:=⟨λa ha=>h.h a (ha.sub hs)⟩
theorem ZjG {x:Exit} (e':Env) (hs:Sub e' e) (h:WQ n Q x e' w):WQ n Q x e w:=⟨λa ha=>h.h a (ha.sub hs)⟩
theorem Js {x y:Code} {σ:Type} (env:σ->Env) (I:σ->World->Prop)
 (h:WC P n x (Exit.then (λa w=>∃ s,Has n (env s) a/\I s w) Q) e w) (k:∀ s w,I s w->WC P n y Q (env s) w):WC P n x (Exit.then (λa w=>y.wp P Q a w) Q) e w:=
 ⟨λa ha => wp_mono (h.h a ha) (λex a w hq => by
   cases ex with
   | normal=>obtain ⟨s,h1,h2⟩:=hq;exact (k s w h2).h a h1
   | _=>exact hq)⟩
theorem Z0t {x y:Code} {σ:Type} {i:Nat} (env:σ->Env) (I:σ->World->Prop)
 (h:WC P n x (Exit.inBlock i (Exit.then (λa w=>∃ s,Has n (env s) a/\I s w) Q)) e w) (k:∀ s w,I s w->WC P n y Q (env s) w):WC P n x (Exit.inBlock i (Exit.then (λa w=>y.wp P Q a w) Q)) e w:=
 ⟨λa ha => wp_mono (h.h a ha) (λex a w hq => by
   cases ex with
   | normal=>obtain ⟨s,h1,h2⟩:=hq;exact (k s w h2).h a h1
   | exit j=>
     simp only [Exit.inBlock] at hq ⊢;split;rename_i hj;rw [if_pos hj] at hq;obtain ⟨s,h1,h2⟩:=hq;exact (k s w h2).h a h1;rename_i hj;rw [if_neg hj] at hq;exact hq
   | _=>exact hq)⟩
theorem Z0E {σ:Type} {env:σ->Env} {I:σ->World->Prop} (s:σ) (hs:Sub (env s) e) (hI:I s w):WQ n (Exit.then (λa w=>∃ s,Has n (env s) a/\I s w) Q) .normal e w:=
 ⟨λa ha=>⟨s,ha.sub hs,hI⟩⟩
theorem Zm {c:Code} {σ:Type} (env:σ->Env) (I:σ->World->Prop) (μ:σ->Nat) (dV:σ) (hs:Sub (env dV) e) (hI:I dV w)
 (round:∀ s w,I s w->WC P n c (Exit.then (λa' w'=>∃ s',Has n (env s') a'/\I s' w'/\μ s' < μ s) Q) (env s) w):WC P n (.loop c) Q e w:=by
 refine ⟨λa ha=>?_⟩;have key:∀ (k:Nat) (s:σ) (a:Act) (w:World),μ s<=k->Has n (env s) a->I s w->(Code.loop c).wp P Q a w:=by
  intro k s a w _ h1 h2;refine wp_loop (λa' w'=>∃ s',Has n (env s') a'/\I s' w') (λa' w'=>Classical.epsilon (λm=>∃ s',Has n (env s') a'/\I s' w'/\μ s'=m/\∀ s'',Has n (env s'') a'->I s'' w'->m<=μ s'')) ⟨s,h1,h2⟩ ?_;intro a w ⟨s',jC,iq⟩;have iZ:∀ a w,(∃ s',Has n (env s') a/\I s' w)->∃ m,∃ s',Has n (env s') a/\I s' w/\μ s'=m/\∀ s'',Has n (env s'') a->I s'' w->m<=μ s'':=by
   intro a w ⟨s',jC,iq⟩;have:∀ m,∀ s',μ s'=m->Has n (env s') a->I s' w->∃ m,∃ s',Has n (env s') a/\I s' w/\μ s'=m/\∀ s'',Has n (env s'') a->I s'' w->m<=μ s'':=by
    intro m
    induction m using Nat.strongRecOn with
    | _ m ih=>
      intro s' hm h1 h2;by_cases gf:∀ s'',Has n (env s'') a->I s'' w->m<=μ s'';exact ⟨m,s',h1,h2,hm,gf⟩;have:∃ s'',Has n (env s'') a/\I s'' w/\μ s''<m:=by
       refine Classical.byContradiction λbg=>gf λs'' h1 h2=>?_;exact YaW λhlt=>bg ⟨s'',h1,h2,hlt⟩
      obtain ⟨s'',jC,iq,hlt⟩:=this;exact ih _ hlt s'' rfl jC iq
   exact this _ s' rfl jC iq
  obtain ⟨s₁,g1,g2,g3,g4⟩:=Classical.epsilon_spec (iZ a w ⟨s',jC,iq⟩);have hr:=(round s₁ w g2).h a g1;refine wp_mono hr (λex a' w' hq=>?_);cases ex with
  | normal=>
    obtain ⟨s₂,k1,k2,k3⟩:=hq;refine ⟨⟨s₂,k1,k2⟩,?_⟩;obtain ⟨s₃,m1,m2,m3,m4⟩:=Classical.epsilon_spec (iZ a' w' ⟨s₂,k1,k2⟩);have:=m4 s₂ k1 k2;rw [g3] at k3;exact Nat.lt_of_le_of_lt this k3
  | _=>exact hq
 exact key (μ dV) dV a w (Xl _) (ha.sub hs) hI
theorem Zd {σ:Type} {env:σ->Env} {I:σ->World->Prop} {μ:σ->Nat} {m:Nat} (s:σ) (hs:Sub (env s) e) (hI:I s w) (hm:μ s<m) :
 WQ n (Exit.then (λa w=>∃ s,Has n (env s) a/\I s w/\μ s<m) Q) .normal e w:=
 ⟨λa ha=>⟨s,ha.sub hs,hI,hm⟩⟩
structure PR (P:Program) (n:Nat) (o:Oper) (e:Env) (w:World) (v:Value):Prop where
 h:∀ a,Has n e a->(execOp a.eval o).run P w=.ok (.value v) w
theorem Z9 {d:Nat} {op:Op} {ty:TypeId} {pos:String} {af:Array Edge} {v:Value} (hp:PR P n ⟨some d,op,ty,pos,af,none⟩ e w v) (hd:Nat.blt d n=true)
 (k:WL P n ops Q rest ((d,v) :: e) w):WL P n ops Q (⟨some d,op,ty,pos,af,none⟩ :: rest) e w:=by
 refine ⟨λa ha=>?_⟩;refine wpList_plain rfl (λK hK=>?_);unfold Oper.wp;rw [hp.h a ha];exact hK _ _ ((k).h _ (ha.put hd))
structure OE (P:Program) (n:Nat) (o:Oper) (e:Env) (w:World) (G:Value->World->Prop):Prop where
 h:∀ a,Has n e a->∀ (Q:Exit->Act->World->Prop),o.wp P a w (λa' w'=>∃ v,a'=a.put o.dst v/\G v w') Q
theorem Z0 {d:Nat} {op:Op} {ty:TypeId} {pos:String} {af:Array Edge} {G:Value->World->Prop} (hp:OE P n ⟨some d,op,ty,pos,af,none⟩ e w G) (hd:Nat.blt d n=true)
 (k:∀ v w',G v w'->WL P n ops Q rest ((d,v) :: e) w'):WL P n ops Q (⟨some d,op,ty,pos,af,none⟩ :: rest) e w:=by
 refine ⟨λa ha=>?_⟩;refine wpList_plain rfl (λK hK=>?_);refine Oper.wp_mono ?_ (hp.h a ha Q);rintro a' w' ⟨v,rfl,hg⟩;exact hK _ _ ((k v w' hg).h _ (ha.put hd))
theorem Z8 {op:Op} {ty:TypeId} {pos:String} {af:Array Edge} {G:Value->World->Prop} (hp:OE P n ⟨none,op,ty,pos,af,none⟩ e w G)
 (k:∀ v w',G v w'->WL P n ops Q rest e w'):WL P n ops Q (⟨none,op,ty,pos,af,none⟩ :: rest) e w:=by
 refine ⟨λa ha=>?_⟩;refine wpList_plain rfl (λK hK=>?_);refine Oper.wp_mono ?_ (hp.h a ha Q);rintro a' w' ⟨v,rfl,hg⟩;exact hK _ _ ((k v w' hg).h _ ha)
def yld (ops:Array Oper) (e:Env) (j:Nat):Option Value:=((ops[j]?).bind (·.dst)).bind (look e)
theorem Z6v {ops:Array Oper} {a:Act} {j:Nat} {b:Bool} (ha:Has n e a) (h:yld ops e j=some (.bool b)):yielded ops a.tmps j=some b:=by
 unfold yld at h;unfold yielded;cases hd:(ops[j]?).bind (·.dst) with
 | none=>rw [hd] at h;simp at h
 | some d=>
   rw [hd] at h;have:=ha.vals d _ h;simp only [XH] at this;simp only [XY];cases hx:a.tmps[d]? with
   | none=>rw [hx] at this;simp [undef] at this
   | some u=>rw [hx] at this;simp at this;subst this;simp
theorem Zg1 {d:Option Nat} {op:Op} {ty:TypeId} {pos:String} {af:Array Edge} {j:Nat} {b:Bool} (hy:yld ops e j=some (.bool b))
 (k:WL P n ops Q (⟨d,op,ty,pos,af,none⟩ :: rest) e w):WL P n ops Q (⟨d,op,ty,pos,af,some (j,b)⟩ :: rest) e w:=by
 refine ⟨λa ha=>?_⟩;have hk:=k.h a ha;have hw:Region.wanted ⟨d,op,ty,pos,af,some (j,b)⟩ (yielded ops a.tmps)=true:=by simp [Region.wanted,Z6v ha hy]
 unfold wpList at hk ⊢;rw [if_pos hw];rw [if_pos (by simp [Region.wanted])] at hk;exact hk
def ZmN:Value->Bool->Bool
 | .bool c,b=>c != b
 | _,_=>true
def noB (ops:Array Oper) (e:Env):Option (Nat×Bool)->Bool
 | none=>false
 | some (j, b) => match yld ops e j with
   | some u=>ZmN u b
   | none=>false
theorem Z1E {ops:Array Oper} {a:Act} {o:Oper} (ha:Has n e a) (h:noB ops e o.guard=true):Region.wanted o (yielded ops a.tmps)=false:=by
 unfold Region.wanted;cases hg:o.guard with
 | none=>rw [hg] at h;cases h
 | some jb=>
   obtain ⟨j,b⟩:=jb;rw [hg] at h;simp only [noB] at h;cases hy:yld ops e j with
   | none=>rw [hy] at h;cases h
   | some u=>
     rw [hy] at h;unfold yld at hy;show (yielded ops a.tmps j == some b)=false;unfold yielded;cases hd:(ops[j]?).bind (·.dst) with
     | none=>rw [hd] at hy;simp at hy
     | some d=>
       rw [hd] at hy;simp only [XY] at hy;have:=ha.vals d _ hy;simp only [XH] at this;simp only [XY];cases hx:a.tmps[d]? with
       | none=>rfl
       | some z=>
         rw [hx] at this;simp at this;subst this;cases z<;>first|rfl|(simp only [ZmN] at h;cases b<;>simp_all)
theorem Zdl {d:Nat} {op:Op} {ty:TypeId} {pos:String} {af:Array Edge} {j:Nat} {b:Bool} (hy:noB ops e (some (j,b))=true) (hd:Nat.blt d n=true)
 (k:WL P n ops Q rest ((d,undef) :: e) w):WL P n ops Q (⟨some d,op,ty,pos,af,some (j,b)⟩ :: rest) e w:=by
 refine ⟨λa ha=>?_⟩;have hw:Region.wanted ⟨some d,op,ty,pos,af,some (j,b)⟩ (yielded ops a.tmps)=false:=Z1E ha hy;unfold wpList;rw [if_neg (by simp [hw])];exact k.h _ (ha.put hd)
theorem Zg2 {op:Op} {ty:TypeId} {pos:String} {af:Array Edge} {j:Nat} {b:Bool} (hy:noB ops e (some (j,b))=true)
 (k:WL P n ops Q rest e w):WL P n ops Q (⟨none,op,ty,pos,af,some (j,b)⟩ :: rest) e w:=by
 refine ⟨λa ha=>?_⟩;have hw:Region.wanted ⟨none,op,ty,pos,af,some (j,b)⟩ (yielded ops a.tmps)=false:=Z1E ha hy;unfold wpList;rw [if_neg (by simp [hw])];exact k.h _ ha
def Zg3 (ops:Array Oper) (j:Nat):Option Nat:=(ops[j]?).bind (·.dst)
theorem Has.same {a:Act} {d:Nat} {u v:Value} (ha:Has n e a) (h:look e d=some u) (sT:u=v):Has n ((d,v) :: e) a:=by
 subst sT;refine ⟨ha.defers,ha.size,λt x hx=>?_⟩;rw [Zf] at hx;by_cases hd:d=t;subst hd;simp at hx;subst hx;exact ha.vals _ _ h;rw [if_neg hd] at hx;exact ha.vals _ _ hx
theorem Zg4 {d:Nat} {o:Option Nat} {op:Op} {ty:TypeId} {pos:String} {af:Array Edge} {j:Nat} {b:Bool} {p:Prop} [Decidable p] (hj:Zg3 ops j=some d) (hy:look e d=some (.bool (decide p)))
 (ht:p->WL P n ops Q (⟨o,op,ty,pos,af,some (j,b)⟩ :: rest) ((d,.bool true) :: e) w) (hf:¬ p->WL P n ops Q (⟨o,op,ty,pos,af,some (j,b)⟩ :: rest) ((d,.bool false) :: e) w) :
 WL P n ops Q (⟨o,op,ty,pos,af,some (j,b)⟩ :: rest) e w:=by
 refine ⟨λa ha=>?_⟩;by_cases hp:p;exact (ht hp).h a (ha.same hy (by simp [hp]));exact (hf hp).h a (ha.same hy (by simp [hp]))
end rules
def Z39 (l:List Value):Nat->Env
 | k=>match l with|[]=>[]|v :: r=>(k,v) :: Z39 r (k+1)
theorem Z3a (l:List Value):∀ (k t:Nat) (v:Value),look (Z39 l k) t=some v->k<=t/\l[t - k]?=some v:=by
 induction l with
 | nil=>intro k t v h;simp [Z39,look] at h
 | cons x r ih=>
   intro k t v h;simp only [Z39] at h;rw [Zf] at h;by_cases hk:k=t;subst hk;simp at h;simp [h];rw [if_neg hk] at h;obtain ⟨h1,h2⟩:=ih (k+1) t v h;refine ⟨by omega,?_⟩;have:t - k=(t - (k+1))+1:=by omega
   rw [this];simpa using h2
theorem Z05 {P:Program} {f:FuncId} {fn:Func} {c:Code} {args:Array Value} {w:World} {R:Ending->World->Prop} {n:Nat} (hf:P.funcs[f]?=some fn) (hb:fn.body=some c)
 (hn:fn.ntmps=n) (hs:Nat.ble args.size n=true) (h:WC P n c (bodyPost P fn R) (Z39 args.toList 0) w):Calls P f args w R:=by
 refine calls_of_wp hf hb (h.h _ ?_);rw [hn];have du:args.size<=n:=Xj hs;refine ⟨rfl,by simp;omega,λt v hv=>?_⟩;obtain ⟨_,h2⟩:=Z3a _ _ _ _ hv;simp only [Nat.sub_zero] at h2;have hlt:t<args.size:=by
  have:=(Xw.1 h2).1;simpa using this
 have:args[t]?=some v:=by simpa using h2
 have h3:(args++Array.replicate (n - args.size) undef)[t]?=some v:=by
  rw [X3 hlt];exact this
 simp [XH,h3]
section post
variable {P:Program} {n:Nat} {fn:Func} {R:Ending->World->Prop} {e:Env} {w:World}
theorem Zdm (hr:fn.results=#[]) (h:R (.returned (.tuple #[])) w):WQ n (bodyPost P fn R) .ret e w:=
 ⟨λa ha=>⟨ha.defers,_,results_none hr _ _ _,h⟩⟩
theorem Z8I (hr:fn.results=#[]) (h:R (.returned (.tuple #[])) w):WQ n (bodyPost P fn R) .normal e w:=
 ⟨λa ha=>⟨ha.defers,_,results_none hr _ _ _,h⟩⟩
theorem ZjH {t:Nat} {v:Value} (hr:fn.results=#[.tmp t]) (ht:look e t=some v) (h:R (.returned v) w):WQ n (bodyPost P fn R) .ret e w:=
 ⟨λa ha=>⟨ha.defers,_,results_tmp hr _ _ _,by rw [ha.vals t v ht];exact h⟩⟩
theorem ZjI {t u:Nat} {v x:Value} (hr:fn.results=#[.tmp t,.tmp u]) (ht:look e t=some v) (hu:look e u=some x) (h:R (.returned (.tuple #[v,x])) w):WQ n (bodyPost P fn R) .ret e w:=
 ⟨λa ha=>⟨ha.defers,_,results_tmp2 hr _ _ _,by rw [ha.vals t v ht,ha.vals u x hu];exact h⟩⟩
theorem ZjJ {t u s:Nat} {v x y:Value} (hr:fn.results=#[.tmp t,.tmp u,.tmp s]) (ht:look e t=some v) (hu:look e u=some x) (hs:look e s=some y) (h:R (.returned (.tuple #[v,x,y])) w):WQ n (bodyPost P fn R) .ret e w:=
 ⟨λa ha=>⟨ha.defers,.tuple #[v,x,y],by simp [results,hr];simpa [XH] using And.intro (ha.vals t v ht) (And.intro (ha.vals u x hu) (ha.vals s y hs)),h⟩⟩
end post
theorem cW0 {P:Program} {f:FuncId} {fn:Func} {c:Code} {w:World} {R:Ending->World->Prop} (n:Nat) (hf:P.funcs[f]?=some fn) (h:WC P n c (bodyPost P fn R) [] w) (hb:fn.body=some c:=by exact rfl) (hn:fn.ntmps=n:=by exact rfl):Calls P f #[] w R:=Z05 hf hb hn rfl h
theorem cW1 {P:Program} {f:FuncId} {fn:Func} {c:Code} {a0:Value} {w:World} {R:Ending->World->Prop} (n:Nat) (hf:P.funcs[f]?=some fn) (h:WC P n c (bodyPost P fn R) [(0,a0)] w) (hb:fn.body=some c:=by exact rfl) (hn:fn.ntmps=n:=by exact rfl) (hs:Nat.ble 1 n=true:=by exact rfl):Calls P f #[a0] w R:=Z05 hf hb hn hs h
theorem cW2 {P:Program} {f:FuncId} {fn:Func} {c:Code} {a0 a1:Value} {w:World} {R:Ending->World->Prop} (n:Nat) (hf:P.funcs[f]?=some fn) (h:WC P n c (bodyPost P fn R) [(0,a0),(1,a1)] w) (hb:fn.body=some c:=by exact rfl) (hn:fn.ntmps=n:=by exact rfl) (hs:Nat.ble 2 n=true:=by exact rfl):Calls P f #[a0,a1] w R:=Z05 hf hb hn hs h
theorem cW3 {P:Program} {f:FuncId} {fn:Func} {c:Code} {a0 a1 a2:Value} {w:World} {R:Ending->World->Prop} (n:Nat) (hf:P.funcs[f]?=some fn) (h:WC P n c (bodyPost P fn R) [(0,a0),(1,a1),(2,a2)] w) (hb:fn.body=some c:=by exact rfl) (hn:fn.ntmps=n:=by exact rfl) (hs:Nat.ble 3 n=true:=by exact rfl):Calls P f #[a0,a1,a2] w R:=Z05 hf hb hn hs h
theorem cW4 {P:Program} {f:FuncId} {fn:Func} {c:Code} {a0 a1 a2 a3:Value} {w:World} {R:Ending->World->Prop} (n:Nat) (hf:P.funcs[f]?=some fn) (h:WC P n c (bodyPost P fn R) [(0,a0),(1,a1),(2,a2),(3,a3)] w) (hb:fn.body=some c:=by exact rfl) (hn:fn.ntmps=n:=by exact rfl) (hs:Nat.ble 4 n=true:=by exact rfl):Calls P f #[a0,a1,a2,a3] w R:=Z05 hf hb hn hs h
theorem cW5 {P:Program} {f:FuncId} {fn:Func} {c:Code} {a0 a1 a2 a3 a4:Value} {w:World} {R:Ending->World->Prop} (n:Nat) (hf:P.funcs[f]?=some fn) (h:WC P n c (bodyPost P fn R) [(0,a0),(1,a1),(2,a2),(3,a3),(4,a4)] w) (hb:fn.body=some c:=by exact rfl) (hn:fn.ntmps=n:=by exact rfl) (hs:Nat.ble 5 n=true:=by exact rfl):Calls P f #[a0,a1,a2,a3,a4] w R:=Z05 hf hb hn hs h
class Und (P:Program) (t:Nat) (d:outParam TypeDesc):Prop where
 h:P.underlying t=some d
class Siz (P:Program) (t:Nat) (k:outParam Nat):Prop where
 h:(P.info? t).map (·.size)=some k
class Zer (P:Program) (t:Nat) (z:outParam Value):Prop where
 h:(P.info? t).bind (·.zero)=some z
class Byt (P:Program) (t:Nat) (k:outParam Nat):Prop where
 h:(P.info? t).map (·.bytes)=some k
class Fld (P:Program) (t i:Nat) (off:outParam Nat):Prop where
 h:∃ fs f k,P.underlying t=some (.struct fs)/\fs[i]?=some f/\f.offset=off/\(P.info? f.type).map (·.size)=some (k+1)
class Fun (P:Program) (f:Nat) (fn:outParam Func):Prop where
 h:P.funcs[f]?=some fn
 enters:Enters P f
theorem Siz.run {P:Program} {t k:Nat} [h:Siz P t k] (w:World):(sizeOf t).run P w=.ok k w:=by
 have:=h.h;cases hi:P.info? t with
 | none=>simp [hi] at this
 | some i=>rw [hi] at this;simp at this;simp [sizeOf,typeInfo,hi,this]
theorem Zer.run {P:Program} {t:Nat} {z:Value} [h:Zer P t z] (w:World):(zeroValue t).run P w=.ok z w:=by
 have:=h.h;cases hi:P.info? t with
 | none=>simp [hi] at this
 | some i=>rw [hi] at this;simp at this;simp [zeroValue,typeInfo,hi,this]
def Z06:TypeDesc->Bool
 | .struct _|.array _ _=>true
 | _=>false
theorem Und.isAgg {P:Program} {t:Nat} {d:TypeDesc} [h:Und P t d] (w:World):(Go.isAgg t).run P w=.ok (Z06 d) w:=by
 cases d<;>simp [Go.isAgg,run_underlying h.h,Z06]
section rules
variable {P:Program} {n:Nat} {e:Env} {w:World} {d:Option Nat} {ty:TypeId} {pos:String} {af:Array Edge} {g:Option (Nat×Bool)}
theorem ZX {x:Operand} {v:Value} (hx:ev e x=some v):PR P n ⟨d,.move x,ty,pos,af,g⟩ e w v:=⟨λa ha=>by simp [execOp,ha.ev hx]⟩
theorem Z5l {x:Operand} {v:Value} (hx:ev e x=some v):PR P n ⟨d,.assign x,ty,pos,af,g⟩ e w v:=⟨λa ha=>by simp [execOp,ha.ev hx]⟩
theorem Z80 {c x y:Operand} {v:Value} (hc:ev e c=some (.bool true)) (hx:ev e x=some v):PR P n ⟨d,.pick c x y,ty,pos,af,g⟩ e w v:=
 ⟨λa ha=>by simp [execOp,ha.ev hc,ha.ev hx,asBool]⟩
theorem Z81 {c x y:Operand} {v:Value} (hc:ev e c=some (.bool false)) (hx:ev e y=some v):PR P n ⟨d,.pick c x y,ty,pos,af,g⟩ e w v:=
 ⟨λa ha=>by simp [execOp,ha.ev hc,ha.ev hx,asBool]⟩
theorem ZbT {x:Operand} {b:Bool} (hx:ev e x=some (.bool b)) {t:TypeId}:PR P n ⟨d,.unOp .not t x,ty,pos,af,g⟩ e w (.bool (!b)):=
 ⟨λa ha=>by simp [execOp,ha.ev hx,Op.unary]⟩
theorem Zg5 {x:Operand} (hx:ev e x=some (.bool true)) {t:TypeId}:PR P n ⟨d,.unOp .not t x,ty,pos,af,g⟩ e w (.bool false):=
 ⟨λa ha=>by simp [execOp,ha.ev hx,Op.unary]⟩
theorem Zg6 {x:Operand} (hx:ev e x=some (.bool false)) {t:TypeId}:PR P n ⟨d,.unOp .not t x,ty,pos,af,g⟩ e w (.bool true):=
 ⟨λa ha=>by simp [execOp,ha.ev hx,Op.unary]⟩
def I64 (z:Int):Prop:=-9223372036854775808<=z/\z<=9223372036854775807
theorem Z0x {z:Int} (h:I64 z):IntKind.i64.wrap z=z:=by
 unfold I64 at h;rw [IntKind.wrap_i64];omega
section arith
variable {x y:Operand} {a b:Int} {t u:TypeId}
theorem Zg7 (hx:ev e x=some (.int .i64 a)) (hy:ev e y=some (.int .i64 b)) (hr:I64 (a+b)):PR P n ⟨d,.binOp .add t x y u,ty,pos,af,g⟩ e w (.int .i64 (a+b)):=
 ⟨λc ha=>by simp only [execOp,ha.ev hx,ha.ev hy];simp [go_sem,Op.intArith,Z0x hr]⟩
theorem Z5m (hx:ev e x=some (.int .i64 a)) (hy:ev e y=some (.int .i64 b)) (hr:I64 (a - b)):PR P n ⟨d,.binOp .sub t x y u,ty,pos,af,g⟩ e w (.int .i64 (a - b)):=
 ⟨λc ha=>by simp only [execOp,ha.ev hx,ha.ev hy];simp [go_sem,Op.intArith,Z0x hr]⟩
theorem ZmO (hx:ev e x=some (.int .i64 a)) (hy:ev e y=some (.int .i64 b)) (hr:I64 (a * b)):PR P n ⟨d,.binOp .mul t x y u,ty,pos,af,g⟩ e w (.int .i64 (a * b)):=
 ⟨λc ha=>by simp only [execOp,ha.ev hx,ha.ev hy];simp [go_sem,Op.intArith,Z0x hr]⟩
theorem ZmP (hx:ev e x=some (.int .i64 a)) (hr:I64 (- a)):PR P n ⟨d,.unOp .neg t x,ty,pos,af,g⟩ e w (.int .i64 (- a)):=
 ⟨λc ha=>by simp only [execOp,ha.ev hx];simp [go_sem,Op.unary,Op.intArith,Z0x hr]⟩
theorem Zg8 (hx:ev e x=some (.int .i64 a)) (hy:ev e y=some (.int .i64 b)) (hb:b≠0) (hr:I64 (a.tmod b)):PR P n ⟨d,.binOp .rem t x y u,ty,pos,af,g⟩ e w (.int .i64 (a.tmod b)):=
 ⟨λc ha=>by simp only [execOp,ha.ev hx,ha.ev hy];simp [go_sem,Op.intDiv,hb];try rw [Z0x hr]⟩
theorem Zg9 (hx:ev e x=some (.int .i64 a)) (hy:ev e y=some (.int .i64 b)) (hb:b≠0) (hr:I64 (a.tdiv b)):PR P n ⟨d,.binOp .quo t x y u,ty,pos,af,g⟩ e w (.int .i64 (a.tdiv b)):=
 ⟨λc ha=>by simp only [execOp,ha.ev hx,ha.ev hy];simp [go_sem,Op.intDiv,hb];try rw [Z0x hr]⟩
theorem Zdn (hx:ev e x=some (.int .i64 a)) (hy:ev e y=some (.int .i64 b)) (h0:0<=a) (hb:0<b) (hr:I64 a):PR P n ⟨d,.binOp .rem t x y u,ty,pos,af,g⟩ e w (.int .i64 (a % b)):=by
 have h1:a.tmod b=a % b:=X8 h0;rw [<- h1];refine Zg8 hx hy (by omega) ?_;rw [h1];have:=Ybl a (show b≠0 by omega);have h2:a % b<=a:=by
  by_cases bM:a<b;rw [YbG h0 bM];exact XI _;have:=Ya2 a hb;omega
 unfold I64 at hr ⊢;omega
theorem Zdo (hx:ev e x=some (.int .i64 a)) (hy:ev e y=some (.int .i64 b)) (h0:0<=a) (hb:0<b) (hr:I64 a):PR P n ⟨d,.binOp .quo t x y u,ty,pos,af,g⟩ e w (.int .i64 (a / b)):=by
 have h1:a.tdiv b=a / b:=Yba h0;rw [<- h1];refine Zg9 hx hy (by omega) ?_;rw [h1];have:=Int.ediv_nonneg h0 (Int.le_of_lt hb);have h2:a / b<=a:=Int.ediv_le_self _ h0;unfold I64 at hr ⊢;omega
variable {k:IntKind}
theorem ZbU (hx:ev e x=some (.int k a)) (hy:ev e y=some (.int k b)):PR P n ⟨d,.binOp .lss t x y u,ty,pos,af,g⟩ e w (.bool (decide (a<b))):=
 ⟨λc ha=>by simp only [execOp,ha.ev hx,ha.ev hy];simp [go_sem]⟩
theorem Zga (hx:ev e x=some (.int k a)) (hy:ev e y=some (.int k b)):PR P n ⟨d,.binOp .leq t x y u,ty,pos,af,g⟩ e w (.bool (decide (a<=b))):=
 ⟨λc ha=>by simp only [execOp,ha.ev hx,ha.ev hy];simp [go_sem]⟩
theorem ZbV (hx:ev e x=some (.int k a)) (hy:ev e y=some (.int k b)):PR P n ⟨d,.binOp .gtr t x y u,ty,pos,af,g⟩ e w (.bool (decide (b<a))):=
 ⟨λc ha=>by simp only [execOp,ha.ev hx,ha.ev hy];simp [go_sem]⟩
theorem Zgb (hx:ev e x=some (.int k a)) (hy:ev e y=some (.int k b)):PR P n ⟨d,.binOp .geq t x y u,ty,pos,af,g⟩ e w (.bool (decide (b<=a))):=
 ⟨λc ha=>by simp only [execOp,ha.ev hx,ha.ev hy];simp [go_sem]⟩
theorem Zgc (hx:ev e x=some (.int k a)) (hy:ev e y=some (.int k b)):PR P n ⟨d,.binOp .eql t x y u,ty,pos,af,g⟩ e w (.bool (decide (a=b))):=
 ⟨λc ha=>by simp only [execOp,ha.ev hx,ha.ev hy];simp [go_sem];exact YaQ a b⟩
theorem ZbW (hx:ev e x=some (.int k a)) (hy:ev e y=some (.int k b)):PR P n ⟨d,.binOp .neq t x y u,ty,pos,af,g⟩ e w (.bool (decide (¬ a=b))):=
 ⟨λc ha=>by simp only [execOp,ha.ev hx,ha.ev hy];simp [go_sem];rw [bne,YaQ]⟩
theorem Zdp {p q:Bool} [hu:Und P t .bool] (hx:ev e x=some (.bool p)) (hy:ev e y=some (.bool q)):PR P n ⟨d,.binOp .eql t x y u,ty,pos,af,g⟩ e w (.bool (decide (p=q))):=
 ⟨λc ha=>by simp only [execOp,ha.ev hx,ha.ev hy];simp [go_sem,binOp,run_equal_bool w t p q hu.h];cases p<;>cases q<;>rfl⟩
theorem Z8J {p q:Bool} [hu:Und P t .bool] (hx:ev e x=some (.bool p)) (hy:ev e y=some (.bool q)):PR P n ⟨d,.binOp .neq t x y u,ty,pos,af,g⟩ e w (.bool (decide (¬ p=q))):=
 ⟨λc ha=>by simp only [execOp,ha.ev hx,ha.ev hy];simp [go_sem,binOp,run_equal_bool w t p q hu.h];cases p<;>cases q<;>rfl⟩
end arith
theorem Z0Y {x:Operand} {vs:Array Value} {i:Nat} {v:Value} (hx:ev e x=some (.tuple vs)) (hv:vs[i]?=some v):PR P n ⟨d,.extract x i,ty,pos,af,g⟩ e w v:=
 ⟨λa ha=>by simp [execOp,ha.ev hx,Instr.extract,hv]⟩
theorem ZbX {x:Operand} {t:TypeId} {el:TypeId} [hu:Und P t (.slice el)] {p:Option Addr} {l c:Nat} (hx:ev e x=some (.slice p l c)) :
 PR P n ⟨d,.call { callee:=.builtin .len,args:=#[x],argTypes:=#[t] },ty,pos,af,g⟩ e w (.int .i64 (l:Int)):=
 ⟨λa ha => by
   have:=run_len_slice (P:=P) w t ty p l c (by rw [hu.h,Program.elem,hu.h]);simp [execOp,resolve,invoke,builtin,ha.ev hx,this,goInt]⟩
theorem Z5N {t i off:Nat} [h:Fld P t i off] (b o:Nat) (w:World):(Instr.fieldAt t (.pointer (some ⟨b,o,none⟩)) i).run P w=.ok (.pointer (some ⟨b,o+off,none⟩)) w:=by
 obtain ⟨fs,f,k,h1,h2,rfl,h3⟩:=h.h;have:Siz P f.type (k+1):=⟨h3⟩
 simp [Instr.fieldAt,run_underlying h1,h2,Instr.sureAddr,fieldPlace,Siz.run,Addr.add_lit]
theorem Z4v {x:Operand} {t:TypeId} {b o i off:Nat} [hf:Fld P t i off] (hx:ev e x=some (.pointer (some ⟨b,o,none⟩))):PR P n ⟨d,.fieldAddr t x i,ty,pos,af,g⟩ e w (.pointer (some ⟨b,o+off,none⟩)):=
 ⟨λa ha=>by simp [execOp,ha.ev hx,Z5N]⟩
theorem Jp {x:Operand} {t:TypeId} {D:TypeDesc} {ad:Addr} {v:Value} [hu:Und P t D] (hA:Z06 D=false) (hx:ev e x=some (.pointer (some ad))) (hc:w.cell? ad=some v) :
 PR P n ⟨d,.load t x,ty,pos,af,g⟩ e w v:=
 ⟨λa ha=>by simp [execOp,ha.ev hx,Instr.loadAt,Instr.sureAddr,loadVar,Und.isAgg,hA,hc]⟩
theorem Z2g {x:Operand} {t:TypeId} {D:TypeDesc} {b o k:Nat} {cs:List Value} [hu:Und P t D] (hA:Z06 D=true) [hs:Siz P t k] (hx:ev e x=some (.pointer (some ⟨b,o,none⟩)))
 (hl:cs.length=k) (hc:∀ j u,cs[j]?=some u->w.cell? ⟨b,o+j,none⟩=some u) :
 PR P n ⟨d,.load t x,ty,pos,af,g⟩ e w (.agg cs.toArray):=
 ⟨λa ha => by
   have:=run_loadCells_list (P:=P) w ⟨b,o,none⟩ cs (λj v h=>by rw [Addr.add_lit];exact hc j v h);rw [hl] at this;simp [execOp,ha.ev hx,Instr.loadAt,Instr.sureAddr,loadVar,Und.isAgg,hA,Siz.run,this]⟩
theorem Z8K {f:Nat}:PR P n ⟨d,.makeFunc (.func f) #[] #[],ty,pos,af,g⟩ e w (.func (.func f) #[] #[]):=
 ⟨λa ha=>by simp [execOp,Instr.makeFunc]⟩
theorem Z8L {f:Nat} {x:Operand} {v:Value} (hx:ev e x=some v):PR P n ⟨d,.makeFunc (.func f) #[] #[x],ty,pos,af,g⟩ e w (.func (.func f) #[] #[v]):=
 ⟨λa ha=>by simp [execOp,Instr.makeFunc,ha.ev hx]⟩
theorem Z8M {f:Nat} {x y:Operand} {v u:Value} (hx:ev e x=some v) (hy:ev e y=some u):PR P n ⟨d,.makeFunc (.func f) #[] #[x,y],ty,pos,af,g⟩ e w (.func (.func f) #[] #[v,u]):=
 ⟨λa ha=>by simp [execOp,Instr.makeFunc,ha.ev hx,ha.ev hy]⟩
theorem Z8N {f:Nat} {x y z:Operand} {v u s:Value} (hx:ev e x=some v) (hy:ev e y=some u) (hz:ev e z=some s):PR P n ⟨d,.makeFunc (.func f) #[] #[x,y,z],ty,pos,af,g⟩ e w (.func (.func f) #[] #[v,u,s]):=
 ⟨λa ha=>by simp [execOp,Instr.makeFunc,ha.ev hx,ha.ev hy,ha.ev hz]⟩
def Ret (G:Value->World->Prop) (r:Ending) (w':World):Prop:=∃ v,r=.returned v/\G v w'
theorem Ret.mk {G:Value->World->Prop} {v:Value} {w':World} (h:G v w'):Ret G (.returned v) w':=⟨v,rfl,h⟩
theorem Calls.ret {P:Program} {f:FuncId} {args:Array Value} {w:World} {G G':Value->World->Prop} (h:Calls P f args w (Ret G)) (hg:∀ v w',G v w'->G' v w'):Calls P f args w (Ret G'):=
 h.mono λ_ _ ⟨v,h1,h2⟩=>⟨v,h1,hg _ _ h2⟩
theorem Z3 {f:Nat} {fn:Func} {xs:Array Operand} {ts:Array TypeId} {vs:Array Value} {G:Value->World->Prop} {c:Operand} [hf:Fun P f fn] (hc:ev e c=some (.func (.func f) #[] #[]))
 (hv:∀ a,Has n e a->xs.map a.eval=vs) (h:Calls P f vs w (Ret G)) :
 OE P n ⟨d,.call { callee:=.value c,args:=xs,argTypes:=ts },ty,pos,af,g⟩ e w G:=
 ⟨λa ha Q => by
   have he:(execOp a.eval ⟨d,.call { callee:=.value c,args:=xs,argTypes:=ts },ty,pos,af,g⟩).run P w=.ok (.enter f vs) w:=by
    simp only [execOp,resolve,ha.ev hc,Deferred.ofValue,hv a ha];simp [invoke];exact hf.enters vs w
   unfold Oper.wp;rw [he];simp only [Oper.upon];refine h.mono ?_;rintro r w' ⟨v,rfl,hg⟩;exact ⟨v,rfl,hg⟩⟩
theorem Z0F {f:Nat} {fn:Func} {xs:Array Operand} {ts:Array TypeId} {vs cap us:Array Value} {G:Value->World->Prop} {c:Operand} [hf:Fun P f fn] (hc:ev e c=some (.func (.func f) #[] cap))
 (hv:∀ a,Has n e a->xs.map a.eval=vs) (hu:vs++cap=us) (h:Calls P f us w (Ret G)) :
 OE P n ⟨d,.call { callee:=.value c,args:=xs,argTypes:=ts },ty,pos,af,g⟩ e w G:=
 ⟨λa ha Q => by
   have he:(execOp a.eval ⟨d,.call { callee:=.value c,args:=xs,argTypes:=ts },ty,pos,af,g⟩).run P w=.ok (.enter f us) w:=by
    simp only [execOp,resolve,ha.ev hc,Deferred.ofValue,hv a ha];simp [invoke,hu];exact hf.enters us w
   unfold Oper.wp;rw [he];simp only [Oper.upon];refine h.mono ?_;rintro r w' ⟨v,rfl,hg⟩;exact ⟨v,rfl,hg⟩⟩
theorem Z7F:∀ a,Has n e a->(#[]:Array Operand).map a.eval=#[]:=λa ha=>by simp
theorem ZS {x:Operand} {v:Value} (hx:ev e x=some v):∀ a,Has n e a->#[x].map a.eval=#[v]:=λa ha=>by simp [ha.ev hx]
theorem Zg {x y:Operand} {v u:Value} (hx:ev e x=some v) (hy:ev e y=some u):∀ a,Has n e a->#[x,y].map a.eval=#[v,u]:=λa ha=>by simp [ha.ev hx,ha.ev hy]
theorem ZJ {x y z:Operand} {v u s:Value} (hx:ev e x=some v) (hy:ev e y=some u) (hz:ev e z=some s):∀ a,Has n e a->#[x,y,z].map a.eval=#[v,u,s]:=λa ha=>by simp [ha.ev hx,ha.ev hy,ha.ev hz]
theorem Z40 {x y z k:Operand} {v u s r:Value} (hx:ev e x=some v) (hy:ev e y=some u) (hz:ev e z=some s) (hk:ev e k=some r):∀ a,Has n e a->#[x,y,z,k].map a.eval=#[v,u,s,r]:=
 λa ha=>by simp [ha.ev hx,ha.ev hy,ha.ev hz,ha.ev hk]
theorem Zr2 {x y z k l:Operand} {v u s r q:Value} (hx:ev e x=some v) (hy:ev e y=some u) (hz:ev e z=some s) (hk:ev e k=some r) (hl:ev e l=some q):∀ a,Has n e a->#[x,y,z,k,l].map a.eval=#[v,u,s,r,q]:=
 λa ha=>by simp [ha.ev hx,ha.ev hy,ha.ev hz,ha.ev hk,ha.ev hl]
end rules
theorem mkF {P:Program} {f:Nat} {fn:Func} {c:Code} (h:P.funcs[f]?=some fn) (h2:(fn.name == "runtime.NumGoroutine")=false:=by kernel_rfl) (h3:fn.body=some c:=by exact rfl):Fun P f fn:=⟨h,enters_of h h2 h3⟩
theorem uM {P:Program} {t:Nat} {d:TypeDesc} (h:P.underlying t=some d):Und P t d:=⟨h⟩
end Go.Eng
namespace Go.Proofs.YtgdicjnjhchooaaGreatDoor
open Go Go.Eng
theorem sMz (t k:Nat) (h:(Tryz.prog.info? t).map (·.size)=some k:=by kernel_rfl):Siz Tryz.prog t k:=⟨h⟩
theorem bMz (t k:Nat) (h:(Tryz.prog.info? t).map (·.bytes)=some k:=by kernel_rfl):Byt Tryz.prog t k:=⟨h⟩
theorem zMz (t:Nat) (z:Value) (h:(Tryz.prog.info? t).bind (·.zero)=some z:=by kernel_rfl):Zer Tryz.prog t z:=⟨h⟩
theorem fMz {t:Nat} (i off k:Nat) {fs:Array Field} {f:Field} (hu:Tryz.prog.underlying t=some (.struct fs)) (h1:fs[i]?=some f:=by exact rfl) (h2:f.offset=off:=by exact rfl) (h3:(Tryz.prog.info? f.type).map (·.size)=some (k+1):=by kernel_rfl):Fld Tryz.prog t i off:=⟨fs,f,k,hu,h1,h2,h3⟩
theorem mixed:Tryz.prog.follows .mixedOrders=true:=by kernel_rfl
abbrev Zuy:=uM Tryz.underlying3
abbrev Zuz:=sMz 3 1
abbrev ZuA:=bMz 3 8
abbrev ZuB:=zMz 3 (.int .i64 0)
abbrev ZuC:=uM Tryz.underlying4
abbrev ZuD:=sMz 4 1
abbrev ZuE:=zMz 4 (.bool false)
abbrev ZuF:=uM Tryz.underlying9
abbrev ZuG:=sMz 9 1
abbrev ZuH:=bMz 9 16
abbrev ZuI:=zMz 9 (.string ByteArray.empty)
abbrev Zr3:=uM Tryz.underlying20
abbrev Zr4:=uM Tryz.underlying22
abbrev Zr5:=sMz 22 1
abbrev Zr6:=uM Tryz.underlying23
abbrev Zr7:=sMz 23 1
abbrev Zr8:=zMz 23 (.slice none 0 0)
abbrev Zr9:=uM Tryz.underlying24
abbrev Zra:=sMz 24 1
abbrev Zrb:=uM Tryz.underlying25
abbrev Zrc:=sMz 25 1
abbrev Zrd:=uM Tryz.underlying26
abbrev Zre:=uM Tryz.underlying27
abbrev Zrf:=sMz 27 1
abbrev Zrg:=zMz 27 (.slice none 0 0)
abbrev Zrh:=uM Tryz.underlying28
abbrev Zri:=uM Tryz.underlying29
abbrev Zrj:=sMz 29 1
abbrev Zrk:=uM Tryz.underlying30
abbrev Zrl:=sMz 30 1
abbrev Zrm:=uM Tryz.underlying31
abbrev Zrn:=sMz 31 1
abbrev Zro:=uM Tryz.underlying33
abbrev Zrp:=sMz 33 2
abbrev Zrq:=zMz 33 (.agg #[.int .i64 0,.slice none 0 0])
abbrev ZjK:=fMz 1 1 0 Tryz.underlying33
abbrev Zrr:=uM Tryz.underlying35
abbrev Zrs:=sMz 35 12
abbrev Zrt:=zMz 35 (.agg #[.bool false,.bool false,.bool false,.bool false,.bool false,.bool false,.bool false,.slice none 0 0,.slice none 0 0,.int .i64 0,.slice none 0 0,.int .i64 0])
abbrev ZjL:=fMz 0 0 6 Tryz.underlying35
abbrev ZjM:=fMz 1 7 0 Tryz.underlying35
abbrev ZjN:=fMz 2 8 0 Tryz.underlying35
abbrev ZjO:=fMz 3 9 1 Tryz.underlying35
abbrev Zru:=uM Tryz.underlying37
abbrev Zrv:=sMz 37 19
abbrev Zrw:=zMz 37 (.agg #[.slice none 0 0,.slice none 0 0,.slice none 0 0,.slice none 0 0,.slice none 0 0,.bool false,.bool false,.bool false,.bool false,.bool false,.bool false,.bool false,.slice none 0 0,.slice none 0 0,.int .i64 0,.slice none 0 0,.int .i64 0,.int .i64 0,.int .i64 0])
abbrev ZjP:=fMz 0 0 0 Tryz.underlying37
abbrev ZjQ:=fMz 1 1 0 Tryz.underlying37
abbrev ZjR:=fMz 2 2 0 Tryz.underlying37
abbrev ZjS:=fMz 3 3 0 Tryz.underlying37
abbrev ZjT:=fMz 4 4 0 Tryz.underlying37
abbrev ZjU:=fMz 5 5 11 Tryz.underlying37
abbrev ZjV:=fMz 6 17 0 Tryz.underlying37
abbrev ZjW:=fMz 7 18 0 Tryz.underlying37
abbrev Zrx:=uM Tryz.underlying40
abbrev Zry:=sMz 40 6
abbrev Zrz:=bMz 40 56
abbrev ZrA:=zMz 40 (.agg #[.int .i64 0,.string ByteArray.empty,.int .i64 0,.int .i64 0,.int .i64 0,.int .i64 0])
abbrev ZjX:=fMz 0 0 0 Tryz.underlying40
abbrev ZjY:=fMz 1 1 0 Tryz.underlying40
abbrev ZjZ:=fMz 2 2 0 Tryz.underlying40
abbrev Zk0:=fMz 3 3 0 Tryz.underlying40
abbrev Zk1:=fMz 4 4 0 Tryz.underlying40
abbrev Zk2:=fMz 5 5 0 Tryz.underlying40
abbrev ZrB:=uM Tryz.underlying43
abbrev ZrC:=sMz 43 1
abbrev ZrD:=uM Tryz.underlying45
abbrev ZrE:=sMz 45 11
abbrev ZrF:=bMz 45 120
abbrev ZrG:=zMz 45 (.agg #[.string ByteArray.empty,.int .i64 0,.string ByteArray.empty,.int .i64 0,.int .i64 0,.int .i64 0,.int .i64 0,.int .i64 0,.int .i64 0,.int .i64 0,.slice none 0 0])
abbrev Zk3:=fMz 0 0 0 Tryz.underlying45
abbrev Zk4:=fMz 1 1 5 Tryz.underlying45
abbrev Zk5:=fMz 2 7 0 Tryz.underlying45
abbrev Zk6:=fMz 3 8 0 Tryz.underlying45
abbrev Zk7:=fMz 4 9 0 Tryz.underlying45
abbrev Zk8:=fMz 5 10 0 Tryz.underlying45
abbrev ZrH:=uM Tryz.underlying52
abbrev ZrI:=sMz 52 1
abbrev ZrJ:=zMz 52 (.slice none 0 0)
abbrev ZrK:=uM Tryz.underlying61
abbrev ZrL:=uM Tryz.underlying63
abbrev ZrM:=uM Tryz.underlying65
abbrev ZrN:=sMz 65 7
abbrev ZrO:=bMz 65 120
abbrev ZrP:=zMz 65 (.agg #[.string ByteArray.empty,.int .i64 0,.string ByteArray.empty,.slice none 0 0,.slice none 0 0,.string ByteArray.empty,.string ByteArray.empty])
abbrev Zk9:=fMz 0 0 0 Tryz.underlying65
abbrev Zka:=fMz 1 1 0 Tryz.underlying65
abbrev Zkb:=fMz 2 2 0 Tryz.underlying65
abbrev Zkc:=fMz 3 3 0 Tryz.underlying65
abbrev Zkd:=fMz 4 4 0 Tryz.underlying65
abbrev Zke:=fMz 5 5 0 Tryz.underlying65
abbrev Zkf:=fMz 6 6 0 Tryz.underlying65
abbrev ZrQ:=uM Tryz.underlying66
abbrev ZrR:=sMz 66 1
abbrev ZrS:=uM Tryz.underlying69
abbrev ZrT:=uM Tryz.underlying71
abbrev ZrU:=sMz 71 4
abbrev ZrV:=zMz 71 (.agg #[.int .i64 0,.int .i64 0,.string ByteArray.empty,.slice none 0 0])
abbrev Zkg:=fMz 0 0 0 Tryz.underlying71
abbrev Zkh:=fMz 1 1 0 Tryz.underlying71
abbrev Zki:=fMz 2 2 0 Tryz.underlying71
abbrev Zkj:=fMz 3 3 0 Tryz.underlying71
abbrev ZrW:=uM Tryz.underlying73
abbrev ZrX:=sMz 73 13
abbrev ZrY:=bMz 73 184
abbrev ZrZ:=zMz 73 (.agg #[.string ByteArray.empty,.int .i64 0,.string ByteArray.empty,.int .i64 0,.int .i64 0,.string ByteArray.empty,.slice none 0 0,.int .i64 0,.int .i64 0,.string ByteArray.empty,.slice none 0 0,.string ByteArray.empty,.string ByteArray.empty])
abbrev Zkk:=fMz 0 0 0 Tryz.underlying73
abbrev Zkl:=fMz 1 1 0 Tryz.underlying73
abbrev Zkm:=fMz 2 2 0 Tryz.underlying73
abbrev Zkn:=fMz 3 3 3 Tryz.underlying73
abbrev Zko:=fMz 4 7 3 Tryz.underlying73
abbrev Zkp:=fMz 5 11 0 Tryz.underlying73
abbrev Zkq:=fMz 6 12 0 Tryz.underlying73
abbrev Zs0:=uM Tryz.underlying75
abbrev Zs1:=sMz 75 1
abbrev Zs2:=uM Tryz.underlying77
abbrev Zs3:=sMz 77 5
abbrev Zs4:=bMz 77 56
abbrev Zs5:=zMz 77 (.agg #[.int .i64 0,.int .i64 0,.int .i64 0,.int .i64 0,.slice none 0 0])
abbrev Zkr:=fMz 0 0 0 Tryz.underlying77
abbrev Zks:=fMz 1 1 0 Tryz.underlying77
abbrev Zkt:=fMz 2 2 0 Tryz.underlying77
abbrev Zku:=fMz 3 3 0 Tryz.underlying77
abbrev Zkv:=fMz 4 4 0 Tryz.underlying77
abbrev Zs6:=uM Tryz.underlying83
abbrev Zs7:=sMz 83 7
abbrev Zs8:=zMz 83 (.agg #[.int .i64 0,.int .i64 0,.int .i64 0,.int .i64 0,.int .i64 0,.int .i64 0,.int .i64 0])
abbrev Zkw:=fMz 0 0 0 Tryz.underlying83
abbrev Zkx:=fMz 1 1 0 Tryz.underlying83
abbrev Zky:=fMz 2 2 0 Tryz.underlying83
abbrev Zkz:=fMz 3 3 0 Tryz.underlying83
abbrev ZkA:=fMz 4 4 0 Tryz.underlying83
abbrev ZkB:=fMz 5 5 0 Tryz.underlying83
abbrev ZkC:=fMz 6 6 0 Tryz.underlying83
abbrev Zs9:=uM Tryz.underlying85
abbrev Zsa:=sMz 85 3
abbrev Zsb:=bMz 85 24
abbrev Zsc:=zMz 85 (.agg #[.int .i64 0,.int .i64 0,.int .i64 0])
abbrev ZkD:=fMz 0 0 0 Tryz.underlying85
abbrev ZkE:=fMz 1 1 0 Tryz.underlying85
abbrev ZkF:=fMz 2 2 0 Tryz.underlying85
abbrev Zsd:=uM Tryz.underlying94
abbrev Zse:=sMz 94 2
abbrev Zsf:=bMz 94 16
abbrev Zsg:=zMz 94 (.agg #[.int .i64 0,.int .i64 0])
abbrev ZkG:=fMz 0 0 0 Tryz.underlying94
abbrev ZkH:=fMz 1 1 0 Tryz.underlying94
abbrev Zsh:=uM Tryz.underlying96
abbrev Zsi:=sMz 96 3
abbrev Zsj:=bMz 96 24
abbrev Zsk:=zMz 96 (.agg #[.int .i64 0,.int .i64 0,.int .i64 0])
abbrev ZmQ:=uM Tryz.underlying116
abbrev ZmR:=sMz 116 1
abbrev ZmS:=zMz 116 (.map none)
abbrev ZmT:=uM Tryz.underlying120
abbrev ZmU:=sMz 120 9
abbrev ZmV:=bMz 120 72
abbrev ZmW:=zMz 120 (.agg #[.int .i64 0,.int .i64 0,.int .i64 0,.int .i64 0,.int .i64 0,.int .i64 0,.int .i64 0,.int .i64 0,.int .i64 0])
abbrev Zgd:=fMz 0 0 0 Tryz.underlying120
abbrev Zge:=fMz 1 1 0 Tryz.underlying120
abbrev Zgf:=fMz 2 2 0 Tryz.underlying120
abbrev Zgg:=fMz 3 3 0 Tryz.underlying120
abbrev Zgh:=fMz 4 4 0 Tryz.underlying120
abbrev Zgi:=fMz 5 5 0 Tryz.underlying120
abbrev Zgj:=fMz 6 6 0 Tryz.underlying120
abbrev Zgk:=fMz 7 7 0 Tryz.underlying120
abbrev Zgl:=fMz 8 8 0 Tryz.underlying120
abbrev ZmX:=uM Tryz.underlying122
abbrev ZmY:=sMz 122 3
abbrev ZmZ:=bMz 122 24
abbrev Zn0:=zMz 122 (.agg #[.int .i64 0,.int .i64 0,.int .i64 0])
abbrev Zgm:=fMz 0 0 0 Tryz.underlying122
abbrev Zgn:=fMz 1 1 0 Tryz.underlying122
abbrev Zgo:=fMz 2 2 0 Tryz.underlying122
abbrev Zn1:=sMz 125 2
abbrev Zn2:=bMz 125 16
abbrev Zn3:=zMz 125 (.agg #[.int .i64 0,.int .i64 0])
abbrev Zgp:=fMz 0 0 0 Tryz.underlying125
abbrev Zn4:=sMz 127 2
abbrev Zn5:=bMz 127 16
abbrev Zn6:=zMz 127 (.agg #[.int .i64 0,.int .i64 0])
abbrev Zgq:=fMz 0 0 0 Tryz.underlying127
abbrev Zgr:=fMz 1 1 0 Tryz.underlying127
abbrev Zgs:=fMz 0 0 0 Tryz.underlying130
abbrev Zgt:=fMz 1 1 0 Tryz.underlying130
abbrev Zn7:=uM Tryz.underlying137
abbrev Zn8:=sMz 137 4
abbrev Zn9:=bMz 137 32
abbrev Zna:=zMz 137 (.agg #[.int .i64 0,.int .i64 0,.int .i64 0,.int .i64 0])
abbrev Zgu:=fMz 0 0 0 Tryz.underlying137
abbrev Zgv:=fMz 1 1 0 Tryz.underlying137
abbrev Zgw:=fMz 2 2 0 Tryz.underlying137
abbrev Zgx:=fMz 3 3 0 Tryz.underlying137
abbrev Znb:=uM Tryz.underlying138
abbrev Znc:=uM Tryz.underlying139
abbrev Znd:=uM Tryz.underlying144
abbrev Zgy:=fMz 0 0 6 Tryz.underlying147
abbrev Zgz:=fMz 1 7 11 Tryz.underlying147
abbrev ZgA:=fMz 2 19 0 Tryz.underlying147
abbrev ZgB:=fMz 3 20 0 Tryz.underlying147
abbrev ZgC:=fMz 4 21 0 Tryz.underlying147
abbrev ZgD:=fMz 5 22 0 Tryz.underlying147
abbrev ZgE:=fMz 6 23 0 Tryz.underlying147
abbrev ZgF:=fMz 7 24 0 Tryz.underlying147
abbrev Zne:=uM Tryz.underlying148
abbrev Znf:=uM Tryz.underlying151
abbrev Zng:=sMz 151 2
abbrev Znh:=bMz 151 16
abbrev Zni:=zMz 151 (.agg #[.int .i64 0,.int .i64 0])
abbrev ZgG:=fMz 0 0 0 Tryz.underlying151
abbrev ZgH:=fMz 1 1 0 Tryz.underlying151
abbrev Znj:=zMz 152 (.nilFunc)
abbrev Znk:=uM Tryz.underlying159
abbrev Znl:=sMz 159 20
abbrev Znm:=zMz 159 (.agg #[.int .i64 0,.int .i64 0,.int .i64 0,.int .i64 0,.int .i64 0,.int .i64 0,.int .i64 0,.bool false,.bool false,.bool false,.bool false,.bool false,.bool false,.bool false,.slice none 0 0,.slice none 0 0,.int .i64 0,.slice none 0 0,.int .i64 0,.int .i64 0])
abbrev ZgI:=fMz 0 0 6 Tryz.underlying159
abbrev ZgJ:=fMz 1 7 11 Tryz.underlying159
abbrev ZgK:=fMz 2 19 0 Tryz.underlying159
abbrev Znn:=uM Tryz.underlying166
abbrev Zno:=uM Tryz.underlying230
abbrev Znp:=sMz 230 7
abbrev Znq:=zMz 230 (.agg #[.int .i64 0,.int .i64 0,.int .i64 0,.int .i64 0,.int .i64 0,.int .i64 0,.int .i64 0])
abbrev Znr:=sMz 244 2
abbrev Zns:=zMz 244 (.agg #[.int .i64 0,.int .i64 0])
abbrev Znt:=uM Tryz.underlying280
abbrev Znu:=uM Tryz.underlying281
abbrev Znv:=zMz 281 (.agg #[.int .i64 0,.int .i64 0,.int .i64 0,.int .i64 0,.int .i64 0,.int .i64 0,.int .i64 0,.int .i64 0,.int .i64 0,.int .i64 0,.int .i64 0,.int .i64 0,.int .i64 0,.int .i64 0,.int .i64 0,.int .i64 0,.int .i64 0,.int .i64 0,.int .i64 0,.int .i64 0,.int .i64 0,.int .i64 0,.int .i64 0,.int .i64 0,.int .i64 0,.int .i64 0,.int .i64 0,.int .i64 0,.int .i64 0,.int .i64 0,.int .i64 0,.int .i64 0])
abbrev Znw:=uM Tryz.underlying288
abbrev Znx:=sMz 288 3
abbrev Zny:=zMz 288 (.agg #[.int .i64 0,.int .i64 0,.int .i64 0])
abbrev ZgL:=fMz 0 0 0 Tryz.underlying288
abbrev ZgM:=fMz 1 1 0 Tryz.underlying288
abbrev ZgN:=fMz 2 2 0 Tryz.underlying288
abbrev Znz:=uM Tryz.underlying320
abbrev ZnA:=sMz 322 2
abbrev ZgO:=fMz 1 1 0 Tryz.underlying322
abbrev ZnB:=uM Tryz.underlying323
abbrev ZnC:=sMz 323 8
abbrev ZnD:=zMz 323 (.agg #[.nilFunc,.nilFunc,.nilFunc,.nilFunc,.nilFunc,.nilFunc,.nilFunc,.nilFunc])
abbrev ZnE:=uM Tryz.underlying328
abbrev ZnF:=uM Tryz.underlying331
abbrev ZnG:=uM Tryz.underlying334
abbrev ZnH:=sMz 334 2
abbrev ZnI:=bMz 334 16
abbrev ZnJ:=zMz 334 (.agg #[.int .i64 0,.int .i64 0])
abbrev ZgP:=fMz 0 0 0 Tryz.underlying334
abbrev ZnK:=uM Tryz.underlying344
abbrev ZnL:=sMz 344 3
abbrev ZnM:=uM Tryz.underlying346
abbrev ZnN:=uM Tryz.underlying367
abbrev ZuJ:=mkF Tryz.func5
abbrev ZuK:=mkF Tryz.func6
abbrev ZuL:=mkF Tryz.func7
abbrev ZuM:=mkF Tryz.func8
abbrev ZuN:=mkF Tryz.func9
abbrev Zsl:=mkF Tryz.func10
abbrev Zsm:=mkF Tryz.func11
abbrev Zsn:=mkF Tryz.func12
abbrev Zso:=mkF Tryz.func13
abbrev Zsp:=mkF Tryz.func14
abbrev Zsq:=mkF Tryz.func15
abbrev Zsr:=mkF Tryz.func16
abbrev Zss:=mkF Tryz.func17
abbrev Zst:=mkF Tryz.func18
abbrev Zsu:=mkF Tryz.func19
abbrev Zsv:=mkF Tryz.func20
abbrev Zsw:=mkF Tryz.func21
abbrev Zsx:=mkF Tryz.func22
abbrev Zsy:=mkF Tryz.func23
abbrev Zsz:=mkF Tryz.func24
abbrev ZsA:=mkF Tryz.func25
abbrev ZsB:=mkF Tryz.func26
abbrev ZsC:=mkF Tryz.func27
abbrev ZsD:=mkF Tryz.func28
abbrev ZsE:=mkF Tryz.func29
abbrev ZsF:=mkF Tryz.func30
abbrev ZsG:=mkF Tryz.func31
abbrev ZsH:=mkF Tryz.func32
abbrev ZsI:=mkF Tryz.func33
abbrev ZsJ:=mkF Tryz.func34
abbrev ZsK:=mkF Tryz.func35
abbrev ZsL:=mkF Tryz.func36
abbrev ZsM:=mkF Tryz.func37
abbrev ZsN:=mkF Tryz.func38
abbrev ZsO:=mkF Tryz.func39
abbrev ZsP:=mkF Tryz.func40
abbrev ZsQ:=mkF Tryz.func41
abbrev ZsR:=mkF Tryz.func42
abbrev ZsS:=mkF Tryz.func43
abbrev ZsT:=mkF Tryz.func44
abbrev ZsU:=mkF Tryz.func47
abbrev ZsV:=mkF Tryz.func48
abbrev ZsW:=mkF Tryz.func49
abbrev ZsX:=mkF Tryz.func50
abbrev ZsY:=mkF Tryz.func51
abbrev ZsZ:=mkF Tryz.func52
abbrev Zt0:=mkF Tryz.func53
abbrev Zt1:=mkF Tryz.func54
abbrev Zt2:=mkF Tryz.func55
abbrev Zt3:=mkF Tryz.func56
abbrev Zt4:=mkF Tryz.func57
abbrev Zt5:=mkF Tryz.func58
abbrev Zt6:=mkF Tryz.func59
abbrev Zt7:=mkF Tryz.func60
abbrev Zt8:=mkF Tryz.func61
abbrev Zt9:=mkF Tryz.func62
abbrev Zta:=mkF Tryz.func63
abbrev Ztb:=mkF Tryz.func64
abbrev Ztc:=mkF Tryz.func65
abbrev Ztd:=mkF Tryz.func66
abbrev Zte:=mkF Tryz.func67
abbrev Ztf:=mkF Tryz.func68
abbrev Ztg:=mkF Tryz.func69
abbrev Zth:=mkF Tryz.func70
abbrev Zti:=mkF Tryz.func71
abbrev Ztj:=mkF Tryz.func72
abbrev Ztk:=mkF Tryz.func73
abbrev Ztl:=mkF Tryz.func74
abbrev Ztm:=mkF Tryz.func75
abbrev Ztn:=mkF Tryz.func76
abbrev Zto:=mkF Tryz.func77
abbrev Ztp:=mkF Tryz.func78
abbrev Ztq:=mkF Tryz.func79
abbrev Ztr:=mkF Tryz.func80
abbrev Zts:=mkF Tryz.func84
abbrev Ztt:=mkF Tryz.func87
abbrev Ztu:=mkF Tryz.func88
abbrev Ztv:=mkF Tryz.func89
abbrev Ztw:=mkF Tryz.func90
abbrev Ztx:=mkF Tryz.func91
abbrev Zty:=mkF Tryz.func92
abbrev Ztz:=mkF Tryz.func93
abbrev ZtA:=mkF Tryz.func94
abbrev ZtB:=mkF Tryz.func95
abbrev ZtC:=mkF Tryz.func96
abbrev ZtD:=mkF Tryz.func97
abbrev ZtE:=mkF Tryz.func98
abbrev ZtF:=mkF Tryz.func99
abbrev ZnO:=mkF Tryz.func100
abbrev ZnP:=mkF Tryz.func101
abbrev ZnQ:=mkF Tryz.func102
abbrev ZnR:=mkF Tryz.func103
abbrev ZnS:=mkF Tryz.func104
abbrev ZnT:=mkF Tryz.func105
abbrev ZnU:=mkF Tryz.func106
abbrev ZnV:=mkF Tryz.func107
abbrev ZnW:=mkF Tryz.func108
abbrev ZnX:=mkF Tryz.func109
abbrev ZnY:=mkF Tryz.func110
abbrev ZnZ:=mkF Tryz.func111
abbrev Zo0:=mkF Tryz.func112
abbrev Zo1:=mkF Tryz.func113
abbrev Zo2:=mkF Tryz.func114
abbrev Zo3:=mkF Tryz.func115
abbrev Zo4:=mkF Tryz.func116
abbrev Zo5:=mkF Tryz.func117
abbrev Zo6:=mkF Tryz.func118
abbrev Zo7:=mkF Tryz.func119
abbrev Zo8:=mkF Tryz.func120
abbrev Zo9:=mkF Tryz.func121
abbrev Zoa:=mkF Tryz.func122
abbrev Zob:=mkF Tryz.func123
abbrev Zoc:=mkF Tryz.func124
abbrev Zod:=mkF Tryz.func125
abbrev Zoe:=mkF Tryz.func128
abbrev Zof:=mkF Tryz.func129
abbrev Zog:=mkF Tryz.func130
abbrev Zoh:=mkF Tryz.func131
abbrev Zoi:=mkF Tryz.func132
abbrev Zoj:=mkF Tryz.func133
abbrev Zok:=mkF Tryz.func134
abbrev Zol:=mkF Tryz.func135
abbrev Zom:=mkF Tryz.func156
abbrev Zon:=mkF Tryz.func157
abbrev Zoo:=mkF Tryz.func158
abbrev Zop:=mkF Tryz.func159
abbrev Zoq:=mkF Tryz.func160
abbrev Zor:=mkF Tryz.func161
abbrev Zos:=mkF Tryz.func162
abbrev Zot:=mkF Tryz.func163
abbrev Zou:=mkF Tryz.func164
abbrev Zov:=mkF Tryz.func165
abbrev Zow:=mkF Tryz.func166
abbrev Zox:=mkF Tryz.func167
abbrev Zoy:=mkF Tryz.func168
abbrev Zoz:=mkF Tryz.func169
abbrev ZoA:=mkF Tryz.func170
abbrev ZoB:=mkF Tryz.func171
abbrev ZoC:=mkF Tryz.func172
abbrev ZoD:=mkF Tryz.func173
abbrev ZoE:=mkF Tryz.func174
abbrev ZoF:=mkF Tryz.func175
abbrev ZoG:=mkF Tryz.func176
abbrev ZoH:=mkF Tryz.func177
abbrev ZoI:=mkF Tryz.func178
abbrev ZoJ:=mkF Tryz.func181
abbrev ZoK:=mkF Tryz.func182
abbrev ZoL:=mkF Tryz.func184
abbrev ZoM:=mkF Tryz.func185
abbrev ZoN:=mkF Tryz.func186
abbrev ZoO:=mkF Tryz.func187
abbrev ZoP:=mkF Tryz.func188
abbrev ZoQ:=mkF Tryz.func189
abbrev ZoR:=mkF Tryz.func190
abbrev ZoS:=mkF Tryz.func191
abbrev ZoT:=mkF Tryz.func192
abbrev ZoU:=mkF Tryz.func193
abbrev ZoV:=mkF Tryz.func195
abbrev ZoW:=mkF Tryz.func221
abbrev ZoX:=mkF Tryz.func222
abbrev ZoY:=mkF Tryz.func223
abbrev ZoZ:=mkF Tryz.func224
abbrev Zp0:=mkF Tryz.func225
abbrev Zp1:=mkF Tryz.func226
abbrev Zp2:=mkF Tryz.func227
abbrev Zp3:=mkF Tryz.func228
abbrev Zp4:=mkF Tryz.func229
abbrev Zp5:=mkF Tryz.func230
abbrev Zp6:=mkF Tryz.func231
abbrev Zp7:=mkF Tryz.func232
abbrev Zp8:=mkF Tryz.func233
abbrev Zp9:=mkF Tryz.func234
abbrev Zpa:=mkF Tryz.func235
abbrev Zpb:=mkF Tryz.func236
abbrev Zpc:=mkF Tryz.func237
abbrev Zpd:=mkF Tryz.func246
abbrev Zpe:=mkF Tryz.func247
abbrev Zpf:=mkF Tryz.func248
abbrev Zpg:=mkF Tryz.func249
abbrev Zph:=mkF Tryz.func250
abbrev Zpi:=mkF Tryz.func251
abbrev Zpj:=mkF Tryz.func252
abbrev Zpk:=mkF Tryz.func253
abbrev Zpl:=mkF Tryz.func254
abbrev Zpm:=mkF Tryz.func255
abbrev Zpn:=mkF Tryz.func256
abbrev Zpo:=mkF Tryz.func258
abbrev Zpp:=mkF Tryz.func269
abbrev Zpq:=mkF Tryz.func281
abbrev Zpr:=mkF Tryz.func284
abbrev Zps:=mkF Tryz.func286
abbrev Zpt:=mkF Tryz.func290
abbrev Zpu:=mkF Tryz.func291
abbrev Zpv:=mkF Tryz.func292
abbrev Zpw:=mkF Tryz.func293
abbrev Zpx:=mkF Tryz.func294
abbrev Zpy:=mkF Tryz.func295
abbrev Zpz:=mkF Tryz.func296
abbrev ZpA:=mkF Tryz.func298
abbrev ZpB:=mkF Tryz.func301
abbrev ZpC:=mkF Tryz.func310
abbrev ZpD:=mkF Tryz.func323
abbrev ZpE:=mkF Tryz.func324
abbrev ZpF:=mkF Tryz.func326
abbrev ZpG:=mkF Tryz.func327
abbrev ZpH:=mkF Tryz.func329
abbrev ZpI:=mkF Tryz.func331
abbrev ZpJ:=mkF Tryz.func332
abbrev ZpK:=mkF Tryz.func343
abbrev ZpL:=mkF Tryz.func344
abbrev ZpM:=mkF Tryz.func345
abbrev ZpN:=mkF Tryz.func346
abbrev ZpO:=mkF Tryz.func362
abbrev ZpP:=mkF Tryz.func366
abbrev ZpQ:=mkF Tryz.func367
abbrev ZpR:=mkF Tryz.func368
abbrev ZpS:=mkF Tryz.func379
abbrev ZpT:=mkF Tryz.func381
abbrev CC (f:Nat) (a:Array Value) (w:World) (G:Value->World->Prop):=Calls Tryz.prog f a w (Ret G)
attribute [instance] Zuy ZuC ZuF Zr3 Zr4 Zr6 Zr9 Zrb Zrd Zre Zrh Zri Zrk Zrm Zro Zrr Zru Zrx ZrB ZrD ZrH ZrK ZrL ZrM ZrQ ZrS ZrT ZrW Zs0 Zs2 Zs6 Zs9 Zsd Zsh ZmQ ZmT ZmX Zn7 Znb Znc Znd Zne Znf Znk Znn Zno Znt Znu Znw Znz ZnB ZnE ZnF ZnG ZnK ZnM ZnN ZuJ ZuK ZuL ZuM ZuN Zsl Zsm Zsn Zso Zsp Zsq Zsr Zss Zst Zsu Zsv Zsw Zsx Zsy Zsz ZsA ZsB ZsC ZsD ZsE ZsF ZsG ZsH ZsI ZsJ ZsK ZsL ZsM ZsN ZsO ZsP ZsQ ZsR ZsS ZsT ZsU ZsV ZsW ZsX ZsY ZsZ Zt0 Zt1 Zt2 Zt3 Zt4 Zt5 Zt6 Zt7 Zt8 Zt9 Zta Ztb Ztc Ztd Zte Ztf Ztg Zth Zti Ztj Ztk Ztl Ztm Ztn Zto Ztp Ztq Ztr Zts Ztt Ztu Ztv Ztw Ztx Zty Ztz ZtA ZtB ZtC ZtD ZtE ZtF ZnO ZnP ZnQ ZnR ZnS ZnT ZnU ZnV ZnW ZnX ZnY ZnZ Zo0 Zo1 Zo2 Zo3 Zo4 Zo5 Zo6 Zo7 Zo8 Zo9 Zoa Zob Zoc Zod Zoe Zof Zog Zoh Zoi Zoj Zok Zol Zom Zon Zoo Zop Zoq Zor Zos Zot Zou Zov Zow Zox Zoy Zoz ZoA ZoB ZoC ZoD ZoE ZoF ZoG ZoH ZoI ZoJ ZoK ZoL ZoM ZoN ZoO ZoP ZoQ ZoR ZoS ZoT ZoU ZoV ZoW ZoX ZoY ZoZ Zp0 Zp1 Zp2 Zp3 Zp4 Zp5 Zp6 Zp7 Zp8 Zp9 Zpa Zpb Zpc Zpd Zpe Zpf Zpg Zph Zpi Zpj Zpk Zpl Zpm Zpn Zpo Zpp Zpq Zpr Zps Zpt Zpu Zpv Zpw Zpx Zpy Zpz ZpA ZpB ZpC ZpD ZpE ZpF ZpG ZpH ZpI ZpJ ZpK ZpL ZpM ZpN ZpO ZpP ZpQ ZpR ZpS ZpT Zuz ZuA ZuB ZuD ZuE ZuG ZuH ZuI Zr5 Zr7 Zr8 Zra Zrc Zrf Zrg Zrj Zrl Zrn Zrp Zrq ZjK Zrs Zrt ZjL ZjM ZjN ZjO Zrv Zrw ZjP ZjQ ZjR ZjS ZjT ZjU ZjV ZjW Zry Zrz ZrA ZjX ZjY ZjZ Zk0 Zk1 Zk2 ZrC ZrE ZrF ZrG Zk3 Zk4 Zk5 Zk6 Zk7 Zk8 ZrI ZrJ ZrN ZrO ZrP Zk9 Zka Zkb Zkc Zkd Zke Zkf ZrR ZrU ZrV Zkg Zkh Zki Zkj ZrX ZrY ZrZ Zkk Zkl Zkm Zkn Zko Zkp Zkq Zs1 Zs3 Zs4 Zs5 Zkr Zks Zkt Zku Zkv Zs7 Zs8 Zkw Zkx Zky Zkz ZkA ZkB ZkC Zsa Zsb Zsc ZkD ZkE ZkF Zse Zsf Zsg ZkG ZkH Zsi Zsj Zsk ZmR ZmS ZmU ZmV ZmW Zgd Zge Zgf Zgg Zgh Zgi Zgj Zgk Zgl ZmY ZmZ Zn0 Zgm Zgn Zgo Zn1 Zn2 Zn3 Zgp Zn4 Zn5 Zn6 Zgq Zgr Zgs Zgt Zn8 Zn9 Zna Zgu Zgv Zgw Zgx Zgy Zgz ZgA ZgB ZgC ZgD ZgE ZgF Zng Znh Zni ZgG ZgH Znj Znl Znm ZgI ZgJ ZgK Znp Znq Znr Zns Znv Znx Zny ZgL ZgM ZgN ZnA ZgO ZnC ZnD ZnH ZnI ZnJ ZgP ZnL
end Go.Proofs.YtgdicjnjhchooaaGreatDoor
namespace Go.Eng
open Go Go.RowKit Go.Proofs
structure Stp (S:List Nat) (w w':World):Prop where
 os:w'.os=w.os
 tape:w'.tape=w.tape
 output:w'.output=w.output
 size:w.heap.size<=w'.heap.size
 block:∀ b,b<w.heap.size->b∉S->w'.heap[b]?=w.heap[b]?
theorem Stp.refl (S:List Nat) (w:World):Stp S w w:=⟨rfl,rfl,rfl,Xl _,λ_ _ _=>rfl⟩
theorem Stp.trans {S:List Nat} {a b c:World} (h:Stp S a b) (k:Stp S b c):Stp S a c:=
 ⟨k.os.trans h.os,k.tape.trans h.tape,k.output.trans h.output,Xh h.size k.size,λi hi hn=>(k.block i (Xv hi h.size) hn).trans (h.block i hi hn)⟩
theorem Stp.mono {S S':List Nat} {a b:World} (h:Stp S a b) (hs:∀ x∈S,x∈S'):Stp S' a b:=⟨h.os,h.tape,h.output,h.size,λi hi hn=>h.block i hi (λhx=>hn (hs i hx))⟩
theorem Stp.own {S S':List Nat} {a b c:World} (h:Stp S a b) (k:Stp S' b c) (hs:∀ x∈S',x∈S\/a.heap.size<=x):Stp S a c:=
 ⟨k.os.trans h.os, k.tape.trans h.tape, k.output.trans h.output, Xh h.size k.size, λi hi hn => (k.block i (Xv hi h.size) (λhx => by
   rcases hs i hx with h1|h1
   exact hn h1;omega)).trans (h.block i hi hn)⟩
theorem Stp.below {a b:World} (h:Stp [] a b):Below a.heap.size a b:=⟨h.os,h.tape,h.output,h.size,λi hi=>h.block i hi (by simp)⟩
theorem Stp.cell {S:List Nat} {w w':World} (h:Stp S w w') {b o:Nat} {v:Value} (hb:b∉S) (hc:w.cell? ⟨b,o,none⟩=some v):w'.cell? ⟨b,o,none⟩=some v:=by
 have hlt:b<w.heap.size:=block_lt_of_cell (a:=⟨b,o,none⟩) hc;rw [<- hc];exact World.cell?_of_block (w:=w) (h.block b hlt hb)
theorem Stp.drew (S:List Nat) (w:World):Stp S w w.drew:=⟨rfl,rfl,rfl,Xl _,λ_ _ _=>rfl⟩
theorem Stp.alloc (S:List Nat) (w:World) (o:Obj):Stp S w (w.alloc o):=⟨rfl,rfl,rfl,by simp,λk hk _=>Below.heap_alloc w o k hk⟩
theorem Stp.of_grown {w w':World} {row:Option Nat} (h:w.grownBy w' row):Stp row.toList w w':=
 ⟨h.os,h.tape,h.output,h.size,λk hk hn=>h.block k hk (λe=>hn (by simp [<- e]))⟩
class Z6 (α:Type) where
 k:Nat
 rep:List Nat->World->α->List Value->Prop
 len:∀ {X:List Nat} {w:World} {x:α} {cs:List Value},rep X w x cs->cs.length=k
 one:∀ {X:List Nat} {w:World} {x:α} {cs:List Value},rep X w x cs->∀ u∈cs,u.oneCell'=true
 ext:∀ {X S X':List Nat} {w w':World} {x:α} {cs:List Value},rep X w x cs->Stp S w w'->(∀ b∈S,b∈X)->(∀ b∈X',b∈X\/w.heap.size<=b)->rep X' w' x cs
class Z2 (α:Type) where
 k:Nat
 enc:α->List Value
 len:∀ x,(enc x).length=k
 one:∀ x,∀ u∈enc x,u.oneCell'=true
instance {α:Type} [Z2 α]:Z6 α where
 k:=Z2.k α
 rep:=λ_ _ x cs=>cs=Z2.enc x
 len:=λh=>h ▸ Z2.len _
 one:=λh=>h ▸ Z2.one _
 ext:=λh _ _ _=>h
instance:Z2 Int where
 k:=1
 enc:=λx=>[.int .i64 x]
 len:=λ_=>rfl
 one:=by intro x u hu;simp at hu;subst hu;rfl
instance:Z2 Bool where
 k:=1
 enc:=λx=>[.bool x]
 len:=λ_=>rfl
 one:=by intro x u hu;simp at hu;subst hu;rfl
def SlV {α:Type} [Z6 α] (X:List Nat) (w:World) (v:Value) (xs:List α):Prop:=
 ∃ (p : Option Addr) (c : Nat), v = .slice p xs.length c /\ xs.length <= c /\ c <= maxLen /\ (p = none -> c = 0)/\
   ∀ i (h:i<xs.length),∃ b o cs,p=some ⟨b,o,none⟩/\b<w.heap.size/\b∉X/\Z6.rep X w xs[i] cs/\∀ j u,cs[j]?=some u->w.cell? ⟨b,o+i * Z6.k α+j,none⟩=some u
theorem SlV.ext {α:Type} [Z6 α] {X S X':List Nat} {w w':World} {v:Value} {xs:List α} (h:SlV X w v xs) (hS:Stp S w w') (h1:∀ b∈S,b∈X) (h2:∀ b∈X',b∈X\/w.heap.size<=b):SlV X' w' v xs:=by
 obtain ⟨p,c,hv,hl,hm,hn,hc⟩:=h;refine ⟨p,c,hv,hl,hm,hn,λi hi=>?_⟩;obtain ⟨b,o,cs,hp,hb,hx,hr,am⟩:=hc i hi;refine ⟨b,o,cs,hp,Xv hb hS.size,λsU=>?_,Z6.ext hr hS h1 h2,λj u hu=>hS.cell (λdw=>hx (h1 b dw)) (am j u hu)⟩;rcases h2 b sU with h|h
 exact hx h;omega
theorem SlV.up {α:Type} [Z6 α] {X:List Nat} {w w':World} {v:Value} {xs:List α} (h:SlV X w v xs) (hS:Stp [] w w'):SlV X w' v xs:=
 h.ext hS (by simp) (λb hb=>.inl hb)
theorem SlV.len {α:Type} [Z6 α] {X:List Nat} {w:World} {v:Value} {xs:List α} (h:SlV X w v xs):∃ p c,v=.slice p xs.length c:=let ⟨p,c,hv,_⟩:=h;⟨p,c,hv⟩
theorem SlV.cells {α:Type} [Z6 α] {X:List Nat} {w:World} {v:Value} {xs:List α} (h:SlV X w v xs):v.cells.toList=[v]:=by
 obtain ⟨p,c,rfl⟩:=h.len;rfl
theorem SlV.one {α:Type} [Z6 α] {X:List Nat} {w:World} {v:Value} {xs:List α} (h:SlV X w v xs):v.oneCell'=true:=by
 obtain ⟨p,c,rfl⟩:=h.len;rfl
theorem SlV.max {α:Type} [Z6 α] {X:List Nat} {w:World} {v:Value} {xs:List α} (h:SlV X w v xs):xs.length<=9223372036854775807:=by
 obtain ⟨p,c,hv,hl,hm,_⟩:=h;simp only [maxLen] at hm;omega
def Zx (v:Value) (i k j:Nat):Addr:=
 match v with
 | .slice (some a) _ _=>⟨a.block,a.off+i * k+j,none⟩
 | _=>⟨0,0,none⟩
def Blk (w:World) (b:Nat) (T:TypeId) (cs:List Value):Prop:=w.heap[b]?=some (.cells cs.toArray T (0,0))
theorem Blk.lt {w:World} {b T:Nat} {cs:List Value} (h:Blk w b T cs):b<w.heap.size:=(Xo.1 h).1
theorem Blk.ext {w w':World} {S:List Nat} {b T:Nat} {cs:List Value} (h:Blk w b T cs) (hS:Stp S w w') (hb:b∉S):Blk w' b T cs:=by
 unfold Blk at *;rw [hS.block b (Blk.lt h) hb];exact h
theorem Blk.up {w w':World} {b T:Nat} {cs:List Value} (h:Blk w b T cs) (hS:Stp [] w w'):Blk w' b T cs:=h.ext hS (by simp)
theorem Blk.cell {w:World} {b T:Nat} {cs:List Value} (h:Blk w b T cs) {j:Nat} {u:Value} (hu:cs[j]?=some u):w.cell? ⟨b,j,none⟩=some u:=by
 unfold Blk at h;simp [World.cell?,h,hu]
section rules
variable {P:Program} {n:Nat} {e:Env} {w:World} {d:Option Nat} {ty:TypeId} {pos:String} {af:Array Edge} {g:Option (Nat×Bool)}
theorem ZkI {α:Type} [Z6 α] {X:List Nat} {xs:List α} {v:Value} {x:Operand} {t:TypeId} {el:TypeId} {ck:World} [hu:Und P t (.slice el)] (hx:ev e x=some v) (hs:SlV X ck v xs) :
 PR P n ⟨d,.call { callee:=.builtin .len,args:=#[x],argTypes:=#[t] },ty,pos,af,g⟩ e w (.int .i64 (xs.length:Int)):=by
 obtain ⟨p,c,rfl⟩:=hs.len;exact ZbX hx
theorem Z2z {α:Type} [Z6 α] {X:List Nat} {xs:List α} {v:Value} {x y:Operand} {t:TypeId} {el k:Nat} [hu:Und P t (.slice el)] [hk:Siz P el k] {z:Int} {i:Nat} {ck:World}
 (hx:ev e x=some v) (hs:SlV X ck v xs) (hy:ev e y=some (.int .i64 z)) (hz:z=(i:Int)) (hi:i<xs.length) :
 PR P n ⟨d,.indexAddr t x y,ty,pos,af,g⟩ e w (.pointer (some (Zx v i k 0))):=by
 refine ⟨λa ha=>?_⟩;obtain ⟨p,c,rfl,hl,hm,hn,hc⟩:=hs;obtain ⟨b,o,cs,rfl,_⟩:=hc i hi;subst hz;have h0:(0:Int)<=(i:Int)/\(i:Int)<(xs.length:Int):=by omega
 have hr:(Instr.indexAt t (.slice (some ⟨b,o,none⟩) xs.length c) (.int .i64 (i:Int))).run P w=.ok (.pointer (some ⟨b,o+i * k,none⟩)) w:=by
  simp only [Instr.indexAt,asIntOf];simp [run_underlying hu.h,Siz.run,Addr.add_lit,hi]
 simp [execOp,ha.ev hx,ha.ev hy,hr,Zx]
theorem Za3 {x:Operand} {t:TypeId} {v:Value} {i k j m off:Nat} [hf:Fld P t m off] (hx:ev e x=some (.pointer (some (Zx v i k j))))
 (hv:∃ p l c,v=.slice (some p) l c):PR P n ⟨d,.fieldAddr t x m,ty,pos,af,g⟩ e w (.pointer (some (Zx v i k (j+off)))):=by
 obtain ⟨p,l,c,rfl⟩:=hv;exact ⟨λa ha=>by simp [execOp,ha.ev hx,Zx,Z5N,YaK]⟩
theorem SlV.isSome {α:Type} [Z6 α] {X:List Nat} {v:Value} {xs:List α} {i:Nat} (h:SlV X w v xs) (hi:i<xs.length):∃ p l c,v=.slice (some p) l c:=by
 obtain ⟨p,c,rfl,_,_,_,hc⟩:=h;obtain ⟨b,o,cs,rfl,_⟩:=hc i hi;exact ⟨_,_,_,rfl⟩
theorem SlV.cell {α:Type} [Z6 α] {X:List Nat} {v:Value} {xs:List α} {i:Nat} (h:SlV X w v xs) (hi:i<xs.length):∃ cs,Z6.rep X w xs[i] cs/\∀ j u,cs[j]?=some u->w.cell? (Zx v i (Z6.k α) j)=some u:=by
 obtain ⟨p,c,rfl,_,_,_,hc⟩:=h;obtain ⟨b,o,cs,rfl,_,_,hr,am⟩:=hc i hi;exact ⟨cs,hr,λj u hu=>by simpa [Zx] using am j u hu⟩
theorem SlV.cellF {α:Type} [Z2 α] {X:List Nat} {v:Value} {xs:List α} {i:Nat} (h:SlV X w v xs) (hi:i<xs.length) {j:Nat} {u:Value} (hu:(Z2.enc xs[i])[j]?=some u):w.cell? (Zx v i (Z2.k α) j)=some u:=by
 obtain ⟨cs,hr,hc⟩:=h.cell hi;have aO:cs=Z2.enc xs[i]:=hr;subst aO;exact hc j u hu
theorem Z2A {α:Type} [Z2 α] {X:List Nat} {xs:List α} {v u:Value} {i j k:Nat} {x:Operand} {t:TypeId} {D:TypeDesc} [hu:Und P t D] (hA:Z06 D=false) (hx:ev e x=some (.pointer (some (Zx v i k j))))
 (hs:SlV X w v xs) (hi:i<xs.length) (hk:k=Z2.k α) (hc:(Z2.enc xs[i])[j]?=some u):PR P n ⟨d,.load t x,ty,pos,af,g⟩ e w u:=
 Jp hA hx (by subst hk;exact hs.cellF hi hc)
theorem Za4 {α:Type} [Z2 α] {X:List Nat} {xs:List α} {v:Value} {us:List Value} {i j k m:Nat} {x:Operand} {t:TypeId} {D:TypeDesc} [hu:Und P t D] (hA:Z06 D=true) [bD:Siz P t m] (hx:ev e x=some (.pointer (some (Zx v i k j))))
 (hs:SlV X w v xs) (hi:i<xs.length) (hk:k=Z2.k α) (hl:us.length=m) (hc:((Z2.enc xs[i]).drop j).take m=us):PR P n ⟨d,.load t x,ty,pos,af,g⟩ e w (.agg us.toArray):=by
 obtain ⟨p,l,c,hv⟩:=hs.isSome hi;have am:=λ(q:Nat) (u:Value) (h:(Z2.enc xs[i])[q]?=some u)=>hs.cellF hi h;subst hv;refine Z2g hA hx hl (λq u hq=>?_);have h1:(Z2.enc xs[i])[j+q]?=some u:=by
  rw [<- hc,Yaq] at hq;split at hq;simpa using hq;cases hq
 have:=am (j+q) u h1;subst hk;simpa [Zx,YaK] using this
theorem Za5 {α:Type} [Z2 α] {X:List Nat} {xs:List α} {v:Value} {i k:Nat} {x:Operand} {t:TypeId} {D:TypeDesc} [hu:Und P t D] (hA:Z06 D=true) [bD:Siz P t k] (hx:ev e x=some (.pointer (some (Zx v i k 0))))
 (hs:SlV X w v xs) (hi:i<xs.length) (hk:k=Z2.k α):PR P n ⟨d,.load t x,ty,pos,af,g⟩ e w (.agg (Z2.enc xs[i]).toArray):=
 Za4 hA hx hs hi hk (by rw [hk];exact Z2.len _) (by rw [Ybb,XS (by rw [hk,Z2.len];exact Xl _)])
theorem Z0y {b T o:Nat} {cs:List Value} {u:Value} {x:Operand} {t:TypeId} {D:TypeDesc} [hu:Und P t D] (hA:Z06 D=false) (hx:ev e x=some (.pointer (some ⟨b,o,none⟩))) (hb:Blk w b T cs) (hc:cs[o]?=some u) :
 PR P n ⟨d,.load t x,ty,pos,af,g⟩ e w u:=Jp hA hx (hb.cell hc)
theorem Zn {b T o m:Nat} {cs us:List Value} {x:Operand} {t:TypeId} {D:TypeDesc} [hu:Und P t D] (hA:Z06 D=true) [bD:Siz P t m] (hx:ev e x=some (.pointer (some ⟨b,o,none⟩))) (hb:Blk w b T cs)
 (hl:us.length=m) (hc:(cs.drop o).take m=us):PR P n ⟨d,.load t x,ty,pos,af,g⟩ e w (.agg us.toArray):=by
 refine Z2g hA hx hl (λq u hq=>hb.cell ?_);rw [<- hc,Yaq] at hq;split at hq;simpa using hq;cases hq
theorem ZY {b T m:Nat} {cs:List Value} {x:Operand} {t:TypeId} {D:TypeDesc} [hu:Und P t D] (hA:Z06 D=true) [bD:Siz P t m] (hx:ev e x=some (.pointer (some ⟨b,0,none⟩))) (hb:Blk w b T cs)
 (hl:cs.length=m):PR P n ⟨d,.load t x,ty,pos,af,g⟩ e w (.agg cs.toArray):=
 Zn hA hx hb hl (by rw [Ybb,XS (by omega)])
def Z6w (w:World) (T:TypeId) (cs:List Value) (v:Value) (w':World):Prop:=∃ b,v=.pointer (some ⟨b,0,none⟩)/\w.heap.size<=b/\Blk w' b T cs/\Stp [] w w'
theorem ZbY (w:World) (T:TypeId) (cs:List Value):Z6w w T cs (.pointer (some ⟨w.heap.size,0,none⟩)) (w.alloc (.cells cs.toArray T)):=
 ⟨_,rfl,Xl _,heap_alloc_new w _,Stp.alloc _ _ _⟩
theorem ZL {o:Oper} {G:Value->World->Prop} {v:Value} {w':World} (h:∀ a,Has n e a->(execOp a.eval o).run P w=.ok (.value v) w') (hg:G v w'):OE P n o e w G:=
 ⟨λa ha Q=>by unfold Oper.wp;rw [h a ha];exact ⟨v,rfl,hg⟩⟩
theorem Z4w {o:Oper} {G:Value->World->Prop} {w':World} (h:∀ a,Has n e a->(execOp a.eval o).run P w=.ok .skip w') (hg:G undef w'):OE P n o e w G:=
 ⟨λa ha Q=>by unfold Oper.wp;rw [h a ha];exact ⟨undef,rfl,hg⟩⟩
theorem OE.mono {o:Oper} {G G':Value->World->Prop} (h:OE P n o e w G) (hg:∀ v w',G v w'->G' v w'):OE P n o e w G':=
 ⟨λa ha Q=>Oper.wp_mono (λa' w' ⟨v,h1,h2⟩=>⟨v,h1,hg v w' h2⟩) (h.h a ha Q)⟩
theorem Z4 {t:TypeId} {z:Value} [hz:Zer P t z]:OE P n ⟨d,.alloc t,ty,pos,af,g⟩ e w (Z6w w t z.cells.toList):=
 ZL (v:=.pointer (some ⟨w.heap.size,0,none⟩)) (w':=w.alloc (.cells z.cells t)) (λa ha=>by
  simp [execOp,Instr.alloc,Zer.run,newVar,newRow,newObj];rfl) (by simpa using ZbY w t z.cells.toList)
theorem Zp {t:TypeId} {x:Operand} {v:Value} (hx:ev e x=some v):OE P n ⟨d,.box t x,ty,pos,af,g⟩ e w (Z6w w t v.cells.toList):=
 ZL (v:=.pointer (some ⟨w.heap.size,0,none⟩)) (w':=w.alloc (.cells v.cells t)) (λa ha=>by
  simp [execOp,Instr.box,ha.ev hx,newVar,newRow,newObj];rfl) (by simpa using ZbY w t v.cells.toList)
theorem Z8O {α:Type} [Z6 α] {X:List Nat} {ck:World} {xs:List α} {t:TypeId} {x:Operand} {v:Value} (hx:ev e x=some v) (hs:SlV X ck v xs):OE P n ⟨d,.box t x,ty,pos,af,g⟩ e w (Z6w w t [v]):=by
 rw [<- hs.cells];exact Zp hx
theorem Z1F (w:World) (b:Nat) (cs:Array Value):Stp [b] w (w.setRow b cs):=
 ⟨rfl,rfl,rfl,by simp,λk hk hn=>setRow_other w b k cs (by simpa using hn)⟩
theorem Z1G {b T o m t:Nat} {cs us:List Value} {x y:Operand} {u:Value} [bD:Siz P t m] (hx:ev e x=some (.pointer (some ⟨b,o,none⟩))) (hy:ev e y=some u) (hu:u.cells.toList=us) (hm:us.length=m) (h1:∀ c∈us,c.oneCell'=true)
 (hb:Blk w b T cs) (hl:o+us.length<=cs.length):OE P n ⟨d,.store t x y,ty,pos,af,g⟩ e w (λ_ w'=>Stp [b] w w'/\Blk w' b T (cs.take o++us++cs.drop (o+us.length))):=by
 have ax:=run_storeCells_at P b o T us 0 cs.toArray w hb (by simpa using hl) h1;refine Z4w (w':=w.setRow b (cs.take o++us++cs.drop (o+us.length)).toArray) (λa ha=>?_) ⟨Z1F _ _ _,setRow_heap w b cs.toArray _ T (0,0) hb⟩;have aR:u.cells.size=m:=by rw [<- hm,<- hu,Yab]
 simp only [YbA] at ax;simp [execOp,ha.ev hx,ha.ev hy,Instr.storeAt,Instr.sureAddr,storeVar,Siz.run,aR,hu,ax]
theorem Zw {b T m t:Nat} {cs us:List Value} {x y:Operand} {u:Value} [bD:Siz P t m] (hx:ev e x=some (.pointer (some ⟨b,0,none⟩))) (hy:ev e y=some u) (hu:u.cells.toList=us) (hm:us.length=m) (h1:∀ c∈us,c.oneCell'=true)
 (hb:Blk w b T cs) (hl:us.length=cs.length):OE P n ⟨d,.store t x y,ty,pos,af,g⟩ e w (λ_ w'=>Stp [b] w w'/\Blk w' b T us):=
 (Z1G hx hy hu hm h1 hb (by omega)).mono (λ_ w' ⟨h2,h3⟩=>⟨h2,by simpa [hl] using h3⟩)
theorem Zb {b T o t:Nat} {cs:List Value} {x y:Operand} {u:Value} [bD:Siz P t 1] (hx:ev e x=some (.pointer (some ⟨b,o,none⟩))) (hy:ev e y=some u) (hu:u.cells.toList=[u]) (h1:u.oneCell'=true)
 (hb:Blk w b T cs) (hl:o<cs.length):OE P n ⟨d,.store t x y,ty,pos,af,g⟩ e w (λ_ w'=>Stp [b] w w'/\Blk w' b T (cs.set o u)):=
 (Z1G hx hy hu rfl (by simpa using h1) hb (by simp; omega)).mono (λ_ w' ⟨h2, h3⟩ => ⟨h2, by
   rw [List.set_eq_take_append_cons_drop,if_pos hl];simpa using h3⟩)
end rules
def ob:Value->List Nat
 | .slice (some a) _ _=>[a.block]
 | _=>[]
theorem ZbZ (v:Value):v.ownBlock.toList=ob v:=by
 cases v<;>try rfl
 rename_i a _ _;cases a<;>rfl
def Row {α:Type} [Z6 α] (X:List Nat) (w:World) (base T:Nat) (v:Value) (xs:List α):Prop:=
 ∃ css:List (List Value),css.length=xs.length/\(∀ i (h:i<xs.length) (h':i<css.length),Z6.rep (ob v++X) w xs[i] css[i])/\w.ownsRow base T (Z6.k α) v xs.length css.flatten
section row
variable {α:Type} [Z6 α] {X:List Nat} {w w':World} {base T:Nat} {v:Value} {xs:List α}
theorem Row.nil:Row (α:=α) X w base T (.slice none 0 0) []:=
 ⟨[],rfl,λi h=>absurd h (XF _),by simpa using World.ownsRow_nil w base T (Z6.k α)⟩
theorem Row.ob_le (h:Row X w base T v xs):∀ b∈ob v,base<=b/\b<w.heap.size:=by
 obtain ⟨css,_,_,ho⟩:=h;intro b hb;rw [<- ZbZ] at hb;exact ho.lt b (by simpa using hb)
theorem Row.ext {S X':List Nat} (h:Row X w base T v xs) (hS:Stp S w w') (h1:∀ b∈S,b∈X/\b∉ob v) (h2:∀ b∈X',b∈X\/w.heap.size<=b):Row X' w' base T v xs:=by
 obtain ⟨css,hl,hr,ho⟩:=h;refine ⟨css,hl,λi hi ca=>Z6.ext (hr i hi ca) hS (λb hb=>by simp [(h1 b hb).1]) (λb hb=>?_),?_⟩;simp only [Xd] at hb ⊢;rcases hb with hb|hb
 exact .inl (.inl hb);rcases h2 b hb with h|h
 exact .inl (.inr h);exact .inr h;refine ⟨ho.1,?_⟩;rcases ho.2 with hn|⟨q,cap,cur,rfl,hb,hg,rest⟩
 exact .inl hn;refine .inr ⟨q,cap,cur,rfl,hb,?_,rest⟩;rw [hS.block q (Xo.1 hg).1 (λhq=>(h1 q hq).2 (by simp [ob]))];exact hg
theorem Row.up (h:Row X w base T v xs) (hS:Stp [] w w'):Row X w' base T v xs:=h.ext hS (by simp) (λb hb=>.inl hb)
theorem Z07 {k:Nat}:∀ (css:List (List Value)),(∀ c∈css,c.length=k)->∀ (i:Nat) (hi:i<css.length) (j:Nat) (u:Value),css[i][j]?=some u->css.flatten[i * k+j]?=some u
 | [],_,i,hi,_,_,_=>absurd hi (XF _)
 | c :: r, hk, 0, _, j, u, hu => by
   have hj:j<c.length:=(Xw.1 hu).1;simp only [YaG,Nat.zero_mul,XJ];rw [X1 hj];exact hu
 | c :: r, hk, i + 1, hi, j, u, hu => by
   have ih:=Z07 r (λc hc=>hk c (by simp [hc])) i (by simpa using hi) j u (by simpa using hu);have hc:=hk c (by simp);simp only [YaG];rw [YaM (by rw [hc,Yau];omega),hc];rw [show (i+1) * k+j - k=i * k+j by rw [Yau];omega];exact ih
theorem Row.slv (h:Row X w base T v xs) (hX:∀ b∈X,b<base):SlV X w v xs:=by
 obtain ⟨css,hl,hr,ho⟩:=h;have hk:∀ c∈css,c.length=Z6.k α:=by
  intro c hc;obtain ⟨i,hi,rfl⟩:=XB hc;exact Z6.len (hr i (by omega) hi)
 rcases ho.2 with ⟨rfl,hn⟩|⟨q,cap,cur,rfl,hb,hg,bX,bE,aR,ht⟩
 exact ⟨none,0,by rw [hn],by omega,by simp [maxLen],λ_=>rfl,λi hi=>by omega⟩;refine ⟨some ⟨q,0,none⟩,cap,rfl,bX,bE,λh=>by simp at h,λi hi=>?_⟩;refine ⟨q,0,css[i]'(by omega),rfl,(Xo.1 hg).1,λhx=>by have:=hX q hx;omega,?_,λj u hu=>?_⟩;exact Z6.ext (hr i hi (by omega)) (Stp.refl [] w) (by simp) (λb hb=>.inl (by simp [hb]));have h1:=Z07 css hk i (by omega) j u hu;rw [<- ht,Yaq] at h1;split at h1;have h2:cur[i * Z6.k α+j]?=some u:=by simpa using h1
 rw [XJ,cell_of_row w q _ cur T (0,0) hg];exact h2;cases h1
theorem Z4x {P:Program} {t ty e size bytes:Nat} {i:TypeInfo} {z:Value} (ht:P.underlying t=some (.slice e)) (hi:P.info? e=some i) (hz:i.zero=some z)
 (lz:i.size=size) (oa:i.bytes=bytes) {v:Value} {n:Nat} {cs:List Value} (cm:w.ownsRow base e size v n cs)
 {a:Addr} {m c:Nat} {news:List Value} (hl:news.length=m * size) (cx:∀ j u,news[j]?=some u->w.cell? (a.add j)=some u) (h1:∀ u∈news,u.oneCell'=true)
 (sV:n+m<=maxLen) (hbytes:(n+m) * bytes<=140737488355328) {v':Value} {w':World} (hr:(Builtin.append_ #[t,t] ty #[v,.slice (some a) m c]).run P w=.ok v' w') :
 ∀ b∈ob v',b∈ob v\/w.heap.size<=b:=by
 subst lz;subst oa;have hsmall:n+m<=9223372036854775807:=by simp only [maxLen] at sV;omega
 rcases cm.2 with ⟨rfl,rfl⟩|⟨q,cap,cur,rfl,wG,hg,bX,bE,aR,qX⟩
 by_cases hm:m=0;subst hm;have hn:news=[]:=Ya0 (by simpa using hl);subst hn;have:(Builtin.append_ #[t,t] ty #[.slice none 0 0,.slice (some a) 0 c]).run P w=.ok (.slice none 0 0) w:=by
  simp [Builtin.append_,run_underlying ht,sizeOf,typeInfo,hi,Builtin.lenOf,Builtin.firstCells,loadCells,loadCellsFrom]
 rw [this] at hr;cases hr;simp [ob];have h:=run_append_nil (P:=P) w t ty e i z ht hi hz a m c news hl cx (by omega) (by omega) (by have hb:=hbytes;simp only [XJ] at hb;omega);rw [h] at hr;cases hr;simp [ob];by_cases ja:n+m<=cap;have eG:n * i.size+news.length<=cur.size:=by rw [hl,aR,<- YbR];exact Xu _ ja
 have h:=run_append_room (P:=P) w t ty e i ht hi q n cap cur hg a m c news hl cx h1 ja eG;rw [h] at hr;cases hr;simp [ob];have holds:∀ j u,cs[j]?=some u->w.cell? ((⟨q,0,none⟩:Addr).add j)=some u:=cm.cells (g:=q) rfl;have h:=run_append_grow (P:=P) w t ty e i z ht hi hz ⟨q,0,none⟩ n cap cs cm.1 holds a m c news hl cx (by omega) (by omega) (growslice_fits (by omega) hbytes);rw [h] at hr;cases hr;simp [ob]
def Za6 (X:List Nat) (w:World) (base T:Nat) (v:Value) (xs ys:List α) (v':Value) (w':World):Prop:=
 Row X w' base T v' (xs++ys)/\Stp (ob v) w w'/\∀ b∈ob v',b∈ob v\/w.heap.size<=b
theorem ZC {P:Program} {n:Nat} {e:Env} {d:Option Nat} {ty:TypeId} {pos:String} {af:Array Edge} {g:Option (Nat×Bool)} {x y:Operand} {t bytes:Nat} {u:Value} {z:Value} {ys:List α}
 [ht:Und P t (.slice T)] [hk:Siz P T (Z6.k α)] [hb:Byt P T bytes] [hz:Zer P T z] (dW:z.cells.size=Z6.k α) (aZ:0<Z6.k α)
 (hx:ev e x=some v) (hy:ev e y=some u) (ac:Row X w base T v xs) (cb:SlV (ob v++X) w u ys) (hbytes:(xs.length+ys.length) * bytes<=140737488355328) (ak:xs.length+ys.length<=maxLen) (aV:base<=w.heap.size) :
 OE P n ⟨d,.call { callee:=.builtin .append,args:=#[x,y],argTypes:=#[t,t] },ty,pos,af,g⟩ e w (Za6 X w base T v xs ys):=by
 obtain ⟨i,hi,cu,cy,gR⟩:∃ i,P.info? T=some i/\i.size=Z6.k α/\i.bytes=bytes/\i.zero=some z:=by
  have a1:=hk.h;have a2:=hb.h;have a3:=hz.h;cases hi:P.info? T with
  | none=>simp [hi] at a1
  | some i=>exact ⟨i,rfl,by simpa [hi] using a1,by simpa [hi] using a2,by simpa [hi] using a3⟩
 have dX:=ac;obtain ⟨css,hl,hr,ho⟩:=ac;obtain ⟨p,c,rfl,dY,wH,sW,qY⟩:=cb;have oe:∃ dss:List (List Value),dss.length=ys.length/\(∀ j (h:j<ys.length) (h':j<dss.length),Z6.rep (ob v++X) w ys[j] dss[j]/\∃ b o,p=some ⟨b,o,none⟩/\∀ q u,dss[j][q]?=some u->w.cell? ⟨b,o+j * Z6.k α+q,none⟩=some u):=by
  have:∀ j:Fin ys.length,∃ ds:List Value,Z6.rep (ob v++X) w ys[j] ds/\∃ b o,p=some ⟨b,o,none⟩/\∀ q u,ds[q]?=some u->w.cell? ⟨b,o+j * Z6.k α+q,none⟩=some u:=by
   intro j;obtain ⟨b,o,cs,h1,h2,h3,h4,h5⟩:=qY j j.2;exact ⟨cs,h4,b,o,h1,h5⟩
  obtain ⟨f,hf⟩:=Classical.axiomOfChoice this;refine ⟨List.ofFn f,by simp,λj h h'=>?_⟩;have:=hf ⟨j,h⟩;simpa using this
 obtain ⟨dss,jc,hd⟩:=oe;have nz:∀ c∈dss,c.length=Z6.k α:=by
  intro c hc;obtain ⟨q,hq,rfl⟩:=XB hc;exact Z6.len (hd q (by omega) hq).1
 have jd:∀ (l:List (List Value)),(∀ c∈l,c.length=Z6.k α)->l.flatten.length=l.length * Z6.k α:=by
  intro l
  induction l with
  | nil=>intro _;simp
  | cons c r ih=>intro h;simp only [YaG,Xa,Xe,Yau];rw [ih (λc hc=>h c (by simp [hc])),h c (by simp)];omega
 have aq:∀ u∈dss.flatten,u.oneCell'=true:=by
  intro u hu;obtain ⟨c,hc,sX⟩:=List.mem_flatten.1 hu;obtain ⟨q,hq,rfl⟩:=XB hc;exact Z6.one (hd q (by omega) hq).1 u sX
 have fin:∀ (v':Value) (w':World),w'.ownsRow base T (Z6.k α) v' (xs.length+ys.length) (css.flatten++dss.flatten)->Stp (ob v) w w'->(∀ b∈ob v',b∈ob v\/w.heap.size<=b)->Za6 X w base T v xs ys v' w':=by
  intro v' w' ir hS iu;have hX:∀ b∈ob v'++X,b∈ob v++X\/w.heap.size<=b:=by
   intro b hb;simp only [Xd] at hb ⊢;rcases hb with hb|hb
   rcases iu b hb with h|h
   exact .inl (.inl h);exact .inr h;exact .inl (.inr hb)
  have qZ:∀ b∈ob v,b∈ob v++X:=λb hb=>by simp [hb]
  refine ⟨⟨css++dss,by simp [hl,jc],λi hi ca=>?_,?_⟩,hS,iu⟩;by_cases hlt:i<xs.length;rw [YaE hlt,YaE (by omega)];exact Z6.ext (hr i hlt (by omega)) hS qZ hX;have cy:i<xs.length+ys.length:=by simpa using hi
  rw [Yaz (by omega),Yaz (by omega)];have:=Z6.ext (hd (i - xs.length) (by omega) (by omega)).1 hS qZ hX;simpa [hl] using this;rw [List.flatten_append];simpa using ir
 cases p with
 | none=>
   have gT:ys.length=0:=by
    cases cb:ys with
    | nil=>rfl
    | cons y r=>
      obtain ⟨b,o,cs,hp,_⟩:=qY 0 (by simp [cb]);simp at hp
   have gU:c=0:=sW rfl;subst gU;have dx:dss=[]:=Ya0 (by omega);subst dx;have bj:=run_append_owned_none (P:=P) w base t ty T i (Z6.k α) ht.h hi v xs.length css.flatten ho;refine ZL (v:=v) (w':=w) (λa ha=>?_) (fin v w (by simpa [gT] using ho) (Stp.refl _ _) (λb hb=>.inl hb));rw [gT] at hy;simp [execOp,resolve,invoke,builtin,ha.ev hx,ha.ev hy,bj]
 | some a=>
   have cx:∀ j u,dss.flatten[j]?=some u->w.cell? (a.add j)=some u:=by
    intro j u hj;have aT:j<dss.flatten.length:=(Xw.1 hj).1;rw [jd dss nz] at aT;have hq:j / Z6.k α<dss.length:=(Nat.div_lt_iff_lt_mul aZ).2 aT;obtain ⟨h1,b,o,hp,am⟩:=hd (j / Z6.k α) (by omega) hq;simp only [Xk] at hp;subst hp;have sY:j % Z6.k α<Z6.k α:=YbD _ aZ;have rc:j / Z6.k α * Z6.k α+j % Z6.k α=j:=by rw [Ybo];exact Ybz j _
    have sZ:dss[j / Z6.k α].length=Z6.k α:=nz _ (Xb hq);have ez:dss[j / Z6.k α][j % Z6.k α]?=some (dss[j / Z6.k α][j % Z6.k α]'(by omega)):=XR (by omega);have h2:=Z07 dss nz _ hq _ _ ez;rw [rc,hj] at h2;have h3:=am _ _ ez;rw [Addr.add_lit];rw [YaK,rc] at h3;rw [h3,h2]
   have dK:dss.flatten.length=ys.length * Z6.k α:=by rw [jd dss nz,jc]
   obtain ⟨v',w',bj,h2,h3,h4⟩:=run_append_own (P:=P) w base t ty T i z (Z6.k α) bytes ht.h hi gR cu cy dW aZ v xs.length css.flatten ho a ys.length c dss.flatten dK cx aq ak hbytes aV;have ab:=Z4x (P:=P) ht.h hi gR cu cy ho dK cx aq ak hbytes bj;have hS:Stp (ob v) w w':=by rw [<- ZbZ];exact Stp.of_grown h3
   refine ZL (v:=v') (w':=w') (λa ha=>?_) (fin v' w' h2 hS ab);simp [execOp,resolve,invoke,builtin,ha.ev hx,ha.ev hy,bj]
end row
abbrev _root_.Go.Value.I (z:Int):Value:=.int .i64 z
abbrev _root_.Go.Value.N:Value:=.slice none 0 0
abbrev _root_.Go.Value.B (b:Bool):Value:=.bool b
abbrev aG {α:Type} [Z2 α] (x:α):Value:=.agg (Z2.enc x).toArray
theorem Stp.ow {S S':List Nat} {a b c:World} (h:Stp S a b) (k:Stp S' b c) (hs:∀ x∈S',x∈S\/a.heap.size<=x:=by intro c hc;exact .inr (by simp at hc;omega)):Stp S a c:=h.own k hs
theorem Stp.mn {S S':List Nat} {a b:World} (h:Stp S a b) (hs:∀ x∈S,x∈S':=by simp):Stp S' a b:=h.mono hs
abbrev pQ (b:Nat):Value:=.pointer (some ⟨b,0,none⟩)
class Rl (σ:Type) where
 rel:σ->World->World->Prop
 refl:∀ S w,rel S w w
 trans:∀ {S a b c},rel S a b->rel S b c->rel S a c
instance:Rl (List Nat):=⟨Stp,Stp.refl,λh k=>h.trans k⟩
section any
variable {P:Program} {ops:Array Oper} {md:Region.Mode} {σ:Type} [Rl σ] {S:σ} {Lt:Nat->Bool}
theorem ZpU {o:Oper} {a:Act} {w} {K:Act->World->Prop} {Q:Exit->Act->World->Prop} (h:o.wp P a w K (λ_ _ _=>False)):o.wp P a w K Q:=by
 unfold Oper.wp at *;generalize (execOp a.eval o).run P w=r at *;cases r with
 | ok n w'=>
   cases n<;>simp only [Oper.upon] at h ⊢
   case enter f args=>
    refine Calls.mono h (λe w'' he=>?_);cases e with
    | returned v=>exact he
    | panicked c=>exact he.elim
    | outgrown=>obtain ⟨_,_,hf⟩:=he;exact hf.elim
   all_goals exact h
 | halt x w'=>cases x<;>simp only [Oper.upon] at h
theorem ZgQ {i:Nat} {K:Act->World->Prop} {Q:Exit->Act->World->Prop} {a:Act} {w} (h:wpOp P ops (λ_ _ _=>False) i K a w):wpOp P ops Q i K a w:=by
 unfold wpOp at *;cases ho:ops[i]? with
 | none=>simp only [ho] at h ⊢;exact h
 | some o=>
   simp only [ho] at h ⊢;split;rename_i hw;simp only [hw,if_true] at h;rcases h with h|⟨_,_,_,hf⟩
   exact .inl (ZpU h);exact hf.elim;rename_i hw;simp only [hw] at h;exact h
def Z1f (P:Program) (md:Region.Mode) (ops:Array Oper) {σ:Type} [Rl σ] (S:σ) (Lt:Nat->Bool) (Z:Act->World->Prop):Nat->Array Bool->Act->World->Prop
 | 0,listed,a,w=>Region.ready md ops listed=[]/\Z a w
 | fuel + 1, listed, a, w=>
   (Region.ready md ops listed=[]->Z a w)/\
   ∀ i∈Region.ready md ops listed,wpOp P ops (λ_ _ _=>False) i (λa' w'=>(Rl.rel S w w'\/Lt i=true)/\Z1f P md ops S Lt Z fuel (listed.setIfInBounds i true) a' w') a w
theorem Z0u {Z:Act->World->Prop} {Q:Exit->Act->World->Prop} (hZ:∀ a w,Z a w->Q .normal a w):∀ (fuel:Nat) (listed:Array Bool) (a:Act) (w),
 Z1f P md ops S Lt Z fuel listed a w->wpAny P md ops Q fuel listed a w
 | 0,_,_,_,h=>⟨h.1,hZ _ _ h.2⟩
 | fuel+1,_,_,_,h=>⟨λh0=>hZ _ _ (h.1 h0),λi hi=>wpOp_mono (λa' w' hk=>Z0u hZ fuel _ a' w' hk.2) (ZgQ (h.2 i hi))⟩
def YE (P:Program) (ops:Array Oper) (R:World->World->Prop) (o:Oper) (v:Value) (a:Act) (w:World):Prop:=
 (Region.wanted o (yielded ops a.tmps)=true/\∀ w',R w w'->(execOp a.eval o).run P w'=.ok (.value v) w')\/
 (Region.wanted o (yielded ops a.tmps)=false/\v=undef)
theorem YE.same {R:World->World->Prop} {o:Oper} {v:Value} {a a':Act} {w} (hy:YE P ops R o v a w) (he:execOp a'.eval o=execOp a.eval o)
 (hw:Region.wanted o (yielded ops a'.tmps)=Region.wanted o (yielded ops a.tmps)):YE P ops R o v a' w:=by
 unfold YE at *;rw [he,hw];exact hy
theorem Z4y {Z:Act->World->Prop} {R:World->World->Prop} (eH:∀ w,R w w) (og:∀ a b c,R a b->R b c->R a c) {i:Nat} {oi:Oper} {v:Value} (hi:ops[i]?=some oi)
 (oh:∀ j oj,ops[j]?=some oj->(∀ e∈oj.after,Region.binds md e=true->e.on≠i)->j≠i->∀ w w',(Rl.rel S w w'\/Lt j=true)->R w w')
 (gg:∀ (j:Nat) (o:Oper) cs b,ops[j]?=some o->o.op≠.select cs b) :
 ∀ (fuel : Nat) (listed : Array Bool) (a : Act) (w),
   (∀ j oj,ops[j]?=some oj->j≠i->listed.getD j true=false->(∀ e∈oj.after,Region.binds md e=true->e.on≠i)->oi.apart ops oj=true)->
   (Rl.rel S w w\/Lt i=true->True)->i∈Region.ready md ops listed->YE P ops R oi v a w->
   Z1f P md ops S Lt Z fuel (listed.setIfInBounds i true) (a.put oi.dst v) w->Z1f P md ops S Lt Z (fuel+1) listed a w:=by
 have now:∀ (fuel:Nat) (listed:Array Bool) (a:Act) (w:World),YE P ops R oi v a w->Z1f P md ops S Lt Z fuel (listed.setIfInBounds i true) (a.put oi.dst v) w->
  wpOp P ops (λ_ _ _=>False) i (λa' w'=>(Rl.rel S w w'\/Lt i=true)/\Z1f P md ops S Lt Z fuel (listed.setIfInBounds i true) a' w') a w:=by
  intro fuel listed a w hy H;unfold wpOp;simp only [hi];rcases hy with ⟨hw,hv⟩|⟨hw,rfl⟩
  simp only [hw,if_true,Oper.wp,hv w (eH w),Oper.upon];exact .inl ⟨.inl (Rl.refl _ _),H⟩;simp only [hw,YaB,if_false];exact ⟨.inl (Rl.refl _ _),H⟩
 intro fuel
 induction fuel with
 | zero=>
   intro listed a w _ _ hr hy H;refine ⟨λh=>(by rw [h] at hr;cases hr),λj hj=>?_⟩;by_cases cM:j=i;subst cM;exact now _ _ _ _ hy H;have:=ready_mono hj cM;rw [H.1] at this;cases this
 | succ fuel ih=>
   intro listed a w dZ hx hr hy H;refine ⟨λh=>(by rw [h] at hr;cases hr),λj hj=>?_⟩;by_cases cM:j=i;subst cM;exact now _ _ _ _ hy H;have h1:=H.2 j (ready_mono hj cM);obtain ⟨gh,oj,iv,aP⟩:=mem_ready.1 hj;have gi:∀ e∈oj.after,Region.binds md e=true->e.on≠i:=λe he hb jD=>by
    have h1:=aP e he hb;have h0:=(mem_ready.1 hr).1;rw [jD] at h1;rcases Ybp i listed.size with h'|h'
    simp [h'] at h0 h1;rw [h0] at h1;cases h1;simp [Ya3 h'] at h1
   have hap:=dZ j oj iv cM gh gi;obtain ⟨p1,p2,p3⟩:=Oper.apart_spec hap;have keep:∀ (a:Act),YE P ops R oi v a w->∀ u,YE P ops R oi v (a.put oj.dst u) w:=λa hy u=>
    hy.same (execOp_put oi (λcs b=>gg i oi cs b hi) a oj.dst u p3) (wanted_put oi a oj.dst u p3)
   have keepD:∀ (a:Act) d,YE P ops R oi v a w->YE P ops R oi v { a with defers:=d :: a.defers } w:=λa d hy=>hy.same rfl rfl;have later:∀ (a:Act) w',(Rl.rel S w w'\/Lt j=true)->YE P ops R oi v a w->YE P ops R oi v a w':=λa w' hs hy=>by
    rcases hy with ⟨hw,hv⟩|hw
    exact .inl ⟨hw,λw'' h''=>hv w'' (og _ _ _ (oh j oj iv gi cM w w' hs) h'')⟩;exact .inr hw
   have eI:∀ k ok,ops[k]?=some ok->k≠i->(listed.setIfInBounds j true).getD k true=false->
    (∀ e∈ok.after,Region.binds md e=true->e.on≠i)->oi.apart ops ok=true:=λk ok hk jE lB bg=>by
    refine dZ k ok hk jE ?_ bg;by_cases gV:j=k;subst gV;exact gh;rw [getD_set_ne true gV] at lB;exact lB
   have fin:∀ a' w',YE P ops R oi v a' w->(Rl.rel S w w'\/Lt j=true)/\Z1f P md ops S Lt Z fuel ((listed.setIfInBounds i true).setIfInBounds j true) (a'.put oi.dst v) w'->
    (Rl.rel S w w'\/Lt j=true)/\Z1f P md ops S Lt Z (fuel+1) (listed.setIfInBounds j true) a' w':=by
    rintro a' w' iw ⟨hs,hk⟩;refine ⟨hs,ih _ a' w' eI (λ_=>trivial) (ready_mono hr (Ne.symm cM)) (later a' w' hs iw) ?_⟩;rw [Array.setIfInBounds_comm _ _ cM];exact hk
   have ol:∀ cs b,oj.op≠.select cs b:=λcs b=>gg j oj cs b iv;unfold wpOp at *;simp only [iv] at *;rw [wanted_put oj a oi.dst v p1] at h1;split
   . rename_i hw
     simp only [hw,if_true] at h1;rcases h1 with h1|⟨_,_,_,hf⟩
     case inr=>exact hf.elim
     refine .inl ?_;unfold Oper.wp at *;rw [execOp_put oj ol a oi.dst v p1] at h1;generalize (execOp a.eval oj).run P w=r at *;cases r with
     | ok n w'=>
       cases n<;>simp only [Oper.upon] at h1 ⊢
       case value u=>exact fin _ _ (keep a hy u) (by rw [<- Act.put_comm a v u p2];exact h1)
       case skip=>exact fin _ _ (keep a hy _) (by rw [<- Act.put_comm a v undef p2];exact h1)
       case defer d=>
        refine fin _ _ (keep _ (keepD a d hy) _) ?_;rw [<- Act.put_comm _ v undef p2,<- Act.put_defers];exact h1
       case enter f args=>
        refine Calls.mono h1 λe w'' he=>?_;cases e with
        | returned u=>exact fin _ _ (keep a hy u) (by rw [<- Act.put_comm a v u p2];exact he)
        | panicked c=>exact he
        | outgrown=>exact he
       case row row args=>exact Rows.mono h1 λu w'' he=>fin _ _ (keep a hy u) (by rw [<- Act.put_comm a v u p2];exact he)
     | halt x w'=>
       cases x<;>simp only [Oper.upon] at h1
   rename_i hw;simp only [hw] at h1;exact fin _ _ (keep a hy _) (by rw [<- Act.put_comm a v undef p2];exact h1)
end any
def Zdq (ops:Array Oper) (Lt:List Nat) (i:Nat):Bool:=
 Lt.all λj=>j == i || (match ops[j]? with|some oj=>oj.after.any (λe=>Region.binds .any e && e.on == i)|none=>true)
def bits (m:Nat):List Nat:=(List.range 64).filter (λj=>m.testBit j)
def Zet:List Nat->List (List Nat)
 | []=>[[]]
 | x :: r=>Zet r++(Zet r).map (x :: ·)
def lst (listed:Array Bool) (is rem:List Nat):Array Bool:=Array.ofFn (n:=listed.size) λj=>listed[j] || (is.contains j.val && !rem.contains j.val)
def wt:List (Nat×Nat)->Nat
 | []=>0
 | (_,k) :: r=>(if k<100000 then 1 else (bits (k - 100000)).length)+wt r
theorem Z0n {i k:Nat} {r:List (Nat×Nat)} (h:k<100000):wt ((i,k) :: r)=wt r+1:=by simp [wt,h];omega
def ZN (ops:Array Oper) (Lt:List Nat):List (Nat×Nat)->Option Nat->Array Bool->Bool
 | [],sk,listed=>sk.isNone && (Region.ready .any ops listed).isEmpty
 | (i,0) :: r,sk,listed=>(Region.ready .any ops listed).contains i && Region.free .any ops listed i && ZN ops Lt r sk (listed.setIfInBounds i true)
 | (i,1) :: r,sk,listed=>(Region.ready .any ops listed).contains i && Region.free .any ops listed i && Zdq ops Lt i && ZN ops Lt r sk (listed.setIfInBounds i true)
 | (i,2) :: r,sk,listed=>if sk=some i then ZN ops Lt r none listed else Region.ready .any ops listed == [i] && ZN ops Lt r sk (listed.setIfInBounds i true)
 | (i, q + 3) :: r, sk, listed => if sk = some q /\ q + 3 < 100000 then (Region.ready .any ops listed == [i] && ZN ops Lt r sk (listed.setIfInBounds i true)) else sk.isNone && if q + 3 < 100000 then (Region.ready .any ops listed == [i, q] && ZN ops Lt r none (listed.setIfInBounds i true) && Region.ready .any ops (listed.setIfInBounds q true) == [i] && ZN ops Lt r (some q) ((listed.setIfInBounds q true).setIfInBounds i true))
   else (Zet (bits (q+3 - 100000))).all (λrem=>rem.isEmpty || Region.ready .any ops (lst listed (bits (q+3 - 100000)) rem) == rem) && ZN ops Lt r none (lst listed (bits (q+3 - 100000)) [])
def J5 (ops:Array Oper) (Lt:List Nat) (ord:List (Nat×Nat)) (listed:Array Bool):Bool:=ZN ops Lt ord none listed
def Z3b (q:Nat):List (Nat×Nat)->List (Nat×Nat)
 | []=>[]
 | (i,2) :: r=>if i=q then r else (i,2) :: Z3b q r
 | (i,0) :: r=>(i,0) :: Z3b q r
 | (i,1) :: r=>(i,1) :: Z3b q r
 | (i,k+3) :: r=>if k=q/\k+3<100000 then (i,2) :: Z3b q r else (i,k+3) :: Z3b q r
theorem Z1H {ops:Array Oper} {Lt:List Nat} {q:Nat}:∀ (r:List (Nat×Nat)) (listed:Array Bool),ZN ops Lt r (some q) listed=true->ZN ops Lt (Z3b q r) none listed=true/\wt r=wt (Z3b q r)+1
 | [],listed,h=>by simp [ZN] at h
 | (i, 0) :: r, listed, h => by
   simp only [ZN,Xf] at h;obtain ⟨h1,h2⟩:=Z1H r _ h.2;simp only [Z3b,ZN,Xf];exact ⟨⟨h.1,h1⟩,by simp [wt,h2];omega⟩
 | (i, 1) :: r, listed, h => by
   simp only [ZN,Xf] at h;obtain ⟨h1,h2⟩:=Z1H r _ h.2;simp only [Z3b,ZN,Xf];exact ⟨⟨h.1,h1⟩,by simp [wt,h2];omega⟩
 | (i, 2) :: r, listed, h => by
   by_cases e:i=q;subst e;simp only [ZN,if_pos] at h;simp only [Z3b,if_pos];exact ⟨h,by simp [wt];omega⟩;have e':¬ (some q=some i):=by simpa using λh=>e h.symm
   simp only [ZN,if_neg e',Xf] at h;obtain ⟨h1,h2⟩:=Z1H r _ h.2;simp only [Z3b,if_neg e,ZN];refine ⟨?_,by simp [wt,h2];omega⟩;rw [if_neg (by simp)];simp only [Xf];exact ⟨h.1,h1⟩
 | (i, k + 3) :: r, listed, h => by
   by_cases e:k=q/\k+3<100000;simp only [ZN] at h;rw [if_pos ⟨by rw [e.1],e.2⟩] at h;simp only [Xf] at h;obtain ⟨h1,h2⟩:=Z1H r _ h.2;simp only [Z3b,if_pos e,ZN];refine ⟨?_,by rw [Z0n e.2,Z0n (by decide),h2]⟩;rw [if_neg (by simp)];simp only [Xf];exact ⟨h.1,h1⟩;simp only [ZN] at h;rw [if_neg (λh'=>e ⟨(XU h'.1).symm,h'.2⟩)] at h;simp at h
structure WG (P:Program) (n:Nat) (ops:Array Oper) {σ:Type} [Rl σ] (S:σ) (Lt:List Nat) (Q:Exit->Act->World->Prop) (ord:List (Nat×Nat)) (e:Env) (w:World):Prop where
 h:∀ listed:Array Bool,Region.noSelect ops=true->J5 ops Lt ord listed=true->∀ a,Has n e a->Z1f P .any ops S (λj=>Lt.contains j) (λa w=>Q .normal a w) (wt ord) listed a w
section rules
variable {P:Program} {n:Nat} {Q:Exit->Act->World->Prop} {e:Env} {w:World} {ops:Array Oper} {σ:Type} [Rl σ] {S:σ} {Lt:List Nat} {rest:List (Nat×Nat)}
theorem Z82 {id:Nat} {l:List Oper} (m:Nat) {σ:Type} [Rl σ] (S:σ) (Lt:List Nat) (ord:List (Nat×Nat)) (ce:l.length=m) (hm:P.follows .mixedOrders=true) (hs:Region.noSelect l.toArray=true) (hl:Nat.beq (wt ord) l.length=true)
 (hB:J5 l.toArray Lt ord (Array.replicate m false)=true)
 (h:∀ w',Stp [] w w'->WG P n l.toArray S Lt Q ord e w'):WC P n (.region id l.toArray true) Q e w:=by
 subst ce;refine ⟨λa ha=>wp_region_any hm ?_⟩;have h1:=(h { w with drawn:=w.drawn+1 } (Stp.drew [] w)).h _ hs hB a ha;have h2:=Z0u (Q:=Q) (λa w hz=>hz) _ _ _ _ h1;rw [Xq hl] at h2;simpa using h2
theorem ZgR (h:WQ n Q .normal e w):WG P n ops S Lt Q [] e w:=
 ⟨λ_ _ hB a ha=>⟨by simpa [J5,ZN] using hB,h.h a ha⟩⟩
def Z08 (ops:Array Oper) (e:Env):Option (Nat×Bool)->Prop
 | none=>True
 | some (j,b)=>yld ops e j=some (.B b)
theorem Z01 {o:Oper} {a:Act} (ha:Has n e a) (hg:Z08 ops e o.guard):Region.wanted o (yielded ops a.tmps)=true:=by
 unfold Region.wanted;cases s6:o.guard with
 | none=>rfl
 | some jb=>
   obtain ⟨j,b⟩:=jb;rw [s6] at hg;simp [Z6v ha hg]
theorem Za7 {i d:Nat} {o:Oper} {v:Value} (hi:ops[i]?=some o) (hd:o.dst=some d) (hY:∀ a,Has n e a->YE P ops (λ_ _=>True) o v a w) (aB:Nat.blt d n=true)
 (k:WG P n ops S Lt Q rest ((d,v) :: e) w):WG P n ops S Lt Q ((i,0) :: rest) e w:=by
 refine ⟨λlisted hs hB a ha=>?_⟩;simp only [J5,ZN,Xf] at hB;obtain ⟨⟨h1,h2⟩,h3⟩:=hB;have hk:=k.h _ hs h3 _ (ha.put (v:=v) aB);rw [<- hd] at hk;rw [Z0n (by decide)];exact Z4y (R:=λ_ _=>True) (λ_=>trivial) (λ_ _ _ _ _=>trivial) hi (λ_ _ _ _ _ _ _ _=>trivial) (Region.noSelect_spec hs) _ _ _ _ (Region.free_spec hi h2) (λ_=>trivial) (by simpa using h1) (hY a ha) hk
theorem Z6x {i j:Nat} {oj:Oper} (hb:Zdq ops Lt i=true) (hj:ops[j]?=some oj) (hn:∀ e∈oj.after,Region.binds .any e=true->e.on≠i) (cM:j≠i):Lt.contains j=false:=by
 cases hc:Lt.contains j with
 | false=>rfl
 | true=>
   have hm:j∈Lt:=by simpa using hc
   have:=(XQ.1 hb) j hm;simp only [hj,Yax,beq_iff_eq,cM,false_or] at this;obtain ⟨e,he,om⟩:=Array.any_eq_true'.1 this;simp only [Xf,beq_iff_eq] at om;exact absurd om.2 (hn e he om.1)
theorem Za8 {i d:Nat} {o:Oper} {v:Value} (hi:ops[i]?=some o) (hd:o.dst=some d) (hY:∀ a,Has n e a->YE P ops (Rl.rel S) o v a w) (aB:Nat.blt d n=true)
 (k:WG P n ops S Lt Q rest ((d,v) :: e) w):WG P n ops S Lt Q ((i,1) :: rest) e w:=by
 refine ⟨λlisted hs hB a ha=>?_⟩;simp only [J5,ZN,Xf] at hB;obtain ⟨⟨⟨h1,h2⟩,hb⟩,h3⟩:=hB;have hk:=k.h _ hs h3 _ (ha.put (v:=v) aB);rw [<- hd] at hk;rw [Z0n (by decide)];refine Z4y (R:=Rl.rel S) (λw=>Rl.refl _ w) (λ_ _ _ h k=>Rl.trans h k) hi (λj oj hj hn cM w w' hs=>?_) (Region.noSelect_spec hs) _ _ _ _ (Region.free_spec hi h2) (λ_=>trivial) (by simpa using h1) (hY a ha) hk;rcases hs with hs|hs
 exact hs;rw [Z6x hb hj hn cM] at hs;cases hs
variable {i d:Nat} {op:Op} {ty:TypeId} {pos:String} {af:Array Edge} {gd:Option (Nat×Bool)} {v:Value}
theorem Jl (hi:ops[i]?=some ⟨some d,op,ty,pos,af,gd⟩) (hg:Z08 ops e gd) (hp:∀ w',PR P n ⟨some d,op,ty,pos,af,gd⟩ e w' v) (aB:Nat.blt d n=true)
 (k:WG P n ops S Lt Q rest ((d,v) :: e) w):WG P n ops S Lt Q ((i,0) :: rest) e w:=
 Za7 hi rfl (λa ha=>.inl ⟨Z01 ha hg,λw' _=>(hp w').h a ha⟩) aB k
theorem Zdr (hi:ops[i]?=some ⟨some d,op,ty,pos,af,gd⟩) (hg:Z08 ops e gd) (hp:∀ w',Rl.rel S w w'->PR P n ⟨some d,op,ty,pos,af,gd⟩ e w' v) (aB:Nat.blt d n=true)
 (k:WG P n ops S Lt Q rest ((d,v) :: e) w):WG P n ops S Lt Q ((i,1) :: rest) e w:=
 Za8 hi rfl (λa ha=>.inl ⟨Z01 ha hg,λw' hw=>(hp w' hw).h a ha⟩) aB k
theorem Za9 (hi:ops[i]?=some ⟨some d,op,ty,pos,af,gd⟩) (hg:noB ops e gd=true) (aB:Nat.blt d n=true)
 (k:WG P n ops S Lt Q rest ((d,undef) :: e) w):WG P n ops S Lt Q ((i,0) :: rest) e w:=
 Za7 hi rfl (λa ha=>.inr ⟨Z1E ha hg,rfl⟩) aB k
theorem Zaa (hi:ops[i]?=some ⟨some d,op,ty,pos,af,gd⟩) (hg:noB ops e gd=true) (aB:Nat.blt d n=true)
 (k:WG P n ops S Lt Q rest ((d,undef) :: e) w):WG P n ops S Lt Q ((i,1) :: rest) e w:=
 Za8 hi rfl (λa ha=>.inr ⟨Z1E ha hg,rfl⟩) aB k
structure WG1 (P:Program) (n:Nat) (ops:Array Oper) {σ:Type} [Rl σ] (S:σ) (Lt:List Nat) (Q:Exit->Act->World->Prop) (i:Nat) (ord:List (Nat×Nat)) (e:Env) (w:World):Prop where
 h : ∀ listed : Array Bool, Region.noSelect ops = true -> J5 ops Lt ord (listed.setIfInBounds i true) = true -> ∀ a, Has n e a->
   wpOp P ops (λ_ _ _=>False) i (λa' w'=>(Rl.rel S w w'\/Lt.contains i=true)/\Z1f P .any ops S (λj=>Lt.contains j) (λa w=>Q .normal a w) (wt ord) (listed.setIfInBounds i true) a' w') a w
theorem ZgS {o:Oper} {dst:Option Nat} {G:Value->World->Prop} (hi:ops[i]?=some o) (eJ:o.dst=dst) (hg:Z08 ops e o.guard) (hp:OE P n o e w (λv w'=>(Rl.rel S w w'\/Lt.contains i=true)/\G v w'))
 (k:∀ v w' a',G v w'->∀ a,Has n e a->a'=a.put dst v->∃ e',Has n e' a'/\WG P n ops S Lt Q rest e' w'):WG1 P n ops S Lt Q i rest e w:=by
 refine ⟨λlisted hs h3 a ha=>?_⟩;unfold wpOp;simp only [hi];rw [if_pos (Z01 ha hg)];refine .inl (Oper.wp_mono ?_ (hp.h a ha _));rintro a' w' ⟨v,rfl,bP,hG⟩;obtain ⟨e',ix,hk⟩:=k v w' (a.put o.dst v) hG a ha (by rw [eJ]);exact ⟨bP,hk.h _ hs h3 _ ix⟩
theorem ZgT (h:WG1 P n ops S Lt Q i rest e w):WG P n ops S Lt Q ((i,2) :: rest) e w:=by
 refine ⟨λlisted hs hB a ha=>?_⟩;simp only [J5,ZN] at hB;rw [if_neg (by simp)] at hB;simp only [Xf,beq_iff_eq] at hB;obtain ⟨h1,h3⟩:=hB;rw [Z0n (by decide)];refine ⟨λh0=>absurd (h1 ▸ h0) (by simp),λj hj=>?_⟩;rw [h1] at hj;obtain rfl:j=i:=by simpa using hj
 exact h.h _ hs h3 a ha
theorem Z8P {q:Nat} (hq:Nat.blt (q+3) 100000=true) (h1:WG1 P n ops S Lt Q i rest e w) (h2:WG1 P n ops S Lt Q q ((i,2) :: Z3b q rest) e w):WG P n ops S Lt Q ((i,q+3) :: rest) e w:=by
 refine ⟨λlisted hs hB a ha=>?_⟩;have eK:q+3<100000:=Xj hq;simp only [J5,ZN] at hB;rw [if_neg (by simp),if_pos eK] at hB;simp only [Xf,beq_iff_eq] at hB;obtain ⟨_,⟨⟨hr,cO⟩,bK⟩,h3⟩:=hB;obtain ⟨h4,h5⟩:=Z1H _ _ h3;have hw:wt ((i,q+3) :: rest)=wt rest+1:=Z0n eK;rw [hw];refine ⟨λh0=>absurd (hr ▸ h0) (by simp),λj hj=>?_⟩;rw [hr] at hj;have c2:J5 ops Lt ((i,2) :: Z3b q rest) (listed.setIfInBounds q true)=true:=by
  simp only [J5,ZN];rw [if_neg (by simp)];simp only [Xf,beq_iff_eq];exact ⟨bK,h4⟩
 have jF:wt rest=wt ((i,2) :: Z3b q rest):=by rw [Z0n (by decide),h5]
 have gj:j=i\/j=q:=by simpa using hj
 rcases gj with rfl|rfl
 exact h1.h _ hs cO a ha;rw [jF];exact h2.h _ hs c2 a ha
theorem Z6y:∀ {is rem:List Nat},rem.Sublist is->rem∈Zet is
 | [],rem,h=>by simp at h;simp [Zet,h]
 | x :: r, rem, h => by
   simp only [Zet,Xd,XK];cases h with
   | cons _ h=>exact .inl (Z6y h)
   | cons_cons _ h=>exact .inr ⟨_,Z6y h,rfl⟩
theorem ZkJ (listed:Array Bool) (is:List Nat):lst listed is is=listed:=by
 apply Array.ext;simp [lst];intro j h1 h2;simp only [lst,Array.getElem_ofFn];cases is.contains j<;>simp
theorem ZgU {listed:Array Bool} {is rem:List Nat} {j:Nat} (hn:rem.Nodup) (hr:rem.Sublist is) (hj:j∈rem):(lst listed is rem).setIfInBounds j true=lst listed is (rem.erase j):=by
 apply Array.ext;simp [lst];intro m h1 h2;have hm:m<listed.size:=by simpa [lst] using h2
 rw [Array.getElem_setIfInBounds];simp only [lst,Array.getElem_ofFn];by_cases e:j=m;subst e;have h3:is.contains j=true:=by simpa using hr.subset hj
 have h4:(rem.erase j).contains j=false:=by
  have:=hn.not_mem_erase (a:=j);simpa using this
 simp only [h3,h4,if_true,Bool.not_false,Bool.and_true,Bool.or_true];rw [if_neg e];have:(rem.erase j).contains m=rem.contains m:=by
  rw [YaI];simp only [List.contains_iff_mem];exact List.mem_erase_of_ne (λh=>e h.symm)
 rw [this];simpa [lst] using hm
theorem ZpV {q:Nat} (is:List Nat) (J:List Nat->World->Prop) (hq:Nat.ble 100000 (q+3)=true) (gW:bits (q+3 - 100000)=is) (d5:is.Nodup) (h0:J is w)
 (step:∀ rem j w',rem.Sublist is->j∈rem->J rem w'->∃ o,ops[j]?=some o/\o.dst=none/\Z08 ops e o.guard/\OE P n o e w' (λ_ w''=>(Rl.rel S w' w''\/Lt.contains j=true)/\J (rem.erase j) w''))
 (fin:∀ w',J [] w'->WG P n ops S Lt Q rest e w'):WG P n ops S Lt Q ((i,q+3) :: rest) e w:=by
 refine ⟨λlisted hs hB a ha=>?_⟩;have eK:¬ q+3<100000:=YaN.2 (Xj hq);have hw:wt ((i,q+3) :: rest)=is.length+wt rest:=by simp only [wt];rw [if_neg eK,gW]
 rw [hw];simp only [J5,ZN] at hB;rw [if_neg (by simp),if_neg eK,gW] at hB;simp only [Xf] at hB;obtain ⟨_,aP,lD⟩:=hB;have hready:∀ rem:List Nat,rem.Sublist is->0<rem.length->Region.ready .any ops (lst listed is rem)=rem:=λrem hr h0=>by
  have:=XQ.1 aP rem (Z6y hr);cases rem with
  | nil=>simp at h0
  | cons x r=>simpa using this
 have key:∀ (k:Nat) (rem:List Nat),rem.length=k->rem.Sublist is->∀ w' a,Has n e a->J rem w'->Z1f P .any ops S (λj=>Lt.contains j) (λa w=>Q .normal a w) (k+wt rest) (lst listed is rem) a w':=by
  intro k
  induction k with
  | zero=>
    intro rem hl hr w' a ha hJ;obtain rfl:=XV.1 hl;rw [XJ];exact (fin w' hJ).h _ hs lD a ha
  | succ k ih=>
    intro rem hl hr w' a ha hJ;rw [show k+1+wt rest=(k+wt rest)+1 by omega];refine ⟨λh=>?_,λj hj=>?_⟩;rw [hready rem hr (by omega)] at h;subst h;simp at hl;rw [hready rem hr (by omega)] at hj;obtain ⟨o,hi,eJ,hg,hp⟩:=step rem j w' hr hj hJ;unfold wpOp;simp only [hi];rw [if_pos (Z01 ha hg)];refine .inl (Oper.wp_mono ?_ (hp.h a ha _));rintro a' w'' ⟨v,rfl,bP,lE⟩;refine ⟨bP,?_⟩;rw [ZgU (hr.nodup d5) hr hj,eJ];exact ih _ (by rw [List.length_erase_of_mem hj];omega) (List.erase_sublist.trans hr) w'' _ ha lE
 have:=key is.length is rfl (List.Sublist.refl _) w a ha h0
 rwa [ZkJ] at this
theorem Z6k {o:Oper} {dst:Option Nat} {G:Value->World->Prop} (hi:ops[i]?=some o) (eJ:o.dst=dst) (hg:Z08 ops e o.guard) (hp:OE P n o e w (λv w'=>(Rl.rel S w w'\/Lt.contains i=true)/\G v w'))
 (k:∀ v w' a',G v w'->∀ a,Has n e a->a'=a.put dst v->∃ e',Has n e' a'/\WG P n ops S Lt Q rest e' w'):WG P n ops S Lt Q ((i,2) :: rest) e w:=
 ZgT (ZgS hi eJ hg hp k)
theorem Zab (hi:ops[i]?=some ⟨some d,op,ty,pos,af,gd⟩) (hg:noB ops e gd=true) (aB:Nat.blt d n=true)
 (k:WG P n ops S Lt Q rest ((d,undef) :: e) w):WG P n ops S Lt Q ((i,2) :: rest) e w:=by
 refine ZgT ⟨λlisted hs h3 a ha=>?_⟩;unfold wpOp;simp only [hi];have hw:=Z1E (o:=⟨some d,op,ty,pos,af,gd⟩) ha hg;rw [if_neg (by simp [hw])];exact ⟨.inl (Rl.refl _ _),k.h _ hs h3 _ (ha.put (v:=undef) aB)⟩
theorem Z16 {G:Value->World->Prop} (hi:ops[i]?=some ⟨some d,op,ty,pos,af,gd⟩) (hg:Z08 ops e gd) (hp:OE P n ⟨some d,op,ty,pos,af,gd⟩ e w G) (hG:∀ v w',G v w'->Rl.rel S w w') (aB:Nat.blt d n=true)
 (k:∀ v w',G v w'->WG P n ops S Lt Q rest ((d,v) :: e) w'):WG1 P n ops S Lt Q i rest e w:=
 ZgS (G:=G) hi rfl hg (hp.mono λv w' h=>⟨.inl (hG v w' h),h⟩) (λv w' a' h a ha e=>⟨_,by rw [e];exact ha.put aB,k v w' h⟩)
theorem Z7 {G:Value->World->Prop} (hi:ops[i]?=some ⟨some d,op,ty,pos,af,gd⟩) (hg:Z08 ops e gd) (hp:OE P n ⟨some d,op,ty,pos,af,gd⟩ e w G) (hG:∀ v w',G v w'->Rl.rel S w w') (aB:Nat.blt d n=true)
 (k:∀ v w',G v w'->WG P n ops S Lt Q rest ((d,v) :: e) w'):WG P n ops S Lt Q ((i,2) :: rest) e w:=
 Z6k (G:=G) hi rfl hg (hp.mono λv w' h=>⟨.inl (hG v w' h),h⟩) (λv w' a' h a ha e=>⟨_,by rw [e];exact ha.put aB,k v w' h⟩)
theorem Z17 {G:Value->World->Prop} (hi:ops[i]?=some ⟨none,op,ty,pos,af,gd⟩) (hg:Z08 ops e gd) (hp:OE P n ⟨none,op,ty,pos,af,gd⟩ e w G) (hG:∀ v w',G v w'->Rl.rel S w w')
 (k:∀ v w',G v w'->WG P n ops S Lt Q rest e w'):WG P n ops S Lt Q ((i,2) :: rest) e w:=
 Z6k (G:=G) hi rfl hg (hp.mono λv w' h=>⟨.inl (hG v w' h),h⟩) (λv w' a' h a ha e=>⟨_,by rw [e];exact ha,k v w' h⟩)
theorem Z2B {G:Value->World->Prop} (hi:ops[i]?=some ⟨some d,op,ty,pos,af,gd⟩) (hg:Z08 ops e gd) (hp:OE P n ⟨some d,op,ty,pos,af,gd⟩ e w G) (hL:Lt.contains i=true) (aB:Nat.blt d n=true)
 (k:∀ v w',G v w'->WG P n ops S Lt Q rest ((d,v) :: e) w'):WG P n ops S Lt Q ((i,2) :: rest) e w:=
 Z6k (G:=G) hi rfl hg (hp.mono λv w' h=>⟨.inr hL,h⟩) (λv w' a' h a ha e=>⟨_,by rw [e];exact ha.put aB,k v w' h⟩)
theorem ZM {G:Value->World->Prop} (hi:ops[i]?=some ⟨none,op,ty,pos,af,gd⟩) (hg:Z08 ops e gd) (hp:OE P n ⟨none,op,ty,pos,af,gd⟩ e w G) (hL:Lt.contains i=true)
 (k:∀ v w',G v w'->WG P n ops S Lt Q rest e w'):WG P n ops S Lt Q ((i,2) :: rest) e w:=
 Z6k (G:=G) hi rfl hg (hp.mono λv w' h=>⟨.inr hL,h⟩) (λv w' a' h a ha e=>⟨_,by rw [e];exact ha,k v w' h⟩)
theorem ZgV {ord:List (Nat×Nat)} {j:Nat} {p:Prop} [Decidable p] (hy:look e j=some (.B (decide p)))
 (ht:p->WG P n ops S Lt Q ord ((j,.B true) :: e) w) (hf:¬ p->WG P n ops S Lt Q ord ((j,.B false) :: e) w):WG P n ops S Lt Q ord e w:=by
 refine ⟨λlisted hs hB a ha=>?_⟩;by_cases hp:p;exact (ht hp).h _ hs hB a (ha.same hy (by simp [hp]));exact (hf hp).h _ hs hB a (ha.same hy (by simp [hp]))
theorem Zl {i q j d:Nat} {b:Bool} {o:Oper} {p:Prop} [Decidable p] (hi:ops[i]?=some o) (hg:o.guard=some (j,b)) (hj:Zg3 ops j=some d) (hy:look e d=some (.B (decide p)))
 (ht:p->WG P n ops S Lt Q ((i,q) :: rest) ((d,.B true) :: e) w) (hf:¬ p->WG P n ops S Lt Q ((i,q) :: rest) ((d,.B false) :: e) w):WG P n ops S Lt Q ((i,q) :: rest) e w:=
 ZgV hy ht hf
theorem Zh {i q j d:Nat} {b:Bool} {o:Oper} {t:Bool} (hi:ops[i]?=some o) (hg:o.guard=some (j,b)) (hj:Zg3 ops j=some d) (hy:look e d=some (.B t))
 (ht:t=true->WG P n ops S Lt Q ((i,q) :: rest) ((d,.B true) :: e) w) (hf:t=false->WG P n ops S Lt Q ((i,q) :: rest) ((d,.B false) :: e) w):WG P n ops S Lt Q ((i,q) :: rest) e w:=by
 refine ⟨λlisted hs hB a ha=>?_⟩;cases t;exact (hf rfl).h _ hs hB a (ha.same hy rfl);exact (ht rfl).h _ hs hB a (ha.same hy rfl)
end rules
abbrev Z8Q (P:Program) (md:Region.Mode) (ops:Array Oper) (S:List Nat) (Lt:Nat->Bool) (Z:Act->World->Prop):Nat->Array Bool->Act->World->Prop:=Z1f P md ops S Lt Z
abbrev WD (P:Program) (n:Nat) (ops:Array Oper) (S:List Nat) (Lt:List Nat) (Q:Exit->Act->World->Prop) (ord:List (Nat×Nat)) (e:Env) (w:World):Prop:=WG P n ops S Lt Q ord e w
abbrev WD1 (P:Program) (n:Nat) (ops:Array Oper) (S:List Nat) (Lt:List Nat) (Q:Exit->Act->World->Prop) (i:Nat) (ord:List (Nat×Nat)) (e:Env) (w:World):Prop:=WG1 P n ops S Lt Q i ord e w
section
variable {P:Program} {n:Nat} {Q:Exit->Act->World->Prop} {e:Env} {w:World} {ops:Array Oper} {Lt:List Nat} {rest:List (Nat×Nat)} {i d:Nat} {op:Op} {ty:TypeId} {pos:String} {af:Array Edge} {gd:Option (Nat×Bool)} {v:Value}
theorem WC_drawn {id:Nat} {l:List Oper} (m:Nat) (S:List Nat) (Lt:List Nat) (ord:List (Nat×Nat)) (ce:l.length=m) (hm:P.follows .mixedOrders=true) (hs:Region.noSelect l.toArray=true) (hl:Nat.beq (wt ord) l.length=true)
 (hB:J5 l.toArray Lt ord (Array.replicate m false)=true)
 (h:∀ w',Stp [] w w'->WD P n l.toArray S Lt Q ord e w'):WC P n (.region id l.toArray true) Q e w:=Z82 m S Lt ord ce hm hs hl hB h
theorem WD_read {S:List Nat} (hi:ops[i]?=some ⟨some d,op,ty,pos,af,gd⟩) (hg:Z08 ops e gd) (hp:∀ w',Stp S w w'->PR P n ⟨some d,op,ty,pos,af,gd⟩ e w' v) (aB:Nat.blt d n=true)
 (k:WD P n ops S Lt Q rest ((d,v) :: e) w):WD P n ops S Lt Q ((i,1) :: rest) e w:=Zdr hi hg hp aB k
end
theorem ZDr {P:Program} {n:Nat} {Q:Exit->Act->World->Prop} {e:Env} {w} {id:Nat} {l:List Oper} (m:Nat) (S:List Nat) (Lt:List Nat) (ord:List (Nat×Nat)) (h:∀ w',Stp [] w w'->WD P n l.toArray S Lt Q ord e w') (ce:l.length=m:=by exact rfl) (hm:P.follows .mixedOrders=true:=by kernel_rfl) (hs:Region.noSelect l.toArray=true:=by kernel_rfl) (hl:Nat.beq (wt ord) l.length=true:=by kernel_rfl)
 (hB:J5 l.toArray Lt ord (Array.replicate m false)=true:=by kernel_rfl):WC P n (.region id l.toArray true) Q e w:=WC_drawn m S Lt ord ce hm hs hl hB h
theorem Z0z {k:Nat}:∀ (l:List (List Value)),(∀ c∈l,c.length=k)->l.flatten.length=l.length * k
 | [],_=>by simp
 | c :: r, h => by
   simp only [YaG,Xa,Xe,Yau];rw [Z0z r (λc hc=>h c (by simp [hc])),h c (by simp)];omega
theorem Z3c {k:Nat}:∀ (css:List (List Value)),(∀ c∈css,c.length=k)->∀ (i:Nat),i<css.length->∀ (cs:List Value),
 (css.set i cs).flatten=css.flatten.take (i * k)++cs++css.flatten.drop (i * k+k)
 | [],_,i,hi,_=>absurd hi (XF _)
 | c :: r, hk, 0, _, cs => by
   have hc:=hk c (by simp);simp [hc]
 | c :: r, hk, i + 1, hi, cs => by
   have hc:=hk c (by simp);have ih:=Z3c r (λc hc=>hk c (by simp [hc])) i (by simpa using hi) cs;simp only [List.set_cons_succ,YaG,ih,Yau];rw [Ybe,List.drop_append,hc];rw [XS (l:=c) (by omega),show c.drop (i * k+k+k)=[] from Ya4 (by omega)];rw [show i * k+k - k=i * k by omega,show i * k+k+k - k=i * k+k by omega];simp [XC]
theorem Z2C {k:Nat}:∀ (css:List (List Value)),(∀ c∈css,c.length=k)->∀ (i:Nat) (hi:i<css.length) (j:Nat) (hj:j<k) (u:Value),
 (css.set i (css[i].set j u)).flatten=css.flatten.set (i * k+j) u
 | [],_,i,hi,_,_,_=>absurd hi (XF _)
 | c :: r, hk, 0, _, j, hj, u => by
   have hc:=hk c (by simp);simp [hc,hj]
 | c :: r, hk, i + 1, hi, j, hj, u => by
   have hc:=hk c (by simp);have ih:=Z2C r (λc hc=>hk c (by simp [hc])) i (by simpa using hi) j hj u;simp only [List.set_cons_succ,YaG,List.getElem_cons_succ,ih,Yau];rw [YbL,if_neg (by omega),hc];rw [show i * k+k+j - k=i * k+j by omega]
section row
variable {α:Type} [Z6 α] {X:List Nat} {w w':World} {base T:Nat} {v:Value} {xs:List α}
variable {P:Program} {n:Nat} {e:Env} {d:Option Nat} {ty:TypeId} {pos:String} {af:Array Edge} {g:Option (Nat×Bool)}
theorem Row.isSome (h:Row X w base T v xs) {i:Nat} (hi:i<xs.length):∃ q l c,v=.slice (some ⟨q,0,none⟩) l c:=by
 obtain ⟨css,hl,hr,ho⟩:=h;rcases ho.2 with ⟨rfl,hn⟩|⟨q,cap,cur,rfl,hb,hg,bX,bE,aR,ht⟩
 omega;exact ⟨_,_,_,rfl⟩
theorem Z6z {i k:Nat} {t:TypeId} {x y:Operand} {u:Value} {y':α} [bD:Siz P t k] (hx:ev e x=some (.pointer (some (Zx v i k 0)))) (hy:ev e y=some u) (hk:k=Z6.k α)
 (aO:Z6.rep (ob v++X) w y' u.cells.toList) (ac:Row X w base T v xs) (hX:∀ b∈X,b<base) (hi:i<xs.length) :
 OE P n ⟨d,.store t x y,ty,pos,af,g⟩ e w (λ_ w'=>Row X w' base T v (xs.set i y')/\Stp (ob v) w w'):=by
 have dX:=ac;obtain ⟨css,hl,hr,ho⟩:=ac;have ak:∀ c∈css,c.length=Z6.k α:=by
  intro c hc;obtain ⟨q,hq,rfl⟩:=XB hc;exact Z6.len (hr q (by omega) hq)
 rcases ho.2 with ⟨rfl,hn⟩|⟨q,cap,cur,rfl,hb,hg,bX,bE,aR,ht⟩
 omega;subst hk;have gX:u.cells.toList.length=Z6.k α:=Z6.len aO;have eG:i * Z6.k α+u.cells.toList.length<=cur.size:=by
  rw [gX,aR,<- Yau];exact Xu _ (by omega)
 have ax:=run_storeCells_at P q (i * Z6.k α) T u.cells.toList 0 cur w hg (by simpa using eG) (Z6.one aO);simp only [YbA] at ax;have cY:u.cells.size=Z6.k α:=by simpa using gX
 have lF:Stp [q] w (w.setRow q (cur.toList.take (i * Z6.k α)++u.cells.toList++cur.toList.drop (i * Z6.k α+u.cells.toList.length)).toArray):=Z1F _ _ _;refine Z4w (w':=w.setRow q (cur.toList.take (i * Z6.k α)++u.cells.toList++cur.toList.drop (i * Z6.k α+u.cells.toList.length)).toArray) (λa ha=>?_) ⟨⟨css.set i u.cells.toList,by simp [hl],λj hj gj=>?_,?_,.inr ⟨q,cap,_,by simp,hb,setRow_heap w q cur _ T (0,0) hg,by simpa using bX,bE,?_,?_⟩⟩,lF⟩;have cZ:Zx (.slice (some ⟨q,0,none⟩) xs.length cap) i (Z6.k α) 0=⟨q,i * Z6.k α,none⟩:=by simp [Zx]
 rw [cZ] at hx;simp [execOp,ha.ev hx,ha.ev hy,Instr.storeAt,Instr.sureAddr,storeVar,Siz.run,cY,ax];have ae:∀ b∈[q],b∈ob (.slice (some ⟨q,0,none⟩) xs.length cap)++X:=by simp [ob]
 by_cases cW:i=j;subst cW;simp only [List.getElem_set_self];exact Z6.ext aO lF ae (λb hb=>.inl hb);simp only [Ybh cW];exact Z6.ext (hr j (by simpa using hj) (by simpa using gj)) lF ae (λb hb=>.inl hb);rw [Z3c css ak i (by omega)];have h1:=ho.1;simp only [Xa,Xx,Yae,Yan,gX,h1];have:(i+1) * Z6.k α<=xs.length * Z6.k α:=Xu _ (by omega);rw [Yau] at this;omega;simp only [Yah,Xa,Xx,Yae,Yab,gX,aR];rw [gX,aR] at eG;omega;rw [Z3c css ak i (by omega),<- ht];have h2:(i+1) * Z6.k α<=xs.length * Z6.k α:=Xu _ (by omega);rw [Yau] at h2;have h3:i * Z6.k α<=cur.toList.length:=by simp [aR];exact Xh (by omega) (Xu _ bX)
 simp only [Yan,gX];rw [Ybe,Ybe,Ybc,Ybc,List.drop_take];simp only [Xa,Xx,gX];rw [Yay h3,XS (l:=u.cells.toList) (by rw [gX];omega)];rw [Nat.min_eq_right (by omega:i * Z6.k α<=xs.length * Z6.k α),Yay (by omega:i * Z6.k α<=xs.length * Z6.k α)]
theorem Z3I {β:Type} [Z2 β] {xs:List β} {i j k:Nat} {t:TypeId} {x y:Operand} {u:Value} {y':β} [bD:Siz P t 1] (hx:ev e x=some (.pointer (some (Zx v i k j)))) (hy:ev e y=some u) (hk:k=Z2.k β)
 (hu:u.cells.toList=[u]) (h1:u.oneCell'=true) (ac:Row X w base T v xs) (hi:i<xs.length) (hj:j<Z2.k β) (aO:Z2.enc y'=(Z2.enc xs[i]).set j u) :
 OE P n ⟨d,.store t x y,ty,pos,af,g⟩ e w (λ_ w'=>Row X w' base T v (xs.set i y')/\Stp (ob v) w w'):=by
 obtain ⟨css,hl,hr,ho⟩:=ac;have ak:∀ c∈css,c.length=Z6.k β:=by
  intro c hc;obtain ⟨q,hq,rfl⟩:=XB hc;exact Z6.len (hr q (by omega) hq)
 have fa:Z6.k β=Z2.k β:=rfl;rcases ho.2 with ⟨rfl,hn⟩|⟨q,cap,cur,rfl,hb,hg,bX,bE,aR,ht⟩
 omega;subst hk;have hlt:i * Z2.k β+j<xs.length * Z2.k β:=by
  have:(i+1) * Z2.k β<=xs.length * Z2.k β:=Xu _ (by omega);rw [Yau] at this;omega
 have eG:i * Z2.k β+j+[u].length<=cur.size:=by
  rw [aR,fa];have:=Xu (Z2.k β) bX;simp only [List.length_singleton];omega
 have ax:=run_storeCells_at P q (i * Z2.k β+j) T [u] 0 cur w hg (by simpa using eG) (by simpa using h1);simp only [YbA] at ax;have cY:u.cells.size=1:=by rw [<- Yab,hu];rfl
 have lF:Stp [q] w (w.setRow q (cur.toList.take (i * Z2.k β+j)++[u]++cur.toList.drop (i * Z2.k β+j+[u].length)).toArray):=Z1F _ _ _;have ot:css[i]'(by omega)=Z2.enc xs[i]:=hr i hi (by omega);refine Z4w (w':=w.setRow q (cur.toList.take (i * Z2.k β+j)++[u]++cur.toList.drop (i * Z2.k β+j+[u].length)).toArray) (λa ha=>?_) ⟨⟨css.set i ((css[i]'(by omega)).set j u),by simp [hl],λm hm lG=>?_,?_,.inr ⟨q,cap,_,by simp,hb,setRow_heap w q cur _ T (0,0) hg,by simpa using bX,bE,?_,?_⟩⟩,lF⟩;have cZ:Zx (.slice (some ⟨q,0,none⟩) xs.length cap) i (Z2.k β) j=⟨q,i * Z2.k β+j,none⟩:=by simp [Zx]
 rw [cZ] at hx;simp [execOp,ha.ev hx,ha.ev hy,Instr.storeAt,Instr.sureAddr,storeVar,Siz.run,cY,hu,ax];by_cases cW:i=m;subst cW;simp only [List.getElem_set_self];show _=Z2.enc y';rw [ot,aO];simp only [Ybh cW];exact hr m (by simpa using hm) (by simpa using lG);rw [Z2C css ak i (by omega) j hj];simpa using ho.1;simp only [Yah,Xa,Xx,Yae,Yab];omega;rw [Z2C css ak i (by omega) j hj,<- ht];have bD:i * Z2.k β+j<cur.toList.length:=by simp;simp at eG;omega
 simp only [Yan,fa];rw [show cur.toList.take (i * Z2.k β+j)++[u]++cur.toList.drop (i * Z2.k β+j+[u].length)=cur.toList.set (i * Z2.k β+j) u by
  rw [List.set_eq_take_append_cons_drop,if_pos bD];simp]
 rw [List.take_set]
def slc (v:Value) (l h k:Nat):Value:=
 match v with
 | .slice a _ c=>.slice (if c=l then a else a.map (·.add (l * k))) (h - l) (c - l)
 | v=>v
theorem SlV.slc (h:SlV X w v xs) {l r:Nat} (hl:l<=r) (hr:r<=xs.length):SlV X w (slc v l r (Z6.k α)) ((xs.take r).drop l):=by
 obtain ⟨p,c,rfl,ak,hm,hn,hc⟩:=h;have fb:((xs.take r).drop l).length=r - l:=by simp;omega
 refine ⟨if c=l then p else p.map (·.add (l * Z6.k α)),c - l,by simp [Eng.slc,fb],by omega,by omega,?_,λi hi=>?_⟩;intro hp;split at hp;omega
 . cases p with
   | none=>have:=hn rfl;omega
   | some a=>simp at hp
 have cy:l+i<xs.length:=by omega
 obtain ⟨b,o,cs,rfl,hb,hx,fu,am⟩:=hc (l+i) cy;refine ⟨b,o+l * Z6.k α,cs,?_,hb,hx,by simpa using fu,λj u hu=>?_⟩;rw [if_neg (by omega)];simp [Addr.add_lit];have:=am j u hu;rw [show o+l * Z6.k α+i * Z6.k α+j=o+(l+i) * Z6.k α+j by rw [YbR];omega];exact this
theorem Z09 {t el k:Nat} {x hi:Operand} {r:Nat} {b:Int} [hu:Und P t (.slice el)] [hk:Siz P el k] {ck:World} (hx:ev e x=some v) (hs:SlV X ck v xs) (hb:ev e hi=some (.I b))
 (re:b=(r:Int)) (lH:r<=xs.length):PR P n ⟨d,.slice t x none (some hi) none,ty,pos,af,g⟩ e w (slc v 0 r k):=by
 refine ⟨λact fc=>?_⟩;obtain ⟨p,c,rfl,ak,hm,hn,hc⟩:=hs;subst re;simp [execOp,fc.ev hx,fc.ev hb,Instr.sliceAt,run_underlying hu.h,Instr.slice,Instr.sliceBounds,Instr.sliceBound,asIntOf,Siz.run,Eng.slc,show r<=c by omega]
theorem Z0Z {t el k:Nat} {x lo:Operand} {l:Nat} {a:Int} [hu:Und P t (.slice el)] [hk:Siz P el k] {ck:World} (hx:ev e x=some v) (hs:SlV X ck v xs) (ha:ev e lo=some (.I a))
 (eA:a=(l:Int)) (rf:l<=xs.length):PR P n ⟨d,.slice t x (some lo) none none,ty,pos,af,g⟩ e w (slc v l xs.length k):=by
 refine ⟨λact fc=>?_⟩;obtain ⟨p,c,rfl,ak,hm,hn,hc⟩:=hs;subst eA;simp [execOp,fc.ev hx,fc.ev ha,Instr.sliceAt,run_underlying hu.h,Instr.slice,Instr.sliceBounds,Instr.sliceBound,asIntOf,Siz.run,Eng.slc,rf]
theorem Z4z {k:Nat}:∀ (css:List (List Value)),(∀ c∈css,c.length=k)->∀ (i:Nat),(css.take i).flatten=css.flatten.take (i * k)
 | [],_,i=>by simp
 | c :: r,hk,0=>by simp
 | c :: r, hk, i + 1 => by
   have hc:=hk c (by simp);have ih:=Z4z r (λc hc=>hk c (by simp [hc])) i;simp only [List.take_succ_cons,YaG,ih,Yau];rw [Ybe,hc,XS (l:=c) (by omega),show i * k+k - k=i * k by omega]
theorem Z8R (v:Value) (r k:Nat):ob (slc v 0 r k)=ob v:=by
 cases v<;>try rfl
 rename_i a l c;cases a with
 | none=>simp [slc,ob]
 | some a=>by_cases hc:c=0<;>simp [slc,ob,hc,Addr.add]
theorem Row.cut (h:Row X w base T v xs) {r:Nat} (hr:r<=xs.length):Row X w base T (slc v 0 r (Z6.k α)) (xs.take r):=by
 obtain ⟨css,hl,fu,ho⟩:=h;have ak:∀ c∈css,c.length=Z6.k α:=by
  intro c hc;obtain ⟨q,hq,rfl⟩:=XB hc;exact Z6.len (fu q (by omega) hq)
 refine ⟨css.take r,by simp [hl],λi hi ca=>?_,?_,?_⟩;rw [Z8R];simp only [List.getElem_take];exact fu i (by simp at hi;omega) (by simp at ca;omega);rw [Z0z _ (λc hc=>ak c (Yad hc))];simp [hl];rcases ho.2 with ⟨rfl,hn⟩|⟨q,cap,cur,rfl,hb,hg,bX,bE,aR,ht⟩
 exact .inl ⟨by simp [Eng.slc];omega,by simp;omega⟩;refine .inr ⟨q,cap,cur,?_,hb,hg,by simp;omega,bE,aR,?_⟩;simp [Eng.slc,Addr.add,Xx,Yay hr];rw [Z4z css ak,<- ht,Ybc,Xx,Yay hr];congr 1;have:=Xu (Z6.k α) hr;omega
end row
section misc
variable {P:Program} {n:Nat} {e:Env} {w:World} {d:Option Nat} {ty:TypeId} {pos:String} {af:Array Edge} {g:Option (Nat×Bool)}
def Jm (e:Env):List (Nat×Operand)->Option (List (Nat×Value))
 | []=>some []
 | (i, x) :: r => match ev e x, Jm e r with
   | some v,some l=>some ((i,v) :: l)
   | _,_=>none
theorem Has.parts {a:Act} (ha:Has n e a):∀ {l:List (Nat×Operand)} {vs:List (Nat×Value)},Jm e l=some vs->l.map (λ(p:Nat×Operand)=>(p.1,a.eval p.2))=vs
 | [],vs,h=>by simp [Jm] at h;simp [h]
 | (i, x) :: r, vs, h => by
   simp only [Jm] at h;cases hx:Eng.ev e x with
   | none=>simp [hx] at h
   | some v=>
     cases hr:Jm e r with
     | none=>simp [hx,hr] at h
     | some l=>
       simp [hx,hr] at h;subst h;simp [ha.ev hx,Has.parts ha hr]
theorem Z0G {t:TypeId} {l:List (Nat×Operand)} {vs:List (Nat×Value)} {u:Value} (hv:Jm e l=some vs) (hb:∀ w,(Instr.build t vs.toArray).run P w=.ok u w):PR P n ⟨d,.build t l.toArray,ty,pos,af,g⟩ e w u:=
 ⟨λa ha => by
   have h1:=ha.parts hv;have h2:l.toArray.map (λ(x:Nat×Operand)=>match x with|(i,x)=>(i,a.eval x))=vs.toArray:=by
    rw [Ybv];exact congrArg List.toArray h1
   simp only [execOp];rw [h2];simp [hb]⟩
def Za (w:World) (T:TypeId) (len:Nat) (cs:List Value) (v:Value) (w':World):Prop:=∃ b,v=.slice (some ⟨b,0,none⟩) len len/\w.heap.size<=b/\Blk w' b T cs/\Stp [] w w'
theorem Z1 {t T len:Nat} {l:List (Nat×Operand)} {vs:List (Nat×Value)} {cs:List Value} (hv:Jm e l=some vs)
 (hb:∀ w:World,(Instr.buildSlice t len vs.toArray).run P w=.ok (.slice (some ⟨w.heap.size,0,none⟩) len len) (w.alloc (.cells cs.toArray T))) :
 OE P n ⟨d,.buildSlice t len l.toArray,ty,pos,af,g⟩ e w (Za w T len cs):=
 ZL (v:=.slice (some ⟨w.heap.size,0,none⟩) len len) (w':=w.alloc (.cells cs.toArray T)) (λa ha=>by
  have h1:=ha.parts hv;have h2:l.toArray.map (λ(x:Nat×Operand)=>match x with|(i,x)=>(i,a.eval x))=vs.toArray:=by
   rw [Ybv];exact congrArg List.toArray h1
  simp only [execOp];rw [h2];simp [hb w]) ⟨w.heap.size,rfl,Xl _,heap_alloc_new w _,Stp.alloc _ _ _⟩
theorem Za.slv {β:Type} [Z2 β] {X:List Nat} {T len:Nat} {cs:List Value} {v:Value} {w':World} {ys:List β} (h:Za w T len cs v w') (hX:∀ b∈X,b<w.heap.size) (hl:len=ys.length) (hc:cs=ys.flatMap Z2.enc) (hm:ys.length<=maxLen):SlV X w' v ys:=by
 obtain ⟨b,rfl,hb,ab,hS⟩:=h;subst hl;refine ⟨some ⟨b,0,none⟩,ys.length,rfl,Xl _,hm,λh=>by simp at h,λi hi=>⟨b,0,Z2.enc ys[i],rfl,ab.lt,λhx=>by have:=hX b hx;omega,rfl,λj u hu=>?_⟩⟩;subst hc;refine ab.cell ?_;have hk:∀ c∈ys.map Z2.enc,c.length=Z2.k β:=by
  intro c hc;obtain ⟨y,_,rfl⟩:=XK.1 hc;exact Z2.len y
 have:=Z07 (ys.map Z2.enc) hk i (by simpa using hi) j u (by simpa using hu);rw [Ybw,XJ];exact this
theorem Za.row {β:Type} [Z2 β] {X:List Nat} {T len base:Nat} {cs:List Value} {v:Value} {w':World} {ys:List β} (h:Za w T len cs v w') (aV:base<=w.heap.size) (hl:len=ys.length) (hc:cs=ys.flatMap Z2.enc) (hm:ys.length<=maxLen):Row X w' base T v ys:=by
 obtain ⟨b,rfl,hb,ab,hS⟩:=h;subst hl;subst hc;have hk:∀ c∈ys.map Z2.enc,c.length=Z2.k β:=by
  intro c hc;obtain ⟨y,_,rfl⟩:=XK.1 hc;exact Z2.len y
 have cX:(ys.flatMap Z2.enc).length=ys.length * Z2.k β:=by rw [Ybw,Z0z _ hk,Xy]
 refine ⟨ys.map Z2.enc,by simp,λi hi ca=>(by simp:(ys.map Z2.enc)[i]=Z2.enc ys[i]),?_,.inr ⟨b,ys.length,(ys.flatMap Z2.enc).toArray,rfl,by omega,ab,Xl _,hm,by rw [Yah];exact cX,?_⟩⟩;rw [<- Ybw];exact cX;rw [<- Ybw];exact XS (by show (ys.flatMap Z2.enc).length<=_;rw [cX];exact Xl _)
theorem ZkK {x y:Operand} {t u:TypeId} {p q:Value} {c:Prop} [Decidable c] (hx:ev e x=some p) (hy:ev e y=some q) (hg:∀ w,(eqGuard .eql t x y p q).run P w=.ok () w) (h:∀ w,(binOp .eql t p q).run P w=.ok (.B (decide c)) w) :
 PR P n ⟨d,.binOp .eql t x y u,ty,pos,af,g⟩ e w (.B (decide c)):=⟨λa ha=>by simp [execOp,ha.ev hx,ha.ev hy,h,hg]⟩
theorem Zds {x y:Operand} {t u:TypeId} {p q:Value} {c:Prop} [Decidable c] (hx:ev e x=some p) (hy:ev e y=some q) (hg:∀ w,(eqGuard .neq t x y p q).run P w=.ok () w) (h:∀ w,(binOp .neq t p q).run P w=.ok (.B (decide (¬ c))) w) :
 PR P n ⟨d,.binOp .neq t x y u,ty,pos,af,g⟩ e w (.B (decide (¬ c))):=⟨λa ha=>by simp only [execOp,ha.ev hx,ha.ev hy];simp [h,hg]⟩
end misc
section post
variable {P:Program} {n:Nat} {fn:Func} {R:Ending->World->Prop} {e:Env} {w:World} {Q:Exit->Act->World->Prop}
theorem Z22 {t b T m:Nat} {D:TypeDesc} {cs:List Value} [hu:Und P t D] (hA:Z06 D=true) [hs:Siz P t m] (hb:Blk w b T cs) (hl:cs.length=m):(loadVar t ⟨b,0,none⟩).run P w=.ok (.agg cs.toArray) w:=by
 have:=run_loadCells_list (P:=P) w ⟨b,0,none⟩ cs (λj v h=>by rw [Addr.add_lit,XJ];exact hb.cell h);rw [hl] at this;simp [loadVar,Und.isAgg,hA,Siz.run,this]
theorem JS {t b T T' m:Nat} {D:TypeDesc} {cs:List Value} (hr:fn.results=#[.cell t T']) [hu:Und P T' D] (hA:Z06 D=true) [hs:Siz P T' m] (ht:look e t=some (pQ b)) (hb:Blk w b T cs) (hl:cs.length=m)
 (h:R (.returned (.agg cs.toArray)) w):WQ n (bodyPost P fn R) .ret e w:=
 ⟨λa ha => ⟨ha.defers, .agg cs.toArray, by
   have h1:=ha.vals _ _ ht;rw [XH] at h1;simp [results,hr,h1,asAddr,Z22 hA hb hl],h⟩⟩
theorem Zq {t b T T' m s:Nat} {D:TypeDesc} {cs:List Value} {v:Value} (hr:fn.results=#[.cell t T',.tmp s]) [hu:Und P T' D] (hA:Z06 D=true) [hs:Siz P T' m] (ht:look e t=some (pQ b)) (hb:Blk w b T cs) (hl:cs.length=m)
 (hv:look e s=some v) (h:R (.returned (.tuple #[.agg cs.toArray,v])) w):WQ n (bodyPost P fn R) .ret e w:=
 ⟨λa ha => ⟨ha.defers, .tuple #[.agg cs.toArray, v], by
   have h1:=ha.vals _ _ ht;have h2:=ha.vals _ _ hv;rw [XH] at h1 h2;simp [results,hr,h1,h2,asAddr,Z22 hA hb hl],h⟩⟩
end post
theorem Z83 {P:Program} {n:Nat} {o:Oper} {e:Env} {w} {v:Value} (h:PR P n o e w v):OE P n o e w (λu w'=>u=v/\w'=w):=ZL h.h ⟨rfl,rfl⟩
section
variable {P:Program} {n:Nat} {Q:Exit->Act->World->Prop} {e:Env} {w:World} {ops:Array Oper} {S:List Nat} {Lt:List Nat} {rest:List Oper} {ord:List (Nat×Nat)} {ar cd:Nat} {ty:TypeId} {pos:String} {af:Array Edge} {gd:Option (Nat×Bool)}
theorem Z6l {x:Operand} {v:Value} (hx:ev e x=some v) (aB:Nat.blt ar n=true) (kk:WL P n ops Q rest ((ar,v) :: e) w):WL P n ops Q (⟨some ar,.move x,ty,pos,af,none⟩ :: rest) e w:=by
 refine Z9 (v:=v) ?_ aB kk;apply ZX<;>assumption
theorem Z3J {x:Operand} {v:Value} (hx:ev e x=some v) (aB:Nat.blt ar n=true) (kk:WL P n ops Q rest ((ar,v) :: e) w):WL P n ops Q (⟨some ar,.assign x,ty,pos,af,none⟩ :: rest) e w:=by
 refine Z9 (v:=v) ?_ aB kk;apply Z5l<;>assumption
theorem ZgW {x y:Operand} {t u:TypeId} {a b:Int} (hx:ev e x=some (.I a)) (hy:ev e y=some (.I b)) (hb:b≠0) (hr:I64 (a.tmod b)) (aB:Nat.blt ar n=true) (kk:WL P n ops Q rest ((ar,(.I (a.tmod b))) :: e) w):WL P n ops Q (⟨some ar,.binOp .rem t x y u,ty,pos,af,none⟩ :: rest) e w:=by
 refine Z9 (v:=(.I (a.tmod b))) ?_ aB kk;apply Zg8<;>assumption
theorem ZpW {x y:Operand} {t u:TypeId} {a b:Int} (hx:ev e x=some (.I a)) (hy:ev e y=some (.I b)) (hb:b≠0) (hr:I64 (a.tdiv b)) (aB:Nat.blt ar n=true) (kk:WL P n ops Q rest ((ar,(.I (a.tdiv b))) :: e) w):WL P n ops Q (⟨some ar,.binOp .quo t x y u,ty,pos,af,none⟩ :: rest) e w:=by
 refine Z9 (v:=(.I (a.tdiv b))) ?_ aB kk;apply Zg9<;>assumption
theorem Zc0 {x y:Operand} {t u:TypeId} {a b:Int} {k:IntKind} (hx:ev e x=some (.int k a)) (hy:ev e y=some (.int k b)) (aB:Nat.blt ar n=true) (kk:WL P n ops Q rest ((ar,(.B (decide (a<b)))) :: e) w):WL P n ops Q (⟨some ar,.binOp .lss t x y u,ty,pos,af,none⟩ :: rest) e w:=by
 refine Z9 (v:=(.B (decide (a<b)))) ?_ aB kk;apply ZbU<;>assumption
theorem Zc1 {x y:Operand} {t u:TypeId} {a b:Int} {k:IntKind} (hx:ev e x=some (.int k a)) (hy:ev e y=some (.int k b)) (aB:Nat.blt ar n=true) (kk:WL P n ops Q rest ((ar,(.B (decide (b<a)))) :: e) w):WL P n ops Q (⟨some ar,.binOp .gtr t x y u,ty,pos,af,none⟩ :: rest) e w:=by
 refine Z9 (v:=(.B (decide (b<a)))) ?_ aB kk;apply ZbV<;>assumption
theorem ZpX {x y:Operand} {t u:TypeId} {a b:Int} {k:IntKind} (hx:ev e x=some (.int k a)) (hy:ev e y=some (.int k b)) (aB:Nat.blt ar n=true) (kk:WL P n ops Q rest ((ar,(.B (decide (¬ a=b)))) :: e) w):WL P n ops Q (⟨some ar,.binOp .neq t x y u,ty,pos,af,none⟩ :: rest) e w:=by
 refine Z9 (v:=(.B (decide (¬ a=b)))) ?_ aB kk;apply ZbW<;>assumption
theorem ZkL {x y:Operand} {t u:TypeId} {p q:Bool} [hu:Und P t .bool] (hx:ev e x=some (.B p)) (hy:ev e y=some (.B q)) (aB:Nat.blt ar n=true) (kk:WL P n ops Q rest ((ar,(.B (decide (¬ p=q)))) :: e) w):WL P n ops Q (⟨some ar,.binOp .neq t x y u,ty,pos,af,none⟩ :: rest) e w:=by
 refine Z9 (v:=(.B (decide (¬ p=q)))) ?_ aB kk;apply Z8J<;>assumption
theorem ZpY {α:Type} [Z6 α] {X:List Nat} {xs:List α} {v:Value} {x y:Operand} {t:TypeId} {el k:Nat} [hu:Und P t (.slice el)] [hk:Siz P el k] {z:Int} {i:Nat} {ck:World} (hx:ev e x=some v) (hs:SlV X ck v xs) (hy:ev e y=some (.I z)) (hz:z=(i:Int)) (hi:i<xs.length) (aB:Nat.blt ar n=true) (kk:WL P n ops Q rest ((ar,(.pointer (some (Zx v i k 0)))) :: e) w):WL P n ops Q (⟨some ar,.indexAddr t x y,ty,pos,af,none⟩ :: rest) e w:=by
 refine Z9 (v:=(.pointer (some (Zx v i k 0)))) ?_ aB kk;apply Z2z (α:=α)<;>assumption
theorem Z5O {b T o:Nat} {cs:List Value} {u:Value} {x:Operand} {t:TypeId} {D:TypeDesc} [hu:Und P t D] (hA:Z06 D=false) (hx:ev e x=some (.pointer (some ⟨b,o,none⟩))) (hb:Blk w b T cs) (hc:cs[o]?=some u) (aB:Nat.blt ar n=true) (kk:WL P n ops Q rest ((ar,u) :: e) w):WL P n ops Q (⟨some ar,.load t x,ty,pos,af,none⟩ :: rest) e w:=by
 refine Z9 (v:=u) ?_ aB kk;apply Z0y<;>assumption
theorem Z6A {α:Type} [Z6 α] {X:List Nat} {v:Value} {xs:List α} {t el k:Nat} {x hi:Operand} {r:Nat} {b:Int} [hu:Und P t (.slice el)] [hk:Siz P el k] {ck:World} (hx:ev e x=some v) (hs:SlV X ck v xs) (hb:ev e hi=some (.I b)) (re:b=(r:Int)) (lH:r<=xs.length) (aB:Nat.blt ar n=true) (kk:WL P n ops Q rest ((ar,(slc v 0 r k)) :: e) w):WL P n ops Q (⟨some ar,.slice t x none (some hi) none,ty,pos,af,none⟩ :: rest) e w:=by
 refine Z9 (v:=(slc v 0 r k)) ?_ aB kk;apply Z09 (α:=α)<;>assumption
theorem Zc2 {α:Type} [Z6 α] {X:List Nat} {v:Value} {xs:List α} {t el k:Nat} {x lo:Operand} {l:Nat} {a:Int} [hu:Und P t (.slice el)] [hk:Siz P el k] {ck:World} (hx:ev e x=some v) (hs:SlV X ck v xs) (ha:ev e lo=some (.I a)) (eA:a=(l:Int)) (rf:l<=xs.length) (aB:Nat.blt ar n=true) (kk:WL P n ops Q rest ((ar,(slc v l xs.length k)) :: e) w):WL P n ops Q (⟨some ar,.slice t x (some lo) none none,ty,pos,af,none⟩ :: rest) e w:=by
 refine Z9 (v:=(slc v l xs.length k)) ?_ aB kk;apply Z0Z (α:=α)<;>assumption
theorem Z5 {t:TypeId} {l:List (Nat×Operand)} {vs:List (Nat×Value)} {u:Value} (hv:Jm e l=some vs) (hb:∀ w,(Instr.build t vs.toArray).run P w=.ok u w) (aB:Nat.blt ar n=true) (kk:WL P n ops Q rest ((ar,u) :: e) w):WL P n ops Q (⟨some ar,.build t l.toArray,ty,pos,af,none⟩ :: rest) e w:=by
 refine Z9 (v:=u) ?_ aB kk;apply Z0G<;>assumption
theorem Z4A {t:TypeId} {l:List (Nat×Operand)} {vs:List (Nat×Value)} {u:Value} (bo:ops[cd]?=some ⟨some ar,.build t l.toArray,ty,pos,af,gd⟩) (bp:Z08 ops e gd) (hv:Jm e l=some vs) (hb:∀ w,(Instr.build t vs.toArray).run P w=.ok u w) (aB:Nat.blt ar n=true) (kk:WD P n ops S Lt Q ord ((ar,u) :: e) w):WD P n ops S Lt Q ((cd,0) :: ord) e w:=by
 refine Jl (v:=u) bo bp (λw'=>?_) aB kk;apply Z0G<;>assumption
theorem ZkM {x y:Operand} {t u:TypeId} {p q:Value} {c:Prop} [Decidable c] (bo:ops[cd]?=some ⟨some ar,.binOp .eql t x y u,ty,pos,af,gd⟩) (bp:Z08 ops e gd) (hx:ev e x=some p) (hy:ev e y=some q) (hg:∀ w,(eqGuard .eql t x y p q).run P w=.ok () w) (h:∀ w,(binOp .eql t p q).run P w=.ok (.B (decide c)) w) (aB:Nat.blt ar n=true) (kk:WD P n ops S Lt Q ord ((ar,(.B (decide c))) :: e) w):WD P n ops S Lt Q ((cd,0) :: ord) e w:=by
 refine Jl (v:=(.B (decide c))) bo bp (λw'=>?_) aB kk;apply ZkK<;>assumption
theorem ZkN {x y:Operand} {t u:TypeId} {p q:Value} {c:Prop} [Decidable c] (hx:ev e x=some p) (hy:ev e y=some q) (hg:∀ w,(eqGuard .neq t x y p q).run P w=.ok () w) (h:∀ w,(binOp .neq t p q).run P w=.ok (.B (decide (¬ c))) w) (aB:Nat.blt ar n=true) (kk:WL P n ops Q rest ((ar,(.B (decide (¬ c)))) :: e) w):WL P n ops Q (⟨some ar,.binOp .neq t x y u,ty,pos,af,none⟩ :: rest) e w:=by
 refine Z9 (v:=(.B (decide (¬ c)))) ?_ aB kk;apply Zds<;>assumption
theorem ZkO {x y:Operand} {t u:TypeId} {p q:Value} {c:Prop} [Decidable c] (bo:ops[cd]?=some ⟨some ar,.binOp .neq t x y u,ty,pos,af,gd⟩) (bp:Z08 ops e gd) (hx:ev e x=some p) (hy:ev e y=some q) (hg:∀ w,(eqGuard .neq t x y p q).run P w=.ok () w) (h:∀ w,(binOp .neq t p q).run P w=.ok (.B (decide (¬ c))) w) (aB:Nat.blt ar n=true) (kk:WD P n ops S Lt Q ord ((ar,(.B (decide (¬ c)))) :: e) w):WD P n ops S Lt Q ((cd,0) :: ord) e w:=by
 refine Jl (v:=(.B (decide (¬ c)))) bo bp (λw'=>?_) aB kk;apply Zds<;>assumption
end
section
variable {P:Program} {n:Nat} {Q:Exit->Act->World->Prop} {e:Env} {w:World} {ops:Array Oper} {S:List Nat} {Lt:List Nat} {ord:List (Nat×Nat)} {ar cd:Nat} {ty:TypeId} {pos:String} {af:Array Edge} {gd:Option (Nat×Bool)}
theorem Zac {b T o:Nat} {cs:List Value} {u:Value} {x:Operand} {t:TypeId} {D:TypeDesc} [hu:Und P t D] (bo:ops[cd]?=some ⟨some ar,.load t x,ty,pos,af,gd⟩) (bp:Z08 ops e gd) (hA:Z06 D=false) (hx:ev e x=some (.pointer (some ⟨b,o,none⟩))) (hb:Blk w b T cs) (hn:b∉S) (hc:cs[o]?=some u) (aB:Nat.blt ar n=true) (kk:WD P n ops S Lt Q ord ((ar,u) :: e) w):WD P n ops S Lt Q ((cd,1) :: ord) e w:=
 WD_read bo bp (λw' hS=>Z0y hA hx (hb.ext hS hn) hc) aB kk
end
abbrev Str:=List UInt8
abbrev str (s:Str):Value:=.string ⟨s.toArray⟩
theorem ZkP (a b:Str):((⟨a.toArray⟩:ByteArray).toList == (⟨b.toArray⟩:ByteArray).toList)=decide (a=b):=by
 rw [ByteArray.toList_eq,ByteArray.toList_eq];simp only [YaQ]
theorem Z0a (a:Str):(⟨a.toArray⟩:ByteArray).size=a.length:=by simp [ByteArray.size]
theorem Z3d (a:Str) (i j:Nat):(⟨a.toArray⟩:ByteArray).extract i j=⟨((a.take j).drop i).toArray⟩:=by
 apply ByteArray.ext;simp [ByteArray.data_extract,List.drop_take]
theorem Zc3 (a b:Str):(⟨a.toArray⟩++⟨b.toArray⟩:ByteArray)=⟨(a++b).toArray⟩:=by
 apply ByteArray.ext;simp [ByteArray.data_append]
def Z1Y (a:Str) (i:Nat):Int:=((a.getD i 0).toNat:Int)
instance:Z2 Str where
 k:=1
 enc:=λx=>[str x]
 len:=λ_=>rfl
 one:=by intro x u hu;simp at hu;subst hu;rfl
section rules
variable {P:Program} {n:Nat} {e:Env} {w:World} {d:Option Nat} {ty:TypeId} {pos:String} {af:Array Edge} {g:Option (Nat×Bool)}
theorem Zdt {t u:TypeId} {x y:Operand} {a b:Str} [hu:Und P t .string] (hx:ev e x=some (str a)) (hy:ev e y=some (str b)):PR P n ⟨d,.binOp .eql t x y u,ty,pos,af,g⟩ e w (.B (decide (a=b))):=
 ⟨λc ha=>by simp only [execOp,ha.ev hx,ha.ev hy];simp [go_sem,binOp,Op.stringOp];rw [YaQ]⟩
theorem Zdu {t u:TypeId} {x y:Operand} {a b:Str} [hu:Und P t .string] (hx:ev e x=some (str a)) (hy:ev e y=some (str b)):PR P n ⟨d,.binOp .neq t x y u,ty,pos,af,g⟩ e w (.B (decide (¬ a=b))):=
 ⟨λc ha=>by simp only [execOp,ha.ev hx,ha.ev hy];simp [go_sem,binOp,Op.stringOp];by_cases h:a=b<;>simp [h]⟩
theorem Z8S {t u:TypeId} {x y:Operand} {a b:Str} [hu:Und P t .string] (hx:ev e x=some (str a)) (hy:ev e y=some (str b)) (hl:a.length+b.length<=9223372036854775807):PR P n ⟨d,.binOp .add t x y u,ty,pos,af,g⟩ e w (str (a++b)):=
 ⟨λc ha => by
   simp only [execOp,ha.ev hx,ha.ev hy];simp [go_sem,binOp,Op.stringOp,Zc3];omega⟩
theorem Zdv {x:Operand} {t:TypeId} {a:Str} [hu:Und P t .string] (hx:ev e x=some (str a)) :
 PR P n ⟨d,.call { callee:=.builtin .len,args:=#[x],argTypes:=#[t] },ty,pos,af,g⟩ e w (.I (a.length:Int)):=
 ⟨λc ha => by
   have:=run_len_string (P:=P) w t ty ⟨a.toArray⟩ hu.h;simp [execOp,resolve,invoke,builtin,ha.ev hx,this,goInt,Z0a]⟩
theorem Z84 {t:TypeId} {x y:Operand} {a:Str} {z:Int} {i:Nat} [hu:Und P t .string] (hx:ev e x=some (str a)) (hy:ev e y=some (.I z)) (hz:z=(i:Int)) (hi:i<a.length):PR P n ⟨d,.index t x y,ty,pos,af,g⟩ e w (.int .u8 (Z1Y a i)):=
 ⟨λc ha => by
   subst hz;have h1:(0:Int)<=(i:Int)/\((i:Int)<((⟨a.toArray⟩:ByteArray).size:Int)):=by rw [Z0a];omega
   have:=run_index_string (P:=P) w t ⟨a.toArray⟩ .i64 (i:Int) hu.h;rw [dif_pos h1] at this;simp only [execOp,ha.ev hx,ha.ev hy];simp [this,Z1Y,List.getD,hi];rfl⟩
theorem Z2D {t:TypeId} {x lo hi:Operand} {a:Str} {p q:Int} {l r:Nat} [hu:Und P t .string] (hx:ev e x=some (str a)) (h1:ev e lo=some (.I p)) (h2:ev e hi=some (.I q)) (hp:p=(l:Int)) (hq:q=(r:Int)) (s7:l<=r) (hr:r<=a.length) :
 PR P n ⟨d,.slice t x (some lo) (some hi) none,ty,pos,af,g⟩ e w (str ((a.take r).drop l)):=
 ⟨λc ha => by
   subst hp;subst hq;have:=run_slice_string (P:=P) w t ⟨a.toArray⟩ .i64 .i64 (l:Int) (r:Int) hu.h (by omega) (by omega) (by rw [Z0a];omega);simp only [execOp,ha.ev hx,ha.ev h1,ha.ev h2,Option.map];simp [Instr.sliceAt,run_underlying hu.h,this,Z3d]⟩
theorem Zad {t:TypeId} {x lo:Operand} {a:Str} {p:Int} {l:Nat} [hu:Und P t .string] (hx:ev e x=some (str a)) (h1:ev e lo=some (.I p)) (hp:p=(l:Int)) (hl:l<=a.length) :
 PR P n ⟨d,.slice t x (some lo) none none,ty,pos,af,g⟩ e w (str (a.drop l)):=
 ⟨λc ha => by
   subst hp;have:=run_slice_string_l (P:=P) (t:=t) (s:=⟨a.toArray⟩) w hu.h .i64 (l:Int) (by omega) (by rw [Z0a];omega);simp only [execOp,ha.ev hx,ha.ev h1,Option.map];simp [Instr.sliceAt,run_underlying hu.h,this,Z3d,Z0a]⟩
theorem Zae {t:TypeId} {x hi:Operand} {a:Str} {q:Int} {r:Nat} [hu:Und P t .string] (hx:ev e x=some (str a)) (h2:ev e hi=some (.I q)) (hq:q=(r:Int)) (hr:r<=a.length) :
 PR P n ⟨d,.slice t x none (some hi) none,ty,pos,af,g⟩ e w (str (a.take r)):=
 ⟨λc ha => by
   subst hq;have:=run_slice_string_h (P:=P) (t:=t) (s:=⟨a.toArray⟩) w hu.h .i64 (r:Int) (by omega) (by rw [Z0a];omega);simp only [execOp,ha.ev hx,ha.ev h2,Option.map];simp [Instr.sliceAt,run_underlying hu.h,this,Z3d]⟩
theorem Z5P {x:Operand} {b:Addr} (hx:ev e x=some (.pointer (some b))):PR P n ⟨d,.nilCheck x,ty,pos,af,g⟩ e w (.pointer (some b)):=
 ⟨λa ha=>by simp [execOp,ha.ev hx]⟩
theorem ZgX {t:TypeId} {x:Operand} {p:Prop} {i:Decidable p} (hx:ev e x=some (.B (decide p))):PR P n ⟨d,.unOp .not t x,ty,pos,af,g⟩ e w (.B (decide (¬ p))):=
 ⟨λa ha=>by simp [execOp,ha.ev hx,Op.unary]⟩
theorem Z2E {t el len k:Nat} {x y:Operand} {b o i:Nat} {z:Int} [hu:Und P t (.array len el)] [hk:Siz P el k] (hx:ev e x=some (.pointer (some ⟨b,o,none⟩))) (hy:ev e y=some (.I z)) (hz:z=(i:Int)) (hi:i<len) :
 PR P n ⟨d,.indexAddr t x y,ty,pos,af,g⟩ e w (.pointer (some ⟨b,o+i * k,none⟩)):=
 ⟨λa ha => by
   subst hz;have h0:(0:Int)<=(i:Int)/\(i:Int)<(len:Int):=by omega
   have hr:(Instr.indexAt t (.pointer (some ⟨b,o,none⟩)) (.I (i:Int))).run P w=.ok (.pointer (some ⟨b,o+i * k,none⟩)) w:=by
    simp only [Instr.indexAt,asIntOf];simp [run_underlying hu.h,Instr.sureAddr,Siz.run,Addr.add_lit,hi]
   simp [execOp,ha.ev hx,ha.ev hy,hr]⟩
theorem ZgY {x y:Operand} {ts:Array TypeId} {a b:Int} (hx:ev e x=some (.I a)) (hy:ev e y=some (.I b)) :
 PR P n ⟨d,.call { callee:=.builtin .max,args:=#[x,y],argTypes:=ts },ty,pos,af,g⟩ e w (.I (max a b)):=
 ⟨λc ha => by
   have hm:(if b > a then b else a)=max a b:=by omega
   simp [execOp,resolve,invoke,builtin,ha.ev hx,ha.ev hy,run_max_int2,hm]⟩
theorem ZgZ {x y:Operand} {ts:Array TypeId} {a b:Int} (hx:ev e x=some (.I a)) (hy:ev e y=some (.I b)) :
 PR P n ⟨d,.call { callee:=.builtin .min,args:=#[x,y],argTypes:=ts },ty,pos,af,g⟩ e w (.I (min a b)):=
 ⟨λc ha => by
   have hm:(if b<a then b else a)=min a b:=by omega
   simp [execOp,resolve,invoke,builtin,ha.ev hx,ha.ev hy,run_min_int2,hm]⟩
end rules
section
variable {P:Program} {n:Nat} {Q:Exit->Act->World->Prop} {e:Env} {w:World} {ops:Array Oper} {S:List Nat} {Lt:List Nat} {rest:List Oper} {ord:List (Nat×Nat)} {ar cd:Nat} {ty:TypeId} {pos:String} {af:Array Edge} {gd:Option (Nat×Bool)}
theorem Zdw {t u:TypeId} {x y:Operand} {a b:Str} [hu:Und P t .string] (hx:ev e x=some (str a)) (hy:ev e y=some (str b)) (hl:a.length+b.length<=9223372036854775807) (aB:Nat.blt ar n=true) (kk:WL P n ops Q rest ((ar,(str (a++b))) :: e) w):WL P n ops Q (⟨some ar,.binOp .add t x y u,ty,pos,af,none⟩ :: rest) e w:=by
 refine Z9 (v:=(str (a++b))) ?_ aB kk;apply Z8S<;>assumption
theorem Z3K {t:TypeId} {x y:Operand} {a:Str} {z:Int} {i:Nat} [hu:Und P t .string] (hx:ev e x=some (str a)) (hy:ev e y=some (.int .i64 z)) (hz:z=(i:Int)) (hi:i<a.length) (aB:Nat.blt ar n=true) (kk:WL P n ops Q rest ((ar,(.int .u8 (Z1Y a i))) :: e) w):WL P n ops Q (⟨some ar,.index t x y,ty,pos,af,none⟩ :: rest) e w:=by
 refine Z9 (v:=(.int .u8 (Z1Y a i))) ?_ aB kk;apply Z84<;>assumption
theorem JT {t el len k:Nat} {x y:Operand} {b o i:Nat} {z:Int} [hu:Und P t (.array len el)] [hk:Siz P el k] (hx:ev e x=some (.pointer (some ⟨b,o,none⟩))) (hy:ev e y=some (.int .i64 z)) (hz:z=(i:Int)) (hi:i<len) (aB:Nat.blt ar n=true) (kk:WL P n ops Q rest ((ar,(.pointer (some ⟨b,o+i * k,none⟩))) :: e) w):WL P n ops Q (⟨some ar,.indexAddr t x y,ty,pos,af,none⟩ :: rest) e w:=by
 refine Z9 (v:=(.pointer (some ⟨b,o+i * k,none⟩))) ?_ aB kk;apply Z2E<;>assumption
theorem ZkQ {t el len k:Nat} {x y:Operand} {b o i:Nat} {z:Int} [hu:Und P t (.array len el)] [hk:Siz P el k] (bo:ops[cd]?=some ⟨some ar,.indexAddr t x y,ty,pos,af,gd⟩) (bp:Z08 ops e gd) (hx:ev e x=some (.pointer (some ⟨b,o,none⟩))) (hy:ev e y=some (.int .i64 z)) (hz:z=(i:Int)) (hi:i<len) (aB:Nat.blt ar n=true) (kk:WD P n ops S Lt Q ord ((ar,(.pointer (some ⟨b,o+i * k,none⟩))) :: e) w):WD P n ops S Lt Q ((cd,0) :: ord) e w:=by
 refine Jl (v:=(.pointer (some ⟨b,o+i * k,none⟩))) bo bp (λw'=>?_) aB kk;apply Z2E<;>assumption
structure WO (P:Program) (n:Nat) (ops:Array Oper) (S:List Nat) (Lt:List Nat) (Q:Exit->Act->World->Prop) (o:Oper) (i q:Nat) (ord:List (Nat×Nat)) (e:Env) (w:World):Prop where
 h:ops[i]?=some o->WD P n ops S Lt Q ((i,q) :: ord) e w
theorem Z1I {o:Oper} {i q:Nat} (hi:ops[i]?=some o) (h:WO P n ops S Lt Q o i q ord e w):WD P n ops S Lt Q ((i,q) :: ord) e w:=h.h hi
theorem Z1J {t:TypeId} {l:List (Nat×Operand)} {vs:List (Nat×Value)} {u:Value} (bp:Z08 ops e gd) (hv:Jm e l=some vs) (hb:∀ w,(Instr.build t vs.toArray).run P w=.ok u w) (aB:Nat.blt ar n=true) (kk:WD P n ops S Lt Q ord ((ar,u) :: e) w):WO P n ops S Lt Q ⟨some ar,.build t l.toArray,ty,pos,af,gd⟩ cd 0 ord e w:=⟨λbo=>Z4A bo bp hv hb aB kk⟩
theorem Zdx {x y:Operand} {t u:TypeId} {p q:Value} {c:Prop} [Decidable c] (bp:Z08 ops e gd) (hx:ev e x=some p) (hy:ev e y=some q) (hg:∀ w,(eqGuard .eql t x y p q).run P w=.ok () w) (h:∀ w,(binOp .eql t p q).run P w=.ok (.bool (decide c)) w) (aB:Nat.blt ar n=true) (kk:WD P n ops S Lt Q ord ((ar,(.bool (decide c))) :: e) w):WO P n ops S Lt Q ⟨some ar,.binOp .eql t x y u,ty,pos,af,gd⟩ cd 0 ord e w:=⟨λbo=>ZkM bo bp hx hy hg h aB kk⟩
theorem Zdy {x y:Operand} {t u:TypeId} {p q:Value} {c:Prop} [Decidable c] (bp:Z08 ops e gd) (hx:ev e x=some p) (hy:ev e y=some q) (hg:∀ w,(eqGuard .neq t x y p q).run P w=.ok () w) (h:∀ w,(binOp .neq t p q).run P w=.ok (.bool (decide (¬ c))) w) (aB:Nat.blt ar n=true) (kk:WD P n ops S Lt Q ord ((ar,(.bool (decide (¬ c)))) :: e) w):WO P n ops S Lt Q ⟨some ar,.binOp .neq t x y u,ty,pos,af,gd⟩ cd 0 ord e w:=⟨λbo=>ZkO bo bp hx hy hg h aB kk⟩
theorem Z3L {t el len k:Nat} {x y:Operand} {b o i:Nat} {z:Int} [hu:Und P t (.array len el)] [hk:Siz P el k] (bp:Z08 ops e gd) (hx:ev e x=some (.pointer (some ⟨b,o,none⟩))) (hy:ev e y=some (.int .i64 z)) (hz:z=(i:Int)) (hi:i<len) (aB:Nat.blt ar n=true) (kk:WD P n ops S Lt Q ord ((ar,(.pointer (some ⟨b,o+i * k,none⟩))) :: e) w):WO P n ops S Lt Q ⟨some ar,.indexAddr t x y,ty,pos,af,gd⟩ cd 0 ord e w:=⟨λbo=>ZkQ bo bp hx hy hz hi aB kk⟩
theorem elB {α:Type} [Z2 α] {X:List Nat} {xs:List α} {v u:Value} {i k:Nat} {x:Operand} {t:TypeId} {D:TypeDesc} {d:Option Nat} [hu:Und P t D] [bD:Siz P t k] (hA:Z06 D=true) (hx:ev e x=some (.pointer (some (Zx v i k 0)))) (hs:SlV X w v xs) (hi:i<xs.length) (hk:k=Z2.k α) (h:u=.agg (Z2.enc xs[i]).toArray):PR P n ⟨d,.load t x,ty,pos,af,gd⟩ e w u:=h ▸ Za5 hA hx hs hi hk
theorem exF {α:Type} [Z2 α] {X:List Nat} {w':World} {v:Value} {xs:List α} (h:SlV X w v xs) (hS:Stp S w w') (h1:∀ b∈S,b∈X):SlV X w' v xs:=h.ext hS h1 (λ_ h=>.inl h)
theorem Zaf {t:TypeId} {x:Operand} {d:Option Nat} {v:Value} (h:PR P n ⟨d,.load t x,ty,pos,af,gd⟩ e w v):PR P n ⟨d,.load t x,ty,pos,af,gd⟩ e w v:=h
theorem ZkR {t:TypeId} {x y:Operand} {d:Option Nat} {v:Value} (h:PR P n ⟨d,.indexAddr t x y,ty,pos,af,gd⟩ e w v):PR P n ⟨d,.indexAddr t x y,ty,pos,af,gd⟩ e w v:=h
theorem Zeu {t:TypeId} {x:Operand} {m:Nat} {d:Option Nat} {v:Value} (h:PR P n ⟨d,.fieldAddr t x m,ty,pos,af,gd⟩ e w v):PR P n ⟨d,.fieldAddr t x m,ty,pos,af,gd⟩ e w v:=h
theorem ZkS {t:TypeId} {x:Operand} {d:Option Nat} {v:Value} (h:PR P n ⟨d,.call { callee:=.builtin .len,args:=#[x],argTypes:=#[t] },ty,pos,af,gd⟩ e w v):PR P n ⟨d,.call { callee:=.builtin .len,args:=#[x],argTypes:=#[t] },ty,pos,af,gd⟩ e w v:=h
theorem ZuO {l:List Oper} (h:WL P n ops Q l e w):WL P n ops Q l e w:=h
theorem ZuP {c:Code} (h:WC P n c Q e w):WC P n c Q e w:=h
theorem ZuQ {x:Exit} (h:WQ n Q x e w):WQ n Q x e w:=h
end
theorem PX {G:Prop} (h:G:=by
 first
  | (apply ZX;exact rfl)
  | (apply Z5l;exact rfl)
  | (apply Z4v;exact rfl)
  | (apply ZkR;first|exact Z2z rfl (by assumption) rfl rfl (by assumption)|exact Z2z rfl (by assumption) rfl rfl (by omega)|exact Z2z rfl (by assumption) rfl (by assumption) (by first|assumption|omega)|exact Z2z (i:=0) rfl (by assumption) rfl rfl (by omega)|exact Z2z (i:=1) rfl (by assumption) rfl rfl (by omega)|exact Z2z (i:=2) rfl (by assumption) rfl rfl (by omega)|exact Z2E (i:=0) rfl rfl rfl (by decide)|exact Z2E (i:=1) rfl rfl rfl (by decide)|exact Z2E (i:=2) rfl rfl rfl (by decide)|exact Z2E rfl rfl rfl (by omega))
  | (apply Zeu;exact Za3 rfl (SlV.isSome (by assumption) (by assumption)))
  | (apply ZkS;first|exact Zdv rfl|exact ZkI rfl (by assumption)|exact ZbX rfl)
  | (apply Z0Y;exact rfl;exact rfl)
  | (apply Z5P;exact rfl)
  | (apply Zgc;exact rfl;exact rfl)
  | (apply ZbU;exact rfl;exact rfl)
  | (apply ZbW;exact rfl;exact rfl)
  | (apply Zdt;exact rfl;exact rfl)
  | (apply Zdu;exact rfl;exact rfl)
  | (apply Zg7;exact rfl;exact rfl;(unfold I64;omega))
  | (apply Z5m;exact rfl;exact rfl;(unfold I64;omega))
  | (apply Zga;exact rfl;exact rfl)
  | (apply ZbV;exact rfl;exact rfl)
  | (apply Zgb;exact rfl;exact rfl)
  | (apply Zdp;exact rfl;exact rfl)
  | (apply Z8J;exact rfl;exact rfl)
  | (apply ZmO;exact rfl;exact rfl;(unfold I64;omega))
  | (apply Zdo;exact rfl;exact rfl;omega;omega;(unfold I64;omega))
  | (apply Zdn;exact rfl;exact rfl;omega;omega;(unfold I64;omega))
  | (apply Z8S;exact rfl;exact rfl;omega)
  | (apply Zg5;exact rfl)
  | (apply Zg6;exact rfl)
  | (apply ZgX;exact rfl)
  | (apply ZbT;exact rfl)
  | (apply ZmP;exact rfl;(unfold I64;omega))
  | (apply Z80;exact rfl;exact rfl)
  | (apply Z81;exact rfl;exact rfl)
  | (apply ZgY;exact rfl;exact rfl)
  | (apply ZgZ;exact rfl;exact rfl)
  | (apply Z84;exact rfl;exact rfl;exact rfl;(first|assumption|omega))
  | apply Z8K
  | (apply Z8L;exact rfl)
  | (apply Z8M;exact rfl;exact rfl)
  | (apply Z8N;exact rfl;exact rfl;exact rfl)):G:=h
structure Z2F (R:Prop):Prop where
 h:R
theorem W1 {G R:Prop} (k:R) (h:Z2F R->G:=by
 intro r
 repeat1' (first
  | (apply ZuO;first
  | apply Z5k
  | (apply Z9;exact PX;exact rfl)
  | (apply Z9;(apply Zaf;first|exact Z0y rfl rfl (by assumption) (by rfl)|exact Z2A rfl rfl (by assumption) (by first|assumption|omega) (by rfl) (by rfl)|exact ZY rfl rfl (by assumption) (by rfl)|exact elB rfl rfl (by assumption) (by assumption) (by rfl) rfl);exact rfl)
  | (apply Zg1;exact rfl)
  | (apply Zdl;exact rfl;exact rfl))
  | (apply ZuP;first|apply Z4g|apply Z1A|apply Zg0|apply Z6j|apply Z6u|apply ZjE|(apply Z1o;exact rfl)|(apply Z15;exact rfl))
  | (apply ZuQ;first|apply Z3H|apply Z1b|apply Zy|apply Zt|(apply ZB;exact rfl)|apply Z8H|apply J8))
 exact r.h):G:=h ⟨k⟩
theorem W {G R:Prop} (k:R) (h:Z2F R->G:=by
 intro r;first|(refine W1 ?_;exact r.h)|exact r.h):G:=h ⟨k⟩
theorem D1 {G R:Prop} (k:R) (h:Z2F R->G:=by
 intro r
 repeat1' (first
  | apply ZgR
  | (apply Jl;exact rfl;(first|exact trivial|exact rfl);(intro w';exact PX);exact rfl)
  | (apply WD_read;exact rfl;(first|exact trivial|exact rfl);(intro w' hS;apply Zaf;first|exact Z0y rfl rfl (Blk.ext (by assumption) hS (by first|assumption|(simp;done)|(simp;omega))) (by rfl)|exact Z2A rfl rfl (exF (by assumption) hS (by first|exact λ_ h=>h|(simp;done))) (by first|assumption|omega) (by rfl) (by rfl)|exact ZY rfl rfl (Blk.ext (by assumption) hS (by first|assumption|(simp;done)|(simp;omega))) (by rfl)|exact elB rfl rfl (exF (by assumption) hS (by first|exact λ_ h=>h|(simp;done))) (by assumption) (by rfl) rfl);exact rfl)
  | (apply Za9;exact rfl;exact rfl;exact rfl)
  | (apply Zaa;exact rfl;exact rfl;exact rfl)
  | (apply Zab;exact rfl;exact rfl;exact rfl))
 exact r.h):G:=h ⟨k⟩
theorem D {G R:Prop} (k:R) (h:Z2F R->G:=by
 intro r;first|(refine D1 ?_;exact r.h)|exact r.h):G:=h ⟨k⟩
theorem WR {G R:Prop} (k:R) (h:Z2F R->G:=by
 intro r;first|refine ZjH rfl rfl ?_|refine ZjI rfl rfl rfl ?_|refine ZjJ rfl rfl rfl rfl ?_|refine Zdm rfl ?_|refine Z8I rfl ?_
 exact r.h):G:=h ⟨k⟩
theorem VG {G R S:Prop} (k:R) (l:S) (h:Z2F R->Z2F S->G:=by
 intro r s;first|refine Zg4 rfl rfl ?_ ?_|refine WL_splitB rfl rfl ?_ ?_
 exact r.h;exact s.h):G:=h ⟨k⟩ ⟨l⟩
theorem VC {G R S:Prop} (k:R) (l:S) (h:Z2F R->Z2F S->G:=by
 intro r s;first|refine Zdk rfl ?_ ?_|refine Za2 rfl ?_ ?_
 exact r.h;exact s.h):G:=h ⟨k⟩ ⟨l⟩
theorem hap {p A:Prop} (r:Z2F (p->A)) (h:p):A:=r.h h
theorem QO {G R:Prop} (k:R) (h:Z2F R->G:=by
 intro r
 repeat1' (first|refine W1 ?_|(refine VG ?_ ?_<;>intro hg;(first|(focus omega)|(rotate_left;focus omega)))|(refine VC ?_ ?_<;>intro hg;(first|(focus omega)|(rotate_left;focus omega))))
 exact r.h):G:=h ⟨k⟩
theorem QP {G R S:Prop} (k:R) (l:S) (h:Z2F R->Z2F S->G:=by
 intro r s;first|refine QO ?_|skip
 first|(refine VG ?_ ?_<;>intro hg)|(refine VC ?_ ?_<;>intro hg)
 first|(refine QO ?_;exact hap r hg)|exact hap r hg
 first|(refine QO ?_;exact hap s hg)|exact hap s hg):G:=h ⟨k⟩ ⟨l⟩
theorem QD {G R:Prop} (k:R) (h:Z2F R->G:=by
 intro r
 repeat1' (first|refine D1 ?_|refine Zl rfl rfl rfl rfl (λhg=>?_) (λhg=>absurd hg (by omega))|refine Zl rfl rfl rfl rfl (λhg=>absurd hg (by omega)) (λhg=>?_)|(refine Zh rfl rfl rfl rfl (λhg=>?_) (λhg=>?_)<;>refine D1 ?_;(first|(focus omega)|(rotate_left;focus omega))))
 exact r.h):G:=h ⟨k⟩
theorem QE {G R S:Prop} (k:R) (l:S) (h:Z2F R->Z2F S->G:=by
 intro r s;first|refine QD ?_|skip
 first|refine Zl rfl rfl rfl rfl (λhg=>?_) (λhg=>?_)|refine Zh rfl rfl rfl rfl (λhg=>?_) (λhg=>?_)
 first|(refine QD ?_;exact hap r (by assumption))|exact hap r (by assumption)
 first|(refine QD ?_;exact hap s (by assumption))|exact hap s (by assumption)):G:=h ⟨k⟩ ⟨l⟩
theorem SA {P:Program} {n:Nat} {Q:Exit->Act->World->Prop} {e:Env} {w:World} {rest:List Oper} {ops:Array Oper} {ty:TypeId} {pos:String} {af:Array Edge} {b T m t:Nat} {cs us:List Value} {x y:Operand} {u:Value} [bD:Siz P t m] (hb:Blk w b T cs) (k:∀ (v:Value) (w':World),Stp [b] w w'/\Blk w' b T us->WL P n ops Q rest e w')
 (hx:ev e x=some (.pointer (some ⟨b,0,none⟩)):=by exact rfl) (hy:ev e y=some u:=by exact rfl) (hu:u.cells.toList=us:=by exact rfl) (hm:us.length=m:=by exact rfl) (h1:∀ c∈us,c.oneCell'=true:=by exact Z2.one _) (hl:us.length=cs.length:=by exact rfl):WL P n ops Q (⟨none,.store t x y,ty,pos,af,none⟩ :: rest) e w:=Z8 (Zw hx hy hu hm h1 hb hl) k
theorem S1 {P:Program} {n:Nat} {Q:Exit->Act->World->Prop} {e:Env} {w:World} {rest:List Oper} {ops:Array Oper} {ty:TypeId} {pos:String} {af:Array Edge} {b T o t:Nat} {cs:List Value} {x y:Operand} {u:Value} [bD:Siz P t 1] (hb:Blk w b T cs) (k:∀ (v:Value) (w':World),Stp [b] w w'/\Blk w' b T (cs.set o u)->WL P n ops Q rest e w')
 (hx:ev e x=some (.pointer (some ⟨b,o,none⟩)):=by exact rfl) (hy:ev e y=some u:=by exact rfl) (hu:u.cells.toList=[u]:=by exact rfl) (h1:u.oneCell'=true:=by exact rfl) (hl:o<cs.length:=by simp):WL P n ops Q (⟨none,.store t x y,ty,pos,af,none⟩ :: rest) e w:=Z8 (Zb hx hy hu h1 hb hl) k
theorem LP {P:Program} {n:Nat} {Q:Exit->Act->World->Prop} {e:Env} {w:World} {c:Code} {σ:Type} (env:σ->Env) (I:σ->World->Prop) (μ:σ->Nat) (dV:σ) (hI:I dV w) (round:∀ s w,I s w->WC P n c (Exit.then (λa' w'=>∃ s',Has n (env s') a'/\I s' w'/\μ s' < μ s) Q) (env s) w) (hs:Sub (env dV) e:=by repeat (first|exact trivial|refine ⟨rfl,?_⟩)):WC P n (.loop c) Q e w:=Zm env I μ dV hs hI round
theorem SB {P:Program} {n:Nat} {Q:Exit->Act->World->Prop} {e:Env} {w:World} {rest:List Oper} {ops:Array Oper} {ty:TypeId} {pos:String} {af:Array Edge} {b T m t:Nat} {cs us:List Value} {x y:Operand} {u:Value} [bD:Siz P t m] (h1:∀ c∈us,c.oneCell'=true) (hb:Blk w b T cs) (k:∀ (v:Value) (w':World),Stp [b] w w'/\Blk w' b T us->WL P n ops Q rest e w')
 (hx:ev e x=some (.pointer (some ⟨b,0,none⟩)):=by exact rfl) (hy:ev e y=some u:=by exact rfl) (hu:u.cells.toList=us:=by exact rfl) (hm:us.length=m:=by exact rfl) (hl:us.length=cs.length:=by exact rfl):WL P n ops Q (⟨none,.store t x y,ty,pos,af,none⟩ :: rest) e w:=Z8 (Zw hx hy hu hm h1 hb hl) k
theorem QL {σ:Type} {n:Nat} {Q:Exit->Act->World->Prop} {e:Env} {w:World} {env:σ->Env} {I:σ->World->Prop} {μ:σ->Nat} {m:Nat} (s:σ) (hI:I s w) (hm:μ s<m) (hs:Sub (env s) e:=by repeat (first|exact trivial|refine ⟨rfl,?_⟩)):WQ n (Exit.then (λa w=>∃ s,Has n (env s) a/\I s w/\μ s<m) Q) .normal e w:=Zd s hs hI hm
theorem QT {σ:Type} {n:Nat} {Q:Exit->Act->World->Prop} {e:Env} {w:World} {env:σ->Env} {I:σ->World->Prop} (s:σ) (hI:I s w) (hs:Sub (env s) e:=by repeat (first|exact trivial|refine ⟨rfl,?_⟩)):WQ n (Exit.then (λa w=>∃ s,Has n (env s) a/\I s w) Q) .normal e w:=Z0E s hs hI
theorem RU {G A:Prop} (k:A) (h:Z2F A->G:=by
 intro r;refine WR ?_;exact .mk r.h):G:=h ⟨k⟩
theorem RT {G A:Prop} (k:A) (h:Z2F A->G:=by
 intro r;first|refine QO ?_|skip
 refine WR ?_;exact .mk r.h):G:=h ⟨k⟩
theorem CL {P:Program} {n:Nat} {Q:Exit->Act->World->Prop} {e:Env} {w:World} {rest:List Oper} {f d:Nat} {fn:Func} {xs:Array Operand} {ts:Array TypeId} {vs:Array Value} {G:Value->World->Prop} {c:Operand} {ty:TypeId} {pos:String} {af:Array Edge} {ops:Array Oper} [hf:Fun P f fn] (h:Calls P f vs w (Ret G)) (k:∀ v w',G v w'->WL P n ops Q rest ((d,v) :: e) w') (hc:ev e c=some (.func (.func f) #[] #[]):=by exact rfl) (hv:∀ a,Has n e a->xs.map a.eval=vs:=by first|exact Z7F|exact ZS rfl|exact Zg rfl rfl|exact ZJ rfl rfl rfl|exact Z40 rfl rfl rfl rfl|exact Zr2 rfl rfl rfl rfl rfl) (hd:Nat.blt d n=true:=by exact rfl):WL P n ops Q (⟨some d,.call { callee:=.value c,args:=xs,argTypes:=ts },ty,pos,af,none⟩ :: rest) e w:=Z0 (Z3 hc hv h) hd k
theorem CM {P:Program} {n:Nat} {Q:Exit->Act->World->Prop} {e:Env} {w:World} {rest:List Oper} {f d:Nat} {fn:Func} {xs:Array Operand} {ts:Array TypeId} {vs:Array Value} {G:Value->World->Prop} {c:Operand} {ty:TypeId} {pos:String} {af:Array Edge} {ops:Array Oper} [hf:Fun P f fn] (hv:∀ a,Has n e a->xs.map a.eval=vs) (h:Calls P f vs w (Ret G)) (k:∀ v w',G v w'->WL P n ops Q rest ((d,v) :: e) w') (hc:ev e c=some (.func (.func f) #[] #[]):=by exact rfl) (hd:Nat.blt d n=true:=by exact rfl):WL P n ops Q (⟨some d,.call { callee:=.value c,args:=xs,argTypes:=ts },ty,pos,af,none⟩ :: rest) e w:=Z0 (Z3 hc hv h) hd k
theorem DC {P:Program} {n:Nat} {S Lt:List Nat} {Q:Exit->Act->World->Prop} {e:Env} {w:World} {ord:List (Nat×Nat)} {i f d:Nat} {fn:Func} {gd:Option (Nat×Bool)} {xs:Array Operand} {ts:Array TypeId} {vs:Array Value} {G:Value->World->Prop} {c:Operand} {ty:TypeId} {pos:String} {af:Array Edge} {ops:Array Oper} [hf:Fun P f fn] (h:Calls P f vs w (Ret G)) (hG:∀ v w',G v w'->Stp S w w') (k:∀ v w',G v w'->WD P n ops S Lt Q ord ((d,v) :: e) w') (hi:ops[i]?=some ⟨some d,.call { callee:=.value c,args:=xs,argTypes:=ts },ty,pos,af,gd⟩:=by exact rfl) (hg:Z08 ops e gd:=by first|exact trivial|exact rfl) (hc:ev e c=some (.func (.func f) #[] #[]):=by exact rfl) (hv:∀ a,Has n e a->xs.map a.eval=vs:=by first|exact Z7F|exact ZS rfl|exact Zg rfl rfl|exact ZJ rfl rfl rfl|exact Z40 rfl rfl rfl rfl|exact Zr2 rfl rfl rfl rfl rfl) (hd:Nat.blt d n=true:=by exact rfl):WD P n ops S Lt Q ((i,2) :: ord) e w:=Z7 hi hg (Z3 hc hv h) hG hd k
inductive Nd where
 | mk (kind n:Int) (s:Str) (kids:List Nd)
namespace Nd
def kind:Nd->Int|mk k _ _ _=>k
def num:Nd->Int|mk _ n _ _=>n
def word:Nd->Str|mk _ _ s _=>s
def kids:Nd->List Nd|mk _ _ _ l=>l
theorem eta (x:Nd):x=mk x.kind x.num x.word x.kids:=by cases x;rfl
theorem ind {P:Nd->Prop} (h:∀ k n s l,(∀ x∈l,P x)->P (mk k n s l)):∀ x,P x
 | mk k n s l=>h k n s l (λx hx=>ind h x)
 decreasing_by
  have:=List.sizeOf_lt_of_mem hx;simp only [mk.sizeOf_spec];omega
end Nd
inductive Z41 (X:List Nat) (w:World):Nd->List Value->Prop
 | mk (k n : Int) (s : Str) (l : List Nd) (p : Option Addr) (c : Nat) (b o : Nat) (css : Nat -> List Value) (hl : l.length <= c) (hm : c <= maxLen) (hn : p = none -> c = 0)
    (hp:0<l.length->p=some ⟨b,o,none⟩/\b<w.heap.size/\b∉X) (hr:∀ i (h:i<l.length),Z41 X w l[i] (css i))
    (hc:∀ i,i<l.length->∀ j u,(css i)[j]?=some u->w.cell? ⟨b,o+i * 4+j,none⟩=some u) :
    Z41 X w (.mk k n s l) [.I k,.I n,str s,.slice p l.length c]
theorem Z41.ext {X S X':List Nat} {w w':World} {x:Nd} {cs:List Value} (h:Z41 X w x cs) (hS:Stp S w w') (h1:∀ b∈S,b∈X) (h2:∀ b∈X',b∈X\/w.heap.size<=b):Z41 X' w' x cs:=by
 induction h with
 | mk k n s l p c b o css hl hm hn hp hr hc ih=>
   refine .mk k n s l p c b o css hl hm hn (λh0=>?_) ih (λi hi j u hu=>?_);obtain ⟨e1,e2,e3⟩:=hp h0;refine ⟨e1,Xv e2 hS.size,λhb=>?_⟩;rcases h2 b hb with h|h
   exact e3 h;omega;obtain ⟨_,_,e3⟩:=hp (by omega);exact hS.cell (λhb=>e3 (h1 b hb)) (hc i hi j u hu)
instance:Z6 Nd where
 k:=4
 rep:=Z41
 len:=by intro X w x cs h;cases h;rfl
 one:=by
  intro X w x cs h u hu;cases h;simp at hu;rcases hu with rfl|rfl|rfl|rfl<;>rfl
 ext:=Z41.ext
def NdV (X:List Nat) (w:World) (v:Value) (x:Nd):Prop:=∃ kv,v=.agg #[.I x.kind,.I x.num,str x.word,kv]/\SlV X w kv x.kids
theorem Zh0 {X:List Nat} {w} {x:Nd} {cs:List Value} (h:Z41 X w x cs):∃ kv,cs=[.I x.kind,.I x.num,str x.word,kv]/\SlV X w kv x.kids:=by
 cases h with
 | mk k n s l p c b o css hl hm hn hp hr hc=>
   refine ⟨_,rfl,p,c,rfl,hl,hm,hn,λi hi=>?_⟩;obtain ⟨e1,e2,e3⟩:=hp (by show 0<l.length;have:i<l.length:=hi;omega);exact ⟨b,o,css i,e1,e2,e3,hr i hi,hc i hi⟩
theorem Z2h {X:List Nat} {w} {k n:Int} {s:Str} {l:List Nd} {kv:Value} (h:SlV X w kv l):Z41 X w (.mk k n s l) [.I k,.I n,str s,kv]:=by
 obtain ⟨p,c,rfl,hl,hm,hn,hc⟩:=h;have aP:∀ i:Fin l.length,∃ cs:List Value,∃ b o,p=some ⟨b,o,none⟩/\b<w.heap.size/\b∉X/\Z41 X w l[i] cs/\∀ j u,cs[j]?=some u->w.cell? ⟨b,o+i * 4+j,none⟩=some u:=by
  intro i;obtain ⟨b,o,cs,h1,h2,h3,h4,h5⟩:=hc i i.2;exact ⟨cs,b,o,h1,h2,h3,h4,h5⟩
 obtain ⟨f,hf⟩:=Classical.axiomOfChoice aP;by_cases h0:0<l.length;obtain ⟨b,o,e1,e2,e3,_⟩:=hf ⟨0,h0⟩;refine .mk k n s l p c b o (λi=>if h:i<l.length then f ⟨i,h⟩ else []) hl hm hn (λ_=>⟨e1,e2,e3⟩) (λi hi=>?_) (λi hi j u hu=>?_);obtain ⟨_,_,_,_,_,g,_⟩:=hf ⟨i,hi⟩;simpa [hi] using g;obtain ⟨b',o',g1,_,_,_,g⟩:=hf ⟨i,hi⟩;rw [e1] at g1;simp only [Xk,Addr.mk.injEq] at g1;obtain ⟨rfl,rfl,_⟩:=g1;exact g j u (by simpa [hi] using hu);exact .mk k n s l p c 0 0 (λ_=>[]) hl hm hn (λh=>absurd h h0) (λi hi=>by omega) (λi hi=>by omega)
theorem NdV.up {X:List Nat} {w w':World} {v:Value} {x:Nd} (h:NdV X w v x) (hS:Stp [] w w'):NdV X w' v x:=by
 obtain ⟨kv,rfl,hs⟩:=h;exact ⟨kv,rfl,hs.up hS⟩
theorem SlV.nd {X:List Nat} {w} {v:Value} {l:List Nd} {i:Nat} (h:SlV X w v l) (hi:i<l.length):∃ kv,SlV X w kv l[i].kids/\∀ j u,[Value.int .i64 l[i].kind,.I l[i].num,str l[i].word,kv][j]?=some u->w.cell? (Zx v i 4 j)=some u:=by
 obtain ⟨cs,hr,hc⟩:=h.cell hi;obtain ⟨kv,rfl,hs⟩:=Zh0 hr;exact ⟨kv,hs,hc⟩
section
variable {P:Program} {n:Nat} {e:Env} {w:World} {d:Option Nat} {ty:TypeId} {pos:String} {af:Array Edge} {g:Option (Nat×Bool)}
theorem Z02 {X:List Nat} {v:Value} {l:List Nd} {i:Nat} {kv:Value} {x:Operand} {t:TypeId} {D:TypeDesc} [hu:Und P t D] (hA:Z06 D=true) [bD:Siz P t 4] (hx:ev e x=some (.pointer (some (Zx v i 4 0)))) (hs:SlV X w v l) (hi:i<l.length)
 (hc:∀ j u,[Value.int .i64 l[i].kind,.I l[i].num,str l[i].word,kv][j]?=some u->w.cell? (Zx v i 4 j)=some u) :
 PR P n ⟨d,.load t x,ty,pos,af,g⟩ e w (.agg #[.I l[i].kind,.I l[i].num,str l[i].word,kv]):=by
 obtain ⟨p,l',c,rfl⟩:=hs.isSome hi;refine Z2g (cs:=[.I l[i].kind,.I l[i].num,str l[i].word,kv]) hA hx rfl (λj u hu=>?_);have:=hc j u hu;simpa [Zx] using this
end
end Go.Eng
namespace Go.Proofs.YtgdicjnjhchooaaGreatDoor
open Go Go.Eng Go.RowKit
abbrev ndC (x:Nd) (kv:Value):List Value:=[.I x.kind,.I x.num,str x.word,kv]
theorem JH {X:List Nat} {w} {x:Nd} {kv:Value} {l:List Nd} (h:SlV X w kv l):∀ c∈ndC x kv,c.oneCell'=true:=by
 intro c hc;simp only [ndC,Xc,Xn,or_false] at hc;rcases hc with rfl|rfl|rfl|rfl
 rfl;rfl;rfl;exact h.one
end Go.Proofs.YtgdicjnjhchooaaGreatDoor
namespace Go.Eng
open Go Go.RowKit Go.Proofs
class Z8T (P:Program) (kt:Nat) (κ:outParam Type) [DecidableEq κ] where
 enc:κ->Value
 chk:∀ (em:Bool) (a:κ) (w:World),(Instr.checkKey em 10000 kt (enc a)).run P w=.ok () w
 find:∀ (a:κ) (es:List MapEntry) (l:List κ) (w:World),es.map (·.key)=l.map enc->
  (Instr.findKey kt (enc a) es).run P w=.ok ((l.findIdx? (λb=>decide (b=a))).bind λi=>(es[i]?).map λe=>(i,e.val)) w
def Jz {κ:Type} (enc:κ->Value) (w:World) (r:Nat) (l:List (κ×Value)):Prop:=
 ∃ (es:Array MapEntry) (clock:Nat),w.heap[r]?=some (.map es clock)/\es.toList.map (·.key)=l.map (λp=>enc p.1)/\es.toList.map (·.val)=l.map (·.2)
theorem Jz.lt {κ:Type} {enc:κ->Value} {w} {r:Nat} {l:List (κ×Value)} (h:Jz enc w r l):r<w.heap.size:=by
 obtain ⟨es,c,h1,_⟩:=h;exact (Xo.1 h1).1
theorem Jz.ext {κ:Type} {enc:κ->Value} {S:List Nat} {w w':World} {r:Nat} {l:List (κ×Value)} (h:Jz enc w r l) (hS:Stp S w w') (hr:r∉S):Jz enc w' r l:=by
 have hlt:=h.lt;obtain ⟨es,c,h1,h2⟩:=h;exact ⟨es,c,by rw [hS.block r hlt hr];exact h1,h2⟩
theorem Jz.up {κ:Type} {enc:κ->Value} {w w':World} {r:Nat} {l:List (κ×Value)} (h:Jz enc w r l) (hS:Stp [] w w'):Jz enc w' r l:=h.ext hS (by simp)
def Z4h {κ:Type} [DecidableEq κ] (l:List (κ×Value)) (a:κ) (z:Value):Value:=match l.find? (λp=>decide (p.1=a)) with|some p=>p.2|none=>z
theorem Z4i {d:TypeDesc} {κ:Type} [DecidableEq κ] (enc:κ->Value) (h:∀ a b:κ,Instr.sameNow d (enc a) (enc b)=some (decide (a=b))) (a:κ):∀ (es:List MapEntry) (l:List κ) (i:Nat),es.map (·.key)=l.map enc->
 Instr.findNow d (enc a) es i=some ((l.findIdx? (λb=>decide (b=a))).bind λj=>(es[j]?).map λe=>(i+j,e.val))
 | [],[],i,_=>by simp [Instr.findNow]
 | [],_ :: _,i,h=>by simp at h
 | _ :: _,[],i,h=>by simp at h
 | e :: es, b :: l, i, hk => by
   simp only [XE,YbM] at hk;obtain ⟨h1,h2⟩:=hk;have ih:=Z4i enc h a es l (i+1) h2;simp only [Instr.findNow,h1,h];by_cases bM:a=b;subst bM;simp [Ybm]
   . have ou:¬ b=a:=λh=>bM h.symm
     simp only [decide_eq_false bM,ih,Ybm,decide_eq_false ou,YaB,if_false];cases l.findIdx? (λb=>decide (b=a)) with
     | none=>rfl
     | some j=>
       simp only [XY,YaT,YaX];rw [show i+1+j=i+(j+1) by omega]
theorem Z28 {P:Program} {kt:Nat} {κ:Type} [DecidableEq κ] (enc:κ->Value) (h:∀ (a b:κ) (w),(Op.equal kt (enc a) (enc b)).run P w=.ok (decide (a=b)) w) (a:κ) (w):∀ (es:List MapEntry) (l:List κ) (i:Nat),es.map (·.key)=l.map enc->
 (Instr.findAsking kt (enc a) es i).run P w=.ok ((l.findIdx? (λb=>decide (b=a))).bind λj=>(es[j]?).map λe=>(i+j,e.val)) w
 | [],[],i,_=>by simp [Instr.findAsking]
 | [],_ :: _,i,h=>by simp at h
 | _ :: _,[],i,h=>by simp at h
 | e :: es, b :: l, i, hk => by
   simp only [XE,YbM] at hk;obtain ⟨h1,h2⟩:=hk;have ih:=Z28 enc h a w es l (i+1) h2;simp only [Instr.findAsking,h1];by_cases bM:a=b;subst bM;simp [Ybm,h]
   . have ou:¬ b=a:=λh=>bM h.symm
     simp only [Sem.run_bind,h,decide_eq_false bM,Result.andThen,Ybm,decide_eq_false ou,YaB,if_false,ih];cases l.findIdx? (λb=>decide (b=a)) with
     | none=>rfl
     | some j=>
       simp only [XY,YaT,YaX];rw [show i+1+j=i+(j+1) by omega]
instance {P:Program} {kt:Nat} [hu:Und P kt (.int .i64)]:Z8T P kt Int where
 enc:=λz=>.I z
 chk:=λem a w=>MapKept.run_checkKey (k:=.I a) hu.h (by simp [MapKept.IsKey]) em 9999
 find:=λa es l w hk=>by
  have:=Z4i (d:=.int .i64) (λz:Int=>Value.int .i64 z) (λa b=>by simp [Instr.sameNow,YaQ]) a es l 0 hk;simpa using MapKept.run_findKey (w:=w) hu.h this
instance Zmv {P:Program} {kt:Nat} [hu:Und P kt .string]:Z8T P kt Str where
 enc:=str
 chk:=λem a w=>MapKept.run_checkKey (k:=str a) hu.h (by simp [MapKept.IsKey]) em 9999
 find:=λa es l w hk=>by
  have:=Z4i (d:=.string) str (λa b=>by
   simp only [Instr.sameNow,Xk];rw [beq_toListBytes,ZkP]) a es l 0 hk
  simpa using MapKept.run_findKey (w:=w) hu.h this
section
variable {P:Program} {n:Nat} {e:Env} {w:World} {d:Option Nat} {ty:TypeId} {pos:String} {af:Array Edge} {g:Option (Nat×Bool)}
theorem Z4j {t:TypeId} {κ:Type} (enc:κ->Value):OE P n ⟨d,.makeMap t none,ty,pos,af,g⟩ e w (λv w'=>∃ r,v=.map (some r)/\w.heap.size<=r/\Jz enc w' r []/\Stp [] w w'):=
 ZL (v:=.map (some w.heap.size)) (w':=w.alloc (.map #[] 0)) (λa ha=>by
  simp [execOp,run_makeMap]) ⟨_,rfl,Xl _,⟨#[],0,heap_alloc_new w _,rfl,rfl⟩,Stp.alloc _ _ _⟩
theorem Zc4 {κ:Type} [DecidableEq κ] {l:List κ} {a:κ} (h:∀ b∈l,¬ b=a):l.findIdx? (λb=>decide (b=a))=none:=by
 rw [Yaf];intro b hb;simp [h b hb]
theorem Z6B {mt kt et r:Nat} {κ:Type} [DecidableEq κ] [hm:Und P mt (.map kt et)] [K:Z8T P kt κ] {l:List (κ×Value)} {a:κ} {v:Value} (hr:Jz K.enc w r l) (hn:∀ p∈l,¬ p.1=a) :
 ∃ w',(Instr.mapUpdate mt (.map (some r)) (K.enc a) v).run P w=.ok () w'/\Jz K.enc w' r (l++[(a,v)])/\Stp [r] w w':=by
 obtain ⟨es,clock,h1,h2,h3⟩:=hr;have hf:(Instr.findKey kt (K.enc a) es.toList).run P w=.ok none w:=by
  have hk:es.toList.map (·.key)=(l.map (·.1)).map K.enc:=by rw [h2,Yao];rfl
  rw [K.find a es.toList (l.map (·.1)) w hk,Zc4 (by simpa using hn)];rfl
 have hlt:r<w.heap.size:=(Xo.1 h1).1;refine ⟨{ w with heap:=w.heap.setIfInBounds r (.map (es.push { key:=K.enc a,val:=v,born:=clock }) (clock+1)) },?_,?_,?_⟩;simp [Instr.mapUpdate,run_underlying hm.h,MapKept.run_getObj_map h1,K.chk,hf,MapKept.run_setObj_map _ h1,Result.andThen];refine ⟨es.push { key:=K.enc a,val:=v,born:=clock },clock+1,by simp [hlt],?_,?_⟩;simp [h2];simp [h3];refine ⟨rfl,rfl,rfl,by simp,λb hb hn=>?_⟩;simp only [Xm] at hn;simp [YaU (λh=>hn h.symm)]
theorem Zz {mt kt et r:Nat} {κ:Type} [DecidableEq κ] {x y z:Operand} [hm:Und P mt (.map kt et)] [K:Z8T P kt κ] {l:List (κ×Value)} {a:κ} {v:Value} (hx:ev e x=some (.map (some r))) (hy:ev e y=some (K.enc a)) (hz:ev e z=some v) (hr:Jz K.enc w r l) (hn:∀ p∈l,¬ p.1=a) :
 OE P n ⟨d,.insert mt x y z,ty,pos,af,g⟩ e w (λ_ w'=>Jz K.enc w' r (l++[(a,v)])/\Stp [r] w w'):=by
 obtain ⟨w',h1,h2,h3⟩:=Z6B (mt:=mt) (v:=v) hr hn;exact Z4w (w':=w') (λc hc=>by simp [execOp,hc.ev hx,hc.ev hy,hc.ev hz,h1]) ⟨h2,h3⟩
theorem Z2i {mt kt et r:Nat} {κ:Type} [DecidableEq κ] {x y z:Operand} [hm:Und P mt (.map kt et)] [K:Z8T P kt κ] {l:List (κ×Value)} {a:κ} {v:Value} (hx:ev e x=some (.map (some r))) (hy:ev e y=some (K.enc a)) (hz:ev e z=some v) (hr:Jz K.enc w r l) (hn:∀ p∈l,¬ p.1=a) :
 OE P n ⟨d,.mapUpdate mt x y z,ty,pos,af,g⟩ e w (λ_ w'=>Jz K.enc w' r (l++[(a,v)])/\Stp [r] w w'):=by
 obtain ⟨w',h1,h2,h3⟩:=Z6B (mt:=mt) (v:=v) hr hn;exact Z4w (w':=w') (λc hc=>by simp [execOp,hc.ev hx,hc.ev hy,hc.ev hz,h1]) ⟨h2,h3⟩
theorem Z5n {mt kt et r:Nat} {κ:Type} [DecidableEq κ] {x y:Operand} {z:Value} [hm:Und P mt (.map kt et)] [K:Z8T P kt κ] [hz:Zer P et z] {l:List (κ×Value)} {a:κ} (hx:ev e x=some (.map (some r))) (hy:ev e y=some (K.enc a)) (hr:Jz K.enc w r l) :
 PR P n ⟨d,.lookup mt x y false,ty,pos,af,g⟩ e w (Z4h l a z):=by
 refine ⟨λc hc=>?_⟩;obtain ⟨es,clock,h1,h2,h3⟩:=hr;have hk:es.toList.map (·.key)=(l.map (·.1)).map K.enc:=by rw [h2,Yao];rfl
 have hf:=K.find a es.toList (l.map (·.1)) w hk;have ak:es.toList.length=l.length:=by have:=congrArg List.length h3;simpa using this
 have hv:∀ i:Nat,(es.toList[i]?).map (λx:MapEntry=>x.val)=(l[i]?).map (λx:κ×Value=>x.2):=λi=>by
  have:=congrArg (λx=>x[i]?) h3;simpa using this
 have lI:Z4h l a z=match (l.map (·.1)).findIdx? (λb=>decide (b=a)) with|some i=>((es.toList[i]?).map (λx:MapEntry=>x.val)).getD z|none=>z:=by
  unfold Z4h;rw [List.findIdx?_map];cases hi:l.findIdx? ((λb=>decide (b=a)) ∘ λx=>x.1) with
  | none=>
    have:l.find? (λp=>decide (p.1=a))=none:=by
     rw [YaO];intro p hp;have:=(Yaf.1 hi) p hp;simpa using this
    rw [this]
  | some i=>
    obtain ⟨hlt,hp,hb⟩:=X9.1 hi;have:l.find? (λp=>decide (p.1=a))=some l[i]:=by
     rw [List.find?_eq_some_iff_getElem];exact ⟨by simpa using hp,i,hlt,rfl,λj hj=>by simpa using hb j hj⟩
    rw [this];simp only [hv,XR hlt,YaT,YaC]
 rw [lI];simp only [execOp,hc.ev hx,hc.ev hy];cases hi:(l.map (·.1)).findIdx? (λb=>decide (b=a)) with
 | none=>
   rw [hi] at hf;simp [Instr.lookup,run_underlying hm.h,MapKept.run_getObj_map h1,K.chk,hf,Result.andThen,Zer.run]
 | some i=>
   obtain ⟨hlt,_⟩:=X9.1 hi;have d6:i<es.toList.length:=by rw [ak];simpa using hlt
   rw [hi] at hf;simp only [XY,XR d6,YaT] at hf;simp [Instr.lookup,run_underlying hm.h,MapKept.run_getObj_map h1,K.chk,hf,Result.andThen,XR d6]
end
end Go.Eng
namespace Go.Proofs.YtgdicjnjhchooaaGreatDoor
open Go Go.Eng Go.RowKit
def idx {α:Type} (p:α->Bool) (xs:List α):Int:=match xs.findIdx? p with|some i=>(i:Int)|none=>-1
theorem Z5o {α:Type} {p:α->Bool} {xs:List α} {k:Nat} (hk:k<xs.length) (hp:p xs[k]=true) (hb:∀ j (h:j<xs.length),j<k->p xs[j]=false):idx p xs=k:=by
 have:xs.findIdx? p=some k:=X9.2 ⟨hk,hp,λj hj=>by simp [hb j (by omega) hj]⟩;simp [idx,this]
theorem Z3e {α:Type} {p:α->Bool} {xs:List α} (hb:∀ j (h:j<xs.length),p xs[j]=false):idx p xs=-1:=by
 have:xs.findIdx? p=none:=by
  rw [Yaf];intro x hx;obtain ⟨j,hj,rfl⟩:=XB hx;simp [hb j hj]
 simp [idx,this]
abbrev isS (a:Str):Str->Bool:=λx=>decide (x=a)
theorem Zr0 (X:List Nat) (v:Value) (l:List Str) (a:Str) (w) (hs:SlV X w v l):CC 307 #[v,str a] w λr w'=>r=.I (idx (isS a) l)/\Stp [] w w':=by
 have bh:=hs.max;refine cW2 19 Tryz.func307 ?_;refine W ?_;refine LP (σ:=Nat) (λk=>[(0,v),(1,str a),(8,.I k),(7,.I (l.length:Int))]) (λk w'=>k<=l.length/\Stp [] w w'/\∀ j (h:j<l.length),j<k->isS a l[j]=false) (λk=>l.length - k) 0 ⟨Xr _,Stp.refl _ _,λj _ h=>absurd h (XF _)⟩ ?_;have bQ:=hs;clear hs;rintro k w1 ⟨hk,hS,bg⟩;have hs:=bQ.up hS;by_cases hlt:k<l.length
 (refine QP ?_ ?_<;>intro hc)
 refine WR ?_;have ix:isS a l[k]=true:=by simpa [isS,eq_comm] using hc
 exact .mk ⟨by rw [Z5o hlt ix bg],hS⟩;refine QL (k+1) ⟨hlt,hS,λj h hj=>?_⟩ (by omega);by_cases e:j=k;subst e;simpa [isS,eq_comm] using hc;exact bg j h (by omega);have eM:k=l.length:=by omega
 subst eM;refine RT ?_;exact ⟨by rw [Z3e (λj h=>bg j h h)],hS⟩
theorem JR (X:List Nat) (v:Value) (l:List Str) (a:Str) (w) (hs:SlV X w v l):CC 162 #[v,str a] w λr w'=>r=.I (idx (isS a) l)/\Stp [] w w':=by
 have bh:=hs.max;refine cW2 19 Tryz.func162 ?_;refine W ?_;refine LP (σ:=Nat) (λk=>[(0,v),(1,str a),(5,.I k)]) (λk w'=>k<=l.length/\Stp [] w w'/\∀ j (h:j<l.length),j<k->isS a l[j]=false) (λk=>l.length - k) 0 ⟨Xr _,Stp.refl _ _,λj _ h=>absurd h (XF _)⟩ ?_;have bQ:=hs;clear hs;rintro k w1 ⟨hk,hS,bg⟩;have hs:=bQ.up hS;by_cases hlt:k<l.length
 (refine QP ?_ ?_<;>intro hc)
 refine WR ?_;have ix:isS a l[k]=true:=by simpa [isS,eq_comm] using hc
 exact .mk ⟨by rw [Z5o hlt ix bg],hS⟩;refine QL (k+1) ⟨hlt,hS,λj h hj=>?_⟩ (by omega);by_cases e:j=k;subst e;simpa [isS,eq_comm] using hc;exact bg j h (by omega);have eM:k=l.length:=by omega
 subst eM;refine RT ?_;exact ⟨by rw [Z3e (λj h=>bg j h h)],hS⟩
theorem Z3f (X:List Nat) (v:Value) (l:List Str) (a:Str) (w) (hs:SlV X w v l):CC 228 #[v,str a] w λr w'=>r=.I (idx (isS a) l)/\Stp [] w w':=by
 have bh:=hs.max;refine cW2 19 Tryz.func228 ?_;refine W ?_;refine LP (σ:=Nat) (λk=>[(0,v),(1,str a),(5,.I k)]) (λk w'=>k<=l.length/\Stp [] w w'/\∀ j (h:j<l.length),j<k->isS a l[j]=false) (λk=>l.length - k) 0 ⟨Xr _,Stp.refl _ _,λj _ h=>absurd h (XF _)⟩ ?_;have bQ:=hs;clear hs;rintro k w1 ⟨hk,hS,bg⟩;have hs:=bQ.up hS;by_cases hlt:k<l.length
 (refine QP ?_ ?_<;>intro hc)
 refine WR ?_;have ix:isS a l[k]=true:=by simpa [isS,eq_comm] using hc
 exact .mk ⟨by rw [Z5o hlt ix bg],hS⟩;refine QL (k+1) ⟨hlt,hS,λj h hj=>?_⟩ (by omega);by_cases e:j=k;subst e;simpa [isS,eq_comm] using hc;exact bg j h (by omega);have eM:k=l.length:=by omega
 subst eM;refine RT ?_;exact ⟨by rw [Z3e (λj h=>bg j h h)],hS⟩
def Zj:List Str:=[[100,97,121],[115,101,114,118,101,100],[101,120,116,114,97],[98,121],[116,111],[99,111,117,114,116],[97,109,111,117,110,116]]
abbrev Zag:Value:=.slice (some ⟨0,0,none⟩) 7 7
def ZK (a:Str):Int×Int×Bool:=
 let i:=idx (isS a) Zj
 if i<0 then (0,0,false) else if i<=1 then (i,3,true) else (i,1,true)
abbrev ZuR (x:Int×Int×Bool):Value:=.tuple #[.I x.1,.I x.2.1,.B x.2.2]
def wst (s:Str):Nat->List Str×Nat
 | 0=>([],0)
 | k+1=>if k=s.length\/Z1Y s k=32 then ((wst s k).1++[(s.take k).drop (wst s k).2],k+1) else wst s k
def Z1p (s:Str):List Str:=(wst s (s.length+1)).1
theorem Zh1 (s:Str):∀ k,(wst s k).2<=k/\(wst s k).1.length<=k
 | 0=>by simp [wst]
 | k + 1 => by
   have:=Zh1 s k;simp only [wst];split;simp;omega;omega
theorem Zh2 (a:Str) (w):(Instr.buildSlice 138 1 #[(0,str a)]).run Tryz.prog w=.ok (.slice (some ⟨w.heap.size,0,none⟩) 1 1) (w.alloc (.cells #[str a] 9)):=by kernel_rfl
theorem Z0A (X:List Nat) (s:Str) (w:World) (hX:∀ b∈X,b<w.heap.size) (hl:s.length<=1000) :
 CC 222 #[str s] w λr w'=>Row X w' w.heap.size 9 r (Z1p s)/\Stp [] w w':=by
 refine cW1 32 Tryz.func222 ?_;refine W ?_;refine LP (σ:=Nat×Value) (λq=>[(0,str s),(3,q.2),(4,.I ((wst s q.1).2:Int)),(5,.I (q.1:Int))]) (λq w'=>q.1<=s.length+1/\Row X w' w.heap.size 9 q.2 (wst s q.1).1/\Stp [] w w') (λq=>s.length+1 - q.1) (0,.N) ⟨by simp,Row.nil,Stp.refl _ _⟩ ?_;rintro ⟨k,v⟩ w1 ⟨hk,ac,hS⟩;dsimp only at hk ac ⊢;obtain ⟨kO,jF⟩:=Zh1 s k;by_cases hlt:k<=s.length
 . have nxt:wst s (k+1)=if k=s.length\/Z1Y s k=32 then ((wst s k).1++[(s.take k).drop (wst s k).2],k+1) else wst s k:=rfl
   have aV:=hS.size;repeat'(first|refine W1 ?_|omega|refine VG ?_ ?_<;>intro hg|refine VC ?_ ?_<;>intro hc)
   rotate_right
   have bg:¬ (k=s.length\/Z1Y s k=32):=by rintro (h|h)<;>omega
   rw [if_neg bg] at nxt;refine Zd (k+1,v) ⟨rfl,rfl,by rw [nxt];rfl,rfl,trivial⟩ ⟨by dsimp only;omega,by dsimp only;rw [nxt];exact ac,hS⟩ (by dsimp only;omega)
   all_goals
    have oy:k=s.length\/Z1Y s k=32:=by omega
    rw [if_pos oy] at nxt;apply Z9 (Z2D rfl rfl rfl rfl rfl (by omega) (by omega)) rfl;refine Z0 (Z1 (vs:=[(0,str _)]) rfl (Zh2 _)) rfl ?_;rintro bv w2 hN;have aH:=hN.choose_spec.2.2.2;have aI:SlV (ob v++X) w2 bv [(s.take k).drop (wst s k).2]:=hN.slv (λb hb=>(Xd.1 hb).elim (λh=>(ac.ob_le b h).2) (λh=>Xv (hX b h) aV)) rfl rfl (by simp [maxLen]);clear hN;replace ac:=ac.up aH;replace hS:=hS.trans aH;have aV:=hS.size;refine Z0 (ZC (X:=X) (base:=w.heap.size) rfl (by decide) rfl rfl ac aI (by simp only [Xe,Xi];omega) (by simp only [Xe,Xi,maxLen];omega) aV) rfl ?_;rintro v' w3 ⟨aN,be,_⟩;refine W ?_;refine Zd (k+1,v') ⟨rfl,rfl,by rw [nxt];rfl,rfl,trivial⟩ ⟨by dsimp only;omega,by dsimp only;rw [nxt];exact aN,hS.own be (λb hb=>.inr (ac.ob_le b hb).1)⟩ (by dsimp only;omega)
 have eM:k=s.length+1:=by omega
 subst eM;refine RT ?_;exact ⟨ac,hS⟩
theorem _root_.Go.Eng.Row.slv0 {α:Type} [Z6 α] {w} {base T:Nat} {v:Value} {xs:List α} (h:Row [] w base T v xs):SlV [] w v xs:=h.slv (by simp)
theorem Z8U:Z1p [100,97,121,32,115,101,114,118,101,100,32,101,120,116,114,97,32,98,121,32,116,111,32,99,111,117,114,116,32,97,109,111,117,110,116]=Zj:=by decide
theorem Zc5 (X:List Nat) (w:World) (hX:∀ b∈X,b<w.heap.size):CC 284 #[] w λr w'=>Row X w' w.heap.size 9 r Zj/\Stp [] w w':=by
 refine cW0 2 Tryz.func284 ?_;refine W ?_;refine CM (ZS rfl) (Z0A X [100,97,121,32,115,101,114,118,101,100,32,101,120,116,114,97,32,98,121,32,116,111,32,99,111,117,114,116,32,97,109,111,117,110,116] _ hX (by decide)) ?_;rintro v w1 ⟨hr,hS⟩;rw [Z8U] at hr;refine RT ?_;exact ⟨hr,hS⟩
theorem Z5Q (a:Str) (w):CC 227 #[str a] w λr w'=>r=ZuR (ZK a)/\Stp [] w w':=by
 refine cW1 15 Tryz.func227 ?_;refine W ?_;refine CM Z7F (Zc5 [] _ (by simp)) ?_;rintro v w1 ⟨hr,hS⟩;refine W ?_;refine CM (Zg rfl rfl) (JR [] _ _ a _ (hr.slv (by simp))) ?_;rintro _ w2 ⟨rfl,aj⟩;replace hS:=hS.trans aj;unfold ZK;generalize idx (isS a) Zj=i;repeat'(first|refine W1 ?_|refine VG ?_ ?_<;>intro hg|refine VC ?_ ?_<;>intro hc)
 all_goals (refine WR ?_)
 exact .mk ⟨by simp only [if_pos hc],hS⟩;rename_i h1;exact .mk ⟨by simp only [if_neg h1,if_pos hc],hS⟩;rename_i h1;exact .mk ⟨by simp only [if_neg h1,if_neg hc],hS⟩
def Z1K (k n:Int) (s:Str):Int:=
 if k=4 then (if n=0 then (ZK s).2.1 else 0) else if ¬ s=[] then 0
 else if k=1 then (if 0<=n/\n<=2147483647 then 1 else 0) else if k=2 then (if 0<=n/\n<=1 then 2 else 0) else if k=3 then (if 0<=n/\n<=3652058 then 3 else 0) else 0
theorem Z5p {a:Str} (h:(ZK a).2.2=false):(ZK a).2.1=0:=by
 unfold ZK at h ⊢;dsimp only at h ⊢;split<;>rename_i h1
 rfl;rw [if_neg h1] at h;split at h<;>simp at h
theorem Zc6 (X:List Nat) (v:Value) (x:Nd) (w) (hx:NdV X w v x) :
 CC 223 #[v] w λr w'=>r=.I (Z1K x.kind x.num x.word)/\Stp [] w w':=by
 obtain ⟨kv,rfl,hs⟩:=hx;refine cW1 69 Tryz.func223 ?_;refine W ?_;refine Z0 (Zp rfl) rfl ?_;rintro _ w1 ⟨b,rfl,hb,ab,hS⟩;replace ab:Blk w1 b _ (ndC x kv):=ab;repeat'(first|refine W1 ?_|omega|refine VG ?_ ?_<;>intro hg|refine VC ?_ ?_<;>intro hc)
 . refine CL (Z5Q x.word _) ?_
   rintro _ w2 ⟨rfl,aj⟩;have bg:=@Z5p x.word;have hk:x.kind=4:=hc;generalize fT:ZK x.word=fd at *;obtain ⟨f1,f2,f3⟩:=fd;replace ab:=ab.up aj;replace hS:=hS.trans aj;cases f3 with
   | true=>
     (refine QP ?_ ?_<;>intro hc)
     all_goals (refine WR ?_)
     refine .mk ⟨?_,hS⟩;simp only [Z1K,if_pos hk];rw [if_neg (by assumption)];refine .mk ⟨?_,hS⟩;simp only [Z1K,if_pos hk];rw [if_pos (by omega),fT];rfl
   | false=>
     have h0:=bg rfl;dsimp only at h0;subst h0;refine QO ?_;all_goals (refine WR ?_)
     refine .mk ⟨?_,hS⟩;simp only [Z1K,if_pos hk];split;rw [fT];rfl
 all_goals (refine WR ?_)
 all_goals
  refine .mk ⟨?_,hS⟩;simp only [Z1K];repeat' split
  all_goals first|rfl|omega|(exfalso;simp_all;done)|(exfalso;simp_all;omega)
def JW (l want:List Int):Bool:=decide (l=want/\∀ x∈l,x≠0)
theorem Z1q (X Y:List Nat) (u v:Value) (l m:List Int) (w) (hl:SlV X w u l) (hm:SlV Y w v m) :
 CC 224 #[u,v] w λr w'=>r=.B (JW l m)/\Stp [] w w':=by
 have bh:=hl.max;have rg:=hm.max;refine cW2 33 Tryz.func224 ?_
 (refine QP ?_ ?_<;>intro hc)
 refine WR ?_;refine .mk ⟨?_,Stp.refl _ _⟩;congr 1;symm;refine decide_eq_false (λh=>?_);have:=congrArg List.length h.1;omega;have ak:l.length=m.length:=by omega
 have cn:=hl;have rh:=hm;refine LP (σ:=Nat) (λk=>[(0,u),(1,v),(5,.I k)]) (λk w'=>k<=l.length/\Stp [] w w'/\∀ j (h:j<l.length) (h':j<m.length),j<k->l[j]=m[j]/\l[j]≠0) (λk=>l.length - k) 0 ⟨Xr _,Stp.refl _ _,λj _ _ h=>absurd h (XF _)⟩ ?_;clear hl hm;rintro k w1 ⟨hk,hS,aP⟩;have hl:=cn.up hS;have hm:=rh.up hS;by_cases hlt:k<l.length
 . have gk:k<m.length:=by omega
   refine QO ?_;refine ZDr 16 [] [] [(0,0),(1,0),(2,0),(3,1),(4,0),(5,0),(6,0),(7,1),(8,0),(9,0),(10,0),(11,0),(12,0),(13,1),(14,0),(15,0)] (λw1 ae=>?_);replace hl:=hl.up ae;replace hm:=hm.up ae;replace hS:=hS.trans ae
   (refine QE ?_ ?_<;>intro hg)
   all_goals (repeat'(first|refine W1 ?_|omega|refine VG ?_ ?_<;>intro hg|refine VC ?_ ?_<;>intro hc))
   all_goals first
    | (refine QL (k + 1) ⟨hlt, hS, λj h h' hj => ?_⟩ (by omega)
       by_cases e:j=k;subst e;omega;exact aP j h h' (by omega))
    | (refine WR ?_)
   all_goals
    refine .mk ⟨?_,hS⟩;congr 1;symm;refine decide_eq_false (λh=>?_);obtain ⟨rfl,h2⟩:=h;have:=h2 _ (Xb hlt);omega
 refine QO ?_;refine WR ?_;refine .mk ⟨?_,hS⟩;congr 1;symm;refine decide_eq_true ⟨YaY ak (λj h h'=>(aP j h h' (by omega)).1),λx hx=>?_⟩;obtain ⟨j,hj,rfl⟩:=XB hx;exact (aP j hj (by omega) (by omega)).2
theorem Jj (a:Int) (w):(Instr.buildSlice 22 1 #[(0,.I a)]).run Tryz.prog w=.ok (.slice (some ⟨w.heap.size,0,none⟩) 1 1) (w.alloc (.cells #[.I a] 3)):=by kernel_rfl
theorem Z0H (a b:Int) (w):(Instr.buildSlice 22 2 #[(0,.I a),(1,.I b)]).run Tryz.prog w=.ok (.slice (some ⟨w.heap.size,0,none⟩) 2 2) (w.alloc (.cells #[.I a,.I b] 3)):=by kernel_rfl
theorem Zh3 (a b c:Int) (w):(Instr.buildSlice 22 3 #[(0,.I a),(1,.I b),(2,.I c)]).run Tryz.prog w=.ok (.slice (some ⟨w.heap.size,0,none⟩) 3 3) (w.alloc (.cells #[.I a,.I b,.I c] 3)):=by kernel_rfl
theorem Za.stp {w w':World} {T len:Nat} {cs:List Value} {v:Value} (h:Za w T len cs v w'):Stp [] w w':=h.choose_spec.2.2.2
def Z0U:List Str:=[[43],[45],[42]]
def Z2G:List Str:=[[60],[60,61],[61],[33,61],[62],[62,61]]
def Z0I:List Str:=[[97,110,100],[111,114]]
theorem Zc7:Z1p [43,32,45,32,42]=Z0U:=by decide
theorem Zc8:Z1p [60,32,60,61,32,61,32,33,61,32,62,32,62,61]=Z2G:=by decide
theorem Zc9:Z1p [97,110,100,32,111,114]=Z0I:=by decide
def Z8V (s:Str) (l:List Int):Int:=
 if 0<=idx (isS s) Z0U/\JW l [1,1]=true then 1 else if 0<=idx (isS s) Z2G/\(JW l [1,1]=true\/JW l [3,3]=true) then 2 else if 0<=idx (isS s) Z0I/\JW l [2,2]=true then 2 else 0
theorem Z8W (X:List Nat) (s:Str) (u:Value) (l:List Int) (w) (hl:SlV X w u l) :
 CC 225 #[str s,u] w λr w'=>r=.I (Z8V s l)/\Stp [] w w':=by
 refine cW2 42 Tryz.func225 ?_;refine W ?_;refine Z0 (Z1 (vs:=[(0,.I 1),(1,.I 1)]) rfl (Z0H _ _)) rfl ?_;rintro a1 w1 hN;have ha:=hN.slv (X:=[]) (ys:=[(1:Int),1]) (by simp) rfl rfl (by simp [maxLen]);have hS:=Za.stp hN;clear hN;replace hl:=hl.up hS;refine CL (Z1q _ _ _ _ _ _ _ hl ha) ?_;rintro _ w2 ⟨rfl,aj⟩;replace hl:=hl.up aj;replace hS:=hS.trans aj;refine W ?_;refine Z0 (Z1 (vs:=[(0,.I 3),(1,.I 3)]) rfl (Z0H _ _)) rfl ?_;rintro a3 w3 hN;have ha:=hN.slv (X:=[]) (ys:=[(3:Int),3]) (by simp) rfl rfl (by simp [maxLen]);have aF:=Za.stp hN;clear hN;replace hl:=hl.up aF;replace hS:=hS.trans aF;refine CL (Z1q _ _ _ _ _ _ _ hl ha) ?_;rintro _ w4 ⟨rfl,aU⟩;replace hl:=hl.up aU;replace hS:=hS.trans aU;clear ha;unfold Z8V;generalize JW l [1,1]=p1;generalize JW l [3,3]=p3;refine W ?_;refine CM (ZS rfl) (Z0A [] [43,32,45,32,42] _ (by simp) (by decide)) ?_;rintro _ w5 ⟨hr,aD⟩;rw [Zc7] at hr;replace hl:=hl.up aD;replace hS:=hS.trans aD;refine W ?_;refine CL (JR [] _ _ s _ hr.slv0) ?_;rintro _ w6 ⟨rfl,cz⟩;replace hl:=hl.up cz;replace hS:=hS.trans cz;generalize idx (isS s) Z0U=i1;clear hr;cases p1<;>cases p3<;>by_cases hi:0<=i1;all_goals (refine QO ?_)
 all_goals first
  | (refine CM (ZS rfl) (Z0A [] [60, 32, 60, 61, 32, 61, 32, 33, 61, 32, 62, 32, 62, 61] _ (by simp) (by decide)) ?_
     rintro _ w7 ⟨hr,aW⟩;rw [Zc8] at hr;replace hl:=hl.up aW;replace hS:=hS.trans aW;refine W ?_;refine CL (JR [] _ _ s _ hr.slv0) ?_;rintro _ w8 ⟨rfl,cP⟩;replace hl:=hl.up cP;replace hS:=hS.trans cP;generalize idx (isS s) Z2G=i2;clear hr;by_cases cy:0<=i2)
  | (refine RU ?_
     exact ⟨by simp [hi],hS⟩)
 all_goals (refine QO ?_)
 all_goals first
  | (refine CM (ZS rfl) (Z0A [] [97, 110, 100, 32, 111, 114] _ (by simp) (by decide)) ?_
     rintro _ w9 ⟨hr,fU⟩;rw [Zc9] at hr;replace hl:=hl.up fU;replace hS:=hS.trans fU;refine W ?_;refine CL (JR [] _ _ s _ hr.slv0) ?_;rintro _ w10 ⟨rfl,dy⟩;replace hl:=hl.up dy;replace hS:=hS.trans dy;generalize idx (isS s) Z0I=i3;clear hr;by_cases gR:0<=i3)
  | (refine RU ?_
     exact ⟨by simp [hi,cy],hS⟩)
 all_goals (refine QO ?_)
 all_goals first
  | (refine Z0 (Z1 (vs := [(0, .I 2), (1, .I 2)]) rfl (Z0H _ _)) rfl ?_
     rintro a2 w11 hN;have ha:=hN.slv (X:=[]) (ys:=[(2:Int),2]) (by simp) rfl rfl (by simp [maxLen]);have lJ:=Za.stp hN;clear hN;replace hl:=hl.up lJ;replace hS:=hS.trans lJ;refine W ?_;refine CL (Z1q _ _ _ _ _ _ _ hl ha) ?_;rintro _ w12 ⟨rfl,iy⟩;replace hS:=hS.trans iy;generalize JW l [2,2]=p2;cases p2)
  | (refine RU ?_
     exact ⟨by simp [hi,cy,gR],hS⟩)
 all_goals (refine W ?_)
 all_goals (refine WR ?_)
 all_goals exact .mk ⟨by simp [hi,cy,gR],hS⟩
structure Sig where
 kind:Int
 s:Str
 a:Int
 b:Int
 c:Int
 deriving DecidableEq
abbrev Z4B (x:Sig):Value:=.agg #[.I x.kind,str x.s,.I x.a,.I x.b,.I x.c]
theorem ZpZ (x y:Sig) (w):(Op.equal 349 (Z4B x) (Z4B y)).run Tryz.prog w=.ok (decide (x=y)) w:=by
 have h1:Program.stoodInHeld Tryz.prog 349=false:=by kernel_rfl
 obtain ⟨i,hi⟩:∃ i,Tryz.prog.info? 3=some i:=by
  have:=(inferInstance:Siz Tryz.prog 3 1).h;cases h:Tryz.prog.info? 3 with
  | none=>rw [h] at this;cases this
  | some i=>exact ⟨i,rfl⟩
 have hc:Tryz.prog.cellsOf 3=1:=by kernel_rfl
 obtain ⟨k,s,a,b,c⟩:=x;obtain ⟨k',s',a',b',c'⟩:=y;simp [Z4B,Op.equal,Op.maxDepth,run_equalIn_struct,h1,Program.fieldsOf,Tryz.underlying349,Op.eqFields,part,Und.isAgg,Siz.run,Z06,run_equalIn_int w _ _ .i64 .i64 _ _ Tryz.underlying3,run_equalIn_string w _ _ _ _ Tryz.underlying9,run_equalIn_array w _ _ _ Tryz.underlying344 hi,hc,Op.eqItems,List.range_succ_eq_map];repeat' split
 all_goals simp_all
theorem ZkT (em:Bool) (x:Sig) (w):(Instr.checkKey em 10000 349 (Z4B x)).run Tryz.prog w=.ok () w:=by kernel_rfl
instance:Z8T Tryz.prog 349 Sig where
 enc:=Z4B
 chk:=ZkT
 find:=λa es l w hk=>by
  have h2:=run_findKey_eq (P:=Tryz.prog) (k:=349) w (by kernel_rfl) (Z4B a) es;have h3:=Z28 Z4B ZpZ a w es l 0 hk;simp only [XJ] at h3;exact h2.trans h3
abbrev Zev (a b c:Int):Value:=.agg #[.I a,.I b,.I c]
theorem ZkU (a:Int) (w):(Instr.build 344 #[(0,.I a)]).run Tryz.prog w=.ok (Zev a 0 0) w:=by kernel_rfl
theorem Z8X (a b:Int) (w):(Instr.build 344 #[(0,.I a),(1,.I b)]).run Tryz.prog w=.ok (Zev a b 0) w:=by kernel_rfl
theorem Z8Y (k a b c:Int) (s:Str) (w):(Instr.build 349 #[(0,.I k),(1,str s),(2,Zev a b c)]).run Tryz.prog w=.ok (Z4B ⟨k,s,a,b,c⟩) w:=by kernel_rfl
theorem Zah (a b c d:Str) (w):(Instr.buildSlice 138 4 #[(0,str a),(1,str b),(2,str c),(3,str d)]).run Tryz.prog w=.ok (.slice (some ⟨w.heap.size,0,none⟩) 4 4) (w.alloc (.cells #[str a,str b,str c,str d] 9)):=by kernel_rfl
abbrev Zew:=Sig×Value
def ent:Nat->Zew
 | 5=>(⟨5,[45],1,0,0⟩,.I 1)
 | 10=>(⟨5,[110,111,116],2,0,0⟩,.I 2)
 | 15=>(⟨10,[110,101,120,116],3,0,0⟩,.I 3)
 | 20=>(⟨10,[112,114,101,118],3,0,0⟩,.I 3)
 | 26=>(⟨10,[108,97,116,101,114],3,3,0⟩,.I 3)
 | 32=>(⟨10,[101,97,114,108,105,101,114],3,3,0⟩,.I 3)
 | _=>(⟨10,[98,101,116,119,101,101,110],3,3,0⟩,.I 1)
def Z8Z:List Nat:=[5,10,15,20,26,32,38]
def ZO:List Str:=[[100,97,121,115],[119,101,101,107,115],[109,111,110,116,104,115],[99,111,117,114,116,100,97,121,115]]
def Z1L (u:Str):List Zew:=[(⟨7,u,3,1,0⟩,.I 3),(⟨8,u,3,1,0⟩,.I 3)]
def Z34:List Zew:=Z8Z.map ent++ZO.flatMap Z1L
theorem Z6c (w):CC 310 #[] w λr w'=>∃ (m:Nat) (l:List Zew),r=.map (some m)/\Jz Z4B w' m l/\l.Perm Z34/\Stp [] w w'/\w.heap.size<=m:=by
 refine cW0 62 Tryz.func310 ?_;refine W ?_;refine ZDr 41 [] [5,10,15,20,26,32,38] [(1,0),(2,0),(3,0),(4,0),(6,0),(7,0),(8,0),(9,0),(11,0),(12,0),(13,0),(14,0),(16,0),(17,0),(18,0),(19,0),(21,0),(22,0),(23,0),(24,0),(25,0),(27,0),(28,0),(29,0),(30,0),(31,0),(33,0),(34,0),(35,0),(36,0),(37,0),(0,2),(5,279241165504),(39,0),(40,0)] (λw1 ae=>?_);repeat'(first|refine D1 ?_|(apply Z1I;exact rfl;first|(apply Z1J (vs:=[(0,.I _)]);exact trivial;exact rfl;exact ZkU _;exact rfl)|(apply Z1J (vs:=[(0,.I _),(1,.I _)]);exact trivial;exact rfl;exact Z8X _ _;exact rfl)|(apply Z1J (vs:=[(0,.I _),(1,str _),(2,Zev _ _ _)]);exact trivial;exact rfl;exact Z8Y _ _ _ _ _;exact rfl)))
 refine Z7 rfl trivial (Z4j Z4B) (λ_ _ h=>h.choose_spec.2.2.2) rfl ?_;rintro _ w2 ⟨m,rfl,hm,aw,aj⟩;have kO:=ae.size;refine ZpV Z8Z (λrem w'=>∃ l,Jz Z4B w' m l/\(l++rem.map ent).Perm (Z8Z.map ent)/\Stp [m] w2 w') rfl (by decide) (by decide) ⟨[],aw,by simp,Stp.refl _ _⟩ ?_ ?_
 . rintro rem j w' oz hj ⟨l,hl,hp,hS⟩
   have je:((l++rem.map ent).map (·.1)).Nodup:=(hp.map (·.1)).nodup_iff.2 (by decide);have hfresh:∀ p∈l,¬ p.1=(ent j).1:=by
    intro p hp e;rw [XL,Ybq] at je;exact je.2.2 p.1 (YaJ hp) (ent j).1 (by rw [Yao];exact XK.2 ⟨j,hj,rfl⟩) e
   have gen:∀ w'',Jz Z4B w'' m (l++[ent j])->Stp [m] w' w''->∃ l,Jz Z4B w'' m l/\(l++(rem.erase j).map ent).Perm (Z8Z.map ent)/\Stp [m] w2 w'':=by
    intro w'' h1 h2;refine ⟨_,h1,?_,hS.trans h2⟩;refine List.Perm.trans ?_ hp;rw [XC];exact List.Perm.append_left l (((List.perm_cons_erase hj).map ent).symm)
   have lK:=oz.subset hj;simp only [Z8Z,Xc,Xn,or_false] at lK;rcases lK with rfl|rfl|rfl|rfl|rfl|rfl|rfl
   all_goals exact ⟨_,rfl,rfl,trivial,(Zz (v:=.I _) rfl rfl rfl hl hfresh).mono (λ_ w'' ⟨h1,h2⟩=>⟨.inr rfl,gen w'' h1 h2⟩)⟩
 rintro w3 ⟨l,hl,hp,aF⟩;rw [Yap,Xz] at hp;have hS:Stp [] w w3:=(ae.trans aj).ow aF;have s8:w.heap.size<=m:=by omega
 clear aw aj aF;repeat'(first|refine D1 ?_|refine Zl rfl rfl rfl rfl (λhg=>?_) (λhg=>?_)|(refine Zh rfl rfl rfl rfl (λhg=>?_) (λhg=>?_)<;>refine D1 ?_)|fail)
 refine W ?_;refine Z0 (Z1 (vs:=[(0,str [100,97,121,115]),(1,str [119,101,101,107,115]),(2,str [109,111,110,116,104,115]),(3,str [99,111,117,114,116,100,97,121,115])]) rfl (Zah _ _ _ _)) rfl ?_;rintro uv w4 hN;have hu:SlV [m] w4 uv ZO:=hN.slv (λb hb=>by simp at hb;subst hb;exact hl.lt) rfl rfl (by simp [ZO,maxLen]);have aU:=Za.stp hN;clear hN;replace hl:=hl.up aU;replace hS:=hS.trans aU;have lL:∀ p∈l,p.1.kind=5\/p.1.kind=10:=λp fw=>by
  have ri:=hp.mem_iff.1 fw;simp only [Z8Z,XE,Yap,Xc,Xn,or_false] at ri;rcases ri with rfl|rfl|rfl|rfl|rfl|rfl|rfl<;>decide
 have lM:∀ k (h:k<ZO.length),∀ p∈(ZO.take k).flatMap Z1L,¬ p.1.s=ZO[k]:=by
  intro k h
  match k,h with
  | 0,_=>(show ∀ p∈(ZO.take 0).flatMap Z1L,¬ p.1.s=ZO[0]'(by decide));decide
  | 1,_=>(show ∀ p∈(ZO.take 1).flatMap Z1L,¬ p.1.s=ZO[1]'(by decide));decide
  | 2,_=>(show ∀ p∈(ZO.take 2).flatMap Z1L,¬ p.1.s=ZO[2]'(by decide));decide
  | 3,_=>(show ∀ p∈(ZO.take 3).flatMap Z1L,¬ p.1.s=ZO[3]'(by decide));decide
 refine W ?_;refine LP (σ:=Nat) (λk=>[(1,.I 1),(3,.I 3),(4,.map (some m)),(40,uv),(41,.I 4),(42,.I k)]) (λk w'=>k<=4/\Jz Z4B w' m (l++(ZO.take k).flatMap Z1L)/\Stp [m] w4 w') (λk=>4 - k) 0 ⟨by omega,by simpa using hl,Stp.refl _ _⟩ ?_;rintro k w5 ⟨hk,ay,aD⟩;have wI:SlV [m] w5 uv ZO:=hu.ext aD (by simp) (λb hb=>.inl hb);by_cases hlt:k<4;have gk:k<ZO.length:=hlt;have jf:∀ (t:Int),¬ t=5->¬ t=10->∀ p∈l++(ZO.take k).flatMap Z1L,¬ p.1=⟨t,ZO[k],3,1,0⟩:=by
  intro t h5 gt p oA e;rcases Xd.1 oA with h|h
  have:=lL p h;rw [e] at this;rcases this with h|h
  exact h5 h;exact gt h;exact lM k gk p h (by rw [e])
 refine QO ?_;apply Z5 (vs:=[(0,.I 3),(1,.I 1)]) rfl (Z8X _ _) rfl;apply Z5 (vs:=[(0,.I 7),(1,str _),(2,Zev _ _ _)]) rfl (Z8Y _ _ _ _ _) rfl;refine W ?_;refine Z8 (Z2i (a:=(⟨7,ZO[k],3,1,0⟩:Sig)) (v:=.I 3) rfl rfl rfl ay (jf 7 (by decide) (by decide))) ?_;rintro _ w6 ⟨s9,cz⟩;refine W ?_;apply Z5 (vs:=[(0,.I 3),(1,.I 1)]) rfl (Z8X _ _) rfl;apply Z5 (vs:=[(0,.I 8),(1,str _),(2,Zev _ _ _)]) rfl (Z8Y _ _ _ _ _) rfl;refine W ?_;refine Z8 (Z2i (a:=(⟨8,ZO[k],3,1,0⟩:Sig)) (v:=.I 3) rfl rfl rfl s9 (λp oA e=>by
  rcases Xd.1 oA with h|h
  exact jf 8 (by decide) (by decide) p h e;simp only [Xm] at h;subst h;simp at e)) ?_
 rintro _ w7 ⟨tf,aW⟩;refine W ?_;refine QL (k+1) ⟨by omega,?_,(aD.trans cz).trans aW⟩ (by omega);rw [Xg gk,YaV];have e:l++((ZO.take k).flatMap Z1L++[ZO[k]].flatMap Z1L)=(l++(ZO.take k).flatMap Z1L++[((⟨7,ZO[k],3,1,0⟩:Sig),Value.int .i64 3)])++[((⟨8,ZO[k],3,1,0⟩:Sig),Value.int .i64 3)]:=by simp [Z1L]
 rw [e];exact tf;have eM:k=4:=by omega
 subst eM;refine RT ?_;exact ⟨m,_,rfl,ay,hp.append_right _,hS.ow aD,s8⟩
def Zh4 (x:Sig):Value:=Z4h Z34 x (.I 0)
def Z4k (s:Str) (a b:Int):Int:=
 if s∈Z0U then (if a=b/\a=1 then 1 else 0) else if s∈Z2G then (if a=b/\¬ a=2 then 2 else 0) else if s∈Z0I then (if a=b/\a=2 then 2 else 0) else 0
theorem _root_.Go.Eng.SlV.on {α:Type} [Z6 α] {X S:List Nat} {w w':World} {v:Value} {xs:List α} (h:SlV X w v xs) (hS:Stp S w w') (hs:∀ b∈S,b∈X):SlV X w' v xs:=h.ext hS hs (λ_ h=>.inl h)
def Z5q (x:Sig):Int:=match Zh4 x with|.int _ z=>z|_=>0
theorem Zh5 (x:Sig):Zh4 x=.I (Z5q x):=by
 have:∀ p∈Z34,∃ z,p.2=Value.int .i64 z:=by
  intro p hp;simp only [Z34,Z8Z,ZO,XE,Yap,Ya7,YbJ,Z1L,Yaa,XO,Xz,Xc,Xn,or_false,ent] at hp;rcases hp with rfl|rfl|rfl|rfl|rfl|rfl|rfl|rfl|rfl|rfl|rfl|rfl|rfl|rfl|rfl<;>exact ⟨_,rfl⟩
 unfold Z5q Zh4 Z4h;cases h:Z34.find? (λp=>decide (p.1=x)) with
 | none=>rfl
 | some p=>
   obtain ⟨z,hz⟩:=this p (YaA h);simp only [hz]
def JG (k n:Int) (s:Str) (ts:List Int):Int:=
 if ts.length > 3 then 0 else if (0:Int)∈ts then 0 else if ts=[] then Z1K k n s else if ¬ n=0 then 0
 else if k=9/\s=[]/\ts.getD 0 0=2/\ts.getD 1 0=ts.getD 2 0 then ts.getD 1 0
 else if k=6/\ts.getD 2 0=0 then Z4k s (ts.getD 0 0) (ts.getD 1 0) else Z5q ⟨k,s,ts.getD 0 0,ts.getD 1 0,ts.getD 2 0⟩
def Zi:Nd->Int
 | .mk k n s l=>JG k n s (l.map Zi)
theorem Z2j (x:Nd):Zi x=JG x.kind x.num x.word (x.kids.map Zi):=by
 cases x;rw [Zi];rfl
theorem ZtG:∀ p∈Z34,∃ z,p.2=Value.int .i64 z:=by
 intro p hp;simp only [Z34,Z8Z,ZO,XE,Yap,Ya7,YbJ,Z1L,Yaa,XO,Xz,Xc,Xn,or_false,ent] at hp;rcases hp with rfl|rfl|rfl|rfl|rfl|rfl|rfl|rfl|rfl|rfl|rfl|rfl|rfl|rfl|rfl<;>exact ⟨_,rfl⟩
theorem Zex {x:Sig} (h:¬ ∃ p∈Z34,p.1=x):Z5q x=0:=by
 unfold Z5q Zh4 Z4h;have:Z34.find? (λp=>decide (p.1=x))=none:=by
  rw [YaO];intro p hp;simpa using λe=>h ⟨p,hp,e⟩
 rw [this]
def Z29:List Str:=[[110,101,120,116],[112,114,101,118]]
def Z2a:List Str:=[[108,97,116,101,114],[101,97,114,108,105,101,114]]
theorem Zca:Z1p [110,101,120,116,32,112,114,101,118]=Z29:=by decide
theorem Zcb:Z1p [108,97,116,101,114,32,101,97,114,108,105,101,114]=Z2a:=by decide
theorem Zai:Z1p [100,97,121,115,32,119,101,101,107,115,32,109,111,110,116,104,115,32,99,111,117,114,116,100,97,121,115]=ZO:=by decide
theorem Z2H {s:Str} {l:List Str}:0<=idx (isS s) l↔s∈l:=by
 unfold idx;cases h:l.findIdx? (isS s) with
 | none=>
   rw [Yaf] at h;constructor;intro h0;simp at h0;intro hm;have:=h s hm;simp at this
 | some i=>
   obtain ⟨hi,hp,_⟩:=X9.1 h;constructor;intro _;have:l[i]=s:=by simpa using hp
   rw [<- this];exact Xb _;intro _;simp
def Z5R (s:Str) (l:List Int):Int:=
 if 0<=idx (isS s) Z29/\JW l [3]=true then 3 else if 0<=idx (isS s) Z2a/\JW l [3,3]=true then 3 else if s=[98,101,116,119,101,101,110]/\JW l [3,3]=true then 1 else 0
def Z4b (k n:Int) (s:Str) (ts:List Int):Int:=
 if ts=[] then Z1K k n s else if ¬ n=0 then 0
 else if k=5 then (if s=[45]/\JW ts [1]=true\/s=[110,111,116]/\JW ts [2]=true then ts.getD 0 0 else 0)
 else if k=6 then Z8V s ts
 else if k=7\/k=8 then (if 0<=idx (isS s) ZO/\JW ts [3,1]=true then 3 else 0)
 else if k=9 then (if s=[]/\ts.length=3/\JW ts [2,ts.getD 1 0,ts.getD 1 0]=true then ts.getD 1 0 else 0)
 else if k=10 then Z5R s ts else 0
theorem Zaj {l m:List Int}:JW l m=true↔l=m/\∀ x∈l,x≠0:=by simp [JW]
theorem Zdz {l m:List Int} (h:¬ (l=m/\∀ x∈l,x≠0)):JW l m=false:=by simp [JW];simpa using h
theorem Zey (k n:Int) (s:Str) (ts:List Int) (h0:¬ ts=[]) (hb:(0:Int)∈ts\/ts.length > 3):Z4b k n s ts=0:=by
 have bg:∀ m:List Int,m.length<=3->JW ts m=false:=λm hm=>Zdz (λ⟨h1,h2⟩=>by
  rcases hb with hb|hb
  exact h2 0 hb rfl;rw [h1] at hb;omega)
 unfold Z4b Z8V Z5R;simp only [bg _ (show [(1:Int)].length<=3 by decide),bg _ (show [(2:Int)].length<=3 by decide),bg _ (show [(3:Int)].length<=3 by decide),bg [1,1] (by decide),bg [3,3] (by decide),bg [2,2] (by decide),bg [3,1] (by decide),bg [2,ts.getD 1 0,ts.getD 1 0] (by simp),if_neg h0];simp
theorem ZkV (s:Str) (a b:Int) (ha:a≠0) (hb:b≠0) (hr:1<=a/\a<=3) (bK:1<=b/\b<=3):Z8V s [a,b]=Z4k s a b:=by
 unfold Z8V Z4k;simp only [Z2H,Zaj];have e:∀ c d:Int,([a,b]=[c,d]/\∀ x∈[a,b],x≠0)↔(a=c/\b=d):=λc d=>by simp [ha,hb]
 simp only [e];by_cases hA:s∈Z0U;have hC:¬ s∈Z2G:=by
  simp only [Z0U,Xc,Xn,or_false] at hA;rcases hA with rfl|rfl|rfl<;>decide
 have hL:¬ s∈Z0I:=by
  simp only [Z0U,Xc,Xn,or_false] at hA;rcases hA with rfl|rfl|rfl<;>decide
 simp only [hA,hC,hL,true_and,false_and,if_false,if_true];by_cases h1:a=1/\b=1;rw [if_pos h1,if_pos ⟨by omega,by omega⟩];rw [if_neg h1,if_neg (λh=>by omega)];simp only [hA,false_and,if_false];by_cases hC:s∈Z2G;have hL:¬ s∈Z0I:=by
  simp only [Z2G,Xc,Xn,or_false] at hC;rcases hC with rfl|rfl|rfl|rfl|rfl|rfl<;>decide
 simp only [hC,hL,true_and,false_and,if_false,if_true];by_cases h1:a=1/\b=1\/a=3/\b=3;rw [if_pos h1,if_pos ⟨by omega,by omega⟩];rw [if_neg h1,if_neg (λh=>by omega)];simp only [hC,false_and,if_false];by_cases hL:s∈Z0I;simp only [hL,true_and,if_true];by_cases h1:a=2/\b=2;rw [if_pos h1,if_pos ⟨by omega,by omega⟩];rw [if_neg h1,if_neg (λh=>by omega)];simp only [hL,false_and,if_false]
def Zh6:List Sig:=Z34.map (·.1)
def Zcc (k:Int) (s:Str) (a b c:Int):Int:=
 if c=0 then
  if b=0 then (if k=5/\s=[45]/\a=1 then 1 else if k=5/\s=[110,111,116]/\a=2 then 2 else if k=10/\s∈Z29/\a=3 then 3 else 0)
  else if a=3/\b=3/\k=10/\s∈Z2a then 3 else if a=3/\b=3/\k=10/\s=[98,101,116,119,101,101,110] then 1 else if a=3/\b=1/\(k=7\/k=8)/\s∈ZO then 3 else 0
 else 0
theorem Zh7:∀ x∈Zh6,Z5q x=Zcc x.kind x.s x.a x.b x.c:=by
 intro x hx;simp only [Zh6,Z34,Z8Z,ZO,XE,Yap,Ya7,YbJ,Z1L,Yaa,XO,Xz,Xc,Xn,or_false,ent] at hx;rcases hx with rfl|rfl|rfl|rfl|rfl|rfl|rfl|rfl|rfl|rfl|rfl|rfl|rfl|rfl|rfl<;>decide
theorem Z6m (k:Int) (s:Str) (a b c:Int):Z5q ⟨k,s,a,b,c⟩=Zcc k s a b c:=by
 by_cases hx:(⟨k,s,a,b,c⟩:Sig)∈Zh6;exact Zh7 _ hx;rw [Zex (λ⟨p,hp,e⟩=>hx (e ▸ YaJ hp))];unfold Zcc;symm;split;rename_i hc;subst hc;split;rename_i hb;subst hb;split;rename_i h;obtain ⟨rfl,rfl,rfl⟩:=h;exact absurd (by decide) hx;split;rename_i h;obtain ⟨rfl,rfl,rfl⟩:=h;exact absurd (by decide) hx;split;rename_i h;obtain ⟨rfl,h,rfl⟩:=h;simp only [Z29,Xc,Xn,or_false] at h;rcases h with rfl|rfl<;>exact absurd (by decide) hx
 rfl;split;rename_i h;obtain ⟨rfl,rfl,rfl,h⟩:=h;simp only [Z2a,Xc,Xn,or_false] at h;rcases h with rfl|rfl<;>exact absurd (by decide) hx
 split;rename_i h;obtain ⟨rfl,rfl,rfl,rfl⟩:=h;exact absurd (by decide) hx;split;rename_i h;obtain ⟨rfl,rfl,h1,h⟩:=h;simp only [ZO,Xc,Xn,or_false] at h;rcases h1 with rfl|rfl<;>rcases h with rfl|rfl|rfl|rfl<;>exact absurd (by decide) hx
 rfl;rfl
theorem ZtH {a x:Int} (ha:a≠0):JW [a] [x]=decide (a=x):=by simp [JW,ha]
theorem ZtI {a b x y:Int} (ha:a≠0) (hb:b≠0):JW [a,b] [x,y]=decide (a=x/\b=y):=by simp [JW,ha,hb]
theorem ZtJ {a b c x y z:Int} (ha:a≠0) (hb:b≠0) (hc:c≠0):JW [a,b,c] [x,y,z]=decide (a=x/\b=y/\c=z):=by simp [JW,ha,hb,hc]
theorem JA {l m:List Int} (h:¬ l.length=m.length):JW l m=false:=Zdz (λh'=>h (by rw [h'.1]))
theorem Zh8 (k n:Int) (s:Str) (ts:List Int) (hr:∀ t∈ts,0<=t/\t<=3):Z4b k n s ts=JG k n s ts:=by
 by_cases h0:ts=[]
 subst h0;simp [Z4b,JG];by_cases hb:(0:Int)∈ts\/ts.length > 3;rw [Zey k n s ts h0 hb];unfold JG;rcases hb with hb|hb
 simp [hb];simp [show ts.length > 3 from hb];have hz:¬ (0:Int)∈ts:=λh=>hb (.inl h);have hl:¬ ts.length > 3:=λh=>hb (.inr h);unfold Z4b JG;rw [if_neg h0,if_neg hl,if_neg hz,if_neg h0];by_cases hn:¬ n=0;rw [if_pos hn,if_pos hn];rw [if_neg hn,if_neg hn]
 match ts,h0,hl with
 | [a], _, _=>
   have ha:a≠0:=λe=>hz (by simp [e])
   have eB:=hr a (by simp);simp only [Yav,Yaw,List.getD_nil,Z6m,Z5R,Z8V,Z2H,ZtH ha,JA (show ¬ [a].length=[(1:Int),1].length by simp),JA (show ¬ [a].length=[(3:Int),3].length by simp),JA (show ¬ [a].length=[(2:Int),2].length by simp),JA (show ¬ [a].length=[(3:Int),1].length by simp),decide_eq_true_eq];have dD:Z4k s a 0=0:=by
    unfold Z4k;have h1:¬ (a=0/\a=1):=λh=>ha h.1;have h2:¬ (a=0/\¬ a=2):=λh=>ha h.1;have h3:¬ (a=0/\a=2):=λh=>ha h.1;simp only [if_neg h1,if_neg h2,if_neg h3,ite_self]
   simp only [dD,Zcc,Xe,Xi,YaB,and_false,or_self,if_false]
   grind (splits:=40)
 | [a, b], _, _=>
   have ha:a≠0:=λe=>hz (by simp [e])
   have hb:b≠0:=λe=>hz (by simp [e])
   have eB:=hr a (by simp);have gu:=hr b (by simp);simp only [Yav,Yaw,List.getD_nil,Z6m,Z5R,ZkV s a b ha hb (by omega) (by omega),Z2H,ZtI ha hb,JA (show ¬ [a,b].length=[(1:Int)].length by simp),JA (show ¬ [a,b].length=[(2:Int)].length by simp),JA (show ¬ [a,b].length=[(3:Int)].length by simp),decide_eq_true_eq];simp only [Zcc,Xe,Xi,YaB,and_false,or_self,if_false]
   grind (splits:=40)
 | [a, b, c], _, _=>
   have ha:a≠0:=λe=>hz (by simp [e])
   have hb:b≠0:=λe=>hz (by simp [e])
   have hc:c≠0:=λe=>hz (by simp [e])
   have eB:=hr a (by simp);have gu:=hr b (by simp);have wJ:=hr c (by simp);simp only [Yav,Yaw,Z6m,Z5R,Z8V,Z2H,ZtJ ha hb hc,JA (show ¬ [a,b,c].length=[(1:Int)].length by simp),JA (show ¬ [a,b,c].length=[(2:Int)].length by simp),JA (show ¬ [a,b,c].length=[(3:Int)].length by simp),JA (show ¬ [a,b,c].length=[(1:Int),1].length by simp),JA (show ¬ [a,b,c].length=[(3:Int),3].length by simp),JA (show ¬ [a,b,c].length=[(2:Int),2].length by simp),JA (show ¬ [a,b,c].length=[(3:Int),1].length by simp),decide_eq_true_eq];simp only [Zcc,Xe,Xi,YaB,and_false,or_self,if_false]
   grind (splits:=40)
 | _ :: _ :: _ :: _ :: _,_,hl=>exact absurd (by simp) hl
theorem Zak (k n:Int) (s:Str):0<=Z1K k n s/\Z1K k n s<=3:=by
 have h:0<=(ZK s).2.1/\(ZK s).2.1<=3:=by
  unfold ZK;dsimp only;split;simp;split<;>simp
 unfold Z1K
 grind
theorem Zal (k n:Int) (s:Str) (ts:List Int) (hr:∀ t∈ts,0<=t/\t<=3):0<=JG k n s ts/\JG k n s ts<=3:=by
 unfold JG;split;omega;split;omega;split;exact Zak _ _ _;split;omega;have hg:∀ i,0<=ts.getD i 0/\ts.getD i 0<=3:=by
  intro i;by_cases hi:i<ts.length;have:=hr ts[i] (Xb hi);simpa [List.getD,hi] using this;simp [List.getD,Ya5 (YaW hi)]
 split;exact hg 1;split;unfold Z4k;split;split<;>omega
 split;split<;>omega
 split;split<;>omega
 omega;rw [Z6m];unfold Zcc
 grind
theorem Z3g (x:Nd):0<=Zi x/\Zi x<=3:=by
 induction x using Nd.ind with
 | h k n s l ih=>
 rw [Z2j];refine Zal _ _ _ _ (λt ht=>?_);obtain ⟨y,hy,rfl⟩:=XK.1 ht;exact ih y hy
theorem ZdA (x:Nd):Zi x=Z4b x.kind x.num x.word (x.kids.map Zi):=by
 rw [Z2j,Zh8];intro t ht;obtain ⟨y,hy,rfl⟩:=XK.1 ht;exact Z3g y
def ZQ:Nd->Nat
 | .mk k n s l=>1+(l.map ZQ).foldl max 0
theorem Z2k (x:Nd):ZQ x=1+(x.kids.map ZQ).foldl max 0:=by
 cases x;rw [ZQ];rfl
theorem Z90 (l:List Nat):∀ (m b:Nat),l.foldl max m<=b↔m<=b/\∀ x∈l,x<=b:=by
 induction l with
 | nil=>intro m b;simp
 | cons y r ih=>
   intro m b;rw [X5,ih];simp only [Xc,forall_eq_or_imp];constructor;rintro ⟨h1,h2⟩;exact ⟨by omega,by omega,h2⟩;rintro ⟨h1,h2,h3⟩;exact ⟨by omega,h3⟩
theorem Zam {x y:Nd} (h:y∈x.kids):ZQ y<ZQ x:=by
 rw [Z2k x];have:=(Z90 (x.kids.map ZQ) 0 ((x.kids.map ZQ).foldl max 0)).1 (Xl _);have:=this.2 (ZQ y) (YaJ h);omega
theorem Zan (x:Nd):∀ (X:List Nat) (v:Value) (w),ZQ x<=1000000->NdV X w v x->
 CC 164 #[v] w λr w'=>r=.I (ZQ x:Int)/\Stp [] w w':=by
 induction x using Nd.ind with
 | h k n s l ih=>
 intro X v w hb hx;generalize gY:Nd.mk k n s l=x at *;have ih':∀ y∈x.kids,∀ (X:List Nat) (v:Value) (w:World),ZQ y<=1000000->NdV X w v y->CC 164 #[v] w λr w'=>r=.I (ZQ y:Int)/\Stp [] w w':=by
  subst gY;exact ih
 clear ih gY k n s l;obtain ⟨kv,rfl,hs⟩:=hx;have bh:=hs.max;refine cW1 22 Tryz.func164 ?_;refine W ?_;refine Z0 (Zp rfl) rfl ?_;rintro _ w1 ⟨b,rfl,jG,ab,hS⟩;replace ab:Blk w1 b _ (ndC x kv):=ab;replace hs:=hs.up hS;refine W ?_;have bQ:=hs;have gw:=ab;refine LP (σ:=Nat) (λk=>[(1,pQ b),(3,.I ((((x.kids.take k).map ZQ).foldl max 0:Nat):Int)),(4,.I k)]) (λk w'=>k<=x.kids.length/\Stp [] w1 w') (λk=>x.kids.length - k) 0 ⟨Xr _,Stp.refl _ _⟩ ?_;clear hs ab;rintro k w2 ⟨hk,aj⟩;have hs:=bQ.up aj;have ab:=gw.up aj;by_cases hlt:k<x.kids.length;obtain ⟨kv2,aX,eC⟩:=hs.nd hlt;have tg:=Zam (Xb hlt);refine QO ?_;apply Z9 (Z02 rfl rfl hs hlt eC) rfl;refine CM (ZS rfl) (ih' x.kids[k] (Xb hlt) X _ _ (by omega) ⟨kv2,rfl,aX⟩) ?_;rintro _ w3 ⟨rfl,aF⟩;refine W ?_;refine Zd (k+1) ⟨rfl,?_,rfl,trivial⟩ ⟨hlt,aj.trans aF⟩ (by omega);rw [Xg hlt,XL,XP];show some _=some _;congr 2;simp only [XE,Yap,X5,List.foldl_nil];omega;have eM:k=x.kids.length:=by omega
 subst eM;have hn:=Z2k x;rw [Xs];refine QO ?_;refine WR ?_;refine .mk ⟨?_,hS.trans aj⟩;rw [hn];congr 1
theorem Zcd (X:List Nat) (s:Str) (u:Value) (l:List Int) (w) (hl:SlV X w u l) :
 CC 226 #[str s,u] w λr w'=>r=.I (Z5R s l)/\Stp [] w w':=by
 refine cW2 33 Tryz.func226 ?_;refine W ?_;refine Z0 (Z1 (vs:=[(0,.I 3),(1,.I 3)]) rfl (Z0H _ _)) rfl ?_;rintro a3 w3 hN;have ha:=hN.slv (X:=[]) (ys:=[(3:Int),3]) (by simp) rfl rfl (by simp [maxLen]);have hS:=Za.stp hN;clear hN;replace hl:=hl.up hS;refine CL (Z1q _ _ _ _ _ _ _ hl ha) ?_;rintro _ w4 ⟨rfl,aU⟩;replace hl:=hl.up aU;replace hS:=hS.trans aU;clear ha;unfold Z5R;generalize JW l [3,3]=p3;refine W ?_;refine CM (ZS rfl) (Z0A [] [110,101,120,116,32,112,114,101,118] _ (by simp) (by decide)) ?_;rintro _ w5 ⟨hr,aD⟩;rw [Zca] at hr;replace hl:=hl.up aD;replace hS:=hS.trans aD;refine W ?_;refine CL (JR [] _ _ s _ hr.slv0) ?_;rintro _ w6 ⟨rfl,cz⟩;replace hl:=hl.up cz;replace hS:=hS.trans cz;generalize idx (isS s) Z29=i1;clear hr;have rest:∀ (w:World) (Q:Exit->Act->World->Prop),True:=λ_ _=>trivial;by_cases hi:0<=i1;all_goals (refine QO ?_)
 all_goals first
  | (refine Z0 (Z1 (vs := [(0, .I 3)]) rfl (Jj _)) rfl ?_
     rintro a1 w7 hN;have ha:=hN.slv (X:=[]) (ys:=[(3:Int)]) (by simp) rfl rfl (by simp [maxLen]);have aW:=Za.stp hN;clear hN;replace hl:=hl.up aW;replace hS:=hS.trans aW;refine W ?_;refine CL (Z1q _ _ _ _ _ _ _ hl ha) ?_;rintro _ w8 ⟨rfl,cP⟩;replace hl:=hl.up cP;replace hS:=hS.trans cP;generalize JW l [3]=p1;cases p1)
  | generalize JW l [3]=p1
 all_goals (repeat'(first|refine W1 ?_|omega|refine VG ?_ ?_<;>intro hg|refine VC ?_ ?_<;>intro hc))
 all_goals first
  | (refine RU ?_
     exact ⟨by simp [hi],hS⟩)
  | (refine CM (ZS rfl) (Z0A [] [108, 97, 116, 101, 114, 32, 101, 97, 114, 108, 105, 101, 114] _ (by simp) (by decide)) ?_
     rintro _ w9 ⟨hr,fU⟩;rw [Zcb] at hr;replace hl:=hl.up fU;replace hS:=hS.trans fU;refine W ?_;refine CL (JR [] _ _ s _ hr.slv0) ?_;rintro _ w10 ⟨rfl,dy⟩;replace hS:=hS.trans dy;generalize idx (isS s) Z2a=i2;clear hr)
 all_goals by_cases cy:0<=i2
 all_goals cases p3
 all_goals by_cases hs:s=[98,101,116,119,101,101,110]
 all_goals (repeat'(first|refine W1 ?_|omega|refine VG ?_ ?_<;>intro hg|refine VC ?_ ?_<;>intro hc))
 all_goals try contradiction
 all_goals (refine WR ?_)
 all_goals exact .mk ⟨by simp [hi,cy,hs],hS⟩
def okN:Nd->Bool
 | .mk k n s l=>decide (l.length<=1000) && (l.map okN).all id
theorem ZdB (x:Nd):okN x=true↔x.kids.length<=1000/\∀ y∈x.kids,okN y=true:=by
 cases x;rw [okN];simp [Nd.kids]
end Go.Proofs.YtgdicjnjhchooaaGreatDoor
