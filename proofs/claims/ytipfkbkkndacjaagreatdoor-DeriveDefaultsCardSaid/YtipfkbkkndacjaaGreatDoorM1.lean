/-
Contracts and plain laws, merged out of own texts.
-/
import Derived.WalkKit
import Derived.WalkSpells
import Derived.WalkLawsBesides
import Derived.Shelf.Abstract
import Derived.Orders
import Derived.Test.YtipfkbkkndacjaaGreatDoorProg
import Derived.Laws.StructEq
import Derived.Laws.Small
import Derived.MapKept
import Derived.ChangeKeysEq
set_option linter.unusedVariables false
set_option linter.unusedSimpArgs false
set_option maxHeartbeats 4000000
set_option maxRecDepth 20000
namespace Go
abbrev Xa:=@Nat.lt_of_lt_of_le
abbrev Xb:=@List.mem_cons
abbrev Xc:=@List.getElem_mem
abbrev Xd:=@List.length_append
abbrev Xe:=@List.length_cons
abbrev Xf:=@List.length_nil
abbrev Xg:=@List.mem_append
abbrev Xh:=@Nat.le_trans
abbrev Xi:=@List.take_succ_eq_append_getElem
abbrev Xj:=@List.not_mem_nil
abbrev Xk:=@List.mem_singleton
abbrev Xl:=@Bool.and_eq_true
abbrev Xm:=@Array.getElem?_eq_some_iff
abbrev Xn:=@Nat.le_refl
abbrev Xo:=@List.take_length
abbrev Xp:=@Nat.zero_le
abbrev Xq:=@Nat.mul_le_mul_right
abbrev Xr:=@List.getElem_of_mem
abbrev Xs:=@Nat.sub_lt_sub_left
abbrev Xt:=@List.map_cons
abbrev Xu:=@List.length_map
abbrev Xv:=@Nat.lt_succ_self
abbrev Xw:=@Nat.not_lt_zero
abbrev Xx:=@List.length_take
abbrev Xy:=@List.length_eq_zero_iff
abbrev Xz:=@List.getElem?_eq_some_iff
abbrev XA:=@List.append_assoc
abbrev XB:=@List.getD_cons_zero
abbrev XC:=@List.cons_append
abbrev XD:=@Array.getD_eq_getD_getElem?
abbrev XE:=@List.getD_eq_getElem?_getD
abbrev XG:=@List.append_nil
abbrev XH:=@List.mem_map
abbrev XI:=@List.map_eq_cons_iff
abbrev XJ:=@List.take_of_length_le
abbrev XK:=@Option.some.injEq
abbrev XL:=@List.mem_cons_of_mem
abbrev XM:=@List.map_nil
abbrev XN:=@List.nil_append
abbrev XO:=@List.take_append_drop
abbrev XP:=@Nat.zero_add
abbrev XQ:=@Bool.false_eq_true
abbrev XR:=@List.map_append
abbrev XS:=@Nat.eq_of_beq_eq_true
abbrev XT:=@Option.bind_some
abbrev XU:=@List.length_pos_iff
abbrev XV:=@List.getElem?_eq_getElem
abbrev XW:=@List.all_eq_true
abbrev XX:=@List.foldl_cons
abbrev XY:=@Array.getElem?_append_left
abbrev XZ:=@Nat.le_of_ble_eq_true
abbrev X0:=@List.length_filter_le
abbrev X1:=@Option.bind_eq_some_iff
abbrev X2:=@Option.some.inj
abbrev X3:=@List.pairwise_cons
abbrev X4:=@List.length_set
abbrev X5:=@List.getElem_append_right
abbrev X6:=@List.mem_of_find?_eq_some
abbrev X7:=@List.findIdx?_eq_some_iff_getElem
abbrev X8:=@List.getElem_append_left
abbrev X9:=@Nat.succ_mul
abbrev Yaa:=@List.getElem?_append_left
abbrev Yab:=@List.findIdx?_eq_none_iff
abbrev Yac:=@List.drop_eq_getElem_cons
abbrev Yad:=@Bool.eq_iff_iff
abbrev Yae:=@Nat.min_eq_left
abbrev Yaf:=@List.getElem?_take
abbrev Yag:=@List.any_eq_true
abbrev Yah:=@List.flatten_cons
abbrev Yai:=@Array.getElem?_eq_none
abbrev Yaj:=@List.Perm.refl
abbrev Yak:=@Array.length_toList
abbrev Yal:=@List.mem_map_of_mem
abbrev Yam:=@List.flatMap_append
abbrev Yan:=@List.getD_cons_succ
abbrev Yao:=@List.pairwise_iff_getElem
abbrev Yap:=@List.eq_nil_or_concat
abbrev Yaq:=@List.concat_eq_append
abbrev Yar:=@List.length_drop
abbrev Yas:=@List.find?_eq_none
abbrev Yat:=@List.find?_eq_some_iff_getElem
abbrev Yau:=@Nat.add_assoc
abbrev Yav:=@List.mem_of_mem_take
abbrev Yaw:=@List.size_toArray
abbrev Yax:=@List.foldl_append
abbrev Yay:=@Bool.or_eq_true
abbrev Yaz:=@List.take_succ_cons
abbrev YaA:=@Int.toNat_of_nonneg
abbrev YaB:=@List.replicate_succ
abbrev YaC:=@Nat.lt_or_ge
abbrev YaD:=@List.drop_eq_nil_of_le
abbrev YaE:=@List.take_append
abbrev YaF:=@Option.getD_some
abbrev YaG:=@List.ext_getElem
abbrev YaH:=@List.getElem?_append_right
abbrev YaI:=@List.take_take
abbrev YaJ:=@Bool.beq_eq_decide_eq
abbrev YaK:=@List.dropLast_eq_take
abbrev YaL:=@List.mem_of_mem_drop
abbrev YaM:=@Array.getElem?_setIfInBounds_ne
abbrev YaN:=@List.getElem_set_ne
abbrev YaO:=@List.getElem?_cons_succ
abbrev YaP:=@List.eq_nil_of_length_eq_zero
abbrev YaQ:=@Nat.mul_one
abbrev YaR:=@Int.emod_lt_of_pos
abbrev YaS:=@List.mem_cons_self
abbrev YaT:=@List.all_cons
abbrev YaU:=@List.getElem?_eq_none
abbrev YaV:=@Array.getElem?_modify
abbrev YaW:=@Array.getElem?_toList
abbrev YaX:=@List.flatMap_cons
abbrev YaY:=@Int.le_refl
abbrev YaZ:=@List.mem_flatMap
abbrev Ya0:=@List.drop_length
abbrev Ya1:=@List.takeWhile_cons
abbrev Ya2:=@Array.setIfInBounds_comm
abbrev Ya3:=@Bool.and_true
abbrev Ya4:=@Int.emod_nonneg
abbrev Ya5:=@List.cons.injEq
abbrev Ya6:=@Option.map_some
abbrev Ya7:=@List.findIdx?_cons
abbrev Ya8:=@List.filter_append
abbrev Ya9:=@List.getElem?_replicate
abbrev Yba:=@Nat.mul_comm
abbrev Ybb:=@List.nodup_append
abbrev Ybc:=@List.getElem_cons_zero
abbrev Ybd:=@List.length_eq_one_iff
abbrev Ybe:=@List.append_eq_nil_iff
abbrev Ybf:=@Nat.mul_le_mul
abbrev Ybg:=@List.getElem_set_self
abbrev Ybh:=@List.length_mergeSort
abbrev Ybi:=@List.flatMap_def
abbrev Ybj:=@List.pairwise_append
abbrev Ybk:=@Nat.add_le_add_right
abbrev Ybl:=@Nat.div_add_mod
abbrev Ybm:=@List.find?_some
abbrev Ybn:=@Int.natCast_add
abbrev Ybo:=@List.mem_filter
abbrev Ybp:=@Nat.add_zero
abbrev Ybq:=@Nat.pow_succ
abbrev Ybr:=@List.drop_zero
abbrev Ybs:=@List.drop_take
abbrev Ybt:=@Nat.add_sub_cancel
abbrev Ybu:=@List.take_zero
abbrev Ybv:=@Int.emod_eq_of_lt
abbrev Ybw:=@Bool.eq_false_iff
abbrev Ybx:=@Int.toNat_natCast
abbrev Yby:=@List.getElem?_map
abbrev Ybz:=@Bool.false_or
abbrev YbA:=@Nat.le_of_not_lt
abbrev YbB:=@Nat.min_eq_right
abbrev YbC:=@List.map_toArray
abbrev YbD:=@List.flatMap_nil
abbrev YbE:=@Nat.mod_lt
abbrev YbF:=@List.map_map
abbrev YbG:=@List.set_append
abbrev YbH:=@List.all_append
abbrev YbI:=@List.take_left'
abbrev YbJ:=@Bool.and_false
abbrev YbK:=@List.mem_range
end Go
namespace Go.Eng
open Go Go.RowKit Go.Proofs
abbrev Env:=List (Nat×Value)
def look:Env->Nat->Option Value
 | [],_=>none
 | (k,v) :: r,t=>bif Nat.beq k t then some v else look r t
def ev (e:Env):Operand->Option Value
 | .tmp t=>look e t
 | .const v=>some v
 | .global g=>some (.pointer (some ⟨g,0,none⟩))
 | .func f=>some (.func (.func f) #[] #[])
structure Has (n:Nat) (e:Env) (a:Act):Prop where
 defers:a.defers=[]
 size:a.tmps.size=n
 vals:∀ t v,look e t=some v->a.tmps.getD t undef=v
section basics
variable {n:Nat} {e:Env} {a:Act}
theorem Has.ev {x:Operand} {v:Value} (h:Has n e a) (hx:ev e x=some v):a.eval x=v:=by
 cases x with
 | tmp t=>exact h.vals t v hx
 | const c=>simpa [Eng.ev,Act.eval] using hx
 | global g=>simpa [Eng.ev,Act.eval] using hx
 | func f=>simpa [Eng.ev,Act.eval] using hx
theorem Z1P (d:Nat) (v:Value) (e:Env) (t:Nat):look ((d,v) :: e) t=if d=t then some v else look e t:=by
 simp only [look];by_cases h:d=t;subst h;simp
 . have:Nat.beq d t=false:=by
    cases hb:Nat.beq d t with
    | false=>rfl
    | true=>exact absurd (XS hb) h
   simp [this,h]
theorem Has.put {d:Nat} {v:Value} (h:Has n e a) (hd:Nat.blt d n=true):Has n ((d,v) :: e) (a.put (some d) v):=by
 have hlt:d<a.tmps.size:=by rw [h.size];exact XZ hd
 refine ⟨h.defers,by simp [Act.put,h.size],λt u hu=>?_⟩;rw [Z1P] at hu;simp only [Act.put];by_cases lV:d=t;subst lV;simp at hu;subst hu;simp [hlt];rw [if_neg lV] at hu;have:=h.vals t u hu;simpa [YaM lV] using this
theorem Has.weak {e':Env} (h:Has n e a) (hs:∀ t v,look e' t=some v->look e t=some v):Has n e' a:=
 ⟨h.defers,h.size,λt v hv=>h.vals t v (hs t v hv)⟩
def Sub:Env->Env->Prop
 | [],_=>True
 | (k,v) :: r,e=>look e k=some v/\Sub r e
theorem Sub.look {e' e:Env} (h:Sub e' e):∀ t v,Eng.look e' t=some v->Eng.look e t=some v:=by
 induction e' with
 | nil=>intro t v hv;simp [Eng.look] at hv
 | cons p r ih=>
   intro t v hv;obtain ⟨d,u⟩:=p;rw [Z1P] at hv;by_cases hd:d=t;subst hd;simp at hv;subst hv;exact h.1;rw [if_neg hd] at hv;exact ih h.2 t v hv
theorem Has.sub {e':Env} (h:Has n e a) (hs:Sub e' e):Has n e' a:=h.weak hs.look
end basics
section judge
variable (P:Program) (n:Nat)
structure WQ (n:Nat) (Q:Exit->Act->World->Prop) (x:Exit) (e:Env) (w:World):Prop where
 h:∀ a,Has n e a->Q x a w
structure WC (c:Code) (Q:Exit->Act->World->Prop) (e:Env) (w:World):Prop where
 h:∀ a,Has n e a->c.wp P Q a w
structure WL (ops:Array Oper) (Q:Exit->Act->World->Prop) (l:List Oper) (e:Env) (w:World):Prop where
 h:∀ a,Has n e a->wpList P ops Q l a w
end judge
section rules
variable {P:Program} {n:Nat} {Q:Exit->Act->World->Prop} {e:Env} {w:World} {ops:Array Oper} {rest:List Oper}
theorem Z7R {x y:Code} (h:WC P n x (Exit.then (λa w=>y.wp P Q a w) Q) e w):WC P n (x.seq y) Q e w:=
 ⟨λa ha=>wp_seq (h.h a ha)⟩
theorem Z4o {y:Code} (h:WC P n y Q e w):WQ n (Exit.then (λa w=>y.wp P Q a w) Q) .normal e w:=⟨λa ha=>h.h a ha⟩
theorem Z1s {N:Act->World->Prop} (h:WQ n Q .ret e w):WQ n (Exit.then N Q) .ret e w:=⟨λa ha=>h.h a ha⟩
theorem Zy {N:Act->World->Prop} {i:Nat} (h:WQ n Q (.exit i) e w):WQ n (Exit.then N Q) (.exit i) e w:=⟨λa ha=>h.h a ha⟩
theorem Jl {i:Nat} (h:WQ n Q .normal e w):WQ n (Exit.inBlock i Q) .normal e w:=⟨λa ha=>h.h a ha⟩
theorem Zaw {i:Nat} (h:WQ n Q .ret e w):WQ n (Exit.inBlock i Q) .ret e w:=⟨λa ha=>h.h a ha⟩
theorem Zv {i:Nat} (h:WQ n Q .normal e w):WQ n (Exit.inBlock i Q) (.exit i) e w:=by
 refine ⟨λa ha=>?_⟩;simp only [Exit.inBlock,if_true];exact h.h a ha
theorem ZG {i j:Nat} (dJ:Nat.beq i j=false) (h:WQ n Q (.exit i) e w):WQ n (Exit.inBlock j Q) (.exit i) e w:=by
 refine ⟨λa ha=>?_⟩;simp only [Exit.inBlock];rw [if_neg (Nat.ne_of_beq_eq_false dJ)];exact h.h a ha
theorem Z7D (h:WQ n Q .normal e w):WC P n .skip Q e w:=⟨λa ha=>wp_skip (h.h a ha)⟩
theorem Z7S (h:WQ n Q .ret e w):WC P n .ret Q e w:=⟨λa ha=>wp_ret (h.h a ha)⟩
theorem ZlC {i:Nat} (h:WQ n Q (.exit i) e w):WC P n (.exit i) Q e w:=⟨λa ha=>wp_exit (h.h a ha)⟩
theorem ZhZ {i:Nat} {c:Code} (h:WC P n c (Exit.inBlock i Q) e w):WC P n (.block i c) Q e w:=⟨λa ha=>wp_block (h.h a ha)⟩
theorem Z1I {c:Operand} {x y:Code} (hc:ev e c=some (.bool true)) (h:WC P n x Q e w):WC P n (.cond c x y) Q e w:=
 ⟨λa ha=>wp_cond_true (ha.ev hc) (h.h a ha)⟩
theorem Z1n {c:Operand} {x y:Code} (hc:ev e c=some (.bool false)) (h:WC P n y Q e w):WC P n (.cond c x y) Q e w:=
 ⟨λa ha=>wp_cond_false (ha.ev hc) (h.h a ha)⟩
theorem Zax {c:Operand} {x y:Code} {p:Prop} [Decidable p] (hc:ev e c=some (.bool (decide p))) (ht:p->WC P n x Q e w) (hf:¬ p->WC P n y Q e w):WC P n (.cond c x y) Q e w:=
 ⟨λa ha=>wp_cond_split (ha.ev hc) (λh=>(ht (of_decide_eq_true h)).h a ha) (λh=>(hf (of_decide_eq_false h)).h a ha)⟩
theorem ZbN {c:Operand} {x y:Code} {t:Bool} (hc:ev e c=some (.bool t)) (ht:t=true->WC P n x Q e w) (hf:t=false->WC P n y Q e w):WC P n (.cond c x y) Q e w:=
 ⟨λa ha=>wp_cond_split (ha.ev hc) (λh=>(ht h).h a ha) (λh=>(hf h).h a ha)⟩
theorem Z2H {id:Nat} {l:List Oper} (h:WL P n l.toArray Q l e w):WC P n (.region id l.toArray false) Q e w:=
 ⟨λa ha=>wp_region_lit (h.h a ha)⟩
theorem Z30 (h:WQ n Q .normal e w):WL P n ops Q [] e w:=⟨λa ha=>wpList_nil (h.h a ha)⟩
theorem ZlD {c:Code} (e':Env) (hs:Sub e' e) (h:WC P n c Q e' w):WC P n c Q e w:=⟨λa ha=>h.h a (ha.sub hs)⟩
theorem ZlE {x:Exit} (e':Env) (hs:Sub e' e) (h:WQ n Q x e' w):WQ n Q x e w:=⟨λa ha=>h.h a (ha.sub hs)⟩
theorem Zi0 {x y:Code} {σ:Type} (env:σ->Env) (I:σ->World->Prop)
 (h:WC P n x (Exit.then (λa w=>∃ s,Has n (env s) a/\I s w) Q) e w) (k:∀ s w,I s w->WC P n y Q (env s) w):WC P n (x.seq y) Q e w:=
 ⟨λa ha => wp_seq (wp_mono (h.h a ha) (λex a w hq => by
   cases ex with
   | normal=>obtain ⟨s,h1,h2⟩:=hq;exact (k s w h2).h a h1
   | _=>exact hq))⟩
theorem JK {x y:Code} {σ:Type} (env:σ->Env) (I:σ->World->Prop)
 (h:WC P n x (Exit.then (λa w=>∃ s,Has n (env s) a/\I s w) Q) e w) (k:∀ s w,I s w->WC P n y Q (env s) w):WC P n x (Exit.then (λa w=>y.wp P Q a w) Q) e w:=
 ⟨λa ha => wp_mono (h.h a ha) (λex a w hq => by
   cases ex with
   | normal=>obtain ⟨s,h1,h2⟩:=hq;exact (k s w h2).h a h1
   | _=>exact hq)⟩
theorem Z0h {x y:Code} {σ:Type} {i:Nat} (env:σ->Env) (I:σ->World->Prop)
 (h:WC P n x (Exit.inBlock i (Exit.then (λa w=>∃ s,Has n (env s) a/\I s w) Q)) e w) (k:∀ s w,I s w->WC P n y Q (env s) w):WC P n x (Exit.inBlock i (Exit.then (λa w=>y.wp P Q a w) Q)) e w:=
 ⟨λa ha => wp_mono (h.h a ha) (λex a w hq => by
   cases ex with
   | normal=>obtain ⟨s,h1,h2⟩:=hq;exact (k s w h2).h a h1
   | exit j=>
     simp only [Exit.inBlock] at hq ⊢;split;rename_i hj;rw [if_pos hj] at hq;obtain ⟨s,h1,h2⟩:=hq;exact (k s w h2).h a h1;rename_i hj;rw [if_neg hj] at hq;exact hq
   | _=>exact hq)⟩
theorem ZA {σ:Type} {env:σ->Env} {I:σ->World->Prop} (s:σ) (hs:Sub (env s) e) (hI:I s w):WQ n (Exit.then (λa w=>∃ s,Has n (env s) a/\I s w) Q) .normal e w:=
 ⟨λa ha=>⟨s,ha.sub hs,hI⟩⟩
theorem Zt {c:Code} {σ:Type} (env:σ->Env) (I:σ->World->Prop) (μ:σ->Nat) (fh:σ) (hs:Sub (env fh) e) (hI:I fh w)
 (round:∀ s w,I s w->WC P n c (Exit.then (λa' w'=>∃ s',Has n (env s') a'/\I s' w'/\μ s' < μ s) Q) (env s) w):WC P n (.loop c) Q e w:=by
 refine ⟨λa ha=>?_⟩;have key:∀ (k:Nat) (s:σ) (a:Act) (w:World),μ s<=k->Has n (env s) a->I s w->(Code.loop c).wp P Q a w:=by
  intro k s a w _ h1 h2;refine wp_loop (λa' w'=>∃ s',Has n (env s') a'/\I s' w') (λa' w'=>Classical.epsilon (λm=>∃ s',Has n (env s') a'/\I s' w'/\μ s'=m/\∀ s'',Has n (env s'') a'->I s'' w'->m<=μ s'')) ⟨s,h1,h2⟩ ?_;intro a w ⟨s',kH,kI⟩;have sX:∀ a w,(∃ s',Has n (env s') a/\I s' w)->∃ m,∃ s',Has n (env s') a/\I s' w/\μ s'=m/\∀ s'',Has n (env s'') a->I s'' w->m<=μ s'':=by
   intro a w ⟨s',kH,kI⟩;have:∀ m,∀ s',μ s'=m->Has n (env s') a->I s' w->∃ m,∃ s',Has n (env s') a/\I s' w/\μ s'=m/\∀ s'',Has n (env s'') a->I s'' w->m<=μ s'':=by
    intro m
    induction m using Nat.strongRecOn with
    | _ m ih=>
      intro s' hm h1 h2;by_cases kJ:∀ s'',Has n (env s'') a->I s'' w->m<=μ s'';exact ⟨m,s',h1,h2,hm,kJ⟩;have:∃ s'',Has n (env s'') a/\I s'' w/\μ s''<m:=by
       refine Classical.byContradiction λbg=>kJ λs'' h1 h2=>?_;exact YbA λhlt=>bg ⟨s'',h1,h2,hlt⟩
      obtain ⟨s'',kH,kI,hlt⟩:=this;exact ih _ hlt s'' rfl kH kI
   exact this _ s' rfl kH kI
  obtain ⟨s₁,g1,g2,g3,g4⟩:=Classical.epsilon_spec (sX a w ⟨s',kH,kI⟩);have hr:=(round s₁ w g2).h a g1;refine wp_mono hr (λex a' w' hq=>?_);cases ex with
  | normal=>
    obtain ⟨s₂,k1,k2,k3⟩:=hq;refine ⟨⟨s₂,k1,k2⟩,?_⟩;obtain ⟨s₃,m1,m2,m3,m4⟩:=Classical.epsilon_spec (sX a' w' ⟨s₂,k1,k2⟩);have:=m4 s₂ k1 k2;rw [g3] at k3;exact Nat.lt_of_le_of_lt this k3
  | _=>exact hq
 exact key (μ fh) fh a w (Xn _) (ha.sub hs) hI
theorem Zs {σ:Type} {env:σ->Env} {I:σ->World->Prop} {μ:σ->Nat} {m:Nat} (s:σ) (hs:Sub (env s) e) (hI:I s w) (hm:μ s<m) :
 WQ n (Exit.then (λa w=>∃ s,Has n (env s) a/\I s w/\μ s<m) Q) .normal e w:=
 ⟨λa ha=>⟨s,ha.sub hs,hI,hm⟩⟩
structure PR (P:Program) (n:Nat) (o:Oper) (e:Env) (w:World) (v:Value):Prop where
 h:∀ a,Has n e a->(execOp a.eval o).run P w=.ok (.value v) w
theorem Z8 {d:Nat} {op:Op} {ty:TypeId} {pos:String} {af:Array Edge} {v:Value} (hp:PR P n ⟨some d,op,ty,pos,af,none⟩ e w v) (hd:Nat.blt d n=true)
 (k:WL P n ops Q rest ((d,v) :: e) w):WL P n ops Q (⟨some d,op,ty,pos,af,none⟩ :: rest) e w:=by
 refine ⟨λa ha=>?_⟩;refine wpList_plain rfl (λK hK=>?_);unfold Oper.wp;rw [hp.h a ha];exact hK _ _ ((k).h _ (ha.put hd))
structure OE (P:Program) (n:Nat) (o:Oper) (e:Env) (w:World) (G:Value->World->Prop):Prop where
 h:∀ a,Has n e a->∀ (Q:Exit->Act->World->Prop),o.wp P a w (λa' w'=>∃ v,a'=a.put o.dst v/\G v w') Q
theorem Z0 {d:Nat} {op:Op} {ty:TypeId} {pos:String} {af:Array Edge} {G:Value->World->Prop} (hp:OE P n ⟨some d,op,ty,pos,af,none⟩ e w G) (hd:Nat.blt d n=true)
 (k:∀ v w',G v w'->WL P n ops Q rest ((d,v) :: e) w'):WL P n ops Q (⟨some d,op,ty,pos,af,none⟩ :: rest) e w:=by
 refine ⟨λa ha=>?_⟩;refine wpList_plain rfl (λK hK=>?_);refine Oper.wp_mono ?_ (hp.h a ha Q);rintro a' w' ⟨v,rfl,hg⟩;exact hK _ _ ((k v w' hg).h _ (ha.put hd))
theorem Z5 {op:Op} {ty:TypeId} {pos:String} {af:Array Edge} {G:Value->World->Prop} (hp:OE P n ⟨none,op,ty,pos,af,none⟩ e w G)
 (k:∀ v w',G v w'->WL P n ops Q rest e w'):WL P n ops Q (⟨none,op,ty,pos,af,none⟩ :: rest) e w:=by
 refine ⟨λa ha=>?_⟩;refine wpList_plain rfl (λK hK=>?_);refine Oper.wp_mono ?_ (hp.h a ha Q);rintro a' w' ⟨v,rfl,hg⟩;exact hK _ _ ((k v w' hg).h _ ha)
def yld (ops:Array Oper) (e:Env) (j:Nat):Option Value:=((ops[j]?).bind (·.dst)).bind (look e)
theorem Z7T {ops:Array Oper} {a:Act} {j:Nat} {b:Bool} (ha:Has n e a) (h:yld ops e j=some (.bool b)):yielded ops a.tmps j=some b:=by
 unfold yld at h;unfold yielded;cases hd:(ops[j]?).bind (·.dst) with
 | none=>rw [hd] at h;simp at h
 | some d=>
   rw [hd] at h;have:=ha.vals d _ h;simp only [XD] at this;simp only [XT];cases hx:a.tmps[d]? with
   | none=>rw [hx] at this;simp [undef] at this
   | some u=>rw [hx] at this;simp at this;subst this;simp
theorem ZtS {d:Option Nat} {op:Op} {ty:TypeId} {pos:String} {af:Array Edge} {j:Nat} {b:Bool} (hy:yld ops e j=some (.bool b))
 (k:WL P n ops Q (⟨d,op,ty,pos,af,none⟩ :: rest) e w):WL P n ops Q (⟨d,op,ty,pos,af,some (j,b)⟩ :: rest) e w:=by
 refine ⟨λa ha=>?_⟩;have hk:=k.h a ha;have hw:Region.wanted ⟨d,op,ty,pos,af,some (j,b)⟩ (yielded ops a.tmps)=true:=by simp [Region.wanted,Z7T ha hy]
 unfold wpList at hk ⊢;rw [if_pos hw];rw [if_pos (by simp [Region.wanted])] at hk;exact hk
def ZtT:Value->Bool->Bool
 | .bool c,b=>c != b
 | _,_=>true
def noB (ops:Array Oper) (e:Env):Option (Nat×Bool)->Bool
 | none=>false
 | some (j, b) => match yld ops e j with
   | some u=>ZtT u b
   | none=>false
theorem Z31 {ops:Array Oper} {a:Act} {o:Oper} (ha:Has n e a) (h:noB ops e o.guard=true):Region.wanted o (yielded ops a.tmps)=false:=by
 unfold Region.wanted;cases hg:o.guard with
 | none=>rw [hg] at h;cases h
 | some jb=>
   obtain ⟨j,b⟩:=jb;rw [hg] at h;simp only [noB] at h;cases hy:yld ops e j with
   | none=>rw [hy] at h;cases h
   | some u=>
     rw [hy] at h;unfold yld at hy;show (yielded ops a.tmps j == some b)=false;unfold yielded;cases hd:(ops[j]?).bind (·.dst) with
     | none=>rw [hd] at hy;simp at hy
     | some d=>
       rw [hd] at hy;simp only [XT] at hy;have:=ha.vals d _ hy;simp only [XD] at this;simp only [XT];cases hx:a.tmps[d]? with
       | none=>rfl
       | some z=>
         rw [hx] at this;simp at this;subst this;cases z<;>first|rfl|(simp only [ZtT] at h;cases b<;>simp_all)
theorem ZlF {d:Nat} {op:Op} {ty:TypeId} {pos:String} {af:Array Edge} {j:Nat} {b:Bool} (hy:noB ops e (some (j,b))=true) (hd:Nat.blt d n=true)
 (k:WL P n ops Q rest ((d,undef) :: e) w):WL P n ops Q (⟨some d,op,ty,pos,af,some (j,b)⟩ :: rest) e w:=by
 refine ⟨λa ha=>?_⟩;have hw:Region.wanted ⟨some d,op,ty,pos,af,some (j,b)⟩ (yielded ops a.tmps)=false:=Z31 ha hy;unfold wpList;rw [if_neg (by simp [hw])];exact k.h _ (ha.put hd)
def Zf9 (ops:Array Oper) (j:Nat):Option Nat:=(ops[j]?).bind (·.dst)
theorem Has.same {a:Act} {d:Nat} {u v:Value} (ha:Has n e a) (h:look e d=some u) (uD:u=v):Has n ((d,v) :: e) a:=by
 subst uD;refine ⟨ha.defers,ha.size,λt x hx=>?_⟩;rw [Z1P] at hx;by_cases hd:d=t;subst hd;simp at hx;subst hx;exact ha.vals _ _ h;rw [if_neg hd] at hx;exact ha.vals _ _ hx
theorem Zi1 {d:Nat} {o:Option Nat} {op:Op} {ty:TypeId} {pos:String} {af:Array Edge} {j:Nat} {b:Bool} {p:Prop} [Decidable p] (hj:Zf9 ops j=some d) (hy:look e d=some (.bool (decide p)))
 (ht:p->WL P n ops Q (⟨o,op,ty,pos,af,some (j,b)⟩ :: rest) ((d,.bool true) :: e) w) (hf:¬ p->WL P n ops Q (⟨o,op,ty,pos,af,some (j,b)⟩ :: rest) ((d,.bool false) :: e) w) :
 WL P n ops Q (⟨o,op,ty,pos,af,some (j,b)⟩ :: rest) e w:=by
 refine ⟨λa ha=>?_⟩;by_cases hp:p;exact (ht hp).h a (ha.same hy (by simp [hp]));exact (hf hp).h a (ha.same hy (by simp [hp]))
theorem Zg2 {d:Nat} {o:Option Nat} {op:Op} {ty:TypeId} {pos:String} {af:Array Edge} {j:Nat} {b:Bool} {t:Bool} (hj:Zf9 ops j=some d) (hy:look e d=some (.bool t))
 (ht:t=true->WL P n ops Q (⟨o,op,ty,pos,af,some (j,b)⟩ :: rest) ((d,.bool true) :: e) w) (hf:t=false->WL P n ops Q (⟨o,op,ty,pos,af,some (j,b)⟩ :: rest) ((d,.bool false) :: e) w) :
 WL P n ops Q (⟨o,op,ty,pos,af,some (j,b)⟩ :: rest) e w:=by
 refine ⟨λa ha=>?_⟩;cases t;exact (hf rfl).h a (ha.same hy rfl);exact (ht rfl).h a (ha.same hy rfl)
end rules
def Z59 (l:List Value):Nat->Env
 | k=>match l with|[]=>[]|v :: r=>(k,v) :: Z59 r (k+1)
theorem Z3I (l:List Value):∀ (k t:Nat) (v:Value),look (Z59 l k) t=some v->k<=t/\l[t - k]?=some v:=by
 induction l with
 | nil=>intro k t v h;simp [Z59,look] at h
 | cons x r ih=>
   intro k t v h;simp only [Z59] at h;rw [Z1P] at h;by_cases hk:k=t;subst hk;simp at h;simp [h];rw [if_neg hk] at h;obtain ⟨h1,h2⟩:=ih (k+1) t v h;refine ⟨by omega,?_⟩;have:t - k=(t - (k+1))+1:=by omega
   rw [this];simpa using h2
theorem Z18 {P:Program} {f:FuncId} {fn:Func} {c:Code} {args:Array Value} {w:World} {R:Ending->World->Prop} {n:Nat} (hf:P.funcs[f]?=some fn) (hb:fn.body=some c)
 (hn:fn.ntmps=n) (hs:Nat.ble args.size n=true) (h:WC P n c (bodyPost P fn R) (Z59 args.toList 0) w):Calls P f args w R:=by
 refine calls_of_wp hf hb (h.h _ ?_);rw [hn];have cT:args.size<=n:=XZ hs;refine ⟨rfl,by simp;omega,λt v hv=>?_⟩;obtain ⟨_,h2⟩:=Z3I _ _ _ _ hv;simp only [Nat.sub_zero] at h2;have hlt:t<args.size:=by
  have:=(Xz.1 h2).1;simpa using this
 have:args[t]?=some v:=by simpa using h2
 have h3:(args++Array.replicate (n - args.size) undef)[t]?=some v:=by
  rw [XY hlt];exact this
 simp [XD,h3]
section post
variable {P:Program} {n:Nat} {fn:Func} {R:Ending->World->Prop} {e:Env} {w:World}
theorem Zay (hr:fn.results=#[]) (h:R (.returned (.tuple #[])) w):WQ n (bodyPost P fn R) .ret e w:=
 ⟨λa ha=>⟨ha.defers,_,results_none hr _ _ _,h⟩⟩
theorem Zaz (hr:fn.results=#[]) (h:R (.returned (.tuple #[])) w):WQ n (bodyPost P fn R) .normal e w:=
 ⟨λa ha=>⟨ha.defers,_,results_none hr _ _ _,h⟩⟩
theorem ZlG {t:Nat} {v:Value} (hr:fn.results=#[.tmp t]) (ht:look e t=some v) (h:R (.returned v) w):WQ n (bodyPost P fn R) .ret e w:=
 ⟨λa ha=>⟨ha.defers,_,results_tmp hr _ _ _,by rw [ha.vals t v ht];exact h⟩⟩
theorem ZlH {t u:Nat} {v x:Value} (hr:fn.results=#[.tmp t,.tmp u]) (ht:look e t=some v) (hu:look e u=some x) (h:R (.returned (.tuple #[v,x])) w):WQ n (bodyPost P fn R) .ret e w:=
 ⟨λa ha=>⟨ha.defers,_,results_tmp2 hr _ _ _,by rw [ha.vals t v ht,ha.vals u x hu];exact h⟩⟩
theorem ZlI {t u s:Nat} {v x y:Value} (hr:fn.results=#[.tmp t,.tmp u,.tmp s]) (ht:look e t=some v) (hu:look e u=some x) (hs:look e s=some y) (h:R (.returned (.tuple #[v,x,y])) w):WQ n (bodyPost P fn R) .ret e w:=
 ⟨λa ha=>⟨ha.defers,.tuple #[v,x,y],by simp [results,hr];simpa [XD] using And.intro (ha.vals t v ht) (And.intro (ha.vals u x hu) (ha.vals s y hs)),h⟩⟩
end post
theorem cW0 {P:Program} {f:FuncId} {fn:Func} {c:Code} {w:World} {R:Ending->World->Prop} (n:Nat) (hf:P.funcs[f]?=some fn) (h:WC P n c (bodyPost P fn R) [] w) (hb:fn.body=some c:=by exact rfl) (hn:fn.ntmps=n:=by exact rfl):Calls P f #[] w R:=Z18 hf hb hn rfl h
theorem cW1 {P:Program} {f:FuncId} {fn:Func} {c:Code} {a0:Value} {w:World} {R:Ending->World->Prop} (n:Nat) (hf:P.funcs[f]?=some fn) (h:WC P n c (bodyPost P fn R) [(0,a0)] w) (hb:fn.body=some c:=by exact rfl) (hn:fn.ntmps=n:=by exact rfl) (hs:Nat.ble 1 n=true:=by exact rfl):Calls P f #[a0] w R:=Z18 hf hb hn hs h
theorem cW2 {P:Program} {f:FuncId} {fn:Func} {c:Code} {a0 a1:Value} {w:World} {R:Ending->World->Prop} (n:Nat) (hf:P.funcs[f]?=some fn) (h:WC P n c (bodyPost P fn R) [(0,a0),(1,a1)] w) (hb:fn.body=some c:=by exact rfl) (hn:fn.ntmps=n:=by exact rfl) (hs:Nat.ble 2 n=true:=by exact rfl):Calls P f #[a0,a1] w R:=Z18 hf hb hn hs h
theorem cW3 {P:Program} {f:FuncId} {fn:Func} {c:Code} {a0 a1 a2:Value} {w:World} {R:Ending->World->Prop} (n:Nat) (hf:P.funcs[f]?=some fn) (h:WC P n c (bodyPost P fn R) [(0,a0),(1,a1),(2,a2)] w) (hb:fn.body=some c:=by exact rfl) (hn:fn.ntmps=n:=by exact rfl) (hs:Nat.ble 3 n=true:=by exact rfl):Calls P f #[a0,a1,a2] w R:=Z18 hf hb hn hs h
theorem cW4 {P:Program} {f:FuncId} {fn:Func} {c:Code} {a0 a1 a2 a3:Value} {w:World} {R:Ending->World->Prop} (n:Nat) (hf:P.funcs[f]?=some fn) (h:WC P n c (bodyPost P fn R) [(0,a0),(1,a1),(2,a2),(3,a3)] w) (hb:fn.body=some c:=by exact rfl) (hn:fn.ntmps=n:=by exact rfl) (hs:Nat.ble 4 n=true:=by exact rfl):Calls P f #[a0,a1,a2,a3] w R:=Z18 hf hb hn hs h
theorem cW5 {P:Program} {f:FuncId} {fn:Func} {c:Code} {a0 a1 a2 a3 a4:Value} {w:World} {R:Ending->World->Prop} (n:Nat) (hf:P.funcs[f]?=some fn) (h:WC P n c (bodyPost P fn R) [(0,a0),(1,a1),(2,a2),(3,a3),(4,a4)] w) (hb:fn.body=some c:=by exact rfl) (hn:fn.ntmps=n:=by exact rfl) (hs:Nat.ble 5 n=true:=by exact rfl):Calls P f #[a0,a1,a2,a3,a4] w R:=Z18 hf hb hn hs h
class Und (P:Program) (t:Nat) (d:outParam TypeDesc):Prop where
 h:P.underlying t=some d
class Siz (P:Program) (t:Nat) (k:outParam Nat):Prop where
 h:(P.info? t).map (·.size)=some k
class Zer (P:Program) (t:Nat) (z:outParam Value):Prop where
 h:(P.info? t).bind (·.zero)=some z
class Byt (P:Program) (t:Nat) (k:outParam Nat):Prop where
 h:(P.info? t).map (·.bytes)=some k
class Fld (P:Program) (t i:Nat) (off:outParam Nat):Prop where
 h:∃ fs f k,P.underlying t=some (.struct fs)/\fs[i]?=some f/\f.offset=off/\(P.info? f.type).map (·.size)=some (k+1)
class Fun (P:Program) (f:Nat) (fn:outParam Func):Prop where
 h:P.funcs[f]?=some fn
 enters:Enters P f
theorem Siz.run {P:Program} {t k:Nat} [h:Siz P t k] (w:World):(sizeOf t).run P w=.ok k w:=by
 have:=h.h;cases hi:P.info? t with
 | none=>simp [hi] at this
 | some i=>rw [hi] at this;simp at this;simp [sizeOf,typeInfo,hi,this]
theorem Zer.run {P:Program} {t:Nat} {z:Value} [h:Zer P t z] (w:World):(zeroValue t).run P w=.ok z w:=by
 have:=h.h;cases hi:P.info? t with
 | none=>simp [hi] at this
 | some i=>rw [hi] at this;simp at this;simp [zeroValue,typeInfo,hi,this]
def Z0K:TypeDesc->Bool
 | .struct _|.array _ _=>true
 | _=>false
theorem Und.isAgg {P:Program} {t:Nat} {d:TypeDesc} [h:Und P t d] (w:World):(Go.isAgg t).run P w=.ok (Z0K d) w:=by
 cases d<;>simp [Go.isAgg,run_underlying h.h,Z0K]
section rules
variable {P:Program} {n:Nat} {e:Env} {w:World} {d:Option Nat} {ty:TypeId} {pos:String} {af:Array Edge} {g:Option (Nat×Bool)}
theorem ZX {x:Operand} {v:Value} (hx:ev e x=some v):PR P n ⟨d,.move x,ty,pos,af,g⟩ e w v:=⟨λa ha=>by simp [execOp,ha.ev hx]⟩
theorem Z6e {x:Operand} {v:Value} (hx:ev e x=some v):PR P n ⟨d,.assign x,ty,pos,af,g⟩ e w v:=⟨λa ha=>by simp [execOp,ha.ev hx]⟩
theorem Zg3 {c x y:Operand} {v:Value} (hc:ev e c=some (.bool true)) (hx:ev e x=some v):PR P n ⟨d,.pick c x y,ty,pos,af,g⟩ e w v:=
 ⟨λa ha=>by simp [execOp,ha.ev hc,ha.ev hx,asBool]⟩
theorem Zg4 {c x y:Operand} {v:Value} (hc:ev e c=some (.bool false)) (hx:ev e y=some v):PR P n ⟨d,.pick c x y,ty,pos,af,g⟩ e w v:=
 ⟨λa ha=>by simp [execOp,ha.ev hc,ha.ev hx,asBool]⟩
theorem Zi2 {x:Operand} {b:Bool} (hx:ev e x=some (.bool b)) {t:TypeId}:PR P n ⟨d,.unOp .not t x,ty,pos,af,g⟩ e w (.bool (!b)):=
 ⟨λa ha=>by simp [execOp,ha.ev hx,Op.unary]⟩
theorem Zi3 {x:Operand} (hx:ev e x=some (.bool true)) {t:TypeId}:PR P n ⟨d,.unOp .not t x,ty,pos,af,g⟩ e w (.bool false):=
 ⟨λa ha=>by simp [execOp,ha.ev hx,Op.unary]⟩
theorem Zi4 {x:Operand} (hx:ev e x=some (.bool false)) {t:TypeId}:PR P n ⟨d,.unOp .not t x,ty,pos,af,g⟩ e w (.bool true):=
 ⟨λa ha=>by simp [execOp,ha.ev hx,Op.unary]⟩
def I64 (z:Int):Prop:=-9223372036854775808<=z/\z<=9223372036854775807
theorem Z0e {z:Int} (h:I64 z):IntKind.i64.wrap z=z:=by
 unfold I64 at h;rw [IntKind.wrap_i64];omega
section arith
variable {x y:Operand} {a b:Int} {t u:TypeId}
theorem ZdN (hx:ev e x=some (.int .i64 a)) (hy:ev e y=some (.int .i64 b)) (hr:I64 (a+b)):PR P n ⟨d,.binOp .add t x y u,ty,pos,af,g⟩ e w (.int .i64 (a+b)):=
 ⟨λc ha=>by simp only [execOp,ha.ev hx,ha.ev hy];simp [go_sem,Op.intArith,Z0e hr]⟩
theorem Z6f (hx:ev e x=some (.int .i64 a)) (hy:ev e y=some (.int .i64 b)) (hr:I64 (a - b)):PR P n ⟨d,.binOp .sub t x y u,ty,pos,af,g⟩ e w (.int .i64 (a - b)):=
 ⟨λc ha=>by simp only [execOp,ha.ev hx,ha.ev hy];simp [go_sem,Op.intArith,Z0e hr]⟩
theorem Zp5 (hx:ev e x=some (.int .i64 a)) (hy:ev e y=some (.int .i64 b)) (hr:I64 (a * b)):PR P n ⟨d,.binOp .mul t x y u,ty,pos,af,g⟩ e w (.int .i64 (a * b)):=
 ⟨λc ha=>by simp only [execOp,ha.ev hx,ha.ev hy];simp [go_sem,Op.intArith,Z0e hr]⟩
theorem Zp6 (hx:ev e x=some (.int .i64 a)) (hr:I64 (- a)):PR P n ⟨d,.unOp .neg t x,ty,pos,af,g⟩ e w (.int .i64 (- a)):=
 ⟨λc ha=>by simp only [execOp,ha.ev hx];simp [go_sem,Op.unary,Op.intArith,Z0e hr]⟩
theorem Zp7 (hx:ev e x=some (.int .i64 a)) (hy:ev e y=some (.int .i64 b)) (hb:b≠0) (hr:I64 (a.tmod b)):PR P n ⟨d,.binOp .rem t x y u,ty,pos,af,g⟩ e w (.int .i64 (a.tmod b)):=
 ⟨λc ha=>by simp only [execOp,ha.ev hx,ha.ev hy];simp [go_sem,Op.intDiv,hb];try rw [Z0e hr]⟩
theorem Zp8 (hx:ev e x=some (.int .i64 a)) (hy:ev e y=some (.int .i64 b)) (hb:b≠0) (hr:I64 (a.tdiv b)):PR P n ⟨d,.binOp .quo t x y u,ty,pos,af,g⟩ e w (.int .i64 (a.tdiv b)):=
 ⟨λc ha=>by simp only [execOp,ha.ev hx,ha.ev hy];simp [go_sem,Op.intDiv,hb];try rw [Z0e hr]⟩
theorem Zfa (hx:ev e x=some (.int .i64 a)) (hy:ev e y=some (.int .i64 b)) (h0:0<=a) (hb:0<b) (hr:I64 a):PR P n ⟨d,.binOp .rem t x y u,ty,pos,af,g⟩ e w (.int .i64 (a % b)):=by
 have h1:a.tmod b=a % b:=Int.tmod_eq_emod_of_nonneg h0;rw [<- h1];refine Zp7 hx hy (by omega) ?_;rw [h1];have:=Ya4 a (show b≠0 by omega);have h2:a % b<=a:=by
  by_cases cU:a<b;rw [Ybv h0 cU];exact YaY _;have:=YaR a hb;omega
 unfold I64 at hr ⊢;omega
theorem Zfb (hx:ev e x=some (.int .i64 a)) (hy:ev e y=some (.int .i64 b)) (h0:0<=a) (hb:0<b) (hr:I64 a):PR P n ⟨d,.binOp .quo t x y u,ty,pos,af,g⟩ e w (.int .i64 (a / b)):=by
 have h1:a.tdiv b=a / b:=Int.tdiv_eq_ediv_of_nonneg h0;rw [<- h1];refine Zp8 hx hy (by omega) ?_;rw [h1];have:=Int.ediv_nonneg h0 (Int.le_of_lt hb);have h2:a / b<=a:=Int.ediv_le_self _ h0;unfold I64 at hr ⊢;omega
variable {k:IntKind}
theorem Zi5 (hx:ev e x=some (.int k a)) (hy:ev e y=some (.int k b)):PR P n ⟨d,.binOp .lss t x y u,ty,pos,af,g⟩ e w (.bool (decide (a<b))):=
 ⟨λc ha=>by simp only [execOp,ha.ev hx,ha.ev hy];simp [go_sem]⟩
theorem Zp9 (hx:ev e x=some (.int k a)) (hy:ev e y=some (.int k b)):PR P n ⟨d,.binOp .leq t x y u,ty,pos,af,g⟩ e w (.bool (decide (a<=b))):=
 ⟨λc ha=>by simp only [execOp,ha.ev hx,ha.ev hy];simp [go_sem]⟩
theorem Zi6 (hx:ev e x=some (.int k a)) (hy:ev e y=some (.int k b)):PR P n ⟨d,.binOp .gtr t x y u,ty,pos,af,g⟩ e w (.bool (decide (b<a))):=
 ⟨λc ha=>by simp only [execOp,ha.ev hx,ha.ev hy];simp [go_sem]⟩
theorem Zpa (hx:ev e x=some (.int k a)) (hy:ev e y=some (.int k b)):PR P n ⟨d,.binOp .geq t x y u,ty,pos,af,g⟩ e w (.bool (decide (b<=a))):=
 ⟨λc ha=>by simp only [execOp,ha.ev hx,ha.ev hy];simp [go_sem]⟩
theorem Zpb (hx:ev e x=some (.int k a)) (hy:ev e y=some (.int k b)):PR P n ⟨d,.binOp .eql t x y u,ty,pos,af,g⟩ e w (.bool (decide (a=b))):=
 ⟨λc ha=>by simp only [execOp,ha.ev hx,ha.ev hy];simp [go_sem];exact YaJ a b⟩
theorem Zi7 (hx:ev e x=some (.int k a)) (hy:ev e y=some (.int k b)):PR P n ⟨d,.binOp .neq t x y u,ty,pos,af,g⟩ e w (.bool (decide (¬ a=b))):=
 ⟨λc ha=>by simp only [execOp,ha.ev hx,ha.ev hy];simp [go_sem];rw [bne,YaJ]⟩
theorem ZlJ {p q:Bool} [hu:Und P t .bool] (hx:ev e x=some (.bool p)) (hy:ev e y=some (.bool q)):PR P n ⟨d,.binOp .eql t x y u,ty,pos,af,g⟩ e w (.bool (decide (p=q))):=
 ⟨λc ha=>by simp only [execOp,ha.ev hx,ha.ev hy];simp [go_sem,binOp,run_equal_bool w t p q hu.h];cases p<;>cases q<;>rfl⟩
theorem Zfc {p q:Bool} [hu:Und P t .bool] (hx:ev e x=some (.bool p)) (hy:ev e y=some (.bool q)):PR P n ⟨d,.binOp .neq t x y u,ty,pos,af,g⟩ e w (.bool (decide (¬ p=q))):=
 ⟨λc ha=>by simp only [execOp,ha.ev hx,ha.ev hy];simp [go_sem,binOp,run_equal_bool w t p q hu.h];cases p<;>cases q<;>rfl⟩
end arith
theorem ZdO {x:Operand} {vs:Array Value} {i:Nat} {v:Value} (hx:ev e x=some (.tuple vs)) (hv:vs[i]?=some v):PR P n ⟨d,.extract x i,ty,pos,af,g⟩ e w v:=
 ⟨λa ha=>by simp [execOp,ha.ev hx,Instr.extract,hv]⟩
theorem Zi8 {x:Operand} {t:TypeId} {el:TypeId} [hu:Und P t (.slice el)] {p:Option Addr} {l c:Nat} (hx:ev e x=some (.slice p l c)) :
 PR P n ⟨d,.call { callee:=.builtin .len,args:=#[x],argTypes:=#[t] },ty,pos,af,g⟩ e w (.int .i64 (l:Int)):=
 ⟨λa ha => by
   have:=run_len_slice (P:=P) w t ty p l c (by rw [hu.h,Program.elem,hu.h]);simp [execOp,resolve,invoke,builtin,ha.ev hx,this,goInt]⟩
theorem Z6X {t i off:Nat} [h:Fld P t i off] (b o:Nat) (w:World):(Instr.fieldAt t (.pointer (some ⟨b,o,none⟩)) i).run P w=.ok (.pointer (some ⟨b,o+off,none⟩)) w:=by
 obtain ⟨fs,f,k,h1,h2,rfl,h3⟩:=h.h;have:Siz P f.type (k+1):=⟨h3⟩
 simp [Instr.fieldAt,run_underlying h1,h2,Instr.sureAddr,fieldPlace,Siz.run,Addr.add_lit]
theorem Z1J {x:Operand} {t:TypeId} {b o i off:Nat} [hf:Fld P t i off] (hx:ev e x=some (.pointer (some ⟨b,o,none⟩))):PR P n ⟨d,.fieldAddr t x i,ty,pos,af,g⟩ e w (.pointer (some ⟨b,o+off,none⟩)):=
 ⟨λa ha=>by simp [execOp,ha.ev hx,Z6X]⟩
theorem JC {x:Operand} {t:TypeId} {D:TypeDesc} {ad:Addr} {v:Value} [hu:Und P t D] (hA:Z0K D=false) (hx:ev e x=some (.pointer (some ad))) (hc:w.cell? ad=some v) :
 PR P n ⟨d,.load t x,ty,pos,af,g⟩ e w v:=
 ⟨λa ha=>by simp [execOp,ha.ev hx,Instr.loadAt,Instr.sureAddr,loadVar,Und.isAgg,hA,hc]⟩
theorem Z3J {x:Operand} {t:TypeId} {D:TypeDesc} {b o k:Nat} {cs:List Value} [hu:Und P t D] (hA:Z0K D=true) [hs:Siz P t k] (hx:ev e x=some (.pointer (some ⟨b,o,none⟩)))
 (hl:cs.length=k) (hc:∀ j u,cs[j]?=some u->w.cell? ⟨b,o+j,none⟩=some u) :
 PR P n ⟨d,.load t x,ty,pos,af,g⟩ e w (.agg cs.toArray):=
 ⟨λa ha => by
   have:=run_loadCells_list (P:=P) w ⟨b,o,none⟩ cs (λj v h=>by rw [Addr.add_lit];exact hc j v h);rw [hl] at this;simp [execOp,ha.ev hx,Instr.loadAt,Instr.sureAddr,loadVar,Und.isAgg,hA,Siz.run,this]⟩
theorem ZaA {f:Nat}:PR P n ⟨d,.makeFunc (.func f) #[] #[],ty,pos,af,g⟩ e w (.func (.func f) #[] #[]):=
 ⟨λa ha=>by simp [execOp,Instr.makeFunc]⟩
theorem ZaB {f:Nat} {x:Operand} {v:Value} (hx:ev e x=some v):PR P n ⟨d,.makeFunc (.func f) #[] #[x],ty,pos,af,g⟩ e w (.func (.func f) #[] #[v]):=
 ⟨λa ha=>by simp [execOp,Instr.makeFunc,ha.ev hx]⟩
theorem ZaC {f:Nat} {x y:Operand} {v u:Value} (hx:ev e x=some v) (hy:ev e y=some u):PR P n ⟨d,.makeFunc (.func f) #[] #[x,y],ty,pos,af,g⟩ e w (.func (.func f) #[] #[v,u]):=
 ⟨λa ha=>by simp [execOp,Instr.makeFunc,ha.ev hx,ha.ev hy]⟩
theorem ZaD {f:Nat} {x y z:Operand} {v u s:Value} (hx:ev e x=some v) (hy:ev e y=some u) (hz:ev e z=some s):PR P n ⟨d,.makeFunc (.func f) #[] #[x,y,z],ty,pos,af,g⟩ e w (.func (.func f) #[] #[v,u,s]):=
 ⟨λa ha=>by simp [execOp,Instr.makeFunc,ha.ev hx,ha.ev hy,ha.ev hz]⟩
def Ret (G:Value->World->Prop) (r:Ending) (w':World):Prop:=∃ v,r=.returned v/\G v w'
theorem Ret.mk {G:Value->World->Prop} {v:Value} {w':World} (h:G v w'):Ret G (.returned v) w':=⟨v,rfl,h⟩
theorem Calls.ret {P:Program} {f:FuncId} {args:Array Value} {w:World} {G G':Value->World->Prop} (h:Calls P f args w (Ret G)) (hg:∀ v w',G v w'->G' v w'):Calls P f args w (Ret G'):=
 h.mono λ_ _ ⟨v,h1,h2⟩=>⟨v,h1,hg _ _ h2⟩
theorem Z4 {f:Nat} {fn:Func} {xs:Array Operand} {ts:Array TypeId} {vs:Array Value} {G:Value->World->Prop} {c:Operand} [hf:Fun P f fn] (hc:ev e c=some (.func (.func f) #[] #[]))
 (hv:∀ a,Has n e a->xs.map a.eval=vs) (h:Calls P f vs w (Ret G)) :
 OE P n ⟨d,.call { callee:=.value c,args:=xs,argTypes:=ts },ty,pos,af,g⟩ e w G:=
 ⟨λa ha Q => by
   have he:(execOp a.eval ⟨d,.call { callee:=.value c,args:=xs,argTypes:=ts },ty,pos,af,g⟩).run P w=.ok (.enter f vs) w:=by
    simp only [execOp,resolve,ha.ev hc,Deferred.ofValue,hv a ha];simp [invoke];exact hf.enters vs w
   unfold Oper.wp;rw [he];simp only [Oper.upon];refine h.mono ?_;rintro r w' ⟨v,rfl,hg⟩;exact ⟨v,rfl,hg⟩⟩
theorem Z0l {f:Nat} {fn:Func} {xs:Array Operand} {ts:Array TypeId} {vs cap us:Array Value} {G:Value->World->Prop} {c:Operand} [hf:Fun P f fn] (hc:ev e c=some (.func (.func f) #[] cap))
 (hv:∀ a,Has n e a->xs.map a.eval=vs) (hu:vs++cap=us) (h:Calls P f us w (Ret G)) :
 OE P n ⟨d,.call { callee:=.value c,args:=xs,argTypes:=ts },ty,pos,af,g⟩ e w G:=
 ⟨λa ha Q => by
   have he:(execOp a.eval ⟨d,.call { callee:=.value c,args:=xs,argTypes:=ts },ty,pos,af,g⟩).run P w=.ok (.enter f us) w:=by
    simp only [execOp,resolve,ha.ev hc,Deferred.ofValue,hv a ha];simp [invoke,hu];exact hf.enters us w
   unfold Oper.wp;rw [he];simp only [Oper.upon];refine h.mono ?_;rintro r w' ⟨v,rfl,hg⟩;exact ⟨v,rfl,hg⟩⟩
theorem Z6g:∀ a,Has n e a->(#[]:Array Operand).map a.eval=#[]:=λa ha=>by simp
theorem ZN {x:Operand} {v:Value} (hx:ev e x=some v):∀ a,Has n e a->#[x].map a.eval=#[v]:=λa ha=>by simp [ha.ev hx]
theorem Zf {x y:Operand} {v u:Value} (hx:ev e x=some v) (hy:ev e y=some u):∀ a,Has n e a->#[x,y].map a.eval=#[v,u]:=λa ha=>by simp [ha.ev hx,ha.ev hy]
theorem ZK {x y z:Operand} {v u s:Value} (hx:ev e x=some v) (hy:ev e y=some u) (hz:ev e z=some s):∀ a,Has n e a->#[x,y,z].map a.eval=#[v,u,s]:=λa ha=>by simp [ha.ev hx,ha.ev hy,ha.ev hz]
theorem Z7v {x y z k:Operand} {v u s r:Value} (hx:ev e x=some v) (hy:ev e y=some u) (hz:ev e z=some s) (hk:ev e k=some r):∀ a,Has n e a->#[x,y,z,k].map a.eval=#[v,u,s,r]:=
 λa ha=>by simp [ha.ev hx,ha.ev hy,ha.ev hz,ha.ev hk]
theorem Zg5 {x y z k l:Operand} {v u s r q:Value} (hx:ev e x=some v) (hy:ev e y=some u) (hz:ev e z=some s) (hk:ev e k=some r) (hl:ev e l=some q):∀ a,Has n e a->#[x,y,z,k,l].map a.eval=#[v,u,s,r,q]:=
 λa ha=>by simp [ha.ev hx,ha.ev hy,ha.ev hz,ha.ev hk,ha.ev hl]
end rules
theorem mkF {P:Program} {f:Nat} {fn:Func} {c:Code} (h:P.funcs[f]?=some fn) (h2:(fn.name == "runtime.NumGoroutine")=false:=by kernel_rfl) (h3:fn.body=some c:=by exact rfl):Fun P f fn:=⟨h,enters_of h h2 h3⟩
theorem uM {P:Program} {t:Nat} {d:TypeDesc} (h:P.underlying t=some d):Und P t d:=⟨h⟩
end Go.Eng
namespace Go.Proofs.YtipfkbkkndacjaaGreatDoor
open Go Go.Eng
theorem sMz (t k:Nat) (h:(Tryz.prog.info? t).map (·.size)=some k:=by kernel_rfl):Siz Tryz.prog t k:=⟨h⟩
theorem bMz (t k:Nat) (h:(Tryz.prog.info? t).map (·.bytes)=some k:=by kernel_rfl):Byt Tryz.prog t k:=⟨h⟩
theorem zMz (t:Nat) (z:Value) (h:(Tryz.prog.info? t).bind (·.zero)=some z:=by kernel_rfl):Zer Tryz.prog t z:=⟨h⟩
theorem fMz {t:Nat} (i off k:Nat) {fs:Array Field} {f:Field} (hu:Tryz.prog.underlying t=some (.struct fs)) (h1:fs[i]?=some f:=by exact rfl) (h2:f.offset=off:=by exact rfl) (h3:(Tryz.prog.info? f.type).map (·.size)=some (k+1):=by kernel_rfl):Fld Tryz.prog t i off:=⟨fs,f,k,hu,h1,h2,h3⟩
theorem mixed:Tryz.prog.follows .mixedOrders=true:=by kernel_rfl
abbrev ZxG:=uM Tryz.underlying3
abbrev ZxH:=sMz 3 1
abbrev ZxI:=bMz 3 8
abbrev ZxJ:=zMz 3 (.int .i64 0)
abbrev ZxK:=uM Tryz.underlying4
abbrev ZxL:=sMz 4 1
abbrev ZxM:=bMz 4 1
abbrev ZxN:=zMz 4 (.bool false)
abbrev ZxO:=uM Tryz.underlying5
abbrev ZxP:=sMz 5 1
abbrev ZxQ:=uM Tryz.underlying9
abbrev ZxR:=sMz 9 1
abbrev ZxS:=bMz 9 16
abbrev ZxT:=zMz 9 (.string ByteArray.empty)
abbrev ZtU:=uM Tryz.underlying20
abbrev ZtV:=uM Tryz.underlying21
abbrev ZtW:=uM Tryz.underlying22
abbrev ZtX:=sMz 22 1
abbrev ZtY:=uM Tryz.underlying23
abbrev ZtZ:=sMz 23 1
abbrev Zu0:=bMz 23 24
abbrev Zu1:=zMz 23 (.slice none 0 0)
abbrev Zu2:=uM Tryz.underlying24
abbrev Zu3:=sMz 24 1
abbrev Zu4:=zMz 24 (.slice none 0 0)
abbrev Zu5:=uM Tryz.underlying25
abbrev Zu6:=sMz 25 1
abbrev Zu7:=uM Tryz.underlying26
abbrev Zu8:=uM Tryz.underlying27
abbrev Zu9:=sMz 27 1
abbrev Zua:=zMz 27 (.slice none 0 0)
abbrev Zub:=uM Tryz.underlying28
abbrev Zuc:=uM Tryz.underlying29
abbrev Zud:=sMz 29 1
abbrev Zue:=uM Tryz.underlying30
abbrev Zuf:=sMz 30 1
abbrev Zug:=uM Tryz.underlying31
abbrev Zuh:=sMz 31 1
abbrev Zui:=uM Tryz.underlying33
abbrev Zuj:=sMz 33 2
abbrev Zuk:=zMz 33 (.agg #[.int .i64 0,.slice none 0 0])
abbrev ZlK:=fMz 0 0 0 Tryz.underlying33
abbrev ZlL:=fMz 1 1 0 Tryz.underlying33
abbrev Zul:=uM Tryz.underlying35
abbrev Zum:=sMz 35 12
abbrev Zun:=zMz 35 (.agg #[.bool false,.bool false,.bool false,.bool false,.bool false,.bool false,.bool false,.slice none 0 0,.slice none 0 0,.int .i64 0,.slice none 0 0,.int .i64 0])
abbrev ZlM:=fMz 0 0 6 Tryz.underlying35
abbrev ZlN:=fMz 1 7 0 Tryz.underlying35
abbrev ZlO:=fMz 2 8 0 Tryz.underlying35
abbrev ZlP:=fMz 3 9 1 Tryz.underlying35
abbrev ZlQ:=fMz 4 11 0 Tryz.underlying35
abbrev Zuo:=uM Tryz.underlying37
abbrev Zup:=sMz 37 19
abbrev Zuq:=zMz 37 (.agg #[.slice none 0 0,.slice none 0 0,.slice none 0 0,.slice none 0 0,.slice none 0 0,.bool false,.bool false,.bool false,.bool false,.bool false,.bool false,.bool false,.slice none 0 0,.slice none 0 0,.int .i64 0,.slice none 0 0,.int .i64 0,.int .i64 0,.int .i64 0])
abbrev ZlR:=fMz 0 0 0 Tryz.underlying37
abbrev ZlS:=fMz 1 1 0 Tryz.underlying37
abbrev ZlT:=fMz 2 2 0 Tryz.underlying37
abbrev ZlU:=fMz 3 3 0 Tryz.underlying37
abbrev ZlV:=fMz 4 4 0 Tryz.underlying37
abbrev ZlW:=fMz 5 5 11 Tryz.underlying37
abbrev ZlX:=fMz 6 17 0 Tryz.underlying37
abbrev ZlY:=fMz 7 18 0 Tryz.underlying37
abbrev Zur:=uM Tryz.underlying45
abbrev Zus:=sMz 45 6
abbrev Zut:=bMz 45 56
abbrev Zuu:=zMz 45 (.agg #[.int .i64 0,.string ByteArray.empty,.int .i64 0,.int .i64 0,.int .i64 0,.int .i64 0])
abbrev ZlZ:=fMz 0 0 0 Tryz.underlying45
abbrev Zm0:=fMz 1 1 0 Tryz.underlying45
abbrev Zm1:=fMz 2 2 0 Tryz.underlying45
abbrev Zm2:=fMz 3 3 0 Tryz.underlying45
abbrev Zm3:=fMz 4 4 0 Tryz.underlying45
abbrev Zm4:=fMz 5 5 0 Tryz.underlying45
abbrev Zuv:=uM Tryz.underlying47
abbrev Zuw:=sMz 47 1
abbrev Zux:=zMz 47 (.slice none 0 0)
abbrev Zuy:=uM Tryz.underlying54
abbrev Zuz:=sMz 54 1
abbrev ZuA:=uM Tryz.underlying56
abbrev ZuB:=sMz 56 11
abbrev ZuC:=bMz 56 120
abbrev ZuD:=zMz 56 (.agg #[.string ByteArray.empty,.int .i64 0,.string ByteArray.empty,.int .i64 0,.int .i64 0,.int .i64 0,.int .i64 0,.int .i64 0,.int .i64 0,.int .i64 0,.slice none 0 0])
abbrev Zm5:=fMz 0 0 0 Tryz.underlying56
abbrev Zm6:=fMz 1 1 5 Tryz.underlying56
abbrev Zm7:=fMz 2 7 0 Tryz.underlying56
abbrev Zm8:=fMz 3 8 0 Tryz.underlying56
abbrev Zm9:=fMz 4 9 0 Tryz.underlying56
abbrev Zma:=fMz 5 10 0 Tryz.underlying56
abbrev ZuE:=uM Tryz.underlying60
abbrev ZuF:=sMz 60 1
abbrev ZuG:=uM Tryz.underlying62
abbrev ZuH:=sMz 62 7
abbrev ZuI:=bMz 62 120
abbrev ZuJ:=zMz 62 (.agg #[.string ByteArray.empty,.int .i64 0,.string ByteArray.empty,.slice none 0 0,.slice none 0 0,.string ByteArray.empty,.string ByteArray.empty])
abbrev Zmb:=fMz 0 0 0 Tryz.underlying62
abbrev Zmc:=fMz 1 1 0 Tryz.underlying62
abbrev Zmd:=fMz 2 2 0 Tryz.underlying62
abbrev Zme:=fMz 3 3 0 Tryz.underlying62
abbrev Zmf:=fMz 4 4 0 Tryz.underlying62
abbrev Zmg:=fMz 5 5 0 Tryz.underlying62
abbrev Zmh:=fMz 6 6 0 Tryz.underlying62
abbrev ZuK:=uM Tryz.underlying67
abbrev ZuL:=sMz 67 3
abbrev ZuM:=bMz 67 24
abbrev ZuN:=zMz 67 (.agg #[.int .i64 0,.int .i64 0,.int .i64 0])
abbrev Zmi:=fMz 0 0 0 Tryz.underlying67
abbrev Zmj:=fMz 1 1 0 Tryz.underlying67
abbrev ZuO:=uM Tryz.underlying73
abbrev ZuP:=sMz 73 3
abbrev ZuQ:=bMz 73 24
abbrev ZuR:=zMz 73 (.agg #[.int .i64 0,.int .i64 0,.int .i64 0])
abbrev Zmk:=fMz 0 0 0 Tryz.underlying73
abbrev Zml:=fMz 1 1 0 Tryz.underlying73
abbrev Zmm:=fMz 2 2 0 Tryz.underlying73
abbrev ZuS:=uM Tryz.underlying75
abbrev ZuT:=sMz 75 2
abbrev ZuU:=bMz 75 16
abbrev ZuV:=zMz 75 (.agg #[.int .i64 0,.int .i64 0])
abbrev Zmn:=fMz 0 0 0 Tryz.underlying75
abbrev Zmo:=fMz 1 1 0 Tryz.underlying75
abbrev ZuW:=uM Tryz.underlying76
abbrev ZuX:=sMz 76 1
abbrev ZuY:=uM Tryz.underlying78
abbrev ZuZ:=sMz 78 5
abbrev Zv0:=bMz 78 56
abbrev Zv1:=zMz 78 (.agg #[.int .i64 0,.int .i64 0,.int .i64 0,.int .i64 0,.slice none 0 0])
abbrev Zmp:=fMz 0 0 0 Tryz.underlying78
abbrev Zmq:=fMz 1 1 0 Tryz.underlying78
abbrev Zmr:=fMz 2 2 0 Tryz.underlying78
abbrev Zms:=fMz 3 3 0 Tryz.underlying78
abbrev Zmt:=fMz 4 4 0 Tryz.underlying78
abbrev Zv2:=uM Tryz.underlying80
abbrev Zv3:=sMz 80 4
abbrev Zv4:=bMz 80 32
abbrev Zv5:=zMz 80 (.agg #[.int .i64 0,.int .i64 0,.int .i64 0,.int .i64 0])
abbrev Zmu:=fMz 0 0 0 Tryz.underlying80
abbrev Zmv:=fMz 1 1 0 Tryz.underlying80
abbrev Zmw:=fMz 2 2 0 Tryz.underlying80
abbrev Zmx:=fMz 3 3 0 Tryz.underlying80
abbrev Zv6:=uM Tryz.underlying90
abbrev Zv7:=sMz 90 1
abbrev Zv8:=zMz 90 (.slice none 0 0)
abbrev Zv9:=uM Tryz.underlying92
abbrev Zva:=sMz 92 1
abbrev Zvb:=zMz 92 (.int .i64 0)
abbrev Zvc:=uM Tryz.underlying95
abbrev Zvd:=uM Tryz.underlying97
abbrev Zve:=sMz 97 4
abbrev Zvf:=zMz 97 (.agg #[.int .i64 0,.int .i64 0,.string ByteArray.empty,.slice none 0 0])
abbrev Zmy:=fMz 0 0 0 Tryz.underlying97
abbrev Zmz:=fMz 1 1 0 Tryz.underlying97
abbrev ZmA:=fMz 2 2 0 Tryz.underlying97
abbrev ZmB:=fMz 3 3 0 Tryz.underlying97
abbrev Zvg:=uM Tryz.underlying99
abbrev Zvh:=sMz 99 13
abbrev Zvi:=bMz 99 184
abbrev Zvj:=zMz 99 (.agg #[.string ByteArray.empty,.int .i64 0,.string ByteArray.empty,.int .i64 0,.int .i64 0,.string ByteArray.empty,.slice none 0 0,.int .i64 0,.int .i64 0,.string ByteArray.empty,.slice none 0 0,.string ByteArray.empty,.string ByteArray.empty])
abbrev ZmC:=fMz 0 0 0 Tryz.underlying99
abbrev ZmD:=fMz 1 1 0 Tryz.underlying99
abbrev ZmE:=fMz 2 2 0 Tryz.underlying99
abbrev ZmF:=fMz 3 3 3 Tryz.underlying99
abbrev ZmG:=fMz 4 7 3 Tryz.underlying99
abbrev ZmH:=fMz 5 11 0 Tryz.underlying99
abbrev ZmI:=fMz 6 12 0 Tryz.underlying99
abbrev Zpc:=uM Tryz.underlying108
abbrev Zpd:=sMz 108 1
abbrev Zpe:=zMz 108 (.map none)
abbrev Zpf:=uM Tryz.underlying113
abbrev Zpg:=sMz 113 7
abbrev Zph:=zMz 113 (.agg #[.int .i64 0,.int .i64 0,.int .i64 0,.int .i64 0,.int .i64 0,.int .i64 0,.int .i64 0])
abbrev Zi9:=fMz 0 0 0 Tryz.underlying113
abbrev Zia:=fMz 1 1 0 Tryz.underlying113
abbrev Zib:=fMz 2 2 0 Tryz.underlying113
abbrev Zic:=fMz 3 3 0 Tryz.underlying113
abbrev Zid:=fMz 4 4 0 Tryz.underlying113
abbrev Zie:=fMz 5 5 0 Tryz.underlying113
abbrev Zif:=fMz 6 6 0 Tryz.underlying113
abbrev Zpi:=uM Tryz.underlying115
abbrev Zpj:=sMz 115 3
abbrev Zpk:=bMz 115 24
abbrev Zpl:=zMz 115 (.agg #[.int .i64 0,.int .i64 0,.int .i64 0])
abbrev Zig:=fMz 0 0 0 Tryz.underlying115
abbrev Zih:=fMz 1 1 0 Tryz.underlying115
abbrev Zii:=fMz 2 2 0 Tryz.underlying115
abbrev Zpm:=uM Tryz.underlying128
abbrev Zpn:=uM Tryz.underlying132
abbrev Zpo:=sMz 132 3
abbrev Zpp:=zMz 132 (.agg #[.int .i64 0,.int .i64 0,.int .i64 0])
abbrev Zij:=fMz 0 0 0 Tryz.underlying132
abbrev Zik:=fMz 1 1 0 Tryz.underlying132
abbrev Zil:=fMz 2 2 0 Tryz.underlying132
abbrev Zpq:=uM Tryz.underlying138
abbrev Zpr:=sMz 138 9
abbrev Zps:=bMz 138 72
abbrev Zpt:=zMz 138 (.agg #[.int .i64 0,.int .i64 0,.int .i64 0,.int .i64 0,.int .i64 0,.int .i64 0,.int .i64 0,.int .i64 0,.int .i64 0])
abbrev Zim:=fMz 0 0 0 Tryz.underlying138
abbrev Zin:=fMz 1 1 0 Tryz.underlying138
abbrev Zio:=fMz 2 2 0 Tryz.underlying138
abbrev Zip:=fMz 3 3 0 Tryz.underlying138
abbrev Ziq:=fMz 4 4 0 Tryz.underlying138
abbrev Zir:=fMz 5 5 0 Tryz.underlying138
abbrev Zis:=fMz 6 6 0 Tryz.underlying138
abbrev Zit:=fMz 7 7 0 Tryz.underlying138
abbrev Ziu:=fMz 8 8 0 Tryz.underlying138
abbrev Zpu:=sMz 141 2
abbrev Zpv:=bMz 141 16
abbrev Zpw:=zMz 141 (.agg #[.int .i64 0,.int .i64 0])
abbrev Ziv:=fMz 0 0 0 Tryz.underlying141
abbrev Zpx:=uM Tryz.underlying143
abbrev Zpy:=sMz 143 2
abbrev Zpz:=bMz 143 16
abbrev ZpA:=zMz 143 (.agg #[.int .i64 0,.int .i64 0])
abbrev Ziw:=fMz 0 0 0 Tryz.underlying143
abbrev Zix:=fMz 1 1 0 Tryz.underlying143
abbrev Ziy:=fMz 0 0 0 Tryz.underlying146
abbrev Ziz:=fMz 1 1 0 Tryz.underlying146
abbrev ZpB:=uM Tryz.underlying153
abbrev ZpC:=uM Tryz.underlying160
abbrev ZpD:=uM Tryz.underlying164
abbrev ZiA:=fMz 0 0 6 Tryz.underlying167
abbrev ZiB:=fMz 1 7 11 Tryz.underlying167
abbrev ZiC:=fMz 2 19 0 Tryz.underlying167
abbrev ZiD:=fMz 3 20 0 Tryz.underlying167
abbrev ZiE:=fMz 4 21 0 Tryz.underlying167
abbrev ZiF:=fMz 5 22 0 Tryz.underlying167
abbrev ZiG:=fMz 6 23 0 Tryz.underlying167
abbrev ZiH:=fMz 7 24 0 Tryz.underlying167
abbrev ZpE:=uM Tryz.underlying168
abbrev ZpF:=uM Tryz.underlying171
abbrev ZpG:=sMz 171 2
abbrev ZpH:=bMz 171 16
abbrev ZpI:=zMz 171 (.agg #[.int .i64 0,.int .i64 0])
abbrev ZiI:=fMz 0 0 0 Tryz.underlying171
abbrev ZiJ:=fMz 1 1 0 Tryz.underlying171
abbrev ZpJ:=zMz 172 (.nilFunc)
abbrev ZpK:=uM Tryz.underlying183
abbrev ZpL:=sMz 183 4
abbrev ZpM:=bMz 183 40
abbrev ZpN:=zMz 183 (.agg #[.int .i64 0,.int .i64 0,.string ByteArray.empty,.int .i64 0])
abbrev ZiK:=fMz 0 0 0 Tryz.underlying183
abbrev ZiL:=fMz 1 1 0 Tryz.underlying183
abbrev ZiM:=fMz 2 2 0 Tryz.underlying183
abbrev ZiN:=fMz 3 3 0 Tryz.underlying183
abbrev ZpO:=uM Tryz.underlying184
abbrev ZiO:=fMz 0 0 0 Tryz.underlying186
abbrev ZiP:=fMz 1 1 0 Tryz.underlying186
abbrev ZpP:=uM Tryz.underlying192
abbrev ZpQ:=uM Tryz.underlying197
abbrev ZpR:=uM Tryz.underlying235
abbrev ZpS:=sMz 235 2
abbrev ZpT:=zMz 235 (.agg #[.int .i64 0,.int .i64 0])
abbrev ZiQ:=fMz 0 0 0 Tryz.underlying235
abbrev ZiR:=fMz 1 1 0 Tryz.underlying235
abbrev ZpU:=zMz 244 (.agg #[.slice none 0 0])
abbrev ZiS:=fMz 0 0 0 Tryz.underlying244
abbrev ZpV:=uM Tryz.underlying259
abbrev ZpW:=uM Tryz.underlying262
abbrev ZpX:=sMz 262 8
abbrev ZpY:=zMz 262 (.agg #[.int .i64 0,.bool false,.int .i64 0,.string ByteArray.empty,.int .i64 0,.int .i64 0,.int .i64 0,.int .i64 0])
abbrev ZiT:=fMz 0 0 0 Tryz.underlying262
abbrev ZiU:=fMz 1 1 0 Tryz.underlying262
abbrev ZiV:=fMz 2 2 5 Tryz.underlying262
abbrev ZpZ:=uM Tryz.underlying263
abbrev Zq0:=uM Tryz.underlying265
abbrev Zq1:=uM Tryz.underlying268
abbrev Zq2:=uM Tryz.underlying282
abbrev Zq3:=sMz 282 7
abbrev Zq4:=zMz 282 (.agg #[.int .i64 0,.int .i64 0,.int .i64 0,.int .i64 0,.int .i64 0,.int .i64 0,.int .i64 0])
abbrev Zq5:=uM Tryz.underlying295
abbrev Zq6:=uM Tryz.underlying312
abbrev Zq7:=uM Tryz.underlying313
abbrev ZiW:=fMz 0 0 0 Tryz.underlying318
abbrev ZiX:=fMz 1 1 0 Tryz.underlying318
abbrev ZiY:=fMz 2 2 0 Tryz.underlying318
abbrev Zq8:=uM Tryz.underlying322
abbrev Zq9:=sMz 324 2
abbrev ZiZ:=fMz 1 1 0 Tryz.underlying324
abbrev Zqa:=uM Tryz.underlying325
abbrev Zqb:=sMz 325 8
abbrev Zqc:=zMz 325 (.agg #[.nilFunc,.nilFunc,.nilFunc,.nilFunc,.nilFunc,.nilFunc,.nilFunc,.nilFunc])
abbrev Zqd:=uM Tryz.underlying329
abbrev Zqe:=zMz 329 (.agg #[.int .i64 0,.int .i64 0,.int .i64 0,.int .i64 0,.int .i64 0,.int .i64 0,.int .i64 0,.int .i64 0,.int .i64 0,.int .i64 0,.int .i64 0,.int .i64 0,.int .i64 0,.int .i64 0,.int .i64 0,.int .i64 0,.int .i64 0,.int .i64 0,.int .i64 0,.int .i64 0,.int .i64 0,.int .i64 0,.int .i64 0,.int .i64 0,.int .i64 0,.int .i64 0,.int .i64 0,.int .i64 0,.int .i64 0,.int .i64 0,.int .i64 0,.int .i64 0])
abbrev Zqf:=uM Tryz.underlying342
abbrev Zqg:=uM Tryz.underlying345
abbrev Zqh:=sMz 345 2
abbrev Zqi:=bMz 345 16
abbrev Zqj:=zMz 345 (.agg #[.int .i64 0,.int .i64 0])
abbrev Zj0:=fMz 0 0 0 Tryz.underlying345
abbrev Zqk:=uM Tryz.underlying350
abbrev Zql:=sMz 350 3
abbrev Zqm:=zMz 350 (.agg #[.int .i64 0,.int .i64 0,.int .i64 0])
abbrev Zqn:=uM Tryz.underlying352
abbrev Zqo:=uM Tryz.underlying357
abbrev Zqp:=uM Tryz.underlying371
abbrev Zqq:=uM Tryz.underlying374
abbrev Zqr:=uM Tryz.underlying378
abbrev Zvk:=mkF Tryz.func10
abbrev Zvl:=mkF Tryz.func11
abbrev Zvm:=mkF Tryz.func12
abbrev Zvn:=mkF Tryz.func13
abbrev Zvo:=mkF Tryz.func15
abbrev Zvp:=mkF Tryz.func16
abbrev Zvq:=mkF Tryz.func17
abbrev Zvr:=mkF Tryz.func18
abbrev Zvs:=mkF Tryz.func19
abbrev Zvt:=mkF Tryz.func22
abbrev Zvu:=mkF Tryz.func23
abbrev Zvv:=mkF Tryz.func24
abbrev Zvw:=mkF Tryz.func25
abbrev Zvx:=mkF Tryz.func26
abbrev Zvy:=mkF Tryz.func28
abbrev Zvz:=mkF Tryz.func29
abbrev ZvA:=mkF Tryz.func30
abbrev ZvB:=mkF Tryz.func31
abbrev ZvC:=mkF Tryz.func32
abbrev ZvD:=mkF Tryz.func33
abbrev ZvE:=mkF Tryz.func34
abbrev ZvF:=mkF Tryz.func35
abbrev ZvG:=mkF Tryz.func36
abbrev ZvH:=mkF Tryz.func37
abbrev ZvI:=mkF Tryz.func38
abbrev ZvJ:=mkF Tryz.func39
abbrev ZvK:=mkF Tryz.func40
abbrev ZvL:=mkF Tryz.func41
abbrev ZvM:=mkF Tryz.func42
abbrev ZvN:=mkF Tryz.func43
abbrev ZvO:=mkF Tryz.func44
abbrev ZvP:=mkF Tryz.func45
abbrev ZvQ:=mkF Tryz.func46
abbrev ZvR:=mkF Tryz.func47
abbrev ZvS:=mkF Tryz.func48
abbrev ZvT:=mkF Tryz.func49
abbrev ZvU:=mkF Tryz.func50
abbrev ZvV:=mkF Tryz.func51
abbrev ZvW:=mkF Tryz.func52
abbrev ZvX:=mkF Tryz.func53
abbrev ZvY:=mkF Tryz.func54
abbrev ZvZ:=mkF Tryz.func55
abbrev Zw0:=mkF Tryz.func56
abbrev Zw1:=mkF Tryz.func58
abbrev Zw2:=mkF Tryz.func59
abbrev Zw3:=mkF Tryz.func60
abbrev Zw4:=mkF Tryz.func61
abbrev Zw5:=mkF Tryz.func62
abbrev Zw6:=mkF Tryz.func63
abbrev Zw7:=mkF Tryz.func64
abbrev Zw8:=mkF Tryz.func65
abbrev Zw9:=mkF Tryz.func66
abbrev Zwa:=mkF Tryz.func67
abbrev Zwb:=mkF Tryz.func68
abbrev Zwc:=mkF Tryz.func69
abbrev Zwd:=mkF Tryz.func70
abbrev Zwe:=mkF Tryz.func71
abbrev Zwf:=mkF Tryz.func74
abbrev Zwg:=mkF Tryz.func75
abbrev Zwh:=mkF Tryz.func76
abbrev Zwi:=mkF Tryz.func77
abbrev Zwj:=mkF Tryz.func78
abbrev Zwk:=mkF Tryz.func79
abbrev Zwl:=mkF Tryz.func80
abbrev Zwm:=mkF Tryz.func81
abbrev Zwn:=mkF Tryz.func82
abbrev Zwo:=mkF Tryz.func83
abbrev Zwp:=mkF Tryz.func84
abbrev Zwq:=mkF Tryz.func85
abbrev Zwr:=mkF Tryz.func86
abbrev Zws:=mkF Tryz.func87
abbrev Zwt:=mkF Tryz.func89
abbrev Zwu:=mkF Tryz.func90
abbrev Zwv:=mkF Tryz.func91
abbrev Zww:=mkF Tryz.func92
abbrev Zwx:=mkF Tryz.func93
abbrev Zwy:=mkF Tryz.func96
abbrev Zqs:=mkF Tryz.func101
abbrev Zqt:=mkF Tryz.func102
abbrev Zqu:=mkF Tryz.func103
abbrev Zqv:=mkF Tryz.func104
abbrev Zqw:=mkF Tryz.func105
abbrev Zqx:=mkF Tryz.func106
abbrev Zqy:=mkF Tryz.func107
abbrev Zqz:=mkF Tryz.func108
abbrev ZqA:=mkF Tryz.func109
abbrev ZqB:=mkF Tryz.func110
abbrev ZqC:=mkF Tryz.func111
abbrev ZqD:=mkF Tryz.func112
abbrev ZqE:=mkF Tryz.func113
abbrev ZqF:=mkF Tryz.func114
abbrev ZqG:=mkF Tryz.func125
abbrev ZqH:=mkF Tryz.func126
abbrev ZqI:=mkF Tryz.func127
abbrev ZqJ:=mkF Tryz.func128
abbrev ZqK:=mkF Tryz.func129
abbrev ZqL:=mkF Tryz.func130
abbrev ZqM:=mkF Tryz.func131
abbrev ZqN:=mkF Tryz.func132
abbrev ZqO:=mkF Tryz.func133
abbrev ZqP:=mkF Tryz.func134
abbrev ZqQ:=mkF Tryz.func135
abbrev ZqR:=mkF Tryz.func136
abbrev ZqS:=mkF Tryz.func137
abbrev ZqT:=mkF Tryz.func138
abbrev ZqU:=mkF Tryz.func139
abbrev ZqV:=mkF Tryz.func140
abbrev ZqW:=mkF Tryz.func141
abbrev ZqX:=mkF Tryz.func142
abbrev ZqY:=mkF Tryz.func143
abbrev ZqZ:=mkF Tryz.func144
abbrev Zr0:=mkF Tryz.func145
abbrev Zr1:=mkF Tryz.func146
abbrev Zr2:=mkF Tryz.func147
abbrev Zr3:=mkF Tryz.func148
abbrev Zr4:=mkF Tryz.func149
abbrev Zr5:=mkF Tryz.func150
abbrev Zr6:=mkF Tryz.func151
abbrev Zr7:=mkF Tryz.func153
abbrev Zr8:=mkF Tryz.func155
abbrev Zr9:=mkF Tryz.func156
abbrev Zra:=mkF Tryz.func157
abbrev Zrb:=mkF Tryz.func158
abbrev Zrc:=mkF Tryz.func159
abbrev Zrd:=mkF Tryz.func160
abbrev Zre:=mkF Tryz.func161
abbrev Zrf:=mkF Tryz.func162
abbrev Zrg:=mkF Tryz.func163
abbrev Zrh:=mkF Tryz.func164
abbrev Zri:=mkF Tryz.func165
abbrev Zrj:=mkF Tryz.func166
abbrev Zrk:=mkF Tryz.func167
abbrev Zrl:=mkF Tryz.func168
abbrev Zrm:=mkF Tryz.func169
abbrev Zrn:=mkF Tryz.func170
abbrev Zro:=mkF Tryz.func171
abbrev Zrp:=mkF Tryz.func178
abbrev Zrq:=mkF Tryz.func179
abbrev Zrr:=mkF Tryz.func180
abbrev Zrs:=mkF Tryz.func181
abbrev Zrt:=mkF Tryz.func182
abbrev Zru:=mkF Tryz.func183
abbrev Zrv:=mkF Tryz.func184
abbrev Zrw:=mkF Tryz.func185
abbrev Zrx:=mkF Tryz.func186
abbrev Zry:=mkF Tryz.func187
abbrev Zrz:=mkF Tryz.func188
abbrev ZrA:=mkF Tryz.func189
abbrev ZrB:=mkF Tryz.func190
abbrev ZrC:=mkF Tryz.func191
abbrev ZrD:=mkF Tryz.func192
abbrev ZrE:=mkF Tryz.func193
abbrev ZrF:=mkF Tryz.func194
abbrev ZrG:=mkF Tryz.func195
abbrev ZrH:=mkF Tryz.func201
abbrev ZrI:=mkF Tryz.func202
abbrev ZrJ:=mkF Tryz.func203
abbrev ZrK:=mkF Tryz.func204
abbrev ZrL:=mkF Tryz.func205
abbrev ZrM:=mkF Tryz.func206
abbrev ZrN:=mkF Tryz.func207
abbrev ZrO:=mkF Tryz.func208
abbrev ZrP:=mkF Tryz.func209
abbrev ZrQ:=mkF Tryz.func210
abbrev ZrR:=mkF Tryz.func213
abbrev ZrS:=mkF Tryz.func214
abbrev ZrT:=mkF Tryz.func215
abbrev ZrU:=mkF Tryz.func216
abbrev ZrV:=mkF Tryz.func217
abbrev ZrW:=mkF Tryz.func218
abbrev ZrX:=mkF Tryz.func219
abbrev ZrY:=mkF Tryz.func220
abbrev ZrZ:=mkF Tryz.func221
abbrev Zs0:=mkF Tryz.func222
abbrev Zs1:=mkF Tryz.func223
abbrev Zs2:=mkF Tryz.func224
abbrev Zs3:=mkF Tryz.func225
abbrev Zs4:=mkF Tryz.func226
abbrev Zs5:=mkF Tryz.func227
abbrev Zs6:=mkF Tryz.func228
abbrev Zs7:=mkF Tryz.func229
abbrev Zs8:=mkF Tryz.func230
abbrev Zs9:=mkF Tryz.func231
abbrev Zsa:=mkF Tryz.func234
abbrev Zsb:=mkF Tryz.func241
abbrev Zsc:=mkF Tryz.func242
abbrev Zsd:=mkF Tryz.func243
abbrev Zse:=mkF Tryz.func244
abbrev Zsf:=mkF Tryz.func245
abbrev Zsg:=mkF Tryz.func246
abbrev Zsh:=mkF Tryz.func247
abbrev Zsi:=mkF Tryz.func248
abbrev Zsj:=mkF Tryz.func249
abbrev Zsk:=mkF Tryz.func250
abbrev Zsl:=mkF Tryz.func251
abbrev Zsm:=mkF Tryz.func252
abbrev Zsn:=mkF Tryz.func253
abbrev Zso:=mkF Tryz.func254
abbrev Zsp:=mkF Tryz.func256
abbrev Zsq:=mkF Tryz.func257
abbrev Zsr:=mkF Tryz.func258
abbrev Zss:=mkF Tryz.func259
abbrev Zst:=mkF Tryz.func260
abbrev Zsu:=mkF Tryz.func261
abbrev Zsv:=mkF Tryz.func262
abbrev Zsw:=mkF Tryz.func263
abbrev Zsx:=mkF Tryz.func272
abbrev Zsy:=mkF Tryz.func273
abbrev Zsz:=mkF Tryz.func274
abbrev ZsA:=mkF Tryz.func275
abbrev ZsB:=mkF Tryz.func276
abbrev ZsC:=mkF Tryz.func277
abbrev ZsD:=mkF Tryz.func279
abbrev ZsE:=mkF Tryz.func280
abbrev ZsF:=mkF Tryz.func282
abbrev ZsG:=mkF Tryz.func283
abbrev ZsH:=mkF Tryz.func284
abbrev ZsI:=mkF Tryz.func285
abbrev ZsJ:=mkF Tryz.func290
abbrev ZsK:=mkF Tryz.func295
abbrev ZsL:=mkF Tryz.func296
abbrev ZsM:=mkF Tryz.func297
abbrev ZsN:=mkF Tryz.func298
abbrev ZsO:=mkF Tryz.func299
abbrev ZsP:=mkF Tryz.func300
abbrev ZsQ:=mkF Tryz.func301
abbrev ZsR:=mkF Tryz.func303
abbrev ZsS:=mkF Tryz.func304
abbrev ZsT:=mkF Tryz.func306
abbrev ZsU:=mkF Tryz.func307
abbrev ZsV:=mkF Tryz.func309
abbrev ZsW:=mkF Tryz.func311
abbrev ZsX:=mkF Tryz.func312
abbrev ZsY:=mkF Tryz.func314
abbrev ZsZ:=mkF Tryz.func318
abbrev Zt0:=mkF Tryz.func319
abbrev Zt1:=mkF Tryz.func321
abbrev Zt2:=mkF Tryz.func326
abbrev Zt3:=mkF Tryz.func333
abbrev Zt4:=mkF Tryz.func334
abbrev Zt5:=mkF Tryz.func335
abbrev Zt6:=mkF Tryz.func336
abbrev Zt7:=mkF Tryz.func347
abbrev Zt8:=mkF Tryz.func356
abbrev Zt9:=mkF Tryz.func360
abbrev CC (f:Nat) (a:Array Value) (w:World) (G:Value->World->Prop):=Calls Tryz.prog f a w (Ret G)
attribute [instance] ZxG ZxK ZxO ZxQ ZtU ZtV ZtW ZtY Zu2 Zu5 Zu7 Zu8 Zub Zuc Zue Zug Zui Zul Zuo Zur Zuv Zuy ZuA ZuE ZuG ZuK ZuO ZuS ZuW ZuY Zv2 Zv6 Zv9 Zvc Zvd Zvg Zpc Zpf Zpi Zpm Zpn Zpq Zpx ZpB ZpC ZpD ZpE ZpF ZpK ZpO ZpP ZpQ ZpR ZpV ZpW ZpZ Zq0 Zq1 Zq2 Zq5 Zq6 Zq7 Zq8 Zqa Zqd Zqf Zqg Zqk Zqn Zqo Zqp Zqq Zqr Zvk Zvl Zvm Zvn Zvo Zvp Zvq Zvr Zvs Zvt Zvu Zvv Zvw Zvx Zvy Zvz ZvA ZvB ZvC ZvD ZvE ZvF ZvG ZvH ZvI ZvJ ZvK ZvL ZvM ZvN ZvO ZvP ZvQ ZvR ZvS ZvT ZvU ZvV ZvW ZvX ZvY ZvZ Zw0 Zw1 Zw2 Zw3 Zw4 Zw5 Zw6 Zw7 Zw8 Zw9 Zwa Zwb Zwc Zwd Zwe Zwf Zwg Zwh Zwi Zwj Zwk Zwl Zwm Zwn Zwo Zwp Zwq Zwr Zws Zwt Zwu Zwv Zww Zwx Zwy Zqs Zqt Zqu Zqv Zqw Zqx Zqy Zqz ZqA ZqB ZqC ZqD ZqE ZqF ZqG ZqH ZqI ZqJ ZqK ZqL ZqM ZqN ZqO ZqP ZqQ ZqR ZqS ZqT ZqU ZqV ZqW ZqX ZqY ZqZ Zr0 Zr1 Zr2 Zr3 Zr4 Zr5 Zr6 Zr7 Zr8 Zr9 Zra Zrb Zrc Zrd Zre Zrf Zrg Zrh Zri Zrj Zrk Zrl Zrm Zrn Zro Zrp Zrq Zrr Zrs Zrt Zru Zrv Zrw Zrx Zry Zrz ZrA ZrB ZrC ZrD ZrE ZrF ZrG ZrH ZrI ZrJ ZrK ZrL ZrM ZrN ZrO ZrP ZrQ ZrR ZrS ZrT ZrU ZrV ZrW ZrX ZrY ZrZ Zs0 Zs1 Zs2 Zs3 Zs4 Zs5 Zs6 Zs7 Zs8 Zs9 Zsa Zsb Zsc Zsd Zse Zsf Zsg Zsh Zsi Zsj Zsk Zsl Zsm Zsn Zso Zsp Zsq Zsr Zss Zst Zsu Zsv Zsw Zsx Zsy Zsz ZsA ZsB ZsC ZsD ZsE ZsF ZsG ZsH ZsI ZsJ ZsK ZsL ZsM ZsN ZsO ZsP ZsQ ZsR ZsS ZsT ZsU ZsV ZsW ZsX ZsY ZsZ Zt0 Zt1 Zt2 Zt3 Zt4 Zt5 Zt6 Zt7 Zt8 Zt9 ZxH ZxI ZxJ ZxL ZxM ZxN ZxP ZxR ZxS ZxT ZtX ZtZ Zu0 Zu1 Zu3 Zu4 Zu6 Zu9 Zua Zud Zuf Zuh Zuj Zuk ZlK ZlL Zum Zun ZlM ZlN ZlO ZlP ZlQ Zup Zuq ZlR ZlS ZlT ZlU ZlV ZlW ZlX ZlY Zus Zut Zuu ZlZ Zm0 Zm1 Zm2 Zm3 Zm4 Zuw Zux Zuz ZuB ZuC ZuD Zm5 Zm6 Zm7 Zm8 Zm9 Zma ZuF ZuH ZuI ZuJ Zmb Zmc Zmd Zme Zmf Zmg Zmh ZuL ZuM ZuN Zmi Zmj ZuP ZuQ ZuR Zmk Zml Zmm ZuT ZuU ZuV Zmn Zmo ZuX ZuZ Zv0 Zv1 Zmp Zmq Zmr Zms Zmt Zv3 Zv4 Zv5 Zmu Zmv Zmw Zmx Zv7 Zv8 Zva Zvb Zve Zvf Zmy Zmz ZmA ZmB Zvh Zvi Zvj ZmC ZmD ZmE ZmF ZmG ZmH ZmI Zpd Zpe Zpg Zph Zi9 Zia Zib Zic Zid Zie Zif Zpj Zpk Zpl Zig Zih Zii Zpo Zpp Zij Zik Zil Zpr Zps Zpt Zim Zin Zio Zip Ziq Zir Zis Zit Ziu Zpu Zpv Zpw Ziv Zpy Zpz ZpA Ziw Zix Ziy Ziz ZiA ZiB ZiC ZiD ZiE ZiF ZiG ZiH ZpG ZpH ZpI ZiI ZiJ ZpJ ZpL ZpM ZpN ZiK ZiL ZiM ZiN ZiO ZiP ZpS ZpT ZiQ ZiR ZpU ZiS ZpX ZpY ZiT ZiU ZiV Zq3 Zq4 ZiW ZiX ZiY Zq9 ZiZ Zqb Zqc Zqe Zqh Zqi Zqj Zj0 Zql Zqm
end Go.Proofs.YtipfkbkkndacjaaGreatDoor
namespace Go.Eng
open Go Go.RowKit Go.Proofs
structure Stp (S:List Nat) (w w':World):Prop where
 os:w'.os=w.os
 tape:w'.tape=w.tape
 output:w'.output=w.output
 size:w.heap.size<=w'.heap.size
 block:∀ b,b<w.heap.size->b∉S->w'.heap[b]?=w.heap[b]?
theorem Stp.refl (S:List Nat) (w:World):Stp S w w:=⟨rfl,rfl,rfl,Xn _,λ_ _ _=>rfl⟩
theorem Stp.trans {S:List Nat} {a b c:World} (h:Stp S a b) (k:Stp S b c):Stp S a c:=
 ⟨k.os.trans h.os,k.tape.trans h.tape,k.output.trans h.output,Xh h.size k.size,λi hi hn=>(k.block i (Xa hi h.size) hn).trans (h.block i hi hn)⟩
theorem Stp.mono {S S':List Nat} {a b:World} (h:Stp S a b) (hs:∀ x∈S,x∈S'):Stp S' a b:=⟨h.os,h.tape,h.output,h.size,λi hi hn=>h.block i hi (λhx=>hn (hs i hx))⟩
theorem Stp.own {S S':List Nat} {a b c:World} (h:Stp S a b) (k:Stp S' b c) (hs:∀ x∈S',x∈S\/a.heap.size<=x):Stp S a c:=
 ⟨k.os.trans h.os, k.tape.trans h.tape, k.output.trans h.output, Xh h.size k.size, λi hi hn => (k.block i (Xa hi h.size) (λhx => by
   rcases hs i hx with h1|h1
   exact hn h1;omega)).trans (h.block i hi hn)⟩
theorem Stp.below {a b:World} (h:Stp [] a b):Below a.heap.size a b:=⟨h.os,h.tape,h.output,h.size,λi hi=>h.block i hi (by simp)⟩
theorem Stp.of_below {a b:World} (h:Below a.heap.size a b):Stp [] a b:=⟨h.os,h.tape,h.output,h.size,λi hi _=>h.block i hi⟩
theorem Stp.cell {S:List Nat} {w w':World} (h:Stp S w w') {b o:Nat} {v:Value} (hb:b∉S) (hc:w.cell? ⟨b,o,none⟩=some v):w'.cell? ⟨b,o,none⟩=some v:=by
 have hlt:b<w.heap.size:=block_lt_of_cell (a:=⟨b,o,none⟩) hc;rw [<- hc];exact World.cell?_of_block (w:=w) (h.block b hlt hb)
theorem Stp.drew (S:List Nat) (w:World):Stp S w w.drew:=⟨rfl,rfl,rfl,Xn _,λ_ _ _=>rfl⟩
theorem Stp.alloc (S:List Nat) (w:World) (o:Obj):Stp S w (w.alloc o):=⟨rfl,rfl,rfl,by simp,λk hk _=>Below.heap_alloc w o k hk⟩
theorem Stp.of_grown {w w':World} {row:Option Nat} (h:w.grownBy w' row):Stp row.toList w w':=
 ⟨h.os,h.tape,h.output,h.size,λk hk hn=>h.block k hk (λe=>hn (by simp [<- e]))⟩
class Z6 (α:Type) where
 k:Nat
 rep:List Nat->World->α->List Value->Prop
 len:∀ {X:List Nat} {w:World} {x:α} {cs:List Value},rep X w x cs->cs.length=k
 one:∀ {X:List Nat} {w:World} {x:α} {cs:List Value},rep X w x cs->∀ u∈cs,u.oneCell'=true
 ext:∀ {X S X':List Nat} {w w':World} {x:α} {cs:List Value},rep X w x cs->Stp S w w'->(∀ b∈S,b∈X)->(∀ b∈X',b∈X\/w.heap.size<=b)->rep X' w' x cs
class Z3 (α:Type) where
 k:Nat
 enc:α->List Value
 len:∀ x,(enc x).length=k
 one:∀ x,∀ u∈enc x,u.oneCell'=true
instance {α:Type} [Z3 α]:Z6 α where
 k:=Z3.k α
 rep:=λ_ _ x cs=>cs=Z3.enc x
 len:=λh=>h ▸ Z3.len _
 one:=λh=>h ▸ Z3.one _
 ext:=λh _ _ _=>h
instance:Z3 Int where
 k:=1
 enc:=λx=>[.int .i64 x]
 len:=λ_=>rfl
 one:=by intro x u hu;simp at hu;subst hu;rfl
instance:Z3 Bool where
 k:=1
 enc:=λx=>[.bool x]
 len:=λ_=>rfl
 one:=by intro x u hu;simp at hu;subst hu;rfl
def SlV {α:Type} [Z6 α] (X:List Nat) (w:World) (v:Value) (xs:List α):Prop:=
 ∃ (p : Option Addr) (c : Nat), v = .slice p xs.length c /\ xs.length <= c /\ c <= maxLen /\ (p = none -> c = 0)/\
   ∀ i (h:i<xs.length),∃ b o cs,p=some ⟨b,o,none⟩/\b<w.heap.size/\b∉X/\Z6.rep X w xs[i] cs/\∀ j u,cs[j]?=some u->w.cell? ⟨b,o+i * Z6.k α+j,none⟩=some u
theorem SlV.ext {α:Type} [Z6 α] {X S X':List Nat} {w w':World} {v:Value} {xs:List α} (h:SlV X w v xs) (hS:Stp S w w') (h1:∀ b∈S,b∈X) (h2:∀ b∈X',b∈X\/w.heap.size<=b):SlV X' w' v xs:=by
 obtain ⟨p,c,hv,hl,hm,hn,hc⟩:=h;refine ⟨p,c,hv,hl,hm,hn,λi hi=>?_⟩;obtain ⟨b,o,cs,hp,hb,hx,hr,aq⟩:=hc i hi;refine ⟨b,o,cs,hp,Xa hb hS.size,λuE=>?_,Z6.ext hr hS h1 h2,λj u hu=>hS.cell (λdK=>hx (h1 b dK)) (aq j u hu)⟩;rcases h2 b uE with h|h
 exact hx h;omega
theorem SlV.up {α:Type} [Z6 α] {X:List Nat} {w w':World} {v:Value} {xs:List α} (h:SlV X w v xs) (hS:Stp [] w w'):SlV X w' v xs:=
 h.ext hS (by simp) (λb hb=>.inl hb)
theorem SlV.len {α:Type} [Z6 α] {X:List Nat} {w:World} {v:Value} {xs:List α} (h:SlV X w v xs):∃ p c,v=.slice p xs.length c:=let ⟨p,c,hv,_⟩:=h;⟨p,c,hv⟩
theorem SlV.cells {α:Type} [Z6 α] {X:List Nat} {w:World} {v:Value} {xs:List α} (h:SlV X w v xs):v.cells.toList=[v]:=by
 obtain ⟨p,c,rfl⟩:=h.len;rfl
theorem SlV.one {α:Type} [Z6 α] {X:List Nat} {w:World} {v:Value} {xs:List α} (h:SlV X w v xs):v.oneCell'=true:=by
 obtain ⟨p,c,rfl⟩:=h.len;rfl
theorem SlV.max {α:Type} [Z6 α] {X:List Nat} {w:World} {v:Value} {xs:List α} (h:SlV X w v xs):xs.length<=9223372036854775807:=by
 obtain ⟨p,c,hv,hl,hm,_⟩:=h;simp only [maxLen] at hm;omega
def ZH (v:Value) (i k j:Nat):Addr:=
 match v with
 | .slice (some a) _ _=>⟨a.block,a.off+i * k+j,none⟩
 | _=>⟨0,0,none⟩
def Blk (w:World) (b:Nat) (T:TypeId) (cs:List Value):Prop:=w.heap[b]?=some (.cells cs.toArray T (0,0))
theorem Blk.lt {w:World} {b T:Nat} {cs:List Value} (h:Blk w b T cs):b<w.heap.size:=(Xm.1 h).1
theorem Blk.ext {w w':World} {S:List Nat} {b T:Nat} {cs:List Value} (h:Blk w b T cs) (hS:Stp S w w') (hb:b∉S):Blk w' b T cs:=by
 unfold Blk at *;rw [hS.block b (Blk.lt h) hb];exact h
theorem Blk.up {w w':World} {b T:Nat} {cs:List Value} (h:Blk w b T cs) (hS:Stp [] w w'):Blk w' b T cs:=h.ext hS (by simp)
theorem Blk.cell {w:World} {b T:Nat} {cs:List Value} (h:Blk w b T cs) {j:Nat} {u:Value} (hu:cs[j]?=some u):w.cell? ⟨b,j,none⟩=some u:=by
 unfold Blk at h;simp [World.cell?,h,hu]
section rules
variable {P:Program} {n:Nat} {e:Env} {w:World} {d:Option Nat} {ty:TypeId} {pos:String} {af:Array Edge} {g:Option (Nat×Bool)}
theorem ZmJ {α:Type} [Z6 α] {X:List Nat} {xs:List α} {v:Value} {x:Operand} {t:TypeId} {el:TypeId} {dt:World} [hu:Und P t (.slice el)] (hx:ev e x=some v) (hs:SlV X dt v xs) :
 PR P n ⟨d,.call { callee:=.builtin .len,args:=#[x],argTypes:=#[t] },ty,pos,af,g⟩ e w (.int .i64 (xs.length:Int)):=by
 obtain ⟨p,c,rfl⟩:=hs.len;exact Zi8 hx
theorem Z32 {α:Type} [Z6 α] {X:List Nat} {xs:List α} {v:Value} {x y:Operand} {t:TypeId} {el k:Nat} [hu:Und P t (.slice el)] [hk:Siz P el k] {z:Int} {i:Nat} {dt:World}
 (hx:ev e x=some v) (hs:SlV X dt v xs) (hy:ev e y=some (.int .i64 z)) (hz:z=(i:Int)) (hi:i<xs.length) :
 PR P n ⟨d,.indexAddr t x y,ty,pos,af,g⟩ e w (.pointer (some (ZH v i k 0))):=by
 refine ⟨λa ha=>?_⟩;obtain ⟨p,c,rfl,hl,hm,hn,hc⟩:=hs;obtain ⟨b,o,cs,rfl,_⟩:=hc i hi;subst hz;have h0:(0:Int)<=(i:Int)/\(i:Int)<(xs.length:Int):=by omega
 have hr:(Instr.indexAt t (.slice (some ⟨b,o,none⟩) xs.length c) (.int .i64 (i:Int))).run P w=.ok (.pointer (some ⟨b,o+i * k,none⟩)) w:=by
  simp only [Instr.indexAt,asIntOf];simp [run_underlying hu.h,Siz.run,Addr.add_lit,hi]
 simp [execOp,ha.ev hx,ha.ev hy,hr,ZH]
theorem Z6Y {x:Operand} {t:TypeId} {v:Value} {i k j m off:Nat} [hf:Fld P t m off] (hx:ev e x=some (.pointer (some (ZH v i k j))))
 (hv:∃ p l c,v=.slice (some p) l c):PR P n ⟨d,.fieldAddr t x m,ty,pos,af,g⟩ e w (.pointer (some (ZH v i k (j+off)))):=by
 obtain ⟨p,l,c,rfl⟩:=hv;exact ⟨λa ha=>by simp [execOp,ha.ev hx,ZH,Z6X,Yau]⟩
theorem SlV.isSome {α:Type} [Z6 α] {X:List Nat} {v:Value} {xs:List α} {i:Nat} (h:SlV X w v xs) (hi:i<xs.length):∃ p l c,v=.slice (some p) l c:=by
 obtain ⟨p,c,rfl,_,_,_,hc⟩:=h;obtain ⟨b,o,cs,rfl,_⟩:=hc i hi;exact ⟨_,_,_,rfl⟩
theorem SlV.cell {α:Type} [Z6 α] {X:List Nat} {v:Value} {xs:List α} {i:Nat} (h:SlV X w v xs) (hi:i<xs.length):∃ cs,Z6.rep X w xs[i] cs/\∀ j u,cs[j]?=some u->w.cell? (ZH v i (Z6.k α) j)=some u:=by
 obtain ⟨p,c,rfl,_,_,_,hc⟩:=h;obtain ⟨b,o,cs,rfl,_,_,hr,aq⟩:=hc i hi;exact ⟨cs,hr,λj u hu=>by simpa [ZH] using aq j u hu⟩
theorem SlV.cellF {α:Type} [Z3 α] {X:List Nat} {v:Value} {xs:List α} {i:Nat} (h:SlV X w v xs) (hi:i<xs.length) {j:Nat} {u:Value} (hu:(Z3.enc xs[i])[j]?=some u):w.cell? (ZH v i (Z3.k α) j)=some u:=by
 obtain ⟨cs,hr,hc⟩:=h.cell hi;have bE:cs=Z3.enc xs[i]:=hr;subst bE;exact hc j u hu
theorem Z1V {α:Type} [Z3 α] {X:List Nat} {xs:List α} {v u:Value} {i j k:Nat} {x:Operand} {t:TypeId} {D:TypeDesc} [hu:Und P t D] (hA:Z0K D=false) (hx:ev e x=some (.pointer (some (ZH v i k j))))
 (hs:SlV X w v xs) (hi:i<xs.length) (hk:k=Z3.k α) (hc:(Z3.enc xs[i])[j]?=some u):PR P n ⟨d,.load t x,ty,pos,af,g⟩ e w u:=
 JC hA hx (by subst hk;exact hs.cellF hi hc)
theorem ZbO {α:Type} [Z3 α] {X:List Nat} {xs:List α} {v:Value} {us:List Value} {i j k m:Nat} {x:Operand} {t:TypeId} {D:TypeDesc} [hu:Und P t D] (hA:Z0K D=true) [bH:Siz P t m] (hx:ev e x=some (.pointer (some (ZH v i k j))))
 (hs:SlV X w v xs) (hi:i<xs.length) (hk:k=Z3.k α) (hl:us.length=m) (hc:((Z3.enc xs[i]).drop j).take m=us):PR P n ⟨d,.load t x,ty,pos,af,g⟩ e w (.agg us.toArray):=by
 obtain ⟨p,l,c,hv⟩:=hs.isSome hi;have aq:=λ(q:Nat) (u:Value) (h:(Z3.enc xs[i])[q]?=some u)=>hs.cellF hi h;subst hv;refine Z3J hA hx hl (λq u hq=>?_);have h1:(Z3.enc xs[i])[j+q]?=some u:=by
  rw [<- hc,Yaf] at hq;split at hq;simpa using hq;cases hq
 have:=aq (j+q) u h1;subst hk;simpa [ZH,Yau] using this
theorem ZbP {α:Type} [Z3 α] {X:List Nat} {xs:List α} {v:Value} {i k:Nat} {x:Operand} {t:TypeId} {D:TypeDesc} [hu:Und P t D] (hA:Z0K D=true) [bH:Siz P t k] (hx:ev e x=some (.pointer (some (ZH v i k 0))))
 (hs:SlV X w v xs) (hi:i<xs.length) (hk:k=Z3.k α):PR P n ⟨d,.load t x,ty,pos,af,g⟩ e w (.agg (Z3.enc xs[i]).toArray):=
 ZbO hA hx hs hi hk (by rw [hk];exact Z3.len _) (by rw [Ybr,XJ (by rw [hk,Z3.len];exact Xn _)])
theorem Jq {b T o:Nat} {cs:List Value} {u:Value} {x:Operand} {t:TypeId} {D:TypeDesc} [hu:Und P t D] (hA:Z0K D=false) (hx:ev e x=some (.pointer (some ⟨b,o,none⟩))) (hb:Blk w b T cs) (hc:cs[o]?=some u) :
 PR P n ⟨d,.load t x,ty,pos,af,g⟩ e w u:=JC hA hx (hb.cell hc)
theorem Zl {b T o m:Nat} {cs us:List Value} {x:Operand} {t:TypeId} {D:TypeDesc} [hu:Und P t D] (hA:Z0K D=true) [bH:Siz P t m] (hx:ev e x=some (.pointer (some ⟨b,o,none⟩))) (hb:Blk w b T cs)
 (hl:us.length=m) (hc:(cs.drop o).take m=us):PR P n ⟨d,.load t x,ty,pos,af,g⟩ e w (.agg us.toArray):=by
 refine Z3J hA hx hl (λq u hq=>hb.cell ?_);rw [<- hc,Yaf] at hq;split at hq;simpa using hq;cases hq
theorem J0 {b T m:Nat} {cs:List Value} {x:Operand} {t:TypeId} {D:TypeDesc} [hu:Und P t D] (hA:Z0K D=true) [bH:Siz P t m] (hx:ev e x=some (.pointer (some ⟨b,0,none⟩))) (hb:Blk w b T cs)
 (hl:cs.length=m):PR P n ⟨d,.load t x,ty,pos,af,g⟩ e w (.agg cs.toArray):=
 Zl hA hx hb hl (by rw [Ybr,XJ (by omega)])
def Z7U (w:World) (T:TypeId) (cs:List Value) (v:Value) (w':World):Prop:=∃ b,v=.pointer (some ⟨b,0,none⟩)/\w.heap.size<=b/\Blk w' b T cs/\Stp [] w w'
theorem ZaE (w:World) (T:TypeId) (cs:List Value):Z7U w T cs (.pointer (some ⟨w.heap.size,0,none⟩)) (w.alloc (.cells cs.toArray T)):=
 ⟨_,rfl,Xn _,heap_alloc_new w _,Stp.alloc _ _ _⟩
theorem Jd {o:Oper} {G:Value->World->Prop} {v:Value} {w':World} (h:∀ a,Has n e a->(execOp a.eval o).run P w=.ok (.value v) w') (hg:G v w'):OE P n o e w G:=
 ⟨λa ha Q=>by unfold Oper.wp;rw [h a ha];exact ⟨v,rfl,hg⟩⟩
theorem Z4p {o:Oper} {G:Value->World->Prop} {w':World} (h:∀ a,Has n e a->(execOp a.eval o).run P w=.ok .skip w') (hg:G undef w'):OE P n o e w G:=
 ⟨λa ha Q=>by unfold Oper.wp;rw [h a ha];exact ⟨undef,rfl,hg⟩⟩
theorem OE.mono {o:Oper} {G G':Value->World->Prop} (h:OE P n o e w G) (hg:∀ v w',G v w'->G' v w'):OE P n o e w G':=
 ⟨λa ha Q=>Oper.wp_mono (λa' w' ⟨v,h1,h2⟩=>⟨v,h1,hg v w' h2⟩) (h.h a ha Q)⟩
theorem Z2 {t:TypeId} {z:Value} [hz:Zer P t z]:OE P n ⟨d,.alloc t,ty,pos,af,g⟩ e w (Z7U w t z.cells.toList):=
 Jd (v:=.pointer (some ⟨w.heap.size,0,none⟩)) (w':=w.alloc (.cells z.cells t)) (λa ha=>by
  simp [execOp,Instr.alloc,Zer.run,newVar,newRow,newObj];rfl) (by simpa using ZaE w t z.cells.toList)
theorem Zq {t:TypeId} {x:Operand} {v:Value} (hx:ev e x=some v):OE P n ⟨d,.box t x,ty,pos,af,g⟩ e w (Z7U w t v.cells.toList):=
 Jd (v:=.pointer (some ⟨w.heap.size,0,none⟩)) (w':=w.alloc (.cells v.cells t)) (λa ha=>by
  simp [execOp,Instr.box,ha.ev hx,newVar,newRow,newObj];rfl) (by simpa using ZaE w t v.cells.toList)
theorem ZaF {α:Type} [Z6 α] {X:List Nat} {dt:World} {xs:List α} {t:TypeId} {x:Operand} {v:Value} (hx:ev e x=some v) (hs:SlV X dt v xs):OE P n ⟨d,.box t x,ty,pos,af,g⟩ e w (Z7U w t [v]):=by
 rw [<- hs.cells];exact Zq hx
theorem Z1W (w:World) (b:Nat) (cs:Array Value):Stp [b] w (w.setRow b cs):=
 ⟨rfl,rfl,rfl,by simp,λk hk hn=>setRow_other w b k cs (by simpa using hn)⟩
theorem Z1e {b T o m t:Nat} {cs us:List Value} {x y:Operand} {u:Value} [bH:Siz P t m] (hx:ev e x=some (.pointer (some ⟨b,o,none⟩))) (hy:ev e y=some u) (hu:u.cells.toList=us) (hm:us.length=m) (h1:∀ c∈us,c.oneCell'=true)
 (hb:Blk w b T cs) (hl:o+us.length<=cs.length):OE P n ⟨d,.store t x y,ty,pos,af,g⟩ e w (λ_ w'=>Stp [b] w w'/\Blk w' b T (cs.take o++us++cs.drop (o+us.length))):=by
 have ax:=run_storeCells_at P b o T us 0 cs.toArray w hb (by simpa using hl) h1;refine Z4p (w':=w.setRow b (cs.take o++us++cs.drop (o+us.length)).toArray) (λa ha=>?_) ⟨Z1W _ _ _,setRow_heap w b cs.toArray _ T (0,0) hb⟩;have aO:u.cells.size=m:=by rw [<- hm,<- hu,Yak]
 simp only [Ybp] at ax;simp [execOp,ha.ev hx,ha.ev hy,Instr.storeAt,Instr.sureAddr,storeVar,Siz.run,aO,hu,ax]
theorem Zm {b T m t:Nat} {cs us:List Value} {x y:Operand} {u:Value} [bH:Siz P t m] (hx:ev e x=some (.pointer (some ⟨b,0,none⟩))) (hy:ev e y=some u) (hu:u.cells.toList=us) (hm:us.length=m) (h1:∀ c∈us,c.oneCell'=true)
 (hb:Blk w b T cs) (hl:us.length=cs.length):OE P n ⟨d,.store t x y,ty,pos,af,g⟩ e w (λ_ w'=>Stp [b] w w'/\Blk w' b T us):=
 (Z1e hx hy hu hm h1 hb (by omega)).mono (λ_ w' ⟨h2,h3⟩=>⟨h2,by simpa [hl] using h3⟩)
theorem Zb {b T o t:Nat} {cs:List Value} {x y:Operand} {u:Value} [bH:Siz P t 1] (hx:ev e x=some (.pointer (some ⟨b,o,none⟩))) (hy:ev e y=some u) (hu:u.cells.toList=[u]) (h1:u.oneCell'=true)
 (hb:Blk w b T cs) (hl:o<cs.length):OE P n ⟨d,.store t x y,ty,pos,af,g⟩ e w (λ_ w'=>Stp [b] w w'/\Blk w' b T (cs.set o u)):=
 (Z1e hx hy hu rfl (by simpa using h1) hb (by simp; omega)).mono (λ_ w' ⟨h2, h3⟩ => ⟨h2, by
   rw [List.set_eq_take_append_cons_drop,if_pos hl];simpa using h3⟩)
end rules
def ob:Value->List Nat
 | .slice (some a) _ _=>[a.block]
 | _=>[]
theorem Zj1 (v:Value):v.ownBlock.toList=ob v:=by
 cases v<;>try rfl
 rename_i a _ _;cases a<;>rfl
def Row {α:Type} [Z6 α] (X:List Nat) (w:World) (base T:Nat) (v:Value) (xs:List α):Prop:=
 ∃ css:List (List Value),css.length=xs.length/\(∀ i (h:i<xs.length) (h':i<css.length),Z6.rep (ob v++X) w xs[i] css[i])/\w.ownsRow base T (Z6.k α) v xs.length css.flatten
section row
variable {α:Type} [Z6 α] {X:List Nat} {w w':World} {base T:Nat} {v:Value} {xs:List α}
theorem Row.nil:Row (α:=α) X w base T (.slice none 0 0) []:=
 ⟨[],rfl,λi h=>absurd h (Xw _),by simpa using World.ownsRow_nil w base T (Z6.k α)⟩
theorem Row.ob_le (h:Row X w base T v xs):∀ b∈ob v,base<=b/\b<w.heap.size:=by
 obtain ⟨css,_,_,ho⟩:=h;intro b hb;rw [<- Zj1] at hb;exact ho.lt b (by simpa using hb)
theorem Row.ext {S X':List Nat} (h:Row X w base T v xs) (hS:Stp S w w') (h1:∀ b∈S,b∈X/\b∉ob v) (h2:∀ b∈X',b∈X\/w.heap.size<=b):Row X' w' base T v xs:=by
 obtain ⟨css,hl,hr,ho⟩:=h;refine ⟨css,hl,λi hi cH=>Z6.ext (hr i hi cH) hS (λb hb=>by simp [(h1 b hb).1]) (λb hb=>?_),?_⟩;simp only [Xg] at hb ⊢;rcases hb with hb|hb
 exact .inl (.inl hb);rcases h2 b hb with h|h
 exact .inl (.inr h);exact .inr h;refine ⟨ho.1,?_⟩;rcases ho.2 with hn|⟨q,cap,cur,rfl,hb,hg,rest⟩
 exact .inl hn;refine .inr ⟨q,cap,cur,rfl,hb,?_,rest⟩;rw [hS.block q (Xm.1 hg).1 (λhq=>(h1 q hq).2 (by simp [ob]))];exact hg
theorem Row.up (h:Row X w base T v xs) (hS:Stp [] w w'):Row X w' base T v xs:=h.ext hS (by simp) (λb hb=>.inl hb)
theorem Z0v {k:Nat}:∀ (css:List (List Value)),(∀ c∈css,c.length=k)->∀ (i:Nat) (hi:i<css.length) (j:Nat) (u:Value),css[i][j]?=some u->css.flatten[i * k+j]?=some u
 | [],_,i,hi,_,_,_=>absurd hi (Xw _)
 | c :: r, hk, 0, _, j, u, hu => by
   have hj:j<c.length:=(Xz.1 hu).1;simp only [Yah,Nat.zero_mul,XP];rw [Yaa hj];exact hu
 | c :: r, hk, i + 1, hi, j, u, hu => by
   have ih:=Z0v r (λc hc=>hk c (by simp [hc])) i (by simpa using hi) j u (by simpa using hu);have hc:=hk c (by simp);simp only [Yah];rw [YaH (by rw [hc,X9];omega),hc];rw [show (i+1) * k+j - k=i * k+j by rw [X9];omega];exact ih
theorem Row.slv (h:Row X w base T v xs) (hX:∀ b∈X,b<base):SlV X w v xs:=by
 obtain ⟨css,hl,hr,ho⟩:=h;have hk:∀ c∈css,c.length=Z6.k α:=by
  intro c hc;obtain ⟨i,hi,rfl⟩:=Xr hc;exact Z6.len (hr i (by omega) hi)
 rcases ho.2 with ⟨rfl,hn⟩|⟨q,cap,cur,rfl,hb,hg,cO,bQ,aO,ht⟩
 exact ⟨none,0,by rw [hn],by omega,by simp [maxLen],λ_=>rfl,λi hi=>by omega⟩;refine ⟨some ⟨q,0,none⟩,cap,rfl,cO,bQ,λh=>by simp at h,λi hi=>?_⟩;refine ⟨q,0,css[i]'(by omega),rfl,(Xm.1 hg).1,λhx=>by have:=hX q hx;omega,?_,λj u hu=>?_⟩;exact Z6.ext (hr i hi (by omega)) (Stp.refl [] w) (by simp) (λb hb=>.inl (by simp [hb]));have h1:=Z0v css hk i (by omega) j u hu;rw [<- ht,Yaf] at h1;split at h1;have h2:cur[i * Z6.k α+j]?=some u:=by simpa using h1
 rw [XP,cell_of_row w q _ cur T (0,0) hg];exact h2;cases h1
theorem ZaG {P:Program} {t ty e size bytes:Nat} {i:TypeInfo} {z:Value} (ht:P.underlying t=some (.slice e)) (hi:P.info? e=some i) (hz:i.zero=some z)
 (mH:i.size=size) (lW:i.bytes=bytes) {v:Value} {n:Nat} {cs:List Value} (ce:w.ownsRow base e size v n cs)
 {a:Addr} {m c:Nat} {news:List Value} (hl:news.length=m * size) (eD:∀ j u,news[j]?=some u->w.cell? (a.add j)=some u) (h1:∀ u∈news,u.oneCell'=true)
 (uF:n+m<=maxLen) (hbytes:(n+m) * bytes<=140737488355328) {v':Value} {w':World} (hr:(Builtin.append_ #[t,t] ty #[v,.slice (some a) m c]).run P w=.ok v' w') :
 ∀ b∈ob v',b∈ob v\/w.heap.size<=b:=by
 subst mH;subst lW;have hsmall:n+m<=9223372036854775807:=by simp only [maxLen] at uF;omega
 rcases ce.2 with ⟨rfl,rfl⟩|⟨q,cap,cur,rfl,xR,hg,cO,bQ,aO,jX⟩
 by_cases hm:m=0;subst hm;have hn:news=[]:=YaP (by simpa using hl);subst hn;have:(Builtin.append_ #[t,t] ty #[.slice none 0 0,.slice (some a) 0 c]).run P w=.ok (.slice none 0 0) w:=by
  simp [Builtin.append_,run_underlying ht,sizeOf,typeInfo,hi,Builtin.lenOf,Builtin.firstCells,loadCells,loadCellsFrom]
 rw [this] at hr;cases hr;simp [ob];have h:=run_append_nil (P:=P) w t ty e i z ht hi hz a m c news hl eD (by omega) (by omega) (by have hb:=hbytes;simp only [XP] at hb;omega);rw [h] at hr;cases hr;simp [ob];by_cases jY:n+m<=cap;have cC:n * i.size+news.length<=cur.size:=by rw [hl,aO,<- Nat.add_mul];exact Xq _ jY
 have h:=run_append_room (P:=P) w t ty e i ht hi q n cap cur hg a m c news hl eD h1 jY cC;rw [h] at hr;cases hr;simp [ob];have holds:∀ j u,cs[j]?=some u->w.cell? ((⟨q,0,none⟩:Addr).add j)=some u:=ce.cells (g:=q) rfl;have h:=run_append_grow (P:=P) w t ty e i z ht hi hz ⟨q,0,none⟩ n cap cs ce.1 holds a m c news hl eD (by omega) (by omega) (growslice_fits (by omega) hbytes);rw [h] at hr;cases hr;simp [ob]
def ZbQ (X:List Nat) (w:World) (base T:Nat) (v:Value) (xs ys:List α) (v':Value) (w':World):Prop:=
 Row X w' base T v' (xs++ys)/\Stp (ob v) w w'/\∀ b∈ob v',b∈ob v\/w.heap.size<=b
theorem ZQ {P:Program} {n:Nat} {e:Env} {d:Option Nat} {ty:TypeId} {pos:String} {af:Array Edge} {g:Option (Nat×Bool)} {x y:Operand} {t bytes:Nat} {u:Value} {z:Value} {ys:List α}
 [ht:Und P t (.slice T)] [hk:Siz P T (Z6.k α)] [hb:Byt P T bytes] [hz:Zer P T z] (fQ:z.cells.size=Z6.k α) (bj:0<Z6.k α)
 (hx:ev e x=some v) (hy:ev e y=some u) (ab:Row X w base T v xs) (cP:SlV (ob v++X) w u ys) (hbytes:(xs.length+ys.length) * bytes<=140737488355328) (ai:xs.length+ys.length<=maxLen) (aX:base<=w.heap.size) :
 OE P n ⟨d,.call { callee:=.builtin .append,args:=#[x,y],argTypes:=#[t,t] },ty,pos,af,g⟩ e w (ZbQ X w base T v xs ys):=by
 obtain ⟨i,hi,bM,cg,fE⟩:∃ i,P.info? T=some i/\i.size=Z6.k α/\i.bytes=bytes/\i.zero=some z:=by
  have a1:=hk.h;have a2:=hb.h;have a3:=hz.h;cases hi:P.info? T with
  | none=>simp [hi] at a1
  | some i=>exact ⟨i,rfl,by simpa [hi] using a1,by simpa [hi] using a2,by simpa [hi] using a3⟩
 have dz:=ab;obtain ⟨css,hl,hr,ho⟩:=ab;obtain ⟨p,c,rfl,fR,xS,uG,sY⟩:=cP;have pV:∃ dss:List (List Value),dss.length=ys.length/\(∀ j (h:j<ys.length) (h':j<dss.length),Z6.rep (ob v++X) w ys[j] dss[j]/\∃ b o,p=some ⟨b,o,none⟩/\∀ q u,dss[j][q]?=some u->w.cell? ⟨b,o+j * Z6.k α+q,none⟩=some u):=by
  have:∀ j:Fin ys.length,∃ ds:List Value,Z6.rep (ob v++X) w ys[j] ds/\∃ b o,p=some ⟨b,o,none⟩/\∀ q u,ds[q]?=some u->w.cell? ⟨b,o+j * Z6.k α+q,none⟩=some u:=by
   intro j;obtain ⟨b,o,cs,h1,h2,h3,h4,h5⟩:=sY j j.2;exact ⟨cs,h4,b,o,h1,h5⟩
  obtain ⟨f,hf⟩:=Classical.axiomOfChoice this;refine ⟨List.ofFn f,by simp,λj h h'=>?_⟩;have:=hf ⟨j,h⟩;simpa using this
 obtain ⟨dss,jZ,hd⟩:=pV;have oP:∀ c∈dss,c.length=Z6.k α:=by
  intro c hc;obtain ⟨q,hq,rfl⟩:=Xr hc;exact Z6.len (hd q (by omega) hq).1
 have j0:∀ (l:List (List Value)),(∀ c∈l,c.length=Z6.k α)->l.flatten.length=l.length * Z6.k α:=by
  intro l
  induction l with
  | nil=>intro _;simp
  | cons c r ih=>intro h;simp only [Yah,Xd,Xe,X9];rw [ih (λc hc=>h c (by simp [hc])),h c (by simp)];omega
 have aM:∀ u∈dss.flatten,u.oneCell'=true:=by
  intro u hu;obtain ⟨c,hc,uH⟩:=List.mem_flatten.1 hu;obtain ⟨q,hq,rfl⟩:=Xr hc;exact Z6.one (hd q (by omega) hq).1 u uH
 have fin:∀ (v':Value) (w':World),w'.ownsRow base T (Z6.k α) v' (xs.length+ys.length) (css.flatten++dss.flatten)->Stp (ob v) w w'->(∀ b∈ob v',b∈ob v\/w.heap.size<=b)->ZbQ X w base T v xs ys v' w':=by
  intro v' w' uI hS dF;have hX:∀ b∈ob v'++X,b∈ob v++X\/w.heap.size<=b:=by
   intro b hb;simp only [Xg] at hb ⊢;rcases hb with hb|hb
   rcases dF b hb with h|h
   exact .inl (.inl h);exact .inr h;exact .inl (.inr hb)
  have sZ:∀ b∈ob v,b∈ob v++X:=λb hb=>by simp [hb]
  refine ⟨⟨css++dss,by simp [hl,jZ],λi hi cH=>?_,?_⟩,hS,dF⟩;by_cases hlt:i<xs.length;rw [X8 hlt,X8 (by omega)];exact Z6.ext (hr i hlt (by omega)) hS sZ hX;have cg:i<xs.length+ys.length:=by simpa using hi
  rw [X5 (by omega),X5 (by omega)];have:=Z6.ext (hd (i - xs.length) (by omega) (by omega)).1 hS sZ hX;simpa [hl] using this;rw [List.flatten_append];simpa using uI
 cases p with
 | none=>
   have lX:ys.length=0:=by
    cases cP:ys with
    | nil=>rfl
    | cons y r=>
      obtain ⟨b,o,cs,hp,_⟩:=sY 0 (by simp [cP]);simp at hp
   have iA:c=0:=uG rfl;subst iA;have eE:dss=[]:=YaP (by omega);subst eE;have bh:=run_append_owned_none (P:=P) w base t ty T i (Z6.k α) ht.h hi v xs.length css.flatten ho;refine Jd (v:=v) (w':=w) (λa ha=>?_) (fin v w (by simpa [lX] using ho) (Stp.refl _ _) (λb hb=>.inl hb));rw [lX] at hy;simp [execOp,resolve,invoke,builtin,ha.ev hx,ha.ev hy,bh]
 | some a=>
   have eD:∀ j u,dss.flatten[j]?=some u->w.cell? (a.add j)=some u:=by
    intro j u hj;have fF:j<dss.flatten.length:=(Xz.1 hj).1;rw [j0 dss oP] at fF;have hq:j / Z6.k α<dss.length:=(Nat.div_lt_iff_lt_mul bj).2 fF;obtain ⟨h1,b,o,hp,aq⟩:=hd (j / Z6.k α) (by omega) hq;simp only [XK] at hp;subst hp;have uJ:j % Z6.k α<Z6.k α:=YbE _ bj;have oQ:j / Z6.k α * Z6.k α+j % Z6.k α=j:=by rw [Yba];exact Ybl j _
    have iB:dss[j / Z6.k α].length=Z6.k α:=oP _ (Xc hq);have jq:dss[j / Z6.k α][j % Z6.k α]?=some (dss[j / Z6.k α][j % Z6.k α]'(by omega)):=XV (by omega);have h2:=Z0v dss oP _ hq _ _ jq;rw [oQ,hj] at h2;have h3:=aq _ _ jq;rw [Addr.add_lit];rw [Yau,oQ] at h3;rw [h3,h2]
   have d8:dss.flatten.length=ys.length * Z6.k α:=by rw [j0 dss oP,jZ]
   obtain ⟨v',w',bh,h2,h3,h4⟩:=run_append_own (P:=P) w base t ty T i z (Z6.k α) bytes ht.h hi fE bM cg fQ bj v xs.length css.flatten ho a ys.length c dss.flatten d8 eD aM ai hbytes aX;have ac:=ZaG (P:=P) ht.h hi fE bM cg ho d8 eD aM ai hbytes bh;have hS:Stp (ob v) w w':=by rw [<- Zj1];exact Stp.of_grown h3
   refine Jd (v:=v') (w':=w') (λa ha=>?_) (fin v' w' h2 hS ac);simp [execOp,resolve,invoke,builtin,ha.ev hx,ha.ev hy,bh]
end row
abbrev _root_.Go.Value.I (z:Int):Value:=.int .i64 z
abbrev _root_.Go.Value.N:Value:=.slice none 0 0
abbrev _root_.Go.Value.B (b:Bool):Value:=.bool b
abbrev aG {α:Type} [Z3 α] (x:α):Value:=.agg (Z3.enc x).toArray
theorem Stp.ow {S S':List Nat} {a b c:World} (h:Stp S a b) (k:Stp S' b c) (hs:∀ x∈S',x∈S\/a.heap.size<=x:=by intro c hc;exact .inr (by simp at hc;omega)):Stp S a c:=h.own k hs
theorem Stp.mn {S S':List Nat} {a b:World} (h:Stp S a b) (hs:∀ x∈S,x∈S':=by simp):Stp S' a b:=h.mono hs
abbrev pQ (b:Nat):Value:=.pointer (some ⟨b,0,none⟩)
class Rl (σ:Type) where
 rel:σ->World->World->Prop
 refl:∀ S w,rel S w w
 trans:∀ {S a b c},rel S a b->rel S b c->rel S a c
instance:Rl (List Nat):=⟨Stp,Stp.refl,λh k=>h.trans k⟩
section any
variable {P:Program} {ops:Array Oper} {md:Region.Mode} {σ:Type} [Rl σ] {S:σ} {Lt:Nat->Bool}
theorem Zta {o:Oper} {a:Act} {w} {K:Act->World->Prop} {Q:Exit->Act->World->Prop} (h:o.wp P a w K (λ_ _ _=>False)):o.wp P a w K Q:=by
 unfold Oper.wp at *;generalize (execOp a.eval o).run P w=r at *;cases r with
 | ok n w'=>
   cases n<;>simp only [Oper.upon] at h ⊢
   case enter f args=>
    refine Calls.mono h (λe w'' he=>?_);cases e with
    | returned v=>exact he
    | panicked c=>exact he.elim
    | outgrown=>obtain ⟨_,_,hf⟩:=he;exact hf.elim
   all_goals exact h
 | halt x w'=>cases x<;>simp only [Oper.upon] at h
theorem Zj2 {i:Nat} {K:Act->World->Prop} {Q:Exit->Act->World->Prop} {a:Act} {w} (h:wpOp P ops (λ_ _ _=>False) i K a w):wpOp P ops Q i K a w:=by
 unfold wpOp at *;cases ho:ops[i]? with
 | none=>simp only [ho] at h ⊢;exact h
 | some o=>
   simp only [ho] at h ⊢;split;rename_i hw;simp only [hw,if_true] at h;rcases h with h|⟨_,_,_,hf⟩
   exact .inl (Zta h);exact hf.elim;rename_i hw;simp only [hw] at h;exact h
def Z1C (P:Program) (md:Region.Mode) (ops:Array Oper) {σ:Type} [Rl σ] (S:σ) (Lt:Nat->Bool) (Z:Act->World->Prop):Nat->Array Bool->Act->World->Prop
 | 0,listed,a,w=>Region.ready md ops listed=[]/\Z a w
 | fuel + 1, listed, a, w=>
   (Region.ready md ops listed=[]->Z a w)/\
   ∀ i∈Region.ready md ops listed,wpOp P ops (λ_ _ _=>False) i (λa' w'=>(Rl.rel S w w'\/Lt i=true)/\Z1C P md ops S Lt Z fuel (listed.setIfInBounds i true) a' w') a w
theorem Z12 {Z:Act->World->Prop} {Q:Exit->Act->World->Prop} (hZ:∀ a w,Z a w->Q .normal a w):∀ (fuel:Nat) (listed:Array Bool) (a:Act) (w),
 Z1C P md ops S Lt Z fuel listed a w->wpAny P md ops Q fuel listed a w
 | 0,_,_,_,h=>⟨h.1,hZ _ _ h.2⟩
 | fuel+1,_,_,_,h=>⟨λh0=>hZ _ _ (h.1 h0),λi hi=>wpOp_mono (λa' w' hk=>Z12 hZ fuel _ a' w' hk.2) (Zj2 (h.2 i hi))⟩
def YE (P:Program) (ops:Array Oper) (R:World->World->Prop) (o:Oper) (v:Value) (a:Act) (w:World):Prop:=
 (Region.wanted o (yielded ops a.tmps)=true/\∀ w',R w w'->(execOp a.eval o).run P w'=.ok (.value v) w')\/
 (Region.wanted o (yielded ops a.tmps)=false/\v=undef)
theorem YE.same {R:World->World->Prop} {o:Oper} {v:Value} {a a':Act} {w} (hy:YE P ops R o v a w) (he:execOp a'.eval o=execOp a.eval o)
 (hw:Region.wanted o (yielded ops a'.tmps)=Region.wanted o (yielded ops a.tmps)):YE P ops R o v a' w:=by
 unfold YE at *;rw [he,hw];exact hy
theorem Z5w {Z:Act->World->Prop} {R:World->World->Prop} (j4:∀ w,R w w) (mI:∀ a b c,R a b->R b c->R a c) {i:Nat} {oi:Oper} {v:Value} (hi:ops[i]?=some oi)
 (mJ:∀ j oj,ops[j]?=some oj->(∀ e∈oj.after,Region.binds md e=true->e.on≠i)->j≠i->∀ w w',(Rl.rel S w w'\/Lt j=true)->R w w')
 (fi:∀ (j:Nat) (o:Oper) cs b,ops[j]?=some o->o.op≠.select cs b) :
 ∀ (fuel : Nat) (listed : Array Bool) (a : Act) (w),
   (∀ j oj,ops[j]?=some oj->j≠i->listed.getD j true=false->(∀ e∈oj.after,Region.binds md e=true->e.on≠i)->oi.apart ops oj=true)->
   (Rl.rel S w w\/Lt i=true->True)->i∈Region.ready md ops listed->YE P ops R oi v a w->
   Z1C P md ops S Lt Z fuel (listed.setIfInBounds i true) (a.put oi.dst v) w->Z1C P md ops S Lt Z (fuel+1) listed a w:=by
 have now:∀ (fuel:Nat) (listed:Array Bool) (a:Act) (w:World),YE P ops R oi v a w->Z1C P md ops S Lt Z fuel (listed.setIfInBounds i true) (a.put oi.dst v) w->
  wpOp P ops (λ_ _ _=>False) i (λa' w'=>(Rl.rel S w w'\/Lt i=true)/\Z1C P md ops S Lt Z fuel (listed.setIfInBounds i true) a' w') a w:=by
  intro fuel listed a w hy H;unfold wpOp;simp only [hi];rcases hy with ⟨hw,hv⟩|⟨hw,rfl⟩
  simp only [hw,if_true,Oper.wp,hv w (j4 w),Oper.upon];exact .inl ⟨.inl (Rl.refl _ _),H⟩;simp only [hw,XQ,if_false];exact ⟨.inl (Rl.refl _ _),H⟩
 intro fuel
 induction fuel with
 | zero=>
   intro listed a w _ _ hr hy H;refine ⟨λh=>(by rw [h] at hr;cases hr),λj hj=>?_⟩;by_cases cn:j=i;subst cn;exact now _ _ _ _ hy H;have:=ready_mono hj cn;rw [H.1] at this;cases this
 | succ fuel ih=>
   intro listed a w dA hx hr hy H;refine ⟨λh=>(by rw [h] at hr;cases hr),λj hj=>?_⟩;by_cases cn:j=i;subst cn;exact now _ _ _ _ hy H;have h1:=H.2 j (ready_mono hj cn);obtain ⟨fj,oj,gw,aB⟩:=mem_ready.1 hj;have fk:∀ e∈oj.after,Region.binds md e=true->e.on≠i:=λe he hb df=>by
    have h1:=aB e he hb;have h0:=(mem_ready.1 hr).1;rw [df] at h1;rcases YaC i listed.size with h'|h'
    simp [h'] at h0 h1;rw [h0] at h1;cases h1;simp [Yai h'] at h1
   have hap:=dA j oj gw cn fj fk;obtain ⟨p1,p2,p3⟩:=Oper.apart_spec hap;have keep:∀ (a:Act),YE P ops R oi v a w->∀ u,YE P ops R oi v (a.put oj.dst u) w:=λa hy u=>
    hy.same (execOp_put oi (λcs b=>fi i oi cs b hi) a oj.dst u p3) (wanted_put oi a oj.dst u p3)
   have keepD:∀ (a:Act) d,YE P ops R oi v a w->YE P ops R oi v { a with defers:=d :: a.defers } w:=λa d hy=>hy.same rfl rfl;have later:∀ (a:Act) w',(Rl.rel S w w'\/Lt j=true)->YE P ops R oi v a w->YE P ops R oi v a w':=λa w' hs hy=>by
    rcases hy with ⟨hw,hv⟩|hw
    exact .inl ⟨hw,λw'' h''=>hv w'' (mI _ _ _ (mJ j oj gw fk cn w w' hs) h'')⟩;exact .inr hw
   have dM:∀ k ok,ops[k]?=some ok->k≠i->(listed.setIfInBounds j true).getD k true=false->
    (∀ e∈ok.after,Region.binds md e=true->e.on≠i)->oi.apart ops ok=true:=λk ok hk gM j5 bg=>by
    refine dA k ok hk gM ?_ bg;by_cases iC:j=k;subst iC;exact fj;rw [getD_set_ne true iC] at j5;exact j5
   have fin:∀ a' w',YE P ops R oi v a' w->(Rl.rel S w w'\/Lt j=true)/\Z1C P md ops S Lt Z fuel ((listed.setIfInBounds i true).setIfInBounds j true) (a'.put oi.dst v) w'->
    (Rl.rel S w w'\/Lt j=true)/\Z1C P md ops S Lt Z (fuel+1) (listed.setIfInBounds j true) a' w':=by
    rintro a' w' iD ⟨hs,hk⟩;refine ⟨hs,ih _ a' w' dM (λ_=>trivial) (ready_mono hr (Ne.symm cn)) (later a' w' hs iD) ?_⟩;rw [Ya2 _ _ cn];exact hk
   have mK:∀ cs b,oj.op≠.select cs b:=λcs b=>fi j oj cs b gw;unfold wpOp at *;simp only [gw] at *;rw [wanted_put oj a oi.dst v p1] at h1;split
   . rename_i hw
     simp only [hw,if_true] at h1;rcases h1 with h1|⟨_,_,_,hf⟩
     case inr=>exact hf.elim
     refine .inl ?_;unfold Oper.wp at *;rw [execOp_put oj mK a oi.dst v p1] at h1;generalize (execOp a.eval oj).run P w=r at *;cases r with
     | ok n w'=>
       cases n<;>simp only [Oper.upon] at h1 ⊢
       case value u=>exact fin _ _ (keep a hy u) (by rw [<- Act.put_comm a v u p2];exact h1)
       case skip=>exact fin _ _ (keep a hy _) (by rw [<- Act.put_comm a v undef p2];exact h1)
       case defer d=>
        refine fin _ _ (keep _ (keepD a d hy) _) ?_;rw [<- Act.put_comm _ v undef p2,<- Act.put_defers];exact h1
       case enter f args=>
        refine Calls.mono h1 λe w'' he=>?_;cases e with
        | returned u=>exact fin _ _ (keep a hy u) (by rw [<- Act.put_comm a v u p2];exact he)
        | panicked c=>exact he
        | outgrown=>exact he
       case row row args=>exact Rows.mono h1 λu w'' he=>fin _ _ (keep a hy u) (by rw [<- Act.put_comm a v u p2];exact he)
     | halt x w'=>
       cases x<;>simp only [Oper.upon] at h1
   rename_i hw;simp only [hw] at h1;exact fin _ _ (keep a hy _) (by rw [<- Act.put_comm a v undef p2];exact h1)
end any
def Zfd (ops:Array Oper) (Lt:List Nat) (i:Nat):Bool:=
 Lt.all λj=>j == i || (match ops[j]? with|some oj=>oj.after.any (λe=>Region.binds .any e && e.on == i)|none=>true)
def bits (m:Nat):List Nat:=(List.range 64).filter (λj=>m.testBit j)
def Zg6:List Nat->List (List Nat)
 | []=>[[]]
 | x :: r=>Zg6 r++(Zg6 r).map (x :: ·)
def lst (listed:Array Bool) (is rem:List Nat):Array Bool:=Array.ofFn (n:=listed.size) λj=>listed[j] || (is.contains j.val && !rem.contains j.val)
def wt:List (Nat×Nat)->Nat
 | []=>0
 | (_,k) :: r=>(if k<100000 then 1 else (bits (k - 100000)).length)+wt r
theorem Z03 {i k:Nat} {r:List (Nat×Nat)} (h:k<100000):wt ((i,k) :: r)=wt r+1:=by simp [wt,h];omega
def ZW (ops:Array Oper) (Lt:List Nat):List (Nat×Nat)->Option Nat->Array Bool->Bool
 | [],sk,listed=>sk.isNone && (Region.ready .any ops listed).isEmpty
 | (i,0) :: r,sk,listed=>(Region.ready .any ops listed).contains i && Region.free .any ops listed i && ZW ops Lt r sk (listed.setIfInBounds i true)
 | (i,1) :: r,sk,listed=>(Region.ready .any ops listed).contains i && Region.free .any ops listed i && Zfd ops Lt i && ZW ops Lt r sk (listed.setIfInBounds i true)
 | (i,2) :: r,sk,listed=>if sk=some i then ZW ops Lt r none listed else Region.ready .any ops listed == [i] && ZW ops Lt r sk (listed.setIfInBounds i true)
 | (i, q + 3) :: r, sk, listed => if sk = some q /\ q + 3 < 100000 then (Region.ready .any ops listed == [i] && ZW ops Lt r sk (listed.setIfInBounds i true)) else sk.isNone && if q + 3 < 100000 then (Region.ready .any ops listed == [i, q] && ZW ops Lt r none (listed.setIfInBounds i true) && Region.ready .any ops (listed.setIfInBounds q true) == [i] && ZW ops Lt r (some q) ((listed.setIfInBounds q true).setIfInBounds i true))
   else (Zg6 (bits (q+3 - 100000))).all (λrem=>rem.isEmpty || Region.ready .any ops (lst listed (bits (q+3 - 100000)) rem) == rem) && ZW ops Lt r none (lst listed (bits (q+3 - 100000)) [])
def J6 (ops:Array Oper) (Lt:List Nat) (ord:List (Nat×Nat)) (listed:Array Bool):Bool:=ZW ops Lt ord none listed
def Z5a (q:Nat):List (Nat×Nat)->List (Nat×Nat)
 | []=>[]
 | (i,2) :: r=>if i=q then r else (i,2) :: Z5a q r
 | (i,0) :: r=>(i,0) :: Z5a q r
 | (i,1) :: r=>(i,1) :: Z5a q r
 | (i,k+3) :: r=>if k=q/\k+3<100000 then (i,2) :: Z5a q r else (i,k+3) :: Z5a q r
theorem Z1X {ops:Array Oper} {Lt:List Nat} {q:Nat}:∀ (r:List (Nat×Nat)) (listed:Array Bool),ZW ops Lt r (some q) listed=true->ZW ops Lt (Z5a q r) none listed=true/\wt r=wt (Z5a q r)+1
 | [],listed,h=>by simp [ZW] at h
 | (i, 0) :: r, listed, h => by
   simp only [ZW,Xl] at h;obtain ⟨h1,h2⟩:=Z1X r _ h.2;simp only [Z5a,ZW,Xl];exact ⟨⟨h.1,h1⟩,by simp [wt,h2];omega⟩
 | (i, 1) :: r, listed, h => by
   simp only [ZW,Xl] at h;obtain ⟨h1,h2⟩:=Z1X r _ h.2;simp only [Z5a,ZW,Xl];exact ⟨⟨h.1,h1⟩,by simp [wt,h2];omega⟩
 | (i, 2) :: r, listed, h => by
   by_cases e:i=q;subst e;simp only [ZW,if_pos] at h;simp only [Z5a,if_pos];exact ⟨h,by simp [wt];omega⟩;have e':¬ (some q=some i):=by simpa using λh=>e h.symm
   simp only [ZW,if_neg e',Xl] at h;obtain ⟨h1,h2⟩:=Z1X r _ h.2;simp only [Z5a,if_neg e,ZW];refine ⟨?_,by simp [wt,h2];omega⟩;rw [if_neg (by simp)];simp only [Xl];exact ⟨h.1,h1⟩
 | (i, k + 3) :: r, listed, h => by
   by_cases e:k=q/\k+3<100000;simp only [ZW] at h;rw [if_pos ⟨by rw [e.1],e.2⟩] at h;simp only [Xl] at h;obtain ⟨h1,h2⟩:=Z1X r _ h.2;simp only [Z5a,if_pos e,ZW];refine ⟨?_,by rw [Z03 e.2,Z03 (by decide),h2]⟩;rw [if_neg (by simp)];simp only [Xl];exact ⟨h.1,h1⟩;simp only [ZW] at h;rw [if_neg (λh'=>e ⟨(X2 h'.1).symm,h'.2⟩)] at h;simp at h
structure WG (P:Program) (n:Nat) (ops:Array Oper) {σ:Type} [Rl σ] (S:σ) (Lt:List Nat) (Q:Exit->Act->World->Prop) (ord:List (Nat×Nat)) (e:Env) (w:World):Prop where
 h:∀ listed:Array Bool,Region.noSelect ops=true->J6 ops Lt ord listed=true->∀ a,Has n e a->Z1C P .any ops S (λj=>Lt.contains j) (λa w=>Q .normal a w) (wt ord) listed a w
section rules
variable {P:Program} {n:Nat} {Q:Exit->Act->World->Prop} {e:Env} {w:World} {ops:Array Oper} {σ:Type} [Rl σ] {S:σ} {Lt:List Nat} {rest:List (Nat×Nat)}
theorem Zg7 {id:Nat} {l:List Oper} (m:Nat) {σ:Type} [Rl σ] (S:σ) (Lt:List Nat) (ord:List (Nat×Nat)) (cI:l.length=m) (hm:P.follows .mixedOrders=true) (hs:Region.noSelect l.toArray=true) (hl:Nat.beq (wt ord) l.length=true)
 (hB:J6 l.toArray Lt ord (Array.replicate m false)=true)
 (h:∀ w',Stp [] w w'->WG P n l.toArray S Lt Q ord e w'):WC P n (.region id l.toArray true) Q e w:=by
 subst cI;refine ⟨λa ha=>wp_region_any hm ?_⟩;have h1:=(h { w with drawn:=w.drawn+1 } (Stp.drew [] w)).h _ hs hB a ha;have h2:=Z12 (Q:=Q) (λa w hz=>hz) _ _ _ _ h1;rw [XS hl] at h2;simpa using h2
theorem ZdP (h:WQ n Q .normal e w):WG P n ops S Lt Q [] e w:=
 ⟨λ_ _ hB a ha=>⟨by simpa [J6,ZW] using hB,h.h a ha⟩⟩
def Z0b (ops:Array Oper) (e:Env):Option (Nat×Bool)->Prop
 | none=>True
 | some (j,b)=>yld ops e j=some (.B b)
theorem Jw {o:Oper} {a:Act} (ha:Has n e a) (hg:Z0b ops e o.guard):Region.wanted o (yielded ops a.tmps)=true:=by
 unfold Region.wanted;cases lY:o.guard with
 | none=>rfl
 | some jb=>
   obtain ⟨j,b⟩:=jb;rw [lY] at hg;simp [Z7T ha hg]
theorem ZbR {i d:Nat} {o:Oper} {v:Value} (hi:ops[i]?=some o) (hd:o.dst=some d) (hY:∀ a,Has n e a->YE P ops (λ_ _=>True) o v a w) (aw:Nat.blt d n=true)
 (k:WG P n ops S Lt Q rest ((d,v) :: e) w):WG P n ops S Lt Q ((i,0) :: rest) e w:=by
 refine ⟨λlisted hs hB a ha=>?_⟩;simp only [J6,ZW,Xl] at hB;obtain ⟨⟨h1,h2⟩,h3⟩:=hB;have hk:=k.h _ hs h3 _ (ha.put (v:=v) aw);rw [<- hd] at hk;rw [Z03 (by decide)];exact Z5w (R:=λ_ _=>True) (λ_=>trivial) (λ_ _ _ _ _=>trivial) hi (λ_ _ _ _ _ _ _ _=>trivial) (Region.noSelect_spec hs) _ _ _ _ (Region.free_spec hi h2) (λ_=>trivial) (by simpa using h1) (hY a ha) hk
theorem Z5b {i j:Nat} {oj:Oper} (hb:Zfd ops Lt i=true) (hj:ops[j]?=some oj) (hn:∀ e∈oj.after,Region.binds .any e=true->e.on≠i) (cn:j≠i):Lt.contains j=false:=by
 cases hc:Lt.contains j with
 | false=>rfl
 | true=>
   have hm:j∈Lt:=by simpa using hc
   have:=(XW.1 hb) j hm;simp only [hj,Yay,beq_iff_eq,cn,false_or] at this;obtain ⟨e,he,lZ⟩:=Array.any_eq_true'.1 this;simp only [Xl,beq_iff_eq] at lZ;exact absurd lZ.2 (hn e he lZ.1)
theorem ZbS {i d:Nat} {o:Oper} {v:Value} (hi:ops[i]?=some o) (hd:o.dst=some d) (hY:∀ a,Has n e a->YE P ops (Rl.rel S) o v a w) (aw:Nat.blt d n=true)
 (k:WG P n ops S Lt Q rest ((d,v) :: e) w):WG P n ops S Lt Q ((i,1) :: rest) e w:=by
 refine ⟨λlisted hs hB a ha=>?_⟩;simp only [J6,ZW,Xl] at hB;obtain ⟨⟨⟨h1,h2⟩,hb⟩,h3⟩:=hB;have hk:=k.h _ hs h3 _ (ha.put (v:=v) aw);rw [<- hd] at hk;rw [Z03 (by decide)];refine Z5w (R:=Rl.rel S) (λw=>Rl.refl _ w) (λ_ _ _ h k=>Rl.trans h k) hi (λj oj hj hn cn w w' hs=>?_) (Region.noSelect_spec hs) _ _ _ _ (Region.free_spec hi h2) (λ_=>trivial) (by simpa using h1) (hY a ha) hk;rcases hs with hs|hs
 exact hs;rw [Z5b hb hj hn cn] at hs;cases hs
variable {i d:Nat} {op:Op} {ty:TypeId} {pos:String} {af:Array Edge} {gd:Option (Nat×Bool)} {v:Value}
theorem JL (hi:ops[i]?=some ⟨some d,op,ty,pos,af,gd⟩) (hg:Z0b ops e gd) (hp:∀ w',PR P n ⟨some d,op,ty,pos,af,gd⟩ e w' v) (aw:Nat.blt d n=true)
 (k:WG P n ops S Lt Q rest ((d,v) :: e) w):WG P n ops S Lt Q ((i,0) :: rest) e w:=
 ZbR hi rfl (λa ha=>.inl ⟨Jw ha hg,λw' _=>(hp w').h a ha⟩) aw k
theorem ZmK (hi:ops[i]?=some ⟨some d,op,ty,pos,af,gd⟩) (hg:Z0b ops e gd) (hp:∀ w',Rl.rel S w w'->PR P n ⟨some d,op,ty,pos,af,gd⟩ e w' v) (aw:Nat.blt d n=true)
 (k:WG P n ops S Lt Q rest ((d,v) :: e) w):WG P n ops S Lt Q ((i,1) :: rest) e w:=
 ZbS hi rfl (λa ha=>.inl ⟨Jw ha hg,λw' hw=>(hp w' hw).h a ha⟩) aw k
theorem Zj3 (hi:ops[i]?=some ⟨some d,op,ty,pos,af,gd⟩) (hg:noB ops e gd=true) (aw:Nat.blt d n=true)
 (k:WG P n ops S Lt Q rest ((d,undef) :: e) w):WG P n ops S Lt Q ((i,0) :: rest) e w:=
 ZbR hi rfl (λa ha=>.inr ⟨Z31 ha hg,rfl⟩) aw k
theorem Zj4 (hi:ops[i]?=some ⟨some d,op,ty,pos,af,gd⟩) (hg:noB ops e gd=true) (aw:Nat.blt d n=true)
 (k:WG P n ops S Lt Q rest ((d,undef) :: e) w):WG P n ops S Lt Q ((i,1) :: rest) e w:=
 ZbS hi rfl (λa ha=>.inr ⟨Z31 ha hg,rfl⟩) aw k
structure WG1 (P:Program) (n:Nat) (ops:Array Oper) {σ:Type} [Rl σ] (S:σ) (Lt:List Nat) (Q:Exit->Act->World->Prop) (i:Nat) (ord:List (Nat×Nat)) (e:Env) (w:World):Prop where
 h : ∀ listed : Array Bool, Region.noSelect ops = true -> J6 ops Lt ord (listed.setIfInBounds i true) = true -> ∀ a, Has n e a->
   wpOp P ops (λ_ _ _=>False) i (λa' w'=>(Rl.rel S w w'\/Lt.contains i=true)/\Z1C P .any ops S (λj=>Lt.contains j) (λa w=>Q .normal a w) (wt ord) (listed.setIfInBounds i true) a' w') a w
theorem Zj5 {o:Oper} {dst:Option Nat} {G:Value->World->Prop} (hi:ops[i]?=some o) (fS:o.dst=dst) (hg:Z0b ops e o.guard) (hp:OE P n o e w (λv w'=>(Rl.rel S w w'\/Lt.contains i=true)/\G v w'))
 (k:∀ v w' a',G v w'->∀ a,Has n e a->a'=a.put dst v->∃ e',Has n e' a'/\WG P n ops S Lt Q rest e' w'):WG1 P n ops S Lt Q i rest e w:=by
 refine ⟨λlisted hs h3 a ha=>?_⟩;unfold wpOp;simp only [hi];rw [if_pos (Jw ha hg)];refine .inl (Oper.wp_mono ?_ (hp.h a ha _));rintro a' w' ⟨v,rfl,cJ,hG⟩;obtain ⟨e',jr,hk⟩:=k v w' (a.put o.dst v) hG a ha (by rw [fS]);exact ⟨cJ,hk.h _ hs h3 _ jr⟩
theorem Zj6 (h:WG1 P n ops S Lt Q i rest e w):WG P n ops S Lt Q ((i,2) :: rest) e w:=by
 refine ⟨λlisted hs hB a ha=>?_⟩;simp only [J6,ZW] at hB;rw [if_neg (by simp)] at hB;simp only [Xl,beq_iff_eq] at hB;obtain ⟨h1,h3⟩:=hB;rw [Z03 (by decide)];refine ⟨λh0=>absurd (h1 ▸ h0) (by simp),λj hj=>?_⟩;rw [h1] at hj;obtain rfl:j=i:=by simpa using hj
 exact h.h _ hs h3 a ha
theorem Zj7 {q:Nat} (hq:Nat.blt (q+3) 100000=true) (h1:WG1 P n ops S Lt Q i rest e w) (h2:WG1 P n ops S Lt Q q ((i,2) :: Z5a q rest) e w):WG P n ops S Lt Q ((i,q+3) :: rest) e w:=by
 refine ⟨λlisted hs hB a ha=>?_⟩;have gN:q+3<100000:=XZ hq;simp only [J6,ZW] at hB;rw [if_neg (by simp),if_pos gN] at hB;simp only [Xl,beq_iff_eq] at hB;obtain ⟨_,⟨⟨hr,fG⟩,dm⟩,h3⟩:=hB;obtain ⟨h4,h5⟩:=Z1X _ _ h3;have hw:wt ((i,q+3) :: rest)=wt rest+1:=Z03 gN;rw [hw];refine ⟨λh0=>absurd (hr ▸ h0) (by simp),λj hj=>?_⟩;rw [hr] at hj;have c2:J6 ops Lt ((i,2) :: Z5a q rest) (listed.setIfInBounds q true)=true:=by
  simp only [J6,ZW];rw [if_neg (by simp)];simp only [Xl,beq_iff_eq];exact ⟨dm,h4⟩
 have j6:wt rest=wt ((i,2) :: Z5a q rest):=by rw [Z03 (by decide),h5]
 have gz:j=i\/j=q:=by simpa using hj
 rcases gz with rfl|rfl
 exact h1.h _ hs fG a ha;rw [j6];exact h2.h _ hs c2 a ha
theorem Z7V:∀ {is rem:List Nat},rem.Sublist is->rem∈Zg6 is
 | [],rem,h=>by simp at h;simp [Zg6,h]
 | x :: r, rem, h => by
   simp only [Zg6,Xg,XH];cases h with
   | cons _ h=>exact .inl (Z7V h)
   | cons_cons _ h=>exact .inr ⟨_,Z7V h,rfl⟩
theorem ZmL (listed:Array Bool) (is:List Nat):lst listed is is=listed:=by
 apply Array.ext;simp [lst];intro j h1 h2;simp only [lst,Array.getElem_ofFn];cases is.contains j<;>simp
theorem Zj8 {listed:Array Bool} {is rem:List Nat} {j:Nat} (hn:rem.Nodup) (hr:rem.Sublist is) (hj:j∈rem):(lst listed is rem).setIfInBounds j true=lst listed is (rem.erase j):=by
 apply Array.ext;simp [lst];intro m h1 h2;have hm:m<listed.size:=by simpa [lst] using h2
 rw [Array.getElem_setIfInBounds];simp only [lst,Array.getElem_ofFn];by_cases e:j=m;subst e;have h3:is.contains j=true:=by simpa using hr.subset hj
 have h4:(rem.erase j).contains j=false:=by
  have:=hn.not_mem_erase (a:=j);simpa using this
 simp only [h3,h4,if_true,Bool.not_false,Ya3,Bool.or_true];rw [if_neg e];have:(rem.erase j).contains m=rem.contains m:=by
  rw [Yad];simp only [List.contains_iff_mem];exact List.mem_erase_of_ne (λh=>e h.symm)
 rw [this];simpa [lst] using hm
theorem Ztb {q:Nat} (is:List Nat) (J:List Nat->World->Prop) (hq:Nat.ble 100000 (q+3)=true) (s4:bits (q+3 - 100000)=is) (gA:is.Nodup) (h0:J is w)
 (step:∀ rem j w',rem.Sublist is->j∈rem->J rem w'->∃ o,ops[j]?=some o/\o.dst=none/\Z0b ops e o.guard/\OE P n o e w' (λ_ w''=>(Rl.rel S w' w''\/Lt.contains j=true)/\J (rem.erase j) w''))
 (fin:∀ w',J [] w'->WG P n ops S Lt Q rest e w'):WG P n ops S Lt Q ((i,q+3) :: rest) e w:=by
 refine ⟨λlisted hs hB a ha=>?_⟩;have gN:¬ q+3<100000:=Nat.not_lt.2 (XZ hq);have hw:wt ((i,q+3) :: rest)=is.length+wt rest:=by simp only [wt];rw [if_neg gN,s4]
 rw [hw];simp only [J6,ZW] at hB;rw [if_neg (by simp),if_neg gN,s4] at hB;simp only [Xl] at hB;obtain ⟨_,aB,mL⟩:=hB;have hready:∀ rem:List Nat,rem.Sublist is->0<rem.length->Region.ready .any ops (lst listed is rem)=rem:=λrem hr h0=>by
  have:=XW.1 aB rem (Z7V hr);cases rem with
  | nil=>simp at h0
  | cons x r=>simpa using this
 have key:∀ (k:Nat) (rem:List Nat),rem.length=k->rem.Sublist is->∀ w' a,Has n e a->J rem w'->Z1C P .any ops S (λj=>Lt.contains j) (λa w=>Q .normal a w) (k+wt rest) (lst listed is rem) a w':=by
  intro k
  induction k with
  | zero=>
    intro rem hl hr w' a ha hJ;obtain rfl:=Xy.1 hl;rw [XP];exact (fin w' hJ).h _ hs mL a ha
  | succ k ih=>
    intro rem hl hr w' a ha hJ;rw [show k+1+wt rest=(k+wt rest)+1 by omega];refine ⟨λh=>?_,λj hj=>?_⟩;rw [hready rem hr (by omega)] at h;subst h;simp at hl;rw [hready rem hr (by omega)] at hj;obtain ⟨o,hi,fS,hg,hp⟩:=step rem j w' hr hj hJ;unfold wpOp;simp only [hi];rw [if_pos (Jw ha hg)];refine .inl (Oper.wp_mono ?_ (hp.h a ha _));rintro a' w'' ⟨v,rfl,cJ,mM⟩;refine ⟨cJ,?_⟩;rw [Zj8 (hr.nodup gA) hr hj,fS];exact ih _ (by rw [List.length_erase_of_mem hj];omega) (List.erase_sublist.trans hr) w'' _ ha mM
 have:=key is.length is rfl (List.Sublist.refl _) w a ha h0
 rwa [ZmL] at this
theorem Z7E {o:Oper} {dst:Option Nat} {G:Value->World->Prop} (hi:ops[i]?=some o) (fS:o.dst=dst) (hg:Z0b ops e o.guard) (hp:OE P n o e w (λv w'=>(Rl.rel S w w'\/Lt.contains i=true)/\G v w'))
 (k:∀ v w' a',G v w'->∀ a,Has n e a->a'=a.put dst v->∃ e',Has n e' a'/\WG P n ops S Lt Q rest e' w'):WG P n ops S Lt Q ((i,2) :: rest) e w:=
 Zj6 (Zj5 hi fS hg hp k)
theorem Zj9 (hi:ops[i]?=some ⟨some d,op,ty,pos,af,gd⟩) (hg:noB ops e gd=true) (aw:Nat.blt d n=true)
 (k:WG P n ops S Lt Q rest ((d,undef) :: e) w):WG P n ops S Lt Q ((i,2) :: rest) e w:=by
 refine Zj6 ⟨λlisted hs h3 a ha=>?_⟩;unfold wpOp;simp only [hi];have hw:=Z31 (o:=⟨some d,op,ty,pos,af,gd⟩) ha hg;rw [if_neg (by simp [hw])];exact ⟨.inl (Rl.refl _ _),k.h _ hs h3 _ (ha.put (v:=undef) aw)⟩
theorem Z4q {G:Value->World->Prop} (hi:ops[i]?=some ⟨some d,op,ty,pos,af,gd⟩) (hg:Z0b ops e gd) (hp:OE P n ⟨some d,op,ty,pos,af,gd⟩ e w G) (hG:∀ v w',G v w'->Rl.rel S w w') (aw:Nat.blt d n=true)
 (k:∀ v w',G v w'->WG P n ops S Lt Q rest ((d,v) :: e) w'):WG1 P n ops S Lt Q i rest e w:=
 Zj5 (G:=G) hi rfl hg (hp.mono λv w' h=>⟨.inl (hG v w' h),h⟩) (λv w' a' h a ha e=>⟨_,by rw [e];exact ha.put aw,k v w' h⟩)
theorem Za {G:Value->World->Prop} (hi:ops[i]?=some ⟨some d,op,ty,pos,af,gd⟩) (hg:Z0b ops e gd) (hp:OE P n ⟨some d,op,ty,pos,af,gd⟩ e w G) (hG:∀ v w',G v w'->Rl.rel S w w') (aw:Nat.blt d n=true)
 (k:∀ v w',G v w'->WG P n ops S Lt Q rest ((d,v) :: e) w'):WG P n ops S Lt Q ((i,2) :: rest) e w:=
 Z7E (G:=G) hi rfl hg (hp.mono λv w' h=>⟨.inl (hG v w' h),h⟩) (λv w' a' h a ha e=>⟨_,by rw [e];exact ha.put aw,k v w' h⟩)
theorem Z0B {G:Value->World->Prop} (hi:ops[i]?=some ⟨none,op,ty,pos,af,gd⟩) (hg:Z0b ops e gd) (hp:OE P n ⟨none,op,ty,pos,af,gd⟩ e w G) (hG:∀ v w',G v w'->Rl.rel S w w')
 (k:∀ v w',G v w'->WG P n ops S Lt Q rest e w'):WG P n ops S Lt Q ((i,2) :: rest) e w:=
 Z7E (G:=G) hi rfl hg (hp.mono λv w' h=>⟨.inl (hG v w' h),h⟩) (λv w' a' h a ha e=>⟨_,by rw [e];exact ha,k v w' h⟩)
theorem ZmM {G:Value->World->Prop} (hi:ops[i]?=some ⟨some d,op,ty,pos,af,gd⟩) (hg:Z0b ops e gd) (hp:OE P n ⟨some d,op,ty,pos,af,gd⟩ e w G) (hL:Lt.contains i=true) (aw:Nat.blt d n=true)
 (k:∀ v w',G v w'->WG P n ops S Lt Q rest ((d,v) :: e) w'):WG P n ops S Lt Q ((i,2) :: rest) e w:=
 Z7E (G:=G) hi rfl hg (hp.mono λv w' h=>⟨.inr hL,h⟩) (λv w' a' h a ha e=>⟨_,by rw [e];exact ha.put aw,k v w' h⟩)
theorem Jr {G:Value->World->Prop} (hi:ops[i]?=some ⟨none,op,ty,pos,af,gd⟩) (hg:Z0b ops e gd) (hp:OE P n ⟨none,op,ty,pos,af,gd⟩ e w G) (hL:Lt.contains i=true)
 (k:∀ v w',G v w'->WG P n ops S Lt Q rest e w'):WG P n ops S Lt Q ((i,2) :: rest) e w:=
 Z7E (G:=G) hi rfl hg (hp.mono λv w' h=>⟨.inr hL,h⟩) (λv w' a' h a ha e=>⟨_,by rw [e];exact ha,k v w' h⟩)
theorem Zja {ord:List (Nat×Nat)} {j:Nat} {p:Prop} [Decidable p] (hy:look e j=some (.B (decide p)))
 (ht:p->WG P n ops S Lt Q ord ((j,.B true) :: e) w) (hf:¬ p->WG P n ops S Lt Q ord ((j,.B false) :: e) w):WG P n ops S Lt Q ord e w:=by
 refine ⟨λlisted hs hB a ha=>?_⟩;by_cases hp:p;exact (ht hp).h _ hs hB a (ha.same hy (by simp [hp]));exact (hf hp).h _ hs hB a (ha.same hy (by simp [hp]))
theorem Zk {i q j d:Nat} {b:Bool} {o:Oper} {p:Prop} [Decidable p] (hi:ops[i]?=some o) (hg:o.guard=some (j,b)) (hj:Zf9 ops j=some d) (hy:look e d=some (.B (decide p)))
 (ht:p->WG P n ops S Lt Q ((i,q) :: rest) ((d,.B true) :: e) w) (hf:¬ p->WG P n ops S Lt Q ((i,q) :: rest) ((d,.B false) :: e) w):WG P n ops S Lt Q ((i,q) :: rest) e w:=
 Zja hy ht hf
theorem Zi {i q j d:Nat} {b:Bool} {o:Oper} {t:Bool} (hi:ops[i]?=some o) (hg:o.guard=some (j,b)) (hj:Zf9 ops j=some d) (hy:look e d=some (.B t))
 (ht:t=true->WG P n ops S Lt Q ((i,q) :: rest) ((d,.B true) :: e) w) (hf:t=false->WG P n ops S Lt Q ((i,q) :: rest) ((d,.B false) :: e) w):WG P n ops S Lt Q ((i,q) :: rest) e w:=by
 refine ⟨λlisted hs hB a ha=>?_⟩;cases t;exact (hf rfl).h _ hs hB a (ha.same hy rfl);exact (ht rfl).h _ hs hB a (ha.same hy rfl)
end rules
abbrev ZaH (P:Program) (md:Region.Mode) (ops:Array Oper) (S:List Nat) (Lt:Nat->Bool) (Z:Act->World->Prop):Nat->Array Bool->Act->World->Prop:=Z1C P md ops S Lt Z
abbrev WD (P:Program) (n:Nat) (ops:Array Oper) (S:List Nat) (Lt:List Nat) (Q:Exit->Act->World->Prop) (ord:List (Nat×Nat)) (e:Env) (w:World):Prop:=WG P n ops S Lt Q ord e w
abbrev WD1 (P:Program) (n:Nat) (ops:Array Oper) (S:List Nat) (Lt:List Nat) (Q:Exit->Act->World->Prop) (i:Nat) (ord:List (Nat×Nat)) (e:Env) (w:World):Prop:=WG1 P n ops S Lt Q i ord e w
section
variable {P:Program} {n:Nat} {Q:Exit->Act->World->Prop} {e:Env} {w:World} {ops:Array Oper} {Lt:List Nat} {rest:List (Nat×Nat)} {i d:Nat} {op:Op} {ty:TypeId} {pos:String} {af:Array Edge} {gd:Option (Nat×Bool)} {v:Value}
theorem Z7W {id:Nat} {l:List Oper} (m:Nat) (S:List Nat) (Lt:List Nat) (ord:List (Nat×Nat)) (cI:l.length=m) (hm:P.follows .mixedOrders=true) (hs:Region.noSelect l.toArray=true) (hl:Nat.beq (wt ord) l.length=true)
 (hB:J6 l.toArray Lt ord (Array.replicate m false)=true)
 (h:∀ w',Stp [] w w'->WD P n l.toArray S Lt Q ord e w'):WC P n (.region id l.toArray true) Q e w:=Zg7 m S Lt ord cI hm hs hl hB h
theorem ZP {S:List Nat} (hi:ops[i]?=some ⟨some d,op,ty,pos,af,gd⟩) (hg:Z0b ops e gd) (hp:∀ w',Stp S w w'->PR P n ⟨some d,op,ty,pos,af,gd⟩ e w' v) (aw:Nat.blt d n=true)
 (k:WD P n ops S Lt Q rest ((d,v) :: e) w):WD P n ops S Lt Q ((i,1) :: rest) e w:=ZmK hi hg hp aw k
end
theorem ZDr {P:Program} {n:Nat} {Q:Exit->Act->World->Prop} {e:Env} {w} {id:Nat} {l:List Oper} (m:Nat) (S:List Nat) (Lt:List Nat) (ord:List (Nat×Nat)) (h:∀ w',Stp [] w w'->WD P n l.toArray S Lt Q ord e w') (cI:l.length=m:=by exact rfl) (hm:P.follows .mixedOrders=true:=by kernel_rfl) (hs:Region.noSelect l.toArray=true:=by kernel_rfl) (hl:Nat.beq (wt ord) l.length=true:=by kernel_rfl)
 (hB:J6 l.toArray Lt ord (Array.replicate m false)=true:=by kernel_rfl):WC P n (.region id l.toArray true) Q e w:=Z7W m S Lt ord cI hm hs hl hB h
theorem Z19 {k:Nat}:∀ (l:List (List Value)),(∀ c∈l,c.length=k)->l.flatten.length=l.length * k
 | [],_=>by simp
 | c :: r, h => by
   simp only [Yah,Xd,Xe,X9];rw [Z19 r (λc hc=>h c (by simp [hc])),h c (by simp)];omega
theorem Z1t {k:Nat}:∀ (css:List (List Value)),(∀ c∈css,c.length=k)->∀ (i:Nat),i<css.length->∀ (cs:List Value),
 (css.set i cs).flatten=css.flatten.take (i * k)++cs++css.flatten.drop (i * k+k)
 | [],_,i,hi,_=>absurd hi (Xw _)
 | c :: r, hk, 0, _, cs => by
   have hc:=hk c (by simp);simp [hc]
 | c :: r, hk, i + 1, hi, cs => by
   have hc:=hk c (by simp);have ih:=Z1t r (λc hc=>hk c (by simp [hc])) i (by simpa using hi) cs;simp only [List.set_cons_succ,Yah,ih,X9];rw [YaE,List.drop_append,hc];rw [XJ (l:=c) (by omega),show c.drop (i * k+k+k)=[] from YaD (by omega)];rw [show i * k+k - k=i * k by omega,show i * k+k+k - k=i * k+k by omega];simp [XA]
theorem Z33 {k:Nat}:∀ (css:List (List Value)),(∀ c∈css,c.length=k)->∀ (i:Nat) (hi:i<css.length) (j:Nat) (hj:j<k) (u:Value),
 (css.set i (css[i].set j u)).flatten=css.flatten.set (i * k+j) u
 | [],_,i,hi,_,_,_=>absurd hi (Xw _)
 | c :: r, hk, 0, _, j, hj, u => by
   have hc:=hk c (by simp);simp [hc,hj]
 | c :: r, hk, i + 1, hi, j, hj, u => by
   have hc:=hk c (by simp);have ih:=Z33 r (λc hc=>hk c (by simp [hc])) i (by simpa using hi) j hj u;simp only [List.set_cons_succ,Yah,List.getElem_cons_succ,ih,X9];rw [YbG,if_neg (by omega),hc];rw [show i * k+k+j - k=i * k+j by omega]
section row
variable {α:Type} [Z6 α] {X:List Nat} {w w':World} {base T:Nat} {v:Value} {xs:List α}
variable {P:Program} {n:Nat} {e:Env} {d:Option Nat} {ty:TypeId} {pos:String} {af:Array Edge} {g:Option (Nat×Bool)}
theorem Row.isSome (h:Row X w base T v xs) {i:Nat} (hi:i<xs.length):∃ q l c,v=.slice (some ⟨q,0,none⟩) l c:=by
 obtain ⟨css,hl,hr,ho⟩:=h;rcases ho.2 with ⟨rfl,hn⟩|⟨q,cap,cur,rfl,hb,hg,cO,bQ,aO,ht⟩
 omega;exact ⟨_,_,_,rfl⟩
theorem Z34 {i k:Nat} {t:TypeId} {x y:Operand} {u:Value} {y':α} [bH:Siz P t k] (hx:ev e x=some (.pointer (some (ZH v i k 0)))) (hy:ev e y=some u) (hk:k=Z6.k α)
 (bE:Z6.rep (ob v++X) w y' u.cells.toList) (ab:Row X w base T v xs) (hX:∀ b∈X,b<base) (hi:i<xs.length) :
 OE P n ⟨d,.store t x y,ty,pos,af,g⟩ e w (λ_ w'=>Row X w' base T v (xs.set i y')/\Stp (ob v) w w'):=by
 have dz:=ab;obtain ⟨css,hl,hr,ho⟩:=ab;have ai:∀ c∈css,c.length=Z6.k α:=by
  intro c hc;obtain ⟨q,hq,rfl⟩:=Xr hc;exact Z6.len (hr q (by omega) hq)
 rcases ho.2 with ⟨rfl,hn⟩|⟨q,cap,cur,rfl,hb,hg,cO,bQ,aO,ht⟩
 omega;subst hk;have eF:u.cells.toList.length=Z6.k α:=Z6.len bE;have cC:i * Z6.k α+u.cells.toList.length<=cur.size:=by
  rw [eF,aO,<- X9];exact Xq _ (by omega)
 have ax:=run_storeCells_at P q (i * Z6.k α) T u.cells.toList 0 cur w hg (by simpa using cC) (Z6.one bE);simp only [Ybp] at ax;have eq:u.cells.size=Z6.k α:=by simpa using eF
 have js:Stp [q] w (w.setRow q (cur.toList.take (i * Z6.k α)++u.cells.toList++cur.toList.drop (i * Z6.k α+u.cells.toList.length)).toArray):=Z1W _ _ _;refine Z4p (w':=w.setRow q (cur.toList.take (i * Z6.k α)++u.cells.toList++cur.toList.drop (i * Z6.k α+u.cells.toList.length)).toArray) (λa ha=>?_) ⟨⟨css.set i u.cells.toList,by simp [hl],λj hj gz=>?_,?_,.inr ⟨q,cap,_,by simp,hb,setRow_heap w q cur _ T (0,0) hg,by simpa using cO,bQ,?_,?_⟩⟩,js⟩;have dB:ZH (.slice (some ⟨q,0,none⟩) xs.length cap) i (Z6.k α) 0=⟨q,i * Z6.k α,none⟩:=by simp [ZH]
 rw [dB] at hx;simp [execOp,ha.ev hx,ha.ev hy,Instr.storeAt,Instr.sureAddr,storeVar,Siz.run,eq,ax];have ae:∀ b∈[q],b∈ob (.slice (some ⟨q,0,none⟩) xs.length cap)++X:=by simp [ob]
 by_cases dJ:i=j;subst dJ;simp only [Ybg];exact Z6.ext bE js ae (λb hb=>.inl hb);simp only [YaN dJ];exact Z6.ext (hr j (by simpa using hj) (by simpa using gz)) js ae (λb hb=>.inl hb);rw [Z1t css ai i (by omega)];have h1:=ho.1;simp only [Xd,Xx,Yar,X4,eF,h1];have:(i+1) * Z6.k α<=xs.length * Z6.k α:=Xq _ (by omega);rw [X9] at this;omega;simp only [Yaw,Xd,Xx,Yar,Yak,eF,aO];rw [eF,aO] at cC;omega;rw [Z1t css ai i (by omega),<- ht];have h2:(i+1) * Z6.k α<=xs.length * Z6.k α:=Xq _ (by omega);rw [X9] at h2;have h3:i * Z6.k α<=cur.toList.length:=by simp [aO];exact Xh (by omega) (Xq _ cO)
 simp only [X4,eF];rw [YaE,YaE,YaI,YaI,Ybs];simp only [Xd,Xx,eF];rw [Yae h3,XJ (l:=u.cells.toList) (by rw [eF];omega)];rw [YbB (by omega:i * Z6.k α<=xs.length * Z6.k α),Yae (by omega:i * Z6.k α<=xs.length * Z6.k α)]
theorem Z4r {β:Type} [Z3 β] {xs:List β} {i j k:Nat} {t:TypeId} {x y:Operand} {u:Value} {y':β} [bH:Siz P t 1] (hx:ev e x=some (.pointer (some (ZH v i k j)))) (hy:ev e y=some u) (hk:k=Z3.k β)
 (hu:u.cells.toList=[u]) (h1:u.oneCell'=true) (ab:Row X w base T v xs) (hi:i<xs.length) (hj:j<Z3.k β) (bE:Z3.enc y'=(Z3.enc xs[i]).set j u) :
 OE P n ⟨d,.store t x y,ty,pos,af,g⟩ e w (λ_ w'=>Row X w' base T v (xs.set i y')/\Stp (ob v) w w'):=by
 obtain ⟨css,hl,hr,ho⟩:=ab;have ai:∀ c∈css,c.length=Z6.k β:=by
  intro c hc;obtain ⟨q,hq,rfl⟩:=Xr hc;exact Z6.len (hr q (by omega) hq)
 have d9:Z6.k β=Z3.k β:=rfl;rcases ho.2 with ⟨rfl,hn⟩|⟨q,cap,cur,rfl,hb,hg,cO,bQ,aO,ht⟩
 omega;subst hk;have hlt:i * Z3.k β+j<xs.length * Z3.k β:=by
  have:(i+1) * Z3.k β<=xs.length * Z3.k β:=Xq _ (by omega);rw [X9] at this;omega
 have cC:i * Z3.k β+j+[u].length<=cur.size:=by
  rw [aO,d9];have:=Xq (Z3.k β) cO;simp only [List.length_singleton];omega
 have ax:=run_storeCells_at P q (i * Z3.k β+j) T [u] 0 cur w hg (by simpa using cC) (by simpa using h1);simp only [Ybp] at ax;have eq:u.cells.size=1:=by rw [<- Yak,hu];rfl
 have js:Stp [q] w (w.setRow q (cur.toList.take (i * Z3.k β+j)++[u]++cur.toList.drop (i * Z3.k β+j+[u].length)).toArray):=Z1W _ _ _;have pW:css[i]'(by omega)=Z3.enc xs[i]:=hr i hi (by omega);refine Z4p (w':=w.setRow q (cur.toList.take (i * Z3.k β+j)++[u]++cur.toList.drop (i * Z3.k β+j+[u].length)).toArray) (λa ha=>?_) ⟨⟨css.set i ((css[i]'(by omega)).set j u),by simp [hl],λm hm kK=>?_,?_,.inr ⟨q,cap,_,by simp,hb,setRow_heap w q cur _ T (0,0) hg,by simpa using cO,bQ,?_,?_⟩⟩,js⟩;have dB:ZH (.slice (some ⟨q,0,none⟩) xs.length cap) i (Z3.k β) j=⟨q,i * Z3.k β+j,none⟩:=by simp [ZH]
 rw [dB] at hx;simp [execOp,ha.ev hx,ha.ev hy,Instr.storeAt,Instr.sureAddr,storeVar,Siz.run,eq,hu,ax];by_cases dJ:i=m;subst dJ;simp only [Ybg];show _=Z3.enc y';rw [pW,bE];simp only [YaN dJ];exact hr m (by simpa using hm) (by simpa using kK);rw [Z33 css ai i (by omega) j hj];simpa using ho.1;simp only [Yaw,Xd,Xx,Yar,Yak];omega;rw [Z33 css ai i (by omega) j hj,<- ht];have bH:i * Z3.k β+j<cur.toList.length:=by simp;simp at cC;omega
 simp only [X4,d9];rw [show cur.toList.take (i * Z3.k β+j)++[u]++cur.toList.drop (i * Z3.k β+j+[u].length)=cur.toList.set (i * Z3.k β+j) u by
  rw [List.set_eq_take_append_cons_drop,if_pos bH];simp]
 rw [List.take_set]
def slc (v:Value) (l h k:Nat):Value:=
 match v with
 | .slice a _ c=>.slice (if c=l then a else a.map (·.add (l * k))) (h - l) (c - l)
 | v=>v
theorem SlV.slc (h:SlV X w v xs) {l r:Nat} (hl:l<=r) (hr:r<=xs.length):SlV X w (slc v l r (Z6.k α)) ((xs.take r).drop l):=by
 obtain ⟨p,c,rfl,ai,hm,hn,hc⟩:=h;have gB:((xs.take r).drop l).length=r - l:=by simp;omega
 refine ⟨if c=l then p else p.map (·.add (l * Z6.k α)),c - l,by simp [Eng.slc,gB],by omega,by omega,?_,λi hi=>?_⟩;intro hp;split at hp;omega
 . cases p with
   | none=>have:=hn rfl;omega
   | some a=>simp at hp
 have cg:l+i<xs.length:=by omega
 obtain ⟨b,o,cs,rfl,hb,hx,fp,aq⟩:=hc (l+i) cg;refine ⟨b,o+l * Z6.k α,cs,?_,hb,hx,by simpa using fp,λj u hu=>?_⟩;rw [if_neg (by omega)];simp [Addr.add_lit];have:=aq j u hu;rw [show o+l * Z6.k α+i * Z6.k α+j=o+(l+i) * Z6.k α+j by rw [Nat.add_mul];omega];exact this
theorem Z1Y {t el k:Nat} {x hi:Operand} {r:Nat} {b:Int} [hu:Und P t (.slice el)] [hk:Siz P el k] {dt:World} (hx:ev e x=some v) (hs:SlV X dt v xs) (hb:ev e hi=some (.I b))
 (ma:b=(r:Int)) (mN:r<=xs.length):PR P n ⟨d,.slice t x none (some hi) none,ty,pos,af,g⟩ e w (slc v 0 r k):=by
 refine ⟨λact eY=>?_⟩;obtain ⟨p,c,rfl,ai,hm,hn,hc⟩:=hs;subst ma;simp [execOp,eY.ev hx,eY.ev hb,Instr.sliceAt,run_underlying hu.h,Instr.slice,Instr.sliceBounds,Instr.sliceBound,asIntOf,Siz.run,Eng.slc,show r<=c by omega]
theorem Z5c {t el k:Nat} {x lo:Operand} {l:Nat} {a:Int} [hu:Und P t (.slice el)] [hk:Siz P el k] {dt:World} (hx:ev e x=some v) (hs:SlV X dt v xs) (ha:ev e lo=some (.I a))
 (je:a=(l:Int)) (pX:l<=xs.length):PR P n ⟨d,.slice t x (some lo) none none,ty,pos,af,g⟩ e w (slc v l xs.length k):=by
 refine ⟨λact eY=>?_⟩;obtain ⟨p,c,rfl,ai,hm,hn,hc⟩:=hs;subst je;simp [execOp,eY.ev hx,eY.ev ha,Instr.sliceAt,run_underlying hu.h,Instr.slice,Instr.sliceBounds,Instr.sliceBound,asIntOf,Siz.run,Eng.slc,pX]
theorem Z5x {k:Nat}:∀ (css:List (List Value)),(∀ c∈css,c.length=k)->∀ (i:Nat),(css.take i).flatten=css.flatten.take (i * k)
 | [],_,i=>by simp
 | c :: r,hk,0=>by simp
 | c :: r, hk, i + 1 => by
   have hc:=hk c (by simp);have ih:=Z5x r (λc hc=>hk c (by simp [hc])) i;simp only [Yaz,Yah,ih,X9];rw [YaE,hc,XJ (l:=c) (by omega),show i * k+k - k=i * k by omega]
theorem Zjb (v:Value) (r k:Nat):ob (slc v 0 r k)=ob v:=by
 cases v<;>try rfl
 rename_i a l c;cases a with
 | none=>simp [slc,ob]
 | some a=>by_cases hc:c=0<;>simp [slc,ob,hc,Addr.add]
theorem Row.cut (h:Row X w base T v xs) {r:Nat} (hr:r<=xs.length):Row X w base T (slc v 0 r (Z6.k α)) (xs.take r):=by
 obtain ⟨css,hl,fp,ho⟩:=h;have ai:∀ c∈css,c.length=Z6.k α:=by
  intro c hc;obtain ⟨q,hq,rfl⟩:=Xr hc;exact Z6.len (fp q (by omega) hq)
 refine ⟨css.take r,by simp [hl],λi hi cH=>?_,?_,?_⟩;rw [Zjb];simp only [List.getElem_take];exact fp i (by simp at hi;omega) (by simp at cH;omega);rw [Z19 _ (λc hc=>ai c (Yav hc))];simp [hl];rcases ho.2 with ⟨rfl,hn⟩|⟨q,cap,cur,rfl,hb,hg,cO,bQ,aO,ht⟩
 exact .inl ⟨by simp [Eng.slc];omega,by simp;omega⟩;refine .inr ⟨q,cap,cur,?_,hb,hg,by simp;omega,bQ,aO,?_⟩;simp [Eng.slc,Addr.add,Xx,Yae hr];rw [Z5x css ai,<- ht,YaI,Xx,Yae hr];congr 1;have:=Xq (Z6.k α) hr;omega
end row
section misc
variable {P:Program} {n:Nat} {e:Env} {w:World} {d:Option Nat} {ty:TypeId} {pos:String} {af:Array Edge} {g:Option (Nat×Bool)}
def JQ (e:Env):List (Nat×Operand)->Option (List (Nat×Value))
 | []=>some []
 | (i, x) :: r => match ev e x, JQ e r with
   | some v,some l=>some ((i,v) :: l)
   | _,_=>none
theorem Has.parts {a:Act} (ha:Has n e a):∀ {l:List (Nat×Operand)} {vs:List (Nat×Value)},JQ e l=some vs->l.map (λ(p:Nat×Operand)=>(p.1,a.eval p.2))=vs
 | [],vs,h=>by simp [JQ] at h;simp [h]
 | (i, x) :: r, vs, h => by
   simp only [JQ] at h;cases hx:Eng.ev e x with
   | none=>simp [hx] at h
   | some v=>
     cases hr:JQ e r with
     | none=>simp [hx,hr] at h
     | some l=>
       simp [hx,hr] at h;subst h;simp [ha.ev hx,Has.parts ha hr]
theorem Z0P {t:TypeId} {l:List (Nat×Operand)} {vs:List (Nat×Value)} {u:Value} (hv:JQ e l=some vs) (hb:∀ w,(Instr.build t vs.toArray).run P w=.ok u w):PR P n ⟨d,.build t l.toArray,ty,pos,af,g⟩ e w u:=
 ⟨λa ha => by
   have h1:=ha.parts hv;have h2:l.toArray.map (λ(x:Nat×Operand)=>match x with|(i,x)=>(i,a.eval x))=vs.toArray:=by
    rw [YbC];exact congrArg List.toArray h1
   simp only [execOp];rw [h2];simp [hb]⟩
def Z9 (w:World) (T:TypeId) (len:Nat) (cs:List Value) (v:Value) (w':World):Prop:=∃ b,v=.slice (some ⟨b,0,none⟩) len len/\w.heap.size<=b/\Blk w' b T cs/\Stp [] w w'
theorem Z1 {t T len:Nat} {l:List (Nat×Operand)} {vs:List (Nat×Value)} {cs:List Value} (hv:JQ e l=some vs)
 (hb:∀ w:World,(Instr.buildSlice t len vs.toArray).run P w=.ok (.slice (some ⟨w.heap.size,0,none⟩) len len) (w.alloc (.cells cs.toArray T))) :
 OE P n ⟨d,.buildSlice t len l.toArray,ty,pos,af,g⟩ e w (Z9 w T len cs):=
 Jd (v:=.slice (some ⟨w.heap.size,0,none⟩) len len) (w':=w.alloc (.cells cs.toArray T)) (λa ha=>by
  have h1:=ha.parts hv;have h2:l.toArray.map (λ(x:Nat×Operand)=>match x with|(i,x)=>(i,a.eval x))=vs.toArray:=by
   rw [YbC];exact congrArg List.toArray h1
  simp only [execOp];rw [h2];simp [hb w]) ⟨w.heap.size,rfl,Xn _,heap_alloc_new w _,Stp.alloc _ _ _⟩
theorem Z9.slv {β:Type} [Z3 β] {X:List Nat} {T len:Nat} {cs:List Value} {v:Value} {w':World} {ys:List β} (h:Z9 w T len cs v w') (hX:∀ b∈X,b<w.heap.size) (hl:len=ys.length) (hc:cs=ys.flatMap Z3.enc) (hm:ys.length<=maxLen):SlV X w' v ys:=by
 obtain ⟨b,rfl,hb,ac,hS⟩:=h;subst hl;refine ⟨some ⟨b,0,none⟩,ys.length,rfl,Xn _,hm,λh=>by simp at h,λi hi=>⟨b,0,Z3.enc ys[i],rfl,ac.lt,λhx=>by have:=hX b hx;omega,rfl,λj u hu=>?_⟩⟩;subst hc;refine ac.cell ?_;have hk:∀ c∈ys.map Z3.enc,c.length=Z3.k β:=by
  intro c hc;obtain ⟨y,_,rfl⟩:=XH.1 hc;exact Z3.len y
 have:=Z0v (ys.map Z3.enc) hk i (by simpa using hi) j u (by simpa using hu);rw [Ybi,XP];exact this
theorem Z9.row {β:Type} [Z3 β] {X:List Nat} {T len base:Nat} {cs:List Value} {v:Value} {w':World} {ys:List β} (h:Z9 w T len cs v w') (aX:base<=w.heap.size) (hl:len=ys.length) (hc:cs=ys.flatMap Z3.enc) (hm:ys.length<=maxLen):Row X w' base T v ys:=by
 obtain ⟨b,rfl,hb,ac,hS⟩:=h;subst hl;subst hc;have hk:∀ c∈ys.map Z3.enc,c.length=Z3.k β:=by
  intro c hc;obtain ⟨y,_,rfl⟩:=XH.1 hc;exact Z3.len y
 have dC:(ys.flatMap Z3.enc).length=ys.length * Z3.k β:=by rw [Ybi,Z19 _ hk,Xu]
 refine ⟨ys.map Z3.enc,by simp,λi hi cH=>(by simp:(ys.map Z3.enc)[i]=Z3.enc ys[i]),?_,.inr ⟨b,ys.length,(ys.flatMap Z3.enc).toArray,rfl,by omega,ac,Xn _,hm,by rw [Yaw];exact dC,?_⟩⟩;rw [<- Ybi];exact dC;rw [<- Ybi];exact XJ (by show (ys.flatMap Z3.enc).length<=_;rw [dC];exact Xn _)
theorem ZmN {x y:Operand} {t u:TypeId} {p q:Value} {c:Prop} [Decidable c] (hx:ev e x=some p) (hy:ev e y=some q) (hg:∀ w,(eqGuard .eql t x y p q).run P w=.ok () w) (h:∀ w,(binOp .eql t p q).run P w=.ok (.B (decide c)) w) :
 PR P n ⟨d,.binOp .eql t x y u,ty,pos,af,g⟩ e w (.B (decide c)):=⟨λa ha=>by simp [execOp,ha.ev hx,ha.ev hy,h,hg]⟩
theorem Zfe {x y:Operand} {t u:TypeId} {p q:Value} {c:Prop} [Decidable c] (hx:ev e x=some p) (hy:ev e y=some q) (hg:∀ w,(eqGuard .neq t x y p q).run P w=.ok () w) (h:∀ w,(binOp .neq t p q).run P w=.ok (.B (decide (¬ c))) w) :
 PR P n ⟨d,.binOp .neq t x y u,ty,pos,af,g⟩ e w (.B (decide (¬ c))):=⟨λa ha=>by simp only [execOp,ha.ev hx,ha.ev hy];simp [h,hg]⟩
end misc
section post
variable {P:Program} {n:Nat} {fn:Func} {R:Ending->World->Prop} {e:Env} {w:World} {Q:Exit->Act->World->Prop}
theorem Z6Z {t b T m:Nat} {D:TypeDesc} {cs:List Value} [hu:Und P t D] (hA:Z0K D=true) [hs:Siz P t m] (hb:Blk w b T cs) (hl:cs.length=m):(loadVar t ⟨b,0,none⟩).run P w=.ok (.agg cs.toArray) w:=by
 have:=run_loadCells_list (P:=P) w ⟨b,0,none⟩ cs (λj v h=>by rw [Addr.add_lit,XP];exact hb.cell h);rw [hl] at this;simp [loadVar,Und.isAgg,hA,Siz.run,this]
theorem J3 {t b T T' m:Nat} {D:TypeDesc} {cs:List Value} (hr:fn.results=#[.cell t T']) [hu:Und P T' D] (hA:Z0K D=true) [hs:Siz P T' m] (ht:look e t=some (pQ b)) (hb:Blk w b T cs) (hl:cs.length=m)
 (h:R (.returned (.agg cs.toArray)) w):WQ n (bodyPost P fn R) .ret e w:=
 ⟨λa ha => ⟨ha.defers, .agg cs.toArray, by
   have h1:=ha.vals _ _ ht;rw [XD] at h1;simp [results,hr,h1,asAddr,Z6Z hA hb hl],h⟩⟩
theorem Zn {t b T T' m s:Nat} {D:TypeDesc} {cs:List Value} {v:Value} (hr:fn.results=#[.cell t T',.tmp s]) [hu:Und P T' D] (hA:Z0K D=true) [hs:Siz P T' m] (ht:look e t=some (pQ b)) (hb:Blk w b T cs) (hl:cs.length=m)
 (hv:look e s=some v) (h:R (.returned (.tuple #[.agg cs.toArray,v])) w):WQ n (bodyPost P fn R) .ret e w:=
 ⟨λa ha => ⟨ha.defers, .tuple #[.agg cs.toArray, v], by
   have h1:=ha.vals _ _ ht;have h2:=ha.vals _ _ hv;rw [XD] at h1 h2;simp [results,hr,h1,h2,asAddr,Z6Z hA hb hl],h⟩⟩
end post
theorem ZoC {P:Program} {n:Nat} {o:Oper} {e:Env} {w} {v:Value} (h:PR P n o e w v):OE P n o e w (λu w'=>u=v/\w'=w):=Jd h.h ⟨rfl,rfl⟩
section
variable {P:Program} {n:Nat} {Q:Exit->Act->World->Prop} {e:Env} {w:World} {ops:Array Oper} {S:List Nat} {Lt:List Nat} {rest:List Oper} {ord:List (Nat×Nat)} {ak bX:Nat} {ty:TypeId} {pos:String} {af:Array Edge} {gd:Option (Nat×Bool)}
theorem Z7F {x:Operand} {v:Value} (hx:ev e x=some v) (aw:Nat.blt ak n=true) (kk:WL P n ops Q rest ((ak,v) :: e) w):WL P n ops Q (⟨some ak,.move x,ty,pos,af,none⟩ :: rest) e w:=by
 refine Z8 (v:=v) ?_ aw kk;apply ZX<;>assumption
theorem Z4s {x:Operand} {v:Value} (hx:ev e x=some v) (aw:Nat.blt ak n=true) (kk:WL P n ops Q rest ((ak,v) :: e) w):WL P n ops Q (⟨some ak,.assign x,ty,pos,af,none⟩ :: rest) e w:=by
 refine Z8 (v:=v) ?_ aw kk;apply Z6e<;>assumption
theorem ZdQ {x y:Operand} {t u:TypeId} {a b:Int} {k:IntKind} (hx:ev e x=some (.int k a)) (hy:ev e y=some (.int k b)) (aw:Nat.blt ak n=true) (kk:WL P n ops Q rest ((ak,(.B (decide (a<b)))) :: e) w):WL P n ops Q (⟨some ak,.binOp .lss t x y u,ty,pos,af,none⟩ :: rest) e w:=by
 refine Z8 (v:=(.B (decide (a<b)))) ?_ aw kk;apply Zi5<;>assumption
theorem ZdR {x y:Operand} {t u:TypeId} {a b:Int} {k:IntKind} (hx:ev e x=some (.int k a)) (hy:ev e y=some (.int k b)) (aw:Nat.blt ak n=true) (kk:WL P n ops Q rest ((ak,(.B (decide (b<a)))) :: e) w):WL P n ops Q (⟨some ak,.binOp .gtr t x y u,ty,pos,af,none⟩ :: rest) e w:=by
 refine Z8 (v:=(.B (decide (b<a)))) ?_ aw kk;apply Zi6<;>assumption
theorem Ztc {x y:Operand} {t u:TypeId} {a b:Int} {k:IntKind} (hx:ev e x=some (.int k a)) (hy:ev e y=some (.int k b)) (aw:Nat.blt ak n=true) (kk:WL P n ops Q rest ((ak,(.B (decide (¬ a=b)))) :: e) w):WL P n ops Q (⟨some ak,.binOp .neq t x y u,ty,pos,af,none⟩ :: rest) e w:=by
 refine Z8 (v:=(.B (decide (¬ a=b)))) ?_ aw kk;apply Zi7<;>assumption
theorem ZmO {x y:Operand} {t u:TypeId} {p q:Bool} [hu:Und P t .bool] (hx:ev e x=some (.B p)) (hy:ev e y=some (.B q)) (aw:Nat.blt ak n=true) (kk:WL P n ops Q rest ((ak,(.B (decide (¬ p=q)))) :: e) w):WL P n ops Q (⟨some ak,.binOp .neq t x y u,ty,pos,af,none⟩ :: rest) e w:=by
 refine Z8 (v:=(.B (decide (¬ p=q)))) ?_ aw kk;apply Zfc<;>assumption
theorem Z5y {x:Operand} {t:TypeId} {b o i off:Nat} [hf:Fld P t i off] (aY:ops[bX]?=some ⟨some ak,.fieldAddr t x i,ty,pos,af,gd⟩) (aZ:Z0b ops e gd) (hx:ev e x=some (.pointer (some ⟨b,o,none⟩))) (aw:Nat.blt ak n=true) (kk:WD P n ops S Lt Q ord ((ak,(.pointer (some ⟨b,o+off,none⟩))) :: e) w):WD P n ops S Lt Q ((bX,0) :: ord) e w:=by
 refine JL (v:=(.pointer (some ⟨b,o+off,none⟩))) aY aZ (λw'=>?_) aw kk;apply Z1J<;>assumption
theorem Zjc {x:Operand} {t:TypeId} {D:TypeDesc} {ad:Addr} {v:Value} [hu:Und P t D] (hA:Z0K D=false) (hx:ev e x=some (.pointer (some ad))) (hc:w.cell? ad=some v) (aw:Nat.blt ak n=true) (kk:WL P n ops Q rest ((ak,v) :: e) w):WL P n ops Q (⟨some ak,.load t x,ty,pos,af,none⟩ :: rest) e w:=by
 refine Z8 (v:=v) ?_ aw kk;apply JC<;>assumption
theorem ZbT {b T o:Nat} {cs:List Value} {u:Value} {x:Operand} {t:TypeId} {D:TypeDesc} [hu:Und P t D] (hA:Z0K D=false) (hx:ev e x=some (.pointer (some ⟨b,o,none⟩))) (hb:Blk w b T cs) (hc:cs[o]?=some u) (aw:Nat.blt ak n=true) (kk:WL P n ops Q rest ((ak,u) :: e) w):WL P n ops Q (⟨some ak,.load t x,ty,pos,af,none⟩ :: rest) e w:=by
 refine Z8 (v:=u) ?_ aw kk;apply Jq<;>assumption
theorem ZdS {α:Type} [Z6 α] {X:List Nat} {v:Value} {xs:List α} {t el k:Nat} {x hi:Operand} {r:Nat} {b:Int} [hu:Und P t (.slice el)] [hk:Siz P el k] {dt:World} (hx:ev e x=some v) (hs:SlV X dt v xs) (hb:ev e hi=some (.I b)) (ma:b=(r:Int)) (mN:r<=xs.length) (aw:Nat.blt ak n=true) (kk:WL P n ops Q rest ((ak,(slc v 0 r k)) :: e) w):WL P n ops Q (⟨some ak,.slice t x none (some hi) none,ty,pos,af,none⟩ :: rest) e w:=by
 refine Z8 (v:=(slc v 0 r k)) ?_ aw kk;apply Z1Y (α:=α)<;>assumption
theorem Z5d {α:Type} [Z6 α] {X:List Nat} {v:Value} {xs:List α} {t el k:Nat} {x lo:Operand} {l:Nat} {a:Int} [hu:Und P t (.slice el)] [hk:Siz P el k] {dt:World} (hx:ev e x=some v) (hs:SlV X dt v xs) (ha:ev e lo=some (.I a)) (je:a=(l:Int)) (pX:l<=xs.length) (aw:Nat.blt ak n=true) (kk:WL P n ops Q rest ((ak,(slc v l xs.length k)) :: e) w):WL P n ops Q (⟨some ak,.slice t x (some lo) none none,ty,pos,af,none⟩ :: rest) e w:=by
 refine Z8 (v:=(slc v l xs.length k)) ?_ aw kk;apply Z5c (α:=α)<;>assumption
theorem Z7 {t:TypeId} {l:List (Nat×Operand)} {vs:List (Nat×Value)} {u:Value} (hv:JQ e l=some vs) (hb:∀ w,(Instr.build t vs.toArray).run P w=.ok u w) (aw:Nat.blt ak n=true) (kk:WL P n ops Q rest ((ak,u) :: e) w):WL P n ops Q (⟨some ak,.build t l.toArray,ty,pos,af,none⟩ :: rest) e w:=by
 refine Z8 (v:=u) ?_ aw kk;apply Z0P<;>assumption
theorem Z1Z {t:TypeId} {l:List (Nat×Operand)} {vs:List (Nat×Value)} {u:Value} (aY:ops[bX]?=some ⟨some ak,.build t l.toArray,ty,pos,af,gd⟩) (aZ:Z0b ops e gd) (hv:JQ e l=some vs) (hb:∀ w,(Instr.build t vs.toArray).run P w=.ok u w) (aw:Nat.blt ak n=true) (kk:WD P n ops S Lt Q ord ((ak,u) :: e) w):WD P n ops S Lt Q ((bX,0) :: ord) e w:=by
 refine JL (v:=u) aY aZ (λw'=>?_) aw kk;apply Z0P<;>assumption
theorem ZmP {x y:Operand} {t u:TypeId} {p q:Value} {c:Prop} [Decidable c] (aY:ops[bX]?=some ⟨some ak,.binOp .eql t x y u,ty,pos,af,gd⟩) (aZ:Z0b ops e gd) (hx:ev e x=some p) (hy:ev e y=some q) (hg:∀ w,(eqGuard .eql t x y p q).run P w=.ok () w) (h:∀ w,(binOp .eql t p q).run P w=.ok (.B (decide c)) w) (aw:Nat.blt ak n=true) (kk:WD P n ops S Lt Q ord ((ak,(.B (decide c))) :: e) w):WD P n ops S Lt Q ((bX,0) :: ord) e w:=by
 refine JL (v:=(.B (decide c))) aY aZ (λw'=>?_) aw kk;apply ZmN<;>assumption
theorem ZmQ {x y:Operand} {t u:TypeId} {p q:Value} {c:Prop} [Decidable c] (hx:ev e x=some p) (hy:ev e y=some q) (hg:∀ w,(eqGuard .neq t x y p q).run P w=.ok () w) (h:∀ w,(binOp .neq t p q).run P w=.ok (.B (decide (¬ c))) w) (aw:Nat.blt ak n=true) (kk:WL P n ops Q rest ((ak,(.B (decide (¬ c)))) :: e) w):WL P n ops Q (⟨some ak,.binOp .neq t x y u,ty,pos,af,none⟩ :: rest) e w:=by
 refine Z8 (v:=(.B (decide (¬ c)))) ?_ aw kk;apply Zfe<;>assumption
theorem ZmR {x y:Operand} {t u:TypeId} {p q:Value} {c:Prop} [Decidable c] (aY:ops[bX]?=some ⟨some ak,.binOp .neq t x y u,ty,pos,af,gd⟩) (aZ:Z0b ops e gd) (hx:ev e x=some p) (hy:ev e y=some q) (hg:∀ w,(eqGuard .neq t x y p q).run P w=.ok () w) (h:∀ w,(binOp .neq t p q).run P w=.ok (.B (decide (¬ c))) w) (aw:Nat.blt ak n=true) (kk:WD P n ops S Lt Q ord ((ak,(.B (decide (¬ c)))) :: e) w):WD P n ops S Lt Q ((bX,0) :: ord) e w:=by
 refine JL (v:=(.B (decide (¬ c)))) aY aZ (λw'=>?_) aw kk;apply Zfe<;>assumption
end
section
variable {P:Program} {n:Nat} {Q:Exit->Act->World->Prop} {e:Env} {w:World} {ops:Array Oper} {S:List Nat} {Lt:List Nat} {ord:List (Nat×Nat)} {ak bX:Nat} {ty:TypeId} {pos:String} {af:Array Edge} {gd:Option (Nat×Bool)}
theorem Z0w {b T o:Nat} {cs:List Value} {u:Value} {x:Operand} {t:TypeId} {D:TypeDesc} [hu:Und P t D] (aY:ops[bX]?=some ⟨some ak,.load t x,ty,pos,af,gd⟩) (aZ:Z0b ops e gd) (hA:Z0K D=false) (hx:ev e x=some (.pointer (some ⟨b,o,none⟩))) (hb:Blk w b T cs) (hn:b∉S) (hc:cs[o]?=some u) (aw:Nat.blt ak n=true) (kk:WD P n ops S Lt Q ord ((ak,u) :: e) w):WD P n ops S Lt Q ((bX,1) :: ord) e w:=
 ZP aY aZ (λw' hS=>Jq hA hx (hb.ext hS hn) hc) aw kk
end
abbrev Str:=List UInt8
abbrev str (s:Str):Value:=.string ⟨s.toArray⟩
theorem ZmS (a b:Str):((⟨a.toArray⟩:ByteArray).toList == (⟨b.toArray⟩:ByteArray).toList)=decide (a=b):=by
 rw [ByteArray.toList_eq,ByteArray.toList_eq];simp only [YaJ]
theorem Z0x (a:Str):(⟨a.toArray⟩:ByteArray).size=a.length:=by simp [ByteArray.size]
theorem Z3K (a:Str) (i j:Nat):(⟨a.toArray⟩:ByteArray).extract i j=⟨((a.take j).drop i).toArray⟩:=by
 apply ByteArray.ext;simp [ByteArray.data_extract,Ybs]
theorem ZdT (a b:Str):(⟨a.toArray⟩++⟨b.toArray⟩:ByteArray)=⟨(a++b).toArray⟩:=by
 apply ByteArray.ext;simp [ByteArray.data_append]
def Jg (a:Str) (i:Nat):Int:=((a.getD i 0).toNat:Int)
theorem byte_at {a:Str} {i:Nat} (h:i<a.length):Jg a i=(a[i].toNat:Int):=by simp [Jg,List.getD,h]
theorem Z7X (a:Str) (i:Nat):0<=Jg a i/\Jg a i<256:=by
 unfold Jg;have:=(a.getD i 0).toNat_lt;omega
instance:Z3 Str where
 k:=1
 enc:=λx=>[str x]
 len:=λ_=>rfl
 one:=by intro x u hu;simp at hu;subst hu;rfl
section rules
variable {P:Program} {n:Nat} {e:Env} {w:World} {d:Option Nat} {ty:TypeId} {pos:String} {af:Array Edge} {g:Option (Nat×Bool)}
theorem ZmT {t u:TypeId} {x y:Operand} {a b:Str} [hu:Und P t .string] (hx:ev e x=some (str a)) (hy:ev e y=some (str b)):PR P n ⟨d,.binOp .eql t x y u,ty,pos,af,g⟩ e w (.B (decide (a=b))):=
 ⟨λc ha=>by simp only [execOp,ha.ev hx,ha.ev hy];simp [go_sem,binOp,Op.stringOp];rw [YaJ]⟩
theorem ZmU {t u:TypeId} {x y:Operand} {a b:Str} [hu:Und P t .string] (hx:ev e x=some (str a)) (hy:ev e y=some (str b)):PR P n ⟨d,.binOp .neq t x y u,ty,pos,af,g⟩ e w (.B (decide (¬ a=b))):=
 ⟨λc ha=>by simp only [execOp,ha.ev hx,ha.ev hy];simp [go_sem,binOp,Op.stringOp];by_cases h:a=b<;>simp [h]⟩
theorem Z4t {t u:TypeId} {x y:Operand} {a b:Str} [hu:Und P t .string] (hx:ev e x=some (str a)) (hy:ev e y=some (str b)) (hl:a.length+b.length<=9223372036854775807):PR P n ⟨d,.binOp .add t x y u,ty,pos,af,g⟩ e w (str (a++b)):=
 ⟨λc ha => by
   simp only [execOp,ha.ev hx,ha.ev hy];simp [go_sem,binOp,Op.stringOp,ZdT];omega⟩
theorem ZmV {x:Operand} {t:TypeId} {a:Str} [hu:Und P t .string] (hx:ev e x=some (str a)) :
 PR P n ⟨d,.call { callee:=.builtin .len,args:=#[x],argTypes:=#[t] },ty,pos,af,g⟩ e w (.I (a.length:Int)):=
 ⟨λc ha => by
   have:=run_len_string (P:=P) w t ty ⟨a.toArray⟩ hu.h;simp [execOp,resolve,invoke,builtin,ha.ev hx,this,goInt,Z0x]⟩
theorem Z9A {t:TypeId} {x y:Operand} {a:Str} {z:Int} {i:Nat} [hu:Und P t .string] (hx:ev e x=some (str a)) (hy:ev e y=some (.I z)) (hz:z=(i:Int)) (hi:i<a.length):PR P n ⟨d,.index t x y,ty,pos,af,g⟩ e w (.int .u8 (Jg a i)):=
 ⟨λc ha => by
   subst hz;have h1:(0:Int)<=(i:Int)/\((i:Int)<((⟨a.toArray⟩:ByteArray).size:Int)):=by rw [Z0x];omega
   have:=run_index_string (P:=P) w t ⟨a.toArray⟩ .i64 (i:Int) hu.h;rw [dif_pos h1] at this;simp only [execOp,ha.ev hx,ha.ev hy];simp [this,Jg,List.getD,hi];rfl⟩
theorem Z35 {t:TypeId} {x lo hi:Operand} {a:Str} {p q:Int} {l r:Nat} [hu:Und P t .string] (hx:ev e x=some (str a)) (h1:ev e lo=some (.I p)) (h2:ev e hi=some (.I q)) (hp:p=(l:Int)) (hq:q=(r:Int)) (pY:l<=r) (hr:r<=a.length) :
 PR P n ⟨d,.slice t x (some lo) (some hi) none,ty,pos,af,g⟩ e w (str ((a.take r).drop l)):=
 ⟨λc ha => by
   subst hp;subst hq;have:=run_slice_string (P:=P) w t ⟨a.toArray⟩ .i64 .i64 (l:Int) (r:Int) hu.h (by omega) (by omega) (by rw [Z0x];omega);simp only [execOp,ha.ev hx,ha.ev h1,ha.ev h2,Option.map];simp [Instr.sliceAt,run_underlying hu.h,this,Z3K]⟩
theorem Z70 {t:TypeId} {x lo:Operand} {a:Str} {p:Int} {l:Nat} [hu:Und P t .string] (hx:ev e x=some (str a)) (h1:ev e lo=some (.I p)) (hp:p=(l:Int)) (hl:l<=a.length) :
 PR P n ⟨d,.slice t x (some lo) none none,ty,pos,af,g⟩ e w (str (a.drop l)):=
 ⟨λc ha => by
   subst hp;have:=run_slice_string_l (P:=P) (t:=t) (s:=⟨a.toArray⟩) w hu.h .i64 (l:Int) (by omega) (by rw [Z0x];omega);simp only [execOp,ha.ev hx,ha.ev h1,Option.map];simp [Instr.sliceAt,run_underlying hu.h,this,Z3K,Z0x]⟩
theorem ZbU {t:TypeId} {x hi:Operand} {a:Str} {q:Int} {r:Nat} [hu:Und P t .string] (hx:ev e x=some (str a)) (h2:ev e hi=some (.I q)) (hq:q=(r:Int)) (hr:r<=a.length) :
 PR P n ⟨d,.slice t x none (some hi) none,ty,pos,af,g⟩ e w (str (a.take r)):=
 ⟨λc ha => by
   subst hq;have:=run_slice_string_h (P:=P) (t:=t) (s:=⟨a.toArray⟩) w hu.h .i64 (r:Int) (by omega) (by rw [Z0x];omega);simp only [execOp,ha.ev hx,ha.ev h2,Option.map];simp [Instr.sliceAt,run_underlying hu.h,this,Z3K]⟩
theorem Z3L {x:Operand} {b:Addr} (hx:ev e x=some (.pointer (some b))):PR P n ⟨d,.nilCheck x,ty,pos,af,g⟩ e w (.pointer (some b)):=
 ⟨λa ha=>by simp [execOp,ha.ev hx]⟩
theorem Zjd {t:TypeId} {x:Operand} {p:Prop} {i:Decidable p} (hx:ev e x=some (.B (decide p))):PR P n ⟨d,.unOp .not t x,ty,pos,af,g⟩ e w (.B (decide (¬ p))):=
 ⟨λa ha=>by simp [execOp,ha.ev hx,Op.unary]⟩
theorem Z4u {t el len k:Nat} {x y:Operand} {b o i:Nat} {z:Int} [hu:Und P t (.array len el)] [hk:Siz P el k] (hx:ev e x=some (.pointer (some ⟨b,o,none⟩))) (hy:ev e y=some (.I z)) (hz:z=(i:Int)) (hi:i<len) :
 PR P n ⟨d,.indexAddr t x y,ty,pos,af,g⟩ e w (.pointer (some ⟨b,o+i * k,none⟩)):=
 ⟨λa ha => by
   subst hz;have h0:(0:Int)<=(i:Int)/\(i:Int)<(len:Int):=by omega
   have hr:(Instr.indexAt t (.pointer (some ⟨b,o,none⟩)) (.I (i:Int))).run P w=.ok (.pointer (some ⟨b,o+i * k,none⟩)) w:=by
    simp only [Instr.indexAt,asIntOf];simp [run_underlying hu.h,Instr.sureAddr,Siz.run,Addr.add_lit,hi]
   simp [execOp,ha.ev hx,ha.ev hy,hr]⟩
theorem Z6h {t el len k:Nat} {x:Operand} {b:Nat} [hu:Und P t (.array len el)] [hk:Siz P el k] (hx:ev e x=some (pQ b)) :
 PR P n ⟨d,.slice t x none none none,ty,pos,af,g⟩ e w (.slice (some ⟨b,0,none⟩) len len):=
 ⟨λa ha => by
   have hr:(Instr.sliceAt t (pQ b) none none none).run P w=.ok (.slice (some ⟨b,0,none⟩) len len) w:=by
    simp [Instr.sliceAt,Instr.sureAddr,run_underlying hu.h,Instr.sliceBounds,Siz.run,Addr.add]
   simp [execOp,ha.ev hx,hr]⟩
theorem Ztd {x y:Operand} {ts:Array TypeId} {a b:Int} (hx:ev e x=some (.I a)) (hy:ev e y=some (.I b)) :
 PR P n ⟨d,.call { callee:=.builtin .max,args:=#[x,y],argTypes:=ts },ty,pos,af,g⟩ e w (.I (max a b)):=
 ⟨λc ha => by
   have hm:(if b > a then b else a)=max a b:=by omega
   simp [execOp,resolve,invoke,builtin,ha.ev hx,ha.ev hy,run_max_int2,hm]⟩
theorem Zte {x y:Operand} {ts:Array TypeId} {a b:Int} (hx:ev e x=some (.I a)) (hy:ev e y=some (.I b)) :
 PR P n ⟨d,.call { callee:=.builtin .min,args:=#[x,y],argTypes:=ts },ty,pos,af,g⟩ e w (.I (min a b)):=
 ⟨λc ha => by
   have hm:(if b<a then b else a)=min a b:=by omega
   simp [execOp,resolve,invoke,builtin,ha.ev hx,ha.ev hy,run_min_int2,hm]⟩
end rules
section
variable {P:Program} {n:Nat} {Q:Exit->Act->World->Prop} {e:Env} {w:World} {ops:Array Oper} {S:List Nat} {Lt:List Nat} {rest:List Oper} {ord:List (Nat×Nat)} {ak bX:Nat} {ty:TypeId} {pos:String} {af:Array Edge} {gd:Option (Nat×Bool)}
theorem Z0C {t u:TypeId} {x y:Operand} {a b:Str} [hu:Und P t .string] (hx:ev e x=some (str a)) (hy:ev e y=some (str b)) (hl:a.length+b.length<=9223372036854775807) (aw:Nat.blt ak n=true) (kk:WL P n ops Q rest ((ak,(str (a++b))) :: e) w):WL P n ops Q (⟨some ak,.binOp .add t x y u,ty,pos,af,none⟩ :: rest) e w:=by
 refine Z8 (v:=(str (a++b))) ?_ aw kk;apply Z4t<;>assumption
theorem J9 {t:TypeId} {x y:Operand} {a:Str} {z:Int} {i:Nat} [hu:Und P t .string] (hx:ev e x=some (str a)) (hy:ev e y=some (.int .i64 z)) (hz:z=(i:Int)) (hi:i<a.length) (aw:Nat.blt ak n=true) (kk:WL P n ops Q rest ((ak,(.int .u8 (Jg a i))) :: e) w):WL P n ops Q (⟨some ak,.index t x y,ty,pos,af,none⟩ :: rest) e w:=by
 refine Z8 (v:=(.int .u8 (Jg a i))) ?_ aw kk;apply Z9A<;>assumption
theorem Z5z {t:TypeId} {x lo hi:Operand} {a:Str} {p q:Int} {l r:Nat} [hu:Und P t .string] (hx:ev e x=some (str a)) (h1:ev e lo=some (.int .i64 p)) (h2:ev e hi=some (.int .i64 q)) (hp:p=(l:Int)) (hq:q=(r:Int)) (pY:l<=r) (hr:r<=a.length) (aw:Nat.blt ak n=true) (kk:WL P n ops Q rest ((ak,(str ((a.take r).drop l))) :: e) w):WL P n ops Q (⟨some ak,.slice t x (some lo) (some hi) none,ty,pos,af,none⟩ :: rest) e w:=by
 refine Z8 (v:=(str ((a.take r).drop l))) ?_ aw kk;apply Z35<;>assumption
theorem ZbV {t:TypeId} {x lo:Operand} {a:Str} {p:Int} {l:Nat} [hu:Und P t .string] (hx:ev e x=some (str a)) (h1:ev e lo=some (.int .i64 p)) (hp:p=(l:Int)) (hl:l<=a.length) (aw:Nat.blt ak n=true) (kk:WL P n ops Q rest ((ak,(str (a.drop l))) :: e) w):WL P n ops Q (⟨some ak,.slice t x (some lo) none none,ty,pos,af,none⟩ :: rest) e w:=by
 refine Z8 (v:=(str (a.drop l))) ?_ aw kk;apply Z70<;>assumption
theorem ZbW {t:TypeId} {x lo:Operand} {a:Str} {p:Int} {l:Nat} [hu:Und P t .string] (aY:ops[bX]?=some ⟨some ak,.slice t x (some lo) none none,ty,pos,af,gd⟩) (aZ:Z0b ops e gd) (hx:ev e x=some (str a)) (h1:ev e lo=some (.int .i64 p)) (hp:p=(l:Int)) (hl:l<=a.length) (aw:Nat.blt ak n=true) (kk:WD P n ops S Lt Q ord ((ak,(str (a.drop l))) :: e) w):WD P n ops S Lt Q ((bX,0) :: ord) e w:=by
 refine JL (v:=(str (a.drop l))) aY aZ (λw'=>?_) aw kk;apply Z70<;>assumption
theorem Z0y {t:TypeId} {x hi:Operand} {a:Str} {q:Int} {r:Nat} [hu:Und P t .string] (hx:ev e x=some (str a)) (h2:ev e hi=some (.int .i64 q)) (hq:q=(r:Int)) (hr:r<=a.length) (aw:Nat.blt ak n=true) (kk:WL P n ops Q rest ((ak,(str (a.take r))) :: e) w):WL P n ops Q (⟨some ak,.slice t x none (some hi) none,ty,pos,af,none⟩ :: rest) e w:=by
 refine Z8 (v:=(str (a.take r))) ?_ aw kk;apply ZbU<;>assumption
theorem Z36 {t el len k:Nat} {x y:Operand} {b o i:Nat} {z:Int} [hu:Und P t (.array len el)] [hk:Siz P el k] (hx:ev e x=some (.pointer (some ⟨b,o,none⟩))) (hy:ev e y=some (.int .i64 z)) (hz:z=(i:Int)) (hi:i<len) (aw:Nat.blt ak n=true) (kk:WL P n ops Q rest ((ak,(.pointer (some ⟨b,o+i * k,none⟩))) :: e) w):WL P n ops Q (⟨some ak,.indexAddr t x y,ty,pos,af,none⟩ :: rest) e w:=by
 refine Z8 (v:=(.pointer (some ⟨b,o+i * k,none⟩))) ?_ aw kk;apply Z4u<;>assumption
theorem ZmW {t el len k:Nat} {x y:Operand} {b o i:Nat} {z:Int} [hu:Und P t (.array len el)] [hk:Siz P el k] (aY:ops[bX]?=some ⟨some ak,.indexAddr t x y,ty,pos,af,gd⟩) (aZ:Z0b ops e gd) (hx:ev e x=some (.pointer (some ⟨b,o,none⟩))) (hy:ev e y=some (.int .i64 z)) (hz:z=(i:Int)) (hi:i<len) (aw:Nat.blt ak n=true) (kk:WD P n ops S Lt Q ord ((ak,(.pointer (some ⟨b,o+i * k,none⟩))) :: e) w):WD P n ops S Lt Q ((bX,0) :: ord) e w:=by
 refine JL (v:=(.pointer (some ⟨b,o+i * k,none⟩))) aY aZ (λw'=>?_) aw kk;apply Z4u<;>assumption
theorem Zg8 {t el len k:Nat} {x:Operand} {b:Nat} [hu:Und P t (.array len el)] [hk:Siz P el k] (hx:ev e x=some (.pointer (some ⟨b,0,none⟩))) (aw:Nat.blt ak n=true) (kk:WL P n ops Q rest ((ak,(.slice (some ⟨b,0,none⟩) len len)) :: e) w):WL P n ops Q (⟨some ak,.slice t x none none none,ty,pos,af,none⟩ :: rest) e w:=by
 refine Z8 (v:=(.slice (some ⟨b,0,none⟩) len len)) ?_ aw kk;apply Z6h<;>assumption
structure WO (P:Program) (n:Nat) (ops:Array Oper) (S:List Nat) (Lt:List Nat) (Q:Exit->Act->World->Prop) (o:Oper) (i q:Nat) (ord:List (Nat×Nat)) (e:Env) (w:World):Prop where
 h:ops[i]?=some o->WD P n ops S Lt Q ((i,q) :: ord) e w
theorem Z20 {o:Oper} {i q:Nat} (hi:ops[i]?=some o) (h:WO P n ops S Lt Q o i q ord e w):WD P n ops S Lt Q ((i,q) :: ord) e w:=h.h hi
theorem Z2I {t:TypeId} {l:List (Nat×Operand)} {vs:List (Nat×Value)} {u:Value} (aZ:Z0b ops e gd) (hv:JQ e l=some vs) (hb:∀ w,(Instr.build t vs.toArray).run P w=.ok u w) (aw:Nat.blt ak n=true) (kk:WD P n ops S Lt Q ord ((ak,u) :: e) w):WO P n ops S Lt Q ⟨some ak,.build t l.toArray,ty,pos,af,gd⟩ bX 0 ord e w:=⟨λaY=>Z1Z aY aZ hv hb aw kk⟩
theorem ZaI {x y:Operand} {t u:TypeId} {p q:Value} {c:Prop} [Decidable c] (aZ:Z0b ops e gd) (hx:ev e x=some p) (hy:ev e y=some q) (hg:∀ w,(eqGuard .eql t x y p q).run P w=.ok () w) (h:∀ w,(binOp .eql t p q).run P w=.ok (.bool (decide c)) w) (aw:Nat.blt ak n=true) (kk:WD P n ops S Lt Q ord ((ak,(.bool (decide c))) :: e) w):WO P n ops S Lt Q ⟨some ak,.binOp .eql t x y u,ty,pos,af,gd⟩ bX 0 ord e w:=⟨λaY=>ZmP aY aZ hx hy hg h aw kk⟩
theorem Zff {x y:Operand} {t u:TypeId} {p q:Value} {c:Prop} [Decidable c] (aZ:Z0b ops e gd) (hx:ev e x=some p) (hy:ev e y=some q) (hg:∀ w,(eqGuard .neq t x y p q).run P w=.ok () w) (h:∀ w,(binOp .neq t p q).run P w=.ok (.bool (decide (¬ c))) w) (aw:Nat.blt ak n=true) (kk:WD P n ops S Lt Q ord ((ak,(.bool (decide (¬ c)))) :: e) w):WO P n ops S Lt Q ⟨some ak,.binOp .neq t x y u,ty,pos,af,gd⟩ bX 0 ord e w:=⟨λaY=>ZmR aY aZ hx hy hg h aw kk⟩
theorem Z4v {t el len k:Nat} {x y:Operand} {b o i:Nat} {z:Int} [hu:Und P t (.array len el)] [hk:Siz P el k] (aZ:Z0b ops e gd) (hx:ev e x=some (.pointer (some ⟨b,o,none⟩))) (hy:ev e y=some (.int .i64 z)) (hz:z=(i:Int)) (hi:i<len) (aw:Nat.blt ak n=true) (kk:WD P n ops S Lt Q ord ((ak,(.pointer (some ⟨b,o+i * k,none⟩))) :: e) w):WO P n ops S Lt Q ⟨some ak,.indexAddr t x y,ty,pos,af,gd⟩ bX 0 ord e w:=⟨λaY=>ZmW aY aZ hx hy hz hi aw kk⟩
theorem elB {α:Type} [Z3 α] {X:List Nat} {xs:List α} {v u:Value} {i k:Nat} {x:Operand} {t:TypeId} {D:TypeDesc} {d:Option Nat} [hu:Und P t D] [bH:Siz P t k] (hA:Z0K D=true) (hx:ev e x=some (.pointer (some (ZH v i k 0)))) (hs:SlV X w v xs) (hi:i<xs.length) (hk:k=Z3.k α) (h:u=.agg (Z3.enc xs[i]).toArray):PR P n ⟨d,.load t x,ty,pos,af,gd⟩ e w u:=h ▸ ZbP hA hx hs hi hk
theorem exF {α:Type} [Z3 α] {X:List Nat} {w':World} {v:Value} {xs:List α} (h:SlV X w v xs) (hS:Stp S w w') (h1:∀ b∈S,b∈X):SlV X w' v xs:=h.ext hS h1 (λ_ h=>.inl h)
theorem ZbX {t:TypeId} {x:Operand} {d:Option Nat} {v:Value} (h:PR P n ⟨d,.load t x,ty,pos,af,gd⟩ e w v):PR P n ⟨d,.load t x,ty,pos,af,gd⟩ e w v:=h
theorem ZmX {t:TypeId} {x y:Operand} {d:Option Nat} {v:Value} (h:PR P n ⟨d,.indexAddr t x y,ty,pos,af,gd⟩ e w v):PR P n ⟨d,.indexAddr t x y,ty,pos,af,gd⟩ e w v:=h
theorem Zg9 {t:TypeId} {x:Operand} {m:Nat} {d:Option Nat} {v:Value} (h:PR P n ⟨d,.fieldAddr t x m,ty,pos,af,gd⟩ e w v):PR P n ⟨d,.fieldAddr t x m,ty,pos,af,gd⟩ e w v:=h
theorem ZmY {t:TypeId} {x:Operand} {d:Option Nat} {v:Value} (h:PR P n ⟨d,.call { callee:=.builtin .len,args:=#[x],argTypes:=#[t] },ty,pos,af,gd⟩ e w v):PR P n ⟨d,.call { callee:=.builtin .len,args:=#[x],argTypes:=#[t] },ty,pos,af,gd⟩ e w v:=h
theorem ZxU {l:List Oper} (h:WL P n ops Q l e w):WL P n ops Q l e w:=h
theorem ZxV {c:Code} (h:WC P n c Q e w):WC P n c Q e w:=h
theorem ZxW {x:Exit} (h:WQ n Q x e w):WQ n Q x e w:=h
end
theorem PX {G:Prop} (h:G:=by
 first
  | (apply ZX;exact rfl)
  | (apply Z6e;exact rfl)
  | (apply Z1J;exact rfl)
  | (apply ZmX;first|exact Z32 rfl (by assumption) rfl rfl (by assumption)|exact Z32 rfl (by assumption) rfl rfl (by omega)|exact Z32 rfl (by assumption) rfl (by assumption) (by first|assumption|omega)|exact Z32 (i:=0) rfl (by assumption) rfl rfl (by omega)|exact Z32 (i:=1) rfl (by assumption) rfl rfl (by omega)|exact Z32 (i:=2) rfl (by assumption) rfl rfl (by omega)|exact Z4u (i:=0) rfl rfl rfl (by decide)|exact Z4u (i:=1) rfl rfl rfl (by decide)|exact Z4u (i:=2) rfl rfl rfl (by decide)|exact Z4u rfl rfl rfl (by omega))
  | (apply Zg9;exact Z6Y rfl (SlV.isSome (by assumption) (by assumption)))
  | (apply ZmY;first|exact ZmV rfl|exact ZmJ rfl (by assumption)|exact Zi8 rfl)
  | (apply ZdO;exact rfl;exact rfl)
  | (apply Z3L;exact rfl)
  | (apply Zpb;exact rfl;exact rfl)
  | (apply Zi5;exact rfl;exact rfl)
  | (apply Zi7;exact rfl;exact rfl)
  | (apply ZmT;exact rfl;exact rfl)
  | (apply ZmU;exact rfl;exact rfl)
  | (apply ZdN;exact rfl;exact rfl;(unfold I64;omega))
  | (apply Z6f;exact rfl;exact rfl;(unfold I64;omega))
  | (apply Zp9;exact rfl;exact rfl)
  | (apply Zi6;exact rfl;exact rfl)
  | (apply Zpa;exact rfl;exact rfl)
  | (apply ZlJ;exact rfl;exact rfl)
  | (apply Zfc;exact rfl;exact rfl)
  | (apply Zp5;exact rfl;exact rfl;(unfold I64;omega))
  | (apply Zfb;exact rfl;exact rfl;omega;omega;(unfold I64;omega))
  | (apply Zfa;exact rfl;exact rfl;omega;omega;(unfold I64;omega))
  | (apply Z4t;exact rfl;exact rfl;omega)
  | (apply Zi3;exact rfl)
  | (apply Zi4;exact rfl)
  | (apply Zjd;exact rfl)
  | (apply Zi2;exact rfl)
  | (apply Zp6;exact rfl;(unfold I64;omega))
  | (apply Zg3;exact rfl;exact rfl)
  | (apply Zg4;exact rfl;exact rfl)
  | (apply Ztd;exact rfl;exact rfl)
  | (apply Zte;exact rfl;exact rfl)
  | (apply Z9A;exact rfl;exact rfl;exact rfl;(first|assumption|omega))
  | apply ZaA
  | (apply ZaB;exact rfl)
  | (apply ZaC;exact rfl;exact rfl)
  | (apply ZaD;exact rfl;exact rfl;exact rfl)):G:=h
structure Z37 (R:Prop):Prop where
 h:R
theorem W1 {G R:Prop} (k:R) (h:Z37 R->G:=by
 intro r
 repeat1' (first
  | (apply ZxU;first
  | apply Z30
  | (apply Z8;exact PX;exact rfl)
  | (apply Z8;(apply ZbX;first|exact Jq rfl rfl (by assumption) (by rfl)|exact Z1V rfl rfl (by assumption) (by first|assumption|omega) (by rfl) (by rfl)|exact J0 rfl rfl (by assumption) (by rfl)|exact elB rfl rfl (by assumption) (by assumption) (by rfl) rfl);exact rfl)
  | (apply ZtS;exact rfl)
  | (apply ZlF;exact rfl;exact rfl))
  | (apply ZxV;first|apply Z7R|apply Z2H|apply ZhZ|apply Z7D|apply Z7S|apply ZlC|(apply Z1I;exact rfl)|(apply Z1n;exact rfl))
  | (apply ZxW;first|apply Z4o|apply Z1s|apply Zy|apply Zv|(apply ZG;exact rfl)|apply Zaw|apply Jl))
 exact r.h):G:=h ⟨k⟩
theorem W {G R:Prop} (k:R) (h:Z37 R->G:=by
 intro r;first|(refine W1 ?_;exact r.h)|exact r.h):G:=h ⟨k⟩
theorem D1 {G R:Prop} (k:R) (h:Z37 R->G:=by
 intro r
 repeat1' (first
  | apply ZdP
  | (apply JL;exact rfl;(first|exact trivial|exact rfl);(intro w';exact PX);exact rfl)
  | (apply ZP;exact rfl;(first|exact trivial|exact rfl);(intro w' hS;apply ZbX;first|exact Jq rfl rfl (Blk.ext (by assumption) hS (by first|assumption|(simp;done)|(simp;omega))) (by rfl)|exact Z1V rfl rfl (exF (by assumption) hS (by first|exact λ_ h=>h|(simp;done))) (by first|assumption|omega) (by rfl) (by rfl)|exact J0 rfl rfl (Blk.ext (by assumption) hS (by first|assumption|(simp;done)|(simp;omega))) (by rfl)|exact elB rfl rfl (exF (by assumption) hS (by first|exact λ_ h=>h|(simp;done))) (by assumption) (by rfl) rfl);exact rfl)
  | (apply Zj3;exact rfl;exact rfl;exact rfl)
  | (apply Zj4;exact rfl;exact rfl;exact rfl)
  | (apply Zj9;exact rfl;exact rfl;exact rfl))
 exact r.h):G:=h ⟨k⟩
theorem D {G R:Prop} (k:R) (h:Z37 R->G:=by
 intro r;first|(refine D1 ?_;exact r.h)|exact r.h):G:=h ⟨k⟩
theorem WR {G R:Prop} (k:R) (h:Z37 R->G:=by
 intro r;first|refine ZlG rfl rfl ?_|refine ZlH rfl rfl rfl ?_|refine ZlI rfl rfl rfl rfl ?_|refine Zay rfl ?_|refine Zaz rfl ?_
 exact r.h):G:=h ⟨k⟩
theorem VG {G R S:Prop} (k:R) (l:S) (h:Z37 R->Z37 S->G:=by
 intro r s;first|refine Zi1 rfl rfl ?_ ?_|refine Zg2 rfl rfl ?_ ?_
 exact r.h;exact s.h):G:=h ⟨k⟩ ⟨l⟩
theorem VC {G R S:Prop} (k:R) (l:S) (h:Z37 R->Z37 S->G:=by
 intro r s;first|refine Zax rfl ?_ ?_|refine ZbN rfl ?_ ?_
 exact r.h;exact s.h):G:=h ⟨k⟩ ⟨l⟩
theorem hap {p A:Prop} (r:Z37 (p->A)) (h:p):A:=r.h h
theorem QO {G R:Prop} (k:R) (h:Z37 R->G:=by
 intro r
 repeat1' (first|refine W1 ?_|(refine VG ?_ ?_<;>intro hg;(first|(focus omega)|(rotate_left;focus omega)))|(refine VC ?_ ?_<;>intro hg;(first|(focus omega)|(rotate_left;focus omega))))
 exact r.h):G:=h ⟨k⟩
theorem QP {G R S:Prop} (k:R) (l:S) (h:Z37 R->Z37 S->G:=by
 intro r s;first|refine QO ?_|skip
 first|(refine VG ?_ ?_<;>intro hg)|(refine VC ?_ ?_<;>intro hg)
 first|(refine QO ?_;exact hap r hg)|exact hap r hg
 first|(refine QO ?_;exact hap s hg)|exact hap s hg):G:=h ⟨k⟩ ⟨l⟩
theorem QD {G R:Prop} (k:R) (h:Z37 R->G:=by
 intro r
 repeat1' (first|refine D1 ?_|refine Zk rfl rfl rfl rfl (λhg=>?_) (λhg=>absurd hg (by omega))|refine Zk rfl rfl rfl rfl (λhg=>absurd hg (by omega)) (λhg=>?_)|(refine Zi rfl rfl rfl rfl (λhg=>?_) (λhg=>?_)<;>refine D1 ?_;(first|(focus omega)|(rotate_left;focus omega))))
 exact r.h):G:=h ⟨k⟩
theorem QE {G R S:Prop} (k:R) (l:S) (h:Z37 R->Z37 S->G:=by
 intro r s;first|refine QD ?_|skip
 first|refine Zk rfl rfl rfl rfl (λhg=>?_) (λhg=>?_)|refine Zi rfl rfl rfl rfl (λhg=>?_) (λhg=>?_)
 first|(refine QD ?_;exact hap r (by assumption))|exact hap r (by assumption)
 first|(refine QD ?_;exact hap s (by assumption))|exact hap s (by assumption)):G:=h ⟨k⟩ ⟨l⟩
theorem SA {P:Program} {n:Nat} {Q:Exit->Act->World->Prop} {e:Env} {w:World} {rest:List Oper} {ops:Array Oper} {ty:TypeId} {pos:String} {af:Array Edge} {b T m t:Nat} {cs us:List Value} {x y:Operand} {u:Value} [bH:Siz P t m] (hb:Blk w b T cs) (k:∀ (v:Value) (w':World),Stp [b] w w'/\Blk w' b T us->WL P n ops Q rest e w')
 (hx:ev e x=some (.pointer (some ⟨b,0,none⟩)):=by exact rfl) (hy:ev e y=some u:=by exact rfl) (hu:u.cells.toList=us:=by exact rfl) (hm:us.length=m:=by exact rfl) (h1:∀ c∈us,c.oneCell'=true:=by exact Z3.one _) (hl:us.length=cs.length:=by exact rfl):WL P n ops Q (⟨none,.store t x y,ty,pos,af,none⟩ :: rest) e w:=Z5 (Zm hx hy hu hm h1 hb hl) k
theorem S1 {P:Program} {n:Nat} {Q:Exit->Act->World->Prop} {e:Env} {w:World} {rest:List Oper} {ops:Array Oper} {ty:TypeId} {pos:String} {af:Array Edge} {b T o t:Nat} {cs:List Value} {x y:Operand} {u:Value} [bH:Siz P t 1] (hb:Blk w b T cs) (k:∀ (v:Value) (w':World),Stp [b] w w'/\Blk w' b T (cs.set o u)->WL P n ops Q rest e w')
 (hx:ev e x=some (.pointer (some ⟨b,o,none⟩)):=by exact rfl) (hy:ev e y=some u:=by exact rfl) (hu:u.cells.toList=[u]:=by exact rfl) (h1:u.oneCell'=true:=by exact rfl) (hl:o<cs.length:=by simp):WL P n ops Q (⟨none,.store t x y,ty,pos,af,none⟩ :: rest) e w:=Z5 (Zb hx hy hu h1 hb hl) k
theorem LP {P:Program} {n:Nat} {Q:Exit->Act->World->Prop} {e:Env} {w:World} {c:Code} {σ:Type} (env:σ->Env) (I:σ->World->Prop) (μ:σ->Nat) (fh:σ) (hI:I fh w) (round:∀ s w,I s w->WC P n c (Exit.then (λa' w'=>∃ s',Has n (env s') a'/\I s' w'/\μ s' < μ s) Q) (env s) w) (hs:Sub (env fh) e:=by repeat (first|exact trivial|refine ⟨rfl,?_⟩)):WC P n (.loop c) Q e w:=Zt env I μ fh hs hI round
theorem SB {P:Program} {n:Nat} {Q:Exit->Act->World->Prop} {e:Env} {w:World} {rest:List Oper} {ops:Array Oper} {ty:TypeId} {pos:String} {af:Array Edge} {b T m t:Nat} {cs us:List Value} {x y:Operand} {u:Value} [bH:Siz P t m] (h1:∀ c∈us,c.oneCell'=true) (hb:Blk w b T cs) (k:∀ (v:Value) (w':World),Stp [b] w w'/\Blk w' b T us->WL P n ops Q rest e w')
 (hx:ev e x=some (.pointer (some ⟨b,0,none⟩)):=by exact rfl) (hy:ev e y=some u:=by exact rfl) (hu:u.cells.toList=us:=by exact rfl) (hm:us.length=m:=by exact rfl) (hl:us.length=cs.length:=by exact rfl):WL P n ops Q (⟨none,.store t x y,ty,pos,af,none⟩ :: rest) e w:=Z5 (Zm hx hy hu hm h1 hb hl) k
theorem QL {σ:Type} {n:Nat} {Q:Exit->Act->World->Prop} {e:Env} {w:World} {env:σ->Env} {I:σ->World->Prop} {μ:σ->Nat} {m:Nat} (s:σ) (hI:I s w) (hm:μ s<m) (hs:Sub (env s) e:=by repeat (first|exact trivial|refine ⟨rfl,?_⟩)):WQ n (Exit.then (λa w=>∃ s,Has n (env s) a/\I s w/\μ s<m) Q) .normal e w:=Zs s hs hI hm
theorem QT {σ:Type} {n:Nat} {Q:Exit->Act->World->Prop} {e:Env} {w:World} {env:σ->Env} {I:σ->World->Prop} (s:σ) (hI:I s w) (hs:Sub (env s) e:=by repeat (first|exact trivial|refine ⟨rfl,?_⟩)):WQ n (Exit.then (λa w=>∃ s,Has n (env s) a/\I s w) Q) .normal e w:=ZA s hs hI
theorem RU {G A:Prop} (k:A) (h:Z37 A->G:=by
 intro r;refine WR ?_;exact .mk r.h):G:=h ⟨k⟩
theorem RT {G A:Prop} (k:A) (h:Z37 A->G:=by
 intro r;first|refine QO ?_|skip
 refine WR ?_;exact .mk r.h):G:=h ⟨k⟩
theorem CL {P:Program} {n:Nat} {Q:Exit->Act->World->Prop} {e:Env} {w:World} {rest:List Oper} {f d:Nat} {fn:Func} {xs:Array Operand} {ts:Array TypeId} {vs:Array Value} {G:Value->World->Prop} {c:Operand} {ty:TypeId} {pos:String} {af:Array Edge} {ops:Array Oper} [hf:Fun P f fn] (h:Calls P f vs w (Ret G)) (k:∀ v w',G v w'->WL P n ops Q rest ((d,v) :: e) w') (hc:ev e c=some (.func (.func f) #[] #[]):=by exact rfl) (hv:∀ a,Has n e a->xs.map a.eval=vs:=by first|exact Z6g|exact ZN rfl|exact Zf rfl rfl|exact ZK rfl rfl rfl|exact Z7v rfl rfl rfl rfl|exact Zg5 rfl rfl rfl rfl rfl) (hd:Nat.blt d n=true:=by exact rfl):WL P n ops Q (⟨some d,.call { callee:=.value c,args:=xs,argTypes:=ts },ty,pos,af,none⟩ :: rest) e w:=Z0 (Z4 hc hv h) hd k
theorem CM {P:Program} {n:Nat} {Q:Exit->Act->World->Prop} {e:Env} {w:World} {rest:List Oper} {f d:Nat} {fn:Func} {xs:Array Operand} {ts:Array TypeId} {vs:Array Value} {G:Value->World->Prop} {c:Operand} {ty:TypeId} {pos:String} {af:Array Edge} {ops:Array Oper} [hf:Fun P f fn] (hv:∀ a,Has n e a->xs.map a.eval=vs) (h:Calls P f vs w (Ret G)) (k:∀ v w',G v w'->WL P n ops Q rest ((d,v) :: e) w') (hc:ev e c=some (.func (.func f) #[] #[]):=by exact rfl) (hd:Nat.blt d n=true:=by exact rfl):WL P n ops Q (⟨some d,.call { callee:=.value c,args:=xs,argTypes:=ts },ty,pos,af,none⟩ :: rest) e w:=Z0 (Z4 hc hv h) hd k
theorem DC {P:Program} {n:Nat} {S Lt:List Nat} {Q:Exit->Act->World->Prop} {e:Env} {w:World} {ord:List (Nat×Nat)} {i f d:Nat} {fn:Func} {gd:Option (Nat×Bool)} {xs:Array Operand} {ts:Array TypeId} {vs:Array Value} {G:Value->World->Prop} {c:Operand} {ty:TypeId} {pos:String} {af:Array Edge} {ops:Array Oper} [hf:Fun P f fn] (h:Calls P f vs w (Ret G)) (hG:∀ v w',G v w'->Stp S w w') (k:∀ v w',G v w'->WD P n ops S Lt Q ord ((d,v) :: e) w') (hi:ops[i]?=some ⟨some d,.call { callee:=.value c,args:=xs,argTypes:=ts },ty,pos,af,gd⟩:=by exact rfl) (hg:Z0b ops e gd:=by first|exact trivial|exact rfl) (hc:ev e c=some (.func (.func f) #[] #[]):=by exact rfl) (hv:∀ a,Has n e a->xs.map a.eval=vs:=by first|exact Z6g|exact ZN rfl|exact Zf rfl rfl|exact ZK rfl rfl rfl|exact Z7v rfl rfl rfl rfl|exact Zg5 rfl rfl rfl rfl rfl) (hd:Nat.blt d n=true:=by exact rfl):WD P n ops S Lt Q ((i,2) :: ord) e w:=Za hi hg (Z4 hc hv h) hG hd k
inductive Nd where
 | mk (kind n:Int) (s:Str) (kids:List Nd)
namespace Nd
def kind:Nd->Int|mk k _ _ _=>k
def num:Nd->Int|mk _ n _ _=>n
def word:Nd->Str|mk _ _ s _=>s
def kids:Nd->List Nd|mk _ _ _ l=>l
theorem eta (x:Nd):x=mk x.kind x.num x.word x.kids:=by cases x;rfl
theorem ind {P:Nd->Prop} (h:∀ k n s l,(∀ x∈l,P x)->P (mk k n s l)):∀ x,P x
 | mk k n s l=>h k n s l (λx hx=>ind h x)
 decreasing_by
  have:=List.sizeOf_lt_of_mem hx;simp only [mk.sizeOf_spec];omega
end Nd
inductive Z4O (X:List Nat) (w:World):Nd->List Value->Prop
 | mk (k n : Int) (s : Str) (l : List Nd) (p : Option Addr) (c : Nat) (b o : Nat) (css : Nat -> List Value) (hl : l.length <= c) (hm : c <= maxLen) (hn : p = none -> c = 0)
    (hp:0<l.length->p=some ⟨b,o,none⟩/\b<w.heap.size/\b∉X) (hr:∀ i (h:i<l.length),Z4O X w l[i] (css i))
    (hc:∀ i,i<l.length->∀ j u,(css i)[j]?=some u->w.cell? ⟨b,o+i * 4+j,none⟩=some u) :
    Z4O X w (.mk k n s l) [.I k,.I n,str s,.slice p l.length c]
theorem Z4O.ext {X S X':List Nat} {w w':World} {x:Nd} {cs:List Value} (h:Z4O X w x cs) (hS:Stp S w w') (h1:∀ b∈S,b∈X) (h2:∀ b∈X',b∈X\/w.heap.size<=b):Z4O X' w' x cs:=by
 induction h with
 | mk k n s l p c b o css hl hm hn hp hr hc ih=>
   refine .mk k n s l p c b o css hl hm hn (λh0=>?_) ih (λi hi j u hu=>?_);obtain ⟨e1,e2,e3⟩:=hp h0;refine ⟨e1,Xa e2 hS.size,λhb=>?_⟩;rcases h2 b hb with h|h
   exact e3 h;omega;obtain ⟨_,_,e3⟩:=hp (by omega);exact hS.cell (λhb=>e3 (h1 b hb)) (hc i hi j u hu)
instance:Z6 Nd where
 k:=4
 rep:=Z4O
 len:=by intro X w x cs h;cases h;rfl
 one:=by
  intro X w x cs h u hu;cases h;simp at hu;rcases hu with rfl|rfl|rfl|rfl<;>rfl
 ext:=Z4O.ext
def NdV (X:List Nat) (w:World) (v:Value) (x:Nd):Prop:=∃ kv,v=.agg #[.I x.kind,.I x.num,str x.word,kv]/\SlV X w kv x.kids
theorem Zje {X:List Nat} {w} {x:Nd} {cs:List Value} (h:Z4O X w x cs):∃ kv,cs=[.I x.kind,.I x.num,str x.word,kv]/\SlV X w kv x.kids:=by
 cases h with
 | mk k n s l p c b o css hl hm hn hp hr hc=>
   refine ⟨_,rfl,p,c,rfl,hl,hm,hn,λi hi=>?_⟩;obtain ⟨e1,e2,e3⟩:=hp (by show 0<l.length;have:i<l.length:=hi;omega);exact ⟨b,o,css i,e1,e2,e3,hr i hi,hc i hi⟩
theorem Z2J {X:List Nat} {w} {k n:Int} {s:Str} {l:List Nd} {kv:Value} (h:SlV X w kv l):Z4O X w (.mk k n s l) [.I k,.I n,str s,kv]:=by
 obtain ⟨p,c,rfl,hl,hm,hn,hc⟩:=h;have aB:∀ i:Fin l.length,∃ cs:List Value,∃ b o,p=some ⟨b,o,none⟩/\b<w.heap.size/\b∉X/\Z4O X w l[i] cs/\∀ j u,cs[j]?=some u->w.cell? ⟨b,o+i * 4+j,none⟩=some u:=by
  intro i;obtain ⟨b,o,cs,h1,h2,h3,h4,h5⟩:=hc i i.2;exact ⟨cs,b,o,h1,h2,h3,h4,h5⟩
 obtain ⟨f,hf⟩:=Classical.axiomOfChoice aB;by_cases h0:0<l.length;obtain ⟨b,o,e1,e2,e3,_⟩:=hf ⟨0,h0⟩;refine .mk k n s l p c b o (λi=>if h:i<l.length then f ⟨i,h⟩ else []) hl hm hn (λ_=>⟨e1,e2,e3⟩) (λi hi=>?_) (λi hi j u hu=>?_);obtain ⟨_,_,_,_,_,g,_⟩:=hf ⟨i,hi⟩;simpa [hi] using g;obtain ⟨b',o',g1,_,_,_,g⟩:=hf ⟨i,hi⟩;rw [e1] at g1;simp only [XK,Addr.mk.injEq] at g1;obtain ⟨rfl,rfl,_⟩:=g1;exact g j u (by simpa [hi] using hu);exact .mk k n s l p c 0 0 (λ_=>[]) hl hm hn (λh=>absurd h h0) (λi hi=>by omega) (λi hi=>by omega)
theorem NdV.up {X:List Nat} {w w':World} {v:Value} {x:Nd} (h:NdV X w v x) (hS:Stp [] w w'):NdV X w' v x:=by
 obtain ⟨kv,rfl,hs⟩:=h;exact ⟨kv,rfl,hs.up hS⟩
theorem SlV.nd {X:List Nat} {w} {v:Value} {l:List Nd} {i:Nat} (h:SlV X w v l) (hi:i<l.length):∃ kv,SlV X w kv l[i].kids/\∀ j u,[Value.int .i64 l[i].kind,.I l[i].num,str l[i].word,kv][j]?=some u->w.cell? (ZH v i 4 j)=some u:=by
 obtain ⟨cs,hr,hc⟩:=h.cell hi;obtain ⟨kv,rfl,hs⟩:=Zje hr;exact ⟨kv,hs,hc⟩
section
variable {P:Program} {n:Nat} {e:Env} {w:World} {d:Option Nat} {ty:TypeId} {pos:String} {af:Array Edge} {g:Option (Nat×Bool)}
theorem JI {X:List Nat} {v:Value} {l:List Nd} {i:Nat} {kv:Value} {x:Operand} {t:TypeId} {D:TypeDesc} [hu:Und P t D] (hA:Z0K D=true) [bH:Siz P t 4] (hx:ev e x=some (.pointer (some (ZH v i 4 0)))) (hs:SlV X w v l) (hi:i<l.length)
 (hc:∀ j u,[Value.int .i64 l[i].kind,.I l[i].num,str l[i].word,kv][j]?=some u->w.cell? (ZH v i 4 j)=some u) :
 PR P n ⟨d,.load t x,ty,pos,af,g⟩ e w (.agg #[.I l[i].kind,.I l[i].num,str l[i].word,kv]):=by
 obtain ⟨p,l',c,rfl⟩:=hs.isSome hi;refine Z3J (cs:=[.I l[i].kind,.I l[i].num,str l[i].word,kv]) hA hx rfl (λj u hu=>?_);have:=hc j u hu;simpa [ZH] using this
end
end Go.Eng
namespace Go.Proofs.YtipfkbkkndacjaaGreatDoor
open Go Go.Eng Go.RowKit
abbrev ndC (x:Nd) (kv:Value):List Value:=[.I x.kind,.I x.num,str x.word,kv]
theorem ZC {X:List Nat} {w} {x:Nd} {kv:Value} {l:List Nd} (h:SlV X w kv l):∀ c∈ndC x kv,c.oneCell'=true:=by
 intro c hc;simp only [ndC,Xb,Xj,or_false] at hc;rcases hc with rfl|rfl|rfl|rfl
 rfl;rfl;rfl;exact h.one
def Z1f:Nat->Nd->Bool
 | 0,_=>false
 | m+1,x=>x.kids.all (Z1f m)
theorem Z9i {α:Type} (p:α->Bool) (l:List α) (k:Nat) (hk:k<l.length):(l.take (k+1)).all p=((l.take k).all p && p l[k]):=by
 rw [Xi hk,YbH];simp
theorem ZdU (m:Nat):∀ (X:List Nat) (v:Value) (x:Nd) (z:Int) (w),z=(m:Int)->m<=1000->NdV X w v x->
 CC 229 #[v,.I z] w λr w'=>r=.B (Z1f m x)/\Stp [] w w':=by
 induction m with
 | zero=>
   intro X v x z w hz hm hx;obtain ⟨kv,rfl,hs⟩:=hx;refine cW2 22 Tryz.func229 ?_;refine W ?_;refine Z0 (Zq rfl) rfl ?_;rintro _ w1 ⟨b,rfl,hb,ac,hS⟩;refine RT ?_;exact ⟨rfl,hS⟩
 | succ m ih=>
   intro X v x z w hz hm hx;obtain ⟨kv,rfl,hs⟩:=hx;have aU:=hs.max;refine cW2 22 Tryz.func229 ?_;refine W ?_;refine Z0 (Zq rfl) rfl ?_;rintro _ w1 ⟨b,rfl,hb,ac,hS⟩;replace ac:Blk w1 b _ (ndC x kv):=ac;replace hs:=hs.up hS;refine QO ?_;have ba:=hs;refine LP (σ:=Nat) (λk=>[(1,.I z),(10,kv),(11,.I (x.kids.length:Int)),(12,.I k)]) (λk w'=>k<=x.kids.length/\Stp [] w1 w'/\(x.kids.take k).all (Z1f m)=true) (λk=>x.kids.length - k) 0 ⟨Xp _,Stp.refl _ _,rfl⟩ ?_;clear hs;rintro k w2 ⟨hk,ah,aB⟩;have hs:=ba.up ah;by_cases hlt:k<x.kids.length
   . have cu:=Z9i (Z1f m) x.kids k hlt
     rw [aB,Bool.true_and] at cu;obtain ⟨kv2,bq,ci⟩:=hs.nd hlt;refine QO ?_;apply Z8 (JI rfl rfl hs hlt ci) rfl;refine Z0 Z2 rfl ?_;rintro _ w3 ⟨b3,rfl,dN,aK,am⟩;refine SB (us:=ndC x.kids[k] kv2) (ZC bq) aK ?_;rintro _ w4 ⟨aI,bt⟩;have iE:=am.ow aI;replace ah:=ah.trans iE;replace bq:=bq.up iE;refine W ?_;refine Z0 (Z4 rfl (Zf rfl rfl) (ih X _ x.kids[k] _ _ (by omega) (by omega) ⟨kv2,rfl,bq⟩)) rfl ?_;rintro _ w5 ⟨rfl,aD⟩;replace ah:=ah.trans aD;cases hq:Z1f m x.kids[k] with
     | true=>
       refine W ?_;exact QL (k+1) ⟨hlt,ah,by rw [cu,hq]⟩ (by omega)
     | false=>
       refine W ?_;refine WR ?_;refine .mk ⟨?_,hS.trans ah⟩;have:Z1f (m+1) x=false:=by
        show x.kids.all (Z1f m)=false;rw [List.all_eq_false];exact ⟨_,Xc hlt,by simp [hq]⟩
       rw [this]
   have eN:k=x.kids.length:=by omega
   subst eN;rw [Xo] at aB;refine QO ?_;refine WR ?_;refine .mk ⟨?_,hS.trans ah⟩;show _=Value.bool (x.kids.all (Z1f m));rw [aB]
end Go.Proofs.YtipfkbkkndacjaaGreatDoor
namespace Go.Eng
open Go Go.RowKit Go.Proofs
class ZbY (P:Program) (kt:Nat) (κ:outParam Type) [DecidableEq κ] where
 enc:κ->Value
 chk:∀ (em:Bool) (a:κ) (w:World),(Instr.checkKey em 10000 kt (enc a)).run P w=.ok () w
 find:∀ (a:κ) (es:List MapEntry) (l:List κ) (w:World),es.map (·.key)=l.map enc->
  (Instr.findKey kt (enc a) es).run P w=.ok ((l.findIdx? (λb=>decide (b=a))).bind λi=>(es[i]?).map λe=>(i,e.val)) w
def JM {κ:Type} (enc:κ->Value) (w:World) (r:Nat) (l:List (κ×Value)):Prop:=
 ∃ (es:Array MapEntry) (clock:Nat),w.heap[r]?=some (.map es clock)/\es.toList.map (·.key)=l.map (λp=>enc p.1)/\es.toList.map (·.val)=l.map (·.2)
theorem JM.lt {κ:Type} {enc:κ->Value} {w} {r:Nat} {l:List (κ×Value)} (h:JM enc w r l):r<w.heap.size:=by
 obtain ⟨es,c,h1,_⟩:=h;exact (Xm.1 h1).1
theorem JM.ext {κ:Type} {enc:κ->Value} {S:List Nat} {w w':World} {r:Nat} {l:List (κ×Value)} (h:JM enc w r l) (hS:Stp S w w') (hr:r∉S):JM enc w' r l:=by
 have hlt:=h.lt;obtain ⟨es,c,h1,h2⟩:=h;exact ⟨es,c,by rw [hS.block r hlt hr];exact h1,h2⟩
theorem JM.up {κ:Type} {enc:κ->Value} {w w':World} {r:Nat} {l:List (κ×Value)} (h:JM enc w r l) (hS:Stp [] w w'):JM enc w' r l:=h.ext hS (by simp)
def Z3M {κ:Type} [DecidableEq κ] (l:List (κ×Value)) (a:κ) (z:Value):Value:=match l.find? (λp=>decide (p.1=a)) with|some p=>p.2|none=>z
theorem Z5e {d:TypeDesc} {κ:Type} [DecidableEq κ] (enc:κ->Value) (h:∀ a b:κ,Instr.sameNow d (enc a) (enc b)=some (decide (a=b))) (a:κ):∀ (es:List MapEntry) (l:List κ) (i:Nat),es.map (·.key)=l.map enc->
 Instr.findNow d (enc a) es i=some ((l.findIdx? (λb=>decide (b=a))).bind λj=>(es[j]?).map λe=>(i+j,e.val))
 | [],[],i,_=>by simp [Instr.findNow]
 | [],_ :: _,i,h=>by simp at h
 | _ :: _,[],i,h=>by simp at h
 | e :: es, b :: l, i, hk => by
   simp only [Xt,Ya5] at hk;obtain ⟨h1,h2⟩:=hk;have ih:=Z5e enc h a es l (i+1) h2;simp only [Instr.findNow,h1,h];by_cases cU:a=b;subst cU;simp [Ya7]
   . have pZ:¬ b=a:=λh=>cU h.symm
     simp only [decide_eq_false cU,ih,Ya7,decide_eq_false pZ,XQ,if_false];cases l.findIdx? (λb=>decide (b=a)) with
     | none=>rfl
     | some j=>
       simp only [XT,Ya6,YaO];rw [show i+1+j=i+(j+1) by omega]
theorem Z2C {P:Program} {kt:Nat} {κ:Type} [DecidableEq κ] (enc:κ->Value) (h:∀ (a b:κ) (w),(Op.equal kt (enc a) (enc b)).run P w=.ok (decide (a=b)) w) (a:κ) (w):∀ (es:List MapEntry) (l:List κ) (i:Nat),es.map (·.key)=l.map enc->
 (Instr.findAsking kt (enc a) es i).run P w=.ok ((l.findIdx? (λb=>decide (b=a))).bind λj=>(es[j]?).map λe=>(i+j,e.val)) w
 | [],[],i,_=>by simp [Instr.findAsking]
 | [],_ :: _,i,h=>by simp at h
 | _ :: _,[],i,h=>by simp at h
 | e :: es, b :: l, i, hk => by
   simp only [Xt,Ya5] at hk;obtain ⟨h1,h2⟩:=hk;have ih:=Z2C enc h a w es l (i+1) h2;simp only [Instr.findAsking,h1];by_cases cU:a=b;subst cU;simp [Ya7,h]
   . have pZ:¬ b=a:=λh=>cU h.symm
     simp only [Sem.run_bind,h,decide_eq_false cU,Result.andThen,Ya7,decide_eq_false pZ,XQ,if_false,ih];cases l.findIdx? (λb=>decide (b=a)) with
     | none=>rfl
     | some j=>
       simp only [XT,Ya6,YaO];rw [show i+1+j=i+(j+1) by omega]
instance {P:Program} {kt:Nat} [hu:Und P kt (.int .i64)]:ZbY P kt Int where
 enc:=λz=>.I z
 chk:=λem a w=>MapKept.run_checkKey (k:=.I a) hu.h (by simp [MapKept.IsKey]) em 9999
 find:=λa es l w hk=>by
  have:=Z5e (d:=.int .i64) (λz:Int=>Value.int .i64 z) (λa b=>by simp [Instr.sameNow,YaJ]) a es l 0 hk;simpa using MapKept.run_findKey (w:=w) hu.h this
instance ZoD {P:Program} {kt:Nat} [hu:Und P kt .string]:ZbY P kt Str where
 enc:=str
 chk:=λem a w=>MapKept.run_checkKey (k:=str a) hu.h (by simp [MapKept.IsKey]) em 9999
 find:=λa es l w hk=>by
  have:=Z5e (d:=.string) str (λa b=>by
   simp only [Instr.sameNow,XK];rw [beq_toListBytes,ZmS]) a es l 0 hk
  simpa using MapKept.run_findKey (w:=w) hu.h this
section
variable {P:Program} {n:Nat} {e:Env} {w:World} {d:Option Nat} {ty:TypeId} {pos:String} {af:Array Edge} {g:Option (Nat×Bool)}
theorem Z13 {t:TypeId} {κ:Type} (enc:κ->Value):OE P n ⟨d,.makeMap t none,ty,pos,af,g⟩ e w (λv w'=>∃ r,v=.map (some r)/\w.heap.size<=r/\JM enc w' r []/\Stp [] w w'):=
 Jd (v:=.map (some w.heap.size)) (w':=w.alloc (.map #[] 0)) (λa ha=>by
  simp [execOp,run_makeMap]) ⟨_,rfl,Xn _,⟨#[],0,heap_alloc_new w _,rfl,rfl⟩,Stp.alloc _ _ _⟩
theorem ZdV {κ:Type} [DecidableEq κ] {l:List κ} {a:κ} (h:∀ b∈l,¬ b=a):l.findIdx? (λb=>decide (b=a))=none:=by
 rw [Yab];intro b hb;simp [h b hb]
theorem Z7Y {mt kt et r:Nat} {κ:Type} [DecidableEq κ] [hm:Und P mt (.map kt et)] [K:ZbY P kt κ] {l:List (κ×Value)} {a:κ} {v:Value} (hr:JM K.enc w r l) (hn:∀ p∈l,¬ p.1=a) :
 ∃ w',(Instr.mapUpdate mt (.map (some r)) (K.enc a) v).run P w=.ok () w'/\JM K.enc w' r (l++[(a,v)])/\Stp [r] w w':=by
 obtain ⟨es,clock,h1,h2,h3⟩:=hr;have hf:(Instr.findKey kt (K.enc a) es.toList).run P w=.ok none w:=by
  have hk:es.toList.map (·.key)=(l.map (·.1)).map K.enc:=by rw [h2,YbF];rfl
  rw [K.find a es.toList (l.map (·.1)) w hk,ZdV (by simpa using hn)];rfl
 have hlt:r<w.heap.size:=(Xm.1 h1).1;refine ⟨{ w with heap:=w.heap.setIfInBounds r (.map (es.push { key:=K.enc a,val:=v,born:=clock }) (clock+1)) },?_,?_,?_⟩;simp [Instr.mapUpdate,run_underlying hm.h,MapKept.run_getObj_map h1,K.chk,hf,MapKept.run_setObj_map _ h1,Result.andThen];refine ⟨es.push { key:=K.enc a,val:=v,born:=clock },clock+1,by simp [hlt],?_,?_⟩;simp [h2];simp [h3];refine ⟨rfl,rfl,rfl,by simp,λb hb hn=>?_⟩;simp only [Xk] at hn;simp [YaM (λh=>hn h.symm)]
theorem Zu {mt kt et r:Nat} {κ:Type} [DecidableEq κ] {x y z:Operand} [hm:Und P mt (.map kt et)] [K:ZbY P kt κ] {l:List (κ×Value)} {a:κ} {v:Value} (hx:ev e x=some (.map (some r))) (hy:ev e y=some (K.enc a)) (hz:ev e z=some v) (hr:JM K.enc w r l) (hn:∀ p∈l,¬ p.1=a) :
 OE P n ⟨d,.insert mt x y z,ty,pos,af,g⟩ e w (λ_ w'=>JM K.enc w' r (l++[(a,v)])/\Stp [r] w w'):=by
 obtain ⟨w',h1,h2,h3⟩:=Z7Y (mt:=mt) (v:=v) hr hn;exact Z4p (w':=w') (λc hc=>by simp [execOp,hc.ev hx,hc.ev hy,hc.ev hz,h1]) ⟨h2,h3⟩
theorem Z1Q {mt kt et r:Nat} {κ:Type} [DecidableEq κ] {x y z:Operand} [hm:Und P mt (.map kt et)] [K:ZbY P kt κ] {l:List (κ×Value)} {a:κ} {v:Value} (hx:ev e x=some (.map (some r))) (hy:ev e y=some (K.enc a)) (hz:ev e z=some v) (hr:JM K.enc w r l) (hn:∀ p∈l,¬ p.1=a) :
 OE P n ⟨d,.mapUpdate mt x y z,ty,pos,af,g⟩ e w (λ_ w'=>JM K.enc w' r (l++[(a,v)])/\Stp [r] w w'):=by
 obtain ⟨w',h1,h2,h3⟩:=Z7Y (mt:=mt) (v:=v) hr hn;exact Z4p (w':=w') (λc hc=>by simp [execOp,hc.ev hx,hc.ev hy,hc.ev hz,h1]) ⟨h2,h3⟩
theorem Z1R {mt kt et r:Nat} {κ:Type} [DecidableEq κ] {x y:Operand} {z:Value} [hm:Und P mt (.map kt et)] [K:ZbY P kt κ] [hz:Zer P et z] {l:List (κ×Value)} {a:κ} (hx:ev e x=some (.map (some r))) (hy:ev e y=some (K.enc a)) (hr:JM K.enc w r l) :
 PR P n ⟨d,.lookup mt x y false,ty,pos,af,g⟩ e w (Z3M l a z):=by
 refine ⟨λc hc=>?_⟩;obtain ⟨es,clock,h1,h2,h3⟩:=hr;have hk:es.toList.map (·.key)=(l.map (·.1)).map K.enc:=by rw [h2,YbF];rfl
 have hf:=K.find a es.toList (l.map (·.1)) w hk;have ai:es.toList.length=l.length:=by have:=congrArg List.length h3;simpa using this
 have hv:∀ i:Nat,(es.toList[i]?).map (λx:MapEntry=>x.val)=(l[i]?).map (λx:κ×Value=>x.2):=λi=>by
  have:=congrArg (λx=>x[i]?) h3;simpa using this
 have mO:Z3M l a z=match (l.map (·.1)).findIdx? (λb=>decide (b=a)) with|some i=>((es.toList[i]?).map (λx:MapEntry=>x.val)).getD z|none=>z:=by
  unfold Z3M;rw [List.findIdx?_map];cases hi:l.findIdx? ((λb=>decide (b=a)) ∘ λx=>x.1) with
  | none=>
    have:l.find? (λp=>decide (p.1=a))=none:=by
     rw [Yas];intro p hp;have:=(Yab.1 hi) p hp;simpa using this
    rw [this]
  | some i=>
    obtain ⟨hlt,hp,hb⟩:=X7.1 hi;have:l.find? (λp=>decide (p.1=a))=some l[i]:=by
     rw [Yat];exact ⟨by simpa using hp,i,hlt,rfl,λj hj=>by simpa using hb j hj⟩
    rw [this];simp only [hv,XV hlt,Ya6,YaF]
 rw [mO];simp only [execOp,hc.ev hx,hc.ev hy];cases hi:(l.map (·.1)).findIdx? (λb=>decide (b=a)) with
 | none=>
   rw [hi] at hf;simp [Instr.lookup,run_underlying hm.h,MapKept.run_getObj_map h1,K.chk,hf,Result.andThen,Zer.run]
 | some i=>
   obtain ⟨hlt,_⟩:=X7.1 hi;have eO:i<es.toList.length:=by rw [ai];simpa using hlt
   rw [hi] at hf;simp only [XT,XV eO,Ya6] at hf;simp [Instr.lookup,run_underlying hm.h,MapKept.run_getObj_map h1,K.chk,hf,Result.andThen,XV eO]
end
end Go.Eng
namespace Go.Proofs.YtipfkbkkndacjaaGreatDoor
open Go Go.Eng Go.RowKit
def idx {α:Type} (p:α->Bool) (xs:List α):Int:=match xs.findIdx? p with|some i=>(i:Int)|none=>-1
theorem Z6i {α:Type} {p:α->Bool} {xs:List α} {k:Nat} (hk:k<xs.length) (hp:p xs[k]=true) (hb:∀ j (h:j<xs.length),j<k->p xs[j]=false):idx p xs=k:=by
 have:xs.findIdx? p=some k:=X7.2 ⟨hk,hp,λj hj=>by simp [hb j (by omega) hj]⟩;simp [idx,this]
theorem Z3N {α:Type} {p:α->Bool} {xs:List α} (hb:∀ j (h:j<xs.length),p xs[j]=false):idx p xs=-1:=by
 have:xs.findIdx? p=none:=by
  rw [Yab];intro x hx;obtain ⟨j,hj,rfl⟩:=Xr hx;simp [hb j hj]
 simp [idx,this]
abbrev isS (a:Str):Str->Bool:=λx=>decide (x=a)
theorem Z9B (X:List Nat) (v:Value) (l:List Str) (a:Str) (w) (hs:SlV X w v l):CC 282 #[v,str a] w λr w'=>r=.I (idx (isS a) l)/\Stp [] w w':=by
 have aU:=hs.max;refine cW2 19 Tryz.func282 ?_;refine W ?_;refine LP (σ:=Nat) (λk=>[(0,v),(1,str a),(8,.I k),(7,.I (l.length:Int))]) (λk w'=>k<=l.length/\Stp [] w w'/\∀ j (h:j<l.length),j<k->isS a l[j]=false) (λk=>l.length - k) 0 ⟨Xp _,Stp.refl _ _,λj _ h=>absurd h (Xw _)⟩ ?_;have ba:=hs;clear hs;rintro k w1 ⟨hk,hS,bg⟩;have hs:=ba.up hS;by_cases hlt:k<l.length
 (refine QP ?_ ?_<;>intro hc)
 refine WR ?_;have jr:isS a l[k]=true:=by simpa [isS,eq_comm] using hc
 exact .mk ⟨by rw [Z6i hlt jr bg],hS⟩;refine QL (k+1) ⟨hlt,hS,λj h hj=>?_⟩ (by omega);by_cases e:j=k;subst e;simpa [isS,eq_comm] using hc;exact bg j h (by omega);have eN:k=l.length:=by omega
 subst eN;refine RT ?_;exact ⟨by rw [Z3N (λj h=>bg j h h)],hS⟩
theorem Z0f (X:List Nat) (v:Value) (l:List Str) (a:Str) (w) (hs:SlV X w v l):CC 182 #[v,str a] w λr w'=>r=.I (idx (isS a) l)/\Stp [] w w':=by
 have aU:=hs.max;refine cW2 19 Tryz.func182 ?_;refine W ?_;refine LP (σ:=Nat) (λk=>[(0,v),(1,str a),(5,.I k)]) (λk w'=>k<=l.length/\Stp [] w w'/\∀ j (h:j<l.length),j<k->isS a l[j]=false) (λk=>l.length - k) 0 ⟨Xp _,Stp.refl _ _,λj _ h=>absurd h (Xw _)⟩ ?_;have ba:=hs;clear hs;rintro k w1 ⟨hk,hS,bg⟩;have hs:=ba.up hS;by_cases hlt:k<l.length
 (refine QP ?_ ?_<;>intro hc)
 refine WR ?_;have jr:isS a l[k]=true:=by simpa [isS,eq_comm] using hc
 exact .mk ⟨by rw [Z6i hlt jr bg],hS⟩;refine QL (k+1) ⟨hlt,hS,λj h hj=>?_⟩ (by omega);by_cases e:j=k;subst e;simpa [isS,eq_comm] using hc;exact bg j h (by omega);have eN:k=l.length:=by omega
 subst eN;refine RT ?_;exact ⟨by rw [Z3N (λj h=>bg j h h)],hS⟩
theorem Z3O (X:List Nat) (v:Value) (l:List Str) (a:Str) (w) (hs:SlV X w v l):CC 248 #[v,str a] w λr w'=>r=.I (idx (isS a) l)/\Stp [] w w':=by
 have aU:=hs.max;refine cW2 19 Tryz.func248 ?_;refine W ?_;refine LP (σ:=Nat) (λk=>[(0,v),(1,str a),(5,.I k)]) (λk w'=>k<=l.length/\Stp [] w w'/\∀ j (h:j<l.length),j<k->isS a l[j]=false) (λk=>l.length - k) 0 ⟨Xp _,Stp.refl _ _,λj _ h=>absurd h (Xw _)⟩ ?_;have ba:=hs;clear hs;rintro k w1 ⟨hk,hS,bg⟩;have hs:=ba.up hS;by_cases hlt:k<l.length
 (refine QP ?_ ?_<;>intro hc)
 refine WR ?_;have jr:isS a l[k]=true:=by simpa [isS,eq_comm] using hc
 exact .mk ⟨by rw [Z6i hlt jr bg],hS⟩;refine QL (k+1) ⟨hlt,hS,λj h hj=>?_⟩ (by omega);by_cases e:j=k;subst e;simpa [isS,eq_comm] using hc;exact bg j h (by omega);have eN:k=l.length:=by omega
 subst eN;refine RT ?_;exact ⟨by rw [Z3N (λj h=>bg j h h)],hS⟩
def Ze:List Str:=[[100,97,121],[115,101,114,118,101,100],[101,120,116,114,97],[98,121],[116,111],[99,111,117,114,116],[97,109,111,117,110,116]]
abbrev Z21:Value:=.slice (some ⟨0,0,none⟩) 7 7
def ZR (a:Str):Int×Int×Bool:=
 let i:=idx (isS a) Ze
 if i<0 then (0,0,false) else if i<=1 then (i,3,true) else (i,1,true)
abbrev Zwz (x:Int×Int×Bool):Value:=.tuple #[.I x.1,.I x.2.1,.B x.2.2]
theorem Z9C (a:Str) (w) (hF:SlV [] w Z21 Ze):CC 231 #[str a] w λr w'=>r=Zwz (ZR a)/\Stp [] w w':=by
 refine cW1 17 Tryz.func231 ?_;refine W ?_;apply Z8 (Z6h rfl) rfl;refine W ?_;refine CL (Z9B [] _ _ a _ hF) ?_;rintro _ w1 ⟨rfl,hS⟩;unfold ZR;generalize idx (isS a) Ze=i;repeat'(first|refine W1 ?_|refine VG ?_ ?_<;>intro hg|refine VC ?_ ?_<;>intro hc)
 all_goals (refine WR ?_)
 exact .mk ⟨by simp only [if_pos hc],hS⟩;rename_i h1;exact .mk ⟨by simp only [if_neg h1,if_pos hc],hS⟩;rename_i h1;exact .mk ⟨by simp only [if_neg h1,if_neg hc],hS⟩
def wst (s:Str):Nat->List Str×Nat
 | 0=>([],0)
 | k+1=>if k=s.length\/Jg s k=32 then ((wst s k).1++[(s.take k).drop (wst s k).2],k+1) else wst s k
def Z1K (s:Str):List Str:=(wst s (s.length+1)).1
theorem Zjf (s:Str):∀ k,(wst s k).2<=k/\(wst s k).1.length<=k
 | 0=>by simp [wst]
 | k + 1 => by
   have:=Zjf s k;simp only [wst];split;simp;omega;omega
theorem Zjg (a:Str) (w):(Instr.buildSlice 128 1 #[(0,str a)]).run Tryz.prog w=.ok (.slice (some ⟨w.heap.size,0,none⟩) 1 1) (w.alloc (.cells #[str a] 9)):=by kernel_rfl
theorem Z1a (X:List Nat) (s:Str) (w:World) (hX:∀ b∈X,b<w.heap.size) (hl:s.length<=1000) :
 CC 242 #[str s] w λr w'=>Row X w' w.heap.size 9 r (Z1K s)/\Stp [] w w':=by
 refine cW1 32 Tryz.func242 ?_;refine W ?_;refine LP (σ:=Nat×Value) (λq=>[(0,str s),(3,q.2),(4,.I ((wst s q.1).2:Int)),(5,.I (q.1:Int))]) (λq w'=>q.1<=s.length+1/\Row X w' w.heap.size 9 q.2 (wst s q.1).1/\Stp [] w w') (λq=>s.length+1 - q.1) (0,.N) ⟨by simp,Row.nil,Stp.refl _ _⟩ ?_;rintro ⟨k,v⟩ w1 ⟨hk,ab,hS⟩;dsimp only at hk ab ⊢;obtain ⟨s5,j6⟩:=Zjf s k;by_cases hlt:k<=s.length
 . have nxt:wst s (k+1)=if k=s.length\/Jg s k=32 then ((wst s k).1++[(s.take k).drop (wst s k).2],k+1) else wst s k:=rfl
   have aX:=hS.size;repeat'(first|refine W1 ?_|omega|refine VG ?_ ?_<;>intro hg|refine VC ?_ ?_<;>intro hc)
   rotate_right
   have bg:¬ (k=s.length\/Jg s k=32):=by rintro (h|h)<;>omega
   rw [if_neg bg] at nxt;refine Zs (k+1,v) ⟨rfl,rfl,by rw [nxt];rfl,rfl,trivial⟩ ⟨by dsimp only;omega,by dsimp only;rw [nxt];exact ab,hS⟩ (by dsimp only;omega)
   all_goals
    have dO:k=s.length\/Jg s k=32:=by omega
    rw [if_pos dO] at nxt;apply Z8 (Z35 rfl rfl rfl rfl rfl (by omega) (by omega)) rfl;refine Z0 (Z1 (vs:=[(0,str _)]) rfl (Zjg _)) rfl ?_;rintro bv w2 hN;have aJ:=hN.choose_spec.2.2.2;have an:SlV (ob v++X) w2 bv [(s.take k).drop (wst s k).2]:=hN.slv (λb hb=>(Xg.1 hb).elim (λh=>(ab.ob_le b h).2) (λh=>Xa (hX b h) aX)) rfl rfl (by simp [maxLen]);clear hN;replace ab:=ab.up aJ;replace hS:=hS.trans aJ;have aX:=hS.size;refine Z0 (ZQ (X:=X) (base:=w.heap.size) rfl (by decide) rfl rfl ab an (by simp only [Xe,Xf];omega) (by simp only [Xe,Xf,maxLen];omega) aX) rfl ?_;rintro v' w3 ⟨aC,aN,_⟩;refine W ?_;refine Zs (k+1,v') ⟨rfl,rfl,by rw [nxt];rfl,rfl,trivial⟩ ⟨by dsimp only;omega,by dsimp only;rw [nxt];exact aC,hS.own aN (λb hb=>.inr (ab.ob_le b hb).1)⟩ (by dsimp only;omega)
 have eN:k=s.length+1:=by omega
 subst eN;refine RT ?_;exact ⟨ab,hS⟩
theorem _root_.Go.Eng.Row.slv0 {α:Type} [Z6 α] {w} {base T:Nat} {v:Value} {xs:List α} (h:Row [] w base T v xs):SlV [] w v xs:=h.slv (by simp)
theorem ZaJ:Z1K [100,97,121,32,115,101,114,118,101,100,32,101,120,116,114,97,32,98,121,32,116,111,32,99,111,117,114,116,32,97,109,111,117,110,116]=Ze:=by decide
theorem ZdW (X:List Nat) (w:World) (hX:∀ b∈X,b<w.heap.size):CC 295 #[] w λr w'=>Row X w' w.heap.size 9 r Ze/\Stp [] w w':=by
 refine cW0 2 Tryz.func295 ?_;refine W ?_;refine CM (ZN rfl) (Z1a X [100,97,121,32,115,101,114,118,101,100,32,101,120,116,114,97,32,98,121,32,116,111,32,99,111,117,114,116,32,97,109,111,117,110,116] _ hX (by decide)) ?_;rintro v w1 ⟨hr,hS⟩;rw [ZaJ] at hr;refine RT ?_;exact ⟨hr,hS⟩
theorem Z71 (a:Str) (w):CC 247 #[str a] w λr w'=>r=Zwz (ZR a)/\Stp [] w w':=by
 refine cW1 15 Tryz.func247 ?_;refine W ?_;refine CM Z6g (ZdW [] _ (by simp)) ?_;rintro v w1 ⟨hr,hS⟩;refine W ?_;refine CM (Zf rfl rfl) (Z0f [] _ _ a _ (hr.slv (by simp))) ?_;rintro _ w2 ⟨rfl,ah⟩;replace hS:=hS.trans ah;unfold ZR;generalize idx (isS a) Ze=i;repeat'(first|refine W1 ?_|refine VG ?_ ?_<;>intro hg|refine VC ?_ ?_<;>intro hc)
 all_goals (refine WR ?_)
 exact .mk ⟨by simp only [if_pos hc],hS⟩;rename_i h1;exact .mk ⟨by simp only [if_neg h1,if_pos hc],hS⟩;rename_i h1;exact .mk ⟨by simp only [if_neg h1,if_neg hc],hS⟩
def Z0Q (k n:Int) (s:Str):Int:=
 if k=4 then (if n=0 then (ZR s).2.1 else 0) else if ¬ s=[] then 0
 else if k=1 then (if 0<=n/\n<=2147483647 then 1 else 0) else if k=2 then (if 0<=n/\n<=1 then 2 else 0) else if k=3 then (if 0<=n/\n<=3652058 then 3 else 0) else 0
theorem Z6j {a:Str} (h:(ZR a).2.2=false):(ZR a).2.1=0:=by
 unfold ZR at h ⊢;dsimp only at h ⊢;split<;>rename_i h1
 rfl;rw [if_neg h1] at h;split at h<;>simp at h
theorem ZdX (X:List Nat) (v:Value) (x:Nd) (w) (hx:NdV X w v x) :
 CC 243 #[v] w λr w'=>r=.I (Z0Q x.kind x.num x.word)/\Stp [] w w':=by
 obtain ⟨kv,rfl,hs⟩:=hx;refine cW1 69 Tryz.func243 ?_;refine W ?_;refine Z0 (Zq rfl) rfl ?_;rintro _ w1 ⟨b,rfl,hb,ac,hS⟩;replace ac:Blk w1 b _ (ndC x kv):=ac;repeat'(first|refine W1 ?_|omega|refine VG ?_ ?_<;>intro hg|refine VC ?_ ?_<;>intro hc)
 . refine CL (Z71 x.word _) ?_
   rintro _ w2 ⟨rfl,ah⟩;have bg:=@Z6j x.word;have hk:x.kind=4:=hc;generalize gO:ZR x.word=fd at *;obtain ⟨f1,f2,f3⟩:=fd;replace ac:=ac.up ah;replace hS:=hS.trans ah;cases f3 with
   | true=>
     (refine QP ?_ ?_<;>intro hc)
     all_goals (refine WR ?_)
     refine .mk ⟨?_,hS⟩;simp only [Z0Q,if_pos hk];rw [if_neg (by assumption)];refine .mk ⟨?_,hS⟩;simp only [Z0Q,if_pos hk];rw [if_pos (by omega),gO];rfl
   | false=>
     have h0:=bg rfl;dsimp only at h0;subst h0;refine QO ?_;all_goals (refine WR ?_)
     refine .mk ⟨?_,hS⟩;simp only [Z0Q,if_pos hk];split;rw [gO];rfl
 all_goals (refine WR ?_)
 all_goals
  refine .mk ⟨?_,hS⟩;simp only [Z0Q];repeat' split
  all_goals first|rfl|omega|(exfalso;simp_all;done)|(exfalso;simp_all;omega)
theorem Zjh (X:List Nat) (v:Value) (x:Nd) (w) (hx:NdV X w v x) (hF:SlV [] w Z21 Ze) :
 CC 283 #[v] w λr w'=>r=.I (Z0Q x.kind x.num x.word)/\Stp [] w w':=by
 obtain ⟨kv,rfl,hs⟩:=hx;refine cW1 50 Tryz.func283 ?_;refine W ?_;refine Z0 (Zq rfl) rfl ?_;rintro _ w1 ⟨b,rfl,hb,ac,hS⟩;replace ac:Blk w1 b _ (ndC x kv):=ac;replace hF:=hF.up hS;repeat'(first|refine W1 ?_|omega|refine VG ?_ ?_<;>intro hg|refine VC ?_ ?_<;>intro hc)
 refine CL (Z9C x.word _ hF) ?_;rintro _ w2 ⟨rfl,ah⟩;replace hS:=hS.trans ah;refine QO ?_;refine WR ?_;refine .mk ⟨?_,hS⟩;simp only [Z0Q];rw [if_pos (by assumption),if_pos (by assumption)];rfl
 all_goals first
  | (refine Z0 (Z13 (λz : Int => Value.int .i64 z)) rfl ?_
     rintro _ w2 ⟨r,rfl,hr,hm,ah⟩;have qa:=ac.lt;have bH:=hS.size;replace ac:=ac.up ah;replace hS:=hS.trans ah;refine Z5 (Zu (a:=(1:Int)) (v:=.I 1) rfl rfl rfl hm (by simp)) ?_;rintro _ w3 ⟨hm,am⟩;replace ac:=ac.ext am (by simp;omega);replace hS:=hS.ow am;refine Z5 (Zu (a:=(2:Int)) (v:=.I 2) rfl rfl rfl hm (by simp)) ?_;rintro _ w4 ⟨hm,aI⟩;replace ac:=ac.ext aI (by simp;omega);replace hS:=hS.ow aI;refine Z5 (Zu (a:=(3:Int)) (v:=.I 3) rfl rfl rfl hm (by simp)) ?_;rintro _ w5 ⟨hm,aD⟩;replace ac:=ac.ext aD (by simp;omega);replace hS:=hS.ow aD;refine W ?_;apply Z8 (Z1R (a:=x.kind) rfl rfl hm) rfl;refine W ?_;refine WR ?_;refine .mk ⟨?_,hS⟩;have hw:x.word=[]:=by first|assumption|exact Decidable.not_not.1 (by assumption)
     simp only [Z0Q,hw,not_true_eq_false,if_false]
     first
      | (have hk : x.kind = 1 := by assumption
         rw [hk,if_neg (by decide),if_pos rfl,if_pos (by omega)];rfl)
      | (have hk : x.kind = 2 := by assumption
         rw [hk,if_neg (by decide),if_neg (by decide),if_pos rfl,if_pos (by omega)];rfl)
      | (have hk : x.kind = 3 := by assumption
         rw [hk,if_neg (by decide),if_neg (by decide),if_neg (by decide),if_pos rfl,if_pos (by omega)];rfl))
  | skip
 all_goals (refine WR ?_)
 all_goals
  refine .mk ⟨?_,hS⟩;simp only [Z0Q];repeat' split
  all_goals first|rfl|omega|(exfalso;simp_all;done)|(exfalso;simp_all;omega)
def Z0m (l want:List Int):Bool:=decide (l=want/\∀ x∈l,x≠0)
theorem Z1L (X Y:List Nat) (u v:Value) (l m:List Int) (w) (hl:SlV X w u l) (hm:SlV Y w v m) :
 CC 244 #[u,v] w λr w'=>r=.B (Z0m l m)/\Stp [] w w':=by
 have aU:=hl.max;have s6:=hm.max;refine cW2 33 Tryz.func244 ?_
 (refine QP ?_ ?_<;>intro hc)
 refine WR ?_;refine .mk ⟨?_,Stp.refl _ _⟩;congr 1;symm;refine decide_eq_false (λh=>?_);have:=congrArg List.length h.1;omega;have ai:l.length=m.length:=by omega
 have cV:=hl;have oR:=hm;refine LP (σ:=Nat) (λk=>[(0,u),(1,v),(5,.I k)]) (λk w'=>k<=l.length/\Stp [] w w'/\∀ j (h:j<l.length) (h':j<m.length),j<k->l[j]=m[j]/\l[j]≠0) (λk=>l.length - k) 0 ⟨Xp _,Stp.refl _ _,λj _ _ h=>absurd h (Xw _)⟩ ?_;clear hl hm;rintro k w1 ⟨hk,hS,aB⟩;have hl:=cV.up hS;have hm:=oR.up hS;by_cases hlt:k<l.length
 . have kM:k<m.length:=by omega
   refine QO ?_;refine ZDr 16 [] [] [(0,0),(1,0),(2,0),(3,1),(4,0),(5,0),(6,0),(7,1),(8,0),(9,0),(10,0),(11,0),(12,0),(13,1),(14,0),(15,0)] (λw1 ae=>?_);replace hl:=hl.up ae;replace hm:=hm.up ae;replace hS:=hS.trans ae
   (refine QE ?_ ?_<;>intro hg)
   all_goals (repeat'(first|refine W1 ?_|omega|refine VG ?_ ?_<;>intro hg|refine VC ?_ ?_<;>intro hc))
   all_goals first
    | (refine QL (k + 1) ⟨hlt, hS, λj h h' hj => ?_⟩ (by omega)
       by_cases e:j=k;subst e;omega;exact aB j h h' (by omega))
    | (refine WR ?_)
   all_goals
    refine .mk ⟨?_,hS⟩;congr 1;symm;refine decide_eq_false (λh=>?_);obtain ⟨rfl,h2⟩:=h;have:=h2 _ (Xc hlt);omega
 refine QO ?_;refine WR ?_;refine .mk ⟨?_,hS⟩;congr 1;symm;refine decide_eq_true ⟨YaG ai (λj h h'=>(aB j h h' (by omega)).1),λx hx=>?_⟩;obtain ⟨j,hj,rfl⟩:=Xr hx;exact (aB j hj (by omega) (by omega)).2
theorem Zr (a:Int) (w):(Instr.buildSlice 23 1 #[(0,.I a)]).run Tryz.prog w=.ok (.slice (some ⟨w.heap.size,0,none⟩) 1 1) (w.alloc (.cells #[.I a] 3)):=by kernel_rfl
theorem Z04 (a b:Int) (w):(Instr.buildSlice 23 2 #[(0,.I a),(1,.I b)]).run Tryz.prog w=.ok (.slice (some ⟨w.heap.size,0,none⟩) 2 2) (w.alloc (.cells #[.I a,.I b] 3)):=by kernel_rfl
theorem Zji (a b c:Int) (w):(Instr.buildSlice 23 3 #[(0,.I a),(1,.I b),(2,.I c)]).run Tryz.prog w=.ok (.slice (some ⟨w.heap.size,0,none⟩) 3 3) (w.alloc (.cells #[.I a,.I b,.I c] 3)):=by kernel_rfl
theorem Z9.stp {w w':World} {T len:Nat} {cs:List Value} {v:Value} (h:Z9 w T len cs v w'):Stp [] w w':=h.choose_spec.2.2.2
def Z14:List Str:=[[43],[45],[42]]
def Z2k:List Str:=[[60],[60,61],[61],[33,61],[62],[62,61]]
def Z0R:List Str:=[[97,110,100],[111,114]]
theorem ZdY:Z1K [43,32,45,32,42]=Z14:=by decide
theorem ZdZ:Z1K [60,32,60,61,32,61,32,33,61,32,62,32,62,61]=Z2k:=by decide
theorem Ze0:Z1K [97,110,100,32,111,114]=Z0R:=by decide
def ZaK (s:Str) (l:List Int):Int:=
 if 0<=idx (isS s) Z14/\Z0m l [1,1]=true then 1 else if 0<=idx (isS s) Z2k/\(Z0m l [1,1]=true\/Z0m l [3,3]=true) then 2 else if 0<=idx (isS s) Z0R/\Z0m l [2,2]=true then 2 else 0
theorem ZaL (X:List Nat) (s:Str) (u:Value) (l:List Int) (w) (hl:SlV X w u l) :
 CC 245 #[str s,u] w λr w'=>r=.I (ZaK s l)/\Stp [] w w':=by
 refine cW2 42 Tryz.func245 ?_;refine W ?_;refine Z0 (Z1 (vs:=[(0,.I 1),(1,.I 1)]) rfl (Z04 _ _)) rfl ?_;rintro a1 w1 hN;have ha:=hN.slv (X:=[]) (ys:=[(1:Int),1]) (by simp) rfl rfl (by simp [maxLen]);have hS:=Z9.stp hN;clear hN;replace hl:=hl.up hS;refine CL (Z1L _ _ _ _ _ _ _ hl ha) ?_;rintro _ w2 ⟨rfl,ah⟩;replace hl:=hl.up ah;replace hS:=hS.trans ah;refine W ?_;refine Z0 (Z1 (vs:=[(0,.I 3),(1,.I 3)]) rfl (Z04 _ _)) rfl ?_;rintro a3 w3 hN;have ha:=hN.slv (X:=[]) (ys:=[(3:Int),3]) (by simp) rfl rfl (by simp [maxLen]);have am:=Z9.stp hN;clear hN;replace hl:=hl.up am;replace hS:=hS.trans am;refine CL (Z1L _ _ _ _ _ _ _ hl ha) ?_;rintro _ w4 ⟨rfl,aI⟩;replace hl:=hl.up aI;replace hS:=hS.trans aI;clear ha;unfold ZaK;generalize Z0m l [1,1]=p1;generalize Z0m l [3,3]=p3;refine W ?_;refine CM (ZN rfl) (Z1a [] [43,32,45,32,42] _ (by simp) (by decide)) ?_;rintro _ w5 ⟨hr,aD⟩;rw [ZdY] at hr;replace hl:=hl.up aD;replace hS:=hS.trans aD;refine W ?_;refine CL (Z0f [] _ _ s _ hr.slv0) ?_;rintro _ w6 ⟨rfl,dp⟩;replace hl:=hl.up dp;replace hS:=hS.trans dp;generalize idx (isS s) Z14=i1;clear hr;cases p1<;>cases p3<;>by_cases hi:0<=i1;all_goals (refine QO ?_)
 all_goals first
  | (refine CM (ZN rfl) (Z1a [] [60, 32, 60, 61, 32, 61, 32, 33, 61, 32, 62, 32, 62, 61] _ (by simp) (by decide)) ?_
     rintro _ w7 ⟨hr,aR⟩;rw [ZdZ] at hr;replace hl:=hl.up aR;replace hS:=hS.trans aR;refine W ?_;refine CL (Z0f [] _ _ s _ hr.slv0) ?_;rintro _ w8 ⟨rfl,cK⟩;replace hl:=hl.up cK;replace hS:=hS.trans cK;generalize idx (isS s) Z2k=i2;clear hr;by_cases cg:0<=i2)
  | (refine RU ?_
     exact ⟨by simp [hi],hS⟩)
 all_goals (refine QO ?_)
 all_goals first
  | (refine CM (ZN rfl) (Z1a [] [97, 110, 100, 32, 111, 114] _ (by simp) (by decide)) ?_
     rintro _ w9 ⟨hr,gC⟩;rw [Ze0] at hr;replace hl:=hl.up gC;replace hS:=hS.trans gC;refine W ?_;refine CL (Z0f [] _ _ s _ hr.slv0) ?_;rintro _ w10 ⟨rfl,eu⟩;replace hl:=hl.up eu;replace hS:=hS.trans eu;generalize idx (isS s) Z0R=i3;clear hr;by_cases fE:0<=i3)
  | (refine RU ?_
     exact ⟨by simp [hi,cg],hS⟩)
 all_goals (refine QO ?_)
 all_goals first
  | (refine Z0 (Z1 (vs := [(0, .I 2), (1, .I 2)]) rfl (Z04 _ _)) rfl ?_
     rintro a2 w11 hN;have ha:=hN.slv (X:=[]) (ys:=[(2:Int),2]) (by simp) rfl rfl (by simp [maxLen]);have mQ:=Z9.stp hN;clear hN;replace hl:=hl.up mQ;replace hS:=hS.trans mQ;refine W ?_;refine CL (Z1L _ _ _ _ _ _ _ hl ha) ?_;rintro _ w12 ⟨rfl,jt⟩;replace hS:=hS.trans jt;generalize Z0m l [2,2]=p2;cases p2)
  | (refine RU ?_
     exact ⟨by simp [hi,cg,fE],hS⟩)
 all_goals (refine W ?_)
 all_goals (refine WR ?_)
 all_goals exact .mk ⟨by simp [hi,cg,fE],hS⟩
structure Sig where
 kind:Int
 s:Str
 a:Int
 b:Int
 c:Int
 deriving DecidableEq
abbrev Z5A (x:Sig):Value:=.agg #[.I x.kind,str x.s,.I x.a,.I x.b,.I x.c]
theorem Ztf (x y:Sig) (w):(Op.equal 355 (Z5A x) (Z5A y)).run Tryz.prog w=.ok (decide (x=y)) w:=by
 have h1:Program.stoodInHeld Tryz.prog 355=false:=by kernel_rfl
 obtain ⟨i,hi⟩:∃ i,Tryz.prog.info? 3=some i:=by
  have:=(inferInstance:Siz Tryz.prog 3 1).h;cases h:Tryz.prog.info? 3 with
  | none=>rw [h] at this;cases this
  | some i=>exact ⟨i,rfl⟩
 have hc:Tryz.prog.cellsOf 3=1:=by kernel_rfl
 obtain ⟨k,s,a,b,c⟩:=x;obtain ⟨k',s',a',b',c'⟩:=y;simp [Z5A,Op.equal,Op.maxDepth,run_equalIn_struct,h1,Program.fieldsOf,Tryz.underlying355,Op.eqFields,part,Und.isAgg,Siz.run,Z0K,run_equalIn_int w _ _ .i64 .i64 _ _ Tryz.underlying3,run_equalIn_string w _ _ _ _ Tryz.underlying9,run_equalIn_array w _ _ _ Tryz.underlying350 hi,hc,Op.eqItems,List.range_succ_eq_map];repeat' split
 all_goals simp_all
theorem ZmZ (em:Bool) (x:Sig) (w):(Instr.checkKey em 10000 355 (Z5A x)).run Tryz.prog w=.ok () w:=by kernel_rfl
instance:ZbY Tryz.prog 355 Sig where
 enc:=Z5A
 chk:=ZmZ
 find:=λa es l w hk=>by
  have h2:=run_findKey_eq (P:=Tryz.prog) (k:=355) w (by kernel_rfl) (Z5A a) es;have h3:=Z2C Z5A Ztf a w es l 0 hk;simp only [XP] at h3;exact h2.trans h3
abbrev ZbZ (a b c:Int):Value:=.agg #[.I a,.I b,.I c]
theorem Zn0 (a:Int) (w):(Instr.build 350 #[(0,.I a)]).run Tryz.prog w=.ok (ZbZ a 0 0) w:=by kernel_rfl
theorem ZaM (a b:Int) (w):(Instr.build 350 #[(0,.I a),(1,.I b)]).run Tryz.prog w=.ok (ZbZ a b 0) w:=by kernel_rfl
theorem Z7G (k a b c:Int) (s:Str) (w):(Instr.build 355 #[(0,.I k),(1,str s),(2,ZbZ a b c)]).run Tryz.prog w=.ok (Z5A ⟨k,s,a,b,c⟩) w:=by kernel_rfl
theorem Zc0 (a b c d:Str) (w):(Instr.buildSlice 128 4 #[(0,str a),(1,str b),(2,str c),(3,str d)]).run Tryz.prog w=.ok (.slice (some ⟨w.heap.size,0,none⟩) 4 4) (w.alloc (.cells #[str a,str b,str c,str d] 9)):=by kernel_rfl
abbrev Zjj:=Sig×Value
def ent:Nat->Zjj
 | 5=>(⟨5,[45],1,0,0⟩,.I 1)
 | 10=>(⟨5,[110,111,116],2,0,0⟩,.I 2)
 | 15=>(⟨10,[110,101,120,116],3,0,0⟩,.I 3)
 | 20=>(⟨10,[112,114,101,118],3,0,0⟩,.I 3)
 | 26=>(⟨10,[108,97,116,101,114],3,3,0⟩,.I 3)
 | 32=>(⟨10,[101,97,114,108,105,101,114],3,3,0⟩,.I 3)
 | _=>(⟨10,[98,101,116,119,101,101,110],3,3,0⟩,.I 1)
def ZaN:List Nat:=[5,10,15,20,26,32,38]
def J4:List Str:=[[100,97,121,115],[119,101,101,107,115],[109,111,110,116,104,115],[99,111,117,114,116,100,97,121,115]]
def Z22 (u:Str):List Zjj:=[(⟨7,u,3,1,0⟩,.I 3),(⟨8,u,3,1,0⟩,.I 3)]
def Z3P:List Zjj:=ZaN.map ent++J4.flatMap Z22
theorem Ze1:(Z3P.map (·.1)).Nodup:=by decide
theorem Zga {κ:Type} [DecidableEq κ] {l m:List (κ×Value)} (hp:l.Perm m) (hn:(m.map (·.1)).Nodup) (a:κ) (z:Value):Z3M l a z=Z3M m a z:=by
 have qb:(l.map (·.1)).Nodup:=(hp.map _).nodup_iff.2 hn;have key:∀ (l m:List (κ×Value)),(∀ p,p∈l->p∈m)->(m.map (·.1)).Nodup->∀ p,l.find? (λp=>decide (p.1=a))=some p->m.find? (λp=>decide (p.1=a))=some p:=by
  intro l m hs hm p hf;have kN:=hs p (X6 hf);have s7:p.1=a:=by simpa using Ybm hf
  cases hq:m.find? (λp=>decide (p.1=a)) with
  | none=>exact absurd (Yas.1 hq p kN) (by simp [s7])
  | some q=>
    have uK:=X6 hq;have uL:q.1=a:=by simpa using Ybm hq
    obtain ⟨i,hi,rfl⟩:=Xr kN;obtain ⟨j,hj,rfl⟩:=Xr uK;have:i=j:=by
     have h1:=(List.getElem_inj (xs:=m.map (·.1)) (i:=i) (j:=j) (h₀:=by simpa using hi) (h₁:=by simpa using hj) hm).1 (by simp [s7,uL]);exact h1
    subst this;rfl
 unfold Z3M;cases h1:l.find? (λp=>decide (p.1=a)) with
 | some p=>rw [key l m (λp h=>hp.mem_iff.1 h) hn p h1]
 | none=>
   cases h2:m.find? (λp=>decide (p.1=a)) with
   | none=>rfl
   | some p=>rw [key m l (λp h=>hp.mem_iff.2 h) qb p h2] at h1;cases h1
theorem Z7Z (w):CC 285 #[] w λr w'=>∃ (m:Nat) (l:List Zjj),r=.map (some m)/\JM Z5A w' m l/\l.Perm Z3P/\Stp [] w w':=by
 refine cW0 62 Tryz.func285 ?_;refine W ?_;refine ZDr 41 [] [5,10,15,20,26,32,38] [(1,0),(2,0),(3,0),(4,0),(6,0),(7,0),(8,0),(9,0),(11,0),(12,0),(13,0),(14,0),(16,0),(17,0),(18,0),(19,0),(21,0),(22,0),(23,0),(24,0),(25,0),(27,0),(28,0),(29,0),(30,0),(31,0),(33,0),(34,0),(35,0),(36,0),(37,0),(0,2),(5,279241165504),(39,0),(40,0)] (λw1 ae=>?_);repeat'(first|refine D1 ?_|(apply Z20;exact rfl;first|(apply Z2I (vs:=[(0,.I _)]);exact trivial;exact rfl;exact Zn0 _;exact rfl)|(apply Z2I (vs:=[(0,.I _),(1,.I _)]);exact trivial;exact rfl;exact ZaM _ _;exact rfl)|(apply Z2I (vs:=[(0,.I _),(1,str _),(2,ZbZ _ _ _)]);exact trivial;exact rfl;exact Z7G _ _ _ _ _;exact rfl)))
 refine Za rfl trivial (Z13 Z5A) (λ_ _ h=>h.choose_spec.2.2.2) rfl ?_;rintro _ w2 ⟨m,rfl,hm,au,ah⟩;have s5:=ae.size;refine Ztb ZaN (λrem w'=>∃ l,JM Z5A w' m l/\(l++rem.map ent).Perm (ZaN.map ent)/\Stp [m] w2 w') rfl (by decide) (by decide) ⟨[],au,by simp,Stp.refl _ _⟩ ?_ ?_
 . rintro rem j w' bF hj ⟨l,hl,hp,hS⟩
   have j7:((l++rem.map ent).map (·.1)).Nodup:=(hp.map (·.1)).nodup_iff.2 (by decide);have hfresh:∀ p∈l,¬ p.1=(ent j).1:=by
    intro p hp e;rw [XR,Ybb] at j7;exact j7.2.2 p.1 (Yal hp) (ent j).1 (by rw [YbF];exact XH.2 ⟨j,hj,rfl⟩) e
   have gen:∀ w'',JM Z5A w'' m (l++[ent j])->Stp [m] w' w''->∃ l,JM Z5A w'' m l/\(l++(rem.erase j).map ent).Perm (ZaN.map ent)/\Stp [m] w2 w'':=by
    intro w'' h1 h2;refine ⟨_,h1,?_,hS.trans h2⟩;refine List.Perm.trans ?_ hp;rw [XA];exact List.Perm.append_left l (((List.perm_cons_erase hj).map ent).symm)
   have mR:=bF.subset hj;simp only [ZaN,Xb,Xj,or_false] at mR;rcases mR with rfl|rfl|rfl|rfl|rfl|rfl|rfl
   all_goals exact ⟨_,rfl,rfl,trivial,(Zu (v:=.I _) rfl rfl rfl hl hfresh).mono (λ_ w'' ⟨h1,h2⟩=>⟨.inr rfl,gen w'' h1 h2⟩)⟩
 rintro w3 ⟨l,hl,hp,am⟩;rw [XM,XG] at hp;have hS:Stp [] w w3:=(ae.trans ah).ow am;have xT:w.heap.size<=m:=by omega
 clear au ah am;repeat'(first|refine D1 ?_|refine Zk rfl rfl rfl rfl (λhg=>?_) (λhg=>?_)|(refine Zi rfl rfl rfl rfl (λhg=>?_) (λhg=>?_)<;>refine D1 ?_)|fail)
 refine W ?_;refine Z0 (Z1 (vs:=[(0,str [100,97,121,115]),(1,str [119,101,101,107,115]),(2,str [109,111,110,116,104,115]),(3,str [99,111,117,114,116,100,97,121,115])]) rfl (Zc0 _ _ _ _)) rfl ?_;rintro uv w4 hN;have hu:SlV [m] w4 uv J4:=hN.slv (λb hb=>by simp at hb;subst hb;exact hl.lt) rfl rfl (by simp [J4,maxLen]);have aI:=Z9.stp hN;clear hN;replace hl:=hl.up aI;replace hS:=hS.trans aI;have mS:∀ p∈l,p.1.kind=5\/p.1.kind=10:=λp bZ=>by
  have fT:=hp.mem_iff.1 bZ;simp only [ZaN,Xt,XM,Xb,Xj,or_false] at fT;rcases fT with rfl|rfl|rfl|rfl|rfl|rfl|rfl<;>decide
 have iF:∀ k (h:k<J4.length),∀ p∈(J4.take k).flatMap Z22,¬ p.1.s=J4[k]:=by
  intro k h
  match k,h with
  | 0,_=>(show ∀ p∈(J4.take 0).flatMap Z22,¬ p.1.s=J4[0]'(by decide));decide
  | 1,_=>(show ∀ p∈(J4.take 1).flatMap Z22,¬ p.1.s=J4[1]'(by decide));decide
  | 2,_=>(show ∀ p∈(J4.take 2).flatMap Z22,¬ p.1.s=J4[2]'(by decide));decide
  | 3,_=>(show ∀ p∈(J4.take 3).flatMap Z22,¬ p.1.s=J4[3]'(by decide));decide
 refine W ?_;refine LP (σ:=Nat) (λk=>[(1,.I 1),(3,.I 3),(4,.map (some m)),(40,uv),(41,.I 4),(42,.I k)]) (λk w'=>k<=4/\JM Z5A w' m (l++(J4.take k).flatMap Z22)/\Stp [m] w4 w') (λk=>4 - k) 0 ⟨by omega,by simpa using hl,Stp.refl _ _⟩ ?_;rintro k w5 ⟨hk,az,aD⟩;have xU:SlV [m] w5 uv J4:=hu.ext aD (by simp) (λb hb=>.inl hb);by_cases hlt:k<4;have kM:k<J4.length:=hlt;have ju:∀ (t:Int),¬ t=5->¬ t=10->∀ p∈l++(J4.take k).flatMap Z22,¬ p.1=⟨t,J4[k],3,1,0⟩:=by
  intro t h5 fq p kN e;rcases Xg.1 kN with h|h
  have:=mS p h;rw [e] at this;rcases this with h|h
  exact h5 h;exact fq h;exact iF k kM p h (by rw [e])
 refine QO ?_;apply Z7 (vs:=[(0,.I 3),(1,.I 1)]) rfl (ZaM _ _) rfl;apply Z7 (vs:=[(0,.I 7),(1,str _),(2,ZbZ _ _ _)]) rfl (Z7G _ _ _ _ _) rfl;refine W ?_;refine Z5 (Z1Q (a:=(⟨7,J4[k],3,1,0⟩:Sig)) (v:=.I 3) rfl rfl rfl az (ju 7 (by decide) (by decide))) ?_;rintro _ w6 ⟨mb,dp⟩;refine W ?_;apply Z7 (vs:=[(0,.I 3),(1,.I 1)]) rfl (ZaM _ _) rfl;apply Z7 (vs:=[(0,.I 8),(1,str _),(2,ZbZ _ _ _)]) rfl (Z7G _ _ _ _ _) rfl;refine W ?_;refine Z5 (Z1Q (a:=(⟨8,J4[k],3,1,0⟩:Sig)) (v:=.I 3) rfl rfl rfl mb (λp kN e=>by
  rcases Xg.1 kN with h|h
  exact ju 8 (by decide) (by decide) p h e;simp only [Xk] at h;subst h;simp at e)) ?_
 rintro _ w7 ⟨qc,aR⟩;refine W ?_;refine QL (k+1) ⟨by omega,?_,(aD.trans dp).trans aR⟩ (by omega);rw [Xi kM,Yam];have e:l++((J4.take k).flatMap Z22++[J4[k]].flatMap Z22)=(l++(J4.take k).flatMap Z22++[((⟨7,J4[k],3,1,0⟩:Sig),Value.int .i64 3)])++[((⟨8,J4[k],3,1,0⟩:Sig),Value.int .i64 3)]:=by simp [Z22]
 rw [e];exact qc;have eN:k=4:=by omega
 subst eN;refine RT ?_;exact ⟨m,_,rfl,az,hp.append_right _,hS.ow aD⟩
def Zgb (x:Sig):Value:=Z3M Z3P x (.I 0)
def Z23 (s:Str) (a b:Int):Int:=
 if s∈Z14 then (if a=b/\a=1 then 1 else 0) else if s∈Z2k then (if a=b/\¬ a=2 then 2 else 0) else if s∈Z0R then (if a=b/\a=2 then 2 else 0) else 0
theorem Ze2 (s:Str) (a b c:Int) (w):CC 284 #[str s,ZbZ a b c] w λr w'=>r=.I (Z23 s a b)/\Stp [] w w':=by
 refine cW2 46 Tryz.func284 ?_;refine W ?_;refine Z0 (Zq rfl) rfl ?_;rintro _ w1 ⟨q,rfl,hq,ac,hS⟩;replace ac:Blk w1 q _ [.I a,.I b,.I c]:=ac;refine W ?_;by_cases hA:s∈Z14
 . unfold Z23
   rw [if_pos hA];simp only [Z14,Xb,Xj,or_false] at hA;rcases hA with rfl|rfl|rfl
   all_goals (repeat'(first|refine W1 ?_|omega|refine VG ?_ ?_<;>intro hg|refine VC ?_ ?_<;>intro hc))
   all_goals (refine WR ?_)
   all_goals refine .mk ⟨?_,hS⟩
   all_goals first
    | rw [if_pos ⟨by assumption,by assumption⟩]
    | rw [if_neg (λh=>by omega)]
 by_cases hC:s∈Z2k
 . unfold Z23
   rw [if_neg hA,if_pos hC];simp only [Z2k,Xb,Xj,or_false] at hC;rcases hC with rfl|rfl|rfl|rfl|rfl|rfl
   all_goals (repeat'(first|refine W1 ?_|omega|refine VG ?_ ?_<;>intro hg|refine VC ?_ ?_<;>intro hc))
   all_goals (refine WR ?_)
   all_goals refine .mk ⟨?_,hS⟩
   all_goals first
    | rw [show (if a=b/\¬ a=2 then (2:Int) else 0)=2 from if_pos (by omega)]
    | rw [show (if a=b/\¬ a=2 then (2:Int) else 0)=0 from if_neg (by omega)]
 by_cases hL:s∈Z0R
 . unfold Z23
   rw [if_neg hA,if_neg hC,if_pos hL];simp only [Z0R,Xb,Xj,or_false] at hL;rcases hL with rfl|rfl
   all_goals (repeat'(first|refine W1 ?_|omega|refine VG ?_ ?_<;>intro hg|refine VC ?_ ?_<;>intro hc))
   all_goals (refine WR ?_)
   all_goals refine .mk ⟨?_,hS⟩
   all_goals first
    | rw [if_pos ⟨by assumption,by assumption⟩]
    | rw [if_neg (λh=>by omega)]
 unfold Z23;rw [if_neg hA,if_neg hC,if_neg hL];simp only [Z14,Z2k,Z0R,Xb,Xj,or_false,not_or] at hA hC hL;obtain ⟨a1,a2,a3⟩:=hA;obtain ⟨b1,b2,b3,b4,b5,b6⟩:=hC;obtain ⟨c1,c2⟩:=hL;repeat'(first|refine W1 ?_|refine Zax rfl (λhc=>absurd hc (by assumption)) (λhc=>?_))
 refine RU ?_;exact ⟨rfl,hS⟩
theorem _root_.Go.Eng.SlV.any {α:Type} [Z6 α] {X:List Nat} {w} {v:Value} {xs:List α} (h:SlV X w v xs):SlV [] w v xs:=h.ext (Stp.refl [] w) (by simp) (by simp)
theorem _root_.Go.Eng.SlV.new {α:Type} [Z6 α] {X:List Nat} {w w':World} {v:Value} {xs:List α} (h:SlV X w v xs) (hS:Stp [] w w') (b:Nat) (hb:w.heap.size<=b):SlV [b] w' v xs:=
 h.ext hS (by simp) (λc hc=>.inr (by simp at hc;omega))
theorem _root_.Go.Eng.SlV.on {α:Type} [Z6 α] {X S:List Nat} {w w':World} {v:Value} {xs:List α} (h:SlV X w v xs) (hS:Stp S w w') (hs:∀ b∈S,b∈X):SlV X w' v xs:=h.ext hS hs (λ_ h=>.inl h)
def Z3Q (x:Sig):Int:=match Zgb x with|.int _ z=>z|_=>0
theorem Zc1 (x:Sig):Zgb x=.I (Z3Q x):=by
 have:∀ p∈Z3P,∃ z,p.2=Value.int .i64 z:=by
  intro p hp;simp only [Z3P,ZaN,J4,Xt,XM,YaX,YbD,Z22,XC,XN,XG,Xb,Xj,or_false,ent] at hp;rcases hp with rfl|rfl|rfl|rfl|rfl|rfl|rfl|rfl|rfl|rfl|rfl|rfl|rfl|rfl|rfl<;>exact ⟨_,rfl⟩
 unfold Z3Q Zgb Z3M;cases h:Z3P.find? (λp=>decide (p.1=x)) with
 | none=>rfl
 | some p=>
   obtain ⟨z,hz⟩:=this p (X6 h);simp only [hz]
def JD (k n:Int) (s:Str) (ts:List Int):Int:=
 if ts.length > 3 then 0 else if (0:Int)∈ts then 0 else if ts=[] then Z0Q k n s else if ¬ n=0 then 0
 else if k=9/\s=[]/\ts.getD 0 0=2/\ts.getD 1 0=ts.getD 2 0 then ts.getD 1 0
 else if k=6/\ts.getD 2 0=0 then Z23 s (ts.getD 0 0) (ts.getD 1 0) else Z3Q ⟨k,s,ts.getD 0 0,ts.getD 1 0,ts.getD 2 0⟩
def Zd:Nd->Int
 | .mk k n s l=>JD k n s (l.map Zd)
theorem Z0S (x:Nd):Zd x=JD x.kind x.num x.word (x.kids.map Zd):=by
 cases x;rw [Zd];rfl
def Ze3 (ts:List Int) (k:Nat):List Value:=[.I (if 0<k then ts.getD 0 0 else 0),.I (if 1<k then ts.getD 1 0 else 0),.I (if 2<k then ts.getD 2 0 else 0)]
theorem Zjk (ts:List Int) (k:Nat) (hk:k<3):(Ze3 ts k).set (0+k * 1) (.I (ts.getD k 0))=Ze3 ts (k+1):=by
 match k,hk with
 | 0,_=>rfl
 | 1,_=>rfl
 | 2,_=>rfl
theorem Zjl (ts:List Int) (k:Nat) (hk:k<3):(Ze3 ts (k+1))[0+k * 1]?=some (.I (ts.getD k 0)):=by
 match k,hk with
 | 0,_=>rfl
 | 1,_=>rfl
 | 2,_=>rfl
theorem Zjm (ts:List Int) (h:ts.length<=3):Ze3 ts ts.length=[.I (ts.getD 0 0),.I (ts.getD 1 0),.I (ts.getD 2 0)]:=by
 match ts,h with
 | [],_=>rfl
 | [a],_=>rfl
 | [a,b],_=>rfl
 | [a,b,c],_=>rfl
theorem Ztg (x:Nd):∀ (X XF:List Nat) (v:Value) (w),NdV X w v x->SlV XF w Z21 Ze->
 CC 230 #[v] w λr w'=>r=.I (Zd x)/\Stp [] w w':=by
 induction x using Nd.ind with
 | h k n s l ih=>
 intro X XF v w hx hF;generalize jf:Nd.mk k n s l=x at *;have ih':∀ y∈x.kids,∀ (X XF:List Nat) (v:Value) (w:World),NdV X w v y->SlV XF w Z21 Ze->CC 230 #[v] w λr w'=>r=.I (Zd y)/\Stp [] w w':=by
  subst jf;exact ih
 clear ih jf k n s l;have qd:=hx;obtain ⟨kv,rfl,hs⟩:=hx;have aU:=hs.max;rw [Z0S];have ai:(x.kids.map Zd).length=x.kids.length:=by simp
 have cD:∀ k (h:k<x.kids.length),(x.kids.map Zd).getD k 0=Zd x.kids[k]:=λk h=>by simp [List.getD,h]
 generalize cj:x.kids.map Zd=ts at *;refine cW1 80 Tryz.func230 ?_;refine W ?_;refine Z0 (Zq rfl) rfl ?_;rintro _ w1 ⟨b,rfl,hb,ac,hS⟩;replace ac:Blk w1 b _ (ndC x kv):=ac;replace hs:=hs.up hS;replace hF:=hF.up hS;have hlt:=ac.lt;refine W ?_;refine Z0 Z2 rfl ?_;rintro _ w2 ⟨q,rfl,hq,bO,ah⟩;replace bO:Blk w2 q _ (Ze3 ts 0):=bO;replace ac:=ac.up ah;replace hs:=hs.new ah q hq;replace hF:=hF.new ah q hq;replace hS:=hS.trans ah;have xV:w.heap.size<=q:=Xh (Xh hb (Nat.le_of_lt hlt)) hq;have uN:¬ b=q:=by omega
 (refine QP ?_ ?_<;>intro hc)
 refine WR ?_;refine .mk ⟨?_,hS⟩;unfold JD;rw [if_pos (by omega)];have iG:x.kids.length<=3:=by omega
 refine Z0h (σ:=Unit) (λ_=>[(1,pQ b),(3,pQ q)]) (λ_ w'=>Stp [q] w2 w'/\Blk w' q 350 [.I (ts.getD 0 0),.I (ts.getD 1 0),.I (ts.getD 2 0)]/\¬ (0:Int)∈ts) ?_ ?_;have ba:=hs;have oS:=hF;refine LP (σ:=Nat) (λk=>[(1,pQ b),(3,pQ q),(11,kv),(12,.I (x.kids.length:Int)),(13,.I k)]) (λk w'=>k<=x.kids.length/\Stp [q] w2 w'/\Blk w' q 350 (Ze3 ts k)/\¬ (0:Int)∈ts.take k) (λk=>x.kids.length - k) 0 ⟨Xp _,Stp.refl _ _,bO,by simp⟩ ?_;clear hs hF bO;rintro k w3 ⟨hk,am,bO,bg⟩;have hs:=ba.on am (by simp);have hF:=oS.on am (by simp);by_cases hlt:k<x.kids.length;have j8:k<3:=by omega
 have hg:=cD k hlt;have mT:=Zjk ts k j8;have fU:=Zjl ts k j8;rw [hg] at mT fU;obtain ⟨kv2,bq,ci⟩:=hs.nd hlt;refine QO ?_;apply Z8 (JI rfl rfl hs hlt ci) rfl;refine Z0 Z2 rfl ?_;rintro _ w4 ⟨b4,rfl,bz,bt,aI⟩;have uO:=bO.lt;replace bO:=bO.up aI;refine W ?_;refine SB (us:=ndC x.kids[k] kv2) (ZC bq) bt ?_;rintro _ w5 ⟨aD,mU⟩;have xW:¬ b4=q:=by omega
 replace bO:=bO.ext aD (by simp;omega);have kO:=aI.ow aD;replace bq:=bq.up kO;replace hF:=hF.up kO;refine W ?_;refine CL (ih' x.kids[k] (Xc hlt) _ _ _ _ ⟨kv2,rfl,bq⟩ hF) ?_;rintro _ w6 ⟨rfl,dp⟩;replace bO:=bO.up dp;refine W ?_;refine Z5 (Zb (u:=.I (Zd x.kids[k])) rfl rfl rfl rfl bO (by simp [Ze3];omega)) ?_;rintro _ w7 ⟨aR,bO⟩;rw [mT] at bO;have mV:=((am.trans kO.mn).trans dp.mn).trans aR;have cu:ts.take (k+1)=ts.take k++[Zd x.kids[k]]:=by
  rw [Xi (by omega)];congr 2;subst cj;simp
 refine QO ?_;apply Zjc rfl rfl (bO.cell fU) rfl
 (refine QP ?_ ?_<;>intro hc)
 refine WR ?_;have uP:Zd x.kids[k]=0:=hc;refine .mk ⟨?_,hS.ow mV⟩;unfold JD;rw [if_neg (by omega),if_pos];have:Zd x.kids[k]∈ts:=by
  subst cj;exact Yal (Xc hlt)
 rwa [uP] at this
 refine QL (k+1) ⟨hlt,mV,bO,?_⟩ (by omega);rw [cu,Xg];rintro (h|h);exact bg h;simp only [Xk] at h;exact hc h.symm;have eN:k=x.kids.length:=by omega
 subst eN;refine QO ?_;rw [<- ai,Zjm ts (by omega)] at bO;rw [<- ai,Xo] at bg;exact QT () ⟨am,bO,bg⟩;rintro _ w3 ⟨am,bO,bg⟩;replace ac:=ac.ext am (by simpa using uN);replace hF:=hF.on am (by simp);replace hs:=hs.on am (by simp);replace hS:=hS.ow am;unfold JD;rw [if_neg (by omega),if_neg bg];by_cases h0:x.kids.length=0;rw [if_pos (Xy.1 (by omega))];refine QO ?_;refine CL (Zjh [q] _ x _ ⟨kv,rfl,hs⟩ hF.any) ?_;rintro _ w4 ⟨rfl,aI⟩;refine RT ?_;exact ⟨rfl,hS.trans aI⟩;rw [if_neg (λh=>h0 (by rw [<- ai,h];rfl))];clear cD cj;generalize ts.getD 0 0=a at *;generalize ts.getD 1 0=bb at *;generalize ts.getD 2 0=c at *;repeat'(first|refine W1 ?_|omega|refine VG ?_ ?_<;>intro hg|refine VC ?_ ?_<;>intro hc)
 refine RU ?_;exact ⟨by rw [if_pos (by assumption)],hS⟩;all_goals rw [if_neg (by assumption)]
 all_goals first
  | (have h9 : x.kind = 9 /\ x.word = [] /\ a = 2 /\ bb = c := ⟨by assumption, by assumption, by assumption, by assumption⟩
     rw [if_pos h9];refine RU ?_;exact ⟨rfl,hS⟩)
  | rw [show (if x.kind = 9 /\ x.word = [] /\ a = 2 /\ bb = c then bb else if x.kind = 6 /\ c = 0 then Z23 x.word a bb else Z3Q ⟨x.kind, x.word, a, bb, c⟩) = if x.kind = 6 /\ c = 0 then Z23 x.word a bb else Z3Q ⟨x.kind, x.word, a, bb, c⟩ from if_neg (λh => by
     obtain ⟨h1,h2,h3,h4⟩:=h;first|omega|contradiction)]
 all_goals first
  | (have h6 : x.kind = 6 /\ c = 0 := ⟨by assumption, by assumption⟩
     rw [if_pos h6];refine CL (Ze2 x.word a bb c _) ?_;rintro _ w4 ⟨rfl,aI⟩;refine RT ?_;exact ⟨rfl,hS.trans aI⟩)
  | rw [show (if x.kind=6/\c=0 then Z23 x.word a bb else Z3Q ⟨x.kind,x.word,a,bb,c⟩)=Z3Q ⟨x.kind,x.word,a,bb,c⟩ from if_neg (λh=>by omega)]
 all_goals
  refine ZDr 9 [] [] [(1,0),(2,1),(3,0),(4,1),(5,1),(6,0),(0,2),(7,2),(8,0)] (λw1 ae=>?_);replace ac:=ac.up ae;replace bO:=bO.up ae;replace hS:=hS.trans ae;refine D ?_;apply Z20;exact rfl;apply Z2I (vs:=[(0,.I _),(1,str _),(2,ZbZ _ _ _)]);exact trivial;exact rfl;exact Z7G _ _ _ _ _;exact rfl;refine DC (Z7Z _) (λ_ _ h=>h.choose_spec.choose_spec.2.2.2) ?_;rintro _ w5 ⟨m,ll,rfl,hm,hp,aD⟩;have mW:=Zc1 ⟨x.kind,x.word,a,bb,c⟩;unfold Zgb at mW;rw [<- Zga hp Ze1] at mW;refine Za rfl trivial (ZoC (Z1R (a:=(⟨x.kind,x.word,a,bb,c⟩:Sig)) rfl rfl hm)) (λ_ _ h=>h.2 ▸ Stp.refl _ _) rfl ?_;rintro _ _ ⟨rfl,rfl⟩;rw [mW];refine D ?_;refine RT ?_;exact ⟨rfl,hS.trans aD⟩
theorem ZwA:∀ p∈Z3P,∃ z,p.2=Value.int .i64 z:=by
 intro p hp;simp only [Z3P,ZaN,J4,Xt,XM,YaX,YbD,Z22,XC,XN,XG,Xb,Xj,or_false,ent] at hp;rcases hp with rfl|rfl|rfl|rfl|rfl|rfl|rfl|rfl|rfl|rfl|rfl|rfl|rfl|rfl|rfl<;>exact ⟨_,rfl⟩
theorem Zgc {x:Sig} (h:¬ ∃ p∈Z3P,p.1=x):Z3Q x=0:=by
 unfold Z3Q Zgb Z3M;have:Z3P.find? (λp=>decide (p.1=x))=none:=by
  rw [Yas];intro p hp;simpa using λe=>h ⟨p,hp,e⟩
 rw [this]
def Z2D:List Str:=[[110,101,120,116],[112,114,101,118]]
def Z2E:List Str:=[[108,97,116,101,114],[101,97,114,108,105,101,114]]
theorem Ze4:Z1K [110,101,120,116,32,112,114,101,118]=Z2D:=by decide
theorem Ze5:Z1K [108,97,116,101,114,32,101,97,114,108,105,101,114]=Z2E:=by decide
theorem Zc2:Z1K [100,97,121,115,32,119,101,101,107,115,32,109,111,110,116,104,115,32,99,111,117,114,116,100,97,121,115]=J4:=by decide
theorem Z38 {s:Str} {l:List Str}:0<=idx (isS s) l↔s∈l:=by
 unfold idx;cases h:l.findIdx? (isS s) with
 | none=>
   rw [Yab] at h;constructor;intro h0;simp at h0;intro hm;have:=h s hm;simp at this
 | some i=>
   obtain ⟨hi,hp,_⟩:=X7.1 h;constructor;intro _;have:l[i]=s:=by simpa using hp
   rw [<- this];exact Xc _;intro _;simp
def Z72 (s:Str) (l:List Int):Int:=
 if 0<=idx (isS s) Z2D/\Z0m l [3]=true then 3 else if 0<=idx (isS s) Z2E/\Z0m l [3,3]=true then 3 else if s=[98,101,116,119,101,101,110]/\Z0m l [3,3]=true then 1 else 0
def Z4V (k n:Int) (s:Str) (ts:List Int):Int:=
 if ts=[] then Z0Q k n s else if ¬ n=0 then 0
 else if k=5 then (if s=[45]/\Z0m ts [1]=true\/s=[110,111,116]/\Z0m ts [2]=true then ts.getD 0 0 else 0)
 else if k=6 then ZaK s ts
 else if k=7\/k=8 then (if 0<=idx (isS s) J4/\Z0m ts [3,1]=true then 3 else 0)
 else if k=9 then (if s=[]/\ts.length=3/\Z0m ts [2,ts.getD 1 0,ts.getD 1 0]=true then ts.getD 1 0 else 0)
 else if k=10 then Z72 s ts else 0
theorem Zc3 {l m:List Int}:Z0m l m=true↔l=m/\∀ x∈l,x≠0:=by simp [Z0m]
theorem Zfg {l m:List Int} (h:¬ (l=m/\∀ x∈l,x≠0)):Z0m l m=false:=by simp [Z0m];simpa using h
theorem Zgd (k n:Int) (s:Str) (ts:List Int) (h0:¬ ts=[]) (hb:(0:Int)∈ts\/ts.length > 3):Z4V k n s ts=0:=by
 have bg:∀ m:List Int,m.length<=3->Z0m ts m=false:=λm hm=>Zfg (λ⟨h1,h2⟩=>by
  rcases hb with hb|hb
  exact h2 0 hb rfl;rw [h1] at hb;omega)
 unfold Z4V ZaK Z72;simp only [bg _ (show [(1:Int)].length<=3 by decide),bg _ (show [(2:Int)].length<=3 by decide),bg _ (show [(3:Int)].length<=3 by decide),bg [1,1] (by decide),bg [3,3] (by decide),bg [2,2] (by decide),bg [3,1] (by decide),bg [2,ts.getD 1 0,ts.getD 1 0] (by simp),if_neg h0];simp
theorem Zn1 (s:Str) (a b:Int) (ha:a≠0) (hb:b≠0) (hr:1<=a/\a<=3) (dm:1<=b/\b<=3):ZaK s [a,b]=Z23 s a b:=by
 unfold ZaK Z23;simp only [Z38,Zc3];have e:∀ c d:Int,([a,b]=[c,d]/\∀ x∈[a,b],x≠0)↔(a=c/\b=d):=λc d=>by simp [ha,hb]
 simp only [e];by_cases hA:s∈Z14;have hC:¬ s∈Z2k:=by
  simp only [Z14,Xb,Xj,or_false] at hA;rcases hA with rfl|rfl|rfl<;>decide
 have hL:¬ s∈Z0R:=by
  simp only [Z14,Xb,Xj,or_false] at hA;rcases hA with rfl|rfl|rfl<;>decide
 simp only [hA,hC,hL,true_and,false_and,if_false,if_true];by_cases h1:a=1/\b=1;rw [if_pos h1,if_pos ⟨by omega,by omega⟩];rw [if_neg h1,if_neg (λh=>by omega)];simp only [hA,false_and,if_false];by_cases hC:s∈Z2k;have hL:¬ s∈Z0R:=by
  simp only [Z2k,Xb,Xj,or_false] at hC;rcases hC with rfl|rfl|rfl|rfl|rfl|rfl<;>decide
 simp only [hC,hL,true_and,false_and,if_false,if_true];by_cases h1:a=1/\b=1\/a=3/\b=3;rw [if_pos h1,if_pos ⟨by omega,by omega⟩];rw [if_neg h1,if_neg (λh=>by omega)];simp only [hC,false_and,if_false];by_cases hL:s∈Z0R;simp only [hL,true_and,if_true];by_cases h1:a=2/\b=2;rw [if_pos h1,if_pos ⟨by omega,by omega⟩];rw [if_neg h1,if_neg (λh=>by omega)];simp only [hL,false_and,if_false]
def Zjn:List Sig:=Z3P.map (·.1)
def Ze6 (k:Int) (s:Str) (a b c:Int):Int:=
 if c=0 then
  if b=0 then (if k=5/\s=[45]/\a=1 then 1 else if k=5/\s=[110,111,116]/\a=2 then 2 else if k=10/\s∈Z2D/\a=3 then 3 else 0)
  else if a=3/\b=3/\k=10/\s∈Z2E then 3 else if a=3/\b=3/\k=10/\s=[98,101,116,119,101,101,110] then 1 else if a=3/\b=1/\(k=7\/k=8)/\s∈J4 then 3 else 0
 else 0
theorem Zjo:∀ x∈Zjn,Z3Q x=Ze6 x.kind x.s x.a x.b x.c:=by
 intro x hx;simp only [Zjn,Z3P,ZaN,J4,Xt,XM,YaX,YbD,Z22,XC,XN,XG,Xb,Xj,or_false,ent] at hx;rcases hx with rfl|rfl|rfl|rfl|rfl|rfl|rfl|rfl|rfl|rfl|rfl|rfl|rfl|rfl|rfl<;>decide
theorem Z7H (k:Int) (s:Str) (a b c:Int):Z3Q ⟨k,s,a,b,c⟩=Ze6 k s a b c:=by
 by_cases hx:(⟨k,s,a,b,c⟩:Sig)∈Zjn;exact Zjo _ hx;rw [Zgc (λ⟨p,hp,e⟩=>hx (e ▸ Yal hp))];unfold Ze6;symm;split;rename_i hc;subst hc;split;rename_i hb;subst hb;split;rename_i h;obtain ⟨rfl,rfl,rfl⟩:=h;exact absurd (by decide) hx;split;rename_i h;obtain ⟨rfl,rfl,rfl⟩:=h;exact absurd (by decide) hx;split;rename_i h;obtain ⟨rfl,h,rfl⟩:=h;simp only [Z2D,Xb,Xj,or_false] at h;rcases h with rfl|rfl<;>exact absurd (by decide) hx
 rfl;split;rename_i h;obtain ⟨rfl,rfl,rfl,h⟩:=h;simp only [Z2E,Xb,Xj,or_false] at h;rcases h with rfl|rfl<;>exact absurd (by decide) hx
 split;rename_i h;obtain ⟨rfl,rfl,rfl,rfl⟩:=h;exact absurd (by decide) hx;split;rename_i h;obtain ⟨rfl,rfl,h1,h⟩:=h;simp only [J4,Xb,Xj,or_false] at h;rcases h1 with rfl|rfl<;>rcases h with rfl|rfl|rfl|rfl<;>exact absurd (by decide) hx
 rfl;rfl
theorem ZwB {a x:Int} (ha:a≠0):Z0m [a] [x]=decide (a=x):=by simp [Z0m,ha]
theorem ZwC {a b x y:Int} (ha:a≠0) (hb:b≠0):Z0m [a,b] [x,y]=decide (a=x/\b=y):=by simp [Z0m,ha,hb]
theorem ZwD {a b c x y z:Int} (ha:a≠0) (hb:b≠0) (hc:c≠0):Z0m [a,b,c] [x,y,z]=decide (a=x/\b=y/\c=z):=by simp [Z0m,ha,hb,hc]
theorem JR {l m:List Int} (h:¬ l.length=m.length):Z0m l m=false:=Zfg (λh'=>h (by rw [h'.1]))
theorem Zjp (k n:Int) (s:Str) (ts:List Int) (hr:∀ t∈ts,0<=t/\t<=3):Z4V k n s ts=JD k n s ts:=by
 by_cases h0:ts=[]
 subst h0;simp [Z4V,JD];by_cases hb:(0:Int)∈ts\/ts.length > 3;rw [Zgd k n s ts h0 hb];unfold JD;rcases hb with hb|hb
 simp [hb];simp [show ts.length > 3 from hb];have hz:¬ (0:Int)∈ts:=λh=>hb (.inl h);have hl:¬ ts.length > 3:=λh=>hb (.inr h);unfold Z4V JD;rw [if_neg h0,if_neg hl,if_neg hz,if_neg h0];by_cases hn:¬ n=0;rw [if_pos hn,if_pos hn];rw [if_neg hn,if_neg hn]
 match ts,h0,hl with
 | [a], _, _=>
   have ha:a≠0:=λe=>hz (by simp [e])
   have cQ:=hr a (by simp);simp only [XB,Yan,List.getD_nil,Z7H,Z72,ZaK,Z38,ZwB ha,JR (show ¬ [a].length=[(1:Int),1].length by simp),JR (show ¬ [a].length=[(3:Int),3].length by simp),JR (show ¬ [a].length=[(2:Int),2].length by simp),JR (show ¬ [a].length=[(3:Int),1].length by simp),decide_eq_true_eq];have mc:Z23 s a 0=0:=by
    unfold Z23;have h1:¬ (a=0/\a=1):=λh=>ha h.1;have h2:¬ (a=0/\¬ a=2):=λh=>ha h.1;have h3:¬ (a=0/\a=2):=λh=>ha h.1;simp only [if_neg h1,if_neg h2,if_neg h3,ite_self]
   simp only [mc,Ze6,Xe,Xf,XQ,and_false,or_self,if_false]
   grind (splits:=40)
 | [a, b], _, _=>
   have ha:a≠0:=λe=>hz (by simp [e])
   have hb:b≠0:=λe=>hz (by simp [e])
   have cQ:=hr a (by simp);have me:=hr b (by simp);simp only [XB,Yan,List.getD_nil,Z7H,Z72,Zn1 s a b ha hb (by omega) (by omega),Z38,ZwC ha hb,JR (show ¬ [a,b].length=[(1:Int)].length by simp),JR (show ¬ [a,b].length=[(2:Int)].length by simp),JR (show ¬ [a,b].length=[(3:Int)].length by simp),decide_eq_true_eq];simp only [Ze6,Xe,Xf,XQ,and_false,or_self,if_false]
   grind (splits:=40)
 | [a, b, c], _, _=>
   have ha:a≠0:=λe=>hz (by simp [e])
   have hb:b≠0:=λe=>hz (by simp [e])
   have hc:c≠0:=λe=>hz (by simp [e])
   have cQ:=hr a (by simp);have me:=hr b (by simp);have xX:=hr c (by simp);simp only [XB,Yan,Z7H,Z72,ZaK,Z38,ZwD ha hb hc,JR (show ¬ [a,b,c].length=[(1:Int)].length by simp),JR (show ¬ [a,b,c].length=[(2:Int)].length by simp),JR (show ¬ [a,b,c].length=[(3:Int)].length by simp),JR (show ¬ [a,b,c].length=[(1:Int),1].length by simp),JR (show ¬ [a,b,c].length=[(3:Int),3].length by simp),JR (show ¬ [a,b,c].length=[(2:Int),2].length by simp),JR (show ¬ [a,b,c].length=[(3:Int),1].length by simp),decide_eq_true_eq];simp only [Ze6,Xe,Xf,XQ,and_false,or_self,if_false]
   grind (splits:=40)
 | _ :: _ :: _ :: _ :: _,_,hl=>exact absurd (by simp) hl
theorem Zc4 (k n:Int) (s:Str):0<=Z0Q k n s/\Z0Q k n s<=3:=by
 have h:0<=(ZR s).2.1/\(ZR s).2.1<=3:=by
  unfold ZR;dsimp only;split;simp;split<;>simp
 unfold Z0Q
 grind
theorem Zc5 (k n:Int) (s:Str) (ts:List Int) (hr:∀ t∈ts,0<=t/\t<=3):0<=JD k n s ts/\JD k n s ts<=3:=by
 unfold JD;split;omega;split;omega;split;exact Zc4 _ _ _;split;omega;have hg:∀ i,0<=ts.getD i 0/\ts.getD i 0<=3:=by
  intro i;by_cases hi:i<ts.length;have:=hr ts[i] (Xc hi);simpa [List.getD,hi] using this;simp [List.getD,YaU (YbA hi)]
 split;exact hg 1;split;unfold Z23;split;split<;>omega
 split;split<;>omega
 split;split<;>omega
 omega;rw [Z7H];unfold Ze6
 grind
theorem Z3R (x:Nd):0<=Zd x/\Zd x<=3:=by
 induction x using Nd.ind with
 | h k n s l ih=>
 rw [Z0S];refine Zc5 _ _ _ _ (λt ht=>?_);obtain ⟨y,hy,rfl⟩:=XH.1 ht;exact ih y hy
theorem Zfh (x:Nd):Zd x=Z4V x.kind x.num x.word (x.kids.map Zd):=by
 rw [Z0S,Zjp];intro t ht;obtain ⟨y,hy,rfl⟩:=XH.1 ht;exact Z3R y
def Zw:Nd->Nat
 | .mk k n s l=>1+(l.map Zw).foldl max 0
theorem Z0T (x:Nd):Zw x=1+(x.kids.map Zw).foldl max 0:=by
 cases x;rw [Zw];rfl
theorem Z5B (l:List Nat):∀ (m b:Nat),l.foldl max m<=b↔m<=b/\∀ x∈l,x<=b:=by
 induction l with
 | nil=>intro m b;simp
 | cons y r ih=>
   intro m b;rw [XX,ih];simp only [Xb,forall_eq_or_imp];constructor;rintro ⟨h1,h2⟩;exact ⟨by omega,by omega,h2⟩;rintro ⟨h1,h2,h3⟩;exact ⟨by omega,h3⟩
theorem Ze7 (m:Nat):∀ x:Nd,Z1f m x=decide (Zw x<=m):=by
 induction m with
 | zero=>
   intro x;rw [Z0T];simp [Z1f]
 | succ m ih=>
   intro x;rw [Z0T];have e:(1+(x.kids.map Zw).foldl max 0<=m+1)↔∀ y∈x.kids,Zw y<=m:=by
    rw [show (1+(x.kids.map Zw).foldl max 0<=m+1)↔(x.kids.map Zw).foldl max 0<=m by omega,Z5B];simp
   rw [Yad,decide_eq_true_iff,e];simp only [Z1f,XW];exact ⟨λh y hy=>by have:=h y hy;rw [ih] at this;simpa using this,λh y hy=>by rw [ih];simpa using h y hy⟩
theorem Zc6 {x y:Nd} (h:y∈x.kids):Zw y<Zw x:=by
 rw [Z0T x];have:=(Z5B (x.kids.map Zw) 0 ((x.kids.map Zw).foldl max 0)).1 (Xn _);have:=this.2 (Zw y) (Yal h);omega
theorem Zc7 (x:Nd):∀ (X:List Nat) (v:Value) (w),Zw x<=1000000->NdV X w v x->
 CC 184 #[v] w λr w'=>r=.I (Zw x:Int)/\Stp [] w w':=by
 induction x using Nd.ind with
 | h k n s l ih=>
 intro X v w hb hx;generalize jf:Nd.mk k n s l=x at *;have ih':∀ y∈x.kids,∀ (X:List Nat) (v:Value) (w:World),Zw y<=1000000->NdV X w v y->CC 184 #[v] w λr w'=>r=.I (Zw y:Int)/\Stp [] w w':=by
  subst jf;exact ih
 clear ih jf k n s l;obtain ⟨kv,rfl,hs⟩:=hx;have aU:=hs.max;refine cW1 22 Tryz.func184 ?_;refine W ?_;refine Z0 (Zq rfl) rfl ?_;rintro _ w1 ⟨b,rfl,mg,ac,hS⟩;replace ac:Blk w1 b _ (ndC x kv):=ac;replace hs:=hs.up hS;refine W ?_;have ba:=hs;have iH:=ac;refine LP (σ:=Nat) (λk=>[(1,pQ b),(3,.I ((((x.kids.take k).map Zw).foldl max 0:Nat):Int)),(4,.I k)]) (λk w'=>k<=x.kids.length/\Stp [] w1 w') (λk=>x.kids.length - k) 0 ⟨Xp _,Stp.refl _ _⟩ ?_;clear hs ac;rintro k w2 ⟨hk,ah⟩;have hs:=ba.up ah;have ac:=iH.up ah;by_cases hlt:k<x.kids.length;obtain ⟨kv2,bq,ci⟩:=hs.nd hlt;have uQ:=Zc6 (Xc hlt);refine QO ?_;apply Z8 (JI rfl rfl hs hlt ci) rfl;refine CM (ZN rfl) (ih' x.kids[k] (Xc hlt) X _ _ (by omega) ⟨kv2,rfl,bq⟩) ?_;rintro _ w3 ⟨rfl,am⟩;refine W ?_;refine Zs (k+1) ⟨rfl,?_,rfl,trivial⟩ ⟨hlt,ah.trans am⟩ (by omega);rw [Xi hlt,XR,Yax];show some _=some _;congr 2;simp only [Xt,XM,XX,List.foldl_nil];omega;have eN:k=x.kids.length:=by omega
 subst eN;have hn:=Z0T x;rw [Xo];refine QO ?_;refine WR ?_;refine .mk ⟨?_,hS.trans ah⟩;rw [hn];congr 1
theorem Zjq (X XF:List Nat) (v:Value) (x:Nd) (w) (hx:NdV X w v x) (hF:SlV XF w Z21 Ze) :
 CC 169 #[v] w λr w'=>r=.tuple #[.I (if Zw x<=12 then Zd x else 0),.I (if Zw x<=12 then (if Zd x=0 then 21 else 0) else 2)]/\Stp [] w w':=by
 obtain ⟨kv,rfl,hs⟩:=hx;refine cW1 13 Tryz.func169 ?_;refine W ?_;refine Z0 (Zq rfl) rfl ?_;rintro _ w1 ⟨b,rfl,mg,ac,hS⟩;replace ac:Blk w1 b _ (ndC x kv):=ac;replace hs:=hs.up hS;replace hF:=hF.up hS;refine W ?_;refine CM (Zf rfl rfl) (ZdU 12 X _ x 12 _ rfl (by omega) ⟨kv,rfl,hs⟩) ?_;rintro _ w2 ⟨rfl,ah⟩;replace hs:=hs.up ah;replace hF:=hF.up ah;replace ac:=ac.up ah;replace hS:=hS.trans ah;rw [Ze7];by_cases hn:Zw x<=12;rw [decide_eq_true hn,if_pos hn,if_pos hn];refine W ?_;refine CL (Ztg x X XF _ _ ⟨kv,rfl,hs⟩ hF) ?_;rintro _ w3 ⟨rfl,am⟩;replace hS:=hS.trans am
 (refine QP ?_ ?_<;>intro hc)
 refine RU ?_;exact ⟨by rw [if_neg hc],hS⟩;refine WR ?_;have h0:Zd x=0:=by omega
 exact .mk ⟨by rw [if_pos h0,h0],hS⟩;rw [decide_eq_false hn,if_neg hn,if_neg hn];refine RT ?_;exact ⟨rfl,hS⟩
theorem Ze8 (X:List Nat) (s:Str) (u:Value) (l:List Int) (w) (hl:SlV X w u l) :
 CC 246 #[str s,u] w λr w'=>r=.I (Z72 s l)/\Stp [] w w':=by
 refine cW2 33 Tryz.func246 ?_;refine W ?_;refine Z0 (Z1 (vs:=[(0,.I 3),(1,.I 3)]) rfl (Z04 _ _)) rfl ?_;rintro a3 w3 hN;have ha:=hN.slv (X:=[]) (ys:=[(3:Int),3]) (by simp) rfl rfl (by simp [maxLen]);have hS:=Z9.stp hN;clear hN;replace hl:=hl.up hS;refine CL (Z1L _ _ _ _ _ _ _ hl ha) ?_;rintro _ w4 ⟨rfl,aI⟩;replace hl:=hl.up aI;replace hS:=hS.trans aI;clear ha;unfold Z72;generalize Z0m l [3,3]=p3;refine W ?_;refine CM (ZN rfl) (Z1a [] [110,101,120,116,32,112,114,101,118] _ (by simp) (by decide)) ?_;rintro _ w5 ⟨hr,aD⟩;rw [Ze4] at hr;replace hl:=hl.up aD;replace hS:=hS.trans aD;refine W ?_;refine CL (Z0f [] _ _ s _ hr.slv0) ?_;rintro _ w6 ⟨rfl,dp⟩;replace hl:=hl.up dp;replace hS:=hS.trans dp;generalize idx (isS s) Z2D=i1;clear hr;have rest:∀ (w:World) (Q:Exit->Act->World->Prop),True:=λ_ _=>trivial;by_cases hi:0<=i1;all_goals (refine QO ?_)
 all_goals first
  | (refine Z0 (Z1 (vs := [(0, .I 3)]) rfl (Zr _)) rfl ?_
     rintro a1 w7 hN;have ha:=hN.slv (X:=[]) (ys:=[(3:Int)]) (by simp) rfl rfl (by simp [maxLen]);have aR:=Z9.stp hN;clear hN;replace hl:=hl.up aR;replace hS:=hS.trans aR;refine W ?_;refine CL (Z1L _ _ _ _ _ _ _ hl ha) ?_;rintro _ w8 ⟨rfl,cK⟩;replace hl:=hl.up cK;replace hS:=hS.trans cK;generalize Z0m l [3]=p1;cases p1)
  | generalize Z0m l [3]=p1
 all_goals (repeat'(first|refine W1 ?_|omega|refine VG ?_ ?_<;>intro hg|refine VC ?_ ?_<;>intro hc))
 all_goals first
  | (refine RU ?_
     exact ⟨by simp [hi],hS⟩)
  | (refine CM (ZN rfl) (Z1a [] [108, 97, 116, 101, 114, 32, 101, 97, 114, 108, 105, 101, 114] _ (by simp) (by decide)) ?_
     rintro _ w9 ⟨hr,gC⟩;rw [Ze5] at hr;replace hl:=hl.up gC;replace hS:=hS.trans gC;refine W ?_;refine CL (Z0f [] _ _ s _ hr.slv0) ?_;rintro _ w10 ⟨rfl,eu⟩;replace hS:=hS.trans eu;generalize idx (isS s) Z2E=i2;clear hr)
 all_goals by_cases cg:0<=i2
 all_goals cases p3
 all_goals by_cases hs:s=[98,101,116,119,101,101,110]
 all_goals (repeat'(first|refine W1 ?_|omega|refine VG ?_ ?_<;>intro hg|refine VC ?_ ?_<;>intro hc))
 all_goals try contradiction
 all_goals (refine WR ?_)
 all_goals exact .mk ⟨by simp [hi,cg,hs],hS⟩
def okN:Nd->Bool
 | .mk k n s l=>decide (l.length<=1000) && (l.map okN).all id
theorem Zfi (x:Nd):okN x=true↔x.kids.length<=1000/\∀ y∈x.kids,okN y=true:=by
 cases x;rw [okN];simp [Nd.kids]
abbrev ndL (k n:Int) (s:Str) (kv:Value):List Value:=[.I k,.I n,str s,kv]
theorem Zge (x:Nd):∀ (X:List Nat) (v:Value) (w),okN x=true->NdV X w v x->
 CC 185 #[v] w λr w'=>r=.I (Zd x)/\Stp [] w w':=by
 induction x using Nd.ind with
 | h k n s l ih=>
 intro X v w aP hx;obtain ⟨bG,dg⟩:=(Zfi _).1 aP;replace bG:l.length<=1000:=bG;replace dg:∀ y∈l,okN y=true:=dg;obtain ⟨kv,rfl,hs⟩:=hx;replace hs:SlV X w kv l:=hs;rw [Zfh];show Calls _ _ _ _ (Ret λr w'=>r=.I (Z4V k n s (l.map Zd))/\Stp [] w w');refine cW1 104 Tryz.func185 ?_;refine W ?_;refine Z0 (Zq rfl) rfl ?_;rintro _ w1 ⟨b,rfl,mg,ac,hS⟩;replace ac:Blk w1 b _ (ndL k n s kv):=ac;replace hs:=hs.up hS
 (refine QP ?_ ?_<;>intro hc)
 refine CL (ZdX X _ (.mk k n s l) _ ⟨kv,rfl,hs⟩) ?_;rintro _ w2 ⟨rfl,ah⟩;refine W ?_;refine WR ?_;have cV:l=[]:=Xy.1 (by omega);subst cV;exact .mk ⟨by simp [Z4V];rfl,hS.trans ah⟩;have aS:¬ l.map Zd=[]:=by
  intro h;have:=congrArg List.length h;simp at this;subst this;simp at hc
 have ai:(l.map Zd).length=l.length:=by simp
 have cD:∀ i (h:i<l.length) (h':i<(l.map Zd).length),(l.map Zd)[i]=Zd l[i]:=by intro i h h';simp
 generalize cj:l.map Zd=ts at *;refine Z0h (σ:=Value) (λu=>[(1,pQ b),(3,u)]) (λu w'=>SlV [] w' u ts/\Stp [] w1 w') ?_ ?_;have ba:=hs;have iH:=ac;have eP:w1.heap.size<=w1.heap.size:=Xn _;refine LP (σ:=Nat×Value) (λq=>[(1,pQ b),(3,q.2),(4,.I (q.1:Int))]) (λq w'=>q.1<=l.length/\Row [] w' w1.heap.size 3 q.2 (ts.take q.1)/\Stp [] w1 w') (λq=>l.length - q.1) (0,.N) ⟨Xp _,Row.nil,Stp.refl _ _⟩ ?_;clear hs ac;rintro ⟨j,u⟩ w2 ⟨hj,ab,ah⟩;dsimp only at hj ab ⊢;have hs:=ba.up ah;have ac:=iH.up ah;by_cases hlt:j<l.length;obtain ⟨kv2,bq,ci⟩:=hs.nd hlt;refine QO ?_;apply Z8 (JI rfl rfl hs hlt ci) rfl;refine CL (ih l[j] (Xc hlt) X _ _ (dg _ (Xc hlt)) ⟨kv2,rfl,bq⟩) ?_;rintro _ w3 ⟨rfl,am⟩;replace ab:=ab.up am;replace ah:=ah.trans am;refine W ?_;refine Z0 (Z1 (vs:=[(0,.I (Zd l[j]))]) rfl (Zr _)) rfl ?_;rintro bv w4 hN;have an:SlV (ob u++[]) w4 bv [Zd l[j]]:=hN.slv (λb hb=>(ab.ob_le b (by simpa using hb)).2) rfl rfl (by simp [maxLen]);have aI:=Z9.stp hN;clear hN;replace ab:=ab.up aI;replace ah:=ah.trans aI;have aX:=ah.size;have eO:(ts.take j).length<=1000:=by rw [Xx];omega
 refine Z0 (ZQ (X:=[]) (base:=w1.heap.size) rfl (by decide) rfl rfl ab an (by simp only [Xe,Xf];omega) (by simp only [Xe,Xf,maxLen];omega) aX) rfl ?_;rintro u' w5 ⟨aC,aD,_⟩;refine W ?_;refine QL (j+1,u') ⟨by dsimp only;omega,?_,ah.own aD (λc hc=>.inr (ab.ob_le c hc).1)⟩ (by dsimp only;omega);dsimp only;rw [Xi (by omega),cD j hlt];exact aC;have du:j=l.length:=by omega
 subst du;rw [<- ai,Xo] at ab;refine QO ?_;exact QT u ⟨ab.slv0,ah⟩;rintro u w2 ⟨hu,ah⟩;replace ac:=ac.up ah;replace hS:=hS.trans ah;have mX:1<=ts.length:=by
  cases ts with
  | nil=>exact absurd rfl aS
  | cons=>simp
 clear cD cj hs;have h0:∀ (h:0<ts.length),ts.getD 0 0=ts[0]:=λh=>by simp [List.getD,h]
 have h1:∀ (h:1<ts.length),ts.getD 1 0=ts[1]:=λh=>by simp [List.getD,h]
 unfold Z4V;rw [if_neg aS];refine W ?_;by_cases hn:¬ n=0;rw [if_pos hn];refine RT ?_;exact ⟨rfl,hS⟩;rw [if_neg hn];by_cases k5:k=5;subst k5;rw [if_pos rfl];have cV:0<ts.length:=by omega
 by_cases hm:s=[45]\/s=[110,111,116]
 have fin:∀ (z:Int) (p:Bool),(s=[45]/\z=1\/s=[110,111,116]/\z=2)->Z0m ts [z]=p->(if s=[45]/\Z0m ts [1]=true\/s=[110,111,116]/\Z0m ts [2]=true then ts.getD 0 0 else 0)=if p then ts.getD 0 0 else 0:=by
  rintro z p (⟨rfl,rfl⟩|⟨rfl,rfl⟩) hp<;>simp [hp]
 rcases hm with rfl|rfl
 . refine QO ?_
   refine Z0 (Z1 (vs:=[(0,.I 1)]) rfl (Zr _)) rfl ?_;rintro a1 w7 hN;have ha:=hN.slv (X:=[]) (ys:=[(1:Int)]) (by simp) rfl rfl (by simp [maxLen]);have aR:=Z9.stp hN;clear hN;replace hu:=hu.up aR;replace ac:=ac.up aR;replace hS:=hS.trans aR;refine W ?_;refine CL (Z1L _ _ _ _ _ _ _ hu ha) ?_;rintro _ w8 ⟨rfl,cK⟩;replace hu:=hu.up cK;replace ac:=ac.up cK;replace hS:=hS.trans cK;rw [fin 1 _ (.inl ⟨rfl,rfl⟩) rfl];cases Z0m ts [1] with
   | true=>
     refine QO ?_;refine WR ?_;refine .mk ⟨?_,hS⟩;rw [if_pos rfl,h0 mX]
   | false=>
     refine RT ?_;exact ⟨rfl,hS⟩
 . refine QO ?_
   refine Z0 (Z1 (vs:=[(0,.I 2)]) rfl (Zr _)) rfl ?_;rintro a1 w7 hN;have ha:=hN.slv (X:=[]) (ys:=[(2:Int)]) (by simp) rfl rfl (by simp [maxLen]);have aR:=Z9.stp hN;clear hN;replace hu:=hu.up aR;replace ac:=ac.up aR;replace hS:=hS.trans aR;refine W ?_;refine CL (Z1L _ _ _ _ _ _ _ hu ha) ?_;rintro _ w8 ⟨rfl,cK⟩;replace hu:=hu.up cK;replace hS:=hS.trans cK;rw [fin 2 _ (.inr ⟨rfl,rfl⟩) rfl];cases Z0m ts [2] with
   | true=>
     refine QO ?_;refine WR ?_;refine .mk ⟨?_,hS⟩;rw [if_pos rfl,h0 mX]
   | false=>
     refine RT ?_;exact ⟨rfl,hS⟩
 . have gP:¬ s=[45]:=λh=>hm (.inl h)
   have eG:¬ s=[110,111,116]:=λh=>hm (.inr h);rw [if_neg (by rintro (⟨h,_⟩|⟨h,_⟩)<;>contradiction)];repeat'(first|refine W1 ?_|omega|refine VG ?_ ?_<;>intro hg|refine VC ?_ ?_<;>intro hc)
   all_goals try contradiction
   refine RU ?_;exact ⟨rfl,hS⟩
 rw [if_neg k5];by_cases k6:k=6;subst k6;rw [if_pos rfl];refine QO ?_;refine CL (ZaL [] s u ts _ hu) ?_;rintro _ w3 ⟨rfl,am⟩;refine RT ?_;exact ⟨rfl,hS.trans am⟩;rw [if_neg k6];by_cases k78:k=7\/k=8
 . rw [if_pos k78]
   have n9:¬ k=9:=by omega
   have n10:¬ k=10:=by omega
   (refine QP ?_ ?_<;>intro hc)
   all_goals
    refine ZDr 10 [] [] [(1,0),(2,1),(0,2),(3,2),(4,0),(5,0),(6,0),(7,2),(8,2),(9,0)] (λw1 ae=>?_);replace hu:=hu.up ae;replace ac:=ac.up ae;replace hS:=hS.trans ae;refine D ?_;refine Za rfl trivial (Z4 rfl (ZN rfl) (Z1a [] [100,97,121,115,32,119,101,101,107,115,32,109,111,110,116,104,115,32,99,111,117,114,116,100,97,121,115] _ (by simp) (by decide))) (λ_ _ h=>h.2) rfl ?_;rintro _ w5 ⟨hr,aD⟩;rw [Zc2] at hr;replace hu:=hu.up aD;replace hS:=hS.trans aD;refine DC (Z0f [] _ _ s _ hr.slv0) (λ_ _ h=>h.2) ?_;rintro _ w6 ⟨rfl,dp⟩;replace hu:=hu.up dp;replace hS:=hS.trans dp;generalize idx (isS s) J4=i1;by_cases hi:0<=i1;refine QD ?_;refine Za rfl rfl (Z1 (vs:=[(0,.I 3),(1,.I 1)]) rfl (Z04 _ _)) (λ_ _ h=>Z9.stp h) rfl ?_;rintro a1 w7 hN;have ha:=hN.slv (X:=[]) (ys:=[(3:Int),1]) (by simp) rfl rfl (by simp [maxLen]);have aR:=Z9.stp hN;clear hN;replace hu:=hu.up aR;replace hS:=hS.trans aR;refine DC (Z1L _ _ _ _ _ _ _ hu ha) (λ_ _ h=>h.2) ?_;rintro _ w8 ⟨rfl,cK⟩;replace hS:=hS.trans cK;generalize Z0m ts [3,1]=p;cases p;refine D ?_;refine RT ?_;exact ⟨by simp,hS⟩;refine D ?_;refine RT ?_;exact ⟨by simp [hi],hS⟩;refine QD ?_;refine RT ?_;exact ⟨by simp [hi],hS⟩
 rw [if_neg k78];by_cases k9:k=9;subst k9;rw [if_pos rfl];refine QO ?_;refine ZDr 19 [] [] [(0,0),(1,1),(2,0),(3,0),(4,0),(5,0),(6,0),(7,0),(8,0),(9,0),(10,0),(11,0),(12,1),(13,0),(14,0),(15,1),(16,2),(17,2),(18,0)] (λw1 ae=>?_);replace hu:=hu.up ae;replace ac:=ac.up ae;replace hS:=hS.trans ae;have oT:=hu.max;by_cases hs:s=[]
 subst hs;by_cases h3:ts.length=3;have ft:1<ts.length:=by omega
 have kH:=h1 ft;refine QD ?_;refine Za rfl rfl (Z1 (vs:=[(0,.I 2),(1,.I _),(2,.I _)]) rfl (Zji _ _ _)) (λ_ _ h=>Z9.stp h) rfl ?_;rintro a1 w7 hN;have ha:=hN.slv (X:=[]) (ys:=[(2:Int),ts[1],ts[1]]) (by simp) rfl rfl (by simp [maxLen]);have aR:=Z9.stp hN;clear hN;replace hu:=hu.up aR;replace hS:=hS.trans aR;refine DC (Z1L _ _ _ _ _ _ _ hu ha) (λ_ _ h=>h.2) ?_;rintro _ w8 ⟨rfl,cK⟩;replace hu:=hu.up cK;replace hS:=hS.trans cK;rw [kH];cases hp:Z0m ts [2,ts[1],ts[1]];refine D ?_;refine RT ?_;exact ⟨by simp,hS⟩;refine D ?_;refine RT ?_;exact ⟨by simp [h3],hS⟩;refine QD ?_;refine RT ?_;exact ⟨by simp [h3],hS⟩
 . repeat'(first|refine D1 ?_|omega|refine Zk rfl rfl rfl rfl (λhg=>?_) (λhg=>?_)|(refine Zi rfl rfl rfl rfl (λhg=>?_) (λhg=>?_)<;>refine D1 ?_)|fail)
   all_goals try contradiction
   refine RT ?_;exact ⟨by simp [hs],hS⟩
 rw [if_neg k9];by_cases k10:k=10;subst k10;rw [if_pos rfl];refine QO ?_;refine CL (Ze8 [] s u ts _ hu) ?_;rintro _ w3 ⟨rfl,am⟩;refine RT ?_;exact ⟨rfl,hS.trans am⟩;rw [if_neg k10];refine RT ?_;exact ⟨rfl,hS⟩
end Go.Proofs.YtipfkbkkndacjaaGreatDoor
