/-
Contracts and plain laws, merged out of own texts.
-/
import Derived.WalkKit
import Derived.WalkSpells
import Derived.WalkLawsBesides
import Derived.Shelf.Abstract
import Derived.Orders
import Derived.Test.YtipfkbkkndacjaaGreatDoorProg
import Derived.Laws.StructEq
import Derived.Laws.Small
import Derived.MapKept
import Derived.ChangeKeysEq
set_option linter.unusedVariables false
set_option linter.unusedSimpArgs false
set_option maxHeartbeats 4000000
set_option maxRecDepth 20000
namespace Go
abbrev Xa:=@Nat.lt_of_lt_of_le
abbrev Xb:=@List.mem_cons
abbrev Xc:=@List.length_append
abbrev Xd:=@List.getElem_mem
abbrev Xe:=@List.length_cons
abbrev Xf:=@List.mem_append
abbrev Xg:=@List.length_nil
abbrev Xh:=@Nat.le_trans
abbrev Xi:=@List.mem_singleton
abbrev Xj:=@List.not_mem_nil
abbrev Xk:=@List.take_succ_eq_append_getElem
abbrev Xl:=@Array.getElem?_eq_some_iff
abbrev Xm:=@Bool.and_eq_true
abbrev Xn:=@Nat.le_refl
abbrev Xo:=@Nat.mul_le_mul_right
abbrev Xp:=@List.take_length
abbrev Xq:=@Nat.zero_le
abbrev Xr:=@List.getElem_of_mem
abbrev Xs:=@Nat.not_lt_zero
abbrev Xt:=@List.length_map
abbrev Xu:=@List.getElem?_eq_some_iff
abbrev Xv:=@List.getD_eq_getElem?_getD
abbrev Xw:=@List.length_eq_zero_iff
abbrev Xx:=@List.length_take
abbrev Xy:=@List.append_assoc
abbrev Xz:=@List.map_cons
abbrev XA:=@Nat.sub_lt_sub_left
abbrev XB:=@Array.getD_eq_getD_getElem?
abbrev XC:=@List.append_nil
abbrev XD:=@List.getElem?_eq_getElem
abbrev XE:=@Nat.lt_succ_self
abbrev XG:=@List.mem_map
abbrev XH:=@Option.some.injEq
abbrev XI:=@List.mem_cons_of_mem
abbrev XJ:=@List.nil_append
abbrev XK:=@List.take_append_drop
abbrev XL:=@List.take_of_length_le
abbrev XM:=@Nat.zero_add
abbrev XN:=@Nat.eq_of_beq_eq_true
abbrev XO:=@List.pairwise_cons
abbrev XP:=@List.map_append
abbrev XQ:=@Int.le_refl
abbrev XR:=@Option.bind_some
abbrev XS:=@Bool.false_eq_true
abbrev XT:=@Option.some.inj
abbrev XU:=@List.map_nil
abbrev XV:=@List.cons_append
abbrev XW:=@Array.getElem?_append_left
abbrev XX:=@Nat.le_of_ble_eq_true
abbrev XY:=@Option.bind_eq_some_iff
abbrev XZ:=@List.getD_cons_zero
abbrev X0:=@List.all_eq_true
abbrev X1:=@List.length_filter_le
abbrev X2:=@List.foldl_cons
abbrev X3:=@List.getElem?_append_left
abbrev X4:=@List.getElem_append_right
abbrev X5:=@List.mem_of_find?_eq_some
abbrev X6:=@List.drop_eq_getElem_cons
abbrev X7:=@Bool.eq_iff_iff
abbrev X8:=@List.length_set
abbrev X9:=@List.findIdx?_eq_some_iff_getElem
abbrev Yaa:=@List.getElem_append_left
abbrev Yab:=@List.length_pos_iff
abbrev Yac:=@Nat.succ_mul
abbrev Yad:=@List.findIdx?_eq_none_iff
abbrev Yae:=@List.eq_nil_or_concat
abbrev Yaf:=@List.concat_eq_append
abbrev Yag:=@Nat.min_eq_left
abbrev Yah:=@List.getElem?_take
abbrev Yai:=@List.pairwise_append
abbrev Yaj:=@List.flatten_cons
abbrev Yak:=@List.getElem?_append_right
abbrev Yal:=@Array.length_toList
abbrev Yam:=@List.mem_map_of_mem
abbrev Yan:=@List.flatMap_append
abbrev Yao:=@List.getD_cons_succ
abbrev Yap:=@List.pairwise_iff_getElem
abbrev Yaq:=@List.length_drop
abbrev Yar:=@List.find?_eq_none
abbrev Yas:=@List.find?_eq_some_iff_getElem
abbrev Yat:=@Nat.add_assoc
abbrev Yau:=@List.mem_of_mem_take
abbrev Yav:=@Prod.mk.inj
abbrev Yaw:=@List.size_toArray
abbrev Yax:=@Bool.or_eq_true
abbrev Yay:=@Nat.lt_or_ge
abbrev Yaz:=@Array.getElem?_eq_none
abbrev YaA:=@List.drop_eq_nil_of_le
abbrev YaB:=@List.take_append
abbrev YaC:=@Option.getD_some
abbrev YaD:=@List.ext_getElem
abbrev YaE:=@List.take_take
abbrev YaF:=@List.Perm.refl
abbrev YaG:=@Bool.beq_eq_decide_eq
abbrev YaH:=@List.dropLast_eq_take
abbrev YaI:=@List.foldl_append
abbrev YaJ:=@List.mem_of_mem_drop
abbrev YaK:=@Array.getElem?_setIfInBounds_ne
abbrev YaL:=@List.getElem_set_ne
abbrev YaM:=@List.getElem?_cons_succ
abbrev YaN:=@List.pairwise_singleton
abbrev YaO:=@List.any_eq_true
abbrev YaP:=@List.eq_nil_of_length_eq_zero
abbrev YaQ:=@Nat.mul_one
abbrev YaR:=@Int.emod_lt_of_pos
abbrev YaS:=@List.mem_cons_self
abbrev YaT:=@List.filter_append
abbrev YaU:=@List.cons.inj
abbrev YaV:=@List.getElem?_eq_none
abbrev YaW:=@Array.getElem?_modify
abbrev YaX:=@Array.getElem?_toList
abbrev YaY:=@List.flatMap_cons
abbrev YaZ:=@Bool.eq_false_iff
abbrev Ya0:=@List.drop_length
abbrev Ya1:=@Array.getElem?_eq_getElem
abbrev Ya2:=@List.take_succ_cons
abbrev Ya3:=@Int.toNat_of_nonneg
abbrev Ya4:=@List.replicate_succ
abbrev Ya5:=@Array.setIfInBounds_comm
abbrev Ya6:=@List.all_cons
abbrev Ya7:=@Bool.or_false
abbrev Ya8:=@Int.emod_nonneg
abbrev Ya9:=@Option.map_some
abbrev Yba:=@List.findIdx?_cons
abbrev Ybb:=@List.getElem?_replicate
abbrev Ybc:=@Nat.mul_comm
abbrev Ybd:=@List.getElem_cons_zero
abbrev Ybe:=@List.length_eq_one_iff
abbrev Ybf:=@List.append_eq_nil_iff
abbrev Ybg:=@Nat.mul_le_mul
abbrev Ybh:=@List.getElem_set_self
abbrev Ybi:=@List.length_mergeSort
abbrev Ybj:=@List.flatMap_def
abbrev Ybk:=@Bool.and_true
abbrev Ybl:=@Nat.add_le_add_right
abbrev Ybm:=@Nat.div_add_mod
abbrev Ybn:=@List.cons.injEq
abbrev Ybo:=@List.find?_some
abbrev Ybp:=@Int.natCast_add
abbrev Ybq:=@List.takeWhile_cons
abbrev Ybr:=@Nat.add_zero
abbrev Ybs:=@Nat.pow_succ
abbrev Ybt:=@List.drop_take
abbrev Ybu:=@Nat.add_sub_cancel
abbrev Ybv:=@List.mem_range
abbrev Ybw:=@Int.emod_eq_of_lt
abbrev Ybx:=@Int.toNat_natCast
abbrev Yby:=@List.getElem?_map
abbrev Ybz:=@Bool.false_or
abbrev YbA:=@Nat.le_of_not_lt
abbrev YbB:=@Nat.min_eq_right
abbrev YbC:=@List.map_toArray
abbrev YbD:=@List.flatMap_nil
abbrev YbE:=@List.mem_flatMap
abbrev YbF:=@List.filter_cons
abbrev YbG:=@Nat.mod_lt
abbrev YbH:=@List.map_map
abbrev YbI:=@List.set_append
abbrev YbJ:=@List.mem_filter
abbrev YbK:=@List.take_left'
abbrev YbL:=@List.drop_zero
abbrev YbM:=@List.take_zero
abbrev YbN:=@Bool.and_false
end Go
namespace Go.Eng
open Go Go.RowKit Go.Proofs
abbrev Env:=List (Nat×Value)
def look:Env->Nat->Option Value
 | [],_=>none
 | (k,v) :: r,t=>bif Nat.beq k t then some v else look r t
def ev (e:Env):Operand->Option Value
 | .tmp t=>look e t
 | .const v=>some v
 | .global g=>some (.pointer (some ⟨g,0,none⟩))
 | .func f=>some (.func (.func f) #[] #[])
structure Has (n:Nat) (e:Env) (a:Act):Prop where
 defers:a.defers=[]
 size:a.tmps.size=n
 vals:∀ t v,look e t=some v->a.tmps.getD t undef=v
section basics
variable {n:Nat} {e:Env} {a:Act}
theorem Has.ev {x:Operand} {v:Value} (h:Has n e a) (hx:ev e x=some v):a.eval x=v:=by
 cases x with
 | tmp t=>exact h.vals t v hx
 | const c=>simpa [Eng.ev,Act.eval] using hx
 | global g=>simpa [Eng.ev,Act.eval] using hx
 | func f=>simpa [Eng.ev,Act.eval] using hx
theorem JZ (d:Nat) (v:Value) (e:Env) (t:Nat):look ((d,v) :: e) t=if d=t then some v else look e t:=by
 simp only [look];by_cases h:d=t;subst h;simp
 . have:Nat.beq d t=false:=by
    cases hb:Nat.beq d t with
    | false=>rfl
    | true=>exact absurd (XN hb) h
   simp [this,h]
theorem Has.put {d:Nat} {v:Value} (h:Has n e a) (hd:Nat.blt d n=true):Has n ((d,v) :: e) (a.put (some d) v):=by
 have hlt:d<a.tmps.size:=by rw [h.size];exact XX hd
 refine ⟨h.defers,by simp [Act.put,h.size],λt u hu=>?_⟩;rw [JZ] at hu;simp only [Act.put];by_cases lQ:d=t;subst lQ;simp at hu;subst hu;simp [hlt];rw [if_neg lQ] at hu;have:=h.vals t u hu;simpa [YaK lQ] using this
theorem Has.weak {e':Env} (h:Has n e a) (hs:∀ t v,look e' t=some v->look e t=some v):Has n e' a:=
 ⟨h.defers,h.size,λt v hv=>h.vals t v (hs t v hv)⟩
def Sub:Env->Env->Prop
 | [],_=>True
 | (k,v) :: r,e=>look e k=some v/\Sub r e
theorem Sub.look {e' e:Env} (h:Sub e' e):∀ t v,Eng.look e' t=some v->Eng.look e t=some v:=by
 induction e' with
 | nil=>intro t v hv;simp [Eng.look] at hv
 | cons p r ih=>
   intro t v hv;obtain ⟨d,u⟩:=p;rw [JZ] at hv;by_cases hd:d=t;subst hd;simp at hv;subst hv;exact h.1;rw [if_neg hd] at hv;exact ih h.2 t v hv
theorem Has.sub {e':Env} (h:Has n e a) (hs:Sub e' e):Has n e' a:=h.weak hs.look
end basics
section judge
variable (P:Program) (n:Nat)
structure WQ (n:Nat) (Q:Exit->Act->World->Prop) (x:Exit) (e:Env) (w:World):Prop where
 h:∀ a,Has n e a->Q x a w
structure WC (c:Code) (Q:Exit->Act->World->Prop) (e:Env) (w:World):Prop where
 h:∀ a,Has n e a->c.wp P Q a w
structure WL (ops:Array Oper) (Q:Exit->Act->World->Prop) (l:List Oper) (e:Env) (w:World):Prop where
 h:∀ a,Has n e a->wpList P ops Q l a w
end judge
section rules
variable {P:Program} {n:Nat} {Q:Exit->Act->World->Prop} {e:Env} {w:World} {ops:Array Oper} {rest:List Oper}
theorem Z7J {x y:Code} (h:WC P n x (Exit.then (λa w=>y.wp P Q a w) Q) e w):WC P n (x.seq y) Q e w:=
 ⟨λa ha=>wp_seq (h.h a ha)⟩
theorem Z4h {y:Code} (h:WC P n y Q e w):WQ n (Exit.then (λa w=>y.wp P Q a w) Q) .normal e w:=⟨λa ha=>h.h a ha⟩
theorem Z1m {N:Act->World->Prop} (h:WQ n Q .ret e w):WQ n (Exit.then N Q) .ret e w:=⟨λa ha=>h.h a ha⟩
theorem Zz {N:Act->World->Prop} {i:Nat} (h:WQ n Q (.exit i) e w):WQ n (Exit.then N Q) (.exit i) e w:=⟨λa ha=>h.h a ha⟩
theorem Jm {i:Nat} (h:WQ n Q .normal e w):WQ n (Exit.inBlock i Q) .normal e w:=⟨λa ha=>h.h a ha⟩
theorem Zae {i:Nat} (h:WQ n Q .ret e w):WQ n (Exit.inBlock i Q) .ret e w:=⟨λa ha=>h.h a ha⟩
theorem Zw {i:Nat} (h:WQ n Q .normal e w):WQ n (Exit.inBlock i Q) (.exit i) e w:=by
 refine ⟨λa ha=>?_⟩;simp only [Exit.inBlock,if_true];exact h.h a ha
theorem ZJ {i j:Nat} (dC:Nat.beq i j=false) (h:WQ n Q (.exit i) e w):WQ n (Exit.inBlock j Q) (.exit i) e w:=by
 refine ⟨λa ha=>?_⟩;simp only [Exit.inBlock];rw [if_neg (Nat.ne_of_beq_eq_false dC)];exact h.h a ha
theorem Z7v (h:WQ n Q .normal e w):WC P n .skip Q e w:=⟨λa ha=>wp_skip (h.h a ha)⟩
theorem Z7K (h:WQ n Q .ret e w):WC P n .ret Q e w:=⟨λa ha=>wp_ret (h.h a ha)⟩
theorem Zli {i:Nat} (h:WQ n Q (.exit i) e w):WC P n (.exit i) Q e w:=⟨λa ha=>wp_exit (h.h a ha)⟩
theorem Zhx {i:Nat} {c:Code} (h:WC P n c (Exit.inBlock i Q) e w):WC P n (.block i c) Q e w:=⟨λa ha=>wp_block (h.h a ha)⟩
theorem Z1D {c:Operand} {x y:Code} (hc:ev e c=some (.bool true)) (h:WC P n x Q e w):WC P n (.cond c x y) Q e w:=
 ⟨λa ha=>wp_cond_true (ha.ev hc) (h.h a ha)⟩
theorem Z1i {c:Operand} {x y:Code} (hc:ev e c=some (.bool false)) (h:WC P n y Q e w):WC P n (.cond c x y) Q e w:=
 ⟨λa ha=>wp_cond_false (ha.ev hc) (h.h a ha)⟩
theorem Zaf {c:Operand} {x y:Code} {p:Prop} [Decidable p] (hc:ev e c=some (.bool (decide p))) (ht:p->WC P n x Q e w) (hf:¬ p->WC P n y Q e w):WC P n (.cond c x y) Q e w:=
 ⟨λa ha=>wp_cond_split (ha.ev hc) (λh=>(ht (of_decide_eq_true h)).h a ha) (λh=>(hf (of_decide_eq_false h)).h a ha)⟩
theorem Zbt {c:Operand} {x y:Code} {t:Bool} (hc:ev e c=some (.bool t)) (ht:t=true->WC P n x Q e w) (hf:t=false->WC P n y Q e w):WC P n (.cond c x y) Q e w:=
 ⟨λa ha=>wp_cond_split (ha.ev hc) (λh=>(ht h).h a ha) (λh=>(hf h).h a ha)⟩
theorem Z2F {id:Nat} {l:List Oper} (h:WL P n l.toArray Q l e w):WC P n (.region id l.toArray false) Q e w:=
 ⟨λa ha=>wp_region_lit (h.h a ha)⟩
theorem Z2V (h:WQ n Q .normal e w):WL P n ops Q [] e w:=⟨λa ha=>wpList_nil (h.h a ha)⟩
theorem Zlj {c:Code} (e':Env) (hs:Sub e' e) (h:WC P n c Q e' w):WC P n c Q e w:=⟨λa ha=>h.h a (ha.sub hs)⟩
theorem Zlk {x:Exit} (e':Env) (hs:Sub e' e) (h:WQ n Q x e' w):WQ n Q x e w:=⟨λa ha=>h.h a (ha.sub hs)⟩
theorem Zhy {x y:Code} {σ:Type} (env:σ->Env) (I:σ->World->Prop)
 (h:WC P n x (Exit.then (λa w=>∃ s,Has n (env s) a/\I s w) Q) e w) (k:∀ s w,I s w->WC P n y Q (env s) w):WC P n (x.seq y) Q e w:=
 ⟨λa ha => wp_seq (wp_mono (h.h a ha) (λex a w hq => by
   cases ex with
   | normal=>obtain ⟨s,h1,h2⟩:=hq;exact (k s w h2).h a h1
   | _=>exact hq))⟩
theorem Ju {x y:Code} {σ:Type} (env:σ->Env) (I:σ->World->Prop)
 (h:WC P n x (Exit.then (λa w=>∃ s,Has n (env s) a/\I s w) Q) e w) (k:∀ s w,I s w->WC P n y Q (env s) w):WC P n x (Exit.then (λa w=>y.wp P Q a w) Q) e w:=
 ⟨λa ha => wp_mono (h.h a ha) (λex a w hq => by
   cases ex with
   | normal=>obtain ⟨s,h1,h2⟩:=hq;exact (k s w h2).h a h1
   | _=>exact hq)⟩
theorem Z0j {x y:Code} {σ:Type} {i:Nat} (env:σ->Env) (I:σ->World->Prop)
 (h:WC P n x (Exit.inBlock i (Exit.then (λa w=>∃ s,Has n (env s) a/\I s w) Q)) e w) (k:∀ s w,I s w->WC P n y Q (env s) w):WC P n x (Exit.inBlock i (Exit.then (λa w=>y.wp P Q a w) Q)) e w:=
 ⟨λa ha => wp_mono (h.h a ha) (λex a w hq => by
   cases ex with
   | normal=>obtain ⟨s,h1,h2⟩:=hq;exact (k s w h2).h a h1
   | exit j=>
     simp only [Exit.inBlock] at hq ⊢;split;rename_i hj;rw [if_pos hj] at hq;obtain ⟨s,h1,h2⟩:=hq;exact (k s w h2).h a h1;rename_i hj;rw [if_neg hj] at hq;exact hq
   | _=>exact hq)⟩
theorem Zy {σ:Type} {env:σ->Env} {I:σ->World->Prop} (s:σ) (hs:Sub (env s) e) (hI:I s w):WQ n (Exit.then (λa w=>∃ s,Has n (env s) a/\I s w) Q) .normal e w:=
 ⟨λa ha=>⟨s,ha.sub hs,hI⟩⟩
theorem Zu {c:Code} {σ:Type} (env:σ->Env) (I:σ->World->Prop) (μ:σ->Nat) (fc:σ) (hs:Sub (env fc) e) (hI:I fc w)
 (round:∀ s w,I s w->WC P n c (Exit.then (λa' w'=>∃ s',Has n (env s') a'/\I s' w'/\μ s' < μ s) Q) (env s) w):WC P n (.loop c) Q e w:=by
 refine ⟨λa ha=>?_⟩;have key:∀ (k:Nat) (s:σ) (a:Act) (w:World),μ s<=k->Has n (env s) a->I s w->(Code.loop c).wp P Q a w:=by
  intro k s a w _ h1 h2;refine wp_loop (λa' w'=>∃ s',Has n (env s') a'/\I s' w') (λa' w'=>Classical.epsilon (λm=>∃ s',Has n (env s') a'/\I s' w'/\μ s'=m/\∀ s'',Has n (env s'') a'->I s'' w'->m<=μ s'')) ⟨s,h1,h2⟩ ?_;intro a w ⟨s',jU,kE⟩;have sQ:∀ a w,(∃ s',Has n (env s') a/\I s' w)->∃ m,∃ s',Has n (env s') a/\I s' w/\μ s'=m/\∀ s'',Has n (env s'') a->I s'' w->m<=μ s'':=by
   intro a w ⟨s',jU,kE⟩;have:∀ m,∀ s',μ s'=m->Has n (env s') a->I s' w->∃ m,∃ s',Has n (env s') a/\I s' w/\μ s'=m/\∀ s'',Has n (env s'') a->I s'' w->m<=μ s'':=by
    intro m
    induction m using Nat.strongRecOn with
    | _ m ih=>
      intro s' hm h1 h2;by_cases kF:∀ s'',Has n (env s'') a->I s'' w->m<=μ s'';exact ⟨m,s',h1,h2,hm,kF⟩;have:∃ s'',Has n (env s'') a/\I s'' w/\μ s''<m:=by
       refine Classical.byContradiction λaW=>kF λs'' h1 h2=>?_;exact YbA λhlt=>aW ⟨s'',h1,h2,hlt⟩
      obtain ⟨s'',jU,kE,hlt⟩:=this;exact ih _ hlt s'' rfl jU kE
   exact this _ s' rfl jU kE
  obtain ⟨s₁,g1,g2,g3,g4⟩:=Classical.epsilon_spec (sQ a w ⟨s',jU,kE⟩);have hr:=(round s₁ w g2).h a g1;refine wp_mono hr (λex a' w' hq=>?_);cases ex with
  | normal=>
    obtain ⟨s₂,k1,k2,k3⟩:=hq;refine ⟨⟨s₂,k1,k2⟩,?_⟩;obtain ⟨s₃,m1,m2,m3,m4⟩:=Classical.epsilon_spec (sQ a' w' ⟨s₂,k1,k2⟩);have:=m4 s₂ k1 k2;rw [g3] at k3;exact Nat.lt_of_le_of_lt this k3
  | _=>exact hq
 exact key (μ fc) fc a w (Xn _) (ha.sub hs) hI
theorem Zx {σ:Type} {env:σ->Env} {I:σ->World->Prop} {μ:σ->Nat} {m:Nat} (s:σ) (hs:Sub (env s) e) (hI:I s w) (hm:μ s<m) :
 WQ n (Exit.then (λa w=>∃ s,Has n (env s) a/\I s w/\μ s<m) Q) .normal e w:=
 ⟨λa ha=>⟨s,ha.sub hs,hI,hm⟩⟩
structure PR (P:Program) (n:Nat) (o:Oper) (e:Env) (w:World) (v:Value):Prop where
 h:∀ a,Has n e a->(execOp a.eval o).run P w=.ok (.value v) w
theorem Z8 {d:Nat} {op:Op} {ty:TypeId} {pos:String} {af:Array Edge} {v:Value} (hp:PR P n ⟨some d,op,ty,pos,af,none⟩ e w v) (hd:Nat.blt d n=true)
 (k:WL P n ops Q rest ((d,v) :: e) w):WL P n ops Q (⟨some d,op,ty,pos,af,none⟩ :: rest) e w:=by
 refine ⟨λa ha=>?_⟩;refine wpList_plain rfl (λK hK=>?_);unfold Oper.wp;rw [hp.h a ha];exact hK _ _ ((k).h _ (ha.put hd))
structure OE (P:Program) (n:Nat) (o:Oper) (e:Env) (w:World) (G:Value->World->Prop):Prop where
 h:∀ a,Has n e a->∀ (Q:Exit->Act->World->Prop),o.wp P a w (λa' w'=>∃ v,a'=a.put o.dst v/\G v w') Q
theorem Z0 {d:Nat} {op:Op} {ty:TypeId} {pos:String} {af:Array Edge} {G:Value->World->Prop} (hp:OE P n ⟨some d,op,ty,pos,af,none⟩ e w G) (hd:Nat.blt d n=true)
 (k:∀ v w',G v w'->WL P n ops Q rest ((d,v) :: e) w'):WL P n ops Q (⟨some d,op,ty,pos,af,none⟩ :: rest) e w:=by
 refine ⟨λa ha=>?_⟩;refine wpList_plain rfl (λK hK=>?_);refine Oper.wp_mono ?_ (hp.h a ha Q);rintro a' w' ⟨v,rfl,hg⟩;exact hK _ _ ((k v w' hg).h _ (ha.put hd))
theorem Z6 {op:Op} {ty:TypeId} {pos:String} {af:Array Edge} {G:Value->World->Prop} (hp:OE P n ⟨none,op,ty,pos,af,none⟩ e w G)
 (k:∀ v w',G v w'->WL P n ops Q rest e w'):WL P n ops Q (⟨none,op,ty,pos,af,none⟩ :: rest) e w:=by
 refine ⟨λa ha=>?_⟩;refine wpList_plain rfl (λK hK=>?_);refine Oper.wp_mono ?_ (hp.h a ha Q);rintro a' w' ⟨v,rfl,hg⟩;exact hK _ _ ((k v w' hg).h _ ha)
def yld (ops:Array Oper) (e:Env) (j:Nat):Option Value:=((ops[j]?).bind (·.dst)).bind (look e)
theorem Z7L {ops:Array Oper} {a:Act} {j:Nat} {b:Bool} (ha:Has n e a) (h:yld ops e j=some (.bool b)):yielded ops a.tmps j=some b:=by
 unfold yld at h;unfold yielded;cases hd:(ops[j]?).bind (·.dst) with
 | none=>rw [hd] at h;simp at h
 | some d=>
   rw [hd] at h;have:=ha.vals d _ h;simp only [XB] at this;simp only [XR];cases hx:a.tmps[d]? with
   | none=>rw [hx] at this;simp [undef] at this
   | some u=>rw [hx] at this;simp at this;subst this;simp
theorem ZtA {d:Option Nat} {op:Op} {ty:TypeId} {pos:String} {af:Array Edge} {j:Nat} {b:Bool} (hy:yld ops e j=some (.bool b))
 (k:WL P n ops Q (⟨d,op,ty,pos,af,none⟩ :: rest) e w):WL P n ops Q (⟨d,op,ty,pos,af,some (j,b)⟩ :: rest) e w:=by
 refine ⟨λa ha=>?_⟩;have hk:=k.h a ha;have hw:Region.wanted ⟨d,op,ty,pos,af,some (j,b)⟩ (yielded ops a.tmps)=true:=by simp [Region.wanted,Z7L ha hy]
 unfold wpList at hk ⊢;rw [if_pos hw];rw [if_pos (by simp [Region.wanted])] at hk;exact hk
def ZtB:Value->Bool->Bool
 | .bool c,b=>c != b
 | _,_=>true
def noB (ops:Array Oper) (e:Env):Option (Nat×Bool)->Bool
 | none=>false
 | some (j, b) => match yld ops e j with
   | some u=>ZtB u b
   | none=>false
theorem Z2W {ops:Array Oper} {a:Act} {o:Oper} (ha:Has n e a) (h:noB ops e o.guard=true):Region.wanted o (yielded ops a.tmps)=false:=by
 unfold Region.wanted;cases hg:o.guard with
 | none=>rw [hg] at h;cases h
 | some jb=>
   obtain ⟨j,b⟩:=jb;rw [hg] at h;simp only [noB] at h;cases hy:yld ops e j with
   | none=>rw [hy] at h;cases h
   | some u=>
     rw [hy] at h;unfold yld at hy;show (yielded ops a.tmps j == some b)=false;unfold yielded;cases hd:(ops[j]?).bind (·.dst) with
     | none=>rw [hd] at hy;simp at hy
     | some d=>
       rw [hd] at hy;simp only [XR] at hy;have:=ha.vals d _ hy;simp only [XB] at this;simp only [XR];cases hx:a.tmps[d]? with
       | none=>rfl
       | some z=>
         rw [hx] at this;simp at this;subst this;cases z<;>first|rfl|(simp only [ZtB] at h;cases b<;>simp_all)
theorem Zll {d:Nat} {op:Op} {ty:TypeId} {pos:String} {af:Array Edge} {j:Nat} {b:Bool} (hy:noB ops e (some (j,b))=true) (hd:Nat.blt d n=true)
 (k:WL P n ops Q rest ((d,undef) :: e) w):WL P n ops Q (⟨some d,op,ty,pos,af,some (j,b)⟩ :: rest) e w:=by
 refine ⟨λa ha=>?_⟩;have hw:Region.wanted ⟨some d,op,ty,pos,af,some (j,b)⟩ (yielded ops a.tmps)=false:=Z2W ha hy;unfold wpList;rw [if_neg (by simp [hw])];exact k.h _ (ha.put hd)
def ZeI (ops:Array Oper) (j:Nat):Option Nat:=(ops[j]?).bind (·.dst)
theorem Has.same {a:Act} {d:Nat} {u v:Value} (ha:Has n e a) (h:look e d=some u) (uG:u=v):Has n ((d,v) :: e) a:=by
 subst uG;refine ⟨ha.defers,ha.size,λt x hx=>?_⟩;rw [JZ] at hx;by_cases hd:d=t;subst hd;simp at hx;subst hx;exact ha.vals _ _ h;rw [if_neg hd] at hx;exact ha.vals _ _ hx
theorem Zhz {d:Nat} {o:Option Nat} {op:Op} {ty:TypeId} {pos:String} {af:Array Edge} {j:Nat} {b:Bool} {p:Prop} [Decidable p] (hj:ZeI ops j=some d) (hy:look e d=some (.bool (decide p)))
 (ht:p->WL P n ops Q (⟨o,op,ty,pos,af,some (j,b)⟩ :: rest) ((d,.bool true) :: e) w) (hf:¬ p->WL P n ops Q (⟨o,op,ty,pos,af,some (j,b)⟩ :: rest) ((d,.bool false) :: e) w) :
 WL P n ops Q (⟨o,op,ty,pos,af,some (j,b)⟩ :: rest) e w:=by
 refine ⟨λa ha=>?_⟩;by_cases hp:p;exact (ht hp).h a (ha.same hy (by simp [hp]));exact (hf hp).h a (ha.same hy (by simp [hp]))
theorem ZfE {d:Nat} {o:Option Nat} {op:Op} {ty:TypeId} {pos:String} {af:Array Edge} {j:Nat} {b:Bool} {t:Bool} (hj:ZeI ops j=some d) (hy:look e d=some (.bool t))
 (ht:t=true->WL P n ops Q (⟨o,op,ty,pos,af,some (j,b)⟩ :: rest) ((d,.bool true) :: e) w) (hf:t=false->WL P n ops Q (⟨o,op,ty,pos,af,some (j,b)⟩ :: rest) ((d,.bool false) :: e) w) :
 WL P n ops Q (⟨o,op,ty,pos,af,some (j,b)⟩ :: rest) e w:=by
 refine ⟨λa ha=>?_⟩;cases t;exact (hf rfl).h a (ha.same hy rfl);exact (ht rfl).h a (ha.same hy rfl)
end rules
def Z54 (l:List Value):Nat->Env
 | k=>match l with|[]=>[]|v :: r=>(k,v) :: Z54 r (k+1)
theorem Z3y (l:List Value):∀ (k t:Nat) (v:Value),look (Z54 l k) t=some v->k<=t/\l[t - k]?=some v:=by
 induction l with
 | nil=>intro k t v h;simp [Z54,look] at h
 | cons x r ih=>
   intro k t v h;simp only [Z54] at h;rw [JZ] at h;by_cases hk:k=t;subst hk;simp at h;simp [h];rw [if_neg hk] at h;obtain ⟨h1,h2⟩:=ih (k+1) t v h;refine ⟨by omega,?_⟩;have:t - k=(t - (k+1))+1:=by omega
   rw [this];simpa using h2
theorem Z11 {P:Program} {f:FuncId} {fn:Func} {c:Code} {args:Array Value} {w:World} {R:Ending->World->Prop} {n:Nat} (hf:P.funcs[f]?=some fn) (hb:fn.body=some c)
 (hn:fn.ntmps=n) (hs:Nat.ble args.size n=true) (h:WC P n c (bodyPost P fn R) (Z54 args.toList 0) w):Calls P f args w R:=by
 refine calls_of_wp hf hb (h.h _ ?_);rw [hn];have cT:args.size<=n:=XX hs;refine ⟨rfl,by simp;omega,λt v hv=>?_⟩;obtain ⟨_,h2⟩:=Z3y _ _ _ _ hv;simp only [Nat.sub_zero] at h2;have hlt:t<args.size:=by
  have:=(Xu.1 h2).1;simpa using this
 have:args[t]?=some v:=by simpa using h2
 have h3:(args++Array.replicate (n - args.size) undef)[t]?=some v:=by
  rw [XW hlt];exact this
 simp [XB,h3]
section post
variable {P:Program} {n:Nat} {fn:Func} {R:Ending->World->Prop} {e:Env} {w:World}
theorem Zag (hr:fn.results=#[]) (h:R (.returned (.tuple #[])) w):WQ n (bodyPost P fn R) .ret e w:=
 ⟨λa ha=>⟨ha.defers,_,results_none hr _ _ _,h⟩⟩
theorem Zah (hr:fn.results=#[]) (h:R (.returned (.tuple #[])) w):WQ n (bodyPost P fn R) .normal e w:=
 ⟨λa ha=>⟨ha.defers,_,results_none hr _ _ _,h⟩⟩
theorem Zlm {t:Nat} {v:Value} (hr:fn.results=#[.tmp t]) (ht:look e t=some v) (h:R (.returned v) w):WQ n (bodyPost P fn R) .ret e w:=
 ⟨λa ha=>⟨ha.defers,_,results_tmp hr _ _ _,by rw [ha.vals t v ht];exact h⟩⟩
theorem Zln {t u:Nat} {v x:Value} (hr:fn.results=#[.tmp t,.tmp u]) (ht:look e t=some v) (hu:look e u=some x) (h:R (.returned (.tuple #[v,x])) w):WQ n (bodyPost P fn R) .ret e w:=
 ⟨λa ha=>⟨ha.defers,_,results_tmp2 hr _ _ _,by rw [ha.vals t v ht,ha.vals u x hu];exact h⟩⟩
theorem Zlo {t u s:Nat} {v x y:Value} (hr:fn.results=#[.tmp t,.tmp u,.tmp s]) (ht:look e t=some v) (hu:look e u=some x) (hs:look e s=some y) (h:R (.returned (.tuple #[v,x,y])) w):WQ n (bodyPost P fn R) .ret e w:=
 ⟨λa ha=>⟨ha.defers,.tuple #[v,x,y],by simp [results,hr];simpa [XB] using And.intro (ha.vals t v ht) (And.intro (ha.vals u x hu) (ha.vals s y hs)),h⟩⟩
end post
theorem cW0 {P:Program} {f:FuncId} {fn:Func} {c:Code} {w:World} {R:Ending->World->Prop} (n:Nat) (hf:P.funcs[f]?=some fn) (h:WC P n c (bodyPost P fn R) [] w) (hb:fn.body=some c:=by exact rfl) (hn:fn.ntmps=n:=by exact rfl):Calls P f #[] w R:=Z11 hf hb hn rfl h
theorem cW1 {P:Program} {f:FuncId} {fn:Func} {c:Code} {a0:Value} {w:World} {R:Ending->World->Prop} (n:Nat) (hf:P.funcs[f]?=some fn) (h:WC P n c (bodyPost P fn R) [(0,a0)] w) (hb:fn.body=some c:=by exact rfl) (hn:fn.ntmps=n:=by exact rfl) (hs:Nat.ble 1 n=true:=by exact rfl):Calls P f #[a0] w R:=Z11 hf hb hn hs h
theorem cW2 {P:Program} {f:FuncId} {fn:Func} {c:Code} {a0 a1:Value} {w:World} {R:Ending->World->Prop} (n:Nat) (hf:P.funcs[f]?=some fn) (h:WC P n c (bodyPost P fn R) [(0,a0),(1,a1)] w) (hb:fn.body=some c:=by exact rfl) (hn:fn.ntmps=n:=by exact rfl) (hs:Nat.ble 2 n=true:=by exact rfl):Calls P f #[a0,a1] w R:=Z11 hf hb hn hs h
theorem cW3 {P:Program} {f:FuncId} {fn:Func} {c:Code} {a0 a1 a2:Value} {w:World} {R:Ending->World->Prop} (n:Nat) (hf:P.funcs[f]?=some fn) (h:WC P n c (bodyPost P fn R) [(0,a0),(1,a1),(2,a2)] w) (hb:fn.body=some c:=by exact rfl) (hn:fn.ntmps=n:=by exact rfl) (hs:Nat.ble 3 n=true:=by exact rfl):Calls P f #[a0,a1,a2] w R:=Z11 hf hb hn hs h
theorem cW4 {P:Program} {f:FuncId} {fn:Func} {c:Code} {a0 a1 a2 a3:Value} {w:World} {R:Ending->World->Prop} (n:Nat) (hf:P.funcs[f]?=some fn) (h:WC P n c (bodyPost P fn R) [(0,a0),(1,a1),(2,a2),(3,a3)] w) (hb:fn.body=some c:=by exact rfl) (hn:fn.ntmps=n:=by exact rfl) (hs:Nat.ble 4 n=true:=by exact rfl):Calls P f #[a0,a1,a2,a3] w R:=Z11 hf hb hn hs h
theorem cW5 {P:Program} {f:FuncId} {fn:Func} {c:Code} {a0 a1 a2 a3 a4:Value} {w:World} {R:Ending->World->Prop} (n:Nat) (hf:P.funcs[f]?=some fn) (h:WC P n c (bodyPost P fn R) [(0,a0),(1,a1),(2,a2),(3,a3),(4,a4)] w) (hb:fn.body=some c:=by exact rfl) (hn:fn.ntmps=n:=by exact rfl) (hs:Nat.ble 5 n=true:=by exact rfl):Calls P f #[a0,a1,a2,a3,a4] w R:=Z11 hf hb hn hs h
class Und (P:Program) (t:Nat) (d:outParam TypeDesc):Prop where
 h:P.underlying t=some d
class Siz (P:Program) (t:Nat) (k:outParam Nat):Prop where
 h:(P.info? t).map (·.size)=some k
class Zer (P:Program) (t:Nat) (z:outParam Value):Prop where
 h:(P.info? t).bind (·.zero)=some z
class Byt (P:Program) (t:Nat) (k:outParam Nat):Prop where
 h:(P.info? t).map (·.bytes)=some k
class Fld (P:Program) (t i:Nat) (off:outParam Nat):Prop where
 h:∃ fs f k,P.underlying t=some (.struct fs)/\fs[i]?=some f/\f.offset=off/\(P.info? f.type).map (·.size)=some (k+1)
class Fun (P:Program) (f:Nat) (fn:outParam Func):Prop where
 h:P.funcs[f]?=some fn
 enters:Enters P f
theorem Siz.run {P:Program} {t k:Nat} [h:Siz P t k] (w:World):(sizeOf t).run P w=.ok k w:=by
 have:=h.h;cases hi:P.info? t with
 | none=>simp [hi] at this
 | some i=>rw [hi] at this;simp at this;simp [sizeOf,typeInfo,hi,this]
theorem Zer.run {P:Program} {t:Nat} {z:Value} [h:Zer P t z] (w:World):(zeroValue t).run P w=.ok z w:=by
 have:=h.h;cases hi:P.info? t with
 | none=>simp [hi] at this
 | some i=>rw [hi] at this;simp at this;simp [zeroValue,typeInfo,hi,this]
def Z0R:TypeDesc->Bool
 | .struct _|.array _ _=>true
 | _=>false
theorem Und.isAgg {P:Program} {t:Nat} {d:TypeDesc} [h:Und P t d] (w:World):(Go.isAgg t).run P w=.ok (Z0R d) w:=by
 cases d<;>simp [Go.isAgg,run_underlying h.h,Z0R]
section rules
variable {P:Program} {n:Nat} {e:Env} {w:World} {d:Option Nat} {ty:TypeId} {pos:String} {af:Array Edge} {g:Option (Nat×Bool)}
theorem ZZ {x:Operand} {v:Value} (hx:ev e x=some v):PR P n ⟨d,.move x,ty,pos,af,g⟩ e w v:=⟨λa ha=>by simp [execOp,ha.ev hx]⟩
theorem Z6f {x:Operand} {v:Value} (hx:ev e x=some v):PR P n ⟨d,.assign x,ty,pos,af,g⟩ e w v:=⟨λa ha=>by simp [execOp,ha.ev hx]⟩
theorem ZfF {c x y:Operand} {v:Value} (hc:ev e c=some (.bool true)) (hx:ev e x=some v):PR P n ⟨d,.pick c x y,ty,pos,af,g⟩ e w v:=
 ⟨λa ha=>by simp [execOp,ha.ev hc,ha.ev hx,asBool]⟩
theorem ZfG {c x y:Operand} {v:Value} (hc:ev e c=some (.bool false)) (hx:ev e y=some v):PR P n ⟨d,.pick c x y,ty,pos,af,g⟩ e w v:=
 ⟨λa ha=>by simp [execOp,ha.ev hc,ha.ev hx,asBool]⟩
theorem ZhA {x:Operand} {b:Bool} (hx:ev e x=some (.bool b)) {t:TypeId}:PR P n ⟨d,.unOp .not t x,ty,pos,af,g⟩ e w (.bool (!b)):=
 ⟨λa ha=>by simp [execOp,ha.ev hx,Op.unary]⟩
theorem ZhB {x:Operand} (hx:ev e x=some (.bool true)) {t:TypeId}:PR P n ⟨d,.unOp .not t x,ty,pos,af,g⟩ e w (.bool false):=
 ⟨λa ha=>by simp [execOp,ha.ev hx,Op.unary]⟩
theorem ZhC {x:Operand} (hx:ev e x=some (.bool false)) {t:TypeId}:PR P n ⟨d,.unOp .not t x,ty,pos,af,g⟩ e w (.bool true):=
 ⟨λa ha=>by simp [execOp,ha.ev hx,Op.unary]⟩
def I64 (z:Int):Prop:=-9223372036854775808<=z/\z<=9223372036854775807
theorem Z09 {z:Int} (h:I64 z):IntKind.i64.wrap z=z:=by
 unfold I64 at h;rw [IntKind.wrap_i64];omega
section arith
variable {x y:Operand} {a b:Int} {t u:TypeId}
theorem Zdp (hx:ev e x=some (.int .i64 a)) (hy:ev e y=some (.int .i64 b)) (hr:I64 (a+b)):PR P n ⟨d,.binOp .add t x y u,ty,pos,af,g⟩ e w (.int .i64 (a+b)):=
 ⟨λc ha=>by simp only [execOp,ha.ev hx,ha.ev hy];simp [go_sem,Op.intArith,Z09 hr]⟩
theorem Z6g (hx:ev e x=some (.int .i64 a)) (hy:ev e y=some (.int .i64 b)) (hr:I64 (a - b)):PR P n ⟨d,.binOp .sub t x y u,ty,pos,af,g⟩ e w (.int .i64 (a - b)):=
 ⟨λc ha=>by simp only [execOp,ha.ev hx,ha.ev hy];simp [go_sem,Op.intArith,Z09 hr]⟩
theorem ZoN (hx:ev e x=some (.int .i64 a)) (hy:ev e y=some (.int .i64 b)) (hr:I64 (a * b)):PR P n ⟨d,.binOp .mul t x y u,ty,pos,af,g⟩ e w (.int .i64 (a * b)):=
 ⟨λc ha=>by simp only [execOp,ha.ev hx,ha.ev hy];simp [go_sem,Op.intArith,Z09 hr]⟩
theorem ZoO (hx:ev e x=some (.int .i64 a)) (hr:I64 (- a)):PR P n ⟨d,.unOp .neg t x,ty,pos,af,g⟩ e w (.int .i64 (- a)):=
 ⟨λc ha=>by simp only [execOp,ha.ev hx];simp [go_sem,Op.unary,Op.intArith,Z09 hr]⟩
theorem ZoP (hx:ev e x=some (.int .i64 a)) (hy:ev e y=some (.int .i64 b)) (hb:b≠0) (hr:I64 (a.tmod b)):PR P n ⟨d,.binOp .rem t x y u,ty,pos,af,g⟩ e w (.int .i64 (a.tmod b)):=
 ⟨λc ha=>by simp only [execOp,ha.ev hx,ha.ev hy];simp [go_sem,Op.intDiv,hb];try rw [Z09 hr]⟩
theorem ZoQ (hx:ev e x=some (.int .i64 a)) (hy:ev e y=some (.int .i64 b)) (hb:b≠0) (hr:I64 (a.tdiv b)):PR P n ⟨d,.binOp .quo t x y u,ty,pos,af,g⟩ e w (.int .i64 (a.tdiv b)):=
 ⟨λc ha=>by simp only [execOp,ha.ev hx,ha.ev hy];simp [go_sem,Op.intDiv,hb];try rw [Z09 hr]⟩
theorem ZeJ (hx:ev e x=some (.int .i64 a)) (hy:ev e y=some (.int .i64 b)) (h0:0<=a) (hb:0<b) (hr:I64 a):PR P n ⟨d,.binOp .rem t x y u,ty,pos,af,g⟩ e w (.int .i64 (a % b)):=by
 have h1:a.tmod b=a % b:=Int.tmod_eq_emod_of_nonneg h0;rw [<- h1];refine ZoP hx hy (by omega) ?_;rw [h1];have:=Ya8 a (show b≠0 by omega);have h2:a % b<=a:=by
  by_cases cU:a<b;rw [Ybw h0 cU];exact XQ _;have:=YaR a hb;omega
 unfold I64 at hr ⊢;omega
theorem ZeK (hx:ev e x=some (.int .i64 a)) (hy:ev e y=some (.int .i64 b)) (h0:0<=a) (hb:0<b) (hr:I64 a):PR P n ⟨d,.binOp .quo t x y u,ty,pos,af,g⟩ e w (.int .i64 (a / b)):=by
 have h1:a.tdiv b=a / b:=Int.tdiv_eq_ediv_of_nonneg h0;rw [<- h1];refine ZoQ hx hy (by omega) ?_;rw [h1];have:=Int.ediv_nonneg h0 (Int.le_of_lt hb);have h2:a / b<=a:=Int.ediv_le_self _ h0;unfold I64 at hr ⊢;omega
variable {k:IntKind}
theorem ZhD (hx:ev e x=some (.int k a)) (hy:ev e y=some (.int k b)):PR P n ⟨d,.binOp .lss t x y u,ty,pos,af,g⟩ e w (.bool (decide (a<b))):=
 ⟨λc ha=>by simp only [execOp,ha.ev hx,ha.ev hy];simp [go_sem]⟩
theorem ZoR (hx:ev e x=some (.int k a)) (hy:ev e y=some (.int k b)):PR P n ⟨d,.binOp .leq t x y u,ty,pos,af,g⟩ e w (.bool (decide (a<=b))):=
 ⟨λc ha=>by simp only [execOp,ha.ev hx,ha.ev hy];simp [go_sem]⟩
theorem ZhE (hx:ev e x=some (.int k a)) (hy:ev e y=some (.int k b)):PR P n ⟨d,.binOp .gtr t x y u,ty,pos,af,g⟩ e w (.bool (decide (b<a))):=
 ⟨λc ha=>by simp only [execOp,ha.ev hx,ha.ev hy];simp [go_sem]⟩
theorem ZoS (hx:ev e x=some (.int k a)) (hy:ev e y=some (.int k b)):PR P n ⟨d,.binOp .geq t x y u,ty,pos,af,g⟩ e w (.bool (decide (b<=a))):=
 ⟨λc ha=>by simp only [execOp,ha.ev hx,ha.ev hy];simp [go_sem]⟩
theorem ZoT (hx:ev e x=some (.int k a)) (hy:ev e y=some (.int k b)):PR P n ⟨d,.binOp .eql t x y u,ty,pos,af,g⟩ e w (.bool (decide (a=b))):=
 ⟨λc ha=>by simp only [execOp,ha.ev hx,ha.ev hy];simp [go_sem];exact YaG a b⟩
theorem ZhF (hx:ev e x=some (.int k a)) (hy:ev e y=some (.int k b)):PR P n ⟨d,.binOp .neq t x y u,ty,pos,af,g⟩ e w (.bool (decide (¬ a=b))):=
 ⟨λc ha=>by simp only [execOp,ha.ev hx,ha.ev hy];simp [go_sem];rw [bne,YaG]⟩
theorem Zlp {p q:Bool} [hu:Und P t .bool] (hx:ev e x=some (.bool p)) (hy:ev e y=some (.bool q)):PR P n ⟨d,.binOp .eql t x y u,ty,pos,af,g⟩ e w (.bool (decide (p=q))):=
 ⟨λc ha=>by simp only [execOp,ha.ev hx,ha.ev hy];simp [go_sem,binOp,run_equal_bool w t p q hu.h];cases p<;>cases q<;>rfl⟩
theorem ZeL {p q:Bool} [hu:Und P t .bool] (hx:ev e x=some (.bool p)) (hy:ev e y=some (.bool q)):PR P n ⟨d,.binOp .neq t x y u,ty,pos,af,g⟩ e w (.bool (decide (¬ p=q))):=
 ⟨λc ha=>by simp only [execOp,ha.ev hx,ha.ev hy];simp [go_sem,binOp,run_equal_bool w t p q hu.h];cases p<;>cases q<;>rfl⟩
end arith
theorem Zdq {x:Operand} {vs:Array Value} {i:Nat} {v:Value} (hx:ev e x=some (.tuple vs)) (hv:vs[i]?=some v):PR P n ⟨d,.extract x i,ty,pos,af,g⟩ e w v:=
 ⟨λa ha=>by simp [execOp,ha.ev hx,Instr.extract,hv]⟩
theorem ZhG {x:Operand} {t:TypeId} {el:TypeId} [hu:Und P t (.slice el)] {p:Option Addr} {l c:Nat} (hx:ev e x=some (.slice p l c)) :
 PR P n ⟨d,.call { callee:=.builtin .len,args:=#[x],argTypes:=#[t] },ty,pos,af,g⟩ e w (.int .i64 (l:Int)):=
 ⟨λa ha => by
   have:=run_len_slice (P:=P) w t ty p l c (by rw [hu.h,Program.elem,hu.h]);simp [execOp,resolve,invoke,builtin,ha.ev hx,this,goInt]⟩
theorem Z6S {t i off:Nat} [h:Fld P t i off] (b o:Nat) (w:World):(Instr.fieldAt t (.pointer (some ⟨b,o,none⟩)) i).run P w=.ok (.pointer (some ⟨b,o+off,none⟩)) w:=by
 obtain ⟨fs,f,k,h1,h2,rfl,h3⟩:=h.h;have:Siz P f.type (k+1):=⟨h3⟩
 simp [Instr.fieldAt,run_underlying h1,h2,Instr.sureAddr,fieldPlace,Siz.run,Addr.add_lit]
theorem ZW {x:Operand} {t:TypeId} {b o i off:Nat} [hf:Fld P t i off] (hx:ev e x=some (.pointer (some ⟨b,o,none⟩))):PR P n ⟨d,.fieldAddr t x i,ty,pos,af,g⟩ e w (.pointer (some ⟨b,o+off,none⟩)):=
 ⟨λa ha=>by simp [execOp,ha.ev hx,Z6S]⟩
theorem JI {x:Operand} {t:TypeId} {D:TypeDesc} {ad:Addr} {v:Value} [hu:Und P t D] (hA:Z0R D=false) (hx:ev e x=some (.pointer (some ad))) (hc:w.cell? ad=some v) :
 PR P n ⟨d,.load t x,ty,pos,af,g⟩ e w v:=
 ⟨λa ha=>by simp [execOp,ha.ev hx,Instr.loadAt,Instr.sureAddr,loadVar,Und.isAgg,hA,hc]⟩
theorem Z3z {x:Operand} {t:TypeId} {D:TypeDesc} {b o k:Nat} {cs:List Value} [hu:Und P t D] (hA:Z0R D=true) [hs:Siz P t k] (hx:ev e x=some (.pointer (some ⟨b,o,none⟩)))
 (hl:cs.length=k) (hc:∀ j u,cs[j]?=some u->w.cell? ⟨b,o+j,none⟩=some u) :
 PR P n ⟨d,.load t x,ty,pos,af,g⟩ e w (.agg cs.toArray):=
 ⟨λa ha => by
   have:=run_loadCells_list (P:=P) w ⟨b,o,none⟩ cs (λj v h=>by rw [Addr.add_lit];exact hc j v h);rw [hl] at this;simp [execOp,ha.ev hx,Instr.loadAt,Instr.sureAddr,loadVar,Und.isAgg,hA,Siz.run,this]⟩
theorem Zai {f:Nat}:PR P n ⟨d,.makeFunc (.func f) #[] #[],ty,pos,af,g⟩ e w (.func (.func f) #[] #[]):=
 ⟨λa ha=>by simp [execOp,Instr.makeFunc]⟩
theorem Zaj {f:Nat} {x:Operand} {v:Value} (hx:ev e x=some v):PR P n ⟨d,.makeFunc (.func f) #[] #[x],ty,pos,af,g⟩ e w (.func (.func f) #[] #[v]):=
 ⟨λa ha=>by simp [execOp,Instr.makeFunc,ha.ev hx]⟩
theorem Zak {f:Nat} {x y:Operand} {v u:Value} (hx:ev e x=some v) (hy:ev e y=some u):PR P n ⟨d,.makeFunc (.func f) #[] #[x,y],ty,pos,af,g⟩ e w (.func (.func f) #[] #[v,u]):=
 ⟨λa ha=>by simp [execOp,Instr.makeFunc,ha.ev hx,ha.ev hy]⟩
theorem Zal {f:Nat} {x y z:Operand} {v u s:Value} (hx:ev e x=some v) (hy:ev e y=some u) (hz:ev e z=some s):PR P n ⟨d,.makeFunc (.func f) #[] #[x,y,z],ty,pos,af,g⟩ e w (.func (.func f) #[] #[v,u,s]):=
 ⟨λa ha=>by simp [execOp,Instr.makeFunc,ha.ev hx,ha.ev hy,ha.ev hz]⟩
def Ret (G:Value->World->Prop) (r:Ending) (w':World):Prop:=∃ v,r=.returned v/\G v w'
theorem Ret.mk {G:Value->World->Prop} {v:Value} {w':World} (h:G v w'):Ret G (.returned v) w':=⟨v,rfl,h⟩
theorem Calls.ret {P:Program} {f:FuncId} {args:Array Value} {w:World} {G G':Value->World->Prop} (h:Calls P f args w (Ret G)) (hg:∀ v w',G v w'->G' v w'):Calls P f args w (Ret G'):=
 h.mono λ_ _ ⟨v,h1,h2⟩=>⟨v,h1,hg _ _ h2⟩
theorem Z4 {f:Nat} {fn:Func} {xs:Array Operand} {ts:Array TypeId} {vs:Array Value} {G:Value->World->Prop} {c:Operand} [hf:Fun P f fn] (hc:ev e c=some (.func (.func f) #[] #[]))
 (hv:∀ a,Has n e a->xs.map a.eval=vs) (h:Calls P f vs w (Ret G)) :
 OE P n ⟨d,.call { callee:=.value c,args:=xs,argTypes:=ts },ty,pos,af,g⟩ e w G:=
 ⟨λa ha Q => by
   have he:(execOp a.eval ⟨d,.call { callee:=.value c,args:=xs,argTypes:=ts },ty,pos,af,g⟩).run P w=.ok (.enter f vs) w:=by
    simp only [execOp,resolve,ha.ev hc,Deferred.ofValue,hv a ha];simp [invoke];exact hf.enters vs w
   unfold Oper.wp;rw [he];simp only [Oper.upon];refine h.mono ?_;rintro r w' ⟨v,rfl,hg⟩;exact ⟨v,rfl,hg⟩⟩
theorem Z00 {f:Nat} {fn:Func} {xs:Array Operand} {ts:Array TypeId} {vs cap us:Array Value} {G:Value->World->Prop} {c:Operand} [hf:Fun P f fn] (hc:ev e c=some (.func (.func f) #[] cap))
 (hv:∀ a,Has n e a->xs.map a.eval=vs) (hu:vs++cap=us) (h:Calls P f us w (Ret G)) :
 OE P n ⟨d,.call { callee:=.value c,args:=xs,argTypes:=ts },ty,pos,af,g⟩ e w G:=
 ⟨λa ha Q => by
   have he:(execOp a.eval ⟨d,.call { callee:=.value c,args:=xs,argTypes:=ts },ty,pos,af,g⟩).run P w=.ok (.enter f us) w:=by
    simp only [execOp,resolve,ha.ev hc,Deferred.ofValue,hv a ha];simp [invoke,hu];exact hf.enters us w
   unfold Oper.wp;rw [he];simp only [Oper.upon];refine h.mono ?_;rintro r w' ⟨v,rfl,hg⟩;exact ⟨v,rfl,hg⟩⟩
theorem Z6h:∀ a,Has n e a->(#[]:Array Operand).map a.eval=#[]:=λa ha=>by simp
theorem ZR {x:Operand} {v:Value} (hx:ev e x=some v):∀ a,Has n e a->#[x].map a.eval=#[v]:=λa ha=>by simp [ha.ev hx]
theorem Zd {x y:Operand} {v u:Value} (hx:ev e x=some v) (hy:ev e y=some u):∀ a,Has n e a->#[x,y].map a.eval=#[v,u]:=λa ha=>by simp [ha.ev hx,ha.ev hy]
theorem ZN {x y z:Operand} {v u s:Value} (hx:ev e x=some v) (hy:ev e y=some u) (hz:ev e z=some s):∀ a,Has n e a->#[x,y,z].map a.eval=#[v,u,s]:=λa ha=>by simp [ha.ev hx,ha.ev hy,ha.ev hz]
theorem Z7o {x y z k:Operand} {v u s r:Value} (hx:ev e x=some v) (hy:ev e y=some u) (hz:ev e z=some s) (hk:ev e k=some r):∀ a,Has n e a->#[x,y,z,k].map a.eval=#[v,u,s,r]:=
 λa ha=>by simp [ha.ev hx,ha.ev hy,ha.ev hz,ha.ev hk]
theorem ZfH {x y z k l:Operand} {v u s r q:Value} (hx:ev e x=some v) (hy:ev e y=some u) (hz:ev e z=some s) (hk:ev e k=some r) (hl:ev e l=some q):∀ a,Has n e a->#[x,y,z,k,l].map a.eval=#[v,u,s,r,q]:=
 λa ha=>by simp [ha.ev hx,ha.ev hy,ha.ev hz,ha.ev hk,ha.ev hl]
end rules
theorem mkF {P:Program} {f:Nat} {fn:Func} {c:Code} (h:P.funcs[f]?=some fn) (h2:(fn.name == "runtime.NumGoroutine")=false:=by kernel_rfl) (h3:fn.body=some c:=by exact rfl):Fun P f fn:=⟨h,enters_of h h2 h3⟩
theorem uM {P:Program} {t:Nat} {d:TypeDesc} (h:P.underlying t=some d):Und P t d:=⟨h⟩
end Go.Eng
namespace Go.Proofs.YtipfkbkkndacjaaGreatDoor
open Go Go.Eng
theorem sMz (t k:Nat) (h:(Tryz.prog.info? t).map (·.size)=some k:=by kernel_rfl):Siz Tryz.prog t k:=⟨h⟩
theorem bMz (t k:Nat) (h:(Tryz.prog.info? t).map (·.bytes)=some k:=by kernel_rfl):Byt Tryz.prog t k:=⟨h⟩
theorem zMz (t:Nat) (z:Value) (h:(Tryz.prog.info? t).bind (·.zero)=some z:=by kernel_rfl):Zer Tryz.prog t z:=⟨h⟩
theorem fMz {t:Nat} (i off k:Nat) {fs:Array Field} {f:Field} (hu:Tryz.prog.underlying t=some (.struct fs)) (h1:fs[i]?=some f:=by exact rfl) (h2:f.offset=off:=by exact rfl) (h3:(Tryz.prog.info? f.type).map (·.size)=some (k+1):=by kernel_rfl):Fld Tryz.prog t i off:=⟨fs,f,k,hu,h1,h2,h3⟩
theorem mixed:Tryz.prog.follows .mixedOrders=true:=by kernel_rfl
abbrev Zxf:=uM Tryz.underlying3
abbrev Zxg:=sMz 3 1
abbrev Zxh:=bMz 3 8
abbrev Zxi:=zMz 3 (.int .i64 0)
abbrev Zxj:=uM Tryz.underlying4
abbrev Zxk:=sMz 4 1
abbrev Zxl:=bMz 4 1
abbrev Zxm:=zMz 4 (.bool false)
abbrev Zxn:=uM Tryz.underlying5
abbrev Zxo:=sMz 5 1
abbrev Zxp:=uM Tryz.underlying9
abbrev Zxq:=sMz 9 1
abbrev Zxr:=bMz 9 16
abbrev Zxs:=zMz 9 (.string ByteArray.empty)
abbrev ZtC:=uM Tryz.underlying20
abbrev ZtD:=uM Tryz.underlying21
abbrev ZtE:=uM Tryz.underlying22
abbrev ZtF:=sMz 22 1
abbrev ZtG:=uM Tryz.underlying23
abbrev ZtH:=sMz 23 1
abbrev ZtI:=bMz 23 24
abbrev ZtJ:=zMz 23 (.slice none 0 0)
abbrev ZtK:=uM Tryz.underlying24
abbrev ZtL:=sMz 24 1
abbrev ZtM:=zMz 24 (.slice none 0 0)
abbrev ZtN:=uM Tryz.underlying25
abbrev ZtO:=sMz 25 1
abbrev ZtP:=uM Tryz.underlying26
abbrev ZtQ:=uM Tryz.underlying27
abbrev ZtR:=sMz 27 1
abbrev ZtS:=zMz 27 (.slice none 0 0)
abbrev ZtT:=uM Tryz.underlying28
abbrev ZtU:=uM Tryz.underlying29
abbrev ZtV:=sMz 29 1
abbrev ZtW:=uM Tryz.underlying30
abbrev ZtX:=sMz 30 1
abbrev ZtY:=uM Tryz.underlying31
abbrev ZtZ:=sMz 31 1
abbrev Zu0:=uM Tryz.underlying33
abbrev Zu1:=sMz 33 2
abbrev Zu2:=zMz 33 (.agg #[.int .i64 0,.slice none 0 0])
abbrev Zlq:=fMz 0 0 0 Tryz.underlying33
abbrev Zlr:=fMz 1 1 0 Tryz.underlying33
abbrev Zu3:=uM Tryz.underlying35
abbrev Zu4:=sMz 35 12
abbrev Zu5:=zMz 35 (.agg #[.bool false,.bool false,.bool false,.bool false,.bool false,.bool false,.bool false,.slice none 0 0,.slice none 0 0,.int .i64 0,.slice none 0 0,.int .i64 0])
abbrev Zls:=fMz 0 0 6 Tryz.underlying35
abbrev Zlt:=fMz 1 7 0 Tryz.underlying35
abbrev Zlu:=fMz 2 8 0 Tryz.underlying35
abbrev Zlv:=fMz 3 9 1 Tryz.underlying35
abbrev Zlw:=fMz 4 11 0 Tryz.underlying35
abbrev Zu6:=uM Tryz.underlying37
abbrev Zu7:=sMz 37 19
abbrev Zu8:=zMz 37 (.agg #[.slice none 0 0,.slice none 0 0,.slice none 0 0,.slice none 0 0,.slice none 0 0,.bool false,.bool false,.bool false,.bool false,.bool false,.bool false,.bool false,.slice none 0 0,.slice none 0 0,.int .i64 0,.slice none 0 0,.int .i64 0,.int .i64 0,.int .i64 0])
abbrev Zlx:=fMz 0 0 0 Tryz.underlying37
abbrev Zly:=fMz 1 1 0 Tryz.underlying37
abbrev Zlz:=fMz 2 2 0 Tryz.underlying37
abbrev ZlA:=fMz 3 3 0 Tryz.underlying37
abbrev ZlB:=fMz 4 4 0 Tryz.underlying37
abbrev ZlC:=fMz 5 5 11 Tryz.underlying37
abbrev ZlD:=fMz 6 17 0 Tryz.underlying37
abbrev ZlE:=fMz 7 18 0 Tryz.underlying37
abbrev Zu9:=uM Tryz.underlying45
abbrev Zua:=sMz 45 6
abbrev Zub:=bMz 45 56
abbrev Zuc:=zMz 45 (.agg #[.int .i64 0,.string ByteArray.empty,.int .i64 0,.int .i64 0,.int .i64 0,.int .i64 0])
abbrev ZlF:=fMz 0 0 0 Tryz.underlying45
abbrev ZlG:=fMz 1 1 0 Tryz.underlying45
abbrev ZlH:=fMz 2 2 0 Tryz.underlying45
abbrev ZlI:=fMz 3 3 0 Tryz.underlying45
abbrev ZlJ:=fMz 4 4 0 Tryz.underlying45
abbrev ZlK:=fMz 5 5 0 Tryz.underlying45
abbrev Zud:=uM Tryz.underlying47
abbrev Zue:=sMz 47 1
abbrev Zuf:=zMz 47 (.slice none 0 0)
abbrev Zug:=uM Tryz.underlying54
abbrev Zuh:=sMz 54 1
abbrev Zui:=uM Tryz.underlying56
abbrev Zuj:=sMz 56 11
abbrev Zuk:=bMz 56 120
abbrev Zul:=zMz 56 (.agg #[.string ByteArray.empty,.int .i64 0,.string ByteArray.empty,.int .i64 0,.int .i64 0,.int .i64 0,.int .i64 0,.int .i64 0,.int .i64 0,.int .i64 0,.slice none 0 0])
abbrev ZlL:=fMz 0 0 0 Tryz.underlying56
abbrev ZlM:=fMz 1 1 5 Tryz.underlying56
abbrev ZlN:=fMz 2 7 0 Tryz.underlying56
abbrev ZlO:=fMz 3 8 0 Tryz.underlying56
abbrev ZlP:=fMz 4 9 0 Tryz.underlying56
abbrev ZlQ:=fMz 5 10 0 Tryz.underlying56
abbrev Zum:=uM Tryz.underlying60
abbrev Zun:=sMz 60 1
abbrev Zuo:=uM Tryz.underlying62
abbrev Zup:=sMz 62 7
abbrev Zuq:=bMz 62 120
abbrev Zur:=zMz 62 (.agg #[.string ByteArray.empty,.int .i64 0,.string ByteArray.empty,.slice none 0 0,.slice none 0 0,.string ByteArray.empty,.string ByteArray.empty])
abbrev ZlR:=fMz 0 0 0 Tryz.underlying62
abbrev ZlS:=fMz 1 1 0 Tryz.underlying62
abbrev ZlT:=fMz 2 2 0 Tryz.underlying62
abbrev ZlU:=fMz 3 3 0 Tryz.underlying62
abbrev ZlV:=fMz 4 4 0 Tryz.underlying62
abbrev ZlW:=fMz 5 5 0 Tryz.underlying62
abbrev ZlX:=fMz 6 6 0 Tryz.underlying62
abbrev Zus:=uM Tryz.underlying67
abbrev Zut:=sMz 67 3
abbrev Zuu:=bMz 67 24
abbrev Zuv:=zMz 67 (.agg #[.int .i64 0,.int .i64 0,.int .i64 0])
abbrev ZlY:=fMz 0 0 0 Tryz.underlying67
abbrev ZlZ:=fMz 1 1 0 Tryz.underlying67
abbrev Zm0:=fMz 2 2 0 Tryz.underlying67
abbrev Zm1:=fMz 0 0 0 Tryz.underlying70
abbrev Zm2:=fMz 1 1 0 Tryz.underlying70
abbrev Zm3:=fMz 2 2 0 Tryz.underlying70
abbrev Zm4:=fMz 3 3 0 Tryz.underlying70
abbrev Zm5:=fMz 4 4 0 Tryz.underlying70
abbrev Zm6:=fMz 5 5 0 Tryz.underlying70
abbrev Zm7:=fMz 6 6 0 Tryz.underlying70
abbrev Zm8:=fMz 7 7 0 Tryz.underlying70
abbrev Zuw:=uM Tryz.underlying73
abbrev Zux:=sMz 73 3
abbrev Zuy:=bMz 73 24
abbrev Zuz:=zMz 73 (.agg #[.int .i64 0,.int .i64 0,.int .i64 0])
abbrev Zm9:=fMz 0 0 0 Tryz.underlying73
abbrev Zma:=fMz 1 1 0 Tryz.underlying73
abbrev Zmb:=fMz 2 2 0 Tryz.underlying73
abbrev ZuA:=uM Tryz.underlying75
abbrev ZuB:=sMz 75 2
abbrev ZuC:=bMz 75 16
abbrev ZuD:=zMz 75 (.agg #[.int .i64 0,.int .i64 0])
abbrev Zmc:=fMz 0 0 0 Tryz.underlying75
abbrev Zmd:=fMz 1 1 0 Tryz.underlying75
abbrev ZuE:=uM Tryz.underlying76
abbrev ZuF:=sMz 76 1
abbrev ZuG:=uM Tryz.underlying78
abbrev ZuH:=sMz 78 5
abbrev ZuI:=bMz 78 56
abbrev ZuJ:=zMz 78 (.agg #[.int .i64 0,.int .i64 0,.int .i64 0,.int .i64 0,.slice none 0 0])
abbrev Zme:=fMz 0 0 0 Tryz.underlying78
abbrev Zmf:=fMz 1 1 0 Tryz.underlying78
abbrev Zmg:=fMz 2 2 0 Tryz.underlying78
abbrev Zmh:=fMz 3 3 0 Tryz.underlying78
abbrev Zmi:=fMz 4 4 0 Tryz.underlying78
abbrev ZuK:=uM Tryz.underlying80
abbrev ZuL:=sMz 80 4
abbrev ZuM:=bMz 80 32
abbrev ZuN:=zMz 80 (.agg #[.int .i64 0,.int .i64 0,.int .i64 0,.int .i64 0])
abbrev Zmj:=fMz 0 0 0 Tryz.underlying80
abbrev Zmk:=fMz 1 1 0 Tryz.underlying80
abbrev Zml:=fMz 2 2 0 Tryz.underlying80
abbrev Zmm:=fMz 3 3 0 Tryz.underlying80
abbrev ZuO:=uM Tryz.underlying90
abbrev ZuP:=sMz 90 1
abbrev ZuQ:=zMz 90 (.slice none 0 0)
abbrev ZuR:=uM Tryz.underlying92
abbrev ZuS:=sMz 92 1
abbrev ZuT:=zMz 92 (.int .i64 0)
abbrev ZuU:=uM Tryz.underlying95
abbrev ZuV:=uM Tryz.underlying97
abbrev ZuW:=sMz 97 4
abbrev ZuX:=zMz 97 (.agg #[.int .i64 0,.int .i64 0,.string ByteArray.empty,.slice none 0 0])
abbrev Zmn:=fMz 0 0 0 Tryz.underlying97
abbrev Zmo:=fMz 1 1 0 Tryz.underlying97
abbrev Zmp:=fMz 2 2 0 Tryz.underlying97
abbrev Zmq:=fMz 3 3 0 Tryz.underlying97
abbrev ZuY:=uM Tryz.underlying99
abbrev ZuZ:=sMz 99 13
abbrev Zv0:=bMz 99 184
abbrev Zv1:=zMz 99 (.agg #[.string ByteArray.empty,.int .i64 0,.string ByteArray.empty,.int .i64 0,.int .i64 0,.string ByteArray.empty,.slice none 0 0,.int .i64 0,.int .i64 0,.string ByteArray.empty,.slice none 0 0,.string ByteArray.empty,.string ByteArray.empty])
abbrev Zmr:=fMz 0 0 0 Tryz.underlying99
abbrev Zms:=fMz 1 1 0 Tryz.underlying99
abbrev Zmt:=fMz 2 2 0 Tryz.underlying99
abbrev Zmu:=fMz 3 3 3 Tryz.underlying99
abbrev Zmv:=fMz 4 7 3 Tryz.underlying99
abbrev Zmw:=fMz 5 11 0 Tryz.underlying99
abbrev Zmx:=fMz 6 12 0 Tryz.underlying99
abbrev ZoU:=uM Tryz.underlying108
abbrev ZoV:=sMz 108 1
abbrev ZoW:=zMz 108 (.map none)
abbrev ZoX:=uM Tryz.underlying113
abbrev ZoY:=sMz 113 7
abbrev ZoZ:=zMz 113 (.agg #[.int .i64 0,.int .i64 0,.int .i64 0,.int .i64 0,.int .i64 0,.int .i64 0,.int .i64 0])
abbrev ZhH:=fMz 0 0 0 Tryz.underlying113
abbrev ZhI:=fMz 1 1 0 Tryz.underlying113
abbrev ZhJ:=fMz 2 2 0 Tryz.underlying113
abbrev ZhK:=fMz 3 3 0 Tryz.underlying113
abbrev ZhL:=fMz 4 4 0 Tryz.underlying113
abbrev ZhM:=fMz 5 5 0 Tryz.underlying113
abbrev ZhN:=fMz 6 6 0 Tryz.underlying113
abbrev Zp0:=uM Tryz.underlying115
abbrev Zp1:=sMz 115 3
abbrev Zp2:=bMz 115 24
abbrev Zp3:=zMz 115 (.agg #[.int .i64 0,.int .i64 0,.int .i64 0])
abbrev ZhO:=fMz 0 0 0 Tryz.underlying115
abbrev ZhP:=fMz 1 1 0 Tryz.underlying115
abbrev ZhQ:=fMz 2 2 0 Tryz.underlying115
abbrev Zp4:=uM Tryz.underlying128
abbrev Zp5:=uM Tryz.underlying132
abbrev Zp6:=sMz 132 3
abbrev Zp7:=zMz 132 (.agg #[.int .i64 0,.int .i64 0,.int .i64 0])
abbrev ZhR:=fMz 0 0 0 Tryz.underlying132
abbrev ZhS:=fMz 1 1 0 Tryz.underlying132
abbrev ZhT:=fMz 2 2 0 Tryz.underlying132
abbrev Zp8:=uM Tryz.underlying138
abbrev Zp9:=sMz 138 9
abbrev Zpa:=bMz 138 72
abbrev Zpb:=zMz 138 (.agg #[.int .i64 0,.int .i64 0,.int .i64 0,.int .i64 0,.int .i64 0,.int .i64 0,.int .i64 0,.int .i64 0,.int .i64 0])
abbrev ZhU:=fMz 0 0 0 Tryz.underlying138
abbrev ZhV:=fMz 1 1 0 Tryz.underlying138
abbrev ZhW:=fMz 2 2 0 Tryz.underlying138
abbrev ZhX:=fMz 3 3 0 Tryz.underlying138
abbrev ZhY:=fMz 4 4 0 Tryz.underlying138
abbrev ZhZ:=fMz 5 5 0 Tryz.underlying138
abbrev Zi0:=fMz 6 6 0 Tryz.underlying138
abbrev Zi1:=fMz 7 7 0 Tryz.underlying138
abbrev Zi2:=fMz 8 8 0 Tryz.underlying138
abbrev Zpc:=sMz 141 2
abbrev Zpd:=bMz 141 16
abbrev Zpe:=zMz 141 (.agg #[.int .i64 0,.int .i64 0])
abbrev Zi3:=fMz 0 0 0 Tryz.underlying141
abbrev Zpf:=uM Tryz.underlying143
abbrev Zpg:=sMz 143 2
abbrev Zph:=bMz 143 16
abbrev Zpi:=zMz 143 (.agg #[.int .i64 0,.int .i64 0])
abbrev Zi4:=fMz 0 0 0 Tryz.underlying143
abbrev Zi5:=fMz 1 1 0 Tryz.underlying143
abbrev Zi6:=fMz 0 0 0 Tryz.underlying146
abbrev Zi7:=fMz 1 1 0 Tryz.underlying146
abbrev Zpj:=uM Tryz.underlying153
abbrev Zpk:=uM Tryz.underlying160
abbrev Zpl:=uM Tryz.underlying164
abbrev Zi8:=fMz 0 0 6 Tryz.underlying167
abbrev Zi9:=fMz 1 7 11 Tryz.underlying167
abbrev Zia:=fMz 2 19 0 Tryz.underlying167
abbrev Zib:=fMz 3 20 0 Tryz.underlying167
abbrev Zic:=fMz 4 21 0 Tryz.underlying167
abbrev Zid:=fMz 5 22 0 Tryz.underlying167
abbrev Zie:=fMz 6 23 0 Tryz.underlying167
abbrev Zif:=fMz 7 24 0 Tryz.underlying167
abbrev Zpm:=uM Tryz.underlying168
abbrev Zpn:=uM Tryz.underlying171
abbrev Zpo:=sMz 171 2
abbrev Zpp:=bMz 171 16
abbrev Zpq:=zMz 171 (.agg #[.int .i64 0,.int .i64 0])
abbrev Zig:=fMz 0 0 0 Tryz.underlying171
abbrev Zih:=fMz 1 1 0 Tryz.underlying171
abbrev Zpr:=zMz 172 (.nilFunc)
abbrev Zps:=uM Tryz.underlying183
abbrev Zpt:=sMz 183 4
abbrev Zpu:=bMz 183 40
abbrev Zpv:=zMz 183 (.agg #[.int .i64 0,.int .i64 0,.string ByteArray.empty,.int .i64 0])
abbrev Zii:=fMz 0 0 0 Tryz.underlying183
abbrev Zij:=fMz 1 1 0 Tryz.underlying183
abbrev Zik:=fMz 2 2 0 Tryz.underlying183
abbrev Zil:=fMz 3 3 0 Tryz.underlying183
abbrev Zpw:=uM Tryz.underlying184
abbrev Zim:=fMz 0 0 0 Tryz.underlying186
abbrev Zin:=fMz 1 1 0 Tryz.underlying186
abbrev Zpx:=uM Tryz.underlying192
abbrev Zpy:=uM Tryz.underlying197
abbrev Zpz:=uM Tryz.underlying235
abbrev ZpA:=sMz 235 2
abbrev ZpB:=zMz 235 (.agg #[.int .i64 0,.int .i64 0])
abbrev Zio:=fMz 0 0 0 Tryz.underlying235
abbrev Zip:=fMz 1 1 0 Tryz.underlying235
abbrev ZpC:=zMz 244 (.agg #[.slice none 0 0])
abbrev Ziq:=fMz 0 0 0 Tryz.underlying244
abbrev ZpD:=uM Tryz.underlying259
abbrev ZpE:=uM Tryz.underlying262
abbrev ZpF:=sMz 262 8
abbrev ZpG:=zMz 262 (.agg #[.int .i64 0,.bool false,.int .i64 0,.string ByteArray.empty,.int .i64 0,.int .i64 0,.int .i64 0,.int .i64 0])
abbrev Zir:=fMz 0 0 0 Tryz.underlying262
abbrev Zis:=fMz 1 1 0 Tryz.underlying262
abbrev Zit:=fMz 2 2 5 Tryz.underlying262
abbrev ZpH:=uM Tryz.underlying263
abbrev ZpI:=uM Tryz.underlying265
abbrev ZpJ:=uM Tryz.underlying268
abbrev ZpK:=uM Tryz.underlying282
abbrev ZpL:=sMz 282 7
abbrev ZpM:=zMz 282 (.agg #[.int .i64 0,.int .i64 0,.int .i64 0,.int .i64 0,.int .i64 0,.int .i64 0,.int .i64 0])
abbrev ZpN:=uM Tryz.underlying295
abbrev ZpO:=uM Tryz.underlying312
abbrev ZpP:=uM Tryz.underlying313
abbrev Ziu:=fMz 0 0 0 Tryz.underlying318
abbrev Ziv:=fMz 1 1 0 Tryz.underlying318
abbrev Ziw:=fMz 2 2 0 Tryz.underlying318
abbrev ZpQ:=uM Tryz.underlying322
abbrev ZpR:=sMz 324 2
abbrev Zix:=fMz 1 1 0 Tryz.underlying324
abbrev ZpS:=uM Tryz.underlying325
abbrev ZpT:=sMz 325 8
abbrev ZpU:=zMz 325 (.agg #[.nilFunc,.nilFunc,.nilFunc,.nilFunc,.nilFunc,.nilFunc,.nilFunc,.nilFunc])
abbrev ZpV:=uM Tryz.underlying329
abbrev ZpW:=zMz 329 (.agg #[.int .i64 0,.int .i64 0,.int .i64 0,.int .i64 0,.int .i64 0,.int .i64 0,.int .i64 0,.int .i64 0,.int .i64 0,.int .i64 0,.int .i64 0,.int .i64 0,.int .i64 0,.int .i64 0,.int .i64 0,.int .i64 0,.int .i64 0,.int .i64 0,.int .i64 0,.int .i64 0,.int .i64 0,.int .i64 0,.int .i64 0,.int .i64 0,.int .i64 0,.int .i64 0,.int .i64 0,.int .i64 0,.int .i64 0,.int .i64 0,.int .i64 0,.int .i64 0])
abbrev ZpX:=uM Tryz.underlying342
abbrev ZpY:=uM Tryz.underlying345
abbrev ZpZ:=sMz 345 2
abbrev Zq0:=bMz 345 16
abbrev Zq1:=zMz 345 (.agg #[.int .i64 0,.int .i64 0])
abbrev Ziy:=fMz 0 0 0 Tryz.underlying345
abbrev Zq2:=uM Tryz.underlying350
abbrev Zq3:=sMz 350 3
abbrev Zq4:=zMz 350 (.agg #[.int .i64 0,.int .i64 0,.int .i64 0])
abbrev Zq5:=uM Tryz.underlying352
abbrev Zq6:=uM Tryz.underlying357
abbrev Zq7:=uM Tryz.underlying371
abbrev Zq8:=uM Tryz.underlying374
abbrev Zq9:=uM Tryz.underlying378
abbrev Zv2:=mkF Tryz.func10
abbrev Zv3:=mkF Tryz.func11
abbrev Zv4:=mkF Tryz.func12
abbrev Zv5:=mkF Tryz.func13
abbrev Zv6:=mkF Tryz.func14
abbrev Zv7:=mkF Tryz.func15
abbrev Zv8:=mkF Tryz.func17
abbrev Zv9:=mkF Tryz.func18
abbrev Zva:=mkF Tryz.func19
abbrev Zvb:=mkF Tryz.func22
abbrev Zvc:=mkF Tryz.func24
abbrev Zvd:=mkF Tryz.func25
abbrev Zve:=mkF Tryz.func26
abbrev Zvf:=mkF Tryz.func27
abbrev Zvg:=mkF Tryz.func28
abbrev Zvh:=mkF Tryz.func29
abbrev Zvi:=mkF Tryz.func31
abbrev Zvj:=mkF Tryz.func32
abbrev Zvk:=mkF Tryz.func33
abbrev Zvl:=mkF Tryz.func34
abbrev Zvm:=mkF Tryz.func35
abbrev Zvn:=mkF Tryz.func36
abbrev Zvo:=mkF Tryz.func37
abbrev Zvp:=mkF Tryz.func38
abbrev Zvq:=mkF Tryz.func39
abbrev Zvr:=mkF Tryz.func40
abbrev Zvs:=mkF Tryz.func41
abbrev Zvt:=mkF Tryz.func42
abbrev Zvu:=mkF Tryz.func43
abbrev Zvv:=mkF Tryz.func44
abbrev Zvw:=mkF Tryz.func45
abbrev Zvx:=mkF Tryz.func46
abbrev Zvy:=mkF Tryz.func47
abbrev Zvz:=mkF Tryz.func48
abbrev ZvA:=mkF Tryz.func49
abbrev ZvB:=mkF Tryz.func50
abbrev ZvC:=mkF Tryz.func51
abbrev ZvD:=mkF Tryz.func52
abbrev ZvE:=mkF Tryz.func53
abbrev ZvF:=mkF Tryz.func54
abbrev ZvG:=mkF Tryz.func55
abbrev ZvH:=mkF Tryz.func56
abbrev ZvI:=mkF Tryz.func57
abbrev ZvJ:=mkF Tryz.func58
abbrev ZvK:=mkF Tryz.func59
abbrev ZvL:=mkF Tryz.func60
abbrev ZvM:=mkF Tryz.func64
abbrev ZvN:=mkF Tryz.func65
abbrev ZvO:=mkF Tryz.func66
abbrev ZvP:=mkF Tryz.func67
abbrev ZvQ:=mkF Tryz.func68
abbrev ZvR:=mkF Tryz.func69
abbrev ZvS:=mkF Tryz.func70
abbrev ZvT:=mkF Tryz.func71
abbrev ZvU:=mkF Tryz.func74
abbrev ZvV:=mkF Tryz.func75
abbrev ZvW:=mkF Tryz.func76
abbrev ZvX:=mkF Tryz.func77
abbrev ZvY:=mkF Tryz.func78
abbrev ZvZ:=mkF Tryz.func79
abbrev Zw0:=mkF Tryz.func80
abbrev Zw1:=mkF Tryz.func81
abbrev Zw2:=mkF Tryz.func82
abbrev Zw3:=mkF Tryz.func83
abbrev Zw4:=mkF Tryz.func84
abbrev Zw5:=mkF Tryz.func85
abbrev Zw6:=mkF Tryz.func86
abbrev Zw7:=mkF Tryz.func87
abbrev Zw8:=mkF Tryz.func88
abbrev Zw9:=mkF Tryz.func89
abbrev Zwa:=mkF Tryz.func90
abbrev Zwb:=mkF Tryz.func91
abbrev Zwc:=mkF Tryz.func92
abbrev Zwd:=mkF Tryz.func93
abbrev Zwe:=mkF Tryz.func96
abbrev Zqa:=mkF Tryz.func101
abbrev Zqb:=mkF Tryz.func102
abbrev Zqc:=mkF Tryz.func103
abbrev Zqd:=mkF Tryz.func104
abbrev Zqe:=mkF Tryz.func105
abbrev Zqf:=mkF Tryz.func106
abbrev Zqg:=mkF Tryz.func107
abbrev Zqh:=mkF Tryz.func108
abbrev Zqi:=mkF Tryz.func109
abbrev Zqj:=mkF Tryz.func110
abbrev Zqk:=mkF Tryz.func111
abbrev Zql:=mkF Tryz.func112
abbrev Zqm:=mkF Tryz.func113
abbrev Zqn:=mkF Tryz.func114
abbrev Zqo:=mkF Tryz.func125
abbrev Zqp:=mkF Tryz.func126
abbrev Zqq:=mkF Tryz.func127
abbrev Zqr:=mkF Tryz.func128
abbrev Zqs:=mkF Tryz.func129
abbrev Zqt:=mkF Tryz.func130
abbrev Zqu:=mkF Tryz.func131
abbrev Zqv:=mkF Tryz.func132
abbrev Zqw:=mkF Tryz.func133
abbrev Zqx:=mkF Tryz.func134
abbrev Zqy:=mkF Tryz.func135
abbrev Zqz:=mkF Tryz.func136
abbrev ZqA:=mkF Tryz.func137
abbrev ZqB:=mkF Tryz.func138
abbrev ZqC:=mkF Tryz.func139
abbrev ZqD:=mkF Tryz.func140
abbrev ZqE:=mkF Tryz.func141
abbrev ZqF:=mkF Tryz.func142
abbrev ZqG:=mkF Tryz.func143
abbrev ZqH:=mkF Tryz.func144
abbrev ZqI:=mkF Tryz.func145
abbrev ZqJ:=mkF Tryz.func146
abbrev ZqK:=mkF Tryz.func147
abbrev ZqL:=mkF Tryz.func148
abbrev ZqM:=mkF Tryz.func149
abbrev ZqN:=mkF Tryz.func150
abbrev ZqO:=mkF Tryz.func151
abbrev ZqP:=mkF Tryz.func153
abbrev ZqQ:=mkF Tryz.func154
abbrev ZqR:=mkF Tryz.func155
abbrev ZqS:=mkF Tryz.func156
abbrev ZqT:=mkF Tryz.func157
abbrev ZqU:=mkF Tryz.func158
abbrev ZqV:=mkF Tryz.func159
abbrev ZqW:=mkF Tryz.func160
abbrev ZqX:=mkF Tryz.func161
abbrev ZqY:=mkF Tryz.func162
abbrev ZqZ:=mkF Tryz.func163
abbrev Zr0:=mkF Tryz.func164
abbrev Zr1:=mkF Tryz.func165
abbrev Zr2:=mkF Tryz.func166
abbrev Zr3:=mkF Tryz.func167
abbrev Zr4:=mkF Tryz.func168
abbrev Zr5:=mkF Tryz.func169
abbrev Zr6:=mkF Tryz.func170
abbrev Zr7:=mkF Tryz.func171
abbrev Zr8:=mkF Tryz.func178
abbrev Zr9:=mkF Tryz.func179
abbrev Zra:=mkF Tryz.func180
abbrev Zrb:=mkF Tryz.func181
abbrev Zrc:=mkF Tryz.func182
abbrev Zrd:=mkF Tryz.func183
abbrev Zre:=mkF Tryz.func184
abbrev Zrf:=mkF Tryz.func185
abbrev Zrg:=mkF Tryz.func186
abbrev Zrh:=mkF Tryz.func187
abbrev Zri:=mkF Tryz.func188
abbrev Zrj:=mkF Tryz.func189
abbrev Zrk:=mkF Tryz.func190
abbrev Zrl:=mkF Tryz.func191
abbrev Zrm:=mkF Tryz.func192
abbrev Zrn:=mkF Tryz.func193
abbrev Zro:=mkF Tryz.func194
abbrev Zrp:=mkF Tryz.func195
abbrev Zrq:=mkF Tryz.func201
abbrev Zrr:=mkF Tryz.func202
abbrev Zrs:=mkF Tryz.func203
abbrev Zrt:=mkF Tryz.func204
abbrev Zru:=mkF Tryz.func205
abbrev Zrv:=mkF Tryz.func206
abbrev Zrw:=mkF Tryz.func207
abbrev Zrx:=mkF Tryz.func208
abbrev Zry:=mkF Tryz.func209
abbrev Zrz:=mkF Tryz.func210
abbrev ZrA:=mkF Tryz.func213
abbrev ZrB:=mkF Tryz.func214
abbrev ZrC:=mkF Tryz.func215
abbrev ZrD:=mkF Tryz.func216
abbrev ZrE:=mkF Tryz.func217
abbrev ZrF:=mkF Tryz.func218
abbrev ZrG:=mkF Tryz.func219
abbrev ZrH:=mkF Tryz.func220
abbrev ZrI:=mkF Tryz.func221
abbrev ZrJ:=mkF Tryz.func222
abbrev ZrK:=mkF Tryz.func223
abbrev ZrL:=mkF Tryz.func224
abbrev ZrM:=mkF Tryz.func225
abbrev ZrN:=mkF Tryz.func226
abbrev ZrO:=mkF Tryz.func227
abbrev ZrP:=mkF Tryz.func228
abbrev ZrQ:=mkF Tryz.func229
abbrev ZrR:=mkF Tryz.func230
abbrev ZrS:=mkF Tryz.func231
abbrev ZrT:=mkF Tryz.func234
abbrev ZrU:=mkF Tryz.func241
abbrev ZrV:=mkF Tryz.func242
abbrev ZrW:=mkF Tryz.func243
abbrev ZrX:=mkF Tryz.func244
abbrev ZrY:=mkF Tryz.func245
abbrev ZrZ:=mkF Tryz.func246
abbrev Zs0:=mkF Tryz.func247
abbrev Zs1:=mkF Tryz.func248
abbrev Zs2:=mkF Tryz.func249
abbrev Zs3:=mkF Tryz.func250
abbrev Zs4:=mkF Tryz.func251
abbrev Zs5:=mkF Tryz.func252
abbrev Zs6:=mkF Tryz.func253
abbrev Zs7:=mkF Tryz.func254
abbrev Zs8:=mkF Tryz.func256
abbrev Zs9:=mkF Tryz.func257
abbrev Zsa:=mkF Tryz.func258
abbrev Zsb:=mkF Tryz.func259
abbrev Zsc:=mkF Tryz.func260
abbrev Zsd:=mkF Tryz.func261
abbrev Zse:=mkF Tryz.func262
abbrev Zsf:=mkF Tryz.func263
abbrev Zsg:=mkF Tryz.func272
abbrev Zsh:=mkF Tryz.func273
abbrev Zsi:=mkF Tryz.func274
abbrev Zsj:=mkF Tryz.func275
abbrev Zsk:=mkF Tryz.func276
abbrev Zsl:=mkF Tryz.func277
abbrev Zsm:=mkF Tryz.func279
abbrev Zsn:=mkF Tryz.func280
abbrev Zso:=mkF Tryz.func282
abbrev Zsp:=mkF Tryz.func283
abbrev Zsq:=mkF Tryz.func284
abbrev Zsr:=mkF Tryz.func285
abbrev Zss:=mkF Tryz.func290
abbrev Zst:=mkF Tryz.func295
abbrev Zsu:=mkF Tryz.func296
abbrev Zsv:=mkF Tryz.func297
abbrev Zsw:=mkF Tryz.func298
abbrev Zsx:=mkF Tryz.func299
abbrev Zsy:=mkF Tryz.func300
abbrev Zsz:=mkF Tryz.func301
abbrev ZsA:=mkF Tryz.func303
abbrev ZsB:=mkF Tryz.func304
abbrev ZsC:=mkF Tryz.func306
abbrev ZsD:=mkF Tryz.func307
abbrev ZsE:=mkF Tryz.func309
abbrev ZsF:=mkF Tryz.func311
abbrev ZsG:=mkF Tryz.func312
abbrev ZsH:=mkF Tryz.func314
abbrev ZsI:=mkF Tryz.func318
abbrev ZsJ:=mkF Tryz.func319
abbrev ZsK:=mkF Tryz.func321
abbrev ZsL:=mkF Tryz.func326
abbrev ZsM:=mkF Tryz.func333
abbrev ZsN:=mkF Tryz.func334
abbrev ZsO:=mkF Tryz.func335
abbrev ZsP:=mkF Tryz.func336
abbrev ZsQ:=mkF Tryz.func347
abbrev ZsR:=mkF Tryz.func356
abbrev ZsS:=mkF Tryz.func360
abbrev CC (f:Nat) (a:Array Value) (w:World) (G:Value->World->Prop):=Calls Tryz.prog f a w (Ret G)
attribute [instance] Zxf Zxj Zxn Zxp ZtC ZtD ZtE ZtG ZtK ZtN ZtP ZtQ ZtT ZtU ZtW ZtY Zu0 Zu3 Zu6 Zu9 Zud Zug Zui Zum Zuo Zus Zuw ZuA ZuE ZuG ZuK ZuO ZuR ZuU ZuV ZuY ZoU ZoX Zp0 Zp4 Zp5 Zp8 Zpf Zpj Zpk Zpl Zpm Zpn Zps Zpw Zpx Zpy Zpz ZpD ZpE ZpH ZpI ZpJ ZpK ZpN ZpO ZpP ZpQ ZpS ZpV ZpX ZpY Zq2 Zq5 Zq6 Zq7 Zq8 Zq9 Zv2 Zv3 Zv4 Zv5 Zv6 Zv7 Zv8 Zv9 Zva Zvb Zvc Zvd Zve Zvf Zvg Zvh Zvi Zvj Zvk Zvl Zvm Zvn Zvo Zvp Zvq Zvr Zvs Zvt Zvu Zvv Zvw Zvx Zvy Zvz ZvA ZvB ZvC ZvD ZvE ZvF ZvG ZvH ZvI ZvJ ZvK ZvL ZvM ZvN ZvO ZvP ZvQ ZvR ZvS ZvT ZvU ZvV ZvW ZvX ZvY ZvZ Zw0 Zw1 Zw2 Zw3 Zw4 Zw5 Zw6 Zw7 Zw8 Zw9 Zwa Zwb Zwc Zwd Zwe Zqa Zqb Zqc Zqd Zqe Zqf Zqg Zqh Zqi Zqj Zqk Zql Zqm Zqn Zqo Zqp Zqq Zqr Zqs Zqt Zqu Zqv Zqw Zqx Zqy Zqz ZqA ZqB ZqC ZqD ZqE ZqF ZqG ZqH ZqI ZqJ ZqK ZqL ZqM ZqN ZqO ZqP ZqQ ZqR ZqS ZqT ZqU ZqV ZqW ZqX ZqY ZqZ Zr0 Zr1 Zr2 Zr3 Zr4 Zr5 Zr6 Zr7 Zr8 Zr9 Zra Zrb Zrc Zrd Zre Zrf Zrg Zrh Zri Zrj Zrk Zrl Zrm Zrn Zro Zrp Zrq Zrr Zrs Zrt Zru Zrv Zrw Zrx Zry Zrz ZrA ZrB ZrC ZrD ZrE ZrF ZrG ZrH ZrI ZrJ ZrK ZrL ZrM ZrN ZrO ZrP ZrQ ZrR ZrS ZrT ZrU ZrV ZrW ZrX ZrY ZrZ Zs0 Zs1 Zs2 Zs3 Zs4 Zs5 Zs6 Zs7 Zs8 Zs9 Zsa Zsb Zsc Zsd Zse Zsf Zsg Zsh Zsi Zsj Zsk Zsl Zsm Zsn Zso Zsp Zsq Zsr Zss Zst Zsu Zsv Zsw Zsx Zsy Zsz ZsA ZsB ZsC ZsD ZsE ZsF ZsG ZsH ZsI ZsJ ZsK ZsL ZsM ZsN ZsO ZsP ZsQ ZsR ZsS Zxg Zxh Zxi Zxk Zxl Zxm Zxo Zxq Zxr Zxs ZtF ZtH ZtI ZtJ ZtL ZtM ZtO ZtR ZtS ZtV ZtX ZtZ Zu1 Zu2 Zlq Zlr Zu4 Zu5 Zls Zlt Zlu Zlv Zlw Zu7 Zu8 Zlx Zly Zlz ZlA ZlB ZlC ZlD ZlE Zua Zub Zuc ZlF ZlG ZlH ZlI ZlJ ZlK Zue Zuf Zuh Zuj Zuk Zul ZlL ZlM ZlN ZlO ZlP ZlQ Zun Zup Zuq Zur ZlR ZlS ZlT ZlU ZlV ZlW ZlX Zut Zuu Zuv ZlY ZlZ Zm0 Zm1 Zm2 Zm3 Zm4 Zm5 Zm6 Zm7 Zm8 Zux Zuy Zuz Zm9 Zma Zmb ZuB ZuC ZuD Zmc Zmd ZuF ZuH ZuI ZuJ Zme Zmf Zmg Zmh Zmi ZuL ZuM ZuN Zmj Zmk Zml Zmm ZuP ZuQ ZuS ZuT ZuW ZuX Zmn Zmo Zmp Zmq ZuZ Zv0 Zv1 Zmr Zms Zmt Zmu Zmv Zmw Zmx ZoV ZoW ZoY ZoZ ZhH ZhI ZhJ ZhK ZhL ZhM ZhN Zp1 Zp2 Zp3 ZhO ZhP ZhQ Zp6 Zp7 ZhR ZhS ZhT Zp9 Zpa Zpb ZhU ZhV ZhW ZhX ZhY ZhZ Zi0 Zi1 Zi2 Zpc Zpd Zpe Zi3 Zpg Zph Zpi Zi4 Zi5 Zi6 Zi7 Zi8 Zi9 Zia Zib Zic Zid Zie Zif Zpo Zpp Zpq Zig Zih Zpr Zpt Zpu Zpv Zii Zij Zik Zil Zim Zin ZpA ZpB Zio Zip ZpC Ziq ZpF ZpG Zir Zis Zit ZpL ZpM Ziu Ziv Ziw ZpR Zix ZpT ZpU ZpW ZpZ Zq0 Zq1 Ziy Zq3 Zq4
end Go.Proofs.YtipfkbkkndacjaaGreatDoor
namespace Go.Eng
open Go Go.RowKit Go.Proofs
structure Stp (S:List Nat) (w w':World):Prop where
 os:w'.os=w.os
 tape:w'.tape=w.tape
 output:w'.output=w.output
 size:w.heap.size<=w'.heap.size
 block:∀ b,b<w.heap.size->b∉S->w'.heap[b]?=w.heap[b]?
theorem Stp.refl (S:List Nat) (w:World):Stp S w w:=⟨rfl,rfl,rfl,Xn _,λ_ _ _=>rfl⟩
theorem Stp.trans {S:List Nat} {a b c:World} (h:Stp S a b) (k:Stp S b c):Stp S a c:=
 ⟨k.os.trans h.os,k.tape.trans h.tape,k.output.trans h.output,Xh h.size k.size,λi hi hn=>(k.block i (Xa hi h.size) hn).trans (h.block i hi hn)⟩
theorem Stp.mono {S S':List Nat} {a b:World} (h:Stp S a b) (hs:∀ x∈S,x∈S'):Stp S' a b:=⟨h.os,h.tape,h.output,h.size,λi hi hn=>h.block i hi (λhx=>hn (hs i hx))⟩
theorem Stp.own {S S':List Nat} {a b c:World} (h:Stp S a b) (k:Stp S' b c) (hs:∀ x∈S',x∈S\/a.heap.size<=x):Stp S a c:=
 ⟨k.os.trans h.os, k.tape.trans h.tape, k.output.trans h.output, Xh h.size k.size, λi hi hn => (k.block i (Xa hi h.size) (λhx => by
   rcases hs i hx with h1|h1
   exact hn h1;omega)).trans (h.block i hi hn)⟩
theorem Stp.below {a b:World} (h:Stp [] a b):Below a.heap.size a b:=⟨h.os,h.tape,h.output,h.size,λi hi=>h.block i hi (by simp)⟩
theorem Stp.of_below {a b:World} (h:Below a.heap.size a b):Stp [] a b:=⟨h.os,h.tape,h.output,h.size,λi hi _=>h.block i hi⟩
theorem Stp.cell {S:List Nat} {w w':World} (h:Stp S w w') {b o:Nat} {v:Value} (hb:b∉S) (hc:w.cell? ⟨b,o,none⟩=some v):w'.cell? ⟨b,o,none⟩=some v:=by
 have hlt:b<w.heap.size:=block_lt_of_cell (a:=⟨b,o,none⟩) hc;rw [<- hc];exact World.cell?_of_block (w:=w) (h.block b hlt hb)
theorem Stp.drew (S:List Nat) (w:World):Stp S w w.drew:=⟨rfl,rfl,rfl,Xn _,λ_ _ _=>rfl⟩
theorem Stp.alloc (S:List Nat) (w:World) (o:Obj):Stp S w (w.alloc o):=⟨rfl,rfl,rfl,by simp,λk hk _=>Below.heap_alloc w o k hk⟩
theorem Stp.of_grown {w w':World} {row:Option Nat} (h:w.grownBy w' row):Stp row.toList w w':=
 ⟨h.os,h.tape,h.output,h.size,λk hk hn=>h.block k hk (λe=>hn (by simp [<- e]))⟩
class Z5 (α:Type) where
 k:Nat
 rep:List Nat->World->α->List Value->Prop
 len:∀ {X:List Nat} {w:World} {x:α} {cs:List Value},rep X w x cs->cs.length=k
 one:∀ {X:List Nat} {w:World} {x:α} {cs:List Value},rep X w x cs->∀ u∈cs,u.oneCell'=true
 ext:∀ {X S X':List Nat} {w w':World} {x:α} {cs:List Value},rep X w x cs->Stp S w w'->(∀ b∈S,b∈X)->(∀ b∈X',b∈X\/w.heap.size<=b)->rep X' w' x cs
class Z3 (α:Type) where
 k:Nat
 enc:α->List Value
 len:∀ x,(enc x).length=k
 one:∀ x,∀ u∈enc x,u.oneCell'=true
instance {α:Type} [Z3 α]:Z5 α where
 k:=Z3.k α
 rep:=λ_ _ x cs=>cs=Z3.enc x
 len:=λh=>h ▸ Z3.len _
 one:=λh=>h ▸ Z3.one _
 ext:=λh _ _ _=>h
instance:Z3 Int where
 k:=1
 enc:=λx=>[.int .i64 x]
 len:=λ_=>rfl
 one:=by intro x u hu;simp at hu;subst hu;rfl
instance:Z3 Bool where
 k:=1
 enc:=λx=>[.bool x]
 len:=λ_=>rfl
 one:=by intro x u hu;simp at hu;subst hu;rfl
def SlV {α:Type} [Z5 α] (X:List Nat) (w:World) (v:Value) (xs:List α):Prop:=
 ∃ (p : Option Addr) (c : Nat), v = .slice p xs.length c /\ xs.length <= c /\ c <= maxLen /\ (p = none -> c = 0)/\
   ∀ i (h:i<xs.length),∃ b o cs,p=some ⟨b,o,none⟩/\b<w.heap.size/\b∉X/\Z5.rep X w xs[i] cs/\∀ j u,cs[j]?=some u->w.cell? ⟨b,o+i * Z5.k α+j,none⟩=some u
theorem SlV.ext {α:Type} [Z5 α] {X S X':List Nat} {w w':World} {v:Value} {xs:List α} (h:SlV X w v xs) (hS:Stp S w w') (h1:∀ b∈S,b∈X) (h2:∀ b∈X',b∈X\/w.heap.size<=b):SlV X' w' v xs:=by
 obtain ⟨p,c,hv,hl,hm,hn,hc⟩:=h;refine ⟨p,c,hv,hl,hm,hn,λi hi=>?_⟩;obtain ⟨b,o,cs,hp,hb,hx,hr,an⟩:=hc i hi;refine ⟨b,o,cs,hp,Xa hb hS.size,λuH=>?_,Z5.ext hr hS h1 h2,λj u hu=>hS.cell (λdD=>hx (h1 b dD)) (an j u hu)⟩;rcases h2 b uH with h|h
 exact hx h;omega
theorem SlV.up {α:Type} [Z5 α] {X:List Nat} {w w':World} {v:Value} {xs:List α} (h:SlV X w v xs) (hS:Stp [] w w'):SlV X w' v xs:=
 h.ext hS (by simp) (λb hb=>.inl hb)
theorem SlV.len {α:Type} [Z5 α] {X:List Nat} {w:World} {v:Value} {xs:List α} (h:SlV X w v xs):∃ p c,v=.slice p xs.length c:=let ⟨p,c,hv,_⟩:=h;⟨p,c,hv⟩
theorem SlV.cells {α:Type} [Z5 α] {X:List Nat} {w:World} {v:Value} {xs:List α} (h:SlV X w v xs):v.cells.toList=[v]:=by
 obtain ⟨p,c,rfl⟩:=h.len;rfl
theorem SlV.one {α:Type} [Z5 α] {X:List Nat} {w:World} {v:Value} {xs:List α} (h:SlV X w v xs):v.oneCell'=true:=by
 obtain ⟨p,c,rfl⟩:=h.len;rfl
theorem SlV.max {α:Type} [Z5 α] {X:List Nat} {w:World} {v:Value} {xs:List α} (h:SlV X w v xs):xs.length<=9223372036854775807:=by
 obtain ⟨p,c,hv,hl,hm,_⟩:=h;simp only [maxLen] at hm;omega
def ZD (v:Value) (i k j:Nat):Addr:=
 match v with
 | .slice (some a) _ _=>⟨a.block,a.off+i * k+j,none⟩
 | _=>⟨0,0,none⟩
def Blk (w:World) (b:Nat) (T:TypeId) (cs:List Value):Prop:=w.heap[b]?=some (.cells cs.toArray T (0,0))
theorem Blk.lt {w:World} {b T:Nat} {cs:List Value} (h:Blk w b T cs):b<w.heap.size:=(Xl.1 h).1
theorem Blk.ext {w w':World} {S:List Nat} {b T:Nat} {cs:List Value} (h:Blk w b T cs) (hS:Stp S w w') (hb:b∉S):Blk w' b T cs:=by
 unfold Blk at *;rw [hS.block b (Blk.lt h) hb];exact h
theorem Blk.up {w w':World} {b T:Nat} {cs:List Value} (h:Blk w b T cs) (hS:Stp [] w w'):Blk w' b T cs:=h.ext hS (by simp)
theorem Blk.cell {w:World} {b T:Nat} {cs:List Value} (h:Blk w b T cs) {j:Nat} {u:Value} (hu:cs[j]?=some u):w.cell? ⟨b,j,none⟩=some u:=by
 unfold Blk at h;simp [World.cell?,h,hu]
section rules
variable {P:Program} {n:Nat} {e:Env} {w:World} {d:Option Nat} {ty:TypeId} {pos:String} {af:Array Edge} {g:Option (Nat×Bool)}
theorem Zmy {α:Type} [Z5 α] {X:List Nat} {xs:List α} {v:Value} {x:Operand} {t:TypeId} {el:TypeId} {dm:World} [hu:Und P t (.slice el)] (hx:ev e x=some v) (hs:SlV X dm v xs) :
 PR P n ⟨d,.call { callee:=.builtin .len,args:=#[x],argTypes:=#[t] },ty,pos,af,g⟩ e w (.int .i64 (xs.length:Int)):=by
 obtain ⟨p,c,rfl⟩:=hs.len;exact ZhG hx
theorem Z2X {α:Type} [Z5 α] {X:List Nat} {xs:List α} {v:Value} {x y:Operand} {t:TypeId} {el k:Nat} [hu:Und P t (.slice el)] [hk:Siz P el k] {z:Int} {i:Nat} {dm:World}
 (hx:ev e x=some v) (hs:SlV X dm v xs) (hy:ev e y=some (.int .i64 z)) (hz:z=(i:Int)) (hi:i<xs.length) :
 PR P n ⟨d,.indexAddr t x y,ty,pos,af,g⟩ e w (.pointer (some (ZD v i k 0))):=by
 refine ⟨λa ha=>?_⟩;obtain ⟨p,c,rfl,hl,hm,hn,hc⟩:=hs;obtain ⟨b,o,cs,rfl,_⟩:=hc i hi;subst hz;have h0:(0:Int)<=(i:Int)/\(i:Int)<(xs.length:Int):=by omega
 have hr:(Instr.indexAt t (.slice (some ⟨b,o,none⟩) xs.length c) (.int .i64 (i:Int))).run P w=.ok (.pointer (some ⟨b,o+i * k,none⟩)) w:=by
  simp only [Instr.indexAt,asIntOf];simp [run_underlying hu.h,Siz.run,Addr.add_lit,hi]
 simp [execOp,ha.ev hx,ha.ev hy,hr,ZD]
theorem Z6T {x:Operand} {t:TypeId} {v:Value} {i k j m off:Nat} [hf:Fld P t m off] (hx:ev e x=some (.pointer (some (ZD v i k j))))
 (hv:∃ p l c,v=.slice (some p) l c):PR P n ⟨d,.fieldAddr t x m,ty,pos,af,g⟩ e w (.pointer (some (ZD v i k (j+off)))):=by
 obtain ⟨p,l,c,rfl⟩:=hv;exact ⟨λa ha=>by simp [execOp,ha.ev hx,ZD,Z6S,Yat]⟩
theorem SlV.isSome {α:Type} [Z5 α] {X:List Nat} {v:Value} {xs:List α} {i:Nat} (h:SlV X w v xs) (hi:i<xs.length):∃ p l c,v=.slice (some p) l c:=by
 obtain ⟨p,c,rfl,_,_,_,hc⟩:=h;obtain ⟨b,o,cs,rfl,_⟩:=hc i hi;exact ⟨_,_,_,rfl⟩
theorem SlV.cell {α:Type} [Z5 α] {X:List Nat} {v:Value} {xs:List α} {i:Nat} (h:SlV X w v xs) (hi:i<xs.length):∃ cs,Z5.rep X w xs[i] cs/\∀ j u,cs[j]?=some u->w.cell? (ZD v i (Z5.k α) j)=some u:=by
 obtain ⟨p,c,rfl,_,_,_,hc⟩:=h;obtain ⟨b,o,cs,rfl,_,_,hr,an⟩:=hc i hi;exact ⟨cs,hr,λj u hu=>by simpa [ZD] using an j u hu⟩
theorem SlV.cellF {α:Type} [Z3 α] {X:List Nat} {v:Value} {xs:List α} {i:Nat} (h:SlV X w v xs) (hi:i<xs.length) {j:Nat} {u:Value} (hu:(Z3.enc xs[i])[j]?=some u):w.cell? (ZD v i (Z3.k α) j)=some u:=by
 obtain ⟨cs,hr,hc⟩:=h.cell hi;have bN:cs=Z3.enc xs[i]:=hr;subst bN;exact hc j u hu
theorem Z1R {α:Type} [Z3 α] {X:List Nat} {xs:List α} {v u:Value} {i j k:Nat} {x:Operand} {t:TypeId} {D:TypeDesc} [hu:Und P t D] (hA:Z0R D=false) (hx:ev e x=some (.pointer (some (ZD v i k j))))
 (hs:SlV X w v xs) (hi:i<xs.length) (hk:k=Z3.k α) (hc:(Z3.enc xs[i])[j]?=some u):PR P n ⟨d,.load t x,ty,pos,af,g⟩ e w u:=
 JI hA hx (by subst hk;exact hs.cellF hi hc)
theorem Zbu {α:Type} [Z3 α] {X:List Nat} {xs:List α} {v:Value} {us:List Value} {i j k m:Nat} {x:Operand} {t:TypeId} {D:TypeDesc} [hu:Und P t D] (hA:Z0R D=true) [bG:Siz P t m] (hx:ev e x=some (.pointer (some (ZD v i k j))))
 (hs:SlV X w v xs) (hi:i<xs.length) (hk:k=Z3.k α) (hl:us.length=m) (hc:((Z3.enc xs[i]).drop j).take m=us):PR P n ⟨d,.load t x,ty,pos,af,g⟩ e w (.agg us.toArray):=by
 obtain ⟨p,l,c,hv⟩:=hs.isSome hi;have an:=λ(q:Nat) (u:Value) (h:(Z3.enc xs[i])[q]?=some u)=>hs.cellF hi h;subst hv;refine Z3z hA hx hl (λq u hq=>?_);have h1:(Z3.enc xs[i])[j+q]?=some u:=by
  rw [<- hc,Yah] at hq;split at hq;simpa using hq;cases hq
 have:=an (j+q) u h1;subst hk;simpa [ZD,Yat] using this
theorem Zbv {α:Type} [Z3 α] {X:List Nat} {xs:List α} {v:Value} {i k:Nat} {x:Operand} {t:TypeId} {D:TypeDesc} [hu:Und P t D] (hA:Z0R D=true) [bG:Siz P t k] (hx:ev e x=some (.pointer (some (ZD v i k 0))))
 (hs:SlV X w v xs) (hi:i<xs.length) (hk:k=Z3.k α):PR P n ⟨d,.load t x,ty,pos,af,g⟩ e w (.agg (Z3.enc xs[i]).toArray):=
 Zbu hA hx hs hi hk (by rw [hk];exact Z3.len _) (by rw [YbL,XL (by rw [hk,Z3.len];exact Xn _)])
theorem J1 {b T o:Nat} {cs:List Value} {u:Value} {x:Operand} {t:TypeId} {D:TypeDesc} [hu:Und P t D] (hA:Z0R D=false) (hx:ev e x=some (.pointer (some ⟨b,o,none⟩))) (hb:Blk w b T cs) (hc:cs[o]?=some u) :
 PR P n ⟨d,.load t x,ty,pos,af,g⟩ e w u:=JI hA hx (hb.cell hc)
theorem Zl {b T o m:Nat} {cs us:List Value} {x:Operand} {t:TypeId} {D:TypeDesc} [hu:Und P t D] (hA:Z0R D=true) [bG:Siz P t m] (hx:ev e x=some (.pointer (some ⟨b,o,none⟩))) (hb:Blk w b T cs)
 (hl:us.length=m) (hc:(cs.drop o).take m=us):PR P n ⟨d,.load t x,ty,pos,af,g⟩ e w (.agg us.toArray):=by
 refine Z3z hA hx hl (λq u hq=>hb.cell ?_);rw [<- hc,Yah] at hq;split at hq;simpa using hq;cases hq
theorem ZC {b T m:Nat} {cs:List Value} {x:Operand} {t:TypeId} {D:TypeDesc} [hu:Und P t D] (hA:Z0R D=true) [bG:Siz P t m] (hx:ev e x=some (.pointer (some ⟨b,0,none⟩))) (hb:Blk w b T cs)
 (hl:cs.length=m):PR P n ⟨d,.load t x,ty,pos,af,g⟩ e w (.agg cs.toArray):=
 Zl hA hx hb hl (by rw [YbL,XL (by omega)])
def Z7M (w:World) (T:TypeId) (cs:List Value) (v:Value) (w':World):Prop:=∃ b,v=.pointer (some ⟨b,0,none⟩)/\w.heap.size<=b/\Blk w' b T cs/\Stp [] w w'
theorem Zam (w:World) (T:TypeId) (cs:List Value):Z7M w T cs (.pointer (some ⟨w.heap.size,0,none⟩)) (w.alloc (.cells cs.toArray T)):=
 ⟨_,rfl,Xn _,heap_alloc_new w _,Stp.alloc _ _ _⟩
theorem Jf {o:Oper} {G:Value->World->Prop} {v:Value} {w':World} (h:∀ a,Has n e a->(execOp a.eval o).run P w=.ok (.value v) w') (hg:G v w'):OE P n o e w G:=
 ⟨λa ha Q=>by unfold Oper.wp;rw [h a ha];exact ⟨v,rfl,hg⟩⟩
theorem Z4i {o:Oper} {G:Value->World->Prop} {w':World} (h:∀ a,Has n e a->(execOp a.eval o).run P w=.ok .skip w') (hg:G undef w'):OE P n o e w G:=
 ⟨λa ha Q=>by unfold Oper.wp;rw [h a ha];exact ⟨undef,rfl,hg⟩⟩
theorem OE.mono {o:Oper} {G G':Value->World->Prop} (h:OE P n o e w G) (hg:∀ v w',G v w'->G' v w'):OE P n o e w G':=
 ⟨λa ha Q=>Oper.wp_mono (λa' w' ⟨v,h1,h2⟩=>⟨v,h1,hg v w' h2⟩) (h.h a ha Q)⟩
theorem Z2 {t:TypeId} {z:Value} [hz:Zer P t z]:OE P n ⟨d,.alloc t,ty,pos,af,g⟩ e w (Z7M w t z.cells.toList):=
 Jf (v:=.pointer (some ⟨w.heap.size,0,none⟩)) (w':=w.alloc (.cells z.cells t)) (λa ha=>by
  simp [execOp,Instr.alloc,Zer.run,newVar,newRow,newObj];rfl) (by simpa using Zam w t z.cells.toList)
theorem Zr {t:TypeId} {x:Operand} {v:Value} (hx:ev e x=some v):OE P n ⟨d,.box t x,ty,pos,af,g⟩ e w (Z7M w t v.cells.toList):=
 Jf (v:=.pointer (some ⟨w.heap.size,0,none⟩)) (w':=w.alloc (.cells v.cells t)) (λa ha=>by
  simp [execOp,Instr.box,ha.ev hx,newVar,newRow,newObj];rfl) (by simpa using Zam w t v.cells.toList)
theorem Zan {α:Type} [Z5 α] {X:List Nat} {dm:World} {xs:List α} {t:TypeId} {x:Operand} {v:Value} (hx:ev e x=some v) (hs:SlV X dm v xs):OE P n ⟨d,.box t x,ty,pos,af,g⟩ e w (Z7M w t [v]):=by
 rw [<- hs.cells];exact Zr hx
theorem Z1S (w:World) (b:Nat) (cs:Array Value):Stp [b] w (w.setRow b cs):=
 ⟨rfl,rfl,rfl,by simp,λk hk hn=>setRow_other w b k cs (by simpa using hn)⟩
theorem Z18 {b T o m t:Nat} {cs us:List Value} {x y:Operand} {u:Value} [bG:Siz P t m] (hx:ev e x=some (.pointer (some ⟨b,o,none⟩))) (hy:ev e y=some u) (hu:u.cells.toList=us) (hm:us.length=m) (h1:∀ c∈us,c.oneCell'=true)
 (hb:Blk w b T cs) (hl:o+us.length<=cs.length):OE P n ⟨d,.store t x y,ty,pos,af,g⟩ e w (λ_ w'=>Stp [b] w w'/\Blk w' b T (cs.take o++us++cs.drop (o+us.length))):=by
 have aA:=run_storeCells_at P b o T us 0 cs.toArray w hb (by simpa using hl) h1;refine Z4i (w':=w.setRow b (cs.take o++us++cs.drop (o+us.length)).toArray) (λa ha=>?_) ⟨Z1S _ _ _,setRow_heap w b cs.toArray _ T (0,0) hb⟩;have bh:u.cells.size=m:=by rw [<- hm,<- hu,Yal]
 simp only [Ybr] at aA;simp [execOp,ha.ev hx,ha.ev hy,Instr.storeAt,Instr.sureAddr,storeVar,Siz.run,bh,hu,aA]
theorem Zj {b T m t:Nat} {cs us:List Value} {x y:Operand} {u:Value} [bG:Siz P t m] (hx:ev e x=some (.pointer (some ⟨b,0,none⟩))) (hy:ev e y=some u) (hu:u.cells.toList=us) (hm:us.length=m) (h1:∀ c∈us,c.oneCell'=true)
 (hb:Blk w b T cs) (hl:us.length=cs.length):OE P n ⟨d,.store t x y,ty,pos,af,g⟩ e w (λ_ w'=>Stp [b] w w'/\Blk w' b T us):=
 (Z18 hx hy hu hm h1 hb (by omega)).mono (λ_ w' ⟨h2,h3⟩=>⟨h2,by simpa [hl] using h3⟩)
theorem Zb {b T o t:Nat} {cs:List Value} {x y:Operand} {u:Value} [bG:Siz P t 1] (hx:ev e x=some (.pointer (some ⟨b,o,none⟩))) (hy:ev e y=some u) (hu:u.cells.toList=[u]) (h1:u.oneCell'=true)
 (hb:Blk w b T cs) (hl:o<cs.length):OE P n ⟨d,.store t x y,ty,pos,af,g⟩ e w (λ_ w'=>Stp [b] w w'/\Blk w' b T (cs.set o u)):=
 (Z18 hx hy hu rfl (by simpa using h1) hb (by simp; omega)).mono (λ_ w' ⟨h2, h3⟩ => ⟨h2, by
   rw [List.set_eq_take_append_cons_drop,if_pos hl];simpa using h3⟩)
end rules
def ob:Value->List Nat
 | .slice (some a) _ _=>[a.block]
 | _=>[]
theorem Ziz (v:Value):v.ownBlock.toList=ob v:=by
 cases v<;>try rfl
 rename_i a _ _;cases a<;>rfl
def Row {α:Type} [Z5 α] (X:List Nat) (w:World) (base T:Nat) (v:Value) (xs:List α):Prop:=
 ∃ css:List (List Value),css.length=xs.length/\(∀ i (h:i<xs.length) (h':i<css.length),Z5.rep (ob v++X) w xs[i] css[i])/\w.ownsRow base T (Z5.k α) v xs.length css.flatten
section row
variable {α:Type} [Z5 α] {X:List Nat} {w w':World} {base T:Nat} {v:Value} {xs:List α}
theorem Row.nil:Row (α:=α) X w base T (.slice none 0 0) []:=
 ⟨[],rfl,λi h=>absurd h (Xs _),by simpa using World.ownsRow_nil w base T (Z5.k α)⟩
theorem Row.ob_le (h:Row X w base T v xs):∀ b∈ob v,base<=b/\b<w.heap.size:=by
 obtain ⟨css,_,_,ho⟩:=h;intro b hb;rw [<- Ziz] at hb;exact ho.lt b (by simpa using hb)
theorem Row.ext {S X':List Nat} (h:Row X w base T v xs) (hS:Stp S w w') (h1:∀ b∈S,b∈X/\b∉ob v) (h2:∀ b∈X',b∈X\/w.heap.size<=b):Row X' w' base T v xs:=by
 obtain ⟨css,hl,hr,ho⟩:=h;refine ⟨css,hl,λi hi cA=>Z5.ext (hr i hi cA) hS (λb hb=>by simp [(h1 b hb).1]) (λb hb=>?_),?_⟩;simp only [Xf] at hb ⊢;rcases hb with hb|hb
 exact .inl (.inl hb);rcases h2 b hb with h|h
 exact .inl (.inr h);exact .inr h;refine ⟨ho.1,?_⟩;rcases ho.2 with hn|⟨q,cap,cur,rfl,hb,hg,rest⟩
 exact .inl hn;refine .inr ⟨q,cap,cur,rfl,hb,?_,rest⟩;rw [hS.block q (Xl.1 hg).1 (λhq=>(h1 q hq).2 (by simp [ob]))];exact hg
theorem Row.up (h:Row X w base T v xs) (hS:Stp [] w w'):Row X w' base T v xs:=h.ext hS (by simp) (λb hb=>.inl hb)
theorem Z0m {k:Nat}:∀ (css:List (List Value)),(∀ c∈css,c.length=k)->∀ (i:Nat) (hi:i<css.length) (j:Nat) (u:Value),css[i][j]?=some u->css.flatten[i * k+j]?=some u
 | [],_,i,hi,_,_,_=>absurd hi (Xs _)
 | c :: r, hk, 0, _, j, u, hu => by
   have hj:j<c.length:=(Xu.1 hu).1;simp only [Yaj,Nat.zero_mul,XM];rw [X3 hj];exact hu
 | c :: r, hk, i + 1, hi, j, u, hu => by
   have ih:=Z0m r (λc hc=>hk c (by simp [hc])) i (by simpa using hi) j u (by simpa using hu);have hc:=hk c (by simp);simp only [Yaj];rw [Yak (by rw [hc,Yac];omega),hc];rw [show (i+1) * k+j - k=i * k+j by rw [Yac];omega];exact ih
theorem Row.slv (h:Row X w base T v xs) (hX:∀ b∈X,b<base):SlV X w v xs:=by
 obtain ⟨css,hl,hr,ho⟩:=h;have hk:∀ c∈css,c.length=Z5.k α:=by
  intro c hc;obtain ⟨i,hi,rfl⟩:=Xr hc;exact Z5.len (hr i (by omega) hi)
 rcases ho.2 with ⟨rfl,hn⟩|⟨q,cap,cur,rfl,hb,hg,cO,bU,bh,ht⟩
 exact ⟨none,0,by rw [hn],by omega,by simp [maxLen],λ_=>rfl,λi hi=>by omega⟩;refine ⟨some ⟨q,0,none⟩,cap,rfl,cO,bU,λh=>by simp at h,λi hi=>?_⟩;refine ⟨q,0,css[i]'(by omega),rfl,(Xl.1 hg).1,λhx=>by have:=hX q hx;omega,?_,λj u hu=>?_⟩;exact Z5.ext (hr i hi (by omega)) (Stp.refl [] w) (by simp) (λb hb=>.inl (by simp [hb]));have h1:=Z0m css hk i (by omega) j u hu;rw [<- ht,Yah] at h1;split at h1;have h2:cur[i * Z5.k α+j]?=some u:=by simpa using h1
 rw [XM,cell_of_row w q _ cur T (0,0) hg];exact h2;cases h1
theorem Zao {P:Program} {t ty e size bytes:Nat} {i:TypeInfo} {z:Value} (ht:P.underlying t=some (.slice e)) (hi:P.info? e=some i) (hz:i.zero=some z)
 (mB:i.size=size) (lR:i.bytes=bytes) {v:Value} {n:Nat} {cs:List Value} (cb:w.ownsRow base e size v n cs)
 {a:Addr} {m c:Nat} {news:List Value} (hl:news.length=m * size) (eu:∀ j u,news[j]?=some u->w.cell? (a.add j)=some u) (h1:∀ u∈news,u.oneCell'=true)
 (uI:n+m<=maxLen) (hbytes:(n+m) * bytes<=140737488355328) {v':Value} {w':World} (hr:(Builtin.append_ #[t,t] ty #[v,.slice (some a) m c]).run P w=.ok v' w') :
 ∀ b∈ob v',b∈ob v\/w.heap.size<=b:=by
 subst mB;subst lR;have hsmall:n+m<=9223372036854775807:=by simp only [maxLen] at uI;omega
 rcases cb.2 with ⟨rfl,rfl⟩|⟨q,cap,cur,rfl,xQ,hg,cO,bU,bh,sR⟩
 by_cases hm:m=0;subst hm;have hn:news=[]:=YaP (by simpa using hl);subst hn;have:(Builtin.append_ #[t,t] ty #[.slice none 0 0,.slice (some a) 0 c]).run P w=.ok (.slice none 0 0) w:=by
  simp [Builtin.append_,run_underlying ht,sizeOf,typeInfo,hi,Builtin.lenOf,Builtin.firstCells,loadCells,loadCellsFrom]
 rw [this] at hr;cases hr;simp [ob];have h:=run_append_nil (P:=P) w t ty e i z ht hi hz a m c news hl eu (by omega) (by omega) (by have hb:=hbytes;simp only [XM] at hb;omega);rw [h] at hr;cases hr;simp [ob];by_cases jV:n+m<=cap;have db:n * i.size+news.length<=cur.size:=by rw [hl,bh,<- Nat.add_mul];exact Xo _ jV
 have h:=run_append_room (P:=P) w t ty e i ht hi q n cap cur hg a m c news hl eu h1 jV db;rw [h] at hr;cases hr;simp [ob];have holds:∀ j u,cs[j]?=some u->w.cell? ((⟨q,0,none⟩:Addr).add j)=some u:=cb.cells (g:=q) rfl;have h:=run_append_grow (P:=P) w t ty e i z ht hi hz ⟨q,0,none⟩ n cap cs cb.1 holds a m c news hl eu (by omega) (by omega) (growslice_fits (by omega) hbytes);rw [h] at hr;cases hr;simp [ob]
def Zbw (X:List Nat) (w:World) (base T:Nat) (v:Value) (xs ys:List α) (v':Value) (w':World):Prop:=
 Row X w' base T v' (xs++ys)/\Stp (ob v) w w'/\∀ b∈ob v',b∈ob v\/w.heap.size<=b
theorem ZF {P:Program} {n:Nat} {e:Env} {d:Option Nat} {ty:TypeId} {pos:String} {af:Array Edge} {g:Option (Nat×Bool)} {x y:Operand} {t bytes:Nat} {u:Value} {z:Value} {ys:List α}
 [ht:Und P t (.slice T)] [hk:Siz P T (Z5.k α)] [hb:Byt P T bytes] [hz:Zer P T z] (dT:z.cells.size=Z5.k α) (aV:0<Z5.k α)
 (hx:ev e x=some v) (hy:ev e y=some u) (ab:Row X w base T v xs) (cF:SlV (ob v++X) w u ys) (hbytes:(xs.length+ys.length) * bytes<=140737488355328) (ai:xs.length+ys.length<=maxLen) (aZ:base<=w.heap.size) :
 OE P n ⟨d,.call { callee:=.builtin .append,args:=#[x,y],argTypes:=#[t,t] },ty,pos,af,g⟩ e w (Zbw X w base T v xs ys):=by
 obtain ⟨i,hi,bO,cn,fB⟩:∃ i,P.info? T=some i/\i.size=Z5.k α/\i.bytes=bytes/\i.zero=some z:=by
  have a1:=hk.h;have a2:=hb.h;have a3:=hz.h;cases hi:P.info? T with
  | none=>simp [hi] at a1
  | some i=>exact ⟨i,rfl,by simpa [hi] using a1,by simpa [hi] using a2,by simpa [hi] using a3⟩
 have dq:=ab;obtain ⟨css,hl,hr,ho⟩:=ab;obtain ⟨p,c,rfl,fC,xR,uJ,sS⟩:=cF;have pM:∃ dss:List (List Value),dss.length=ys.length/\(∀ j (h:j<ys.length) (h':j<dss.length),Z5.rep (ob v++X) w ys[j] dss[j]/\∃ b o,p=some ⟨b,o,none⟩/\∀ q u,dss[j][q]?=some u->w.cell? ⟨b,o+j * Z5.k α+q,none⟩=some u):=by
  have:∀ j:Fin ys.length,∃ ds:List Value,Z5.rep (ob v++X) w ys[j] ds/\∃ b o,p=some ⟨b,o,none⟩/\∀ q u,ds[q]?=some u->w.cell? ⟨b,o+j * Z5.k α+q,none⟩=some u:=by
   intro j;obtain ⟨b,o,cs,h1,h2,h3,h4,h5⟩:=sS j j.2;exact ⟨cs,h4,b,o,h1,h5⟩
  obtain ⟨f,hf⟩:=Classical.axiomOfChoice this;refine ⟨List.ofFn f,by simp,λj h h'=>?_⟩;have:=hf ⟨j,h⟩;simpa using this
 obtain ⟨dss,jW,hd⟩:=pM;have oG:∀ c∈dss,c.length=Z5.k α:=by
  intro c hc;obtain ⟨q,hq,rfl⟩:=Xr hc;exact Z5.len (hd q (by omega) hq).1
 have jX:∀ (l:List (List Value)),(∀ c∈l,c.length=Z5.k α)->l.flatten.length=l.length * Z5.k α:=by
  intro l
  induction l with
  | nil=>intro _;simp
  | cons c r ih=>intro h;simp only [Yaj,Xc,Xe,Yac];rw [ih (λc hc=>h c (by simp [hc])),h c (by simp)];omega
 have aF:∀ u∈dss.flatten,u.oneCell'=true:=by
  intro u hu;obtain ⟨c,hc,uK⟩:=List.mem_flatten.1 hu;obtain ⟨q,hq,rfl⟩:=Xr hc;exact Z5.one (hd q (by omega) hq).1 u uK
 have fin:∀ (v':Value) (w':World),w'.ownsRow base T (Z5.k α) v' (xs.length+ys.length) (css.flatten++dss.flatten)->Stp (ob v) w w'->(∀ b∈ob v',b∈ob v\/w.heap.size<=b)->Zbw X w base T v xs ys v' w':=by
  intro v' w' uL hS dr;have hX:∀ b∈ob v'++X,b∈ob v++X\/w.heap.size<=b:=by
   intro b hb;simp only [Xf] at hb ⊢;rcases hb with hb|hb
   rcases dr b hb with h|h
   exact .inl (.inl h);exact .inr h;exact .inl (.inr hb)
  have sT:∀ b∈ob v,b∈ob v++X:=λb hb=>by simp [hb]
  refine ⟨⟨css++dss,by simp [hl,jW],λi hi cA=>?_,?_⟩,hS,dr⟩;by_cases hlt:i<xs.length;rw [Yaa hlt,Yaa (by omega)];exact Z5.ext (hr i hlt (by omega)) hS sT hX;have cn:i<xs.length+ys.length:=by simpa using hi
  rw [X4 (by omega),X4 (by omega)];have:=Z5.ext (hd (i - xs.length) (by omega) (by omega)).1 hS sT hX;simpa [hl] using this;rw [List.flatten_append];simpa using uL
 cases p with
 | none=>
   have iT:ys.length=0:=by
    cases cF:ys with
    | nil=>rfl
    | cons y r=>
      obtain ⟨b,o,cs,hp,_⟩:=sS 0 (by simp [cF]);simp at hp
   have gI:c=0:=uJ rfl;subst gI;have eU:dss=[]:=YaP (by omega);subst eU;have bj:=run_append_owned_none (P:=P) w base t ty T i (Z5.k α) ht.h hi v xs.length css.flatten ho;refine Jf (v:=v) (w':=w) (λa ha=>?_) (fin v w (by simpa [iT] using ho) (Stp.refl _ _) (λb hb=>.inl hb));rw [iT] at hy;simp [execOp,resolve,invoke,builtin,ha.ev hx,ha.ev hy,bj]
 | some a=>
   have eu:∀ j u,dss.flatten[j]?=some u->w.cell? (a.add j)=some u:=by
    intro j u hj;have fD:j<dss.flatten.length:=(Xu.1 hj).1;rw [jX dss oG] at fD;have hq:j / Z5.k α<dss.length:=(Nat.div_lt_iff_lt_mul aV).2 fD;obtain ⟨h1,b,o,hp,an⟩:=hd (j / Z5.k α) (by omega) hq;simp only [XH] at hp;subst hp;have uN:j % Z5.k α<Z5.k α:=YbG _ aV;have sU:j / Z5.k α * Z5.k α+j % Z5.k α=j:=by rw [Ybc];exact Ybm j _
    have uO:dss[j / Z5.k α].length=Z5.k α:=oG _ (Xd hq);have gh:dss[j / Z5.k α][j % Z5.k α]?=some (dss[j / Z5.k α][j % Z5.k α]'(by omega)):=XD (by omega);have h2:=Z0m dss oG _ hq _ _ gh;rw [sU,hj] at h2;have h3:=an _ _ gh;rw [Addr.add_lit];rw [Yat,sU] at h3;rw [h3,h2]
   have dV:dss.flatten.length=ys.length * Z5.k α:=by rw [jX dss oG,jW]
   obtain ⟨v',w',bj,h2,h3,h4⟩:=run_append_own (P:=P) w base t ty T i z (Z5.k α) bytes ht.h hi fB bO cn dT aV v xs.length css.flatten ho a ys.length c dss.flatten dV eu aF ai hbytes aZ;have ac:=Zao (P:=P) ht.h hi fB bO cn ho dV eu aF ai hbytes bj;have hS:Stp (ob v) w w':=by rw [<- Ziz];exact Stp.of_grown h3
   refine Jf (v:=v') (w':=w') (λa ha=>?_) (fin v' w' h2 hS ac);simp [execOp,resolve,invoke,builtin,ha.ev hx,ha.ev hy,bj]
end row
abbrev _root_.Go.Value.I (z:Int):Value:=.int .i64 z
abbrev _root_.Go.Value.N:Value:=.slice none 0 0
abbrev _root_.Go.Value.B (b:Bool):Value:=.bool b
abbrev aG {α:Type} [Z3 α] (x:α):Value:=.agg (Z3.enc x).toArray
theorem Stp.ow {S S':List Nat} {a b c:World} (h:Stp S a b) (k:Stp S' b c) (hs:∀ x∈S',x∈S\/a.heap.size<=x:=by intro c hc;exact .inr (by simp at hc;omega)):Stp S a c:=h.own k hs
theorem Stp.mn {S S':List Nat} {a b:World} (h:Stp S a b) (hs:∀ x∈S,x∈S':=by simp):Stp S' a b:=h.mono hs
abbrev pQ (b:Nat):Value:=.pointer (some ⟨b,0,none⟩)
class Rl (σ:Type) where
 rel:σ->World->World->Prop
 refl:∀ S w,rel S w w
 trans:∀ {S a b c},rel S a b->rel S b c->rel S a c
instance:Rl (List Nat):=⟨Stp,Stp.refl,λh k=>h.trans k⟩
section any
variable {P:Program} {ops:Array Oper} {md:Region.Mode} {σ:Type} [Rl σ] {S:σ} {Lt:Nat->Bool}
theorem ZsT {o:Oper} {a:Act} {w} {K:Act->World->Prop} {Q:Exit->Act->World->Prop} (h:o.wp P a w K (λ_ _ _=>False)):o.wp P a w K Q:=by
 unfold Oper.wp at *;generalize (execOp a.eval o).run P w=r at *;cases r with
 | ok n w'=>
   cases n<;>simp only [Oper.upon] at h ⊢
   case enter f args=>
    refine Calls.mono h (λe w'' he=>?_);cases e with
    | returned v=>exact he
    | panicked c=>exact he.elim
    | outgrown=>obtain ⟨_,_,hf⟩:=he;exact hf.elim
   all_goals exact h
 | halt x w'=>cases x<;>simp only [Oper.upon] at h
theorem ZiA {i:Nat} {K:Act->World->Prop} {Q:Exit->Act->World->Prop} {a:Act} {w} (h:wpOp P ops (λ_ _ _=>False) i K a w):wpOp P ops Q i K a w:=by
 unfold wpOp at *;cases ho:ops[i]? with
 | none=>simp only [ho] at h ⊢;exact h
 | some o=>
   simp only [ho] at h ⊢;split;rename_i hw;simp only [hw,if_true] at h;rcases h with h|⟨_,_,_,hf⟩
   exact .inl (ZsT h);exact hf.elim;rename_i hw;simp only [hw] at h;exact h
def Z1w (P:Program) (md:Region.Mode) (ops:Array Oper) {σ:Type} [Rl σ] (S:σ) (Lt:Nat->Bool) (Z:Act->World->Prop):Nat->Array Bool->Act->World->Prop
 | 0,listed,a,w=>Region.ready md ops listed=[]/\Z a w
 | fuel + 1, listed, a, w=>
   (Region.ready md ops listed=[]->Z a w)/\
   ∀ i∈Region.ready md ops listed,wpOp P ops (λ_ _ _=>False) i (λa' w'=>(Rl.rel S w w'\/Lt i=true)/\Z1w P md ops S Lt Z fuel (listed.setIfInBounds i true) a' w') a w
theorem Z0S {Z:Act->World->Prop} {Q:Exit->Act->World->Prop} (hZ:∀ a w,Z a w->Q .normal a w):∀ (fuel:Nat) (listed:Array Bool) (a:Act) (w),
 Z1w P md ops S Lt Z fuel listed a w->wpAny P md ops Q fuel listed a w
 | 0,_,_,_,h=>⟨h.1,hZ _ _ h.2⟩
 | fuel+1,_,_,_,h=>⟨λh0=>hZ _ _ (h.1 h0),λi hi=>wpOp_mono (λa' w' hk=>Z0S hZ fuel _ a' w' hk.2) (ZiA (h.2 i hi))⟩
def YE (P:Program) (ops:Array Oper) (R:World->World->Prop) (o:Oper) (v:Value) (a:Act) (w:World):Prop:=
 (Region.wanted o (yielded ops a.tmps)=true/\∀ w',R w w'->(execOp a.eval o).run P w'=.ok (.value v) w')\/
 (Region.wanted o (yielded ops a.tmps)=false/\v=undef)
theorem YE.same {R:World->World->Prop} {o:Oper} {v:Value} {a a':Act} {w} (hy:YE P ops R o v a w) (he:execOp a'.eval o=execOp a.eval o)
 (hw:Region.wanted o (yielded ops a'.tmps)=Region.wanted o (yielded ops a.tmps)):YE P ops R o v a' w:=by
 unfold YE at *;rw [he,hw];exact hy
theorem Z5q {Z:Act->World->Prop} {R:World->World->Prop} (jY:∀ w,R w w) (mC:∀ a b c,R a b->R b c->R a c) {i:Nat} {oi:Oper} {v:Value} (hi:ops[i]?=some oi)
 (mD:∀ j oj,ops[j]?=some oj->(∀ e∈oj.after,Region.binds md e=true->e.on≠i)->j≠i->∀ w w',(Rl.rel S w w'\/Lt j=true)->R w w')
 (fe:∀ (j:Nat) (o:Oper) cs b,ops[j]?=some o->o.op≠.select cs b) :
 ∀ (fuel : Nat) (listed : Array Bool) (a : Act) (w),
   (∀ j oj,ops[j]?=some oj->j≠i->listed.getD j true=false->(∀ e∈oj.after,Region.binds md e=true->e.on≠i)->oi.apart ops oj=true)->
   (Rl.rel S w w\/Lt i=true->True)->i∈Region.ready md ops listed->YE P ops R oi v a w->
   Z1w P md ops S Lt Z fuel (listed.setIfInBounds i true) (a.put oi.dst v) w->Z1w P md ops S Lt Z (fuel+1) listed a w:=by
 have now:∀ (fuel:Nat) (listed:Array Bool) (a:Act) (w:World),YE P ops R oi v a w->Z1w P md ops S Lt Z fuel (listed.setIfInBounds i true) (a.put oi.dst v) w->
  wpOp P ops (λ_ _ _=>False) i (λa' w'=>(Rl.rel S w w'\/Lt i=true)/\Z1w P md ops S Lt Z fuel (listed.setIfInBounds i true) a' w') a w:=by
  intro fuel listed a w hy H;unfold wpOp;simp only [hi];rcases hy with ⟨hw,hv⟩|⟨hw,rfl⟩
  simp only [hw,if_true,Oper.wp,hv w (jY w),Oper.upon];exact .inl ⟨.inl (Rl.refl _ _),H⟩;simp only [hw,XS,if_false];exact ⟨.inl (Rl.refl _ _),H⟩
 intro fuel
 induction fuel with
 | zero=>
   intro listed a w _ _ hr hy H;refine ⟨λh=>(by rw [h] at hr;cases hr),λj hj=>?_⟩;by_cases ci:j=i;subst ci;exact now _ _ _ _ hy H;have:=ready_mono hj ci;rw [H.1] at this;cases this
 | succ fuel ih=>
   intro listed a w dt hx hr hy H;refine ⟨λh=>(by rw [h] at hr;cases hr),λj hj=>?_⟩;by_cases ci:j=i;subst ci;exact now _ _ _ _ hy H;have h1:=H.2 j (ready_mono hj ci);obtain ⟨fg,oj,gj,aB⟩:=mem_ready.1 hj;have fh:∀ e∈oj.after,Region.binds md e=true->e.on≠i:=λe he hb cZ=>by
    have h1:=aB e he hb;have h0:=(mem_ready.1 hr).1;rw [cZ] at h1;rcases Yay i listed.size with h'|h'
    simp [h'] at h0 h1;rw [h0] at h1;cases h1;simp [Yaz h'] at h1
   have hap:=dt j oj gj ci fg fh;obtain ⟨p1,p2,p3⟩:=Oper.apart_spec hap;have keep:∀ (a:Act),YE P ops R oi v a w->∀ u,YE P ops R oi v (a.put oj.dst u) w:=λa hy u=>
    hy.same (execOp_put oi (λcs b=>fe i oi cs b hi) a oj.dst u p3) (wanted_put oi a oj.dst u p3)
   have keepD:∀ (a:Act) d,YE P ops R oi v a w->YE P ops R oi v { a with defers:=d :: a.defers } w:=λa d hy=>hy.same rfl rfl;have later:∀ (a:Act) w',(Rl.rel S w w'\/Lt j=true)->YE P ops R oi v a w->YE P ops R oi v a w':=λa w' hs hy=>by
    rcases hy with ⟨hw,hv⟩|hw
    exact .inl ⟨hw,λw'' h''=>hv w'' (mC _ _ _ (mD j oj gj fh ci w w' hs) h'')⟩;exact .inr hw
   have dF:∀ k ok,ops[k]?=some ok->k≠i->(listed.setIfInBounds j true).getD k true=false->
    (∀ e∈ok.after,Region.binds md e=true->e.on≠i)->oi.apart ops ok=true:=λk ok hk gJ jZ aW=>by
    refine dt k ok hk gJ ?_ aW;by_cases iq:j=k;subst iq;exact fg;rw [getD_set_ne true iq] at jZ;exact jZ
   have fin:∀ a' w',YE P ops R oi v a' w->(Rl.rel S w w'\/Lt j=true)/\Z1w P md ops S Lt Z fuel ((listed.setIfInBounds i true).setIfInBounds j true) (a'.put oi.dst v) w'->
    (Rl.rel S w w'\/Lt j=true)/\Z1w P md ops S Lt Z (fuel+1) (listed.setIfInBounds j true) a' w':=by
    rintro a' w' ir ⟨hs,hk⟩;refine ⟨hs,ih _ a' w' dF (λ_=>trivial) (ready_mono hr (Ne.symm ci)) (later a' w' hs ir) ?_⟩;rw [Ya5 _ _ ci];exact hk
   have mE:∀ cs b,oj.op≠.select cs b:=λcs b=>fe j oj cs b gj;unfold wpOp at *;simp only [gj] at *;rw [wanted_put oj a oi.dst v p1] at h1;split
   . rename_i hw
     simp only [hw,if_true] at h1;rcases h1 with h1|⟨_,_,_,hf⟩
     case inr=>exact hf.elim
     refine .inl ?_;unfold Oper.wp at *;rw [execOp_put oj mE a oi.dst v p1] at h1;generalize (execOp a.eval oj).run P w=r at *;cases r with
     | ok n w'=>
       cases n<;>simp only [Oper.upon] at h1 ⊢
       case value u=>exact fin _ _ (keep a hy u) (by rw [<- Act.put_comm a v u p2];exact h1)
       case skip=>exact fin _ _ (keep a hy _) (by rw [<- Act.put_comm a v undef p2];exact h1)
       case defer d=>
        refine fin _ _ (keep _ (keepD a d hy) _) ?_;rw [<- Act.put_comm _ v undef p2,<- Act.put_defers];exact h1
       case enter f args=>
        refine Calls.mono h1 λe w'' he=>?_;cases e with
        | returned u=>exact fin _ _ (keep a hy u) (by rw [<- Act.put_comm a v u p2];exact he)
        | panicked c=>exact he
        | outgrown=>exact he
       case row row args=>exact Rows.mono h1 λu w'' he=>fin _ _ (keep a hy u) (by rw [<- Act.put_comm a v u p2];exact he)
     | halt x w'=>
       cases x<;>simp only [Oper.upon] at h1
   rename_i hw;simp only [hw] at h1;exact fin _ _ (keep a hy _) (by rw [<- Act.put_comm a v undef p2];exact h1)
end any
def ZeM (ops:Array Oper) (Lt:List Nat) (i:Nat):Bool:=
 Lt.all λj=>j == i || (match ops[j]? with|some oj=>oj.after.any (λe=>Region.binds .any e && e.on == i)|none=>true)
def bits (m:Nat):List Nat:=(List.range 64).filter (λj=>m.testBit j)
def ZfI:List Nat->List (List Nat)
 | []=>[[]]
 | x :: r=>ZfI r++(ZfI r).map (x :: ·)
def lst (listed:Array Bool) (is rem:List Nat):Array Bool:=Array.ofFn (n:=listed.size) λj=>listed[j] || (is.contains j.val && !rem.contains j.val)
def wt:List (Nat×Nat)->Nat
 | []=>0
 | (_,k) :: r=>(if k<100000 then 1 else (bits (k - 100000)).length)+wt r
theorem Z01 {i k:Nat} {r:List (Nat×Nat)} (h:k<100000):wt ((i,k) :: r)=wt r+1:=by simp [wt,h];omega
def ZY (ops:Array Oper) (Lt:List Nat):List (Nat×Nat)->Option Nat->Array Bool->Bool
 | [],sk,listed=>sk.isNone && (Region.ready .any ops listed).isEmpty
 | (i,0) :: r,sk,listed=>(Region.ready .any ops listed).contains i && Region.free .any ops listed i && ZY ops Lt r sk (listed.setIfInBounds i true)
 | (i,1) :: r,sk,listed=>(Region.ready .any ops listed).contains i && Region.free .any ops listed i && ZeM ops Lt i && ZY ops Lt r sk (listed.setIfInBounds i true)
 | (i,2) :: r,sk,listed=>if sk=some i then ZY ops Lt r none listed else Region.ready .any ops listed == [i] && ZY ops Lt r sk (listed.setIfInBounds i true)
 | (i, q + 3) :: r, sk, listed => if sk = some q /\ q + 3 < 100000 then (Region.ready .any ops listed == [i] && ZY ops Lt r sk (listed.setIfInBounds i true)) else sk.isNone && if q + 3 < 100000 then (Region.ready .any ops listed == [i, q] && ZY ops Lt r none (listed.setIfInBounds i true) && Region.ready .any ops (listed.setIfInBounds q true) == [i] && ZY ops Lt r (some q) ((listed.setIfInBounds q true).setIfInBounds i true))
   else (ZfI (bits (q+3 - 100000))).all (λrem=>rem.isEmpty || Region.ready .any ops (lst listed (bits (q+3 - 100000)) rem) == rem) && ZY ops Lt r none (lst listed (bits (q+3 - 100000)) [])
def J5 (ops:Array Oper) (Lt:List Nat) (ord:List (Nat×Nat)) (listed:Array Bool):Bool:=ZY ops Lt ord none listed
def Z3A (q:Nat):List (Nat×Nat)->List (Nat×Nat)
 | []=>[]
 | (i,2) :: r=>if i=q then r else (i,2) :: Z3A q r
 | (i,0) :: r=>(i,0) :: Z3A q r
 | (i,1) :: r=>(i,1) :: Z3A q r
 | (i,k+3) :: r=>if k=q/\k+3<100000 then (i,2) :: Z3A q r else (i,k+3) :: Z3A q r
theorem Z1T {ops:Array Oper} {Lt:List Nat} {q:Nat}:∀ (r:List (Nat×Nat)) (listed:Array Bool),ZY ops Lt r (some q) listed=true->ZY ops Lt (Z3A q r) none listed=true/\wt r=wt (Z3A q r)+1
 | [],listed,h=>by simp [ZY] at h
 | (i, 0) :: r, listed, h => by
   simp only [ZY,Xm] at h;obtain ⟨h1,h2⟩:=Z1T r _ h.2;simp only [Z3A,ZY,Xm];exact ⟨⟨h.1,h1⟩,by simp [wt,h2];omega⟩
 | (i, 1) :: r, listed, h => by
   simp only [ZY,Xm] at h;obtain ⟨h1,h2⟩:=Z1T r _ h.2;simp only [Z3A,ZY,Xm];exact ⟨⟨h.1,h1⟩,by simp [wt,h2];omega⟩
 | (i, 2) :: r, listed, h => by
   by_cases e:i=q;subst e;simp only [ZY,if_pos] at h;simp only [Z3A,if_pos];exact ⟨h,by simp [wt];omega⟩;have e':¬ (some q=some i):=by simpa using λh=>e h.symm
   simp only [ZY,if_neg e',Xm] at h;obtain ⟨h1,h2⟩:=Z1T r _ h.2;simp only [Z3A,if_neg e,ZY];refine ⟨?_,by simp [wt,h2];omega⟩;rw [if_neg (by simp)];simp only [Xm];exact ⟨h.1,h1⟩
 | (i, k + 3) :: r, listed, h => by
   by_cases e:k=q/\k+3<100000;simp only [ZY] at h;rw [if_pos ⟨by rw [e.1],e.2⟩] at h;simp only [Xm] at h;obtain ⟨h1,h2⟩:=Z1T r _ h.2;simp only [Z3A,if_pos e,ZY];refine ⟨?_,by rw [Z01 e.2,Z01 (by decide),h2]⟩;rw [if_neg (by simp)];simp only [Xm];exact ⟨h.1,h1⟩;simp only [ZY] at h;rw [if_neg (λh'=>e ⟨(XT h'.1).symm,h'.2⟩)] at h;simp at h
structure WG (P:Program) (n:Nat) (ops:Array Oper) {σ:Type} [Rl σ] (S:σ) (Lt:List Nat) (Q:Exit->Act->World->Prop) (ord:List (Nat×Nat)) (e:Env) (w:World):Prop where
 h:∀ listed:Array Bool,Region.noSelect ops=true->J5 ops Lt ord listed=true->∀ a,Has n e a->Z1w P .any ops S (λj=>Lt.contains j) (λa w=>Q .normal a w) (wt ord) listed a w
section rules
variable {P:Program} {n:Nat} {Q:Exit->Act->World->Prop} {e:Env} {w:World} {ops:Array Oper} {σ:Type} [Rl σ] {S:σ} {Lt:List Nat} {rest:List (Nat×Nat)}
theorem Z9l {id:Nat} {l:List Oper} (m:Nat) {σ:Type} [Rl σ] (S:σ) (Lt:List Nat) (ord:List (Nat×Nat)) (cp:l.length=m) (hm:P.follows .mixedOrders=true) (hs:Region.noSelect l.toArray=true) (hl:Nat.beq (wt ord) l.length=true)
 (hB:J5 l.toArray Lt ord (Array.replicate m false)=true)
 (h:∀ w',Stp [] w w'->WG P n l.toArray S Lt Q ord e w'):WC P n (.region id l.toArray true) Q e w:=by
 subst cp;refine ⟨λa ha=>wp_region_any hm ?_⟩;have h1:=(h { w with drawn:=w.drawn+1 } (Stp.drew [] w)).h _ hs hB a ha;have h2:=Z0S (Q:=Q) (λa w hz=>hz) _ _ _ _ h1;rw [XN hl] at h2;simpa using h2
theorem Z55 (h:WQ n Q .normal e w):WG P n ops S Lt Q [] e w:=
 ⟨λ_ _ hB a ha=>⟨by simpa [J5,ZY] using hB,h.h a ha⟩⟩
def Z02 (ops:Array Oper) (e:Env):Option (Nat×Bool)->Prop
 | none=>True
 | some (j,b)=>yld ops e j=some (.B b)
theorem Jv {o:Oper} {a:Act} (ha:Has n e a) (hg:Z02 ops e o.guard):Region.wanted o (yielded ops a.tmps)=true:=by
 unfold Region.wanted;cases lS:o.guard with
 | none=>rfl
 | some jb=>
   obtain ⟨j,b⟩:=jb;rw [lS] at hg;simp [Z7L ha hg]
theorem Zbx {i d:Nat} {o:Oper} {v:Value} (hi:ops[i]?=some o) (hd:o.dst=some d) (hY:∀ a,Has n e a->YE P ops (λ_ _=>True) o v a w) (aw:Nat.blt d n=true)
 (k:WG P n ops S Lt Q rest ((d,v) :: e) w):WG P n ops S Lt Q ((i,0) :: rest) e w:=by
 refine ⟨λlisted hs hB a ha=>?_⟩;simp only [J5,ZY,Xm] at hB;obtain ⟨⟨h1,h2⟩,h3⟩:=hB;have hk:=k.h _ hs h3 _ (ha.put (v:=v) aw);rw [<- hd] at hk;rw [Z01 (by decide)];exact Z5q (R:=λ_ _=>True) (λ_=>trivial) (λ_ _ _ _ _=>trivial) hi (λ_ _ _ _ _ _ _ _=>trivial) (Region.noSelect_spec hs) _ _ _ _ (Region.free_spec hi h2) (λ_=>trivial) (by simpa using h1) (hY a ha) hk
theorem Z56 {i j:Nat} {oj:Oper} (hb:ZeM ops Lt i=true) (hj:ops[j]?=some oj) (hn:∀ e∈oj.after,Region.binds .any e=true->e.on≠i) (ci:j≠i):Lt.contains j=false:=by
 cases hc:Lt.contains j with
 | false=>rfl
 | true=>
   have hm:j∈Lt:=by simpa using hc
   have:=(X0.1 hb) j hm;simp only [hj,Yax,beq_iff_eq,ci,false_or] at this;obtain ⟨e,he,lT⟩:=Array.any_eq_true'.1 this;simp only [Xm,beq_iff_eq] at lT;exact absurd lT.2 (hn e he lT.1)
theorem Zby {i d:Nat} {o:Oper} {v:Value} (hi:ops[i]?=some o) (hd:o.dst=some d) (hY:∀ a,Has n e a->YE P ops (Rl.rel S) o v a w) (aw:Nat.blt d n=true)
 (k:WG P n ops S Lt Q rest ((d,v) :: e) w):WG P n ops S Lt Q ((i,1) :: rest) e w:=by
 refine ⟨λlisted hs hB a ha=>?_⟩;simp only [J5,ZY,Xm] at hB;obtain ⟨⟨⟨h1,h2⟩,hb⟩,h3⟩:=hB;have hk:=k.h _ hs h3 _ (ha.put (v:=v) aw);rw [<- hd] at hk;rw [Z01 (by decide)];refine Z5q (R:=Rl.rel S) (λw=>Rl.refl _ w) (λ_ _ _ h k=>Rl.trans h k) hi (λj oj hj hn ci w w' hs=>?_) (Region.noSelect_spec hs) _ _ _ _ (Region.free_spec hi h2) (λ_=>trivial) (by simpa using h1) (hY a ha) hk;rcases hs with hs|hs
 exact hs;rw [Z56 hb hj hn ci] at hs;cases hs
variable {i d:Nat} {op:Op} {ty:TypeId} {pos:String} {af:Array Edge} {gd:Option (Nat×Bool)} {v:Value}
theorem ZS (hi:ops[i]?=some ⟨some d,op,ty,pos,af,gd⟩) (hg:Z02 ops e gd) (hp:∀ w',PR P n ⟨some d,op,ty,pos,af,gd⟩ e w' v) (aw:Nat.blt d n=true)
 (k:WG P n ops S Lt Q rest ((d,v) :: e) w):WG P n ops S Lt Q ((i,0) :: rest) e w:=
 Zbx hi rfl (λa ha=>.inl ⟨Jv ha hg,λw' _=>(hp w').h a ha⟩) aw k
theorem ZeN (hi:ops[i]?=some ⟨some d,op,ty,pos,af,gd⟩) (hg:Z02 ops e gd) (hp:∀ w',Rl.rel S w w'->PR P n ⟨some d,op,ty,pos,af,gd⟩ e w' v) (aw:Nat.blt d n=true)
 (k:WG P n ops S Lt Q rest ((d,v) :: e) w):WG P n ops S Lt Q ((i,1) :: rest) e w:=
 Zby hi rfl (λa ha=>.inl ⟨Jv ha hg,λw' hw=>(hp w' hw).h a ha⟩) aw k
theorem ZiB (hi:ops[i]?=some ⟨some d,op,ty,pos,af,gd⟩) (hg:noB ops e gd=true) (aw:Nat.blt d n=true)
 (k:WG P n ops S Lt Q rest ((d,undef) :: e) w):WG P n ops S Lt Q ((i,0) :: rest) e w:=
 Zbx hi rfl (λa ha=>.inr ⟨Z2W ha hg,rfl⟩) aw k
theorem ZiC (hi:ops[i]?=some ⟨some d,op,ty,pos,af,gd⟩) (hg:noB ops e gd=true) (aw:Nat.blt d n=true)
 (k:WG P n ops S Lt Q rest ((d,undef) :: e) w):WG P n ops S Lt Q ((i,1) :: rest) e w:=
 Zby hi rfl (λa ha=>.inr ⟨Z2W ha hg,rfl⟩) aw k
structure WG1 (P:Program) (n:Nat) (ops:Array Oper) {σ:Type} [Rl σ] (S:σ) (Lt:List Nat) (Q:Exit->Act->World->Prop) (i:Nat) (ord:List (Nat×Nat)) (e:Env) (w:World):Prop where
 h : ∀ listed : Array Bool, Region.noSelect ops = true -> J5 ops Lt ord (listed.setIfInBounds i true) = true -> ∀ a, Has n e a->
   wpOp P ops (λ_ _ _=>False) i (λa' w'=>(Rl.rel S w w'\/Lt.contains i=true)/\Z1w P .any ops S (λj=>Lt.contains j) (λa w=>Q .normal a w) (wt ord) (listed.setIfInBounds i true) a' w') a w
theorem ZiD {o:Oper} {dst:Option Nat} {G:Value->World->Prop} (hi:ops[i]?=some o) (fP:o.dst=dst) (hg:Z02 ops e o.guard) (hp:OE P n o e w (λv w'=>(Rl.rel S w w'\/Lt.contains i=true)/\G v w'))
 (k:∀ v w' a',G v w'->∀ a,Has n e a->a'=a.put dst v->∃ e',Has n e' a'/\WG P n ops S Lt Q rest e' w'):WG1 P n ops S Lt Q i rest e w:=by
 refine ⟨λlisted hs h3 a ha=>?_⟩;unfold wpOp;simp only [hi];rw [if_pos (Jv ha hg)];refine .inl (Oper.wp_mono ?_ (hp.h a ha _));rintro a' w' ⟨v,rfl,cP,hG⟩;obtain ⟨e',ji,hk⟩:=k v w' (a.put o.dst v) hG a ha (by rw [fP]);exact ⟨cP,hk.h _ hs h3 _ ji⟩
theorem ZiE (h:WG1 P n ops S Lt Q i rest e w):WG P n ops S Lt Q ((i,2) :: rest) e w:=by
 refine ⟨λlisted hs hB a ha=>?_⟩;simp only [J5,ZY] at hB;rw [if_neg (by simp)] at hB;simp only [Xm,beq_iff_eq] at hB;obtain ⟨h1,h3⟩:=hB;rw [Z01 (by decide)];refine ⟨λh0=>absurd (h1 ▸ h0) (by simp),λj hj=>?_⟩;rw [h1] at hj;obtain rfl:j=i:=by simpa using hj
 exact h.h _ hs h3 a ha
theorem Z3B {q:Nat} (hq:Nat.blt (q+3) 100000=true) (h1:WG1 P n ops S Lt Q i rest e w) (h2:WG1 P n ops S Lt Q q ((i,2) :: Z3A q rest) e w):WG P n ops S Lt Q ((i,q+3) :: rest) e w:=by
 refine ⟨λlisted hs hB a ha=>?_⟩;have gK:q+3<100000:=XX hq;simp only [J5,ZY] at hB;rw [if_neg (by simp),if_pos gK] at hB;simp only [Xm,beq_iff_eq] at hB;obtain ⟨_,⟨⟨hr,fE⟩,dg⟩,h3⟩:=hB;obtain ⟨h4,h5⟩:=Z1T _ _ h3;have hw:wt ((i,q+3) :: rest)=wt rest+1:=Z01 gK;rw [hw];refine ⟨λh0=>absurd (hr ▸ h0) (by simp),λj hj=>?_⟩;rw [hr] at hj;have c2:J5 ops Lt ((i,2) :: Z3A q rest) (listed.setIfInBounds q true)=true:=by
  simp only [J5,ZY];rw [if_neg (by simp)];simp only [Xm,beq_iff_eq];exact ⟨dg,h4⟩
 have kG:wt rest=wt ((i,2) :: Z3A q rest):=by rw [Z01 (by decide),h5]
 have gk:j=i\/j=q:=by simpa using hj
 rcases gk with rfl|rfl
 exact h1.h _ hs fE a ha;rw [kG];exact h2.h _ hs c2 a ha
theorem Z7N:∀ {is rem:List Nat},rem.Sublist is->rem∈ZfI is
 | [],rem,h=>by simp at h;simp [ZfI,h]
 | x :: r, rem, h => by
   simp only [ZfI,Xf,XG];cases h with
   | cons _ h=>exact .inl (Z7N h)
   | cons_cons _ h=>exact .inr ⟨_,Z7N h,rfl⟩
theorem Zmz (listed:Array Bool) (is:List Nat):lst listed is is=listed:=by
 apply Array.ext;simp [lst];intro j h1 h2;simp only [lst,Array.getElem_ofFn];cases is.contains j<;>simp
theorem ZiF {listed:Array Bool} {is rem:List Nat} {j:Nat} (hn:rem.Nodup) (hr:rem.Sublist is) (hj:j∈rem):(lst listed is rem).setIfInBounds j true=lst listed is (rem.erase j):=by
 apply Array.ext;simp [lst];intro m h1 h2;have hm:m<listed.size:=by simpa [lst] using h2
 rw [Array.getElem_setIfInBounds];simp only [lst,Array.getElem_ofFn];by_cases e:j=m;subst e;have h3:is.contains j=true:=by simpa using hr.subset hj
 have h4:(rem.erase j).contains j=false:=by
  have:=hn.not_mem_erase (a:=j);simpa using this
 simp only [h3,h4,if_true,Bool.not_false,Ybk,Bool.or_true];rw [if_neg e];have:(rem.erase j).contains m=rem.contains m:=by
  rw [X7];simp only [List.contains_iff_mem];exact List.mem_erase_of_ne (λh=>e h.symm)
 rw [this];simpa [lst] using hm
theorem ZsU {q:Nat} (is:List Nat) (J:List Nat->World->Prop) (hq:Nat.ble 100000 (q+3)=true) (sV:bits (q+3 - 100000)=is) (go:is.Nodup) (h0:J is w)
 (step:∀ rem j w',rem.Sublist is->j∈rem->J rem w'->∃ o,ops[j]?=some o/\o.dst=none/\Z02 ops e o.guard/\OE P n o e w' (λ_ w''=>(Rl.rel S w' w''\/Lt.contains j=true)/\J (rem.erase j) w''))
 (fin:∀ w',J [] w'->WG P n ops S Lt Q rest e w'):WG P n ops S Lt Q ((i,q+3) :: rest) e w:=by
 refine ⟨λlisted hs hB a ha=>?_⟩;have gK:¬ q+3<100000:=Nat.not_lt.2 (XX hq);have hw:wt ((i,q+3) :: rest)=is.length+wt rest:=by simp only [wt];rw [if_neg gK,sV]
 rw [hw];simp only [J5,ZY] at hB;rw [if_neg (by simp),if_neg gK,sV] at hB;simp only [Xm] at hB;obtain ⟨_,aB,mF⟩:=hB;have hready:∀ rem:List Nat,rem.Sublist is->0<rem.length->Region.ready .any ops (lst listed is rem)=rem:=λrem hr h0=>by
  have:=X0.1 aB rem (Z7N hr);cases rem with
  | nil=>simp at h0
  | cons x r=>simpa using this
 have key:∀ (k:Nat) (rem:List Nat),rem.length=k->rem.Sublist is->∀ w' a,Has n e a->J rem w'->Z1w P .any ops S (λj=>Lt.contains j) (λa w=>Q .normal a w) (k+wt rest) (lst listed is rem) a w':=by
  intro k
  induction k with
  | zero=>
    intro rem hl hr w' a ha hJ;obtain rfl:=Xw.1 hl;rw [XM];exact (fin w' hJ).h _ hs mF a ha
  | succ k ih=>
    intro rem hl hr w' a ha hJ;rw [show k+1+wt rest=(k+wt rest)+1 by omega];refine ⟨λh=>?_,λj hj=>?_⟩;rw [hready rem hr (by omega)] at h;subst h;simp at hl;rw [hready rem hr (by omega)] at hj;obtain ⟨o,hi,fP,hg,hp⟩:=step rem j w' hr hj hJ;unfold wpOp;simp only [hi];rw [if_pos (Jv ha hg)];refine .inl (Oper.wp_mono ?_ (hp.h a ha _));rintro a' w'' ⟨v,rfl,cP,mG⟩;refine ⟨cP,?_⟩;rw [ZiF (hr.nodup go) hr hj,fP];exact ih _ (by rw [List.length_erase_of_mem hj];omega) (List.erase_sublist.trans hr) w'' _ ha mG
 have:=key is.length is rfl (List.Sublist.refl _) w a ha h0
 rwa [Zmz] at this
theorem Z7w {o:Oper} {dst:Option Nat} {G:Value->World->Prop} (hi:ops[i]?=some o) (fP:o.dst=dst) (hg:Z02 ops e o.guard) (hp:OE P n o e w (λv w'=>(Rl.rel S w w'\/Lt.contains i=true)/\G v w'))
 (k:∀ v w' a',G v w'->∀ a,Has n e a->a'=a.put dst v->∃ e',Has n e' a'/\WG P n ops S Lt Q rest e' w'):WG P n ops S Lt Q ((i,2) :: rest) e w:=
 ZiE (ZiD hi fP hg hp k)
theorem ZiG (hi:ops[i]?=some ⟨some d,op,ty,pos,af,gd⟩) (hg:noB ops e gd=true) (aw:Nat.blt d n=true)
 (k:WG P n ops S Lt Q rest ((d,undef) :: e) w):WG P n ops S Lt Q ((i,2) :: rest) e w:=by
 refine ZiE ⟨λlisted hs h3 a ha=>?_⟩;unfold wpOp;simp only [hi];have hw:=Z2W (o:=⟨some d,op,ty,pos,af,gd⟩) ha hg;rw [if_neg (by simp [hw])];exact ⟨.inl (Rl.refl _ _),k.h _ hs h3 _ (ha.put (v:=undef) aw)⟩
theorem JK {G:Value->World->Prop} (hi:ops[i]?=some ⟨some d,op,ty,pos,af,gd⟩) (hg:Z02 ops e gd) (hp:OE P n ⟨some d,op,ty,pos,af,gd⟩ e w G) (hG:∀ v w',G v w'->Rl.rel S w w') (aw:Nat.blt d n=true)
 (k:∀ v w',G v w'->WG P n ops S Lt Q rest ((d,v) :: e) w'):WG1 P n ops S Lt Q i rest e w:=
 ZiD (G:=G) hi rfl hg (hp.mono λv w' h=>⟨.inl (hG v w' h),h⟩) (λv w' a' h a ha e=>⟨_,by rw [e];exact ha.put aw,k v w' h⟩)
theorem Za {G:Value->World->Prop} (hi:ops[i]?=some ⟨some d,op,ty,pos,af,gd⟩) (hg:Z02 ops e gd) (hp:OE P n ⟨some d,op,ty,pos,af,gd⟩ e w G) (hG:∀ v w',G v w'->Rl.rel S w w') (aw:Nat.blt d n=true)
 (k:∀ v w',G v w'->WG P n ops S Lt Q rest ((d,v) :: e) w'):WG P n ops S Lt Q ((i,2) :: rest) e w:=
 Z7w (G:=G) hi rfl hg (hp.mono λv w' h=>⟨.inl (hG v w' h),h⟩) (λv w' a' h a ha e=>⟨_,by rw [e];exact ha.put aw,k v w' h⟩)
theorem Z0s {G:Value->World->Prop} (hi:ops[i]?=some ⟨none,op,ty,pos,af,gd⟩) (hg:Z02 ops e gd) (hp:OE P n ⟨none,op,ty,pos,af,gd⟩ e w G) (hG:∀ v w',G v w'->Rl.rel S w w')
 (k:∀ v w',G v w'->WG P n ops S Lt Q rest e w'):WG P n ops S Lt Q ((i,2) :: rest) e w:=
 Z7w (G:=G) hi rfl hg (hp.mono λv w' h=>⟨.inl (hG v w' h),h⟩) (λv w' a' h a ha e=>⟨_,by rw [e];exact ha,k v w' h⟩)
theorem ZmA {G:Value->World->Prop} (hi:ops[i]?=some ⟨some d,op,ty,pos,af,gd⟩) (hg:Z02 ops e gd) (hp:OE P n ⟨some d,op,ty,pos,af,gd⟩ e w G) (hL:Lt.contains i=true) (aw:Nat.blt d n=true)
 (k:∀ v w',G v w'->WG P n ops S Lt Q rest ((d,v) :: e) w'):WG P n ops S Lt Q ((i,2) :: rest) e w:=
 Z7w (G:=G) hi rfl hg (hp.mono λv w' h=>⟨.inr hL,h⟩) (λv w' a' h a ha e=>⟨_,by rw [e];exact ha.put aw,k v w' h⟩)
theorem ZO {G:Value->World->Prop} (hi:ops[i]?=some ⟨none,op,ty,pos,af,gd⟩) (hg:Z02 ops e gd) (hp:OE P n ⟨none,op,ty,pos,af,gd⟩ e w G) (hL:Lt.contains i=true)
 (k:∀ v w',G v w'->WG P n ops S Lt Q rest e w'):WG P n ops S Lt Q ((i,2) :: rest) e w:=
 Z7w (G:=G) hi rfl hg (hp.mono λv w' h=>⟨.inr hL,h⟩) (λv w' a' h a ha e=>⟨_,by rw [e];exact ha,k v w' h⟩)
theorem ZiH {ord:List (Nat×Nat)} {j:Nat} {p:Prop} [Decidable p] (hy:look e j=some (.B (decide p)))
 (ht:p->WG P n ops S Lt Q ord ((j,.B true) :: e) w) (hf:¬ p->WG P n ops S Lt Q ord ((j,.B false) :: e) w):WG P n ops S Lt Q ord e w:=by
 refine ⟨λlisted hs hB a ha=>?_⟩;by_cases hp:p;exact (ht hp).h _ hs hB a (ha.same hy (by simp [hp]));exact (hf hp).h _ hs hB a (ha.same hy (by simp [hp]))
theorem Zk {i q j d:Nat} {b:Bool} {o:Oper} {p:Prop} [Decidable p] (hi:ops[i]?=some o) (hg:o.guard=some (j,b)) (hj:ZeI ops j=some d) (hy:look e d=some (.B (decide p)))
 (ht:p->WG P n ops S Lt Q ((i,q) :: rest) ((d,.B true) :: e) w) (hf:¬ p->WG P n ops S Lt Q ((i,q) :: rest) ((d,.B false) :: e) w):WG P n ops S Lt Q ((i,q) :: rest) e w:=
 ZiH hy ht hf
theorem Zh {i q j d:Nat} {b:Bool} {o:Oper} {t:Bool} (hi:ops[i]?=some o) (hg:o.guard=some (j,b)) (hj:ZeI ops j=some d) (hy:look e d=some (.B t))
 (ht:t=true->WG P n ops S Lt Q ((i,q) :: rest) ((d,.B true) :: e) w) (hf:t=false->WG P n ops S Lt Q ((i,q) :: rest) ((d,.B false) :: e) w):WG P n ops S Lt Q ((i,q) :: rest) e w:=by
 refine ⟨λlisted hs hB a ha=>?_⟩;cases t;exact (hf rfl).h _ hs hB a (ha.same hy rfl);exact (ht rfl).h _ hs hB a (ha.same hy rfl)
end rules
abbrev Zap (P:Program) (md:Region.Mode) (ops:Array Oper) (S:List Nat) (Lt:Nat->Bool) (Z:Act->World->Prop):Nat->Array Bool->Act->World->Prop:=Z1w P md ops S Lt Z
abbrev WD (P:Program) (n:Nat) (ops:Array Oper) (S:List Nat) (Lt:List Nat) (Q:Exit->Act->World->Prop) (ord:List (Nat×Nat)) (e:Env) (w:World):Prop:=WG P n ops S Lt Q ord e w
abbrev WD1 (P:Program) (n:Nat) (ops:Array Oper) (S:List Nat) (Lt:List Nat) (Q:Exit->Act->World->Prop) (i:Nat) (ord:List (Nat×Nat)) (e:Env) (w:World):Prop:=WG1 P n ops S Lt Q i ord e w
section
variable {P:Program} {n:Nat} {Q:Exit->Act->World->Prop} {e:Env} {w:World} {ops:Array Oper} {Lt:List Nat} {rest:List (Nat×Nat)} {i d:Nat} {op:Op} {ty:TypeId} {pos:String} {af:Array Edge} {gd:Option (Nat×Bool)} {v:Value}
theorem WC_drawn {id:Nat} {l:List Oper} (m:Nat) (S:List Nat) (Lt:List Nat) (ord:List (Nat×Nat)) (cp:l.length=m) (hm:P.follows .mixedOrders=true) (hs:Region.noSelect l.toArray=true) (hl:Nat.beq (wt ord) l.length=true)
 (hB:J5 l.toArray Lt ord (Array.replicate m false)=true)
 (h:∀ w',Stp [] w w'->WD P n l.toArray S Lt Q ord e w'):WC P n (.region id l.toArray true) Q e w:=Z9l m S Lt ord cp hm hs hl hB h
theorem WD_read {S:List Nat} (hi:ops[i]?=some ⟨some d,op,ty,pos,af,gd⟩) (hg:Z02 ops e gd) (hp:∀ w',Stp S w w'->PR P n ⟨some d,op,ty,pos,af,gd⟩ e w' v) (aw:Nat.blt d n=true)
 (k:WD P n ops S Lt Q rest ((d,v) :: e) w):WD P n ops S Lt Q ((i,1) :: rest) e w:=ZeN hi hg hp aw k
end
theorem ZDr {P:Program} {n:Nat} {Q:Exit->Act->World->Prop} {e:Env} {w} {id:Nat} {l:List Oper} (m:Nat) (S:List Nat) (Lt:List Nat) (ord:List (Nat×Nat)) (h:∀ w',Stp [] w w'->WD P n l.toArray S Lt Q ord e w') (cp:l.length=m:=by exact rfl) (hm:P.follows .mixedOrders=true:=by kernel_rfl) (hs:Region.noSelect l.toArray=true:=by kernel_rfl) (hl:Nat.beq (wt ord) l.length=true:=by kernel_rfl)
 (hB:J5 l.toArray Lt ord (Array.replicate m false)=true:=by kernel_rfl):WC P n (.region id l.toArray true) Q e w:=WC_drawn m S Lt ord cp hm hs hl hB h
theorem Z12 {k:Nat}:∀ (l:List (List Value)),(∀ c∈l,c.length=k)->l.flatten.length=l.length * k
 | [],_=>by simp
 | c :: r, h => by
   simp only [Yaj,Xc,Xe,Yac];rw [Z12 r (λc hc=>h c (by simp [hc])),h c (by simp)];omega
theorem Z1n {k:Nat}:∀ (css:List (List Value)),(∀ c∈css,c.length=k)->∀ (i:Nat),i<css.length->∀ (cs:List Value),
 (css.set i cs).flatten=css.flatten.take (i * k)++cs++css.flatten.drop (i * k+k)
 | [],_,i,hi,_=>absurd hi (Xs _)
 | c :: r, hk, 0, _, cs => by
   have hc:=hk c (by simp);simp [hc]
 | c :: r, hk, i + 1, hi, cs => by
   have hc:=hk c (by simp);have ih:=Z1n r (λc hc=>hk c (by simp [hc])) i (by simpa using hi) cs;simp only [List.set_cons_succ,Yaj,ih,Yac];rw [YaB,List.drop_append,hc];rw [XL (l:=c) (by omega),show c.drop (i * k+k+k)=[] from YaA (by omega)];rw [show i * k+k - k=i * k by omega,show i * k+k+k - k=i * k+k by omega];simp [Xy]
theorem Z2Y {k:Nat}:∀ (css:List (List Value)),(∀ c∈css,c.length=k)->∀ (i:Nat) (hi:i<css.length) (j:Nat) (hj:j<k) (u:Value),
 (css.set i (css[i].set j u)).flatten=css.flatten.set (i * k+j) u
 | [],_,i,hi,_,_,_=>absurd hi (Xs _)
 | c :: r, hk, 0, _, j, hj, u => by
   have hc:=hk c (by simp);simp [hc,hj]
 | c :: r, hk, i + 1, hi, j, hj, u => by
   have hc:=hk c (by simp);have ih:=Z2Y r (λc hc=>hk c (by simp [hc])) i (by simpa using hi) j hj u;simp only [List.set_cons_succ,Yaj,List.getElem_cons_succ,ih,Yac];rw [YbI,if_neg (by omega),hc];rw [show i * k+k+j - k=i * k+j by omega]
section row
variable {α:Type} [Z5 α] {X:List Nat} {w w':World} {base T:Nat} {v:Value} {xs:List α}
variable {P:Program} {n:Nat} {e:Env} {d:Option Nat} {ty:TypeId} {pos:String} {af:Array Edge} {g:Option (Nat×Bool)}
theorem Row.isSome (h:Row X w base T v xs) {i:Nat} (hi:i<xs.length):∃ q l c,v=.slice (some ⟨q,0,none⟩) l c:=by
 obtain ⟨css,hl,hr,ho⟩:=h;rcases ho.2 with ⟨rfl,hn⟩|⟨q,cap,cur,rfl,hb,hg,cO,bU,bh,ht⟩
 omega;exact ⟨_,_,_,rfl⟩
theorem Z7O {i k:Nat} {t:TypeId} {x y:Operand} {u:Value} {y':α} [bG:Siz P t k] (hx:ev e x=some (.pointer (some (ZD v i k 0)))) (hy:ev e y=some u) (hk:k=Z5.k α)
 (bN:Z5.rep (ob v++X) w y' u.cells.toList) (ab:Row X w base T v xs) (hX:∀ b∈X,b<base) (hi:i<xs.length) :
 OE P n ⟨d,.store t x y,ty,pos,af,g⟩ e w (λ_ w'=>Row X w' base T v (xs.set i y')/\Stp (ob v) w w'):=by
 have dq:=ab;obtain ⟨css,hl,hr,ho⟩:=ab;have ai:∀ c∈css,c.length=Z5.k α:=by
  intro c hc;obtain ⟨q,hq,rfl⟩:=Xr hc;exact Z5.len (hr q (by omega) hq)
 rcases ho.2 with ⟨rfl,hn⟩|⟨q,cap,cur,rfl,hb,hg,cO,bU,bh,ht⟩
 omega;subst hk;have ew:u.cells.toList.length=Z5.k α:=Z5.len bN;have db:i * Z5.k α+u.cells.toList.length<=cur.size:=by
  rw [ew,bh,<- Yac];exact Xo _ (by omega)
 have aA:=run_storeCells_at P q (i * Z5.k α) T u.cells.toList 0 cur w hg (by simpa using db) (Z5.one bN);simp only [Ybr] at aA;have d8:u.cells.size=Z5.k α:=by simpa using ew
 have jj:Stp [q] w (w.setRow q (cur.toList.take (i * Z5.k α)++u.cells.toList++cur.toList.drop (i * Z5.k α+u.cells.toList.length)).toArray):=Z1S _ _ _;refine Z4i (w':=w.setRow q (cur.toList.take (i * Z5.k α)++u.cells.toList++cur.toList.drop (i * Z5.k α+u.cells.toList.length)).toArray) (λa ha=>?_) ⟨⟨css.set i u.cells.toList,by simp [hl],λj hj gk=>?_,?_,.inr ⟨q,cap,_,by simp,hb,setRow_heap w q cur _ T (0,0) hg,by simpa using cO,bU,?_,?_⟩⟩,jj⟩;have dw:ZD (.slice (some ⟨q,0,none⟩) xs.length cap) i (Z5.k α) 0=⟨q,i * Z5.k α,none⟩:=by simp [ZD]
 rw [dw] at hx;simp [execOp,ha.ev hx,ha.ev hy,Instr.storeAt,Instr.sureAddr,storeVar,Siz.run,d8,aA];have ae:∀ b∈[q],b∈ob (.slice (some ⟨q,0,none⟩) xs.length cap)++X:=by simp [ob]
 by_cases dC:i=j;subst dC;simp only [Ybh];exact Z5.ext bN jj ae (λb hb=>.inl hb);simp only [YaL dC];exact Z5.ext (hr j (by simpa using hj) (by simpa using gk)) jj ae (λb hb=>.inl hb);rw [Z1n css ai i (by omega)];have h1:=ho.1;simp only [Xc,Xx,Yaq,X8,ew,h1];have:(i+1) * Z5.k α<=xs.length * Z5.k α:=Xo _ (by omega);rw [Yac] at this;omega;simp only [Yaw,Xc,Xx,Yaq,Yal,ew,bh];rw [ew,bh] at db;omega;rw [Z1n css ai i (by omega),<- ht];have h2:(i+1) * Z5.k α<=xs.length * Z5.k α:=Xo _ (by omega);rw [Yac] at h2;have h3:i * Z5.k α<=cur.toList.length:=by simp [bh];exact Xh (by omega) (Xo _ cO)
 simp only [X8,ew];rw [YaB,YaB,YaE,YaE,Ybt];simp only [Xc,Xx,ew];rw [Yag h3,XL (l:=u.cells.toList) (by rw [ew];omega)];rw [YbB (by omega:i * Z5.k α<=xs.length * Z5.k α),Yag (by omega:i * Z5.k α<=xs.length * Z5.k α)]
theorem Z4j {β:Type} [Z3 β] {xs:List β} {i j k:Nat} {t:TypeId} {x y:Operand} {u:Value} {y':β} [bG:Siz P t 1] (hx:ev e x=some (.pointer (some (ZD v i k j)))) (hy:ev e y=some u) (hk:k=Z3.k β)
 (hu:u.cells.toList=[u]) (h1:u.oneCell'=true) (ab:Row X w base T v xs) (hi:i<xs.length) (hj:j<Z3.k β) (bN:Z3.enc y'=(Z3.enc xs[i]).set j u) :
 OE P n ⟨d,.store t x y,ty,pos,af,g⟩ e w (λ_ w'=>Row X w' base T v (xs.set i y')/\Stp (ob v) w w'):=by
 obtain ⟨css,hl,hr,ho⟩:=ab;have ai:∀ c∈css,c.length=Z5.k β:=by
  intro c hc;obtain ⟨q,hq,rfl⟩:=Xr hc;exact Z5.len (hr q (by omega) hq)
 have ey:Z5.k β=Z3.k β:=rfl;rcases ho.2 with ⟨rfl,hn⟩|⟨q,cap,cur,rfl,hb,hg,cO,bU,bh,ht⟩
 omega;subst hk;have hlt:i * Z3.k β+j<xs.length * Z3.k β:=by
  have:(i+1) * Z3.k β<=xs.length * Z3.k β:=Xo _ (by omega);rw [Yac] at this;omega
 have db:i * Z3.k β+j+[u].length<=cur.size:=by
  rw [bh,ey];have:=Xo (Z3.k β) cO;simp only [List.length_singleton];omega
 have aA:=run_storeCells_at P q (i * Z3.k β+j) T [u] 0 cur w hg (by simpa using db) (by simpa using h1);simp only [Ybr] at aA;have d8:u.cells.size=1:=by rw [<- Yal,hu];rfl
 have jj:Stp [q] w (w.setRow q (cur.toList.take (i * Z3.k β+j)++[u]++cur.toList.drop (i * Z3.k β+j+[u].length)).toArray):=Z1S _ _ _;have pN:css[i]'(by omega)=Z3.enc xs[i]:=hr i hi (by omega);refine Z4i (w':=w.setRow q (cur.toList.take (i * Z3.k β+j)++[u]++cur.toList.drop (i * Z3.k β+j+[u].length)).toArray) (λa ha=>?_) ⟨⟨css.set i ((css[i]'(by omega)).set j u),by simp [hl],λm hm kH=>?_,?_,.inr ⟨q,cap,_,by simp,hb,setRow_heap w q cur _ T (0,0) hg,by simpa using cO,bU,?_,?_⟩⟩,jj⟩;have dw:ZD (.slice (some ⟨q,0,none⟩) xs.length cap) i (Z3.k β) j=⟨q,i * Z3.k β+j,none⟩:=by simp [ZD]
 rw [dw] at hx;simp [execOp,ha.ev hx,ha.ev hy,Instr.storeAt,Instr.sureAddr,storeVar,Siz.run,d8,hu,aA];by_cases dC:i=m;subst dC;simp only [Ybh];show _=Z3.enc y';rw [pN,bN];simp only [YaL dC];exact hr m (by simpa using hm) (by simpa using kH);rw [Z2Y css ai i (by omega) j hj];simpa using ho.1;simp only [Yaw,Xc,Xx,Yaq,Yal];omega;rw [Z2Y css ai i (by omega) j hj,<- ht];have bG:i * Z3.k β+j<cur.toList.length:=by simp;simp at db;omega
 simp only [X8,ey];rw [show cur.toList.take (i * Z3.k β+j)++[u]++cur.toList.drop (i * Z3.k β+j+[u].length)=cur.toList.set (i * Z3.k β+j) u by
  rw [List.set_eq_take_append_cons_drop,if_pos bG];simp]
 rw [List.take_set]
def slc (v:Value) (l h k:Nat):Value:=
 match v with
 | .slice a _ c=>.slice (if c=l then a else a.map (·.add (l * k))) (h - l) (c - l)
 | v=>v
theorem SlV.slc (h:SlV X w v xs) {l r:Nat} (hl:l<=r) (hr:r<=xs.length):SlV X w (slc v l r (Z5.k α)) ((xs.take r).drop l):=by
 obtain ⟨p,c,rfl,ai,hm,hn,hc⟩:=h;have gq:((xs.take r).drop l).length=r - l:=by simp;omega
 refine ⟨if c=l then p else p.map (·.add (l * Z5.k α)),c - l,by simp [Eng.slc,gq],by omega,by omega,?_,λi hi=>?_⟩;intro hp;split at hp;omega
 . cases p with
   | none=>have:=hn rfl;omega
   | some a=>simp at hp
 have cn:l+i<xs.length:=by omega
 obtain ⟨b,o,cs,rfl,hb,hx,fi,an⟩:=hc (l+i) cn;refine ⟨b,o+l * Z5.k α,cs,?_,hb,hx,by simpa using fi,λj u hu=>?_⟩;rw [if_neg (by omega)];simp [Addr.add_lit];have:=an j u hu;rw [show o+l * Z5.k α+i * Z5.k α+j=o+(l+i) * Z5.k α+j by rw [Nat.add_mul];omega];exact this
theorem Z1U {t el k:Nat} {x hi:Operand} {r:Nat} {b:Int} [hu:Und P t (.slice el)] [hk:Siz P el k] {dm:World} (hx:ev e x=some v) (hs:SlV X dm v xs) (hb:ev e hi=some (.I b))
 (lU:b=(r:Int)) (mH:r<=xs.length):PR P n ⟨d,.slice t x none (some hi) none,ty,pos,af,g⟩ e w (slc v 0 r k):=by
 refine ⟨λact eV=>?_⟩;obtain ⟨p,c,rfl,ai,hm,hn,hc⟩:=hs;subst lU;simp [execOp,eV.ev hx,eV.ev hb,Instr.sliceAt,run_underlying hu.h,Instr.slice,Instr.sliceBounds,Instr.sliceBound,asIntOf,Siz.run,Eng.slc,show r<=c by omega]
theorem Z57 {t el k:Nat} {x lo:Operand} {l:Nat} {a:Int} [hu:Und P t (.slice el)] [hk:Siz P el k] {dm:World} (hx:ev e x=some v) (hs:SlV X dm v xs) (ha:ev e lo=some (.I a))
 (it:a=(l:Int)) (pO:l<=xs.length):PR P n ⟨d,.slice t x (some lo) none none,ty,pos,af,g⟩ e w (slc v l xs.length k):=by
 refine ⟨λact eV=>?_⟩;obtain ⟨p,c,rfl,ai,hm,hn,hc⟩:=hs;subst it;simp [execOp,eV.ev hx,eV.ev ha,Instr.sliceAt,run_underlying hu.h,Instr.slice,Instr.sliceBounds,Instr.sliceBound,asIntOf,Siz.run,Eng.slc,pO]
theorem Z5r {k:Nat}:∀ (css:List (List Value)),(∀ c∈css,c.length=k)->∀ (i:Nat),(css.take i).flatten=css.flatten.take (i * k)
 | [],_,i=>by simp
 | c :: r,hk,0=>by simp
 | c :: r, hk, i + 1 => by
   have hc:=hk c (by simp);have ih:=Z5r r (λc hc=>hk c (by simp [hc])) i;simp only [Ya2,Yaj,ih,Yac];rw [YaB,hc,XL (l:=c) (by omega),show i * k+k - k=i * k by omega]
theorem ZiI (v:Value) (r k:Nat):ob (slc v 0 r k)=ob v:=by
 cases v<;>try rfl
 rename_i a l c;cases a with
 | none=>simp [slc,ob]
 | some a=>by_cases hc:c=0<;>simp [slc,ob,hc,Addr.add]
theorem Row.cut (h:Row X w base T v xs) {r:Nat} (hr:r<=xs.length):Row X w base T (slc v 0 r (Z5.k α)) (xs.take r):=by
 obtain ⟨css,hl,fi,ho⟩:=h;have ai:∀ c∈css,c.length=Z5.k α:=by
  intro c hc;obtain ⟨q,hq,rfl⟩:=Xr hc;exact Z5.len (fi q (by omega) hq)
 refine ⟨css.take r,by simp [hl],λi hi cA=>?_,?_,?_⟩;rw [ZiI];simp only [List.getElem_take];exact fi i (by simp at hi;omega) (by simp at cA;omega);rw [Z12 _ (λc hc=>ai c (Yau hc))];simp [hl];rcases ho.2 with ⟨rfl,hn⟩|⟨q,cap,cur,rfl,hb,hg,cO,bU,bh,ht⟩
 exact .inl ⟨by simp [Eng.slc];omega,by simp;omega⟩;refine .inr ⟨q,cap,cur,?_,hb,hg,by simp;omega,bU,bh,?_⟩;simp [Eng.slc,Addr.add,Xx,Yag hr];rw [Z5r css ai,<- ht,YaE,Xx,Yag hr];congr 1;have:=Xo (Z5.k α) hr;omega
end row
section misc
variable {P:Program} {n:Nat} {e:Env} {w:World} {d:Option Nat} {ty:TypeId} {pos:String} {af:Array Edge} {g:Option (Nat×Bool)}
def Jw (e:Env):List (Nat×Operand)->Option (List (Nat×Value))
 | []=>some []
 | (i, x) :: r => match ev e x, Jw e r with
   | some v,some l=>some ((i,v) :: l)
   | _,_=>none
theorem Has.parts {a:Act} (ha:Has n e a):∀ {l:List (Nat×Operand)} {vs:List (Nat×Value)},Jw e l=some vs->l.map (λ(p:Nat×Operand)=>(p.1,a.eval p.2))=vs
 | [],vs,h=>by simp [Jw] at h;simp [h]
 | (i, x) :: r, vs, h => by
   simp only [Jw] at h;cases hx:Eng.ev e x with
   | none=>simp [hx] at h
   | some v=>
     cases hr:Jw e r with
     | none=>simp [hx,hr] at h
     | some l=>
       simp [hx,hr] at h;subst h;simp [ha.ev hx,Has.parts ha hr]
theorem JC {t:TypeId} {l:List (Nat×Operand)} {vs:List (Nat×Value)} {u:Value} (hv:Jw e l=some vs) (hb:∀ w,(Instr.build t vs.toArray).run P w=.ok u w):PR P n ⟨d,.build t l.toArray,ty,pos,af,g⟩ e w u:=
 ⟨λa ha => by
   have h1:=ha.parts hv;have h2:l.toArray.map (λ(x:Nat×Operand)=>match x with|(i,x)=>(i,a.eval x))=vs.toArray:=by
    rw [YbC];exact congrArg List.toArray h1
   simp only [execOp];rw [h2];simp [hb]⟩
def Z9 (w:World) (T:TypeId) (len:Nat) (cs:List Value) (v:Value) (w':World):Prop:=∃ b,v=.slice (some ⟨b,0,none⟩) len len/\w.heap.size<=b/\Blk w' b T cs/\Stp [] w w'
theorem Z1 {t T len:Nat} {l:List (Nat×Operand)} {vs:List (Nat×Value)} {cs:List Value} (hv:Jw e l=some vs)
 (hb:∀ w:World,(Instr.buildSlice t len vs.toArray).run P w=.ok (.slice (some ⟨w.heap.size,0,none⟩) len len) (w.alloc (.cells cs.toArray T))) :
 OE P n ⟨d,.buildSlice t len l.toArray,ty,pos,af,g⟩ e w (Z9 w T len cs):=
 Jf (v:=.slice (some ⟨w.heap.size,0,none⟩) len len) (w':=w.alloc (.cells cs.toArray T)) (λa ha=>by
  have h1:=ha.parts hv;have h2:l.toArray.map (λ(x:Nat×Operand)=>match x with|(i,x)=>(i,a.eval x))=vs.toArray:=by
   rw [YbC];exact congrArg List.toArray h1
  simp only [execOp];rw [h2];simp [hb w]) ⟨w.heap.size,rfl,Xn _,heap_alloc_new w _,Stp.alloc _ _ _⟩
theorem Z9.slv {β:Type} [Z3 β] {X:List Nat} {T len:Nat} {cs:List Value} {v:Value} {w':World} {ys:List β} (h:Z9 w T len cs v w') (hX:∀ b∈X,b<w.heap.size) (hl:len=ys.length) (hc:cs=ys.flatMap Z3.enc) (hm:ys.length<=maxLen):SlV X w' v ys:=by
 obtain ⟨b,rfl,hb,ac,hS⟩:=h;subst hl;refine ⟨some ⟨b,0,none⟩,ys.length,rfl,Xn _,hm,λh=>by simp at h,λi hi=>⟨b,0,Z3.enc ys[i],rfl,ac.lt,λhx=>by have:=hX b hx;omega,rfl,λj u hu=>?_⟩⟩;subst hc;refine ac.cell ?_;have hk:∀ c∈ys.map Z3.enc,c.length=Z3.k β:=by
  intro c hc;obtain ⟨y,_,rfl⟩:=XG.1 hc;exact Z3.len y
 have:=Z0m (ys.map Z3.enc) hk i (by simpa using hi) j u (by simpa using hu);rw [Ybj,XM];exact this
theorem Z9.row {β:Type} [Z3 β] {X:List Nat} {T len base:Nat} {cs:List Value} {v:Value} {w':World} {ys:List β} (h:Z9 w T len cs v w') (aZ:base<=w.heap.size) (hl:len=ys.length) (hc:cs=ys.flatMap Z3.enc) (hm:ys.length<=maxLen):Row X w' base T v ys:=by
 obtain ⟨b,rfl,hb,ac,hS⟩:=h;subst hl;subst hc;have hk:∀ c∈ys.map Z3.enc,c.length=Z3.k β:=by
  intro c hc;obtain ⟨y,_,rfl⟩:=XG.1 hc;exact Z3.len y
 have dW:(ys.flatMap Z3.enc).length=ys.length * Z3.k β:=by rw [Ybj,Z12 _ hk,Xt]
 refine ⟨ys.map Z3.enc,by simp,λi hi cA=>(by simp:(ys.map Z3.enc)[i]=Z3.enc ys[i]),?_,.inr ⟨b,ys.length,(ys.flatMap Z3.enc).toArray,rfl,by omega,ac,Xn _,hm,by rw [Yaw];exact dW,?_⟩⟩;rw [<- Ybj];exact dW;rw [<- Ybj];exact XL (by show (ys.flatMap Z3.enc).length<=_;rw [dW];exact Xn _)
theorem ZmB {x y:Operand} {t u:TypeId} {p q:Value} {c:Prop} [Decidable c] (hx:ev e x=some p) (hy:ev e y=some q) (hg:∀ w,(eqGuard .eql t x y p q).run P w=.ok () w) (h:∀ w,(binOp .eql t p q).run P w=.ok (.B (decide c)) w) :
 PR P n ⟨d,.binOp .eql t x y u,ty,pos,af,g⟩ e w (.B (decide c)):=⟨λa ha=>by simp [execOp,ha.ev hx,ha.ev hy,h,hg]⟩
theorem ZeO {x y:Operand} {t u:TypeId} {p q:Value} {c:Prop} [Decidable c] (hx:ev e x=some p) (hy:ev e y=some q) (hg:∀ w,(eqGuard .neq t x y p q).run P w=.ok () w) (h:∀ w,(binOp .neq t p q).run P w=.ok (.B (decide (¬ c))) w) :
 PR P n ⟨d,.binOp .neq t x y u,ty,pos,af,g⟩ e w (.B (decide (¬ c))):=⟨λa ha=>by simp only [execOp,ha.ev hx,ha.ev hy];simp [h,hg]⟩
end misc
section post
variable {P:Program} {n:Nat} {fn:Func} {R:Ending->World->Prop} {e:Env} {w:World} {Q:Exit->Act->World->Prop}
theorem Z6U {t b T m:Nat} {D:TypeDesc} {cs:List Value} [hu:Und P t D] (hA:Z0R D=true) [hs:Siz P t m] (hb:Blk w b T cs) (hl:cs.length=m):(loadVar t ⟨b,0,none⟩).run P w=.ok (.agg cs.toArray) w:=by
 have:=run_loadCells_list (P:=P) w ⟨b,0,none⟩ cs (λj v h=>by rw [Addr.add_lit,XM];exact hb.cell h);rw [hl] at this;simp [loadVar,Und.isAgg,hA,Siz.run,this]
theorem J6 {t b T T' m:Nat} {D:TypeDesc} {cs:List Value} (hr:fn.results=#[.cell t T']) [hu:Und P T' D] (hA:Z0R D=true) [hs:Siz P T' m] (ht:look e t=some (pQ b)) (hb:Blk w b T cs) (hl:cs.length=m)
 (h:R (.returned (.agg cs.toArray)) w):WQ n (bodyPost P fn R) .ret e w:=
 ⟨λa ha => ⟨ha.defers, .agg cs.toArray, by
   have h1:=ha.vals _ _ ht;rw [XB] at h1;simp [results,hr,h1,asAddr,Z6U hA hb hl],h⟩⟩
theorem Zm {t b T T' m s:Nat} {D:TypeDesc} {cs:List Value} {v:Value} (hr:fn.results=#[.cell t T',.tmp s]) [hu:Und P T' D] (hA:Z0R D=true) [hs:Siz P T' m] (ht:look e t=some (pQ b)) (hb:Blk w b T cs) (hl:cs.length=m)
 (hv:look e s=some v) (h:R (.returned (.tuple #[.agg cs.toArray,v])) w):WQ n (bodyPost P fn R) .ret e w:=
 ⟨λa ha => ⟨ha.defers, .tuple #[.agg cs.toArray, v], by
   have h1:=ha.vals _ _ ht;have h2:=ha.vals _ _ hv;rw [XB] at h1 h2;simp [results,hr,h1,h2,asAddr,Z6U hA hb hl],h⟩⟩
end post
theorem Zoq {P:Program} {n:Nat} {o:Oper} {e:Env} {w} {v:Value} (h:PR P n o e w v):OE P n o e w (λu w'=>u=v/\w'=w):=Jf h.h ⟨rfl,rfl⟩
section
variable {P:Program} {n:Nat} {Q:Exit->Act->World->Prop} {e:Env} {w:World} {ops:Array Oper} {S:List Nat} {Lt:List Nat} {rest:List Oper} {ord:List (Nat×Nat)} {am bY:Nat} {ty:TypeId} {pos:String} {af:Array Edge} {gd:Option (Nat×Bool)}
theorem Z7x {x:Operand} {v:Value} (hx:ev e x=some v) (aw:Nat.blt am n=true) (kk:WL P n ops Q rest ((am,v) :: e) w):WL P n ops Q (⟨some am,.move x,ty,pos,af,none⟩ :: rest) e w:=by
 refine Z8 (v:=v) ?_ aw kk;apply ZZ<;>assumption
theorem Z4k {x:Operand} {v:Value} (hx:ev e x=some v) (aw:Nat.blt am n=true) (kk:WL P n ops Q rest ((am,v) :: e) w):WL P n ops Q (⟨some am,.assign x,ty,pos,af,none⟩ :: rest) e w:=by
 refine Z8 (v:=v) ?_ aw kk;apply Z6f<;>assumption
theorem Zdr {x y:Operand} {t u:TypeId} {a b:Int} {k:IntKind} (hx:ev e x=some (.int k a)) (hy:ev e y=some (.int k b)) (aw:Nat.blt am n=true) (kk:WL P n ops Q rest ((am,(.B (decide (a<b)))) :: e) w):WL P n ops Q (⟨some am,.binOp .lss t x y u,ty,pos,af,none⟩ :: rest) e w:=by
 refine Z8 (v:=(.B (decide (a<b)))) ?_ aw kk;apply ZhD<;>assumption
theorem Zds {x y:Operand} {t u:TypeId} {a b:Int} {k:IntKind} (hx:ev e x=some (.int k a)) (hy:ev e y=some (.int k b)) (aw:Nat.blt am n=true) (kk:WL P n ops Q rest ((am,(.B (decide (b<a)))) :: e) w):WL P n ops Q (⟨some am,.binOp .gtr t x y u,ty,pos,af,none⟩ :: rest) e w:=by
 refine Z8 (v:=(.B (decide (b<a)))) ?_ aw kk;apply ZhE<;>assumption
theorem ZsV {x y:Operand} {t u:TypeId} {a b:Int} {k:IntKind} (hx:ev e x=some (.int k a)) (hy:ev e y=some (.int k b)) (aw:Nat.blt am n=true) (kk:WL P n ops Q rest ((am,(.B (decide (¬ a=b)))) :: e) w):WL P n ops Q (⟨some am,.binOp .neq t x y u,ty,pos,af,none⟩ :: rest) e w:=by
 refine Z8 (v:=(.B (decide (¬ a=b)))) ?_ aw kk;apply ZhF<;>assumption
theorem ZmC {x y:Operand} {t u:TypeId} {p q:Bool} [hu:Und P t .bool] (hx:ev e x=some (.B p)) (hy:ev e y=some (.B q)) (aw:Nat.blt am n=true) (kk:WL P n ops Q rest ((am,(.B (decide (¬ p=q)))) :: e) w):WL P n ops Q (⟨some am,.binOp .neq t x y u,ty,pos,af,none⟩ :: rest) e w:=by
 refine Z8 (v:=(.B (decide (¬ p=q)))) ?_ aw kk;apply ZeL<;>assumption
theorem Z5s {x:Operand} {t:TypeId} {b o i off:Nat} [hf:Fld P t i off] (ba:ops[bY]?=some ⟨some am,.fieldAddr t x i,ty,pos,af,gd⟩) (bg:Z02 ops e gd) (hx:ev e x=some (.pointer (some ⟨b,o,none⟩))) (aw:Nat.blt am n=true) (kk:WD P n ops S Lt Q ord ((am,(.pointer (some ⟨b,o+off,none⟩))) :: e) w):WD P n ops S Lt Q ((bY,0) :: ord) e w:=by
 refine ZS (v:=(.pointer (some ⟨b,o+off,none⟩))) ba bg (λw'=>?_) aw kk;apply ZW<;>assumption
theorem ZiJ {x:Operand} {t:TypeId} {D:TypeDesc} {ad:Addr} {v:Value} [hu:Und P t D] (hA:Z0R D=false) (hx:ev e x=some (.pointer (some ad))) (hc:w.cell? ad=some v) (aw:Nat.blt am n=true) (kk:WL P n ops Q rest ((am,v) :: e) w):WL P n ops Q (⟨some am,.load t x,ty,pos,af,none⟩ :: rest) e w:=by
 refine Z8 (v:=v) ?_ aw kk;apply JI<;>assumption
theorem Zbz {b T o:Nat} {cs:List Value} {u:Value} {x:Operand} {t:TypeId} {D:TypeDesc} [hu:Und P t D] (hA:Z0R D=false) (hx:ev e x=some (.pointer (some ⟨b,o,none⟩))) (hb:Blk w b T cs) (hc:cs[o]?=some u) (aw:Nat.blt am n=true) (kk:WL P n ops Q rest ((am,u) :: e) w):WL P n ops Q (⟨some am,.load t x,ty,pos,af,none⟩ :: rest) e w:=by
 refine Z8 (v:=u) ?_ aw kk;apply J1<;>assumption
theorem Zdt {α:Type} [Z5 α] {X:List Nat} {v:Value} {xs:List α} {t el k:Nat} {x hi:Operand} {r:Nat} {b:Int} [hu:Und P t (.slice el)] [hk:Siz P el k] {dm:World} (hx:ev e x=some v) (hs:SlV X dm v xs) (hb:ev e hi=some (.I b)) (lU:b=(r:Int)) (mH:r<=xs.length) (aw:Nat.blt am n=true) (kk:WL P n ops Q rest ((am,(slc v 0 r k)) :: e) w):WL P n ops Q (⟨some am,.slice t x none (some hi) none,ty,pos,af,none⟩ :: rest) e w:=by
 refine Z8 (v:=(slc v 0 r k)) ?_ aw kk;apply Z1U (α:=α)<;>assumption
theorem Z58 {α:Type} [Z5 α] {X:List Nat} {v:Value} {xs:List α} {t el k:Nat} {x lo:Operand} {l:Nat} {a:Int} [hu:Und P t (.slice el)] [hk:Siz P el k] {dm:World} (hx:ev e x=some v) (hs:SlV X dm v xs) (ha:ev e lo=some (.I a)) (it:a=(l:Int)) (pO:l<=xs.length) (aw:Nat.blt am n=true) (kk:WL P n ops Q rest ((am,(slc v l xs.length k)) :: e) w):WL P n ops Q (⟨some am,.slice t x (some lo) none none,ty,pos,af,none⟩ :: rest) e w:=by
 refine Z8 (v:=(slc v l xs.length k)) ?_ aw kk;apply Z57 (α:=α)<;>assumption
theorem Z7 {t:TypeId} {l:List (Nat×Operand)} {vs:List (Nat×Value)} {u:Value} (hv:Jw e l=some vs) (hb:∀ w,(Instr.build t vs.toArray).run P w=.ok u w) (aw:Nat.blt am n=true) (kk:WL P n ops Q rest ((am,u) :: e) w):WL P n ops Q (⟨some am,.build t l.toArray,ty,pos,af,none⟩ :: rest) e w:=by
 refine Z8 (v:=u) ?_ aw kk;apply JC<;>assumption
theorem Z2G {t:TypeId} {l:List (Nat×Operand)} {vs:List (Nat×Value)} {u:Value} (ba:ops[bY]?=some ⟨some am,.build t l.toArray,ty,pos,af,gd⟩) (bg:Z02 ops e gd) (hv:Jw e l=some vs) (hb:∀ w,(Instr.build t vs.toArray).run P w=.ok u w) (aw:Nat.blt am n=true) (kk:WD P n ops S Lt Q ord ((am,u) :: e) w):WD P n ops S Lt Q ((bY,0) :: ord) e w:=by
 refine ZS (v:=u) ba bg (λw'=>?_) aw kk;apply JC<;>assumption
theorem ZmD {x y:Operand} {t u:TypeId} {p q:Value} {c:Prop} [Decidable c] (ba:ops[bY]?=some ⟨some am,.binOp .eql t x y u,ty,pos,af,gd⟩) (bg:Z02 ops e gd) (hx:ev e x=some p) (hy:ev e y=some q) (hg:∀ w,(eqGuard .eql t x y p q).run P w=.ok () w) (h:∀ w,(binOp .eql t p q).run P w=.ok (.B (decide c)) w) (aw:Nat.blt am n=true) (kk:WD P n ops S Lt Q ord ((am,(.B (decide c))) :: e) w):WD P n ops S Lt Q ((bY,0) :: ord) e w:=by
 refine ZS (v:=(.B (decide c))) ba bg (λw'=>?_) aw kk;apply ZmB<;>assumption
theorem ZmE {x y:Operand} {t u:TypeId} {p q:Value} {c:Prop} [Decidable c] (hx:ev e x=some p) (hy:ev e y=some q) (hg:∀ w,(eqGuard .neq t x y p q).run P w=.ok () w) (h:∀ w,(binOp .neq t p q).run P w=.ok (.B (decide (¬ c))) w) (aw:Nat.blt am n=true) (kk:WL P n ops Q rest ((am,(.B (decide (¬ c)))) :: e) w):WL P n ops Q (⟨some am,.binOp .neq t x y u,ty,pos,af,none⟩ :: rest) e w:=by
 refine Z8 (v:=(.B (decide (¬ c)))) ?_ aw kk;apply ZeO<;>assumption
theorem ZmF {x y:Operand} {t u:TypeId} {p q:Value} {c:Prop} [Decidable c] (ba:ops[bY]?=some ⟨some am,.binOp .neq t x y u,ty,pos,af,gd⟩) (bg:Z02 ops e gd) (hx:ev e x=some p) (hy:ev e y=some q) (hg:∀ w,(eqGuard .neq t x y p q).run P w=.ok () w) (h:∀ w,(binOp .neq t p q).run P w=.ok (.B (decide (¬ c))) w) (aw:Nat.blt am n=true) (kk:WD P n ops S Lt Q ord ((am,(.B (decide (¬ c)))) :: e) w):WD P n ops S Lt Q ((bY,0) :: ord) e w:=by
 refine ZS (v:=(.B (decide (¬ c)))) ba bg (λw'=>?_) aw kk;apply ZeO<;>assumption
end
section
variable {P:Program} {n:Nat} {Q:Exit->Act->World->Prop} {e:Env} {w:World} {ops:Array Oper} {S:List Nat} {Lt:List Nat} {ord:List (Nat×Nat)} {am bY:Nat} {ty:TypeId} {pos:String} {af:Array Edge} {gd:Option (Nat×Bool)}
theorem Z0n {b T o:Nat} {cs:List Value} {u:Value} {x:Operand} {t:TypeId} {D:TypeDesc} [hu:Und P t D] (ba:ops[bY]?=some ⟨some am,.load t x,ty,pos,af,gd⟩) (bg:Z02 ops e gd) (hA:Z0R D=false) (hx:ev e x=some (.pointer (some ⟨b,o,none⟩))) (hb:Blk w b T cs) (hn:b∉S) (hc:cs[o]?=some u) (aw:Nat.blt am n=true) (kk:WD P n ops S Lt Q ord ((am,u) :: e) w):WD P n ops S Lt Q ((bY,1) :: ord) e w:=
 WD_read ba bg (λw' hS=>J1 hA hx (hb.ext hS hn) hc) aw kk
end
abbrev Str:=List UInt8
abbrev str (s:Str):Value:=.string ⟨s.toArray⟩
theorem ZmG (a b:Str):((⟨a.toArray⟩:ByteArray).toList == (⟨b.toArray⟩:ByteArray).toList)=decide (a=b):=by
 rw [ByteArray.toList_eq,ByteArray.toList_eq];simp only [YaG]
theorem Z0o (a:Str):(⟨a.toArray⟩:ByteArray).size=a.length:=by simp [ByteArray.size]
theorem Z3C (a:Str) (i j:Nat):(⟨a.toArray⟩:ByteArray).extract i j=⟨((a.take j).drop i).toArray⟩:=by
 apply ByteArray.ext;simp [ByteArray.data_extract,Ybt]
theorem Zdu (a b:Str):(⟨a.toArray⟩++⟨b.toArray⟩:ByteArray)=⟨(a++b).toArray⟩:=by
 apply ByteArray.ext;simp [ByteArray.data_append]
def Jg (a:Str) (i:Nat):Int:=((a.getD i 0).toNat:Int)
theorem byte_at {a:Str} {i:Nat} (h:i<a.length):Jg a i=(a[i].toNat:Int):=by simp [Jg,List.getD,h]
theorem Z7P (a:Str) (i:Nat):0<=Jg a i/\Jg a i<256:=by
 unfold Jg;have:=(a.getD i 0).toNat_lt;omega
instance:Z3 Str where
 k:=1
 enc:=λx=>[str x]
 len:=λ_=>rfl
 one:=by intro x u hu;simp at hu;subst hu;rfl
section rules
variable {P:Program} {n:Nat} {e:Env} {w:World} {d:Option Nat} {ty:TypeId} {pos:String} {af:Array Edge} {g:Option (Nat×Bool)}
theorem ZmH {t u:TypeId} {x y:Operand} {a b:Str} [hu:Und P t .string] (hx:ev e x=some (str a)) (hy:ev e y=some (str b)):PR P n ⟨d,.binOp .eql t x y u,ty,pos,af,g⟩ e w (.B (decide (a=b))):=
 ⟨λc ha=>by simp only [execOp,ha.ev hx,ha.ev hy];simp [go_sem,binOp,Op.stringOp];rw [YaG]⟩
theorem ZmI {t u:TypeId} {x y:Operand} {a b:Str} [hu:Und P t .string] (hx:ev e x=some (str a)) (hy:ev e y=some (str b)):PR P n ⟨d,.binOp .neq t x y u,ty,pos,af,g⟩ e w (.B (decide (¬ a=b))):=
 ⟨λc ha=>by simp only [execOp,ha.ev hx,ha.ev hy];simp [go_sem,binOp,Op.stringOp];by_cases h:a=b<;>simp [h]⟩
theorem ZeP {t u:TypeId} {x y:Operand} {a b:Str} [hu:Und P t .string] (hx:ev e x=some (str a)) (hy:ev e y=some (str b)) (hl:a.length+b.length<=9223372036854775807):PR P n ⟨d,.binOp .add t x y u,ty,pos,af,g⟩ e w (str (a++b)):=
 ⟨λc ha => by
   simp only [execOp,ha.ev hx,ha.ev hy];simp [go_sem,binOp,Op.stringOp,Zdu];omega⟩
theorem ZmJ {x:Operand} {t:TypeId} {a:Str} [hu:Und P t .string] (hx:ev e x=some (str a)) :
 PR P n ⟨d,.call { callee:=.builtin .len,args:=#[x],argTypes:=#[t] },ty,pos,af,g⟩ e w (.I (a.length:Int)):=
 ⟨λc ha => by
   have:=run_len_string (P:=P) w t ty ⟨a.toArray⟩ hu.h;simp [execOp,resolve,invoke,builtin,ha.ev hx,this,goInt,Z0o]⟩
theorem Z9m {t:TypeId} {x y:Operand} {a:Str} {z:Int} {i:Nat} [hu:Und P t .string] (hx:ev e x=some (str a)) (hy:ev e y=some (.I z)) (hz:z=(i:Int)) (hi:i<a.length):PR P n ⟨d,.index t x y,ty,pos,af,g⟩ e w (.int .u8 (Jg a i)):=
 ⟨λc ha => by
   subst hz;have h1:(0:Int)<=(i:Int)/\((i:Int)<((⟨a.toArray⟩:ByteArray).size:Int)):=by rw [Z0o];omega
   have:=run_index_string (P:=P) w t ⟨a.toArray⟩ .i64 (i:Int) hu.h;rw [dif_pos h1] at this;simp only [execOp,ha.ev hx,ha.ev hy];simp [this,Jg,List.getD,hi];rfl⟩
theorem Z2Z {t:TypeId} {x lo hi:Operand} {a:Str} {p q:Int} {l r:Nat} [hu:Und P t .string] (hx:ev e x=some (str a)) (h1:ev e lo=some (.I p)) (h2:ev e hi=some (.I q)) (hp:p=(l:Int)) (hq:q=(r:Int)) (pP:l<=r) (hr:r<=a.length) :
 PR P n ⟨d,.slice t x (some lo) (some hi) none,ty,pos,af,g⟩ e w (str ((a.take r).drop l)):=
 ⟨λc ha => by
   subst hp;subst hq;have:=run_slice_string (P:=P) w t ⟨a.toArray⟩ .i64 .i64 (l:Int) (r:Int) hu.h (by omega) (by omega) (by rw [Z0o];omega);simp only [execOp,ha.ev hx,ha.ev h1,ha.ev h2,Option.map];simp [Instr.sliceAt,run_underlying hu.h,this,Z3C]⟩
theorem Z6V {t:TypeId} {x lo:Operand} {a:Str} {p:Int} {l:Nat} [hu:Und P t .string] (hx:ev e x=some (str a)) (h1:ev e lo=some (.I p)) (hp:p=(l:Int)) (hl:l<=a.length) :
 PR P n ⟨d,.slice t x (some lo) none none,ty,pos,af,g⟩ e w (str (a.drop l)):=
 ⟨λc ha => by
   subst hp;have:=run_slice_string_l (P:=P) (t:=t) (s:=⟨a.toArray⟩) w hu.h .i64 (l:Int) (by omega) (by rw [Z0o];omega);simp only [execOp,ha.ev hx,ha.ev h1,Option.map];simp [Instr.sliceAt,run_underlying hu.h,this,Z3C,Z0o]⟩
theorem ZbA {t:TypeId} {x hi:Operand} {a:Str} {q:Int} {r:Nat} [hu:Und P t .string] (hx:ev e x=some (str a)) (h2:ev e hi=some (.I q)) (hq:q=(r:Int)) (hr:r<=a.length) :
 PR P n ⟨d,.slice t x none (some hi) none,ty,pos,af,g⟩ e w (str (a.take r)):=
 ⟨λc ha => by
   subst hq;have:=run_slice_string_h (P:=P) (t:=t) (s:=⟨a.toArray⟩) w hu.h .i64 (r:Int) (by omega) (by rw [Z0o];omega);simp only [execOp,ha.ev hx,ha.ev h2,Option.map];simp [Instr.sliceAt,run_underlying hu.h,this,Z3C]⟩
theorem Z3D {x:Operand} {b:Addr} (hx:ev e x=some (.pointer (some b))):PR P n ⟨d,.nilCheck x,ty,pos,af,g⟩ e w (.pointer (some b)):=
 ⟨λa ha=>by simp [execOp,ha.ev hx]⟩
theorem ZiK {t:TypeId} {x:Operand} {p:Prop} {i:Decidable p} (hx:ev e x=some (.B (decide p))):PR P n ⟨d,.unOp .not t x,ty,pos,af,g⟩ e w (.B (decide (¬ p))):=
 ⟨λa ha=>by simp [execOp,ha.ev hx,Op.unary]⟩
theorem Z4l {t el len k:Nat} {x y:Operand} {b o i:Nat} {z:Int} [hu:Und P t (.array len el)] [hk:Siz P el k] (hx:ev e x=some (.pointer (some ⟨b,o,none⟩))) (hy:ev e y=some (.I z)) (hz:z=(i:Int)) (hi:i<len) :
 PR P n ⟨d,.indexAddr t x y,ty,pos,af,g⟩ e w (.pointer (some ⟨b,o+i * k,none⟩)):=
 ⟨λa ha => by
   subst hz;have h0:(0:Int)<=(i:Int)/\(i:Int)<(len:Int):=by omega
   have hr:(Instr.indexAt t (.pointer (some ⟨b,o,none⟩)) (.I (i:Int))).run P w=.ok (.pointer (some ⟨b,o+i * k,none⟩)) w:=by
    simp only [Instr.indexAt,asIntOf];simp [run_underlying hu.h,Instr.sureAddr,Siz.run,Addr.add_lit,hi]
   simp [execOp,ha.ev hx,ha.ev hy,hr]⟩
theorem Z6i {t el len k:Nat} {x:Operand} {b:Nat} [hu:Und P t (.array len el)] [hk:Siz P el k] (hx:ev e x=some (pQ b)) :
 PR P n ⟨d,.slice t x none none none,ty,pos,af,g⟩ e w (.slice (some ⟨b,0,none⟩) len len):=
 ⟨λa ha => by
   have hr:(Instr.sliceAt t (pQ b) none none none).run P w=.ok (.slice (some ⟨b,0,none⟩) len len) w:=by
    simp [Instr.sliceAt,Instr.sureAddr,run_underlying hu.h,Instr.sliceBounds,Siz.run,Addr.add]
   simp [execOp,ha.ev hx,hr]⟩
theorem ZsW {x y:Operand} {ts:Array TypeId} {a b:Int} (hx:ev e x=some (.I a)) (hy:ev e y=some (.I b)) :
 PR P n ⟨d,.call { callee:=.builtin .max,args:=#[x,y],argTypes:=ts },ty,pos,af,g⟩ e w (.I (max a b)):=
 ⟨λc ha => by
   have hm:(if b > a then b else a)=max a b:=by omega
   simp [execOp,resolve,invoke,builtin,ha.ev hx,ha.ev hy,run_max_int2,hm]⟩
theorem ZsX {x y:Operand} {ts:Array TypeId} {a b:Int} (hx:ev e x=some (.I a)) (hy:ev e y=some (.I b)) :
 PR P n ⟨d,.call { callee:=.builtin .min,args:=#[x,y],argTypes:=ts },ty,pos,af,g⟩ e w (.I (min a b)):=
 ⟨λc ha => by
   have hm:(if b<a then b else a)=min a b:=by omega
   simp [execOp,resolve,invoke,builtin,ha.ev hx,ha.ev hy,run_min_int2,hm]⟩
end rules
section
variable {P:Program} {n:Nat} {Q:Exit->Act->World->Prop} {e:Env} {w:World} {ops:Array Oper} {S:List Nat} {Lt:List Nat} {rest:List Oper} {ord:List (Nat×Nat)} {am bY:Nat} {ty:TypeId} {pos:String} {af:Array Edge} {gd:Option (Nat×Bool)}
theorem Z30 {t u:TypeId} {x y:Operand} {a b:Str} [hu:Und P t .string] (hx:ev e x=some (str a)) (hy:ev e y=some (str b)) (hl:a.length+b.length<=9223372036854775807) (aw:Nat.blt am n=true) (kk:WL P n ops Q rest ((am,(str (a++b))) :: e) w):WL P n ops Q (⟨some am,.binOp .add t x y u,ty,pos,af,none⟩ :: rest) e w:=by
 refine Z8 (v:=(str (a++b))) ?_ aw kk;apply ZeP<;>assumption
theorem Jb {t:TypeId} {x y:Operand} {a:Str} {z:Int} {i:Nat} [hu:Und P t .string] (hx:ev e x=some (str a)) (hy:ev e y=some (.int .i64 z)) (hz:z=(i:Int)) (hi:i<a.length) (aw:Nat.blt am n=true) (kk:WL P n ops Q rest ((am,(.int .u8 (Jg a i))) :: e) w):WL P n ops Q (⟨some am,.index t x y,ty,pos,af,none⟩ :: rest) e w:=by
 refine Z8 (v:=(.int .u8 (Jg a i))) ?_ aw kk;apply Z9m<;>assumption
theorem Z5t {t:TypeId} {x lo hi:Operand} {a:Str} {p q:Int} {l r:Nat} [hu:Und P t .string] (hx:ev e x=some (str a)) (h1:ev e lo=some (.int .i64 p)) (h2:ev e hi=some (.int .i64 q)) (hp:p=(l:Int)) (hq:q=(r:Int)) (pP:l<=r) (hr:r<=a.length) (aw:Nat.blt am n=true) (kk:WL P n ops Q rest ((am,(str ((a.take r).drop l))) :: e) w):WL P n ops Q (⟨some am,.slice t x (some lo) (some hi) none,ty,pos,af,none⟩ :: rest) e w:=by
 refine Z8 (v:=(str ((a.take r).drop l))) ?_ aw kk;apply Z2Z<;>assumption
theorem ZbB {t:TypeId} {x lo:Operand} {a:Str} {p:Int} {l:Nat} [hu:Und P t .string] (hx:ev e x=some (str a)) (h1:ev e lo=some (.int .i64 p)) (hp:p=(l:Int)) (hl:l<=a.length) (aw:Nat.blt am n=true) (kk:WL P n ops Q rest ((am,(str (a.drop l))) :: e) w):WL P n ops Q (⟨some am,.slice t x (some lo) none none,ty,pos,af,none⟩ :: rest) e w:=by
 refine Z8 (v:=(str (a.drop l))) ?_ aw kk;apply Z6V<;>assumption
theorem ZbC {t:TypeId} {x lo:Operand} {a:Str} {p:Int} {l:Nat} [hu:Und P t .string] (ba:ops[bY]?=some ⟨some am,.slice t x (some lo) none none,ty,pos,af,gd⟩) (bg:Z02 ops e gd) (hx:ev e x=some (str a)) (h1:ev e lo=some (.int .i64 p)) (hp:p=(l:Int)) (hl:l<=a.length) (aw:Nat.blt am n=true) (kk:WD P n ops S Lt Q ord ((am,(str (a.drop l))) :: e) w):WD P n ops S Lt Q ((bY,0) :: ord) e w:=by
 refine ZS (v:=(str (a.drop l))) ba bg (λw'=>?_) aw kk;apply Z6V<;>assumption
theorem Z0p {t:TypeId} {x hi:Operand} {a:Str} {q:Int} {r:Nat} [hu:Und P t .string] (hx:ev e x=some (str a)) (h2:ev e hi=some (.int .i64 q)) (hq:q=(r:Int)) (hr:r<=a.length) (aw:Nat.blt am n=true) (kk:WL P n ops Q rest ((am,(str (a.take r))) :: e) w):WL P n ops Q (⟨some am,.slice t x none (some hi) none,ty,pos,af,none⟩ :: rest) e w:=by
 refine Z8 (v:=(str (a.take r))) ?_ aw kk;apply ZbA<;>assumption
theorem Z31 {t el len k:Nat} {x y:Operand} {b o i:Nat} {z:Int} [hu:Und P t (.array len el)] [hk:Siz P el k] (hx:ev e x=some (.pointer (some ⟨b,o,none⟩))) (hy:ev e y=some (.int .i64 z)) (hz:z=(i:Int)) (hi:i<len) (aw:Nat.blt am n=true) (kk:WL P n ops Q rest ((am,(.pointer (some ⟨b,o+i * k,none⟩))) :: e) w):WL P n ops Q (⟨some am,.indexAddr t x y,ty,pos,af,none⟩ :: rest) e w:=by
 refine Z8 (v:=(.pointer (some ⟨b,o+i * k,none⟩))) ?_ aw kk;apply Z4l<;>assumption
theorem ZmK {t el len k:Nat} {x y:Operand} {b o i:Nat} {z:Int} [hu:Und P t (.array len el)] [hk:Siz P el k] (ba:ops[bY]?=some ⟨some am,.indexAddr t x y,ty,pos,af,gd⟩) (bg:Z02 ops e gd) (hx:ev e x=some (.pointer (some ⟨b,o,none⟩))) (hy:ev e y=some (.int .i64 z)) (hz:z=(i:Int)) (hi:i<len) (aw:Nat.blt am n=true) (kk:WD P n ops S Lt Q ord ((am,(.pointer (some ⟨b,o+i * k,none⟩))) :: e) w):WD P n ops S Lt Q ((bY,0) :: ord) e w:=by
 refine ZS (v:=(.pointer (some ⟨b,o+i * k,none⟩))) ba bg (λw'=>?_) aw kk;apply Z4l<;>assumption
theorem ZfJ {t el len k:Nat} {x:Operand} {b:Nat} [hu:Und P t (.array len el)] [hk:Siz P el k] (hx:ev e x=some (.pointer (some ⟨b,0,none⟩))) (aw:Nat.blt am n=true) (kk:WL P n ops Q rest ((am,(.slice (some ⟨b,0,none⟩) len len)) :: e) w):WL P n ops Q (⟨some am,.slice t x none none none,ty,pos,af,none⟩ :: rest) e w:=by
 refine Z8 (v:=(.slice (some ⟨b,0,none⟩) len len)) ?_ aw kk;apply Z6i<;>assumption
structure WO (P:Program) (n:Nat) (ops:Array Oper) (S:List Nat) (Lt:List Nat) (Q:Exit->Act->World->Prop) (o:Oper) (i q:Nat) (ord:List (Nat×Nat)) (e:Env) (w:World):Prop where
 h:ops[i]?=some o->WD P n ops S Lt Q ((i,q) :: ord) e w
theorem Z2H {o:Oper} {i q:Nat} (hi:ops[i]?=some o) (h:WO P n ops S Lt Q o i q ord e w):WD P n ops S Lt Q ((i,q) :: ord) e w:=h.h hi
theorem Z2I {t:TypeId} {l:List (Nat×Operand)} {vs:List (Nat×Value)} {u:Value} (bg:Z02 ops e gd) (hv:Jw e l=some vs) (hb:∀ w,(Instr.build t vs.toArray).run P w=.ok u w) (aw:Nat.blt am n=true) (kk:WD P n ops S Lt Q ord ((am,u) :: e) w):WO P n ops S Lt Q ⟨some am,.build t l.toArray,ty,pos,af,gd⟩ bY 0 ord e w:=⟨λba=>Z2G ba bg hv hb aw kk⟩
theorem ZmL {x y:Operand} {t u:TypeId} {p q:Value} {c:Prop} [Decidable c] (bg:Z02 ops e gd) (hx:ev e x=some p) (hy:ev e y=some q) (hg:∀ w,(eqGuard .eql t x y p q).run P w=.ok () w) (h:∀ w,(binOp .eql t p q).run P w=.ok (.bool (decide c)) w) (aw:Nat.blt am n=true) (kk:WD P n ops S Lt Q ord ((am,(.bool (decide c))) :: e) w):WO P n ops S Lt Q ⟨some am,.binOp .eql t x y u,ty,pos,af,gd⟩ bY 0 ord e w:=⟨λba=>ZmD ba bg hx hy hg h aw kk⟩
theorem ZeQ {x y:Operand} {t u:TypeId} {p q:Value} {c:Prop} [Decidable c] (bg:Z02 ops e gd) (hx:ev e x=some p) (hy:ev e y=some q) (hg:∀ w,(eqGuard .neq t x y p q).run P w=.ok () w) (h:∀ w,(binOp .neq t p q).run P w=.ok (.bool (decide (¬ c))) w) (aw:Nat.blt am n=true) (kk:WD P n ops S Lt Q ord ((am,(.bool (decide (¬ c)))) :: e) w):WO P n ops S Lt Q ⟨some am,.binOp .neq t x y u,ty,pos,af,gd⟩ bY 0 ord e w:=⟨λba=>ZmF ba bg hx hy hg h aw kk⟩
theorem Z4m {t el len k:Nat} {x y:Operand} {b o i:Nat} {z:Int} [hu:Und P t (.array len el)] [hk:Siz P el k] (bg:Z02 ops e gd) (hx:ev e x=some (.pointer (some ⟨b,o,none⟩))) (hy:ev e y=some (.int .i64 z)) (hz:z=(i:Int)) (hi:i<len) (aw:Nat.blt am n=true) (kk:WD P n ops S Lt Q ord ((am,(.pointer (some ⟨b,o+i * k,none⟩))) :: e) w):WO P n ops S Lt Q ⟨some am,.indexAddr t x y,ty,pos,af,gd⟩ bY 0 ord e w:=⟨λba=>ZmK ba bg hx hy hz hi aw kk⟩
theorem elB {α:Type} [Z3 α] {X:List Nat} {xs:List α} {v u:Value} {i k:Nat} {x:Operand} {t:TypeId} {D:TypeDesc} {d:Option Nat} [hu:Und P t D] [bG:Siz P t k] (hA:Z0R D=true) (hx:ev e x=some (.pointer (some (ZD v i k 0)))) (hs:SlV X w v xs) (hi:i<xs.length) (hk:k=Z3.k α) (h:u=.agg (Z3.enc xs[i]).toArray):PR P n ⟨d,.load t x,ty,pos,af,gd⟩ e w u:=h ▸ Zbv hA hx hs hi hk
theorem exF {α:Type} [Z3 α] {X:List Nat} {w':World} {v:Value} {xs:List α} (h:SlV X w v xs) (hS:Stp S w w') (h1:∀ b∈S,b∈X):SlV X w' v xs:=h.ext hS h1 (λ_ h=>.inl h)
theorem ZbD {t:TypeId} {x:Operand} {d:Option Nat} {v:Value} (h:PR P n ⟨d,.load t x,ty,pos,af,gd⟩ e w v):PR P n ⟨d,.load t x,ty,pos,af,gd⟩ e w v:=h
theorem ZmM {t:TypeId} {x y:Operand} {d:Option Nat} {v:Value} (h:PR P n ⟨d,.indexAddr t x y,ty,pos,af,gd⟩ e w v):PR P n ⟨d,.indexAddr t x y,ty,pos,af,gd⟩ e w v:=h
theorem ZfK {t:TypeId} {x:Operand} {m:Nat} {d:Option Nat} {v:Value} (h:PR P n ⟨d,.fieldAddr t x m,ty,pos,af,gd⟩ e w v):PR P n ⟨d,.fieldAddr t x m,ty,pos,af,gd⟩ e w v:=h
theorem ZmN {t:TypeId} {x:Operand} {d:Option Nat} {v:Value} (h:PR P n ⟨d,.call { callee:=.builtin .len,args:=#[x],argTypes:=#[t] },ty,pos,af,gd⟩ e w v):PR P n ⟨d,.call { callee:=.builtin .len,args:=#[x],argTypes:=#[t] },ty,pos,af,gd⟩ e w v:=h
theorem Zxt {l:List Oper} (h:WL P n ops Q l e w):WL P n ops Q l e w:=h
theorem Zxu {c:Code} (h:WC P n c Q e w):WC P n c Q e w:=h
theorem Zxv {x:Exit} (h:WQ n Q x e w):WQ n Q x e w:=h
end
theorem PX {G:Prop} (h:G:=by
 first
  | (apply ZZ;exact rfl)
  | (apply Z6f;exact rfl)
  | (apply ZW;exact rfl)
  | (apply ZmM;first|exact Z2X rfl (by assumption) rfl rfl (by assumption)|exact Z2X rfl (by assumption) rfl rfl (by omega)|exact Z2X rfl (by assumption) rfl (by assumption) (by first|assumption|omega)|exact Z2X (i:=0) rfl (by assumption) rfl rfl (by omega)|exact Z2X (i:=1) rfl (by assumption) rfl rfl (by omega)|exact Z2X (i:=2) rfl (by assumption) rfl rfl (by omega)|exact Z4l (i:=0) rfl rfl rfl (by decide)|exact Z4l (i:=1) rfl rfl rfl (by decide)|exact Z4l (i:=2) rfl rfl rfl (by decide)|exact Z4l rfl rfl rfl (by omega))
  | (apply ZfK;exact Z6T rfl (SlV.isSome (by assumption) (by assumption)))
  | (apply ZmN;first|exact ZmJ rfl|exact Zmy rfl (by assumption)|exact ZhG rfl)
  | (apply Zdq;exact rfl;exact rfl)
  | (apply Z3D;exact rfl)
  | (apply ZoT;exact rfl;exact rfl)
  | (apply ZhD;exact rfl;exact rfl)
  | (apply ZhF;exact rfl;exact rfl)
  | (apply ZmH;exact rfl;exact rfl)
  | (apply ZmI;exact rfl;exact rfl)
  | (apply Zdp;exact rfl;exact rfl;(unfold I64;omega))
  | (apply Z6g;exact rfl;exact rfl;(unfold I64;omega))
  | (apply ZoR;exact rfl;exact rfl)
  | (apply ZhE;exact rfl;exact rfl)
  | (apply ZoS;exact rfl;exact rfl)
  | (apply Zlp;exact rfl;exact rfl)
  | (apply ZeL;exact rfl;exact rfl)
  | (apply ZoN;exact rfl;exact rfl;(unfold I64;omega))
  | (apply ZeK;exact rfl;exact rfl;omega;omega;(unfold I64;omega))
  | (apply ZeJ;exact rfl;exact rfl;omega;omega;(unfold I64;omega))
  | (apply ZeP;exact rfl;exact rfl;omega)
  | (apply ZhB;exact rfl)
  | (apply ZhC;exact rfl)
  | (apply ZiK;exact rfl)
  | (apply ZhA;exact rfl)
  | (apply ZoO;exact rfl;(unfold I64;omega))
  | (apply ZfF;exact rfl;exact rfl)
  | (apply ZfG;exact rfl;exact rfl)
  | (apply ZsW;exact rfl;exact rfl)
  | (apply ZsX;exact rfl;exact rfl)
  | (apply Z9m;exact rfl;exact rfl;exact rfl;(first|assumption|omega))
  | apply Zai
  | (apply Zaj;exact rfl)
  | (apply Zak;exact rfl;exact rfl)
  | (apply Zal;exact rfl;exact rfl;exact rfl)):G:=h
structure Z32 (R:Prop):Prop where
 h:R
theorem W1 {G R:Prop} (k:R) (h:Z32 R->G:=by
 intro r
 repeat1' (first
  | (apply Zxt;first
  | apply Z2V
  | (apply Z8;exact PX;exact rfl)
  | (apply Z8;(apply ZbD;first|exact J1 rfl rfl (by assumption) (by rfl)|exact Z1R rfl rfl (by assumption) (by first|assumption|omega) (by rfl) (by rfl)|exact ZC rfl rfl (by assumption) (by rfl)|exact elB rfl rfl (by assumption) (by assumption) (by rfl) rfl);exact rfl)
  | (apply ZtA;exact rfl)
  | (apply Zll;exact rfl;exact rfl))
  | (apply Zxu;first|apply Z7J|apply Z2F|apply Zhx|apply Z7v|apply Z7K|apply Zli|(apply Z1D;exact rfl)|(apply Z1i;exact rfl))
  | (apply Zxv;first|apply Z4h|apply Z1m|apply Zz|apply Zw|(apply ZJ;exact rfl)|apply Zae|apply Jm))
 exact r.h):G:=h ⟨k⟩
theorem W {G R:Prop} (k:R) (h:Z32 R->G:=by
 intro r;first|(refine W1 ?_;exact r.h)|exact r.h):G:=h ⟨k⟩
theorem D1 {G R:Prop} (k:R) (h:Z32 R->G:=by
 intro r
 repeat1' (first
  | apply Z55
  | (apply ZS;exact rfl;(first|exact trivial|exact rfl);(intro w';exact PX);exact rfl)
  | (apply WD_read;exact rfl;(first|exact trivial|exact rfl);(intro w' hS;apply ZbD;first|exact J1 rfl rfl (Blk.ext (by assumption) hS (by first|assumption|(simp;done)|(simp;omega))) (by rfl)|exact Z1R rfl rfl (exF (by assumption) hS (by first|exact λ_ h=>h|(simp;done))) (by first|assumption|omega) (by rfl) (by rfl)|exact ZC rfl rfl (Blk.ext (by assumption) hS (by first|assumption|(simp;done)|(simp;omega))) (by rfl)|exact elB rfl rfl (exF (by assumption) hS (by first|exact λ_ h=>h|(simp;done))) (by assumption) (by rfl) rfl);exact rfl)
  | (apply ZiB;exact rfl;exact rfl;exact rfl)
  | (apply ZiC;exact rfl;exact rfl;exact rfl)
  | (apply ZiG;exact rfl;exact rfl;exact rfl))
 exact r.h):G:=h ⟨k⟩
theorem D {G R:Prop} (k:R) (h:Z32 R->G:=by
 intro r;first|(refine D1 ?_;exact r.h)|exact r.h):G:=h ⟨k⟩
theorem WR {G R:Prop} (k:R) (h:Z32 R->G:=by
 intro r;first|refine Zlm rfl rfl ?_|refine Zln rfl rfl rfl ?_|refine Zlo rfl rfl rfl rfl ?_|refine Zag rfl ?_|refine Zah rfl ?_
 exact r.h):G:=h ⟨k⟩
theorem VG {G R S:Prop} (k:R) (l:S) (h:Z32 R->Z32 S->G:=by
 intro r s;first|refine Zhz rfl rfl ?_ ?_|refine ZfE rfl rfl ?_ ?_
 exact r.h;exact s.h):G:=h ⟨k⟩ ⟨l⟩
theorem VC {G R S:Prop} (k:R) (l:S) (h:Z32 R->Z32 S->G:=by
 intro r s;first|refine Zaf rfl ?_ ?_|refine Zbt rfl ?_ ?_
 exact r.h;exact s.h):G:=h ⟨k⟩ ⟨l⟩
theorem hap {p A:Prop} (r:Z32 (p->A)) (h:p):A:=r.h h
theorem QO {G R:Prop} (k:R) (h:Z32 R->G:=by
 intro r
 repeat1' (first|refine W1 ?_|(refine VG ?_ ?_<;>intro hg;(first|(focus omega)|(rotate_left;focus omega)))|(refine VC ?_ ?_<;>intro hg;(first|(focus omega)|(rotate_left;focus omega))))
 exact r.h):G:=h ⟨k⟩
theorem QP {G R S:Prop} (k:R) (l:S) (h:Z32 R->Z32 S->G:=by
 intro r s;first|refine QO ?_|skip
 first|(refine VG ?_ ?_<;>intro hg)|(refine VC ?_ ?_<;>intro hg)
 first|(refine QO ?_;exact hap r hg)|exact hap r hg
 first|(refine QO ?_;exact hap s hg)|exact hap s hg):G:=h ⟨k⟩ ⟨l⟩
theorem QD {G R:Prop} (k:R) (h:Z32 R->G:=by
 intro r
 repeat1' (first|refine D1 ?_|refine Zk rfl rfl rfl rfl (λhg=>?_) (λhg=>absurd hg (by omega))|refine Zk rfl rfl rfl rfl (λhg=>absurd hg (by omega)) (λhg=>?_)|(refine Zh rfl rfl rfl rfl (λhg=>?_) (λhg=>?_)<;>refine D1 ?_;(first|(focus omega)|(rotate_left;focus omega))))
 exact r.h):G:=h ⟨k⟩
theorem QE {G R S:Prop} (k:R) (l:S) (h:Z32 R->Z32 S->G:=by
 intro r s;first|refine QD ?_|skip
 first|refine Zk rfl rfl rfl rfl (λhg=>?_) (λhg=>?_)|refine Zh rfl rfl rfl rfl (λhg=>?_) (λhg=>?_)
 first|(refine QD ?_;exact hap r (by assumption))|exact hap r (by assumption)
 first|(refine QD ?_;exact hap s (by assumption))|exact hap s (by assumption)):G:=h ⟨k⟩ ⟨l⟩
theorem SA {P:Program} {n:Nat} {Q:Exit->Act->World->Prop} {e:Env} {w:World} {rest:List Oper} {ops:Array Oper} {ty:TypeId} {pos:String} {af:Array Edge} {b T m t:Nat} {cs us:List Value} {x y:Operand} {u:Value} [bG:Siz P t m] (hb:Blk w b T cs) (k:∀ (v:Value) (w':World),Stp [b] w w'/\Blk w' b T us->WL P n ops Q rest e w')
 (hx:ev e x=some (.pointer (some ⟨b,0,none⟩)):=by exact rfl) (hy:ev e y=some u:=by exact rfl) (hu:u.cells.toList=us:=by exact rfl) (hm:us.length=m:=by exact rfl) (h1:∀ c∈us,c.oneCell'=true:=by exact Z3.one _) (hl:us.length=cs.length:=by exact rfl):WL P n ops Q (⟨none,.store t x y,ty,pos,af,none⟩ :: rest) e w:=Z6 (Zj hx hy hu hm h1 hb hl) k
theorem S1 {P:Program} {n:Nat} {Q:Exit->Act->World->Prop} {e:Env} {w:World} {rest:List Oper} {ops:Array Oper} {ty:TypeId} {pos:String} {af:Array Edge} {b T o t:Nat} {cs:List Value} {x y:Operand} {u:Value} [bG:Siz P t 1] (hb:Blk w b T cs) (k:∀ (v:Value) (w':World),Stp [b] w w'/\Blk w' b T (cs.set o u)->WL P n ops Q rest e w')
 (hx:ev e x=some (.pointer (some ⟨b,o,none⟩)):=by exact rfl) (hy:ev e y=some u:=by exact rfl) (hu:u.cells.toList=[u]:=by exact rfl) (h1:u.oneCell'=true:=by exact rfl) (hl:o<cs.length:=by simp):WL P n ops Q (⟨none,.store t x y,ty,pos,af,none⟩ :: rest) e w:=Z6 (Zb hx hy hu h1 hb hl) k
theorem LP {P:Program} {n:Nat} {Q:Exit->Act->World->Prop} {e:Env} {w:World} {c:Code} {σ:Type} (env:σ->Env) (I:σ->World->Prop) (μ:σ->Nat) (fc:σ) (hI:I fc w) (round:∀ s w,I s w->WC P n c (Exit.then (λa' w'=>∃ s',Has n (env s') a'/\I s' w'/\μ s' < μ s) Q) (env s) w) (hs:Sub (env fc) e:=by repeat (first|exact trivial|refine ⟨rfl,?_⟩)):WC P n (.loop c) Q e w:=Zu env I μ fc hs hI round
theorem SB {P:Program} {n:Nat} {Q:Exit->Act->World->Prop} {e:Env} {w:World} {rest:List Oper} {ops:Array Oper} {ty:TypeId} {pos:String} {af:Array Edge} {b T m t:Nat} {cs us:List Value} {x y:Operand} {u:Value} [bG:Siz P t m] (h1:∀ c∈us,c.oneCell'=true) (hb:Blk w b T cs) (k:∀ (v:Value) (w':World),Stp [b] w w'/\Blk w' b T us->WL P n ops Q rest e w')
 (hx:ev e x=some (.pointer (some ⟨b,0,none⟩)):=by exact rfl) (hy:ev e y=some u:=by exact rfl) (hu:u.cells.toList=us:=by exact rfl) (hm:us.length=m:=by exact rfl) (hl:us.length=cs.length:=by exact rfl):WL P n ops Q (⟨none,.store t x y,ty,pos,af,none⟩ :: rest) e w:=Z6 (Zj hx hy hu hm h1 hb hl) k
theorem QL {σ:Type} {n:Nat} {Q:Exit->Act->World->Prop} {e:Env} {w:World} {env:σ->Env} {I:σ->World->Prop} {μ:σ->Nat} {m:Nat} (s:σ) (hI:I s w) (hm:μ s<m) (hs:Sub (env s) e:=by repeat (first|exact trivial|refine ⟨rfl,?_⟩)):WQ n (Exit.then (λa w=>∃ s,Has n (env s) a/\I s w/\μ s<m) Q) .normal e w:=Zx s hs hI hm
theorem QT {σ:Type} {n:Nat} {Q:Exit->Act->World->Prop} {e:Env} {w:World} {env:σ->Env} {I:σ->World->Prop} (s:σ) (hI:I s w) (hs:Sub (env s) e:=by repeat (first|exact trivial|refine ⟨rfl,?_⟩)):WQ n (Exit.then (λa w=>∃ s,Has n (env s) a/\I s w) Q) .normal e w:=Zy s hs hI
theorem RU {G A:Prop} (k:A) (h:Z32 A->G:=by
 intro r;refine WR ?_;exact .mk r.h):G:=h ⟨k⟩
theorem RT {G A:Prop} (k:A) (h:Z32 A->G:=by
 intro r;first|refine QO ?_|skip
 refine WR ?_;exact .mk r.h):G:=h ⟨k⟩
theorem CL {P:Program} {n:Nat} {Q:Exit->Act->World->Prop} {e:Env} {w:World} {rest:List Oper} {f d:Nat} {fn:Func} {xs:Array Operand} {ts:Array TypeId} {vs:Array Value} {G:Value->World->Prop} {c:Operand} {ty:TypeId} {pos:String} {af:Array Edge} {ops:Array Oper} [hf:Fun P f fn] (h:Calls P f vs w (Ret G)) (k:∀ v w',G v w'->WL P n ops Q rest ((d,v) :: e) w') (hc:ev e c=some (.func (.func f) #[] #[]):=by exact rfl) (hv:∀ a,Has n e a->xs.map a.eval=vs:=by first|exact Z6h|exact ZR rfl|exact Zd rfl rfl|exact ZN rfl rfl rfl|exact Z7o rfl rfl rfl rfl|exact ZfH rfl rfl rfl rfl rfl) (hd:Nat.blt d n=true:=by exact rfl):WL P n ops Q (⟨some d,.call { callee:=.value c,args:=xs,argTypes:=ts },ty,pos,af,none⟩ :: rest) e w:=Z0 (Z4 hc hv h) hd k
theorem CM {P:Program} {n:Nat} {Q:Exit->Act->World->Prop} {e:Env} {w:World} {rest:List Oper} {f d:Nat} {fn:Func} {xs:Array Operand} {ts:Array TypeId} {vs:Array Value} {G:Value->World->Prop} {c:Operand} {ty:TypeId} {pos:String} {af:Array Edge} {ops:Array Oper} [hf:Fun P f fn] (hv:∀ a,Has n e a->xs.map a.eval=vs) (h:Calls P f vs w (Ret G)) (k:∀ v w',G v w'->WL P n ops Q rest ((d,v) :: e) w') (hc:ev e c=some (.func (.func f) #[] #[]):=by exact rfl) (hd:Nat.blt d n=true:=by exact rfl):WL P n ops Q (⟨some d,.call { callee:=.value c,args:=xs,argTypes:=ts },ty,pos,af,none⟩ :: rest) e w:=Z0 (Z4 hc hv h) hd k
theorem DC {P:Program} {n:Nat} {S Lt:List Nat} {Q:Exit->Act->World->Prop} {e:Env} {w:World} {ord:List (Nat×Nat)} {i f d:Nat} {fn:Func} {gd:Option (Nat×Bool)} {xs:Array Operand} {ts:Array TypeId} {vs:Array Value} {G:Value->World->Prop} {c:Operand} {ty:TypeId} {pos:String} {af:Array Edge} {ops:Array Oper} [hf:Fun P f fn] (h:Calls P f vs w (Ret G)) (hG:∀ v w',G v w'->Stp S w w') (k:∀ v w',G v w'->WD P n ops S Lt Q ord ((d,v) :: e) w') (hi:ops[i]?=some ⟨some d,.call { callee:=.value c,args:=xs,argTypes:=ts },ty,pos,af,gd⟩:=by exact rfl) (hg:Z02 ops e gd:=by first|exact trivial|exact rfl) (hc:ev e c=some (.func (.func f) #[] #[]):=by exact rfl) (hv:∀ a,Has n e a->xs.map a.eval=vs:=by first|exact Z6h|exact ZR rfl|exact Zd rfl rfl|exact ZN rfl rfl rfl|exact Z7o rfl rfl rfl rfl|exact ZfH rfl rfl rfl rfl rfl) (hd:Nat.blt d n=true:=by exact rfl):WD P n ops S Lt Q ((i,2) :: ord) e w:=Za hi hg (Z4 hc hv h) hG hd k
inductive Nd where
 | mk (kind n:Int) (s:Str) (kids:List Nd)
namespace Nd
def kind:Nd->Int|mk k _ _ _=>k
def num:Nd->Int|mk _ n _ _=>n
def word:Nd->Str|mk _ _ s _=>s
def kids:Nd->List Nd|mk _ _ _ l=>l
theorem eta (x:Nd):x=mk x.kind x.num x.word x.kids:=by cases x;rfl
theorem ind {P:Nd->Prop} (h:∀ k n s l,(∀ x∈l,P x)->P (mk k n s l)):∀ x,P x
 | mk k n s l=>h k n s l (λx hx=>ind h x)
 decreasing_by
  have:=List.sizeOf_lt_of_mem hx;simp only [mk.sizeOf_spec];omega
end Nd
inductive Z4J (X:List Nat) (w:World):Nd->List Value->Prop
 | mk (k n : Int) (s : Str) (l : List Nd) (p : Option Addr) (c : Nat) (b o : Nat) (css : Nat -> List Value) (hl : l.length <= c) (hm : c <= maxLen) (hn : p = none -> c = 0)
    (hp:0<l.length->p=some ⟨b,o,none⟩/\b<w.heap.size/\b∉X) (hr:∀ i (h:i<l.length),Z4J X w l[i] (css i))
    (hc:∀ i,i<l.length->∀ j u,(css i)[j]?=some u->w.cell? ⟨b,o+i * 4+j,none⟩=some u) :
    Z4J X w (.mk k n s l) [.I k,.I n,str s,.slice p l.length c]
theorem Z4J.ext {X S X':List Nat} {w w':World} {x:Nd} {cs:List Value} (h:Z4J X w x cs) (hS:Stp S w w') (h1:∀ b∈S,b∈X) (h2:∀ b∈X',b∈X\/w.heap.size<=b):Z4J X' w' x cs:=by
 induction h with
 | mk k n s l p c b o css hl hm hn hp hr hc ih=>
   refine .mk k n s l p c b o css hl hm hn (λh0=>?_) ih (λi hi j u hu=>?_);obtain ⟨e1,e2,e3⟩:=hp h0;refine ⟨e1,Xa e2 hS.size,λhb=>?_⟩;rcases h2 b hb with h|h
   exact e3 h;omega;obtain ⟨_,_,e3⟩:=hp (by omega);exact hS.cell (λhb=>e3 (h1 b hb)) (hc i hi j u hu)
instance:Z5 Nd where
 k:=4
 rep:=Z4J
 len:=by intro X w x cs h;cases h;rfl
 one:=by
  intro X w x cs h u hu;cases h;simp at hu;rcases hu with rfl|rfl|rfl|rfl<;>rfl
 ext:=Z4J.ext
def NdV (X:List Nat) (w:World) (v:Value) (x:Nd):Prop:=∃ kv,v=.agg #[.I x.kind,.I x.num,str x.word,kv]/\SlV X w kv x.kids
theorem ZiL {X:List Nat} {w} {x:Nd} {cs:List Value} (h:Z4J X w x cs):∃ kv,cs=[.I x.kind,.I x.num,str x.word,kv]/\SlV X w kv x.kids:=by
 cases h with
 | mk k n s l p c b o css hl hm hn hp hr hc=>
   refine ⟨_,rfl,p,c,rfl,hl,hm,hn,λi hi=>?_⟩;obtain ⟨e1,e2,e3⟩:=hp (by show 0<l.length;have:i<l.length:=hi;omega);exact ⟨b,o,css i,e1,e2,e3,hr i hi,hc i hi⟩
theorem Z2J {X:List Nat} {w} {k n:Int} {s:Str} {l:List Nd} {kv:Value} (h:SlV X w kv l):Z4J X w (.mk k n s l) [.I k,.I n,str s,kv]:=by
 obtain ⟨p,c,rfl,hl,hm,hn,hc⟩:=h;have aB:∀ i:Fin l.length,∃ cs:List Value,∃ b o,p=some ⟨b,o,none⟩/\b<w.heap.size/\b∉X/\Z4J X w l[i] cs/\∀ j u,cs[j]?=some u->w.cell? ⟨b,o+i * 4+j,none⟩=some u:=by
  intro i;obtain ⟨b,o,cs,h1,h2,h3,h4,h5⟩:=hc i i.2;exact ⟨cs,b,o,h1,h2,h3,h4,h5⟩
 obtain ⟨f,hf⟩:=Classical.axiomOfChoice aB;by_cases h0:0<l.length;obtain ⟨b,o,e1,e2,e3,_⟩:=hf ⟨0,h0⟩;refine .mk k n s l p c b o (λi=>if h:i<l.length then f ⟨i,h⟩ else []) hl hm hn (λ_=>⟨e1,e2,e3⟩) (λi hi=>?_) (λi hi j u hu=>?_);obtain ⟨_,_,_,_,_,g,_⟩:=hf ⟨i,hi⟩;simpa [hi] using g;obtain ⟨b',o',g1,_,_,_,g⟩:=hf ⟨i,hi⟩;rw [e1] at g1;simp only [XH,Addr.mk.injEq] at g1;obtain ⟨rfl,rfl,_⟩:=g1;exact g j u (by simpa [hi] using hu);exact .mk k n s l p c 0 0 (λ_=>[]) hl hm hn (λh=>absurd h h0) (λi hi=>by omega) (λi hi=>by omega)
theorem NdV.up {X:List Nat} {w w':World} {v:Value} {x:Nd} (h:NdV X w v x) (hS:Stp [] w w'):NdV X w' v x:=by
 obtain ⟨kv,rfl,hs⟩:=h;exact ⟨kv,rfl,hs.up hS⟩
theorem SlV.nd {X:List Nat} {w} {v:Value} {l:List Nd} {i:Nat} (h:SlV X w v l) (hi:i<l.length):∃ kv,SlV X w kv l[i].kids/\∀ j u,[Value.int .i64 l[i].kind,.I l[i].num,str l[i].word,kv][j]?=some u->w.cell? (ZD v i 4 j)=some u:=by
 obtain ⟨cs,hr,hc⟩:=h.cell hi;obtain ⟨kv,rfl,hs⟩:=ZiL hr;exact ⟨kv,hs,hc⟩
section
variable {P:Program} {n:Nat} {e:Env} {w:World} {d:Option Nat} {ty:TypeId} {pos:String} {af:Array Edge} {g:Option (Nat×Bool)}
theorem JG {X:List Nat} {v:Value} {l:List Nd} {i:Nat} {kv:Value} {x:Operand} {t:TypeId} {D:TypeDesc} [hu:Und P t D] (hA:Z0R D=true) [bG:Siz P t 4] (hx:ev e x=some (.pointer (some (ZD v i 4 0)))) (hs:SlV X w v l) (hi:i<l.length)
 (hc:∀ j u,[Value.int .i64 l[i].kind,.I l[i].num,str l[i].word,kv][j]?=some u->w.cell? (ZD v i 4 j)=some u) :
 PR P n ⟨d,.load t x,ty,pos,af,g⟩ e w (.agg #[.I l[i].kind,.I l[i].num,str l[i].word,kv]):=by
 obtain ⟨p,l',c,rfl⟩:=hs.isSome hi;refine Z3z (cs:=[.I l[i].kind,.I l[i].num,str l[i].word,kv]) hA hx rfl (λj u hu=>?_);have:=hc j u hu;simpa [ZD] using this
end
end Go.Eng
namespace Go.Proofs.YtipfkbkkndacjaaGreatDoor
open Go Go.Eng Go.RowKit
abbrev ndC (x:Nd) (kv:Value):List Value:=[.I x.kind,.I x.num,str x.word,kv]
theorem ZG {X:List Nat} {w} {x:Nd} {kv:Value} {l:List Nd} (h:SlV X w kv l):∀ c∈ndC x kv,c.oneCell'=true:=by
 intro c hc;simp only [ndC,Xb,Xj,or_false] at hc;rcases hc with rfl|rfl|rfl|rfl
 rfl;rfl;rfl;exact h.one
def Z19:Nat->Nd->Bool
 | 0,_=>false
 | m+1,x=>x.kids.all (Z19 m)
theorem Z92 {α:Type} (p:α->Bool) (l:List α) (k:Nat) (hk:k<l.length):(l.take (k+1)).all p=((l.take k).all p && p l[k]):=by
 rw [Xk hk,List.all_append];simp
theorem Zdv (m:Nat):∀ (X:List Nat) (v:Value) (x:Nd) (z:Int) (w),z=(m:Int)->m<=1000->NdV X w v x->
 CC 229 #[v,.I z] w λr w'=>r=.B (Z19 m x)/\Stp [] w w':=by
 induction m with
 | zero=>
   intro X v x z w hz hm hx;obtain ⟨kv,rfl,hs⟩:=hx;refine cW2 22 Tryz.func229 ?_;refine W ?_;refine Z0 (Zr rfl) rfl ?_;rintro _ w1 ⟨b,rfl,hb,ac,hS⟩;refine RT ?_;exact ⟨rfl,hS⟩
 | succ m ih=>
   intro X v x z w hz hm hx;obtain ⟨kv,rfl,hs⟩:=hx;have aS:=hs.max;refine cW2 22 Tryz.func229 ?_;refine W ?_;refine Z0 (Zr rfl) rfl ?_;rintro _ w1 ⟨b,rfl,hb,ac,hS⟩;replace ac:Blk w1 b _ (ndC x kv):=ac;replace hs:=hs.up hS;refine QO ?_;have aX:=hs;refine LP (σ:=Nat) (λk=>[(1,.I z),(10,kv),(11,.I (x.kids.length:Int)),(12,.I k)]) (λk w'=>k<=x.kids.length/\Stp [] w1 w'/\(x.kids.take k).all (Z19 m)=true) (λk=>x.kids.length - k) 0 ⟨Xq _,Stp.refl _ _,rfl⟩ ?_;clear hs;rintro k w2 ⟨hk,ah,aB⟩;have hs:=aX.up ah;by_cases hlt:k<x.kids.length
   . have dh:=Z92 (Z19 m) x.kids k hlt
     rw [aB,Bool.true_and] at dh;obtain ⟨kv2,bq,cq⟩:=hs.nd hlt;refine QO ?_;apply Z8 (JG rfl rfl hs hlt cq) rfl;refine Z0 Z2 rfl ?_;rintro _ w3 ⟨b3,rfl,dG,aL,ak⟩;refine SB (us:=ndC x.kids[k] kv2) (ZG bq) aL ?_;rintro _ w4 ⟨aJ,bB⟩;have iu:=ak.ow aJ;replace ah:=ah.trans iu;replace bq:=bq.up iu;refine W ?_;refine Z0 (Z4 rfl (Zd rfl rfl) (ih X _ x.kids[k] _ _ (by omega) (by omega) ⟨kv2,rfl,bq⟩)) rfl ?_;rintro _ w5 ⟨rfl,aD⟩;replace ah:=ah.trans aD;cases hq:Z19 m x.kids[k] with
     | true=>
       refine W ?_;exact QL (k+1) ⟨hlt,ah,by rw [dh,hq]⟩ (by omega)
     | false=>
       refine W ?_;refine WR ?_;refine .mk ⟨?_,hS.trans ah⟩;have:Z19 (m+1) x=false:=by
        show x.kids.all (Z19 m)=false;rw [List.all_eq_false];exact ⟨_,Xd hlt,by simp [hq]⟩
       rw [this]
   have eI:k=x.kids.length:=by omega
   subst eI;rw [Xp] at aB;refine QO ?_;refine WR ?_;refine .mk ⟨?_,hS.trans ah⟩;show _=Value.bool (x.kids.all (Z19 m));rw [aB]
end Go.Proofs.YtipfkbkkndacjaaGreatDoor
namespace Go.Eng
open Go Go.RowKit Go.Proofs
class ZbE (P:Program) (kt:Nat) (κ:outParam Type) [DecidableEq κ] where
 enc:κ->Value
 chk:∀ (em:Bool) (a:κ) (w:World),(Instr.checkKey em 10000 kt (enc a)).run P w=.ok () w
 find:∀ (a:κ) (es:List MapEntry) (l:List κ) (w:World),es.map (·.key)=l.map enc->
  (Instr.findKey kt (enc a) es).run P w=.ok ((l.findIdx? (λb=>decide (b=a))).bind λi=>(es[i]?).map λe=>(i,e.val)) w
def JL {κ:Type} (enc:κ->Value) (w:World) (r:Nat) (l:List (κ×Value)):Prop:=
 ∃ (es:Array MapEntry) (clock:Nat),w.heap[r]?=some (.map es clock)/\es.toList.map (·.key)=l.map (λp=>enc p.1)/\es.toList.map (·.val)=l.map (·.2)
theorem JL.lt {κ:Type} {enc:κ->Value} {w} {r:Nat} {l:List (κ×Value)} (h:JL enc w r l):r<w.heap.size:=by
 obtain ⟨es,c,h1,_⟩:=h;exact (Xl.1 h1).1
theorem JL.ext {κ:Type} {enc:κ->Value} {S:List Nat} {w w':World} {r:Nat} {l:List (κ×Value)} (h:JL enc w r l) (hS:Stp S w w') (hr:r∉S):JL enc w' r l:=by
 have hlt:=h.lt;obtain ⟨es,c,h1,h2⟩:=h;exact ⟨es,c,by rw [hS.block r hlt hr];exact h1,h2⟩
theorem JL.up {κ:Type} {enc:κ->Value} {w w':World} {r:Nat} {l:List (κ×Value)} (h:JL enc w r l) (hS:Stp [] w w'):JL enc w' r l:=h.ext hS (by simp)
def Z3E {κ:Type} [DecidableEq κ] (l:List (κ×Value)) (a:κ) (z:Value):Value:=match l.find? (λp=>decide (p.1=a)) with|some p=>p.2|none=>z
theorem Z59 {d:TypeDesc} {κ:Type} [DecidableEq κ] (enc:κ->Value) (h:∀ a b:κ,Instr.sameNow d (enc a) (enc b)=some (decide (a=b))) (a:κ):∀ (es:List MapEntry) (l:List κ) (i:Nat),es.map (·.key)=l.map enc->
 Instr.findNow d (enc a) es i=some ((l.findIdx? (λb=>decide (b=a))).bind λj=>(es[j]?).map λe=>(i+j,e.val))
 | [],[],i,_=>by simp [Instr.findNow]
 | [],_ :: _,i,h=>by simp at h
 | _ :: _,[],i,h=>by simp at h
 | e :: es, b :: l, i, hk => by
   simp only [Xz,Ybn] at hk;obtain ⟨h1,h2⟩:=hk;have ih:=Z59 enc h a es l (i+1) h2;simp only [Instr.findNow,h1,h];by_cases cU:a=b;subst cU;simp [Yba]
   . have pR:¬ b=a:=λh=>cU h.symm
     simp only [decide_eq_false cU,ih,Yba,decide_eq_false pR,XS,if_false];cases l.findIdx? (λb=>decide (b=a)) with
     | none=>rfl
     | some j=>
       simp only [XR,Ya9,YaM];rw [show i+1+j=i+(j+1) by omega]
theorem Z2y {P:Program} {kt:Nat} {κ:Type} [DecidableEq κ] (enc:κ->Value) (h:∀ (a b:κ) (w),(Op.equal kt (enc a) (enc b)).run P w=.ok (decide (a=b)) w) (a:κ) (w):∀ (es:List MapEntry) (l:List κ) (i:Nat),es.map (·.key)=l.map enc->
 (Instr.findAsking kt (enc a) es i).run P w=.ok ((l.findIdx? (λb=>decide (b=a))).bind λj=>(es[j]?).map λe=>(i+j,e.val)) w
 | [],[],i,_=>by simp [Instr.findAsking]
 | [],_ :: _,i,h=>by simp at h
 | _ :: _,[],i,h=>by simp at h
 | e :: es, b :: l, i, hk => by
   simp only [Xz,Ybn] at hk;obtain ⟨h1,h2⟩:=hk;have ih:=Z2y enc h a w es l (i+1) h2;simp only [Instr.findAsking,h1];by_cases cU:a=b;subst cU;simp [Yba,h]
   . have pR:¬ b=a:=λh=>cU h.symm
     simp only [Sem.run_bind,h,decide_eq_false cU,Result.andThen,Yba,decide_eq_false pR,XS,if_false,ih];cases l.findIdx? (λb=>decide (b=a)) with
     | none=>rfl
     | some j=>
       simp only [XR,Ya9,YaM];rw [show i+1+j=i+(j+1) by omega]
instance {P:Program} {kt:Nat} [hu:Und P kt (.int .i64)]:ZbE P kt Int where
 enc:=λz=>.I z
 chk:=λem a w=>MapKept.run_checkKey (k:=.I a) hu.h (by simp [MapKept.IsKey]) em 9999
 find:=λa es l w hk=>by
  have:=Z59 (d:=.int .i64) (λz:Int=>Value.int .i64 z) (λa b=>by simp [Instr.sameNow,YaG]) a es l 0 hk;simpa using MapKept.run_findKey (w:=w) hu.h this
instance Zor {P:Program} {kt:Nat} [hu:Und P kt .string]:ZbE P kt Str where
 enc:=str
 chk:=λem a w=>MapKept.run_checkKey (k:=str a) hu.h (by simp [MapKept.IsKey]) em 9999
 find:=λa es l w hk=>by
  have:=Z59 (d:=.string) str (λa b=>by
   simp only [Instr.sameNow,XH];rw [beq_toListBytes,ZmG]) a es l 0 hk
  simpa using MapKept.run_findKey (w:=w) hu.h this
section
variable {P:Program} {n:Nat} {e:Env} {w:World} {d:Option Nat} {ty:TypeId} {pos:String} {af:Array Edge} {g:Option (Nat×Bool)}
theorem Z0T {t:TypeId} {κ:Type} (enc:κ->Value):OE P n ⟨d,.makeMap t none,ty,pos,af,g⟩ e w (λv w'=>∃ r,v=.map (some r)/\w.heap.size<=r/\JL enc w' r []/\Stp [] w w'):=
 Jf (v:=.map (some w.heap.size)) (w':=w.alloc (.map #[] 0)) (λa ha=>by
  simp [execOp,run_makeMap]) ⟨_,rfl,Xn _,⟨#[],0,heap_alloc_new w _,rfl,rfl⟩,Stp.alloc _ _ _⟩
theorem Zdw {κ:Type} [DecidableEq κ] {l:List κ} {a:κ} (h:∀ b∈l,¬ b=a):l.findIdx? (λb=>decide (b=a))=none:=by
 rw [Yad];intro b hb;simp [h b hb]
theorem Z7Q {mt kt et r:Nat} {κ:Type} [DecidableEq κ] [hm:Und P mt (.map kt et)] [K:ZbE P kt κ] {l:List (κ×Value)} {a:κ} {v:Value} (hr:JL K.enc w r l) (hn:∀ p∈l,¬ p.1=a) :
 ∃ w',(Instr.mapUpdate mt (.map (some r)) (K.enc a) v).run P w=.ok () w'/\JL K.enc w' r (l++[(a,v)])/\Stp [r] w w':=by
 obtain ⟨es,clock,h1,h2,h3⟩:=hr;have hf:(Instr.findKey kt (K.enc a) es.toList).run P w=.ok none w:=by
  have hk:es.toList.map (·.key)=(l.map (·.1)).map K.enc:=by rw [h2,YbH];rfl
  rw [K.find a es.toList (l.map (·.1)) w hk,Zdw (by simpa using hn)];rfl
 have hlt:r<w.heap.size:=(Xl.1 h1).1;refine ⟨{ w with heap:=w.heap.setIfInBounds r (.map (es.push { key:=K.enc a,val:=v,born:=clock }) (clock+1)) },?_,?_,?_⟩;simp [Instr.mapUpdate,run_underlying hm.h,MapKept.run_getObj_map h1,K.chk,hf,MapKept.run_setObj_map _ h1,Result.andThen];refine ⟨es.push { key:=K.enc a,val:=v,born:=clock },clock+1,by simp [hlt],?_,?_⟩;simp [h2];simp [h3];refine ⟨rfl,rfl,rfl,by simp,λb hb hn=>?_⟩;simp only [Xi] at hn;simp [YaK (λh=>hn h.symm)]
theorem Zv {mt kt et r:Nat} {κ:Type} [DecidableEq κ] {x y z:Operand} [hm:Und P mt (.map kt et)] [K:ZbE P kt κ] {l:List (κ×Value)} {a:κ} {v:Value} (hx:ev e x=some (.map (some r))) (hy:ev e y=some (K.enc a)) (hz:ev e z=some v) (hr:JL K.enc w r l) (hn:∀ p∈l,¬ p.1=a) :
 OE P n ⟨d,.insert mt x y z,ty,pos,af,g⟩ e w (λ_ w'=>JL K.enc w' r (l++[(a,v)])/\Stp [r] w w'):=by
 obtain ⟨w',h1,h2,h3⟩:=Z7Q (mt:=mt) (v:=v) hr hn;exact Z4i (w':=w') (λc hc=>by simp [execOp,hc.ev hx,hc.ev hy,hc.ev hz,h1]) ⟨h2,h3⟩
theorem Z1M {mt kt et r:Nat} {κ:Type} [DecidableEq κ] {x y z:Operand} [hm:Und P mt (.map kt et)] [K:ZbE P kt κ] {l:List (κ×Value)} {a:κ} {v:Value} (hx:ev e x=some (.map (some r))) (hy:ev e y=some (K.enc a)) (hz:ev e z=some v) (hr:JL K.enc w r l) (hn:∀ p∈l,¬ p.1=a) :
 OE P n ⟨d,.mapUpdate mt x y z,ty,pos,af,g⟩ e w (λ_ w'=>JL K.enc w' r (l++[(a,v)])/\Stp [r] w w'):=by
 obtain ⟨w',h1,h2,h3⟩:=Z7Q (mt:=mt) (v:=v) hr hn;exact Z4i (w':=w') (λc hc=>by simp [execOp,hc.ev hx,hc.ev hy,hc.ev hz,h1]) ⟨h2,h3⟩
theorem Z1N {mt kt et r:Nat} {κ:Type} [DecidableEq κ] {x y:Operand} {z:Value} [hm:Und P mt (.map kt et)] [K:ZbE P kt κ] [hz:Zer P et z] {l:List (κ×Value)} {a:κ} (hx:ev e x=some (.map (some r))) (hy:ev e y=some (K.enc a)) (hr:JL K.enc w r l) :
 PR P n ⟨d,.lookup mt x y false,ty,pos,af,g⟩ e w (Z3E l a z):=by
 refine ⟨λc hc=>?_⟩;obtain ⟨es,clock,h1,h2,h3⟩:=hr;have hk:es.toList.map (·.key)=(l.map (·.1)).map K.enc:=by rw [h2,YbH];rfl
 have hf:=K.find a es.toList (l.map (·.1)) w hk;have ai:es.toList.length=l.length:=by have:=congrArg List.length h3;simpa using this
 have hv:∀ i:Nat,(es.toList[i]?).map (λx:MapEntry=>x.val)=(l[i]?).map (λx:κ×Value=>x.2):=λi=>by
  have:=congrArg (λx=>x[i]?) h3;simpa using this
 have mI:Z3E l a z=match (l.map (·.1)).findIdx? (λb=>decide (b=a)) with|some i=>((es.toList[i]?).map (λx:MapEntry=>x.val)).getD z|none=>z:=by
  unfold Z3E;rw [List.findIdx?_map];cases hi:l.findIdx? ((λb=>decide (b=a)) ∘ λx=>x.1) with
  | none=>
    have:l.find? (λp=>decide (p.1=a))=none:=by
     rw [Yar];intro p hp;have:=(Yad.1 hi) p hp;simpa using this
    rw [this]
  | some i=>
    obtain ⟨hlt,hp,hb⟩:=X9.1 hi;have:l.find? (λp=>decide (p.1=a))=some l[i]:=by
     rw [Yas];exact ⟨by simpa using hp,i,hlt,rfl,λj hj=>by simpa using hb j hj⟩
    rw [this];simp only [hv,XD hlt,Ya9,YaC]
 rw [mI];simp only [execOp,hc.ev hx,hc.ev hy];cases hi:(l.map (·.1)).findIdx? (λb=>decide (b=a)) with
 | none=>
   rw [hi] at hf;simp [Instr.lookup,run_underlying hm.h,MapKept.run_getObj_map h1,K.chk,hf,Result.andThen,Zer.run]
 | some i=>
   obtain ⟨hlt,_⟩:=X9.1 hi;have eJ:i<es.toList.length:=by rw [ai];simpa using hlt
   rw [hi] at hf;simp only [XR,XD eJ,Ya9] at hf;simp [Instr.lookup,run_underlying hm.h,MapKept.run_getObj_map h1,K.chk,hf,Result.andThen,XD eJ]
end
end Go.Eng
namespace Go.Proofs.YtipfkbkkndacjaaGreatDoor
open Go Go.Eng Go.RowKit
def idx {α:Type} (p:α->Bool) (xs:List α):Int:=match xs.findIdx? p with|some i=>(i:Int)|none=>-1
theorem Z6j {α:Type} {p:α->Bool} {xs:List α} {k:Nat} (hk:k<xs.length) (hp:p xs[k]=true) (hb:∀ j (h:j<xs.length),j<k->p xs[j]=false):idx p xs=k:=by
 have:xs.findIdx? p=some k:=X9.2 ⟨hk,hp,λj hj=>by simp [hb j (by omega) hj]⟩;simp [idx,this]
theorem Z3F {α:Type} {p:α->Bool} {xs:List α} (hb:∀ j (h:j<xs.length),p xs[j]=false):idx p xs=-1:=by
 have:xs.findIdx? p=none:=by
  rw [Yad];intro x hx;obtain ⟨j,hj,rfl⟩:=Xr hx;simp [hb j hj]
 simp [idx,this]
abbrev isS (a:Str):Str->Bool:=λx=>decide (x=a)
theorem Z9n (X:List Nat) (v:Value) (l:List Str) (a:Str) (w) (hs:SlV X w v l):CC 282 #[v,str a] w λr w'=>r=.I (idx (isS a) l)/\Stp [] w w':=by
 have aS:=hs.max;refine cW2 19 Tryz.func282 ?_;refine W ?_;refine LP (σ:=Nat) (λk=>[(0,v),(1,str a),(8,.I k),(7,.I (l.length:Int))]) (λk w'=>k<=l.length/\Stp [] w w'/\∀ j (h:j<l.length),j<k->isS a l[j]=false) (λk=>l.length - k) 0 ⟨Xq _,Stp.refl _ _,λj _ h=>absurd h (Xs _)⟩ ?_;have aX:=hs;clear hs;rintro k w1 ⟨hk,hS,aW⟩;have hs:=aX.up hS;by_cases hlt:k<l.length
 (refine QP ?_ ?_<;>intro hc)
 refine WR ?_;have ji:isS a l[k]=true:=by simpa [isS,eq_comm] using hc
 exact .mk ⟨by rw [Z6j hlt ji aW],hS⟩;refine QL (k+1) ⟨hlt,hS,λj h hj=>?_⟩ (by omega);by_cases e:j=k;subst e;simpa [isS,eq_comm] using hc;exact aW j h (by omega);have eI:k=l.length:=by omega
 subst eI;refine RT ?_;exact ⟨by rw [Z3F (λj h=>aW j h h)],hS⟩
theorem Z0a (X:List Nat) (v:Value) (l:List Str) (a:Str) (w) (hs:SlV X w v l):CC 182 #[v,str a] w λr w'=>r=.I (idx (isS a) l)/\Stp [] w w':=by
 have aS:=hs.max;refine cW2 19 Tryz.func182 ?_;refine W ?_;refine LP (σ:=Nat) (λk=>[(0,v),(1,str a),(5,.I k)]) (λk w'=>k<=l.length/\Stp [] w w'/\∀ j (h:j<l.length),j<k->isS a l[j]=false) (λk=>l.length - k) 0 ⟨Xq _,Stp.refl _ _,λj _ h=>absurd h (Xs _)⟩ ?_;have aX:=hs;clear hs;rintro k w1 ⟨hk,hS,aW⟩;have hs:=aX.up hS;by_cases hlt:k<l.length
 (refine QP ?_ ?_<;>intro hc)
 refine WR ?_;have ji:isS a l[k]=true:=by simpa [isS,eq_comm] using hc
 exact .mk ⟨by rw [Z6j hlt ji aW],hS⟩;refine QL (k+1) ⟨hlt,hS,λj h hj=>?_⟩ (by omega);by_cases e:j=k;subst e;simpa [isS,eq_comm] using hc;exact aW j h (by omega);have eI:k=l.length:=by omega
 subst eI;refine RT ?_;exact ⟨by rw [Z3F (λj h=>aW j h h)],hS⟩
theorem Z3G (X:List Nat) (v:Value) (l:List Str) (a:Str) (w) (hs:SlV X w v l):CC 248 #[v,str a] w λr w'=>r=.I (idx (isS a) l)/\Stp [] w w':=by
 have aS:=hs.max;refine cW2 19 Tryz.func248 ?_;refine W ?_;refine LP (σ:=Nat) (λk=>[(0,v),(1,str a),(5,.I k)]) (λk w'=>k<=l.length/\Stp [] w w'/\∀ j (h:j<l.length),j<k->isS a l[j]=false) (λk=>l.length - k) 0 ⟨Xq _,Stp.refl _ _,λj _ h=>absurd h (Xs _)⟩ ?_;have aX:=hs;clear hs;rintro k w1 ⟨hk,hS,aW⟩;have hs:=aX.up hS;by_cases hlt:k<l.length
 (refine QP ?_ ?_<;>intro hc)
 refine WR ?_;have ji:isS a l[k]=true:=by simpa [isS,eq_comm] using hc
 exact .mk ⟨by rw [Z6j hlt ji aW],hS⟩;refine QL (k+1) ⟨hlt,hS,λj h hj=>?_⟩ (by omega);by_cases e:j=k;subst e;simpa [isS,eq_comm] using hc;exact aW j h (by omega);have eI:k=l.length:=by omega
 subst eI;refine RT ?_;exact ⟨by rw [Z3F (λj h=>aW j h h)],hS⟩
def Ze:List Str:=[[100,97,121],[115,101,114,118,101,100],[101,120,116,114,97],[98,121],[116,111],[99,111,117,114,116],[97,109,111,117,110,116]]
abbrev Z2e:Value:=.slice (some ⟨0,0,none⟩) 7 7
def ZT (a:Str):Int×Int×Bool:=
 let i:=idx (isS a) Ze
 if i<0 then (0,0,false) else if i<=1 then (i,3,true) else (i,1,true)
abbrev Zwf (x:Int×Int×Bool):Value:=.tuple #[.I x.1,.I x.2.1,.B x.2.2]
theorem Z9o (a:Str) (w) (hF:SlV [] w Z2e Ze):CC 231 #[str a] w λr w'=>r=Zwf (ZT a)/\Stp [] w w':=by
 refine cW1 17 Tryz.func231 ?_;refine W ?_;apply Z8 (Z6i rfl) rfl;refine W ?_;refine CL (Z9n [] _ _ a _ hF) ?_;rintro _ w1 ⟨rfl,hS⟩;unfold ZT;generalize idx (isS a) Ze=i;repeat'(first|refine W1 ?_|refine VG ?_ ?_<;>intro hg|refine VC ?_ ?_<;>intro hc)
 all_goals (refine WR ?_)
 exact .mk ⟨by simp only [if_pos hc],hS⟩;rename_i h1;exact .mk ⟨by simp only [if_neg h1,if_pos hc],hS⟩;rename_i h1;exact .mk ⟨by simp only [if_neg h1,if_neg hc],hS⟩
def wst (s:Str):Nat->List Str×Nat
 | 0=>([],0)
 | k+1=>if k=s.length\/Jg s k=32 then ((wst s k).1++[(s.take k).drop (wst s k).2],k+1) else wst s k
def Z1E (s:Str):List Str:=(wst s (s.length+1)).1
theorem ZiM (s:Str):∀ k,(wst s k).2<=k/\(wst s k).1.length<=k
 | 0=>by simp [wst]
 | k + 1 => by
   have:=ZiM s k;simp only [wst];split;simp;omega;omega
theorem ZiN (a:Str) (w):(Instr.buildSlice 128 1 #[(0,str a)]).run Tryz.prog w=.ok (.slice (some ⟨w.heap.size,0,none⟩) 1 1) (w.alloc (.cells #[str a] 9)):=by kernel_rfl
theorem Z13 (X:List Nat) (s:Str) (w:World) (hX:∀ b∈X,b<w.heap.size) (hl:s.length<=1000) :
 CC 242 #[str s] w λr w'=>Row X w' w.heap.size 9 r (Z1E s)/\Stp [] w w':=by
 refine cW1 32 Tryz.func242 ?_;refine W ?_;refine LP (σ:=Nat×Value) (λq=>[(0,str s),(3,q.2),(4,.I ((wst s q.1).2:Int)),(5,.I (q.1:Int))]) (λq w'=>q.1<=s.length+1/\Row X w' w.heap.size 9 q.2 (wst s q.1).1/\Stp [] w w') (λq=>s.length+1 - q.1) (0,.N) ⟨by simp,Row.nil,Stp.refl _ _⟩ ?_;rintro ⟨k,v⟩ w1 ⟨hk,ab,hS⟩;dsimp only at hk ab ⊢;obtain ⟨sW,kG⟩:=ZiM s k;by_cases hlt:k<=s.length
 . have nxt:wst s (k+1)=if k=s.length\/Jg s k=32 then ((wst s k).1++[(s.take k).drop (wst s k).2],k+1) else wst s k:=rfl
   have aZ:=hS.size;repeat'(first|refine W1 ?_|omega|refine VG ?_ ?_<;>intro hg|refine VC ?_ ?_<;>intro hc)
   rotate_right
   have aW:¬ (k=s.length\/Jg s k=32):=by rintro (h|h)<;>omega
   rw [if_neg aW] at nxt;refine Zx (k+1,v) ⟨rfl,rfl,by rw [nxt];rfl,rfl,trivial⟩ ⟨by dsimp only;omega,by dsimp only;rw [nxt];exact ab,hS⟩ (by dsimp only;omega)
   all_goals
    have dH:k=s.length\/Jg s k=32:=by omega
    rw [if_pos dH] at nxt;apply Z8 (Z2Z rfl rfl rfl rfl rfl (by omega) (by omega)) rfl;refine Z0 (Z1 (vs:=[(0,str _)]) rfl (ZiN _)) rfl ?_;rintro bv w2 hN;have aK:=hN.choose_spec.2.2.2;have aq:SlV (ob v++X) w2 bv [(s.take k).drop (wst s k).2]:=hN.slv (λb hb=>(Xf.1 hb).elim (λh=>(ab.ob_le b h).2) (λh=>Xa (hX b h) aZ)) rfl rfl (by simp [maxLen]);clear hN;replace ab:=ab.up aK;replace hS:=hS.trans aK;have aZ:=hS.size;refine Z0 (ZF (X:=X) (base:=w.heap.size) rfl (by decide) rfl rfl ab aq (by simp only [Xe,Xg];omega) (by simp only [Xe,Xg,maxLen];omega) aZ) rfl ?_;rintro v' w3 ⟨aC,aN,_⟩;refine W ?_;refine Zx (k+1,v') ⟨rfl,rfl,by rw [nxt];rfl,rfl,trivial⟩ ⟨by dsimp only;omega,by dsimp only;rw [nxt];exact aC,hS.own aN (λb hb=>.inr (ab.ob_le b hb).1)⟩ (by dsimp only;omega)
 have eI:k=s.length+1:=by omega
 subst eI;refine RT ?_;exact ⟨ab,hS⟩
theorem _root_.Go.Eng.Row.slv0 {α:Type} [Z5 α] {w} {base T:Nat} {v:Value} {xs:List α} (h:Row [] w base T v xs):SlV [] w v xs:=h.slv (by simp)
theorem Zaq:Z1E [100,97,121,32,115,101,114,118,101,100,32,101,120,116,114,97,32,98,121,32,116,111,32,99,111,117,114,116,32,97,109,111,117,110,116]=Ze:=by decide
theorem Zdx (X:List Nat) (w:World) (hX:∀ b∈X,b<w.heap.size):CC 295 #[] w λr w'=>Row X w' w.heap.size 9 r Ze/\Stp [] w w':=by
 refine cW0 2 Tryz.func295 ?_;refine W ?_;refine CM (ZR rfl) (Z13 X [100,97,121,32,115,101,114,118,101,100,32,101,120,116,114,97,32,98,121,32,116,111,32,99,111,117,114,116,32,97,109,111,117,110,116] _ hX (by decide)) ?_;rintro v w1 ⟨hr,hS⟩;rw [Zaq] at hr;refine RT ?_;exact ⟨hr,hS⟩
theorem Z6W (a:Str) (w):CC 247 #[str a] w λr w'=>r=Zwf (ZT a)/\Stp [] w w':=by
 refine cW1 15 Tryz.func247 ?_;refine W ?_;refine CM Z6h (Zdx [] _ (by simp)) ?_;rintro v w1 ⟨hr,hS⟩;refine W ?_;refine CM (Zd rfl rfl) (Z0a [] _ _ a _ (hr.slv (by simp))) ?_;rintro _ w2 ⟨rfl,ah⟩;replace hS:=hS.trans ah;unfold ZT;generalize idx (isS a) Ze=i;repeat'(first|refine W1 ?_|refine VG ?_ ?_<;>intro hg|refine VC ?_ ?_<;>intro hc)
 all_goals (refine WR ?_)
 exact .mk ⟨by simp only [if_pos hc],hS⟩;rename_i h1;exact .mk ⟨by simp only [if_neg h1,if_pos hc],hS⟩;rename_i h1;exact .mk ⟨by simp only [if_neg h1,if_neg hc],hS⟩
def Z14 (k n:Int) (s:Str):Int:=
 if k=4 then (if n=0 then (ZT s).2.1 else 0) else if ¬ s=[] then 0
 else if k=1 then (if 0<=n/\n<=2147483647 then 1 else 0) else if k=2 then (if 0<=n/\n<=1 then 2 else 0) else if k=3 then (if 0<=n/\n<=3652058 then 3 else 0) else 0
theorem Z6k {a:Str} (h:(ZT a).2.2=false):(ZT a).2.1=0:=by
 unfold ZT at h ⊢;dsimp only at h ⊢;split<;>rename_i h1
 rfl;rw [if_neg h1] at h;split at h<;>simp at h
theorem Zdy (X:List Nat) (v:Value) (x:Nd) (w) (hx:NdV X w v x) :
 CC 243 #[v] w λr w'=>r=.I (Z14 x.kind x.num x.word)/\Stp [] w w':=by
 obtain ⟨kv,rfl,hs⟩:=hx;refine cW1 69 Tryz.func243 ?_;refine W ?_;refine Z0 (Zr rfl) rfl ?_;rintro _ w1 ⟨b,rfl,hb,ac,hS⟩;replace ac:Blk w1 b _ (ndC x kv):=ac;repeat'(first|refine W1 ?_|omega|refine VG ?_ ?_<;>intro hg|refine VC ?_ ?_<;>intro hc)
 . refine CL (Z6W x.word _) ?_
   rintro _ w2 ⟨rfl,ah⟩;have aW:=@Z6k x.word;have hk:x.kind=4:=hc;generalize gM:ZT x.word=fd at *;obtain ⟨f1,f2,f3⟩:=fd;replace ac:=ac.up ah;replace hS:=hS.trans ah;cases f3 with
   | true=>
     (refine QP ?_ ?_<;>intro hc)
     all_goals (refine WR ?_)
     refine .mk ⟨?_,hS⟩;simp only [Z14,if_pos hk];rw [if_neg (by assumption)];refine .mk ⟨?_,hS⟩;simp only [Z14,if_pos hk];rw [if_pos (by omega),gM];rfl
   | false=>
     have h0:=aW rfl;dsimp only at h0;subst h0;refine QO ?_;all_goals (refine WR ?_)
     refine .mk ⟨?_,hS⟩;simp only [Z14,if_pos hk];split;rw [gM];rfl
 all_goals (refine WR ?_)
 all_goals
  refine .mk ⟨?_,hS⟩;simp only [Z14];repeat' split
  all_goals first|rfl|omega|(exfalso;simp_all;done)|(exfalso;simp_all;omega)
theorem ZiO (X:List Nat) (v:Value) (x:Nd) (w) (hx:NdV X w v x) (hF:SlV [] w Z2e Ze) :
 CC 283 #[v] w λr w'=>r=.I (Z14 x.kind x.num x.word)/\Stp [] w w':=by
 obtain ⟨kv,rfl,hs⟩:=hx;refine cW1 50 Tryz.func283 ?_;refine W ?_;refine Z0 (Zr rfl) rfl ?_;rintro _ w1 ⟨b,rfl,hb,ac,hS⟩;replace ac:Blk w1 b _ (ndC x kv):=ac;replace hF:=hF.up hS;repeat'(first|refine W1 ?_|omega|refine VG ?_ ?_<;>intro hg|refine VC ?_ ?_<;>intro hc)
 refine CL (Z9o x.word _ hF) ?_;rintro _ w2 ⟨rfl,ah⟩;replace hS:=hS.trans ah;refine QO ?_;refine WR ?_;refine .mk ⟨?_,hS⟩;simp only [Z14];rw [if_pos (by assumption),if_pos (by assumption)];rfl
 all_goals first
  | (refine Z0 (Z0T (λz : Int => Value.int .i64 z)) rfl ?_
     rintro _ w2 ⟨r,rfl,hr,hm,ah⟩;have pS:=ac.lt;have bG:=hS.size;replace ac:=ac.up ah;replace hS:=hS.trans ah;refine Z6 (Zv (a:=(1:Int)) (v:=.I 1) rfl rfl rfl hm (by simp)) ?_;rintro _ w3 ⟨hm,ak⟩;replace ac:=ac.ext ak (by simp;omega);replace hS:=hS.ow ak;refine Z6 (Zv (a:=(2:Int)) (v:=.I 2) rfl rfl rfl hm (by simp)) ?_;rintro _ w4 ⟨hm,aJ⟩;replace ac:=ac.ext aJ (by simp;omega);replace hS:=hS.ow aJ;refine Z6 (Zv (a:=(3:Int)) (v:=.I 3) rfl rfl rfl hm (by simp)) ?_;rintro _ w5 ⟨hm,aD⟩;replace ac:=ac.ext aD (by simp;omega);replace hS:=hS.ow aD;refine W ?_;apply Z8 (Z1N (a:=x.kind) rfl rfl hm) rfl;refine W ?_;refine WR ?_;refine .mk ⟨?_,hS⟩;have hw:x.word=[]:=by first|assumption|exact Decidable.not_not.1 (by assumption)
     simp only [Z14,hw,not_true_eq_false,if_false]
     first
      | (have hk : x.kind = 1 := by assumption
         rw [hk,if_neg (by decide),if_pos rfl,if_pos (by omega)];rfl)
      | (have hk : x.kind = 2 := by assumption
         rw [hk,if_neg (by decide),if_neg (by decide),if_pos rfl,if_pos (by omega)];rfl)
      | (have hk : x.kind = 3 := by assumption
         rw [hk,if_neg (by decide),if_neg (by decide),if_neg (by decide),if_pos rfl,if_pos (by omega)];rfl))
  | skip
 all_goals (refine WR ?_)
 all_goals
  refine .mk ⟨?_,hS⟩;simp only [Z14];repeat' split
  all_goals first|rfl|omega|(exfalso;simp_all;done)|(exfalso;simp_all;omega)
def Z0e (l want:List Int):Bool:=decide (l=want/\∀ x∈l,x≠0)
theorem Z1F (X Y:List Nat) (u v:Value) (l m:List Int) (w) (hl:SlV X w u l) (hm:SlV Y w v m) :
 CC 244 #[u,v] w λr w'=>r=.B (Z0e l m)/\Stp [] w w':=by
 have aS:=hl.max;have sX:=hm.max;refine cW2 33 Tryz.func244 ?_
 (refine QP ?_ ?_<;>intro hc)
 refine WR ?_;refine .mk ⟨?_,Stp.refl _ _⟩;congr 1;symm;refine decide_eq_false (λh=>?_);have:=congrArg List.length h.1;omega;have ai:l.length=m.length:=by omega
 have cB:=hl;have j0:=hm;refine LP (σ:=Nat) (λk=>[(0,u),(1,v),(5,.I k)]) (λk w'=>k<=l.length/\Stp [] w w'/\∀ j (h:j<l.length) (h':j<m.length),j<k->l[j]=m[j]/\l[j]≠0) (λk=>l.length - k) 0 ⟨Xq _,Stp.refl _ _,λj _ _ h=>absurd h (Xs _)⟩ ?_;clear hl hm;rintro k w1 ⟨hk,hS,aB⟩;have hl:=cB.up hS;have hm:=j0.up hS;by_cases hlt:k<l.length
 . have kI:k<m.length:=by omega
   refine QO ?_;refine ZDr 16 [] [] [(0,0),(1,0),(2,0),(3,1),(4,0),(5,0),(6,0),(7,1),(8,0),(9,0),(10,0),(11,0),(12,0),(13,1),(14,0),(15,0)] (λw1 ae=>?_);replace hl:=hl.up ae;replace hm:=hm.up ae;replace hS:=hS.trans ae
   (refine QE ?_ ?_<;>intro hg)
   all_goals (repeat'(first|refine W1 ?_|omega|refine VG ?_ ?_<;>intro hg|refine VC ?_ ?_<;>intro hc))
   all_goals first
    | (refine QL (k + 1) ⟨hlt, hS, λj h h' hj => ?_⟩ (by omega)
       by_cases e:j=k;subst e;omega;exact aB j h h' (by omega))
    | (refine WR ?_)
   all_goals
    refine .mk ⟨?_,hS⟩;congr 1;symm;refine decide_eq_false (λh=>?_);obtain ⟨rfl,h2⟩:=h;have:=h2 _ (Xd hlt);omega
 refine QO ?_;refine WR ?_;refine .mk ⟨?_,hS⟩;congr 1;symm;refine decide_eq_true ⟨YaD ai (λj h h'=>(aB j h h' (by omega)).1),λx hx=>?_⟩;obtain ⟨j,hj,rfl⟩:=Xr hx;exact (aB j hj (by omega) (by omega)).2
theorem Zt (a:Int) (w):(Instr.buildSlice 23 1 #[(0,.I a)]).run Tryz.prog w=.ok (.slice (some ⟨w.heap.size,0,none⟩) 1 1) (w.alloc (.cells #[.I a] 3)):=by kernel_rfl
theorem Z03 (a b:Int) (w):(Instr.buildSlice 23 2 #[(0,.I a),(1,.I b)]).run Tryz.prog w=.ok (.slice (some ⟨w.heap.size,0,none⟩) 2 2) (w.alloc (.cells #[.I a,.I b] 3)):=by kernel_rfl
theorem ZiP (a b c:Int) (w):(Instr.buildSlice 23 3 #[(0,.I a),(1,.I b),(2,.I c)]).run Tryz.prog w=.ok (.slice (some ⟨w.heap.size,0,none⟩) 3 3) (w.alloc (.cells #[.I a,.I b,.I c] 3)):=by kernel_rfl
theorem Z9.stp {w w':World} {T len:Nat} {cs:List Value} {v:Value} (h:Z9 w T len cs v w'):Stp [] w w':=h.choose_spec.2.2.2
def Z0U:List Str:=[[43],[45],[42]]
def Z2f:List Str:=[[60],[60,61],[61],[33,61],[62],[62,61]]
def Z0H:List Str:=[[97,110,100],[111,114]]
theorem Zdz:Z1E [43,32,45,32,42]=Z0U:=by decide
theorem ZdA:Z1E [60,32,60,61,32,61,32,33,61,32,62,32,62,61]=Z2f:=by decide
theorem ZdB:Z1E [97,110,100,32,111,114]=Z0H:=by decide
def Zar (s:Str) (l:List Int):Int:=
 if 0<=idx (isS s) Z0U/\Z0e l [1,1]=true then 1 else if 0<=idx (isS s) Z2f/\(Z0e l [1,1]=true\/Z0e l [3,3]=true) then 2 else if 0<=idx (isS s) Z0H/\Z0e l [2,2]=true then 2 else 0
theorem Zas (X:List Nat) (s:Str) (u:Value) (l:List Int) (w) (hl:SlV X w u l) :
 CC 245 #[str s,u] w λr w'=>r=.I (Zar s l)/\Stp [] w w':=by
 refine cW2 42 Tryz.func245 ?_;refine W ?_;refine Z0 (Z1 (vs:=[(0,.I 1),(1,.I 1)]) rfl (Z03 _ _)) rfl ?_;rintro a1 w1 hN;have ha:=hN.slv (X:=[]) (ys:=[(1:Int),1]) (by simp) rfl rfl (by simp [maxLen]);have hS:=Z9.stp hN;clear hN;replace hl:=hl.up hS;refine CL (Z1F _ _ _ _ _ _ _ hl ha) ?_;rintro _ w2 ⟨rfl,ah⟩;replace hl:=hl.up ah;replace hS:=hS.trans ah;refine W ?_;refine Z0 (Z1 (vs:=[(0,.I 3),(1,.I 3)]) rfl (Z03 _ _)) rfl ?_;rintro a3 w3 hN;have ha:=hN.slv (X:=[]) (ys:=[(3:Int),3]) (by simp) rfl rfl (by simp [maxLen]);have ak:=Z9.stp hN;clear hN;replace hl:=hl.up ak;replace hS:=hS.trans ak;refine CL (Z1F _ _ _ _ _ _ _ hl ha) ?_;rintro _ w4 ⟨rfl,aJ⟩;replace hl:=hl.up aJ;replace hS:=hS.trans aJ;clear ha;unfold Zar;generalize Z0e l [1,1]=p1;generalize Z0e l [3,3]=p3;refine W ?_;refine CM (ZR rfl) (Z13 [] [43,32,45,32,42] _ (by simp) (by decide)) ?_;rintro _ w5 ⟨hr,aD⟩;rw [Zdz] at hr;replace hl:=hl.up aD;replace hS:=hS.trans aD;refine W ?_;refine CL (Z0a [] _ _ s _ hr.slv0) ?_;rintro _ w6 ⟨rfl,di⟩;replace hl:=hl.up di;replace hS:=hS.trans di;generalize idx (isS s) Z0U=i1;clear hr;cases p1<;>cases p3<;>by_cases hi:0<=i1;all_goals (refine QO ?_)
 all_goals first
  | (refine CM (ZR rfl) (Z13 [] [60, 32, 60, 61, 32, 61, 32, 33, 61, 32, 62, 32, 62, 61] _ (by simp) (by decide)) ?_
     rintro _ w7 ⟨hr,aQ⟩;rw [ZdA] at hr;replace hl:=hl.up aQ;replace hS:=hS.trans aQ;refine W ?_;refine CL (Z0a [] _ _ s _ hr.slv0) ?_;rintro _ w8 ⟨rfl,cK⟩;replace hl:=hl.up cK;replace hS:=hS.trans cK;generalize idx (isS s) Z2f=i2;clear hr;by_cases cn:0<=i2)
  | (refine RU ?_
     exact ⟨by simp [hi],hS⟩)
 all_goals (refine QO ?_)
 all_goals first
  | (refine CM (ZR rfl) (Z13 [] [97, 110, 100, 32, 111, 114] _ (by simp) (by decide)) ?_
     rintro _ w9 ⟨hr,gu⟩;rw [ZdB] at hr;replace hl:=hl.up gu;replace hS:=hS.trans gu;refine W ?_;refine CL (Z0a [] _ _ s _ hr.slv0) ?_;rintro _ w10 ⟨rfl,d9⟩;replace hl:=hl.up d9;replace hS:=hS.trans d9;generalize idx (isS s) Z0H=i3;clear hr;by_cases fB:0<=i3)
  | (refine RU ?_
     exact ⟨by simp [hi,cn],hS⟩)
 all_goals (refine QO ?_)
 all_goals first
  | (refine Z0 (Z1 (vs := [(0, .I 2), (1, .I 2)]) rfl (Z03 _ _)) rfl ?_
     rintro a2 w11 hN;have ha:=hN.slv (X:=[]) (ys:=[(2:Int),2]) (by simp) rfl rfl (by simp [maxLen]);have mJ:=Z9.stp hN;clear hN;replace hl:=hl.up mJ;replace hS:=hS.trans mJ;refine W ?_;refine CL (Z1F _ _ _ _ _ _ _ hl ha) ?_;rintro _ w12 ⟨rfl,jk⟩;replace hS:=hS.trans jk;generalize Z0e l [2,2]=p2;cases p2)
  | (refine RU ?_
     exact ⟨by simp [hi,cn,fB],hS⟩)
 all_goals (refine W ?_)
 all_goals (refine WR ?_)
 all_goals exact .mk ⟨by simp [hi,cn,fB],hS⟩
structure Sig where
 kind:Int
 s:Str
 a:Int
 b:Int
 c:Int
 deriving DecidableEq
abbrev Z5u (x:Sig):Value:=.agg #[.I x.kind,str x.s,.I x.a,.I x.b,.I x.c]
theorem ZsY (x y:Sig) (w):(Op.equal 355 (Z5u x) (Z5u y)).run Tryz.prog w=.ok (decide (x=y)) w:=by
 have h1:Program.stoodInHeld Tryz.prog 355=false:=by kernel_rfl
 obtain ⟨i,hi⟩:∃ i,Tryz.prog.info? 3=some i:=by
  have:=(inferInstance:Siz Tryz.prog 3 1).h;cases h:Tryz.prog.info? 3 with
  | none=>rw [h] at this;cases this
  | some i=>exact ⟨i,rfl⟩
 have hc:Tryz.prog.cellsOf 3=1:=by kernel_rfl
 obtain ⟨k,s,a,b,c⟩:=x;obtain ⟨k',s',a',b',c'⟩:=y;simp [Z5u,Op.equal,Op.maxDepth,run_equalIn_struct,h1,Program.fieldsOf,Tryz.underlying355,Op.eqFields,part,Und.isAgg,Siz.run,Z0R,run_equalIn_int w _ _ .i64 .i64 _ _ Tryz.underlying3,run_equalIn_string w _ _ _ _ Tryz.underlying9,run_equalIn_array w _ _ _ Tryz.underlying350 hi,hc,Op.eqItems,List.range_succ_eq_map];repeat' split
 all_goals simp_all
theorem ZmO (em:Bool) (x:Sig) (w):(Instr.checkKey em 10000 355 (Z5u x)).run Tryz.prog w=.ok () w:=by kernel_rfl
instance:ZbE Tryz.prog 355 Sig where
 enc:=Z5u
 chk:=ZmO
 find:=λa es l w hk=>by
  have h2:=run_findKey_eq (P:=Tryz.prog) (k:=355) w (by kernel_rfl) (Z5u a) es;have h3:=Z2y Z5u ZsY a w es l 0 hk;simp only [XM] at h3;exact h2.trans h3
abbrev ZbF (a b c:Int):Value:=.agg #[.I a,.I b,.I c]
theorem ZmP (a:Int) (w):(Instr.build 350 #[(0,.I a)]).run Tryz.prog w=.ok (ZbF a 0 0) w:=by kernel_rfl
theorem Zat (a b:Int) (w):(Instr.build 350 #[(0,.I a),(1,.I b)]).run Tryz.prog w=.ok (ZbF a b 0) w:=by kernel_rfl
theorem Z7y (k a b c:Int) (s:Str) (w):(Instr.build 355 #[(0,.I k),(1,str s),(2,ZbF a b c)]).run Tryz.prog w=.ok (Z5u ⟨k,s,a,b,c⟩) w:=by kernel_rfl
theorem ZbG (a b c d:Str) (w):(Instr.buildSlice 128 4 #[(0,str a),(1,str b),(2,str c),(3,str d)]).run Tryz.prog w=.ok (.slice (some ⟨w.heap.size,0,none⟩) 4 4) (w.alloc (.cells #[str a,str b,str c,str d] 9)):=by kernel_rfl
abbrev ZiQ:=Sig×Value
def ent:Nat->ZiQ
 | 5=>(⟨5,[45],1,0,0⟩,.I 1)
 | 10=>(⟨5,[110,111,116],2,0,0⟩,.I 2)
 | 15=>(⟨10,[110,101,120,116],3,0,0⟩,.I 3)
 | 20=>(⟨10,[112,114,101,118],3,0,0⟩,.I 3)
 | 26=>(⟨10,[108,97,116,101,114],3,3,0⟩,.I 3)
 | 32=>(⟨10,[101,97,114,108,105,101,114],3,3,0⟩,.I 3)
 | _=>(⟨10,[98,101,116,119,101,101,110],3,3,0⟩,.I 1)
def Zau:List Nat:=[5,10,15,20,26,32,38]
def J7:List Str:=[[100,97,121,115],[119,101,101,107,115],[109,111,110,116,104,115],[99,111,117,114,116,100,97,121,115]]
def Z1V (u:Str):List ZiQ:=[(⟨7,u,3,1,0⟩,.I 3),(⟨8,u,3,1,0⟩,.I 3)]
def Z3H:List ZiQ:=Zau.map ent++J7.flatMap Z1V
theorem ZdC:(Z3H.map (·.1)).Nodup:=by decide
theorem ZfL {κ:Type} [DecidableEq κ] {l m:List (κ×Value)} (hp:l.Perm m) (hn:(m.map (·.1)).Nodup) (a:κ) (z:Value):Z3E l a z=Z3E m a z:=by
 have oH:(l.map (·.1)).Nodup:=(hp.map _).nodup_iff.2 hn;have key:∀ (l m:List (κ×Value)),(∀ p,p∈l->p∈m)->(m.map (·.1)).Nodup->∀ p,l.find? (λp=>decide (p.1=a))=some p->m.find? (λp=>decide (p.1=a))=some p:=by
  intro l m hs hm p hf;have lV:=hs p (X5 hf);have sY:p.1=a:=by simpa using Ybo hf
  cases hq:m.find? (λp=>decide (p.1=a)) with
  | none=>exact absurd (Yar.1 hq p lV) (by simp [sY])
  | some q=>
    have uP:=X5 hq;have uQ:q.1=a:=by simpa using Ybo hq
    obtain ⟨i,hi,rfl⟩:=Xr lV;obtain ⟨j,hj,rfl⟩:=Xr uP;have:i=j:=by
     have h1:=(List.getElem_inj (xs:=m.map (·.1)) (i:=i) (j:=j) (h₀:=by simpa using hi) (h₁:=by simpa using hj) hm).1 (by simp [sY,uQ]);exact h1
    subst this;rfl
 unfold Z3E;cases h1:l.find? (λp=>decide (p.1=a)) with
 | some p=>rw [key l m (λp h=>hp.mem_iff.1 h) hn p h1]
 | none=>
   cases h2:m.find? (λp=>decide (p.1=a)) with
   | none=>rfl
   | some p=>rw [key m l (λp h=>hp.mem_iff.2 h) oH p h2] at h1;cases h1
theorem Z7R (w):CC 285 #[] w λr w'=>∃ (m:Nat) (l:List ZiQ),r=.map (some m)/\JL Z5u w' m l/\l.Perm Z3H/\Stp [] w w':=by
 refine cW0 62 Tryz.func285 ?_;refine W ?_;refine ZDr 41 [] [5,10,15,20,26,32,38] [(1,0),(2,0),(3,0),(4,0),(6,0),(7,0),(8,0),(9,0),(11,0),(12,0),(13,0),(14,0),(16,0),(17,0),(18,0),(19,0),(21,0),(22,0),(23,0),(24,0),(25,0),(27,0),(28,0),(29,0),(30,0),(31,0),(33,0),(34,0),(35,0),(36,0),(37,0),(0,2),(5,279241165504),(39,0),(40,0)] (λw1 ae=>?_);repeat'(first|refine D1 ?_|(apply Z2H;exact rfl;first|(apply Z2I (vs:=[(0,.I _)]);exact trivial;exact rfl;exact ZmP _;exact rfl)|(apply Z2I (vs:=[(0,.I _),(1,.I _)]);exact trivial;exact rfl;exact Zat _ _;exact rfl)|(apply Z2I (vs:=[(0,.I _),(1,str _),(2,ZbF _ _ _)]);exact trivial;exact rfl;exact Z7y _ _ _ _ _;exact rfl)))
 refine Za rfl trivial (Z0T Z5u) (λ_ _ h=>h.choose_spec.2.2.2) rfl ?_;rintro _ w2 ⟨m,rfl,hm,au,ah⟩;have sW:=ae.size;refine ZsU Zau (λrem w'=>∃ l,JL Z5u w' m l/\(l++rem.map ent).Perm (Zau.map ent)/\Stp [m] w2 w') rfl (by decide) (by decide) ⟨[],au,by simp,Stp.refl _ _⟩ ?_ ?_
 . rintro rem j w' bu hj ⟨l,hl,hp,hS⟩
   have j4:((l++rem.map ent).map (·.1)).Nodup:=(hp.map (·.1)).nodup_iff.2 (by decide);have hfresh:∀ p∈l,¬ p.1=(ent j).1:=by
    intro p hp e;rw [XP,List.nodup_append] at j4;exact j4.2.2 p.1 (Yam hp) (ent j).1 (by rw [YbH];exact XG.2 ⟨j,hj,rfl⟩) e
   have gen:∀ w'',JL Z5u w'' m (l++[ent j])->Stp [m] w' w''->∃ l,JL Z5u w'' m l/\(l++(rem.erase j).map ent).Perm (Zau.map ent)/\Stp [m] w2 w'':=by
    intro w'' h1 h2;refine ⟨_,h1,?_,hS.trans h2⟩;refine List.Perm.trans ?_ hp;rw [Xy];exact List.Perm.append_left l (((List.perm_cons_erase hj).map ent).symm)
   have mK:=bu.subset hj;simp only [Zau,Xb,Xj,or_false] at mK;rcases mK with rfl|rfl|rfl|rfl|rfl|rfl|rfl
   all_goals exact ⟨_,rfl,rfl,trivial,(Zv (v:=.I _) rfl rfl rfl hl hfresh).mono (λ_ w'' ⟨h1,h2⟩=>⟨.inr rfl,gen w'' h1 h2⟩)⟩
 rintro w3 ⟨l,hl,hp,ak⟩;rw [XU,XC] at hp;have hS:Stp [] w w3:=(ae.trans ah).ow ak;have xS:w.heap.size<=m:=by omega
 clear au ah ak;repeat'(first|refine D1 ?_|refine Zk rfl rfl rfl rfl (λhg=>?_) (λhg=>?_)|(refine Zh rfl rfl rfl rfl (λhg=>?_) (λhg=>?_)<;>refine D1 ?_)|fail)
 refine W ?_;refine Z0 (Z1 (vs:=[(0,str [100,97,121,115]),(1,str [119,101,101,107,115]),(2,str [109,111,110,116,104,115]),(3,str [99,111,117,114,116,100,97,121,115])]) rfl (ZbG _ _ _ _)) rfl ?_;rintro uv w4 hN;have hu:SlV [m] w4 uv J7:=hN.slv (λb hb=>by simp at hb;subst hb;exact hl.lt) rfl rfl (by simp [J7,maxLen]);have aJ:=Z9.stp hN;clear hN;replace hl:=hl.up aJ;replace hS:=hS.trans aJ;have mL:∀ p∈l,p.1.kind=5\/p.1.kind=10:=λp cr=>by
  have sZ:=hp.mem_iff.1 cr;simp only [Zau,Xz,XU,Xb,Xj,or_false] at sZ;rcases sZ with rfl|rfl|rfl|rfl|rfl|rfl|rfl<;>decide
 have iv:∀ k (h:k<J7.length),∀ p∈(J7.take k).flatMap Z1V,¬ p.1.s=J7[k]:=by
  intro k h
  match k,h with
  | 0,_=>(show ∀ p∈(J7.take 0).flatMap Z1V,¬ p.1.s=J7[0]'(by decide));decide
  | 1,_=>(show ∀ p∈(J7.take 1).flatMap Z1V,¬ p.1.s=J7[1]'(by decide));decide
  | 2,_=>(show ∀ p∈(J7.take 2).flatMap Z1V,¬ p.1.s=J7[2]'(by decide));decide
  | 3,_=>(show ∀ p∈(J7.take 3).flatMap Z1V,¬ p.1.s=J7[3]'(by decide));decide
 refine W ?_;refine LP (σ:=Nat) (λk=>[(1,.I 1),(3,.I 3),(4,.map (some m)),(40,uv),(41,.I 4),(42,.I k)]) (λk w'=>k<=4/\JL Z5u w' m (l++(J7.take k).flatMap Z1V)/\Stp [m] w4 w') (λk=>4 - k) 0 ⟨by omega,by simpa using hl,Stp.refl _ _⟩ ?_;rintro k w5 ⟨hk,ay,aD⟩;have xT:SlV [m] w5 uv J7:=hu.ext aD (by simp) (λb hb=>.inl hb);by_cases hlt:k<4;have kI:k<J7.length:=hlt;have kJ:∀ (t:Int),¬ t=5->¬ t=10->∀ p∈l++(J7.take k).flatMap Z1V,¬ p.1=⟨t,J7[k],3,1,0⟩:=by
  intro t h5 gN p lV e;rcases Xf.1 lV with h|h
  have:=mL p h;rw [e] at this;rcases this with h|h
  exact h5 h;exact gN h;exact iv k kI p h (by rw [e])
 refine QO ?_;apply Z7 (vs:=[(0,.I 3),(1,.I 1)]) rfl (Zat _ _) rfl;apply Z7 (vs:=[(0,.I 7),(1,str _),(2,ZbF _ _ _)]) rfl (Z7y _ _ _ _ _) rfl;refine W ?_;refine Z6 (Z1M (a:=(⟨7,J7[k],3,1,0⟩:Sig)) (v:=.I 3) rfl rfl rfl ay (kJ 7 (by decide) (by decide))) ?_;rintro _ w6 ⟨lW,di⟩;refine W ?_;apply Z7 (vs:=[(0,.I 3),(1,.I 1)]) rfl (Zat _ _) rfl;apply Z7 (vs:=[(0,.I 8),(1,str _),(2,ZbF _ _ _)]) rfl (Z7y _ _ _ _ _) rfl;refine W ?_;refine Z6 (Z1M (a:=(⟨8,J7[k],3,1,0⟩:Sig)) (v:=.I 3) rfl rfl rfl lW (λp lV e=>by
  rcases Xf.1 lV with h|h
  exact kJ 8 (by decide) (by decide) p h e;simp only [Xi] at h;subst h;simp at e)) ?_
 rintro _ w7 ⟨pT,aQ⟩;refine W ?_;refine QL (k+1) ⟨by omega,?_,(aD.trans di).trans aQ⟩ (by omega);rw [Xk kI,Yan];have e:l++((J7.take k).flatMap Z1V++[J7[k]].flatMap Z1V)=(l++(J7.take k).flatMap Z1V++[((⟨7,J7[k],3,1,0⟩:Sig),Value.int .i64 3)])++[((⟨8,J7[k],3,1,0⟩:Sig),Value.int .i64 3)]:=by simp [Z1V]
 rw [e];exact pT;have eI:k=4:=by omega
 subst eI;refine RT ?_;exact ⟨m,_,rfl,ay,hp.append_right _,hS.ow aD⟩
def ZfM (x:Sig):Value:=Z3E Z3H x (.I 0)
def Z1W (s:Str) (a b:Int):Int:=
 if s∈Z0U then (if a=b/\a=1 then 1 else 0) else if s∈Z2f then (if a=b/\¬ a=2 then 2 else 0) else if s∈Z0H then (if a=b/\a=2 then 2 else 0) else 0
theorem ZdD (s:Str) (a b c:Int) (w):CC 284 #[str s,ZbF a b c] w λr w'=>r=.I (Z1W s a b)/\Stp [] w w':=by
 refine cW2 46 Tryz.func284 ?_;refine W ?_;refine Z0 (Zr rfl) rfl ?_;rintro _ w1 ⟨q,rfl,hq,ac,hS⟩;replace ac:Blk w1 q _ [.I a,.I b,.I c]:=ac;refine W ?_;by_cases hA:s∈Z0U
 . unfold Z1W
   rw [if_pos hA];simp only [Z0U,Xb,Xj,or_false] at hA;rcases hA with rfl|rfl|rfl
   all_goals (repeat'(first|refine W1 ?_|omega|refine VG ?_ ?_<;>intro hg|refine VC ?_ ?_<;>intro hc))
   all_goals (refine WR ?_)
   all_goals refine .mk ⟨?_,hS⟩
   all_goals first
    | rw [if_pos ⟨by assumption,by assumption⟩]
    | rw [if_neg (λh=>by omega)]
 by_cases hC:s∈Z2f
 . unfold Z1W
   rw [if_neg hA,if_pos hC];simp only [Z2f,Xb,Xj,or_false] at hC;rcases hC with rfl|rfl|rfl|rfl|rfl|rfl
   all_goals (repeat'(first|refine W1 ?_|omega|refine VG ?_ ?_<;>intro hg|refine VC ?_ ?_<;>intro hc))
   all_goals (refine WR ?_)
   all_goals refine .mk ⟨?_,hS⟩
   all_goals first
    | rw [show (if a=b/\¬ a=2 then (2:Int) else 0)=2 from if_pos (by omega)]
    | rw [show (if a=b/\¬ a=2 then (2:Int) else 0)=0 from if_neg (by omega)]
 by_cases hL:s∈Z0H
 . unfold Z1W
   rw [if_neg hA,if_neg hC,if_pos hL];simp only [Z0H,Xb,Xj,or_false] at hL;rcases hL with rfl|rfl
   all_goals (repeat'(first|refine W1 ?_|omega|refine VG ?_ ?_<;>intro hg|refine VC ?_ ?_<;>intro hc))
   all_goals (refine WR ?_)
   all_goals refine .mk ⟨?_,hS⟩
   all_goals first
    | rw [if_pos ⟨by assumption,by assumption⟩]
    | rw [if_neg (λh=>by omega)]
 unfold Z1W;rw [if_neg hA,if_neg hC,if_neg hL];simp only [Z0U,Z2f,Z0H,Xb,Xj,or_false,not_or] at hA hC hL;obtain ⟨a1,a2,a3⟩:=hA;obtain ⟨b1,b2,b3,b4,b5,b6⟩:=hC;obtain ⟨c1,c2⟩:=hL;repeat'(first|refine W1 ?_|refine Zaf rfl (λhc=>absurd hc (by assumption)) (λhc=>?_))
 refine RU ?_;exact ⟨rfl,hS⟩
theorem _root_.Go.Eng.SlV.any {α:Type} [Z5 α] {X:List Nat} {w} {v:Value} {xs:List α} (h:SlV X w v xs):SlV [] w v xs:=h.ext (Stp.refl [] w) (by simp) (by simp)
theorem _root_.Go.Eng.SlV.new {α:Type} [Z5 α] {X:List Nat} {w w':World} {v:Value} {xs:List α} (h:SlV X w v xs) (hS:Stp [] w w') (b:Nat) (hb:w.heap.size<=b):SlV [b] w' v xs:=
 h.ext hS (by simp) (λc hc=>.inr (by simp at hc;omega))
theorem _root_.Go.Eng.SlV.on {α:Type} [Z5 α] {X S:List Nat} {w w':World} {v:Value} {xs:List α} (h:SlV X w v xs) (hS:Stp S w w') (hs:∀ b∈S,b∈X):SlV X w' v xs:=h.ext hS hs (λ_ h=>.inl h)
def Z3I (x:Sig):Int:=match ZfM x with|.int _ z=>z|_=>0
theorem ZbH (x:Sig):ZfM x=.I (Z3I x):=by
 have:∀ p∈Z3H,∃ z,p.2=Value.int .i64 z:=by
  intro p hp;simp only [Z3H,Zau,J7,Xz,XU,YaY,YbD,Z1V,XV,XJ,XC,Xb,Xj,or_false,ent] at hp;rcases hp with rfl|rfl|rfl|rfl|rfl|rfl|rfl|rfl|rfl|rfl|rfl|rfl|rfl|rfl|rfl<;>exact ⟨_,rfl⟩
 unfold Z3I ZfM Z3E;cases h:Z3H.find? (λp=>decide (p.1=x)) with
 | none=>rfl
 | some p=>
   obtain ⟨z,hz⟩:=this p (X5 h);simp only [hz]
def JF (k n:Int) (s:Str) (ts:List Int):Int:=
 if ts.length > 3 then 0 else if (0:Int)∈ts then 0 else if ts=[] then Z14 k n s else if ¬ n=0 then 0
 else if k=9/\s=[]/\ts.getD 0 0=2/\ts.getD 1 0=ts.getD 2 0 then ts.getD 1 0
 else if k=6/\ts.getD 2 0=0 then Z1W s (ts.getD 0 0) (ts.getD 1 0) else Z3I ⟨k,s,ts.getD 0 0,ts.getD 1 0,ts.getD 2 0⟩
def Zf:Nd->Int
 | .mk k n s l=>JF k n s (l.map Zf)
theorem Z0I (x:Nd):Zf x=JF x.kind x.num x.word (x.kids.map Zf):=by
 cases x;rw [Zf];rfl
def ZdE (ts:List Int) (k:Nat):List Value:=[.I (if 0<k then ts.getD 0 0 else 0),.I (if 1<k then ts.getD 1 0 else 0),.I (if 2<k then ts.getD 2 0 else 0)]
theorem ZiR (ts:List Int) (k:Nat) (hk:k<3):(ZdE ts k).set (0+k * 1) (.I (ts.getD k 0))=ZdE ts (k+1):=by
 match k,hk with
 | 0,_=>rfl
 | 1,_=>rfl
 | 2,_=>rfl
theorem ZiS (ts:List Int) (k:Nat) (hk:k<3):(ZdE ts (k+1))[0+k * 1]?=some (.I (ts.getD k 0)):=by
 match k,hk with
 | 0,_=>rfl
 | 1,_=>rfl
 | 2,_=>rfl
theorem ZiT (ts:List Int) (h:ts.length<=3):ZdE ts ts.length=[.I (ts.getD 0 0),.I (ts.getD 1 0),.I (ts.getD 2 0)]:=by
 match ts,h with
 | [],_=>rfl
 | [a],_=>rfl
 | [a,b],_=>rfl
 | [a,b,c],_=>rfl
theorem ZsZ (x:Nd):∀ (X XF:List Nat) (v:Value) (w),NdV X w v x->SlV XF w Z2e Ze->
 CC 230 #[v] w λr w'=>r=.I (Zf x)/\Stp [] w w':=by
 induction x using Nd.ind with
 | h k n s l ih=>
 intro X XF v w hx hF;generalize iU:Nd.mk k n s l=x at *;have ih':∀ y∈x.kids,∀ (X XF:List Nat) (v:Value) (w:World),NdV X w v y->SlV XF w Z2e Ze->CC 230 #[v] w λr w'=>r=.I (Zf y)/\Stp [] w w':=by
  subst iU;exact ih
 clear ih iU k n s l;have kK:=hx;obtain ⟨kv,rfl,hs⟩:=hx;have aS:=hs.max;rw [Z0I];have ai:(x.kids.map Zf).length=x.kids.length:=by simp
 have cG:∀ k (h:k<x.kids.length),(x.kids.map Zf).getD k 0=Zf x.kids[k]:=λk h=>by simp [List.getD,h]
 generalize ce:x.kids.map Zf=ts at *;refine cW1 80 Tryz.func230 ?_;refine W ?_;refine Z0 (Zr rfl) rfl ?_;rintro _ w1 ⟨b,rfl,hb,ac,hS⟩;replace ac:Blk w1 b _ (ndC x kv):=ac;replace hs:=hs.up hS;replace hF:=hF.up hS;have hlt:=ac.lt;refine W ?_;refine Z0 Z2 rfl ?_;rintro _ w2 ⟨q,rfl,hq,bQ,ah⟩;replace bQ:Blk w2 q _ (ZdE ts 0):=bQ;replace ac:=ac.up ah;replace hs:=hs.new ah q hq;replace hF:=hF.new ah q hq;replace hS:=hS.trans ah;have xU:w.heap.size<=q:=Xh (Xh hb (Nat.le_of_lt hlt)) hq;have uR:¬ b=q:=by omega
 (refine QP ?_ ?_<;>intro hc)
 refine WR ?_;refine .mk ⟨?_,hS⟩;unfold JF;rw [if_pos (by omega)];have iw:x.kids.length<=3:=by omega
 refine Z0j (σ:=Unit) (λ_=>[(1,pQ b),(3,pQ q)]) (λ_ w'=>Stp [q] w2 w'/\Blk w' q 350 [.I (ts.getD 0 0),.I (ts.getD 1 0),.I (ts.getD 2 0)]/\¬ (0:Int)∈ts) ?_ ?_;have aX:=hs;have oI:=hF;refine LP (σ:=Nat) (λk=>[(1,pQ b),(3,pQ q),(11,kv),(12,.I (x.kids.length:Int)),(13,.I k)]) (λk w'=>k<=x.kids.length/\Stp [q] w2 w'/\Blk w' q 350 (ZdE ts k)/\¬ (0:Int)∈ts.take k) (λk=>x.kids.length - k) 0 ⟨Xq _,Stp.refl _ _,bQ,by simp⟩ ?_;clear hs hF bQ;rintro k w3 ⟨hk,ak,bQ,aW⟩;have hs:=aX.on ak (by simp);have hF:=oI.on ak (by simp);by_cases hlt:k<x.kids.length;have j5:k<3:=by omega
 have hg:=cG k hlt;have mM:=ZiR ts k j5;have iV:=ZiS ts k j5;rw [hg] at mM iV;obtain ⟨kv2,bq,cq⟩:=hs.nd hlt;refine QO ?_;apply Z8 (JG rfl rfl hs hlt cq) rfl;refine Z0 Z2 rfl ?_;rintro _ w4 ⟨b4,rfl,bE,bB,aJ⟩;have uS:=bQ.lt;replace bQ:=bQ.up aJ;refine W ?_;refine SB (us:=ndC x.kids[k] kv2) (ZG bq) bB ?_;rintro _ w5 ⟨aD,mN⟩;have xV:¬ b4=q:=by omega
 replace bQ:=bQ.ext aD (by simp;omega);have kM:=aJ.ow aD;replace bq:=bq.up kM;replace hF:=hF.up kM;refine W ?_;refine CL (ih' x.kids[k] (Xd hlt) _ _ _ _ ⟨kv2,rfl,bq⟩ hF) ?_;rintro _ w6 ⟨rfl,di⟩;replace bQ:=bQ.up di;refine W ?_;refine Z6 (Zb (u:=.I (Zf x.kids[k])) rfl rfl rfl rfl bQ (by simp [ZdE];omega)) ?_;rintro _ w7 ⟨aQ,bQ⟩;rw [mM] at bQ;have mO:=((ak.trans kM.mn).trans di.mn).trans aQ;have dh:ts.take (k+1)=ts.take k++[Zf x.kids[k]]:=by
  rw [Xk (by omega)];congr 2;subst ce;simp
 refine QO ?_;apply ZiJ rfl rfl (bQ.cell iV) rfl
 (refine QP ?_ ?_<;>intro hc)
 refine WR ?_;have uT:Zf x.kids[k]=0:=hc;refine .mk ⟨?_,hS.ow mO⟩;unfold JF;rw [if_neg (by omega),if_pos];have:Zf x.kids[k]∈ts:=by
  subst ce;exact Yam (Xd hlt)
 rwa [uT] at this
 refine QL (k+1) ⟨hlt,mO,bQ,?_⟩ (by omega);rw [dh,Xf];rintro (h|h);exact aW h;simp only [Xi] at h;exact hc h.symm;have eI:k=x.kids.length:=by omega
 subst eI;refine QO ?_;rw [<- ai,ZiT ts (by omega)] at bQ;rw [<- ai,Xp] at aW;exact QT () ⟨ak,bQ,aW⟩;rintro _ w3 ⟨ak,bQ,aW⟩;replace ac:=ac.ext ak (by simpa using uR);replace hF:=hF.on ak (by simp);replace hs:=hs.on ak (by simp);replace hS:=hS.ow ak;unfold JF;rw [if_neg (by omega),if_neg aW];by_cases h0:x.kids.length=0;rw [if_pos (Xw.1 (by omega))];refine QO ?_;refine CL (ZiO [q] _ x _ ⟨kv,rfl,hs⟩ hF.any) ?_;rintro _ w4 ⟨rfl,aJ⟩;refine RT ?_;exact ⟨rfl,hS.trans aJ⟩;rw [if_neg (λh=>h0 (by rw [<- ai,h];rfl))];clear cG ce;generalize ts.getD 0 0=a at *;generalize ts.getD 1 0=bb at *;generalize ts.getD 2 0=c at *;repeat'(first|refine W1 ?_|omega|refine VG ?_ ?_<;>intro hg|refine VC ?_ ?_<;>intro hc)
 refine RU ?_;exact ⟨by rw [if_pos (by assumption)],hS⟩;all_goals rw [if_neg (by assumption)]
 all_goals first
  | (have h9 : x.kind = 9 /\ x.word = [] /\ a = 2 /\ bb = c := ⟨by assumption, by assumption, by assumption, by assumption⟩
     rw [if_pos h9];refine RU ?_;exact ⟨rfl,hS⟩)
  | rw [show (if x.kind = 9 /\ x.word = [] /\ a = 2 /\ bb = c then bb else if x.kind = 6 /\ c = 0 then Z1W x.word a bb else Z3I ⟨x.kind, x.word, a, bb, c⟩) = if x.kind = 6 /\ c = 0 then Z1W x.word a bb else Z3I ⟨x.kind, x.word, a, bb, c⟩ from if_neg (λh => by
     obtain ⟨h1,h2,h3,h4⟩:=h;first|omega|contradiction)]
 all_goals first
  | (have h6 : x.kind = 6 /\ c = 0 := ⟨by assumption, by assumption⟩
     rw [if_pos h6];refine CL (ZdD x.word a bb c _) ?_;rintro _ w4 ⟨rfl,aJ⟩;refine RT ?_;exact ⟨rfl,hS.trans aJ⟩)
  | rw [show (if x.kind=6/\c=0 then Z1W x.word a bb else Z3I ⟨x.kind,x.word,a,bb,c⟩)=Z3I ⟨x.kind,x.word,a,bb,c⟩ from if_neg (λh=>by omega)]
 all_goals
  refine ZDr 9 [] [] [(1,0),(2,1),(3,0),(4,1),(5,1),(6,0),(0,2),(7,2),(8,0)] (λw1 ae=>?_);replace ac:=ac.up ae;replace bQ:=bQ.up ae;replace hS:=hS.trans ae;refine D ?_;apply Z2H;exact rfl;apply Z2I (vs:=[(0,.I _),(1,str _),(2,ZbF _ _ _)]);exact trivial;exact rfl;exact Z7y _ _ _ _ _;exact rfl;refine DC (Z7R _) (λ_ _ h=>h.choose_spec.choose_spec.2.2.2) ?_;rintro _ w5 ⟨m,ll,rfl,hm,hp,aD⟩;have mQ:=ZbH ⟨x.kind,x.word,a,bb,c⟩;unfold ZfM at mQ;rw [<- ZfL hp ZdC] at mQ;refine Za rfl trivial (Zoq (Z1N (a:=(⟨x.kind,x.word,a,bb,c⟩:Sig)) rfl rfl hm)) (λ_ _ h=>h.2 ▸ Stp.refl _ _) rfl ?_;rintro _ _ ⟨rfl,rfl⟩;rw [mQ];refine D ?_;refine RT ?_;exact ⟨rfl,hS.trans aD⟩
theorem Zwg:∀ p∈Z3H,∃ z,p.2=Value.int .i64 z:=by
 intro p hp;simp only [Z3H,Zau,J7,Xz,XU,YaY,YbD,Z1V,XV,XJ,XC,Xb,Xj,or_false,ent] at hp;rcases hp with rfl|rfl|rfl|rfl|rfl|rfl|rfl|rfl|rfl|rfl|rfl|rfl|rfl|rfl|rfl<;>exact ⟨_,rfl⟩
theorem ZfN {x:Sig} (h:¬ ∃ p∈Z3H,p.1=x):Z3I x=0:=by
 unfold Z3I ZfM Z3E;have:Z3H.find? (λp=>decide (p.1=x))=none:=by
  rw [Yar];intro p hp;simpa using λe=>h ⟨p,hp,e⟩
 rw [this]
def Z2z:List Str:=[[110,101,120,116],[112,114,101,118]]
def Z2A:List Str:=[[108,97,116,101,114],[101,97,114,108,105,101,114]]
theorem ZdF:Z1E [110,101,120,116,32,112,114,101,118]=Z2z:=by decide
theorem ZdG:Z1E [108,97,116,101,114,32,101,97,114,108,105,101,114]=Z2A:=by decide
theorem ZbI:Z1E [100,97,121,115,32,119,101,101,107,115,32,109,111,110,116,104,115,32,99,111,117,114,116,100,97,121,115]=J7:=by decide
theorem Z33 {s:Str} {l:List Str}:0<=idx (isS s) l↔s∈l:=by
 unfold idx;cases h:l.findIdx? (isS s) with
 | none=>
   rw [Yad] at h;constructor;intro h0;simp at h0;intro hm;have:=h s hm;simp at this
 | some i=>
   obtain ⟨hi,hp,_⟩:=X9.1 h;constructor;intro _;have:l[i]=s:=by simpa using hp
   rw [<- this];exact Xd _;intro _;simp
def Z6X (s:Str) (l:List Int):Int:=
 if 0<=idx (isS s) Z2z/\Z0e l [3]=true then 3 else if 0<=idx (isS s) Z2A/\Z0e l [3,3]=true then 3 else if s=[98,101,116,119,101,101,110]/\Z0e l [3,3]=true then 1 else 0
def Z4R (k n:Int) (s:Str) (ts:List Int):Int:=
 if ts=[] then Z14 k n s else if ¬ n=0 then 0
 else if k=5 then (if s=[45]/\Z0e ts [1]=true\/s=[110,111,116]/\Z0e ts [2]=true then ts.getD 0 0 else 0)
 else if k=6 then Zar s ts
 else if k=7\/k=8 then (if 0<=idx (isS s) J7/\Z0e ts [3,1]=true then 3 else 0)
 else if k=9 then (if s=[]/\ts.length=3/\Z0e ts [2,ts.getD 1 0,ts.getD 1 0]=true then ts.getD 1 0 else 0)
 else if k=10 then Z6X s ts else 0
theorem ZbJ {l m:List Int}:Z0e l m=true↔l=m/\∀ x∈l,x≠0:=by simp [Z0e]
theorem ZeR {l m:List Int} (h:¬ (l=m/\∀ x∈l,x≠0)):Z0e l m=false:=by simp [Z0e];simpa using h
theorem ZfO (k n:Int) (s:Str) (ts:List Int) (h0:¬ ts=[]) (hb:(0:Int)∈ts\/ts.length > 3):Z4R k n s ts=0:=by
 have aW:∀ m:List Int,m.length<=3->Z0e ts m=false:=λm hm=>ZeR (λ⟨h1,h2⟩=>by
  rcases hb with hb|hb
  exact h2 0 hb rfl;rw [h1] at hb;omega)
 unfold Z4R Zar Z6X;simp only [aW _ (show [(1:Int)].length<=3 by decide),aW _ (show [(2:Int)].length<=3 by decide),aW _ (show [(3:Int)].length<=3 by decide),aW [1,1] (by decide),aW [3,3] (by decide),aW [2,2] (by decide),aW [3,1] (by decide),aW [2,ts.getD 1 0,ts.getD 1 0] (by simp),if_neg h0];simp
theorem ZmQ (s:Str) (a b:Int) (ha:a≠0) (hb:b≠0) (hr:1<=a/\a<=3) (dg:1<=b/\b<=3):Zar s [a,b]=Z1W s a b:=by
 unfold Zar Z1W;simp only [Z33,ZbJ];have e:∀ c d:Int,([a,b]=[c,d]/\∀ x∈[a,b],x≠0)↔(a=c/\b=d):=λc d=>by simp [ha,hb]
 simp only [e];by_cases hA:s∈Z0U;have hC:¬ s∈Z2f:=by
  simp only [Z0U,Xb,Xj,or_false] at hA;rcases hA with rfl|rfl|rfl<;>decide
 have hL:¬ s∈Z0H:=by
  simp only [Z0U,Xb,Xj,or_false] at hA;rcases hA with rfl|rfl|rfl<;>decide
 simp only [hA,hC,hL,true_and,false_and,if_false,if_true];by_cases h1:a=1/\b=1;rw [if_pos h1,if_pos ⟨by omega,by omega⟩];rw [if_neg h1,if_neg (λh=>by omega)];simp only [hA,false_and,if_false];by_cases hC:s∈Z2f;have hL:¬ s∈Z0H:=by
  simp only [Z2f,Xb,Xj,or_false] at hC;rcases hC with rfl|rfl|rfl|rfl|rfl|rfl<;>decide
 simp only [hC,hL,true_and,false_and,if_false,if_true];by_cases h1:a=1/\b=1\/a=3/\b=3;rw [if_pos h1,if_pos ⟨by omega,by omega⟩];rw [if_neg h1,if_neg (λh=>by omega)];simp only [hC,false_and,if_false];by_cases hL:s∈Z0H;simp only [hL,true_and,if_true];by_cases h1:a=2/\b=2;rw [if_pos h1,if_pos ⟨by omega,by omega⟩];rw [if_neg h1,if_neg (λh=>by omega)];simp only [hL,false_and,if_false]
def ZiU:List Sig:=Z3H.map (·.1)
def ZdH (k:Int) (s:Str) (a b c:Int):Int:=
 if c=0 then
  if b=0 then (if k=5/\s=[45]/\a=1 then 1 else if k=5/\s=[110,111,116]/\a=2 then 2 else if k=10/\s∈Z2z/\a=3 then 3 else 0)
  else if a=3/\b=3/\k=10/\s∈Z2A then 3 else if a=3/\b=3/\k=10/\s=[98,101,116,119,101,101,110] then 1 else if a=3/\b=1/\(k=7\/k=8)/\s∈J7 then 3 else 0
 else 0
theorem ZiV:∀ x∈ZiU,Z3I x=ZdH x.kind x.s x.a x.b x.c:=by
 intro x hx;simp only [ZiU,Z3H,Zau,J7,Xz,XU,YaY,YbD,Z1V,XV,XJ,XC,Xb,Xj,or_false,ent] at hx;rcases hx with rfl|rfl|rfl|rfl|rfl|rfl|rfl|rfl|rfl|rfl|rfl|rfl|rfl|rfl|rfl<;>decide
theorem Z7z (k:Int) (s:Str) (a b c:Int):Z3I ⟨k,s,a,b,c⟩=ZdH k s a b c:=by
 by_cases hx:(⟨k,s,a,b,c⟩:Sig)∈ZiU;exact ZiV _ hx;rw [ZfN (λ⟨p,hp,e⟩=>hx (e ▸ Yam hp))];unfold ZdH;symm;split;rename_i hc;subst hc;split;rename_i hb;subst hb;split;rename_i h;obtain ⟨rfl,rfl,rfl⟩:=h;exact absurd (by decide) hx;split;rename_i h;obtain ⟨rfl,rfl,rfl⟩:=h;exact absurd (by decide) hx;split;rename_i h;obtain ⟨rfl,h,rfl⟩:=h;simp only [Z2z,Xb,Xj,or_false] at h;rcases h with rfl|rfl<;>exact absurd (by decide) hx
 rfl;split;rename_i h;obtain ⟨rfl,rfl,rfl,h⟩:=h;simp only [Z2A,Xb,Xj,or_false] at h;rcases h with rfl|rfl<;>exact absurd (by decide) hx
 split;rename_i h;obtain ⟨rfl,rfl,rfl,rfl⟩:=h;exact absurd (by decide) hx;split;rename_i h;obtain ⟨rfl,rfl,h1,h⟩:=h;simp only [J7,Xb,Xj,or_false] at h;rcases h1 with rfl|rfl<;>rcases h with rfl|rfl|rfl|rfl<;>exact absurd (by decide) hx
 rfl;rfl
theorem Zwh {a x:Int} (ha:a≠0):Z0e [a] [x]=decide (a=x):=by simp [Z0e,ha]
theorem Zwi {a b x y:Int} (ha:a≠0) (hb:b≠0):Z0e [a,b] [x,y]=decide (a=x/\b=y):=by simp [Z0e,ha,hb]
theorem Zwj {a b c x y z:Int} (ha:a≠0) (hb:b≠0) (hc:c≠0):Z0e [a,b,c] [x,y,z]=decide (a=x/\b=y/\c=z):=by simp [Z0e,ha,hb,hc]
theorem JQ {l m:List Int} (h:¬ l.length=m.length):Z0e l m=false:=ZeR (λh'=>h (by rw [h'.1]))
theorem ZiW (k n:Int) (s:Str) (ts:List Int) (hr:∀ t∈ts,0<=t/\t<=3):Z4R k n s ts=JF k n s ts:=by
 by_cases h0:ts=[]
 subst h0;simp [Z4R,JF];by_cases hb:(0:Int)∈ts\/ts.length > 3;rw [ZfO k n s ts h0 hb];unfold JF;rcases hb with hb|hb
 simp [hb];simp [show ts.length > 3 from hb];have hz:¬ (0:Int)∈ts:=λh=>hb (.inl h);have hl:¬ ts.length > 3:=λh=>hb (.inr h);unfold Z4R JF;rw [if_neg h0,if_neg hl,if_neg hz,if_neg h0];by_cases hn:¬ n=0;rw [if_pos hn,if_pos hn];rw [if_neg hn,if_neg hn]
 match ts,h0,hl with
 | [a], _, _=>
   have ha:a≠0:=λe=>hz (by simp [e])
   have dI:=hr a (by simp);simp only [XZ,Yao,List.getD_nil,Z7z,Z6X,Zar,Z33,Zwh ha,JQ (show ¬ [a].length=[(1:Int),1].length by simp),JQ (show ¬ [a].length=[(3:Int),3].length by simp),JQ (show ¬ [a].length=[(2:Int),2].length by simp),JQ (show ¬ [a].length=[(3:Int),1].length by simp),decide_eq_true_eq];have lX:Z1W s a 0=0:=by
    unfold Z1W;have h1:¬ (a=0/\a=1):=λh=>ha h.1;have h2:¬ (a=0/\¬ a=2):=λh=>ha h.1;have h3:¬ (a=0/\a=2):=λh=>ha h.1;simp only [if_neg h1,if_neg h2,if_neg h3,ite_self]
   simp only [lX,ZdH,Xe,Xg,XS,and_false,or_self,if_false]
   grind (splits:=40)
 | [a, b], _, _=>
   have ha:a≠0:=λe=>hz (by simp [e])
   have hb:b≠0:=λe=>hz (by simp [e])
   have dI:=hr a (by simp);have uU:=hr b (by simp);simp only [XZ,Yao,List.getD_nil,Z7z,Z6X,ZmQ s a b ha hb (by omega) (by omega),Z33,Zwi ha hb,JQ (show ¬ [a,b].length=[(1:Int)].length by simp),JQ (show ¬ [a,b].length=[(2:Int)].length by simp),JQ (show ¬ [a,b].length=[(3:Int)].length by simp),decide_eq_true_eq];simp only [ZdH,Xe,Xg,XS,and_false,or_self,if_false]
   grind (splits:=40)
 | [a, b, c], _, _=>
   have ha:a≠0:=λe=>hz (by simp [e])
   have hb:b≠0:=λe=>hz (by simp [e])
   have hc:c≠0:=λe=>hz (by simp [e])
   have dI:=hr a (by simp);have uU:=hr b (by simp);have xW:=hr c (by simp);simp only [XZ,Yao,Z7z,Z6X,Zar,Z33,Zwj ha hb hc,JQ (show ¬ [a,b,c].length=[(1:Int)].length by simp),JQ (show ¬ [a,b,c].length=[(2:Int)].length by simp),JQ (show ¬ [a,b,c].length=[(3:Int)].length by simp),JQ (show ¬ [a,b,c].length=[(1:Int),1].length by simp),JQ (show ¬ [a,b,c].length=[(3:Int),3].length by simp),JQ (show ¬ [a,b,c].length=[(2:Int),2].length by simp),JQ (show ¬ [a,b,c].length=[(3:Int),1].length by simp),decide_eq_true_eq];simp only [ZdH,Xe,Xg,XS,and_false,or_self,if_false]
   grind (splits:=40)
 | _ :: _ :: _ :: _ :: _,_,hl=>exact absurd (by simp) hl
theorem ZbK (k n:Int) (s:Str):0<=Z14 k n s/\Z14 k n s<=3:=by
 have h:0<=(ZT s).2.1/\(ZT s).2.1<=3:=by
  unfold ZT;dsimp only;split;simp;split<;>simp
 unfold Z14
 grind
theorem ZbL (k n:Int) (s:Str) (ts:List Int) (hr:∀ t∈ts,0<=t/\t<=3):0<=JF k n s ts/\JF k n s ts<=3:=by
 unfold JF;split;omega;split;omega;split;exact ZbK _ _ _;split;omega;have hg:∀ i,0<=ts.getD i 0/\ts.getD i 0<=3:=by
  intro i;by_cases hi:i<ts.length;have:=hr ts[i] (Xd hi);simpa [List.getD,hi] using this;simp [List.getD,YaV (YbA hi)]
 split;exact hg 1;split;unfold Z1W;split;split<;>omega
 split;split<;>omega
 split;split<;>omega
 omega;rw [Z7z];unfold ZdH
 grind
theorem Z3J (x:Nd):0<=Zf x/\Zf x<=3:=by
 induction x using Nd.ind with
 | h k n s l ih=>
 rw [Z0I];refine ZbL _ _ _ _ (λt ht=>?_);obtain ⟨y,hy,rfl⟩:=XG.1 ht;exact ih y hy
theorem ZeS (x:Nd):Zf x=Z4R x.kind x.num x.word (x.kids.map Zf):=by
 rw [Z0I,ZiW];intro t ht;obtain ⟨y,hy,rfl⟩:=XG.1 ht;exact Z3J y
def ZA:Nd->Nat
 | .mk k n s l=>1+(l.map ZA).foldl max 0
theorem Z0J (x:Nd):ZA x=1+(x.kids.map ZA).foldl max 0:=by
 cases x;rw [ZA];rfl
theorem Z5v (l:List Nat):∀ (m b:Nat),l.foldl max m<=b↔m<=b/\∀ x∈l,x<=b:=by
 induction l with
 | nil=>intro m b;simp
 | cons y r ih=>
   intro m b;rw [X2,ih];simp only [Xb,forall_eq_or_imp];constructor;rintro ⟨h1,h2⟩;exact ⟨by omega,by omega,h2⟩;rintro ⟨h1,h2,h3⟩;exact ⟨by omega,h3⟩
theorem ZdI (m:Nat):∀ x:Nd,Z19 m x=decide (ZA x<=m):=by
 induction m with
 | zero=>
   intro x;rw [Z0J];simp [Z19]
 | succ m ih=>
   intro x;rw [Z0J];have e:(1+(x.kids.map ZA).foldl max 0<=m+1)↔∀ y∈x.kids,ZA y<=m:=by
    rw [show (1+(x.kids.map ZA).foldl max 0<=m+1)↔(x.kids.map ZA).foldl max 0<=m by omega,Z5v];simp
   rw [X7,decide_eq_true_iff,e];simp only [Z19,X0];exact ⟨λh y hy=>by have:=h y hy;rw [ih] at this;simpa using this,λh y hy=>by rw [ih];simpa using h y hy⟩
theorem ZbM {x y:Nd} (h:y∈x.kids):ZA y<ZA x:=by
 rw [Z0J x];have:=(Z5v (x.kids.map ZA) 0 ((x.kids.map ZA).foldl max 0)).1 (Xn _);have:=this.2 (ZA y) (Yam h);omega
theorem ZbN (x:Nd):∀ (X:List Nat) (v:Value) (w),ZA x<=1000000->NdV X w v x->
 CC 184 #[v] w λr w'=>r=.I (ZA x:Int)/\Stp [] w w':=by
 induction x using Nd.ind with
 | h k n s l ih=>
 intro X v w hb hx;generalize iU:Nd.mk k n s l=x at *;have ih':∀ y∈x.kids,∀ (X:List Nat) (v:Value) (w:World),ZA y<=1000000->NdV X w v y->CC 184 #[v] w λr w'=>r=.I (ZA y:Int)/\Stp [] w w':=by
  subst iU;exact ih
 clear ih iU k n s l;obtain ⟨kv,rfl,hs⟩:=hx;have aS:=hs.max;refine cW1 22 Tryz.func184 ?_;refine W ?_;refine Z0 (Zr rfl) rfl ?_;rintro _ w1 ⟨b,rfl,lY,ac,hS⟩;replace ac:Blk w1 b _ (ndC x kv):=ac;replace hs:=hs.up hS;refine W ?_;have aX:=hs;have ix:=ac;refine LP (σ:=Nat) (λk=>[(1,pQ b),(3,.I ((((x.kids.take k).map ZA).foldl max 0:Nat):Int)),(4,.I k)]) (λk w'=>k<=x.kids.length/\Stp [] w1 w') (λk=>x.kids.length - k) 0 ⟨Xq _,Stp.refl _ _⟩ ?_;clear hs ac;rintro k w2 ⟨hk,ah⟩;have hs:=aX.up ah;have ac:=ix.up ah;by_cases hlt:k<x.kids.length;obtain ⟨kv2,bq,cq⟩:=hs.nd hlt;have uV:=ZbM (Xd hlt);refine QO ?_;apply Z8 (JG rfl rfl hs hlt cq) rfl;refine CM (ZR rfl) (ih' x.kids[k] (Xd hlt) X _ _ (by omega) ⟨kv2,rfl,bq⟩) ?_;rintro _ w3 ⟨rfl,ak⟩;refine W ?_;refine Zx (k+1) ⟨rfl,?_,rfl,trivial⟩ ⟨hlt,ah.trans ak⟩ (by omega);rw [Xk hlt,XP,YaI];show some _=some _;congr 2;simp only [Xz,XU,X2,List.foldl_nil];omega;have eI:k=x.kids.length:=by omega
 subst eI;have hn:=Z0J x;rw [Xp];refine QO ?_;refine WR ?_;refine .mk ⟨?_,hS.trans ah⟩;rw [hn];congr 1
theorem ZiX (X XF:List Nat) (v:Value) (x:Nd) (w) (hx:NdV X w v x) (hF:SlV XF w Z2e Ze) :
 CC 169 #[v] w λr w'=>r=.tuple #[.I (if ZA x<=12 then Zf x else 0),.I (if ZA x<=12 then (if Zf x=0 then 21 else 0) else 2)]/\Stp [] w w':=by
 obtain ⟨kv,rfl,hs⟩:=hx;refine cW1 13 Tryz.func169 ?_;refine W ?_;refine Z0 (Zr rfl) rfl ?_;rintro _ w1 ⟨b,rfl,lY,ac,hS⟩;replace ac:Blk w1 b _ (ndC x kv):=ac;replace hs:=hs.up hS;replace hF:=hF.up hS;refine W ?_;refine CM (Zd rfl rfl) (Zdv 12 X _ x 12 _ rfl (by omega) ⟨kv,rfl,hs⟩) ?_;rintro _ w2 ⟨rfl,ah⟩;replace hs:=hs.up ah;replace hF:=hF.up ah;replace ac:=ac.up ah;replace hS:=hS.trans ah;rw [ZdI];by_cases hn:ZA x<=12;rw [decide_eq_true hn,if_pos hn,if_pos hn];refine W ?_;refine CL (ZsZ x X XF _ _ ⟨kv,rfl,hs⟩ hF) ?_;rintro _ w3 ⟨rfl,ak⟩;replace hS:=hS.trans ak
 (refine QP ?_ ?_<;>intro hc)
 refine RU ?_;exact ⟨by rw [if_neg hc],hS⟩;refine WR ?_;have h0:Zf x=0:=by omega
 exact .mk ⟨by rw [if_pos h0,h0],hS⟩;rw [decide_eq_false hn,if_neg hn,if_neg hn];refine RT ?_;exact ⟨rfl,hS⟩
theorem ZdJ (X:List Nat) (s:Str) (u:Value) (l:List Int) (w) (hl:SlV X w u l) :
 CC 246 #[str s,u] w λr w'=>r=.I (Z6X s l)/\Stp [] w w':=by
 refine cW2 33 Tryz.func246 ?_;refine W ?_;refine Z0 (Z1 (vs:=[(0,.I 3),(1,.I 3)]) rfl (Z03 _ _)) rfl ?_;rintro a3 w3 hN;have ha:=hN.slv (X:=[]) (ys:=[(3:Int),3]) (by simp) rfl rfl (by simp [maxLen]);have hS:=Z9.stp hN;clear hN;replace hl:=hl.up hS;refine CL (Z1F _ _ _ _ _ _ _ hl ha) ?_;rintro _ w4 ⟨rfl,aJ⟩;replace hl:=hl.up aJ;replace hS:=hS.trans aJ;clear ha;unfold Z6X;generalize Z0e l [3,3]=p3;refine W ?_;refine CM (ZR rfl) (Z13 [] [110,101,120,116,32,112,114,101,118] _ (by simp) (by decide)) ?_;rintro _ w5 ⟨hr,aD⟩;rw [ZdF] at hr;replace hl:=hl.up aD;replace hS:=hS.trans aD;refine W ?_;refine CL (Z0a [] _ _ s _ hr.slv0) ?_;rintro _ w6 ⟨rfl,di⟩;replace hl:=hl.up di;replace hS:=hS.trans di;generalize idx (isS s) Z2z=i1;clear hr;have rest:∀ (w:World) (Q:Exit->Act->World->Prop),True:=λ_ _=>trivial;by_cases hi:0<=i1;all_goals (refine QO ?_)
 all_goals first
  | (refine Z0 (Z1 (vs := [(0, .I 3)]) rfl (Zt _)) rfl ?_
     rintro a1 w7 hN;have ha:=hN.slv (X:=[]) (ys:=[(3:Int)]) (by simp) rfl rfl (by simp [maxLen]);have aQ:=Z9.stp hN;clear hN;replace hl:=hl.up aQ;replace hS:=hS.trans aQ;refine W ?_;refine CL (Z1F _ _ _ _ _ _ _ hl ha) ?_;rintro _ w8 ⟨rfl,cK⟩;replace hl:=hl.up cK;replace hS:=hS.trans cK;generalize Z0e l [3]=p1;cases p1)
  | generalize Z0e l [3]=p1
 all_goals (repeat'(first|refine W1 ?_|omega|refine VG ?_ ?_<;>intro hg|refine VC ?_ ?_<;>intro hc))
 all_goals first
  | (refine RU ?_
     exact ⟨by simp [hi],hS⟩)
  | (refine CM (ZR rfl) (Z13 [] [108, 97, 116, 101, 114, 32, 101, 97, 114, 108, 105, 101, 114] _ (by simp) (by decide)) ?_
     rintro _ w9 ⟨hr,gu⟩;rw [ZdG] at hr;replace hl:=hl.up gu;replace hS:=hS.trans gu;refine W ?_;refine CL (Z0a [] _ _ s _ hr.slv0) ?_;rintro _ w10 ⟨rfl,d9⟩;replace hS:=hS.trans d9;generalize idx (isS s) Z2A=i2;clear hr)
 all_goals by_cases cn:0<=i2
 all_goals cases p3
 all_goals by_cases hs:s=[98,101,116,119,101,101,110]
 all_goals (repeat'(first|refine W1 ?_|omega|refine VG ?_ ?_<;>intro hg|refine VC ?_ ?_<;>intro hc))
 all_goals try contradiction
 all_goals (refine WR ?_)
 all_goals exact .mk ⟨by simp [hi,cn,hs],hS⟩
def okN:Nd->Bool
 | .mk k n s l=>decide (l.length<=1000) && (l.map okN).all id
theorem ZeT (x:Nd):okN x=true↔x.kids.length<=1000/\∀ y∈x.kids,okN y=true:=by
 cases x;rw [okN];simp [Nd.kids]
abbrev ndL (k n:Int) (s:Str) (kv:Value):List Value:=[.I k,.I n,str s,kv]
theorem ZfP (x:Nd):∀ (X:List Nat) (v:Value) (w),okN x=true->NdV X w v x->
 CC 185 #[v] w λr w'=>r=.I (Zf x)/\Stp [] w w':=by
 induction x using Nd.ind with
 | h k n s l ih=>
 intro X v w aO hx;obtain ⟨bH,dc⟩:=(ZeT _).1 aO;replace bH:l.length<=1000:=bH;replace dc:∀ y∈l,okN y=true:=dc;obtain ⟨kv,rfl,hs⟩:=hx;replace hs:SlV X w kv l:=hs;rw [ZeS];show Calls _ _ _ _ (Ret λr w'=>r=.I (Z4R k n s (l.map Zf))/\Stp [] w w');refine cW1 104 Tryz.func185 ?_;refine W ?_;refine Z0 (Zr rfl) rfl ?_;rintro _ w1 ⟨b,rfl,lY,ac,hS⟩;replace ac:Blk w1 b _ (ndL k n s kv):=ac;replace hs:=hs.up hS
 (refine QP ?_ ?_<;>intro hc)
 refine CL (Zdy X _ (.mk k n s l) _ ⟨kv,rfl,hs⟩) ?_;rintro _ w2 ⟨rfl,ah⟩;refine W ?_;refine WR ?_;have cB:l=[]:=Xw.1 (by omega);subst cB;exact .mk ⟨by simp [Z4R];rfl,hS.trans ah⟩;have aU:¬ l.map Zf=[]:=by
  intro h;have:=congrArg List.length h;simp at this;subst this;simp at hc
 have ai:(l.map Zf).length=l.length:=by simp
 have cG:∀ i (h:i<l.length) (h':i<(l.map Zf).length),(l.map Zf)[i]=Zf l[i]:=by intro i h h';simp
 generalize ce:l.map Zf=ts at *;refine Z0j (σ:=Value) (λu=>[(1,pQ b),(3,u)]) (λu w'=>SlV [] w' u ts/\Stp [] w1 w') ?_ ?_;have aX:=hs;have ix:=ac;have eK:w1.heap.size<=w1.heap.size:=Xn _;refine LP (σ:=Nat×Value) (λq=>[(1,pQ b),(3,q.2),(4,.I (q.1:Int))]) (λq w'=>q.1<=l.length/\Row [] w' w1.heap.size 3 q.2 (ts.take q.1)/\Stp [] w1 w') (λq=>l.length - q.1) (0,.N) ⟨Xq _,Row.nil,Stp.refl _ _⟩ ?_;clear hs ac;rintro ⟨j,u⟩ w2 ⟨hj,ab,ah⟩;dsimp only at hj ab ⊢;have hs:=aX.up ah;have ac:=ix.up ah;by_cases hlt:j<l.length;obtain ⟨kv2,bq,cq⟩:=hs.nd hlt;refine QO ?_;apply Z8 (JG rfl rfl hs hlt cq) rfl;refine CL (ih l[j] (Xd hlt) X _ _ (dc _ (Xd hlt)) ⟨kv2,rfl,bq⟩) ?_;rintro _ w3 ⟨rfl,ak⟩;replace ab:=ab.up ak;replace ah:=ah.trans ak;refine W ?_;refine Z0 (Z1 (vs:=[(0,.I (Zf l[j]))]) rfl (Zt _)) rfl ?_;rintro bv w4 hN;have aq:SlV (ob u++[]) w4 bv [Zf l[j]]:=hN.slv (λb hb=>(ab.ob_le b (by simpa using hb)).2) rfl rfl (by simp [maxLen]);have aJ:=Z9.stp hN;clear hN;replace ab:=ab.up aJ;replace ah:=ah.trans aJ;have aZ:=ah.size;have eJ:(ts.take j).length<=1000:=by rw [Xx];omega
 refine Z0 (ZF (X:=[]) (base:=w1.heap.size) rfl (by decide) rfl rfl ab aq (by simp only [Xe,Xg];omega) (by simp only [Xe,Xg,maxLen];omega) aZ) rfl ?_;rintro u' w5 ⟨aC,aD,_⟩;refine W ?_;refine QL (j+1,u') ⟨by dsimp only;omega,?_,ah.own aD (λc hc=>.inr (ab.ob_le c hc).1)⟩ (by dsimp only;omega);dsimp only;rw [Xk (by omega),cG j hlt];exact aC;have ea:j=l.length:=by omega
 subst ea;rw [<- ai,Xp] at ab;refine QO ?_;exact QT u ⟨ab.slv0,ah⟩;rintro u w2 ⟨hu,ah⟩;replace ac:=ac.up ah;replace hS:=hS.trans ah;have mR:1<=ts.length:=by
  cases ts with
  | nil=>exact absurd rfl aU
  | cons=>simp
 clear cG ce hs;have h0:∀ (h:0<ts.length),ts.getD 0 0=ts[0]:=λh=>by simp [List.getD,h]
 have h1:∀ (h:1<ts.length),ts.getD 1 0=ts[1]:=λh=>by simp [List.getD,h]
 unfold Z4R;rw [if_neg aU];refine W ?_;by_cases hn:¬ n=0;rw [if_pos hn];refine RT ?_;exact ⟨rfl,hS⟩;rw [if_neg hn];by_cases k5:k=5;subst k5;rw [if_pos rfl];have cB:0<ts.length:=by omega
 by_cases hm:s=[45]\/s=[110,111,116]
 have fin:∀ (z:Int) (p:Bool),(s=[45]/\z=1\/s=[110,111,116]/\z=2)->Z0e ts [z]=p->(if s=[45]/\Z0e ts [1]=true\/s=[110,111,116]/\Z0e ts [2]=true then ts.getD 0 0 else 0)=if p then ts.getD 0 0 else 0:=by
  rintro z p (⟨rfl,rfl⟩|⟨rfl,rfl⟩) hp<;>simp [hp]
 rcases hm with rfl|rfl
 . refine QO ?_
   refine Z0 (Z1 (vs:=[(0,.I 1)]) rfl (Zt _)) rfl ?_;rintro a1 w7 hN;have ha:=hN.slv (X:=[]) (ys:=[(1:Int)]) (by simp) rfl rfl (by simp [maxLen]);have aQ:=Z9.stp hN;clear hN;replace hu:=hu.up aQ;replace ac:=ac.up aQ;replace hS:=hS.trans aQ;refine W ?_;refine CL (Z1F _ _ _ _ _ _ _ hu ha) ?_;rintro _ w8 ⟨rfl,cK⟩;replace hu:=hu.up cK;replace ac:=ac.up cK;replace hS:=hS.trans cK;rw [fin 1 _ (.inl ⟨rfl,rfl⟩) rfl];cases Z0e ts [1] with
   | true=>
     refine QO ?_;refine WR ?_;refine .mk ⟨?_,hS⟩;rw [if_pos rfl,h0 mR]
   | false=>
     refine RT ?_;exact ⟨rfl,hS⟩
 . refine QO ?_
   refine Z0 (Z1 (vs:=[(0,.I 2)]) rfl (Zt _)) rfl ?_;rintro a1 w7 hN;have ha:=hN.slv (X:=[]) (ys:=[(2:Int)]) (by simp) rfl rfl (by simp [maxLen]);have aQ:=Z9.stp hN;clear hN;replace hu:=hu.up aQ;replace ac:=ac.up aQ;replace hS:=hS.trans aQ;refine W ?_;refine CL (Z1F _ _ _ _ _ _ _ hu ha) ?_;rintro _ w8 ⟨rfl,cK⟩;replace hu:=hu.up cK;replace hS:=hS.trans cK;rw [fin 2 _ (.inr ⟨rfl,rfl⟩) rfl];cases Z0e ts [2] with
   | true=>
     refine QO ?_;refine WR ?_;refine .mk ⟨?_,hS⟩;rw [if_pos rfl,h0 mR]
   | false=>
     refine RT ?_;exact ⟨rfl,hS⟩
 . have ig:¬ s=[45]:=λh=>hm (.inl h)
   have eW:¬ s=[110,111,116]:=λh=>hm (.inr h);rw [if_neg (by rintro (⟨h,_⟩|⟨h,_⟩)<;>contradiction)];repeat'(first|refine W1 ?_|omega|refine VG ?_ ?_<;>intro hg|refine VC ?_ ?_<;>intro hc)
   all_goals try contradiction
   refine RU ?_;exact ⟨rfl,hS⟩
 rw [if_neg k5];by_cases k6:k=6;subst k6;rw [if_pos rfl];refine QO ?_;refine CL (Zas [] s u ts _ hu) ?_;rintro _ w3 ⟨rfl,ak⟩;refine RT ?_;exact ⟨rfl,hS.trans ak⟩;rw [if_neg k6];by_cases k78:k=7\/k=8
 . rw [if_pos k78]
   have n9:¬ k=9:=by omega
   have n10:¬ k=10:=by omega
   (refine QP ?_ ?_<;>intro hc)
   all_goals
    refine ZDr 10 [] [] [(1,0),(2,1),(0,2),(3,2),(4,0),(5,0),(6,0),(7,2),(8,2),(9,0)] (λw1 ae=>?_);replace hu:=hu.up ae;replace ac:=ac.up ae;replace hS:=hS.trans ae;refine D ?_;refine Za rfl trivial (Z4 rfl (ZR rfl) (Z13 [] [100,97,121,115,32,119,101,101,107,115,32,109,111,110,116,104,115,32,99,111,117,114,116,100,97,121,115] _ (by simp) (by decide))) (λ_ _ h=>h.2) rfl ?_;rintro _ w5 ⟨hr,aD⟩;rw [ZbI] at hr;replace hu:=hu.up aD;replace hS:=hS.trans aD;refine DC (Z0a [] _ _ s _ hr.slv0) (λ_ _ h=>h.2) ?_;rintro _ w6 ⟨rfl,di⟩;replace hu:=hu.up di;replace hS:=hS.trans di;generalize idx (isS s) J7=i1;by_cases hi:0<=i1;refine QD ?_;refine Za rfl rfl (Z1 (vs:=[(0,.I 3),(1,.I 1)]) rfl (Z03 _ _)) (λ_ _ h=>Z9.stp h) rfl ?_;rintro a1 w7 hN;have ha:=hN.slv (X:=[]) (ys:=[(3:Int),1]) (by simp) rfl rfl (by simp [maxLen]);have aQ:=Z9.stp hN;clear hN;replace hu:=hu.up aQ;replace hS:=hS.trans aQ;refine DC (Z1F _ _ _ _ _ _ _ hu ha) (λ_ _ h=>h.2) ?_;rintro _ w8 ⟨rfl,cK⟩;replace hS:=hS.trans cK;generalize Z0e ts [3,1]=p;cases p;refine D ?_;refine RT ?_;exact ⟨by simp,hS⟩;refine D ?_;refine RT ?_;exact ⟨by simp [hi],hS⟩;refine QD ?_;refine RT ?_;exact ⟨by simp [hi],hS⟩
 rw [if_neg k78];by_cases k9:k=9;subst k9;rw [if_pos rfl];refine QO ?_;refine ZDr 19 [] [] [(0,0),(1,1),(2,0),(3,0),(4,0),(5,0),(6,0),(7,0),(8,0),(9,0),(10,0),(11,0),(12,1),(13,0),(14,0),(15,1),(16,2),(17,2),(18,0)] (λw1 ae=>?_);replace hu:=hu.up ae;replace ac:=ac.up ae;replace hS:=hS.trans ae;have oJ:=hu.max;by_cases hs:s=[]
 subst hs;by_cases h3:ts.length=3;have fj:1<ts.length:=by omega
 have jU:=h1 fj;refine QD ?_;refine Za rfl rfl (Z1 (vs:=[(0,.I 2),(1,.I _),(2,.I _)]) rfl (ZiP _ _ _)) (λ_ _ h=>Z9.stp h) rfl ?_;rintro a1 w7 hN;have ha:=hN.slv (X:=[]) (ys:=[(2:Int),ts[1],ts[1]]) (by simp) rfl rfl (by simp [maxLen]);have aQ:=Z9.stp hN;clear hN;replace hu:=hu.up aQ;replace hS:=hS.trans aQ;refine DC (Z1F _ _ _ _ _ _ _ hu ha) (λ_ _ h=>h.2) ?_;rintro _ w8 ⟨rfl,cK⟩;replace hu:=hu.up cK;replace hS:=hS.trans cK;rw [jU];cases hp:Z0e ts [2,ts[1],ts[1]];refine D ?_;refine RT ?_;exact ⟨by simp,hS⟩;refine D ?_;refine RT ?_;exact ⟨by simp [h3],hS⟩;refine QD ?_;refine RT ?_;exact ⟨by simp [h3],hS⟩
 . repeat'(first|refine D1 ?_|omega|refine Zk rfl rfl rfl rfl (λhg=>?_) (λhg=>?_)|(refine Zh rfl rfl rfl rfl (λhg=>?_) (λhg=>?_)<;>refine D1 ?_)|fail)
   all_goals try contradiction
   refine RT ?_;exact ⟨by simp [hs],hS⟩
 rw [if_neg k9];by_cases k10:k=10;subst k10;rw [if_pos rfl];refine QO ?_;refine CL (ZdJ [] s u ts _ hu) ?_;rintro _ w3 ⟨rfl,ak⟩;refine RT ?_;exact ⟨rfl,hS.trans ak⟩;rw [if_neg k10];refine RT ?_;exact ⟨rfl,hS⟩
end Go.Proofs.YtipfkbkkndacjaaGreatDoor
