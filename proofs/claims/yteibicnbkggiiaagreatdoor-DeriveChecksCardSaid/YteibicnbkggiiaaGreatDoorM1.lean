/-
Contracts and plain laws, merged out of own texts.
-/
import Derived.WalkKit
import Derived.WalkSpells
import Derived.WalkLawsBesides
import Derived.Shelf.Abstract
import Derived.Orders
import Derived.Test.YteibicnbkggiiaaGreatDoorRows
import Derived.Laws.StructEq
import Derived.Laws.Small
import Derived.MapKept
import Derived.ChangeKeysEq
set_option linter.unusedVariables false
set_option linter.unusedSimpArgs false
set_option maxHeartbeats 4000000
set_option maxRecDepth 20000
namespace Go
abbrev Xa:=@Bool.and_eq_true
abbrev Xb:=@List.getElem_mem
abbrev Xc:=@Nat.lt_of_lt_of_le
abbrev Xd:=@List.mem_append
abbrev Xe:=@Nat.le_of_ble_eq_true
abbrev Xf:=@List.length_append
abbrev Xg:=@List.mem_cons
abbrev Xh:=@List.length_cons
abbrev Xi:=@Option.some.injEq
abbrev Xj:=@List.length_nil
abbrev Xk:=@Nat.eq_of_beq_eq_true
abbrev Xl:=@Nat.le_trans
abbrev Xm:=@List.not_mem_nil
abbrev Xn:=@List.mem_singleton
abbrev Xo:=@Nat.zero_le
abbrev Xp:=@Nat.sub_lt_sub_left
abbrev Xq:=@Nat.le_refl
abbrev Xr:=@Nat.lt_succ_self
abbrev Xs:=@Nat.not_lt_zero
abbrev Xt:=@Nat.mul_le_mul_right
abbrev Xu:=@List.getElem?_eq_some_iff
abbrev Xv:=@List.getElem_of_mem
abbrev Xw:=@List.take_succ_eq_append_getElem
abbrev Xx:=@Array.getElem?_eq_some_iff
abbrev Xy:=@List.all_eq_true
abbrev Xz:=@List.map_cons
abbrev XA:=@List.length_take
abbrev XB:=@Option.map_eq_some_iff
abbrev XC:=@Prod.mk.injEq
abbrev XD:=@Array.getD_eq_getD_getElem?
abbrev XE:=@List.append_nil
abbrev XG:=@List.take_length
abbrev XH:=@List.nil_append
abbrev XI:=@List.drop_eq_getElem_cons
abbrev XJ:=@List.getD_eq_getElem?_getD
abbrev XK:=@Array.toArray_toList
abbrev XL:=@Nat.zero_add
abbrev XM:=@List.append_assoc
abbrev XN:=@Nat.ble_eq_true_of_le
abbrev XO:=@List.mem_map
abbrev XP:=@List.getElem?_eq_getElem
abbrev XQ:=@List.cons.inj
abbrev XR:=@List.map_append
abbrev XS:=@Int.toNat_of_nonneg
abbrev XT:=@Option.some.inj
abbrev XU:=@List.cons_append
abbrev XV:=@List.take_of_length_le
abbrev XW:=@List.mem_cons_of_mem
abbrev XX:=@Option.isSome_iff_exists
abbrev XY:=@List.take_append_drop
abbrev XZ:=@List.mem_of_find?_eq_some
abbrev X0:=@List.length_set
abbrev X1:=@List.length_map
abbrev X3:=@List.findIdx?_eq_some_iff_getElem
abbrev X4:=@List.length_drop
abbrev X5:=@Array.length_toList
abbrev X6:=@List.map_nil
abbrev X7:=@List.length_eq_zero_iff
abbrev X8:=@List.map_map
abbrev X9:=@List.findIdx?_eq_none_iff
abbrev Yaa:=@List.size_toArray
abbrev Yab:=@Bool.eq_false_iff
abbrev Yac:=@List.getElem?_map
abbrev Yad:=@Nat.succ_mul
abbrev Yae:=@List.mem_of_mem_drop
abbrev Yaf:=@Option.bind_eq_some_iff
abbrev Yag:=@List.any_eq_true
abbrev Yah:=@Bool.true_and
abbrev Yai:=@List.getElem_set_ne
abbrev Yaj:=@List.mem_map_of_mem
abbrev Yak:=@List.getD_cons_zero
abbrev Yal:=@List.getD_cons_succ
abbrev Yam:=@List.length_pos_iff
abbrev Yan:=@Nat.min_eq_left
abbrev Yao:=@List.getElem?_append_left
abbrev Yap:=@List.getElem?_take
abbrev Yaq:=@Bool.false_eq_true
abbrev Yar:=@List.drop_length
abbrev Yas:=@List.flatten_cons
abbrev Yat:=@List.drop_eq_nil_of_le
abbrev Yau:=@Array.getElem?_append_left
abbrev Yav:=@Bool.beq_eq_decide_eq
abbrev Yaw:=@List.getElem_set_self
abbrev Yax:=@List.pairwise_iff_getElem
abbrev Yay:=@List.mem_of_mem_take
abbrev Yaz:=@Int.toNat_natCast
abbrev YaA:=@Nat.add_assoc
abbrev YaB:=@Array.getElem?_setIfInBounds_ne
abbrev YaC:=@List.take_append
abbrev YaD:=@List.take_take
abbrev YaE:=@List.getElem?_cons_succ
abbrev YaF:=@Option.getD_some
abbrev YaG:=@Bool.false_and
abbrev YaH:=@Int.le_refl
abbrev YaI:=@List.eq_nil_of_length_eq_zero
abbrev YaJ:=@Int.emod_lt_of_pos
abbrev YaK:=@Nat.not_lt
abbrev YaL:=@List.findIdx?_cons
abbrev YaM:=@List.find?_eq_none
abbrev YaN:=@Nat.add_sub_cancel
abbrev YaO:=@Array.getElem?_toList
abbrev YaP:=@Bool.not_eq_true'
abbrev YaQ:=@Nat.le_of_not_lt
abbrev YaR:=@List.ext_getElem
abbrev YaS:=@List.getElem_append_right
abbrev YaT:=@List.mem_or_eq_of_mem_set
abbrev YaU:=@List.map_congr_left
abbrev YaV:=@List.getElem_append_left
abbrev YaW:=@Int.emod_nonneg
abbrev YaX:=@Bool.eq_iff_iff
abbrev YaY:=@List.mem_filter
abbrev YaZ:=@List.mem_cons_self
abbrev Ya0:=@List.append_eq_nil_iff
abbrev Ya1:=@List.length_filter_le
abbrev Ya2:=@List.flatMap_def
abbrev Ya3:=@List.pairwise_append
abbrev Ya4:=@Bool.or_eq_true
abbrev Ya5:=@List.cons.injEq
abbrev Ya6:=@List.find?_some
abbrev Ya7:=@List.foldl_cons
abbrev Ya8:=@List.flatMap_append
abbrev Ya9:=@List.replicate_succ
abbrev Yba:=@Nat.add_zero
abbrev Ybb:=@List.getElem?_drop
abbrev Ybc:=@Int.emod_eq_of_lt
abbrev Ybd:=@List.flatMap_cons
abbrev Ybe:=@Bool.false_or
abbrev Ybf:=@List.map_drop
abbrev Ybg:=@List.map_take
abbrev Ybh:=@Nat.lt_irrefl
abbrev Ybi:=@Nat.min_eq_right
abbrev Ybj:=@List.map_toArray
abbrev Ybk:=@List.flatMap_nil
abbrev Ybl:=@Nat.lt_or_ge
abbrev Ybm:=@List.set_append
abbrev Ybn:=@Int.natCast_add
abbrev Ybo:=@Option.map_none
abbrev Ybp:=@List.drop_zero
abbrev Ybq:=@List.drop_take
abbrev Ybr:=@Bool.and_false
abbrev Ybs:=@Nat.le_succ
abbrev Ybt:=@Nat.mul_le_mul
end Go
namespace Go.Eng
open Go Go.RowKit Go.Proofs
abbrev Env:=List (Nat×Value)
def look:Env->Nat->Option Value
 | [],_=>none
 | (k,v) :: r,t=>bif Nat.beq k t then some v else look r t
def ev (e:Env):Operand->Option Value
 | .tmp t=>look e t
 | .const v=>some v
 | .global g=>some (.pointer (some ⟨g,0,none⟩))
 | .func f=>some (.func (.func f) #[] #[])
structure Has (n:Nat) (e:Env) (a:Act):Prop where
 defers:a.defers=[]
 size:a.tmps.size=n
 vals:∀ t v,look e t=some v->a.tmps.getD t undef=v
section basics
variable {n:Nat} {e:Env} {a:Act}
theorem Has.ev {x:Operand} {v:Value} (h:Has n e a) (hx:ev e x=some v):a.eval x=v:=by
 cases x with
 | tmp t=>exact h.vals t v hx
 | const c=>simpa [Eng.ev,Act.eval] using hx
 | global g=>simpa [Eng.ev,Act.eval] using hx
 | func f=>simpa [Eng.ev,Act.eval] using hx
theorem ZR (d:Nat) (v:Value) (e:Env) (t:Nat):look ((d,v) :: e) t=if d=t then some v else look e t:=by
 simp only [look];by_cases h:d=t;subst h;simp
 . have:Nat.beq d t=false:=by
    cases hb:Nat.beq d t with
    | false=>rfl
    | true=>exact absurd (Xk hb) h
   simp [this,h]
theorem Has.put {d:Nat} {v:Value} (h:Has n e a) (hd:Nat.blt d n=true):Has n ((d,v) :: e) (a.put (some d) v):=by
 have hlt:d<a.tmps.size:=by rw [h.size];exact Xe hd
 refine ⟨h.defers,by simp [Act.put,h.size],λt u hu=>?_⟩;rw [ZR] at hu;simp only [Act.put];by_cases kN:d=t;subst kN;simp at hu;subst hu;simp [hlt];rw [if_neg kN] at hu;have:=h.vals t u hu;simpa [YaB kN] using this
theorem Has.weak {e':Env} (h:Has n e a) (hs:∀ t v,look e' t=some v->look e t=some v):Has n e' a:=
 ⟨h.defers,h.size,λt v hv=>h.vals t v (hs t v hv)⟩
def Sub:Env->Env->Prop
 | [],_=>True
 | (k,v) :: r,e=>look e k=some v/\Sub r e
theorem Sub.look {e' e:Env} (h:Sub e' e):∀ t v,Eng.look e' t=some v->Eng.look e t=some v:=by
 induction e' with
 | nil=>intro t v hv;simp [Eng.look] at hv
 | cons p r ih=>
   intro t v hv;obtain ⟨d,u⟩:=p;rw [ZR] at hv;by_cases hd:d=t;subst hd;simp at hv;subst hv;exact h.1;rw [if_neg hd] at hv;exact ih h.2 t v hv
theorem Has.sub {e':Env} (h:Has n e a) (hs:Sub e' e):Has n e' a:=h.weak hs.look
end basics
section judge
variable (P:Program) (n:Nat)
structure WQ (n:Nat) (Q:Exit->Act->World->Prop) (x:Exit) (e:Env) (w:World):Prop where
 h:∀ a,Has n e a->Q x a w
structure WC (c:Code) (Q:Exit->Act->World->Prop) (e:Env) (w:World):Prop where
 h:∀ a,Has n e a->c.wp P Q a w
structure WL (ops:Array Oper) (Q:Exit->Act->World->Prop) (l:List Oper) (e:Env) (w:World):Prop where
 h:∀ a,Has n e a->wpList P ops Q l a w
end judge
section rules
variable {P:Program} {n:Nat} {Q:Exit->Act->World->Prop} {e:Env} {w:World} {ops:Array Oper} {rest:List Oper}
theorem Z2O {x y:Code} (h:WC P n x (Exit.then (λa w=>y.wp P Q a w) Q) e w):WC P n (x.seq y) Q e w:=
 ⟨λa ha=>wp_seq (h.h a ha)⟩
theorem Z2n {y:Code} (h:WC P n y Q e w):WQ n (Exit.then (λa w=>y.wp P Q a w) Q) .normal e w:=⟨λa ha=>h.h a ha⟩
theorem Z0h {N:Act->World->Prop} (h:WQ n Q .ret e w):WQ n (Exit.then N Q) .ret e w:=⟨λa ha=>h.h a ha⟩
theorem Z6i {N:Act->World->Prop} {i:Nat} (h:WQ n Q (.exit i) e w):WQ n (Exit.then N Q) (.exit i) e w:=⟨λa ha=>h.h a ha⟩
theorem Zc7 {i:Nat} (h:WQ n Q .normal e w):WQ n (Exit.inBlock i Q) .normal e w:=⟨λa ha=>h.h a ha⟩
theorem Z6j {i:Nat} (h:WQ n Q .ret e w):WQ n (Exit.inBlock i Q) .ret e w:=⟨λa ha=>h.h a ha⟩
theorem Z2H {i:Nat} (h:WQ n Q .normal e w):WQ n (Exit.inBlock i Q) (.exit i) e w:=by
 refine ⟨λa ha=>?_⟩;simp only [Exit.inBlock,if_true];exact h.h a ha
theorem Z3S {i j:Nat} (dw:Nat.beq i j=false) (h:WQ n Q (.exit i) e w):WQ n (Exit.inBlock j Q) (.exit i) e w:=by
 refine ⟨λa ha=>?_⟩;simp only [Exit.inBlock];rw [if_neg (Nat.ne_of_beq_eq_false dw)];exact h.h a ha
theorem Z4l (h:WQ n Q .normal e w):WC P n .skip Q e w:=⟨λa ha=>wp_skip (h.h a ha)⟩
theorem Z4y (h:WQ n Q .ret e w):WC P n .ret Q e w:=⟨λa ha=>wp_ret (h.h a ha)⟩
theorem ZeX {i:Nat} (h:WQ n Q (.exit i) e w):WC P n (.exit i) Q e w:=⟨λa ha=>wp_exit (h.h a ha)⟩
theorem Zc8 {i:Nat} {c:Code} (h:WC P n c (Exit.inBlock i Q) e w):WC P n (.block i c) Q e w:=⟨λa ha=>wp_block (h.h a ha)⟩
theorem Z0s {c:Operand} {x y:Code} (hc:ev e c=some (.bool true)) (h:WC P n x Q e w):WC P n (.cond c x y) Q e w:=
 ⟨λa ha=>wp_cond_true (ha.ev hc) (h.h a ha)⟩
theorem Z0a {c:Operand} {x y:Code} (hc:ev e c=some (.bool false)) (h:WC P n y Q e w):WC P n (.cond c x y) Q e w:=
 ⟨λa ha=>wp_cond_false (ha.ev hc) (h.h a ha)⟩
theorem Z4m {c:Operand} {x y:Code} {p:Prop} [Decidable p] (hc:ev e c=some (.bool (decide p))) (ht:p->WC P n x Q e w) (hf:¬ p->WC P n y Q e w):WC P n (.cond c x y) Q e w:=
 ⟨λa ha=>wp_cond_split (ha.ev hc) (λh=>(ht (of_decide_eq_true h)).h a ha) (λh=>(hf (of_decide_eq_false h)).h a ha)⟩
theorem Z78 {c:Operand} {x y:Code} {t:Bool} (hc:ev e c=some (.bool t)) (ht:t=true->WC P n x Q e w) (hf:t=false->WC P n y Q e w):WC P n (.cond c x y) Q e w:=
 ⟨λa ha=>wp_cond_split (ha.ev hc) (λh=>(ht h).h a ha) (λh=>(hf h).h a ha)⟩
theorem Z0y {id:Nat} {l:List Oper} (h:WL P n l.toArray Q l e w):WC P n (.region id l.toArray false) Q e w:=
 ⟨λa ha=>wp_region_lit (h.h a ha)⟩
theorem Z3w (h:WQ n Q .normal e w):WL P n ops Q [] e w:=⟨λa ha=>wpList_nil (h.h a ha)⟩
theorem JI {x y:Code} {σ:Type} (env:σ->Env) (I:σ->World->Prop)
 (h:WC P n x (Exit.then (λa w=>∃ s,Has n (env s) a/\I s w) Q) e w) (k:∀ s w,I s w->WC P n y Q (env s) w):WC P n x (Exit.then (λa w=>y.wp P Q a w) Q) e w:=
 ⟨λa ha => wp_mono (h.h a ha) (λex a w hq => by
   cases ex with
   | normal=>obtain ⟨s,h1,h2⟩:=hq;exact (k s w h2).h a h1
   | _=>exact hq)⟩
theorem Z0b {x y:Code} {σ:Type} {i:Nat} (env:σ->Env) (I:σ->World->Prop)
 (h:WC P n x (Exit.inBlock i (Exit.then (λa w=>∃ s,Has n (env s) a/\I s w) Q)) e w) (k:∀ s w,I s w->WC P n y Q (env s) w):WC P n x (Exit.inBlock i (Exit.then (λa w=>y.wp P Q a w) Q)) e w:=
 ⟨λa ha => wp_mono (h.h a ha) (λex a w hq => by
   cases ex with
   | normal=>obtain ⟨s,h1,h2⟩:=hq;exact (k s w h2).h a h1
   | exit j=>
     simp only [Exit.inBlock] at hq ⊢;split;rename_i hj;rw [if_pos hj] at hq;obtain ⟨s,h1,h2⟩:=hq;exact (k s w h2).h a h1;rename_i hj;rw [if_neg hj] at hq;exact hq
   | _=>exact hq)⟩
theorem Zc {σ:Type} {env:σ->Env} {I:σ->World->Prop} (s:σ) (hs:Sub (env s) e) (hI:I s w):WQ n (Exit.then (λa w=>∃ s,Has n (env s) a/\I s w) Q) .normal e w:=
 ⟨λa ha=>⟨s,ha.sub hs,hI⟩⟩
theorem ZC {c:Code} {σ:Type} (env:σ->Env) (I:σ->World->Prop) (μ:σ->Nat) (dj:σ) (hs:Sub (env dj) e) (hI:I dj w)
 (round:∀ s w,I s w->WC P n c (Exit.then (λa' w'=>∃ s',Has n (env s') a'/\I s' w'/\μ s' < μ s) Q) (env s) w):WC P n (.loop c) Q e w:=by
 refine ⟨λa ha=>?_⟩;have key:∀ (k:Nat) (s:σ) (a:Act) (w:World),μ s<=k->Has n (env s) a->I s w->(Code.loop c).wp P Q a w:=by
  intro k s a w _ h1 h2;refine wp_loop (λa' w'=>∃ s',Has n (env s') a'/\I s' w') (λa' w'=>Classical.epsilon (λm=>∃ s',Has n (env s') a'/\I s' w'/\μ s'=m/\∀ s'',Has n (env s'') a'->I s'' w'->m<=μ s'')) ⟨s,h1,h2⟩ ?_;intro a w ⟨s',gI,fQ⟩;have iA:∀ a w,(∃ s',Has n (env s') a/\I s' w)->∃ m,∃ s',Has n (env s') a/\I s' w/\μ s'=m/\∀ s'',Has n (env s'') a->I s'' w->m<=μ s'':=by
   intro a w ⟨s',gI,fQ⟩;have:∀ m,∀ s',μ s'=m->Has n (env s') a->I s' w->∃ m,∃ s',Has n (env s') a/\I s' w/\μ s'=m/\∀ s'',Has n (env s'') a->I s'' w->m<=μ s'':=by
    intro m
    induction m using Nat.strongRecOn with
    | _ m ih=>
      intro s' hm h1 h2;by_cases gJ:∀ s'',Has n (env s'') a->I s'' w->m<=μ s'';exact ⟨m,s',h1,h2,hm,gJ⟩;have:∃ s'',Has n (env s'') a/\I s'' w/\μ s''<m:=by
       refine Classical.byContradiction λaR=>gJ λs'' h1 h2=>?_;exact YaQ λhlt=>aR ⟨s'',h1,h2,hlt⟩
      obtain ⟨s'',gI,fQ,hlt⟩:=this;exact ih _ hlt s'' rfl gI fQ
   exact this _ s' rfl gI fQ
  obtain ⟨s₁,g1,g2,g3,g4⟩:=Classical.epsilon_spec (iA a w ⟨s',gI,fQ⟩);have hr:=(round s₁ w g2).h a g1;refine wp_mono hr (λex a' w' hq=>?_);cases ex with
  | normal=>
    obtain ⟨s₂,k1,k2,k3⟩:=hq;refine ⟨⟨s₂,k1,k2⟩,?_⟩;obtain ⟨s₃,m1,m2,m3,m4⟩:=Classical.epsilon_spec (iA a' w' ⟨s₂,k1,k2⟩);have:=m4 s₂ k1 k2;rw [g3] at k3;exact Nat.lt_of_le_of_lt this k3
  | _=>exact hq
 exact key (μ dj) dj a w (Xq _) (ha.sub hs) hI
theorem Jj {σ:Type} {env:σ->Env} {I:σ->World->Prop} {μ:σ->Nat} {m:Nat} (s:σ) (hs:Sub (env s) e) (hI:I s w) (hm:μ s<m) :
 WQ n (Exit.then (λa w=>∃ s,Has n (env s) a/\I s w/\μ s<m) Q) .normal e w:=
 ⟨λa ha=>⟨s,ha.sub hs,hI,hm⟩⟩
structure PR (P:Program) (n:Nat) (o:Oper) (e:Env) (w:World) (v:Value):Prop where
 h:∀ a,Has n e a->(execOp a.eval o).run P w=.ok (.value v) w
theorem Zf {d:Nat} {op:Op} {ty:TypeId} {pos:String} {af:Array Edge} {v:Value} (hp:PR P n ⟨some d,op,ty,pos,af,none⟩ e w v) (hd:Nat.blt d n=true)
 (k:WL P n ops Q rest ((d,v) :: e) w):WL P n ops Q (⟨some d,op,ty,pos,af,none⟩ :: rest) e w:=by
 refine ⟨λa ha=>?_⟩;refine wpList_plain rfl (λK hK=>?_);unfold Oper.wp;rw [hp.h a ha];exact hK _ _ ((k).h _ (ha.put hd))
structure OE (P:Program) (n:Nat) (o:Oper) (e:Env) (w:World) (G:Value->World->Prop):Prop where
 h:∀ a,Has n e a->∀ (Q:Exit->Act->World->Prop),o.wp P a w (λa' w'=>∃ v,a'=a.put o.dst v/\G v w') Q
theorem Z1 {d:Nat} {op:Op} {ty:TypeId} {pos:String} {af:Array Edge} {G:Value->World->Prop} (hp:OE P n ⟨some d,op,ty,pos,af,none⟩ e w G) (hd:Nat.blt d n=true)
 (k:∀ v w',G v w'->WL P n ops Q rest ((d,v) :: e) w'):WL P n ops Q (⟨some d,op,ty,pos,af,none⟩ :: rest) e w:=by
 refine ⟨λa ha=>?_⟩;refine wpList_plain rfl (λK hK=>?_);refine Oper.wp_mono ?_ (hp.h a ha Q);rintro a' w' ⟨v,rfl,hg⟩;exact hK _ _ ((k v w' hg).h _ (ha.put hd))
theorem Zi {op:Op} {ty:TypeId} {pos:String} {af:Array Edge} {G:Value->World->Prop} (hp:OE P n ⟨none,op,ty,pos,af,none⟩ e w G)
 (k:∀ v w',G v w'->WL P n ops Q rest e w'):WL P n ops Q (⟨none,op,ty,pos,af,none⟩ :: rest) e w:=by
 refine ⟨λa ha=>?_⟩;refine wpList_plain rfl (λK hK=>?_);refine Oper.wp_mono ?_ (hp.h a ha Q);rintro a' w' ⟨v,rfl,hg⟩;exact hK _ _ ((k v w' hg).h _ ha)
def yld (ops:Array Oper) (e:Env) (j:Nat):Option Value:=((ops[j]?).bind (·.dst)).bind (look e)
theorem Z4z {ops:Array Oper} {a:Act} {j:Nat} {b:Bool} (ha:Has n e a) (h:yld ops e j=some (.bool b)):yielded ops a.tmps j=some b:=by
 unfold yld at h;unfold yielded;cases hd:(ops[j]?).bind (·.dst) with
 | none=>rw [hd] at h;simp at h
 | some d=>
   rw [hd] at h;have:=ha.vals d _ h;simp only [XD] at this;simp only [Option.bind_some];cases hx:a.tmps[d]? with
   | none=>rw [hx] at this;simp [undef] at this
   | some u=>rw [hx] at this;simp at this;subst this;simp
theorem Zhv {d:Option Nat} {op:Op} {ty:TypeId} {pos:String} {af:Array Edge} {j:Nat} {b:Bool} (hy:yld ops e j=some (.bool b))
 (k:WL P n ops Q (⟨d,op,ty,pos,af,none⟩ :: rest) e w):WL P n ops Q (⟨d,op,ty,pos,af,some (j,b)⟩ :: rest) e w:=by
 refine ⟨λa ha=>?_⟩;have hk:=k.h a ha;have hw:Region.wanted ⟨d,op,ty,pos,af,some (j,b)⟩ (yielded ops a.tmps)=true:=by simp [Region.wanted,Z4z ha hy]
 unfold wpList at hk ⊢;rw [if_pos hw];rw [if_pos (by simp [Region.wanted])] at hk;exact hk
def ZhI:Value->Bool->Bool
 | .bool c,b=>c != b
 | _,_=>true
def noB (ops:Array Oper) (e:Env):Option (Nat×Bool)->Bool
 | none=>false
 | some (j, b) => match yld ops e j with
   | some u=>ZhI u b
   | none=>false
theorem Z0z {ops:Array Oper} {a:Act} {o:Oper} (ha:Has n e a) (h:noB ops e o.guard=true):Region.wanted o (yielded ops a.tmps)=false:=by
 unfold Region.wanted;cases hg:o.guard with
 | none=>rw [hg] at h;cases h
 | some jb=>
   obtain ⟨j,b⟩:=jb;rw [hg] at h;simp only [noB] at h;cases hy:yld ops e j with
   | none=>rw [hy] at h;cases h
   | some u=>
     rw [hy] at h;unfold yld at hy;show (yielded ops a.tmps j == some b)=false;unfold yielded;cases hd:(ops[j]?).bind (·.dst) with
     | none=>rw [hd] at hy;simp at hy
     | some d=>
       rw [hd] at hy;simp only [Option.bind_some] at hy;have:=ha.vals d _ hy;simp only [XD] at this;simp only [Option.bind_some];cases hx:a.tmps[d]? with
       | none=>rfl
       | some z=>
         rw [hx] at this;simp at this;subst this;cases z<;>first|rfl|(simp only [ZhI] at h;cases b<;>simp_all)
theorem Za7 {d:Nat} {op:Op} {ty:TypeId} {pos:String} {af:Array Edge} {j:Nat} {b:Bool} (hy:noB ops e (some (j,b))=true) (hd:Nat.blt d n=true)
 (k:WL P n ops Q rest ((d,undef) :: e) w):WL P n ops Q (⟨some d,op,ty,pos,af,some (j,b)⟩ :: rest) e w:=by
 refine ⟨λa ha=>?_⟩;have hw:Region.wanted ⟨some d,op,ty,pos,af,some (j,b)⟩ (yielded ops a.tmps)=false:=Z0z ha hy;unfold wpList;rw [if_neg (by simp [hw])];exact k.h _ (ha.put hd)
theorem Zc9 {op:Op} {ty:TypeId} {pos:String} {af:Array Edge} {j:Nat} {b:Bool} (hy:noB ops e (some (j,b))=true)
 (k:WL P n ops Q rest e w):WL P n ops Q (⟨none,op,ty,pos,af,some (j,b)⟩ :: rest) e w:=by
 refine ⟨λa ha=>?_⟩;have hw:Region.wanted ⟨none,op,ty,pos,af,some (j,b)⟩ (yielded ops a.tmps)=false:=Z0z ha hy;unfold wpList;rw [if_neg (by simp [hw])];exact k.h _ ha
def Za8 (ops:Array Oper) (j:Nat):Option Nat:=(ops[j]?).bind (·.dst)
theorem Has.same {a:Act} {d:Nat} {u v:Value} (ha:Has n e a) (h:look e d=some u) (oo:u=v):Has n ((d,v) :: e) a:=by
 subst oo;refine ⟨ha.defers,ha.size,λt x hx=>?_⟩;rw [ZR] at hx;by_cases hd:d=t;subst hd;simp at hx;subst hx;exact ha.vals _ _ h;rw [if_neg hd] at hx;exact ha.vals _ _ hx
theorem Z79 {d:Nat} {o:Option Nat} {op:Op} {ty:TypeId} {pos:String} {af:Array Edge} {j:Nat} {b:Bool} {p:Prop} [Decidable p] (hj:Za8 ops j=some d) (hy:look e d=some (.bool (decide p)))
 (ht:p->WL P n ops Q (⟨o,op,ty,pos,af,some (j,b)⟩ :: rest) ((d,.bool true) :: e) w) (hf:¬ p->WL P n ops Q (⟨o,op,ty,pos,af,some (j,b)⟩ :: rest) ((d,.bool false) :: e) w) :
 WL P n ops Q (⟨o,op,ty,pos,af,some (j,b)⟩ :: rest) e w:=by
 refine ⟨λa ha=>?_⟩;by_cases hp:p;exact (ht hp).h a (ha.same hy (by simp [hp]));exact (hf hp).h a (ha.same hy (by simp [hp]))
theorem ZaR {d:Nat} {o:Option Nat} {op:Op} {ty:TypeId} {pos:String} {af:Array Edge} {j:Nat} {b:Bool} {t:Bool} (hj:Za8 ops j=some d) (hy:look e d=some (.bool t))
 (ht:t=true->WL P n ops Q (⟨o,op,ty,pos,af,some (j,b)⟩ :: rest) ((d,.bool true) :: e) w) (hf:t=false->WL P n ops Q (⟨o,op,ty,pos,af,some (j,b)⟩ :: rest) ((d,.bool false) :: e) w) :
 WL P n ops Q (⟨o,op,ty,pos,af,some (j,b)⟩ :: rest) e w:=by
 refine ⟨λa ha=>?_⟩;cases t;exact (hf rfl).h a (ha.same hy rfl);exact (ht rfl).h a (ha.same hy rfl)
end rules
def Z2P (l:List Value):Nat->Env
 | k=>match l with|[]=>[]|v :: r=>(k,v) :: Z2P r (k+1)
theorem Z3T (l:List Value):∀ (k t:Nat) (v:Value),look (Z2P l k) t=some v->k<=t/\l[t - k]?=some v:=by
 induction l with
 | nil=>intro k t v h;simp [Z2P,look] at h
 | cons x r ih=>
   intro k t v h;simp only [Z2P] at h;rw [ZR] at h;by_cases hk:k=t;subst hk;simp at h;simp [h];rw [if_neg hk] at h;obtain ⟨h1,h2⟩:=ih (k+1) t v h;refine ⟨by omega,?_⟩;have:t - k=(t - (k+1))+1:=by omega
   rw [this];simpa using h2
theorem JM {P:Program} {f:FuncId} {fn:Func} {c:Code} {args:Array Value} {w:World} {R:Ending->World->Prop} {n:Nat} (hf:P.funcs[f]?=some fn) (hb:fn.body=some c)
 (hn:fn.ntmps=n) (hs:Nat.ble args.size n=true) (h:WC P n c (bodyPost P fn R) (Z2P args.toList 0) w):Calls P f args w R:=by
 refine calls_of_wp hf hb (h.h _ ?_);rw [hn];have cV:args.size<=n:=Xe hs;refine ⟨rfl,by simp;omega,λt v hv=>?_⟩;obtain ⟨_,h2⟩:=Z3T _ _ _ _ hv;simp only [Nat.sub_zero] at h2;have hlt:t<args.size:=by
  have:=(Xu.1 h2).1;simpa using this
 have:args[t]?=some v:=by simpa using h2
 have h3:(args++Array.replicate (n - args.size) undef)[t]?=some v:=by
  rw [Yau hlt];exact this
 simp [XD,h3]
section post
variable {P:Program} {n:Nat} {fn:Func} {R:Ending->World->Prop} {e:Env} {w:World}
theorem Za9 (hr:fn.results=#[]) (h:R (.returned (.tuple #[])) w):WQ n (bodyPost P fn R) .ret e w:=
 ⟨λa ha=>⟨ha.defers,_,results_none hr _ _ _,h⟩⟩
theorem Z6k (hr:fn.results=#[]) (h:R (.returned (.tuple #[])) w):WQ n (bodyPost P fn R) .normal e w:=
 ⟨λa ha=>⟨ha.defers,_,results_none hr _ _ _,h⟩⟩
theorem ZeY {t:Nat} {v:Value} (hr:fn.results=#[.tmp t]) (ht:look e t=some v) (h:R (.returned v) w):WQ n (bodyPost P fn R) .ret e w:=
 ⟨λa ha=>⟨ha.defers,_,results_tmp hr _ _ _,by rw [ha.vals t v ht];exact h⟩⟩
theorem ZeZ {t u:Nat} {v x:Value} (hr:fn.results=#[.tmp t,.tmp u]) (ht:look e t=some v) (hu:look e u=some x) (h:R (.returned (.tuple #[v,x])) w):WQ n (bodyPost P fn R) .ret e w:=
 ⟨λa ha=>⟨ha.defers,_,results_tmp2 hr _ _ _,by rw [ha.vals t v ht,ha.vals u x hu];exact h⟩⟩
theorem Zf0 {t u s:Nat} {v x y:Value} (hr:fn.results=#[.tmp t,.tmp u,.tmp s]) (ht:look e t=some v) (hu:look e u=some x) (hs:look e s=some y) (h:R (.returned (.tuple #[v,x,y])) w):WQ n (bodyPost P fn R) .ret e w:=
 ⟨λa ha=>⟨ha.defers,.tuple #[v,x,y],by simp [results,hr];simpa [XD] using And.intro (ha.vals t v ht) (And.intro (ha.vals u x hu) (ha.vals s y hs)),h⟩⟩
end post
theorem cW0 {P:Program} {f:FuncId} {fn:Func} {c:Code} {w:World} {R:Ending->World->Prop} (n:Nat) (hf:P.funcs[f]?=some fn) (h:WC P n c (bodyPost P fn R) [] w) (hb:fn.body=some c:=by exact rfl) (hn:fn.ntmps=n:=by exact rfl):Calls P f #[] w R:=JM hf hb hn rfl h
theorem cW1 {P:Program} {f:FuncId} {fn:Func} {c:Code} {a0:Value} {w:World} {R:Ending->World->Prop} (n:Nat) (hf:P.funcs[f]?=some fn) (h:WC P n c (bodyPost P fn R) [(0,a0)] w) (hb:fn.body=some c:=by exact rfl) (hn:fn.ntmps=n:=by exact rfl) (hs:Nat.ble 1 n=true:=by exact rfl):Calls P f #[a0] w R:=JM hf hb hn hs h
theorem cW2 {P:Program} {f:FuncId} {fn:Func} {c:Code} {a0 a1:Value} {w:World} {R:Ending->World->Prop} (n:Nat) (hf:P.funcs[f]?=some fn) (h:WC P n c (bodyPost P fn R) [(0,a0),(1,a1)] w) (hb:fn.body=some c:=by exact rfl) (hn:fn.ntmps=n:=by exact rfl) (hs:Nat.ble 2 n=true:=by exact rfl):Calls P f #[a0,a1] w R:=JM hf hb hn hs h
theorem cW3 {P:Program} {f:FuncId} {fn:Func} {c:Code} {a0 a1 a2:Value} {w:World} {R:Ending->World->Prop} (n:Nat) (hf:P.funcs[f]?=some fn) (h:WC P n c (bodyPost P fn R) [(0,a0),(1,a1),(2,a2)] w) (hb:fn.body=some c:=by exact rfl) (hn:fn.ntmps=n:=by exact rfl) (hs:Nat.ble 3 n=true:=by exact rfl):Calls P f #[a0,a1,a2] w R:=JM hf hb hn hs h
theorem cW4 {P:Program} {f:FuncId} {fn:Func} {c:Code} {a0 a1 a2 a3:Value} {w:World} {R:Ending->World->Prop} (n:Nat) (hf:P.funcs[f]?=some fn) (h:WC P n c (bodyPost P fn R) [(0,a0),(1,a1),(2,a2),(3,a3)] w) (hb:fn.body=some c:=by exact rfl) (hn:fn.ntmps=n:=by exact rfl) (hs:Nat.ble 4 n=true:=by exact rfl):Calls P f #[a0,a1,a2,a3] w R:=JM hf hb hn hs h
class Und (P:Program) (t:Nat) (d:outParam TypeDesc):Prop where
 h:P.underlying t=some d
class Siz (P:Program) (t:Nat) (k:outParam Nat):Prop where
 h:(P.info? t).map (·.size)=some k
class Zer (P:Program) (t:Nat) (z:outParam Value):Prop where
 h:(P.info? t).bind (·.zero)=some z
class Byt (P:Program) (t:Nat) (k:outParam Nat):Prop where
 h:(P.info? t).map (·.bytes)=some k
class Fld (P:Program) (t i:Nat) (off:outParam Nat):Prop where
 h:∃ fs f k,P.underlying t=some (.struct fs)/\fs[i]?=some f/\f.offset=off/\(P.info? f.type).map (·.size)=some (k+1)
class Fun (P:Program) (f:Nat) (fn:outParam Func):Prop where
 h:P.funcs[f]?=some fn
 enters:Enters P f
theorem Siz.run {P:Program} {t k:Nat} [h:Siz P t k] (w:World):(sizeOf t).run P w=.ok k w:=by
 have:=h.h;cases hi:P.info? t with
 | none=>simp [hi] at this
 | some i=>rw [hi] at this;simp at this;simp [sizeOf,typeInfo,hi,this]
theorem Zer.run {P:Program} {t:Nat} {z:Value} [h:Zer P t z] (w:World):(zeroValue t).run P w=.ok z w:=by
 have:=h.h;cases hi:P.info? t with
 | none=>simp [hi] at this
 | some i=>rw [hi] at this;simp at this;simp [zeroValue,typeInfo,hi,this]
def Z03:TypeDesc->Bool
 | .struct _|.array _ _=>true
 | _=>false
theorem Und.isAgg {P:Program} {t:Nat} {d:TypeDesc} [h:Und P t d] (w:World):(Go.isAgg t).run P w=.ok (Z03 d) w:=by
 cases d<;>simp [Go.isAgg,run_underlying h.h,Z03]
section rules
variable {P:Program} {n:Nat} {e:Env} {w:World} {d:Option Nat} {ty:TypeId} {pos:String} {af:Array Edge} {g:Option (Nat×Bool)}
theorem Jk {x:Operand} {v:Value} (hx:ev e x=some v):PR P n ⟨d,.move x,ty,pos,af,g⟩ e w v:=⟨λa ha=>by simp [execOp,ha.ev hx]⟩
theorem Z3x {x:Operand} {v:Value} (hx:ev e x=some v):PR P n ⟨d,.assign x,ty,pos,af,g⟩ e w v:=⟨λa ha=>by simp [execOp,ha.ev hx]⟩
theorem Z5P {c x y:Operand} {v:Value} (hc:ev e c=some (.bool true)) (hx:ev e x=some v):PR P n ⟨d,.pick c x y,ty,pos,af,g⟩ e w v:=
 ⟨λa ha=>by simp [execOp,ha.ev hc,ha.ev hx,asBool]⟩
theorem Z5Q {c x y:Operand} {v:Value} (hc:ev e c=some (.bool false)) (hx:ev e y=some v):PR P n ⟨d,.pick c x y,ty,pos,af,g⟩ e w v:=
 ⟨λa ha=>by simp [execOp,ha.ev hc,ha.ev hx,asBool]⟩
theorem Zca {x:Operand} {b:Bool} (hx:ev e x=some (.bool b)) {t:TypeId}:PR P n ⟨d,.unOp .not t x,ty,pos,af,g⟩ e w (.bool (!b)):=
 ⟨λa ha=>by simp [execOp,ha.ev hx,Op.unary]⟩
theorem Zcb {x:Operand} (hx:ev e x=some (.bool true)) {t:TypeId}:PR P n ⟨d,.unOp .not t x,ty,pos,af,g⟩ e w (.bool false):=
 ⟨λa ha=>by simp [execOp,ha.ev hx,Op.unary]⟩
theorem Zcc {x:Operand} (hx:ev e x=some (.bool false)) {t:TypeId}:PR P n ⟨d,.unOp .not t x,ty,pos,af,g⟩ e w (.bool true):=
 ⟨λa ha=>by simp [execOp,ha.ev hx,Op.unary]⟩
def I64 (z:Int):Prop:=-9223372036854775808<=z/\z<=9223372036854775807
theorem JN {z:Int} (h:I64 z):IntKind.i64.wrap z=z:=by
 unfold I64 at h;rw [IntKind.wrap_i64];omega
section arith
variable {x y:Operand} {a b:Int} {t u:TypeId}
theorem ZhJ (hx:ev e x=some (.int .i64 a)) (hy:ev e y=some (.int .i64 b)) (hr:I64 (a+b)):PR P n ⟨d,.binOp .add t x y u,ty,pos,af,g⟩ e w (.int .i64 (a+b)):=
 ⟨λc ha=>by simp only [execOp,ha.ev hx,ha.ev hy];simp [go_sem,Op.intArith,JN hr]⟩
theorem Z4A (hx:ev e x=some (.int .i64 a)) (hy:ev e y=some (.int .i64 b)) (hr:I64 (a - b)):PR P n ⟨d,.binOp .sub t x y u,ty,pos,af,g⟩ e w (.int .i64 (a - b)):=
 ⟨λc ha=>by simp only [execOp,ha.ev hx,ha.ev hy];simp [go_sem,Op.intArith,JN hr]⟩
theorem ZhK (hx:ev e x=some (.int .i64 a)) (hy:ev e y=some (.int .i64 b)) (hr:I64 (a * b)):PR P n ⟨d,.binOp .mul t x y u,ty,pos,af,g⟩ e w (.int .i64 (a * b)):=
 ⟨λc ha=>by simp only [execOp,ha.ev hx,ha.ev hy];simp [go_sem,Op.intArith,JN hr]⟩
theorem ZhL (hx:ev e x=some (.int .i64 a)) (hr:I64 (- a)):PR P n ⟨d,.unOp .neg t x,ty,pos,af,g⟩ e w (.int .i64 (- a)):=
 ⟨λc ha=>by simp only [execOp,ha.ev hx];simp [go_sem,Op.unary,Op.intArith,JN hr]⟩
theorem ZhM (hx:ev e x=some (.int .i64 a)) (hy:ev e y=some (.int .i64 b)) (hb:b≠0) (hr:I64 (a.tmod b)):PR P n ⟨d,.binOp .rem t x y u,ty,pos,af,g⟩ e w (.int .i64 (a.tmod b)):=
 ⟨λc ha=>by simp only [execOp,ha.ev hx,ha.ev hy];simp [go_sem,Op.intDiv,hb];try rw [JN hr]⟩
theorem ZhN (hx:ev e x=some (.int .i64 a)) (hy:ev e y=some (.int .i64 b)) (hb:b≠0) (hr:I64 (a.tdiv b)):PR P n ⟨d,.binOp .quo t x y u,ty,pos,af,g⟩ e w (.int .i64 (a.tdiv b)):=
 ⟨λc ha=>by simp only [execOp,ha.ev hx,ha.ev hy];simp [go_sem,Op.intDiv,hb];try rw [JN hr]⟩
theorem Zaa (hx:ev e x=some (.int .i64 a)) (hy:ev e y=some (.int .i64 b)) (h0:0<=a) (hb:0<b) (hr:I64 a):PR P n ⟨d,.binOp .rem t x y u,ty,pos,af,g⟩ e w (.int .i64 (a % b)):=by
 have h1:a.tmod b=a % b:=Int.tmod_eq_emod_of_nonneg h0;rw [<- h1];refine ZhM hx hy (by omega) ?_;rw [h1];have:=YaW a (show b≠0 by omega);have h2:a % b<=a:=by
  by_cases bE:a<b;rw [Ybc h0 bE];exact YaH _;have:=YaJ a hb;omega
 unfold I64 at hr ⊢;omega
theorem Zab (hx:ev e x=some (.int .i64 a)) (hy:ev e y=some (.int .i64 b)) (h0:0<=a) (hb:0<b) (hr:I64 a):PR P n ⟨d,.binOp .quo t x y u,ty,pos,af,g⟩ e w (.int .i64 (a / b)):=by
 have h1:a.tdiv b=a / b:=Int.tdiv_eq_ediv_of_nonneg h0;rw [<- h1];refine ZhN hx hy (by omega) ?_;rw [h1];have:=Int.ediv_nonneg h0 (Int.le_of_lt hb);have h2:a / b<=a:=Int.ediv_le_self _ h0;unfold I64 at hr ⊢;omega
variable {k:IntKind}
theorem Z8w (hx:ev e x=some (.int k a)) (hy:ev e y=some (.int k b)):PR P n ⟨d,.binOp .lss t x y u,ty,pos,af,g⟩ e w (.bool (decide (a<b))):=
 ⟨λc ha=>by simp only [execOp,ha.ev hx,ha.ev hy];simp [go_sem]⟩
theorem Zcd (hx:ev e x=some (.int k a)) (hy:ev e y=some (.int k b)):PR P n ⟨d,.binOp .leq t x y u,ty,pos,af,g⟩ e w (.bool (decide (a<=b))):=
 ⟨λc ha=>by simp only [execOp,ha.ev hx,ha.ev hy];simp [go_sem]⟩
theorem Z8x (hx:ev e x=some (.int k a)) (hy:ev e y=some (.int k b)):PR P n ⟨d,.binOp .gtr t x y u,ty,pos,af,g⟩ e w (.bool (decide (b<a))):=
 ⟨λc ha=>by simp only [execOp,ha.ev hx,ha.ev hy];simp [go_sem]⟩
theorem Zce (hx:ev e x=some (.int k a)) (hy:ev e y=some (.int k b)):PR P n ⟨d,.binOp .geq t x y u,ty,pos,af,g⟩ e w (.bool (decide (b<=a))):=
 ⟨λc ha=>by simp only [execOp,ha.ev hx,ha.ev hy];simp [go_sem]⟩
theorem Zcf (hx:ev e x=some (.int k a)) (hy:ev e y=some (.int k b)):PR P n ⟨d,.binOp .eql t x y u,ty,pos,af,g⟩ e w (.bool (decide (a=b))):=
 ⟨λc ha=>by simp only [execOp,ha.ev hx,ha.ev hy];simp [go_sem];exact Yav a b⟩
theorem Z8y (hx:ev e x=some (.int k a)) (hy:ev e y=some (.int k b)):PR P n ⟨d,.binOp .neq t x y u,ty,pos,af,g⟩ e w (.bool (decide (¬ a=b))):=
 ⟨λc ha=>by simp only [execOp,ha.ev hx,ha.ev hy];simp [go_sem];rw [bne,Yav]⟩
theorem Zac {p q:Bool} [hu:Und P t .bool] (hx:ev e x=some (.bool p)) (hy:ev e y=some (.bool q)):PR P n ⟨d,.binOp .eql t x y u,ty,pos,af,g⟩ e w (.bool (decide (p=q))):=
 ⟨λc ha=>by simp only [execOp,ha.ev hx,ha.ev hy];simp [go_sem,binOp,run_equal_bool w t p q hu.h];cases p<;>cases q<;>rfl⟩
theorem Z6l {p q:Bool} [hu:Und P t .bool] (hx:ev e x=some (.bool p)) (hy:ev e y=some (.bool q)):PR P n ⟨d,.binOp .neq t x y u,ty,pos,af,g⟩ e w (.bool (decide (¬ p=q))):=
 ⟨λc ha=>by simp only [execOp,ha.ev hx,ha.ev hy];simp [go_sem,binOp,run_equal_bool w t p q hu.h];cases p<;>cases q<;>rfl⟩
end arith
theorem Z4B {x:Operand} {vs:Array Value} {i:Nat} {v:Value} (hx:ev e x=some (.tuple vs)) (hv:vs[i]?=some v):PR P n ⟨d,.extract x i,ty,pos,af,g⟩ e w v:=
 ⟨λa ha=>by simp [execOp,ha.ev hx,Instr.extract,hv]⟩
theorem Z8z {x:Operand} {t:TypeId} {el:TypeId} [hu:Und P t (.slice el)] {p:Option Addr} {l c:Nat} (hx:ev e x=some (.slice p l c)) :
 PR P n ⟨d,.call { callee:=.builtin .len,args:=#[x],argTypes:=#[t] },ty,pos,af,g⟩ e w (.int .i64 (l:Int)):=
 ⟨λa ha => by
   have:=run_len_slice (P:=P) w t ty p l c (by rw [hu.h,Program.elem,hu.h]);simp [execOp,resolve,invoke,builtin,ha.ev hx,this,goInt]⟩
theorem Z3U {t i off:Nat} [h:Fld P t i off] (b o:Nat) (w:World):(Instr.fieldAt t (.pointer (some ⟨b,o,none⟩)) i).run P w=.ok (.pointer (some ⟨b,o+off,none⟩)) w:=by
 obtain ⟨fs,f,k,h1,h2,rfl,h3⟩:=h.h;have:Siz P f.type (k+1):=⟨h3⟩
 simp [Instr.fieldAt,run_underlying h1,h2,Instr.sureAddr,fieldPlace,Siz.run,Addr.add_lit]
theorem Zn {x:Operand} {t:TypeId} {b o i off:Nat} [hf:Fld P t i off] (hx:ev e x=some (.pointer (some ⟨b,o,none⟩))):PR P n ⟨d,.fieldAddr t x i,ty,pos,af,g⟩ e w (.pointer (some ⟨b,o+off,none⟩)):=
 ⟨λa ha=>by simp [execOp,ha.ev hx,Z3U]⟩
theorem Jo {x:Operand} {t:TypeId} {D:TypeDesc} {ad:Addr} {v:Value} [hu:Und P t D] (hA:Z03 D=false) (hx:ev e x=some (.pointer (some ad))) (hc:w.cell? ad=some v) :
 PR P n ⟨d,.load t x,ty,pos,af,g⟩ e w v:=
 ⟨λa ha=>by simp [execOp,ha.ev hx,Instr.loadAt,Instr.sureAddr,loadVar,Und.isAgg,hA,hc]⟩
theorem Z1e {x:Operand} {t:TypeId} {D:TypeDesc} {b o k:Nat} {cs:List Value} [hu:Und P t D] (hA:Z03 D=true) [hs:Siz P t k] (hx:ev e x=some (.pointer (some ⟨b,o,none⟩)))
 (hl:cs.length=k) (hc:∀ j u,cs[j]?=some u->w.cell? ⟨b,o+j,none⟩=some u) :
 PR P n ⟨d,.load t x,ty,pos,af,g⟩ e w (.agg cs.toArray):=
 ⟨λa ha => by
   have:=run_loadCells_list (P:=P) w ⟨b,o,none⟩ cs (λj v h=>by rw [Addr.add_lit];exact hc j v h);rw [hl] at this;simp [execOp,ha.ev hx,Instr.loadAt,Instr.sureAddr,loadVar,Und.isAgg,hA,Siz.run,this]⟩
theorem Z6m {f:Nat}:PR P n ⟨d,.makeFunc (.func f) #[] #[],ty,pos,af,g⟩ e w (.func (.func f) #[] #[]):=
 ⟨λa ha=>by simp [execOp,Instr.makeFunc]⟩
theorem Z6n {f:Nat} {x:Operand} {v:Value} (hx:ev e x=some v):PR P n ⟨d,.makeFunc (.func f) #[] #[x],ty,pos,af,g⟩ e w (.func (.func f) #[] #[v]):=
 ⟨λa ha=>by simp [execOp,Instr.makeFunc,ha.ev hx]⟩
theorem Z6o {f:Nat} {x y:Operand} {v u:Value} (hx:ev e x=some v) (hy:ev e y=some u):PR P n ⟨d,.makeFunc (.func f) #[] #[x,y],ty,pos,af,g⟩ e w (.func (.func f) #[] #[v,u]):=
 ⟨λa ha=>by simp [execOp,Instr.makeFunc,ha.ev hx,ha.ev hy]⟩
theorem Z6p {f:Nat} {x y z:Operand} {v u s:Value} (hx:ev e x=some v) (hy:ev e y=some u) (hz:ev e z=some s):PR P n ⟨d,.makeFunc (.func f) #[] #[x,y,z],ty,pos,af,g⟩ e w (.func (.func f) #[] #[v,u,s]):=
 ⟨λa ha=>by simp [execOp,Instr.makeFunc,ha.ev hx,ha.ev hy,ha.ev hz]⟩
def Ret (G:Value->World->Prop) (r:Ending) (w':World):Prop:=∃ v,r=.returned v/\G v w'
theorem Ret.mk {G:Value->World->Prop} {v:Value} {w':World} (h:G v w'):Ret G (.returned v) w':=⟨v,rfl,h⟩
theorem Z4 {f:Nat} {fn:Func} {xs:Array Operand} {ts:Array TypeId} {vs:Array Value} {G:Value->World->Prop} {c:Operand} [hf:Fun P f fn] (hc:ev e c=some (.func (.func f) #[] #[]))
 (hv:∀ a,Has n e a->xs.map a.eval=vs) (h:Calls P f vs w (Ret G)) :
 OE P n ⟨d,.call { callee:=.value c,args:=xs,argTypes:=ts },ty,pos,af,g⟩ e w G:=
 ⟨λa ha Q => by
   have he:(execOp a.eval ⟨d,.call { callee:=.value c,args:=xs,argTypes:=ts },ty,pos,af,g⟩).run P w=.ok (.enter f vs) w:=by
    simp only [execOp,resolve,ha.ev hc,Deferred.ofValue,hv a ha];simp [invoke];exact hf.enters vs w
   unfold Oper.wp;rw [he];simp only [Oper.upon];refine h.mono ?_;rintro r w' ⟨v,rfl,hg⟩;exact ⟨v,rfl,hg⟩⟩
theorem Zcg {f:Nat} {fn:Func} {xs:Array Operand} {ts:Array TypeId} {vs cap us:Array Value} {G:Value->World->Prop} {c:Operand} [hf:Fun P f fn] (hc:ev e c=some (.func (.func f) #[] cap))
 (hv:∀ a,Has n e a->xs.map a.eval=vs) (hu:vs++cap=us) (h:Calls P f us w (Ret G)) :
 OE P n ⟨d,.call { callee:=.value c,args:=xs,argTypes:=ts },ty,pos,af,g⟩ e w G:=
 ⟨λa ha Q => by
   have he:(execOp a.eval ⟨d,.call { callee:=.value c,args:=xs,argTypes:=ts },ty,pos,af,g⟩).run P w=.ok (.enter f us) w:=by
    simp only [execOp,resolve,ha.ev hc,Deferred.ofValue,hv a ha];simp [invoke,hu];exact hf.enters us w
   unfold Oper.wp;rw [he];simp only [Oper.upon];refine h.mono ?_;rintro r w' ⟨v,rfl,hg⟩;exact ⟨v,rfl,hg⟩⟩
theorem Z8A:∀ a,Has n e a->(#[]:Array Operand).map a.eval=#[]:=λa ha=>by simp
theorem ZN {x:Operand} {v:Value} (hx:ev e x=some v):∀ a,Has n e a->#[x].map a.eval=#[v]:=λa ha=>by simp [ha.ev hx]
theorem Zj {x y:Operand} {v u:Value} (hx:ev e x=some v) (hy:ev e y=some u):∀ a,Has n e a->#[x,y].map a.eval=#[v,u]:=λa ha=>by simp [ha.ev hx,ha.ev hy]
theorem ZQ {x y z:Operand} {v u s:Value} (hx:ev e x=some v) (hy:ev e y=some u) (hz:ev e z=some s):∀ a,Has n e a->#[x,y,z].map a.eval=#[v,u,s]:=λa ha=>by simp [ha.ev hx,ha.ev hy,ha.ev hz]
theorem Z7a {x y z k:Operand} {v u s r:Value} (hx:ev e x=some v) (hy:ev e y=some u) (hz:ev e z=some s) (hk:ev e k=some r):∀ a,Has n e a->#[x,y,z,k].map a.eval=#[v,u,s,r]:=
 λa ha=>by simp [ha.ev hx,ha.ev hy,ha.ev hz,ha.ev hk]
theorem Zl6 {x y z k l:Operand} {v u s r q:Value} (hx:ev e x=some v) (hy:ev e y=some u) (hz:ev e z=some s) (hk:ev e k=some r) (hl:ev e l=some q):∀ a,Has n e a->#[x,y,z,k,l].map a.eval=#[v,u,s,r,q]:=
 λa ha=>by simp [ha.ev hx,ha.ev hy,ha.ev hz,ha.ev hk,ha.ev hl]
end rules
theorem mkF {P:Program} {f:Nat} {fn:Func} {c:Code} (h:P.funcs[f]?=some fn) (h2:(fn.name == "runtime.NumGoroutine")=false:=by kernel_rfl) (h3:fn.body=some c:=by exact rfl):Fun P f fn:=⟨h,enters_of h h2 h3⟩
theorem uM {P:Program} {t:Nat} {d:TypeDesc} (h:P.underlying t=some d):Und P t d:=⟨h⟩
end Go.Eng
namespace Go.Proofs.YteibicnbkggiiaaGreatDoor
open Go Go.Eng
theorem sMz (t k:Nat) (h:(Tryz.prog.info? t).map (·.size)=some k:=by kernel_rfl):Siz Tryz.prog t k:=⟨h⟩
theorem bMz (t k:Nat) (h:(Tryz.prog.info? t).map (·.bytes)=some k:=by kernel_rfl):Byt Tryz.prog t k:=⟨h⟩
theorem zMz (t:Nat) (z:Value) (h:(Tryz.prog.info? t).bind (·.zero)=some z:=by kernel_rfl):Zer Tryz.prog t z:=⟨h⟩
theorem fMz {t:Nat} (i off k:Nat) {fs:Array Field} {f:Field} (hu:Tryz.prog.underlying t=some (.struct fs)) (h1:fs[i]?=some f:=by exact rfl) (h2:f.offset=off:=by exact rfl) (h3:(Tryz.prog.info? f.type).map (·.size)=some (k+1):=by kernel_rfl):Fld Tryz.prog t i off:=⟨fs,f,k,hu,h1,h2,h3⟩
theorem mixed:Tryz.prog.follows .mixedOrders=true:=by kernel_rfl
abbrev Zoi:=uM Tryz.underlying3
abbrev Zoj:=sMz 3 1
abbrev Zok:=bMz 3 8
abbrev Zol:=zMz 3 (.int .i64 0)
abbrev Zom:=uM Tryz.underlying4
abbrev Zon:=sMz 4 1
abbrev Zoo:=bMz 4 1
abbrev Zop:=zMz 4 (.bool false)
abbrev Zoq:=uM Tryz.underlying5
abbrev Zor:=sMz 5 1
abbrev Zos:=uM Tryz.underlying9
abbrev Zot:=sMz 9 1
abbrev Zou:=bMz 9 16
abbrev Zov:=zMz 9 (.string ByteArray.empty)
abbrev Zl7:=uM Tryz.underlying20
abbrev Zl8:=uM Tryz.underlying22
abbrev Zl9:=sMz 22 1
abbrev Zla:=bMz 22 24
abbrev Zlb:=zMz 22 (.slice none 0 0)
abbrev Zlc:=uM Tryz.underlying24
abbrev Zld:=sMz 24 6
abbrev Zle:=bMz 24 56
abbrev Zlf:=zMz 24 (.agg #[.int .i64 0,.string ByteArray.empty,.int .i64 0,.int .i64 0,.int .i64 0,.int .i64 0])
abbrev Zf1:=fMz 0 0 0 Tryz.underlying24
abbrev Zf2:=fMz 1 1 0 Tryz.underlying24
abbrev Zf3:=fMz 2 2 0 Tryz.underlying24
abbrev Zf4:=fMz 3 3 0 Tryz.underlying24
abbrev Zf5:=fMz 4 4 0 Tryz.underlying24
abbrev Zf6:=fMz 5 5 0 Tryz.underlying24
abbrev Zlg:=uM Tryz.underlying25
abbrev Zlh:=uM Tryz.underlying27
abbrev Zli:=sMz 27 7
abbrev Zlj:=bMz 27 120
abbrev Zlk:=zMz 27 (.agg #[.string ByteArray.empty,.int .i64 0,.string ByteArray.empty,.slice none 0 0,.slice none 0 0,.string ByteArray.empty,.string ByteArray.empty])
abbrev Zf7:=fMz 0 0 0 Tryz.underlying27
abbrev Zf8:=fMz 1 1 0 Tryz.underlying27
abbrev Zf9:=fMz 2 2 0 Tryz.underlying27
abbrev Zfa:=fMz 3 3 0 Tryz.underlying27
abbrev Zfb:=fMz 4 4 0 Tryz.underlying27
abbrev Zfc:=fMz 5 5 0 Tryz.underlying27
abbrev Zfd:=fMz 6 6 0 Tryz.underlying27
abbrev Zll:=uM Tryz.underlying29
abbrev Zlm:=sMz 29 2
abbrev Zln:=bMz 29 16
abbrev Zlo:=zMz 29 (.agg #[.int .i64 0,.int .i64 0])
abbrev Zfe:=fMz 0 0 0 Tryz.underlying29
abbrev Zff:=fMz 1 1 0 Tryz.underlying29
abbrev Zlp:=uM Tryz.underlying30
abbrev Zlq:=sMz 30 1
abbrev Zlr:=uM Tryz.underlying32
abbrev Zls:=sMz 32 5
abbrev Zlt:=bMz 32 56
abbrev Zlu:=zMz 32 (.agg #[.int .i64 0,.int .i64 0,.int .i64 0,.int .i64 0,.slice none 0 0])
abbrev Zfg:=fMz 0 0 0 Tryz.underlying32
abbrev Zfh:=fMz 1 1 0 Tryz.underlying32
abbrev Zfi:=fMz 2 2 0 Tryz.underlying32
abbrev Zfj:=fMz 3 3 0 Tryz.underlying32
abbrev Zfk:=fMz 4 4 0 Tryz.underlying32
abbrev Zlv:=uM Tryz.underlying34
abbrev Zlw:=sMz 34 22
abbrev Zfl:=fMz 0 0 0 Tryz.underlying34
abbrev Zfm:=fMz 1 1 0 Tryz.underlying34
abbrev Zfn:=fMz 2 2 5 Tryz.underlying34
abbrev Zfo:=fMz 3 8 6 Tryz.underlying34
abbrev Zfp:=fMz 4 15 1 Tryz.underlying34
abbrev Zfq:=fMz 5 17 4 Tryz.underlying34
abbrev Zlx:=uM Tryz.underlying35
abbrev Zly:=sMz 35 1
abbrev Zlz:=uM Tryz.underlying36
abbrev ZlA:=sMz 36 1
abbrev ZlB:=uM Tryz.underlying37
abbrev ZlC:=sMz 37 1
abbrev ZlD:=uM Tryz.underlying38
abbrev ZlE:=sMz 38 1
abbrev ZlF:=uM Tryz.underlying39
abbrev ZlG:=sMz 39 1
abbrev ZlH:=uM Tryz.underlying40
abbrev ZlI:=sMz 40 7
abbrev ZlJ:=uM Tryz.underlying41
abbrev ZlK:=sMz 41 1
abbrev ZlL:=uM Tryz.underlying42
abbrev ZlM:=sMz 42 1
abbrev ZlN:=uM Tryz.underlying43
abbrev ZlO:=sMz 43 1
abbrev ZlP:=uM Tryz.underlying45
abbrev ZlQ:=sMz 45 2
abbrev ZlR:=zMz 45 (.agg #[.int .i64 0,.slice none 0 0])
abbrev Zfr:=fMz 0 0 0 Tryz.underlying45
abbrev Zfs:=fMz 1 1 0 Tryz.underlying45
abbrev ZlS:=uM Tryz.underlying47
abbrev ZlT:=sMz 47 12
abbrev ZlU:=zMz 47 (.agg #[.bool false,.bool false,.bool false,.bool false,.bool false,.bool false,.bool false,.slice none 0 0,.slice none 0 0,.int .i64 0,.slice none 0 0,.int .i64 0])
abbrev Zft:=fMz 0 0 6 Tryz.underlying47
abbrev Zfu:=fMz 1 7 0 Tryz.underlying47
abbrev Zfv:=fMz 2 8 0 Tryz.underlying47
abbrev Zfw:=fMz 3 9 1 Tryz.underlying47
abbrev Zfx:=fMz 4 11 0 Tryz.underlying47
abbrev ZlV:=uM Tryz.underlying49
abbrev ZlW:=sMz 49 19
abbrev ZlX:=zMz 49 (.agg #[.slice none 0 0,.slice none 0 0,.slice none 0 0,.slice none 0 0,.slice none 0 0,.bool false,.bool false,.bool false,.bool false,.bool false,.bool false,.bool false,.slice none 0 0,.slice none 0 0,.int .i64 0,.slice none 0 0,.int .i64 0,.int .i64 0,.int .i64 0])
abbrev Zfy:=fMz 0 0 0 Tryz.underlying49
abbrev Zfz:=fMz 1 1 0 Tryz.underlying49
abbrev ZfA:=fMz 2 2 0 Tryz.underlying49
abbrev ZfB:=fMz 3 3 0 Tryz.underlying49
abbrev ZfC:=fMz 4 4 0 Tryz.underlying49
abbrev ZfD:=fMz 5 5 11 Tryz.underlying49
abbrev ZfE:=fMz 6 17 0 Tryz.underlying49
abbrev ZfF:=fMz 7 18 0 Tryz.underlying49
abbrev ZlY:=uM Tryz.underlying52
abbrev ZlZ:=sMz 52 1
abbrev Zm0:=uM Tryz.underlying56
abbrev Zm1:=uM Tryz.underlying60
abbrev Zm2:=sMz 60 8
abbrev Zm3:=zMz 60 (.agg #[.int .i64 0,.bool false,.int .i64 0,.string ByteArray.empty,.int .i64 0,.int .i64 0,.int .i64 0,.int .i64 0])
abbrev ZfG:=fMz 0 0 0 Tryz.underlying60
abbrev ZfH:=fMz 1 1 0 Tryz.underlying60
abbrev ZfI:=fMz 2 2 5 Tryz.underlying60
abbrev Zm4:=uM Tryz.underlying76
abbrev Zm5:=uM Tryz.underlying80
abbrev Zm6:=uM Tryz.underlying82
abbrev Zm7:=sMz 82 4
abbrev Zm8:=zMz 82 (.agg #[.int .i64 0,.int .i64 0,.string ByteArray.empty,.slice none 0 0])
abbrev ZfJ:=fMz 0 0 0 Tryz.underlying82
abbrev ZfK:=fMz 1 1 0 Tryz.underlying82
abbrev ZfL:=fMz 2 2 0 Tryz.underlying82
abbrev ZfM:=fMz 3 3 0 Tryz.underlying82
abbrev Zm9:=uM Tryz.underlying84
abbrev Zma:=sMz 84 13
abbrev Zmb:=bMz 84 184
abbrev Zmc:=zMz 84 (.agg #[.string ByteArray.empty,.int .i64 0,.string ByteArray.empty,.int .i64 0,.int .i64 0,.string ByteArray.empty,.slice none 0 0,.int .i64 0,.int .i64 0,.string ByteArray.empty,.slice none 0 0,.string ByteArray.empty,.string ByteArray.empty])
abbrev ZfN:=fMz 0 0 0 Tryz.underlying84
abbrev ZfO:=fMz 1 1 0 Tryz.underlying84
abbrev ZfP:=fMz 2 2 0 Tryz.underlying84
abbrev ZfQ:=fMz 3 3 3 Tryz.underlying84
abbrev ZfR:=fMz 4 7 3 Tryz.underlying84
abbrev ZfS:=fMz 5 11 0 Tryz.underlying84
abbrev ZfT:=fMz 6 12 0 Tryz.underlying84
abbrev Zmd:=uM Tryz.underlying88
abbrev Zme:=sMz 88 2
abbrev Zmf:=bMz 88 16
abbrev Zmg:=zMz 88 (.agg #[.int .i64 0,.int .i64 0])
abbrev ZfU:=fMz 0 0 0 Tryz.underlying88
abbrev ZfV:=fMz 1 1 0 Tryz.underlying88
abbrev Zmh:=uM Tryz.underlying98
abbrev ZhO:=uM Tryz.underlying115
abbrev ZhP:=uM Tryz.underlying116
abbrev ZhQ:=uM Tryz.underlying122
abbrev ZhR:=sMz 122 9
abbrev ZhS:=bMz 122 72
abbrev ZhT:=zMz 122 (.agg #[.int .i64 0,.int .i64 0,.int .i64 0,.int .i64 0,.int .i64 0,.int .i64 0,.int .i64 0,.int .i64 0,.int .i64 0])
abbrev Zch:=fMz 0 0 0 Tryz.underlying122
abbrev Zci:=fMz 1 1 0 Tryz.underlying122
abbrev Zcj:=fMz 2 2 0 Tryz.underlying122
abbrev Zck:=fMz 3 3 0 Tryz.underlying122
abbrev Zcl:=fMz 4 4 0 Tryz.underlying122
abbrev Zcm:=fMz 5 5 0 Tryz.underlying122
abbrev Zcn:=fMz 6 6 0 Tryz.underlying122
abbrev Zco:=fMz 7 7 0 Tryz.underlying122
abbrev Zcp:=fMz 8 8 0 Tryz.underlying122
abbrev ZhU:=uM Tryz.underlying124
abbrev ZhV:=sMz 124 3
abbrev ZhW:=bMz 124 24
abbrev ZhX:=zMz 124 (.agg #[.int .i64 0,.int .i64 0,.int .i64 0])
abbrev Zcq:=fMz 0 0 0 Tryz.underlying124
abbrev Zcr:=fMz 1 1 0 Tryz.underlying124
abbrev Zcs:=fMz 2 2 0 Tryz.underlying124
abbrev ZhY:=uM Tryz.underlying127
abbrev ZhZ:=sMz 127 2
abbrev Zi0:=bMz 127 16
abbrev Zi1:=zMz 127 (.agg #[.int .i64 0,.int .i64 0])
abbrev Zct:=fMz 0 0 0 Tryz.underlying127
abbrev Zcu:=fMz 1 1 0 Tryz.underlying127
abbrev Zcv:=fMz 0 0 0 Tryz.underlying131
abbrev Zcw:=fMz 1 1 0 Tryz.underlying131
abbrev Zi2:=uM Tryz.underlying138
abbrev Zi3:=sMz 138 4
abbrev Zi4:=bMz 138 32
abbrev Zi5:=zMz 138 (.agg #[.int .i64 0,.int .i64 0,.int .i64 0,.int .i64 0])
abbrev Zcx:=fMz 0 0 0 Tryz.underlying138
abbrev Zcy:=fMz 1 1 0 Tryz.underlying138
abbrev Zcz:=fMz 2 2 0 Tryz.underlying138
abbrev ZcA:=fMz 3 3 0 Tryz.underlying138
abbrev Zi6:=uM Tryz.underlying145
abbrev Zi7:=uM Tryz.underlying168
abbrev Zi8:=uM Tryz.underlying174
abbrev Zi9:=sMz 174 2
abbrev Zia:=bMz 174 16
abbrev Zib:=zMz 174 (.agg #[.int .i64 0,.int .i64 0])
abbrev ZcB:=fMz 0 0 0 Tryz.underlying174
abbrev ZcC:=fMz 1 1 0 Tryz.underlying174
abbrev Zic:=uM Tryz.underlying176
abbrev ZcD:=fMz 0 0 0 Tryz.underlying178
abbrev ZcE:=fMz 1 1 0 Tryz.underlying178
abbrev ZcF:=fMz 2 2 0 Tryz.underlying178
abbrev Zid:=uM Tryz.underlying181
abbrev Zie:=uM Tryz.underlying182
abbrev Zif:=sMz 184 2
abbrev ZcG:=fMz 0 0 0 Tryz.underlying184
abbrev ZcH:=fMz 1 1 0 Tryz.underlying184
abbrev Zig:=uM Tryz.underlying185
abbrev Zih:=sMz 185 8
abbrev Zii:=zMz 185 (.agg #[.nilFunc,.nilFunc,.nilFunc,.nilFunc,.nilFunc,.nilFunc,.nilFunc,.nilFunc])
abbrev Zij:=uM Tryz.underlying237
abbrev Zik:=sMz 237 3
abbrev Zil:=zMz 237 (.agg #[.int .i64 0,.int .i64 0,.int .i64 0])
abbrev ZcI:=fMz 0 0 0 Tryz.underlying237
abbrev ZcJ:=fMz 1 1 0 Tryz.underlying237
abbrev ZcK:=fMz 2 2 0 Tryz.underlying237
abbrev Zim:=sMz 248 2
abbrev Zin:=zMz 248 (.agg #[.int .i64 0,.int .i64 0])
abbrev Zio:=uM Tryz.underlying287
abbrev Zip:=uM Tryz.underlying290
abbrev Ziq:=uM Tryz.underlying293
abbrev Zir:=uM Tryz.underlying294
abbrev Zis:=sMz 297 4
abbrev ZcL:=fMz 0 0 0 Tryz.underlying297
abbrev ZcM:=fMz 1 1 0 Tryz.underlying297
abbrev ZcN:=fMz 2 2 0 Tryz.underlying297
abbrev ZcO:=fMz 3 3 0 Tryz.underlying297
abbrev Zit:=uM Tryz.underlying326
abbrev Ziu:=sMz 326 3
abbrev Ziv:=zMz 326 (.agg #[.int .i64 0,.int .i64 0,.int .i64 0])
abbrev Ziw:=uM Tryz.underlying328
abbrev Zix:=uM Tryz.underlying340
abbrev Ziy:=sMz 340 7
abbrev Ziz:=uM Tryz.underlying347
abbrev ZiA:=uM Tryz.underlying372
abbrev ZiB:=uM Tryz.underlying375
abbrev ZiC:=sMz 375 2
abbrev ZiD:=bMz 375 16
abbrev ZiE:=zMz 375 (.agg #[.int .i64 0,.int .i64 0])
abbrev ZcP:=fMz 0 0 0 Tryz.underlying375
abbrev ZiF:=uM Tryz.underlying390
abbrev Zow:=mkF Tryz.func5
abbrev Zox:=mkF Tryz.func6
abbrev Zoy:=mkF Tryz.func7
abbrev Zoz:=mkF Tryz.func8
abbrev ZoA:=mkF Tryz.func9
abbrev Zmi:=mkF Tryz.func11
abbrev Zmj:=mkF Tryz.func12
abbrev Zmk:=mkF Tryz.func17
abbrev Zml:=mkF Tryz.func18
abbrev Zmm:=mkF Tryz.func19
abbrev Zmn:=mkF Tryz.func20
abbrev Zmo:=mkF Tryz.func21
abbrev Zmp:=mkF Tryz.func22
abbrev Zmq:=mkF Tryz.func23
abbrev Zmr:=mkF Tryz.func24
abbrev Zms:=mkF Tryz.func25
abbrev Zmt:=mkF Tryz.func26
abbrev Zmu:=mkF Tryz.func27
abbrev Zmv:=mkF Tryz.func28
abbrev Zmw:=mkF Tryz.func29
abbrev Zmx:=mkF Tryz.func30
abbrev Zmy:=mkF Tryz.func31
abbrev Zmz:=mkF Tryz.func32
abbrev ZmA:=mkF Tryz.func33
abbrev ZmB:=mkF Tryz.func34
abbrev ZmC:=mkF Tryz.func35
abbrev ZmD:=mkF Tryz.func36
abbrev ZmE:=mkF Tryz.func37
abbrev ZmF:=mkF Tryz.func38
abbrev ZmG:=mkF Tryz.func39
abbrev ZmH:=mkF Tryz.func40
abbrev ZmI:=mkF Tryz.func43
abbrev ZmJ:=mkF Tryz.func44
abbrev ZmK:=mkF Tryz.func49
abbrev ZmL:=mkF Tryz.func56
abbrev ZmM:=mkF Tryz.func57
abbrev ZmN:=mkF Tryz.func59
abbrev ZmO:=mkF Tryz.func60
abbrev ZmP:=mkF Tryz.func61
abbrev ZmQ:=mkF Tryz.func62
abbrev ZmR:=mkF Tryz.func63
abbrev ZmS:=mkF Tryz.func64
abbrev ZmT:=mkF Tryz.func65
abbrev ZmU:=mkF Tryz.func66
abbrev ZmV:=mkF Tryz.func67
abbrev ZmW:=mkF Tryz.func68
abbrev ZmX:=mkF Tryz.func69
abbrev ZmY:=mkF Tryz.func70
abbrev ZmZ:=mkF Tryz.func71
abbrev Zn0:=mkF Tryz.func72
abbrev Zn1:=mkF Tryz.func73
abbrev Zn2:=mkF Tryz.func74
abbrev Zn3:=mkF Tryz.func75
abbrev Zn4:=mkF Tryz.func76
abbrev Zn5:=mkF Tryz.func77
abbrev Zn6:=mkF Tryz.func78
abbrev Zn7:=mkF Tryz.func82
abbrev Zn8:=mkF Tryz.func86
abbrev Zn9:=mkF Tryz.func93
abbrev Zna:=mkF Tryz.func94
abbrev Znb:=mkF Tryz.func95
abbrev Znc:=mkF Tryz.func96
abbrev Znd:=mkF Tryz.func97
abbrev Zne:=mkF Tryz.func98
abbrev Znf:=mkF Tryz.func99
abbrev ZiG:=mkF Tryz.func100
abbrev ZiH:=mkF Tryz.func101
abbrev ZiI:=mkF Tryz.func102
abbrev ZiJ:=mkF Tryz.func103
abbrev ZiK:=mkF Tryz.func104
abbrev ZiL:=mkF Tryz.func105
abbrev ZiM:=mkF Tryz.func106
abbrev ZiN:=mkF Tryz.func107
abbrev ZiO:=mkF Tryz.func108
abbrev ZiP:=mkF Tryz.func109
abbrev ZiQ:=mkF Tryz.func110
abbrev ZiR:=mkF Tryz.func111
abbrev ZiS:=mkF Tryz.func112
abbrev ZiT:=mkF Tryz.func113
abbrev ZiU:=mkF Tryz.func114
abbrev ZiV:=mkF Tryz.func115
abbrev ZiW:=mkF Tryz.func134
abbrev ZiX:=mkF Tryz.func139
abbrev ZiY:=mkF Tryz.func140
abbrev ZiZ:=mkF Tryz.func141
abbrev Zj0:=mkF Tryz.func142
abbrev Zj1:=mkF Tryz.func143
abbrev Zj2:=mkF Tryz.func144
abbrev Zj3:=mkF Tryz.func145
abbrev Zj4:=mkF Tryz.func146
abbrev Zj5:=mkF Tryz.func147
abbrev Zj6:=mkF Tryz.func148
abbrev Zj7:=mkF Tryz.func149
abbrev Zj8:=mkF Tryz.func150
abbrev Zj9:=mkF Tryz.func151
abbrev Zja:=mkF Tryz.func152
abbrev Zjb:=mkF Tryz.func153
abbrev Zjc:=mkF Tryz.func154
abbrev Zjd:=mkF Tryz.func155
abbrev Zje:=mkF Tryz.func156
abbrev Zjf:=mkF Tryz.func157
abbrev Zjg:=mkF Tryz.func158
abbrev Zjh:=mkF Tryz.func159
abbrev Zji:=mkF Tryz.func160
abbrev Zjj:=mkF Tryz.func161
abbrev Zjk:=mkF Tryz.func162
abbrev Zjl:=mkF Tryz.func163
abbrev Zjm:=mkF Tryz.func164
abbrev Zjn:=mkF Tryz.func165
abbrev Zjo:=mkF Tryz.func166
abbrev Zjp:=mkF Tryz.func167
abbrev Zjq:=mkF Tryz.func168
abbrev Zjr:=mkF Tryz.func169
abbrev Zjs:=mkF Tryz.func170
abbrev Zjt:=mkF Tryz.func171
abbrev Zju:=mkF Tryz.func172
abbrev Zjv:=mkF Tryz.func173
abbrev Zjw:=mkF Tryz.func174
abbrev Zjx:=mkF Tryz.func175
abbrev Zjy:=mkF Tryz.func176
abbrev Zjz:=mkF Tryz.func178
abbrev ZjA:=mkF Tryz.func187
abbrev ZjB:=mkF Tryz.func202
abbrev ZjC:=mkF Tryz.func205
abbrev ZjD:=mkF Tryz.func206
abbrev ZjE:=mkF Tryz.func207
abbrev ZjF:=mkF Tryz.func208
abbrev ZjG:=mkF Tryz.func209
abbrev ZjH:=mkF Tryz.func210
abbrev ZjI:=mkF Tryz.func211
abbrev ZjJ:=mkF Tryz.func212
abbrev ZjK:=mkF Tryz.func213
abbrev ZjL:=mkF Tryz.func214
abbrev ZjM:=mkF Tryz.func215
abbrev ZjN:=mkF Tryz.func216
abbrev ZjO:=mkF Tryz.func217
abbrev ZjP:=mkF Tryz.func218
abbrev ZjQ:=mkF Tryz.func219
abbrev ZjR:=mkF Tryz.func220
abbrev ZjS:=mkF Tryz.func222
abbrev ZjT:=mkF Tryz.func233
abbrev ZjU:=mkF Tryz.func234
abbrev ZjV:=mkF Tryz.func235
abbrev ZjW:=mkF Tryz.func268
abbrev ZjX:=mkF Tryz.func270
abbrev ZjY:=mkF Tryz.func272
abbrev ZjZ:=mkF Tryz.func275
abbrev Zk0:=mkF Tryz.func280
abbrev Zk1:=mkF Tryz.func281
abbrev Zk2:=mkF Tryz.func282
abbrev Zk3:=mkF Tryz.func300
abbrev Zk4:=mkF Tryz.func317
abbrev Zk5:=mkF Tryz.func318
abbrev Zk6:=mkF Tryz.func320
abbrev Zk7:=mkF Tryz.func329
abbrev Zk8:=mkF Tryz.func342
abbrev Zk9:=mkF Tryz.func358
abbrev Zka:=mkF Tryz.func359
abbrev Zkb:=mkF Tryz.func366
abbrev Zkc:=mkF Tryz.func369
abbrev CC (f:Nat) (a:Array Value) (w:World) (G:Value->World->Prop):=Calls Tryz.prog f a w (Ret G)
attribute [instance] Zoi Zom Zoq Zos Zl7 Zl8 Zlc Zlg Zlh Zll Zlp Zlr Zlv Zlx Zlz ZlB ZlD ZlF ZlH ZlJ ZlL ZlN ZlP ZlS ZlV ZlY Zm0 Zm1 Zm4 Zm5 Zm6 Zm9 Zmd Zmh ZhO ZhP ZhQ ZhU ZhY Zi2 Zi6 Zi7 Zi8 Zic Zid Zie Zig Zij Zio Zip Ziq Zir Zit Ziw Zix Ziz ZiA ZiB ZiF Zow Zox Zoy Zoz ZoA Zmi Zmj Zmk Zml Zmm Zmn Zmo Zmp Zmq Zmr Zms Zmt Zmu Zmv Zmw Zmx Zmy Zmz ZmA ZmB ZmC ZmD ZmE ZmF ZmG ZmH ZmI ZmJ ZmK ZmL ZmM ZmN ZmO ZmP ZmQ ZmR ZmS ZmT ZmU ZmV ZmW ZmX ZmY ZmZ Zn0 Zn1 Zn2 Zn3 Zn4 Zn5 Zn6 Zn7 Zn8 Zn9 Zna Znb Znc Znd Zne Znf ZiG ZiH ZiI ZiJ ZiK ZiL ZiM ZiN ZiO ZiP ZiQ ZiR ZiS ZiT ZiU ZiV ZiW ZiX ZiY ZiZ Zj0 Zj1 Zj2 Zj3 Zj4 Zj5 Zj6 Zj7 Zj8 Zj9 Zja Zjb Zjc Zjd Zje Zjf Zjg Zjh Zji Zjj Zjk Zjl Zjm Zjn Zjo Zjp Zjq Zjr Zjs Zjt Zju Zjv Zjw Zjx Zjy Zjz ZjA ZjB ZjC ZjD ZjE ZjF ZjG ZjH ZjI ZjJ ZjK ZjL ZjM ZjN ZjO ZjP ZjQ ZjR ZjS ZjT ZjU ZjV ZjW ZjX ZjY ZjZ Zk0 Zk1 Zk2 Zk3 Zk4 Zk5 Zk6 Zk7 Zk8 Zk9 Zka Zkb Zkc Zoj Zok Zol Zon Zoo Zop Zor Zot Zou Zov Zl9 Zla Zlb Zld Zle Zlf Zf1 Zf2 Zf3 Zf4 Zf5 Zf6 Zli Zlj Zlk Zf7 Zf8 Zf9 Zfa Zfb Zfc Zfd Zlm Zln Zlo Zfe Zff Zlq Zls Zlt Zlu Zfg Zfh Zfi Zfj Zfk Zlw Zfl Zfm Zfn Zfo Zfp Zfq Zly ZlA ZlC ZlE ZlG ZlI ZlK ZlM ZlO ZlQ ZlR Zfr Zfs ZlT ZlU Zft Zfu Zfv Zfw Zfx ZlW ZlX Zfy Zfz ZfA ZfB ZfC ZfD ZfE ZfF ZlZ Zm2 Zm3 ZfG ZfH ZfI Zm7 Zm8 ZfJ ZfK ZfL ZfM Zma Zmb Zmc ZfN ZfO ZfP ZfQ ZfR ZfS ZfT Zme Zmf Zmg ZfU ZfV ZhR ZhS ZhT Zch Zci Zcj Zck Zcl Zcm Zcn Zco Zcp ZhV ZhW ZhX Zcq Zcr Zcs ZhZ Zi0 Zi1 Zct Zcu Zcv Zcw Zi3 Zi4 Zi5 Zcx Zcy Zcz ZcA Zi9 Zia Zib ZcB ZcC ZcD ZcE ZcF Zif ZcG ZcH Zih Zii Zik Zil ZcI ZcJ ZcK Zim Zin Zis ZcL ZcM ZcN ZcO Ziu Ziv Ziy ZiC ZiD ZiE ZcP
end Go.Proofs.YteibicnbkggiiaaGreatDoor
namespace Go.Eng
open Go Go.RowKit Go.Proofs
structure Stp (S:List Nat) (w w':World):Prop where
 os:w'.os=w.os
 tape:w'.tape=w.tape
 output:w'.output=w.output
 size:w.heap.size<=w'.heap.size
 block:∀ b,b<w.heap.size->b∉S->w'.heap[b]?=w.heap[b]?
theorem Stp.refl (S:List Nat) (w:World):Stp S w w:=⟨rfl,rfl,rfl,Xq _,λ_ _ _=>rfl⟩
theorem Stp.trans {S:List Nat} {a b c:World} (h:Stp S a b) (k:Stp S b c):Stp S a c:=
 ⟨k.os.trans h.os,k.tape.trans h.tape,k.output.trans h.output,Xl h.size k.size,λi hi hn=>(k.block i (Xc hi h.size) hn).trans (h.block i hi hn)⟩
theorem Stp.mono {S S':List Nat} {a b:World} (h:Stp S a b) (hs:∀ x∈S,x∈S'):Stp S' a b:=⟨h.os,h.tape,h.output,h.size,λi hi hn=>h.block i hi (λhx=>hn (hs i hx))⟩
theorem Stp.own {S S':List Nat} {a b c:World} (h:Stp S a b) (k:Stp S' b c) (hs:∀ x∈S',x∈S\/a.heap.size<=x):Stp S a c:=
 ⟨k.os.trans h.os, k.tape.trans h.tape, k.output.trans h.output, Xl h.size k.size, λi hi hn => (k.block i (Xc hi h.size) (λhx => by
   rcases hs i hx with h1|h1
   exact hn h1;omega)).trans (h.block i hi hn)⟩
theorem Stp.below {a b:World} (h:Stp [] a b):Below a.heap.size a b:=⟨h.os,h.tape,h.output,h.size,λi hi=>h.block i hi (by simp)⟩
theorem Stp.cell {S:List Nat} {w w':World} (h:Stp S w w') {b o:Nat} {v:Value} (hb:b∉S) (hc:w.cell? ⟨b,o,none⟩=some v):w'.cell? ⟨b,o,none⟩=some v:=by
 have hlt:b<w.heap.size:=block_lt_of_cell (a:=⟨b,o,none⟩) hc;rw [<- hc];exact World.cell?_of_block (w:=w) (h.block b hlt hb)
theorem Stp.drew (S:List Nat) (w:World):Stp S w w.drew:=⟨rfl,rfl,rfl,Xq _,λ_ _ _=>rfl⟩
theorem Stp.alloc (S:List Nat) (w:World) (o:Obj):Stp S w (w.alloc o):=⟨rfl,rfl,rfl,by simp,λk hk _=>Below.heap_alloc w o k hk⟩
theorem Stp.of_grown {w w':World} {row:Option Nat} (h:w.grownBy w' row):Stp row.toList w w':=
 ⟨h.os,h.tape,h.output,h.size,λk hk hn=>h.block k hk (λe=>hn (by simp [<- e]))⟩
class Z3 (α:Type) where
 k:Nat
 rep:List Nat->World->α->List Value->Prop
 len:∀ {X:List Nat} {w:World} {x:α} {cs:List Value},rep X w x cs->cs.length=k
 one:∀ {X:List Nat} {w:World} {x:α} {cs:List Value},rep X w x cs->∀ u∈cs,u.oneCell'=true
 ext:∀ {X S X':List Nat} {w w':World} {x:α} {cs:List Value},rep X w x cs->Stp S w w'->(∀ b∈S,b∈X)->(∀ b∈X',b∈X\/w.heap.size<=b)->rep X' w' x cs
class Z8 (α:Type) where
 k:Nat
 enc:α->List Value
 len:∀ x,(enc x).length=k
 one:∀ x,∀ u∈enc x,u.oneCell'=true
instance {α:Type} [Z8 α]:Z3 α where
 k:=Z8.k α
 rep:=λ_ _ x cs=>cs=Z8.enc x
 len:=λh=>h ▸ Z8.len _
 one:=λh=>h ▸ Z8.one _
 ext:=λh _ _ _=>h
instance:Z8 Int where
 k:=1
 enc:=λx=>[.int .i64 x]
 len:=λ_=>rfl
 one:=by intro x u hu;simp at hu;subst hu;rfl
instance:Z8 Bool where
 k:=1
 enc:=λx=>[.bool x]
 len:=λ_=>rfl
 one:=by intro x u hu;simp at hu;subst hu;rfl
def SlV {α:Type} [Z3 α] (X:List Nat) (w:World) (v:Value) (xs:List α):Prop:=
 ∃ (p : Option Addr) (c : Nat), v = .slice p xs.length c /\ xs.length <= c /\ c <= maxLen /\ (p = none -> c = 0)/\
   ∀ i (h:i<xs.length),∃ b o cs,p=some ⟨b,o,none⟩/\b<w.heap.size/\b∉X/\Z3.rep X w xs[i] cs/\∀ j u,cs[j]?=some u->w.cell? ⟨b,o+i * Z3.k α+j,none⟩=some u
theorem SlV.ext {α:Type} [Z3 α] {X S X':List Nat} {w w':World} {v:Value} {xs:List α} (h:SlV X w v xs) (hS:Stp S w w') (h1:∀ b∈S,b∈X) (h2:∀ b∈X',b∈X\/w.heap.size<=b):SlV X' w' v xs:=by
 obtain ⟨p,c,hv,hl,hm,hn,hc⟩:=h;refine ⟨p,c,hv,hl,hm,hn,λi hi=>?_⟩;obtain ⟨b,o,cs,hp,hb,hx,hr,an⟩:=hc i hi;refine ⟨b,o,cs,hp,Xc hb hS.size,λot=>?_,Z3.ext hr hS h1 h2,λj u hu=>hS.cell (λfR=>hx (h1 b fR)) (an j u hu)⟩;rcases h2 b ot with h|h
 exact hx h;omega
theorem SlV.up {α:Type} [Z3 α] {X:List Nat} {w w':World} {v:Value} {xs:List α} (h:SlV X w v xs) (hS:Stp [] w w'):SlV X w' v xs:=
 h.ext hS (by simp) (λb hb=>.inl hb)
theorem SlV.len {α:Type} [Z3 α] {X:List Nat} {w:World} {v:Value} {xs:List α} (h:SlV X w v xs):∃ p c,v=.slice p xs.length c:=let ⟨p,c,hv,_⟩:=h;⟨p,c,hv⟩
theorem SlV.cells {α:Type} [Z3 α] {X:List Nat} {w:World} {v:Value} {xs:List α} (h:SlV X w v xs):v.cells.toList=[v]:=by
 obtain ⟨p,c,rfl⟩:=h.len;rfl
theorem SlV.one {α:Type} [Z3 α] {X:List Nat} {w:World} {v:Value} {xs:List α} (h:SlV X w v xs):v.oneCell'=true:=by
 obtain ⟨p,c,rfl⟩:=h.len;rfl
theorem SlV.max {α:Type} [Z3 α] {X:List Nat} {w:World} {v:Value} {xs:List α} (h:SlV X w v xs):xs.length<=9223372036854775807:=by
 obtain ⟨p,c,hv,hl,hm,_⟩:=h;simp only [maxLen] at hm;omega
def Zz (v:Value) (i k j:Nat):Addr:=
 match v with
 | .slice (some a) _ _=>⟨a.block,a.off+i * k+j,none⟩
 | _=>⟨0,0,none⟩
def Blk (w:World) (b:Nat) (T:TypeId) (cs:List Value):Prop:=w.heap[b]?=some (.cells cs.toArray T (0,0))
theorem Blk.lt {w:World} {b T:Nat} {cs:List Value} (h:Blk w b T cs):b<w.heap.size:=(Xx.1 h).1
theorem Blk.ext {w w':World} {S:List Nat} {b T:Nat} {cs:List Value} (h:Blk w b T cs) (hS:Stp S w w') (hb:b∉S):Blk w' b T cs:=by
 unfold Blk at *;rw [hS.block b (Blk.lt h) hb];exact h
theorem Blk.up {w w':World} {b T:Nat} {cs:List Value} (h:Blk w b T cs) (hS:Stp [] w w'):Blk w' b T cs:=h.ext hS (by simp)
theorem Blk.cell {w:World} {b T:Nat} {cs:List Value} (h:Blk w b T cs) {j:Nat} {u:Value} (hu:cs[j]?=some u):w.cell? ⟨b,j,none⟩=some u:=by
 unfold Blk at h;simp [World.cell?,h,hu]
section rules
variable {P:Program} {n:Nat} {e:Env} {w:World} {d:Option Nat} {ty:TypeId} {pos:String} {af:Array Edge} {g:Option (Nat×Bool)}
theorem ZfW {α:Type} [Z3 α] {X:List Nat} {xs:List α} {v:Value} {x:Operand} {t:TypeId} {el:TypeId} {cm:World} [hu:Und P t (.slice el)] (hx:ev e x=some v) (hs:SlV X cm v xs) :
 PR P n ⟨d,.call { callee:=.builtin .len,args:=#[x],argTypes:=#[t] },ty,pos,af,g⟩ e w (.int .i64 (xs.length:Int)):=by
 obtain ⟨p,c,rfl⟩:=hs.len;exact Z8z hx
theorem Z3y {α:Type} [Z3 α] {X:List Nat} {xs:List α} {v:Value} {x y:Operand} {t:TypeId} {el k:Nat} [hu:Und P t (.slice el)] [hk:Siz P el k] {z:Int} {i:Nat} {cm:World}
 (hx:ev e x=some v) (hs:SlV X cm v xs) (hy:ev e y=some (.int .i64 z)) (hz:z=(i:Int)) (hi:i<xs.length) :
 PR P n ⟨d,.indexAddr t x y,ty,pos,af,g⟩ e w (.pointer (some (Zz v i k 0))):=by
 refine ⟨λa ha=>?_⟩;obtain ⟨p,c,rfl,hl,hm,hn,hc⟩:=hs;obtain ⟨b,o,cs,rfl,_⟩:=hc i hi;subst hz;have h0:(0:Int)<=(i:Int)/\(i:Int)<(xs.length:Int):=by omega
 have hr:(Instr.indexAt t (.slice (some ⟨b,o,none⟩) xs.length c) (.int .i64 (i:Int))).run P w=.ok (.pointer (some ⟨b,o+i * k,none⟩)) w:=by
  simp only [Instr.indexAt,asIntOf];simp [run_underlying hu.h,Siz.run,Addr.add_lit,hi]
 simp [execOp,ha.ev hx,ha.ev hy,hr,Zz]
theorem Z7b {x:Operand} {t:TypeId} {v:Value} {i k j m off:Nat} [hf:Fld P t m off] (hx:ev e x=some (.pointer (some (Zz v i k j))))
 (hv:∃ p l c,v=.slice (some p) l c):PR P n ⟨d,.fieldAddr t x m,ty,pos,af,g⟩ e w (.pointer (some (Zz v i k (j+off)))):=by
 obtain ⟨p,l,c,rfl⟩:=hv;exact ⟨λa ha=>by simp [execOp,ha.ev hx,Zz,Z3U,YaA]⟩
theorem SlV.isSome {α:Type} [Z3 α] {X:List Nat} {v:Value} {xs:List α} {i:Nat} (h:SlV X w v xs) (hi:i<xs.length):∃ p l c,v=.slice (some p) l c:=by
 obtain ⟨p,c,rfl,_,_,_,hc⟩:=h;obtain ⟨b,o,cs,rfl,_⟩:=hc i hi;exact ⟨_,_,_,rfl⟩
theorem SlV.cell {α:Type} [Z3 α] {X:List Nat} {v:Value} {xs:List α} {i:Nat} (h:SlV X w v xs) (hi:i<xs.length):∃ cs,Z3.rep X w xs[i] cs/\∀ j u,cs[j]?=some u->w.cell? (Zz v i (Z3.k α) j)=some u:=by
 obtain ⟨p,c,rfl,_,_,_,hc⟩:=h;obtain ⟨b,o,cs,rfl,_,_,hr,an⟩:=hc i hi;exact ⟨cs,hr,λj u hu=>by simpa [Zz] using an j u hu⟩
theorem SlV.cellF {α:Type} [Z8 α] {X:List Nat} {v:Value} {xs:List α} {i:Nat} (h:SlV X w v xs) (hi:i<xs.length) {j:Nat} {u:Value} (hu:(Z8.enc xs[i])[j]?=some u):w.cell? (Zz v i (Z8.k α) j)=some u:=by
 obtain ⟨cs,hr,hc⟩:=h.cell hi;have bW:cs=Z8.enc xs[i]:=hr;subst bW;exact hc j u hu
theorem Z4C {α:Type} [Z8 α] {X:List Nat} {xs:List α} {v u:Value} {i j k:Nat} {x:Operand} {t:TypeId} {D:TypeDesc} [hu:Und P t D] (hA:Z03 D=false) (hx:ev e x=some (.pointer (some (Zz v i k j))))
 (hs:SlV X w v xs) (hi:i<xs.length) (hk:k=Z8.k α) (hc:(Z8.enc xs[i])[j]?=some u):PR P n ⟨d,.load t x,ty,pos,af,g⟩ e w u:=
 Jo hA hx (by subst hk;exact hs.cellF hi hc)
theorem Z7c {α:Type} [Z8 α] {X:List Nat} {xs:List α} {v:Value} {us:List Value} {i j k m:Nat} {x:Operand} {t:TypeId} {D:TypeDesc} [hu:Und P t D] (hA:Z03 D=true) [br:Siz P t m] (hx:ev e x=some (.pointer (some (Zz v i k j))))
 (hs:SlV X w v xs) (hi:i<xs.length) (hk:k=Z8.k α) (hl:us.length=m) (hc:((Z8.enc xs[i]).drop j).take m=us):PR P n ⟨d,.load t x,ty,pos,af,g⟩ e w (.agg us.toArray):=by
 obtain ⟨p,l,c,hv⟩:=hs.isSome hi;have an:=λ(q:Nat) (u:Value) (h:(Z8.enc xs[i])[q]?=some u)=>hs.cellF hi h;subst hv;refine Z1e hA hx hl (λq u hq=>?_);have h1:(Z8.enc xs[i])[j+q]?=some u:=by
  rw [<- hc,Yap] at hq;split at hq;simpa using hq;cases hq
 have:=an (j+q) u h1;subst hk;simpa [Zz,YaA] using this
theorem Z7d {α:Type} [Z8 α] {X:List Nat} {xs:List α} {v:Value} {i k:Nat} {x:Operand} {t:TypeId} {D:TypeDesc} [hu:Und P t D] (hA:Z03 D=true) [br:Siz P t k] (hx:ev e x=some (.pointer (some (Zz v i k 0))))
 (hs:SlV X w v xs) (hi:i<xs.length) (hk:k=Z8.k α):PR P n ⟨d,.load t x,ty,pos,af,g⟩ e w (.agg (Z8.enc xs[i]).toArray):=
 Z7c hA hx hs hi hk (by rw [hk];exact Z8.len _) (by rw [Ybp,XV (by rw [hk,Z8.len];exact Xq _)])
theorem ZM {b T o:Nat} {cs:List Value} {u:Value} {x:Operand} {t:TypeId} {D:TypeDesc} [hu:Und P t D] (hA:Z03 D=false) (hx:ev e x=some (.pointer (some ⟨b,o,none⟩))) (hb:Blk w b T cs) (hc:cs[o]?=some u) :
 PR P n ⟨d,.load t x,ty,pos,af,g⟩ e w u:=Jo hA hx (hb.cell hc)
theorem Zr {b T o m:Nat} {cs us:List Value} {x:Operand} {t:TypeId} {D:TypeDesc} [hu:Und P t D] (hA:Z03 D=true) [br:Siz P t m] (hx:ev e x=some (.pointer (some ⟨b,o,none⟩))) (hb:Blk w b T cs)
 (hl:us.length=m) (hc:(cs.drop o).take m=us):PR P n ⟨d,.load t x,ty,pos,af,g⟩ e w (.agg us.toArray):=by
 refine Z1e hA hx hl (λq u hq=>hb.cell ?_);rw [<- hc,Yap] at hq;split at hq;simpa using hq;cases hq
theorem ZK {b T m:Nat} {cs:List Value} {x:Operand} {t:TypeId} {D:TypeDesc} [hu:Und P t D] (hA:Z03 D=true) [br:Siz P t m] (hx:ev e x=some (.pointer (some ⟨b,0,none⟩))) (hb:Blk w b T cs)
 (hl:cs.length=m):PR P n ⟨d,.load t x,ty,pos,af,g⟩ e w (.agg cs.toArray):=
 Zr hA hx hb hl (by rw [Ybp,XV (by omega)])
def Z8B (w:World) (T:TypeId) (cs:List Value) (v:Value) (w':World):Prop:=∃ b,v=.pointer (some ⟨b,0,none⟩)/\w.heap.size<=b/\Blk w' b T cs/\Stp [] w w'
theorem Z8C (w:World) (T:TypeId) (cs:List Value):Z8B w T cs (.pointer (some ⟨w.heap.size,0,none⟩)) (w.alloc (.cells cs.toArray T)):=
 ⟨_,rfl,Xq _,heap_alloc_new w _,Stp.alloc _ _ _⟩
theorem ZF {o:Oper} {G:Value->World->Prop} {v:Value} {w':World} (h:∀ a,Has n e a->(execOp a.eval o).run P w=.ok (.value v) w') (hg:G v w'):OE P n o e w G:=
 ⟨λa ha Q=>by unfold Oper.wp;rw [h a ha];exact ⟨v,rfl,hg⟩⟩
theorem Z2o {o:Oper} {G:Value->World->Prop} {w':World} (h:∀ a,Has n e a->(execOp a.eval o).run P w=.ok .skip w') (hg:G undef w'):OE P n o e w G:=
 ⟨λa ha Q=>by unfold Oper.wp;rw [h a ha];exact ⟨undef,rfl,hg⟩⟩
theorem OE.mono {o:Oper} {G G':Value->World->Prop} (h:OE P n o e w G) (hg:∀ v w',G v w'->G' v w'):OE P n o e w G':=
 ⟨λa ha Q=>Oper.wp_mono (λa' w' ⟨v,h1,h2⟩=>⟨v,h1,hg v w' h2⟩) (h.h a ha Q)⟩
theorem Z9 {t:TypeId} {z:Value} [hz:Zer P t z]:OE P n ⟨d,.alloc t,ty,pos,af,g⟩ e w (Z8B w t z.cells.toList):=
 ZF (v:=.pointer (some ⟨w.heap.size,0,none⟩)) (w':=w.alloc (.cells z.cells t)) (λa ha=>by
  simp [execOp,Instr.alloc,Zer.run,newVar,newRow,newObj];rfl) (by simpa using Z8C w t z.cells.toList)
theorem Zp {t:TypeId} {x:Operand} {v:Value} (hx:ev e x=some v):OE P n ⟨d,.box t x,ty,pos,af,g⟩ e w (Z8B w t v.cells.toList):=
 ZF (v:=.pointer (some ⟨w.heap.size,0,none⟩)) (w':=w.alloc (.cells v.cells t)) (λa ha=>by
  simp [execOp,Instr.box,ha.ev hx,newVar,newRow,newObj];rfl) (by simpa using Z8C w t v.cells.toList)
theorem Z0A (w:World) (b:Nat) (cs:Array Value):Stp [b] w (w.setRow b cs):=
 ⟨rfl,rfl,rfl,by simp,λk hk hn=>setRow_other w b k cs (by simpa using hn)⟩
theorem Z0B {b T o m t:Nat} {cs us:List Value} {x y:Operand} {u:Value} [br:Siz P t m] (hx:ev e x=some (.pointer (some ⟨b,o,none⟩))) (hy:ev e y=some u) (hu:u.cells.toList=us) (hm:us.length=m) (h1:∀ c∈us,c.oneCell'=true)
 (hb:Blk w b T cs) (hl:o+us.length<=cs.length):OE P n ⟨d,.store t x y,ty,pos,af,g⟩ e w (λ_ w'=>Stp [b] w w'/\Blk w' b T (cs.take o++us++cs.drop (o+us.length))):=by
 have aB:=run_storeCells_at P b o T us 0 cs.toArray w hb (by simpa using hl) h1;refine Z2o (w':=w.setRow b (cs.take o++us++cs.drop (o+us.length)).toArray) (λa ha=>?_) ⟨Z0A _ _ _,setRow_heap w b cs.toArray _ T (0,0) hb⟩;have bu:u.cells.size=m:=by rw [<- hm,<- hu,X5]
 simp only [Yba] at aB;simp [execOp,ha.ev hx,ha.ev hy,Instr.storeAt,Instr.sureAddr,storeVar,Siz.run,bu,hu,aB]
theorem J1 {b T m t:Nat} {cs us:List Value} {x y:Operand} {u:Value} [br:Siz P t m] (hx:ev e x=some (.pointer (some ⟨b,0,none⟩))) (hy:ev e y=some u) (hu:u.cells.toList=us) (hm:us.length=m) (h1:∀ c∈us,c.oneCell'=true)
 (hb:Blk w b T cs) (hl:us.length=cs.length):OE P n ⟨d,.store t x y,ty,pos,af,g⟩ e w (λ_ w'=>Stp [b] w w'/\Blk w' b T us):=
 (Z0B hx hy hu hm h1 hb (by omega)).mono (λ_ w' ⟨h2,h3⟩=>⟨h2,by simpa [hl] using h3⟩)
theorem Zs {b T o t:Nat} {cs:List Value} {x y:Operand} {u:Value} [br:Siz P t 1] (hx:ev e x=some (.pointer (some ⟨b,o,none⟩))) (hy:ev e y=some u) (hu:u.cells.toList=[u]) (h1:u.oneCell'=true)
 (hb:Blk w b T cs) (hl:o<cs.length):OE P n ⟨d,.store t x y,ty,pos,af,g⟩ e w (λ_ w'=>Stp [b] w w'/\Blk w' b T (cs.set o u)):=
 (Z0B hx hy hu rfl (by simpa using h1) hb (by simp; omega)).mono (λ_ w' ⟨h2, h3⟩ => ⟨h2, by
   rw [List.set_eq_take_append_cons_drop,if_pos hl];simpa using h3⟩)
end rules
def ob:Value->List Nat
 | .slice (some a) _ _=>[a.block]
 | _=>[]
theorem Z8D (v:Value):v.ownBlock.toList=ob v:=by
 cases v<;>try rfl
 rename_i a _ _;cases a<;>rfl
def Row {α:Type} [Z3 α] (X:List Nat) (w:World) (base T:Nat) (v:Value) (xs:List α):Prop:=
 ∃ css:List (List Value),css.length=xs.length/\(∀ i (h:i<xs.length) (h':i<css.length),Z3.rep (ob v++X) w xs[i] css[i])/\w.ownsRow base T (Z3.k α) v xs.length css.flatten
section row
variable {α:Type} [Z3 α] {X:List Nat} {w w':World} {base T:Nat} {v:Value} {xs:List α}
theorem Row.nil:Row (α:=α) X w base T (.slice none 0 0) []:=
 ⟨[],rfl,λi h=>absurd h (Xs _),by simpa using World.ownsRow_nil w base T (Z3.k α)⟩
theorem Row.ob_le (h:Row X w base T v xs):∀ b∈ob v,base<=b/\b<w.heap.size:=by
 obtain ⟨css,_,_,ho⟩:=h;intro b hb;rw [<- Z8D] at hb;exact ho.lt b (by simpa using hb)
theorem Row.ext {S X':List Nat} (h:Row X w base T v xs) (hS:Stp S w w') (h1:∀ b∈S,b∈X/\b∉ob v) (h2:∀ b∈X',b∈X\/w.heap.size<=b):Row X' w' base T v xs:=by
 obtain ⟨css,hl,hr,ho⟩:=h;refine ⟨css,hl,λi hi bh=>Z3.ext (hr i hi bh) hS (λb hb=>by simp [(h1 b hb).1]) (λb hb=>?_),?_⟩;simp only [Xd] at hb ⊢;rcases hb with hb|hb
 exact .inl (.inl hb);rcases h2 b hb with h|h
 exact .inl (.inr h);exact .inr h;refine ⟨ho.1,?_⟩;rcases ho.2 with hn|⟨q,cap,cur,rfl,hb,hg,rest⟩
 exact .inl hn;refine .inr ⟨q,cap,cur,rfl,hb,?_,rest⟩;rw [hS.block q (Xx.1 hg).1 (λhq=>(h1 q hq).2 (by simp [ob]))];exact hg
theorem Row.up (h:Row X w base T v xs) (hS:Stp [] w w'):Row X w' base T v xs:=h.ext hS (by simp) (λb hb=>.inl hb)
theorem Z04 {k:Nat}:∀ (css:List (List Value)),(∀ c∈css,c.length=k)->∀ (i:Nat) (hi:i<css.length) (j:Nat) (u:Value),css[i][j]?=some u->css.flatten[i * k+j]?=some u
 | [],_,i,hi,_,_,_=>absurd hi (Xs _)
 | c :: r, hk, 0, _, j, u, hu => by
   have hj:j<c.length:=(Xu.1 hu).1;simp only [Yas,Nat.zero_mul,XL];rw [Yao hj];exact hu
 | c :: r, hk, i + 1, hi, j, u, hu => by
   have ih:=Z04 r (λc hc=>hk c (by simp [hc])) i (by simpa using hi) j u (by simpa using hu);have hc:=hk c (by simp);simp only [Yas];rw [List.getElem?_append_right (by rw [hc,Yad];omega),hc];rw [show (i+1) * k+j - k=i * k+j by rw [Yad];omega];exact ih
theorem Row.slv (h:Row X w base T v xs) (hX:∀ b∈X,b<base):SlV X w v xs:=by
 obtain ⟨css,hl,hr,ho⟩:=h;have hk:∀ c∈css,c.length=Z3.k α:=by
  intro c hc;obtain ⟨i,hi,rfl⟩:=Xv hc;exact Z3.len (hr i (by omega) hi)
 rcases ho.2 with ⟨rfl,hn⟩|⟨q,cap,cur,rfl,hb,hg,ca,bL,bu,ht⟩
 exact ⟨none,0,by rw [hn],by omega,by simp [maxLen],λ_=>rfl,λi hi=>by omega⟩;refine ⟨some ⟨q,0,none⟩,cap,rfl,ca,bL,λh=>by simp at h,λi hi=>?_⟩;refine ⟨q,0,css[i]'(by omega),rfl,(Xx.1 hg).1,λhx=>by have:=hX q hx;omega,?_,λj u hu=>?_⟩;exact Z3.ext (hr i hi (by omega)) (Stp.refl [] w) (by simp) (λb hb=>.inl (by simp [hb]));have h1:=Z04 css hk i (by omega) j u hu;rw [<- ht,Yap] at h1;split at h1;have h2:cur[i * Z3.k α+j]?=some u:=by simpa using h1
 rw [XL,cell_of_row w q _ cur T (0,0) hg];exact h2;cases h1
theorem Z31 {P:Program} {t ty e size bytes:Nat} {i:TypeInfo} {z:Value} (ht:P.underlying t=some (.slice e)) (hi:P.info? e=some i) (hz:i.zero=some z)
 (iM:i.size=size) (kO:i.bytes=bytes) {v:Value} {n:Nat} {cs:List Value} (bM:w.ownsRow base e size v n cs)
 {a:Addr} {m c:Nat} {news:List Value} (hl:news.length=m * size) (bT:∀ j u,news[j]?=some u->w.cell? (a.add j)=some u) (h1:∀ u∈news,u.oneCell'=true)
 (ou:n+m<=maxLen) (hbytes:(n+m) * bytes<=140737488355328) {v':Value} {w':World} (hr:(Builtin.append_ #[t,t] ty #[v,.slice (some a) m c]).run P w=.ok v' w') :
 ∀ b∈ob v',b∈ob v\/w.heap.size<=b:=by
 subst iM;subst kO;have hsmall:n+m<=9223372036854775807:=by simp only [maxLen] at ou;omega
 rcases bM.2 with ⟨rfl,rfl⟩|⟨q,cap,cur,rfl,rk,hg,ca,bL,bu,mP⟩
 by_cases hm:m=0;subst hm;have hn:news=[]:=YaI (by simpa using hl);subst hn;have:(Builtin.append_ #[t,t] ty #[.slice none 0 0,.slice (some a) 0 c]).run P w=.ok (.slice none 0 0) w:=by
  simp [Builtin.append_,run_underlying ht,sizeOf,typeInfo,hi,Builtin.lenOf,Builtin.firstCells,loadCells,loadCellsFrom]
 rw [this] at hr;cases hr;simp [ob];have h:=run_append_nil (P:=P) w t ty e i z ht hi hz a m c news hl bT (by omega) (by omega) (by have hb:=hbytes;simp only [XL] at hb;omega);rw [h] at hr;cases hr;simp [ob];by_cases fS:n+m<=cap;have cy:n * i.size+news.length<=cur.size:=by rw [hl,bu,<- Nat.add_mul];exact Xt _ fS
 have h:=run_append_room (P:=P) w t ty e i ht hi q n cap cur hg a m c news hl bT h1 fS cy;rw [h] at hr;cases hr;simp [ob];have holds:∀ j u,cs[j]?=some u->w.cell? ((⟨q,0,none⟩:Addr).add j)=some u:=bM.cells (g:=q) rfl;have h:=run_append_grow (P:=P) w t ty e i z ht hi hz ⟨q,0,none⟩ n cap cs bM.1 holds a m c news hl bT (by omega) (by omega) (growslice_fits (by omega) hbytes);rw [h] at hr;cases hr;simp [ob]
def Z7e (X:List Nat) (w:World) (base T:Nat) (v:Value) (xs ys:List α) (v':Value) (w':World):Prop:=
 Row X w' base T v' (xs++ys)/\Stp (ob v) w w'/\∀ b∈ob v',b∈ob v\/w.heap.size<=b
theorem ZI {P:Program} {n:Nat} {e:Env} {d:Option Nat} {ty:TypeId} {pos:String} {af:Array Edge} {g:Option (Nat×Bool)} {x y:Operand} {t bytes:Nat} {u:Value} {z:Value} {ys:List α}
 [ht:Und P t (.slice T)] [hk:Siz P T (Z3.k α)] [hb:Byt P T bytes] [hz:Zer P T z] (cn:z.cells.size=Z3.k α) (ba:0<Z3.k α)
 (hx:ev e x=some v) (hy:ev e y=some u) (ac:Row X w base T v xs) (bR:SlV (ob v++X) w u ys) (hbytes:(xs.length+ys.length) * bytes<=140737488355328) (ai:xs.length+ys.length<=maxLen) (aP:base<=w.heap.size) :
 OE P n ⟨d,.call { callee:=.builtin .append,args:=#[x,y],argTypes:=#[t,t] },ty,pos,af,g⟩ e w (Z7e X w base T v xs ys):=by
 obtain ⟨i,hi,bX,bN,fh⟩:∃ i,P.info? T=some i/\i.size=Z3.k α/\i.bytes=bytes/\i.zero=some z:=by
  have a1:=hk.h;have a2:=hb.h;have a3:=hz.h;cases hi:P.info? T with
  | none=>simp [hi] at a1
  | some i=>exact ⟨i,rfl,by simpa [hi] using a1,by simpa [hi] using a2,by simpa [hi] using a3⟩
 have cD:=ac;obtain ⟨css,hl,hr,ho⟩:=ac;obtain ⟨p,c,rfl,dL,rm,oy,mQ⟩:=bR;have kP:∃ dss:List (List Value),dss.length=ys.length/\(∀ j (h:j<ys.length) (h':j<dss.length),Z3.rep (ob v++X) w ys[j] dss[j]/\∃ b o,p=some ⟨b,o,none⟩/\∀ q u,dss[j][q]?=some u->w.cell? ⟨b,o+j * Z3.k α+q,none⟩=some u):=by
  have:∀ j:Fin ys.length,∃ ds:List Value,Z3.rep (ob v++X) w ys[j] ds/\∃ b o,p=some ⟨b,o,none⟩/\∀ q u,ds[q]?=some u->w.cell? ⟨b,o+j * Z3.k α+q,none⟩=some u:=by
   intro j;obtain ⟨b,o,cs,h1,h2,h3,h4,h5⟩:=mQ j j.2;exact ⟨cs,h4,b,o,h1,h5⟩
  obtain ⟨f,hf⟩:=Classical.axiomOfChoice this;refine ⟨List.ofFn f,by simp,λj h h'=>?_⟩;have:=hf ⟨j,h⟩;simpa using this
 obtain ⟨dss,mR,hd⟩:=kP;have j7:∀ c∈dss,c.length=Z3.k α:=by
  intro c hc;obtain ⟨q,hq,rfl⟩:=Xv hc;exact Z3.len (hd q (by omega) hq).1
 have fT:∀ (l:List (List Value)),(∀ c∈l,c.length=Z3.k α)->l.flatten.length=l.length * Z3.k α:=by
  intro l
  induction l with
  | nil=>intro _;simp
  | cons c r ih=>intro h;simp only [Yas,Xf,Xh,Yad];rw [ih (λc hc=>h c (by simp [hc])),h c (by simp)];omega
 have bP:∀ u∈dss.flatten,u.oneCell'=true:=by
  intro u hu;obtain ⟨c,hc,oz⟩:=List.mem_flatten.1 hu;obtain ⟨q,hq,rfl⟩:=Xv hc;exact Z3.one (hd q (by omega) hq).1 u oz
 have fin:∀ (v':Value) (w':World),w'.ownsRow base T (Z3.k α) v' (xs.length+ys.length) (css.flatten++dss.flatten)->Stp (ob v) w w'->(∀ b∈ob v',b∈ob v\/w.heap.size<=b)->Z7e X w base T v xs ys v' w':=by
  intro v' w' fj hS cJ;have hX:∀ b∈ob v'++X,b∈ob v++X\/w.heap.size<=b:=by
   intro b hb;simp only [Xd] at hb ⊢;rcases hb with hb|hb
   rcases cJ b hb with h|h
   exact .inl (.inl h);exact .inr h;exact .inl (.inr hb)
  have mS:∀ b∈ob v,b∈ob v++X:=λb hb=>by simp [hb]
  refine ⟨⟨css++dss,by simp [hl,mR],λi hi bh=>?_,?_⟩,hS,cJ⟩;by_cases hlt:i<xs.length;rw [YaV hlt,YaV (by omega)];exact Z3.ext (hr i hlt (by omega)) hS mS hX;have bN:i<xs.length+ys.length:=by simpa using hi
  rw [YaS (by omega),YaS (by omega)];have:=Z3.ext (hd (i - xs.length) (by omega) (by omega)).1 hS mS hX;simpa [hl] using this;rw [List.flatten_append];simpa using fj
 cases p with
 | none=>
   have eV:ys.length=0:=by
    cases bR:ys with
    | nil=>rfl
    | cons y r=>
      obtain ⟨b,o,cs,hp,_⟩:=mQ 0 (by simp [bR]);simp at hp
   have dU:c=0:=oy rfl;subst dU;have cW:dss=[]:=YaI (by omega);subst cW;have aO:=run_append_owned_none (P:=P) w base t ty T i (Z3.k α) ht.h hi v xs.length css.flatten ho;refine ZF (v:=v) (w':=w) (λa ha=>?_) (fin v w (by simpa [eV] using ho) (Stp.refl _ _) (λb hb=>.inl hb));rw [eV] at hy;simp [execOp,resolve,invoke,builtin,ha.ev hx,ha.ev hy,aO]
 | some a=>
   have bT:∀ j u,dss.flatten[j]?=some u->w.cell? (a.add j)=some u:=by
    intro j u hj;have fk:j<dss.flatten.length:=(Xu.1 hj).1;rw [fT dss j7] at fk;have hq:j / Z3.k α<dss.length:=(Nat.div_lt_iff_lt_mul ba).2 fk;obtain ⟨h1,b,o,hp,an⟩:=hd (j / Z3.k α) (by omega) hq;simp only [Xi] at hp;subst hp;have oA:j % Z3.k α<Z3.k α:=Nat.mod_lt _ ba;have mT:j / Z3.k α * Z3.k α+j % Z3.k α=j:=by rw [Nat.mul_comm];exact Nat.div_add_mod j _
    have oB:dss[j / Z3.k α].length=Z3.k α:=j7 _ (Xb hq);have gK:dss[j / Z3.k α][j % Z3.k α]?=some (dss[j / Z3.k α][j % Z3.k α]'(by omega)):=XP (by omega);have h2:=Z04 dss j7 _ hq _ _ gK;rw [mT,hj] at h2;have h3:=an _ _ gK;rw [Addr.add_lit];rw [YaA,mT] at h3;rw [h3,h2]
   have eW:dss.flatten.length=ys.length * Z3.k α:=by rw [fT dss j7,mR]
   obtain ⟨v',w',aO,h2,h3,h4⟩:=run_append_own (P:=P) w base t ty T i z (Z3.k α) bytes ht.h hi fh bX bN cn ba v xs.length css.flatten ho a ys.length c dss.flatten eW bT bP ai hbytes aP;have ab:=Z31 (P:=P) ht.h hi fh bX bN ho eW bT bP ai hbytes aO;have hS:Stp (ob v) w w':=by rw [<- Z8D];exact Stp.of_grown h3
   refine ZF (v:=v') (w':=w') (λa ha=>?_) (fin v' w' h2 hS ab);simp [execOp,resolve,invoke,builtin,ha.ev hx,ha.ev hy,aO]
end row
abbrev _root_.Go.Value.I (z:Int):Value:=.int .i64 z
abbrev _root_.Go.Value.N:Value:=.slice none 0 0
abbrev _root_.Go.Value.B (b:Bool):Value:=.bool b
abbrev aG {α:Type} [Z8 α] (x:α):Value:=.agg (Z8.enc x).toArray
theorem Stp.ow {S S':List Nat} {a b c:World} (h:Stp S a b) (k:Stp S' b c) (hs:∀ x∈S',x∈S\/a.heap.size<=x:=by intro c hc;exact .inr (by simp at hc;omega)):Stp S a c:=h.own k hs
theorem Stp.mn {S S':List Nat} {a b:World} (h:Stp S a b) (hs:∀ x∈S,x∈S':=by simp):Stp S' a b:=h.mono hs
abbrev pQ (b:Nat):Value:=.pointer (some ⟨b,0,none⟩)
class Rl (σ:Type) where
 rel:σ->World->World->Prop
 refl:∀ S w,rel S w w
 trans:∀ {S a b c},rel S a b->rel S b c->rel S a c
instance:Rl (List Nat):=⟨Stp,Stp.refl,λh k=>h.trans k⟩
section any
variable {P:Program} {ops:Array Oper} {md:Region.Mode} {σ:Type} [Rl σ] {S:σ} {Lt:Nat->Bool}
theorem Zkd {o:Oper} {a:Act} {w} {K:Act->World->Prop} {Q:Exit->Act->World->Prop} (h:o.wp P a w K (λ_ _ _=>False)):o.wp P a w K Q:=by
 unfold Oper.wp at *;generalize (execOp a.eval o).run P w=r at *;cases r with
 | ok n w'=>
   cases n<;>simp only [Oper.upon] at h ⊢
   case enter f args=>
    refine Calls.mono h (λe w'' he=>?_);cases e with
    | returned v=>exact he
    | panicked c=>exact he.elim
    | outgrown=>obtain ⟨_,_,hf⟩:=he;exact hf.elim
   all_goals exact h
 | halt x w'=>cases x<;>simp only [Oper.upon] at h
theorem ZcQ {i:Nat} {K:Act->World->Prop} {Q:Exit->Act->World->Prop} {a:Act} {w} (h:wpOp P ops (λ_ _ _=>False) i K a w):wpOp P ops Q i K a w:=by
 unfold wpOp at *;cases ho:ops[i]? with
 | none=>simp only [ho] at h ⊢;exact h
 | some o=>
   simp only [ho] at h ⊢;split;rename_i hw;simp only [hw,if_true] at h;rcases h with h|⟨_,_,_,hf⟩
   exact .inl (Zkd h);exact hf.elim;rename_i hw;simp only [hw] at h;exact h
def Z0m (P:Program) (md:Region.Mode) (ops:Array Oper) {σ:Type} [Rl σ] (S:σ) (Lt:Nat->Bool) (Z:Act->World->Prop):Nat->Array Bool->Act->World->Prop
 | 0,listed,a,w=>Region.ready md ops listed=[]/\Z a w
 | fuel + 1, listed, a, w=>
   (Region.ready md ops listed=[]->Z a w)/\
   ∀ i∈Region.ready md ops listed,wpOp P ops (λ_ _ _=>False) i (λa' w'=>(Rl.rel S w w'\/Lt i=true)/\Z0m P md ops S Lt Z fuel (listed.setIfInBounds i true) a' w') a w
theorem Z05 {Z:Act->World->Prop} {Q:Exit->Act->World->Prop} (hZ:∀ a w,Z a w->Q .normal a w):∀ (fuel:Nat) (listed:Array Bool) (a:Act) (w),
 Z0m P md ops S Lt Z fuel listed a w->wpAny P md ops Q fuel listed a w
 | 0,_,_,_,h=>⟨h.1,hZ _ _ h.2⟩
 | fuel+1,_,_,_,h=>⟨λh0=>hZ _ _ (h.1 h0),λi hi=>wpOp_mono (λa' w' hk=>Z05 hZ fuel _ a' w' hk.2) (ZcQ (h.2 i hi))⟩
def YE (P:Program) (ops:Array Oper) (R:World->World->Prop) (o:Oper) (v:Value) (a:Act) (w:World):Prop:=
 (Region.wanted o (yielded ops a.tmps)=true/\∀ w',R w w'->(execOp a.eval o).run P w'=.ok (.value v) w')\/
 (Region.wanted o (yielded ops a.tmps)=false/\v=undef)
theorem YE.same {R:World->World->Prop} {o:Oper} {v:Value} {a a':Act} {w} (hy:YE P ops R o v a w) (he:execOp a'.eval o=execOp a.eval o)
 (hw:Region.wanted o (yielded ops a'.tmps)=Region.wanted o (yielded ops a.tmps)):YE P ops R o v a' w:=by
 unfold YE at *;rw [he,hw];exact hy
theorem Z32 {Z:Act->World->Prop} {R:World->World->Prop} (dV:∀ w,R w w) (oD:∀ a b c,R a b->R b c->R a c) {i:Nat} {oi:Oper} {v:Value} (hi:ops[i]?=some oi)
 (oE:∀ j oj,ops[j]?=some oj->(∀ e∈oj.after,Region.binds md e=true->e.on≠i)->j≠i->∀ w w',(Rl.rel S w w'\/Lt j=true)->R w w')
 (iN:∀ (j:Nat) (o:Oper) cs b,ops[j]?=some o->o.op≠.select cs b) :
 ∀ (fuel : Nat) (listed : Array Bool) (a : Act) (w),
   (∀ j oj,ops[j]?=some oj->j≠i->listed.getD j true=false->(∀ e∈oj.after,Region.binds md e=true->e.on≠i)->oi.apart ops oj=true)->
   (Rl.rel S w w\/Lt i=true->True)->i∈Region.ready md ops listed->YE P ops R oi v a w->
   Z0m P md ops S Lt Z fuel (listed.setIfInBounds i true) (a.put oi.dst v) w->Z0m P md ops S Lt Z (fuel+1) listed a w:=by
 have now:∀ (fuel:Nat) (listed:Array Bool) (a:Act) (w:World),YE P ops R oi v a w->Z0m P md ops S Lt Z fuel (listed.setIfInBounds i true) (a.put oi.dst v) w->
  wpOp P ops (λ_ _ _=>False) i (λa' w'=>(Rl.rel S w w'\/Lt i=true)/\Z0m P md ops S Lt Z fuel (listed.setIfInBounds i true) a' w') a w:=by
  intro fuel listed a w hy H;unfold wpOp;simp only [hi];rcases hy with ⟨hw,hv⟩|⟨hw,rfl⟩
  simp only [hw,if_true,Oper.wp,hv w (dV w),Oper.upon];exact .inl ⟨.inl (Rl.refl _ _),H⟩;simp only [hw,Yaq,if_false];exact ⟨.inl (Rl.refl _ _),H⟩
 intro fuel
 induction fuel with
 | zero=>
   intro listed a w _ _ hr hy H;refine ⟨λh=>(by rw [h] at hr;cases hr),λj hj=>?_⟩;by_cases dC:j=i;subst dC;exact now _ _ _ _ hy H;have:=ready_mono hj dC;rw [H.1] at this;cases this
 | succ fuel ih=>
   intro listed a w fU hx hr hy H;refine ⟨λh=>(by rw [h] at hr;cases hr),λj hj=>?_⟩;by_cases dC:j=i;subst dC;exact now _ _ _ _ hy H;have h1:=H.2 j (ready_mono hj dC);obtain ⟨iO,oj,j8,ar⟩:=mem_ready.1 hj;have iP:∀ e∈oj.after,Region.binds md e=true->e.on≠i:=λe he hb aD=>by
    have h1:=ar e he hb;have h0:=(mem_ready.1 hr).1;rw [aD] at h1;rcases Ybl i listed.size with h'|h'
    simp [h'] at h0 h1;rw [h0] at h1;cases h1;simp [Array.getElem?_eq_none h'] at h1
   have hap:=fU j oj j8 dC iO iP;obtain ⟨p1,p2,p3⟩:=Oper.apart_spec hap;have keep:∀ (a:Act),YE P ops R oi v a w->∀ u,YE P ops R oi v (a.put oj.dst u) w:=λa hy u=>
    hy.same (execOp_put oi (λcs b=>iN i oi cs b hi) a oj.dst u p3) (wanted_put oi a oj.dst u p3)
   have keepD:∀ (a:Act) d,YE P ops R oi v a w->YE P ops R oi v { a with defers:=d :: a.defers } w:=λa d hy=>hy.same rfl rfl;have later:∀ (a:Act) w',(Rl.rel S w w'\/Lt j=true)->YE P ops R oi v a w->YE P ops R oi v a w':=λa w' hs hy=>by
    rcases hy with ⟨hw,hv⟩|hw
    exact .inl ⟨hw,λw'' h''=>hv w'' (oD _ _ _ (oE j oj j8 iP dC w w' hs) h'')⟩;exact .inr hw
   have gL:∀ k ok,ops[k]?=some ok->k≠i->(listed.setIfInBounds j true).getD k true=false->
    (∀ e∈ok.after,Region.binds md e=true->e.on≠i)->oi.apart ops ok=true:=λk ok hk iQ mU aR=>by
    refine fU k ok hk iQ ?_ aR;by_cases gM:j=k;subst gM;exact iO;rw [getD_set_ne true gM] at mU;exact mU
   have fin:∀ a' w',YE P ops R oi v a' w->(Rl.rel S w w'\/Lt j=true)/\Z0m P md ops S Lt Z fuel ((listed.setIfInBounds i true).setIfInBounds j true) (a'.put oi.dst v) w'->
    (Rl.rel S w w'\/Lt j=true)/\Z0m P md ops S Lt Z (fuel+1) (listed.setIfInBounds j true) a' w':=by
    rintro a' w' kQ ⟨hs,hk⟩;refine ⟨hs,ih _ a' w' gL (λ_=>trivial) (ready_mono hr (Ne.symm dC)) (later a' w' hs kQ) ?_⟩;rw [Array.setIfInBounds_comm _ _ dC];exact hk
   have oF:∀ cs b,oj.op≠.select cs b:=λcs b=>iN j oj cs b j8;unfold wpOp at *;simp only [j8] at *;rw [wanted_put oj a oi.dst v p1] at h1;split
   . rename_i hw
     simp only [hw,if_true] at h1;rcases h1 with h1|⟨_,_,_,hf⟩
     case inr=>exact hf.elim
     refine .inl ?_;unfold Oper.wp at *;rw [execOp_put oj oF a oi.dst v p1] at h1;generalize (execOp a.eval oj).run P w=r at *;cases r with
     | ok n w'=>
       cases n<;>simp only [Oper.upon] at h1 ⊢
       case value u=>exact fin _ _ (keep a hy u) (by rw [<- Act.put_comm a v u p2];exact h1)
       case skip=>exact fin _ _ (keep a hy _) (by rw [<- Act.put_comm a v undef p2];exact h1)
       case defer d=>
        refine fin _ _ (keep _ (keepD a d hy) _) ?_;rw [<- Act.put_comm _ v undef p2,<- Act.put_defers];exact h1
       case enter f args=>
        refine Calls.mono h1 λe w'' he=>?_;cases e with
        | returned u=>exact fin _ _ (keep a hy u) (by rw [<- Act.put_comm a v u p2];exact he)
        | panicked c=>exact he
        | outgrown=>exact he
       case row row args=>exact Rows.mono h1 λu w'' he=>fin _ _ (keep a hy u) (by rw [<- Act.put_comm a v u p2];exact he)
     | halt x w'=>
       cases x<;>simp only [Oper.upon] at h1
   rename_i hw;simp only [hw] at h1;exact fin _ _ (keep a hy _) (by rw [<- Act.put_comm a v undef p2];exact h1)
end any
def Zad (ops:Array Oper) (Lt:List Nat) (i:Nat):Bool:=
 Lt.all λj=>j == i || (match ops[j]? with|some oj=>oj.after.any (λe=>Region.binds .any e && e.on == i)|none=>true)
def bits (m:Nat):List Nat:=(List.range 64).filter (λj=>m.testBit j)
def ZaS:List Nat->List (List Nat)
 | []=>[[]]
 | x :: r=>ZaS r++(ZaS r).map (x :: ·)
def lst (listed:Array Bool) (is rem:List Nat):Array Bool:=Array.ofFn (n:=listed.size) λj=>listed[j] || (is.contains j.val && !rem.contains j.val)
def wt:List (Nat×Nat)->Nat
 | []=>0
 | (_,k) :: r=>(if k<100000 then 1 else (bits (k - 100000)).length)+wt r
theorem Z0C {i k:Nat} {r:List (Nat×Nat)} (h:k<100000):wt ((i,k) :: r)=wt r+1:=by simp [wt,h];omega
def ZL (ops:Array Oper) (Lt:List Nat):List (Nat×Nat)->Option Nat->Array Bool->Bool
 | [],sk,listed=>sk.isNone && (Region.ready .any ops listed).isEmpty
 | (i,0) :: r,sk,listed=>(Region.ready .any ops listed).contains i && Region.free .any ops listed i && ZL ops Lt r sk (listed.setIfInBounds i true)
 | (i,1) :: r,sk,listed=>(Region.ready .any ops listed).contains i && Region.free .any ops listed i && Zad ops Lt i && ZL ops Lt r sk (listed.setIfInBounds i true)
 | (i,2) :: r,sk,listed=>if sk=some i then ZL ops Lt r none listed else Region.ready .any ops listed == [i] && ZL ops Lt r sk (listed.setIfInBounds i true)
 | (i, q + 3) :: r, sk, listed => if sk = some q /\ q + 3 < 100000 then (Region.ready .any ops listed == [i] && ZL ops Lt r sk (listed.setIfInBounds i true)) else sk.isNone && if q + 3 < 100000 then (Region.ready .any ops listed == [i, q] && ZL ops Lt r none (listed.setIfInBounds i true) && Region.ready .any ops (listed.setIfInBounds q true) == [i] && ZL ops Lt r (some q) ((listed.setIfInBounds q true).setIfInBounds i true))
   else (ZaS (bits (q+3 - 100000))).all (λrem=>rem.isEmpty || Region.ready .any ops (lst listed (bits (q+3 - 100000)) rem) == rem) && ZL ops Lt r none (lst listed (bits (q+3 - 100000)) [])
def Jp (ops:Array Oper) (Lt:List Nat) (ord:List (Nat×Nat)) (listed:Array Bool):Bool:=ZL ops Lt ord none listed
def Z1P (q:Nat):List (Nat×Nat)->List (Nat×Nat)
 | []=>[]
 | (i,2) :: r=>if i=q then r else (i,2) :: Z1P q r
 | (i,0) :: r=>(i,0) :: Z1P q r
 | (i,1) :: r=>(i,1) :: Z1P q r
 | (i,k+3) :: r=>if k=q/\k+3<100000 then (i,2) :: Z1P q r else (i,k+3) :: Z1P q r
theorem Z0D {ops:Array Oper} {Lt:List Nat} {q:Nat}:∀ (r:List (Nat×Nat)) (listed:Array Bool),ZL ops Lt r (some q) listed=true->ZL ops Lt (Z1P q r) none listed=true/\wt r=wt (Z1P q r)+1
 | [],listed,h=>by simp [ZL] at h
 | (i, 0) :: r, listed, h => by
   simp only [ZL,Xa] at h;obtain ⟨h1,h2⟩:=Z0D r _ h.2;simp only [Z1P,ZL,Xa];exact ⟨⟨h.1,h1⟩,by simp [wt,h2];omega⟩
 | (i, 1) :: r, listed, h => by
   simp only [ZL,Xa] at h;obtain ⟨h1,h2⟩:=Z0D r _ h.2;simp only [Z1P,ZL,Xa];exact ⟨⟨h.1,h1⟩,by simp [wt,h2];omega⟩
 | (i, 2) :: r, listed, h => by
   by_cases e:i=q;subst e;simp only [ZL,if_pos] at h;simp only [Z1P,if_pos];exact ⟨h,by simp [wt];omega⟩;have e':¬ (some q=some i):=by simpa using λh=>e h.symm
   simp only [ZL,if_neg e',Xa] at h;obtain ⟨h1,h2⟩:=Z0D r _ h.2;simp only [Z1P,if_neg e,ZL];refine ⟨?_,by simp [wt,h2];omega⟩;rw [if_neg (by simp)];simp only [Xa];exact ⟨h.1,h1⟩
 | (i, k + 3) :: r, listed, h => by
   by_cases e:k=q/\k+3<100000;simp only [ZL] at h;rw [if_pos ⟨by rw [e.1],e.2⟩] at h;simp only [Xa] at h;obtain ⟨h1,h2⟩:=Z0D r _ h.2;simp only [Z1P,if_pos e,ZL];refine ⟨?_,by rw [Z0C e.2,Z0C (by decide),h2]⟩;rw [if_neg (by simp)];simp only [Xa];exact ⟨h.1,h1⟩;simp only [ZL] at h;rw [if_neg (λh'=>e ⟨(XT h'.1).symm,h'.2⟩)] at h;simp at h
structure WG (P:Program) (n:Nat) (ops:Array Oper) {σ:Type} [Rl σ] (S:σ) (Lt:List Nat) (Q:Exit->Act->World->Prop) (ord:List (Nat×Nat)) (e:Env) (w:World):Prop where
 h:∀ listed:Array Bool,Region.noSelect ops=true->Jp ops Lt ord listed=true->∀ a,Has n e a->Z0m P .any ops S (λj=>Lt.contains j) (λa w=>Q .normal a w) (wt ord) listed a w
section rules
variable {P:Program} {n:Nat} {Q:Exit->Act->World->Prop} {e:Env} {w:World} {ops:Array Oper} {σ:Type} [Rl σ] {S:σ} {Lt:List Nat} {rest:List (Nat×Nat)}
theorem Z5R {id:Nat} {l:List Oper} (m:Nat) {σ:Type} [Rl σ] (S:σ) (Lt:List Nat) (ord:List (Nat×Nat)) (cf:l.length=m) (hm:P.follows .mixedOrders=true) (hs:Region.noSelect l.toArray=true) (hl:Nat.beq (wt ord) l.length=true)
 (hB:Jp l.toArray Lt ord (Array.replicate m false)=true)
 (h:∀ w',Stp [] w w'->WG P n l.toArray S Lt Q ord e w'):WC P n (.region id l.toArray true) Q e w:=by
 subst cf;refine ⟨λa ha=>wp_region_any hm ?_⟩;have h1:=(h { w with drawn:=w.drawn+1 } (Stp.drew [] w)).h _ hs hB a ha;have h2:=Z05 (Q:=Q) (λa w hz=>hz) _ _ _ _ h1;rw [Xk hl] at h2;simpa using h2
theorem Z2Q (h:WQ n Q .normal e w):WG P n ops S Lt Q [] e w:=
 ⟨λ_ _ hB a ha=>⟨by simpa [Jp,ZL] using hB,h.h a ha⟩⟩
def JS (ops:Array Oper) (e:Env):Option (Nat×Bool)->Prop
 | none=>True
 | some (j,b)=>yld ops e j=some (.B b)
theorem JO {o:Oper} {a:Act} (ha:Has n e a) (hg:JS ops e o.guard):Region.wanted o (yielded ops a.tmps)=true:=by
 unfold Region.wanted;cases fp:o.guard with
 | none=>rfl
 | some jb=>
   obtain ⟨j,b⟩:=jb;rw [fp] at hg;simp [Z4z ha hg]
theorem Z7f {i d:Nat} {o:Oper} {v:Value} (hi:ops[i]?=some o) (hd:o.dst=some d) (hY:∀ a,Has n e a->YE P ops (λ_ _=>True) o v a w) (aw:Nat.blt d n=true)
 (k:WG P n ops S Lt Q rest ((d,v) :: e) w):WG P n ops S Lt Q ((i,0) :: rest) e w:=by
 refine ⟨λlisted hs hB a ha=>?_⟩;simp only [Jp,ZL,Xa] at hB;obtain ⟨⟨h1,h2⟩,h3⟩:=hB;have hk:=k.h _ hs h3 _ (ha.put (v:=v) aw);rw [<- hd] at hk;rw [Z0C (by decide)];exact Z32 (R:=λ_ _=>True) (λ_=>trivial) (λ_ _ _ _ _=>trivial) hi (λ_ _ _ _ _ _ _ _=>trivial) (Region.noSelect_spec hs) _ _ _ _ (Region.free_spec hi h2) (λ_=>trivial) (by simpa using h1) (hY a ha) hk
theorem Z4D {i j:Nat} {oj:Oper} (hb:Zad ops Lt i=true) (hj:ops[j]?=some oj) (hn:∀ e∈oj.after,Region.binds .any e=true->e.on≠i) (dC:j≠i):Lt.contains j=false:=by
 cases hc:Lt.contains j with
 | false=>rfl
 | true=>
   have hm:j∈Lt:=by simpa using hc
   have:=(Xy.1 hb) j hm;simp only [hj,Ya4,beq_iff_eq,dC,false_or] at this;obtain ⟨e,he,kR⟩:=Array.any_eq_true'.1 this;simp only [Xa,beq_iff_eq] at kR;exact absurd kR.2 (hn e he kR.1)
theorem Z7g {i d:Nat} {o:Oper} {v:Value} (hi:ops[i]?=some o) (hd:o.dst=some d) (hY:∀ a,Has n e a->YE P ops (Rl.rel S) o v a w) (aw:Nat.blt d n=true)
 (k:WG P n ops S Lt Q rest ((d,v) :: e) w):WG P n ops S Lt Q ((i,1) :: rest) e w:=by
 refine ⟨λlisted hs hB a ha=>?_⟩;simp only [Jp,ZL,Xa] at hB;obtain ⟨⟨⟨h1,h2⟩,hb⟩,h3⟩:=hB;have hk:=k.h _ hs h3 _ (ha.put (v:=v) aw);rw [<- hd] at hk;rw [Z0C (by decide)];refine Z32 (R:=Rl.rel S) (λw=>Rl.refl _ w) (λ_ _ _ h k=>Rl.trans h k) hi (λj oj hj hn dC w w' hs=>?_) (Region.noSelect_spec hs) _ _ _ _ (Region.free_spec hi h2) (λ_=>trivial) (by simpa using h1) (hY a ha) hk;rcases hs with hs|hs
 exact hs;rw [Z4D hb hj hn dC] at hs;cases hs
variable {i d:Nat} {op:Op} {ty:TypeId} {pos:String} {af:Array Edge} {gd:Option (Nat×Bool)} {v:Value}
theorem Zy (hi:ops[i]?=some ⟨some d,op,ty,pos,af,gd⟩) (hg:JS ops e gd) (hp:∀ w',PR P n ⟨some d,op,ty,pos,af,gd⟩ e w' v) (aw:Nat.blt d n=true)
 (k:WG P n ops S Lt Q rest ((d,v) :: e) w):WG P n ops S Lt Q ((i,0) :: rest) e w:=
 Z7f hi rfl (λa ha=>.inl ⟨JO ha hg,λw' _=>(hp w').h a ha⟩) aw k
theorem Zae (hi:ops[i]?=some ⟨some d,op,ty,pos,af,gd⟩) (hg:JS ops e gd) (hp:∀ w',Rl.rel S w w'->PR P n ⟨some d,op,ty,pos,af,gd⟩ e w' v) (aw:Nat.blt d n=true)
 (k:WG P n ops S Lt Q rest ((d,v) :: e) w):WG P n ops S Lt Q ((i,1) :: rest) e w:=
 Z7g hi rfl (λa ha=>.inl ⟨JO ha hg,λw' hw=>(hp w' hw).h a ha⟩) aw k
theorem Z7h (hi:ops[i]?=some ⟨some d,op,ty,pos,af,gd⟩) (hg:noB ops e gd=true) (aw:Nat.blt d n=true)
 (k:WG P n ops S Lt Q rest ((d,undef) :: e) w):WG P n ops S Lt Q ((i,0) :: rest) e w:=
 Z7f hi rfl (λa ha=>.inr ⟨Z0z ha hg,rfl⟩) aw k
theorem Z7i (hi:ops[i]?=some ⟨some d,op,ty,pos,af,gd⟩) (hg:noB ops e gd=true) (aw:Nat.blt d n=true)
 (k:WG P n ops S Lt Q rest ((d,undef) :: e) w):WG P n ops S Lt Q ((i,1) :: rest) e w:=
 Z7g hi rfl (λa ha=>.inr ⟨Z0z ha hg,rfl⟩) aw k
structure WG1 (P:Program) (n:Nat) (ops:Array Oper) {σ:Type} [Rl σ] (S:σ) (Lt:List Nat) (Q:Exit->Act->World->Prop) (i:Nat) (ord:List (Nat×Nat)) (e:Env) (w:World):Prop where
 h : ∀ listed : Array Bool, Region.noSelect ops = true -> Jp ops Lt ord (listed.setIfInBounds i true) = true -> ∀ a, Has n e a->
   wpOp P ops (λ_ _ _=>False) i (λa' w'=>(Rl.rel S w w'\/Lt.contains i=true)/\Z0m P .any ops S (λj=>Lt.contains j) (λa w=>Q .normal a w) (wt ord) (listed.setIfInBounds i true) a' w') a w
theorem ZcR {o:Oper} {dst:Option Nat} {G:Value->World->Prop} (hi:ops[i]?=some o) (dD:o.dst=dst) (hg:JS ops e o.guard) (hp:OE P n o e w (λv w'=>(Rl.rel S w w'\/Lt.contains i=true)/\G v w'))
 (k:∀ v w' a',G v w'->∀ a,Has n e a->a'=a.put dst v->∃ e',Has n e' a'/\WG P n ops S Lt Q rest e' w'):WG1 P n ops S Lt Q i rest e w:=by
 refine ⟨λlisted hs h3 a ha=>?_⟩;unfold wpOp;simp only [hi];rw [if_pos (JO ha hg)];refine .inl (Oper.wp_mono ?_ (hp.h a ha _));rintro a' w' ⟨v,rfl,bS,hG⟩;obtain ⟨e',ft,hk⟩:=k v w' (a.put o.dst v) hG a ha (by rw [dD]);exact ⟨bS,hk.h _ hs h3 _ ft⟩
theorem ZcS (h:WG1 P n ops S Lt Q i rest e w):WG P n ops S Lt Q ((i,2) :: rest) e w:=by
 refine ⟨λlisted hs hB a ha=>?_⟩;simp only [Jp,ZL] at hB;rw [if_neg (by simp)] at hB;simp only [Xa,beq_iff_eq] at hB;obtain ⟨h1,h3⟩:=hB;rw [Z0C (by decide)];refine ⟨λh0=>absurd (h1 ▸ h0) (by simp),λj hj=>?_⟩;rw [h1] at hj;obtain rfl:j=i:=by simpa using hj
 exact h.h _ hs h3 a ha
theorem Z4E {q:Nat} (hq:Nat.blt (q+3) 100000=true) (h1:WG1 P n ops S Lt Q i rest e w) (h2:WG1 P n ops S Lt Q q ((i,2) :: Z1P q rest) e w):WG P n ops S Lt Q ((i,q+3) :: rest) e w:=by
 refine ⟨λlisted hs hB a ha=>?_⟩;have dE:q+3<100000:=Xe hq;simp only [Jp,ZL] at hB;rw [if_neg (by simp),if_pos dE] at hB;simp only [Xa,beq_iff_eq] at hB;obtain ⟨_,⟨⟨hr,j9⟩,ep⟩,h3⟩:=hB;obtain ⟨h4,h5⟩:=Z0D _ _ h3;have hw:wt ((i,q+3) :: rest)=wt rest+1:=Z0C dE;rw [hw];refine ⟨λh0=>absurd (hr ▸ h0) (by simp),λj hj=>?_⟩;rw [hr] at hj;have c2:Jp ops Lt ((i,2) :: Z1P q rest) (listed.setIfInBounds q true)=true:=by
  simp only [Jp,ZL];rw [if_neg (by simp)];simp only [Xa,beq_iff_eq];exact ⟨ep,h4⟩
 have gN:wt rest=wt ((i,2) :: Z1P q rest):=by rw [Z0C (by decide),h5]
 have dM:j=i\/j=q:=by simpa using hj
 rcases dM with rfl|rfl
 exact h1.h _ hs j9 a ha;rw [gN];exact h2.h _ hs c2 a ha
theorem Z4F:∀ {is rem:List Nat},rem.Sublist is->rem∈ZaS is
 | [],rem,h=>by simp at h;simp [ZaS,h]
 | x :: r, rem, h => by
   simp only [ZaS,Xd,XO];cases h with
   | cons _ h=>exact .inl (Z4F h)
   | cons_cons _ h=>exact .inr ⟨_,Z4F h,rfl⟩
theorem ZfX (listed:Array Bool) (is:List Nat):lst listed is is=listed:=by
 apply Array.ext;simp [lst];intro j h1 h2;simp only [lst,Array.getElem_ofFn];cases is.contains j<;>simp
theorem ZcT {listed:Array Bool} {is rem:List Nat} {j:Nat} (hn:rem.Nodup) (hr:rem.Sublist is) (hj:j∈rem):(lst listed is rem).setIfInBounds j true=lst listed is (rem.erase j):=by
 apply Array.ext;simp [lst];intro m h1 h2;have hm:m<listed.size:=by simpa [lst] using h2
 rw [Array.getElem_setIfInBounds];simp only [lst,Array.getElem_ofFn];by_cases e:j=m;subst e;have h3:is.contains j=true:=by simpa using hr.subset hj
 have h4:(rem.erase j).contains j=false:=by
  have:=hn.not_mem_erase (a:=j);simpa using this
 simp only [h3,h4,if_true,Bool.not_false,Bool.and_true,Bool.or_true];rw [if_neg e];have:(rem.erase j).contains m=rem.contains m:=by
  rw [YaX];simp only [List.contains_iff_mem];exact List.mem_erase_of_ne (λh=>e h.symm)
 rw [this];simpa [lst] using hm
theorem Zke {q:Nat} (is:List Nat) (J:List Nat->World->Prop) (hq:Nat.ble 100000 (q+3)=true) (eX:bits (q+3 - 100000)=is) (mV:is.Nodup) (h0:J is w)
 (step:∀ rem j w',rem.Sublist is->j∈rem->J rem w'->∃ o,ops[j]?=some o/\o.dst=none/\JS ops e o.guard/\OE P n o e w' (λ_ w''=>(Rl.rel S w' w''\/Lt.contains j=true)/\J (rem.erase j) w''))
 (fin:∀ w',J [] w'->WG P n ops S Lt Q rest e w'):WG P n ops S Lt Q ((i,q+3) :: rest) e w:=by
 refine ⟨λlisted hs hB a ha=>?_⟩;have dE:¬ q+3<100000:=YaK.2 (Xe hq);have hw:wt ((i,q+3) :: rest)=is.length+wt rest:=by simp only [wt];rw [if_neg dE,eX]
 rw [hw];simp only [Jp,ZL] at hB;rw [if_neg (by simp),if_neg dE,eX] at hB;simp only [Xa] at hB;obtain ⟨_,ar,iR⟩:=hB;have hready:∀ rem:List Nat,rem.Sublist is->0<rem.length->Region.ready .any ops (lst listed is rem)=rem:=λrem hr h0=>by
  have:=Xy.1 ar rem (Z4F hr);cases rem with
  | nil=>simp at h0
  | cons x r=>simpa using this
 have key:∀ (k:Nat) (rem:List Nat),rem.length=k->rem.Sublist is->∀ w' a,Has n e a->J rem w'->Z0m P .any ops S (λj=>Lt.contains j) (λa w=>Q .normal a w) (k+wt rest) (lst listed is rem) a w':=by
  intro k
  induction k with
  | zero=>
    intro rem hl hr w' a ha hJ;obtain rfl:=X7.1 hl;rw [XL];exact (fin w' hJ).h _ hs iR a ha
  | succ k ih=>
    intro rem hl hr w' a ha hJ;rw [show k+1+wt rest=(k+wt rest)+1 by omega];refine ⟨λh=>?_,λj hj=>?_⟩;rw [hready rem hr (by omega)] at h;subst h;simp at hl;rw [hready rem hr (by omega)] at hj;obtain ⟨o,hi,dD,hg,hp⟩:=step rem j w' hr hj hJ;unfold wpOp;simp only [hi];rw [if_pos (JO ha hg)];refine .inl (Oper.wp_mono ?_ (hp.h a ha _));rintro a' w'' ⟨v,rfl,bS,oG⟩;refine ⟨bS,?_⟩;rw [ZcT (hr.nodup mV) hr hj,dD];exact ih _ (by rw [List.length_erase_of_mem hj];omega) (List.erase_sublist.trans hr) w'' _ ha oG
 have:=key is.length is rfl (List.Sublist.refl _) w a ha h0
 rwa [ZfX] at this
theorem Z4n {o:Oper} {dst:Option Nat} {G:Value->World->Prop} (hi:ops[i]?=some o) (dD:o.dst=dst) (hg:JS ops e o.guard) (hp:OE P n o e w (λv w'=>(Rl.rel S w w'\/Lt.contains i=true)/\G v w'))
 (k:∀ v w' a',G v w'->∀ a,Has n e a->a'=a.put dst v->∃ e',Has n e' a'/\WG P n ops S Lt Q rest e' w'):WG P n ops S Lt Q ((i,2) :: rest) e w:=
 ZcS (ZcR hi dD hg hp k)
theorem Z7j (hi:ops[i]?=some ⟨some d,op,ty,pos,af,gd⟩) (hg:noB ops e gd=true) (aw:Nat.blt d n=true)
 (k:WG P n ops S Lt Q rest ((d,undef) :: e) w):WG P n ops S Lt Q ((i,2) :: rest) e w:=by
 refine ZcS ⟨λlisted hs h3 a ha=>?_⟩;unfold wpOp;simp only [hi];have hw:=Z0z (o:=⟨some d,op,ty,pos,af,gd⟩) ha hg;rw [if_neg (by simp [hw])];exact ⟨.inl (Rl.refl _ _),k.h _ hs h3 _ (ha.put (v:=undef) aw)⟩
theorem JJ {G:Value->World->Prop} (hi:ops[i]?=some ⟨some d,op,ty,pos,af,gd⟩) (hg:JS ops e gd) (hp:OE P n ⟨some d,op,ty,pos,af,gd⟩ e w G) (hG:∀ v w',G v w'->Rl.rel S w w') (aw:Nat.blt d n=true)
 (k:∀ v w',G v w'->WG P n ops S Lt Q rest ((d,v) :: e) w'):WG1 P n ops S Lt Q i rest e w:=
 ZcR (G:=G) hi rfl hg (hp.mono λv w' h=>⟨.inl (hG v w' h),h⟩) (λv w' a' h a ha e=>⟨_,by rw [e];exact ha.put aw,k v w' h⟩)
theorem Z7 {G:Value->World->Prop} (hi:ops[i]?=some ⟨some d,op,ty,pos,af,gd⟩) (hg:JS ops e gd) (hp:OE P n ⟨some d,op,ty,pos,af,gd⟩ e w G) (hG:∀ v w',G v w'->Rl.rel S w w') (aw:Nat.blt d n=true)
 (k:∀ v w',G v w'->WG P n ops S Lt Q rest ((d,v) :: e) w'):WG P n ops S Lt Q ((i,2) :: rest) e w:=
 Z4n (G:=G) hi rfl hg (hp.mono λv w' h=>⟨.inl (hG v w' h),h⟩) (λv w' a' h a ha e=>⟨_,by rw [e];exact ha.put aw,k v w' h⟩)
theorem Z33 {G:Value->World->Prop} (hi:ops[i]?=some ⟨none,op,ty,pos,af,gd⟩) (hg:JS ops e gd) (hp:OE P n ⟨none,op,ty,pos,af,gd⟩ e w G) (hG:∀ v w',G v w'->Rl.rel S w w')
 (k:∀ v w',G v w'->WG P n ops S Lt Q rest e w'):WG P n ops S Lt Q ((i,2) :: rest) e w:=
 Z4n (G:=G) hi rfl hg (hp.mono λv w' h=>⟨.inl (hG v w' h),h⟩) (λv w' a' h a ha e=>⟨_,by rw [e];exact ha,k v w' h⟩)
theorem Zaf {G:Value->World->Prop} (hi:ops[i]?=some ⟨some d,op,ty,pos,af,gd⟩) (hg:JS ops e gd) (hp:OE P n ⟨some d,op,ty,pos,af,gd⟩ e w G) (hL:Lt.contains i=true) (aw:Nat.blt d n=true)
 (k:∀ v w',G v w'->WG P n ops S Lt Q rest ((d,v) :: e) w'):WG P n ops S Lt Q ((i,2) :: rest) e w:=
 Z4n (G:=G) hi rfl hg (hp.mono λv w' h=>⟨.inr hL,h⟩) (λv w' a' h a ha e=>⟨_,by rw [e];exact ha.put aw,k v w' h⟩)
theorem J2 {G:Value->World->Prop} (hi:ops[i]?=some ⟨none,op,ty,pos,af,gd⟩) (hg:JS ops e gd) (hp:OE P n ⟨none,op,ty,pos,af,gd⟩ e w G) (hL:Lt.contains i=true)
 (k:∀ v w',G v w'->WG P n ops S Lt Q rest e w'):WG P n ops S Lt Q ((i,2) :: rest) e w:=
 Z4n (G:=G) hi rfl hg (hp.mono λv w' h=>⟨.inr hL,h⟩) (λv w' a' h a ha e=>⟨_,by rw [e];exact ha,k v w' h⟩)
theorem ZcU {ord:List (Nat×Nat)} {j:Nat} {p:Prop} [Decidable p] (hy:look e j=some (.B (decide p)))
 (ht:p->WG P n ops S Lt Q ord ((j,.B true) :: e) w) (hf:¬ p->WG P n ops S Lt Q ord ((j,.B false) :: e) w):WG P n ops S Lt Q ord e w:=by
 refine ⟨λlisted hs hB a ha=>?_⟩;by_cases hp:p;exact (ht hp).h _ hs hB a (ha.same hy (by simp [hp]));exact (hf hp).h _ hs hB a (ha.same hy (by simp [hp]))
theorem Z6 {i q j d:Nat} {b:Bool} {o:Oper} {p:Prop} [Decidable p] (hi:ops[i]?=some o) (hg:o.guard=some (j,b)) (hj:Za8 ops j=some d) (hy:look e d=some (.B (decide p)))
 (ht:p->WG P n ops S Lt Q ((i,q) :: rest) ((d,.B true) :: e) w) (hf:¬ p->WG P n ops S Lt Q ((i,q) :: rest) ((d,.B false) :: e) w):WG P n ops S Lt Q ((i,q) :: rest) e w:=
 ZcU hy ht hf
theorem Z2 {i q j d:Nat} {b:Bool} {o:Oper} {t:Bool} (hi:ops[i]?=some o) (hg:o.guard=some (j,b)) (hj:Za8 ops j=some d) (hy:look e d=some (.B t))
 (ht:t=true->WG P n ops S Lt Q ((i,q) :: rest) ((d,.B true) :: e) w) (hf:t=false->WG P n ops S Lt Q ((i,q) :: rest) ((d,.B false) :: e) w):WG P n ops S Lt Q ((i,q) :: rest) e w:=by
 refine ⟨λlisted hs hB a ha=>?_⟩;cases t;exact (hf rfl).h _ hs hB a (ha.same hy rfl);exact (ht rfl).h _ hs hB a (ha.same hy rfl)
end rules
abbrev Z8E (P:Program) (md:Region.Mode) (ops:Array Oper) (S:List Nat) (Lt:Nat->Bool) (Z:Act->World->Prop):Nat->Array Bool->Act->World->Prop:=Z0m P md ops S Lt Z
abbrev WD (P:Program) (n:Nat) (ops:Array Oper) (S:List Nat) (Lt:List Nat) (Q:Exit->Act->World->Prop) (ord:List (Nat×Nat)) (e:Env) (w:World):Prop:=WG P n ops S Lt Q ord e w
abbrev WD1 (P:Program) (n:Nat) (ops:Array Oper) (S:List Nat) (Lt:List Nat) (Q:Exit->Act->World->Prop) (i:Nat) (ord:List (Nat×Nat)) (e:Env) (w:World):Prop:=WG1 P n ops S Lt Q i ord e w
section
variable {P:Program} {n:Nat} {Q:Exit->Act->World->Prop} {e:Env} {w:World} {ops:Array Oper} {Lt:List Nat} {rest:List (Nat×Nat)} {i d:Nat} {op:Op} {ty:TypeId} {pos:String} {af:Array Edge} {gd:Option (Nat×Bool)} {v:Value}
theorem WC_drawn {id:Nat} {l:List Oper} (m:Nat) (S:List Nat) (Lt:List Nat) (ord:List (Nat×Nat)) (cf:l.length=m) (hm:P.follows .mixedOrders=true) (hs:Region.noSelect l.toArray=true) (hl:Nat.beq (wt ord) l.length=true)
 (hB:Jp l.toArray Lt ord (Array.replicate m false)=true)
 (h:∀ w',Stp [] w w'->WD P n l.toArray S Lt Q ord e w'):WC P n (.region id l.toArray true) Q e w:=Z5R m S Lt ord cf hm hs hl hB h
theorem WD_read {S:List Nat} (hi:ops[i]?=some ⟨some d,op,ty,pos,af,gd⟩) (hg:JS ops e gd) (hp:∀ w',Stp S w w'->PR P n ⟨some d,op,ty,pos,af,gd⟩ e w' v) (aw:Nat.blt d n=true)
 (k:WD P n ops S Lt Q rest ((d,v) :: e) w):WD P n ops S Lt Q ((i,1) :: rest) e w:=Zae hi hg hp aw k
end
theorem ZDr {P:Program} {n:Nat} {Q:Exit->Act->World->Prop} {e:Env} {w} {id:Nat} {l:List Oper} (m:Nat) (S:List Nat) (Lt:List Nat) (ord:List (Nat×Nat)) (h:∀ w',Stp [] w w'->WD P n l.toArray S Lt Q ord e w') (cf:l.length=m:=by exact rfl) (hm:P.follows .mixedOrders=true:=by kernel_rfl) (hs:Region.noSelect l.toArray=true:=by kernel_rfl) (hl:Nat.beq (wt ord) l.length=true:=by kernel_rfl)
 (hB:Jp l.toArray Lt ord (Array.replicate m false)=true:=by kernel_rfl):WC P n (.region id l.toArray true) Q e w:=WC_drawn m S Lt ord cf hm hs hl hB h
theorem Z3V {k:Nat}:∀ (l:List (List Value)),(∀ c∈l,c.length=k)->l.flatten.length=l.length * k
 | [],_=>by simp
 | c :: r, h => by
   simp only [Yas,Xf,Xh,Yad];rw [Z3V r (λc hc=>h c (by simp [hc])),h c (by simp)];omega
theorem Z0i {k:Nat}:∀ (css:List (List Value)),(∀ c∈css,c.length=k)->∀ (i:Nat),i<css.length->∀ (cs:List Value),
 (css.set i cs).flatten=css.flatten.take (i * k)++cs++css.flatten.drop (i * k+k)
 | [],_,i,hi,_=>absurd hi (Xs _)
 | c :: r, hk, 0, _, cs => by
   have hc:=hk c (by simp);simp [hc]
 | c :: r, hk, i + 1, hi, cs => by
   have hc:=hk c (by simp);have ih:=Z0i r (λc hc=>hk c (by simp [hc])) i (by simpa using hi) cs;simp only [List.set_cons_succ,Yas,ih,Yad];rw [YaC,List.drop_append,hc];rw [XV (l:=c) (by omega),show c.drop (i * k+k+k)=[] from Yat (by omega)];rw [show i * k+k - k=i * k by omega,show i * k+k+k - k=i * k+k by omega];simp [XM]
theorem Z1u {k:Nat}:∀ (css:List (List Value)),(∀ c∈css,c.length=k)->∀ (i:Nat) (hi:i<css.length) (j:Nat) (hj:j<k) (u:Value),
 (css.set i (css[i].set j u)).flatten=css.flatten.set (i * k+j) u
 | [],_,i,hi,_,_,_=>absurd hi (Xs _)
 | c :: r, hk, 0, _, j, hj, u => by
   have hc:=hk c (by simp);simp [hc,hj]
 | c :: r, hk, i + 1, hi, j, hj, u => by
   have hc:=hk c (by simp);have ih:=Z1u r (λc hc=>hk c (by simp [hc])) i (by simpa using hi) j hj u;simp only [List.set_cons_succ,Yas,List.getElem_cons_succ,ih,Yad];rw [Ybm,if_neg (by omega),hc];rw [show i * k+k+j - k=i * k+j by omega]
section row
variable {α:Type} [Z3 α] {X:List Nat} {w w':World} {base T:Nat} {v:Value} {xs:List α}
variable {P:Program} {n:Nat} {e:Env} {d:Option Nat} {ty:TypeId} {pos:String} {af:Array Edge} {g:Option (Nat×Bool)}
theorem Row.isSome (h:Row X w base T v xs) {i:Nat} (hi:i<xs.length):∃ q l c,v=.slice (some ⟨q,0,none⟩) l c:=by
 obtain ⟨css,hl,hr,ho⟩:=h;rcases ho.2 with ⟨rfl,hn⟩|⟨q,cap,cur,rfl,hb,hg,ca,bL,bu,ht⟩
 omega;exact ⟨_,_,_,rfl⟩
theorem Z4G {i k:Nat} {t:TypeId} {x y:Operand} {u:Value} {y':α} [br:Siz P t k] (hx:ev e x=some (.pointer (some (Zz v i k 0)))) (hy:ev e y=some u) (hk:k=Z3.k α)
 (bW:Z3.rep (ob v++X) w y' u.cells.toList) (ac:Row X w base T v xs) (hX:∀ b∈X,b<base) (hi:i<xs.length) :
 OE P n ⟨d,.store t x y,ty,pos,af,g⟩ e w (λ_ w'=>Row X w' base T v (xs.set i y')/\Stp (ob v) w w'):=by
 have cD:=ac;obtain ⟨css,hl,hr,ho⟩:=ac;have ai:∀ c∈css,c.length=Z3.k α:=by
  intro c hc;obtain ⟨q,hq,rfl⟩:=Xv hc;exact Z3.len (hr q (by omega) hq)
 rcases ho.2 with ⟨rfl,hn⟩|⟨q,cap,cur,rfl,hb,hg,ca,bL,bu,ht⟩
 omega;subst hk;have cK:u.cells.toList.length=Z3.k α:=Z3.len bW;have cy:i * Z3.k α+u.cells.toList.length<=cur.size:=by
  rw [cK,bu,<- Yad];exact Xt _ (by omega)
 have aB:=run_storeCells_at P q (i * Z3.k α) T u.cells.toList 0 cur w hg (by simpa using cy) (Z3.one bW);simp only [Yba] at aB;have dW:u.cells.size=Z3.k α:=by simpa using cK
 have fu:Stp [q] w (w.setRow q (cur.toList.take (i * Z3.k α)++u.cells.toList++cur.toList.drop (i * Z3.k α+u.cells.toList.length)).toArray):=Z0A _ _ _;refine Z2o (w':=w.setRow q (cur.toList.take (i * Z3.k α)++u.cells.toList++cur.toList.drop (i * Z3.k α+u.cells.toList.length)).toArray) (λa ha=>?_) ⟨⟨css.set i u.cells.toList,by simp [hl],λj hj dM=>?_,?_,.inr ⟨q,cap,_,by simp,hb,setRow_heap w q cur _ T (0,0) hg,by simpa using ca,bL,?_,?_⟩⟩,fu⟩;have dX:Zz (.slice (some ⟨q,0,none⟩) xs.length cap) i (Z3.k α) 0=⟨q,i * Z3.k α,none⟩:=by simp [Zz]
 rw [dX] at hx;simp [execOp,ha.ev hx,ha.ev hy,Instr.storeAt,Instr.sureAddr,storeVar,Siz.run,dW,aB];have ae:∀ b∈[q],b∈ob (.slice (some ⟨q,0,none⟩) xs.length cap)++X:=by simp [ob]
 by_cases dw:i=j;subst dw;simp only [Yaw];exact Z3.ext bW fu ae (λb hb=>.inl hb);simp only [Yai dw];exact Z3.ext (hr j (by simpa using hj) (by simpa using dM)) fu ae (λb hb=>.inl hb);rw [Z0i css ai i (by omega)];have h1:=ho.1;simp only [Xf,XA,X4,X0,cK,h1];have:(i+1) * Z3.k α<=xs.length * Z3.k α:=Xt _ (by omega);rw [Yad] at this;omega;simp only [Yaa,Xf,XA,X4,X5,cK,bu];rw [cK,bu] at cy;omega;rw [Z0i css ai i (by omega),<- ht];have h2:(i+1) * Z3.k α<=xs.length * Z3.k α:=Xt _ (by omega);rw [Yad] at h2;have h3:i * Z3.k α<=cur.toList.length:=by simp [bu];exact Xl (by omega) (Xt _ ca)
 simp only [X0,cK];rw [YaC,YaC,YaD,YaD,Ybq];simp only [Xf,XA,cK];rw [Yan h3,XV (l:=u.cells.toList) (by rw [cK];omega)];rw [Ybi (by omega:i * Z3.k α<=xs.length * Z3.k α),Yan (by omega:i * Z3.k α<=xs.length * Z3.k α)]
theorem Z3z {β:Type} [Z8 β] {xs:List β} {i j k:Nat} {t:TypeId} {x y:Operand} {u:Value} {y':β} [br:Siz P t 1] (hx:ev e x=some (.pointer (some (Zz v i k j)))) (hy:ev e y=some u) (hk:k=Z8.k β)
 (hu:u.cells.toList=[u]) (h1:u.oneCell'=true) (ac:Row X w base T v xs) (hi:i<xs.length) (hj:j<Z8.k β) (bW:Z8.enc y'=(Z8.enc xs[i]).set j u) :
 OE P n ⟨d,.store t x y,ty,pos,af,g⟩ e w (λ_ w'=>Row X w' base T v (xs.set i y')/\Stp (ob v) w w'):=by
 obtain ⟨css,hl,hr,ho⟩:=ac;have ai:∀ c∈css,c.length=Z3.k β:=by
  intro c hc;obtain ⟨q,hq,rfl⟩:=Xv hc;exact Z3.len (hr q (by omega) hq)
 have bC:Z3.k β=Z8.k β:=rfl;rcases ho.2 with ⟨rfl,hn⟩|⟨q,cap,cur,rfl,hb,hg,ca,bL,bu,ht⟩
 omega;subst hk;have hlt:i * Z8.k β+j<xs.length * Z8.k β:=by
  have:(i+1) * Z8.k β<=xs.length * Z8.k β:=Xt _ (by omega);rw [Yad] at this;omega
 have cy:i * Z8.k β+j+[u].length<=cur.size:=by
  rw [bu,bC];have:=Xt (Z8.k β) ca;simp only [List.length_singleton];omega
 have aB:=run_storeCells_at P q (i * Z8.k β+j) T [u] 0 cur w hg (by simpa using cy) (by simpa using h1);simp only [Yba] at aB;have dW:u.cells.size=1:=by rw [<- X5,hu];rfl
 have fu:Stp [q] w (w.setRow q (cur.toList.take (i * Z8.k β+j)++[u]++cur.toList.drop (i * Z8.k β+j+[u].length)).toArray):=Z0A _ _ _;have kS:css[i]'(by omega)=Z8.enc xs[i]:=hr i hi (by omega);refine Z2o (w':=w.setRow q (cur.toList.take (i * Z8.k β+j)++[u]++cur.toList.drop (i * Z8.k β+j+[u].length)).toArray) (λa ha=>?_) ⟨⟨css.set i ((css[i]'(by omega)).set j u),by simp [hl],λm hm iS=>?_,?_,.inr ⟨q,cap,_,by simp,hb,setRow_heap w q cur _ T (0,0) hg,by simpa using ca,bL,?_,?_⟩⟩,fu⟩;have dX:Zz (.slice (some ⟨q,0,none⟩) xs.length cap) i (Z8.k β) j=⟨q,i * Z8.k β+j,none⟩:=by simp [Zz]
 rw [dX] at hx;simp [execOp,ha.ev hx,ha.ev hy,Instr.storeAt,Instr.sureAddr,storeVar,Siz.run,dW,hu,aB];by_cases dw:i=m;subst dw;simp only [Yaw];show _=Z8.enc y';rw [kS,bW];simp only [Yai dw];exact hr m (by simpa using hm) (by simpa using iS);rw [Z1u css ai i (by omega) j hj];simpa using ho.1;simp only [Yaa,Xf,XA,X4,X5];omega;rw [Z1u css ai i (by omega) j hj,<- ht];have br:i * Z8.k β+j<cur.toList.length:=by simp;simp at cy;omega
 simp only [X0,bC];rw [show cur.toList.take (i * Z8.k β+j)++[u]++cur.toList.drop (i * Z8.k β+j+[u].length)=cur.toList.set (i * Z8.k β+j) u by
  rw [List.set_eq_take_append_cons_drop,if_pos br];simp]
 rw [List.take_set]
def slc (v:Value) (l h k:Nat):Value:=
 match v with
 | .slice a _ c=>.slice (if c=l then a else a.map (·.add (l * k))) (h - l) (c - l)
 | v=>v
theorem SlV.slc (h:SlV X w v xs) {l r:Nat} (hl:l<=r) (hr:r<=xs.length):SlV X w (slc v l r (Z3.k α)) ((xs.take r).drop l):=by
 obtain ⟨p,c,rfl,ai,hm,hn,hc⟩:=h;have iT:((xs.take r).drop l).length=r - l:=by simp;omega
 refine ⟨if c=l then p else p.map (·.add (l * Z3.k α)),c - l,by simp [Eng.slc,iT],by omega,by omega,?_,λi hi=>?_⟩;intro hp;split at hp;omega
 . cases p with
   | none=>have:=hn rfl;omega
   | some a=>simp at hp
 have bN:l+i<xs.length:=by omega
 obtain ⟨b,o,cs,rfl,hb,hx,eu,an⟩:=hc (l+i) bN;refine ⟨b,o+l * Z3.k α,cs,?_,hb,hx,by simpa using eu,λj u hu=>?_⟩;rw [if_neg (by omega)];simp [Addr.add_lit];have:=an j u hu;rw [show o+l * Z3.k α+i * Z3.k α+j=o+(l+i) * Z3.k α+j by rw [Nat.add_mul];omega];exact this
theorem Z1v {t el k:Nat} {x hi:Operand} {r:Nat} {b:Int} [hu:Und P t (.slice el)] [hk:Siz P el k] {cm:World} (hx:ev e x=some v) (hs:SlV X cm v xs) (hb:ev e hi=some (.I b))
 (mW:b=(r:Int)) (iU:r<=xs.length):PR P n ⟨d,.slice t x none (some hi) none,ty,pos,af,g⟩ e w (slc v 0 r k):=by
 refine ⟨λact ew=>?_⟩;obtain ⟨p,c,rfl,ai,hm,hn,hc⟩:=hs;subst mW;simp [execOp,ew.ev hx,ew.ev hb,Instr.sliceAt,run_underlying hu.h,Instr.slice,Instr.sliceBounds,Instr.sliceBound,asIntOf,Siz.run,Eng.slc,show r<=c by omega]
theorem Z4H {t el k:Nat} {x lo:Operand} {l:Nat} {a:Int} [hu:Und P t (.slice el)] [hk:Siz P el k] {cm:World} (hx:ev e x=some v) (hs:SlV X cm v xs) (ha:ev e lo=some (.I a))
 (cX:a=(l:Int)) (ke:l<=xs.length):PR P n ⟨d,.slice t x (some lo) none none,ty,pos,af,g⟩ e w (slc v l xs.length k):=by
 refine ⟨λact ew=>?_⟩;obtain ⟨p,c,rfl,ai,hm,hn,hc⟩:=hs;subst cX;simp [execOp,ew.ev hx,ew.ev ha,Instr.sliceAt,run_underlying hu.h,Instr.slice,Instr.sliceBounds,Instr.sliceBound,asIntOf,Siz.run,Eng.slc,ke]
end row
section misc
variable {P:Program} {n:Nat} {e:Env} {w:World} {d:Option Nat} {ty:TypeId} {pos:String} {af:Array Edge} {g:Option (Nat×Bool)}
def ZX (e:Env):List (Nat×Operand)->Option (List (Nat×Value))
 | []=>some []
 | (i, x) :: r => match ev e x, ZX e r with
   | some v,some l=>some ((i,v) :: l)
   | _,_=>none
theorem Has.parts {a:Act} (ha:Has n e a):∀ {l:List (Nat×Operand)} {vs:List (Nat×Value)},ZX e l=some vs->l.map (λ(p:Nat×Operand)=>(p.1,a.eval p.2))=vs
 | [],vs,h=>by simp [ZX] at h;simp [h]
 | (i, x) :: r, vs, h => by
   simp only [ZX] at h;cases hx:Eng.ev e x with
   | none=>simp [hx] at h
   | some v=>
     cases hr:ZX e r with
     | none=>simp [hx,hr] at h
     | some l=>
       simp [hx,hr] at h;subst h;simp [ha.ev hx,Has.parts ha hr]
theorem JT {t:TypeId} {l:List (Nat×Operand)} {vs:List (Nat×Value)} {u:Value} (hv:ZX e l=some vs) (hb:∀ w,(Instr.build t vs.toArray).run P w=.ok u w):PR P n ⟨d,.build t l.toArray,ty,pos,af,g⟩ e w u:=
 ⟨λa ha => by
   have h1:=ha.parts hv;have h2:l.toArray.map (λ(x:Nat×Operand)=>match x with|(i,x)=>(i,a.eval x))=vs.toArray:=by
    rw [Ybj];exact congrArg List.toArray h1
   simp only [execOp];rw [h2];simp [hb]⟩
def Z5 (w:World) (T:TypeId) (len:Nat) (cs:List Value) (v:Value) (w':World):Prop:=∃ b,v=.slice (some ⟨b,0,none⟩) len len/\w.heap.size<=b/\Blk w' b T cs/\Stp [] w w'
theorem Z0 {t T len:Nat} {l:List (Nat×Operand)} {vs:List (Nat×Value)} {cs:List Value} (hv:ZX e l=some vs)
 (hb:∀ w:World,(Instr.buildSlice t len vs.toArray).run P w=.ok (.slice (some ⟨w.heap.size,0,none⟩) len len) (w.alloc (.cells cs.toArray T))) :
 OE P n ⟨d,.buildSlice t len l.toArray,ty,pos,af,g⟩ e w (Z5 w T len cs):=
 ZF (v:=.slice (some ⟨w.heap.size,0,none⟩) len len) (w':=w.alloc (.cells cs.toArray T)) (λa ha=>by
  have h1:=ha.parts hv;have h2:l.toArray.map (λ(x:Nat×Operand)=>match x with|(i,x)=>(i,a.eval x))=vs.toArray:=by
   rw [Ybj];exact congrArg List.toArray h1
  simp only [execOp];rw [h2];simp [hb w]) ⟨w.heap.size,rfl,Xq _,heap_alloc_new w _,Stp.alloc _ _ _⟩
theorem Z5.slv {β:Type} [Z8 β] {X:List Nat} {T len:Nat} {cs:List Value} {v:Value} {w':World} {ys:List β} (h:Z5 w T len cs v w') (hX:∀ b∈X,b<w.heap.size) (hl:len=ys.length) (hc:cs=ys.flatMap Z8.enc) (hm:ys.length<=maxLen):SlV X w' v ys:=by
 obtain ⟨b,rfl,hb,ab,hS⟩:=h;subst hl;refine ⟨some ⟨b,0,none⟩,ys.length,rfl,Xq _,hm,λh=>by simp at h,λi hi=>⟨b,0,Z8.enc ys[i],rfl,ab.lt,λhx=>by have:=hX b hx;omega,rfl,λj u hu=>?_⟩⟩;subst hc;refine ab.cell ?_;have hk:∀ c∈ys.map Z8.enc,c.length=Z8.k β:=by
  intro c hc;obtain ⟨y,_,rfl⟩:=XO.1 hc;exact Z8.len y
 have:=Z04 (ys.map Z8.enc) hk i (by simpa using hi) j u (by simpa using hu);rw [Ya2,XL];exact this
theorem Z5.row {β:Type} [Z8 β] {X:List Nat} {T len base:Nat} {cs:List Value} {v:Value} {w':World} {ys:List β} (h:Z5 w T len cs v w') (aP:base<=w.heap.size) (hl:len=ys.length) (hc:cs=ys.flatMap Z8.enc) (hm:ys.length<=maxLen):Row X w' base T v ys:=by
 obtain ⟨b,rfl,hb,ab,hS⟩:=h;subst hl;subst hc;have hk:∀ c∈ys.map Z8.enc,c.length=Z8.k β:=by
  intro c hc;obtain ⟨y,_,rfl⟩:=XO.1 hc;exact Z8.len y
 have kg:(ys.flatMap Z8.enc).length=ys.length * Z8.k β:=by rw [Ya2,Z3V _ hk,X1]
 refine ⟨ys.map Z8.enc,by simp,λi hi bh=>(by simp:(ys.map Z8.enc)[i]=Z8.enc ys[i]),?_,.inr ⟨b,ys.length,(ys.flatMap Z8.enc).toArray,rfl,by omega,ab,Xq _,hm,by rw [Yaa];exact kg,?_⟩⟩;rw [<- Ya2];exact kg;rw [<- Ya2];exact XV (by show (ys.flatMap Z8.enc).length<=_;rw [kg];exact Xq _)
theorem ZfY {x y:Operand} {t u:TypeId} {p q:Value} {c:Prop} [Decidable c] (hx:ev e x=some p) (hy:ev e y=some q) (hg:∀ w,(eqGuard .eql t x y p q).run P w=.ok () w) (h:∀ w,(binOp .eql t p q).run P w=.ok (.B (decide c)) w) :
 PR P n ⟨d,.binOp .eql t x y u,ty,pos,af,g⟩ e w (.B (decide c)):=⟨λa ha=>by simp [execOp,ha.ev hx,ha.ev hy,h,hg]⟩
end misc
section post
variable {P:Program} {n:Nat} {fn:Func} {R:Ending->World->Prop} {e:Env} {w:World} {Q:Exit->Act->World->Prop}
theorem Z3W {t b T m:Nat} {D:TypeDesc} {cs:List Value} [hu:Und P t D] (hA:Z03 D=true) [hs:Siz P t m] (hb:Blk w b T cs) (hl:cs.length=m):(loadVar t ⟨b,0,none⟩).run P w=.ok (.agg cs.toArray) w:=by
 have:=run_loadCells_list (P:=P) w ⟨b,0,none⟩ cs (λj v h=>by rw [Addr.add_lit,XL];exact hb.cell h);rw [hl] at this;simp [loadVar,Und.isAgg,hA,Siz.run,this]
theorem ZP {t b T T' m:Nat} {D:TypeDesc} {cs:List Value} (hr:fn.results=#[.cell t T']) [hu:Und P T' D] (hA:Z03 D=true) [hs:Siz P T' m] (ht:look e t=some (pQ b)) (hb:Blk w b T cs) (hl:cs.length=m)
 (h:R (.returned (.agg cs.toArray)) w):WQ n (bodyPost P fn R) .ret e w:=
 ⟨λa ha => ⟨ha.defers, .agg cs.toArray, by
   have h1:=ha.vals _ _ ht;rw [XD] at h1;simp [results,hr,h1,asAddr,Z3W hA hb hl],h⟩⟩
theorem Z1f {t b T T' m s:Nat} {D:TypeDesc} {cs:List Value} {v:Value} (hr:fn.results=#[.cell t T',.tmp s]) [hu:Und P T' D] (hA:Z03 D=true) [hs:Siz P T' m] (ht:look e t=some (pQ b)) (hb:Blk w b T cs) (hl:cs.length=m)
 (hv:look e s=some v) (h:R (.returned (.tuple #[.agg cs.toArray,v])) w):WQ n (bodyPost P fn R) .ret e w:=
 ⟨λa ha => ⟨ha.defers, .tuple #[.agg cs.toArray, v], by
   have h1:=ha.vals _ _ ht;have h2:=ha.vals _ _ hv;rw [XD] at h1 h2;simp [results,hr,h1,h2,asAddr,Z3W hA hb hl],h⟩⟩
end post
theorem ZcV {P:Program} {n:Nat} {o:Oper} {e:Env} {w} {v:Value} (h:PR P n o e w v):OE P n o e w (λu w'=>u=v/\w'=w):=ZF h.h ⟨rfl,rfl⟩
section
variable {P:Program} {n:Nat} {Q:Exit->Act->World->Prop} {e:Env} {w:World} {ops:Array Oper} {S:List Nat} {Lt:List Nat} {rest:List Oper} {ord:List (Nat×Nat)} {am cp:Nat} {ty:TypeId} {pos:String} {af:Array Edge} {gd:Option (Nat×Bool)}
theorem Z4o {x:Operand} {v:Value} (hx:ev e x=some v) (aw:Nat.blt am n=true) (kk:WL P n ops Q rest ((am,v) :: e) w):WL P n ops Q (⟨some am,.move x,ty,pos,af,none⟩ :: rest) e w:=by
 refine Zf (v:=v) ?_ aw kk;apply Jk<;>assumption
theorem Z2p {x:Operand} {v:Value} (hx:ev e x=some v) (aw:Nat.blt am n=true) (kk:WL P n ops Q rest ((am,v) :: e) w):WL P n ops Q (⟨some am,.assign x,ty,pos,af,none⟩ :: rest) e w:=by
 refine Zf (v:=v) ?_ aw kk;apply Z3x<;>assumption
theorem Z8F {x y:Operand} {t u:TypeId} {a b:Int} {k:IntKind} (hx:ev e x=some (.int k a)) (hy:ev e y=some (.int k b)) (aw:Nat.blt am n=true) (kk:WL P n ops Q rest ((am,(.B (decide (a<b)))) :: e) w):WL P n ops Q (⟨some am,.binOp .lss t x y u,ty,pos,af,none⟩ :: rest) e w:=by
 refine Zf (v:=(.B (decide (a<b)))) ?_ aw kk;apply Z8w<;>assumption
theorem Z8G {x y:Operand} {t u:TypeId} {a b:Int} {k:IntKind} (hx:ev e x=some (.int k a)) (hy:ev e y=some (.int k b)) (aw:Nat.blt am n=true) (kk:WL P n ops Q rest ((am,(.B (decide (b<a)))) :: e) w):WL P n ops Q (⟨some am,.binOp .gtr t x y u,ty,pos,af,none⟩ :: rest) e w:=by
 refine Zf (v:=(.B (decide (b<a)))) ?_ aw kk;apply Z8x<;>assumption
theorem Zkf {x y:Operand} {t u:TypeId} {a b:Int} {k:IntKind} (hx:ev e x=some (.int k a)) (hy:ev e y=some (.int k b)) (aw:Nat.blt am n=true) (kk:WL P n ops Q rest ((am,(.B (decide (¬ a=b)))) :: e) w):WL P n ops Q (⟨some am,.binOp .neq t x y u,ty,pos,af,none⟩ :: rest) e w:=by
 refine Zf (v:=(.B (decide (¬ a=b)))) ?_ aw kk;apply Z8y<;>assumption
theorem ZfZ {x y:Operand} {t u:TypeId} {p q:Bool} [hu:Und P t .bool] (hx:ev e x=some (.B p)) (hy:ev e y=some (.B q)) (aw:Nat.blt am n=true) (kk:WL P n ops Q rest ((am,(.B (decide (¬ p=q)))) :: e) w):WL P n ops Q (⟨some am,.binOp .neq t x y u,ty,pos,af,none⟩ :: rest) e w:=by
 refine Zf (v:=(.B (decide (¬ p=q)))) ?_ aw kk;apply Z6l<;>assumption
theorem ZcW {x:Operand} {t:TypeId} {D:TypeDesc} {ad:Addr} {v:Value} [hu:Und P t D] (hA:Z03 D=false) (hx:ev e x=some (.pointer (some ad))) (hc:w.cell? ad=some v) (aw:Nat.blt am n=true) (kk:WL P n ops Q rest ((am,v) :: e) w):WL P n ops Q (⟨some am,.load t x,ty,pos,af,none⟩ :: rest) e w:=by
 refine Zf (v:=v) ?_ aw kk;apply Jo<;>assumption
theorem Z7k {b T o:Nat} {cs:List Value} {u:Value} {x:Operand} {t:TypeId} {D:TypeDesc} [hu:Und P t D] (hA:Z03 D=false) (hx:ev e x=some (.pointer (some ⟨b,o,none⟩))) (hb:Blk w b T cs) (hc:cs[o]?=some u) (aw:Nat.blt am n=true) (kk:WL P n ops Q rest ((am,u) :: e) w):WL P n ops Q (⟨some am,.load t x,ty,pos,af,none⟩ :: rest) e w:=by
 refine Zf (v:=u) ?_ aw kk;apply ZM<;>assumption
theorem Z8H {α:Type} [Z3 α] {X:List Nat} {v:Value} {xs:List α} {t el k:Nat} {x hi:Operand} {r:Nat} {b:Int} [hu:Und P t (.slice el)] [hk:Siz P el k] {cm:World} (hx:ev e x=some v) (hs:SlV X cm v xs) (hb:ev e hi=some (.I b)) (mW:b=(r:Int)) (iU:r<=xs.length) (aw:Nat.blt am n=true) (kk:WL P n ops Q rest ((am,(slc v 0 r k)) :: e) w):WL P n ops Q (⟨some am,.slice t x none (some hi) none,ty,pos,af,none⟩ :: rest) e w:=by
 refine Zf (v:=(slc v 0 r k)) ?_ aw kk;apply Z1v (α:=α)<;>assumption
theorem Z2R {α:Type} [Z3 α] {X:List Nat} {v:Value} {xs:List α} {t el k:Nat} {x lo:Operand} {l:Nat} {a:Int} [hu:Und P t (.slice el)] [hk:Siz P el k] {cm:World} (hx:ev e x=some v) (hs:SlV X cm v xs) (ha:ev e lo=some (.I a)) (cX:a=(l:Int)) (ke:l<=xs.length) (aw:Nat.blt am n=true) (kk:WL P n ops Q rest ((am,(slc v l xs.length k)) :: e) w):WL P n ops Q (⟨some am,.slice t x (some lo) none none,ty,pos,af,none⟩ :: rest) e w:=by
 refine Zf (v:=(slc v l xs.length k)) ?_ aw kk;apply Z4H (α:=α)<;>assumption
theorem Za {t:TypeId} {l:List (Nat×Operand)} {vs:List (Nat×Value)} {u:Value} (hv:ZX e l=some vs) (hb:∀ w,(Instr.build t vs.toArray).run P w=.ok u w) (aw:Nat.blt am n=true) (kk:WL P n ops Q rest ((am,u) :: e) w):WL P n ops Q (⟨some am,.build t l.toArray,ty,pos,af,none⟩ :: rest) e w:=by
 refine Zf (v:=u) ?_ aw kk;apply JT<;>assumption
theorem Z4I {t:TypeId} {l:List (Nat×Operand)} {vs:List (Nat×Value)} {u:Value} (bF:ops[cp]?=some ⟨some am,.build t l.toArray,ty,pos,af,gd⟩) (bG:JS ops e gd) (hv:ZX e l=some vs) (hb:∀ w,(Instr.build t vs.toArray).run P w=.ok u w) (aw:Nat.blt am n=true) (kk:WD P n ops S Lt Q ord ((am,u) :: e) w):WD P n ops S Lt Q ((cp,0) :: ord) e w:=by
 refine Zy (v:=u) bF bG (λw'=>?_) aw kk;apply JT<;>assumption
theorem Zg0 {x y:Operand} {t u:TypeId} {p q:Value} {c:Prop} [Decidable c] (hx:ev e x=some p) (hy:ev e y=some q) (hg:∀ w,(eqGuard .eql t x y p q).run P w=.ok () w) (h:∀ w,(binOp .eql t p q).run P w=.ok (.B (decide c)) w) (aw:Nat.blt am n=true) (kk:WL P n ops Q rest ((am,(.B (decide c))) :: e) w):WL P n ops Q (⟨some am,.binOp .eql t x y u,ty,pos,af,none⟩ :: rest) e w:=by
 refine Zf (v:=(.B (decide c))) ?_ aw kk;apply ZfY<;>assumption
end
abbrev Str:=List UInt8
abbrev str (s:Str):Value:=.string ⟨s.toArray⟩
theorem Zg1 (a b:Str):((⟨a.toArray⟩:ByteArray).toList == (⟨b.toArray⟩:ByteArray).toList)=decide (a=b):=by
 rw [ByteArray.toList_eq,ByteArray.toList_eq];simp only [Yav]
theorem Jb (a:Str):(⟨a.toArray⟩:ByteArray).size=a.length:=by simp [ByteArray.size]
theorem Z1W (a:Str) (i j:Nat):(⟨a.toArray⟩:ByteArray).extract i j=⟨((a.take j).drop i).toArray⟩:=by
 apply ByteArray.ext;simp [ByteArray.data_extract,Ybq]
theorem Z8I (a b:Str):(⟨a.toArray⟩++⟨b.toArray⟩:ByteArray)=⟨(a++b).toArray⟩:=by
 apply ByteArray.ext;simp [ByteArray.data_append]
def ZU (a:Str) (i:Nat):Int:=((a.getD i 0).toNat:Int)
theorem byte_at {a:Str} {i:Nat} (h:i<a.length):ZU a i=(a[i].toNat:Int):=by simp [ZU,List.getD,h]
instance:Z8 Str where
 k:=1
 enc:=λx=>[str x]
 len:=λ_=>rfl
 one:=by intro x u hu;simp at hu;subst hu;rfl
section rules
variable {P:Program} {n:Nat} {e:Env} {w:World} {d:Option Nat} {ty:TypeId} {pos:String} {af:Array Edge} {g:Option (Nat×Bool)}
theorem Zag {t u:TypeId} {x y:Operand} {a b:Str} [hu:Und P t .string] (hx:ev e x=some (str a)) (hy:ev e y=some (str b)):PR P n ⟨d,.binOp .eql t x y u,ty,pos,af,g⟩ e w (.B (decide (a=b))):=
 ⟨λc ha=>by simp only [execOp,ha.ev hx,ha.ev hy];simp [go_sem,binOp,Op.stringOp];rw [Yav]⟩
theorem Zah {t u:TypeId} {x y:Operand} {a b:Str} [hu:Und P t .string] (hx:ev e x=some (str a)) (hy:ev e y=some (str b)):PR P n ⟨d,.binOp .neq t x y u,ty,pos,af,g⟩ e w (.B (decide (¬ a=b))):=
 ⟨λc ha=>by simp only [execOp,ha.ev hx,ha.ev hy];simp [go_sem,binOp,Op.stringOp];by_cases h:a=b<;>simp [h]⟩
theorem Z6q {t u:TypeId} {x y:Operand} {a b:Str} [hu:Und P t .string] (hx:ev e x=some (str a)) (hy:ev e y=some (str b)) (hl:a.length+b.length<=9223372036854775807):PR P n ⟨d,.binOp .add t x y u,ty,pos,af,g⟩ e w (str (a++b)):=
 ⟨λc ha => by
   simp only [execOp,ha.ev hx,ha.ev hy];simp [go_sem,binOp,Op.stringOp,Z8I];omega⟩
theorem Zai {x:Operand} {t:TypeId} {a:Str} [hu:Und P t .string] (hx:ev e x=some (str a)) :
 PR P n ⟨d,.call { callee:=.builtin .len,args:=#[x],argTypes:=#[t] },ty,pos,af,g⟩ e w (.I (a.length:Int)):=
 ⟨λc ha => by
   have:=run_len_string (P:=P) w t ty ⟨a.toArray⟩ hu.h;simp [execOp,resolve,invoke,builtin,ha.ev hx,this,goInt,Jb]⟩
theorem Z5S {t:TypeId} {x y:Operand} {a:Str} {z:Int} {i:Nat} [hu:Und P t .string] (hx:ev e x=some (str a)) (hy:ev e y=some (.I z)) (hz:z=(i:Int)) (hi:i<a.length):PR P n ⟨d,.index t x y,ty,pos,af,g⟩ e w (.int .u8 (ZU a i)):=
 ⟨λc ha => by
   subst hz;have h1:(0:Int)<=(i:Int)/\((i:Int)<((⟨a.toArray⟩:ByteArray).size:Int)):=by rw [Jb];omega
   have:=run_index_string (P:=P) w t ⟨a.toArray⟩ .i64 (i:Int) hu.h;rw [dif_pos h1] at this;simp only [execOp,ha.ev hx,ha.ev hy];simp [this,ZU,List.getD,hi];rfl⟩
theorem Z1w {t:TypeId} {x lo hi:Operand} {a:Str} {p q:Int} {l r:Nat} [hu:Und P t .string] (hx:ev e x=some (str a)) (h1:ev e lo=some (.I p)) (h2:ev e hi=some (.I q)) (hp:p=(l:Int)) (hq:q=(r:Int)) (oH:l<=r) (hr:r<=a.length) :
 PR P n ⟨d,.slice t x (some lo) (some hi) none,ty,pos,af,g⟩ e w (str ((a.take r).drop l)):=
 ⟨λc ha => by
   subst hp;subst hq;have:=run_slice_string (P:=P) w t ⟨a.toArray⟩ .i64 .i64 (l:Int) (r:Int) hu.h (by omega) (by omega) (by rw [Jb];omega);simp only [execOp,ha.ev hx,ha.ev h1,ha.ev h2,Option.map];simp [Instr.sliceAt,run_underlying hu.h,this,Z1W]⟩
theorem Z3X {t:TypeId} {x lo:Operand} {a:Str} {p:Int} {l:Nat} [hu:Und P t .string] (hx:ev e x=some (str a)) (h1:ev e lo=some (.I p)) (hp:p=(l:Int)) (hl:l<=a.length) :
 PR P n ⟨d,.slice t x (some lo) none none,ty,pos,af,g⟩ e w (str (a.drop l)):=
 ⟨λc ha => by
   subst hp;have:=run_slice_string_l (P:=P) (t:=t) (s:=⟨a.toArray⟩) w hu.h .i64 (l:Int) (by omega) (by rw [Jb];omega);simp only [execOp,ha.ev hx,ha.ev h1,Option.map];simp [Instr.sliceAt,run_underlying hu.h,this,Z1W,Jb]⟩
theorem Z3Y {t:TypeId} {x hi:Operand} {a:Str} {q:Int} {r:Nat} [hu:Und P t .string] (hx:ev e x=some (str a)) (h2:ev e hi=some (.I q)) (hq:q=(r:Int)) (hr:r<=a.length) :
 PR P n ⟨d,.slice t x none (some hi) none,ty,pos,af,g⟩ e w (str (a.take r)):=
 ⟨λc ha => by
   subst hq;have:=run_slice_string_h (P:=P) (t:=t) (s:=⟨a.toArray⟩) w hu.h .i64 (r:Int) (by omega) (by rw [Jb];omega);simp only [execOp,ha.ev hx,ha.ev h2,Option.map];simp [Instr.sliceAt,run_underlying hu.h,this,Z1W]⟩
theorem Z3Z {x:Operand} {b:Addr} (hx:ev e x=some (.pointer (some b))):PR P n ⟨d,.nilCheck x,ty,pos,af,g⟩ e w (.pointer (some b)):=
 ⟨λa ha=>by simp [execOp,ha.ev hx]⟩
theorem ZcX {t:TypeId} {x:Operand} {p:Prop} {i:Decidable p} (hx:ev e x=some (.B (decide p))):PR P n ⟨d,.unOp .not t x,ty,pos,af,g⟩ e w (.B (decide (¬ p))):=
 ⟨λa ha=>by simp [execOp,ha.ev hx,Op.unary]⟩
theorem Z1x {t el len k:Nat} {x y:Operand} {b o i:Nat} {z:Int} [hu:Und P t (.array len el)] [hk:Siz P el k] (hx:ev e x=some (.pointer (some ⟨b,o,none⟩))) (hy:ev e y=some (.I z)) (hz:z=(i:Int)) (hi:i<len) :
 PR P n ⟨d,.indexAddr t x y,ty,pos,af,g⟩ e w (.pointer (some ⟨b,o+i * k,none⟩)):=
 ⟨λa ha => by
   subst hz;have h0:(0:Int)<=(i:Int)/\(i:Int)<(len:Int):=by omega
   have hr:(Instr.indexAt t (.pointer (some ⟨b,o,none⟩)) (.I (i:Int))).run P w=.ok (.pointer (some ⟨b,o+i * k,none⟩)) w:=by
    simp only [Instr.indexAt,asIntOf];simp [run_underlying hu.h,Instr.sureAddr,Siz.run,Addr.add_lit,hi]
   simp [execOp,ha.ev hx,ha.ev hy,hr]⟩
theorem Z3A {t el len k:Nat} {x:Operand} {b:Nat} [hu:Und P t (.array len el)] [hk:Siz P el k] (hx:ev e x=some (pQ b)) :
 PR P n ⟨d,.slice t x none none none,ty,pos,af,g⟩ e w (.slice (some ⟨b,0,none⟩) len len):=
 ⟨λa ha => by
   have hr:(Instr.sliceAt t (pQ b) none none none).run P w=.ok (.slice (some ⟨b,0,none⟩) len len) w:=by
    simp [Instr.sliceAt,Instr.sureAddr,run_underlying hu.h,Instr.sliceBounds,Siz.run,Addr.add]
   simp [execOp,ha.ev hx,hr]⟩
theorem ZcY {x y:Operand} {ts:Array TypeId} {a b:Int} (hx:ev e x=some (.I a)) (hy:ev e y=some (.I b)) :
 PR P n ⟨d,.call { callee:=.builtin .max,args:=#[x,y],argTypes:=ts },ty,pos,af,g⟩ e w (.I (max a b)):=
 ⟨λc ha => by
   have hm:(if b > a then b else a)=max a b:=by omega
   simp [execOp,resolve,invoke,builtin,ha.ev hx,ha.ev hy,run_max_int2,hm]⟩
theorem ZcZ {x y:Operand} {ts:Array TypeId} {a b:Int} (hx:ev e x=some (.I a)) (hy:ev e y=some (.I b)) :
 PR P n ⟨d,.call { callee:=.builtin .min,args:=#[x,y],argTypes:=ts },ty,pos,af,g⟩ e w (.I (min a b)):=
 ⟨λc ha => by
   have hm:(if b<a then b else a)=min a b:=by omega
   simp [execOp,resolve,invoke,builtin,ha.ev hx,ha.ev hy,run_min_int2,hm]⟩
end rules
section
variable {P:Program} {n:Nat} {Q:Exit->Act->World->Prop} {e:Env} {w:World} {ops:Array Oper} {S:List Nat} {Lt:List Nat} {rest:List Oper} {ord:List (Nat×Nat)} {am cp:Nat} {ty:TypeId} {pos:String} {af:Array Edge} {gd:Option (Nat×Bool)}
theorem Z4p {t u:TypeId} {x y:Operand} {a b:Str} [hu:Und P t .string] (hx:ev e x=some (str a)) (hy:ev e y=some (str b)) (hl:a.length+b.length<=9223372036854775807) (aw:Nat.blt am n=true) (kk:WL P n ops Q rest ((am,(str (a++b))) :: e) w):WL P n ops Q (⟨some am,.binOp .add t x y u,ty,pos,af,none⟩ :: rest) e w:=by
 refine Zf (v:=(str (a++b))) ?_ aw kk;apply Z6q<;>assumption
theorem JB {t:TypeId} {x y:Operand} {a:Str} {z:Int} {i:Nat} [hu:Und P t .string] (hx:ev e x=some (str a)) (hy:ev e y=some (.int .i64 z)) (hz:z=(i:Int)) (hi:i<a.length) (aw:Nat.blt am n=true) (kk:WL P n ops Q rest ((am,(.int .u8 (ZU a i))) :: e) w):WL P n ops Q (⟨some am,.index t x y,ty,pos,af,none⟩ :: rest) e w:=by
 refine Zf (v:=(.int .u8 (ZU a i))) ?_ aw kk;apply Z5S<;>assumption
theorem Z7l {t:TypeId} {x lo:Operand} {a:Str} {p:Int} {l:Nat} [hu:Und P t .string] (bF:ops[cp]?=some ⟨some am,.slice t x (some lo) none none,ty,pos,af,gd⟩) (bG:JS ops e gd) (hx:ev e x=some (str a)) (h1:ev e lo=some (.int .i64 p)) (hp:p=(l:Int)) (hl:l<=a.length) (aw:Nat.blt am n=true) (kk:WD P n ops S Lt Q ord ((am,(str (a.drop l))) :: e) w):WD P n ops S Lt Q ((cp,0) :: ord) e w:=by
 refine Zy (v:=(str (a.drop l))) bF bG (λw'=>?_) aw kk;apply Z3X<;>assumption
theorem Z7m {t:TypeId} {x hi:Operand} {a:Str} {q:Int} {r:Nat} [hu:Und P t .string] (bF:ops[cp]?=some ⟨some am,.slice t x none (some hi) none,ty,pos,af,gd⟩) (bG:JS ops e gd) (hx:ev e x=some (str a)) (h2:ev e hi=some (.int .i64 q)) (hq:q=(r:Int)) (hr:r<=a.length) (aw:Nat.blt am n=true) (kk:WD P n ops S Lt Q ord ((am,(str (a.take r))) :: e) w):WD P n ops S Lt Q ((cp,0) :: ord) e w:=by
 refine Zy (v:=(str (a.take r))) bF bG (λw'=>?_) aw kk;apply Z3Y<;>assumption
theorem Z6r {t el len k:Nat} {x y:Operand} {b o i:Nat} {z:Int} [hu:Und P t (.array len el)] [hk:Siz P el k] (hx:ev e x=some (.pointer (some ⟨b,o,none⟩))) (hy:ev e y=some (.int .i64 z)) (hz:z=(i:Int)) (hi:i<len) (aw:Nat.blt am n=true) (kk:WL P n ops Q rest ((am,(.pointer (some ⟨b,o+i * k,none⟩))) :: e) w):WL P n ops Q (⟨some am,.indexAddr t x y,ty,pos,af,none⟩ :: rest) e w:=by
 refine Zf (v:=(.pointer (some ⟨b,o+i * k,none⟩))) ?_ aw kk;apply Z1x<;>assumption
theorem Zg2 {t el len k:Nat} {x y:Operand} {b o i:Nat} {z:Int} [hu:Und P t (.array len el)] [hk:Siz P el k] (bF:ops[cp]?=some ⟨some am,.indexAddr t x y,ty,pos,af,gd⟩) (bG:JS ops e gd) (hx:ev e x=some (.pointer (some ⟨b,o,none⟩))) (hy:ev e y=some (.int .i64 z)) (hz:z=(i:Int)) (hi:i<len) (aw:Nat.blt am n=true) (kk:WD P n ops S Lt Q ord ((am,(.pointer (some ⟨b,o+i * k,none⟩))) :: e) w):WD P n ops S Lt Q ((cp,0) :: ord) e w:=by
 refine Zy (v:=(.pointer (some ⟨b,o+i * k,none⟩))) bF bG (λw'=>?_) aw kk;apply Z1x<;>assumption
theorem ZaT {t el len k:Nat} {x:Operand} {b:Nat} [hu:Und P t (.array len el)] [hk:Siz P el k] (hx:ev e x=some (.pointer (some ⟨b,0,none⟩))) (aw:Nat.blt am n=true) (kk:WL P n ops Q rest ((am,(.slice (some ⟨b,0,none⟩) len len)) :: e) w):WL P n ops Q (⟨some am,.slice t x none none none,ty,pos,af,none⟩ :: rest) e w:=by
 refine Zf (v:=(.slice (some ⟨b,0,none⟩) len len)) ?_ aw kk;apply Z3A<;>assumption
structure WO (P:Program) (n:Nat) (ops:Array Oper) (S:List Nat) (Lt:List Nat) (Q:Exit->Act->World->Prop) (o:Oper) (i q:Nat) (ord:List (Nat×Nat)) (e:Env) (w:World):Prop where
 h:ops[i]?=some o->WD P n ops S Lt Q ((i,q) :: ord) e w
theorem Z0V {o:Oper} {i q:Nat} (hi:ops[i]?=some o) (h:WO P n ops S Lt Q o i q ord e w):WD P n ops S Lt Q ((i,q) :: ord) e w:=h.h hi
theorem Z1g {t:TypeId} {l:List (Nat×Operand)} {vs:List (Nat×Value)} {u:Value} (bG:JS ops e gd) (hv:ZX e l=some vs) (hb:∀ w,(Instr.build t vs.toArray).run P w=.ok u w) (aw:Nat.blt am n=true) (kk:WD P n ops S Lt Q ord ((am,u) :: e) w):WO P n ops S Lt Q ⟨some am,.build t l.toArray,ty,pos,af,gd⟩ cp 0 ord e w:=⟨λbF=>Z4I bF bG hv hb aw kk⟩
theorem Z0c {t el len k:Nat} {x y:Operand} {b o i:Nat} {z:Int} [hu:Und P t (.array len el)] [hk:Siz P el k] (bG:JS ops e gd) (hx:ev e x=some (.pointer (some ⟨b,o,none⟩))) (hy:ev e y=some (.int .i64 z)) (hz:z=(i:Int)) (hi:i<len) (aw:Nat.blt am n=true) (kk:WD P n ops S Lt Q ord ((am,(.pointer (some ⟨b,o+i * k,none⟩))) :: e) w):WO P n ops S Lt Q ⟨some am,.indexAddr t x y,ty,pos,af,gd⟩ cp 0 ord e w:=⟨λbF=>Zg2 bF bG hx hy hz hi aw kk⟩
theorem elB {α:Type} [Z8 α] {X:List Nat} {xs:List α} {v u:Value} {i k:Nat} {x:Operand} {t:TypeId} {D:TypeDesc} {d:Option Nat} [hu:Und P t D] [br:Siz P t k] (hA:Z03 D=true) (hx:ev e x=some (.pointer (some (Zz v i k 0)))) (hs:SlV X w v xs) (hi:i<xs.length) (hk:k=Z8.k α) (h:u=.agg (Z8.enc xs[i]).toArray):PR P n ⟨d,.load t x,ty,pos,af,gd⟩ e w u:=h ▸ Z7d hA hx hs hi hk
theorem exF {α:Type} [Z8 α] {X:List Nat} {w':World} {v:Value} {xs:List α} (h:SlV X w v xs) (hS:Stp S w w') (h1:∀ b∈S,b∈X):SlV X w' v xs:=h.ext hS h1 (λ_ h=>.inl h)
theorem Z7n {t:TypeId} {x:Operand} {d:Option Nat} {v:Value} (h:PR P n ⟨d,.load t x,ty,pos,af,gd⟩ e w v):PR P n ⟨d,.load t x,ty,pos,af,gd⟩ e w v:=h
theorem Zg3 {t:TypeId} {x y:Operand} {d:Option Nat} {v:Value} (h:PR P n ⟨d,.indexAddr t x y,ty,pos,af,gd⟩ e w v):PR P n ⟨d,.indexAddr t x y,ty,pos,af,gd⟩ e w v:=h
theorem ZaU {t:TypeId} {x:Operand} {m:Nat} {d:Option Nat} {v:Value} (h:PR P n ⟨d,.fieldAddr t x m,ty,pos,af,gd⟩ e w v):PR P n ⟨d,.fieldAddr t x m,ty,pos,af,gd⟩ e w v:=h
theorem Zg4 {t:TypeId} {x:Operand} {d:Option Nat} {v:Value} (h:PR P n ⟨d,.call { callee:=.builtin .len,args:=#[x],argTypes:=#[t] },ty,pos,af,gd⟩ e w v):PR P n ⟨d,.call { callee:=.builtin .len,args:=#[x],argTypes:=#[t] },ty,pos,af,gd⟩ e w v:=h
theorem ZoB {l:List Oper} (h:WL P n ops Q l e w):WL P n ops Q l e w:=h
theorem ZoC {c:Code} (h:WC P n c Q e w):WC P n c Q e w:=h
theorem ZoD {x:Exit} (h:WQ n Q x e w):WQ n Q x e w:=h
end
theorem PX {G:Prop} (h:G:=by
 first
  | (apply Jk;exact rfl)
  | (apply Z3x;exact rfl)
  | (apply Zn;exact rfl)
  | (apply Zg3;first|exact Z3y rfl (by assumption) rfl rfl (by assumption)|exact Z3y rfl (by assumption) rfl rfl (by omega)|exact Z3y rfl (by assumption) rfl (by assumption) (by first|assumption|omega)|exact Z3y (i:=0) rfl (by assumption) rfl rfl (by omega)|exact Z3y (i:=1) rfl (by assumption) rfl rfl (by omega)|exact Z3y (i:=2) rfl (by assumption) rfl rfl (by omega)|exact Z1x (i:=0) rfl rfl rfl (by decide)|exact Z1x (i:=1) rfl rfl rfl (by decide)|exact Z1x (i:=2) rfl rfl rfl (by decide)|exact Z1x rfl rfl rfl (by omega))
  | (apply ZaU;exact Z7b rfl (SlV.isSome (by assumption) (by assumption)))
  | (apply Zg4;first|exact Zai rfl|exact ZfW rfl (by assumption)|exact Z8z rfl)
  | (apply Z4B;exact rfl;exact rfl)
  | (apply Z3Z;exact rfl)
  | (apply Zcf;exact rfl;exact rfl)
  | (apply Z8w;exact rfl;exact rfl)
  | (apply Z8y;exact rfl;exact rfl)
  | (apply Zag;exact rfl;exact rfl)
  | (apply Zah;exact rfl;exact rfl)
  | (apply ZhJ;exact rfl;exact rfl;(unfold I64;omega))
  | (apply Z4A;exact rfl;exact rfl;(unfold I64;omega))
  | (apply Zcd;exact rfl;exact rfl)
  | (apply Z8x;exact rfl;exact rfl)
  | (apply Zce;exact rfl;exact rfl)
  | (apply Zac;exact rfl;exact rfl)
  | (apply Z6l;exact rfl;exact rfl)
  | (apply ZhK;exact rfl;exact rfl;(unfold I64;omega))
  | (apply Zab;exact rfl;exact rfl;omega;omega;(unfold I64;omega))
  | (apply Zaa;exact rfl;exact rfl;omega;omega;(unfold I64;omega))
  | (apply Z6q;exact rfl;exact rfl;omega)
  | (apply Zcb;exact rfl)
  | (apply Zcc;exact rfl)
  | (apply ZcX;exact rfl)
  | (apply Zca;exact rfl)
  | (apply ZhL;exact rfl;(unfold I64;omega))
  | (apply Z5P;exact rfl;exact rfl)
  | (apply Z5Q;exact rfl;exact rfl)
  | (apply ZcY;exact rfl;exact rfl)
  | (apply ZcZ;exact rfl;exact rfl)
  | (apply Z5S;exact rfl;exact rfl;exact rfl;(first|assumption|omega))
  | apply Z6m
  | (apply Z6n;exact rfl)
  | (apply Z6o;exact rfl;exact rfl)
  | (apply Z6p;exact rfl;exact rfl;exact rfl)):G:=h
structure Z1y (R:Prop):Prop where
 h:R
theorem W1 {G R:Prop} (k:R) (h:Z1y R->G:=by
 intro r
 repeat1' (first
  | (apply ZoB;first
  | apply Z3w
  | (apply Zf;exact PX;exact rfl)
  | (apply Zf;(apply Z7n;first|exact ZM rfl rfl (by assumption) (by rfl)|exact Z4C rfl rfl (by assumption) (by first|assumption|omega) (by rfl) (by rfl)|exact ZK rfl rfl (by assumption) (by rfl)|exact elB rfl rfl (by assumption) (by assumption) (by rfl) rfl);exact rfl)
  | (apply Zhv;exact rfl)
  | (apply Za7;exact rfl;exact rfl))
  | (apply ZoC;first|apply Z2O|apply Z0y|apply Zc8|apply Z4l|apply Z4y|apply ZeX|(apply Z0s;exact rfl)|(apply Z0a;exact rfl))
  | (apply ZoD;first|apply Z2n|apply Z0h|apply Z6i|apply Z2H|(apply Z3S;exact rfl)|apply Z6j|apply Zc7))
 exact r.h):G:=h ⟨k⟩
theorem W {G R:Prop} (k:R) (h:Z1y R->G:=by
 intro r;first|(refine W1 ?_;exact r.h)|exact r.h):G:=h ⟨k⟩
theorem D1 {G R:Prop} (k:R) (h:Z1y R->G:=by
 intro r
 repeat1' (first
  | apply Z2Q
  | (apply Zy;exact rfl;(first|exact trivial|exact rfl);(intro w';exact PX);exact rfl)
  | (apply WD_read;exact rfl;(first|exact trivial|exact rfl);(intro w' hS;apply Z7n;first|exact ZM rfl rfl (Blk.ext (by assumption) hS (by first|assumption|(simp;done)|(simp;omega))) (by rfl)|exact Z4C rfl rfl (exF (by assumption) hS (by first|exact λ_ h=>h|(simp;done))) (by first|assumption|omega) (by rfl) (by rfl)|exact ZK rfl rfl (Blk.ext (by assumption) hS (by first|assumption|(simp;done)|(simp;omega))) (by rfl)|exact elB rfl rfl (exF (by assumption) hS (by first|exact λ_ h=>h|(simp;done))) (by assumption) (by rfl) rfl);exact rfl)
  | (apply Z7h;exact rfl;exact rfl;exact rfl)
  | (apply Z7i;exact rfl;exact rfl;exact rfl)
  | (apply Z7j;exact rfl;exact rfl;exact rfl))
 exact r.h):G:=h ⟨k⟩
theorem D {G R:Prop} (k:R) (h:Z1y R->G:=by
 intro r;first|(refine D1 ?_;exact r.h)|exact r.h):G:=h ⟨k⟩
theorem WR {G R:Prop} (k:R) (h:Z1y R->G:=by
 intro r;first|refine ZeY rfl rfl ?_|refine ZeZ rfl rfl rfl ?_|refine Zf0 rfl rfl rfl rfl ?_|refine Za9 rfl ?_|refine Z6k rfl ?_
 exact r.h):G:=h ⟨k⟩
theorem VG {G R S:Prop} (k:R) (l:S) (h:Z1y R->Z1y S->G:=by
 intro r s;first|refine Z79 rfl rfl ?_ ?_|refine ZaR rfl rfl ?_ ?_
 exact r.h;exact s.h):G:=h ⟨k⟩ ⟨l⟩
theorem VC {G R S:Prop} (k:R) (l:S) (h:Z1y R->Z1y S->G:=by
 intro r s;first|refine Z4m rfl ?_ ?_|refine Z78 rfl ?_ ?_
 exact r.h;exact s.h):G:=h ⟨k⟩ ⟨l⟩
theorem hap {p A:Prop} (r:Z1y (p->A)) (h:p):A:=r.h h
theorem QO {G R:Prop} (k:R) (h:Z1y R->G:=by
 intro r
 repeat1' (first|refine W1 ?_|(refine VG ?_ ?_<;>intro hg;(first|(focus omega)|(rotate_left;focus omega)))|(refine VC ?_ ?_<;>intro hg;(first|(focus omega)|(rotate_left;focus omega))))
 exact r.h):G:=h ⟨k⟩
theorem QP {G R S:Prop} (k:R) (l:S) (h:Z1y R->Z1y S->G:=by
 intro r s;first|refine QO ?_|skip
 first|(refine VG ?_ ?_<;>intro hg)|(refine VC ?_ ?_<;>intro hg)
 first|(refine QO ?_;exact hap r hg)|exact hap r hg
 first|(refine QO ?_;exact hap s hg)|exact hap s hg):G:=h ⟨k⟩ ⟨l⟩
theorem QD {G R:Prop} (k:R) (h:Z1y R->G:=by
 intro r
 repeat1' (first|refine D1 ?_|refine Z6 rfl rfl rfl rfl (λhg=>?_) (λhg=>absurd hg (by omega))|refine Z6 rfl rfl rfl rfl (λhg=>absurd hg (by omega)) (λhg=>?_)|(refine Z2 rfl rfl rfl rfl (λhg=>?_) (λhg=>?_)<;>refine D1 ?_;(first|(focus omega)|(rotate_left;focus omega))))
 exact r.h):G:=h ⟨k⟩
theorem QE {G R S:Prop} (k:R) (l:S) (h:Z1y R->Z1y S->G:=by
 intro r s;first|refine QD ?_|skip
 first|refine Z6 rfl rfl rfl rfl (λhg=>?_) (λhg=>?_)|refine Z2 rfl rfl rfl rfl (λhg=>?_) (λhg=>?_)
 first|(refine QD ?_;exact hap r (by assumption))|exact hap r (by assumption)
 first|(refine QD ?_;exact hap s (by assumption))|exact hap s (by assumption)):G:=h ⟨k⟩ ⟨l⟩
theorem SA {P:Program} {n:Nat} {Q:Exit->Act->World->Prop} {e:Env} {w:World} {rest:List Oper} {ops:Array Oper} {ty:TypeId} {pos:String} {af:Array Edge} {b T m t:Nat} {cs us:List Value} {x y:Operand} {u:Value} [br:Siz P t m] (hb:Blk w b T cs) (k:∀ (v:Value) (w':World),Stp [b] w w'/\Blk w' b T us->WL P n ops Q rest e w')
 (hx:ev e x=some (.pointer (some ⟨b,0,none⟩)):=by exact rfl) (hy:ev e y=some u:=by exact rfl) (hu:u.cells.toList=us:=by exact rfl) (hm:us.length=m:=by exact rfl) (h1:∀ c∈us,c.oneCell'=true:=by exact Z8.one _) (hl:us.length=cs.length:=by exact rfl):WL P n ops Q (⟨none,.store t x y,ty,pos,af,none⟩ :: rest) e w:=Zi (J1 hx hy hu hm h1 hb hl) k
theorem S1 {P:Program} {n:Nat} {Q:Exit->Act->World->Prop} {e:Env} {w:World} {rest:List Oper} {ops:Array Oper} {ty:TypeId} {pos:String} {af:Array Edge} {b T o t:Nat} {cs:List Value} {x y:Operand} {u:Value} [br:Siz P t 1] (hb:Blk w b T cs) (k:∀ (v:Value) (w':World),Stp [b] w w'/\Blk w' b T (cs.set o u)->WL P n ops Q rest e w')
 (hx:ev e x=some (.pointer (some ⟨b,o,none⟩)):=by exact rfl) (hy:ev e y=some u:=by exact rfl) (hu:u.cells.toList=[u]:=by exact rfl) (h1:u.oneCell'=true:=by exact rfl) (hl:o<cs.length:=by simp):WL P n ops Q (⟨none,.store t x y,ty,pos,af,none⟩ :: rest) e w:=Zi (Zs hx hy hu h1 hb hl) k
theorem LP {P:Program} {n:Nat} {Q:Exit->Act->World->Prop} {e:Env} {w:World} {c:Code} {σ:Type} (env:σ->Env) (I:σ->World->Prop) (μ:σ->Nat) (dj:σ) (hI:I dj w) (round:∀ s w,I s w->WC P n c (Exit.then (λa' w'=>∃ s',Has n (env s') a'/\I s' w'/\μ s' < μ s) Q) (env s) w) (hs:Sub (env dj) e:=by repeat (first|exact trivial|refine ⟨rfl,?_⟩)):WC P n (.loop c) Q e w:=ZC env I μ dj hs hI round
theorem SB {P:Program} {n:Nat} {Q:Exit->Act->World->Prop} {e:Env} {w:World} {rest:List Oper} {ops:Array Oper} {ty:TypeId} {pos:String} {af:Array Edge} {b T m t:Nat} {cs us:List Value} {x y:Operand} {u:Value} [br:Siz P t m] (h1:∀ c∈us,c.oneCell'=true) (hb:Blk w b T cs) (k:∀ (v:Value) (w':World),Stp [b] w w'/\Blk w' b T us->WL P n ops Q rest e w')
 (hx:ev e x=some (.pointer (some ⟨b,0,none⟩)):=by exact rfl) (hy:ev e y=some u:=by exact rfl) (hu:u.cells.toList=us:=by exact rfl) (hm:us.length=m:=by exact rfl) (hl:us.length=cs.length:=by exact rfl):WL P n ops Q (⟨none,.store t x y,ty,pos,af,none⟩ :: rest) e w:=Zi (J1 hx hy hu hm h1 hb hl) k
theorem QL {σ:Type} {n:Nat} {Q:Exit->Act->World->Prop} {e:Env} {w:World} {env:σ->Env} {I:σ->World->Prop} {μ:σ->Nat} {m:Nat} (s:σ) (hI:I s w) (hm:μ s<m) (hs:Sub (env s) e:=by repeat (first|exact trivial|refine ⟨rfl,?_⟩)):WQ n (Exit.then (λa w=>∃ s,Has n (env s) a/\I s w/\μ s<m) Q) .normal e w:=Jj s hs hI hm
theorem QT {σ:Type} {n:Nat} {Q:Exit->Act->World->Prop} {e:Env} {w:World} {env:σ->Env} {I:σ->World->Prop} (s:σ) (hI:I s w) (hs:Sub (env s) e:=by repeat (first|exact trivial|refine ⟨rfl,?_⟩)):WQ n (Exit.then (λa w=>∃ s,Has n (env s) a/\I s w) Q) .normal e w:=Zc s hs hI
theorem RU {G A:Prop} (k:A) (h:Z1y A->G:=by
 intro r;refine WR ?_;exact .mk r.h):G:=h ⟨k⟩
theorem RT {G A:Prop} (k:A) (h:Z1y A->G:=by
 intro r;first|refine QO ?_|skip
 refine WR ?_;exact .mk r.h):G:=h ⟨k⟩
theorem CL {P:Program} {n:Nat} {Q:Exit->Act->World->Prop} {e:Env} {w:World} {rest:List Oper} {f d:Nat} {fn:Func} {xs:Array Operand} {ts:Array TypeId} {vs:Array Value} {G:Value->World->Prop} {c:Operand} {ty:TypeId} {pos:String} {af:Array Edge} {ops:Array Oper} [hf:Fun P f fn] (h:Calls P f vs w (Ret G)) (k:∀ v w',G v w'->WL P n ops Q rest ((d,v) :: e) w') (hc:ev e c=some (.func (.func f) #[] #[]):=by exact rfl) (hv:∀ a,Has n e a->xs.map a.eval=vs:=by first|exact Z8A|exact ZN rfl|exact Zj rfl rfl|exact ZQ rfl rfl rfl|exact Z7a rfl rfl rfl rfl|exact Zl6 rfl rfl rfl rfl rfl) (hd:Nat.blt d n=true:=by exact rfl):WL P n ops Q (⟨some d,.call { callee:=.value c,args:=xs,argTypes:=ts },ty,pos,af,none⟩ :: rest) e w:=Z1 (Z4 hc hv h) hd k
theorem CM {P:Program} {n:Nat} {Q:Exit->Act->World->Prop} {e:Env} {w:World} {rest:List Oper} {f d:Nat} {fn:Func} {xs:Array Operand} {ts:Array TypeId} {vs:Array Value} {G:Value->World->Prop} {c:Operand} {ty:TypeId} {pos:String} {af:Array Edge} {ops:Array Oper} [hf:Fun P f fn] (hv:∀ a,Has n e a->xs.map a.eval=vs) (h:Calls P f vs w (Ret G)) (k:∀ v w',G v w'->WL P n ops Q rest ((d,v) :: e) w') (hc:ev e c=some (.func (.func f) #[] #[]):=by exact rfl) (hd:Nat.blt d n=true:=by exact rfl):WL P n ops Q (⟨some d,.call { callee:=.value c,args:=xs,argTypes:=ts },ty,pos,af,none⟩ :: rest) e w:=Z1 (Z4 hc hv h) hd k
theorem DC {P:Program} {n:Nat} {S Lt:List Nat} {Q:Exit->Act->World->Prop} {e:Env} {w:World} {ord:List (Nat×Nat)} {i f d:Nat} {fn:Func} {gd:Option (Nat×Bool)} {xs:Array Operand} {ts:Array TypeId} {vs:Array Value} {G:Value->World->Prop} {c:Operand} {ty:TypeId} {pos:String} {af:Array Edge} {ops:Array Oper} [hf:Fun P f fn] (h:Calls P f vs w (Ret G)) (hG:∀ v w',G v w'->Stp S w w') (k:∀ v w',G v w'->WD P n ops S Lt Q ord ((d,v) :: e) w') (hi:ops[i]?=some ⟨some d,.call { callee:=.value c,args:=xs,argTypes:=ts },ty,pos,af,gd⟩:=by exact rfl) (hg:JS ops e gd:=by first|exact trivial|exact rfl) (hc:ev e c=some (.func (.func f) #[] #[]):=by exact rfl) (hv:∀ a,Has n e a->xs.map a.eval=vs:=by first|exact Z8A|exact ZN rfl|exact Zj rfl rfl|exact ZQ rfl rfl rfl|exact Z7a rfl rfl rfl rfl|exact Zl6 rfl rfl rfl rfl rfl) (hd:Nat.blt d n=true:=by exact rfl):WD P n ops S Lt Q ((i,2) :: ord) e w:=Z7 hi hg (Z4 hc hv h) hG hd k
inductive Nd where
 | mk (kind n:Int) (s:Str) (kids:List Nd)
namespace Nd
def kind:Nd->Int|mk k _ _ _=>k
def num:Nd->Int|mk _ n _ _=>n
def word:Nd->Str|mk _ _ s _=>s
def kids:Nd->List Nd|mk _ _ _ l=>l
theorem eta (x:Nd):x=mk x.kind x.num x.word x.kids:=by cases x;rfl
theorem ind {P:Nd->Prop} (h:∀ k n s l,(∀ x∈l,P x)->P (mk k n s l)):∀ x,P x
 | mk k n s l=>h k n s l (λx hx=>ind h x)
 decreasing_by
  have:=List.sizeOf_lt_of_mem hx;simp only [mk.sizeOf_spec];omega
end Nd
inductive Z2C (X:List Nat) (w:World):Nd->List Value->Prop
 | mk (k n : Int) (s : Str) (l : List Nd) (p : Option Addr) (c : Nat) (b o : Nat) (css : Nat -> List Value) (hl : l.length <= c) (hm : c <= maxLen) (hn : p = none -> c = 0)
    (hp:0<l.length->p=some ⟨b,o,none⟩/\b<w.heap.size/\b∉X) (hr:∀ i (h:i<l.length),Z2C X w l[i] (css i))
    (hc:∀ i,i<l.length->∀ j u,(css i)[j]?=some u->w.cell? ⟨b,o+i * 4+j,none⟩=some u) :
    Z2C X w (.mk k n s l) [.I k,.I n,str s,.slice p l.length c]
theorem Z2C.ext {X S X':List Nat} {w w':World} {x:Nd} {cs:List Value} (h:Z2C X w x cs) (hS:Stp S w w') (h1:∀ b∈S,b∈X) (h2:∀ b∈X',b∈X\/w.heap.size<=b):Z2C X' w' x cs:=by
 induction h with
 | mk k n s l p c b o css hl hm hn hp hr hc ih=>
   refine .mk k n s l p c b o css hl hm hn (λh0=>?_) ih (λi hi j u hu=>?_);obtain ⟨e1,e2,e3⟩:=hp h0;refine ⟨e1,Xc e2 hS.size,λhb=>?_⟩;rcases h2 b hb with h|h
   exact e3 h;omega;obtain ⟨_,_,e3⟩:=hp (by omega);exact hS.cell (λhb=>e3 (h1 b hb)) (hc i hi j u hu)
instance:Z3 Nd where
 k:=4
 rep:=Z2C
 len:=by intro X w x cs h;cases h;rfl
 one:=by
  intro X w x cs h u hu;cases h;simp at hu;rcases hu with rfl|rfl|rfl|rfl<;>rfl
 ext:=Z2C.ext
def NdV (X:List Nat) (w:World) (v:Value) (x:Nd):Prop:=∃ kv,v=.agg #[.I x.kind,.I x.num,str x.word,kv]/\SlV X w kv x.kids
theorem Zd0 {X:List Nat} {w} {x:Nd} {cs:List Value} (h:Z2C X w x cs):∃ kv,cs=[.I x.kind,.I x.num,str x.word,kv]/\SlV X w kv x.kids:=by
 cases h with
 | mk k n s l p c b o css hl hm hn hp hr hc=>
   refine ⟨_,rfl,p,c,rfl,hl,hm,hn,λi hi=>?_⟩;obtain ⟨e1,e2,e3⟩:=hp (by show 0<l.length;have:i<l.length:=hi;omega);exact ⟨b,o,css i,e1,e2,e3,hr i hi,hc i hi⟩
theorem Z1h {X:List Nat} {w} {k n:Int} {s:Str} {l:List Nd} {kv:Value} (h:SlV X w kv l):Z2C X w (.mk k n s l) [.I k,.I n,str s,kv]:=by
 obtain ⟨p,c,rfl,hl,hm,hn,hc⟩:=h;have ar:∀ i:Fin l.length,∃ cs:List Value,∃ b o,p=some ⟨b,o,none⟩/\b<w.heap.size/\b∉X/\Z2C X w l[i] cs/\∀ j u,cs[j]?=some u->w.cell? ⟨b,o+i * 4+j,none⟩=some u:=by
  intro i;obtain ⟨b,o,cs,h1,h2,h3,h4,h5⟩:=hc i i.2;exact ⟨cs,b,o,h1,h2,h3,h4,h5⟩
 obtain ⟨f,hf⟩:=Classical.axiomOfChoice ar;by_cases h0:0<l.length;obtain ⟨b,o,e1,e2,e3,_⟩:=hf ⟨0,h0⟩;refine .mk k n s l p c b o (λi=>if h:i<l.length then f ⟨i,h⟩ else []) hl hm hn (λ_=>⟨e1,e2,e3⟩) (λi hi=>?_) (λi hi j u hu=>?_);obtain ⟨_,_,_,_,_,g,_⟩:=hf ⟨i,hi⟩;simpa [hi] using g;obtain ⟨b',o',g1,_,_,_,g⟩:=hf ⟨i,hi⟩;rw [e1] at g1;simp only [Xi,Addr.mk.injEq] at g1;obtain ⟨rfl,rfl,_⟩:=g1;exact g j u (by simpa [hi] using hu);exact .mk k n s l p c 0 0 (λ_=>[]) hl hm hn (λh=>absurd h h0) (λi hi=>by omega) (λi hi=>by omega)
theorem NdV.up {X:List Nat} {w w':World} {v:Value} {x:Nd} (h:NdV X w v x) (hS:Stp [] w w'):NdV X w' v x:=by
 obtain ⟨kv,rfl,hs⟩:=h;exact ⟨kv,rfl,hs.up hS⟩
theorem SlV.nd {X:List Nat} {w} {v:Value} {l:List Nd} {i:Nat} (h:SlV X w v l) (hi:i<l.length):∃ kv,SlV X w kv l[i].kids/\∀ j u,[Value.int .i64 l[i].kind,.I l[i].num,str l[i].word,kv][j]?=some u->w.cell? (Zz v i 4 j)=some u:=by
 obtain ⟨cs,hr,hc⟩:=h.cell hi;obtain ⟨kv,rfl,hs⟩:=Zd0 hr;exact ⟨kv,hs,hc⟩
section
variable {P:Program} {n:Nat} {e:Env} {w:World} {d:Option Nat} {ty:TypeId} {pos:String} {af:Array Edge} {g:Option (Nat×Bool)}
theorem J9 {X:List Nat} {v:Value} {l:List Nd} {i:Nat} {kv:Value} {x:Operand} {t:TypeId} {D:TypeDesc} [hu:Und P t D] (hA:Z03 D=true) [br:Siz P t 4] (hx:ev e x=some (.pointer (some (Zz v i 4 0)))) (hs:SlV X w v l) (hi:i<l.length)
 (hc:∀ j u,[Value.int .i64 l[i].kind,.I l[i].num,str l[i].word,kv][j]?=some u->w.cell? (Zz v i 4 j)=some u) :
 PR P n ⟨d,.load t x,ty,pos,af,g⟩ e w (.agg #[.I l[i].kind,.I l[i].num,str l[i].word,kv]):=by
 obtain ⟨p,l',c,rfl⟩:=hs.isSome hi;refine Z1e (cs:=[.I l[i].kind,.I l[i].num,str l[i].word,kv]) hA hx rfl (λj u hu=>?_);have:=hc j u hu;simpa [Zz] using this
end
end Go.Eng
namespace Go.Proofs.YteibicnbkggiiaaGreatDoor
open Go Go.Eng Go.RowKit
abbrev ndC (x:Nd) (kv:Value):List Value:=[.I x.kind,.I x.num,str x.word,kv]
theorem J6 {X:List Nat} {w} {x:Nd} {kv:Value} {l:List Nd} (h:SlV X w kv l):∀ c∈ndC x kv,c.oneCell'=true:=by
 intro c hc;simp only [ndC,Xg,Xm,or_false] at hc;rcases hc with rfl|rfl|rfl|rfl
 rfl;rfl;rfl;exact h.one
def JU:Nat->Nd->Bool
 | 0,_=>false
 | m+1,x=>x.kids.all (JU m)
theorem Z5y {α:Type} (p:α->Bool) (l:List α) (k:Nat) (hk:k<l.length):(l.take (k+1)).all p=((l.take k).all p && p l[k]):=by
 rw [Xw hk,List.all_append];simp
theorem Z8J (m:Nat):∀ (X:List Nat) (v:Value) (x:Nd) (z:Int) (w),z=(m:Int)->m<=1000->NdV X w v x->
 CC 233 #[v,.I z] w λr w'=>r=.B (JU m x)/\Stp [] w w':=by
 induction m with
 | zero=>
   intro X v x z w hz hm hx;obtain ⟨kv,rfl,hs⟩:=hx;refine cW2 22 Tryz.func233 ?_;refine W ?_;refine Z1 (Zp rfl) rfl ?_;rintro _ w1 ⟨b,rfl,hb,ab,hS⟩;refine RT ?_;exact ⟨rfl,hS⟩
 | succ m ih=>
   intro X v x z w hz hm hx;obtain ⟨kv,rfl,hs⟩:=hx;have aW:=hs.max;refine cW2 22 Tryz.func233 ?_;refine W ?_;refine Z1 (Zp rfl) rfl ?_;rintro _ w1 ⟨b,rfl,hb,ab,hS⟩;replace ab:Blk w1 b _ (ndC x kv):=ab;replace hs:=hs.up hS;refine QO ?_;have bU:=hs;refine LP (σ:=Nat) (λk=>[(1,.I z),(10,kv),(11,.I (x.kids.length:Int)),(12,.I k)]) (λk w'=>k<=x.kids.length/\Stp [] w1 w'/\(x.kids.take k).all (JU m)=true) (λk=>x.kids.length - k) 0 ⟨Xo _,Stp.refl _ _,rfl⟩ ?_;clear hs;rintro k w2 ⟨hk,ak,ar⟩;have hs:=bU.up ak;by_cases hlt:k<x.kids.length
   . have bY:=Z5y (JU m) x.kids k hlt
     rw [ar,Yah] at bY;obtain ⟨kv2,aJ,bz⟩:=hs.nd hlt;refine QO ?_;apply Zf (J9 rfl rfl hs hlt bz) rfl;refine Z1 Z9 rfl ?_;rintro _ w3 ⟨b3,rfl,dY,aL,aq⟩;refine SB (us:=ndC x.kids[k] kv2) (J6 aJ) aL ?_;rintro _ w4 ⟨aA,aV⟩;have iV:=aq.ow aA;replace ak:=ak.trans iV;replace aJ:=aJ.up iV;refine W ?_;refine Z1 (Z4 rfl (Zj rfl rfl) (ih X _ x.kids[k] _ _ (by omega) (by omega) ⟨kv2,rfl,aJ⟩)) rfl ?_;rintro _ w5 ⟨rfl,ay⟩;replace ak:=ak.trans ay;cases hq:JU m x.kids[k] with
     | true=>
       refine W ?_;exact QL (k+1) ⟨hlt,ak,by rw [bY,hq]⟩ (by omega)
     | false=>
       refine W ?_;refine WR ?_;refine .mk ⟨?_,hS.trans ak⟩;have:JU (m+1) x=false:=by
        show x.kids.all (JU m)=false;rw [List.all_eq_false];exact ⟨_,Xb hlt,by simp [hq]⟩
       rw [this]
   have cM:k=x.kids.length:=by omega
   subst cM;rw [XG] at ar;refine QO ?_;refine WR ?_;refine .mk ⟨?_,hS.trans ak⟩;show _=Value.bool (x.kids.all (JU m));rw [ar]
end Go.Proofs.YteibicnbkggiiaaGreatDoor
namespace Go.Eng
open Go Go.RowKit Go.Proofs
class Z6s (P:Program) (kt:Nat) (κ:outParam Type) [DecidableEq κ] where
 enc:κ->Value
 chk:∀ (em:Bool) (a:κ) (w:World),(Instr.checkKey em 10000 kt (enc a)).run P w=.ok () w
 find:∀ (a:κ) (es:List MapEntry) (l:List κ) (w:World),es.map (·.key)=l.map enc->
  (Instr.findKey kt (enc a) es).run P w=.ok ((l.findIdx? (λb=>decide (b=a))).bind λi=>(es[i]?).map λe=>(i,e.val)) w
def Jq {κ:Type} (enc:κ->Value) (w:World) (r:Nat) (l:List (κ×Value)):Prop:=
 ∃ (es:Array MapEntry) (clock:Nat),w.heap[r]?=some (.map es clock)/\es.toList.map (·.key)=l.map (λp=>enc p.1)/\es.toList.map (·.val)=l.map (·.2)
theorem Jq.lt {κ:Type} {enc:κ->Value} {w} {r:Nat} {l:List (κ×Value)} (h:Jq enc w r l):r<w.heap.size:=by
 obtain ⟨es,c,h1,_⟩:=h;exact (Xx.1 h1).1
theorem Jq.ext {κ:Type} {enc:κ->Value} {S:List Nat} {w w':World} {r:Nat} {l:List (κ×Value)} (h:Jq enc w r l) (hS:Stp S w w') (hr:r∉S):Jq enc w' r l:=by
 have hlt:=h.lt;obtain ⟨es,c,h1,h2⟩:=h;exact ⟨es,c,by rw [hS.block r hlt hr];exact h1,h2⟩
theorem Jq.up {κ:Type} {enc:κ->Value} {w w':World} {r:Nat} {l:List (κ×Value)} (h:Jq enc w r l) (hS:Stp [] w w'):Jq enc w' r l:=h.ext hS (by simp)
def Z1Q {κ:Type} [DecidableEq κ] (l:List (κ×Value)) (a:κ) (z:Value):Value:=match l.find? (λp=>decide (p.1=a)) with|some p=>p.2|none=>z
theorem Z2S {d:TypeDesc} {κ:Type} [DecidableEq κ] (enc:κ->Value) (h:∀ a b:κ,Instr.sameNow d (enc a) (enc b)=some (decide (a=b))) (a:κ):∀ (es:List MapEntry) (l:List κ) (i:Nat),es.map (·.key)=l.map enc->
 Instr.findNow d (enc a) es i=some ((l.findIdx? (λb=>decide (b=a))).bind λj=>(es[j]?).map λe=>(i+j,e.val))
 | [],[],i,_=>by simp [Instr.findNow]
 | [],_ :: _,i,h=>by simp at h
 | _ :: _,[],i,h=>by simp at h
 | e :: es, b :: l, i, hk => by
   simp only [Xz,Ya5] at hk;obtain ⟨h1,h2⟩:=hk;have ih:=Z2S enc h a es l (i+1) h2;simp only [Instr.findNow,h1,h];by_cases bE:a=b;subst bE;simp [YaL]
   . have kT:¬ b=a:=λh=>bE h.symm
     simp only [decide_eq_false bE,ih,YaL,decide_eq_false kT,Yaq,if_false];cases l.findIdx? (λb=>decide (b=a)) with
     | none=>rfl
     | some j=>
       simp only [Option.bind_some,Option.map_some,YaE];rw [show i+1+j=i+(j+1) by omega]
theorem Z16 {P:Program} {kt:Nat} {κ:Type} [DecidableEq κ] (enc:κ->Value) (h:∀ (a b:κ) (w),(Op.equal kt (enc a) (enc b)).run P w=.ok (decide (a=b)) w) (a:κ) (w):∀ (es:List MapEntry) (l:List κ) (i:Nat),es.map (·.key)=l.map enc->
 (Instr.findAsking kt (enc a) es i).run P w=.ok ((l.findIdx? (λb=>decide (b=a))).bind λj=>(es[j]?).map λe=>(i+j,e.val)) w
 | [],[],i,_=>by simp [Instr.findAsking]
 | [],_ :: _,i,h=>by simp at h
 | _ :: _,[],i,h=>by simp at h
 | e :: es, b :: l, i, hk => by
   simp only [Xz,Ya5] at hk;obtain ⟨h1,h2⟩:=hk;have ih:=Z16 enc h a w es l (i+1) h2;simp only [Instr.findAsking,h1];by_cases bE:a=b;subst bE;simp [YaL,h]
   . have kT:¬ b=a:=λh=>bE h.symm
     simp only [Sem.run_bind,h,decide_eq_false bE,Result.andThen,YaL,decide_eq_false kT,Yaq,if_false,ih];cases l.findIdx? (λb=>decide (b=a)) with
     | none=>rfl
     | some j=>
       simp only [Option.bind_some,Option.map_some,YaE];rw [show i+1+j=i+(j+1) by omega]
instance {P:Program} {kt:Nat} [hu:Und P kt (.int .i64)]:Z6s P kt Int where
 enc:=λz=>.I z
 chk:=λem a w=>MapKept.run_checkKey (k:=.I a) hu.h (by simp [MapKept.IsKey]) em 9999
 find:=λa es l w hk=>by
  have:=Z2S (d:=.int .i64) (λz:Int=>Value.int .i64 z) (λa b=>by simp [Instr.sameNow,Yav]) a es l 0 hk;simpa using MapKept.run_findKey (w:=w) hu.h this
instance Zhw {P:Program} {kt:Nat} [hu:Und P kt .string]:Z6s P kt Str where
 enc:=str
 chk:=λem a w=>MapKept.run_checkKey (k:=str a) hu.h (by simp [MapKept.IsKey]) em 9999
 find:=λa es l w hk=>by
  have:=Z2S (d:=.string) str (λa b=>by
   simp only [Instr.sameNow,Xi];rw [beq_toListBytes,Zg1]) a es l 0 hk
  simpa using MapKept.run_findKey (w:=w) hu.h this
section
variable {P:Program} {n:Nat} {e:Env} {w:World} {d:Option Nat} {ty:TypeId} {pos:String} {af:Array Edge} {g:Option (Nat×Bool)}
theorem Z1z {t:TypeId} {κ:Type} (enc:κ->Value):OE P n ⟨d,.makeMap t none,ty,pos,af,g⟩ e w (λv w'=>∃ r,v=.map (some r)/\w.heap.size<=r/\Jq enc w' r []/\Stp [] w w'):=
 ZF (v:=.map (some w.heap.size)) (w':=w.alloc (.map #[] 0)) (λa ha=>by
  simp [execOp,run_makeMap]) ⟨_,rfl,Xq _,⟨#[],0,heap_alloc_new w _,rfl,rfl⟩,Stp.alloc _ _ _⟩
theorem Z8K {κ:Type} [DecidableEq κ] {l:List κ} {a:κ} (h:∀ b∈l,¬ b=a):l.findIdx? (λb=>decide (b=a))=none:=by
 rw [X9];intro b hb;simp [h b hb]
theorem Z4J {mt kt et r:Nat} {κ:Type} [DecidableEq κ] [hm:Und P mt (.map kt et)] [K:Z6s P kt κ] {l:List (κ×Value)} {a:κ} {v:Value} (hr:Jq K.enc w r l) (hn:∀ p∈l,¬ p.1=a) :
 ∃ w',(Instr.mapUpdate mt (.map (some r)) (K.enc a) v).run P w=.ok () w'/\Jq K.enc w' r (l++[(a,v)])/\Stp [r] w w':=by
 obtain ⟨es,clock,h1,h2,h3⟩:=hr;have hf:(Instr.findKey kt (K.enc a) es.toList).run P w=.ok none w:=by
  have hk:es.toList.map (·.key)=(l.map (·.1)).map K.enc:=by rw [h2,X8];rfl
  rw [K.find a es.toList (l.map (·.1)) w hk,Z8K (by simpa using hn)];rfl
 have hlt:r<w.heap.size:=(Xx.1 h1).1;refine ⟨{ w with heap:=w.heap.setIfInBounds r (.map (es.push { key:=K.enc a,val:=v,born:=clock }) (clock+1)) },?_,?_,?_⟩;simp [Instr.mapUpdate,run_underlying hm.h,MapKept.run_getObj_map h1,K.chk,hf,MapKept.run_setObj_map _ h1,Result.andThen];refine ⟨es.push { key:=K.enc a,val:=v,born:=clock },clock+1,by simp [hlt],?_,?_⟩;simp [h2];simp [h3];refine ⟨rfl,rfl,rfl,by simp,λb hb hn=>?_⟩;simp only [Xn] at hn;simp [YaB (λh=>hn h.symm)]
theorem Z1i {mt kt et r:Nat} {κ:Type} [DecidableEq κ] {x y z:Operand} [hm:Und P mt (.map kt et)] [K:Z6s P kt κ] {l:List (κ×Value)} {a:κ} {v:Value} (hx:ev e x=some (.map (some r))) (hy:ev e y=some (K.enc a)) (hz:ev e z=some v) (hr:Jq K.enc w r l) (hn:∀ p∈l,¬ p.1=a) :
 OE P n ⟨d,.insert mt x y z,ty,pos,af,g⟩ e w (λ_ w'=>Jq K.enc w' r (l++[(a,v)])/\Stp [r] w w'):=by
 obtain ⟨w',h1,h2,h3⟩:=Z4J (mt:=mt) (v:=v) hr hn;exact Z2o (w':=w') (λc hc=>by simp [execOp,hc.ev hx,hc.ev hy,hc.ev hz,h1]) ⟨h2,h3⟩
theorem Z1j {mt kt et r:Nat} {κ:Type} [DecidableEq κ] {x y z:Operand} [hm:Und P mt (.map kt et)] [K:Z6s P kt κ] {l:List (κ×Value)} {a:κ} {v:Value} (hx:ev e x=some (.map (some r))) (hy:ev e y=some (K.enc a)) (hz:ev e z=some v) (hr:Jq K.enc w r l) (hn:∀ p∈l,¬ p.1=a) :
 OE P n ⟨d,.mapUpdate mt x y z,ty,pos,af,g⟩ e w (λ_ w'=>Jq K.enc w' r (l++[(a,v)])/\Stp [r] w w'):=by
 obtain ⟨w',h1,h2,h3⟩:=Z4J (mt:=mt) (v:=v) hr hn;exact Z2o (w':=w') (λc hc=>by simp [execOp,hc.ev hx,hc.ev hy,hc.ev hz,h1]) ⟨h2,h3⟩
theorem Z2q {mt kt et r:Nat} {κ:Type} [DecidableEq κ] {x y:Operand} {z:Value} [hm:Und P mt (.map kt et)] [K:Z6s P kt κ] [hz:Zer P et z] {l:List (κ×Value)} {a:κ} (hx:ev e x=some (.map (some r))) (hy:ev e y=some (K.enc a)) (hr:Jq K.enc w r l) :
 PR P n ⟨d,.lookup mt x y false,ty,pos,af,g⟩ e w (Z1Q l a z):=by
 refine ⟨λc hc=>?_⟩;obtain ⟨es,clock,h1,h2,h3⟩:=hr;have hk:es.toList.map (·.key)=(l.map (·.1)).map K.enc:=by rw [h2,X8];rfl
 have hf:=K.find a es.toList (l.map (·.1)) w hk;have ai:es.toList.length=l.length:=by have:=congrArg List.length h3;simpa using this
 have hv:∀ i:Nat,(es.toList[i]?).map (λx:MapEntry=>x.val)=(l[i]?).map (λx:κ×Value=>x.2):=λi=>by
  have:=congrArg (λx=>x[i]?) h3;simpa using this
 have iW:Z1Q l a z=match (l.map (·.1)).findIdx? (λb=>decide (b=a)) with|some i=>((es.toList[i]?).map (λx:MapEntry=>x.val)).getD z|none=>z:=by
  unfold Z1Q;rw [List.findIdx?_map];cases hi:l.findIdx? ((λb=>decide (b=a)) ∘ λx=>x.1) with
  | none=>
    have:l.find? (λp=>decide (p.1=a))=none:=by
     rw [YaM];intro p hp;have:=(X9.1 hi) p hp;simpa using this
    rw [this]
  | some i=>
    obtain ⟨hlt,hp,hb⟩:=X3.1 hi;have:l.find? (λp=>decide (p.1=a))=some l[i]:=by
     rw [List.find?_eq_some_iff_getElem];exact ⟨by simpa using hp,i,hlt,rfl,λj hj=>by simpa using hb j hj⟩
    rw [this];simp only [hv,XP hlt,Option.map_some,YaF]
 rw [iW];simp only [execOp,hc.ev hx,hc.ev hy];cases hi:(l.map (·.1)).findIdx? (λb=>decide (b=a)) with
 | none=>
   rw [hi] at hf;simp [Instr.lookup,run_underlying hm.h,MapKept.run_getObj_map h1,K.chk,hf,Result.andThen,Zer.run]
 | some i=>
   obtain ⟨hlt,_⟩:=X3.1 hi;have dF:i<es.toList.length:=by rw [ai];simpa using hlt
   rw [hi] at hf;simp only [Option.bind_some,XP dF,Option.map_some] at hf;simp [Instr.lookup,run_underlying hm.h,MapKept.run_getObj_map h1,K.chk,hf,Result.andThen,XP dF]
end
end Go.Eng
namespace Go.Proofs.YteibicnbkggiiaaGreatDoor
open Go Go.Eng Go.RowKit
def idx {α:Type} (p:α->Bool) (xs:List α):Int:=match xs.findIdx? p with|some i=>(i:Int)|none=>-1
theorem Z3B {α:Type} {p:α->Bool} {xs:List α} {k:Nat} (hk:k<xs.length) (hp:p xs[k]=true) (hb:∀ j (h:j<xs.length),j<k->p xs[j]=false):idx p xs=k:=by
 have:xs.findIdx? p=some k:=X3.2 ⟨hk,hp,λj hj=>by simp [hb j (by omega) hj]⟩;simp [idx,this]
theorem Z1X {α:Type} {p:α->Bool} {xs:List α} (hb:∀ j (h:j<xs.length),p xs[j]=false):idx p xs=-1:=by
 have:xs.findIdx? p=none:=by
  rw [X9];intro x hx;obtain ⟨j,hj,rfl⟩:=Xv hx;simp [hb j hj]
 simp [idx,this]
abbrev isS (a:Str):Str->Bool:=λx=>decide (x=a)
theorem Z5T (X:List Nat) (v:Value) (l:List Str) (a:Str) (w) (hs:SlV X w v l):CC 270 #[v,str a] w λr w'=>r=.I (idx (isS a) l)/\Stp [] w w':=by
 have aW:=hs.max;refine cW2 19 Tryz.func270 ?_;refine W ?_;refine LP (σ:=Nat) (λk=>[(0,v),(1,str a),(8,.I k),(7,.I (l.length:Int))]) (λk w'=>k<=l.length/\Stp [] w w'/\∀ j (h:j<l.length),j<k->isS a l[j]=false) (λk=>l.length - k) 0 ⟨Xo _,Stp.refl _ _,λj _ h=>absurd h (Xs _)⟩ ?_;have bU:=hs;clear hs;rintro k w1 ⟨hk,hS,aR⟩;have hs:=bU.up hS;by_cases hlt:k<l.length
 (refine QP ?_ ?_<;>intro hc)
 refine WR ?_;have ft:isS a l[k]=true:=by simpa [isS,eq_comm] using hc
 exact .mk ⟨by rw [Z3B hlt ft aR],hS⟩;refine QL (k+1) ⟨hlt,hS,λj h hj=>?_⟩ (by omega);by_cases e:j=k;subst e;simpa [isS,eq_comm] using hc;exact aR j h (by omega);have cM:k=l.length:=by omega
 subst cM;refine RT ?_;exact ⟨by rw [Z1X (λj h=>aR j h h)],hS⟩
theorem Jr (X:List Nat) (v:Value) (l:List Str) (a:Str) (w) (hs:SlV X w v l):CC 145 #[v,str a] w λr w'=>r=.I (idx (isS a) l)/\Stp [] w w':=by
 have aW:=hs.max;refine cW2 19 Tryz.func145 ?_;refine W ?_;refine LP (σ:=Nat) (λk=>[(0,v),(1,str a),(5,.I k)]) (λk w'=>k<=l.length/\Stp [] w w'/\∀ j (h:j<l.length),j<k->isS a l[j]=false) (λk=>l.length - k) 0 ⟨Xo _,Stp.refl _ _,λj _ h=>absurd h (Xs _)⟩ ?_;have bU:=hs;clear hs;rintro k w1 ⟨hk,hS,aR⟩;have hs:=bU.up hS;by_cases hlt:k<l.length
 (refine QP ?_ ?_<;>intro hc)
 refine WR ?_;have ft:isS a l[k]=true:=by simpa [isS,eq_comm] using hc
 exact .mk ⟨by rw [Z3B hlt ft aR],hS⟩;refine QL (k+1) ⟨hlt,hS,λj h hj=>?_⟩ (by omega);by_cases e:j=k;subst e;simpa [isS,eq_comm] using hc;exact aR j h (by omega);have cM:k=l.length:=by omega
 subst cM;refine RT ?_;exact ⟨by rw [Z1X (λj h=>aR j h h)],hS⟩
theorem Z0W (X:List Nat) (v:Value) (l:List Str) (a:Str) (w) (hs:SlV X w v l):CC 174 #[v,str a] w λr w'=>r=.I (idx (isS a) l)/\Stp [] w w':=by
 have aW:=hs.max;refine cW2 19 Tryz.func174 ?_;refine W ?_;refine LP (σ:=Nat) (λk=>[(0,v),(1,str a),(5,.I k)]) (λk w'=>k<=l.length/\Stp [] w w'/\∀ j (h:j<l.length),j<k->isS a l[j]=false) (λk=>l.length - k) 0 ⟨Xo _,Stp.refl _ _,λj _ h=>absurd h (Xs _)⟩ ?_;have bU:=hs;clear hs;rintro k w1 ⟨hk,hS,aR⟩;have hs:=bU.up hS;by_cases hlt:k<l.length
 (refine QP ?_ ?_<;>intro hc)
 refine WR ?_;have ft:isS a l[k]=true:=by simpa [isS,eq_comm] using hc
 exact .mk ⟨by rw [Z3B hlt ft aR],hS⟩;refine QL (k+1) ⟨hlt,hS,λj h hj=>?_⟩ (by omega);by_cases e:j=k;subst e;simpa [isS,eq_comm] using hc;exact aR j h (by omega);have cM:k=l.length:=by omega
 subst cM;refine RT ?_;exact ⟨by rw [Z1X (λj h=>aR j h h)],hS⟩
def Zb:List Str:=[[100,97,121],[115,101,114,118,101,100],[101,120,116,114,97],[98,121],[116,111],[99,111,117,114,116],[97,109,111,117,110,116]]
abbrev Z1R:Value:=.slice (some ⟨0,0,none⟩) 7 7
def ZA (a:Str):Int×Int×Bool:=
 let i:=idx (isS a) Zb
 if i<0 then (0,0,false) else if i<=1 then (i,3,true) else (i,1,true)
abbrev Zng (x:Int×Int×Bool):Value:=.tuple #[.I x.1,.I x.2.1,.B x.2.2]
theorem ZaV (a:Str) (w) (hF:SlV [] w Z1R Zb):CC 235 #[str a] w λr w'=>r=Zng (ZA a)/\Stp [] w w':=by
 refine cW1 17 Tryz.func235 ?_;refine W ?_;apply Zf (Z3A rfl) rfl;refine W ?_;refine CL (Z5T [] _ _ a _ hF) ?_;rintro _ w1 ⟨rfl,hS⟩;unfold ZA;generalize idx (isS a) Zb=i;repeat'(first|refine W1 ?_|refine VG ?_ ?_<;>intro hg|refine VC ?_ ?_<;>intro hc)
 all_goals (refine WR ?_)
 exact .mk ⟨by simp only [if_pos hc],hS⟩;rename_i h1;exact .mk ⟨by simp only [if_neg h1,if_pos hc],hS⟩;rename_i h1;exact .mk ⟨by simp only [if_neg h1,if_neg hc],hS⟩
def wst (s:Str):Nat->List Str×Nat
 | 0=>([],0)
 | k+1=>if k=s.length\/ZU s k=32 then ((wst s k).1++[(s.take k).drop (wst s k).2],k+1) else wst s k
def Z0t (s:Str):List Str:=(wst s (s.length+1)).1
theorem Zd1 (s:Str):∀ k,(wst s k).2<=k/\(wst s k).1.length<=k
 | 0=>by simp [wst]
 | k + 1 => by
   have:=Zd1 s k;simp only [wst];split;simp;omega;omega
theorem Z4K (a:Str) (w):(Instr.buildSlice 168 1 #[(0,str a)]).run Tryz.prog w=.ok (.slice (some ⟨w.heap.size,0,none⟩) 1 1) (w.alloc (.cells #[str a] 9)):=by kernel_rfl
theorem JP (X:List Nat) (s:Str) (w:World) (hX:∀ b∈X,b<w.heap.size) (hl:s.length<=1000) :
 CC 206 #[str s] w λr w'=>Row X w' w.heap.size 9 r (Z0t s)/\Stp [] w w':=by
 refine cW1 32 Tryz.func206 ?_;refine W ?_;refine LP (σ:=Nat×Value) (λq=>[(0,str s),(3,q.2),(4,.I ((wst s q.1).2:Int)),(5,.I (q.1:Int))]) (λq w'=>q.1<=s.length+1/\Row X w' w.heap.size 9 q.2 (wst s q.1).1/\Stp [] w w') (λq=>s.length+1 - q.1) (0,.N) ⟨by simp,Row.nil,Stp.refl _ _⟩ ?_;rintro ⟨k,v⟩ w1 ⟨hk,ac,hS⟩;dsimp only at hk ac ⊢;obtain ⟨iB,gN⟩:=Zd1 s k;by_cases hlt:k<=s.length
 . have nxt:wst s (k+1)=if k=s.length\/ZU s k=32 then ((wst s k).1++[(s.take k).drop (wst s k).2],k+1) else wst s k:=rfl
   have aP:=hS.size;repeat'(first|refine W1 ?_|omega|refine VG ?_ ?_<;>intro hg|refine VC ?_ ?_<;>intro hc)
   rotate_right
   have aR:¬ (k=s.length\/ZU s k=32):=by rintro (h|h)<;>omega
   rw [if_neg aR] at nxt;refine Jj (k+1,v) ⟨rfl,rfl,by rw [nxt];rfl,rfl,trivial⟩ ⟨by dsimp only;omega,by dsimp only;rw [nxt];exact ac,hS⟩ (by dsimp only;omega)
   all_goals
    have bQ:k=s.length\/ZU s k=32:=by omega
    rw [if_pos bQ] at nxt;apply Zf (Z1w rfl rfl rfl rfl rfl (by omega) (by omega)) rfl;refine Z1 (Z0 (vs:=[(0,str _)]) rfl (Z4K _)) rfl ?_;rintro bv w2 hN;have ax:=hN.choose_spec.2.2.2;have aH:SlV (ob v++X) w2 bv [(s.take k).drop (wst s k).2]:=hN.slv (λb hb=>(Xd.1 hb).elim (λh=>(ac.ob_le b h).2) (λh=>Xc (hX b h) aP)) rfl rfl (by simp [maxLen]);clear hN;replace ac:=ac.up ax;replace hS:=hS.trans ax;have aP:=hS.size;refine Z1 (ZI (X:=X) (base:=w.heap.size) rfl (by decide) rfl rfl ac aH (by simp only [Xh,Xj];omega) (by simp only [Xh,Xj,maxLen];omega) aP) rfl ?_;rintro v' w3 ⟨aK,aE,_⟩;refine W ?_;refine Jj (k+1,v') ⟨rfl,rfl,by rw [nxt];rfl,rfl,trivial⟩ ⟨by dsimp only;omega,by dsimp only;rw [nxt];exact aK,hS.own aE (λb hb=>.inr (ac.ob_le b hb).1)⟩ (by dsimp only;omega)
 have cM:k=s.length+1:=by omega
 subst cM;refine RT ?_;exact ⟨ac,hS⟩
theorem _root_.Go.Eng.Row.slv0 {α:Type} [Z3 α] {w} {base T:Nat} {v:Value} {xs:List α} (h:Row [] w base T v xs):SlV [] w v xs:=h.slv (by simp)
theorem Z6t:Z0t [100,97,121,32,115,101,114,118,101,100,32,101,120,116,114,97,32,98,121,32,116,111,32,99,111,117,114,116,32,97,109,111,117,110,116]=Zb:=by decide
theorem Z8L (X:List Nat) (w:World) (hX:∀ b∈X,b<w.heap.size):CC 268 #[] w λr w'=>Row X w' w.heap.size 9 r Zb/\Stp [] w w':=by
 refine cW0 2 Tryz.func268 ?_;refine W ?_;refine CM (ZN rfl) (JP X [100,97,121,32,115,101,114,118,101,100,32,101,120,116,114,97,32,98,121,32,116,111,32,99,111,117,114,116,32,97,109,111,117,110,116] _ hX (by decide)) ?_;rintro v w1 ⟨hr,hS⟩;rw [Z6t] at hr;refine RT ?_;exact ⟨hr,hS⟩
theorem Z40 (a:Str) (w):CC 211 #[str a] w λr w'=>r=Zng (ZA a)/\Stp [] w w':=by
 refine cW1 15 Tryz.func211 ?_;refine W ?_;refine CM Z8A (Z8L [] _ (by simp)) ?_;rintro v w1 ⟨hr,hS⟩;refine W ?_;refine CM (Zj rfl rfl) (Jr [] _ _ a _ (hr.slv (by simp))) ?_;rintro _ w2 ⟨rfl,ak⟩;replace hS:=hS.trans ak;unfold ZA;generalize idx (isS a) Zb=i;repeat'(first|refine W1 ?_|refine VG ?_ ?_<;>intro hg|refine VC ?_ ?_<;>intro hc)
 all_goals (refine WR ?_)
 exact .mk ⟨by simp only [if_pos hc],hS⟩;rename_i h1;exact .mk ⟨by simp only [if_neg h1,if_pos hc],hS⟩;rename_i h1;exact .mk ⟨by simp only [if_neg h1,if_neg hc],hS⟩
def JV (k n:Int) (s:Str):Int:=
 if k=4 then (if n=0 then (ZA s).2.1 else 0) else if ¬ s=[] then 0
 else if k=1 then (if 0<=n/\n<=2147483647 then 1 else 0) else if k=2 then (if 0<=n/\n<=1 then 2 else 0) else if k=3 then (if 0<=n/\n<=3652058 then 3 else 0) else 0
theorem Z3C {a:Str} (h:(ZA a).2.2=false):(ZA a).2.1=0:=by
 unfold ZA at h ⊢;dsimp only at h ⊢;split<;>rename_i h1
 rfl;rw [if_neg h1] at h;split at h<;>simp at h
theorem Z8M (X:List Nat) (v:Value) (x:Nd) (w) (hx:NdV X w v x) :
 CC 207 #[v] w λr w'=>r=.I (JV x.kind x.num x.word)/\Stp [] w w':=by
 obtain ⟨kv,rfl,hs⟩:=hx;refine cW1 69 Tryz.func207 ?_;refine W ?_;refine Z1 (Zp rfl) rfl ?_;rintro _ w1 ⟨b,rfl,hb,ab,hS⟩;replace ab:Blk w1 b _ (ndC x kv):=ab;repeat'(first|refine W1 ?_|omega|refine VG ?_ ?_<;>intro hg|refine VC ?_ ?_<;>intro hc)
 . refine CL (Z40 x.word _) ?_
   rintro _ w2 ⟨rfl,ak⟩;have aR:=@Z3C x.word;have hk:x.kind=4:=hc;generalize fV:ZA x.word=fd at *;obtain ⟨f1,f2,f3⟩:=fd;replace ab:=ab.up ak;replace hS:=hS.trans ak;cases f3 with
   | true=>
     (refine QP ?_ ?_<;>intro hc)
     all_goals (refine WR ?_)
     refine .mk ⟨?_,hS⟩;simp only [JV,if_pos hk];rw [if_neg (by assumption)];refine .mk ⟨?_,hS⟩;simp only [JV,if_pos hk];rw [if_pos (by omega),fV];rfl
   | false=>
     have h0:=aR rfl;dsimp only at h0;subst h0;refine QO ?_;all_goals (refine WR ?_)
     refine .mk ⟨?_,hS⟩;simp only [JV,if_pos hk];split;rw [fV];rfl
 all_goals (refine WR ?_)
 all_goals
  refine .mk ⟨?_,hS⟩;simp only [JV];repeat' split
  all_goals first|rfl|omega|(exfalso;simp_all;done)|(exfalso;simp_all;omega)
theorem Zd2 (X:List Nat) (v:Value) (x:Nd) (w) (hx:NdV X w v x) (hF:SlV [] w Z1R Zb) :
 CC 280 #[v] w λr w'=>r=.I (JV x.kind x.num x.word)/\Stp [] w w':=by
 obtain ⟨kv,rfl,hs⟩:=hx;refine cW1 50 Tryz.func280 ?_;refine W ?_;refine Z1 (Zp rfl) rfl ?_;rintro _ w1 ⟨b,rfl,hb,ab,hS⟩;replace ab:Blk w1 b _ (ndC x kv):=ab;replace hF:=hF.up hS;repeat'(first|refine W1 ?_|omega|refine VG ?_ ?_<;>intro hg|refine VC ?_ ?_<;>intro hc)
 refine CL (ZaV x.word _ hF) ?_;rintro _ w2 ⟨rfl,ak⟩;replace hS:=hS.trans ak;refine QO ?_;refine WR ?_;refine .mk ⟨?_,hS⟩;simp only [JV];rw [if_pos (by assumption),if_pos (by assumption)];rfl
 all_goals first
  | (refine Z1 (Z1z (λz : Int => Value.int .i64 z)) rfl ?_
     rintro _ w2 ⟨r,rfl,hr,hm,ak⟩;have oI:=ab.lt;have br:=hS.size;replace ab:=ab.up ak;replace hS:=hS.trans ak;refine Zi (Z1i (a:=(1:Int)) (v:=.I 1) rfl rfl rfl hm (by simp)) ?_;rintro _ w3 ⟨hm,aq⟩;replace ab:=ab.ext aq (by simp;omega);replace hS:=hS.ow aq;refine Zi (Z1i (a:=(2:Int)) (v:=.I 2) rfl rfl rfl hm (by simp)) ?_;rintro _ w4 ⟨hm,aA⟩;replace ab:=ab.ext aA (by simp;omega);replace hS:=hS.ow aA;refine Zi (Z1i (a:=(3:Int)) (v:=.I 3) rfl rfl rfl hm (by simp)) ?_;rintro _ w5 ⟨hm,ay⟩;replace ab:=ab.ext ay (by simp;omega);replace hS:=hS.ow ay;refine W ?_;apply Zf (Z2q (a:=x.kind) rfl rfl hm) rfl;refine W ?_;refine WR ?_;refine .mk ⟨?_,hS⟩;have hw:x.word=[]:=by first|assumption|exact Decidable.not_not.1 (by assumption)
     simp only [JV,hw,not_true_eq_false,if_false]
     first
      | (have hk : x.kind = 1 := by assumption
         rw [hk,if_neg (by decide),if_pos rfl,if_pos (by omega)];rfl)
      | (have hk : x.kind = 2 := by assumption
         rw [hk,if_neg (by decide),if_neg (by decide),if_pos rfl,if_pos (by omega)];rfl)
      | (have hk : x.kind = 3 := by assumption
         rw [hk,if_neg (by decide),if_neg (by decide),if_neg (by decide),if_pos rfl,if_pos (by omega)];rfl))
  | skip
 all_goals (refine WR ?_)
 all_goals
  refine .mk ⟨?_,hS⟩;simp only [JV];repeat' split
  all_goals first|rfl|omega|(exfalso;simp_all;done)|(exfalso;simp_all;omega)
def Ju (l want:List Int):Bool:=decide (l=want/\∀ x∈l,x≠0)
theorem Z0u (X Y:List Nat) (u v:Value) (l m:List Int) (w) (hl:SlV X w u l) (hm:SlV Y w v m) :
 CC 208 #[u,v] w λr w'=>r=.B (Ju l m)/\Stp [] w w':=by
 have aW:=hl.max;have mX:=hm.max;refine cW2 33 Tryz.func208 ?_
 (refine QP ?_ ?_<;>intro hc)
 refine WR ?_;refine .mk ⟨?_,Stp.refl _ _⟩;congr 1;symm;refine decide_eq_false (λh=>?_);have:=congrArg List.length h.1;omega;have ai:l.length=m.length:=by omega
 have eA:=hl;have iC:=hm;refine LP (σ:=Nat) (λk=>[(0,u),(1,v),(5,.I k)]) (λk w'=>k<=l.length/\Stp [] w w'/\∀ j (h:j<l.length) (h':j<m.length),j<k->l[j]=m[j]/\l[j]≠0) (λk=>l.length - k) 0 ⟨Xo _,Stp.refl _ _,λj _ _ h=>absurd h (Xs _)⟩ ?_;clear hl hm;rintro k w1 ⟨hk,hS,ar⟩;have hl:=eA.up hS;have hm:=iC.up hS;by_cases hlt:k<l.length
 . have gO:k<m.length:=by omega
   refine QO ?_;refine ZDr 16 [] [] [(0,0),(1,0),(2,0),(3,1),(4,0),(5,0),(6,0),(7,1),(8,0),(9,0),(10,0),(11,0),(12,0),(13,1),(14,0),(15,0)] (λw1 ae=>?_);replace hl:=hl.up ae;replace hm:=hm.up ae;replace hS:=hS.trans ae
   (refine QE ?_ ?_<;>intro hg)
   all_goals (repeat'(first|refine W1 ?_|omega|refine VG ?_ ?_<;>intro hg|refine VC ?_ ?_<;>intro hc))
   all_goals first
    | (refine QL (k + 1) ⟨hlt, hS, λj h h' hj => ?_⟩ (by omega)
       by_cases e:j=k;subst e;omega;exact ar j h h' (by omega))
    | (refine WR ?_)
   all_goals
    refine .mk ⟨?_,hS⟩;congr 1;symm;refine decide_eq_false (λh=>?_);obtain ⟨rfl,h2⟩:=h;have:=h2 _ (Xb hlt);omega
 refine QO ?_;refine WR ?_;refine .mk ⟨?_,hS⟩;congr 1;symm;refine decide_eq_true ⟨YaR ai (λj h h'=>(ar j h h' (by omega)).1),λx hx=>?_⟩;obtain ⟨j,hj,rfl⟩:=Xv hx;exact (ar j hj (by omega) (by omega)).2
theorem Zk (a:Int) (w):(Instr.buildSlice 22 1 #[(0,.I a)]).run Tryz.prog w=.ok (.slice (some ⟨w.heap.size,0,none⟩) 1 1) (w.alloc (.cells #[.I a] 3)):=by kernel_rfl
theorem J3 (a b:Int) (w):(Instr.buildSlice 22 2 #[(0,.I a),(1,.I b)]).run Tryz.prog w=.ok (.slice (some ⟨w.heap.size,0,none⟩) 2 2) (w.alloc (.cells #[.I a,.I b] 3)):=by kernel_rfl
theorem Zd3 (a b c:Int) (w):(Instr.buildSlice 22 3 #[(0,.I a),(1,.I b),(2,.I c)]).run Tryz.prog w=.ok (.slice (some ⟨w.heap.size,0,none⟩) 3 3) (w.alloc (.cells #[.I a,.I b,.I c] 3)):=by kernel_rfl
theorem Z5.stp {w w':World} {T len:Nat} {cs:List Value} {v:Value} (h:Z5 w T len cs v w'):Stp [] w w':=h.choose_spec.2.2.2
def JK:List Str:=[[43],[45],[42]]
def Z0Q:List Str:=[[60],[60,61],[61],[33,61],[62],[62,61]]
def JF:List Str:=[[97,110,100],[111,114]]
theorem Z8N:Z0t [43,32,45,32,42]=JK:=by decide
theorem Z8O:Z0t [60,32,60,61,32,61,32,33,61,32,62,32,62,61]=Z0Q:=by decide
theorem Z8P:Z0t [97,110,100,32,111,114]=JF:=by decide
def Z6u (s:Str) (l:List Int):Int:=
 if 0<=idx (isS s) JK/\Ju l [1,1]=true then 1 else if 0<=idx (isS s) Z0Q/\(Ju l [1,1]=true\/Ju l [3,3]=true) then 2 else if 0<=idx (isS s) JF/\Ju l [2,2]=true then 2 else 0
theorem Z6v (X:List Nat) (s:Str) (u:Value) (l:List Int) (w) (hl:SlV X w u l) :
 CC 209 #[str s,u] w λr w'=>r=.I (Z6u s l)/\Stp [] w w':=by
 refine cW2 42 Tryz.func209 ?_;refine W ?_;refine Z1 (Z0 (vs:=[(0,.I 1),(1,.I 1)]) rfl (J3 _ _)) rfl ?_;rintro a1 w1 hN;have ha:=hN.slv (X:=[]) (ys:=[(1:Int),1]) (by simp) rfl rfl (by simp [maxLen]);have hS:=Z5.stp hN;clear hN;replace hl:=hl.up hS;refine CL (Z0u _ _ _ _ _ _ _ hl ha) ?_;rintro _ w2 ⟨rfl,ak⟩;replace hl:=hl.up ak;replace hS:=hS.trans ak;refine W ?_;refine Z1 (Z0 (vs:=[(0,.I 3),(1,.I 3)]) rfl (J3 _ _)) rfl ?_;rintro a3 w3 hN;have ha:=hN.slv (X:=[]) (ys:=[(3:Int),3]) (by simp) rfl rfl (by simp [maxLen]);have aq:=Z5.stp hN;clear hN;replace hl:=hl.up aq;replace hS:=hS.trans aq;refine CL (Z0u _ _ _ _ _ _ _ hl ha) ?_;rintro _ w4 ⟨rfl,aA⟩;replace hl:=hl.up aA;replace hS:=hS.trans aA;clear ha;unfold Z6u;generalize Ju l [1,1]=p1;generalize Ju l [3,3]=p3;refine W ?_;refine CM (ZN rfl) (JP [] [43,32,45,32,42] _ (by simp) (by decide)) ?_;rintro _ w5 ⟨hr,ay⟩;rw [Z8N] at hr;replace hl:=hl.up ay;replace hS:=hS.trans ay;refine W ?_;refine CL (Jr [] _ _ s _ hr.slv0) ?_;rintro _ w6 ⟨rfl,cx⟩;replace hl:=hl.up cx;replace hS:=hS.trans cx;generalize idx (isS s) JK=i1;clear hr;cases p1<;>cases p3<;>by_cases hi:0<=i1;all_goals (refine QO ?_)
 all_goals first
  | (refine CM (ZN rfl) (JP [] [60, 32, 60, 61, 32, 61, 32, 33, 61, 32, 62, 32, 62, 61] _ (by simp) (by decide)) ?_
     rintro _ w7 ⟨hr,aM⟩;rw [Z8O] at hr;replace hl:=hl.up aM;replace hS:=hS.trans aM;refine W ?_;refine CL (Jr [] _ _ s _ hr.slv0) ?_;rintro _ w8 ⟨rfl,bI⟩;replace hl:=hl.up bI;replace hS:=hS.trans bI;generalize idx (isS s) Z0Q=i2;clear hr;by_cases bN:0<=i2)
  | (refine RU ?_
     exact ⟨by simp [hi],hS⟩)
 all_goals (refine QO ?_)
 all_goals first
  | (refine CM (ZN rfl) (JP [] [97, 110, 100, 32, 111, 114] _ (by simp) (by decide)) ?_
     rintro _ w9 ⟨hr,dN⟩;rw [Z8P] at hr;replace hl:=hl.up dN;replace hS:=hS.trans dN;refine W ?_;refine CL (Jr [] _ _ s _ hr.slv0) ?_;rintro _ w10 ⟨rfl,cz⟩;replace hl:=hl.up cz;replace hS:=hS.trans cz;generalize idx (isS s) JF=i3;clear hr;by_cases fh:0<=i3)
  | (refine RU ?_
     exact ⟨by simp [hi,bN],hS⟩)
 all_goals (refine QO ?_)
 all_goals first
  | (refine Z1 (Z0 (vs := [(0, .I 2), (1, .I 2)]) rfl (J3 _ _)) rfl ?_
     rintro a2 w11 hN;have ha:=hN.slv (X:=[]) (ys:=[(2:Int),2]) (by simp) rfl rfl (by simp [maxLen]);have iX:=Z5.stp hN;clear hN;replace hl:=hl.up iX;replace hS:=hS.trans iX;refine W ?_;refine CL (Z0u _ _ _ _ _ _ _ hl ha) ?_;rintro _ w12 ⟨rfl,fw⟩;replace hS:=hS.trans fw;generalize Ju l [2,2]=p2;cases p2)
  | (refine RU ?_
     exact ⟨by simp [hi,bN,fh],hS⟩)
 all_goals (refine W ?_)
 all_goals (refine WR ?_)
 all_goals exact .mk ⟨by simp [hi,bN,fh],hS⟩
structure Sig where
 kind:Int
 s:Str
 a:Int
 b:Int
 c:Int
 deriving DecidableEq
abbrev Z2T (x:Sig):Value:=.agg #[.I x.kind,str x.s,.I x.a,.I x.b,.I x.c]
theorem Zkg (x y:Sig) (w):(Op.equal 331 (Z2T x) (Z2T y)).run Tryz.prog w=.ok (decide (x=y)) w:=by
 have h1:Program.stoodInHeld Tryz.prog 331=false:=by kernel_rfl
 obtain ⟨i,hi⟩:∃ i,Tryz.prog.info? 3=some i:=by
  have:=(inferInstance:Siz Tryz.prog 3 1).h;cases h:Tryz.prog.info? 3 with
  | none=>rw [h] at this;cases this
  | some i=>exact ⟨i,rfl⟩
 have hc:Tryz.prog.cellsOf 3=1:=by kernel_rfl
 obtain ⟨k,s,a,b,c⟩:=x;obtain ⟨k',s',a',b',c'⟩:=y;simp [Z2T,Op.equal,Op.maxDepth,run_equalIn_struct,h1,Program.fieldsOf,Tryz.underlying331,Op.eqFields,part,Und.isAgg,Siz.run,Z03,run_equalIn_int w _ _ .i64 .i64 _ _ Tryz.underlying3,run_equalIn_string w _ _ _ _ Tryz.underlying9,run_equalIn_array w _ _ _ Tryz.underlying326 hi,hc,Op.eqItems,List.range_succ_eq_map];repeat' split
 all_goals simp_all
theorem Zg5 (em:Bool) (x:Sig) (w):(Instr.checkKey em 10000 331 (Z2T x)).run Tryz.prog w=.ok () w:=by kernel_rfl
instance:Z6s Tryz.prog 331 Sig where
 enc:=Z2T
 chk:=Zg5
 find:=λa es l w hk=>by
  have h2:=run_findKey_eq (P:=Tryz.prog) (k:=331) w (by kernel_rfl) (Z2T a) es;have h3:=Z16 Z2T Zkg a w es l 0 hk;simp only [XL] at h3;exact h2.trans h3
abbrev Z7o (a b c:Int):Value:=.agg #[.I a,.I b,.I c]
theorem Zg6 (a:Int) (w):(Instr.build 326 #[(0,.I a)]).run Tryz.prog w=.ok (Z7o a 0 0) w:=by kernel_rfl
theorem Z6w (a b:Int) (w):(Instr.build 326 #[(0,.I a),(1,.I b)]).run Tryz.prog w=.ok (Z7o a b 0) w:=by kernel_rfl
theorem Z4q (k a b c:Int) (s:Str) (w):(Instr.build 331 #[(0,.I k),(1,str s),(2,Z7o a b c)]).run Tryz.prog w=.ok (Z2T ⟨k,s,a,b,c⟩) w:=by kernel_rfl
theorem Z7p (a b c d:Str) (w):(Instr.buildSlice 168 4 #[(0,str a),(1,str b),(2,str c),(3,str d)]).run Tryz.prog w=.ok (.slice (some ⟨w.heap.size,0,none⟩) 4 4) (w.alloc (.cells #[str a,str b,str c,str d] 9)):=by kernel_rfl
abbrev Z8Q:=Sig×Value
def ent:Nat->Z8Q
 | 5=>(⟨5,[45],1,0,0⟩,.I 1)
 | 10=>(⟨5,[110,111,116],2,0,0⟩,.I 2)
 | 15=>(⟨10,[110,101,120,116],3,0,0⟩,.I 3)
 | 20=>(⟨10,[112,114,101,118],3,0,0⟩,.I 3)
 | 26=>(⟨10,[108,97,116,101,114],3,3,0⟩,.I 3)
 | 32=>(⟨10,[101,97,114,108,105,101,114],3,3,0⟩,.I 3)
 | _=>(⟨10,[98,101,116,119,101,101,110],3,3,0⟩,.I 1)
def Z6x:List Nat:=[5,10,15,20,26,32,38]
def ZE:List Str:=[[100,97,121,115],[119,101,101,107,115],[109,111,110,116,104,115],[99,111,117,114,116,100,97,121,115]]
def Z0E (u:Str):List Z8Q:=[(⟨7,u,3,1,0⟩,.I 3),(⟨8,u,3,1,0⟩,.I 3)]
def Z1k:List Z8Q:=Z6x.map ent++ZE.flatMap Z0E
theorem Z8R:(Z1k.map (·.1)).Nodup:=by decide
theorem ZaW {κ:Type} [DecidableEq κ] {l m:List (κ×Value)} (hp:l.Perm m) (hn:(m.map (·.1)).Nodup) (a:κ) (z:Value):Z1Q l a z=Z1Q m a z:=by
 have kh:(l.map (·.1)).Nodup:=(hp.map _).nodup_iff.2 hn;have key:∀ (l m:List (κ×Value)),(∀ p,p∈l->p∈m)->(m.map (·.1)).Nodup->∀ p,l.find? (λp=>decide (p.1=a))=some p->m.find? (λp=>decide (p.1=a))=some p:=by
  intro l m hs hm p hf;have iD:=hs p (XZ hf);have mY:p.1=a:=by simpa using Ya6 hf
  cases hq:m.find? (λp=>decide (p.1=a)) with
  | none=>exact absurd (YaM.1 hq p iD) (by simp [mY])
  | some q=>
    have oJ:=XZ hq;have oK:q.1=a:=by simpa using Ya6 hq
    obtain ⟨i,hi,rfl⟩:=Xv iD;obtain ⟨j,hj,rfl⟩:=Xv oJ;have:i=j:=by
     have h1:=(List.getElem_inj (xs:=m.map (·.1)) (i:=i) (j:=j) (h₀:=by simpa using hi) (h₁:=by simpa using hj) hm).1 (by simp [mY,oK]);exact h1
    subst this;rfl
 unfold Z1Q;cases h1:l.find? (λp=>decide (p.1=a)) with
 | some p=>rw [key l m (λp h=>hp.mem_iff.1 h) hn p h1]
 | none=>
   cases h2:m.find? (λp=>decide (p.1=a)) with
   | none=>rfl
   | some p=>rw [key m l (λp h=>hp.mem_iff.2 h) kh p h2] at h1;cases h1
theorem Z1K (w):CC 282 #[] w λr w'=>∃ (m:Nat) (l:List Z8Q),r=.map (some m)/\Jq Z2T w' m l/\l.Perm Z1k/\Stp [] w w'/\w.heap.size<=m:=by
 refine cW0 62 Tryz.func282 ?_;refine W ?_;refine ZDr 41 [] [5,10,15,20,26,32,38] [(1,0),(2,0),(3,0),(4,0),(6,0),(7,0),(8,0),(9,0),(11,0),(12,0),(13,0),(14,0),(16,0),(17,0),(18,0),(19,0),(21,0),(22,0),(23,0),(24,0),(25,0),(27,0),(28,0),(29,0),(30,0),(31,0),(33,0),(34,0),(35,0),(36,0),(37,0),(0,2),(5,279241165504),(39,0),(40,0)] (λw1 ae=>?_);repeat'(first|refine D1 ?_|(apply Z0V;exact rfl;first|(apply Z1g (vs:=[(0,.I _)]);exact trivial;exact rfl;exact Zg6 _;exact rfl)|(apply Z1g (vs:=[(0,.I _),(1,.I _)]);exact trivial;exact rfl;exact Z6w _ _;exact rfl)|(apply Z1g (vs:=[(0,.I _),(1,str _),(2,Z7o _ _ _)]);exact trivial;exact rfl;exact Z4q _ _ _ _ _;exact rfl)))
 refine Z7 rfl trivial (Z1z Z2T) (λ_ _ h=>h.choose_spec.2.2.2) rfl ?_;rintro _ w2 ⟨m,rfl,hm,iY,ak⟩;have iB:=ae.size;refine Zke Z6x (λrem w'=>∃ l,Jq Z2T w' m l/\(l++rem.map ent).Perm (Z6x.map ent)/\Stp [m] w2 w') rfl (by decide) (by decide) ⟨[],iY,by simp,Stp.refl _ _⟩ ?_ ?_
 . rintro rem j w' kU hj ⟨l,hl,hp,hS⟩
   have fW:((l++rem.map ent).map (·.1)).Nodup:=(hp.map (·.1)).nodup_iff.2 (by decide);have hfresh:∀ p∈l,¬ p.1=(ent j).1:=by
    intro p hp e;rw [XR,List.nodup_append] at fW;exact fW.2.2 p.1 (Yaj hp) (ent j).1 (by rw [X8];exact XO.2 ⟨j,hj,rfl⟩) e
   have gen:∀ w'',Jq Z2T w'' m (l++[ent j])->Stp [m] w' w''->∃ l,Jq Z2T w'' m l/\(l++(rem.erase j).map ent).Perm (Z6x.map ent)/\Stp [m] w2 w'':=by
    intro w'' h1 h2;refine ⟨_,h1,?_,hS.trans h2⟩;refine List.Perm.trans ?_ hp;rw [XM];exact List.Perm.append_left l (((List.perm_cons_erase hj).map ent).symm)
   have iZ:=kU.subset hj;simp only [Z6x,Xg,Xm,or_false] at iZ;rcases iZ with rfl|rfl|rfl|rfl|rfl|rfl|rfl
   all_goals exact ⟨_,rfl,rfl,trivial,(Z1i (v:=.I _) rfl rfl rfl hl hfresh).mono (λ_ w'' ⟨h1,h2⟩=>⟨.inr rfl,gen w'' h1 h2⟩)⟩
 rintro w3 ⟨l,hl,hp,aq⟩;rw [X6,XE] at hp;have hS:Stp [] w w3:=(ae.trans ak).ow aq;have oL:w.heap.size<=m:=by omega
 clear iY ak aq;repeat'(first|refine D1 ?_|refine Z6 rfl rfl rfl rfl (λhg=>?_) (λhg=>?_)|(refine Z2 rfl rfl rfl rfl (λhg=>?_) (λhg=>?_)<;>refine D1 ?_)|fail)
 refine W ?_;refine Z1 (Z0 (vs:=[(0,str [100,97,121,115]),(1,str [119,101,101,107,115]),(2,str [109,111,110,116,104,115]),(3,str [99,111,117,114,116,100,97,121,115])]) rfl (Z7p _ _ _ _)) rfl ?_;rintro uv w4 hN;have hu:SlV [m] w4 uv ZE:=hN.slv (λb hb=>by simp at hb;subst hb;exact hl.lt) rfl rfl (by simp [ZE,maxLen]);have aA:=Z5.stp hN;clear hN;replace hl:=hl.up aA;replace hS:=hS.trans aA;have i7:∀ p∈l,p.1.kind=5\/p.1.kind=10:=λp kj=>by
  have mZ:=hp.mem_iff.1 kj;simp only [Z6x,Xz,X6,Xg,Xm,or_false] at mZ;rcases mZ with rfl|rfl|rfl|rfl|rfl|rfl|rfl<;>decide
 have eB:∀ k (h:k<ZE.length),∀ p∈(ZE.take k).flatMap Z0E,¬ p.1.s=ZE[k]:=by
  intro k h
  match k,h with
  | 0,_=>(show ∀ p∈(ZE.take 0).flatMap Z0E,¬ p.1.s=ZE[0]'(by decide));decide
  | 1,_=>(show ∀ p∈(ZE.take 1).flatMap Z0E,¬ p.1.s=ZE[1]'(by decide));decide
  | 2,_=>(show ∀ p∈(ZE.take 2).flatMap Z0E,¬ p.1.s=ZE[2]'(by decide));decide
  | 3,_=>(show ∀ p∈(ZE.take 3).flatMap Z0E,¬ p.1.s=ZE[3]'(by decide));decide
 refine W ?_;refine LP (σ:=Nat) (λk=>[(1,.I 1),(3,.I 3),(4,.map (some m)),(40,uv),(41,.I 4),(42,.I k)]) (λk w'=>k<=4/\Jq Z2T w' m (l++(ZE.take k).flatMap Z0E)/\Stp [m] w4 w') (λk=>4 - k) 0 ⟨by omega,by simpa using hl,Stp.refl _ _⟩ ?_;rintro k w5 ⟨hk,ap,ay⟩;have rn:SlV [m] w5 uv ZE:=hu.ext ay (by simp) (λb hb=>.inl hb);by_cases hlt:k<4;have gO:k<ZE.length:=hlt;have i8:∀ (t:Int),¬ t=5->¬ t=10->∀ p∈l++(ZE.take k).flatMap Z0E,¬ p.1=⟨t,ZE[k],3,1,0⟩:=by
  intro t h5 ec p iD e;rcases Xd.1 iD with h|h
  have:=i7 p h;rw [e] at this;rcases this with h|h
  exact h5 h;exact ec h;exact eB k gO p h (by rw [e])
 refine QO ?_;apply Za (vs:=[(0,.I 3),(1,.I 1)]) rfl (Z6w _ _) rfl;apply Za (vs:=[(0,.I 7),(1,str _),(2,Z7o _ _ _)]) rfl (Z4q _ _ _ _ _) rfl;refine W ?_;refine Zi (Z1j (a:=(⟨7,ZE[k],3,1,0⟩:Sig)) (v:=.I 3) rfl rfl rfl ap (i8 7 (by decide) (by decide))) ?_;rintro _ w6 ⟨oM,cx⟩;refine W ?_;apply Za (vs:=[(0,.I 3),(1,.I 1)]) rfl (Z6w _ _) rfl;apply Za (vs:=[(0,.I 8),(1,str _),(2,Z7o _ _ _)]) rfl (Z4q _ _ _ _ _) rfl;refine W ?_;refine Zi (Z1j (a:=(⟨8,ZE[k],3,1,0⟩:Sig)) (v:=.I 3) rfl rfl rfl oM (λp iD e=>by
  rcases Xd.1 iD with h|h
  exact i8 8 (by decide) (by decide) p h e;simp only [Xn] at h;subst h;simp at e)) ?_
 rintro _ w7 ⟨kV,aM⟩;refine W ?_;refine QL (k+1) ⟨by omega,?_,(ay.trans cx).trans aM⟩ (by omega);rw [Xw gO,Ya8];have e:l++((ZE.take k).flatMap Z0E++[ZE[k]].flatMap Z0E)=(l++(ZE.take k).flatMap Z0E++[((⟨7,ZE[k],3,1,0⟩:Sig),Value.int .i64 3)])++[((⟨8,ZE[k],3,1,0⟩:Sig),Value.int .i64 3)]:=by simp [Z0E]
 rw [e];exact kV;have cM:k=4:=by omega
 subst cM;refine RT ?_;exact ⟨m,_,rfl,ap,hp.append_right _,hS.ow ay,oL⟩
theorem Z4L (w):CC 282 #[] w λr w'=>∃ (m:Nat) (l:List Z8Q),r=.map (some m)/\Jq Z2T w' m l/\l.Perm Z1k/\Stp [] w w':=
 (Z1K w).mono (by
   rintro _ w' ⟨u,rfl,m,l,h1,h2,h3,h4,-⟩;exact ⟨u,rfl,m,l,h1,h2,h3,h4⟩)
def ZaX (x:Sig):Value:=Z1Q Z1k x (.I 0)
def Z0F (s:Str) (a b:Int):Int:=
 if s∈JK then (if a=b/\a=1 then 1 else 0) else if s∈Z0Q then (if a=b/\¬ a=2 then 2 else 0) else if s∈JF then (if a=b/\a=2 then 2 else 0) else 0
theorem Z8S (s:Str) (a b c:Int) (w):CC 281 #[str s,Z7o a b c] w λr w'=>r=.I (Z0F s a b)/\Stp [] w w':=by
 refine cW2 46 Tryz.func281 ?_;refine W ?_;refine Z1 (Zp rfl) rfl ?_;rintro _ w1 ⟨q,rfl,hq,ab,hS⟩;replace ab:Blk w1 q _ [.I a,.I b,.I c]:=ab;refine W ?_;by_cases hA:s∈JK
 . unfold Z0F
   rw [if_pos hA];simp only [JK,Xg,Xm,or_false] at hA;rcases hA with rfl|rfl|rfl
   all_goals (repeat'(first|refine W1 ?_|omega|refine VG ?_ ?_<;>intro hg|refine VC ?_ ?_<;>intro hc))
   all_goals (refine WR ?_)
   all_goals refine .mk ⟨?_,hS⟩
   all_goals first
    | rw [if_pos ⟨by assumption,by assumption⟩]
    | rw [if_neg (λh=>by omega)]
 by_cases hC:s∈Z0Q
 . unfold Z0F
   rw [if_neg hA,if_pos hC];simp only [Z0Q,Xg,Xm,or_false] at hC;rcases hC with rfl|rfl|rfl|rfl|rfl|rfl
   all_goals (repeat'(first|refine W1 ?_|omega|refine VG ?_ ?_<;>intro hg|refine VC ?_ ?_<;>intro hc))
   all_goals (refine WR ?_)
   all_goals refine .mk ⟨?_,hS⟩
   all_goals first
    | rw [show (if a=b/\¬ a=2 then (2:Int) else 0)=2 from if_pos (by omega)]
    | rw [show (if a=b/\¬ a=2 then (2:Int) else 0)=0 from if_neg (by omega)]
 by_cases hL:s∈JF
 . unfold Z0F
   rw [if_neg hA,if_neg hC,if_pos hL];simp only [JF,Xg,Xm,or_false] at hL;rcases hL with rfl|rfl
   all_goals (repeat'(first|refine W1 ?_|omega|refine VG ?_ ?_<;>intro hg|refine VC ?_ ?_<;>intro hc))
   all_goals (refine WR ?_)
   all_goals refine .mk ⟨?_,hS⟩
   all_goals first
    | rw [if_pos ⟨by assumption,by assumption⟩]
    | rw [if_neg (λh=>by omega)]
 unfold Z0F;rw [if_neg hA,if_neg hC,if_neg hL];simp only [JK,Z0Q,JF,Xg,Xm,or_false,not_or] at hA hC hL;obtain ⟨a1,a2,a3⟩:=hA;obtain ⟨b1,b2,b3,b4,b5,b6⟩:=hC;obtain ⟨c1,c2⟩:=hL;repeat'(first|refine W1 ?_|refine Z4m rfl (λhc=>absurd hc (by assumption)) (λhc=>?_))
 refine RU ?_;exact ⟨rfl,hS⟩
theorem _root_.Go.Eng.SlV.any {α:Type} [Z3 α] {X:List Nat} {w} {v:Value} {xs:List α} (h:SlV X w v xs):SlV [] w v xs:=h.ext (Stp.refl [] w) (by simp) (by simp)
theorem _root_.Go.Eng.SlV.new {α:Type} [Z3 α] {X:List Nat} {w w':World} {v:Value} {xs:List α} (h:SlV X w v xs) (hS:Stp [] w w') (b:Nat) (hb:w.heap.size<=b):SlV [b] w' v xs:=
 h.ext hS (by simp) (λc hc=>.inr (by simp at hc;omega))
theorem _root_.Go.Eng.SlV.on {α:Type} [Z3 α] {X S:List Nat} {w w':World} {v:Value} {xs:List α} (h:SlV X w v xs) (hS:Stp S w w') (hs:∀ b∈S,b∈X):SlV X w' v xs:=h.ext hS hs (λ_ h=>.inl h)
def Z1Y (x:Sig):Int:=match ZaX x with|.int _ z=>z|_=>0
theorem Z7q (x:Sig):ZaX x=.I (Z1Y x):=by
 have:∀ p∈Z1k,∃ z,p.2=Value.int .i64 z:=by
  intro p hp;simp only [Z1k,Z6x,ZE,Xz,X6,Ybd,Ybk,Z0E,XU,XH,XE,Xg,Xm,or_false,ent] at hp;rcases hp with rfl|rfl|rfl|rfl|rfl|rfl|rfl|rfl|rfl|rfl|rfl|rfl|rfl|rfl|rfl<;>exact ⟨_,rfl⟩
 unfold Z1Y ZaX Z1Q;cases h:Z1k.find? (λp=>decide (p.1=x)) with
 | none=>rfl
 | some p=>
   obtain ⟨z,hz⟩:=this p (XZ h);simp only [hz]
def J4 (k n:Int) (s:Str) (ts:List Int):Int:=
 if ts.length > 3 then 0 else if (0:Int)∈ts then 0 else if ts=[] then JV k n s else if ¬ n=0 then 0
 else if k=9/\s=[]/\ts.getD 0 0=2/\ts.getD 1 0=ts.getD 2 0 then ts.getD 1 0
 else if k=6/\ts.getD 2 0=0 then Z0F s (ts.getD 0 0) (ts.getD 1 0) else Z1Y ⟨k,s,ts.getD 0 0,ts.getD 1 0,ts.getD 2 0⟩
def Ze:Nd->Int
 | .mk k n s l=>J4 k n s (l.map Ze)
theorem JW (x:Nd):Ze x=J4 x.kind x.num x.word (x.kids.map Ze):=by
 cases x;rw [Ze];rfl
def Z8T (ts:List Int) (k:Nat):List Value:=[.I (if 0<k then ts.getD 0 0 else 0),.I (if 1<k then ts.getD 1 0 else 0),.I (if 2<k then ts.getD 2 0 else 0)]
theorem Zd4 (ts:List Int) (k:Nat) (hk:k<3):(Z8T ts k).set (0+k * 1) (.I (ts.getD k 0))=Z8T ts (k+1):=by
 match k,hk with
 | 0,_=>rfl
 | 1,_=>rfl
 | 2,_=>rfl
theorem Zd5 (ts:List Int) (k:Nat) (hk:k<3):(Z8T ts (k+1))[0+k * 1]?=some (.I (ts.getD k 0)):=by
 match k,hk with
 | 0,_=>rfl
 | 1,_=>rfl
 | 2,_=>rfl
theorem Zd6 (ts:List Int) (h:ts.length<=3):Z8T ts ts.length=[.I (ts.getD 0 0),.I (ts.getD 1 0),.I (ts.getD 2 0)]:=by
 match ts,h with
 | [],_=>rfl
 | [a],_=>rfl
 | [a,b],_=>rfl
 | [a,b,c],_=>rfl
theorem Zkh (x:Nd):∀ (X XF:List Nat) (v:Value) (w),NdV X w v x->SlV XF w Z1R Zb->
 CC 234 #[v] w λr w'=>r=.I (Ze x)/\Stp [] w w':=by
 induction x using Nd.ind with
 | h k n s l ih=>
 intro X XF v w hx hF;generalize gP:Nd.mk k n s l=x at *;have ih':∀ y∈x.kids,∀ (X XF:List Nat) (v:Value) (w:World),NdV X w v y->SlV XF w Z1R Zb->CC 234 #[v] w λr w'=>r=.I (Ze y)/\Stp [] w w':=by
  subst gP;exact ih
 clear ih gP k n s l;have kl:=hx;obtain ⟨kv,rfl,hs⟩:=hx;have aW:=hs.max;rw [JW];have ai:(x.kids.map Ze).length=x.kids.length:=by simp
 have aX:∀ k (h:k<x.kids.length),(x.kids.map Ze).getD k 0=Ze x.kids[k]:=λk h=>by simp [List.getD,h]
 generalize cY:x.kids.map Ze=ts at *;refine cW1 80 Tryz.func234 ?_;refine W ?_;refine Z1 (Zp rfl) rfl ?_;rintro _ w1 ⟨b,rfl,hb,ab,hS⟩;replace ab:Blk w1 b _ (ndC x kv):=ab;replace hs:=hs.up hS;replace hF:=hF.up hS;have hlt:=ab.lt;refine W ?_;refine Z1 Z9 rfl ?_;rintro _ w2 ⟨q,rfl,hq,be,ak⟩;replace be:Blk w2 q _ (Z8T ts 0):=be;replace ab:=ab.up ak;replace hs:=hs.new ak q hq;replace hF:=hF.new ak q hq;replace hS:=hS.trans ak;have rp:w.heap.size<=q:=Xl (Xl hb (Nat.le_of_lt hlt)) hq;have kW:¬ b=q:=by omega
 (refine QP ?_ ?_<;>intro hc)
 refine WR ?_;refine .mk ⟨?_,hS⟩;unfold J4;rw [if_pos (by omega)];have eC:x.kids.length<=3:=by omega
 refine Z0b (σ:=Unit) (λ_=>[(1,pQ b),(3,pQ q)]) (λ_ w'=>Stp [q] w2 w'/\Blk w' q 326 [.I (ts.getD 0 0),.I (ts.getD 1 0),.I (ts.getD 2 0)]/\¬ (0:Int)∈ts) ?_ ?_;have bU:=hs;have oN:=hF;refine LP (σ:=Nat) (λk=>[(1,pQ b),(3,pQ q),(11,kv),(12,.I (x.kids.length:Int)),(13,.I k)]) (λk w'=>k<=x.kids.length/\Stp [q] w2 w'/\Blk w' q 326 (Z8T ts k)/\¬ (0:Int)∈ts.take k) (λk=>x.kids.length - k) 0 ⟨Xo _,Stp.refl _ _,be,by simp⟩ ?_;clear hs hF be;rintro k w3 ⟨hk,aq,be,aR⟩;have hs:=bU.on aq (by simp);have hF:=oN.on aq (by simp);by_cases hlt:k<x.kids.length;have fX:k<3:=by omega
 have hg:=aX k hlt;have ja:=Zd4 ts k fX;have fx:=Zd5 ts k fX;rw [hg] at ja fx;obtain ⟨kv2,aJ,bz⟩:=hs.nd hlt;refine QO ?_;apply Zf (J9 rfl rfl hs hlt bz) rfl;refine Z1 Z9 rfl ?_;rintro _ w4 ⟨b4,rfl,bA,aV,aA⟩;have oO:=be.lt;replace be:=be.up aA;refine W ?_;refine SB (us:=ndC x.kids[k] kv2) (J6 aJ) aV ?_;rintro _ w5 ⟨ay,m5⟩;have rq:¬ b4=q:=by omega
 replace be:=be.ext ay (by simp;omega);have gQ:=aA.ow ay;replace aJ:=aJ.up gQ;replace hF:=hF.up gQ;refine W ?_;refine CL (ih' x.kids[k] (Xb hlt) _ _ _ _ ⟨kv2,rfl,aJ⟩ hF) ?_;rintro _ w6 ⟨rfl,cx⟩;replace be:=be.up cx;refine W ?_;refine Zi (Zs (u:=.I (Ze x.kids[k])) rfl rfl rfl rfl be (by simp [Z8T];omega)) ?_;rintro _ w7 ⟨aM,be⟩;rw [ja] at be;have jc:=((aq.trans gQ.mn).trans cx.mn).trans aM;have bY:ts.take (k+1)=ts.take k++[Ze x.kids[k]]:=by
  rw [Xw (by omega)];congr 2;subst cY;simp
 refine QO ?_;apply ZcW rfl rfl (be.cell fx) rfl
 (refine QP ?_ ?_<;>intro hc)
 refine WR ?_;have oP:Ze x.kids[k]=0:=hc;refine .mk ⟨?_,hS.ow jc⟩;unfold J4;rw [if_neg (by omega),if_pos];have:Ze x.kids[k]∈ts:=by
  subst cY;exact Yaj (Xb hlt)
 rwa [oP] at this
 refine QL (k+1) ⟨hlt,jc,be,?_⟩ (by omega);rw [bY,Xd];rintro (h|h);exact aR h;simp only [Xn] at h;exact hc h.symm;have cM:k=x.kids.length:=by omega
 subst cM;refine QO ?_;rw [<- ai,Zd6 ts (by omega)] at be;rw [<- ai,XG] at aR;exact QT () ⟨aq,be,aR⟩;rintro _ w3 ⟨aq,be,aR⟩;replace ab:=ab.ext aq (by simpa using kW);replace hF:=hF.on aq (by simp);replace hs:=hs.on aq (by simp);replace hS:=hS.ow aq;unfold J4;rw [if_neg (by omega),if_neg aR];by_cases h0:x.kids.length=0;rw [if_pos (X7.1 (by omega))];refine QO ?_;refine CL (Zd2 [q] _ x _ ⟨kv,rfl,hs⟩ hF.any) ?_;rintro _ w4 ⟨rfl,aA⟩;refine RT ?_;exact ⟨rfl,hS.trans aA⟩;rw [if_neg (λh=>h0 (by rw [<- ai,h];rfl))];clear aX cY;generalize ts.getD 0 0=a at *;generalize ts.getD 1 0=bb at *;generalize ts.getD 2 0=c at *;repeat'(first|refine W1 ?_|omega|refine VG ?_ ?_<;>intro hg|refine VC ?_ ?_<;>intro hc)
 refine RU ?_;exact ⟨by rw [if_pos (by assumption)],hS⟩;all_goals rw [if_neg (by assumption)]
 all_goals first
  | (have h9 : x.kind = 9 /\ x.word = [] /\ a = 2 /\ bb = c := ⟨by assumption, by assumption, by assumption, by assumption⟩
     rw [if_pos h9];refine RU ?_;exact ⟨rfl,hS⟩)
  | rw [show (if x.kind = 9 /\ x.word = [] /\ a = 2 /\ bb = c then bb else if x.kind = 6 /\ c = 0 then Z0F x.word a bb else Z1Y ⟨x.kind, x.word, a, bb, c⟩) = if x.kind = 6 /\ c = 0 then Z0F x.word a bb else Z1Y ⟨x.kind, x.word, a, bb, c⟩ from if_neg (λh => by
     obtain ⟨h1,h2,h3,h4⟩:=h;first|omega|contradiction)]
 all_goals first
  | (have h6 : x.kind = 6 /\ c = 0 := ⟨by assumption, by assumption⟩
     rw [if_pos h6];refine CL (Z8S x.word a bb c _) ?_;rintro _ w4 ⟨rfl,aA⟩;refine RT ?_;exact ⟨rfl,hS.trans aA⟩)
  | rw [show (if x.kind=6/\c=0 then Z0F x.word a bb else Z1Y ⟨x.kind,x.word,a,bb,c⟩)=Z1Y ⟨x.kind,x.word,a,bb,c⟩ from if_neg (λh=>by omega)]
 all_goals
  refine ZDr 9 [] [] [(1,0),(2,1),(3,0),(4,1),(5,1),(6,0),(0,2),(7,2),(8,0)] (λw1 ae=>?_);replace ab:=ab.up ae;replace be:=be.up ae;replace hS:=hS.trans ae;refine D ?_;apply Z0V;exact rfl;apply Z1g (vs:=[(0,.I _),(1,str _),(2,Z7o _ _ _)]);exact trivial;exact rfl;exact Z4q _ _ _ _ _;exact rfl;refine DC (Z4L _) (λ_ _ h=>h.choose_spec.choose_spec.2.2.2) ?_;rintro _ w5 ⟨m,ll,rfl,hm,hp,ay⟩;have ko:=Z7q ⟨x.kind,x.word,a,bb,c⟩;unfold ZaX at ko;rw [<- ZaW hp Z8R] at ko;refine Z7 rfl trivial (ZcV (Z2q (a:=(⟨x.kind,x.word,a,bb,c⟩:Sig)) rfl rfl hm)) (λ_ _ h=>h.2 ▸ Stp.refl _ _) rfl ?_;rintro _ _ ⟨rfl,rfl⟩;rw [ko];refine D ?_;refine RT ?_;exact ⟨rfl,hS.trans ay⟩
theorem Znh:∀ p∈Z1k,∃ z,p.2=Value.int .i64 z:=by
 intro p hp;simp only [Z1k,Z6x,ZE,Xz,X6,Ybd,Ybk,Z0E,XU,XH,XE,Xg,Xm,or_false,ent] at hp;rcases hp with rfl|rfl|rfl|rfl|rfl|rfl|rfl|rfl|rfl|rfl|rfl|rfl|rfl|rfl|rfl<;>exact ⟨_,rfl⟩
theorem ZaY {x:Sig} (h:¬ ∃ p∈Z1k,p.1=x):Z1Y x=0:=by
 unfold Z1Y ZaX Z1Q;have:Z1k.find? (λp=>decide (p.1=x))=none:=by
  rw [YaM];intro p hp;simpa using λe=>h ⟨p,hp,e⟩
 rw [this]
def Z17:List Str:=[[110,101,120,116],[112,114,101,118]]
def Z18:List Str:=[[108,97,116,101,114],[101,97,114,108,105,101,114]]
theorem Z8U:Z0t [110,101,120,116,32,112,114,101,118]=Z17:=by decide
theorem Z8V:Z0t [108,97,116,101,114,32,101,97,114,108,105,101,114]=Z18:=by decide
theorem Z7r:Z0t [100,97,121,115,32,119,101,101,107,115,32,109,111,110,116,104,115,32,99,111,117,114,116,100,97,121,115]=ZE:=by decide
theorem Z1A {s:Str} {l:List Str}:0<=idx (isS s) l↔s∈l:=by
 unfold idx;cases h:l.findIdx? (isS s) with
 | none=>
   rw [X9] at h;constructor;intro h0;simp at h0;intro hm;have:=h s hm;simp at this
 | some i=>
   obtain ⟨hi,hp,_⟩:=X3.1 h;constructor;intro _;have:l[i]=s:=by simpa using hp
   rw [<- this];exact Xb _;intro _;simp
def Z41 (s:Str) (l:List Int):Int:=
 if 0<=idx (isS s) Z17/\Ju l [3]=true then 3 else if 0<=idx (isS s) Z18/\Ju l [3,3]=true then 3 else if s=[98,101,116,119,101,101,110]/\Ju l [3,3]=true then 1 else 0
def Z2I (k n:Int) (s:Str) (ts:List Int):Int:=
 if ts=[] then JV k n s else if ¬ n=0 then 0
 else if k=5 then (if s=[45]/\Ju ts [1]=true\/s=[110,111,116]/\Ju ts [2]=true then ts.getD 0 0 else 0)
 else if k=6 then Z6u s ts
 else if k=7\/k=8 then (if 0<=idx (isS s) ZE/\Ju ts [3,1]=true then 3 else 0)
 else if k=9 then (if s=[]/\ts.length=3/\Ju ts [2,ts.getD 1 0,ts.getD 1 0]=true then ts.getD 1 0 else 0)
 else if k=10 then Z41 s ts else 0
theorem Z7s {l m:List Int}:Ju l m=true↔l=m/\∀ x∈l,x≠0:=by simp [Ju]
theorem Zaj {l m:List Int} (h:¬ (l=m/\∀ x∈l,x≠0)):Ju l m=false:=by simp [Ju];simpa using h
theorem ZaZ (k n:Int) (s:Str) (ts:List Int) (h0:¬ ts=[]) (hb:(0:Int)∈ts\/ts.length > 3):Z2I k n s ts=0:=by
 have aR:∀ m:List Int,m.length<=3->Ju ts m=false:=λm hm=>Zaj (λ⟨h1,h2⟩=>by
  rcases hb with hb|hb
  exact h2 0 hb rfl;rw [h1] at hb;omega)
 unfold Z2I Z6u Z41;simp only [aR _ (show [(1:Int)].length<=3 by decide),aR _ (show [(2:Int)].length<=3 by decide),aR _ (show [(3:Int)].length<=3 by decide),aR [1,1] (by decide),aR [3,3] (by decide),aR [2,2] (by decide),aR [3,1] (by decide),aR [2,ts.getD 1 0,ts.getD 1 0] (by simp),if_neg h0];simp
theorem Zg7 (s:Str) (a b:Int) (ha:a≠0) (hb:b≠0) (hr:1<=a/\a<=3) (ep:1<=b/\b<=3):Z6u s [a,b]=Z0F s a b:=by
 unfold Z6u Z0F;simp only [Z1A,Z7s];have e:∀ c d:Int,([a,b]=[c,d]/\∀ x∈[a,b],x≠0)↔(a=c/\b=d):=λc d=>by simp [ha,hb]
 simp only [e];by_cases hA:s∈JK;have hC:¬ s∈Z0Q:=by
  simp only [JK,Xg,Xm,or_false] at hA;rcases hA with rfl|rfl|rfl<;>decide
 have hL:¬ s∈JF:=by
  simp only [JK,Xg,Xm,or_false] at hA;rcases hA with rfl|rfl|rfl<;>decide
 simp only [hA,hC,hL,true_and,false_and,if_false,if_true];by_cases h1:a=1/\b=1;rw [if_pos h1,if_pos ⟨by omega,by omega⟩];rw [if_neg h1,if_neg (λh=>by omega)];simp only [hA,false_and,if_false];by_cases hC:s∈Z0Q;have hL:¬ s∈JF:=by
  simp only [Z0Q,Xg,Xm,or_false] at hC;rcases hC with rfl|rfl|rfl|rfl|rfl|rfl<;>decide
 simp only [hC,hL,true_and,false_and,if_false,if_true];by_cases h1:a=1/\b=1\/a=3/\b=3;rw [if_pos h1,if_pos ⟨by omega,by omega⟩];rw [if_neg h1,if_neg (λh=>by omega)];simp only [hC,false_and,if_false];by_cases hL:s∈JF;simp only [hL,true_and,if_true];by_cases h1:a=2/\b=2;rw [if_pos h1,if_pos ⟨by omega,by omega⟩];rw [if_neg h1,if_neg (λh=>by omega)];simp only [hL,false_and,if_false]
def Zd7:List Sig:=Z1k.map (·.1)
def Z8W (k:Int) (s:Str) (a b c:Int):Int:=
 if c=0 then
  if b=0 then (if k=5/\s=[45]/\a=1 then 1 else if k=5/\s=[110,111,116]/\a=2 then 2 else if k=10/\s∈Z17/\a=3 then 3 else 0)
  else if a=3/\b=3/\k=10/\s∈Z18 then 3 else if a=3/\b=3/\k=10/\s=[98,101,116,119,101,101,110] then 1 else if a=3/\b=1/\(k=7\/k=8)/\s∈ZE then 3 else 0
 else 0
theorem Zd8:∀ x∈Zd7,Z1Y x=Z8W x.kind x.s x.a x.b x.c:=by
 intro x hx;simp only [Zd7,Z1k,Z6x,ZE,Xz,X6,Ybd,Ybk,Z0E,XU,XH,XE,Xg,Xm,or_false,ent] at hx;rcases hx with rfl|rfl|rfl|rfl|rfl|rfl|rfl|rfl|rfl|rfl|rfl|rfl|rfl|rfl|rfl<;>decide
theorem Z4r (k:Int) (s:Str) (a b c:Int):Z1Y ⟨k,s,a,b,c⟩=Z8W k s a b c:=by
 by_cases hx:(⟨k,s,a,b,c⟩:Sig)∈Zd7;exact Zd8 _ hx;rw [ZaY (λ⟨p,hp,e⟩=>hx (e ▸ Yaj hp))];unfold Z8W;symm;split;rename_i hc;subst hc;split;rename_i hb;subst hb;split;rename_i h;obtain ⟨rfl,rfl,rfl⟩:=h;exact absurd (by decide) hx;split;rename_i h;obtain ⟨rfl,rfl,rfl⟩:=h;exact absurd (by decide) hx;split;rename_i h;obtain ⟨rfl,h,rfl⟩:=h;simp only [Z17,Xg,Xm,or_false] at h;rcases h with rfl|rfl<;>exact absurd (by decide) hx
 rfl;split;rename_i h;obtain ⟨rfl,rfl,rfl,h⟩:=h;simp only [Z18,Xg,Xm,or_false] at h;rcases h with rfl|rfl<;>exact absurd (by decide) hx
 split;rename_i h;obtain ⟨rfl,rfl,rfl,rfl⟩:=h;exact absurd (by decide) hx;split;rename_i h;obtain ⟨rfl,rfl,h1,h⟩:=h;simp only [ZE,Xg,Xm,or_false] at h;rcases h1 with rfl|rfl<;>rcases h with rfl|rfl|rfl|rfl<;>exact absurd (by decide) hx
 rfl;rfl
theorem Zni {a x:Int} (ha:a≠0):Ju [a] [x]=decide (a=x):=by simp [Ju,ha]
theorem Znj {a b x y:Int} (ha:a≠0) (hb:b≠0):Ju [a,b] [x,y]=decide (a=x/\b=y):=by simp [Ju,ha,hb]
theorem Znk {a b c x y z:Int} (ha:a≠0) (hb:b≠0) (hc:c≠0):Ju [a,b,c] [x,y,z]=decide (a=x/\b=y/\c=z):=by simp [Ju,ha,hb,hc]
theorem Jc {l m:List Int} (h:¬ l.length=m.length):Ju l m=false:=Zaj (λh'=>h (by rw [h'.1]))
theorem Zd9 (k n:Int) (s:Str) (ts:List Int) (hr:∀ t∈ts,0<=t/\t<=3):Z2I k n s ts=J4 k n s ts:=by
 by_cases h0:ts=[]
 subst h0;simp [Z2I,J4];by_cases hb:(0:Int)∈ts\/ts.length > 3;rw [ZaZ k n s ts h0 hb];unfold J4;rcases hb with hb|hb
 simp [hb];simp [show ts.length > 3 from hb];have hz:¬ (0:Int)∈ts:=λh=>hb (.inl h);have hl:¬ ts.length > 3:=λh=>hb (.inr h);unfold Z2I J4;rw [if_neg h0,if_neg hl,if_neg hz,if_neg h0];by_cases hn:¬ n=0;rw [if_pos hn,if_pos hn];rw [if_neg hn,if_neg hn]
 match ts,h0,hl with
 | [a], _, _=>
   have ha:a≠0:=λe=>hz (by simp [e])
   have m6:=hr a (by simp);simp only [Yak,Yal,List.getD_nil,Z4r,Z41,Z6u,Z1A,Zni ha,Jc (show ¬ [a].length=[(1:Int),1].length by simp),Jc (show ¬ [a].length=[(3:Int),3].length by simp),Jc (show ¬ [a].length=[(2:Int),2].length by simp),Jc (show ¬ [a].length=[(3:Int),1].length by simp),decide_eq_true_eq];have cZ:Z0F s a 0=0:=by
    unfold Z0F;have h1:¬ (a=0/\a=1):=λh=>ha h.1;have h2:¬ (a=0/\¬ a=2):=λh=>ha h.1;have h3:¬ (a=0/\a=2):=λh=>ha h.1;simp only [if_neg h1,if_neg h2,if_neg h3,ite_self]
   simp only [cZ,Z8W,Xh,Xj,Yaq,and_false,or_self,if_false]
   grind (splits:=40)
 | [a, b], _, _=>
   have ha:a≠0:=λe=>hz (by simp [e])
   have hb:b≠0:=λe=>hz (by simp [e])
   have m6:=hr a (by simp);have oQ:=hr b (by simp);simp only [Yak,Yal,List.getD_nil,Z4r,Z41,Zg7 s a b ha hb (by omega) (by omega),Z1A,Znj ha hb,Jc (show ¬ [a,b].length=[(1:Int)].length by simp),Jc (show ¬ [a,b].length=[(2:Int)].length by simp),Jc (show ¬ [a,b].length=[(3:Int)].length by simp),decide_eq_true_eq];simp only [Z8W,Xh,Xj,Yaq,and_false,or_self,if_false]
   grind (splits:=40)
 | [a, b, c], _, _=>
   have ha:a≠0:=λe=>hz (by simp [e])
   have hb:b≠0:=λe=>hz (by simp [e])
   have hc:c≠0:=λe=>hz (by simp [e])
   have m6:=hr a (by simp);have oQ:=hr b (by simp);have rt:=hr c (by simp);simp only [Yak,Yal,Z4r,Z41,Z6u,Z1A,Znk ha hb hc,Jc (show ¬ [a,b,c].length=[(1:Int)].length by simp),Jc (show ¬ [a,b,c].length=[(2:Int)].length by simp),Jc (show ¬ [a,b,c].length=[(3:Int)].length by simp),Jc (show ¬ [a,b,c].length=[(1:Int),1].length by simp),Jc (show ¬ [a,b,c].length=[(3:Int),3].length by simp),Jc (show ¬ [a,b,c].length=[(2:Int),2].length by simp),Jc (show ¬ [a,b,c].length=[(3:Int),1].length by simp),decide_eq_true_eq];simp only [Z8W,Xh,Xj,Yaq,and_false,or_self,if_false]
   grind (splits:=40)
 | _ :: _ :: _ :: _ :: _,_,hl=>exact absurd (by simp) hl
end Go.Proofs.YteibicnbkggiiaaGreatDoor
