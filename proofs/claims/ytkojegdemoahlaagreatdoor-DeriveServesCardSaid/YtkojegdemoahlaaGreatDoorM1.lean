/-
Contracts and plain laws, merged out of own texts.
-/
import Derived.WalkKit
import Derived.WalkSpells
import Derived.WalkLawsBesides
import Derived.Shelf.Abstract
import Derived.Orders
import Derived.Laws.StructEq
import Derived.Laws.Small
import Derived.Laws.RangeString
import Derived.Laws.RangeAny
import Derived.Lib.AppendZeros
import Derived.Laws.OwnMore
import Derived.Deep.Slices
import Derived.Deep.Fields
import Derived.ChangeSame
import Derived.Below
import Derived.Carry
import Derived.ChangeOld
import Derived.ProofKit
import Derived.OpenShut
import Derived.SizedLaws
import Derived.HandedShaped
import Derived.LaidMore
import Derived.Stop.Joined
import Derived.SevenTiedAt
import Derived.MakeChecks
import Derived.Lib.ConvBytes
import Derived.Laws.AppendOwn
import Derived.Laws.BitsAllLaws
import Derived.Laws.Bits64
import Derived.Lib.SlBytesRow
import Derived.Lib.AppendStr
import Derived.Laws.BytesArg
import Derived.Laws.Cover3
import Derived.Great.BuildSlice
import Derived.MapKept
set_option linter.unusedVariables false
set_option linter.unusedSimpArgs false
set_option maxHeartbeats 4000000
set_option maxRecDepth 20000
namespace Go
abbrev Xa:=@Bool.and_eq_true
abbrev Xb:=@Nat.le_of_ble_eq_true
abbrev Xc:=@List.getElem_mem
abbrev Xd:=@List.mem_cons
abbrev Xe:=@List.length_append
abbrev Xf:=@List.take_succ_eq_append_getElem
abbrev Xg:=@List.mem_append
abbrev Xh:=@Option.some.injEq
abbrev Xi:=@Array.getElem?_eq_some_iff
abbrev Xj:=@Nat.lt_of_lt_of_le
abbrev Xk:=@Nat.eq_of_beq_eq_true
abbrev Xl:=@Nat.le_trans
abbrev Xm:=@Nat.le_refl
abbrev Xn:=@List.getElem?_eq_some_iff
abbrev Xo:=@List.length_cons
abbrev Xp:=@List.not_mem_nil
abbrev Xq:=@List.getElem_of_mem
abbrev Xr:=@List.length_nil
abbrev Xs:=@List.take_length
abbrev Xt:=@Nat.mul_le_mul_right
abbrev Xu:=@Nat.zero_le
abbrev Xv:=@List.length_take
abbrev Xw:=@List.mem_singleton
abbrev Xx:=@Nat.sub_lt_sub_left
abbrev Xy:=@List.take_append_drop
abbrev Xz:=@Array.getD_eq_getD_getElem?
abbrev XA:=@List.append_assoc
abbrev XB:=@Option.map_eq_some_iff
abbrev XC:=@Nat.not_lt_zero
abbrev XD:=@Nat.lt_succ_self
abbrev XE:=@List.mem_map
abbrev XG:=@Prod.mk.injEq
abbrev XH:=@List.take_of_length_le
abbrev XI:=@List.length_map
abbrev XJ:=@List.append_nil
abbrev XK:=@Array.length_toList
abbrev XL:=@List.map_append
abbrev XM:=@List.nil_append
abbrev XN:=@List.getElem?_eq_getElem
abbrev XO:=@Nat.zero_add
abbrev XP:=@List.foldl_cons
abbrev XQ:=@List.map_cons
abbrev XR:=@List.length_filter_le
abbrev XS:=@List.all_eq_true
abbrev XT:=@List.filter_append
abbrev XU:=@Option.some.inj
abbrev XV:=@Nat.ble_eq_true_of_le
abbrev XW:=@Array.toArray_toList
abbrev XX:=@Array.getElem?_append_left
abbrev XY:=@Option.bind_eq_some_iff
abbrev XZ:=@List.size_toArray
abbrev X0:=@List.mem_cons_of_mem
abbrev X1:=@Option.isSome_iff_exists
abbrev X2:=@List.mem_filter
abbrev X3:=@List.length_eq_zero_iff
abbrev X4:=@List.length_drop
abbrev X5:=@List.drop_eq_getElem_cons
abbrev X6:=@List.pairwise_cons
abbrev X7:=@Nat.min_eq_left
abbrev X8:=@List.findIdx?_eq_some_iff_getElem
abbrev X9:=@List.cons_append
abbrev Yaa:=@Nat.succ_mul
abbrev Yab:=@List.getElem?_take
abbrev Yac:=@List.length_set
abbrev Yad:=@List.map_map
abbrev Yae:=@List.getElem?_append_left
abbrev Yaf:=@List.getElem_append_right
abbrev Yag:=@List.getElem?_map
abbrev Yah:=@List.take_take
abbrev Yai:=@List.flatten_cons
abbrev Yaj:=@List.map_nil
abbrev Yak:=@List.Perm.append_right
abbrev Yal:=@Int.toNat_of_nonneg
abbrev Yam:=@List.findIdx?_eq_none_iff
abbrev Yan:=@List.mem_of_find?_eq_some
abbrev Yao:=@List.getElem_set_self
abbrev Yap:=@List.eq_nil_or_concat
abbrev Yaq:=@List.concat_eq_append
abbrev Yar:=@List.find?_eq_none
abbrev Yas:=@List.drop_length
abbrev Yat:=@List.getElem_append_left
abbrev Yau:=@List.eq_nil_of_length_eq_zero
abbrev Yav:=@List.take_append_of_le_length
abbrev Yaw:=@List.flatMap_append
abbrev Yax:=@List.drop_eq_nil_of_le
abbrev Yay:=@Option.bind_some
abbrev Yaz:=@List.getElem?_append_right
abbrev YaA:=@List.Perm.refl
abbrev YaB:=@List.mem_cons_self
abbrev YaC:=@List.getD_eq_getElem?_getD
abbrev YaD:=@List.perm_append_singleton
abbrev YaE:=@Bool.beq_eq_decide_eq
abbrev YaF:=@Array.getElem?_toList
abbrev YaG:=@List.dropLast_eq_take
abbrev YaH:=@List.set_eq_take_append_cons_drop
abbrev YaI:=@List.pairwise_iff_getElem
abbrev YaJ:=@List.take_left'
abbrev YaK:=@List.mem_of_mem_take
abbrev YaL:=@List.pairwise_append
abbrev YaM:=@Nat.lt_of_succ_le
abbrev YaN:=@Array.getElem?_setIfInBounds_ne
abbrev YaO:=@List.getElem_set_ne
abbrev YaP:=@List.filter_eq_self
abbrev YaQ:=@List.take_append
abbrev YaR:=@List.find?_eq_some_iff_getElem
abbrev YaS:=@List.filter_cons_of_pos
abbrev YaT:=@List.filter_cons_of_neg
abbrev YaU:=@List.ext_getElem
abbrev YaV:=@List.any_eq_true
abbrev YaW:=@Nat.mul_one
abbrev YaX:=@Int.emod_lt_of_pos
abbrev YaY:=@Nat.add_zero
abbrev YaZ:=@Array.getElem?_eq_none
abbrev Ya0:=@Nat.not_lt
abbrev Ya1:=@List.mem_replicate
abbrev Ya2:=@List.range_succ
abbrev Ya3:=@List.length_replicate
abbrev Ya4:=@Array.getElem?_modify
abbrev Ya5:=@List.set_getElem_self
abbrev Ya6:=@List.foldl_append
abbrev Ya7:=@Int.le_refl
abbrev Ya8:=@Nat.le_of_mul_le_mul_right
abbrev Ya9:=@Nat.mul_le_mul
abbrev Yba:=@Nat.le_of_not_lt
abbrev Ybb:=@List.map_toArray
abbrev Ybc:=@List.perm_middle
abbrev Ybd:=@List.mem_flatMap
abbrev Ybe:=@List.replicate_succ
abbrev Ybf:=@List.map_congr_left
abbrev Ybg:=@List.getElem?_take_of_lt
abbrev Ybh:=@Int.emod_nonneg
abbrev Ybi:=@Bool.eq_iff_iff
abbrev Ybj:=@Option.map_some
abbrev Ybk:=@Bool.false_eq_true
abbrev Ybl:=@List.findIdx?_cons
abbrev Ybm:=@List.getElem?_drop
abbrev Ybn:=@Nat.mul_comm
abbrev Ybo:=@Int.toNat_natCast
abbrev Ybp:=@List.flatMap_cons
abbrev Ybq:=@List.mem_range
abbrev Ybr:=@List.length_eq_one_iff
abbrev Ybs:=@List.filter_eq_nil_iff
abbrev Ybt:=@List.length_singleton
abbrev Ybu:=@List.length_mergeSort
abbrev Ybv:=@List.flatMap_def
abbrev Ybw:=@Option.getD_some
abbrev Ybx:=@List.getElem_map
abbrev Yby:=@List.mem_append_left
abbrev Ybz:=@Nat.div_add_mod
abbrev YbA:=@Bool.or_eq_true
abbrev YbB:=@List.length_pos_iff
abbrev YbC:=@Nat.lt_or_ge
abbrev YbD:=@Nat.lt_of_le_of_lt
abbrev YbE:=@Nat.pos_of_ne_zero
abbrev YbF:=@Nat.eq_zero_or_pos
abbrev YbG:=@List.getElem_take
abbrev YbH:=@Bool.not_eq_true'
abbrev YbI:=@Bool.eq_false_iff
abbrev YbJ:=@Nat.add_assoc
abbrev YbK:=@Nat.lt_irrefl
abbrev YbL:=@Bool.false_or
abbrev YbM:=@Bool.true_and
abbrev YbN:=@List.map_set
abbrev YbO:=@List.set_append
abbrev YbP:=@List.find?_some
abbrev YbQ:=@Int.natCast_add
abbrev YbR:=@List.drop_zero
abbrev YbS:=@Nat.add_mul
abbrev YbT:=@List.drop_take
abbrev YbU:=@Bool.and_false
abbrev YbV:=@Nat.le_succ
abbrev YbW:=@List.drop_drop
end Go
namespace Go.Eng
open Go Go.RowKit Go.Proofs
abbrev Env:=List (Nat×Value)
def look:Env->Nat->Option Value
 | [],_=>none
 | (k,v) :: r,t=>bif Nat.beq k t then some v else look r t
def ev (e:Env):Operand->Option Value
 | .tmp t=>look e t
 | .const v=>some v
 | .global g=>some (.pointer (some ⟨g,0,none⟩))
 | .func f=>some (.func (.func f) #[] #[])
structure Has (n:Nat) (e:Env) (a:Act):Prop where
 defers:a.defers=[]
 size:a.tmps.size=n
 vals:∀ t v,look e t=some v->a.tmps.getD t undef=v
section basics
variable {n:Nat} {e:Env} {a:Act}
theorem Has.ev {x:Operand} {v:Value} (h:Has n e a) (hx:ev e x=some v):a.eval x=v:=by
 cases x with
 | tmp t=>exact h.vals t v hx
 | const c=>simpa [Eng.ev,Act.eval] using hx
 | global g=>simpa [Eng.ev,Act.eval] using hx
 | func f=>simpa [Eng.ev,Act.eval] using hx
theorem Zb (d:Nat) (v:Value) (e:Env) (t:Nat):look ((d,v) :: e) t=if d=t then some v else look e t:=by
 simp only [look];by_cases h:d=t;subst h;simp
 . have:Nat.beq d t=false:=by
    cases hb:Nat.beq d t with
    | false=>rfl
    | true=>exact absurd (Xk hb) h
   simp [this,h]
theorem Has.put {d:Nat} {v:Value} (h:Has n e a) (hd:Nat.blt d n=true):Has n ((d,v) :: e) (a.put (some d) v):=by
 have ah:d<a.tmps.size:=by rw [h.size];exact Xb hd
 refine ⟨h.defers,by simp [Act.put,h.size],λt u hu=>?_⟩;rw [Zb] at hu;simp only [Act.put];by_cases iJ:d=t;subst iJ;simp at hu;subst hu;simp [ah];rw [if_neg iJ] at hu;have:=h.vals t u hu;simpa [YaN iJ] using this
theorem Has.weak {e':Env} (h:Has n e a) (hs:∀ t v,look e' t=some v->look e t=some v):Has n e' a:=
 ⟨h.defers,h.size,λt v hv=>h.vals t v (hs t v hv)⟩
def Sub:Env->Env->Prop
 | [],_=>True
 | (k,v) :: r,e=>look e k=some v/\Sub r e
theorem Sub.look {e' e:Env} (h:Sub e' e):∀ t v,Eng.look e' t=some v->Eng.look e t=some v:=by
 induction e' with
 | nil=>intro t v hv;simp [Eng.look] at hv
 | cons p r ih=>
   intro t v hv;obtain ⟨d,u⟩:=p;rw [Zb] at hv;by_cases hd:d=t;subst hd;simp at hv;subst hv;exact h.1;rw [if_neg hd] at hv;exact ih h.2 t v hv
theorem Has.sub {e':Env} (h:Has n e a) (hs:Sub e' e):Has n e' a:=h.weak hs.look
end basics
section judge
variable (P:Program) (n:Nat)
structure WQ (n:Nat) (Q:Exit->Act->World->Prop) (x:Exit) (e:Env) (w:World):Prop where
 h:∀ a,Has n e a->Q x a w
structure WC (c:Code) (Q:Exit->Act->World->Prop) (e:Env) (w:World):Prop where
 h:∀ a,Has n e a->c.wp P Q a w
structure WL (ops:Array Oper) (Q:Exit->Act->World->Prop) (l:List Oper) (e:Env) (w:World):Prop where
 h:∀ a,Has n e a->wpList P ops Q l a w
end judge
section rules
variable {P:Program} {n:Nat} {Q:Exit->Act->World->Prop} {e:Env} {w:World} {ops:Array Oper} {rest:List Oper}
theorem Z2J {x y:Code} (h:WC P n x (Exit.then (λa w=>y.wp P Q a w) Q) e w):WC P n (x.seq y) Q e w:=
 ⟨λa ha=>wp_seq (h.h a ha)⟩
theorem Z2g {y:Code} (h:WC P n y Q e w):WQ n (Exit.then (λa w=>y.wp P Q a w) Q) .normal e w:=⟨λa ha=>h.h a ha⟩
theorem Z0d {N:Act->World->Prop} (h:WQ n Q .ret e w):WQ n (Exit.then N Q) .ret e w:=⟨λa ha=>h.h a ha⟩
theorem Zn {N:Act->World->Prop} {i:Nat} (h:WQ n Q (.exit i) e w):WQ n (Exit.then N Q) (.exit i) e w:=⟨λa ha=>h.h a ha⟩
theorem ZL {i:Nat} (h:WQ n Q .normal e w):WQ n (Exit.inBlock i Q) .normal e w:=⟨λa ha=>h.h a ha⟩
theorem Z6k {i:Nat} (h:WQ n Q .ret e w):WQ n (Exit.inBlock i Q) .ret e w:=⟨λa ha=>h.h a ha⟩
theorem Ze {i:Nat} (h:WQ n Q .normal e w):WQ n (Exit.inBlock i Q) (.exit i) e w:=by
 refine ⟨λa ha=>?_⟩;simp only [Exit.inBlock,if_true];exact h.h a ha
theorem Zo {i j:Nat} (bN:Nat.beq i j=false) (h:WQ n Q (.exit i) e w):WQ n (Exit.inBlock j Q) (.exit i) e w:=by
 refine ⟨λa ha=>?_⟩;simp only [Exit.inBlock];rw [if_neg (Nat.ne_of_beq_eq_false bN)];exact h.h a ha
theorem Z4v (h:WQ n Q .normal e w):WC P n .skip Q e w:=⟨λa ha=>wp_skip (h.h a ha)⟩
theorem Z4F (h:WQ n Q .ret e w):WC P n .ret Q e w:=⟨λa ha=>wp_ret (h.h a ha)⟩
theorem Zf7 {i:Nat} (h:WQ n Q (.exit i) e w):WC P n (.exit i) Q e w:=⟨λa ha=>wp_exit (h.h a ha)⟩
theorem Zc2 {i:Nat} {c:Code} (h:WC P n c (Exit.inBlock i Q) e w):WC P n (.block i c) Q e w:=⟨λa ha=>wp_block (h.h a ha)⟩
theorem Z0u {c:Operand} {x y:Code} (hc:ev e c=some (.bool true)) (h:WC P n x Q e w):WC P n (.cond c x y) Q e w:=
 ⟨λa ha=>wp_cond_true (ha.ev hc) (h.h a ha)⟩
theorem Z0a {c:Operand} {x y:Code} (hc:ev e c=some (.bool false)) (h:WC P n y Q e w):WC P n (.cond c x y) Q e w:=
 ⟨λa ha=>wp_cond_false (ha.ev hc) (h.h a ha)⟩
theorem Z6l {c:Operand} {x y:Code} {p:Prop} [Decidable p] (hc:ev e c=some (.bool (decide p))) (ht:p->WC P n x Q e w) (hf:¬ p->WC P n y Q e w):WC P n (.cond c x y) Q e w:=
 ⟨λa ha=>wp_cond_split (ha.ev hc) (λh=>(ht (of_decide_eq_true h)).h a ha) (λh=>(hf (of_decide_eq_false h)).h a ha)⟩
theorem Z7i {c:Operand} {x y:Code} {t:Bool} (hc:ev e c=some (.bool t)) (ht:t=true->WC P n x Q e w) (hf:t=false->WC P n y Q e w):WC P n (.cond c x y) Q e w:=
 ⟨λa ha=>wp_cond_split (ha.ev hc) (λh=>(ht h).h a ha) (λh=>(hf h).h a ha)⟩
theorem Z0D {id:Nat} {l:List Oper} (h:WL P n l.toArray Q l e w):WC P n (.region id l.toArray false) Q e w:=
 ⟨λa ha=>wp_region_lit (h.h a ha)⟩
theorem Z3E (h:WQ n Q .normal e w):WL P n ops Q [] e w:=⟨λa ha=>wpList_nil (h.h a ha)⟩
theorem Zf8 {c:Code} (e':Env) (hs:Sub e' e) (h:WC P n c Q e' w):WC P n c Q e w:=⟨λa ha=>h.h a (ha.sub hs)⟩
theorem Zf9 {x:Exit} (e':Env) (hs:Sub e' e) (h:WQ n Q x e' w):WQ n Q x e w:=⟨λa ha=>h.h a (ha.sub hs)⟩
theorem Z4G {x y:Code} {σ:Type} (env:σ->Env) (I:σ->World->Prop)
 (h:WC P n x (Exit.then (λa w=>∃ s,Has n (env s) a/\I s w) Q) e w) (k:∀ s w,I s w->WC P n y Q (env s) w):WC P n (x.seq y) Q e w:=
 ⟨λa ha => wp_seq (wp_mono (h.h a ha) (λex a w hq => by
   cases ex with
   | normal=>obtain ⟨s,h1,h2⟩:=hq;exact (k s w h2).h a h1
   | _=>exact hq))⟩
theorem Z0v {x y:Code} {σ:Type} (env:σ->Env) (I:σ->World->Prop)
 (h:WC P n x (Exit.then (λa w=>∃ s,Has n (env s) a/\I s w) Q) e w) (k:∀ s w,I s w->WC P n y Q (env s) w):WC P n x (Exit.then (λa w=>y.wp P Q a w) Q) e w:=
 ⟨λa ha => wp_mono (h.h a ha) (λex a w hq => by
   cases ex with
   | normal=>obtain ⟨s,h1,h2⟩:=hq;exact (k s w h2).h a h1
   | _=>exact hq)⟩
theorem Z2h {x y:Code} {σ:Type} {i:Nat} (env:σ->Env) (I:σ->World->Prop)
 (h:WC P n x (Exit.inBlock i (Exit.then (λa w=>∃ s,Has n (env s) a/\I s w) Q)) e w) (k:∀ s w,I s w->WC P n y Q (env s) w):WC P n x (Exit.inBlock i (Exit.then (λa w=>y.wp P Q a w) Q)) e w:=
 ⟨λa ha => wp_mono (h.h a ha) (λex a w hq => by
   cases ex with
   | normal=>obtain ⟨s,h1,h2⟩:=hq;exact (k s w h2).h a h1
   | exit j=>
     simp only [Exit.inBlock] at hq ⊢;split;rename_i hj;rw [if_pos hj] at hq;obtain ⟨s,h1,h2⟩:=hq;exact (k s w h2).h a h1;rename_i hj;rw [if_neg hj] at hq;exact hq
   | _=>exact hq)⟩
theorem Zt {σ:Type} {env:σ->Env} {I:σ->World->Prop} (s:σ) (hs:Sub (env s) e) (hI:I s w):WQ n (Exit.then (λa w=>∃ s,Has n (env s) a/\I s w) Q) .normal e w:=
 ⟨λa ha=>⟨s,ha.sub hs,hI⟩⟩
theorem Zr {c:Code} {σ:Type} (env:σ->Env) (I:σ->World->Prop) (μ:σ->Nat) (dh:σ) (hs:Sub (env dh) e) (hI:I dh w)
 (round:∀ s w,I s w->WC P n c (Exit.then (λa' w'=>∃ s',Has n (env s') a'/\I s' w'/\μ s' < μ s) Q) (env s) w):WC P n (.loop c) Q e w:=by
 refine ⟨λa ha=>?_⟩;have key:∀ (k:Nat) (s:σ) (a:Act) (w:World),μ s<=k->Has n (env s) a->I s w->(Code.loop c).wp P Q a w:=by
  intro k s a w _ h1 h2;refine wp_loop (λa' w'=>∃ s',Has n (env s') a'/\I s' w') (λa' w'=>Classical.epsilon (λm=>∃ s',Has n (env s') a'/\I s' w'/\μ s'=m/\∀ s'',Has n (env s'') a'->I s'' w'->m<=μ s'')) ⟨s,h1,h2⟩ ?_;intro a w ⟨s',jc,gO⟩;have fZ:∀ a w,(∃ s',Has n (env s') a/\I s' w)->∃ m,∃ s',Has n (env s') a/\I s' w/\μ s'=m/\∀ s'',Has n (env s'') a->I s'' w->m<=μ s'':=by
   intro a w ⟨s',jc,gO⟩;have:∀ m,∀ s',μ s'=m->Has n (env s') a->I s' w->∃ m,∃ s',Has n (env s') a/\I s' w/\μ s'=m/\∀ s'',Has n (env s'') a->I s'' w->m<=μ s'':=by
    intro m
    induction m using Nat.strongRecOn with
    | _ m ih=>
      intro s' hm h1 h2;by_cases jd:∀ s'',Has n (env s'') a->I s'' w->m<=μ s'';exact ⟨m,s',h1,h2,hm,jd⟩;have:∃ s'',Has n (env s'') a/\I s'' w/\μ s''<m:=by
       refine Classical.byContradiction λbO=>jd λs'' h1 h2=>?_;exact Yba λah=>bO ⟨s'',h1,h2,ah⟩
      obtain ⟨s'',jc,gO,ah⟩:=this;exact ih _ ah s'' rfl jc gO
   exact this _ s' rfl jc gO
  obtain ⟨s₁,g1,g2,g3,g4⟩:=Classical.epsilon_spec (fZ a w ⟨s',jc,gO⟩);have hr:=(round s₁ w g2).h a g1;refine wp_mono hr (λex a' w' hq=>?_);cases ex with
  | normal=>
    obtain ⟨s₂,k1,k2,k3⟩:=hq;refine ⟨⟨s₂,k1,k2⟩,?_⟩;obtain ⟨s₃,m1,m2,m3,m4⟩:=Classical.epsilon_spec (fZ a' w' ⟨s₂,k1,k2⟩);have:=m4 s₂ k1 k2;rw [g3] at k3;exact YbD this k3
  | _=>exact hq
 exact key (μ dh) dh a w (Xm _) (ha.sub hs) hI
theorem J3 {σ:Type} {env:σ->Env} {I:σ->World->Prop} {μ:σ->Nat} {m:Nat} (s:σ) (hs:Sub (env s) e) (hI:I s w) (hm:μ s<m) :
 WQ n (Exit.then (λa w=>∃ s,Has n (env s) a/\I s w/\μ s<m) Q) .normal e w:=
 ⟨λa ha=>⟨s,ha.sub hs,hI,hm⟩⟩
structure PR (P:Program) (n:Nat) (o:Oper) (e:Env) (w:World) (v:Value):Prop where
 h:∀ a,Has n e a->(execOp a.eval o).run P w=.ok (.value v) w
theorem Z7 {d:Nat} {op:Op} {ty:TypeId} {pos:String} {af:Array Edge} {v:Value} (hp:PR P n ⟨some d,op,ty,pos,af,none⟩ e w v) (hd:Nat.blt d n=true)
 (k:WL P n ops Q rest ((d,v) :: e) w):WL P n ops Q (⟨some d,op,ty,pos,af,none⟩ :: rest) e w:=by
 refine ⟨λa ha=>?_⟩;refine wpList_plain rfl (λK hK=>?_);unfold Oper.wp;rw [hp.h a ha];exact hK _ _ ((k).h _ (ha.put hd))
structure OE (P:Program) (n:Nat) (o:Oper) (e:Env) (w:World) (G:Value->World->Prop):Prop where
 h:∀ a,Has n e a->∀ (Q:Exit->Act->World->Prop),o.wp P a w (λa' w'=>∃ v,a'=a.put o.dst v/\G v w') Q
theorem Z0 {d:Nat} {op:Op} {ty:TypeId} {pos:String} {af:Array Edge} {G:Value->World->Prop} (hp:OE P n ⟨some d,op,ty,pos,af,none⟩ e w G) (hd:Nat.blt d n=true)
 (k:∀ v w',G v w'->WL P n ops Q rest ((d,v) :: e) w'):WL P n ops Q (⟨some d,op,ty,pos,af,none⟩ :: rest) e w:=by
 refine ⟨λa ha=>?_⟩;refine wpList_plain rfl (λK hK=>?_);refine Oper.wp_mono ?_ (hp.h a ha Q);rintro a' w' ⟨v,rfl,hg⟩;exact hK _ _ ((k v w' hg).h _ (ha.put hd))
theorem Z5 {op:Op} {ty:TypeId} {pos:String} {af:Array Edge} {G:Value->World->Prop} (hp:OE P n ⟨none,op,ty,pos,af,none⟩ e w G)
 (k:∀ v w',G v w'->WL P n ops Q rest e w'):WL P n ops Q (⟨none,op,ty,pos,af,none⟩ :: rest) e w:=by
 refine ⟨λa ha=>?_⟩;refine wpList_plain rfl (λK hK=>?_);refine Oper.wp_mono ?_ (hp.h a ha Q);rintro a' w' ⟨v,rfl,hg⟩;exact hK _ _ ((k v w' hg).h _ ha)
def yld (ops:Array Oper) (e:Env) (j:Nat):Option Value:=((ops[j]?).bind (·.dst)).bind (look e)
theorem Z4H {ops:Array Oper} {a:Act} {j:Nat} {b:Bool} (ha:Has n e a) (h:yld ops e j=some (.bool b)):yielded ops a.tmps j=some b:=by
 unfold yld at h;unfold yielded;cases hd:(ops[j]?).bind (·.dst) with
 | none=>rw [hd] at h;simp at h
 | some d=>
   rw [hd] at h;have:=ha.vals d _ h;simp only [Xz] at this;simp only [Yay];cases hx:a.tmps[d]? with
   | none=>rw [hx] at this;simp [undef] at this
   | some u=>rw [hx] at this;simp at this;subst this;simp
theorem Zir {d:Option Nat} {op:Op} {ty:TypeId} {pos:String} {af:Array Edge} {j:Nat} {b:Bool} (hy:yld ops e j=some (.bool b))
 (k:WL P n ops Q (⟨d,op,ty,pos,af,none⟩ :: rest) e w):WL P n ops Q (⟨d,op,ty,pos,af,some (j,b)⟩ :: rest) e w:=by
 refine ⟨λa ha=>?_⟩;have hk:=k.h a ha;have hw:Region.wanted ⟨d,op,ty,pos,af,some (j,b)⟩ (yielded ops a.tmps)=true:=by simp [Region.wanted,Z4H ha hy]
 unfold wpList at hk ⊢;rw [if_pos hw];rw [if_pos (by simp [Region.wanted])] at hk;exact hk
def ZiI:Value->Bool->Bool
 | .bool c,b=>c != b
 | _,_=>true
def noB (ops:Array Oper) (e:Env):Option (Nat×Bool)->Bool
 | none=>false
 | some (j, b) => match yld ops e j with
   | some u=>ZiI u b
   | none=>false
theorem Z0G {ops:Array Oper} {a:Act} {o:Oper} (ha:Has n e a) (h:noB ops e o.guard=true):Region.wanted o (yielded ops a.tmps)=false:=by
 unfold Region.wanted;cases hg:o.guard with
 | none=>rw [hg] at h;cases h
 | some jb=>
   obtain ⟨j,b⟩:=jb;rw [hg] at h;simp only [noB] at h;cases hy:yld ops e j with
   | none=>rw [hy] at h;cases h
   | some u=>
     rw [hy] at h;unfold yld at hy;show (yielded ops a.tmps j == some b)=false;unfold yielded;cases hd:(ops[j]?).bind (·.dst) with
     | none=>rw [hd] at hy;simp at hy
     | some d=>
       rw [hd] at hy;simp only [Yay] at hy;have:=ha.vals d _ hy;simp only [Xz] at this;simp only [Yay];cases hx:a.tmps[d]? with
       | none=>rfl
       | some z=>
         rw [hx] at this;simp at this;subst this;cases z<;>first|rfl|(simp only [ZiI] at h;cases b<;>simp_all)
theorem Z9Z {d:Nat} {op:Op} {ty:TypeId} {pos:String} {af:Array Edge} {j:Nat} {b:Bool} (hy:noB ops e (some (j,b))=true) (hd:Nat.blt d n=true)
 (k:WL P n ops Q rest ((d,undef) :: e) w):WL P n ops Q (⟨some d,op,ty,pos,af,some (j,b)⟩ :: rest) e w:=by
 refine ⟨λa ha=>?_⟩;have hw:Region.wanted ⟨some d,op,ty,pos,af,some (j,b)⟩ (yielded ops a.tmps)=false:=Z0G ha hy;unfold wpList;rw [if_neg (by simp [hw])];exact k.h _ (ha.put hd)
theorem Zc3 {op:Op} {ty:TypeId} {pos:String} {af:Array Edge} {j:Nat} {b:Bool} (hy:noB ops e (some (j,b))=true)
 (k:WL P n ops Q rest e w):WL P n ops Q (⟨none,op,ty,pos,af,some (j,b)⟩ :: rest) e w:=by
 refine ⟨λa ha=>?_⟩;have hw:Region.wanted ⟨none,op,ty,pos,af,some (j,b)⟩ (yielded ops a.tmps)=false:=Z0G ha hy;unfold wpList;rw [if_neg (by simp [hw])];exact k.h _ ha
def Za0 (ops:Array Oper) (j:Nat):Option Nat:=(ops[j]?).bind (·.dst)
theorem Has.same {a:Act} {d:Nat} {u v:Value} (ha:Has n e a) (h:look e d=some u) (pH:u=v):Has n ((d,v) :: e) a:=by
 subst pH;refine ⟨ha.defers,ha.size,λt x hx=>?_⟩;rw [Zb] at hx;by_cases hd:d=t;subst hd;simp at hx;subst hx;exact ha.vals _ _ h;rw [if_neg hd] at hx;exact ha.vals _ _ hx
theorem Zc4 {d:Nat} {o:Option Nat} {op:Op} {ty:TypeId} {pos:String} {af:Array Edge} {j:Nat} {b:Bool} {p:Prop} [Decidable p] (hj:Za0 ops j=some d) (hy:look e d=some (.bool (decide p)))
 (ht:p->WL P n ops Q (⟨o,op,ty,pos,af,some (j,b)⟩ :: rest) ((d,.bool true) :: e) w) (hf:¬ p->WL P n ops Q (⟨o,op,ty,pos,af,some (j,b)⟩ :: rest) ((d,.bool false) :: e) w) :
 WL P n ops Q (⟨o,op,ty,pos,af,some (j,b)⟩ :: rest) e w:=by
 refine ⟨λa ha=>?_⟩;by_cases hp:p;exact (ht hp).h a (ha.same hy (by simp [hp]));exact (hf hp).h a (ha.same hy (by simp [hp]))
theorem ZaK {d:Nat} {o:Option Nat} {op:Op} {ty:TypeId} {pos:String} {af:Array Edge} {j:Nat} {b:Bool} {t:Bool} (hj:Za0 ops j=some d) (hy:look e d=some (.bool t))
 (ht:t=true->WL P n ops Q (⟨o,op,ty,pos,af,some (j,b)⟩ :: rest) ((d,.bool true) :: e) w) (hf:t=false->WL P n ops Q (⟨o,op,ty,pos,af,some (j,b)⟩ :: rest) ((d,.bool false) :: e) w) :
 WL P n ops Q (⟨o,op,ty,pos,af,some (j,b)⟩ :: rest) e w:=by
 refine ⟨λa ha=>?_⟩;cases t;exact (hf rfl).h a (ha.same hy rfl);exact (ht rfl).h a (ha.same hy rfl)
end rules
def Z1N (l:List Value):Nat->Env
 | k=>match l with|[]=>[]|v :: r=>(k,v) :: Z1N r (k+1)
theorem Z1O (l:List Value):∀ (k t:Nat) (v:Value),look (Z1N l k) t=some v->k<=t/\l[t - k]?=some v:=by
 induction l with
 | nil=>intro k t v h;simp [Z1N,look] at h
 | cons x r ih=>
   intro k t v h;simp only [Z1N] at h;rw [Zb] at h;by_cases hk:k=t;subst hk;simp at h;simp [h];rw [if_neg hk] at h;obtain ⟨h1,h2⟩:=ih (k+1) t v h;refine ⟨by omega,?_⟩;have:t - k=(t - (k+1))+1:=by omega
   rw [this];simpa using h2
theorem JR {P:Program} {f:FuncId} {fn:Func} {c:Code} {args:Array Value} {w:World} {R:Ending->World->Prop} {n:Nat} (hf:P.funcs[f]?=some fn) (hb:fn.body=some c)
 (hn:fn.ntmps=n) (hs:Nat.ble args.size n=true) (h:WC P n c (bodyPost P fn R) (Z1N args.toList 0) w):Calls P f args w R:=by
 refine calls_of_wp hf hb (h.h _ ?_);rw [hn];have fC:args.size<=n:=Xb hs;refine ⟨rfl,by simp;omega,λt v hv=>?_⟩;obtain ⟨_,h2⟩:=Z1O _ _ _ _ hv;simp only [Nat.sub_zero] at h2;have ah:t<args.size:=by
  have:=(Xn.1 h2).1;simpa using this
 have:args[t]?=some v:=by simpa using h2
 have h3:(args++Array.replicate (n - args.size) undef)[t]?=some v:=by
  rw [XX ah];exact this
 simp [Xz,h3]
section post
variable {P:Program} {n:Nat} {fn:Func} {R:Ending->World->Prop} {e:Env} {w:World}
theorem Za1 (hr:fn.results=#[]) (h:R (.returned (.tuple #[])) w):WQ n (bodyPost P fn R) .ret e w:=
 ⟨λa ha=>⟨ha.defers,_,results_none hr _ _ _,h⟩⟩
theorem Z6m (hr:fn.results=#[]) (h:R (.returned (.tuple #[])) w):WQ n (bodyPost P fn R) .normal e w:=
 ⟨λa ha=>⟨ha.defers,_,results_none hr _ _ _,h⟩⟩
theorem Zfa {t:Nat} {v:Value} (hr:fn.results=#[.tmp t]) (ht:look e t=some v) (h:R (.returned v) w):WQ n (bodyPost P fn R) .ret e w:=
 ⟨λa ha=>⟨ha.defers,_,results_tmp hr _ _ _,by rw [ha.vals t v ht];exact h⟩⟩
theorem Zfb {t u:Nat} {v x:Value} (hr:fn.results=#[.tmp t,.tmp u]) (ht:look e t=some v) (hu:look e u=some x) (h:R (.returned (.tuple #[v,x])) w):WQ n (bodyPost P fn R) .ret e w:=
 ⟨λa ha=>⟨ha.defers,_,results_tmp2 hr _ _ _,by rw [ha.vals t v ht,ha.vals u x hu];exact h⟩⟩
theorem Zfc {t u s:Nat} {v x y:Value} (hr:fn.results=#[.tmp t,.tmp u,.tmp s]) (ht:look e t=some v) (hu:look e u=some x) (hs:look e s=some y) (h:R (.returned (.tuple #[v,x,y])) w):WQ n (bodyPost P fn R) .ret e w:=
 ⟨λa ha=>⟨ha.defers,.tuple #[v,x,y],by simp [results,hr];simpa [Xz] using And.intro (ha.vals t v ht) (And.intro (ha.vals u x hu) (ha.vals s y hs)),h⟩⟩
end post
theorem cW0 {P:Program} {f:FuncId} {fn:Func} {c:Code} {w:World} {R:Ending->World->Prop} (n:Nat) (hf:P.funcs[f]?=some fn) (h:WC P n c (bodyPost P fn R) [] w) (hb:fn.body=some c:=by exact rfl) (hn:fn.ntmps=n:=by exact rfl):Calls P f #[] w R:=JR hf hb hn rfl h
theorem cW1 {P:Program} {f:FuncId} {fn:Func} {c:Code} {a0:Value} {w:World} {R:Ending->World->Prop} (n:Nat) (hf:P.funcs[f]?=some fn) (h:WC P n c (bodyPost P fn R) [(0,a0)] w) (hb:fn.body=some c:=by exact rfl) (hn:fn.ntmps=n:=by exact rfl) (hs:Nat.ble 1 n=true:=by exact rfl):Calls P f #[a0] w R:=JR hf hb hn hs h
theorem cW2 {P:Program} {f:FuncId} {fn:Func} {c:Code} {a0 a1:Value} {w:World} {R:Ending->World->Prop} (n:Nat) (hf:P.funcs[f]?=some fn) (h:WC P n c (bodyPost P fn R) [(0,a0),(1,a1)] w) (hb:fn.body=some c:=by exact rfl) (hn:fn.ntmps=n:=by exact rfl) (hs:Nat.ble 2 n=true:=by exact rfl):Calls P f #[a0,a1] w R:=JR hf hb hn hs h
theorem cW3 {P:Program} {f:FuncId} {fn:Func} {c:Code} {a0 a1 a2:Value} {w:World} {R:Ending->World->Prop} (n:Nat) (hf:P.funcs[f]?=some fn) (h:WC P n c (bodyPost P fn R) [(0,a0),(1,a1),(2,a2)] w) (hb:fn.body=some c:=by exact rfl) (hn:fn.ntmps=n:=by exact rfl) (hs:Nat.ble 3 n=true:=by exact rfl):Calls P f #[a0,a1,a2] w R:=JR hf hb hn hs h
theorem cW4 {P:Program} {f:FuncId} {fn:Func} {c:Code} {a0 a1 a2 a3:Value} {w:World} {R:Ending->World->Prop} (n:Nat) (hf:P.funcs[f]?=some fn) (h:WC P n c (bodyPost P fn R) [(0,a0),(1,a1),(2,a2),(3,a3)] w) (hb:fn.body=some c:=by exact rfl) (hn:fn.ntmps=n:=by exact rfl) (hs:Nat.ble 4 n=true:=by exact rfl):Calls P f #[a0,a1,a2,a3] w R:=JR hf hb hn hs h
class Und (P:Program) (t:Nat) (d:outParam TypeDesc):Prop where
 h:P.underlying t=some d
class Siz (P:Program) (t:Nat) (k:outParam Nat):Prop where
 h:(P.info? t).map (·.size)=some k
class Zer (P:Program) (t:Nat) (z:outParam Value):Prop where
 h:(P.info? t).bind (·.zero)=some z
class Byt (P:Program) (t:Nat) (k:outParam Nat):Prop where
 h:(P.info? t).map (·.bytes)=some k
class Fld (P:Program) (t i:Nat) (off:outParam Nat):Prop where
 h:∃ fs f k,P.underlying t=some (.struct fs)/\fs[i]?=some f/\f.offset=off/\(P.info? f.type).map (·.size)=some (k+1)
class Fun (P:Program) (f:Nat) (fn:outParam Func):Prop where
 h:P.funcs[f]?=some fn
 enters:Enters P f
theorem Siz.run {P:Program} {t k:Nat} [h:Siz P t k] (w:World):(sizeOf t).run P w=.ok k w:=by
 have:=h.h;cases hi:P.info? t with
 | none=>simp [hi] at this
 | some i=>rw [hi] at this;simp at this;simp [sizeOf,typeInfo,hi,this]
theorem Zer.run {P:Program} {t:Nat} {z:Value} [h:Zer P t z] (w:World):(zeroValue t).run P w=.ok z w:=by
 have:=h.h;cases hi:P.info? t with
 | none=>simp [hi] at this
 | some i=>rw [hi] at this;simp at this;simp [zeroValue,typeInfo,hi,this]
def JO:TypeDesc->Bool
 | .struct _|.array _ _=>true
 | _=>false
theorem Und.isAgg {P:Program} {t:Nat} {d:TypeDesc} [h:Und P t d] (w:World):(Go.isAgg t).run P w=.ok (JO d) w:=by
 cases d<;>simp [Go.isAgg,run_underlying h.h,JO]
section rules
variable {P:Program} {n:Nat} {e:Env} {w:World} {d:Option Nat} {ty:TypeId} {pos:String} {af:Array Edge} {g:Option (Nat×Bool)}
theorem ZV {x:Operand} {v:Value} (hx:ev e x=some v):PR P n ⟨d,.move x,ty,pos,af,g⟩ e w v:=⟨λa ha=>by simp [execOp,ha.ev hx]⟩
theorem Z07 {x:Operand} {v:Value} (hx:ev e x=some v):PR P n ⟨d,.assign x,ty,pos,af,g⟩ e w v:=⟨λa ha=>by simp [execOp,ha.ev hx]⟩
theorem Z5M {c x y:Operand} {v:Value} (hc:ev e c=some (.bool true)) (hx:ev e x=some v):PR P n ⟨d,.pick c x y,ty,pos,af,g⟩ e w v:=
 ⟨λa ha=>by simp [execOp,ha.ev hc,ha.ev hx,asBool]⟩
theorem Z5N {c x y:Operand} {v:Value} (hc:ev e c=some (.bool false)) (hx:ev e y=some v):PR P n ⟨d,.pick c x y,ty,pos,af,g⟩ e w v:=
 ⟨λa ha=>by simp [execOp,ha.ev hc,ha.ev hx,asBool]⟩
theorem Z8G {x:Operand} {b:Bool} (hx:ev e x=some (.bool b)) {t:TypeId}:PR P n ⟨d,.unOp .not t x,ty,pos,af,g⟩ e w (.bool (!b)):=
 ⟨λa ha=>by simp [execOp,ha.ev hx,Op.unary]⟩
theorem Zc5 {x:Operand} (hx:ev e x=some (.bool true)) {t:TypeId}:PR P n ⟨d,.unOp .not t x,ty,pos,af,g⟩ e w (.bool false):=
 ⟨λa ha=>by simp [execOp,ha.ev hx,Op.unary]⟩
theorem Zc6 {x:Operand} (hx:ev e x=some (.bool false)) {t:TypeId}:PR P n ⟨d,.unOp .not t x,ty,pos,af,g⟩ e w (.bool true):=
 ⟨λa ha=>by simp [execOp,ha.ev hx,Op.unary]⟩
def I64 (z:Int):Prop:=-9223372036854775808<=z/\z<=9223372036854775807
theorem JS {z:Int} (h:I64 z):IntKind.i64.wrap z=z:=by
 unfold I64 at h;rw [IntKind.wrap_i64];omega
section arith
variable {x y:Operand} {a b:Int} {t u:TypeId}
theorem Zc7 (hx:ev e x=some (.int .i64 a)) (hy:ev e y=some (.int .i64 b)) (hr:I64 (a+b)):PR P n ⟨d,.binOp .add t x y u,ty,pos,af,g⟩ e w (.int .i64 (a+b)):=
 ⟨λc ha=>by simp only [execOp,ha.ev hx,ha.ev hy];simp [go_sem,Op.intArith,JS hr]⟩
theorem Zc8 (hx:ev e x=some (.int .i64 a)) (hy:ev e y=some (.int .i64 b)) (hr:I64 (a - b)):PR P n ⟨d,.binOp .sub t x y u,ty,pos,af,g⟩ e w (.int .i64 (a - b)):=
 ⟨λc ha=>by simp only [execOp,ha.ev hx,ha.ev hy];simp [go_sem,Op.intArith,JS hr]⟩
theorem ZiJ (hx:ev e x=some (.int .i64 a)) (hy:ev e y=some (.int .i64 b)) (hr:I64 (a * b)):PR P n ⟨d,.binOp .mul t x y u,ty,pos,af,g⟩ e w (.int .i64 (a * b)):=
 ⟨λc ha=>by simp only [execOp,ha.ev hx,ha.ev hy];simp [go_sem,Op.intArith,JS hr]⟩
theorem ZiK (hx:ev e x=some (.int .i64 a)) (hr:I64 (- a)):PR P n ⟨d,.unOp .neg t x,ty,pos,af,g⟩ e w (.int .i64 (- a)):=
 ⟨λc ha=>by simp only [execOp,ha.ev hx];simp [go_sem,Op.unary,Op.intArith,JS hr]⟩
theorem ZiL (hx:ev e x=some (.int .i64 a)) (hy:ev e y=some (.int .i64 b)) (hb:b≠0) (hr:I64 (a.tmod b)):PR P n ⟨d,.binOp .rem t x y u,ty,pos,af,g⟩ e w (.int .i64 (a.tmod b)):=
 ⟨λc ha=>by simp only [execOp,ha.ev hx,ha.ev hy];simp [go_sem,Op.intDiv,hb];try rw [JS hr]⟩
theorem ZiM (hx:ev e x=some (.int .i64 a)) (hy:ev e y=some (.int .i64 b)) (hb:b≠0) (hr:I64 (a.tdiv b)):PR P n ⟨d,.binOp .quo t x y u,ty,pos,af,g⟩ e w (.int .i64 (a.tdiv b)):=
 ⟨λc ha=>by simp only [execOp,ha.ev hx,ha.ev hy];simp [go_sem,Op.intDiv,hb];try rw [JS hr]⟩
theorem Zfd (hx:ev e x=some (.int .i64 a)) (hy:ev e y=some (.int .i64 b)) (h0:0<=a) (hb:0<b) (hr:I64 a):PR P n ⟨d,.binOp .rem t x y u,ty,pos,af,g⟩ e w (.int .i64 (a % b)):=by
 have h1:a.tmod b=a % b:=Int.tmod_eq_emod_of_nonneg h0;rw [<- h1];refine ZiL hx hy (by omega) ?_;rw [h1];have:=Ybh a (show b≠0 by omega);have h2:a % b<=a:=by
  by_cases cj:a<b;rw [Int.emod_eq_of_lt h0 cj];exact Ya7 _;have:=YaX a hb;omega
 unfold I64 at hr ⊢;omega
theorem Zfe (hx:ev e x=some (.int .i64 a)) (hy:ev e y=some (.int .i64 b)) (h0:0<=a) (hb:0<b) (hr:I64 a):PR P n ⟨d,.binOp .quo t x y u,ty,pos,af,g⟩ e w (.int .i64 (a / b)):=by
 have h1:a.tdiv b=a / b:=Int.tdiv_eq_ediv_of_nonneg h0;rw [<- h1];refine ZiM hx hy (by omega) ?_;rw [h1];have:=Int.ediv_nonneg h0 (Int.le_of_lt hb);have h2:a / b<=a:=Int.ediv_le_self _ h0;unfold I64 at hr ⊢;omega
variable {k:IntKind}
theorem Z8H (hx:ev e x=some (.int k a)) (hy:ev e y=some (.int k b)):PR P n ⟨d,.binOp .lss t x y u,ty,pos,af,g⟩ e w (.bool (decide (a<b))):=
 ⟨λc ha=>by simp only [execOp,ha.ev hx,ha.ev hy];simp [go_sem]⟩
theorem Zc9 (hx:ev e x=some (.int k a)) (hy:ev e y=some (.int k b)):PR P n ⟨d,.binOp .leq t x y u,ty,pos,af,g⟩ e w (.bool (decide (a<=b))):=
 ⟨λc ha=>by simp only [execOp,ha.ev hx,ha.ev hy];simp [go_sem]⟩
theorem Z8I (hx:ev e x=some (.int k a)) (hy:ev e y=some (.int k b)):PR P n ⟨d,.binOp .gtr t x y u,ty,pos,af,g⟩ e w (.bool (decide (b<a))):=
 ⟨λc ha=>by simp only [execOp,ha.ev hx,ha.ev hy];simp [go_sem]⟩
theorem Zca (hx:ev e x=some (.int k a)) (hy:ev e y=some (.int k b)):PR P n ⟨d,.binOp .geq t x y u,ty,pos,af,g⟩ e w (.bool (decide (b<=a))):=
 ⟨λc ha=>by simp only [execOp,ha.ev hx,ha.ev hy];simp [go_sem]⟩
theorem Zcb (hx:ev e x=some (.int k a)) (hy:ev e y=some (.int k b)):PR P n ⟨d,.binOp .eql t x y u,ty,pos,af,g⟩ e w (.bool (decide (a=b))):=
 ⟨λc ha=>by simp only [execOp,ha.ev hx,ha.ev hy];simp [go_sem];exact YaE a b⟩
theorem Z8J (hx:ev e x=some (.int k a)) (hy:ev e y=some (.int k b)):PR P n ⟨d,.binOp .neq t x y u,ty,pos,af,g⟩ e w (.bool (decide (¬ a=b))):=
 ⟨λc ha=>by simp only [execOp,ha.ev hx,ha.ev hy];simp [go_sem];rw [bne,YaE]⟩
theorem Za2 {p q:Bool} [hu:Und P t .bool] (hx:ev e x=some (.bool p)) (hy:ev e y=some (.bool q)):PR P n ⟨d,.binOp .eql t x y u,ty,pos,af,g⟩ e w (.bool (decide (p=q))):=
 ⟨λc ha=>by simp only [execOp,ha.ev hx,ha.ev hy];simp [go_sem,binOp,run_equal_bool w t p q hu.h];cases p<;>cases q<;>rfl⟩
theorem Z6n {p q:Bool} [hu:Und P t .bool] (hx:ev e x=some (.bool p)) (hy:ev e y=some (.bool q)):PR P n ⟨d,.binOp .neq t x y u,ty,pos,af,g⟩ e w (.bool (decide (¬ p=q))):=
 ⟨λc ha=>by simp only [execOp,ha.ev hx,ha.ev hy];simp [go_sem,binOp,run_equal_bool w t p q hu.h];cases p<;>cases q<;>rfl⟩
end arith
theorem Z08 {x:Operand} {vs:Array Value} {i:Nat} {v:Value} (hx:ev e x=some (.tuple vs)) (hv:vs[i]?=some v):PR P n ⟨d,.extract x i,ty,pos,af,g⟩ e w v:=
 ⟨λa ha=>by simp [execOp,ha.ev hx,Instr.extract,hv]⟩
theorem Z8K {x:Operand} {t:TypeId} {el:TypeId} [hu:Und P t (.slice el)] {p:Option Addr} {l c:Nat} (hx:ev e x=some (.slice p l c)) :
 PR P n ⟨d,.call { callee:=.builtin .len,args:=#[x],argTypes:=#[t] },ty,pos,af,g⟩ e w (.int .i64 (l:Int)):=
 ⟨λa ha => by
   have:=run_len_slice (P:=P) w t ty p l c (by rw [hu.h,Program.elem,hu.h]);simp [execOp,resolve,invoke,builtin,ha.ev hx,this,goInt]⟩
theorem Z44 {t i off:Nat} [h:Fld P t i off] (b o:Nat) (w:World):(Instr.fieldAt t (.pointer (some ⟨b,o,none⟩)) i).run P w=.ok (.pointer (some ⟨b,o+off,none⟩)) w:=by
 obtain ⟨fs,f,k,h1,h2,rfl,h3⟩:=h.h;have:Siz P f.type (k+1):=⟨h3⟩
 simp [Instr.fieldAt,run_underlying h1,h2,Instr.sureAddr,fieldPlace,Siz.run,Addr.add_lit]
theorem Z0w {x:Operand} {t:TypeId} {b o i off:Nat} [hf:Fld P t i off] (hx:ev e x=some (.pointer (some ⟨b,o,none⟩))):PR P n ⟨d,.fieldAddr t x i,ty,pos,af,g⟩ e w (.pointer (some ⟨b,o+off,none⟩)):=
 ⟨λa ha=>by simp [execOp,ha.ev hx,Z44]⟩
theorem ZP {x:Operand} {t:TypeId} {D:TypeDesc} {ad:Addr} {v:Value} [hu:Und P t D] (hA:JO D=false) (hx:ev e x=some (.pointer (some ad))) (hc:w.cell? ad=some v) :
 PR P n ⟨d,.load t x,ty,pos,af,g⟩ e w v:=
 ⟨λa ha=>by simp [execOp,ha.ev hx,Instr.loadAt,Instr.sureAddr,loadVar,Und.isAgg,hA,hc]⟩
theorem Z1P {x:Operand} {t:TypeId} {D:TypeDesc} {b o k:Nat} {cs:List Value} [hu:Und P t D] (hA:JO D=true) [hs:Siz P t k] (hx:ev e x=some (.pointer (some ⟨b,o,none⟩)))
 (hl:cs.length=k) (hc:∀ j u,cs[j]?=some u->w.cell? ⟨b,o+j,none⟩=some u) :
 PR P n ⟨d,.load t x,ty,pos,af,g⟩ e w (.agg cs.toArray):=
 ⟨λa ha => by
   have:=run_loadCells_list (P:=P) w ⟨b,o,none⟩ cs (λj v h=>by rw [Addr.add_lit];exact hc j v h);rw [hl] at this;simp [execOp,ha.ev hx,Instr.loadAt,Instr.sureAddr,loadVar,Und.isAgg,hA,Siz.run,this]⟩
theorem Z6o {f:Nat}:PR P n ⟨d,.makeFunc (.func f) #[] #[],ty,pos,af,g⟩ e w (.func (.func f) #[] #[]):=
 ⟨λa ha=>by simp [execOp,Instr.makeFunc]⟩
theorem Z6p {f:Nat} {x:Operand} {v:Value} (hx:ev e x=some v):PR P n ⟨d,.makeFunc (.func f) #[] #[x],ty,pos,af,g⟩ e w (.func (.func f) #[] #[v]):=
 ⟨λa ha=>by simp [execOp,Instr.makeFunc,ha.ev hx]⟩
theorem Z6q {f:Nat} {x y:Operand} {v u:Value} (hx:ev e x=some v) (hy:ev e y=some u):PR P n ⟨d,.makeFunc (.func f) #[] #[x,y],ty,pos,af,g⟩ e w (.func (.func f) #[] #[v,u]):=
 ⟨λa ha=>by simp [execOp,Instr.makeFunc,ha.ev hx,ha.ev hy]⟩
theorem Z6r {f:Nat} {x y z:Operand} {v u s:Value} (hx:ev e x=some v) (hy:ev e y=some u) (hz:ev e z=some s):PR P n ⟨d,.makeFunc (.func f) #[] #[x,y,z],ty,pos,af,g⟩ e w (.func (.func f) #[] #[v,u,s]):=
 ⟨λa ha=>by simp [execOp,Instr.makeFunc,ha.ev hx,ha.ev hy,ha.ev hz]⟩
def Ret (G:Value->World->Prop) (r:Ending) (w':World):Prop:=∃ v,r=.returned v/\G v w'
theorem Ret.mk {G:Value->World->Prop} {v:Value} {w':World} (h:G v w'):Ret G (.returned v) w':=⟨v,rfl,h⟩
theorem Calls.ret {P:Program} {f:FuncId} {args:Array Value} {w:World} {G G':Value->World->Prop} (h:Calls P f args w (Ret G)) (hg:∀ v w',G v w'->G' v w'):Calls P f args w (Ret G'):=
 h.mono λ_ _ ⟨v,h1,h2⟩=>⟨v,h1,hg _ _ h2⟩
theorem Zd {f:Nat} {fn:Func} {xs:Array Operand} {ts:Array TypeId} {vs:Array Value} {G:Value->World->Prop} {c:Operand} [hf:Fun P f fn] (hc:ev e c=some (.func (.func f) #[] #[]))
 (hv:∀ a,Has n e a->xs.map a.eval=vs) (h:Calls P f vs w (Ret G)) :
 OE P n ⟨d,.call { callee:=.value c,args:=xs,argTypes:=ts },ty,pos,af,g⟩ e w G:=
 ⟨λa ha Q => by
   have he:(execOp a.eval ⟨d,.call { callee:=.value c,args:=xs,argTypes:=ts },ty,pos,af,g⟩).run P w=.ok (.enter f vs) w:=by
    simp only [execOp,resolve,ha.ev hc,Deferred.ofValue,hv a ha];simp [invoke];exact hf.enters vs w
   unfold Oper.wp;rw [he];simp only [Oper.upon];refine h.mono ?_;rintro r w' ⟨v,rfl,hg⟩;exact ⟨v,rfl,hg⟩⟩
theorem ZC {f:Nat} {fn:Func} {xs:Array Operand} {ts:Array TypeId} {vs cap us:Array Value} {G:Value->World->Prop} {c:Operand} [hf:Fun P f fn] (hc:ev e c=some (.func (.func f) #[] cap))
 (hv:∀ a,Has n e a->xs.map a.eval=vs) (hu:vs++cap=us) (h:Calls P f us w (Ret G)) :
 OE P n ⟨d,.call { callee:=.value c,args:=xs,argTypes:=ts },ty,pos,af,g⟩ e w G:=
 ⟨λa ha Q => by
   have he:(execOp a.eval ⟨d,.call { callee:=.value c,args:=xs,argTypes:=ts },ty,pos,af,g⟩).run P w=.ok (.enter f us) w:=by
    simp only [execOp,resolve,ha.ev hc,Deferred.ofValue,hv a ha];simp [invoke,hu];exact hf.enters us w
   unfold Oper.wp;rw [he];simp only [Oper.upon];refine h.mono ?_;rintro r w' ⟨v,rfl,hg⟩;exact ⟨v,rfl,hg⟩⟩
theorem ZaL:∀ a,Has n e a->(#[]:Array Operand).map a.eval=#[]:=λa ha=>by simp
theorem ZO {x:Operand} {v:Value} (hx:ev e x=some v):∀ a,Has n e a->#[x].map a.eval=#[v]:=λa ha=>by simp [ha.ev hx]
theorem ZK {x y:Operand} {v u:Value} (hx:ev e x=some v) (hy:ev e y=some u):∀ a,Has n e a->#[x,y].map a.eval=#[v,u]:=λa ha=>by simp [ha.ev hx,ha.ev hy]
theorem Z16 {x y z:Operand} {v u s:Value} (hx:ev e x=some v) (hy:ev e y=some u) (hz:ev e z=some s):∀ a,Has n e a->#[x,y,z].map a.eval=#[v,u,s]:=λa ha=>by simp [ha.ev hx,ha.ev hy,ha.ev hz]
theorem Z30 {x y z k:Operand} {v u s r:Value} (hx:ev e x=some v) (hy:ev e y=some u) (hz:ev e z=some s) (hk:ev e k=some r):∀ a,Has n e a->#[x,y,z,k].map a.eval=#[v,u,s,r]:=
 λa ha=>by simp [ha.ev hx,ha.ev hy,ha.ev hz,ha.ev hk]
theorem Zmm {x y z k l:Operand} {v u s r q:Value} (hx:ev e x=some v) (hy:ev e y=some u) (hz:ev e z=some s) (hk:ev e k=some r) (hl:ev e l=some q):∀ a,Has n e a->#[x,y,z,k,l].map a.eval=#[v,u,s,r,q]:=
 λa ha=>by simp [ha.ev hx,ha.ev hy,ha.ev hz,ha.ev hk,ha.ev hl]
end rules
theorem mkF {P:Program} {f:Nat} {fn:Func} {c:Code} (h:P.funcs[f]?=some fn) (h2:(fn.name == "runtime.NumGoroutine")=false:=by kernel_rfl) (h3:fn.body=some c:=by exact rfl):Fun P f fn:=⟨h,enters_of h h2 h3⟩
theorem uM {P:Program} {t:Nat} {d:TypeDesc} (h:P.underlying t=some d):Und P t d:=⟨h⟩
structure Stp (S:List Nat) (w w':World):Prop where
 os:w'.os=w.os
 tape:w'.tape=w.tape
 output:w'.output=w.output
 size:w.heap.size<=w'.heap.size
 block:∀ b,b<w.heap.size->b∉S->w'.heap[b]?=w.heap[b]?
theorem Stp.refl (S:List Nat) (w:World):Stp S w w:=⟨rfl,rfl,rfl,Xm _,λ_ _ _=>rfl⟩
theorem Stp.trans {S:List Nat} {a b c:World} (h:Stp S a b) (k:Stp S b c):Stp S a c:=
 ⟨k.os.trans h.os,k.tape.trans h.tape,k.output.trans h.output,Xl h.size k.size,λi hi hn=>(k.block i (Xj hi h.size) hn).trans (h.block i hi hn)⟩
theorem Stp.mono {S S':List Nat} {a b:World} (h:Stp S a b) (hs:∀ x∈S,x∈S'):Stp S' a b:=⟨h.os,h.tape,h.output,h.size,λi hi hn=>h.block i hi (λhx=>hn (hs i hx))⟩
theorem Stp.own {S S':List Nat} {a b c:World} (h:Stp S a b) (k:Stp S' b c) (hs:∀ x∈S',x∈S\/a.heap.size<=x):Stp S a c:=
 ⟨k.os.trans h.os, k.tape.trans h.tape, k.output.trans h.output, Xl h.size k.size, λi hi hn => (k.block i (Xj hi h.size) (λhx => by
   rcases hs i hx with h1|h1
   exact hn h1;omega)).trans (h.block i hi hn)⟩
theorem Stp.below {a b:World} (h:Stp [] a b):Below a.heap.size a b:=⟨h.os,h.tape,h.output,h.size,λi hi=>h.block i hi (by simp)⟩
theorem Stp.cell {S:List Nat} {w w':World} (h:Stp S w w') {b o:Nat} {v:Value} (hb:b∉S) (hc:w.cell? ⟨b,o,none⟩=some v):w'.cell? ⟨b,o,none⟩=some v:=by
 have ah:b<w.heap.size:=block_lt_of_cell (a:=⟨b,o,none⟩) hc;rw [<- hc];exact World.cell?_of_block (w:=w) (h.block b ah hb)
theorem Stp.drew (S:List Nat) (w:World):Stp S w w.drew:=⟨rfl,rfl,rfl,Xm _,λ_ _ _=>rfl⟩
theorem Stp.alloc (S:List Nat) (w:World) (o:Obj):Stp S w (w.alloc o):=⟨rfl,rfl,rfl,by simp,λk hk _=>Below.heap_alloc w o k hk⟩
theorem Stp.of_grown {w w':World} {row:Option Nat} (h:w.grownBy w' row):Stp row.toList w w':=
 ⟨h.os,h.tape,h.output,h.size,λk hk hn=>h.block k hk (λe=>hn (by simp [<- e]))⟩
class Z1 (α:Type) where
 k:Nat
 rep:List Nat->World->α->List Value->Prop
 len:∀ {X:List Nat} {w:World} {x:α} {cs:List Value},rep X w x cs->cs.length=k
 one:∀ {X:List Nat} {w:World} {x:α} {cs:List Value},rep X w x cs->∀ u∈cs,u.oneCell'=true
 ext:∀ {X S X':List Nat} {w w':World} {x:α} {cs:List Value},rep X w x cs->Stp S w w'->(∀ b∈S,b∈X)->(∀ b∈X',b∈X\/w.heap.size<=b)->rep X' w' x cs
class Z2 (α:Type) where
 k:Nat
 enc:α->List Value
 len:∀ x,(enc x).length=k
 one:∀ x,∀ u∈enc x,u.oneCell'=true
instance {α:Type} [Z2 α]:Z1 α where
 k:=Z2.k α
 rep:=λ_ _ x cs=>cs=Z2.enc x
 len:=λh=>h ▸ Z2.len _
 one:=λh=>h ▸ Z2.one _
 ext:=λh _ _ _=>h
instance:Z2 Int where
 k:=1
 enc:=λx=>[.int .i64 x]
 len:=λ_=>rfl
 one:=by intro x u hu;simp at hu;subst hu;rfl
instance:Z2 Bool where
 k:=1
 enc:=λx=>[.bool x]
 len:=λ_=>rfl
 one:=by intro x u hu;simp at hu;subst hu;rfl
def SlV {α:Type} [Z1 α] (X:List Nat) (w:World) (v:Value) (xs:List α):Prop:=
 ∃ (p : Option Addr) (c : Nat), v = .slice p xs.length c /\ xs.length <= c /\ c <= maxLen /\ (p = none -> c = 0)/\
   ∀ i (h:i<xs.length),∃ b o cs,p=some ⟨b,o,none⟩/\b<w.heap.size/\b∉X/\Z1.rep X w xs[i] cs/\∀ j u,cs[j]?=some u->w.cell? ⟨b,o+i * Z1.k α+j,none⟩=some u
theorem SlV.ext {α:Type} [Z1 α] {X S X':List Nat} {w w':World} {v:Value} {xs:List α} (h:SlV X w v xs) (hS:Stp S w w') (h1:∀ b∈S,b∈X) (h2:∀ b∈X',b∈X\/w.heap.size<=b):SlV X' w' v xs:=by
 obtain ⟨p,c,hv,hl,hm,hn,hc⟩:=h;refine ⟨p,c,hv,hl,hm,hn,λi hi=>?_⟩;obtain ⟨b,o,cs,hp,hb,hx,hr,ak⟩:=hc i hi;refine ⟨b,o,cs,hp,Xj hb hS.size,λpI=>?_,Z1.ext hr hS h1 h2,λj u hu=>hS.cell (λcr=>hx (h1 b cr)) (ak j u hu)⟩;rcases h2 b pI with h|h
 exact hx h;omega
theorem SlV.up {α:Type} [Z1 α] {X:List Nat} {w w':World} {v:Value} {xs:List α} (h:SlV X w v xs) (hS:Stp [] w w'):SlV X w' v xs:=
 h.ext hS (by simp) (λb hb=>.inl hb)
theorem SlV.len {α:Type} [Z1 α] {X:List Nat} {w:World} {v:Value} {xs:List α} (h:SlV X w v xs):∃ p c,v=.slice p xs.length c:=let ⟨p,c,hv,_⟩:=h;⟨p,c,hv⟩
theorem SlV.cells {α:Type} [Z1 α] {X:List Nat} {w:World} {v:Value} {xs:List α} (h:SlV X w v xs):v.cells.toList=[v]:=by
 obtain ⟨p,c,rfl⟩:=h.len;rfl
theorem SlV.one {α:Type} [Z1 α] {X:List Nat} {w:World} {v:Value} {xs:List α} (h:SlV X w v xs):v.oneCell'=true:=by
 obtain ⟨p,c,rfl⟩:=h.len;rfl
theorem SlV.max {α:Type} [Z1 α] {X:List Nat} {w:World} {v:Value} {xs:List α} (h:SlV X w v xs):xs.length<=9223372036854775807:=by
 obtain ⟨p,c,hv,hl,hm,_⟩:=h;simp only [maxLen] at hm;omega
def Zq (v:Value) (i k j:Nat):Addr:=
 match v with
 | .slice (some a) _ _=>⟨a.block,a.off+i * k+j,none⟩
 | _=>⟨0,0,none⟩
def Blk (w:World) (b:Nat) (T:TypeId) (cs:List Value):Prop:=w.heap[b]?=some (.cells cs.toArray T (0,0))
theorem Blk.lt {w:World} {b T:Nat} {cs:List Value} (h:Blk w b T cs):b<w.heap.size:=(Xi.1 h).1
theorem Blk.ext {w w':World} {S:List Nat} {b T:Nat} {cs:List Value} (h:Blk w b T cs) (hS:Stp S w w') (hb:b∉S):Blk w' b T cs:=by
 unfold Blk at *;rw [hS.block b (Blk.lt h) hb];exact h
theorem Blk.up {w w':World} {b T:Nat} {cs:List Value} (h:Blk w b T cs) (hS:Stp [] w w'):Blk w' b T cs:=h.ext hS (by simp)
theorem Blk.cell {w:World} {b T:Nat} {cs:List Value} (h:Blk w b T cs) {j:Nat} {u:Value} (hu:cs[j]?=some u):w.cell? ⟨b,j,none⟩=some u:=by
 unfold Blk at h;simp [World.cell?,h,hu]
section rules
variable {P:Program} {n:Nat} {e:Env} {w:World} {d:Option Nat} {ty:TypeId} {pos:String} {af:Array Edge} {g:Option (Nat×Bool)}
theorem Zff {α:Type} [Z1 α] {X:List Nat} {xs:List α} {v:Value} {x:Operand} {t:TypeId} {el:TypeId} {bU:World} [hu:Und P t (.slice el)] (hx:ev e x=some v) (hs:SlV X bU v xs) :
 PR P n ⟨d,.call { callee:=.builtin .len,args:=#[x],argTypes:=#[t] },ty,pos,af,g⟩ e w (.int .i64 (xs.length:Int)):=by
 obtain ⟨p,c,rfl⟩:=hs.len;exact Z8K hx
theorem Z0n {α:Type} [Z1 α] {X:List Nat} {xs:List α} {v:Value} {x y:Operand} {t:TypeId} {el k:Nat} [hu:Und P t (.slice el)] [hk:Siz P el k] {z:Int} {i:Nat} {bU:World}
 (hx:ev e x=some v) (hs:SlV X bU v xs) (hy:ev e y=some (.int .i64 z)) (hz:z=(i:Int)) (hi:i<xs.length) :
 PR P n ⟨d,.indexAddr t x y,ty,pos,af,g⟩ e w (.pointer (some (Zq v i k 0))):=by
 refine ⟨λa ha=>?_⟩;obtain ⟨p,c,rfl,hl,hm,hn,hc⟩:=hs;obtain ⟨b,o,cs,rfl,_⟩:=hc i hi;subst hz;have h0:(0:Int)<=(i:Int)/\(i:Int)<(xs.length:Int):=by omega
 have hr:(Instr.indexAt t (.slice (some ⟨b,o,none⟩) xs.length c) (.int .i64 (i:Int))).run P w=.ok (.pointer (some ⟨b,o+i * k,none⟩)) w:=by
  simp only [Instr.indexAt,asIntOf];simp [run_underlying hu.h,Siz.run,Addr.add_lit,hi]
 simp [execOp,ha.ev hx,ha.ev hy,hr,Zq]
theorem Z0e {x:Operand} {t:TypeId} {v:Value} {i k j m off:Nat} [hf:Fld P t m off] (hx:ev e x=some (.pointer (some (Zq v i k j))))
 (hv:∃ p l c,v=.slice (some p) l c):PR P n ⟨d,.fieldAddr t x m,ty,pos,af,g⟩ e w (.pointer (some (Zq v i k (j+off)))):=by
 obtain ⟨p,l,c,rfl⟩:=hv;exact ⟨λa ha=>by simp [execOp,ha.ev hx,Zq,Z44,YbJ]⟩
theorem SlV.isSome {α:Type} [Z1 α] {X:List Nat} {v:Value} {xs:List α} {i:Nat} (h:SlV X w v xs) (hi:i<xs.length):∃ p l c,v=.slice (some p) l c:=by
 obtain ⟨p,c,rfl,_,_,_,hc⟩:=h;obtain ⟨b,o,cs,rfl,_⟩:=hc i hi;exact ⟨_,_,_,rfl⟩
theorem SlV.cell {α:Type} [Z1 α] {X:List Nat} {v:Value} {xs:List α} {i:Nat} (h:SlV X w v xs) (hi:i<xs.length):∃ cs,Z1.rep X w xs[i] cs/\∀ j u,cs[j]?=some u->w.cell? (Zq v i (Z1.k α) j)=some u:=by
 obtain ⟨p,c,rfl,_,_,_,hc⟩:=h;obtain ⟨b,o,cs,rfl,_,_,hr,ak⟩:=hc i hi;exact ⟨cs,hr,λj u hu=>by simpa [Zq] using ak j u hu⟩
theorem SlV.cellF {α:Type} [Z2 α] {X:List Nat} {v:Value} {xs:List α} {i:Nat} (h:SlV X w v xs) (hi:i<xs.length) {j:Nat} {u:Value} (hu:(Z2.enc xs[i])[j]?=some u):w.cell? (Zq v i (Z2.k α) j)=some u:=by
 obtain ⟨cs,hr,hc⟩:=h.cell hi;have aV:cs=Z2.enc xs[i]:=hr;subst aV;exact hc j u hu
theorem Z1o {α:Type} [Z2 α] {X:List Nat} {xs:List α} {v u:Value} {i j k:Nat} {x:Operand} {t:TypeId} {D:TypeDesc} [hu:Und P t D] (hA:JO D=false) (hx:ev e x=some (.pointer (some (Zq v i k j))))
 (hs:SlV X w v xs) (hi:i<xs.length) (hk:k=Z2.k α) (hc:(Z2.enc xs[i])[j]?=some u):PR P n ⟨d,.load t x,ty,pos,af,g⟩ e w u:=
 ZP hA hx (by subst hk;exact hs.cellF hi hc)
theorem Z1Q {α:Type} [Z2 α] {X:List Nat} {xs:List α} {v:Value} {us:List Value} {i j k m:Nat} {x:Operand} {t:TypeId} {D:TypeDesc} [hu:Und P t D] (hA:JO D=true) [bw:Siz P t m] (hx:ev e x=some (.pointer (some (Zq v i k j))))
 (hs:SlV X w v xs) (hi:i<xs.length) (hk:k=Z2.k α) (hl:us.length=m) (hc:((Z2.enc xs[i]).drop j).take m=us):PR P n ⟨d,.load t x,ty,pos,af,g⟩ e w (.agg us.toArray):=by
 obtain ⟨p,l,c,hv⟩:=hs.isSome hi;have ak:=λ(q:Nat) (u:Value) (h:(Z2.enc xs[i])[q]?=some u)=>hs.cellF hi h;subst hv;refine Z1P hA hx hl (λq u hq=>?_);have h1:(Z2.enc xs[i])[j+q]?=some u:=by
  rw [<- hc,Yab] at hq;split at hq;simpa using hq;cases hq
 have:=ak (j+q) u h1;subst hk;simpa [Zq,YbJ] using this
theorem Z7j {α:Type} [Z2 α] {X:List Nat} {xs:List α} {v:Value} {i k:Nat} {x:Operand} {t:TypeId} {D:TypeDesc} [hu:Und P t D] (hA:JO D=true) [bw:Siz P t k] (hx:ev e x=some (.pointer (some (Zq v i k 0))))
 (hs:SlV X w v xs) (hi:i<xs.length) (hk:k=Z2.k α):PR P n ⟨d,.load t x,ty,pos,af,g⟩ e w (.agg (Z2.enc xs[i]).toArray):=
 Z1Q hA hx hs hi hk (by rw [hk];exact Z2.len _) (by rw [YbR,XH (by rw [hk,Z2.len];exact Xm _)])
theorem J4 {b T o:Nat} {cs:List Value} {u:Value} {x:Operand} {t:TypeId} {D:TypeDesc} [hu:Und P t D] (hA:JO D=false) (hx:ev e x=some (.pointer (some ⟨b,o,none⟩))) (hb:Blk w b T cs) (hc:cs[o]?=some u) :
 PR P n ⟨d,.load t x,ty,pos,af,g⟩ e w u:=ZP hA hx (hb.cell hc)
theorem Zy {b T o m:Nat} {cs us:List Value} {x:Operand} {t:TypeId} {D:TypeDesc} [hu:Und P t D] (hA:JO D=true) [bw:Siz P t m] (hx:ev e x=some (.pointer (some ⟨b,o,none⟩))) (hb:Blk w b T cs)
 (hl:us.length=m) (hc:(cs.drop o).take m=us):PR P n ⟨d,.load t x,ty,pos,af,g⟩ e w (.agg us.toArray):=by
 refine Z1P hA hx hl (λq u hq=>hb.cell ?_);rw [<- hc,Yab] at hq;split at hq;simpa using hq;cases hq
theorem Z31 {b T m:Nat} {cs:List Value} {x:Operand} {t:TypeId} {D:TypeDesc} [hu:Und P t D] (hA:JO D=true) [bw:Siz P t m] (hx:ev e x=some (.pointer (some ⟨b,0,none⟩))) (hb:Blk w b T cs)
 (hl:cs.length=m):PR P n ⟨d,.load t x,ty,pos,af,g⟩ e w (.agg cs.toArray):=
 Zy hA hx hb hl (by rw [YbR,XH (by omega)])
def Z4I (w:World) (T:TypeId) (cs:List Value) (v:Value) (w':World):Prop:=∃ b,v=.pointer (some ⟨b,0,none⟩)/\w.heap.size<=b/\Blk w' b T cs/\Stp [] w w'
theorem Z6s (w:World) (T:TypeId) (cs:List Value):Z4I w T cs (.pointer (some ⟨w.heap.size,0,none⟩)) (w.alloc (.cells cs.toArray T)):=
 ⟨_,rfl,Xm _,heap_alloc_new w _,Stp.alloc _ _ _⟩
theorem Zs {o:Oper} {G:Value->World->Prop} {v:Value} {w':World} (h:∀ a,Has n e a->(execOp a.eval o).run P w=.ok (.value v) w') (hg:G v w'):OE P n o e w G:=
 ⟨λa ha Q=>by unfold Oper.wp;rw [h a ha];exact ⟨v,rfl,hg⟩⟩
theorem Z1p {o:Oper} {G:Value->World->Prop} {w':World} (h:∀ a,Has n e a->(execOp a.eval o).run P w=.ok .skip w') (hg:G undef w'):OE P n o e w G:=
 ⟨λa ha Q=>by unfold Oper.wp;rw [h a ha];exact ⟨undef,rfl,hg⟩⟩
theorem OE.mono {o:Oper} {G G':Value->World->Prop} (h:OE P n o e w G) (hg:∀ v w',G v w'->G' v w'):OE P n o e w G':=
 ⟨λa ha Q=>Oper.wp_mono (λa' w' ⟨v,h1,h2⟩=>⟨v,h1,hg v w' h2⟩) (h.h a ha Q)⟩
theorem Z4 {t:TypeId} {z:Value} [hz:Zer P t z]:OE P n ⟨d,.alloc t,ty,pos,af,g⟩ e w (Z4I w t z.cells.toList):=
 Zs (v:=.pointer (some ⟨w.heap.size,0,none⟩)) (w':=w.alloc (.cells z.cells t)) (λa ha=>by
  simp [execOp,Instr.alloc,Zer.run,newVar,newRow,newObj];rfl) (by simpa using Z6s w t z.cells.toList)
theorem Zl {t:TypeId} {x:Operand} {v:Value} (hx:ev e x=some v):OE P n ⟨d,.box t x,ty,pos,af,g⟩ e w (Z4I w t v.cells.toList):=
 Zs (v:=.pointer (some ⟨w.heap.size,0,none⟩)) (w':=w.alloc (.cells v.cells t)) (λa ha=>by
  simp [execOp,Instr.box,ha.ev hx,newVar,newRow,newObj];rfl) (by simpa using Z6s w t v.cells.toList)
theorem Z6t {α:Type} [Z1 α] {X:List Nat} {bU:World} {xs:List α} {t:TypeId} {x:Operand} {v:Value} (hx:ev e x=some v) (hs:SlV X bU v xs):OE P n ⟨d,.box t x,ty,pos,af,g⟩ e w (Z4I w t [v]):=by
 rw [<- hs.cells];exact Zl hx
theorem JB (w:World) (b:Nat) (cs:Array Value):Stp [b] w (w.setRow b cs):=
 ⟨rfl,rfl,rfl,by simp,λk hk hn=>setRow_other w b k cs (by simpa using hn)⟩
theorem Z4J {b T o m t:Nat} {cs us:List Value} {x y:Operand} {u:Value} [bw:Siz P t m] (hx:ev e x=some (.pointer (some ⟨b,o,none⟩))) (hy:ev e y=some u) (hu:u.cells.toList=us) (hm:us.length=m) (h1:∀ c∈us,c.oneCell'=true)
 (hb:Blk w b T cs) (hl:o+us.length<=cs.length):OE P n ⟨d,.store t x y,ty,pos,af,g⟩ e w (λ_ w'=>Stp [b] w w'/\Blk w' b T (cs.take o++us++cs.drop (o+us.length))):=by
 have ax:=run_storeCells_at P b o T us 0 cs.toArray w hb (by simpa using hl) h1;refine Z1p (w':=w.setRow b (cs.take o++us++cs.drop (o+us.length)).toArray) (λa ha=>?_) ⟨JB _ _ _,setRow_heap w b cs.toArray _ T (0,0) hb⟩;have aH:u.cells.size=m:=by rw [<- hm,<- hu,XK]
 simp only [YaY] at ax;simp [execOp,ha.ev hx,ha.ev hy,Instr.storeAt,Instr.sureAddr,storeVar,Siz.run,aH,hu,ax]
theorem Jf {b T m t:Nat} {cs us:List Value} {x y:Operand} {u:Value} [bw:Siz P t m] (hx:ev e x=some (.pointer (some ⟨b,0,none⟩))) (hy:ev e y=some u) (hu:u.cells.toList=us) (hm:us.length=m) (h1:∀ c∈us,c.oneCell'=true)
 (hb:Blk w b T cs) (hl:us.length=cs.length):OE P n ⟨d,.store t x y,ty,pos,af,g⟩ e w (λ_ w'=>Stp [b] w w'/\Blk w' b T us):=
 (Z4J hx hy hu hm h1 hb (by omega)).mono (λ_ w' ⟨h2,h3⟩=>⟨h2,by simpa [hl] using h3⟩)
theorem Zj {b T o t:Nat} {cs:List Value} {x y:Operand} {u:Value} [bw:Siz P t 1] (hx:ev e x=some (.pointer (some ⟨b,o,none⟩))) (hy:ev e y=some u) (hu:u.cells.toList=[u]) (h1:u.oneCell'=true)
 (hb:Blk w b T cs) (hl:o<cs.length):OE P n ⟨d,.store t x y,ty,pos,af,g⟩ e w (λ_ w'=>Stp [b] w w'/\Blk w' b T (cs.set o u)):=
 (Z4J hx hy hu rfl (by simpa using h1) hb (by simp; omega)).mono (λ_ w' ⟨h2, h3⟩ => ⟨h2, by
   rw [YaH,if_pos hl];simpa using h3⟩)
end rules
def ob:Value->List Nat
 | .slice (some a) _ _=>[a.block]
 | _=>[]
theorem Z8L (v:Value):v.ownBlock.toList=ob v:=by
 cases v<;>try rfl
 rename_i a _ _;cases a<;>rfl
def Row {α:Type} [Z1 α] (X:List Nat) (w:World) (base T:Nat) (v:Value) (xs:List α):Prop:=
 ∃ css:List (List Value),css.length=xs.length/\(∀ i (h:i<xs.length) (h':i<css.length),Z1.rep (ob v++X) w xs[i] css[i])/\w.ownsRow base T (Z1.k α) v xs.length css.flatten
section row
variable {α:Type} [Z1 α] {X:List Nat} {w w':World} {base T:Nat} {v:Value} {xs:List α}
theorem Row.nil:Row (α:=α) X w base T (.slice none 0 0) []:=
 ⟨[],rfl,λi h=>absurd h (XC _),by simpa using World.ownsRow_nil w base T (Z1.k α)⟩
theorem Row.ob_le (h:Row X w base T v xs):∀ b∈ob v,base<=b/\b<w.heap.size:=by
 obtain ⟨css,_,_,ho⟩:=h;intro b hb;rw [<- Z8L] at hb;exact ho.lt b (by simpa using hb)
theorem Row.ext {S X':List Nat} (h:Row X w base T v xs) (hS:Stp S w w') (h1:∀ b∈S,b∈X/\b∉ob v) (h2:∀ b∈X',b∈X\/w.heap.size<=b):Row X' w' base T v xs:=by
 obtain ⟨css,hl,hr,ho⟩:=h;refine ⟨css,hl,λi hi bV=>Z1.ext (hr i hi bV) hS (λb hb=>by simp [(h1 b hb).1]) (λb hb=>?_),?_⟩;simp only [Xg] at hb ⊢;rcases hb with hb|hb
 exact .inl (.inl hb);rcases h2 b hb with h|h
 exact .inl (.inr h);exact .inr h;refine ⟨ho.1,?_⟩;rcases ho.2 with hn|⟨q,cap,cur,rfl,hb,hg,rest⟩
 exact .inl hn;refine .inr ⟨q,cap,cur,rfl,hb,?_,rest⟩;rw [hS.block q (Xi.1 hg).1 (λhq=>(h1 q hq).2 (by simp [ob]))];exact hg
theorem Row.up (h:Row X w base T v xs) (hS:Stp [] w w'):Row X w' base T v xs:=h.ext hS (by simp) (λb hb=>.inl hb)
theorem JC {k:Nat}:∀ (css:List (List Value)),(∀ c∈css,c.length=k)->∀ (i:Nat) (hi:i<css.length) (j:Nat) (u:Value),css[i][j]?=some u->css.flatten[i * k+j]?=some u
 | [],_,i,hi,_,_,_=>absurd hi (XC _)
 | c :: r, hk, 0, _, j, u, hu => by
   have hj:j<c.length:=(Xn.1 hu).1;simp only [Yai,Nat.zero_mul,XO];rw [Yae hj];exact hu
 | c :: r, hk, i + 1, hi, j, u, hu => by
   have ih:=JC r (λc hc=>hk c (by simp [hc])) i (by simpa using hi) j u (by simpa using hu);have hc:=hk c (by simp);simp only [Yai];rw [Yaz (by rw [hc,Yaa];omega),hc];rw [show (i+1) * k+j - k=i * k+j by rw [Yaa];omega];exact ih
theorem Row.slv (h:Row X w base T v xs) (hX:∀ b∈X,b<base):SlV X w v xs:=by
 obtain ⟨css,hl,hr,ho⟩:=h;have hk:∀ c∈css,c.length=Z1.k α:=by
  intro c hc;obtain ⟨i,hi,rfl⟩:=Xq hc;exact Z1.len (hr i (by omega) hi)
 rcases ho.2 with ⟨rfl,hn⟩|⟨q,cap,cur,rfl,hb,hg,bj,aW,aH,ht⟩
 exact ⟨none,0,by rw [hn],by omega,by simp [maxLen],λ_=>rfl,λi hi=>by omega⟩;refine ⟨some ⟨q,0,none⟩,cap,rfl,bj,aW,λh=>by simp at h,λi hi=>?_⟩;refine ⟨q,0,css[i]'(by omega),rfl,(Xi.1 hg).1,λhx=>by have:=hX q hx;omega,?_,λj u hu=>?_⟩;exact Z1.ext (hr i hi (by omega)) (Stp.refl [] w) (by simp) (λb hb=>.inl (by simp [hb]));have h1:=JC css hk i (by omega) j u hu;rw [<- ht,Yab] at h1;split at h1;have h2:cur[i * Z1.k α+j]?=some u:=by simpa using h1
 rw [XO,cell_of_row w q _ cur T (0,0) hg];exact h2;cases h1
theorem Z32 {P:Program} {t ty e size bytes:Nat} {i:TypeInfo} {z:Value} (ht:P.underlying t=some (.slice e)) (hi:P.info? e=some i) (hz:i.zero=some z)
 (je:i.size=size) (lc:i.bytes=bytes) {v:Value} {n:Nat} {cs:List Value} (bA:w.ownsRow base e size v n cs)
 {a:Addr} {m c:Nat} {news:List Value} (hl:news.length=m * size) (bP:∀ j u,news[j]?=some u->w.cell? (a.add j)=some u) (h1:∀ u∈news,u.oneCell'=true)
 (pJ:n+m<=maxLen) (hbytes:(n+m) * bytes<=140737488355328) {v':Value} {w':World} (hr:(Builtin.append_ #[t,t] ty #[v,.slice (some a) m c]).run P w=.ok v' w') :
 ∀ b∈ob v',b∈ob v\/w.heap.size<=b:=by
 subst je;subst lc;have hsmall:n+m<=9223372036854775807:=by simp only [maxLen] at pJ;omega
 rcases bA.2 with ⟨rfl,rfl⟩|⟨q,cap,cur,rfl,sO,hg,bj,aW,aH,nP⟩
 by_cases hm:m=0;subst hm;have hn:news=[]:=Yau (by simpa using hl);subst hn;have:(Builtin.append_ #[t,t] ty #[.slice none 0 0,.slice (some a) 0 c]).run P w=.ok (.slice none 0 0) w:=by
  simp [Builtin.append_,run_underlying ht,sizeOf,typeInfo,hi,Builtin.lenOf,Builtin.firstCells,loadCells,loadCellsFrom]
 rw [this] at hr;cases hr;simp [ob];have h:=run_append_nil (P:=P) w t ty e i z ht hi hz a m c news hl bP (by omega) (by omega) (by have hb:=hbytes;simp only [XO] at hb;omega);rw [h] at hr;cases hr;simp [ob];by_cases gf:n+m<=cap;have aN:n * i.size+news.length<=cur.size:=by rw [hl,aH,<- YbS];exact Xt _ gf
 have h:=run_append_room (P:=P) w t ty e i ht hi q n cap cur hg a m c news hl bP h1 gf aN;rw [h] at hr;cases hr;simp [ob];have holds:∀ j u,cs[j]?=some u->w.cell? ((⟨q,0,none⟩:Addr).add j)=some u:=bA.cells (g:=q) rfl;have h:=run_append_grow (P:=P) w t ty e i z ht hi hz ⟨q,0,none⟩ n cap cs bA.1 holds a m c news hl bP (by omega) (by omega) (growslice_fits (by omega) hbytes);rw [h] at hr;cases hr;simp [ob]
def Z7k (X:List Nat) (w:World) (base T:Nat) (v:Value) (xs ys:List α) (v':Value) (w':World):Prop:=
 Row X w' base T v' (xs++ys)/\Stp (ob v) w w'/\∀ b∈ob v',b∈ob v\/w.heap.size<=b
theorem ZJ {P:Program} {n:Nat} {e:Env} {d:Option Nat} {ty:TypeId} {pos:String} {af:Array Edge} {g:Option (Nat×Bool)} {x y:Operand} {t bytes:Nat} {u:Value} {z:Value} {ys:List α}
 [ht:Und P t (.slice T)] [hk:Siz P T (Z1.k α)] [hb:Byt P T bytes] [hz:Zer P T z] (ee:z.cells.size=Z1.k α) (aO:0<Z1.k α)
 (hx:ev e x=some v) (hy:ev e y=some u) (ac:Row X w base T v xs) (bZ:SlV (ob v++X) w u ys) (hbytes:(xs.length+ys.length) * bytes<=140737488355328) (am:xs.length+ys.length<=maxLen) (aF:base<=w.heap.size) :
 OE P n ⟨d,.call { callee:=.builtin .append,args:=#[x,y],argTypes:=#[t,t] },ty,pos,af,g⟩ e w (Z7k X w base T v xs ys):=by
 obtain ⟨i,hi,cY,dY,fD⟩:∃ i,P.info? T=some i/\i.size=Z1.k α/\i.bytes=bytes/\i.zero=some z:=by
  have a1:=hk.h;have a2:=hb.h;have a3:=hz.h;cases hi:P.info? T with
  | none=>simp [hi] at a1
  | some i=>exact ⟨i,rfl,by simpa [hi] using a1,by simpa [hi] using a2,by simpa [hi] using a3⟩
 have gg:=ac;obtain ⟨css,hl,hr,ho⟩:=ac;obtain ⟨p,c,rfl,cQ,sP,pK,nQ⟩:=bZ;have ld:∃ dss:List (List Value),dss.length=ys.length/\(∀ j (h:j<ys.length) (h':j<dss.length),Z1.rep (ob v++X) w ys[j] dss[j]/\∃ b o,p=some ⟨b,o,none⟩/\∀ q u,dss[j][q]?=some u->w.cell? ⟨b,o+j * Z1.k α+q,none⟩=some u):=by
  have:∀ j:Fin ys.length,∃ ds:List Value,Z1.rep (ob v++X) w ys[j] ds/\∃ b o,p=some ⟨b,o,none⟩/\∀ q u,ds[q]?=some u->w.cell? ⟨b,o+j * Z1.k α+q,none⟩=some u:=by
   intro j;obtain ⟨b,o,cs,h1,h2,h3,h4,h5⟩:=nQ j j.2;exact ⟨cs,h4,b,o,h1,h5⟩
  obtain ⟨f,hf⟩:=Classical.axiomOfChoice this;refine ⟨List.ofFn f,by simp,λj h h'=>?_⟩;have:=hf ⟨j,h⟩;simpa using this
 obtain ⟨dss,kB,hd⟩:=ld;have kC:∀ c∈dss,c.length=Z1.k α:=by
  intro c hc;obtain ⟨q,hq,rfl⟩:=Xq hc;exact Z1.len (hd q (by omega) hq).1
 have gh:∀ (l:List (List Value)),(∀ c∈l,c.length=Z1.k α)->l.flatten.length=l.length * Z1.k α:=by
  intro l
  induction l with
  | nil=>intro _;simp
  | cons c r ih=>intro h;simp only [Yai,Xe,Xo,Yaa];rw [ih (λc hc=>h c (by simp [hc])),h c (by simp)];omega
 have az:∀ u∈dss.flatten,u.oneCell'=true:=by
  intro u hu;obtain ⟨c,hc,pL⟩:=List.mem_flatten.1 hu;obtain ⟨q,hq,rfl⟩:=Xq hc;exact Z1.one (hd q (by omega) hq).1 u pL
 have fin:∀ (v':Value) (w':World),w'.ownsRow base T (Z1.k α) v' (xs.length+ys.length) (css.flatten++dss.flatten)->Stp (ob v) w w'->(∀ b∈ob v',b∈ob v\/w.heap.size<=b)->Z7k X w base T v xs ys v' w':=by
  intro v' w' fE hS bQ;have hX:∀ b∈ob v'++X,b∈ob v++X\/w.heap.size<=b:=by
   intro b hb;simp only [Xg] at hb ⊢;rcases hb with hb|hb
   rcases bQ b hb with h|h
   exact .inl (.inl h);exact .inr h;exact .inl (.inr hb)
  have nT:∀ b∈ob v,b∈ob v++X:=λb hb=>by simp [hb]
  refine ⟨⟨css++dss,by simp [hl,kB],λi hi bV=>?_,?_⟩,hS,bQ⟩;by_cases ah:i<xs.length;rw [Yat ah,Yat (by omega)];exact Z1.ext (hr i ah (by omega)) hS nT hX;have dY:i<xs.length+ys.length:=by simpa using hi
  rw [Yaf (by omega),Yaf (by omega)];have:=Z1.ext (hd (i - xs.length) (by omega) (by omega)).1 hS nT hX;simpa [hl] using this;rw [List.flatten_append];simpa using fE
 cases p with
 | none=>
   have nU:ys.length=0:=by
    cases bZ:ys with
    | nil=>rfl
    | cons y r=>
      obtain ⟨b,o,cs,hp,_⟩:=nQ 0 (by simp [bZ]);simp at hp
   have iK:c=0:=pK rfl;subst iK;have cL:dss=[]:=Yau (by omega);subst cL;have aI:=run_append_owned_none (P:=P) w base t ty T i (Z1.k α) ht.h hi v xs.length css.flatten ho;refine Zs (v:=v) (w':=w) (λa ha=>?_) (fin v w (by simpa [nU] using ho) (Stp.refl _ _) (λb hb=>.inl hb));rw [nU] at hy;simp [execOp,resolve,invoke,builtin,ha.ev hx,ha.ev hy,aI]
 | some a=>
   have bP:∀ j u,dss.flatten[j]?=some u->w.cell? (a.add j)=some u:=by
    intro j u hj;have dB:j<dss.flatten.length:=(Xn.1 hj).1;rw [gh dss kC] at dB;have hq:j / Z1.k α<dss.length:=(Nat.div_lt_iff_lt_mul aO).2 dB;obtain ⟨h1,b,o,hp,ak⟩:=hd (j / Z1.k α) (by omega) hq;simp only [Xh] at hp;subst hp;have pM:j % Z1.k α<Z1.k α:=Nat.mod_lt _ aO;have nV:j / Z1.k α * Z1.k α+j % Z1.k α=j:=by rw [Ybn];exact Ybz j _
    have pN:dss[j / Z1.k α].length=Z1.k α:=kC _ (Xc hq);have bq:dss[j / Z1.k α][j % Z1.k α]?=some (dss[j / Z1.k α][j % Z1.k α]'(by omega)):=XN (by omega);have h2:=JC dss kC _ hq _ _ bq;rw [nV,hj] at h2;have h3:=ak _ _ bq;rw [Addr.add_lit];rw [YbJ,nV] at h3;rw [h3,h2]
   have cZ:dss.flatten.length=ys.length * Z1.k α:=by rw [gh dss kC,kB]
   obtain ⟨v',w',aI,h2,h3,h4⟩:=run_append_own (P:=P) w base t ty T i z (Z1.k α) bytes ht.h hi fD cY dY ee aO v xs.length css.flatten ho a ys.length c dss.flatten cZ bP az am hbytes aF;have ab:=Z32 (P:=P) ht.h hi fD cY dY ho cZ bP az am hbytes aI;have hS:Stp (ob v) w w':=by rw [<- Z8L];exact Stp.of_grown h3
   refine Zs (v:=v') (w':=w') (λa ha=>?_) (fin v' w' h2 hS ab);simp [execOp,resolve,invoke,builtin,ha.ev hx,ha.ev hy,aI]
end row
abbrev _root_.Go.Value.I (z:Int):Value:=.int .i64 z
abbrev _root_.Go.Value.N:Value:=.slice none 0 0
abbrev _root_.Go.Value.B (b:Bool):Value:=.bool b
abbrev aG {α:Type} [Z2 α] (x:α):Value:=.agg (Z2.enc x).toArray
theorem Stp.ow {S S':List Nat} {a b c:World} (h:Stp S a b) (k:Stp S' b c) (hs:∀ x∈S',x∈S\/a.heap.size<=x:=by intro c hc;exact .inr (by simp at hc;omega)):Stp S a c:=h.own k hs
theorem Stp.mn {S S':List Nat} {a b:World} (h:Stp S a b) (hs:∀ x∈S,x∈S':=by simp):Stp S' a b:=h.mono hs
abbrev pQ (b:Nat):Value:=.pointer (some ⟨b,0,none⟩)
class Rl (σ:Type) where
 rel:σ->World->World->Prop
 refl:∀ S w,rel S w w
 trans:∀ {S a b c},rel S a b->rel S b c->rel S a c
instance:Rl (List Nat):=⟨Stp,Stp.refl,λh k=>h.trans k⟩
section any
variable {P:Program} {ops:Array Oper} {md:Region.Mode} {σ:Type} [Rl σ] {S:σ} {Lt:Nat->Bool}
theorem ZiN {o:Oper} {a:Act} {w} {K:Act->World->Prop} {Q:Exit->Act->World->Prop} (h:o.wp P a w K (λ_ _ _=>False)):o.wp P a w K Q:=by
 unfold Oper.wp at *;generalize (execOp a.eval o).run P w=r at *;cases r with
 | ok n w'=>
   cases n<;>simp only [Oper.upon] at h ⊢
   case enter f args=>
    refine Calls.mono h (λe w'' he=>?_);cases e with
    | returned v=>exact he
    | panicked c=>exact he.elim
    | outgrown=>obtain ⟨_,_,hf⟩:=he;exact hf.elim
   all_goals exact h
 | halt x w'=>cases x<;>simp only [Oper.upon] at h
theorem Zcc {i:Nat} {K:Act->World->Prop} {Q:Exit->Act->World->Prop} {a:Act} {w} (h:wpOp P ops (λ_ _ _=>False) i K a w):wpOp P ops Q i K a w:=by
 unfold wpOp at *;cases ho:ops[i]? with
 | none=>simp only [ho] at h ⊢;exact h
 | some o=>
   simp only [ho] at h ⊢;split;rename_i hw;simp only [hw,if_true] at h;rcases h with h|⟨_,_,_,hf⟩
   exact .inl (ZiN h);exact hf.elim;rename_i hw;simp only [hw] at h;exact h
def Z0o (P:Program) (md:Region.Mode) (ops:Array Oper) {σ:Type} [Rl σ] (S:σ) (Lt:Nat->Bool) (Z:Act->World->Prop):Nat->Array Bool->Act->World->Prop
 | 0,listed,a,w=>Region.ready md ops listed=[]/\Z a w
 | fuel + 1, listed, a, w=>
   (Region.ready md ops listed=[]->Z a w)/\
   ∀ i∈Region.ready md ops listed,wpOp P ops (λ_ _ _=>False) i (λa' w'=>(Rl.rel S w w'\/Lt i=true)/\Z0o P md ops S Lt Z fuel (listed.setIfInBounds i true) a' w') a w
theorem Z0H {Z:Act->World->Prop} {Q:Exit->Act->World->Prop} (hZ:∀ a w,Z a w->Q .normal a w):∀ (fuel:Nat) (listed:Array Bool) (a:Act) (w),
 Z0o P md ops S Lt Z fuel listed a w->wpAny P md ops Q fuel listed a w
 | 0,_,_,_,h=>⟨h.1,hZ _ _ h.2⟩
 | fuel+1,_,_,_,h=>⟨λh0=>hZ _ _ (h.1 h0),λi hi=>wpOp_mono (λa' w' hk=>Z0H hZ fuel _ a' w' hk.2) (Zcc (h.2 i hi))⟩
def YE (P:Program) (ops:Array Oper) (R:World->World->Prop) (o:Oper) (v:Value) (a:Act) (w:World):Prop:=
 (Region.wanted o (yielded ops a.tmps)=true/\∀ w',R w w'->(execOp a.eval o).run P w'=.ok (.value v) w')\/
 (Region.wanted o (yielded ops a.tmps)=false/\v=undef)
theorem YE.same {R:World->World->Prop} {o:Oper} {v:Value} {a a':Act} {w} (hy:YE P ops R o v a w) (he:execOp a'.eval o=execOp a.eval o)
 (hw:Region.wanted o (yielded ops a'.tmps)=Region.wanted o (yielded ops a.tmps)):YE P ops R o v a' w:=by
 unfold YE at *;rw [he,hw];exact hy
theorem Za3 {Z:Act->World->Prop} {R:World->World->Prop} (eB:∀ w,R w w) (lf:∀ a b c,R a b->R b c->R a c) {i:Nat} {oi:Oper} {v:Value} (hi:ops[i]?=some oi)
 (lg:∀ j oj,ops[j]?=some oj->(∀ e∈oj.after,Region.binds md e=true->e.on≠i)->j≠i->∀ w w',(Rl.rel S w w'\/Lt j=true)->R w w')
 (eO:∀ (j:Nat) (o:Oper) cs b,ops[j]?=some o->o.op≠.select cs b) :
 ∀ (fuel : Nat) (listed : Array Bool) (a : Act) (w),
   (∀ j oj,ops[j]?=some oj->j≠i->listed.getD j true=false->(∀ e∈oj.after,Region.binds md e=true->e.on≠i)->oi.apart ops oj=true)->
   (Rl.rel S w w\/Lt i=true->True)->i∈Region.ready md ops listed->YE P ops R oi v a w->
   Z0o P md ops S Lt Z fuel (listed.setIfInBounds i true) (a.put oi.dst v) w->Z0o P md ops S Lt Z (fuel+1) listed a w:=by
 have now:∀ (fuel:Nat) (listed:Array Bool) (a:Act) (w:World),YE P ops R oi v a w->Z0o P md ops S Lt Z fuel (listed.setIfInBounds i true) (a.put oi.dst v) w->
  wpOp P ops (λ_ _ _=>False) i (λa' w'=>(Rl.rel S w w'\/Lt i=true)/\Z0o P md ops S Lt Z fuel (listed.setIfInBounds i true) a' w') a w:=by
  intro fuel listed a w hy H;unfold wpOp;simp only [hi];rcases hy with ⟨hw,hv⟩|⟨hw,rfl⟩
  simp only [hw,if_true,Oper.wp,hv w (eB w),Oper.upon];exact .inl ⟨.inl (Rl.refl _ _),H⟩;simp only [hw,Ybk,if_false];exact ⟨.inl (Rl.refl _ _),H⟩
 intro fuel
 induction fuel with
 | zero=>
   intro listed a w _ _ hr hy H;refine ⟨λh=>(by rw [h] at hr;cases hr),λj hj=>?_⟩;by_cases ck:j=i;subst ck;exact now _ _ _ _ hy H;have:=ready_mono hj ck;rw [H.1] at this;cases this
 | succ fuel ih=>
   intro listed a w dj hx hr hy H;refine ⟨λh=>(by rw [h] at hr;cases hr),λj hj=>?_⟩;by_cases ck:j=i;subst ck;exact now _ _ _ _ hy H;have h1:=H.2 j (ready_mono hj ck);obtain ⟨eP,oj,fF,aM⟩:=mem_ready.1 hj;have eQ:∀ e∈oj.after,Region.binds md e=true->e.on≠i:=λe he hb bo=>by
    have h1:=aM e he hb;have h0:=(mem_ready.1 hr).1;rw [bo] at h1;rcases YbC i listed.size with h'|h'
    simp [h'] at h0 h1;rw [h0] at h1;cases h1;simp [YaZ h'] at h1
   have hap:=dj j oj fF ck eP eQ;obtain ⟨p1,p2,p3⟩:=Oper.apart_spec hap;have keep:∀ (a:Act),YE P ops R oi v a w->∀ u,YE P ops R oi v (a.put oj.dst u) w:=λa hy u=>
    hy.same (execOp_put oi (λcs b=>eO i oi cs b hi) a oj.dst u p3) (wanted_put oi a oj.dst u p3)
   have keepD:∀ (a:Act) d,YE P ops R oi v a w->YE P ops R oi v { a with defers:=d :: a.defers } w:=λa d hy=>hy.same rfl rfl;have later:∀ (a:Act) w',(Rl.rel S w w'\/Lt j=true)->YE P ops R oi v a w->YE P ops R oi v a w':=λa w' hs hy=>by
    rcases hy with ⟨hw,hv⟩|hw
    exact .inl ⟨hw,λw'' h''=>hv w'' (lf _ _ _ (lg j oj fF eQ ck w w' hs) h'')⟩;exact .inr hw
   have dH:∀ k ok,ops[k]?=some ok->k≠i->(listed.setIfInBounds j true).getD k true=false->
    (∀ e∈ok.after,Region.binds md e=true->e.on≠i)->oi.apart ops ok=true:=λk ok hk gP jf bO=>by
    refine dj k ok hk gP ?_ bO;by_cases gj:j=k;subst gj;exact eP;rw [getD_set_ne true gj] at jf;exact jf
   have fin:∀ a' w',YE P ops R oi v a' w->(Rl.rel S w w'\/Lt j=true)/\Z0o P md ops S Lt Z fuel ((listed.setIfInBounds i true).setIfInBounds j true) (a'.put oi.dst v) w'->
    (Rl.rel S w w'\/Lt j=true)/\Z0o P md ops S Lt Z (fuel+1) (listed.setIfInBounds j true) a' w':=by
    rintro a' w' fG ⟨hs,hk⟩;refine ⟨hs,ih _ a' w' dH (λ_=>trivial) (ready_mono hr (Ne.symm ck)) (later a' w' hs fG) ?_⟩;rw [Array.setIfInBounds_comm _ _ ck];exact hk
   have lh:∀ cs b,oj.op≠.select cs b:=λcs b=>eO j oj cs b fF;unfold wpOp at *;simp only [fF] at *;rw [wanted_put oj a oi.dst v p1] at h1;split
   . rename_i hw
     simp only [hw,if_true] at h1;rcases h1 with h1|⟨_,_,_,hf⟩
     case inr=>exact hf.elim
     refine .inl ?_;unfold Oper.wp at *;rw [execOp_put oj lh a oi.dst v p1] at h1;generalize (execOp a.eval oj).run P w=r at *;cases r with
     | ok n w'=>
       cases n<;>simp only [Oper.upon] at h1 ⊢
       case value u=>exact fin _ _ (keep a hy u) (by rw [<- Act.put_comm a v u p2];exact h1)
       case skip=>exact fin _ _ (keep a hy _) (by rw [<- Act.put_comm a v undef p2];exact h1)
       case defer d=>
        refine fin _ _ (keep _ (keepD a d hy) _) ?_;rw [<- Act.put_comm _ v undef p2,<- Act.put_defers];exact h1
       case enter f args=>
        refine Calls.mono h1 λe w'' he=>?_;cases e with
        | returned u=>exact fin _ _ (keep a hy u) (by rw [<- Act.put_comm a v u p2];exact he)
        | panicked c=>exact he
        | outgrown=>exact he
       case row row args=>exact Rows.mono h1 λu w'' he=>fin _ _ (keep a hy u) (by rw [<- Act.put_comm a v u p2];exact he)
     | halt x w'=>
       cases x<;>simp only [Oper.upon] at h1
   rename_i hw;simp only [hw] at h1;exact fin _ _ (keep a hy _) (by rw [<- Act.put_comm a v undef p2];exact h1)
end any
def Zis (ops:Array Oper) (Lt:List Nat) (i:Nat):Bool:=
 Lt.all λj=>j == i || (match ops[j]? with|some oj=>oj.after.any (λe=>Region.binds .any e && e.on == i)|none=>true)
def bits (m:Nat):List Nat:=(List.range 64).filter (λj=>m.testBit j)
def ZaM:List Nat->List (List Nat)
 | []=>[[]]
 | x :: r=>ZaM r++(ZaM r).map (x :: ·)
def lst (listed:Array Bool) (is rem:List Nat):Array Bool:=Array.ofFn (n:=listed.size) λj=>listed[j] || (is.contains j.val && !rem.contains j.val)
def wt:List (Nat×Nat)->Nat
 | []=>0
 | (_,k) :: r=>(if k<100000 then 1 else (bits (k - 100000)).length)+wt r
theorem JK {i k:Nat} {r:List (Nat×Nat)} (h:k<100000):wt ((i,k) :: r)=wt r+1:=by simp [wt,h];omega
def ZA (ops:Array Oper) (Lt:List Nat):List (Nat×Nat)->Option Nat->Array Bool->Bool
 | [],sk,listed=>sk.isNone && (Region.ready .any ops listed).isEmpty
 | (i,0) :: r,sk,listed=>(Region.ready .any ops listed).contains i && Region.free .any ops listed i && ZA ops Lt r sk (listed.setIfInBounds i true)
 | (i,1) :: r,sk,listed=>(Region.ready .any ops listed).contains i && Region.free .any ops listed i && Zis ops Lt i && ZA ops Lt r sk (listed.setIfInBounds i true)
 | (i,2) :: r,sk,listed=>if sk=some i then ZA ops Lt r none listed else Region.ready .any ops listed == [i] && ZA ops Lt r sk (listed.setIfInBounds i true)
 | (i, q + 3) :: r, sk, listed => if sk = some q /\ q + 3 < 100000 then (Region.ready .any ops listed == [i] && ZA ops Lt r sk (listed.setIfInBounds i true)) else sk.isNone && if q + 3 < 100000 then (Region.ready .any ops listed == [i, q] && ZA ops Lt r none (listed.setIfInBounds i true) && Region.ready .any ops (listed.setIfInBounds q true) == [i] && ZA ops Lt r (some q) ((listed.setIfInBounds q true).setIfInBounds i true))
   else (ZaM (bits (q+3 - 100000))).all (λrem=>rem.isEmpty || Region.ready .any ops (lst listed (bits (q+3 - 100000)) rem) == rem) && ZA ops Lt r none (lst listed (bits (q+3 - 100000)) [])
def ZW (ops:Array Oper) (Lt:List Nat) (ord:List (Nat×Nat)) (listed:Array Bool):Bool:=ZA ops Lt ord none listed
def Z1R (q:Nat):List (Nat×Nat)->List (Nat×Nat)
 | []=>[]
 | (i,2) :: r=>if i=q then r else (i,2) :: Z1R q r
 | (i,0) :: r=>(i,0) :: Z1R q r
 | (i,1) :: r=>(i,1) :: Z1R q r
 | (i,k+3) :: r=>if k=q/\k+3<100000 then (i,2) :: Z1R q r else (i,k+3) :: Z1R q r
theorem Z0I {ops:Array Oper} {Lt:List Nat} {q:Nat}:∀ (r:List (Nat×Nat)) (listed:Array Bool),ZA ops Lt r (some q) listed=true->ZA ops Lt (Z1R q r) none listed=true/\wt r=wt (Z1R q r)+1
 | [],listed,h=>by simp [ZA] at h
 | (i, 0) :: r, listed, h => by
   simp only [ZA,Xa] at h;obtain ⟨h1,h2⟩:=Z0I r _ h.2;simp only [Z1R,ZA,Xa];exact ⟨⟨h.1,h1⟩,by simp [wt,h2];omega⟩
 | (i, 1) :: r, listed, h => by
   simp only [ZA,Xa] at h;obtain ⟨h1,h2⟩:=Z0I r _ h.2;simp only [Z1R,ZA,Xa];exact ⟨⟨h.1,h1⟩,by simp [wt,h2];omega⟩
 | (i, 2) :: r, listed, h => by
   by_cases e:i=q;subst e;simp only [ZA,if_pos] at h;simp only [Z1R,if_pos];exact ⟨h,by simp [wt];omega⟩;have e':¬ (some q=some i):=by simpa using λh=>e h.symm
   simp only [ZA,if_neg e',Xa] at h;obtain ⟨h1,h2⟩:=Z0I r _ h.2;simp only [Z1R,if_neg e,ZA];refine ⟨?_,by simp [wt,h2];omega⟩;rw [if_neg (by simp)];simp only [Xa];exact ⟨h.1,h1⟩
 | (i, k + 3) :: r, listed, h => by
   by_cases e:k=q/\k+3<100000;simp only [ZA] at h;rw [if_pos ⟨by rw [e.1],e.2⟩] at h;simp only [Xa] at h;obtain ⟨h1,h2⟩:=Z0I r _ h.2;simp only [Z1R,if_pos e,ZA];refine ⟨?_,by rw [JK e.2,JK (by decide),h2]⟩;rw [if_neg (by simp)];simp only [Xa];exact ⟨h.1,h1⟩;simp only [ZA] at h;rw [if_neg (λh'=>e ⟨(XU h'.1).symm,h'.2⟩)] at h;simp at h
structure WG (P:Program) (n:Nat) (ops:Array Oper) {σ:Type} [Rl σ] (S:σ) (Lt:List Nat) (Q:Exit->Act->World->Prop) (ord:List (Nat×Nat)) (e:Env) (w:World):Prop where
 h:∀ listed:Array Bool,Region.noSelect ops=true->ZW ops Lt ord listed=true->∀ a,Has n e a->Z0o P .any ops S (λj=>Lt.contains j) (λa w=>Q .normal a w) (wt ord) listed a w
section rules
variable {P:Program} {n:Nat} {Q:Exit->Act->World->Prop} {e:Env} {w:World} {ops:Array Oper} {σ:Type} [Rl σ] {S:σ} {Lt:List Nat} {rest:List (Nat×Nat)}
theorem Z5O {id:Nat} {l:List Oper} (m:Nat) {σ:Type} [Rl σ] (S:σ) (Lt:List Nat) (ord:List (Nat×Nat)) (dl:l.length=m) (hm:P.follows .mixedOrders=true) (hs:Region.noSelect l.toArray=true) (hl:Nat.beq (wt ord) l.length=true)
 (hB:ZW l.toArray Lt ord (Array.replicate m false)=true)
 (h:∀ w',Stp [] w w'->WG P n l.toArray S Lt Q ord e w'):WC P n (.region id l.toArray true) Q e w:=by
 subst dl;refine ⟨λa ha=>wp_region_any hm ?_⟩;have h1:=(h { w with drawn:=w.drawn+1 } (Stp.drew [] w)).h _ hs hB a ha;have h2:=Z0H (Q:=Q) (λa w hz=>hz) _ _ _ _ h1;rw [Xk hl] at h2;simpa using h2
theorem Z3F (h:WQ n Q .normal e w):WG P n ops S Lt Q [] e w:=
 ⟨λ_ _ hB a ha=>⟨by simpa [ZW,ZA] using hB,h.h a ha⟩⟩
def Z0f (ops:Array Oper) (e:Env):Option (Nat×Bool)->Prop
 | none=>True
 | some (j,b)=>yld ops e j=some (.B b)
theorem Z0E {o:Oper} {a:Act} (ha:Has n e a) (hg:Z0f ops e o.guard):Region.wanted o (yielded ops a.tmps)=true:=by
 unfold Region.wanted;cases iL:o.guard with
 | none=>rfl
 | some jb=>
   obtain ⟨j,b⟩:=jb;rw [iL] at hg;simp [Z4H ha hg]
theorem Z7l {i d:Nat} {o:Oper} {v:Value} (hi:ops[i]?=some o) (hd:o.dst=some d) (hY:∀ a,Has n e a->YE P ops (λ_ _=>True) o v a w) (aD:Nat.blt d n=true)
 (k:WG P n ops S Lt Q rest ((d,v) :: e) w):WG P n ops S Lt Q ((i,0) :: rest) e w:=by
 refine ⟨λlisted hs hB a ha=>?_⟩;simp only [ZW,ZA,Xa] at hB;obtain ⟨⟨h1,h2⟩,h3⟩:=hB;have hk:=k.h _ hs h3 _ (ha.put (v:=v) aD);rw [<- hd] at hk;rw [JK (by decide)];exact Za3 (R:=λ_ _=>True) (λ_=>trivial) (λ_ _ _ _ _=>trivial) hi (λ_ _ _ _ _ _ _ _=>trivial) (Region.noSelect_spec hs) _ _ _ _ (Region.free_spec hi h2) (λ_=>trivial) (by simpa using h1) (hY a ha) hk
theorem Z8M {i j:Nat} {oj:Oper} (hb:Zis ops Lt i=true) (hj:ops[j]?=some oj) (hn:∀ e∈oj.after,Region.binds .any e=true->e.on≠i) (ck:j≠i):Lt.contains j=false:=by
 cases hc:Lt.contains j with
 | false=>rfl
 | true=>
   have hm:j∈Lt:=by simpa using hc
   have:=(XS.1 hb) j hm;simp only [hj,YbA,beq_iff_eq,ck,false_or] at this;obtain ⟨e,he,lj⟩:=Array.any_eq_true'.1 this;simp only [Xa,beq_iff_eq] at lj;exact absurd lj.2 (hn e he lj.1)
theorem Z7m {i d:Nat} {o:Oper} {v:Value} (hi:ops[i]?=some o) (hd:o.dst=some d) (hY:∀ a,Has n e a->YE P ops (Rl.rel S) o v a w) (aD:Nat.blt d n=true)
 (k:WG P n ops S Lt Q rest ((d,v) :: e) w):WG P n ops S Lt Q ((i,1) :: rest) e w:=by
 refine ⟨λlisted hs hB a ha=>?_⟩;simp only [ZW,ZA,Xa] at hB;obtain ⟨⟨⟨h1,h2⟩,hb⟩,h3⟩:=hB;have hk:=k.h _ hs h3 _ (ha.put (v:=v) aD);rw [<- hd] at hk;rw [JK (by decide)];refine Za3 (R:=Rl.rel S) (λw=>Rl.refl _ w) (λ_ _ _ h k=>Rl.trans h k) hi (λj oj hj hn ck w w' hs=>?_) (Region.noSelect_spec hs) _ _ _ _ (Region.free_spec hi h2) (λ_=>trivial) (by simpa using h1) (hY a ha) hk;rcases hs with hs|hs
 exact hs;rw [Z8M hb hj hn ck] at hs;cases hs
variable {i d:Nat} {op:Op} {ty:TypeId} {pos:String} {af:Array Edge} {gd:Option (Nat×Bool)} {v:Value}
theorem Zg (hi:ops[i]?=some ⟨some d,op,ty,pos,af,gd⟩) (hg:Z0f ops e gd) (hp:∀ w',PR P n ⟨some d,op,ty,pos,af,gd⟩ e w' v) (aD:Nat.blt d n=true)
 (k:WG P n ops S Lt Q rest ((d,v) :: e) w):WG P n ops S Lt Q ((i,0) :: rest) e w:=
 Z7l hi rfl (λa ha=>.inl ⟨Z0E ha hg,λw' _=>(hp w').h a ha⟩) aD k
theorem Za4 (hi:ops[i]?=some ⟨some d,op,ty,pos,af,gd⟩) (hg:Z0f ops e gd) (hp:∀ w',Rl.rel S w w'->PR P n ⟨some d,op,ty,pos,af,gd⟩ e w' v) (aD:Nat.blt d n=true)
 (k:WG P n ops S Lt Q rest ((d,v) :: e) w):WG P n ops S Lt Q ((i,1) :: rest) e w:=
 Z7m hi rfl (λa ha=>.inl ⟨Z0E ha hg,λw' hw=>(hp w' hw).h a ha⟩) aD k
theorem Z7n (hi:ops[i]?=some ⟨some d,op,ty,pos,af,gd⟩) (hg:noB ops e gd=true) (aD:Nat.blt d n=true)
 (k:WG P n ops S Lt Q rest ((d,undef) :: e) w):WG P n ops S Lt Q ((i,0) :: rest) e w:=
 Z7l hi rfl (λa ha=>.inr ⟨Z0G ha hg,rfl⟩) aD k
theorem Z7o (hi:ops[i]?=some ⟨some d,op,ty,pos,af,gd⟩) (hg:noB ops e gd=true) (aD:Nat.blt d n=true)
 (k:WG P n ops S Lt Q rest ((d,undef) :: e) w):WG P n ops S Lt Q ((i,1) :: rest) e w:=
 Z7m hi rfl (λa ha=>.inr ⟨Z0G ha hg,rfl⟩) aD k
structure WG1 (P:Program) (n:Nat) (ops:Array Oper) {σ:Type} [Rl σ] (S:σ) (Lt:List Nat) (Q:Exit->Act->World->Prop) (i:Nat) (ord:List (Nat×Nat)) (e:Env) (w:World):Prop where
 h : ∀ listed : Array Bool, Region.noSelect ops = true -> ZW ops Lt ord (listed.setIfInBounds i true) = true -> ∀ a, Has n e a->
   wpOp P ops (λ_ _ _=>False) i (λa' w'=>(Rl.rel S w w'\/Lt.contains i=true)/\Z0o P .any ops S (λj=>Lt.contains j) (λa w=>Q .normal a w) (wt ord) (listed.setIfInBounds i true) a' w') a w
theorem Zcd {o:Oper} {dst:Option Nat} {G:Value->World->Prop} (hi:ops[i]?=some o) (eT:o.dst=dst) (hg:Z0f ops e o.guard) (hp:OE P n o e w (λv w'=>(Rl.rel S w w'\/Lt.contains i=true)/\G v w'))
 (k:∀ v w' a',G v w'->∀ a,Has n e a->a'=a.put dst v->∃ e',Has n e' a'/\WG P n ops S Lt Q rest e' w'):WG1 P n ops S Lt Q i rest e w:=by
 refine ⟨λlisted hs h3 a ha=>?_⟩;unfold wpOp;simp only [hi];rw [if_pos (Z0E ha hg)];refine .inl (Oper.wp_mono ?_ (hp.h a ha _));rintro a' w' ⟨v,rfl,kD,hG⟩;obtain ⟨e',lm,hk⟩:=k v w' (a.put o.dst v) hG a ha (by rw [eT]);exact ⟨kD,hk.h _ hs h3 _ lm⟩
theorem Zce (h:WG1 P n ops S Lt Q i rest e w):WG P n ops S Lt Q ((i,2) :: rest) e w:=by
 refine ⟨λlisted hs hB a ha=>?_⟩;simp only [ZW,ZA] at hB;rw [if_neg (by simp)] at hB;simp only [Xa,beq_iff_eq] at hB;obtain ⟨h1,h3⟩:=hB;rw [JK (by decide)];refine ⟨λh0=>absurd (h1 ▸ h0) (by simp),λj hj=>?_⟩;rw [h1] at hj;obtain rfl:j=i:=by simpa using hj
 exact h.h _ hs h3 a ha
theorem Z6u {q:Nat} (hq:Nat.blt (q+3) 100000=true) (h1:WG1 P n ops S Lt Q i rest e w) (h2:WG1 P n ops S Lt Q q ((i,2) :: Z1R q rest) e w):WG P n ops S Lt Q ((i,q+3) :: rest) e w:=by
 refine ⟨λlisted hs hB a ha=>?_⟩;have gQ:q+3<100000:=Xb hq;simp only [ZW,ZA] at hB;rw [if_neg (by simp),if_pos gQ] at hB;simp only [Xa,beq_iff_eq] at hB;obtain ⟨_,⟨⟨hr,dD⟩,cM⟩,h3⟩:=hB;obtain ⟨h4,h5⟩:=Z0I _ _ h3;have hw:wt ((i,q+3) :: rest)=wt rest+1:=JK gQ;rw [hw];refine ⟨λh0=>absurd (hr ▸ h0) (by simp),λj hj=>?_⟩;rw [hr] at hj;have c2:ZW ops Lt ((i,2) :: Z1R q rest) (listed.setIfInBounds q true)=true:=by
  simp only [ZW,ZA];rw [if_neg (by simp)];simp only [Xa,beq_iff_eq];exact ⟨cM,h4⟩
 have gk:wt rest=wt ((i,2) :: Z1R q rest):=by rw [JK (by decide),h5]
 have eC:j=i\/j=q:=by simpa using hj
 rcases eC with rfl|rfl
 exact h1.h _ hs dD a ha;rw [gk];exact h2.h _ hs c2 a ha
theorem Z4K:∀ {is rem:List Nat},rem.Sublist is->rem∈ZaM is
 | [],rem,h=>by simp at h;simp [ZaM,h]
 | x :: r, rem, h => by
   simp only [ZaM,Xg,XE];cases h with
   | cons _ h=>exact .inl (Z4K h)
   | cons_cons _ h=>exact .inr ⟨_,Z4K h,rfl⟩
theorem Zfg (listed:Array Bool) (is:List Nat):lst listed is is=listed:=by
 apply Array.ext;simp [lst];intro j h1 h2;simp only [lst,Array.getElem_ofFn];cases is.contains j<;>simp
theorem Zcf {listed:Array Bool} {is rem:List Nat} {j:Nat} (hn:rem.Nodup) (hr:rem.Sublist is) (hj:j∈rem):(lst listed is rem).setIfInBounds j true=lst listed is (rem.erase j):=by
 apply Array.ext;simp [lst];intro m h1 h2;have hm:m<listed.size:=by simpa [lst] using h2
 rw [Array.getElem_setIfInBounds];simp only [lst,Array.getElem_ofFn];by_cases e:j=m;subst e;have h3:is.contains j=true:=by simpa using hr.subset hj
 have h4:(rem.erase j).contains j=false:=by
  have:=hn.not_mem_erase (a:=j);simpa using this
 simp only [h3,h4,if_true,Bool.not_false,Bool.and_true,Bool.or_true];rw [if_neg e];have:(rem.erase j).contains m=rem.contains m:=by
  rw [Ybi];simp only [List.contains_iff_mem];exact List.mem_erase_of_ne (λh=>e h.symm)
 rw [this];simpa [lst] using hm
theorem ZiO {q:Nat} (is:List Nat) (J:List Nat->World->Prop) (hq:Nat.ble 100000 (q+3)=true) (fr:bits (q+3 - 100000)=is) (dZ:is.Nodup) (h0:J is w)
 (step:∀ rem j w',rem.Sublist is->j∈rem->J rem w'->∃ o,ops[j]?=some o/\o.dst=none/\Z0f ops e o.guard/\OE P n o e w' (λ_ w''=>(Rl.rel S w' w''\/Lt.contains j=true)/\J (rem.erase j) w''))
 (fin:∀ w',J [] w'->WG P n ops S Lt Q rest e w'):WG P n ops S Lt Q ((i,q+3) :: rest) e w:=by
 refine ⟨λlisted hs hB a ha=>?_⟩;have gQ:¬ q+3<100000:=Ya0.2 (Xb hq);have hw:wt ((i,q+3) :: rest)=is.length+wt rest:=by simp only [wt];rw [if_neg gQ,fr]
 rw [hw];simp only [ZW,ZA] at hB;rw [if_neg (by simp),if_neg gQ,fr] at hB;simp only [Xa] at hB;obtain ⟨_,aM,jg⟩:=hB;have hready:∀ rem:List Nat,rem.Sublist is->0<rem.length->Region.ready .any ops (lst listed is rem)=rem:=λrem hr h0=>by
  have:=XS.1 aM rem (Z4K hr);cases rem with
  | nil=>simp at h0
  | cons x r=>simpa using this
 have key:∀ (k:Nat) (rem:List Nat),rem.length=k->rem.Sublist is->∀ w' a,Has n e a->J rem w'->Z0o P .any ops S (λj=>Lt.contains j) (λa w=>Q .normal a w) (k+wt rest) (lst listed is rem) a w':=by
  intro k
  induction k with
  | zero=>
    intro rem hl hr w' a ha hJ;obtain rfl:=X3.1 hl;rw [XO];exact (fin w' hJ).h _ hs jg a ha
  | succ k ih=>
    intro rem hl hr w' a ha hJ;rw [show k+1+wt rest=(k+wt rest)+1 by omega];refine ⟨λh=>?_,λj hj=>?_⟩;rw [hready rem hr (by omega)] at h;subst h;simp at hl;rw [hready rem hr (by omega)] at hj;obtain ⟨o,hi,eT,hg,hp⟩:=step rem j w' hr hj hJ;unfold wpOp;simp only [hi];rw [if_pos (Z0E ha hg)];refine .inl (Oper.wp_mono ?_ (hp.h a ha _));rintro a' w'' ⟨v,rfl,kD,ln⟩;refine ⟨kD,?_⟩;rw [Zcf (hr.nodup dZ) hr hj,eT];exact ih _ (by rw [List.length_erase_of_mem hj];omega) (List.erase_sublist.trans hr) w'' _ ha ln
 have:=key is.length is rfl (List.Sublist.refl _) w a ha h0
 rwa [Zfg] at this
theorem Z4w {o:Oper} {dst:Option Nat} {G:Value->World->Prop} (hi:ops[i]?=some o) (eT:o.dst=dst) (hg:Z0f ops e o.guard) (hp:OE P n o e w (λv w'=>(Rl.rel S w w'\/Lt.contains i=true)/\G v w'))
 (k:∀ v w' a',G v w'->∀ a,Has n e a->a'=a.put dst v->∃ e',Has n e' a'/\WG P n ops S Lt Q rest e' w'):WG P n ops S Lt Q ((i,2) :: rest) e w:=
 Zce (Zcd hi eT hg hp k)
theorem Z7p (hi:ops[i]?=some ⟨some d,op,ty,pos,af,gd⟩) (hg:noB ops e gd=true) (aD:Nat.blt d n=true)
 (k:WG P n ops S Lt Q rest ((d,undef) :: e) w):WG P n ops S Lt Q ((i,2) :: rest) e w:=by
 refine Zce ⟨λlisted hs h3 a ha=>?_⟩;unfold wpOp;simp only [hi];have hw:=Z0G (o:=⟨some d,op,ty,pos,af,gd⟩) ha hg;rw [if_neg (by simp [hw])];exact ⟨.inl (Rl.refl _ _),k.h _ hs h3 _ (ha.put (v:=undef) aD)⟩
theorem Z0U {G:Value->World->Prop} (hi:ops[i]?=some ⟨some d,op,ty,pos,af,gd⟩) (hg:Z0f ops e gd) (hp:OE P n ⟨some d,op,ty,pos,af,gd⟩ e w G) (hG:∀ v w',G v w'->Rl.rel S w w') (aD:Nat.blt d n=true)
 (k:∀ v w',G v w'->WG P n ops S Lt Q rest ((d,v) :: e) w'):WG1 P n ops S Lt Q i rest e w:=
 Zcd (G:=G) hi rfl hg (hp.mono λv w' h=>⟨.inl (hG v w' h),h⟩) (λv w' a' h a ha e=>⟨_,by rw [e];exact ha.put aD,k v w' h⟩)
theorem Zp {G:Value->World->Prop} (hi:ops[i]?=some ⟨some d,op,ty,pos,af,gd⟩) (hg:Z0f ops e gd) (hp:OE P n ⟨some d,op,ty,pos,af,gd⟩ e w G) (hG:∀ v w',G v w'->Rl.rel S w w') (aD:Nat.blt d n=true)
 (k:∀ v w',G v w'->WG P n ops S Lt Q rest ((d,v) :: e) w'):WG P n ops S Lt Q ((i,2) :: rest) e w:=
 Z4w (G:=G) hi rfl hg (hp.mono λv w' h=>⟨.inl (hG v w' h),h⟩) (λv w' a' h a ha e=>⟨_,by rw [e];exact ha.put aD,k v w' h⟩)
theorem Z2i {G:Value->World->Prop} (hi:ops[i]?=some ⟨none,op,ty,pos,af,gd⟩) (hg:Z0f ops e gd) (hp:OE P n ⟨none,op,ty,pos,af,gd⟩ e w G) (hG:∀ v w',G v w'->Rl.rel S w w')
 (k:∀ v w',G v w'->WG P n ops S Lt Q rest e w'):WG P n ops S Lt Q ((i,2) :: rest) e w:=
 Z4w (G:=G) hi rfl hg (hp.mono λv w' h=>⟨.inl (hG v w' h),h⟩) (λv w' a' h a ha e=>⟨_,by rw [e];exact ha,k v w' h⟩)
theorem Zfh {G:Value->World->Prop} (hi:ops[i]?=some ⟨some d,op,ty,pos,af,gd⟩) (hg:Z0f ops e gd) (hp:OE P n ⟨some d,op,ty,pos,af,gd⟩ e w G) (hL:Lt.contains i=true) (aD:Nat.blt d n=true)
 (k:∀ v w',G v w'->WG P n ops S Lt Q rest ((d,v) :: e) w'):WG P n ops S Lt Q ((i,2) :: rest) e w:=
 Z4w (G:=G) hi rfl hg (hp.mono λv w' h=>⟨.inr hL,h⟩) (λv w' a' h a ha e=>⟨_,by rw [e];exact ha.put aD,k v w' h⟩)
theorem Jg {G:Value->World->Prop} (hi:ops[i]?=some ⟨none,op,ty,pos,af,gd⟩) (hg:Z0f ops e gd) (hp:OE P n ⟨none,op,ty,pos,af,gd⟩ e w G) (hL:Lt.contains i=true)
 (k:∀ v w',G v w'->WG P n ops S Lt Q rest e w'):WG P n ops S Lt Q ((i,2) :: rest) e w:=
 Z4w (G:=G) hi rfl hg (hp.mono λv w' h=>⟨.inr hL,h⟩) (λv w' a' h a ha e=>⟨_,by rw [e];exact ha,k v w' h⟩)
theorem Zcg {ord:List (Nat×Nat)} {j:Nat} {p:Prop} [Decidable p] (hy:look e j=some (.B (decide p)))
 (ht:p->WG P n ops S Lt Q ord ((j,.B true) :: e) w) (hf:¬ p->WG P n ops S Lt Q ord ((j,.B false) :: e) w):WG P n ops S Lt Q ord e w:=by
 refine ⟨λlisted hs hB a ha=>?_⟩;by_cases hp:p;exact (ht hp).h _ hs hB a (ha.same hy (by simp [hp]));exact (hf hp).h _ hs hB a (ha.same hy (by simp [hp]))
theorem Z8 {i q j d:Nat} {b:Bool} {o:Oper} {p:Prop} [Decidable p] (hi:ops[i]?=some o) (hg:o.guard=some (j,b)) (hj:Za0 ops j=some d) (hy:look e d=some (.B (decide p)))
 (ht:p->WG P n ops S Lt Q ((i,q) :: rest) ((d,.B true) :: e) w) (hf:¬ p->WG P n ops S Lt Q ((i,q) :: rest) ((d,.B false) :: e) w):WG P n ops S Lt Q ((i,q) :: rest) e w:=
 Zcg hy ht hf
theorem Z6 {i q j d:Nat} {b:Bool} {o:Oper} {t:Bool} (hi:ops[i]?=some o) (hg:o.guard=some (j,b)) (hj:Za0 ops j=some d) (hy:look e d=some (.B t))
 (ht:t=true->WG P n ops S Lt Q ((i,q) :: rest) ((d,.B true) :: e) w) (hf:t=false->WG P n ops S Lt Q ((i,q) :: rest) ((d,.B false) :: e) w):WG P n ops S Lt Q ((i,q) :: rest) e w:=by
 refine ⟨λlisted hs hB a ha=>?_⟩;cases t;exact (hf rfl).h _ hs hB a (ha.same hy rfl);exact (ht rfl).h _ hs hB a (ha.same hy rfl)
end rules
abbrev ZiP (P:Program) (md:Region.Mode) (ops:Array Oper) (S:List Nat) (Lt:Nat->Bool) (Z:Act->World->Prop):Nat->Array Bool->Act->World->Prop:=Z0o P md ops S Lt Z
abbrev WD (P:Program) (n:Nat) (ops:Array Oper) (S:List Nat) (Lt:List Nat) (Q:Exit->Act->World->Prop) (ord:List (Nat×Nat)) (e:Env) (w:World):Prop:=WG P n ops S Lt Q ord e w
section
variable {P:Program} {n:Nat} {Q:Exit->Act->World->Prop} {e:Env} {w:World} {ops:Array Oper} {Lt:List Nat} {rest:List (Nat×Nat)} {i d:Nat} {op:Op} {ty:TypeId} {pos:String} {af:Array Edge} {gd:Option (Nat×Bool)} {v:Value}
theorem WC_drawn {id:Nat} {l:List Oper} (m:Nat) (S:List Nat) (Lt:List Nat) (ord:List (Nat×Nat)) (dl:l.length=m) (hm:P.follows .mixedOrders=true) (hs:Region.noSelect l.toArray=true) (hl:Nat.beq (wt ord) l.length=true)
 (hB:ZW l.toArray Lt ord (Array.replicate m false)=true)
 (h:∀ w',Stp [] w w'->WD P n l.toArray S Lt Q ord e w'):WC P n (.region id l.toArray true) Q e w:=Z5O m S Lt ord dl hm hs hl hB h
theorem WD_read {S:List Nat} (hi:ops[i]?=some ⟨some d,op,ty,pos,af,gd⟩) (hg:Z0f ops e gd) (hp:∀ w',Stp S w w'->PR P n ⟨some d,op,ty,pos,af,gd⟩ e w' v) (aD:Nat.blt d n=true)
 (k:WD P n ops S Lt Q rest ((d,v) :: e) w):WD P n ops S Lt Q ((i,1) :: rest) e w:=Za4 hi hg hp aD k
end
theorem ZDr {P:Program} {n:Nat} {Q:Exit->Act->World->Prop} {e:Env} {w} {id:Nat} {l:List Oper} (m:Nat) (S:List Nat) (Lt:List Nat) (ord:List (Nat×Nat)) (h:∀ w',Stp [] w w'->WD P n l.toArray S Lt Q ord e w') (dl:l.length=m:=by exact rfl) (hm:P.follows .mixedOrders=true:=by kernel_rfl) (hs:Region.noSelect l.toArray=true:=by kernel_rfl) (hl:Nat.beq (wt ord) l.length=true:=by kernel_rfl)
 (hB:ZW l.toArray Lt ord (Array.replicate m false)=true:=by kernel_rfl):WC P n (.region id l.toArray true) Q e w:=WC_drawn m S Lt ord dl hm hs hl hB h
theorem JD {k:Nat}:∀ (l:List (List Value)),(∀ c∈l,c.length=k)->l.flatten.length=l.length * k
 | [],_=>by simp
 | c :: r, h => by
   simp only [Yai,Xe,Xo,Yaa];rw [JD r (λc hc=>h c (by simp [hc])),h c (by simp)];omega
theorem Z0g {k:Nat}:∀ (css:List (List Value)),(∀ c∈css,c.length=k)->∀ (i:Nat),i<css.length->∀ (cs:List Value),
 (css.set i cs).flatten=css.flatten.take (i * k)++cs++css.flatten.drop (i * k+k)
 | [],_,i,hi,_=>absurd hi (XC _)
 | c :: r, hk, 0, _, cs => by
   have hc:=hk c (by simp);simp [hc]
 | c :: r, hk, i + 1, hi, cs => by
   have hc:=hk c (by simp);have ih:=Z0g r (λc hc=>hk c (by simp [hc])) i (by simpa using hi) cs;simp only [List.set_cons_succ,Yai,ih,Yaa];rw [YaQ,List.drop_append,hc];rw [XH (l:=c) (by omega),show c.drop (i * k+k+k)=[] from Yax (by omega)];rw [show i * k+k - k=i * k by omega,show i * k+k+k - k=i * k+k by omega];simp [XA]
theorem JX {k:Nat}:∀ (css:List (List Value)),(∀ c∈css,c.length=k)->∀ (i:Nat) (hi:i<css.length) (j:Nat) (hj:j<k) (u:Value),
 (css.set i (css[i].set j u)).flatten=css.flatten.set (i * k+j) u
 | [],_,i,hi,_,_,_=>absurd hi (XC _)
 | c :: r, hk, 0, _, j, hj, u => by
   have hc:=hk c (by simp);simp [hc,hj]
 | c :: r, hk, i + 1, hi, j, hj, u => by
   have hc:=hk c (by simp);have ih:=JX r (λc hc=>hk c (by simp [hc])) i (by simpa using hi) j hj u;simp only [List.set_cons_succ,Yai,List.getElem_cons_succ,ih,Yaa];rw [YbO,if_neg (by omega),hc];rw [show i * k+k+j - k=i * k+j by omega]
section row
variable {α:Type} [Z1 α] {X:List Nat} {w w':World} {base T:Nat} {v:Value} {xs:List α}
variable {P:Program} {n:Nat} {e:Env} {d:Option Nat} {ty:TypeId} {pos:String} {af:Array Edge} {g:Option (Nat×Bool)}
theorem Row.isSome (h:Row X w base T v xs) {i:Nat} (hi:i<xs.length):∃ q l c,v=.slice (some ⟨q,0,none⟩) l c:=by
 obtain ⟨css,hl,hr,ho⟩:=h;rcases ho.2 with ⟨rfl,hn⟩|⟨q,cap,cur,rfl,hb,hg,bj,aW,aH,ht⟩
 omega;exact ⟨_,_,_,rfl⟩
theorem JE {i k:Nat} {t:TypeId} {x y:Operand} {u:Value} {y':α} [bw:Siz P t k] (hx:ev e x=some (.pointer (some (Zq v i k 0)))) (hy:ev e y=some u) (hk:k=Z1.k α)
 (aV:Z1.rep (ob v++X) w y' u.cells.toList) (ac:Row X w base T v xs) (hX:∀ b∈X,b<base) (hi:i<xs.length) :
 OE P n ⟨d,.store t x y,ty,pos,af,g⟩ e w (λ_ w'=>Row X w' base T v (xs.set i y')/\Stp (ob v) w w'):=by
 have gg:=ac;obtain ⟨css,hl,hr,ho⟩:=ac;have am:∀ c∈css,c.length=Z1.k α:=by
  intro c hc;obtain ⟨q,hq,rfl⟩:=Xq hc;exact Z1.len (hr q (by omega) hq)
 rcases ho.2 with ⟨rfl,hn⟩|⟨q,cap,cur,rfl,hb,hg,bj,aW,aH,ht⟩
 omega;subst hk;have cO:u.cells.toList.length=Z1.k α:=Z1.len aV;have aN:i * Z1.k α+u.cells.toList.length<=cur.size:=by
  rw [cO,aH,<- Yaa];exact Xt _ (by omega)
 have ax:=run_storeCells_at P q (i * Z1.k α) T u.cells.toList 0 cur w hg (by simpa using aN) (Z1.one aV);simp only [YaY] at ax;have ca:u.cells.size=Z1.k α:=by simpa using cO
 have dE:Stp [q] w (w.setRow q (cur.toList.take (i * Z1.k α)++u.cells.toList++cur.toList.drop (i * Z1.k α+u.cells.toList.length)).toArray):=JB _ _ _;refine Z1p (w':=w.setRow q (cur.toList.take (i * Z1.k α)++u.cells.toList++cur.toList.drop (i * Z1.k α+u.cells.toList.length)).toArray) (λa ha=>?_) ⟨⟨css.set i u.cells.toList,by simp [hl],λj hj eC=>?_,?_,.inr ⟨q,cap,_,by simp,hb,setRow_heap w q cur _ T (0,0) hg,by simpa using bj,aW,?_,?_⟩⟩,dE⟩;have ct:Zq (.slice (some ⟨q,0,none⟩) xs.length cap) i (Z1.k α) 0=⟨q,i * Z1.k α,none⟩:=by simp [Zq]
 rw [ct] at hx;simp [execOp,ha.ev hx,ha.ev hy,Instr.storeAt,Instr.sureAddr,storeVar,Siz.run,ca,ax];have ae:∀ b∈[q],b∈ob (.slice (some ⟨q,0,none⟩) xs.length cap)++X:=by simp [ob]
 by_cases bN:i=j;subst bN;simp only [Yao];exact Z1.ext aV dE ae (λb hb=>.inl hb);simp only [YaO bN];exact Z1.ext (hr j (by simpa using hj) (by simpa using eC)) dE ae (λb hb=>.inl hb);rw [Z0g css am i (by omega)];have h1:=ho.1;simp only [Xe,Xv,X4,Yac,cO,h1];have:(i+1) * Z1.k α<=xs.length * Z1.k α:=Xt _ (by omega);rw [Yaa] at this;omega;simp only [XZ,Xe,Xv,X4,XK,cO,aH];rw [cO,aH] at aN;omega;rw [Z0g css am i (by omega),<- ht];have h2:(i+1) * Z1.k α<=xs.length * Z1.k α:=Xt _ (by omega);rw [Yaa] at h2;have h3:i * Z1.k α<=cur.toList.length:=by simp [aH];exact Xl (by omega) (Xt _ bj)
 simp only [Yac,cO];rw [YaQ,YaQ,Yah,Yah,YbT];simp only [Xe,Xv,cO];rw [X7 h3,XH (l:=u.cells.toList) (by rw [cO];omega)];rw [Nat.min_eq_right (by omega:i * Z1.k α<=xs.length * Z1.k α),X7 (by omega:i * Z1.k α<=xs.length * Z1.k α)]
theorem Z5P {β:Type} [Z2 β] {xs:List β} {i j k:Nat} {t:TypeId} {x y:Operand} {u:Value} {y':β} [bw:Siz P t 1] (hx:ev e x=some (.pointer (some (Zq v i k j)))) (hy:ev e y=some u) (hk:k=Z2.k β)
 (hu:u.cells.toList=[u]) (h1:u.oneCell'=true) (ac:Row X w base T v xs) (hi:i<xs.length) (hj:j<Z2.k β) (aV:Z2.enc y'=(Z2.enc xs[i]).set j u) :
 OE P n ⟨d,.store t x y,ty,pos,af,g⟩ e w (λ_ w'=>Row X w' base T v (xs.set i y')/\Stp (ob v) w w'):=by
 obtain ⟨css,hl,hr,ho⟩:=ac;have am:∀ c∈css,c.length=Z1.k β:=by
  intro c hc;obtain ⟨q,hq,rfl⟩:=Xq hc;exact Z1.len (hr q (by omega) hq)
 have cm:Z1.k β=Z2.k β:=rfl;rcases ho.2 with ⟨rfl,hn⟩|⟨q,cap,cur,rfl,hb,hg,bj,aW,aH,ht⟩
 omega;subst hk;have ah:i * Z2.k β+j<xs.length * Z2.k β:=by
  have:(i+1) * Z2.k β<=xs.length * Z2.k β:=Xt _ (by omega);rw [Yaa] at this;omega
 have aN:i * Z2.k β+j+[u].length<=cur.size:=by
  rw [aH,cm];have:=Xt (Z2.k β) bj;simp only [Ybt];omega
 have ax:=run_storeCells_at P q (i * Z2.k β+j) T [u] 0 cur w hg (by simpa using aN) (by simpa using h1);simp only [YaY] at ax;have ca:u.cells.size=1:=by rw [<- XK,hu];rfl
 have dE:Stp [q] w (w.setRow q (cur.toList.take (i * Z2.k β+j)++[u]++cur.toList.drop (i * Z2.k β+j+[u].length)).toArray):=JB _ _ _;have gR:css[i]'(by omega)=Z2.enc xs[i]:=hr i hi (by omega);refine Z1p (w':=w.setRow q (cur.toList.take (i * Z2.k β+j)++[u]++cur.toList.drop (i * Z2.k β+j+[u].length)).toArray) (λa ha=>?_) ⟨⟨css.set i ((css[i]'(by omega)).set j u),by simp [hl],λm hm jh=>?_,?_,.inr ⟨q,cap,_,by simp,hb,setRow_heap w q cur _ T (0,0) hg,by simpa using bj,aW,?_,?_⟩⟩,dE⟩;have ct:Zq (.slice (some ⟨q,0,none⟩) xs.length cap) i (Z2.k β) j=⟨q,i * Z2.k β+j,none⟩:=by simp [Zq]
 rw [ct] at hx;simp [execOp,ha.ev hx,ha.ev hy,Instr.storeAt,Instr.sureAddr,storeVar,Siz.run,ca,hu,ax];by_cases bN:i=m;subst bN;simp only [Yao];show _=Z2.enc y';rw [gR,aV];simp only [YaO bN];exact hr m (by simpa using hm) (by simpa using jh);rw [JX css am i (by omega) j hj];simpa using ho.1;simp only [XZ,Xe,Xv,X4,XK];omega;rw [JX css am i (by omega) j hj,<- ht];have bw:i * Z2.k β+j<cur.toList.length:=by simp;simp at aN;omega
 simp only [Yac,cm];rw [show cur.toList.take (i * Z2.k β+j)++[u]++cur.toList.drop (i * Z2.k β+j+[u].length)=cur.toList.set (i * Z2.k β+j) u by
  rw [YaH,if_pos bw];simp]
 rw [List.take_set]
def slc (v:Value) (l h k:Nat):Value:=
 match v with
 | .slice a _ c=>.slice (if c=l then a else a.map (·.add (l * k))) (h - l) (c - l)
 | v=>v
theorem SlV.slc (h:SlV X w v xs) {l r:Nat} (hl:l<=r) (hr:r<=xs.length):SlV X w (slc v l r (Z1.k α)) ((xs.take r).drop l):=by
 obtain ⟨p,c,rfl,am,hm,hn,hc⟩:=h;have cP:((xs.take r).drop l).length=r - l:=by simp;omega
 refine ⟨if c=l then p else p.map (·.add (l * Z1.k α)),c - l,by simp [Eng.slc,cP],by omega,by omega,?_,λi hi=>?_⟩;intro hp;split at hp;omega
 . cases p with
   | none=>have:=hn rfl;omega
   | some a=>simp at hp
 have dY:l+i<xs.length:=by omega
 obtain ⟨b,o,cs,rfl,hb,hx,dm,ak⟩:=hc (l+i) dY;refine ⟨b,o+l * Z1.k α,cs,?_,hb,hx,by simpa using dm,λj u hu=>?_⟩;rw [if_neg (by omega)];simp [Addr.add_lit];have:=ak j u hu;rw [show o+l * Z1.k α+i * Z1.k α+j=o+(l+i) * Z1.k α+j by rw [YbS];omega];exact this
theorem Z1q {t el k:Nat} {x hi:Operand} {r:Nat} {b:Int} [hu:Und P t (.slice el)] [hk:Siz P el k] {bU:World} (hx:ev e x=some v) (hs:SlV X bU v xs) (hb:ev e hi=some (.I b))
 (nW:b=(r:Int)) (pO:r<=xs.length):PR P n ⟨d,.slice t x none (some hi) none,ty,pos,af,g⟩ e w (slc v 0 r k):=by
 refine ⟨λact dI=>?_⟩;obtain ⟨p,c,rfl,am,hm,hn,hc⟩:=hs;subst nW;simp [execOp,dI.ev hx,dI.ev hb,Instr.sliceAt,run_underlying hu.h,Instr.slice,Instr.sliceBounds,Instr.sliceBound,asIntOf,Siz.run,Eng.slc,show r<=c by omega]
theorem Z1r {t el k:Nat} {x lo:Operand} {l:Nat} {a:Int} [hu:Und P t (.slice el)] [hk:Siz P el k] {bU:World} (hx:ev e x=some v) (hs:SlV X bU v xs) (ha:ev e lo=some (.I a))
 (kE:a=(l:Int)) (lp:l<=xs.length):PR P n ⟨d,.slice t x (some lo) none none,ty,pos,af,g⟩ e w (slc v l xs.length k):=by
 refine ⟨λact dI=>?_⟩;obtain ⟨p,c,rfl,am,hm,hn,hc⟩:=hs;subst kE;simp [execOp,dI.ev hx,dI.ev ha,Instr.sliceAt,run_underlying hu.h,Instr.slice,Instr.sliceBounds,Instr.sliceBound,asIntOf,Siz.run,Eng.slc,lp]
theorem Z1s {k:Nat}:∀ (css:List (List Value)),(∀ c∈css,c.length=k)->∀ (i:Nat),(css.take i).flatten=css.flatten.take (i * k)
 | [],_,i=>by simp
 | c :: r,hk,0=>by simp
 | c :: r, hk, i + 1 => by
   have hc:=hk c (by simp);have ih:=Z1s r (λc hc=>hk c (by simp [hc])) i;simp only [List.take_succ_cons,Yai,ih,Yaa];rw [YaQ,hc,XH (l:=c) (by omega),show i * k+k - k=i * k by omega]
theorem Z4L (v:Value) (r k:Nat):ob (slc v 0 r k)=ob v:=by
 cases v<;>try rfl
 rename_i a l c;cases a with
 | none=>simp [slc,ob]
 | some a=>by_cases hc:c=0<;>simp [slc,ob,hc,Addr.add]
theorem Row.cut (h:Row X w base T v xs) {r:Nat} (hr:r<=xs.length):Row X w base T (slc v 0 r (Z1.k α)) (xs.take r):=by
 obtain ⟨css,hl,dm,ho⟩:=h;have am:∀ c∈css,c.length=Z1.k α:=by
  intro c hc;obtain ⟨q,hq,rfl⟩:=Xq hc;exact Z1.len (dm q (by omega) hq)
 refine ⟨css.take r,by simp [hl],λi hi bV=>?_,?_,?_⟩;rw [Z4L];simp only [YbG];exact dm i (by simp at hi;omega) (by simp at bV;omega);rw [JD _ (λc hc=>am c (YaK hc))];simp [hl];rcases ho.2 with ⟨rfl,hn⟩|⟨q,cap,cur,rfl,hb,hg,bj,aW,aH,ht⟩
 exact .inl ⟨by simp [Eng.slc];omega,by simp;omega⟩;refine .inr ⟨q,cap,cur,?_,hb,hg,by simp;omega,aW,aH,?_⟩;simp [Eng.slc,Addr.add,Xv,X7 hr];rw [Z1s css am,<- ht,Yah,Xv,X7 hr];congr 1;have:=Xt (Z1.k α) hr;omega
theorem Z33 {x:Operand} {t:Nat} {z:Value} {i:Nat} [hu:Und P t (.slice T)] [hz:Zer P T z] (ee:z.cells.size=Z1.k α) (gm:∀ c∈z.cells.toList,c.oneCell'=true) (aO:0<Z1.k α) (hx:ev e x=some (slc v i xs.length (Z1.k α))) (ac:Row X w base T v xs) (hi:i<=xs.length) :
 OE P n ⟨d,.call { callee:=.builtin .clear,args:=#[x],argTypes:=#[t] },ty,pos,af,g⟩ e w (λ_ w'=>Row X w' base T (slc v 0 i (Z1.k α)) (xs.take i)/\Stp (ob v) w w'):=by
 have hcut:=ac.cut hi;by_cases ah:i<xs.length
 case neg=>
  have fH:i=xs.length:=by omega
  refine Zs (v:=.tuple #[]) (w':=w) (λa ha=>?_) ⟨hcut,Stp.refl _ _⟩;obtain ⟨css,hl,hr,ho⟩:=ac;have hv:∃ p c,v=.slice p xs.length c:=by
   rcases ho.2 with ⟨rfl,hn⟩|⟨q,cap,cur,rfl,_⟩
   exact ⟨none,0,by rw [hn]⟩;exact ⟨_,_,rfl⟩
  obtain ⟨p,c,rfl⟩:=hv;have hs:slc (.slice p xs.length c) i xs.length (Z1.k α)=.slice (if c=i then p else p.map (·.add (i * Z1.k α))) 0 (c - i):=by simp [slc,fH]
  rw [hs] at hx;simp only [execOp,resolve,Ybb,XQ,Yaj,ha.ev hx];cases sQ:(if c=i then p else p.map (·.add (i * Z1.k α)))<;>simp [invoke,builtin,Builtin.clear_,run_underlying hu.h]
 case pos=>
  obtain ⟨css,hl,hr,ho⟩:=ac;have am:∀ c∈css,c.length=Z1.k α:=by
   intro c hc;obtain ⟨q,hq,rfl⟩:=Xq hc;exact Z1.len (hr q (by omega) hq)
  rcases ho.2 with ⟨rfl,hn⟩|⟨q,cap,cur,rfl,hb,hg,bj,aW,aH,ht⟩
  omega;have hs:slc (.slice (some ⟨q,0,none⟩) xs.length cap) i xs.length (Z1.k α)=.slice (some ⟨q,i * Z1.k α,none⟩) (xs.length - i) (cap - i):=by
   simp [slc,show ¬ cap=i by omega,Addr.add_lit]
  rw [hs] at hx;have nX:(Builtin.zeroCells z.cells (xs.length - i)).toList.length=(xs.length - i) * Z1.k α:=by rw [XK,size_zeroCells,ee]
  have aN:i * Z1.k α+(Builtin.zeroCells z.cells (xs.length - i)).toList.length<=cur.size:=by
   rw [nX,aH,<- YbS];exact Xt _ (by omega)
  have h1:∀ c∈(Builtin.zeroCells z.cells (xs.length - i)).toList,c.oneCell'=true:=by
   intro c hc;simp only [Builtin.zeroCells,Array.toList_map,XE] at hc;obtain ⟨j,_,rfl⟩:=hc;have ah:j % z.cells.size<z.cells.size:=Nat.mod_lt _ (by omega);rw [getElem!_pos z.cells _ ah];exact gm _ (by simp)
  have ax:=run_storeCells_at P q (i * Z1.k α) T (Builtin.zeroCells z.cells (xs.length - i)).toList 0 cur w hg (by simpa using aN) h1;simp only [YaY] at ax;have dE:Stp [q] w (w.setRow q (cur.toList.take (i * Z1.k α)++(Builtin.zeroCells z.cells (xs.length - i)).toList++cur.toList.drop (i * Z1.k α+(Builtin.zeroCells z.cells (xs.length - i)).toList.length)).toArray):=JB _ _ _;refine Zs (v:=.tuple #[]) (w':=w.setRow q (cur.toList.take (i * Z1.k α)++(Builtin.zeroCells z.cells (xs.length - i)).toList++cur.toList.drop (i * Z1.k α+(Builtin.zeroCells z.cells (xs.length - i)).toList.length)).toArray) (λa ha=>?_) ⟨⟨css.take i,by simp [hl],λj hj eC=>?_,?_,.inr ⟨q,cap,_,?_,hb,setRow_heap w q cur _ T (0,0) hg,by simp;omega,aW,?_,?_⟩⟩,dE⟩;have dp:xs.length - i≠0:=by omega
  obtain ⟨m,hm⟩:∃ m,xs.length - i=m+1:=⟨xs.length - i - 1,by omega⟩
  rw [hm] at hx ax;simp only [execOp,resolve,Ybb,XQ,Yaj,ha.ev hx];simp [invoke,builtin,Builtin.clear_,run_underlying hu.h,Zer.run,ax];rw [hm];rw [Z4L];simp only [YbG];exact Z1.ext (hr j (by simp at hj;omega) (by simp at eC;omega)) dE (by simp [ob]) (λb hb=>.inl hb);rw [JD _ (λc hc=>am c (YaK hc))];simp [hl];simp [Eng.slc,Addr.add,Xv,X7 hi];simp only [XZ,Xe,Xv,X4,XK];simp only [XK] at aN;omega;rw [Z1s css am,<- ht,Yah,Xv,X7 hi];have h3:i * Z1.k α<=cur.toList.length:=by simp;omega
  rw [XA,Yav (by simp;omega),Yah];congr 1;have:=Xt (Z1.k α) hi;omega
end row
section misc
variable {P:Program} {n:Nat} {e:Env} {w:World} {d:Option Nat} {ty:TypeId} {pos:String} {af:Array Edge} {g:Option (Nat×Bool)}
def Jo (e:Env):List (Nat×Operand)->Option (List (Nat×Value))
 | []=>some []
 | (i, x) :: r => match ev e x, Jo e r with
   | some v,some l=>some ((i,v) :: l)
   | _,_=>none
theorem Has.parts {a:Act} (ha:Has n e a):∀ {l:List (Nat×Operand)} {vs:List (Nat×Value)},Jo e l=some vs->l.map (λ(p:Nat×Operand)=>(p.1,a.eval p.2))=vs
 | [],vs,h=>by simp [Jo] at h;simp [h]
 | (i, x) :: r, vs, h => by
   simp only [Jo] at h;cases hx:Eng.ev e x with
   | none=>simp [hx] at h
   | some v=>
     cases hr:Jo e r with
     | none=>simp [hx,hr] at h
     | some l=>
       simp [hx,hr] at h;subst h;simp [ha.ev hx,Has.parts ha hr]
theorem Z0J {t:TypeId} {l:List (Nat×Operand)} {vs:List (Nat×Value)} {u:Value} (hv:Jo e l=some vs) (hb:∀ w,(Instr.build t vs.toArray).run P w=.ok u w):PR P n ⟨d,.build t l.toArray,ty,pos,af,g⟩ e w u:=
 ⟨λa ha => by
   have h1:=ha.parts hv;have h2:l.toArray.map (λ(x:Nat×Operand)=>match x with|(i,x)=>(i,a.eval x))=vs.toArray:=by
    rw [Ybb];exact congrArg List.toArray h1
   simp only [execOp];rw [h2];simp [hb]⟩
def Zh (w:World) (T:TypeId) (len:Nat) (cs:List Value) (v:Value) (w':World):Prop:=∃ b,v=.slice (some ⟨b,0,none⟩) len len/\w.heap.size<=b/\Blk w' b T cs/\Stp [] w w'
theorem Z3 {t T len:Nat} {l:List (Nat×Operand)} {vs:List (Nat×Value)} {cs:List Value} (hv:Jo e l=some vs)
 (hb:∀ w:World,(Instr.buildSlice t len vs.toArray).run P w=.ok (.slice (some ⟨w.heap.size,0,none⟩) len len) (w.alloc (.cells cs.toArray T))) :
 OE P n ⟨d,.buildSlice t len l.toArray,ty,pos,af,g⟩ e w (Zh w T len cs):=
 Zs (v:=.slice (some ⟨w.heap.size,0,none⟩) len len) (w':=w.alloc (.cells cs.toArray T)) (λa ha=>by
  have h1:=ha.parts hv;have h2:l.toArray.map (λ(x:Nat×Operand)=>match x with|(i,x)=>(i,a.eval x))=vs.toArray:=by
   rw [Ybb];exact congrArg List.toArray h1
  simp only [execOp];rw [h2];simp [hb w]) ⟨w.heap.size,rfl,Xm _,heap_alloc_new w _,Stp.alloc _ _ _⟩
theorem Zh.slv {β:Type} [Z2 β] {X:List Nat} {T len:Nat} {cs:List Value} {v:Value} {w':World} {ys:List β} (h:Zh w T len cs v w') (hX:∀ b∈X,b<w.heap.size) (hl:len=ys.length) (hc:cs=ys.flatMap Z2.enc) (hm:ys.length<=maxLen):SlV X w' v ys:=by
 obtain ⟨b,rfl,hb,ab,hS⟩:=h;subst hl;refine ⟨some ⟨b,0,none⟩,ys.length,rfl,Xm _,hm,λh=>by simp at h,λi hi=>⟨b,0,Z2.enc ys[i],rfl,ab.lt,λhx=>by have:=hX b hx;omega,rfl,λj u hu=>?_⟩⟩;subst hc;refine ab.cell ?_;have hk:∀ c∈ys.map Z2.enc,c.length=Z2.k β:=by
  intro c hc;obtain ⟨y,_,rfl⟩:=XE.1 hc;exact Z2.len y
 have:=JC (ys.map Z2.enc) hk i (by simpa using hi) j u (by simpa using hu);rw [Ybv,XO];exact this
theorem Zh.row {β:Type} [Z2 β] {X:List Nat} {T len base:Nat} {cs:List Value} {v:Value} {w':World} {ys:List β} (h:Zh w T len cs v w') (aF:base<=w.heap.size) (hl:len=ys.length) (hc:cs=ys.flatMap Z2.enc) (hm:ys.length<=maxLen):Row X w' base T v ys:=by
 obtain ⟨b,rfl,hb,ab,hS⟩:=h;subst hl;subst hc;have hk:∀ c∈ys.map Z2.enc,c.length=Z2.k β:=by
  intro c hc;obtain ⟨y,_,rfl⟩:=XE.1 hc;exact Z2.len y
 have eE:(ys.flatMap Z2.enc).length=ys.length * Z2.k β:=by rw [Ybv,JD _ hk,XI]
 refine ⟨ys.map Z2.enc,by simp,λi hi bV=>(by simp:(ys.map Z2.enc)[i]=Z2.enc ys[i]),?_,.inr ⟨b,ys.length,(ys.flatMap Z2.enc).toArray,rfl,by omega,ab,Xm _,hm,by rw [XZ];exact eE,?_⟩⟩;rw [<- Ybv];exact eE;rw [<- Ybv];exact XH (by show (ys.flatMap Z2.enc).length<=_;rw [eE];exact Xm _)
theorem Zfi {x y:Operand} {t u:TypeId} {p q:Value} {c:Prop} [Decidable c] (hx:ev e x=some p) (hy:ev e y=some q) (hg:∀ w,(eqGuard .eql t x y p q).run P w=.ok () w) (h:∀ w,(binOp .eql t p q).run P w=.ok (.B (decide c)) w) :
 PR P n ⟨d,.binOp .eql t x y u,ty,pos,af,g⟩ e w (.B (decide c)):=⟨λa ha=>by simp [execOp,ha.ev hx,ha.ev hy,h,hg]⟩
theorem Zfj {x y:Operand} {t u:TypeId} {p q:Value} {c:Prop} [Decidable c] (hx:ev e x=some p) (hy:ev e y=some q) (hg:∀ w,(eqGuard .neq t x y p q).run P w=.ok () w) (h:∀ w,(binOp .neq t p q).run P w=.ok (.B (decide (¬ c))) w) :
 PR P n ⟨d,.binOp .neq t x y u,ty,pos,af,g⟩ e w (.B (decide (¬ c))):=⟨λa ha=>by simp only [execOp,ha.ev hx,ha.ev hy];simp [h,hg]⟩
end misc
section post
variable {P:Program} {n:Nat} {fn:Func} {R:Ending->World->Prop} {e:Env} {w:World} {Q:Exit->Act->World->Prop}
theorem Z45 {t b T m:Nat} {D:TypeDesc} {cs:List Value} [hu:Und P t D] (hA:JO D=true) [hs:Siz P t m] (hb:Blk w b T cs) (hl:cs.length=m):(loadVar t ⟨b,0,none⟩).run P w=.ok (.agg cs.toArray) w:=by
 have:=run_loadCells_list (P:=P) w ⟨b,0,none⟩ cs (λj v h=>by rw [Addr.add_lit,XO];exact hb.cell h);rw [hl] at this;simp [loadVar,Und.isAgg,hA,Siz.run,this]
theorem Za5 {t b T T' m:Nat} {D:TypeDesc} {cs:List Value} (hr:fn.results=#[.cell t T']) [hu:Und P T' D] (hA:JO D=true) [hs:Siz P T' m] (ht:look e t=some (pQ b)) (hb:Blk w b T cs) (hl:cs.length=m)
 (h:R (.returned (.agg cs.toArray)) w):WQ n (bodyPost P fn R) .ret e w:=
 ⟨λa ha => ⟨ha.defers, .agg cs.toArray, by
   have h1:=ha.vals _ _ ht;rw [Xz] at h1;simp [results,hr,h1,asAddr,Z45 hA hb hl],h⟩⟩
theorem ZY {t b T T' m s:Nat} {D:TypeDesc} {cs:List Value} {v:Value} (hr:fn.results=#[.cell t T',.tmp s]) [hu:Und P T' D] (hA:JO D=true) [hs:Siz P T' m] (ht:look e t=some (pQ b)) (hb:Blk w b T cs) (hl:cs.length=m)
 (hv:look e s=some v) (h:R (.returned (.tuple #[.agg cs.toArray,v])) w):WQ n (bodyPost P fn R) .ret e w:=
 ⟨λa ha => ⟨ha.defers, .tuple #[.agg cs.toArray, v], by
   have h1:=ha.vals _ _ ht;have h2:=ha.vals _ _ hv;rw [Xz] at h1 h2;simp [results,hr,h1,h2,asAddr,Z45 hA hb hl],h⟩⟩
end post
theorem Zch {P:Program} {n:Nat} {o:Oper} {e:Env} {w} {v:Value} (h:PR P n o e w v):OE P n o e w (λu w'=>u=v/\w'=w):=Zs h.h ⟨rfl,rfl⟩
section
variable {P:Program} {n:Nat} {Q:Exit->Act->World->Prop} {e:Env} {w:World} {ops:Array Oper} {S:List Nat} {Lt:List Nat} {rest:List Oper} {ord:List (Nat×Nat)} {an bE:Nat} {ty:TypeId} {pos:String} {af:Array Edge} {gd:Option (Nat×Bool)}
theorem Z4x {x:Operand} {v:Value} (hx:ev e x=some v) (aD:Nat.blt an n=true) (kk:WL P n ops Q rest ((an,v) :: e) w):WL P n ops Q (⟨some an,.move x,ty,pos,af,none⟩ :: rest) e w:=by
 refine Z7 (v:=v) ?_ aD kk;apply ZV<;>assumption
theorem Z2j {x:Operand} {v:Value} (hx:ev e x=some v) (aD:Nat.blt an n=true) (kk:WL P n ops Q rest ((an,v) :: e) w):WL P n ops Q (⟨some an,.assign x,ty,pos,af,none⟩ :: rest) e w:=by
 refine Z7 (v:=v) ?_ aD kk;apply Z07<;>assumption
theorem Z8N {x y:Operand} {t u:TypeId} {a b:Int} {k:IntKind} (hx:ev e x=some (.int k a)) (hy:ev e y=some (.int k b)) (aD:Nat.blt an n=true) (kk:WL P n ops Q rest ((an,(.B (decide (a<b)))) :: e) w):WL P n ops Q (⟨some an,.binOp .lss t x y u,ty,pos,af,none⟩ :: rest) e w:=by
 refine Z7 (v:=(.B (decide (a<b)))) ?_ aD kk;apply Z8H<;>assumption
theorem Z8O {x y:Operand} {t u:TypeId} {a b:Int} {k:IntKind} (hx:ev e x=some (.int k a)) (hy:ev e y=some (.int k b)) (aD:Nat.blt an n=true) (kk:WL P n ops Q rest ((an,(.B (decide (b<a)))) :: e) w):WL P n ops Q (⟨some an,.binOp .gtr t x y u,ty,pos,af,none⟩ :: rest) e w:=by
 refine Z7 (v:=(.B (decide (b<a)))) ?_ aD kk;apply Z8I<;>assumption
theorem ZiQ {x y:Operand} {t u:TypeId} {a b:Int} {k:IntKind} (hx:ev e x=some (.int k a)) (hy:ev e y=some (.int k b)) (aD:Nat.blt an n=true) (kk:WL P n ops Q rest ((an,(.B (decide (¬ a=b)))) :: e) w):WL P n ops Q (⟨some an,.binOp .neq t x y u,ty,pos,af,none⟩ :: rest) e w:=by
 refine Z7 (v:=(.B (decide (¬ a=b)))) ?_ aD kk;apply Z8J<;>assumption
theorem Zfk {x y:Operand} {t u:TypeId} {p q:Bool} [hu:Und P t .bool] (hx:ev e x=some (.B p)) (hy:ev e y=some (.B q)) (aD:Nat.blt an n=true) (kk:WL P n ops Q rest ((an,(.B (decide (¬ p=q)))) :: e) w):WL P n ops Q (⟨some an,.binOp .neq t x y u,ty,pos,af,none⟩ :: rest) e w:=by
 refine Z7 (v:=(.B (decide (¬ p=q)))) ?_ aD kk;apply Z6n<;>assumption
theorem Zci {x:Operand} {t:TypeId} {D:TypeDesc} {ad:Addr} {v:Value} [hu:Und P t D] (hA:JO D=false) (hx:ev e x=some (.pointer (some ad))) (hc:w.cell? ad=some v) (aD:Nat.blt an n=true) (kk:WL P n ops Q rest ((an,v) :: e) w):WL P n ops Q (⟨some an,.load t x,ty,pos,af,none⟩ :: rest) e w:=by
 refine Z7 (v:=v) ?_ aD kk;apply ZP<;>assumption
theorem Z7q {b T o:Nat} {cs:List Value} {u:Value} {x:Operand} {t:TypeId} {D:TypeDesc} [hu:Und P t D] (hA:JO D=false) (hx:ev e x=some (.pointer (some ⟨b,o,none⟩))) (hb:Blk w b T cs) (hc:cs[o]?=some u) (aD:Nat.blt an n=true) (kk:WL P n ops Q rest ((an,u) :: e) w):WL P n ops Q (⟨some an,.load t x,ty,pos,af,none⟩ :: rest) e w:=by
 refine Z7 (v:=u) ?_ aD kk;apply J4<;>assumption
theorem Z8P {α:Type} [Z1 α] {X:List Nat} {v:Value} {xs:List α} {t el k:Nat} {x hi:Operand} {r:Nat} {b:Int} [hu:Und P t (.slice el)] [hk:Siz P el k] {bU:World} (hx:ev e x=some v) (hs:SlV X bU v xs) (hb:ev e hi=some (.I b)) (nW:b=(r:Int)) (pO:r<=xs.length) (aD:Nat.blt an n=true) (kk:WL P n ops Q rest ((an,(slc v 0 r k)) :: e) w):WL P n ops Q (⟨some an,.slice t x none (some hi) none,ty,pos,af,none⟩ :: rest) e w:=by
 refine Z7 (v:=(slc v 0 r k)) ?_ aD kk;apply Z1q (α:=α)<;>assumption
theorem Z4M {α:Type} [Z1 α] {X:List Nat} {v:Value} {xs:List α} {t el k:Nat} {x lo:Operand} {l:Nat} {a:Int} [hu:Und P t (.slice el)] [hk:Siz P el k] {bU:World} (hx:ev e x=some v) (hs:SlV X bU v xs) (ha:ev e lo=some (.I a)) (kE:a=(l:Int)) (lp:l<=xs.length) (aD:Nat.blt an n=true) (kk:WL P n ops Q rest ((an,(slc v l xs.length k)) :: e) w):WL P n ops Q (⟨some an,.slice t x (some lo) none none,ty,pos,af,none⟩ :: rest) e w:=by
 refine Z7 (v:=(slc v l xs.length k)) ?_ aD kk;apply Z1r (α:=α)<;>assumption
theorem Z9 {t:TypeId} {l:List (Nat×Operand)} {vs:List (Nat×Value)} {u:Value} (hv:Jo e l=some vs) (hb:∀ w,(Instr.build t vs.toArray).run P w=.ok u w) (aD:Nat.blt an n=true) (kk:WL P n ops Q rest ((an,u) :: e) w):WL P n ops Q (⟨some an,.build t l.toArray,ty,pos,af,none⟩ :: rest) e w:=by
 refine Z7 (v:=u) ?_ aD kk;apply Z0J<;>assumption
theorem Z34 {t:TypeId} {l:List (Nat×Operand)} {vs:List (Nat×Value)} {u:Value} (aP:ops[bE]?=some ⟨some an,.build t l.toArray,ty,pos,af,gd⟩) (aQ:Z0f ops e gd) (hv:Jo e l=some vs) (hb:∀ w,(Instr.build t vs.toArray).run P w=.ok u w) (aD:Nat.blt an n=true) (kk:WD P n ops S Lt Q ord ((an,u) :: e) w):WD P n ops S Lt Q ((bE,0) :: ord) e w:=by
 refine Zg (v:=u) aP aQ (λw'=>?_) aD kk;apply Z0J<;>assumption
theorem Zfl {x y:Operand} {t u:TypeId} {p q:Value} {c:Prop} [Decidable c] (aP:ops[bE]?=some ⟨some an,.binOp .eql t x y u,ty,pos,af,gd⟩) (aQ:Z0f ops e gd) (hx:ev e x=some p) (hy:ev e y=some q) (hg:∀ w,(eqGuard .eql t x y p q).run P w=.ok () w) (h:∀ w,(binOp .eql t p q).run P w=.ok (.B (decide c)) w) (aD:Nat.blt an n=true) (kk:WD P n ops S Lt Q ord ((an,(.B (decide c))) :: e) w):WD P n ops S Lt Q ((bE,0) :: ord) e w:=by
 refine Zg (v:=(.B (decide c))) aP aQ (λw'=>?_) aD kk;apply Zfi<;>assumption
theorem Zfm {x y:Operand} {t u:TypeId} {p q:Value} {c:Prop} [Decidable c] (aP:ops[bE]?=some ⟨some an,.binOp .neq t x y u,ty,pos,af,gd⟩) (aQ:Z0f ops e gd) (hx:ev e x=some p) (hy:ev e y=some q) (hg:∀ w,(eqGuard .neq t x y p q).run P w=.ok () w) (h:∀ w,(binOp .neq t p q).run P w=.ok (.B (decide (¬ c))) w) (aD:Nat.blt an n=true) (kk:WD P n ops S Lt Q ord ((an,(.B (decide (¬ c)))) :: e) w):WD P n ops S Lt Q ((bE,0) :: ord) e w:=by
 refine Zg (v:=(.B (decide (¬ c)))) aP aQ (λw'=>?_) aD kk;apply Zfj<;>assumption
end
section
variable {P:Program} {n:Nat} {Q:Exit->Act->World->Prop} {e:Env} {w:World} {ops:Array Oper} {S:List Nat} {Lt:List Nat} {ord:List (Nat×Nat)} {an bE:Nat} {ty:TypeId} {pos:String} {af:Array Edge} {gd:Option (Nat×Bool)}
theorem Z7r {b T o:Nat} {cs:List Value} {u:Value} {x:Operand} {t:TypeId} {D:TypeDesc} [hu:Und P t D] (aP:ops[bE]?=some ⟨some an,.load t x,ty,pos,af,gd⟩) (aQ:Z0f ops e gd) (hA:JO D=false) (hx:ev e x=some (.pointer (some ⟨b,o,none⟩))) (hb:Blk w b T cs) (hn:b∉S) (hc:cs[o]?=some u) (aD:Nat.blt an n=true) (kk:WD P n ops S Lt Q ord ((an,u) :: e) w):WD P n ops S Lt Q ((bE,1) :: ord) e w:=
 WD_read aP aQ (λw' hS=>J4 hA hx (hb.ext hS hn) hc) aD kk
end
abbrev Str:=List UInt8
abbrev str (s:Str):Value:=.string ⟨s.toArray⟩
theorem Zfn (a b:Str):((⟨a.toArray⟩:ByteArray).toList == (⟨b.toArray⟩:ByteArray).toList)=decide (a=b):=by
 rw [ByteArray.toList_eq,ByteArray.toList_eq];simp only [YaE]
theorem J5 (a:Str):(⟨a.toArray⟩:ByteArray).size=a.length:=by simp [ByteArray.size]
theorem Z1S (a:Str) (i j:Nat):(⟨a.toArray⟩:ByteArray).extract i j=⟨((a.take j).drop i).toArray⟩:=by
 apply ByteArray.ext;simp [ByteArray.data_extract,YbT]
theorem Z8Q (a b:Str):(⟨a.toArray⟩++⟨b.toArray⟩:ByteArray)=⟨(a++b).toArray⟩:=by
 apply ByteArray.ext;simp [ByteArray.data_append]
def Z09 (a:Str) (i:Nat):Int:=((a.getD i 0).toNat:Int)
theorem byte_at {a:Str} {i:Nat} (h:i<a.length):Z09 a i=(a[i].toNat:Int):=by simp [Z09,List.getD,h]
instance:Z2 Str where
 k:=1
 enc:=λx=>[str x]
 len:=λ_=>rfl
 one:=by intro x u hu;simp at hu;subst hu;rfl
section rules
variable {P:Program} {n:Nat} {e:Env} {w:World} {d:Option Nat} {ty:TypeId} {pos:String} {af:Array Edge} {g:Option (Nat×Bool)}
theorem Za6 {t u:TypeId} {x y:Operand} {a b:Str} [hu:Und P t .string] (hx:ev e x=some (str a)) (hy:ev e y=some (str b)):PR P n ⟨d,.binOp .eql t x y u,ty,pos,af,g⟩ e w (.B (decide (a=b))):=
 ⟨λc ha=>by simp only [execOp,ha.ev hx,ha.ev hy];simp [go_sem,binOp,Op.stringOp];rw [YaE]⟩
theorem Za7 {t u:TypeId} {x y:Operand} {a b:Str} [hu:Und P t .string] (hx:ev e x=some (str a)) (hy:ev e y=some (str b)):PR P n ⟨d,.binOp .neq t x y u,ty,pos,af,g⟩ e w (.B (decide (¬ a=b))):=
 ⟨λc ha=>by simp only [execOp,ha.ev hx,ha.ev hy];simp [go_sem,binOp,Op.stringOp];by_cases h:a=b<;>simp [h]⟩
theorem Z6v {t u:TypeId} {x y:Operand} {a b:Str} [hu:Und P t .string] (hx:ev e x=some (str a)) (hy:ev e y=some (str b)) (hl:a.length+b.length<=9223372036854775807):PR P n ⟨d,.binOp .add t x y u,ty,pos,af,g⟩ e w (str (a++b)):=
 ⟨λc ha => by
   simp only [execOp,ha.ev hx,ha.ev hy];simp [go_sem,binOp,Op.stringOp,Z8Q];omega⟩
theorem Za8 {x:Operand} {t:TypeId} {a:Str} [hu:Und P t .string] (hx:ev e x=some (str a)) :
 PR P n ⟨d,.call { callee:=.builtin .len,args:=#[x],argTypes:=#[t] },ty,pos,af,g⟩ e w (.I (a.length:Int)):=
 ⟨λc ha => by
   have:=run_len_string (P:=P) w t ty ⟨a.toArray⟩ hu.h;simp [execOp,resolve,invoke,builtin,ha.ev hx,this,goInt,J5]⟩
theorem Z5Q {t:TypeId} {x y:Operand} {a:Str} {z:Int} {i:Nat} [hu:Und P t .string] (hx:ev e x=some (str a)) (hy:ev e y=some (.I z)) (hz:z=(i:Int)) (hi:i<a.length):PR P n ⟨d,.index t x y,ty,pos,af,g⟩ e w (.int .u8 (Z09 a i)):=
 ⟨λc ha => by
   subst hz;have h1:(0:Int)<=(i:Int)/\((i:Int)<((⟨a.toArray⟩:ByteArray).size:Int)):=by rw [J5];omega
   have:=run_index_string (P:=P) w t ⟨a.toArray⟩ .i64 (i:Int) hu.h;rw [dif_pos h1] at this;simp only [execOp,ha.ev hx,ha.ev hy];simp [this,Z09,List.getD,hi];rfl⟩
theorem Z6w {t:TypeId} {x lo hi:Operand} {a:Str} {p q:Int} {l r:Nat} [hu:Und P t .string] (hx:ev e x=some (str a)) (h1:ev e lo=some (.I p)) (h2:ev e hi=some (.I q)) (hp:p=(l:Int)) (hq:q=(r:Int)) (sR:l<=r) (hr:r<=a.length) :
 PR P n ⟨d,.slice t x (some lo) (some hi) none,ty,pos,af,g⟩ e w (str ((a.take r).drop l)):=
 ⟨λc ha => by
   subst hp;subst hq;have:=run_slice_string (P:=P) w t ⟨a.toArray⟩ .i64 .i64 (l:Int) (r:Int) hu.h (by omega) (by omega) (by rw [J5];omega);simp only [execOp,ha.ev hx,ha.ev h1,ha.ev h2,Option.map];simp [Instr.sliceAt,run_underlying hu.h,this,Z1S]⟩
theorem Z7s {t:TypeId} {x lo:Operand} {a:Str} {p:Int} {l:Nat} [hu:Und P t .string] (hx:ev e x=some (str a)) (h1:ev e lo=some (.I p)) (hp:p=(l:Int)) (hl:l<=a.length) :
 PR P n ⟨d,.slice t x (some lo) none none,ty,pos,af,g⟩ e w (str (a.drop l)):=
 ⟨λc ha => by
   subst hp;have:=run_slice_string_l (P:=P) (t:=t) (s:=⟨a.toArray⟩) w hu.h .i64 (l:Int) (by omega) (by rw [J5];omega);simp only [execOp,ha.ev hx,ha.ev h1,Option.map];simp [Instr.sliceAt,run_underlying hu.h,this,Z1S,J5]⟩
theorem Z7t {t:TypeId} {x hi:Operand} {a:Str} {q:Int} {r:Nat} [hu:Und P t .string] (hx:ev e x=some (str a)) (h2:ev e hi=some (.I q)) (hq:q=(r:Int)) (hr:r<=a.length) :
 PR P n ⟨d,.slice t x none (some hi) none,ty,pos,af,g⟩ e w (str (a.take r)):=
 ⟨λc ha => by
   subst hq;have:=run_slice_string_h (P:=P) (t:=t) (s:=⟨a.toArray⟩) w hu.h .i64 (r:Int) (by omega) (by rw [J5];omega);simp only [execOp,ha.ev hx,ha.ev h2,Option.map];simp [Instr.sliceAt,run_underlying hu.h,this,Z1S]⟩
theorem Z46 {x:Operand} {b:Addr} (hx:ev e x=some (.pointer (some b))):PR P n ⟨d,.nilCheck x,ty,pos,af,g⟩ e w (.pointer (some b)):=
 ⟨λa ha=>by simp [execOp,ha.ev hx]⟩
theorem Zcj {t:TypeId} {x:Operand} {p:Prop} {i:Decidable p} (hx:ev e x=some (.B (decide p))):PR P n ⟨d,.unOp .not t x,ty,pos,af,g⟩ e w (.B (decide (¬ p))):=
 ⟨λa ha=>by simp [execOp,ha.ev hx,Op.unary]⟩
theorem Z1t {t el len k:Nat} {x y:Operand} {b o i:Nat} {z:Int} [hu:Und P t (.array len el)] [hk:Siz P el k] (hx:ev e x=some (.pointer (some ⟨b,o,none⟩))) (hy:ev e y=some (.I z)) (hz:z=(i:Int)) (hi:i<len) :
 PR P n ⟨d,.indexAddr t x y,ty,pos,af,g⟩ e w (.pointer (some ⟨b,o+i * k,none⟩)):=
 ⟨λa ha => by
   subst hz;have h0:(0:Int)<=(i:Int)/\(i:Int)<(len:Int):=by omega
   have hr:(Instr.indexAt t (.pointer (some ⟨b,o,none⟩)) (.I (i:Int))).run P w=.ok (.pointer (some ⟨b,o+i * k,none⟩)) w:=by
    simp only [Instr.indexAt,asIntOf];simp [run_underlying hu.h,Instr.sureAddr,Siz.run,Addr.add_lit,hi]
   simp [execOp,ha.ev hx,ha.ev hy,hr]⟩
theorem Z3G {t el len k:Nat} {x:Operand} {b:Nat} [hu:Und P t (.array len el)] [hk:Siz P el k] (hx:ev e x=some (pQ b)) :
 PR P n ⟨d,.slice t x none none none,ty,pos,af,g⟩ e w (.slice (some ⟨b,0,none⟩) len len):=
 ⟨λa ha => by
   have hr:(Instr.sliceAt t (pQ b) none none none).run P w=.ok (.slice (some ⟨b,0,none⟩) len len) w:=by
    simp [Instr.sliceAt,Instr.sureAddr,run_underlying hu.h,Instr.sliceBounds,Siz.run,Addr.add]
   simp [execOp,ha.ev hx,hr]⟩
theorem Zck {x y:Operand} {ts:Array TypeId} {a b:Int} (hx:ev e x=some (.I a)) (hy:ev e y=some (.I b)) :
 PR P n ⟨d,.call { callee:=.builtin .max,args:=#[x,y],argTypes:=ts },ty,pos,af,g⟩ e w (.I (max a b)):=
 ⟨λc ha => by
   have hm:(if b > a then b else a)=max a b:=by omega
   simp [execOp,resolve,invoke,builtin,ha.ev hx,ha.ev hy,run_max_int2,hm]⟩
theorem Zcl {x y:Operand} {ts:Array TypeId} {a b:Int} (hx:ev e x=some (.I a)) (hy:ev e y=some (.I b)) :
 PR P n ⟨d,.call { callee:=.builtin .min,args:=#[x,y],argTypes:=ts },ty,pos,af,g⟩ e w (.I (min a b)):=
 ⟨λc ha => by
   have hm:(if b<a then b else a)=min a b:=by omega
   simp [execOp,resolve,invoke,builtin,ha.ev hx,ha.ev hy,run_min_int2,hm]⟩
end rules
section
variable {P:Program} {n:Nat} {Q:Exit->Act->World->Prop} {e:Env} {w:World} {ops:Array Oper} {S:List Nat} {Lt:List Nat} {rest:List Oper} {ord:List (Nat×Nat)} {an bE:Nat} {ty:TypeId} {pos:String} {af:Array Edge} {gd:Option (Nat×Bool)}
theorem Za9 {t u:TypeId} {x y:Operand} {a b:Str} [hu:Und P t .string] (hx:ev e x=some (str a)) (hy:ev e y=some (str b)) (hl:a.length+b.length<=9223372036854775807) (aD:Nat.blt an n=true) (kk:WL P n ops Q rest ((an,(str (a++b))) :: e) w):WL P n ops Q (⟨some an,.binOp .add t x y u,ty,pos,af,none⟩ :: rest) e w:=by
 refine Z7 (v:=(str (a++b))) ?_ aD kk;apply Z6v<;>assumption
theorem Z2k {t:TypeId} {x y:Operand} {a:Str} {z:Int} {i:Nat} [hu:Und P t .string] (hx:ev e x=some (str a)) (hy:ev e y=some (.int .i64 z)) (hz:z=(i:Int)) (hi:i<a.length) (aD:Nat.blt an n=true) (kk:WL P n ops Q rest ((an,(.int .u8 (Z09 a i))) :: e) w):WL P n ops Q (⟨some an,.index t x y,ty,pos,af,none⟩ :: rest) e w:=by
 refine Z7 (v:=(.int .u8 (Z09 a i))) ?_ aD kk;apply Z5Q<;>assumption
theorem Z35 {t el len k:Nat} {x y:Operand} {b o i:Nat} {z:Int} [hu:Und P t (.array len el)] [hk:Siz P el k] (hx:ev e x=some (.pointer (some ⟨b,o,none⟩))) (hy:ev e y=some (.int .i64 z)) (hz:z=(i:Int)) (hi:i<len) (aD:Nat.blt an n=true) (kk:WL P n ops Q rest ((an,(.pointer (some ⟨b,o+i * k,none⟩))) :: e) w):WL P n ops Q (⟨some an,.indexAddr t x y,ty,pos,af,none⟩ :: rest) e w:=by
 refine Z7 (v:=(.pointer (some ⟨b,o+i * k,none⟩))) ?_ aD kk;apply Z1t<;>assumption
theorem Zfo {t el len k:Nat} {x y:Operand} {b o i:Nat} {z:Int} [hu:Und P t (.array len el)] [hk:Siz P el k] (aP:ops[bE]?=some ⟨some an,.indexAddr t x y,ty,pos,af,gd⟩) (aQ:Z0f ops e gd) (hx:ev e x=some (.pointer (some ⟨b,o,none⟩))) (hy:ev e y=some (.int .i64 z)) (hz:z=(i:Int)) (hi:i<len) (aD:Nat.blt an n=true) (kk:WD P n ops S Lt Q ord ((an,(.pointer (some ⟨b,o+i * k,none⟩))) :: e) w):WD P n ops S Lt Q ((bE,0) :: ord) e w:=by
 refine Zg (v:=(.pointer (some ⟨b,o+i * k,none⟩))) aP aQ (λw'=>?_) aD kk;apply Z1t<;>assumption
theorem ZaN {t el len k:Nat} {x:Operand} {b:Nat} [hu:Und P t (.array len el)] [hk:Siz P el k] (hx:ev e x=some (.pointer (some ⟨b,0,none⟩))) (aD:Nat.blt an n=true) (kk:WL P n ops Q rest ((an,(.slice (some ⟨b,0,none⟩) len len)) :: e) w):WL P n ops Q (⟨some an,.slice t x none none none,ty,pos,af,none⟩ :: rest) e w:=by
 refine Z7 (v:=(.slice (some ⟨b,0,none⟩) len len)) ?_ aD kk;apply Z3G<;>assumption
structure WO (P:Program) (n:Nat) (ops:Array Oper) (S:List Nat) (Lt:List Nat) (Q:Exit->Act->World->Prop) (o:Oper) (i q:Nat) (ord:List (Nat×Nat)) (e:Env) (w:World):Prop where
 h:ops[i]?=some o->WD P n ops S Lt Q ((i,q) :: ord) e w
theorem Z2B {o:Oper} {i q:Nat} (hi:ops[i]?=some o) (h:WO P n ops S Lt Q o i q ord e w):WD P n ops S Lt Q ((i,q) :: ord) e w:=h.h hi
theorem Z36 {t:TypeId} {l:List (Nat×Operand)} {vs:List (Nat×Value)} {u:Value} (aQ:Z0f ops e gd) (hv:Jo e l=some vs) (hb:∀ w,(Instr.build t vs.toArray).run P w=.ok u w) (aD:Nat.blt an n=true) (kk:WD P n ops S Lt Q ord ((an,u) :: e) w):WO P n ops S Lt Q ⟨some an,.build t l.toArray,ty,pos,af,gd⟩ bE 0 ord e w:=⟨λaP=>Z34 aP aQ hv hb aD kk⟩
theorem Zfp {x y:Operand} {t u:TypeId} {p q:Value} {c:Prop} [Decidable c] (aQ:Z0f ops e gd) (hx:ev e x=some p) (hy:ev e y=some q) (hg:∀ w,(eqGuard .eql t x y p q).run P w=.ok () w) (h:∀ w,(binOp .eql t p q).run P w=.ok (.bool (decide c)) w) (aD:Nat.blt an n=true) (kk:WD P n ops S Lt Q ord ((an,(.bool (decide c))) :: e) w):WO P n ops S Lt Q ⟨some an,.binOp .eql t x y u,ty,pos,af,gd⟩ bE 0 ord e w:=⟨λaP=>Zfl aP aQ hx hy hg h aD kk⟩
theorem Zfq {x y:Operand} {t u:TypeId} {p q:Value} {c:Prop} [Decidable c] (aQ:Z0f ops e gd) (hx:ev e x=some p) (hy:ev e y=some q) (hg:∀ w,(eqGuard .neq t x y p q).run P w=.ok () w) (h:∀ w,(binOp .neq t p q).run P w=.ok (.bool (decide (¬ c))) w) (aD:Nat.blt an n=true) (kk:WD P n ops S Lt Q ord ((an,(.bool (decide (¬ c)))) :: e) w):WO P n ops S Lt Q ⟨some an,.binOp .neq t x y u,ty,pos,af,gd⟩ bE 0 ord e w:=⟨λaP=>Zfm aP aQ hx hy hg h aD kk⟩
theorem Z2l {t el len k:Nat} {x y:Operand} {b o i:Nat} {z:Int} [hu:Und P t (.array len el)] [hk:Siz P el k] (aQ:Z0f ops e gd) (hx:ev e x=some (.pointer (some ⟨b,o,none⟩))) (hy:ev e y=some (.int .i64 z)) (hz:z=(i:Int)) (hi:i<len) (aD:Nat.blt an n=true) (kk:WD P n ops S Lt Q ord ((an,(.pointer (some ⟨b,o+i * k,none⟩))) :: e) w):WO P n ops S Lt Q ⟨some an,.indexAddr t x y,ty,pos,af,gd⟩ bE 0 ord e w:=⟨λaP=>Zfo aP aQ hx hy hz hi aD kk⟩
theorem elB {α:Type} [Z2 α] {X:List Nat} {xs:List α} {v u:Value} {i k:Nat} {x:Operand} {t:TypeId} {D:TypeDesc} {d:Option Nat} [hu:Und P t D] [bw:Siz P t k] (hA:JO D=true) (hx:ev e x=some (.pointer (some (Zq v i k 0)))) (hs:SlV X w v xs) (hi:i<xs.length) (hk:k=Z2.k α) (h:u=.agg (Z2.enc xs[i]).toArray):PR P n ⟨d,.load t x,ty,pos,af,gd⟩ e w u:=h ▸ Z7j hA hx hs hi hk
theorem exF {α:Type} [Z2 α] {X:List Nat} {w':World} {v:Value} {xs:List α} (h:SlV X w v xs) (hS:Stp S w w') (h1:∀ b∈S,b∈X):SlV X w' v xs:=h.ext hS h1 (λ_ h=>.inl h)
theorem Z7u {t:TypeId} {x:Operand} {d:Option Nat} {v:Value} (h:PR P n ⟨d,.load t x,ty,pos,af,gd⟩ e w v):PR P n ⟨d,.load t x,ty,pos,af,gd⟩ e w v:=h
theorem Zfr {t:TypeId} {x y:Operand} {d:Option Nat} {v:Value} (h:PR P n ⟨d,.indexAddr t x y,ty,pos,af,gd⟩ e w v):PR P n ⟨d,.indexAddr t x y,ty,pos,af,gd⟩ e w v:=h
theorem ZaO {t:TypeId} {x:Operand} {m:Nat} {d:Option Nat} {v:Value} (h:PR P n ⟨d,.fieldAddr t x m,ty,pos,af,gd⟩ e w v):PR P n ⟨d,.fieldAddr t x m,ty,pos,af,gd⟩ e w v:=h
theorem Zfs {t:TypeId} {x:Operand} {d:Option Nat} {v:Value} (h:PR P n ⟨d,.call { callee:=.builtin .len,args:=#[x],argTypes:=#[t] },ty,pos,af,gd⟩ e w v):PR P n ⟨d,.call { callee:=.builtin .len,args:=#[x],argTypes:=#[t] },ty,pos,af,gd⟩ e w v:=h
theorem ZpM {l:List Oper} (h:WL P n ops Q l e w):WL P n ops Q l e w:=h
theorem ZpN {c:Code} (h:WC P n c Q e w):WC P n c Q e w:=h
theorem ZpO {x:Exit} (h:WQ n Q x e w):WQ n Q x e w:=h
end
theorem PX {G:Prop} (h:G:=by
 first
  | (apply ZV;exact rfl)
  | (apply Z07;exact rfl)
  | (apply Z0w;exact rfl)
  | (apply Zfr;first|exact Z0n rfl (by assumption) rfl rfl (by assumption)|exact Z0n rfl (by assumption) rfl rfl (by omega)|exact Z0n rfl (by assumption) rfl (by assumption) (by first|assumption|omega)|exact Z0n (i:=0) rfl (by assumption) rfl rfl (by omega)|exact Z0n (i:=1) rfl (by assumption) rfl rfl (by omega)|exact Z0n (i:=2) rfl (by assumption) rfl rfl (by omega)|exact Z1t (i:=0) rfl rfl rfl (by decide)|exact Z1t (i:=1) rfl rfl rfl (by decide)|exact Z1t (i:=2) rfl rfl rfl (by decide)|exact Z1t rfl rfl rfl (by omega))
  | (apply ZaO;exact Z0e rfl (SlV.isSome (by assumption) (by assumption)))
  | (apply Zfs;first|exact Za8 rfl|exact Zff rfl (by assumption)|exact Z8K rfl)
  | (apply Z08;exact rfl;exact rfl)
  | (apply Z46;exact rfl)
  | (apply Zcb;exact rfl;exact rfl)
  | (apply Z8H;exact rfl;exact rfl)
  | (apply Z8J;exact rfl;exact rfl)
  | (apply Za6;exact rfl;exact rfl)
  | (apply Za7;exact rfl;exact rfl)
  | (apply Zc7;exact rfl;exact rfl;(unfold I64;omega))
  | (apply Zc8;exact rfl;exact rfl;(unfold I64;omega))
  | (apply Zc9;exact rfl;exact rfl)
  | (apply Z8I;exact rfl;exact rfl)
  | (apply Zca;exact rfl;exact rfl)
  | (apply Za2;exact rfl;exact rfl)
  | (apply Z6n;exact rfl;exact rfl)
  | (apply ZiJ;exact rfl;exact rfl;(unfold I64;omega))
  | (apply Zfe;exact rfl;exact rfl;omega;omega;(unfold I64;omega))
  | (apply Zfd;exact rfl;exact rfl;omega;omega;(unfold I64;omega))
  | (apply Z6v;exact rfl;exact rfl;omega)
  | (apply Zc5;exact rfl)
  | (apply Zc6;exact rfl)
  | (apply Zcj;exact rfl)
  | (apply Z8G;exact rfl)
  | (apply ZiK;exact rfl;(unfold I64;omega))
  | (apply Z5M;exact rfl;exact rfl)
  | (apply Z5N;exact rfl;exact rfl)
  | (apply Zck;exact rfl;exact rfl)
  | (apply Zcl;exact rfl;exact rfl)
  | (apply Z5Q;exact rfl;exact rfl;exact rfl;(first|assumption|omega))
  | apply Z6o
  | (apply Z6p;exact rfl)
  | (apply Z6q;exact rfl;exact rfl)
  | (apply Z6r;exact rfl;exact rfl;exact rfl)):G:=h
structure Z1T (R:Prop):Prop where
 h:R
theorem W1 {G R:Prop} (k:R) (h:Z1T R->G:=by
 intro r
 repeat1' (first
  | (apply ZpM;first
  | apply Z3E
  | (apply Z7;exact PX;exact rfl)
  | (apply Z7;(apply Z7u;first|exact J4 rfl rfl (by assumption) (by rfl)|exact Z1o rfl rfl (by assumption) (by first|assumption|omega) (by rfl) (by rfl)|exact Z31 rfl rfl (by assumption) (by rfl)|exact elB rfl rfl (by assumption) (by assumption) (by rfl) rfl);exact rfl)
  | (apply Zir;exact rfl)
  | (apply Z9Z;exact rfl;exact rfl))
  | (apply ZpN;first|apply Z2J|apply Z0D|apply Zc2|apply Z4v|apply Z4F|apply Zf7|(apply Z0u;exact rfl)|(apply Z0a;exact rfl))
  | (apply ZpO;first|apply Z2g|apply Z0d|apply Zn|apply Ze|(apply Zo;exact rfl)|apply Z6k|apply ZL))
 exact r.h):G:=h ⟨k⟩
theorem W {G R:Prop} (k:R) (h:Z1T R->G:=by
 intro r;first|(refine W1 ?_;exact r.h)|exact r.h):G:=h ⟨k⟩
theorem D1 {G R:Prop} (k:R) (h:Z1T R->G:=by
 intro r
 repeat1' (first
  | apply Z3F
  | (apply Zg;exact rfl;(first|exact trivial|exact rfl);(intro w';exact PX);exact rfl)
  | (apply WD_read;exact rfl;(first|exact trivial|exact rfl);(intro w' hS;apply Z7u;first|exact J4 rfl rfl (Blk.ext (by assumption) hS (by first|assumption|(simp;done)|(simp;omega))) (by rfl)|exact Z1o rfl rfl (exF (by assumption) hS (by first|exact λ_ h=>h|(simp;done))) (by first|assumption|omega) (by rfl) (by rfl)|exact Z31 rfl rfl (Blk.ext (by assumption) hS (by first|assumption|(simp;done)|(simp;omega))) (by rfl)|exact elB rfl rfl (exF (by assumption) hS (by first|exact λ_ h=>h|(simp;done))) (by assumption) (by rfl) rfl);exact rfl)
  | (apply Z7n;exact rfl;exact rfl;exact rfl)
  | (apply Z7o;exact rfl;exact rfl;exact rfl)
  | (apply Z7p;exact rfl;exact rfl;exact rfl))
 exact r.h):G:=h ⟨k⟩
theorem D {G R:Prop} (k:R) (h:Z1T R->G:=by
 intro r;first|(refine D1 ?_;exact r.h)|exact r.h):G:=h ⟨k⟩
theorem WR {G R:Prop} (k:R) (h:Z1T R->G:=by
 intro r;first|refine Zfa rfl rfl ?_|refine Zfb rfl rfl rfl ?_|refine Zfc rfl rfl rfl rfl ?_|refine Za1 rfl ?_|refine Z6m rfl ?_
 exact r.h):G:=h ⟨k⟩
theorem VG {G R S:Prop} (k:R) (l:S) (h:Z1T R->Z1T S->G:=by
 intro r s;first|refine Zc4 rfl rfl ?_ ?_|refine ZaK rfl rfl ?_ ?_
 exact r.h;exact s.h):G:=h ⟨k⟩ ⟨l⟩
theorem VC {G R S:Prop} (k:R) (l:S) (h:Z1T R->Z1T S->G:=by
 intro r s;first|refine Z6l rfl ?_ ?_|refine Z7i rfl ?_ ?_
 exact r.h;exact s.h):G:=h ⟨k⟩ ⟨l⟩
theorem hap {p A:Prop} (r:Z1T (p->A)) (h:p):A:=r.h h
theorem QO {G R:Prop} (k:R) (h:Z1T R->G:=by
 intro r
 repeat1' (first|refine W1 ?_|(refine VG ?_ ?_<;>intro hg;(first|(focus omega)|(rotate_left;focus omega)))|(refine VC ?_ ?_<;>intro hg;(first|(focus omega)|(rotate_left;focus omega))))
 exact r.h):G:=h ⟨k⟩
theorem QP {G R S:Prop} (k:R) (l:S) (h:Z1T R->Z1T S->G:=by
 intro r s;first|refine QO ?_|skip
 first|(refine VG ?_ ?_<;>intro hg)|(refine VC ?_ ?_<;>intro hg)
 first|(refine QO ?_;exact hap r hg)|exact hap r hg
 first|(refine QO ?_;exact hap s hg)|exact hap s hg):G:=h ⟨k⟩ ⟨l⟩
theorem QD {G R:Prop} (k:R) (h:Z1T R->G:=by
 intro r
 repeat1' (first|refine D1 ?_|refine Z8 rfl rfl rfl rfl (λhg=>?_) (λhg=>absurd hg (by omega))|refine Z8 rfl rfl rfl rfl (λhg=>absurd hg (by omega)) (λhg=>?_)|(refine Z6 rfl rfl rfl rfl (λhg=>?_) (λhg=>?_)<;>refine D1 ?_;(first|(focus omega)|(rotate_left;focus omega))))
 exact r.h):G:=h ⟨k⟩
theorem SA {P:Program} {n:Nat} {Q:Exit->Act->World->Prop} {e:Env} {w:World} {rest:List Oper} {ops:Array Oper} {ty:TypeId} {pos:String} {af:Array Edge} {b T m t:Nat} {cs us:List Value} {x y:Operand} {u:Value} [bw:Siz P t m] (hb:Blk w b T cs) (k:∀ (v:Value) (w':World),Stp [b] w w'/\Blk w' b T us->WL P n ops Q rest e w')
 (hx:ev e x=some (.pointer (some ⟨b,0,none⟩)):=by exact rfl) (hy:ev e y=some u:=by exact rfl) (hu:u.cells.toList=us:=by exact rfl) (hm:us.length=m:=by exact rfl) (h1:∀ c∈us,c.oneCell'=true:=by exact Z2.one _) (hl:us.length=cs.length:=by exact rfl):WL P n ops Q (⟨none,.store t x y,ty,pos,af,none⟩ :: rest) e w:=Z5 (Jf hx hy hu hm h1 hb hl) k
theorem S1 {P:Program} {n:Nat} {Q:Exit->Act->World->Prop} {e:Env} {w:World} {rest:List Oper} {ops:Array Oper} {ty:TypeId} {pos:String} {af:Array Edge} {b T o t:Nat} {cs:List Value} {x y:Operand} {u:Value} [bw:Siz P t 1] (hb:Blk w b T cs) (k:∀ (v:Value) (w':World),Stp [b] w w'/\Blk w' b T (cs.set o u)->WL P n ops Q rest e w')
 (hx:ev e x=some (.pointer (some ⟨b,o,none⟩)):=by exact rfl) (hy:ev e y=some u:=by exact rfl) (hu:u.cells.toList=[u]:=by exact rfl) (h1:u.oneCell'=true:=by exact rfl) (hl:o<cs.length:=by simp):WL P n ops Q (⟨none,.store t x y,ty,pos,af,none⟩ :: rest) e w:=Z5 (Zj hx hy hu h1 hb hl) k
theorem LP {P:Program} {n:Nat} {Q:Exit->Act->World->Prop} {e:Env} {w:World} {c:Code} {σ:Type} (env:σ->Env) (I:σ->World->Prop) (μ:σ->Nat) (dh:σ) (hI:I dh w) (round:∀ s w,I s w->WC P n c (Exit.then (λa' w'=>∃ s',Has n (env s') a'/\I s' w'/\μ s' < μ s) Q) (env s) w) (hs:Sub (env dh) e:=by repeat (first|exact trivial|refine ⟨rfl,?_⟩)):WC P n (.loop c) Q e w:=Zr env I μ dh hs hI round
theorem SB {P:Program} {n:Nat} {Q:Exit->Act->World->Prop} {e:Env} {w:World} {rest:List Oper} {ops:Array Oper} {ty:TypeId} {pos:String} {af:Array Edge} {b T m t:Nat} {cs us:List Value} {x y:Operand} {u:Value} [bw:Siz P t m] (h1:∀ c∈us,c.oneCell'=true) (hb:Blk w b T cs) (k:∀ (v:Value) (w':World),Stp [b] w w'/\Blk w' b T us->WL P n ops Q rest e w')
 (hx:ev e x=some (.pointer (some ⟨b,0,none⟩)):=by exact rfl) (hy:ev e y=some u:=by exact rfl) (hu:u.cells.toList=us:=by exact rfl) (hm:us.length=m:=by exact rfl) (hl:us.length=cs.length:=by exact rfl):WL P n ops Q (⟨none,.store t x y,ty,pos,af,none⟩ :: rest) e w:=Z5 (Jf hx hy hu hm h1 hb hl) k
theorem QL {σ:Type} {n:Nat} {Q:Exit->Act->World->Prop} {e:Env} {w:World} {env:σ->Env} {I:σ->World->Prop} {μ:σ->Nat} {m:Nat} (s:σ) (hI:I s w) (hm:μ s<m) (hs:Sub (env s) e:=by repeat (first|exact trivial|refine ⟨rfl,?_⟩)):WQ n (Exit.then (λa w=>∃ s,Has n (env s) a/\I s w/\μ s<m) Q) .normal e w:=J3 s hs hI hm
theorem QT {σ:Type} {n:Nat} {Q:Exit->Act->World->Prop} {e:Env} {w:World} {env:σ->Env} {I:σ->World->Prop} (s:σ) (hI:I s w) (hs:Sub (env s) e:=by repeat (first|exact trivial|refine ⟨rfl,?_⟩)):WQ n (Exit.then (λa w=>∃ s,Has n (env s) a/\I s w) Q) .normal e w:=Zt s hs hI
theorem RU {G A:Prop} (k:A) (h:Z1T A->G:=by
 intro r;refine WR ?_;exact .mk r.h):G:=h ⟨k⟩
theorem RT {G A:Prop} (k:A) (h:Z1T A->G:=by
 intro r;first|refine QO ?_|skip
 refine WR ?_;exact .mk r.h):G:=h ⟨k⟩
theorem CL {P:Program} {n:Nat} {Q:Exit->Act->World->Prop} {e:Env} {w:World} {rest:List Oper} {f d:Nat} {fn:Func} {xs:Array Operand} {ts:Array TypeId} {vs:Array Value} {G:Value->World->Prop} {c:Operand} {ty:TypeId} {pos:String} {af:Array Edge} {ops:Array Oper} [hf:Fun P f fn] (h:Calls P f vs w (Ret G)) (k:∀ v w',G v w'->WL P n ops Q rest ((d,v) :: e) w') (hc:ev e c=some (.func (.func f) #[] #[]):=by exact rfl) (hv:∀ a,Has n e a->xs.map a.eval=vs:=by first|exact ZaL|exact ZO rfl|exact ZK rfl rfl|exact Z16 rfl rfl rfl|exact Z30 rfl rfl rfl rfl|exact Zmm rfl rfl rfl rfl rfl) (hd:Nat.blt d n=true:=by exact rfl):WL P n ops Q (⟨some d,.call { callee:=.value c,args:=xs,argTypes:=ts },ty,pos,af,none⟩ :: rest) e w:=Z0 (Zd hc hv h) hd k
theorem CM {P:Program} {n:Nat} {Q:Exit->Act->World->Prop} {e:Env} {w:World} {rest:List Oper} {f d:Nat} {fn:Func} {xs:Array Operand} {ts:Array TypeId} {vs:Array Value} {G:Value->World->Prop} {c:Operand} {ty:TypeId} {pos:String} {af:Array Edge} {ops:Array Oper} [hf:Fun P f fn] (hv:∀ a,Has n e a->xs.map a.eval=vs) (h:Calls P f vs w (Ret G)) (k:∀ v w',G v w'->WL P n ops Q rest ((d,v) :: e) w') (hc:ev e c=some (.func (.func f) #[] #[]):=by exact rfl) (hd:Nat.blt d n=true:=by exact rfl):WL P n ops Q (⟨some d,.call { callee:=.value c,args:=xs,argTypes:=ts },ty,pos,af,none⟩ :: rest) e w:=Z0 (Zd hc hv h) hd k
theorem DC {P:Program} {n:Nat} {S Lt:List Nat} {Q:Exit->Act->World->Prop} {e:Env} {w:World} {ord:List (Nat×Nat)} {i f d:Nat} {fn:Func} {gd:Option (Nat×Bool)} {xs:Array Operand} {ts:Array TypeId} {vs:Array Value} {G:Value->World->Prop} {c:Operand} {ty:TypeId} {pos:String} {af:Array Edge} {ops:Array Oper} [hf:Fun P f fn] (h:Calls P f vs w (Ret G)) (hG:∀ v w',G v w'->Stp S w w') (k:∀ v w',G v w'->WD P n ops S Lt Q ord ((d,v) :: e) w') (hi:ops[i]?=some ⟨some d,.call { callee:=.value c,args:=xs,argTypes:=ts },ty,pos,af,gd⟩:=by exact rfl) (hg:Z0f ops e gd:=by first|exact trivial|exact rfl) (hc:ev e c=some (.func (.func f) #[] #[]):=by exact rfl) (hv:∀ a,Has n e a->xs.map a.eval=vs:=by first|exact ZaL|exact ZO rfl|exact ZK rfl rfl|exact Z16 rfl rfl rfl|exact Z30 rfl rfl rfl rfl|exact Zmm rfl rfl rfl rfl rfl) (hd:Nat.blt d n=true:=by exact rfl):WD P n ops S Lt Q ((i,2) :: ord) e w:=Zp hi hg (Zd hc hv h) hG hd k
abbrev bts (s:Str):ByteArray:=⟨s.toArray⟩
def Itr (w:World) (b:Nat) (s:Str) (p:Nat):Prop:=w.heap[b]?=some (.stringIter (bts s) p)
theorem Itr.lt {w} {b p:Nat} {s:Str} (h:Itr w b s p):b<w.heap.size:=(Xi.1 h).1
def dec (s:Str) (p:Nat):Nat×Nat:=Utf8.decode (bts s) p
theorem Z4N (s:Str):(bts s).size=s.length:=by simp [ByteArray.size]
theorem ZaP {s:Str} {p:Nat} (h:p<s.length) (ha:(s[p]).toNat<128):dec s p=((s[p]).toNat,1):=by
 have h1:p<(bts s).size:=by rw [Z4N];exact h
 have e:(bts s)[p]'h1=s[p]:=by simp [bts,ByteArray.getElem_eq_getElem_data]
 have:=decode_ascii (bts s) p h1 (by rw [e];exact ha);rw [e] at this;exact this
section
variable {P:Program} {n:Nat} {e:Env} {w:World} {d:Option Nat} {ty:TypeId} {pos:String} {af:Array Edge} {g:Option (Nat×Bool)}
theorem Zcm {x:Operand} {t:TypeId} {s:Str} [hu:Und P t .string] (hx:ev e x=some (str s)):OE P n ⟨d,.range t x,ty,pos,af,g⟩ e w (λv w'=>∃ b,v=pQ b/\w.heap.size<=b/\Itr w' b s 0/\Stp [] w w'):=
 Zs (v:=.pointer (some ⟨w.heap.size,0,none⟩)) (w':=w.iter (bts s) 0) (λa ha=>by
  have:=run_range_string (P:=P) w t (bts s) hu.h;simp [execOp,ha.ev hx,this]) ⟨w.heap.size,rfl,Xm _,World.iter_heap _ _ _,Stp.alloc _ _ _⟩
theorem Zft {x:Operand} {s:Str} {b p:Nat} (hx:ev e x=some (pQ b)) (hI:Itr w b s p) (hp:p<s.length) :
 OE P n ⟨d,.next x true,ty,pos,af,g⟩ e w (λv w'=>v=.tuple #[.B true,.I p,.int .i32 ((dec s p).1:Int)]/\Itr w' b s (p+(dec s p).2)/\Stp [b] w w'):=by
 have ah:=hI.lt;have ls:p<(bts s).size:=by rw [Z4N];exact hp
 unfold Itr at hI;refine Zs (v:=.tuple #[.B true,.I p,.int .i32 ((dec s p).1:Int)]) (w':={ w with heap:=w.heap.setIfInBounds b (.stringIter (bts s) (p+(dec s p).2)) }) (λa ha=>?_) ⟨rfl,?_,⟨rfl,rfl,rfl,by simp,λk hk hn=>?_⟩⟩
 . simp [execOp,ha.ev hx,Instr.next,getObj,setObj,Sem.run,hI,ls,goInt,dec]
 show (w.heap.setIfInBounds b _)[b]?=_;simp [ah];show (w.heap.setIfInBounds b _)[k]?=_;exact YaN (by simpa using λh=>hn (by simp [h]))
theorem Z8R {x:Operand} {s:Str} {b p:Nat} (hx:ev e x=some (pQ b)) (hI:Itr w b s p) (hp:¬ p<s.length) :
 OE P n ⟨d,.next x true,ty,pos,af,g⟩ e w (λv w'=>v=.tuple #[.B false]/\w'=w):=by
 have ls:¬ p<(bts s).size:=by rw [Z4N];exact hp
 unfold Itr at hI;refine Zs (v:=.tuple #[.B false]) (w':=w) (λa ha=>?_) ⟨rfl,rfl⟩;simp [execOp,ha.ev hx,Instr.next,getObj,Sem.run,hI,ls]
theorem Zcn {x:Operand} {t:TypeId} {i:Nat} {u v:Value} (hx:ev e x=some u) (hb:∀ w,(Instr.field t u i).run P w=.ok v w):PR P n ⟨d,.field t x i,ty,pos,af,g⟩ e w v:=
 ⟨λa ha=>by simp [execOp,ha.ev hx,hb]⟩
end
def ZE {β:Type} [Z2 β] (T:Nat) (w w':World) (v:Value) (xs:List β):Prop:=Row [] w' w.heap.size T v xs/\Stp [] w w'
section
variable {β:Type} [Z2 β] {T:Nat} {w w' w'':World} {v:Value} {xs ys:List β}
theorem Row.lower {α:Type} [Z1 α] {X:List Nat} {a b:Nat} {xs:List α} (h:Row X w b T v xs) (cj:a<=b):Row X w a T v xs:=by
 obtain ⟨css,h1,h2,h3,h4⟩:=h;refine ⟨css,h1,h2,h3,h4.imp id ?_⟩;rintro ⟨g,cap,cur,e1,e2,rest⟩;exact ⟨g,cap,cur,e1,Xl cj e2,rest⟩
theorem ZE.nil:ZE (β:=β) T w w (.N) []:=⟨Row.nil,Stp.refl _ _⟩
theorem ZE.up (h:ZE T w w' v xs) (hS:Stp [] w' w''):ZE T w w'' v xs:=⟨h.1.up hS,h.2.trans hS⟩
theorem ZE.pre (hS:Stp [] w w') (h:ZE T w' w'' v xs):ZE T w w'' v xs:=⟨h.1.lower hS.size,hS.trans h.2⟩
theorem ZE.one {cs:List Value} {len:Nat} (h:Zh w T len cs v w') (hl:len=xs.length) (hc:cs=xs.flatMap Z2.enc) (hm:xs.length<=maxLen):ZE T w w' v xs:=⟨h.row (Xm _) hl hc hm,h.choose_spec.2.2.2⟩
theorem ZE.slv (h:ZE T w w' v xs) {X:List Nat} (hX:∀ b∈X,b<w.heap.size):SlV X w' v xs:=Row.slv (X:=X) h.1 hX
theorem ZE.ob_le (h:ZE T w w' v xs):∀ b∈ob v,w.heap.size<=b/\b<w'.heap.size:=h.1.ob_le
theorem ZE.step {S:List Nat} (h:ZE T w w' v xs) (hS:Stp S w' w'') (ho:∀ b∈S,b∈ob v):Stp [] w w'':=h.2.own hS (λb hb=>.inr (h.ob_le b (ho b hb)).1)
section
variable {P:Program} {n:Nat} {e:Env} {d:Option Nat} {ty:TypeId} {pos:String} {af:Array Edge} {g:Option (Nat×Bool)}
theorem Z37 {x y:Operand} {t bytes:Nat} {u:Value} {z:Value} [ht:Und P t (.slice T)] [hk:Siz P T (Z1.k β)] [hb:Byt P T bytes] [hz:Zer P T z] (ee:z.cells.size=Z1.k β) (aO:0<Z1.k β)
 (hx:ev e x=some v) (hy:ev e y=some u) (h:ZE T w w' v xs) (bZ:SlV (ob v) w' u ys) (hbytes:(xs.length+ys.length) * bytes<=140737488355328) (am:xs.length+ys.length<=maxLen) :
 OE P n ⟨d,.call { callee:=.builtin .append,args:=#[x,y],argTypes:=#[t,t] },ty,pos,af,g⟩ e w' (λv' w''=>ZE T w w'' v' (xs++ys)/\Stp (ob v) w' w''/\∀ b∈ob v',b∈ob v\/w'.heap.size<=b):=by
 refine (ZJ (X:=[]) (base:=w.heap.size) ee aO hx hy h.1 (by rw [XJ];exact bZ) hbytes am h.2.size).mono ?_;rintro v' w2 ⟨h1,h2,h3⟩;exact ⟨⟨h1,h.step h2 (λ_ hb=>hb)⟩,h2,h3⟩
theorem Zfu {i j k:Nat} {t:TypeId} {x y:Operand} {u:Value} {y':β} [bw:Siz P t 1] (hx:ev e x=some (.pointer (some (Zq v i k j)))) (hy:ev e y=some u) (hk:k=Z2.k β)
 (hu:u.cells.toList=[u]) (h1:u.oneCell'=true) (h:ZE T w w' v xs) (hi:i<xs.length) (hj:j<Z2.k β) (aV:Z2.enc y'=(Z2.enc xs[i]).set j u) :
 OE P n ⟨d,.store t x y,ty,pos,af,g⟩ e w' (λ_ w''=>ZE T w w'' v (xs.set i y')/\Stp (ob v) w' w''):=by
 refine (Z5P (β:=β) hx hy hk hu h1 h.1 hi hj aV).mono ?_;rintro _ w2 ⟨h2,h3⟩;exact ⟨⟨h2,h.step h3 (λ_ hb=>hb)⟩,h3⟩
end
end
structure Sl (α:Type) where
 l:List α
instance {α:Type} [Z1 α]:Z1 (Sl α) where
 k:=1
 rep:=λX w x cs=>∃ v,cs=[v]/\SlV X w v x.l
 len:=by rintro X w x cs ⟨v,rfl,_⟩;rfl
 one:=by
  rintro X w x cs ⟨v,rfl,p,c,rfl,_⟩ u hu;simp at hu;subst hu;rfl
 ext:=by
  rintro X S X' w w' x cs ⟨v,rfl,h⟩ hS h1 h2;exact ⟨v,rfl,h.ext hS h1 h2⟩
theorem Zh.slvS {α:Type} [Z1 α] {w w':World} {X:List Nat} {T len:Nat} {vs:List Value} {v:Value} {xss:List (Sl α)} (h:Zh w T len vs v w') (hX:∀ b∈X,b<w.heap.size) (hl:len=xss.length) (sS:vs.length=xss.length)
 (hr:∀ i (hi:i<xss.length) (bV:i<vs.length),SlV X w vs[i] xss[i].l) (hm:xss.length<=maxLen):SlV X w' v xss:=by
 obtain ⟨b,rfl,hb,ab,hS⟩:=h;subst hl;refine ⟨some ⟨b,0,none⟩,xss.length,rfl,Xm _,hm,λh=>by simp at h,λi hi=>⟨b,0,[vs[i]'(by omega)],rfl,ab.lt,λhx=>by have:=hX b hx;omega,⟨_,rfl,(hr i hi (by omega)).up hS⟩,λj u hu=>?_⟩⟩;refine ab.cell ?_;have:j=0:=by
  have:=(Xn.1 hu).1;simp at this;exact this
 subst this;simp at hu;subst hu;simp [Z1.k]
theorem SlV.sub {α:Type} [Z1 α] {w} {X:List Nat} {v:Value} {xss:List (Sl α)} {i:Nat} (h:SlV X w v xss) (hi:i<xss.length):∃ u,w.cell? (Zq v i 1 0)=some u/\SlV X w u xss[i].l:=by
 obtain ⟨cs,⟨u,rfl,hu⟩,hc⟩:=h.cell hi;exact ⟨u,hc 0 u rfl,hu⟩
variable {P:Program} {n:Nat} {e:Env} {w:World} {d:Option Nat} {ty:TypeId} {pos:String} {af:Array Edge} {g:Option (Nat×Bool)}
theorem Z8S {x:Operand} {t:TypeId} {el:TypeId} [hu:Und P t (.slice el)] {p:Option Addr} {l c:Nat} (hx:ev e x=some (.slice p l c)) :
 PR P n ⟨d,.call { callee:=.builtin .cap,args:=#[x],argTypes:=#[t] },ty,pos,af,g⟩ e w (.I (c:Int)):=
 ⟨λa ha => by
   have:=run_cap_slice (P:=P) w t ty p l c (by rw [hu.h,Program.elem,hu.h]);simp [execOp,resolve,invoke,builtin,ha.ev hx,this,goInt]⟩
theorem Z8T {t el k:Nat} {x hi:Operand} {l c:Nat} [hu:Und P t (.slice el)] [hk:Siz P el k] (hx:ev e x=some (.slice none l c)) (hb:ev e hi=some (.I 0)) :
 PR P n ⟨d,.slice t x none (some hi) none,ty,pos,af,g⟩ e w (.slice none 0 c):=by
 refine ⟨λact dI=>?_⟩;simp [execOp,dI.ev hx,dI.ev hb,Instr.sliceAt,run_underlying hu.h,Instr.slice,Instr.sliceBounds,Instr.sliceBound,asIntOf,Siz.run]
theorem ZaQ {t el k:Nat} {x hi:Operand} {b o:Nat} {l c:Nat} [hu:Und P t (.slice el)] [hk:Siz P el k] (hx:ev e x=some (.slice (some ⟨b,o,none⟩) l c)) (hb:ev e hi=some (.I 0)) :
 PR P n ⟨d,.slice t x none (some hi) none,ty,pos,af,g⟩ e w (.slice (some ⟨b,o,none⟩) 0 c):=by
 refine ⟨λact dI=>?_⟩;simp [execOp,dI.ev hx,dI.ev hb,Instr.sliceAt,run_underlying hu.h,Instr.slice,Instr.sliceBounds,Instr.sliceBound,asIntOf,Siz.run,Addr.add_lit]
theorem Zfv {t tn T bytes k:Nat} {kn:IntKind} {x y:Operand} {z:Value} [ht:Und P t (.slice T)] [hn:Und P tn (.int kn)] [hk:Siz P T 1] [hb:Byt P T bytes] [hz:Zer P T z] (gm:z.cells.size=1)
 (hx:ev e x=some (.N)) (hy:ev e y=some (.I (k:Int))) (h0:0<k) (ft:k<=maxLen) (hbytes:k * bytes<=140737488355328) :
 OE P n ⟨d,.call { callee:=.builtin .append,args:=#[x,y],argTypes:=#[t,tn] },ty,pos,af,g⟩ e w
  (λv w'=>∃ c,v=.slice (some ⟨w.heap.size,0,none⟩) k c/\w'.ownsRow w.heap.size T 1 (.slice (some ⟨w.heap.size,0,none⟩) 0 c) 0 []/\Stp [] w w'):=by
 obtain ⟨i,hi,cY,dY,fD⟩:∃ i,P.info? T=some i/\i.size=1/\i.bytes=bytes/\i.zero=some z:=by
  have a1:=hk.h;have a2:=hb.h;have a3:=hz.h;cases hi:P.info? T with
  | none=>simp [hi] at a1
  | some i=>exact ⟨i,rfl,by simpa [hi] using a1,by simpa [hi] using a2,by simpa [hi] using a3⟩
 have aI:=Go.Lib.run_append_nil_zeros (P:=P) w t tn ty T i z .i64 kn ht.h hn.h hi fD k h0 (by omega) (by simp [maxLen] at ft;omega) (by rw [dY];omega);have fu:=grownCap_ge w k 0 T;have bw:(Builtin.zeroCells z.cells k++Builtin.zeroCells z.cells (grownCap w k 0 T - k)).size=grownCap w k 0 T * 1:=by
  rw [Array.size_append,size_zeroCells,size_zeroCells,gm];omega
 refine Zs (v:=.slice (some ⟨w.heap.size,0,none⟩) k (grownCap w k 0 T)) (w':=w.drew.alloc (.cells (Builtin.zeroCells z.cells k++Builtin.zeroCells z.cells (grownCap w k 0 T - k)) T)) (λa ha=>?_) ⟨_,rfl,World.ownsRow_made w.drew _ _ (Xm _) (grownCap_le_maxLen w k 0 T ft) bw,(Stp.drew [] w).trans (Stp.alloc [] _ _)⟩;simp [execOp,resolve,invoke,builtin,ha.ev hx,ha.ev hy,aI]
variable {P:Program} {n:Nat} {e:Env} {w:World} {d:Option Nat} {ty:TypeId} {pos:String} {af:Array Edge} {g:Option (Nat×Bool)}
theorem Z1L (k:Nat) (u:Value):(List.replicate k [u]).flatten=List.replicate k u:=by
 induction k with
 | zero=>rfl
 | succ k ih=>rw [Ybe,Yai,ih];rfl
theorem Z0b {α:Type} [Z1 α] {t T bytes k:Nat} {x y:Operand} {z u:Value} {a0:α} [ht:Und P t (.slice T)] [hk:Siz P T 1] [hb:Byt P T bytes] [hz:Zer P T z] (bz:Z1.k α=1) (pP:z.cells=#[u]) (dm:∀ (X:List Nat) (w),Z1.rep X w a0 [u])
 (hx:ev e x=some (.I (k:Int))) (hy:ev e y=some (.I (k:Int))) (ft:k<=maxLen) (hbytes:bytes * k<=281474976710656) :
 OE P n ⟨d,.makeSlice t x y,ty,pos,af,g⟩ e w (λv w'=>(∀ X,Row X w' w.heap.size T v (List.replicate k a0))/\Stp [] w w'):=by
 obtain ⟨i,hi,cY,dY,fD⟩:∃ i,P.info? T=some i/\i.size=1/\i.bytes=bytes/\i.zero=some z:=by
  have a1:=hk.h;have a2:=hb.h;have a3:=hz.h;cases hi:P.info? T with
  | none=>simp [hi] at a1
  | some i=>exact ⟨i,rfl,by simpa [hi] using a1,by simpa [hi] using a2,by simpa [hi] using a3⟩
 obtain ⟨w',aI,bA,ji⟩:=run_make_full (P:=P) w w.heap.size t T i z 1 ht.h hi fD cY .i64 .i64 k (by rw [dY];exact hbytes) ft (Xm _);rw [pP,YaW,toList_madeCells_one] at bA;refine Zs (v:=.slice (some ⟨w.heap.size,0,none⟩) k k) (w':=w') (λa ha=>?_) ⟨λX=>⟨List.replicate k [u],by simp,λj hj eC=>?_,?_⟩,Stp.of_grown ji⟩;simp [execOp,ha.ev hx,ha.ev hy,aI];rw [List.getElem_replicate,List.getElem_replicate];exact dm _ _;rw [Z1L,bz,Ya3];exact bA
section
variable {P:Program} {n:Nat} {e:Env} {d:Option Nat} {ty:TypeId} {pos:String} {af:Array Edge} {g:Option (Nat×Bool)}
variable {α:Type} [Z1 α] {X:List Nat} {w w':World} {base T:Nat} {v:Value} {xs:List α}
theorem Z1U {i k:Nat} {t:TypeId} {x y:Operand} {u:Value} {y':α} [bw:Siz P t k] (hx:ev e x=some (.pointer (some (Zq v i k 0)))) (hy:ev e y=some u) (hk:k=Z1.k α)
 (aV:Z1.rep (ob v++X) w y' u.cells.toList) (ac:Row X w base T v xs) (hi:i<xs.length) :
 OE P n ⟨d,.store t x y,ty,pos,af,g⟩ e w (λ_ w'=>Row X w' base T v (xs.set i y')/\Stp (ob v) w w'):=by
 have gg:=ac;obtain ⟨css,hl,hr,ho⟩:=ac;have am:∀ c∈css,c.length=Z1.k α:=by
  intro c hc;obtain ⟨q,hq,rfl⟩:=Xq hc;exact Z1.len (hr q (by omega) hq)
 rcases ho.2 with ⟨rfl,hn⟩|⟨q,cap,cur,rfl,hb,hg,bj,aW,aH,ht⟩
 omega;subst hk;have cO:u.cells.toList.length=Z1.k α:=Z1.len aV;have aN:i * Z1.k α+u.cells.toList.length<=cur.size:=by
  rw [cO,aH,<- Yaa];exact Xt _ (by omega)
 have ax:=run_storeCells_at P q (i * Z1.k α) T u.cells.toList 0 cur w hg (by simpa using aN) (Z1.one aV);simp only [YaY] at ax;have ca:u.cells.size=Z1.k α:=by simpa using cO
 have dE:Stp [q] w (w.setRow q (cur.toList.take (i * Z1.k α)++u.cells.toList++cur.toList.drop (i * Z1.k α+u.cells.toList.length)).toArray):=JB _ _ _;refine Z1p (w':=w.setRow q (cur.toList.take (i * Z1.k α)++u.cells.toList++cur.toList.drop (i * Z1.k α+u.cells.toList.length)).toArray) (λa ha=>?_) ⟨⟨css.set i u.cells.toList,by simp [hl],λj hj eC=>?_,?_,.inr ⟨q,cap,_,by simp,hb,setRow_heap w q cur _ T (0,0) hg,by simpa using bj,aW,?_,?_⟩⟩,dE⟩;have ct:Zq (.slice (some ⟨q,0,none⟩) xs.length cap) i (Z1.k α) 0=⟨q,i * Z1.k α,none⟩:=by simp [Zq]
 rw [ct] at hx;simp [execOp,ha.ev hx,ha.ev hy,Instr.storeAt,Instr.sureAddr,storeVar,Siz.run,ca,ax];have ae:∀ b∈[q],b∈ob (.slice (some ⟨q,0,none⟩) xs.length cap)++X:=by simp [ob]
 by_cases bN:i=j;subst bN;simp only [Yao];exact Z1.ext aV dE ae (λb hb=>.inl hb);simp only [YaO bN];exact Z1.ext (hr j (by simpa using hj) (by simpa using eC)) dE ae (λb hb=>.inl hb);rw [Z0g css am i (by omega)];have h1:=ho.1;simp only [Xe,Xv,X4,Yac,cO,h1];have:(i+1) * Z1.k α<=xs.length * Z1.k α:=Xt _ (by omega);rw [Yaa] at this;omega;simp only [XZ,Xe,Xv,X4,XK,cO,aH];rw [cO,aH] at aN;omega;rw [Z0g css am i (by omega),<- ht];have h2:(i+1) * Z1.k α<=xs.length * Z1.k α:=Xt _ (by omega);rw [Yaa] at h2;have h3:i * Z1.k α<=cur.toList.length:=by simp [aH];exact Xl (by omega) (Xt _ bj)
 simp only [Yac,cO];rw [YaQ,YaQ,Yah,Yah,YbT];simp only [Xe,Xv,cO];rw [X7 h3,XH (l:=u.cells.toList) (by rw [cO];omega)];rw [Nat.min_eq_right (by omega:i * Z1.k α<=xs.length * Z1.k α),X7 (by omega:i * Z1.k α<=xs.length * Z1.k α)]
end
section
variable {P:Program} {n:Nat} {Q:Exit->Act->World->Prop} {e:Env} {w:World}
theorem ZaR {id:Nat} {l:List Oper} (m:Nat) (S:List Nat) (Lt:List Nat) (ord:List (Nat×Nat)) (dl:l.length=m) (hm:P.follows .mixedOrders=true) (hs:Region.noSelect l.toArray=true) (hl:Nat.beq (wt ord) l.length=true)
 (hB:ZW l.toArray Lt ord (Array.replicate m false)=true)
 (h:∀ w',Stp [] w w'->w'.heap.size=w.heap.size->WD P n l.toArray S Lt Q ord e w'):WC P n (.region id l.toArray true) Q e w:=by
 subst dl;refine ⟨λa ha=>wp_region_any hm ?_⟩;have h1:=(h { w with drawn:=w.drawn+1 } (Stp.drew [] w) rfl).h _ hs hB a ha;have h2:=Z0H (Q:=Q) (λa w hz=>hz) _ _ _ _ h1;rw [Xk hl] at h2;simpa using h2
def Zfw (w:World) (T:TypeId) (cs:List Value) (v:Value) (w':World):Prop:=v=.pointer (some ⟨w.heap.size,0,none⟩)/\Blk w' w.heap.size T cs/\Stp [] w w'
theorem ZaS {d:Option Nat} {ty:TypeId} {pos:String} {af:Array Edge} {g:Option (Nat×Bool)} {t:TypeId} {z:Value} [hz:Zer P t z]:OE P n ⟨d,.alloc t,ty,pos,af,g⟩ e w (Zfw w t z.cells.toList):=by
 refine Zs (v:=.pointer (some ⟨w.heap.size,0,none⟩)) (w':=w.alloc (.cells z.cells t)) (λa ha=>?_) ?_;simp [execOp,Instr.alloc,Zer.run,newVar,newRow,newObj];rfl;have h:=Z6s w t z.cells.toList;obtain ⟨b,hb,fw,h1,h2⟩:=h;simp only [Value.pointer.injEq,Xh,Addr.mk.injEq] at hb;obtain ⟨rfl,-⟩:=hb;exact ⟨rfl,by simpa using h1,by simpa using h2⟩
theorem Z8U {o:Oper} {a:Act} {w} {K K':Act->World->Prop} {Q':Exit->Act->World->Prop} (h:∀ a w,K a w->K' a w) (hq:∀ ex a w,Q' ex a w->Q ex a w)
 (hh:o.wp P a w K Q'):o.wp P a w K' Q:=by
 unfold Oper.wp at *;generalize (execOp a.eval o).run P w=r at *;cases r with
 | ok n w'=>
   cases n<;>simp only [Oper.upon] at hh ⊢ <;>
    first
     | exact h _ _ hh
     | exact Calls.mono hh (λe w'' he=>by cases e<;>first|exact h _ _ he|exact hq _ _ _ he|exact he.elim (λa h=>h.elim (λw h=>⟨a,w,hq _ _ _ h⟩)))
     | exact Rows.mono hh (λ_ _ he=>h _ _ he)
 | halt x w'=>cases x<;>simp only [Oper.upon] at hh ⊢<;>first|exact hq _ _ _ hh|exact hh
theorem Z1u {ops:Array Oper} {Q':Exit->Act->World->Prop} (hq:∀ ex a w,Q' ex a w->Q ex a w):∀ (l:List Oper) (a:Act) (w),wpList P ops Q' l a w->wpList P ops Q l a w
 | [],a,w,h=>hq _ _ _ h
 | o :: rest, a, w, h => by
   unfold wpList at h ⊢;split;rename_i hw;rw [if_pos hw] at h;rcases h with h|⟨h1,a',w',h2⟩
   exact .inl (Z8U (λa w h=>Z1u hq rest a w h) hq h);exact .inr ⟨h1,a',w',hq _ _ _ h2⟩;rename_i hw;rw [if_neg hw] at h;exact Z1u hq rest _ _ h
theorem Z6x {y:Code} {σ:Type} {ops:Array Oper} {l:List Oper} (env:σ->Env) (I:σ->World->Prop)
 (h:WL P n ops (Exit.then (λa w=>∃ s,Has n (env s) a/\I s w) Q) l e w) (k:∀ s w,I s w->WC P n y Q (env s) w):WL P n ops (Exit.then (λa w=>y.wp P Q a w) Q) l e w:=
 ⟨λa ha => Z1u (λex a w hq => by
   cases ex with
   | normal=>obtain ⟨s,h1,h2⟩:=hq;exact (k s w h2).h a h1
   | _=>exact hq) l a w (h.h a ha)⟩
end
open Go Go.RowKit Go.Proofs Go.ChangeShapes Go.WideShapes Go.Deep
section
variable {H:Type} {enc:TypeId×Value->H} {P:Program} {w:World} {base:Nat} {spare:Nat->Bool} {eh:Bool}
theorem Z7v (b o n:Nat):(⟨b,o,none⟩:Addr).add n=⟨b,o+n,none⟩:=by
 unfold Addr.add;split;rename_i h;subst h;rfl;rfl
def Zfx:DataW H->Nat
 | .slice els _=>els.length
 | _=>0
theorem Z7w {α:Type} [Z2 α] {ok:α->Prop} {t e:TypeId} {fuel:Nat} {cs:List Value} {x:DataW H×List MemPlace} (ht:P.underlying t=some (.slice e)) (hC:P.cellsOf e=Z2.k α) (aO:0<Z2.k α)
 (jj:∀ n cs' y,cs'.length=Z2.k α->DataW.trod enc P w base spare eh n e cs'=some y->∃ a:α,cs'=Z2.enc a/\ok a)
 (h:DataW.trod enc P w base spare eh fuel t cs=some x):∃ (v:Value) (xs:List α),cs=[v]/\SlV [] w v xs/\(∀ a∈xs,ok a)/\Zfx x.1=xs.length:=by
 rcases open_slice ht h with ⟨rfl,rfl⟩|⟨a,len,cap,m,n,D,Pl,rfl,hb,hl,hm,cE,hx,hi⟩
 exact ⟨_,[],rfl,⟨none,0,rfl,Xm _,by simp [maxLen],λ_=>rfl,λi h=>absurd h (XC _)⟩,by simp,rfl⟩;have dl:len<=m:=by rw [cE];split<;>omega
 have dp:∀ y:α,∃ u,(Z2.enc y)[0]?=some u:=λy=>⟨_,XN (by rw [Z2.len y];exact aO)⟩
 have aM:∀ i:Fin len,∃ y:α,ok y/\∀ j u,(Z2.enc y)[j]?=some u->w.cell? (a.add (i * Z2.k α+j))=some u:=by
  intro i;obtain ⟨cs',hc,pR⟩:=hi i (by omega);rw [hC] at hc;obtain ⟨_,eU,bq⟩:=World.cells?_some hc;obtain ⟨y,rfl,aY⟩:=jj n cs' _ eU pR;refine ⟨y,aY,λj u hu=>?_⟩;have hj:j<Z2.k α:=by
   have:=(Xn.1 hu).1;rw [Z2.len] at this;exact this
  have:=bq j hj;rw [hu] at this;rw [<- this,Go.Deep.add_add]
 let f:Fin len->α:=λi=>(aM i).choose
 have hf:∀ i:Fin len,ok (f i)/\∀ j u,(Z2.enc (f i))[j]?=some u->w.cell? (a.add (i * Z2.k α+j))=some u:=λi=>(aM i).choose_spec;refine ⟨_,List.ofFn f,rfl,⟨some a,cap,by simp,by simpa using hl,hm,by simp,λi bV=>?_⟩,λy hy=>?_,by rw [hx];simp [Zfx]⟩;have gT:i<len:=by simpa using bV
 have kF:=(hf ⟨i,gT⟩).2;obtain ⟨u1,pT⟩:∃ u,(Z2.enc (f ⟨0,by omega⟩))[0]?=some u:=dp _;have cu:=(hf ⟨0,by omega⟩).2 0 u1 pT;obtain ⟨u0,lu⟩:∃ u,(Z2.enc (f ⟨i,gT⟩))[0]?=some u:=dp _;have iK:=kF 0 u0 lu;have db:a.spot=none:=by
  have e0:a.add ((⟨0,by omega⟩:Fin len).val * Z2.k α+0)=a:=by simp [Addr.add]
  rw [e0] at cu;unfold World.cell? at cu;split at cu
  . cases hs:a.spot with
    | none=>rfl
    | some s=>simp [hs] at cu
  cases cu
 obtain ⟨b,o,sp⟩:=a;cases db;refine ⟨b,o,Z2.enc (f ⟨i,gT⟩),rfl,?_,by simp,?_,λj u hu=>?_⟩;have:=block_lt_of_cell (a:=(⟨b,o,none⟩:Addr).add (i * Z2.k α+0)) iK;simpa [Z7v] using this;simp;rfl;have:=kF j u hu;rw [Z7v] at this;rw [show o+i * Z1.k α+j=o+(i * Z2.k α+j) from YbJ _ _ _];exact this;obtain ⟨i,rfl⟩:=List.mem_ofFn.1 hy;exact (hf i).1
theorem Zco {t e:TypeId} {fuel:Nat} {cs:List Value} {x:DataW H×List MemPlace} (ht:P.underlying t=some (.slice e)) (hC:P.cellsOf e=1) (he:P.underlying e=some (.int .i64))
 (h:DataW.trod enc P w base spare eh fuel t cs=some x):∃ (v:Value) (xs:List Int),cs=[v]/\SlV [] w v xs/\(∀ a∈xs,I64 a)/\Zfx x.1=xs.length:=
 Z7w (α:=Int) ht hC (by decide) (λn cs' y hl hy=>by
  obtain ⟨z,rfl,_,hw⟩:=DataW.trod_int he hy;exact ⟨z,rfl,by simpa [I64,Lit.wf,IntKind.min,IntKind.max,IntKind.signed,IntKind.bits] using hw⟩) h
end
section
variable {H:Type} {enc:TypeId×Value->H} {P:Program}
def Zaa (P:Program) (ts:List TypeId):Bool:=ts.all λt=>P.readableRec t && decide (t<P.types.size)
theorem Z2C (hl:laidOutB P=true) {W W':World} (hb:Below W.heap.size W W') {sp:Nat->Bool}:∀ {ts:List TypeId} {vs:List Value} {ds:List (DataW H)} {ps:List MemPlace},Zaa P ts=true->
 DataW.TrodAll enc P W 0 (λ_=>true) true ts vs ds ps->(∀ x∈ps,x.block<W.heap.size)->(∀ x∈ps,sp x.block=true)->DataW.TrodAll enc P W' 0 sp true ts vs ds ps
 | [],[],[],_,_,h,_,_=>h
 | t :: ts, v :: vs, d :: ds, ps, hr, h, ah, hs => by
   obtain ⟨p,q,h1,h2,rfl⟩:=h;simp only [Zaa,List.all_cons,Xa,decide_eq_true_eq] at hr;obtain ⟨⟨r1,r2⟩,r3⟩:=hr;exact ⟨p,q,WideElems.Trod_stays hl r1 r2 h1 (λx hx=>hb.same (ah x (by simp [hx]))) (λx hx=>hs x (by simp [hx])),Z2C hl hb (by simpa [Zaa] using r3) h2 (λx hx=>ah x (by simp [hx])) (λx hx=>hs x (by simp [hx])),rfl⟩
 | [],_ :: _,_,_,_,h,_,_=>h.elim
 | [],[],_ :: _,_,_,h,_,_=>h.elim
 | _ :: _,[],_,_,_,h,_,_=>h.elim
 | _ :: _,_ :: _,[],_,_,h,_,_=>h.elim
section
variable {f:Func} {s:ChangeSpec} {apart fresh handsOn again:Bool} {W W':World} {args:Array Value} {v:Value} {ds gs:List (DataW H)} {before pa pv:List MemPlace}
theorem Z5v
 (hW:DataW.Whole enc P f.params.toList s.vars apart W args.toList ds gs before)
 (ar:∀ (b:Nat) (sp:Nat->Bool) (hd:Bool),DataW.TrodAll enc P W' b sp hd f.resultTypes.toList (v.resultList f.resultTypes.size) (s.fn H (ds++gs)).results [])
 (gt:∀ sp:Nat->Bool,(∀ p∈before,sp p.block=true)->DataW.TrodAll enc P W' 0 sp true f.params.toList args.toList (s.fn H (ds++gs)).args pa)
 (gu:∀ sp:Nat->Bool,(∀ p∈before,sp p.block=true)->DataW.TrodVars enc P W' sp s.vars (s.fn H (ds++gs)).vars pv)
 (aZ:before=pa++pv) (hb:Below W.heap.size W W')
 (aY:∀ (j:Nat) (t:TypeId) (r:Value),f.resultTypes[j]?=some t->(v.resultList f.resultTypes.size)[j]?=some r->Value.okWide P W' .any 0 t r) :
 s.post enc P f apart fresh handsOn again W args v W':=by
 have ah:∀ p∈before,p.block<W.heap.size:=λp hp=>hW.lt p hp;have eV:∀ p∈before,(λb=>decide (b<W.heap.size)) p.block=true:=λp hp=>by simpa using ah p hp
 refine ⟨ds,gs,before,[],pa,pv,hW,ar _ _ _,gt _ eV,gu _ eV,World.keptBut_mono (λp hp=>⟨hp,?_⟩) (hb.frame (·∈before)),λ_=>?_⟩;rw [aZ,Xg] at hp;exact Or.inr hp;obtain ⟨_,_,_,_,_,hz,hn⟩:=hW;refine ⟨aY,_,_,([]++pa)++pv,⟨[]++pa,pv,trodAll_append (gt _ (λ_ _=>rfl)) (ar _ _ _),gu _ (λ_ _=>rfl),rfl,?_,?_⟩,?_⟩;intro b off hp;have aX:MemPlace.cell b off∈before:=by rw [aZ];simpa using hp
 rw [hb.frozen (ah _ aX)];exact hz b off aX;intro ha;have:=hn ha;rw [aZ] at this;simpa using this;intro p hp _;rw [aZ];simpa using hp
end
def Zfy (s:ChangeSpec) (k:Nat):Prop:=s.vars=[]/\∀ (H:Type) (ds:List (DataW H)),ds.length=k->(s.fn H ds).results=[.lit (.bool true)]/\(s.fn H ds).args=ds/\(s.fn H ds).vars=[]
theorem Z47 {W:World} {base:Nat} {sp:Nat->Bool} {hd:Bool}:∀ {ts:List TypeId} {vs:List Value} {ds:List (DataW H)} {ps:List MemPlace},DataW.TrodAll enc P W base sp hd ts vs ds ps->ds.length=ts.length
 | [],[],[],_,_=>rfl
 | t :: ts, v :: vs, d :: ds, ps, h => by
   obtain ⟨p,q,h1,h2,rfl⟩:=h;simp [Z47 h2]
 | [],_ :: _,_,_,h=>h.elim
 | [],[],_ :: _,_,h=>h.elim
 | _ :: _,[],_,_,h=>h.elim
 | _ :: _,_ :: _,[],_,h=>h.elim
theorem Zmn {fn:Func} {K tb:Nat} {s:ChangeSpec} {fresh handsOn again:Bool} {W:World} {args:Array Value} {ds gs:List (DataW H)} {before:List MemPlace} (hl:laidOutB P=true) (hr:Zaa P fn.params.toList=true)
 (ar:fn.resultTypes=#[tb]) (hb:P.underlying tb=some .bool) (hs:Zfy s fn.params.size)
 (hW:DataW.Whole enc P fn.params.toList s.vars false W args.toList ds gs before) (hc:Calls P K args W (Ret λr w'=>r=.bool true/\Stp [] W w')) :
 Calls P K args W λe W'=>∃ v,e=.returned v/\s.post enc P fn false fresh handsOn again W args v W':=by
 refine hc.mono ?_;rintro _ w' ⟨_,rfl,rfl,hS⟩;refine ⟨_,rfl,?_⟩;have nY:=hW;obtain ⟨p,q,hA,hV,lw,sT,dZ⟩:=hW;rw [hs.1] at hV;obtain ⟨rfl,rfl⟩:=trodVars_none hV;have am:(ds++[]).length=fn.params.size:=by simpa using Z47 hA
 obtain ⟨s1,s2,s3⟩:=hs.2 H (ds++[]) am;have ah:∀ x∈before,x.block<W.heap.size:=λx hx=>nY.lt x hx;refine Z5v (pa:=p) (pv:=[]) nY (λb sp hd=>?_) (λsp db=>?_) (λsp _=>?_) lw hS.below ?_;rw [s1,ar];exact trodAll_mk1 ⟨1,by simp [DataW.trod,Value.cells,hb]⟩;rw [s2];simp only [XJ] at lw ⊢;subst lw;exact Z2C hl hS.below hr hA ah db;rw [s3,hs.1];rfl;exact ok_one ar rfl (by simp [Value.okWide,hb,Cell.okWide,Cell.ok])
end
section
variable {H:Type} {enc:TypeId×Value->H}
theorem Zcp {a:Assume} {C:Checked} {os:Os} {f:FuncId} {fn:Func} {s:ChangeSpec} {conds:List PathCond} {apart fresh handsOn again:Bool} {X:World->Array Value->Prop}
 (hX:∀ (w w':World) (args:Array Value),w.heap=w'.heap->X w args->X w' args)
 (own:ownKnob C.prog.godebug=none) (started:os.Started) (noInit:C.prog.inits.idxOf? f=none) (lx:C.prog.funcs[f]?=some fn)
 (witness : ∃ (w : World) (tape : Tape) (i : Input), w.os = os /\ (w.forCall tape i).Shaped C.prog /\ i.vars = [] /\ Input.okWide C.prog (w.forCall tape i) .any w.heap.size f i/\
   ((s.pre enc C.prog fn conds apart (w.forCall tape i).memory i.args/\X (w.forCall tape i).memory i.args)/\sizedMet enc C.prog fn (OpenSpec.ofChange s) apart (w.forCall tape i).memory i.args)/\a.holds C.prog (lone (Frame.enter C.prog f i.args .normal) [] (w.forCall tape i)))
 (contract : ∀ (W : World) (base : Nat) (args : Array Value) (ds gs : List (DataW H)) (before : List MemPlace),
   (∀ (j:Nat) t v,fn.params[j]?=some t->args[j]?=some v->Value.okWide C.prog W .any base t v)->
   DataW.Whole enc C.prog fn.params.toList s.vars apart W args.toList ds gs before->
   (DataW.weightsEach C.prog (fn.params.toList++s.plain.varTypes C.prog) (ds++gs)).all (·<=reachBytes)=true->X W args->W.ShapedOpen C.prog->
   Calls C.prog f args W λe W'=>∃ v,e=.returned v/\s.post enc C.prog fn apart fresh handsOn again W args v W') :
 ReturnsInHanded a C os f .any (λw args=>(s.pre enc C.prog fn conds apart w args/\X w args)/\sizedMet enc C.prog fn (OpenSpec.ofChange s) apart w args) (s.post enc C.prog fn apart fresh handsOn again):=by
 refine returnsInHanded_of_calls own started noInit witness ?_;intro w tape i _ gv _ aY bB hholds;obtain ⟨_,_,_,fn',ly,_,_,_,_,lz⟩:=aY;have e:fn'=fn:=XU (ly.symm.trans lx);subst e;obtain ⟨⟨⟨ds,gs,before,hw,hc⟩,hx⟩,hz⟩:=bB;have pU:=DataW.Whole.of_heap (w':=w.forCall tape i) (by rfl) hw;refine (contract (w.forCall tape i) w.heap.size i.args ds gs before lz pU (hz.weights hw) (hX _ _ _ (by rfl) hx) gv).mono λe W' ⟨v,he,hp⟩=>?_
 subst he;exact ChangeSpec.post_blind hp
end
instance:Z2 UInt8 where
 k:=1
 enc:=λb=>[.int .u8 (b.toNat:Int)]
 len:=λ_=>rfl
 one:=by intro x u hu;simp at hu;subst hu;rfl
section
variable {P:Program} {n:Nat} {e:Env} {w:World} {d:Option Nat} {ty:TypeId} {pos:String} {af:Array Edge} {g:Option (Nat×Bool)}
theorem Zcq {src dst el:TypeId} {x:Operand} {s:Str} [hs:Und P src .string] [hd:Und P dst (.slice el)] [he:Und P el (.int .u8)] (hx:ev e x=some (str s)) (hl:s.length<=1000000) :
 OE P n ⟨d,.convert src dst x,ty,pos,af,g⟩ e w (λv w'=>(∀ X:List Nat,(∀ b∈X,b<w.heap.size)->SlV X w' v s)/\Stp [] w w'):=by
 refine Zs (v:=.slice (some ⟨w.heap.size,0,none⟩) s.length (grownCap w s.length 0 el)) (w':=Go.Lib.bytesWorld w el ⟨s.toArray⟩) (λa ha=>?_) ⟨λX hX=>?_,?_⟩;have h:=Go.Lib.run_convert_string_bytes (P:=P) w src dst el ⟨s.toArray⟩ hs.h hd.h he.h;simp only [J5] at h;simp [execOp,ha.ev hx,h];refine ⟨some ⟨w.heap.size,0,none⟩,_,rfl,grownCap_ge w _ _ _,grownCap_le_maxLen w _ _ _ (by simp [maxLen];omega),(λh=>by cases h),λi hi=>⟨w.heap.size,0,Z2.enc s[i],rfl,?_,λh=>by have:=hX _ h;omega,rfl,λj u hu=>?_⟩⟩;rw [Go.Lib.bytesWorld_size];omega;have hj:j=0:=by
  have:=(Xn.1 hu).1;simp [Z2.enc] at this;exact this
 subst hj;have hc:=Go.Lib.bytesWorld_cell w el ⟨s.toArray⟩ i (by rw [J5];exact hi);simp only [Z2.enc,List.getElem?_cons_zero,Xh] at hu;subst hu;have e1:(0+i * Z1.k UInt8+0)=i:=by show 0+i * 1+0=i;omega
 rw [e1,hc];simp [List.getD,hi];refine ⟨rfl,rfl,rfl,?_,λb hb _=>Go.Lib.bytesWorld_at_old w el _ b hb⟩;rw [Go.Lib.bytesWorld_size];omega
end
section
variable {P:Program} {n:Nat} {e:Env} {w:World} {d:Option Nat} {ty:TypeId} {pos:String} {af:Array Edge} {g:Option (Nat×Bool)}
theorem Zfz {src dst:TypeId} {k k':IntKind} {x:Operand} {a:Int} {D:TypeDesc} [hs:Und P src D] [hd:Und P dst (.int k)] (hx:ev e x=some (.int k' a)) :
 PR P n ⟨d,.convert src dst x,ty,pos,af,g⟩ e w (.int k (k.wrap a)):=
 ⟨λc ha => by
   have hk:P.intKind dst=k:=by simp [Program.intKind,hd.h]
   have:=run_convert_int (P:=P) w src dst k' a (by rw [hs.h];rfl) (by rw [hk];exact hd.h);simp [execOp,ha.ev hx,this,hk]⟩
section
variable {x y:Operand} {t u:TypeId} {k:IntKind} {a b:Int}
theorem ZfA (hx:ev e x=some (.int k a)) (hy:ev e y=some (.int k b)) {r:Int} (hr:k.wrap (a+b)=r):PR P n ⟨d,.binOp .add t x y u,ty,pos,af,g⟩ e w (.int k r):=
 ⟨λc ha=>by simp only [execOp,ha.ev hx,ha.ev hy];simp [go_sem,Op.intArith,hr]⟩
theorem ZfB (hx:ev e x=some (.int k a)) (hy:ev e y=some (.int k b)) {r:Int} (hr:k.wrap (a - b)=r):PR P n ⟨d,.binOp .sub t x y u,ty,pos,af,g⟩ e w (.int k r):=
 ⟨λc ha=>by simp only [execOp,ha.ev hx,ha.ev hy];simp [go_sem,Op.intArith,hr]⟩
theorem ZfC (hx:ev e x=some (.int k a)) (hy:ev e y=some (.int k b)) {r:Int} (hr:k.wrap (a * b)=r):PR P n ⟨d,.binOp .mul t x y u,ty,pos,af,g⟩ e w (.int k r):=
 ⟨λc ha=>by simp only [execOp,ha.ev hx,ha.ev hy];simp [go_sem,Op.intArith,hr]⟩
theorem ZfD (hx:ev e x=some (.int k a)) (hy:ev e y=some (.int k b)) (hb:b≠0) {r:Int} (hr:a.tmod b=r):PR P n ⟨d,.binOp .rem t x y u,ty,pos,af,g⟩ e w (.int k r):=
 ⟨λc ha=>by simp only [execOp,ha.ev hx,ha.ev hy];simp [go_sem,Op.intDiv,hb];try rw [hr]⟩
theorem ZfE (hx:ev e x=some (.int k a)) (hy:ev e y=some (.int k b)) (hb:b≠0) {r:Int} (hr:k.wrap (a.tdiv b)=r):PR P n ⟨d,.binOp .quo t x y u,ty,pos,af,g⟩ e w (.int k r):=
 ⟨λc ha=>by simp only [execOp,ha.ev hx,ha.ev hy];simp [go_sem,Op.intDiv,hb];try rw [hr]⟩
end
theorem Z5R {t u el:TypeId} {x y:Operand} {p:Option Addr} {l c:Nat} [hu:Und P t (.slice el)] (hx:ev e x=some (.slice p l c)) (hy:ev e y=some (.N)) :
 PR P n ⟨d,.binOp .eql t x y u,ty,pos,af,g⟩ e w (.B p.isNone):=
 ⟨λa ha => by
   have h:=run_equal_slice_nil (P:=P) w t el p l c hu.h;simp only [execOp,ha.ev hx,ha.ev hy];simp [go_sem,binOp,h]⟩
end
end Go.Eng
namespace Go.Sim
open Go Go.Eng Go.RowKit Go.Proofs
theorem Jr {α:Type} {b:Bool} {x:Option α} {y:α} (h:(bif b then x else none)=some y):b=true/\x=some y:=by
 cases b with
 | false=>cases h
 | true=>exact ⟨rfl,h⟩
inductive V where
 | i (k:IntKind) (n:Int)
 | b (x:Bool)
 | s (s:Str)
 | c (v:Value)
 | p (b o:Nat)
 | l (b n:Nat)
 | a (l:List V)
 | t (l:List V)
 | f (g:Nat) (x y:List V)
 | m (b:Nat)
 | q (b o k n:Nat)
 | z (b o n:Nat)
abbrev Lc:=Nat->Nat×Nat
mutual
def ga (L:Lc):V->Value
 | .i k n=>.int k n
 | .b x=>.bool x
 | .s s=>str s
 | .c v=>v
 | .p b o=>.pointer (some ⟨(L b).1,o,none⟩)
 | .l b n=>.slice (some ⟨(L b).1,0,none⟩) n (L b).2
 | .a l=>.agg (gl L l).toArray
 | .t l=>.tuple (gl L l).toArray
 | .f g x y=>.func (.func g) (gl L x).toArray (gl L y).toArray
 | .m b=>.map (some (L b).1)
 | .q b o k n=>.slice (some ⟨(L b).1,bif Nat.beq n 0 && Nat.beq (L b).2 o then 0 else o * k,none⟩) n ((L b).2 - o)
 | .z b o n=>.slice (some ⟨(L b).1,o,none⟩) n n
def gl (L:Lc):List V->List Value
 | []=>[]
 | v :: r=>ga L v :: gl L r
end
mutual
def bd (n:Nat):V->Bool
 | .p b _=>Nat.blt b n
 | .l b _=>Nat.blt b n
 | .m b=>Nat.blt b n
 | .q b _ _ _=>Nat.blt b n
 | .z b _ _=>Nat.blt b n
 | .a l=>bl n l
 | .t l=>bl n l
 | .f _ x y=>bl n x && bl n y
 | _=>true
def bl (n:Nat):List V->Bool
 | []=>true
 | v :: r=>bd n v && bl n r
end
mutual
theorem Z48 {L L':Lc} {n:Nat} (h:∀ k,k<n->L' k=L k):∀ v,bd n v=true->ga L' v=ga L v
 | .i _ _,_=>rfl
 | .b _,_=>rfl
 | .s _,_=>rfl
 | .c _,_=>rfl
 | .p b o,hb=>by simp only [ga];rw [h b (Xb hb)]
 | .l b m,hb=>by simp only [ga];rw [h b (Xb hb)]
 | .m b,hb=>by simp only [ga];rw [h b (Xb hb)]
 | .q b _ _ _,hb=>by simp only [ga];rw [h b (Xb hb)]
 | .z b _ _,hb=>by simp only [ga];rw [h b (Xb hb)]
 | .a l,hb=>by simp only [ga];rw [Z38 h l hb]
 | .t l,hb=>by simp only [ga];rw [Z38 h l hb]
 | .f g x y,hb=>by simp only [bd,Xa] at hb;simp only [ga];rw [Z38 h x hb.1,Z38 h y hb.2]
theorem Z38 {L L':Lc} {n:Nat} (h:∀ k,k<n->L' k=L k):∀ l,bl n l=true->gl L' l=gl L l
 | [],_=>rfl
 | v :: r,hb=>by simp only [bl,Xa] at hb;simp only [gl];rw [Z48 h v hb.1,Z38 h r hb.2]
end
mutual
theorem bd_le {n m:Nat} (h:n<=m):∀ v,bd n v=true->bd m v=true
 | .i _ _,_=>rfl
 | .b _,_=>rfl
 | .s _,_=>rfl
 | .c _,_=>rfl
 | .p b o,hb=>XV (Xl (Xb hb) h)
 | .l b k,hb=>XV (Xl (Xb hb) h)
 | .m b,hb=>XV (Xl (Xb hb) h)
 | .q b _ _ _,hb=>XV (Xl (Xb hb) h)
 | .z b _ _,hb=>XV (Xl (Xb hb) h)
 | .a l,hb=>Z49 h l hb
 | .t l,hb=>Z49 h l hb
 | .f g x y,hb=>by simp only [bd,Xa] at hb ⊢;exact ⟨Z49 h x hb.1,Z49 h y hb.2⟩
theorem Z49 {n m:Nat} (h:n<=m):∀ l,bl n l=true->bl m l=true
 | [],_=>rfl
 | v :: r,hb=>by simp only [bl,Xa] at hb ⊢;exact ⟨bd_le h v hb.1,Z49 h r hb.2⟩
end
theorem J1 (L:Lc):∀ l,gl L l=l.map (ga L)
 | []=>rfl
 | v :: r=>by rw [gl,J1 L r];rfl
theorem ZQ (L:Lc) (l:List V):(gl L l).length=l.length:=by rw [J1,XI]
theorem Z17 (n:Nat):∀ l,bl n l=true↔∀ v∈l,bd n v=true
 | []=>by simp [bl]
 | v :: r=>by simp [bl,Z17 n r]
abbrev AE:=List (Nat×V)
noncomputable def lk {α:Type} (l:List (Nat×α)) (t:Nat):Option α:=List.rec (motive:=λ_=>Option α) none (λp _ ih=>Bool.rec (motive:=λ_=>Option α) ih (some p.2) (Nat.beq p.1 t)) l
abbrev pt {α:Type} (d:Nat) (v:α) (l:List (Nat×α)):List (Nat×α):=(d,v) :: l
def ge (L:Lc) (e:AE):Env:=e.map (λp=>(p.1,ga L p.2))
theorem Z8V {a b:Nat} (h:a≠b):Nat.beq a b=false:=by
 cases hb:Nat.beq a b with
 | false=>rfl
 | true=>exact absurd (Xk hb) h
theorem Z7x (a:Nat):Nat.beq a a=true:=by simp
theorem Z39 {α:Type} (d:Nat) (v:α) (e:List (Nat×α)) (t:Nat):lk ((d,v) :: e) t=if d=t then some v else lk e t:=by
 show Bool.rec (motive:=λ_=>Option α) (lk e t) (some v) (Nat.beq d t)=_;by_cases h:d=t;subst h;rw [Z7x,if_pos rfl];rw [Z8V h,if_neg h]
theorem JY (L:Lc):∀ (e:AE) (t:Nat),Eng.look (ge L e) t=(lk e t).map (ga L)
 | [],_=>rfl
 | (k, v) :: r, t => by
   show (bif Nat.beq k t then some (ga L v) else Eng.look (ge L r) t)=_;rw [JY L r t];show _=Option.map (ga L) (Bool.rec (motive:=λ_=>Option V) (lk r t) (some v) (Nat.beq k t));cases Nat.beq k t<;>rfl
def ofC:Value->V
 | .int k n=>.i k n
 | .bool b=>.b b
 | .string s=>.s s.data.toList
 | v=>.c v
theorem Z4O (L:Lc) (v:Value):ga L (ofC v)=v:=by cases v<;>rfl
noncomputable def evv (e:AE):Operand->Option V
 | .tmp t=>lk e t
 | .const v=>some (ofC v)
 | .global g=>bif Nat.blt g 64 then some (.p g 0) else none
 | .func f=>some (.f f [] [])
def Gl (L:Lc):Prop:=∀ g,g<64->L g=(g,7)
theorem Zi {L:Lc} (hG:Gl L) {e:AE} {x:Operand} {v:V} (h:evv e x=some v):ev (ge L e) x=some (ga L v):=by
 cases x with
 | tmp t=>show Eng.look _ _=_;rw [JY];show Option.map _ (evv e (.tmp t))=_;rw [h];rfl
 | const c=>simp only [evv,Xh] at h;subst h;show some c=_;rw [Z4O]
 | global g=>
   simp only [evv] at h;obtain ⟨hg,h⟩:=Jr h;simp only [Xh] at h;subst h;show some (pQ g)=_;simp only [ga];rw [hG g (Xb hg)]
 | func f=>simp only [evv,Xh] at h;subst h;rfl
noncomputable def evs (e:AE):List Operand->Option (List V)
 | []=>some []
 | x :: r => match evv e x, evs e r with
   | some v,some l=>some (v :: l)
   | _,_=>none
theorem Zcr {L:Lc} (hG:Gl L) {e:AE} {n:Nat}:∀ {l:List Operand} {vs:List V},evs e l=some vs->∀ a,Has n (ge L e) a->l.map a.eval=gl L vs
 | [],vs,h,a,ha=>by simp only [evs,Xh] at h;subst h;rfl
 | x :: r, vs, h, a, ha => by
   unfold evs at h;cases hx:evv e x with
   | none=>simp [hx] at h
   | some v=>
     cases hr:evs e r with
     | none=>simp [hx,hr] at h
     | some l=>
       simp only [hx,hr,Xh] at h;subst h;rw [XQ,ha.ev (Zi hG hx),Zcr hG hr a ha];rfl
def isT (P:Program) (t:Nat):Bool:=match P.underlying t with|some .string=>true|_=>false
def isB (P:Program) (t:Nat):Bool:=match P.underlying t with|some .bool=>true|_=>false
theorem Z1v {P:Program} {t:Nat} (h:isT P t=true):Und P t .string:=⟨by
 unfold isT at h;split at h<;>first|assumption|cases h⟩
theorem ZfF {P:Program} {t:Nat} (h:isB P t=true):Und P t .bool:=⟨by
 unfold isB at h;split at h<;>first|assumption|cases h⟩
def isF (P:Program) (t:Nat):Bool:=match P.underlying t with|some (.interface _)=>true|_=>false
theorem Zab {P:Program} {t:Nat} (h:isF P t=true):∃ l,P.underlying t=some (.interface l):=by
 unfold isF at h;split at h;exact ⟨_,by assumption⟩;cases h
def Z7y:Value->Bool
 | .nilIface=>true
 | _=>false
theorem Z7z {v:Value} (h:Z7y v=true):v=.nilIface:=by cases v<;>first|rfl|cases h
def isK:Operand->Bool
 | .const _=>true
 | _=>false
theorem Zcs {P:Program} {n:Nat} {e:Env} {w} {t u ty:TypeId} {x y:Operand} {d:Option Nat} {pos:String} {af:Array Edge} {g:Option (Nat×Bool)} (hu:∃ l,P.underlying t=some (.interface l)) (hx:ev e x=some .nilIface) (hy:ev e y=some .nilIface) (hk:isK y=true) :
 PR P n ⟨d,.binOp .eql t x y u,ty,pos,af,g⟩ e w (.bool true)/\PR P n ⟨d,.binOp .neq t x y u,ty,pos,af,g⟩ e w (.bool false):=by
 obtain ⟨l,hu⟩:=hu;have:=run_equal_nil_nil (P:=P) (w:=w) t (by rw [hu,Program.methodsAt,hu])
 cases y<;>first
  | (cases hk;done)
  | (constructor<;>refine ⟨λa ha=>?_⟩<;>simp only [execOp,ha.ev hx,ha.ev hy]<;>simp [go_sem,binOp,eqGuard,this])
def cut (b:Bool) (v:V):Option V:=bif b then some v else none
theorem JL {b:Bool} {v u:V} (h:cut b v=some u):b=true/\v=u:=by
 cases b with
 | false=>cases h
 | true=>exact ⟨rfl,XU h⟩
def keq (k k':IntKind):Bool:=decide (k=k')
def eqF (P:Program):List Field->List V->List V->Option Bool
 | [],_,_=>some true
 | f :: fs, xs, ys => match (P.info? f.type).map (·.size), f.name == "_", P.underlying f.type, xs[f.offset]?, ys[f.offset]?, eqF P fs xs ys with
   | some 1,false,some (.int k),some (.i k1 a),some (.i k2 b),some r=>bif keq k1 k && keq k2 k then some (decide (a=b) && r) else none
   | some 1,false,some .string,some (.s a),some (.s b),some r=>some (decide (a=b) && r)
   | _,_,_,_,_,_=>none
def eqS (P:Program) (t:Nat) (a b:List V):Option Bool:=match P.underlying t with
 | some (.struct fs)=>bif !P.stoodInHeld t && !P.eqGuardType P.depth t then eqF P fs.toList a b else none
 | _=>none
def bin (P:Program) (t:Nat) (k:Bool):BinOp->V->V->Option V
 | .add,.i k a,.i k' b=>cut (keq k k') (.i k (k.wrap (a+b)))
 | .sub,.i k a,.i k' b=>cut (keq k k') (.i k (k.wrap (a - b)))
 | .mul,.i k a,.i k' b=>cut (keq k k') (.i k (k.wrap (a * b)))
 | .quo,.i k a,.i k' b=>cut (keq k k' && decide (b≠0)) (.i k (k.wrap (a.tdiv b)))
 | .rem,.i k a,.i k' b=>cut (keq k k' && decide (b≠0)) (.i k (a.tmod b))
 | .eql,.i k a,.i k' b=>cut (keq k k') (.b (decide (a=b)))
 | .neq,.i k a,.i k' b=>cut (keq k k') (.b (decide (¬ a=b)))
 | .lss,.i k a,.i k' b=>cut (keq k k') (.b (decide (a<b)))
 | .leq,.i k a,.i k' b=>cut (keq k k') (.b (decide (a<=b)))
 | .gtr,.i k a,.i k' b=>cut (keq k k') (.b (decide (b<a)))
 | .geq,.i k a,.i k' b=>cut (keq k k') (.b (decide (b<=a)))
 | .eql,.s a,.s b=>cut (isT P t) (.b (decide (a=b)))
 | .neq,.s a,.s b=>cut (isT P t) (.b (decide (¬ a=b)))
 | .add,.s a,.s b=>cut (isT P t && Nat.ble (a.length+b.length) 9223372036854775807) (.s (a++b))
 | .eql,.b a,.b b=>cut (isB P t) (.b (decide (a=b)))
 | .neq,.b a,.b b=>cut (isB P t) (.b (decide (¬ a=b)))
 | .eql,.a a,.a b=>(eqS P t a b).map .b
 | .neq,.a a,.a b=>(eqS P t a b).map λr=>.b (!r)
 | .lss,.s a,.s b=>cut (isT P t) (.b (Op.bytesLess a b))
 | .gtr,.s a,.s b=>cut (isT P t) (.b (!(Op.bytesLess a b || a == b)))
 | .eql,.c a,.c b=>cut (Z7y a && Z7y b && isF P t && k) (.b true)
 | .neq,.c a,.c b=>cut (Z7y a && Z7y b && isF P t && k) (.b false)
 | _,_,_=>none
theorem Z4a (L:Lc) (l:List V) (i:Nat):(gl L l)[i]?=(l[i]?).map (ga L):=by rw [J1,Yag]
theorem Z8W {P:Program} (L:Lc) (w) (d:Nat):∀ (fs:List Field) (xs ys:List V) (r:Bool),eqF P fs xs ys=some r->(Op.eqFields (d+1) (gl L xs).toArray (gl L ys).toArray fs).run P w=.ok r w
 | [],_,_,r,h=>by simp only [eqF,Xh] at h;subst h;simp [Op.eqFields]
 | f :: fs, xs, ys, r, h => by
   simp only [eqF] at h;have hp:∀ (zs:List V) (v:V),(P.info? f.type).map (·.size)=some 1->zs[f.offset]?=some v->(∀ D,P.underlying f.type=some D->JO D=false)->(∃ D,P.underlying f.type=some D)->(part f.type (gl L zs).toArray f.offset).run P w=.ok (ga L v) w:=λzs v h1 h2 h3 h4=>by
    obtain ⟨D,hD⟩:=h4;have u1:Siz P f.type 1:=⟨h1⟩
    have u2:Und P f.type D:=⟨hD⟩
    have h5:(gl L zs)[f.offset]?=some (ga L v):=by rw [Z4a,h2];rfl
    simp [part,Und.isAgg,h3 D hD,Siz.run,h5]
   split at h;rename_i k k1 a k2 b r' e1 e2 e3 e4 e5 e6;obtain ⟨hk,h'⟩:=Jr h;simp only [Xa] at hk;have k3:=of_decide_eq_true hk.1;have k4:=of_decide_eq_true hk.2;subst k3 k4;cases h';have q1:=hp xs _ e1 e4 (λD hD=>by rw [e3] at hD;cases hD;rfl) ⟨_,e3⟩;have q2:=hp ys _ e1 e5 (λD hD=>by rw [e3] at hD;cases hD;rfl) ⟨_,e3⟩;have ih:=Z8W L w d fs xs ys r' e6;have e2:f.name ≠ "_" := by simpa using e2
   simp only [Op.eqFields,if_pos e2,Sem.run_bind,q1,q2,Result.andThen_ok,ga,run_equalIn_int w d _ _ _ _ _ e3];by_cases cj:a=b;simp [cj,ih];simp [cj];rename_i a b r' e1 e2 e3 e4 e5 e6;simp only [Xh] at h;subst h;have q1:=hp xs _ e1 e4 (λD hD=>by rw [e3] at hD;cases hD;rfl) ⟨_,e3⟩;have q2:=hp ys _ e1 e5 (λD hD=>by rw [e3] at hD;cases hD;rfl) ⟨_,e3⟩;have ih:=Z8W L w d fs xs ys r' e6;have e2:f.name ≠ "_" := by simpa using e2
   simp only [Op.eqFields,if_pos e2,Sem.run_bind,q1,q2,Result.andThen_ok,ga,run_equalIn_string w d _ _ _ e3];by_cases cj:a=b;simp [cj,ih];simp [cj];cases h
theorem ZiR {P:Program} {t:Nat} {a b:List V} {r:Bool} (L:Lc) (h:eqS P t a b=some r):(∀ op x y w,(eqGuard op t x y (.agg (gl L a).toArray) (.agg (gl L b).toArray)).run P w=.ok () w)/\∀ w,(Op.equal t (.agg (gl L a).toArray) (.agg (gl L b).toArray)).run P w=.ok r w:=by
 unfold eqS at h;split at h;rename_i fs h1;obtain ⟨hc,h⟩:=Jr h;simp only [Xa,YbH] at hc;have hf:P.fieldsOf t=fs:=by unfold Program.fieldsOf;rw [h1]
 refine ⟨λop x y w=>?_,λw=>?_⟩;unfold eqGuard;cases op<;>simp [hc.2];have:=run_equalIn_struct (P:=P) w 9999 t (gl L a).toArray (gl L b).toArray (by rw [h1,hf]) hc.1;rw [hf] at this;exact this.trans (Z8W L w _ _ _ _ _ h);cases h
theorem ZiS {P:Program} {n:Nat} {L:Lc} (hG:Gl L) {e:AE} {t:Nat} {op:BinOp} {x y:Operand} {a b v:V} (hx:evv e x=some a) (hy:evv e y=some b) (h:bin P t (isK y) op a b=some v)
 (w) (d:Option Nat) (u ty:TypeId) (pos:String) (af:Array Edge) (g:Option (Nat×Bool)):PR P n ⟨d,.binOp op t x y u,ty,pos,af,g⟩ (ge L e) w (ga L v):=by
 have ex:=Zi hG hx;have ey:=Zi hG hy;unfold bin at h
 split at h<;>first
  | cases h
  | (rw [XB] at h
     obtain ⟨r,h,rfl⟩:=h;obtain ⟨q1,q2⟩:=ZiR L h;exact ⟨λc hc=>by simp only [execOp,hc.ev ex,hc.ev ey];simp [ga,q1,binOp,q2,go_sem]⟩)
  | (obtain ⟨h1, rfl⟩ := JL h
     first
      | (have hk : _ = _ := of_decide_eq_true h1
         subst hk;first|exact ZfA ex ey rfl|exact ZfB ex ey rfl|exact ZfC ex ey rfl|exact Zcb ex ey|exact Z8J ex ey|exact Z8H ex ey|exact Zc9 ex ey|exact Z8I ex ey|exact Zca ex ey)
      | (simp only [Xa] at h1
         obtain ⟨h1,h2⟩:=h1;have hk:_=_:=of_decide_eq_true h1;subst hk;first|exact ZfE ex ey (of_decide_eq_true h2) rfl|exact ZfD ex ey (of_decide_eq_true h2) rfl)
      | (have := Z1v h1
         first|exact Za6 ex ey|exact Za7 ex ey|exact ⟨λc hc=>by simp only [execOp,hc.ev ex,hc.ev ey];simp [ga,go_sem,binOp,Op.stringOp]⟩)
      | (simp only [Xa] at h1
         obtain ⟨⟨⟨h1,h2⟩,h3⟩,h4⟩:=h1;have ha:=Z7z h1;have hb:=Z7z h2;subst ha hb;first|exact (Zcs (Zab h3) ex ey h4).1|exact (Zcs (Zab h3) ex ey h4).2)
      | (have := ZfF h1
         first|exact Za2 ex ey|exact Z6n ex ey)
      | (simp only [Xa] at h1
         obtain ⟨h1,h2⟩:=h1;have:=Z1v h1;exact Z6v ex ey (Xb h2)))
def vc:V->List V
 | .a l=>l
 | .c v=>v.cells.toList.map ofC
 | v=>[v]
theorem Z6y (L:Lc) (l:List Value):gl L (l.map ofC)=l:=by
 rw [J1,Yad]
 conv=>rhs;rw [<- List.map_id l]
 exact Ybf λv _=>Z4O L v
theorem Zct (L:Lc) (v:V):(ga L v).cells.toList=gl L (vc v):=by
 cases v<;>first|rfl|simp only [ga,vc,Z6y]|simp [ga,vc,Value.cells]
def ZiT (off:Nat) (cs:List V) (us:List V):List V:=us.zipIdx.foldl (λcs p=>cs.set (off+p.2) p.1) cs
theorem ZfG (L:Lc) (off:Nat) (us:List V) (cs:List V):(gl L us).toArray.zipIdx.foldl (λcs (x:Value×Nat)=>cs.setIfInBounds (off+x.2) x.1) (gl L cs).toArray=(gl L (ZiT off cs us)).toArray:=by
 have key:∀ (us:List V) (k:Nat) (cs:List V),((us.map (ga L)).zipIdx k).foldl (λcs (x:Value×Nat)=>cs.setIfInBounds (off+x.2) x.1) (cs.map (ga L)).toArray=(((us.zipIdx k).foldl (λcs p=>cs.set (off+p.2) p.1) cs).map (ga L)).toArray:=by
  intro us
  induction us with
  | nil=>intro k cs;rfl
  | cons u us ih=>
    intro k cs;simp only [XQ,List.zipIdx_cons,XP];rw [<- ih (k+1) (cs.set (off+k) u)];congr 1;simp
 rw [J1,J1,J1];have:=key us 0 cs;rw [<- Array.foldl_toList];simpa [ZiT] using this
def Z4P (pl:Nat->Option (Nat×Nat)) (cs:List V):List (Nat×V)->Option (List V)
 | []=>some cs
 | (i, v) :: r => match pl i with
   | none=>none
   | some (off,size)=>if (vc v).length≠size\/off+(vc v).length > cs.length then none else Z4P pl (ZiT off cs (vc v)) r
def gp (L:Lc) (l:List (Nat×V)):List (Nat×Value):=l.map λp=>(p.1,ga L p.2)
theorem ZaT (L:Lc) (v:V):(ga L v).cells=(gl L (vc v)).toArray:=by rw [<- Zct]
theorem Z3a (L:Lc) (pl:Nat->Option (Nat×Nat)):∀ (ps:List (Nat×V)) (cs us:List V),Z4P pl cs ps=some us->Instr.fill pl (gl L cs).toArray (gp L ps)=some (gl L us).toArray
 | [],cs,us,h=>by simp only [Z4P,Xh] at h;subst h;rfl
 | (i, v) :: r, cs, us, h => by
   simp only [Z4P] at h;show Instr.fill pl _ ((i,ga L v) :: gp L r)=_;unfold Instr.fill;cases hp:pl i with
   | none=>simp [hp] at h
   | some q=>
     obtain ⟨off,size⟩:=q;simp only [hp] at h ⊢;split at h;cases h;rename_i hc;rw [ZaT,XZ,XZ,ZQ,ZQ,if_neg (by simpa using hc),ZfG];exact Z3a L pl r _ us h
noncomputable def parts (e:AE):List (Nat×Operand)->Option (List (Nat×V))
 | []=>some []
 | (i, x) :: r => match evv e x, parts e r with
   | some v,some l=>some ((i,v) :: l)
   | _,_=>none
theorem Z4Q {L:Lc} (hG:Gl L) {e:AE}:∀ {l:List (Nat×Operand)} {ps:List (Nat×V)},parts e l=some ps->Jo (ge L e) l=some (gp L ps)
 | [],ps,h=>by simp only [parts,Xh] at h;subst h;rfl
 | (i, x) :: r, ps, h => by
   unfold parts at h;cases hx:evv e x with
   | none=>simp [hx] at h
   | some v=>
     cases hr:parts e r with
     | none=>simp [hx,hr] at h
     | some l=>
       simp only [hx,hr,Xh] at h;subst h;simp only [Jo,Zi hG hx,Z4Q hG hr];rfl
def built (P:Program) (t:Nat) (ps:List (Nat×V)):Option (List V):=
 match P.info? t,P.underlying t with
 | some it, some (.array _ e) => match it.zero, P.info? e with
   | some z,some ie=>Z4P (λi=>some (i * ie.size,ie.size)) (z.cells.toList.map ofC) ps
   | _,_=>none
 | some it, some (.struct fields) => match it.zero, fields.toList.mapM (λf => (P.info? f.type).map λi => (f.offset, i.size)) with
   | some z,some places=>Z4P (places.toArray[·]?) (z.cells.toList.map ofC) ps
   | _,_=>none
 | _,_=>none
theorem Zcu (L:Lc) {P:Program} {t:Nat} {ps:List (Nat×V)} {cs:List V} (h:built P t ps=some cs):P.built t (gp L ps)=some (gl L cs).toArray:=by
 have hz:∀ z:Value,z.cells=(gl L (z.cells.toList.map ofC)).toArray:=λz=>by rw [Z6y]
 unfold built at h;unfold Program.built;split at h;rename_i it n e h1 h2;rw [h1,h2];split at h;rename_i z ie h3 h4;simp only [h3,h4];rw [hz z];exact Z3a L _ _ _ _ h;cases h;rename_i it fs h1 h2;rw [h1,h2];split at h;rename_i z pl h3 h4;simp only [h3,h4];rw [hz z];exact Z3a L _ _ _ _ h;cases h;cases h
def fld (P:Program) (t i:Nat):Option Nat:=match P.underlying t with
 | some (.struct fs) => match fs[i]? with
   | some f => match (P.info? f.type).map (·.size) with
     | some (k+1)=>some f.offset
     | _=>none
   | none=>none
 | _=>none
theorem ZiU {P:Program} {t i o:Nat} (h:fld P t i=some o):Fld P t i o:=⟨by
 unfold fld at h;split at h;rename_i fs h1;split at h;rename_i f h2;split at h;rename_i k h3;exact ⟨fs,f,k,h1,h2,XU h,h3⟩;cases h;cases h;cases h⟩
def fieldV (P:Program) (t i:Nat) (cs:List V):Option V:=match P.underlying t with
 | some (.struct fs) => match fs[i]? with
   | some f => match P.underlying f.type, (P.info? f.type).map (·.size) with
     | some D,some k=>bif JO D then some (.a ((cs.drop f.offset).take k)) else cs[f.offset]?
     | _,_=>none
   | none=>none
 | _=>none
theorem ZfH (L:Lc) (l:List V) (k:Nat):gl L (l.take k)=(gl L l).take k:=by rw [J1,J1,List.map_take]
theorem ZfI (L:Lc) (l:List V) (k:Nat):gl L (l.drop k)=(gl L l).drop k:=by rw [J1,J1,List.map_drop]
theorem ZaU {P:Program} {t i:Nat} {cs:List V} {v:V} (L:Lc) (h:fieldV P t i cs=some v) (w):(Instr.field t (.agg (gl L cs).toArray) i).run P w=.ok (ga L v) w:=by
 unfold fieldV at h;split at h;rename_i fs h1;split at h;rename_i f h2;split at h
 . rename_i D k h3 h4
   have u1:Und P f.type D:=⟨h3⟩
   have u2:Siz P f.type k:=⟨h4⟩
   cases hA:JO D with
   | true=>
     rw [hA] at h;simp only [cond_true,Xh] at h;subst h;simp [Instr.field,run_underlying h1,h2,asAgg,part,Und.isAgg,hA,Siz.run,ga,ZfH,ZfI]
   | false=>
     rw [hA] at h;simp only [cond_false] at h;have:=Z4a L cs f.offset;rw [h] at this;simp [Instr.field,run_underlying h1,h2,asAgg,part,Und.isAgg,hA,this]
 cases h;cases h;cases h
noncomputable def Z8X (P:Program) (e:AE) (t:Nat) (s:Str):Option Operand->Option Operand->Option V
 | some lo, some hi => match evv e lo, evv e hi with
   | some (.i .i64 l),some (.i .i64 h)=>cut (decide (0<=l/\l<=h/\h<=s.length)) (.s ((s.take h.toNat).drop l.toNat))
   | _,_=>none
 | some lo, none => match evv e lo with
   | some (.i .i64 l)=>cut (decide (0<=l/\l<=s.length)) (.s (s.drop l.toNat))
   | _=>none
 | none, some hi => match evv e hi with
   | some (.i .i64 h)=>cut (decide (0<=h/\h<=s.length)) (.s (s.take h.toNat))
   | _=>none
 | none,none=>none
def slr:V->Option (Nat×Nat×Nat)
 | .l b n=>some (b,0,n)
 | .q b o k n=>some (b,o * k,n)
 | .z b o n=>some (b,o,n)
 | _=>none
theorem ZiV {L:Lc} {v:V} {b o n:Nat} (h:slr v=some (b,o,n)) (hn:0<n):∃ c,ga L v=.slice (some ⟨(L b).1,o,none⟩) n c:=by
 cases v with
 | l b' n'=>
   simp only [slr,Xh,XG] at h;obtain ⟨rfl,rfl,rfl⟩:=h;exact ⟨_,rfl⟩
 | q b' o' k' n'=>
   simp only [slr,Xh,XG] at h;obtain ⟨rfl,rfl,rfl⟩:=h;exact ⟨(L b').2 - o',by simp only [ga];rw [Z8V (Nat.ne_of_gt hn)];rfl⟩
 | z b' o' n'=>
   simp only [slr,Xh,XG] at h;obtain ⟨rfl,rfl,rfl⟩:=h;exact ⟨_,rfl⟩
 | _=>cases h
def idx (P:Program) (t:Nat):V->V->Option V
 | .p b o, .i .i64 j => match P.underlying t with
   | some (.array n el) => match (P.info? el).map (·.size) with
     | some k=>cut (decide (0<=j/\j<n)) (.p b (o+j.toNat * k))
     | none=>none
   | _=>none
 | v, .i .i64 j => match slr v, P.underlying t with
   | some (b, o, n), some (.slice el) => match (P.info? el).map (·.size) with
     | some k=>cut (decide (0<=j/\j<n)) (.p b (o+j.toNat * k))
     | none=>none
   | _,_=>none
 | _,_=>none
def ZiW:V->Option Nat
 | .l _ n=>some n
 | .q _ _ _ n=>some n
 | .z _ _ n=>some n
 | .c (.N)=>some 0
 | _=>none
theorem ZfJ {L:Lc} {v:V} {n:Nat} (h:ZiW v=some n):∃ p c,ga L v=.slice p n c:=by
 unfold ZiW at h;split at h<;>first|(cases h;done)|(simp only [Xh] at h;subst h;exact ⟨_,_,rfl⟩)
noncomputable def ZiX (P:Program) (e:AE) (c:Call):Option V:=match c.callee,c.args.toList,c.argTypes.toList with
 | .builtin .len, [x], [t] => match evv e x with
   | some (.s s)=>cut (isT P t) (.i .i64 s.length)
   | some v => match ZiW v, P.underlying t with
     | some n,some (.slice _)=>some (.i .i64 n)
     | _,_=>none
   | _=>none
 | .builtin .cap, [x], [t] => match evv e x, P.underlying t with
   | some (.c (.N)),some (.slice _)=>some (.i .i64 0)
   | _,_=>none
 | .builtin .max, [x, y], _ => match evv e x, evv e y with
   | some (.i .i64 a),some (.i .i64 b)=>some (.i .i64 (max a b))
   | _,_=>none
 | .builtin .min, [x, y], _ => match evv e x, evv e y with
   | some (.i .i64 a),some (.i .i64 b)=>some (.i .i64 (min a b))
   | _,_=>none
 | _,_,_=>none
noncomputable def ZiY (P:Program) (e:AE) (t:Nat) (lo hi:Option Operand):V->Option V
 | .s s=>bif isT P t then Z8X P e t s lo hi else none
 | .c (.N) => match lo, hi, P.underlying t with
   | none, some h, some (.slice el) => match evv e h, (P.info? el).map (·.size) with
     | some (.i .i64 0),some _=>some (.c (.N))
     | _,_=>none
   | some h, none, some (.slice el) => match evv e h, (P.info? el).map (·.size) with
     | some (.i .i64 0),some _=>some (.c (.N))
     | _,_=>none
   | _,_,_=>none
 | .p b o => match lo, hi, P.underlying t with
   | none, none, some (.array n el) => match (P.info? el).map (·.size) with
     | some _=>some (.z b o n)
     | none=>none
   | _,_,_=>none
 | _=>none
noncomputable def pur (P:Program) (e:AE):Op->Option V
 | .move x=>evv e x
 | .assign x=>evv e x
 | .pick c x y => match evv e c with
   | some (.b true)=>evv e x
   | some (.b false)=>evv e y
   | _=>none
 | .nilCheck x => match evv e x with
   | some (.p b o)=>some (.p b o)
   | _=>none
 | .binOp op t x y _ => match evv e x, evv e y with
   | some a,some b=>bin P t (isK y) op a b
   | _,_=>none
 | .unOp .not _ x => match evv e x with
   | some (.b v)=>some (.b (!v))
   | _=>none
 | .convert s d x => match evv e x, P.underlying s, P.underlying d with
   | some (.i k n),some _,some (.int k')=>some (.i k' (k'.wrap n))
   | _,_,_=>none
 | .makeFunc (.func g) fs cs => match evs e fs.toList, evs e cs.toList with
   | some x,some y=>some (.f g x y)
   | _,_=>none
 | .slice t x lo hi none => match evv e x with
   | some v=>ZiY P e t lo hi v
   | none=>none
 | .fieldAddr t x i => match evv e x, fld P t i with
   | some (.p b o),some k=>some (.p b (o+k))
   | _,_=>none
 | .field t x i => match evv e x with
   | some (.a cs)=>fieldV P t i cs
   | _=>none
 | .indexAddr t x y => match evv e x, evv e y with
   | some a,some b=>idx P t a b
   | _,_=>none
 | .index t x y => match evv e x, evv e y with
   | some (.s s),some (.i _ j)=>cut (isT P t && decide (0<=j/\j<s.length)) (.i .u8 (Z09 s j.toNat))
   | _,_=>none
 | .extract x i => match evv e x with
   | some (.t l)=>l[i]?
   | _=>none
 | .build t ps => match parts e ps.toList with
   | some ps=>(built P t ps).map .a
   | _=>none
 | .call c=>ZiX P e c
 | _=>none
section
variable {P:Program} {n:Nat} {e:Env} {w:World} {d:Option Nat} {ty:TypeId} {pos:String} {af:Array Edge} {g:Option (Nat×Bool)}
theorem ZfK {t el k:Nat} {x y:Operand} {b o i l c:Nat} {z:Int} [hu:Und P t (.slice el)] [hk:Siz P el k] (hx:ev e x=some (.slice (some ⟨b,o,none⟩) l c)) (hy:ev e y=some (.I z)) (hz:z=(i:Int)) (hi:i<l) :
 PR P n ⟨d,.indexAddr t x y,ty,pos,af,g⟩ e w (.pointer (some ⟨b,o+i * k,none⟩)):=
 ⟨λa ha => by
   subst hz;have h0:(0:Int)<=(i:Int)/\(i:Int)<(l:Int):=by omega
   have hr:(Instr.indexAt t (.slice (some ⟨b,o,none⟩) l c) (.I (i:Int))).run P w=.ok (.pointer (some ⟨b,o+i * k,none⟩)) w:=by
    simp only [Instr.indexAt,asIntOf];simp [run_underlying hu.h,Siz.run,Addr.add_lit,hi]
   simp [execOp,ha.ev hx,ha.ev hy,hr]⟩
theorem Z6z {L:Lc} (hG:Gl L) {e:AE} {xs:Array Operand} {vs:List V} (h:evs e xs.toList=some vs):∀ a,Has n (ge L e) a->xs.map a.eval=(gl L vs).toArray:=λa ha=>by
 rw [<- Zcr hG h a ha,<- Ybb,XW]
theorem ZaV {t:TypeId} {x y:Operand} {a:Str} {z:Int} {i:Nat} {kk:IntKind} [hu:Und P t .string] (hx:ev e x=some (str a)) (hy:ev e y=some (.int kk z)) (hz:z=(i:Int)) (hi:i<a.length):PR P n ⟨d,.index t x y,ty,pos,af,g⟩ e w (.int .u8 (Z09 a i)):=
 ⟨λc ha => by
   subst hz;have h1:(0:Int)<=(i:Int)/\((i:Int)<((⟨a.toArray⟩:ByteArray).size:Int)):=by rw [J5];omega
   have:=run_index_string (P:=P) w t ⟨a.toArray⟩ kk (i:Int) hu.h;rw [dif_pos h1] at this;simp only [execOp,ha.ev hx,ha.ev hy];simp [this,Z09,List.getD,hi];rfl⟩
theorem ZiZ {L:Lc} (hG:Gl L) {e:AE} {t:Nat} {x y:Operand} {a b v:V} (hx:evv e x=some a) (hy:evv e y=some b) (h:idx P t a b=some v):PR P n ⟨d,.indexAddr t x y,ty,pos,af,g⟩ (ge L e) w (ga L v):=by
 have ex:=Zi hG hx;have ey:=Zi hG hy;unfold idx at h;split at h;split at h;rename_i m el h1;split at h;rename_i k h2;obtain ⟨h3,rfl⟩:=JL h;have h4:=of_decide_eq_true h3;have u1:Und P t (.array m el):=⟨h1⟩
 have u2:Siz P el k:=⟨h2⟩
 exact Z1t (el:=el) (k:=k) ex ey (i:=_root_.Int.toNat _) (by rw [Yal h4.1]) (by omega);cases h;cases h;split at h;rename_i b o m el h1 h2;split at h;rename_i k h5;obtain ⟨h3,rfl⟩:=JL h;have h4:=of_decide_eq_true h3;have u1:Und P t (.slice el):=⟨h2⟩
 have u2:Siz P el k:=⟨h5⟩
 obtain ⟨c,hv⟩:=ZiV (L:=L) h1 (by omega);rw [hv] at ex;exact ZfK (el:=el) (k:=k) ex ey (i:=_root_.Int.toNat _) (by rw [Yal h4.1]) (by omega);cases h;cases h;cases h
theorem ZaW {L:Lc} (hG:Gl L) {e:AE} {t:Nat} {x:Operand} {s:Str} {lo hi:Option Operand} {v:V} (ht:isT P t=true) (hx:evv e x=some (.s s)) (h:Z8X P e t s lo hi=some v):PR P n ⟨d,.slice t x lo hi none,ty,pos,af,g⟩ (ge L e) w (ga L v):=by
 have ex:=Zi hG hx;have u1:=Z1v ht;unfold Z8X at h;split at h;split at h;rename_i l h' h1 h2;obtain ⟨h3,rfl⟩:=JL h;have h4:=of_decide_eq_true h3;exact Z6w ex (Zi hG h1) (Zi hG h2) (by rw [Yal h4.1]) (by rw [Yal (by omega)]) (by omega) (by omega);cases h;split at h;rename_i l h1;obtain ⟨h3,rfl⟩:=JL h;have h4:=of_decide_eq_true h3;exact Z7s ex (Zi hG h1) (by rw [Yal h4.1]) (by omega);cases h;split at h;rename_i l h1;obtain ⟨h3,rfl⟩:=JL h;have h4:=of_decide_eq_true h3;exact Z7t ex (Zi hG h1) (by rw [Yal h4.1]) (by omega);cases h;cases h
theorem ZfL {α:Type} {a:Array α} {x:α} (h:a.toList=[x]):a=#[x]:=by rw [<- XW (xs:=a),h]
theorem Zmo {α:Type} {a:Array α} {x y:α} (h:a.toList=[x,y]):a=#[x,y]:=by rw [<- XW (xs:=a),h]
theorem ZfM {L:Lc} (hG:Gl L) {e:AE} {c:Call} {v:V} (h:ZiX P e c=some v):PR P n ⟨d,.call c,ty,pos,af,g⟩ (ge L e) w (ga L v):=by
 obtain ⟨cl,xs,ts⟩:=c;unfold ZiX at h;split at h;rename_i x t h1 h2 h3
 try dsimp only at h1 h2 h3
 obtain rfl:=ZfL h2;obtain rfl:=ZfL h3;subst h1;split at h;rename_i h1;obtain ⟨h2,rfl⟩:=JL h;have:=Z1v h2;exact Za8 (Zi hG h1);rename_i v' iM h1;split at h;rename_i m el h2 h3;cases h;have:Und P t (.slice el):=⟨h3⟩
 obtain ⟨p,c,hv⟩:=ZfJ (L:=L) h2;have:=Zi hG h1;rw [hv] at this;exact Z8K this;cases h;cases h;rename_i x t h1 h2 h3
 try dsimp only at h1 h2 h3
 obtain rfl:=ZfL h2;obtain rfl:=ZfL h3;subst h1;split at h;rename_i el h1 h2;cases h;have:Und P t (.slice el):=⟨h2⟩
 exact Z8S (Zi hG h1);cases h;rename_i x y h1 h2
 try dsimp only at h1 h2
 obtain rfl:=Zmo h2;subst h1;split at h;rename_i h1 h2;cases h;exact Zck (Zi hG h1) (Zi hG h2);cases h;rename_i x y h1 h2
 try dsimp only at h1 h2
 obtain rfl:=Zmo h2;subst h1;split at h;rename_i h1 h2;cases h;exact Zcl (Zi hG h1) (Zi hG h2);cases h;cases h
theorem ZfN {L:Lc} (hG:Gl L) {e:AE} {t:Nat} {x:Operand} {u v:V} {lo hi:Option Operand} (hx:evv e x=some u) (h:ZiY P e t lo hi u=some v):PR P n ⟨d,.slice t x lo hi none,ty,pos,af,g⟩ (ge L e) w (ga L v):=by
 have ex:=Zi hG hx;unfold ZiY at h;split at h;obtain ⟨ht,h⟩:=Jr h;exact ZaW hG ht hx h;split at h;rename_i ho el h1;split at h;rename_i k h2 h3;cases h;have u1:Und P t (.slice el):=⟨h1⟩
 have u2:Siz P el _:=⟨h3⟩
 exact ⟨λa ha=>by simp [execOp,ha.ev ex,ha.ev (Zi hG h2),ga,Instr.sliceAt,run_underlying u1.h,Instr.slice,Instr.sliceBounds,Instr.sliceBound,asIntOf,u2.run]⟩;cases h;rename_i ho el h1;split at h;rename_i k h2 h3;cases h;have u1:Und P t (.slice el):=⟨h1⟩
 have u2:Siz P el _:=⟨h3⟩
 exact ⟨λa ha=>by simp [execOp,ha.ev ex,ha.ev (Zi hG h2),ga,Instr.sliceAt,run_underlying u1.h,Instr.slice,Instr.sliceBounds,Instr.sliceBound,asIntOf,u2.run]⟩;cases h;cases h;split at h;rename_i m el h1;split at h;rename_i k h3;cases h;have u1:Und P t (.array m el):=⟨h1⟩
 have u2:Siz P el _:=⟨h3⟩
 exact ⟨λa ha=>by simp [execOp,ha.ev ex,ga,Instr.sliceAt,Instr.sureAddr,run_underlying u1.h,Instr.sliceBounds,u2.run,Addr.add]⟩;cases h;cases h;cases h
theorem Zcv {L:Lc} (hG:Gl L) {e:AE} {op:Op} {v:V} (h:pur P e op=some v):PR P n ⟨d,op,ty,pos,af,g⟩ (ge L e) w (ga L v):=by
 unfold pur at h;split at h;exact ZV (Zi hG h);exact Z07 (Zi hG h);split at h;rename_i h1;exact Z5M (Zi hG h1) (Zi hG h);rename_i h1;exact Z5N (Zi hG h1) (Zi hG h);cases h;split at h;rename_i h1;cases h;exact Z46 (Zi hG h1);cases h;split at h;rename_i h1 h2;exact ZiS hG h1 h2 h w d _ ty pos af g;cases h;split at h;rename_i h1;cases h;exact Z8G (Zi hG h1);cases h;split at h;rename_i h1 h2 h3;cases h;have u1:Und P _ _:=⟨h2⟩
 have u2:Und P _ _:=⟨h3⟩
 exact Zfz (Zi hG h1);cases h;split at h;rename_i fs cs x y h1 h2;cases h;exact ⟨λa ha=>by simp [execOp,Instr.makeFunc,Z6z hG h1 a ha,Z6z hG h2 a ha,ga]⟩;cases h;split at h;rename_i h1;exact ZfN hG h1 h;cases h;split at h;rename_i h1 h2;cases h;have:=ZiU h2;exact Z0w (Zi hG h1);cases h;split at h;rename_i h1;exact Zcn (Zi hG h1) (ZaU L h);cases h;split at h;rename_i h1 h2;exact ZiZ hG h1 h2 h;cases h;split at h;rename_i h1 h2;obtain ⟨h3,rfl⟩:=JL h;simp only [Xa] at h3;have h4:=of_decide_eq_true h3.2;have:=Z1v h3.1;exact ZaV (Zi hG h1) (Zi hG h2) (by rw [Yal h4.1]) (by omega);cases h;split at h;rename_i l h1;exact Z08 (Zi hG h1) (by rw [List.getElem?_toArray,Z4a,h];rfl);cases h;split at h;rename_i ps h1;rw [XB] at h;obtain ⟨cs,h2,rfl⟩:=h;rename_i arr _ _;have:=Z0J (P:=P) (n:=n) (w:=w) (d:=d) (ty:=ty) (pos:=pos) (af:=af) (g:=g) (Z4Q hG h1) (λw=>run_build w _ _ _ (Zcu L h2));simpa [ga] using this;cases h;exact ZfM hG h;cases h
end
end Go.Sim
namespace Go.Eng
open Go Go.RowKit Go.Proofs
class Z6A (P:Program) (kt:Nat) (κ:outParam Type) [DecidableEq κ] where
 enc:κ->Value
 chk:∀ (em:Bool) (a:κ) (w:World),(Instr.checkKey em 10000 kt (enc a)).run P w=.ok () w
 find:∀ (a:κ) (es:List MapEntry) (l:List κ) (w:World),es.map (·.key)=l.map enc->
  (Instr.findKey kt (enc a) es).run P w=.ok ((l.findIdx? (λb=>decide (b=a))).bind λi=>(es[i]?).map λe=>(i,e.val)) w
def Ja {κ:Type} (enc:κ->Value) (w:World) (r:Nat) (l:List (κ×Value)):Prop:=
 ∃ (es:Array MapEntry) (clock:Nat),w.heap[r]?=some (.map es clock)/\es.toList.map (·.key)=l.map (λp=>enc p.1)/\es.toList.map (·.val)=l.map (·.2)
theorem Ja.lt {κ:Type} {enc:κ->Value} {w} {r:Nat} {l:List (κ×Value)} (h:Ja enc w r l):r<w.heap.size:=by
 obtain ⟨es,c,h1,_⟩:=h;exact (Xi.1 h1).1
theorem Ja.ext {κ:Type} {enc:κ->Value} {S:List Nat} {w w':World} {r:Nat} {l:List (κ×Value)} (h:Ja enc w r l) (hS:Stp S w w') (hr:r∉S):Ja enc w' r l:=by
 have ah:=h.lt;obtain ⟨es,c,h1,h2⟩:=h;exact ⟨es,c,by rw [hS.block r ah hr];exact h1,h2⟩
theorem Ja.up {κ:Type} {enc:κ->Value} {w w':World} {r:Nat} {l:List (κ×Value)} (h:Ja enc w r l) (hS:Stp [] w w'):Ja enc w' r l:=h.ext hS (by simp)
def Z1V {κ:Type} [DecidableEq κ] (l:List (κ×Value)) (a:κ) (z:Value):Value:=match l.find? (λp=>decide (p.1=a)) with|some p=>p.2|none=>z
theorem Z2K {d:TypeDesc} {κ:Type} [DecidableEq κ] (enc:κ->Value) (h:∀ a b:κ,Instr.sameNow d (enc a) (enc b)=some (decide (a=b))) (a:κ):∀ (es:List MapEntry) (l:List κ) (i:Nat),es.map (·.key)=l.map enc->
 Instr.findNow d (enc a) es i=some ((l.findIdx? (λb=>decide (b=a))).bind λj=>(es[j]?).map λe=>(i+j,e.val))
 | [],[],i,_=>by simp [Instr.findNow]
 | [],_ :: _,i,h=>by simp at h
 | _ :: _,[],i,h=>by simp at h
 | e :: es, b :: l, i, hk => by
   simp only [XQ,List.cons.injEq] at hk;obtain ⟨h1,h2⟩:=hk;have ih:=Z2K enc h a es l (i+1) h2;simp only [Instr.findNow,h1,h];by_cases cj:a=b;subst cj;simp [Ybl]
   . have lB:¬ b=a:=λh=>cj h.symm
     simp only [decide_eq_false cj,ih,Ybl,decide_eq_false lB,Ybk,if_false];cases l.findIdx? (λb=>decide (b=a)) with
     | none=>rfl
     | some j=>
       simp only [Yay,Ybj,List.getElem?_cons_succ];rw [show i+1+j=i+(j+1) by omega]
theorem Z18 {P:Program} {kt:Nat} {κ:Type} [DecidableEq κ] (enc:κ->Value) (h:∀ (a b:κ) (w),(Op.equal kt (enc a) (enc b)).run P w=.ok (decide (a=b)) w) (a:κ) (w):∀ (es:List MapEntry) (l:List κ) (i:Nat),es.map (·.key)=l.map enc->
 (Instr.findAsking kt (enc a) es i).run P w=.ok ((l.findIdx? (λb=>decide (b=a))).bind λj=>(es[j]?).map λe=>(i+j,e.val)) w
 | [],[],i,_=>by simp [Instr.findAsking]
 | [],_ :: _,i,h=>by simp at h
 | _ :: _,[],i,h=>by simp at h
 | e :: es, b :: l, i, hk => by
   simp only [XQ,List.cons.injEq] at hk;obtain ⟨h1,h2⟩:=hk;have ih:=Z18 enc h a w es l (i+1) h2;simp only [Instr.findAsking,h1];by_cases cj:a=b;subst cj;simp [Ybl,h]
   . have lB:¬ b=a:=λh=>cj h.symm
     simp only [Sem.run_bind,h,decide_eq_false cj,Result.andThen,Ybl,decide_eq_false lB,Ybk,if_false,ih];cases l.findIdx? (λb=>decide (b=a)) with
     | none=>rfl
     | some j=>
       simp only [Yay,Ybj,List.getElem?_cons_succ];rw [show i+1+j=i+(j+1) by omega]
instance {P:Program} {kt:Nat} [hu:Und P kt (.int .i64)]:Z6A P kt Int where
 enc:=λz=>.I z
 chk:=λem a w=>MapKept.run_checkKey (k:=.I a) hu.h (by simp [MapKept.IsKey]) em 9999
 find:=λa es l w hk=>by
  have:=Z2K (d:=.int .i64) (λz:Int=>Value.int .i64 z) (λa b=>by simp [Instr.sameNow,YaE]) a es l 0 hk;simpa using MapKept.run_findKey (w:=w) hu.h this
instance Zit {P:Program} {kt:Nat} [hu:Und P kt .string]:Z6A P kt Str where
 enc:=str
 chk:=λem a w=>MapKept.run_checkKey (k:=str a) hu.h (by simp [MapKept.IsKey]) em 9999
 find:=λa es l w hk=>by
  have:=Z2K (d:=.string) str (λa b=>by
   simp only [Instr.sameNow,Xh];rw [beq_toListBytes,Zfn]) a es l 0 hk
  simpa using MapKept.run_findKey (w:=w) hu.h this
section
variable {P:Program} {n:Nat} {e:Env} {w:World} {d:Option Nat} {ty:TypeId} {pos:String} {af:Array Edge} {g:Option (Nat×Bool)}
theorem Z0K {t:TypeId} {κ:Type} (enc:κ->Value):OE P n ⟨d,.makeMap t none,ty,pos,af,g⟩ e w (λv w'=>∃ r,v=.map (some r)/\w.heap.size<=r/\Ja enc w' r []/\Stp [] w w'):=
 Zs (v:=.map (some w.heap.size)) (w':=w.alloc (.map #[] 0)) (λa ha=>by
  simp [execOp,run_makeMap]) ⟨_,rfl,Xm _,⟨#[],0,heap_alloc_new w _,rfl,rfl⟩,Stp.alloc _ _ _⟩
theorem Z8Y {κ:Type} [DecidableEq κ] {l:List κ} {a:κ} (h:∀ b∈l,¬ b=a):l.findIdx? (λb=>decide (b=a))=none:=by
 rw [Yam];intro b hb;simp [h b hb]
theorem Z4R {mt kt et r:Nat} {κ:Type} [DecidableEq κ] [hm:Und P mt (.map kt et)] [K:Z6A P kt κ] {l:List (κ×Value)} {a:κ} {v:Value} (hr:Ja K.enc w r l) (hn:∀ p∈l,¬ p.1=a) :
 ∃ w',(Instr.mapUpdate mt (.map (some r)) (K.enc a) v).run P w=.ok () w'/\Ja K.enc w' r (l++[(a,v)])/\Stp [r] w w':=by
 obtain ⟨es,clock,h1,h2,h3⟩:=hr;have hf:(Instr.findKey kt (K.enc a) es.toList).run P w=.ok none w:=by
  have hk:es.toList.map (·.key)=(l.map (·.1)).map K.enc:=by rw [h2,Yad];rfl
  rw [K.find a es.toList (l.map (·.1)) w hk,Z8Y (by simpa using hn)];rfl
 have ah:r<w.heap.size:=(Xi.1 h1).1;refine ⟨{ w with heap:=w.heap.setIfInBounds r (.map (es.push { key:=K.enc a,val:=v,born:=clock }) (clock+1)) },?_,?_,?_⟩;simp [Instr.mapUpdate,run_underlying hm.h,MapKept.run_getObj_map h1,K.chk,hf,MapKept.run_setObj_map _ h1,Result.andThen];refine ⟨es.push { key:=K.enc a,val:=v,born:=clock },clock+1,by simp [ah],?_,?_⟩;simp [h2];simp [h3];refine ⟨rfl,rfl,rfl,by simp,λb hb hn=>?_⟩;simp only [Xw] at hn;simp [YaN (λh=>hn h.symm)]
theorem Zf {mt kt et r:Nat} {κ:Type} [DecidableEq κ] {x y z:Operand} [hm:Und P mt (.map kt et)] [K:Z6A P kt κ] {l:List (κ×Value)} {a:κ} {v:Value} (hx:ev e x=some (.map (some r))) (hy:ev e y=some (K.enc a)) (hz:ev e z=some v) (hr:Ja K.enc w r l) (hn:∀ p∈l,¬ p.1=a) :
 OE P n ⟨d,.insert mt x y z,ty,pos,af,g⟩ e w (λ_ w'=>Ja K.enc w' r (l++[(a,v)])/\Stp [r] w w'):=by
 obtain ⟨w',h1,h2,h3⟩:=Z4R (mt:=mt) (v:=v) hr hn;exact Z1p (w':=w') (λc hc=>by simp [execOp,hc.ev hx,hc.ev hy,hc.ev hz,h1]) ⟨h2,h3⟩
theorem Z1a {mt kt et r:Nat} {κ:Type} [DecidableEq κ] {x y z:Operand} [hm:Und P mt (.map kt et)] [K:Z6A P kt κ] {l:List (κ×Value)} {a:κ} {v:Value} (hx:ev e x=some (.map (some r))) (hy:ev e y=some (K.enc a)) (hz:ev e z=some v) (hr:Ja K.enc w r l) (hn:∀ p∈l,¬ p.1=a) :
 OE P n ⟨d,.mapUpdate mt x y z,ty,pos,af,g⟩ e w (λ_ w'=>Ja K.enc w' r (l++[(a,v)])/\Stp [r] w w'):=by
 obtain ⟨w',h1,h2,h3⟩:=Z4R (mt:=mt) (v:=v) hr hn;exact Z1p (w':=w') (λc hc=>by simp [execOp,hc.ev hx,hc.ev hy,hc.ev hz,h1]) ⟨h2,h3⟩
theorem Z1b {mt kt et r:Nat} {κ:Type} [DecidableEq κ] {x y:Operand} {z:Value} [hm:Und P mt (.map kt et)] [K:Z6A P kt κ] [hz:Zer P et z] {l:List (κ×Value)} {a:κ} (hx:ev e x=some (.map (some r))) (hy:ev e y=some (K.enc a)) (hr:Ja K.enc w r l) :
 PR P n ⟨d,.lookup mt x y false,ty,pos,af,g⟩ e w (Z1V l a z):=by
 refine ⟨λc hc=>?_⟩;obtain ⟨es,clock,h1,h2,h3⟩:=hr;have hk:es.toList.map (·.key)=(l.map (·.1)).map K.enc:=by rw [h2,Yad];rfl
 have hf:=K.find a es.toList (l.map (·.1)) w hk;have am:es.toList.length=l.length:=by have:=congrArg List.length h3;simpa using this
 have hv:∀ i:Nat,(es.toList[i]?).map (λx:MapEntry=>x.val)=(l[i]?).map (λx:κ×Value=>x.2):=λi=>by
  have:=congrArg (λx=>x[i]?) h3;simpa using this
 have jk:Z1V l a z=match (l.map (·.1)).findIdx? (λb=>decide (b=a)) with|some i=>((es.toList[i]?).map (λx:MapEntry=>x.val)).getD z|none=>z:=by
  unfold Z1V;rw [List.findIdx?_map];cases hi:l.findIdx? ((λb=>decide (b=a)) ∘ λx=>x.1) with
  | none=>
    have:l.find? (λp=>decide (p.1=a))=none:=by
     rw [Yar];intro p hp;have:=(Yam.1 hi) p hp;simpa using this
    rw [this]
  | some i=>
    obtain ⟨ah,hp,hb⟩:=X8.1 hi;have:l.find? (λp=>decide (p.1=a))=some l[i]:=by
     rw [YaR];exact ⟨by simpa using hp,i,ah,rfl,λj hj=>by simpa using hb j hj⟩
    rw [this];simp only [hv,XN ah,Ybj,Ybw]
 rw [jk];simp only [execOp,hc.ev hx,hc.ev hy];cases hi:(l.map (·.1)).findIdx? (λb=>decide (b=a)) with
 | none=>
   rw [hi] at hf;simp [Instr.lookup,run_underlying hm.h,MapKept.run_getObj_map h1,K.chk,hf,Result.andThen,Zer.run]
 | some i=>
   obtain ⟨ah,_⟩:=X8.1 hi;have dJ:i<es.toList.length:=by rw [am];simpa using ah
   rw [hi] at hf;simp only [Yay,XN dJ,Ybj] at hf;simp [Instr.lookup,run_underlying hm.h,MapKept.run_getObj_map h1,K.chk,hf,Result.andThen,XN dJ]
end
end Go.Eng
