/-
Contracts and plain laws, merged out of own texts.
-/
import Derived.Test.YteibicnbkggiiaaGreatDoorM3
import Derived.Recover
import Derived.RangeFuncBox
import Derived.RangeFuncLeaves
import Derived.RangeFuncNested
import Derived.RangeFuncBound
import Derived.RangeFuncCalls
import Derived.Shelf.Abstract
import Derived.Shelf.RegionOpen
import Derived.BigRegionIn
import Derived.WalkKit
import Derived.OwnWalkIn
import Derived.TacticsInMore
import Derived.LoopNIn
import Derived.LoopIn
import Derived.ChangeKeysEq
set_option linter.unusedVariables false
set_option linter.unusedSimpArgs false
set_option maxHeartbeats 4000000
set_option maxRecDepth 20000
namespace Go.Proofs.YteibicnbkggiiaaGreatDoor
open Go Go.Eng Go.RowKit
theorem Jt {d:Int}:Zw d=true↔0<=d/\d<=3652058:=by unfold Zw;simp
theorem Z1D {y m d:Int} (hy:1<=y) (cO:y<=9999) (hm:1<=m) (dk:m<=12) (hd:1<=d) (pn:d<=ZD y m):0<=JC y m d/\JC y m d<=3652058:=by
 obtain ⟨k,hk⟩:∃ k:Nat,m=(k:Int)+1:=⟨(m - 1).toNat,by omega⟩
 subst hk;have hk:k<=11:=by omega
 rw [Z1m y d k hk];have h0:JY 1=0:=by decide
 have h1:=Z24 hy;have h2:=Z24 (show y+1<=10000 by omega);have h3:JY 10000=3652059:=by decide
 have dU:0<=Z0S y k:=by
  have:=Z2t (y:=y) (Xo k) (by omega);simpa [Z0S] using this
 have hc:Z0S y (k+1)=Z0S y k+ZD y ((k:Int)+1):=by simp [Z0S]
 have qb:=Z2t (y:=y) (show k+1<=12 by omega) (Xq _);have hs:=Z43 y;have ei:=Znu y;omega
end Go.Proofs.YteibicnbkggiiaaGreatDoor
namespace Go.Eng
open Go Go.RowKit Go.Proofs
end Go.Eng
namespace Go.Proofs.YteibicnbkggiiaaGreatDoor
open Go Go.Eng Go.RowKit
instance:Z8 Hol where
 k:=9
 enc:=λh=>[.I h.kind,.I h.month,.I h.day,.I h.wd,.I h.nth,.I h.off,.I h.move,.I h.first,.I h.last]
 len:=λ_=>rfl
 one:=by intro x u hu;simp at hu;rcases hu with rfl|rfl|rfl|rfl|rfl|rfl|rfl|rfl|rfl<;>rfl
instance:Z8 Clo where
 k:=3
 enc:=λh=>[.I h.lo,.I h.hi,.I h.known]
 len:=λ_=>rfl
 one:=by intro x u hu;simp at hu;rcases hu with rfl|rfl|rfl<;>rfl
instance:Z8 Spn where
 k:=2
 enc:=λh=>[.I h.1,.I h.2]
 len:=λ_=>rfl
 one:=by intro x u hu;simp at hu;rcases hu with rfl|rfl<;>rfl
def Z2d:List Int:=[0,0,0,0,0,0,0,0,0,0,0,0,2,1,0,0,0,0,0,-1,1]
def Z1T (w:World):Prop:=∀ i u,Z2d[i]?=some u->w.cell? ⟨5,i,none⟩=some (.I u)
theorem Z1T.ext {S:List Nat} {w w':World} (h:Z1T w) (hS:Stp S w w') (hb:5∉S):Z1T w':=λi u hu=>hS.cell hb (h i u hu)
theorem Z1T.up {w w':World} (h:Z1T w) (hS:Stp [] w w'):Z1T w':=h.ext hS (by simp)
def Z0M (c:Cal) (hv cv zo zs hr:Value):List Value:=
 [.B (c.week.getD 0 false),.B (c.week.getD 1 false),.B (c.week.getD 2 false),.B (c.week.getD 3 false),.B (c.week.getD 4 false),.B (c.week.getD 5 false),.B (c.week.getD 6 false),hv,cv,zo,zs,hr]
end Go.Proofs.YteibicnbkggiiaaGreatDoor
namespace Go.Eng
open Go Go.RowKit Go.Proofs
section
variable {P:Program} {n:Nat} {e:Env} {w:World} {d:Option Nat} {ty:TypeId} {pos:String} {af:Array Edge} {g:Option (Nat×Bool)} {rest:List Oper} {ops:Array Oper} {Q:Exit->Act->World->Prop}
theorem Z3f {α:Type} [Z3 α] {X:List Nat} {v:Value} {xs:List α} {i:Nat} {cs:List Value} {x:Operand} {t:TypeId} {D:TypeDesc} [hu:Und P t D] (hA:Z03 D=true) [br:Siz P t (Z3.k α)] (hx:ev e x=some (.pointer (some (Zz v i (Z3.k α) 0)))) (hs:SlV X w v xs) (hi:i<xs.length)
 (hr:Z3.rep X w xs[i] cs) (hc:∀ j u,cs[j]?=some u->w.cell? (Zz v i (Z3.k α) j)=some u):PR P n ⟨d,.load t x,ty,pos,af,g⟩ e w (.agg cs.toArray):=by
 obtain ⟨p,l',c,rfl⟩:=hs.isSome hi;refine Z1e (cs:=cs) hA hx (Z3.len hr) (λj u hu=>?_);have:=hc j u hu;simpa [Zz] using this
end
structure Fct where
 entry:Int
 kind:Str
 day:Int
 by_:Int
 to_:Int
 amt:Int
deriving DecidableEq
instance:Inhabited Fct:=⟨⟨0,[],0,0,0,0⟩⟩
instance:Z8 Fct where
 k:=6
 enc:=λx=>[.I x.entry,str x.kind,.I x.day,.I x.by_,.I x.to_,.I x.amt]
 len:=λ_=>rfl
 one:=by intro x u hu;simp at hu;rcases hu with rfl|rfl|rfl|rfl|rfl|rfl<;>rfl
structure Rtn where
 crr:Int
 kind:Int
 lo:Int
 hi:Int
deriving DecidableEq
instance:Z8 Rtn where
 k:=4
 enc:=λx=>[.I x.crr,.I x.kind,.I x.lo,.I x.hi]
 len:=λ_=>rfl
 one:=by intro x u hu;simp at hu;rcases hu with rfl|rfl|rfl|rfl<;>rfl
structure Crr where
 extra:Int
 tol:Int
deriving DecidableEq
instance:Z8 Crr where
 k:=2
 enc:=λx=>[.I x.extra,.I x.tol]
 len:=λ_=>rfl
 one:=by intro x u hu;simp at hu;rcases hu with rfl|rfl<;>rfl
structure Atp where
 entry:Int
 party:Int
 crr:Int
 sent:Int
 rets:List Rtn
instance:Inhabited Atp:=⟨⟨0,0,0,0,[]⟩⟩
abbrev atC (a:Atp) (rv:Value):List Value:=[.I a.entry,.I a.party,.I a.crr,.I a.sent,rv]
instance:Z3 Atp where
 k:=5
 rep:=λX w a cs=>∃ rv,cs=atC a rv/\SlV X w rv a.rets
 len:=λ⟨_,h,_⟩=>h ▸ rfl
 one:=by
  rintro X w a cs ⟨rv,rfl,h⟩ u hu;have:=h.one;simp only [Xg,Xm,or_false] at hu;rcases hu with rfl|rfl|rfl|rfl|rfl<;>first|rfl|assumption
 ext:=λ⟨rv,h,hs⟩ hS h1 h2=>⟨rv,h,hs.ext hS h1 h2⟩
end Go.Eng
namespace Go.Proofs.YteibicnbkggiiaaGreatDoor
open Go Go.Eng Go.RowKit
instance:Z3 Cr where
 k:=7
 rep:=λX w q cs=>∃ kc kd,cs=crC q kc kd/\SlV X w kc q.cnd/\SlV X w kd q.due
 len:=λ⟨_,_,h,_⟩=>h ▸ rfl
 one:=λ⟨_,_,h,h1,h2⟩=>h ▸ Z1C h1 h2
 ext:=λ⟨kc,kd,h,h1,h2⟩ hS g1 g2=>⟨kc,kd,h,h1.ext hS g1 g2,h2.ext hS g1 g2⟩
structure Cas where
 fcts:List Fct
 ruls:List Cr
 atts:List Atp
 crrs:List Crr
 stys:List Spn
 cal:Cal
 court:Int
 today:Int
structure Z0U where
 fv:Value
 rv:Value
 av:Value
 cv:Value
 sv:Value
 hv:Value
 lv:Value
 zo:Value
 zs:Value
 hr:Value
abbrev Jh (c:Cas) (R:Z0U):List Value:=[R.fv,R.rv,R.av,R.cv,R.sv]++Z0M c.cal R.hv R.lv R.zo R.zs R.hr++[.I c.court,.I c.today]
end Go.Proofs.YteibicnbkggiiaaGreatDoor
namespace Go.Eng
open Go Go.RowKit Go.Proofs
variable {P:Program} {n:Nat} {Q:Exit->Act->World->Prop} {e:Env} {w w0:World} {rest:List Oper} {ops:Array Oper} {ty:TypeId} {pos:String} {af:Array Edge}
theorem CP {S:List Nat} {f d:Nat} {fn:Func} {xs:Array Operand} {ts:Array TypeId} {vs:Array Value} {r:Value} {c:Operand} [hf:Fun P f fn] (hS:Stp S w0 w) (h:Calls P f vs w (Ret λv w'=>v=r/\Stp [] w w')) (k:∀ w',Stp [] w w'->Stp S w0 w'->WL P n ops Q rest ((d,r) :: e) w')
 (hc:ev e c=some (.func (.func f) #[] #[]):=by exact rfl) (hv:∀ a,Has n e a->xs.map a.eval=vs:=by first|exact ZN rfl|exact Zj rfl rfl|exact ZQ rfl rfl rfl|exact Z7a rfl rfl rfl rfl|exact Z8A) (hd:Nat.blt d n=true:=by exact rfl) :
 WL P n ops Q (⟨some d,.call { callee:=.value c,args:=xs,argTypes:=ts },ty,pos,af,none⟩ :: rest) e w:=
 Z1 (Z4 hc hv h) hd (by rintro _ w' ⟨rfl,hT⟩;exact k w' hT (hS.trans hT.mn))
theorem CG {f d:Nat} {fn:Func} {xs:Array Operand} {ts:Array TypeId} {vs:Array Value} {G:Value->World->Prop} {c:Operand} [hf:Fun P f fn] (h:Calls P f vs w (Ret G)) (k:∀ v w',G v w'->WL P n ops Q rest ((d,v) :: e) w')
 (hc:ev e c=some (.func (.func f) #[] #[]):=by exact rfl) (hv:∀ a,Has n e a->xs.map a.eval=vs:=by first|exact ZN rfl|exact Zj rfl rfl|exact ZQ rfl rfl rfl|exact Z7a rfl rfl rfl rfl|exact Z8A) (hd:Nat.blt d n=true:=by exact rfl) :
 WL P n ops Q (⟨some d,.call { callee:=.value c,args:=xs,argTypes:=ts },ty,pos,af,none⟩ :: rest) e w:=
 Z1 (Z4 hc hv h) hd k
theorem BX {S:List Nat} {d:Nat} {t:TypeId} {x:Operand} {v:Value} (hS:Stp S w0 w) (k:∀ b w',w.heap.size<=b->Blk w' b t v.cells.toList->Stp [] w w'->Stp S w0 w'->WL P n ops Q rest ((d,pQ b) :: e) w')
 (hx:ev e x=some v:=by exact rfl) (hd:Nat.blt d n=true:=by exact rfl):WL P n ops Q (⟨some d,.box t x,ty,pos,af,none⟩ :: rest) e w:=
 Z1 (Zp hx) hd (by rintro _ w' ⟨b,rfl,hb,hk,hT⟩;exact k b w' hb hk hT (hS.trans hT.mn))
theorem DP {S S0:List Nat} {Lt:List Nat} {ord:List (Nat×Nat)} {i f d:Nat} {fn:Func} {gd:Option (Nat×Bool)} {xs:Array Operand} {ts:Array TypeId} {vs:Array Value} {r:Value} {c:Operand} [hf:Fun P f fn] (hS:Stp S0 w0 w) (h:Calls P f vs w (Ret λv w'=>v=r/\Stp [] w w')) (k:∀ w',Stp [] w w'->Stp S0 w0 w'->WD P n ops S Lt Q ord ((d,r) :: e) w')
 (hi:ops[i]?=some ⟨some d,.call { callee:=.value c,args:=xs,argTypes:=ts },ty,pos,af,gd⟩:=by exact rfl) (hg:JS ops e gd:=by first|exact trivial|exact rfl)
 (hc:ev e c=some (.func (.func f) #[] #[]):=by exact rfl) (hv:∀ a,Has n e a->xs.map a.eval=vs:=by first|exact ZN rfl|exact Zj rfl rfl|exact ZQ rfl rfl rfl|exact Z7a rfl rfl rfl rfl|exact Z8A) (hd:Nat.blt d n=true:=by exact rfl) :
 WD P n ops S Lt Q ((i,2) :: ord) e w:=
 Z7 hi hg (Z4 hc hv h) (λ_ _ h=>h.2.mn) hd (by rintro _ w' ⟨rfl,hT⟩;exact k w' hT (hS.trans hT.mn))
variable {P:Program} {n:Nat} {Q:Exit->Act->World->Prop} {e:Env} {w w0:World} {rest:List Oper} {ops:Array Oper} {ty:TypeId} {pos:String} {af:Array Edge} {d:Option Nat} {g:Option (Nat×Bool)}
end Go.Eng
namespace Go.Proofs.YteibicnbkggiiaaGreatDoor
open Go Go.Eng Go.RowKit
def orL (l:List Int):Int:=(l.find? (λx=>decide (x≠0))).getD 0
theorem Zks {l:List Int} {k:Nat} (hk:k<l.length) (h:∀ j (h:j<l.length),j<k->l[j]=0) (h0:l[k]≠0):orL l=l[k]:=by
 have:l.find? (λx=>decide (x≠0))=some l[k]:=by
  rw [List.find?_eq_some_iff_getElem];exact ⟨by simpa using h0,k,hk,rfl,λj hj=>by simp [h j (by omega) hj]⟩
 rw [orL,this];rfl
theorem ZdW {l:List Int} (h:∀ j (h:j<l.length),l[j]=0):orL l=0:=by
 have:l.find? (λx=>decide (x≠0))=none:=by
  rw [YaM];intro x hx;obtain ⟨j,hj,rfl⟩:=Xv hx;simp [h j hj]
 rw [orL,this];rfl
def Z6M (l:List Spn):Int:=if 64<l.length then 2 else if l.any (λs=>decide (s.1<0\/s.2<s.1\/3652058<s.2)) then 5 else 0
theorem Z6N (v:Value) (l:List Spn) (w) (hs:SlV [] w v l):CC 31 #[v] w λr w'=>r=.I (Z6M l)/\Stp [] w w':=by
 have aW:=hs.max;unfold Z6M;refine cW1 33 Tryz.func31 ?_;by_cases jG:64<l.length;rw [if_pos jG];refine RT ?_;exact ⟨rfl,Stp.refl _ _⟩;rw [if_neg jG];refine QO ?_;refine LP (σ:=Nat) (λk=>[(0,v),(9,.I l.length),(10,.I k)]) (λk w'=>k<=l.length/\Stp [] w w'/\∀ j (h:j<l.length),j<k->¬ (l[j].1<0\/l[j].2<l[j].1\/3652058<l[j].2)) (λk=>l.length - k) 0 ⟨by omega,Stp.refl _ _,by omega⟩ ?_;rintro k w2 ⟨hk,hS,hz⟩;have aJ:=hs.up hS;by_cases hlt:k<l.length
 . refine QO ?_
   refine Z1 Z9 rfl ?_;rintro _ w4 ⟨b4,rfl,bA,e4,aq⟩;refine SA (us:=Z8.enc l[k]) e4 ?_;rintro _ w5 ⟨aA,e4⟩;replace hS:=hS.trans (aq.ow aA);clear aq aA;repeat'(first|refine W1 ?_|omega|refine VG ?_ ?_<;>intro hg|refine VC ?_ ?_<;>intro hc)
   all_goals first
    | exact QL (k + 1) ⟨hlt, hS, λj h hj => by
       by_cases e:j=k;subst e;omega;exact hz j h (by omega)⟩ (by omega)
    | refine WR ?_
      rw [if_pos (Yag.2 ⟨l[k],Xb hlt,by simp only [decide_eq_true_eq];omega⟩)];exact .mk ⟨rfl,hS⟩
 refine QO ?_;refine WR ?_;rw [if_neg];exact .mk ⟨rfl,hS⟩;intro h;obtain ⟨s,h1,h2⟩:=Yag.1 h;obtain ⟨j,hj,rfl⟩:=Xv h1;exact hz j hj (by omega) (by simpa using h2)
end Go.Proofs.YteibicnbkggiiaaGreatDoor
namespace Go.Eng
open Go Go.RowKit Go.Proofs
def Z0N (ds:List Deferred) (a:Act):Act:={ a with defers:=a.defers++ds }
def Z7O (ds:List Deferred) (Q:Exit->Act->World->Prop):Exit->Act->World->Prop:=λx a w=>Q x (Z0N ds a) w
theorem Z0O (ds:List Deferred) (a:Act) (d:Option Nat) (v:Value):Z0N ds (a.put d v)=(Z0N ds a).put d v:=by cases d<;>rfl
theorem Z3L (ds:List Deferred) (a:Act):(Z0N ds a).eval=a.eval:=by funext x;cases x<;>rfl
theorem Z2e {ds:List Deferred} {Q:Exit->Act->World->Prop} (h:LetsOut (Z7O ds Q)):LetsOut Q:=let ⟨a,w,h⟩:=h;⟨_,w,h⟩
theorem Z7P {P:Program} {ds:List Deferred} {Q:Exit->Act->World->Prop} {o:Oper} {a:Act} {w} {K K':Act->World->Prop} (hK:∀ a w,K' a w->K (Z0N ds a) w) (h:o.wp P a w K' (Z7O ds Q)):o.wp P (Z0N ds a) w K Q:=by
 unfold Oper.wp at *;rw [Z3L];generalize (execOp a.eval o).run P w=r at *;cases r with
 | ok x w'=>
   cases x<;>simp only [Oper.upon] at h ⊢
   case value v=>have:=hK _ _ h;rw [Z0O] at this;exact this
   case skip=>have:=hK _ _ h;rw [Z0O] at this;exact this
   case defer d=>have:=hK _ _ h;rw [Z0O] at this;exact this
   case enter f args=>
    refine Calls.mono h λe w'' he=>?_;cases e with
    | returned v=>have:=hK _ _ he;rw [Z0O] at this;exact this
    | panicked c=>exact he
    | outgrown=>exact Z2e he
   case row row args=>exact Rows.mono h λv w'' he=>by have:=hK _ _ he;rw [Z0O] at this;exact this
 | halt x w'=>cases x<;>simp only [Oper.upon] at h ⊢;exact h
theorem Z7Q {P:Program} {ds:List Deferred} {o:Oper} {a:Act} {w} (h:o.asks P a w):o.asks P (Z0N ds a) w:=by
 unfold Oper.asks at *;rw [Z3L];exact h
theorem Z2X {P:Program} {ds:List Deferred} {Q:Exit->Act->World->Prop} {ops:Array Oper}:∀ (l:List Oper) (a:Act) (w),wpList P ops (Z7O ds Q) l a w->wpList P ops Q l (Z0N ds a) w
 | [],a,w,h=>h
 | o :: rest, a, w, h => by
   unfold wpList at *;split at h;rename_i hw;rw [if_pos (show Region.wanted o (yielded ops (Z0N ds a).tmps)=true from hw)];rcases h with h|⟨h1,h2⟩
   exact .inl (Z7P (λa w h=>Z2X rest a w h) h);exact .inr ⟨Z7Q h1,Z2e h2⟩;rename_i hw;rw [if_neg (show ¬ Region.wanted o (yielded ops (Z0N ds a).tmps)=true from hw)];rw [<- Z0O];exact Z2X rest _ w h
theorem ZdX {P:Program} {ds:List Deferred} {Q:Exit->Act->World->Prop} {ops:Array Oper} {i:Nat} {a:Act} {w} {K K':Act->World->Prop} (hK:∀ a w,K' a w->K (Z0N ds a) w) (h:wpOp P ops (Z7O ds Q) i K' a w):wpOp P ops Q i K (Z0N ds a) w:=by
 unfold wpOp at *;cases ho:ops[i]? with
 | none=>simp only [ho] at h ⊢;exact hK _ _ h
 | some o=>
   simp only [ho] at h ⊢;split at h;rename_i hw;rw [if_pos (show Region.wanted o (yielded ops (Z0N ds a).tmps)=true from hw)];rcases h with h|⟨h1,h2⟩
   exact .inl (Z7P hK h);exact .inr ⟨Z7Q h1,Z2e h2⟩;rename_i hw;rw [if_neg (show ¬ Region.wanted o (yielded ops (Z0N ds a).tmps)=true from hw)];rw [<- Z0O];exact hK _ _ h
theorem Z66 {P:Program} {ds:List Deferred} {Q:Exit->Act->World->Prop} {ops:Array Oper} {md:Region.Mode}:∀ (fuel:Nat) (listed:Array Bool) (a:Act) (w),wpAny P md ops (Z7O ds Q) fuel listed a w->wpAny P md ops Q fuel listed (Z0N ds a) w
 | 0,_,_,_,h=>h
 | fuel+1,_,_,_,h=>⟨h.1,λi hi=>ZdX (λa w h=>Z66 fuel _ a w h) (h.2 i hi)⟩
structure WCD (ds:List Deferred) (P:Program) (n:Nat) (c:Code) (Q:Exit->Act->World->Prop) (e:Env) (w):Prop where
 h:∀ a,Has n e a->c.wp P Q (Z0N ds a) w
section rules
variable {P:Program} {n:Nat} {ds:List Deferred} {Q:Exit->Act->World->Prop} {e:Env} {w}
theorem HasD.ev {a:Act} (ha:Has n e a) {x:Operand} {v:Value} (hx:ev e x=some v):(Z0N ds a).eval x=v:=by rw [Z3L];exact ha.ev hx
end rules
variable {P:Program} {n:Nat} {Q:Exit->Act->World->Prop} {e:Env} {w w0:World} {rest:List Oper} {ops:Array Oper} {ty ty':TypeId} {pos pos':String} {af af':Array Edge}
theorem Z5.slv1 {α:Type} [Z3 α] {X:List Nat} {T:Nat} {cs:List Value} {v:Value} {w':World} {y:α} (h:Z5 w T 1 cs v w') (hX:∀ b∈X,b<w.heap.size) (hr:Z3.rep X w y cs):SlV X w' v [y]:=by
 obtain ⟨b,rfl,hb,hk,hT⟩:=h;refine ⟨some ⟨b,0,none⟩,1,rfl,Xq _,by simp [maxLen],by simp,λi hi=>?_⟩;obtain rfl:i=0:=by simpa using hi
 refine ⟨b,0,cs,rfl,hk.lt,λcJ=>by have:=hX b cJ;omega,Z3.ext hr hT (by simp) (λc hc=>.inl hc),λj u hu=>?_⟩;simpa using hk.cell hu
theorem APG {α:Type} [Z3 α] {X:List Nat} {T t bytes d1 d2 base:Nat} {x y:Operand} {v z0 u:Value} {cs:List Value} {xs:List α} [ht:Und P t (.slice T)] [hk:Siz P T (Z3.k α)] [hb:Byt P T bytes] [hz:Zer P T z0] (z:α) (hr:Row X w base T v xs) (hX:∀ b∈X,b<w.heap.size) (fR:base<=w.heap.size)
 (eu:Z3.rep (ob v++X) w z cs) (hl:(xs.length+1) * bytes<=140737488355328) (eZ:xs.length+1<=maxLen)
 (k:∀ v1 v' w',Row X w' base T v' (xs++[z])->Stp (ob v) w w'->(∀ b∈ob v',b∈ob v\/w.heap.size<=b)->WL P n ops Q rest ((d2,v') :: (d1,v1) :: e) w')
 (hx:ev e x=some v:=by exact rfl) (hy:ZX e [(0,y)]=some [(0,u)]:=by exact rfl) (aO:∀ w:World,(Instr.buildSlice t 1 #[(0,u)]).run P w=.ok (.slice (some ⟨w.heap.size,0,none⟩) 1 1) (w.alloc (.cells cs.toArray T)):=by intro w;kernel_rfl)
 (qc:∀ v1,ev ((d1,v1) :: e) x=some v:=by intro _;exact rfl) (kQ:∀ v1,ev ((d1,v1) :: e) (.tmp d1)=some v1:=by intro _;exact rfl)
 (cn:z0.cells.size=Z3.k α:=by exact rfl) (ba:0<Z3.k α:=by decide) (h1:Nat.blt d1 n=true:=by exact rfl) (h2:Nat.blt d2 n=true:=by exact rfl) :
 WL P n ops Q (⟨some d1,.buildSlice t 1 #[(0,y)],ty,pos,af,none⟩ :: ⟨some d2,.call { callee:=.builtin .append,args:=#[x,.tmp d1],argTypes:=#[t,t] },ty',pos',af',none⟩ :: rest) e w:=by
 refine Z1 (Z0 (l:=[(0,y)]) (vs:=[(0,u)]) hy aO) h1 ?_;intro v1 w1 hN;have hT:Stp [] w w1:=hN.choose_spec.2.2.2;have aH:SlV (ob v++X) w1 v1 [z]:=hN.slv1 (λb hb=>by
  rcases Xd.1 hb with h|h
  exact (hr.ob_le b h).2;exact hX b h) eu
 refine Z1 (ZI (X:=X) (base:=base) cn ba (qc v1) (kQ v1) (hr.up hT) aH (by simpa using hl) (by simpa using eZ) (Xl fR hT.size)) h2 ?_;rintro v' w2 ⟨g1,g2,g3⟩;exact k v1 v' w2 g1 (hT.mn.trans g2) (λb hb=>(g3 b hb).imp id (Xl hT.size))
end Go.Eng
namespace Go.Proofs.YteibicnbkggiiaaGreatDoor
open Go Go.Eng Go.RowKit
def ZgC {α:Type} [Z8 α] (P:Program) (S:List Nat) (g:Nat) (lb:Array Value) (c:α->α->Int) (w:World):Prop:=
 ∀ (x y:α) (w':World),Stp S w w'->Calls P g (#[agg x,agg y]++lb) w' (Ret λv w''=>v=.I (c x y)/\Stp [] w' w'')
theorem Zav (x:Int) (w):CC 86 #[.I x] w λv w'=>v=.B false/\Stp [] w w':=by
 refine cW1 6 Tryz.func86 ?_;repeat'(first|(apply Z2p;exact rfl;exact rfl)|apply Z3w|(apply Z4o;exact rfl;exact rfl)|(apply Zkf;exact rfl;exact rfl;exact rfl)|(apply ZfZ;exact rfl;exact rfl;exact rfl)|apply Z2O|apply Z0y|apply Z4y|refine Z2n ?_|refine Z0h ?_)
 refine RU ?_;exact ⟨by simp,Stp.refl _ _⟩
def ZdY (x y:Int):Int:=if x<y then -1 else if x > y then 1 else 0
theorem Z7R (x y:Int) (w):CC 49 #[.I x,.I y] w λv w'=>v=.I (ZdY x y)/\Stp [] w w':=by
 refine cW2 20 Tryz.func49 ?_;repeat'(first|(apply Z2p;exact rfl;exact rfl)|apply Z3w|(apply Z4o;exact rfl;exact rfl)|(apply Z8F;exact rfl;exact rfl;exact rfl)|(apply Z8G;exact rfl;exact rfl;exact rfl)|apply Z2O|apply Z0y|apply Z4l|apply Z4y|(apply Z0s;exact rfl)|(apply Z0a;exact rfl)|refine Z2n ?_|refine Z0h ?_)
 refine CL (Zav _ _) ?_;rintro _ w1 ⟨rfl,hS⟩;repeat'(first|(apply Z2p;exact rfl;exact rfl)|apply Z3w|(apply Z4o;exact rfl;exact rfl)|(apply Z8F;exact rfl;exact rfl;exact rfl)|(apply Z8G;exact rfl;exact rfl;exact rfl)|apply Z2O|apply Z0y|apply Z4l|apply Z4y|(apply Z0s;exact rfl)|(apply Z0a;exact rfl)|refine Z2n ?_|refine Z0h ?_)
 refine CL (Zav _ _) ?_;rintro _ w2 ⟨rfl,ak⟩;replace hS:=hS.trans ak;repeat'(first|(apply Z2p;exact rfl;exact rfl)|apply Z3w|(apply Z4o;exact rfl;exact rfl)|(apply Z8F;exact rfl;exact rfl;exact rfl)|(apply Z8G;exact rfl;exact rfl;exact rfl)|apply Z2O|apply Z0y|apply Z4l|apply Z4y|(apply Z0s;exact rfl)|(apply Z0a;exact rfl)|refine Z2n ?_|refine Z0h ?_|refine Z4m rfl (λhc=>?_) (λhc=>?_)|refine Z78 rfl (λhc=>?_) (λhc=>?_))
 all_goals (refine WR ?_)
 all_goals exact .mk ⟨by unfold ZdY;(first|(simp_all;done)|(rw [if_neg (by omega),if_neg (by omega)])),hS⟩
def put {α:Type} (pre rest:List α) (x:α) (j:Nat):List α:=pre.take j++x :: pre.drop j++rest
theorem ZdZ {α:Type} {pre rest:List α} {x:α} {j:Nat} (hj:j<pre.length):((put pre rest x (j+1)).set (j+1) pre[j]).set j x=put pre rest x j:=by
 have h1:pre.take (j+1)=pre.take j++[pre[j]]:=Xw hj;have h2:pre.drop j=pre[j] :: pre.drop (j+1):=XI hj;have hl:(pre.take j).length=j:=by simp;omega
 unfold put;rw [h1,h2];simp only [XM,XU,XH];rw [Ybm,if_neg (by omega),hl,show j+1 - j=1 by omega];rw [Ybm,if_neg (by omega),hl,Nat.sub_self];rfl
theorem Zkt {α:Type} {pre rest:List α} {x:α} {j:Nat} (hj:j<=pre.length) (h:j<(put pre rest x j).length):(put pre rest x j)[j]=x:=by
 rw [List.getElem_eq_iff];unfold put;rw [Yao (by simp;omega),List.getElem?_append_right (by simp;omega)];simp [Yan hj]
theorem Z9l {α:Type} {pre rest:List α} {x:α} {j:Nat} (hj:j<pre.length) (h:j<(put pre rest x (j+1)).length):(put pre rest x (j+1))[j]=pre[j]:=by
 rw [List.getElem_eq_iff];unfold put;rw [Yao (by simp;omega),Yao (by simp;omega)];simp [hj]
theorem Z6O {α:Type} {pre rest:List α} {x:α} {j:Nat}:(put pre rest x j).length=pre.length+1+rest.length:=by
 have:=congrArg List.length (XY j pre);simp only [Xf] at this;simp only [put,Xf,Xh];omega
def Z67 {α:Type} (c:α->α->Int) (xs ys:List α):Prop:=ys.Perm xs/\ys.Pairwise (λa b=>¬ c b a<0)
structure Ord {α:Type} (c:α->α->Int):Prop where
 asym:∀ a b,c a b<0->¬ c b a<0
 trans:∀ a b d,¬ c b a<0->¬ c d b<0->¬ c d a<0
theorem Z9m {α:Type} {c:α->α->Int} (ho:Ord c) {pre:List α} {x:α} {j:Nat} (hj:j<=pre.length) (hp:pre.Pairwise (λa b=>¬ c b a<0))
 (h1:∀ q (h:q<pre.length),j<=q->c x pre[q]<0) (h2:∀ h:j - 1<pre.length,0<j->¬ c x pre[j - 1]<0):(pre.take j++x :: pre.drop j).Pairwise (λa b=>¬ c b a<0):=by
 rw [Ya3];have hd:∀ a∈pre.drop j,c x a<0:=by
  intro a ha;obtain ⟨m,hm,rfl⟩:=Xv ha;simp only [List.getElem_drop];simp at hm;exact h1 _ _ (by omega)
 have ht:∀ a∈pre.take j,¬ c x a<0:=by
  intro a ha;obtain ⟨m,hm,rfl⟩:=Xv ha;simp only [XA] at hm;simp only [List.getElem_take];by_cases e:m=j - 1;subst e;exact h2 (by omega) (by omega);exact ho.trans _ _ _ (Yax.1 hp m (j - 1) (by omega) (by omega) (by omega)) (h2 (by omega) (by omega))
 refine ⟨hp.sublist (List.take_sublist _ _),?_,?_⟩;rw [List.pairwise_cons];exact ⟨λa ha=>ho.asym _ _ (hd a ha),hp.sublist (List.drop_sublist _ _)⟩;intro a ha b hb;rcases Xg.1 hb with rfl|hb
 exact ht a ha;exact λh=>by
  have h3:=hd b hb;exact ho.trans a x b (ht a ha) (ho.asym _ _ h3) h
theorem Z3g (x y:Int):ZdY x y<0↔x<y:=by unfold ZdY;split<;>(try split)<;>omega
def Z13 (y:Nat):Nat:=
 let a:=y % 19
 let b:=y / 100
 let c:=y % 100
 let g:=(b - (b+8) / 25+1) / 3
 let h:=(19 * a+b - b / 4 - g+15) % 30
 let l:=(32+2 * (b % 4)+2 * (c / 4) - h - c % 4) % 7
 h+l+114 - 7 * ((a+11 * h+22 * l) / 451)
def ZnP (y:Nat):Nat:=(11 * (y % 19+1)+20+((8 * (y / 100+1)+5) / 25 - 5)+60 - (3 * (y / 100+1) / 4 - 12)) % 30
def ZnQ (e g:Nat):Nat:=bif Nat.beq e 24 || (Nat.beq e 25 && Nat.blt 11 g) then e+1 else e
def ZnR (e d:Nat):Nat:=let n:=(bif Nat.blt (44 - e) 21 then 44 - e+30 else 44 - e);n+7 - (d+n) % 7
def Ze0 (y:Nat):Nat:=ZnR (ZnQ (ZnP y) (y % 19+1)) (5 * y / 4 - (3 * (y / 100+1) / 4 - 12) - 10)
def Zaw (y:Nat):Bool:=Nat.beq (Z13 y) (Ze0 y+92) && (Nat.ble 114 (Z13 y) && Nat.ble (Z13 y) 148)
def Zbq:Nat->Nat->Bool
 | 0,lo=>Zaw lo
 | k+1,lo=>Zbq k lo && Zbq k (lo+2 ^ k)
theorem Z2y:∀ (k lo d:Nat),Zbq k lo=true->lo<=d->d<lo+2 ^ k->Zaw d=true
 | 0, lo, d, h, h1, h2 => by
   have:d=lo:=by simp at h2;omega
   subst this;exact h
 | k + 1, lo, d, h, h1, h2 => by
   simp only [Zbq,Xa] at h;rcases Ybl d (lo+2 ^ k) with h3|h3
   exact Z2y k lo d h.1 h1 h3;exact Z2y k _ d h.2 h3 (by rw [Nat.pow_succ] at h2;omega)
theorem Zbr:Zbq 13 1583=true:=by kernel_rfl
theorem Zbs:Zbq 8 9775=true:=by kernel_rfl
theorem ZgD {y:Nat} (h1:1583<=y) (h2:y<=9999):Z13 y=Ze0 y+92/\114<=Z13 y/\Z13 y<=148:=by
 have h:Zaw y=true:=by
  rcases Ybl y 9775 with h3|h3
  exact Z2y 13 1583 y Zbr h1 (by omega);exact Z2y 8 9775 y Zbs h3 (by omega)
 unfold Zaw at h;simp only [Xa] at h;exact ⟨Xk h.1,Xe h.2.1,Xe h.2.2⟩
theorem Zbt {y:Nat} (h1:1583<=y) (h2:y<=9999):Z1N (y:Int)=(Z13 y:Int):=by
 unfold Z1N Z13;dsimp only;have e1:(y:Int) % 19=((y % 19:Nat):Int):=by omega
 have e2:(y:Int) / 100=((y / 100:Nat):Int):=by omega
 have e3:(y:Int) % 100=((y % 100:Nat):Int):=by omega
 rw [e1,e2,e3];have ha:y % 19<=18:=by omega
 have hb:15<=y / 100/\y / 100<=99:=by omega
 have hc:y % 100<=99:=by omega
 generalize y % 19=a at *;generalize y / 100=b at *;generalize y % 100=c at *;have e4:((b:Int) - ((b:Int)+8) / 25+1) / 3=(((b - (b+8) / 25+1) / 3:Nat):Int):=by omega
 have hg:(b - (b+8) / 25+1) / 3+b / 4<=b:=by omega
 rw [e4];generalize (b - (b+8) / 25+1) / 3=g at *;have e5:(19 * (a:Int)+(b:Int) - (b:Int) / 4 - (g:Int)+15) % 30=(((19 * a+b - b / 4 - g+15) % 30:Nat):Int):=by omega
 rw [e5];have hh:(19 * a+b - b / 4 - g+15) % 30<=29:=by omega
 generalize (19 * a+b - b / 4 - g+15) % 30=h at *;have e6:(32+2 * ((b:Int) % 4)+2 * ((c:Int) / 4) - (h:Int) - (c:Int) % 4) % 7=(((32+2 * (b % 4)+2 * (c / 4) - h - c % 4) % 7:Nat):Int):=by omega
 rw [e6];have hl:(32+2 * (b % 4)+2 * (c / 4) - h - c % 4) % 7<=6:=by omega
 generalize (32+2 * (b % 4)+2 * (c / 4) - h - c % 4) % 7=l at *;omega
theorem Z49 {y:Int} (h1:1583<=y) (h2:y<=9999):114<=Z1N y/\Z1N y<=148:=by
 obtain ⟨k,rfl⟩:∃ k:Nat,y=(k:Int):=⟨y.toNat,by omega⟩
 have:=ZgD (y:=k) (by omega) (by omega);rw [Zbt (by omega) (by omega)];omega
theorem Z9n (y d:Int):JC y 3 d=JC y 3 1+d - 1/\JC y 4 d=JC y 3 1+31+d - 1:=by
 constructor;rw [show (3:Int)=((2:Nat):Int)+1 by rfl,Z1m y d 2 (by omega),Z1m y 1 2 (by omega)];omega;rw [show (4:Int)=((3:Nat):Int)+1 by rfl,show (3:Int)=((2:Nat):Int)+1 by rfl,Z1m y d 3 (by omega),Z1m y 1 2 (by omega)];have:Z0S y 3=Z0S y 2+31:=by
  have:Z0S y 3=Z0S y 2+ZD y 3:=by simp [Z0S]
  rw [this];rfl
 omega
theorem Z0k (n a b:Int) (w):CC 107 #[.I n,.I a,.I b] w λr w'=>r=.B (decide (a<=n/\n<=b))/\w'=w:=by
 refine cW3 15 Tryz.func107 ?_;by_cases h1:n>=a;by_cases h2:n<=b;rw [decide_eq_true ⟨h1,h2⟩];refine RT ?_;exact ⟨by simp [h2],rfl⟩;rw [decide_eq_false (λh=>h2 h.2)];refine RT ?_;exact ⟨by simp [h2],rfl⟩;rw [decide_eq_false (λh=>h1 h.1)];refine RT ?_;exact ⟨rfl,rfl⟩
theorem Z2f (d:Int) (w) (h0:0<=d) (h1:d<=9000000000):CC 217 #[.I d] w λr w'=>r=.I (d % 7)/\w'=w:=by
 refine cW1 7 Tryz.func217 ?_;refine RT ?_;exact ⟨by congr 1;omega,rfl⟩
theorem Z9o (y:Int) (w):CC 170 #[.I y] w λr w'=>r=.tuple #[.I (if y<1583\/9999<y then 0 else Z3e y),.I (if y<1583\/9999<y then 5 else 0)]/\Stp [] w w':=by
 refine cW1 77 Tryz.func170 ?_;by_cases hy:y<1583\/9999<y
 . rw [if_pos hy,if_pos hy]
   repeat'(first|refine W1 ?_|omega|refine VG ?_ ?_<;>intro hg|refine VC ?_ ?_<;>intro hc)
   all_goals refine WR ?_
   all_goals exact .mk ⟨rfl,Stp.refl _ _⟩
 rw [if_neg hy,if_neg hy];have hb:=Z49 (y:=y) (by omega) (by omega)
 have he:Z1y (Z1N y=(19 * (y % 19)+y / 100 - y / 100 / 4 - (y / 100 - (y / 100+8) / 25+1) / 3+15) % 30 +
  (32+2 * (y / 100 % 4)+2 * (y % 100 / 4) - (19 * (y % 19)+y / 100 - y / 100 / 4 - (y / 100 - (y / 100+8) / 25+1) / 3+15) % 30 - y % 100 % 4) % 7 -
  7 * ((y % 19+11 * ((19 * (y % 19)+y / 100 - y / 100 / 4 - (y / 100 - (y / 100+8) / 25+1) / 3+15) % 30)+22 * ((32+2 * (y / 100 % 4)+2 * (y % 100 / 4) - (19 * (y % 19)+y / 100 - y / 100 / 4 - (y / 100 - (y / 100+8) / 25+1) / 3+15) % 30 - y % 100 % 4) % 7)) / 451)+114):=⟨rfl⟩
 have g1:0<=y % 19/\y % 19<=18:=by omega
 have g2:15<=y / 100/\y / 100<=99:=by omega
 have g3:0<=y % 100/\y % 100<=99:=by omega
 refine QO ?_;have g4:0<=(19 * (y % 19)+y / 100 - y / 100 / 4 - (y / 100 - (y / 100+8) / 25+1) / 3+15) % 30/\(19 * (y % 19)+y / 100 - y / 100 / 4 - (y / 100 - (y / 100+8) / 25+1) / 3+15) % 30<=29:=by omega
 generalize (19 * (y % 19)+y / 100 - y / 100 / 4 - (y / 100 - (y / 100+8) / 25+1) / 3+15) % 30=H at he g4 ⊢;have g5:0<=(32+2 * (y / 100 % 4)+2 * (y % 100 / 4) - H - y % 100 % 4) % 7/\(32+2 * (y / 100 % 4)+2 * (y % 100 / 4) - H - y % 100 % 4) % 7<=6:=by omega
 refine W ?_;generalize (32+2 * (y / 100 % 4)+2 * (y % 100 / 4) - H - y % 100 % 4) % 7=L at he g5 ⊢;rw [<- he.h];refine Za (vs:=[(0,.I y),(1,.I (Z1N y / 31)),(2,.I (Z1N y % 31+1))]) rfl (Z4t _ _ _) rfl ?_;refine Z1 (Z4 rfl (ZN rfl) (Z4W y _ _ _ (by omega) (by omega) (by omega) (by omega) (by omega) (by omega) (by omega))) rfl ?_;rintro _ w1 ⟨rfl,hS⟩;refine RT ?_;exact ⟨rfl,hS⟩
theorem Z1s {y m:Int} (hy:1<=y) (cO:y<=9999) (hm:1<=m) (dk:m<=12):¬ Z0T y m 1/\0<=JC y m 1/\JC y m 1<=3652058/\28<=ZD y m/\ZD y m<=31:=by
 have hl:=Z44 (y:=y) (k:=(m - 1).toNat) (by omega);rw [show (((m - 1).toNat:Int))+1=m by omega] at hl;have np:=Z4U y m;have:=Z1D hy cO hm dk (d:=1) (by omega) (by omega);exact ⟨by unfold Z0T;omega,this.1,this.2,hl,np⟩
theorem Z59 (h:Hol) (y:Int) (w) (hL:Z0o w) (hy:1<=y) (cO:y<=9999) (hm:1<=h.month) (dk:h.month<=12) (hw:0<=h.wd) (gN:h.wd<=6) :
 CC 164 #[agg h,.I y] w λr w'=>r=.tuple #[.I (JC y h.month 1),.I (Z2a y h.month h.wd)]/\Stp [] w w':=by
 obtain ⟨f1,f2,f3,f4,f5⟩:=Z1s hy cO hm dk;refine cW2 26 Tryz.func164 ?_;refine W ?_;refine Z1 (Zp rfl) rfl ?_;rintro _ w1 ⟨b,rfl,hb,ab,hS⟩;replace ab:Blk w1 b 122 (Z8.enc h):=ab;replace hL:=hL.up hS;refine W ?_;refine Za (vs:=[(0,.I y),(1,.I h.month),(2,.I 1)]) rfl (Z4t _ _ _) rfl ?_;refine CL (Z7C y _ _ _ hL) ?_;rintro _ w2 ⟨rfl,hT⟩;rw [if_neg f1,if_neg f1];replace ab:=ab.up hT;replace hS:=hS.trans hT;clear hT;refine W ?_;refine ZDr 12 [] [] [(0,0),(1,0),(2,0),(3,1),(4,0),(5,2),(6,0),(7,0),(8,0),(9,0),(10,0),(11,0)] (λw1 ae=>?_);replace ab:=ab.up ae;replace hS:=hS.trans ae;clear ae;refine D ?_;refine Z7 rfl trivial (Z4 rfl (ZN rfl) (Z2f _ _ f2 (by omega))) (λ_ _ h=>by rw [h.2];exact Stp.refl _ _) rfl ?_;rintro _ w3 ⟨rfl,rfl⟩;refine D ?_;refine W ?_;refine WR ?_;refine .mk ⟨?_,hS⟩;unfold Z2a;rfl
def Z0w (h:Hol) (y:Int):Int×Bool:=
 if h.kind=1 then (if Z0T y h.month h.day then 0 else JC y h.month h.day,!decide (Z0T y h.month h.day))
 else if h.kind=2 then (Z2a y h.month h.wd+7 * (h.nth - 1),decide (Z2a y h.month h.wd+7 * (h.nth - 1)<JC y h.month 1+ZD y h.month))
 else if h.kind=3 then (Z2a y h.month h.wd+(JC y h.month 1+ZD y h.month - 1 - Z2a y h.month h.wd) / 7 * 7,true)
 else ((if y<1583\/9999<y then 0 else Z3e y)+h.off,!decide (y<1583\/9999<y))
theorem Zku {h:Hol} {y:Int} (h1:h.first<=y) (h2:y<=h.last):ZgB h y=if (Z0w h y).2=true then some (Z0w h y).1 else none:=by
 unfold ZgB Z0w;rw [if_neg (by omega)];by_cases k1:h.kind=1;rw [if_pos k1,if_pos k1];by_cases hb:Z0T y h.month h.day;simp [hb];simp [hb];rw [if_neg k1,if_neg k1];by_cases k2:h.kind=2;rw [if_pos k2,if_pos k2];simp;rw [if_neg k2,if_neg k2];by_cases k3:h.kind=3;rw [if_pos k3,if_pos k3];rfl;rw [if_neg k3,if_neg k3];by_cases hy:y<1583\/9999<y;simp [hy];simp [hy]
abbrev Z7S (h:Hol) (y:Int):Value:=.tuple #[.I (Z0w h y).1,.B (Z0w h y).2]
theorem Z4a {y:Int} (h1:1583<=y) (h2:y<=9999):1000<=Z3e y/\Z3e y<=3652058:=by
 have hb:=Z49 h1 h2;have e3:ZD y 3=31:=rfl;have e4:ZD y 4=30:=rfl;have hs:=Z24 h1;have cR:500000<=JY 1583:=by decide
 have kC:=Z9n y (Z1N y % 31+1);have rH:JC y 3 1=JY y+Z0S y 2:=by
  have:=Z1m y 1 2 (by omega);rw [show ((2:Nat):Int)+1=3 by rfl] at this;omega
 have hc:0<=Z0S y 2:=by
  have:=Z2t (y:=y) (Xo 2) (by omega);simpa [Z0S] using this
 unfold Z3e;have hm:Z1N y / 31=3\/Z1N y / 31=4:=by omega
 rcases hm with hm|hm
 rw [hm];exact ⟨by omega,(Z1D (by omega) h2 (by omega) (by omega) (by omega) (by omega)).2⟩;rw [hm];exact ⟨by omega,(Z1D (by omega) h2 (by omega) (by omega) (by omega) (by omega)).2⟩
theorem Z1E {y m wd:Int} (hy:1<=y) (cO:y<=9999) (hm:1<=m) (dk:m<=12):JC y m 1<=Z2a y m wd/\Z2a y m wd<=JC y m 1+6:=by
 unfold Z2a;omega
theorem Z9p {h:Hol} {y:Int} (ho:Z2c h) (h1:h.first<=y) (h2:y<=h.last) (hp:(Z0w h y).2=true):0<=(Z0w h y).1/\(Z0w h y).1<=3653000:=by
 have hy:=ho.f1;have cO:=ho.l1;have bj:=ho.k1;have dG:=ho.k2;unfold Z0w at hp ⊢;by_cases k1:h.kind=1;rw [if_pos k1] at hp ⊢;obtain ⟨m1,m2⟩:=ho.month (by omega);by_cases hb:Z0T y h.month h.day;simp [hb] at hp;dsimp only;rw [if_neg hb];unfold Z0T at hb;have:=Z1D (y:=y) (m:=h.month) (d:=h.day) (by omega) (by omega) (by omega) (by omega) (by omega) (by omega);omega;rw [if_neg k1] at hp ⊢;by_cases k2:h.kind=2;rw [if_pos k2] at hp ⊢;obtain ⟨m1,m2⟩:=ho.month (by omega);obtain ⟨n1,n2⟩:=ho.nth k2;obtain ⟨f1,f2,f3,f4,f5⟩:=Z1s (y:=y) (by omega) (by omega) m1 m2;obtain ⟨f6,f7⟩:=Z1E (y:=y) (wd:=h.wd) (by omega) (by omega) m1 m2;dsimp only;omega;rw [if_neg k2] at hp ⊢;by_cases k3:h.kind=3;rw [if_pos k3] at hp ⊢;obtain ⟨m1,m2⟩:=ho.month (by omega);obtain ⟨f1,f2,f3,f4,f5⟩:=Z1s (y:=y) (by omega) (by omega) m1 m2;obtain ⟨f6,f7⟩:=Z1E (y:=y) (wd:=h.wd) (by omega) (by omega) m1 m2;dsimp only;omega;rw [if_neg k3] at hp ⊢;obtain ⟨o1,o2⟩:=ho.off (by omega);by_cases hy:y<1583\/9999<y;simp [hy] at hp;dsimp only;rw [if_neg hy];have:=Z4a (y:=y) (by omega) (by omega);omega
theorem Zbu (h:Hol) (y:Int) (w) (hL:Z0o w) (hk:h.kind=1) :
 CC 160 #[agg h,.I y] w λr w'=>r=Z7S h y/\Stp [] w w':=by
 have e:Z0w h y=(if Z0T y h.month h.day then 0 else JC y h.month h.day,!decide (Z0T y h.month h.day)):=by unfold Z0w;rw [if_pos hk]
 unfold Z7S;rw [e];refine cW2 21 Tryz.func160 ?_;refine W ?_;refine Z1 (Zp rfl) rfl ?_;rintro _ w1 ⟨b,rfl,hb,ab,hS⟩;replace ab:Blk w1 b 122 (Z8.enc h):=ab;replace hL:=hL.up hS;refine W ?_;refine Za (vs:=[(0,.I y),(1,.I h.month),(2,.I h.day)]) rfl (Z4t _ _ _) rfl ?_;refine CL (Z7C y _ _ _ hL) ?_;rintro _ w2 ⟨rfl,hT⟩;refine W ?_;refine WR ?_;refine .mk ⟨?_,hS.trans hT⟩;by_cases hb:Z0T y h.month h.day<;>simp [hb]
theorem Zbv (h:Hol) (y:Int) (w) (hL:Z0o w) (hy:1<=y) (cO:y<=9999) (hk:h.kind=2) (ho:Z2c h) :
 CC 163 #[agg h,.I y] w λr w'=>r=Z7S h y/\Stp [] w w':=by
 have e:Z0w h y=(Z2a y h.month h.wd+7 * (h.nth - 1),decide (Z2a y h.month h.wd+7 * (h.nth - 1)<JC y h.month 1+ZD y h.month)):=by unfold Z0w;rw [if_neg (by omega),if_pos hk]
 obtain ⟨m1,m2⟩:=ho.month (by omega);obtain ⟨d1,d2⟩:=ho.wd (.inl hk);obtain ⟨n1,n2⟩:=ho.nth hk;obtain ⟨f1,f2,f3,f4,f5⟩:=Z1s hy cO m1 m2;obtain ⟨f6,f7⟩:=Z1E (wd:=h.wd) hy cO m1 m2;unfold Z7S;rw [e];refine cW2 29 Tryz.func163 ?_;refine W ?_;refine Z1 (Zp rfl) rfl ?_;rintro _ w1 ⟨b,rfl,hb,ab,hS⟩;replace ab:Blk w1 b 122 (Z8.enc h):=ab;replace hL:=hL.up hS;refine W ?_;refine CL (Z59 h y _ hL hy cO m1 m2 d1 d2) ?_;rintro _ w2 ⟨rfl,hT⟩;replace ab:=ab.up hT;replace hL:=hL.up hT;replace hS:=hS.trans hT;refine W ?_;refine CM (Zj rfl rfl) (Z2V y _ _ hL (by omega) (by omega)) ?_;rintro _ _ ⟨rfl,rfl⟩;refine RT ?_;exact ⟨rfl,hS⟩
theorem Zbw (h:Hol) (y:Int) (w) (hL:Z0o w) (hy:1<=y) (cO:y<=9999) (hk:h.kind=3) (ho:Z2c h) :
 CC 167 #[agg h,.I y] w λr w'=>r=Z7S h y/\Stp [] w w':=by
 have e:Z0w h y=(Z2a y h.month h.wd+(JC y h.month 1+ZD y h.month - 1 - Z2a y h.month h.wd) / 7 * 7,true):=by unfold Z0w;rw [if_neg (by omega),if_neg (by omega),if_pos hk]
 obtain ⟨m1,m2⟩:=ho.month (by omega);obtain ⟨d1,d2⟩:=ho.wd (.inr hk);obtain ⟨f1,f2,f3,f4,f5⟩:=Z1s hy cO m1 m2;obtain ⟨f6,f7⟩:=Z1E (wd:=h.wd) hy cO m1 m2;unfold Z7S;rw [e];refine cW2 29 Tryz.func167 ?_;refine W ?_;refine Z1 (Zp rfl) rfl ?_;rintro _ w1 ⟨b,rfl,hb,ab,hS⟩;replace ab:Blk w1 b 122 (Z8.enc h):=ab;replace hL:=hL.up hS;refine W ?_;refine CL (Z59 h y _ hL hy cO m1 m2 d1 d2) ?_;rintro _ w2 ⟨rfl,hT⟩;replace ab:=ab.up hT;replace hL:=hL.up hT;replace hS:=hS.trans hT;refine W ?_;refine CM (Zj rfl rfl) (Z2V y _ _ hL (by omega) (by omega)) ?_;rintro _ _ ⟨rfl,rfl⟩;refine RT ?_;exact ⟨rfl,hS⟩
theorem Zbx (h:Hol) (y:Int) (w) (hk:h.kind=4) (ho:Z2c h) :
 CC 169 #[agg h,.I y] w λr w'=>r=Z7S h y/\Stp [] w w':=by
 have e:Z0w h y=((if y<1583\/9999<y then 0 else Z3e y)+h.off,!decide (y<1583\/9999<y)):=by unfold Z0w;rw [if_neg (by omega),if_neg (by omega),if_neg (by omega)]
 obtain ⟨o1,o2⟩:=ho.off hk;have hr:0<=(if y<1583\/9999<y then 0 else Z3e y)/\(if y<1583\/9999<y then 0 else Z3e y)<=3652058:=by
  split;omega;have:=Z4a (y:=y) (by omega) (by omega);omega
 unfold Z7S;rw [e];refine cW2 19 Tryz.func169 ?_;refine W ?_;refine Z1 (Zp rfl) rfl ?_;rintro _ w1 ⟨b,rfl,hb,ab,hS⟩;replace ab:Blk w1 b 122 (Z8.enc h):=ab;refine W ?_;refine CL (Z9o y _) ?_;rintro _ w2 ⟨rfl,hT⟩;replace ab:=ab.up hT;replace hS:=hS.trans hT;refine W ?_;refine WR ?_;refine .mk ⟨?_,hS⟩;by_cases hy:y<1583\/9999<y<;>simp [hy]
theorem Z9q (g:Nat) (fn:Func) [Fun Tryz.prog g fn] (lb:Array Value) (c:Spn->Spn->Int) (ho:Ord c) (X:List Nat) (base:Nat) (v:Value) (xs:List Spn) (w:World) (hX:∀ b∈X,b<base) (aP:base<=w.heap.size) (ac:Row X w base 375 v xs) (hp:ZgC Tryz.prog (ob v) g lb c w) (ai:xs.length<=1000) :
 CC 369 #[v,.I 0,.I xs.length,.func (.func g) #[] lb] w λr w'=>∃ ys,Z67 c xs ys/\Row X w' base 375 v ys/\Stp (ob v) w w':=by
 refine cW4 53 Tryz.func369 ?_;refine W ?_
 refine ZC (σ:=Nat) (λi=>[(0,v),(1,.I 0),(2,.I xs.length),(3,.func (.func g) #[] lb),(8,.I (i+1))])
  (λi w'=>Stp (ob v) w w'/\∃ ys,ys.Perm xs/\Row X w' base 375 v ys/\(ys.take (i+1)).Pairwise (λa b=>¬ c b a<0)) (λi=>xs.length - i) 0 ⟨rfl,rfl,rfl,rfl,rfl,trivial⟩
  ⟨Stp.refl _ _,xs,List.Perm.refl _,ac,?_⟩ ?_
 . cases xs with
   | nil=>simp
   | cons x r=>simp
 rintro i w1 ⟨hS,ys,eL,ac,gz⟩;have dL:=eL.length_eq;by_cases dA:i+1<xs.length
 . repeat'(first|refine W1 ?_|refine VG ?_ ?_<;>intro hg|refine VC ?_ ?_<;>intro hc)
   rotate_left
   omega;obtain ⟨pre,x,rest,kj,rfl⟩:∃ pre x rest,pre.length=i+1/\ys=put pre rest x pre.length:=by
    refine ⟨ys.take (i+1),ys[i+1],ys.drop (i+2),by simp;omega,?_⟩;unfold put;have hl:(ys.take (i+1)).length=i+1:=by simp;omega
    rw [hl,YaD,Nat.min_self,Yat (by omega)]
    conv=>lhs;rw [<- XY (i+1) ys,XI (by omega)]
    simp
   have dm:pre.Pairwise (λa b=>¬ c b a<0):=by
    have:(put pre rest x pre.length).take (i+1)=pre:=by
     unfold put;rw [XG,Yar,XM,<- kj,List.take_left'];rfl
    rwa [this] at gz
   have qd:pre.length+1+rest.length=xs.length:=by rw [<- dL,Z6O]
   have fin:∀ j (w':World),j<=pre.length->Stp (ob v) w w'->Row X w' base 375 v (put pre rest x j)->(∀ q (h:q<pre.length),j<=q->c x pre[q]<0)->(∀ h:j - 1<pre.length,0<j->¬ c x pre[j - 1]<0)->
    Stp (ob v) w w'/\∃ ys,ys.Perm xs/\Row X w' base 375 v ys/\(ys.take (i+1+1)).Pairwise (λa b=>¬ c b a<0):=by
    intro j w' hj hS ac h1 h2;refine ⟨hS,put pre rest x j,?_,ac,?_⟩;refine List.Perm.trans ?_ eL;unfold put;rw [XG,Yar];refine List.Perm.append_right _ ?_;refine List.Perm.trans List.perm_middle ?_;rw [XY];exact (List.perm_append_singleton x pre).symm;have e:(put pre rest x j).take (i+1+1)=pre.take j++x :: pre.drop j:=by
     have hl:(pre.take j++x :: pre.drop j).length=i+1+1:=by
      have:=congrArg List.length (XY j pre);simp only [Xf] at this;simp only [Xf,Xh];omega
     unfold put;rw [<- hl,List.take_left'];rfl
    rw [e];exact Z9m ho hj dm h1 h2
   refine ZC (σ:=Nat) (λj=>[(0,v),(1,.I 0),(2,.I xs.length),(3,.func (.func g) #[] lb),(8,.I (i+1)),(9,.I (j:Int))])
    (λj w'=>j<=pre.length/\Stp (ob v) w w'/\Row X w' base 375 v (put pre rest x j)/\(∀ q (h:q<pre.length),j<=q->c x pre[q]<0)) (λj=>j) (i+1) ⟨rfl,rfl,rfl,rfl,rfl,rfl,trivial⟩
    ⟨by omega,hS,by rw [kj] at ac;exact ac,λq h hq=>by omega⟩ ?_
   clear ac hS;rintro j w2 ⟨hj,hS,ac,hlt⟩;have hs:=ac.slv hX;cases j with
   | zero=>
     refine W ?_;refine ZDr 17 [] [] [(0,0),(1,0),(2,0),(3,0),(4,0),(5,0),(6,0),(7,0),(8,1),(9,0),(10,0),(11,0),(12,0),(13,1),(14,2),(15,0),(16,0)] (λw1 ae=>?_);replace hS:=hS.trans ae.mn;replace ac:=ac.up ae;replace hs:=hs.up ae;refine D ?_;refine W ?_;exact QL (i+1) (fin 0 _ (Xo _) hS ac hlt (λ_ h=>absurd h (Ybh _))) (by omega)
   | succ j=>
     have hz:((j+1:Nat):Int) - 1=(j:Int):=by omega
     have bX:j+1<(put pre rest x (j+1)).length:=by rw [Z6O];omega
     have dy:j<(put pre rest x (j+1)).length:=by rw [Z6O];omega
     have a1:=Zkt (rest:=rest) (x:=x) hj bX;have a0:=Z9l (rest:=rest) (x:=x) (Nat.lt_of_succ_le hj) dy;refine W ?_;refine ZDr 17 [] [] [(0,0),(1,0),(2,0),(3,0),(4,0),(5,0),(6,0),(7,0),(8,1),(9,0),(10,0),(11,0),(12,0),(13,1),(14,2),(15,0),(16,0)] (λw1 ae=>?_);replace hS:=hS.trans ae.mn;replace ac:=ac.up ae;replace hs:=hs.up ae;refine QD ?_;refine Z7 rfl (by first|exact trivial|exact rfl) (Zcg (f:=g) rfl (Zj rfl rfl) rfl (hp _ _ _ hS)) (λ_ _ h=>h.2) rfl ?_;rintro _ w3 ⟨rfl,aq⟩;rw [a1,a0];replace hS:=hS.trans aq.mn;replace ac:=ac.up aq;replace hs:=hs.up aq;refine D ?_
     (refine QP ?_ ?_<;>intro hc)
     rename_i hc;refine ZDr 18 [] [15,17] [(0,0),(1,0),(2,0),(3,0),(4,0),(5,0),(6,0),(7,0),(8,0),(9,1),(10,0),(11,0),(12,0),(13,1),(14,0),(15,2),(16,0),(17,2)] (λw1 ae=>?_);replace hS:=hS.trans ae.mn;replace ac:=ac.up ae;replace hs:=hs.up ae;refine D ?_;rw [a1,a0];refine J2 rfl trivial (Z4G (i:=j+1) (y':=pre[j]) rfl rfl rfl rfl ac hX bX) rfl ?_;rintro _ w4 ⟨ac,aA⟩;replace hS:=hS.trans aA;refine D ?_;refine J2 rfl trivial (Z4G (i:=j) (y':=x) rfl rfl rfl rfl ac hX (by rw [X0];exact dy)) rfl ?_;rintro _ w5 ⟨ac,ay⟩;replace hS:=hS.trans ay;rw [ZdZ (Nat.lt_of_succ_le hj)] at ac;refine D ?_;refine W ?_;refine Jj j ⟨rfl,rfl,rfl,rfl,rfl,(by rw [<- hz];rfl),trivial⟩ ⟨by omega,hS,ac,λq h hq=>?_⟩ (by omega);by_cases e:q=j;subst e;exact hc;exact hlt q h (by omega);exact QL (i+1) (fin (j+1) _ hj hS ac hlt (λ_ _=>by assumption)) (by omega)
 focus repeat'(first|refine W1 ?_|refine VG ?_ ?_<;>intro hg|refine VC ?_ ?_<;>intro hc)
 omega;refine WR ?_;refine .mk ⟨ys,⟨eL,?_⟩,ac,hS⟩
 rwa [XV (by omega)] at gz
theorem ZgE (g:Nat) (fn:Func) [Fun Tryz.prog g fn] (lb:Array Value) (c:Spn->Spn->Int) (ho:Ord c) (X:List Nat) (base:Nat) (v:Value) (xs:List Spn) (w:World) (hX:∀ b∈X,b<base) (aP:base<=w.heap.size) (ac:Row X w base 375 v xs) (hp:ZgC Tryz.prog (ob v) g lb c w) (ai:xs.length<20) :
 CC 366 #[v,.I xs.length,.func (.func g) #[] lb] w λr w'=>∃ ys,Z67 c xs ys/\Row X w' base 375 v ys/\Stp (ob v) w w':=by
 have nl:¬ ((20:Int)<=xs.length):=by omega
 have nl2:¬ ((20:Int)<xs.length):=by omega
 refine cW3 63 Tryz.func366 ?_;refine W ?_;refine ZC (σ:=Unit) (λ_=>[(0,v),(1,.I xs.length),(2,.func (.func g) #[] lb),(6,.I 20),(7,.I 0),(8,.I 20)]) (λ_ w'=>w'=w) (λ_=>0) () ⟨rfl,rfl,rfl,rfl,rfl,rfl,trivial⟩ rfl ?_;rintro _ w' rfl;repeat'(first|refine W1 ?_|refine VG ?_ ?_<;>intro hg|refine VC ?_ ?_<;>intro hc)
 exact absurd (by assumption) nl;refine CM (Z7a rfl rfl rfl rfl) (Z9q g fn lb c ho X base v xs _ hX aP ac hp (by omega)) ?_;rintro r w2 cq;refine W ?_;refine ZC (σ:=Unit) (λ_=>[(1,.I xs.length),(6,.I 20)]) (λ_ w'=>w'=w2) (λ_=>0) () ⟨rfl,rfl,trivial⟩ rfl ?_;rintro _ w' rfl;repeat'(first|refine W1 ?_|refine VG ?_ ?_<;>intro hg|refine VC ?_ ?_<;>intro hc)
 exact absurd (by assumption) nl2;refine WR ?_;exact .mk cq
theorem Z7T (g:Nat) (fn:Func) [Fun Tryz.prog g fn] (lb:Array Value) (c:Spn->Spn->Int) (ho:Ord c) (X:List Nat) (base:Nat) (v:Value) (xs:List Spn) (w:World) (hX:∀ b∈X,b<base) (aP:base<=w.heap.size) (ac:Row X w base 375 v xs) (hp:ZgC Tryz.prog (ob v) g lb c w) (ai:xs.length<20) :
 CC 358 #[v,.func (.func g) #[] lb] w λr w'=>∃ ys,Z67 c xs ys/\Row X w' base 375 v ys/\Stp (ob v) w w':=by
 have hs:=ac.slv hX;refine cW2 9 Tryz.func358 ?_;refine W ?_;refine CL (ZgE g fn lb c ho X base v xs _ hX aP ac hp ai) ?_;rintro r w2 cq;refine W ?_;refine WR ?_;exact .mk cq
def Z7U (x y:Spn):Int:=ZdY x.1 y.1
theorem ZoN:Ord Z7U where
 asym:=λa b=>by unfold Z7U;rw [Z3g,Z3g];omega
 trans:=λa b d=>by unfold Z7U;rw [Z3g,Z3g,Z3g];omega
theorem ZnS (S:List Nat) (w):ZgC Tryz.prog S 359 #[] Z7U w:=by
 intro x y w1 hS;show Calls _ _ #[agg x,agg y] _ _;refine cW2 10 Tryz.func359 ?_;refine W ?_;refine Z1 (Zp rfl) rfl ?_;rintro _ w2 ⟨c,rfl,hc,ab,ak⟩;replace ab:Blk w2 c _ (Z8.enc x):=ab;refine Z1 (Zp rfl) rfl ?_;rintro _ w3 ⟨c2,rfl,bz,aY,aq⟩;replace aY:Blk w3 c2 _ (Z8.enc y):=aY;replace ab:=ab.up aq;replace ak:=ak.trans aq;refine W ?_;refine CL (Z7R _ _ _) ?_;rintro _ w4 ⟨rfl,aA⟩;refine RT ?_;exact ⟨rfl,ak.trans aA⟩
def ofH (y:Int) (h:Hol) (i:Int):List Spn:=match Z11 h y with|some d=>[(d,i)]|none=>[]
def ofK (y:Int):List Hol->Int->List Spn
 | [],_=>[]
 | h :: r,i=>ofH y h i++ofK y r (i+1)
theorem Zax (y:Int):∀ (a b:List Hol) (i:Int),ofK y (a++b) i=ofK y a i++ofK y b (i+a.length)
 | [],b,i=>by simp [ofK]
 | h :: a, b, i => by
   simp only [XU,ofK,Zax y a b (i+1),XM,Xh];congr 3;omega
theorem Zay (y d:Int):∀ (l:List Hol) (i:Int),(∃ r,(d,r)∈ofK y l i)↔∃ h∈l,Z11 h y=some d
 | [],i=>by simp [ofK]
 | h :: l, i => by
   simp only [ofK,Xd,Xg,exists_or,exists_eq_or_imp];have ih:=Zay y d l (i+1);constructor;rintro (⟨r,hr⟩|hr)
   . left
     unfold ofH at hr;cases hk:Z11 h y with
     | none=>rw [hk] at hr;simp at hr
     | some d'=>rw [hk] at hr;simp at hr;rw [hr.1]
   right;exact ih.1 hr;rintro (hk|hk)
   left;exact ⟨i,by unfold ofH;rw [hk];simp⟩
   right;exact ih.2 hk
theorem Z4v (y:Int):∀ (l:List Hol) (i:Int),(ofK y l i).length<=l.length
 | [],i=>by simp [ofK]
 | h :: l, i => by
   have:=Z4v y l (i+1);simp only [ofK,Xf,Xh];unfold ofH;cases Z11 h y<;>simp<;>omega
abbrev fnV (f:Nat):Value:=.func (.func f) #[] #[]
abbrev Z2Y:List Value:=[fnV 159,fnV 160,fnV 162,fnV 163,fnV 166,fnV 167,fnV 168,fnV 169]
theorem Z6P (f g:Nat) (w):(Instr.build 184 #[(0,fnV f),(1,fnV g)]).run Tryz.prog w=.ok (.agg #[fnV f,fnV g]) w:=by kernel_rfl
theorem ZgF (a b c d e f g h:Nat) (w):(Instr.build 185 #[(0,.agg #[fnV a,fnV b]),(1,.agg #[fnV c,fnV d]),(2,.agg #[fnV e,fnV f]),(3,.agg #[fnV g,fnV h])]).run Tryz.prog w=.ok (.agg #[fnV a,fnV b,fnV c,fnV d,fnV e,fnV f,fnV g,fnV h]) w:=by kernel_rfl
theorem Z68 (w):CC 106 #[] w λr w'=>r=.agg Z2Y.toArray/\Stp [] w w':=by
 refine cW0 6 Tryz.func106 ?_;refine W ?_;refine Z1 Z9 rfl ?_;rintro _ w1 ⟨b,rfl,hb,ab,hS⟩;refine W ?_;refine Za (vs:=[(0,fnV 159),(1,fnV 160)]) rfl (Z6P _ _) rfl ?_;refine Za (vs:=[(0,fnV 162),(1,fnV 163)]) rfl (Z6P _ _) rfl ?_;refine Za (vs:=[(0,fnV 166),(1,fnV 167)]) rfl (Z6P _ _) rfl ?_;refine Za (vs:=[(0,fnV 168),(1,fnV 169)]) rfl (Z6P _ _) rfl ?_;refine Za (vs:=[(0,.agg #[fnV 159,fnV 160]),(1,.agg #[fnV 162,fnV 163]),(2,.agg #[fnV 166,fnV 167]),(3,.agg #[fnV 168,fnV 169])]) rfl (ZgF _ _ _ _ _ _ _ _) rfl ?_;refine SB (us:=Z2Y) (by intro u hu;simp [Z2Y] at hu;rcases hu with rfl|rfl|rfl|rfl|rfl|rfl|rfl|rfl<;>rfl) ab ?_;rintro _ w2 ⟨hT,aY⟩;refine W ?_;refine ZP rfl rfl rfl aY rfl ?_;exact .mk ⟨rfl,hS.ow hT⟩
theorem ZgG {m d:Int} (h0:0<=m) (h2:m<=2) (hd:0<=d):Z2d[0+m.toNat * 7+(d % 7).toNat * 1]?=some (Z2b m d - d):=by
 have hm:m=0\/m=1\/m=2:=by omega
 have hw:d % 7=0\/d % 7=1\/d % 7=2\/d % 7=3\/d % 7=4\/d % 7=5\/d % 7=6:=by omega
 unfold Z2b;rcases hm with rfl|rfl|rfl<;>rcases hw with h|h|h|h|h|h|h<;>rw [h]<;>simp [Z2d]<;>omega
theorem Zby (m d:Int):d - 1<=Z2b m d/\Z2b m d<=d+2:=by
 unfold Z2b;repeat' split
 all_goals omega
theorem ZgH (a b:Int) (w):(Instr.build 375 #[(0,.I a),(1,.I b)]).run Tryz.prog w=.ok (agg ((a,b):Spn)) w:=by kernel_rfl
theorem Ze1 (d:Spn) (w):(Instr.buildSlice 372 1 #[(0,agg d)]).run Tryz.prog w=.ok (.slice (some ⟨w.heap.size,0,none⟩) 1 1) (w.alloc (.cells (Z8.enc d).toArray 375)):=by kernel_rfl
theorem ZgI (v:Value) (l:List Hol) (y:Int) (w) (hs:SlV [] w v l) (hL:Z0o w) (hM:Z1T w) (ho:∀ h∈l,Z2c h) (hl:l.length<20) :
 CC 342 #[v,.I y] w λr w'=>∃ ys,Z67 Z7U (ofK y l 0) ys/\J7 375 w w' r ys:=by
 refine cW2 61 Tryz.func342 ?_;refine W ?_;refine CL (Z68 _) ?_;rintro _ w1 ⟨rfl,hS⟩;refine Z1 Z9 rfl ?_;rintro _ w2 ⟨b6,rfl,iH,e6,ak⟩;refine W ?_;refine SB (us:=Z2Y) (by intro u hu;simp [Z2Y] at hu;rcases hu with rfl|rfl|rfl|rfl|rfl|rfl|rfl|rfl<;>rfl) e6 ?_;rintro _ w3 ⟨hT,k6⟩;replace hS:=hS.trans (ak.ow hT);clear e6 ak hT;replace hs:=hs.up hS;replace hL:=hL.up hS;replace hM:=hM.up hS;refine W ?_
 refine ZC (σ:=Nat×Value) (λq=>[(0,v),(1,.I y),(5,q.2),(6,pQ b6),(12,v),(13,.I (l.length:Int)),(14,.I (q.1:Int))])
  (λq w'=>q.1<=l.length/\J7 375 w3 w' q.2 (ofK y (l.take q.1) 0)) (λq=>l.length - q.1) (0,.N) ⟨rfl,rfl,rfl,rfl,rfl,rfl,rfl,trivial⟩ ⟨Xo _,J7.nil⟩ ?_
 rintro ⟨k,ov⟩ w4 ⟨hk,hr⟩;dsimp only at hk hr ⊢;have aA:=hr.2;replace hs:=hs.up aA;replace hL:=hL.up aA;replace hM:=hM.up aA;replace k6:=k6.up aA;by_cases hlt:k<l.length;have ht:l.take (k+1)=l.take k++[l[k]]:=Xw hlt;have nB:ofK y (l.take (k+1)) 0=ofK y (l.take k) 0++ofH y l[k] (k:Int):=by
  rw [ht,Zax];simp only [ofK,XE,XA,Yan hk];simp
 have aF:=ho l[k] (Xb hlt);refine QO ?_;refine Z1 Z9 rfl ?_;rintro _ w5 ⟨b8,rfl,lJ,e8,ay⟩;refine W ?_;refine SA (us:=Z8.enc l[k]) e8 ?_;rintro _ w6 ⟨hT,k8⟩;replace ay:=ay.ow hT;clear e8 hT;replace hr:=hr.up ay;replace hs:=hs.up ay;replace hL:=hL.up ay;replace hM:=hM.up ay;replace k6:=k6.up ay;clear ay;refine W ?_;refine CL (Z0k y l[k].first l[k].last _) ?_;rintro _ w6 ⟨rfl,rfl⟩;have again:∀ (w':World),Z11 l[k] y=none->Stp [] w6 w'->J7 375 w3 w' ov (ofK y (l.take (k+1)) 0):=by
  intro w' hn dv;rw [nB];unfold ofH;rw [hn,XE];exact hr.up dv
 by_cases bB:l[k].first<=y/\y<=l[k].last;rw [decide_eq_true bB];have dP:=Zku bB.1 bB.2;have nC:=aF.f1;have cO:=aF.l1;refine W ?_
 refine JI (σ:=Unit) (λ_=>[(0,v),(1,.I y),(5,ov),(6,pQ b6),(7,.I (k:Int)),(8,pQ b8),(9,.I (Z0w l[k] y).1),(10,.B (Z0w l[k] y).2),(12,v),(13,.I (l.length:Int)),(14,.I (k:Int))])
  (λ_ w'=>Stp [] w6 w') ?_ ?_
 have bC:l[k].kind=1\/l[k].kind=2\/l[k].kind=3\/l[k].kind=4:=by have:=aF.k1;have:=aF.k2;omega
 rcases bC with bC|bC|bC|bC
 refine ZDr 14 [] [] [(0,0),(1,1),(2,0),(3,0),(4,0),(5,1),(6,1),(7,0),(8,2),(9,0),(10,0),(11,0),(12,0),(13,0)] (λw1 ae=>?_);replace k6:=k6.up ae;replace k8:=k8.up ae;replace hL:=hL.up ae;have hz:l[k].kind - 1=((0:Nat):Int):=by omega
 refine D ?_;refine Z0V rfl (Z0c (len:=4) (i:=0) trivial rfl rfl hz (by decide) rfl ?_);refine D ?_;refine Z7 rfl trivial (Z4 rfl (Zj rfl rfl) (Zbu _ _ _ hL bC)) (λ_ _ h=>h.2) rfl ?_;rintro _ w7 ⟨rfl,aM⟩;refine D ?_;exact QT () (ae.trans aM);refine ZDr 14 [] [] [(0,0),(1,1),(2,0),(3,0),(4,0),(5,1),(6,1),(7,0),(8,2),(9,0),(10,0),(11,0),(12,0),(13,0)] (λw1 ae=>?_);replace k6:=k6.up ae;replace k8:=k8.up ae;replace hL:=hL.up ae;have hz:l[k].kind - 1=((1:Nat):Int):=by omega
 refine D ?_;refine Z0V rfl (Z0c (len:=4) (i:=1) trivial rfl rfl hz (by decide) rfl ?_);refine D ?_;refine Z7 rfl trivial (Z4 rfl (Zj rfl rfl) (Zbv _ _ _ hL (by omega) (by omega) bC aF)) (λ_ _ h=>h.2) rfl ?_;rintro _ w7 ⟨rfl,aM⟩;refine D ?_;exact QT () (ae.trans aM);refine ZDr 14 [] [] [(0,0),(1,1),(2,0),(3,0),(4,0),(5,1),(6,1),(7,0),(8,2),(9,0),(10,0),(11,0),(12,0),(13,0)] (λw1 ae=>?_);replace k6:=k6.up ae;replace k8:=k8.up ae;replace hL:=hL.up ae;have hz:l[k].kind - 1=((2:Nat):Int):=by omega
 refine D ?_;refine Z0V rfl (Z0c (len:=4) (i:=2) trivial rfl rfl hz (by decide) rfl ?_);refine D ?_;refine Z7 rfl trivial (Z4 rfl (Zj rfl rfl) (Zbw _ _ _ hL (by omega) (by omega) bC aF)) (λ_ _ h=>h.2) rfl ?_;rintro _ w7 ⟨rfl,aM⟩;refine D ?_;exact QT () (ae.trans aM);refine ZDr 14 [] [] [(0,0),(1,1),(2,0),(3,0),(4,0),(5,1),(6,1),(7,0),(8,2),(9,0),(10,0),(11,0),(12,0),(13,0)] (λw1 ae=>?_);replace k6:=k6.up ae;replace k8:=k8.up ae;replace hL:=hL.up ae;have hz:l[k].kind - 1=((3:Nat):Int):=by omega
 refine D ?_;refine Z0V rfl (Z0c (len:=4) (i:=3) trivial rfl rfl hz (by decide) rfl ?_);refine D ?_;refine Z7 rfl trivial (Z4 rfl (Zj rfl rfl) (Zbx _ _ _ bC aF)) (λ_ _ h=>h.2) rfl ?_;rintro _ w7 ⟨rfl,aM⟩;refine D ?_;exact QT () (ae.trans aM)
 . rintro _ w7 aM
   clear k6;replace k8:=k8.up aM;replace hM:=hM.up aM;cases hp:(Z0w l[k] y).2 with
   | false=>
     rw [hp] at dP;refine W ?_;exact QL (k+1,ov) ⟨hlt,again _ (by unfold Z11;rw [dP];rfl) aM⟩ (by dsimp only;omega)
   | true=>
     rw [hp] at dP;obtain ⟨n1,n2⟩:=Z9p aF bB.1 bB.2 hp;have lK:=aF.m1;have lL:=aF.m2;have lM:=ZgG lK lL n1;have nD:=Zby l[k].move (Z0w l[k] y).1;have cI:Z11 l[k] y=if Zw (Z2b l[k].move (Z0w l[k] y).1)=true then some (Z2b l[k].move (Z0w l[k] y).1) else none:=by
      unfold Z11;rw [dP];rfl
     generalize (Z0w l[k] y).1=d at *;refine W ?_;refine ZDr 10 [] [] [(0,0),(1,0),(2,1),(3,0),(5,0),(4,2),(6,0),(7,1),(8,0),(9,0)] (λw1 ae=>?_);replace k8:=k8.up ae;replace hM:=hM.up ae;replace aM:=aM.trans ae;clear ae;refine D ?_;refine Z0V rfl (Z0c (len:=3) (i:=l[k].move.toNat) trivial rfl rfl (by omega) (by omega) rfl ?_);refine D ?_;refine Z7 rfl trivial (Z4 rfl (ZN rfl) (Z2f _ _ n1 (by omega))) (λ_ _ h=>by rw [h.2];exact Stp.refl _ _) rfl ?_;rintro _ w8 ⟨rfl,rfl⟩;refine D ?_;refine Z0V rfl (Z0c (len:=7) (i:=(d % 7).toNat) trivial rfl rfl (by omega) (by omega) rfl ?_);refine D ?_;refine WD_read rfl trivial (λw' aE=>Jo rfl rfl (hM.up aE _ _ lM)) rfl ?_;refine D ?_;have ed:d+(Z2b l[k].move d - d)=Z2b l[k].move d:=by omega
     rw [ed];refine W ?_;refine CL (Z0k (Z2b l[k].move d) 0 3652058 _) ?_;rintro _ _ ⟨rfl,rfl⟩;by_cases h2:0<=Z2b l[k].move d/\Z2b l[k].move d<=3652058;rw [decide_eq_true h2];rw [if_pos (Jt.2 h2)] at cI;have oB:=Z4v y (l.take k) 0;have qe:(l.take k).length<=l.length:=by rw [XA];omega
     replace hr:=hr.up aM;refine W ?_;refine Za (vs:=[(0,.I (Z2b l[k].move d)),(1,.I (k:Int))]) rfl (ZgH _ _) rfl ?_;refine Z1 (Z0 (vs:=[(0,agg ((Z2b l[k].move d,(k:Int)):Spn))]) rfl (Ze1 _)) rfl ?_;rintro bv w9 hN;have dN:=Z5.stp hN;have aH:SlV (ob ov) w9 bv [((Z2b l[k].move d,(k:Int)):Spn)]:=hN.slv (λb hb=>(hr.1.ob_le b hb).2) rfl rfl (by simp [maxLen]);replace hr:=hr.up dN;refine Z1 (Jy rfl (by decide) rfl rfl hr aH (by simp only [Xh,Xj];omega) (by simp only [Xh,Xj,maxLen];omega)) rfl ?_;rintro ov' w10 ⟨ep,cz,qf⟩;refine W ?_;refine QL (k+1,ov') ⟨hlt,?_⟩ (by dsimp only;omega);dsimp only;rw [nB];unfold ofH;rw [cI];exact ep;rw [decide_eq_false h2];rw [if_neg (λh=>h2 (Jt.1 h))] at cI;refine W ?_;exact QL (k+1,ov) ⟨hlt,again _ cI aM⟩ (by dsimp only;omega)
 rw [decide_eq_false bB];refine W ?_;exact QL (k+1,ov) ⟨hlt,again _ (by unfold Z11 ZgB;rw [if_pos (by omega)];rfl) (Stp.refl _ _)⟩ (by dsimp only;omega);have dG:k=l.length:=by omega
 subst dG;rw [XG] at hr;have ai:=Z4v y l 0;refine QO ?_;refine CM (Zj rfl rfl) (Z7T 359 _ #[] Z7U ZoN [] w3.heap.size ov _ _ (by simp) hr.2.size hr.1 (ZnS _ _) (by omega)) ?_;rintro _ w7 ⟨ys,dl,jH,aM⟩;refine RT ?_;exact ⟨ys,dl,jH.lower hS.size,(hS.trans hr.2).own aM (λc hc=>.inr (Xl hS.size (hr.1.ob_le c hc).1))⟩
end Go.Proofs.YteibicnbkggiiaaGreatDoor
namespace Go.Eng
open Go Go.RowKit Go.Proofs
variable {P:Program} {n:Nat} {Q:Exit->Act->World->Prop} {e:Env} {w:World}
theorem Z3h {i:Nat} {A B:Exit->Act->World->Prop} (h:∀ ex a w,A ex a w->B ex a w):∀ ex a w,Exit.inBlock i A ex a w->Exit.inBlock i B ex a w:=by
 intro ex a w hq;cases ex with
 | exit j=>
   simp only [Exit.inBlock] at hq ⊢;split;rename_i hj;rw [if_pos hj] at hq;exact h _ _ _ hq;rename_i hj;rw [if_neg hj] at hq;exact h _ _ _ hq
 | normal=>exact h _ _ _ hq
 | ret=>exact h _ _ _ hq
 | goto t=>exact h _ _ _ hq
 | panic c=>exact h _ _ _ hq
 | outgrown=>exact h _ _ _ hq
theorem Ze2 {x y:Code} {σ:Type} {i j:Nat} (env:σ->Env) (I:σ->World->Prop)
 (h:WC P n x (Exit.inBlock i (Exit.inBlock j (Exit.then (λa w=>∃ s,Has n (env s) a/\I s w) Q))) e w) (k:∀ s w,I s w->WC P n y Q (env s) w):WC P n x (Exit.inBlock i (Exit.inBlock j (Exit.then (λa w=>y.wp P Q a w) Q))) e w:=
 ⟨λa ha => wp_mono (h.h a ha) (Z3h (Z3h (λex a w hq => by
   cases ex with
   | normal=>obtain ⟨s,h1,h2⟩:=hq;exact (k s w h2).h a h1
   | _=>exact hq)))⟩
end Go.Eng
namespace Go.Proofs.YteibicnbkggiiaaGreatDoor
open Go Go.Eng Go.RowKit
def inR (a b:Int) (zs:List Int):List Int:=zs.filter λd=>decide (a<=d/\d<=b)
theorem ZgJ (a b:Int) (x y:List Int):inR a b (x++y)=inR a b x++inR a b y:=by unfold inR;rw [List.filter_append]
theorem Ze3 {y:Int} {l:List Hol} {ys:List Spn} (h:Z67 Z7U (ofK y l 0) ys) (d:Int):d∈ys.map Prod.fst↔∃ h∈l,Z11 h y=some d:=by
 rw [<- Zay y d l 0,XO];constructor;rintro ⟨⟨a,r⟩,h1,rfl⟩;exact ⟨r,h.1.mem_iff.1 h1⟩;rintro ⟨r,hr⟩;exact ⟨(d,r),h.1.mem_iff.2 hr,rfl⟩
theorem Ze4 {y:Int} {l:List Hol} {ys:List Spn} (h:Z67 Z7U (ofK y l 0) ys):ys.length<=l.length:=by
 rw [h.1.length_eq];exact Z4v y l 0
theorem Z7V (v:Value) (l:List Hol) (a b:Int) (w) (hs:SlV [] w v l) (hL:Z0o w) (hM:Z1T w) (ho:∀ h∈l,Z2c h) (hl:l.length<20) (ha:0<=a) (bE:a<=b) (hb:b<=3652058) (rI:(ofM a).y<=(ofM b).y) :
 CC 329 #[v,.I a,.I b] w λr w'=>∃ zs:List Int,(∀ d,d∈zs↔a<=d/\d<=b/\∃ y,(ofM a).y - 1<=y/\y<=(ofM b).y+1/\∃ h∈l,Z11 h y=some d)/\J7 3 w w' r (Z56 zs):=by
 obtain ⟨ya1,ya2,-⟩:=ZdB ha (by omega);obtain ⟨yb1,yb2,-⟩:=ZdB (n:=b) (by omega) hb;have dz:max a 0=a:=by omega
 have qg:min b 3652058=b:=by omega
 refine cW3 65 Tryz.func329 ?_;refine W ?_;rw [dz,qg];refine QO ?_;refine CM (ZN rfl) (Zap a _ ha (by omega)) ?_;rintro _ w1 ⟨rfl,hS⟩;refine W ?_;refine Z1 Z9 rfl ?_;rintro _ w2 ⟨b7,rfl,nE,e7,ak⟩;refine W ?_;refine SB (us:=[.I (ofM a).y,.I (ofM a).m,.I (ofM a).d]) (by intro u hu;simp at hu;rcases hu with rfl|rfl|rfl<;>rfl) e7 ?_;rintro _ w3 ⟨hT,k7⟩;replace hS:=hS.trans (ak.ow hT);clear e7 ak hT;refine W ?_;refine CM (ZN rfl) (Zap b _ (by omega) hb) ?_;rintro _ w4 ⟨rfl,aA⟩;replace k7:=k7.up aA;replace hS:=hS.trans aA;refine W ?_;refine Z1 Z9 rfl ?_;rintro _ w5 ⟨b9,rfl,qh,e9,ay⟩;have n79:b7≠b9:=by have:=k7.lt;omega
 refine W ?_;refine SB (us:=[.I (ofM b).y,.I (ofM b).m,.I (ofM b).d]) (by intro u hu;simp at hu;rcases hu with rfl|rfl|rfl<;>rfl) e9 ?_;rintro _ w6 ⟨hT,k9⟩;replace ay:=ay.ow hT;replace k7:=k7.up ay;replace hS:=hS.trans ay;clear e9 hT aA ay;replace hs:=hs.up hS;replace hL:=hL.up hS;replace hM:=hM.up hS;refine W ?_
 refine ZC (σ:=Nat×Value×List Int) (λq=>[(0,v),(1,.I a),(2,.I b),(7,pQ b7),(9,pQ b9),(11,q.2.1),(12,.I ((ofM a).y - 1+(q.1:Int)))])
  (λq w'=>(ofM a).y - 1+(q.1:Int)<=(ofM b).y+2/\q.2.2.length<=q.1 * 20/\(∀ d,d∈q.2.2↔a<=d/\d<=b/\∃ y,(ofM a).y - 1<=y/\y<(ofM a).y - 1+(q.1:Int)/\∃ h∈l,Z11 h y=some d)/\J7 3 w6 w' q.2.1 q.2.2)
  (λq=>20000 - q.1) (0,.N,[]) ⟨rfl,rfl,rfl,rfl,rfl,rfl,(by simp [ZR]),trivial⟩ ⟨by dsimp only;omega,Xo _,λd=>by simp;intros;omega,J7.nil⟩ ?_
 rintro ⟨k,ov,zs⟩ w7 ⟨hk,qi,hz,hr⟩;dsimp only at hk qi hz hr ⊢;have aM:=hr.2;replace k7:=k7.up aM;replace k9:=k9.up aM;replace hs:=hs.up aM;replace hL:=hL.up aM;replace hM:=hM.up aM;by_cases hlt:(ofM a).y - 1+(k:Int)<=(ofM b).y+1;refine QO ?_;refine CL (ZgI v l _ _ hs hL hM ho hl) ?_;rintro rv w8 ⟨ys,dl,lN⟩;have dL:=Ze4 dl;have lO:=Ze3 dl;have bI:=lN.2;have bR:=lN.slv (X:=ob ov) (λb hb=>(hr.1.ob_le b hb).2);have lP:=lN.slv (X:=[]) (by simp);replace hr:=hr.up bI;replace k9:=k9.up bI;replace hs:=hs.up bI;replace hL:=hL.up bI;replace hM:=hM.up bI;refine W ?_
 refine Ze2 (σ:=Value×List Int) (λq=>[(0,v),(1,.I a),(2,.I b),(7,pQ b7),(9,pQ b9),(11,q.1),(12,.I ((ofM a).y - 1+(k:Int)))])
  (λq w'=>q.2=zs++inR a b (ys.map Prod.fst)/\J7 3 w6 w' q.1 q.2) ?_ ?_
 refine ZC (σ:=Nat×Value) (λq=>[(0,v),(1,.I a),(2,.I b),(7,pQ b7),(9,pQ b9),(11,q.2),(12,.I ((ofM a).y - 1+(k:Int))),(44,rv),(45,.I (ys.length:Int)),(46,.I (q.1:Int))])
  (λq w'=>q.1<=ys.length/\J7 3 w6 w' q.2 (zs++inR a b ((ys.take q.1).map Prod.fst))/\SlV (ob q.2) w' rv ys) (λq=>ys.length - q.1) (0,ov) ⟨rfl,rfl,rfl,rfl,rfl,rfl,rfl,rfl,rfl,rfl,trivial⟩ ⟨Xo _,by simpa [inR] using hr,bR⟩ ?_
 clear hr bR lP hs hL hM k7 k9;rintro ⟨j,ov'⟩ w9 ⟨hj,hr,bR⟩;dsimp only at hj hr bR ⊢;by_cases fk:j<ys.length;have fa:inR a b ((ys.take (j+1)).map Prod.fst)=inR a b ((ys.take j).map Prod.fst)++inR a b [ys[j].1]:=by
  rw [Xw fk,XR,ZgJ];rfl
 refine QO ?_;refine Z1 Z9 rfl ?_;rintro _ w10 ⟨b14,rfl,qj,e14,cz⟩;refine W ?_;refine SA (us:=Z8.enc ys[j]) e14 ?_;rintro _ w11 ⟨hT,k14⟩;replace cz:=cz.ow hT;clear e14 hT;replace hr:=hr.up cz;replace bR:=bR.up cz;refine W ?_;refine CL (Z0k ys[j].1 a b _) ?_;rintro _ _ ⟨rfl,rfl⟩;by_cases bB:a<=ys[j].1/\ys[j].1<=b;rw [decide_eq_true bB];have ai:(zs++inR a b ((ys.take j).map Prod.fst)).length<=300000:=by
  have h1:(inR a b ((ys.take j).map Prod.fst)).length<=((ys.take j).map Prod.fst).length:=Ya1 _ _;rw [Xf];simp only [X1,XA] at h1;omega
 have e1:inR a b [ys[j].1]=[ys[j].1]:=by unfold inR;simp [bB]
 rw [e1] at fa;refine W ?_;refine Z1 (Z0 (vs:=[(0,.I ys[j].1)]) rfl (Zk _)) rfl ?_;rintro bv w12 hN;have fw:=Z5.stp hN;have aH:SlV (ob ov') w12 bv [ys[j].1]:=hN.slv (λb hb=>(hr.1.ob_le b hb).2) rfl rfl (by simp [maxLen]);replace hr:=hr.up fw;replace bR:=bR.up fw;refine Z1 (Jy rfl (by decide) rfl rfl hr aH (by simp only [Xh,Xj];omega) (by simp only [Xh,Xj,maxLen];omega)) rfl ?_;rintro ov2 w13 ⟨ep,ci,lQ⟩;refine W ?_;refine QL (j+1,ov2) ⟨fk,?_,bR.ext ci (λ_ h=>h) lQ⟩ (by dsimp only;omega);dsimp only;rw [fa,<- XM];exact ep;rw [decide_eq_false bB];have e1:inR a b [ys[j].1]=[]:=by unfold inR;simp only [List.filter_cons,decide_eq_false bB,List.filter_nil];rfl
 rw [e1,XE] at fa;refine W ?_;refine QL (j+1,ov') ⟨fk,?_,bR⟩ (by dsimp only;omega);dsimp only;rw [fa];exact hr;have lR:j=ys.length:=by omega
 subst lR;rw [XG] at hr;refine QO ?_;exact Zc (ov',zs++inR a b (ys.map Prod.fst)) ⟨rfl,rfl,rfl,rfl,rfl,rfl,rfl,trivial⟩ ⟨rfl,hr⟩;rintro ⟨ov',zs'⟩ w9 ⟨iI,hr⟩;dsimp only at iI hr ⊢;subst iI;have e1:(ofM a).y - 1+(k:Int)+1=(ofM a).y - 1+((k+1:Nat):Int):=by omega
 refine W ?_;rw [e1];refine Jj (k+1,ov',zs++inR a b (ys.map Prod.fst)) ⟨rfl,rfl,rfl,rfl,rfl,rfl,rfl,trivial⟩ ⟨by dsimp only;omega,?_,λd=>?_,hr⟩ (by dsimp only;omega);have h1:(inR a b (ys.map Prod.fst)).length<=(ys.map Prod.fst).length:=Ya1 _ _;dsimp only;rw [Xf];simp only [X1] at h1;omega;dsimp only;rw [Xd,hz,inR,YaY,lO];constructor;rintro (⟨p1,p2,y,p3,p4,p5⟩|⟨p5,p6⟩);exact ⟨p1,p2,y,p3,by omega,p5⟩;have p6:=of_decide_eq_true p6;exact ⟨p6.1,p6.2,_,by omega,by omega,p5⟩;rintro ⟨p1,p2,y,p3,p4,p5⟩;by_cases hy:y<(ofM a).y - 1+(k:Int)
 exact .inl ⟨p1,p2,y,p3,hy,p5⟩;obtain rfl:y=(ofM a).y - 1+(k:Int):=by omega
 exact .inr ⟨p5,decide_eq_true ⟨p1,p2⟩⟩;refine QO ?_;refine CM (ZN rfl) (ZdT _ hr.1 (by omega)) ?_;rintro _ w8 ⟨rfl,aN,bI⟩;refine W ?_;refine CM (ZN rfl) (Z7K _ aN (by rw [List.length_mergeSort];omega)) ?_;rintro rv w9 ⟨cu,dN,bp⟩;refine W ?_;refine WR ?_;refine .mk ⟨zs,λd=>?_,cu.lower hS.size,((hS.trans hr.2).own bI (λc hc=>.inr (Xl hS.size (hr.1.ob_le c hc).1))).own dN (λc hc=>.inr (Xl hS.size (hr.1.ob_le c hc).1))⟩;rw [hz];constructor;rintro ⟨p1,p2,y,p3,p4,p5⟩;exact ⟨p1,p2,y,p3,by omega,p5⟩;rintro ⟨p1,p2,y,p3,p4,p5⟩;exact ⟨p1,p2,y,p3,by omega,p5⟩
theorem Z9r {l:List Hol} {d:Int} (h0:0<=d) (h1:d<=3652058) {zs:List Int} (hz:∀ x,x∈zs↔d<=x/\x<=d/\∃ y,(ofM d).y - 1<=y/\y<=(ofM d).y+1/\∃ h∈l,Z11 h y=some x) :
 decide (((Z56 zs).length:Int) > 0)=Z58 l d:=by
 have hm:=(Z9k zs).2;have bB:Zw d=true:=Jt.2 ⟨h0,h1⟩;rw [YaX];unfold Z58;rw [bB,Yah,decide_eq_true_eq,Yag];constructor;intro hl;obtain ⟨x,hx⟩:=List.exists_mem_of_length_pos (l:=Z56 zs) (by omega);obtain ⟨p1,p2,y,p3,p4,h,hh,hk⟩:=(hz x).1 ((hm x).1 hx);obtain rfl:x=d:=by omega
 refine ⟨y,?_,Yag.2 ⟨h,hh,decide_eq_true hk⟩⟩;have:y=(ofM x).y - 1\/y=(ofM x).y\/y=(ofM x).y+1:=by omega
 rcases this with rfl|rfl|rfl<;>simp
 rintro ⟨y,hy,hh⟩;obtain ⟨h,hh,hk⟩:=Yag.1 hh;have cO:(ofM d).y - 1<=y/\y<=(ofM d).y+1:=by simp at hy;omega
 have:d∈Z56 zs:=(hm d).2 ((hz d).2 ⟨YaH _,YaH _,y,cO.1,cO.2,h,hh,of_decide_eq_true hk⟩);have:=List.length_pos_of_mem this;omega
theorem Zkv (v:Value) (l:List Hol) (d:Int) (w) (hs:SlV [] w v l) (hL:Z0o w) (hM:Z1T w) (ho:∀ h∈l,Z2c h) (hl:l.length<20) :
 CC 300 #[v,.I d] w λr w'=>r=.B (Z58 l d)/\Stp [] w w':=by
 refine cW2 15 Tryz.func300 ?_;refine W ?_;refine CL (Z0k d 0 3652058 _) ?_;rintro _ _ ⟨rfl,rfl⟩;by_cases hd:0<=d/\d<=3652058;rw [decide_eq_true hd];refine W ?_;refine CL (Z7V v l d d _ hs hL hM ho hl hd.1 (YaH _) hd.2 (YaH _)) ?_;rintro rv w1 ⟨zs,hz,hr⟩;have pH:=hr.slv (X:=[]) (by simp);refine RT ?_;exact ⟨by rw [Z9r hd.1 hd.2 hz],hr.2⟩;rw [decide_eq_false hd];refine W ?_;refine WR ?_;refine .mk ⟨?_,Stp.refl _ _⟩;have:Zw d=false:=by unfold Zw;exact decide_eq_false hd
 unfold Z58;rw [this];rfl
structure Z5D (w:World) (c:Cal) (hv cv zo zs hr:Value):Prop where
 hols:SlV [] w hv c.hols
 clos:SlV [] w cv c.clos
 len:Z0o w
 mov:Z1T w
 ok:ZhB c
abbrev Z7W (c:Cal) (hv cv zo zs hr:Value):Value:=.agg (Z0M c hv cv zo zs hr).toArray
theorem Z5D.up {w w':World} {c:Cal} {hv cv zo zs hr:Value} (h:Z5D w c hv cv zo zs hr) (hS:Stp [] w w'):Z5D w' c hv cv zo zs hr:=⟨h.hols.up hS,h.clos.up hS,h.len.up hS,h.mov.up hS,h.ok⟩
theorem ZgK (c:Cal) (hv cv zo zs hr:Value) {i:Nat} (hi:i<7):(Z0M c hv cv zo zs hr)[0+i * 1]?=some (.B (c.week.getD i false)):=by
 have:i=0\/i=1\/i=2\/i=3\/i=4\/i=5\/i=6:=by omega
 rcases this with rfl|rfl|rfl|rfl|rfl|rfl|rfl<;>rfl
theorem Z2g (d:Int) (w):CC 71 #[.I d] w λr w'=>r=.B (Zw d)/\w'=w:=by
 refine cW1 9 Tryz.func71 ?_;unfold Zw;by_cases h1:d>=0;by_cases h2:d<=3652058;rw [decide_eq_true ⟨h1,h2⟩];refine RT ?_;exact ⟨by simp [h2],rfl⟩;rw [decide_eq_false (λh=>h2 h.2)];refine RT ?_;exact ⟨by simp [h2],rfl⟩;rw [decide_eq_false (λh=>h1 h.1)];refine RT ?_;exact ⟨rfl,rfl⟩
theorem Zbz (d kn:Int) (bc bk:Nat) (c:Cal) (hv cv zo zs hr:Value) (w) (h:Z5D w c hv cv zo zs hr) (kc:Blk w bc 47 (Z0M c hv cv zo zs hr)) (kk:Blk w bk 3 [.I kn]) (h0:0<=d) (h1:d<=3652058) :
 CC 299 #[.I d,pQ bc,pQ bk] w λr w'=>r=.B (Zau c kn d)/\Stp [] w w':=by
 have nF:(d % 7).toNat<7:=by omega
 have kD:=ZgK c hv cv zo zs hr nF;have bL:=h.clos.max;have qk:=h.clos;refine cW3 40 Tryz.func299 ?_;refine W ?_;refine CM (ZN rfl) (Z2f d _ h0 (by omega)) ?_;rintro _ w ⟨rfl,rfl⟩;refine W ?_;refine Z6r (len:=7) (i:=(d % 7).toNat) rfl rfl (by omega) nF rfl ?_;refine Z7k rfl rfl kc kD rfl ?_;unfold Zau;cases hw:c.week.getD (d % 7).toNat false with
 | true=>
   refine RT ?_;exact ⟨by simp,Stp.refl _ _⟩
 | false=>
   rw [Ybe];refine W ?_;refine Z0b (σ:=Unit) (λ_=>[(0,.I d),(1,pQ bc)]) (λ_ w'=>Z7N c.clos kn d=false/\Stp [] w w') ?_ ?_
   refine ZC (σ:=Nat) (λk=>[(0,.I d),(1,pQ bc),(2,pQ bk),(13,cv),(14,.I (c.clos.length:Int)),(15,.I (k:Int))])
    (λk w'=>k<=c.clos.length/\Z7N (c.clos.take k) kn d=false/\Stp [] w w') (λk=>c.clos.length - k) 0 ⟨rfl,rfl,rfl,rfl,rfl,rfl,trivial⟩ ⟨Xo _,rfl,Stp.refl _ _⟩ ?_
   rintro k w1 ⟨hk,hn,hS⟩;have kk:=kk.up hS;have bD:=h.clos.up hS;by_cases hlt:k<c.clos.length;have ht:Z7N (c.clos.take (k+1)) kn d=(Z7N (c.clos.take k) kn d || decide (c.clos[k].known<=kn/\c.clos[k].lo<=d/\d<=c.clos[k].hi)):=by
    unfold Z7N;rw [Xw hlt,List.any_append];simp
   rw [hn,Ybe] at ht;refine QO ?_;refine Z1 Z9 rfl ?_;rintro _ w2 ⟨b6,rfl,iH,e6,ak⟩;refine W ?_;refine SA (us:=Z8.enc c.clos[k]) e6 ?_;rintro _ w3 ⟨hT,k6⟩;replace ak:=ak.ow hT;clear e6 hT;replace kk:=kk.up ak;replace bD:=bD.up ak;replace hS:=hS.trans ak;by_cases hx:c.clos[k].known<=kn/\c.clos[k].lo<=d/\d<=c.clos[k].hi;refine QO ?_;refine WR ?_;refine .mk ⟨?_,hS⟩;have:Z7N c.clos kn d=true:=by
    unfold Z7N;exact Yag.2 ⟨c.clos[k],Xb hlt,decide_eq_true hx⟩
   rw [this];rfl
   . rw [decide_eq_false hx] at ht
     repeat'(first|refine W1 ?_|omega|refine VG ?_ ?_<;>intro hg|refine VC ?_ ?_<;>intro hc)
     all_goals exact QL (k+1) ⟨hlt,ht,hS⟩ (by omega)
   obtain rfl:k=c.clos.length:=by omega
   rw [XG] at hn;refine QO ?_;exact QT () ⟨hn,hS⟩;rintro _ w1 ⟨hn,hS⟩;have kc:=kc.up hS;have h:=h.up hS;rw [hn,Ybe];refine W ?_;refine CM (Zj rfl rfl) (Zkv hv c.hols d _ h.hols h.len h.mov h.ok.hols (by have:=h.ok.few;omega)) ?_;rintro _ w2 ⟨rfl,ak⟩;refine RT ?_;exact ⟨rfl,hS.trans ak⟩
def ZnT (w:World) (f:Value) (c:Cal) (hv cv zo zs hr:Value) (kn:Int):Prop:=∃ b2 b3,f=.func (.func 299) #[] #[pQ b2,pQ b3]/\Blk w b2 47 (Z0M c hv cv zo zs hr)/\Blk w b3 3 [.I kn]
theorem Ze5 (kn:Int) (c:Cal) (hv cv zo zs hr:Value) (w):CC 265 #[Z7W c hv cv zo zs hr,.I kn] w λr w'=>ZnT w' r c hv cv zo zs hr kn/\Stp [] w w':=by
 refine cW2 6 Tryz.func265 ?_;refine W ?_;refine Z1 (Zp rfl) rfl ?_;rintro _ w1 ⟨b2,rfl,dx,ab,hS⟩;replace ab:Blk w1 b2 47 (Z0M c hv cv zo zs hr):=ab;refine Z1 (Zp rfl) rfl ?_;rintro _ w2 ⟨b3,rfl,dY,aL,ak⟩;replace aL:Blk w2 b3 3 [.I kn]:=aL;replace ab:=ab.up ak;refine RT ?_;exact ⟨⟨b2,b3,rfl,ab,aL⟩,hS.trans ak⟩
open Go Go.Eng Go.RowKit Go.Proofs Go.Shelf
attribute [local go_sem] Oper.semAt_some
theorem Ze6 (n:Nat) (hn:2<=n) (l bd bs:Nat) (d0 st:Int) (aB:st=1\/st=-1) (kE:0<=d0) (gh:d0<=3652058) (J:Nat->World->Prop) (Jx:World->Prop)
 (ql:∀ k W,J k W->W.cell? ⟨bd,0,none⟩=some (.I (d0+st * k))/\W.cell? ⟨bs,0,none⟩=some (.I st))
 (hY : ∀ (k : Nat) W, J k W -> k <= 1000 -> Zw (d0 + st * k) = true -> YieldAt Fence.wide (n - 1) Tryz.prog l #[.I (d0 + st * k)] W λe W'=>
   (e=.returned (.B true)/\W'.cell? ⟨bd,0,none⟩=some (.I (d0+st * k))/\W'.frozen? ⟨bd,0,none⟩=false/\W'.cell? ⟨bs,0,none⟩=some (.I st)/\J (k+1) (W'.setCell ⟨bd,0,none⟩ (.I (d0+st * k+st))))\/(e=.returned (.B false)/\Jx W'))
 (W:World) (h0:J 0 W) :
 CallsIn Fence.wide n Tryz.prog 301 #[.func (.yield l) #[] #[],pQ bd,pQ bs] W λe W'=>(∃ v,e=.returned v)/\
  ((∃ k:Nat,(1000<k\/Zw (d0+st * k)=false)/\J k W')\/Jx W'):=by
 refine callsIn_of_wp Tryz.func301 rfl trivial ?_ rfl;simp only [Tryz.ntmps301,Yaa,Xh,Xj,Nat.reduceAdd,Nat.reduceSub,Array.replicate_succ,Array.replicate_zero,List.push_toArray,List.append_toArray,XH,XU]
 gi_wp2
 gi_loopw [4] (λi wr=>∃ k:Nat,k<=1001/\i=.I (k:Int)/\J k wr) (λi _=>1002 - (intOf i).toNat)
 case atStart=>exact ⟨0,Xo _,rfl,h0⟩
 case round=>
  obtain ⟨k,hk,rfl,kF⟩:=hrel;obtain ⟨c1,c2⟩:=ql k _ kF;have fD:-1001<=st * (k:Int)/\st * (k:Int)<=1001:=by rcases aB with rfl|rfl<;>omega
  by_cases hlt:k<=1000
  . have cV:(k:Int)<=1000:=by omega
    gi_wp2
    refine ⟨trivial,(λh=>by cases h),?_⟩;refine (callsIn_wide.2 (Z2g _ _)).mono ?_;rintro e w' ⟨v,rfl,rfl,rfl⟩;cases bB:Zw (d0+st * k) with
    | false=>
      gi_wp2
      go_end0
      exact ⟨⟨_,rfl⟩,.inl ⟨k,.inr bB,kF⟩⟩
    | true=>
      obtain ⟨fn,tmps,assign,body,hy,hR⟩:=hY k _ kF hlt bB
      gi_wp2
      refine ⟨(λh=>by cases h),hR.mono ?_⟩;rintro e W3 (⟨rfl,a1,a2,a3,a4⟩|⟨rfl,hx⟩);have qn:=Jt.1 bB
      gi_wp2
      exact ⟨⟨k+1,by omega,rfl,a4⟩,by simp [intOf];omega⟩
      gi_wp2
      refine bodyPost_ret (results_none rfl _ _ _) rfl ?_;exact ⟨⟨_,rfl⟩,.inr hx⟩
  have fx:¬ (k:Int)<=1000:=by omega
  gi_wp2
  refine ⟨trivial,?_⟩
  gi_wp2
  go_end0
  exact ⟨⟨_,rfl⟩,.inl ⟨k,.inl (by omega),kF⟩⟩
theorem Z9s {g:Operand} {ps:Array Tmp} {assign body:Code} {Q:Exit->Act->World->Prop} {a:Act} {w:World} {n:Nat} (hn:3<=n) (eY:ps.size=1) {bd bs:Nat} {d0 st:Int}
 (hg:a.eval g=.func (.func 301) #[] #[pQ bd,pQ bs]) (aB:st=1\/st=-1) (kE:0<=d0) (gh:d0<=3652058) (ej:bd<w.heap.size)
 (I I':Nat->World->Prop) (Ix:World->Prop)
 (hI:∀ k W W',I k W->Below w.heap.size W W'->I k W') (hI':∀ k W W',I' k W->Below w.heap.size W W'->I' k W') (hIx:∀ W W',Ix W->Below w.heap.size W W'->Ix W')
 (hc:∀ (k:Nat) W,I k W->W.cell? ⟨bd,0,none⟩=some (.I (d0+st * k))/\W.cell? ⟨bs,0,none⟩=some (.I st))
 (hc':∀ (k:Nat) W,I' k W->W.cell? ⟨bd,0,none⟩=some (.I (d0+st * k))/\W.frozen? ⟨bd,0,none⟩=false/\W.cell? ⟨bs,0,none⟩=some (.I st))
 (hstep:∀ (k:Nat) W,I' k W->I (k+1) (W.setCell ⟨bd,0,none⟩ (.I (d0+st * k+st)))) (h0:I 0 w) (a₁:Int->Act)
 (hassign : ∀ (l : Nat) (X : Int) (W : World) (K : Act -> World -> Prop), K (a₁ X) W->
   assign.wpIn (Fence.wide.inRound l) (n - 1 - 1) Tryz.prog (Exit.then K (λ_ _ _=>False)) { tmps:=(ps.zip #[Value.int .i64 X]).foldl (λt (p,v)=>t.setIfInBounds p v) a.tmps,defers:=[] } W)
 (hbody : ∀ (l : Nat) (k : Nat) (W : World), I k W -> k <= 1000 -> Zw (d0 + st * k) = true -> body.wpIn (Fence.wide.inRound l) (n - 1 - 1) Tryz.prog
   (λe _ W'=>(∀ b,w.heap.size<=b->b<W.heap.size->W'.heap[b]?=W.heap[b]?)/\match e with|.normal=>I' k W'|.ret=>Ix W'|_=>False) (a₁ (d0+st * k)) W)
 (hdone:∀ (D k:Nat) (W:World),w.heap.size<=D->(1000<k\/Zw (d0+st * k)=false)->I k W->W.heap[D]?=some (.deferred (some []))->Q .normal { a with defers:={ target:=.collected D,args:=#[] } :: a.defers } W)
 (hstop:∀ (D:Nat) (W:World),w.heap.size<=D->Ix W->W.heap[D]?=some (.deferred (some []))->Q .ret { a with defers:={ target:=.collected D,args:=#[] } :: a.defers } W) :
 (Code.rangeFunc g ps assign body).wpIn Fence.wide n Tryz.prog Q a w:=by
 refine wpIn_rangeFunc ?_;intro fn ls;obtain ⟨rec,cS⟩:∃ rec:LoopState->Option Code->Loop,rec=λst pe=>{ state:=st,pending:=pe,fn,tmps:=a.tmps,params:=ps,assign,body,defers:=w.heap.size }:=⟨_,rfl⟩
 obtain ⟨W1,eM⟩:∃ W1,(w.alloc (.deferred (some []))).alloc (.loop (rec .ready none))=W1:=⟨_,rfl⟩
 have qo:W1.heap[w.heap.size+1]?=some (.loop (rec .ready none)):=by
  rw [<- eM];have:=World.alloc_heap_new (w.alloc (.deferred (some []))) (.loop (rec .ready none));rwa [World.size_alloc] at this
 have qp:W1.heap[w.heap.size]?=some (.deferred (some [])):=by
  rw [<- eM];exact (Below.heap_alloc _ _ _ (by simp)).trans (World.alloc_heap_new w _)
 have dO:Below w.heap.size w W1:=by
  rw [<- eM];exact ((Below.refl _ w).alloc (Xq _) _).alloc (by simp) _
 have bput:∀ (W:World) (l:Nat) (o:Obj),w.heap.size<=l->Below w.heap.size W (W.putObj l o):=λW l o hl=>
  ⟨rfl,rfl,rfl,by simp,λk hk=>World.putObj_heap_other (by omega)⟩
 refine ⟨w.heap.size+1,[{ target:=.collected w.heap.size,args:=#[] }],W1,{ target:=.fn (.func 301) #[pQ bd,pQ bs],args:=#[.func (.yield (w.heap.size+1)) #[] #[]] },W1,301,
  #[.func (.yield (w.heap.size+1)) #[] #[]]++#[pQ bd,pQ bs],W1,?_,?_,?_,?_,λh=>(by cases h),?_⟩
 rw [<- eM,cS];exact run_enterLoop_outer _ _ _ _ _;simp only [resolve,hg];simp [go_sem];intro f' kG;trivial;have eg:=enters_of Tryz.func301 (by kernel_rfl) rfl;simp [invoke,go_sem,eg]
 refine (Ze6 (n - 1) (by omega) (w.heap.size+1) bd bs d0 st aB kE gh
  (λk W=>I k W/\W.heap[w.heap.size+1]?=some (.loop (rec .ready none))/\W.heap[w.heap.size]?=some (.deferred (some [])))
  (λW=>Ix W/\W.heap[w.heap.size+1]?=some (.loop (rec .done (some .ret)))/\W.heap[w.heap.size]?=some (.deferred (some [])))
  (λk W h=>hc k W h.1) ?_ W1 ⟨hI _ _ _ h0 dO,qo,qp⟩).mono ?_
 . rintro k W ⟨hi,hl,hk⟩ fZ bB
   have hlt:w.heap.size+1<W.heap.size:=(Xx.1 hl).1;have hy:=run_yield (P:=Tryz.prog) (args:=#[Value.int .i64 (d0+st * k)]) hl (by rw [cS];simp [eY]);rw [cS] at hy;refine ⟨fn,_,assign,body,hy,roundIn_of_wpIn ls (hassign _ _ W _ ⟨_,run_beginRound hl (by rw [cS]),?_⟩)⟩;have eW:(W.putObj (w.heap.size+1) (.loop { rec .ready none with state:=.busy })).heap[w.heap.size+1]?=some (.loop { rec .ready none with state:=.busy }):=World.putObj_heap_same hlt;have dG:(W.putObj (w.heap.size+1) (.loop { rec .ready none with state:=.busy })).heap[w.heap.size]?=some (.deferred (some [])):=(World.putObj_heap_other (by omega)).trans hk;refine wpIn_mono (hbody _ k _ (hI _ _ _ hi (bput _ _ _ (by omega))) fZ bB) ?_
   have fin:∀ (jump:Option Code) (W3:World),(∀ b,w.heap.size<=b->b<(W.putObj (w.heap.size+1) (.loop { rec .ready none with state:=.busy })).heap.size->W3.heap[b]?=(W.putObj (w.heap.size+1) (.loop { rec .ready none with state:=.busy })).heap[b]?)->
    (Instr.endRound (w.heap.size+1) jump).run Tryz.prog W3=.ok (.B jump.isNone) (W3.putObj (w.heap.size+1) (.loop (rec (if jump.isNone then .ready else .done) jump)))/\
    (W3.putObj (w.heap.size+1) (.loop (rec (if jump.isNone then .ready else .done) jump))).heap[w.heap.size+1]?=some (.loop (rec (if jump.isNone then .ready else .done) jump))/\
    (W3.putObj (w.heap.size+1) (.loop (rec (if jump.isNone then .ready else .done) jump))).heap[w.heap.size]?=some (.deferred (some [])):=λjump W3 fX=>by
    have eC:=(fX (w.heap.size+1) (by omega) (by simp;omega)).trans eW;have jK:=(fX w.heap.size (by omega) (by simp;omega)).trans dG;have:=run_endRound (P:=Tryz.prog) jump eC;rw [cS] at this ⊢;exact ⟨this,World.putObj_heap_same (Xx.1 eC).1,(World.putObj_heap_other (by omega)).trans jK⟩
   rintro e a3 W3 ⟨fX,hp⟩;cases e with
   | normal=>
     obtain ⟨hr,lT,jK⟩:=fin none W3 fX;have nG:=hI' _ _ _ hp (bput W3 (w.heap.size+1) (.loop (rec .ready none)) (by omega));obtain ⟨p1,p2,p3⟩:=hc' _ _ nG;refine ⟨_,_,hr,.inl ⟨rfl,p1,p2,p3,hstep _ _ nG,?_,?_⟩⟩;exact (Below.heap_setCell _ ⟨bd,0,none⟩ _ _ (by show w.heap.size+1≠bd;omega)).trans lT;exact (Below.heap_setCell _ ⟨bd,0,none⟩ _ _ (by show w.heap.size≠bd;omega)).trans jK
   | ret=>
     obtain ⟨hr,lT,jK⟩:=fin (some .ret) W3 fX;exact ⟨_,_,hr,.inr ⟨rfl,hIx _ _ hp (bput W3 (w.heap.size+1) _ (by omega)),lT,jK⟩⟩
   | exit id=>exact hp.elim
   | goto t=>exact hp.elim
   | panic ch=>exact hp.elim
   | outgrown=>exact hp.elim
 rintro e W2 ⟨⟨v,rfl⟩,(⟨k,cM,hi,hl,hk⟩|⟨hi,hl,hk⟩)⟩;exact ⟨none,_,by have:=run_endLoop (P:=Tryz.prog) hl (by rw [cS];simp);rw [cS] at this;exact this,hdone _ k _ (Xq _) cM (hI _ _ _ hi (bput _ _ _ (by omega))) ((World.putObj_heap_other (by omega)).trans hk)⟩;refine ⟨some .ret,_,by have:=run_endLoop (P:=Tryz.prog) hl (by rw [cS];simp);rw [cS] at this;exact this,?_⟩;exact wpIn_ret (hstop _ _ (Xq _) (hIx _ _ hi (bput _ _ _ (by omega))) ((World.putObj_heap_other (by omega)).trans hk))
theorem Ze7 (d st:Int) (w):CC 266 #[.I d,.I st] w λr w'=>∃ b2 b3,r=.func (.func 301) #[] #[pQ b2,pQ b3]/\w.heap.size<=b2/\b2<b3/\Blk w' b2 3 [.I d]/\Blk w' b3 3 [.I st]/\Stp [] w w':=by
 refine cW2 6 Tryz.func266 ?_;refine W ?_;refine Z1 (Zp rfl) rfl ?_;rintro _ w1 ⟨b2,rfl,dx,k2,hS⟩;replace k2:Blk w1 b2 3 [.I d]:=k2;refine Z1 (Zp rfl) rfl ?_;rintro _ w2 ⟨b3,rfl,dY,k3,ak⟩;replace k3:Blk w2 b3 3 [.I st]:=k3;have:=k2.lt;replace k2:=k2.up ak;refine RT ?_;exact ⟨b2,b3,rfl,dx,by omega,k2,k3,hS.trans ak⟩
theorem Z4b {P:Program} {t b:Nat} {D:TypeDesc} {u:Value} {w:World} [hu:Und P t D] (hA:Z03 D=false) (hc:w.cell? ⟨b,0,none⟩=some u):(loadVar t ⟨b,0,none⟩).run P w=.ok u w:=by
 simp [loadVar,Und.isAgg,hA,hc]
theorem Z6Q (b:Nat) (v:Value) (w):Stp [b] w (w.setCell ⟨b,0,none⟩ v):=⟨rfl,rfl,rfl,(KeepsOthers.setCell w ⟨b,0,none⟩ v).size,λk hk hn=>Below.heap_setCell w ⟨b,0,none⟩ v k (λe=>hn (by simp [e]))⟩
theorem Z3i (opn:Int->Bool) (st:Int):∀ (m:Nat) (d:Int) (k:Nat),(∀ j:Nat,j<k->opn (d+st * j)=false)->(m<=k\/Zw (d+st * k)=false)->Z65 opn st m d=(0,31)
 | 0,d,k,_,_=>rfl
 | m + 1, d, k, h, hk => by
   unfold Z65;cases hd:Zw d with
   | false=>rfl
   | true=>
     rw [if_pos rfl];cases k with
     | zero=>
       rcases hk with hk|hk
       omega;rw [show d+st * ((0:Nat):Int)=d by simp,hd] at hk;cases hk
     | succ k=>
       have h0:=h 0 (by omega);rw [show d+st * ((0:Nat):Int)=d by simp] at h0;rw [if_neg (by rw [h0];simp)];have es:∀ j:Nat,d+st+st * (j:Int)=d+st * ((j+1:Nat):Int):=λj=>by
        rw [Ybn,Int.mul_add];simp;omega
       exact Z3i opn st m (d+st) k (λj hj=>by rw [es];exact h (j+1) (by omega)) (hk.imp (λh=>by omega) (λh=>by rw [es];exact h))
theorem Z5a (opn:Int->Bool) (st:Int):∀ (m:Nat) (d:Int) (k:Nat),k<m->(∀ j:Nat,j<=k->Zw (d+st * j)=true)->(∀ j:Nat,j<k->opn (d+st * j)=false)->opn (d+st * k)=true->Z65 opn st m d=(d+st * k,0)
 | 0,d,k,h,_,_,_=>absurd h (Xs _)
 | m + 1, d, k, gW, hi, h, ho => by
   have hd:=hi 0 (Xo _);rw [show d+st * ((0:Nat):Int)=d by simp] at hd;unfold Z65;rw [hd,if_pos rfl];cases k with
   | zero=>
     rw [show d+st * ((0:Nat):Int)=d by simp] at ho ⊢;rw [if_pos ho]
   | succ k=>
     have h0:=h 0 (by omega);rw [show d+st * ((0:Nat):Int)=d by simp] at h0;rw [if_neg (by rw [h0];simp)];have es:∀ j:Nat,d+st+st * (j:Int)=d+st * ((j+1:Nat):Int):=λj=>by
      rw [Ybn,Int.mul_add];simp;omega
     rw [<- es];exact Z5a opn st m (d+st) k (by omega) (λj hj=>by rw [es];exact hi (j+1) (by omega)) (λj hj=>by rw [es];exact h (j+1) (by omega)) (by rw [es];exact ho)
theorem Zaz {W:World} {b8 b9:Nat} {u v:Value} (c8:W.cell? ⟨b8,0,none⟩=some u) (c9:W.cell? ⟨b9,0,none⟩=some v) (n:b8≠b9) (x y:Value) :
 ((W.setCell ⟨b8,0,none⟩ x).setCell ⟨b9,0,none⟩ y).cell? ⟨b8,0,none⟩=some x/\((W.setCell ⟨b8,0,none⟩ x).setCell ⟨b9,0,none⟩ y).cell? ⟨b9,0,none⟩=some y:=by
 have h1:(W.setCell ⟨b8,0,none⟩ x).cell? ⟨b8,0,none⟩=some x:=World.cell?_setCell_same _ _ _ c8;have h2:(W.setCell ⟨b8,0,none⟩ x).cell? ⟨b9,0,none⟩=some v:=(World.cell?_setCell_other _ _ _ _ (λh=>n (by injection h))).trans c9;exact ⟨(World.cell?_setCell_other _ _ _ _ (λh=>n (by injection h with h;exact h.symm))).trans h1,World.cell?_setCell_same _ _ _ h2⟩
theorem Z3j (b8 b9:Nat) (x y:Value) (w):Stp [b8,b9] w ((w.setCell ⟨b8,0,none⟩ x).setCell ⟨b9,0,none⟩ y):=((Z6Q b8 x w).mono (S':=[b8,b9]) (by simp)).trans ((Z6Q b9 y _).mn)
theorem Z9t {tmps:Array Value} {W:World} {b8 b9:Nat} {x y:Value} (h8:tmps.getD 8 undef=pQ b8) (h9:tmps.getD 9 undef=pQ b9) (c8:W.cell? ⟨b8,0,none⟩=some x) (c9:W.cell? ⟨b9,0,none⟩=some y) :
 (results Tryz.f202 tmps).run Tryz.prog W=.ok (.tuple #[x,y]) W:=by
 rw [XD] at h8 h9;have l8:=Z4b (P:=Tryz.prog) (t:=3) (hu:=(inferInstance:Und Tryz.prog 3 (.int .i64))) rfl c8;have l9:=Z4b (P:=Tryz.prog) (t:=52) (hu:=(inferInstance:Und Tryz.prog 52 (.int .i64))) rfl c9;simp [results,h8,h9,asAddr,l8,l9]
theorem Ze8 (d kn st:Int) (aB:st=1\/st=-1) (c:Cal) (hv cv zo zs hr:Value) (w) (h:Z5D w c hv cv zo zs hr) :
 CallsIn Fence.wide 5 Tryz.prog 202 #[Z7W c hv cv zo zs hr,.I d,.I kn,.I st] w λe W'=>e=.returned (.tuple #[.I (Z12 (Z02 c kn) st d).1,.I (Z12 (Z02 c kn) st d).2])/\Stp [] w W':=by
 refine callsIn_of_wp_marks Tryz.func202 rfl trivial ?_ rfl;simp only [Tryz.ntmps202,Yaa,Xh,Xj,Nat.reduceAdd,Nat.reduceSub,Array.replicate_succ,Array.replicate_zero,List.push_toArray,List.append_toArray,XH,XU]
 gi_wp2
 obtain ⟨W1,eM⟩:∃ W1,W1=((w.alloc (.cells (Z0M c hv cv zo zs hr).toArray 47)).alloc (.cells #[.I 0] 3)).alloc (.cells #[.I 0] 52):=⟨_,rfl⟩
 rw [<- eM];have kc:Blk W1 w.heap.size 47 (Z0M c hv cv zo zs hr):=by
  rw [eM];exact (Blk.up (World.alloc_heap_new w _) (Stp.alloc _ _ _)).up (Stp.alloc _ _ _)
 have k8:Blk W1 (w.heap.size+1) 3 [.I 0]:=by
  rw [eM];have:=World.alloc_heap_new (w.alloc (.cells (Z0M c hv cv zo zs hr).toArray 47)) (.cells #[.I 0] 3);rw [World.size_alloc] at this;exact Blk.up this (Stp.alloc _ _ _)
 have k9:Blk W1 (w.heap.size+1+1) 52 [.I 0]:=by
  rw [eM];have:=World.alloc_heap_new ((w.alloc (.cells (Z0M c hv cv zo zs hr).toArray 47)).alloc (.cells #[.I 0] 3)) (.cells #[.I 0] 52);rw [World.size_alloc,World.size_alloc] at this;exact this
 have ae:Stp [] w W1:=by
  rw [eM];exact ((Stp.alloc _ _ _).trans (Stp.alloc _ _ _)).trans (Stp.alloc _ _ _)
 have rJ:w.heap.size<=w.heap.size+1:=by omega
 have rK:w.heap.size<=w.heap.size+1+1:=by omega
 generalize qh:w.heap.size+1+1=b9 at *;generalize lJ:w.heap.size+1=b8 at *;generalize bA:w.heap.size=b4 at *;clear eM;have n89:b8≠b9:=by omega
 have c8:=Boxed.cell (show Boxed W1 b8 3 (.I 0) from k8);have f8:=Boxed.frozen (show Boxed W1 b8 3 (.I 0) from k8);have c9:=Boxed.cell (show Boxed W1 b9 52 (.I 0) from k9);have f9:=Boxed.frozen (show Boxed W1 b9 52 (.I 0) from k9);refine ⟨trivial,?_⟩;refine (callsIn_wide.2 (Z2g d W1)).mono ?_;rintro e w' ⟨v,rfl,rfl,rfl⟩;cases hd:Zw d with
 | false=>
   gi_wp2
   have fV:Z12 (Z02 c kn) st d=(0,5):=by unfold Z12;rw [hd];rfl
   obtain ⟨g8,g9⟩:=Zaz c8 c9 n89 (.I 0) (.I 5);refine ⟨_,Z9t rfl rfl g8 g9,?_,?_⟩;rw [fV];exact ae.own (Z3j b8 b9 _ _ _) (λx hx=>by simp at hx;omega)
 | true=>
   have q:=λ(j:Nat) (u:Value) (hu:(Z0M c hv cv zo zs hr)[j]?=some u)=>kc.cell hu;have q0:=q 0 _ rfl;have q1:=q 1 _ rfl;have q2:=q 2 _ rfl;have q3:=q 3 _ rfl;have q4:=q 4 _ rfl;have q5:=q 5 _ rfl;have q6:=q 6 _ rfl;have q7:=q 7 _ rfl;have q8:=q 8 _ rfl;have q9:=q 9 _ rfl;have q10:=q 10 _ rfl;have q11:=q 11 _ rfl
   gi_wp2
   refine ⟨trivial,?_⟩;refine (callsIn_wide.2 (Ze5 kn c hv cv zo zs hr w')).mono ?_;rintro e W2 ⟨v,rfl,⟨b2,b3,rfl,k2,k3⟩,ak⟩;have f8':=Boxed.frozen (show Boxed W2 b8 3 (.I 0) from k8.up ak);have f9':=Boxed.frozen (show Boxed W2 b9 52 (.I 0) from k9.up ak);have c8':=Boxed.cell (show Boxed W2 b8 3 (.I 0) from k8.up ak);have c9':=Boxed.cell (show Boxed W2 b9 52 (.I 0) from k9.up ak);have cN:=Boxed.cell (Boxed.new W2 147 .nilFunc);have fN:=Boxed.frozen (Boxed.new W2 147 .nilFunc);have qq:(store ⟨W2.heap.size,0,none⟩ (.func (.func 299) #[] #[pQ b2,pQ b3])).run Tryz.prog (W2.alloc (.cells #[.nilFunc] 147))=.ok () ((W2.alloc (.cells #[.nilFunc] 147)).setCell ⟨W2.heap.size,0,none⟩ (.func (.func 299) #[] #[pQ b2,pQ b3])):=by
    rw [run_store _ _ _ _ _ rfl];simp [cN,fN]
   gi_wp2
   refine ⟨trivial,?_⟩;refine (callsIn_wide.2 (Ze7 d st _)).mono ?_;rintro e W3 ⟨v,rfl,bd,bs,rfl,ej,fR,kd,ks,aq⟩;have bD:W3.cell? ⟨W2.heap.size,0,none⟩=some (.func (.func 299) #[] #[pQ b2,pQ b3]):=aq.cell (by simp) (Boxed.cell (Boxed.new W2 147 _));have jL:Stp [] W2 W3:=(Stp.alloc [] W2 _).trans aq
   gi_wp2
   have dv:Stp [] w' W3:=ak.trans jL;have h3:=(h.up ae).up dv;have qr:=(k2.up jL).lt;have k2':=k2.up jL;have k3':=k3.up jL;have k8':=k8.up dv;have k9':=k9.up dv;have qt:=jL.size;have rL:W2.heap.size<W3.heap.size:=by have:=block_lt_of_cell bD;simpa using this
   have qu:W2.heap.size<bd:=by simp at ej;omega
   have k8l:=(k8.up ak).lt;have k9l:=(k9.up ak).lt;have k2l:=k2.lt;have k3l:=k3.lt;have kE:=(Jt.1 hd).1;have gh:=(Jt.1 hd).2;have qv:w.heap.size<=bd:=by have:=ae.size;have:=dv.size;have:=ak.size;omega
   have g1:1<w.heap.size:=by have:=block_lt_of_cell (h.len 0 0 rfl);simpa using this
   have g2:5<w.heap.size:=by have:=block_lt_of_cell (h.mov 0 0 rfl);simpa using this
   have qw:=h.hols.ext (X':=[bd]) (ae.trans dv) (by simp) (λb hb=>.inr (by simp at hb;omega));have qx:=h.clos.ext (X':=[bd]) (ae.trans dv) (by simp) (λb hb=>.inr (by simp at hb;omega));have rM:=(ae.trans dv).size;have cal:∀ W,Stp [bd] W3 W->Z5D W c hv cv zo zs hr:=λW hS=>⟨qw.ext (X':=[]) hS (λb hb=>hb) (by simp),qx.ext (X':=[]) hS (λb hb=>hb) (by simp),h3.len.ext hS (by simp;omega),h3.mov.ext hS (by simp;omega),h.ok⟩
   have sb:∀ {S:List Nat} {W W':World},Stp S W3 W->Below W3.heap.size W W'->Stp S W3 W':=λhS hB=>⟨hB.os.trans hS.os,hB.tape.trans hS.tape,hB.output.trans hS.output,Xl hS.size hB.size,λi hi hn=>(hB.block i hi).trans (hS.block i hi hn)⟩
   have cI:=kd.lt;have rN:=ks.lt
   refine Z9s (by omega) rfl rfl aB kE gh kd.lt
    (λk W=>Stp [bd] W3 W/\Boxed W bd 3 (.I (d+st * k))/\∀ j:Nat,j<k->Z02 c kn (d+st * j)=false)
    (λk W=>(Stp [bd] W3 W/\Boxed W bd 3 (.I (d+st * k))/\∀ j:Nat,j<k->Z02 c kn (d+st * j)=false)/\Z02 c kn (d+st * k)=false)
    (λW=>Stp [bd,b8,b9] W3 W/\∃ k:Nat,k<=1000/\Zw (d+st * k)=true/\(∀ j:Nat,j<k->Z02 c kn (d+st * j)=false)/\Z02 c kn (d+st * k)=true/\W.cell? ⟨b8,0,none⟩=some (.I (d+st * k))/\W.cell? ⟨b9,0,none⟩=some (.I 0))
    ?hI ?hI' ?hIx ?hc ?hc' ?hstep ?h0 (λX=>{ tmps:=#[Z7W c hv cv zo zs hr,.I d,.I kn,.I st,pQ b4,undef,undef,undef,pQ b8,pQ b9,.pointer (some ⟨W2.heap.size,0,none⟩),.I X,.I d,.B true,.B false,Z7W c hv cv zo zs hr,.I kn,.func (.func 299) #[] #[pQ b2,pQ b3],.I d,.I st,.func (.func 301) #[] #[pQ bd,pQ bs],.I X,undef,undef,undef,undef,undef],defers:=[] }) ?hassign ?hbody ?hdone ?hstop
   case hI=>exact λk W W' ⟨a,b,e⟩ hB=>⟨sb a hB,(hB.block bd cI).trans b,e⟩
   case hI'=>exact λk W W' ⟨⟨a,b,e⟩,f⟩ hB=>⟨⟨sb a hB,(hB.block bd cI).trans b,e⟩,f⟩
   case hIx=>exact λW W' ⟨a,k,p1,p2,p3,p4,p5,p6⟩ hB=>⟨sb a hB,k,p1,p2,p3,p4,(World.cell?_of_block (hB.block b8 (by omega))).trans p5,(World.cell?_of_block (hB.block b9 (by omega))).trans p6⟩
   case hc=>exact λk W ⟨a,b,e⟩=>⟨b.cell,a.cell (by simp;omega) (ks.cell rfl)⟩
   case hc'=>exact λk W ⟨⟨a,b,e⟩,f⟩=>⟨b.cell,b.frozen,a.cell (by simp;omega) (ks.cell rfl)⟩
   case hstep=>
    rintro k W ⟨⟨a,b,e⟩,f⟩;have e1:d+st * ((k+1:Nat):Int)=d+st * k+st:=by rcases aB with rfl|rfl<;>omega
    refine ⟨a.trans (Z6Q bd _ _),by rw [e1];exact b.set _,λj hj=>?_⟩;by_cases gM:j=k;subst gM;exact f;exact e j (by omega)
   case h0=>exact ⟨Stp.refl _ _,by rw [show d+st * ((0:Nat):Int)=d by simp];exact kd,λj hj=>absurd hj (Xs _)⟩
   case hassign=>
    intro l X W K hK
    gi_wp2
    exact hK
   case hbody=>
    rintro l k W ⟨a,bx,e⟩ fZ bB;have qy:=a.cell (b:=W2.heap.size) (o:=0) (by simp;omega) bD;obtain ⟨x0,x1⟩:=Jt.1 bB
    gi_wp2
    refine ⟨trivial,(CallsIn.inRound l (callsIn_wide.2 (Zbz (d+st * k) kn b2 b3 c hv cv zo zs hr W (cal W a) (k2'.ext a (by simp;omega)) (k3'.ext a (by simp;omega)) x0 x1))).mono ?_⟩;rintro e5 W5 ⟨v,rfl,rfl,ay⟩;have a5:=a.trans ay.mn;cases cE:Zau c kn (d+st * k) with
    | true=>
      gi_wp2
      exact ⟨λb h1 h2=>ay.block b h2 (by simp),⟨Blk.up (show Blk W bd 3 [.I (d+st * k)] from bx) ay,e⟩,by unfold Z02;rw [bB,cE];rfl⟩
    | false=>
      have f8:=Boxed.frozen (show Boxed W5 b8 3 (.I 0) from k8'.ext a5 (by simp;omega));have f9:=Boxed.frozen (show Boxed W5 b9 52 (.I 0) from k9'.ext a5 (by simp;omega));have c8:=Boxed.cell (show Boxed W5 b8 3 (.I 0) from k8'.ext a5 (by simp;omega));have c9:=Boxed.cell (show Boxed W5 b9 52 (.I 0) from k9'.ext a5 (by simp;omega))
      gi_wp2
      exact ⟨λb h1 h2=>((Z3j b8 b9 _ _ W5).block b (Xc h2 ay.size) (by simp;omega)).trans (ay.block b h2 (by simp)),a5.mn.trans ((Z3j b8 b9 _ _ W5).mn),k,fZ,bB,e,by unfold Z02;rw [bB,cE];rfl,rfl⟩
   case hdone=>
    rintro D k W hD cM ⟨a,bx,e⟩ fF;have f8:=Boxed.frozen (show Boxed W b8 3 (.I 0) from k8'.ext a (by simp;omega));have f9:=Boxed.frozen (show Boxed W b9 52 (.I 0) from k9'.ext a (by simp;omega));have c8:=Boxed.cell (show Boxed W b8 3 (.I 0) from k8'.ext a (by simp;omega));have c9:=Boxed.cell (show Boxed W b9 52 (.I 0) from k9'.ext a (by simp;omega))
    gi_wp2
    obtain ⟨y8,y9⟩:=Zaz c8 c9 n89 (.I 0) (.I 31);have qz:D<W.heap.size:=(Xx.1 fF).1;have jM:=((Z3j b8 b9 (.I 0) (.I 31) W).block D qz (by simp;omega)).trans fF;have fV:Z12 (Z02 c kn) st d=(0,31):=by
     unfold Z12;rw [hd,if_pos rfl];exact Z3i _ _ _ _ k e (cM.imp (λh=>by omega) id)
    refine ⟨by simp,.inl ⟨_,_,rfl,run_takeDeferred jM,_,Z9t rfl rfl ((World.cell?_of_block (World.putObj_heap_other (by show b8≠D;omega))).trans y8) ((World.cell?_of_block (World.putObj_heap_other (by show b9≠D;omega))).trans y9),?_,?_⟩⟩;rw [fV];have t1:=((ae.trans dv).ow a).own (Z3j b8 b9 (.I 0) (.I 31) W) (λx hx=>.inr (by simp at hx;omega));refine ⟨t1.os,t1.tape,t1.output,by simpa using t1.size,λq hq hn=>(World.putObj_heap_other (by omega)).trans (t1.block q hq hn)⟩
   case hstop=>
    rintro D W hD ⟨a,k,p1,p2,p3,p4,p5,p6⟩ fF
    gi_wp2
    obtain ⟨x0,x1⟩:=Jt.1 p2;have fV:Z12 (Z02 c kn) st d=(d+st * k,0):=by
     unfold Z12;rw [hd,if_pos rfl];refine Z5a _ _ _ _ k (by omega) (λj hj=>Jt.2 ?_) p3 p4;rcases aB with rfl|rfl<;>omega
    refine ⟨by simp,.inl ⟨_,_,rfl,run_takeDeferred fF,_,Z9t rfl rfl ((World.cell?_of_block (World.putObj_heap_other (by show b8≠D;omega))).trans p5) ((World.cell?_of_block (World.putObj_heap_other (by show b9≠D;omega))).trans p6),?_,?_⟩⟩;rw [fV];have t1:=(ae.trans dv).ow a;exact ⟨t1.os,t1.tape,t1.output,by simpa using t1.size,λq hq hn=>(World.putObj_heap_other (by omega)).trans (t1.block q hq hn)⟩
theorem Z9u (d kn st:Int) (c:Cal) (hv cv zo zs hr:Value) (w) (h:Z5D w c hv cv zo zs hr) (aB:st=1\/st=-1) :
 CC 202 #[Z7W c hv cv zo zs hr,.I d,.I kn,.I st] w λr w'=>r=.tuple #[.I (Z12 (Z02 c kn) st d).1,.I (Z12 (Z02 c kn) st d).2]/\Stp [] w w':=by
 refine Calls.mono (callsIn_wide.1 (Ze8 d kn st aB c hv cv zo zs hr w h)) ?_;rintro e W' ⟨rfl,hS⟩;exact .mk ⟨rfl,hS⟩
theorem ZbA (d kn:Int) (c:Cal) (hv cv zo zs hr:Value) (w) (h:Z5D w c hv cv zo zs hr) :
 CC 134 #[Z7W c hv cv zo zs hr,.I d,.I kn] w λr w'=>r=.tuple #[.I (Z12 (Z02 c kn) (1) d).1,.I (Z12 (Z02 c kn) (1) d).2]/\Stp [] w w':=by
 refine cW3 14 Tryz.func134 ?_;refine W ?_;refine Z1 (Zp rfl) rfl ?_;rintro _ w1 ⟨b3,rfl,dY,ab,hS⟩;replace ab:Blk w1 b3 47 (Z0M c hv cv zo zs hr):=ab;replace h:=h.up hS;refine W ?_;refine CM (Z7a rfl rfl rfl rfl) (Z9u d kn (1) c hv cv zo zs hr _ h (by omega)) ?_;rintro _ w2 ⟨rfl,ak⟩;refine RT ?_;exact ⟨rfl,hS.trans ak⟩
theorem Z14 (n a b:Int) (w):CC 27 #[.I n,.I a,.I b] w λr w'=>r=.B (decide (a<=n/\n<=b))/\Stp [] w w':=by
 refine cW3 15 Tryz.func27 ?_
 (refine QP ?_ ?_<;>intro hg)
 refine RU ?_;exact ⟨by congr 1;rw [decide_eq_decide];exact ⟨λh=>⟨by omega,h⟩,λh=>h.2⟩,Stp.refl _ _⟩;refine RU ?_;exact ⟨by congr 1;symm;exact decide_eq_false (λh=>by omega),Stp.refl _ _⟩
structure ZoO (w:World) (c:Cas) (R:Z0U):Prop where
 ff:SlV [] w R.fv c.fcts
 rr:SlV [] w R.rv c.ruls
 aa:SlV [] w R.av c.atts
 cc:SlV [] w R.cv c.crrs
 ss:SlV [] w R.sv c.stys
 cal:Z5D w c.cal R.hv R.lv R.zo R.zs R.hr
 one:R.zo.oneCell'=true/\R.zs.oneCell'=true/\R.hr.oneCell'=true
theorem Ze9 (a b:Int) (w):(Instr.build 29 #[(0,.I a),(1,.I b)]).run Tryz.prog w=.ok (.agg (Z8.enc ((a,b):Spn)).toArray) w:=by kernel_rfl
abbrev Z9v (x:Fct):Value:=aG x
theorem Zkw (x y:Fct) (w):(Op.equal 24 (Z9v x) (Z9v y)).run Tryz.prog w=.ok (decide (x=y)) w:=by
 have h1:Program.stoodInHeld Tryz.prog 24=false:=by kernel_rfl
 obtain ⟨i,hi⟩:∃ i,Tryz.prog.info? 3=some i:=by
  have:=(inferInstance:Siz Tryz.prog 3 1).h;cases h:Tryz.prog.info? 3 with
  | none=>rw [h] at this;cases this
  | some i=>exact ⟨i,rfl⟩
 obtain ⟨a,b,c,d,e,f⟩:=x;obtain ⟨a',b',c',d',e',f'⟩:=y;simp [Z9v,Z8.enc,Op.equal,Op.maxDepth,run_equalIn_struct,h1,Program.fieldsOf,Tryz.underlying24,Op.eqFields,part,Und.isAgg,Siz.run,Z03,run_equalIn_int w _ _ .i64 .i64 _ _ Tryz.underlying3,run_equalIn_string w _ _ _ _ Tryz.underlying9];repeat' split
 all_goals simp_all
theorem ZgL (em:Bool) (x:Fct) (w):(Instr.checkKey em 10000 24 (Z9v x)).run Tryz.prog w=.ok () w:=by kernel_rfl
instance:Z6s Tryz.prog 24 Fct where
 enc:=Z9v
 chk:=ZgL
 find:=λa es l w hk=>by
  have h2:=run_findKey_eq (P:=Tryz.prog) (k:=24) w (by kernel_rfl) (Z9v a) es;have h3:=Z16 Z9v Zkw a w es l 0 hk;simp only [XL] at h3;exact h2.trans h3
theorem ZgM {κ:Type} [DecidableEq κ] (l:List κ) (a:κ):Z1Q (l.map (λx=>(x,Value.bool true))) a (.B false)=.B (decide (a∈l)):=by
 unfold Z1Q;cases h:(l.map (λx=>(x,Value.bool true))).find? (λp=>decide (p.1=a)) with
 | none=>
   rw [YaM] at h;rw [decide_eq_false (λha=>absurd (h (a,.B true) (XO.2 ⟨a,ha,rfl⟩)) (by simp))]
 | some p=>
   have h1:=XZ h;have h2:=Ya6 h;obtain ⟨x,hx,rfl⟩:=XO.1 h1;have:x=a:=by simpa using h2
   subst this;simp [hx]
end Go.Proofs.YteibicnbkggiiaaGreatDoor
namespace Go.Eng
open Go
def Z5b (ops:Array Oper) (Lt:List Nat) (i q:Nat) (r1 r2:List (Nat×Nat)):List Nat->Array Bool->Bool
 | [],listed=>Region.ready .any ops listed == [i,q] && Jp ops Lt r1 (listed.setIfInBounds i true) && Jp ops Lt r2 (listed.setIfInBounds q true)
 | j :: p,listed=>(Region.ready .any ops listed).contains j && Region.free .any ops listed j && Z5b ops Lt i q r1 r2 p (listed.setIfInBounds j true)
structure WDF (P:Program) (n:Nat) (ops:Array Oper) (S:List Nat) (Lt:List Nat) (Q:Exit->Act->World->Prop) (i q:Nat) (r1 r2:List (Nat×Nat)) (p:List Nat) (e:Env) (w:World):Prop where
 h:∀ listed:Array Bool,Region.noSelect ops=true->Z5b ops Lt i q r1 r2 p listed=true->∀ a,Has n e a->Z8E P .any ops S (λj=>Lt.contains j) (λa w=>Q .normal a w) (p.length+(wt r1+1)) listed a w
section
variable {P:Program} {n:Nat} {Q:Exit->Act->World->Prop} {e:Env} {w:World} {ops:Array Oper} {S:List Nat} {Lt:List Nat}
theorem ZbB {id:Nat} {l:List Oper} (m:Nat) (S:List Nat) (Lt:List Nat) (p:List Nat) (i q:Nat) (r1 r2:List (Nat×Nat)) (cf:l.length=m) (hm:P.follows .mixedOrders=true) (hs:Region.noSelect l.toArray=true) (hl:Nat.beq (p.length+(wt r1+1)) l.length=true)
 (hB:Z5b l.toArray Lt i q r1 r2 p (Array.replicate m false)=true)
 (h:∀ w',Stp [] w w'->WDF P n l.toArray S Lt Q i q r1 r2 p e w'):WC P n (.region id l.toArray true) Q e w:=by
 subst cf;refine ⟨λa ha=>wp_region_any hm ?_⟩;have h1:=(h { w with drawn:=w.drawn+1 } (Stp.drew [] w)).h _ hs hB a ha;have h2:=Z05 (Q:=Q) (λa w hz=>hz) _ _ _ _ h1;rw [Xk hl] at h2;simpa using h2
theorem Z5c {i q j d:Nat} {r1 r2:List (Nat×Nat)} {p:List Nat} {op:Op} {ty:TypeId} {pos:String} {af:Array Edge} {gd:Option (Nat×Bool)} {v:Value} (hi:ops[j]?=some ⟨some d,op,ty,pos,af,gd⟩) (hg:JS ops e gd) (hp:∀ w',PR P n ⟨some d,op,ty,pos,af,gd⟩ e w' v) (aw:Nat.blt d n=true)
 (k:WDF P n ops S Lt Q i q r1 r2 p ((d,v) :: e) w):WDF P n ops S Lt Q i q r1 r2 (j :: p) e w:=by
 refine ⟨λlisted hs hB a ha=>?_⟩;simp only [Z5b,Xa] at hB;obtain ⟨⟨h1,h2⟩,h3⟩:=hB;have hk:=k.h _ hs h3 _ (ha.put (v:=v) aw);have e1:(j :: p).length+(wt r1+1)=p.length+(wt r1+1)+1:=by simp only [Xh];omega
 rw [e1];exact Z32 (oi:=⟨some d,op,ty,pos,af,gd⟩) (R:=λ_ _=>True) (λ_=>trivial) (λ_ _ _ _ _=>trivial) hi (λ_ _ _ _ _ _ _ _=>trivial) (Region.noSelect_spec hs) _ _ _ _ (Region.free_spec hi h2) (λ_=>trivial) (by simpa using h1) (.inl ⟨JO ha hg,λw' _=>(hp w').h a ha⟩) hk
theorem Zea {i q:Nat} {r1 r2:List (Nat×Nat)} (hw:Nat.beq (wt r1) (wt r2)=true) (h1:WD1 P n ops S Lt Q i r1 e w) (h2:WD1 P n ops S Lt Q q r2 e w):WDF P n ops S Lt Q i q r1 r2 [] e w:=by
 refine ⟨λlisted hs hB a ha=>?_⟩;simp only [Z5b,Xa,beq_iff_eq] at hB;obtain ⟨⟨hr,c1⟩,c2⟩:=hB;have e1:([]:List Nat).length+(wt r1+1)=wt r1+1:=by simp
 rw [e1];refine ⟨λh0=>absurd (hr ▸ h0) (by simp),λj hj=>?_⟩;rw [hr] at hj;have dM:j=i\/j=q:=by simpa using hj
 rcases dM with rfl|rfl
 exact h1.h _ hs c1 a ha;rw [Xk hw];exact h2.h _ hs c2 a ha
theorem Z5d {i q j d:Nat} {r1 r2:List (Nat×Nat)} {p:List Nat} {x:Operand} {ty:TypeId} {pos:String} {af:Array Edge} {gd:Option (Nat×Bool)} {v:Value} (hi:ops[j]?=some ⟨some d,.move x,ty,pos,af,gd⟩) (hg:JS ops e gd) (hx:ev e x=some v) (aw:Nat.blt d n=true)
 (k:WDF P n ops S Lt Q i q r1 r2 p ((d,v) :: e) w):WDF P n ops S Lt Q i q r1 r2 (j :: p) e w:=Z5c hi hg (λ_=>Jk hx) aw k
theorem Z7X {i q j d:Nat} {r1 r2:List (Nat×Nat)} {p:List Nat} {x y:Operand} {t u:TypeId} {a b:Int} {ty:TypeId} {pos:String} {af:Array Edge} {gd:Option (Nat×Bool)} (hi:ops[j]?=some ⟨some d,.binOp .rem t x y u,ty,pos,af,gd⟩) (hg:JS ops e gd) (hx:ev e x=some (.I a)) (hy:ev e y=some (.I b)) (h0:0<=a) (hb:0<b) (hr:I64 a) (aw:Nat.blt d n=true)
 (k:WDF P n ops S Lt Q i q r1 r2 p ((d,.I (a % b)) :: e) w):WDF P n ops S Lt Q i q r1 r2 (j :: p) e w:=Z5c hi hg (λ_=>Zaa hx hy h0 hb hr) aw k
theorem Zeb {i q j d:Nat} {r1 r2:List (Nat×Nat)} {p:List Nat} {x y:Operand} {t u:TypeId} {a b:Int} {ty:TypeId} {pos:String} {af:Array Edge} {gd:Option (Nat×Bool)} (hi:ops[j]?=some ⟨some d,.binOp .quo t x y u,ty,pos,af,gd⟩) (hg:JS ops e gd) (hx:ev e x=some (.I a)) (hy:ev e y=some (.I b)) (h0:0<=a) (hb:0<b) (hr:I64 a) (aw:Nat.blt d n=true)
 (k:WDF P n ops S Lt Q i q r1 r2 p ((d,.I (a / b)) :: e) w):WDF P n ops S Lt Q i q r1 r2 (j :: p) e w:=Z5c hi hg (λ_=>Zab hx hy h0 hb hr) aw k
end
end Go.Eng
namespace Go.Proofs.YteibicnbkggiiaaGreatDoor
open Go Go.Eng Go.RowKit Go.Proofs
theorem ZbC (z:Int) (w) (hz:I64 z):CC 60 #[.I z] w λr w'=>(∃ s∈Z06,r=str s)/\Stp [] w w':=by
 refine cW1 10 Tryz.func60 ?_;refine W ?_;refine Z1 (Z0 (vs:=[(0,str [99,108,97,105,109]),(1,str [97,110,115,119,101,114]),(2,str [109,111,116,105,111,110]),(3,str [111,114,100,101,114]),(4,str [97,112,112,101,97,108]),(5,str [108,97,112,115,101])]) rfl (bS6 _ _ _ _ _ _)) rfl ?_;rintro v w1 hN;have hv:SlV [] w1 v Z06:=hN.slv (by simp) rfl rfl (by decide);have hS:=Z5.stp hN;clear hN;refine W ?_;refine CM (Zj rfl rfl) (ZY z 6 _ (by decide) hz) ?_;rintro _ w2 ⟨rfl,hT⟩;have hr:=ZT (if z<0 then -(z+1) else z) 6 (by decide);generalize (if z<0 then -(z+1) else z) % 6=y at hr ⊢;obtain ⟨q,rfl⟩:∃ q:Nat,y=(q:Int):=⟨y.toNat,by omega⟩
 replace hv:=hv.up hT;have bH:q<Z06.length:=by show q<6;omega
 refine RT ?_;exact ⟨⟨_,Xb bH,rfl⟩,hS.trans hT⟩
theorem Z07 (v:Value) (l:List Int) (k:Nat) (w) (hs:SlV [] w v l) :
 CC 18 #[v,.I (k:Int)] w λr w'=>SlV [] w r (l.drop k)/\w'=w:=by
 have aW:=hs.max;refine cW2 11 Tryz.func18 ?_;refine W ?_;have hm:(if (l.length:Int)<(k:Int) then (l.length:Int) else (k:Int))=((min k l.length:Nat):Int):=by split<;>omega
 refine Zf (Z4H (l:=min k l.length) rfl hs rfl (by omega) (by omega)) rfl ?_;refine W ?_;refine WR ?_;have h:=hs.slc (l:=min k l.length) (r:=l.length) (by omega) (Xq _);rw [XG] at h;have e:l.drop (min k l.length)=l.drop k:=by
  by_cases hk:k<=l.length;rw [Yan hk];rw [Ybi (by omega),Yar,Yat (by omega)]
 rw [e] at h;exact .mk ⟨h,rfl⟩
structure Z69 (f:Fct):Prop where
 kind:f.kind∈Z06
 day:739616<=f.day/\f.day<=739655
 by_:0<=f.by_/\f.by_<=2
 to_:0<=f.to_/\f.to_<=2
 amt:-20<=f.amt/\f.amt<=179
theorem ZgN (f:Fct) (w):(Instr.build 24 #[(0,.I f.entry),(1,str f.kind),(2,.I f.day),(3,.I f.by_),(4,.I f.to_),(5,.I f.amt)]).run Tryz.prog w=.ok (aG f) w:=by kernel_rfl
theorem ZbD (en z:Int) (w) (hz:I64 z) :
 CC 21 #[.I en,.I z] w λr w'=>∃ f:Fct,r=aG f/\f.entry=en/\Z69 f/\Stp [] w w':=by
 refine cW2 26 Tryz.func21 ?_;refine W ?_;refine Z1 Z9 rfl ?_;rintro _ w1 ⟨b4,rfl,bA,k4,hS⟩;refine W ?_;refine CM (Zj rfl rfl) (ZY z 100000000 _ (by decide) hz) ?_;rintro _ w2 ⟨rfl,hT⟩;have hr:=ZT (if z<0 then -(z+1) else z) 100000000 (by decide);generalize (if z<0 then -(z+1) else z) % 100000000=y at hr ⊢;replace k4:=k4.up hT;replace hS:=hS.trans hT;clear hT;refine W ?_;refine CM (ZN rfl) (ZbC y _ (by unfold I64;omega)) ?_;rintro _ w3 ⟨⟨s,hs,rfl⟩,hT⟩;replace k4:=k4.up hT;replace hS:=hS.trans hT;clear hT;refine W ?_;have hf:Z69 (⟨en,s,739616+y / 6 % 40,y / 240 % 3,y / 720 % 3,y / 2160 % 200 - 20⟩:Fct):=by
  refine ⟨hs,?_,?_,?_,?_⟩<;>dsimp only<;>omega
 refine Za rfl (ZgN (⟨en,s,739616+y / 6 % 40,y / 240 % 3,y / 720 % 3,y / 2160 % 200 - 20⟩:Fct)) rfl ?_;generalize hg:(⟨en,s,739616+y / 6 % 40,y / 240 % 3,y / 720 % 3,y / 2160 % 200 - 20⟩:Fct)=f at hf;have he:f.entry=en:=by rw [<- hg]
 refine SA (us:=Z8.enc f) k4 ?_;rintro _ w4 ⟨hT,k4⟩;replace hS:=hS.ow hT;refine W ?_;refine ZP rfl rfl rfl k4 rfl ?_;exact .mk ⟨f,rfl,he,hf,hS⟩
structure Z7Y (x:Crr):Prop where
 ext:0<=x.extra/\x.extra<=1000
 tol:0<=x.tol/\x.tol<=1000
theorem Z4w (a b c d:Int) (w):(Instr.buildSlice 22 4 #[(0,.I a),(1,.I b),(2,.I c),(3,.I d)]).run Tryz.prog w=.ok (.slice (some ⟨w.heap.size,0,none⟩) 4 4) (w.alloc (.cells #[.I a,.I b,.I c,.I d] 3)):=by kernel_rfl
theorem Z6a (x:Crr) (w):(Instr.build 88 #[(0,.I x.extra),(1,.I x.tol)]).run Tryz.prog w=.ok (aG x) w:=by kernel_rfl
theorem Z6b (x:Crr) (w):(Instr.buildSlice 38 1 #[(0,aG x)]).run Tryz.prog w=.ok (.slice (some ⟨w.heap.size,0,none⟩) 1 1) (w.alloc (.cells (Z8.enc x).toArray 88)):=by kernel_rfl
theorem Z6R (lv:Value) (l:List Int) (w) (hs:SlV [] w lv l) (hl:∀ a∈l,I64 a) :
 CC 19 #[lv] w λr w'=>∃ cs:List Crr,1<=cs.length/\cs.length<=4/\(∀ x∈cs,Z7Y x)/\J7 88 w w' r cs:=by
 refine cW1 32 Tryz.func19 ?_;refine W ?_;refine LP (σ:=Nat×Value×List Crr) (λq=>[(0,lv),(3,q.2.1),(4,.I (q.1:Int))]) (λq W=>q.1<=4/\q.2.2.length=q.1/\(∀ x∈q.2.2,Z7Y x)/\Row [] W w.heap.size 88 q.2.1 q.2.2/\Stp [] w W) (λq=>4 - q.1) (0,.N,[]) ⟨by decide,rfl,by simp,Row.nil,Stp.refl _ _⟩ ?_;rintro ⟨j,ov,cs⟩ w1 ⟨hj,ai,aF,ac,hS⟩;dsimp only at hj ai aF ac ⊢;have bp:=λb hb=>ac.ob_le b hb;have cR:=hs.up hS;refine W ?_;refine CM (ZQ rfl rfl rfl) (ZB [] _ l 0 4 _ (by decide) (by unfold I64;omega) cR hl) ?_;rintro _ w2 ⟨q,rfl,hq,hT⟩;replace ac:=ac.up hT;replace cR:=cR.up hT;replace hS:=hS.trans hT;clear hT;by_cases hlt:(j:Int)<=(q:Int);refine QO ?_;refine CM (ZQ rfl rfl rfl) (ZB [] _ l (1+(j:Int)) 1000 _ (by decide) (by unfold I64;omega) cR hl) ?_;rintro _ w3 ⟨x,rfl,hx,hT⟩;replace ac:=ac.up hT;replace cR:=cR.up hT;replace hS:=hS.trans hT;clear hT;refine W ?_;refine ZbB 16 (ob ov) [] [0,2,3,7,8,9] 1 6 [(4,0),(5,1),(6,2),(10,0),(11,1),(12,0),(13,2),(14,2),(15,0)] [(10,0),(11,1),(1,2),(4,0),(5,1),(12,0),(13,2),(14,2),(15,0)] rfl mixed (by kernel_rfl) (by kernel_rfl) (by kernel_rfl) (λw1 ae=>?_);replace ac:=ac.up ae;replace hS:=hS.trans ae;clear ae;have za:=hS.size;refine Z5d rfl trivial rfl rfl ?_;refine Z5d rfl trivial rfl rfl ?_;refine Z7X rfl trivial rfl rfl (by omega) (by decide) (by unfold I64;omega) rfl ?_;refine Z5d rfl trivial rfl rfl ?_;refine Zeb rfl trivial rfl rfl (by omega) (by decide) (by unfold I64;omega) rfl ?_;refine Z7X rfl trivial rfl rfl (by omega) (by decide) (by unfold I64;omega) rfl ?_;obtain ⟨k1,bj,hq1⟩:∃ k:Nat,(x:Int) % 4=(k:Int)/\k<([0,3,5,2]:List Int).length:=⟨x % 4,by omega,Nat.mod_lt _ (by decide)⟩
 obtain ⟨k2,dG,hq2⟩:∃ k:Nat,(x:Int) / 4 % 4=(k:Int)/\k<([0,0,1,2]:List Int).length:=⟨x / 4 % 4,by omega,Nat.mod_lt _ (by decide)⟩
 rw [bj,dG];apply Zea rfl;refine JJ rfl trivial (Z0 (vs:=[(0,.I 0),(1,.I 3),(2,.I 5),(3,.I 2)]) rfl (Z4w _ _ _ _)) (λ_ _ h=>(Z5.stp h).mn) rfl ?_;rintro va wa hN;have ip:SlV (ob ov) wa va ([0,3,5,2]:List Int):=hN.slv (λb hb=>(ac.ob_le b hb).2) rfl rfl (by simp [maxLen]);have hT:=Z5.stp hN;clear hN;replace ac:=ac.up hT;replace hS:=hS.trans hT;clear hT;refine QD ?_;refine Z7 rfl trivial (Z0 (vs:=[(0,.I 0),(1,.I 0),(2,.I 1),(3,.I 2)]) rfl (Z4w _ _ _ _)) (λ_ _ h=>(Z5.stp h).mn) rfl ?_;rintro vb wb hN;have lU:SlV (ob ov) wb vb ([0,0,1,2]:List Int):=hN.slv (λb hb=>(ac.ob_le b hb).2) rfl rfl (by simp [maxLen]);have hT:=Z5.stp hN;clear hN;replace ac:=ac.up hT;replace ip:=ip.up hT;replace hS:=hS.trans hT;clear hT;refine QD ?_;have hy:Z7Y (⟨([0,3,5,2]:List Int)[k1]'hq1,([0,0,1,2]:List Int)[k2]'hq2⟩:Crr):=by
  constructor;have:=Xb hq1;dsimp only;generalize ([0,3,5,2]:List Int)[k1]'hq1=A at this ⊢;simp only [Xg,Xm,or_false] at this;omega;have:=Xb hq2;dsimp only;generalize ([0,0,1,2]:List Int)[k2]'hq2=A at this ⊢;simp only [Xg,Xm,or_false] at this;omega
 refine Zy rfl trivial (λw'=>JT rfl (λw=>Z6a (⟨([0,3,5,2]:List Int)[k1]'hq1,([0,0,1,2]:List Int)[k2]'hq2⟩:Crr) w)) rfl ?_;generalize (⟨([0,3,5,2]:List Int)[k1]'hq1,([0,0,1,2]:List Int)[k2]'hq2⟩:Crr)=y at hy ⊢;refine Z7 rfl trivial (Z0 rfl (Z6b y)) (λ_ _ h=>(Z5.stp h).mn) rfl ?_;rintro vs wd hN;have bR:SlV (ob ov++[]) wd vs [y]:=hN.slv (λb hb=>(ac.ob_le b (by simpa using hb)).2) rfl (by simp) (by simp [maxLen]);have hT:=Z5.stp hN;clear hN;replace ac:=ac.up hT;replace hS:=hS.trans hT;clear hT;have zd:=hS.size;refine Z7 rfl trivial (ZI (α:=Crr) (X:=[]) (base:=w.heap.size) rfl (by decide) rfl rfl ac bR (Xl (Xt _ (show cs.length+[y].length<=10 by simp;omega)) (by decide)) (by simp [maxLen];omega) (by omega)) (λ_ _ h=>h.2.1) rfl ?_;rintro ov' we ⟨dc,eN,cT⟩;refine QD ?_;refine W ?_;exact QL (j+1,ov',cs++[y]) ⟨by dsimp only;omega,by simp [ai],λz hz=>by
  rcases Xd.1 hz with h|h
  exact aF z h;simp only [Xn] at h;subst h;exact hy,dc,hS.own eN (λb hb=>.inr (ac.ob_le b hb).1)⟩ (by dsimp only;omega)
 refine JJ rfl trivial (Z0 (vs:=[(0,.I 0),(1,.I 0),(2,.I 1),(3,.I 2)]) rfl (Z4w _ _ _ _)) (λ_ _ h=>(Z5.stp h).mn) rfl ?_;rintro vb wb hN;have lU:SlV (ob ov) wb vb ([0,0,1,2]:List Int):=hN.slv (λb hb=>(ac.ob_le b hb).2) rfl rfl (by simp [maxLen]);have hT:=Z5.stp hN;clear hN;replace ac:=ac.up hT;replace hS:=hS.trans hT;clear hT;refine QD ?_;refine Z7 rfl trivial (Z0 (vs:=[(0,.I 0),(1,.I 3),(2,.I 5),(3,.I 2)]) rfl (Z4w _ _ _ _)) (λ_ _ h=>(Z5.stp h).mn) rfl ?_;rintro va wa hN;have ip:SlV (ob ov) wa va ([0,3,5,2]:List Int):=hN.slv (λb hb=>(ac.ob_le b hb).2) rfl rfl (by simp [maxLen]);have hT:=Z5.stp hN;clear hN;replace ac:=ac.up hT;replace lU:=lU.up hT;replace hS:=hS.trans hT;clear hT;refine QD ?_;have hy:Z7Y (⟨([0,3,5,2]:List Int)[k1]'hq1,([0,0,1,2]:List Int)[k2]'hq2⟩:Crr):=by
  constructor;have:=Xb hq1;dsimp only;generalize ([0,3,5,2]:List Int)[k1]'hq1=A at this ⊢;simp only [Xg,Xm,or_false] at this;omega;have:=Xb hq2;dsimp only;generalize ([0,0,1,2]:List Int)[k2]'hq2=A at this ⊢;simp only [Xg,Xm,or_false] at this;omega
 refine Zy rfl trivial (λw'=>JT rfl (λw=>Z6a (⟨([0,3,5,2]:List Int)[k1]'hq1,([0,0,1,2]:List Int)[k2]'hq2⟩:Crr) w)) rfl ?_;generalize (⟨([0,3,5,2]:List Int)[k1]'hq1,([0,0,1,2]:List Int)[k2]'hq2⟩:Crr)=y at hy ⊢;refine Z7 rfl trivial (Z0 rfl (Z6b y)) (λ_ _ h=>(Z5.stp h).mn) rfl ?_;rintro vs wd hN;have bR:SlV (ob ov++[]) wd vs [y]:=hN.slv (λb hb=>(ac.ob_le b (by simpa using hb)).2) rfl (by simp) (by simp [maxLen]);have hT:=Z5.stp hN;clear hN;replace ac:=ac.up hT;replace hS:=hS.trans hT;clear hT;have zd:=hS.size;refine Z7 rfl trivial (ZI (α:=Crr) (X:=[]) (base:=w.heap.size) rfl (by decide) rfl rfl ac bR (Xl (Xt _ (show cs.length+[y].length<=10 by simp;omega)) (by decide)) (by simp [maxLen];omega) (by omega)) (λ_ _ h=>h.2.1) rfl ?_;rintro ov' we ⟨dc,eN,cT⟩;refine QD ?_;refine W ?_;exact QL (j+1,ov',cs++[y]) ⟨by dsimp only;omega,by simp [ai],λz hz=>by
  rcases Xd.1 hz with h|h
  exact aF z h;simp only [Xn] at h;subst h;exact hy,dc,hS.own eN (λb hb=>.inr (ac.ob_le b hb).1)⟩ (by dsimp only;omega)
 . refine QO ?_
   all_goals
    refine RU ?_;exact ⟨cs,by omega,by omega,aF,ac,hS⟩
structure ZaA (x:Spn):Prop where
 lo:0<=x.1
 le:x.1<=x.2
 hi:x.2<=3652058
theorem Z7Z (lv:Value) (l:List Int) (w) (hs:SlV [] w lv l) (hl:∀ a∈l,I64 a) (h4:l.length<=4) :
 CC 24 #[lv,.I 739616] w λr w'=>∃ xs:List Spn,xs.length<=2/\(∀ x∈xs,ZaA x)/\J7 29 w w' r xs:=by
 refine cW2 44 Tryz.func24 ?_;refine W ?_;refine LP (σ:=Nat×Value×List Spn) (λq=>[(0,lv),(1,.I 739616),(5,q.2.1),(6,.I ((2 * q.1:Nat):Int))]) (λq W=>q.1<=2/\q.2.2.length=q.1/\(∀ x∈q.2.2,ZaA x)/\Row [] W w.heap.size 29 q.2.1 q.2.2/\Stp [] w W) (λq=>4 - q.1) (0,.N,[]) ⟨by decide,rfl,by simp,Row.nil,Stp.refl _ _⟩ ?_;rintro ⟨j,ov,xs⟩ w1 ⟨hj,ai,aF,ac,hS⟩;dsimp only at hj ai aF ac ⊢;have bp:=λb hb=>ac.ob_le b hb;have cR:=hs.up hS;by_cases hlt:2 * j+1<l.length;have hlt0:2 * j<l.length:=by omega
 refine QO ?_;have eV:=hl _ (Xb hlt0);have nC:=hl _ (Xb hlt);refine CM (Zj rfl rfl) (ZY (l[2 * j]'hlt0) 80 _ (by decide) eV) ?_;rintro _ w2 ⟨rfl,hT⟩;have hr:=ZT (if l[2 * j]<0 then -(l[2 * j]+1) else l[2 * j]) 80 (by decide);generalize (if l[2 * j]<0 then -(l[2 * j]+1) else l[2 * j]) % 80=y at hr ⊢;replace ac:=ac.up hT;replace cR:=cR.up hT;replace hS:=hS.trans hT;clear hT;refine QO ?_;have rO:2 * j+1<l.length:=hlt;refine CM (Zj rfl rfl) (ZY (l[2 * j+1]'hlt) 15 _ (by decide) nC) ?_;rintro _ w3 ⟨rfl,hT⟩;have ep:=ZT (if l[2 * j+1]<0 then -(l[2 * j+1]+1) else l[2 * j+1]) 15 (by decide);generalize (if l[2 * j+1]<0 then -(l[2 * j+1]+1) else l[2 * j+1]) % 15=z at ep ⊢;replace ac:=ac.up hT;replace cR:=cR.up hT;replace hS:=hS.trans hT;clear hT;refine QO ?_;obtain ⟨f0,qA⟩:∃ f0:Int,max 0 (min 3652058 (739616 - 20+y))=f0:=⟨_,rfl⟩
 obtain ⟨f1,qB⟩:∃ f1:Int,min 3652058 (f0+z)=f1:=⟨_,rfl⟩
 rw [qA,qB];have aB:ZaA (f0,f1):=by constructor<;>dsimp only<;>omega
 refine Za (vs:=[(0,.I f0),(1,.I f1)]) rfl (Ze9 _ _) rfl ?_;have zS:=hS.size;refine APG ((f0,f1):Spn) ac (by simp) (by omega) rfl (Xl (Xt _ (show xs.length+1<=10 by omega)) (by decide)) (by simp [maxLen];omega) (λv1 ov' w4 dc eN cT=>?_);refine QO ?_;exact Jj (j+1,ov',xs++[(f0,f1)]) ⟨rfl,rfl,rfl,rfl,trivial⟩ ⟨by dsimp only;omega,by simp [ai],λz hz=>by
  rcases Xd.1 hz with h|h
  exact aF z h;simp only [Xn] at h;subst h;exact aB,dc,hS.own eN (λb hb=>.inr (bp b hb).1)⟩ (by dsimp only;omega)
 . refine QO ?_
   all_goals
    refine RU ?_;exact ⟨xs,by omega,aF,ac,hS⟩
structure ZaB (n:Nat) (r:Rtn):Prop where
 crr:0<=r.crr/\r.crr<n
 lo:0<=r.lo/\r.lo<=3652058
 hi:0<=r.hi/\r.hi<=3652058
 kind:(r.kind=1/\r.lo<=r.hi)\/(r.kind=2/\r.lo=0)\/(r.kind=3/\r.lo=0/\r.hi=0)
theorem ZaC (w):(Instr.buildSlice 22 8 #[(0,.I 1),(1,.I 1),(2,.I 1),(3,.I 1),(4,.I 2),(5,.I 2),(6,.I 3),(7,.I 1)]).run Tryz.prog w=.ok (.slice (some ⟨w.heap.size,0,none⟩) 8 8) (w.alloc (.cells #[.I 1,.I 1,.I 1,.I 1,.I 2,.I 2,.I 3,.I 1] 3)):=by kernel_rfl
theorem ZaD (a k:Int) (w):(Instr.build 138 #[(0,.I a),(1,.I k)]).run Tryz.prog w=.ok (aG (⟨a,k,0,0⟩:Rtn)) w:=by kernel_rfl
def K8:List Int:=[1,1,1,1,2,2,3,1]
theorem Zkx {k:Nat} (h:k<K8.length):K8[k]=1\/K8[k]=2\/K8[k]=3:=by
 have:=Xb h;generalize K8[k]=z at this ⊢;simp only [K8,Xg,Xm,or_false] at this;omega
theorem Z80 (lv cv:Value) (l:List Int) (cs:List Crr) (day:Int) (w) (hs:SlV [] w lv l) (hl:∀ a∈l,I64 a) (h3:l.length<=3) (aT:SlV [] w cv cs) (hc:1<=cs.length/\cs.length<=4) (hd:739616<=day/\day<=739655) :
 CC 25 #[lv,cv,.I day] w λr w'=>∃ xs:List Rtn,xs.length<=3/\(∀ x∈xs,ZaB cs.length x)/\J7 138 w w' r xs:=by
 refine cW3 69 Tryz.func25 ?_;refine W ?_;refine LP (σ:=Nat×Value×List Rtn) (λq=>[(0,lv),(1,cv),(2,.I day),(7,q.2.1),(8,.I (q.1:Int))]) (λq W=>q.1<=3/\q.2.2.length=q.1/\(∀ x∈q.2.2,ZaB cs.length x)/\Row [] W w.heap.size 138 q.2.1 q.2.2/\Stp [] w W) (λq=>4 - q.1) (0,.N,[]) ⟨by decide,rfl,by simp,Row.nil,Stp.refl _ _⟩ ?_;rintro ⟨j,ov,xs⟩ w1 ⟨hj,ai,aF,ac,hS⟩;dsimp only at hj ai aF ac ⊢;have bp:=λb hb=>ac.ob_le b hb;have cR:=hs.up hS;have aU:=aT.up hS;by_cases hlt:j<l.length;refine QO ?_;have eV:=hl _ (Xb hlt);refine CM (Zj rfl rfl) (ZY (l[j]'hlt) 1000000 _ (by decide) eV) ?_;rintro _ w2 ⟨rfl,hT⟩;have hr:=ZT (if l[j]<0 then -(l[j]+1) else l[j]) 1000000 (by decide);generalize (if l[j]<0 then -(l[j]+1) else l[j]) % 1000000=y at hr ⊢;replace ac:=ac.up hT;replace aU:=aU.up hT;replace hS:=hS.trans hT;clear hT cR;refine W ?_;have zS:=hS.size
 refine JI (σ:=Nat×Int×Int) (λq=>[(0,lv),(1,cv),(2,.I day),(7,ov),(8,.I (j:Int)),(9,.I y),(10,.pointer (some ⟨q.1,0,none⟩))])
  (λq w'=>w2.heap.size<=q.1/\Stp [] w2 w'/\(0<=q.2.1/\q.2.1<cs.length)/\(q.2.2=1\/q.2.2=2\/q.2.2=3)/\Blk w' q.1 138 (Z8.enc (⟨q.2.1,q.2.2,0,0⟩:Rtn))) ?_ ?_
 refine ZDr 14 [] [13] [(0,0),(1,0),(2,0),(3,0),(4,0),(6,0),(7,0),(8,0),(5,15),(9,0),(10,1),(11,0),(12,2),(13,2)] (λw1 ae=>?_);have hB:=ae;have lW:=aU.up ae;clear ae;obtain ⟨k1,bj,hq1⟩:∃ k:Nat,y / 4 % 8=(k:Int)/\k<K8.length:=⟨(y / 4 % 8).toNat,by omega,by simp only [K8,Xh,Xj];omega⟩
 obtain ⟨a0,lX⟩:∃ a0:Int,y % max 1 (cs.length:Int)=a0:=⟨_,rfl⟩
 have jE:0<=a0/\a0<cs.length:=by
  have h1:=YaW y (show max 1 (cs.length:Int)≠0 by omega);have h2:=YaJ y (show 0<max 1 (cs.length:Int) by omega);omega
 have hK:=Zkx hq1;refine QD ?_;rw [bj,lX];apply Z4E rfl;refine JJ rfl trivial (Z0 rfl ZaC) (λ_ _ h=>Z5.stp h) rfl ?_;rintro va wa hN;have ip:SlV [] wa va K8:=hN.slv (by simp) rfl rfl (by simp [maxLen,K8]);have hT:=Z5.stp hN;clear hN;replace hB:=hB.trans hT;clear hT;refine QD ?_;refine Zy rfl trivial (λw'=>JT rfl (λw=>ZaD a0 (K8[k1]'hq1) w)) rfl ?_;focus repeat'(first|refine D1 ?_|omega|refine Z6 rfl rfl rfl rfl (λhg=>?_) (λhg=>?_)|(refine Z2 rfl rfl rfl rfl (λhg=>?_) (λhg=>?_)<;>refine D1 ?_)|fail)
 have zB:=hB.size;refine Z7 rfl trivial Z9 (λ_ _ h=>h.choose_spec.2.2.2) rfl ?_;rintro _ wb ⟨b,rfl,hb,e3,hT⟩;have gb:w2.heap.size<=b:=by omega
 replace hB:=hB.trans hT;replace ip:=ip.up hT;clear hT;focus repeat'(first|refine D1 ?_|omega|refine Z6 rfl rfl rfl rfl (λhg=>?_) (λhg=>?_)|(refine Z2 rfl rfl rfl rfl (λhg=>?_) (λhg=>?_)<;>refine D1 ?_)|fail)
 refine J2 rfl trivial (J1 (us:=Z8.enc (⟨a0,K8[k1]'hq1,0,0⟩:Rtn)) rfl rfl rfl rfl (Z8.one _) e3 rfl) rfl ?_;rintro _ wc ⟨aQ,e3⟩;refine QD ?_;exact QT (b,a0,K8[k1]'hq1) ⟨gb,hB.ow aQ,jE,hK,e3⟩;have zB:=hB.size;refine JJ rfl trivial Z9 (λ_ _ h=>h.choose_spec.2.2.2) rfl ?_;rintro _ wb ⟨b,rfl,hb,e3,hT⟩;have gb:w2.heap.size<=b:=by omega
 replace hB:=hB.trans hT;clear hT;focus repeat'(first|refine D1 ?_|omega|refine Z6 rfl rfl rfl rfl (λhg=>?_) (λhg=>?_)|(refine Z2 rfl rfl rfl rfl (λhg=>?_) (λhg=>?_)<;>refine D1 ?_)|fail)
 refine Z7 rfl trivial (Z0 rfl ZaC) (λ_ _ h=>Z5.stp h) rfl ?_;rintro va wa hN;have ip:SlV [] wa va K8:=hN.slv (by simp) rfl rfl (by simp [maxLen,K8]);have hT:=Z5.stp hN;clear hN;replace hB:=hB.trans hT;replace e3:=e3.up hT;clear hT;refine QD ?_;refine Zy rfl trivial (λw'=>JT rfl (λw=>ZaD a0 (K8[k1]'hq1) w)) rfl ?_;focus repeat'(first|refine D1 ?_|omega|refine Z6 rfl rfl rfl rfl (λhg=>?_) (λhg=>?_)|(refine Z2 rfl rfl rfl rfl (λhg=>?_) (λhg=>?_)<;>refine D1 ?_)|fail)
 refine J2 rfl trivial (J1 (us:=Z8.enc (⟨a0,K8[k1]'hq1,0,0⟩:Rtn)) rfl rfl rfl rfl (Z8.one _) e3 rfl) rfl ?_;rintro _ wc ⟨aQ,e3⟩;refine QD ?_;exact QT (b,a0,K8[k1]'hq1) ⟨gb,hB.ow aQ,jE,hK,e3⟩;rintro ⟨b,a,k⟩ w3 ⟨hb,hT,ha,hk,e3⟩;dsimp only at hb ha hk e3 ⊢;rcases hk with rfl|rfl|rfl
 refine QO ?_;have iq:0<=(max 0 (min 3652058 (day - 3+y / 32 % 40)))/\(max 0 (min 3652058 (day - 3+y / 32 % 40)))<=3652058:=by omega
 generalize (max 0 (min 3652058 (day - 3+y / 32 % 40)))=f0 at iq ⊢;refine Zi (Zs (u:=.I f0) rfl rfl rfl rfl e3 (show (2:Nat)<4 by decide)) ?_;rintro _ w4 ⟨aQ,e3⟩;replace e3:Blk w4 b 138 (Z8.enc (⟨a,1,f0,0⟩:Rtn)):=e3;replace hT:=hT.ow aQ;clear aQ;refine QO ?_;have lY:f0<=min 3652058 (f0+y / 1280 % 5)/\min 3652058 (f0+y / 1280 % 5)<=3652058:=by omega
 generalize min 3652058 (f0+y / 1280 % 5)=f1 at lY ⊢;refine Zi (Zs (u:=.I f1) rfl rfl rfl rfl e3 (show (3:Nat)<4 by decide)) ?_;rintro _ w5 ⟨aQ,e3⟩;replace e3:Blk w5 b 138 (Z8.enc (⟨a,1,f0,f1⟩:Rtn)):=e3;replace hT:=hT.ow aQ;clear aQ;have z4:=hT.size;have ce:=ac.up hT;have aA:=hS.trans hT;have zS4:=aA.size;refine QO ?_;refine APG (⟨a,1,f0,f1⟩:Rtn) ce (by simp) (by omega) rfl (Xl (Xt _ (show xs.length+1<=10 by omega)) (by decide)) (by simp [maxLen];omega) (λv1 ov' w4 dc eN cT=>?_);refine QO ?_;exact QL (j+1,ov',xs++[⟨a,1,f0,f1⟩]) ⟨by dsimp only;omega,by simp [ai],λz hz=>by
  rcases Xd.1 hz with h|h
  exact aF z h;simp only [Xn] at h;subst h;constructor<;>dsimp only<;>omega,dc,aA.own eN (λb hb=>.inr (ce.ob_le b hb).1)⟩ (by dsimp only;omega)
 refine QO ?_;have iq:0<=(max 0 (min 3652058 (day - 3+y / 32 % 40)))/\(max 0 (min 3652058 (day - 3+y / 32 % 40)))<=3652058:=by omega
 generalize (max 0 (min 3652058 (day - 3+y / 32 % 40)))=f0 at iq ⊢;refine Zi (Zs (u:=.I f0) rfl rfl rfl rfl e3 (show (3:Nat)<4 by decide)) ?_;rintro _ w4 ⟨aQ,e3⟩;replace e3:Blk w4 b 138 (Z8.enc (⟨a,2,0,f0⟩:Rtn)):=e3;replace hT:=hT.ow aQ;clear aQ;have z4:=hT.size;have ce:=ac.up hT;have aA:=hS.trans hT;have zS4:=aA.size;refine QO ?_;refine APG (⟨a,2,0,f0⟩:Rtn) ce (by simp) (by omega) rfl (Xl (Xt _ (show xs.length+1<=10 by omega)) (by decide)) (by simp [maxLen];omega) (λv1 ov' w4 dc eN cT=>?_);refine QO ?_;exact QL (j+1,ov',xs++[⟨a,2,0,f0⟩]) ⟨by dsimp only;omega,by simp [ai],λz hz=>by
  rcases Xd.1 hz with h|h
  exact aF z h;simp only [Xn] at h;subst h;constructor<;>dsimp only<;>omega,dc,aA.own eN (λb hb=>.inr (ce.ob_le b hb).1)⟩ (by dsimp only;omega)
 have z4:=hT.size;have ce:=ac.up hT;have aA:=hS.trans hT;have zS4:=aA.size;refine QO ?_;refine APG (⟨a,3,0,0⟩:Rtn) ce (by simp) (by omega) rfl (Xl (Xt _ (show xs.length+1<=10 by omega)) (by decide)) (by simp [maxLen];omega) (λv1 ov' w4 dc eN cT=>?_);refine QO ?_;exact QL (j+1,ov',xs++[⟨a,3,0,0⟩]) ⟨by dsimp only;omega,by simp [ai],λz hz=>by
  rcases Xd.1 hz with h|h
  exact aF z h;simp only [Xn] at h;subst h;constructor<;>dsimp only<;>omega,dc,aA.own eN (λb hb=>.inr (ce.ob_le b hb).1)⟩ (by dsimp only;omega)
 . refine QO ?_
   all_goals
    refine RU ?_;exact ⟨xs,by omega,aF,ac,hS⟩
theorem Z1F (z:Int) (m:Int) (w) (hm:0<m) (hz:I64 z):CC 43 #[.I z,.I m] w λr w'=>r=.I ((if z<0 then -(z+1) else z) % m)/\Stp [] w w':=by
 unfold I64 at hz;refine cW2 13 Tryz.func43 ?_;by_cases h:z<0;refine RT ?_;exact ⟨by rw [if_pos h],Stp.refl _ _⟩;refine RT ?_;exact ⟨by rw [if_neg h],Stp.refl _ _⟩
theorem Z9w (X:List Nat) (v:Value) (l:List Int) (i m:Int) (w) (hm:0<m) (hi:I64 i) (hs:SlV X w v l) (hl:∀ a∈l,I64 a):CC 44 #[v,.I i,.I m] w λr w'=>∃ q:Nat,r=.I (q:Int)/\(q:Int)<m/\Stp [] w w':=by
 unfold I64 at hi;have aW:=hs.max;refine cW3 21 Tryz.func44 ?_;refine W ?_;by_cases gT:0<=i/\i<l.length;obtain ⟨h0,h1⟩:=gT;obtain ⟨k,rfl⟩:∃ k:Nat,i=(k:Int):=⟨i.toNat,by omega⟩
 have hk:k<l.length:=by omega
 refine QO ?_;refine CL (Z1F _ m _ hm (hl _ (Xb hk))) ?_;rintro _ w2 ⟨rfl,hS⟩;refine W ?_;refine WR ?_;have:=ZT (if l[k]<0 then -(l[k]+1) else l[k]) m hm;exact .mk ⟨_,by rw [XS this.1],by rw [XS this.1];exact this.2,hS⟩
 . repeat'(first|refine W1 ?_|omega|refine VG ?_ ?_<;>intro hg|refine VC ?_ ?_<;>intro hc)
   all_goals first
    | (refine RU ?_
       exact ⟨0,rfl,by simpa using hm,Stp.refl _ _⟩)
theorem ZgO (a:Int) (w):(Instr.build 45 #[(0,.I a)]).run Tryz.prog w=.ok (.agg #[.I a,.N]) w:=by kernel_rfl
theorem ZgP (a b:Int) (w):(Instr.build 127 #[(0,.I a),(1,.I b)]).run Tryz.prog w=.ok (agg ((a,b):Spn)) w:=by kernel_rfl
theorem Zec (d:Spn) (w):(Instr.buildSlice 43 1 #[(0,agg d)]).run Tryz.prog w=.ok (.slice (some ⟨w.heap.size,0,none⟩) 1 1) (w.alloc (.cells (Z8.enc d).toArray 127)):=by kernel_rfl
def Z5E (x:Spn):Prop:=0<=x.1/\x.1<=2000000
def ShL (xs:List Spn):Prop:=(∀ x∈xs,-900<=x.2/\x.2<=900)/\xs.Pairwise (λa b=>a.1+2880<=b.1)
structure Z2M (z:Int) (sh:List Spn):Prop where
 off:-900<=z/\z<=900
 len:sh.length<=100
 at_:∀ s∈sh,(0<=s.1/\s.1<=8589934592)/\-900<=s.2/\s.2<=900
 ord:∀ i (h:i+1<sh.length),sh[i].1+2880<=sh[i+1].1
def Z9x (X:List Nat) (w:World) (zo zs hr:Value):Prop:=∃ z sh h,zo=.I z/\hr=.I h/\SlV X w zs sh/\Z2M z sh/\0<=h/\h<1440
theorem Z9x.ext {X S X':List Nat} {w w':World} {zo zs hr:Value} (h:Z9x X w zo zs hr) (hS:Stp S w w') (h1:∀ b∈S,b∈X) (h2:∀ b∈X',b∈X\/w.heap.size<=b):Z9x X' w' zo zs hr:=by
 obtain ⟨z,sh,g,e1,e2,hs,ho⟩:=h;exact ⟨z,sh,g,e1,e2,hs.ext hS h1 h2,ho⟩
theorem Z5e (v:Value) (l:List Int) (w) (hs:SlV [] w v l) (hl:∀ a∈l,I64 a) :
 CC 59 #[v] w λr w'=>∃ (o:Int) (zs:Value) (xs:List Spn),r=.agg #[.I o,zs]/\(∀ x∈xs,Z5E x)/\(xs.length<=100/\(-900<=o/\o<=900)/\ShL xs)/\J7 127 w w' zs xs:=by
 have aW:=hs.max;refine cW1 45 Tryz.func59 ?_;refine W ?_;refine Z1 Z9 rfl ?_;rintro _ w1 ⟨b2,rfl,dx,k2,hS⟩;refine W ?_;refine CM (ZQ rfl rfl rfl) (Z9w [] _ l 0 1801 _ (by decide) (by unfold I64;omega) (hs.up hS) hl) ?_;rintro _ w2 ⟨q0,rfl,lX,ak⟩;replace k2:=k2.up ak;replace hS:=hS.trans ak;clear ak;refine W ?_;refine Za (vs:=[(0,.I ((q0:Int) - 900))]) rfl (ZgO _) rfl ?_;have k2lt:=k2.lt;refine Z1 Z9 rfl ?_;rintro _ w3 ⟨b3,rfl,dY,k3,aq⟩;replace k2:=k2.up aq;replace hS:=hS.trans aq;clear aq;refine W ?_;have n23:b2≠b3:=by omega
 refine SB (us:=[.I ((q0:Int) - 900),.N]) (by simp [Value.oneCell']) k3 ?_;rintro _ w4 ⟨aA,k3⟩;replace k2:=k2.ext aA (by simpa using n23);replace hS:=hS.ow aA;clear aA;have br:=hS.size;have k3lt:=k3.lt;have k2lt':=k2.lt;refine W ?_;refine Z0b (σ:=Value×List Spn) (λq=>[(2,pQ b2),(3,pQ b3)]) (λq w'=>Blk w' b2 45 (.agg #[.I 0,.N]:Value).cells.toList/\Blk w' b3 45 [.I ((q0:Int) - 900),q.1]/\Row [] w' w4.heap.size 127 q.1 q.2/\q.2.length<=42/\((∀ x∈q.2,Z5E x)/\ShL q.2)/\Stp [b3] w4 w') ?_ ?_
 refine ZC (σ:=Nat×Int×Value×List Spn) (λq=>[(0,v),(2,pQ b2),(3,pQ b3),(4,.I q.2.1),(5,.I (q.1:Int))])
  (λq w'=>(1<=q.1/\q.1<=43/\0<=q.2.1/\q.2.1<=25000 * q.1/\q.2.2.2.length<q.1)/\Blk w' b2 45 (.agg #[.I 0,.N]:Value).cells.toList/\Blk w' b3 45 [.I ((q0:Int) - 900),q.2.2.1]/\Row [] w' w4.heap.size 127 q.2.2.1 q.2.2.2/\((∀ x∈q.2.2.2,Z5E x)/\ShL q.2.2.2/\∀ x∈q.2.2.2,x.1+2880<=q.2.1)/\Stp [b3] w4 w') (λq=>43 - q.1)
  (1,0,.N,[]) ⟨rfl,rfl,rfl,rfl,rfl,trivial⟩ ⟨⟨by decide,by decide,by decide,by decide,by decide⟩,k2,k3,Row.nil,⟨by simp,⟨by simp,List.Pairwise.nil⟩,by simp⟩,Stp.refl _ _⟩ ?_
 rintro ⟨k,at_,zs,xs⟩ w5 ⟨⟨bj,lZ,jE,qC,dI⟩,k2,k3,ac,df,ay⟩;dsimp only at bj lZ jE qC dI k3 ac df ⊢;have fG:Stp [] w w5:=hS.ow ay;have bU:=hs;replace hs:=hs.up fG;by_cases hlt:k+1<l.length/\k<41;obtain ⟨hlt,rP⟩:=hlt;have fZ:k<l.length:=by omega
 refine QO ?_;refine CM (Zj rfl rfl) (Z1F _ 20000 _ (by decide) (hl _ (Xb fZ))) ?_;rintro _ w6 ⟨rfl,cx⟩;have hr:=ZT (if l[k]<0 then -(l[k]+1) else l[k]) 20000 (by decide);generalize (if l[k]<0 then -(l[k]+1) else l[k]) % 20000=m at hr ⊢;refine W ?_;replace k2:=k2.up cx;replace k3:=k3.up cx;replace ac:=ac.up cx;replace hs:=hs.up cx;replace ay:=ay.trans cx.mn;clear cx fG;have n3:b3∉ob zs:=λh=>by have:=(ac.ob_le _ h).1;omega
 have n2:b2∉ob zs:=λh=>by have:=(ac.ob_le _ h).1;omega
 replace hs:SlV (ob zs) w6 v l:=bU.ext (X':=ob zs) (hS.ow ay) (by simp) (λb hb=>.inr (by have:=(ac.ob_le b hb).1;omega));refine WC_drawn 15 (ob zs) [14] [(0,0),(1,1),(2,0),(3,0),(4,0),(5,0),(6,0),(7,1),(8,2),(9,0),(10,0),(11,2),(12,2),(13,0),(14,2)] rfl mixed (by kernel_rfl) (by kernel_rfl) (by kernel_rfl) (λw1 ae=>?_);replace k2:=k2.up ae;replace k3:=k3.up ae;replace ac:=ac.up ae;replace hs:=hs.up ae;replace ay:=ay.trans ae.mn;clear ae;refine D ?_;refine Z7 rfl trivial (Z4 rfl (Zj rfl rfl) (Z1F _ 1801 _ (by decide) (hl _ (Xb hlt)))) (λ_ _ h=>h.2.mn) rfl ?_;rintro _ w7 ⟨rfl,aM⟩;have ep:=ZT (if l[k+1]<0 then -(l[k+1]+1) else l[k+1]) 1801 (by decide);generalize (if l[k+1]<0 then -(l[k+1]+1) else l[k+1]) % 1801=m2 at ep ⊢;replace k2:=k2.up aM;replace k3:=k3.up aM;replace ac:=ac.up aM;replace ay:=ay.trans aM.mn;clear aM;refine D ?_;refine Zy rfl trivial (λw'=>JT (vs:=[(0,.I (at_+m)),(1,.I (m2 - 900))]) rfl (ZgP _ _)) rfl ?_;refine D ?_;refine Z7 rfl trivial (Z0 (vs:=[(0,agg ((at_+m,m2 - 900):Spn))]) rfl (Zec _)) (λ_ _ h=>(Z5.stp h).mn) rfl ?_;rintro bv w8 hN;have aH:SlV (ob zs++[]) w8 bv [((at_+m,m2 - 900):Spn)]:=hN.slv (λb hb=>(ac.ob_le b (by simpa using hb)).2) rfl rfl (by simp [maxLen]);have hT:=Z5.stp hN;clear hN;replace k2:=k2.up hT;replace k3:=k3.up hT;replace ac:=ac.up hT;replace ay:=ay.trans hT.mn;clear hT;have aP:=ay.size;have bp:=ac.ob_le;refine D ?_;refine Z7 rfl trivial (ZI (X:=[]) (base:=w4.heap.size) rfl (by decide) rfl rfl ac aH (by simp only [Xh,Xj];omega) (by simp only [Xh,Xj,maxLen];omega) aP) (λ_ _ h=>h.2.1) rfl ?_;rintro zs' w9 ⟨ac,hT,eO⟩;replace k2:=k2.ext hT (λh=>by have:=(bp _ h).1;omega);replace k3:=k3.ext hT (λh=>by have:=(bp _ h).1;omega);replace ay:Stp [b3] w4 w9:=ay.own hT (λc hc=>.inr (bp c hc).1);clear hT;refine D ?_;refine J2 rfl trivial (Zs (u:=zs') rfl rfl (Row.slv (X:=[]) ac (by simp)).cells (Row.slv (X:=[]) ac (by simp)).one k3 (by simp)) rfl ?_;rintro _ w10 ⟨hT,k3⟩;replace k3:Blk w10 b3 45 [.I ((q0:Int) - 900),zs']:=k3;replace k2:=k2.ext hT (by simpa using n23);have bo:=ac.ob_le;replace ac:=ac.keep hT (λb hb h=>by have:=bo _ h;simp at hb;omega);replace ay:=ay.trans hT;clear hT;refine D ?_;refine W ?_;refine Jj (k+2,at_+m+2880,zs',xs++[((at_+m,m2 - 900):Spn)]) ⟨rfl,rfl,rfl,rfl,rfl,trivial⟩ ⟨⟨by dsimp only;omega,by dsimp only;omega,by dsimp only;omega,by dsimp only;omega,by dsimp only;rw [Xf];simp only [Xh,Xj];omega⟩,k2,k3,ac,?_,ay⟩ (by dsimp only;omega);refine ⟨λx hx=>?_,⟨λx hx=>?_,?_⟩,λx hx=>?_⟩;rcases Xd.1 hx with h|h
 exact df.1 x h;rw [Xn.1 h];unfold Z5E;dsimp only;omega;rcases Xd.1 hx with h|h
 exact df.2.1.1 x h;rw [Xn.1 h];dsimp only;omega;refine Ya3.2 ⟨df.2.1.2,by simp,λa ha b hb=>?_⟩;rw [Xn.1 hb];have:=df.2.2 a ha;dsimp only;omega;rcases Xd.1 hx with h|h
 have:=df.2.2 x h;dsimp only;omega;rw [Xn.1 h];dsimp only;omega
 . repeat'(first|refine W1 ?_|omega|refine VG ?_ ?_<;>intro hg|refine VC ?_ ?_<;>intro hc)
   all_goals exact QT (zs,xs) ⟨k2,k3,ac,(by dsimp only;omega),⟨df.1,df.2.1⟩,ay⟩
 rintro ⟨zs,xs⟩ w5 ⟨k2,k3,ac,dI,df,ay⟩;dsimp only at k3 ac dI df ⊢;refine W ?_;have bp:=ac.ob_le;have fG:Stp [] w w5:=hS.ow ay;refine SB (us:=[.I ((q0:Int) - 900),zs]) (by intro u hu;simp at hu;rcases hu with rfl|rfl;exact rfl;exact (Row.slv (X:=[]) ac (by simp)).one) k2 ?_;rintro _ w6 ⟨hT,k2⟩;replace ac:=ac.keep hT (λb hb h=>by have:=bp _ h;simp at hb;omega);refine W ?_;refine ZP rfl rfl rfl k2 rfl ?_;exact .mk ⟨_,zs,xs,rfl,df.1,⟨by omega,by omega,df.2⟩,ac.lower br,fG.ow hT⟩
def cL (b0 b5 b6:Bool) (hv cv zo zs hr:Value):List Value:=[.B b0,.B false,.B false,.B false,.B false,.B b5,.B b6,hv,cv,zo,zs,hr]
theorem ZgQ (w):(Instr.buildSlice 22 4 #[(0,.I 1439),(1,.I 1020),(2,.I 0),(3,.I 720)]).run Tryz.prog w=.ok (.slice (some ⟨w.heap.size,0,none⟩) 4 4) (w.alloc (.cells #[.I 1439,.I 1020,.I 0,.I 720] 3)):=by kernel_rfl
theorem ZgR (h:Int) (w):(Instr.build 47 #[(4,.I h)]).run Tryz.prog w=.ok (.agg (cL false false false (.N) (.N) (.I 0) (.N) (.I h)).toArray) w:=by kernel_rfl
theorem Zky (a b c:Int) (w):(Instr.build 122 #[(0,.I a),(1,.I b),(7,.I 1),(8,.I 9999),(6,.I c)]).run Tryz.prog w=.ok (agg (⟨a,b,0,0,0,0,c,1,9999⟩:Hol)) w:=by kernel_rfl
theorem ZgS (h:Hol) (w):(Instr.buildSlice 41 1 #[(0,agg h)]).run Tryz.prog w=.ok (.slice (some ⟨w.heap.size,0,none⟩) 1 1) (w.alloc (.cells (Z8.enc h).toArray 122)):=by kernel_rfl
theorem ZgT (a b c:Int) (w):(Instr.build 124 #[(0,.I a),(1,.I b),(2,.I c)]).run Tryz.prog w=.ok (agg (⟨a,b,c⟩:Clo)) w:=by kernel_rfl
theorem ZgU (h:Clo) (w):(Instr.buildSlice 42 1 #[(0,agg h)]).run Tryz.prog w=.ok (.slice (some ⟨w.heap.size,0,none⟩) 1 1) (w.alloc (.cells (Z8.enc h).toArray 124)):=by kernel_rfl
def Z6c (x:Clo):Prop:=739616<=x.lo/\x.lo<739736/\x.lo<=x.hi/\x.hi<=x.lo+5/\739616<=x.known/\x.known<739746
structure ZaE (c:Cal):Prop where
 ok:ZhB c
 wk:∃ b0 b5 b6:Bool,c.week=[b0,false,false,false,false,b5,b6]
 h3:c.hols.length<=3
 c3:c.clos.length<=3
 cl:∀ x∈c.clos,Z6c x
 fl:∀ x∈c.hols,x.first<=x.last
def Z5f (x:Hol):Prop:=Z2c x/\x.first<=x.last
theorem Z6d {z:Int} {xs ys:List Spn} (hz:-900<=z/\z<=900) (hl:xs.length<=100) (ho:∀ x∈xs,Z5E x) (hs:ShL xs) (hy:ys.length=xs.length) (he:∀ i (hi:i<ys.length) (bh:i<xs.length),ys[i]=(xs[i].1+1065047040,xs[i].2)):Z2M z ys where
 off:=hz
 len:=by omega
 at_:=λs h=>by
  obtain ⟨i,hi,rfl⟩:=Xv h;have bh:i<xs.length:=by omega
  have h1:=ho _ (Xb bh);have h2:=hs.1 _ (Xb bh);rw [he i hi bh];unfold Z5E at h1;dsimp only;omega
 ord:=λi h=>by
  have h1:=Yax.1 hs.2 i (i+1) (by omega) (by omega) (by omega);rw [he i (by omega) (by omega),he (i+1) h (by omega)];dsimp only;omega
theorem Z5g (X:List Nat) (v:Value) (l:List Int) (w:World) (hX:∀ b∈X,b<w.heap.size) (hs:SlV [] w v l) (hl:∀ a∈l,I64 a) :
 CC 17 #[v] w λr w'=>∃ (c:Cal) (hv cv zo zs hr:Value),r=Z7W c hv cv zo zs hr/\(zo.oneCell'=true/\zs.oneCell'=true/\hr.oneCell'=true)/\ZaE c/\SlV X w' hv c.hols/\SlV X w' cv c.clos/\Stp [] w w'/\Z9x X w' zo zs hr:=by
 have aW:=hs.max;refine cW1 160 Tryz.func17 ?_;refine W ?_;refine Z1 Z9 rfl ?_;rintro _ w1 ⟨b2,rfl,dx,k2,hS⟩;refine W ?_;refine Z1 (Z0 (vs:=[(0,.I 1439),(1,.I 1020),(2,.I 0),(3,.I 720)]) rfl (ZgQ)) rfl ?_;rintro bv w2 hN;have aH:SlV [] w2 bv ([1439,1020,0,720]:List Int):=hN.slv (by simp) rfl rfl (by simp [maxLen]);have hT:=Z5.stp hN;clear hN;replace k2:=k2.up hT;replace hS:=hS.trans hT;clear hT;refine W ?_;refine CM (ZQ rfl rfl rfl) (ZB [] _ l 0 4 _ (by decide) (by unfold I64;omega) (hs.up hS) hl) ?_;rintro _ wn ⟨q0,rfl,lX,hT⟩;replace aH:=aH.up hT;replace k2:=k2.up hT;replace hS:=hS.trans hT;clear hT;have ma:q0<([1439,1020,0,720]:List Int).length:=by simp only [Xh,Xj];omega
 refine W ?_;have eo:∀ x∈([1439,1020,0,720]:List Int),0<=x/\x<1440:=by decide
 replace eo:=eo _ (Xb ma);generalize ([1439,1020,0,720]:List Int)[q0]=hr at eo ⊢;refine Za (vs:=[(4,.I hr)]) rfl (ZgR _) rfl ?_;have k2lt:=k2.lt;clear aH;refine Z1 Z9 rfl ?_;rintro _ w3 ⟨b3,rfl,dY,k3,hT⟩;replace k2:=k2.up hT;replace hS:=hS.trans hT;clear hT;refine W ?_;have n23:b2≠b3:=by omega
 refine SB (us:=cL false false false (.N) (.N) (.I 0) (.N) (.I hr)) (by simp [cL,Value.oneCell']) k3 ?_;rintro _ w4 ⟨hT,k3⟩;replace k2:=k2.ext hT (by simpa using n23);replace hS:=hS.ow hT;clear hT;have k3lt:=k3.lt;have k2lt':=k2.lt;have qD:w.heap.size<=b3:=by have:=k3lt;have:=hS.size;omega
 refine W ?_;refine CM (ZQ rfl rfl rfl) (ZB [] _ l 1 8 _ (by decide) (by unfold I64;omega) (hs.up hS) hl) ?_;rintro _ wn ⟨q1,rfl,hq1,hT⟩;replace k3:=k3.up hT;replace k2:=k2.up hT;replace hS:=hS.trans hT;clear hT;refine W ?_;refine Z6r (len:=7) (i:=5) rfl rfl rfl (by decide) rfl ?_;refine Zi (Zs (u:=.B (decide (¬ (q1:Int)=1))) rfl rfl rfl rfl k3 (by simp [cL])) ?_;rintro _ wn ⟨hT,k3⟩;replace k3:Blk wn b3 47 (cL false (decide (¬ (q1:Int)=1)) false (.N) (.N) (.I 0) (.N) (.I hr)):=k3;replace k2:=k2.ext hT (by simpa using n23);replace hS:=hS.ow hT;clear hT;refine W ?_;refine Z6r (len:=7) (i:=6) rfl rfl rfl (by decide) rfl ?_;refine Zi (Zs (u:=.B (decide (¬ (q1:Int)=2))) rfl rfl rfl rfl k3 (by simp [cL])) ?_;rintro _ wn ⟨hT,k3⟩;replace k3:Blk wn b3 47 (cL false (decide (¬ (q1:Int)=1)) (decide (¬ (q1:Int)=2)) (.N) (.N) (.I 0) (.N) (.I hr)):=k3;replace k2:=k2.ext hT (by simpa using n23);replace hS:=hS.ow hT;clear hT;refine W ?_;refine Zi (Zs (u:=.B (decide ((q1:Int)=3))) rfl rfl rfl rfl k3 (by simp [cL])) ?_;rintro _ w5 ⟨hT,k3⟩;replace k3:Blk w5 b3 47 (cL (decide ((q1:Int)=3)) (decide (¬ (q1:Int)=1)) (decide (¬ (q1:Int)=2)) (.N) (.N) (.I 0) (.N) (.I hr)):=k3;replace k2:=k2.ext hT (by simpa using n23);replace hS:=hS.ow hT;clear hT;refine W ?_;generalize decide ((q1:Int)=3)=b0 at k3 ⊢;generalize decide (¬ (q1:Int)=1)=b5 at k3 ⊢;generalize decide (¬ (q1:Int)=2)=b6 at k3 ⊢;replace k2:Blk w5 b2 47 ((.agg (cL false false false (.N) (.N) (.I 0) (.N) (.I 0)).toArray:Value).cells.toList):=k2;have qE:=hS.size;have k3lt5:=k3.lt;have k2lt5:=k2.lt;refine Z0b (σ:=Value×List Hol) (λq=>[(0,v),(2,pQ b2),(3,pQ b3)]) (λq w'=>q.2.length<=3/\Blk w' b2 47 ((.agg (cL false false false (.N) (.N) (.I 0) (.N) (.I 0)).toArray:Value).cells.toList)/\Blk w' b3 47 (cL b0 b5 b6 q.1 (.N) (.I 0) (.N) (.I hr))/\Row [] w' w5.heap.size 122 q.1 q.2/\(∀ x∈q.2,Z5f x)/\Stp [b3] w5 w') ?_ ?_
 refine ZC (σ:=Nat×Value×List Hol) (λq=>[(0,v),(2,pQ b2),(3,pQ b3),(5,.I (q.1:Int))]) (λq w'=>q.1<=3/\q.2.2.length<=q.1/\Blk w' b2 47 ((.agg (cL false false false (.N) (.N) (.I 0) (.N) (.I 0)).toArray:Value).cells.toList)/\Blk w' b3 47 (cL b0 b5 b6 q.2.1 (.N) (.I 0) (.N) (.I hr))/\Row [] w' w5.heap.size 122 q.2.1 q.2.2/\(∀ x∈q.2.2,Z5f x)/\Stp [b3] w5 w') (λq=>3 - q.1)
  (0,.N,[]) ⟨rfl,rfl,rfl,rfl,trivial⟩ ⟨by decide,by decide,k2,k3,Row.nil,by simp,Stp.refl _ _⟩ ?_
 rintro ⟨j,hv,hols⟩ w6 ⟨mb,ai,k2,k3,ac,dg,ax⟩;dsimp only at mb ai k3 ac dg ⊢;have bS:=hs.up (hS.ow ax);have mc:=ac.ob_le;refine W ?_;refine CM (ZQ rfl rfl rfl) (ZB [] _ l 2 4 _ (by decide) (by unfold I64;omega) bS hl) ?_;rintro _ wn ⟨q,rfl,hq,hT⟩;replace k3:=k3.up hT;replace k2:=k2.up hT;replace ac:=ac.up hT;replace bS:=bS.up hT;replace ax:=ax.trans hT.mn;clear hT;by_cases hlt:(j:Int)<(q:Int);refine QO ?_;refine CM (ZQ rfl rfl rfl) (ZB [] _ l (3+2 * (j:Int)) 1000000 _ (by decide) (by unfold I64;omega) bS hl) ?_;rintro _ wn ⟨x,rfl,hx,hT⟩;replace k3:=k3.up hT;replace k2:=k2.up hT;replace ac:=ac.up hT;replace bS:=bS.up hT;replace ax:=ax.trans hT.mn;clear hT;refine W ?_;refine CM (ZQ rfl rfl rfl) (ZB [] _ l (4+2 * (j:Int)) 1000000 _ (by decide) (by unfold I64;omega) bS hl) ?_;rintro _ wn ⟨y,rfl,hy,hT⟩;replace k3:=k3.up hT;replace k2:=k2.up hT;replace ac:=ac.up hT;replace bS:=bS.up hT;replace ax:=ax.trans hT.mn;clear hT;refine W ?_;refine Za (vs:=[(0,.I (1+(x:Int) % 4)),(1,.I (1+(x:Int) / 4 % 4)),(7,.I 1),(8,.I 9999),(6,.I ((y:Int) % 3))]) rfl (Zky _ _ _) rfl ?_;have qF:=k3.lt;have qG:=k2.lt;have jN:=ac.ob_le;have qH:=ax.size;refine Z1 Z9 rfl ?_;rintro _ wn ⟨b8,rfl,lJ,k8,hT⟩;replace k3:=k3.up hT;replace k2:=k2.up hT;replace ac:=ac.up hT;replace bS:=bS.up hT;replace ax:=ax.trans hT.mn;clear hT;refine W ?_;have fH:b8≠b2/\b8≠b3/\b8∉ob hv:=⟨by omega,by omega,λh=>by have:=(jN _ h).2;omega⟩
 have bI:w5.heap.size<=b8:=by omega
 generalize eE:1+(x:Int) % 4=m1;generalize dk:1+(x:Int) / 4 % 4=m2;generalize kC:(y:Int) % 3=m3;refine SA (us:=Z8.enc (⟨m1,m2,0,0,0,0,m3,1,9999⟩:Hol)) k8 ?_;rintro _ wn ⟨hT,k8⟩;replace k3:=k3.ext hT (by simp;omega);replace k2:=k2.ext hT (by simp;omega);replace ac:=ac.keep hT (by simp;exact fH.2.2);replace ax:=ax.ow hT;clear hT;replace k8:Blk wn b8 122 [.I m1,.I m2,.I 0,.I 0,.I 0,.I 0,.I m3,.I 1,.I 9999]:=k8;clear bS;refine W ?_
 refine Z0b (σ:=Hol) (λ_=>[(0,v),(2,pQ b2),(3,pQ b3),(5,.I (j:Int)),(8,pQ b8)])
  (λh w'=>Z5f h/\Blk w' b8 122 [.I h.kind,.I h.month,.I h.day,.I h.wd,.I h.nth,.I h.off,.I h.move,.I h.first,.I h.last]/\Blk w' b2 47 ((.agg (cL false false false (.N) (.N) (.I 0) (.N) (.I 0)).toArray:Value).cells.toList)/\Blk w' b3 47 (cL b0 b5 b6 hv (.N) (.I 0) (.N) (.I hr))/\Row [] w' w5.heap.size 122 hv hols/\Stp [b3] w5 w') ?_ ?_
 have hk:m1=1\/m1=2\/m1=3\/m1=4:=by omega
 rcases hk with rfl|rfl|rfl|rfl
 refine W ?_;refine S1 (u:=.I (1+(y:Int) / 3 % 31)) k8 ?_;rintro _ wn ⟨hT,k8⟩;replace k8:Blk wn b8 122 [.I (1),.I (m2),.I (1+(y:Int) / 3 % 31),.I (0),.I (0),.I (0),.I (m3),.I (1),.I (9999)]:=k8;replace k3:=k3.ext hT (by simp;omega);replace k2:=k2.ext hT (by simp;omega);replace ac:=ac.keep hT (by simp;exact fH.2.2);replace ax:=ax.ow hT;clear hT;refine W ?_;have fI:Z5f (⟨1,m2,1+(y:Int) / 3 % 31,0,0,0,m3,1,9999⟩:Hol):=⟨by constructor<;>dsimp only<;>omega,by dsimp only;omega⟩
 exact Zc (⟨1,m2,1+(y:Int) / 3 % 31,0,0,0,m3,1,9999⟩:Hol) ⟨rfl,rfl,rfl,rfl,rfl,trivial⟩ ⟨fI,k8,k2,k3,ac,ax⟩;refine W ?_;refine S1 (u:=.I ((y:Int) / 3 % 7)) k8 ?_;rintro _ wn ⟨hT,k8⟩;replace k8:Blk wn b8 122 [.I (2),.I (m2),.I (0),.I ((y:Int) / 3 % 7),.I (0),.I (0),.I (m3),.I (1),.I (9999)]:=k8;replace k3:=k3.ext hT (by simp;omega);replace k2:=k2.ext hT (by simp;omega);replace ac:=ac.keep hT (by simp;exact fH.2.2);replace ax:=ax.ow hT;clear hT;refine W ?_;refine S1 (u:=.I (1+(y:Int) / 21 % 5)) k8 ?_;rintro _ wn ⟨hT,k8⟩;replace k8:Blk wn b8 122 [.I (2),.I (m2),.I (0),.I ((y:Int) / 3 % 7),.I (1+(y:Int) / 21 % 5),.I (0),.I (m3),.I (1),.I (9999)]:=k8;replace k3:=k3.ext hT (by simp;omega);replace k2:=k2.ext hT (by simp;omega);replace ac:=ac.keep hT (by simp;exact fH.2.2);replace ax:=ax.ow hT;clear hT;refine W ?_;refine S1 (u:=.I (0)) k8 ?_;rintro _ wn ⟨hT,k8⟩;replace k8:Blk wn b8 122 [.I (2),.I (m2),.I (0),.I ((y:Int) / 3 % 7),.I (1+(y:Int) / 21 % 5),.I (0),.I (0),.I (1),.I (9999)]:=k8;replace k3:=k3.ext hT (by simp;omega);replace k2:=k2.ext hT (by simp;omega);replace ac:=ac.keep hT (by simp;exact fH.2.2);replace ax:=ax.ow hT;clear hT;refine W ?_;have fI:Z5f (⟨2,m2,0,(y:Int) / 3 % 7,1+(y:Int) / 21 % 5,0,0,1,9999⟩:Hol):=⟨by constructor<;>dsimp only<;>omega,by dsimp only;omega⟩
 exact Zc (⟨2,m2,0,(y:Int) / 3 % 7,1+(y:Int) / 21 % 5,0,0,1,9999⟩:Hol) ⟨rfl,rfl,rfl,rfl,rfl,trivial⟩ ⟨fI,k8,k2,k3,ac,ax⟩;refine W ?_;refine S1 (u:=.I ((y:Int) / 3 % 7)) k8 ?_;rintro _ wn ⟨hT,k8⟩;replace k8:Blk wn b8 122 [.I (3),.I (m2),.I (0),.I ((y:Int) / 3 % 7),.I (0),.I (0),.I (m3),.I (1),.I (9999)]:=k8;replace k3:=k3.ext hT (by simp;omega);replace k2:=k2.ext hT (by simp;omega);replace ac:=ac.keep hT (by simp;exact fH.2.2);replace ax:=ax.ow hT;clear hT;refine W ?_;refine S1 (u:=.I (0)) k8 ?_;rintro _ wn ⟨hT,k8⟩;replace k8:Blk wn b8 122 [.I (3),.I (m2),.I (0),.I ((y:Int) / 3 % 7),.I (0),.I (0),.I (0),.I (1),.I (9999)]:=k8;replace k3:=k3.ext hT (by simp;omega);replace k2:=k2.ext hT (by simp;omega);replace ac:=ac.keep hT (by simp;exact fH.2.2);replace ax:=ax.ow hT;clear hT;refine W ?_;have fI:Z5f (⟨3,m2,0,(y:Int) / 3 % 7,0,0,0,1,9999⟩:Hol):=⟨by constructor<;>dsimp only<;>omega,by dsimp only;omega⟩
 exact Zc (⟨3,m2,0,(y:Int) / 3 % 7,0,0,0,1,9999⟩:Hol) ⟨rfl,rfl,rfl,rfl,rfl,trivial⟩ ⟨fI,k8,k2,k3,ac,ax⟩;refine W ?_;refine S1 (u:=.I ((y:Int) / 3 % 61 - 10)) k8 ?_;rintro _ wn ⟨hT,k8⟩;replace k8:Blk wn b8 122 [.I (4),.I (m2),.I (0),.I (0),.I (0),.I ((y:Int) / 3 % 61 - 10),.I (m3),.I (1),.I (9999)]:=k8;replace k3:=k3.ext hT (by simp;omega);replace k2:=k2.ext hT (by simp;omega);replace ac:=ac.keep hT (by simp;exact fH.2.2);replace ax:=ax.ow hT;clear hT;refine W ?_;refine S1 (u:=.I (0)) k8 ?_;rintro _ wn ⟨hT,k8⟩;replace k8:Blk wn b8 122 [.I (4),.I (0),.I (0),.I (0),.I (0),.I ((y:Int) / 3 % 61 - 10),.I (m3),.I (1),.I (9999)]:=k8;replace k3:=k3.ext hT (by simp;omega);replace k2:=k2.ext hT (by simp;omega);replace ac:=ac.keep hT (by simp;exact fH.2.2);replace ax:=ax.ow hT;clear hT;refine W ?_;have fI:Z5f (⟨4,0,0,0,0,(y:Int) / 3 % 61 - 10,m3,1,9999⟩:Hol):=⟨by constructor<;>dsimp only<;>omega,by dsimp only;omega⟩
 exact Zc (⟨4,0,0,0,0,(y:Int) / 3 % 61 - 10,m3,1,9999⟩:Hol) ⟨rfl,rfl,rfl,rfl,rfl,trivial⟩ ⟨fI,k8,k2,k3,ac,ax⟩;rintro hh wq ⟨fI,k8,k2,k3,ac,ax⟩;refine W ?_;refine Z1 (Z0 (vs:=[(0,agg hh)]) rfl (ZgS _)) rfl ?_;rintro bw wn hN;have dB:SlV (ob hv++[]) wn bw [hh]:=hN.slv (λb hb=>(ac.ob_le b (by simpa using hb)).2) rfl rfl (by simp [maxLen]);have hT:=Z5.stp hN;clear hN;replace k3:=k3.up hT;replace k2:=k2.up hT;replace ac:=ac.up hT;replace ax:=ax.trans hT.mn;clear hT;have bp:=ac.ob_le;have aP:=ax.size;refine Z1 (ZI (X:=[]) (base:=w5.heap.size) rfl (by decide) rfl rfl ac dB (by simp only [Xh,Xj];omega) (by simp only [Xh,Xj,maxLen];omega) aP) rfl ?_;rintro fb wn ⟨ac,hT,eO⟩;replace k2:=k2.ext hT (λh=>by have:=(bp _ h).1;omega);replace k3:=k3.ext hT (λh=>by have:=(bp _ h).1;omega);replace ax:Stp [b3] w5 wn:=ax.own hT (λc hc=>.inr (bp c hc).1);clear hT;have bo:=ac.ob_le;refine W ?_;refine Zi (Zs (u:=fb) rfl rfl (Row.slv (X:=[]) ac (by simp)).cells (Row.slv (X:=[]) ac (by simp)).one k3 (by simp [cL])) ?_;rintro _ wn ⟨hT,k3⟩;replace k3:Blk wn b3 47 (cL b0 b5 b6 fb (.N) (.I 0) (.N) (.I hr)):=k3;replace k2:=k2.ext hT (by simpa using n23);replace ac:=ac.keep hT (λb hb h=>by have:=bo _ h;simp at hb;omega);replace ax:=ax.trans hT;clear hT;refine W ?_;refine QL (j+1,fb,hols++[hh]) ⟨by dsimp only;omega,by dsimp only;rw [Xf];simp only [Xh,Xj];omega,k2,k3,ac,?_,ax⟩ (by dsimp only;omega);intro z hz;rcases Xd.1 hz with h|h
 exact dg z h;rw [Xn.1 h];exact fI
 . refine QO ?_
   all_goals exact QT (hv,hols) ⟨(by dsimp only;omega),k2,k3,ac,dg,ax⟩
 rintro ⟨hv,hols⟩ w6 ⟨eC,k2,k3,ac,dg,ax⟩;dsimp only at eC k3 ac dg ⊢;have dh:SlV (b2 :: b3 :: X) w6 hv hols:=Row.slv (X:=b2 :: b3 :: X) ac (λb hb=>by
  rcases Xg.1 hb with rfl|hb
  omega;rcases Xg.1 hb with rfl|hb
  omega;have:=hX b hb;omega)
 replace hS:=hS.ow ax;clear ac ax;have qI:=hS.size;have k3lt6:=k3.lt;have k2lt6:=k2.lt;refine W ?_;refine Z0b (σ:=Value×List Clo) (λq=>[(0,v),(2,pQ b2),(3,pQ b3)]) (λq w'=>q.2.length<=3/\(∀ x∈q.2,Z6c x)/\Blk w' b2 47 ((.agg (cL false false false (.N) (.N) (.I 0) (.N) (.I 0)).toArray:Value).cells.toList)/\Blk w' b3 47 (cL b0 b5 b6 hv q.1 (.I 0) (.N) (.I hr))/\Row [] w' w6.heap.size 124 q.1 q.2/\Stp [b3] w6 w') ?_ ?_
 refine ZC (σ:=Nat×Value×List Clo) (λq=>[(0,v),(2,pQ b2),(3,pQ b3),(9,.I (q.1:Int))]) (λq w'=>q.1<=3/\q.2.2.length<=q.1/\(∀ x∈q.2.2,Z6c x)/\Blk w' b2 47 ((.agg (cL false false false (.N) (.N) (.I 0) (.N) (.I 0)).toArray:Value).cells.toList)/\Blk w' b3 47 (cL b0 b5 b6 hv q.2.1 (.I 0) (.N) (.I hr))/\Row [] w' w6.heap.size 124 q.2.1 q.2.2/\Stp [b3] w6 w') (λq=>3 - q.1)
  (0,.N,[]) ⟨rfl,rfl,rfl,rfl,trivial⟩ ⟨by decide,by decide,(by simp),k2,k3,Row.nil,Stp.refl _ _⟩ ?_
 rintro ⟨j,cv,clos⟩ w7 ⟨mb,ai,g7,k2,k3,ac,ax⟩;dsimp only at mb ai k3 ac ⊢;have bS:=hs.up (hS.ow ax);have mc:=ac.ob_le;refine W ?_;refine CM (ZQ rfl rfl rfl) (ZB [] _ l 9 4 _ (by decide) (by unfold I64;omega) bS hl) ?_;rintro _ wn ⟨q,rfl,hq,hT⟩;replace k3:=k3.up hT;replace k2:=k2.up hT;replace ac:=ac.up hT;replace bS:=bS.up hT;replace ax:=ax.trans hT.mn;clear hT;by_cases hlt:(j:Int)<(q:Int);refine QO ?_;refine CM (ZQ rfl rfl rfl) (ZB [] _ l (10+(j:Int)) 1000000 _ (by decide) (by unfold I64;omega) bS hl) ?_;rintro _ wn ⟨x,rfl,hx,hT⟩;replace k3:=k3.up hT;replace k2:=k2.up hT;replace ac:=ac.up hT;replace bS:=bS.up hT;replace ax:=ax.trans hT.mn;clear hT;refine W ?_;refine Za (vs:=[(0,.I (739616+(x:Int) % 120)),(1,.I (739616+(x:Int) % 120+(x:Int) / 120 % 6)),(2,.I (739616+(x:Int) / 720 % 130))]) rfl (ZgT _ _ _) rfl ?_;have kH:Z6c ⟨739616+(x:Int) % 120,739616+(x:Int) % 120+(x:Int) / 120 % 6,739616+(x:Int) / 720 % 130⟩:=by unfold Z6c;dsimp only;omega
 generalize 739616+(x:Int) % 120=lo at kH ⊢;generalize lo+(x:Int) / 120 % 6=hi at kH ⊢;generalize 739616+(x:Int) / 720 % 130=kn at kH ⊢;refine Z1 (Z0 (vs:=[(0,agg (⟨lo,hi,kn⟩:Clo))]) rfl (ZgU _)) rfl ?_;rintro bw wn hN;have dB:SlV (ob cv++[]) wn bw [(⟨lo,hi,kn⟩:Clo)]:=hN.slv (λb hb=>(ac.ob_le b (by simpa using hb)).2) rfl rfl (by simp [maxLen]);have hT:=Z5.stp hN;clear hN;replace k3:=k3.up hT;replace k2:=k2.up hT;replace ac:=ac.up hT;replace ax:=ax.trans hT.mn;clear hT;have bp:=ac.ob_le;have aP:=ax.size;refine Z1 (ZI (X:=[]) (base:=w6.heap.size) rfl (by decide) rfl rfl ac dB (by simp only [Xh,Xj];omega) (by simp only [Xh,Xj,maxLen];omega) aP) rfl ?_;rintro cv' wn ⟨ac,hT,eO⟩;replace k2:=k2.ext hT (λh=>by have:=(bp _ h).1;omega);replace k3:=k3.ext hT (λh=>by have:=(bp _ h).1;omega);replace ax:Stp [b3] w6 wn:=ax.own hT (λc hc=>.inr (bp c hc).1);clear hT;have bo:=ac.ob_le;refine W ?_;refine Zi (Zs (u:=cv') rfl rfl (Row.slv (X:=[]) ac (by simp)).cells (Row.slv (X:=[]) ac (by simp)).one k3 (by simp [cL])) ?_;rintro _ wn ⟨hT,k3⟩;replace k3:Blk wn b3 47 (cL b0 b5 b6 hv cv' (.I 0) (.N) (.I hr)):=k3;replace k2:=k2.ext hT (by simpa using n23);replace ac:=ac.keep hT (λb hb h=>by have:=bo _ h;simp at hb;omega);replace ax:=ax.trans hT;clear hT;refine W ?_;refine Jj (j+1,cv',clos++[(⟨lo,hi,kn⟩:Clo)]) ⟨rfl,rfl,rfl,rfl,trivial⟩ ⟨by dsimp only;omega,by dsimp only;rw [Xf];simp only [Xh,Xj];omega,(λy hy=>by rcases Xd.1 hy with h|h;exact g7 y h;rw [Xn.1 h];exact kH),k2,k3,ac,ax⟩ (by dsimp only;omega)
 . refine QO ?_
   all_goals exact QT (cv,clos) ⟨(by dsimp only;omega),g7,k2,k3,ac,ax⟩
 rintro ⟨cv,clos⟩ w7 ⟨jO,g7,k2,k3,ac,ax⟩;dsimp only at k3 ac ⊢;have aT:SlV (b2 :: b3 :: X) w7 cv clos:=Row.slv (X:=b2 :: b3 :: X) ac (λb hb=>by
  rcases Xg.1 hb with rfl|hb
  omega;rcases Xg.1 hb with rfl|hb
  omega;have:=hX b hb;omega)
 replace dh:SlV (b2 :: b3 :: X) w7 hv hols:=dh.ext ax (by simp) (λ_ h=>.inl h);replace hS:=hS.ow ax;clear ac ax;have bS:=hs.up hS;have qJ:=hS.size;have k3lt7:=k3.lt;have k2lt7:=k2.lt;by_cases cg:13<l.length;refine QO ?_;have nH:=bS.slc (l:=13) (r:=l.length) (by omega) (Xq _);rw [XG] at nH;refine Z2R (l:=13) rfl bS rfl (by simp) (by omega) rfl ?_;refine W ?_;refine CL (Z5e _ (l.drop 13) _ nH (λa ha=>hl a (Yae ha))) ?_;rintro _ w8 ⟨zo,zs,xs,rfl,df,⟨dI,cU,au⟩,hz⟩;have bp:=hz.ob_le;have hT:=hz.2;replace k3:=k3.up hT;replace k2:=k2.up hT;have bg:=hz.1;replace dh:SlV (b2 :: b3 :: (ob zs++X)) w8 hv hols:=dh.ext hT (by simp) (λb hb=>by
  simp at hb;rcases hb with rfl|rfl|hb|hb
  exact .inl (by simp);exact .inl (by simp);exact .inr (bp b hb).1;exact .inl (by simp [hb]))
 replace aT:SlV (b2 :: b3 :: (ob zs++X)) w8 cv clos:=aT.ext hT (by simp) (λb hb=>by
  simp at hb;rcases hb with rfl|rfl|hb|hb
  exact .inl (by simp);exact .inl (by simp);exact .inr (bp b hb).1;exact .inl (by simp [hb]))
 replace hS:=hS.trans hT;have fJ:b3∉ob zs:=λh=>by have:=(bp _ h).1;omega
 have jo:b2∉ob zs:=λh=>by have:=(bp _ h).1;omega
 clear hT hz hs bS;refine W ?_;refine Zi (Z0B (o:=9) (us:=[.I zo,zs]) rfl rfl rfl rfl (by intro u hu;simp at hu;rcases hu with rfl|rfl;exact rfl;exact (Row.slv (X:=[]) bg (by simp)).one) k3 (by simp [cL])) ?_;rintro _ w9 ⟨hT,k3⟩;replace k3:Blk w9 b3 47 (cL b0 b5 b6 hv cv (.I zo) zs (.I hr)):=k3;replace k2:=k2.ext hT (by simpa using n23);replace bg:=bg.keep hT (λb hb h=>by simp at hb;subst hb;exact fJ h);replace dh:=dh.ext (X':=b2 :: b3 :: (ob zs++X)) hT (by simp) (λ_ h=>.inl h);replace aT:=aT.ext (X':=b2 :: b3 :: (ob zs++X)) hT (by simp) (λ_ h=>.inl h);replace hS:=hS.ow hT;clear hT;refine W ?_;refine Z0b (σ:=List Spn) (λq=>[(2,pQ b2),(3,pQ b3)]) (λq w'=>Stp (ob zs) w9 w'/\Row [] w' w7.heap.size 127 zs q/\Z2M zo q) ?_ ?_
 refine ZC (σ:=Nat×List Spn) (λq=>[(2,pQ b2),(3,pQ b3),(13,.I (q.1:Int))]) (λq w'=>q.1<=xs.length/\q.2.length=xs.length/\((∀ i (hi:i<q.2.length),q.1<=i->Z5E q.2[i])/\∀ i (hi:i<q.2.length) (bh:i<xs.length),q.2[i]=if i<q.1 then (xs[i].1+1065047040,xs[i].2) else xs[i])/\Row [] w' w7.heap.size 127 zs q.2/\Stp (ob zs) w9 w') (λq=>xs.length - q.1)
  (0,xs) ⟨rfl,rfl,rfl,trivial⟩ ⟨by dsimp only;omega,rfl,⟨λi hi _=>df _ (Xb hi),λi hi bh=>(if_neg (Xs _)).symm⟩,bg,Stp.refl _ _⟩ ?_
 rintro ⟨j,ys⟩ wa ⟨hj,dL,⟨bR,fK⟩,bg,ax⟩;dsimp only at hj dL bR fK bg ⊢;have k3:=k3.ext ax fJ;have cn:SlV [] wa zs ys:=Row.slv (X:=[]) bg (by simp);rw [<- dL] at hj;by_cases hlt:j<ys.length;refine QO ?_;have dX:=(bR j hlt (Xq _))
 unfold Z5E at dX;refine ZDr 15 [] [14] [(0,0),(1,0),(2,1),(3,0),(4,0),(5,0),(6,1),(7,0),(8,0),(9,0),(10,1),(11,0),(12,0),(13,0),(14,2)] (λw1 ae=>?_);replace k3:=k3.up ae;replace bg:=bg.up ae;replace cn:=cn.up ae;replace ax:=ax.trans ae.mn;clear ae;refine D ?_;refine J2 rfl trivial (Z3z (β:=Spn) (i:=j) (y':=((ys[j].1+1065047040,ys[j].2):Spn)) rfl rfl rfl rfl rfl bg hlt (by decide) rfl) rfl ?_;rintro _ wb ⟨bg,hT⟩;replace ax:=ax.trans hT;refine D ?_;refine W ?_;refine Jj (j+1,ys.set j ((ys[j].1+1065047040,ys[j].2):Spn)) ⟨rfl,rfl,rfl,trivial⟩ ⟨by dsimp only;omega,by dsimp only;rw [X0];exact dL,?_,bg,ax⟩ (by dsimp only;omega);refine ⟨λi hi cV=>?_,λi hi bh=>?_⟩;dsimp only at hi cV ⊢;rw [Yai (by omega)];exact bR i (by rw [X0] at hi;exact hi) (by omega);dsimp only at hi ⊢;have bN:i<ys.length:=by rw [X0] at hi;exact hi
 by_cases e:i=j;subst e;rw [Yaw,if_pos (Xr i),fK i bN bh,if_neg (Ybh i)];rw [Yai (by omega),fK i bN bh];by_cases g:i<j;rw [if_pos g,if_pos (by omega)];rw [if_neg g,if_neg (by omega)]
 . have fL:Z2M zo ys:=Z6d cU dI df au dL (λi hi bh=>by rw [fK i hi bh,if_pos (by omega)])
   refine QO ?_;all_goals exact QT ys ⟨ax,bg,fL⟩
 rintro ys wa ⟨ax,bg,fL⟩;have k3:=k3.ext ax fJ;have k2:=k2.ext ax jo;have dh:=dh.ext (X':=b2 :: b3 :: X) ax (λb h=>by simp [h]) (λb h=>.inl (by simp at h;rcases h with rfl|rfl|h<;>simp [*]));have aT:=aT.ext (X':=b2 :: b3 :: X) ax (λb h=>by simp [h]) (λb h=>.inl (by simp at h;rcases h with rfl|rfl|h<;>simp [*]));replace hS:=hS.own ax (λc hc=>.inr (by have:=(bp _ hc).1;omega));have jP:zs.oneCell'=true:=(Row.slv (X:=[]) bg (by simp)).one;have me:SlV (b2 :: b3 :: X) wa zs ys:=Row.slv (X:=b2 :: b3 :: X) (base:=w7.heap.size) bg (λb hb=>by
  rcases Xg.1 hb with rfl|hb
  omega;rcases Xg.1 hb with rfl|hb
  omega;have:=hX b hb;omega)
 clear ax;refine W ?_;refine SB (us:=cL b0 b5 b6 hv cv (.I zo) zs (.I hr)) (by intro u hu;simp [cL] at hu;rcases hu with rfl|rfl|rfl|rfl|rfl|rfl|rfl|rfl|rfl|rfl|rfl<;>first|exact rfl|exact jP|exact dh.one|exact aT.one) k2 ?_;rintro _ wb ⟨hT,k2⟩;refine W ?_;refine ZP rfl rfl rfl k2 rfl ?_;exact .mk ⟨⟨[b0,false,false,false,false,b5,b6],hols,clos⟩,hv,cv,.I zo,zs,.I hr,rfl,⟨rfl,jP,rfl⟩,⟨⟨rfl,λx hx=>(dg x hx).1,by dsimp only;omega⟩,⟨b0,b5,b6,rfl⟩,eC,jO,g7,λx hx=>(dg x hx).2⟩,dh.ext hT (by simp) (λb h=>.inl (by simp [h])),aT.ext hT (by simp) (λb h=>.inl (by simp [h])),hS.ow hT,zo,ys,hr,rfl,rfl,me.ext hT (by simp) (λb h=>.inl (by simp [h])),fL,eo⟩;refine QO ?_;refine CM (ZN rfl) (Z5e _ [] _ (Row.slv (X:=[]) (Row.nil (base:=0) (T:=0)) (by simp)) (by simp)) ?_;rintro _ w8 ⟨zo,zs,xs,rfl,df,⟨dI,cU,au⟩,hz⟩;have bp:=hz.ob_le;have hT:=hz.2;replace k3:=k3.up hT;replace k2:=k2.up hT;have bg:=hz.1;replace dh:SlV (b2 :: b3 :: (ob zs++X)) w8 hv hols:=dh.ext hT (by simp) (λb hb=>by
  simp at hb;rcases hb with rfl|rfl|hb|hb
  exact .inl (by simp);exact .inl (by simp);exact .inr (bp b hb).1;exact .inl (by simp [hb]))
 replace aT:SlV (b2 :: b3 :: (ob zs++X)) w8 cv clos:=aT.ext hT (by simp) (λb hb=>by
  simp at hb;rcases hb with rfl|rfl|hb|hb
  exact .inl (by simp);exact .inl (by simp);exact .inr (bp b hb).1;exact .inl (by simp [hb]))
 replace hS:=hS.trans hT;have fJ:b3∉ob zs:=λh=>by have:=(bp _ h).1;omega
 have jo:b2∉ob zs:=λh=>by have:=(bp _ h).1;omega
 clear hT hz hs bS;refine W ?_;refine Zi (Z0B (o:=9) (us:=[.I zo,zs]) rfl rfl rfl rfl (by intro u hu;simp at hu;rcases hu with rfl|rfl;exact rfl;exact (Row.slv (X:=[]) bg (by simp)).one) k3 (by simp [cL])) ?_;rintro _ w9 ⟨hT,k3⟩;replace k3:Blk w9 b3 47 (cL b0 b5 b6 hv cv (.I zo) zs (.I hr)):=k3;replace k2:=k2.ext hT (by simpa using n23);replace bg:=bg.keep hT (λb hb h=>by simp at hb;subst hb;exact fJ h);replace dh:=dh.ext (X':=b2 :: b3 :: (ob zs++X)) hT (by simp) (λ_ h=>.inl h);replace aT:=aT.ext (X':=b2 :: b3 :: (ob zs++X)) hT (by simp) (λ_ h=>.inl h);replace hS:=hS.ow hT;clear hT;refine W ?_;refine Z0b (σ:=List Spn) (λq=>[(2,pQ b2),(3,pQ b3)]) (λq w'=>Stp (ob zs) w9 w'/\Row [] w' w7.heap.size 127 zs q/\Z2M zo q) ?_ ?_
 refine ZC (σ:=Nat×List Spn) (λq=>[(2,pQ b2),(3,pQ b3),(13,.I (q.1:Int))]) (λq w'=>q.1<=xs.length/\q.2.length=xs.length/\((∀ i (hi:i<q.2.length),q.1<=i->Z5E q.2[i])/\∀ i (hi:i<q.2.length) (bh:i<xs.length),q.2[i]=if i<q.1 then (xs[i].1+1065047040,xs[i].2) else xs[i])/\Row [] w' w7.heap.size 127 zs q.2/\Stp (ob zs) w9 w') (λq=>xs.length - q.1)
  (0,xs) ⟨rfl,rfl,rfl,trivial⟩ ⟨by dsimp only;omega,rfl,⟨λi hi _=>df _ (Xb hi),λi hi bh=>(if_neg (Xs _)).symm⟩,bg,Stp.refl _ _⟩ ?_
 rintro ⟨j,ys⟩ wa ⟨hj,dL,⟨bR,fK⟩,bg,ax⟩;dsimp only at hj dL bR fK bg ⊢;have k3:=k3.ext ax fJ;have cn:SlV [] wa zs ys:=Row.slv (X:=[]) bg (by simp);rw [<- dL] at hj;by_cases hlt:j<ys.length;refine QO ?_;have dX:=(bR j hlt (Xq _))
 unfold Z5E at dX;refine ZDr 15 [] [14] [(0,0),(1,0),(2,1),(3,0),(4,0),(5,0),(6,1),(7,0),(8,0),(9,0),(10,1),(11,0),(12,0),(13,0),(14,2)] (λw1 ae=>?_);replace k3:=k3.up ae;replace bg:=bg.up ae;replace cn:=cn.up ae;replace ax:=ax.trans ae.mn;clear ae;refine D ?_;refine J2 rfl trivial (Z3z (β:=Spn) (i:=j) (y':=((ys[j].1+1065047040,ys[j].2):Spn)) rfl rfl rfl rfl rfl bg hlt (by decide) rfl) rfl ?_;rintro _ wb ⟨bg,hT⟩;replace ax:=ax.trans hT;refine D ?_;refine W ?_;refine Jj (j+1,ys.set j ((ys[j].1+1065047040,ys[j].2):Spn)) ⟨rfl,rfl,rfl,trivial⟩ ⟨by dsimp only;omega,by dsimp only;rw [X0];exact dL,?_,bg,ax⟩ (by dsimp only;omega);refine ⟨λi hi cV=>?_,λi hi bh=>?_⟩;dsimp only at hi cV ⊢;rw [Yai (by omega)];exact bR i (by rw [X0] at hi;exact hi) (by omega);dsimp only at hi ⊢;have bN:i<ys.length:=by rw [X0] at hi;exact hi
 by_cases e:i=j;subst e;rw [Yaw,if_pos (Xr i),fK i bN bh,if_neg (Ybh i)];rw [Yai (by omega),fK i bN bh];by_cases g:i<j;rw [if_pos g,if_pos (by omega)];rw [if_neg g,if_neg (by omega)]
 . have fL:Z2M zo ys:=Z6d cU dI df au dL (λi hi bh=>by rw [fK i hi bh,if_pos (by omega)])
   refine QO ?_;all_goals exact QT ys ⟨ax,bg,fL⟩
 rintro ys wa ⟨ax,bg,fL⟩;have k3:=k3.ext ax fJ;have k2:=k2.ext ax jo;have dh:=dh.ext (X':=b2 :: b3 :: X) ax (λb h=>by simp [h]) (λb h=>.inl (by simp at h;rcases h with rfl|rfl|h<;>simp [*]));have aT:=aT.ext (X':=b2 :: b3 :: X) ax (λb h=>by simp [h]) (λb h=>.inl (by simp at h;rcases h with rfl|rfl|h<;>simp [*]));replace hS:=hS.own ax (λc hc=>.inr (by have:=(bp _ hc).1;omega));have jP:zs.oneCell'=true:=(Row.slv (X:=[]) bg (by simp)).one;have me:SlV (b2 :: b3 :: X) wa zs ys:=Row.slv (X:=b2 :: b3 :: X) (base:=w7.heap.size) bg (λb hb=>by
  rcases Xg.1 hb with rfl|hb
  omega;rcases Xg.1 hb with rfl|hb
  omega;have:=hX b hb;omega)
 clear ax;refine W ?_;refine SB (us:=cL b0 b5 b6 hv cv (.I zo) zs (.I hr)) (by intro u hu;simp [cL] at hu;rcases hu with rfl|rfl|rfl|rfl|rfl|rfl|rfl|rfl|rfl|rfl|rfl<;>first|exact rfl|exact jP|exact dh.one|exact aT.one) k2 ?_;rintro _ wb ⟨hT,k2⟩;refine W ?_;refine ZP rfl rfl rfl k2 rfl ?_;exact .mk ⟨⟨[b0,false,false,false,false,b5,b6],hols,clos⟩,hv,cv,.I zo,zs,.I hr,rfl,⟨rfl,jP,rfl⟩,⟨⟨rfl,λx hx=>(dg x hx).1,by dsimp only;omega⟩,⟨b0,b5,b6,rfl⟩,eC,jO,g7,λx hx=>(dg x hx).2⟩,dh.ext hT (by simp) (λb h=>.inl (by simp [h])),aT.ext hT (by simp) (λb h=>.inl (by simp [h])),hS.ow hT,zo,ys,hr,rfl,rfl,me.ext hT (by simp) (λb h=>.inl (by simp [h])),fL,eo⟩
end Go.Proofs.YteibicnbkggiiaaGreatDoor
namespace Go.Eng
open Go Go.RowKit Go.Proofs
theorem Z4c:∀ {e:Env} {t:Nat} {v:Value},look e t=some v->(t,v)∈e
 | (k, u) :: r, t, v, h => by
   rw [ZR] at h;by_cases hk:k=t;subst hk;simp at h;subst h;simp;rw [if_neg hk] at h;exact XW _ (Z4c h)
theorem Has.of {n:Nat} {e:Env} {a:Act} (h1:a.defers=[]) (h2:a.tmps.size=n) (h3:∀ p∈e,a.tmps.getD p.1 undef=p.2):Has n e a:=⟨h1,h2,λt v h=>h3 (t,v) (Z4c h)⟩
section
variable {P:Program} {n:Nat} {Q:Exit->Act->World->Prop} {e:Env} {w:World} {ops:Array Oper} {rest:List Oper} {ty:TypeId} {pos:String} {af:Array Edge} {ds:List Deferred}
theorem ZbE {fn:Func} {eP:Frame} {cs:List Frame} {u':FrameMode} {R:Ending->FrameMode->World->Prop} {c:Code} {a:Act} (ha:Has n e a) (h:WC P n c (bodyPost P fn (λx w=>R x u' w)) e w) :
 c.wpS P (bodyPostS P fn eP cs R) a ({ eP with mode:=u' } :: cs) w:=by
 refine wpS_of_wp (wp_mono (h.h a ha) λex a' w' hq=>?_);cases ex with
 | normal=>obtain ⟨hd,v,hr,hR⟩:=hq;exact ⟨hd,u',rfl,v,hr,hR⟩
 | ret=>obtain ⟨hd,v,hr,hR⟩:=hq;exact ⟨hd,u',rfl,v,hr,hR⟩
 | panic ch=>obtain ⟨hd,hR⟩:=hq;exact ⟨hd,u',rfl,hR⟩
 | exit i=>exact hq.elim
 | goto l=>exact hq.elim
 | outgrown=>exact ⟨u',hq⟩
theorem Z6S {f:FuncId} {fn:Func} {c:Code} {args:Array Value} {w} {R:Ending->World->Prop} {n:Nat} (hf:P.funcs[f]?=some fn) (hb:fn.body=some c)
 (hn:fn.ntmps=n) (hs:Nat.ble args.size n=true) (h:WC P n c (bodyPostD P fn R) (Z2P args.toList 0) w):Calls P f args w R:=by
 refine calls_of_wp_defers hf hb (h.h _ ?_);rw [hn];have cV:args.size<=n:=Xe hs;refine ⟨rfl,by simp;omega,λt v hv=>?_⟩;obtain ⟨_,h2⟩:=Z3T _ _ _ _ hv;simp only [Nat.sub_zero] at h2;have hlt:t<args.size:=by
  have:=(Xu.1 h2).1;simpa using this
 have:args[t]?=some v:=by simpa using h2
 have h3:(args++Array.replicate (n - args.size) undef)[t]?=some v:=by
  rw [Yau hlt];exact this
 simp [XD,h3]
theorem Zed {y:Code} {t:Operand} {fv:Fn} {cap:Array Value} (hc:ev e t=some (.func fv #[] cap)) {ts:Array TypeId}
 (h:WCD [{ target:=.fn fv cap,args:=#[] }] P n y Q e w) :
 WL P n ops (Exit.then (λa w=>y.wp P Q a w) Q) [⟨none,.defer { callee:=.value t,args:=#[],argTypes:=ts },ty,pos,af,none⟩] e w:=by
 refine ⟨λa ha=>?_⟩;refine wpList_plain rfl (λK hK=>?_);unfold Oper.wp;have he:(execOp a.eval ⟨none,.defer { callee:=.value t,args:=#[],argTypes:=ts },ty,pos,af,none⟩).run P w=.ok (.defer { target:=.fn fv cap,args:=#[] }) w:=by
  simp [execOp,resolve,ha.ev hc,Deferred.ofValue]
 rw [he];simp only [Oper.upon];refine hK _ _ ?_;have hd:({ a with defers:={ target:=.fn fv cap,args:=#[] } :: a.defers }:Act)=Z0N [{ target:=.fn fv cap,args:=#[] }] a:=by
  unfold Z0N;rw [ha.defers];rfl
 show wpList P ops _ [] (Act.put { a with defers:=_ } none undef) w;rw [hd];exact wpList_nil (h.h a ha)
theorem Z9y {fn fn':Func} {tmps:Array Value} {R:Ending->World->Prop} {f:FuncId} {cap:Array Value} {u:FrameMode} (hu:u≠.run) [hf:Fun P f fn'] {G:Value->FrameMode->World->Prop}
 (h:CallsD P f cap u w λe u' w'=>∃ v,e=.returned v/\G v u' w') (hk:∀ v u' w',G v u' w'->settle u'=.returning/\∃ r,(results fn tmps).run P w'=.ok r w'/\R (.returned r) w') :
 Leaves P fn tmps R [{ target:=.fn (.func f) cap,args:=#[] }] u w:=by
 refine leaves_cons (f:=f) (args:=cap) hu ?_ (h.mono λe u' w' ⟨v,h1,h2⟩=>?_);simp [invoke];exact hf.enters cap w;subst h1;obtain ⟨h3,r,h4,h5⟩:=hk v u' w' h2;show Leaves P fn tmps R [] (settle u') w';rw [h3];exact ⟨r,h4,h5⟩
theorem Z5F {d:Option Nat} {g:Option (Nat×Bool)} {x:Operand} {t s:TypeId} {u v:Value} (hx:ev e x=some u) (hb:∀ w,(Instr.typeAssert u t s true).run P w=.ok v w):PR P n ⟨d,.typeAssert x t s true,ty,pos,af,g⟩ e w v:=
 ⟨λa ha=>by simp [execOp,ha.ev hx,hb]⟩
end
end Go.Eng
namespace Go.Proofs.YteibicnbkggiiaaGreatDoor
open Go Go.Eng Go.RowKit Go.Proofs
theorem Zee (r:Rul) (p:Option Addr) (a c:Nat) (p':Option Addr) (a' c':Nat) (w):(Instr.buildSlice 76 1 #[(0,.agg (rlC r (.slice p a c) (.slice p' a' c')).toArray)]).run Tryz.prog w=.ok (.slice (some ⟨w.heap.size,0,none⟩) 1 1) (w.alloc (.cells (rlC r (.slice p a c) (.slice p' a' c')).toArray 84)):=by kernel_rfl
theorem Zkz {X:List Nat} {w} {r:Rul} {cs:List Value} (h:Z3.rep X w r cs):∀ i (hi:i < [r].length) (bh:i < [cs].length),Z3.rep X w [r][i] [cs][i]
 | 0,_,_=>h
theorem Z9z (X:List Nat) (v:Value) (l:List Int) (m:Nat) (w) (hs:SlV X w v l) (hl:∀ a∈l,I64 a) (hm:m<=100000):CC 11 #[v,.I (m:Int)] w λr w'=>J7 3 w w' r (l.take m):=by
 have aW:=hs.max;refine cW2 14 Tryz.func11 ?_;refine W ?_;have gJ:min (l.length:Int) (m:Int)=((min l.length m:Nat):Int):=by omega
 refine Zf (Z1v (r:=min l.length m) rfl hs rfl (by omega) (Nat.min_le_left _ _)) rfl ?_;have au:SlV X w _ (l.take (min l.length m)):=hs.slc (Xo (min l.length m)) (Nat.min_le_left _ _);refine Z1 (Jy rfl (by decide) rfl rfl (J7.nil (w:=w)) (ys:=l.take (min l.length m)) (au.wk (by simp [ob])) (by simp;omega) (by simp [maxLen];omega)) rfl ?_;rintro v' w1 ⟨ac,-,-⟩;refine W ?_;refine WR ?_;refine .mk ?_;have e:l.take (min l.length m)=l.take m:=by rw [Nat.min_comm,<- YaD,XG]
 rw [XH,e] at ac;exact ac
theorem Zef (p:Option Addr) (l c:Nat) (w):(Instr.build 131 #[(0,.slice p l c)]).run Tryz.prog w=.ok (.agg #[.slice p l c,.I 0]) w:=by kernel_rfl
theorem ZbF (X:List Nat) (lv:Value) (l:List Int) (w:World) (hX:∀ b∈X,b<w.heap.size) (hs:SlV [] w lv l) (hl:∀ a∈l,I64 a):CC 22 #[lv] w λr w'=>∃ rs:List RuleM,rs.length<=4/\(∀ x∈rs,Z4Y x)/\SlV X w' r (rs.map RuleM.rul)/\Stp [] w w':=by
 refine cW1 24 Tryz.func22 ?_;refine W ?_;refine CM (Zj rfl rfl) (Z9z [] lv l 120 _ hs hl (by decide)) ?_;rintro v w1 cD;have au:=cD.slv (X:=[]) (by simp);have hS:=cD.2;have da:∀ a∈l.take 120,I64 a:=λa ha=>hl a (Yay ha);clear cD;generalize l.take 120=l' at *;obtain ⟨p,c,rfl,-⟩:=id au;refine W ?_;apply Za (vs:=[(0,.slice p l'.length c)]) rfl (Zef _ _ _) rfl;refine Z1 (Zp rfl) rfl ?_;rintro _ w2 ⟨bm,rfl,ly,ap,hT⟩;replace ap:Mk3 w2 bm (.slice p l'.length c) 0:=ap;replace au:SlV [bm] w2 (.slice p l'.length c) l':=au.ext hT (by simp) (λb h=>.inr (by simp at h;omega));have dB:w.heap.size<=bm:=Xl hS.size ly;replace hS:=hS.trans hT;clear hT ly;refine W ?_;refine CM (Zj rfl rfl) (Jw bm _ l' _ 5 _ (by decide) (by omega) ap au da) ?_;rintro _ w3 ⟨k,rfl,hk,ap,hT⟩;replace au:=au.ext hT (λ_ h=>h) (λ_ h=>.inl h);have hlt:=ap.lt;refine W ?_
 refine ZC (σ:=Nat×List RuleM×Value×Nat) (λq=>[(3,pQ bm),(4,q.2.2.1),(5,.I (k:Int)),(6,.I (q.1:Int))])
  (λq w'=>q.1<=k/\q.2.1.length=q.1/\(∀ x∈q.2.1,Z4Y x)/\q.2.2.2<=1+300 * q.1/\Mk3 w' bm (.slice p l'.length c) q.2.2.2/\Row (bm :: X) w' w3.heap.size 84 q.2.2.1 (q.2.1.map RuleM.rul)/\Stp [bm] w3 w')
  (λq=>k - q.1) (0,[],.N,1) ⟨rfl,rfl,rfl,rfl,trivial⟩ ⟨Xo _,rfl,by simp,by simp,ap,Row.nil,Stp.refl _ _⟩ ?_
 have aq:=hS.ow hT;have mf:=au;clear ap au hS hT;rintro ⟨i,rs,v,at_⟩ w4 ⟨hi,ai,ar,gK,ap,ac,hS⟩;dsimp only at hi ai ar gK ap ac ⊢;have br:=hS.size;by_cases gT:i<k;refine QO ?_;have mg:∀ b∈ob v++bm :: X,b<w4.heap.size:=λb hb=>by
  rcases Xd.1 hb with h|h
  exact (ac.ob_le b h).2;rcases Xg.1 h with rfl|h
  omega;have:=hX b h;have:=aq.size;omega
 refine CM (ZN rfl) (Zbd (ob v++bm :: X) bm _ l' _ _ ap (mf.ext hS (λ_ h=>h) (λ_ h=>.inl h)) da (by omega) mg) ?_;rintro _ w5 ⟨r,i',⟨ki,kd,rfl,iQ,cI⟩,hr,ap,bh,hT⟩;replace ac:=ac.ext (X':=bm :: X) hT (λb hb=>by
  simp only [Xn] at hb;subst hb;exact ⟨by simp,λh=>by have:=(ac.ob_le b h).1;omega⟩) (λb hb=>.inl hb)
 have mh:∀ b∈ob v++bm :: X,b<w5.heap.size:=λb hb=>Xc (mg b hb) hT.size;replace hS:=hS.trans hT;clear hT mg;obtain ⟨p1,c1,rfl,-⟩:=id iQ;obtain ⟨p2,c2,rfl,-⟩:=id cI;refine Z1 (Z0 (vs:=[(0,.agg (rlC r.rul (.slice p1 r.rul.cnd.kids.length c1) (.slice p2 r.rul.due.kids.length c2)).toArray)]) rfl (Zee _ _ _ _ _ _ _)) rfl ?_;intro bv w6 hN;have aH:SlV (ob v++bm :: X) w6 bv [r.rul]:=hN.slvG (css:=[rlC r.rul _ _]) mh rfl rfl (by simp) (Zkz ⟨_,_,rfl,iQ,cI⟩) (by simp [maxLen]);have hT:=Z5.stp hN;replace ap:=ap.up hT;replace ac:=ac.up hT;replace hS:=hS.trans hT.mn;clear hT hN iQ cI;have qK:=hS.size;have lx:(rs.map RuleM.rul).length=i:=by rw [X1,ai]
 refine Z1 (ZI (X:=bm :: X) (base:=w3.heap.size) rfl (by decide) rfl rfl ac aH (by simp only [Xh,Xj,X1];omega) (by simp only [Xh,Xj,X1,maxLen];omega) qK) rfl ?_;rintro rv' w7 ⟨aK,hT,bM⟩;have gC:∀ c∈ob v,w3.heap.size<=c:=λc hc=>(ac.ob_le c hc).1;replace ap:=ap.ext hT (λh=>by have:=gC _ h;omega);replace hS:=hS.own hT (λc hc=>.inr (gC c hc));clear hT;refine W ?_;refine QL (i+1,rs++[r],rv',i') ⟨gT,by simp [ai],?_,Xl bh (Xl (Nat.add_le_add_right gK 300) (Nat.le_of_eq (by rw [Nat.mul_add,YaA]))),ap,?_,hS⟩ (by dsimp only;omega);intro x hx;rcases Xd.1 hx with h|h
 exact ar x h;simp at h;subst h;exact hr;rw [XR];exact aK;refine QO ?_;refine WR ?_;refine .mk ⟨rs,by omega,ar,(ac.slv (λb hb=>by
  rcases Xg.1 hb with rfl|h
  exact hlt;have:=hX b h;have:=aq.size;omega)).wk (by simp;exact λ_ h=>.inr h),aq.ow hS⟩
abbrev rlN (s:Str):Rul:=⟨s,0,s,.mk 2 0 [] [],.mk 3 0 [] [],[],[]⟩
theorem ckN (s:Str):decide (Z0p (rlN s)=0)=Zh s:=by
 have m1:Z10 (.mk 2 0 [] []) 2=0:=by
  unfold Z10;rw [show Zx (.mk 2 0 [] [])=1 by simp only [JG,Nd.kids,X6];rfl,show Ze (.mk 2 0 [] [])=2 by simp only [JW,Nd.kids,Nd.kind,Nd.num,Nd.word,X6];rfl];decide
 have m2:Z10 (.mk 3 0 [] []) 3=0:=by
  unfold Z10;rw [show Zx (.mk 3 0 [] [])=1 by simp only [JG,Nd.kids,X6];rfl,show Ze (.mk 3 0 [] [])=3 by simp only [JW,Nd.kids,Nd.kind,Nd.num,Nd.word,X6];rfl];decide
 have hn:ZS (rlN s)=Zh s:=by simp [ZS]
 unfold Z0p;rw [hn,m1,m2];cases Zh s<;>simp
theorem Z81 (k:Int) (w):(Instr.build 82 #[(0,.I k)]).run Tryz.prog w=.ok (.agg #[.I k,.I 0,str [],.N]) w:=by kernel_rfl
theorem Z0P (s:Str) (m:Int) (w) (hF:SlV [] w Z1R Zb) (hm:w.cell? ⟨2,0,none⟩=some (.I m)) :
 CC 67 #[str s] w λr w'=>r=.B (Zh s)/\Stp [] w w':=by
 refine cW1 12 Tryz.func67 ?_;refine W ?_;apply Za (vs:=[(0,.I 2)]) rfl (Z81 _) rfl;apply Za (vs:=[(0,.I 3)]) rfl (Z81 _) rfl;apply Za (vs:=[(0,str s),(2,str s),(3,.agg #[.I 2,.I 0,str [],.N]),(4,.agg #[.I 3,.I 0,str [],.N])]) rfl (ZdU _ _ _ _ _ _ _ _ _ _ _ _ _ _) rfl;refine Z1 Z9 rfl ?_;rintro _ w1 ⟨b,rfl,hb,e0,hT⟩;refine SB (us:=rlC (rlN s) Z19 Z19) (Z6H (rlN s) (Zg (α:=Nd) [] w) (Zg (α:=Nd) [] w)) e0 ?_;rintro _ w2 ⟨aQ,e1⟩;have hS:=hT.ow aQ;clear hT aQ e0;refine W ?_;refine CM (ZN rfl) (Z7F _ (rlN s) m _ ⟨Z19,Z19,rfl,Zg _ _,Zg _ _⟩ (hF.up hS) (hS.cell (by simp) hm)) ?_;rintro _ w3 ⟨rfl,hT⟩;replace hS:=hS.trans hT;refine RT ?_;exact ⟨by rw [<- ckN s],hS⟩
def JA (q:Cr):Bool:=decide ((Z01 q.cnd).2≠0) || decide ((Z01 q.due).2≠0) || decide ((Z01 q.cnd).1≠2) || decide ((Z01 q.due).1≠3) || decide (q.frm<0) || decide (q.frm > 3652058) || !Zh q.name || !Zh q.on || (decide (q.unl≠[]) && !Zh q.unl) || (decide (q.els≠[]) && !Zh q.els)
def chkC (q:Cr):Int:=if JA q then 22 else 0
theorem Z9A (v:Value) (q:Cr) (w) (m:Int) (hF:SlV [] w Z1R Zb) (hm:w.cell? ⟨2,0,none⟩=some (.I m)) (hv:CrV [] w v q) :
 CC 28 #[v] w λr w'=>r=.I (chkC q)/\Stp [] w w':=by
 obtain ⟨kc,kd,rfl,aU,bi⟩:=hv;refine cW1 60 Tryz.func28 ?_;refine W ?_;refine Z1 (Zp rfl) rfl ?_;rintro _ w1 ⟨b,rfl,hb,e1,hS⟩;replace e1:Blk w1 b 27 (crC q kc kd):=e1;replace aU:=aU.up hS;replace bi:=bi.up hS;clear hb;refine W ?_;refine CL (Z55 _ q.cnd _ aU) ?_;rintro _ w2 ⟨rfl,hT⟩;replace e1:=e1.up hT;replace aU:=aU.up hT;replace bi:=bi.up hT;replace hS:=hS.trans hT;clear hT;refine W ?_;refine CL (Z55 _ q.due _ bi) ?_;rintro _ w2 ⟨rfl,hT⟩;replace e1:=e1.up hT;replace aU:=aU.up hT;replace bi:=bi.up hT;replace hS:=hS.trans hT;clear hT;refine W ?_;refine JI (σ:=Bool) (λu=>[(1,pQ b),(2,.I 0),(19,.B u)]) (λu w'=>Blk w' b 27 (crC q kc kd)/\Stp [] w w'/\u=JA q) ?_ ?_
 . repeat'(first|refine W1 ?_|omega|refine VG ?_ ?_<;>intro hg|refine VC ?_ ?_<;>intro hc)
   all_goals try (first|exact Zc true ⟨rfl,rfl,rfl,trivial⟩ ⟨e1,hS,by simp [JA, *]⟩|exact Zc false ⟨rfl,rfl,rfl,trivial⟩ ⟨e1,hS,by simp [JA, *]⟩|exact Zc _ ⟨rfl,rfl,rfl,trivial⟩ ⟨e1,hS,by simp [JA, *]⟩)
   refine W ?_;refine CM (ZN rfl) (Z0P q.name m _ (hF.up hS) (hS.cell (by simp) hm)) ?_;rintro _ w3 ⟨rfl,hT⟩;replace e1:=e1.up hT;replace aU:=aU.up hT;replace bi:=bi.up hT;replace hS:=hS.trans hT;clear hT;cases hn_name:Zh q.name with
   | false=>
     refine QO ?_;all_goals (first|exact Zc true ⟨rfl,rfl,rfl,trivial⟩ ⟨e1,hS,by simp [JA, *]⟩|exact Zc false ⟨rfl,rfl,rfl,trivial⟩ ⟨e1,hS,by simp [JA, *]⟩|exact Zc _ ⟨rfl,rfl,rfl,trivial⟩ ⟨e1,hS,by simp [JA, *]⟩)
   | true=>
     refine QO ?_;refine W ?_;refine CM (ZN rfl) (Z0P q.on m _ (hF.up hS) (hS.cell (by simp) hm)) ?_;rintro _ w3 ⟨rfl,hT⟩;replace e1:=e1.up hT;replace aU:=aU.up hT;replace bi:=bi.up hT;replace hS:=hS.trans hT;clear hT;cases hn_on:Zh q.on with
     | false=>
       refine QO ?_;all_goals (first|exact Zc true ⟨rfl,rfl,rfl,trivial⟩ ⟨e1,hS,by simp [JA, *]⟩|exact Zc false ⟨rfl,rfl,rfl,trivial⟩ ⟨e1,hS,by simp [JA, *]⟩|exact Zc _ ⟨rfl,rfl,rfl,trivial⟩ ⟨e1,hS,by simp [JA, *]⟩)
     | true=>
       repeat'(first|refine W1 ?_|omega|refine VG ?_ ?_<;>intro hg|refine VC ?_ ?_<;>intro hc)
       . refine W ?_
         refine CM (ZN rfl) (Z0P q.unl m _ (hF.up hS) (hS.cell (by simp) hm)) ?_;rintro _ w3 ⟨rfl,hT⟩;replace e1:=e1.up hT;replace aU:=aU.up hT;replace bi:=bi.up hT;replace hS:=hS.trans hT;clear hT;cases hn_unl:Zh q.unl with
         | false=>
           refine QO ?_;all_goals (first|exact Zc true ⟨rfl,rfl,rfl,trivial⟩ ⟨e1,hS,by simp [JA, *]⟩|exact Zc false ⟨rfl,rfl,rfl,trivial⟩ ⟨e1,hS,by simp [JA, *]⟩|exact Zc _ ⟨rfl,rfl,rfl,trivial⟩ ⟨e1,hS,by simp [JA, *]⟩)
         | true=>
           (refine QP ?_ ?_<;>intro hg)
           . refine W ?_
             refine CM (ZN rfl) (Z0P q.els m _ (hF.up hS) (hS.cell (by simp) hm)) ?_;rintro _ w3 ⟨rfl,hT⟩;replace e1:=e1.up hT;replace aU:=aU.up hT;replace bi:=bi.up hT;replace hS:=hS.trans hT;clear hT;cases hn_els:Zh q.els with
             | false=>
               refine QO ?_;all_goals (first|exact Zc true ⟨rfl,rfl,rfl,trivial⟩ ⟨e1,hS,by simp [JA, *]⟩|exact Zc false ⟨rfl,rfl,rfl,trivial⟩ ⟨e1,hS,by simp [JA, *]⟩|exact Zc _ ⟨rfl,rfl,rfl,trivial⟩ ⟨e1,hS,by simp [JA, *]⟩)
             | true=>
               refine QO ?_;all_goals (first|exact Zc true ⟨rfl,rfl,rfl,trivial⟩ ⟨e1,hS,by simp [JA, *]⟩|exact Zc false ⟨rfl,rfl,rfl,trivial⟩ ⟨e1,hS,by simp [JA, *]⟩|exact Zc _ ⟨rfl,rfl,rfl,trivial⟩ ⟨e1,hS,by simp [JA, *]⟩)
           all_goals (first|exact Zc true ⟨rfl,rfl,rfl,trivial⟩ ⟨e1,hS,by simp [JA, *]⟩|exact Zc false ⟨rfl,rfl,rfl,trivial⟩ ⟨e1,hS,by simp [JA, *]⟩|exact Zc _ ⟨rfl,rfl,rfl,trivial⟩ ⟨e1,hS,by simp [JA, *]⟩)
       . refine W ?_
         refine CM (ZN rfl) (Z0P q.els m _ (hF.up hS) (hS.cell (by simp) hm)) ?_;rintro _ w3 ⟨rfl,hT⟩;replace e1:=e1.up hT;replace aU:=aU.up hT;replace bi:=bi.up hT;replace hS:=hS.trans hT;clear hT;cases hn_els:Zh q.els with
         | false=>
           refine QO ?_;all_goals (first|exact Zc true ⟨rfl,rfl,rfl,trivial⟩ ⟨e1,hS,by simp [JA, *]⟩|exact Zc false ⟨rfl,rfl,rfl,trivial⟩ ⟨e1,hS,by simp [JA, *]⟩|exact Zc _ ⟨rfl,rfl,rfl,trivial⟩ ⟨e1,hS,by simp [JA, *]⟩)
         | true=>
           refine QO ?_;all_goals (first|exact Zc true ⟨rfl,rfl,rfl,trivial⟩ ⟨e1,hS,by simp [JA, *]⟩|exact Zc false ⟨rfl,rfl,rfl,trivial⟩ ⟨e1,hS,by simp [JA, *]⟩|exact Zc _ ⟨rfl,rfl,rfl,trivial⟩ ⟨e1,hS,by simp [JA, *]⟩)
       all_goals (first|exact Zc true ⟨rfl,rfl,rfl,trivial⟩ ⟨e1,hS,by simp [JA, *]⟩|exact Zc false ⟨rfl,rfl,rfl,trivial⟩ ⟨e1,hS,by simp [JA, *]⟩|exact Zc _ ⟨rfl,rfl,rfl,trivial⟩ ⟨e1,hS,by simp [JA, *]⟩)
 rintro u w4 ⟨e1,hS,hu⟩
 try dsimp only at hu ⊢
 unfold chkC;rw [<- hu];cases u with
 | true=>
   refine RT ?_;exact ⟨rfl,hS⟩
 | false=>
   refine RT ?_;exact ⟨rfl,hS⟩
def okC (q:Cr):Bool:=Zh q.name && Zh q.on && (decide (q.unl=[]) || Zh q.unl) && (decide (q.els=[]) || Zh q.els)
theorem ZgV (q:Cr):JA q=(!okC q || decide (q.frm<0) || decide (q.frm > 3652058) || decide ((Z01 q.cnd).2≠0) || decide ((Z01 q.due).2≠0) || decide ((Z01 q.cnd).1≠2) || decide ((Z01 q.due).1≠3)):=by
 unfold JA okC;generalize decide ((Z01 q.cnd).2≠0)=a1;generalize decide ((Z01 q.due).2≠0)=a2;generalize decide ((Z01 q.cnd).1≠2)=a3;generalize decide ((Z01 q.due).1≠3)=a4;generalize decide (q.frm<0)=a5;generalize decide (q.frm > 3652058)=a6;generalize Zh q.name=a7;generalize Zh q.on=a8;generalize Zh q.unl=a9;generalize Zh q.els=b1;have h1:decide (q.unl≠[])=!decide (q.unl=[]):=by simp
 have h2:decide (q.els≠[])=!decide (q.els=[]):=by simp
 rw [h1,h2];generalize decide (q.unl=[])=b2;generalize decide (q.els=[])=b3;simp only [Bool.not_and,Bool.not_or]
 ac_rfl
theorem Z82 (v:Value) (q:Cr) (w) (hv:CrV [] w v q) :
 CC 74 #[v] w λr w'=>r=.I (chkC q)/\Stp [] w w':=by
 obtain ⟨kc,kd,rfl,aU,bi⟩:=hv;refine cW1 76 Tryz.func74 ?_;refine W ?_;refine Z1 (Zp rfl) rfl ?_;rintro _ w1 ⟨b,rfl,hb,e1,hS⟩;replace e1:Blk w1 b 27 (crC q kc kd):=e1;replace aU:=aU.up hS;replace bi:=bi.up hS;clear hb;refine W ?_;refine CL (Z46 _ q.cnd _ aU) ?_;rintro _ w2 ⟨rfl,hT⟩;replace e1:=e1.up hT;replace aU:=aU.up hT;replace bi:=bi.up hT;replace hS:=hS.trans hT;clear hT;refine W ?_;refine CL (Z46 _ q.due _ bi) ?_;rintro _ w2 ⟨rfl,hT⟩;replace e1:=e1.up hT;replace aU:=aU.up hT;replace bi:=bi.up hT;replace hS:=hS.trans hT;clear hT;refine W ?_;refine Z2u (σ:=Bool) (λu=>[(1,pQ b),(2,.I 0),(3,.I (Z01 q.cnd).1),(4,.I (Z01 q.cnd).2),(5,.I (Z01 q.due).1),(6,.I (Z01 q.due).2),(7,.B u)]) (λu w'=>Blk w' b 27 (crC q kc kd)/\Stp [] w w'/\u=okC q) ?_ ?_
 . refine W ?_
   refine CL (ZZ q.name _) ?_;rintro _ w3 ⟨rfl,hT⟩;replace e1:=e1.up hT;replace aU:=aU.up hT;replace bi:=bi.up hT;replace hS:=hS.trans hT;clear hT;cases hn_name:Zh q.name with
   | false=>
     refine QO ?_;all_goals (first|exact Zc true ⟨rfl,rfl,rfl,rfl,rfl,rfl,rfl,trivial⟩ ⟨e1,hS,by simp [okC, *]⟩|exact Zc false ⟨rfl,rfl,rfl,rfl,rfl,rfl,rfl,trivial⟩ ⟨e1,hS,by simp [okC, *]⟩|exact Zc _ ⟨rfl,rfl,rfl,rfl,rfl,rfl,rfl,trivial⟩ ⟨e1,hS,by simp [okC, *]⟩)
   | true=>
     refine W ?_;refine CL (ZZ q.on _) ?_;rintro _ w3 ⟨rfl,hT⟩;replace e1:=e1.up hT;replace aU:=aU.up hT;replace bi:=bi.up hT;replace hS:=hS.trans hT;clear hT;cases hn_on:Zh q.on with
     | false=>
       refine QO ?_;all_goals (first|exact Zc true ⟨rfl,rfl,rfl,rfl,rfl,rfl,rfl,trivial⟩ ⟨e1,hS,by simp [okC, *]⟩|exact Zc false ⟨rfl,rfl,rfl,rfl,rfl,rfl,rfl,trivial⟩ ⟨e1,hS,by simp [okC, *]⟩|exact Zc _ ⟨rfl,rfl,rfl,rfl,rfl,rfl,rfl,trivial⟩ ⟨e1,hS,by simp [okC, *]⟩)
     | true=>
       by_cases hu:q.unl=[]
       . repeat'(first|refine W1 ?_|omega|refine VG ?_ ?_<;>intro hg|refine VC ?_ ?_<;>intro hc)
         all_goals try contradiction
         all_goals try (first|exact Zc true ⟨rfl,rfl,rfl,rfl,rfl,rfl,rfl,trivial⟩ ⟨e1,hS,by simp [okC, *]⟩|exact Zc false ⟨rfl,rfl,rfl,rfl,rfl,rfl,rfl,trivial⟩ ⟨e1,hS,by simp [okC, *]⟩|exact Zc _ ⟨rfl,rfl,rfl,rfl,rfl,rfl,rfl,trivial⟩ ⟨e1,hS,by simp [okC, *]⟩)
         by_cases he:q.els=[]
         . repeat'(first|refine W1 ?_|omega|refine VG ?_ ?_<;>intro hg|refine VC ?_ ?_<;>intro hc)
           all_goals try contradiction
           all_goals (first|exact Zc true ⟨rfl,rfl,rfl,rfl,rfl,rfl,rfl,trivial⟩ ⟨e1,hS,by simp [okC, *]⟩|exact Zc false ⟨rfl,rfl,rfl,rfl,rfl,rfl,rfl,trivial⟩ ⟨e1,hS,by simp [okC, *]⟩|exact Zc _ ⟨rfl,rfl,rfl,rfl,rfl,rfl,rfl,trivial⟩ ⟨e1,hS,by simp [okC, *]⟩)
         repeat'(first|refine W1 ?_|omega|refine VG ?_ ?_<;>intro hg|refine VC ?_ ?_<;>intro hc)
         all_goals try contradiction
         all_goals try (first|exact Zc true ⟨rfl,rfl,rfl,rfl,rfl,rfl,rfl,trivial⟩ ⟨e1,hS,by simp [okC, *]⟩|exact Zc false ⟨rfl,rfl,rfl,rfl,rfl,rfl,rfl,trivial⟩ ⟨e1,hS,by simp [okC, *]⟩|exact Zc _ ⟨rfl,rfl,rfl,rfl,rfl,rfl,rfl,trivial⟩ ⟨e1,hS,by simp [okC, *]⟩)
         refine W ?_;refine CL (ZZ q.els _) ?_;rintro _ w3 ⟨rfl,hT⟩;replace e1:=e1.up hT;replace aU:=aU.up hT;replace bi:=bi.up hT;replace hS:=hS.trans hT;clear hT;cases hn_els:Zh q.els with
         | false=>
           refine QO ?_;all_goals (first|exact Zc true ⟨rfl,rfl,rfl,rfl,rfl,rfl,rfl,trivial⟩ ⟨e1,hS,by simp [okC, *]⟩|exact Zc false ⟨rfl,rfl,rfl,rfl,rfl,rfl,rfl,trivial⟩ ⟨e1,hS,by simp [okC, *]⟩|exact Zc _ ⟨rfl,rfl,rfl,rfl,rfl,rfl,rfl,trivial⟩ ⟨e1,hS,by simp [okC, *]⟩)
         | true=>
           refine QO ?_;all_goals (first|exact Zc true ⟨rfl,rfl,rfl,rfl,rfl,rfl,rfl,trivial⟩ ⟨e1,hS,by simp [okC, *]⟩|exact Zc false ⟨rfl,rfl,rfl,rfl,rfl,rfl,rfl,trivial⟩ ⟨e1,hS,by simp [okC, *]⟩|exact Zc _ ⟨rfl,rfl,rfl,rfl,rfl,rfl,rfl,trivial⟩ ⟨e1,hS,by simp [okC, *]⟩)
       repeat'(first|refine W1 ?_|omega|refine VG ?_ ?_<;>intro hg|refine VC ?_ ?_<;>intro hc)
       all_goals try contradiction
       all_goals try (first|exact Zc true ⟨rfl,rfl,rfl,rfl,rfl,rfl,rfl,trivial⟩ ⟨e1,hS,by simp [okC, *]⟩|exact Zc false ⟨rfl,rfl,rfl,rfl,rfl,rfl,rfl,trivial⟩ ⟨e1,hS,by simp [okC, *]⟩|exact Zc _ ⟨rfl,rfl,rfl,rfl,rfl,rfl,rfl,trivial⟩ ⟨e1,hS,by simp [okC, *]⟩)
       refine W ?_;refine CL (ZZ q.unl _) ?_;rintro _ w3 ⟨rfl,hT⟩;replace e1:=e1.up hT;replace aU:=aU.up hT;replace bi:=bi.up hT;replace hS:=hS.trans hT;clear hT;cases hn_unl:Zh q.unl with
       | false=>
         refine QO ?_;all_goals (first|exact Zc true ⟨rfl,rfl,rfl,rfl,rfl,rfl,rfl,trivial⟩ ⟨e1,hS,by simp [okC, *]⟩|exact Zc false ⟨rfl,rfl,rfl,rfl,rfl,rfl,rfl,trivial⟩ ⟨e1,hS,by simp [okC, *]⟩|exact Zc _ ⟨rfl,rfl,rfl,rfl,rfl,rfl,rfl,trivial⟩ ⟨e1,hS,by simp [okC, *]⟩)
       | true=>
         by_cases he:q.els=[]
         . (refine QP ?_ ?_<;>intro hg)
           all_goals try contradiction
           all_goals (first|exact Zc true ⟨rfl,rfl,rfl,rfl,rfl,rfl,rfl,trivial⟩ ⟨e1,hS,by simp [okC, *]⟩|exact Zc false ⟨rfl,rfl,rfl,rfl,rfl,rfl,rfl,trivial⟩ ⟨e1,hS,by simp [okC, *]⟩|exact Zc _ ⟨rfl,rfl,rfl,rfl,rfl,rfl,rfl,trivial⟩ ⟨e1,hS,by simp [okC, *]⟩)
         (refine QP ?_ ?_<;>intro hg)
         all_goals try contradiction
         all_goals try (first|exact Zc true ⟨rfl,rfl,rfl,rfl,rfl,rfl,rfl,trivial⟩ ⟨e1,hS,by simp [okC, *]⟩|exact Zc false ⟨rfl,rfl,rfl,rfl,rfl,rfl,rfl,trivial⟩ ⟨e1,hS,by simp [okC, *]⟩|exact Zc _ ⟨rfl,rfl,rfl,rfl,rfl,rfl,rfl,trivial⟩ ⟨e1,hS,by simp [okC, *]⟩)
         refine W ?_;refine CL (ZZ q.els _) ?_;rintro _ w3 ⟨rfl,hT⟩;replace e1:=e1.up hT;replace aU:=aU.up hT;replace bi:=bi.up hT;replace hS:=hS.trans hT;clear hT;cases hn_els:Zh q.els with
         | false=>
           refine QO ?_;all_goals (first|exact Zc true ⟨rfl,rfl,rfl,rfl,rfl,rfl,rfl,trivial⟩ ⟨e1,hS,by simp [okC, *]⟩|exact Zc false ⟨rfl,rfl,rfl,rfl,rfl,rfl,rfl,trivial⟩ ⟨e1,hS,by simp [okC, *]⟩|exact Zc _ ⟨rfl,rfl,rfl,rfl,rfl,rfl,rfl,trivial⟩ ⟨e1,hS,by simp [okC, *]⟩)
         | true=>
           refine QO ?_;all_goals (first|exact Zc true ⟨rfl,rfl,rfl,rfl,rfl,rfl,rfl,trivial⟩ ⟨e1,hS,by simp [okC, *]⟩|exact Zc false ⟨rfl,rfl,rfl,rfl,rfl,rfl,rfl,trivial⟩ ⟨e1,hS,by simp [okC, *]⟩|exact Zc _ ⟨rfl,rfl,rfl,rfl,rfl,rfl,rfl,trivial⟩ ⟨e1,hS,by simp [okC, *]⟩)
 rintro u w4 ⟨e1,hS,hu⟩
 try dsimp only at hu ⊢
 have hb:=ZgV q;rw [<- hu] at hb;unfold chkC;rw [hb];clear hu hb;cases u with
 | false=>
   refine RT ?_;exact ⟨by simp,hS⟩
 | true=>
   repeat'(first|refine W1 ?_|omega|refine VG ?_ ?_<;>intro hg|refine VC ?_ ?_<;>intro hc)
   all_goals
    refine RU ?_;exact ⟨by simp [*],hS⟩
structure ZnU (q:Cr):Prop where
 frm:I64 q.frm
 cnd:∀ x∈q.cnd,I64 x.op/\I64 x.n
 due:∀ x∈q.due,I64 x.op/\I64 x.n
 lcnd:q.cnd.length<=200
 ldue:q.due.length<=200
 lname:q.name.length<=12
 lon:q.on.length<=12
 lunl:q.unl.length<=12
 lels:q.els.length<=12
def Z2F (m:Nat) (z:Ins):Prop:=0<=z.op/\z.op<=24/\0<=z.n/\z.n<=2147483647+(m:Int)
theorem Z2F.le {m k:Nat} {z:Ins} (h:Z2F m z) (hk:m<=k):Z2F k z:=⟨h.1,h.2.1,h.2.2.1,by have:=h.2.2.2;omega⟩
theorem Zeg:∀ (l:List Nd) (p m:Nat),(∀ y∈l,∀ p,∀ z∈Zd y p,Z2F (p+(Zd y p).length) z)->p+(J5 (l.map Zd) p).length<=m->∀ z∈J5 (l.map Zd) p,Z2F m z
 | [],p,m,_,_,z,hz=>by simp [J5] at hz
 | y :: l, p, m, h, hm, z, hz => by
   simp only [Xz,J5,Xd,Xf] at hz hm;rcases hz with hz|hz
   exact (h y (by simp) p z hz).le (by omega);exact Zeg l _ m (λy hy=>h y (by simp [hy])) (by omega) z hz
theorem ZnV (s:Str):∀ o∈opF s,0<=o/\o<=24:=by
 intro o ho;unfold opF at ho;cases h:Zdc.find? (λp=>decide (p.1=s)) with
 | none=>rw [h] at ho;cases ho
 | some p=>
   rw [h] at ho;have ar:∀ q∈Zdc,∀ o∈q.2,0<=o/\o<=24:=by decide +kernel
   exact ar p (XZ h) o ho
theorem Zeh (k:Int) (s:Str) (m:Nat):∀ z∈Z29 k s,Z2F m z:=by
 intro z hz;unfold Z29 Z2D at hz;simp only [Xd,XO] at hz;rcases hz with hz|⟨o,ho,rfl⟩
 split at hz;simp only [Xg,Xm,or_false] at hz;subst hz;exact ⟨by decide,by decide,by decide,by simp only;omega⟩;cases hz;obtain ⟨h1,h2⟩:=ZnV s o ho;exact ⟨h1,h2,by simp,by simp only;omega⟩
theorem Zei (c y n:Cf) (p m:Nat) (hc:∀ p,∀ z∈c p,Z2F (p+(c p).length) z) (hy:∀ p,∀ z∈y p,Z2F (p+(y p).length) z) (hn:∀ p,∀ z∈n p,Z2F (p+(n p).length) z) (hm:p+(chC c y n p).length<=m):∀ z∈chC c y n p,Z2F m z:=by
 intro z hz;unfold chC at hz hm;simp only [Xd,Xg,Xm,or_false,Xf,Xh,Xj] at hz hm;rcases hz with (((hz|rfl)|hz)|rfl)|hz
 exact (hc p z hz).le (by omega);exact ⟨by simp,by simp,by simp only;omega,by simp only;omega⟩;exact (hy _ z hz).le (by omega);exact ⟨by simp,by simp,by simp only;omega,by simp only;omega⟩;exact (hn _ z hz).le (by omega)
theorem ZgW (k n:Int) (s:Str) (m:Nat) (h:JV k n s≠0):Z2F m (Z0r k n s):=by
 unfold JV at h;unfold Z0r;by_cases k4:k=4
 . subst k4
   rw [if_pos rfl] at h;have hf:(ZA s).2.2=true:=by
    cases hb:(ZA s).2.2 with
    | true=>rfl
    | false=>rw [Z3C hb] at h;simp at h
   obtain ⟨i,hi,_,he⟩:=(Z57 s (ZA s).1).1 ⟨hf,rfl⟩;rw [if_neg (by decide),if_neg (by decide),if_neg (by decide)];exact ⟨by simp,by simp,by simp only;omega,by simp only;omega⟩
 rw [if_neg k4] at h;split at h;exact absurd rfl h;by_cases k1:k=1;rw [if_pos k1] at h ⊢;split at h;exact ⟨by simp,by simp,by simp only;omega,by simp only;omega⟩;exact absurd rfl h;rw [if_neg k1] at h ⊢;by_cases k2:k=2;rw [if_pos k2] at h ⊢;split at h;exact ⟨by simp,by simp,by simp only;omega,by simp only;omega⟩;exact absurd rfl h;rw [if_neg k2] at h ⊢;by_cases k3:k=3;rw [if_pos k3] at h ⊢;split at h;exact ⟨by simp,by simp,by simp only;omega,by simp only;omega⟩;exact absurd rfl h;rw [if_neg k3] at h;exact absurd rfl h
theorem ZkA (x:Nd):Ze x≠0->∀ p,∀ z∈Zd x p,Z2F (p+(Zd x p).length) z:=by
 induction x using Nd.ind with
 | h k n s l ih=>
 intro ht p;have hk:∀ y∈l,Ze y≠0:=λy hy=>Z3K (x:=.mk k n s l) ht hy;have ih':∀ y∈l,∀ p,∀ z∈Zd y p,Z2F (p+(Zd y p).length) z:=λy hy=>ih y hy (hk y hy);have il:Ze (.mk k n s l)=J4 k n s (l.map Ze):=JW _;rw [il] at ht;have hplain:∀ m,p+(Z0G k s (l.map Zd) p).length<=m->∀ z∈Z0G k s (l.map Zd) p,Z2F m z:=λm hm z hz=>by
  rw [Z1r] at hz hm;rw [Xf] at hm;rcases Xd.1 hz with hz|hz
  exact Zeg l p m ih' (by omega) z hz;exact Zeh k s m z hz
 have aX:∀ i,∀ p,∀ z∈(l.map Zd).getD i Z2U p,Z2F (p+((l.map Zd).getD i Z2U p).length) z:=λi p z hz=>by
  by_cases hi:i<l.length;have e:(l.map Zd).getD i Z2U=Zd l[i]:=by rw [XJ,XP (by simpa using hi)];simp
  rw [e] at hz ⊢;exact ih' _ (Xb hi) p z hz;have e:(l.map Zd).getD i Z2U=Z2U:=by rw [XJ,List.getElem?_eq_none (by simpa using hi)];rfl
  rw [e] at hz;cases hz
 have gD:∀ b:Int,(b=0\/b=1)->∀ p:Nat,∀ z∈[(⟨2,b⟩:Ins)],Z2F (p+[(⟨2,b⟩:Ins)].length) z:=λb hb p z hz=>by
  simp only [Xg,Xm,or_false] at hz;subst hz;exact ⟨by simp,by simp,by simp only;omega,by simp only;omega⟩
 have cV:∀ c:List Ins,p+c.length<=p+c.length:=λc=>Xq _;rw [Zd];rcases Z48 ht with ⟨he,hc⟩|⟨h0,h3,gj,hc⟩
 have hl:l=[]:=by simpa using he
 subst hl;unfold Z0H;rw [if_pos (show (List.map Zd ([]:List Nd)).length=0 from rfl)];intro z hz;simp only [Xg,Xm,or_false] at hz;subst hz;exact ZgW k n s _ (by rw [<- hc];exact ht);have hl:l≠[]:=λh=>gj (by rw [h];rfl)
 have bV:¬ (l.map Zd).length=0:=by simpa using hl
 unfold Z0H;rw [if_neg bV];split;exact Zei _ _ _ p _ (aX 0) (aX 1) (aX 2) (Xq _);split;exact Zei _ _ _ p _ (aX 0) (aX 1) (gD 0 (.inl rfl)) (Xq _);split;exact Zei _ _ _ p _ (aX 0) (gD 1 (.inr rfl)) (aX 1) (Xq _);split;intro z hz;rcases Xd.1 hz with hz|hz
 exact hplain _ (by simp) z hz;simp only [Xg,Xm,or_false] at hz;subst hz;exact ⟨by simp,by simp,by simp only;omega,by simp only;omega⟩;exact hplain _ (Xq _)
theorem Z6e (x:Nd) (ht:Ze x≠0) (hl:(Jd x).length<=200):∀ z∈Jd x,I64 z.op/\I64 z.n:=by
 intro z hz;unfold Jd at hz hl;rw [Xf] at hl;rcases Xd.1 hz with hz|hz
 obtain ⟨h1,h2,h3,h4⟩:=ZkA x ht 0 z hz;unfold I64;constructor<;>omega;simp only [Xg,Xm,or_false] at hz;subst hz;unfold I64;simp
theorem Z2z {s:Str} (h:Zh s=true):s.length<=12:=by
 unfold Zh Z25 at h;simp only [Xa,decide_eq_true_eq] at h;have:=h.1;omega
theorem Zej (r:Rul) (h:Z1p r=0):ZnU (crF r)/\chkC (crF r)=0:=by
 unfold crF;rw [if_pos h];unfold Z1p at h;split at h
 contradiction;rename_i jp;have dJ:Z0p r=0:=by omega
 unfold Z0p at dJ;split at dJ;simp at dJ;rename_i dP;split at dJ;simp at dJ;rename_i i8;split at dJ
 contradiction;rename_i eE;have mi:Z10 r.cnd 2=0:=by omega
 split at h
 contradiction;rename_i ny;have mj:Z1l r.cnd=0:=by omega
 have key:∀ (x:Nd) (t:Int),t≠0->Z10 x t=0->Z1l x=0->Zx x<=12/\Ze x=t/\(Jd x).length<=200:=λx t ic hm he=>by
  unfold Z10 at hm;unfold Z1l at he;split at hm;rename_i hn;rw [if_pos hn] at he;split at hm;simp at hm;rename_i h0;rw [if_neg h0] at he;split at hm;rename_i qL;split at he;simp at he;exact ⟨hn,qL,by omega⟩;simp at hm;simp at hm
 obtain ⟨n1,t1,l1⟩:=key r.cnd 2 (by decide) mi mj;obtain ⟨n2,t2,l2⟩:=key r.due 3 (by decide) dJ h;have v1:=Z64 r.cnd (by omega) n1 l1;have v2:=Z64 r.due (by omega) n2 l2;have ir:ZS r=true:=by simpa using dP
 unfold ZS at ir;simp only [Xa,Ya4,decide_eq_true_eq] at ir;obtain ⟨⟨⟨a1,a2⟩,a3⟩,a4⟩:=ir;refine ⟨⟨show I64 r.frm by unfold I64;omega,Z6e _ (by omega) l1,Z6e _ (by omega) l2,l1,l2,Z2z a1,Z2z a2,?_,?_⟩,?_⟩;rcases a3 with h|h
 rw [show (⟨r.name,r.frm,r.on,Jd r.cnd,Jd r.due,r.unl,r.els⟩:Cr).unl=r.unl from rfl,h];simp;exact Z2z h;rcases a4 with h|h
 rw [show (⟨r.name,r.frm,r.on,Jd r.cnd,Jd r.due,r.unl,r.els⟩:Cr).els=r.els from rfl,h];simp;exact Z2z h;unfold chkC JA;simp only [v1,v2,t1,t2,a1,a2];rcases a3 with h3|h3<;>rcases a4 with h4|h4<;>simp [h3,h4]<;>omega
end Go.Proofs.YteibicnbkggiiaaGreatDoor
