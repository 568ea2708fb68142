/-
Contracts and plain laws, merged out of own texts.
-/
import Derived.Test.YteibicnbkggiiaaGreatDoorQ3
import Derived.Shelf.SlSortCmp.NoneTotal
import Derived.Laws.CopyRow
import Derived.Test.YteibicnbkggiiaaGreatDoorShl3
import Derived.Recover
import Derived.RangeFuncLeaves
import Derived.RangeFuncCalls
import Derived.RangeFuncSeq
import Derived.OrdersIn
set_option linter.unusedVariables false
set_option linter.unusedSimpArgs false
set_option maxHeartbeats 4000000
set_option maxRecDepth 20000
namespace Go.Eng
open Go Go.RowKit Go.Proofs
end Go.Eng
namespace Go.Proofs.YteibicnbkggiiaaGreatDoor
open Go Go.Eng Go.RowKit
instance:Z2 Hol where
 k:=9
 enc:=λh=>[.I h.kind,.I h.month,.I h.day,.I h.wd,.I h.nth,.I h.off,.I h.move,.I h.first,.I h.last]
 len:=λ_=>rfl
 one:=by intro x u hu;simp at hu;rcases hu with rfl|rfl|rfl|rfl|rfl|rfl|rfl|rfl|rfl<;>rfl
instance:Z2 Clo where
 k:=3
 enc:=λh=>[.I h.lo,.I h.hi,.I h.known]
 len:=λ_=>rfl
 one:=by intro x u hu;simp at hu;rcases hu with rfl|rfl|rfl<;>rfl
instance:Z2 Spn where
 k:=2
 enc:=λh=>[.I h.1,.I h.2]
 len:=λ_=>rfl
 one:=by intro x u hu;simp at hu;rcases hu with rfl|rfl<;>rfl
def Z3k:List Int:=[0,0,0,0,0,0,0,0,0,0,0,0,2,1,0,0,0,0,0,-1,1]
def Z2g (w:World):Prop:=∀ i u,Z3k[i]?=some u->w.cell? ⟨5,i,none⟩=some (.I u)
theorem Z2g.ext {S:List Nat} {w w':World} (h:Z2g w) (hS:Stp S w w') (hb:5∉S):Z2g w':=λi u hu=>hS.cell hb (h i u hu)
theorem Z2g.up {w w':World} (h:Z2g w) (hS:Stp [] w w'):Z2g w':=h.ext hS (by simp)
structure MK where
 w0:World
 bm:Nat
 nk:Option Nat
 ev:List Int
 c:Cal
 kn:Int
 hv:Value
 cv:Value
 zo:Value
 zs:Value
 hr:Value
 pr:List (Nat×Obj)
def JO (c:Cal) (hv cv zo zs hr:Value):List Value:=
 [.B (c.week.getD 0 false),.B (c.week.getD 1 false),.B (c.week.getD 2 false),.B (c.week.getD 3 false),.B (c.week.getD 4 false),.B (c.week.getD 5 false),.B (c.week.getD 6 false),hv,cv,zo,zs,hr]
def evC (ev:List Int):List Value:=[.I (ev.getD 0 0),.I (ev.getD 1 0),.I (ev.getD 2 0),.I (ev.getD 3 0),.I (ev.getD 4 0),.I (ev.getD 5 0),.I (ev.getD 6 0)]
def Zne (nk:Option Nat):Value:=match nk with|none=>.nilIface|some bs=>.func (.func 198) #[] #[pQ bs]
def Z4v (K:MK) (sv:Value) (at_ er:Int) (dn:Bool):List Value:=
 evC K.ev++JO K.c K.hv K.cv K.zo K.zs K.hr++[.I K.kn,sv,.I at_,.I er,.B dn,Zne K.nk]
def MK.own (K:MK):List Nat:=K.bm :: K.nk.toList
structure KOk (K:MK):Prop where
 hols:SlV K.own K.w0 K.hv K.c.hols
 clos:SlV K.own K.w0 K.cv K.c.clos
 ozo:K.zo.oneCell'=true
 ozs:K.zs.oneCell'=true
 ohr:K.hr.oneCell'=true
 len:Z0G K.w0
 mov:Z2g K.w0
 bml:K.bm<K.w0.heap.size
 nkl:∀ b,K.nk=some b->b<K.w0.heap.size/\b≠K.bm
 gl:∀ b∈K.own,b≠1/\b≠5
 cal:Zin K.c
 ev:ZcE K.ev
 nks:K.nk≠none
structure Mch (K:MK) (w:World) (sv pv:Value) (st:List Int) (sp:List Spn) (at_ er:Int) (dn:Bool):Prop where
 blk:Blk w K.bm 272 (Z4v K sv at_ er dn)
 row:Row [] w K.w0.heap.size 3 sv st
 nt:∀ bs,K.nk=some bs->Blk w bs 39 [pv]/\Row [] w K.w0.heap.size 29 pv sp
 nt0:K.nk=none->pv=.N
 ap:∀ b∈ob sv,b∉ob pv
 stp:Stp K.own K.w0 w
 prot:∀ p∈K.pr,w.heap[p.1]?=some p.2/\p.1∉K.own/\p.1∉ob sv/\p.1∉ob pv
section
variable {K:MK} {w w':World} {sv pv:Value} {st:List Int} {sp:List Spn} {at_ er:Int} {dn:Bool}
theorem Mch.up (h:Mch K w sv pv st sp at_ er dn) (hS:Stp [] w w'):Mch K w' sv pv st sp at_ er dn:=
 ⟨h.blk.up hS,h.row.up hS,λbs hb=>⟨(h.nt bs hb).1.up hS,(h.nt bs hb).2.up hS⟩,h.nt0,h.ap,h.stp.trans hS.mn,λp hp=>let ⟨a,b,c,d⟩:=h.prot p hp;⟨(hS.block p.1 (Xm.1 a).1 (by simp)).trans a,b,c,d⟩⟩
theorem Mch.hols (hK:KOk K) (h:Mch K w sv pv st sp at_ er dn):SlV K.own w K.hv K.c.hols:=hK.hols.ext h.stp (λb hb=>hb) (λb hb=>.inl hb)
theorem Mch.clos (hK:KOk K) (h:Mch K w sv pv st sp at_ er dn):SlV K.own w K.cv K.c.clos:=hK.clos.ext h.stp (λb hb=>hb) (λb hb=>.inl hb)
theorem Mch.len (hK:KOk K) (h:Mch K w sv pv st sp at_ er dn):Z0G w:=hK.len.ext h.stp (λhb=>(hK.gl _ hb).1 rfl)
theorem Mch.mov (hK:KOk K) (h:Mch K w sv pv st sp at_ er dn):Z2g w:=hK.mov.ext h.stp (λhb=>(hK.gl _ hb).2 rfl)
theorem Mch.put (hK:KOk K) (h:Mch K w sv pv st sp at_ er dn) {at' er':Int} {dn':Bool} (hS:Stp [K.bm] w w') (hb:Blk w' K.bm 272 (Z4v K sv at' er' dn')):Mch K w' sv pv st sp at' er' dn':=by
 have hl:∀ v,(∀ b∈ob v,K.w0.heap.size<=b)->∀ b∈[K.bm],b∉ob v:=λv hv b hb h2=>by
  have:=hK.bml;have:=hv b h2;simp at hb;omega
 refine ⟨hb,h.row.keep hS (hl _ (λb hb=>(h.row.ob_le b hb).1)),λbs cM=>?_,h.nt0,h.ap,h.stp.trans (hS.mono (by simp [MK.own])),λp hp=>let ⟨a,b,c,d⟩:=h.prot p hp;⟨(hS.block p.1 (Xm.1 a).1 (λe=>b (by simp at e;rw [e];exact XT))).trans a,b,c,d⟩⟩;obtain ⟨h1,h2⟩:=h.nt bs cM;exact ⟨h1.ext hS (by have:=(hK.nkl bs cM).2;simpa using this),h2.keep hS (hl _ (λb hb=>(h2.ob_le b hb).1))⟩
theorem Mch.stack (hK:KOk K) (h:Mch K w sv pv st sp at_ er dn) {sv':Value} {st':List Int} {w2:World} (hS:Stp (ob sv) w w') (hr:Row [] w' K.w0.heap.size 3 sv' st') (ho:∀ b∈ob sv',b∈ob sv\/w.heap.size<=b)
 (ak:Stp [K.bm] w' w2) (hb:Blk w2 K.bm 272 (Z4v K sv' at_ er dn)):Mch K w2 sv' pv st' sp at_ er dn:=by
 have jO:=hK.bml;have jJ:=λb hb=>(hr.ob_le b hb).1;have eY:=λb hb=>(h.row.ob_le b hb).1;have hl:=h.stp.size;refine ⟨hb,hr.keep ak (λb hb h2=>by have:=jJ b h2;simp at hb;omega),λbs cM=>?_,h.nt0,λb hb hp=>?_,?_,λp hp=>?_⟩;obtain ⟨h1,h2⟩:=h.nt bs cM;have hn:=hK.nkl bs cM;have oP:=λb hb=>(h2.ob_le b hb).1;refine ⟨(h1.ext hS (λhx=>by have:=eY _ hx;omega)).ext ak (by simpa using hn.2),(h2.keep hS (λb hb=>h.ap b hb)).keep ak (λb hb hx=>by have:=oP _ hx;simp at hb;omega)⟩
 . cases hk:K.nk with
   | none=>rw [h.nt0 hk] at hp;simp [ob] at hp
   | some bs=>
     obtain ⟨h1,h2⟩:=h.nt bs hk;rcases ho b hb with h3|h3
     exact h.ap b h3 hp;have:=(h2.ob_le b hp).2;omega
 refine (h.stp.own (S':=ob sv) hS (λb hb=>.inr (eY b hb))).trans (ak.mono (by simp [MK.own]));obtain ⟨a,b,c,d⟩:=h.prot p hp;have hlt:=(Xm.1 a).1;have a2:=(hS.block p.1 hlt c).trans a;have a3:=(ak.block p.1 (Xm.1 a2).1 (λe=>b (by simp at e;rw [e];exact XT))).trans a2;exact ⟨a3,b,λh3=>(ho _ h3).elim c (λh4=>by omega),d⟩
theorem Zio (hK:KOk K) (h:Mch K w sv pv st sp at_ er dn) (n e:Int) (hl:st.length<=100000) :
 CC 290 #[.pointer (some ⟨K.bm,0,none⟩),.I n,.I e] w λr w'=>r=.tuple #[]/\∃ sv',Mch K w' sv' pv (if e=0 then st++[n] else st) sp at_ (if e=0 then er else e) (if e=0 then dn else true):=by
 have ab:=h.blk;have ac:=h.row;unfold Z4v at ab;refine cW3 25 Tryz.func290 ?_;by_cases he:e=0;subst he;rw [if_pos rfl,if_pos rfl,if_pos rfl];refine QO ?_;refine Z0 (Z1 (vs:=[(0,.I n)]) rfl (Zo _)) rfl ?_;rintro bv w1 hN;have ae:=Z6.stp hN;have aI:SlV (ob sv++[]) w1 bv [n]:=hN.slv (λb hb=>by simp at hb;exact (ac.ob_le b hb).2) rfl rfl (by simp [maxLen]);replace h:=h.up ae;replace ac:=ac.up ae;replace ab:=ab.up ae;refine Z0 (ZA rfl (by decide) rfl rfl ac aI (by simp;omega) (by simp [maxLen];omega) (h.stp.size)) rfl ?_;rintro sv' w2 ⟨cw,ak,ho⟩;have aS:=ab.ext ak (λhx=>by have:=(ac.ob_le _ hx).1;have:=hK.bml;omega);refine W ?_;have h1:=cw.slv (X:=[]) (by simp);refine Z8 (Zf (u:=sv') rfl rfl h1.cells h1.one aS (by simp [evC,JO])) ?_;rintro _ w3 ⟨az,aM⟩;refine W ?_;refine WR ?_;refine .mk ⟨rfl,sv',h.stack hK ak cw ho az aM⟩;rw [if_neg he,if_neg he,if_neg he];refine QO ?_;refine Z8 (Zf (u:=.I e) rfl rfl rfl rfl ab (by simp [evC,JO])) ?_;rintro _ w1 ⟨ae,cD⟩;refine W ?_;refine Z8 (Zf (u:=.B true) rfl rfl rfl rfl cD (by simp [evC,JO])) ?_;rintro _ w2 ⟨ak,aS⟩;refine RT ?_;exact ⟨rfl,sv,h.put hK (ae.trans ak) aS⟩
end
end Go.Proofs.YteibicnbkggiiaaGreatDoor
namespace Go.Eng
open Go Go.RowKit Go.Proofs
section
variable {P:Program} {n:Nat} {e:Env} {w:World} {d:Option Nat} {ty:TypeId} {pos:String} {af:Array Edge} {g:Option (Nat×Bool)} {rest:List Oper} {ops:Array Oper} {Q:Exit->Act->World->Prop}
theorem Z1C {α:Type} [Z5 α] {X:List Nat} {v:Value} {xs:List α} {i:Nat} {cs:List Value} {x:Operand} {t:TypeId} {D:TypeDesc} [hu:Und P t D] (hA:Z0h D=true) [br:Siz P t (Z5.k α)] (hx:ev e x=some (.pointer (some (ZB v i (Z5.k α) 0)))) (hs:SlV X w v xs) (hi:i<xs.length)
 (hr:Z5.rep X w xs[i] cs) (hc:∀ j u,cs[j]?=some u->w.cell? (ZB v i (Z5.k α) j)=some u):PR P n ⟨d,.load t x,ty,pos,af,g⟩ e w (.agg cs.toArray):=by
 obtain ⟨p,l',c,rfl⟩:=hs.isSome hi;refine Z25 (cs:=cs) hA hx (Z5.len hr) (λj u hu=>?_);have:=hc j u hu;simpa [ZB] using this
end
structure Fct where
 entry:Int
 kind:Str
 day:Int
 by_:Int
 to_:Int
 amt:Int
deriving DecidableEq
instance:Inhabited Fct:=⟨⟨0,[],0,0,0,0⟩⟩
instance:Z2 Fct where
 k:=6
 enc:=λx=>[.I x.entry,str x.kind,.I x.day,.I x.by_,.I x.to_,.I x.amt]
 len:=λ_=>rfl
 one:=by intro x u hu;simp at hu;rcases hu with rfl|rfl|rfl|rfl|rfl|rfl<;>rfl
structure Rsn where
 kind:Int
 a:Int
 b:Int
deriving DecidableEq
instance:Z2 Rsn where
 k:=3
 enc:=λx=>[.I x.kind,.I x.a,.I x.b]
 len:=λ_=>rfl
 one:=by intro x u hu;simp at hu;rcases hu with rfl|rfl|rfl<;>rfl
structure Rtn where
 crr:Int
 kind:Int
 lo:Int
 hi:Int
deriving DecidableEq
instance:Z2 Rtn where
 k:=4
 enc:=λx=>[.I x.crr,.I x.kind,.I x.lo,.I x.hi]
 len:=λ_=>rfl
 one:=by intro x u hu;simp at hu;rcases hu with rfl|rfl|rfl|rfl<;>rfl
structure Crr where
 extra:Int
 tol:Int
deriving DecidableEq
instance:Z2 Crr where
 k:=2
 enc:=λx=>[.I x.extra,.I x.tol]
 len:=λ_=>rfl
 one:=by intro x u hu;simp at hu;rcases hu with rfl|rfl<;>rfl
structure Svc where
 day:Int
 extra:Int
 att:Int
deriving DecidableEq
instance:Z2 Svc where
 k:=3
 enc:=λx=>[.I x.day,.I x.extra,.I x.att]
 len:=λ_=>rfl
 one:=by intro x u hu;simp at hu;rcases hu with rfl|rfl|rfl<;>rfl
structure Atp where
 entry:Int
 party:Int
 crr:Int
 sent:Int
 rets:List Rtn
instance:Inhabited Atp:=⟨⟨0,0,0,0,[]⟩⟩
abbrev atC (a:Atp) (rv:Value):List Value:=[.I a.entry,.I a.party,.I a.crr,.I a.sent,rv]
instance:Z5 Atp where
 k:=5
 rep:=λX w a cs=>∃ rv,cs=atC a rv/\SlV X w rv a.rets
 len:=λ⟨_,h,_⟩=>h ▸ rfl
 one:=by
  rintro X w a cs ⟨rv,rfl,h⟩ u hu;have:=h.one;simp only [Xa,Xo,or_false] at hu;rcases hu with rfl|rfl|rfl|rfl|rfl<;>first|rfl|assumption
 ext:=λ⟨rv,h,hs⟩ hS h1 h2=>⟨rv,h,hs.ext hS h1 h2⟩
structure Dln where
 rule:Str
 trig:Fct
 party:Int
 due:Int
 stat:Int
 reas:List Rsn
instance:Inhabited Dln:=⟨⟨[],default,0,0,0,[]⟩⟩
abbrev dlC (a:Dln) (rv:Value):List Value:=[str a.rule,.I a.trig.entry,str a.trig.kind,.I a.trig.day,.I a.trig.by_,.I a.trig.to_,.I a.trig.amt,.I a.party,.I a.due,.I a.stat,rv]
instance:Z5 Dln where
 k:=11
 rep:=λX w a cs=>∃ rv,cs=dlC a rv/\SlV X w rv a.reas
 len:=λ⟨_,h,_⟩=>h ▸ rfl
 one:=by
  rintro X w a cs ⟨rv,rfl,h⟩ u hu;have:=h.one;simp only [Xa,Xo,or_false] at hu;rcases hu with rfl|rfl|rfl|rfl|rfl|rfl|rfl|rfl|rfl|rfl|rfl<;>first|rfl|assumption
 ext:=λ⟨rv,h,hs⟩ hS h1 h2=>⟨rv,h,hs.ext hS h1 h2⟩
end Go.Eng
namespace Go.Proofs.YteibicnbkggiiaaGreatDoor
open Go Go.Eng Go.RowKit
instance:Z5 Cr where
 k:=7
 rep:=λX w q cs=>∃ kc kd,cs=crC q kc kd/\SlV X w kc q.cnd/\SlV X w kd q.due
 len:=λ⟨_,_,h,_⟩=>h ▸ rfl
 one:=λ⟨_,_,h,h1,h2⟩=>h ▸ Z1k h1 h2
 ext:=λ⟨kc,kd,h,h1,h2⟩ hS g1 g2=>⟨kc,kd,h,h1.ext hS g1 g2,h2.ext hS g1 g2⟩
structure Cas where
 fcts:List Fct
 ruls:List Cr
 atts:List Atp
 crrs:List Crr
 stys:List Spn
 cal:Cal
 court:Int
 today:Int
structure Z0C where
 fv:Value
 rv:Value
 av:Value
 cv:Value
 sv:Value
 hv:Value
 lv:Value
 zo:Value
 zs:Value
 hr:Value
abbrev Jq (c:Cas) (R:Z0C):List Value:=[R.fv,R.rv,R.av,R.cv,R.sv]++JO c.cal R.hv R.lv R.zo R.zs R.hr++[.I c.court,.I c.today]
end Go.Proofs.YteibicnbkggiiaaGreatDoor
namespace Go.Eng
open Go Go.RowKit Go.Proofs
variable {P:Program} {n:Nat} {Q:Exit->Act->World->Prop} {e:Env} {w w0:World} {rest:List Oper} {ops:Array Oper} {ty:TypeId} {pos:String} {af:Array Edge}
theorem Stp.cell0 {w w':World} {ad:Addr} {u:Value} (h:Stp [] w w') (hc:w.cell? ad=some u):w'.cell? ad=some u:=by
 have hlt:ad.block<w.heap.size:=block_lt_of_cell hc;rw [<- hc];exact World.cell?_of_block (w:=w) (h.block ad.block hlt (by simp))
theorem CP {S:List Nat} {f d:Nat} {fn:Func} {xs:Array Operand} {ts:Array TypeId} {vs:Array Value} {r:Value} {c:Operand} [hf:Fun P f fn] (hS:Stp S w0 w) (h:Calls P f vs w (Ret λv w'=>v=r/\Stp [] w w')) (k:∀ w',Stp [] w w'->Stp S w0 w'->WL P n ops Q rest ((d,r) :: e) w')
 (hc:ev e c=some (.func (.func f) #[] #[]):=by exact rfl) (hv:∀ a,Has n e a->xs.map a.eval=vs:=by first|exact ZO rfl|exact Zh rfl rfl|exact ZL rfl rfl rfl|exact Z67 rfl rfl rfl rfl|exact Z8X) (hd:Nat.blt d n=true:=by exact rfl) :
 WL P n ops Q (⟨some d,.call { callee:=.value c,args:=xs,argTypes:=ts },ty,pos,af,none⟩ :: rest) e w:=
 Z0 (Z3 hc hv h) hd (by rintro _ w' ⟨rfl,hT⟩;exact k w' hT (hS.trans hT.mn))
theorem CG {f d:Nat} {fn:Func} {xs:Array Operand} {ts:Array TypeId} {vs:Array Value} {G:Value->World->Prop} {c:Operand} [hf:Fun P f fn] (h:Calls P f vs w (Ret G)) (k:∀ v w',G v w'->WL P n ops Q rest ((d,v) :: e) w')
 (hc:ev e c=some (.func (.func f) #[] #[]):=by exact rfl) (hv:∀ a,Has n e a->xs.map a.eval=vs:=by first|exact ZO rfl|exact Zh rfl rfl|exact ZL rfl rfl rfl|exact Z67 rfl rfl rfl rfl|exact Z8X) (hd:Nat.blt d n=true:=by exact rfl) :
 WL P n ops Q (⟨some d,.call { callee:=.value c,args:=xs,argTypes:=ts },ty,pos,af,none⟩ :: rest) e w:=
 Z0 (Z3 hc hv h) hd k
theorem BX {S:List Nat} {d:Nat} {t:TypeId} {x:Operand} {v:Value} (hS:Stp S w0 w) (k:∀ b w',w.heap.size<=b->Blk w' b t v.cells.toList->Stp [] w w'->Stp S w0 w'->WL P n ops Q rest ((d,pQ b) :: e) w')
 (hx:ev e x=some v:=by exact rfl) (hd:Nat.blt d n=true:=by exact rfl):WL P n ops Q (⟨some d,.box t x,ty,pos,af,none⟩ :: rest) e w:=
 Z0 (Zn hx) hd (by rintro _ w' ⟨b,rfl,hb,hk,hT⟩;exact k b w' hb hk hT (hS.trans hT.mn))
theorem Z0d {Lt:List Nat} {ord:List (Nat×Nat)} {i d:Nat} {gd:Option (Nat×Bool)} {x:Operand} {t:TypeId} {D:TypeDesc} {ad:Addr} {v:Value} [hu:Und P t D] (hi:ops[i]?=some ⟨some d,.load t x,ty,pos,af,gd⟩) (hg:JV ops e gd) (hA:Z0h D=false) (hx:ev e x=some (.pointer (some ad))) (hc:w.cell? ad=some v) (hd:Nat.blt d n=true)
 (k:WD P n ops [] Lt Q ord ((d,v) :: e) w):WD P n ops [] Lt Q ((i,1) :: ord) e w:=WD_read hi hg (λ_ hS=>Jd hA hx (hS.cell0 hc)) hd k
theorem DP {S S0:List Nat} {Lt:List Nat} {ord:List (Nat×Nat)} {i f d:Nat} {fn:Func} {gd:Option (Nat×Bool)} {xs:Array Operand} {ts:Array TypeId} {vs:Array Value} {r:Value} {c:Operand} [hf:Fun P f fn] (hS:Stp S0 w0 w) (h:Calls P f vs w (Ret λv w'=>v=r/\Stp [] w w')) (k:∀ w',Stp [] w w'->Stp S0 w0 w'->WD P n ops S Lt Q ord ((d,r) :: e) w')
 (hi:ops[i]?=some ⟨some d,.call { callee:=.value c,args:=xs,argTypes:=ts },ty,pos,af,gd⟩:=by exact rfl) (hg:JV ops e gd:=by first|exact trivial|exact rfl)
 (hc:ev e c=some (.func (.func f) #[] #[]):=by exact rfl) (hv:∀ a,Has n e a->xs.map a.eval=vs:=by first|exact ZO rfl|exact Zh rfl rfl|exact ZL rfl rfl rfl|exact Z67 rfl rfl rfl rfl|exact Z8X) (hd:Nat.blt d n=true:=by exact rfl) :
 WD P n ops S Lt Q ((i,2) :: ord) e w:=
 Z9 hi hg (Z3 hc hv h) (λ_ _ h=>h.2.mn) hd (by rintro _ w' ⟨rfl,hT⟩;exact k w' hT (hS.trans hT.mn))
end Go.Eng
namespace Go.Proofs.YteibicnbkggiiaaGreatDoor
open Go Go.Eng Go.RowKit
def ZlO (l:List Cr) (nm:Str) (day b:Int) (i:Nat):Prop:=(l.getD i crZ).name=nm/\(l.getD i crZ).frm<=day/\(b<0\/(l.getD b.toNat crZ).frm<=(l.getD i crZ).frm)
instance (l:List Cr) (nm:Str) (day b:Int) (i:Nat):Decidable (ZlO l nm day b i):=by unfold ZlO;infer_instance
def Z4w (l:List Cr) (nm:Str) (day:Int):Nat->Int
 | 0=>-1
 | k+1=>if ZlO l nm day (Z4w l nm day k) k then k else Z4w l nm day k
def Zrc (l:List Cr) (nm:Str) (day:Int):Int:=Z4w l nm day l.length
theorem Ze3 (l:List Cr) (nm:Str) (day:Int):∀ k,-1<=Z4w l nm day k/\Z4w l nm day k<k
 | 0=>by simp [Z4w]
 | k + 1 => by
   have:=Ze3 l nm day k;simp only [Z4w];split<;>omega
theorem Zf5 {A B C:Prop} [Decidable (A/\B/\C)] {x k b z:Int} {e:Eng.Env} {i:Nat} (h:x=if A/\B/\C then k else b) (he:Eng.look e i=some (.I z)) (hz:(A/\B/\C/\z=k)\/(¬ (B/\C)/\z=b)\/(¬ A/\z=b)):Eng.look e i=some (.I x):=by
 rw [he,h];rcases hz with ⟨a,b,c,rfl⟩|⟨a,rfl⟩|⟨a,rfl⟩
 rw [if_pos ⟨a,b,c⟩];rw [if_neg (λh=>a h.2)];rw [if_neg (λh=>a h.1)]
theorem ZaM (v:Value) (l:List Cr) (nm:Str) (day:Int) (w) (hs:SlV [] w v l):CC 130 #[v,str nm,.I day] w λr w'=>r=.I (Zrc l nm day)/\Stp [] w w':=by
 have aW:=hs.max;refine cW3 44 Tryz.func130 ?_;refine W ?_;refine LP (σ:=Nat) (λk=>[(0,v),(1,str nm),(2,.I day),(7,.I (Z4w l nm day k)),(10,v),(11,.I l.length),(12,.I k)]) (λk w'=>k<=l.length/\Stp [] w w') (λk=>l.length - k) 0 ⟨by omega,Stp.refl _ _⟩ ?_;have bM:=hs;clear hs;rintro k w1 ⟨hk,hS⟩;have hs:=bM.up hS;by_cases hlt:k<l.length;obtain ⟨cs,⟨kc,kd,rfl,g1,g2⟩,am⟩:=hs.cell hlt;have hb:=Ze3 l nm day k;have hstep:Z4w l nm day (k+1)=if l[k].name=nm/\l[k].frm<=day/\(Z4w l nm day k<0\/(l.getD (Z4w l nm day k).toNat crZ).frm<=l[k].frm) then (k:Int) else Z4w l nm day k:=by
  rw [Z4w];simp only [ZlO,show l.getD k crZ=l[k] by simp [hlt]]
 generalize Z4w l nm day k=bb at *;focus repeat'(first|refine W1 ?_|omega|refine VG ?_ ?_<;>intro hg|refine VC ?_ ?_<;>intro hc)
 refine Za (Z1C rfl rfl hs hlt ⟨kc,kd,rfl,g1,g2⟩ am) rfl ?_;refine Z0 Z4 rfl ?_;rintro _ w2 ⟨b,rfl,dz,e9,hT⟩;refine W ?_;refine SB (us:=crC l[k] kc kd) (Z1k g1 g2) e9 ?_;rintro _ w3 ⟨ax,e9⟩;replace hS:=hS.trans (hT.ow ax);clear hT ax hs am g1 g2;refine W ?_;refine ZDr 24 [] [] [(0,0),(1,1),(2,0),(3,0),(4,0),(5,0),(6,1),(7,0),(8,0),(9,0),(10,0),(11,0),(12,0),(13,0),(14,0),(15,1),(16,0),(17,0),(18,0),(19,0),(20,1),(21,0),(22,0),(23,0)] (λw1 ae=>?_);replace e9:=e9.up ae;replace hS:=hS.trans ae;clear ae;have hs:=bM.up hS;by_cases h0:bb<0
 . repeat'(first|refine D1 ?_|omega|refine Zb rfl rfl rfl rfl (λhg=>?_) (λhg=>?_)|(refine Z7 rfl rfl rfl rfl (λhg=>?_) (λhg=>?_)<;>refine D1 ?_)|fail)
   all_goals repeat'(first|refine W1 ?_|omega|refine VG ?_ ?_<;>intro hg|refine VC ?_ ?_<;>intro hc)
   all_goals
    refine ZF (k+1) ⟨rfl,rfl,rfl,?_,rfl,rfl,rfl,trivial⟩ ⟨by omega,hS⟩ (by omega);first|exact Zf5 hstep rfl (.inl ⟨by assumption,by omega,by omega,rfl⟩)|exact Zf5 hstep rfl (.inr (.inl ⟨by omega,rfl⟩))|exact Zf5 hstep rfl (.inr (.inr ⟨by assumption,rfl⟩))
 . obtain ⟨j,rfl⟩:∃ j:Nat,bb=j:=⟨bb.toNat,by omega⟩
   have hj:j<l.length:=by omega
   obtain ⟨cs,⟨kc2,kd2,rfl,-,-⟩,am⟩:=hs.cell hj;have hf:w1.cell? (ZB v j 7 1)=some (.I l[j].frm):=am 1 _ rfl;rw [show (j:Int).toNat=j by simp,show l.getD j crZ=l[j] by simp [hj]] at hstep;repeat'(first|refine D1 ?_|omega|refine Z0d rfl (by first|exact trivial|exact rfl) rfl rfl (by assumption) rfl ?_|refine Zb rfl rfl rfl rfl (λhg=>?_) (λhg=>?_)|(refine Z7 rfl rfl rfl rfl (λhg=>?_) (λhg=>?_)<;>refine D1 ?_)|fail)
   all_goals repeat'(first|refine W1 ?_|omega|refine VG ?_ ?_<;>intro hg|refine VC ?_ ?_<;>intro hc)
   all_goals
    refine ZF (k+1) ⟨rfl,rfl,rfl,?_,rfl,rfl,rfl,trivial⟩ ⟨by omega,hS⟩ (by omega);first|exact Zf5 hstep rfl (.inl ⟨by assumption,by omega,by omega,rfl⟩)|exact Zf5 hstep rfl (.inr (.inl ⟨by omega,rfl⟩))|exact Zf5 hstep rfl (.inr (.inr ⟨by assumption,rfl⟩))
 focus repeat'(first|refine W1 ?_|omega|refine VG ?_ ?_<;>intro hg|refine VC ?_ ?_<;>intro hc)
 refine WR ?_;rw [show k=l.length by omega];exact .mk ⟨rfl,hS⟩
end Go.Proofs.YteibicnbkggiiaaGreatDoor
namespace Go.Eng
open Go Go.RowKit Go.Proofs
variable {P:Program} {n:Nat} {Q:Exit->Act->World->Prop} {e:Env} {w w0:World} {rest:List Oper} {ops:Array Oper} {ty:TypeId} {pos:String} {af:Array Edge} {d:Option Nat} {g:Option (Nat×Bool)}
abbrev ltS (a b:Str):Bool:=Op.bytesLess a b
theorem Z6r {t u:TypeId} {x y:Operand} {a b:Str} {c:Bool} [hu:Und P t .string] (hx:ev e x=some (str a)) (hy:ev e y=some (str b)) (hc:ltS a b=c):PR P n ⟨d,.binOp .lss t x y u,ty,pos,af,g⟩ e w (.B c):=
 ⟨λ_ ha=>by simp only [execOp,ha.ev hx,ha.ev hy];subst hc;simp [go_sem,binOp,Op.stringOp]⟩
theorem Ze4 {t u:TypeId} {x y:Operand} {a b:Str} {c:Bool} [hu:Und P t .string] (hx:ev e x=some (str a)) (hy:ev e y=some (str b)) (hc:(!(ltS a b || a == b))=c):PR P n ⟨d,.binOp .gtr t x y u,ty,pos,af,g⟩ e w (.B c):=
 ⟨λ_ ha=>by simp only [execOp,ha.ev hx,ha.ev hy];subst hc;simp [go_sem,binOp,Op.stringOp]⟩
end Go.Eng
namespace Go.Proofs.YteibicnbkggiiaaGreatDoor
open Go Go.Eng Go.RowKit
def Z3l (a b:Str):Int:=if ltS a b=true then -1 else if (!(ltS a b || a == b))=true then 1 else 0
def cmI (x y:Int):Int:=if x<y then -1 else if y<x then 1 else 0
theorem Z3F (x y:Int) (w):CC 49 #[.I x,.I y] w λr w'=>r=.I (cmI x y)/\Stp [] w w':=
 (Tryz.cmp_Compare_int x y w).mono (by
   rintro e w' ⟨rfl,rfl⟩;exact .mk ⟨rfl,Stp.refl _ _⟩)
theorem Z6Z (a:Str) (w):CC 129 #[str a] w λr w'=>r=.B false/\Stp [] w w':=by
 refine cW1 6 Tryz.func129 ?_;refine RT ?_;exact ⟨by simp,Stp.refl _ _⟩
theorem Zip (a b:Str) (w):CC 91 #[str a,str b] w λr w'=>r=.I (Z3l a b)/\Stp [] w w':=by
 refine cW2 20 Tryz.func91 ?_;refine W ?_;refine CP (Stp.refl [] w) (Z6Z a _) λw1 _ hS=>?_;refine W ?_;refine CP hS (Z6Z b _) λw2 _ hS=>?_;refine W ?_;cases h1:ltS a b
 . refine Za (Z6r rfl rfl h1) rfl ?_
   refine W ?_;cases h2:(!(ltS a b || a == b))
   all_goals
    refine Za (Ze4 rfl rfl h2) rfl ?_;refine RT ?_;exact ⟨by rw [Z3l,if_neg (by simp [h1]),h2];rfl,hS⟩
 refine Za (Z6r rfl rfl h1) rfl ?_;refine RT ?_;exact ⟨by rw [Z3l,h1];rfl,hS⟩
def orL (l:List Int):Int:=(l.find? (λx=>decide (x≠0))).getD 0
theorem ZcF {l:List Int} {k:Nat} (hk:k<l.length) (h:∀ j (h:j<l.length),j<k->l[j]=0) (h0:l[k]≠0):orL l=l[k]:=by
 have:l.find? (λx=>decide (x≠0))=some l[k]:=by
  rw [List.find?_eq_some_iff_getElem];exact ⟨by simpa using h0,k,hk,rfl,λj hj=>by simp [h j (by omega) hj]⟩
 rw [orL,this];rfl
theorem Z70 {l:List Int} (h:∀ j (h:j<l.length),l[j]=0):orL l=0:=by
 have:l.find? (λx=>decide (x≠0))=none:=by
  rw [Yaw];intro x hx;obtain ⟨j,hj,rfl⟩:=Xv hx;simp [h j hj]
 rw [orL,this];rfl
theorem ZlP (v:Value) (l:List Int) (w) (hs:SlV [] w v l):CC 90 #[v] w λr w'=>r=.I (orL l)/\Stp [] w w':=by
 have aW:=hs.max;refine cW1 18 Tryz.func90 ?_;refine W ?_;refine LP (σ:=Nat) (λk=>[(3,.I 0),(6,v),(7,.I l.length),(8,.I k)]) (λk w'=>k<=l.length/\Stp [] w w'/\∀ j (h:j<l.length),j<k->l[j]=0) (λk=>l.length - k) 0 ⟨by omega,Stp.refl _ _,by omega⟩ ?_;have bM:=hs;clear hs;rintro k w1 ⟨hk,hS,hz⟩;have hs:=bM.up hS;by_cases hlt:k<l.length;by_cases h0:l[k]=0;refine QO ?_;exact QL (k+1) ⟨by omega,hS,λj h hj=>by
  by_cases e:j=k;subst e;exact h0;exact hz j h (by omega)⟩ (by omega)
 refine RT ?_;exact ⟨by rw [ZcF hlt hz h0],hS⟩;refine RT ?_;exact ⟨by rw [Z70 (λj h=>hz j h (by omega))],hS⟩
def Z3S (f g:Fct):Int:=orL [cmI f.day g.day,cmI f.entry g.entry,Z3l f.kind g.kind,cmI f.by_ g.by_,cmI f.to_ g.to_,cmI f.amt g.amt]
theorem ZaN (a b c d e f:Int) (w):(Instr.buildSlice 22 6 #[(0,.I a),(1,.I b),(2,.I c),(3,.I d),(4,.I e),(5,.I f)]).run Tryz.prog w=.ok (.slice (some ⟨w.heap.size,0,none⟩) 6 6) (w.alloc (.cells #[.I a,.I b,.I c,.I d,.I e,.I f] 3)):=by kernel_rfl
theorem Ziq (f g:Fct) (w):CC 52 #[aG f,aG g] w λr w'=>r=.I (Z3S f g)/\Stp [] w w':=by
 refine cW2 37 Tryz.func52 ?_;refine W ?_;refine BX (Stp.refl [] w) λb2 w1 h2 e2 _ hS=>?_;refine BX hS λb3 w2 h3 e3 hT hS=>?_;replace e2:=e2.up hT;replace e2:Blk w2 b2 24 (Z2.enc f):=e2;replace e3:Blk w2 b3 24 (Z2.enc g):=e3;refine W ?_;refine ZDr 33 [] [] [(0,0),(1,1),(2,0),(3,1),(5,0),(6,1),(7,0),(8,1),(10,0),(11,1),(12,0),(13,1),(15,0),(16,1),(17,0),(18,1),(20,0),(21,1),(22,0),(23,1),(25,0),(26,1),(27,0),(28,1),(4,2),(9,2),(14,2),(19,2),(24,2),(29,2),(30,2),(31,2),(32,0)] (λw1 ae=>?_);replace e2:=e2.up ae;replace e3:=e3.up ae;replace hS:=hS.trans ae;refine D ?_;clear ae e2 e3;refine DP hS (Z3F _ _ _) λ_ _ hS=>?_;refine DP hS (Z3F _ _ _) λ_ _ hS=>?_;refine DP hS (Zip _ _ _) λ_ _ hS=>?_;refine DP hS (Z3F _ _ _) λ_ _ hS=>?_;refine DP hS (Z3F _ _ _) λ_ _ hS=>?_;refine DP hS (Z3F _ _ _) λ_ _ hS=>?_;refine Z9 rfl trivial (Z1 rfl (ZaN _ _ _ _ _ _)) (λ_ _ h=>Z6.stp h) rfl ?_;rintro bv wb hN;have aI:=hN.slv (X:=[]) (ys:=[cmI f.day g.day,cmI f.entry g.entry,Z3l f.kind g.kind,cmI f.by_ g.by_,cmI f.to_ g.to_,cmI f.amt g.amt]) (by simp) rfl rfl (by simp [maxLen]);replace hS:=hS.trans (Z6.stp hN);refine DP hS (ZlP bv _ _ aI) λ_ _ hS=>?_;refine D ?_;refine RT ?_;exact ⟨rfl,hS⟩
end Go.Proofs.YteibicnbkggiiaaGreatDoor
namespace Go.Eng
open Go Go.RowKit Go.Proofs
variable {P:Program} {n:Nat} {Q:Exit->Act->World->Prop} {e:Env} {w w0:World} {rest:List Oper} {ops:Array Oper} {ty ty':TypeId} {pos pos':String} {af af':Array Edge}
theorem AP1 {β:Type} [Z2 β] {T t bytes d1 d2:Nat} {x y:Operand} {v z0 u:Value} {xs:List β} [ht:Und P t (.slice T)] [hk:Siz P T (Z5.k β)] [hb:Byt P T bytes] [hz:Zer P T z0] (z:β) (hr:ZE T w0 w v xs) (hl:xs.length<=100000000)
 (k:∀ v1 v' w',ZE T w0 w' v' (xs++[z])->Stp (ob v) w w'->WL P n ops Q rest ((d2,v') :: (d1,v1) :: e) w')
 (hx:ev e x=some v:=by exact rfl) (hy:Jg e [(0,y)]=some [(0,u)]:=by exact rfl) (aJ:∀ w:World,(Instr.buildSlice t 1 #[(0,u)]).run P w=.ok (.slice (some ⟨w.heap.size,0,none⟩) 1 1) (w.alloc (.cells (Z2.enc z).toArray T)):=by intro w;kernel_rfl)
 (kN:∀ v1,ev ((d1,v1) :: e) x=some v:=by intro _;exact rfl) (ip:∀ v1,ev ((d1,v1) :: e) (.tmp d1)=some v1:=by intro _;exact rfl)
 (dC:z0.cells.size=Z5.k β:=by exact rfl) (aZ:0<Z5.k β:=by decide) (cW:bytes<=1000:=by decide) (h1:Nat.blt d1 n=true:=by exact rfl) (h2:Nat.blt d2 n=true:=by exact rfl) :
 WL P n ops Q (⟨some d1,.buildSlice t 1 #[(0,y)],ty,pos,af,none⟩ :: ⟨some d2,.call { callee:=.builtin .append,args:=#[x,.tmp d1],argTypes:=#[t,t] },ty',pos',af',none⟩ :: rest) e w:=by
 refine Z0 (Z1 (l:=[(0,y)]) (vs:=[(0,u)]) hy aJ) h1 ?_;intro v1 w1 hN;have hT:Stp [] w w1:=hN.choose_spec.2.2.2;have aI:SlV (ob v) w1 v1 [z]:=hN.slv (λb hb=>(hr.ob_le b hb).2) rfl (by simp) (by simp [maxLen]);refine Z0 (Z01 dC aZ (kN v1) (ip v1) (hr.up hT) aI (by
  simp only [Xf,Xh];exact Xk (YaV (YbB hl 1) cW) (by omega)) (by simp only [Xf,Xh,maxLen];omega)) h2 ?_
 rintro v' w2 ⟨g1,g2,-⟩;exact k v1 v' w2 g1 (hT.mn.trans g2)
theorem APR {β:Type} [Z2 β] {X:List Nat} {T t bytes d1 d2 base:Nat} {x y:Operand} {v z0 u:Value} {xs:List β} [ht:Und P t (.slice T)] [hk:Siz P T (Z5.k β)] [hb:Byt P T bytes] [hz:Zer P T z0] (z:β) (hr:Row X w base T v xs) (hX:∀ b∈X,b<w.heap.size) (cM:base<=w.heap.size) (hl:xs.length<=100000000)
 (k:∀ v1 v' w',Row X w' base T v' (xs++[z])->Stp (ob v) w w'->(∀ b∈ob v',b∈ob v\/w.heap.size<=b)->WL P n ops Q rest ((d2,v') :: (d1,v1) :: e) w')
 (hx:ev e x=some v:=by exact rfl) (hy:Jg e [(0,y)]=some [(0,u)]:=by exact rfl) (aJ:∀ w:World,(Instr.buildSlice t 1 #[(0,u)]).run P w=.ok (.slice (some ⟨w.heap.size,0,none⟩) 1 1) (w.alloc (.cells (Z2.enc z).toArray T)):=by intro w;kernel_rfl)
 (kN:∀ v1,ev ((d1,v1) :: e) x=some v:=by intro _;exact rfl) (ip:∀ v1,ev ((d1,v1) :: e) (.tmp d1)=some v1:=by intro _;exact rfl)
 (dC:z0.cells.size=Z5.k β:=by exact rfl) (aZ:0<Z5.k β:=by decide) (cW:bytes<=1000:=by decide) (h1:Nat.blt d1 n=true:=by exact rfl) (h2:Nat.blt d2 n=true:=by exact rfl) :
 WL P n ops Q (⟨some d1,.buildSlice t 1 #[(0,y)],ty,pos,af,none⟩ :: ⟨some d2,.call { callee:=.builtin .append,args:=#[x,.tmp d1],argTypes:=#[t,t] },ty',pos',af',none⟩ :: rest) e w:=by
 refine Z0 (Z1 (l:=[(0,y)]) (vs:=[(0,u)]) hy aJ) h1 ?_;intro v1 w1 hN;have hT:Stp [] w w1:=hN.choose_spec.2.2.2;have aI:SlV (ob v++X) w1 v1 [z]:=hN.slv (λb hb=>by
  rcases Xe.1 hb with h|h
  exact (hr.ob_le b h).2;exact hX b h) rfl (by simp) (by simp [maxLen])
 refine Z0 (ZA (X:=X) (base:=base) dC aZ (kN v1) (ip v1) (hr.up hT) aI (by
  simp only [Xf,Xh];exact Xk (YaV (YbB hl 1) cW) (by omega)) (by simp only [Xf,Xh,maxLen];omega) (Xk cM hT.size)) h2 ?_
 rintro v' w2 ⟨g1,g2,g3⟩;exact k v1 v' w2 g1 (hT.mn.trans g2) (λb hb=>(g3 b hb).imp id (Xk hT.size))
end Go.Eng
namespace Go.Proofs.YteibicnbkggiiaaGreatDoor
open Go Go.Eng Go.RowKit
def Z5h (l:List Fct):Nat->Fct
 | 0=>l.getD 0 default
 | k+1=>if Z3S (l.getD (k+1) default) (Z5h l k)<0 then l.getD (k+1) default else Z5h l k
theorem Zir (v:Value) (l:List Fct) (w) (hs:SlV [] w v l) (hn:l≠[]):CC 204 #[v,.func (.func 52) #[] #[]] w λr w'=>r=.agg (Z2.enc (Z5h l (l.length - 1))).toArray/\Stp [] w w':=by
 have aW:=hs.max;have aZ:0<l.length:=Yaf.2 hn;refine cW2 33 Tryz.func204 ?_;refine W ?_;refine Z0 Z4 rfl ?_;rintro _ w1 ⟨b4,rfl,bE,e4,hS⟩;have bU:=hs.up hS;refine QO ?_;refine Z0 Z4 rfl ?_;rintro _ w2 ⟨b5,rfl,iG,e5,hT⟩;have l4:=e4.lt;replace e4:=e4.up hT;refine SA (us:=Z2.enc l[0]) e5 ?_;rintro _ w3 ⟨ax,e5⟩;replace e4:=e4.ext ax (by simp;omega);replace hS:=hS.trans (hT.ow ax);clear hT ax bU;have l5:=e5.lt;have g4:b4≠b5:=by omega
 have g5:w.heap.size<=b5:=by have:=hS.size;omega
 refine W ?_;refine LP (σ:=Nat) (λk=>[(0,v),(1,.func (.func 52) #[] #[]),(4,pQ b4),(5,pQ b5),(6,.I ((k:Int)+1))]) (λk w'=>k<l.length/\Stp [] w w'/\Blk w' b5 24 (Z2.enc (Z5h l k))/\(∃ cs,Blk w' b4 24 cs/\cs.length=6)) (λk=>l.length - k) 0 ⟨aZ,hS,by rw [Z5h,show l.getD 0 default=l[0] by simp [aZ]];exact e5,_,e4,rfl⟩ ?_;clear e4 e5 hS;rintro k w4 ⟨hk,hS,e5,cs4,e4,fZ⟩;have bU:=hs.up hS;by_cases hlt:k+1<l.length;have hstep:Z5h l (k+1)=if Z3S l[k+1] (Z5h l k)<0 then l[k+1] else Z5h l k:=by rw [Z5h,show l.getD (k+1) default=l[k+1] by simp [hlt]]
 generalize Z5h l k=m at *;refine QO ?_;refine ZDr 8 [] [] [(0,0),(1,0),(2,0),(3,0),(4,1),(5,1),(6,2),(7,0)] (λw1 ae=>?_);replace bU:=bU.up ae;replace e5:=e5.up ae;replace e4:=e4.up ae;replace hS:=hS.trans ae;clear ae;refine D ?_;refine DP hS (Ziq l[k+1] m _) λw5 hT hS=>?_;replace bU:=bU.up hT;replace e5:=e5.up hT;replace e4:=e4.up hT;refine D ?_;by_cases hc:Z3S l[k+1] m<0;rw [if_pos hc] at hstep;refine QO ?_;refine SA (us:=Z2.enc l[k+1]) e5 ?_;rintro _ w6 ⟨ax,e5⟩;replace e4:=e4.ext ax (by simp;omega);replace hS:=hS.ow ax;refine QO ?_;exact QL (k+1) ⟨hlt,hS,by rw [hstep];exact e5,_,e4,fZ⟩ (by omega);rw [if_neg hc] at hstep;refine QO ?_;exact QL (k+1) ⟨hlt,hS,by rw [hstep];exact e5,_,e4,fZ⟩ (by omega);refine QO ?_;refine Z8 (Zy (us:=Z2.enc (Z5h l k)) rfl rfl rfl rfl (Z2.one _) e4 fZ.symm) ?_;rintro _ w6 ⟨ax,e4⟩;refine QO ?_;refine JH rfl rfl rfl e4 rfl ?_;rw [show l.length - 1=k by omega];exact .mk ⟨rfl,hS.ow ax⟩
theorem ZlQ (w):(Instr.build 24 #[]).run Tryz.prog w=.ok (aG (default:Fct)) w:=by kernel_rfl
def ZaO (f:Fct) (unl:Str) (due:Int) (g:Fct):Bool:=decide (unl≠[]/\g.kind=unl/\g.by_=f.to_/\g.day<=due/\(f.day<=g.day\/due<f.day))
def Z9p (fs:List Fct) (f:Fct) (unl:Str) (due:Int):List Fct:=fs.filter (ZaO f unl due)
def Zis (fs:List Fct) (f:Fct) (unl:Str) (due:Int):Fct×Bool:=if Z9p fs f unl due=[] then (default,false) else (Z5h (Z9p fs f unl due) ((Z9p fs f unl due).length - 1),true)
theorem Zf6 (fs:List Fct) (f:Fct) (unl:Str) (due:Int) (k:Nat) (h:k<fs.length):Z9p (fs.take (k+1)) f unl due=Z9p (fs.take k) f unl due++if ZaO f unl due fs[k]=true then [fs[k]] else []:=by
 unfold Z9p;rw [Xj h,X5];congr 1;cases hc:ZaO f unl due fs[k]<;>simp [hc]
theorem ZcG (c:Cas) (R:Z0C) (f:Fct) (unl:Str) (due:Int) (w) (hs:SlV [] w R.fv c.fcts) (hl:c.fcts.length<=10000000):CC 138 #[.agg (Jq c R).toArray,aG f,str unl,.I due] w λr w'=>r=.tuple #[.agg (Z2.enc (Zis c.fcts f unl due).1).toArray,.B (Zis c.fcts f unl due).2]/\Stp [] w w':=by
 refine cW4 65 Tryz.func138 ?_;refine W ?_;refine BX (Stp.refl [] w) λb4 w1 h4 e4 _ hS=>?_;replace e4:Blk w1 b4 49 (Jq c R):=e4;refine BX hS λb5 w2 h5 e5 hT hS=>?_;replace e5:Blk w2 b5 24 (Z2.enc f):=e5;replace e4:=e4.up hT;refine W ?_;refine Z0 Z4 rfl ?_;rintro _ w3 ⟨b8,rfl,eZ,e8,hT⟩;have g8:w.heap.size<=b8:=Xk hS.size eZ;replace e4:=e4.up hT;replace e5:=e5.up hT;replace hS:=hS.trans hT;have eh:=hs.up hS;refine W ?_;refine LP (σ:=Nat×Value) (λq=>[(2,str unl),(3,.I due),(4,pQ b4),(5,pQ b5),(8,pQ b8),(9,.B false),(10,q.2),(14,R.fv),(15,.I c.fcts.length),(16,.I q.1)]) (λq w'=>q.1<=c.fcts.length/\ZE 24 w3 w' q.2 (Z9p (c.fcts.take q.1) f unl due)) (λq=>c.fcts.length - q.1) (0,.N) ⟨by omega,ZE.nil⟩ ?_;rintro ⟨k,rv⟩ w4 ⟨hk,hr⟩;dsimp only at hk hr ⊢;have e4':=e4.up hr.2;have e5':=e5.up hr.2;have dy:=eh.up hr.2;by_cases hlt:k<c.fcts.length
 . have hstep:=Zf6 c.fcts f unl due k hlt
   refine QO ?_;refine Z0 Z4 rfl ?_;rintro _ w5 ⟨b12,rfl,oQ,e12,hT⟩;refine SA (us:=Z2.enc c.fcts[k]) e12 ?_;rintro _ w6 ⟨ax,e12⟩;replace hT:=hT.ow ax;replace e4':=e4'.up hT;replace e5':=e5'.up hT;replace hr:=hr.up hT;clear hT ax dy;repeat'(first|refine W1 ?_|omega|refine VG ?_ ?_<;>intro hg|refine VC ?_ ?_<;>intro hc)
   all_goals first
    | exact QL (k + 1, rv) ⟨hlt, by
       rw [hstep,if_neg,XG];exact hr;simp only [ZaO,decide_eq_true_eq];rintro ⟨a,b,c,d,e⟩;first|contradiction|omega⟩ (by dsimp only;omega)
    | refine AP1 c.fcts[k] hr (Xk (X0 _ _) (by simp; omega)) λv1 v' w' bB _ => ?_
      refine QO ?_;exact QL (k+1,v') ⟨hlt,by
       rw [hstep,if_pos (show ZaO f unl due c.fcts[k]=true from decide_eq_true ⟨by assumption,by assumption,by omega,by omega,by omega⟩)];exact bB⟩ (by dsimp only;omega)
 have dX:SlV [] w4 rv (Z9p (c.fcts.take k) f unl due):=hr.slv (by simp);obtain rfl:k=c.fcts.length:=by omega
 rw [Xs] at dX;have e8':=e8.up hr.2;replace hS:=hS.trans hr.2;clear hr;unfold Zis;generalize Z9p c.fcts f unl due=L at *;have hz:((L.length:Int)=0)↔L=[]:=by simp
 (refine QP ?_ ?_<;>intro hc)
 obtain rfl:L=[]:=hz.1 (by assumption);refine Zc (vs:=[]) rfl ZlQ rfl ?_;refine Z8 (Zy (us:=Z2.enc (default:Fct)) rfl rfl rfl rfl (Z2.one _) e8' rfl) ?_;rintro _ w6 ⟨ax,e8''⟩;refine W ?_;refine ZM rfl rfl rfl e8'' rfl rfl ?_;exact .mk ⟨rfl,hS.ow ax⟩;have hL:L≠[]:=λh=>absurd (hz.2 h) (by assumption)
 rw [if_neg hL];refine CP hS (Zir rv L w4 dX hL) λw5 hT hS=>?_;replace e8':=e8'.up hT;refine Z8 (Zy (us:=Z2.enc (Z5h L (L.length - 1))) rfl rfl rfl rfl (Z2.one _) e8' rfl) ?_;rintro _ w6 ⟨ax,e8''⟩;refine W ?_;refine ZM rfl rfl rfl e8'' rfl rfl ?_;exact .mk ⟨rfl,hS.ow ax⟩
theorem ZuG (a b:Ins) (w):(binOp .eql 174 (agg a) (agg b)).run Tryz.prog w=.ok (.B (decide (a=b))) w:=by
 have h1:Program.stoodInHeld Tryz.prog 174=false:=by kernel_rfl
 obtain ⟨a1,a2⟩:=a;obtain ⟨b1,b2⟩:=b;simp [agg,Z2.enc,run_eql_struct,run_equalIn_struct,h1,Program.fieldsOf,Tryz.underlying174,Op.eqFields,part,Und.isAgg,Z0h,run_equalIn_int w _ _ .i64 .i64 _ _ Tryz.underlying3];repeat' split
 all_goals simp_all
theorem ZcH (v:Value) (l:List Ins) (x:Ins) (w) (hs:SlV [] w v l):CC 267 #[v,agg x] w λr w'=>(∃ z:Int,r=.I z/\(0<=z↔x∈l))/\Stp [] w w':=by
 have aW:=hs.max;refine cW2 19 Tryz.func267 ?_;refine W ?_;refine BX (Stp.refl [] w) λb3 w1 h3 e3 _ hS=>?_;replace e3:Blk w1 b3 174 (Z2.enc x):=e3;have bU:=hs.up hS;refine W ?_;refine LP (σ:=Nat) (λk=>[(0,v),(3,pQ b3),(6,v),(7,.I l.length),(8,.I k)]) (λk w'=>k<=l.length/\Stp [] w1 w'/\∀ j (h:j<l.length),j<k->l[j]≠x) (λk=>l.length - k) 0 ⟨by omega,Stp.refl _ _,by omega⟩ ?_;rintro k w2 ⟨hk,hT,hz⟩;have aO:=bU.up hT;have e3':=e3.up hT;by_cases hlt:k<l.length;refine QO ?_;refine ZDr 6 [] [] [(0,1),(1,0),(2,0),(3,0),(4,1),(5,0)] (λw1 ae=>?_);replace aO:=aO.up ae;replace e3':=e3'.up ae;replace hT:=hT.trans ae;refine D ?_;apply Z1d;exact rfl;refine Zla (c:=x=l[k]) trivial rfl rfl (λw=>Zr5 _ _ _ x l[k] w) (by intro w;exact ZuG x l[k] w) rfl ?_;refine D ?_
 (refine QP ?_ ?_<;>intro hc)
 refine RU ?_;exact ⟨⟨_,rfl,by constructor<;>intro _<;>first|omega|(rw [hc];exact Xc hlt)⟩,hS.trans hT⟩;exact QL (k+1) ⟨hlt,hT,λj h hj=>by
  by_cases e:j=k;subst e;exact λh=>hc h.symm;exact hz j h (by omega)⟩ (by omega)
 refine RT ?_;exact ⟨⟨_,rfl,by
  constructor;intro h;omega;intro h;obtain ⟨j,hj,e⟩:=Xv h;exact absurd e (hz j hj (by omega))⟩,hS.trans hT⟩
theorem Z71 (v:Value) (l:List Ins) (x:Ins) (w) (hs:SlV [] w v l):CC 203 #[v,agg x] w λr w'=>r=.B (decide (x∈l))/\Stp [] w w':=by
 refine cW2 9 Tryz.func203 ?_;refine W ?_;refine BX (Stp.refl [] w) λb3 w1 h3 e3 _ hS=>?_;replace e3:Blk w1 b3 174 (Z2.enc x):=e3;refine W ?_;refine CG (ZcH v l x _ (hs.up hS)) ?_;rintro _ w2 ⟨⟨z,rfl,hz⟩,hT⟩;refine RT ?_;exact ⟨congrArg Value.bool (decide_eq_decide.2 hz),hS.trans hT⟩
def Z3Y (l:List Ins):Bool:=decide ((⟨4,1⟩:Ins)∈l) || decide ((⟨4,2⟩:Ins)∈l)
theorem ZaP (a b:Int) (w):(Instr.build 174 #[(0,.I a),(1,.I b)]).run Tryz.prog w=.ok (agg (⟨a,b⟩:Ins)) w:=by kernel_rfl
theorem ZaQ (v:Value) (l:List Ins) (w) (hs:SlV [] w v l):CC 136 #[v] w λr w'=>r=.B (Z3Y l)/\Stp [] w w':=by
 refine cW1 11 Tryz.func136 ?_;refine W ?_;refine Zc (vs:=[(0,.I 4),(1,.I 1)]) rfl (ZaP _ _) rfl ?_;refine CP (Stp.refl [] w) (Z71 v l _ w hs) λw1 _ hS=>?_;unfold Z3Y;by_cases h1:(⟨4,1⟩:Ins)∈l;rw [decide_eq_true h1];refine RT ?_;exact ⟨rfl,hS⟩;rw [decide_eq_false h1];refine QO ?_;refine Zc (vs:=[(0,.I 4),(1,.I 2)]) rfl (ZaP _ _) rfl ?_;refine W ?_;refine CP hS (Z71 v l _ _ (hs.up hS)) λw2 _ hS=>?_;refine RT ?_;exact ⟨by simp,hS⟩
end Go.Proofs.YteibicnbkggiiaaGreatDoor
namespace Go.Eng
open Go Go.RowKit Go.Proofs
section
variable {P:Program} {n:Nat} {Q:Exit->Act->World->Prop} {e:Env} {w w0 w':World} {rest:List Oper} {ops:Array Oper} {ty:TypeId} {pos:String} {af:Array Edge} {dd:Option Nat} {g:Option (Nat×Bool)}
structure StD (w w':World):Prop where
 s:Stp [] w w'
 d:w.drawn<=w'.drawn
theorem StD.refl (w):StD w w:=⟨Stp.refl _ _,Xq _⟩
theorem StD.trans {a b c:World} (h:StD a b) (k:StD b c):StD a c:=⟨h.s.trans k.s,Xk h.d k.d⟩
theorem StD.grown {w w':World} (h:StD w w'):∃ q os',w'=Go.Sort.grow (w.drewN q) os':=by
 refine ⟨w'.drawn - w.drawn,w'.heap.extract w.heap.size w'.heap.size,?_⟩;obtain ⟨⟨h1,h2,h3,h4,h5⟩,h6⟩:=h;have hh:w'.heap=w.heap++w'.heap.extract w.heap.size w'.heap.size:=by
  apply Array.ext_getElem?;intro i;by_cases hi:i<w.heap.size;rw [h5 i hi (by simp),X4 hi];rw [Array.getElem?_append_right (by omega),Array.getElem?_extract];by_cases bI:i<w'.heap.size;rw [if_pos (by omega)];congr 1;omega;rw [if_neg (by omega),Ya7 (by omega)]
 cases w';cases w;simp only [Go.Sort.grow,World.drewN] at *;subst h1 h2 h3;simp only [World.mk.injEq,true_and,and_true];exact ⟨hh,by omega⟩
theorem Zf7 {id:Nat} {l:List Oper} (m:Nat) (S:List Nat) (Lt:List Nat) (ord:List (Nat×Nat)) (bP:l.length=m) (hm:P.follows .mixedOrders=true) (hs:Region.noSelect l.toArray=true) (hl:Nat.beq (wt ord) l.length=true)
 (hB:ZX l.toArray Lt ord (Array.replicate m false)=true)
 (h:∀ w',StD w w'->WD P n l.toArray S Lt Q ord e w'):WC P n (.region id l.toArray true) Q e w:=by
 subst bP;refine ⟨λa ha=>wp_region_any hm ?_⟩;have h1:=(h { w with drawn:=w.drawn+1 } ⟨Stp.drew [] w,YbP _⟩).h _ hs hB a ha;have h2:=JS (Q:=Q) (λa w hz=>hz) _ _ _ _ h1;rw [Xp hl] at h2;simpa using h2
theorem BXD {d:Nat} {t:TypeId} {x:Operand} {v:Value} (hS:StD w0 w) (k:∀ b w',w.heap.size<=b->Blk w' b t v.cells.toList->StD w w'->StD w0 w'->WL P n ops Q rest ((d,pQ b) :: e) w')
 (hx:ev e x=some v:=by exact rfl) (hd:Nat.blt d n=true:=by exact rfl):WL P n ops Q (⟨some d,.box t x,ty,pos,af,none⟩ :: rest) e w:=by
 have ho:OE P n ⟨some d,.box t x,ty,pos,af,none⟩ e w (λu w'=>Z53 w t v.cells.toList u w'/\w'.drawn=w.drawn):=
  Zv (v:=.pointer (some ⟨w.heap.size,0,none⟩)) (w':=w.alloc (.cells v.cells t)) (λa ha=>by
   simp [execOp,Instr.box,ha.ev hx,newVar,newRow,newObj];rfl) ⟨by simpa using Z8Z w t v.cells.toList,rfl⟩
 refine Z0 ho hd ?_;rintro _ w' ⟨⟨b,rfl,hb,hk,hT⟩,he⟩;have h1:StD w w':=⟨hT,Nat.le_of_eq he.symm⟩
 exact k b w' hb hk h1 (hS.trans h1)
theorem Z72 {t T len:Nat} {l:List (Nat×Operand)} {vs:List (Nat×Value)} {cs:List Value} (hv:Jg e l=some vs)
 (hb:∀ w:World,(Instr.buildSlice t len vs.toArray).run P w=.ok (.slice (some ⟨w.heap.size,0,none⟩) len len) (w.alloc (.cells cs.toArray T))) :
 OE P n ⟨dd,.buildSlice t len l.toArray,ty,pos,af,g⟩ e w (λv w'=>Z6 w T len cs v w'/\StD w w'):=
 Zv (v:=.slice (some ⟨w.heap.size,0,none⟩) len len) (w':=w.alloc (.cells cs.toArray T)) (λa ha=>by
  have h1:=ha.parts hv;have h2:l.toArray.map (λ(x:Nat×Operand)=>match x with|(i,x)=>(i,a.eval x))=vs.toArray:=by
   rw [Ybz];exact congrArg List.toArray h1
  simp only [execOp];rw [h2];simp [hb w]) ⟨⟨w.heap.size,rfl,Xq _,heap_alloc_new w _,Stp.alloc _ _ _⟩,⟨Stp.alloc _ _ _,Xq _⟩⟩
theorem CPD {f d:Nat} {fn:Func} {xs:Array Operand} {ts:Array TypeId} {vs:Array Value} {r:Value} {c:Operand} [hf:Fun P f fn] (hS:StD w0 w) (h:Calls P f vs w (Ret λv w'=>v=r/\StD w w')) (k:∀ w',StD w w'->StD w0 w'->WL P n ops Q rest ((d,r) :: e) w')
 (hc:ev e c=some (.func (.func f) #[] #[]):=by exact rfl) (hv:∀ a,Has n e a->xs.map a.eval=vs:=by first|exact ZO rfl|exact Zh rfl rfl|exact ZL rfl rfl rfl|exact Z67 rfl rfl rfl rfl|exact Z8X) (hd:Nat.blt d n=true:=by exact rfl) :
 WL P n ops Q (⟨some d,.call { callee:=.value c,args:=xs,argTypes:=ts },ty,pos,af,none⟩ :: rest) e w:=
 Z0 (Z3 hc hv h) hd (by rintro _ w' ⟨rfl,hT⟩;exact k w' hT (hS.trans hT))
theorem DPD {Lt:List Nat} {ord:List (Nat×Nat)} {i f d:Nat} {fn:Func} {gd:Option (Nat×Bool)} {xs:Array Operand} {ts:Array TypeId} {vs:Array Value} {r:Value} {c:Operand} {S:List Nat} [hf:Fun P f fn] (hS:StD w0 w) (h:Calls P f vs w (Ret λv w'=>v=r/\StD w w')) (k:∀ w',StD w w'->StD w0 w'->WD P n ops S Lt Q ord ((d,r) :: e) w')
 (hi:ops[i]?=some ⟨some d,.call { callee:=.value c,args:=xs,argTypes:=ts },ty,pos,af,gd⟩:=by exact rfl) (hg:JV ops e gd:=by first|exact trivial|exact rfl)
 (hc:ev e c=some (.func (.func f) #[] #[]):=by exact rfl) (hv:∀ a,Has n e a->xs.map a.eval=vs:=by first|exact ZO rfl|exact Zh rfl rfl|exact ZL rfl rfl rfl|exact Z67 rfl rfl rfl rfl|exact Z8X) (hd:Nat.blt d n=true:=by exact rfl) :
 WD P n ops S Lt Q ((i,2) :: ord) e w:=
 Z9 hi hg (Z3 hc hv h) (λ_ _ h=>h.2.s.mn) hd (by rintro _ w' ⟨rfl,hT⟩;exact k w' hT (hS.trans hT))
end
section
variable {w:World} {T:Nat}
theorem Zf8 {g q:Nat} {cur F:Array Value} (os:Array Obj) (h:w.heap[g]?=some (.cells cur T (0,0))) (hl:F.size<=cur.size) :
 Stp [g] w (Go.Sort.grow (Go.Sort.putRow id (Go.Sort.ahead w q) g 0 F) os)/\
 ∃ cur',(Go.Sort.grow (Go.Sort.putRow id (Go.Sort.ahead w q) g 0 F) os).heap[g]?=some (.cells cur' T (0,0))/\cur'.size=cur.size/\cur'.toList.take F.size=F.toList:=by
 have hlt:g<w.heap.size:=(Xm.1 h).1;have hh:(Go.Sort.grow (Go.Sort.putRow id (Go.Sort.ahead w q) g 0 F) os).heap=w.heap.modify g (Go.Sort.onCells (Go.Sort.putCells id 0 F))++os:=rfl;refine ⟨⟨rfl,rfl,rfl,by rw [hh];simp,λb hb hn=>?_⟩,Go.Sort.putCells id 0 F cur,?_,by simp [Go.Sort.putCells],?_⟩;rw [hh,X4 (by simpa using hb),Ya9,if_neg (by simp at hn;exact λe=>hn e.symm)];rw [hh,X4 (by simpa using hlt),Ya9,if_pos rfl,h];rfl;apply Ya3;simp [Go.Sort.putCells];omega;intro i h1 h2;have hi:i<F.size:=by simpa using h2
 simp [Go.Sort.putCells,hi]
theorem ZcI {g:Nat} {cur F:Array Value} (h:w.heap[g]?=some (.cells cur T (0,0))) (ht:cur.toList.take F.size=F.toList):Go.Sort.Holds id w g 0 F:=by
 intro j hj;have hc:cur[j]?=some F[j]:=by
  have h1:(cur.toList.take F.size)[j]?=some F[j]:=by rw [ht];simp [hj]
  rw [Yav,if_pos hj] at h1;simpa using h1
 constructor;simp [World.cell?,h,hc,hj];simp [World.frozen?,h]
theorem Z73 {β:Type} [Z2 β] [Inhabited β] (hk:0<Z2.k β) (xs:List β):(Go.Sort.flatK Z2.enc (Z2.k β) xs.toArray).toList=(xs.map Z2.enc).flatten:=by
 have ai:((xs.map Z2.enc).flatten:List Value).length=xs.length * Z2.k β:=by
  rw [Z0q (k:=Z2.k β) _ (by intro c hc;obtain ⟨x,_,rfl⟩:=Xw.1 hc;exact Z2.len x),XB]
 apply YbQ;intro t;by_cases ht:t<xs.length * Z2.k β;have hq:t / Z2.k β<xs.length:=Nat.div_lt_of_lt_mul (by rwa [Ybt] at ht);have hr:t % Z2.k β<Z2.k β:=YbW _ hk;have h1:=Z05 (k:=Z2.k β) (xs.map Z2.enc) (by intro c hc;obtain ⟨x,_,rfl⟩:=Xw.1 hc;exact Z2.len x) (t / Z2.k β) (by simpa using hq) (t % Z2.k β) ((Z2.enc xs[t / Z2.k β])[t % Z2.k β]'(by rw [Z2.len];exact hr)) (by simp [Z2.len,hr]);rw [Ybt,YbC] at h1;rw [h1];have h2:=Go.Sort.get_flatK Z2.enc (Z2.k β) xs.toArray t (by simpa using ht);have hs:t<(Go.Sort.flatK Z2.enc (Z2.k β) xs.toArray).size:=by simpa using ht
 rw [getElem!_pos _ t hs] at h2;rw [YaH,Array.getElem?_eq_getElem hs,h2];congr 1;rw [getElem!_pos xs.toArray _ (by simpa using hq),getElem!_pos _ _ (by rw [Z2.len];exact hr)];simp;rw [YaG (by simpa using Ya1 ht),YaG (by rw [ai];omega)]
theorem Row.toK {β:Type} [Z2 β] {X:List Nat} {base:Nat} {v:Value} {zs:List β} (h:Row X w base T v zs) :
 (v=.N/\zs=[])\/∃ g cap cur,v=.slice (some ⟨g,0,none⟩) zs.length cap/\base<=g/\w.heap[g]?=some (.cells cur T (0,0))/\zs.length<=cap/\cap<=maxLen/\cur.size=cap * Z2.k β/\cur.toList.take (zs.length * Z2.k β)=(zs.map Z2.enc).flatten:=by
 obtain ⟨css,hl,hr,hx,ho⟩:=h;have hc:css=zs.map Z2.enc:=by
  apply Ya3 (by simpa using hl);intro i h1 h2;have:css[i]=Z2.enc zs[i]:=hr i (by omega) h1;simp [this]
 subst hc;rcases ho with ⟨rfl,hn⟩|⟨g,cap,cur,rfl,hb,hg,bN,bC,aV,ht⟩
 exact .inl ⟨rfl,XQ.1 hn⟩;exact .inr ⟨g,cap,cur,rfl,hb,hg,bN,bC,aV,ht⟩
theorem Row.ofK {β:Type} [Z2 β] {X:List Nat} {base g cap:Nat} {cur:Array Value} {zs:List β} (hb:base<=g) (hg:w.heap[g]?=some (.cells cur T (0,0))) (bN:zs.length<=cap) (bC:cap<=maxLen) (aV:cur.size=cap * Z2.k β)
 (ht:cur.toList.take (zs.length * Z2.k β)=(zs.map Z2.enc).flatten):Row X w base T (.slice (some ⟨g,0,none⟩) zs.length cap) zs:=
 ⟨zs.map Z2.enc, by simp, λi h1 h2 => by simp; rfl, by
   rw [Z0q (k:=Z2.k β) _ (by intro c hc;obtain ⟨x,_,rfl⟩:=Xw.1 hc;exact Z2.len x),XB];rfl,
   .inr ⟨g,cap,cur,rfl,hb,hg,bN,bC,aV,ht⟩⟩
theorem Z2h {β:Type} [Z2 β] {X X':List Nat} {base:Nat} {v:Value} {zs:List β} (h:Row X w base T v zs):Row X' w base T v zs:=by
 rcases h.toK with ⟨rfl,rfl⟩|⟨g,cap,cur,rfl,hb,hg,bN,bC,aV,ht⟩
 exact Row.nil;exact Row.ofK hb hg bN bC aV ht
open Go.Shelf Go.Sort in
theorem Z5i {β:Type} [Z2 β] [Inhabited β] {P:Program} {ρ:Ren} (fw:0<Z2.k β) (L:SlLaysF0.n6 P ρ) (aE:∀ w,(isAgg (ρ.t 24)).run P w=.ok true w) (zE:∀ w,(Go.sizeOf (ρ.t 24)).run P w=.ok (Z2.k β) w) (cf:β->β->Int) (hO:SWO (ltOf cf)) (g:Nat) {fn:Func} [hf:Fun P g fn]
 (oR:∀ (x y:β) (w),Calls P g #[aG x,aG y] w (Ret λr w'=>r=.I (cf x y)/\StD w w'))
 {X:List Nat} {base:Nat} {v:Value} {zs:List β} (h:Row X w base T v zs) (br:zs.length<4611686018427387904) :
 Calls P (ρ.f 6) #[v,.func (.func g) #[] #[]] w (Ret λr w'=>r=.tuple #[]/\∃ zs':List β,zs'.Perm zs/\(∀ i j (hi:i<zs'.length) (hj:j<zs'.length),i<j->¬ cf zs'[j] zs'[i]<0)/\Row X w' base T v zs'/\Stp (ob v) w w'):=by
 rcases h.toK with ⟨rfl,rfl⟩|⟨gb,cap,cur,rfl,hb,hg,bN,bC,aV,ht⟩
 refine (AnyF.slices_SortFunc_none L none 0 _ w).mono ?_;rintro _ _ ⟨rfl,rfl⟩;exact .mk ⟨rfl,[],Yaz _,λi j hi=>absurd hi (Xy _),Row.nil,Stp.refl _ _⟩;have hlt:gb<w.heap.size:=(Xm.1 hg).1;have hC:CmpLays P g #[] Z2.enc (Z2.k β) cf gb 0 zs.toArray.size w:=λm os dk hs x y=>by
  refine (oR x y _).mono ?_;rintro _ _ ⟨_,rfl,rfl,hD⟩;exact ⟨rfl,hD.grown⟩
 have hH:HoldsK Z2.enc (Z2.k β) w gb 0 zs.toArray:=ZcI hg (by rw [size_flatK,Z73 fw];simpa using ht);have hS:=AnyQ.slices_SortFunc L (Z2.k β) aE zE Z2.enc Z2.len Z2.one cf hO g #[] gb 0 cap zs.toArray w (λargs w=>hf.enters args w) hC hH hlt (by simpa using br);rw [show zs.toArray.size=zs.length by simp] at hS;refine hS.mono ?_;rintro _ _ ⟨rfl,d',q,os,⟨p1,p2,p3⟩,cZ,rfl⟩;have hl:d'.size=zs.length:=by simpa using p1
 have hp:d'.toList.Perm zs:=by
  have e1:d'.extract 0 zs.length=d':=by rw [<- hl];simp
  have e2:zs.toArray.extract 0 zs.length=zs.toArray:=by simp
  rw [e1,e2] at p3;simpa using p3
 obtain ⟨h1,cur',h2,h3,h4⟩:=Zf8 (q:=q) (F:=flatK Z2.enc (Z2.k β) d') os hg (by rw [size_flatK,hl,aV];exact Xr _ bN);refine .mk ⟨rfl,d'.toList,hp,λi j hi hj bR=>?_,?_,h1⟩;have:=cZ i j (Xu _) bR (by simpa [hl] using hj);simp only [ltOf,decide_eq_false_iff_not] at this;rw [getElem!_pos d' j (by simpa using hj),getElem!_pos d' i (by simpa using hi)] at this;simpa using this;have hz:zs.length=d'.toList.length:=by simp [hl]
 rw [hz];refine Row.ofK hb h2 (by rw [<- hz];exact bN) bC (by rw [h3,aV]) ?_;rw [<- hz,<- hl,<- size_flatK Z2.enc (Z2.k β) d',h4];have:=Z73 fw d'.toList;simpa using this
end
variable {P:Program} {n:Nat} {e:Env} {w:World} {d:Option Nat} {ty:TypeId} {pos:String} {af:Array Edge} {g:Option (Nat×Bool)}
theorem Ze5 {T k bytes:Nat} {z:Value} [hk:Siz P T k] [hb:Byt P T bytes] [hz:Zer P T z]:∃ i,P.info? T=some i/\i.size=k/\i.bytes=bytes/\i.zero=some z:=by
 have a1:=hk.h;have a2:=hb.h;have a3:=hz.h;cases hi:P.info? T with
 | none=>simp [hi] at a1
 | some i=>exact ⟨i,rfl,by simpa [hi] using a1,by simpa [hi] using a2,by simpa [hi] using a3⟩
def ZvE (T k m:Nat) (w:World) (v:Value) (w':World):Prop:=∃ b cur,v=.slice (some ⟨b,0,none⟩) m m/\w.heap.size<=b/\w'.heap[b]?=some (.cells cur T (0,0))/\cur.size=m * k/\m<=maxLen/\Stp [] w w'
theorem Z7S {t T bytes k m:Nat} {x y:Operand} {z:Value} [ht:Und P t (.slice T)] [hk:Siz P T k] [hb:Byt P T bytes] [hz:Zer P T z]
 (hx:ev e x=some (.I (m:Int))) (hy:ev e y=some (.I (m:Int))) (fI:m<=maxLen) (hbytes:bytes * m<=281474976710656) :
 OE P n ⟨d,.makeSlice t x y,ty,pos,af,g⟩ e w (ZvE T k m w):=by
 obtain ⟨i,hi,cg,bI,fj⟩:=Ze5 (P:=P) (T:=T) (k:=k) (bytes:=bytes) (z:=z);obtain ⟨w',aJ,bF,lE⟩:=run_make_full (P:=P) w w.heap.size t T i z k ht.h hi fj cg .i64 .i64 m (by rw [bI];exact hbytes) fI (Xq _);refine Zv (v:=.slice (some ⟨w.heap.size,0,none⟩) m m) (w':=w') (λa ha=>?_) ?_;simp [execOp,ha.ev hx,ha.ev hy,aJ];rcases bF.2 with ⟨h,_⟩|⟨gb,cap,cur,h,cJ,hg,hn,hm,aV,jj⟩
 cases h;cases h;exact ⟨_,cur,rfl,Xq _,hg,aV,fI,Stp.of_grown lE⟩
theorem Zit {β:Type} [Z2 β] {t T bytes b:Nat} {x y:Operand} {z u:Value} {zs:List β} {cur:Array Value} {base:Nat} [ht:Und P t (.slice T)] [hk:Siz P T (Z5.k β)] [hb:Byt P T bytes] [hz:Zer P T z]
 (hx:ev e x=some (.slice (some ⟨b,0,none⟩) zs.length zs.length)) (hy:ev e y=some u) (hs:SlV [] w u zs) (hg:w.heap[b]?=some (.cells cur T (0,0))) (aV:cur.size=zs.length * Z5.k β) (aT:base<=b) (hm:zs.length<=maxLen) :
 OE P n ⟨d,.call { callee:=.builtin .copy,args:=#[x,y],argTypes:=#[t,t] },ty,pos,af,g⟩ e w (λ_ w'=>(∀ X,Row X w' base T (.slice (some ⟨b,0,none⟩) zs.length zs.length) zs)/\Stp [b] w w'):=by
 obtain ⟨i,hi,cg,bI,fj⟩:=Ze5 (P:=P) (T:=T) (k:=Z5.k β) (bytes:=bytes) (z:=z);have cP:((zs.map Z2.enc).flatten:List Value).length=zs.length * Z5.k β:=by
  rw [Z0q (k:=Z2.k β) _ (by intro c hc;obtain ⟨x,_,rfl⟩:=Xw.1 hc;exact Z2.len x),XB];rfl
 have aB:∀ v∈(zs.map Z2.enc).flatten,v.oneCell'=true:=by
  intro v hv;obtain ⟨c,hc,jX⟩:=List.mem_flatten.1 hv;obtain ⟨x,_,rfl⟩:=Xw.1 hc;exact Z2.one x v jX
 have ar:=run_storeCells_at (P:=P) b 0 T (zs.map Z2.enc).flatten 0 cur w hg (by rw [cP,aV];omega) aB;obtain ⟨p,c,rfl,wM,bC,tN,am⟩:=hs;have lP:(Builtin.firstCells (Z5.k β) zs.length (.slice p zs.length c)).run P w=.ok (zs.map Z2.enc).flatten.toArray w:=by
  cases p with
  | none=>
    have h0:zs.length=0:=by have:=tN rfl;omega
    obtain rfl:=XQ.1 h0;simp [Builtin.firstCells]
  | some a=>
    have:=run_loadCells_list (P:=P) (w:=w) a (zs.map Z2.enc).flatten (λj v hj=>by
     have dI:j<zs.length * Z2.k β:=by
      have h1:=(Xt.1 hj).1;rw [cP] at h1;exact h1
     have tO:0<Z2.k β:=by
      rcases Nat.eq_zero_or_pos (Z2.k β) with h|h
      rw [h] at dI;omega;exact h
     have hq:j / Z2.k β<zs.length:=Nat.div_lt_of_lt_mul (by rwa [Ybt] at dI);have hr:j % Z2.k β<Z2.k β:=YbW _ tO;obtain ⟨b',o,cs,h1,h2,h3,h4,h5⟩:=am _ hq;cases h1;have nu:cs=Z2.enc zs[j / Z2.k β]:=h4;have h6:=Z05 (k:=Z2.k β) (zs.map Z2.enc) (by intro c hc;obtain ⟨x,_,rfl⟩:=Xw.1 hc;exact Z2.len x) (j / Z2.k β) (by simpa using hq) (j % Z2.k β) ((Z2.enc zs[j / Z2.k β])[j % Z2.k β]'(by rw [Z2.len];exact hr)) (by simp [Z2.len,hr]);rw [Ybt,YbC] at h6;rw [h6] at hj;have h7:=h5 (j % Z2.k β) _ (by rw [nu];exact XC (by rw [Z2.len];exact hr));rw [XL hj] at h7;have h8:o+j / Z2.k β * Z2.k β+j % Z2.k β=o+j:=by
      have:=YbC j (Z2.k β);rw [Ybt] at this;omega
     have h9:(⟨b',o,none⟩:Addr).add j=⟨b',o+j,none⟩:=by unfold Addr.add;split<;>simp_all
     rw [h9,<- h8];exact h7)
    rw [cP] at this;simpa [Builtin.firstCells] using this
 refine Zv (v:=goInt zs.length) (w':=w.setRow b ((zs.map Z2.enc).flatten++cur.toList.drop ((zs.map Z2.enc).flatten.length)).toArray) (λa ha=>?_) ⟨λX=>?_,Z0I _ _ _⟩;have hr:(Builtin.copy_ #[t,t] ty #[.slice (some ⟨b,0,none⟩) zs.length zs.length,.slice p zs.length c]).run P w=.ok (goInt zs.length) (w.setRow b ((zs.map Z2.enc).flatten++cur.toList.drop ((zs.map Z2.enc).flatten.length)).toArray):=by
  simp only [Ybs,XK,List.take_zero,XW] at ar;simp [Builtin.copy_,run_underlying ht.h,Builtin.lenOf,sizeOf,typeInfo,hi,cg,lP,ar]
 generalize w.setRow b ((zs.map Z2.enc).flatten++cur.toList.drop ((zs.map Z2.enc).flatten.length)).toArray=W' at hr ⊢;simp [execOp,resolve,invoke,builtin,ha.ev hx,ha.ev hy,hr];have wN:b<w.heap.size:=(Xm.1 hg).1;refine Row.ofK (cur:=((zs.map Z2.enc).flatten++cur.toList.drop ((zs.map Z2.enc).flatten.length)).toArray) aT (setRow_heap w b cur _ T (0,0) hg) (Xq _) hm ?_ ?_;have:Z2.k β=Z5.k β:=rfl;rw [this];simp only [Yan,Xb,Yah,Yae,cP,aV];omega;have:Z2.k β=Z5.k β:=rfl;rw [this];simp only [Yai (Nat.le_of_eq cP.symm)];rw [<- cP,Xs]
end Go.Eng
namespace Go.Proofs.YteibicnbkggiiaaGreatDoor
open Go Go.Eng Go.RowKit
theorem ZcJ (x y:Int) (w):CC 49 #[.I x,.I y] w λr w'=>r=.I (cmI x y)/\StD w w':=
 (Tryz.cmp_Compare_int x y w).mono (by
   rintro e w' ⟨rfl,rfl⟩;exact .mk ⟨rfl,StD.refl _⟩)
theorem Ziu (a:Str) (w):CC 129 #[str a] w λr w'=>r=.B false/\StD w w':=by
 refine cW1 6 Tryz.func129 ?_;refine RT ?_;exact ⟨by simp,StD.refl _⟩
theorem ZuH (a b:Str) (w):CC 91 #[str a,str b] w λr w'=>r=.I (Z3l a b)/\StD w w':=by
 refine cW2 20 Tryz.func91 ?_;refine W ?_;refine CPD (StD.refl w) (Ziu a _) λw1 _ hS=>?_;refine W ?_;refine CPD hS (Ziu b _) λw2 _ hS=>?_;refine W ?_;cases h1:ltS a b
 . refine Za (Z6r rfl rfl h1) rfl ?_
   refine W ?_;cases h2:(!(ltS a b || a == b))
   all_goals
    refine Za (Ze4 rfl rfl h2) rfl ?_;refine RT ?_;exact ⟨by rw [Z3l,if_neg (by simp [h1]),h2];rfl,hS⟩
 refine Za (Z6r rfl rfl h1) rfl ?_;refine RT ?_;exact ⟨by rw [Z3l,h1];rfl,hS⟩
theorem ZvF (v:Value) (l:List Int) (w) (hs:SlV [] w v l):CC 90 #[v] w λr w'=>r=.I (orL l)/\StD w w':=by
 have aW:=hs.max;refine cW1 18 Tryz.func90 ?_;refine W ?_;refine LP (σ:=Nat) (λk=>[(3,.I 0),(6,v),(7,.I l.length),(8,.I k)]) (λk w'=>k<=l.length/\StD w w'/\∀ j (h:j<l.length),j<k->l[j]=0) (λk=>l.length - k) 0 ⟨by omega,StD.refl _,by omega⟩ ?_;have bM:=hs;clear hs;rintro k w1 ⟨hk,hS,hz⟩;have hs:=bM.up hS.s;by_cases hlt:k<l.length;by_cases h0:l[k]=0;refine QO ?_;exact QL (k+1) ⟨by omega,hS,λj h hj=>by
  by_cases e:j=k;subst e;exact h0;exact hz j h (by omega)⟩ (by omega)
 refine RT ?_;exact ⟨by rw [ZcF hlt hz h0],hS⟩;refine RT ?_;exact ⟨by rw [Z70 (λj h=>hz j h (by omega))],hS⟩
theorem ZuI (f g:Fct) (w):CC 52 #[aG f,aG g] w λr w'=>r=.I (Z3S f g)/\StD w w':=by
 refine cW2 37 Tryz.func52 ?_;refine W ?_;refine BXD (StD.refl w) λb2 w1 h2 e2 _ hS=>?_;refine BXD hS λb3 w2 h3 e3 hT hS=>?_;replace e2:=e2.up hT.s;replace e2:Blk w2 b2 24 (Z2.enc f):=e2;replace e3:Blk w2 b3 24 (Z2.enc g):=e3;refine W ?_;refine Zf7 33 [] [] [(0,0),(1,1),(2,0),(3,1),(5,0),(6,1),(7,0),(8,1),(10,0),(11,1),(12,0),(13,1),(15,0),(16,1),(17,0),(18,1),(20,0),(21,1),(22,0),(23,1),(25,0),(26,1),(27,0),(28,1),(4,2),(9,2),(14,2),(19,2),(24,2),(29,2),(30,2),(31,2),(32,0)] rfl mixed (by kernel_rfl) (by kernel_rfl) (by kernel_rfl) (λw1 ae=>?_);replace e2:=e2.up ae.s;replace e3:=e3.up ae.s;replace hS:=hS.trans ae;refine D ?_;clear ae e2 e3;refine DPD hS (ZcJ _ _ _) λ_ _ hS=>?_;refine DPD hS (ZcJ _ _ _) λ_ _ hS=>?_;refine DPD hS (ZuH _ _ _) λ_ _ hS=>?_;refine DPD hS (ZcJ _ _ _) λ_ _ hS=>?_;refine DPD hS (ZcJ _ _ _) λ_ _ hS=>?_;refine DPD hS (ZcJ _ _ _) λ_ _ hS=>?_;refine Z9 rfl trivial (Z72 rfl (ZaN _ _ _ _ _ _)) (λ_ _ h=>Z6.stp h.1) rfl ?_;rintro bv wb ⟨hN,hT⟩;have aI:=hN.slv (X:=[]) (ys:=[cmI f.day g.day,cmI f.entry g.entry,Z3l f.kind g.kind,cmI f.by_ g.by_,cmI f.to_ g.to_,cmI f.amt g.amt]) (by simp) rfl rfl (by simp [maxLen]);replace hS:=hS.trans hT;refine DPD hS (ZvF bv _ _ aI) λ_ _ hS=>?_;refine D ?_;refine RT ?_;exact ⟨rfl,hS⟩
theorem ZuJ (a b:Spn) (w):CC 264 #[aG a,aG b] w λr w'=>r=.I (cmI a.1 b.1)/\StD w w':=by
 refine cW2 10 Tryz.func264 ?_;refine W ?_;refine BXD (StD.refl w) λb2 w1 h2 e2 _ hS=>?_;refine BXD hS λb3 w2 h3 e3 hT hS=>?_;replace e2:=e2.up hT.s;replace e2:Blk w2 b2 29 (Z2.enc a):=e2;replace e3:Blk w2 b3 29 (Z2.enc b):=e3;refine W ?_;refine CPD hS (ZcJ _ _ _) λw3 _ hS=>?_;refine RT ?_;exact ⟨rfl,hS⟩
theorem ZuK (f g:Fct) (w):CC 48 #[aG f,aG g] w λr w'=>r=.I (cmI f.entry g.entry)/\StD w w':=by
 refine cW2 10 Tryz.func48 ?_;refine W ?_;refine BXD (StD.refl w) λb2 w1 h2 e2 _ hS=>?_;refine BXD hS λb3 w2 h3 e3 hT hS=>?_;replace e2:=e2.up hT.s;replace e2:Blk w2 b2 24 (Z2.enc f):=e2;replace e3:Blk w2 b3 24 (Z2.enc g):=e3;refine W ?_;refine CPD hS (ZcJ _ _ _) λw3 _ hS=>?_;refine RT ?_;exact ⟨rfl,hS⟩
def ZcK (s:Spn):List Spn->List Spn
 | []=>[s]
 | x :: l=>if s.1<x.1 then s :: x :: l else x :: ZcK s l
def Ze6 (l:List Spn):List Spn:=l.foldr ZcK []
def JQ (acc:List Spn) (s:Spn):List Spn:=
 match acc.getLast? with
 | none=>[s]
 | some t=>if s.1<=t.2+1 then acc.dropLast++[(t.1,max t.2 s.2)] else acc++[s]
def Z3m (l:List Spn):List Spn:=(Ze6 l).foldl JQ []
structure Zf9 (l:List Spn):Prop where
 len:l.length<=1000
 rng:∀ s∈l,0<=s.1/\s.1<=s.2/\s.2<=3652058
theorem Z3G (s:Spn):JQ [] s=[s]:=rfl
theorem JL (L:List Spn) (u s:Spn):JQ (L++[u]) s=if s.1<=u.2+1 then L++[(u.1,max u.2 s.2)] else L++[u]++[s]:=by
 simp [JQ]
theorem Z5j (s:Spn):∀ l,(ZcK s l).Perm (s :: l)
 | []=>Yaz _
 | x :: l => by
   rw [ZcK];split;exact Yaz _
   . exact ((Z5j s l).cons x).trans (List.Perm.swap _ _ _)
theorem Z5S (s:Spn):∀ l:List Spn,l.Pairwise (λa b=>a.1<=b.1)->(ZcK s l).Pairwise (λa b=>a.1<=b.1)
 | [],_=>by simp [ZcK]
 | x :: l, h => by
   rw [ZcK];rw [XU] at h;split;rename_i hlt;refine XU.2 ⟨λy hy=>?_,XU.2 h⟩;rcases Xa.1 hy with rfl|hy
   omega;have:=h.1 y hy;omega;rename_i hlt;refine XU.2 ⟨λy hy=>?_,Z5S s l h.2⟩;rcases Xa.1 ((Z5j s l).mem_iff.1 hy) with rfl|hy
   omega;exact h.1 y hy
theorem Z2C:∀ l,(Ze6 l).Perm l
 | []=>Yaz _
 | x :: l=>(Z5j x _).trans ((Z2C l).cons x)
theorem Z4x:∀ l,(Ze6 l).Pairwise (λa b=>a.1<=b.1)
 | []=>List.Pairwise.nil
 | x :: l=>Z5S x _ (Z4x l)
theorem ZcL {acc:List Spn} {s t:Spn} (h:s.1=t.1) (hs:s.1<=s.2) (ht:t.1<=t.2):JQ (JQ acc s) t=JQ (JQ acc t) s:=by
 obtain ⟨s1,s2⟩:=s;obtain ⟨t1,t2⟩:=t;dsimp only at h hs ht;subst h;rcases YaI acc with rfl|⟨L,u,rfl⟩
 rw [Z3G,Z3G];have e1:=JL [] (s1,s2) (s1,t2);have e2:=JL [] (s1,t2) (s1,s2);rw [XW] at e1 e2;rw [e1,e2,if_pos (by dsimp only;omega),if_pos (by dsimp only;omega)];dsimp only;rw [Int.max_comm];obtain ⟨u1,u2⟩:=u;rw [YaJ,JL,JL];dsimp only;by_cases hc:s1<=u2+1;rw [if_pos hc,if_pos hc,JL,JL,if_pos (by dsimp only;omega),if_pos (by dsimp only;omega)];dsimp only;congr 3;omega;rw [if_neg hc,if_neg hc,JL,JL,if_pos (by dsimp only;omega),if_pos (by dsimp only;omega)];dsimp only;rw [Int.max_comm]
theorem Z8q {x:Spn} (hx:x.1<=x.2):∀ (A:List Spn) (acc:List Spn),(∀ a∈A,a.1=x.1/\a.1<=a.2)->JQ (A.foldl JQ acc) x=A.foldl JQ (JQ acc x)
 | [],_,_=>rfl
 | a :: A, acc, h => by
   rw [Yag,Yag,Z8q hx A _ (λb hb=>h b (by simp [hb])),ZcL (h a (by simp)).1 (h a (by simp)).2 hx]
theorem ZaR:∀ (L1 L2 acc:List Spn),L1.Perm L2->L1.Pairwise (λa b=>a.1<=b.1)->L2.Pairwise (λa b=>a.1<=b.1)->(∀ s∈L1,s.1<=s.2)->L1.foldl JQ acc=L2.foldl JQ acc
 | [],L2,acc,hp,_,_,_=>by rw [List.nil_perm.1 hp]
 | x :: l, L2, acc, hp, h1, h2, hv => by
   obtain ⟨A,B,rfl⟩:=YbL (hp.mem_iff.1 (XT));have hq:l.Perm (A++B):=(hp.trans Ya4).cons_inv;rw [XU] at h1;have fG:=Ybg.1 h2;rw [Yag,Ybd,Yag,Z8q (hv x (by simp)) A acc (λa ha=>?_),<- Ybd];refine ZaR l (A++B) _ hq h1.2 ?_ (λs hs=>hv s (by simp [hs]));exact h2.sublist (List.Sublist.append_left (List.sublist_cons_self _ _) _);have dV:a∈l:=hq.mem_iff.2 (by simp [ha]);have g1:=h1.1 a dV;have g2:=fG.2.2 a ha x (by simp);exact ⟨by omega,hv a (by simp [dV])⟩
theorem Zfa {l L:List Spn} (hp:L.Perm l) (hs:L.Pairwise (λa b=>a.1<=b.1)) (hv:∀ s∈l,s.1<=s.2):Z3m l=L.foldl JQ []:=
 ZaR _ _ _ ((Z2C l).trans hp.symm) (Z4x l) hs (λs h=>hv s ((Z2C l).mem_iff.1 h))
theorem Zfb (acc:List Spn) (s:Spn):(JQ acc s).length<=acc.length+1:=by
 rcases YaI acc with rfl|⟨L,u,rfl⟩
 simp [JQ];rw [YaJ,JL];split<;>simp
theorem Z5k:∀ (L acc:List Spn),(L.foldl JQ acc).length<=acc.length+L.length
 | [],acc=>by simp
 | x :: L, acc => by
   rw [Yag];have h1:=Z5k L (JQ acc x);have h2:=Zfb acc x;rw [Xf];omega
def SpV (s:Spn):Prop:=0<=s.1/\s.1<=s.2/\s.2<=3652058
theorem ZlR {acc:List Spn} {s:Spn} (ha:∀ x∈acc,SpV x) (hs:SpV s):∀ x∈JQ acc s,SpV x:=by
 rcases YaI acc with rfl|⟨L,u,rfl⟩
 rw [Z3G];intro x hx;simp only [Xn] at hx;subst hx;exact hs;rw [YaJ] at ha ⊢;rw [JL];have hu:=ha u (by simp);intro x hx;unfold SpV at *;split at hx;rcases Xe.1 hx with h|h
 exact ha x (by simp [h]);simp only [Xn] at h;subst h;dsimp only;omega;rcases Xe.1 hx with h|h
 exact ha x h;simp only [Xn] at h;subst h;exact hs
theorem Z9q:∀ (L acc:List Spn),(∀ x∈acc,SpV x)->(∀ x∈L,SpV x)->∀ x∈L.foldl JQ acc,SpV x
 | [],acc,h,_=>h
 | y :: L,acc,h,hL=>Z9q L _ (ZlR h (hL y (by simp))) (λx hx=>hL x (by simp [hx]))
theorem Ziv {l:List Spn} (h:Zf9 l):Zf9 (Z3m l):=by
 have hp:=Z2C l;refine ⟨?_,Z9q _ _ (by simp) (λx hx=>h.rng x (hp.mem_iff.1 hx))⟩;have:=Z5k (Ze6 l) [];rw [hp.length_eq] at this;have:=h.len;unfold Z3m;simp at *;omega
open Go Go.Eng Go.RowKit Go.Shelf Go.Sort
theorem ZuL {α:Type} (f:α->Int):SWO (ltOf λx y:α=>cmI (f x) (f y)):=by
 have h:∀ x y,ltOf (λx y:α=>cmI (f x) (f y)) x y=decide (f x<f y):=by
  intro x y;unfold ltOf cmI;by_cases h1:f x<f y;simp [h1];by_cases h2:f y<f x<;>simp [h1,h2]
 refine ⟨λx=>by rw [h];simp,λx y z h1 h2=>?_,λx y z h1 h2=>?_⟩;rw [h] at *;simp at *;omega;rw [h] at *;simp at *;omega
instance:Inhabited Spn:=⟨(0,0)⟩
theorem ZaS {X:List Nat} {base:Nat} {v:Value} {zs:List Spn} {w} (h:Row X w base 29 v zs) (br:zs.length<=1000) :
 CC 263 #[v,.func (.func 264) #[] #[]] w λr w'=>r=.tuple #[]/\∃ zs':List Spn,zs'.Perm zs/\(∀ i j (hi:i<zs'.length) (hj:j<zs'.length),i<j->¬ cmI zs'[j].1 zs'[i].1<0)/\Row X w' base 29 v zs'/\Stp (ob v) w w':=
 Z5i (β:=Spn) (by decide) Tryz.sortSpn Tryz.isAgg29 Tryz.sizeOf29 (λx y=>cmI x.1 y.1) (ZuL Prod.fst) 264 (λx y w=>ZuJ x y w) h (by omega)
theorem Zfc (v:Value) (l:List Spn) (w) (hs:SlV [] w v l) (ho:Zf9 l):CC 201 #[v] w λr w'=>ZE 29 w w' r (Z3m l):=by
 have ai:=ho.len;refine cW1 58 Tryz.func201 ?_;refine W ?_;refine Z0 (Z7S (m:=l.length) rfl rfl (by simp only [maxLen];omega) (Xk (Nat.mul_le_mul_left _ ai) (by decide))) rfl ?_;rintro _ w1 ⟨b,cur,rfl,hb,hg,aV,hm,hT⟩;have bU:=hs.up hT;refine W ?_;refine Z0 (Zit (base:=w.heap.size) rfl rfl bU hg aV hb hm) rfl ?_;rintro _ w2 ⟨hr,ax⟩;replace hT:=hT.ow ax;refine W ?_;refine CL (ZaS (hr []) ai) ?_;rintro _ w3 ⟨rfl,L,hp,cZ,cX,cH⟩;have hS:Stp [] w w3:=hT.own cH (λc hc=>.inr (by simp [ob] at hc;omega));have tP:L.Pairwise (λa b=>a.1<=b.1):=XZ.2 (λi j hi hj bR=>by
  have:=cZ i j hi hj bR;unfold cmI at this;by_cases h1:L[j].1<L[i].1;rw [if_pos h1] at this;omega;omega)
 rw [Zfa hp tP (λs h=>(ho.rng s h).2.1)];have hv:∀ s∈L,SpV s:=λs h=>ho.rng s (hp.mem_iff.1 h);have rj:L.length=l.length:=hp.length_eq;have hL:L.length<=1000:=by rw [rj];exact ai
 have au:SlV [] w3 (.slice (some ⟨b,0,none⟩) l.length l.length) L:=cX.slv (by simp);rw [<- rj] at *;clear hr cX bU hT ax cH hg aV cZ hp;generalize wO:Value.slice (some ⟨b,0,none⟩) L.length L.length=vv at *;refine W ?_;refine LP (σ:=Nat×Value) (λq=>[(4,q.2),(16,vv),(17,.I L.length),(18,.I q.1)]) (λq w'=>q.1<=L.length/\ZE 29 w3 w' q.2 ((L.take q.1).foldl JQ [])) (λq=>L.length - q.1) (0,.N) ⟨by omega,ZE.nil⟩ ?_;rintro ⟨k,rv⟩ w4 ⟨hk,hr⟩;dsimp only at hk hr ⊢;by_cases hlt:k<L.length;have dA:=au.up hr.2;have hstep:(L.take (k+1)).foldl JQ []=JQ ((L.take k).foldl JQ []) L[k]:=by rw [Xj hlt,Ybd];rfl
 have cP:=Z5k (L.take k) [];have oS:=Z9q (L.take k) [] (by simp) (λx hx=>hv x (Yao hx));have tQ:=hv _ (Xc hlt);rw [Xz,Xh] at cP;generalize (L.take k).foldl JQ []=acc at *;refine QO ?_;refine Z0 Z4 rfl ?_;rintro _ w5 ⟨b6,rfl,eH,e6,hA⟩;refine SA (us:=Z2.enc L[k]) e6 ?_;rintro _ w6 ⟨cR,e6⟩;replace hA:=hA.ow cR;replace hr:=hr.up hA;clear hA cR dA;have dX:SlV [] w6 rv acc:=hr.slv (by simp);refine W ?_;rcases YaI acc with rfl|⟨M,u,rfl⟩
 refine ZDr 14 [] [] [(0,0),(1,0),(2,0),(3,0),(4,1),(5,0),(6,0),(7,0),(8,0),(9,0),(10,1),(11,0),(12,0),(13,0)] (λw1 ae=>?_);replace hr:=hr.up ae;replace e6:=e6.up ae;refine D ?_;refine W ?_;refine AP1 L[k] hr (by simp) λv1 v' w' bB _=>?_
 refine W ?_;exact QL (k+1,v') ⟨hlt,by rw [hstep,Z3G];exact bB⟩ (by dsimp only;omega);rw [YaJ] at *;rw [JL] at hstep;have lQ:((M++[u]).length:Int) - 1=(M.length:Nat):=by simp
 have kO:M.length<(M++[u]).length:=by simp
 have cU:(M++[u])[M.length]=u:=by simp
 have hu:=oS u (by simp);unfold SpV at hu tQ;have wP:0<=(M++[u])[M.length].2/\(M++[u])[M.length].2<=3652058:=by rw [cU];omega
 have fk:0<((M++[u]).length:Int):=by simp
 refine ZDr 14 [] [] [(0,0),(1,0),(2,0),(3,0),(4,1),(5,0),(6,0),(7,0),(8,0),(9,0),(10,1),(11,0),(12,0),(13,0)] (λw1 ae=>?_);replace hr:=hr.up ae;replace dX:=dX.up ae;replace e6:=e6.up ae;refine QD ?_;rw [cU];refine W ?_;refine VC ?_ ?_<;>intro hc;rw [if_pos hc] at hstep;refine W ?_;refine ZDr 15 [] [14] [(0,0),(1,0),(2,0),(3,0),(4,0),(5,0),(6,0),(7,0),(8,1),(9,0),(10,1),(11,0),(12,0),(13,0),(14,2)] (λw1 ae=>?_);replace hr:=hr.up ae;replace dX:=dX.up ae;replace e6:=e6.up ae;refine QD ?_;rw [cU];refine Je rfl trivial (Z9a (y':=(u.1,max u.2 L[k].2)) (u:=.I (max u.2 L[k].2)) rfl rfl rfl rfl rfl hr kO (by decide) (by rw [cU];rfl)) rfl ?_;rintro _ w8 ⟨rk,-⟩;refine D ?_;refine W ?_;rw [show (M++[u]).set M.length (u.1,max u.2 L[k].2)=M++[(u.1,max u.2 L[k].2)] by simp] at rk;exact QL (k+1,rv) ⟨hlt,by rw [hstep];exact rk⟩ (by dsimp only;omega);rw [if_neg hc] at hstep;refine W ?_;refine AP1 L[k] hr (by omega) λv1 v' w' bB _=>?_
 refine W ?_;exact QL (k+1,v') ⟨hlt,by rw [hstep];exact bB⟩ (by dsimp only;omega);obtain rfl:k=L.length:=by omega
 rw [Xs] at hr;refine QO ?_;refine WR ?_;exact .mk (hr.pre hS)
def Z7T (start:Int):List Spn->Int->Int
 | [],d=>d
 | s :: l,d=>if d<s.1 then d else Z7T start l (d+max 0 (s.2 - max s.1 (start+1)+1))
def Z9r (start due:Int) (l:List Spn):Int×Int:=if due<=start then (due,0) else if 3652058<Z7T start (Z3m l) due then (0,31) else (Z7T start (Z3m l) due,0)
theorem Zfd (start:Int) (L:List Spn) (d:Int) (k:Nat) (h:k<L.length):Z7T start (L.drop k) d=if d<L[k].1 then d else Z7T start (L.drop (k+1)) (d+max 0 (L[k].2 - max L[k].1 (start+1)+1)):=by
 rw [Yat h,Z7T]
theorem Z74 (start due:Int) (v:Value) (l:List Spn) (w) (hs:SlV [] w v l) (ho:Zf9 l) (h1:-1000000000<=start/\start<=1000000000) (h2:-1000000000<=due/\due<=1000000000):CC 133 #[.I start,.I due,v] w λr w'=>r=.tuple #[.I (Z9r start due l).1,.I (Z9r start due l).2]/\Stp [] w w':=by
 have hm:=Ziv ho;unfold Z9r;refine cW3 41 Tryz.func133 ?_;by_cases hd:due<=start;rw [if_pos hd];refine RT ?_;exact ⟨rfl,Stp.refl _ _⟩;rw [if_neg hd];refine QO ?_;refine CG (Zfc v l w hs ho) ?_;intro rv w1 hr;have hS:=hr.2;have dX:SlV [] w1 rv (Z3m l):=hr.slv (by simp);clear hr;generalize Z3m l=L at *;refine W ?_;refine Z0b (σ:=Int) (λd=>[(0,.I start),(1,.I d)]) (λd w'=>Stp [] w w'/\d=Z7T start L due/\-1000000000<=d/\d<=9000000000000) ?_ ?_;refine LP (σ:=Nat×Int) (λq=>[(0,.I start),(1,.I q.2),(15,rv),(16,.I L.length),(17,.I q.1)]) (λq w'=>q.1<=L.length/\Stp [] w1 w'/\Z7T start (L.drop q.1) q.2=Z7T start L due/\-1000000000<=q.2/\q.2<=1000000000+q.1 * 4000000000) (λq=>L.length - q.1) (0,due) ⟨by omega,Stp.refl _ _,rfl,h2.1,by dsimp only;omega⟩ ?_;rintro ⟨k,d⟩ w2 ⟨hk,hT,he,g1,g2⟩;dsimp only at hk he g1 g2 ⊢;have ai:=hm.len;have oT:=dX.up hT;by_cases hlt:k<L.length;obtain ⟨r1,r2,r3⟩:=hm.rng _ (Xc hlt);have hstep:=Zfd start L d k hlt;rw [he] at hstep;refine QO ?_;refine Z0 Z4 rfl ?_;rintro _ w3 ⟨b9,rfl,gH,e9,az⟩;refine SA (us:=Z2.enc L[k]) e9 ?_;rintro _ w4 ⟨aF,e9⟩;replace hT:=hT.trans (az.ow aF);clear az aF oT;simp only [Z2.enc] at e9;by_cases hb:d<L[k].1;rw [if_pos hb] at hstep;refine QO ?_;exact QT d ⟨hS.trans hT,hstep.symm,g1,by omega⟩;rw [if_neg hb] at hstep;refine QO ?_;exact ZF (k+1,d+max 0 (L[k].2 - max L[k].1 (start+1)+1)) ⟨rfl,rfl,rfl,rfl,rfl,trivial⟩ ⟨hlt,hT,hstep.symm,by dsimp only;omega,by dsimp only;omega⟩ (by dsimp only;omega);refine QO ?_;rw [Ya8 (by omega)] at he;exact QT d ⟨hS.trans hT,he,g1,by omega⟩;rintro d w2 ⟨ak,rfl,g1,g2⟩;generalize Z7T start L due=d at *;by_cases hc:3652058<d;rw [if_pos hc];refine RT ?_;exact ⟨rfl,ak⟩;rw [if_neg hc];refine RT ?_;exact ⟨rfl,ak⟩
def Znf (start due:Int) (l:List Spn):Int:=if (Z9r start due l).2≠0 then 3652058 else (Z9r start due l).1
def Z5l (start e:Int) (s:Spn):Bool:=decide (start<s.2/\s.1<=e)
def Z8r (start due:Int) (l:List Spn):List Spn:=if due<=start then [] else l.filter (Z5l start (Znf start due l))
theorem ZaT {α:Type} (p:α->Bool) (l:List α) (k:Nat) (h:k<l.length):(l.take (k+1)).filter p=(l.take k).filter p++if p l[k]=true then [l[k]] else []:=by
 rw [Xj h,X5];congr 1;cases hc:p l[k]<;>simp [hc]
theorem Ziw (start due:Int) (v:Value) (l:List Spn) (w) (hs:SlV [] w v l) (ho:Zf9 l) (h1:-1000000000<=start/\start<=1000000000) (h2:-1000000000<=due/\due<=1000000000):CC 137 #[.I start,.I due,v] w λr w'=>ZE 29 w w' r (Z8r start due l):=by
 have ai:=ho.len;unfold Z8r;refine cW3 46 Tryz.func137 ?_;by_cases hd:due<=start;rw [if_pos hd];refine QO ?_;refine WR ?_;exact .mk ZE.nil;rw [if_neg hd];refine QO ?_;refine CP (Stp.refl [] w) (Z74 start due v l w hs ho h1 h2) λw1 _ hS=>?_;refine W ?_;unfold Znf;generalize Z9r start due l=p;obtain ⟨d,c⟩:=p;dsimp only;refine JG (σ:=Unit) (λ_=>[(0,.I start),(2,v),(7,.I (if c≠0 then 3652058 else d))]) (λ_ w'=>Stp [] w w') ?_ ?_;by_cases hc:c=0;rw [if_neg (by simpa using hc)];refine QO ?_;exact QT () hS;rw [if_pos hc];refine QO ?_;exact QT () hS;rintro _ w2 hS;generalize (if c≠0 then (3652058:Int) else d)=E;have aO:=hs.up hS;refine W ?_;refine LP (σ:=Nat×Value) (λq=>[(0,.I start),(7,.I E),(9,q.2),(24,v),(25,.I l.length),(26,.I q.1)]) (λq w'=>q.1<=l.length/\ZE 29 w w' q.2 ((l.take q.1).filter (Z5l start E))) (λq=>l.length - q.1) (0,.N) ⟨by omega,ZE.pre hS ZE.nil⟩ ?_;rintro ⟨k,rv⟩ w3 ⟨hk,hr⟩;dsimp only at hk hr ⊢;have eh:=hs.up hr.2;by_cases hlt:k<l.length
 . have hstep:=ZaT (Z5l start E) l k hlt
   refine QO ?_;refine Z0 Z4 rfl ?_;rintro _ w4 ⟨b11,rfl,oV,e11,az⟩;refine SA (us:=Z2.enc l[k]) e11 ?_;rintro _ w5 ⟨aF,e11⟩;replace hr:=hr.up (az.ow aF);clear az aF eh;repeat'(first|refine W1 ?_|omega|refine VG ?_ ?_<;>intro hg|refine VC ?_ ?_<;>intro hc)
   all_goals first
    | exact QL (k + 1, rv) ⟨hlt, by
       rw [hstep,if_neg (show ¬ Z5l start E l[k]=true by simp only [Z5l,decide_eq_true_eq];omega),XG];exact hr⟩ (by dsimp only;omega)
    | refine AP1 l[k] hr (Xk (X0 _ _) (by simp; omega)) λv1 v' w' bB _ => ?_
      refine QO ?_;exact QL (k+1,v') ⟨hlt,by
       rw [hstep,if_pos (show Z5l start E l[k]=true from decide_eq_true ⟨by omega,by omega⟩)];exact bB⟩ (by dsimp only;omega)
 obtain rfl:k=l.length:=by omega
 rw [Xs] at hr;refine QO ?_;refine WR ?_;exact .mk hr
def Zfe (l:List Spn):Int:=if 64<l.length then 2 else if l.any (λs=>decide (s.1<0\/s.2<s.1\/3652058<s.2)) then 5 else 0
theorem Z9s (v:Value) (l:List Spn) (w) (hs:SlV [] w v l):CC 31 #[v] w λr w'=>r=.I (Zfe l)/\Stp [] w w':=by
 have aW:=hs.max;unfold Zfe;refine cW1 33 Tryz.func31 ?_;by_cases rm:64<l.length;rw [if_pos rm];refine RT ?_;exact ⟨rfl,Stp.refl _ _⟩;rw [if_neg rm];refine QO ?_;refine LP (σ:=Nat) (λk=>[(0,v),(9,.I l.length),(10,.I k)]) (λk w'=>k<=l.length/\Stp [] w w'/\∀ j (h:j<l.length),j<k->¬ (l[j].1<0\/l[j].2<l[j].1\/3652058<l[j].2)) (λk=>l.length - k) 0 ⟨by omega,Stp.refl _ _,by omega⟩ ?_;rintro k w2 ⟨hk,hS,hz⟩;have aO:=hs.up hS;by_cases hlt:k<l.length
 . refine QO ?_
   refine Z0 Z4 rfl ?_;rintro _ w4 ⟨b4,rfl,bE,e4,az⟩;refine SA (us:=Z2.enc l[k]) e4 ?_;rintro _ w5 ⟨aF,e4⟩;replace hS:=hS.trans (az.ow aF);clear az aF;repeat'(first|refine W1 ?_|omega|refine VG ?_ ?_<;>intro hg|refine VC ?_ ?_<;>intro hc)
   all_goals first
    | exact QL (k + 1) ⟨hlt, hS, λj h hj => by
       by_cases e:j=k;subst e;omega;exact hz j h (by omega)⟩ (by omega)
    | refine WR ?_
      rw [if_pos (YaS.2 ⟨l[k],Xc hlt,by simp only [decide_eq_true_eq];omega⟩)];exact .mk ⟨rfl,hS⟩
 refine QO ?_;refine WR ?_;rw [if_neg];exact .mk ⟨rfl,hS⟩;intro h;obtain ⟨s,h1,h2⟩:=YaS.1 h;obtain ⟨j,hj,rfl⟩:=Xv h1;exact hz j hj (by omega) (by simpa using h2)
end Go.Proofs.YteibicnbkggiiaaGreatDoor
namespace Go.Eng
open Go Go.RowKit Go.Proofs
def Z0u (ds:List Deferred) (a:Act):Act:={ a with defers:=a.defers++ds }
def Z75 (ds:List Deferred) (Q:Exit->Act->World->Prop):Exit->Act->World->Prop:=λx a w=>Q x (Z0u ds a) w
theorem Z1D (ds:List Deferred) (a:Act) (d:Option Nat) (v:Value):Z0u ds (a.put d v)=(Z0u ds a).put d v:=by cases d<;>rfl
theorem Z5m (ds:List Deferred) (a:Act):(Z0u ds a).eval=a.eval:=by funext x;cases x<;>rfl
theorem Z3n {ds:List Deferred} {Q:Exit->Act->World->Prop} (h:LetsOut (Z75 ds Q)):LetsOut Q:=let ⟨a,w,h⟩:=h;⟨_,w,h⟩
theorem ZaU {P:Program} {ds:List Deferred} {Q:Exit->Act->World->Prop} {o:Oper} {a:Act} {w} {K K':Act->World->Prop} (hK:∀ a w,K' a w->K (Z0u ds a) w) (h:o.wp P a w K' (Z75 ds Q)):o.wp P (Z0u ds a) w K Q:=by
 unfold Oper.wp at *;rw [Z5m];generalize (execOp a.eval o).run P w=r at *;cases r with
 | ok x w'=>
   cases x<;>simp only [Oper.upon] at h ⊢
   case value v=>have:=hK _ _ h;rw [Z1D] at this;exact this
   case skip=>have:=hK _ _ h;rw [Z1D] at this;exact this
   case defer d=>have:=hK _ _ h;rw [Z1D] at this;exact this
   case enter f args=>
    refine Calls.mono h λe w'' he=>?_;cases e with
    | returned v=>have:=hK _ _ he;rw [Z1D] at this;exact this
    | panicked c=>exact he
    | outgrown=>exact Z3n he
   case row row args=>exact Rows.mono h λv w'' he=>by have:=hK _ _ he;rw [Z1D] at this;exact this
 | halt x w'=>cases x<;>simp only [Oper.upon] at h ⊢;exact h
theorem ZaV {P:Program} {ds:List Deferred} {o:Oper} {a:Act} {w} (h:o.asks P a w):o.asks P (Z0u ds a) w:=by
 unfold Oper.asks at *;rw [Z5m];exact h
theorem Z4e {P:Program} {ds:List Deferred} {Q:Exit->Act->World->Prop} {ops:Array Oper}:∀ (l:List Oper) (a:Act) (w),wpList P ops (Z75 ds Q) l a w->wpList P ops Q l (Z0u ds a) w
 | [],a,w,h=>h
 | o :: rest, a, w, h => by
   unfold wpList at *;split at h;rename_i hw;rw [if_pos (show Region.wanted o (yielded ops (Z0u ds a).tmps)=true from hw)];rcases h with h|⟨h1,h2⟩
   exact .inl (ZaU (λa w h=>Z4e rest a w h) h);exact .inr ⟨ZaV h1,Z3n h2⟩;rename_i hw;rw [if_neg (show ¬ Region.wanted o (yielded ops (Z0u ds a).tmps)=true from hw)];rw [<- Z1D];exact Z4e rest _ w h
theorem Zix {P:Program} {ds:List Deferred} {Q:Exit->Act->World->Prop} {ops:Array Oper} {i:Nat} {a:Act} {w} {K K':Act->World->Prop} (hK:∀ a w,K' a w->K (Z0u ds a) w) (h:wpOp P ops (Z75 ds Q) i K' a w):wpOp P ops Q i K (Z0u ds a) w:=by
 unfold wpOp at *;cases ho:ops[i]? with
 | none=>simp only [ho] at h ⊢;exact hK _ _ h
 | some o=>
   simp only [ho] at h ⊢;split at h;rename_i hw;rw [if_pos (show Region.wanted o (yielded ops (Z0u ds a).tmps)=true from hw)];rcases h with h|⟨h1,h2⟩
   exact .inl (ZaU hK h);exact .inr ⟨ZaV h1,Z3n h2⟩;rename_i hw;rw [if_neg (show ¬ Region.wanted o (yielded ops (Z0u ds a).tmps)=true from hw)];rw [<- Z1D];exact hK _ _ h
theorem Z5n {P:Program} {ds:List Deferred} {Q:Exit->Act->World->Prop} {ops:Array Oper} {md:Region.Mode}:∀ (fuel:Nat) (listed:Array Bool) (a:Act) (w),wpAny P md ops (Z75 ds Q) fuel listed a w->wpAny P md ops Q fuel listed (Z0u ds a) w
 | 0,_,_,_,h=>h
 | fuel+1,_,_,_,h=>⟨h.1,λi hi=>Zix (λa w h=>Z5n fuel _ a w h) (h.2 i hi)⟩
structure WQD (ds:List Deferred) (n:Nat) (Q:Exit->Act->World->Prop) (x:Exit) (e:Env) (w):Prop where
 h:∀ a,Has n e a->Q x (Z0u ds a) w
structure WCD (ds:List Deferred) (P:Program) (n:Nat) (c:Code) (Q:Exit->Act->World->Prop) (e:Env) (w):Prop where
 h:∀ a,Has n e a->c.wp P Q (Z0u ds a) w
section rules
variable {P:Program} {n:Nat} {ds:List Deferred} {Q:Exit->Act->World->Prop} {e:Env} {w}
theorem Zrd {x:Exit} (h:WQD ds n Q x e w):WQ n (Z75 ds Q) x e w:=⟨λa ha=>h.h a ha⟩
theorem ZlS {x y:Code} (h:WCD ds P n x (Exit.then (λa w=>y.wp P Q a w) Q) e w):WCD ds P n (x.seq y) Q e w:=⟨λa ha=>wp_seq (h.h a ha)⟩
theorem ZaW {y:Code} (h:WCD ds P n y Q e w):WQD ds n (Exit.then (λa w=>y.wp P Q a w) Q) .normal e w:=⟨λa ha=>h.h a ha⟩
theorem ZlT (h:WQD ds n Q .ret e w):WCD ds P n .ret Q e w:=⟨λa ha=>wp_ret (h.h a ha)⟩
theorem HasD.ev {a:Act} (ha:Has n e a) {x:Operand} {v:Value} (hx:ev e x=some v):(Z0u ds a).eval x=v:=by rw [Z5m];exact ha.ev hx
theorem Zff {id:Nat} {l:List Oper} (m:Nat) (S:List Nat) (Lt:List Nat) (ord:List (Nat×Nat)) (bP:l.length=m) (hm:P.follows .mixedOrders=true) (hs:Region.noSelect l.toArray=true) (hl:Nat.beq (wt ord) l.length=true)
 (hB:ZX l.toArray Lt ord (Array.replicate m false)=true)
 (h:∀ w',Stp [] w w'->WD P n l.toArray S Lt (Z75 ds Q) ord e w'):WCD ds P n (.region id l.toArray true) Q e w:=by
 subst bP;refine ⟨λa ha=>wp_region_any hm (Z5n _ _ _ _ ?_)⟩;have h1:=(h { w with drawn:=w.drawn+1 } (Stp.drew [] w)).h _ hs hB a ha;have h2:=JS (Q:=Z75 ds Q) (λa w hz=>hz) _ _ _ _ h1;rw [Xp hl] at h2;simpa using h2
end rules
abbrev FR (l:Nat):Fence:=Fence.wide.inRound l
section
variable {P:Program} {n m l:Nat} {Q Q':Exit->Act->World->Prop} {e:Env} {w:World} {ops:Array Oper}
theorem Ze7 {o:Oper} {a:Act} {K K':Act->World->Prop} (dT:∀ c,o.op≠.defer c) (hQ:∀ x a w,Q x a w->Q' x a w) (hK:∀ a w,K a w->K' a w) (h:o.wp P a w K Q):o.wpIn (FR l) m P a w K' Q':=by
 unfold Oper.wp at h;refine ⟨λ_ _=>trivial,?_⟩;rw [Oper.semAt_eq _ _ _ dT];generalize (execOp a.eval o).run P w=r at *;cases r with
 | ok x w'=>
   cases x<;>simp only [Oper.upon] at h<;>simp only [Oper.uponIn]
   case value v=>exact hK _ _ h
   case skip=>exact hK _ _ h
   case defer d=>exact hK _ _ h
   case enter f args=>
    refine ⟨(λh=>by cases h),CallsIn.inRound l (callsIn_wide.2 (Calls.mono h λen w'' he=>?_))⟩;cases en with
    | returned v=>exact hK _ _ he
    | panicked c=>exact hQ _ _ _ he
    | outgrown=>
      obtain ⟨a',w3,h3⟩:=he;exact ⟨a',w3,hQ _ _ _ h3⟩
   case row row args=>
    exact ⟨(λh=>by cases h),λc cs _=>let ⟨v,w'',r,s⟩:=h c cs;⟨v,w'',hK _ _ r,stepsIn_wide.2 s⟩⟩
 | halt x w'=>
   cases x<;>simp only [Oper.upon] at h<;>simp only [Oper.uponIn];exact hQ _ _ _ h
theorem Z9t (dT:∀ (i:Nat) (o:Oper),ops[i]?=some o->∀ c,o.op≠.defer c) (hQ:∀ a w,¬ Q .outgrown a w):∀ (L:List Nat) (a:Act) (w),wpOps P ops Q L a w->wpOpsIn (FR l) m P ops Q L a w
 | [],a,w,h=>h
 | i :: rest, a, w, h => by
   unfold wpOps at h;unfold wpOpsIn;cases ho:ops[i]? with
   | none=>simp only [ho] at h ⊢;exact Z9t dT hQ rest a w h
   | some o=>
     simp only [ho] at h ⊢;split at h;rename_i hw;rw [if_pos hw];rcases h with h|⟨_,a',w',h⟩
     exact Ze7 (dT i o ho) (λ_ _ _ h=>h) (λa w h=>Z9t dT hQ rest a w h) h;exact absurd h (hQ a' w');rename_i hw;rw [if_neg hw];exact ⟨λ_ _=>trivial,Z9t dT hQ rest _ w h⟩
def Ziy (L:List Oper):Bool:=L.all λo=>match o.op with|.defer _=>false|_=>true
theorem Z76 {L:List Oper} (h:Ziy L=true):∀ (i:Nat) (o:Oper),L.toArray[i]?=some o->∀ c,o.op≠.defer c:=by
 intro i o ho c hc;have hm:o∈L:=by
  have:L[i]?=some o:=by simpa using ho
  exact List.mem_of_getElem? this
 have:=Xx.1 h o hm;rw [hc] at this;cases this
theorem Z9u {md:Region.Mode} {S:List Nat} {Lt:Nat->Bool} {Z:Act->World->Prop} (dT:∀ (i:Nat) (o:Oper),ops[i]?=some o->∀ c,o.op≠.defer c) (hZ:∀ a w,Z a w->Q .normal a w):∀ (fuel:Nat) (listed:Array Bool) (a:Act) (w),
 Z45 P md ops S Lt Z fuel listed a w->wpAnyIn (FR l) m P md ops Q fuel listed a w
 | 0,_,_,_,h=>⟨h.1,hZ _ _ h.2⟩
 | fuel + 1, listed, a, w, h => ⟨λh0 => hZ _ _ (h.1 h0), λi hi => by
   have h1:=h.2 i hi;unfold wpOp at h1;unfold wpOpIn;cases ho:ops[i]? with
   | none=>simp only [ho] at h1 ⊢;exact Z9u dT hZ fuel _ a w h1.2
   | some o=>
     simp only [ho] at h1 ⊢;split at h1;rename_i hw;rw [if_pos hw];rcases h1 with h1|⟨_,_,_,hf⟩
     exact Ze7 (dT i o ho) (λ_ _ _ h=>h.elim) (λa w h=>Z9u dT hZ fuel _ a w h.2) h1;exact hf.elim;rename_i hw;rw [if_neg hw];exact ⟨λ_ _=>trivial,Z9u dT hZ fuel _ _ w h1.2⟩⟩
structure WCR (l m:Nat) (P:Program) (n:Nat) (c:Code) (Q:Exit->Act->World->Prop) (e:Env) (w:World):Prop where
 h:∀ a,Has n e a->c.wpIn (FR l) m P Q a w
variable {x y:Code}
theorem JD (h:WCR l m P n x (Exit.then (λa w=>y.wpIn (FR l) m P Q a w) Q) e w):WCR l m P n (x.seq y) Q e w:=⟨λa ha=>wpIn_seq (h.h a ha)⟩
theorem J7 (h:WCR l m P n y Q e w):WQ n (Exit.then (λa w=>y.wpIn (FR l) m P Q a w) Q) .normal e w:=⟨λa ha=>h.h a ha⟩
theorem J8 (h:WQ n Q .normal e w):WCR l m P n .skip Q e w:=⟨λa ha=>wpIn_skip (h.h a ha)⟩
theorem J9 {i:Nat} (h:WQ n Q (.exit i) e w):WCR l m P n (.exit i) Q e w:=⟨λa ha=>wpIn_exit (h.h a ha)⟩
theorem ZV {i:Nat} {c:Code} (h:WCR l m P n c (Exit.inBlock i Q) e w):WCR l m P n (.block i c) Q e w:=⟨λa ha=>wpIn_block (h.h a ha)⟩
theorem J1 {c:Operand} (hc:ev e c=some (.B true)) (h:WCR l m P n x Q e w):WCR l m P n (.cond c x y) Q e w:=⟨λa ha=>wpIn_cond_true (ha.ev hc) (h.h a ha)⟩
theorem ZR {c:Operand} (hc:ev e c=some (.B false)) (h:WCR l m P n y Q e w):WCR l m P n (.cond c x y) Q e w:=⟨λa ha=>wpIn_cond_false (ha.ev hc) (h.h a ha)⟩
theorem Z3o {c:Operand} {p:Prop} [Decidable p] (hc:ev e c=some (.B (decide p))) (ht:p->WCR l m P n x Q e w) (hf:¬ p->WCR l m P n y Q e w):WCR l m P n (.cond c x y) Q e w:=by
 by_cases h:p;rw [decide_eq_true h] at hc;exact J1 hc (ht h);rw [decide_eq_false h] at hc;exact ZR hc (hf h)
theorem ZH {id:Nat} {L:List Oper} (hd:Ziy L=true) (hQ:∀ a w,¬ Q .outgrown a w) (h:WL P n L.toArray Q L e w):WCR l m P n (.region id L.toArray false) Q e w:=
 ⟨λa ha => wpIn_region (by
   have h1:=h.h a ha;rw [List.range_eq_range',<- Yae];exact Z9t (Z76 hd) hQ _ _ _ (by rw [wpOps_eq_wpList L.toArray.toList 0 (by simp)];simpa using h1))⟩
theorem Z8s {id:Nat} {L:List Oper} (k:Nat) (S:List Nat) (Lt:List Nat) (ord:List (Nat×Nat)) (bP:L.length=k) (hm:P.follows .mixedOrders=true) (hs:Region.noSelect L.toArray=true) (hl:Nat.beq (wt ord) L.length=true)
 (hB:ZX L.toArray Lt ord (Array.replicate k false)=true) (hd:Ziy L=true)
 (h:∀ w',Stp [] w w'->WD P n L.toArray S Lt Q ord e w'):WCR l m P n (.region id L.toArray true) Q e w:=by
 subst bP;refine ⟨λa ha=>wpIn_region_any hm ?_⟩;have h1:=(h { w with drawn:=w.drawn+1 } (Stp.drew [] w)).h _ hs hB a ha;have h2:=Z9u (l:=l) (m:=m) (Q:=Q) (Z76 hd) (λa w hz=>hz) _ _ _ _ h1;rw [Xp hl] at h2;simpa using h2
theorem Ziz {σ:Type} (env:σ->Env) (I:σ->World->Prop)
 (h:WCR l m P n x (Exit.then (λa w=>∃ s,Has n (env s) a/\I s w) Q) e w) (k:∀ s w,I s w->WCR l m P n y Q (env s) w):WCR l m P n x (Exit.then (λa w=>y.wpIn (FR l) m P Q a w) Q) e w:=
 ⟨λa ha => wpIn_mono (h.h a ha) (λex a w hq => by
   cases ex with
   | normal=>obtain ⟨s,h1,h2⟩:=hq;exact (k s w h2).h a h1
   | _=>exact hq)⟩
end
theorem Z1E (W:World) (b:Nat) (o:Obj):Stp [b] W (W.putObj b o):=⟨rfl,rfl,rfl,by simp,λk hk hn=>World.putObj_heap_other (by simpa using hn)⟩
def Ze8 {α:Type} (P:Program) (f:Nat) (cap:Array Value) (encs:α->Value) (L:List α) (l:Nat) (F:List Nat) (W:World):Prop:=
 ∀ (J : List α -> List Nat -> World -> Prop), (∀ pre F W, J pre F W -> ∀ b ∈ F, b < W.heap.size) -> (∀ pre F W W', J pre F W -> Stp [] W W' -> J pre F W')->
   (∀ pre x F W,J pre F W->pre++[x] <+: L->YieldAt Fence.wide 4 P l #[encs x] W λen W'=>en=.returned (.B true)/\∃ F',J (pre++[x]) F' W'/\Stp F W W'/\∀ b∈F',b∈F\/W.heap.size<=b)->
   J [] F W->Calls P f (#[.func (.yield l) #[] #[]]++cap) W (Ret λ_ W'=>∃ F',J L F' W'/\Stp F W W'/\∀ b∈F',b∈F\/W.heap.size<=b)
section
variable {P:Program} {n:Nat} {Q:Exit->Act->World->Prop} {e:Env} {w:World}
theorem ZiA {α:Type} {f p:Nat} {fn:Func} {cap:Array Value} {g:Operand} {assign body:Code} [hf:Fun P f fn] {E:α->Nat->Env} {T:Nat} {cs:α->List Value} (encs:α->Value) (hg:ev e g=some (.func (.func f) #[] cap)) (hp:Nat.blt p n=true)
 (L:List α) (I:List α->List Nat->World->Prop) (F0:List Nat) (hlt:∀ pre F W,I pre F W->∀ b∈F,b<W.heap.size)
 (hI:∀ pre F W W' S,I pre F W->Stp S W W'->(∀ b∈S,w.heap.size<=b/\b∉F)->I pre F W') (h0:I [] F0 w)
 (dx:∀ (l:Nat) (W:World),Stp [] w W->w.heap.size<=l->l<W.heap.size->Ze8 P f cap encs L l (l :: F0) W)
 (hassign:∀ (l:Nat) (x:α) (W:World) (Z:Exit->Act->World->Prop),(∀ a w,¬ Z .outgrown a w)->(∀ b W1,W.heap.size<=b->Blk W1 b T (cs x)->Stp [] W W1->WQ n Z .normal (E x b) W1)->WCR l 4 P n assign Z ((p,encs x) :: e) W)
 (hbody : ∀ (l : Nat) (pre : List α) (x : α) (b : Nat) (F : List Nat) (W : World) (Z : Exit -> Act -> World -> Prop), I pre F W -> pre ++ [x] <+: L -> Blk W b T (cs x) -> b ∉ F -> w.heap.size <= b -> (∀ a w, ¬ Z .outgrown a w)->
   (∀ a F' W',I (pre++[x]) F' W'->Stp F W W'->(∀ b∈F',b∈F\/W.heap.size<=b)->Z .normal a W')->WCR l 4 P n body Z (E x b) W)
 (hdone:∀ (D:Nat) (F:List Nat) (W:World),I L F W->w.heap.size<=D->D∉F->W.heap[D]?=some (.deferred (some []))->(∀ b∈F,b∈F0\/w.heap.size<=b)->Stp F0 w W->WQD [{ target:=.collected D,args:=#[] }] n Q .normal e W) :
 WC P n (.rangeFunc g #[p] assign body) Q e w:=by
 refine ⟨λa ha=>(wpIn_wide (n:=5)).1 (wpIn_rangeFunc ?_)⟩;intro fnid _;obtain ⟨rec,bA⟩:∃ rec:LoopState->Option Code->Loop,rec=λst pe=>{ state:=st,pending:=pe,fn:=fnid,tmps:=a.tmps,params:=#[p],assign,body,defers:=w.heap.size }:=⟨_,rfl⟩
 obtain ⟨W1,fa⟩:∃ W1,(w.alloc (.deferred (some []))).alloc (.loop (rec .ready none))=W1:=⟨_,rfl⟩
 have jY:W1.heap[w.heap.size+1]?=some (.loop (rec .ready none)):=by
  rw [<- fa];have:=World.alloc_heap_new (w.alloc (.deferred (some []))) (.loop (rec .ready none));rwa [World.size_alloc] at this
 have bz:Stp [] w (w.alloc (.deferred (some []))):=Stp.alloc [] _ _;have lR:Stp [] (w.alloc (.deferred (some []))) W1:=by rw [<- fa];exact Stp.alloc [] _ _
 have oW:W1.heap[w.heap.size]?=some (.deferred (some [])):=by
  rw [lR.block w.heap.size (by simp) (by simp)];exact World.alloc_heap_new w _
 have ae:Stp [] w W1:=bz.trans lR;have mV:=hlt _ _ _ h0
 refine ⟨w.heap.size+1,[{ target:=.collected w.heap.size,args:=#[] }],W1,{ target:=.fn (.func f) cap,args:=#[.func (.yield (w.heap.size+1)) #[] #[]] },W1,f,
  #[.func (.yield (w.heap.size+1)) #[] #[]]++cap,W1,?_,?_,?_,?_,λh=>(by cases h),?_⟩
 rw [<- fa,bA];exact run_enterLoop_outer _ _ _ _ _;simp only [resolve,ha.ev hg];simp [go_sem];intro f' jk;trivial;have eg:=hf.enters;simp [invoke,go_sem];exact eg _ _;generalize hl:w.heap.size+1=l at *
 have dH:=dx l W1 ae (by omega) (Xm.1 jY).1 (λpre F W=>∃ G,F=l :: G/\I pre G W/\W.heap[l]?=some (.loop (rec .ready none))/\W.heap[w.heap.size]?=some (.deferred (some []))/\l∉G/\w.heap.size∉G)
  (by
    rintro pre F W ⟨G,rfl,hi,h1,h2,h3,h4⟩ b hb;rcases Xa.1 hb with rfl|hb
    exact (Xm.1 h1).1;exact hlt _ _ _ hi b hb)
  (by
    rintro pre F W W' ⟨G,rfl,hi,h1,h2,h3,h4⟩ hS;exact ⟨G,rfl,hI _ _ _ _ _ hi hS (by simp),(hS.block l (Xm.1 h1).1 (by simp)).trans h1,(hS.block _ (Xm.1 h2).1 (by simp)).trans h2,h3,h4⟩)
  (by
    rintro pre x F W ⟨G,rfl,hi,h1,h2,h3,h4⟩ bQ;have lS:l<W.heap.size:=(Xm.1 h1).1;have oX:w.heap.size<W.heap.size:=(Xm.1 h2).1;have hG:=hlt _ _ _ hi;have hy:=run_yield (P:=P) (args:=#[encs x]) h1 (by rw [bA];rfl);rw [bA] at hy;refine ⟨fnid,_,assign,body,hy,roundIn_of_wpIn trivial ((hassign l x W _ (λ_ _ h=>h) ?_).h _ ?_)⟩;intro b Wa hb hk lT;have tR:=(lT.block l lS (by simp)).trans h1;have tS:=(lT.block _ oX (by simp)).trans h2;have wQ:=lT.size;refine ⟨λa1 oY=>⟨_,run_beginRound tR (by rw [bA]),?_⟩⟩;have iH:=Z1E Wa l (.loop { rec .ready none with state:=.busy });have tT:=hI _ _ _ _ _ hi lT (by simp);have kO:=hI _ _ _ _ _ tT iH (by intro b hb;simp at hb;subst hb;exact ⟨by omega,h3⟩);have tU:(Wa.putObj l (.loop { rec .ready none with state:=.busy })).heap[l]?=some (.loop { rec .ready none with state:=.busy }):=World.putObj_heap_same (by omega);have tV:=(iH.block w.heap.size (by omega) (by simp;omega)).trans tS;have fM:=hk.ext iH (by simp;omega);have wR:=iH.size;refine (hbody l pre x b G _ _ kO bQ fM (λh=>by have:=hG b h;omega) (by omega) (λ_ _ h=>h) ?_).h a1 oY;intro a2 G' W' be aL kP;have tW:=(aL.block l (by omega) h3).trans tU;have tX:=(aL.block w.heap.size (by omega) h4).trans tV;have wS:=aL.size;have tY:=run_endRound (P:=P) none tW;have jh:=Z1E W' l (.loop (rec .ready none));have lU:l∉G':=λh=>by
     rcases kP l h with h|h
     exact h3 h;omega
    refine ⟨_,_,tY,rfl,l :: G',⟨G',rfl,?_,?_,?_,lU,λh=>?_⟩,?_,λb hb=>?_⟩;have:=hI _ _ _ _ _ be jh (by intro b hb;simp at hb;subst hb;exact ⟨by omega,lU⟩);rw [bA] at this ⊢;exact this;rw [bA];exact World.putObj_heap_same (by omega);rw [bA];exact (World.putObj_heap_other (by omega)).trans tX;rcases kP _ h with h|h
    exact h4 h;omega;rw [bA] at jh aL ⊢;exact ((((lT.mono (S':=l :: G) (by simp)).trans ((by rw [bA] at iH;exact iH:Stp [l] _ _).mn)).trans (aL.mono (λb hb=>by simp [hb]))).trans jh.mn);rcases Xa.1 hb with rfl|hb
    exact .inl (by simp);rcases kP b hb with h|h
    exact .inl (by simp [h]);exact .inr (by omega);have:=ha.put (v:=encs x) hp;have e2:(a.put (some p) (encs x))={ tmps:=((#[p]:Array Nat).zip #[encs x]).foldl (λt (p,v)=>t.setIfInBounds p v) a.tmps,defers:=[] }:=by
     simp [Act.put,ha.defers]
    rw [e2] at this;exact this)
  ⟨F0,rfl,hI _ _ _ _ _ h0 ae (by simp),jY,oW,λh=>by have:=mV l h;omega,λh=>by have:=mV _ h;omega⟩
 refine (callsIn_wide (n:=4)).2 (dH.mono ?_);rintro _ W2 ⟨v,rfl,F',⟨G,rfl,hi,h1,h2,h3,h4⟩,ak,tZ⟩;have np:=ak.size;have dw:=ae.size;have lS:l<W2.heap.size:=(Xm.1 h1).1;refine ⟨none,_,by have:=run_endLoop (P:=P) h1 (by rw [bA];simp);rw [bA] at this;exact this,?_⟩;have hp:=Z1E W2 l (.loop { rec .ready none with state:=.exhausted });rw [bA] at hp;have hd:=hdone w.heap.size G _ (hI _ _ _ _ _ hi hp (by intro b hb;simp at hb;subst hb;exact ⟨by omega,h3⟩)) (Xq _) h4 ((hp.block w.heap.size (by omega) (by simp;omega)).trans h2) (λb hb=>by
  rcases tZ b (by simp [hb]) with h|h
  rcases Xa.1 h with rfl|h
  exact .inr (by omega);exact .inl h;exact .inr (by omega))
  ((((ae.mono (S' := F0) (by simp)).own ak (λb hb => by
    rcases Xa.1 hb with rfl|hb
    exact .inr (by omega);exact .inl hb))).own hp (λb hb=>by simp at hb;subst hb;exact .inr (by omega)))
 have:=hd.h a ha;unfold Z0u at this;rw [ha.defers,XW] at this;rw [ha.defers,XG];exact this
end
section
variable {P:Program} {ops:Array Oper} {md:Region.Mode} {S:List Nat} {Lt:Nat->Bool} {kk:Nat}
theorem ZcM {o:Oper} {a:Act} {w} {K K':Act->World->Prop} {Q:Exit->Act->World->Prop} (hK:∀ a w,K a w->K' a w) (h:o.wpIn Fence.wide kk P a w K (λ_ _ _=>False)):o.wpIn Fence.wide kk P a w K' Q:=by
 unfold Oper.wpIn at *;refine ⟨h.1,?_⟩;replace h:=h.2;generalize (o.semAt Fence.wide.round a.eval).run P w=r at *;cases r with
 | ok x w'=>
   cases x<;>simp only [Oper.uponIn] at h ⊢
   case value v=>exact hK _ _ h
   case skip=>exact hK _ _ h
   case defer d=>exact hK _ _ h
   case enter f args=>
    exact ⟨h.1,CallsIn.mono h.2 λe w'' he=>by
     cases e with
     | returned v=>exact hK _ _ he
     | panicked c=>exact he.elim
     | outgrown=>obtain ⟨_,_,hf⟩:=he;exact hf.elim⟩
   case row row args=>exact ⟨h.1,RowsIn.mono h.2 λu w'' he=>hK _ _ he⟩
   case round l f tmps assign body=>
    exact ⟨h.1,RoundIn.mono h.2 λe w'' he=>by
     cases e with
     | returned v=>exact hK _ _ he
     | panicked c=>exact he.elim
     | outgrown=>obtain ⟨_,_,hf⟩:=he;exact hf.elim⟩
 | halt x w'=>cases x<;>simp only [Oper.uponIn] at h ⊢
def Z2D (kk:Nat) (P:Program) (md:Region.Mode) (ops:Array Oper) (S:List Nat) (Lt:Nat->Bool) (Z:Act->World->Prop):Nat->Array Bool->Act->World->Prop
 | 0,listed,a,w=>Region.ready md ops listed=[]/\Z a w
 | fuel + 1, listed, a, w=>
   (Region.ready md ops listed=[]->Z a w)/\
   ∀ i∈Region.ready md ops listed,wpOpIn Fence.wide kk P ops (λ_ _ _=>False) i (λa' w'=>(Stp S w w'\/Lt i=true)/\Z2D kk P md ops S Lt Z fuel (listed.setIfInBounds i true) a' w') a w
theorem Z1l {Z:Act->World->Prop} {Q:Exit->Act->World->Prop} (hZ:∀ a w,Z a w->Q .normal a w):∀ (fuel:Nat) (listed:Array Bool) (a:Act) (w),
 Z2D kk P md ops S Lt Z fuel listed a w->wpAnyIn Fence.wide kk P md ops Q fuel listed a w
 | 0,_,_,_,h=>⟨h.1,hZ _ _ h.2⟩
 | fuel + 1, listed, a, w, h => ⟨λh0 => hZ _ _ (h.1 h0), λi hi => by
   have h1:=h.2 i hi;unfold wpOpIn at h1 ⊢;cases ho:ops[i]? with
   | none=>simp only [ho] at h1 ⊢;exact Z1l hZ fuel _ a w h1.2
   | some o=>
     simp only [ho] at h1 ⊢;split at h1;rename_i hw;rw [if_pos hw];exact ZcM (λa w h=>Z1l hZ fuel _ a w h.2) h1;rename_i hw;rw [if_neg hw];exact ⟨λ_ _=>trivial,Z1l hZ fuel _ _ w h1.2.2⟩⟩
theorem Ze9 {Z:Act->World->Prop} {R:World->World->Prop} (eK:∀ w,R w w) (nV:∀ a b c,R a b->R b c->R a c) {i:Nat} {oi:Oper} {v:Value} (hi:ops[i]?=some oi)
 (nW:∀ j oj,ops[j]?=some oj->(∀ e∈oj.after,Region.binds md e=true->e.on≠i)->j≠i->∀ w w',(Stp S w w'\/Lt j=true)->R w w')
 (gj:∀ (j:Nat) (o:Oper) cs b,ops[j]?=some o->o.op≠.select cs b) :
 ∀ (fuel : Nat) (listed : Array Bool) (a : Act) (w),
   (∀ j oj,ops[j]?=some oj->j≠i->listed.getD j true=false->(∀ e∈oj.after,Region.binds md e=true->e.on≠i)->oi.apart ops oj=true)->
   (Stp S w w\/Lt i=true->True)->i∈Region.ready md ops listed->YE P ops R oi v a w->
   Z2D kk P md ops S Lt Z fuel (listed.setIfInBounds i true) (a.put oi.dst v) w->Z2D kk P md ops S Lt Z (fuel+1) listed a w:=by
 have now:∀ (fuel:Nat) (listed:Array Bool) (a:Act) (w:World),YE P ops R oi v a w->Z2D kk P md ops S Lt Z fuel (listed.setIfInBounds i true) (a.put oi.dst v) w->
  wpOpIn Fence.wide kk P ops (λ_ _ _=>False) i (λa' w'=>(Stp S w w'\/Lt i=true)/\Z2D kk P md ops S Lt Z fuel (listed.setIfInBounds i true) a' w') a w:=by
  intro fuel listed a w hy H;unfold wpOpIn;simp only [hi];rcases hy with ⟨hw,hv⟩|⟨hw,rfl⟩
  simp only [hw,if_true];refine ⟨λ_ _=>trivial,?_⟩;rw [show Fence.wide.round=none from rfl,Oper.semAt_none,hv w (eK w)];exact ⟨.inl (Stp.refl _ _),H⟩;simp only [hw,YaK,if_false];exact ⟨λ_ _=>trivial,.inl (Stp.refl _ _),H⟩
 intro fuel
 induction fuel with
 | zero=>
   intro listed a w _ _ hr hy H;refine ⟨λh=>(by rw [h] at hr;cases hr),λj hj=>?_⟩;by_cases cr:j=i;subst cr;exact now _ _ _ _ hy H;have:=ready_mono hj cr;rw [H.1] at this;cases this
 | succ fuel ih=>
   intro listed a w d8 hx hr hy H;refine ⟨λh=>(by rw [h] at hr;cases hr),λj hj=>?_⟩;by_cases cr:j=i;subst cr;exact now _ _ _ _ hy H;have h1:=H.2 j (ready_mono hj cr);obtain ⟨gk,oj,io,aD⟩:=mem_ready.1 hj;have eM:∀ e∈oj.after,Region.binds md e=true->e.on≠i:=λe he hb bD=>by
    have h1:=aD e he hb;have h0:=(mem_ready.1 hr).1;rw [bD] at h1;rcases YbG i listed.size with h'|h'
    simp [h'] at h0 h1;rw [h0] at h1;cases h1;simp [Ya7 h'] at h1
   have hap:=d8 j oj io cr gk eM;obtain ⟨p1,p2,p3⟩:=Oper.apart_spec hap;have keep:∀ (a:Act),YE P ops R oi v a w->∀ u,YE P ops R oi v (a.put oj.dst u) w:=λa hy u=>
    hy.same (execOp_put oi (λcs b=>gj i oi cs b hi) a oj.dst u p3) (wanted_put oi a oj.dst u p3)
   have keepD:∀ (a:Act) d,YE P ops R oi v a w->YE P ops R oi v { a with defers:=d :: a.defers } w:=λa d hy=>hy.same rfl rfl;have later:∀ (a:Act) w',(Stp S w w'\/Lt j=true)->YE P ops R oi v a w->YE P ops R oi v a w':=λa w' hs hy=>by
    rcases hy with ⟨hw,hv⟩|hw
    exact .inl ⟨hw,λw'' h''=>hv w'' (nV _ _ _ (nW j oj io eM cr w w' hs) h'')⟩;exact .inr hw
   have eN:∀ k ok,ops[k]?=some ok->k≠i->(listed.setIfInBounds j true).getD k true=false->
    (∀ e∈ok.after,Region.binds md e=true->e.on≠i)->oi.apart ops ok=true:=λk ok hk jB lc aY=>by
    refine d8 k ok hk jB ?_ aY;by_cases iY:j=k;subst iY;exact gk;rw [getD_set_ne true iY] at lc;exact lc
   have fin:∀ a' w',YE P ops R oi v a' w->(Stp S w w'\/Lt j=true)/\Z2D kk P md ops S Lt Z fuel ((listed.setIfInBounds i true).setIfInBounds j true) (a'.put oi.dst v) w'->
    (Stp S w w'\/Lt j=true)/\Z2D kk P md ops S Lt Z (fuel+1) (listed.setIfInBounds j true) a' w':=by
    rintro a' w' ip ⟨hs,hk⟩;refine ⟨hs,ih _ a' w' eN (λ_=>trivial) (ready_mono hr (Ne.symm cr)) (later a' w' hs ip) ?_⟩;rw [Array.setIfInBounds_comm _ _ cr];exact hk
   have nX:∀ cs b,oj.op≠.select cs b:=λcs b=>gj j oj cs b io;unfold wpOpIn at *;simp only [io] at *;rw [wanted_put oj a oi.dst v p1] at h1;split
   . rename_i hw
     simp only [hw,if_true] at h1;refine ⟨λ_ _=>trivial,?_⟩;replace h1:=h1.2;rw [show Fence.wide.round=none from rfl,Oper.semAt_none] at h1 ⊢;rw [execOp_put oj nX a oi.dst v p1] at h1;generalize (execOp a.eval oj).run P w=r at *;cases r with
     | ok n w'=>
       cases n<;>simp only [Oper.uponIn] at h1 ⊢
       case value u=>exact fin _ _ (keep a hy u) (by rw [<- Act.put_comm a v u p2];exact h1)
       case skip=>exact fin _ _ (keep a hy _) (by rw [<- Act.put_comm a v undef p2];exact h1)
       case defer d=>
        refine fin _ _ (keep _ (keepD a d hy) _) ?_;rw [<- Act.put_comm _ v undef p2,<- Act.put_defers];exact h1
       case enter f args=>
        refine ⟨h1.1,CallsIn.mono h1.2 λe w'' he=>?_⟩;cases e with
        | returned u=>exact fin _ _ (keep a hy u) (by rw [<- Act.put_comm a v u p2];exact he)
        | panicked c=>exact he
        | outgrown=>exact he
       case row row args=>exact ⟨h1.1,RowsIn.mono h1.2 λu w'' he=>fin _ _ (keep a hy u) (by rw [<- Act.put_comm a v u p2];exact he)⟩
       case round l f tmps assign body=>
        refine ⟨h1.1,RoundIn.mono h1.2 λe w'' he=>?_⟩;cases e with
        | returned u=>exact fin _ _ (keep a hy u) (by rw [<- Act.put_comm a v u p2];exact he)
        | panicked c=>exact he
        | outgrown=>exact he
     | halt x w'=>
       cases x<;>simp only [Oper.uponIn] at h1
   rename_i hw;simp only [hw] at h1;exact ⟨λ_ _=>trivial,fin _ _ (keep a hy _) (by rw [<- Act.put_comm a v undef p2];exact h1.2)⟩
end
structure WDI (kk:Nat) (P:Program) (n:Nat) (ops:Array Oper) (S:List Nat) (Q:Exit->Act->World->Prop) (ord:List (Nat×Nat)) (e:Env) (w:World):Prop where
 h:∀ listed:Array Bool,Region.noSelect ops=true->ZX ops [] ord listed=true->∀ a,Has n e a->Z2D kk P .any ops S (λj=>([]:List Nat).contains j) (λa w=>Q .normal a w) (wt ord) listed a w
section
variable {P:Program} {n kk:Nat} {Q:Exit->Act->World->Prop} {e:Env} {w:World} {ops:Array Oper} {S:List Nat} {rest:List (Nat×Nat)}
variable {i d:Nat} {op:Op} {ty:TypeId} {pos:String} {af:Array Edge} {v:Value}
theorem Zfg {id:Nat} {L:List Oper} (kk:Nat) (m:Nat) (S:List Nat) (ord:List (Nat×Nat)) (bP:L.length=m) (hm:P.follows .mixedOrders=true) (hs:Region.noSelect L.toArray=true) (hl:Nat.beq (wt ord) L.length=true)
 (hB:ZX L.toArray [] ord (Array.replicate m false)=true)
 (h:∀ w',Stp [] w w'->WDI kk P n L.toArray S Q ord e w'):WC P n (.region id L.toArray true) Q e w:=by
 subst bP;refine ⟨λa ha=>(wpIn_wide (n:=kk)).1 (wpIn_region_any hm ?_)⟩;have h1:=(h { w with drawn:=w.drawn+1 } (Stp.drew [] w)).h _ hs hB a ha;have h2:=Z1l (Q:=Q) (λa w hz=>hz) _ _ _ _ h1;rw [Xp hl] at h2;simpa using h2
theorem ZlU (h:WQ n Q .normal e w):WDI kk P n ops S Q [] e w:=
 ⟨λ_ _ hB a ha=>⟨by simpa [ZX,ZP] using hB,h.h a ha⟩⟩
theorem Z08 (hi:ops[i]?=some ⟨some d,op,ty,pos,af,none⟩) (hp:∀ w',PR P n ⟨some d,op,ty,pos,af,none⟩ e w' v) (aw:Nat.blt d n=true)
 (k:WDI kk P n ops S Q rest ((d,v) :: e) w):WDI kk P n ops S Q ((i,0) :: rest) e w:=by
 refine ⟨λlisted hs hB a ha=>?_⟩;simp only [ZX,ZP,Xd] at hB;obtain ⟨⟨h1,h2⟩,h3⟩:=hB;have hk:=k.h _ hs h3 _ (ha.put (v:=v) aw);rw [Jj (by decide)];exact Ze9 (R:=λ_ _=>True) (λ_=>trivial) (λ_ _ _ _ _=>trivial) hi (λ_ _ _ _ _ _ _ _=>trivial) (Region.noSelect_spec hs) _ _ _ _ (Region.free_spec hi h2) (λ_=>trivial) (by simpa using h1) (.inl ⟨Jb (e:=e) (n:=n) ha trivial,λw' _=>(hp w').h a ha⟩) hk
theorem ZaX (hi:ops[i]?=some ⟨some d,op,ty,pos,af,none⟩) (hp:∀ w',Stp S w w'->PR P n ⟨some d,op,ty,pos,af,none⟩ e w' v) (aw:Nat.blt d n=true)
 (k:WDI kk P n ops S Q rest ((d,v) :: e) w):WDI kk P n ops S Q ((i,1) :: rest) e w:=by
 refine ⟨λlisted hs hB a ha=>?_⟩;simp only [ZX,ZP,Xd] at hB;obtain ⟨⟨⟨h1,h2⟩,hb⟩,h3⟩:=hB;have hk:=k.h _ hs h3 _ (ha.put (v:=v) aw);rw [Jj (by decide)];refine Ze9 (R:=Stp S) (λw=>Stp.refl _ w) (λ_ _ _ h k=>h.trans k) hi (λj oj hj hn cr w w' hs=>?_) (Region.noSelect_spec hs) _ _ _ _ (Region.free_spec hi h2) (λ_=>trivial) (by simpa using h1) (.inl ⟨Jb (e:=e) (n:=n) ha trivial,λw' hw=>(hp w' hw).h a ha⟩) hk;rcases hs with hs|hs
 exact hs;cases hs
theorem Zfh {l:Nat} {x c:Operand} {ts:Array TypeId} {u r:Value} {G:World->Prop} (hi:ops[i]?=some ⟨some d,.call { callee:=.value c,args:=#[x],argTypes:=ts },ty,pos,af,none⟩) (hc:ev e c=some (.func (.yield l) #[] #[])) (hx:ev e x=some u)
 (hY:YieldAt Fence.wide (kk - 1) P l #[u] w (λen W'=>en=.returned r/\G W')) (hS:∀ W',G W'->Stp S w W') (aw:Nat.blt d n=true)
 (k:∀ W',G W'->WDI kk P n ops S Q rest ((d,r) :: e) W'):WDI kk P n ops S Q ((i,2) :: rest) e w:=by
 refine ⟨λlisted hs hB a ha=>?_⟩;simp only [ZX,ZP] at hB;rw [if_neg (by simp)] at hB;simp only [Xd,beq_iff_eq] at hB;obtain ⟨h1,h3⟩:=hB;rw [Jj (by decide)];refine ⟨λh0=>absurd (h1 ▸ h0) (by simp),λj hj=>?_⟩;rw [h1] at hj;obtain rfl:j=i:=by simpa using hj
 obtain ⟨fn,tmps,assign,body,hy,hR⟩:=hY;unfold wpOpIn;simp only [hi];rw [if_pos (show Region.wanted (⟨some d,.call { callee:=.value c,args:=#[x],argTypes:=ts },ty,pos,af,none⟩:Oper) _=true from rfl)];refine ⟨λ_ _=>trivial,?_⟩;have he:(execOp a.eval ⟨some d,.call { callee:=.value c,args:=#[x],argTypes:=ts },ty,pos,af,none⟩).run P w=.ok (.round l fn tmps assign body) w:=by
  simp only [execOp,resolve,ha.ev hc,Deferred.ofValue];simp [invoke,ha.ev hx,hy]
 rw [show Fence.wide.round=none from rfl,Oper.semAt_none,he];refine ⟨λh=>(by cases h),RoundIn.mono hR ?_⟩;rintro en W' ⟨rfl,hG⟩;exact ⟨.inl (hS W' hG),(k W' hG).h _ hs h3 _ (ha.put aw)⟩
end
variable {P:Program} {n:Nat} {e:Env} {w:World} {d:Option Nat} {ty:TypeId} {pos:String} {af:Array Edge} {g:Option (Nat×Bool)}
theorem Z5T {t el len k:Nat} {x hi:Operand} {b r:Nat} {z:Int} [hu:Und P t (.array len el)] [hk:Siz P el k] (hx:ev e x=some (pQ b)) (hz:ev e hi=some (.I z)) (bG:z=(r:Int)) (hr:r<=len) :
 PR P n ⟨d,.slice t x none (some hi) none,ty,pos,af,g⟩ e w (.slice (some ⟨b,0,none⟩) r len):=
 ⟨λa ha => by
   subst bG;simp [execOp,ha.ev hx,ha.ev hz,Instr.sliceAt,Instr.sureAddr,run_underlying hu.h,Instr.sliceBounds,Instr.sliceBound,asIntOf,Siz.run,Addr.add,show r<=len by omega]⟩
theorem Zea {X:List Nat} {w} {b T len n:Nat} {cs:List Value} {xs:List Int} (hn:xs.length=n) (hb:Blk w b T cs) (hX:b∉X) (hl:cs.length=len) (hm:len<=maxLen) (hx:xs.length<=len) (hc:∀ i (h:i<xs.length),cs[i]?=some (.I xs[i])):SlV X w (.slice (some ⟨b,0,none⟩) n len) xs:=by
 subst hn;refine ⟨some ⟨b,0,none⟩,len,rfl,hx,hm,λh=>by simp at h,λi hi=>⟨b,0,[.I xs[i]],rfl,hb.lt,hX,rfl,λj u hu=>?_⟩⟩;have hj:j=0:=by
  have:=(Xt.1 hu).1;simp at this;exact this
 subst hj;simp at hu;subst hu;refine hb.cell ?_;simpa [Z5.k,Z2.k] using hc i hi
end Go.Eng
namespace Go.Proofs.YteibicnbkggiiaaGreatDoor
open Go Go.Eng Go.RowKit
def Z9v (r:Rtn) (day:Int):Bool:=if r.kind=1 then decide (day<r.lo\/r.hi<day) else if r.kind=2 then decide (0<=day/\day<=r.hi) else decide (0<=day)
theorem Zfi (r:Rtn) (day:Int) (w):CC 314 #[aG r,.I day] w λv w'=>v=.B (Z9v r day)/\Stp [] w w':=by
 unfold Z9v;refine cW2 31 Tryz.func314 ?_;refine W ?_;refine BX (Stp.refl [] w) λb2 w1 h2 e2 _ hS=>?_;replace e2:Blk w1 b2 138 (Z2.enc r):=e2;simp only [Z2.enc] at e2;by_cases h1:r.kind=1
 . rw [if_pos h1]
   (refine QP ?_ ?_<;>intro hg)
   all_goals
    refine RU ?_;exact ⟨by congr 1;first|(rw [decide_eq_true (by omega)];done)|(symm;rw [decide_eq_decide];constructor<;>intro _<;>omega)|(symm;exact decide_eq_true (by omega))|(symm;exact decide_eq_false (by omega)),hS⟩
 rw [if_neg h1];by_cases h2:r.kind=2
 . rw [if_pos h2]
   (refine QP ?_ ?_<;>intro hg)
   all_goals
    refine RU ?_;exact ⟨by congr 1;first|(symm;rw [decide_eq_decide];constructor<;>intro _<;>omega)|(symm;exact decide_eq_true (by omega))|(symm;exact decide_eq_false (by omega)),hS⟩
 rw [if_neg h2];refine RT ?_;exact ⟨rfl,hS⟩
theorem ZiB (v:Value) (l:List Int) (x:Int) (w) (hs:SlV [] w v l):CC 315 #[v,.I x] w λr w'=>(∃ z:Int,r=.I z/\((z=-1/\x∉l)\/∃ (k:Nat) (h:k<l.length),z=k/\l[k]=x/\∀ j (h:j<l.length),j<k->l[j]≠x))/\Stp [] w w':=by
 have aW:=hs.max;refine cW2 19 Tryz.func315 ?_;refine W ?_;refine LP (σ:=Nat) (λk=>[(0,v),(1,.I x),(6,v),(7,.I l.length),(8,.I k)]) (λk w'=>k<=l.length/\Stp [] w w'/\∀ j (h:j<l.length),j<k->l[j]≠x) (λk=>l.length - k) 0 ⟨by omega,Stp.refl _ _,by omega⟩ ?_;rintro k w2 ⟨hk,hT,hz⟩;have aO:=hs.up hT;by_cases hlt:k<l.length
 (refine QP ?_ ?_<;>intro hc)
 refine RU ?_;exact ⟨⟨_,rfl,.inr ⟨k,hlt,rfl,hc.symm,hz⟩⟩,hT⟩;exact QL (k+1) ⟨hlt,hT,λj h hj=>by
  by_cases e:j=k;subst e;exact λh=>hc h.symm;exact hz j h (by omega)⟩ (by omega)
 refine RT ?_;exact ⟨⟨_,rfl,.inl ⟨rfl,λh=>by
  obtain ⟨j,hj,e⟩:=Xv h;exact hz j hj (by omega) e⟩⟩,hT⟩
def Z5o (c:Int):List (Int×Int)->List (Int×Int)
 | []=>[(c,1)]
 | p :: l=>if p.1=c then (c,p.2+1) :: l else p :: Z5o c l
def ZaY (day:Int) (st:List (Int×Int)) (r:Rtn):List (Int×Int):=if Z9v r day=true then Z5o r.crr st else st
def Z2E (l:List Rtn) (day:Int):List (Int×Int):=l.foldl (ZaY day) []
def Z7U (crrs:List Crr) (p:Int×Int):Int:=max 0 (p.2 - (crrs.getD p.1.toNat ⟨0,0⟩).tol)
def Z1a (l:List Rtn) (crrs:List Crr) (day:Int):Int:=((Z2E l day).map (Z7U crrs)).sum
theorem ZaZ (c:Int):∀ (st:List (Int×Int)),c∉st.map (·.1)->Z5o c st=st++[(c,1)]
 | [],_=>rfl
 | p :: l, h => by
   simp only [XD,Xa,not_or] at h;rw [Z5o,if_neg (λe=>h.1 e.symm),ZaZ c l h.2];rfl
theorem Zb0 (c:Int):∀ (st:List (Int×Int)) (k:Nat) (hk:k<st.length),st[k].1=c->(∀ j (h:j<st.length),j<k->st[j].1≠c)->Z5o c st=st.set k (c,st[k].2+1)
 | p :: l, 0, hk, h, _ => by
   simp only [List.getElem_cons_zero] at h;rw [Z5o,if_pos h];rfl
 | p :: l, k + 1, hk, h, hz => by
   have h0:=hz 0 (by simp) (by omega);simp only [List.getElem_cons_zero] at h0;rw [Z5o,if_neg h0,Zb0 c l k (by simpa using hk) (by simpa using h) (λj hj iY=>by
    have h2:=hz (j+1) (by simpa using hj) (by omega)
    rwa [List.getElem_cons_succ] at h2)]
   simp
theorem ZiC (c:Int) (st:List (Int×Int)):(Z5o c st).length<=st.length+1:=by
 induction st with
 | nil=>simp [Z5o]
 | cons p l ih=>
   rw [Z5o];split<;>simp<;>omega
theorem Z5p (l:List Rtn) (day:Int) (k:Nat) (h:k<l.length):Z2E (l.take (k+1)) day=ZaY day (Z2E (l.take k) day) l[k]:=by
 unfold Z2E;rw [Xj h,Ybd];rfl
theorem Zb1 (l:List Rtn) (day:Int) (k:Nat) (h:k<=l.length):(Z2E (l.take k) day).length<=k:=by
 induction k with
 | zero=>simp [Z2E]
 | succ k ih=>
   rw [Z5p l day k (by omega),ZaY];have:=ih (by omega);split;have:=ZiC l[k].crr (Z2E (l.take k) day);omega;omega
def arX (f:Int×Int->Int) (st:List (Int×Int)):List Value:=st.map (λp=>.I (f p))++List.replicate (32 - st.length) (.I 0)
theorem Z4y (f:Int×Int->Int) {st:List (Int×Int)} (h:st.length<=32):(arX f st).length=32:=by simp [arX];omega
theorem Z4z (f:Int×Int->Int) {st:List (Int×Int)} {k:Nat} (h:k<st.length):(arX f st)[k]?=some (.I (f st[k])):=by
 rw [arX,Yaq (by simpa using h)];simp [h]
theorem ZlV (f:Int×Int->Int) {st:List (Int×Int)} (h:st.length<32):(arX f st)[st.length]?=some (.I 0):=by
 rw [arX,YaT (by simp)];simp [Ybr];omega
theorem Zeb (f:Int×Int->Int) {st:List (Int×Int)} (p:Int×Int) (h:st.length<32):(arX f st).set st.length (.I (f p))=arX f (st++[p]):=by
 unfold arX;rw [List.set_append_right _ _ (by simp)];obtain ⟨m,hm⟩:∃ m,32 - st.length=m+1:=⟨31 - st.length,by omega⟩
 rw [hm];simp only [XB,Nat.sub_self,Ybj,List.set_cons_zero,XH,XD,Yaj,XI,Yab,XW,Xb,XP];rw [show 32 - (st.length+1)=m by omega]
theorem Zec (f:Int×Int->Int) {st:List (Int×Int)} {k:Nat} (p:Int×Int) (h:k<st.length):(arX f st).set k (.I (f p))=arX f (st.set k p):=by
 unfold arX;rw [List.set_append_left _ _ (by simpa using h),Yaa,List.map_set]
theorem Zed {c:Int} {m:Int} {p:Int×Int}:∀ {st:List (Int×Int)},(∀ q∈st,0<=q.2/\q.2<=m)->0<=m->p∈Z5o c st->(p.1=c\/p.1∈st.map (·.1))/\0<=p.2/\p.2<=m+1
 | [], _, hm, h => by
   simp only [Z5o,Xn] at h;subst h;exact ⟨.inl rfl,by dsimp only;omega,by dsimp only;omega⟩
 | q :: l, hq, hm, h => by
   have h0:=hq q (by simp);rw [Z5o] at h;split at h;rcases Xa.1 h with rfl|h
   exact ⟨.inl rfl,by dsimp only;omega,by dsimp only;omega⟩;have:=hq p (by simp [h]);exact ⟨.inr (Xw.2 ⟨p,by simp [h],rfl⟩),by omega,by omega⟩;rcases Xa.1 h with rfl|h
   exact ⟨.inr (by simp),by omega,by omega⟩;obtain ⟨a,b⟩:=Zed (λx hx=>hq x (by simp [hx])) hm h;exact ⟨a.imp id (λh=>by simp [h]),b⟩
theorem Z9w {l:List Rtn} {day:Int} {N:Int} (hr:∀ r∈l,0<=r.crr/\r.crr<N):∀ k,k<=l.length->∀ p∈Z2E (l.take k) day,(0<=p.1/\p.1<N)/\0<=p.2/\p.2<=k
 | 0,_,p,hp=>by simp [Z2E] at hp
 | k + 1, hk, p, hp => by
   have ih:=Z9w (day:=day) hr k (by omega);rw [Z5p l day k (by omega),ZaY] at hp;split at hp;obtain ⟨a,b,c⟩:=Zed (m:=k) (λq hq=>(ih q hq).2) (by omega) hp;refine ⟨?_,b,by omega⟩;rcases a with a|a
   rw [a];exact hr _ (Xc _);obtain ⟨q,hq,e⟩:=Xw.1 a;rw [<- e];exact (ih q hq).1;have:=ih p hp;exact ⟨this.1,this.2.1,by omega⟩
theorem Z77 (lv cv:Value) (l:List Rtn) (crrs:List Crr) (day:Int) (w) (hl:SlV [] w lv l) (hc:SlV [] w cv crrs) (oZ:l.length<=32) (hr:∀ r∈l,0<=r.crr/\r.crr<crrs.length) (ht:∀ c∈crrs,0<=c.tol/\c.tol<=1000) :
 CC 288 #[lv,cv,.I day] w λv w'=>v=.I (Z1a l crrs day)/\Stp [] w w':=by
 refine cW3 68 Tryz.func288 ?_;refine W ?_;refine Z0 Z4 rfl ?_;rintro _ w1 ⟨b7,rfl,kQ,e7,hS⟩;refine W ?_;refine Z0 Z4 rfl ?_;rintro _ w2 ⟨b8,rfl,eZ,e8,hT⟩;have l7:=e7.lt;replace e7:=e7.up hT;have n78:b7≠b8:=by omega
 have g8:w.heap.size<=b8:=Xk hS.size eZ;replace hS:=hS.trans hT;replace e7:Blk w2 b7 348 (arX (·.2) (Z2E (l.take 0) day)):=e7;replace e8:Blk w2 b8 348 (arX (·.1) (Z2E (l.take 0) day)):=e8;clear hT;refine W ?_;refine Z0b (σ:=Unit) (λ_=>[(1,cv),(7,pQ b7),(8,pQ b8),(9,.I (Z2E l day).length)]) (λ_ w'=>Stp [] w w'/\Blk w' b7 348 (arX (·.2) (Z2E l day))/\Blk w' b8 348 (arX (·.1) (Z2E l day))) ?_ ?_;refine LP (σ:=Nat) (λk=>[(1,cv),(2,.I day),(7,pQ b7),(8,pQ b8),(9,.I (Z2E (l.take k) day).length),(16,lv),(17,.I l.length),(18,.I k)]) (λk w'=>k<=l.length/\Stp [] w w'/\Blk w' b7 348 (arX (·.2) (Z2E (l.take k) day))/\Blk w' b8 348 (arX (·.1) (Z2E (l.take k) day))) (λk=>l.length - k) 0 ⟨by omega,hS,e7,e8⟩ ?_;clear e7 e8 hS;rintro k w3 ⟨hk,hS,e7,e8⟩;by_cases hlt:k<l.length;have eh:=hl.up hS;have hstep:=Z5p l day k hlt;have eU:=Zb1 l day k hk;have aK:=Z9w (day:=day) hr k hk;generalize Z2E (l.take k) day=st at *;refine QO ?_;refine Z0 Z4 rfl ?_;rintro _ w4 ⟨b11,rfl,oV,e11,hT⟩;refine SA (us:=Z2.enc l[k]) e11 ?_;rintro _ w5 ⟨ax,e11⟩;replace hT:=hT.ow ax;replace hS:=hS.trans hT;replace e7:=e7.up hT;replace e8:=e8.up hT;clear hT ax eh;refine W ?_;refine CP hS (Zfi l[k] day _) λw6 hT hS=>?_;replace e7:=e7.up hT;replace e8:=e8.up hT;replace e11:=e11.up hT;clear hT;rw [ZaY] at hstep;cases hw:Z9v l[k] day;rw [hw,if_neg (by simp)] at hstep;refine QO ?_;exact ZF (k+1) ⟨rfl,rfl,rfl,rfl,by rw [hstep];rfl,rfl,rfl,rfl,trivial⟩ ⟨hlt,hS,by rw [hstep];exact e7,by rw [hstep];exact e8⟩ (by omega);rw [hw,if_pos rfl] at hstep;refine QO ?_;refine ZDr 6 [] [] [(0,0),(1,0),(2,0),(3,1),(4,2),(5,0)] (λw1 ae=>?_);replace e7:=e7.up ae;replace e8:=e8.up ae;replace e11:=e11.up ae;replace hS:=hS.trans ae;clear ae;refine D ?_;refine Jn rfl trivial (λ_=>Z5T (r:=st.length) rfl rfl rfl (by omega)) rfl ?_;refine D ?_;have dW:SlV [] w1 (.slice (some ⟨b8,0,none⟩) st.length 32) (st.map (·.1)):=Zea (by simp) e8 (by simp) (Z4y _ (by omega)) (by decide) (by simp;omega) (λi h=>by
  have:=Z4z (·.1) (st:=st) (k:=i) (by simpa using h);simpa using this)
 refine DC (ZiB _ _ l[k].crr _ dW) (λ_ _ h=>h.2) ?_;rintro _ w7 ⟨⟨z,rfl,hz⟩,hT⟩;replace e7:=e7.up hT;replace e8:=e8.up hT;replace e11:=e11.up hT;replace hS:=hS.trans hT;clear hT dW;have own:∀ b,b=b7\/b=b8->∀ c∈[b],c∈([]:List Nat)\/w.heap.size<=c:=λb hb c hc=>.inr (by simp at hc;omega)
 rcases hz with ⟨rfl,hn⟩|⟨j,hj,rfl,eQ,t6⟩
 rw [ZaZ _ _ hn] at hstep;have h0:=ZlV (·.2) (st:=st) (by omega);refine D ?_;refine QO ?_;refine Z8 (Zf (o:=0+st.length * 1) (u:=.I l[k].crr) rfl rfl rfl rfl e8 (by rw [Z4y _ (by omega)];omega)) ?_;rintro _ w8 ⟨hT,e8⟩;replace e7:=e7.ext hT (by simpa using n78);replace hS:=hS.own hT (own _ (.inr rfl));rw [XK,Ya5,Zeb (·.1) (l[k].crr,1) (by omega)] at e8;refine QO ?_;refine Za (Ji rfl rfl e7 (by rw [XK,Ya5];exact h0)) rfl ?_;refine QO ?_;refine Z8 (Zf (o:=0+st.length * 1) (u:=.I (0+1)) rfl rfl rfl rfl e7 (by rw [Z4y _ (by omega)];omega)) ?_;rintro _ w9 ⟨hT,e7⟩;replace e8:=e8.ext hT (by simpa using n78.symm);replace hS:=hS.own hT (own _ (.inl rfl));rw [XK,Ya5] at e7;replace e7:Blk w9 b7 348 (arX (·.2) (st++[(l[k].crr,1)])):=by rw [<- Zeb (·.2) (l[k].crr,1) (by omega)];exact e7
 refine QO ?_;exact ZF (k+1) ⟨rfl,rfl,rfl,rfl,by rw [hstep,Xb];rfl,rfl,rfl,rfl,trivial⟩ ⟨hlt,hS,by rw [hstep];exact e7,by rw [hstep];exact e8⟩ (by omega);rw [XB] at hj;have lV:st[j].1=l[k].crr:=by simpa using eQ
 rw [Zb0 _ _ j hj lV (λi h hi=>by have:=t6 i (by simpa using h) hi;simpa using this)] at hstep;have h0:=Z4z (·.2) (st:=st) hj;have wT:=(aK _ (Xc hj)).2;refine D ?_;refine QO ?_;refine Za (Ji rfl rfl e7 (by rw [XK,Ya5];exact h0)) rfl ?_;refine QO ?_;refine Z8 (Zf (o:=0+j * 1) (u:=.I (st[j].2+1)) rfl rfl rfl rfl e7 (by rw [Z4y _ (by omega)];omega)) ?_;rintro _ w9 ⟨hT,e7⟩;replace e8:=e8.ext hT (by simpa using n78.symm);replace hS:=hS.own hT (own _ (.inl rfl));rw [XK,Ya5] at e7;replace e7:Blk w9 b7 348 (arX (·.2) (st.set j (l[k].crr,st[j].2+1))):=by rw [<- Zec (·.2) (l[k].crr,st[j].2+1) hj];exact e7
 have e8':Blk w9 b8 348 (arX (·.1) (st.set j (l[k].crr,st[j].2+1))):=by
  rw [<- Zec (·.1) (l[k].crr,st[j].2+1) hj];have h1:=Z4z (·.1) (st:=st) hj;rw [lV] at h1;obtain ⟨hh,h2⟩:=Xt.1 h1;have:(arX (·.1) st).set j (.I l[k].crr)=arX (·.1) st:=by rw [<- h2];exact List.set_getElem_self hh
  rw [this];exact e8
 refine QO ?_;exact ZF (k+1) ⟨rfl,rfl,rfl,rfl,by rw [hstep,Yaa];rfl,rfl,rfl,rfl,trivial⟩ ⟨hlt,hS,by rw [hstep];exact e7,by rw [hstep];exact e8'⟩ (by omega);obtain rfl:k=l.length:=by omega
 rw [Xs] at e7 e8;have eh:=hl.up hS;refine QO ?_;exact Zw () ⟨rfl,rfl,rfl,by simp only [Xs];rfl,trivial⟩ ⟨hS,e7,e8⟩;clear e7 e8 hS;rintro _ w3 ⟨hS,e7,e8⟩;have eU:=Zb1 l day l.length (Xq _);have aK:=Z9w (day:=day) hr l.length (Xq _);rw [Xs] at eU aK;unfold Z1a;generalize Z2E l day=st at *;have dW:SlV [] w3 (.slice (some ⟨b8,0,none⟩) st.length 32) (st.map (·.1)):=Zea (by simp) e8 (by simp) (Z4y _ (by omega)) (by decide) (by simp;omega) (λi h=>by
  have:=Z4z (·.1) (st:=st) (k:=i) (by simpa using h);simpa using this)
 refine QO ?_;refine Za (Z5T (r:=st.length) rfl rfl rfl (by omega)) rfl ?_;refine QO ?_;refine Zt (σ:=Nat) (λk=>[(1,cv),(7,pQ b7),(13,.I ((st.take k).map (Z7U crrs)).sum),(47,.slice (some ⟨b8,0,none⟩) st.length 32),(48,.I st.length),(49,.I k)]) (λk w'=>k<=st.length/\Stp [] w3 w'/\0<=((st.take k).map (Z7U crrs)).sum/\((st.take k).map (Z7U crrs)).sum<=40 * k) (λk=>st.length - k) 0 ⟨rfl,rfl,rfl,rfl,by simp only [XB];rfl,rfl,trivial⟩ ⟨by omega,Stp.refl _ _,by simp,by simp⟩ ?_;rintro k w4 ⟨hk,hT,g1,g2⟩;have e7':=e7.up hT;have t7:=dW.up hT;have fZ:=hc.up (hS.trans hT);by_cases hlt:k<st.length;obtain ⟨⟨a1,a2⟩,a3,a4⟩:=aK _ (Xc hlt);have jZ:((st.take (k+1)).map (Z7U crrs)).sum=((st.take k).map (Z7U crrs)).sum+Z7U crrs st[k]:=by
  rw [Xj hlt,XH,List.sum_append];simp
 obtain ⟨j,hj⟩:∃ j:Nat,st[k].1=j:=⟨st[k].1.toNat,by omega⟩
 have dI:j<crrs.length:=by omega
 have wU:=ht _ (Xc dI);have bP:k<(st.map (·.1)).length:=by simpa using hlt
 have aA:(st.map (·.1))[k]=(j:Int):=by simpa using hj
 have h0:=Z4z (·.2) (st:=st) hlt;have o0:Z7U crrs st[k]=max 0 (st[k].2 - crrs[j].tol):=by
  unfold Z7U;rw [hj];simp [dI]
 generalize ((st.take k).map (Z7U crrs)).sum=s at *;refine QO ?_;refine ZDr 13 [] [] [(0,0),(1,0),(2,0),(3,1),(4,0),(5,0),(6,0),(7,0),(8,1),(9,0),(10,0),(11,0),(12,0)] (λw1 ae=>?_);replace e7':=e7'.up ae;replace fZ:=fZ.up ae;replace hT:=hT.trans ae;clear ae;refine D ?_;refine Zac rfl trivial rfl rfl e7' (by simp) (by rw [XK,Ya5];exact h0) rfl ?_;refine D ?_;refine QO ?_;exact ZF (k+1) ⟨rfl,rfl,by rw [jZ,o0];rfl,rfl,rfl,rfl,trivial⟩ ⟨hlt,hT,by rw [jZ,o0];omega,by rw [jZ,o0];omega⟩ (by omega);obtain rfl:k=st.length:=by omega
 refine QO ?_;refine WR ?_;rw [Xs];exact .mk ⟨rfl,hS.trans hT⟩
def Z3T (l:List Rtn) (sent:Int):List Int:=Z2P ([sent,3652059]++l.flatMap (λr=>[r.lo,r.hi+1].filter (λd=>decide (sent<d/\d<=3652058))))
def Z7V (l:List Rtn) (sent:Int):List Spn:=((Z3T l sent).zip (Z3T l sent).tail).map (λp=>(p.1,p.2 - 1))
structure AlS where
 least:Int
 never:Bool
 out:List Spn
def Z0g (l:List Rtn) (crrs:List Crr) (s:AlS) (x:Spn):AlS:=
 let e:=Z1a l crrs x.1
 if s.least<e then s else
  let t:AlS:=if e<s.least then ⟨e,false,[]⟩ else s
  match t.out.getLast? with
  | some y=>if y.2=x.1 - 1 then { t with out:=t.out.dropLast++[(y.1,x.2)] } else { t with out:=t.out++[x] }
  | none=>{ t with out:=t.out++[x] }
def Zfj (l:List Rtn) (crrs:List Crr) (sent:Int):AlS:=(Z7V l sent).foldl (Z0g l crrs) ⟨Z1a l crrs (-1),true,[]⟩
def Z9x (l:List Rtn) (crrs:List Crr) (sent:Int):Int×Bool:=
 let s:=Zfj l crrs sent
 if s.never=true then (0,false) else match s.out.getLast? with|some y=>(y.2,true)|none=>(0,false)
structure ZlW (l:List Rtn) (crrs:List Crr):Prop where
 len:l.length<=32
 crr:∀ r∈l,0<=r.crr/\r.crr<crrs.length
 tol:∀ c∈crrs,0<=c.tol/\c.tol<=1000
 day:∀ r∈l,0<=r.lo/\r.lo<=3652058/\0<=r.hi/\r.hi<=3652058
theorem Zb2 {l:List Rtn} {sent x:Int} (hs:0<=sent/\sent<=3652058) (h:x∈Z3T l sent):sent<=x/\x<=3652059:=by
 have:=((Z2B _).2 x).1 h;simp only [Xe,Xa,Xo,or_false,YbV,Yak,decide_eq_true_eq] at this;rcases this with (rfl|rfl)|⟨r,hr,h1,h2⟩<;>omega
theorem Z78 {l:List Rtn} {sent:Int} {s:Spn} (hs:0<=sent/\sent<=3652058) (h:s∈Z7V l sent):sent<=s.1/\s.1<=3652059/\-1<=s.2/\s.2<=3652058:=by
 unfold Z7V at h;obtain ⟨p,hp,rfl⟩:=Xw.1 h;have h1:=Zb2 hs (List.of_mem_zip hp).1;have h2:=Zb2 hs (List.mem_of_mem_tail (List.of_mem_zip hp).2);dsimp only;omega
def inX (sent d:Int):Bool:=decide (sent<d/\d<=3652058)
def Z5q (l:List Rtn) (sent:Int):List Int:=[sent,3652059]++l.flatMap (λr=>[r.lo,r.hi+1].filter (inX sent))
theorem Z79 (l:List Rtn) (sent:Int):(Z5q l sent).length<=2+2 * l.length:=by
 unfold Z5q;rw [Xb]
 induction l with
 | nil=>simp
 | cons r l ih=>
   have h:=X0 (inX sent) [r.lo,r.hi+1];simp only [Ybc,Xb,Xf,Xh] at *;omega
theorem Z3H {P:Program} {n:Nat} {e:Env} {w} {d:Option Nat} {ty:TypeId} {pos:String} {af:Array Edge} {g:Option (Nat×Bool)} {x y:Operand} {t:TypeId} {u i v:Value} (hx:ev e x=some u) (hy:ev e y=some i) (hb:∀ w,(Instr.index t u i).run P w=.ok v w):PR P n ⟨d,.index t x y,ty,pos,af,g⟩ e w v:=
 ⟨λa ha=>by simp [execOp,ha.ev hx,ha.ev hy,hb]⟩
theorem ZiD (a b:Int) (w):(Instr.index 352 (.agg #[.I a,.I b]) (.I ((0:Nat):Int))).run Tryz.prog w=.ok (.I a) w:=by kernel_rfl
theorem ZiE (a b:Int) (w):(Instr.index 352 (.agg #[.I a,.I b]) (.I ((1:Nat):Int))).run Tryz.prog w=.ok (.I b) w:=by kernel_rfl
theorem Zfk (l:List Rtn) (sent:Int) (k:Nat) (h:k<l.length):Z5q (l.take (k+1)) sent=Z5q (l.take k) sent++[l[k].lo,l[k].hi+1].filter (inX sent):=by
 unfold Z5q;rw [Xj h,YaC];simp
theorem ZiF (a b:Int) (w):(Instr.build 29 #[(0,.I a),(1,.I b)]).run Tryz.prog w=.ok (.agg (Z2.enc ((a,b):Spn)).toArray) w:=by kernel_rfl
theorem ZlX (a b:Int) (w):(Instr.buildSlice 22 2 #[(0,.I a),(1,.I b)]).run Tryz.prog w=.ok (.slice (some ⟨w.heap.size,0,none⟩) 2 2) (w.alloc (.cells #[.I a,.I b] 3)):=by kernel_rfl
theorem ZiG (a b:Int) (w):(Instr.build 352 #[(0,.I a),(1,.I b)]).run Tryz.prog w=.ok (.agg #[.I a,.I b]) w:=by kernel_rfl
theorem Z9y (l:Nat) (F:List Nat) (w) (bS bL:Nat) (lv:Value) (rets:List Rtn) (sent:Int) (crrs:List Crr) (ho:ZlW rets crrs) (dW:0<=sent/\sent<=3652058)
 (eS:Blk w bS 3 [.I sent]) (eL:Blk w bL 30 [lv]) (hl:SlV F w lv rets) (hF:∀ b∈F,b<w.heap.size) (hS:bS∉F) (hL:bL∉F) :
 Ze8 Tryz.prog 316 #[pQ bS,pQ bL] (λx:Spn=>aG x) (Z7V rets sent) l F w:=by
 intro J hlt rn hY h0;have jM:=ho.len;have eG:=hl.max;refine cW3 65 Tryz.func316 ?_;refine W ?_;refine Z0 (Z1 rfl (ZlX _ _)) rfl ?_;intro dv0 w1 hN;have nf:ZE 3 w w1 dv0 [sent,3652059]:=ZE.one hN rfl rfl (by simp [maxLen]);have hN:=Z6.stp hN;have eL1:=eL.up hN;have eS1:=eS.up hN;refine W ?_;have rp:Z5q (rets.take 0) sent=[sent,3652059]:=by simp [Z5q]
 refine LP (σ:=Nat×Value) (λq=>[(0,.func (.yield l) #[] #[]),(1,pQ bS),(2,pQ bL),(4,q.2),(12,lv),(13,.I rets.length),(14,.I q.1)]) (λq w'=>q.1<=rets.length/\ZE 3 w w' q.2 (Z5q (rets.take q.1) sent)) (λq=>rets.length - q.1) (0,dv0) ⟨by omega,by rw [rp];exact nf⟩ ?_;clear nf rp hN eS1 eL1;rintro ⟨k,dv⟩ w2 ⟨hk,hr⟩;dsimp only at hk hr ⊢;by_cases ea:k<rets.length;obtain ⟨r1,r2,r3,r4⟩:=ho.day _ (Xc ea);have fu:=Z79 (rets.take k) sent;rw [Xz] at fu;have ar:=Zfk rets sent k ea;generalize Z5q (rets.take k) sent=pk at *;have dJ:SlV [] w2 lv rets:=hl.ext hr.2 (by simp) (by simp);have eS2:=eS.up hr.2;refine QO ?_;refine Z0 Z4 rfl ?_;rintro _ w3 ⟨b6,rfl,eH,e6,hA⟩;refine SA (us:=Z2.enc rets[k]) e6 ?_;rintro _ w4 ⟨cR,e6⟩;replace hA:=hA.ow cR;replace hr:=hr.up hA;refine QO ?_;refine Zc (vs:=[(0,.I rets[k].lo),(1,.I (rets[k].hi+1))]) rfl (ZiG _ _) rfl ?_;refine QO ?_;generalize o5:rets[k].lo=lo at *;generalize wV:rets[k].hi+1=hi at *;have o7:[lo,hi].filter (inX sent)=(if inX sent lo=true then [lo] else [])++(if inX sent hi=true then [hi] else []):=by
  cases h1:inX sent lo<;>cases h2:inX sent hi<;>simp [h1,h2]
 clear e6 hA cR dJ eS2
 refine Zt (σ:=Nat×Value) (λq=>[(0,.func (.yield l) #[] #[]),(1,pQ bS),(2,pQ bL),(4,q.2),(12,lv),(13,.I rets.length),(14,.I k),(23,.agg #[.I lo,.I hi]),(24,.I q.1)])
  (λq w'=>q.1<=2/\ZE 3 w w' q.2 (pk++(if 0<q.1/\inX sent lo=true then [lo] else [])++(if 1<q.1/\inX sent hi=true then [hi] else []))) (λq=>2 - q.1) (0,dv) ⟨rfl,rfl,rfl,rfl,rfl,rfl,rfl,rfl,rfl,trivial⟩ ⟨by omega,by simpa using hr⟩ ?_
 clear hr;rintro ⟨j,dv⟩ w5 ⟨hj,hr⟩;dsimp only at hj hr ⊢;have eS5:=eS.up hr.2;have wW:pk.length<=70:=by omega
 have hz:∀ (p:Prop) [Decidable p] (d:Int),(if p then [d] else []).length<=1:=λp _ d=>by split<;>simp
 obtain rfl|rfl|rfl:j=0\/j=1\/j=2:=by omega
 by_cases ba:sent<lo/\lo<=3652058;refine QO ?_;refine Za (Z3H rfl rfl (ZiD _ _)) rfl ?_;refine QO ?_;refine AP1 lo hr (by simp;omega) λv1 v' w' bB _=>?_
 refine QO ?_;exact QL (1,v') ⟨by dsimp only;omega,by simpa [inX,ba] using bB⟩ (by dsimp only;omega)
 . refine QO ?_
   refine Za (Z3H rfl rfl (ZiD _ _)) rfl ?_;refine QO ?_;all_goals exact QL (1,dv) ⟨by dsimp only;omega,by simpa [inX,ba] using hr⟩ (by dsimp only;omega)
 have dw:=hz (0<1/\inX sent lo=true) lo;by_cases ba:sent<hi/\hi<=3652058;refine QO ?_;refine Za (Z3H rfl rfl (ZiE _ _)) rfl ?_;refine QO ?_;refine AP1 hi hr (by simp only [Xb];simp;split<;>simp<;>omega) λv1 v' w' bB _=>?_
 refine QO ?_;exact QL (2,v') ⟨by dsimp only;omega,by simpa [inX,ba] using bB⟩ (by dsimp only;omega)
 . refine QO ?_
   refine Za (Z3H rfl rfl (ZiE _ _)) rfl ?_;repeat'(first|refine W1 ?_|omega|refine VG ?_ ?_<;>intro hg|refine VC ?_ ?_<;>intro hc)
   all_goals exact QL (2,dv) ⟨by dsimp only;omega,by simpa [inX,ba] using hr⟩ (by dsimp only;omega)
 refine QO ?_;exact QL (k+1,dv) ⟨by dsimp only;omega,by rw [ar,o7,<- XI];simpa using hr⟩ (by dsimp only;omega);obtain rfl:k=rets.length:=by omega
 rw [Xs] at hr;have fu:=Z79 rets sent;have ny:Z3T rets sent=Z2P (Z5q rets sent):=rfl;refine QO ?_;refine CM (ZO rfl) (ZaD w2 hr.1 (by omega)) ?_;rintro _ w3 ⟨rfl,cX,cH⟩;refine QO ?_;refine CM (ZO rfl) (Z5P w3 cX (by rw [Ybx];omega)) ?_;rintro dv4 w4 ⟨da,eI,iI⟩;have gI:=λb hb=>hr.ob_le b hb;have aF:Stp [] w w4:=(hr.2.own cH (λb hb=>.inr (gI b hb).1)).own eI (λb hb=>.inr (gI b hb).1);replace da:Row [] w4 w.heap.size 3 dv4 (Z3T rets sent):=da;have iW:(Z3T rets sent).length<=100:=by
  have h1:(Z3T rets sent).length<=(Z5q rets sent).length:=by
   rw [ny];unfold Z2P Lib.compact Lib.compactUpTo;rw [XB];refine Xk (X0 _ _) ?_;simp
  omega
 have wX:0<(Z3T rets sent).length:=by
  have:sent∈Z3T rets sent:=((Z2B _).2 sent).2 (by simp);exact List.length_pos_of_mem this
 have rq:∀ d∈Z3T rets sent,sent<=d/\d<=3652059:=λd hd=>by
  have:=((Z2B _).2 d).1 hd;simp only [Xe,Xa,Xo,or_false,YbV,Yak,decide_eq_true_eq] at this;rcases this with (rfl|rfl)|⟨r,hr,h1,h2⟩<;>omega
 have lW:Z7V rets sent=((Z3T rets sent).zip (Z3T rets sent).tail).map (λp=>(p.1,p.2 - 1)):=rfl;rw [lW] at hY ⊢;clear lW ny hr cX cH eI fu;generalize Z3T rets sent=D at *;have dA:SlV [] w4 dv4 D:=da.slv (by simp);have wY:=dA.max;have rt:((D.zip D.tail).map (λp=>(p.1,p.2 - 1))).length=D.length - 1:=by simp
 have t8:∀ b∈ob dv4,w.heap.size<=b:=λb hb=>(da.ob_le b hb).1;refine QO ?_
 refine Zt (σ:=Nat×List Nat) (λq=>[(0,.func (.yield l) #[] #[]),(4,dv4),(46,.I ((D.length:Int) - 1)),(47,.I q.1)])
  (λq w'=>q.1<=D.length - 1/\J (((D.zip D.tail).map (λp=>(p.1,p.2 - 1))).take q.1) q.2 w'/\SlV q.2 w' dv4 D/\Stp F w w'/\∀ b∈q.2,b∈F\/w.heap.size<=b) (λq=>D.length - q.1) (0,F) ⟨rfl,rfl,rfl,rfl,trivial⟩
  ⟨by omega,by simpa using rn _ _ _ _ h0 aF,Row.slv (Z2h (X':=F) da) hF,aF.mn,λb hb=>.inl hb⟩ ?_
 clear dA aF;rintro ⟨k,G⟩ w5 ⟨hk,hJ,au,hS,hG⟩;dsimp only at hk hJ au hG ⊢;generalize hZ:(D.zip D.tail).map (λp=>(p.1,p.2 - 1))=Z at *;by_cases ea:k<D.length - 1;have ru:k<Z.length:=by omega
 have bp:k<D.length:=by omega
 have cB:k+1<D.length:=by omega
 have gf:Z[k]=(D[k],D[k+1] - 1):=by subst hZ;simp
 obtain ⟨d1,d2⟩:=rq _ (Xc bp);obtain ⟨d3,d4⟩:=rq _ (Xc cB);refine QO ?_;refine Zfg 5 14 (G) [(0,0),(1,0),(2,0),(3,0),(4,1),(5,0),(6,0),(7,0),(8,0),(9,1),(10,0),(11,0),(12,2),(13,0)] rfl mixed (by kernel_rfl) (by kernel_rfl) (by kernel_rfl) (λw1 ae=>?_);replace hJ:=rn _ _ _ _ hJ ae;replace au:=au.up ae;replace hS:=hS.trans ae.mn;refine Z08 rfl (λw'=>ZJ rfl) rfl ?_;refine Z08 rfl (λw'=>ZJ rfl) rfl ?_;refine Z08 rfl (λw'=>ZJ rfl) rfl ?_;refine Z08 rfl (λw'=>Z2m (i:=k) rfl au rfl rfl bp) rfl ?_;refine ZaX rfl (λw' hS=>Z2n rfl rfl (au.ext hS (λb hb=>hb) (λ_ h=>.inl h)) bp rfl rfl) rfl ?_;refine Z08 rfl (λw'=>ZJ rfl) rfl ?_;refine Z08 rfl (λw'=>ZJ rfl) rfl ?_;refine Z08 rfl (λw'=>Z8R rfl rfl (by unfold I64;omega)) rfl ?_;refine Z08 rfl (λw'=>Z2m (i:=k+1) rfl au rfl (by omega) cB) rfl ?_;refine ZaX rfl (λw' hS=>Z2n rfl rfl (au.ext hS (λb hb=>hb) (λ_ h=>.inl h)) cB rfl rfl) rfl ?_;refine Z08 rfl (λw'=>Z52 rfl rfl (by unfold I64;omega)) rfl ?_;refine Z08 rfl (λw'=>Z0i (vs:=[(0,.I D[k]),(1,.I (D[k+1] - 1))]) rfl (ZiF _ _)) rfl ?_;have rx:=hY (Z.take k) Z[k] G w1 hJ (by rw [<- Xj ru];exact List.take_prefix _ _);rw [gf] at rx;refine Zfh rfl rfl rfl rx (λW' h=>h.choose_spec.2.1) rfl ?_;rintro W' ⟨G',iq,ry,kP⟩;refine Z08 rfl (λw'=>ZbU rfl) rfl ?_;refine ZlU ?_;refine QO ?_;refine QL (k+1,G') ⟨by dsimp only;omega,by rw [Xj ru,gf];exact iq,?_,hS.own ry hG,λb hb=>?_⟩ (by dsimp only;omega);exact au.ext ry (λb hb=>hb) kP;rcases kP b hb with h|h
 exact hG b h;exact .inr (by have:=hS.size;omega);refine QO ?_;refine WR ?_;have ej:k=Z.length:=by omega
 rw [ej,Xs] at hJ;exact .mk ⟨G,hJ,hS,hG⟩
end Go.Proofs.YteibicnbkggiiaaGreatDoor
namespace Go.Eng
open Go Go.RowKit Go.Proofs
variable {P:Program} {n:Nat} {Q:Exit->Act->World->Prop} {e:Env} {w w0:World} {rest:List Oper} {ops:Array Oper} {ty ty':TypeId} {pos pos':String} {af af':Array Edge}
theorem Z6.slv1 {α:Type} [Z5 α] {X:List Nat} {T:Nat} {cs:List Value} {v:Value} {w':World} {y:α} (h:Z6 w T 1 cs v w') (hX:∀ b∈X,b<w.heap.size) (hr:Z5.rep X w y cs):SlV X w' v [y]:=by
 obtain ⟨b,rfl,hb,hk,hT⟩:=h;refine ⟨some ⟨b,0,none⟩,1,rfl,Xq _,by simp [maxLen],by simp,λi hi=>?_⟩;obtain rfl:i=0:=by simpa using hi
 refine ⟨b,0,cs,rfl,hk.lt,λcO=>by have:=hX b cO;omega,Z5.ext hr hT (by simp) (λc hc=>.inl hc),λj u hu=>?_⟩;simpa using hk.cell hu
theorem APG {α:Type} [Z5 α] {X:List Nat} {T t bytes d1 d2 base:Nat} {x y:Operand} {v z0 u:Value} {cs:List Value} {xs:List α} [ht:Und P t (.slice T)] [hk:Siz P T (Z5.k α)] [hb:Byt P T bytes] [hz:Zer P T z0] (z:α) (hr:Row X w base T v xs) (hX:∀ b∈X,b<w.heap.size) (cM:base<=w.heap.size)
 (d9:Z5.rep (ob v++X) w z cs) (hl:(xs.length+1) * bytes<=140737488355328) (jl:xs.length+1<=maxLen)
 (k:∀ v1 v' w',Row X w' base T v' (xs++[z])->Stp (ob v) w w'->(∀ b∈ob v',b∈ob v\/w.heap.size<=b)->WL P n ops Q rest ((d2,v') :: (d1,v1) :: e) w')
 (hx:ev e x=some v:=by exact rfl) (hy:Jg e [(0,y)]=some [(0,u)]:=by exact rfl) (aJ:∀ w:World,(Instr.buildSlice t 1 #[(0,u)]).run P w=.ok (.slice (some ⟨w.heap.size,0,none⟩) 1 1) (w.alloc (.cells cs.toArray T)):=by intro w;kernel_rfl)
 (kN:∀ v1,ev ((d1,v1) :: e) x=some v:=by intro _;exact rfl) (ip:∀ v1,ev ((d1,v1) :: e) (.tmp d1)=some v1:=by intro _;exact rfl)
 (dC:z0.cells.size=Z5.k α:=by exact rfl) (aZ:0<Z5.k α:=by decide) (h1:Nat.blt d1 n=true:=by exact rfl) (h2:Nat.blt d2 n=true:=by exact rfl) :
 WL P n ops Q (⟨some d1,.buildSlice t 1 #[(0,y)],ty,pos,af,none⟩ :: ⟨some d2,.call { callee:=.builtin .append,args:=#[x,.tmp d1],argTypes:=#[t,t] },ty',pos',af',none⟩ :: rest) e w:=by
 refine Z0 (Z1 (l:=[(0,y)]) (vs:=[(0,u)]) hy aJ) h1 ?_;intro v1 w1 hN;have hT:Stp [] w w1:=hN.choose_spec.2.2.2;have aI:SlV (ob v++X) w1 v1 [z]:=hN.slv1 (λb hb=>by
  rcases Xe.1 hb with h|h
  exact (hr.ob_le b h).2;exact hX b h) d9
 refine Z0 (ZA (X:=X) (base:=base) dC aZ (kN v1) (ip v1) (hr.up hT) aI (by simpa using hl) (by simpa using jl) (Xk cM hT.size)) h2 ?_;rintro v' w2 ⟨g1,g2,g3⟩;exact k v1 v' w2 g1 (hT.mn.trans g2) (λb hb=>(g3 b hb).imp id (Xk hT.size))
end Go.Eng
namespace Go.Proofs.YteibicnbkggiiaaGreatDoor
open Go Go.Eng Go.RowKit
theorem Z9z {P:Program} {f:FuncId} {fn:Func} {c:Code} {args:Array Value} {w} {R:Ending->World->Prop} {n:Nat} (hf:P.funcs[f]?=some fn) (hb:fn.body=some c)
 (hn:fn.ntmps=n) (hs:Nat.ble args.size n=true) (h:WC P n c (bodyPostM Fence.wide 5 P fn R) (Z2W args.toList 0) w):Calls P f args w R:=by
 refine (callsIn_wide (n:=5)).1 (callsIn_of_wp_marks hf hb trivial ((wpIn_wide (n:=5)).2 (h.h _ ?_)));rw [hn];have cK:args.size<=n:=Xg hs;refine ⟨rfl,by simp;omega,λt v hv=>?_⟩;obtain ⟨_,h2⟩:=Z2X _ _ _ _ hv;simp only [Nat.sub_zero] at h2;have hlt:t<args.size:=by
  have:=(Xt.1 h2).1;simpa using this
 have:args[t]?=some v:=by simpa using h2
 have h3:(args++Array.replicate (n - args.size) undef)[t]?=some v:=by
  rw [X4 hlt];exact this
 simp [XJ,h3]
theorem Zfl {P:Program} {n:Nat} {fn:Func} {R:Ending->World->Prop} {e:Env} {w:World} {D t u:Nat} {v x:Value} (hr:fn.results=#[.tmp t,.tmp u]) (ht:Eng.look e t=some v) (hu:Eng.look e u=some x) (hd:w.heap[D]?=some (.deferred (some [])))
 (h:R (.returned (.tuple #[v,x])) (w.putObj D (.deferred none))):WQD [{ target:=.collected D,args:=#[] }] n (bodyPostM Fence.wide 5 P fn R) .ret e w:=by
 refine ⟨λa ha=>?_⟩;show LeavesInM Fence.wide 5 P fn (Z0u _ a).tmps R (Z0u _ a).defers .returning w;have ua:(Z0u [{ target:=.collected D,args:=#[] }] a).defers=[{ target:=.collected D,args:=#[] }]:=by unfold Z0u;rw [ha.defers];rfl
 rw [ua];refine ⟨by simp,.inl ⟨D,_,rfl,run_takeDeferred hd,?_⟩⟩;refine ⟨.tuple #[v,x],?_,h⟩;have h1:=ha.vals t v ht;have h2:=ha.vals u x hu;have h3:(Z0u [{ target:=.collected D,args:=#[] }] a).tmps=a.tmps:=rfl;rw [XJ] at h1 h2;rw [h3];simp [results,hr,h1,h2]
theorem Z9A (lv:Value) (l:List Rtn) (sent:Int) (w) (hl:SlV [] w lv l):CC 289 #[lv,.I sent] w λr w'=>∃ bL bS,r=.func (.func 316) #[] #[pQ bS,pQ bL]/\
 Blk w' bS 3 [.I sent]/\Blk w' bL 30 [lv]/\w.heap.size<=bL/\w.heap.size<=bS/\Stp [] w w':=by
 refine cW2 6 Tryz.func289 ?_;refine W ?_;refine Z0 (Z90 rfl hl) rfl ?_;rintro _ w1 ⟨bL,rfl,hL,kL,hS⟩;have z1:=hS.size;refine BX hS λbS w2 ak kS hT hS=>?_;replace kS:Blk w2 bS 3 [.I sent]:=kS;replace kL:=kL.up hT;refine RT ?_;exact ⟨bL,bS,rfl,kS,kL,hL,by omega,hS⟩
theorem ZiH {l:List Rtn} {sent:Int} (h:l.length<=32):(Z3T l sent).length<=66:=by
 have ny:Z3T l sent=Z2P (Z5q l sent):=rfl;have h2:=Z79 l sent;have h1:(Z3T l sent).length<=(Z5q l sent).length:=by
  rw [ny];unfold Z2P Lib.compact Lib.compactUpTo;rw [XB];refine Xk (X0 _ _) ?_;simp
 omega
theorem ZiI {l:List Rtn} {sent:Int} (h:l.length<=32):(Z7V l sent).length<=66:=by
 have:=ZiH (sent:=sent) h;unfold Z7V;rw [XB,List.length_zip];omega
theorem Zfm (l:List Rtn) (crrs:List Crr) (s:AlS) (x:Spn):(Z0g l crrs s x).out.length<=s.out.length+1:=by
 unfold Z0g;dsimp only;split;omega;have ht:(if Z1a l crrs x.1<s.least then (⟨Z1a l crrs x.1,false,[]⟩:AlS) else s).out.length<=s.out.length:=by
  split<;>simp
 generalize (if Z1a l crrs x.1<s.least then (⟨Z1a l crrs x.1,false,[]⟩:AlS) else s)=t at *;split;split<;>simp<;>omega
 simp;omega
theorem Z8t (l:List Rtn) (crrs:List Crr):∀ (L:List Spn) (s:AlS),(L.foldl (Z0g l crrs) s).out.length<=s.out.length+L.length
 | [],s=>by simp
 | x :: L, s => by
   have h1:=Z8t l crrs L (Z0g l crrs s x);have h2:=Zfm l crrs s x;rw [Yag,Xf];omega
theorem ZiJ (l:List Rtn) (crrs:List Crr) (s:AlS) (x:Spn) (h:¬ s.least<Z1a l crrs x.1) {t:AlS} (ht:t=if Z1a l crrs x.1<s.least then ⟨Z1a l crrs x.1,false,[]⟩ else s) :
 (t.out=[]->Z0g l crrs s x={ t with out:=[x] })/\(∀ M u,t.out=M++[u]->Z0g l crrs s x={ t with out:=if u.2=x.1 - 1 then M++[(u.1,x.2)] else M++[u]++[x] }):=by
 unfold Z0g;dsimp only;rw [if_neg h,<- ht];clear ht;constructor;intro h0;rw [h0];rfl;intro M u h0;rw [h0];simp only [List.getLast?_append,List.getLast?_singleton,Option.some_or];split<;>simp
structure AlJ (w0:World) (l:List Rtn) (crrs:List Crr) (b8 b9 b10:Nat) (pre:List Spn) (F:List Nat) (W:World):Prop where
 ex:∃ ov,F=b8 :: b9 :: b10 :: ob ov/\Blk W b10 39 [ov]/\Row [] W w0.heap.size 29 ov (pre.foldl (Z0g l crrs) ⟨Z1a l crrs (-1),true,[]⟩).out
 k8:Blk W b8 3 [.I (pre.foldl (Z0g l crrs) ⟨Z1a l crrs (-1),true,[]⟩).least]
 k9:Blk W b9 4 [.B (pre.foldl (Z0g l crrs) ⟨Z1a l crrs (-1),true,[]⟩).never]
 stp:Stp [b8,b9,b10] w0 W
theorem Z9B {β:Type} [Z2 β] {X S:List Nat} {w w':World} {base T:Nat} {v:Value} {xs:List β} (h:Row X w base T v xs) (hS:Stp S w w') (hn:∀ b∈S,b∉ob v):Row X w' base T v xs:=
 Z2h (Row.ext (Z2h (X':=S) h) hS (λb hb=>⟨hb,hn b hb⟩) (λb hb=>.inl hb))
theorem AlJ.stay {w0 W W':World} {l:List Rtn} {crrs:List Crr} {b8 b9 b10:Nat} {pre:List Spn} {F S:List Nat} (h:AlJ w0 l crrs b8 b9 b10 pre F W) (hS:Stp S W W') (hd:∀ b∈S,w0.heap.size<=b/\b∉F):AlJ w0 l crrs b8 b9 b10 pre F W':=by
 obtain ⟨⟨ov,rfl,k10,hr⟩,k8,k9,ar⟩:=h;exact ⟨⟨ov,rfl,k10.ext hS (λh=>(hd _ h).2 (by simp)),Z9B hr hS (λb hb h=>(hd b hb).2 (by simp [h]))⟩,k8.ext hS (λh=>(hd _ h).2 (by simp)),k9.ext hS (λh=>(hd _ h).2 (by simp)),ar.own hS (λb hb=>.inr (hd b hb).1)⟩
theorem Zb3 (lv cv:Value) (l:List Rtn) (crrs:List Crr) (sent:Int) (w) (hl:SlV [] w lv l) (hc:SlV [] w cv crrs) (ho:ZlW l crrs) (dW:0<=sent/\sent<=3652058) :
 CC 240 #[lv,cv,.I sent] w λv w'=>∃ ov,v=.tuple #[ov,.B (Zfj l crrs sent).never]/\SlV [] w' ov (Zfj l crrs sent).out/\Stp [] w w':=by
 refine Z9z (n:=62) Tryz.func240 rfl rfl rfl ?_;refine W ?_;refine Z0 (Z90 rfl hl) rfl ?_;rintro _ w1 ⟨b3,rfl,h3,e3,hS⟩;refine Z0 (Z90 rfl hc) rfl ?_;rintro _ w2 ⟨b4,rfl,h4,e4,hT⟩;replace e3:=e3.up hT;replace hS:=hS.trans hT;clear hT;refine W ?_;refine CP hS (Z77 lv cv l crrs (-1) _ (hl.up hS) (hc.up hS) ho.len ho.crr ho.tol) λw3 hT hS=>?_;replace e3:=e3.up hT;replace e4:=e4.up hT;clear hT;refine Z0 Z4 rfl ?_;rintro _ w4 ⟨b8,rfl,eZ,e8,hT⟩;replace e8:Blk w4 b8 3 [.I 0]:=e8;refine S1 e8 ?_;rintro _ w5 ⟨ax,e8⟩;replace hT:=hT.ow ax;have l3:=e3.lt;have l4:=e4.lt;replace e3:=e3.up hT;replace e4:=e4.up hT;have g8:w.heap.size<=b8:=Xk hS.size eZ;replace hS:=hS.trans hT;clear hT ax;refine W ?_;refine Z0 Z4 rfl ?_;rintro _ w6 ⟨b9,rfl,gH,e9,hT⟩;replace e9:Blk w6 b9 4 [.B false]:=e9;refine S1 e9 ?_;rintro _ w7 ⟨ax,e9⟩;replace hT:=hT.ow ax;have l8:=e8.lt;replace e3:=e3.up hT;replace e4:=e4.up hT;replace e8:=e8.up hT;replace hS:=hS.trans hT;clear hT ax;refine W ?_;refine Z0 Z4 rfl ?_;rintro _ w8 ⟨b10,rfl,jN,e10,hT⟩;have l9:=e9.lt;replace e3:=e3.up hT;replace e4:=e4.up hT;replace e8:=e8.up hT;replace e9:=e9.up hT;replace hS:=hS.trans hT;clear hT;refine W ?_;refine CG (Z9A lv l sent _ (hl.up hS)) ?_;rintro _ w9 ⟨bL,bS,rfl,kS,kL,gL,gS,hT⟩;have l10:=e10.lt;have z8:=hS.size;replace e3:=e3.up hT;replace e4:=e4.up hT;replace e8:=e8.up hT;replace e9:=e9.up hT;replace e10:=e10.up hT;replace hS:=hS.trans hT;clear hT;refine W ?_;replace e10:Blk w9 b10 39 [.N]:=e10;have q8:=e8.lt;have q9:=e9.lt;have q10:=e10.lt;refine Zk3 [(3,pQ b3),(4,pQ b4),(8,pQ b8),(9,pQ b9),(10,pQ b10),(19,.func (.func 316) #[] #[pQ bS,pQ bL])] ⟨rfl,rfl,rfl,rfl,rfl,rfl,trivial⟩ ?_;refine ZiA (α:=Spn) (E:=λx b=>[(3,pQ b3),(4,pQ b4),(8,pQ b8),(9,pQ b9),(10,pQ b10),(11,pQ b)]) (T:=29) (cs:=Z2.enc) (λx=>aG x) rfl rfl (Z7V l sent) (AlJ w9 l crrs b8 b9 b10) [b8,b9,b10] ?_ ?_ ?_ ?_ ?_ ?_ ?_;rintro pre F W ⟨⟨ov,rfl,k10,hr⟩,k8,k9,ar⟩ b hb;simp only [Xa] at hb;rcases hb with rfl|rfl|rfl|hb
 exact k8.lt;exact k9.lt;exact k10.lt;exact (hr.ob_le b hb).2;exact λpre F W W' S h hS hd=>h.stay hS hd;exact ⟨⟨.N,rfl,e10,Row.nil⟩,e8,e9,Stp.refl _ _⟩;intro l' Y j0 dM wZ;have zY:=j0.size;have zw:=hS.size;have kSl:=kS.lt;have kLl:=kL.lt;refine Z9y l' _ Y bS bL lv l sent crrs ho dW (kS.up j0) (kL.up j0) (hl.ext (hS.trans j0) (by simp) (λb hb=>.inr (by
  simp only [Xa,Xo,or_false] at hb;omega))) (λb hb=>by
  simp only [Xa,Xo,or_false] at hb;omega) (by simp only [Xa,Xo,or_false];omega) (by simp only [Xa,Xo,or_false];omega)
 intro l' x Y Z dP hk;refine ZH rfl (λa w h=>dP a w h) ?_;refine Z0 Z4 rfl ?_;rintro _ Ya ⟨b,rfl,hb,kb,hT⟩;refine SA (us:=Z2.enc x) kb ?_;rintro _ Yb ⟨ax,kb⟩;refine W ?_;exact Zk4 [(3,pQ b3),(4,pQ b4),(8,pQ b8),(9,pQ b9),(10,pQ b10),(11,pQ b)] ⟨rfl,rfl,rfl,rfl,rfl,rfl,trivial⟩ (hk b Yb hb kb (hT.ow ax));intro l' pre x b11 F Y Z hJ bQ k11 nz dz dP hZ;obtain ⟨⟨ov,rfl,k10,hr⟩,k8,k9,ar⟩:=hJ;have ub:x∈Z7V l sent:=bQ.subset (by simp);have xa:=Z78 dW ub;have fu:pre.length<=66:=by
  have h1:=bQ.length_le;have h2:=ZiI (sent:=sent) ho.len;rw [Xb] at h1;omega
 have lX:=Z8t l crrs pre ⟨Z1a l crrs (-1),true,[]⟩;have dQ:(pre++[x]).foldl (Z0g l crrs) ⟨Z1a l crrs (-1),true,[]⟩=Z0g l crrs (pre.foldl (Z0g l crrs) ⟨Z1a l crrs (-1),true,[]⟩) x:=by simp
 have j0:Stp [] w Y:=hS.own ar (λb hb=>by simp at hb;rcases hb with rfl|rfl|rfl<;>exact .inr (by omega));have f3:=e3.ext ar (by simp;omega);have f4:=e4.ext ar (by simp;omega);have dG:=λb hb=>hr.ob_le b hb;have zst:=ar.size;simp only [Xh] at lX;generalize pre.foldl (Z0g l crrs) ⟨Z1a l crrs (-1),true,[]⟩=s at *;obtain ⟨least,never,out⟩:=s;dsimp only at k8 k9 hr lX;have l8y:=k8.lt;have l9y:=k9.lt;have l10y:=k10.lt;focus repeat'(first|refine W1 ?_|refine J7 ?_|refine JD ?_|refine ZV ?_|refine ZH rfl (λa w h=>dP a w h) ?_|refine J8 ?_|refine J9 ?_|refine J1 rfl ?_|refine ZR rfl ?_|refine Zs ?_|refine Zl ?_|refine Zu rfl ?_|refine J0 ?_)
 refine CP (Stp.refl [] Y) (Z77 lv cv l crrs x.1 _ (hl.up j0) (hc.up j0) ho.len ho.crr ho.tol) λY1 hT _=>?_;replace k8:=k8.up hT;replace k9:=k9.up hT;replace k10:=k10.up hT;replace k11:=k11.up hT;replace f3:=f3.up hT;replace f4:=f4.up hT;replace hr:=hr.up hT;have j4:=ar.trans hT.mn;have hstep:=λh=>@ZiJ l crrs ⟨least,never,out⟩ x h _ rfl;have gJ:least<Z1a l crrs x.1->Z0g l crrs ⟨least,never,out⟩ x=⟨least,never,out⟩:=λh=>by unfold Z0g;dsimp only;rw [if_pos h]
 dsimp only at hstep gJ;generalize Z1a l crrs x.1=E at *;by_cases h1:least<E;rw [gJ h1] at dQ;focus repeat'(first|refine W1 ?_|refine J7 ?_|refine JD ?_|refine ZV ?_|refine ZH rfl (λa w h=>dP a w h) ?_|refine J8 ?_|refine J9 ?_|refine J1 rfl ?_|refine ZR rfl ?_|refine Zs ?_|refine Zl ?_|refine Zu rfl ?_|refine J0 ?_|omega|(refine Z3o rfl ?_ ?_<;>intro hc))
 exact ⟨λa ha=>hZ a _ Y1 ⟨⟨ov,rfl,k10,by rw [dQ];exact hr⟩,by rw [dQ];exact k8,by rw [dQ];exact k9,j4⟩ hT.mn (λb hb=>.inl hb)⟩;have hstep:=hstep h1;clear gJ f3 f4;generalize cu:Z0g l crrs ⟨least,never,out⟩ x=s' at *;generalize ht:(if E<least then (⟨E,false,[]⟩:AlS) else ⟨least,never,out⟩)=t at *;have uc:t.out.length<=66:=by rw [<- ht];split<;>simp<;>omega
 focus repeat'(first|refine W1 ?_|refine J7 ?_|refine JD ?_|refine ZV ?_|refine ZH rfl (λa w h=>dP a w h) ?_|refine J8 ?_|refine J9 ?_|refine J1 rfl ?_|refine ZR rfl ?_|refine Zs ?_|refine Zl ?_|refine Zu rfl ?_|refine J0 ?_)
 refine Z3o rfl (λhc=>absurd hc h1) (λhc=>?_);focus repeat'(first|refine W1 ?_|refine J7 ?_|refine JD ?_|refine ZV ?_|refine ZH rfl (λa w h=>dP a w h) ?_|refine J8 ?_|refine J9 ?_|refine J1 rfl ?_|refine ZR rfl ?_|refine Zs ?_|refine Zl ?_|refine Zu rfl ?_|refine J0 ?_)
 refine Ziz (σ:=Value) (λ_=>[(10,pQ b10),(11,pQ b11)]) (λov' W'=>Blk W' b8 3 [.I t.least]/\Blk W' b9 4 [.B t.never]/\Blk W' b10 39 [ov']/\Row [] W' w9.heap.size 29 ov' t.out/\Blk W' b11 29 (Z2.enc x)/\Stp [b8,b9,b10] Y1 W'/\∀ b∈ob ov',b∈ob ov) ?_ ?_;by_cases h2:E<least;rw [if_pos h2] at ht;subst ht;focus repeat'(first|refine W1 ?_|refine J7 ?_|refine JD ?_|refine ZV ?_|refine ZH rfl (λa w h=>dP a w h) ?_|refine J8 ?_|refine J9 ?_|refine J1 rfl ?_|refine ZR rfl ?_|refine Zs ?_|refine Zl ?_|refine Zu rfl ?_|refine J0 ?_|omega|(refine Z3o rfl ?_ ?_<;>intro hc))
 refine S1 (u:=.I E) k8 ?_;rintro _ Y2 ⟨hA,k8⟩;replace k9:=k9.ext hA (by simp;omega);replace k10:=k10.ext hA (by simp;omega);replace k11:=k11.ext hA (λh=>nz (by simp at h;subst h;simp));refine S1 (u:=.B false) k9 ?_;rintro _ Y3 ⟨hB,k9⟩;replace k8:=k8.ext hB (by simp;omega);replace k10:=k10.ext hB (by simp;omega);replace k11:=k11.ext hB (λh=>nz (by simp at h;subst h;simp));refine S1 (u:=.N) k10 ?_;rintro _ Y4 ⟨hC,k10⟩;replace k8:=k8.ext hC (by simp;omega);replace k9:=k9.ext hC (by simp;omega);replace k11:=k11.ext hC (λh=>nz (by simp at h;subst h;simp));focus repeat'(first|refine W1 ?_|refine J7 ?_|refine JD ?_|refine ZV ?_|refine ZH rfl (λa w h=>dP a w h) ?_|refine J8 ?_|refine J9 ?_|refine J1 rfl ?_|refine ZR rfl ?_|refine Zs ?_|refine Zl ?_|refine Zu rfl ?_|refine J0 ?_)
 exact QT (.N) ⟨k8,k9,k10,Row.nil,k11,(hA.mn.trans hB.mn).trans hC.mn,by simp [ob]⟩;rw [if_neg h2] at ht;subst ht;focus repeat'(first|refine W1 ?_|refine J7 ?_|refine JD ?_|refine ZV ?_|refine ZH rfl (λa w h=>dP a w h) ?_|refine J8 ?_|refine J9 ?_|refine J1 rfl ?_|refine ZR rfl ?_|refine Zs ?_|refine Zl ?_|refine Zu rfl ?_|refine J0 ?_|omega|(refine Z3o rfl ?_ ?_<;>intro hc))
 exact QT ov ⟨k8,k9,k10,hr,k11,Stp.refl _ _,λb hb=>hb⟩;clear k8 k9 k10 k11 hr ht;rintro ov' Y2 ⟨k8,k9,k10,hr,k11,hA,nA⟩;have zA:=hA.size;have zT:=hT.size;have gK:=λb hb=>hr.ob_le b hb;have dX:SlV [] Y2 ov' t.out:=hr.slv (by simp);obtain ⟨hq1,hq2⟩:=hstep;obtain ⟨tl,tn,oo⟩:=t;dsimp only at k8 k9 hr dX gK hq1 hq2 uc;have lY:b8∉ob ov':=λh=>by have:=gK _ h;omega
 have lZ:b9∉ob ov':=λh=>by have:=gK _ h;omega
 have fD:b10∉ob ov':=λh=>by have:=gK _ h;omega
 have rz:b11∉ob ov':=λh=>nz (by have:=nA _ h;simp [this])
 have fin:∀ (nv:Value) (W':World),Blk W' b8 3 [.I s'.least]->Blk W' b9 4 [.B s'.never]->Blk W' b10 39 [nv]->Row [] W' w9.heap.size 29 nv s'.out->Stp (b10 :: ob ov') Y2 W'->(∀ b∈ob nv,b∈ob ov'\/Y2.heap.size<=b)->∀ a,Z .normal a W':=λnv W' g8 g9 g10 gr gs gn a=>
  hZ a (b8 :: b9 :: b10 :: ob nv) W' ⟨⟨nv,rfl,g10,by rw [dQ];exact gr⟩,by rw [dQ];exact g8,by rw [dQ];exact g9,(j4.trans hA).own gs (λb hb=>by
   rcases Xa.1 hb with rfl|hb
   exact .inl (by simp);exact .inr (gK b hb).1)⟩ ((((hT.mono (S':=b8 :: b9 :: b10 :: ob ov) (by simp)).trans hA.mn).trans (gs.mono (λb hb=>by
   rcases Xa.1 hb with rfl|hb
   simp;simp [nA b hb])))) (λb hb=>by
   simp only [Xa] at hb ⊢;rcases hb with rfl|rfl|rfl|hb
   exact .inl (.inl rfl);exact .inl (.inr (.inl rfl));exact .inl (.inr (.inr (.inl rfl)));rcases gn b hb with h|h
   exact .inl (.inr (.inr (.inr (nA b h))));exact .inr (by omega))
 clear hA nA dG j4;have app:∀ (Y3:World),Stp [] Y2 Y3->s'=⟨tl,tn,oo++[x]⟩->∀ (nv:Value) (Y4 Y5:World),Row [] Y4 w9.heap.size 29 nv (oo++[x])->Stp (ob ov') Y3 Y4->(∀ b∈ob nv,b∈ob ov'\/Y3.heap.size<=b)->Stp [b10] Y4 Y5->Blk Y5 b10 39 [nv]->∀ a,Z .normal a Y5:=λY3 g1 gs nv Y4 Y5 g2 g3 g4 g5 g6 a=>by
  subst gs;have q8:=(((k8.up g1).ext g3 lY).ext g5 (by simp;omega))
  have q9:=(((k9.up g1).ext g3 lZ).ext g5 (by simp;omega))
  have o8:b10∉ob nv:=λh=>by
   rcases g4 _ h with h|h
   exact fD h;have:=g1.size;omega
  exact fin nv Y5 q8 q9 g6 (Z9B g2 g5 (λb hb h=>o8 (by simp at hb;subst hb;exact h))) ((g1.mn.trans (g3.mono (λb hb=>by simp [hb]))).trans g5.mn) (λb hb=>(g4 b hb).imp id (λh=>by have:=g1.size;omega)) a
 focus repeat'(first|refine W1 ?_|refine J7 ?_|refine JD ?_|refine ZV ?_|refine ZH rfl (λa w h=>dP a w h) ?_|refine J8 ?_|refine J9 ?_|refine J1 rfl ?_|refine ZR rfl ?_|refine Zs ?_|refine Zl ?_|refine Zu rfl ?_|refine J0 ?_)
 rcases YaI oo with rfl|⟨M,u,rfl⟩
 have aO:=hq1 rfl;refine Z8s 14 [] [] [(0,0),(1,0),(2,0),(3,1),(4,0),(5,0),(6,0),(7,0),(8,1),(9,0),(10,1),(11,0),(12,0),(13,0)] rfl mixed (by kernel_rfl) (by kernel_rfl) (by kernel_rfl) rfl (λw1 ae=>?_);replace k10:=k10.up ae;replace k11:=k11.up ae;replace hr:=hr.up ae;refine D ?_;focus repeat'(first|refine W1 ?_|refine J7 ?_|refine JD ?_|refine ZV ?_|refine ZH rfl (λa w h=>dP a w h) ?_|refine J8 ?_|refine J9 ?_|refine J1 rfl ?_|refine ZR rfl ?_|refine Zs ?_|refine Zl ?_|refine Zu rfl ?_|refine J0 ?_)
 refine APG (X:=[]) (base:=w9.heap.size) x hr (by simp) (by have:=ae.size;omega) rfl (by simp) (by simp [maxLen]) λv1 nv Y4 da eI iI=>?_
 replace k10:=k10.ext eI fD;focus repeat'(first|refine W1 ?_|refine J7 ?_|refine JD ?_|refine ZV ?_|refine ZH rfl (λa w h=>dP a w h) ?_|refine J8 ?_|refine J9 ?_|refine J1 rfl ?_|refine ZR rfl ?_|refine Zs ?_|refine Zl ?_|refine Zu rfl ?_|refine J0 ?_)
 have dA:SlV [] Y4 nv ([]++[x]):=da.slv (by simp);refine Z8 (Zf (u:=nv) rfl rfl dA.cells dA.one k10 (by simp)) ?_;rintro _ Y5 ⟨dR,k10⟩;focus repeat'(first|refine W1 ?_|refine J7 ?_|refine JD ?_|refine ZV ?_|refine ZH rfl (λa w h=>dP a w h) ?_|refine J8 ?_|refine J9 ?_|refine J1 rfl ?_|refine ZR rfl ?_|refine Zs ?_|refine Zl ?_|refine Zu rfl ?_|refine J0 ?_)
 exact ⟨λa ha=>app w1 ae aO nv Y4 Y5 da eI iI dR k10 a⟩;rw [YaJ] at *;have aO:=hq2 M u rfl;have lQ:((M++[u]).length:Int) - 1=(M.length:Nat):=by simp
 have kO:M.length<(M++[u]).length:=by simp
 have cU:(M++[u])[M.length]=u:=by simp
 have fk:0<((M++[u]).length:Int):=by simp
 refine Z8s 14 [] [] [(0,0),(1,0),(2,0),(3,1),(4,0),(5,0),(6,0),(7,0),(8,1),(9,0),(10,1),(11,0),(12,0),(13,0)] rfl mixed (by kernel_rfl) (by kernel_rfl) (by kernel_rfl) rfl (λw1 ae=>?_);replace k10:=k10.up ae;replace k11:=k11.up ae;replace hr:=hr.up ae;replace dX:=dX.up ae;refine QD ?_;rw [cU];focus repeat'(first|refine W1 ?_|refine J7 ?_|refine JD ?_|refine ZV ?_|refine ZH rfl (λa w h=>dP a w h) ?_|refine J8 ?_|refine J9 ?_|refine J1 rfl ?_|refine ZR rfl ?_|refine Zs ?_|refine Zl ?_|refine Zu rfl ?_|refine J0 ?_)
 refine Z3o rfl (λhc=>?_) (λhc=>?_);rw [if_pos hc] at aO;focus repeat'(first|refine W1 ?_|refine J7 ?_|refine JD ?_|refine ZV ?_|refine ZH rfl (λa w h=>dP a w h) ?_|refine J8 ?_|refine J9 ?_|refine J1 rfl ?_|refine ZR rfl ?_|refine Zs ?_|refine Zl ?_|refine Zu rfl ?_|refine J0 ?_)
 refine Z8 (Z3y (i:=M.length) (y':=(u.1,x.2)) (u:=.I x.2) rfl rfl rfl rfl rfl hr kO (by decide) (by rw [cU];rfl)) ?_;rintro _ Y5 ⟨nB,dR⟩;focus repeat'(first|refine W1 ?_|refine J7 ?_|refine JD ?_|refine ZV ?_|refine ZH rfl (λa w h=>dP a w h) ?_|refine J8 ?_|refine J9 ?_|refine J1 rfl ?_|refine ZR rfl ?_|refine Zs ?_|refine Zl ?_|refine Zu rfl ?_|refine J0 ?_)
 rw [show (M++[u]).set M.length (u.1,x.2)=M++[(u.1,x.2)] by simp] at nB;have ud:=(k8.up ae).ext dR lY;have ue:=(k9.up ae).ext dR lZ;have o9:=k10.ext dR fD;refine ⟨λa ha=>fin ov' Y5 (by rw [aO];exact ud) (by rw [aO];exact ue) o9 (by rw [aO];exact nB) (ae.mn.trans (dR.mono (λb hb=>by simp [hb]))) (λb hb=>.inl hb) a⟩;rw [if_neg hc] at aO;focus repeat'(first|refine W1 ?_|refine J7 ?_|refine JD ?_|refine ZV ?_|refine ZH rfl (λa w h=>dP a w h) ?_|refine J8 ?_|refine J9 ?_|refine J1 rfl ?_|refine ZR rfl ?_|refine Zs ?_|refine Zl ?_|refine Zu rfl ?_|refine J0 ?_)
 refine APG (X:=[]) (base:=w9.heap.size) x hr (by simp) (by have:=ae.size;omega) rfl (Xk (Xr _ (show (M++[u]).length+1<=1000 by omega)) (by decide)) (by simp only [maxLen];omega) λv1 nv Y4 da eI iI=>?_
 replace k10:=k10.ext eI fD;focus repeat'(first|refine W1 ?_|refine J7 ?_|refine JD ?_|refine ZV ?_|refine ZH rfl (λa w h=>dP a w h) ?_|refine J8 ?_|refine J9 ?_|refine J1 rfl ?_|refine ZR rfl ?_|refine Zs ?_|refine Zl ?_|refine Zu rfl ?_|refine J0 ?_)
 have dA:SlV [] Y4 nv (M++[u]++[x]):=da.slv (by simp);refine Z8 (Zf (u:=nv) rfl rfl dA.cells dA.one k10 (by simp)) ?_;rintro _ Y5 ⟨dR,k10⟩;focus repeat'(first|refine W1 ?_|refine J7 ?_|refine JD ?_|refine ZV ?_|refine ZH rfl (λa w h=>dP a w h) ?_|refine J8 ?_|refine J9 ?_|refine J1 rfl ?_|refine ZR rfl ?_|refine Zs ?_|refine Zl ?_|refine Zu rfl ?_|refine J0 ?_)
 exact ⟨λa ha=>app w1 ae aO nv Y4 Y5 da eI iI dR k10 a⟩;rintro D F Y ⟨⟨ov,rfl,k10,hr⟩,k8,k9,ar⟩ hD uf fb hF -;have ug:=hS.own ar (λb hb=>by simp at hb;rcases hb with rfl|rfl|rfl<;>exact .inr (by omega));have eC:(Z7V l sent).foldl (Z0g l crrs) ⟨Z1a l crrs (-1),true,[]⟩=Zfj l crrs sent:=rfl;rw [eC] at hr k9;refine ⟨λa ha=>(ZaW (ds:=[{ target:=.collected D,args:=#[] }]) (ZlS ?_)).h a ha⟩;refine Zff 4 [] [] [(0,1),(1,1),(2,0),(3,0)] rfl mixed (by kernel_rfl) (by kernel_rfl) (by kernel_rfl) (λw1 ae=>?_);replace k10:=k10.up ae;replace k9:=k9.up ae;replace hr:=hr.up ae;refine QD ?_;refine Zrd (ZaW (ZlT ?_));have ma:=(ae.block D (Xm.1 fb).1 (by simp)).trans fb;refine Zfl (D:=D) rfl rfl rfl ma (.mk ⟨ov,rfl,?_,?_⟩);exact (Row.slv (X:=[]) (Z9B hr (Z1E w1 D (.deferred none)) (λb hb h=>uf (by simp at hb;subst hb;simp [h]))) (by simp));exact ((ug.trans ae)).own (Z1E w1 D (.deferred none)) (λb hb=>.inr (by simp at hb;subst hb;have:=hS.size;omega))
theorem ZcN (lv cv:Value) (l:List Rtn) (crrs:List Crr) (sent:Int) (w) (hl:SlV [] w lv l) (hc:SlV [] w cv crrs) (ho:ZlW l crrs) (hs:0<=sent/\sent<=3652058) :
 CC 195 #[lv,cv,.I sent] w λv w'=>v=.tuple #[.I (Z9x l crrs sent).1,.B (Z9x l crrs sent).2]/\Stp [] w w':=by
 unfold Z9x;refine cW3 30 Tryz.func195 ?_;refine W ?_;refine CG (Zb3 lv cv l crrs sent w hl hc ho hs) ?_;rintro _ w1 ⟨ov,rfl,au,hS⟩;generalize Zfj l crrs sent=s at *;obtain ⟨least,never,out⟩:=s;dsimp only at au ⊢;have aW:=au.max;cases never with
 | true=>
   refine RT ?_;exact ⟨rfl,hS⟩
 | false=>
   rcases YaI out with rfl|⟨M,u,rfl⟩
   refine RT ?_;exact ⟨rfl,hS⟩;rw [YaJ] at *;have lQ:((M++[u]).length:Int) - 1=(M.length:Nat):=by simp
   have kO:M.length<(M++[u]).length:=by simp
   have cU:(M++[u])[M.length]=u:=by simp
   have fk:0<((M++[u]).length:Int):=by simp
   have uh:(M++[u]).getLast?=some u:=by simp
   rw [uh];refine QO ?_;rw [cU];refine RU ?_;exact ⟨rfl,hS⟩
theorem ZlY (a b:Svc) (w):CC 197 #[aG a,aG b] w λr w'=>r=.I (cmI a.day b.day)/\Stp [] w w':=by
 refine cW2 10 Tryz.func197 ?_;refine W ?_;refine BX (Stp.refl [] w) λb2 w1 h2 e2 _ hS=>?_;replace e2:Blk w1 b2 211 (Z2.enc a):=e2;refine BX hS λb3 w2 h3 e3 hT hS=>?_;replace e2:=e2.up hT;replace e3:Blk w2 b3 211 (Z2.enc b):=e3;refine W ?_;refine CP hS (Z3F _ _ _) λw3 _ hS=>?_;refine RT ?_;exact ⟨rfl,hS⟩
def Z1T (l:List Svc):Nat->Svc
 | 0=>l.getD 0 ⟨0,0,0⟩
 | k+1=>if (l.getD (k+1) ⟨0,0,0⟩).day<(Z1T l k).day then l.getD (k+1) ⟨0,0,0⟩ else Z1T l k
def Z3Z (l:List Svc):Svc×Bool:=if l=[] then (⟨0,0,0⟩,false) else (Z1T l (l.length - 1),true)
theorem ZiK (v:Value) (l:List Svc) (w) (hs:SlV [] w v l):CC 196 #[v,.func (.func 197) #[] #[]] w λr w'=>r=.tuple #[.agg (Z2.enc (Z3Z l).1).toArray,.B (Z3Z l).2]/\Stp [] w w':=by
 have aW:=hs.max;unfold Z3Z;refine cW2 31 Tryz.func196 ?_;refine W ?_;refine Z0 Z4 rfl ?_;rintro _ w1 ⟨b4,rfl,bE,e4,hS⟩;refine W ?_;refine Z0 Z4 rfl ?_;rintro _ w2 ⟨b6,rfl,eH,e6,hT⟩;have l4:=e4.lt;replace e4:=e4.up hT;have g6:w.heap.size<=b6:=Xk hS.size eH;replace hS:=hS.trans hT;clear hT;have n46:b4≠b6:=by omega
 replace e4:Blk w2 b4 211 (Z2.enc (⟨0,0,0⟩:Svc)):=e4;replace e6:Blk w2 b6 211 (Z2.enc (⟨0,0,0⟩:Svc)):=e6;have aO:=hs.up hS;have hz:((l.length:Int)=0)↔l=[]:=by simp
 (refine QP ?_ ?_<;>intro hc)
 obtain rfl:l=[]:=hz.1 (by assumption);refine SA (us:=Z2.enc (⟨0,0,0⟩:Svc)) e4 ?_;rintro _ w3 ⟨hT,e4⟩;refine W ?_;refine ZM rfl rfl rfl e4 rfl rfl ?_;exact .mk ⟨rfl,hS.ow hT⟩;have hn:l≠[]:=λh=>absurd (hz.2 h) (by assumption)
 have aZ:0<l.length:=Yaf.2 hn;rw [if_neg hn];refine QO ?_;refine SA (us:=Z2.enc l[0]) e6 ?_;rintro _ w3 ⟨hT,e6⟩;replace e4:=e4.ext hT (by simpa using n46);replace hS:=hS.ow hT;clear hT aO;have eh:=hs.up hS;refine QO ?_;have kR:=eh.slc (l:=1) (r:=l.length) aZ (Xq _);rw [Xs] at kR;refine Za (Z2r (l:=1) rfl eh rfl rfl aZ) rfl ?_;clear eh;obtain ⟨dv,pb⟩:∃ dv,dv=Eng.slc v 1 l.length 3:=⟨_,rfl⟩
 rw [<- pb];have ui:SlV [] w3 dv (l.drop 1):=pb ▸ kR;clear kR;have iW:(l.drop 1).length=l.length - 1:=by simp
 refine W ?_;have bz:=hS;refine LP (σ:=Nat) (λk=>[(1,.func (.func 197) #[] #[]),(4,pQ b4),(6,pQ b6),(17,dv),(18,.I (l.drop 1).length),(19,.I k)]) (λk w'=>k<=l.length - 1/\Stp [b6] w3 w'/\Stp [] w w'/\Blk w' b6 211 (Z2.enc (Z1T l k))/\Blk w' b4 211 (Z2.enc (⟨0,0,0⟩:Svc))) (λk=>l.length - 1 - k) 0 ⟨by omega,Stp.refl _ _,hS,by rw [Z1T,show l.getD 0 ⟨0,0,0⟩=l[0] by simp [aZ]];exact e6,e4⟩ ?_;clear e4 e6 hS;rintro k w4 ⟨hk,hT,hS,e6,e4⟩;by_cases hlt:k<(l.drop 1).length;have dy:SlV [] w4 dv (l.drop 1):=by
  have h:=(hs.up hS).slc (l:=1) (r:=l.length) aZ (Xq _);rw [Xs] at h;rw [pb];exact h
 have bp:k+1<l.length:=by omega
 have cU:(l.drop 1)[k]=l[k+1]:=by simp
 have hstep:Z1T l (k+1)=if l[k+1].day<(Z1T l k).day then l[k+1] else Z1T l k:=by rw [Z1T,show l.getD (k+1) ⟨0,0,0⟩=l[k+1] by simp [bp]]
 generalize Z1T l k=m at *;refine QO ?_;rw [cU];refine Z0 Z4 rfl ?_;rintro _ w5 ⟨b8,rfl,eZ,e8,hA⟩;refine SA (us:=Z2.enc l[k+1]) e8 ?_;rintro _ w6 ⟨cR,e8⟩;replace hA:=hA.ow cR;replace e4:=e4.up hA;replace e6:=e6.up hA;replace hS:=hS.trans hA;replace hT:=hT.trans hA.mn;clear hA cR dy;refine W ?_;refine CP hS (ZlY l[k+1] m _) λw7 hA hS=>?_;replace e4:=e4.up hA;replace e6:=e6.up hA;replace e8:=e8.up hA;replace hT:=hT.trans hA.mn;clear hA;have bC:cmI l[k+1].day m.day<0↔l[k+1].day<m.day:=by unfold cmI;split<;>(try split)<;>omega
 by_cases hc:l[k+1].day<m.day;rw [if_pos hc] at hstep;have hc':=bC.2 hc;refine QO ?_;refine SA (us:=Z2.enc l[k+1]) e6 ?_;rintro _ w8 ⟨hA,e6⟩;replace e4:=e4.ext hA (by simpa using n46);refine QO ?_;exact QL (k+1) ⟨by omega,hT.trans hA,hS.ow hA,by rw [hstep];exact e6,e4⟩ (by omega);rw [if_neg hc] at hstep;have hc':=λh=>hc (bC.1 h);refine QO ?_;exact QL (k+1) ⟨by omega,hT,hS,by rw [hstep];exact e6,e4⟩ (by omega);obtain rfl:k=l.length - 1:=by omega
 refine QO ?_;refine SA (us:=Z2.enc (Z1T l (l.length - 1))) e4 ?_;rintro _ w8 ⟨hA,e4⟩;refine QO ?_;refine ZM rfl rfl rfl e4 rfl rfl ?_;exact .mk ⟨rfl,hS.ow hA⟩
structure ZlZ (l:List Atp) (crrs:List Crr):Prop where
 len:l.length<=65536
 ret:∀ a∈l,ZlW a.rets crrs
 crr:∀ a∈l,0<=a.crr/\a.crr<crrs.length
 sent:∀ a∈l,0<=a.sent/\a.sent<=3652058
def svB (crrs:List Crr) (en pa:Int) (a:Atp):Bool:=decide (a.entry=en/\a.party=pa) && (Z9x a.rets crrs a.sent).2
def ofE (crrs:List Crr) (a:Atp) (k:Nat):Svc:=⟨(Z9x a.rets crrs a.sent).1,(crrs.getD a.crr.toNat ⟨0,0⟩).extra,k⟩
def ofG (l:List Atp) (crrs:List Crr) (en pa:Int):Nat->List Svc
 | 0=>[]
 | k+1=>ofG l crrs en pa k++if svB crrs en pa (l.getD k default)=true then [ofE crrs (l.getD k default) k] else []
def Z7a (l:List Atp) (crrs:List Crr) (en pa:Int):Svc×Bool:=Z3Z (ofG l crrs en pa l.length)
theorem Zee (l:List Atp) (crrs:List Crr) (en pa:Int):∀ k,(ofG l crrs en pa k).length<=k
 | 0=>by simp [ofG]
 | k + 1 => by
   have:=Zee l crrs en pa k;simp only [ofG,Xb];split<;>simp<;>omega
theorem ZiL (a b c:Int) (w):(Instr.build 211 #[(0,.I a),(1,.I b),(2,.I c)]).run Tryz.prog w=.ok (aG (⟨a,b,c⟩:Svc)) w:=by kernel_rfl
theorem Zre (lv cv:Value) (l:List Atp) (crrs:List Crr) (en pa:Int) (w) (hl:SlV [] w lv l) (j6:SlV [] w cv crrs) (ho:ZlZ l crrs) :
 CC 131 #[lv,.I en,.I pa,cv] w λr w'=>r=.tuple #[.agg (Z2.enc (Z7a l crrs en pa).1).toArray,.B (Z7a l crrs en pa).2]/\Stp [] w w':=by
 have ai:=ho.len;refine cW4 59 Tryz.func131 ?_;refine W ?_;refine Z0 Z4 rfl ?_;rintro _ w1 ⟨b8,rfl,eZ,e8,hS⟩;replace e8:Blk w1 b8 211 (Z2.enc (⟨0,0,0⟩:Svc)):=e8;have eR:=hl.up hS;refine W ?_;refine LP (σ:=Nat×Value) (λq=>[(1,.I en),(2,.I pa),(3,cv),(8,pQ b8),(10,q.2),(15,lv),(16,.I l.length),(17,.I q.1)]) (λq w'=>q.1<=l.length/\ZE 211 w1 w' q.2 (ofG l crrs en pa q.1)) (λq=>l.length - q.1) (0,.N) ⟨by omega,ZE.nil⟩ ?_;rintro ⟨k,rv⟩ w2 ⟨hk,hr⟩;dsimp only at hk hr ⊢;by_cases hlt:k<l.length
 . have dJ:=eR.up hr.2
   obtain ⟨cs,⟨tv,rfl,ht⟩,am⟩:=dJ.cell hlt;have hstep:ofG l crrs en pa (k+1)=ofG l crrs en pa k++if svB crrs en pa l[k]=true then [ofE crrs l[k] k] else []:=by rw [ofG,show l.getD k default=l[k] by simp [hlt]]
   have cK:=Zee l crrs en pa k;have j7:=ho.ret _ (Xc hlt);have ia:=ho.crr _ (Xc hlt);have cZ:=ho.sent _ (Xc hlt);refine QO ?_;refine Za (Z1C rfl rfl dJ hlt ⟨tv,rfl,ht⟩ am) rfl ?_;refine Z0 Z4 rfl ?_;rintro _ w3 ⟨b12,rfl,oQ,e12,hA⟩;refine W ?_;refine SB (us:=atC l[k] tv) (Z5.one (x:=l[k]) (w:=w2) (X:=[]) ⟨tv,rfl,ht⟩) e12 ?_;rintro _ w4 ⟨cR,e12⟩;replace hA:=hA.ow cR;replace hr:=hr.up hA;replace ht:=ht.up hA;clear hA cR dJ am;have fZ:SlV [] w4 cv crrs:=(j6.up hS).up hr.2;have skip:svB crrs en pa l[k]=false->ofG l crrs en pa (k+1)=ofG l crrs en pa k:=λh=>by rw [hstep,h,if_neg (by simp),XG]
   repeat'(first|refine W1 ?_|omega|refine VG ?_ ?_<;>intro hg|refine VC ?_ ?_<;>intro hc)
   all_goals try exact QL (k+1,rv) ⟨hlt,by rw [skip (by simp only [svB,Bool.and_eq_false_iff,decide_eq_false_iff_not];exact .inl (λh=>by omega))];exact hr⟩ (by dsimp only;omega)
   refine CP (Stp.refl [] w4) (ZcN tv cv l[k].rets crrs l[k].sent _ ht fZ j7 cZ) λw5 hA _=>?_;replace hr:=hr.up hA;replace e12:=e12.up hA;replace fZ:=fZ.up hA;clear hA ht;unfold svB at hstep skip;unfold ofE at hstep;generalize Z9x l[k].rets crrs l[k].sent=sv at *;obtain ⟨d,ok⟩:=sv;cases ok with
   | false=>
     dsimp only at skip ⊢;refine QO ?_;exact QL (k+1,rv) ⟨hlt,by rw [skip (by simp)];exact hr⟩ (by dsimp only;omega)
   | true=>
     rw [if_pos (by simp only [Bool.and_true,decide_eq_true_eq];constructor<;>omega)] at hstep;obtain ⟨j,hj⟩:∃ j:Nat,l[k].crr=j:=⟨l[k].crr.toNat,by omega⟩
     have dI:j<crrs.length:=by omega
     rw [hj,show crrs.getD ((j:Int).toNat) ⟨0,0⟩=crrs[j] by simp [dI]] at hstep;dsimp only at hstep ⊢;refine QO ?_;refine Zc (vs:=[(0,.I d),(1,.I crrs[j].extra),(2,.I k)]) rfl (ZiL _ _ _) rfl ?_;refine AP1 (⟨d,crrs[j].extra,k⟩:Svc) hr (by omega) λv1 v' w' bB _=>?_
     refine QO ?_;exact QL (k+1,v') ⟨hlt,by rw [hstep];exact bB⟩ (by dsimp only;omega)
 obtain rfl:k=l.length:=by omega
 have dX:SlV [] w2 rv (ofG l crrs en pa l.length):=hr.slv (by simp);replace e8:=e8.up hr.2;replace hS:=hS.trans hr.2;clear hr;unfold Z7a;refine QO ?_;refine CP hS (ZiK rv _ _ dX) λw3 hT hS=>?_;replace e8:=e8.up hT;refine W ?_;refine SA (us:=Z2.enc (Z3Z (ofG l crrs en pa l.length)).1) e8 ?_;rintro _ w4 ⟨hA,e8⟩;refine W ?_;refine ZM rfl rfl rfl e8 rfl rfl ?_;exact .mk ⟨rfl,hS.ow hA⟩
theorem ZiM (a b c:Int) (w):(Instr.build 104 #[(0,.I a),(1,.I b),(2,.I c)]).run Tryz.prog w=.ok (aG (⟨a,b,c⟩:Rsn)) w:=by kernel_rfl
structure Nte (w0:World) (bd:Nat) (w:World) (d:Dln) (rv:Value):Prop where
 blk:Blk w bd 70 (dlC d rv)
 row:Row [bd] w w0.heap.size 104 rv d.reas
 stp:Stp [bd] w0 w
 lt:bd<w0.heap.size
 len:d.reas.length<=100000
theorem Z2i (w0:World) (bd:Nat) (d:Dln) (rv:Value) (k a b:Int) (w) (h:Nte w0 bd w d rv) (hl:d.reas.length+1<=100000) :
 CC 135 #[.I k,.I a,.I b,pQ bd] w λr w'=>∃ rv',Nte w0 bd w' { d with reas:=d.reas++[⟨k,a,b⟩] } rv'/\Stp (bd :: ob rv) w w'/\∀ b∈ob rv',b∈ob rv\/w.heap.size<=b:=by
 obtain ⟨e3,hr,hS,hlt,ai⟩:=h;refine cW4 16 Tryz.func135 ?_;refine W ?_;refine Zc (vs:=[(0,.I k),(1,.I a),(2,.I b)]) rfl (ZiM _ _ _) rfl ?_;refine APR (X:=[bd]) (base:=w0.heap.size) (⟨k,a,b⟩:Rsn) hr (λc hc=>by have:=hS.size;simp at hc;omega) hS.size (by omega) λv1 v' w1 bB hT aN=>?_
 have e3':Blk w1 bd 70 (dlC d rv):=e3.ext hT (λhb=>by have:=(hr.ob_le bd hb).1;omega);refine W ?_;have au:SlV [bd] w1 v' (d.reas++[⟨k,a,b⟩]):=bB.slv (λc hc=>by simp at hc;omega);refine Z8 (Zf (u:=v') rfl rfl au.cells au.one e3' (by simp)) ?_;rintro _ w2 ⟨ax,e3''⟩;refine W ?_;refine WR ?_;refine .mk ⟨v',⟨e3'',bB.ext ax (λc hc=>?_) (λc hc=>.inl hc),?_,hlt,by simp;omega⟩,(hT.mono (λc hc=>by simp [hc])).trans ax.mn,aN⟩;simp only [Xn] at hc;subst hc;exact ⟨by simp,λh=>by have:=(bB.ob_le c h).1;omega⟩;refine (hS.own hT (λc hc=>.inr (hr.ob_le c hc).1)).trans ax
def Zfn (els:Str) (d:Dln):Fct:=⟨d.trig.entry,els,max d.due d.trig.day+1,d.trig.to_,d.trig.by_,d.trig.amt⟩
def Zb4 (c:Cas) (d:Dln) (r:Nat):Fct×Bool:=(Zfn (c.ruls.getD r crZ).els d,decide (d.stat=2/\(c.ruls.getD r crZ).els≠[]/\max d.due d.trig.day+1<=c.today))
theorem ZiN (a:Int) (s:Str) (b c d e:Int) (w):(Instr.build 24 #[(0,.I a),(1,str s),(2,.I b),(3,.I c),(4,.I d),(5,.I e)]).run Tryz.prog w=.ok (aG (⟨a,s,b,c,d,e⟩:Fct)) w:=by kernel_rfl
theorem Zb5 (c:Cas) (R:Z0C) (d:Dln) (dv:Value) (r:Nat) (w) (hs:SlV [] w R.rv c.ruls) (hd:SlV [] w dv d.reas) (hr:r<c.ruls.length) (hb:-1000000000<=d.due/\d.due<=1000000000/\-1000000000<=d.trig.day/\d.trig.day<=1000000000) :
 CC 89 #[.agg (Jq c R).toArray,.agg (dlC d dv).toArray,.I r] w λv w'=>v=.tuple #[.agg (Z2.enc (Zb4 c d r).1).toArray,.B (Zb4 c d r).2]/\Stp [] w w':=by
 unfold Zb4;rw [show c.ruls.getD r crZ=c.ruls[r] by simp [hr]];refine cW3 49 Tryz.func89 ?_;refine W ?_;refine BX (Stp.refl [] w) λb3 w1 h3 e3 _ hS=>?_;replace e3:Blk w1 b3 49 (Jq c R):=e3;refine BX hS λb4 w2 h4 e4 hT hS=>?_;replace e4:Blk w2 b4 70 (dlC d dv):=e4;replace e3:=e3.up hT;have l3:=e3.lt;have l4:=e4.lt;refine W ?_;refine Z0 Z4 rfl ?_;rintro _ w3 ⟨b6,rfl,eH,e6,hT⟩;have n36:b3≠b6:=by omega
 have n46:b4≠b6:=by omega
 have g6:w.heap.size<=b6:=Xk hS.size eH;replace e3:=e3.up hT;replace e4:=e4.up hT;replace hS:=hS.trans hT;clear hT;refine W ?_;refine Za (Zj (us:=Z2.enc d.trig) rfl rfl e4 rfl rfl) rfl ?_;refine Z0 Z4 rfl ?_;rintro _ w4 ⟨b8,rfl,eZ,e8,hT⟩;refine SA (us:=Z2.enc d.trig) e8 ?_;rintro _ w5 ⟨ax,e8⟩;replace hT:=hT.ow ax;replace e3:=e3.up hT;replace e4:=e4.up hT;have l6:=e6.lt;replace e6:=e6.up hT;replace hS:=hS.trans hT;have n68:b6≠b8:=λh=>by subst h;exact absurd l6 (Ya0.2 eZ)
 clear hT ax;refine W ?_;refine ZDr 23 [] [22] [(0,0),(1,1),(2,0),(3,1),(4,0),(5,0),(6,0),(7,1),(8,0),(9,1),(10,0),(11,1),(12,0),(13,0),(14,0),(15,1),(16,0),(17,1),(18,0),(19,1),(20,0),(21,2),(22,2)] (λw1 ae=>?_);replace e3:=e3.up ae;replace e4:=e4.up ae;replace e6:=e6.up ae;replace e8:=e8.up ae;replace hS:=hS.trans ae;clear ae;have dX:=hs.up hS;obtain ⟨cs,⟨kc,kd,rfl,-,-⟩,am⟩:=dX.cell hr;have hf:w1.cell? (ZB R.rv r 7 6)=some (str c.ruls[r].els):=am 6 _ rfl;repeat'(first|refine D1 ?_|omega|refine Z0d rfl (by first|exact trivial|exact rfl) rfl rfl (by assumption) rfl ?_|refine Zb rfl rfl rfl rfl (λhg=>?_) (λhg=>?_)|(refine Z7 rfl rfl rfl rfl (λhg=>?_) (λhg=>?_)<;>refine D1 ?_)|fail)
 refine Z2Y rfl trivial (vs:=[(0,.I d.trig.entry),(1,str c.ruls[r].els),(2,.I (max d.due d.trig.day+1)),(3,.I d.trig.to_),(4,.I d.trig.by_),(5,.I d.trig.amt)]) rfl (ZiN _ _ _ _ _ _) rfl ?_;refine Z9 rfl trivial Z4 (λ_ _ h=>h.choose_spec.2.2.2) rfl ?_;rintro _ w6 ⟨b9,rfl,gH,e9,hT⟩;refine Je rfl trivial (Zy (us:=Z2.enc (Zfn c.ruls[r].els d)) rfl rfl rfl rfl (Z2.one _) e9 rfl) rfl ?_;rintro _ w7 ⟨ax,e9⟩;replace hT:=hT.ow ax;have l6':=e6.lt;have n69:b6≠b9:=by omega
 replace e3:=e3.up hT;replace e4:=e4.up hT;replace e6:=e6.up hT;replace hS:=hS.trans hT;clear hT ax dX am hf e8;refine D ?_;refine W ?_;replace e9:Blk w7 b9 24 (Z2.enc (Zfn c.ruls[r].els d)):=e9;have cb:(Zfn c.ruls[r].els d).kind=c.ruls[r].els/\(Zfn c.ruls[r].els d).day=max d.due d.trig.day+1:=⟨rfl,rfl⟩
 obtain ⟨v1,v2⟩:=cb;generalize Zfn c.ruls[r].els d=F at *;rw [<- v1,<- v2];clear v1 v2;refine JG (σ:=Unit) (λ_=>[(6,pQ b6),(7,.B (decide (d.stat=2/\F.kind≠[]/\F.day<=c.today)))]) (λ_ w'=>Stp [] w w'/\Blk w' b6 24 (Z2.enc F)) ?_ ?_
 . refine ZDr 18 ([b6]) [] [(0,1),(1,0),(2,1),(3,0),(4,0),(5,0),(6,1),(7,0),(8,0),(9,0),(10,0),(11,1),(12,0),(13,1),(14,0),(15,0),(16,2),(17,0)] (λw1 ae=>?_)
   replace e3:=e3.up ae;replace e4:=e4.up ae;replace e6:=e6.up ae;replace e9:=e9.up ae;replace hS:=hS.trans ae;clear ae;repeat'(first|refine D1 ?_|omega|refine Zb rfl rfl rfl rfl (λhg=>?_) (λhg=>?_)|(refine Z7 rfl rfl rfl rfl (λhg=>?_) (λhg=>?_)<;>refine D1 ?_)|fail)
   all_goals
    refine Z1O rfl trivial (Zy (us:=Z2.enc F) rfl rfl rfl rfl (Z2.one _) e6 rfl) (λ_ _ h=>h.1) ?_;rintro _ wz ⟨hT,e6⟩;refine D ?_;refine Zw () ⟨rfl,?_,trivial⟩ ⟨hS.ow hT,e6⟩;show some (Value.bool _)=some (Value.bool _);congr 2
    first
     | (symm;exact decide_eq_false (λh=>by first|exact absurd h.1 (by assumption)|exact absurd h.2.1 (by assumption)))
     | (rw [decide_eq_decide];exact ⟨λh=>⟨by assumption,by assumption,h⟩,λh=>h.2.2⟩)
 rintro _ w8 ⟨hS,e6⟩;refine W ?_;refine ZM rfl rfl rfl e6 rfl rfl ?_;exact .mk ⟨rfl,hS⟩
def Res (K:MK) (w:World) (st:List Int) (sp:List Spn) (at_:Int) (r:Int×Int):Prop:=
 ∃ sv pv st2 sp2,Mch K w sv pv st2 sp2 at_ r.2 (decide (¬ r.2=0))/\(r.2=0->st2=st++[r.1]/\sp2=sp)
section
variable {K:MK} {w w':World} {sv pv:Value} {st:List Int} {sp:List Spn} {at_ er:Int} {dn:Bool}
abbrev mP (K:MK):Value:=.pointer (some ⟨K.bm,0,none⟩)
theorem Zb6 (hK:KOk K) {v:Int} (h:Mch K w sv pv (st++[v]) sp at_ er dn) :
 CC 200 #[mP K] w λr w'=>r=.I v/\(∃ sv',Mch K w' sv' pv st sp at_ er dn)/\Stp [K.bm] w w':=by
 have ab:=h.blk;have ac:=h.row;unfold Z4v at ab;have hs:=ac.slv (X:=[]) (by simp);have hz:((st++[v]).length:Int) - 1=(st.length:Int):=by simp
 have hi:st.length<(st++[v]).length:=by simp
 have hm:=hs.max;refine cW1 28 Tryz.func200 ?_;refine W ?_;refine Za (Z1t rfl hs rfl hz (by omega)) rfl ?_;refine W ?_;have hc:=ac.cut (r:=st.length) (by omega);rw [YbZ rfl] at hc;have h1:=hc.slv (X:=[]) (by simp);refine Z8 (Zf (u:=slc sv 0 st.length 1) rfl rfl h1.cells h1.one ab (by simp [evC,JO])) ?_;rintro _ w1 ⟨ae,cD⟩;refine RT ?_;exact ⟨by simp,⟨slc sv 0 st.length 1,h.stack hK (Stp.refl _ _) hc (λb hb=>.inl (by rw [<- Zhm sv st.length 1];exact hb)) ae cD⟩,ae⟩
theorem Z2F (hK:KOk K) {v:Int} (h:Mch K w sv pv (st++[v]) sp at_ er dn) :
 CC 200 #[mP K] w λr w'=>r=.I v/\∃ sv',Mch K w' sv' pv st sp at_ er dn:=
 Go.Eng.Calls.ret (Zb6 hK h) (λ_ _ h=>⟨h.1,h.2.1⟩)
theorem JM (hK:KOk K) {a b:Int} (h:Mch K w sv pv (st++[a,b]) sp at_ er dn) :
 CC 291 #[mP K] w λr w'=>r=.tuple #[.I a,.I b]/\∃ sv',Mch K w' sv' pv st sp at_ er dn:=by
 refine cW1 10 Tryz.func291 ?_;refine W ?_;refine CM (ZO rfl) (Z2F (st:=st++[a]) (v:=b) hK (by simpa using h)) ?_;rintro _ w1 ⟨rfl,sv1,h1⟩;refine W ?_;refine CL (Z2F hK h1) ?_;rintro _ w2 ⟨rfl,sv2,h2⟩;refine RT ?_;exact ⟨rfl,sv2,h2⟩
theorem Z02 (hK:KOk K) (h:Mch K w sv pv st sp at_ 0 false) (hl:st.length<=100000) (n e:Int) :
 CC 290 #[mP K,.I n,.I e] w λr w'=>r=.tuple #[]/\Res K w' st sp at_ (n,e):=by
 refine Go.Eng.Calls.ret (Zio hK h n e hl) ?_;rintro v w' ⟨rfl,sv',h1⟩;refine ⟨rfl,sv',pv,if e=0 then st++[n] else st,sp,?_,λhe=>⟨if_pos he,rfl⟩⟩;by_cases he:e=0;subst he;simpa using h1;simpa [he] using h1
theorem Zef (hK:KOk K) (h:Mch K w sv pv st sp at_ 0 false) (hl:st.length<=100000) (n a b:Int) :
 CC 319 #[mP K,.I n,.I a,.I b] w λr w'=>r=.tuple #[]/\Res K w' st sp at_ (if n<a\/b<n then (0,5) else (n,0)):=by
 refine cW4 21 Tryz.func319 ?_;by_cases hc:n<a\/b<n
 . rw [if_pos hc]
   repeat'(first|refine W1 ?_|omega|refine VG ?_ ?_<;>intro hg|refine VC ?_ ?_<;>intro hc)
   all_goals
    refine CL (Z02 hK h hl 0 5) ?_;rintro _ w1 ⟨rfl,h1⟩;refine RT ?_;exact ⟨rfl,h1⟩
 rw [if_neg hc];refine QO ?_;refine CL (Z02 hK h hl n 0) ?_;rintro _ w1 ⟨rfl,h1⟩;refine RT ?_;exact ⟨rfl,h1⟩
theorem Z4A (hK:KOk K) (h:Mch K w sv pv st sp at_ 0 false) (hl:st.length<=100000) (n:Int) :
 CC 292 #[mP K,.I n] w λr w'=>r=.tuple #[]/\Res K w' st sp at_ (Z3R n):=by
 refine cW2 7 Tryz.func292 ?_;refine W ?_;refine CL (Zef hK h hl n _ _) ?_;rintro _ w1 ⟨rfl,h1⟩;refine RT ?_;exact ⟨rfl,h1⟩
theorem ZuM (hK:KOk K) (h:Mch K w sv pv st sp at_ 0 false) (hl:st.length<=100000) (n:Int) :
 CC 294 #[mP K,.I n] w λr w'=>r=.tuple #[]/\Res K w' st sp at_ (ZaI n):=by
 refine cW2 7 Tryz.func294 ?_;refine W ?_;refine CL (Zef hK h hl n _ _) ?_;rintro _ w1 ⟨rfl,h1⟩;refine RT ?_;exact ⟨rfl,h1⟩
theorem Z9C (hK:KOk K) (h:Mch K w sv pv st sp at_ 0 false) (hl:st.length<=100000) (b:Bool) :
 CC 293 #[mP K,.B b] w λr w'=>r=.tuple #[]/\Res K w' st sp at_ (Z3h b,0):=by
 refine cW2 9 Tryz.func293 ?_;cases b;refine W ?_;refine CL (Z02 hK h hl 0 0) ?_;rintro _ w1 ⟨rfl,h1⟩;refine RT ?_;exact ⟨rfl,h1⟩;refine W ?_;refine CL (Z02 hK h hl 1 0) ?_;rintro _ w1 ⟨rfl,h1⟩;refine RT ?_;exact ⟨rfl,h1⟩
theorem Zrf (hK:KOk K) (h:Mch K w sv pv st sp at_ 0 false) (hl:st.length<=100000) (n:Int) :
 CC 241 #[mP K,.I n] w λr w'=>r=.tuple #[]/\Res K w' st sp at_ (n,0):=by
 refine cW2 7 Tryz.func241 ?_;refine W ?_;refine CL (Z02 hK h hl n 0) ?_;rintro _ w1 ⟨rfl,h1⟩;refine RT ?_;exact ⟨rfl,h1⟩
theorem ZvG (hK:KOk K) {a b:Int} (h:Mch K w sv pv (st++[a,b]) sp at_ 0 false) (hl:st.length<=100000) (n:Int) (hr:I64 (a+b)) :
 CC 243 #[mP K,.I n] w λr w'=>r=.tuple #[]/\Res K w' st sp at_ (Z3R (a+b)):=by
 try unfold I64 at hr
 refine cW2 16 Tryz.func243 ?_;refine W ?_;refine CL (JM hK h) ?_;rintro _ w1 ⟨rfl,sv1,h1⟩;refine W ?_;refine CL (Z4A hK h1 hl _) ?_;rintro _ w2 ⟨rfl,h2⟩;refine RT ?_;exact ⟨rfl,h2⟩
theorem ZvH (hK:KOk K) {a b:Int} (h:Mch K w sv pv (st++[a,b]) sp at_ 0 false) (hl:st.length<=100000) (n:Int) (hr:I64 (a - b)) :
 CC 244 #[mP K,.I n] w λr w'=>r=.tuple #[]/\Res K w' st sp at_ (Z3R (a - b)):=by
 try unfold I64 at hr
 refine cW2 16 Tryz.func244 ?_;refine W ?_;refine CL (JM hK h) ?_;rintro _ w1 ⟨rfl,sv1,h1⟩;refine W ?_;refine CL (Z4A hK h1 hl _) ?_;rintro _ w2 ⟨rfl,h2⟩;refine RT ?_;exact ⟨rfl,h2⟩
theorem ZvI (hK:KOk K) {a b:Int} (h:Mch K w sv pv (st++[a,b]) sp at_ 0 false) (hl:st.length<=100000) (n:Int) (hr:I64 (a * b)) :
 CC 245 #[mP K,.I n] w λr w'=>r=.tuple #[]/\Res K w' st sp at_ (Z3R (a * b)):=by
 try unfold I64 at hr
 refine cW2 16 Tryz.func245 ?_;refine W ?_;refine CL (JM hK h) ?_;rintro _ w1 ⟨rfl,sv1,h1⟩;refine W ?_;refine CL (Z4A hK h1 hl _) ?_;rintro _ w2 ⟨rfl,h2⟩;refine RT ?_;exact ⟨rfl,h2⟩
theorem ltV (hK:KOk K) {a b:Int} (h:Mch K w sv pv (st++[a,b]) sp at_ 0 false) (hl:st.length<=100000) (n:Int) (hr:True) :
 CC 247 #[mP K,.I n] w λr w'=>r=.tuple #[]/\Res K w' st sp at_ ((Z3h (decide (a<b)),0)):=by
 try unfold I64 at hr
 refine cW2 16 Tryz.func247 ?_;refine W ?_;refine CL (JM hK h) ?_;rintro _ w1 ⟨rfl,sv1,h1⟩;refine W ?_;refine CL (Z9C hK h1 hl _) ?_;rintro _ w2 ⟨rfl,h2⟩;refine RT ?_;exact ⟨rfl,h2⟩
theorem leV (hK:KOk K) {a b:Int} (h:Mch K w sv pv (st++[a,b]) sp at_ 0 false) (hl:st.length<=100000) (n:Int) (hr:True) :
 CC 248 #[mP K,.I n] w λr w'=>r=.tuple #[]/\Res K w' st sp at_ ((Z3h (decide (a<=b)),0)):=by
 try unfold I64 at hr
 refine cW2 16 Tryz.func248 ?_;refine W ?_;refine CL (JM hK h) ?_;rintro _ w1 ⟨rfl,sv1,h1⟩;refine W ?_;refine CL (Z9C hK h1 hl _) ?_;rintro _ w2 ⟨rfl,h2⟩;refine RT ?_;exact ⟨rfl,h2⟩
theorem eqV (hK:KOk K) {a b:Int} (h:Mch K w sv pv (st++[a,b]) sp at_ 0 false) (hl:st.length<=100000) (n:Int) (hr:True) :
 CC 249 #[mP K,.I n] w λr w'=>r=.tuple #[]/\Res K w' st sp at_ ((Z3h (decide (a=b)),0)):=by
 try unfold I64 at hr
 refine cW2 16 Tryz.func249 ?_;refine W ?_;refine CL (JM hK h) ?_;rintro _ w1 ⟨rfl,sv1,h1⟩;refine W ?_;refine CL (Z9C hK h1 hl _) ?_;rintro _ w2 ⟨rfl,h2⟩;refine RT ?_;exact ⟨rfl,h2⟩
theorem ZuN (hK:KOk K) {a b:Int} (h:Mch K w sv pv (st++[a,b]) sp at_ 0 false) (hl:st.length<=100000) (n:Int) (hr:I64 (a+b)) :
 CC 253 #[mP K,.I n] w λr w'=>r=.tuple #[]/\Res K w' st sp at_ (ZaI (a+b)):=by
 try unfold I64 at hr
 refine cW2 16 Tryz.func253 ?_;refine W ?_;refine CL (JM hK h) ?_;rintro _ w1 ⟨rfl,sv1,h1⟩;refine W ?_;refine CL (ZuM hK h1 hl _) ?_;rintro _ w2 ⟨rfl,h2⟩;refine RT ?_;exact ⟨rfl,h2⟩
theorem Zrg (hK:KOk K) {a b:Int} (h:Mch K w sv pv (st++[a,b]) sp at_ 0 false) (hl:st.length<=100000) (n:Int) (hr:I64 (7 * b)/\I64 (a+7 * b)) :
 CC 254 #[mP K,.I n] w λr w'=>r=.tuple #[]/\Res K w' st sp at_ (ZaI (a+7 * b)):=by
 try unfold I64 at hr
 refine cW2 17 Tryz.func254 ?_;refine W ?_;refine CL (JM hK h) ?_;rintro _ w1 ⟨rfl,sv1,h1⟩;refine W ?_;refine CL (ZuM hK h1 hl _) ?_;rintro _ w2 ⟨rfl,h2⟩;refine RT ?_;exact ⟨rfl,h2⟩
theorem Zrh (hK:KOk K) {a b:Int} (h:Mch K w sv pv (st++[a,b]) sp at_ 0 false) (hl:st.length<=100000) (n:Int) (hr:True) :
 CC 259 #[mP K,.I n] w λr w'=>r=.tuple #[]/\Res K w' st sp at_ ((max a b,0)):=by
 try unfold I64 at hr
 refine cW2 16 Tryz.func259 ?_;refine W ?_;refine CL (JM hK h) ?_;rintro _ w1 ⟨rfl,sv1,h1⟩;refine W ?_;refine CL (Z02 hK h1 hl _ 0) ?_;rintro _ w2 ⟨rfl,h2⟩;refine RT ?_;exact ⟨rfl,h2⟩
theorem ZiO (hK:KOk K) {a b:Int} (h:Mch K w sv pv (st++[a,b]) sp at_ 0 false) (hl:st.length<=100000) (n:Int) (hr:True) :
 CC 260 #[mP K,.I n] w λr w'=>r=.tuple #[]/\Res K w' st sp at_ ((min a b,0)):=by
 try unfold I64 at hr
 refine cW2 16 Tryz.func260 ?_;refine W ?_;refine CL (JM hK h) ?_;rintro _ w1 ⟨rfl,sv1,h1⟩;refine W ?_;refine CL (Z02 hK h1 hl _ 0) ?_;rintro _ w2 ⟨rfl,h2⟩;refine RT ?_;exact ⟨rfl,h2⟩
theorem ZiP (hK:KOk K) {a b:Int} (h:Mch K w sv pv (st++[a,b]) sp at_ 0 false) (hl:st.length<=100000) (n:Int) (hr:I64 (b - a)) :
 CC 261 #[mP K,.I n] w λr w'=>r=.tuple #[]/\Res K w' st sp at_ (Z3R (b - a)):=by
 try unfold I64 at hr
 refine cW2 16 Tryz.func261 ?_;refine W ?_;refine CL (JM hK h) ?_;rintro _ w1 ⟨rfl,sv1,h1⟩;refine W ?_;refine CL (Z4A hK h1 hl _) ?_;rintro _ w2 ⟨rfl,h2⟩;refine RT ?_;exact ⟨rfl,h2⟩
end
section
variable {K:MK} {w w':World} {sv pv:Value} {st:List Int} {sp:List Spn} {at_ er:Int} {dn:Bool}
theorem ZvJ (hK:KOk K) {b:Int} (h:Mch K w sv pv (st++[b]) sp at_ 0 false) (hl:st.length<=100000) (n:Int) (hr:I64 (-b)) :
 CC 246 #[mP K,.I n] w λr w'=>r=.tuple #[]/\Res K w' st sp at_ (Z3R (-b)):=by
 unfold I64 at hr;refine cW2 9 Tryz.func246 ?_;refine W ?_;refine CL (Z2F hK h) ?_;rintro _ w1 ⟨rfl,sv1,h1⟩;refine W ?_;refine CL (Z4A hK h1 hl _) ?_;rintro _ w2 ⟨rfl,h2⟩;refine RT ?_;exact ⟨rfl,h2⟩
theorem ZvK (hK:KOk K) {b:Int} (h:Mch K w sv pv (st++[b]) sp at_ 0 false) (hl:st.length<=100000) (n:Int) :
 CC 250 #[mP K,.I n] w λr w'=>r=.tuple #[]/\Res K w' st sp at_ (Z3h (decide (b=0)),0):=by
 refine cW2 9 Tryz.func250 ?_;refine W ?_;refine CL (Z2F hK h) ?_;rintro _ w1 ⟨rfl,sv1,h1⟩;refine W ?_;refine CL (Z9C hK h1 hl _) ?_;rintro _ w2 ⟨rfl,h2⟩;refine RT ?_;exact ⟨rfl,h2⟩
theorem ZuO (hK:KOk K) (h:Mch K w sv pv st sp at_ er dn) (n:Int) :
 CC 251 #[mP K,.I n] w λr w'=>r=.tuple #[]/\Mch K w' sv pv st sp n er dn:=by
 have ab:=h.blk;unfold Z4v at ab;refine cW2 8 Tryz.func251 ?_;refine W ?_;refine Z8 (Zf (u:=.I n) rfl rfl rfl rfl ab (by simp [evC,JO])) ?_;rintro _ w1 ⟨ae,cD⟩;refine RT ?_;exact ⟨rfl,h.put hK ae cD⟩
theorem ZuP (hK:KOk K) (h:Mch K w sv pv st sp at_ er dn) (n:Int) :
 CC 262 #[mP K,.I n] w λr w'=>r=.tuple #[]/\Mch K w' sv pv st sp at_ er true:=by
 have ab:=h.blk;unfold Z4v at ab;refine cW2 7 Tryz.func262 ?_;refine W ?_;refine Z8 (Zf (u:=.B true) rfl rfl rfl rfl ab (by simp [evC,JO])) ?_;rintro _ w1 ⟨ae,cD⟩;refine RT ?_;exact ⟨rfl,h.put hK ae cD⟩
theorem Zm0 (hK:KOk K) {b:Int} (h:Mch K w sv pv (st++[b]) sp at_ er dn) (n:Int) :
 CC 252 #[mP K,.I n] w λr w'=>r=.tuple #[]/\∃ sv',Mch K w' sv' pv st sp (if b=0 then n else at_) er dn:=by
 refine cW2 11 Tryz.func252 ?_;refine W ?_;refine CL (Z2F hK h) ?_;rintro _ w1 ⟨rfl,sv1,h1⟩;have ab:=h1.blk;unfold Z4v at ab;by_cases hb:b=0;rw [if_pos hb];refine QO ?_;refine Z8 (Zf (u:=.I n) rfl rfl rfl rfl ab (by simp [evC,JO])) ?_;rintro _ w2 ⟨ae,cD⟩;refine RT ?_;exact ⟨rfl,sv1,h1.put hK ae cD⟩;rw [if_neg hb];refine RT ?_;exact ⟨rfl,sv1,h1⟩
theorem Zm1 (a b c d e f g:Int) (w):(Instr.build 340 #[(0,.I a),(1,.I b),(2,.I c),(3,.I d),(4,.I e),(5,.I f),(6,.I g)]).run Tryz.prog w=.ok (.agg #[.I a,.I b,.I c,.I d,.I e,.I f,.I g]) w:=by kernel_rfl
theorem fieldV (hK:KOk K) (h:Mch K w sv pv st sp at_ 0 false) (hl:st.length<=100000) (n:Int) (h0:0<=n) (h7:n<7) :
 CC 242 #[mP K,.I n] w λr w'=>r=.tuple #[]/\Res K w' st sp at_ (ZcD K.ev n):=by
 have ab:=h.blk;unfold Z4v evC JO at ab;have qL:=hK.bml;have cb:=hK.ev.served;refine cW2 56 Tryz.func242 ?_;refine W ?_;refine ZDr 38 [] [37] [(0,0),(1,0),(2,0),(3,0),(4,1),(5,0),(6,0),(7,0),(8,0),(9,1),(10,0),(11,0),(12,0),(13,0),(14,1),(15,0),(16,0),(17,0),(18,0),(19,1),(20,0),(21,0),(22,0),(23,0),(24,1),(25,0),(26,0),(27,0),(28,0),(29,1),(30,0),(31,0),(32,0),(33,0),(34,1),(35,0),(36,2),(37,2)] (λw1 ae=>?_);replace h:=h.up ae;replace ab:=ab.up ae;refine D ?_;refine Z2Y rfl trivial rfl (Zm1 _ _ _ _ _ _ _) rfl ?_;refine Z9 rfl trivial Z4 (λ_ _ ⟨_,_,_,_,h⟩=>h) rfl ?_;rintro _ w2 ⟨b2,rfl,cJ,e2,ak⟩;refine Je rfl trivial (Zy (us:=evC K.ev) rfl rfl rfl rfl (by intro u hu;simp [evC] at hu;rcases hu with rfl|rfl|rfl|rfl|rfl|rfl|rfl<;>rfl) e2 rfl) rfl ?_;rintro _ w3 ⟨hT,e3⟩;have az:=ak.ow hT;replace h:=h.up az;unfold evC at e3;refine D ?_;clear ab ae e2 hT ak az;have fin:∀ (v e:Int),(v,e)=ZcD K.ev n->∀ w',Res K w' st sp at_ (v,e)->Ret (λr w'=>r=.tuple #[]/\Res K w' st sp at_ (ZcD K.ev n)) (.returned (.tuple #[])) w':=by
  intro v e he w' hr;rw [<- he];exact .mk ⟨rfl,hr⟩
 have hn:n=0\/n=1\/n=2\/n=3\/n=4\/n=5\/n=6:=by omega
 rcases hn with rfl|rfl|rfl|rfl|rfl|rfl|rfl
 case inr.inl=>
  by_cases hs:K.ev.getD 1 0<0;refine QO ?_;focus repeat'(first|refine W1 ?_|omega|refine VG ?_ ?_<;>intro hg|refine VC ?_ ?_<;>intro hc)
  refine CL (Z02 hK h hl 0 32) ?_;rintro _ w4 ⟨rfl,h1⟩;refine W ?_;refine WR ?_;refine fin _ _ ?_ _ h1;unfold ZcD;rw [if_pos ⟨rfl,by omega⟩];refine QO ?_;focus repeat'(first|refine W1 ?_|omega|refine VG ?_ ?_<;>intro hg|refine VC ?_ ?_<;>intro hc)
  focus repeat'(first|refine W1 ?_|omega|refine VG ?_ ?_<;>intro hg|refine VC ?_ ?_<;>intro hc)
  refine CL (Z02 hK h hl _ 0) ?_;rintro _ w4 ⟨rfl,h1⟩;refine W ?_;refine WR ?_;refine fin _ _ ?_ _ h1;unfold ZcD;rw [if_neg (by rintro ⟨-,h⟩;omega)];rfl
 case inl=>
  refine QO ?_;repeat'(first|refine W1 ?_|omega|refine VG ?_ ?_<;>intro hg|refine VC ?_ ?_<;>intro hc)
  refine CL (Z02 hK h hl _ 0) ?_;rintro _ w4 ⟨rfl,h1⟩;refine W ?_;refine WR ?_;exact fin _ _ rfl _ h1
 case inr.inr.inl=>
  refine QO ?_;repeat'(first|refine W1 ?_|omega|refine VG ?_ ?_<;>intro hg|refine VC ?_ ?_<;>intro hc)
  refine CL (Z02 hK h hl _ 0) ?_;rintro _ w4 ⟨rfl,h1⟩;refine W ?_;refine WR ?_;exact fin _ _ rfl _ h1
 case inr.inr.inr.inl=>
  refine QO ?_;refine Z2u (len:=7) (i:=3) rfl rfl rfl (by decide) rfl ?_;refine QO ?_;refine CL (Z02 hK h hl _ 0) ?_;rintro _ w4 ⟨rfl,h1⟩;refine W ?_;refine WR ?_;exact fin _ _ rfl _ h1
 case inr.inr.inr.inr.inl=>
  refine QO ?_;refine Z2u (len:=7) (i:=4) rfl rfl rfl (by decide) rfl ?_;refine QO ?_;refine CL (Z02 hK h hl _ 0) ?_;rintro _ w4 ⟨rfl,h1⟩;refine W ?_;refine WR ?_;exact fin _ _ rfl _ h1
 case inr.inr.inr.inr.inr.inl=>
  refine QO ?_;refine Z2u (len:=7) (i:=5) rfl rfl rfl (by decide) rfl ?_;refine QO ?_;refine CL (Z02 hK h hl _ 0) ?_;rintro _ w4 ⟨rfl,h1⟩;refine W ?_;refine WR ?_;exact fin _ _ rfl _ h1
 case inr.inr.inr.inr.inr.inr=>
  refine QO ?_;refine Z2u (len:=7) (i:=6) rfl rfl rfl (by decide) rfl ?_;refine QO ?_;refine CL (Z02 hK h hl _ 0) ?_;rintro _ w4 ⟨rfl,h1⟩;refine W ?_;refine WR ?_;exact fin _ _ rfl _ h1
end
def Zm2 {α:Type} [Z2 α] (P:Program) (S:List Nat) (g:Nat) (lb:Array Value) (c:α->α->Int) (w:World):Prop:=
 ∀ (x y:α) (w':World),Stp S w w'->Calls P g (#[agg x,agg y]++lb) w' (Ret λv w''=>v=.I (c x y)/\Stp [] w' w'')
theorem Zeg (x:Int) (w):CC 86 #[.I x] w λv w'=>v=.B false/\Stp [] w w':=by
 refine cW1 6 Tryz.func86 ?_;repeat'(first|(apply Z3z;exact rfl;exact rfl)|apply Z51|(apply Z6i;exact rfl;exact rfl)|(apply Zr1;exact rfl;exact rfl;exact rfl)|(apply Zl4;exact rfl;exact rfl;exact rfl)|apply Z43|apply Z1o|apply Z6x|refine Z3x ?_|refine Z0V ?_)
 refine RU ?_;exact ⟨by simp,Stp.refl _ _⟩
def ZiQ (x y:Int):Int:=if x<y then -1 else if x > y then 1 else 0
theorem Zb7 (x y:Int) (w):CC 49 #[.I x,.I y] w λv w'=>v=.I (ZiQ x y)/\Stp [] w w':=by
 refine cW2 20 Tryz.func49 ?_;repeat'(first|(apply Z3z;exact rfl;exact rfl)|apply Z51|(apply Z6i;exact rfl;exact rfl)|(apply Zc1;exact rfl;exact rfl;exact rfl)|(apply Zc2;exact rfl;exact rfl;exact rfl)|apply Z43|apply Z1o|apply Z6g|apply Z6x|(apply Z1f;exact rfl)|(apply Z0N;exact rfl)|refine Z3x ?_|refine Z0V ?_)
 refine CL (Zeg _ _) ?_;rintro _ w1 ⟨rfl,hS⟩;repeat'(first|(apply Z3z;exact rfl;exact rfl)|apply Z51|(apply Z6i;exact rfl;exact rfl)|(apply Zc1;exact rfl;exact rfl;exact rfl)|(apply Zc2;exact rfl;exact rfl;exact rfl)|apply Z43|apply Z1o|apply Z6g|apply Z6x|(apply Z1f;exact rfl)|(apply Z0N;exact rfl)|refine Z3x ?_|refine Z0V ?_)
 refine CL (Zeg _ _) ?_;rintro _ w2 ⟨rfl,ak⟩;replace hS:=hS.trans ak;repeat'(first|(apply Z3z;exact rfl;exact rfl)|apply Z51|(apply Z6i;exact rfl;exact rfl)|(apply Zc1;exact rfl;exact rfl;exact rfl)|(apply Zc2;exact rfl;exact rfl;exact rfl)|apply Z43|apply Z1o|apply Z6g|apply Z6x|(apply Z1f;exact rfl)|(apply Z0N;exact rfl)|refine Z3x ?_|refine Z0V ?_|refine Z8P rfl (λhc=>?_) (λhc=>?_)|refine Za1 rfl (λhc=>?_) (λhc=>?_))
 all_goals (refine WR ?_)
 all_goals exact .mk ⟨by unfold ZiQ;(first|(simp_all;done)|(rw [if_neg (by omega),if_neg (by omega)])),hS⟩
def put {α:Type} (pre rest:List α) (x:α) (j:Nat):List α:=pre.take j++x :: pre.drop j++rest
theorem ZiR {α:Type} {pre rest:List α} {x:α} {j:Nat} (hj:j<pre.length):((put pre rest x (j+1)).set (j+1) pre[j]).set j x=put pre rest x j:=by
 have h1:pre.take (j+1)=pre.take j++[pre[j]]:=Xj hj;have h2:pre.drop j=pre[j] :: pre.drop (j+1):=Yat hj;have hl:(pre.take j).length=j:=by simp;omega
 unfold put;rw [h1,h2];simp only [XI,Yab,XW];rw [YbX,if_neg (by omega),hl,show j+1 - j=1 by omega];rw [YbX,if_neg (by omega),hl,Nat.sub_self];rfl
theorem Zri {α:Type} {pre rest:List α} {x:α} {j:Nat} (hj:j<=pre.length) (h:j<(put pre rest x j).length):(put pre rest x j)[j]=x:=by
 rw [List.getElem_eq_iff];unfold put;rw [Yaq (by simp;omega),YaT (by simp;omega)];simp [Yap hj]
theorem ZcO {α:Type} {pre rest:List α} {x:α} {j:Nat} (hj:j<pre.length) (h:j<(put pre rest x (j+1)).length):(put pre rest x (j+1))[j]=pre[j]:=by
 rw [List.getElem_eq_iff];unfold put;rw [Yaq (by simp;omega),Yaq (by simp;omega)];simp [hj]
theorem Z9D {α:Type} {pre rest:List α} {x:α} {j:Nat}:(put pre rest x j).length=pre.length+1+rest.length:=by
 have:=congrArg List.length (XN j pre);simp only [Xb] at this;simp only [put,Xb,Xf];omega
def Z8u {α:Type} (c:α->α->Int) (xs ys:List α):Prop:=ys.Perm xs/\ys.Pairwise (λa b=>¬ c b a<0)
structure Ord {α:Type} (c:α->α->Int):Prop where
 asym:∀ a b,c a b<0->¬ c b a<0
 trans:∀ a b d,¬ c b a<0->¬ c d b<0->¬ c d a<0
theorem ZcP {α:Type} {c:α->α->Int} (ho:Ord c) {pre:List α} {x:α} {j:Nat} (hj:j<=pre.length) (hp:pre.Pairwise (λa b=>¬ c b a<0))
 (h1:∀ q (h:q<pre.length),j<=q->c x pre[q]<0) (h2:∀ h:j - 1<pre.length,0<j->¬ c x pre[j - 1]<0):(pre.take j++x :: pre.drop j).Pairwise (λa b=>¬ c b a<0):=by
 rw [Ybg];have hd:∀ a∈pre.drop j,c x a<0:=by
  intro a ha;obtain ⟨m,hm,rfl⟩:=Xv ha;simp only [List.getElem_drop];simp at hm;exact h1 _ _ (by omega)
 have ht:∀ a∈pre.take j,¬ c x a<0:=by
  intro a ha;obtain ⟨m,hm,rfl⟩:=Xv ha;simp only [Xz] at hm;simp only [List.getElem_take];by_cases e:m=j - 1;subst e;exact h2 (by omega) (by omega);exact ho.trans _ _ _ (XZ.1 hp m (j - 1) (by omega) (by omega) (by omega)) (h2 (by omega) (by omega))
 refine ⟨hp.sublist (List.take_sublist _ _),?_,?_⟩;rw [XU];exact ⟨λa ha=>ho.asym _ _ (hd a ha),hp.sublist (List.drop_sublist _ _)⟩;intro a ha b hb;rcases Xa.1 hb with rfl|hb
 exact ht a ha;exact λh=>by
  have h3:=hd b hb;exact ho.trans a x b (ht a ha) (ho.asym _ _ h3) h
theorem Z4B (x y:Int):ZiQ x y<0↔x<y:=by unfold ZiQ;split<;>(try split)<;>omega
def Z1U (y:Nat):Nat:=
 let a:=y % 19
 let b:=y / 100
 let c:=y % 100
 let g:=(b - (b+8) / 25+1) / 3
 let h:=(19 * a+b - b / 4 - g+15) % 30
 let l:=(32+2 * (b % 4)+2 * (c / 4) - h - c % 4) % 7
 h+l+114 - 7 * ((a+11 * h+22 * l) / 451)
def ZuQ (y:Nat):Nat:=(11 * (y % 19+1)+20+((8 * (y / 100+1)+5) / 25 - 5)+60 - (3 * (y / 100+1) / 4 - 12)) % 30
def ZuR (e g:Nat):Nat:=bif Nat.beq e 24 || (Nat.beq e 25 && Nat.blt 11 g) then e+1 else e
def ZuS (e d:Nat):Nat:=let n:=(bif Nat.blt (44 - e) 21 then 44 - e+30 else 44 - e);n+7 - (d+n) % 7
def ZiS (y:Nat):Nat:=ZuS (ZuR (ZuQ y) (y % 19+1)) (5 * y / 4 - (3 * (y / 100+1) / 4 - 12) - 10)
def Zeh (y:Nat):Bool:=Nat.beq (Z1U y) (ZiS y+92) && (Nat.ble 114 (Z1U y) && Nat.ble (Z1U y) 148)
def Zfo:Nat->Nat->Bool
 | 0,lo=>Zeh lo
 | k+1,lo=>Zfo k lo && Zfo k (lo+2 ^ k)
theorem Z3I:∀ (k lo d:Nat),Zfo k lo=true->lo<=d->d<lo+2 ^ k->Zeh d=true
 | 0, lo, d, h, h1, h2 => by
   have:d=lo:=by simp at h2;omega
   subst this;exact h
 | k + 1, lo, d, h, h1, h2 => by
   simp only [Zfo,Xd] at h;rcases YbG d (lo+2 ^ k) with h3|h3
   exact Z3I k lo d h.1 h1 h3;exact Z3I k _ d h.2 h3 (by rw [YbH] at h2;omega)
theorem Zfp:Zfo 13 1583=true:=by kernel_rfl
theorem Zfq:Zfo 8 9775=true:=by kernel_rfl
theorem Zm3 {y:Nat} (h1:1583<=y) (h2:y<=9999):Z1U y=ZiS y+92/\114<=Z1U y/\Z1U y<=148:=by
 have h:Zeh y=true:=by
  rcases YbG y 9775 with h3|h3
  exact Z3I 13 1583 y Zfp h1 (by omega);exact Z3I 8 9775 y Zfq h3 (by omega)
 unfold Zeh at h;simp only [Xd] at h;exact ⟨Xp h.1,Xg h.2.1,Xg h.2.2⟩
theorem Zfr {y:Nat} (h1:1583<=y) (h2:y<=9999):Z2Q (y:Int)=(Z1U y:Int):=by
 unfold Z2Q Z1U;dsimp only;have e1:(y:Int) % 19=((y % 19:Nat):Int):=by omega
 have e2:(y:Int) / 100=((y / 100:Nat):Int):=by omega
 have e3:(y:Int) % 100=((y % 100:Nat):Int):=by omega
 rw [e1,e2,e3];have ha:y % 19<=18:=by omega
 have hb:15<=y / 100/\y / 100<=99:=by omega
 have hc:y % 100<=99:=by omega
 generalize y % 19=a at *;generalize y / 100=b at *;generalize y % 100=c at *;have e4:((b:Int) - ((b:Int)+8) / 25+1) / 3=(((b - (b+8) / 25+1) / 3:Nat):Int):=by omega
 have hg:(b - (b+8) / 25+1) / 3+b / 4<=b:=by omega
 rw [e4];generalize (b - (b+8) / 25+1) / 3=g at *;have e5:(19 * (a:Int)+(b:Int) - (b:Int) / 4 - (g:Int)+15) % 30=(((19 * a+b - b / 4 - g+15) % 30:Nat):Int):=by omega
 rw [e5];have hh:(19 * a+b - b / 4 - g+15) % 30<=29:=by omega
 generalize (19 * a+b - b / 4 - g+15) % 30=h at *;have e6:(32+2 * ((b:Int) % 4)+2 * ((c:Int) / 4) - (h:Int) - (c:Int) % 4) % 7=(((32+2 * (b % 4)+2 * (c / 4) - h - c % 4) % 7:Nat):Int):=by omega
 rw [e6];have hl:(32+2 * (b % 4)+2 * (c / 4) - h - c % 4) % 7<=6:=by omega
 generalize (32+2 * (b % 4)+2 * (c / 4) - h - c % 4) % 7=l at *;omega
theorem Z5U {y:Int} (h1:1583<=y) (h2:y<=9999):114<=Z2Q y/\Z2Q y<=148:=by
 obtain ⟨k,rfl⟩:∃ k:Nat,y=(k:Int):=⟨y.toNat,by omega⟩
 have:=Zm3 (y:=k) (by omega) (by omega);rw [Zfr (by omega) (by omega)];omega
theorem ZcQ (y d:Int):Z07 y 3 d=Z07 y 3 1+d - 1/\Z07 y 4 d=Z07 y 3 1+31+d - 1:=by
 constructor;rw [show (3:Int)=((2:Nat):Int)+1 by rfl,Z2a y d 2 (by omega),Z2a y 1 2 (by omega)];omega;rw [show (4:Int)=((3:Nat):Int)+1 by rfl,show (3:Int)=((2:Nat):Int)+1 by rfl,Z2a y d 3 (by omega),Z2a y 1 2 (by omega)];have:Z1M y 3=Z1M y 2+31:=by
  have:Z1M y 3=Z1M y 2+ZG y 3:=by simp [Z1M]
  rw [this];rfl
 omega
theorem Z10 (n a b:Int) (w):CC 107 #[.I n,.I a,.I b] w λr w'=>r=.B (decide (a<=n/\n<=b))/\w'=w:=by
 refine cW3 15 Tryz.func107 ?_;by_cases h1:n>=a;by_cases h2:n<=b;rw [decide_eq_true ⟨h1,h2⟩];refine RT ?_;exact ⟨by simp [h2],rfl⟩;rw [decide_eq_false (λh=>h2 h.2)];refine RT ?_;exact ⟨by simp [h2],rfl⟩;rw [decide_eq_false (λh=>h1 h.1)];refine RT ?_;exact ⟨rfl,rfl⟩
theorem Z3p (d:Int) (w) (h0:0<=d) (h1:d<=9000000000):CC 217 #[.I d] w λr w'=>r=.I (d % 7)/\w'=w:=by
 refine cW1 7 Tryz.func217 ?_;refine RT ?_;exact ⟨by congr 1;omega,rfl⟩
theorem ZcR (y:Int) (w):CC 170 #[.I y] w λr w'=>r=.tuple #[.I (if y<1583\/9999<y then 0 else Z4u y),.I (if y<1583\/9999<y then 5 else 0)]/\Stp [] w w':=by
 refine cW1 77 Tryz.func170 ?_;by_cases hy:y<1583\/9999<y
 . rw [if_pos hy,if_pos hy]
   repeat'(first|refine W1 ?_|omega|refine VG ?_ ?_<;>intro hg|refine VC ?_ ?_<;>intro hc)
   all_goals refine WR ?_
   all_goals exact .mk ⟨rfl,Stp.refl _ _⟩
 rw [if_neg hy,if_neg hy];have hb:=Z5U (y:=y) (by omega) (by omega)
 have he:Z2v (Z2Q y=(19 * (y % 19)+y / 100 - y / 100 / 4 - (y / 100 - (y / 100+8) / 25+1) / 3+15) % 30 +
  (32+2 * (y / 100 % 4)+2 * (y % 100 / 4) - (19 * (y % 19)+y / 100 - y / 100 / 4 - (y / 100 - (y / 100+8) / 25+1) / 3+15) % 30 - y % 100 % 4) % 7 -
  7 * ((y % 19+11 * ((19 * (y % 19)+y / 100 - y / 100 / 4 - (y / 100 - (y / 100+8) / 25+1) / 3+15) % 30)+22 * ((32+2 * (y / 100 % 4)+2 * (y % 100 / 4) - (19 * (y % 19)+y / 100 - y / 100 / 4 - (y / 100 - (y / 100+8) / 25+1) / 3+15) % 30 - y % 100 % 4) % 7)) / 451)+114):=⟨rfl⟩
 have g1:0<=y % 19/\y % 19<=18:=by omega
 have g2:15<=y / 100/\y / 100<=99:=by omega
 have g3:0<=y % 100/\y % 100<=99:=by omega
 refine QO ?_;have g4:0<=(19 * (y % 19)+y / 100 - y / 100 / 4 - (y / 100 - (y / 100+8) / 25+1) / 3+15) % 30/\(19 * (y % 19)+y / 100 - y / 100 / 4 - (y / 100 - (y / 100+8) / 25+1) / 3+15) % 30<=29:=by omega
 generalize (19 * (y % 19)+y / 100 - y / 100 / 4 - (y / 100 - (y / 100+8) / 25+1) / 3+15) % 30=H at he g4 ⊢;have g5:0<=(32+2 * (y / 100 % 4)+2 * (y % 100 / 4) - H - y % 100 % 4) % 7/\(32+2 * (y / 100 % 4)+2 * (y % 100 / 4) - H - y % 100 % 4) % 7<=6:=by omega
 refine W ?_;generalize (32+2 * (y / 100 % 4)+2 * (y % 100 / 4) - H - y % 100 % 4) % 7=L at he g5 ⊢;rw [<- he.h];refine Zc (vs:=[(0,.I y),(1,.I (Z2Q y / 31)),(2,.I (Z2Q y % 31+1))]) rfl (Z6o _ _ _) rfl ?_;refine Z0 (Z3 rfl (ZO rfl) (Z4b y _ _ _ (by omega) (by omega) (by omega) (by omega) (by omega) (by omega) (by omega))) rfl ?_;rintro _ w1 ⟨rfl,hS⟩;refine RT ?_;exact ⟨rfl,hS⟩
theorem Z2j {y m:Int} (hy:1<=y) (dO:y<=9999) (hm:1<=m) (ec:m<=12):¬ Z1N y m 1/\0<=Z07 y m 1/\Z07 y m 1<=3652058/\28<=ZG y m/\ZG y m<=31:=by
 have hl:=Z1Q (y:=y) (k:=(m - 1).toNat) (by omega);rw [show (((m - 1).toNat:Int))+1=m by omega] at hl;have qU:=Z4a y m;have:=Z1B hy dO hm ec (d:=1) (by omega) (by omega);exact ⟨by unfold Z1N;omega,this.1,this.2,hl,qU⟩
theorem Z7b (h:Hol) (y:Int) (w) (hL:Z0G w) (hy:1<=y) (dO:y<=9999) (hm:1<=h.month) (ec:h.month<=12) (hw:0<=h.wd) (jC:h.wd<=6) :
 CC 164 #[agg h,.I y] w λr w'=>r=.tuple #[.I (Z07 y h.month 1),.I (Z3d y h.month h.wd)]/\Stp [] w w':=by
 obtain ⟨f1,f2,f3,f4,f5⟩:=Z2j hy dO hm ec;refine cW2 26 Tryz.func164 ?_;refine W ?_;refine Z0 (Zn rfl) rfl ?_;rintro _ w1 ⟨b,rfl,hb,ab,hS⟩;replace ab:Blk w1 b 122 (Z2.enc h):=ab;replace hL:=hL.up hS;refine W ?_;refine Zc (vs:=[(0,.I y),(1,.I h.month),(2,.I 1)]) rfl (Z6o _ _ _) rfl ?_;refine CL (Zav y _ _ _ hL) ?_;rintro _ w2 ⟨rfl,hT⟩;rw [if_neg f1,if_neg f1];replace ab:=ab.up hT;replace hS:=hS.trans hT;clear hT;refine W ?_;refine ZDr 12 [] [] [(0,0),(1,0),(2,0),(3,1),(4,0),(5,2),(6,0),(7,0),(8,0),(9,0),(10,0),(11,0)] (λw1 ae=>?_);replace ab:=ab.up ae;replace hS:=hS.trans ae;clear ae;refine D ?_;refine Z9 rfl trivial (Z3 rfl (ZO rfl) (Z3p _ _ f2 (by omega))) (λ_ _ h=>by rw [h.2];exact Stp.refl _ _) rfl ?_;rintro _ w3 ⟨rfl,rfl⟩;refine D ?_;refine W ?_;refine WR ?_;refine .mk ⟨?_,hS⟩;unfold Z3d;rfl
def Z1m (h:Hol) (y:Int):Int×Bool:=
 if h.kind=1 then (if Z1N y h.month h.day then 0 else Z07 y h.month h.day,!decide (Z1N y h.month h.day))
 else if h.kind=2 then (Z3d y h.month h.wd+7 * (h.nth - 1),decide (Z3d y h.month h.wd+7 * (h.nth - 1)<Z07 y h.month 1+ZG y h.month))
 else if h.kind=3 then (Z3d y h.month h.wd+(Z07 y h.month 1+ZG y h.month - 1 - Z3d y h.month h.wd) / 7 * 7,true)
 else ((if y<1583\/9999<y then 0 else Z4u y)+h.off,!decide (y<1583\/9999<y))
theorem Zrj {h:Hol} {y:Int} (h1:h.first<=y) (h2:y<=h.last):ZlJ h y=if (Z1m h y).2=true then some (Z1m h y).1 else none:=by
 unfold ZlJ Z1m;rw [if_neg (by omega)];by_cases k1:h.kind=1;rw [if_pos k1,if_pos k1];by_cases hb:Z1N y h.month h.day;simp [hb];simp [hb];rw [if_neg k1,if_neg k1];by_cases k2:h.kind=2;rw [if_pos k2,if_pos k2];simp;rw [if_neg k2,if_neg k2];by_cases k3:h.kind=3;rw [if_pos k3,if_pos k3];rfl;rw [if_neg k3,if_neg k3];by_cases hy:y<1583\/9999<y;simp [hy];simp [hy]
abbrev Zb8 (h:Hol) (y:Int):Value:=.tuple #[.I (Z1m h y).1,.B (Z1m h y).2]
theorem Z5V {y:Int} (h1:1583<=y) (h2:y<=9999):1000<=Z4u y/\Z4u y<=3652058:=by
 have hb:=Z5U h1 h2;have e3:ZG y 3=31:=rfl;have e4:ZG y 4=30:=rfl;have hs:=Z38 h1;have bU:500000<=Z0A 1583:=by decide
 have gM:=ZcQ y (Z2Q y % 31+1);have xb:Z07 y 3 1=Z0A y+Z1M y 2:=by
  have:=Z2a y 1 2 (by omega);rw [show ((2:Nat):Int)+1=3 by rfl] at this;omega
 have hc:0<=Z1M y 2:=by
  have:=Z3C (y:=y) (Xu 2) (by omega);simpa [Z1M] using this
 unfold Z4u;have hm:Z2Q y / 31=3\/Z2Q y / 31=4:=by omega
 rcases hm with hm|hm
 rw [hm];exact ⟨by omega,(Z1B (by omega) h2 (by omega) (by omega) (by omega) (by omega)).2⟩;rw [hm];exact ⟨by omega,(Z1B (by omega) h2 (by omega) (by omega) (by omega) (by omega)).2⟩
theorem Z2G {y m wd:Int} (hy:1<=y) (dO:y<=9999) (hm:1<=m) (ec:m<=12):Z07 y m 1<=Z3d y m wd/\Z3d y m wd<=Z07 y m 1+6:=by
 unfold Z3d;omega
theorem ZcS {h:Hol} {y:Int} (ho:Z3f h) (h1:h.first<=y) (h2:y<=h.last) (hp:(Z1m h y).2=true):0<=(Z1m h y).1/\(Z1m h y).1<=3653000:=by
 have hy:=ho.f1;have dO:=ho.l1;have bp:=ho.k1;have cB:=ho.k2;unfold Z1m at hp ⊢;by_cases k1:h.kind=1;rw [if_pos k1] at hp ⊢;obtain ⟨m1,m2⟩:=ho.month (by omega);by_cases hb:Z1N y h.month h.day;simp [hb] at hp;dsimp only;rw [if_neg hb];unfold Z1N at hb;have:=Z1B (y:=y) (m:=h.month) (d:=h.day) (by omega) (by omega) (by omega) (by omega) (by omega) (by omega);omega;rw [if_neg k1] at hp ⊢;by_cases k2:h.kind=2;rw [if_pos k2] at hp ⊢;obtain ⟨m1,m2⟩:=ho.month (by omega);obtain ⟨n1,n2⟩:=ho.nth k2;obtain ⟨f1,f2,f3,f4,f5⟩:=Z2j (y:=y) (by omega) (by omega) m1 m2;obtain ⟨f6,f7⟩:=Z2G (y:=y) (wd:=h.wd) (by omega) (by omega) m1 m2;dsimp only;omega;rw [if_neg k2] at hp ⊢;by_cases k3:h.kind=3;rw [if_pos k3] at hp ⊢;obtain ⟨m1,m2⟩:=ho.month (by omega);obtain ⟨f1,f2,f3,f4,f5⟩:=Z2j (y:=y) (by omega) (by omega) m1 m2;obtain ⟨f6,f7⟩:=Z2G (y:=y) (wd:=h.wd) (by omega) (by omega) m1 m2;dsimp only;omega;rw [if_neg k3] at hp ⊢;obtain ⟨o1,o2⟩:=ho.off (by omega);by_cases hy:y<1583\/9999<y;simp [hy] at hp;dsimp only;rw [if_neg hy];have:=Z5V (y:=y) (by omega) (by omega);omega
theorem Zfs (h:Hol) (y:Int) (w) (hL:Z0G w) (hk:h.kind=1) :
 CC 160 #[agg h,.I y] w λr w'=>r=Zb8 h y/\Stp [] w w':=by
 have e:Z1m h y=(if Z1N y h.month h.day then 0 else Z07 y h.month h.day,!decide (Z1N y h.month h.day)):=by unfold Z1m;rw [if_pos hk]
 unfold Zb8;rw [e];refine cW2 21 Tryz.func160 ?_;refine W ?_;refine Z0 (Zn rfl) rfl ?_;rintro _ w1 ⟨b,rfl,hb,ab,hS⟩;replace ab:Blk w1 b 122 (Z2.enc h):=ab;replace hL:=hL.up hS;refine W ?_;refine Zc (vs:=[(0,.I y),(1,.I h.month),(2,.I h.day)]) rfl (Z6o _ _ _) rfl ?_;refine CL (Zav y _ _ _ hL) ?_;rintro _ w2 ⟨rfl,hT⟩;refine W ?_;refine WR ?_;refine .mk ⟨?_,hS.trans hT⟩;by_cases hb:Z1N y h.month h.day<;>simp [hb]
theorem Zft (h:Hol) (y:Int) (w) (hL:Z0G w) (hy:1<=y) (dO:y<=9999) (hk:h.kind=2) (ho:Z3f h) :
 CC 163 #[agg h,.I y] w λr w'=>r=Zb8 h y/\Stp [] w w':=by
 have e:Z1m h y=(Z3d y h.month h.wd+7 * (h.nth - 1),decide (Z3d y h.month h.wd+7 * (h.nth - 1)<Z07 y h.month 1+ZG y h.month)):=by unfold Z1m;rw [if_neg (by omega),if_pos hk]
 obtain ⟨m1,m2⟩:=ho.month (by omega);obtain ⟨d1,d2⟩:=ho.wd (.inl hk);obtain ⟨n1,n2⟩:=ho.nth hk;obtain ⟨f1,f2,f3,f4,f5⟩:=Z2j hy dO m1 m2;obtain ⟨f6,f7⟩:=Z2G (wd:=h.wd) hy dO m1 m2;unfold Zb8;rw [e];refine cW2 29 Tryz.func163 ?_;refine W ?_;refine Z0 (Zn rfl) rfl ?_;rintro _ w1 ⟨b,rfl,hb,ab,hS⟩;replace ab:Blk w1 b 122 (Z2.enc h):=ab;replace hL:=hL.up hS;refine W ?_;refine CL (Z7b h y _ hL hy dO m1 m2 d1 d2) ?_;rintro _ w2 ⟨rfl,hT⟩;replace ab:=ab.up hT;replace hL:=hL.up hT;replace hS:=hS.trans hT;refine W ?_;refine CM (Zh rfl rfl) (Z2y y _ _ hL (by omega) (by omega)) ?_;rintro _ _ ⟨rfl,rfl⟩;refine RT ?_;exact ⟨rfl,hS⟩
theorem Zfu (h:Hol) (y:Int) (w) (hL:Z0G w) (hy:1<=y) (dO:y<=9999) (hk:h.kind=3) (ho:Z3f h) :
 CC 167 #[agg h,.I y] w λr w'=>r=Zb8 h y/\Stp [] w w':=by
 have e:Z1m h y=(Z3d y h.month h.wd+(Z07 y h.month 1+ZG y h.month - 1 - Z3d y h.month h.wd) / 7 * 7,true):=by unfold Z1m;rw [if_neg (by omega),if_neg (by omega),if_pos hk]
 obtain ⟨m1,m2⟩:=ho.month (by omega);obtain ⟨d1,d2⟩:=ho.wd (.inr hk);obtain ⟨f1,f2,f3,f4,f5⟩:=Z2j hy dO m1 m2;obtain ⟨f6,f7⟩:=Z2G (wd:=h.wd) hy dO m1 m2;unfold Zb8;rw [e];refine cW2 29 Tryz.func167 ?_;refine W ?_;refine Z0 (Zn rfl) rfl ?_;rintro _ w1 ⟨b,rfl,hb,ab,hS⟩;replace ab:Blk w1 b 122 (Z2.enc h):=ab;replace hL:=hL.up hS;refine W ?_;refine CL (Z7b h y _ hL hy dO m1 m2 d1 d2) ?_;rintro _ w2 ⟨rfl,hT⟩;replace ab:=ab.up hT;replace hL:=hL.up hT;replace hS:=hS.trans hT;refine W ?_;refine CM (Zh rfl rfl) (Z2y y _ _ hL (by omega) (by omega)) ?_;rintro _ _ ⟨rfl,rfl⟩;refine RT ?_;exact ⟨rfl,hS⟩
theorem Zfv (h:Hol) (y:Int) (w) (hk:h.kind=4) (ho:Z3f h) :
 CC 169 #[agg h,.I y] w λr w'=>r=Zb8 h y/\Stp [] w w':=by
 have e:Z1m h y=((if y<1583\/9999<y then 0 else Z4u y)+h.off,!decide (y<1583\/9999<y)):=by unfold Z1m;rw [if_neg (by omega),if_neg (by omega),if_neg (by omega)]
 obtain ⟨o1,o2⟩:=ho.off hk;have hr:0<=(if y<1583\/9999<y then 0 else Z4u y)/\(if y<1583\/9999<y then 0 else Z4u y)<=3652058:=by
  split;omega;have:=Z5V (y:=y) (by omega) (by omega);omega
 unfold Zb8;rw [e];refine cW2 19 Tryz.func169 ?_;refine W ?_;refine Z0 (Zn rfl) rfl ?_;rintro _ w1 ⟨b,rfl,hb,ab,hS⟩;replace ab:Blk w1 b 122 (Z2.enc h):=ab;refine W ?_;refine CL (ZcR y _) ?_;rintro _ w2 ⟨rfl,hT⟩;replace ab:=ab.up hT;replace hS:=hS.trans hT;refine W ?_;refine WR ?_;refine .mk ⟨?_,hS⟩;by_cases hy:y<1583\/9999<y<;>simp [hy]
end Go.Proofs.YteibicnbkggiiaaGreatDoor
