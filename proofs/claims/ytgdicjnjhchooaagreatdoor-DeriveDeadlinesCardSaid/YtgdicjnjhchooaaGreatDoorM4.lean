/-
Contracts and plain laws, merged out of own texts.
-/
import Derived.Test.YtgdicjnjhchooaaGreatDoorM3
import Derived.RangeFuncBox
import Derived.RangeFuncLeaves
import Derived.RangeFuncNested
import Derived.RangeFuncBound
import Derived.RangeFuncCalls
import Derived.Shelf.Abstract
import Derived.Shelf.RegionOpen
import Derived.BigRegionIn
import Derived.WalkKit
import Derived.OwnWalkIn
import Derived.TacticsInMore
import Derived.LoopNIn
import Derived.LoopIn
set_option linter.unusedVariables false
set_option linter.unusedSimpArgs false
set_option maxHeartbeats 4000000
set_option maxRecDepth 20000
namespace Go.Eng
open Go Go.RowKit Go.Proofs
variable {P:Program} {n:Nat} {e:Env} {w:World} {d:Option Nat} {ty:TypeId} {pos:String} {af:Array Edge} {g:Option (Nat×Bool)}
theorem Z5Z {t el len k:Nat} {x hi:Operand} {b r:Nat} {z:Int} [hu:Und P t (.array len el)] [hk:Siz P el k] (hx:ev e x=some (pQ b)) (hz:ev e hi=some (.I z)) (cC:z=(r:Int)) (hr:r<=len) :
 PR P n ⟨d,.slice t x none (some hi) none,ty,pos,af,g⟩ e w (.slice (some ⟨b,0,none⟩) r len):=
 ⟨λa ha => by
   subst cC;simp [execOp,ha.ev hx,ha.ev hz,Instr.sliceAt,Instr.sureAddr,run_underlying hu.h,Instr.sliceBounds,Instr.sliceBound,asIntOf,Siz.run,Addr.add,show r<=len by omega]⟩
theorem Z9n {X:List Nat} {w} {b T len n:Nat} {cs:List Value} {xs:List Int} (hn:xs.length=n) (hb:Blk w b T cs) (hX:b∉X) (hl:cs.length=len) (hm:len<=maxLen) (hx:xs.length<=len) (hc:∀ i (h:i<xs.length),cs[i]?=some (.I xs[i])):SlV X w (.slice (some ⟨b,0,none⟩) n len) xs:=by
 subst hn;refine ⟨some ⟨b,0,none⟩,len,rfl,hx,hm,λh=>by simp at h,λi hi=>⟨b,0,[.I xs[i]],rfl,hb.lt,hX,rfl,λj u hu=>?_⟩⟩;have hj:j=0:=by
  have:=(Xw.1 hu).1;simp at this;exact this
 subst hj;simp at hu;subst hu;refine hb.cell ?_;simpa [Z6.k,Z2.k] using hc i hi
end Go.Eng
namespace Go.Proofs.YtgdicjnjhchooaaGreatDoor
open Go Go.Eng Go.RowKit
def Jv (r:Rtn) (day:Int):Bool:=if r.kind=1 then decide (day<r.lo\/r.hi<day) else if r.kind=2 then decide (0<=day/\day<=r.hi) else decide (0<=day)
theorem ZeZ (r:Rtn) (day:Int) (w):CC 229 #[aG r,.I day] w λv w'=>v=.B (Jv r day)/\Stp [] w w':=by
 unfold Jv;refine cW2 31 Tryz.func229 ?_;refine W ?_;refine BX (Stp.refl [] w) λb2 w1 h2 e2 _ hS=>?_;replace e2:Blk w1 b2 137 (Z2.enc r):=e2;simp only [Z2.enc] at e2;by_cases h1:r.kind=1
 . rw [if_pos h1]
   (refine QP ?_ ?_<;>intro hg)
   all_goals
    refine RU ?_;exact ⟨by congr 1;first|(rw [decide_eq_true (by omega)];done)|(symm;rw [decide_eq_decide];constructor<;>intro _<;>omega)|(symm;exact decide_eq_true (by omega))|(symm;exact decide_eq_false (by omega)),hS⟩
 rw [if_neg h1];by_cases h2:r.kind=2
 . rw [if_pos h2]
   (refine QP ?_ ?_<;>intro hg)
   all_goals
    refine RU ?_;exact ⟨by congr 1;first|(symm;rw [decide_eq_decide];constructor<;>intro _<;>omega)|(symm;exact decide_eq_true (by omega))|(symm;exact decide_eq_false (by omega)),hS⟩
 rw [if_neg h2];refine RT ?_;exact ⟨rfl,hS⟩
theorem Zi2 (v:Value) (l:List Int) (x:Int) (w) (hs:SlV [] w v l):CC 230 #[v,.I x] w λr w'=>(∃ z:Int,r=.I z/\((z=-1/\x∉l)\/∃ (k:Nat) (h:k<l.length),z=k/\l[k]=x/\∀ j (h:j<l.length),j<k->l[j]≠x))/\Stp [] w w':=by
 have bh:=hs.max;refine cW2 19 Tryz.func230 ?_;refine W ?_;refine LP (σ:=Nat) (λk=>[(0,v),(1,.I x),(6,v),(7,.I l.length),(8,.I k)]) (λk w'=>k<=l.length/\Stp [] w w'/\∀ j (h:j<l.length),j<k->l[j]≠x) (λk=>l.length - k) 0 ⟨by omega,Stp.refl _ _,by omega⟩ ?_;rintro k w2 ⟨hk,hT,hz⟩;have aX:=hs.up hT;by_cases hlt:k<l.length
 (refine QP ?_ ?_<;>intro hc)
 refine RU ?_;exact ⟨⟨_,rfl,.inr ⟨k,hlt,rfl,hc.symm,hz⟩⟩,hT⟩;exact QL (k+1) ⟨hlt,hT,λj h hj=>by
  by_cases e:j=k;subst e;exact λh=>hc h.symm;exact hz j h (by omega)⟩ (by omega)
 refine RT ?_;exact ⟨⟨_,rfl,.inl ⟨rfl,λh=>by
  obtain ⟨j,hj,e⟩:=XB h;exact hz j hj (by omega) e⟩⟩,hT⟩
def Z38 (c:Int):List (Int×Int)->List (Int×Int)
 | []=>[(c,1)]
 | p :: l=>if p.1=c then (c,p.2+1) :: l else p :: Z38 c l
def Z4e (day:Int) (st:List (Int×Int)) (r:Rtn):List (Int×Int):=if Jv r day=true then Z38 r.crr st else st
def Z1v (l:List Rtn) (day:Int):List (Int×Int):=l.foldl (Z4e day) []
def Z4O (crrs:List Crr) (p:Int×Int):Int:=max 0 (p.2 - (crrs.getD p.1.toNat ⟨0,0⟩).tol)
def ZA (l:List Rtn) (crrs:List Crr) (day:Int):Int:=((Z1v l day).map (Z4O crrs)).sum
theorem ZaQ (c:Int):∀ (st:List (Int×Int)),c∉st.map (·.1)->Z38 c st=st++[(c,1)]
 | [],_=>rfl
 | p :: l, h => by
   simp only [XE,Xc,not_or] at h;rw [Z38,if_neg (λe=>h.1 e.symm),ZaQ c l h.2];rfl
theorem ZaR (c:Int):∀ (st:List (Int×Int)) (k:Nat) (hk:k<st.length),st[k].1=c->(∀ j (h:j<st.length),j<k->st[j].1≠c)->Z38 c st=st.set k (c,st[k].2+1)
 | p :: l, 0, hk, h, _ => by
   simp only [List.getElem_cons_zero] at h;rw [Z38,if_pos h];rfl
 | p :: l, k + 1, hk, h, hz => by
   have h0:=hz 0 (by simp) (by omega);simp only [List.getElem_cons_zero] at h0;rw [Z38,if_neg h0,ZaR c l k (by simpa using hk) (by simpa using h) (λj hj gV=>by
    have h2:=hz (j+1) (by simpa using hj) (by omega)
    rwa [List.getElem_cons_succ] at h2)]
   simp
theorem Zi3 (c:Int) (st:List (Int×Int)):(Z38 c st).length<=st.length+1:=by
 induction st with
 | nil=>simp [Z38]
 | cons p l ih=>
   rw [Z38];split<;>simp<;>omega
theorem Z5B (l:List Rtn) (day:Int) (k:Nat) (h:k<l.length):Z1v (l.take (k+1)) day=Z4e day (Z1v (l.take k) day) l[k]:=by
 unfold Z1v;rw [Xg h,XP];rfl
theorem ZaS (l:List Rtn) (day:Int) (k:Nat) (h:k<=l.length):(Z1v (l.take k) day).length<=k:=by
 induction k with
 | zero=>simp [Z1v]
 | succ k ih=>
   rw [Z5B l day k (by omega),Z4e];have:=ih (by omega);split;have:=Zi3 l[k].crr (Z1v (l.take k) day);omega;omega
def arX (f:Int×Int->Int) (st:List (Int×Int)):List Value:=st.map (λp=>.I (f p))++List.replicate (32 - st.length) (.I 0)
theorem Z4P (f:Int×Int->Int) {st:List (Int×Int)} (h:st.length<=32):(arX f st).length=32:=by simp [arX];omega
theorem Z4Q (f:Int×Int->Int) {st:List (Int×Int)} {k:Nat} (h:k<st.length):(arX f st)[k]?=some (.I (f st[k])):=by
 rw [arX,X1 (by simpa using h)];simp [h]
theorem Zlq (f:Int×Int->Int) {st:List (Int×Int)} (h:st.length<32):(arX f st)[st.length]?=some (.I 0):=by
 rw [arX,YaM (by simp)];simp [Ybn];omega
theorem ZdP (f:Int×Int->Int) {st:List (Int×Int)} (p:Int×Int) (h:st.length<32):(arX f st).set st.length (.I (f p))=arX f (st++[p]):=by
 unfold arX;rw [List.set_append_right _ _ (by simp)];obtain ⟨m,hm⟩:∃ m,32 - st.length=m+1:=⟨31 - st.length,by omega⟩
 rw [hm];simp only [Xy,Nat.sub_self,List.replicate_succ,List.set_cons_zero,XL,XE,Yap,XC,Yaa,XO,Xa,List.length_singleton];rw [show 32 - (st.length+1)=m by omega]
theorem ZdQ (f:Int×Int->Int) {st:List (Int×Int)} {k:Nat} (p:Int×Int) (h:k<st.length):(arX f st).set k (.I (f p))=arX f (st.set k p):=by
 unfold arX;rw [List.set_append_left _ _ (by simpa using h),Yan,List.map_set]
theorem ZdR {c:Int} {m:Int} {p:Int×Int}:∀ {st:List (Int×Int)},(∀ q∈st,0<=q.2/\q.2<=m)->0<=m->p∈Z38 c st->(p.1=c\/p.1∈st.map (·.1))/\0<=p.2/\p.2<=m+1
 | [], _, hm, h => by
   simp only [Z38,Xm] at h;subst h;exact ⟨.inl rfl,by dsimp only;omega,by dsimp only;omega⟩
 | q :: l, hq, hm, h => by
   have h0:=hq q (by simp);rw [Z38] at h;split at h;rcases Xc.1 h with rfl|h
   exact ⟨.inl rfl,by dsimp only;omega,by dsimp only;omega⟩;have:=hq p (by simp [h]);exact ⟨.inr (XK.2 ⟨p,by simp [h],rfl⟩),by omega,by omega⟩;rcases Xc.1 h with rfl|h
   exact ⟨.inr (by simp),by omega,by omega⟩;obtain ⟨a,b⟩:=ZdR (λx hx=>hq x (by simp [hx])) hm h;exact ⟨a.imp id (λh=>by simp [h]),b⟩
theorem Z9o {l:List Rtn} {day:Int} {N:Int} (hr:∀ r∈l,0<=r.crr/\r.crr<N):∀ k,k<=l.length->∀ p∈Z1v (l.take k) day,(0<=p.1/\p.1<N)/\0<=p.2/\p.2<=k
 | 0,_,p,hp=>by simp [Z1v] at hp
 | k + 1, hk, p, hp => by
   have ih:=Z9o (day:=day) hr k (by omega);rw [Z5B l day k (by omega),Z4e] at hp;split at hp;obtain ⟨a,b,c⟩:=ZdR (m:=k) (λq hq=>(ih q hq).2) (by omega) hp;refine ⟨?_,b,by omega⟩;rcases a with a|a
   rw [a];exact hr _ (Xb _);obtain ⟨q,hq,e⟩:=XK.1 a;rw [<- e];exact (ih q hq).1;have:=ih p hp;exact ⟨this.1,this.2.1,by omega⟩
theorem Z70 (lv cv:Value) (l:List Rtn) (crrs:List Crr) (day:Int) (w) (hl:SlV [] w lv l) (hc:SlV [] w cv crrs) (xb:l.length<=32) (hr:∀ r∈l,0<=r.crr/\r.crr<crrs.length) (ht:∀ c∈crrs,0<=c.tol/\c.tol<=1000) :
 CC 169 #[lv,cv,.I day] w λv w'=>v=.I (ZA l crrs day)/\Stp [] w w':=by
 refine cW3 68 Tryz.func169 ?_;refine W ?_;refine Z0 Z4 rfl ?_;rintro _ w1 ⟨b7,rfl,jo,e7,hS⟩;refine W ?_;refine Z0 Z4 rfl ?_;rintro _ w2 ⟨b8,rfl,dG,e8,hT⟩;have l7:=e7.lt;replace e7:=e7.up hT;have n78:b7≠b8:=by omega
 have g8:w.heap.size<=b8:=Xh hS.size dG;replace hS:=hS.trans hT;replace e7:Blk w2 b7 281 (arX (·.2) (Z1v (l.take 0) day)):=e7;replace e8:Blk w2 b8 281 (arX (·.1) (Z1v (l.take 0) day)):=e8;clear hT;refine W ?_;refine Z0t (σ:=Unit) (λ_=>[(1,cv),(7,pQ b7),(8,pQ b8),(9,.I (Z1v l day).length)]) (λ_ w'=>Stp [] w w'/\Blk w' b7 281 (arX (·.2) (Z1v l day))/\Blk w' b8 281 (arX (·.1) (Z1v l day))) ?_ ?_;refine LP (σ:=Nat) (λk=>[(1,cv),(2,.I day),(7,pQ b7),(8,pQ b8),(9,.I (Z1v (l.take k) day).length),(16,lv),(17,.I l.length),(18,.I k)]) (λk w'=>k<=l.length/\Stp [] w w'/\Blk w' b7 281 (arX (·.2) (Z1v (l.take k) day))/\Blk w' b8 281 (arX (·.1) (Z1v (l.take k) day))) (λk=>l.length - k) 0 ⟨by omega,hS,e7,e8⟩ ?_;clear e7 e8 hS;rintro k w3 ⟨hk,hS,e7,e8⟩;by_cases hlt:k<l.length;have dH:=hl.up hS;have hstep:=Z5B l day k hlt;have eD:=ZaS l day k hk;have aL:=Z9o (day:=day) hr k hk;generalize Z1v (l.take k) day=st at *;refine QO ?_;refine Z0 Z4 rfl ?_;rintro _ w4 ⟨b11,rfl,iF,e11,hT⟩;refine SA (us:=Z2.enc l[k]) e11 ?_;rintro _ w5 ⟨an,e11⟩;replace hT:=hT.ow an;replace hS:=hS.trans hT;replace e7:=e7.up hT;replace e8:=e8.up hT;clear hT an dH;refine W ?_;refine CP hS (ZeZ l[k] day _) λw6 hT hS=>?_;replace e7:=e7.up hT;replace e8:=e8.up hT;replace e11:=e11.up hT;clear hT;rw [Z4e] at hstep;cases hw:Jv l[k] day;rw [hw,if_neg (by simp)] at hstep;refine QO ?_;exact Zd (k+1) ⟨rfl,rfl,rfl,rfl,by rw [hstep];rfl,rfl,rfl,rfl,trivial⟩ ⟨hlt,hS,by rw [hstep];exact e7,by rw [hstep];exact e8⟩ (by omega);rw [hw,if_pos rfl] at hstep;refine QO ?_;refine ZDr 6 [] [] [(0,0),(1,0),(2,0),(3,1),(4,2),(5,0)] (λw1 ae=>?_);replace e7:=e7.up ae;replace e8:=e8.up ae;replace e11:=e11.up ae;replace hS:=hS.trans ae;clear ae;refine D ?_;refine Jl rfl trivial (λ_=>Z5Z (r:=st.length) rfl rfl rfl (by omega)) rfl ?_;refine D ?_;have fD:SlV [] w1 (.slice (some ⟨b8,0,none⟩) st.length 32) (st.map (·.1)):=Z9n (by simp) e8 (by simp) (Z4P _ (by omega)) (by decide) (by simp;omega) (λi h=>by
  have:=Z4Q (·.1) (st:=st) (k:=i) (by simpa using h);simpa using this)
 refine DC (Zi2 _ _ l[k].crr _ fD) (λ_ _ h=>h.2) ?_;rintro _ w7 ⟨⟨z,rfl,hz⟩,hT⟩;replace e7:=e7.up hT;replace e8:=e8.up hT;replace e11:=e11.up hT;replace hS:=hS.trans hT;clear hT fD;have own:∀ b,b=b7\/b=b8->∀ c∈[b],c∈([]:List Nat)\/w.heap.size<=c:=λb hb c hc=>.inr (by simp at hc;omega)
 rcases hz with ⟨rfl,hn⟩|⟨j,hj,rfl,gz,uk⟩
 rw [ZaQ _ _ hn] at hstep;have h0:=Zlq (·.2) (st:=st) (by omega);refine D ?_;refine QO ?_;refine Z8 (Zb (o:=0+st.length * 1) (u:=.I l[k].crr) rfl rfl rfl rfl e8 (by rw [Z4P _ (by omega)];omega)) ?_;rintro _ w8 ⟨hT,e8⟩;replace e7:=e7.ext hT (by simpa using n78);replace hS:=hS.own hT (own _ (.inr rfl));rw [XJ,Ybd,ZdP (·.1) (l[k].crr,1) (by omega)] at e8;refine QO ?_;refine Z9 (Z0y rfl rfl e7 (by rw [XJ,Ybd];exact h0)) rfl ?_;refine QO ?_;refine Z8 (Zb (o:=0+st.length * 1) (u:=.I (0+1)) rfl rfl rfl rfl e7 (by rw [Z4P _ (by omega)];omega)) ?_;rintro _ w9 ⟨hT,e7⟩;replace e8:=e8.ext hT (by simpa using n78.symm);replace hS:=hS.own hT (own _ (.inl rfl));rw [XJ,Ybd] at e7;replace e7:Blk w9 b7 281 (arX (·.2) (st++[(l[k].crr,1)])):=by rw [<- ZdP (·.2) (l[k].crr,1) (by omega)];exact e7
 refine QO ?_;exact Zd (k+1) ⟨rfl,rfl,rfl,rfl,by rw [hstep,Xa];rfl,rfl,rfl,rfl,trivial⟩ ⟨hlt,hS,by rw [hstep];exact e7,by rw [hstep];exact e8⟩ (by omega);rw [Xy] at hj;have mq:st[j].1=l[k].crr:=by simpa using gz
 rw [ZaR _ _ j hj mq (λi h hi=>by have:=uk i (by simpa using h) hi;simpa using this)] at hstep;have h0:=Z4Q (·.2) (st:=st) hj;have mr:=(aL _ (Xb hj)).2;refine D ?_;refine QO ?_;refine Z9 (Z0y rfl rfl e7 (by rw [XJ,Ybd];exact h0)) rfl ?_;refine QO ?_;refine Z8 (Zb (o:=0+j * 1) (u:=.I (st[j].2+1)) rfl rfl rfl rfl e7 (by rw [Z4P _ (by omega)];omega)) ?_;rintro _ w9 ⟨hT,e7⟩;replace e8:=e8.ext hT (by simpa using n78.symm);replace hS:=hS.own hT (own _ (.inl rfl));rw [XJ,Ybd] at e7;replace e7:Blk w9 b7 281 (arX (·.2) (st.set j (l[k].crr,st[j].2+1))):=by rw [<- ZdQ (·.2) (l[k].crr,st[j].2+1) hj];exact e7
 have e8':Blk w9 b8 281 (arX (·.1) (st.set j (l[k].crr,st[j].2+1))):=by
  rw [<- ZdQ (·.1) (l[k].crr,st[j].2+1) hj];have h1:=Z4Q (·.1) (st:=st) hj;rw [mq] at h1;obtain ⟨hh,h2⟩:=Xw.1 h1;have:(arX (·.1) st).set j (.I l[k].crr)=arX (·.1) st:=by rw [<- h2];exact List.set_getElem_self hh
  rw [this];exact e8
 refine QO ?_;exact Zd (k+1) ⟨rfl,rfl,rfl,rfl,by rw [hstep,Yan];rfl,rfl,rfl,rfl,trivial⟩ ⟨hlt,hS,by rw [hstep];exact e7,by rw [hstep];exact e8'⟩ (by omega);obtain rfl:k=l.length:=by omega
 rw [Xs] at e7 e8;have dH:=hl.up hS;refine QO ?_;exact Z0E () ⟨rfl,rfl,rfl,by simp only [Xs];rfl,trivial⟩ ⟨hS,e7,e8⟩;clear e7 e8 hS;rintro _ w3 ⟨hS,e7,e8⟩;have eD:=ZaS l day l.length (Xl _);have aL:=Z9o (day:=day) hr l.length (Xl _);rw [Xs] at eD aL;unfold ZA;generalize Z1v l day=st at *;have fD:SlV [] w3 (.slice (some ⟨b8,0,none⟩) st.length 32) (st.map (·.1)):=Z9n (by simp) e8 (by simp) (Z4P _ (by omega)) (by decide) (by simp;omega) (λi h=>by
  have:=Z4Q (·.1) (st:=st) (k:=i) (by simpa using h);simpa using this)
 refine QO ?_;refine Z9 (Z5Z (r:=st.length) rfl rfl rfl (by omega)) rfl ?_;refine QO ?_;refine Zm (σ:=Nat) (λk=>[(1,cv),(7,pQ b7),(13,.I ((st.take k).map (Z4O crrs)).sum),(47,.slice (some ⟨b8,0,none⟩) st.length 32),(48,.I st.length),(49,.I k)]) (λk w'=>k<=st.length/\Stp [] w3 w'/\0<=((st.take k).map (Z4O crrs)).sum/\((st.take k).map (Z4O crrs)).sum<=40 * k) (λk=>st.length - k) 0 ⟨rfl,rfl,rfl,rfl,by simp only [Xy];rfl,rfl,trivial⟩ ⟨by omega,Stp.refl _ _,by simp,by simp⟩ ?_;rintro k w4 ⟨hk,hT,g1,g2⟩;have e7':=e7.up hT;have ul:=fD.up hT;have dF:=hc.up (hS.trans hT);by_cases hlt:k<st.length;obtain ⟨⟨a1,a2⟩,a3,a4⟩:=aL _ (Xb hlt);have jZ:((st.take (k+1)).map (Z4O crrs)).sum=((st.take k).map (Z4O crrs)).sum+Z4O crrs st[k]:=by
  rw [Xg hlt,XL,List.sum_append];simp
 obtain ⟨j,hj⟩:∃ j:Nat,st[k].1=j:=⟨st[k].1.toNat,by omega⟩
 have aT:j<crrs.length:=by omega
 have xc:=ht _ (Xb aT);have ce:k<(st.map (·.1)).length:=by simpa using hlt
 have ay:(st.map (·.1))[k]=(j:Int):=by simpa using hj
 have h0:=Z4Q (·.2) (st:=st) hlt;have pf:Z4O crrs st[k]=max 0 (st[k].2 - crrs[j].tol):=by
  unfold Z4O;rw [hj];simp [aT]
 generalize ((st.take k).map (Z4O crrs)).sum=s at *;refine QO ?_;refine ZDr 13 [] [] [(0,0),(1,0),(2,0),(3,1),(4,0),(5,0),(6,0),(7,0),(8,1),(9,0),(10,0),(11,0),(12,0)] (λw1 ae=>?_);replace e7':=e7'.up ae;replace dF:=dF.up ae;replace hT:=hT.trans ae;clear ae;refine D ?_;refine Zac rfl trivial rfl rfl e7' (by simp) (by rw [XJ,Ybd];exact h0) rfl ?_;refine D ?_;refine QO ?_;exact Zd (k+1) ⟨rfl,rfl,by rw [jZ,pf];rfl,rfl,rfl,rfl,trivial⟩ ⟨hlt,hT,by rw [jZ,pf];omega,by rw [jZ,pf];omega⟩ (by omega);obtain rfl:k=st.length:=by omega
 refine QO ?_;refine WR ?_;rw [Xs];exact .mk ⟨rfl,hS.trans hT⟩
def Z0D (l:List Rtn) (sent:Int):List Int:=Z32 ([sent,3652059]++l.flatMap (λr=>[r.lo,r.hi+1].filter (λd=>decide (sent<d/\d<=3652058))))
def Z1w (l:List Rtn) (sent:Int):List Spn:=((Z0D l sent).zip (Z0D l sent).tail).map (λp=>(p.1,p.2 - 1))
structure AlS where
 least:Int
 never:Bool
 out:List Spn
def JX (l:List Rtn) (crrs:List Crr) (s:AlS) (x:Spn):AlS:=
 let e:=ZA l crrs x.1
 if s.least<e then s else
  let t:AlS:=if e<s.least then ⟨e,false,[]⟩ else s
  match t.out.getLast? with
  | some y=>if y.2=x.1 - 1 then { t with out:=t.out.dropLast++[(y.1,x.2)] } else { t with out:=t.out++[x] }
  | none=>{ t with out:=t.out++[x] }
def Z9p (l:List Rtn) (crrs:List Crr) (sent:Int):AlS:=(Z1w l sent).foldl (JX l crrs) ⟨ZA l crrs (-1),true,[]⟩
def Z4R (l:List Rtn) (crrs:List Crr) (sent:Int):Int×Bool:=
 let s:=Z9p l crrs sent
 if s.never=true then (0,false) else match s.out.getLast? with|some y=>(y.2,true)|none=>(0,false)
structure Zlr (l:List Rtn) (crrs:List Crr):Prop where
 len:l.length<=32
 crr:∀ r∈l,0<=r.crr/\r.crr<crrs.length
 tol:∀ c∈crrs,0<=c.tol/\c.tol<=1000
 day:∀ r∈l,0<=r.lo/\r.lo<=3652058/\0<=r.hi/\r.hi<=3652058
theorem ZaT {l:List Rtn} {sent x:Int} (hs:0<=sent/\sent<=3652058) (h:x∈Z0D l sent):sent<=x/\x<=3652059:=by
 have:=((Z0v _).2 x).1 h;simp only [Xd,Xc,Xn,or_false,Ybf,XW,decide_eq_true_eq] at this;rcases this with (rfl|rfl)|⟨r,hr,h1,h2⟩<;>omega
theorem Z71 {l:List Rtn} {sent:Int} {s:Spn} (hs:0<=sent/\sent<=3652058) (h:s∈Z1w l sent):sent<=s.1/\s.1<=3652059/\-1<=s.2/\s.2<=3652058:=by
 unfold Z1w at h;obtain ⟨p,hp,rfl⟩:=XK.1 h;have h1:=ZaT hs (YbN hp).1;have h2:=ZaT hs (List.mem_of_mem_tail (YbN hp).2);dsimp only;omega
def inX (sent d:Int):Bool:=decide (sent<d/\d<=3652058)
def Z5C (l:List Rtn) (sent:Int):List Int:=[sent,3652059]++l.flatMap (λr=>[r.lo,r.hi+1].filter (inX sent))
theorem Z72 (l:List Rtn) (sent:Int):(Z5C l sent).length<=2+2 * l.length:=by
 unfold Z5C;rw [Xa]
 induction l with
 | nil=>simp
 | cons r l ih=>
   have h:=XG (inX sent) [r.lo,r.hi+1];simp only [Ya7,Xa,Xe,Xi] at *;omega
theorem Z3P {P:Program} {n:Nat} {e:Env} {w} {d:Option Nat} {ty:TypeId} {pos:String} {af:Array Edge} {g:Option (Nat×Bool)} {x y:Operand} {t:TypeId} {u i v:Value} (hx:ev e x=some u) (hy:ev e y=some i) (hb:∀ w,(Instr.index t u i).run P w=.ok v w):PR P n ⟨d,.index t x y,ty,pos,af,g⟩ e w v:=
 ⟨λa ha=>by simp [execOp,ha.ev hx,ha.ev hy,hb]⟩
theorem Zi4 (a b:Int) (w):(Instr.index 284 (.agg #[.I a,.I b]) (.I ((0:Nat):Int))).run Tryz.prog w=.ok (.I a) w:=by kernel_rfl
theorem Zi5 (a b:Int) (w):(Instr.index 284 (.agg #[.I a,.I b]) (.I ((1:Nat):Int))).run Tryz.prog w=.ok (.I b) w:=by kernel_rfl
theorem Zf0 (l:List Rtn) (sent:Int) (k:Nat) (h:k<l.length):Z5C (l.take (k+1)) sent=Z5C (l.take k) sent++[l[k].lo,l[k].hi+1].filter (inX sent):=by
 unfold Z5C;rw [Xg h,YaV];simp
theorem Zi6 (a b:Int) (w):(Instr.build 94 #[(0,.I a),(1,.I b)]).run Tryz.prog w=.ok (.agg (Z2.enc ((a,b):Spn)).toArray) w:=by kernel_rfl
theorem Zls (a b:Int) (w):(Instr.buildSlice 22 2 #[(0,.I a),(1,.I b)]).run Tryz.prog w=.ok (.slice (some ⟨w.heap.size,0,none⟩) 2 2) (w.alloc (.cells #[.I a,.I b] 3)):=by kernel_rfl
theorem Zi7 (a b:Int) (w):(Instr.build 284 #[(0,.I a),(1,.I b)]).run Tryz.prog w=.ok (.agg #[.I a,.I b]) w:=by kernel_rfl
theorem Z9q (l:Nat) (F:List Nat) (w) (bS bL:Nat) (lv:Value) (rets:List Rtn) (sent:Int) (crrs:List Crr) (ho:Zlr rets crrs) (fD:0<=sent/\sent<=3652058)
 (eS:Blk w bS 3 [.I sent]) (eL:Blk w bL 75 [lv]) (hl:SlV F w lv rets) (hF:∀ b∈F,b<w.heap.size) (hS:bS∉F) (hL:bL∉F) :
 ZdN Tryz.prog 231 #[pQ bS,pQ bL] (λx:Spn=>aG x) (Z1w rets sent) l F w:=by
 intro J hlt rC hY h0;have fm:=ho.len;have iE:=hl.max;refine cW3 65 Tryz.func231 ?_;refine W ?_;refine Z0 (Z1 rfl (Zls _ _)) rfl ?_;intro dv0 w1 hN;have jk:Zk 3 w w1 dv0 [sent,3652059]:=Zk.one hN rfl rfl (by simp [maxLen]);have hN:=Za.stp hN;have eL1:=eL.up hN;have eS1:=eS.up hN;refine W ?_;have rD:Z5C (rets.take 0) sent=[sent,3652059]:=by simp [Z5C]
 refine LP (σ:=Nat×Value) (λq=>[(0,.func (.yield l) #[] #[]),(1,pQ bS),(2,pQ bL),(4,q.2),(12,lv),(13,.I rets.length),(14,.I q.1)]) (λq w'=>q.1<=rets.length/\Zk 3 w w' q.2 (Z5C (rets.take q.1) sent)) (λq=>rets.length - q.1) (0,dv0) ⟨by omega,by rw [rD];exact jk⟩ ?_;clear jk rD hN eS1 eL1;rintro ⟨k,dv⟩ w2 ⟨hk,hr⟩;dsimp only at hk hr ⊢;by_cases d6:k<rets.length;obtain ⟨r1,r2,r3,r4⟩:=ho.day _ (Xb d6);have fw:=Z72 (rets.take k) sent;rw [Xx] at fw;have ax:=Zf0 rets sent k d6;generalize Z5C (rets.take k) sent=pk at *;have dK:SlV [] w2 lv rets:=hl.ext hr.2 (by simp) (by simp);have eS2:=eS.up hr.2;refine QO ?_;refine Z0 Z4 rfl ?_;rintro _ w3 ⟨b6,rfl,dS,e6,hA⟩;refine SA (us:=Z2.enc rets[k]) e6 ?_;rintro _ w4 ⟨cG,e6⟩;replace hA:=hA.ow cG;replace hr:=hr.up hA;refine QO ?_;refine Z5 (vs:=[(0,.I rets[k].lo),(1,.I (rets[k].hi+1))]) rfl (Zi7 _ _) rfl ?_;refine QO ?_;generalize pg:rets[k].lo=lo at *;generalize xd:rets[k].hi+1=hi at *;have nJ:[lo,hi].filter (inX sent)=(if inX sent lo=true then [lo] else [])++(if inX sent hi=true then [hi] else []):=by
  cases h1:inX sent lo<;>cases h2:inX sent hi<;>simp [h1,h2]
 clear e6 hA cG dK eS2
 refine Zm (σ:=Nat×Value) (λq=>[(0,.func (.yield l) #[] #[]),(1,pQ bS),(2,pQ bL),(4,q.2),(12,lv),(13,.I rets.length),(14,.I k),(23,.agg #[.I lo,.I hi]),(24,.I q.1)])
  (λq w'=>q.1<=2/\Zk 3 w w' q.2 (pk++(if 0<q.1/\inX sent lo=true then [lo] else [])++(if 1<q.1/\inX sent hi=true then [hi] else []))) (λq=>2 - q.1) (0,dv) ⟨rfl,rfl,rfl,rfl,rfl,rfl,rfl,rfl,rfl,trivial⟩ ⟨by omega,by simpa using hr⟩ ?_
 clear hr;rintro ⟨j,dv⟩ w5 ⟨hj,hr⟩;dsimp only at hj hr ⊢;have eS5:=eS.up hr.2;have xf:pk.length<=70:=by omega
 have hz:∀ (p:Prop) [Decidable p] (d:Int),(if p then [d] else []).length<=1:=λp _ d=>by split<;>simp
 obtain rfl|rfl|rfl:j=0\/j=1\/j=2:=by omega
 by_cases aY:sent<lo/\lo<=3652058;refine QO ?_;refine Z9 (Z3P rfl rfl (Zi4 _ _)) rfl ?_;refine QO ?_;refine AP1 lo hr (by simp;omega) λv1 v' w' aO _=>?_
 refine QO ?_;exact QL (1,v') ⟨by dsimp only;omega,by simpa [inX,aY] using aO⟩ (by dsimp only;omega)
 . refine QO ?_
   refine Z9 (Z3P rfl rfl (Zi4 _ _)) rfl ?_;refine QO ?_;all_goals exact QL (1,dv) ⟨by dsimp only;omega,by simpa [inX,aY] using hr⟩ (by dsimp only;omega)
 have la:=hz (0<1/\inX sent lo=true) lo;by_cases aY:sent<hi/\hi<=3652058;refine QO ?_;refine Z9 (Z3P rfl rfl (Zi5 _ _)) rfl ?_;refine QO ?_;refine AP1 hi hr (by simp only [Xa];simp;split<;>simp<;>omega) λv1 v' w' aO _=>?_
 refine QO ?_;exact QL (2,v') ⟨by dsimp only;omega,by simpa [inX,aY] using aO⟩ (by dsimp only;omega)
 . refine QO ?_
   refine Z9 (Z3P rfl rfl (Zi5 _ _)) rfl ?_;repeat'(first|refine W1 ?_|omega|refine VG ?_ ?_<;>intro hg|refine VC ?_ ?_<;>intro hc)
   all_goals exact QL (2,dv) ⟨by dsimp only;omega,by simpa [inX,aY] using hr⟩ (by dsimp only;omega)
 refine QO ?_;exact QL (k+1,dv) ⟨by dsimp only;omega,by rw [ax,nJ,<- XC];simpa using hr⟩ (by dsimp only;omega);obtain rfl:k=rets.length:=by omega
 rw [Xs] at hr;have fw:=Z72 rets sent;have nK:Z0D rets sent=Z32 (Z5C rets sent):=rfl;refine QO ?_;refine CM (ZS rfl) (Zax w2 hr.1 (by omega)) ?_;rintro _ w3 ⟨rfl,bU,cF⟩;refine QO ?_;refine CM (ZS rfl) (Z5U w3 bU (by rw [Ybt];omega)) ?_;rintro dv4 w4 ⟨gD,jp,iH⟩;have gE:=λb hb=>hr.ob_le b hb;have aU:Stp [] w w4:=(hr.2.own cF (λb hb=>.inr (gE b hb).1)).own jp (λb hb=>.inr (gE b hb).1);replace gD:Row [] w4 w.heap.size 3 dv4 (Z0D rets sent):=gD;have jc:(Z0D rets sent).length<=100:=by
  have h1:(Z0D rets sent).length<=(Z5C rets sent).length:=by
   rw [nK];unfold Z32 Lib.compact Lib.compactUpTo;rw [Xy];refine Xh (XG _ _) ?_;simp
  omega
 have lc:0<(Z0D rets sent).length:=by
  have:sent∈Z0D rets sent:=((Z0v _).2 sent).2 (by simp);exact List.length_pos_of_mem this
 have ib:∀ d∈Z0D rets sent,sent<=d/\d<=3652059:=λd hd=>by
  have:=((Z0v _).2 d).1 hd;simp only [Xd,Xc,Xn,or_false,Ybf,XW,decide_eq_true_eq] at this;rcases this with (rfl|rfl)|⟨r,hr,h1,h2⟩<;>omega
 have mu:Z1w rets sent=((Z0D rets sent).zip (Z0D rets sent).tail).map (λp=>(p.1,p.2 - 1)):=rfl;rw [mu] at hY ⊢;clear mu nK hr bU cF jp fw;generalize Z0D rets sent=D at *;have dz:SlV [] w4 dv4 D:=gD.slv (by simp);have xg:=dz.max;have nL:((D.zip D.tail).map (λp=>(p.1,p.2 - 1))).length=D.length - 1:=by simp
 have um:∀ b∈ob dv4,w.heap.size<=b:=λb hb=>(gD.ob_le b hb).1;refine QO ?_
 refine Zm (σ:=Nat×List Nat) (λq=>[(0,.func (.yield l) #[] #[]),(4,dv4),(46,.I ((D.length:Int) - 1)),(47,.I q.1)])
  (λq w'=>q.1<=D.length - 1/\J (((D.zip D.tail).map (λp=>(p.1,p.2 - 1))).take q.1) q.2 w'/\SlV q.2 w' dv4 D/\Stp F w w'/\∀ b∈q.2,b∈F\/w.heap.size<=b) (λq=>D.length - q.1) (0,F) ⟨rfl,rfl,rfl,rfl,trivial⟩
  ⟨by omega,by simpa using rC _ _ _ _ h0 aU,Row.slv (JO (X':=F) gD) hF,aU.mn,λb hb=>.inl hb⟩ ?_
 clear dz aU;rintro ⟨k,G⟩ w5 ⟨hk,hJ,au,hS,hG⟩;dsimp only at hk hJ au hG ⊢;generalize hZ:(D.zip D.tail).map (λp=>(p.1,p.2 - 1))=Z at *;by_cases d6:k<D.length - 1;have rE:k<Z.length:=by omega
 have bz:k<D.length:=by omega
 have cA:k+1<D.length:=by omega
 have rF:Z[k]=(D[k],D[k+1] - 1):=by subst hZ;simp
 obtain ⟨d1,d2⟩:=ib _ (Xb bz);obtain ⟨d3,d4⟩:=ib _ (Xb cA);refine QO ?_;refine ZeX 5 14 (G) [(0,0),(1,0),(2,0),(3,0),(4,1),(5,0),(6,0),(7,0),(8,0),(9,1),(10,0),(11,0),(12,2),(13,0)] rfl mixed (by kernel_rfl) (by kernel_rfl) (by kernel_rfl) (λw1 ae=>?_);replace hJ:=rC _ _ _ _ hJ ae;replace au:=au.up ae;replace hS:=hS.trans ae.mn;refine Z0f rfl (λw'=>ZX rfl) rfl ?_;refine Z0f rfl (λw'=>ZX rfl) rfl ?_;refine Z0f rfl (λw'=>ZX rfl) rfl ?_;refine Z0f rfl (λw'=>Z2z (i:=k) rfl au rfl rfl bz) rfl ?_;refine ZaP rfl (λw' hS=>Z2A rfl rfl (au.ext hS (λb hb=>hb) (λ_ h=>.inl h)) bz rfl rfl) rfl ?_;refine Z0f rfl (λw'=>ZX rfl) rfl ?_;refine Z0f rfl (λw'=>ZX rfl) rfl ?_;refine Z0f rfl (λw'=>Zg7 rfl rfl (by unfold I64;omega)) rfl ?_;refine Z0f rfl (λw'=>Z2z (i:=k+1) rfl au rfl (by omega) cA) rfl ?_;refine ZaP rfl (λw' hS=>Z2A rfl rfl (au.ext hS (λb hb=>hb) (λ_ h=>.inl h)) cA rfl rfl) rfl ?_;refine Z0f rfl (λw'=>Z5m rfl rfl (by unfold I64;omega)) rfl ?_;refine Z0f rfl (λw'=>Z0G (vs:=[(0,.I D[k]),(1,.I (D[k+1] - 1))]) rfl (Zi6 _ _)) rfl ?_;have rG:=hY (Z.take k) Z[k] G w1 hJ (by rw [<- Xg rE];exact List.take_prefix _ _);rw [rF] at rG;refine ZeY rfl rfl rfl rG (λW' h=>h.choose_spec.2.1) rfl ?_;rintro W' ⟨G',lE,rH,kY⟩;refine Z0f rfl (λw'=>ZbT rfl) rfl ?_;refine Zlp ?_;refine QO ?_;refine QL (k+1,G') ⟨by dsimp only;omega,by rw [Xg rE,rF];exact lE,?_,hS.own rH hG,λb hb=>?_⟩ (by dsimp only;omega);exact au.ext rH (λb hb=>hb) kY;rcases kY b hb with h|h
 exact hG b h;exact .inr (by have:=hS.size;omega);refine QO ?_;refine WR ?_;have fE:k=Z.length:=by omega
 rw [fE,Xs] at hJ;exact .mk ⟨G,hJ,hS,hG⟩
end Go.Proofs.YtgdicjnjhchooaaGreatDoor
namespace Go.Eng
open Go Go.RowKit Go.Proofs
variable {P:Program} {n:Nat} {Q:Exit->Act->World->Prop} {e:Env} {w w0:World} {rest:List Oper} {ops:Array Oper} {ty ty':TypeId} {pos pos':String} {af af':Array Edge}
theorem Za.slv1 {α:Type} [Z6 α] {X:List Nat} {T:Nat} {cs:List Value} {v:Value} {w':World} {y:α} (h:Za w T 1 cs v w') (hX:∀ b∈X,b<w.heap.size) (hr:Z6.rep X w y cs):SlV X w' v [y]:=by
 obtain ⟨b,rfl,hb,hk,hT⟩:=h;refine ⟨some ⟨b,0,none⟩,1,rfl,Xl _,by simp [maxLen],by simp,λi hi=>?_⟩;obtain rfl:i=0:=by simpa using hi
 refine ⟨b,0,cs,rfl,hk.lt,λiu=>by have:=hX b iu;omega,Z6.ext hr hT (by simp) (λc hc=>.inl hc),λj u hu=>?_⟩;simpa using hk.cell hu
theorem APG {α:Type} [Z6 α] {X:List Nat} {T t bytes d1 d2 base:Nat} {x y:Operand} {v z0 u:Value} {cs:List Value} {xs:List α} [ht:Und P t (.slice T)] [hk:Siz P T (Z6.k α)] [hb:Byt P T bytes] [hz:Zer P T z0] (z:α) (hr:Row X w base T v xs) (hX:∀ b∈X,b<w.heap.size) (dw:base<=w.heap.size)
 (fu:Z6.rep (ob v++X) w z cs) (hl:(xs.length+1) * bytes<=140737488355328) (eT:xs.length+1<=maxLen)
 (k:∀ v1 v' w',Row X w' base T v' (xs++[z])->Stp (ob v) w w'->(∀ b∈ob v',b∈ob v\/w.heap.size<=b)->WL P n ops Q rest ((d2,v') :: (d1,v1) :: e) w')
 (hx:ev e x=some v:=by exact rfl) (hy:Jm e [(0,y)]=some [(0,u)]:=by exact rfl) (bj:∀ w:World,(Instr.buildSlice t 1 #[(0,u)]).run P w=.ok (.slice (some ⟨w.heap.size,0,none⟩) 1 1) (w.alloc (.cells cs.toArray T)):=by intro w;kernel_rfl)
 (kV:∀ v1,ev ((d1,v1) :: e) x=some v:=by intro _;exact rfl) (iw:∀ v1,ev ((d1,v1) :: e) (.tmp d1)=some v1:=by intro _;exact rfl)
 (dW:z0.cells.size=Z6.k α:=by exact rfl) (aZ:0<Z6.k α:=by decide) (h1:Nat.blt d1 n=true:=by exact rfl) (h2:Nat.blt d2 n=true:=by exact rfl) :
 WL P n ops Q (⟨some d1,.buildSlice t 1 #[(0,y)],ty,pos,af,none⟩ :: ⟨some d2,.call { callee:=.builtin .append,args:=#[x,.tmp d1],argTypes:=#[t,t] },ty',pos',af',none⟩ :: rest) e w:=by
 refine Z0 (Z1 (l:=[(0,y)]) (vs:=[(0,u)]) hy bj) h1 ?_;intro v1 w1 hN;have hT:Stp [] w w1:=hN.choose_spec.2.2.2;have aI:SlV (ob v++X) w1 v1 [z]:=hN.slv1 (λb hb=>by
  rcases Xd.1 hb with h|h
  exact (hr.ob_le b h).2;exact hX b h) fu
 refine Z0 (ZC (X:=X) (base:=base) dW aZ (kV v1) (iw v1) (hr.up hT) aI (by simpa using hl) (by simpa using eT) (Xh dw hT.size)) h2 ?_;rintro v' w2 ⟨g1,g2,g3⟩;exact k v1 v' w2 g1 (hT.mn.trans g2) (λb hb=>(g3 b hb).imp id (Xh hT.size))
end Go.Eng
namespace Go.Proofs.YtgdicjnjhchooaaGreatDoor
open Go Go.Eng Go.RowKit
theorem Z9r {P:Program} {f:FuncId} {fn:Func} {c:Code} {args:Array Value} {w} {R:Ending->World->Prop} {n:Nat} (hf:P.funcs[f]?=some fn) (hb:fn.body=some c)
 (hn:fn.ntmps=n) (hs:Nat.ble args.size n=true) (h:WC P n c (bodyPostM Fence.wide 5 P fn R) (Z39 args.toList 0) w):Calls P f args w R:=by
 refine (callsIn_wide (n:=5)).1 (callsIn_of_wp_marks hf hb trivial ((wpIn_wide (n:=5)).2 (h.h _ ?_)));rw [hn];have du:args.size<=n:=Xj hs;refine ⟨rfl,by simp;omega,λt v hv=>?_⟩;obtain ⟨_,h2⟩:=Z3a _ _ _ _ hv;simp only [Nat.sub_zero] at h2;have hlt:t<args.size:=by
  have:=(Xw.1 h2).1;simpa using this
 have:args[t]?=some v:=by simpa using h2
 have h3:(args++Array.replicate (n - args.size) undef)[t]?=some v:=by
  rw [X3 hlt];exact this
 simp [XH,h3]
theorem Zf1 {P:Program} {n:Nat} {fn:Func} {R:Ending->World->Prop} {e:Env} {w:World} {D t u:Nat} {v x:Value} (hr:fn.results=#[.tmp t,.tmp u]) (ht:Eng.look e t=some v) (hu:Eng.look e u=some x) (hd:w.heap[D]?=some (.deferred (some [])))
 (h:R (.returned (.tuple #[v,x])) (w.putObj D (.deferred none))):WQD [{ target:=.collected D,args:=#[] }] n (bodyPostM Fence.wide 5 P fn R) .ret e w:=by
 refine ⟨λa ha=>?_⟩;show LeavesInM Fence.wide 5 P fn (Z0C _ a).tmps R (Z0C _ a).defers .returning w;have uo:(Z0C [{ target:=.collected D,args:=#[] }] a).defers=[{ target:=.collected D,args:=#[] }]:=by unfold Z0C;rw [ha.defers];rfl
 rw [uo];refine ⟨by simp,.inl ⟨D,_,rfl,run_takeDeferred hd,?_⟩⟩;refine ⟨.tuple #[v,x],?_,h⟩;have h1:=ha.vals t v ht;have h2:=ha.vals u x hu;have h3:(Z0C [{ target:=.collected D,args:=#[] }] a).tmps=a.tmps:=rfl;rw [XH] at h1 h2;rw [h3];simp [results,hr,h1,h2]
theorem Z9s (lv:Value) (l:List Rtn) (sent:Int) (w) (hl:SlV [] w lv l):CC 170 #[lv,.I sent] w λr w'=>∃ bL bS,r=.func (.func 231) #[] #[pQ bS,pQ bL]/\
 Blk w' bS 3 [.I sent]/\Blk w' bL 75 [lv]/\w.heap.size<=bL/\w.heap.size<=bS/\Stp [] w w':=by
 refine cW2 6 Tryz.func170 ?_;refine W ?_;refine Z0 (Z8O rfl hl) rfl ?_;rintro _ w1 ⟨bL,rfl,hL,kL,hS⟩;have z1:=hS.size;refine BX hS λbS w2 aj kS hT hS=>?_;replace kS:Blk w2 bS 3 [.I sent]:=kS;replace kL:=kL.up hT;refine RT ?_;exact ⟨bL,bS,rfl,kS,kL,hL,by omega,hS⟩
theorem Zi8 {l:List Rtn} {sent:Int} (h:l.length<=32):(Z0D l sent).length<=66:=by
 have nK:Z0D l sent=Z32 (Z5C l sent):=rfl;have h2:=Z72 l sent;have h1:(Z0D l sent).length<=(Z5C l sent).length:=by
  rw [nK];unfold Z32 Lib.compact Lib.compactUpTo;rw [Xy];refine Xh (XG _ _) ?_;simp
 omega
theorem Zi9 {l:List Rtn} {sent:Int} (h:l.length<=32):(Z1w l sent).length<=66:=by
 have:=Zi8 (sent:=sent) h;unfold Z1w;rw [Xy,List.length_zip];omega
theorem Zf2 (l:List Rtn) (crrs:List Crr) (s:AlS) (x:Spn):(JX l crrs s x).out.length<=s.out.length+1:=by
 unfold JX;dsimp only;split;omega;have ht:(if ZA l crrs x.1<s.least then (⟨ZA l crrs x.1,false,[]⟩:AlS) else s).out.length<=s.out.length:=by
  split<;>simp
 generalize (if ZA l crrs x.1<s.least then (⟨ZA l crrs x.1,false,[]⟩:AlS) else s)=t at *;split;split<;>simp<;>omega
 simp;omega
theorem Z8f (l:List Rtn) (crrs:List Crr):∀ (L:List Spn) (s:AlS),(L.foldl (JX l crrs) s).out.length<=s.out.length+L.length
 | [],s=>by simp
 | x :: L, s => by
   have h1:=Z8f l crrs L (JX l crrs s x);have h2:=Zf2 l crrs s x;rw [X5,Xe];omega
theorem Zia (l:List Rtn) (crrs:List Crr) (s:AlS) (x:Spn) (h:¬ s.least<ZA l crrs x.1) {t:AlS} (ht:t=if ZA l crrs x.1<s.least then ⟨ZA l crrs x.1,false,[]⟩ else s) :
 (t.out=[]->JX l crrs s x={ t with out:=[x] })/\(∀ M u,t.out=M++[u]->JX l crrs s x={ t with out:=if u.2=x.1 - 1 then M++[(u.1,x.2)] else M++[u]++[x] }):=by
 unfold JX;dsimp only;rw [if_neg h,<- ht];clear ht;constructor;intro h0;rw [h0];rfl;intro M u h0;rw [h0];simp only [List.getLast?_append,List.getLast?_singleton,Option.some_or];split<;>simp
structure AlJ (w0:World) (l:List Rtn) (crrs:List Crr) (b8 b9 b10:Nat) (pre:List Spn) (F:List Nat) (W:World):Prop where
 ex:∃ ov,F=b8 :: b9 :: b10 :: ob ov/\Blk W b10 27 [ov]/\Row [] W w0.heap.size 94 ov (pre.foldl (JX l crrs) ⟨ZA l crrs (-1),true,[]⟩).out
 k8:Blk W b8 3 [.I (pre.foldl (JX l crrs) ⟨ZA l crrs (-1),true,[]⟩).least]
 k9:Blk W b9 4 [.B (pre.foldl (JX l crrs) ⟨ZA l crrs (-1),true,[]⟩).never]
 stp:Stp [b8,b9,b10] w0 W
theorem Z9t {β:Type} [Z2 β] {X S:List Nat} {w w':World} {base T:Nat} {v:Value} {xs:List β} (h:Row X w base T v xs) (hS:Stp S w w') (hn:∀ b∈S,b∉ob v):Row X w' base T v xs:=
 JO (Row.ext (JO (X':=S) h) hS (λb hb=>⟨hb,hn b hb⟩) (λb hb=>.inl hb))
theorem AlJ.stay {w0 W W':World} {l:List Rtn} {crrs:List Crr} {b8 b9 b10:Nat} {pre:List Spn} {F S:List Nat} (h:AlJ w0 l crrs b8 b9 b10 pre F W) (hS:Stp S W W') (hd:∀ b∈S,w0.heap.size<=b/\b∉F):AlJ w0 l crrs b8 b9 b10 pre F W':=by
 obtain ⟨⟨ov,rfl,k10,hr⟩,k8,k9,ax⟩:=h;exact ⟨⟨ov,rfl,k10.ext hS (λh=>(hd _ h).2 (by simp)),Z9t hr hS (λb hb h=>(hd b hb).2 (by simp [h]))⟩,k8.ext hS (λh=>(hd _ h).2 (by simp)),k9.ext hS (λh=>(hd _ h).2 (by simp)),ax.own hS (λb hb=>.inr (hd b hb).1)⟩
theorem ZaU (lv cv:Value) (l:List Rtn) (crrs:List Crr) (sent:Int) (w) (hl:SlV [] w lv l) (hc:SlV [] w cv crrs) (ho:Zlr l crrs) (fD:0<=sent/\sent<=3652058) :
 CC 99 #[lv,cv,.I sent] w λv w'=>∃ ov,v=.tuple #[ov,.B (Z9p l crrs sent).never]/\SlV [] w' ov (Z9p l crrs sent).out/\Stp [] w w':=by
 refine Z9r (n:=62) Tryz.func99 rfl rfl rfl ?_;refine W ?_;refine Z0 (Z8O rfl hl) rfl ?_;rintro _ w1 ⟨b3,rfl,h3,e3,hS⟩;refine Z0 (Z8O rfl hc) rfl ?_;rintro _ w2 ⟨b4,rfl,h4,e4,hT⟩;replace e3:=e3.up hT;replace hS:=hS.trans hT;clear hT;refine W ?_;refine CP hS (Z70 lv cv l crrs (-1) _ (hl.up hS) (hc.up hS) ho.len ho.crr ho.tol) λw3 hT hS=>?_;replace e3:=e3.up hT;replace e4:=e4.up hT;clear hT;refine Z0 Z4 rfl ?_;rintro _ w4 ⟨b8,rfl,dG,e8,hT⟩;replace e8:Blk w4 b8 3 [.I 0]:=e8;refine S1 e8 ?_;rintro _ w5 ⟨an,e8⟩;replace hT:=hT.ow an;have l3:=e3.lt;have l4:=e4.lt;replace e3:=e3.up hT;replace e4:=e4.up hT;have g8:w.heap.size<=b8:=Xh hS.size dG;replace hS:=hS.trans hT;clear hT an;refine W ?_;refine Z0 Z4 rfl ?_;rintro _ w6 ⟨b9,rfl,ee,e9,hT⟩;replace e9:Blk w6 b9 4 [.B false]:=e9;refine S1 e9 ?_;rintro _ w7 ⟨an,e9⟩;replace hT:=hT.ow an;have l8:=e8.lt;replace e3:=e3.up hT;replace e4:=e4.up hT;replace e8:=e8.up hT;replace hS:=hS.trans hT;clear hT an;refine W ?_;refine Z0 Z4 rfl ?_;rintro _ w8 ⟨b10,rfl,eP,e10,hT⟩;have l9:=e9.lt;replace e3:=e3.up hT;replace e4:=e4.up hT;replace e8:=e8.up hT;replace e9:=e9.up hT;replace hS:=hS.trans hT;clear hT;refine W ?_;refine CG (Z9s lv l sent _ (hl.up hS)) ?_;rintro _ w9 ⟨bL,bS,rfl,kS,kL,gL,gS,hT⟩;have l10:=e10.lt;have z8:=hS.size;replace e3:=e3.up hT;replace e4:=e4.up hT;replace e8:=e8.up hT;replace e9:=e9.up hT;replace e10:=e10.up hT;replace hS:=hS.trans hT;clear hT;refine W ?_;replace e10:Blk w9 b10 27 [.N]:=e10;have q8:=e8.lt;have q9:=e9.lt;have q10:=e10.lt;refine ZjF [(3,pQ b3),(4,pQ b4),(8,pQ b8),(9,pQ b9),(10,pQ b10),(19,.func (.func 231) #[] #[pQ bS,pQ bL])] ⟨rfl,rfl,rfl,rfl,rfl,rfl,trivial⟩ ?_;refine Zi1 (α:=Spn) (E:=λx b=>[(3,pQ b3),(4,pQ b4),(8,pQ b8),(9,pQ b9),(10,pQ b10),(11,pQ b)]) (T:=94) (cs:=Z2.enc) (λx=>aG x) rfl rfl (Z1w l sent) (AlJ w9 l crrs b8 b9 b10) [b8,b9,b10] ?_ ?_ ?_ ?_ ?_ ?_ ?_;rintro pre F W ⟨⟨ov,rfl,k10,hr⟩,k8,k9,ax⟩ b hb;simp only [Xc] at hb;rcases hb with rfl|rfl|rfl|hb
 exact k8.lt;exact k9.lt;exact k10.lt;exact (hr.ob_le b hb).2;exact λpre F W W' S h hS hd=>h.stay hS hd;exact ⟨⟨.N,rfl,e10,Row.nil⟩,e8,e9,Stp.refl _ _⟩;intro l' Y j0 dL xh;have zY:=j0.size;have zw:=hS.size;have kSl:=kS.lt;have kLl:=kL.lt;refine Z9q l' _ Y bS bL lv l sent crrs ho fD (kS.up j0) (kL.up j0) (hl.ext (hS.trans j0) (by simp) (λb hb=>.inr (by
  simp only [Xc,Xn,or_false] at hb;omega))) (λb hb=>by
  simp only [Xc,Xn,or_false] at hb;omega) (by simp only [Xc,Xn,or_false];omega) (by simp only [Xc,Xn,or_false];omega)
 intro l' x Y Z dN hk;refine ZF rfl (λa w h=>dN a w h) ?_;refine Z0 Z4 rfl ?_;rintro _ Ya ⟨b,rfl,hb,kb,hT⟩;refine SA (us:=Z2.enc x) kb ?_;rintro _ Yb ⟨an,kb⟩;refine W ?_;exact ZjG [(3,pQ b3),(4,pQ b4),(8,pQ b8),(9,pQ b9),(10,pQ b10),(11,pQ b)] ⟨rfl,rfl,rfl,rfl,rfl,rfl,trivial⟩ (hk b Yb hb kb (hT.ow an));intro l' pre x b11 F Y Z hJ cH k11 nM gC dN hZ;obtain ⟨⟨ov,rfl,k10,hr⟩,k8,k9,ax⟩:=hJ;have rI:x∈Z1w l sent:=cH.subset (by simp);have xi:=Z71 fD rI;have fw:pre.length<=66:=by
  have h1:=cH.length_le;have h2:=Zi9 (sent:=sent) ho.len;rw [Xa] at h1;omega
 have mw:=Z8f l crrs pre ⟨ZA l crrs (-1),true,[]⟩;have fY:(pre++[x]).foldl (JX l crrs) ⟨ZA l crrs (-1),true,[]⟩=JX l crrs (pre.foldl (JX l crrs) ⟨ZA l crrs (-1),true,[]⟩) x:=by simp
 have j0:Stp [] w Y:=hS.own ax (λb hb=>by simp at hb;rcases hb with rfl|rfl|rfl<;>exact .inr (by omega));have f3:=e3.ext ax (by simp;omega);have f4:=e4.ext ax (by simp;omega);have dE:=λb hb=>hr.ob_le b hb;have zst:=ax.size;simp only [Xi] at mw;generalize pre.foldl (JX l crrs) ⟨ZA l crrs (-1),true,[]⟩=s at *;obtain ⟨least,never,out⟩:=s;dsimp only at k8 k9 hr mw;have l8y:=k8.lt;have l9y:=k9.lt;have l10y:=k10.lt;focus repeat'(first|refine W1 ?_|refine Jd ?_|refine JD ?_|refine ZU ?_|refine ZF rfl (λa w h=>dN a w h) ?_|refine Je ?_|refine Jf ?_|refine J9 rfl ?_|refine ZP rfl ?_|refine Zy ?_|refine Zt ?_|refine ZB rfl ?_|refine J8 ?_)
 refine CP (Stp.refl [] Y) (Z70 lv cv l crrs x.1 _ (hl.up j0) (hc.up j0) ho.len ho.crr ho.tol) λY1 hT _=>?_;replace k8:=k8.up hT;replace k9:=k9.up hT;replace k10:=k10.up hT;replace k11:=k11.up hT;replace f3:=f3.up hT;replace f4:=f4.up hT;replace hr:=hr.up hT;have j6:=ax.trans hT.mn;have hstep:=λh=>@Zia l crrs ⟨least,never,out⟩ x h _ rfl;have gF:least<ZA l crrs x.1->JX l crrs ⟨least,never,out⟩ x=⟨least,never,out⟩:=λh=>by unfold JX;dsimp only;rw [if_pos h]
 dsimp only at hstep gF;generalize ZA l crrs x.1=E at *;by_cases h1:least<E;rw [gF h1] at fY;focus repeat'(first|refine W1 ?_|refine Jd ?_|refine JD ?_|refine ZU ?_|refine ZF rfl (λa w h=>dN a w h) ?_|refine Je ?_|refine Jf ?_|refine J9 rfl ?_|refine ZP rfl ?_|refine Zy ?_|refine Zt ?_|refine ZB rfl ?_|refine J8 ?_|omega|(refine Z3r rfl ?_ ?_<;>intro hc))
 exact ⟨λa ha=>hZ a _ Y1 ⟨⟨ov,rfl,k10,by rw [fY];exact hr⟩,by rw [fY];exact k8,by rw [fY];exact k9,j6⟩ hT.mn (λb hb=>.inl hb)⟩;have hstep:=hstep h1;clear gF f3 f4;generalize bP:JX l crrs ⟨least,never,out⟩ x=s' at *;generalize ht:(if E<least then (⟨E,false,[]⟩:AlS) else ⟨least,never,out⟩)=t at *;have uq:t.out.length<=66:=by rw [<- ht];split<;>simp<;>omega
 focus repeat'(first|refine W1 ?_|refine Jd ?_|refine JD ?_|refine ZU ?_|refine ZF rfl (λa w h=>dN a w h) ?_|refine Je ?_|refine Jf ?_|refine J9 rfl ?_|refine ZP rfl ?_|refine Zy ?_|refine Zt ?_|refine ZB rfl ?_|refine J8 ?_)
 refine Z3r rfl (λhc=>absurd hc h1) (λhc=>?_);focus repeat'(first|refine W1 ?_|refine Jd ?_|refine JD ?_|refine ZU ?_|refine ZF rfl (λa w h=>dN a w h) ?_|refine Je ?_|refine Jf ?_|refine J9 rfl ?_|refine ZP rfl ?_|refine Zy ?_|refine Zt ?_|refine ZB rfl ?_|refine J8 ?_)
 refine Zi0 (σ:=Value) (λ_=>[(10,pQ b10),(11,pQ b11)]) (λov' W'=>Blk W' b8 3 [.I t.least]/\Blk W' b9 4 [.B t.never]/\Blk W' b10 27 [ov']/\Row [] W' w9.heap.size 94 ov' t.out/\Blk W' b11 94 (Z2.enc x)/\Stp [b8,b9,b10] Y1 W'/\∀ b∈ob ov',b∈ob ov) ?_ ?_;by_cases h2:E<least;rw [if_pos h2] at ht;subst ht;focus repeat'(first|refine W1 ?_|refine Jd ?_|refine JD ?_|refine ZU ?_|refine ZF rfl (λa w h=>dN a w h) ?_|refine Je ?_|refine Jf ?_|refine J9 rfl ?_|refine ZP rfl ?_|refine Zy ?_|refine Zt ?_|refine ZB rfl ?_|refine J8 ?_|omega|(refine Z3r rfl ?_ ?_<;>intro hc))
 refine S1 (u:=.I E) k8 ?_;rintro _ Y2 ⟨hA,k8⟩;replace k9:=k9.ext hA (by simp;omega);replace k10:=k10.ext hA (by simp;omega);replace k11:=k11.ext hA (λh=>nM (by simp at h;subst h;simp));refine S1 (u:=.B false) k9 ?_;rintro _ Y3 ⟨hB,k9⟩;replace k8:=k8.ext hB (by simp;omega);replace k10:=k10.ext hB (by simp;omega);replace k11:=k11.ext hB (λh=>nM (by simp at h;subst h;simp));refine S1 (u:=.N) k10 ?_;rintro _ Y4 ⟨hC,k10⟩;replace k8:=k8.ext hC (by simp;omega);replace k9:=k9.ext hC (by simp;omega);replace k11:=k11.ext hC (λh=>nM (by simp at h;subst h;simp));focus repeat'(first|refine W1 ?_|refine Jd ?_|refine JD ?_|refine ZU ?_|refine ZF rfl (λa w h=>dN a w h) ?_|refine Je ?_|refine Jf ?_|refine J9 rfl ?_|refine ZP rfl ?_|refine Zy ?_|refine Zt ?_|refine ZB rfl ?_|refine J8 ?_)
 exact QT (.N) ⟨k8,k9,k10,Row.nil,k11,(hA.mn.trans hB.mn).trans hC.mn,by simp [ob]⟩;rw [if_neg h2] at ht;subst ht;focus repeat'(first|refine W1 ?_|refine Jd ?_|refine JD ?_|refine ZU ?_|refine ZF rfl (λa w h=>dN a w h) ?_|refine Je ?_|refine Jf ?_|refine J9 rfl ?_|refine ZP rfl ?_|refine Zy ?_|refine Zt ?_|refine ZB rfl ?_|refine J8 ?_|omega|(refine Z3r rfl ?_ ?_<;>intro hc))
 exact QT ov ⟨k8,k9,k10,hr,k11,Stp.refl _ _,λb hb=>hb⟩;clear k8 k9 k10 k11 hr ht;rintro ov' Y2 ⟨k8,k9,k10,hr,k11,hA,iI⟩;have zA:=hA.size;have zT:=hT.size;have gG:=λb hb=>hr.ob_le b hb;have bN:SlV [] Y2 ov' t.out:=hr.slv (by simp);obtain ⟨hq1,hq2⟩:=hstep;obtain ⟨tl,tn,oo⟩:=t;dsimp only at k8 k9 hr bN gG hq1 hq2 uq;have mx:b8∉ob ov':=λh=>by have:=gG _ h;omega
 have my:b9∉ob ov':=λh=>by have:=gG _ h;omega
 have fp:b10∉ob ov':=λh=>by have:=gG _ h;omega
 have rJ:b11∉ob ov':=λh=>nM (by have:=iI _ h;simp [this])
 have fin:∀ (nv:Value) (W':World),Blk W' b8 3 [.I s'.least]->Blk W' b9 4 [.B s'.never]->Blk W' b10 27 [nv]->Row [] W' w9.heap.size 94 nv s'.out->Stp (b10 :: ob ov') Y2 W'->(∀ b∈ob nv,b∈ob ov'\/Y2.heap.size<=b)->∀ a,Z .normal a W':=λnv W' g8 g9 g10 gr gs gn a=>
  hZ a (b8 :: b9 :: b10 :: ob nv) W' ⟨⟨nv,rfl,g10,by rw [fY];exact gr⟩,by rw [fY];exact g8,by rw [fY];exact g9,(j6.trans hA).own gs (λb hb=>by
   rcases Xc.1 hb with rfl|hb
   exact .inl (by simp);exact .inr (gG b hb).1)⟩ ((((hT.mono (S':=b8 :: b9 :: b10 :: ob ov) (by simp)).trans hA.mn).trans (gs.mono (λb hb=>by
   rcases Xc.1 hb with rfl|hb
   simp;simp [iI b hb])))) (λb hb=>by
   simp only [Xc] at hb ⊢;rcases hb with rfl|rfl|rfl|hb
   exact .inl (.inl rfl);exact .inl (.inr (.inl rfl));exact .inl (.inr (.inr (.inl rfl)));rcases gn b hb with h|h
   exact .inl (.inr (.inr (.inr (iI b h))));exact .inr (by omega))
 clear hA iI dE j6;have app:∀ (Y3:World),Stp [] Y2 Y3->s'=⟨tl,tn,oo++[x]⟩->∀ (nv:Value) (Y4 Y5:World),Row [] Y4 w9.heap.size 94 nv (oo++[x])->Stp (ob ov') Y3 Y4->(∀ b∈ob nv,b∈ob ov'\/Y3.heap.size<=b)->Stp [b10] Y4 Y5->Blk Y5 b10 27 [nv]->∀ a,Z .normal a Y5:=λY3 g1 gs nv Y4 Y5 g2 g3 g4 g5 g6 a=>by
  subst gs;have q8:=(((k8.up g1).ext g3 mx).ext g5 (by simp;omega))
  have q9:=(((k9.up g1).ext g3 my).ext g5 (by simp;omega))
  have ph:b10∉ob nv:=λh=>by
   rcases g4 _ h with h|h
   exact fp h;have:=g1.size;omega
  exact fin nv Y5 q8 q9 g6 (Z9t g2 g5 (λb hb h=>ph (by simp at hb;subst hb;exact h))) ((g1.mn.trans (g3.mono (λb hb=>by simp [hb]))).trans g5.mn) (λb hb=>(g4 b hb).imp id (λh=>by have:=g1.size;omega)) a
 focus repeat'(first|refine W1 ?_|refine Jd ?_|refine JD ?_|refine ZU ?_|refine ZF rfl (λa w h=>dN a w h) ?_|refine Je ?_|refine Jf ?_|refine J9 rfl ?_|refine ZP rfl ?_|refine Zy ?_|refine Zt ?_|refine ZB rfl ?_|refine J8 ?_)
 rcases Yaj oo with rfl|⟨M,u,rfl⟩
 have aX:=hq1 rfl;refine Z8e 14 [] [] [(0,0),(1,0),(2,0),(3,1),(4,0),(5,0),(6,0),(7,0),(8,1),(9,0),(10,1),(11,0),(12,0),(13,0)] rfl mixed (by kernel_rfl) (by kernel_rfl) (by kernel_rfl) rfl (λw1 ae=>?_);replace k10:=k10.up ae;replace k11:=k11.up ae;replace hr:=hr.up ae;refine D ?_;focus repeat'(first|refine W1 ?_|refine Jd ?_|refine JD ?_|refine ZU ?_|refine ZF rfl (λa w h=>dN a w h) ?_|refine Je ?_|refine Jf ?_|refine J9 rfl ?_|refine ZP rfl ?_|refine Zy ?_|refine Zt ?_|refine ZB rfl ?_|refine J8 ?_)
 refine APG (X:=[]) (base:=w9.heap.size) x hr (by simp) (by have:=ae.size;omega) rfl (by simp) (by simp [maxLen]) λv1 nv Y4 gD jp iH=>?_
 replace k10:=k10.ext jp fp;focus repeat'(first|refine W1 ?_|refine Jd ?_|refine JD ?_|refine ZU ?_|refine ZF rfl (λa w h=>dN a w h) ?_|refine Je ?_|refine Jf ?_|refine J9 rfl ?_|refine ZP rfl ?_|refine Zy ?_|refine Zt ?_|refine ZB rfl ?_|refine J8 ?_)
 have dz:SlV [] Y4 nv ([]++[x]):=gD.slv (by simp);refine Z8 (Zb (u:=nv) rfl rfl dz.cells dz.one k10 (by simp)) ?_;rintro _ Y5 ⟨dO,k10⟩;focus repeat'(first|refine W1 ?_|refine Jd ?_|refine JD ?_|refine ZU ?_|refine ZF rfl (λa w h=>dN a w h) ?_|refine Je ?_|refine Jf ?_|refine J9 rfl ?_|refine ZP rfl ?_|refine Zy ?_|refine Zt ?_|refine ZB rfl ?_|refine J8 ?_)
 exact ⟨λa ha=>app w1 ae aX nv Y4 Y5 gD jp iH dO k10 a⟩;rw [Yak] at *;have aX:=hq2 M u rfl;have mg:((M++[u]).length:Int) - 1=(M.length:Nat):=by simp
 have kX:M.length<(M++[u]).length:=by simp
 have cZ:(M++[u])[M.length]=u:=by simp
 have fb:0<((M++[u]).length:Int):=by simp
 refine Z8e 14 [] [] [(0,0),(1,0),(2,0),(3,1),(4,0),(5,0),(6,0),(7,0),(8,1),(9,0),(10,1),(11,0),(12,0),(13,0)] rfl mixed (by kernel_rfl) (by kernel_rfl) (by kernel_rfl) rfl (λw1 ae=>?_);replace k10:=k10.up ae;replace k11:=k11.up ae;replace hr:=hr.up ae;replace bN:=bN.up ae;refine QD ?_;rw [cZ];focus repeat'(first|refine W1 ?_|refine Jd ?_|refine JD ?_|refine ZU ?_|refine ZF rfl (λa w h=>dN a w h) ?_|refine Je ?_|refine Jf ?_|refine J9 rfl ?_|refine ZP rfl ?_|refine Zy ?_|refine Zt ?_|refine ZB rfl ?_|refine J8 ?_)
 refine Z3r rfl (λhc=>?_) (λhc=>?_);rw [if_pos hc] at aX;focus repeat'(first|refine W1 ?_|refine Jd ?_|refine JD ?_|refine ZU ?_|refine ZF rfl (λa w h=>dN a w h) ?_|refine Je ?_|refine Jf ?_|refine J9 rfl ?_|refine ZP rfl ?_|refine Zy ?_|refine Zt ?_|refine ZB rfl ?_|refine J8 ?_)
 refine Z8 (Z3I (i:=M.length) (y':=(u.1,x.2)) (u:=.I x.2) rfl rfl rfl rfl rfl hr kX (by decide) (by rw [cZ];rfl)) ?_;rintro _ Y5 ⟨rK,dO⟩;focus repeat'(first|refine W1 ?_|refine Jd ?_|refine JD ?_|refine ZU ?_|refine ZF rfl (λa w h=>dN a w h) ?_|refine Je ?_|refine Jf ?_|refine J9 rfl ?_|refine ZP rfl ?_|refine Zy ?_|refine Zt ?_|refine ZB rfl ?_|refine J8 ?_)
 rw [show (M++[u]).set M.length (u.1,x.2)=M++[(u.1,x.2)] by simp] at rK;have ur:=(k8.up ae).ext dO mx;have ut:=(k9.up ae).ext dO my;have pj:=k10.ext dO fp;refine ⟨λa ha=>fin ov' Y5 (by rw [aX];exact ur) (by rw [aX];exact ut) pj (by rw [aX];exact rK) (ae.mn.trans (dO.mono (λb hb=>by simp [hb]))) (λb hb=>.inl hb) a⟩;rw [if_neg hc] at aX;focus repeat'(first|refine W1 ?_|refine Jd ?_|refine JD ?_|refine ZU ?_|refine ZF rfl (λa w h=>dN a w h) ?_|refine Je ?_|refine Jf ?_|refine J9 rfl ?_|refine ZP rfl ?_|refine Zy ?_|refine Zt ?_|refine ZB rfl ?_|refine J8 ?_)
 refine APG (X:=[]) (base:=w9.heap.size) x hr (by simp) (by have:=ae.size;omega) rfl (Xh (Xu _ (show (M++[u]).length+1<=1000 by omega)) (by decide)) (by simp only [maxLen];omega) λv1 nv Y4 gD jp iH=>?_
 replace k10:=k10.ext jp fp;focus repeat'(first|refine W1 ?_|refine Jd ?_|refine JD ?_|refine ZU ?_|refine ZF rfl (λa w h=>dN a w h) ?_|refine Je ?_|refine Jf ?_|refine J9 rfl ?_|refine ZP rfl ?_|refine Zy ?_|refine Zt ?_|refine ZB rfl ?_|refine J8 ?_)
 have dz:SlV [] Y4 nv (M++[u]++[x]):=gD.slv (by simp);refine Z8 (Zb (u:=nv) rfl rfl dz.cells dz.one k10 (by simp)) ?_;rintro _ Y5 ⟨dO,k10⟩;focus repeat'(first|refine W1 ?_|refine Jd ?_|refine JD ?_|refine ZU ?_|refine ZF rfl (λa w h=>dN a w h) ?_|refine Je ?_|refine Jf ?_|refine J9 rfl ?_|refine ZP rfl ?_|refine Zy ?_|refine Zt ?_|refine ZB rfl ?_|refine J8 ?_)
 exact ⟨λa ha=>app w1 ae aX nv Y4 Y5 gD jp iH dO k10 a⟩;rintro D F Y ⟨⟨ov,rfl,k10,hr⟩,k8,k9,ax⟩ hD uu eU hF -;have uw:=hS.own ax (λb hb=>by simp at hb;rcases hb with rfl|rfl|rfl<;>exact .inr (by omega));have eA:(Z1w l sent).foldl (JX l crrs) ⟨ZA l crrs (-1),true,[]⟩=Z9p l crrs sent:=rfl;rw [eA] at hr k9;refine ⟨λa ha=>(ZaO (ds:=[{ target:=.collected D,args:=#[] }]) (Zln ?_)).h a ha⟩;refine ZeW 4 [] [] [(0,1),(1,1),(2,0),(3,0)] rfl mixed (by kernel_rfl) (by kernel_rfl) (by kernel_rfl) (λw1 ae=>?_);replace k10:=k10.up ae;replace k9:=k9.up ae;replace hr:=hr.up ae;refine QD ?_;refine Zqc (ZaO (Zlo ?_));have mz:=(ae.block D (Xo.1 eU).1 (by simp)).trans eU;refine Zf1 (D:=D) rfl rfl rfl mz (.mk ⟨ov,rfl,?_,?_⟩);exact (Row.slv (X:=[]) (Z9t hr (Z1W w1 D (.deferred none)) (λb hb h=>uu (by simp at hb;subst hb;simp [h]))) (by simp));exact ((uw.trans ae)).own (Z1W w1 D (.deferred none)) (λb hb=>.inr (by simp at hb;subst hb;have:=hS.size;omega))
theorem ZcB (lv cv:Value) (l:List Rtn) (crrs:List Crr) (sent:Int) (w) (hl:SlV [] w lv l) (hc:SlV [] w cv crrs) (ho:Zlr l crrs) (hs:0<=sent/\sent<=3652058) :
 CC 63 #[lv,cv,.I sent] w λv w'=>v=.tuple #[.I (Z4R l crrs sent).1,.B (Z4R l crrs sent).2]/\Stp [] w w':=by
 unfold Z4R;refine cW3 30 Tryz.func63 ?_;refine W ?_;refine CG (ZaU lv cv l crrs sent w hl hc ho hs) ?_;rintro _ w1 ⟨ov,rfl,au,hS⟩;generalize Z9p l crrs sent=s at *;obtain ⟨least,never,out⟩:=s;dsimp only at au ⊢;have bh:=au.max;cases never with
 | true=>
   refine RT ?_;exact ⟨rfl,hS⟩
 | false=>
   rcases Yaj out with rfl|⟨M,u,rfl⟩
   refine RT ?_;exact ⟨rfl,hS⟩;rw [Yak] at *;have mg:((M++[u]).length:Int) - 1=(M.length:Nat):=by simp
   have kX:M.length<(M++[u]).length:=by simp
   have cZ:(M++[u])[M.length]=u:=by simp
   have fb:0<((M++[u]).length:Int):=by simp
   have rL:(M++[u]).getLast?=some u:=by simp
   rw [rL];refine QO ?_;rw [cZ];refine RU ?_;exact ⟨rfl,hS⟩
theorem Zlt (a b:Svc) (w):CC 65 #[aG a,aG b] w λr w'=>r=.I (cmI a.day b.day)/\Stp [] w w':=by
 refine cW2 10 Tryz.func65 ?_;refine W ?_;refine BX (Stp.refl [] w) λb2 w1 h2 e2 _ hS=>?_;replace e2:Blk w1 b2 85 (Z2.enc a):=e2;refine BX hS λb3 w2 h3 e3 hT hS=>?_;replace e2:=e2.up hT;replace e3:Blk w2 b3 85 (Z2.enc b):=e3;refine W ?_;refine CP hS (Z3O _ _ _) λw3 _ hS=>?_;refine RT ?_;exact ⟨rfl,hS⟩
def Z0k (l:List Svc):Nat->Svc
 | 0=>l.getD 0 ⟨0,0,0⟩
 | k+1=>if (l.getD (k+1) ⟨0,0,0⟩).day<(Z0k l k).day then l.getD (k+1) ⟨0,0,0⟩ else Z0k l k
def JY (l:List Svc):Svc×Bool:=if l=[] then (⟨0,0,0⟩,false) else (Z0k l (l.length - 1),true)
theorem Zib (v:Value) (l:List Svc) (w) (hs:SlV [] w v l):CC 64 #[v,.func (.func 65) #[] #[]] w λr w'=>r=.tuple #[.agg (Z2.enc (JY l).1).toArray,.B (JY l).2]/\Stp [] w w':=by
 have bh:=hs.max;unfold JY;refine cW2 31 Tryz.func64 ?_;refine W ?_;refine Z0 Z4 rfl ?_;rintro _ w1 ⟨b4,rfl,br,e4,hS⟩;refine W ?_;refine Z0 Z4 rfl ?_;rintro _ w2 ⟨b6,rfl,dS,e6,hT⟩;have l4:=e4.lt;replace e4:=e4.up hT;have g6:w.heap.size<=b6:=Xh hS.size dS;replace hS:=hS.trans hT;clear hT;have n46:b4≠b6:=by omega
 replace e4:Blk w2 b4 85 (Z2.enc (⟨0,0,0⟩:Svc)):=e4;replace e6:Blk w2 b6 85 (Z2.enc (⟨0,0,0⟩:Svc)):=e6;have aX:=hs.up hS;have hz:((l.length:Int)=0)↔l=[]:=by simp
 (refine QP ?_ ?_<;>intro hc)
 obtain rfl:l=[]:=hz.1 (by assumption);refine SA (us:=Z2.enc (⟨0,0,0⟩:Svc)) e4 ?_;rintro _ w3 ⟨hT,e4⟩;refine W ?_;refine Zq rfl rfl rfl e4 rfl rfl ?_;exact .mk ⟨rfl,hS.ow hT⟩;have hn:l≠[]:=λh=>absurd (hz.2 h) (by assumption)
 have aZ:0<l.length:=X7.2 hn;rw [if_neg hn];refine QO ?_;refine SA (us:=Z2.enc l[0]) e6 ?_;rintro _ w3 ⟨hT,e6⟩;replace e4:=e4.ext hT (by simpa using n46);replace hS:=hS.ow hT;clear hT aX;have dH:=hs.up hS;refine QO ?_;have eV:=dH.slc (l:=1) (r:=l.length) aZ (Xl _);rw [Xs] at eV;refine Z9 (Z0Z (l:=1) rfl dH rfl rfl aZ) rfl ?_;clear dH;obtain ⟨dv,pm⟩:∃ dv,dv=Eng.slc v 1 l.length 3:=⟨_,rfl⟩
 rw [<- pm];have ux:SlV [] w3 dv (l.drop 1):=pm ▸ eV;clear eV;have jc:(l.drop 1).length=l.length - 1:=by simp
 refine W ?_;have bA:=hS;refine LP (σ:=Nat) (λk=>[(1,.func (.func 65) #[] #[]),(4,pQ b4),(6,pQ b6),(17,dv),(18,.I (l.drop 1).length),(19,.I k)]) (λk w'=>k<=l.length - 1/\Stp [b6] w3 w'/\Stp [] w w'/\Blk w' b6 85 (Z2.enc (Z0k l k))/\Blk w' b4 85 (Z2.enc (⟨0,0,0⟩:Svc))) (λk=>l.length - 1 - k) 0 ⟨by omega,Stp.refl _ _,hS,by rw [Z0k,show l.getD 0 ⟨0,0,0⟩=l[0] by simp [aZ]];exact e6,e4⟩ ?_;clear e4 e6 hS;rintro k w4 ⟨hk,hT,hS,e6,e4⟩;by_cases hlt:k<(l.drop 1).length;have jV:SlV [] w4 dv (l.drop 1):=by
  have h:=(hs.up hS).slc (l:=1) (r:=l.length) aZ (Xl _);rw [Xs] at h;rw [pm];exact h
 have bz:k+1<l.length:=by omega
 have cZ:(l.drop 1)[k]=l[k+1]:=by simp
 have hstep:Z0k l (k+1)=if l[k+1].day<(Z0k l k).day then l[k+1] else Z0k l k:=by rw [Z0k,show l.getD (k+1) ⟨0,0,0⟩=l[k+1] by simp [bz]]
 generalize Z0k l k=m at *;refine QO ?_;rw [cZ];refine Z0 Z4 rfl ?_;rintro _ w5 ⟨b8,rfl,dG,e8,hA⟩;refine SA (us:=Z2.enc l[k+1]) e8 ?_;rintro _ w6 ⟨cG,e8⟩;replace hA:=hA.ow cG;replace e4:=e4.up hA;replace e6:=e6.up hA;replace hS:=hS.trans hA;replace hT:=hT.trans hA.mn;clear hA cG jV;refine W ?_;refine CP hS (Zlt l[k+1] m _) λw7 hA hS=>?_;replace e4:=e4.up hA;replace e6:=e6.up hA;replace e8:=e8.up hA;replace hT:=hT.trans hA.mn;clear hA;have bE:cmI l[k+1].day m.day<0↔l[k+1].day<m.day:=by unfold cmI;split<;>(try split)<;>omega
 by_cases hc:l[k+1].day<m.day;rw [if_pos hc] at hstep;have hc':=bE.2 hc;refine QO ?_;refine SA (us:=Z2.enc l[k+1]) e6 ?_;rintro _ w8 ⟨hA,e6⟩;replace e4:=e4.ext hA (by simpa using n46);refine QO ?_;exact QL (k+1) ⟨by omega,hT.trans hA,hS.ow hA,by rw [hstep];exact e6,e4⟩ (by omega);rw [if_neg hc] at hstep;have hc':=λh=>hc (bE.1 h);refine QO ?_;exact QL (k+1) ⟨by omega,hT,hS,by rw [hstep];exact e6,e4⟩ (by omega);obtain rfl:k=l.length - 1:=by omega
 refine QO ?_;refine SA (us:=Z2.enc (Z0k l (l.length - 1))) e4 ?_;rintro _ w8 ⟨hA,e4⟩;refine QO ?_;refine Zq rfl rfl rfl e4 rfl rfl ?_;exact .mk ⟨rfl,hS.ow hA⟩
structure Zic (l:List Atp) (crrs:List Crr):Prop where
 len:l.length<=65536
 ret:∀ a∈l,Zlr a.rets crrs
 crr:∀ a∈l,0<=a.crr/\a.crr<crrs.length
 sent:∀ a∈l,0<=a.sent/\a.sent<=3652058
def svB (crrs:List Crr) (en pa:Int) (a:Atp):Bool:=decide (a.entry=en/\a.party=pa) && (Z4R a.rets crrs a.sent).2
def ofE (crrs:List Crr) (a:Atp) (k:Nat):Svc:=⟨(Z4R a.rets crrs a.sent).1,(crrs.getD a.crr.toNat ⟨0,0⟩).extra,k⟩
def ofG (l:List Atp) (crrs:List Crr) (en pa:Int):Nat->List Svc
 | 0=>[]
 | k+1=>ofG l crrs en pa k++if svB crrs en pa (l.getD k default)=true then [ofE crrs (l.getD k default) k] else []
def Z1x (l:List Atp) (crrs:List Crr) (en pa:Int):Svc×Bool:=JY (ofG l crrs en pa l.length)
theorem ZdS (l:List Atp) (crrs:List Crr) (en pa:Int):∀ k,(ofG l crrs en pa k).length<=k
 | 0=>by simp [ofG]
 | k + 1 => by
   have:=ZdS l crrs en pa k;simp only [ofG,Xa];split<;>simp<;>omega
theorem Z73 (a b c:Int) (w):(Instr.build 85 #[(0,.I a),(1,.I b),(2,.I c)]).run Tryz.prog w=.ok (aG (⟨a,b,c⟩:Svc)) w:=by kernel_rfl
theorem Zqd (lv cv:Value) (l:List Atp) (crrs:List Crr) (en pa:Int) (w) (hl:SlV [] w lv l) (ic:SlV [] w cv crrs) (ho:Zic l crrs) :
 CC 29 #[lv,.I en,.I pa,cv] w λr w'=>r=.tuple #[.agg (Z2.enc (Z1x l crrs en pa).1).toArray,.B (Z1x l crrs en pa).2]/\Stp [] w w':=by
 have ak:=ho.len;refine cW4 59 Tryz.func29 ?_;refine W ?_;refine Z0 Z4 rfl ?_;rintro _ w1 ⟨b8,rfl,dG,e8,hS⟩;replace e8:Blk w1 b8 85 (Z2.enc (⟨0,0,0⟩:Svc)):=e8;have fV:=hl.up hS;refine W ?_;refine LP (σ:=Nat×Value) (λq=>[(1,.I en),(2,.I pa),(3,cv),(8,pQ b8),(10,q.2),(15,lv),(16,.I l.length),(17,.I q.1)]) (λq w'=>q.1<=l.length/\Zk 85 w1 w' q.2 (ofG l crrs en pa q.1)) (λq=>l.length - q.1) (0,.N) ⟨by omega,Zk.nil⟩ ?_;rintro ⟨k,rv⟩ w2 ⟨hk,hr⟩;dsimp only at hk hr ⊢;by_cases hlt:k<l.length
 . have dK:=fV.up hr.2
   obtain ⟨cs,⟨tv,rfl,ht⟩,am⟩:=dK.cell hlt;have hstep:ofG l crrs en pa (k+1)=ofG l crrs en pa k++if svB crrs en pa l[k]=true then [ofE crrs l[k] k] else []:=by rw [ofG,show l.getD k default=l[k] by simp [hlt]]
   have du:=ZdS l crrs en pa k;have fF:=ho.ret _ (Xb hlt);have fg:=ho.crr _ (Xb hlt);have cp:=ho.sent _ (Xb hlt);refine QO ?_;refine Z9 (Z2r rfl rfl dK hlt ⟨tv,rfl,ht⟩ am) rfl ?_;refine Z0 Z4 rfl ?_;rintro _ w3 ⟨b12,rfl,oZ,e12,hA⟩;refine W ?_;refine SB (us:=atC l[k] tv) (Z6.one (x:=l[k]) (w:=w2) (X:=[]) ⟨tv,rfl,ht⟩) e12 ?_;rintro _ w4 ⟨cG,e12⟩;replace hA:=hA.ow cG;replace hr:=hr.up hA;replace ht:=ht.up hA;clear hA cG dK am;have dF:SlV [] w4 cv crrs:=(ic.up hS).up hr.2;have skip:svB crrs en pa l[k]=false->ofG l crrs en pa (k+1)=ofG l crrs en pa k:=λh=>by rw [hstep,h,if_neg (by simp),Xz]
   repeat'(first|refine W1 ?_|omega|refine VG ?_ ?_<;>intro hg|refine VC ?_ ?_<;>intro hc)
   all_goals try exact QL (k+1,rv) ⟨hlt,by rw [skip (by simp only [svB,Ybu,decide_eq_false_iff_not];exact .inl (λh=>by omega))];exact hr⟩ (by dsimp only;omega)
   refine CP (Stp.refl [] w4) (ZcB tv cv l[k].rets crrs l[k].sent _ ht dF fF cp) λw5 hA _=>?_;replace hr:=hr.up hA;replace e12:=e12.up hA;replace dF:=dF.up hA;clear hA ht;unfold svB at hstep skip;unfold ofE at hstep;generalize Z4R l[k].rets crrs l[k].sent=sv at *;obtain ⟨d,ok⟩:=sv;cases ok with
   | false=>
     dsimp only at skip ⊢;refine QO ?_;exact QL (k+1,rv) ⟨hlt,by rw [skip (by simp)];exact hr⟩ (by dsimp only;omega)
   | true=>
     rw [if_pos (by simp only [Bool.and_true,decide_eq_true_eq];constructor<;>omega)] at hstep;obtain ⟨j,hj⟩:∃ j:Nat,l[k].crr=j:=⟨l[k].crr.toNat,by omega⟩
     have aT:j<crrs.length:=by omega
     rw [hj,show crrs.getD ((j:Int).toNat) ⟨0,0⟩=crrs[j] by simp [aT]] at hstep;dsimp only at hstep ⊢;refine QO ?_;refine Z5 (vs:=[(0,.I d),(1,.I crrs[j].extra),(2,.I k)]) rfl (Z73 _ _ _) rfl ?_;refine AP1 (⟨d,crrs[j].extra,k⟩:Svc) hr (by omega) λv1 v' w' aO _=>?_
     refine QO ?_;exact QL (k+1,v') ⟨hlt,by rw [hstep];exact aO⟩ (by dsimp only;omega)
 obtain rfl:k=l.length:=by omega
 have bN:SlV [] w2 rv (ofG l crrs en pa l.length):=hr.slv (by simp);replace e8:=e8.up hr.2;replace hS:=hS.trans hr.2;clear hr;unfold Z1x;refine QO ?_;refine CP hS (Zib rv _ _ bN) λw3 hT hS=>?_;replace e8:=e8.up hT;refine W ?_;refine SA (us:=Z2.enc (JY (ofG l crrs en pa l.length)).1) e8 ?_;rintro _ w4 ⟨hA,e8⟩;refine W ?_;refine Zq rfl rfl rfl e8 rfl rfl ?_;exact .mk ⟨rfl,hS.ow hA⟩
theorem Zid (a b c:Int) (w):(Instr.build 96 #[(0,.I a),(1,.I b),(2,.I c)]).run Tryz.prog w=.ok (aG (⟨a,b,c⟩:Rsn)) w:=by kernel_rfl
structure Nte (w0:World) (bd:Nat) (w:World) (d:Dln) (rv:Value):Prop where
 blk:Blk w bd 45 (dlC d rv)
 row:Row [bd] w w0.heap.size 96 rv d.reas
 stp:Stp [bd] w0 w
 lt:bd<w0.heap.size
 len:d.reas.length<=100000
theorem Z2s (w0:World) (bd:Nat) (d:Dln) (rv:Value) (k a b:Int) (w) (h:Nte w0 bd w d rv) (hl:d.reas.length+1<=100000) :
 CC 33 #[.I k,.I a,.I b,pQ bd] w λr w'=>∃ rv',Nte w0 bd w' { d with reas:=d.reas++[⟨k,a,b⟩] } rv'/\Stp (bd :: ob rv) w w'/\∀ b∈ob rv',b∈ob rv\/w.heap.size<=b:=by
 obtain ⟨e3,hr,hS,hlt,ak⟩:=h;refine cW4 16 Tryz.func33 ?_;refine W ?_;refine Z5 (vs:=[(0,.I k),(1,.I a),(2,.I b)]) rfl (Zid _ _ _) rfl ?_;refine APR (X:=[bd]) (base:=w0.heap.size) (⟨k,a,b⟩:Rsn) hr (λc hc=>by have:=hS.size;simp at hc;omega) hS.size (by omega) λv1 v' w1 aO hT aJ=>?_
 have e3':Blk w1 bd 45 (dlC d rv):=e3.ext hT (λhb=>by have:=(hr.ob_le bd hb).1;omega);refine W ?_;have au:SlV [bd] w1 v' (d.reas++[⟨k,a,b⟩]):=aO.slv (λc hc=>by simp at hc;omega);refine Z8 (Zb (u:=v') rfl rfl au.cells au.one e3' (by simp)) ?_;rintro _ w2 ⟨an,e3''⟩;refine W ?_;refine WR ?_;refine .mk ⟨v',⟨e3'',aO.ext an (λc hc=>?_) (λc hc=>.inl hc),?_,hlt,by simp;omega⟩,(hT.mono (λc hc=>by simp [hc])).trans an.mn,aJ⟩;simp only [Xm] at hc;subst hc;exact ⟨by simp,λh=>by have:=(aO.ob_le c h).1;omega⟩;refine (hS.own hT (λc hc=>.inr (hr.ob_le c hc).1)).trans an
def Z74 (els:Str) (d:Dln):Fct:=⟨d.trig.entry,els,max d.due d.trig.day+1,d.trig.to_,d.trig.by_,d.trig.amt⟩
def Z3s (c:Cas) (d:Dln) (r:Nat):Fct×Bool:=(Z74 (c.ruls.getD r crZ).els d,decide (d.stat=2/\(c.ruls.getD r crZ).els≠[]/\max d.due d.trig.day+1<=c.today))
theorem ZaV (a:Int) (s:Str) (b c d e:Int) (w):(Instr.build 40 #[(0,.I a),(1,str s),(2,.I b),(3,.I c),(4,.I d),(5,.I e)]).run Tryz.prog w=.ok (aG (⟨a,s,b,c,d,e⟩:Fct)) w:=by kernel_rfl
theorem ZaW (c:Cas) (R:Z0o) (d:Dln) (dv:Value) (r:Nat) (w) (hs:SlV [] w R.rv c.ruls) (hd:SlV [] w dv d.reas) (hr:r<c.ruls.length) (hb:-1000000000<=d.due/\d.due<=1000000000/\-1000000000<=d.trig.day/\d.trig.day<=1000000000) :
 CC 54 #[.agg (Jc c R).toArray,.agg (dlC d dv).toArray,.I r] w λv w'=>v=.tuple #[.agg (Z2.enc (Z3s c d r).1).toArray,.B (Z3s c d r).2]/\Stp [] w w':=by
 unfold Z3s;rw [show c.ruls.getD r crZ=c.ruls[r] by simp [hr]];refine cW3 49 Tryz.func54 ?_;refine W ?_;refine BX (Stp.refl [] w) λb3 w1 h3 e3 _ hS=>?_;replace e3:Blk w1 b3 37 (Jc c R):=e3;refine BX hS λb4 w2 h4 e4 hT hS=>?_;replace e4:Blk w2 b4 45 (dlC d dv):=e4;replace e3:=e3.up hT;have l3:=e3.lt;have l4:=e4.lt;refine W ?_;refine Z0 Z4 rfl ?_;rintro _ w3 ⟨b6,rfl,dS,e6,hT⟩;have n36:b3≠b6:=by omega
 have n46:b4≠b6:=by omega
 have g6:w.heap.size<=b6:=Xh hS.size dS;replace e3:=e3.up hT;replace e4:=e4.up hT;replace hS:=hS.trans hT;clear hT;refine W ?_;refine Z9 (Zn (us:=Z2.enc d.trig) rfl rfl e4 rfl rfl) rfl ?_;refine Z0 Z4 rfl ?_;rintro _ w4 ⟨b8,rfl,dG,e8,hT⟩;refine SA (us:=Z2.enc d.trig) e8 ?_;rintro _ w5 ⟨an,e8⟩;replace hT:=hT.ow an;replace e3:=e3.up hT;replace e4:=e4.up hT;have l6:=e6.lt;replace e6:=e6.up hT;replace hS:=hS.trans hT;have n68:b6≠b8:=λh=>by subst h;exact absurd l6 (YaN.2 dG)
 clear hT an;refine W ?_;refine ZDr 23 [] [22] [(0,0),(1,1),(2,0),(3,1),(4,0),(5,0),(6,0),(7,1),(8,0),(9,1),(10,0),(11,1),(12,0),(13,0),(14,0),(15,1),(16,0),(17,1),(18,0),(19,1),(20,0),(21,2),(22,2)] (λw1 ae=>?_);replace e3:=e3.up ae;replace e4:=e4.up ae;replace e6:=e6.up ae;replace e8:=e8.up ae;replace hS:=hS.trans ae;clear ae;have bN:=hs.up hS;obtain ⟨cs,⟨kc,kd,rfl,-,-⟩,am⟩:=bN.cell hr;have hf:w1.cell? (Zx R.rv r 7 6)=some (str c.ruls[r].els):=am 6 _ rfl;repeat'(first|refine D1 ?_|omega|refine Jn rfl (by first|exact trivial|exact rfl) rfl rfl (by assumption) rfl ?_|refine Zl rfl rfl rfl rfl (λhg=>?_) (λhg=>?_)|(refine Zh rfl rfl rfl rfl (λhg=>?_) (λhg=>?_)<;>refine D1 ?_)|fail)
 refine Z4A rfl trivial (vs:=[(0,.I d.trig.entry),(1,str c.ruls[r].els),(2,.I (max d.due d.trig.day+1)),(3,.I d.trig.to_),(4,.I d.trig.by_),(5,.I d.trig.amt)]) rfl (ZaV _ _ _ _ _ _) rfl ?_;refine Z7 rfl trivial Z4 (λ_ _ h=>h.choose_spec.2.2.2) rfl ?_;rintro _ w6 ⟨b9,rfl,ee,e9,hT⟩;refine ZM rfl trivial (Zw (us:=Z2.enc (Z74 c.ruls[r].els d)) rfl rfl rfl rfl (Z2.one _) e9 rfl) rfl ?_;rintro _ w7 ⟨an,e9⟩;replace hT:=hT.ow an;have l6':=e6.lt;have n69:b6≠b9:=by omega
 replace e3:=e3.up hT;replace e4:=e4.up hT;replace e6:=e6.up hT;replace hS:=hS.trans hT;clear hT an bN am hf e8;refine D ?_;refine W ?_;replace e9:Blk w7 b9 40 (Z2.enc (Z74 c.ruls[r].els d)):=e9;have bF:(Z74 c.ruls[r].els d).kind=c.ruls[r].els/\(Z74 c.ruls[r].els d).day=max d.due d.trig.day+1:=⟨rfl,rfl⟩
 obtain ⟨v1,v2⟩:=bF;generalize Z74 c.ruls[r].els d=F at *;rw [<- v1,<- v2];clear v1 v2;refine Js (σ:=Unit) (λ_=>[(6,pQ b6),(7,.B (decide (d.stat=2/\F.kind≠[]/\F.day<=c.today)))]) (λ_ w'=>Stp [] w w'/\Blk w' b6 40 (Z2.enc F)) ?_ ?_
 . refine ZDr 18 ([b6]) [] [(0,1),(1,0),(2,1),(3,0),(4,0),(5,0),(6,1),(7,0),(8,0),(9,0),(10,0),(11,1),(12,0),(13,1),(14,0),(15,0),(16,2),(17,0)] (λw1 ae=>?_)
   replace e3:=e3.up ae;replace e4:=e4.up ae;replace e6:=e6.up ae;replace e9:=e9.up ae;replace hS:=hS.trans ae;clear ae;repeat'(first|refine D1 ?_|omega|refine Zl rfl rfl rfl rfl (λhg=>?_) (λhg=>?_)|(refine Zh rfl rfl rfl rfl (λhg=>?_) (λhg=>?_)<;>refine D1 ?_)|fail)
   all_goals
    refine Z17 rfl trivial (Zw (us:=Z2.enc F) rfl rfl rfl rfl (Z2.one _) e6 rfl) (λ_ _ h=>h.1) ?_;rintro _ wz ⟨hT,e6⟩;refine D ?_;refine Z0E () ⟨rfl,?_,trivial⟩ ⟨hS.ow hT,e6⟩;show some (Value.bool _)=some (Value.bool _);congr 2
    first
     | (symm;exact decide_eq_false (λh=>by first|exact absurd h.1 (by assumption)|exact absurd h.2.1 (by assumption)))
     | (rw [decide_eq_decide];exact ⟨λh=>⟨by assumption,by assumption,h⟩,λh=>h.2.2⟩)
 rintro _ w8 ⟨hS,e6⟩;refine W ?_;refine Zq rfl rfl rfl e6 rfl rfl ?_;exact .mk ⟨rfl,hS⟩
def Res (K:MK) (w:World) (st:List Int) (sp:List Spn) (at_:Int) (r:Int×Int):Prop:=
 ∃ sv pv st2 sp2,Mch K w sv pv st2 sp2 at_ r.2 (decide (¬ r.2=0))/\(r.2=0->st2=st++[r.1]/\sp2=sp)
section
variable {K:MK} {w w':World} {sv pv:Value} {st:List Int} {sp:List Spn} {at_ er:Int} {dn:Bool}
abbrev mP (K:MK):Value:=.pointer (some ⟨K.bm,0,none⟩)
theorem ZaX (hK:KOk K) {v:Int} (h:Mch K w sv pv (st++[v]) sp at_ er dn) :
 CC 69 #[mP K] w λr w'=>r=.I v/\(∃ sv',Mch K w' sv' pv st sp at_ er dn)/\Stp [K.bm] w w':=by
 have ab:=h.blk;have ac:=h.row;unfold Z4L at ab;have hs:=ac.slv (X:=[]) (by simp);have hz:((st++[v]).length:Int) - 1=(st.length:Int):=by simp
 have hi:st.length<(st++[v]).length:=by simp
 have hm:=hs.max;refine cW1 28 Tryz.func69 ?_;refine W ?_;refine Z9 (Z09 rfl hs rfl hz (by omega)) rfl ?_;refine W ?_;have hc:=ac.cut (r:=st.length) (by omega);rw [YbO rfl] at hc;have h1:=hc.slv (X:=[]) (by simp);refine Z8 (Zb (u:=slc sv 0 st.length 1) rfl rfl h1.cells h1.one ab (by simp [evC,Ji])) ?_;rintro _ w1 ⟨ae,cB⟩;refine RT ?_;exact ⟨by simp,⟨slc sv 0 st.length 1,h.stack hK (Stp.refl _ _) hc (λb hb=>.inl (by rw [<- Z8R sv st.length 1];exact hb)) ae cB⟩,ae⟩
theorem Z2P (hK:KOk K) {v:Int} (h:Mch K w sv pv (st++[v]) sp at_ er dn) :
 CC 69 #[mP K] w λr w'=>r=.I v/\∃ sv',Mch K w' sv' pv st sp at_ er dn:=
 Go.Eng.Calls.ret (ZaX hK h) (λ_ _ h=>⟨h.1,h.2.1⟩)
theorem JP (hK:KOk K) {a b:Int} (h:Mch K w sv pv (st++[a,b]) sp at_ er dn) :
 CC 172 #[mP K] w λr w'=>r=.tuple #[.I a,.I b]/\∃ sv',Mch K w' sv' pv st sp at_ er dn:=by
 refine cW1 10 Tryz.func172 ?_;refine W ?_;refine CM (ZS rfl) (Z2P (st:=st++[a]) (v:=b) hK (by simpa using h)) ?_;rintro _ w1 ⟨rfl,sv1,h1⟩;refine W ?_;refine CL (Z2P hK h1) ?_;rintro _ w2 ⟨rfl,sv2,h2⟩;refine RT ?_;exact ⟨rfl,sv2,h2⟩
theorem Z04 (hK:KOk K) (h:Mch K w sv pv st sp at_ 0 false) (hl:st.length<=100000) (n e:Int) :
 CC 171 #[mP K,.I n,.I e] w λr w'=>r=.tuple #[]/\Res K w' st sp at_ (n,e):=by
 refine Go.Eng.Calls.ret (ZhN hK h n e hl) ?_;rintro v w' ⟨rfl,sv',h1⟩;refine ⟨rfl,sv',pv,if e=0 then st++[n] else st,sp,?_,λhe=>⟨if_pos he,rfl⟩⟩;by_cases he:e=0;subst he;simpa using h1;simpa [he] using h1
theorem ZdT (hK:KOk K) (h:Mch K w sv pv st sp at_ 0 false) (hl:st.length<=100000) (n a b:Int) :
 CC 234 #[mP K,.I n,.I a,.I b] w λr w'=>r=.tuple #[]/\Res K w' st sp at_ (if n<a\/b<n then (0,5) else (n,0)):=by
 refine cW4 21 Tryz.func234 ?_;by_cases hc:n<a\/b<n
 . rw [if_pos hc]
   repeat'(first|refine W1 ?_|omega|refine VG ?_ ?_<;>intro hg|refine VC ?_ ?_<;>intro hc)
   all_goals
    refine CL (Z04 hK h hl 0 5) ?_;rintro _ w1 ⟨rfl,h1⟩;refine RT ?_;exact ⟨rfl,h1⟩
 rw [if_neg hc];refine QO ?_;refine CL (Z04 hK h hl n 0) ?_;rintro _ w1 ⟨rfl,h1⟩;refine RT ?_;exact ⟨rfl,h1⟩
theorem Z4S (hK:KOk K) (h:Mch K w sv pv st sp at_ 0 false) (hl:st.length<=100000) (n:Int) :
 CC 173 #[mP K,.I n] w λr w'=>r=.tuple #[]/\Res K w' st sp at_ (Z36 n):=by
 refine cW2 7 Tryz.func173 ?_;refine W ?_;refine CL (ZdT hK h hl n _ _) ?_;rintro _ w1 ⟨rfl,h1⟩;refine RT ?_;exact ⟨rfl,h1⟩
theorem Zu1 (hK:KOk K) (h:Mch K w sv pv st sp at_ 0 false) (hl:st.length<=100000) (n:Int) :
 CC 175 #[mP K,.I n] w λr w'=>r=.tuple #[]/\Res K w' st sp at_ (Z7J n):=by
 refine cW2 7 Tryz.func175 ?_;refine W ?_;refine CL (ZdT hK h hl n _ _) ?_;rintro _ w1 ⟨rfl,h1⟩;refine RT ?_;exact ⟨rfl,h1⟩
theorem Z9u (hK:KOk K) (h:Mch K w sv pv st sp at_ 0 false) (hl:st.length<=100000) (b:Bool) :
 CC 174 #[mP K,.B b] w λr w'=>r=.tuple #[]/\Res K w' st sp at_ (Z33 b,0):=by
 refine cW2 9 Tryz.func174 ?_;cases b;refine W ?_;refine CL (Z04 hK h hl 0 0) ?_;rintro _ w1 ⟨rfl,h1⟩;refine RT ?_;exact ⟨rfl,h1⟩;refine W ?_;refine CL (Z04 hK h hl 1 0) ?_;rintro _ w1 ⟨rfl,h1⟩;refine RT ?_;exact ⟨rfl,h1⟩
theorem Zqe (hK:KOk K) (h:Mch K w sv pv st sp at_ 0 false) (hl:st.length<=100000) (n:Int) :
 CC 101 #[mP K,.I n] w λr w'=>r=.tuple #[]/\Res K w' st sp at_ (n,0):=by
 refine cW2 7 Tryz.func101 ?_;refine W ?_;refine CL (Z04 hK h hl n 0) ?_;rintro _ w1 ⟨rfl,h1⟩;refine RT ?_;exact ⟨rfl,h1⟩
theorem ZuV (hK:KOk K) {a b:Int} (h:Mch K w sv pv (st++[a,b]) sp at_ 0 false) (hl:st.length<=100000) (n:Int) (hr:I64 (a+b)) :
 CC 103 #[mP K,.I n] w λr w'=>r=.tuple #[]/\Res K w' st sp at_ (Z36 (a+b)):=by
 try unfold I64 at hr
 refine cW2 16 Tryz.func103 ?_;refine W ?_;refine CL (JP hK h) ?_;rintro _ w1 ⟨rfl,sv1,h1⟩;refine W ?_;refine CL (Z4S hK h1 hl _) ?_;rintro _ w2 ⟨rfl,h2⟩;refine RT ?_;exact ⟨rfl,h2⟩
theorem ZuW (hK:KOk K) {a b:Int} (h:Mch K w sv pv (st++[a,b]) sp at_ 0 false) (hl:st.length<=100000) (n:Int) (hr:I64 (a - b)) :
 CC 104 #[mP K,.I n] w λr w'=>r=.tuple #[]/\Res K w' st sp at_ (Z36 (a - b)):=by
 try unfold I64 at hr
 refine cW2 16 Tryz.func104 ?_;refine W ?_;refine CL (JP hK h) ?_;rintro _ w1 ⟨rfl,sv1,h1⟩;refine W ?_;refine CL (Z4S hK h1 hl _) ?_;rintro _ w2 ⟨rfl,h2⟩;refine RT ?_;exact ⟨rfl,h2⟩
theorem ZuX (hK:KOk K) {a b:Int} (h:Mch K w sv pv (st++[a,b]) sp at_ 0 false) (hl:st.length<=100000) (n:Int) (hr:I64 (a * b)) :
 CC 105 #[mP K,.I n] w λr w'=>r=.tuple #[]/\Res K w' st sp at_ (Z36 (a * b)):=by
 try unfold I64 at hr
 refine cW2 16 Tryz.func105 ?_;refine W ?_;refine CL (JP hK h) ?_;rintro _ w1 ⟨rfl,sv1,h1⟩;refine W ?_;refine CL (Z4S hK h1 hl _) ?_;rintro _ w2 ⟨rfl,h2⟩;refine RT ?_;exact ⟨rfl,h2⟩
theorem ltV (hK:KOk K) {a b:Int} (h:Mch K w sv pv (st++[a,b]) sp at_ 0 false) (hl:st.length<=100000) (n:Int) (hr:True) :
 CC 107 #[mP K,.I n] w λr w'=>r=.tuple #[]/\Res K w' st sp at_ ((Z33 (decide (a<b)),0)):=by
 try unfold I64 at hr
 refine cW2 16 Tryz.func107 ?_;refine W ?_;refine CL (JP hK h) ?_;rintro _ w1 ⟨rfl,sv1,h1⟩;refine W ?_;refine CL (Z9u hK h1 hl _) ?_;rintro _ w2 ⟨rfl,h2⟩;refine RT ?_;exact ⟨rfl,h2⟩
theorem leV (hK:KOk K) {a b:Int} (h:Mch K w sv pv (st++[a,b]) sp at_ 0 false) (hl:st.length<=100000) (n:Int) (hr:True) :
 CC 108 #[mP K,.I n] w λr w'=>r=.tuple #[]/\Res K w' st sp at_ ((Z33 (decide (a<=b)),0)):=by
 try unfold I64 at hr
 refine cW2 16 Tryz.func108 ?_;refine W ?_;refine CL (JP hK h) ?_;rintro _ w1 ⟨rfl,sv1,h1⟩;refine W ?_;refine CL (Z9u hK h1 hl _) ?_;rintro _ w2 ⟨rfl,h2⟩;refine RT ?_;exact ⟨rfl,h2⟩
theorem eqV (hK:KOk K) {a b:Int} (h:Mch K w sv pv (st++[a,b]) sp at_ 0 false) (hl:st.length<=100000) (n:Int) (hr:True) :
 CC 109 #[mP K,.I n] w λr w'=>r=.tuple #[]/\Res K w' st sp at_ ((Z33 (decide (a=b)),0)):=by
 try unfold I64 at hr
 refine cW2 16 Tryz.func109 ?_;refine W ?_;refine CL (JP hK h) ?_;rintro _ w1 ⟨rfl,sv1,h1⟩;refine W ?_;refine CL (Z9u hK h1 hl _) ?_;rintro _ w2 ⟨rfl,h2⟩;refine RT ?_;exact ⟨rfl,h2⟩
theorem Zu2 (hK:KOk K) {a b:Int} (h:Mch K w sv pv (st++[a,b]) sp at_ 0 false) (hl:st.length<=100000) (n:Int) (hr:I64 (a+b)) :
 CC 113 #[mP K,.I n] w λr w'=>r=.tuple #[]/\Res K w' st sp at_ (Z7J (a+b)):=by
 try unfold I64 at hr
 refine cW2 16 Tryz.func113 ?_;refine W ?_;refine CL (JP hK h) ?_;rintro _ w1 ⟨rfl,sv1,h1⟩;refine W ?_;refine CL (Zu1 hK h1 hl _) ?_;rintro _ w2 ⟨rfl,h2⟩;refine RT ?_;exact ⟨rfl,h2⟩
theorem Zqf (hK:KOk K) {a b:Int} (h:Mch K w sv pv (st++[a,b]) sp at_ 0 false) (hl:st.length<=100000) (n:Int) (hr:I64 (7 * b)/\I64 (a+7 * b)) :
 CC 114 #[mP K,.I n] w λr w'=>r=.tuple #[]/\Res K w' st sp at_ (Z7J (a+7 * b)):=by
 try unfold I64 at hr
 refine cW2 17 Tryz.func114 ?_;refine W ?_;refine CL (JP hK h) ?_;rintro _ w1 ⟨rfl,sv1,h1⟩;refine W ?_;refine CL (Zu1 hK h1 hl _) ?_;rintro _ w2 ⟨rfl,h2⟩;refine RT ?_;exact ⟨rfl,h2⟩
theorem Zqg (hK:KOk K) {a b:Int} (h:Mch K w sv pv (st++[a,b]) sp at_ 0 false) (hl:st.length<=100000) (n:Int) (hr:True) :
 CC 119 #[mP K,.I n] w λr w'=>r=.tuple #[]/\Res K w' st sp at_ ((max a b,0)):=by
 try unfold I64 at hr
 refine cW2 16 Tryz.func119 ?_;refine W ?_;refine CL (JP hK h) ?_;rintro _ w1 ⟨rfl,sv1,h1⟩;refine W ?_;refine CL (Z04 hK h1 hl _ 0) ?_;rintro _ w2 ⟨rfl,h2⟩;refine RT ?_;exact ⟨rfl,h2⟩
theorem Zie (hK:KOk K) {a b:Int} (h:Mch K w sv pv (st++[a,b]) sp at_ 0 false) (hl:st.length<=100000) (n:Int) (hr:True) :
 CC 120 #[mP K,.I n] w λr w'=>r=.tuple #[]/\Res K w' st sp at_ ((min a b,0)):=by
 try unfold I64 at hr
 refine cW2 16 Tryz.func120 ?_;refine W ?_;refine CL (JP hK h) ?_;rintro _ w1 ⟨rfl,sv1,h1⟩;refine W ?_;refine CL (Z04 hK h1 hl _ 0) ?_;rintro _ w2 ⟨rfl,h2⟩;refine RT ?_;exact ⟨rfl,h2⟩
theorem Zif (hK:KOk K) {a b:Int} (h:Mch K w sv pv (st++[a,b]) sp at_ 0 false) (hl:st.length<=100000) (n:Int) (hr:I64 (b - a)) :
 CC 121 #[mP K,.I n] w λr w'=>r=.tuple #[]/\Res K w' st sp at_ (Z36 (b - a)):=by
 try unfold I64 at hr
 refine cW2 16 Tryz.func121 ?_;refine W ?_;refine CL (JP hK h) ?_;rintro _ w1 ⟨rfl,sv1,h1⟩;refine W ?_;refine CL (Z4S hK h1 hl _) ?_;rintro _ w2 ⟨rfl,h2⟩;refine RT ?_;exact ⟨rfl,h2⟩
end
section
variable {K:MK} {w w':World} {sv pv:Value} {st:List Int} {sp:List Spn} {at_ er:Int} {dn:Bool}
theorem ZuY (hK:KOk K) {b:Int} (h:Mch K w sv pv (st++[b]) sp at_ 0 false) (hl:st.length<=100000) (n:Int) (hr:I64 (-b)) :
 CC 106 #[mP K,.I n] w λr w'=>r=.tuple #[]/\Res K w' st sp at_ (Z36 (-b)):=by
 unfold I64 at hr;refine cW2 9 Tryz.func106 ?_;refine W ?_;refine CL (Z2P hK h) ?_;rintro _ w1 ⟨rfl,sv1,h1⟩;refine W ?_;refine CL (Z4S hK h1 hl _) ?_;rintro _ w2 ⟨rfl,h2⟩;refine RT ?_;exact ⟨rfl,h2⟩
theorem ZuZ (hK:KOk K) {b:Int} (h:Mch K w sv pv (st++[b]) sp at_ 0 false) (hl:st.length<=100000) (n:Int) :
 CC 110 #[mP K,.I n] w λr w'=>r=.tuple #[]/\Res K w' st sp at_ (Z33 (decide (b=0)),0):=by
 refine cW2 9 Tryz.func110 ?_;refine W ?_;refine CL (Z2P hK h) ?_;rintro _ w1 ⟨rfl,sv1,h1⟩;refine W ?_;refine CL (Z9u hK h1 hl _) ?_;rintro _ w2 ⟨rfl,h2⟩;refine RT ?_;exact ⟨rfl,h2⟩
theorem Zu3 (hK:KOk K) (h:Mch K w sv pv st sp at_ er dn) (n:Int) :
 CC 111 #[mP K,.I n] w λr w'=>r=.tuple #[]/\Mch K w' sv pv st sp n er dn:=by
 have ab:=h.blk;unfold Z4L at ab;refine cW2 8 Tryz.func111 ?_;refine W ?_;refine Z8 (Zb (u:=.I n) rfl rfl rfl rfl ab (by simp [evC,Ji])) ?_;rintro _ w1 ⟨ae,cB⟩;refine RT ?_;exact ⟨rfl,h.put hK ae cB⟩
theorem Zu4 (hK:KOk K) (h:Mch K w sv pv st sp at_ er dn) (n:Int) :
 CC 122 #[mP K,.I n] w λr w'=>r=.tuple #[]/\Mch K w' sv pv st sp at_ er true:=by
 have ab:=h.blk;unfold Z4L at ab;refine cW2 7 Tryz.func122 ?_;refine W ?_;refine Z8 (Zb (u:=.B true) rfl rfl rfl rfl ab (by simp [evC,Ji])) ?_;rintro _ w1 ⟨ae,cB⟩;refine RT ?_;exact ⟨rfl,h.put hK ae cB⟩
theorem Zlu (hK:KOk K) {b:Int} (h:Mch K w sv pv (st++[b]) sp at_ er dn) (n:Int) :
 CC 112 #[mP K,.I n] w λr w'=>r=.tuple #[]/\∃ sv',Mch K w' sv' pv st sp (if b=0 then n else at_) er dn:=by
 refine cW2 11 Tryz.func112 ?_;refine W ?_;refine CL (Z2P hK h) ?_;rintro _ w1 ⟨rfl,sv1,h1⟩;have ab:=h1.blk;unfold Z4L at ab;by_cases hb:b=0;rw [if_pos hb];refine QO ?_;refine Z8 (Zb (u:=.I n) rfl rfl rfl rfl ab (by simp [evC,Ji])) ?_;rintro _ w2 ⟨ae,cB⟩;refine RT ?_;exact ⟨rfl,sv1,h1.put hK ae cB⟩;rw [if_neg hb];refine RT ?_;exact ⟨rfl,sv1,h1⟩
theorem ZdU (a b c d e f g:Int) (w):(Instr.build 230 #[(0,.I a),(1,.I b),(2,.I c),(3,.I d),(4,.I e),(5,.I f),(6,.I g)]).run Tryz.prog w=.ok (.agg #[.I a,.I b,.I c,.I d,.I e,.I f,.I g]) w:=by kernel_rfl
theorem fieldV (hK:KOk K) (h:Mch K w sv pv st sp at_ 0 false) (hl:st.length<=100000) (n:Int) (h0:0<=n) (h7:n<7) :
 CC 102 #[mP K,.I n] w λr w'=>r=.tuple #[]/\Res K w' st sp at_ (Z9h K.ev n):=by
 have ab:=h.blk;unfold Z4L evC Ji at ab;have ry:=hK.bml;have bF:=hK.ev.served;refine cW2 56 Tryz.func102 ?_;refine W ?_;refine ZDr 38 [] [37] [(0,0),(1,0),(2,0),(3,0),(4,1),(5,0),(6,0),(7,0),(8,0),(9,1),(10,0),(11,0),(12,0),(13,0),(14,1),(15,0),(16,0),(17,0),(18,0),(19,1),(20,0),(21,0),(22,0),(23,0),(24,1),(25,0),(26,0),(27,0),(28,0),(29,1),(30,0),(31,0),(32,0),(33,0),(34,1),(35,0),(36,2),(37,2)] (λw1 ae=>?_);replace h:=h.up ae;replace ab:=ab.up ae;refine D ?_;refine Z4A rfl trivial rfl (ZdU _ _ _ _ _ _ _) rfl ?_;refine Z7 rfl trivial Z4 (λ_ _ ⟨_,_,_,_,h⟩=>h) rfl ?_;rintro _ w2 ⟨b2,rfl,cg,e2,aj⟩;refine ZM rfl trivial (Zw (us:=evC K.ev) rfl rfl rfl rfl (by intro u hu;simp [evC] at hu;rcases hu with rfl|rfl|rfl|rfl|rfl|rfl|rfl<;>rfl) e2 rfl) rfl ?_;rintro _ w3 ⟨hT,e3⟩;have aF:=aj.ow hT;replace h:=h.up aF;unfold evC at e3;refine D ?_;clear ab ae e2 hT aj aF;have fin:∀ (v e:Int),(v,e)=Z9h K.ev n->∀ w',Res K w' st sp at_ (v,e)->Ret (λr w'=>r=.tuple #[]/\Res K w' st sp at_ (Z9h K.ev n)) (.returned (.tuple #[])) w':=by
  intro v e he w' hr;rw [<- he];exact .mk ⟨rfl,hr⟩
 have hn:n=0\/n=1\/n=2\/n=3\/n=4\/n=5\/n=6:=by omega
 rcases hn with rfl|rfl|rfl|rfl|rfl|rfl|rfl
 case inr.inl=>
  by_cases hs:K.ev.getD 1 0<0;refine QO ?_;focus repeat'(first|refine W1 ?_|omega|refine VG ?_ ?_<;>intro hg|refine VC ?_ ?_<;>intro hc)
  refine CL (Z04 hK h hl 0 32) ?_;rintro _ w4 ⟨rfl,h1⟩;refine W ?_;refine WR ?_;refine fin _ _ ?_ _ h1;unfold Z9h;rw [if_pos ⟨rfl,by omega⟩];refine QO ?_;focus repeat'(first|refine W1 ?_|omega|refine VG ?_ ?_<;>intro hg|refine VC ?_ ?_<;>intro hc)
  focus repeat'(first|refine W1 ?_|omega|refine VG ?_ ?_<;>intro hg|refine VC ?_ ?_<;>intro hc)
  refine CL (Z04 hK h hl _ 0) ?_;rintro _ w4 ⟨rfl,h1⟩;refine W ?_;refine WR ?_;refine fin _ _ ?_ _ h1;unfold Z9h;rw [if_neg (by rintro ⟨-,h⟩;omega)];rfl
 case inl=>
  refine QO ?_;repeat'(first|refine W1 ?_|omega|refine VG ?_ ?_<;>intro hg|refine VC ?_ ?_<;>intro hc)
  refine CL (Z04 hK h hl _ 0) ?_;rintro _ w4 ⟨rfl,h1⟩;refine W ?_;refine WR ?_;exact fin _ _ rfl _ h1
 case inr.inr.inl=>
  refine QO ?_;repeat'(first|refine W1 ?_|omega|refine VG ?_ ?_<;>intro hg|refine VC ?_ ?_<;>intro hc)
  refine CL (Z04 hK h hl _ 0) ?_;rintro _ w4 ⟨rfl,h1⟩;refine W ?_;refine WR ?_;exact fin _ _ rfl _ h1
 case inr.inr.inr.inl=>
  refine QO ?_;refine JT (len:=7) (i:=3) rfl rfl rfl (by decide) rfl ?_;refine QO ?_;refine CL (Z04 hK h hl _ 0) ?_;rintro _ w4 ⟨rfl,h1⟩;refine W ?_;refine WR ?_;exact fin _ _ rfl _ h1
 case inr.inr.inr.inr.inl=>
  refine QO ?_;refine JT (len:=7) (i:=4) rfl rfl rfl (by decide) rfl ?_;refine QO ?_;refine CL (Z04 hK h hl _ 0) ?_;rintro _ w4 ⟨rfl,h1⟩;refine W ?_;refine WR ?_;exact fin _ _ rfl _ h1
 case inr.inr.inr.inr.inr.inl=>
  refine QO ?_;refine JT (len:=7) (i:=5) rfl rfl rfl (by decide) rfl ?_;refine QO ?_;refine CL (Z04 hK h hl _ 0) ?_;rintro _ w4 ⟨rfl,h1⟩;refine W ?_;refine WR ?_;exact fin _ _ rfl _ h1
 case inr.inr.inr.inr.inr.inr=>
  refine QO ?_;refine JT (len:=7) (i:=6) rfl rfl rfl (by decide) rfl ?_;refine QO ?_;refine CL (Z04 hK h hl _ 0) ?_;rintro _ w4 ⟨rfl,h1⟩;refine W ?_;refine WR ?_;exact fin _ _ rfl _ h1
end
def Zlv {α:Type} [Z2 α] (P:Program) (S:List Nat) (g:Nat) (lb:Array Value) (c:α->α->Int) (w:World):Prop:=
 ∀ (x y:α) (w':World),Stp S w w'->Calls P g (#[agg x,agg y]++lb) w' (Ret λv w''=>v=.I (c x y)/\Stp [] w' w'')
theorem ZdV (x:Int) (w):CC 100 #[.I x] w λv w'=>v=.B false/\Stp [] w w':=by
 refine cW1 6 Tryz.func100 ?_;repeat'(first|(apply Z3J;exact rfl;exact rfl)|apply Z5k|(apply Z6l;exact rfl;exact rfl)|(apply ZpX;exact rfl;exact rfl;exact rfl)|(apply ZkL;exact rfl;exact rfl;exact rfl)|apply Z4g|apply Z1A|apply Z6u|refine Z3H ?_|refine Z1b ?_)
 refine RU ?_;exact ⟨by simp,Stp.refl _ _⟩
def Zig (x y:Int):Int:=if x<y then -1 else if x > y then 1 else 0
theorem ZaY (x y:Int) (w):CC 66 #[.I x,.I y] w λv w'=>v=.I (Zig x y)/\Stp [] w w':=by
 refine cW2 20 Tryz.func66 ?_;repeat'(first|(apply Z3J;exact rfl;exact rfl)|apply Z5k|(apply Z6l;exact rfl;exact rfl)|(apply Zc0;exact rfl;exact rfl;exact rfl)|(apply Zc1;exact rfl;exact rfl;exact rfl)|apply Z4g|apply Z1A|apply Z6j|apply Z6u|(apply Z1o;exact rfl)|(apply Z15;exact rfl)|refine Z3H ?_|refine Z1b ?_)
 refine CL (ZdV _ _) ?_;rintro _ w1 ⟨rfl,hS⟩;repeat'(first|(apply Z3J;exact rfl;exact rfl)|apply Z5k|(apply Z6l;exact rfl;exact rfl)|(apply Zc0;exact rfl;exact rfl;exact rfl)|(apply Zc1;exact rfl;exact rfl;exact rfl)|apply Z4g|apply Z1A|apply Z6j|apply Z6u|(apply Z1o;exact rfl)|(apply Z15;exact rfl)|refine Z3H ?_|refine Z1b ?_)
 refine CL (ZdV _ _) ?_;rintro _ w2 ⟨rfl,aj⟩;replace hS:=hS.trans aj;repeat'(first|(apply Z3J;exact rfl;exact rfl)|apply Z5k|(apply Z6l;exact rfl;exact rfl)|(apply Zc0;exact rfl;exact rfl;exact rfl)|(apply Zc1;exact rfl;exact rfl;exact rfl)|apply Z4g|apply Z1A|apply Z6j|apply Z6u|(apply Z1o;exact rfl)|(apply Z15;exact rfl)|refine Z3H ?_|refine Z1b ?_|refine Zdk rfl (λhc=>?_) (λhc=>?_)|refine Za2 rfl (λhc=>?_) (λhc=>?_))
 all_goals (refine WR ?_)
 all_goals exact .mk ⟨by unfold Zig;(first|(simp_all;done)|(rw [if_neg (by omega),if_neg (by omega)])),hS⟩
def put {α:Type} (pre rest:List α) (x:α) (j:Nat):List α:=pre.take j++x :: pre.drop j++rest
theorem Zih {α:Type} {pre rest:List α} {x:α} {j:Nat} (hj:j<pre.length):((put pre rest x (j+1)).set (j+1) pre[j]).set j x=put pre rest x j:=by
 have h1:pre.take (j+1)=pre.take j++[pre[j]]:=Xg hj;have h2:pre.drop j=pre[j] :: pre.drop (j+1):=YaS hj;have hl:(pre.take j).length=j:=by simp;omega
 unfold put;rw [h1,h2];simp only [XC,Yaa,XO];rw [YbL,if_neg (by omega),hl,show j+1 - j=1 by omega];rw [YbL,if_neg (by omega),hl,Nat.sub_self];rfl
theorem Zqh {α:Type} {pre rest:List α} {x:α} {j:Nat} (hj:j<=pre.length) (h:j<(put pre rest x j).length):(put pre rest x j)[j]=x:=by
 rw [List.getElem_eq_iff];unfold put;rw [X1 (by simp;omega),YaM (by simp;omega)];simp [Yay hj]
theorem ZcC {α:Type} {pre rest:List α} {x:α} {j:Nat} (hj:j<pre.length) (h:j<(put pre rest x (j+1)).length):(put pre rest x (j+1))[j]=pre[j]:=by
 rw [List.getElem_eq_iff];unfold put;rw [X1 (by simp;omega),X1 (by simp;omega)];simp [hj]
theorem Z9v {α:Type} {pre rest:List α} {x:α} {j:Nat}:(put pre rest x j).length=pre.length+1+rest.length:=by
 have:=congrArg List.length (XZ j pre);simp only [Xa] at this;simp only [put,Xa,Xe];omega
def Z8g {α:Type} (c:α->α->Int) (xs ys:List α):Prop:=ys.Perm xs/\ys.Pairwise (λa b=>¬ c b a<0)
structure Ord {α:Type} (c:α->α->Int):Prop where
 asym:∀ a b,c a b<0->¬ c b a<0
 trans:∀ a b d,¬ c b a<0->¬ c d b<0->¬ c d a<0
theorem ZcD {α:Type} {c:α->α->Int} (ho:Ord c) {pre:List α} {x:α} {j:Nat} (hj:j<=pre.length) (hp:pre.Pairwise (λa b=>¬ c b a<0))
 (h1:∀ q (h:q<pre.length),j<=q->c x pre[q]<0) (h2:∀ h:j - 1<pre.length,0<j->¬ c x pre[j - 1]<0):(pre.take j++x :: pre.drop j).Pairwise (λa b=>¬ c b a<0):=by
 rw [XX];have hd:∀ a∈pre.drop j,c x a<0:=by
  intro a ha;obtain ⟨m,hm,rfl⟩:=XB ha;simp only [List.getElem_drop];simp at hm;exact h1 _ _ (by omega)
 have ht:∀ a∈pre.take j,¬ c x a<0:=by
  intro a ha;obtain ⟨m,hm,rfl⟩:=XB ha;simp only [Xx] at hm;simp only [List.getElem_take];by_cases e:m=j - 1;subst e;exact h2 (by omega) (by omega);exact ho.trans _ _ _ (Yag.1 hp m (j - 1) (by omega) (by omega) (by omega)) (h2 (by omega) (by omega))
 refine ⟨hp.sublist (List.take_sublist _ _),?_,?_⟩;rw [XD];exact ⟨λa ha=>ho.asym _ _ (hd a ha),hp.sublist (List.drop_sublist _ _)⟩;intro a ha b hb;rcases Xc.1 hb with rfl|hb
 exact ht a ha;exact λh=>by
  have h3:=hd b hb;exact ho.trans a x b (ht a ha) (ho.asym _ _ h3) h
theorem Z4T (x y:Int):Zig x y<0↔x<y:=by unfold Zig;split<;>(try split)<;>omega
def Z0O (y:Nat):Nat:=
 let a:=y % 19
 let b:=y / 100
 let c:=y % 100
 let g:=(b - (b+8) / 25+1) / 3
 let h:=(19 * a+b - b / 4 - g+15) % 30
 let l:=(32+2 * (b % 4)+2 * (c / 4) - h - c % 4) % 7
 h+l+114 - 7 * ((a+11 * h+22 * l) / 451)
def Z8h (y:Nat):Nat:=(11 * (y % 19+1)+20+((8 * (y / 100+1)+5) / 25 - 5)+60 - (3 * (y / 100+1) / 4 - 12)) % 30
def ZdW (e g:Nat):Nat:=bif Nat.beq e 24 || (Nat.beq e 25 && Nat.blt 11 g) then e+1 else e
def ZdX (e d:Nat):Nat:=let n:=(bif Nat.blt (44 - e) 21 then 44 - e+30 else 44 - e);n+7 - (d+n) % 7
def Z9w (y:Nat):Nat:=ZdX (ZdW (Z8h y) (y % 19+1)) (5 * y / 4 - (3 * (y / 100+1) / 4 - 12) - 10)
def ZdY (y:Nat):Bool:=Nat.beq (Z0O y) (Z9w y+92) && (Nat.ble 114 (Z0O y) && Nat.ble (Z0O y) 148)
def Zf3:Nat->Nat->Bool
 | 0,lo=>ZdY lo
 | k+1,lo=>Zf3 k lo && Zf3 k (lo+2 ^ k)
theorem Z3Q:∀ (k lo d:Nat),Zf3 k lo=true->lo<=d->d<lo+2 ^ k->ZdY d=true
 | 0, lo, d, h, h1, h2 => by
   have:d=lo:=by simp at h2;omega
   subst this;exact h
 | k + 1, lo, d, h, h1, h2 => by
   simp only [Zf3,Xf] at h;rcases Ybp d (lo+2 ^ k) with h3|h3
   exact Z3Q k lo d h.1 h1 h3;exact Z3Q k _ d h.2 h3 (by rw [YbB] at h2;omega)
theorem Zf4:Zf3 13 1583=true:=by kernel_rfl
theorem Zf5:Zf3 8 9775=true:=by kernel_rfl
theorem ZdZ {y:Nat} (h1:1583<=y) (h2:y<=9999):Z0O y=Z9w y+92/\114<=Z0O y/\Z0O y<=148:=by
 have h:ZdY y=true:=by
  rcases Ybp y 9775 with h3|h3
  exact Z3Q 13 1583 y Zf4 h1 (by omega);exact Z3Q 8 9775 y Zf5 h3 (by omega)
 unfold ZdY at h;simp only [Xf] at h;exact ⟨Xq h.1,Xj h.2.1,Xj h.2.2⟩
theorem Z8i {y:Nat} (h1:1583<=y) (h2:y<=9999):Z2q (y:Int)=(Z0O y:Int):=by
 unfold Z2q Z0O;dsimp only;have e1:(y:Int) % 19=((y % 19:Nat):Int):=by omega
 have e2:(y:Int) / 100=((y / 100:Nat):Int):=by omega
 have e3:(y:Int) % 100=((y % 100:Nat):Int):=by omega
 rw [e1,e2,e3];have ha:y % 19<=18:=by omega
 have hb:15<=y / 100/\y / 100<=99:=by omega
 have hc:y % 100<=99:=by omega
 generalize y % 19=a at *;generalize y / 100=b at *;generalize y % 100=c at *;have e4:((b:Int) - ((b:Int)+8) / 25+1) / 3=(((b - (b+8) / 25+1) / 3:Nat):Int):=by omega
 have hg:(b - (b+8) / 25+1) / 3+b / 4<=b:=by omega
 rw [e4];generalize (b - (b+8) / 25+1) / 3=g at *;have e5:(19 * (a:Int)+(b:Int) - (b:Int) / 4 - (g:Int)+15) % 30=(((19 * a+b - b / 4 - g+15) % 30:Nat):Int):=by omega
 rw [e5];have hh:(19 * a+b - b / 4 - g+15) % 30<=29:=by omega
 generalize (19 * a+b - b / 4 - g+15) % 30=h at *;have e6:(32+2 * ((b:Int) % 4)+2 * ((c:Int) / 4) - (h:Int) - (c:Int) % 4) % 7=(((32+2 * (b % 4)+2 * (c / 4) - h - c % 4) % 7:Nat):Int):=by omega
 rw [e6];have hl:(32+2 * (b % 4)+2 * (c / 4) - h - c % 4) % 7<=6:=by omega
 generalize (32+2 * (b % 4)+2 * (c / 4) - h - c % 4) % 7=l at *;omega
theorem Z60 {y:Int} (h1:1583<=y) (h2:y<=9999):114<=Z2q y/\Z2q y<=148:=by
 obtain ⟨k,rfl⟩:∃ k:Nat,y=(k:Int):=⟨y.toNat,by omega⟩
 have:=ZdZ (y:=k) (by omega) (by omega);rw [Z8i (by omega) (by omega)];omega
theorem Z75 (y d:Int):Jt y 3 d=Jt y 3 1+d - 1/\Jt y 4 d=Jt y 3 1+31+d - 1:=by
 constructor;rw [show (3:Int)=((2:Nat):Int)+1 by rfl,Z1c y d 2 (by omega),Z1c y 1 2 (by omega)];omega;rw [show (4:Int)=((3:Nat):Int)+1 by rfl,show (3:Int)=((2:Nat):Int)+1 by rfl,Z1c y d 3 (by omega),Z1c y 1 2 (by omega)];have:Ju y 3=Ju y 2+31:=by
  have:Ju y 3=Ju y 2+Zo y 3:=by simp [Ju]
  rw [this];rfl
 omega
theorem Zf6 {y:Nat} (h1:1583<=y) (h2:y<=9999):Z1R (y:Int)=Jt y 3 1+(Z9w y:Int) - 1:=by
 have h:=ZdZ h1 h2;have hd:=Z75 (y:Int) (Z2q y % 31+1);unfold Z1R;rw [Z8i h1 h2] at hd ⊢;rcases Ybp (Z0O y) 124 with h3|h3
 have:(Z0O y:Int) / 31=3:=by omega
 rw [this,hd.1];omega;have:(Z0O y:Int) / 31=4:=by omega
 rw [this,hd.2];omega
theorem Z24 (n a b:Int) (w):CC 246 #[.I n,.I a,.I b] w λr w'=>r=.B (decide (a<=n/\n<=b))/\w'=w:=by
 refine cW3 15 Tryz.func246 ?_;by_cases h1:n>=a;by_cases h2:n<=b;rw [decide_eq_true ⟨h1,h2⟩];refine RT ?_;exact ⟨by simp [h2],rfl⟩;rw [decide_eq_false (λh=>h2 h.2)];refine RT ?_;exact ⟨by simp [h2],rfl⟩;rw [decide_eq_false (λh=>h1 h.1)];refine RT ?_;exact ⟨rfl,rfl⟩
theorem Z3t (d:Int) (w) (h0:0<=d) (h1:d<=9000000000):CC 181 #[.I d] w λr w'=>r=.I (d % 7)/\w'=w:=by
 refine cW1 7 Tryz.func181 ?_;refine RT ?_;exact ⟨by congr 1;omega,rfl⟩
theorem ZcE (y:Int) (w):CC 332 #[.I y] w λr w'=>r=.tuple #[.I (if y<1583\/9999<y then 0 else Z1R y),.I (if y<1583\/9999<y then 5 else 0)]/\Stp [] w w':=by
 refine cW1 77 Tryz.func332 ?_;by_cases hy:y<1583\/9999<y
 . rw [if_pos hy,if_pos hy]
   repeat'(first|refine W1 ?_|omega|refine VG ?_ ?_<;>intro hg|refine VC ?_ ?_<;>intro hc)
   all_goals refine WR ?_
   all_goals exact .mk ⟨rfl,Stp.refl _ _⟩
 rw [if_neg hy,if_neg hy];have hb:=Z60 (y:=y) (by omega) (by omega)
 have he:Z2F (Z2q y=(19 * (y % 19)+y / 100 - y / 100 / 4 - (y / 100 - (y / 100+8) / 25+1) / 3+15) % 30 +
  (32+2 * (y / 100 % 4)+2 * (y % 100 / 4) - (19 * (y % 19)+y / 100 - y / 100 / 4 - (y / 100 - (y / 100+8) / 25+1) / 3+15) % 30 - y % 100 % 4) % 7 -
  7 * ((y % 19+11 * ((19 * (y % 19)+y / 100 - y / 100 / 4 - (y / 100 - (y / 100+8) / 25+1) / 3+15) % 30)+22 * ((32+2 * (y / 100 % 4)+2 * (y % 100 / 4) - (19 * (y % 19)+y / 100 - y / 100 / 4 - (y / 100 - (y / 100+8) / 25+1) / 3+15) % 30 - y % 100 % 4) % 7)) / 451)+114):=⟨rfl⟩
 have g1:0<=y % 19/\y % 19<=18:=by omega
 have g2:15<=y / 100/\y / 100<=99:=by omega
 have g3:0<=y % 100/\y % 100<=99:=by omega
 refine QO ?_;have g4:0<=(19 * (y % 19)+y / 100 - y / 100 / 4 - (y / 100 - (y / 100+8) / 25+1) / 3+15) % 30/\(19 * (y % 19)+y / 100 - y / 100 / 4 - (y / 100 - (y / 100+8) / 25+1) / 3+15) % 30<=29:=by omega
 generalize (19 * (y % 19)+y / 100 - y / 100 / 4 - (y / 100 - (y / 100+8) / 25+1) / 3+15) % 30=H at he g4 ⊢;have g5:0<=(32+2 * (y / 100 % 4)+2 * (y % 100 / 4) - H - y % 100 % 4) % 7/\(32+2 * (y / 100 % 4)+2 * (y % 100 / 4) - H - y % 100 % 4) % 7<=6:=by omega
 refine W ?_;generalize (32+2 * (y / 100 % 4)+2 * (y % 100 / 4) - H - y % 100 % 4) % 7=L at he g5 ⊢;rw [<- he.h];refine Z5 (vs:=[(0,.I y),(1,.I (Z2q y / 31)),(2,.I (Z2q y % 31+1))]) rfl (Z2L _ _ _) rfl ?_;refine Z0 (Z3 rfl (ZS rfl) (Z4n y _ _ _ (by omega) (by omega) (by omega) (by omega) (by omega) (by omega) (by omega))) rfl ?_;rintro _ w1 ⟨rfl,hS⟩;refine RT ?_;exact ⟨rfl,hS⟩
theorem Z1D {y m:Int} (hy:1<=y) (dm:y<=9999) (hm:1<=m) (fe:m<=12):¬ Z0g y m 1/\0<=Jt y m 1/\Jt y m 1<=3652058/\28<=Zo y m/\Zo y m<=31:=by
 have hl:=Z0d (y:=y) (k:=(m - 1).toNat) (by omega);rw [show (((m - 1).toNat:Int))+1=m by omega] at hl;have oQ:=Z10 y m;have:=Z11 hy dm hm fe (d:=1) (by omega) (by omega);exact ⟨by unfold Z0g;omega,this.1,this.2,hl,oQ⟩
theorem Z76 (h:Hol) (y:Int) (w) (hL:Z0K w) (hy:1<=y) (dm:y<=9999) (hm:1<=h.month) (fe:h.month<=12) (hw:0<=h.wd) (jF:h.wd<=6) :
 CC 327 #[agg h,.I y] w λr w'=>r=.tuple #[.I (Jt y h.month 1),.I (Z1t y h.month h.wd)]/\Stp [] w w':=by
 obtain ⟨f1,f2,f3,f4,f5⟩:=Z1D hy dm hm fe;refine cW2 26 Tryz.func327 ?_;refine W ?_;refine Z0 (Zp rfl) rfl ?_;rintro _ w1 ⟨b,rfl,hb,ab,hS⟩;replace ab:Blk w1 b 120 (Z2.enc h):=ab;replace hL:=hL.up hS;refine W ?_;refine Z5 (vs:=[(0,.I y),(1,.I h.month),(2,.I 1)]) rfl (Z2L _ _ _) rfl ?_;refine CL (Zau y _ _ _ hL) ?_;rintro _ w2 ⟨rfl,hT⟩;rw [if_neg f1,if_neg f1];replace ab:=ab.up hT;replace hS:=hS.trans hT;clear hT;refine W ?_;refine ZDr 12 [] [] [(0,0),(1,0),(2,0),(3,1),(4,0),(5,2),(6,0),(7,0),(8,0),(9,0),(10,0),(11,0)] (λw1 ae=>?_);replace ab:=ab.up ae;replace hS:=hS.trans ae;clear ae;refine D ?_;refine Z7 rfl trivial (Z3 rfl (ZS rfl) (Z3t _ _ f2 (by omega))) (λ_ _ h=>by rw [h.2];exact Stp.refl _ _) rfl ?_;rintro _ w3 ⟨rfl,rfl⟩;refine D ?_;refine W ?_;refine WR ?_;refine .mk ⟨?_,hS⟩;unfold Z1t;rfl
def Z0q (h:Hol) (y:Int):Int×Bool:=
 if h.kind=1 then (if Z0g y h.month h.day then 0 else Jt y h.month h.day,!decide (Z0g y h.month h.day))
 else if h.kind=2 then (Z1t y h.month h.wd+7 * (h.nth - 1),decide (Z1t y h.month h.wd+7 * (h.nth - 1)<Jt y h.month 1+Zo y h.month))
 else if h.kind=3 then (Z1t y h.month h.wd+(Jt y h.month 1+Zo y h.month - 1 - Z1t y h.month h.wd) / 7 * 7,true)
 else ((if y<1583\/9999<y then 0 else Z1R y)+h.off,!decide (y<1583\/9999<y))
theorem ZcF {h:Hol} {y:Int} (h1:h.first<=y) (h2:y<=h.last):Zcu h y=if (Z0q h y).2=true then some (Z0q h y).1 else none:=by
 unfold Zcu Z0q;rw [if_neg (by omega)];by_cases k1:h.kind=1;rw [if_pos k1,if_pos k1];by_cases hb:Z0g y h.month h.day;simp [hb];simp [hb];rw [if_neg k1,if_neg k1];by_cases k2:h.kind=2;rw [if_pos k2,if_pos k2];simp;rw [if_neg k2,if_neg k2];by_cases k3:h.kind=3;rw [if_pos k3,if_pos k3];rfl;rw [if_neg k3,if_neg k3];by_cases hy:y<1583\/9999<y;simp [hy];simp [hy]
abbrev ZaZ (h:Hol) (y:Int):Value:=.tuple #[.I (Z0q h y).1,.B (Z0q h y).2]
theorem Z3u {y:Int} (h1:1583<=y) (h2:y<=9999):1000<=Z1R y/\Z1R y<=3652058:=by
 have hb:=Z60 h1 h2;have e3:Zo y 3=31:=rfl;have e4:Zo y 4=30:=rfl;have hs:=Z0c h1;have bB:500000<=ZG 1583:=by decide
 have nN:=Z75 y (Z2q y % 31+1);have xj:Jt y 3 1=ZG y+Ju y 2:=by
  have:=Z1c y 1 2 (by omega);rw [show ((2:Nat):Int)+1=3 by rfl] at this;omega
 have hc:0<=Ju y 2:=by
  have:=JM (y:=y) (Xr 2) (by omega);simpa [Ju] using this
 unfold Z1R;have hm:Z2q y / 31=3\/Z2q y / 31=4:=by omega
 rcases hm with hm|hm
 rw [hm];exact ⟨by omega,(Z11 (by omega) h2 (by omega) (by omega) (by omega) (by omega)).2⟩;rw [hm];exact ⟨by omega,(Z11 (by omega) h2 (by omega) (by omega) (by omega) (by omega)).2⟩
theorem Z1X {y m wd:Int} (hy:1<=y) (dm:y<=9999) (hm:1<=m) (fe:m<=12):Jt y m 1<=Z1t y m wd/\Z1t y m wd<=Jt y m 1+6:=by
 unfold Z1t;omega
theorem Z77 {h:Hol} {y:Int} (ho:Z0X h) (h1:h.first<=y) (h2:y<=h.last) (hp:(Z0q h y).2=true):0<=(Z0q h y).1/\(Z0q h y).1<=3653000:=by
 have hy:=ho.f1;have dm:=ho.l1;have bz:=ho.k1;have cA:=ho.k2;unfold Z0q at hp ⊢;by_cases k1:h.kind=1;rw [if_pos k1] at hp ⊢;obtain ⟨m1,m2⟩:=ho.month (by omega);by_cases hb:Z0g y h.month h.day;simp [hb] at hp;dsimp only;rw [if_neg hb];unfold Z0g at hb;have:=Z11 (y:=y) (m:=h.month) (d:=h.day) (by omega) (by omega) (by omega) (by omega) (by omega) (by omega);omega;rw [if_neg k1] at hp ⊢;by_cases k2:h.kind=2;rw [if_pos k2] at hp ⊢;obtain ⟨m1,m2⟩:=ho.month (by omega);obtain ⟨n1,n2⟩:=ho.nth k2;obtain ⟨f1,f2,f3,f4,f5⟩:=Z1D (y:=y) (by omega) (by omega) m1 m2;obtain ⟨f6,f7⟩:=Z1X (y:=y) (wd:=h.wd) (by omega) (by omega) m1 m2;dsimp only;omega;rw [if_neg k2] at hp ⊢;by_cases k3:h.kind=3;rw [if_pos k3] at hp ⊢;obtain ⟨m1,m2⟩:=ho.month (by omega);obtain ⟨f1,f2,f3,f4,f5⟩:=Z1D (y:=y) (by omega) (by omega) m1 m2;obtain ⟨f6,f7⟩:=Z1X (y:=y) (wd:=h.wd) (by omega) (by omega) m1 m2;dsimp only;omega;rw [if_neg k3] at hp ⊢;obtain ⟨o1,o2⟩:=ho.off (by omega);by_cases hy:y<1583\/9999<y;simp [hy] at hp;dsimp only;rw [if_neg hy];have:=Z3u (y:=y) (by omega) (by omega);omega
theorem Zf7 (h:Hol) (y:Int) (w) (hL:Z0K w) (hk:h.kind=1) :
 CC 323 #[agg h,.I y] w λr w'=>r=ZaZ h y/\Stp [] w w':=by
 have e:Z0q h y=(if Z0g y h.month h.day then 0 else Jt y h.month h.day,!decide (Z0g y h.month h.day)):=by unfold Z0q;rw [if_pos hk]
 unfold ZaZ;rw [e];refine cW2 21 Tryz.func323 ?_;refine W ?_;refine Z0 (Zp rfl) rfl ?_;rintro _ w1 ⟨b,rfl,hb,ab,hS⟩;replace ab:Blk w1 b 120 (Z2.enc h):=ab;replace hL:=hL.up hS;refine W ?_;refine Z5 (vs:=[(0,.I y),(1,.I h.month),(2,.I h.day)]) rfl (Z2L _ _ _) rfl ?_;refine CL (Zau y _ _ _ hL) ?_;rintro _ w2 ⟨rfl,hT⟩;refine W ?_;refine WR ?_;refine .mk ⟨?_,hS.trans hT⟩;by_cases hb:Z0g y h.month h.day<;>simp [hb]
theorem Zf8 (h:Hol) (y:Int) (w) (hL:Z0K w) (hy:1<=y) (dm:y<=9999) (hk:h.kind=2) (ho:Z0X h) :
 CC 326 #[agg h,.I y] w λr w'=>r=ZaZ h y/\Stp [] w w':=by
 have e:Z0q h y=(Z1t y h.month h.wd+7 * (h.nth - 1),decide (Z1t y h.month h.wd+7 * (h.nth - 1)<Jt y h.month 1+Zo y h.month)):=by unfold Z0q;rw [if_neg (by omega),if_pos hk]
 obtain ⟨m1,m2⟩:=ho.month (by omega);obtain ⟨d1,d2⟩:=ho.wd (.inl hk);obtain ⟨n1,n2⟩:=ho.nth hk;obtain ⟨f1,f2,f3,f4,f5⟩:=Z1D hy dm m1 m2;obtain ⟨f6,f7⟩:=Z1X (wd:=h.wd) hy dm m1 m2;unfold ZaZ;rw [e];refine cW2 29 Tryz.func326 ?_;refine W ?_;refine Z0 (Zp rfl) rfl ?_;rintro _ w1 ⟨b,rfl,hb,ab,hS⟩;replace ab:Blk w1 b 120 (Z2.enc h):=ab;replace hL:=hL.up hS;refine W ?_;refine CL (Z76 h y _ hL hy dm m1 m2 d1 d2) ?_;rintro _ w2 ⟨rfl,hT⟩;replace ab:=ab.up hT;replace hL:=hL.up hT;replace hS:=hS.trans hT;refine W ?_;refine CM (Zg rfl rfl) (Z2K y _ _ hL (by omega) (by omega)) ?_;rintro _ _ ⟨rfl,rfl⟩;refine RT ?_;exact ⟨rfl,hS⟩
theorem Zf9 (h:Hol) (y:Int) (w) (hL:Z0K w) (hy:1<=y) (dm:y<=9999) (hk:h.kind=3) (ho:Z0X h) :
 CC 329 #[agg h,.I y] w λr w'=>r=ZaZ h y/\Stp [] w w':=by
 have e:Z0q h y=(Z1t y h.month h.wd+(Jt y h.month 1+Zo y h.month - 1 - Z1t y h.month h.wd) / 7 * 7,true):=by unfold Z0q;rw [if_neg (by omega),if_neg (by omega),if_pos hk]
 obtain ⟨m1,m2⟩:=ho.month (by omega);obtain ⟨d1,d2⟩:=ho.wd (.inr hk);obtain ⟨f1,f2,f3,f4,f5⟩:=Z1D hy dm m1 m2;obtain ⟨f6,f7⟩:=Z1X (wd:=h.wd) hy dm m1 m2;unfold ZaZ;rw [e];refine cW2 29 Tryz.func329 ?_;refine W ?_;refine Z0 (Zp rfl) rfl ?_;rintro _ w1 ⟨b,rfl,hb,ab,hS⟩;replace ab:Blk w1 b 120 (Z2.enc h):=ab;replace hL:=hL.up hS;refine W ?_;refine CL (Z76 h y _ hL hy dm m1 m2 d1 d2) ?_;rintro _ w2 ⟨rfl,hT⟩;replace ab:=ab.up hT;replace hL:=hL.up hT;replace hS:=hS.trans hT;refine W ?_;refine CM (Zg rfl rfl) (Z2K y _ _ hL (by omega) (by omega)) ?_;rintro _ _ ⟨rfl,rfl⟩;refine RT ?_;exact ⟨rfl,hS⟩
theorem Zfa (h:Hol) (y:Int) (w) (hk:h.kind=4) (ho:Z0X h) :
 CC 331 #[agg h,.I y] w λr w'=>r=ZaZ h y/\Stp [] w w':=by
 have e:Z0q h y=((if y<1583\/9999<y then 0 else Z1R y)+h.off,!decide (y<1583\/9999<y)):=by unfold Z0q;rw [if_neg (by omega),if_neg (by omega),if_neg (by omega)]
 obtain ⟨o1,o2⟩:=ho.off hk;have hr:0<=(if y<1583\/9999<y then 0 else Z1R y)/\(if y<1583\/9999<y then 0 else Z1R y)<=3652058:=by
  split;omega;have:=Z3u (y:=y) (by omega) (by omega);omega
 unfold ZaZ;rw [e];refine cW2 19 Tryz.func331 ?_;refine W ?_;refine Z0 (Zp rfl) rfl ?_;rintro _ w1 ⟨b,rfl,hb,ab,hS⟩;replace ab:Blk w1 b 120 (Z2.enc h):=ab;refine W ?_;refine CL (ZcE y _) ?_;rintro _ w2 ⟨rfl,hT⟩;replace ab:=ab.up hT;replace hS:=hS.trans hT;refine W ?_;refine WR ?_;refine .mk ⟨?_,hS⟩;by_cases hy:y<1583\/9999<y<;>simp [hy]
theorem ZcG (g:Nat) (fn:Func) [Fun Tryz.prog g fn] (lb:Array Value) (c:Spn->Spn->Int) (ho:Ord c) (X:List Nat) (base:Nat) (v:Value) (xs:List Spn) (w:World) (hX:∀ b∈X,b<base) (aV:base<=w.heap.size) (ac:Row X w base 334 v xs) (hp:Zlv Tryz.prog (ob v) g lb c w) (ak:xs.length<=1000) :
 CC 379 #[v,.I 0,.I xs.length,.func (.func g) #[] lb] w λr w'=>∃ ys,Z8g c xs ys/\Row X w' base 334 v ys/\Stp (ob v) w w':=by
 refine cW4 53 Tryz.func379 ?_;refine W ?_
 refine Zm (σ:=Nat) (λi=>[(0,v),(1,.I 0),(2,.I xs.length),(3,.func (.func g) #[] lb),(8,.I (i+1))])
  (λi w'=>Stp (ob v) w w'/\∃ ys,ys.Perm xs/\Row X w' base 334 v ys/\(ys.take (i+1)).Pairwise (λa b=>¬ c b a<0)) (λi=>xs.length - i) 0 ⟨rfl,rfl,rfl,rfl,rfl,trivial⟩
  ⟨Stp.refl _ _,xs,Yam _,ac,?_⟩ ?_
 . cases xs with
   | nil=>simp
   | cons x r=>simp
 rintro i w1 ⟨hS,ys,gH,ac,jq⟩;have dY:=gH.length_eq;by_cases jN:i+1<xs.length
 . repeat'(first|refine W1 ?_|refine VG ?_ ?_<;>intro hg|refine VC ?_ ?_<;>intro hc)
   rotate_left
   omega;obtain ⟨pre,x,rest,fw,rfl⟩:∃ pre x rest,pre.length=i+1/\ys=put pre rest x pre.length:=by
    refine ⟨ys.take (i+1),ys[i+1],ys.drop (i+2),by simp;omega,?_⟩;unfold put;have hl:(ys.take (i+1)).length=i+1:=by simp;omega
    rw [hl,Ybc,Nat.min_self,Ya4 (by omega)]
    conv=>lhs;rw [<- XZ (i+1) ys,YaS (by omega)]
    simp
   have cH:pre.Pairwise (λa b=>¬ c b a<0):=by
    have:(put pre rest x pre.length).take (i+1)=pre:=by
     unfold put;rw [Xs,Ybg,XC,<- fw,YbO];rfl
    rwa [this] at jq
   have uy:pre.length+1+rest.length=xs.length:=by rw [<- dY,Z9v]
   have fin:∀ j (w':World),j<=pre.length->Stp (ob v) w w'->Row X w' base 334 v (put pre rest x j)->(∀ q (h:q<pre.length),j<=q->c x pre[q]<0)->(∀ h:j - 1<pre.length,0<j->¬ c x pre[j - 1]<0)->
    Stp (ob v) w w'/\∃ ys,ys.Perm xs/\Row X w' base 334 v ys/\(ys.take (i+1+1)).Pairwise (λa b=>¬ c b a<0):=by
    intro j w' hj hS ac h1 h2;refine ⟨hS,put pre rest x j,?_,ac,?_⟩;refine List.Perm.trans ?_ gH;unfold put;rw [Xs,Ybg];refine List.Perm.append_right _ ?_;refine List.Perm.trans YbK ?_;rw [XZ];exact (List.perm_append_singleton x pre).symm;have e:(put pre rest x j).take (i+1+1)=pre.take j++x :: pre.drop j:=by
     have hl:(pre.take j++x :: pre.drop j).length=i+1+1:=by
      have:=congrArg List.length (XZ j pre);simp only [Xa] at this;simp only [Xa,Xe];omega
     unfold put;rw [<- hl,YbO];rfl
    rw [e];exact ZcD ho hj cH h1 h2
   refine Zm (σ:=Nat) (λj=>[(0,v),(1,.I 0),(2,.I xs.length),(3,.func (.func g) #[] lb),(8,.I (i+1)),(9,.I (j:Int))])
    (λj w'=>j<=pre.length/\Stp (ob v) w w'/\Row X w' base 334 v (put pre rest x j)/\(∀ q (h:q<pre.length),j<=q->c x pre[q]<0)) (λj=>j) (i+1) ⟨rfl,rfl,rfl,rfl,rfl,rfl,trivial⟩
    ⟨by omega,hS,by rw [fw] at ac;exact ac,λq h hq=>by omega⟩ ?_
   clear ac hS;rintro j w2 ⟨hj,hS,ac,hlt⟩;have hs:=ac.slv hX;cases j with
   | zero=>
     refine W ?_;refine ZDr 17 [] [] [(0,0),(1,0),(2,0),(3,0),(4,0),(5,0),(6,0),(7,0),(8,1),(9,0),(10,0),(11,0),(12,0),(13,1),(14,2),(15,0),(16,0)] (λw1 ae=>?_);replace hS:=hS.trans ae.mn;replace ac:=ac.up ae;replace hs:=hs.up ae;refine D ?_;refine W ?_;exact QL (i+1) (fin 0 _ (Xr _) hS ac hlt (λ_ h=>absurd h (Nat.lt_irrefl _))) (by omega)
   | succ j=>
     have hz:((j+1:Nat):Int) - 1=(j:Int):=by omega
     have cu:j+1<(put pre rest x (j+1)).length:=by rw [Z9v];omega
     have ea:j<(put pre rest x (j+1)).length:=by rw [Z9v];omega
     have a1:=Zqh (rest:=rest) (x:=x) hj cu;have a0:=ZcC (rest:=rest) (x:=x) (Nat.lt_of_succ_le hj) ea;refine W ?_;refine ZDr 17 [] [] [(0,0),(1,0),(2,0),(3,0),(4,0),(5,0),(6,0),(7,0),(8,1),(9,0),(10,0),(11,0),(12,0),(13,1),(14,2),(15,0),(16,0)] (λw1 ae=>?_);replace hS:=hS.trans ae.mn;replace ac:=ac.up ae;replace hs:=hs.up ae;refine QD ?_;refine Z7 rfl (by first|exact trivial|exact rfl) (Z0F (f:=g) rfl (Zg rfl rfl) rfl (hp _ _ _ hS)) (λ_ _ h=>h.2) rfl ?_;rintro _ w3 ⟨rfl,aF⟩;rw [a1,a0];replace hS:=hS.trans aF.mn;replace ac:=ac.up aF;replace hs:=hs.up aF;refine D ?_
     (refine QP ?_ ?_<;>intro hc)
     rename_i hc;refine ZDr 18 [] [15,17] [(0,0),(1,0),(2,0),(3,0),(4,0),(5,0),(6,0),(7,0),(8,0),(9,1),(10,0),(11,0),(12,0),(13,1),(14,0),(15,2),(16,0),(17,2)] (λw1 ae=>?_);replace hS:=hS.trans ae.mn;replace ac:=ac.up ae;replace hs:=hs.up ae;refine D ?_;rw [a1,a0];refine ZM rfl trivial (Z6z (i:=j+1) (y':=pre[j]) rfl rfl rfl rfl ac hX cu) rfl ?_;rintro _ w4 ⟨ac,aU⟩;replace hS:=hS.trans aU;refine D ?_;refine ZM rfl trivial (Z6z (i:=j) (y':=x) rfl rfl rfl rfl ac hX (by rw [Yan];exact ea)) rfl ?_;rintro _ w5 ⟨ac,aD⟩;replace hS:=hS.trans aD;rw [Zih (Nat.lt_of_succ_le hj)] at ac;refine D ?_;refine W ?_;refine Zd j ⟨rfl,rfl,rfl,rfl,rfl,(by rw [<- hz];rfl),trivial⟩ ⟨by omega,hS,ac,λq h hq=>?_⟩ (by omega);by_cases e:q=j;subst e;exact hc;exact hlt q h (by omega);exact QL (i+1) (fin (j+1) _ hj hS ac hlt (λ_ _=>by assumption)) (by omega)
 focus repeat'(first|refine W1 ?_|refine VG ?_ ?_<;>intro hg|refine VC ?_ ?_<;>intro hc)
 omega;refine WR ?_;refine .mk ⟨ys,⟨gH,?_⟩,ac,hS⟩
 rwa [XS (by omega)] at jq
theorem Zlw (g:Nat) (fn:Func) [Fun Tryz.prog g fn] (lb:Array Value) (c:Spn->Spn->Int) (ho:Ord c) (X:List Nat) (base:Nat) (v:Value) (xs:List Spn) (w:World) (hX:∀ b∈X,b<base) (aV:base<=w.heap.size) (ac:Row X w base 334 v xs) (hp:Zlv Tryz.prog (ob v) g lb c w) (ak:xs.length<20) :
 CC 366 #[v,.I xs.length,.func (.func g) #[] lb] w λr w'=>∃ ys,Z8g c xs ys/\Row X w' base 334 v ys/\Stp (ob v) w w':=by
 have nl:¬ ((20:Int)<=xs.length):=by omega
 have nl2:¬ ((20:Int)<xs.length):=by omega
 refine cW3 63 Tryz.func366 ?_;refine W ?_;refine Zm (σ:=Unit) (λ_=>[(0,v),(1,.I xs.length),(2,.func (.func g) #[] lb),(6,.I 20),(7,.I 0),(8,.I 20)]) (λ_ w'=>w'=w) (λ_=>0) () ⟨rfl,rfl,rfl,rfl,rfl,rfl,trivial⟩ rfl ?_;rintro _ w' rfl;repeat'(first|refine W1 ?_|refine VG ?_ ?_<;>intro hg|refine VC ?_ ?_<;>intro hc)
 exact absurd (by assumption) nl;refine CM (Z40 rfl rfl rfl rfl) (ZcG g fn lb c ho X base v xs _ hX aV ac hp (by omega)) ?_;rintro r w2 az;refine W ?_;refine Zm (σ:=Unit) (λ_=>[(1,.I xs.length),(6,.I 20)]) (λ_ w'=>w'=w2) (λ_=>0) () ⟨rfl,rfl,trivial⟩ rfl ?_;rintro _ w' rfl;repeat'(first|refine W1 ?_|refine VG ?_ ?_<;>intro hg|refine VC ?_ ?_<;>intro hc)
 exact absurd (by assumption) nl2;refine WR ?_;exact .mk az
theorem Zb0 (g:Nat) (fn:Func) [Fun Tryz.prog g fn] (lb:Array Value) (c:Spn->Spn->Int) (ho:Ord c) (X:List Nat) (base:Nat) (v:Value) (xs:List Spn) (w:World) (hX:∀ b∈X,b<base) (aV:base<=w.heap.size) (ac:Row X w base 334 v xs) (hp:Zlv Tryz.prog (ob v) g lb c w) (ak:xs.length<20) :
 CC 343 #[v,.func (.func g) #[] lb] w λr w'=>∃ ys,Z8g c xs ys/\Row X w' base 334 v ys/\Stp (ob v) w w':=by
 have hs:=ac.slv hX;refine cW2 9 Tryz.func343 ?_;refine W ?_;refine CL (Zlw g fn lb c ho X base v xs _ hX aV ac hp ak) ?_;rintro r w2 az;refine W ?_;refine WR ?_;exact .mk az
def Zb1 (x y:Spn):Int:=Zig x.1 y.1
theorem Zv0:Ord Zb1 where
 asym:=λa b=>by unfold Zb1;rw [Z4T,Z4T];omega
 trans:=λa b d=>by unfold Zb1;rw [Z4T,Z4T,Z4T];omega
theorem Zu5 (S:List Nat) (w):Zlv Tryz.prog S 344 #[] Zb1 w:=by
 intro x y w1 hS;show Calls _ _ #[agg x,agg y] _ _;refine cW2 10 Tryz.func344 ?_;refine W ?_;refine Z0 (Zp rfl) rfl ?_;rintro _ w2 ⟨c,rfl,hc,ab,aj⟩;replace ab:Blk w2 c _ (Z2.enc x):=ab;refine Z0 (Zp rfl) rfl ?_;rintro _ w3 ⟨c2,rfl,eC,aK,aF⟩;replace aK:Blk w3 c2 _ (Z2.enc y):=aK;replace ab:=ab.up aF;replace aj:=aj.trans aF;refine W ?_;refine CL (ZaY _ _ _) ?_;rintro _ w4 ⟨rfl,aU⟩;refine RT ?_;exact ⟨rfl,aj.trans aU⟩
def ofH (y:Int) (h:Hol) (i:Int):List Spn:=match Z0j h y with|some d=>[(d,i)]|none=>[]
def ofK (y:Int):List Hol->Int->List Spn
 | [],_=>[]
 | h :: r,i=>ofH y h i++ofK y r (i+1)
theorem Ze0 (y:Int):∀ (a b:List Hol) (i:Int),ofK y (a++b) i=ofK y a i++ofK y b (i+a.length)
 | [],b,i=>by simp [ofK]
 | h :: a, b, i => by
   simp only [Yaa,ofK,Ze0 y a b (i+1),XC,Xe];congr 3;omega
theorem Ze1 (y d:Int):∀ (l:List Hol) (i:Int),(∃ r,(d,r)∈ofK y l i)↔∃ h∈l,Z0j h y=some d
 | [],i=>by simp [ofK]
 | h :: l, i => by
   simp only [ofK,Xd,Xc,exists_or,exists_eq_or_imp];have ih:=Ze1 y d l (i+1);constructor;rintro (⟨r,hr⟩|hr)
   . left
     unfold ofH at hr;cases hk:Z0j h y with
     | none=>rw [hk] at hr;simp at hr
     | some d'=>rw [hk] at hr;simp at hr;rw [hr.1]
   right;exact ih.1 hr;rintro (hk|hk)
   left;exact ⟨i,by unfold ofH;rw [hk];simp⟩
   right;exact ih.2 hk
theorem Z6p (y:Int):∀ (l:List Hol) (i:Int),(ofK y l i).length<=l.length
 | [],i=>by simp [ofK]
 | h :: l, i => by
   have:=Z6p y l (i+1);simp only [ofK,Xa,Xe];unfold ofH;cases Z0j h y<;>simp<;>omega
abbrev fnV (f:Nat):Value:=.func (.func f) #[] #[]
abbrev Z78:List Value:=[fnV 322,fnV 323,fnV 325,fnV 326,fnV 328,fnV 329,fnV 330,fnV 331]
theorem Z9x (f g:Nat) (w):(Instr.build 322 #[(0,fnV f),(1,fnV g)]).run Tryz.prog w=.ok (.agg #[fnV f,fnV g]) w:=by kernel_rfl
theorem Zlx (a b c d e f g h:Nat) (w):(Instr.build 323 #[(0,.agg #[fnV a,fnV b]),(1,.agg #[fnV c,fnV d]),(2,.agg #[fnV e,fnV f]),(3,.agg #[fnV g,fnV h])]).run Tryz.prog w=.ok (.agg #[fnV a,fnV b,fnV c,fnV d,fnV e,fnV f,fnV g,fnV h]) w:=by kernel_rfl
theorem Zfb (w):CC 281 #[] w λr w'=>r=.agg Z78.toArray/\Stp [] w w':=by
 refine cW0 6 Tryz.func281 ?_;refine W ?_;refine Z0 Z4 rfl ?_;rintro _ w1 ⟨b,rfl,hb,ab,hS⟩;refine W ?_;refine Z5 (vs:=[(0,fnV 322),(1,fnV 323)]) rfl (Z9x _ _) rfl ?_;refine Z5 (vs:=[(0,fnV 325),(1,fnV 326)]) rfl (Z9x _ _) rfl ?_;refine Z5 (vs:=[(0,fnV 328),(1,fnV 329)]) rfl (Z9x _ _) rfl ?_;refine Z5 (vs:=[(0,fnV 330),(1,fnV 331)]) rfl (Z9x _ _) rfl ?_;refine Z5 (vs:=[(0,.agg #[fnV 322,fnV 323]),(1,.agg #[fnV 325,fnV 326]),(2,.agg #[fnV 328,fnV 329]),(3,.agg #[fnV 330,fnV 331])]) rfl (Zlx _ _ _ _ _ _ _ _) rfl ?_;refine SB (us:=Z78) (by intro u hu;simp [Z78] at hu;rcases hu with rfl|rfl|rfl|rfl|rfl|rfl|rfl|rfl<;>rfl) ab ?_;rintro _ w2 ⟨hT,aK⟩;refine W ?_;refine JS rfl rfl rfl aK rfl ?_;exact .mk ⟨rfl,hS.ow hT⟩
theorem Zly {m d:Int} (h0:0<=m) (h2:m<=2) (hd:0<=d):Z3p[0+m.toNat * 7+(d % 7).toNat * 1]?=some (Z0V m d - d):=by
 have hm:m=0\/m=1\/m=2:=by omega
 have hw:d % 7=0\/d % 7=1\/d % 7=2\/d % 7=3\/d % 7=4\/d % 7=5\/d % 7=6:=by omega
 unfold Z0V;rcases hm with rfl|rfl|rfl<;>rcases hw with h|h|h|h|h|h|h<;>rw [h]<;>simp [Z3p]<;>omega
theorem Z8j (m d:Int):d - 1<=Z0V m d/\Z0V m d<=d+2:=by
 unfold Z0V;repeat' split
 all_goals omega
theorem Zlz (a b:Int) (w):(Instr.build 334 #[(0,.I a),(1,.I b)]).run Tryz.prog w=.ok (agg ((a,b):Spn)) w:=by kernel_rfl
theorem Zii (d:Spn) (w):(Instr.buildSlice 331 1 #[(0,agg d)]).run Tryz.prog w=.ok (.slice (some ⟨w.heap.size,0,none⟩) 1 1) (w.alloc (.cells (Z2.enc d).toArray 334)):=by kernel_rfl
theorem ZlA (v:Value) (l:List Hol) (y:Int) (w) (hs:SlV [] w v l) (hL:Z0K w) (hM:Z2d w) (ho:∀ h∈l,Z0X h) (hl:l.length<20) :
 CC 290 #[v,.I y] w λr w'=>∃ ys,Z8g Zb1 (ofK y l 0) ys/\Zk 334 w w' r ys:=by
 refine cW2 61 Tryz.func290 ?_;refine W ?_;refine CL (Zfb _) ?_;rintro _ w1 ⟨rfl,hS⟩;refine Z0 Z4 rfl ?_;rintro _ w2 ⟨b6,rfl,dS,e6,aj⟩;refine W ?_;refine SB (us:=Z78) (by intro u hu;simp [Z78] at hu;rcases hu with rfl|rfl|rfl|rfl|rfl|rfl|rfl|rfl<;>rfl) e6 ?_;rintro _ w3 ⟨hT,k6⟩;replace hS:=hS.trans (aj.ow hT);clear e6 aj hT;replace hs:=hs.up hS;replace hL:=hL.up hS;replace hM:=hM.up hS;refine W ?_
 refine Zm (σ:=Nat×Value) (λq=>[(0,v),(1,.I y),(5,q.2),(6,pQ b6),(12,v),(13,.I (l.length:Int)),(14,.I (q.1:Int))])
  (λq w'=>q.1<=l.length/\Zk 334 w3 w' q.2 (ofK y (l.take q.1) 0)) (λq=>l.length - q.1) (0,.N) ⟨rfl,rfl,rfl,rfl,rfl,rfl,rfl,trivial⟩ ⟨Xr _,Zk.nil⟩ ?_
 rintro ⟨k,ov⟩ w4 ⟨hk,hr⟩;dsimp only at hk hr ⊢;have aU:=hr.2;replace hs:=hs.up aU;replace hL:=hL.up aU;replace hM:=hM.up aU;replace k6:=k6.up aU;by_cases hlt:k<l.length;have ht:l.take (k+1)=l.take k++[l[k]]:=Xg hlt;have rM:ofK y (l.take (k+1)) 0=ofK y (l.take k) 0++ofH y l[k] (k:Int):=by
  rw [ht,Ze0];simp only [ofK,Xz,Xx,Yay hk];simp
 have aL:=ho l[k] (Xb hlt);refine QO ?_;refine Z0 Z4 rfl ?_;rintro _ w5 ⟨b8,rfl,dG,e8,aD⟩;refine W ?_;refine SA (us:=Z2.enc l[k]) e8 ?_;rintro _ w6 ⟨hT,k8⟩;replace aD:=aD.ow hT;clear e8 hT;replace hr:=hr.up aD;replace hs:=hs.up aD;replace hL:=hL.up aD;replace hM:=hM.up aD;replace k6:=k6.up aD;clear aD;refine W ?_;refine CL (Z24 y l[k].first l[k].last _) ?_;rintro _ w6 ⟨rfl,rfl⟩;have again:∀ (w':World),Z0j l[k] y=none->Stp [] w6 w'->Zk 334 w3 w' ov (ofK y (l.take (k+1)) 0):=by
  intro w' hn cQ;rw [rM];unfold ofH;rw [hn,Xz];exact hr.up cQ
 by_cases aY:l[k].first<=y/\y<=l[k].last;rw [decide_eq_true aY];have fB:=ZcF aY.1 aY.2;have jl:=aL.f1;have dm:=aL.l1;refine W ?_
 refine Js (σ:=Unit) (λ_=>[(0,v),(1,.I y),(5,ov),(6,pQ b6),(7,.I (k:Int)),(8,pQ b8),(9,.I (Z0q l[k] y).1),(10,.B (Z0q l[k] y).2),(12,v),(13,.I (l.length:Int)),(14,.I (k:Int))])
  (λ_ w'=>Stp [] w6 w') ?_ ?_
 have fa:l[k].kind=1\/l[k].kind=2\/l[k].kind=3\/l[k].kind=4:=by have:=aL.k1;have:=aL.k2;omega
 rcases fa with fa|fa|fa|fa
 refine ZDr 14 [] [] [(0,0),(1,1),(2,0),(3,0),(4,0),(5,1),(6,1),(7,0),(8,2),(9,0),(10,0),(11,0),(12,0),(13,0)] (λw1 ae=>?_);replace k6:=k6.up ae;replace k8:=k8.up ae;replace hL:=hL.up ae;have hz:l[k].kind - 1=((0:Nat):Int):=by omega
 refine D ?_;refine Z1I rfl (Z3L (len:=4) (i:=0) trivial rfl rfl hz (by decide) rfl ?_);refine D ?_;refine Z7 rfl trivial (Z3 rfl (Zg rfl rfl) (Zf7 _ _ _ hL fa)) (λ_ _ h=>h.2) rfl ?_;rintro _ w7 ⟨rfl,aW⟩;refine D ?_;exact QT () (ae.trans aW);refine ZDr 14 [] [] [(0,0),(1,1),(2,0),(3,0),(4,0),(5,1),(6,1),(7,0),(8,2),(9,0),(10,0),(11,0),(12,0),(13,0)] (λw1 ae=>?_);replace k6:=k6.up ae;replace k8:=k8.up ae;replace hL:=hL.up ae;have hz:l[k].kind - 1=((1:Nat):Int):=by omega
 refine D ?_;refine Z1I rfl (Z3L (len:=4) (i:=1) trivial rfl rfl hz (by decide) rfl ?_);refine D ?_;refine Z7 rfl trivial (Z3 rfl (Zg rfl rfl) (Zf8 _ _ _ hL (by omega) (by omega) fa aL)) (λ_ _ h=>h.2) rfl ?_;rintro _ w7 ⟨rfl,aW⟩;refine D ?_;exact QT () (ae.trans aW);refine ZDr 14 [] [] [(0,0),(1,1),(2,0),(3,0),(4,0),(5,1),(6,1),(7,0),(8,2),(9,0),(10,0),(11,0),(12,0),(13,0)] (λw1 ae=>?_);replace k6:=k6.up ae;replace k8:=k8.up ae;replace hL:=hL.up ae;have hz:l[k].kind - 1=((2:Nat):Int):=by omega
 refine D ?_;refine Z1I rfl (Z3L (len:=4) (i:=2) trivial rfl rfl hz (by decide) rfl ?_);refine D ?_;refine Z7 rfl trivial (Z3 rfl (Zg rfl rfl) (Zf9 _ _ _ hL (by omega) (by omega) fa aL)) (λ_ _ h=>h.2) rfl ?_;rintro _ w7 ⟨rfl,aW⟩;refine D ?_;exact QT () (ae.trans aW);refine ZDr 14 [] [] [(0,0),(1,1),(2,0),(3,0),(4,0),(5,1),(6,1),(7,0),(8,2),(9,0),(10,0),(11,0),(12,0),(13,0)] (λw1 ae=>?_);replace k6:=k6.up ae;replace k8:=k8.up ae;replace hL:=hL.up ae;have hz:l[k].kind - 1=((3:Nat):Int):=by omega
 refine D ?_;refine Z1I rfl (Z3L (len:=4) (i:=3) trivial rfl rfl hz (by decide) rfl ?_);refine D ?_;refine Z7 rfl trivial (Z3 rfl (Zg rfl rfl) (Zfa _ _ _ fa aL)) (λ_ _ h=>h.2) rfl ?_;rintro _ w7 ⟨rfl,aW⟩;refine D ?_;exact QT () (ae.trans aW)
 . rintro _ w7 aW
   clear k6;replace k8:=k8.up aW;replace hM:=hM.up aW;cases hp:(Z0q l[k] y).2 with
   | false=>
     rw [hp] at fB;refine W ?_;exact QL (k+1,ov) ⟨hlt,again _ (by unfold Z0j;rw [fB];rfl) aW⟩ (by dsimp only;omega)
   | true=>
     rw [hp] at fB;obtain ⟨n1,n2⟩:=Z77 aL aY.1 aY.2 hp;have pn:=aL.m1;have po:=aL.m2;have pp:=Zly pn po n1;have rN:=Z8j l[k].move (Z0q l[k] y).1;have fE:Z0j l[k] y=if Zu (Z0V l[k].move (Z0q l[k] y).1)=true then some (Z0V l[k].move (Z0q l[k] y).1) else none:=by
      unfold Z0j;rw [fB];rfl
     generalize (Z0q l[k] y).1=d at *;refine W ?_;refine ZDr 10 [] [] [(0,0),(1,0),(2,1),(3,0),(5,0),(4,2),(6,0),(7,1),(8,0),(9,0)] (λw1 ae=>?_);replace k8:=k8.up ae;replace hM:=hM.up ae;replace aW:=aW.trans ae;clear ae;refine D ?_;refine Z1I rfl (Z3L (len:=3) (i:=l[k].move.toNat) trivial rfl rfl (by omega) (by omega) rfl ?_);refine D ?_;refine Z7 rfl trivial (Z3 rfl (ZS rfl) (Z3t _ _ n1 (by omega))) (λ_ _ h=>by rw [h.2];exact Stp.refl _ _) rfl ?_;rintro _ w8 ⟨rfl,rfl⟩;refine D ?_;refine Z1I rfl (Z3L (len:=7) (i:=(d % 7).toNat) trivial rfl rfl (by omega) (by omega) rfl ?_);refine D ?_;refine WD_read rfl trivial (λw' be=>Jp rfl rfl (hM.up be _ _ pp)) rfl ?_;refine D ?_;have ed:d+(Z0V l[k].move d - d)=Z0V l[k].move d:=by omega
     rw [ed];refine W ?_;refine CL (Z24 (Z0V l[k].move d) 0 3652058 _) ?_;rintro _ _ ⟨rfl,rfl⟩;by_cases h2:0<=Z0V l[k].move d/\Z0V l[k].move d<=3652058;rw [decide_eq_true h2];rw [if_pos (Zr.2 h2)] at fE;have sZ:=Z6p y (l.take k) 0;have uz:(l.take k).length<=l.length:=by rw [Xx];omega
     replace hr:=hr.up aW;refine W ?_;refine Z5 (vs:=[(0,.I (Z0V l[k].move d)),(1,.I (k:Int))]) rfl (Zlz _ _) rfl ?_;refine Z0 (Z1 (vs:=[(0,agg ((Z0V l[k].move d,(k:Int)):Spn))]) rfl (Zii _)) rfl ?_;rintro bv w9 hN;have fU:=Za.stp hN;have aI:SlV (ob ov) w9 bv [((Z0V l[k].move d,(k:Int)):Spn)]:=hN.slv (λb hb=>(hr.1.ob_le b hb).2) rfl rfl (by simp [maxLen]);replace hr:=hr.up fU;refine Z0 (ZZ rfl (by decide) rfl rfl hr aI (by simp only [Xe,Xi];omega) (by simp only [Xe,Xi,maxLen];omega)) rfl ?_;rintro ov' w10 ⟨bK,dy,uA⟩;refine W ?_;refine QL (k+1,ov') ⟨hlt,?_⟩ (by dsimp only;omega);dsimp only;rw [rM];unfold ofH;rw [fE];exact bK;rw [decide_eq_false h2];rw [if_neg (λh=>h2 (Zr.1 h))] at fE;refine W ?_;exact QL (k+1,ov) ⟨hlt,again _ fE aW⟩ (by dsimp only;omega)
 rw [decide_eq_false aY];refine W ?_;exact QL (k+1,ov) ⟨hlt,again _ (by unfold Z0j Zcu;rw [if_pos (by omega)];rfl) (Stp.refl _ _)⟩ (by dsimp only;omega);have cA:k=l.length:=by omega
 subst cA;rw [Xs] at hr;have ak:=Z6p y l 0;refine QO ?_;refine CM (Zg rfl rfl) (Zb0 344 _ #[] Zb1 Zv0 [] w3.heap.size ov _ _ (by simp) hr.2.size hr.1 (Zu5 _ _) (by omega)) ?_;rintro _ w7 ⟨ys,cp,gI,aW⟩;refine RT ?_;exact ⟨ys,cp,gI.lower hS.size,(hS.trans hr.2).own aW (λc hc=>.inr (Xh hS.size (hr.1.ob_le c hc).1))⟩
end Go.Proofs.YtgdicjnjhchooaaGreatDoor
namespace Go.Eng
open Go Go.RowKit Go.Proofs
variable {P:Program} {n:Nat} {Q:Exit->Act->World->Prop} {e:Env} {w:World}
theorem Z4U {i:Nat} {A B:Exit->Act->World->Prop} (h:∀ ex a w,A ex a w->B ex a w):∀ ex a w,Exit.inBlock i A ex a w->Exit.inBlock i B ex a w:=by
 intro ex a w hq;cases ex with
 | exit j=>
   simp only [Exit.inBlock] at hq ⊢;split;rename_i hj;rw [if_pos hj] at hq;exact h _ _ _ hq;rename_i hj;rw [if_neg hj] at hq;exact h _ _ _ hq
 | normal=>exact h _ _ _ hq
 | ret=>exact h _ _ _ hq
 | goto t=>exact h _ _ _ hq
 | panic c=>exact h _ _ _ hq
 | outgrown=>exact h _ _ _ hq
theorem Zb2 {x y:Code} {σ:Type} {i j:Nat} (env:σ->Env) (I:σ->World->Prop)
 (h:WC P n x (Exit.inBlock i (Exit.inBlock j (Exit.then (λa w=>∃ s,Has n (env s) a/\I s w) Q))) e w) (k:∀ s w,I s w->WC P n y Q (env s) w):WC P n x (Exit.inBlock i (Exit.inBlock j (Exit.then (λa w=>y.wp P Q a w) Q))) e w:=
 ⟨λa ha => wp_mono (h.h a ha) (Z4U (Z4U (λex a w hq => by
   cases ex with
   | normal=>obtain ⟨s,h1,h2⟩:=hq;exact (k s w h2).h a h1
   | _=>exact hq)))⟩
end Go.Eng
namespace Go.Proofs.YtgdicjnjhchooaaGreatDoor
open Go Go.Eng Go.RowKit
def inR (a b:Int) (zs:List Int):List Int:=zs.filter λd=>decide (a<=d/\d<=b)
theorem ZlB (a b:Int) (x y:List Int):inR a b (x++y)=inR a b x++inR a b y:=by unfold inR;rw [YaD]
theorem Zij {y:Int} {l:List Hol} {ys:List Spn} (h:Z8g Zb1 (ofK y l 0) ys) (d:Int):d∈ys.map Prod.fst↔∃ h∈l,Z0j h y=some d:=by
 rw [<- Ze1 y d l 0,XK];constructor;rintro ⟨⟨a,r⟩,h1,rfl⟩;exact ⟨r,h.1.mem_iff.1 h1⟩;rintro ⟨r,hr⟩;exact ⟨(d,r),h.1.mem_iff.2 hr,rfl⟩
theorem Zik {y:Int} {l:List Hol} {ys:List Spn} (h:Z8g Zb1 (ofK y l 0) ys):ys.length<=l.length:=by
 rw [h.1.length_eq];exact Z6p y l 0
theorem Zb3 (v:Value) (l:List Hol) (a b:Int) (w) (hs:SlV [] w v l) (hL:Z0K w) (hM:Z2d w) (ho:∀ h∈l,Z0X h) (hl:l.length<20) (ha:0<=a) (bM:a<=b) (hb:b<=3652058) (xl:(ofM a).y<=(ofM b).y) :
 CC 247 #[v,.I a,.I b] w λr w'=>∃ zs:List Int,(∀ d,d∈zs↔a<=d/\d<=b/\∃ y,(ofM a).y - 1<=y/\y<=(ofM b).y+1/\∃ h∈l,Z0j h y=some d)/\Zk 3 w w' r (Z32 zs):=by
 obtain ⟨ya1,ya2,-⟩:=Z4m ha (by omega);obtain ⟨yb1,yb2,-⟩:=Z4m (n:=b) (by omega) hb;have iE:max a 0=a:=by omega
 have uB:min b 3652058=b:=by omega
 refine cW3 65 Tryz.func247 ?_;refine W ?_;rw [iE,uB];refine QO ?_;refine CM (ZS rfl) (Z9a a _ ha (by omega)) ?_;rintro _ w1 ⟨rfl,hS⟩;refine W ?_;refine Z0 Z4 rfl ?_;rintro _ w2 ⟨b7,rfl,jo,e7,aj⟩;refine W ?_;refine SB (us:=[.I (ofM a).y,.I (ofM a).m,.I (ofM a).d]) (by intro u hu;simp at hu;rcases hu with rfl|rfl|rfl<;>rfl) e7 ?_;rintro _ w3 ⟨hT,k7⟩;replace hS:=hS.trans (aj.ow hT);clear e7 aj hT;refine W ?_;refine CM (ZS rfl) (Z9a b _ (by omega) hb) ?_;rintro _ w4 ⟨rfl,aU⟩;replace k7:=k7.up aU;replace hS:=hS.trans aU;refine W ?_;refine Z0 Z4 rfl ?_;rintro _ w5 ⟨b9,rfl,ee,e9,aD⟩;have n79:b7≠b9:=by have:=k7.lt;omega
 refine W ?_;refine SB (us:=[.I (ofM b).y,.I (ofM b).m,.I (ofM b).d]) (by intro u hu;simp at hu;rcases hu with rfl|rfl|rfl<;>rfl) e9 ?_;rintro _ w6 ⟨hT,k9⟩;replace aD:=aD.ow hT;replace k7:=k7.up aD;replace hS:=hS.trans aD;clear e9 hT aU aD;replace hs:=hs.up hS;replace hL:=hL.up hS;replace hM:=hM.up hS;refine W ?_
 refine Zm (σ:=Nat×Value×List Int) (λq=>[(0,v),(1,.I a),(2,.I b),(7,pQ b7),(9,pQ b9),(11,q.2.1),(12,.I ((ofM a).y - 1+(q.1:Int)))])
  (λq w'=>(ofM a).y - 1+(q.1:Int)<=(ofM b).y+2/\q.2.2.length<=q.1 * 20/\(∀ d,d∈q.2.2↔a<=d/\d<=b/\∃ y,(ofM a).y - 1<=y/\y<(ofM a).y - 1+(q.1:Int)/\∃ h∈l,Z0j h y=some d)/\Zk 3 w6 w' q.2.1 q.2.2)
  (λq=>20000 - q.1) (0,.N,[]) ⟨rfl,rfl,rfl,rfl,rfl,rfl,(by simp [Zf]),trivial⟩ ⟨by dsimp only;omega,Xr _,λd=>by simp;intros;omega,Zk.nil⟩ ?_
 rintro ⟨k,ov,zs⟩ w7 ⟨hk,nL,hz,hr⟩;dsimp only at hk nL hz hr ⊢;have aW:=hr.2;replace k7:=k7.up aW;replace k9:=k9.up aW;replace hs:=hs.up aW;replace hL:=hL.up aW;replace hM:=hM.up aW;by_cases hlt:(ofM a).y - 1+(k:Int)<=(ofM b).y+1;refine QO ?_;refine CL (ZlA v l _ _ hs hL hM ho hl) ?_;rintro rv w8 ⟨ys,cp,j8⟩;have dY:=Zik cp;have px:=Zij cp;have cP:=j8.2;have cb:=j8.slv (X:=ob ov) (λb hb=>(hr.1.ob_le b hb).2);have py:=j8.slv (X:=[]) (by simp);replace hr:=hr.up cP;replace k9:=k9.up cP;replace hs:=hs.up cP;replace hL:=hL.up cP;replace hM:=hM.up cP;refine W ?_
 refine Zb2 (σ:=Value×List Int) (λq=>[(0,v),(1,.I a),(2,.I b),(7,pQ b7),(9,pQ b9),(11,q.1),(12,.I ((ofM a).y - 1+(k:Int)))])
  (λq w'=>q.2=zs++inR a b (ys.map Prod.fst)/\Zk 3 w6 w' q.1 q.2) ?_ ?_
 refine Zm (σ:=Nat×Value) (λq=>[(0,v),(1,.I a),(2,.I b),(7,pQ b7),(9,pQ b9),(11,q.2),(12,.I ((ofM a).y - 1+(k:Int))),(44,rv),(45,.I (ys.length:Int)),(46,.I (q.1:Int))])
  (λq w'=>q.1<=ys.length/\Zk 3 w6 w' q.2 (zs++inR a b ((ys.take q.1).map Prod.fst))/\SlV (ob q.2) w' rv ys) (λq=>ys.length - q.1) (0,ov) ⟨rfl,rfl,rfl,rfl,rfl,rfl,rfl,rfl,rfl,rfl,trivial⟩ ⟨Xr _,by simpa [inR] using hr,cb⟩ ?_
 clear hr cb py hs hL hM k7 k9;rintro ⟨j,ov'⟩ w9 ⟨hj,hr,cb⟩;dsimp only at hj hr cb ⊢;by_cases aT:j<ys.length;have j9:inR a b ((ys.take (j+1)).map Prod.fst)=inR a b ((ys.take j).map Prod.fst)++inR a b [ys[j].1]:=by
  rw [Xg aT,XL,ZlB];rfl
 refine QO ?_;refine Z0 Z4 rfl ?_;rintro _ w10 ⟨b14,rfl,uC,e14,dy⟩;refine W ?_;refine SA (us:=Z2.enc ys[j]) e14 ?_;rintro _ w11 ⟨hT,k14⟩;replace dy:=dy.ow hT;clear e14 hT;replace hr:=hr.up dy;replace cb:=cb.up dy;refine W ?_;refine CL (Z24 ys[j].1 a b _) ?_;rintro _ _ ⟨rfl,rfl⟩;by_cases aY:a<=ys[j].1/\ys[j].1<=b;rw [decide_eq_true aY];have ak:(zs++inR a b ((ys.take j).map Prod.fst)).length<=300000:=by
  have h1:(inR a b ((ys.take j).map Prod.fst)).length<=((ys.take j).map Prod.fst).length:=XG _ _;rw [Xa];simp only [Xy,Xx] at h1;omega
 have e1:inR a b [ys[j].1]=[ys[j].1]:=by unfold inR;simp [aY]
 rw [e1] at j9;refine W ?_;refine Z0 (Z1 (vs:=[(0,.I ys[j].1)]) rfl (Jj _)) rfl ?_;rintro bv w12 hN;have iy:=Za.stp hN;have aI:SlV (ob ov') w12 bv [ys[j].1]:=hN.slv (λb hb=>(hr.1.ob_le b hb).2) rfl rfl (by simp [maxLen]);replace hr:=hr.up iy;replace cb:=cb.up iy;refine Z0 (ZZ rfl (by decide) rfl rfl hr aI (by simp only [Xe,Xi];omega) (by simp only [Xe,Xi,maxLen];omega)) rfl ?_;rintro ov2 w13 ⟨bK,gJ,pz⟩;refine W ?_;refine QL (j+1,ov2) ⟨aT,?_,cb.ext gJ (λ_ h=>h) pz⟩ (by dsimp only;omega);dsimp only;rw [j9,<- XC];exact bK;rw [decide_eq_false aY];have e1:inR a b [ys[j].1]=[]:=by unfold inR;simp only [XT,decide_eq_false aY,List.filter_nil];rfl
 rw [e1,Xz] at j9;refine W ?_;refine QL (j+1,ov') ⟨aT,?_,cb⟩ (by dsimp only;omega);dsimp only;rw [j9];exact hr;have pB:j=ys.length:=by omega
 subst pB;rw [Xs] at hr;refine QO ?_;exact Z0E (ov',zs++inR a b (ys.map Prod.fst)) ⟨rfl,rfl,rfl,rfl,rfl,rfl,rfl,trivial⟩ ⟨rfl,hr⟩;rintro ⟨ov',zs'⟩ w9 ⟨rO,hr⟩;dsimp only at rO hr ⊢;subst rO;have e1:(ofM a).y - 1+(k:Int)+1=(ofM a).y - 1+((k+1:Nat):Int):=by omega
 refine W ?_;rw [e1];refine Zd (k+1,ov',zs++inR a b (ys.map Prod.fst)) ⟨rfl,rfl,rfl,rfl,rfl,rfl,rfl,trivial⟩ ⟨by dsimp only;omega,?_,λd=>?_,hr⟩ (by dsimp only;omega);have h1:(inR a b (ys.map Prod.fst)).length<=(ys.map Prod.fst).length:=XG _ _;dsimp only;rw [Xa];simp only [Xy] at h1;omega;dsimp only;rw [Xd,hz,inR,XW,px];constructor;rintro (⟨p1,p2,y,p3,p4,p5⟩|⟨p5,p6⟩);exact ⟨p1,p2,y,p3,by omega,p5⟩;have p6:=of_decide_eq_true p6;exact ⟨p6.1,p6.2,_,by omega,by omega,p5⟩;rintro ⟨p1,p2,y,p3,p4,p5⟩;by_cases hy:y<(ofM a).y - 1+(k:Int)
 exact .inl ⟨p1,p2,y,p3,hy,p5⟩;obtain rfl:y=(ofM a).y - 1+(k:Int):=by omega
 exact .inr ⟨p5,decide_eq_true ⟨p1,p2⟩⟩;refine QO ?_;refine CM (ZS rfl) (Zax _ hr.1 (by omega)) ?_;rintro _ w8 ⟨rfl,bO,cP⟩;refine W ?_;refine CM (ZS rfl) (Z5U _ bO (by rw [Ybt];omega)) ?_;rintro rv w9 ⟨ft,fU,aJ⟩;refine W ?_;refine WR ?_;refine .mk ⟨zs,λd=>?_,ft.lower hS.size,((hS.trans hr.2).own cP (λc hc=>.inr (Xh hS.size (hr.1.ob_le c hc).1))).own fU (λc hc=>.inr (Xh hS.size (hr.1.ob_le c hc).1))⟩;rw [hz];constructor;rintro ⟨p1,p2,y,p3,p4,p5⟩;exact ⟨p1,p2,y,p3,by omega,p5⟩;rintro ⟨p1,p2,y,p3,p4,p5⟩;exact ⟨p1,p2,y,p3,by omega,p5⟩
theorem ZcH {l:List Hol} {d:Int} (h0:0<=d) (h1:d<=3652058) {zs:List Int} (hz:∀ x,x∈zs↔d<=x/\x<=d/\∃ y,(ofM d).y - 1<=y/\y<=(ofM d).y+1/\∃ h∈l,Z0j h y=some x) :
 decide (((Z32 zs).length:Int) > 0)=Z2b l d:=by
 have hm:=(Z0v zs).2;have aY:Zu d=true:=Zr.2 ⟨h0,h1⟩;rw [YaI];unfold Z2b;rw [aY,YbI,decide_eq_true_eq,Yat];constructor;intro hl;obtain ⟨x,hx⟩:=List.exists_mem_of_length_pos (l:=Z32 zs) (by omega);obtain ⟨p1,p2,y,p3,p4,h,hh,hk⟩:=(hz x).1 ((hm x).1 hx);obtain rfl:x=d:=by omega
 refine ⟨y,?_,Yat.2 ⟨h,hh,decide_eq_true hk⟩⟩;have:y=(ofM x).y - 1\/y=(ofM x).y\/y=(ofM x).y+1:=by omega
 rcases this with rfl|rfl|rfl<;>simp
 rintro ⟨y,hy,hh⟩;obtain ⟨h,hh,hk⟩:=Yat.1 hh;have dm:(ofM d).y - 1<=y/\y<=(ofM d).y+1:=by simp at hy;omega
 have:d∈Z32 zs:=(hm d).2 ((hz d).2 ⟨XI _,XI _,y,dm.1,dm.2,h,hh,of_decide_eq_true hk⟩);have:=List.length_pos_of_mem this;omega
theorem Zqi (v:Value) (l:List Hol) (d:Int) (w) (hs:SlV [] w v l) (hL:Z0K w) (hM:Z2d w) (ho:∀ h∈l,Z0X h) (hl:l.length<20) :
 CC 182 #[v,.I d] w λr w'=>r=.B (Z2b l d)/\Stp [] w w':=by
 refine cW2 15 Tryz.func182 ?_;refine W ?_;refine CL (Z24 d 0 3652058 _) ?_;rintro _ _ ⟨rfl,rfl⟩;by_cases hd:0<=d/\d<=3652058;rw [decide_eq_true hd];refine W ?_;refine CL (Zb3 v l d d _ hs hL hM ho hl hd.1 (XI _) hd.2 (XI _)) ?_;rintro rv w1 ⟨zs,hz,hr⟩;have iJ:=hr.slv (X:=[]) (by simp);refine RT ?_;exact ⟨by rw [ZcH hd.1 hd.2 hz],hr.2⟩;rw [decide_eq_false hd];refine W ?_;refine WR ?_;refine .mk ⟨?_,Stp.refl _ _⟩;have:Zu d=false:=by unfold Zu;exact decide_eq_false hd
 unfold Z2b;rw [this];rfl
structure Z1y (w:World) (c:Cal) (hv cv zo zs hr:Value):Prop where
 hols:SlV [] w hv c.hols
 clos:SlV [] w cv c.clos
 len:Z0K w
 mov:Z2d w
 ok:ZhM c
abbrev Z20 (c:Cal) (hv cv zo zs hr:Value):Value:=.agg (Ji c hv cv zo zs hr).toArray
theorem Z1y.up {w w':World} {c:Cal} {hv cv zo zs hr:Value} (h:Z1y w c hv cv zo zs hr) (hS:Stp [] w w'):Z1y w' c hv cv zo zs hr:=⟨h.hols.up hS,h.clos.up hS,h.len.up hS,h.mov.up hS,h.ok⟩
theorem Ze2 (c:Cal) (hv cv zo zs hr:Value) {i:Nat} (hi:i<7):(Ji c hv cv zo zs hr)[0+i * 1]?=some (.B (c.week.getD i false)):=by
 have:i=0\/i=1\/i=2\/i=3\/i=4\/i=5\/i=6:=by omega
 rcases this with rfl|rfl|rfl|rfl|rfl|rfl|rfl<;>rfl
theorem Z3v (d:Int) (w):CC 125 #[.I d] w λr w'=>r=.B (Zu d)/\w'=w:=by
 refine cW1 9 Tryz.func125 ?_;unfold Zu;by_cases h1:d>=0;by_cases h2:d<=3652058;rw [decide_eq_true ⟨h1,h2⟩];refine RT ?_;exact ⟨by simp [h2],rfl⟩;rw [decide_eq_false (λh=>h2 h.2)];refine RT ?_;exact ⟨by simp [h2],rfl⟩;rw [decide_eq_false (λh=>h1 h.1)];refine RT ?_;exact ⟨rfl,rfl⟩
theorem Zfc (d kn:Int) (bc bk:Nat) (c:Cal) (hv cv zo zs hr:Value) (w) (h:Z1y w c hv cv zo zs hr) (kc:Blk w bc 35 (Ji c hv cv zo zs hr)) (kk:Blk w bk 3 [.I kn]) (h0:0<=d) (h1:d<=3652058) :
 CC 180 #[.I d,pQ bc,pQ bk] w λr w'=>r=.B (ZaA c kn d)/\Stp [] w w':=by
 have ld:(d % 7).toNat<7:=by omega
 have pD:=Ze2 c hv cv zo zs hr ld;have bE:=h.clos.max;have uD:=h.clos;refine cW3 40 Tryz.func180 ?_;refine W ?_;refine CM (ZS rfl) (Z3t d _ h0 (by omega)) ?_;rintro _ w ⟨rfl,rfl⟩;refine W ?_;refine JT (len:=7) (i:=(d % 7).toNat) rfl rfl (by omega) ld rfl ?_;refine Z5O rfl rfl kc pD rfl ?_;unfold ZaA;cases hw:c.week.getD (d % 7).toNat false with
 | true=>
   refine RT ?_;exact ⟨by simp,Stp.refl _ _⟩
 | false=>
   rw [YaL];refine W ?_;refine Z0t (σ:=Unit) (λ_=>[(0,.I d),(1,pQ bc)]) (λ_ w'=>Z44 c.clos kn d=false/\Stp [] w w') ?_ ?_
   refine Zm (σ:=Nat) (λk=>[(0,.I d),(1,pQ bc),(2,pQ bk),(13,cv),(14,.I (c.clos.length:Int)),(15,.I (k:Int))])
    (λk w'=>k<=c.clos.length/\Z44 (c.clos.take k) kn d=false/\Stp [] w w') (λk=>c.clos.length - k) 0 ⟨rfl,rfl,rfl,rfl,rfl,rfl,trivial⟩ ⟨Xr _,rfl,Stp.refl _ _⟩ ?_
   rintro k w1 ⟨hk,hn,hS⟩;have kk:=kk.up hS;have bY:=h.clos.up hS;by_cases hlt:k<c.clos.length;have ht:Z44 (c.clos.take (k+1)) kn d=(Z44 (c.clos.take k) kn d || decide (c.clos[k].known<=kn/\c.clos[k].lo<=d/\d<=c.clos[k].hi)):=by
    unfold Z44;rw [Xg hlt,List.any_append];simp
   rw [hn,YaL] at ht;refine QO ?_;refine Z0 Z4 rfl ?_;rintro _ w2 ⟨b6,rfl,dS,e6,aj⟩;refine W ?_;refine SA (us:=Z2.enc c.clos[k]) e6 ?_;rintro _ w3 ⟨hT,k6⟩;replace aj:=aj.ow hT;clear e6 hT;replace kk:=kk.up aj;replace bY:=bY.up aj;replace hS:=hS.trans aj;by_cases hx:c.clos[k].known<=kn/\c.clos[k].lo<=d/\d<=c.clos[k].hi;refine QO ?_;refine WR ?_;refine .mk ⟨?_,hS⟩;have:Z44 c.clos kn d=true:=by
    unfold Z44;exact Yat.2 ⟨c.clos[k],Xb hlt,decide_eq_true hx⟩
   rw [this];rfl
   . rw [decide_eq_false hx] at ht
     repeat'(first|refine W1 ?_|omega|refine VG ?_ ?_<;>intro hg|refine VC ?_ ?_<;>intro hc)
     all_goals exact QL (k+1) ⟨hlt,ht,hS⟩ (by omega)
   obtain rfl:k=c.clos.length:=by omega
   rw [Xs] at hn;refine QO ?_;exact QT () ⟨hn,hS⟩;rintro _ w1 ⟨hn,hS⟩;have kc:=kc.up hS;have h:=h.up hS;rw [hn,YaL];refine W ?_;refine CM (Zg rfl rfl) (Zqi hv c.hols d _ h.hols h.len h.mov h.ok.hols (by have:=h.ok.few;omega)) ?_;rintro _ w2 ⟨rfl,aj⟩;refine RT ?_;exact ⟨rfl,hS.trans aj⟩
def Zu6 (w:World) (f:Value) (c:Cal) (hv cv zo zs hr:Value) (kn:Int):Prop:=∃ b2 b3,f=.func (.func 180) #[] #[pQ b2,pQ b3]/\Blk w b2 35 (Ji c hv cv zo zs hr)/\Blk w b3 3 [.I kn]
theorem Zil (kn:Int) (c:Cal) (hv cv zo zs hr:Value) (w):CC 126 #[Z20 c hv cv zo zs hr,.I kn] w λr w'=>Zu6 w' r c hv cv zo zs hr kn/\Stp [] w w':=by
 refine cW2 6 Tryz.func126 ?_;refine W ?_;refine Z0 (Zp rfl) rfl ?_;rintro _ w1 ⟨b2,rfl,cg,ab,hS⟩;replace ab:Blk w1 b2 35 (Ji c hv cv zo zs hr):=ab;refine Z0 (Zp rfl) rfl ?_;rintro _ w2 ⟨b3,rfl,dM,bH,aj⟩;replace bH:Blk w2 b3 3 [.I kn]:=bH;replace ab:=ab.up aj;refine RT ?_;exact ⟨⟨b2,b3,rfl,ab,bH⟩,hS.trans aj⟩
open Go Go.Eng Go.RowKit Go.Proofs Go.Shelf
attribute [local go_sem] Oper.semAt_some
theorem Zim (n:Nat) (hn:2<=n) (l bd bs:Nat) (d0 st:Int) (ax:st=1\/st=-1) (nO:0<=d0) (jn:d0<=3652058) (J:Nat->World->Prop) (Jx:World->Prop)
 (uE:∀ k W,J k W->W.cell? ⟨bd,0,none⟩=some (.I (d0+st * k))/\W.cell? ⟨bs,0,none⟩=some (.I st))
 (hY : ∀ (k : Nat) W, J k W -> k <= 1000 -> Zu (d0 + st * k) = true -> YieldAt Fence.wide (n - 1) Tryz.prog l #[.I (d0 + st * k)] W λe W'=>
   (e=.returned (.B true)/\W'.cell? ⟨bd,0,none⟩=some (.I (d0+st * k))/\W'.frozen? ⟨bd,0,none⟩=false/\W'.cell? ⟨bs,0,none⟩=some (.I st)/\J (k+1) (W'.setCell ⟨bd,0,none⟩ (.I (d0+st * k+st))))\/(e=.returned (.B false)/\Jx W'))
 (W:World) (h0:J 0 W) :
 CallsIn Fence.wide n Tryz.prog 183 #[.func (.yield l) #[] #[],pQ bd,pQ bs] W λe W'=>(∃ v,e=.returned v)/\
  ((∃ k:Nat,(1000<k\/Zu (d0+st * k)=false)/\J k W')\/Jx W'):=by
 refine callsIn_of_wp Tryz.func183 rfl trivial ?_ rfl;simp only [Tryz.ntmps183,Yah,Xe,Xi,Nat.reduceAdd,Nat.reduceSub,Array.replicate_succ,Array.replicate_zero,List.push_toArray,List.append_toArray,XO,Yaa]
 gi_wp2
 gi_loopw [4] (λi wr=>∃ k:Nat,k<=1001/\i=.I (k:Int)/\J k wr) (λi _=>1002 - (intOf i).toNat)
 case atStart=>exact ⟨0,Xr _,rfl,h0⟩
 case round=>
  obtain ⟨k,hk,rfl,nP⟩:=hrel;obtain ⟨c1,c2⟩:=uE k _ nP;have uG:-1001<=st * (k:Int)/\st * (k:Int)<=1001:=by rcases ax with rfl|rfl<;>omega
  by_cases hlt:k<=1000
  . have du:(k:Int)<=1000:=by omega
    gi_wp2
    refine ⟨trivial,(λh=>by cases h),?_⟩;refine (callsIn_wide.2 (Z3v _ _)).mono ?_;rintro e w' ⟨v,rfl,rfl,rfl⟩;cases aY:Zu (d0+st * k) with
    | false=>
      gi_wp2
      go_end0
      exact ⟨⟨_,rfl⟩,.inl ⟨k,.inr aY,nP⟩⟩
    | true=>
      obtain ⟨fn,tmps,assign,body,hy,hR⟩:=hY k _ nP hlt aY
      gi_wp2
      refine ⟨(λh=>by cases h),hR.mono ?_⟩;rintro e W3 (⟨rfl,a1,a2,a3,a4⟩|⟨rfl,hx⟩);have uH:=Zr.1 aY
      gi_wp2
      exact ⟨⟨k+1,by omega,rfl,a4⟩,by simp [intOf];omega⟩
      gi_wp2
      refine bodyPost_ret (results_none rfl _ _ _) rfl ?_;exact ⟨⟨_,rfl⟩,.inr hx⟩
  have rP:¬ (k:Int)<=1000:=by omega
  gi_wp2
  refine ⟨trivial,?_⟩
  gi_wp2
  go_end0
  exact ⟨⟨_,rfl⟩,.inl ⟨k,.inl (by omega),nP⟩⟩
theorem ZcI {g:Operand} {ps:Array Tmp} {assign body:Code} {Q:Exit->Act->World->Prop} {a:Act} {w:World} {n:Nat} (hn:3<=n) (kP:ps.size=1) {bd bs:Nat} {d0 st:Int}
 (hg:a.eval g=.func (.func 183) #[] #[pQ bd,pQ bs]) (ax:st=1\/st=-1) (nO:0<=d0) (jn:d0<=3652058) (iK:bd<w.heap.size)
 (I I':Nat->World->Prop) (Ix:World->Prop)
 (hI:∀ k W W',I k W->Below w.heap.size W W'->I k W') (hI':∀ k W W',I' k W->Below w.heap.size W W'->I' k W') (hIx:∀ W W',Ix W->Below w.heap.size W W'->Ix W')
 (hc:∀ (k:Nat) W,I k W->W.cell? ⟨bd,0,none⟩=some (.I (d0+st * k))/\W.cell? ⟨bs,0,none⟩=some (.I st))
 (hc':∀ (k:Nat) W,I' k W->W.cell? ⟨bd,0,none⟩=some (.I (d0+st * k))/\W.frozen? ⟨bd,0,none⟩=false/\W.cell? ⟨bs,0,none⟩=some (.I st))
 (hstep:∀ (k:Nat) W,I' k W->I (k+1) (W.setCell ⟨bd,0,none⟩ (.I (d0+st * k+st)))) (h0:I 0 w) (a₁:Int->Act)
 (hassign : ∀ (l : Nat) (X : Int) (W : World) (K : Act -> World -> Prop), K (a₁ X) W->
   assign.wpIn (Fence.wide.inRound l) (n - 1 - 1) Tryz.prog (Exit.then K (λ_ _ _=>False)) { tmps:=(ps.zip #[Value.int .i64 X]).foldl (λt (p,v)=>t.setIfInBounds p v) a.tmps,defers:=[] } W)
 (hbody : ∀ (l : Nat) (k : Nat) (W : World), I k W -> k <= 1000 -> Zu (d0 + st * k) = true -> body.wpIn (Fence.wide.inRound l) (n - 1 - 1) Tryz.prog
   (λe _ W'=>(∀ b,w.heap.size<=b->b<W.heap.size->W'.heap[b]?=W.heap[b]?)/\match e with|.normal=>I' k W'|.ret=>Ix W'|_=>False) (a₁ (d0+st * k)) W)
 (hdone:∀ (D k:Nat) (W:World),w.heap.size<=D->(1000<k\/Zu (d0+st * k)=false)->I k W->W.heap[D]?=some (.deferred (some []))->Q .normal { a with defers:={ target:=.collected D,args:=#[] } :: a.defers } W)
 (hstop:∀ (D:Nat) (W:World),w.heap.size<=D->Ix W->W.heap[D]?=some (.deferred (some []))->Q .ret { a with defers:={ target:=.collected D,args:=#[] } :: a.defers } W) :
 (Code.rangeFunc g ps assign body).wpIn Fence.wide n Tryz.prog Q a w:=by
 refine wpIn_rangeFunc ?_;intro fn oN;obtain ⟨rec,bC⟩:∃ rec:LoopState->Option Code->Loop,rec=λst pe=>{ state:=st,pending:=pe,fn,tmps:=a.tmps,params:=ps,assign,body,defers:=w.heap.size }:=⟨_,rfl⟩
 obtain ⟨W1,eR⟩:∃ W1,(w.alloc (.deferred (some []))).alloc (.loop (rec .ready none))=W1:=⟨_,rfl⟩
 have fX:W1.heap[w.heap.size+1]?=some (.loop (rec .ready none)):=by
  rw [<- eR];have:=World.alloc_heap_new (w.alloc (.deferred (some []))) (.loop (rec .ready none));rwa [World.size_alloc] at this
 have o8:W1.heap[w.heap.size]?=some (.deferred (some [])):=by
  rw [<- eR];exact (Below.heap_alloc _ _ _ (by simp)).trans (World.alloc_heap_new w _)
 have fx:Below w.heap.size w W1:=by
  rw [<- eR];exact ((Below.refl _ w).alloc (Xl _) _).alloc (by simp) _
 have bput:∀ (W:World) (l:Nat) (o:Obj),w.heap.size<=l->Below w.heap.size W (W.putObj l o):=λW l o hl=>
  ⟨rfl,rfl,rfl,by simp,λk hk=>World.putObj_heap_other (by omega)⟩
 refine ⟨w.heap.size+1,[{ target:=.collected w.heap.size,args:=#[] }],W1,{ target:=.fn (.func 183) #[pQ bd,pQ bs],args:=#[.func (.yield (w.heap.size+1)) #[] #[]] },W1,183,
  #[.func (.yield (w.heap.size+1)) #[] #[]]++#[pQ bd,pQ bs],W1,?_,?_,?_,?_,λh=>(by cases h),?_⟩
 rw [<- eR,bC];exact run_enterLoop_outer _ _ _ _ _;simp only [resolve,hg];simp [go_sem];intro f' mi;trivial;have eg:=enters_of Tryz.func183 (by kernel_rfl) rfl;simp [invoke,go_sem,eg]
 refine (Zim (n - 1) (by omega) (w.heap.size+1) bd bs d0 st ax nO jn
  (λk W=>I k W/\W.heap[w.heap.size+1]?=some (.loop (rec .ready none))/\W.heap[w.heap.size]?=some (.deferred (some [])))
  (λW=>Ix W/\W.heap[w.heap.size+1]?=some (.loop (rec .done (some .ret)))/\W.heap[w.heap.size]?=some (.deferred (some [])))
  (λk W h=>hc k W h.1) ?_ W1 ⟨hI _ _ _ h0 fx,fX,o8⟩).mono ?_
 . rintro k W ⟨hi,hl,hk⟩ jg aY
   have hlt:w.heap.size+1<W.heap.size:=(Xo.1 hl).1;have hy:=run_yield (P:=Tryz.prog) (args:=#[Value.int .i64 (d0+st * k)]) hl (by rw [bC];simp [kP]);rw [bC] at hy;refine ⟨fn,_,assign,body,hy,roundIn_of_wpIn oN (hassign _ _ W _ ⟨_,run_beginRound hl (by rw [bC]),?_⟩)⟩;have dK:(W.putObj (w.heap.size+1) (.loop { rec .ready none with state:=.busy })).heap[w.heap.size+1]?=some (.loop { rec .ready none with state:=.busy }):=World.putObj_heap_same hlt;have cA:(W.putObj (w.heap.size+1) (.loop { rec .ready none with state:=.busy })).heap[w.heap.size]?=some (.deferred (some [])):=(World.putObj_heap_other (by omega)).trans hk;refine wpIn_mono (hbody _ k _ (hI _ _ _ hi (bput _ _ _ (by omega))) jg aY) ?_
   have fin:∀ (jump:Option Code) (W3:World),(∀ b,w.heap.size<=b->b<(W.putObj (w.heap.size+1) (.loop { rec .ready none with state:=.busy })).heap.size->W3.heap[b]?=(W.putObj (w.heap.size+1) (.loop { rec .ready none with state:=.busy })).heap[b]?)->
    (Instr.endRound (w.heap.size+1) jump).run Tryz.prog W3=.ok (.B jump.isNone) (W3.putObj (w.heap.size+1) (.loop (rec (if jump.isNone then .ready else .done) jump)))/\
    (W3.putObj (w.heap.size+1) (.loop (rec (if jump.isNone then .ready else .done) jump))).heap[w.heap.size+1]?=some (.loop (rec (if jump.isNone then .ready else .done) jump))/\
    (W3.putObj (w.heap.size+1) (.loop (rec (if jump.isNone then .ready else .done) jump))).heap[w.heap.size]?=some (.deferred (some [])):=λjump W3 mB=>by
    have jm:=(mB (w.heap.size+1) (by omega) (by simp;omega)).trans dK;have mD:=(mB w.heap.size (by omega) (by simp;omega)).trans cA;have:=run_endRound (P:=Tryz.prog) jump jm;rw [bC] at this ⊢;exact ⟨this,World.putObj_heap_same (Xo.1 jm).1,(World.putObj_heap_other (by omega)).trans mD⟩
   rintro e a3 W3 ⟨mB,hp⟩;cases e with
   | normal=>
     obtain ⟨hr,lf,mD⟩:=fin none W3 mB;have rQ:=hI' _ _ _ hp (bput W3 (w.heap.size+1) (.loop (rec .ready none)) (by omega));obtain ⟨p1,p2,p3⟩:=hc' _ _ rQ;refine ⟨_,_,hr,.inl ⟨rfl,p1,p2,p3,hstep _ _ rQ,?_,?_⟩⟩;exact (Below.heap_setCell _ ⟨bd,0,none⟩ _ _ (by show w.heap.size+1≠bd;omega)).trans lf;exact (Below.heap_setCell _ ⟨bd,0,none⟩ _ _ (by show w.heap.size≠bd;omega)).trans mD
   | ret=>
     obtain ⟨hr,lf,mD⟩:=fin (some .ret) W3 mB;exact ⟨_,_,hr,.inr ⟨rfl,hIx _ _ hp (bput W3 (w.heap.size+1) _ (by omega)),lf,mD⟩⟩
   | exit id=>exact hp.elim
   | goto t=>exact hp.elim
   | panic ch=>exact hp.elim
   | outgrown=>exact hp.elim
 rintro e W2 ⟨⟨v,rfl⟩,(⟨k,eM,hi,hl,hk⟩|⟨hi,hl,hk⟩)⟩;exact ⟨none,_,by have:=run_endLoop (P:=Tryz.prog) hl (by rw [bC];simp);rw [bC] at this;exact this,hdone _ k _ (Xl _) eM (hI _ _ _ hi (bput _ _ _ (by omega))) ((World.putObj_heap_other (by omega)).trans hk)⟩;refine ⟨some .ret,_,by have:=run_endLoop (P:=Tryz.prog) hl (by rw [bC];simp);rw [bC] at this;exact this,?_⟩;exact wpIn_ret (hstop _ _ (Xl _) (hIx _ _ hi (bput _ _ _ (by omega))) ((World.putObj_heap_other (by omega)).trans hk))
theorem Zin (d st:Int) (w):CC 127 #[.I d,.I st] w λr w'=>∃ b2 b3,r=.func (.func 183) #[] #[pQ b2,pQ b3]/\w.heap.size<=b2/\b2<b3/\Blk w' b2 3 [.I d]/\Blk w' b3 3 [.I st]/\Stp [] w w':=by
 refine cW2 6 Tryz.func127 ?_;refine W ?_;refine Z0 (Zp rfl) rfl ?_;rintro _ w1 ⟨b2,rfl,cg,k2,hS⟩;replace k2:Blk w1 b2 3 [.I d]:=k2;refine Z0 (Zp rfl) rfl ?_;rintro _ w2 ⟨b3,rfl,dM,k3,aj⟩;replace k3:Blk w2 b3 3 [.I st]:=k3;have:=k2.lt;replace k2:=k2.up aj;refine RT ?_;exact ⟨b2,b3,rfl,cg,by omega,k2,k3,hS.trans aj⟩
theorem Z61 {P:Program} {t b:Nat} {D:TypeDesc} {u:Value} {w:World} [hu:Und P t D] (hA:Z06 D=false) (hc:w.cell? ⟨b,0,none⟩=some u):(loadVar t ⟨b,0,none⟩).run P w=.ok u w:=by
 simp [loadVar,Und.isAgg,hA,hc]
theorem Z9y (b:Nat) (v:Value) (w):Stp [b] w (w.setCell ⟨b,0,none⟩ v):=⟨rfl,rfl,rfl,(KeepsOthers.setCell w ⟨b,0,none⟩ v).size,λk hk hn=>Below.heap_setCell w ⟨b,0,none⟩ v k (λe=>hn (by simp [e]))⟩
theorem Z4V (opn:Int->Bool) (st:Int):∀ (m:Nat) (d:Int) (k:Nat),(∀ j:Nat,j<k->opn (d+st * j)=false)->(m<=k\/Zu (d+st * k)=false)->Z1S opn st m d=(0,31)
 | 0,d,k,_,_=>rfl
 | m + 1, d, k, h, hk => by
   unfold Z1S;cases hd:Zu d with
   | false=>rfl
   | true=>
     rw [if_pos rfl];cases k with
     | zero=>
       rcases hk with hk|hk
       omega;rw [show d+st * ((0:Nat):Int)=d by simp,hd] at hk;cases hk
     | succ k=>
       have h0:=h 0 (by omega);rw [show d+st * ((0:Nat):Int)=d by simp] at h0;rw [if_neg (by rw [h0];simp)];have es:∀ j:Nat,d+st+st * (j:Int)=d+st * ((j+1:Nat):Int):=λj=>by
        rw [YbP,Int.mul_add];simp;omega
       exact Z4V opn st m (d+st) k (λj hj=>by rw [es];exact h (j+1) (by omega)) (hk.imp (λh=>by omega) (λh=>by rw [es];exact h))
theorem Z79 (opn:Int->Bool) (st:Int):∀ (m:Nat) (d:Int) (k:Nat),k<m->(∀ j:Nat,j<=k->Zu (d+st * j)=true)->(∀ j:Nat,j<k->opn (d+st * j)=false)->opn (d+st * k)=true->Z1S opn st m d=(d+st * k,0)
 | 0,d,k,h,_,_,_=>absurd h (XF _)
 | m + 1, d, k, kW, hi, h, ho => by
   have hd:=hi 0 (Xr _);rw [show d+st * ((0:Nat):Int)=d by simp] at hd;unfold Z1S;rw [hd,if_pos rfl];cases k with
   | zero=>
     rw [show d+st * ((0:Nat):Int)=d by simp] at ho ⊢;rw [if_pos ho]
   | succ k=>
     have h0:=h 0 (by omega);rw [show d+st * ((0:Nat):Int)=d by simp] at h0;rw [if_neg (by rw [h0];simp)];have es:∀ j:Nat,d+st+st * (j:Int)=d+st * ((j+1:Nat):Int):=λj=>by
      rw [YbP,Int.mul_add];simp;omega
     rw [<- es];exact Z79 opn st m (d+st) k (by omega) (λj hj=>by rw [es];exact hi (j+1) (by omega)) (λj hj=>by rw [es];exact h (j+1) (by omega)) (by rw [es];exact ho)
theorem Ze3 {W:World} {b8 b9:Nat} {u v:Value} (c8:W.cell? ⟨b8,0,none⟩=some u) (c9:W.cell? ⟨b9,0,none⟩=some v) (n:b8≠b9) (x y:Value) :
 ((W.setCell ⟨b8,0,none⟩ x).setCell ⟨b9,0,none⟩ y).cell? ⟨b8,0,none⟩=some x/\((W.setCell ⟨b8,0,none⟩ x).setCell ⟨b9,0,none⟩ y).cell? ⟨b9,0,none⟩=some y:=by
 have h1:(W.setCell ⟨b8,0,none⟩ x).cell? ⟨b8,0,none⟩=some x:=World.cell?_setCell_same _ _ _ c8;have h2:(W.setCell ⟨b8,0,none⟩ x).cell? ⟨b9,0,none⟩=some v:=(World.cell?_setCell_other _ _ _ _ (λh=>n (by injection h))).trans c9;exact ⟨(World.cell?_setCell_other _ _ _ _ (λh=>n (by injection h with h;exact h.symm))).trans h1,World.cell?_setCell_same _ _ _ h2⟩
theorem Z4W (b8 b9:Nat) (x y:Value) (w):Stp [b8,b9] w ((w.setCell ⟨b8,0,none⟩ x).setCell ⟨b9,0,none⟩ y):=((Z9y b8 x w).mono (S':=[b8,b9]) (by simp)).trans ((Z9y b9 y _).mn)
theorem ZcJ {tmps:Array Value} {W:World} {b8 b9:Nat} {x y:Value} (h8:tmps.getD 8 undef=pQ b8) (h9:tmps.getD 9 undef=pQ b9) (c8:W.cell? ⟨b8,0,none⟩=some x) (c9:W.cell? ⟨b9,0,none⟩=some y) :
 (results Tryz.f71 tmps).run Tryz.prog W=.ok (.tuple #[x,y]) W:=by
 rw [XH] at h8 h9;have l8:=Z61 (P:=Tryz.prog) (t:=3) (hu:=(inferInstance:Und Tryz.prog 3 (.int .i64))) rfl c8;have l9:=Z61 (P:=Tryz.prog) (t:=66) (hu:=(inferInstance:Und Tryz.prog 66 (.int .i64))) rfl c9;simp [results,h8,h9,asAddr,l8,l9]
theorem Zio (d kn st:Int) (ax:st=1\/st=-1) (c:Cal) (hv cv zo zs hr:Value) (w) (h:Z1y w c hv cv zo zs hr) :
 CallsIn Fence.wide 5 Tryz.prog 71 #[Z20 c hv cv zo zs hr,.I d,.I kn,.I st] w λe W'=>e=.returned (.tuple #[.I (ZE (Ze c kn) st d).1,.I (ZE (Ze c kn) st d).2])/\Stp [] w W':=by
 refine callsIn_of_wp_marks Tryz.func71 rfl trivial ?_ rfl;simp only [Tryz.ntmps71,Yah,Xe,Xi,Nat.reduceAdd,Nat.reduceSub,Array.replicate_succ,Array.replicate_zero,List.push_toArray,List.append_toArray,XO,Yaa]
 gi_wp2
 obtain ⟨W1,eR⟩:∃ W1,W1=((w.alloc (.cells (Ji c hv cv zo zs hr).toArray 35)).alloc (.cells #[.I 0] 3)).alloc (.cells #[.I 0] 66):=⟨_,rfl⟩
 rw [<- eR];have kc:Blk W1 w.heap.size 35 (Ji c hv cv zo zs hr):=by
  rw [eR];exact (Blk.up (World.alloc_heap_new w _) (Stp.alloc _ _ _)).up (Stp.alloc _ _ _)
 have k8:Blk W1 (w.heap.size+1) 3 [.I 0]:=by
  rw [eR];have:=World.alloc_heap_new (w.alloc (.cells (Ji c hv cv zo zs hr).toArray 35)) (.cells #[.I 0] 3);rw [World.size_alloc] at this;exact Blk.up this (Stp.alloc _ _ _)
 have k9:Blk W1 (w.heap.size+1+1) 66 [.I 0]:=by
  rw [eR];have:=World.alloc_heap_new ((w.alloc (.cells (Ji c hv cv zo zs hr).toArray 35)).alloc (.cells #[.I 0] 3)) (.cells #[.I 0] 66);rw [World.size_alloc,World.size_alloc] at this;exact this
 have ae:Stp [] w W1:=by
  rw [eR];exact ((Stp.alloc _ _ _).trans (Stp.alloc _ _ _)).trans (Stp.alloc _ _ _)
 have xm:w.heap.size<=w.heap.size+1:=by omega
 have xn:w.heap.size<=w.heap.size+1+1:=by omega
 generalize ee:w.heap.size+1+1=b9 at *;generalize dG:w.heap.size+1=b8 at *;generalize br:w.heap.size=b4 at *;clear eR;have n89:b8≠b9:=by omega
 have c8:=Boxed.cell (show Boxed W1 b8 3 (.I 0) from k8);have f8:=Boxed.frozen (show Boxed W1 b8 3 (.I 0) from k8);have c9:=Boxed.cell (show Boxed W1 b9 66 (.I 0) from k9);have f9:=Boxed.frozen (show Boxed W1 b9 66 (.I 0) from k9);refine ⟨trivial,?_⟩;refine (callsIn_wide.2 (Z3v d W1)).mono ?_;rintro e w' ⟨v,rfl,rfl,rfl⟩;cases hd:Zu d with
 | false=>
   gi_wp2
   have fT:ZE (Ze c kn) st d=(0,5):=by unfold ZE;rw [hd];rfl
   obtain ⟨g8,g9⟩:=Ze3 c8 c9 n89 (.I 0) (.I 5);refine ⟨_,ZcJ rfl rfl g8 g9,?_,?_⟩;rw [fT];exact ae.own (Z4W b8 b9 _ _ _) (λx hx=>by simp at hx;omega)
 | true=>
   have q:=λ(j:Nat) (u:Value) (hu:(Ji c hv cv zo zs hr)[j]?=some u)=>kc.cell hu;have q0:=q 0 _ rfl;have q1:=q 1 _ rfl;have q2:=q 2 _ rfl;have q3:=q 3 _ rfl;have q4:=q 4 _ rfl;have q5:=q 5 _ rfl;have q6:=q 6 _ rfl;have q7:=q 7 _ rfl;have q8:=q 8 _ rfl;have q9:=q 9 _ rfl;have q10:=q 10 _ rfl;have q11:=q 11 _ rfl
   gi_wp2
   refine ⟨trivial,?_⟩;refine (callsIn_wide.2 (Zil kn c hv cv zo zs hr w')).mono ?_;rintro e W2 ⟨v,rfl,⟨b2,b3,rfl,k2,k3⟩,aj⟩;have f8':=Boxed.frozen (show Boxed W2 b8 3 (.I 0) from k8.up aj);have f9':=Boxed.frozen (show Boxed W2 b9 66 (.I 0) from k9.up aj);have c8':=Boxed.cell (show Boxed W2 b8 3 (.I 0) from k8.up aj);have c9':=Boxed.cell (show Boxed W2 b9 66 (.I 0) from k9.up aj);have cN:=Boxed.cell (Boxed.new W2 181 .nilFunc);have fN:=Boxed.frozen (Boxed.new W2 181 .nilFunc);have uI:(store ⟨W2.heap.size,0,none⟩ (.func (.func 180) #[] #[pQ b2,pQ b3])).run Tryz.prog (W2.alloc (.cells #[.nilFunc] 181))=.ok () ((W2.alloc (.cells #[.nilFunc] 181)).setCell ⟨W2.heap.size,0,none⟩ (.func (.func 180) #[] #[pQ b2,pQ b3])):=by
    rw [run_store _ _ _ _ _ rfl];simp [cN,fN]
   gi_wp2
   refine ⟨trivial,?_⟩;refine (callsIn_wide.2 (Zin d st _)).mono ?_;rintro e W3 ⟨v,rfl,bd,bs,rfl,iK,dw,kd,ks,aF⟩;have bY:W3.cell? ⟨W2.heap.size,0,none⟩=some (.func (.func 180) #[] #[pQ b2,pQ b3]):=aF.cell (by simp) (Boxed.cell (Boxed.new W2 181 _));have mE:Stp [] W2 W3:=(Stp.alloc [] W2 _).trans aF
   gi_wp2
   have cQ:Stp [] w' W3:=aj.trans mE;have h3:=(h.up ae).up cQ;have uJ:=(k2.up mE).lt;have k2':=k2.up mE;have k3':=k3.up mE;have k8':=k8.up cQ;have k9':=k9.up cQ;have uK:=mE.size;have uL:W2.heap.size<W3.heap.size:=by have:=block_lt_of_cell bY;simpa using this
   have uN:W2.heap.size<bd:=by simp at iK;omega
   have k8l:=(k8.up aj).lt;have k9l:=(k9.up aj).lt;have k2l:=k2.lt;have k3l:=k3.lt;have nO:=(Zr.1 hd).1;have jn:=(Zr.1 hd).2;have uO:w.heap.size<=bd:=by have:=ae.size;have:=cQ.size;have:=aj.size;omega
   have g1:1<w.heap.size:=by have:=block_lt_of_cell (h.len 0 0 rfl);simpa using this
   have g2:2<w.heap.size:=by have:=block_lt_of_cell (h.mov 0 0 rfl);simpa using this
   have uP:=h.hols.ext (X':=[bd]) (ae.trans cQ) (by simp) (λb hb=>.inr (by simp at hb;omega));have uQ:=h.clos.ext (X':=[bd]) (ae.trans cQ) (by simp) (λb hb=>.inr (by simp at hb;omega));have xo:=(ae.trans cQ).size;have cal:∀ W,Stp [bd] W3 W->Z1y W c hv cv zo zs hr:=λW hS=>⟨uP.ext (X':=[]) hS (λb hb=>hb) (by simp),uQ.ext (X':=[]) hS (λb hb=>hb) (by simp),h3.len.ext hS (by simp;omega),h3.mov.ext hS (by simp;omega),h.ok⟩
   have sb:∀ {S:List Nat} {W W':World},Stp S W3 W->Below W3.heap.size W W'->Stp S W3 W':=λhS hB=>⟨hB.os.trans hS.os,hB.tape.trans hS.tape,hB.output.trans hS.output,Xh hS.size hB.size,λi hi hn=>(hB.block i hi).trans (hS.block i hi hn)⟩
   have fE:=kd.lt;have xp:=ks.lt
   refine ZcI (by omega) rfl rfl ax nO jn kd.lt
    (λk W=>Stp [bd] W3 W/\Boxed W bd 3 (.I (d+st * k))/\∀ j:Nat,j<k->Ze c kn (d+st * j)=false)
    (λk W=>(Stp [bd] W3 W/\Boxed W bd 3 (.I (d+st * k))/\∀ j:Nat,j<k->Ze c kn (d+st * j)=false)/\Ze c kn (d+st * k)=false)
    (λW=>Stp [bd,b8,b9] W3 W/\∃ k:Nat,k<=1000/\Zu (d+st * k)=true/\(∀ j:Nat,j<k->Ze c kn (d+st * j)=false)/\Ze c kn (d+st * k)=true/\W.cell? ⟨b8,0,none⟩=some (.I (d+st * k))/\W.cell? ⟨b9,0,none⟩=some (.I 0))
    ?hI ?hI' ?hIx ?hc ?hc' ?hstep ?h0 (λX=>{ tmps:=#[Z20 c hv cv zo zs hr,.I d,.I kn,.I st,pQ b4,undef,undef,undef,pQ b8,pQ b9,.pointer (some ⟨W2.heap.size,0,none⟩),.I X,.I d,.B true,.B false,Z20 c hv cv zo zs hr,.I kn,.func (.func 180) #[] #[pQ b2,pQ b3],.I d,.I st,.func (.func 183) #[] #[pQ bd,pQ bs],.I X,undef,undef,undef,undef,undef],defers:=[] }) ?hassign ?hbody ?hdone ?hstop
   case hI=>exact λk W W' ⟨a,b,e⟩ hB=>⟨sb a hB,(hB.block bd fE).trans b,e⟩
   case hI'=>exact λk W W' ⟨⟨a,b,e⟩,f⟩ hB=>⟨⟨sb a hB,(hB.block bd fE).trans b,e⟩,f⟩
   case hIx=>exact λW W' ⟨a,k,p1,p2,p3,p4,p5,p6⟩ hB=>⟨sb a hB,k,p1,p2,p3,p4,(World.cell?_of_block (hB.block b8 (by omega))).trans p5,(World.cell?_of_block (hB.block b9 (by omega))).trans p6⟩
   case hc=>exact λk W ⟨a,b,e⟩=>⟨b.cell,a.cell (by simp;omega) (ks.cell rfl)⟩
   case hc'=>exact λk W ⟨⟨a,b,e⟩,f⟩=>⟨b.cell,b.frozen,a.cell (by simp;omega) (ks.cell rfl)⟩
   case hstep=>
    rintro k W ⟨⟨a,b,e⟩,f⟩;have e1:d+st * ((k+1:Nat):Int)=d+st * k+st:=by rcases ax with rfl|rfl<;>omega
    refine ⟨a.trans (Z9y bd _ _),by rw [e1];exact b.set _,λj hj=>?_⟩;by_cases gV:j=k;subst gV;exact f;exact e j (by omega)
   case h0=>exact ⟨Stp.refl _ _,by rw [show d+st * ((0:Nat):Int)=d by simp];exact kd,λj hj=>absurd hj (XF _)⟩
   case hassign=>
    intro l X W K hK
    gi_wp2
    exact hK
   case hbody=>
    rintro l k W ⟨a,bx,e⟩ jg aY;have uR:=a.cell (b:=W2.heap.size) (o:=0) (by simp;omega) bY;obtain ⟨x0,x1⟩:=Zr.1 aY
    gi_wp2
    refine ⟨trivial,(CallsIn.inRound l (callsIn_wide.2 (Zfc (d+st * k) kn b2 b3 c hv cv zo zs hr W (cal W a) (k2'.ext a (by simp;omega)) (k3'.ext a (by simp;omega)) x0 x1))).mono ?_⟩;rintro e5 W5 ⟨v,rfl,rfl,aD⟩;have a5:=a.trans aD.mn;cases eN:ZaA c kn (d+st * k) with
    | true=>
      gi_wp2
      exact ⟨λb h1 h2=>aD.block b h2 (by simp),⟨Blk.up (show Blk W bd 3 [.I (d+st * k)] from bx) aD,e⟩,by unfold Ze;rw [aY,eN];rfl⟩
    | false=>
      have f8:=Boxed.frozen (show Boxed W5 b8 3 (.I 0) from k8'.ext a5 (by simp;omega));have f9:=Boxed.frozen (show Boxed W5 b9 66 (.I 0) from k9'.ext a5 (by simp;omega));have c8:=Boxed.cell (show Boxed W5 b8 3 (.I 0) from k8'.ext a5 (by simp;omega));have c9:=Boxed.cell (show Boxed W5 b9 66 (.I 0) from k9'.ext a5 (by simp;omega))
      gi_wp2
      exact ⟨λb h1 h2=>((Z4W b8 b9 _ _ W5).block b (Xv h2 aD.size) (by simp;omega)).trans (aD.block b h2 (by simp)),a5.mn.trans ((Z4W b8 b9 _ _ W5).mn),k,jg,aY,e,by unfold Ze;rw [aY,eN];rfl,rfl⟩
   case hdone=>
    rintro D k W hD eM ⟨a,bx,e⟩ eU;have f8:=Boxed.frozen (show Boxed W b8 3 (.I 0) from k8'.ext a (by simp;omega));have f9:=Boxed.frozen (show Boxed W b9 66 (.I 0) from k9'.ext a (by simp;omega));have c8:=Boxed.cell (show Boxed W b8 3 (.I 0) from k8'.ext a (by simp;omega));have c9:=Boxed.cell (show Boxed W b9 66 (.I 0) from k9'.ext a (by simp;omega))
    gi_wp2
    obtain ⟨y8,y9⟩:=Ze3 c8 c9 n89 (.I 0) (.I 31);have uS:D<W.heap.size:=(Xo.1 eU).1;have mG:=((Z4W b8 b9 (.I 0) (.I 31) W).block D uS (by simp;omega)).trans eU;have fT:ZE (Ze c kn) st d=(0,31):=by
     unfold ZE;rw [hd,if_pos rfl];exact Z4V _ _ _ _ k e (eM.imp (λh=>by omega) id)
    refine ⟨by simp,.inl ⟨_,_,rfl,run_takeDeferred mG,_,ZcJ rfl rfl ((World.cell?_of_block (World.putObj_heap_other (by show b8≠D;omega))).trans y8) ((World.cell?_of_block (World.putObj_heap_other (by show b9≠D;omega))).trans y9),?_,?_⟩⟩;rw [fT];have t1:=((ae.trans cQ).ow a).own (Z4W b8 b9 (.I 0) (.I 31) W) (λx hx=>.inr (by simp at hx;omega));refine ⟨t1.os,t1.tape,t1.output,by simpa using t1.size,λq hq hn=>(World.putObj_heap_other (by omega)).trans (t1.block q hq hn)⟩
   case hstop=>
    rintro D W hD ⟨a,k,p1,p2,p3,p4,p5,p6⟩ eU
    gi_wp2
    obtain ⟨x0,x1⟩:=Zr.1 p2;have fT:ZE (Ze c kn) st d=(d+st * k,0):=by
     unfold ZE;rw [hd,if_pos rfl];refine Z79 _ _ _ _ k (by omega) (λj hj=>Zr.2 ?_) p3 p4;rcases ax with rfl|rfl<;>omega
    refine ⟨by simp,.inl ⟨_,_,rfl,run_takeDeferred eU,_,ZcJ rfl rfl ((World.cell?_of_block (World.putObj_heap_other (by show b8≠D;omega))).trans p5) ((World.cell?_of_block (World.putObj_heap_other (by show b9≠D;omega))).trans p6),?_,?_⟩⟩;rw [fT];have t1:=(ae.trans cQ).ow a;exact ⟨t1.os,t1.tape,t1.output,by simpa using t1.size,λq hq hn=>(World.putObj_heap_other (by omega)).trans (t1.block q hq hn)⟩
theorem Z2Q (d kn st:Int) (c:Cal) (hv cv zo zs hr:Value) (w) (h:Z1y w c hv cv zo zs hr) (ax:st=1\/st=-1) :
 CC 71 #[Z20 c hv cv zo zs hr,.I d,.I kn,.I st] w λr w'=>r=.tuple #[.I (ZE (Ze c kn) st d).1,.I (ZE (Ze c kn) st d).2]/\Stp [] w w':=by
 refine Calls.mono (callsIn_wide.1 (Zio d kn st ax c hv cv zo zs hr w h)) ?_;rintro e W' ⟨rfl,hS⟩;exact .mk ⟨rfl,hS⟩
theorem Z5D (d kn:Int) (c:Cal) (hv cv zo zs hr:Value) (w) (h:Z1y w c hv cv zo zs hr) :
 CC 32 #[Z20 c hv cv zo zs hr,.I d,.I kn] w λr w'=>r=.tuple #[.I (ZE (Ze c kn) (1) d).1,.I (ZE (Ze c kn) (1) d).2]/\Stp [] w w':=by
 refine cW3 14 Tryz.func32 ?_;refine W ?_;refine Z0 (Zp rfl) rfl ?_;rintro _ w1 ⟨b3,rfl,dM,ab,hS⟩;replace ab:Blk w1 b3 35 (Ji c hv cv zo zs hr):=ab;replace h:=h.up hS;refine W ?_;refine CM (Z40 rfl rfl rfl rfl) (Z2Q d kn (1) c hv cv zo zs hr _ h (by omega)) ?_;rintro _ w2 ⟨rfl,aj⟩;refine RT ?_;exact ⟨rfl,hS.trans aj⟩
theorem Z7M (d kn:Int) (c:Cal) (hv cv zo zs hr:Value) (w) (h:Z1y w c hv cv zo zs hr) :
 CC 178 #[Z20 c hv cv zo zs hr,.I d,.I kn] w λr w'=>r=.tuple #[.I (ZE (Ze c kn) (-1) d).1,.I (ZE (Ze c kn) (-1) d).2]/\Stp [] w w':=by
 refine cW3 14 Tryz.func178 ?_;refine W ?_;refine Z0 (Zp rfl) rfl ?_;rintro _ w1 ⟨b3,rfl,dM,ab,hS⟩;replace ab:Blk w1 b3 35 (Ji c hv cv zo zs hr):=ab;replace h:=h.up hS;refine W ?_;refine CM (Z40 rfl rfl rfl rfl) (Z2Q d kn (-1) c hv cv zo zs hr _ h (by omega)) ?_;rintro _ w2 ⟨rfl,aj⟩;refine RT ?_;exact ⟨rfl,hS.trans aj⟩
theorem ZlC (d n kn:Int) (c:Cal) (hv cv zo zs hr:Value) (w) (h:Z1y w c hv cv zo zs hr) :
 CC 177 #[Z20 c hv cv zo zs hr,.I d,.I n,.I kn] w λr w'=>r=.tuple #[.I (Z45 (Ze c kn) d n).1,.I (Z45 (Ze c kn) d n).2]/\Stp [] w w':=by
 refine cW4 46 Tryz.func177 ?_;refine W ?_;refine Z0 (Zp rfl) rfl ?_;rintro _ w1 ⟨b4,rfl,br,ab,hS⟩;replace ab:Blk w1 b4 35 (Ji c hv cv zo zs hr):=ab;replace h:=h.up hS;refine W ?_;refine CL (Z3v d _) ?_;rintro _ w1 ⟨rfl,rfl⟩;unfold Z45;cases hd:Zu d with
 | false=>
   rw [if_neg (by simp)];refine RT ?_;exact ⟨rfl,hS⟩
 | true=>
   rw [if_pos rfl];by_cases hn:n < -1000\/1000<n
   . rw [if_pos hn]
     repeat'(first|refine W1 ?_|omega|refine VG ?_ ?_<;>intro hg|refine VC ?_ ?_<;>intro hc)
     all_goals refine WR ?_
     all_goals exact .mk ⟨rfl,hS⟩
   rw [if_neg hn];by_cases pF:n<0;have mc:(n.natAbs:Int)=(-n):=by omega
   have ke:(if n<0 then (-1:Int) else 1)=-1:=by split<;>omega
   rw [ke];refine QO ?_
   refine Zm (σ:=Nat×Int) (λq=>[(1,.I q.2),(3,.I kn),(4,pQ b4),(10,.I (-1)),(28,.I (-n)),(29,.I (q.1:Int))])
    (λq w'=>q.1<=n.natAbs/\Zu q.2=true/\Z2c (Ze c kn) (-1) (n.natAbs - q.1) q.2=Z2c (Ze c kn) (-1) n.natAbs d/\Stp [] w1 w') (λq=>n.natAbs - q.1) (0,d) ⟨rfl,rfl,rfl,rfl,rfl,rfl,trivial⟩ ⟨Xr _,hd,rfl,Stp.refl _ _⟩ ?_
   rintro ⟨k,q⟩ w2 ⟨hk,hq,bt,aj⟩;dsimp only at hk hq bt ⊢;have aK:=ab.up aj;have h2:=h.up aj;have pG:=Zr.1 hq;by_cases hlt:k<n.natAbs;have e1:n.natAbs - k=(n.natAbs - (k+1))+1:=by omega
   rw [e1,Z2c] at bt;refine QO ?_;refine CM (Z40 rfl rfl rfl rfl) (Z2Q (q+(-1)) kn (-1) c hv cv zo zs hr _ h2 (by omega)) ?_;rintro _ w3 ⟨rfl,aF⟩;by_cases he:(ZE (Ze c kn) (-1) (q+(-1))).2=0;rw [if_pos he] at bt;rw [he];refine W ?_;exact Zd (k+1,(ZE (Ze c kn) (-1) (q+(-1))).1) ⟨rfl,rfl,rfl,rfl,rfl,rfl,trivial⟩ ⟨by dsimp only;omega,(Z1T he).1,bt,aj.trans aF⟩ (by dsimp only;omega);rw [if_neg he] at bt;refine QO ?_;refine WR ?_;rw [<- bt];exact .mk ⟨rfl,(hS.trans aj).trans aF⟩;have e1:n.natAbs - k=0:=by omega
   rw [e1,Z2c] at bt;refine QO ?_;refine WR ?_;rw [<- bt];exact .mk ⟨rfl,hS.trans aj⟩;have mc:(n.natAbs:Int)=n:=by omega
   have ke:(if n<0 then (-1:Int) else 1)=1:=by split<;>omega
   rw [ke];refine QO ?_
   refine Zm (σ:=Nat×Int) (λq=>[(1,.I q.2),(3,.I kn),(4,pQ b4),(10,.I (1)),(28,.I n),(29,.I (q.1:Int))])
    (λq w'=>q.1<=n.natAbs/\Zu q.2=true/\Z2c (Ze c kn) (1) (n.natAbs - q.1) q.2=Z2c (Ze c kn) (1) n.natAbs d/\Stp [] w1 w') (λq=>n.natAbs - q.1) (0,d) ⟨rfl,rfl,rfl,rfl,rfl,rfl,trivial⟩ ⟨Xr _,hd,rfl,Stp.refl _ _⟩ ?_
   rintro ⟨k,q⟩ w2 ⟨hk,hq,bt,aj⟩;dsimp only at hk hq bt ⊢;have aK:=ab.up aj;have h2:=h.up aj;have pG:=Zr.1 hq;by_cases hlt:k<n.natAbs;have e1:n.natAbs - k=(n.natAbs - (k+1))+1:=by omega
   rw [e1,Z2c] at bt;refine QO ?_;refine CM (Z40 rfl rfl rfl rfl) (Z2Q (q+(1)) kn (1) c hv cv zo zs hr _ h2 (by omega)) ?_;rintro _ w3 ⟨rfl,aF⟩;by_cases he:(ZE (Ze c kn) (1) (q+(1))).2=0;rw [if_pos he] at bt;rw [he];refine W ?_;exact Zd (k+1,(ZE (Ze c kn) (1) (q+(1))).1) ⟨rfl,rfl,rfl,rfl,rfl,rfl,trivial⟩ ⟨by dsimp only;omega,(Z1T he).1,bt,aj.trans aF⟩ (by dsimp only;omega);rw [if_neg he] at bt;refine QO ?_;refine WR ?_;rw [<- bt];exact .mk ⟨rfl,(hS.trans aj).trans aF⟩;have e1:n.natAbs - k=0:=by omega
   rw [e1,Z2c] at bt;refine QO ?_;refine WR ?_;rw [<- bt];exact .mk ⟨rfl,hS.trans aj⟩
theorem Z7N (d n:Int) (w) (hL:Z0K w) (h0:0<=d) (h1:d<=3652058) :
 CC 176 #[.I d,.I n] w λr w'=>r=.tuple #[.I (Z6Q d n).1,.I (Z6Q d n).2]/\Stp [] w w':=by
 obtain ⟨y1,y2,m1,m2,d1,d2,fy⟩:=Z4m h0 h1;have aY:Zu d=true:=Zr.2 ⟨h0,h1⟩;have g1:1<w.heap.size:=by have:=block_lt_of_cell (hL 0 0 rfl);simpa using this
 unfold Z6Q;refine cW2 56 Tryz.func176 ?_;by_cases hn:n < -200000\/200000<n
 . rw [if_pos hn]
   repeat'(first|refine W1 ?_|omega|refine VG ?_ ?_<;>intro hg|refine VC ?_ ?_<;>intro hc)
   all_goals refine WR ?_
   all_goals exact .mk ⟨rfl,Stp.refl _ _⟩
 rw [if_neg hn,if_pos aY];refine QO ?_;refine CL (Z9a d _ h0 h1) ?_;rintro _ w1 ⟨rfl,hS⟩;replace hL:=hL.up hS;refine W ?_;refine Z0 Z4 rfl ?_;rintro _ w2 ⟨b6,rfl,dS,e6,aj⟩;refine W ?_;refine SB (us:=[.I (ofM d).y,.I (ofM d).m,.I (ofM d).d]) (by intro u hu;simp at hu;rcases hu with rfl|rfl|rfl<;>rfl) e6 ?_;rintro _ w3 ⟨hT,k6⟩;have pH:w.heap.size<=b6:=by have:=hS.size;omega
 replace hS:=hS.trans (aj.ow hT);replace hL:=hL.up (aj.ow hT);clear e6 hT aj;generalize hM:12 * (ofM d).y+(ofM d).m - 1+n=M;by_cases hr:M<12\/120000<=M
 . rw [if_pos hr]
   refine W ?_;rw [hM];repeat'(first|refine W1 ?_|omega|refine VG ?_ ?_<;>intro hg|refine VC ?_ ?_<;>intro hc)
   all_goals refine WR ?_
   all_goals exact .mk ⟨rfl,hS⟩
 rw [if_neg hr];have fV:=Z10 (M / 12) (M % 12+1);have cn:=Z0d (y:=M / 12) (k:=(M % 12).toNat) (by omega);rw [show (((M % 12).toNat:Int))=M % 12 by omega] at cn;refine W ?_;rw [hM];refine QO ?_;refine S1 (u:=.I (M / 12)) k6 ?_;rintro _ w4 ⟨aU,k6⟩;refine W ?_;refine S1 (u:=.I (M % 12+1)) k6 ?_;rintro _ w5 ⟨aD,k6⟩;replace hL:=(hL.ext aU (by simp;omega)).ext aD (by simp;omega);replace hS:=(hS.ow aU).ow aD;clear aU aD;refine W ?_;refine ZDr 10 [] [9] [(0,0),(1,1),(2,0),(3,1),(4,0),(5,1),(6,2),(7,0),(8,0),(9,2)] (λw1 ae=>?_);replace hL:=hL.up ae;replace k6:=k6.up ae;replace hS:=hS.trans ae;clear ae;refine D ?_;refine Z7 rfl trivial (Z3 rfl (Zg rfl rfl) (Z2K (M / 12) (M % 12+1) _ hL (by omega) (by omega))) (λ_ _ h=>by rw [h.2];exact Stp.refl _ _) rfl ?_;rintro _ _ ⟨rfl,rfl⟩;refine D ?_;refine ZM rfl trivial (Zb (u:=.I (min (ofM d).d (Zo (M / 12) (M % 12+1)))) rfl rfl rfl rfl k6 (by simp)) rfl ?_;rintro _ w6 ⟨cz,k6⟩;replace hS:=hS.ow cz;refine D ?_;refine W ?_;refine CM (ZS rfl) (Z4n (M / 12) (M % 12+1) (min (ofM d).d (Zo (M / 12) (M % 12+1))) _ (by omega) (by omega) (by omega) (by omega) (by omega) (by omega) (by omega)) ?_;rintro _ w7 ⟨rfl,aW⟩;refine RT ?_;exact ⟨rfl,hS.trans aW⟩
theorem ZlD (a b:Int) (w):(Instr.build 94 #[(0,.I a),(1,.I b)]).run Tryz.prog w=.ok (agg ((a,b):Spn)) w:=by kernel_rfl
theorem Z3w (d:Spn) (w):(Instr.buildSlice 27 1 #[(0,agg d)]).run Tryz.prog w=.ok (.slice (some ⟨w.heap.size,0,none⟩) 1 1) (w.alloc (.cells (Z2.enc d).toArray 94)):=by kernel_rfl
section
variable {K:MK} {w w':World} {sv pv:Value} {st:List Int} {sp:List Spn} {at_ er:Int} {dn:Bool}
theorem Mch.cal (hK:KOk K) (h:Mch K w sv pv st sp at_ er dn):Z1y w K.c K.hv K.cv K.zo K.zs K.hr:=
 ⟨(h.hols hK).ext (Stp.refl [] w) (by simp) (by simp),(h.clos hK).ext (Stp.refl [] w) (by simp) (by simp),h.len hK,h.mov hK,hK.cal⟩
theorem Mch.spans (hK:KOk K) (h:Mch K w sv pv st sp at_ er dn) {bs:Nat} (hk:K.nk=some bs) {pv':Value} {sp':List Spn} {w2:World} (hS:Stp (ob pv) w w') (hr:Row [] w' K.w0.heap.size 94 pv' sp') (ho:∀ b∈ob pv',b∈ob pv\/w.heap.size<=b)
 (aj:Stp [bs] w' w2) (hb:Blk w2 bs 27 [pv']):Mch K w2 sv pv' st sp' at_ er dn:=by
 have jO:=hK.bml;have hn:=hK.nkl bs hk;obtain ⟨h1,h2⟩:=h.nt bs hk;have kT:=λb hb=>(hr.ob_le b hb).1;have eQ:=λb hb=>(h2.ob_le b hb).1;have pI:=λb hb=>(h.row.ob_le b hb).1;have pJ:=λb hb=>(h.row.ob_le b hb).2;refine ⟨(h.blk.ext hS (λhx=>by have:=eQ _ hx;omega)).ext aj (by have:=hn.2;simp;exact λe=>this e.symm),(h.row.keep hS (λb hb hp=>h.ap b hp hb)).keep aj (λb hb hx=>by have:=pI _ hx;simp at hb;omega),λbs' dw=>?_,(λh0=>by rw [hk] at h0;cases h0),λb hb hp=>?_,?_,λp hp=>?_⟩;have dw:bs'=bs:=by rw [hk] at dw;exact (XU dw).symm
 subst dw;exact ⟨hb,hr.keep aj (λb hb hx=>by have:=kT _ hx;simp at hb;omega)⟩;rcases ho b hp with h3|h3
 exact h.ap b hb h3;have:=pJ b hb;omega;exact (h.stp.own (S':=ob pv) hS (λb hb=>.inr (eQ b hb))).trans (aj.mono (by simp [MK.own,hk]));obtain ⟨a,b,c,d⟩:=h.prot p hp;have hlt:=(Xo.1 a).1;have a2:=(hS.block p.1 hlt d).trans a;have a3:=(aj.block p.1 (Xo.1 a2).1 (λe=>b (by simp at e;rw [e];simp [MK.own,hk]))).trans a2;exact ⟨a3,b,c,λh3=>(ho _ h3).elim d (λh4=>by omega)⟩
theorem Zfd (hK:KOk K) (h:Mch K w sv pv st sp at_ er dn) {bs:Nat} (hk:K.nk=some bs) (a b:Int) (hl:sp.length<=100000) :
 CC 67 #[.I a,.I b,pQ bs] w λr w'=>r=.tuple #[]/\∃ pv',Mch K w' sv pv' st (sp++[(a,b)]) at_ er dn:=by
 obtain ⟨ab,ac⟩:=h.nt bs hk;have hn:=hK.nkl bs hk;have eQ:=λb hb=>(ac.ob_le b hb).1;refine cW3 11 Tryz.func67 ?_;refine W ?_;refine Z5 (vs:=[(0,.I a),(1,.I b)]) rfl (ZlD _ _) rfl ?_;refine Z0 (Z1 (vs:=[(0,agg ((a,b):Spn))]) rfl (Z3w _)) rfl ?_;rintro bv w1 hN;have ae:=Za.stp hN;have aI:SlV (ob pv++[]) w1 bv [((a,b):Spn)]:=hN.slv (λb hb=>by simp at hb;exact (ac.ob_le b hb).2) rfl rfl (by simp [maxLen]);replace h:=h.up ae;replace ac:=ac.up ae;replace ab:=ab.up ae;refine Z0 (ZC rfl (by decide) rfl rfl ac aI (by simp;omega) (by simp [maxLen];omega) (h.stp.size)) rfl ?_;rintro pv' w2 ⟨bK,aj,ho⟩;have aK:=ab.ext aj (λhx=>by have:=eQ _ hx;omega);refine W ?_;have h1:=bK.slv (X:=[]) (by simp);refine Z8 (Zb (u:=pv') rfl rfl h1.cells h1.one aK (by simp)) ?_;rintro _ w3 ⟨aF,bH⟩;refine RT ?_;exact ⟨rfl,pv',h.spans hK hk aj bK ho aF bH⟩
theorem Z6q {P:Nat} {e:Env} {d:Option Nat} {ty:TypeId} {pos:String} {af:Array Edge} {g:Option (Nat×Bool)} {x y z:Operand} {ts:Array TypeId} (hK:KOk K) (h:Mch K w sv pv st sp at_ er dn) {a b:Int} (hl:sp.length<=100000)
 (hx:ev e x=some (ZmA K.nk)) (hy:ev e y=some (.I a)) (hz:ev e z=some (.I b)) :
 OE Tryz.prog P ⟨d,.call { callee:=.value x,args:=#[y,z],argTypes:=ts },ty,pos,af,g⟩ e w (λv w'=>v=.tuple #[]/\∃ pv',Mch K w' sv pv' st (sp++[(a,b)]) at_ er dn):=by
 cases hk:K.nk with
 | none=>
   exact absurd hk hK.nks
 | some bs=>
   rw [hk] at hx;exact Z0F (f:=67) hx (Zg hy hz) rfl (Zfd hK h hk a b hl)
theorem Res.err {r:Int×Int} {st':List Int} {sp':List Spn} (h:Res K w st sp at_ r) (he:¬ r.2=0):Res K w st' sp' at_ r:=by
 obtain ⟨a,b,c,d,h1,h2⟩:=h;exact ⟨a,b,c,d,h1,λh0=>absurd h0 he⟩
theorem ZlE (hK:KOk K) {a b:Int} (h:Mch K w sv pv (st++[a,b]) sp at_ 0 false) (hl:st.length<=100000) (n:Int) (hr:Zu a=true) :
 CC 115 #[mP K,.I n] w λr w'=>r=.tuple #[]/\Res K w' st sp at_ (Z6Q a b):=by
 obtain ⟨d0,d1⟩:=Zr.1 hr;refine cW2 18 Tryz.func115 ?_;refine W ?_;refine CL (JP hK h) ?_;rintro _ w1 ⟨rfl,sv1,h1⟩;refine W ?_;refine CL (Z7N a b _ (h1.len hK) d0 d1) ?_;rintro _ w2 ⟨rfl,hS⟩;replace h1:=h1.up hS;refine W ?_;refine CL (Z04 hK h1 hl _ _) ?_;rintro _ w3 ⟨rfl,h2⟩;refine RT ?_;exact ⟨rfl,h2⟩
theorem Zu7 (hK:KOk K) {b:Int} (h:Mch K w sv pv (st++[b]) sp at_ 0 false) (hl:st.length<=100000) (fz:sp.length<=100000) (n:Int) :
 CC 117 #[mP K,.I n] w λr w'=>r=.tuple #[]/\Res K w' st (sp++[(b,(ZE (Ze K.c K.kn) 1 b).1)]) at_ (ZE (Ze K.c K.kn) (1) b):=by
 refine cW2 35 Tryz.func117 ?_;refine W ?_;refine CL (Z2P hK h) ?_;rintro _ w1 ⟨rfl,sv1,h1⟩;refine W ?_;refine ZDr 15 [] [] [(0,0),(1,0),(2,0),(3,1),(4,0),(5,0),(6,0),(7,0),(8,1),(9,2),(10,0),(11,0),(12,0),(13,0),(14,0)] (λw1 ae=>?_);replace h1:=h1.up ae;have ab:=h1.blk;unfold Z4L at ab;refine D ?_;refine WD_read rfl trivial (λw' be=>Zn (us:=Ji K.c K.hv K.cv K.zo K.zs K.hr) rfl rfl (ab.up be) rfl rfl) rfl ?_;refine D ?_;refine DC (Z5D b K.kn K.c K.hv K.cv K.zo K.zs K.hr _ (h1.cal hK)) (λ_ _ h=>h.2) ?_;rintro _ w2 ⟨rfl,aj⟩;replace h1:=h1.up aj;replace ab:=ab.up aj;refine D ?_;by_cases he:(ZE (Ze K.c K.kn) (1) b).2=0;refine QO ?_;refine Z0 (Z6q hK h1 fz rfl rfl rfl) rfl ?_;rintro _ w3 ⟨rfl,pv1,h2⟩;refine W ?_;refine CL (Z04 hK h2 hl _ _) ?_;rintro _ w4 ⟨rfl,h3⟩;refine RT ?_;exact ⟨rfl,h3⟩;refine QO ?_;refine CL (Z04 hK h1 hl _ _) ?_;rintro _ w4 ⟨rfl,h3⟩;refine RT ?_;exact ⟨rfl,h3.err he⟩
theorem Zu8 (hK:KOk K) {b:Int} (h:Mch K w sv pv (st++[b]) sp at_ 0 false) (hl:st.length<=100000) (fz:sp.length<=100000) (n:Int) :
 CC 118 #[mP K,.I n] w λr w'=>r=.tuple #[]/\Res K w' st (sp++[((ZE (Ze K.c K.kn) (-1) b).1,b)]) at_ (ZE (Ze K.c K.kn) (-1) b):=by
 refine cW2 35 Tryz.func118 ?_;refine W ?_;refine CL (Z2P hK h) ?_;rintro _ w1 ⟨rfl,sv1,h1⟩;refine W ?_;refine ZDr 15 [] [] [(0,0),(1,0),(2,0),(3,1),(4,0),(5,0),(6,0),(7,0),(8,1),(9,2),(10,0),(11,0),(12,0),(13,0),(14,0)] (λw1 ae=>?_);replace h1:=h1.up ae;have ab:=h1.blk;unfold Z4L at ab;refine D ?_;refine WD_read rfl trivial (λw' be=>Zn (us:=Ji K.c K.hv K.cv K.zo K.zs K.hr) rfl rfl (ab.up be) rfl rfl) rfl ?_;refine D ?_;refine DC (Z7M b K.kn K.c K.hv K.cv K.zo K.zs K.hr _ (h1.cal hK)) (λ_ _ h=>h.2) ?_;rintro _ w2 ⟨rfl,aj⟩;replace h1:=h1.up aj;replace ab:=ab.up aj;refine D ?_;by_cases he:(ZE (Ze K.c K.kn) (-1) b).2=0;refine QO ?_;refine Z0 (Z6q hK h1 fz rfl rfl rfl) rfl ?_;rintro _ w3 ⟨rfl,pv1,h2⟩;refine W ?_;refine CL (Z04 hK h2 hl _ _) ?_;rintro _ w4 ⟨rfl,h3⟩;refine RT ?_;exact ⟨rfl,h3⟩;refine QO ?_;refine CL (Z04 hK h1 hl _ _) ?_;rintro _ w4 ⟨rfl,h3⟩;refine RT ?_;exact ⟨rfl,h3.err he⟩
theorem Zqj (hK:KOk K) {a b:Int} (h:Mch K w sv pv (st++[a,b]) sp at_ 0 false) (hl:st.length<=100000) (fz:sp.length<=100000) (n:Int) (hr:Zu a=true) :
 CC 116 #[mP K,.I n] w λr w'=>r=.tuple #[]/\Res K w' st (sp++Jk 18 a b (Z45 (Ze K.c K.kn) a b).1) at_ (Z45 (Ze K.c K.kn) a b):=by
 obtain ⟨d0,d1⟩:=Zr.1 hr;refine cW2 57 Tryz.func116 ?_;refine W ?_;refine CL (JP hK h) ?_;rintro _ w1 ⟨rfl,sv1,h1⟩;refine W ?_;refine ZDr 16 [] [] [(0,0),(1,0),(2,0),(3,1),(4,0),(5,0),(6,0),(7,0),(8,0),(9,1),(10,2),(11,0),(12,0),(13,0),(14,0),(15,0)] (λw1 ae=>?_);replace h1:=h1.up ae;have ab:=h1.blk;unfold Z4L at ab;refine D ?_;refine WD_read rfl trivial (λw' be=>Zn (us:=Ji K.c K.hv K.cv K.zo K.zs K.hr) rfl rfl (ab.up be) rfl rfl) rfl ?_;refine D ?_;refine DC (ZlC a b K.kn K.c K.hv K.cv K.zo K.zs K.hr _ (h1.cal hK)) (λ_ _ h=>h.2) ?_;rintro _ w2 ⟨rfl,aj⟩;replace h1:=h1.up aj;replace ab:=ab.up aj;refine D ?_;have db:Jk 18 a b (Z45 (Ze K.c K.kn) a b).1=if 0<b then [(a+1,(Z45 (Ze K.c K.kn) a b).1)] else if b<0 then [((Z45 (Ze K.c K.kn) a b).1,a - 1)] else []:=rfl
 rw [db];by_cases he:(Z45 (Ze K.c K.kn) a b).2=0;by_cases dD:b=0;rw [if_neg (by omega),if_neg (by omega),Xz];refine QO ?_;refine CL (Z04 hK h1 hl _ _) ?_;rintro _ w4 ⟨rfl,h3⟩;refine RT ?_;exact ⟨rfl,h3⟩;by_cases fx:0<b;rw [if_pos fx];refine QO ?_;refine Z0 (Z6q hK h1 fz rfl rfl rfl) rfl ?_;rintro _ w3 ⟨rfl,pv1,h2⟩;refine W ?_;refine CL (Z04 hK h2 hl _ _) ?_;rintro _ w4 ⟨rfl,h3⟩;refine RT ?_;exact ⟨rfl,h3⟩;rw [if_neg fx,if_pos (by omega)];refine QO ?_;refine Z0 (Z6q hK h1 fz rfl rfl rfl) rfl ?_;rintro _ w3 ⟨rfl,pv1,h2⟩;refine W ?_;refine CL (Z04 hK h2 hl _ _) ?_;rintro _ w4 ⟨rfl,h3⟩;refine RT ?_;exact ⟨rfl,h3⟩;refine QO ?_;refine CL (Z04 hK h1 hl _ _) ?_;rintro _ w4 ⟨rfl,h3⟩;refine RT ?_;exact ⟨rfl,h3.err he⟩
end
structure Zb4 (code:List Ins) (st:List (Option Shp)) (i:Nat) (s nx:Shp):Prop where
 at_:st.getD i none=some s
 next:J4 (code.getD i ⟨0,0⟩) s=some nx
 stop:(code.getD i ⟨0,0⟩).op=24->i+1=st.length/\s.length=1
 jump:(code.getD i ⟨0,0⟩).op=13\/(code.getD i ⟨0,0⟩).op=14->(i:Int)<(code.getD i ⟨0,0⟩).n/\(code.getD i ⟨0,0⟩).n<st.length/\st.getD (code.getD i ⟨0,0⟩).n.toNat none=some nx
 on:(code.getD i ⟨0,0⟩).op≠24->(code.getD i ⟨0,0⟩).op≠13->i+1<st.length/\st.getD (i+1) none=some nx
theorem Z25 {st st':List (Option Shp)} {t:Int} {nx:Shp} (h:Z0M st t nx=some st'):(∀ i s,st.getD i none=some s->st'.getD i none=some s)/\0<=t/\t<st.length/\st'.getD t.toNat none=some nx:=by
 unfold Z0M at h;split at h;rename_i hr;split at h;rename_i s0 bQ;split at h;rename_i he;subst he;cases h;exact ⟨λi s h=>h,hr.1,hr.2,bQ⟩;cases h;rename_i hn;cases h;refine ⟨λi s h=>?_,hr.1,hr.2,?_⟩;by_cases hi:t.toNat=i;subst hi;rw [hn] at h;cases h;have:(st.set t.toNat (some nx)).getD i none=st.getD i none:=by
  simp [List.getD,hi]
 rw [this];exact h;have:t.toNat<st.length:=by omega
 simp [List.getD,this];cases h
theorem Zb4.keeps {code:List Ins} {st st':List (Option Shp)} {i:Nat} {s nx:Shp} (h:Zb4 code st i s nx) (hk:∀ i s,st.getD i none=some s->st'.getD i none=some s) (hl:st'.length=st.length):Zb4 code st' i s nx:=
 ⟨hk _ _ h.at_,h.next,λh1=>by rw [hl];exact h.stop h1,λh1=>by rw [hl];exact ⟨(h.jump h1).1,(h.jump h1).2.1,hk _ _ (h.jump h1).2.2⟩,λh1 h2=>by rw [hl];exact ⟨(h.on h1 h2).1,hk _ _ (h.on h1 h2).2⟩⟩
theorem Zfe {code:List Ins} {st st':List (Option Shp)} {i:Nat} (h:Z1O st i (code.getD i ⟨0,0⟩)=some st'):(∀ i s,st.getD i none=some s->st'.getD i none=some s)/\st'.length=st.length/\∃ s nx,Zb4 code st' i s nx:=by
 unfold Z1O at h;cases hs:st.getD i none with
 | none=>rw [hs] at h;cases h
 | some s=>
   rw [hs] at h;dsimp only at h;cases hn:J4 (code.getD i ⟨0,0⟩) s with
   | none=>rw [hn] at h;cases h
   | some nx=>
     rw [hn] at h;dsimp only at h;by_cases bT:(code.getD i ⟨0,0⟩).op=24;rw [if_pos bT] at h;split at h;rename_i hc;cases h;exact ⟨λ_ _ h=>h,rfl,s,nx,hs,hn,λ_=>hc,λh=>by omega,λh=>absurd bT h⟩;cases h;rw [if_neg bT] at h;by_cases bJ:(code.getD i ⟨0,0⟩).op=13;rw [if_pos bJ] at h;split at h;rename_i hc;obtain ⟨k1,k2,k3,k4⟩:=Z25 h;have hl:=Z0e h;exact ⟨k1,hl,s,nx,k1 _ _ hs,hn,λh=>absurd h bT,λ_=>⟨hc,by omega,k4⟩,λ_ h=>absurd bJ h⟩;cases h;rw [if_neg bJ] at h;by_cases cw:(code.getD i ⟨0,0⟩).op=14;rw [if_pos cw] at h;split at h;rename_i hc;obtain ⟨s1,r1,r2⟩:=Yar.1 h;obtain ⟨k1,k2,k3,k4⟩:=Z25 r1;obtain ⟨m1,m2,m3,m4⟩:=Z25 r2;have hl:=Z0e r1;have dK:=Z0e r2;exact ⟨λi s h=>m1 _ _ (k1 _ _ h),by omega,s,nx,m1 _ _ (k1 _ _ hs),hn,λh=>absurd h bT,λ_=>⟨hc,by omega,m1 _ _ k4⟩,λ_ _=>⟨by omega,m4⟩⟩;cases h;rw [if_neg cw] at h;obtain ⟨k1,k2,k3,k4⟩:=Z25 h;have hl:=Z0e h;exact ⟨k1,hl,s,nx,k1 _ _ hs,hn,λh=>absurd h bT,λh=>absurd h (not_or.2 ⟨bJ,cw⟩),λ_ _=>⟨by omega,k4⟩⟩
theorem Zb5 {code:List Ins} {st0:List (Option Shp)}:∀ (k:Nat) (st:List (Option Shp)),Z9d code k st0=some st->(∀ i s,st0.getD i none=some s->st.getD i none=some s)/\st.length=st0.length/\∀ i,i<k->∃ s nx,Zb4 code st i s nx
 | 0,st,h=>by cases h;exact ⟨λ_ _ h=>h,rfl,λi hi=>by omega⟩
 | k + 1, st, h => by
   obtain ⟨s1,h1,h2⟩:=Yar.1 h;obtain ⟨a1,a2,a3⟩:=Zb5 k s1 h1;obtain ⟨b1,b2,b3⟩:=Zfe h2;refine ⟨λi s h=>b1 _ _ (a1 _ _ h),by omega,λi hi=>?_⟩;by_cases hk:i=k;subst hk;exact b3;obtain ⟨s,nx,hg⟩:=a3 i (by omega);exact ⟨s,nx,hg.keeps b1 b2⟩
theorem Z4X {code:List Ins} {t:Int} (h:Z35 code=(t,0)):0<code.length/\code.length<=200/\∃ st:List (Option Shp),st.length=code.length/\Zav st/\(∀ s,some s∈st->s.length<=16)/\st.getD 0 none=some []/\st.getD (code.length - 1) none=some [t]/\∀ i,i<code.length->∃ s nx,Zb4 code st i s nx:=by
 unfold Z35 at h;by_cases hl:code.length=0\/code.length > 200;rw [if_pos hl] at h;cases h;rw [if_neg hl] at h;cases hr:Z9d code code.length (some [] :: List.replicate (code.length - 1) none) with
 | none=>rw [hr] at h;cases h
 | some st=>
   rw [hr] at h;dsimp only at h;obtain ⟨a1,a2,a3⟩:=Zb5 _ _ hr;have h0:Zav ((some []) :: List.replicate (code.length - 1) none):=by
    intro s hs;simp at hs;subst hs;intro k hk;cases hk
   have ak:st.length=code.length:=by rw [a2];simp;omega
   have fG:∀ (k:Nat) (st:List (Option Shp)),Z9d code k (some [] :: List.replicate (code.length - 1) none)=some st->∀ s,some s∈st->s.length<=16:=by
    intro k
    induction k with
    | zero=>
      intro st h s hs;cases h;simp at hs;subst hs;simp
    | succ k ih=>
      intro st h;obtain ⟨s1,h1,h2⟩:=Yar.1 h;exact Zq9 (ih s1 h1) h2
   refine ⟨by omega,by omega,st,ak,(ZhI h0 _ _ hr).1,fG _ _ hr,a1 0 [] rfl,?_,a3⟩;obtain ⟨s,nx,hg⟩:=a3 (code.length - 1) (by omega);have ez:=hg.at_;rw [ez] at h ⊢;by_cases bT:(code.getD (code.length - 1) ⟨0,0⟩).op=24;have:=(hg.stop bT).2;obtain ⟨k,rfl⟩:=List.length_eq_one_iff.1 this;simp at h;rw [h];by_cases bJ:(code.getD (code.length - 1) ⟨0,0⟩).op=13;have:=hg.jump (.inl bJ);omega;have:=hg.on bT bJ;omega
abbrev Zip:List (Int×Value):=[(1,fnV 101),(2,fnV 101),(3,fnV 101),(4,fnV 102),
 (5,fnV 103),(6,fnV 104),(7,fnV 105),(8,fnV 106),
 (9,fnV 107),(10,fnV 108),(11,fnV 109),(12,fnV 110),
 (13,fnV 111),(14,fnV 112),(15,fnV 113),(16,fnV 114),
 (17,fnV 115),(18,fnV 116),(19,fnV 117),(20,fnV 118),
 (21,fnV 119),(22,fnV 120),(23,fnV 121),(24,fnV 122)]
abbrev Zu9 (z:Int):Value:=.I z
theorem Zff (w):CC 68 #[] w λr w'=>∃ m,r=.map (some m)/\w.heap.size<=m/\Jz Zu9 w' m Zip/\Stp [] w w':=by
 refine cW0 3 Tryz.func68 ?_;refine W ?_;refine Z0 (Z4j Zu9) rfl ?_;rintro _ w1 ⟨m,rfl,hm,aw,hS⟩;refine Z8 (Zz (a:=(1:Int)) rfl rfl rfl aw (by decide)) ?_;clear aw;rintro _ w2 ⟨aw,hT⟩;replace hS:=hS.ow hT;clear hT;refine Z8 (Zz (a:=(2:Int)) rfl rfl rfl aw (by decide)) ?_;clear aw;rintro _ w2 ⟨aw,hT⟩;replace hS:=hS.ow hT;clear hT;refine Z8 (Zz (a:=(3:Int)) rfl rfl rfl aw (by decide)) ?_;clear aw;rintro _ w2 ⟨aw,hT⟩;replace hS:=hS.ow hT;clear hT;refine Z8 (Zz (a:=(4:Int)) rfl rfl rfl aw (by decide)) ?_;clear aw;rintro _ w2 ⟨aw,hT⟩;replace hS:=hS.ow hT;clear hT;refine Z8 (Zz (a:=(5:Int)) rfl rfl rfl aw (by decide)) ?_;clear aw;rintro _ w2 ⟨aw,hT⟩;replace hS:=hS.ow hT;clear hT;refine Z8 (Zz (a:=(6:Int)) rfl rfl rfl aw (by decide)) ?_;clear aw;rintro _ w2 ⟨aw,hT⟩;replace hS:=hS.ow hT;clear hT;refine Z8 (Zz (a:=(7:Int)) rfl rfl rfl aw (by decide)) ?_;clear aw;rintro _ w2 ⟨aw,hT⟩;replace hS:=hS.ow hT;clear hT;refine Z8 (Zz (a:=(8:Int)) rfl rfl rfl aw (by decide)) ?_;clear aw;rintro _ w2 ⟨aw,hT⟩;replace hS:=hS.ow hT;clear hT;refine Z8 (Zz (a:=(9:Int)) rfl rfl rfl aw (by decide)) ?_;clear aw;rintro _ w2 ⟨aw,hT⟩;replace hS:=hS.ow hT;clear hT;refine Z8 (Zz (a:=(10:Int)) rfl rfl rfl aw (by decide)) ?_;clear aw;rintro _ w2 ⟨aw,hT⟩;replace hS:=hS.ow hT;clear hT;refine Z8 (Zz (a:=(11:Int)) rfl rfl rfl aw (by decide)) ?_;clear aw;rintro _ w2 ⟨aw,hT⟩;replace hS:=hS.ow hT;clear hT;refine Z8 (Zz (a:=(12:Int)) rfl rfl rfl aw (by decide)) ?_;clear aw;rintro _ w2 ⟨aw,hT⟩;replace hS:=hS.ow hT;clear hT;refine Z8 (Zz (a:=(13:Int)) rfl rfl rfl aw (by decide)) ?_;clear aw;rintro _ w2 ⟨aw,hT⟩;replace hS:=hS.ow hT;clear hT;refine Z8 (Zz (a:=(14:Int)) rfl rfl rfl aw (by decide)) ?_;clear aw;rintro _ w2 ⟨aw,hT⟩;replace hS:=hS.ow hT;clear hT;refine Z8 (Zz (a:=(15:Int)) rfl rfl rfl aw (by decide)) ?_;clear aw;rintro _ w2 ⟨aw,hT⟩;replace hS:=hS.ow hT;clear hT;refine Z8 (Zz (a:=(16:Int)) rfl rfl rfl aw (by decide)) ?_;clear aw;rintro _ w2 ⟨aw,hT⟩;replace hS:=hS.ow hT;clear hT;refine Z8 (Zz (a:=(17:Int)) rfl rfl rfl aw (by decide)) ?_;clear aw;rintro _ w2 ⟨aw,hT⟩;replace hS:=hS.ow hT;clear hT;refine Z8 (Zz (a:=(18:Int)) rfl rfl rfl aw (by decide)) ?_;clear aw;rintro _ w2 ⟨aw,hT⟩;replace hS:=hS.ow hT;clear hT;refine Z8 (Zz (a:=(19:Int)) rfl rfl rfl aw (by decide)) ?_;clear aw;rintro _ w2 ⟨aw,hT⟩;replace hS:=hS.ow hT;clear hT;refine Z8 (Zz (a:=(20:Int)) rfl rfl rfl aw (by decide)) ?_;clear aw;rintro _ w2 ⟨aw,hT⟩;replace hS:=hS.ow hT;clear hT;refine Z8 (Zz (a:=(21:Int)) rfl rfl rfl aw (by decide)) ?_;clear aw;rintro _ w2 ⟨aw,hT⟩;replace hS:=hS.ow hT;clear hT;refine Z8 (Zz (a:=(22:Int)) rfl rfl rfl aw (by decide)) ?_;clear aw;rintro _ w2 ⟨aw,hT⟩;replace hS:=hS.ow hT;clear hT;refine Z8 (Zz (a:=(23:Int)) rfl rfl rfl aw (by decide)) ?_;clear aw;rintro _ w2 ⟨aw,hT⟩;replace hS:=hS.ow hT;clear hT;refine Z8 (Zz (a:=(24:Int)) rfl rfl rfl aw (by decide)) ?_;clear aw;rintro _ w2 ⟨aw,hT⟩;replace hS:=hS.ow hT;clear hT;refine RT ?_;exact ⟨m,rfl,hm,aw,hS⟩
theorem Z4q {x:Ins} {s nx:Shp} {st:List Int} (hn:J4 x s=some nx) (hs:JN s st):(ZH x).2.2.2=true/\∃ st0 vs ts,st=st0++vs/\(ts=(ZH x).1\/(ZH x).2.1≠[]/\ts=(ZH x).2.1)/\JN ts vs:=by
 unfold J4 at hn;dsimp only at hn;split at hn;rename_i hc;obtain ⟨c1,c2,c3,c4⟩:=hc;exact ⟨c1,st.take (s.length - (ZH x).1.length),st.drop (s.length - (ZH x).1.length),_,(XZ _ _).symm,c3,hs.drop _⟩;cases hn
def JZ (K:MK) (w:World) (x:Ins) (st:List Int) (sp:List Spn) (sv pv:Value) (at_:Int):Prop:=
 if x.op=24 then Mch K w sv pv st sp at_ 0 true
 else if x.op=13 then Mch K w sv pv st sp x.n 0 false
 else if x.op=14 then ∃ sv',Mch K w sv' pv st.dropLast sp (if ZW st 0=0 then x.n else at_) 0 false
 else Res K w (st.take (st.length - arM x.op)) (sp++Jk x.op (ZW st 1) (ZW st 0) (JC (Ze K.c K.kn) K.ev x (ZW st 1) (ZW st 0)).1) at_ (JC (Ze K.c K.kn) K.ev x (ZW st 1) (ZW st 0))
theorem Z4Y {t v:Int} (h:vOk t v):-2147483647<=v/\v<=2147483647:=by unfold vOk at h;omega
theorem Zv1 {t u a b:Int} (ha:vOk t a) (hb:vOk u b):I64 (a * b):=by
 have h1:=Z4Y ha;have h2:=Z4Y hb;have h3:(a * b).natAbs<=2147483647 * 2147483647:=by rw [Int.natAbs_mul];exact Yal (by omega) (by omega)
 unfold I64;omega
section
variable {K:MK} {w w':World} {sv pv:Value} {st:List Int} {sp:List Spn} {at_ er:Int} {dn:Bool}
theorem ZlF {P:Nat} {e:Env} {d:Option Nat} {ty:TypeId} {pos:String} {af:Array Edge} {g:Option (Nat×Bool)} {y1 y2 y3:Operand} {ts:Array TypeId} (hK:KOk K) {x:Ins} {s nx:Shp}
 (h:Mch K w sv pv st sp at_ 0 false) (hn:J4 x s=some nx) (hs:JN s st) (hl:st.length<=100000) (fz:sp.length<=100000)
 (hx:ev e y1=some (Z4h Zip x.op .nilFunc)) (hy:ev e y2=some (mP K)) (hz:ev e y3=some (.I x.n)) :
 OE Tryz.prog P ⟨d,.call { callee:=.value y1,args:=#[y2,y3],argTypes:=ts },ty,pos,af,g⟩ e w (λv w'=>v=.tuple #[]/\JZ K w' x st sp sv pv at_):=by
 obtain ⟨fZ,st0,vs,ts',rfl,da,dt⟩:=Z4q hn hs;have hr:=Z6R fZ;obtain ⟨op,n⟩:=x;dsimp only at *;have cn:st0.length<=100000:=by rw [Xa] at hl;omega
 have jK:op=1\/op=2\/op=3\/op=4\/op=5\/op=6\/op=7\/op=8\/op=9\/op=10\/op=11\/op=12\/op=13\/op=14\/op=15\/op=16\/op=17\/op=18\/op=19\/op=20\/op=21\/op=22\/op=23\/op=24:=by omega
 rcases jK with rfl|rfl|rfl|rfl|rfl|rfl|rfl|rfl|rfl|rfl|rfl|rfl|rfl|rfl|rfl|rfl|rfl|rfl|rfl|rfl|rfl|rfl|rfl|rfl
 all_goals (simp [ZH] at fZ da)
 all_goals (try subst da)
 case inl|inr.inl|inr.inr.inl=>
  refine (Z3 (f:=101) hx (Zg hy hz) (Zqe hK h hl n)).mono ?_;rintro v w' ⟨rfl,az⟩;refine ⟨rfl,?_⟩;unfold JZ;have et:List.take (st0.length+vs.length) (st0++vs)=st0++vs:=XS (by simp);simpa [arM,Jk,JC,et] using az
 case inr.inr.inr.inl=>
  refine (Z3 (f:=102) hx (Zg hy hz) (fieldV hK h hl n (by omega) (by omega))).mono ?_;rintro v w' ⟨rfl,az⟩;refine ⟨rfl,?_⟩;unfold JZ;have et:List.take (st0.length+vs.length) (st0++vs)=st0++vs:=XS (by simp);simpa [arM,Jk,JC,et] using az
 case inr.inr.inr.inr.inl=>
  obtain ⟨a,b,rfl,ha,hb⟩:=dt.two_inv;refine (Z3 (f:=103) hx (Zg hy hz) (ZuV hK h cn n (by have:=Z4Y ha;have:=Z4Y hb;unfold I64;omega))).mono ?_;rintro v w' ⟨rfl,az⟩;refine ⟨rfl,?_⟩;unfold JZ;simpa [arM,Jk,JC,Z2M,J2] using az
 case inr.inr.inr.inr.inr.inl=>
  obtain ⟨a,b,rfl,ha,hb⟩:=dt.two_inv;refine (Z3 (f:=104) hx (Zg hy hz) (ZuW hK h cn n (by have:=Z4Y ha;have:=Z4Y hb;unfold I64;omega))).mono ?_;rintro v w' ⟨rfl,az⟩;refine ⟨rfl,?_⟩;unfold JZ;simpa [arM,Jk,JC,Z2M,J2] using az
 case inr.inr.inr.inr.inr.inr.inl=>
  obtain ⟨a,b,rfl,ha,hb⟩:=dt.two_inv;refine (Z3 (f:=105) hx (Zg hy hz) (ZuX hK h cn n (Zv1 ha hb))).mono ?_;rintro v w' ⟨rfl,az⟩;refine ⟨rfl,?_⟩;unfold JZ;simpa [arM,Jk,JC,Z2M,J2] using az
 case inr.inr.inr.inr.inr.inr.inr.inr.inl=>
  obtain ⟨a,b,rfl⟩:∃ a b,vs=[a,b]:=by
   rcases da with rfl|rfl
   all_goals
    obtain ⟨a,b,h1,-⟩:=dt.two_inv;exact ⟨a,b,h1⟩
  refine (Z3 (f:=107) hx (Zg hy hz) (ltV hK h cn n trivial)).mono ?_;rintro v w' ⟨rfl,az⟩;refine ⟨rfl,?_⟩;unfold JZ;simpa [arM,Jk,JC,Z2M,J2] using az
 case inr.inr.inr.inr.inr.inr.inr.inr.inr.inl=>
  obtain ⟨a,b,rfl⟩:∃ a b,vs=[a,b]:=by
   rcases da with rfl|rfl
   all_goals
    obtain ⟨a,b,h1,-⟩:=dt.two_inv;exact ⟨a,b,h1⟩
  refine (Z3 (f:=108) hx (Zg hy hz) (leV hK h cn n trivial)).mono ?_;rintro v w' ⟨rfl,az⟩;refine ⟨rfl,?_⟩;unfold JZ;simpa [arM,Jk,JC,Z2M,J2] using az
 case inr.inr.inr.inr.inr.inr.inr.inr.inr.inr.inl=>
  obtain ⟨a,b,rfl⟩:∃ a b,vs=[a,b]:=by
   rcases da with rfl|rfl
   all_goals
    obtain ⟨a,b,h1,-⟩:=dt.two_inv;exact ⟨a,b,h1⟩
  refine (Z3 (f:=109) hx (Zg hy hz) (eqV hK h cn n trivial)).mono ?_;rintro v w' ⟨rfl,az⟩;refine ⟨rfl,?_⟩;unfold JZ;simpa [arM,Jk,JC,Z2M,J2] using az
 case inr.inr.inr.inr.inr.inr.inr.inr.inr.inr.inr.inr.inr.inr.inl=>
  obtain ⟨a,b,rfl,ha,hb⟩:=dt.two_inv;refine (Z3 (f:=113) hx (Zg hy hz) (Zu2 hK h cn n (by have:=Z4Y ha;have:=Z4Y hb;unfold I64;omega))).mono ?_;rintro v w' ⟨rfl,az⟩;refine ⟨rfl,?_⟩;unfold JZ;simpa [arM,Jk,JC,Z2M,J2] using az
 case inr.inr.inr.inr.inr.inr.inr.inr.inr.inr.inr.inr.inr.inr.inr.inl=>
  obtain ⟨a,b,rfl,ha,hb⟩:=dt.two_inv;refine (Z3 (f:=114) hx (Zg hy hz) (Zqf hK h cn n (by have:=Z4Y ha;have:=Z4Y hb;unfold I64;omega))).mono ?_;rintro v w' ⟨rfl,az⟩;refine ⟨rfl,?_⟩;unfold JZ;simpa [arM,Jk,JC,Z2M,J2] using az
 case inr.inr.inr.inr.inr.inr.inr.inr.inr.inr.inr.inr.inr.inr.inr.inr.inl=>
  obtain ⟨a,b,rfl,ha,hb⟩:=dt.two_inv;refine (Z3 (f:=115) hx (Zg hy hz) (ZlE hK h cn n (Zr.2 ha.d))).mono ?_;rintro v w' ⟨rfl,az⟩;refine ⟨rfl,?_⟩;unfold JZ;simpa [arM,Jk,JC,Z2M,J2] using az
 case inr.inr.inr.inr.inr.inr.inr.inr.inr.inr.inr.inr.inr.inr.inr.inr.inr.inl=>
  obtain ⟨a,b,rfl,ha,hb⟩:=dt.two_inv;refine (Z3 (f:=116) hx (Zg hy hz) (Zqj hK h cn fz n (Zr.2 ha.d))).mono ?_;rintro v w' ⟨rfl,az⟩;refine ⟨rfl,?_⟩;unfold JZ;simpa [arM,Jk,JC,Z2M,J2] using az
 case inr.inr.inr.inr.inr.inr.inr.inr.inr.inr.inr.inr.inr.inr.inr.inr.inr.inr.inr.inr.inl=>
  obtain ⟨a,b,rfl,ha,hb⟩:=dt.two_inv;refine (Z3 (f:=119) hx (Zg hy hz) (Zqg hK h cn n trivial)).mono ?_;rintro v w' ⟨rfl,az⟩;refine ⟨rfl,?_⟩;unfold JZ;simpa [arM,Jk,JC,Z2M,J2] using az
 case inr.inr.inr.inr.inr.inr.inr.inr.inr.inr.inr.inr.inr.inr.inr.inr.inr.inr.inr.inr.inr.inl=>
  obtain ⟨a,b,rfl,ha,hb⟩:=dt.two_inv;refine (Z3 (f:=120) hx (Zg hy hz) (Zie hK h cn n trivial)).mono ?_;rintro v w' ⟨rfl,az⟩;refine ⟨rfl,?_⟩;unfold JZ;simpa [arM,Jk,JC,Z2M,J2] using az
 case inr.inr.inr.inr.inr.inr.inr.inr.inr.inr.inr.inr.inr.inr.inr.inr.inr.inr.inr.inr.inr.inr.inl=>
  obtain ⟨a,b,rfl,ha,hb⟩:=dt.two_inv;refine (Z3 (f:=121) hx (Zg hy hz) (Zif hK h cn n (by have:=Z4Y ha;have:=Z4Y hb;unfold I64;omega))).mono ?_;rintro v w' ⟨rfl,az⟩;refine ⟨rfl,?_⟩;unfold JZ;have e:Z36 (b - a)=(b - a,0):=by
   have:=ha.d;have:=hb.d;unfold Z36;rw [if_neg (by omega)]
  rw [e] at az;simpa [arM,Jk,JC,Z2M,J2] using az
 case inr.inr.inr.inr.inr.inr.inr.inl=>
  obtain ⟨b,rfl,hb⟩:=dt.one_inv;refine (Z3 (f:=106) hx (Zg hy hz) (ZuY hK h cn n (by have:=Z4Y hb;unfold I64;omega))).mono ?_;rintro v w' ⟨rfl,az⟩;refine ⟨rfl,?_⟩;unfold JZ;have e:Z36 (-b)=(-b,0):=by
   have:=Z4Y hb;unfold Z36;rw [if_neg (by omega)]
  rw [e] at az;simpa [arM,Jk,JC,Z7K,Z1B] using az
 case inr.inr.inr.inr.inr.inr.inr.inr.inr.inr.inr.inl=>
  obtain ⟨b,rfl,hb⟩:=dt.one_inv;refine (Z3 (f:=110) hx (Zg hy hz) (ZuZ hK h cn n)).mono ?_;rintro v w' ⟨rfl,az⟩;refine ⟨rfl,?_⟩;unfold JZ;have e:Z33 (decide (b=0))=1 - b:=by
   rcases hb.b with rfl|rfl<;>rfl
  rw [e] at az;simpa [arM,Jk,JC,Z7K,Z1B] using az
 case inr.inr.inr.inr.inr.inr.inr.inr.inr.inr.inr.inr.inr.inr.inr.inr.inr.inr.inl=>
  obtain ⟨b,rfl,hb⟩:=dt.one_inv;refine (Z3 (f:=117) hx (Zg hy hz) (Zu7 hK h cn fz n)).mono ?_;rintro v w' ⟨rfl,az⟩;refine ⟨rfl,?_⟩;unfold JZ;simpa [arM,Jk,JC,Z7K,Z1B] using az
 case inr.inr.inr.inr.inr.inr.inr.inr.inr.inr.inr.inr.inr.inr.inr.inr.inr.inr.inr.inl=>
  obtain ⟨b,rfl,hb⟩:=dt.one_inv;refine (Z3 (f:=118) hx (Zg hy hz) (Zu8 hK h cn fz n)).mono ?_;rintro v w' ⟨rfl,az⟩;refine ⟨rfl,?_⟩;unfold JZ;simpa [arM,Jk,JC,Z7K,Z1B] using az
 case inr.inr.inr.inr.inr.inr.inr.inr.inr.inr.inr.inr.inl=>
  refine (Z3 (f:=111) hx (Zg hy hz) (Zu3 hK h n)).mono ?_;rintro v w' ⟨rfl,az⟩;refine ⟨rfl,?_⟩;unfold JZ;simpa using az
 case inr.inr.inr.inr.inr.inr.inr.inr.inr.inr.inr.inr.inr.inl=>
  obtain ⟨b,rfl,hb⟩:=dt.one_inv;refine (Z3 (f:=112) hx (Zg hy hz) (Zlu hK h n)).mono ?_;rintro v w' ⟨rfl,az⟩;refine ⟨rfl,?_⟩;unfold JZ;simpa [Z1B] using az
 case inr.inr.inr.inr.inr.inr.inr.inr.inr.inr.inr.inr.inr.inr.inr.inr.inr.inr.inr.inr.inr.inr.inr=>
  refine (Z3 (f:=122) hx (Zg hy hz) (Zu4 hK h n)).mono ?_;rintro v w' ⟨rfl,az⟩;refine ⟨rfl,?_⟩;unfold JZ;simpa using az
end
abbrev Ziq (ev:List Int):Value:=.agg (evC ev).toArray
theorem ZlG (ev:List Int) (c:Cal) (hv cv zo zs hr:Value) (kn:Int) (b:Addr) (w) :
 (Instr.build 147 #[(0, Ziq ev), (1, Z20 c hv cv zo zs hr), (2, .I kn), (7, .func (.func 67) #[] #[.pointer (some b)])]).run Tryz.prog w
   = .ok (.agg (evC ev++Ji c hv cv zo zs hr++([.I kn,.N,.I 0,.I 0,.B false,.func (.func 67) #[] #[.pointer (some b)]]:List Value)).toArray) w:=by kernel_rfl
theorem ZcK {x:Ins} {s nx:Shp} (hx:x.op=13) (hn:J4 x s=some nx):nx=s:=by
 obtain ⟨op,n⟩:=x;dsimp only at hx;subst hx;simp [J4,ZH] at hn;exact hn.2.symm
theorem ZcL {x:Ins} {s nx:Shp} (hx:x.op=14) (hn:J4 x s=some nx):nx=s.dropLast:=by
 obtain ⟨op,n⟩:=x;dsimp only at hx;subst hx;simp [J4,ZH] at hn;rw [Yac];exact hn.2.symm
def ZlH (K:MK) (code:List Ins) (sh:List (Option Shp)) (q:Nat×Bool) (w:World):Prop:=
 ∃ sv pv st sp at_ er, Mch K w sv pv st sp at_ er q.2/\
   (q.2=false->er=0/\at_=(q.1:Int)/\q.1<code.length/\sp.length<=q.1/\(∃ s,sh.getD q.1 none=some s/\JN s st)/\∃ f,code.length<=f+q.1/\Z4K (Ze K.c K.kn) K.ev code f q.1 st sp=J7 (Ze K.c K.kn) K.ev code)/\
   (q.2=true->(er=0/\∃ x,st=[x]/\J7 (Ze K.c K.kn) K.ev code=(x,sp,0))\/(er≠0/\J7 (Ze K.c K.kn) K.ev code=(0,[],er)))
theorem ZlH.step {K:MK} {code:List Ins} {sh:List (Option Shp)} {i:Nat} {x:Ins} {s nx:Shp} {st:List Int} {sp:List Spn} {w} {sv pv:Value} {f:Nat} (hK:KOk K) (hi:i<code.length) (hx:code.getD i ⟨0,0⟩=x) (ak:sh.length=code.length)
 (hg:Zb4 code sh i s nx) (fG:∀ s,some s∈sh->s.length<=16) (ax:JN s st) (db:sp.length<=i) (hf:code.length<=f+i) (hr:Z4K (Ze K.c K.kn) K.ev code f i st sp=J7 (Ze K.c K.kn) K.ev code)
 (h:JZ K w x st sp sv pv ((i+1:Nat):Int)):∃ q:Nat×Bool,ZlH K code sh q w/\(if q.2=true then 0 else code.length+1 - q.1)<code.length+1 - i:=by
 obtain ⟨f,rfl⟩:∃ f',f=f'+1:=⟨f - 1,by omega⟩
 rw [Z4K] at hr;rw [hx] at hr;have hn:=hg.next;rw [hx] at hn;unfold JZ at h;by_cases bT:x.op=24;rw [if_pos bT] at h hr;obtain ⟨bB,aX⟩:=hg.stop (by rw [hx];exact bT);have fV:st.length=1:=by rw [<- ax.1];exact aX
 obtain ⟨a,rfl⟩:=List.length_eq_one_iff.1 fV;refine ⟨(i,true),⟨sv,pv,[a],sp,_,0,h,(λhq=>by cases hq),λ_=>.inl ⟨rfl,a,rfl,?_⟩⟩,by simp;omega⟩;rw [<- hr];rfl;rw [if_neg bT] at h hr;by_cases bJ:x.op=13;rw [if_pos bJ] at h hr;obtain ⟨j1,j2,j3⟩:=hg.jump (.inl (by rw [hx];exact bJ));rw [hx] at j1 j2 j3;have aQ:=ZcK bJ hn;subst aQ;refine ⟨(x.n.toNat,false),⟨sv,pv,st,sp,_,0,h,λ_=>⟨rfl,by omega,by omega,by dsimp only;omega,⟨_,j3,ax⟩,f,by dsimp only;omega,hr⟩,λhq=>by cases hq⟩,by simp;omega⟩;rw [if_neg bJ] at h hr;by_cases cw:x.op=14;rw [if_pos cw] at h hr;obtain ⟨j1,j2,j3⟩:=hg.jump (.inr (by rw [hx];exact cw));obtain ⟨o1,o2⟩:=hg.on (by rw [hx];exact bT) (by rw [hx];exact bJ);rw [hx] at j1 j2 j3;have aQ:=ZcL cw hn;have eh:JN nx st.dropLast:=by
  rw [aQ,Yac,Yac,<- ax.1];exact ax.take _
 obtain ⟨sv',h⟩:=h;by_cases hb:ZW st 0=0;rw [if_pos hb] at h hr;exact ⟨(x.n.toNat,false),⟨sv',pv,st.dropLast,sp,_,0,h,λ_=>⟨rfl,by omega,by omega,by dsimp only;omega,⟨_,j3,eh⟩,f,by dsimp only;omega,hr⟩,λhq=>by cases hq⟩,by simp;omega⟩;rw [if_neg hb] at h hr;exact ⟨(i+1,false),⟨sv',pv,st.dropLast,sp,_,0,h,λ_=>⟨rfl,rfl,by omega,by dsimp only;omega,⟨_,o2,eh⟩,f,by dsimp only;omega,hr⟩,λhq=>by cases hq⟩,by simp;omega⟩;rw [if_neg cw] at h hr;obtain ⟨o1,o2⟩:=hg.on (by rw [hx];exact bT) (by rw [hx];exact bJ);obtain ⟨sv',pv',st',sp',hM,aL⟩:=h;by_cases he:(JC (Ze K.c K.kn) K.ev x (ZW st 1) (ZW st 0)).2=0
 . rw [if_pos he] at hr
   obtain ⟨e1,e2⟩:=aL he;subst e1 e2;rw [he] at hM;have au:(Jk x.op (ZW st 1) (ZW st 0) (JC (Ze K.c K.kn) K.ev x (ZW st 1) (ZW st 0)).1).length<=1:=by
    unfold Jk;repeat' split
    all_goals simp
   refine ⟨(i+1,false),⟨sv',pv',_,_,_,0,hM,λ_=>⟨rfl,rfl,by omega,by dsimp only;rw [Xa];omega,⟨_,o2,Z6S hK.ev hn bT bJ cw ax he⟩,f,by dsimp only;omega,hr⟩,λhq=>by cases hq⟩,by simp;omega⟩
 rw [if_neg he] at hr;have hd:decide (¬ (JC (Ze K.c K.kn) K.ev x (ZW st 1) (ZW st 0)).2=0)=true:=decide_eq_true he;rw [hd] at hM;exact ⟨(i,true),⟨sv',pv',_,_,_,_,hM,(λhq=>by cases hq),λ_=>.inr ⟨he,hr.symm⟩⟩,by simp;omega⟩
theorem Zb6 (v:Value) (code:List Ins) (t kn:Int) (ev:List Int) (c:Cal) (hv cv zo zs hr:Value) (w) (hs:SlV [] w v code) (kg:Z35 code=(t,0)) (cI:Z1y w c hv cv zo zs hr) (bF:ZaB ev) (ho:zo.oneCell'=true/\zs.oneCell'=true/\hr.oneCell'=true) :
 CC 30 #[v,Ziq ev,Z20 c hv cv zo zs hr,.I kn] w λr w'=>∃ pv,r=.tuple #[.I (J7 (Ze c kn) ev code).1,pv,.I (J7 (Ze c kn) ev code).2.2]/\Zk 94 w w' pv (J7 (Ze c kn) ev code).2.1:=by
 obtain ⟨cn,mH,sh,ak,aL,fG,gK,kh,bW⟩:=Z4X kg;refine cW4 63 Tryz.func30 ?_;refine W ?_;refine Z0 (Zp rfl) rfl ?_;rintro _ w1 ⟨b5,rfl,jU,k5,hS⟩;replace k5:Blk w1 b5 83 (evC ev):=k5;refine Z0 (Zp rfl) rfl ?_;rintro _ w2 ⟨b6,rfl,dS,k6,aj⟩;replace k6:Blk w2 b6 35 (Ji c hv cv zo zs hr):=k6;replace k5:=k5.up aj;replace hS:=hS.trans aj;refine W ?_;refine Z0 Z4 rfl ?_;rintro _ w3 ⟨bs,rfl,dw,ks,aF⟩;replace k5:=k5.up aF;replace k6:=k6.up aF;have uT:w.heap.size<=bs:=Xh hS.size dw;replace hS:=hS.trans aF;refine W ?_;refine Z5 (vs:=[(0,Ziq ev),(1,Z20 c hv cv zo zs hr),(2,.I kn),(7,.func (.func 67) #[] #[pQ bs])]) rfl (ZlG ev c hv cv zo zs hr kn _) rfl ?_;refine Z0 (Zp rfl) rfl ?_;rintro _ w4 ⟨bm,rfl,jO,km,aU⟩;replace km:Blk w4 bm 147 (evC ev++Ji c hv cv zo zs hr++[.I kn,.N,.I 0,.I 0,.B false,.func (.func 67) #[] #[pQ bs]]):=km;have uU:w.heap.size<=bm:=Xh hS.size jO;have pK:bm≠bs:=by have:=ks.lt;omega
 replace ks:=ks.up aU;replace hS:=hS.trans aU;clear k5 k6 aj aF aU;refine W ?_;refine CL (Zff _) ?_;rintro _ w5 ⟨m,rfl,hm,aw,aD⟩;obtain ⟨K,e1,e2,hk,e4,e5,e6,e7,e8,e9,e10,e11,e12⟩:∃ K:MK,K.w0=w5/\K.bm=bm/\K.nk=some bs/\K.ev=ev/\K.c=c/\K.kn=kn/\K.hv=hv/\K.cv=cv/\K.zo=zo/\K.zs=zs/\K.hr=hr/\K.pr=[]:=⟨⟨w5,bm,some bs,ev,c,kn,hv,cv,zo,zs,hr,[]⟩,rfl,rfl,rfl,rfl,rfl,rfl,rfl,rfl,rfl,rfl,rfl,rfl⟩
 subst e1 e2 e4 e5 e6 e7 e8 e9 e10 e11;have ii:=hS.trans aD;have own_ge:∀ b∈K.own,w.heap.size<=b:=λb hb=>by simp [MK.own,hk] at hb;omega
 have lg:m∉K.own:=λhb=>by
  have:=km.lt;have:=ks.lt;simp [MK.own,hk] at hb;omega
 have pL:=cI.up ii;have g1:1<w.heap.size:=by have:=block_lt_of_cell (cI.len 0 0 rfl);simpa using this
 have g2:2<w.heap.size:=by have:=block_lt_of_cell (cI.mov 0 0 rfl);simpa using this
 have hK:KOk K:=
  { hols := cI.hols.ext ii (by simp) (λb hb => .inr (own_ge b hb))
    clos:=cI.clos.ext ii (by simp) (λb hb=>.inr (own_ge b hb))
    ozo:=ho.1,ozs:=ho.2.1,ohr:=ho.2.2
    len:=pL.len,mov:=pL.mov
    bml:=(km.up aD).lt
    nkl:=λb hb=>by rw [hk] at hb;cases hb;exact ⟨(ks.up aD).lt,λh=>pK h.symm⟩
    gl:=λb hb=>by have:=own_ge b hb;omega
    cal:=cI.ok
    ev:=bF,nks:=by rw [hk];simp }
 have hM:Mch K K.w0 (.N) (.N) [] [] 0 0 false:=
  { blk := by unfold Z4L; rw [hk]; exact km.up aD
    row:=Row.nil
    nt:=λb hb=>by rw [hk] at hb;cases hb;exact ⟨ks.up aD,Row.nil⟩
    nt0:=λ_=>rfl
    ap:=by simp [ob]
    stp:=Stp.refl _ _
    prot:=λp hp=>by rw [e12] at hp;cases hp }
 have bQ:SlV K.own K.w0 v code:=hs.ext ii (by simp) (λb hb=>.inr (own_ge b hb));clear hs km ks pL;refine W ?_
 refine Zm (σ:=Nat×Bool) (λ_=>[(0,v),(11,pQ bs),(13,mP K),(14,.map (some m))])
  (λq w'=>ZlH K code sh q w') (λq=>if q.2=true then 0 else code.length+1 - q.1) (0,false) ⟨rfl,rfl,rfl,rfl,trivial⟩ ⟨_,_,[],[],0,0,hM,λ_=>⟨rfl,rfl,cn,Xl _,⟨[],gK,JN.nil⟩,code.length,Xl _,rfl⟩,λh=>by cases h⟩ ?_
 clear hM;rintro ⟨i,dn⟩ w6 ⟨sv,pv,st,sp,at_,er,hM,bj,hdone⟩;dsimp only at hM bj hdone ⊢;have ab:=hM.blk;unfold Z4L at ab;cases dn with
 | false=>
   obtain ⟨rfl,rfl,hi,db,⟨s,dB,ax⟩,f,hf,hr⟩:=bj rfl;obtain ⟨s',nx,hg⟩:=bW i hi;have ij:s'=s:=by have:=hg.at_;rw [dB] at this;exact (XU this).symm
   subst ij;have au:=bQ.ext (X':=[]) hM.stp (λb hb=>hb) (by simp);have hx:code.getD i ⟨0,0⟩=code[i]:=by simp [List.getD,hi]
   have hn:=hg.next;rw [hx] at hn;have mI:s'.length<=16:=fG _ (by
    have cR:i<sh.length:=by omega
    rw [XA,XR cR] at dB;simp only [YaC] at dB;rw [<- dB];exact Xb cR)
   refine W ?_;refine Z0 Z4 rfl ?_;rintro _ w7 ⟨b15,rfl,pM,e15,aW⟩;have jG:=ab.lt;refine W ?_;refine SA (us:=Z2.enc code[i]) e15 ?_;rintro _ w8 ⟨hT,k15⟩;replace aW:=aW.ow hT;clear e15 hT;replace hM:=hM.up aW;replace ab:=ab.up aW;refine W ?_;refine Z8 (Zb (u:=.I ((i:Int)+1)) rfl rfl rfl rfl ab (by simp [evC,Ji])) ?_;rintro _ w9 ⟨fU,mJ⟩;replace hM:=hM.put hK (at':=((i+1:Nat):Int)) (er':=0) (dn':=false) fU mJ;replace k15:=k15.ext fU (by simp;omega);have uV:=aw.ext hM.stp lg;refine W ?_;refine Z9 (Z5n rfl rfl uV) rfl ?_;refine W ?_;refine Z0 (ZlF hK hM hn ax (by rw [<- ax.1];omega) (by omega) rfl rfl rfl) rfl ?_;rintro _ w10 ⟨rfl,az⟩;obtain ⟨q,hq,hlt⟩:=ZlH.step hK hi hx ak hg fG ax db hf hr az;refine W ?_;exact QL q hq (by simpa using hlt)
 | true=>
   have fin:∀ w' pv',Stp K.own K.w0 w'->Row [] w' K.w0.heap.size 94 pv' (J7 (Ze K.c K.kn) K.ev code).2.1->Zk 94 w w' pv' (J7 (Ze K.c K.kn) K.ev code).2.1:=λw' pv' h1 h2=>
    ⟨h2.lower ii.size,ii.own h1 (λb hb=>.inr (own_ge b hb))⟩
   rcases hdone rfl with ⟨rfl,x,rfl,hR⟩|⟨he,hR⟩
   obtain ⟨ks,ac⟩:=hM.nt bs hk;refine W ?_;refine ZDr 6 ([K.bm]) [] [(0,0),(2,1),(1,2),(3,0),(4,0),(5,0)] (λw1 ae=>?_);replace hM:=hM.up ae;replace ks:=ks.up ae;replace ac:=ac.up ae;refine D ?_;refine DC (ZaX (st:=[]) hK hM) (λ_ _ h=>h.2.2) ?_;rintro _ w7 ⟨rfl,⟨sv',rR⟩,aW⟩;obtain ⟨ks7,gI⟩:=rR.nt bs hk;refine D ?_;refine W ?_;refine WR ?_;refine .mk ⟨pv,by rw [hR],fin _ _ rR.stp ?_⟩;rw [hR];exact gI;refine QO ?_;refine ZDr 7 [] [] [(0,0),(1,0),(2,0),(3,1),(4,0),(5,0),(6,0)] (λw1 ae=>?_);replace hM:=hM.up ae;replace ab:=ab.up ae;refine D ?_;refine W ?_;refine WR ?_;refine .mk ⟨.N,by rw [hR],fin _ _ hM.stp ?_⟩;rw [hR];exact Row.nil
end Go.Proofs.YtgdicjnjhchooaaGreatDoor
