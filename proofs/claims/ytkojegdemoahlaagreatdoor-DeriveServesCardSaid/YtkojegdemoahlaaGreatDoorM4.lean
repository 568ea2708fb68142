/-
Contracts and plain laws, merged out of own texts.
-/
import Derived.Test.YtkojegdemoahlaaGreatDoorM3
import Derived.RangeFuncBox
import Derived.RangeFuncLeaves
import Derived.RangeFuncNested
import Derived.RangeFuncBound
import Derived.RangeFuncCalls
import Derived.Shelf.Abstract
import Derived.Shelf.RegionOpen
import Derived.BigRegionIn
import Derived.WalkKit
import Derived.OwnWalkIn
import Derived.TacticsInMore
import Derived.LoopNIn
import Derived.LoopIn
set_option linter.unusedVariables false
set_option linter.unusedSimpArgs false
set_option maxHeartbeats 4000000
set_option maxRecDepth 20000
namespace Go.Eng
open Go Go.RowKit Go.Proofs
variable {P:Program} {n:Nat} {e:Env} {w:World} {d:Option Nat} {ty:TypeId} {pos:String} {af:Array Edge} {g:Option (Nat×Bool)}
theorem Z4g {t el len k:Nat} {x hi:Operand} {b r:Nat} {z:Int} [hu:Und P t (.array len el)] [hk:Siz P el k] (hx:ev e x=some (pQ b)) (hz:ev e hi=some (.I z)) (qM:z=(r:Int)) (hr:r<=len) :
 PR P n ⟨d,.slice t x none (some hi) none,ty,pos,af,g⟩ e w (.slice (some ⟨b,0,none⟩) r len):=
 ⟨λa ha => by
   subst qM;simp [execOp,ha.ev hx,ha.ev hz,Instr.sliceAt,Instr.sureAddr,run_underlying hu.h,Instr.sliceBounds,Instr.sliceBound,asIntOf,Siz.run,Addr.add,show r<=len by omega]⟩
theorem Zar {X:List Nat} {w} {b T len n:Nat} {cs:List Value} {xs:List Int} (hn:xs.length=n) (hb:Blk w b T cs) (hX:b∉X) (hl:cs.length=len) (hm:len<=maxLen) (hx:xs.length<=len) (hc:∀ i (h:i<xs.length),cs[i]?=some (.I xs[i])):SlV X w (.slice (some ⟨b,0,none⟩) n len) xs:=by
 subst hn;refine ⟨some ⟨b,0,none⟩,len,rfl,hx,hm,λh=>by simp at h,λi hi=>⟨b,0,[.I xs[i]],rfl,hb.lt,hX,rfl,λj u hu=>?_⟩⟩;have hj:j=0:=by
  have:=(Xn.1 hu).1;simp at this;exact this
 subst hj;simp at hu;subst hu;refine hb.cell ?_;simpa [Z1.k,Z2.k] using hc i hi
end Go.Eng
namespace Go.Proofs.YtkojegdemoahlaaGreatDoor
open Go Go.Eng Go.RowKit
def Z28 (r:Rtn) (day:Int):Bool:=if r.kind=1 then decide (day<r.lo\/r.hi<day) else if r.kind=2 then decide (0<=day/\day<=r.hi) else decide (0<=day)
theorem Zbm (r:Rtn) (day:Int) (w):CC 231 #[aG r,.I day] w λv w'=>v=.B (Z28 r day)/\Stp [] w w':=by
 unfold Z28;refine cW2 31 Tryz.func231 ?_;refine W ?_;refine BX (Stp.refl [] w) λb2 w1 h2 e2 _ hS=>?_;replace e2:Blk w1 b2 62 (Z2.enc r):=e2;simp only [Z2.enc] at e2;by_cases h1:r.kind=1
 . rw [if_pos h1]
   (refine QP ?_ ?_<;>intro hg)
   all_goals
    refine RU ?_;exact ⟨by congr 1;first|(rw [decide_eq_true (by omega)];done)|(symm;rw [decide_eq_decide];constructor<;>intro _<;>omega)|(symm;exact decide_eq_true (by omega))|(symm;exact decide_eq_false (by omega)),hS⟩
 rw [if_neg h1];by_cases h2:r.kind=2
 . rw [if_pos h2]
   (refine QP ?_ ?_<;>intro hg)
   all_goals
    refine RU ?_;exact ⟨by congr 1;first|(symm;rw [decide_eq_decide];constructor<;>intro _<;>omega)|(symm;exact decide_eq_true (by omega))|(symm;exact decide_eq_false (by omega)),hS⟩
 rw [if_neg h2];refine RT ?_;exact ⟨rfl,hS⟩
theorem Ze5 (v:Value) (l:List Int) (x:Int) (w) (hs:SlV [] w v l):CC 232 #[v,.I x] w λr w'=>(∃ z:Int,r=.I z/\((z=-1/\x∉l)\/∃ (k:Nat) (h:k<l.length),z=k/\l[k]=x/\∀ j (h:j<l.length),j<k->l[j]≠x))/\Stp [] w w':=by
 have bg:=hs.max;refine cW2 19 Tryz.func232 ?_;refine W ?_;refine LP (σ:=Nat) (λk=>[(0,v),(1,.I x),(6,v),(7,.I l.length),(8,.I k)]) (λk w'=>k<=l.length/\Stp [] w w'/\∀ j (h:j<l.length),j<k->l[j]≠x) (λk=>l.length - k) 0 ⟨by omega,Stp.refl _ _,by omega⟩ ?_;rintro k w2 ⟨hk,hT,hz⟩;have bu:=hs.up hT;by_cases ah:k<l.length
 (refine QP ?_ ?_<;>intro hc)
 refine RU ?_;exact ⟨⟨_,rfl,.inr ⟨k,ah,rfl,hc.symm,hz⟩⟩,hT⟩;exact QL (k+1) ⟨ah,hT,λj h hj=>by
  by_cases e:j=k;subst e;exact λh=>hc h.symm;exact hz j h (by omega)⟩ (by omega)
 refine RT ?_;exact ⟨⟨_,rfl,.inl ⟨rfl,λh=>by
  obtain ⟨j,hj,e⟩:=Xq h;exact hz j hj (by omega) e⟩⟩,hT⟩
def Z2V (c:Int):List (Int×Int)->List (Int×Int)
 | []=>[(c,1)]
 | p :: l=>if p.1=c then (c,p.2+1) :: l else p :: Z2V c l
def Z3m (day:Int) (st:List (Int×Int)) (r:Rtn):List (Int×Int):=if Z28 r day=true then Z2V r.crr st else st
def Z0q (l:List Rtn) (day:Int):List (Int×Int):=l.foldl (Z3m day) []
def Z4r (crrs:List Crr) (p:Int×Int):Int:=max 0 (p.2 - (crrs.getD p.1.toNat ⟨0,0⟩).tol)
def Jz (l:List Rtn) (crrs:List Crr) (day:Int):Int:=((Z0q l day).map (Z4r crrs)).sum
theorem Z89 (c:Int):∀ (st:List (Int×Int)),c∉st.map (·.1)->Z2V c st=st++[(c,1)]
 | [],_=>rfl
 | p :: l, h => by
   simp only [XQ,Xd,not_or] at h;rw [Z2V,if_neg (λe=>h.1 e.symm),Z89 c l h.2];rfl
theorem Z8a (c:Int):∀ (st:List (Int×Int)) (k:Nat) (hk:k<st.length),st[k].1=c->(∀ j (h:j<st.length),j<k->st[j].1≠c)->Z2V c st=st.set k (c,st[k].2+1)
 | p :: l, 0, hk, h, _ => by
   simp only [List.getElem_cons_zero] at h;rw [Z2V,if_pos h];rfl
 | p :: l, k + 1, hk, h, hz => by
   have h0:=hz 0 (by simp) (by omega);simp only [List.getElem_cons_zero] at h0;rw [Z2V,if_neg h0,Z8a c l k (by simpa using hk) (by simpa using h) (λj hj gj=>by
    have h2:=hz (j+1) (by simpa using hj) (by omega)
    rwa [List.getElem_cons_succ] at h2)]
   simp
theorem Ze6 (c:Int) (st:List (Int×Int)):(Z2V c st).length<=st.length+1:=by
 induction st with
 | nil=>simp [Z2V]
 | cons p l ih=>
   rw [Z2V];split<;>simp<;>omega
theorem Z3U (l:List Rtn) (day:Int) (k:Nat) (h:k<l.length):Z0q (l.take (k+1)) day=Z3m day (Z0q (l.take k) day) l[k]:=by
 unfold Z0q;rw [Xf h,Ya6];rfl
theorem Z8b (l:List Rtn) (day:Int) (k:Nat) (h:k<=l.length):(Z0q (l.take k) day).length<=k:=by
 induction k with
 | zero=>simp [Z0q]
 | succ k ih=>
   rw [Z3U l day k (by omega),Z3m];have:=ih (by omega);split;have:=Ze6 l[k].crr (Z0q (l.take k) day);omega;omega
def arX (f:Int×Int->Int) (st:List (Int×Int)):List Value:=st.map (λp=>.I (f p))++List.replicate (32 - st.length) (.I 0)
theorem Z3n (f:Int×Int->Int) {st:List (Int×Int)} (h:st.length<=32):(arX f st).length=32:=by simp [arX];omega
theorem Z3o (f:Int×Int->Int) {st:List (Int×Int)} {k:Nat} (h:k<st.length):(arX f st)[k]?=some (.I (f st[k])):=by
 rw [arX,Yae (by simpa using h)];simp [h]
theorem Zhq (f:Int×Int->Int) {st:List (Int×Int)} (h:st.length<32):(arX f st)[st.length]?=some (.I 0):=by
 rw [arX,Yaz (by simp)];simp [List.getElem?_replicate];omega
theorem Zas (f:Int×Int->Int) {st:List (Int×Int)} (p:Int×Int) (h:st.length<32):(arX f st).set st.length (.I (f p))=arX f (st++[p]):=by
 unfold arX;rw [List.set_append_right _ _ (by simp)];obtain ⟨m,hm⟩:∃ m,32 - st.length=m+1:=⟨31 - st.length,by omega⟩
 rw [hm];simp only [XI,Nat.sub_self,Ybe,List.set_cons_zero,XL,XQ,Yaj,XA,X9,XM,Xe,Ybt];rw [show 32 - (st.length+1)=m by omega]
theorem Zat (f:Int×Int->Int) {st:List (Int×Int)} {k:Nat} (p:Int×Int) (h:k<st.length):(arX f st).set k (.I (f p))=arX f (st.set k p):=by
 unfold arX;rw [List.set_append_left _ _ (by simpa using h),Yac,YbN]
theorem Zau {c:Int} {m:Int} {p:Int×Int}:∀ {st:List (Int×Int)},(∀ q∈st,0<=q.2/\q.2<=m)->0<=m->p∈Z2V c st->(p.1=c\/p.1∈st.map (·.1))/\0<=p.2/\p.2<=m+1
 | [], _, hm, h => by
   simp only [Z2V,Xw] at h;subst h;exact ⟨.inl rfl,by dsimp only;omega,by dsimp only;omega⟩
 | q :: l, hq, hm, h => by
   have h0:=hq q (by simp);rw [Z2V] at h;split at h;rcases Xd.1 h with rfl|h
   exact ⟨.inl rfl,by dsimp only;omega,by dsimp only;omega⟩;have:=hq p (by simp [h]);exact ⟨.inr (XE.2 ⟨p,by simp [h],rfl⟩),by omega,by omega⟩;rcases Xd.1 h with rfl|h
   exact ⟨.inr (by simp),by omega,by omega⟩;obtain ⟨a,b⟩:=Zau (λx hx=>hq x (by simp [hx])) hm h;exact ⟨a.imp id (λh=>by simp [h]),b⟩
theorem Z6Y {l:List Rtn} {day:Int} {N:Int} (hr:∀ r∈l,0<=r.crr/\r.crr<N):∀ k,k<=l.length->∀ p∈Z0q (l.take k) day,(0<=p.1/\p.1<N)/\0<=p.2/\p.2<=k
 | 0,_,p,hp=>by simp [Z0q] at hp
 | k + 1, hk, p, hp => by
   have ih:=Z6Y (day:=day) hr k (by omega);rw [Z3U l day k (by omega),Z3m] at hp;split at hp;obtain ⟨a,b,c⟩:=Zau (m:=k) (λq hq=>(ih q hq).2) (by omega) hp;refine ⟨?_,b,by omega⟩;rcases a with a|a
   rw [a];exact hr _ (Xc _);obtain ⟨q,hq,e⟩:=XE.1 a;rw [<- e];exact (ih q hq).1;have:=ih p hp;exact ⟨this.1,this.2.1,by omega⟩
theorem Z57 (lv cv:Value) (l:List Rtn) (crrs:List Crr) (day:Int) (w) (hl:SlV [] w lv l) (hc:SlV [] w cv crrs) (mo:l.length<=32) (hr:∀ r∈l,0<=r.crr/\r.crr<crrs.length) (ht:∀ c∈crrs,0<=c.tol/\c.tol<=1000) :
 CC 185 #[lv,cv,.I day] w λv w'=>v=.I (Jz l crrs day)/\Stp [] w w':=by
 refine cW3 68 Tryz.func185 ?_;refine W ?_;refine Z0 Z4 rfl ?_;rintro _ w1 ⟨b7,rfl,qN,e7,hS⟩;refine W ?_;refine Z0 Z4 rfl ?_;rintro _ w2 ⟨b8,rfl,d5,e8,hT⟩;have l7:=e7.lt;replace e7:=e7.up hT;have n78:b7≠b8:=by omega
 have g8:w.heap.size<=b8:=Xl hS.size d5;replace hS:=hS.trans hT;replace e7:Blk w2 b7 321 (arX (·.2) (Z0q (l.take 0) day)):=e7;replace e8:Blk w2 b8 321 (arX (·.1) (Z0q (l.take 0) day)):=e8;clear hT;refine W ?_;refine Z2h (σ:=Unit) (λ_=>[(1,cv),(7,pQ b7),(8,pQ b8),(9,.I (Z0q l day).length)]) (λ_ w'=>Stp [] w w'/\Blk w' b7 321 (arX (·.2) (Z0q l day))/\Blk w' b8 321 (arX (·.1) (Z0q l day))) ?_ ?_;refine LP (σ:=Nat) (λk=>[(1,cv),(2,.I day),(7,pQ b7),(8,pQ b8),(9,.I (Z0q (l.take k) day).length),(16,lv),(17,.I l.length),(18,.I k)]) (λk w'=>k<=l.length/\Stp [] w w'/\Blk w' b7 321 (arX (·.2) (Z0q (l.take k) day))/\Blk w' b8 321 (arX (·.1) (Z0q (l.take k) day))) (λk=>l.length - k) 0 ⟨by omega,hS,e7,e8⟩ ?_;clear e7 e8 hS;rintro k w3 ⟨hk,hS,e7,e8⟩;by_cases ah:k<l.length;have dP:=hl.up hS;have hstep:=Z3U l day k ah;have kM:=Z8b l day k hk;have aY:=Z6Y (day:=day) hr k hk;generalize Z0q (l.take k) day=st at *;refine QO ?_;refine Z0 Z4 rfl ?_;rintro _ w4 ⟨b11,rfl,mj,e11,hT⟩;refine SA (us:=Z2.enc l[k]) e11 ?_;rintro _ w5 ⟨aK,e11⟩;replace hT:=hT.ow aK;replace hS:=hS.trans hT;replace e7:=e7.up hT;replace e8:=e8.up hT;clear hT aK dP;refine W ?_;refine CP hS (Zbm l[k] day _) λw6 hT hS=>?_;replace e7:=e7.up hT;replace e8:=e8.up hT;replace e11:=e11.up hT;clear hT;rw [Z3m] at hstep;cases hw:Z28 l[k] day;rw [hw,if_neg (by simp)] at hstep;refine QO ?_;exact J3 (k+1) ⟨rfl,rfl,rfl,rfl,by rw [hstep];rfl,rfl,rfl,rfl,trivial⟩ ⟨ah,hS,by rw [hstep];exact e7,by rw [hstep];exact e8⟩ (by omega);rw [hw,if_pos rfl] at hstep;refine QO ?_;refine ZDr 6 [] [] [(0,0),(1,0),(2,0),(3,1),(4,2),(5,0)] (λw1 ae=>?_);replace e7:=e7.up ae;replace e8:=e8.up ae;replace e11:=e11.up ae;replace hS:=hS.trans ae;clear ae;refine D ?_;refine Zg rfl trivial (λ_=>Z4g (r:=st.length) rfl rfl rfl (by omega)) rfl ?_;refine D ?_;have be:SlV [] w1 (.slice (some ⟨b8,0,none⟩) st.length 32) (st.map (·.1)):=Zar (by simp) e8 (by simp) (Z3n _ (by omega)) (by decide) (by simp;omega) (λi h=>by
  have:=Z3o (·.1) (st:=st) (k:=i) (by simpa using h);simpa using this)
 refine DC (Ze5 _ _ l[k].crr _ be) (λ_ _ h=>h.2) ?_;rintro _ w7 ⟨⟨z,rfl,hz⟩,hT⟩;replace e7:=e7.up hT;replace e8:=e8.up hT;replace e11:=e11.up hT;replace hS:=hS.trans hT;clear hT be;have own:∀ b,b=b7\/b=b8->∀ c∈[b],c∈([]:List Nat)\/w.heap.size<=c:=λb hb c hc=>.inr (by simp at hc;omega)
 rcases hz with ⟨rfl,hn⟩|⟨j,hj,rfl,fa,qO⟩
 rw [Z89 _ _ hn] at hstep;have h0:=Zhq (·.2) (st:=st) (by omega);refine D ?_;refine QO ?_;refine Z5 (Zj (o:=0+st.length * 1) (u:=.I l[k].crr) rfl rfl rfl rfl e8 (by rw [Z3n _ (by omega)];omega)) ?_;rintro _ w8 ⟨hT,e8⟩;replace e7:=e7.ext hT (by simpa using n78);replace hS:=hS.own hT (own _ (.inr rfl));rw [XO,YaW,Zas (·.1) (l[k].crr,1) (by omega)] at e8;refine QO ?_;refine Z7 (J4 rfl rfl e7 (by rw [XO,YaW];exact h0)) rfl ?_;refine QO ?_;refine Z5 (Zj (o:=0+st.length * 1) (u:=.I (0+1)) rfl rfl rfl rfl e7 (by rw [Z3n _ (by omega)];omega)) ?_;rintro _ w9 ⟨hT,e7⟩;replace e8:=e8.ext hT (by simpa using n78.symm);replace hS:=hS.own hT (own _ (.inl rfl));rw [XO,YaW] at e7;replace e7:Blk w9 b7 321 (arX (·.2) (st++[(l[k].crr,1)])):=by rw [<- Zas (·.2) (l[k].crr,1) (by omega)];exact e7
 refine QO ?_;exact J3 (k+1) ⟨rfl,rfl,rfl,rfl,by rw [hstep,Xe];rfl,rfl,rfl,rfl,trivial⟩ ⟨ah,hS,by rw [hstep];exact e7,by rw [hstep];exact e8⟩ (by omega);rw [XI] at hj;have jN:st[j].1=l[k].crr:=by simpa using fa
 rw [Z8a _ _ j hj jN (λi h hi=>by have:=qO i (by simpa using h) hi;simpa using this)] at hstep;have h0:=Z3o (·.2) (st:=st) hj;have tf:=(aY _ (Xc hj)).2;refine D ?_;refine QO ?_;refine Z7 (J4 rfl rfl e7 (by rw [XO,YaW];exact h0)) rfl ?_;refine QO ?_;refine Z5 (Zj (o:=0+j * 1) (u:=.I (st[j].2+1)) rfl rfl rfl rfl e7 (by rw [Z3n _ (by omega)];omega)) ?_;rintro _ w9 ⟨hT,e7⟩;replace e8:=e8.ext hT (by simpa using n78.symm);replace hS:=hS.own hT (own _ (.inl rfl));rw [XO,YaW] at e7;replace e7:Blk w9 b7 321 (arX (·.2) (st.set j (l[k].crr,st[j].2+1))):=by rw [<- Zat (·.2) (l[k].crr,st[j].2+1) hj];exact e7
 have e8':Blk w9 b8 321 (arX (·.1) (st.set j (l[k].crr,st[j].2+1))):=by
  rw [<- Zat (·.1) (l[k].crr,st[j].2+1) hj];have h1:=Z3o (·.1) (st:=st) hj;rw [jN] at h1;obtain ⟨hh,h2⟩:=Xn.1 h1;have:(arX (·.1) st).set j (.I l[k].crr)=arX (·.1) st:=by rw [<- h2];exact Ya5 hh
  rw [this];exact e8
 refine QO ?_;exact J3 (k+1) ⟨rfl,rfl,rfl,rfl,by rw [hstep,Yac];rfl,rfl,rfl,rfl,trivial⟩ ⟨ah,hS,by rw [hstep];exact e7,by rw [hstep];exact e8'⟩ (by omega);obtain rfl:k=l.length:=by omega
 rw [Xs] at e7 e8;have dP:=hl.up hS;refine QO ?_;exact Zt () ⟨rfl,rfl,rfl,by simp only [Xs];rfl,trivial⟩ ⟨hS,e7,e8⟩;clear e7 e8 hS;rintro _ w3 ⟨hS,e7,e8⟩;have kM:=Z8b l day l.length (Xm _);have aY:=Z6Y (day:=day) hr l.length (Xm _);rw [Xs] at kM aY;unfold Jz;generalize Z0q l day=st at *;have be:SlV [] w3 (.slice (some ⟨b8,0,none⟩) st.length 32) (st.map (·.1)):=Zar (by simp) e8 (by simp) (Z3n _ (by omega)) (by decide) (by simp;omega) (λi h=>by
  have:=Z3o (·.1) (st:=st) (k:=i) (by simpa using h);simpa using this)
 refine QO ?_;refine Z7 (Z4g (r:=st.length) rfl rfl rfl (by omega)) rfl ?_;refine QO ?_;refine Zr (σ:=Nat) (λk=>[(1,cv),(7,pQ b7),(13,.I ((st.take k).map (Z4r crrs)).sum),(47,.slice (some ⟨b8,0,none⟩) st.length 32),(48,.I st.length),(49,.I k)]) (λk w'=>k<=st.length/\Stp [] w3 w'/\0<=((st.take k).map (Z4r crrs)).sum/\((st.take k).map (Z4r crrs)).sum<=40 * k) (λk=>st.length - k) 0 ⟨rfl,rfl,rfl,rfl,by simp only [XI];rfl,rfl,trivial⟩ ⟨by omega,Stp.refl _ _,by simp,by simp⟩ ?_;rintro k w4 ⟨hk,hT,g1,g2⟩;have e7':=e7.up hT;have qP:=be.up hT;have cg:=hc.up (hS.trans hT);by_cases ah:k<st.length;obtain ⟨⟨a1,a2⟩,a3,a4⟩:=aY _ (Xc ah);have il:((st.take (k+1)).map (Z4r crrs)).sum=((st.take k).map (Z4r crrs)).sum+Z4r crrs st[k]:=by
  rw [Xf ah,XL,List.sum_append];simp
 obtain ⟨j,hj⟩:∃ j:Nat,st[k].1=j:=⟨st[k].1.toNat,by omega⟩
 have dB:j<crrs.length:=by omega
 have tg:=ht _ (Xc dB);have dl:k<(st.map (·.1)).length:=by simpa using ah
 have gZ:(st.map (·.1))[k]=(j:Int):=by simpa using hj
 have h0:=Z3o (·.2) (st:=st) ah;have mq:Z4r crrs st[k]=max 0 (st[k].2 - crrs[j].tol):=by
  unfold Z4r;rw [hj];simp [dB]
 generalize ((st.take k).map (Z4r crrs)).sum=s at *;refine QO ?_;refine ZDr 13 [] [] [(0,0),(1,0),(2,0),(3,1),(4,0),(5,0),(6,0),(7,0),(8,1),(9,0),(10,0),(11,0),(12,0)] (λw1 ae=>?_);replace e7':=e7'.up ae;replace cg:=cg.up ae;replace hT:=hT.trans ae;clear ae;refine D ?_;refine Z7r rfl trivial rfl rfl e7' (by simp) (by rw [XO,YaW];exact h0) rfl ?_;refine D ?_;refine QO ?_;exact J3 (k+1) ⟨rfl,rfl,by rw [il,mq];rfl,rfl,rfl,rfl,trivial⟩ ⟨ah,hT,by rw [il,mq];omega,by rw [il,mq];omega⟩ (by omega);obtain rfl:k=st.length:=by omega
 refine QO ?_;refine WR ?_;rw [Xs];exact .mk ⟨rfl,hS.trans hT⟩
def Z0S (l:List Rtn) (sent:Int):List Int:=Z1I ([sent,3652059]++l.flatMap (λr=>[r.lo,r.hi+1].filter (λd=>decide (sent<d/\d<=3652058))))
def Z3V (l:List Rtn) (sent:Int):List Spn:=((Z0S l sent).zip (Z0S l sent).tail).map (λp=>(p.1,p.2 - 1))
structure AlS where
 least:Int
 never:Bool
 out:List Spn
def Js (l:List Rtn) (crrs:List Crr) (s:AlS) (x:Spn):AlS:=
 let e:=Jz l crrs x.1
 if s.least<e then s else
  let t:AlS:=if e<s.least then ⟨e,false,[]⟩ else s
  match t.out.getLast? with
  | some y=>if y.2=x.1 - 1 then { t with out:=t.out.dropLast++[(y.1,x.2)] } else { t with out:=t.out++[x] }
  | none=>{ t with out:=t.out++[x] }
def Z6Z (l:List Rtn) (crrs:List Crr) (sent:Int):AlS:=(Z3V l sent).foldl (Js l crrs) ⟨Jz l crrs (-1),true,[]⟩
def Z1A (l:List Rtn) (crrs:List Crr) (sent:Int):Int×Bool:=
 let s:=Z6Z l crrs sent
 if s.never=true then (0,false) else match s.out.getLast? with|some y=>(y.2,true)|none=>(0,false)
structure Zhr (l:List Rtn) (crrs:List Crr):Prop where
 len:l.length<=32
 crr:∀ r∈l,0<=r.crr/\r.crr<crrs.length
 tol:∀ c∈crrs,0<=c.tol/\c.tol<=1000
 day:∀ r∈l,0<=r.lo/\r.lo<=3652058/\0<=r.hi/\r.hi<=3652058
theorem Z8c {l:List Rtn} {sent x:Int} (hs:0<=sent/\sent<=3652058) (h:x∈Z0S l sent):sent<=x/\x<=3652059:=by
 have:=((Jp _).2 x).1 h;simp only [Xg,Xd,Xp,or_false,Ybd,X2,decide_eq_true_eq] at this;rcases this with (rfl|rfl)|⟨r,hr,h1,h2⟩<;>omega
theorem Z58 {l:List Rtn} {sent:Int} {s:Spn} (hs:0<=sent/\sent<=3652058) (h:s∈Z3V l sent):sent<=s.1/\s.1<=3652059/\-1<=s.2/\s.2<=3652058:=by
 unfold Z3V at h;obtain ⟨p,hp,rfl⟩:=XE.1 h;have h1:=Z8c hs (List.of_mem_zip hp).1;have h2:=Z8c hs (List.mem_of_mem_tail (List.of_mem_zip hp).2);dsimp only;omega
def inX (sent d:Int):Bool:=decide (sent<d/\d<=3652058)
def Z3W (l:List Rtn) (sent:Int):List Int:=[sent,3652059]++l.flatMap (λr=>[r.lo,r.hi+1].filter (inX sent))
theorem Z59 (l:List Rtn) (sent:Int):(Z3W l sent).length<=2+2 * l.length:=by
 unfold Z3W;rw [Xe]
 induction l with
 | nil=>simp
 | cons r l ih=>
   have h:=XR (inX sent) [r.lo,r.hi+1];simp only [Ybp,Xe,Xo,Xr] at *;omega
theorem Z2s {P:Program} {n:Nat} {e:Env} {w} {d:Option Nat} {ty:TypeId} {pos:String} {af:Array Edge} {g:Option (Nat×Bool)} {x y:Operand} {t:TypeId} {u i v:Value} (hx:ev e x=some u) (hy:ev e y=some i) (hb:∀ w,(Instr.index t u i).run P w=.ok v w):PR P n ⟨d,.index t x y,ty,pos,af,g⟩ e w v:=
 ⟨λa ha=>by simp [execOp,ha.ev hx,ha.ev hy,hb]⟩
theorem Ze7 (a b:Int) (w):(Instr.index 325 (.agg #[.I a,.I b]) (.I ((0:Nat):Int))).run Tryz.prog w=.ok (.I a) w:=by kernel_rfl
theorem Ze8 (a b:Int) (w):(Instr.index 325 (.agg #[.I a,.I b]) (.I ((1:Nat):Int))).run Tryz.prog w=.ok (.I b) w:=by kernel_rfl
theorem Zbn (l:List Rtn) (sent:Int) (k:Nat) (h:k<l.length):Z3W (l.take (k+1)) sent=Z3W (l.take k) sent++[l[k].lo,l[k].hi+1].filter (inX sent):=by
 unfold Z3W;rw [Xf h,Yaw];simp
theorem Ze9 (a b:Int) (w):(Instr.build 123 #[(0,.I a),(1,.I b)]).run Tryz.prog w=.ok (.agg (Z2.enc ((a,b):Spn)).toArray) w:=by kernel_rfl
theorem Zhs (a b:Int) (w):(Instr.buildSlice 22 2 #[(0,.I a),(1,.I b)]).run Tryz.prog w=.ok (.slice (some ⟨w.heap.size,0,none⟩) 2 2) (w.alloc (.cells #[.I a,.I b] 3)):=by kernel_rfl
theorem Zea (a b:Int) (w):(Instr.build 325 #[(0,.I a),(1,.I b)]).run Tryz.prog w=.ok (.agg #[.I a,.I b]) w:=by kernel_rfl
theorem Z70 (l:Nat) (F:List Nat) (w) (bS bL:Nat) (lv:Value) (rets:List Rtn) (sent:Int) (crrs:List Crr) (ho:Zhr rets crrs) (be:0<=sent/\sent<=3652058)
 (eS:Blk w bS 3 [.I sent]) (eL:Blk w bL 58 [lv]) (hl:SlV F w lv rets) (hF:∀ b∈F,b<w.heap.size) (hS:bS∉F) (hL:bL∉F) :
 Zap Tryz.prog 233 #[pQ bS,pQ bL] (λx:Spn=>aG x) (Z3V rets sent) l F w:=by
 intro J ah oM hY h0;have dO:=ho.len;have ia:=hl.max;refine cW3 65 Tryz.func233 ?_;refine W ?_;refine Z0 (Z3 rfl (Zhs _ _)) rfl ?_;intro dv0 w1 hN;have gH:ZE 3 w w1 dv0 [sent,3652059]:=ZE.one hN rfl rfl (by simp [maxLen]);have hN:=Zh.stp hN;have eL1:=eL.up hN;have eS1:=eS.up hN;refine W ?_;have oN:Z3W (rets.take 0) sent=[sent,3652059]:=by simp [Z3W]
 refine LP (σ:=Nat×Value) (λq=>[(0,.func (.yield l) #[] #[]),(1,pQ bS),(2,pQ bL),(4,q.2),(12,lv),(13,.I rets.length),(14,.I q.1)]) (λq w'=>q.1<=rets.length/\ZE 3 w w' q.2 (Z3W (rets.take q.1) sent)) (λq=>rets.length - q.1) (0,dv0) ⟨by omega,by rw [oN];exact gH⟩ ?_;clear gH oN hN eS1 eL1;rintro ⟨k,dv⟩ w2 ⟨hk,hr⟩;dsimp only at hk hr ⊢;by_cases dJ:k<rets.length;obtain ⟨r1,r2,r3,r4⟩:=ho.day _ (Xc dJ);have dL:=Z59 (rets.take k) sent;rw [Xv] at dL;have ax:=Zbn rets sent k dJ;generalize Z3W (rets.take k) sent=pk at *;have cZ:SlV [] w2 lv rets:=hl.ext hr.2 (by simp) (by simp);have eS2:=eS.up hr.2;refine QO ?_;refine Z0 Z4 rfl ?_;rintro _ w3 ⟨b6,rfl,eo,e6,hA⟩;refine SA (us:=Z2.enc rets[k]) e6 ?_;rintro _ w4 ⟨dg,e6⟩;replace hA:=hA.ow dg;replace hr:=hr.up hA;refine QO ?_;refine Z9 (vs:=[(0,.I rets[k].lo),(1,.I (rets[k].hi+1))]) rfl (Zea _ _) rfl ?_;refine QO ?_;generalize th:rets[k].lo=lo at *;generalize ti:rets[k].hi+1=hi at *;have mr:[lo,hi].filter (inX sent)=(if inX sent lo=true then [lo] else [])++(if inX sent hi=true then [hi] else []):=by
  cases h1:inX sent lo<;>cases h2:inX sent hi<;>simp [h1,h2]
 clear e6 hA dg cZ eS2
 refine Zr (σ:=Nat×Value) (λq=>[(0,.func (.yield l) #[] #[]),(1,pQ bS),(2,pQ bL),(4,q.2),(12,lv),(13,.I rets.length),(14,.I k),(23,.agg #[.I lo,.I hi]),(24,.I q.1)])
  (λq w'=>q.1<=2/\ZE 3 w w' q.2 (pk++(if 0<q.1/\inX sent lo=true then [lo] else [])++(if 1<q.1/\inX sent hi=true then [hi] else []))) (λq=>2 - q.1) (0,dv) ⟨rfl,rfl,rfl,rfl,rfl,rfl,rfl,rfl,rfl,trivial⟩ ⟨by omega,by simpa using hr⟩ ?_
 clear hr;rintro ⟨j,dv⟩ w5 ⟨hj,hr⟩;dsimp only at hj hr ⊢;have eS5:=eS.up hr.2;have kP:pk.length<=70:=by omega
 have hz:∀ (p:Prop) [Decidable p] (d:Int),(if p then [d] else []).length<=1:=λp _ d=>by split<;>simp
 obtain rfl|rfl|rfl:j=0\/j=1\/j=2:=by omega
 by_cases aX:sent<lo/\lo<=3652058;refine QO ?_;refine Z7 (Z2s rfl rfl (Ze7 _ _)) rfl ?_;refine QO ?_;refine AP1 lo hr (by simp;omega) λv1 v' w' aV _=>?_
 refine QO ?_;exact QL (1,v') ⟨by dsimp only;omega,by simpa [inX,aX] using aV⟩ (by dsimp only;omega)
 . refine QO ?_
   refine Z7 (Z2s rfl rfl (Ze7 _ _)) rfl ?_;refine QO ?_;all_goals exact QL (1,dv) ⟨by dsimp only;omega,by simpa [inX,aX] using hr⟩ (by dsimp only;omega)
 have gm:=hz (0<1/\inX sent lo=true) lo;by_cases aX:sent<hi/\hi<=3652058;refine QO ?_;refine Z7 (Z2s rfl rfl (Ze8 _ _)) rfl ?_;refine QO ?_;refine AP1 hi hr (by simp only [Xe];simp;split<;>simp<;>omega) λv1 v' w' aV _=>?_
 refine QO ?_;exact QL (2,v') ⟨by dsimp only;omega,by simpa [inX,aX] using aV⟩ (by dsimp only;omega)
 . refine QO ?_
   refine Z7 (Z2s rfl rfl (Ze8 _ _)) rfl ?_;repeat'(first|refine W1 ?_|omega|refine VG ?_ ?_<;>intro hg|refine VC ?_ ?_<;>intro hc)
   all_goals exact QL (2,dv) ⟨by dsimp only;omega,by simpa [inX,aX] using hr⟩ (by dsimp only;omega)
 refine QO ?_;exact QL (k+1,dv) ⟨by dsimp only;omega,by rw [ax,mr,<- XA];simpa using hr⟩ (by dsimp only;omega);obtain rfl:k=rets.length:=by omega
 rw [Xs] at hr;have dL:=Z59 rets sent;have kQ:Z0S rets sent=Z1I (Z3W rets sent):=rfl;refine QO ?_;refine CM (ZO rfl) (Z7V w2 hr.1 (by omega)) ?_;rintro _ w3 ⟨rfl,ij,jG⟩;refine QO ?_;refine CM (ZO rfl) (Z4c w3 ij (by rw [Ybu];omega)) ?_;rintro dv4 w4 ⟨bX,dG,fO⟩;have jO:=λb hb=>hr.ob_le b hb;have ay:Stp [] w w4:=(hr.2.own jG (λb hb=>.inr (jO b hb).1)).own dG (λb hb=>.inr (jO b hb).1);replace bX:Row [] w4 w.heap.size 3 dv4 (Z0S rets sent):=bX;have kB:(Z0S rets sent).length<=100:=by
  have h1:(Z0S rets sent).length<=(Z3W rets sent).length:=by
   rw [kQ];unfold Z1I Lib.compact Lib.compactUpTo;rw [XI];refine Xl (XR _ _) ?_;simp
  omega
 have tj:0<(Z0S rets sent).length:=by
  have:sent∈Z0S rets sent:=((Jp _).2 sent).2 (by simp);exact List.length_pos_of_mem this
 have iZ:∀ d∈Z0S rets sent,sent<=d/\d<=3652059:=λd hd=>by
  have:=((Jp _).2 d).1 hd;simp only [Xg,Xd,Xp,or_false,Ybd,X2,decide_eq_true_eq] at this;rcases this with (rfl|rfl)|⟨r,hr,h1,h2⟩<;>omega
 have jP:Z3V rets sent=((Z0S rets sent).zip (Z0S rets sent).tail).map (λp=>(p.1,p.2 - 1)):=rfl;rw [jP] at hY ⊢;clear jP kQ hr ij jG dG dL;generalize Z0S rets sent=D at *;have cH:SlV [] w4 dv4 D:=bX.slv (by simp);have tk:=cH.max;have kR:((D.zip D.tail).map (λp=>(p.1,p.2 - 1))).length=D.length - 1:=by simp
 have qQ:∀ b∈ob dv4,w.heap.size<=b:=λb hb=>(bX.ob_le b hb).1;refine QO ?_
 refine Zr (σ:=Nat×List Nat) (λq=>[(0,.func (.yield l) #[] #[]),(4,dv4),(46,.I ((D.length:Int) - 1)),(47,.I q.1)])
  (λq w'=>q.1<=D.length - 1/\J (((D.zip D.tail).map (λp=>(p.1,p.2 - 1))).take q.1) q.2 w'/\SlV q.2 w' dv4 D/\Stp F w w'/\∀ b∈q.2,b∈F\/w.heap.size<=b) (λq=>D.length - q.1) (0,F) ⟨rfl,rfl,rfl,rfl,trivial⟩
  ⟨by omega,by simpa using oM _ _ _ _ h0 ay,Row.slv (Jj (X':=F) bX) hF,ay.mn,λb hb=>.inl hb⟩ ?_
 clear cH ay;rintro ⟨k,G⟩ w5 ⟨hk,hJ,df,hS,hG⟩;dsimp only at hk hJ df hG ⊢;generalize hZ:(D.zip D.tail).map (λp=>(p.1,p.2 - 1))=Z at *;by_cases dJ:k<D.length - 1;have oO:k<Z.length:=by omega
 have bz:k<D.length:=by omega
 have dF:k+1<D.length:=by omega
 have oP:Z[k]=(D[k],D[k+1] - 1):=by subst hZ;simp
 obtain ⟨d1,d2⟩:=iZ _ (Xc bz);obtain ⟨d3,d4⟩:=iZ _ (Xc dF);refine QO ?_;refine Zbk 5 14 (G) [(0,0),(1,0),(2,0),(3,0),(4,1),(5,0),(6,0),(7,0),(8,0),(9,1),(10,0),(11,0),(12,2),(13,0)] rfl mixed (by kernel_rfl) (by kernel_rfl) (by kernel_rfl) (λw1 ae=>?_);replace hJ:=oM _ _ _ _ hJ ae;replace df:=df.up ae;replace hS:=hS.trans ae.mn;refine JH rfl (λw'=>ZV rfl) rfl ?_;refine JH rfl (λw'=>ZV rfl) rfl ?_;refine JH rfl (λw'=>ZV rfl) rfl ?_;refine JH rfl (λw'=>Z0n (i:=k) rfl df rfl rfl bz) rfl ?_;refine Z88 rfl (λw' hS=>Z1o rfl rfl (df.ext hS (λb hb=>hb) (λ_ h=>.inl h)) bz rfl rfl) rfl ?_;refine JH rfl (λw'=>ZV rfl) rfl ?_;refine JH rfl (λw'=>ZV rfl) rfl ?_;refine JH rfl (λw'=>Zc7 rfl rfl (by unfold I64;omega)) rfl ?_;refine JH rfl (λw'=>Z0n (i:=k+1) rfl df rfl (by omega) dF) rfl ?_;refine Z88 rfl (λw' hS=>Z1o rfl rfl (df.ext hS (λb hb=>hb) (λ_ h=>.inl h)) dF rfl rfl) rfl ?_;refine JH rfl (λw'=>Zc8 rfl rfl (by unfold I64;omega)) rfl ?_;refine JH rfl (λw'=>Z0J (vs:=[(0,.I D[k]),(1,.I (D[k+1] - 1))]) rfl (Ze9 _ _)) rfl ?_;have oQ:=hY (Z.take k) Z[k] G w1 hJ (by rw [<- Xf oO];exact List.take_prefix _ _);rw [oP] at oQ;refine Zbl rfl rfl rfl oQ (λW' h=>h.choose_spec.2.1) rfl ?_;rintro W' ⟨G',ln,oR,iY⟩;refine JH rfl (λw'=>Z8G rfl) rfl ?_;refine Zhp ?_;refine QO ?_;refine QL (k+1,G') ⟨by dsimp only;omega,by rw [Xf oO,oP];exact ln,?_,hS.own oR hG,λb hb=>?_⟩ (by dsimp only;omega);exact df.ext oR (λb hb=>hb) iY;rcases iY b hb with h|h
 exact hG b h;exact .inr (by have:=hS.size;omega);refine QO ?_;refine WR ?_;have ep:k=Z.length:=by omega
 rw [ep,Xs] at hJ;exact .mk ⟨G,hJ,hS,hG⟩
end Go.Proofs.YtkojegdemoahlaaGreatDoor
namespace Go.Eng
open Go Go.RowKit Go.Proofs
variable {P:Program} {n:Nat} {Q:Exit->Act->World->Prop} {e:Env} {w w0:World} {rest:List Oper} {ops:Array Oper} {ty ty':TypeId} {pos pos':String} {af af':Array Edge}
theorem Zh.slv1 {α:Type} [Z1 α] {X:List Nat} {T:Nat} {cs:List Value} {v:Value} {w':World} {y:α} (h:Zh w T 1 cs v w') (hX:∀ b∈X,b<w.heap.size) (hr:Z1.rep X w y cs):SlV X w' v [y]:=by
 obtain ⟨b,rfl,hb,hk,hT⟩:=h;refine ⟨some ⟨b,0,none⟩,1,rfl,Xm _,by simp [maxLen],by simp,λi hi=>?_⟩;obtain rfl:i=0:=by simpa using hi
 refine ⟨b,0,cs,rfl,hk.lt,λbQ=>by have:=hX b bQ;omega,Z1.ext hr hT (by simp) (λc hc=>.inl hc),λj u hu=>?_⟩;simpa using hk.cell hu
theorem APG {α:Type} [Z1 α] {X:List Nat} {T t bytes d1 d2 base:Nat} {x y:Operand} {v z0 u:Value} {cs:List Value} {xs:List α} [ht:Und P t (.slice T)] [hk:Siz P T (Z1.k α)] [hb:Byt P T bytes] [hz:Zer P T z0] (z:α) (hr:Row X w base T v xs) (hX:∀ b∈X,b<w.heap.size) (cr:base<=w.heap.size)
 (dm:Z1.rep (ob v++X) w z cs) (hl:(xs.length+1) * bytes<=140737488355328) (gW:xs.length+1<=maxLen)
 (k:∀ v1 v' w',Row X w' base T v' (xs++[z])->Stp (ob v) w w'->(∀ b∈ob v',b∈ob v\/w.heap.size<=b)->WL P n ops Q rest ((d2,v') :: (d1,v1) :: e) w')
 (hx:ev e x=some v:=by exact rfl) (hy:Jo e [(0,y)]=some [(0,u)]:=by exact rfl) (aI:∀ w:World,(Instr.buildSlice t 1 #[(0,u)]).run P w=.ok (.slice (some ⟨w.heap.size,0,none⟩) 1 1) (w.alloc (.cells cs.toArray T)):=by intro w;kernel_rfl)
 (iV:∀ v1,ev ((d1,v1) :: e) x=some v:=by intro _;exact rfl) (fG:∀ v1,ev ((d1,v1) :: e) (.tmp d1)=some v1:=by intro _;exact rfl)
 (ee:z0.cells.size=Z1.k α:=by exact rfl) (aO:0<Z1.k α:=by decide) (h1:Nat.blt d1 n=true:=by exact rfl) (h2:Nat.blt d2 n=true:=by exact rfl) :
 WL P n ops Q (⟨some d1,.buildSlice t 1 #[(0,y)],ty,pos,af,none⟩ :: ⟨some d2,.call { callee:=.builtin .append,args:=#[x,.tmp d1],argTypes:=#[t,t] },ty',pos',af',none⟩ :: rest) e w:=by
 refine Z0 (Z3 (l:=[(0,y)]) (vs:=[(0,u)]) hy aI) h1 ?_;intro v1 w1 hN;have hT:Stp [] w w1:=hN.choose_spec.2.2.2;have dR:SlV (ob v++X) w1 v1 [z]:=hN.slv1 (λb hb=>by
  rcases Xg.1 hb with h|h
  exact (hr.ob_le b h).2;exact hX b h) dm
 refine Z0 (ZJ (X:=X) (base:=base) ee aO (iV v1) (fG v1) (hr.up hT) dR (by simpa using hl) (by simpa using gW) (Xl cr hT.size)) h2 ?_;rintro v' w2 ⟨g1,g2,g3⟩;exact k v1 v' w2 g1 (hT.mn.trans g2) (λb hb=>(g3 b hb).imp id (Xl hT.size))
end Go.Eng
namespace Go.Proofs.YtkojegdemoahlaaGreatDoor
open Go Go.Eng Go.RowKit
theorem Z71 {P:Program} {f:FuncId} {fn:Func} {c:Code} {args:Array Value} {w} {R:Ending->World->Prop} {n:Nat} (hf:P.funcs[f]?=some fn) (hb:fn.body=some c)
 (hn:fn.ntmps=n) (hs:Nat.ble args.size n=true) (h:WC P n c (bodyPostM Fence.wide 5 P fn R) (Z1N args.toList 0) w):Calls P f args w R:=by
 refine (callsIn_wide (n:=5)).1 (callsIn_of_wp_marks hf hb trivial ((wpIn_wide (n:=5)).2 (h.h _ ?_)));rw [hn];have fC:args.size<=n:=Xb hs;refine ⟨rfl,by simp;omega,λt v hv=>?_⟩;obtain ⟨_,h2⟩:=Z1O _ _ _ _ hv;simp only [Nat.sub_zero] at h2;have ah:t<args.size:=by
  have:=(Xn.1 h2).1;simpa using this
 have:args[t]?=some v:=by simpa using h2
 have h3:(args++Array.replicate (n - args.size) undef)[t]?=some v:=by
  rw [XX ah];exact this
 simp [Xz,h3]
theorem Zbo {P:Program} {n:Nat} {fn:Func} {R:Ending->World->Prop} {e:Env} {w:World} {D t u:Nat} {v x:Value} (hr:fn.results=#[.tmp t,.tmp u]) (ht:Eng.look e t=some v) (hu:Eng.look e u=some x) (hd:w.heap[D]?=some (.deferred (some [])))
 (h:R (.returned (.tuple #[v,x])) (w.putObj D (.deferred none))):WQD [{ target:=.collected D,args:=#[] }] n (bodyPostM Fence.wide 5 P fn R) .ret e w:=by
 refine ⟨λa ha=>?_⟩;show LeavesInM Fence.wide 5 P fn (JW _ a).tmps R (JW _ a).defers .returning w;have qR:(JW [{ target:=.collected D,args:=#[] }] a).defers=[{ target:=.collected D,args:=#[] }]:=by unfold JW;rw [ha.defers];rfl
 rw [qR];refine ⟨by simp,.inl ⟨D,_,rfl,run_takeDeferred hd,?_⟩⟩;refine ⟨.tuple #[v,x],?_,h⟩;have h1:=ha.vals t v ht;have h2:=ha.vals u x hu;have h3:(JW [{ target:=.collected D,args:=#[] }] a).tmps=a.tmps:=rfl;rw [Xz] at h1 h2;rw [h3];simp [results,hr,h1,h2]
theorem Z72 (lv:Value) (l:List Rtn) (sent:Int) (w) (hl:SlV [] w lv l):CC 186 #[lv,.I sent] w λr w'=>∃ bL bS,r=.func (.func 233) #[] #[pQ bS,pQ bL]/\
 Blk w' bS 3 [.I sent]/\Blk w' bL 58 [lv]/\w.heap.size<=bL/\w.heap.size<=bS/\Stp [] w w':=by
 refine cW2 6 Tryz.func186 ?_;refine W ?_;refine Z0 (Z6t rfl hl) rfl ?_;rintro _ w1 ⟨bL,rfl,hL,kL,hS⟩;have z1:=hS.size;refine BX hS λbS w2 ai kS hT hS=>?_;replace kS:Blk w2 bS 3 [.I sent]:=kS;replace kL:=kL.up hT;refine RT ?_;exact ⟨bL,bS,rfl,kS,kL,hL,by omega,hS⟩
theorem Zeb {l:List Rtn} {sent:Int} (h:l.length<=32):(Z0S l sent).length<=66:=by
 have kQ:Z0S l sent=Z1I (Z3W l sent):=rfl;have h2:=Z59 l sent;have h1:(Z0S l sent).length<=(Z3W l sent).length:=by
  rw [kQ];unfold Z1I Lib.compact Lib.compactUpTo;rw [XI];refine Xl (XR _ _) ?_;simp
 omega
theorem Zec {l:List Rtn} {sent:Int} (h:l.length<=32):(Z3V l sent).length<=66:=by
 have:=Zeb (sent:=sent) h;unfold Z3V;rw [XI,List.length_zip];omega
theorem Zbp (l:List Rtn) (crrs:List Crr) (s:AlS) (x:Spn):(Js l crrs s x).out.length<=s.out.length+1:=by
 unfold Js;dsimp only;split;omega;have ht:(if Jz l crrs x.1<s.least then (⟨Jz l crrs x.1,false,[]⟩:AlS) else s).out.length<=s.out.length:=by
  split<;>simp
 generalize (if Jz l crrs x.1<s.least then (⟨Jz l crrs x.1,false,[]⟩:AlS) else s)=t at *;split;split<;>simp<;>omega
 simp;omega
theorem Z63 (l:List Rtn) (crrs:List Crr):∀ (L:List Spn) (s:AlS),(L.foldl (Js l crrs) s).out.length<=s.out.length+L.length
 | [],s=>by simp
 | x :: L, s => by
   have h1:=Z63 l crrs L (Js l crrs s x);have h2:=Zbp l crrs s x;rw [XP,Xo];omega
theorem Zed (l:List Rtn) (crrs:List Crr) (s:AlS) (x:Spn) (h:¬ s.least<Jz l crrs x.1) {t:AlS} (ht:t=if Jz l crrs x.1<s.least then ⟨Jz l crrs x.1,false,[]⟩ else s) :
 (t.out=[]->Js l crrs s x={ t with out:=[x] })/\(∀ M u,t.out=M++[u]->Js l crrs s x={ t with out:=if u.2=x.1 - 1 then M++[(u.1,x.2)] else M++[u]++[x] }):=by
 unfold Js;dsimp only;rw [if_neg h,<- ht];clear ht;constructor;intro h0;rw [h0];rfl;intro M u h0;rw [h0];simp only [List.getLast?_append,List.getLast?_singleton,Option.some_or];split<;>simp
structure AlJ (w0:World) (l:List Rtn) (crrs:List Crr) (b8 b9 b10:Nat) (pre:List Spn) (F:List Nat) (W:World):Prop where
 ex:∃ ov,F=b8 :: b9 :: b10 :: ob ov/\Blk W b10 40 [ov]/\Row [] W w0.heap.size 123 ov (pre.foldl (Js l crrs) ⟨Jz l crrs (-1),true,[]⟩).out
 k8:Blk W b8 3 [.I (pre.foldl (Js l crrs) ⟨Jz l crrs (-1),true,[]⟩).least]
 k9:Blk W b9 4 [.B (pre.foldl (Js l crrs) ⟨Jz l crrs (-1),true,[]⟩).never]
 stp:Stp [b8,b9,b10] w0 W
theorem Z73 {β:Type} [Z2 β] {X S:List Nat} {w w':World} {base T:Nat} {v:Value} {xs:List β} (h:Row X w base T v xs) (hS:Stp S w w') (hn:∀ b∈S,b∉ob v):Row X w' base T v xs:=
 Jj (Row.ext (Jj (X':=S) h) hS (λb hb=>⟨hb,hn b hb⟩) (λb hb=>.inl hb))
theorem AlJ.stay {w0 W W':World} {l:List Rtn} {crrs:List Crr} {b8 b9 b10:Nat} {pre:List Spn} {F S:List Nat} (h:AlJ w0 l crrs b8 b9 b10 pre F W) (hS:Stp S W W') (hd:∀ b∈S,w0.heap.size<=b/\b∉F):AlJ w0 l crrs b8 b9 b10 pre F W':=by
 obtain ⟨⟨ov,rfl,k10,hr⟩,k8,k9,ax⟩:=h;exact ⟨⟨ov,rfl,k10.ext hS (λh=>(hd _ h).2 (by simp)),Z73 hr hS (λb hb h=>(hd b hb).2 (by simp [h]))⟩,k8.ext hS (λh=>(hd _ h).2 (by simp)),k9.ext hS (λh=>(hd _ h).2 (by simp)),ax.own hS (λb hb=>.inr (hd b hb).1)⟩
theorem Z8d (lv cv:Value) (l:List Rtn) (crrs:List Crr) (sent:Int) (w) (hl:SlV [] w lv l) (hc:SlV [] w cv crrs) (ho:Zhr l crrs) (be:0<=sent/\sent<=3652058) :
 CC 109 #[lv,cv,.I sent] w λv w'=>∃ ov,v=.tuple #[ov,.B (Z6Z l crrs sent).never]/\SlV [] w' ov (Z6Z l crrs sent).out/\Stp [] w w':=by
 refine Z71 (n:=62) Tryz.func109 rfl rfl rfl ?_;refine W ?_;refine Z0 (Z6t rfl hl) rfl ?_;rintro _ w1 ⟨b3,rfl,h3,e3,hS⟩;refine Z0 (Z6t rfl hc) rfl ?_;rintro _ w2 ⟨b4,rfl,h4,e4,hT⟩;replace e3:=e3.up hT;replace hS:=hS.trans hT;clear hT;refine W ?_;refine CP hS (Z57 lv cv l crrs (-1) _ (hl.up hS) (hc.up hS) ho.len ho.crr ho.tol) λw3 hT hS=>?_;replace e3:=e3.up hT;replace e4:=e4.up hT;clear hT;refine Z0 Z4 rfl ?_;rintro _ w4 ⟨b8,rfl,d5,e8,hT⟩;replace e8:Blk w4 b8 3 [.I 0]:=e8;refine S1 e8 ?_;rintro _ w5 ⟨aK,e8⟩;replace hT:=hT.ow aK;have l3:=e3.lt;have l4:=e4.lt;replace e3:=e3.up hT;replace e4:=e4.up hT;have g8:w.heap.size<=b8:=Xl hS.size d5;replace hS:=hS.trans hT;clear hT aK;refine W ?_;refine Z0 Z4 rfl ?_;rintro _ w6 ⟨b9,rfl,gG,e9,hT⟩;replace e9:Blk w6 b9 4 [.B false]:=e9;refine S1 e9 ?_;rintro _ w7 ⟨aK,e9⟩;replace hT:=hT.ow aK;have l8:=e8.lt;replace e3:=e3.up hT;replace e4:=e4.up hT;replace e8:=e8.up hT;replace hS:=hS.trans hT;clear hT aK;refine W ?_;refine Z0 Z4 rfl ?_;rintro _ w8 ⟨b10,rfl,jQ,e10,hT⟩;have l9:=e9.lt;replace e3:=e3.up hT;replace e4:=e4.up hT;replace e8:=e8.up hT;replace e9:=e9.up hT;replace hS:=hS.trans hT;clear hT;refine W ?_;refine CG (Z72 lv l sent _ (hl.up hS)) ?_;rintro _ w9 ⟨bL,bS,rfl,kS,kL,gL,gS,hT⟩;have l10:=e10.lt;have z8:=hS.size;replace e3:=e3.up hT;replace e4:=e4.up hT;replace e8:=e8.up hT;replace e9:=e9.up hT;replace e10:=e10.up hT;replace hS:=hS.trans hT;clear hT;refine W ?_;replace e10:Blk w9 b10 40 [.N]:=e10;have q8:=e8.lt;have q9:=e9.lt;have q10:=e10.lt;refine Zf8 [(3,pQ b3),(4,pQ b4),(8,pQ b8),(9,pQ b9),(10,pQ b10),(19,.func (.func 233) #[] #[pQ bS,pQ bL])] ⟨rfl,rfl,rfl,rfl,rfl,rfl,trivial⟩ ?_;refine Ze4 (α:=Spn) (E:=λx b=>[(3,pQ b3),(4,pQ b4),(8,pQ b8),(9,pQ b9),(10,pQ b10),(11,pQ b)]) (T:=123) (cs:=Z2.enc) (λx=>aG x) rfl rfl (Z3V l sent) (AlJ w9 l crrs b8 b9 b10) [b8,b9,b10] ?_ ?_ ?_ ?_ ?_ ?_ ?_;rintro pre F W ⟨⟨ov,rfl,k10,hr⟩,k8,k9,ax⟩ b hb;simp only [Xd] at hb;rcases hb with rfl|rfl|rfl|hb
 exact k8.lt;exact k9.lt;exact k10.lt;exact (hr.ob_le b hb).2;exact λpre F W W' S h hS hd=>h.stay hS hd;exact ⟨⟨.N,rfl,e10,Row.nil⟩,e8,e9,Stp.refl _ _⟩;intro l' Y cq mb tm;have zY:=cq.size;have zw:=hS.size;have kSl:=kS.lt;have kLl:=kL.lt;refine Z70 l' _ Y bS bL lv l sent crrs ho be (kS.up cq) (kL.up cq) (hl.ext (hS.trans cq) (by simp) (λb hb=>.inr (by
  simp only [Xd,Xp,or_false] at hb;omega))) (λb hb=>by
  simp only [Xd,Xp,or_false] at hb;omega) (by simp only [Xd,Xp,or_false];omega) (by simp only [Xd,Xp,or_false];omega)
 intro l' x Y Z cT hk;refine Zx rfl (λa w h=>cT a w h) ?_;refine Z0 Z4 rfl ?_;rintro _ Ya ⟨b,rfl,hb,kb,hT⟩;refine SA (us:=Z2.enc x) kb ?_;rintro _ Yb ⟨aK,kb⟩;refine W ?_;exact Zf9 [(3,pQ b3),(4,pQ b4),(8,pQ b8),(9,pQ b9),(10,pQ b10),(11,pQ b)] ⟨rfl,rfl,rfl,rfl,rfl,rfl,trivial⟩ (hk b Yb hb kb (hT.ow aK));intro l' pre x b11 F Y Z hJ bB k11 kT eJ cT hZ;obtain ⟨⟨ov,rfl,k10,hr⟩,k8,k9,ax⟩:=hJ;have qS:x∈Z3V l sent:=bB.subset (by simp);have tp:=Z58 be qS;have dL:pre.length<=66:=by
  have h1:=bB.length_le;have h2:=Zec (sent:=sent) ho.len;rw [Xe] at h1;omega
 have hol:=Z63 l crrs pre ⟨Jz l crrs (-1),true,[]⟩;have dV:(pre++[x]).foldl (Js l crrs) ⟨Jz l crrs (-1),true,[]⟩=Js l crrs (pre.foldl (Js l crrs) ⟨Jz l crrs (-1),true,[]⟩) x:=by simp
 have cq:Stp [] w Y:=hS.own ax (λb hb=>by simp at hb;rcases hb with rfl|rfl|rfl<;>exact .inr (by omega));have f3:=e3.ext ax (by simp;omega);have f4:=e4.ext ax (by simp;omega);have jR:=λb hb=>hr.ob_le b hb;have zst:=ax.size;simp only [Xr] at hol;generalize pre.foldl (Js l crrs) ⟨Jz l crrs (-1),true,[]⟩=s at *;obtain ⟨least,never,out⟩:=s;dsimp only at k8 k9 hr hol;have l8y:=k8.lt;have l9y:=k9.lt;have l10y:=k10.lt;focus repeat'(first|refine W1 ?_|refine ZS ?_|refine J8 ?_|refine ZF ?_|refine Zx rfl (λa w h=>cT a w h) ?_|refine ZT ?_|refine ZU ?_|refine ZM rfl ?_|refine ZB rfl ?_|refine Zn ?_|refine Ze ?_|refine Zo rfl ?_|refine ZL ?_)
 refine CP (Stp.refl [] Y) (Z57 lv cv l crrs x.1 _ (hl.up cq) (hc.up cq) ho.len ho.crr ho.tol) λY1 hT _=>?_;replace k8:=k8.up hT;replace k9:=k9.up hT;replace k10:=k10.up hT;replace k11:=k11.up hT;replace f3:=f3.up hT;replace f4:=f4.up hT;replace hr:=hr.up hT;have im:=ax.trans hT.mn;have hstep:=λh=>@Zed l crrs ⟨least,never,out⟩ x h _ rfl;have fd:least<Jz l crrs x.1->Js l crrs ⟨least,never,out⟩ x=⟨least,never,out⟩:=λh=>by unfold Js;dsimp only;rw [if_pos h]
 dsimp only at hstep fd;generalize Jz l crrs x.1=E at *;by_cases h1:least<E;rw [fd h1] at dV;focus repeat'(first|refine W1 ?_|refine ZS ?_|refine J8 ?_|refine ZF ?_|refine Zx rfl (λa w h=>cT a w h) ?_|refine ZT ?_|refine ZU ?_|refine ZM rfl ?_|refine ZB rfl ?_|refine Zn ?_|refine Ze ?_|refine Zo rfl ?_|refine ZL ?_|omega|(refine Z27 rfl ?_ ?_<;>intro hc))
 exact ⟨λa ha=>hZ a _ Y1 ⟨⟨ov,rfl,k10,by rw [dV];exact hr⟩,by rw [dV];exact k8,by rw [dV];exact k9,im⟩ hT.mn (λb hb=>.inl hb)⟩;have hstep:=hstep h1;clear fd f3 f4;generalize kD:Js l crrs ⟨least,never,out⟩ x=s' at *;generalize ht:(if E<least then (⟨E,false,[]⟩:AlS) else ⟨least,never,out⟩)=t at *;have qT:t.out.length<=66:=by rw [<- ht];split<;>simp<;>omega
 focus repeat'(first|refine W1 ?_|refine ZS ?_|refine J8 ?_|refine ZF ?_|refine Zx rfl (λa w h=>cT a w h) ?_|refine ZT ?_|refine ZU ?_|refine ZM rfl ?_|refine ZB rfl ?_|refine Zn ?_|refine Ze ?_|refine Zo rfl ?_|refine ZL ?_)
 refine Z27 rfl (λhc=>absurd hc h1) (λhc=>?_);focus repeat'(first|refine W1 ?_|refine ZS ?_|refine J8 ?_|refine ZF ?_|refine Zx rfl (λa w h=>cT a w h) ?_|refine ZT ?_|refine ZU ?_|refine ZM rfl ?_|refine ZB rfl ?_|refine Zn ?_|refine Ze ?_|refine Zo rfl ?_|refine ZL ?_)
 refine Ze3 (σ:=Value) (λ_=>[(10,pQ b10),(11,pQ b11)]) (λov' W'=>Blk W' b8 3 [.I t.least]/\Blk W' b9 4 [.B t.never]/\Blk W' b10 40 [ov']/\Row [] W' w9.heap.size 123 ov' t.out/\Blk W' b11 123 (Z2.enc x)/\Stp [b8,b9,b10] Y1 W'/\∀ b∈ob ov',b∈ob ov) ?_ ?_;by_cases h2:E<least;rw [if_pos h2] at ht;subst ht;focus repeat'(first|refine W1 ?_|refine ZS ?_|refine J8 ?_|refine ZF ?_|refine Zx rfl (λa w h=>cT a w h) ?_|refine ZT ?_|refine ZU ?_|refine ZM rfl ?_|refine ZB rfl ?_|refine Zn ?_|refine Ze ?_|refine Zo rfl ?_|refine ZL ?_|omega|(refine Z27 rfl ?_ ?_<;>intro hc))
 refine S1 (u:=.I E) k8 ?_;rintro _ Y2 ⟨hA,k8⟩;replace k9:=k9.ext hA (by simp;omega);replace k10:=k10.ext hA (by simp;omega);replace k11:=k11.ext hA (λh=>kT (by simp at h;subst h;simp));refine S1 (u:=.B false) k9 ?_;rintro _ Y3 ⟨hB,k9⟩;replace k8:=k8.ext hB (by simp;omega);replace k10:=k10.ext hB (by simp;omega);replace k11:=k11.ext hB (λh=>kT (by simp at h;subst h;simp));refine S1 (u:=.N) k10 ?_;rintro _ Y4 ⟨hC,k10⟩;replace k8:=k8.ext hC (by simp;omega);replace k9:=k9.ext hC (by simp;omega);replace k11:=k11.ext hC (λh=>kT (by simp at h;subst h;simp));focus repeat'(first|refine W1 ?_|refine ZS ?_|refine J8 ?_|refine ZF ?_|refine Zx rfl (λa w h=>cT a w h) ?_|refine ZT ?_|refine ZU ?_|refine ZM rfl ?_|refine ZB rfl ?_|refine Zn ?_|refine Ze ?_|refine Zo rfl ?_|refine ZL ?_)
 exact QT (.N) ⟨k8,k9,k10,Row.nil,k11,(hA.mn.trans hB.mn).trans hC.mn,by simp [ob]⟩;rw [if_neg h2] at ht;subst ht;focus repeat'(first|refine W1 ?_|refine ZS ?_|refine J8 ?_|refine ZF ?_|refine Zx rfl (λa w h=>cT a w h) ?_|refine ZT ?_|refine ZU ?_|refine ZM rfl ?_|refine ZB rfl ?_|refine Zn ?_|refine Ze ?_|refine Zo rfl ?_|refine ZL ?_|omega|(refine Z27 rfl ?_ ?_<;>intro hc))
 exact QT ov ⟨k8,k9,k10,hr,k11,Stp.refl _ _,λb hb=>hb⟩;clear k8 k9 k10 k11 hr ht;rintro ov' Y2 ⟨k8,k9,k10,hr,k11,hA,kU⟩;have zA:=hA.size;have zT:=hT.size;have fe:=λb hb=>hr.ob_le b hb;have dS:SlV [] Y2 ov' t.out:=hr.slv (by simp);obtain ⟨kG,kV⟩:=hstep;obtain ⟨tl,tn,oo⟩:=t;dsimp only at k8 k9 hr dS fe kG kV qT;have jS:b8∉ob ov':=λh=>by have:=fe _ h;omega
 have jT:b9∉ob ov':=λh=>by have:=fe _ h;omega
 have ea:b10∉ob ov':=λh=>by have:=fe _ h;omega
 have oS:b11∉ob ov':=λh=>kT (by have:=kU _ h;simp [this])
 have fin:∀ (nv:Value) (W':World),Blk W' b8 3 [.I s'.least]->Blk W' b9 4 [.B s'.never]->Blk W' b10 40 [nv]->Row [] W' w9.heap.size 123 nv s'.out->Stp (b10 :: ob ov') Y2 W'->(∀ b∈ob nv,b∈ob ov'\/Y2.heap.size<=b)->∀ a,Z .normal a W':=λnv W' g8 g9 g10 gr gs gn a=>
  hZ a (b8 :: b9 :: b10 :: ob nv) W' ⟨⟨nv,rfl,g10,by rw [dV];exact gr⟩,by rw [dV];exact g8,by rw [dV];exact g9,(im.trans hA).own gs (λb hb=>by
   rcases Xd.1 hb with rfl|hb
   exact .inl (by simp);exact .inr (fe b hb).1)⟩ ((((hT.mono (S':=b8 :: b9 :: b10 :: ob ov) (by simp)).trans hA.mn).trans (gs.mono (λb hb=>by
   rcases Xd.1 hb with rfl|hb
   simp;simp [kU b hb])))) (λb hb=>by
   simp only [Xd] at hb ⊢;rcases hb with rfl|rfl|rfl|hb
   exact .inl (.inl rfl);exact .inl (.inr (.inl rfl));exact .inl (.inr (.inr (.inl rfl)));rcases gn b hb with h|h
   exact .inl (.inr (.inr (.inr (kU b h))));exact .inr (by omega))
 clear hA kU jR im;have app:∀ (Y3:World),Stp [] Y2 Y3->s'=⟨tl,tn,oo++[x]⟩->∀ (nv:Value) (Y4 Y5:World),Row [] Y4 w9.heap.size 123 nv (oo++[x])->Stp (ob ov') Y3 Y4->(∀ b∈ob nv,b∈ob ov'\/Y3.heap.size<=b)->Stp [b10] Y4 Y5->Blk Y5 b10 40 [nv]->∀ a,Z .normal a Y5:=λY3 g1 gs nv Y4 Y5 g2 g3 g4 g5 g6 a=>by
  subst gs;have q8:=(((k8.up g1).ext g3 jS).ext g5 (by simp;omega))
  have q9:=(((k9.up g1).ext g3 jT).ext g5 (by simp;omega))
  have mu:b10∉ob nv:=λh=>by
   rcases g4 _ h with h|h
   exact ea h;have:=g1.size;omega
  exact fin nv Y5 q8 q9 g6 (Z73 g2 g5 (λb hb h=>mu (by simp at hb;subst hb;exact h))) ((g1.mn.trans (g3.mono (λb hb=>by simp [hb]))).trans g5.mn) (λb hb=>(g4 b hb).imp id (λh=>by have:=g1.size;omega)) a
 focus repeat'(first|refine W1 ?_|refine ZS ?_|refine J8 ?_|refine ZF ?_|refine Zx rfl (λa w h=>cT a w h) ?_|refine ZT ?_|refine ZU ?_|refine ZM rfl ?_|refine ZB rfl ?_|refine Zn ?_|refine Ze ?_|refine Zo rfl ?_|refine ZL ?_)
 rcases Yap oo with rfl|⟨M,u,rfl⟩
 have bu:=kG rfl;refine Z62 14 [] [] [(0,0),(1,0),(2,0),(3,1),(4,0),(5,0),(6,0),(7,0),(8,1),(9,0),(10,1),(11,0),(12,0),(13,0)] rfl mixed (by kernel_rfl) (by kernel_rfl) (by kernel_rfl) rfl (λw1 ae=>?_);replace k10:=k10.up ae;replace k11:=k11.up ae;replace hr:=hr.up ae;refine D ?_;focus repeat'(first|refine W1 ?_|refine ZS ?_|refine J8 ?_|refine ZF ?_|refine Zx rfl (λa w h=>cT a w h) ?_|refine ZT ?_|refine ZU ?_|refine ZM rfl ?_|refine ZB rfl ?_|refine Zn ?_|refine Ze ?_|refine Zo rfl ?_|refine ZL ?_)
 refine APG (X:=[]) (base:=w9.heap.size) x hr (by simp) (by have:=ae.size;omega) rfl (by simp) (by simp [maxLen]) λv1 nv Y4 bX dG fO=>?_
 replace k10:=k10.ext dG ea;focus repeat'(first|refine W1 ?_|refine ZS ?_|refine J8 ?_|refine ZF ?_|refine Zx rfl (λa w h=>cT a w h) ?_|refine ZT ?_|refine ZU ?_|refine ZM rfl ?_|refine ZB rfl ?_|refine Zn ?_|refine Ze ?_|refine Zo rfl ?_|refine ZL ?_)
 have cH:SlV [] Y4 nv ([]++[x]):=bX.slv (by simp);refine Z5 (Zj (u:=nv) rfl rfl cH.cells cH.one k10 (by simp)) ?_;rintro _ Y5 ⟨gI,k10⟩;focus repeat'(first|refine W1 ?_|refine ZS ?_|refine J8 ?_|refine ZF ?_|refine Zx rfl (λa w h=>cT a w h) ?_|refine ZT ?_|refine ZU ?_|refine ZM rfl ?_|refine ZB rfl ?_|refine Zn ?_|refine Ze ?_|refine Zo rfl ?_|refine ZL ?_)
 exact ⟨λa ha=>app w1 ae bu nv Y4 Y5 bX dG fO gI k10 a⟩;rw [Yaq] at *;have bu:=kV M u rfl;have jH:((M++[u]).length:Int) - 1=(M.length:Nat):=by simp
 have iW:M.length<(M++[u]).length:=by simp
 have ct:(M++[u])[M.length]=u:=by simp
 have cP:0<((M++[u]).length:Int):=by simp
 refine Z62 14 [] [] [(0,0),(1,0),(2,0),(3,1),(4,0),(5,0),(6,0),(7,0),(8,1),(9,0),(10,1),(11,0),(12,0),(13,0)] rfl mixed (by kernel_rfl) (by kernel_rfl) (by kernel_rfl) rfl (λw1 ae=>?_);replace k10:=k10.up ae;replace k11:=k11.up ae;replace hr:=hr.up ae;replace dS:=dS.up ae;refine QD ?_;rw [ct];focus repeat'(first|refine W1 ?_|refine ZS ?_|refine J8 ?_|refine ZF ?_|refine Zx rfl (λa w h=>cT a w h) ?_|refine ZT ?_|refine ZU ?_|refine ZM rfl ?_|refine ZB rfl ?_|refine Zn ?_|refine Ze ?_|refine Zo rfl ?_|refine ZL ?_)
 refine Z27 rfl (λhc=>?_) (λhc=>?_);rw [if_pos hc] at bu;focus repeat'(first|refine W1 ?_|refine ZS ?_|refine J8 ?_|refine ZF ?_|refine Zx rfl (λa w h=>cT a w h) ?_|refine ZT ?_|refine ZU ?_|refine ZM rfl ?_|refine ZB rfl ?_|refine Zn ?_|refine Ze ?_|refine Zo rfl ?_|refine ZL ?_)
 refine Z5 (Z5P (i:=M.length) (y':=(u.1,x.2)) (u:=.I x.2) rfl rfl rfl rfl rfl hr iW (by decide) (by rw [ct];rfl)) ?_;rintro _ Y5 ⟨jU,gI⟩;focus repeat'(first|refine W1 ?_|refine ZS ?_|refine J8 ?_|refine ZF ?_|refine Zx rfl (λa w h=>cT a w h) ?_|refine ZT ?_|refine ZU ?_|refine ZM rfl ?_|refine ZB rfl ?_|refine Zn ?_|refine Ze ?_|refine Zo rfl ?_|refine ZL ?_)
 rw [show (M++[u]).set M.length (u.1,x.2)=M++[(u.1,x.2)] by simp] at jU;have qU:=(k8.up ae).ext gI jS;have qV:=(k9.up ae).ext gI jT;have mv:=k10.ext gI ea;refine ⟨λa ha=>fin ov' Y5 (by rw [bu];exact qU) (by rw [bu];exact qV) mv (by rw [bu];exact jU) (ae.mn.trans (gI.mono (λb hb=>by simp [hb]))) (λb hb=>.inl hb) a⟩;rw [if_neg hc] at bu;focus repeat'(first|refine W1 ?_|refine ZS ?_|refine J8 ?_|refine ZF ?_|refine Zx rfl (λa w h=>cT a w h) ?_|refine ZT ?_|refine ZU ?_|refine ZM rfl ?_|refine ZB rfl ?_|refine Zn ?_|refine Ze ?_|refine Zo rfl ?_|refine ZL ?_)
 refine APG (X:=[]) (base:=w9.heap.size) x hr (by simp) (by have:=ae.size;omega) rfl (Xl (Xt _ (show (M++[u]).length+1<=1000 by omega)) (by decide)) (by simp only [maxLen];omega) λv1 nv Y4 bX dG fO=>?_
 replace k10:=k10.ext dG ea;focus repeat'(first|refine W1 ?_|refine ZS ?_|refine J8 ?_|refine ZF ?_|refine Zx rfl (λa w h=>cT a w h) ?_|refine ZT ?_|refine ZU ?_|refine ZM rfl ?_|refine ZB rfl ?_|refine Zn ?_|refine Ze ?_|refine Zo rfl ?_|refine ZL ?_)
 have cH:SlV [] Y4 nv (M++[u]++[x]):=bX.slv (by simp);refine Z5 (Zj (u:=nv) rfl rfl cH.cells cH.one k10 (by simp)) ?_;rintro _ Y5 ⟨gI,k10⟩;focus repeat'(first|refine W1 ?_|refine ZS ?_|refine J8 ?_|refine ZF ?_|refine Zx rfl (λa w h=>cT a w h) ?_|refine ZT ?_|refine ZU ?_|refine ZM rfl ?_|refine ZB rfl ?_|refine Zn ?_|refine Ze ?_|refine Zo rfl ?_|refine ZL ?_)
 exact ⟨λa ha=>app w1 ae bu nv Y4 Y5 bX dG fO gI k10 a⟩;rintro D F Y ⟨⟨ov,rfl,k10,hr⟩,k8,k9,ax⟩ hD qW dW hF -;have qX:=hS.own ax (λb hb=>by simp at hb;rcases hb with rfl|rfl|rfl<;>exact .inr (by omega));have kE:(Z3V l sent).foldl (Js l crrs) ⟨Jz l crrs (-1),true,[]⟩=Z6Z l crrs sent:=rfl;rw [kE] at hr k9;refine ⟨λa ha=>(Z7G (ds:=[{ target:=.collected D,args:=#[] }]) (ZfQ ?_)).h a ha⟩;refine ZaY 4 [] [] [(0,1),(1,1),(2,0),(3,0)] rfl mixed (by kernel_rfl) (by kernel_rfl) (by kernel_rfl) (λw1 ae=>?_);replace k10:=k10.up ae;replace k9:=k9.up ae;replace hr:=hr.up ae;refine QD ?_;refine Zj6 (Z7G (ZfR ?_));have jV:=(ae.block D (Xi.1 dW).1 (by simp)).trans dW;refine Zbo (D:=D) rfl rfl rfl jV (.mk ⟨ov,rfl,?_,?_⟩);exact (Row.slv (X:=[]) (Z73 hr (Z0N w1 D (.deferred none)) (λb hb h=>qW (by simp at hb;subst hb;simp [h]))) (by simp));exact ((qX.trans ae)).own (Z0N w1 D (.deferred none)) (λb hb=>.inr (by simp at hb;subst hb;have:=hS.size;omega))
theorem Z9q (lv cv:Value) (l:List Rtn) (crrs:List Crr) (sent:Int) (w) (hl:SlV [] w lv l) (hc:SlV [] w cv crrs) (ho:Zhr l crrs) (hs:0<=sent/\sent<=3652058) :
 CC 68 #[lv,cv,.I sent] w λv w'=>v=.tuple #[.I (Z1A l crrs sent).1,.B (Z1A l crrs sent).2]/\Stp [] w w':=by
 unfold Z1A;refine cW3 30 Tryz.func68 ?_;refine W ?_;refine CG (Z8d lv cv l crrs sent w hl hc ho hs) ?_;rintro _ w1 ⟨ov,rfl,df,hS⟩;generalize Z6Z l crrs sent=s at *;obtain ⟨least,never,out⟩:=s;dsimp only at df ⊢;have bg:=df.max;cases never with
 | true=>
   refine RT ?_;exact ⟨rfl,hS⟩
 | false=>
   rcases Yap out with rfl|⟨M,u,rfl⟩
   refine RT ?_;exact ⟨rfl,hS⟩;rw [Yaq] at *;have jH:((M++[u]).length:Int) - 1=(M.length:Nat):=by simp
   have iW:M.length<(M++[u]).length:=by simp
   have ct:(M++[u])[M.length]=u:=by simp
   have cP:0<((M++[u]).length:Int):=by simp
   have qY:(M++[u]).getLast?=some u:=by simp
   rw [qY];refine QO ?_;rw [ct];refine RU ?_;exact ⟨rfl,hS⟩
theorem Zht (a b:Svc) (w):CC 70 #[aG a,aG b] w λr w'=>r=.I (cmI a.day b.day)/\Stp [] w w':=by
 refine cW2 10 Tryz.func70 ?_;refine W ?_;refine BX (Stp.refl [] w) λb2 w1 h2 e2 _ hS=>?_;replace e2:Blk w1 b2 114 (Z2.enc a):=e2;refine BX hS λb3 w2 h3 e3 hT hS=>?_;replace e2:=e2.up hT;replace e3:Blk w2 b3 114 (Z2.enc b):=e3;refine W ?_;refine CP hS (Z2q _ _ _) λw3 _ hS=>?_;refine RT ?_;exact ⟨rfl,hS⟩
def Z0Z (l:List Svc):Nat->Svc
 | 0=>l.getD 0 ⟨0,0,0⟩
 | k+1=>if (l.getD (k+1) ⟨0,0,0⟩).day<(Z0Z l k).day then l.getD (k+1) ⟨0,0,0⟩ else Z0Z l k
def Z2F (l:List Svc):Svc×Bool:=if l=[] then (⟨0,0,0⟩,false) else (Z0Z l (l.length - 1),true)
theorem Zee (v:Value) (l:List Svc) (w) (hs:SlV [] w v l):CC 69 #[v,.func (.func 70) #[] #[]] w λr w'=>r=.tuple #[.agg (Z2.enc (Z2F l).1).toArray,.B (Z2F l).2]/\Stp [] w w':=by
 have bg:=hs.max;unfold Z2F;refine cW2 31 Tryz.func69 ?_;refine W ?_;refine Z0 Z4 rfl ?_;rintro _ w1 ⟨b4,rfl,ju,e4,hS⟩;refine W ?_;refine Z0 Z4 rfl ?_;rintro _ w2 ⟨b6,rfl,eo,e6,hT⟩;have l4:=e4.lt;replace e4:=e4.up hT;have g6:w.heap.size<=b6:=Xl hS.size eo;replace hS:=hS.trans hT;clear hT;have n46:b4≠b6:=by omega
 replace e4:Blk w2 b4 114 (Z2.enc (⟨0,0,0⟩:Svc)):=e4;replace e6:Blk w2 b6 114 (Z2.enc (⟨0,0,0⟩:Svc)):=e6;have bu:=hs.up hS;have hz:((l.length:Int)=0)↔l=[]:=by simp
 (refine QP ?_ ?_<;>intro hc)
 obtain rfl:l=[]:=hz.1 (by assumption);refine SA (us:=Z2.enc (⟨0,0,0⟩:Svc)) e4 ?_;rintro _ w3 ⟨hT,e4⟩;refine W ?_;refine ZY rfl rfl rfl e4 rfl rfl ?_;exact .mk ⟨rfl,hS.ow hT⟩;have hn:l≠[]:=λh=>absurd (hz.2 h) (by assumption)
 have aO:0<l.length:=YbB.2 hn;rw [if_neg hn];refine QO ?_;refine SA (us:=Z2.enc l[0]) e6 ?_;rintro _ w3 ⟨hT,e6⟩;replace e4:=e4.ext hT (by simpa using n46);replace hS:=hS.ow hT;clear hT bu;have dP:=hs.up hS;refine QO ?_;have mw:=dP.slc (l:=1) (r:=l.length) aO (Xm _);rw [Xs] at mw;refine Z7 (Z1r (l:=1) rfl dP rfl rfl aO) rfl ?_;clear dP;obtain ⟨dv,io⟩:∃ dv,dv=Eng.slc v 1 l.length 3:=⟨_,rfl⟩
 rw [<- io];have qZ:SlV [] w3 dv (l.drop 1):=io ▸ mw;clear mw;have kB:(l.drop 1).length=l.length - 1:=by simp
 refine W ?_;have oL:=hS;refine LP (σ:=Nat) (λk=>[(1,.func (.func 70) #[] #[]),(4,pQ b4),(6,pQ b6),(17,dv),(18,.I (l.drop 1).length),(19,.I k)]) (λk w'=>k<=l.length - 1/\Stp [b6] w3 w'/\Stp [] w w'/\Blk w' b6 114 (Z2.enc (Z0Z l k))/\Blk w' b4 114 (Z2.enc (⟨0,0,0⟩:Svc))) (λk=>l.length - 1 - k) 0 ⟨by omega,Stp.refl _ _,hS,by rw [Z0Z,show l.getD 0 ⟨0,0,0⟩=l[0] by simp [aO]];exact e6,e4⟩ ?_;clear e4 e6 hS;rintro k w4 ⟨hk,hT,hS,e6,e4⟩;by_cases ah:k<(l.drop 1).length;have cS:SlV [] w4 dv (l.drop 1):=by
  have h:=(hs.up hS).slc (l:=1) (r:=l.length) aO (Xm _);rw [Xs] at h;rw [io];exact h
 have bz:k+1<l.length:=by omega
 have ct:(l.drop 1)[k]=l[k+1]:=by simp
 have hstep:Z0Z l (k+1)=if l[k+1].day<(Z0Z l k).day then l[k+1] else Z0Z l k:=by rw [Z0Z,show l.getD (k+1) ⟨0,0,0⟩=l[k+1] by simp [bz]]
 generalize Z0Z l k=m at *;refine QO ?_;rw [ct];refine Z0 Z4 rfl ?_;rintro _ w5 ⟨b8,rfl,d5,e8,hA⟩;refine SA (us:=Z2.enc l[k+1]) e8 ?_;rintro _ w6 ⟨dg,e8⟩;replace hA:=hA.ow dg;replace e4:=e4.up hA;replace e6:=e6.up hA;replace hS:=hS.trans hA;replace hT:=hT.trans hA.mn;clear hA dg cS;refine W ?_;refine CP hS (Zht l[k+1] m _) λw7 hA hS=>?_;replace e4:=e4.up hA;replace e6:=e6.up hA;replace e8:=e8.up hA;replace hT:=hT.trans hA.mn;clear hA;have aW:cmI l[k+1].day m.day<0↔l[k+1].day<m.day:=by unfold cmI;split<;>(try split)<;>omega
 by_cases hc:l[k+1].day<m.day;rw [if_pos hc] at hstep;have hc':=aW.2 hc;refine QO ?_;refine SA (us:=Z2.enc l[k+1]) e6 ?_;rintro _ w8 ⟨hA,e6⟩;replace e4:=e4.ext hA (by simpa using n46);refine QO ?_;exact QL (k+1) ⟨by omega,hT.trans hA,hS.ow hA,by rw [hstep];exact e6,e4⟩ (by omega);rw [if_neg hc] at hstep;have hc':=λh=>hc (aW.1 h);refine QO ?_;exact QL (k+1) ⟨by omega,hT,hS,by rw [hstep];exact e6,e4⟩ (by omega);obtain rfl:k=l.length - 1:=by omega
 refine QO ?_;refine SA (us:=Z2.enc (Z0Z l (l.length - 1))) e4 ?_;rintro _ w8 ⟨hA,e4⟩;refine QO ?_;refine ZY rfl rfl rfl e4 rfl rfl ?_;exact .mk ⟨rfl,hS.ow hA⟩
structure ZlS (l:List Atp) (crrs:List Crr):Prop where
 len:l.length<=65536
 ret:∀ a∈l,Zhr a.rets crrs
 crr:∀ a∈l,0<=a.crr/\a.crr<crrs.length
 sent:∀ a∈l,0<=a.sent/\a.sent<=3652058
def svB (crrs:List Crr) (en pa:Int) (a:Atp):Bool:=decide (a.entry=en/\a.party=pa) && (Z1A a.rets crrs a.sent).2
def ofE (crrs:List Crr) (a:Atp) (k:Nat):Svc:=⟨(Z1A a.rets crrs a.sent).1,(crrs.getD a.crr.toNat ⟨0,0⟩).extra,k⟩
def ofG (l:List Atp) (crrs:List Crr) (en pa:Int):Nat->List Svc
 | 0=>[]
 | k+1=>ofG l crrs en pa k++if svB crrs en pa (l.getD k default)=true then [ofE crrs (l.getD k default) k] else []
def Z2W (l:List Atp) (crrs:List Crr) (en pa:Int):Svc×Bool:=Z2F (ofG l crrs en pa l.length)
theorem Zav (l:List Atp) (crrs:List Crr) (en pa:Int):∀ k,(ofG l crrs en pa k).length<=k
 | 0=>by simp [ofG]
 | k + 1 => by
   have:=Zav l crrs en pa k;simp only [ofG,Xe];split<;>simp<;>omega
theorem Zef (a b c:Int) (w):(Instr.build 114 #[(0,.I a),(1,.I b),(2,.I c)]).run Tryz.prog w=.ok (aG (⟨a,b,c⟩:Svc)) w:=by kernel_rfl
theorem ZlT (lv cv:Value) (l:List Atp) (crrs:List Crr) (en pa:Int) (w) (hl:SlV [] w lv l) (rb:SlV [] w cv crrs) (ho:ZlS l crrs) :
 CC 34 #[lv,.I en,.I pa,cv] w λr w'=>r=.tuple #[.agg (Z2.enc (Z2W l crrs en pa).1).toArray,.B (Z2W l crrs en pa).2]/\Stp [] w w':=by
 have am:=ho.len;refine cW4 59 Tryz.func34 ?_;refine W ?_;refine Z0 Z4 rfl ?_;rintro _ w1 ⟨b8,rfl,d5,e8,hS⟩;replace e8:Blk w1 b8 114 (Z2.enc (⟨0,0,0⟩:Svc)):=e8;have fb:=hl.up hS;refine W ?_;refine LP (σ:=Nat×Value) (λq=>[(1,.I en),(2,.I pa),(3,cv),(8,pQ b8),(10,q.2),(15,lv),(16,.I l.length),(17,.I q.1)]) (λq w'=>q.1<=l.length/\ZE 114 w1 w' q.2 (ofG l crrs en pa q.1)) (λq=>l.length - q.1) (0,.N) ⟨by omega,ZE.nil⟩ ?_;rintro ⟨k,rv⟩ w2 ⟨hk,hr⟩;dsimp only at hk hr ⊢;by_cases ah:k<l.length
 . have cZ:=fb.up hr.2
   obtain ⟨cs,⟨tv,rfl,ht⟩,ak⟩:=cZ.cell ah;have hstep:ofG l crrs en pa (k+1)=ofG l crrs en pa k++if svB crrs en pa l[k]=true then [ofE crrs l[k] k] else []:=by rw [ofG,show l.getD k default=l[k] by simp [ah]]
   have fC:=Zav l crrs en pa k;have rc:=ho.ret _ (Xc ah);have mx:=ho.crr _ (Xc ah);have br:=ho.sent _ (Xc ah);refine QO ?_;refine Z7 (Z25 rfl rfl cZ ah ⟨tv,rfl,ht⟩ ak) rfl ?_;refine Z0 Z4 rfl ?_;rintro _ w3 ⟨b12,rfl,mg,e12,hA⟩;refine W ?_;refine SB (us:=atC l[k] tv) (Z1.one (x:=l[k]) (w:=w2) (X:=[]) ⟨tv,rfl,ht⟩) e12 ?_;rintro _ w4 ⟨dg,e12⟩;replace hA:=hA.ow dg;replace hr:=hr.up hA;replace ht:=ht.up hA;clear hA dg cZ ak;have cg:SlV [] w4 cv crrs:=(rb.up hS).up hr.2;have skip:svB crrs en pa l[k]=false->ofG l crrs en pa (k+1)=ofG l crrs en pa k:=λh=>by rw [hstep,h,if_neg (by simp),XJ]
   repeat'(first|refine W1 ?_|omega|refine VG ?_ ?_<;>intro hg|refine VC ?_ ?_<;>intro hc)
   all_goals try exact QL (k+1,rv) ⟨ah,by rw [skip (by simp only [svB,Bool.and_eq_false_iff,decide_eq_false_iff_not];exact .inl (λh=>by omega))];exact hr⟩ (by dsimp only;omega)
   refine CP (Stp.refl [] w4) (Z9q tv cv l[k].rets crrs l[k].sent _ ht cg rc br) λw5 hA _=>?_;replace hr:=hr.up hA;replace e12:=e12.up hA;replace cg:=cg.up hA;clear hA ht;unfold svB at hstep skip;unfold ofE at hstep;generalize Z1A l[k].rets crrs l[k].sent=sv at *;obtain ⟨d,ok⟩:=sv;cases ok with
   | false=>
     dsimp only at skip ⊢;refine QO ?_;exact QL (k+1,rv) ⟨ah,by rw [skip (by simp)];exact hr⟩ (by dsimp only;omega)
   | true=>
     rw [if_pos (by simp only [Bool.and_true,decide_eq_true_eq];constructor<;>omega)] at hstep;obtain ⟨j,hj⟩:∃ j:Nat,l[k].crr=j:=⟨l[k].crr.toNat,by omega⟩
     have dB:j<crrs.length:=by omega
     rw [hj,show crrs.getD ((j:Int).toNat) ⟨0,0⟩=crrs[j] by simp [dB]] at hstep;dsimp only at hstep ⊢;refine QO ?_;refine Z9 (vs:=[(0,.I d),(1,.I crrs[j].extra),(2,.I k)]) rfl (Zef _ _ _) rfl ?_;refine AP1 (⟨d,crrs[j].extra,k⟩:Svc) hr (by omega) λv1 v' w' aV _=>?_
     refine QO ?_;exact QL (k+1,v') ⟨ah,by rw [hstep];exact aV⟩ (by dsimp only;omega)
 obtain rfl:k=l.length:=by omega
 have dS:SlV [] w2 rv (ofG l crrs en pa l.length):=hr.slv (by simp);replace e8:=e8.up hr.2;replace hS:=hS.trans hr.2;clear hr;unfold Z2W;refine QO ?_;refine CP hS (Zee rv _ _ dS) λw3 hT hS=>?_;replace e8:=e8.up hT;refine W ?_;refine SA (us:=Z2.enc (Z2F (ofG l crrs en pa l.length)).1) e8 ?_;rintro _ w4 ⟨hA,e8⟩;refine W ?_;refine ZY rfl rfl rfl e8 rfl rfl ?_;exact .mk ⟨rfl,hS.ow hA⟩
theorem Zeg (a b c:Int) (w):(Instr.build 73 #[(0,.I a),(1,.I b),(2,.I c)]).run Tryz.prog w=.ok (aG (⟨a,b,c⟩:Rsn)) w:=by kernel_rfl
structure Nte (w0:World) (bd:Nat) (w:World) (d:Dln) (rv:Value):Prop where
 blk:Blk w bd 69 (dlC d rv)
 row:Row [bd] w w0.heap.size 73 rv d.reas
 stp:Stp [bd] w0 w
 lt:bd<w0.heap.size
 len:d.reas.length<=100000
theorem Z1k (w0:World) (bd:Nat) (d:Dln) (rv:Value) (k a b:Int) (w) (h:Nte w0 bd w d rv) (hl:d.reas.length+1<=100000) :
 CC 38 #[.I k,.I a,.I b,pQ bd] w λr w'=>∃ rv',Nte w0 bd w' { d with reas:=d.reas++[⟨k,a,b⟩] } rv'/\Stp (bd :: ob rv) w w'/\∀ b∈ob rv',b∈ob rv\/w.heap.size<=b:=by
 obtain ⟨e3,hr,hS,ah,am⟩:=h;refine cW4 16 Tryz.func38 ?_;refine W ?_;refine Z9 (vs:=[(0,.I k),(1,.I a),(2,.I b)]) rfl (Zeg _ _ _) rfl ?_;refine APR (X:=[bd]) (base:=w0.heap.size) (⟨k,a,b⟩:Rsn) hr (λc hc=>by have:=hS.size;simp at hc;omega) hS.size (by omega) λv1 v' w1 aV hT aJ=>?_
 have e3':Blk w1 bd 69 (dlC d rv):=e3.ext hT (λhb=>by have:=(hr.ob_le bd hb).1;omega);refine W ?_;have df:SlV [bd] w1 v' (d.reas++[⟨k,a,b⟩]):=aV.slv (λc hc=>by simp at hc;omega);refine Z5 (Zj (u:=v') rfl rfl df.cells df.one e3' (by simp)) ?_;rintro _ w2 ⟨aK,e3''⟩;refine W ?_;refine WR ?_;refine .mk ⟨v',⟨e3'',aV.ext aK (λc hc=>?_) (λc hc=>.inl hc),?_,ah,by simp;omega⟩,(hT.mono (λc hc=>by simp [hc])).trans aK.mn,aJ⟩;simp only [Xw] at hc;subst hc;exact ⟨by simp,λh=>by have:=(aV.ob_le c h).1;omega⟩;refine (hS.own hT (λc hc=>.inr (hr.ob_le c hc).1)).trans aK
def Res (K:MK) (w:World) (st:List Int) (sp:List Spn) (at_:Int) (r:Int×Int):Prop:=
 ∃ sv pv st2 sp2,Mch K w sv pv st2 sp2 at_ r.2 (decide (¬ r.2=0))/\(r.2=0->st2=st++[r.1]/\sp2=sp)
section
variable {K:MK} {w w':World} {sv pv:Value} {st:List Int} {sp:List Spn} {at_ er:Int} {dn:Bool}
abbrev mP (K:MK):Value:=.pointer (some ⟨K.bm,0,none⟩)
theorem Z8e (hK:KOk K) {v:Int} (h:Mch K w sv pv (st++[v]) sp at_ er dn) :
 CC 73 #[mP K] w λr w'=>r=.I v/\(∃ sv',Mch K w' sv' pv st sp at_ er dn)/\Stp [K.bm] w w':=by
 have ab:=h.blk;have ac:=h.row;unfold Z3j at ab;have hs:=ac.slv (X:=[]) (by simp);have hz:((st++[v]).length:Int) - 1=(st.length:Int):=by simp
 have hi:st.length<(st++[v]).length:=by simp
 have hm:=hs.max;refine cW1 28 Tryz.func73 ?_;refine W ?_;refine Z7 (Z1q rfl hs rfl hz (by omega)) rfl ?_;refine W ?_;have hc:=ac.cut (r:=st.length) (by omega);rw [YaJ rfl] at hc;have h1:=hc.slv (X:=[]) (by simp);refine Z5 (Zj (u:=slc sv 0 st.length 1) rfl rfl h1.cells h1.one ab (by simp [evC,Jq])) ?_;rintro _ w1 ⟨ae,aT⟩;refine RT ?_;exact ⟨by simp,⟨slc sv 0 st.length 1,h.stack hK (Stp.refl _ _) hc (λb hb=>.inl (by rw [<- Z4L sv st.length 1];exact hb)) ae aT⟩,ae⟩
theorem Z1B (hK:KOk K) {v:Int} (h:Mch K w sv pv (st++[v]) sp at_ er dn) :
 CC 73 #[mP K] w λr w'=>r=.I v/\∃ sv',Mch K w' sv' pv st sp at_ er dn:=
 Go.Eng.Calls.ret (Z8e hK h) (λ_ _ h=>⟨h.1,h.2.1⟩)
theorem Jl (hK:KOk K) {a b:Int} (h:Mch K w sv pv (st++[a,b]) sp at_ er dn) :
 CC 188 #[mP K] w λr w'=>r=.tuple #[.I a,.I b]/\∃ sv',Mch K w' sv' pv st sp at_ er dn:=by
 refine cW1 10 Tryz.func188 ?_;refine W ?_;refine CM (ZO rfl) (Z1B (st:=st++[a]) (v:=b) hK (by simpa using h)) ?_;rintro _ w1 ⟨rfl,sv1,h1⟩;refine W ?_;refine CL (Z1B hK h1) ?_;rintro _ w2 ⟨rfl,sv2,h2⟩;refine RT ?_;exact ⟨rfl,sv2,h2⟩
theorem Jy (hK:KOk K) (h:Mch K w sv pv st sp at_ 0 false) (hl:st.length<=100000) (n e:Int) :
 CC 187 #[mP K,.I n,.I e] w λr w'=>r=.tuple #[]/\Res K w' st sp at_ (n,e):=by
 refine Go.Eng.Calls.ret (ZdQ hK h n e hl) ?_;rintro v w' ⟨rfl,sv',h1⟩;refine ⟨rfl,sv',pv,if e=0 then st++[n] else st,sp,?_,λhe=>⟨if_pos he,rfl⟩⟩;by_cases he:e=0;subst he;simpa using h1;simpa [he] using h1
theorem Zaw (hK:KOk K) (h:Mch K w sv pv st sp at_ 0 false) (hl:st.length<=100000) (n a b:Int) :
 CC 236 #[mP K,.I n,.I a,.I b] w λr w'=>r=.tuple #[]/\Res K w' st sp at_ (if n<a\/b<n then (0,5) else (n,0)):=by
 refine cW4 21 Tryz.func236 ?_;by_cases hc:n<a\/b<n
 . rw [if_pos hc]
   repeat'(first|refine W1 ?_|omega|refine VG ?_ ?_<;>intro hg|refine VC ?_ ?_<;>intro hc)
   all_goals
    refine CL (Jy hK h hl 0 5) ?_;rintro _ w1 ⟨rfl,h1⟩;refine RT ?_;exact ⟨rfl,h1⟩
 rw [if_neg hc];refine QO ?_;refine CL (Jy hK h hl n 0) ?_;rintro _ w1 ⟨rfl,h1⟩;refine RT ?_;exact ⟨rfl,h1⟩
theorem Z3p (hK:KOk K) (h:Mch K w sv pv st sp at_ 0 false) (hl:st.length<=100000) (n:Int) :
 CC 189 #[mP K,.I n] w λr w'=>r=.tuple #[]/\Res K w' st sp at_ (Z2A n):=by
 refine cW2 7 Tryz.func189 ?_;refine W ?_;refine CL (Zaw hK h hl n _ _) ?_;rintro _ w1 ⟨rfl,h1⟩;refine RT ?_;exact ⟨rfl,h1⟩
theorem Zp8 (hK:KOk K) (h:Mch K w sv pv st sp at_ 0 false) (hl:st.length<=100000) (n:Int) :
 CC 191 #[mP K,.I n] w λr w'=>r=.tuple #[]/\Res K w' st sp at_ (Z6S n):=by
 refine cW2 7 Tryz.func191 ?_;refine W ?_;refine CL (Zaw hK h hl n _ _) ?_;rintro _ w1 ⟨rfl,h1⟩;refine RT ?_;exact ⟨rfl,h1⟩
theorem Z74 (hK:KOk K) (h:Mch K w sv pv st sp at_ 0 false) (hl:st.length<=100000) (b:Bool) :
 CC 190 #[mP K,.B b] w λr w'=>r=.tuple #[]/\Res K w' st sp at_ (Z23 b,0):=by
 refine cW2 9 Tryz.func190 ?_;cases b;refine W ?_;refine CL (Jy hK h hl 0 0) ?_;rintro _ w1 ⟨rfl,h1⟩;refine RT ?_;exact ⟨rfl,h1⟩;refine W ?_;refine CL (Jy hK h hl 1 0) ?_;rintro _ w1 ⟨rfl,h1⟩;refine RT ?_;exact ⟨rfl,h1⟩
theorem ZlU (hK:KOk K) (h:Mch K w sv pv st sp at_ 0 false) (hl:st.length<=100000) (n:Int) :
 CC 110 #[mP K,.I n] w λr w'=>r=.tuple #[]/\Res K w' st sp at_ (n,0):=by
 refine cW2 7 Tryz.func110 ?_;refine W ?_;refine CL (Jy hK h hl n 0) ?_;rintro _ w1 ⟨rfl,h1⟩;refine RT ?_;exact ⟨rfl,h1⟩
theorem Zqd (hK:KOk K) {a b:Int} (h:Mch K w sv pv (st++[a,b]) sp at_ 0 false) (hl:st.length<=100000) (n:Int) (hr:I64 (a+b)) :
 CC 112 #[mP K,.I n] w λr w'=>r=.tuple #[]/\Res K w' st sp at_ (Z2A (a+b)):=by
 try unfold I64 at hr
 refine cW2 16 Tryz.func112 ?_;refine W ?_;refine CL (Jl hK h) ?_;rintro _ w1 ⟨rfl,sv1,h1⟩;refine W ?_;refine CL (Z3p hK h1 hl _) ?_;rintro _ w2 ⟨rfl,h2⟩;refine RT ?_;exact ⟨rfl,h2⟩
theorem Zqe (hK:KOk K) {a b:Int} (h:Mch K w sv pv (st++[a,b]) sp at_ 0 false) (hl:st.length<=100000) (n:Int) (hr:I64 (a - b)) :
 CC 113 #[mP K,.I n] w λr w'=>r=.tuple #[]/\Res K w' st sp at_ (Z2A (a - b)):=by
 try unfold I64 at hr
 refine cW2 16 Tryz.func113 ?_;refine W ?_;refine CL (Jl hK h) ?_;rintro _ w1 ⟨rfl,sv1,h1⟩;refine W ?_;refine CL (Z3p hK h1 hl _) ?_;rintro _ w2 ⟨rfl,h2⟩;refine RT ?_;exact ⟨rfl,h2⟩
theorem Zqf (hK:KOk K) {a b:Int} (h:Mch K w sv pv (st++[a,b]) sp at_ 0 false) (hl:st.length<=100000) (n:Int) (hr:I64 (a * b)) :
 CC 114 #[mP K,.I n] w λr w'=>r=.tuple #[]/\Res K w' st sp at_ (Z2A (a * b)):=by
 try unfold I64 at hr
 refine cW2 16 Tryz.func114 ?_;refine W ?_;refine CL (Jl hK h) ?_;rintro _ w1 ⟨rfl,sv1,h1⟩;refine W ?_;refine CL (Z3p hK h1 hl _) ?_;rintro _ w2 ⟨rfl,h2⟩;refine RT ?_;exact ⟨rfl,h2⟩
theorem ltV (hK:KOk K) {a b:Int} (h:Mch K w sv pv (st++[a,b]) sp at_ 0 false) (hl:st.length<=100000) (n:Int) (hr:True) :
 CC 116 #[mP K,.I n] w λr w'=>r=.tuple #[]/\Res K w' st sp at_ ((Z23 (decide (a<b)),0)):=by
 try unfold I64 at hr
 refine cW2 16 Tryz.func116 ?_;refine W ?_;refine CL (Jl hK h) ?_;rintro _ w1 ⟨rfl,sv1,h1⟩;refine W ?_;refine CL (Z74 hK h1 hl _) ?_;rintro _ w2 ⟨rfl,h2⟩;refine RT ?_;exact ⟨rfl,h2⟩
theorem leV (hK:KOk K) {a b:Int} (h:Mch K w sv pv (st++[a,b]) sp at_ 0 false) (hl:st.length<=100000) (n:Int) (hr:True) :
 CC 117 #[mP K,.I n] w λr w'=>r=.tuple #[]/\Res K w' st sp at_ ((Z23 (decide (a<=b)),0)):=by
 try unfold I64 at hr
 refine cW2 16 Tryz.func117 ?_;refine W ?_;refine CL (Jl hK h) ?_;rintro _ w1 ⟨rfl,sv1,h1⟩;refine W ?_;refine CL (Z74 hK h1 hl _) ?_;rintro _ w2 ⟨rfl,h2⟩;refine RT ?_;exact ⟨rfl,h2⟩
theorem eqV (hK:KOk K) {a b:Int} (h:Mch K w sv pv (st++[a,b]) sp at_ 0 false) (hl:st.length<=100000) (n:Int) (hr:True) :
 CC 118 #[mP K,.I n] w λr w'=>r=.tuple #[]/\Res K w' st sp at_ ((Z23 (decide (a=b)),0)):=by
 try unfold I64 at hr
 refine cW2 16 Tryz.func118 ?_;refine W ?_;refine CL (Jl hK h) ?_;rintro _ w1 ⟨rfl,sv1,h1⟩;refine W ?_;refine CL (Z74 hK h1 hl _) ?_;rintro _ w2 ⟨rfl,h2⟩;refine RT ?_;exact ⟨rfl,h2⟩
theorem Zp9 (hK:KOk K) {a b:Int} (h:Mch K w sv pv (st++[a,b]) sp at_ 0 false) (hl:st.length<=100000) (n:Int) (hr:I64 (a+b)) :
 CC 122 #[mP K,.I n] w λr w'=>r=.tuple #[]/\Res K w' st sp at_ (Z6S (a+b)):=by
 try unfold I64 at hr
 refine cW2 16 Tryz.func122 ?_;refine W ?_;refine CL (Jl hK h) ?_;rintro _ w1 ⟨rfl,sv1,h1⟩;refine W ?_;refine CL (Zp8 hK h1 hl _) ?_;rintro _ w2 ⟨rfl,h2⟩;refine RT ?_;exact ⟨rfl,h2⟩
theorem ZlV (hK:KOk K) {a b:Int} (h:Mch K w sv pv (st++[a,b]) sp at_ 0 false) (hl:st.length<=100000) (n:Int) (hr:I64 (7 * b)/\I64 (a+7 * b)) :
 CC 123 #[mP K,.I n] w λr w'=>r=.tuple #[]/\Res K w' st sp at_ (Z6S (a+7 * b)):=by
 try unfold I64 at hr
 refine cW2 17 Tryz.func123 ?_;refine W ?_;refine CL (Jl hK h) ?_;rintro _ w1 ⟨rfl,sv1,h1⟩;refine W ?_;refine CL (Zp8 hK h1 hl _) ?_;rintro _ w2 ⟨rfl,h2⟩;refine RT ?_;exact ⟨rfl,h2⟩
theorem ZlW (hK:KOk K) {a b:Int} (h:Mch K w sv pv (st++[a,b]) sp at_ 0 false) (hl:st.length<=100000) (n:Int) (hr:True) :
 CC 128 #[mP K,.I n] w λr w'=>r=.tuple #[]/\Res K w' st sp at_ ((max a b,0)):=by
 try unfold I64 at hr
 refine cW2 16 Tryz.func128 ?_;refine W ?_;refine CL (Jl hK h) ?_;rintro _ w1 ⟨rfl,sv1,h1⟩;refine W ?_;refine CL (Jy hK h1 hl _ 0) ?_;rintro _ w2 ⟨rfl,h2⟩;refine RT ?_;exact ⟨rfl,h2⟩
theorem Zeh (hK:KOk K) {a b:Int} (h:Mch K w sv pv (st++[a,b]) sp at_ 0 false) (hl:st.length<=100000) (n:Int) (hr:True) :
 CC 129 #[mP K,.I n] w λr w'=>r=.tuple #[]/\Res K w' st sp at_ ((min a b,0)):=by
 try unfold I64 at hr
 refine cW2 16 Tryz.func129 ?_;refine W ?_;refine CL (Jl hK h) ?_;rintro _ w1 ⟨rfl,sv1,h1⟩;refine W ?_;refine CL (Jy hK h1 hl _ 0) ?_;rintro _ w2 ⟨rfl,h2⟩;refine RT ?_;exact ⟨rfl,h2⟩
theorem Zei (hK:KOk K) {a b:Int} (h:Mch K w sv pv (st++[a,b]) sp at_ 0 false) (hl:st.length<=100000) (n:Int) (hr:I64 (b - a)) :
 CC 130 #[mP K,.I n] w λr w'=>r=.tuple #[]/\Res K w' st sp at_ (Z2A (b - a)):=by
 try unfold I64 at hr
 refine cW2 16 Tryz.func130 ?_;refine W ?_;refine CL (Jl hK h) ?_;rintro _ w1 ⟨rfl,sv1,h1⟩;refine W ?_;refine CL (Z3p hK h1 hl _) ?_;rintro _ w2 ⟨rfl,h2⟩;refine RT ?_;exact ⟨rfl,h2⟩
end
section
variable {K:MK} {w w':World} {sv pv:Value} {st:List Int} {sp:List Spn} {at_ er:Int} {dn:Bool}
theorem Zqg (hK:KOk K) {b:Int} (h:Mch K w sv pv (st++[b]) sp at_ 0 false) (hl:st.length<=100000) (n:Int) (hr:I64 (-b)) :
 CC 115 #[mP K,.I n] w λr w'=>r=.tuple #[]/\Res K w' st sp at_ (Z2A (-b)):=by
 unfold I64 at hr;refine cW2 9 Tryz.func115 ?_;refine W ?_;refine CL (Z1B hK h) ?_;rintro _ w1 ⟨rfl,sv1,h1⟩;refine W ?_;refine CL (Z3p hK h1 hl _) ?_;rintro _ w2 ⟨rfl,h2⟩;refine RT ?_;exact ⟨rfl,h2⟩
theorem Zqh (hK:KOk K) {b:Int} (h:Mch K w sv pv (st++[b]) sp at_ 0 false) (hl:st.length<=100000) (n:Int) :
 CC 119 #[mP K,.I n] w λr w'=>r=.tuple #[]/\Res K w' st sp at_ (Z23 (decide (b=0)),0):=by
 refine cW2 9 Tryz.func119 ?_;refine W ?_;refine CL (Z1B hK h) ?_;rintro _ w1 ⟨rfl,sv1,h1⟩;refine W ?_;refine CL (Z74 hK h1 hl _) ?_;rintro _ w2 ⟨rfl,h2⟩;refine RT ?_;exact ⟨rfl,h2⟩
theorem Zpa (hK:KOk K) (h:Mch K w sv pv st sp at_ er dn) (n:Int) :
 CC 120 #[mP K,.I n] w λr w'=>r=.tuple #[]/\Mch K w' sv pv st sp n er dn:=by
 have ab:=h.blk;unfold Z3j at ab;refine cW2 8 Tryz.func120 ?_;refine W ?_;refine Z5 (Zj (u:=.I n) rfl rfl rfl rfl ab (by simp [evC,Jq])) ?_;rintro _ w1 ⟨ae,aT⟩;refine RT ?_;exact ⟨rfl,h.put hK ae aT⟩
theorem Zpb (hK:KOk K) (h:Mch K w sv pv st sp at_ er dn) (n:Int) :
 CC 131 #[mP K,.I n] w λr w'=>r=.tuple #[]/\Mch K w' sv pv st sp at_ er true:=by
 have ab:=h.blk;unfold Z3j at ab;refine cW2 7 Tryz.func131 ?_;refine W ?_;refine Z5 (Zj (u:=.B true) rfl rfl rfl rfl ab (by simp [evC,Jq])) ?_;rintro _ w1 ⟨ae,aT⟩;refine RT ?_;exact ⟨rfl,h.put hK ae aT⟩
theorem Zhu (hK:KOk K) {b:Int} (h:Mch K w sv pv (st++[b]) sp at_ er dn) (n:Int) :
 CC 121 #[mP K,.I n] w λr w'=>r=.tuple #[]/\∃ sv',Mch K w' sv' pv st sp (if b=0 then n else at_) er dn:=by
 refine cW2 11 Tryz.func121 ?_;refine W ?_;refine CL (Z1B hK h) ?_;rintro _ w1 ⟨rfl,sv1,h1⟩;have ab:=h1.blk;unfold Z3j at ab;by_cases hb:b=0;rw [if_pos hb];refine QO ?_;refine Z5 (Zj (u:=.I n) rfl rfl rfl rfl ab (by simp [evC,Jq])) ?_;rintro _ w2 ⟨ae,aT⟩;refine RT ?_;exact ⟨rfl,sv1,h1.put hK ae aT⟩;rw [if_neg hb];refine RT ?_;exact ⟨rfl,sv1,h1⟩
theorem Zhv (a b c d e f g:Int) (w):(Instr.build 285 #[(0,.I a),(1,.I b),(2,.I c),(3,.I d),(4,.I e),(5,.I f),(6,.I g)]).run Tryz.prog w=.ok (.agg #[.I a,.I b,.I c,.I d,.I e,.I f,.I g]) w:=by kernel_rfl
theorem fieldV (hK:KOk K) (h:Mch K w sv pv st sp at_ 0 false) (hl:st.length<=100000) (n:Int) (h0:0<=n) (h7:n<7) :
 CC 111 #[mP K,.I n] w λr w'=>r=.tuple #[]/\Res K w' st sp at_ (Z6T K.ev n):=by
 have ab:=h.blk;unfold Z3j evC Jq at ab;have oh:=hK.bml;have bJ:=hK.ev.served;refine cW2 56 Tryz.func111 ?_;refine W ?_;refine ZDr 38 [] [37] [(0,0),(1,0),(2,0),(3,0),(4,1),(5,0),(6,0),(7,0),(8,0),(9,1),(10,0),(11,0),(12,0),(13,0),(14,1),(15,0),(16,0),(17,0),(18,0),(19,1),(20,0),(21,0),(22,0),(23,0),(24,1),(25,0),(26,0),(27,0),(28,0),(29,1),(30,0),(31,0),(32,0),(33,0),(34,1),(35,0),(36,2),(37,2)] (λw1 ae=>?_);replace h:=h.up ae;replace ab:=ab.up ae;refine D ?_;refine Z34 rfl trivial rfl (Zhv _ _ _ _ _ _ _) rfl ?_;refine Zp rfl trivial Z4 (λ_ _ ⟨_,_,_,_,h⟩=>h) rfl ?_;rintro _ w2 ⟨b2,rfl,fw,e2,ai⟩;refine Jg rfl trivial (Jf (us:=evC K.ev) rfl rfl rfl rfl (by intro u hu;simp [evC] at hu;rcases hu with rfl|rfl|rfl|rfl|rfl|rfl|rfl<;>rfl) e2 rfl) rfl ?_;rintro _ w3 ⟨hT,e3⟩;have aw:=ai.ow hT;replace h:=h.up aw;unfold evC at e3;refine D ?_;clear ab ae e2 hT ai aw;have fin:∀ (v e:Int),(v,e)=Z6T K.ev n->∀ w',Res K w' st sp at_ (v,e)->Ret (λr w'=>r=.tuple #[]/\Res K w' st sp at_ (Z6T K.ev n)) (.returned (.tuple #[])) w':=by
  intro v e he w' hr;rw [<- he];exact .mk ⟨rfl,hr⟩
 have hn:n=0\/n=1\/n=2\/n=3\/n=4\/n=5\/n=6:=by omega
 rcases hn with rfl|rfl|rfl|rfl|rfl|rfl|rfl
 case inr.inl=>
  by_cases hs:K.ev.getD 1 0<0;refine QO ?_;focus repeat'(first|refine W1 ?_|omega|refine VG ?_ ?_<;>intro hg|refine VC ?_ ?_<;>intro hc)
  refine CL (Jy hK h hl 0 32) ?_;rintro _ w4 ⟨rfl,h1⟩;refine W ?_;refine WR ?_;refine fin _ _ ?_ _ h1;unfold Z6T;rw [if_pos ⟨rfl,by omega⟩];refine QO ?_;focus repeat'(first|refine W1 ?_|omega|refine VG ?_ ?_<;>intro hg|refine VC ?_ ?_<;>intro hc)
  focus repeat'(first|refine W1 ?_|omega|refine VG ?_ ?_<;>intro hg|refine VC ?_ ?_<;>intro hc)
  refine CL (Jy hK h hl _ 0) ?_;rintro _ w4 ⟨rfl,h1⟩;refine W ?_;refine WR ?_;refine fin _ _ ?_ _ h1;unfold Z6T;rw [if_neg (by rintro ⟨-,h⟩;omega)];rfl
 case inl=>
  refine QO ?_;repeat'(first|refine W1 ?_|omega|refine VG ?_ ?_<;>intro hg|refine VC ?_ ?_<;>intro hc)
  refine CL (Jy hK h hl _ 0) ?_;rintro _ w4 ⟨rfl,h1⟩;refine W ?_;refine WR ?_;exact fin _ _ rfl _ h1
 case inr.inr.inl=>
  refine QO ?_;repeat'(first|refine W1 ?_|omega|refine VG ?_ ?_<;>intro hg|refine VC ?_ ?_<;>intro hc)
  refine CL (Jy hK h hl _ 0) ?_;rintro _ w4 ⟨rfl,h1⟩;refine W ?_;refine WR ?_;exact fin _ _ rfl _ h1
 case inr.inr.inr.inl=>
  refine QO ?_;refine Z35 (len:=7) (i:=3) rfl rfl rfl (by decide) rfl ?_;refine QO ?_;refine CL (Jy hK h hl _ 0) ?_;rintro _ w4 ⟨rfl,h1⟩;refine W ?_;refine WR ?_;exact fin _ _ rfl _ h1
 case inr.inr.inr.inr.inl=>
  refine QO ?_;refine Z35 (len:=7) (i:=4) rfl rfl rfl (by decide) rfl ?_;refine QO ?_;refine CL (Jy hK h hl _ 0) ?_;rintro _ w4 ⟨rfl,h1⟩;refine W ?_;refine WR ?_;exact fin _ _ rfl _ h1
 case inr.inr.inr.inr.inr.inl=>
  refine QO ?_;refine Z35 (len:=7) (i:=5) rfl rfl rfl (by decide) rfl ?_;refine QO ?_;refine CL (Jy hK h hl _ 0) ?_;rintro _ w4 ⟨rfl,h1⟩;refine W ?_;refine WR ?_;exact fin _ _ rfl _ h1
 case inr.inr.inr.inr.inr.inr=>
  refine QO ?_;refine Z35 (len:=7) (i:=6) rfl rfl rfl (by decide) rfl ?_;refine QO ?_;refine CL (Jy hK h hl _ 0) ?_;rintro _ w4 ⟨rfl,h1⟩;refine W ?_;refine WR ?_;exact fin _ _ rfl _ h1
end
def Z4s {α:Type} [Z2 α] (P:Program) (S:List Nat) (g:Nat) (lb:Array Value) (c:α->α->Int) (w:World):Prop:=
 ∀ (x y:α) (w':World),Stp S w w'->Calls P g (#[agg x,agg y]++lb) w' (Ret λv w''=>v=.I (c x y)/\Stp [] w' w'')
theorem Zax (x:Int) (w):CC 100 #[.I x] w λv w'=>v=.B false/\Stp [] w w':=by
 refine cW1 6 Tryz.func100 ?_;repeat'(first|(apply Z2j;exact rfl;exact rfl)|apply Z3E|(apply Z4x;exact rfl;exact rfl)|(apply ZiQ;exact rfl;exact rfl;exact rfl)|(apply Zfk;exact rfl;exact rfl;exact rfl)|apply Z2J|apply Z0D|apply Z4F|refine Z2g ?_|refine Z0d ?_)
 refine RU ?_;exact ⟨by simp,Stp.refl _ _⟩
def Z1C (x y:Int):Int:=if x<y then -1 else if x > y then 1 else 0
theorem Z0j (x y:Int) (w):CC 54 #[.I x,.I y] w λv w'=>v=.I (Z1C x y)/\Stp [] w w':=by
 refine cW2 20 Tryz.func54 ?_;repeat'(first|(apply Z2j;exact rfl;exact rfl)|apply Z3E|(apply Z4x;exact rfl;exact rfl)|(apply Z8N;exact rfl;exact rfl;exact rfl)|(apply Z8O;exact rfl;exact rfl;exact rfl)|apply Z2J|apply Z0D|apply Z4v|apply Z4F|(apply Z0u;exact rfl)|(apply Z0a;exact rfl)|refine Z2g ?_|refine Z0d ?_)
 refine CL (Zax _ _) ?_;rintro _ w1 ⟨rfl,hS⟩;repeat'(first|(apply Z2j;exact rfl;exact rfl)|apply Z3E|(apply Z4x;exact rfl;exact rfl)|(apply Z8N;exact rfl;exact rfl;exact rfl)|(apply Z8O;exact rfl;exact rfl;exact rfl)|apply Z2J|apply Z0D|apply Z4v|apply Z4F|(apply Z0u;exact rfl)|(apply Z0a;exact rfl)|refine Z2g ?_|refine Z0d ?_)
 refine CL (Zax _ _) ?_;rintro _ w2 ⟨rfl,ai⟩;replace hS:=hS.trans ai;repeat'(first|(apply Z2j;exact rfl;exact rfl)|apply Z3E|(apply Z4x;exact rfl;exact rfl)|(apply Z8N;exact rfl;exact rfl;exact rfl)|(apply Z8O;exact rfl;exact rfl;exact rfl)|apply Z2J|apply Z0D|apply Z4v|apply Z4F|(apply Z0u;exact rfl)|(apply Z0a;exact rfl)|refine Z2g ?_|refine Z0d ?_|refine Z6l rfl (λhc=>?_) (λhc=>?_)|refine Z7i rfl (λhc=>?_) (λhc=>?_))
 all_goals (refine WR ?_)
 all_goals exact .mk ⟨by unfold Z1C;(first|(simp_all;done)|(rw [if_neg (by omega),if_neg (by omega)])),hS⟩
def put {α:Type} (pre rest:List α) (x:α) (j:Nat):List α:=pre.take j++x :: pre.drop j++rest
theorem Z5a {α:Type} {pre rest:List α} {x:α} {j:Nat} (hj:j<pre.length):((put pre rest x (j+1)).set (j+1) pre[j]).set j x=put pre rest x j:=by
 have h1:pre.take (j+1)=pre.take j++[pre[j]]:=Xf hj;have h2:pre.drop j=pre[j] :: pre.drop (j+1):=X5 hj;have hl:(pre.take j).length=j:=by simp;omega
 unfold put;rw [h1,h2];simp only [XA,X9,XM];rw [YbO,if_neg (by omega),hl,show j+1 - j=1 by omega];rw [YbO,if_neg (by omega),hl,Nat.sub_self];rfl
theorem Z9r {α:Type} {pre rest:List α} {x:α} {j:Nat} (hj:j<=pre.length) (h:j<(put pre rest x j).length):(put pre rest x j)[j]=x:=by
 rw [List.getElem_eq_iff];unfold put;rw [Yae (by simp;omega),Yaz (by simp;omega)];simp [X7 hj]
theorem Z2X {α:Type} {pre rest:List α} {x:α} {j:Nat} (hj:j<pre.length) (h:j<(put pre rest x (j+1)).length):(put pre rest x (j+1))[j]=pre[j]:=by
 rw [List.getElem_eq_iff];unfold put;rw [Yae (by simp;omega),Yae (by simp;omega)];simp [hj]
theorem Z0A {α:Type} {pre rest:List α} {x:α} {j:Nat}:(put pre rest x j).length=pre.length+1+rest.length:=by
 have:=congrArg List.length (Xy j pre);simp only [Xe] at this;simp only [put,Xe,Xo];omega
def JU {α:Type} (c:α->α->Int) (xs ys:List α):Prop:=ys.Perm xs/\ys.Pairwise (λa b=>¬ c b a<0)
structure Ord {α:Type} (c:α->α->Int):Prop where
 asym:∀ a b,c a b<0->¬ c b a<0
 trans:∀ a b d,¬ c b a<0->¬ c d b<0->¬ c d a<0
theorem Z2Y {α:Type} {c:α->α->Int} (ho:Ord c) {pre:List α} {x:α} {j:Nat} (hj:j<=pre.length) (hp:pre.Pairwise (λa b=>¬ c b a<0))
 (h1:∀ q (h:q<pre.length),j<=q->c x pre[q]<0) (h2:∀ h:j - 1<pre.length,0<j->¬ c x pre[j - 1]<0):(pre.take j++x :: pre.drop j).Pairwise (λa b=>¬ c b a<0):=by
 rw [YaL];have hd:∀ a∈pre.drop j,c x a<0:=by
  intro a ha;obtain ⟨m,hm,rfl⟩:=Xq ha;simp only [List.getElem_drop];simp at hm;exact h1 _ _ (by omega)
 have ht:∀ a∈pre.take j,¬ c x a<0:=by
  intro a ha;obtain ⟨m,hm,rfl⟩:=Xq ha;simp only [Xv] at hm;simp only [YbG];by_cases e:m=j - 1;subst e;exact h2 (by omega) (by omega);exact ho.trans _ _ _ (YaI.1 hp m (j - 1) (by omega) (by omega) (by omega)) (h2 (by omega) (by omega))
 refine ⟨hp.sublist (List.take_sublist _ _),?_,?_⟩;rw [X6];exact ⟨λa ha=>ho.asym _ _ (hd a ha),hp.sublist (List.drop_sublist _ _)⟩;intro a ha b hb;rcases Xd.1 hb with rfl|hb
 exact ht a ha;exact λh=>by
  have h3:=hd b hb;exact ho.trans a x b (ht a ha) (ho.asym _ _ h3) h
theorem Z0B (x y:Int):Z1C x y<0↔x<y:=by unfold Z1C;split<;>(try split)<;>omega
def Z10 (y:Nat):Nat:=
 let a:=y % 19
 let b:=y / 100
 let c:=y % 100
 let g:=(b - (b+8) / 25+1) / 3
 let h:=(19 * a+b - b / 4 - g+15) % 30
 let l:=(32+2 * (b % 4)+2 * (c / 4) - h - c % 4) % 7
 h+l+114 - 7 * ((a+11 * h+22 * l) / 451)
def Zpc (y:Nat):Nat:=(11 * (y % 19+1)+20+((8 * (y / 100+1)+5) / 25 - 5)+60 - (3 * (y / 100+1) / 4 - 12)) % 30
def Zpd (e g:Nat):Nat:=bif Nat.beq e 24 || (Nat.beq e 25 && Nat.blt 11 g) then e+1 else e
def Zpe (e d:Nat):Nat:=let n:=(bif Nat.blt (44 - e) 21 then 44 - e+30 else 44 - e);n+7 - (d+n) % 7
def Zej (y:Nat):Nat:=Zpe (Zpd (Zpc y) (y % 19+1)) (5 * y / 4 - (3 * (y / 100+1) / 4 - 12) - 10)
def Zay (y:Nat):Bool:=Nat.beq (Z10 y) (Zej y+92) && (Nat.ble 114 (Z10 y) && Nat.ble (Z10 y) 148)
def Zbq:Nat->Nat->Bool
 | 0,lo=>Zay lo
 | k+1,lo=>Zbq k lo && Zbq k (lo+2 ^ k)
theorem Z2t:∀ (k lo d:Nat),Zbq k lo=true->lo<=d->d<lo+2 ^ k->Zay d=true
 | 0, lo, d, h, h1, h2 => by
   have:d=lo:=by simp at h2;omega
   subst this;exact h
 | k + 1, lo, d, h, h1, h2 => by
   simp only [Zbq,Xa] at h;rcases YbC d (lo+2 ^ k) with h3|h3
   exact Z2t k lo d h.1 h1 h3;exact Z2t k _ d h.2 h3 (by rw [Nat.pow_succ] at h2;omega)
theorem Zbr:Zbq 13 1583=true:=by kernel_rfl
theorem Zbs:Zbq 8 9775=true:=by kernel_rfl
theorem Zhw {y:Nat} (h1:1583<=y) (h2:y<=9999):Z10 y=Zej y+92/\114<=Z10 y/\Z10 y<=148:=by
 have h:Zay y=true:=by
  rcases YbC y 9775 with h3|h3
  exact Z2t 13 1583 y Zbr h1 (by omega);exact Z2t 8 9775 y Zbs h3 (by omega)
 unfold Zay at h;simp only [Xa] at h;exact ⟨Xk h.1,Xb h.2.1,Xb h.2.2⟩
theorem Zbt {y:Nat} (h1:1583<=y) (h2:y<=9999):Z1J (y:Int)=(Z10 y:Int):=by
 unfold Z1J Z10;dsimp only;have e1:(y:Int) % 19=((y % 19:Nat):Int):=by omega
 have e2:(y:Int) / 100=((y / 100:Nat):Int):=by omega
 have e3:(y:Int) % 100=((y % 100:Nat):Int):=by omega
 rw [e1,e2,e3];have ha:y % 19<=18:=by omega
 have hb:15<=y / 100/\y / 100<=99:=by omega
 have hc:y % 100<=99:=by omega
 generalize y % 19=a at *;generalize y / 100=b at *;generalize y % 100=c at *;have e4:((b:Int) - ((b:Int)+8) / 25+1) / 3=(((b - (b+8) / 25+1) / 3:Nat):Int):=by omega
 have hg:(b - (b+8) / 25+1) / 3+b / 4<=b:=by omega
 rw [e4];generalize (b - (b+8) / 25+1) / 3=g at *;have e5:(19 * (a:Int)+(b:Int) - (b:Int) / 4 - (g:Int)+15) % 30=(((19 * a+b - b / 4 - g+15) % 30:Nat):Int):=by omega
 rw [e5];have hh:(19 * a+b - b / 4 - g+15) % 30<=29:=by omega
 generalize (19 * a+b - b / 4 - g+15) % 30=h at *;have e6:(32+2 * ((b:Int) % 4)+2 * ((c:Int) / 4) - (h:Int) - (c:Int) % 4) % 7=(((32+2 * (b % 4)+2 * (c / 4) - h - c % 4) % 7:Nat):Int):=by omega
 rw [e6];have hl:(32+2 * (b % 4)+2 * (c / 4) - h - c % 4) % 7<=6:=by omega
 generalize (32+2 * (b % 4)+2 * (c / 4) - h - c % 4) % 7=l at *;omega
theorem Z4h {y:Int} (h1:1583<=y) (h2:y<=9999):114<=Z1J y/\Z1J y<=148:=by
 obtain ⟨k,rfl⟩:∃ k:Nat,y=(k:Int):=⟨y.toNat,by omega⟩
 have:=Zhw (y:=k) (by omega) (by omega);rw [Zbt (by omega) (by omega)];omega
theorem Z9s (y d:Int):JF y 3 d=JF y 3 1+d - 1/\JF y 4 d=JF y 3 1+31+d - 1:=by
 constructor;rw [show (3:Int)=((2:Nat):Int)+1 by rfl,Z1h y d 2 (by omega),Z1h y 1 2 (by omega)];omega;rw [show (4:Int)=((3:Nat):Int)+1 by rfl,show (3:Int)=((2:Nat):Int)+1 by rfl,Z1h y d 3 (by omega),Z1h y 1 2 (by omega)];have:Z0R y 3=Z0R y 2+31:=by
  have:Z0R y 3=Z0R y 2+Zv y 3:=by simp [Z0R]
  rw [this];rfl
 omega
theorem Z11 (n a b:Int) (w):CC 107 #[.I n,.I a,.I b] w λr w'=>r=.B (decide (a<=n/\n<=b))/\w'=w:=by
 refine cW3 15 Tryz.func107 ?_;by_cases h1:n>=a;by_cases h2:n<=b;rw [decide_eq_true ⟨h1,h2⟩];refine RT ?_;exact ⟨by simp [h2],rfl⟩;rw [decide_eq_false (λh=>h2 h.2)];refine RT ?_;exact ⟨by simp [h2],rfl⟩;rw [decide_eq_false (λh=>h1 h.1)];refine RT ?_;exact ⟨rfl,rfl⟩
theorem Z29 (d:Int) (w) (h0:0<=d) (h1:d<=9000000000):CC 198 #[.I d] w λr w'=>r=.I (d % 7)/\w'=w:=by
 refine cW1 7 Tryz.func198 ?_;refine RT ?_;exact ⟨by congr 1;omega,rfl⟩
theorem Z9t (y:Int) (w):CC 184 #[.I y] w λr w'=>r=.tuple #[.I (if y<1583\/9999<y then 0 else Z3g y),.I (if y<1583\/9999<y then 5 else 0)]/\Stp [] w w':=by
 refine cW1 77 Tryz.func184 ?_;by_cases hy:y<1583\/9999<y
 . rw [if_pos hy,if_pos hy]
   repeat'(first|refine W1 ?_|omega|refine VG ?_ ?_<;>intro hg|refine VC ?_ ?_<;>intro hc)
   all_goals refine WR ?_
   all_goals exact .mk ⟨rfl,Stp.refl _ _⟩
 rw [if_neg hy,if_neg hy];have hb:=Z4h (y:=y) (by omega) (by omega)
 have he:Z1T (Z1J y=(19 * (y % 19)+y / 100 - y / 100 / 4 - (y / 100 - (y / 100+8) / 25+1) / 3+15) % 30 +
  (32+2 * (y / 100 % 4)+2 * (y % 100 / 4) - (19 * (y % 19)+y / 100 - y / 100 / 4 - (y / 100 - (y / 100+8) / 25+1) / 3+15) % 30 - y % 100 % 4) % 7 -
  7 * ((y % 19+11 * ((19 * (y % 19)+y / 100 - y / 100 / 4 - (y / 100 - (y / 100+8) / 25+1) / 3+15) % 30)+22 * ((32+2 * (y / 100 % 4)+2 * (y % 100 / 4) - (19 * (y % 19)+y / 100 - y / 100 / 4 - (y / 100 - (y / 100+8) / 25+1) / 3+15) % 30 - y % 100 % 4) % 7)) / 451)+114):=⟨rfl⟩
 have g1:0<=y % 19/\y % 19<=18:=by omega
 have g2:15<=y / 100/\y / 100<=99:=by omega
 have g3:0<=y % 100/\y % 100<=99:=by omega
 refine QO ?_;have g4:0<=(19 * (y % 19)+y / 100 - y / 100 / 4 - (y / 100 - (y / 100+8) / 25+1) / 3+15) % 30/\(19 * (y % 19)+y / 100 - y / 100 / 4 - (y / 100 - (y / 100+8) / 25+1) / 3+15) % 30<=29:=by omega
 generalize (19 * (y % 19)+y / 100 - y / 100 / 4 - (y / 100 - (y / 100+8) / 25+1) / 3+15) % 30=H at he g4 ⊢;have g5:0<=(32+2 * (y / 100 % 4)+2 * (y % 100 / 4) - H - y % 100 % 4) % 7/\(32+2 * (y / 100 % 4)+2 * (y % 100 / 4) - H - y % 100 % 4) % 7<=6:=by omega
 refine W ?_;generalize (32+2 * (y / 100 % 4)+2 * (y % 100 / 4) - H - y % 100 % 4) % 7=L at he g5 ⊢;rw [<- he.h];refine Z9 (vs:=[(0,.I y),(1,.I (Z1J y / 31)),(2,.I (Z1J y % 31+1))]) rfl (Z4B _ _ _) rfl ?_;refine Z0 (Zd rfl (ZO rfl) (Z2Q y _ _ _ (by omega) (by omega) (by omega) (by omega) (by omega) (by omega) (by omega))) rfl ?_;rintro _ w1 ⟨rfl,hS⟩;refine RT ?_;exact ⟨rfl,hS⟩
theorem Z1l {y m:Int} (hy:1<=y) (cR:y<=9999) (hm:1<=m) (dN:m<=12):¬ Z0Q y m 1/\0<=JF y m 1/\JF y m 1<=3652058/\28<=Zv y m/\Zv y m<=31:=by
 have hl:=Z0X (y:=y) (k:=(m - 1).toNat) (by omega);rw [show (((m - 1).toNat:Int))+1=m by omega] at hl;have ou:=Z2O y m;have:=Z0M hy cR hm dN (d:=1) (by omega) (by omega);exact ⟨by unfold Z0Q;omega,this.1,this.2,hl,ou⟩
theorem Z5b (h:Hol) (y:Int) (w) (hL:Z05 w) (hy:1<=y) (cR:y<=9999) (hm:1<=h.month) (dN:h.month<=12) (hw:0<=h.wd) (gk:h.wd<=6) :
 CC 178 #[agg h,.I y] w λr w'=>r=.tuple #[.I (JF y h.month 1),.I (Z20 y h.month h.wd)]/\Stp [] w w':=by
 obtain ⟨f1,f2,f3,f4,f5⟩:=Z1l hy cR hm dN;refine cW2 26 Tryz.func178 ?_;refine W ?_;refine Z0 (Zl rfl) rfl ?_;rintro _ w1 ⟨b,rfl,hb,ab,hS⟩;replace ab:Blk w1 b 228 (Z2.enc h):=ab;replace hL:=hL.up hS;refine W ?_;refine Z9 (vs:=[(0,.I y),(1,.I h.month),(2,.I 1)]) rfl (Z4B _ _ _) rfl ?_;refine CL (Z7P y _ _ _ hL) ?_;rintro _ w2 ⟨rfl,hT⟩;rw [if_neg f1,if_neg f1];replace ab:=ab.up hT;replace hS:=hS.trans hT;clear hT;refine W ?_;refine ZDr 12 [] [] [(0,0),(1,0),(2,0),(3,1),(4,0),(5,2),(6,0),(7,0),(8,0),(9,0),(10,0),(11,0)] (λw1 ae=>?_);replace ab:=ab.up ae;replace hS:=hS.trans ae;clear ae;refine D ?_;refine Zp rfl trivial (Zd rfl (ZO rfl) (Z29 _ _ f2 (by omega))) (λ_ _ h=>by rw [h.2];exact Stp.refl _ _) rfl ?_;rintro _ w3 ⟨rfl,rfl⟩;refine D ?_;refine W ?_;refine WR ?_;refine .mk ⟨?_,hS⟩;unfold Z20;rfl
def Z0C (h:Hol) (y:Int):Int×Bool:=
 if h.kind=1 then (if Z0Q y h.month h.day then 0 else JF y h.month h.day,!decide (Z0Q y h.month h.day))
 else if h.kind=2 then (Z20 y h.month h.wd+7 * (h.nth - 1),decide (Z20 y h.month h.wd+7 * (h.nth - 1)<JF y h.month 1+Zv y h.month))
 else if h.kind=3 then (Z20 y h.month h.wd+(JF y h.month 1+Zv y h.month - 1 - Z20 y h.month h.wd) / 7 * 7,true)
 else ((if y<1583\/9999<y then 0 else Z3g y)+h.off,!decide (y<1583\/9999<y))
theorem ZlX {h:Hol} {y:Int} (h1:h.first<=y) (h2:y<=h.last):Zhf h y=if (Z0C h y).2=true then some (Z0C h y).1 else none:=by
 unfold Zhf Z0C;rw [if_neg (by omega)];by_cases k1:h.kind=1;rw [if_pos k1,if_pos k1];by_cases hb:Z0Q y h.month h.day;simp [hb];simp [hb];rw [if_neg k1,if_neg k1];by_cases k2:h.kind=2;rw [if_pos k2,if_pos k2];simp;rw [if_neg k2,if_neg k2];by_cases k3:h.kind=3;rw [if_pos k3,if_pos k3];rfl;rw [if_neg k3,if_neg k3];by_cases hy:y<1583\/9999<y;simp [hy];simp [hy]
abbrev Z8f (h:Hol) (y:Int):Value:=.tuple #[.I (Z0C h y).1,.B (Z0C h y).2]
theorem Z4i {y:Int} (h1:1583<=y) (h2:y<=9999):1000<=Z3g y/\Z3g y<=3652058:=by
 have hb:=Z4h h1 h2;have e3:Zv y 3=31:=rfl;have e4:Zv y 4=30:=rfl;have hs:=Z1Z h1;have dw:500000<=Z02 1583:=by decide
 have re:=Z9s y (Z1J y % 31+1);have oT:JF y 3 1=Z02 y+Z0R y 2:=by
  have:=Z1h y 1 2 (by omega);rw [show ((2:Nat):Int)+1=3 by rfl] at this;omega
 have hc:0<=Z0R y 2:=by
  have:=Z2p (y:=y) (Xu 2) (by omega);simpa [Z0R] using this
 unfold Z3g;have hm:Z1J y / 31=3\/Z1J y / 31=4:=by omega
 rcases hm with hm|hm
 rw [hm];exact ⟨by omega,(Z0M (by omega) h2 (by omega) (by omega) (by omega) (by omega)).2⟩;rw [hm];exact ⟨by omega,(Z0M (by omega) h2 (by omega) (by omega) (by omega) (by omega)).2⟩
theorem Z1D {y m wd:Int} (hy:1<=y) (cR:y<=9999) (hm:1<=m) (dN:m<=12):JF y m 1<=Z20 y m wd/\Z20 y m wd<=JF y m 1+6:=by
 unfold Z20;omega
theorem Z9u {h:Hol} {y:Int} (ho:Z4e h) (h1:h.first<=y) (h2:y<=h.last) (hp:(Z0C h y).2=true):0<=(Z0C h y).1/\(Z0C h y).1<=3653000:=by
 have hy:=ho.f1;have cR:=ho.l1;have bz:=ho.k1;have dF:=ho.k2;unfold Z0C at hp ⊢;by_cases k1:h.kind=1;rw [if_pos k1] at hp ⊢;obtain ⟨m1,m2⟩:=ho.month (by omega);by_cases hb:Z0Q y h.month h.day;simp [hb] at hp;dsimp only;rw [if_neg hb];unfold Z0Q at hb;have:=Z0M (y:=y) (m:=h.month) (d:=h.day) (by omega) (by omega) (by omega) (by omega) (by omega) (by omega);omega;rw [if_neg k1] at hp ⊢;by_cases k2:h.kind=2;rw [if_pos k2] at hp ⊢;obtain ⟨m1,m2⟩:=ho.month (by omega);obtain ⟨n1,n2⟩:=ho.nth k2;obtain ⟨f1,f2,f3,f4,f5⟩:=Z1l (y:=y) (by omega) (by omega) m1 m2;obtain ⟨f6,f7⟩:=Z1D (y:=y) (wd:=h.wd) (by omega) (by omega) m1 m2;dsimp only;omega;rw [if_neg k2] at hp ⊢;by_cases k3:h.kind=3;rw [if_pos k3] at hp ⊢;obtain ⟨m1,m2⟩:=ho.month (by omega);obtain ⟨f1,f2,f3,f4,f5⟩:=Z1l (y:=y) (by omega) (by omega) m1 m2;obtain ⟨f6,f7⟩:=Z1D (y:=y) (wd:=h.wd) (by omega) (by omega) m1 m2;dsimp only;omega;rw [if_neg k3] at hp ⊢;obtain ⟨o1,o2⟩:=ho.off (by omega);by_cases hy:y<1583\/9999<y;simp [hy] at hp;dsimp only;rw [if_neg hy];have:=Z4i (y:=y) (by omega) (by omega);omega
theorem Zbu (h:Hol) (y:Int) (w) (hL:Z05 w) (hk:h.kind=1) :
 CC 174 #[agg h,.I y] w λr w'=>r=Z8f h y/\Stp [] w w':=by
 have e:Z0C h y=(if Z0Q y h.month h.day then 0 else JF y h.month h.day,!decide (Z0Q y h.month h.day)):=by unfold Z0C;rw [if_pos hk]
 unfold Z8f;rw [e];refine cW2 21 Tryz.func174 ?_;refine W ?_;refine Z0 (Zl rfl) rfl ?_;rintro _ w1 ⟨b,rfl,hb,ab,hS⟩;replace ab:Blk w1 b 228 (Z2.enc h):=ab;replace hL:=hL.up hS;refine W ?_;refine Z9 (vs:=[(0,.I y),(1,.I h.month),(2,.I h.day)]) rfl (Z4B _ _ _) rfl ?_;refine CL (Z7P y _ _ _ hL) ?_;rintro _ w2 ⟨rfl,hT⟩;refine W ?_;refine WR ?_;refine .mk ⟨?_,hS.trans hT⟩;by_cases hb:Z0Q y h.month h.day<;>simp [hb]
theorem Zbv (h:Hol) (y:Int) (w) (hL:Z05 w) (hy:1<=y) (cR:y<=9999) (hk:h.kind=2) (ho:Z4e h) :
 CC 177 #[agg h,.I y] w λr w'=>r=Z8f h y/\Stp [] w w':=by
 have e:Z0C h y=(Z20 y h.month h.wd+7 * (h.nth - 1),decide (Z20 y h.month h.wd+7 * (h.nth - 1)<JF y h.month 1+Zv y h.month)):=by unfold Z0C;rw [if_neg (by omega),if_pos hk]
 obtain ⟨m1,m2⟩:=ho.month (by omega);obtain ⟨d1,d2⟩:=ho.wd (.inl hk);obtain ⟨n1,n2⟩:=ho.nth hk;obtain ⟨f1,f2,f3,f4,f5⟩:=Z1l hy cR m1 m2;obtain ⟨f6,f7⟩:=Z1D (wd:=h.wd) hy cR m1 m2;unfold Z8f;rw [e];refine cW2 29 Tryz.func177 ?_;refine W ?_;refine Z0 (Zl rfl) rfl ?_;rintro _ w1 ⟨b,rfl,hb,ab,hS⟩;replace ab:Blk w1 b 228 (Z2.enc h):=ab;replace hL:=hL.up hS;refine W ?_;refine CL (Z5b h y _ hL hy cR m1 m2 d1 d2) ?_;rintro _ w2 ⟨rfl,hT⟩;replace ab:=ab.up hT;replace hL:=hL.up hT;replace hS:=hS.trans hT;refine W ?_;refine CM (ZK rfl rfl) (Z1x y _ _ hL (by omega) (by omega)) ?_;rintro _ _ ⟨rfl,rfl⟩;refine RT ?_;exact ⟨rfl,hS⟩
theorem Zbw (h:Hol) (y:Int) (w) (hL:Z05 w) (hy:1<=y) (cR:y<=9999) (hk:h.kind=3) (ho:Z4e h) :
 CC 181 #[agg h,.I y] w λr w'=>r=Z8f h y/\Stp [] w w':=by
 have e:Z0C h y=(Z20 y h.month h.wd+(JF y h.month 1+Zv y h.month - 1 - Z20 y h.month h.wd) / 7 * 7,true):=by unfold Z0C;rw [if_neg (by omega),if_neg (by omega),if_pos hk]
 obtain ⟨m1,m2⟩:=ho.month (by omega);obtain ⟨d1,d2⟩:=ho.wd (.inr hk);obtain ⟨f1,f2,f3,f4,f5⟩:=Z1l hy cR m1 m2;obtain ⟨f6,f7⟩:=Z1D (wd:=h.wd) hy cR m1 m2;unfold Z8f;rw [e];refine cW2 29 Tryz.func181 ?_;refine W ?_;refine Z0 (Zl rfl) rfl ?_;rintro _ w1 ⟨b,rfl,hb,ab,hS⟩;replace ab:Blk w1 b 228 (Z2.enc h):=ab;replace hL:=hL.up hS;refine W ?_;refine CL (Z5b h y _ hL hy cR m1 m2 d1 d2) ?_;rintro _ w2 ⟨rfl,hT⟩;replace ab:=ab.up hT;replace hL:=hL.up hT;replace hS:=hS.trans hT;refine W ?_;refine CM (ZK rfl rfl) (Z1x y _ _ hL (by omega) (by omega)) ?_;rintro _ _ ⟨rfl,rfl⟩;refine RT ?_;exact ⟨rfl,hS⟩
theorem Zbx (h:Hol) (y:Int) (w) (hk:h.kind=4) (ho:Z4e h) :
 CC 183 #[agg h,.I y] w λr w'=>r=Z8f h y/\Stp [] w w':=by
 have e:Z0C h y=((if y<1583\/9999<y then 0 else Z3g y)+h.off,!decide (y<1583\/9999<y)):=by unfold Z0C;rw [if_neg (by omega),if_neg (by omega),if_neg (by omega)]
 obtain ⟨o1,o2⟩:=ho.off hk;have hr:0<=(if y<1583\/9999<y then 0 else Z3g y)/\(if y<1583\/9999<y then 0 else Z3g y)<=3652058:=by
  split;omega;have:=Z4i (y:=y) (by omega) (by omega);omega
 unfold Z8f;rw [e];refine cW2 19 Tryz.func183 ?_;refine W ?_;refine Z0 (Zl rfl) rfl ?_;rintro _ w1 ⟨b,rfl,hb,ab,hS⟩;replace ab:Blk w1 b 228 (Z2.enc h):=ab;refine W ?_;refine CL (Z9t y _) ?_;rintro _ w2 ⟨rfl,hT⟩;replace ab:=ab.up hT;replace hS:=hS.trans hT;refine W ?_;refine WR ?_;refine .mk ⟨?_,hS⟩;by_cases hy:y<1583\/9999<y<;>simp [hy]
theorem Z9v (g:Nat) (fn:Func) [Fun Tryz.prog g fn] (lb:Array Value) (c:Spn->Spn->Int) (ho:Ord c) (X:List Nat) (base:Nat) (v:Value) (xs:List Spn) (w:World) (hX:∀ b∈X,b<base) (aF:base<=w.heap.size) (ac:Row X w base 359 v xs) (hp:Z4s Tryz.prog (ob v) g lb c w) (am:xs.length<=1000) :
 CC 316 #[v,.I 0,.I xs.length,.func (.func g) #[] lb] w λr w'=>∃ ys,JU c xs ys/\Row X w' base 359 v ys/\Stp (ob v) w w':=by
 refine cW4 53 Tryz.func316 ?_;refine W ?_
 refine Zr (σ:=Nat) (λi=>[(0,v),(1,.I 0),(2,.I xs.length),(3,.func (.func g) #[] lb),(8,.I (i+1))])
  (λi w'=>Stp (ob v) w w'/\∃ ys,ys.Perm xs/\Row X w' base 359 v ys/\(ys.take (i+1)).Pairwise (λa b=>¬ c b a<0)) (λi=>xs.length - i) 0 ⟨rfl,rfl,rfl,rfl,rfl,trivial⟩
  ⟨Stp.refl _ _,xs,YaA _,ac,?_⟩ ?_
 . cases xs with
   | nil=>simp
   | cons x r=>simp
 rintro i w1 ⟨hS,ys,bC,ac,bY⟩;have cQ:=bC.length_eq;by_cases kO:i+1<xs.length
 . repeat'(first|refine W1 ?_|refine VG ?_ ?_<;>intro hg|refine VC ?_ ?_<;>intro hc)
   rotate_left
   omega;obtain ⟨pre,x,rest,dL,rfl⟩:∃ pre x rest,pre.length=i+1/\ys=put pre rest x pre.length:=by
    refine ⟨ys.take (i+1),ys[i+1],ys.drop (i+2),by simp;omega,?_⟩;unfold put;have hl:(ys.take (i+1)).length=i+1:=by simp;omega
    rw [hl,Yah,Nat.min_self,Yax (by omega)]
    conv=>lhs;rw [<- Xy (i+1) ys,X5 (by omega)]
    simp
   have bB:pre.Pairwise (λa b=>¬ c b a<0):=by
    have:(put pre rest x pre.length).take (i+1)=pre:=by
     unfold put;rw [Xs,Yas,XA,<- dL,YaJ];rfl
    rwa [this] at bY
   have jX:pre.length+1+rest.length=xs.length:=by rw [<- cQ,Z0A]
   have fin:∀ j (w':World),j<=pre.length->Stp (ob v) w w'->Row X w' base 359 v (put pre rest x j)->(∀ q (h:q<pre.length),j<=q->c x pre[q]<0)->(∀ h:j - 1<pre.length,0<j->¬ c x pre[j - 1]<0)->
    Stp (ob v) w w'/\∃ ys,ys.Perm xs/\Row X w' base 359 v ys/\(ys.take (i+1+1)).Pairwise (λa b=>¬ c b a<0):=by
    intro j w' hj hS ac h1 h2;refine ⟨hS,put pre rest x j,?_,ac,?_⟩;refine List.Perm.trans ?_ bC;unfold put;rw [Xs,Yas];refine Yak _ ?_;refine List.Perm.trans Ybc ?_;rw [Xy];exact (YaD x pre).symm;have e:(put pre rest x j).take (i+1+1)=pre.take j++x :: pre.drop j:=by
     have hl:(pre.take j++x :: pre.drop j).length=i+1+1:=by
      have:=congrArg List.length (Xy j pre);simp only [Xe] at this;simp only [Xe,Xo];omega
     unfold put;rw [<- hl,YaJ];rfl
    rw [e];exact Z2Y ho hj bB h1 h2
   refine Zr (σ:=Nat) (λj=>[(0,v),(1,.I 0),(2,.I xs.length),(3,.func (.func g) #[] lb),(8,.I (i+1)),(9,.I (j:Int))])
    (λj w'=>j<=pre.length/\Stp (ob v) w w'/\Row X w' base 359 v (put pre rest x j)/\(∀ q (h:q<pre.length),j<=q->c x pre[q]<0)) (λj=>j) (i+1) ⟨rfl,rfl,rfl,rfl,rfl,rfl,trivial⟩
    ⟨by omega,hS,by rw [dL] at ac;exact ac,λq h hq=>by omega⟩ ?_
   clear ac hS;rintro j w2 ⟨hj,hS,ac,ah⟩;have hs:=ac.slv hX;cases j with
   | zero=>
     refine W ?_;refine ZDr 17 [] [] [(0,0),(1,0),(2,0),(3,0),(4,0),(5,0),(6,0),(7,0),(8,1),(9,0),(10,0),(11,0),(12,0),(13,1),(14,2),(15,0),(16,0)] (λw1 ae=>?_);replace hS:=hS.trans ae.mn;replace ac:=ac.up ae;replace hs:=hs.up ae;refine D ?_;refine W ?_;exact QL (i+1) (fin 0 _ (Xu _) hS ac ah (λ_ h=>absurd h (YbK _))) (by omega)
   | succ j=>
     have hz:((j+1:Nat):Int) - 1=(j:Int):=by omega
     have cY:j+1<(put pre rest x (j+1)).length:=by rw [Z0A];omega
     have gJ:j<(put pre rest x (j+1)).length:=by rw [Z0A];omega
     have a1:=Z9r (rest:=rest) (x:=x) hj cY;have a0:=Z2X (rest:=rest) (x:=x) (YaM hj) gJ;refine W ?_;refine ZDr 17 [] [] [(0,0),(1,0),(2,0),(3,0),(4,0),(5,0),(6,0),(7,0),(8,1),(9,0),(10,0),(11,0),(12,0),(13,1),(14,2),(15,0),(16,0)] (λw1 ae=>?_);replace hS:=hS.trans ae.mn;replace ac:=ac.up ae;replace hs:=hs.up ae;refine QD ?_;refine Zp rfl (by first|exact trivial|exact rfl) (ZC (f:=g) rfl (ZK rfl rfl) rfl (hp _ _ _ hS)) (λ_ _ h=>h.2) rfl ?_;rintro _ w3 ⟨rfl,aw⟩;rw [a1,a0];replace hS:=hS.trans aw.mn;replace ac:=ac.up aw;replace hs:=hs.up aw;refine D ?_
     (refine QP ?_ ?_<;>intro hc)
     rename_i hc;refine ZDr 18 [] [15,17] [(0,0),(1,0),(2,0),(3,0),(4,0),(5,0),(6,0),(7,0),(8,0),(9,1),(10,0),(11,0),(12,0),(13,1),(14,0),(15,2),(16,0),(17,2)] (λw1 ae=>?_);replace hS:=hS.trans ae.mn;replace ac:=ac.up ae;replace hs:=hs.up ae;refine D ?_;rw [a1,a0];refine Jg rfl trivial (JE (i:=j+1) (y':=pre[j]) rfl rfl rfl rfl ac hX cY) rfl ?_;rintro _ w4 ⟨ac,ay⟩;replace hS:=hS.trans ay;refine D ?_;refine Jg rfl trivial (JE (i:=j) (y':=x) rfl rfl rfl rfl ac hX (by rw [Yac];exact gJ)) rfl ?_;rintro _ w5 ⟨ac,aB⟩;replace hS:=hS.trans aB;rw [Z5a (YaM hj)] at ac;refine D ?_;refine W ?_;refine J3 j ⟨rfl,rfl,rfl,rfl,rfl,(by rw [<- hz];rfl),trivial⟩ ⟨by omega,hS,ac,λq h hq=>?_⟩ (by omega);by_cases e:q=j;subst e;exact hc;exact ah q h (by omega);exact QL (i+1) (fin (j+1) _ hj hS ac ah (λ_ _=>by assumption)) (by omega)
 focus repeat'(first|refine W1 ?_|refine VG ?_ ?_<;>intro hg|refine VC ?_ ?_<;>intro hc)
 omega;refine WR ?_;refine .mk ⟨ys,⟨bC,?_⟩,ac,hS⟩
 rwa [XH (by omega)] at bY
theorem Zhx (g:Nat) (fn:Func) [Fun Tryz.prog g fn] (lb:Array Value) (c:Spn->Spn->Int) (ho:Ord c) (X:List Nat) (base:Nat) (v:Value) (xs:List Spn) (w:World) (hX:∀ b∈X,b<base) (aF:base<=w.heap.size) (ac:Row X w base 359 v xs) (hp:Z4s Tryz.prog (ob v) g lb c w) (am:xs.length<20) :
 CC 311 #[v,.I xs.length,.func (.func g) #[] lb] w λr w'=>∃ ys,JU c xs ys/\Row X w' base 359 v ys/\Stp (ob v) w w':=by
 have nl:¬ ((20:Int)<=xs.length):=by omega
 have nl2:¬ ((20:Int)<xs.length):=by omega
 refine cW3 63 Tryz.func311 ?_;refine W ?_;refine Zr (σ:=Unit) (λ_=>[(0,v),(1,.I xs.length),(2,.func (.func g) #[] lb),(6,.I 20),(7,.I 0),(8,.I 20)]) (λ_ w'=>w'=w) (λ_=>0) () ⟨rfl,rfl,rfl,rfl,rfl,rfl,trivial⟩ rfl ?_;rintro _ w' rfl;repeat'(first|refine W1 ?_|refine VG ?_ ?_<;>intro hg|refine VC ?_ ?_<;>intro hc)
 exact absurd (by assumption) nl;refine CM (Z30 rfl rfl rfl rfl) (Z9v g fn lb c ho X base v xs _ hX aF ac hp (by omega)) ?_;rintro r w2 ar;refine W ?_;refine Zr (σ:=Unit) (λ_=>[(1,.I xs.length),(6,.I 20)]) (λ_ w'=>w'=w2) (λ_=>0) () ⟨rfl,rfl,trivial⟩ rfl ?_;rintro _ w' rfl;repeat'(first|refine W1 ?_|refine VG ?_ ?_<;>intro hg|refine VC ?_ ?_<;>intro hc)
 exact absurd (by assumption) nl2;refine WR ?_;exact .mk ar
theorem Z8g (g:Nat) (fn:Func) [Fun Tryz.prog g fn] (lb:Array Value) (c:Spn->Spn->Int) (ho:Ord c) (X:List Nat) (base:Nat) (v:Value) (xs:List Spn) (w:World) (hX:∀ b∈X,b<base) (aF:base<=w.heap.size) (ac:Row X w base 359 v xs) (hp:Z4s Tryz.prog (ob v) g lb c w) (am:xs.length<20) :
 CC 300 #[v,.func (.func g) #[] lb] w λr w'=>∃ ys,JU c xs ys/\Row X w' base 359 v ys/\Stp (ob v) w w':=by
 have hs:=ac.slv hX;refine cW2 9 Tryz.func300 ?_;refine W ?_;refine CL (Zhx g fn lb c ho X base v xs _ hX aF ac hp am) ?_;rintro r w2 ar;refine W ?_;refine WR ?_;exact .mk ar
def Z8h (x y:Spn):Int:=Z1C x.1 y.1
theorem Zqi:Ord Z8h where
 asym:=λa b=>by unfold Z8h;rw [Z0B,Z0B];omega
 trans:=λa b d=>by unfold Z8h;rw [Z0B,Z0B,Z0B];omega
theorem Zpf (S:List Nat) (w):Z4s Tryz.prog S 301 #[] Z8h w:=by
 intro x y w1 hS;show Calls _ _ #[agg x,agg y] _ _;refine cW2 10 Tryz.func301 ?_;refine W ?_;refine Z0 (Zl rfl) rfl ?_;rintro _ w2 ⟨c,rfl,hc,ab,ai⟩;replace ab:Blk w2 c _ (Z2.enc x):=ab;refine Z0 (Zl rfl) rfl ?_;rintro _ w3 ⟨c2,rfl,dt,au,aw⟩;replace au:Blk w3 c2 _ (Z2.enc y):=au;replace ab:=ab.up aw;replace ai:=ai.trans aw;refine W ?_;refine CL (Z0j _ _ _) ?_;rintro _ w4 ⟨rfl,ay⟩;refine RT ?_;exact ⟨rfl,ai.trans ay⟩
def ofH (y:Int) (h:Hol) (i:Int):List Spn:=match Z0Y h y with|some d=>[(d,i)]|none=>[]
def ofK (y:Int):List Hol->Int->List Spn
 | [],_=>[]
 | h :: r,i=>ofH y h i++ofK y r (i+1)
theorem Zaz (y:Int):∀ (a b:List Hol) (i:Int),ofK y (a++b) i=ofK y a i++ofK y b (i+a.length)
 | [],b,i=>by simp [ofK]
 | h :: a, b, i => by
   simp only [X9,ofK,Zaz y a b (i+1),XA,Xo];congr 3;omega
theorem ZaA (y d:Int):∀ (l:List Hol) (i:Int),(∃ r,(d,r)∈ofK y l i)↔∃ h∈l,Z0Y h y=some d
 | [],i=>by simp [ofK]
 | h :: l, i => by
   simp only [ofK,Xg,Xd,exists_or,exists_eq_or_imp];have ih:=ZaA y d l (i+1);constructor;rintro (⟨r,hr⟩|hr)
   . left
     unfold ofH at hr;cases hk:Z0Y h y with
     | none=>rw [hk] at hr;simp at hr
     | some d'=>rw [hk] at hr;simp at hr;rw [hr.1]
   right;exact ih.1 hr;rintro (hk|hk)
   left;exact ⟨i,by unfold ofH;rw [hk];simp⟩
   right;exact ih.2 hk
theorem Z4D (y:Int):∀ (l:List Hol) (i:Int),(ofK y l i).length<=l.length
 | [],i=>by simp [ofK]
 | h :: l, i => by
   have:=Z4D y l (i+1);simp only [ofK,Xe,Xo];unfold ofH;cases Z0Y h y<;>simp<;>omega
abbrev fnV (f:Nat):Value:=.func (.func f) #[] #[]
abbrev Z2Z:List Value:=[fnV 173,fnV 174,fnV 176,fnV 177,fnV 180,fnV 181,fnV 182,fnV 183]
theorem Z75 (f g:Nat) (w):(Instr.build 224 #[(0,fnV f),(1,fnV g)]).run Tryz.prog w=.ok (.agg #[fnV f,fnV g]) w:=by kernel_rfl
theorem Zhy (a b c d e f g h:Nat) (w):(Instr.build 225 #[(0,.agg #[fnV a,fnV b]),(1,.agg #[fnV c,fnV d]),(2,.agg #[fnV e,fnV f]),(3,.agg #[fnV g,fnV h])]).run Tryz.prog w=.ok (.agg #[fnV a,fnV b,fnV c,fnV d,fnV e,fnV f,fnV g,fnV h]) w:=by kernel_rfl
theorem Z64 (w):CC 106 #[] w λr w'=>r=.agg Z2Z.toArray/\Stp [] w w':=by
 refine cW0 6 Tryz.func106 ?_;refine W ?_;refine Z0 Z4 rfl ?_;rintro _ w1 ⟨b,rfl,hb,ab,hS⟩;refine W ?_;refine Z9 (vs:=[(0,fnV 173),(1,fnV 174)]) rfl (Z75 _ _) rfl ?_;refine Z9 (vs:=[(0,fnV 176),(1,fnV 177)]) rfl (Z75 _ _) rfl ?_;refine Z9 (vs:=[(0,fnV 180),(1,fnV 181)]) rfl (Z75 _ _) rfl ?_;refine Z9 (vs:=[(0,fnV 182),(1,fnV 183)]) rfl (Z75 _ _) rfl ?_;refine Z9 (vs:=[(0,.agg #[fnV 173,fnV 174]),(1,.agg #[fnV 176,fnV 177]),(2,.agg #[fnV 180,fnV 181]),(3,.agg #[fnV 182,fnV 183])]) rfl (Zhy _ _ _ _ _ _ _ _) rfl ?_;refine SB (us:=Z2Z) (by intro u hu;simp [Z2Z] at hu;rcases hu with rfl|rfl|rfl|rfl|rfl|rfl|rfl|rfl<;>rfl) ab ?_;rintro _ w2 ⟨hT,au⟩;refine W ?_;refine Za5 rfl rfl rfl au rfl ?_;exact .mk ⟨rfl,hS.ow hT⟩
theorem Zhz {m d:Int} (h0:0<=m) (h2:m<=2) (hd:0<=d):Z24[0+m.toNat * 7+(d % 7).toNat * 1]?=some (Z21 m d - d):=by
 have hm:m=0\/m=1\/m=2:=by omega
 have hw:d % 7=0\/d % 7=1\/d % 7=2\/d % 7=3\/d % 7=4\/d % 7=5\/d % 7=6:=by omega
 unfold Z21;rcases hm with rfl|rfl|rfl<;>rcases hw with h|h|h|h|h|h|h<;>rw [h]<;>simp [Z24]<;>omega
theorem Zby (m d:Int):d - 1<=Z21 m d/\Z21 m d<=d+2:=by
 unfold Z21;repeat' split
 all_goals omega
theorem ZhA (a b:Int) (w):(Instr.build 359 #[(0,.I a),(1,.I b)]).run Tryz.prog w=.ok (agg ((a,b):Spn)) w:=by kernel_rfl
theorem Zek (d:Spn) (w):(Instr.buildSlice 356 1 #[(0,agg d)]).run Tryz.prog w=.ok (.slice (some ⟨w.heap.size,0,none⟩) 1 1) (w.alloc (.cells (Z2.enc d).toArray 359)):=by kernel_rfl
theorem ZhB (v:Value) (l:List Hol) (y:Int) (w) (hs:SlV [] w v l) (hL:Z05 w) (hM:Z1i w) (ho:∀ h∈l,Z4e h) (hl:l.length<20) :
 CC 278 #[v,.I y] w λr w'=>∃ ys,JU Z8h (ofK y l 0) ys/\ZE 359 w w' r ys:=by
 refine cW2 61 Tryz.func278 ?_;refine W ?_;refine CL (Z64 _) ?_;rintro _ w1 ⟨rfl,hS⟩;refine Z0 Z4 rfl ?_;rintro _ w2 ⟨b6,rfl,eo,e6,ai⟩;refine W ?_;refine SB (us:=Z2Z) (by intro u hu;simp [Z2Z] at hu;rcases hu with rfl|rfl|rfl|rfl|rfl|rfl|rfl|rfl<;>rfl) e6 ?_;rintro _ w3 ⟨hT,k6⟩;replace hS:=hS.trans (ai.ow hT);clear e6 ai hT;replace hs:=hs.up hS;replace hL:=hL.up hS;replace hM:=hM.up hS;refine W ?_
 refine Zr (σ:=Nat×Value) (λq=>[(0,v),(1,.I y),(5,q.2),(6,pQ b6),(12,v),(13,.I (l.length:Int)),(14,.I (q.1:Int))])
  (λq w'=>q.1<=l.length/\ZE 359 w3 w' q.2 (ofK y (l.take q.1) 0)) (λq=>l.length - q.1) (0,.N) ⟨rfl,rfl,rfl,rfl,rfl,rfl,rfl,trivial⟩ ⟨Xu _,ZE.nil⟩ ?_
 rintro ⟨k,ov⟩ w4 ⟨hk,hr⟩;dsimp only at hk hr ⊢;have ay:=hr.2;replace hs:=hs.up ay;replace hL:=hL.up ay;replace hM:=hM.up ay;replace k6:=k6.up ay;by_cases ah:k<l.length;have ht:l.take (k+1)=l.take k++[l[k]]:=Xf ah;have oU:ofK y (l.take (k+1)) 0=ofK y (l.take k) 0++ofH y l[k] (k:Int):=by
  rw [ht,Zaz];simp only [ofK,XJ,Xv,X7 hk];simp
 have aY:=ho l[k] (Xc ah);refine QO ?_;refine Z0 Z4 rfl ?_;rintro _ w5 ⟨b8,rfl,d5,e8,aB⟩;refine W ?_;refine SA (us:=Z2.enc l[k]) e8 ?_;rintro _ w6 ⟨hT,k8⟩;replace aB:=aB.ow hT;clear e8 hT;replace hr:=hr.up aB;replace hs:=hs.up aB;replace hL:=hL.up aB;replace hM:=hM.up aB;replace k6:=k6.up aB;clear aB;refine W ?_;refine CL (Z11 y l[k].first l[k].last _) ?_;rintro _ w6 ⟨rfl,rfl⟩;have again:∀ (w':World),Z0Y l[k] y=none->Stp [] w6 w'->ZE 359 w3 w' ov (ofK y (l.take (k+1)) 0):=by
  intro w' hn bW;rw [oU];unfold ofH;rw [hn,XJ];exact hr.up bW
 by_cases aX:l[k].first<=y/\y<=l[k].last;rw [decide_eq_true aX];have ib:=ZlX aX.1 aX.2;have rf:=aY.f1;have cR:=aY.l1;refine W ?_
 refine Z0v (σ:=Unit) (λ_=>[(0,v),(1,.I y),(5,ov),(6,pQ b6),(7,.I (k:Int)),(8,pQ b8),(9,.I (Z0C l[k] y).1),(10,.B (Z0C l[k] y).2),(12,v),(13,.I (l.length:Int)),(14,.I (k:Int))])
  (λ_ w'=>Stp [] w6 w') ?_ ?_
 have cm:l[k].kind=1\/l[k].kind=2\/l[k].kind=3\/l[k].kind=4:=by have:=aY.k1;have:=aY.k2;omega
 rcases cm with cm|cm|cm|cm
 refine ZDr 14 [] [] [(0,0),(1,1),(2,0),(3,0),(4,0),(5,1),(6,1),(7,0),(8,2),(9,0),(10,0),(11,0),(12,0),(13,0)] (λw1 ae=>?_);replace k6:=k6.up ae;replace k8:=k8.up ae;replace hL:=hL.up ae;have hz:l[k].kind - 1=((0:Nat):Int):=by omega
 refine D ?_;refine Z2B rfl (Z2l (len:=4) (i:=0) trivial rfl rfl hz (by decide) rfl ?_);refine D ?_;refine Zp rfl trivial (Zd rfl (ZK rfl rfl) (Zbu _ _ _ hL cm)) (λ_ _ h=>h.2) rfl ?_;rintro _ w7 ⟨rfl,aR⟩;refine D ?_;exact QT () (ae.trans aR);refine ZDr 14 [] [] [(0,0),(1,1),(2,0),(3,0),(4,0),(5,1),(6,1),(7,0),(8,2),(9,0),(10,0),(11,0),(12,0),(13,0)] (λw1 ae=>?_);replace k6:=k6.up ae;replace k8:=k8.up ae;replace hL:=hL.up ae;have hz:l[k].kind - 1=((1:Nat):Int):=by omega
 refine D ?_;refine Z2B rfl (Z2l (len:=4) (i:=1) trivial rfl rfl hz (by decide) rfl ?_);refine D ?_;refine Zp rfl trivial (Zd rfl (ZK rfl rfl) (Zbv _ _ _ hL (by omega) (by omega) cm aY)) (λ_ _ h=>h.2) rfl ?_;rintro _ w7 ⟨rfl,aR⟩;refine D ?_;exact QT () (ae.trans aR);refine ZDr 14 [] [] [(0,0),(1,1),(2,0),(3,0),(4,0),(5,1),(6,1),(7,0),(8,2),(9,0),(10,0),(11,0),(12,0),(13,0)] (λw1 ae=>?_);replace k6:=k6.up ae;replace k8:=k8.up ae;replace hL:=hL.up ae;have hz:l[k].kind - 1=((2:Nat):Int):=by omega
 refine D ?_;refine Z2B rfl (Z2l (len:=4) (i:=2) trivial rfl rfl hz (by decide) rfl ?_);refine D ?_;refine Zp rfl trivial (Zd rfl (ZK rfl rfl) (Zbw _ _ _ hL (by omega) (by omega) cm aY)) (λ_ _ h=>h.2) rfl ?_;rintro _ w7 ⟨rfl,aR⟩;refine D ?_;exact QT () (ae.trans aR);refine ZDr 14 [] [] [(0,0),(1,1),(2,0),(3,0),(4,0),(5,1),(6,1),(7,0),(8,2),(9,0),(10,0),(11,0),(12,0),(13,0)] (λw1 ae=>?_);replace k6:=k6.up ae;replace k8:=k8.up ae;replace hL:=hL.up ae;have hz:l[k].kind - 1=((3:Nat):Int):=by omega
 refine D ?_;refine Z2B rfl (Z2l (len:=4) (i:=3) trivial rfl rfl hz (by decide) rfl ?_);refine D ?_;refine Zp rfl trivial (Zd rfl (ZK rfl rfl) (Zbx _ _ _ cm aY)) (λ_ _ h=>h.2) rfl ?_;rintro _ w7 ⟨rfl,aR⟩;refine D ?_;exact QT () (ae.trans aR)
 . rintro _ w7 aR
   clear k6;replace k8:=k8.up aR;replace hM:=hM.up aR;cases hp:(Z0C l[k] y).2 with
   | false=>
     rw [hp] at ib;refine W ?_;exact QL (k+1,ov) ⟨ah,again _ (by unfold Z0Y;rw [ib];rfl) aR⟩ (by dsimp only;omega)
   | true=>
     rw [hp] at ib;obtain ⟨n1,n2⟩:=Z9u aY aX.1 aX.2 hp;have my:=aY.m1;have mz:=aY.m2;have mA:=Zhz my mz n1;have oV:=Zby l[k].move (Z0C l[k] y).1;have ep:Z0Y l[k] y=if Zu (Z21 l[k].move (Z0C l[k] y).1)=true then some (Z21 l[k].move (Z0C l[k] y).1) else none:=by
      unfold Z0Y;rw [ib];rfl
     generalize (Z0C l[k] y).1=d at *;refine W ?_;refine ZDr 10 [] [] [(0,0),(1,0),(2,1),(3,0),(5,0),(4,2),(6,0),(7,1),(8,0),(9,0)] (λw1 ae=>?_);replace k8:=k8.up ae;replace hM:=hM.up ae;replace aR:=aR.trans ae;clear ae;refine D ?_;refine Z2B rfl (Z2l (len:=3) (i:=l[k].move.toNat) trivial rfl rfl (by omega) (by omega) rfl ?_);refine D ?_;refine Zp rfl trivial (Zd rfl (ZO rfl) (Z29 _ _ n1 (by omega))) (λ_ _ h=>by rw [h.2];exact Stp.refl _ _) rfl ?_;rintro _ w8 ⟨rfl,rfl⟩;refine D ?_;refine Z2B rfl (Z2l (len:=7) (i:=(d % 7).toNat) trivial rfl rfl (by omega) (by omega) rfl ?_);refine D ?_;refine WD_read rfl trivial (λw' bp=>ZP rfl rfl (hM.up bp _ _ mA)) rfl ?_;refine D ?_;have ed:d+(Z21 l[k].move d - d)=Z21 l[k].move d:=by omega
     rw [ed];refine W ?_;refine CL (Z11 (Z21 l[k].move d) 0 3652058 _) ?_;rintro _ _ ⟨rfl,rfl⟩;by_cases h2:0<=Z21 l[k].move d/\Z21 l[k].move d<=3652058;rw [decide_eq_true h2];rw [if_pos (Zw.2 h2)] at ep;have pN:=Z4D y (l.take k) 0;have rg:(l.take k).length<=l.length:=by rw [Xv];omega
     replace hr:=hr.up aR;refine W ?_;refine Z9 (vs:=[(0,.I (Z21 l[k].move d)),(1,.I (k:Int))]) rfl (ZhA _ _) rfl ?_;refine Z0 (Z3 (vs:=[(0,agg ((Z21 l[k].move d,(k:Int)):Spn))]) rfl (Zek _)) rfl ?_;rintro bv w9 hN;have cG:=Zh.stp hN;have dR:SlV (ob ov) w9 bv [((Z21 l[k].move d,(k:Int)):Spn)]:=hN.slv (λb hb=>(hr.1.ob_le b hb).2) rfl rfl (by simp [maxLen]);replace hr:=hr.up cG;refine Z0 (Z37 rfl (by decide) rfl rfl hr dR (by simp only [Xo,Xr];omega) (by simp only [Xo,Xr,maxLen];omega)) rfl ?_;rintro ov' w10 ⟨cM,fg,ri⟩;refine W ?_;refine QL (k+1,ov') ⟨ah,?_⟩ (by dsimp only;omega);dsimp only;rw [oU];unfold ofH;rw [ep];exact cM;rw [decide_eq_false h2];rw [if_neg (λh=>h2 (Zw.1 h))] at ep;refine W ?_;exact QL (k+1,ov) ⟨ah,again _ ep aR⟩ (by dsimp only;omega)
 rw [decide_eq_false aX];refine W ?_;exact QL (k+1,ov) ⟨ah,again _ (by unfold Z0Y Zhf;rw [if_pos (by omega)];rfl) (Stp.refl _ _)⟩ (by dsimp only;omega);have dF:k=l.length:=by omega
 subst dF;rw [Xs] at hr;have am:=Z4D y l 0;refine QO ?_;refine CM (ZK rfl rfl) (Z8g 301 _ #[] Z8h Zqi [] w3.heap.size ov _ _ (by simp) hr.2.size hr.1 (Zpf _ _) (by omega)) ?_;rintro _ w7 ⟨ys,br,fh,aR⟩;refine RT ?_;exact ⟨ys,br,fh.lower hS.size,(hS.trans hr.2).own aR (λc hc=>.inr (Xl hS.size (hr.1.ob_le c hc).1))⟩
open Go Go.Eng Go.RowKit Go.Proofs
theorem Z76 (n:Int) (w) (h0:0<=n) (h1:n<=3652058):CC 237 #[.I n] w λr w'=>r=.tuple #[ZdG (ofM n).y (ofM n).m (ofM n).d,.I 0]/\Stp [] w w':=by
 refine cW1 73 Tryz.func237 ?_;refine W ?_;refine Z0 Z4 rfl ?_;rintro _ w1 ⟨b2,rfl,fw,e2',hS⟩;have gA:=hS.size;repeat'(first|refine W1 ?_|omega|refine VG ?_ ?_<;>intro hg|refine VC ?_ ?_<;>intro hc)
 unfold ofM;simp only;have gH:=Ybh (n+306) (b:=146097) (by decide);have dD:=YaX (n+306) (b:=146097) (by decide);have he:(n+306) / 146097<=25/\0<=(n+306) / 146097:=by omega
 generalize (n+306) % 146097=doe at *;generalize (n+306) / 146097=era at *;obtain ⟨yoe,doy,e1,e2,hy,hd,-⟩:=Zdy doe gH dD;simp only [e1,e2];have qi:0<=(5 * (doy:Int)+2) / 153/\(5 * (doy:Int)+2) / 153<=11:=by omega
 repeat'(first|refine W1 ?_|omega|refine VG ?_ ?_<;>intro hg|refine VC ?_ ?_<;>intro hc)
 refine Z9 (vs:=[(0,.I _),(1,.I _),(2,.I _)]) rfl (Z4B _ _ _) rfl ?_;refine Z0 Z4 rfl ?_;rintro _ w2 ⟨b10,rfl,jQ,e10,hT⟩;have n2:b10≠b2:=by have:=e2'.lt;omega
 replace e2':=e2'.up hT;replace hS:=hS.trans hT;refine SB (us:=[.I _,.I _,.I _]) (by simp;exact ⟨rfl,rfl,rfl⟩) e10 ?_;rintro _ w3 ⟨hT,e10'⟩;replace e2':=e2'.ext hT (by simpa using n2.symm);replace hS:=hS.own hT (λc hc=>.inr (by simp at hc;have:=hS.size;omega));clear e10 hT;repeat'(first|refine W1 ?_|omega|refine VG ?_ ?_<;>intro hg|refine VC ?_ ?_<;>intro hc)
 rename_i hc;refine Z5 (Zj (u:=.I ((yoe:Int)+400 * era+1)) rfl rfl rfl rfl e10' (by simp)) ?_;rintro _ w4 ⟨hT,e10⟩;replace e10:Blk w4 b10 277 [.I ((yoe:Int)+400 * era+1),.I ((5 * (doy:Int)+2) / 153+3),.I ((doy:Int) - (153 * ((5 * (doy:Int)+2) / 153)+2) / 5+1)]:=e10;replace e2':=e2'.ext hT (by simpa using n2.symm);replace hS:=hS.ow hT;clear e10' hT;refine W ?_;refine Z5 (Zj (u:=.I ((5 * (doy:Int)+2) / 153 - 9)) rfl rfl rfl rfl e10 (by simp)) ?_;rintro _ w5 ⟨hT,e10'⟩;replace e10':Blk w5 b10 277 [.I ((yoe:Int)+400 * era+1),.I ((5 * (doy:Int)+2) / 153 - 9),.I ((doy:Int) - (153 * ((5 * (doy:Int)+2) / 153)+2) / 5+1)]:=e10';replace e2':=e2'.ext hT (by simpa using n2.symm);replace hS:=hS.ow hT;clear e10 hT;refine W ?_;refine Z5 (Jf (us:=[.I _,.I _,.I _]) rfl rfl rfl rfl (by simp;exact ⟨rfl,rfl,rfl⟩) e2' rfl) ?_;rintro _ w6 ⟨hT,e2⟩;replace hS:=hS.ow hT;refine W ?_;refine ZY rfl rfl rfl e2 rfl rfl ?_;refine .mk ⟨?_,hS⟩;rw [if_pos (by omega)];rename_i hc;refine Z5 (Jf (us:=[.I _,.I _,.I _]) rfl rfl rfl rfl (by simp;exact ⟨rfl,rfl,rfl⟩) e2' rfl) ?_;rintro _ w6 ⟨hT,e2⟩;replace hS:=hS.ow hT;refine W ?_;refine ZY rfl rfl rfl e2 rfl rfl ?_;refine .mk ⟨?_,hS⟩;rw [if_neg (by omega)]
end Go.Proofs.YtkojegdemoahlaaGreatDoor
namespace Go.Eng
open Go Go.RowKit Go.Proofs
variable {P:Program} {n:Nat} {Q:Exit->Act->World->Prop} {e:Env} {w:World}
theorem Z3q {i:Nat} {A B:Exit->Act->World->Prop} (h:∀ ex a w,A ex a w->B ex a w):∀ ex a w,Exit.inBlock i A ex a w->Exit.inBlock i B ex a w:=by
 intro ex a w hq;cases ex with
 | exit j=>
   simp only [Exit.inBlock] at hq ⊢;split;rename_i hj;rw [if_pos hj] at hq;exact h _ _ _ hq;rename_i hj;rw [if_neg hj] at hq;exact h _ _ _ hq
 | normal=>exact h _ _ _ hq
 | ret=>exact h _ _ _ hq
 | goto t=>exact h _ _ _ hq
 | panic c=>exact h _ _ _ hq
 | outgrown=>exact h _ _ _ hq
theorem Zel {x y:Code} {σ:Type} {i j:Nat} (env:σ->Env) (I:σ->World->Prop)
 (h:WC P n x (Exit.inBlock i (Exit.inBlock j (Exit.then (λa w=>∃ s,Has n (env s) a/\I s w) Q))) e w) (k:∀ s w,I s w->WC P n y Q (env s) w):WC P n x (Exit.inBlock i (Exit.inBlock j (Exit.then (λa w=>y.wp P Q a w) Q))) e w:=
 ⟨λa ha => wp_mono (h.h a ha) (Z3q (Z3q (λex a w hq => by
   cases ex with
   | normal=>obtain ⟨s,h1,h2⟩:=hq;exact (k s w h2).h a h1
   | _=>exact hq)))⟩
end Go.Eng
namespace Go.Proofs.YtkojegdemoahlaaGreatDoor
open Go Go.Eng Go.RowKit
def inR (a b:Int) (zs:List Int):List Int:=zs.filter λd=>decide (a<=d/\d<=b)
theorem ZhC (a b:Int) (x y:List Int):inR a b (x++y)=inR a b x++inR a b y:=by unfold inR;rw [XT]
theorem Zem {y:Int} {l:List Hol} {ys:List Spn} (h:JU Z8h (ofK y l 0) ys) (d:Int):d∈ys.map Prod.fst↔∃ h∈l,Z0Y h y=some d:=by
 rw [<- ZaA y d l 0,XE];constructor;rintro ⟨⟨a,r⟩,h1,rfl⟩;exact ⟨r,h.1.mem_iff.1 h1⟩;rintro ⟨r,hr⟩;exact ⟨(d,r),h.1.mem_iff.2 hr,rfl⟩
theorem Zen {y:Int} {l:List Hol} {ys:List Spn} (h:JU Z8h (ofK y l 0) ys):ys.length<=l.length:=by
 rw [h.1.length_eq];exact Z4D y l 0
theorem Z8i (v:Value) (l:List Hol) (a b:Int) (w) (hs:SlV [] w v l) (hL:Z05 w) (hM:Z1i w) (ho:∀ h∈l,Z4e h) (hl:l.length<20) (ha:0<=a) (cj:a<=b) (hb:b<=3652058) (oW:(ofM a).y<=(ofM b).y) :
 CC 248 #[v,.I a,.I b] w λr w'=>∃ zs:List Int,(∀ d,d∈zs↔a<=d/\d<=b/\∃ y,(ofM a).y - 1<=y/\y<=(ofM b).y+1/\∃ h∈l,Z0Y h y=some d)/\ZE 3 w w' r (Z1I zs):=by
 obtain ⟨ya1,ya2,-⟩:=Z6G ha (by omega);obtain ⟨yb1,yb2,-⟩:=Z6G (n:=b) (by omega) hb;have ia:max a 0=a:=by omega
 have rj:min b 3652058=b:=by omega
 refine cW3 65 Tryz.func248 ?_;refine W ?_;rw [ia,rj];refine QO ?_;refine CM (ZO rfl) (Z76 a _ ha (by omega)) ?_;rintro _ w1 ⟨rfl,hS⟩;refine W ?_;refine Z0 Z4 rfl ?_;rintro _ w2 ⟨b7,rfl,qN,e7,ai⟩;refine W ?_;refine SB (us:=[.I (ofM a).y,.I (ofM a).m,.I (ofM a).d]) (by intro u hu;simp at hu;rcases hu with rfl|rfl|rfl<;>rfl) e7 ?_;rintro _ w3 ⟨hT,k7⟩;replace hS:=hS.trans (ai.ow hT);clear e7 ai hT;refine W ?_;refine CM (ZO rfl) (Z76 b _ (by omega) hb) ?_;rintro _ w4 ⟨rfl,ay⟩;replace k7:=k7.up ay;replace hS:=hS.trans ay;refine W ?_;refine Z0 Z4 rfl ?_;rintro _ w5 ⟨b9,rfl,gG,e9,aB⟩;have n79:b7≠b9:=by have:=k7.lt;omega
 refine W ?_;refine SB (us:=[.I (ofM b).y,.I (ofM b).m,.I (ofM b).d]) (by intro u hu;simp at hu;rcases hu with rfl|rfl|rfl<;>rfl) e9 ?_;rintro _ w6 ⟨hT,k9⟩;replace aB:=aB.ow hT;replace k7:=k7.up aB;replace hS:=hS.trans aB;clear e9 hT ay aB;replace hs:=hs.up hS;replace hL:=hL.up hS;replace hM:=hM.up hS;refine W ?_
 refine Zr (σ:=Nat×Value×List Int) (λq=>[(0,v),(1,.I a),(2,.I b),(7,pQ b7),(9,pQ b9),(11,q.2.1),(12,.I ((ofM a).y - 1+(q.1:Int)))])
  (λq w'=>(ofM a).y - 1+(q.1:Int)<=(ofM b).y+2/\q.2.2.length<=q.1 * 20/\(∀ d,d∈q.2.2↔a<=d/\d<=b/\∃ y,(ofM a).y - 1<=y/\y<(ofM a).y - 1+(q.1:Int)/\∃ h∈l,Z0Y h y=some d)/\ZE 3 w6 w' q.2.1 q.2.2)
  (λq=>20000 - q.1) (0,.N,[]) ⟨rfl,rfl,rfl,rfl,rfl,rfl,(by simp [Zb]),trivial⟩ ⟨by dsimp only;omega,Xu _,λd=>by simp;intros;omega,ZE.nil⟩ ?_
 rintro ⟨k,ov,zs⟩ w7 ⟨hk,kR,hz,hr⟩;dsimp only at hk kR hz hr ⊢;have aR:=hr.2;replace k7:=k7.up aR;replace k9:=k9.up aR;replace hs:=hs.up aR;replace hL:=hL.up aR;replace hM:=hM.up aR;by_cases ah:(ofM a).y - 1+(k:Int)<=(ofM b).y+1;refine QO ?_;refine CL (ZhB v l _ _ hs hL hM ho hl) ?_;rintro rv w8 ⟨ys,br,mB⟩;have cQ:=Zen br;have mD:=Zem br;have cF:=mB.2;have bZ:=mB.slv (X:=ob ov) (λb hb=>(hr.1.ob_le b hb).2);have mE:=mB.slv (X:=[]) (by simp);replace hr:=hr.up cF;replace k9:=k9.up cF;replace hs:=hs.up cF;replace hL:=hL.up cF;replace hM:=hM.up cF;refine W ?_
 refine Zel (σ:=Value×List Int) (λq=>[(0,v),(1,.I a),(2,.I b),(7,pQ b7),(9,pQ b9),(11,q.1),(12,.I ((ofM a).y - 1+(k:Int)))])
  (λq w'=>q.2=zs++inR a b (ys.map Prod.fst)/\ZE 3 w6 w' q.1 q.2) ?_ ?_
 refine Zr (σ:=Nat×Value) (λq=>[(0,v),(1,.I a),(2,.I b),(7,pQ b7),(9,pQ b9),(11,q.2),(12,.I ((ofM a).y - 1+(k:Int))),(44,rv),(45,.I (ys.length:Int)),(46,.I (q.1:Int))])
  (λq w'=>q.1<=ys.length/\ZE 3 w6 w' q.2 (zs++inR a b ((ys.take q.1).map Prod.fst))/\SlV (ob q.2) w' rv ys) (λq=>ys.length - q.1) (0,ov) ⟨rfl,rfl,rfl,rfl,rfl,rfl,rfl,rfl,rfl,rfl,trivial⟩ ⟨Xu _,by simpa [inR] using hr,bZ⟩ ?_
 clear hr bZ mE hs hL hM k7 k9;rintro ⟨j,ov'⟩ w9 ⟨hj,hr,bZ⟩;dsimp only at hj hr bZ ⊢;by_cases dB:j<ys.length;have fx:inR a b ((ys.take (j+1)).map Prod.fst)=inR a b ((ys.take j).map Prod.fst)++inR a b [ys[j].1]:=by
  rw [Xf dB,XL,ZhC];rfl
 refine QO ?_;refine Z0 Z4 rfl ?_;rintro _ w10 ⟨b14,rfl,mG,e14,fg⟩;refine W ?_;refine SA (us:=Z2.enc ys[j]) e14 ?_;rintro _ w11 ⟨hT,k14⟩;replace fg:=fg.ow hT;clear e14 hT;replace hr:=hr.up fg;replace bZ:=bZ.up fg;refine W ?_;refine CL (Z11 ys[j].1 a b _) ?_;rintro _ _ ⟨rfl,rfl⟩;by_cases aX:a<=ys[j].1/\ys[j].1<=b;rw [decide_eq_true aX];have am:(zs++inR a b ((ys.take j).map Prod.fst)).length<=300000:=by
  have h1:(inR a b ((ys.take j).map Prod.fst)).length<=((ys.take j).map Prod.fst).length:=XR _ _;rw [Xe];simp only [XI,Xv] at h1;omega
 have e1:inR a b [ys[j].1]=[ys[j].1]:=by unfold inR;simp [aX]
 rw [e1] at fx;refine W ?_;refine Z0 (Z3 (vs:=[(0,.I ys[j].1)]) rfl (ZH _)) rfl ?_;rintro bv w12 hN;have jY:=Zh.stp hN;have dR:SlV (ob ov') w12 bv [ys[j].1]:=hN.slv (λb hb=>(hr.1.ob_le b hb).2) rfl rfl (by simp [maxLen]);replace hr:=hr.up jY;replace bZ:=bZ.up jY;refine Z0 (Z37 rfl (by decide) rfl rfl hr dR (by simp only [Xo,Xr];omega) (by simp only [Xo,Xr,maxLen];omega)) rfl ?_;rintro ov2 w13 ⟨cM,bF,mH⟩;refine W ?_;refine QL (j+1,ov2) ⟨dB,?_,bZ.ext bF (λ_ h=>h) mH⟩ (by dsimp only;omega);dsimp only;rw [fx,<- XA];exact cM;rw [decide_eq_false aX];have e1:inR a b [ys[j].1]=[]:=by unfold inR;simp only [List.filter_cons,decide_eq_false aX,List.filter_nil];rfl
 rw [e1,XJ] at fx;refine W ?_;refine QL (j+1,ov') ⟨dB,?_,bZ⟩ (by dsimp only;omega);dsimp only;rw [fx];exact hr;have rm:j=ys.length:=by omega
 subst rm;rw [Xs] at hr;refine QO ?_;exact Zt (ov',zs++inR a b (ys.map Prod.fst)) ⟨rfl,rfl,rfl,rfl,rfl,rfl,rfl,trivial⟩ ⟨rfl,hr⟩;rintro ⟨ov',zs'⟩ w9 ⟨oX,hr⟩;dsimp only at oX hr ⊢;subst oX;have e1:(ofM a).y - 1+(k:Int)+1=(ofM a).y - 1+((k+1:Nat):Int):=by omega
 refine W ?_;rw [e1];refine J3 (k+1,ov',zs++inR a b (ys.map Prod.fst)) ⟨rfl,rfl,rfl,rfl,rfl,rfl,rfl,trivial⟩ ⟨by dsimp only;omega,?_,λd=>?_,hr⟩ (by dsimp only;omega);have h1:(inR a b (ys.map Prod.fst)).length<=(ys.map Prod.fst).length:=XR _ _;dsimp only;rw [Xe];simp only [XI] at h1;omega;dsimp only;rw [Xg,hz,inR,X2,mD];constructor;rintro (⟨p1,p2,y,p3,p4,p5⟩|⟨p5,p6⟩);exact ⟨p1,p2,y,p3,by omega,p5⟩;have p6:=of_decide_eq_true p6;exact ⟨p6.1,p6.2,_,by omega,by omega,p5⟩;rintro ⟨p1,p2,y,p3,p4,p5⟩;by_cases hy:y<(ofM a).y - 1+(k:Int)
 exact .inl ⟨p1,p2,y,p3,hy,p5⟩;obtain rfl:y=(ofM a).y - 1+(k:Int):=by omega
 exact .inr ⟨p5,decide_eq_true ⟨p1,p2⟩⟩;refine QO ?_;refine CM (ZO rfl) (Z7V _ hr.1 (by omega)) ?_;rintro _ w8 ⟨rfl,bD,cF⟩;refine W ?_;refine CM (ZO rfl) (Z4c _ bD (by rw [Ybu];omega)) ?_;rintro rv w9 ⟨jZ,cG,aJ⟩;refine W ?_;refine WR ?_;refine .mk ⟨zs,λd=>?_,jZ.lower hS.size,((hS.trans hr.2).own cF (λc hc=>.inr (Xl hS.size (hr.1.ob_le c hc).1))).own cG (λc hc=>.inr (Xl hS.size (hr.1.ob_le c hc).1))⟩;rw [hz];constructor;rintro ⟨p1,p2,y,p3,p4,p5⟩;exact ⟨p1,p2,y,p3,by omega,p5⟩;rintro ⟨p1,p2,y,p3,p4,p5⟩;exact ⟨p1,p2,y,p3,by omega,p5⟩
theorem Z9w {l:List Hol} {d:Int} (h0:0<=d) (h1:d<=3652058) {zs:List Int} (hz:∀ x,x∈zs↔d<=x/\x<=d/\∃ y,(ofM d).y - 1<=y/\y<=(ofM d).y+1/\∃ h∈l,Z0Y h y=some x) :
 decide (((Z1I zs).length:Int) > 0)=Z4Z l d:=by
 have hm:=(Jp zs).2;have aX:Zu d=true:=Zw.2 ⟨h0,h1⟩;rw [Ybi];unfold Z4Z;rw [aX,YbM,decide_eq_true_eq,YaV];constructor;intro hl;obtain ⟨x,hx⟩:=List.exists_mem_of_length_pos (l:=Z1I zs) (by omega);obtain ⟨p1,p2,y,p3,p4,h,hh,hk⟩:=(hz x).1 ((hm x).1 hx);obtain rfl:x=d:=by omega
 refine ⟨y,?_,YaV.2 ⟨h,hh,decide_eq_true hk⟩⟩;have:y=(ofM x).y - 1\/y=(ofM x).y\/y=(ofM x).y+1:=by omega
 rcases this with rfl|rfl|rfl<;>simp
 rintro ⟨y,hy,hh⟩;obtain ⟨h,hh,hk⟩:=YaV.1 hh;have cR:(ofM d).y - 1<=y/\y<=(ofM d).y+1:=by simp at hy;omega
 have:d∈Z1I zs:=(hm d).2 ((hz d).2 ⟨Ya7 _,Ya7 _,y,cR.1,cR.2,h,hh,of_decide_eq_true hk⟩);have:=List.length_pos_of_mem this;omega
theorem ZlY (v:Value) (l:List Hol) (d:Int) (w) (hs:SlV [] w v l) (hL:Z05 w) (hM:Z1i w) (ho:∀ h∈l,Z4e h) (hl:l.length<20) :
 CC 199 #[v,.I d] w λr w'=>r=.B (Z4Z l d)/\Stp [] w w':=by
 refine cW2 15 Tryz.func199 ?_;refine W ?_;refine CL (Z11 d 0 3652058 _) ?_;rintro _ _ ⟨rfl,rfl⟩;by_cases hd:0<=d/\d<=3652058;rw [decide_eq_true hd];refine W ?_;refine CL (Z8i v l d d _ hs hL hM ho hl hd.1 (Ya7 _) hd.2 (Ya7 _)) ?_;rintro rv w1 ⟨zs,hz,hr⟩;have fB:=hr.slv (X:=[]) (by simp);refine RT ?_;exact ⟨by rw [Z9w hd.1 hd.2 hz],hr.2⟩;rw [decide_eq_false hd];refine W ?_;refine WR ?_;refine .mk ⟨?_,Stp.refl _ _⟩;have:Zu d=false:=by unfold Zu;exact decide_eq_false hd
 unfold Z4Z;rw [this];rfl
structure Z3r (w:World) (c:Cal) (hv cv zo zs hr:Value):Prop where
 hols:SlV [] w hv c.hols
 clos:SlV [] w cv c.clos
 len:Z05 w
 mov:Z1i w
 ok:Ziy c
abbrev Z5c (c:Cal) (hv cv zo zs hr:Value):Value:=.agg (Jq c hv cv zo zs hr).toArray
theorem Z3r.up {w w':World} {c:Cal} {hv cv zo zs hr:Value} (h:Z3r w c hv cv zo zs hr) (hS:Stp [] w w'):Z3r w' c hv cv zo zs hr:=⟨h.hols.up hS,h.clos.up hS,h.len.up hS,h.mov.up hS,h.ok⟩
theorem ZhD (c:Cal) (hv cv zo zs hr:Value) {i:Nat} (hi:i<7):(Jq c hv cv zo zs hr)[0+i * 1]?=some (.B (c.week.getD i false)):=by
 have:i=0\/i=1\/i=2\/i=3\/i=4\/i=5\/i=6:=by omega
 rcases this with rfl|rfl|rfl|rfl|rfl|rfl|rfl<;>rfl
theorem Z2a (d:Int) (w):CC 66 #[.I d] w λr w'=>r=.B (Zu d)/\w'=w:=by
 refine cW1 9 Tryz.func66 ?_;unfold Zu;by_cases h1:d>=0;by_cases h2:d<=3652058;rw [decide_eq_true ⟨h1,h2⟩];refine RT ?_;exact ⟨by simp [h2],rfl⟩;rw [decide_eq_false (λh=>h2 h.2)];refine RT ?_;exact ⟨by simp [h2],rfl⟩;rw [decide_eq_false (λh=>h1 h.1)];refine RT ?_;exact ⟨rfl,rfl⟩
theorem Zbz (d kn:Int) (bc bk:Nat) (c:Cal) (hv cv zo zs hr:Value) (w) (h:Z3r w c hv cv zo zs hr) (kc:Blk w bc 48 (Jq c hv cv zo zs hr)) (kk:Blk w bk 3 [.I kn]) (h0:0<=d) (h1:d<=3652058) :
 CC 197 #[.I d,pQ bc,pQ bk] w λr w'=>r=.B (Zai c kn d)/\Stp [] w w':=by
 have mI:(d % 7).toNat<7:=by omega
 have kW:=ZhD c hv cv zo zs hr mI;have aW:=h.clos.max;have rn:=h.clos;refine cW3 40 Tryz.func197 ?_;refine W ?_;refine CM (ZO rfl) (Z29 d _ h0 (by omega)) ?_;rintro _ w ⟨rfl,rfl⟩;refine W ?_;refine Z35 (len:=7) (i:=(d % 7).toNat) rfl rfl (by omega) mI rfl ?_;refine Z7q rfl rfl kc kW rfl ?_;unfold Zai;cases hw:c.week.getD (d % 7).toNat false with
 | true=>
   refine RT ?_;exact ⟨by simp,Stp.refl _ _⟩
 | false=>
   rw [YbL];refine W ?_;refine Z2h (σ:=Unit) (λ_=>[(0,.I d),(1,pQ bc)]) (λ_ w'=>Z7W c.clos kn d=false/\Stp [] w w') ?_ ?_
   refine Zr (σ:=Nat) (λk=>[(0,.I d),(1,pQ bc),(2,pQ bk),(13,cv),(14,.I (c.clos.length:Int)),(15,.I (k:Int))])
    (λk w'=>k<=c.clos.length/\Z7W (c.clos.take k) kn d=false/\Stp [] w w') (λk=>c.clos.length - k) 0 ⟨rfl,rfl,rfl,rfl,rfl,rfl,trivial⟩ ⟨Xu _,rfl,Stp.refl _ _⟩ ?_
   rintro k w1 ⟨hk,hn,hS⟩;have kk:=kk.up hS;have eU:=h.clos.up hS;by_cases ah:k<c.clos.length;have ht:Z7W (c.clos.take (k+1)) kn d=(Z7W (c.clos.take k) kn d || decide (c.clos[k].known<=kn/\c.clos[k].lo<=d/\d<=c.clos[k].hi)):=by
    unfold Z7W;rw [Xf ah,List.any_append];simp
   rw [hn,YbL] at ht;refine QO ?_;refine Z0 Z4 rfl ?_;rintro _ w2 ⟨b6,rfl,eo,e6,ai⟩;refine W ?_;refine SA (us:=Z2.enc c.clos[k]) e6 ?_;rintro _ w3 ⟨hT,k6⟩;replace ai:=ai.ow hT;clear e6 hT;replace kk:=kk.up ai;replace eU:=eU.up ai;replace hS:=hS.trans ai;by_cases hx:c.clos[k].known<=kn/\c.clos[k].lo<=d/\d<=c.clos[k].hi;refine QO ?_;refine WR ?_;refine .mk ⟨?_,hS⟩;have:Z7W c.clos kn d=true:=by
    unfold Z7W;exact YaV.2 ⟨c.clos[k],Xc ah,decide_eq_true hx⟩
   rw [this];rfl
   . rw [decide_eq_false hx] at ht
     repeat'(first|refine W1 ?_|omega|refine VG ?_ ?_<;>intro hg|refine VC ?_ ?_<;>intro hc)
     all_goals exact QL (k+1) ⟨ah,ht,hS⟩ (by omega)
   obtain rfl:k=c.clos.length:=by omega
   rw [Xs] at hn;refine QO ?_;exact QT () ⟨hn,hS⟩;rintro _ w1 ⟨hn,hS⟩;have kc:=kc.up hS;have h:=h.up hS;rw [hn,YbL];refine W ?_;refine CM (ZK rfl rfl) (ZlY hv c.hols d _ h.hols h.len h.mov h.ok.hols (by have:=h.ok.few;omega)) ?_;rintro _ w2 ⟨rfl,ai⟩;refine RT ?_;exact ⟨rfl,hS.trans ai⟩
def Zpg (w:World) (f:Value) (c:Cal) (hv cv zo zs hr:Value) (kn:Int):Prop:=∃ b2 b3,f=.func (.func 197) #[] #[pQ b2,pQ b3]/\Blk w b2 48 (Jq c hv cv zo zs hr)/\Blk w b3 3 [.I kn]
theorem Zeo (kn:Int) (c:Cal) (hv cv zo zs hr:Value) (w):CC 134 #[Z5c c hv cv zo zs hr,.I kn] w λr w'=>Zpg w' r c hv cv zo zs hr kn/\Stp [] w w':=by
 refine cW2 6 Tryz.func134 ?_;refine W ?_;refine Z0 (Zl rfl) rfl ?_;rintro _ w1 ⟨b2,rfl,fw,ab,hS⟩;replace ab:Blk w1 b2 48 (Jq c hv cv zo zs hr):=ab;refine Z0 (Zl rfl) rfl ?_;rintro _ w2 ⟨b3,rfl,kI,aL,ai⟩;replace aL:Blk w2 b3 3 [.I kn]:=aL;replace ab:=ab.up ai;refine RT ?_;exact ⟨⟨b2,b3,rfl,ab,aL⟩,hS.trans ai⟩
open Go Go.Eng Go.RowKit Go.Proofs Go.Shelf
attribute [local go_sem] Oper.semAt_some
theorem Zep (n:Nat) (hn:2<=n) (l bd bs:Nat) (d0 st:Int) (ax:st=1\/st=-1) (kX:0<=d0) (eH:d0<=3652058) (J:Nat->World->Prop) (Jx:World->Prop)
 (rp:∀ k W,J k W->W.cell? ⟨bd,0,none⟩=some (.I (d0+st * k))/\W.cell? ⟨bs,0,none⟩=some (.I st))
 (hY : ∀ (k : Nat) W, J k W -> k <= 1000 -> Zu (d0 + st * k) = true -> YieldAt Fence.wide (n - 1) Tryz.prog l #[.I (d0 + st * k)] W λe W'=>
   (e=.returned (.B true)/\W'.cell? ⟨bd,0,none⟩=some (.I (d0+st * k))/\W'.frozen? ⟨bd,0,none⟩=false/\W'.cell? ⟨bs,0,none⟩=some (.I st)/\J (k+1) (W'.setCell ⟨bd,0,none⟩ (.I (d0+st * k+st))))\/(e=.returned (.B false)/\Jx W'))
 (W:World) (h0:J 0 W) :
 CallsIn Fence.wide n Tryz.prog 200 #[.func (.yield l) #[] #[],pQ bd,pQ bs] W λe W'=>(∃ v,e=.returned v)/\
  ((∃ k:Nat,(1000<k\/Zu (d0+st * k)=false)/\J k W')\/Jx W'):=by
 refine callsIn_of_wp Tryz.func200 rfl trivial ?_ rfl;simp only [Tryz.ntmps200,XZ,Xo,Xr,Nat.reduceAdd,Nat.reduceSub,Array.replicate_succ,Array.replicate_zero,List.push_toArray,List.append_toArray,XM,X9]
 gi_wp2
 gi_loopw [4] (λi wr=>∃ k:Nat,k<=1001/\i=.I (k:Int)/\J k wr) (λi _=>1002 - (intOf i).toNat)
 case atStart=>exact ⟨0,Xu _,rfl,h0⟩
 case round=>
  obtain ⟨k,hk,rfl,kY⟩:=hrel;obtain ⟨c1,c2⟩:=rp k _ kY;have fM:-1001<=st * (k:Int)/\st * (k:Int)<=1001:=by rcases ax with rfl|rfl<;>omega
  by_cases ah:k<=1000
  . have fC:(k:Int)<=1000:=by omega
    gi_wp2
    refine ⟨trivial,(λh=>by cases h),?_⟩;refine (callsIn_wide.2 (Z2a _ _)).mono ?_;rintro e w' ⟨v,rfl,rfl,rfl⟩;cases aX:Zu (d0+st * k) with
    | false=>
      gi_wp2
      go_end0
      exact ⟨⟨_,rfl⟩,.inl ⟨k,.inr aX,kY⟩⟩
    | true=>
      obtain ⟨fn,tmps,assign,body,hy,hR⟩:=hY k _ kY ah aX
      gi_wp2
      refine ⟨(λh=>by cases h),hR.mono ?_⟩;rintro e W3 (⟨rfl,a1,a2,a3,a4⟩|⟨rfl,hx⟩);have ru:=Zw.1 aX
      gi_wp2
      exact ⟨⟨k+1,by omega,rfl,a4⟩,by simp [intOf];omega⟩
      gi_wp2
      refine bodyPost_ret (results_none rfl _ _ _) rfl ?_;exact ⟨⟨_,rfl⟩,.inr hx⟩
  have fJ:¬ (k:Int)<=1000:=by omega
  gi_wp2
  refine ⟨trivial,?_⟩
  gi_wp2
  go_end0
  exact ⟨⟨_,rfl⟩,.inl ⟨k,.inl (by omega),kY⟩⟩
theorem Z9x {g:Operand} {ps:Array Tmp} {assign body:Code} {Q:Exit->Act->World->Prop} {a:Act} {w:World} {n:Nat} (hn:3<=n) (aZ:ps.size=1) {bd bs:Nat} {d0 st:Int}
 (hg:a.eval g=.func (.func 200) #[] #[pQ bd,pQ bs]) (ax:st=1\/st=-1) (kX:0<=d0) (eH:d0<=3652058) (eF:bd<w.heap.size)
 (I I':Nat->World->Prop) (Ix:World->Prop)
 (hI:∀ k W W',I k W->Below w.heap.size W W'->I k W') (hI':∀ k W W',I' k W->Below w.heap.size W W'->I' k W') (hIx:∀ W W',Ix W->Below w.heap.size W W'->Ix W')
 (hc:∀ (k:Nat) W,I k W->W.cell? ⟨bd,0,none⟩=some (.I (d0+st * k))/\W.cell? ⟨bs,0,none⟩=some (.I st))
 (hc':∀ (k:Nat) W,I' k W->W.cell? ⟨bd,0,none⟩=some (.I (d0+st * k))/\W.frozen? ⟨bd,0,none⟩=false/\W.cell? ⟨bs,0,none⟩=some (.I st))
 (hstep:∀ (k:Nat) W,I' k W->I (k+1) (W.setCell ⟨bd,0,none⟩ (.I (d0+st * k+st)))) (h0:I 0 w) (a₁:Int->Act)
 (hassign : ∀ (l : Nat) (X : Int) (W : World) (K : Act -> World -> Prop), K (a₁ X) W->
   assign.wpIn (Fence.wide.inRound l) (n - 1 - 1) Tryz.prog (Exit.then K (λ_ _ _=>False)) { tmps:=(ps.zip #[Value.int .i64 X]).foldl (λt (p,v)=>t.setIfInBounds p v) a.tmps,defers:=[] } W)
 (hbody : ∀ (l : Nat) (k : Nat) (W : World), I k W -> k <= 1000 -> Zu (d0 + st * k) = true -> body.wpIn (Fence.wide.inRound l) (n - 1 - 1) Tryz.prog
   (λe _ W'=>(∀ b,w.heap.size<=b->b<W.heap.size->W'.heap[b]?=W.heap[b]?)/\match e with|.normal=>I' k W'|.ret=>Ix W'|_=>False) (a₁ (d0+st * k)) W)
 (hdone:∀ (D k:Nat) (W:World),w.heap.size<=D->(1000<k\/Zu (d0+st * k)=false)->I k W->W.heap[D]?=some (.deferred (some []))->Q .normal { a with defers:={ target:=.collected D,args:=#[] } :: a.defers } W)
 (hstop:∀ (D:Nat) (W:World),w.heap.size<=D->Ix W->W.heap[D]?=some (.deferred (some []))->Q .ret { a with defers:={ target:=.collected D,args:=#[] } :: a.defers } W) :
 (Code.rangeFunc g ps assign body).wpIn Fence.wide n Tryz.prog Q a w:=by
 refine wpIn_rangeFunc ?_;intro fn lx;obtain ⟨rec,bi⟩:∃ rec:LoopState->Option Code->Loop,rec=λst pe=>{ state:=st,pending:=pe,fn,tmps:=a.tmps,params:=ps,assign,body,defers:=w.heap.size }:=⟨_,rfl⟩
 obtain ⟨W1,dT⟩:∃ W1,(w.alloc (.deferred (some []))).alloc (.loop (rec .ready none))=W1:=⟨_,rfl⟩
 have ik:W1.heap[w.heap.size+1]?=some (.loop (rec .ready none)):=by
  rw [<- dT];have:=World.alloc_heap_new (w.alloc (.deferred (some []))) (.loop (rec .ready none));rwa [World.size_alloc] at this
 have ml:W1.heap[w.heap.size]?=some (.deferred (some [])):=by
  rw [<- dT];exact (Below.heap_alloc _ _ _ (by simp)).trans (World.alloc_heap_new w _)
 have fA:Below w.heap.size w W1:=by
  rw [<- dT];exact ((Below.refl _ w).alloc (Xm _) _).alloc (by simp) _
 have bput:∀ (W:World) (l:Nat) (o:Obj),w.heap.size<=l->Below w.heap.size W (W.putObj l o):=λW l o hl=>
  ⟨rfl,rfl,rfl,by simp,λk hk=>World.putObj_heap_other (by omega)⟩
 refine ⟨w.heap.size+1,[{ target:=.collected w.heap.size,args:=#[] }],W1,{ target:=.fn (.func 200) #[pQ bd,pQ bs],args:=#[.func (.yield (w.heap.size+1)) #[] #[]] },W1,200,
  #[.func (.yield (w.heap.size+1)) #[] #[]]++#[pQ bd,pQ bs],W1,?_,?_,?_,?_,λh=>(by cases h),?_⟩
 rw [<- dT,bi];exact run_enterLoop_outer _ _ _ _ _;simp only [resolve,hg];simp [go_sem];intro f' jJ;trivial;have eg:=enters_of Tryz.func200 (by kernel_rfl) rfl;simp [invoke,go_sem,eg]
 refine (Zep (n - 1) (by omega) (w.heap.size+1) bd bs d0 st ax kX eH
  (λk W=>I k W/\W.heap[w.heap.size+1]?=some (.loop (rec .ready none))/\W.heap[w.heap.size]?=some (.deferred (some [])))
  (λW=>Ix W/\W.heap[w.heap.size+1]?=some (.loop (rec .done (some .ret)))/\W.heap[w.heap.size]?=some (.deferred (some [])))
  (λk W h=>hc k W h.1) ?_ W1 ⟨hI _ _ _ h0 fA,ik,ml⟩).mono ?_
 . rintro k W ⟨hi,hl,hk⟩ dc aX
   have ah:w.heap.size+1<W.heap.size:=(Xi.1 hl).1;have hy:=run_yield (P:=Tryz.prog) (args:=#[Value.int .i64 (d0+st * k)]) hl (by rw [bi];simp [aZ]);rw [bi] at hy;refine ⟨fn,_,assign,body,hy,roundIn_of_wpIn lx (hassign _ _ W _ ⟨_,run_beginRound hl (by rw [bi]),?_⟩)⟩;have cZ:(W.putObj (w.heap.size+1) (.loop { rec .ready none with state:=.busy })).heap[w.heap.size+1]?=some (.loop { rec .ready none with state:=.busy }):=World.putObj_heap_same ah;have dF:(W.putObj (w.heap.size+1) (.loop { rec .ready none with state:=.busy })).heap[w.heap.size]?=some (.deferred (some [])):=(World.putObj_heap_other (by omega)).trans hk;refine wpIn_mono (hbody _ k _ (hI _ _ _ hi (bput _ _ _ (by omega))) dc aX) ?_
   have fin:∀ (jump:Option Code) (W3:World),(∀ b,w.heap.size<=b->b<(W.putObj (w.heap.size+1) (.loop { rec .ready none with state:=.busy })).heap.size->W3.heap[b]?=(W.putObj (w.heap.size+1) (.loop { rec .ready none with state:=.busy })).heap[b]?)->
    (Instr.endRound (w.heap.size+1) jump).run Tryz.prog W3=.ok (.B jump.isNone) (W3.putObj (w.heap.size+1) (.loop (rec (if jump.isNone then .ready else .done) jump)))/\
    (W3.putObj (w.heap.size+1) (.loop (rec (if jump.isNone then .ready else .done) jump))).heap[w.heap.size+1]?=some (.loop (rec (if jump.isNone then .ready else .done) jump))/\
    (W3.putObj (w.heap.size+1) (.loop (rec (if jump.isNone then .ready else .done) jump))).heap[w.heap.size]?=some (.deferred (some [])):=λjump W3 gD=>by
    have iR:=(gD (w.heap.size+1) (by omega) (by simp;omega)).trans cZ;have j0:=(gD w.heap.size (by omega) (by simp;omega)).trans dF;have:=run_endRound (P:=Tryz.prog) jump iR;rw [bi] at this ⊢;exact ⟨this,World.putObj_heap_same (Xi.1 iR).1,(World.putObj_heap_other (by omega)).trans j0⟩
   rintro e a3 W3 ⟨gD,hp⟩;cases e with
   | normal=>
     obtain ⟨hr,mK,j0⟩:=fin none W3 gD;have oY:=hI' _ _ _ hp (bput W3 (w.heap.size+1) (.loop (rec .ready none)) (by omega));obtain ⟨p1,p2,p3⟩:=hc' _ _ oY;refine ⟨_,_,hr,.inl ⟨rfl,p1,p2,p3,hstep _ _ oY,?_,?_⟩⟩;exact (Below.heap_setCell _ ⟨bd,0,none⟩ _ _ (by show w.heap.size+1≠bd;omega)).trans mK;exact (Below.heap_setCell _ ⟨bd,0,none⟩ _ _ (by show w.heap.size≠bd;omega)).trans j0
   | ret=>
     obtain ⟨hr,mK,j0⟩:=fin (some .ret) W3 gD;exact ⟨_,_,hr,.inr ⟨rfl,hIx _ _ hp (bput W3 (w.heap.size+1) _ (by omega)),mK,j0⟩⟩
   | exit id=>exact hp.elim
   | goto t=>exact hp.elim
   | panic ch=>exact hp.elim
   | outgrown=>exact hp.elim
 rintro e W2 ⟨⟨v,rfl⟩,(⟨k,ej,hi,hl,hk⟩|⟨hi,hl,hk⟩)⟩;exact ⟨none,_,by have:=run_endLoop (P:=Tryz.prog) hl (by rw [bi];simp);rw [bi] at this;exact this,hdone _ k _ (Xm _) ej (hI _ _ _ hi (bput _ _ _ (by omega))) ((World.putObj_heap_other (by omega)).trans hk)⟩;refine ⟨some .ret,_,by have:=run_endLoop (P:=Tryz.prog) hl (by rw [bi];simp);rw [bi] at this;exact this,?_⟩;exact wpIn_ret (hstop _ _ (Xm _) (hIx _ _ hi (bput _ _ _ (by omega))) ((World.putObj_heap_other (by omega)).trans hk))
theorem Zeq (d st:Int) (w):CC 135 #[.I d,.I st] w λr w'=>∃ b2 b3,r=.func (.func 200) #[] #[pQ b2,pQ b3]/\w.heap.size<=b2/\b2<b3/\Blk w' b2 3 [.I d]/\Blk w' b3 3 [.I st]/\Stp [] w w':=by
 refine cW2 6 Tryz.func135 ?_;refine W ?_;refine Z0 (Zl rfl) rfl ?_;rintro _ w1 ⟨b2,rfl,fw,k2,hS⟩;replace k2:Blk w1 b2 3 [.I d]:=k2;refine Z0 (Zl rfl) rfl ?_;rintro _ w2 ⟨b3,rfl,kI,k3,ai⟩;replace k3:Blk w2 b3 3 [.I st]:=k3;have:=k2.lt;replace k2:=k2.up ai;refine RT ?_;exact ⟨b2,b3,rfl,fw,by omega,k2,k3,hS.trans ai⟩
theorem Z4j {P:Program} {t b:Nat} {D:TypeDesc} {u:Value} {w:World} [hu:Und P t D] (hA:JO D=false) (hc:w.cell? ⟨b,0,none⟩=some u):(loadVar t ⟨b,0,none⟩).run P w=.ok u w:=by
 simp [loadVar,Und.isAgg,hA,hc]
theorem Z77 (b:Nat) (v:Value) (w):Stp [b] w (w.setCell ⟨b,0,none⟩ v):=⟨rfl,rfl,rfl,(KeepsOthers.setCell w ⟨b,0,none⟩ v).size,λk hk hn=>Below.heap_setCell w ⟨b,0,none⟩ v k (λe=>hn (by simp [e]))⟩
theorem Z3s (opn:Int->Bool) (st:Int):∀ (m:Nat) (d:Int) (k:Nat),(∀ j:Nat,j<k->opn (d+st * j)=false)->(m<=k\/Zu (d+st * k)=false)->Z22 opn st m d=(0,31)
 | 0,d,k,_,_=>rfl
 | m + 1, d, k, h, hk => by
   unfold Z22;cases hd:Zu d with
   | false=>rfl
   | true=>
     rw [if_pos rfl];cases k with
     | zero=>
       rcases hk with hk|hk
       omega;rw [show d+st * ((0:Nat):Int)=d by simp,hd] at hk;cases hk
     | succ k=>
       have h0:=h 0 (by omega);rw [show d+st * ((0:Nat):Int)=d by simp] at h0;rw [if_neg (by rw [h0];simp)];have es:∀ j:Nat,d+st+st * (j:Int)=d+st * ((j+1:Nat):Int):=λj=>by
        rw [YbQ,Int.mul_add];simp;omega
       exact Z3s opn st m (d+st) k (λj hj=>by rw [es];exact h (j+1) (by omega)) (hk.imp (λh=>by omega) (λh=>by rw [es];exact h))
theorem Z5d (opn:Int->Bool) (st:Int):∀ (m:Nat) (d:Int) (k:Nat),k<m->(∀ j:Nat,j<=k->Zu (d+st * j)=true)->(∀ j:Nat,j<k->opn (d+st * j)=false)->opn (d+st * k)=true->Z22 opn st m d=(d+st * k,0)
 | 0,d,k,h,_,_,_=>absurd h (XC _)
 | m + 1, d, k, ft, hi, h, ho => by
   have hd:=hi 0 (Xu _);rw [show d+st * ((0:Nat):Int)=d by simp] at hd;unfold Z22;rw [hd,if_pos rfl];cases k with
   | zero=>
     rw [show d+st * ((0:Nat):Int)=d by simp] at ho ⊢;rw [if_pos ho]
   | succ k=>
     have h0:=h 0 (by omega);rw [show d+st * ((0:Nat):Int)=d by simp] at h0;rw [if_neg (by rw [h0];simp)];have es:∀ j:Nat,d+st+st * (j:Int)=d+st * ((j+1:Nat):Int):=λj=>by
      rw [YbQ,Int.mul_add];simp;omega
     rw [<- es];exact Z5d opn st m (d+st) k (by omega) (λj hj=>by rw [es];exact hi (j+1) (by omega)) (λj hj=>by rw [es];exact h (j+1) (by omega)) (by rw [es];exact ho)
theorem ZaB {W:World} {b8 b9:Nat} {u v:Value} (c8:W.cell? ⟨b8,0,none⟩=some u) (c9:W.cell? ⟨b9,0,none⟩=some v) (n:b8≠b9) (x y:Value) :
 ((W.setCell ⟨b8,0,none⟩ x).setCell ⟨b9,0,none⟩ y).cell? ⟨b8,0,none⟩=some x/\((W.setCell ⟨b8,0,none⟩ x).setCell ⟨b9,0,none⟩ y).cell? ⟨b9,0,none⟩=some y:=by
 have h1:(W.setCell ⟨b8,0,none⟩ x).cell? ⟨b8,0,none⟩=some x:=World.cell?_setCell_same _ _ _ c8;have h2:(W.setCell ⟨b8,0,none⟩ x).cell? ⟨b9,0,none⟩=some v:=(World.cell?_setCell_other _ _ _ _ (λh=>n (by injection h))).trans c9;exact ⟨(World.cell?_setCell_other _ _ _ _ (λh=>n (by injection h with h;exact h.symm))).trans h1,World.cell?_setCell_same _ _ _ h2⟩
theorem Z3t (b8 b9:Nat) (x y:Value) (w):Stp [b8,b9] w ((w.setCell ⟨b8,0,none⟩ x).setCell ⟨b9,0,none⟩ y):=((Z77 b8 x w).mono (S':=[b8,b9]) (by simp)).trans ((Z77 b9 y _).mn)
theorem Z9y {tmps:Array Value} {W:World} {b8 b9:Nat} {x y:Value} (h8:tmps.getD 8 undef=pQ b8) (h9:tmps.getD 9 undef=pQ b9) (c8:W.cell? ⟨b8,0,none⟩=some x) (c9:W.cell? ⟨b9,0,none⟩=some y) :
 (results Tryz.f75 tmps).run Tryz.prog W=.ok (.tuple #[x,y]) W:=by
 rw [Xz] at h8 h9;have l8:=Z4j (P:=Tryz.prog) (t:=3) (hu:=(inferInstance:Und Tryz.prog 3 (.int .i64))) rfl c8;have l9:=Z4j (P:=Tryz.prog) (t:=55) (hu:=(inferInstance:Und Tryz.prog 55 (.int .i64))) rfl c9;simp [results,h8,h9,asAddr,l8,l9]
theorem Zes (d kn st:Int) (ax:st=1\/st=-1) (c:Cal) (hv cv zo zs hr:Value) (w) (h:Z3r w c hv cv zo zs hr) :
 CallsIn Fence.wide 5 Tryz.prog 75 #[Z5c c hv cv zo zs hr,.I d,.I kn,.I st] w λe W'=>e=.returned (.tuple #[.I (ZR (Zk c kn) st d).1,.I (ZR (Zk c kn) st d).2])/\Stp [] w W':=by
 refine callsIn_of_wp_marks Tryz.func75 rfl trivial ?_ rfl;simp only [Tryz.ntmps75,XZ,Xo,Xr,Nat.reduceAdd,Nat.reduceSub,Array.replicate_succ,Array.replicate_zero,List.push_toArray,List.append_toArray,XM,X9]
 gi_wp2
 obtain ⟨W1,dT⟩:∃ W1,W1=((w.alloc (.cells (Jq c hv cv zo zs hr).toArray 48)).alloc (.cells #[.I 0] 3)).alloc (.cells #[.I 0] 55):=⟨_,rfl⟩
 rw [<- dT];have kc:Blk W1 w.heap.size 48 (Jq c hv cv zo zs hr):=by
  rw [dT];exact (Blk.up (World.alloc_heap_new w _) (Stp.alloc _ _ _)).up (Stp.alloc _ _ _)
 have k8:Blk W1 (w.heap.size+1) 3 [.I 0]:=by
  rw [dT];have:=World.alloc_heap_new (w.alloc (.cells (Jq c hv cv zo zs hr).toArray 48)) (.cells #[.I 0] 3);rw [World.size_alloc] at this;exact Blk.up this (Stp.alloc _ _ _)
 have k9:Blk W1 (w.heap.size+1+1) 55 [.I 0]:=by
  rw [dT];have:=World.alloc_heap_new ((w.alloc (.cells (Jq c hv cv zo zs hr).toArray 48)).alloc (.cells #[.I 0] 3)) (.cells #[.I 0] 55);rw [World.size_alloc,World.size_alloc] at this;exact this
 have ae:Stp [] w W1:=by
  rw [dT];exact ((Stp.alloc _ _ _).trans (Stp.alloc _ _ _)).trans (Stp.alloc _ _ _)
 have tq:w.heap.size<=w.heap.size+1:=by omega
 have tr:w.heap.size<=w.heap.size+1+1:=by omega
 generalize gG:w.heap.size+1+1=b9 at *;generalize d5:w.heap.size+1=b8 at *;generalize ju:w.heap.size=b4 at *;clear dT;have n89:b8≠b9:=by omega
 have c8:=Boxed.cell (show Boxed W1 b8 3 (.I 0) from k8);have f8:=Boxed.frozen (show Boxed W1 b8 3 (.I 0) from k8);have c9:=Boxed.cell (show Boxed W1 b9 55 (.I 0) from k9);have f9:=Boxed.frozen (show Boxed W1 b9 55 (.I 0) from k9);refine ⟨trivial,?_⟩;refine (callsIn_wide.2 (Z2a d W1)).mono ?_;rintro e w' ⟨v,rfl,rfl,rfl⟩;cases hd:Zu d with
 | false=>
   gi_wp2
   have iq:ZR (Zk c kn) st d=(0,5):=by unfold ZR;rw [hd];rfl
   obtain ⟨g8,g9⟩:=ZaB c8 c9 n89 (.I 0) (.I 5);refine ⟨_,Z9y rfl rfl g8 g9,?_,?_⟩;rw [iq];exact ae.own (Z3t b8 b9 _ _ _) (λx hx=>by simp at hx;omega)
 | true=>
   have q:=λ(j:Nat) (u:Value) (hu:(Jq c hv cv zo zs hr)[j]?=some u)=>kc.cell hu;have q0:=q 0 _ rfl;have q1:=q 1 _ rfl;have q2:=q 2 _ rfl;have q3:=q 3 _ rfl;have q4:=q 4 _ rfl;have q5:=q 5 _ rfl;have q6:=q 6 _ rfl;have q7:=q 7 _ rfl;have q8:=q 8 _ rfl;have q9:=q 9 _ rfl;have q10:=q 10 _ rfl;have q11:=q 11 _ rfl
   gi_wp2
   refine ⟨trivial,?_⟩;refine (callsIn_wide.2 (Zeo kn c hv cv zo zs hr w')).mono ?_;rintro e W2 ⟨v,rfl,⟨b2,b3,rfl,k2,k3⟩,ai⟩;have f8':=Boxed.frozen (show Boxed W2 b8 3 (.I 0) from k8.up ai);have f9':=Boxed.frozen (show Boxed W2 b9 55 (.I 0) from k9.up ai);have c8':=Boxed.cell (show Boxed W2 b8 3 (.I 0) from k8.up ai);have c9':=Boxed.cell (show Boxed W2 b9 55 (.I 0) from k9.up ai);have cN:=Boxed.cell (Boxed.new W2 152 .nilFunc);have fN:=Boxed.frozen (Boxed.new W2 152 .nilFunc);have rx:(store ⟨W2.heap.size,0,none⟩ (.func (.func 197) #[] #[pQ b2,pQ b3])).run Tryz.prog (W2.alloc (.cells #[.nilFunc] 152))=.ok () ((W2.alloc (.cells #[.nilFunc] 152)).setCell ⟨W2.heap.size,0,none⟩ (.func (.func 197) #[] #[pQ b2,pQ b3])):=by
    rw [run_store _ _ _ _ _ rfl];simp [cN,fN]
   gi_wp2
   refine ⟨trivial,?_⟩;refine (callsIn_wide.2 (Zeq d st _)).mono ?_;rintro e W3 ⟨v,rfl,bd,bs,rfl,eF,cr,kd,ks,aw⟩;have eU:W3.cell? ⟨W2.heap.size,0,none⟩=some (.func (.func 197) #[] #[pQ b2,pQ b3]):=aw.cell (by simp) (Boxed.cell (Boxed.new W2 152 _));have j4:Stp [] W2 W3:=(Stp.alloc [] W2 _).trans aw
   gi_wp2
   have bW:Stp [] w' W3:=ai.trans j4;have h3:=(h.up ae).up bW;have ry:=(k2.up j4).lt;have k2':=k2.up j4;have k3':=k3.up j4;have k8':=k8.up bW;have k9':=k9.up bW;have rz:=j4.size;have mL:W2.heap.size<W3.heap.size:=by have:=block_lt_of_cell eU;simpa using this
   have rA:W2.heap.size<bd:=by simp at eF;omega
   have k8l:=(k8.up ai).lt;have k9l:=(k9.up ai).lt;have k2l:=k2.lt;have k3l:=k3.lt;have kX:=(Zw.1 hd).1;have eH:=(Zw.1 hd).2;have rB:w.heap.size<=bd:=by have:=ae.size;have:=bW.size;have:=ai.size;omega
   have g1:1<w.heap.size:=by have:=block_lt_of_cell (h.len 0 0 rfl);simpa using this
   have g2:3<w.heap.size:=by have:=block_lt_of_cell (h.mov 0 0 rfl);simpa using this
   have rC:=h.hols.ext (X':=[bd]) (ae.trans bW) (by simp) (λb hb=>.inr (by simp at hb;omega));have rD:=h.clos.ext (X':=[bd]) (ae.trans bW) (by simp) (λb hb=>.inr (by simp at hb;omega));have tt:=(ae.trans bW).size;have cal:∀ W,Stp [bd] W3 W->Z3r W c hv cv zo zs hr:=λW hS=>⟨rC.ext (X':=[]) hS (λb hb=>hb) (by simp),rD.ext (X':=[]) hS (λb hb=>hb) (by simp),h3.len.ext hS (by simp;omega),h3.mov.ext hS (by simp;omega),h.ok⟩
   have sb:∀ {S:List Nat} {W W':World},Stp S W3 W->Below W3.heap.size W W'->Stp S W3 W':=λhS hB=>⟨hB.os.trans hS.os,hB.tape.trans hS.tape,hB.output.trans hS.output,Xl hS.size hB.size,λi hi hn=>(hB.block i hi).trans (hS.block i hi hn)⟩
   have ep:=kd.lt;have tu:=ks.lt
   refine Z9x (by omega) rfl rfl ax kX eH kd.lt
    (λk W=>Stp [bd] W3 W/\Boxed W bd 3 (.I (d+st * k))/\∀ j:Nat,j<k->Zk c kn (d+st * j)=false)
    (λk W=>(Stp [bd] W3 W/\Boxed W bd 3 (.I (d+st * k))/\∀ j:Nat,j<k->Zk c kn (d+st * j)=false)/\Zk c kn (d+st * k)=false)
    (λW=>Stp [bd,b8,b9] W3 W/\∃ k:Nat,k<=1000/\Zu (d+st * k)=true/\(∀ j:Nat,j<k->Zk c kn (d+st * j)=false)/\Zk c kn (d+st * k)=true/\W.cell? ⟨b8,0,none⟩=some (.I (d+st * k))/\W.cell? ⟨b9,0,none⟩=some (.I 0))
    ?hI ?hI' ?hIx ?hc ?hc' ?hstep ?h0 (λX=>{ tmps:=#[Z5c c hv cv zo zs hr,.I d,.I kn,.I st,pQ b4,undef,undef,undef,pQ b8,pQ b9,.pointer (some ⟨W2.heap.size,0,none⟩),.I X,.I d,.B true,.B false,Z5c c hv cv zo zs hr,.I kn,.func (.func 197) #[] #[pQ b2,pQ b3],.I d,.I st,.func (.func 200) #[] #[pQ bd,pQ bs],.I X,undef,undef,undef,undef,undef],defers:=[] }) ?hassign ?hbody ?hdone ?hstop
   case hI=>exact λk W W' ⟨a,b,e⟩ hB=>⟨sb a hB,(hB.block bd ep).trans b,e⟩
   case hI'=>exact λk W W' ⟨⟨a,b,e⟩,f⟩ hB=>⟨⟨sb a hB,(hB.block bd ep).trans b,e⟩,f⟩
   case hIx=>exact λW W' ⟨a,k,p1,p2,p3,p4,p5,p6⟩ hB=>⟨sb a hB,k,p1,p2,p3,p4,(World.cell?_of_block (hB.block b8 (by omega))).trans p5,(World.cell?_of_block (hB.block b9 (by omega))).trans p6⟩
   case hc=>exact λk W ⟨a,b,e⟩=>⟨b.cell,a.cell (by simp;omega) (ks.cell rfl)⟩
   case hc'=>exact λk W ⟨⟨a,b,e⟩,f⟩=>⟨b.cell,b.frozen,a.cell (by simp;omega) (ks.cell rfl)⟩
   case hstep=>
    rintro k W ⟨⟨a,b,e⟩,f⟩;have e1:d+st * ((k+1:Nat):Int)=d+st * k+st:=by rcases ax with rfl|rfl<;>omega
    refine ⟨a.trans (Z77 bd _ _),by rw [e1];exact b.set _,λj hj=>?_⟩;by_cases gj:j=k;subst gj;exact f;exact e j (by omega)
   case h0=>exact ⟨Stp.refl _ _,by rw [show d+st * ((0:Nat):Int)=d by simp];exact kd,λj hj=>absurd hj (XC _)⟩
   case hassign=>
    intro l X W K hK
    gi_wp2
    exact hK
   case hbody=>
    rintro l k W ⟨a,bx,e⟩ dc aX;have rE:=a.cell (b:=W2.heap.size) (o:=0) (by simp;omega) eU;obtain ⟨x0,x1⟩:=Zw.1 aX
    gi_wp2
    refine ⟨trivial,(CallsIn.inRound l (callsIn_wide.2 (Zbz (d+st * k) kn b2 b3 c hv cv zo zs hr W (cal W a) (k2'.ext a (by simp;omega)) (k3'.ext a (by simp;omega)) x0 x1))).mono ?_⟩;rintro e5 W5 ⟨v,rfl,rfl,aB⟩;have a5:=a.trans aB.mn;cases gv:Zai c kn (d+st * k) with
    | true=>
      gi_wp2
      exact ⟨λb h1 h2=>aB.block b h2 (by simp),⟨Blk.up (show Blk W bd 3 [.I (d+st * k)] from bx) aB,e⟩,by unfold Zk;rw [aX,gv];rfl⟩
    | false=>
      have f8:=Boxed.frozen (show Boxed W5 b8 3 (.I 0) from k8'.ext a5 (by simp;omega));have f9:=Boxed.frozen (show Boxed W5 b9 55 (.I 0) from k9'.ext a5 (by simp;omega));have c8:=Boxed.cell (show Boxed W5 b8 3 (.I 0) from k8'.ext a5 (by simp;omega));have c9:=Boxed.cell (show Boxed W5 b9 55 (.I 0) from k9'.ext a5 (by simp;omega))
      gi_wp2
      exact ⟨λb h1 h2=>((Z3t b8 b9 _ _ W5).block b (Xj h2 aB.size) (by simp;omega)).trans (aB.block b h2 (by simp)),a5.mn.trans ((Z3t b8 b9 _ _ W5).mn),k,dc,aX,e,by unfold Zk;rw [aX,gv];rfl,rfl⟩
   case hdone=>
    rintro D k W hD ej ⟨a,bx,e⟩ dW;have f8:=Boxed.frozen (show Boxed W b8 3 (.I 0) from k8'.ext a (by simp;omega));have f9:=Boxed.frozen (show Boxed W b9 55 (.I 0) from k9'.ext a (by simp;omega));have c8:=Boxed.cell (show Boxed W b8 3 (.I 0) from k8'.ext a (by simp;omega));have c9:=Boxed.cell (show Boxed W b9 55 (.I 0) from k9'.ext a (by simp;omega))
    gi_wp2
    obtain ⟨y8,y9⟩:=ZaB c8 c9 n89 (.I 0) (.I 31);have rF:D<W.heap.size:=(Xi.1 dW).1;have j5:=((Z3t b8 b9 (.I 0) (.I 31) W).block D rF (by simp;omega)).trans dW;have iq:ZR (Zk c kn) st d=(0,31):=by
     unfold ZR;rw [hd,if_pos rfl];exact Z3s _ _ _ _ k e (ej.imp (λh=>by omega) id)
    refine ⟨by simp,.inl ⟨_,_,rfl,run_takeDeferred j5,_,Z9y rfl rfl ((World.cell?_of_block (World.putObj_heap_other (by show b8≠D;omega))).trans y8) ((World.cell?_of_block (World.putObj_heap_other (by show b9≠D;omega))).trans y9),?_,?_⟩⟩;rw [iq];have t1:=((ae.trans bW).ow a).own (Z3t b8 b9 (.I 0) (.I 31) W) (λx hx=>.inr (by simp at hx;omega));refine ⟨t1.os,t1.tape,t1.output,by simpa using t1.size,λq hq hn=>(World.putObj_heap_other (by omega)).trans (t1.block q hq hn)⟩
   case hstop=>
    rintro D W hD ⟨a,k,p1,p2,p3,p4,p5,p6⟩ dW
    gi_wp2
    obtain ⟨x0,x1⟩:=Zw.1 p2;have iq:ZR (Zk c kn) st d=(d+st * k,0):=by
     unfold ZR;rw [hd,if_pos rfl];refine Z5d _ _ _ _ k (by omega) (λj hj=>Zw.2 ?_) p3 p4;rcases ax with rfl|rfl<;>omega
    refine ⟨by simp,.inl ⟨_,_,rfl,run_takeDeferred dW,_,Z9y rfl rfl ((World.cell?_of_block (World.putObj_heap_other (by show b8≠D;omega))).trans p5) ((World.cell?_of_block (World.putObj_heap_other (by show b9≠D;omega))).trans p6),?_,?_⟩⟩;rw [iq];have t1:=(ae.trans bW).ow a;exact ⟨t1.os,t1.tape,t1.output,by simpa using t1.size,λq hq hn=>(World.putObj_heap_other (by omega)).trans (t1.block q hq hn)⟩
theorem Z1E (d kn st:Int) (c:Cal) (hv cv zo zs hr:Value) (w) (h:Z3r w c hv cv zo zs hr) (ax:st=1\/st=-1) :
 CC 75 #[Z5c c hv cv zo zs hr,.I d,.I kn,.I st] w λr w'=>r=.tuple #[.I (ZR (Zk c kn) st d).1,.I (ZR (Zk c kn) st d).2]/\Stp [] w w':=by
 refine Calls.mono (callsIn_wide.1 (Zes d kn st ax c hv cv zo zs hr w h)) ?_;rintro e W' ⟨rfl,hS⟩;exact .mk ⟨rfl,hS⟩
theorem Z3X (d kn:Int) (c:Cal) (hv cv zo zs hr:Value) (w) (h:Z3r w c hv cv zo zs hr) :
 CC 37 #[Z5c c hv cv zo zs hr,.I d,.I kn] w λr w'=>r=.tuple #[.I (ZR (Zk c kn) (1) d).1,.I (ZR (Zk c kn) (1) d).2]/\Stp [] w w':=by
 refine cW3 14 Tryz.func37 ?_;refine W ?_;refine Z0 (Zl rfl) rfl ?_;rintro _ w1 ⟨b3,rfl,kI,ab,hS⟩;replace ab:Blk w1 b3 48 (Jq c hv cv zo zs hr):=ab;replace h:=h.up hS;refine W ?_;refine CM (Z30 rfl rfl rfl rfl) (Z1E d kn (1) c hv cv zo zs hr _ h (by omega)) ?_;rintro _ w2 ⟨rfl,ai⟩;refine RT ?_;exact ⟨rfl,hS.trans ai⟩
theorem Z5E (d kn:Int) (c:Cal) (hv cv zo zs hr:Value) (w) (h:Z3r w c hv cv zo zs hr) :
 CC 194 #[Z5c c hv cv zo zs hr,.I d,.I kn] w λr w'=>r=.tuple #[.I (ZR (Zk c kn) (-1) d).1,.I (ZR (Zk c kn) (-1) d).2]/\Stp [] w w':=by
 refine cW3 14 Tryz.func194 ?_;refine W ?_;refine Z0 (Zl rfl) rfl ?_;rintro _ w1 ⟨b3,rfl,kI,ab,hS⟩;replace ab:Blk w1 b3 48 (Jq c hv cv zo zs hr):=ab;replace h:=h.up hS;refine W ?_;refine CM (Z30 rfl rfl rfl rfl) (Z1E d kn (-1) c hv cv zo zs hr _ h (by omega)) ?_;rintro _ w2 ⟨rfl,ai⟩;refine RT ?_;exact ⟨rfl,hS.trans ai⟩
theorem ZhE (d n kn:Int) (c:Cal) (hv cv zo zs hr:Value) (w) (h:Z3r w c hv cv zo zs hr) :
 CC 193 #[Z5c c hv cv zo zs hr,.I d,.I n,.I kn] w λr w'=>r=.tuple #[.I (Z3P (Zk c kn) d n).1,.I (Z3P (Zk c kn) d n).2]/\Stp [] w w':=by
 refine cW4 46 Tryz.func193 ?_;refine W ?_;refine Z0 (Zl rfl) rfl ?_;rintro _ w1 ⟨b4,rfl,ju,ab,hS⟩;replace ab:Blk w1 b4 48 (Jq c hv cv zo zs hr):=ab;replace h:=h.up hS;refine W ?_;refine CL (Z2a d _) ?_;rintro _ w1 ⟨rfl,rfl⟩;unfold Z3P;cases hd:Zu d with
 | false=>
   rw [if_neg (by simp)];refine RT ?_;exact ⟨rfl,hS⟩
 | true=>
   rw [if_pos rfl];by_cases hn:n < -1000\/1000<n
   . rw [if_pos hn]
     repeat'(first|refine W1 ?_|omega|refine VG ?_ ?_<;>intro hg|refine VC ?_ ?_<;>intro hc)
     all_goals refine WR ?_
     all_goals exact .mk ⟨rfl,hS⟩
   rw [if_neg hn];by_cases rG:n<0;have rH:(n.natAbs:Int)=(-n):=by omega
   have mM:(if n<0 then (-1:Int) else 1)=-1:=by split<;>omega
   rw [mM];refine QO ?_
   refine Zr (σ:=Nat×Int) (λq=>[(1,.I q.2),(3,.I kn),(4,pQ b4),(10,.I (-1)),(28,.I (-n)),(29,.I (q.1:Int))])
    (λq w'=>q.1<=n.natAbs/\Zu q.2=true/\Z3O (Zk c kn) (-1) (n.natAbs - q.1) q.2=Z3O (Zk c kn) (-1) n.natAbs d/\Stp [] w1 w') (λq=>n.natAbs - q.1) (0,d) ⟨rfl,rfl,rfl,rfl,rfl,rfl,trivial⟩ ⟨Xu _,hd,rfl,Stp.refl _ _⟩ ?_
   rintro ⟨k,q⟩ w2 ⟨hk,hq,dx,ai⟩;dsimp only at hk hq dx ⊢;have au:=ab.up ai;have h2:=h.up ai;have rI:=Zw.1 hq;by_cases ah:k<n.natAbs;have e1:n.natAbs - k=(n.natAbs - (k+1))+1:=by omega
   rw [e1,Z3O] at dx;refine QO ?_;refine CM (Z30 rfl rfl rfl rfl) (Z1E (q+(-1)) kn (-1) c hv cv zo zs hr _ h2 (by omega)) ?_;rintro _ w3 ⟨rfl,aw⟩;by_cases he:(ZR (Zk c kn) (-1) (q+(-1))).2=0;rw [if_pos he] at dx;rw [he];refine W ?_;exact J3 (k+1,(ZR (Zk c kn) (-1) (q+(-1))).1) ⟨rfl,rfl,rfl,rfl,rfl,rfl,trivial⟩ ⟨by dsimp only;omega,(Z3i he).1,dx,ai.trans aw⟩ (by dsimp only;omega);rw [if_neg he] at dx;refine QO ?_;refine WR ?_;rw [<- dx];exact .mk ⟨rfl,(hS.trans ai).trans aw⟩;have e1:n.natAbs - k=0:=by omega
   rw [e1,Z3O] at dx;refine QO ?_;refine WR ?_;rw [<- dx];exact .mk ⟨rfl,hS.trans ai⟩;have rH:(n.natAbs:Int)=n:=by omega
   have mM:(if n<0 then (-1:Int) else 1)=1:=by split<;>omega
   rw [mM];refine QO ?_
   refine Zr (σ:=Nat×Int) (λq=>[(1,.I q.2),(3,.I kn),(4,pQ b4),(10,.I (1)),(28,.I n),(29,.I (q.1:Int))])
    (λq w'=>q.1<=n.natAbs/\Zu q.2=true/\Z3O (Zk c kn) (1) (n.natAbs - q.1) q.2=Z3O (Zk c kn) (1) n.natAbs d/\Stp [] w1 w') (λq=>n.natAbs - q.1) (0,d) ⟨rfl,rfl,rfl,rfl,rfl,rfl,trivial⟩ ⟨Xu _,hd,rfl,Stp.refl _ _⟩ ?_
   rintro ⟨k,q⟩ w2 ⟨hk,hq,dx,ai⟩;dsimp only at hk hq dx ⊢;have au:=ab.up ai;have h2:=h.up ai;have rI:=Zw.1 hq;by_cases ah:k<n.natAbs;have e1:n.natAbs - k=(n.natAbs - (k+1))+1:=by omega
   rw [e1,Z3O] at dx;refine QO ?_;refine CM (Z30 rfl rfl rfl rfl) (Z1E (q+(1)) kn (1) c hv cv zo zs hr _ h2 (by omega)) ?_;rintro _ w3 ⟨rfl,aw⟩;by_cases he:(ZR (Zk c kn) (1) (q+(1))).2=0;rw [if_pos he] at dx;rw [he];refine W ?_;exact J3 (k+1,(ZR (Zk c kn) (1) (q+(1))).1) ⟨rfl,rfl,rfl,rfl,rfl,rfl,trivial⟩ ⟨by dsimp only;omega,(Z3i he).1,dx,ai.trans aw⟩ (by dsimp only;omega);rw [if_neg he] at dx;refine QO ?_;refine WR ?_;rw [<- dx];exact .mk ⟨rfl,(hS.trans ai).trans aw⟩;have e1:n.natAbs - k=0:=by omega
   rw [e1,Z3O] at dx;refine QO ?_;refine WR ?_;rw [<- dx];exact .mk ⟨rfl,hS.trans ai⟩
theorem Z5F (d n:Int) (w) (hL:Z05 w) (h0:0<=d) (h1:d<=3652058) :
 CC 192 #[.I d,.I n] w λr w'=>r=.tuple #[.I (Z7X d n).1,.I (Z7X d n).2]/\Stp [] w w':=by
 obtain ⟨y1,y2,m1,m2,d1,d2,ei⟩:=Z6G h0 h1;have aX:Zu d=true:=Zw.2 ⟨h0,h1⟩;have g1:1<w.heap.size:=by have:=block_lt_of_cell (hL 0 0 rfl);simpa using this
 unfold Z7X;refine cW2 56 Tryz.func192 ?_;by_cases hn:n < -200000\/200000<n
 . rw [if_pos hn]
   repeat'(first|refine W1 ?_|omega|refine VG ?_ ?_<;>intro hg|refine VC ?_ ?_<;>intro hc)
   all_goals refine WR ?_
   all_goals exact .mk ⟨rfl,Stp.refl _ _⟩
 rw [if_neg hn,if_pos aX];refine QO ?_;refine CL (Z76 d _ h0 h1) ?_;rintro _ w1 ⟨rfl,hS⟩;replace hL:=hL.up hS;refine W ?_;refine Z0 Z4 rfl ?_;rintro _ w2 ⟨b6,rfl,eo,e6,ai⟩;refine W ?_;refine SB (us:=[.I (ofM d).y,.I (ofM d).m,.I (ofM d).d]) (by intro u hu;simp at hu;rcases hu with rfl|rfl|rfl<;>rfl) e6 ?_;rintro _ w3 ⟨hT,k6⟩;have rJ:w.heap.size<=b6:=by have:=hS.size;omega
 replace hS:=hS.trans (ai.ow hT);replace hL:=hL.up (ai.ow hT);clear e6 hT ai;generalize hM:12 * (ofM d).y+(ofM d).m - 1+n=M;by_cases hr:M<12\/120000<=M
 . rw [if_pos hr]
   refine W ?_;rw [hM];repeat'(first|refine W1 ?_|omega|refine VG ?_ ?_<;>intro hg|refine VC ?_ ?_<;>intro hc)
   all_goals refine WR ?_
   all_goals exact .mk ⟨rfl,hS⟩
 rw [if_neg hr];have fb:=Z2O (M / 12) (M % 12+1);have cn:=Z0X (y:=M / 12) (k:=(M % 12).toNat) (by omega);rw [show (((M % 12).toNat:Int))=M % 12 by omega] at cn;refine W ?_;rw [hM];refine QO ?_;refine S1 (u:=.I (M / 12)) k6 ?_;rintro _ w4 ⟨ay,k6⟩;refine W ?_;refine S1 (u:=.I (M % 12+1)) k6 ?_;rintro _ w5 ⟨aB,k6⟩;replace hL:=(hL.ext ay (by simp;omega)).ext aB (by simp;omega);replace hS:=(hS.ow ay).ow aB;clear ay aB;refine W ?_;refine ZDr 10 [] [9] [(0,0),(1,1),(2,0),(3,1),(4,0),(5,1),(6,2),(7,0),(8,0),(9,2)] (λw1 ae=>?_);replace hL:=hL.up ae;replace k6:=k6.up ae;replace hS:=hS.trans ae;clear ae;refine D ?_;refine Zp rfl trivial (Zd rfl (ZK rfl rfl) (Z1x (M / 12) (M % 12+1) _ hL (by omega) (by omega))) (λ_ _ h=>by rw [h.2];exact Stp.refl _ _) rfl ?_;rintro _ _ ⟨rfl,rfl⟩;refine D ?_;refine Jg rfl trivial (Zj (u:=.I (min (ofM d).d (Zv (M / 12) (M % 12+1)))) rfl rfl rfl rfl k6 (by simp)) rfl ?_;rintro _ w6 ⟨bR,k6⟩;replace hS:=hS.ow bR;refine D ?_;refine W ?_;refine CM (ZO rfl) (Z2Q (M / 12) (M % 12+1) (min (ofM d).d (Zv (M / 12) (M % 12+1))) _ (by omega) (by omega) (by omega) (by omega) (by omega) (by omega) (by omega)) ?_;rintro _ w7 ⟨rfl,aR⟩;refine RT ?_;exact ⟨rfl,hS.trans aR⟩
theorem ZhF (a b:Int) (w):(Instr.build 123 #[(0,.I a),(1,.I b)]).run Tryz.prog w=.ok (agg ((a,b):Spn)) w:=by kernel_rfl
theorem Zet (d:Spn) (w):(Instr.buildSlice 40 1 #[(0,agg d)]).run Tryz.prog w=.ok (.slice (some ⟨w.heap.size,0,none⟩) 1 1) (w.alloc (.cells (Z2.enc d).toArray 123)):=by kernel_rfl
section
variable {K:MK} {w w':World} {sv pv:Value} {st:List Int} {sp:List Spn} {at_ er:Int} {dn:Bool}
theorem Mch.cal (hK:KOk K) (h:Mch K w sv pv st sp at_ er dn):Z3r w K.c K.hv K.cv K.zo K.zs K.hr:=
 ⟨(h.hols hK).ext (Stp.refl [] w) (by simp) (by simp),(h.clos hK).ext (Stp.refl [] w) (by simp) (by simp),h.len hK,h.mov hK,hK.cal⟩
theorem Mch.spans (hK:KOk K) (h:Mch K w sv pv st sp at_ er dn) {bs:Nat} (hk:K.nk=some bs) {pv':Value} {sp':List Spn} {w2:World} (hS:Stp (ob pv) w w') (hr:Row [] w' K.w0.heap.size 123 pv' sp') (ho:∀ b∈ob pv',b∈ob pv\/w.heap.size<=b)
 (ai:Stp [bs] w' w2) (hb:Blk w2 bs 40 [pv']):Mch K w2 sv pv' st sp' at_ er dn:=by
 have me:=hK.bml;have hn:=hK.nkl bs hk;obtain ⟨h1,h2⟩:=h.nt bs hk;have fu:=λb hb=>(hr.ob_le b hb).1;have dQ:=λb hb=>(h2.ob_le b hb).1;have mN:=λb hb=>(h.row.ob_le b hb).1;have mO:=λb hb=>(h.row.ob_le b hb).2;refine ⟨(h.blk.ext hS (λhx=>by have:=dQ _ hx;omega)).ext ai (by have:=hn.2;simp;exact λe=>this e.symm),(h.row.keep hS (λb hb hp=>h.ap b hp hb)).keep ai (λb hb hx=>by have:=mN _ hx;simp at hb;omega),λbs' cr=>?_,(λh0=>by rw [hk] at h0;cases h0),λb hb hp=>?_,?_,λp hp=>?_⟩;have cr:bs'=bs:=by rw [hk] at cr;exact (XU cr).symm
 subst cr;exact ⟨hb,hr.keep ai (λb hb hx=>by have:=fu _ hx;simp at hb;omega)⟩;rcases ho b hp with h3|h3
 exact h.ap b hb h3;have:=mO b hb;omega;exact (h.stp.own (S':=ob pv) hS (λb hb=>.inr (dQ b hb))).trans (ai.mono (by simp [MK.own,hk]));obtain ⟨a,b,c,d⟩:=h.prot p hp;have ah:=(Xi.1 a).1;have a2:=(hS.block p.1 ah d).trans a;have a3:=(ai.block p.1 (Xi.1 a2).1 (λe=>b (by simp at e;rw [e];simp [MK.own,hk]))).trans a2;exact ⟨a3,b,c,λh3=>(ho _ h3).elim d (λh4=>by omega)⟩
theorem ZbA (hK:KOk K) (h:Mch K w sv pv st sp at_ er dn) {bs:Nat} (hk:K.nk=some bs) (a b:Int) (hl:sp.length<=100000) :
 CC 71 #[.I a,.I b,pQ bs] w λr w'=>r=.tuple #[]/\∃ pv',Mch K w' sv pv' st (sp++[(a,b)]) at_ er dn:=by
 obtain ⟨ab,ac⟩:=h.nt bs hk;have hn:=hK.nkl bs hk;have dQ:=λb hb=>(ac.ob_le b hb).1;refine cW3 11 Tryz.func71 ?_;refine W ?_;refine Z9 (vs:=[(0,.I a),(1,.I b)]) rfl (ZhF _ _) rfl ?_;refine Z0 (Z3 (vs:=[(0,agg ((a,b):Spn))]) rfl (Zet _)) rfl ?_;rintro bv w1 hN;have ae:=Zh.stp hN;have dR:SlV (ob pv++[]) w1 bv [((a,b):Spn)]:=hN.slv (λb hb=>by simp at hb;exact (ac.ob_le b hb).2) rfl rfl (by simp [maxLen]);replace h:=h.up ae;replace ac:=ac.up ae;replace ab:=ab.up ae;refine Z0 (ZJ rfl (by decide) rfl rfl ac dR (by simp;omega) (by simp [maxLen];omega) (h.stp.size)) rfl ?_;rintro pv' w2 ⟨cM,ai,ho⟩;have au:=ab.ext ai (λhx=>by have:=dQ _ hx;omega);refine W ?_;have h1:=cM.slv (X:=[]) (by simp);refine Z5 (Zj (u:=pv') rfl rfl h1.cells h1.one au (by simp)) ?_;rintro _ w3 ⟨aw,aL⟩;refine RT ?_;exact ⟨rfl,pv',h.spans hK hk ai cM ho aw aL⟩
theorem Z4E {P:Nat} {e:Env} {d:Option Nat} {ty:TypeId} {pos:String} {af:Array Edge} {g:Option (Nat×Bool)} {x y z:Operand} {ts:Array TypeId} (hK:KOk K) (h:Mch K w sv pv st sp at_ er dn) {a b:Int} (hl:sp.length<=100000)
 (hx:ev e x=some (Ziz K.nk)) (hy:ev e y=some (.I a)) (hz:ev e z=some (.I b)) :
 OE Tryz.prog P ⟨d,.call { callee:=.value x,args:=#[y,z],argTypes:=ts },ty,pos,af,g⟩ e w (λv w'=>v=.tuple #[]/\∃ pv',Mch K w' sv pv' st (sp++[(a,b)]) at_ er dn):=by
 cases hk:K.nk with
 | none=>
   exact absurd hk hK.nks
 | some bs=>
   rw [hk] at hx;exact ZC (f:=71) hx (ZK hy hz) rfl (ZbA hK h hk a b hl)
theorem Res.err {r:Int×Int} {st':List Int} {sp':List Spn} (h:Res K w st sp at_ r) (he:¬ r.2=0):Res K w st' sp' at_ r:=by
 obtain ⟨a,b,c,d,h1,h2⟩:=h;exact ⟨a,b,c,d,h1,λh0=>absurd h0 he⟩
theorem ZhG (hK:KOk K) {a b:Int} (h:Mch K w sv pv (st++[a,b]) sp at_ 0 false) (hl:st.length<=100000) (n:Int) (hr:Zu a=true) :
 CC 124 #[mP K,.I n] w λr w'=>r=.tuple #[]/\Res K w' st sp at_ (Z7X a b):=by
 obtain ⟨d0,d1⟩:=Zw.1 hr;refine cW2 18 Tryz.func124 ?_;refine W ?_;refine CL (Jl hK h) ?_;rintro _ w1 ⟨rfl,sv1,h1⟩;refine W ?_;refine CL (Z5F a b _ (h1.len hK) d0 d1) ?_;rintro _ w2 ⟨rfl,hS⟩;replace h1:=h1.up hS;refine W ?_;refine CL (Jy hK h1 hl _ _) ?_;rintro _ w3 ⟨rfl,h2⟩;refine RT ?_;exact ⟨rfl,h2⟩
theorem Zph (hK:KOk K) {b:Int} (h:Mch K w sv pv (st++[b]) sp at_ 0 false) (hl:st.length<=100000) (eG:sp.length<=100000) (n:Int) :
 CC 126 #[mP K,.I n] w λr w'=>r=.tuple #[]/\Res K w' st (sp++[(b,(ZR (Zk K.c K.kn) 1 b).1)]) at_ (ZR (Zk K.c K.kn) (1) b):=by
 refine cW2 35 Tryz.func126 ?_;refine W ?_;refine CL (Z1B hK h) ?_;rintro _ w1 ⟨rfl,sv1,h1⟩;refine W ?_;refine ZDr 15 [] [] [(0,0),(1,0),(2,0),(3,1),(4,0),(5,0),(6,0),(7,0),(8,1),(9,2),(10,0),(11,0),(12,0),(13,0),(14,0)] (λw1 ae=>?_);replace h1:=h1.up ae;have ab:=h1.blk;unfold Z3j at ab;refine D ?_;refine WD_read rfl trivial (λw' bp=>Zy (us:=Jq K.c K.hv K.cv K.zo K.zs K.hr) rfl rfl (ab.up bp) rfl rfl) rfl ?_;refine D ?_;refine DC (Z3X b K.kn K.c K.hv K.cv K.zo K.zs K.hr _ (h1.cal hK)) (λ_ _ h=>h.2) ?_;rintro _ w2 ⟨rfl,ai⟩;replace h1:=h1.up ai;replace ab:=ab.up ai;refine D ?_;by_cases he:(ZR (Zk K.c K.kn) (1) b).2=0;refine QO ?_;refine Z0 (Z4E hK h1 eG rfl rfl rfl) rfl ?_;rintro _ w3 ⟨rfl,pv1,h2⟩;refine W ?_;refine CL (Jy hK h2 hl _ _) ?_;rintro _ w4 ⟨rfl,h3⟩;refine RT ?_;exact ⟨rfl,h3⟩;refine QO ?_;refine CL (Jy hK h1 hl _ _) ?_;rintro _ w4 ⟨rfl,h3⟩;refine RT ?_;exact ⟨rfl,h3.err he⟩
theorem Zpi (hK:KOk K) {b:Int} (h:Mch K w sv pv (st++[b]) sp at_ 0 false) (hl:st.length<=100000) (eG:sp.length<=100000) (n:Int) :
 CC 127 #[mP K,.I n] w λr w'=>r=.tuple #[]/\Res K w' st (sp++[((ZR (Zk K.c K.kn) (-1) b).1,b)]) at_ (ZR (Zk K.c K.kn) (-1) b):=by
 refine cW2 35 Tryz.func127 ?_;refine W ?_;refine CL (Z1B hK h) ?_;rintro _ w1 ⟨rfl,sv1,h1⟩;refine W ?_;refine ZDr 15 [] [] [(0,0),(1,0),(2,0),(3,1),(4,0),(5,0),(6,0),(7,0),(8,1),(9,2),(10,0),(11,0),(12,0),(13,0),(14,0)] (λw1 ae=>?_);replace h1:=h1.up ae;have ab:=h1.blk;unfold Z3j at ab;refine D ?_;refine WD_read rfl trivial (λw' bp=>Zy (us:=Jq K.c K.hv K.cv K.zo K.zs K.hr) rfl rfl (ab.up bp) rfl rfl) rfl ?_;refine D ?_;refine DC (Z5E b K.kn K.c K.hv K.cv K.zo K.zs K.hr _ (h1.cal hK)) (λ_ _ h=>h.2) ?_;rintro _ w2 ⟨rfl,ai⟩;replace h1:=h1.up ai;replace ab:=ab.up ai;refine D ?_;by_cases he:(ZR (Zk K.c K.kn) (-1) b).2=0;refine QO ?_;refine Z0 (Z4E hK h1 eG rfl rfl rfl) rfl ?_;rintro _ w3 ⟨rfl,pv1,h2⟩;refine W ?_;refine CL (Jy hK h2 hl _ _) ?_;rintro _ w4 ⟨rfl,h3⟩;refine RT ?_;exact ⟨rfl,h3⟩;refine QO ?_;refine CL (Jy hK h1 hl _ _) ?_;rintro _ w4 ⟨rfl,h3⟩;refine RT ?_;exact ⟨rfl,h3.err he⟩
theorem ZlZ (hK:KOk K) {a b:Int} (h:Mch K w sv pv (st++[a,b]) sp at_ 0 false) (hl:st.length<=100000) (eG:sp.length<=100000) (n:Int) (hr:Zu a=true) :
 CC 125 #[mP K,.I n] w λr w'=>r=.tuple #[]/\Res K w' st (sp++Jc 18 a b (Z3P (Zk K.c K.kn) a b).1) at_ (Z3P (Zk K.c K.kn) a b):=by
 obtain ⟨d0,d1⟩:=Zw.1 hr;refine cW2 57 Tryz.func125 ?_;refine W ?_;refine CL (Jl hK h) ?_;rintro _ w1 ⟨rfl,sv1,h1⟩;refine W ?_;refine ZDr 16 [] [] [(0,0),(1,0),(2,0),(3,1),(4,0),(5,0),(6,0),(7,0),(8,0),(9,1),(10,2),(11,0),(12,0),(13,0),(14,0),(15,0)] (λw1 ae=>?_);replace h1:=h1.up ae;have ab:=h1.blk;unfold Z3j at ab;refine D ?_;refine WD_read rfl trivial (λw' bp=>Zy (us:=Jq K.c K.hv K.cv K.zo K.zs K.hr) rfl rfl (ab.up bp) rfl rfl) rfl ?_;refine D ?_;refine DC (ZhE a b K.kn K.c K.hv K.cv K.zo K.zs K.hr _ (h1.cal hK)) (λ_ _ h=>h.2) ?_;rintro _ w2 ⟨rfl,ai⟩;replace h1:=h1.up ai;replace ab:=ab.up ai;refine D ?_;have db:Jc 18 a b (Z3P (Zk K.c K.kn) a b).1=if 0<b then [(a+1,(Z3P (Zk K.c K.kn) a b).1)] else if b<0 then [((Z3P (Zk K.c K.kn) a b).1,a - 1)] else []:=rfl
 rw [db];by_cases he:(Z3P (Zk K.c K.kn) a b).2=0;by_cases dK:b=0;rw [if_neg (by omega),if_neg (by omega),XJ];refine QO ?_;refine CL (Jy hK h1 hl _ _) ?_;rintro _ w4 ⟨rfl,h3⟩;refine RT ?_;exact ⟨rfl,h3⟩;by_cases fA:0<b;rw [if_pos fA];refine QO ?_;refine Z0 (Z4E hK h1 eG rfl rfl rfl) rfl ?_;rintro _ w3 ⟨rfl,pv1,h2⟩;refine W ?_;refine CL (Jy hK h2 hl _ _) ?_;rintro _ w4 ⟨rfl,h3⟩;refine RT ?_;exact ⟨rfl,h3⟩;rw [if_neg fA,if_pos (by omega)];refine QO ?_;refine Z0 (Z4E hK h1 eG rfl rfl rfl) rfl ?_;rintro _ w3 ⟨rfl,pv1,h2⟩;refine W ?_;refine CL (Jy hK h2 hl _ _) ?_;rintro _ w4 ⟨rfl,h3⟩;refine RT ?_;exact ⟨rfl,h3⟩;refine QO ?_;refine CL (Jy hK h1 hl _ _) ?_;rintro _ w4 ⟨rfl,h3⟩;refine RT ?_;exact ⟨rfl,h3.err he⟩
end
structure Z8j (code:List Ins) (st:List (Option Shp)) (i:Nat) (s nx:Shp):Prop where
 at_:st.getD i none=some s
 next:Z0i (code.getD i ⟨0,0⟩) s=some nx
 stop:(code.getD i ⟨0,0⟩).op=24->i+1=st.length/\s.length=1
 jump:(code.getD i ⟨0,0⟩).op=13\/(code.getD i ⟨0,0⟩).op=14->(i:Int)<(code.getD i ⟨0,0⟩).n/\(code.getD i ⟨0,0⟩).n<st.length/\st.getD (code.getD i ⟨0,0⟩).n.toNat none=some nx
 on:(code.getD i ⟨0,0⟩).op≠24->(code.getD i ⟨0,0⟩).op≠13->i+1<st.length/\st.getD (i+1) none=some nx
theorem Z12 {st st':List (Option Shp)} {t:Int} {nx:Shp} (h:J2 st t nx=some st'):(∀ i s,st.getD i none=some s->st'.getD i none=some s)/\0<=t/\t<st.length/\st'.getD t.toNat none=some nx:=by
 unfold J2 at h;split at h;rename_i hr;split at h;rename_i s0 cd;split at h;rename_i he;subst he;cases h;exact ⟨λi s h=>h,hr.1,hr.2,cd⟩;cases h;rename_i hn;cases h;refine ⟨λi s h=>?_,hr.1,hr.2,?_⟩;by_cases hi:t.toNat=i;subst hi;rw [hn] at h;cases h;have:(st.set t.toNat (some nx)).getD i none=st.getD i none:=by
  simp [List.getD,hi]
 rw [this];exact h;have:t.toNat<st.length:=by omega
 simp [List.getD,this];cases h
theorem Z8j.keeps {code:List Ins} {st st':List (Option Shp)} {i:Nat} {s nx:Shp} (h:Z8j code st i s nx) (hk:∀ i s,st.getD i none=some s->st'.getD i none=some s) (hl:st'.length=st.length):Z8j code st' i s nx:=
 ⟨hk _ _ h.at_,h.next,λh1=>by rw [hl];exact h.stop h1,λh1=>by rw [hl];exact ⟨(h.jump h1).1,(h.jump h1).2.1,hk _ _ (h.jump h1).2.2⟩,λh1 h2=>by rw [hl];exact ⟨(h.on h1 h2).1,hk _ _ (h.on h1 h2).2⟩⟩
theorem ZbB {code:List Ins} {st st':List (Option Shp)} {i:Nat} (h:JJ st i (code.getD i ⟨0,0⟩)=some st'):(∀ i s,st.getD i none=some s->st'.getD i none=some s)/\st'.length=st.length/\∃ s nx,Z8j code st' i s nx:=by
 unfold JJ at h;cases hs:st.getD i none with
 | none=>rw [hs] at h;cases h
 | some s=>
   rw [hs] at h;dsimp only at h;cases hn:Z0i (code.getD i ⟨0,0⟩) s with
   | none=>rw [hn] at h;cases h
   | some nx=>
     rw [hn] at h;dsimp only at h;by_cases bI:(code.getD i ⟨0,0⟩).op=24;rw [if_pos bI] at h;split at h;rename_i hc;cases h;exact ⟨λ_ _ h=>h,rfl,s,nx,hs,hn,λ_=>hc,λh=>by omega,λh=>absurd bI h⟩;cases h;rw [if_neg bI] at h;by_cases bH:(code.getD i ⟨0,0⟩).op=13;rw [if_pos bH] at h;split at h;rename_i hc;obtain ⟨k1,k2,k3,k4⟩:=Z12 h;have hl:=ZX h;exact ⟨k1,hl,s,nx,k1 _ _ hs,hn,λh=>absurd h bI,λ_=>⟨hc,by omega,k4⟩,λ_ h=>absurd bH h⟩;cases h;rw [if_neg bH] at h;by_cases ce:(code.getD i ⟨0,0⟩).op=14;rw [if_pos ce] at h;split at h;rename_i hc;obtain ⟨s1,r1,r2⟩:=XY.1 h;obtain ⟨k1,k2,k3,k4⟩:=Z12 r1;obtain ⟨m1,m2,m3,m4⟩:=Z12 r2;have hl:=ZX r1;have cZ:=ZX r2;exact ⟨λi s h=>m1 _ _ (k1 _ _ h),by omega,s,nx,m1 _ _ (k1 _ _ hs),hn,λh=>absurd h bI,λ_=>⟨hc,by omega,m1 _ _ k4⟩,λ_ _=>⟨by omega,m4⟩⟩;cases h;rw [if_neg ce] at h;obtain ⟨k1,k2,k3,k4⟩:=Z12 h;have hl:=ZX h;exact ⟨k1,hl,s,nx,k1 _ _ hs,hn,λh=>absurd h bI,λh=>absurd h (not_or.2 ⟨bH,ce⟩),λ_ _=>⟨by omega,k4⟩⟩
theorem Z8k {code:List Ins} {st0:List (Option Shp)}:∀ (k:Nat) (st:List (Option Shp)),Z2S code k st0=some st->(∀ i s,st0.getD i none=some s->st.getD i none=some s)/\st.length=st0.length/\∀ i,i<k->∃ s nx,Z8j code st i s nx
 | 0,st,h=>by cases h;exact ⟨λ_ _ h=>h,rfl,λi hi=>by omega⟩
 | k + 1, st, h => by
   obtain ⟨s1,h1,h2⟩:=XY.1 h;obtain ⟨a1,a2,a3⟩:=Z8k k s1 h1;obtain ⟨b1,b2,b3⟩:=ZbB h2;refine ⟨λi s h=>b1 _ _ (a1 _ _ h),by omega,λi hi=>?_⟩;by_cases hk:i=k;subst hk;exact b3;obtain ⟨s,nx,hg⟩:=a3 i (by omega);exact ⟨s,nx,hg.keeps b1 b2⟩
theorem Z5e {code:List Ins} {t:Int} (h:Z1Y code=(t,0)):0<code.length/\code.length<=200/\∃ st:List (Option Shp),st.length=code.length/\Z7T st/\(∀ s,some s∈st->s.length<=16)/\st.getD 0 none=some []/\st.getD (code.length - 1) none=some [t]/\∀ i,i<code.length->∃ s nx,Z8j code st i s nx:=by
 unfold Z1Y at h;by_cases hl:code.length=0\/code.length > 200;rw [if_pos hl] at h;cases h;rw [if_neg hl] at h;cases hr:Z2S code code.length (some [] :: List.replicate (code.length - 1) none) with
 | none=>rw [hr] at h;cases h
 | some st=>
   rw [hr] at h;dsimp only at h;obtain ⟨a1,a2,a3⟩:=Z8k _ _ hr;have h0:Z7T ((some []) :: List.replicate (code.length - 1) none):=by
    intro s hs;simp at hs;subst hs;intro k hk;cases hk
   have am:st.length=code.length:=by rw [a2];simp;omega
   have eI:∀ (k:Nat) (st:List (Option Shp)),Z2S code k (some [] :: List.replicate (code.length - 1) none)=some st->∀ s,some s∈st->s.length<=16:=by
    intro k
    induction k with
    | zero=>
      intro st h s hs;cases h;simp at hs;subst hs;simp
    | succ k ih=>
      intro st h;obtain ⟨s1,h1,h2⟩:=XY.1 h;exact ZdN (ih s1 h1) h2
   refine ⟨by omega,by omega,st,am,(ZdK h0 _ _ hr).1,eI _ _ hr,a1 0 [] rfl,?_,a3⟩;obtain ⟨s,nx,hg⟩:=a3 (code.length - 1) (by omega);have bq:=hg.at_;rw [bq] at h ⊢;by_cases bI:(code.getD (code.length - 1) ⟨0,0⟩).op=24;have:=(hg.stop bI).2;obtain ⟨k,rfl⟩:=Ybr.1 this;simp at h;rw [h];by_cases bH:(code.getD (code.length - 1) ⟨0,0⟩).op=13;have:=hg.jump (.inl bH);omega;have:=hg.on bI bH;omega
abbrev Zeu:List (Int×Value):=[(1,fnV 110),(2,fnV 110),(3,fnV 110),(4,fnV 111),
 (5,fnV 112),(6,fnV 113),(7,fnV 114),(8,fnV 115),
 (9,fnV 116),(10,fnV 117),(11,fnV 118),(12,fnV 119),
 (13,fnV 120),(14,fnV 121),(15,fnV 122),(16,fnV 123),
 (17,fnV 124),(18,fnV 125),(19,fnV 126),(20,fnV 127),
 (21,fnV 128),(22,fnV 129),(23,fnV 130),(24,fnV 131)]
abbrev Zpj (z:Int):Value:=.I z
theorem ZbC (w):CC 72 #[] w λr w'=>∃ m,r=.map (some m)/\w.heap.size<=m/\Ja Zpj w' m Zeu/\Stp [] w w':=by
 refine cW0 3 Tryz.func72 ?_;refine W ?_;refine Z0 (Z0K Zpj) rfl ?_;rintro _ w1 ⟨m,rfl,hm,aq,hS⟩;refine Z5 (Zf (a:=(1:Int)) rfl rfl rfl aq (by decide)) ?_;clear aq;rintro _ w2 ⟨aq,hT⟩;replace hS:=hS.ow hT;clear hT;refine Z5 (Zf (a:=(2:Int)) rfl rfl rfl aq (by decide)) ?_;clear aq;rintro _ w2 ⟨aq,hT⟩;replace hS:=hS.ow hT;clear hT;refine Z5 (Zf (a:=(3:Int)) rfl rfl rfl aq (by decide)) ?_;clear aq;rintro _ w2 ⟨aq,hT⟩;replace hS:=hS.ow hT;clear hT;refine Z5 (Zf (a:=(4:Int)) rfl rfl rfl aq (by decide)) ?_;clear aq;rintro _ w2 ⟨aq,hT⟩;replace hS:=hS.ow hT;clear hT;refine Z5 (Zf (a:=(5:Int)) rfl rfl rfl aq (by decide)) ?_;clear aq;rintro _ w2 ⟨aq,hT⟩;replace hS:=hS.ow hT;clear hT;refine Z5 (Zf (a:=(6:Int)) rfl rfl rfl aq (by decide)) ?_;clear aq;rintro _ w2 ⟨aq,hT⟩;replace hS:=hS.ow hT;clear hT;refine Z5 (Zf (a:=(7:Int)) rfl rfl rfl aq (by decide)) ?_;clear aq;rintro _ w2 ⟨aq,hT⟩;replace hS:=hS.ow hT;clear hT;refine Z5 (Zf (a:=(8:Int)) rfl rfl rfl aq (by decide)) ?_;clear aq;rintro _ w2 ⟨aq,hT⟩;replace hS:=hS.ow hT;clear hT;refine Z5 (Zf (a:=(9:Int)) rfl rfl rfl aq (by decide)) ?_;clear aq;rintro _ w2 ⟨aq,hT⟩;replace hS:=hS.ow hT;clear hT;refine Z5 (Zf (a:=(10:Int)) rfl rfl rfl aq (by decide)) ?_;clear aq;rintro _ w2 ⟨aq,hT⟩;replace hS:=hS.ow hT;clear hT;refine Z5 (Zf (a:=(11:Int)) rfl rfl rfl aq (by decide)) ?_;clear aq;rintro _ w2 ⟨aq,hT⟩;replace hS:=hS.ow hT;clear hT;refine Z5 (Zf (a:=(12:Int)) rfl rfl rfl aq (by decide)) ?_;clear aq;rintro _ w2 ⟨aq,hT⟩;replace hS:=hS.ow hT;clear hT;refine Z5 (Zf (a:=(13:Int)) rfl rfl rfl aq (by decide)) ?_;clear aq;rintro _ w2 ⟨aq,hT⟩;replace hS:=hS.ow hT;clear hT;refine Z5 (Zf (a:=(14:Int)) rfl rfl rfl aq (by decide)) ?_;clear aq;rintro _ w2 ⟨aq,hT⟩;replace hS:=hS.ow hT;clear hT;refine Z5 (Zf (a:=(15:Int)) rfl rfl rfl aq (by decide)) ?_;clear aq;rintro _ w2 ⟨aq,hT⟩;replace hS:=hS.ow hT;clear hT;refine Z5 (Zf (a:=(16:Int)) rfl rfl rfl aq (by decide)) ?_;clear aq;rintro _ w2 ⟨aq,hT⟩;replace hS:=hS.ow hT;clear hT;refine Z5 (Zf (a:=(17:Int)) rfl rfl rfl aq (by decide)) ?_;clear aq;rintro _ w2 ⟨aq,hT⟩;replace hS:=hS.ow hT;clear hT;refine Z5 (Zf (a:=(18:Int)) rfl rfl rfl aq (by decide)) ?_;clear aq;rintro _ w2 ⟨aq,hT⟩;replace hS:=hS.ow hT;clear hT;refine Z5 (Zf (a:=(19:Int)) rfl rfl rfl aq (by decide)) ?_;clear aq;rintro _ w2 ⟨aq,hT⟩;replace hS:=hS.ow hT;clear hT;refine Z5 (Zf (a:=(20:Int)) rfl rfl rfl aq (by decide)) ?_;clear aq;rintro _ w2 ⟨aq,hT⟩;replace hS:=hS.ow hT;clear hT;refine Z5 (Zf (a:=(21:Int)) rfl rfl rfl aq (by decide)) ?_;clear aq;rintro _ w2 ⟨aq,hT⟩;replace hS:=hS.ow hT;clear hT;refine Z5 (Zf (a:=(22:Int)) rfl rfl rfl aq (by decide)) ?_;clear aq;rintro _ w2 ⟨aq,hT⟩;replace hS:=hS.ow hT;clear hT;refine Z5 (Zf (a:=(23:Int)) rfl rfl rfl aq (by decide)) ?_;clear aq;rintro _ w2 ⟨aq,hT⟩;replace hS:=hS.ow hT;clear hT;refine Z5 (Zf (a:=(24:Int)) rfl rfl rfl aq (by decide)) ?_;clear aq;rintro _ w2 ⟨aq,hT⟩;replace hS:=hS.ow hT;clear hT;refine RT ?_;exact ⟨m,rfl,hm,aq,hS⟩
theorem Z9z {x:Ins} {s nx:Shp} {st:List Int} (hn:Z0i x s=some nx) (hs:Jv s st):(Zm x).2.2.2=true/\∃ st0 vs ts,st=st0++vs/\(ts=(Zm x).1\/(Zm x).2.1≠[]/\ts=(Zm x).2.1)/\Jv ts vs:=by
 unfold Z0i at hn;dsimp only at hn;split at hn;rename_i hc;obtain ⟨c1,c2,c3,c4⟩:=hc;exact ⟨c1,st.take (s.length - (Zm x).1.length),st.drop (s.length - (Zm x).1.length),_,(Xy _ _).symm,c3,hs.drop _⟩;cases hn
def Jt (K:MK) (w:World) (x:Ins) (st:List Int) (sp:List Spn) (sv pv:Value) (at_:Int):Prop:=
 if x.op=24 then Mch K w sv pv st sp at_ 0 true
 else if x.op=13 then Mch K w sv pv st sp x.n 0 false
 else if x.op=14 then ∃ sv',Mch K w sv' pv st.dropLast sp (if Jd st 0=0 then x.n else at_) 0 false
 else Res K w (st.take (st.length - arM x.op)) (sp++Jc x.op (Jd st 1) (Jd st 0) (Ji (Zk K.c K.kn) K.ev x (Jd st 1) (Jd st 0)).1) at_ (Ji (Zk K.c K.kn) K.ev x (Jd st 1) (Jd st 0))
theorem Z3u {t v:Int} (h:vOk t v):-2147483647<=v/\v<=2147483647:=by unfold vOk at h;omega
theorem Zqj {t u a b:Int} (ha:vOk t a) (hb:vOk u b):I64 (a * b):=by
 have h1:=Z3u ha;have h2:=Z3u hb;have h3:(a * b).natAbs<=2147483647 * 2147483647:=by rw [Int.natAbs_mul];exact Ya9 (by omega) (by omega)
 unfold I64;omega
section
variable {K:MK} {w w':World} {sv pv:Value} {st:List Int} {sp:List Spn} {at_ er:Int} {dn:Bool}
theorem ZhH {P:Nat} {e:Env} {d:Option Nat} {ty:TypeId} {pos:String} {af:Array Edge} {g:Option (Nat×Bool)} {y1 y2 y3:Operand} {ts:Array TypeId} (hK:KOk K) {x:Ins} {s nx:Shp}
 (h:Mch K w sv pv st sp at_ 0 false) (hn:Z0i x s=some nx) (hs:Jv s st) (hl:st.length<=100000) (eG:sp.length<=100000)
 (hx:ev e y1=some (Z1V Zeu x.op .nilFunc)) (hy:ev e y2=some (mP K)) (hz:ev e y3=some (.I x.n)) :
 OE Tryz.prog P ⟨d,.call { callee:=.value y1,args:=#[y2,y3],argTypes:=ts },ty,pos,af,g⟩ e w (λv w'=>v=.tuple #[]/\Jt K w' x st sp sv pv at_):=by
 obtain ⟨i6,st0,vs,ts',rfl,fI,cC⟩:=Z9z hn hs;have hr:=Z50 i6;obtain ⟨op,n⟩:=x;dsimp only at *;have cn:st0.length<=100000:=by rw [Xe] at hl;omega
 have mc:op=1\/op=2\/op=3\/op=4\/op=5\/op=6\/op=7\/op=8\/op=9\/op=10\/op=11\/op=12\/op=13\/op=14\/op=15\/op=16\/op=17\/op=18\/op=19\/op=20\/op=21\/op=22\/op=23\/op=24:=by omega
 rcases mc with rfl|rfl|rfl|rfl|rfl|rfl|rfl|rfl|rfl|rfl|rfl|rfl|rfl|rfl|rfl|rfl|rfl|rfl|rfl|rfl|rfl|rfl|rfl|rfl
 all_goals (simp [Zm] at i6 fI)
 all_goals (try subst fI)
 case inl|inr.inl|inr.inr.inl=>
  refine (Zd (f:=110) hx (ZK hy hz) (ZlU hK h hl n)).mono ?_;rintro v w' ⟨rfl,ar⟩;refine ⟨rfl,?_⟩;unfold Jt;have et:List.take (st0.length+vs.length) (st0++vs)=st0++vs:=XH (by simp);simpa [arM,Jc,Ji,et] using ar
 case inr.inr.inr.inl=>
  refine (Zd (f:=111) hx (ZK hy hz) (fieldV hK h hl n (by omega) (by omega))).mono ?_;rintro v w' ⟨rfl,ar⟩;refine ⟨rfl,?_⟩;unfold Jt;have et:List.take (st0.length+vs.length) (st0++vs)=st0++vs:=XH (by simp);simpa [arM,Jc,Ji,et] using ar
 case inr.inr.inr.inr.inl=>
  obtain ⟨a,b,rfl,ha,hb⟩:=cC.two_inv;refine (Zd (f:=112) hx (ZK hy hz) (Zqd hK h cn n (by have:=Z3u ha;have:=Z3u hb;unfold I64;omega))).mono ?_;rintro v w' ⟨rfl,ar⟩;refine ⟨rfl,?_⟩;unfold Jt;simpa [arM,Jc,Ji,Z1M,ZN] using ar
 case inr.inr.inr.inr.inr.inl=>
  obtain ⟨a,b,rfl,ha,hb⟩:=cC.two_inv;refine (Zd (f:=113) hx (ZK hy hz) (Zqe hK h cn n (by have:=Z3u ha;have:=Z3u hb;unfold I64;omega))).mono ?_;rintro v w' ⟨rfl,ar⟩;refine ⟨rfl,?_⟩;unfold Jt;simpa [arM,Jc,Ji,Z1M,ZN] using ar
 case inr.inr.inr.inr.inr.inr.inl=>
  obtain ⟨a,b,rfl,ha,hb⟩:=cC.two_inv;refine (Zd (f:=114) hx (ZK hy hz) (Zqf hK h cn n (Zqj ha hb))).mono ?_;rintro v w' ⟨rfl,ar⟩;refine ⟨rfl,?_⟩;unfold Jt;simpa [arM,Jc,Ji,Z1M,ZN] using ar
 case inr.inr.inr.inr.inr.inr.inr.inr.inl=>
  obtain ⟨a,b,rfl⟩:∃ a b,vs=[a,b]:=by
   rcases fI with rfl|rfl
   all_goals
    obtain ⟨a,b,h1,-⟩:=cC.two_inv;exact ⟨a,b,h1⟩
  refine (Zd (f:=116) hx (ZK hy hz) (ltV hK h cn n trivial)).mono ?_;rintro v w' ⟨rfl,ar⟩;refine ⟨rfl,?_⟩;unfold Jt;simpa [arM,Jc,Ji,Z1M,ZN] using ar
 case inr.inr.inr.inr.inr.inr.inr.inr.inr.inl=>
  obtain ⟨a,b,rfl⟩:∃ a b,vs=[a,b]:=by
   rcases fI with rfl|rfl
   all_goals
    obtain ⟨a,b,h1,-⟩:=cC.two_inv;exact ⟨a,b,h1⟩
  refine (Zd (f:=117) hx (ZK hy hz) (leV hK h cn n trivial)).mono ?_;rintro v w' ⟨rfl,ar⟩;refine ⟨rfl,?_⟩;unfold Jt;simpa [arM,Jc,Ji,Z1M,ZN] using ar
 case inr.inr.inr.inr.inr.inr.inr.inr.inr.inr.inl=>
  obtain ⟨a,b,rfl⟩:∃ a b,vs=[a,b]:=by
   rcases fI with rfl|rfl
   all_goals
    obtain ⟨a,b,h1,-⟩:=cC.two_inv;exact ⟨a,b,h1⟩
  refine (Zd (f:=118) hx (ZK hy hz) (eqV hK h cn n trivial)).mono ?_;rintro v w' ⟨rfl,ar⟩;refine ⟨rfl,?_⟩;unfold Jt;simpa [arM,Jc,Ji,Z1M,ZN] using ar
 case inr.inr.inr.inr.inr.inr.inr.inr.inr.inr.inr.inr.inr.inr.inl=>
  obtain ⟨a,b,rfl,ha,hb⟩:=cC.two_inv;refine (Zd (f:=122) hx (ZK hy hz) (Zp9 hK h cn n (by have:=Z3u ha;have:=Z3u hb;unfold I64;omega))).mono ?_;rintro v w' ⟨rfl,ar⟩;refine ⟨rfl,?_⟩;unfold Jt;simpa [arM,Jc,Ji,Z1M,ZN] using ar
 case inr.inr.inr.inr.inr.inr.inr.inr.inr.inr.inr.inr.inr.inr.inr.inl=>
  obtain ⟨a,b,rfl,ha,hb⟩:=cC.two_inv;refine (Zd (f:=123) hx (ZK hy hz) (ZlV hK h cn n (by have:=Z3u ha;have:=Z3u hb;unfold I64;omega))).mono ?_;rintro v w' ⟨rfl,ar⟩;refine ⟨rfl,?_⟩;unfold Jt;simpa [arM,Jc,Ji,Z1M,ZN] using ar
 case inr.inr.inr.inr.inr.inr.inr.inr.inr.inr.inr.inr.inr.inr.inr.inr.inl=>
  obtain ⟨a,b,rfl,ha,hb⟩:=cC.two_inv;refine (Zd (f:=124) hx (ZK hy hz) (ZhG hK h cn n (Zw.2 ha.d))).mono ?_;rintro v w' ⟨rfl,ar⟩;refine ⟨rfl,?_⟩;unfold Jt;simpa [arM,Jc,Ji,Z1M,ZN] using ar
 case inr.inr.inr.inr.inr.inr.inr.inr.inr.inr.inr.inr.inr.inr.inr.inr.inr.inl=>
  obtain ⟨a,b,rfl,ha,hb⟩:=cC.two_inv;refine (Zd (f:=125) hx (ZK hy hz) (ZlZ hK h cn eG n (Zw.2 ha.d))).mono ?_;rintro v w' ⟨rfl,ar⟩;refine ⟨rfl,?_⟩;unfold Jt;simpa [arM,Jc,Ji,Z1M,ZN] using ar
 case inr.inr.inr.inr.inr.inr.inr.inr.inr.inr.inr.inr.inr.inr.inr.inr.inr.inr.inr.inr.inl=>
  obtain ⟨a,b,rfl,ha,hb⟩:=cC.two_inv;refine (Zd (f:=128) hx (ZK hy hz) (ZlW hK h cn n trivial)).mono ?_;rintro v w' ⟨rfl,ar⟩;refine ⟨rfl,?_⟩;unfold Jt;simpa [arM,Jc,Ji,Z1M,ZN] using ar
 case inr.inr.inr.inr.inr.inr.inr.inr.inr.inr.inr.inr.inr.inr.inr.inr.inr.inr.inr.inr.inr.inl=>
  obtain ⟨a,b,rfl,ha,hb⟩:=cC.two_inv;refine (Zd (f:=129) hx (ZK hy hz) (Zeh hK h cn n trivial)).mono ?_;rintro v w' ⟨rfl,ar⟩;refine ⟨rfl,?_⟩;unfold Jt;simpa [arM,Jc,Ji,Z1M,ZN] using ar
 case inr.inr.inr.inr.inr.inr.inr.inr.inr.inr.inr.inr.inr.inr.inr.inr.inr.inr.inr.inr.inr.inr.inl=>
  obtain ⟨a,b,rfl,ha,hb⟩:=cC.two_inv;refine (Zd (f:=130) hx (ZK hy hz) (Zei hK h cn n (by have:=Z3u ha;have:=Z3u hb;unfold I64;omega))).mono ?_;rintro v w' ⟨rfl,ar⟩;refine ⟨rfl,?_⟩;unfold Jt;have e:Z2A (b - a)=(b - a,0):=by
   have:=ha.d;have:=hb.d;unfold Z2A;rw [if_neg (by omega)]
  rw [e] at ar;simpa [arM,Jc,Ji,Z1M,ZN] using ar
 case inr.inr.inr.inr.inr.inr.inr.inl=>
  obtain ⟨b,rfl,hb⟩:=cC.one_inv;refine (Zd (f:=115) hx (ZK hy hz) (Zqg hK h cn n (by have:=Z3u hb;unfold I64;omega))).mono ?_;rintro v w' ⟨rfl,ar⟩;refine ⟨rfl,?_⟩;unfold Jt;have e:Z2A (-b)=(-b,0):=by
   have:=Z3u hb;unfold Z2A;rw [if_neg (by omega)]
  rw [e] at ar;simpa [arM,Jc,Ji,Z7Y,Z0F] using ar
 case inr.inr.inr.inr.inr.inr.inr.inr.inr.inr.inr.inl=>
  obtain ⟨b,rfl,hb⟩:=cC.one_inv;refine (Zd (f:=119) hx (ZK hy hz) (Zqh hK h cn n)).mono ?_;rintro v w' ⟨rfl,ar⟩;refine ⟨rfl,?_⟩;unfold Jt;have e:Z23 (decide (b=0))=1 - b:=by
   rcases hb.b with rfl|rfl<;>rfl
  rw [e] at ar;simpa [arM,Jc,Ji,Z7Y,Z0F] using ar
 case inr.inr.inr.inr.inr.inr.inr.inr.inr.inr.inr.inr.inr.inr.inr.inr.inr.inr.inl=>
  obtain ⟨b,rfl,hb⟩:=cC.one_inv;refine (Zd (f:=126) hx (ZK hy hz) (Zph hK h cn eG n)).mono ?_;rintro v w' ⟨rfl,ar⟩;refine ⟨rfl,?_⟩;unfold Jt;simpa [arM,Jc,Ji,Z7Y,Z0F] using ar
 case inr.inr.inr.inr.inr.inr.inr.inr.inr.inr.inr.inr.inr.inr.inr.inr.inr.inr.inr.inl=>
  obtain ⟨b,rfl,hb⟩:=cC.one_inv;refine (Zd (f:=127) hx (ZK hy hz) (Zpi hK h cn eG n)).mono ?_;rintro v w' ⟨rfl,ar⟩;refine ⟨rfl,?_⟩;unfold Jt;simpa [arM,Jc,Ji,Z7Y,Z0F] using ar
 case inr.inr.inr.inr.inr.inr.inr.inr.inr.inr.inr.inr.inl=>
  refine (Zd (f:=120) hx (ZK hy hz) (Zpa hK h n)).mono ?_;rintro v w' ⟨rfl,ar⟩;refine ⟨rfl,?_⟩;unfold Jt;simpa using ar
 case inr.inr.inr.inr.inr.inr.inr.inr.inr.inr.inr.inr.inr.inl=>
  obtain ⟨b,rfl,hb⟩:=cC.one_inv;refine (Zd (f:=121) hx (ZK hy hz) (Zhu hK h n)).mono ?_;rintro v w' ⟨rfl,ar⟩;refine ⟨rfl,?_⟩;unfold Jt;simpa [Z0F] using ar
 case inr.inr.inr.inr.inr.inr.inr.inr.inr.inr.inr.inr.inr.inr.inr.inr.inr.inr.inr.inr.inr.inr.inr=>
  refine (Zd (f:=131) hx (ZK hy hz) (Zpb hK h n)).mono ?_;rintro v w' ⟨rfl,ar⟩;refine ⟨rfl,?_⟩;unfold Jt;simpa using ar
end
abbrev ZhI (ev:List Int):Value:=.agg (evC ev).toArray
theorem ZhJ (ev:List Int) (c:Cal) (hv cv zo zs hr:Value) (kn:Int) (b:Addr) (w) :
 (Instr.build 175 #[(0, ZhI ev), (1, Z5c c hv cv zo zs hr), (2, .I kn), (7, .func (.func 71) #[] #[.pointer (some b)])]).run Tryz.prog w
   = .ok (.agg (evC ev++Jq c hv cv zo zs hr++([.I kn,.N,.I 0,.I 0,.B false,.func (.func 71) #[] #[.pointer (some b)]]:List Value)).toArray) w:=by kernel_rfl
theorem Zev {x:Ins} {s nx:Shp} (hx:x.op=13) (hn:Z0i x s=some nx):nx=s:=by
 obtain ⟨op,n⟩:=x;dsimp only at hx;subst hx;simp [Z0i,Zm] at hn;exact hn.2.symm
theorem Zew {x:Ins} {s nx:Shp} (hx:x.op=14) (hn:Z0i x s=some nx):nx=s.dropLast:=by
 obtain ⟨op,n⟩:=x;dsimp only at hx;subst hx;simp [Z0i,Zm] at hn;rw [YaG];exact hn.2.symm
def ZhK (K:MK) (code:List Ins) (sh:List (Option Shp)) (q:Nat×Bool) (w:World):Prop:=
 ∃ sv pv st sp at_ er, Mch K w sv pv st sp at_ er q.2/\
   (q.2=false->er=0/\at_=(q.1:Int)/\q.1<code.length/\sp.length<=q.1/\(∃ s,sh.getD q.1 none=some s/\Jv s st)/\∃ f,code.length<=f+q.1/\Z3h (Zk K.c K.kn) K.ev code f q.1 st sp=ZZ (Zk K.c K.kn) K.ev code)/\
   (q.2=true->(er=0/\∃ x,st=[x]/\ZZ (Zk K.c K.kn) K.ev code=(x,sp,0))\/(er≠0/\ZZ (Zk K.c K.kn) K.ev code=(0,[],er)))
theorem ZhK.step {K:MK} {code:List Ins} {sh:List (Option Shp)} {i:Nat} {x:Ins} {s nx:Shp} {st:List Int} {sp:List Spn} {w} {sv pv:Value} {f:Nat} (hK:KOk K) (hi:i<code.length) (hx:code.getD i ⟨0,0⟩=x) (am:sh.length=code.length)
 (hg:Z8j code sh i s nx) (eI:∀ s,some s∈sh->s.length<=16) (ax:Jv s st) (db:sp.length<=i) (hf:code.length<=f+i) (hr:Z3h (Zk K.c K.kn) K.ev code f i st sp=ZZ (Zk K.c K.kn) K.ev code)
 (h:Jt K w x st sp sv pv ((i+1:Nat):Int)):∃ q:Nat×Bool,ZhK K code sh q w/\(if q.2=true then 0 else code.length+1 - q.1)<code.length+1 - i:=by
 obtain ⟨f,rfl⟩:∃ f',f=f'+1:=⟨f - 1,by omega⟩
 rw [Z3h] at hr;rw [hx] at hr;have hn:=hg.next;rw [hx] at hn;unfold Jt at h;by_cases bI:x.op=24;rw [if_pos bI] at h hr;obtain ⟨dw,bu⟩:=hg.stop (by rw [hx];exact bI);have fb:st.length=1:=by rw [<- ax.1];exact bu
 obtain ⟨a,rfl⟩:=Ybr.1 fb;refine ⟨(i,true),⟨sv,pv,[a],sp,_,0,h,(λhq=>by cases hq),λ_=>.inl ⟨rfl,a,rfl,?_⟩⟩,by simp;omega⟩;rw [<- hr];rfl;rw [if_neg bI] at h hr;by_cases bH:x.op=13;rw [if_pos bH] at h hr;obtain ⟨j1,j2,j3⟩:=hg.jump (.inl (by rw [hx];exact bH));rw [hx] at j1 j2 j3;have cB:=Zev bH hn;subst cB;refine ⟨(x.n.toNat,false),⟨sv,pv,st,sp,_,0,h,λ_=>⟨rfl,by omega,by omega,by dsimp only;omega,⟨_,j3,ax⟩,f,by dsimp only;omega,hr⟩,λhq=>by cases hq⟩,by simp;omega⟩;rw [if_neg bH] at h hr;by_cases ce:x.op=14;rw [if_pos ce] at h hr;obtain ⟨j1,j2,j3⟩:=hg.jump (.inr (by rw [hx];exact ce));obtain ⟨o1,o2⟩:=hg.on (by rw [hx];exact bI) (by rw [hx];exact bH);rw [hx] at j1 j2 j3;have cB:=Zew ce hn;have fj:Jv nx st.dropLast:=by
  rw [cB,YaG,YaG,<- ax.1];exact ax.take _
 obtain ⟨sv',h⟩:=h;by_cases hb:Jd st 0=0;rw [if_pos hb] at h hr;exact ⟨(x.n.toNat,false),⟨sv',pv,st.dropLast,sp,_,0,h,λ_=>⟨rfl,by omega,by omega,by dsimp only;omega,⟨_,j3,fj⟩,f,by dsimp only;omega,hr⟩,λhq=>by cases hq⟩,by simp;omega⟩;rw [if_neg hb] at h hr;exact ⟨(i+1,false),⟨sv',pv,st.dropLast,sp,_,0,h,λ_=>⟨rfl,rfl,by omega,by dsimp only;omega,⟨_,o2,fj⟩,f,by dsimp only;omega,hr⟩,λhq=>by cases hq⟩,by simp;omega⟩;rw [if_neg ce] at h hr;obtain ⟨o1,o2⟩:=hg.on (by rw [hx];exact bI) (by rw [hx];exact bH);obtain ⟨sv',pv',st',sp',hM,aY⟩:=h;by_cases he:(Ji (Zk K.c K.kn) K.ev x (Jd st 1) (Jd st 0)).2=0
 . rw [if_pos he] at hr
   obtain ⟨e1,e2⟩:=aY he;subst e1 e2;rw [he] at hM;have df:(Jc x.op (Jd st 1) (Jd st 0) (Ji (Zk K.c K.kn) K.ev x (Jd st 1) (Jd st 0)).1).length<=1:=by
    unfold Jc;repeat' split
    all_goals simp
   refine ⟨(i+1,false),⟨sv',pv',_,_,_,0,hM,λ_=>⟨rfl,rfl,by omega,by dsimp only;rw [Xe];omega,⟨_,o2,Z80 hK.ev hn bI bH ce ax he⟩,f,by dsimp only;omega,hr⟩,λhq=>by cases hq⟩,by simp;omega⟩
 rw [if_neg he] at hr;have hd:decide (¬ (Ji (Zk K.c K.kn) K.ev x (Jd st 1) (Jd st 0)).2=0)=true:=decide_eq_true he;rw [hd] at hM;exact ⟨(i,true),⟨sv',pv',_,_,_,_,hM,(λhq=>by cases hq),λ_=>.inr ⟨he,hr.symm⟩⟩,by simp;omega⟩
theorem Z8l (v:Value) (code:List Ins) (t kn:Int) (ev:List Int) (c:Cal) (hv cv zo zs hr:Value) (w) (hs:SlV [] w v code) (mQ:Z1Y code=(t,0)) (cy:Z3r w c hv cv zo zs hr) (bJ:Z9i ev) (ho:zo.oneCell'=true/\zs.oneCell'=true/\hr.oneCell'=true) :
 CC 35 #[v,ZhI ev,Z5c c hv cv zo zs hr,.I kn] w λr w'=>∃ pv,r=.tuple #[.I (ZZ (Zk c kn) ev code).1,pv,.I (ZZ (Zk c kn) ev code).2.2]/\ZE 123 w w' pv (ZZ (Zk c kn) ev code).2.1:=by
 obtain ⟨cn,oZ,sh,am,aY,eI,ir,j6,bT⟩:=Z5e mQ;refine cW4 63 Tryz.func35 ?_;refine W ?_;refine Z0 (Zl rfl) rfl ?_;rintro _ w1 ⟨b5,rfl,oH,k5,hS⟩;replace k5:Blk w1 b5 112 (evC ev):=k5;refine Z0 (Zl rfl) rfl ?_;rintro _ w2 ⟨b6,rfl,eo,k6,ai⟩;replace k6:Blk w2 b6 48 (Jq c hv cv zo zs hr):=k6;replace k5:=k5.up ai;replace hS:=hS.trans ai;refine W ?_;refine Z0 Z4 rfl ?_;rintro _ w3 ⟨bs,rfl,cr,ks,aw⟩;replace k5:=k5.up aw;replace k6:=k6.up aw;have rK:w.heap.size<=bs:=Xl hS.size cr;replace hS:=hS.trans aw;refine W ?_;refine Z9 (vs:=[(0,ZhI ev),(1,Z5c c hv cv zo zs hr),(2,.I kn),(7,.func (.func 71) #[] #[pQ bs])]) rfl (ZhJ ev c hv cv zo zs hr kn _) rfl ?_;refine Z0 (Zl rfl) rfl ?_;rintro _ w4 ⟨bm,rfl,me,km,ay⟩;replace km:Blk w4 bm 175 (evC ev++Jq c hv cv zo zs hr++[.I kn,.N,.I 0,.I 0,.B false,.func (.func 71) #[] #[pQ bs]]):=km;have rL:w.heap.size<=bm:=Xl hS.size me;have mR:bm≠bs:=by have:=ks.lt;omega
 replace ks:=ks.up ay;replace hS:=hS.trans ay;clear k5 k6 ai aw ay;refine W ?_;refine CL (ZbC _) ?_;rintro _ w5 ⟨m,rfl,hm,aq,aB⟩;obtain ⟨K,e1,e2,hk,e4,e5,e6,e7,e8,e9,e10,e11,e12⟩:∃ K:MK,K.w0=w5/\K.bm=bm/\K.nk=some bs/\K.ev=ev/\K.c=c/\K.kn=kn/\K.hv=hv/\K.cv=cv/\K.zo=zo/\K.zs=zs/\K.hr=hr/\K.pr=[]:=⟨⟨w5,bm,some bs,ev,c,kn,hv,cv,zo,zs,hr,[]⟩,rfl,rfl,rfl,rfl,rfl,rfl,rfl,rfl,rfl,rfl,rfl,rfl⟩
 subst e1 e2 e4 e5 e6 e7 e8 e9 e10 e11;have ja:=hS.trans aB;have own_ge:∀ b∈K.own,w.heap.size<=b:=λb hb=>by simp [MK.own,hk] at hb;omega
 have rM:m∉K.own:=λhb=>by
  have:=km.lt;have:=ks.lt;simp [MK.own,hk] at hb;omega
 have mS:=cy.up ja;have g1:1<w.heap.size:=by have:=block_lt_of_cell (cy.len 0 0 rfl);simpa using this
 have g2:3<w.heap.size:=by have:=block_lt_of_cell (cy.mov 0 0 rfl);simpa using this
 have hK:KOk K:=
  { hols := cy.hols.ext ja (by simp) (λb hb => .inr (own_ge b hb))
    clos:=cy.clos.ext ja (by simp) (λb hb=>.inr (own_ge b hb))
    ozo:=ho.1,ozs:=ho.2.1,ohr:=ho.2.2
    len:=mS.len,mov:=mS.mov
    bml:=(km.up aB).lt
    nkl:=λb hb=>by rw [hk] at hb;cases hb;exact ⟨(ks.up aB).lt,λh=>mR h.symm⟩
    gl:=λb hb=>by have:=own_ge b hb;omega
    cal:=cy.ok
    ev:=bJ,nks:=by rw [hk];simp }
 have hM:Mch K K.w0 (.N) (.N) [] [] 0 0 false:=
  { blk := by unfold Z3j; rw [hk]; exact km.up aB
    row:=Row.nil
    nt:=λb hb=>by rw [hk] at hb;cases hb;exact ⟨ks.up aB,Row.nil⟩
    nt0:=λ_=>rfl
    ap:=by simp [ob]
    stp:=Stp.refl _ _
    prot:=λp hp=>by rw [e12] at hp;cases hp }
 have cd:SlV K.own K.w0 v code:=hs.ext ja (by simp) (λb hb=>.inr (own_ge b hb));clear hs km ks mS;refine W ?_
 refine Zr (σ:=Nat×Bool) (λ_=>[(0,v),(11,pQ bs),(13,mP K),(14,.map (some m))])
  (λq w'=>ZhK K code sh q w') (λq=>if q.2=true then 0 else code.length+1 - q.1) (0,false) ⟨rfl,rfl,rfl,rfl,trivial⟩ ⟨_,_,[],[],0,0,hM,λ_=>⟨rfl,rfl,cn,Xm _,⟨[],ir,Jv.nil⟩,code.length,Xm _,rfl⟩,λh=>by cases h⟩ ?_
 clear hM;rintro ⟨i,dn⟩ w6 ⟨sv,pv,st,sp,at_,er,hM,aI,hdone⟩;dsimp only at hM aI hdone ⊢;have ab:=hM.blk;unfold Z3j at ab;cases dn with
 | false=>
   obtain ⟨rfl,rfl,hi,db,⟨s,fP,ax⟩,f,hf,hr⟩:=aI rfl;obtain ⟨s',nx,hg⟩:=bT i hi;have rN:s'=s:=by have:=hg.at_;rw [fP] at this;exact (XU this).symm
   subst rN;have df:=cd.ext (X':=[]) hM.stp (λb hb=>hb) (by simp);have hx:code.getD i ⟨0,0⟩=code[i]:=by simp [List.getD,hi]
   have hn:=hg.next;rw [hx] at hn;have rO:s'.length<=16:=eI _ (by
    have j7:i<sh.length:=by omega
    rw [YaC,XN j7] at fP;simp only [Ybw] at fP;rw [<- fP];exact Xc j7)
   refine W ?_;refine Z0 Z4 rfl ?_;rintro _ w7 ⟨b15,rfl,rP,e15,aR⟩;have jw:=ab.lt;refine W ?_;refine SA (us:=Z2.enc code[i]) e15 ?_;rintro _ w8 ⟨hT,k15⟩;replace aR:=aR.ow hT;clear e15 hT;replace hM:=hM.up aR;replace ab:=ab.up aR;refine W ?_;refine Z5 (Zj (u:=.I ((i:Int)+1)) rfl rfl rfl rfl ab (by simp [evC,Jq])) ?_;rintro _ w9 ⟨cG,ec⟩;replace hM:=hM.put hK (at':=((i+1:Nat):Int)) (er':=0) (dn':=false) cG ec;replace k15:=k15.ext cG (by simp;omega);have rQ:=aq.ext hM.stp rM;refine W ?_;refine Z7 (Z1b rfl rfl rQ) rfl ?_;refine W ?_;refine Z0 (ZhH hK hM hn ax (by rw [<- ax.1];omega) (by omega) rfl rfl rfl) rfl ?_;rintro _ w10 ⟨rfl,ar⟩;obtain ⟨q,hq,ah⟩:=ZhK.step hK hi hx am hg eI ax db hf hr ar;refine W ?_;exact QL q hq (by simpa using ah)
 | true=>
   have fin:∀ w' pv',Stp K.own K.w0 w'->Row [] w' K.w0.heap.size 123 pv' (ZZ (Zk K.c K.kn) K.ev code).2.1->ZE 123 w w' pv' (ZZ (Zk K.c K.kn) K.ev code).2.1:=λw' pv' h1 h2=>
    ⟨h2.lower ja.size,ja.own h1 (λb hb=>.inr (own_ge b hb))⟩
   rcases hdone rfl with ⟨rfl,x,rfl,hR⟩|⟨he,hR⟩
   obtain ⟨ks,ac⟩:=hM.nt bs hk;refine W ?_;refine ZDr 6 ([K.bm]) [] [(0,0),(2,1),(1,2),(3,0),(4,0),(5,0)] (λw1 ae=>?_);replace hM:=hM.up ae;replace ks:=ks.up ae;replace ac:=ac.up ae;refine D ?_;refine DC (Z8e (st:=[]) hK hM) (λ_ _ h=>h.2.2) ?_;rintro _ w7 ⟨rfl,⟨sv',o0⟩,aR⟩;obtain ⟨ks7,fh⟩:=o0.nt bs hk;refine D ?_;refine W ?_;refine WR ?_;refine .mk ⟨pv,by rw [hR],fin _ _ o0.stp ?_⟩;rw [hR];exact fh;refine QO ?_;refine ZDr 7 [] [] [(0,0),(1,0),(2,0),(3,1),(4,0),(5,0),(6,0)] (λw1 ae=>?_);replace hM:=hM.up ae;replace ab:=ab.up ae;refine D ?_;refine W ?_;refine WR ?_;refine .mk ⟨.N,by rw [hR],fin _ _ hM.stp ?_⟩;rw [hR];exact Row.nil
theorem Z0k (n a b:Int) (w):CC 27 #[.I n,.I a,.I b] w λr w'=>r=.B (decide (a<=n/\n<=b))/\Stp [] w w':=by
 refine cW3 15 Tryz.func27 ?_
 (refine QP ?_ ?_<;>intro hg)
 refine RU ?_;exact ⟨by congr 1;rw [decide_eq_decide];exact ⟨λh=>⟨by omega,h⟩,λh=>h.2⟩,Stp.refl _ _⟩;refine RU ?_;exact ⟨by congr 1;symm;exact decide_eq_false (λh=>by omega),Stp.refl _ _⟩
theorem ZbD (a b c d e:Int) (w):(Instr.build 112 #[(0,.I a),(1,.I (-1)),(3,.I b),(4,.I c),(5,.I d),(6,.I e)]).run Tryz.prog w=.ok (ZhI [a,-1,0,b,c,d,e]) w:=by kernel_rfl
theorem ZbE (op a b r:Int):(Jc op a b r).length<=1:=by
 unfold Jc;repeat' split
 all_goals first|exact Xm _|exact Xu _
theorem Z3v (o:Int->Bool) (ev:List Int) (C:List Ins):∀ (f i:Nat) (st:List Int) (sp:List Spn),(Z3h o ev C f i st sp).2.1.length<=sp.length+f
 | 0,_,_,_=>by simp [Z3h]
 | f + 1, i, st, sp => by
   rw [Z3h];split;simp;split;have:=Z3v o ev C f (C.getD i ⟨0,0⟩).n.toNat st sp;omega;split;have:=Z3v o ev C f (if Jd st 0=0 then (C.getD i ⟨0,0⟩).n.toNat else i+1) st.dropLast sp;omega;split;refine Xl (Z3v o ev C f _ _ _) ?_;have:=ZbE (C.getD i ⟨0,0⟩).op (Jd st 1) (Jd st 0) (Ji o ev (C.getD i ⟨0,0⟩) (Jd st 1) (Jd st 0)).1;rw [Xe];omega;simp
def evL (c:Cas) (f:Fct):List Int:=
 let s:=Z2W c.atts c.crrs f.entry f.to_
 [f.day,if s.2=true then s.1.day else -1,if s.2=true then s.1.extra else 0,f.by_,f.to_,c.court,f.amt]
def opn (c:Cas):Int->Bool:=Zk c.cal c.today
def noD:Dln×Bool:=(default,false)
def mkD (c:Cas) (f:Fct) (r:Int) (q:Cr) (day due:Int) (sp:List Spn):Dln:=
 let s:=Z2W c.atts c.crrs f.entry f.to_
 let a:=Z9j c.fcts f q.unl due
 { rule := q.name, trig := f, party := f.to_, due := due, stat := if a.2 = true then 1 else if due < c.today then 2 else 0,
   reas:=[⟨1,f.entry,f.day⟩,⟨2,r,0⟩]++(if s.2=true/\(Z2E q.cnd=true\/Z2E q.due=true) then [⟨3,s.1.att,s.1.day⟩] else [])
    ++ sp.map (λx=>⟨4,x.1,x.2⟩)++(Z3l f.day day c.stys).map (λx=>⟨5,x.1,x.2⟩)++(if a.2=true then [⟨6,a.1.entry,a.1.day⟩] else []) }
def Z3w (c:Cas) (f:Fct) (r:Int):Dln×Bool:=
 if ¬ (0<=r/\r<=(c.ruls.length:Int) - 1) then noD else
 let q:=c.ruls.getD r.toNat crZ
 if q.on≠f.kind\/ZdS c.ruls q.name f.day≠r then noD else
 let x:=ZZ (opn c) (evL c f) q.cnd
 if x.2.2≠0\/x.1=0 then noD else
 let y:=ZZ (opn c) (evL c f) q.due
 if y.2.2≠0 then noD else
 let z:=Z54 f.day y.1 c.stys
 if z.2≠0 then noD else
 if z.1=y.1 then (mkD c f r q y.1 y.1 (x.2.1++y.2.1),true) else
 let n:=ZR (opn c) 1 z.1
 if n.2≠0 then noD else (mkD c f r q y.1 n.1 (x.2.1++y.2.1++[(z.1,n.1)]),true)
structure Zex (c:Cas):Prop where
 fl:c.fcts.length<=100000
 rl:c.ruls.length<=1024
 cnd:∀ q∈c.ruls,Z1Y q.cnd=(2,0)
 due:∀ q∈c.ruls,Z1Y q.due=(3,0)
 att:ZlS c.atts c.crrs
 ext:∀ x∈c.crrs,0<=x.extra/\x.extra<=1000
 sty:Zbf c.stys
 court:0<=c.court/\c.court<=15
 today:0<=c.today/\c.today<=3652058
structure Zey (f:Fct):Prop where
 day:0<=f.day/\f.day<=3652058
 by_:0<=f.by_/\f.by_<=63
 to_:0<=f.to_/\f.to_<=63
 amt:-2147483647<=f.amt/\f.amt<=2147483647
structure Z8m (w:World) (c:Cas) (R:Z5B):Prop where
 ff:SlV [] w R.fv c.fcts
 rr:SlV [] w R.rv c.ruls
 aa:SlV [] w R.av c.atts
 cc:SlV [] w R.cv c.crrs
 ss:SlV [] w R.sv c.stys
 cal:Z3r w c.cal R.hv R.lv R.zo R.zs R.hr
 one:R.zo.oneCell'=true/\R.zs.oneCell'=true/\R.hr.oneCell'=true
theorem Z8m.up {w w':World} {c:Cas} {R:Z5B} (h:Z8m w c R) (hS:Stp [] w w'):Z8m w' c R:=⟨h.ff.up hS,h.rr.up hS,h.aa.up hS,h.cc.up hS,h.ss.up hS,h.cal.up hS,h.one⟩
end Go.Proofs.YtkojegdemoahlaaGreatDoor
