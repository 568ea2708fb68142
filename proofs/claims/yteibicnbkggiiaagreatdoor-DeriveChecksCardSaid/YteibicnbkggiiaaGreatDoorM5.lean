/-
Contracts and plain laws, merged out of own texts.
-/
import Derived.Test.YteibicnbkggiiaaGreatDoorM4
import Derived.Great.BuildSlice
set_option linter.unusedVariables false
set_option linter.unusedSimpArgs false
set_option maxHeartbeats 4000000
set_option maxRecDepth 20000
namespace Go.Proofs.YteibicnbkggiiaaGreatDoor
open Go Go.Eng Go.RowKit Go.Proofs
structure Zek (n:Nat) (a:Atp):Prop where
 entry:0<=a.entry/\a.entry<=15
 party:0<=a.party/\a.party<=2
 crr:0<=a.crr/\a.crr<n
 sent:739616<=a.sent/\a.sent<=739655
 len:a.rets.length<=3
 rets:∀ x∈a.rets,ZaB n x
def Z6f (l:List Fct):Prop:=∀ k (h:k<l.length),2 * (k:Int)<=l[k].entry/\l[k].entry<=2 * (k:Int)+1
structure Z83 (c:Cas):Prop where
 fl:c.fcts.length<=8
 fo:∀ f∈c.fcts,Z69 f
 en:Z6f c.fcts
 rl:c.ruls.length<=4
 ro:∀ q∈c.ruls,∃ r:RuleM,Z4Y r/\Z1p r.rul=0/\q=crF r.rul
 al:c.atts.length<=4
 ao:∀ a∈c.atts,Zek c.crrs.length a
 cl:1<=c.crrs.length/\c.crrs.length<=4
 co:∀ x∈c.crrs,Z7Y x
 sl:c.stys.length<=2
 so:∀ x∈c.stys,ZaA x
 cal:ZaE c.cal
 court:0<=c.court/\c.court<=2
 today:739616<=c.today/\c.today<=739705
structure Z5G (X:List Nat) (lv:Value) (l:List Int) (c:Cas) (R:Z0U) (w:World):Prop where
 li:SlV X w lv l
 ff:SlV X w R.fv c.fcts
 rr:SlV X w R.rv c.ruls
 aa:SlV X w R.av c.atts
 cc:SlV X w R.cv c.crrs
 ss:SlV X w R.sv c.stys
 ho:SlV X w R.hv c.cal.hols
 clo:SlV X w R.lv c.cal.clos
 one:R.zo.oneCell'=true/\R.zs.oneCell'=true/\R.hr.oneCell'=true
 zon:Z9x X w R.zo R.zs R.hr
theorem Z5G.ext {X:List Nat} {lv:Value} {l:List Int} {c:Cas} {R:Z0U} {w w':World} (h:Z5G X lv l c R w) (hS:Stp X w w'):Z5G X lv l c R w':=
 ⟨h.li.ext hS (λ_ h=>h) (λ_ h=>.inl h),h.ff.ext hS (λ_ h=>h) (λ_ h=>.inl h),h.rr.ext hS (λ_ h=>h) (λ_ h=>.inl h),h.aa.ext hS (λ_ h=>h) (λ_ h=>.inl h),h.cc.ext hS (λ_ h=>h) (λ_ h=>.inl h),h.ss.ext hS (λ_ h=>h) (λ_ h=>.inl h),h.ho.ext hS (λ_ h=>h) (λ_ h=>.inl h),h.clo.ext hS (λ_ h=>h) (λ_ h=>.inl h),h.one,h.zon.ext hS (λ_ h=>h) (λ_ h=>.inl h)⟩
theorem Z5G.cell {X:List Nat} {lv:Value} {l:List Int} {c:Cas} {R:Z0U} {w} (h:Z5G X lv l c R w):∀ u∈Jh c R,u.oneCell'=true:=by
 have h1:=h.ff.one;have h2:=h.rr.one;have h3:=h.aa.one;have h4:=h.cc.one;have h5:=h.ss.one;have h6:=h.ho.one;have h7:=h.clo.one;obtain ⟨h8,h9,ec⟩:=h.one;intro u hu;simp only [Jh,Z0M,Xg,Xm,or_false,XU,XH] at hu;rcases hu with rfl|rfl|rfl|rfl|rfl|rfl|rfl|rfl|rfl|rfl|rfl|rfl|rfl|rfl|rfl|rfl|rfl|rfl|rfl<;>first|assumption|rfl
theorem ZbG (c:Cal) (hv lv zo zs hr:Value) (p:Option Addr) (n k:Nat) (cs:List Crr) (ct td:Int) (w):(Instr.build 49 #[(5,Z7W c hv lv zo zs hr),(3,.slice p n k),(6,.I ct),(7,.I td)]).run Tryz.prog w=.ok (.agg (Jh ⟨[],[],[],cs,[],c,ct,td⟩ ⟨.N,.N,.N,.slice p n k,.N,hv,lv,zo,zs,hr⟩).toArray) w:=by kernel_rfl
theorem ZbH (f:Fct) (w):(Instr.buildSlice 35 1 #[(0,aG f)]).run Tryz.prog w=.ok (.slice (some ⟨w.heap.size,0,none⟩) 1 1) (w.alloc (.cells (Z8.enc f).toArray 24)):=by kernel_rfl
theorem Zel (a b c d:Int) (w):(Instr.build 32 #[(0,.I a),(1,.I b),(2,.I c),(3,.I d)]).run Tryz.prog w=.ok (.agg (atC ⟨a,b,c,d,[]⟩ (.N)).toArray) w:=by kernel_rfl
theorem ZaF {a:Atp} {v:Value} (h:v.oneCell'=true):∀ u∈atC a v,u.oneCell'=true:=by
 intro u hu;simp only [Xg,Xm,or_false] at hu;rcases hu with rfl|rfl|rfl|rfl|rfl<;>first|assumption|rfl
theorem Z84 (lv:Value) (l:List Int) (w) (hs:SlV [] w lv l) (hl:∀ a∈l,I64 a) (hL:Z0o w) (hM:Z1T w) :
 CC 5 #[lv] w λr w'=>∃ (c:Cas) (R:Z0U),r=.agg (Jh c R).toArray/\ZoO w' c R/\Z83 c/\Stp [] w w'/\Z9x [] w' R.zo R.zs R.hr:=by
 have da:∀ k,∀ a∈l.drop k,I64 a:=λk a h=>hl a (Yae h);refine cW1 137 Tryz.func5 ?_;refine W ?_;refine Z1 Z9 rfl ?_;rintro _ w1 ⟨b2,rfl,dx,e2,hS⟩;refine W ?_;refine CL (Z07 lv l 40 _ (hs.up hS)) ?_;rintro v1 w2 ⟨h1,rfl⟩;have b2w:=e2.lt;refine W ?_;refine CM (ZN rfl) (Z5g [b2] v1 _ _ (by simpa using b2w) h1 (da 40)) ?_;rintro _ w3 ⟨cal,hv,cv,zo,zs,hr,rfl,bP,ml,dg,bD,hT,cU⟩;replace e2:=e2.up hT;replace hS:=hS.trans hT;clear hT h1;refine W ?_;refine CL (Z07 lv l 60 _ (hs.up hS)) ?_;rintro v1 w4 ⟨h1,rfl⟩;refine W ?_;refine CL (Z6R v1 _ _ h1 (da 60)) ?_;rintro crv w5 ⟨cs,aU,qM,fz,jQ⟩;have cw:SlV [b2] w5 crv cs:=jQ.slv (by simpa using e2.lt);have hT:=jQ.2;replace e2:=e2.up hT;replace dg:=dg.up hT;replace bD:=bD.up hT;replace cU:=cU.ext hT (by simp) (λb h=>.inl h);replace hS:=hS.trans hT;clear hT h1 jQ;refine W ?_;refine CM (ZQ rfl rfl rfl) (ZB [] _ l 0 3 _ (by decide) (by unfold I64;omega) (hs.up hS) hl) ?_;rintro _ w6 ⟨ct,rfl,nI,hT⟩;replace e2:=e2.up hT;replace dg:=dg.up hT;replace bD:=bD.up hT;replace cU:=cU.ext hT (by simp) (λb h=>.inl h);replace cw:=cw.up hT;replace hS:=hS.trans hT;clear hT;refine W ?_;refine CM (ZQ rfl rfl rfl) (ZB [] _ l 1 90 _ (by decide) (by unfold I64;omega) (hs.up hS) hl) ?_;rintro _ w7 ⟨td,rfl,rQ,hT⟩;replace e2:=e2.up hT;replace dg:=dg.up hT;replace bD:=bD.up hT;replace cU:=cU.ext hT (by simp) (λb h=>.inl h);replace cw:=cw.up hT;replace hS:=hS.trans hT;clear hT;obtain ⟨p,k,rfl,-⟩:=id cw;refine W ?_;refine Za rfl (ZbG cal hv cv zo zs hr p cs.length k cs (ct:Int) (739616+(td:Int))) rfl ?_;generalize (.slice p cs.length k:Value)=crv at cw ⊢;refine Z1 Z9 rfl ?_;rintro _ w8 ⟨b3,rfl,dY,e3,hT⟩;have b2w7:=e2.lt;have n23:b2≠b3:=by omega
 replace e2:=e2.up hT;have nc:∀ b∈[b2,b3],b∈[b2]\/w7.heap.size<=b:=λb hb=>by simp at hb ⊢;omega
 have mm:Z9x [b2,b3] w8 zo zs hr:=cU.ext hT (by simp) nc;obtain ⟨nJ,jR,jS,jT⟩:SlV [b2,b3] w8 lv l/\SlV [b2,b3] w8 hv cal.hols/\SlV [b2,b3] w8 cv cal.clos/\SlV [b2,b3] w8 crv cs:=⟨by
  have h:=hs.ext (X':=[b2,b3]) (hS.trans hT) (by simp) (λb hb=>.inr (by have:=hS.size;simp at hb;omega));exact h,dg.ext hT (by simp) nc,bD.ext hT (by simp) nc,cw.ext hT (by simp) nc⟩
 replace hS:=hS.trans hT;clear hT dg bD cw nc cU;have dZ:Z5G [b2,b3] lv l ⟨[],[],[],cs,[],cal,(ct:Int),739616+(td:Int)⟩ ⟨.N,.N,.N,crv,.N,hv,cv,zo,zs,hr⟩ w8:=⟨nJ,Z4u _ _,Z4u _ _,Z4u _ _,jT,Z4u _ _,jR,jS,bP,mm⟩
 have ap:Z83 ⟨[],[],[],cs,[],cal,(ct:Int),739616+(td:Int)⟩:=⟨Xo _,by simp,λk h=>by simp at h,Xo _,by simp,Xo _,by simp,⟨aU,qM⟩,fz,Xo _,by simp,ml,by dsimp only;omega,by dsimp only;omega⟩
 clear nJ jR jS jT bP;generalize kI:(⟨[],[],[],cs,[],cal,(ct:Int),739616+(td:Int)⟩:Cas)=C at *;generalize kJ:(⟨.N,.N,.N,crv,.N,hv,cv,zo,zs,hr⟩:Z0U)=R at *;refine SB (us:=Jh C R) dZ.cell e3 ?_;rintro _ w9 ⟨hT,e3⟩;replace dZ:=dZ.ext hT.mn;replace e2:=e2.ext hT (by simpa using n23);have g3:w.heap.size<=b3:=by have:=hS.size;have:=e3.lt;omega
 replace hS:=hS.ow hT;clear hT;have l2:=e2.lt;have l3:=e3.lt;have qN:C.fcts=[]:=by rw [<- kI]
 have mo:C.ruls=[]:=by rw [<- kI]
 have iJ:C.atts=[]:=by rw [<- kI]
 clear kI;have dV:R.fv=.N:=by rw [<- kJ]
 have iK:R.rv=.N:=by rw [<- kJ]
 have iu:R.av=.N:=by rw [<- kJ]
 clear kJ;refine W ?_
 refine ZC (σ:=Nat×Value×List Fct) (λq=>[(0,lv),(2,pQ b2),(3,pQ b3),(4,.I (q.1:Int))])
  (λq W=>q.1<=8/\q.2.2.length=q.1/\(∀ f∈q.2.2,Z69 f)/\Z6f q.2.2/\Row [b2,b3] W w9.heap.size 24 q.2.1 q.2.2/\Blk W b3 49 (Jh C { R with fv:=q.2.1 })/\Stp [b3] w9 W) (λq=>9 - q.1) (0,.N,[])
  ⟨rfl,rfl,rfl,rfl,trivial⟩ ⟨by decide,rfl,by simp,λk h=>by simp at h,Row.nil,by rw [<- dV];exact e3,Stp.refl _ _⟩ ?_
 clear e3;rintro ⟨j,fv,fs⟩ y1 ⟨hj,ai,aF,kK,ac,e3,hT⟩;dsimp only at hj ai aF kK ac e3 ⊢;have iL:=dZ.ext hT.mn;have bK:SlV [] y1 lv l:=iL.li.wk (by simp);have bp:=λb hb=>ac.ob_le b hb;refine W ?_;refine CM (ZQ rfl rfl rfl) (ZB [] _ l 2 9 _ (by decide) (by unfold I64;omega) bK hl) ?_;rintro _ y2 ⟨q,rfl,hq,hU⟩;replace ac:=ac.up hU;replace e3:=e3.up hU;replace bK:=bK.up hU;replace hT:=hT.trans hU.mn;clear hU iL;by_cases hlt:(j:Int)<(q:Int);refine QO ?_;refine ZDr 16 [] [13,15] [(0,0),(1,1),(2,0),(3,0),(4,0),(7,0),(8,0),(9,0),(5,2),(6,0),(10,2),(11,2),(12,2),(13,2),(14,0),(15,2)] (λw1 ae=>?_);replace ac:=ac.up ae;replace e3:=e3.up ae;replace bK:=bK.up ae;replace hT:=hT.trans ae.mn;clear ae;refine QD ?_;refine Z7 rfl trivial (Z4 rfl (ZQ rfl rfl rfl) (ZB [] _ l 3 2 _ (by decide) (by unfold I64;omega) bK hl)) (λ_ _ h=>h.choose_spec.2.2) rfl ?_;rintro _ y3 ⟨q3,rfl,nq,hU⟩;replace ac:=ac.up hU;replace e3:=e3.up hU;replace bK:=bK.up hU;replace hT:=hT.trans hU.mn;clear hU;refine QD ?_;refine Z7 rfl trivial (Z4 rfl (ZQ rfl rfl rfl) (ZB [] _ l (4+(j:Int)) 100000000 _ (by decide) (by unfold I64;omega) bK hl)) (λ_ _ h=>h.choose_spec.2.2) rfl ?_;rintro _ y4 ⟨q4,rfl,kw,hU⟩;replace ac:=ac.up hU;replace e3:=e3.up hU;replace hT:=hT.trans hU.mn;clear hU bK;focus repeat'(first|refine D1 ?_|omega|refine Z6 rfl rfl rfl rfl (λhg=>?_) (λhg=>?_)|(refine Z2 rfl rfl rfl rfl (λhg=>?_) (λhg=>?_)<;>refine D1 ?_)|fail)
 refine Z7 rfl trivial (Z4 rfl (Zj rfl rfl) (ZbD (2 * (j:Int)+(q3:Int)) (q4:Int) _ (by unfold I64;omega))) (λ_ _ h=>h.choose_spec.2.2.2) rfl ?_;rintro _ y5 ⟨f,rfl,rR,hf,hU⟩;replace ac:=ac.up hU;replace e3:=e3.up hU;replace hT:=hT.trans hU.mn;clear hU;focus repeat'(first|refine D1 ?_|omega|refine Z6 rfl rfl rfl rfl (λhg=>?_) (λhg=>?_)|(refine Z2 rfl rfl rfl rfl (λhg=>?_) (λhg=>?_)<;>refine D1 ?_)|fail)
 refine Z7 rfl trivial (Z0 rfl (ZbH f)) (λ_ _ h=>Z5.stp h) rfl ?_;rintro vs y6 hN;have eQ:SlV (ob fv++[b2,b3]) y6 vs [f]:=hN.slv (λb hb=>by
  have:=hT.size;rcases Xd.1 hb with h|h
  exact (ac.ob_le b h).2;simp at h;omega) rfl (by simp) (by simp [maxLen])
 have hU:=Z5.stp hN;clear hN;replace ac:=ac.up hU;replace e3:=e3.up hU;replace hT:=hT.trans hU.mn;clear hU;focus repeat'(first|refine D1 ?_|omega|refine Z6 rfl rfl rfl rfl (λhg=>?_) (λhg=>?_)|(refine Z2 rfl rfl rfl rfl (λhg=>?_) (λhg=>?_)<;>refine D1 ?_)|fail)
 refine Zaf rfl trivial (ZI (α:=Fct) (X:=[b2,b3]) (base:=w9.heap.size) rfl (by decide) rfl rfl ac eQ (Xl (Xt _ (show fs.length+[f].length<=10 by simp;omega)) (by decide)) (by simp [maxLen];omega) (by have:=hT.size;omega)) rfl rfl ?_;rintro fv' y7 ⟨aK,hU,eO⟩;have bo:=λb hb=>ac.ob_le b hb;replace e3:=e3.ext hU (λh=>by have:=bo _ h;omega);replace hT:=hT.own hU (λb hb=>.inr (bo b hb).1);clear hU;obtain ⟨pv,kv,rfl,-⟩:=id (Row.slv (X:=[b2,b3]) aK (λb hb=>by simp at hb;omega));refine QD ?_;refine J2 rfl trivial (Zs (u:=.slice pv (fs++[f]).length kv) rfl rfl rfl rfl e3 (show (0:Nat)<19 by decide)) rfl ?_;rintro _ y8 ⟨hU,e3⟩;replace e3:Blk y8 b3 49 (Jh C { R with fv:=.slice pv (fs++[f]).length kv }):=e3;replace hT:=hT.own hU (λb hb=>.inl hb);replace aK:=aK.keep hU (λb hb h=>by simp only [Xn] at hb;subst hb;have:=(aK.ob_le _ h).1;omega);clear hU;refine QD ?_;refine QO ?_;exact Jj (j+1,.slice pv (fs++[f]).length kv,fs++[f]) ⟨rfl,rfl,rfl,rfl,trivial⟩ ⟨by dsimp only;omega,by simp [ai],λz hz=>by
  rcases Xd.1 hz with h|h
  exact aF z h;simp only [Xn] at h;subst h;exact hf,λk hk=>by
  dsimp only at hk ⊢;rw [List.getElem_append];split;exact kK k _;have:k=j:=by simp at hk;omega
  subst this;simp only [List.getElem_singleton];omega,aK,e3,hT⟩ (by dsimp only;omega)
 . as_aux_lemma=>
   have nK:Z5G [b2,b3] lv l { C with fcts:=fs } { R with fv:=fv } y2:={ dZ.ext hT.mn with ff:=Row.slv (X:=[b2,b3]) ac (λb hb=>by simp at hb;omega) }
   have d7:Z83 { C with fcts:=fs }:=⟨by dsimp only;omega,aF,kK,ap.rl,ap.ro,ap.al,ap.ao,ap.cl,ap.co,ap.sl,ap.so,ap.cal,ap.court,ap.today⟩
   replace e2:=e2.ext hT (by simp;omega);replace hS:=hS.ow hT;replace l2:=e2.lt;replace l3:=e3.lt;replace mo:({ C with fcts:=fs }:Cas).ruls=[]:=mo;replace iJ:({ C with fcts:=fs }:Cas).atts=[]:=iJ;replace iK:({ R with fv:=fv }:Z0U).rv=.N:=iK;replace iu:({ R with fv:=fv }:Z0U).av=.N:=iu;clear dZ ap hT ac bp aF kK qN dV ai;replace e3:Blk y2 b3 49 (Jh { C with fcts:=fs } { R with fv:=fv }):=e3;generalize ({ C with fcts:=fs }:Cas)=C at *;generalize ({ R with fv:=fv }:Z0U)=R at *;refine QO ?_;refine CL (Z07 lv l 80 _ bK) ?_;rintro v1 z1 ⟨h1,rfl⟩;repeat'(first|refine W1 ?_|omega|refine VG ?_ ?_<;>intro hg|refine VC ?_ ?_<;>intro hc)
   refine CM (ZN rfl) (ZbF [b2,b3] v1 _ _ (λb hb=>by simp at hb;omega) h1 (da 80)) ?_;rintro gv z2 ⟨rs,h4,ar,mq,hT⟩;have nL:=nK.ext hT.mn;replace e2:=e2.up hT;replace e3:=e3.up hT;replace hS:=hS.trans hT;replace l2:=e2.lt;replace l3:=e3.lt;clear nK hT h1 bK;have oH:(rs.map RuleM.rul).length=rs.length:=X1 ..;have ko:=mq.max;refine QO ?_
   refine ZC (σ:=Nat×Value×List Cr) (λq=>[(0,lv),(2,pQ b2),(3,pQ b3),(5,gv),(6,.I (q.1:Int))])
    (λq W=>q.1<=rs.length/\q.2.2.length<=q.1/\(∀ x∈q.2.2,∃ r:RuleM,Z4Y r/\Z1p r.rul=0/\x=crF r.rul)/\Row [b2,b3] W z2.heap.size 27 q.2.1 q.2.2/\Blk W b3 49 (Jh C { R with rv:=q.2.1 })/\Stp [b3] z2 W) (λq=>rs.length - q.1) (0,.N,[])
    ⟨rfl,rfl,rfl,rfl,rfl,trivial⟩ ⟨by omega,Xq _,by simp,Row.nil,by rw [<- iK];exact e3,Stp.refl _ _⟩ ?_
   clear e3;rintro ⟨j,rv,qs⟩ y1 ⟨hj,ai,aF,ac,e3,hT⟩;dsimp only at hj ai aF ac e3 ⊢;have bp:=λb hb=>ac.ob_le b hb;have fM:SlV [b2,b3] y1 gv (rs.map RuleM.rul):=mq.ext hT (by simp) (λ_ h=>.inl h);by_cases hlt:j<rs.length;have bK:j<(rs.map RuleM.rul).length:=by omega
   have hG:=ar _ (Xb hlt);have nM:(rs.map RuleM.rul)[j]=rs[j].rul:=by simp
   obtain ⟨ka,kb,mr,eR,lW⟩:=Zkm fM bK;rw [nM] at mr eR;have db:ZH rs[j].cond<=1000:=Xl hG.cond.size (by decide);have lD:ZH rs[j].due<=1000:=Xl hG.due.size (by decide);refine QO ?_;refine Zf (Z9b rfl rfl fM bK lW) rfl ?_;rw [nM];refine CM (ZN rfl) (Zbe _ rs[j].rul _ ⟨ka,kb,rfl,mr.wk (by simp),eR.wk (by simp)⟩ db lD) ?_;rintro _ y2 ⟨cv,rfl,aT,hU⟩;obtain ⟨k1,d1,rfl,bj,bi⟩:=aT (ob rv++[b2,b3]) (λb hb=>by
    have:=hT.size;rcases Xd.1 hb with h|h
    exact (bp b h).2;simp at h;omega)
   clear aT fM mr eR lW;replace ac:=ac.up hU;replace e3:=e3.up hU;replace hT:=hT.trans hU.mn;clear hU;refine W ?_;have rS:=hT.size;refine Z1 Z9 rfl ?_;rintro _ y3 ⟨b7,rfl,nE,e7,hU⟩;have n37:b3≠b7:=by have:=e3.lt;omega
   have bo:=λb hb=>ac.ob_le b hb;replace ac:=ac.ext (X':=[b2,b3,b7]) hU (by simp) (λb hb=>by simp at hb ⊢;omega);replace e3:=e3.up hU;have nb7:∀ b∈b7 :: (ob rv++[b2,b3]),b∈ob rv++[b2,b3]\/y2.heap.size<=b:=λb hb=>by
    rcases Xg.1 hb with rfl|h
    exact .inr nE;exact .inl h
   replace bj:=bj.ext hU (by simp) nb7;replace bi:=bi.ext hU (by simp) nb7;replace hT:=hT.trans hU.mn;clear hU;refine SB (us:=crC (crF rs[j].rul) k1 d1) (Z1C bj bi) e7 ?_;rintro _ y4 ⟨hU,e7⟩;replace ac:=ac.ext (X':=[b2,b3]) hU (λb hb=>by
    simp only [Xn] at hb;subst hb;exact ⟨by simp,λh=>by have:=(bo _ h).2;omega⟩) (λb hb=>.inl (by simp at hb ⊢;omega))
   replace e3:=e3.ext hU (by simpa using n37);replace bj:=bj.ext (X':=ob rv++[b2,b3]) hU (by simp) (λb hb=>.inl (XW _ hb));replace bi:=bi.ext (X':=ob rv++[b2,b3]) hU (by simp) (λb hb=>.inl (XW _ hb));replace hT:=hT.ow hU;clear hU;by_cases he:Z1p rs[j].rul=0;refine QO ?_;have zT:=hT.size;refine APG (X:=[b2,b3]) (base:=z2.heap.size) (crF rs[j].rul) ac (λb hb=>by simp at hb;omega) (by omega) ⟨k1,d1,rfl,bj,bi⟩ (Xl (Xt _ (show qs.length+1<=10 by omega)) (by decide)) (by simp only [maxLen];omega) λv1 rv' y5 aK hU eO=>?_
   replace e3:=e3.ext hU (λh=>by have:=(bo _ h).1;omega);replace hT:=hT.own hU (λb hb=>.inr (bo b hb).1);clear hU;obtain ⟨pv,kv,rfl,-⟩:=id (Row.slv (X:=[b2,b3]) aK (λb hb=>by simp at hb;omega));refine QO ?_;refine Zi (Zs (u:=.slice pv (qs++[crF rs[j].rul]).length kv) rfl rfl rfl rfl e3 (show (1:Nat)<19 by decide)) ?_;rintro _ y6 ⟨hU,e3⟩;replace e3:Blk y6 b3 49 (Jh C { R with rv:=.slice pv (qs++[crF rs[j].rul]).length kv }):=e3;replace hT:=hT.own hU (λb hb=>.inl hb);replace aK:=aK.ext (X':=[b2,b3]) hU (λb hb=>by
    simp only [Xn] at hb;subst hb;exact ⟨by simp,λh=>by have:=(aK.ob_le _ h).1;omega⟩) (λb hb=>.inl hb)
   clear hU;refine QO ?_;exact Jj (j+1,.slice pv (qs++[crF rs[j].rul]).length kv,qs++[crF rs[j].rul]) ⟨rfl,rfl,rfl,rfl,rfl,trivial⟩ ⟨by dsimp only;omega,by simp;omega,λz hz=>by
    rcases Xd.1 hz with h|h
    exact aF z h;simp only [Xn] at h;subst h;exact ⟨rs[j],hG,he,rfl⟩,aK,e3,hT⟩ (by dsimp only;omega)
   refine QO ?_;exact QL (j+1,rv,qs) ⟨by dsimp only;omega,by dsimp only;omega,aF,ac,e3,hT⟩ (by dsimp only;omega)
   . as_aux_lemma=>
     refine QO ?_;have jU:Z5G [b2,b3] lv l { C with ruls:=qs } { R with rv:=rv } y1:={ nL.ext hT.mn with rr:=Row.slv (X:=[b2,b3]) ac (λb hb=>by simp at hb;omega) }
     have d8:Z83 { C with ruls:=qs }:=⟨d7.fl,d7.fo,d7.en,by dsimp only;omega,aF,d7.al,d7.ao,d7.cl,d7.co,d7.sl,d7.so,d7.cal,d7.court,d7.today⟩
     replace e2:=e2.ext hT (by simp;omega);replace hS:=hS.ow hT;replace l2:=e2.lt;replace l3:=e3.lt;replace iJ:({ C with ruls:=qs }:Cas).atts=[]:=iJ;replace iu:({ R with rv:=rv }:Z0U).av=.N:=iu;replace e3:Blk y1 b3 49 (Jh { C with ruls:=qs } { R with rv:=rv }):=e3;clear nL d7 hT ac bp aF mo iK ai fM mq;generalize ({ C with ruls:=qs }:Cas)=C at *;generalize ({ R with rv:=rv }:Z0U)=R at *;have bK:SlV [] y1 lv l:=jU.li.wk (by simp);refine CL (Z07 lv l 30 _ bK) ?_;rintro v3 u1 ⟨h3,rfl⟩;refine QO ?_;refine CL (Z07 lv l 30 _ bK) ?_;rintro v4 u2 ⟨nN,rfl⟩;have kC:=h3.max;have qO:=nN.max;refine QO ?_;refine Zf (Z1v (r:=min 4 (l.drop 30).length) rfl h3 rfl (by omega) (by omega)) rfl ?_;have h5:=h3.slc (l:=0) (r:=min 4 (l.drop 30).length) (by omega) (by omega);have nO:∀ a∈((l.drop 30).take (min 4 (l.drop 30).length)).drop 0,I64 a:=λa h=>da 30 a (Yay (Yae h));have nP:(((l.drop 30).take (min 4 (l.drop 30).length)).drop 0).length<=4:=by simp only [X4,XA];omega
     refine CL (Z7Z _ _ _ h5 nO nP) ?_;rintro sv u3 ⟨xs,nQ,nR,iU⟩;have mu:SlV [b2,b3] u3 sv xs:=iU.slv (λb hb=>by simp at hb;omega);have hT:=iU.2;replace jU:=jU.ext hT.mn;replace e2:=e2.up hT;replace e3:=e3.up hT;replace hS:=hS.trans hT;clear hT h3 nN h5 nO nP iU kC qO bK;obtain ⟨ps,ks,rfl,-⟩:=id mu;refine QO ?_;refine Zi (Zs (u:=.slice ps xs.length ks) rfl rfl rfl rfl e3 (show (4:Nat)<19 by decide)) ?_;rintro _ u4 ⟨hT,e3⟩;replace e3:Blk u4 b3 49 (Jh { C with stys:=xs } { R with sv:=.slice ps xs.length ks }):=e3;have nT:Z5G [b2,b3] lv l { C with stys:=xs } { R with sv:=.slice ps xs.length ks } u4:={ jU.ext hT.mn with ss:=mu.ext hT (by simp) (λ_ h=>.inl h) }
     have d9:Z83 { C with stys:=xs }:=⟨d8.fl,d8.fo,d8.en,d8.rl,d8.ro,d8.al,d8.ao,d8.cl,d8.co,nQ,nR,d8.cal,d8.court,d8.today⟩
     replace e2:=e2.ext hT (by simp;omega);replace hS:=hS.ow hT;replace l2:=e2.lt;replace l3:=e3.lt;replace iJ:({ C with stys:=xs }:Cas).atts=[]:=iJ;replace iu:({ R with sv:=.slice ps xs.length ks }:Z0U).av=.N:=iu;clear jU d8 hT mu nQ nR;generalize ({ C with stys:=xs }:Cas)=C at *;generalize ({ R with sv:=.slice ps xs.length ks }:Z0U)=R at *;refine QO ?_
     refine ZC (σ:=Nat×Value×List Atp) (λq=>[(0,lv),(2,pQ b2),(3,pQ b3),(9,.I (q.1:Int))])
      (λq W=>q.1<=4/\q.2.2.length=q.1/\(∀ x∈q.2.2,Zek C.crrs.length x)/\Row [b2,b3] W u4.heap.size 32 q.2.1 q.2.2/\Blk W b3 49 (Jh C { R with av:=q.2.1 })/\Stp [b3] u4 W) (λq=>5 - q.1) (0,.N,[])
      ⟨rfl,rfl,rfl,rfl,trivial⟩ ⟨by decide,rfl,by simp,Row.nil,by rw [<- iu];exact e3,Stp.refl _ _⟩ ?_
     clear e3;rintro ⟨j,av,as_⟩ y1 ⟨hj,ai,aF,ac,e3,hT⟩;dsimp only at hj ai aF ac e3 ⊢;have bp:=λb hb=>ac.ob_le b hb;have iL:=nT.ext hT.mn;have bK:SlV [] y1 lv l:=iL.li.wk (by simp);have cw:=iL.cc;have bD:=d9.cl;have mv:=cw.max;refine QO ?_;refine CM (ZQ rfl rfl rfl) (ZB [] _ l 12 5 _ (by decide) (by unfold I64;omega) bK hl) ?_;rintro _ y2 ⟨q,rfl,hq,hU⟩;replace ac:=ac.up hU;replace e3:=e3.up hU;replace bK:=bK.up hU;replace cw:=cw.up hU;replace hT:=hT.trans hU.mn;clear hU iL;obtain ⟨pc,kc,aT,-⟩:=id cw;by_cases hlt:(j:Int)<(q:Int)
     . as_aux_lemma=>
       have qP:j+1<=4:=by omega
       have mw:5 - (j+1)<5 - j:=by omega
       refine QO ?_;refine CM (ZQ rfl rfl rfl) (ZB [] _ l (13+(j:Int)) 1000000 _ (by decide) (by unfold I64;omega) bK hl) ?_;rintro _ y3 ⟨n,rfl,hn,hU⟩;replace ac:=ac.up hU;replace e3:=e3.up hU;replace bK:=bK.up hU;replace cw:=cw.up hU;replace hT:=hT.trans hU.mn;clear hU;refine QO ?_;have r1:0<=(n:Int) % 16/\(n:Int) % 16<=15:=by omega
       have r2:0<=(n:Int) / 16 % 3/\(n:Int) / 16 % 3<=2:=by omega
       have r3:0<=(n:Int) / 48 % (C.crrs.length:Int)/\(n:Int) / 48 % (C.crrs.length:Int)<C.crrs.length:=⟨YaW _ (by omega),YaJ _ (by omega)⟩
       have r4:739616<=739616+(n:Int) / 768 % 40/\739616+(n:Int) / 768 % 40<=739655:=by omega
       generalize (n:Int) % 16=a1 at r1 ⊢;generalize (n:Int) / 16 % 3=a2 at r2 ⊢;generalize (n:Int) / 48 % (C.crrs.length:Int)=a3 at r3 ⊢;generalize 739616+(n:Int) / 768 % 40=a4 at r4 ⊢;refine Za rfl (Zel a1 a2 a3 a4) rfl ?_;have zT:=hT.size;refine Z1 Z9 rfl ?_;rintro _ y4 ⟨b,rfl,hb,e4,hU⟩;have n3:b3≠b:=by have:=e3.lt;omega
       have bo:=λb hb=>ac.ob_le b hb;replace ac:=ac.ext (X':=[b2,b3,b]) hU (by simp) (λc hc=>by simp at hc ⊢;omega);replace e3:=e3.up hU;replace bK:=bK.ext (X':=[b]) hU (by simp) (λc hc=>.inr (by simp at hc;omega));replace cw:=cw.ext (X':=[b]) hU (by simp) (λc hc=>.inr (by simp at hc;omega));replace hT:=hT.trans hU.mn;clear hU;refine SB (us:=atC ⟨a1,a2,a3,a4,[]⟩ (.N)) (ZaF (by rfl)) e4 ?_;rintro _ y5 ⟨hU,e4⟩;replace e3:=e3.ext hU (by simpa using n3);replace ac:=ac.ext (X':=[b2,b3,b]) hU (λc hc=>by
        simp only [Xn] at hc;subst hc;exact ⟨by simp,λh=>by have:=(bo _ h).2;omega⟩) (λc hc=>.inl hc)
       replace bK:=bK.ext (X':=[b]) hU (by simp) (λc hc=>.inl hc);replace cw:=cw.ext (X':=[b]) hU (by simp) (λc hc=>.inl hc);replace hT:=hT.ow hU;clear hU;refine QO ?_
       refine JI (σ:=Value×List Rtn) (λq=>[(0,lv),(2,pQ b2),(3,pQ b3),(9,.I (j:Int)),(11,pQ b)])
        (λq W=>(q.2.length<=3/\∀ x∈q.2,ZaB C.crrs.length x)/\Blk W b 32 (atC ⟨a1,a2,a3,a4,q.2⟩ q.1)/\Row [b2,b3] W u4.heap.size 32 av as_/\SlV (ob av++[b2,b3]) W q.1 q.2/\Blk W b3 49 (Jh C { R with av:=av })/\Stp [b3] u4 W) ?_ ?_
       . as_aux_lemma=>
         refine ZDr 20 [] [19] [(0,0),(1,0),(2,0),(3,0),(5,0),(6,0),(7,0),(8,0),(13,0),(14,1),(15,0),(16,1),(4,2),(9,2),(10,0),(11,0),(12,0),(17,2),(18,0),(19,2)] (λw1 ae=>?_);replace ac:=ac.up ae;replace e3:=e3.up ae;replace e4:=e4.up ae;replace bK:=bK.up ae;replace cw:=cw.up ae;replace hT:=hT.trans ae.mn;clear ae;have mx:=bK.wk (X':=[]) (by simp);have kL:=Z07 lv l (18+3 * j) _ mx;have lR:((18+3 * j:Nat):Int)=18+3 * (j:Int):=by omega
         rw [lR] at kL;refine QD ?_;refine DC kL (λ_ _ h=>by rw [h.2];exact Stp.refl _ _) ?_;rintro v5 u5 ⟨h5,rfl⟩;repeat'(first|refine D1 ?_|omega|refine Z6 rfl rfl rfl rfl (λhg=>?_) (λhg=>?_)|(refine Z2 rfl rfl rfl rfl (λhg=>?_) (λhg=>?_)<;>refine D1 ?_)|fail)
         refine DC kL (λ_ _ h=>by rw [h.2];exact Stp.refl _ _) ?_;rintro v6 u6 ⟨h6,rfl⟩;clear kL;have rT:=h5.max;refine QD ?_;refine Zy rfl trivial (λ_=>Z1v (r:=min 3 (l.drop (18+3 * j)).length) rfl h5 rfl (by omega) (by omega)) rfl ?_;have h7:=h5.slc (l:=0) (r:=min 3 (l.drop (18+3 * j)).length) (by omega) (by omega);have nU:∀ a∈((l.drop (18+3 * j)).take (min 3 (l.drop (18+3 * j)).length)).drop 0,I64 a:=λa h=>da _ a (Yay (Yae h));have nV:(((l.drop (18+3 * j)).take (min 3 (l.drop (18+3 * j)).length)).drop 0).length<=3:=by simp only [X4,XA];omega
         repeat'(first|refine D1 ?_|omega|refine Z6 rfl rfl rfl rfl (λhg=>?_) (λhg=>?_)|(refine Z2 rfl rfl rfl rfl (λhg=>?_) (λhg=>?_)<;>refine D1 ?_)|fail)
         refine Z7 rfl trivial (Z4 rfl (ZQ rfl rfl rfl) (Z80 _ R.cv _ C.crrs a4 _ h7 nU nV (cw.wk (by simp)) bD r4)) (λ_ _ h=>h.choose_spec.2.2.2) rfl ?_;rintro rv u7 ⟨rs7,dc,jV,my⟩;have hU:=my.2;have au:SlV (b :: (ob av++[b2,b3])) u7 rv rs7:=my.slv (λc hc=>by
          have:=hT.size;have:=e4.lt;rcases Xg.1 hc with rfl|hc
          omega;rcases Xd.1 hc with h|h
          have:=ac.ob_le c h;omega;simp at h;omega)
         replace ac:=ac.up hU;replace e3:=e3.up hU;replace e4:=e4.up hU;replace hT:=hT.trans hU.mn;clear hU my h7 nU nV h5 h6;obtain ⟨pr,kr,rfl,-⟩:=id au;refine QD ?_;refine J2 rfl trivial (Zs (u:=.slice pr rs7.length kr) rfl rfl rfl rfl e4 (show (4:Nat)<5 by decide)) rfl ?_;rintro _ u8 ⟨hU,e4⟩;replace e4:Blk u8 b 32 (atC ⟨a1,a2,a3,a4,rs7⟩ (.slice pr rs7.length kr)):=e4;replace e3:=e3.ext hU (by simpa using n3);have cT:=λb hb=>ac.ob_le b hb;replace ac:=ac.ext (X':=[b2,b3]) hU (λc hc=>by
          simp only [Xn] at hc;subst hc;exact ⟨by simp,λh=>by have:=(bo _ h).2;omega⟩) (λc hc=>.inl (by simp at hc ⊢;omega))
         replace hT:=hT.ow hU;refine QD ?_;exact QT (.slice pr rs7.length kr,rs7) ⟨⟨dc,jV⟩,e4,ac,au.ext hU (by simp) (λc hc=>.inl (XW _ hc)),e3,hT⟩
       . clear ac e3 e4 hT bK cw
         as_aux_lemma=>
         rintro ⟨rv,rs7⟩ u8 ⟨⟨dc,jV⟩,e4,ac,au,e3,hT⟩;dsimp only at dc jV e4 au;have mz:Zek C.crrs.length (⟨a1,a2,a3,a4,rs7⟩:Atp):=⟨r1,r2,r3,r4,dc,jV⟩
         clear r1 r2 r3 r4 dc jV hn mv bD;have cT:=λb hb=>ac.ob_le b hb;have zT8:=hT.size;have dz:=au.max;refine QO ?_;refine APG (X:=[b2,b3]) (base:=u4.heap.size) (⟨a1,a2,a3,a4,rs7⟩:Atp) ac (λb hb=>by simp at hb;omega) (by omega) ⟨rv,rfl,au⟩ (Xl (Xt _ (show as_.length+1<=10 by omega)) (by decide)) (by simp only [maxLen];omega) λv1 av' u9 aK hU eO=>?_
         replace e3:=e3.ext hU (λh=>by have:=(cT _ h).1;omega);replace hT:=hT.own hU (λb hb=>.inr (cT b hb).1);clear hU;obtain ⟨pv,kv,rfl,-⟩:=id (Row.slv (X:=[b2,b3]) aK (λb hb=>by simp at hb;omega));refine QO ?_;refine Zi (Zs (u:=.slice pv (as_++[(⟨a1,a2,a3,a4,rs7⟩:Atp)]).length kv) rfl rfl rfl rfl e3 (show (2:Nat)<19 by decide)) ?_;rintro _ x1 ⟨hU,e3⟩;replace e3:Blk x1 b3 49 (Jh C { R with av:=.slice pv (as_++[(⟨a1,a2,a3,a4,rs7⟩:Atp)]).length kv }):=e3;replace hT:=hT.own hU (λb hb=>.inl hb);replace aK:=aK.ext (X':=[b2,b3]) hU (λc hc=>by
          simp only [Xn] at hc;subst hc;exact ⟨by simp,λh=>by have:=(aK.ob_le _ h).1;omega⟩) (λc hc=>.inl hc)
         clear hU;refine QO ?_;exact Jj (j+1,.slice pv (as_++[(⟨a1,a2,a3,a4,rs7⟩:Atp)]).length kv,as_++[(⟨a1,a2,a3,a4,rs7⟩:Atp)]) ⟨rfl,rfl,rfl,rfl,trivial⟩ ⟨qP,by simp [ai],λz hz=>by
          rcases Xd.1 hz with h|h
          exact aF z h;simp only [Xn] at h;subst h;exact mz,aK,e3,hT⟩ mw
     . as_aux_lemma=>
       have nW:Z5G [b2,b3] lv l { C with atts:=as_ } { R with av:=av } y2:={ nT.ext hT.mn with aa:=Row.slv (X:=[b2,b3]) ac (λb hb=>by simp at hb;omega) }
       have nX:Z83 { C with atts:=as_ }:=⟨d9.fl,d9.fo,d9.en,d9.rl,d9.ro,by dsimp only;omega,aF,d9.cl,d9.co,d9.sl,d9.so,d9.cal,d9.court,d9.today⟩
       replace e3:Blk y2 b3 49 (Jh { C with atts:=as_ } { R with av:=av }):=e3;replace e2:=e2.ext hT (by simp;omega);replace hS:=hS.ow hT;generalize ({ C with atts:=as_ }:Cas)=D at *;generalize ({ R with av:=av }:Z0U)=Q at *;refine QO ?_;refine SB (us:=Jh D Q) nW.cell e2 ?_;rintro _ x2 ⟨hU,e2⟩;have fO:=nW.ext hU.mn;have ak:=hS.ow hU;refine W ?_;refine ZP rfl rfl rfl e2 rfl ?_;exact .mk ⟨D,Q,rfl,⟨fO.ff.wk (by simp),fO.rr.wk (by simp),fO.aa.wk (by simp),fO.cc.wk (by simp),fO.ss.wk (by simp),⟨fO.ho.wk (by simp),fO.clo.wk (by simp),hL.up ak,hM.up ak,nX.cal.ok⟩,fO.one⟩,nX,ak,fO.zon.ext (Stp.refl [] _) (by simp) (by simp)⟩
theorem Z6f.lt {l:List Fct} (h:Z6f l) {i j:Nat} (hi:i<j) (hj:j<l.length):(l[i]'(by omega)).entry<l[j].entry:=by
 have h1:=h i (by omega);have h2:=h j hj;omega
def ltr (i:Nat) (c:Int):Prop:=(97<=c/\c<=122)\/(48<=c/\c<=57/\i≠0)
instance (i:Nat) (c:Int):Decidable (ltr i c):=by unfold ltr;infer_instance
def Z1O (s:Str):Bool:=decide ((∀ i,i<s.length->ltr i (ZU s i))/\s≠[]/\s.length<=12)
theorem Zem (s:Str) (w) (hm:(s.length:Int)<=maxLen):CC 139 #[str s] w λr w'=>r=.B (Z1O s)/\Stp [] w w':=by
 simp only [maxLen] at hm;refine cW1 49 Tryz.func139 ?_;refine W ?_;refine LP (σ:=Nat) (λi=>[(0,str s),(7,.I (s.length:Int)),(8,.I (i:Int))]) (λi w'=>i<=s.length/\Stp [] w w'/\∀ j,j<i->ltr j (ZU s j)) (λi=>s.length - i) 0 ⟨Xo _,Stp.refl _ _,λj h=>absurd h (Xs _)⟩ ?_;rintro i w2 ⟨hi,hS,ar⟩
 try dsimp only at hi ar ⊢
 by_cases ke:¬ s.length<=i
 . have aR:¬ ltr i (ZU s i)->Z1O s=false:=λh=>decide_eq_false (λk=>h (k.1 i (by omega)))
   have bQ:ltr i (ZU s i)->∀ j,j<i+1->ltr j (ZU s j):=λh j hj=>by
    by_cases e:j=i;subst e;exact h;exact ar j (by omega)
   generalize dU:ZU s i=b at aR bQ;have fY:(97<=b/\b<=122)->ltr i b:=.inl;have eW:(48<=b/\b<=57/\i≠0)->ltr i b:=.inr;have eC:¬ (97<=b/\b<=122)->¬ (48<=b/\b<=57/\i≠0)->¬ ltr i b:=λh1 h2 h=>h.elim h1 h2;subst dU;by_cases c1:97<=ZU s i;all_goals by_cases c2:ZU s i<=122
   all_goals by_cases c3:48<=ZU s i
   all_goals by_cases c4:ZU s i<=57
   all_goals by_cases c5:(i:Int)=0
   all_goals try omega
   all_goals
    refine QO ?_;refine ZDr 22 [] [] [(0,0),(1,0),(2,0),(3,0),(4,0),(5,0),(6,0),(7,0),(8,0),(9,0),(10,0),(11,0),(12,0),(13,0),(14,0),(15,0),(16,0),(17,0),(18,0),(19,0),(20,0),(21,0)] (λw1 ae=>?_);have aE:=hS.trans ae;refine QD ?_;refine QO ?_
   all_goals first
    | exact QL (i+1) ⟨by omega,aE,bQ (by first|exact fY ⟨c1,c2⟩|exact eW ⟨c3,c4,by omega⟩)⟩ (by omega)
    | (refine RU ?_
       exact ⟨by rw [aR (eC (by omega) (by omega))],aE⟩)
 obtain rfl:i=s.length:=by omega
 by_cases h0:s=[]
 subst h0;refine RT ?_;exact ⟨rfl,hS⟩;by_cases ei:s.length<=12
 . (refine QP ?_ ?_<;>intro hg)
   all_goals try contradiction
   all_goals
    refine RU ?_;exact ⟨by rw [show Z1O s=true from decide_eq_true ⟨ar,h0,ei⟩,decide_eq_true (by omega)],hS⟩
 . (refine QP ?_ ?_<;>intro hg)
   all_goals try contradiction
   all_goals
    refine RU ?_;exact ⟨by rw [show Z1O s=false from decide_eq_false (λh=>ei h.2.2),decide_eq_false (by omega)],hS⟩
theorem Z6T (n m:Int) (w):CC 93 #[.I n,.I m] w λr w'=>r=.B (decide (0<=n/\n<m))/\Stp [] w w':=by
 refine cW2 12 Tryz.func93 ?_
 (refine QP ?_ ?_<;>intro hg)
 refine RU ?_;exact ⟨by congr 1;rw [decide_eq_decide];exact ⟨λh=>⟨by omega,h⟩,λh=>h.2⟩,Stp.refl _ _⟩;refine RU ?_;exact ⟨by congr 1;symm;exact decide_eq_false (λh=>by omega),Stp.refl _ _⟩
def VOk (f:Fct):Prop:=(0<=f.entry/\f.entry<65536)/\Z1O f.kind=true/\(0<=f.day/\f.day<3652059)/\(0<=f.by_/\f.by_<64)/\(0<=f.to_/\f.to_<64)/\-2147483647<=f.amt/\f.amt<=2147483647
instance (f:Fct):Decidable (VOk f):=by unfold VOk;infer_instance
theorem ZbI (f:Fct) (w) (hm:(f.kind.length:Int)<=maxLen):CC 94 #[aG f] w λr w'=>r=.B (decide (VOk f))/\Stp [] w w':=by
 refine cW1 36 Tryz.func94 ?_;refine W ?_;refine BX (Stp.refl [] w) λb1 w1 h1 e1 _ hS=>?_;replace e1:Blk w1 b1 24 (Z8.enc f):=e1;refine QO ?_;refine CP hS (Z6T f.entry 65536 _) λw3 hT hS=>?_;replace e1:=e1.up hT;clear hT;by_cases h0:(0<=f.entry/\f.entry<65536)
 rotate_left
 rw [decide_eq_false h0];refine RT ?_;exact ⟨by rw [decide_eq_false (λh=>h0 (h.1))],hS⟩;rw [decide_eq_true h0];refine QO ?_;refine CP hS (Zem f.kind _ hm) λw4 hT hS=>?_;replace e1:=e1.up hT;clear hT;by_cases h1:(Z1O f.kind=true)
 rotate_left
 rw [Yab.2 h1];refine RT ?_;exact ⟨by rw [decide_eq_false (λh=>h1 (h.2.1))],hS⟩;rw [h1];refine QO ?_;refine CP hS (Z6T f.day 3652059 _) λw5 hT hS=>?_;replace e1:=e1.up hT;clear hT;by_cases h2:(0<=f.day/\f.day<3652059)
 rotate_left
 rw [decide_eq_false h2];refine RT ?_;exact ⟨by rw [decide_eq_false (λh=>h2 (h.2.2.1))],hS⟩;rw [decide_eq_true h2];refine QO ?_;refine CP hS (Z6T f.by_ 64 _) λw6 hT hS=>?_;replace e1:=e1.up hT;clear hT;by_cases h3:(0<=f.by_/\f.by_<64)
 rotate_left
 rw [decide_eq_false h3];refine RT ?_;exact ⟨by rw [decide_eq_false (λh=>h3 (h.2.2.2.1))],hS⟩;rw [decide_eq_true h3];refine QO ?_;refine CP hS (Z6T f.to_ 64 _) λw7 hT hS=>?_;replace e1:=e1.up hT;clear hT;by_cases h4:(0<=f.to_/\f.to_<64)
 rotate_left
 rw [decide_eq_false h4];refine RT ?_;exact ⟨by rw [decide_eq_false (λh=>h4 (h.2.2.2.2.1))],hS⟩;rw [decide_eq_true h4]
 (refine QP ?_ ?_<;>intro hg)
 all_goals
  refine RU ?_;exact ⟨by
   congr 1;symm
   first
    | (rw [decide_eq_decide];exact ⟨λh=>by have:=h.2.2.2.2.2;omega,λh=>⟨h0,h1,h2,h3,h4,by omega,by omega⟩⟩)
    | exact decide_eq_false (λh=>by have:=h.2.2.2.2.2;omega),hS⟩
abbrev mkI (a:Int):Value:=.I a
structure Vr0 where
 f:Fct
instance:Z8 Vr0 where
 k:=8
 enc:=λx=>.I 0 :: .B false :: Z8.enc x.f
 len:=λ_=>rfl
 one:=by
  intro x u hu;rcases Xg.1 hu with rfl|hu
  rfl;rcases Xg.1 hu with rfl|hu
  rfl;exact Z8.one x.f u hu
abbrev Z9B (f:Fct):Int:=if VOk f then 0 else 5
theorem Zen (r:Nat) (f:Fct) (w) (hm:(f.kind.length:Int)<=maxLen) (hr:Jq mkI w r []) :
 CC 57 #[.map (some r),aG (⟨f⟩:Vr0),.I 0] w λv w'=>v=.I (Z9B f)/\Stp [r] w w':=by
 have lr:=hr.lt;refine cW3 50 Tryz.func57 ?_;refine W ?_;refine BX (Stp.refl [] w) λb1 w1 h1 e1 _ hS=>?_;replace e1:Blk w1 b1 60 (Z8.enc (⟨f⟩:Vr0)):=e1;replace hr:=hr.up hS;refine QO ?_;refine Zf (Zr rfl rfl e1 (us:=Z8.enc f) rfl rfl) rfl ?_;refine W ?_;refine CP hS (ZbI f _ hm) λw2 hT hS=>?_;replace e1:=e1.up hT;replace hr:=hr.up hT;clear hT;unfold Z9B;by_cases hv:VOk f
 rotate_left
 rw [decide_eq_false hv,if_neg hv];refine RT ?_;exact ⟨rfl,hS.mn⟩;rw [decide_eq_true hv,if_pos hv];refine QO ?_;refine Zi (Z1j (a:=f.entry) rfl rfl rfl hr (by simp)) ?_;rintro _ w3 ⟨kC,hT⟩;refine RT ?_;exact ⟨rfl,hS.mn.trans hT⟩
theorem ZgX (v:Value) (f:Fct) (w) (hm:(f.kind.length:Int)<=maxLen) (hs:SlV [] w v [(⟨f⟩:Vr0)]) :
 CC 56 #[v] w λr w'=>∃ p q,r=.tuple #[p,q,.I (Z9B f)]/\Stp [] w w':=by
 refine cW1 29 Tryz.func56 ?_;refine W ?_;refine Z1 (Z1z mkI) rfl ?_;rintro _ w1 ⟨r,rfl,gr,eE,hS⟩;replace hs:=hs.up hS;refine W ?_;have eA:0 < [(⟨f⟩:Vr0)].length:=by simp
 refine ZC (σ:=Nat) (λk=>[(0,v),(5,.map (some r)),(6,.I 0),(11,v),(12,.I 1),(13,.I (k:Int))])
  (λk W=>k<=1/\(k=0->W=w1)/\(k=1->VOk f)/\Stp [] w W) (λk=>1 - k) 0 ⟨rfl,rfl,rfl,rfl,rfl,rfl,trivial⟩ ⟨by decide,λ_=>rfl,by simp,hS⟩ ?_
 rintro k w2 ⟨hk,fA,bj,ak⟩;have bC:k=0\/k=1:=by omega
 rcases bC with rfl|rfl
 obtain rfl:=fA rfl;clear fA bj ak;have lr:=eE.lt;refine QO ?_;refine Z1 Z9 rfl ?_;rintro _ w3 ⟨b8,rfl,lJ,e8,hT⟩;refine SA (us:=Z8.enc (⟨f⟩:Vr0)) e8 ?_;rintro _ w4 ⟨hU,e8⟩;replace hT:=hT.ow hU;replace eE:=eE.up hT;have aA:=hS.trans hT;have l8:=e8.lt;have n8:b8≠r:=by omega
 clear hU;refine QO ?_;refine CL (Zen r f _ hm eE) ?_;rintro _ w5 ⟨rfl,hU⟩;replace e8:=e8.ext hU (by simpa using n8);have ay:Stp [] w w5:=aA.ow hU;unfold Z9B;by_cases hv:VOk f;rw [if_pos hv];refine QO ?_;exact QL 1 ⟨Xq _,by simp,λ_=>hv,ay⟩ (by decide);rw [if_neg hv];refine RT ?_;exact ⟨_,_,rfl,ay⟩;have hv:=bj rfl;refine RT ?_;exact ⟨_,_,by rw [show Z9B f=0 from if_pos hv],ak⟩
theorem Z9C (v:Value) (f:Fct) (w) (hm:(f.kind.length:Int)<=maxLen) (hs:SlV [] w v [(⟨f⟩:Vr0)]) :
 CC 65 #[v] w λr w'=>r=.I (Z9B f)/\Stp [] w w':=by
 refine cW1 13 Tryz.func65 ?_;refine W ?_;refine CL (ZgX v f _ hm hs) ?_;rintro _ w1 ⟨p,q,rfl,hS⟩;refine RT ?_;exact ⟨rfl,hS⟩
def Z2G:List Int->List Fct->Int
 | _,[]=>0
 | kn,f :: l=>if ¬ VOk f then 5 else if f.entry∈kn then 4 else Z2G (kn++[f.entry]) l
theorem Z3M (kn:List Int) (f:Fct) (l:List Fct):Z2G kn (f :: l)=if ¬ VOk f then 5 else if f.entry∈kn then 4 else Z2G (kn++[f.entry]) l:=rfl
theorem Zeo {κ:Type} [DecidableEq κ] (l:List Fct) (g:Fct->κ) (a:κ):Z1Q (l.map (λx=>(g x,Value.bool true))) a (.B false)=.B (decide (a∈l.map g)):=by
 have:=ZgM (l.map g) a;rw [X8] at this;exact this
theorem ZgY (f:Fct) (w):(Instr.build 60 #[(2,aG f)]).run Tryz.prog w=.ok (aG (⟨f⟩:Vr0)) w:=by kernel_rfl
theorem ZgZ (f:Fct) (w):(Instr.buildSlice 56 1 #[(0,aG (⟨f⟩:Vr0))]).run Tryz.prog w=.ok (.slice (some ⟨w.heap.size,0,none⟩) 1 1) (w.alloc (.cells (Z8.enc (⟨f⟩:Vr0)).toArray 60)):=by kernel_rfl
theorem Z5h (v:Value) (l:List Fct) (w) (hm:∀ f∈l,(f.kind.length:Int)<=maxLen) (hs:SlV [] w v l) :
 CC 26 #[v] w λr w'=>r=.I (Z2G [] l)/\Stp [] w w':=by
 have dz:=hs.max;refine cW1 26 Tryz.func26 ?_;refine W ?_;refine Z1 (Z1z mkI) rfl ?_;rintro _ w1 ⟨r,rfl,gr,eE,hS⟩;have cR:=hs.ext (X':=[r]) hS (by simp) (λb hb=>.inr (by simp at hb;omega));have lr:=eE.lt;refine QO ?_
 refine ZC (σ:=Nat) (λk=>[(3,.map (some r)),(7,v),(8,.I (l.length:Int)),(9,.I (k:Int))])
  (λk W=>k<=l.length/\Jq mkI W r ((l.take k).map (λf=>(f.entry,.B true)))/\Z2G [] l=Z2G ((l.take k).map Fct.entry) (l.drop k)/\Stp [r] w1 W) (λk=>l.length - k) 0 ⟨rfl,rfl,rfl,rfl,trivial⟩ ⟨Xo _,by simpa using eE,by simp,Stp.refl _ _⟩ ?_
 clear eE;rintro k w2 ⟨hk,dk,az,hT⟩;have aJ:=cR.ext (X':=[r]) hT (by simp) (λb hb=>.inl hb);have rU:=hT.size;by_cases hlt:k<l.length
 . have hd:l.drop k=l[k] :: l.drop (k+1):=XI hlt
   have fa:l.take (k+1)=l.take k++[l[k]]:=Xw hlt;have ap:=hm _ (Xb hlt);rw [hd,Z3M] at az;refine QO ?_;refine Z1 Z9 rfl ?_;rintro _ w3 ⟨b5,rfl,kM,e5,hU⟩;refine SA (us:=Z8.enc l[k]) e5 ?_;rintro _ w4 ⟨bZ,e5⟩;replace hU:=hU.ow bZ;replace dk:=dk.up hU;have iv:=hT.trans hU.mn;have l5:=e5.lt;clear bZ hU;refine QO ?_;refine Za rfl (ZgY l[k]) rfl ?_;refine Z1 (Z0 rfl (ZgZ l[k])) rfl ?_;rintro vs w5 hN;have eQ:SlV [] w5 vs [(⟨l[k]⟩:Vr0)]:=hN.slv (by simp) rfl (by simp) (by simp [maxLen]);have hU:=Z5.stp hN;clear hN;replace dk:=dk.up hU;replace e5:=e5.up hU;replace iv:=iv.trans hU.mn;clear hU;refine CP (Stp.refl [] w5) (Z9C vs l[k] _ ap eQ) λw6 hU _=>?_;replace dk:=dk.up hU;replace e5:=e5.up hU;replace iv:=iv.trans hU.mn;clear hU;unfold Z9B;have dv:∀ W,Stp [r] w1 W->Stp [] w W:=λW h=>hS.ow h;by_cases hv:VOk l[k]
   rotate_left
   rw [if_neg hv];rw [if_pos hv] at az;refine RT ?_;exact ⟨by rw [az],dv _ iv⟩;rw [if_pos hv];rw [if_neg (by simpa using hv)] at az;refine QO ?_;refine Zf (Z2q (a:=l[k].entry) rfl rfl dk) rfl ?_;rw [Zeo];by_cases bB:l[k].entry∈(l.take k).map Fct.entry;rw [if_pos bB] at az;rw [decide_eq_true bB];refine RT ?_;exact ⟨by rw [az],dv _ iv⟩;rw [if_neg bB] at az;rw [decide_eq_false bB];refine QO ?_;refine Zi (Z1j (a:=l[k].entry) rfl rfl rfl dk (λp hp=>by
    obtain ⟨x,hx,rfl⟩:=XO.1 hp;exact λh=>bB (XO.2 ⟨x,hx,h⟩))) ?_
   rintro _ w7 ⟨kV,hU⟩;refine QO ?_;exact QL (k+1) ⟨hlt,by rw [fa,XR];exact kV,by rw [az,fa,XR];rfl,iv.trans hU⟩ (by omega)
 obtain rfl:k=l.length:=by omega
 rw [Yar] at az;refine RT ?_;exact ⟨by rw [az];rfl,hS.ow hT⟩
def Z1G (n:Nat) (r:Rtn):Prop:=(0<=r.crr/\r.crr<n)/\((r.kind=1/\(0<=r.lo/\r.lo<=3652058)/\(0<=r.hi/\r.hi<=3652058)/\r.lo<=r.hi)\/(r.kind=2/\r.lo=0/\(0<=r.hi/\r.hi<=3652058))\/(r.kind=3/\r.lo=0/\r.hi=0))
instance (n:Nat) (r:Rtn):Decidable (Z1G n r):=by unfold Z1G;infer_instance
def Z9D (n:Nat) (l:List Rtn):Int:=if 32<l.length then 2 else if ∀ r∈l,Z1G n r then 0 else 5
theorem Z0l (d:Int) (w):CC 158 #[.I d] w λr w'=>r=.B (decide (0<=d/\d<=3652058))/\Stp [] w w':=by
 refine cW1 9 Tryz.func158 ?_
 (refine QP ?_ ?_<;>intro hg)
 refine RU ?_;exact ⟨by congr 1;rw [decide_eq_decide];exact ⟨λh=>⟨by omega,h⟩,λh=>h.2⟩,Stp.refl _ _⟩;refine RU ?_;exact ⟨by congr 1;symm;exact decide_eq_false (λh=>by omega),Stp.refl _ _⟩
theorem Z6U (v cv:Value) (l:List Rtn) (cs:List Crr) (w) (hs:SlV [] w v l) (aT:SlV [] w cv cs) :
 CC 104 #[v,cv] w λr w'=>r=.I (Z9D cs.length l)/\Stp [] w w':=by
 have dz:=hs.max;have bL:=aT.max;unfold Z9D;refine cW2 78 Tryz.func104 ?_;by_cases jX:32<l.length;rw [if_pos jX];refine RT ?_;exact ⟨rfl,Stp.refl _ _⟩;rw [if_neg jX];refine QO ?_
 refine ZC (σ:=Nat) (λk=>[(0,v),(1,cv),(11,v),(12,.I (l.length:Int)),(13,.I (k:Int))])
  (λk W=>k<=l.length/\(∀ i (h:i<l.length),i<k->Z1G cs.length l[i])/\Stp [] w W) (λk=>l.length - k) 0 ⟨rfl,rfl,rfl,rfl,rfl,trivial⟩ ⟨Xo _,λi _ h=>absurd h (Xs _),Stp.refl _ _⟩ ?_
 rintro k w2 ⟨hk,ar,hS⟩;have aJ:=hs.up hS;have bz:=aT.up hS;by_cases hlt:k<l.length;refine QO ?_;refine Z1 Z9 rfl ?_;rintro _ w3 ⟨b6,rfl,iH,e6,hU⟩;refine SA (us:=Z8.enc l[k]) e6 ?_;rintro _ w4 ⟨bZ,e6⟩;replace hU:=hU.ow bZ;replace bz:=bz.up hU;replace hS:=hS.trans hU;clear hU bZ aJ;have bQ:Z1G cs.length l[k]->∀ i (h:i<l.length),i<k+1->Z1G cs.length l[i]:=λhv i h rV=>by
  by_cases e:i=k;subst e;exact hv;exact ar i h (by omega)
 have aR:¬ Z1G cs.length l[k]->(if ∀ r∈l,Z1G cs.length r then (0:Int) else 5)=5:=λh=>if_neg (λg=>h (g _ (Xb hlt)));generalize l[k]=y at *;clear ar;by_cases hv:Z1G cs.length y;replace bQ:=bQ hv;clear aR;unfold Z1G at hv;obtain ⟨⟨g1,g2⟩,⟨k1,g3,g4,g5⟩|⟨k1,g3,g4⟩|⟨k1,g3,g4⟩⟩:=hv;refine QO ?_;refine CP hS (Z0l _ _) λw5 hT hS=>?_;replace e6:=e6.up hT;rw [decide_eq_true g3];refine QO ?_;refine CP hS (Z0l _ _) λw6 hT hS=>?_;replace e6:=e6.up hT;rw [decide_eq_true g4];refine QO ?_;exact QL (k+1) ⟨hlt,bQ,hS⟩ (Xp hlt (Xr k));refine QO ?_;refine CP hS (Z0l _ _) λw5 hT hS=>?_;replace e6:=e6.up hT;rw [decide_eq_true g4];refine QO ?_;exact QL (k+1) ⟨hlt,bQ,hS⟩ (Xp hlt (Xr k));refine QO ?_;exact QL (k+1) ⟨hlt,bQ,hS⟩ (Xp hlt (Xr k))
 . replace aR:=aR hv
   clear bQ;rw [aR];unfold Z1G at hv;repeat'(first|refine W1 ?_|omega|refine VG ?_ ?_<;>intro hg|refine VC ?_ ?_<;>intro hc)
   all_goals try
    refine CP hS (Z0l _ _) λw5 hT hS=>?_;replace e6:=e6.up hT;repeat'(first|refine W1 ?_|omega|refine VG ?_ ?_<;>intro hg|refine VC ?_ ?_<;>intro hc)
   all_goals try
    refine CP hS (Z0l _ _) λw6 hT hS=>?_;replace e6:=e6.up hT;repeat'(first|refine W1 ?_|omega|refine VG ?_ ?_<;>intro hg|refine VC ?_ ?_<;>intro hc)
   all_goals
    refine RU ?_;exact ⟨rfl,hS⟩
 obtain rfl:k=l.length:=by omega
 have hf:(if ∀ r∈l,Z1G cs.length r then (0:Int) else 5)=0:=if_pos (λr hr=>by
  obtain ⟨i,hi,rfl⟩:=Xv hr;exact ar i hi hi)
 rw [hf];refine RT ?_;exact ⟨rfl,hS⟩
def Z5H (n:Nat) (a:Atp):Prop:=(0<=a.entry/\a.entry<65536)/\(0<=a.party/\a.party<64)/\(0<=a.crr/\a.crr<n)/\(0<=a.sent/\a.sent<=3652058)
instance (n:Nat) (a:Atp):Decidable (Z5H n a):=by unfold Z5H;infer_instance
def Z1U (n:Nat) (a:Atp):Int:=if Z5H n a then Z9D n a.rets else 5
def Z2h (n:Nat):List Atp->Int
 | []=>0
 | a :: l=>if Z1U n a≠0 then Z1U n a else Z2h n l
theorem Z6V (rv cv:Value) (a:Atp) (cs:List Crr) (w) (hs:SlV [] w rv a.rets) (aT:SlV [] w cv cs) :
 CC 68 #[.agg (atC a rv).toArray,cv] w λr w'=>r=.I (Z1U cs.length a)/\Stp [] w w':=by
 have bL:=aT.max;unfold Z1U;refine cW2 36 Tryz.func68 ?_;refine W ?_;refine BX (Stp.refl [] w) λb1 w1 h1 e1 _ hS=>?_;replace e1:Blk w1 b1 32 (atC a rv):=e1;have bz:=aT.up hS;have aJ:=hs.up hS;by_cases hv:Z5H cs.length a;rw [if_pos hv];unfold Z5H at hv;obtain ⟨g1,g2,g3,g4⟩:=hv;refine QO ?_;refine CP hS (Z6U rv cv a.rets cs _ aJ bz) λw5 hT hS=>?_;refine RT ?_;exact ⟨rfl,hS⟩
 . rw [if_neg hv]
   unfold Z5H at hv;repeat'(first|refine W1 ?_|omega|refine VG ?_ ?_<;>intro hg|refine VC ?_ ?_<;>intro hc)
   all_goals
    refine RU ?_;exact ⟨rfl,hS⟩
theorem Z6W (v cv:Value) (l:List Atp) (cs:List Crr) (w) (hl:l.length<=65536) (hs:SlV [] w v l) (aT:SlV [] w cv cs) :
 CC 30 #[v,cv] w λr w'=>r=.I (Z2h cs.length l)/\Stp [] w w':=by
 have dz:=hs.max;refine cW2 24 Tryz.func30 ?_;refine QO ?_
 refine ZC (σ:=Nat) (λk=>[(0,v),(1,cv),(11,v),(12,.I (l.length:Int)),(13,.I (k:Int))])
  (λk W=>k<=l.length/\Z2h cs.length l=Z2h cs.length (l.drop k)/\Stp [] w W) (λk=>l.length - k) 0 ⟨rfl,rfl,rfl,rfl,rfl,trivial⟩ ⟨Xo _,rfl,Stp.refl _ _⟩ ?_
 rintro k w2 ⟨hk,az,hS⟩;have aJ:=hs.up hS;have bz:=aT.up hS;by_cases hlt:k<l.length;have hd:l.drop k=l[k] :: l.drop (k+1):=XI hlt;rw [hd] at az;have iw:Z2h cs.length (l[k] :: l.drop (k+1))=if Z1U cs.length l[k]≠0 then Z1U cs.length l[k] else Z2h cs.length (l.drop (k+1)):=rfl
 rw [iw] at az;obtain ⟨cs0,⟨rv,rfl,fc⟩,an⟩:=aJ.cell hlt;refine QO ?_;refine Zf (Z3f rfl rfl aJ hlt ⟨rv,rfl,fc⟩ an) rfl ?_;refine Z1 Z9 rfl ?_;rintro _ w3 ⟨b6,rfl,iH,e6,hU⟩;refine SB (us:=atC l[k] rv) (ZaF fc.one) e6 ?_;rintro _ w4 ⟨bZ,e6⟩;replace hU:=hU.ow bZ;replace bz:=bz.up hU;replace fc:=fc.up hU;replace hS:=hS.trans hU;clear hU bZ an aJ;refine QO ?_;refine CP hS (Z6V rv cv l[k] cs _ fc bz) λw5 hT hS=>?_;by_cases he:Z1U cs.length l[k]=0;rw [he] at az ⊢;refine QO ?_;exact QL (k+1) ⟨hlt,az,hS⟩ (Xp hlt (Xr k));rw [if_pos he] at az;generalize Z1U cs.length l[k]=z at *;refine RT ?_;exact ⟨by rw [az],hS⟩;obtain rfl:k=l.length:=by omega
 rw [Yar] at az;refine RT ?_;exact ⟨by rw [az];rfl,hS⟩
theorem Z5I (n a b:Int) (w):CC 176 #[.I n,.I a,.I b] w λr w'=>r=.B (decide (a<=n/\n<=b))/\w'=w:=by
 refine cW3 15 Tryz.func176 ?_;by_cases h1:n>=a;by_cases h2:n<=b;rw [decide_eq_true ⟨h1,h2⟩];focus repeat'(first|refine W1 ?_|omega|refine VG ?_ ?_<;>intro hg|refine VC ?_ ?_<;>intro hc)
 refine RU ?_;exact ⟨by simp [h2],rfl⟩;rw [decide_eq_false (λh=>h2 h.2)];focus repeat'(first|refine W1 ?_|omega|refine VG ?_ ?_<;>intro hg|refine VC ?_ ?_<;>intro hc)
 refine RU ?_;exact ⟨by simp [h2],rfl⟩;rw [decide_eq_false (λh=>h1 h.1)];focus repeat'(first|refine W1 ?_|omega|refine VG ?_ ?_<;>intro hg|refine VC ?_ ?_<;>intro hc)
 refine RU ?_;exact ⟨rfl,rfl⟩
def Z08 (h:Hol):Bool:=decide (1<=h.month/\h.month<=12)
def Z1H (h:Hol):Bool:=decide (0<=h.wd/\h.wd<=6)
def Z9E (h:Hol):Bool:=decide (1<=h.day/\h.day<=31)
def Z9F (h:Hol):Bool:=decide (1<=h.nth/\h.nth<=5)
def ZbJ (h:Hol):Bool:=decide (-100<=h.off/\h.off<=100)
def JR (h:Hol):Bool:=if h.kind=1 then Z08 h && Z9E h else if h.kind=2 then Z08 h && Z1H h && Z9F h else if h.kind=3 then Z08 h && Z1H h else ZbJ h
def Z1c (h:Hol):Bool:=decide ((1<=h.kind/\h.kind<=4)/\(0<=h.move/\h.move<=2)/\1<=h.first/\h.first<=h.last/\h.last<=9999) && JR h
def Z5J (l:List Hol):Int:=if 100<l.length then 2 else if l.all Z1c then 0 else 5
theorem ZW {α:Type} (f:α->Bool) (l:List α):l.all f=true↔∀ j (h:j<l.length),f l[j]=true:=by
 rw [Xy];exact ⟨λh j hj=>h _ (Xb hj),λh x hx=>by obtain ⟨j,hj,rfl⟩:=Xv hx;exact h j hj⟩
theorem Z0f (n a b:Int) (w):CC 107 #[.I n,.I a,.I b] w λr w'=>r=.B (decide (a<=n/\n<=b))/\Stp [] w w':=
 (Z0k n a b w).mono (by rintro _ _ ⟨v,rfl,h1,rfl⟩;exact ⟨v,rfl,h1,Stp.refl _ _⟩)
theorem Z09 (n a b:Int) (w):CC 176 #[.I n,.I a,.I b] w λr w'=>r=.B (decide (a<=n/\n<=b))/\Stp [] w w':=
 (Z5I n a b w).mono (by rintro _ _ ⟨v,rfl,h1,rfl⟩;exact ⟨v,rfl,h1,Stp.refl _ _⟩)
theorem Zh0 (h:Hol) (w):CC 159 #[aG h] w λr w'=>r=.B (Z08 h && Z9E h)/\Stp [] w w':=by
 refine cW1 11 Tryz.func159 ?_;refine W ?_;refine BX (Stp.refl [] w) λb1 w1 h1 e1 _ hS=>?_;replace e1:Blk w1 b1 122 (Z8.enc h):=e1;repeat'(first|refine W1 ?_|omega|refine VG ?_ ?_<;>intro hg|refine VC ?_ ?_<;>intro hc)
 refine CP hS (Z0f _ _ _ _) λw2 hT hS=>?_;replace e1:=e1.up hT;show WL _ _ _ _ _ ((5,.B (Z08 h)) :: _) _;cases Z08 h;focus repeat'(first|refine W1 ?_|omega|refine VG ?_ ?_<;>intro hg|refine VC ?_ ?_<;>intro hc)
 refine RU ?_;exact ⟨rfl,hS⟩;focus repeat'(first|refine W1 ?_|omega|refine VG ?_ ?_<;>intro hg|refine VC ?_ ?_<;>intro hc)
 refine CP hS (Z0f _ _ _ _) λw3 hT hS=>?_;show WL _ _ _ _ _ ((9,.B (Z9E h)) :: _) _;focus repeat'(first|refine W1 ?_|omega|refine VG ?_ ?_<;>intro hg|refine VC ?_ ?_<;>intro hc)
 refine RU ?_;exact ⟨rfl,hS⟩
theorem Zh1 (h:Hol) (w):CC 166 #[aG h] w λr w'=>r=.B (Z08 h && Z1H h)/\Stp [] w w':=by
 refine cW1 11 Tryz.func166 ?_;refine W ?_;refine BX (Stp.refl [] w) λb1 w1 h1 e1 _ hS=>?_;replace e1:Blk w1 b1 122 (Z8.enc h):=e1;repeat'(first|refine W1 ?_|omega|refine VG ?_ ?_<;>intro hg|refine VC ?_ ?_<;>intro hc)
 refine CP hS (Z0f _ _ _ _) λw2 hT hS=>?_;replace e1:=e1.up hT;show WL _ _ _ _ _ ((5,.B (Z08 h)) :: _) _;cases Z08 h;focus repeat'(first|refine W1 ?_|omega|refine VG ?_ ?_<;>intro hg|refine VC ?_ ?_<;>intro hc)
 refine RU ?_;exact ⟨rfl,hS⟩;focus repeat'(first|refine W1 ?_|omega|refine VG ?_ ?_<;>intro hg|refine VC ?_ ?_<;>intro hc)
 refine CP hS (Z0f _ _ _ _) λw3 hT hS=>?_;show WL _ _ _ _ _ ((9,.B (Z1H h)) :: _) _;focus repeat'(first|refine W1 ?_|omega|refine VG ?_ ?_<;>intro hg|refine VC ?_ ?_<;>intro hc)
 refine RU ?_;exact ⟨rfl,hS⟩
theorem Zh2 (h:Hol) (w):CC 162 #[aG h] w λr w'=>r=.B (Z08 h && Z1H h && Z9F h)/\Stp [] w w':=by
 refine cW1 16 Tryz.func162 ?_;refine W ?_;refine BX (Stp.refl [] w) λb1 w1 h1 e1 _ hS=>?_;replace e1:Blk w1 b1 122 (Z8.enc h):=e1;repeat'(first|refine W1 ?_|omega|refine VG ?_ ?_<;>intro hg|refine VC ?_ ?_<;>intro hc)
 refine CP hS (Z0f _ _ _ _) λw2 hT hS=>?_;replace e1:=e1.up hT;show WL _ _ _ _ _ ((5,.B (Z08 h)) :: _) _;cases Z08 h;focus repeat'(first|refine W1 ?_|omega|refine VG ?_ ?_<;>intro hg|refine VC ?_ ?_<;>intro hc)
 refine RU ?_;exact ⟨rfl,hS⟩;focus repeat'(first|refine W1 ?_|omega|refine VG ?_ ?_<;>intro hg|refine VC ?_ ?_<;>intro hc)
 refine CP hS (Z0f _ _ _ _) λw3 hT hS=>?_;replace e1:=e1.up hT;show WL _ _ _ _ _ ((9,.B (Z1H h)) :: _) _;cases Z1H h;focus repeat'(first|refine W1 ?_|omega|refine VG ?_ ?_<;>intro hg|refine VC ?_ ?_<;>intro hc)
 refine RU ?_;exact ⟨rfl,hS⟩;focus repeat'(first|refine W1 ?_|omega|refine VG ?_ ?_<;>intro hg|refine VC ?_ ?_<;>intro hc)
 refine CP hS (Z0f _ _ _ _) λw4 hT hS=>?_;show WL _ _ _ _ _ ((14,.B (Z9F h)) :: _) _;focus repeat'(first|refine W1 ?_|omega|refine VG ?_ ?_<;>intro hg|refine VC ?_ ?_<;>intro hc)
 refine RU ?_;exact ⟨rfl,hS⟩
theorem Zh3 (h:Hol) (w):CC 168 #[aG h] w λr w'=>r=.B (ZbJ h)/\Stp [] w w':=by
 refine cW1 6 Tryz.func168 ?_;refine W ?_;refine BX (Stp.refl [] w) λb1 w1 h1 e1 _ hS=>?_;replace e1:Blk w1 b1 122 (Z8.enc h):=e1;repeat'(first|refine W1 ?_|omega|refine VG ?_ ?_<;>intro hg|refine VC ?_ ?_<;>intro hc)
 refine CP hS (Z0f _ _ _ _) λw2 hT hS=>?_;repeat'(first|refine W1 ?_|omega|refine VG ?_ ?_<;>intro hg|refine VC ?_ ?_<;>intro hc)
 refine RU ?_;exact ⟨rfl,hS⟩
theorem Z85 (h:Hol) (w):CC 113 #[aG h] w λr w'=>r=.B (Z1c h)/\Stp [] w w':=by
 refine cW1 64 Tryz.func113 ?_;refine W ?_;refine BX (Stp.refl [] w) λb1 w1 h1 e1 _ hS=>?_;replace e1:Blk w1 b1 122 (Z8.enc h):=e1;repeat'(first|refine W1 ?_|omega|refine VG ?_ ?_<;>intro hg|refine VC ?_ ?_<;>intro hc)
 refine CP hS (Z09 _ _ _ _) λw2 hT hS=>?_;replace e1:=e1.up hT;have bad:¬ ((0<=h.move/\h.move<=2)/\1<=h.first/\h.first<=h.last/\h.last<=9999)->Z1c h=false:=λg=>by
  unfold Z1c;rw [decide_eq_false (λg2=>g g2.2),YaG]
 by_cases g1:0<=h.move/\h.move<=2
 case neg=>
  rw [decide_eq_false g1];repeat'(first|refine W1 ?_|omega|refine VG ?_ ?_<;>intro hg|refine VC ?_ ?_<;>intro hc)
  refine RU ?_;exact ⟨by rw [bad (λg=>g1 g.1)],hS⟩
 rw [decide_eq_true g1];repeat'(first|refine W1 ?_|omega|refine VG ?_ ?_<;>intro hg|refine VC ?_ ?_<;>intro hc)
 all_goals try (
  refine RU ?_;exact ⟨by rw [bad (λg=>by omega)],hS⟩)
 refine CP hS (Z09 _ _ _ _) λw3 hT hS=>?_;replace e1:=e1.up hT;repeat'(first|refine W1 ?_|omega|refine VG ?_ ?_<;>intro hg|refine VC ?_ ?_<;>intro hc)
 refine CP hS (Z09 _ _ _ _) λw4 hT hS=>?_;replace e1:=e1.up hT;have gd:Z1c h=(decide (1<=h.kind/\h.kind<=4) && JR h):=by
  unfold Z1c;congr 1;rw [decide_eq_decide];exact ⟨λg=>g.1,λg=>⟨g,g1,by omega⟩⟩
 rw [gd];clear gd bad;rw [show decide (1<=h.month/\h.month<=12)=Z08 h from rfl,show decide (0<=h.wd/\h.wd<=6)=Z1H h from rfl];have bC:h.kind=1\/h.kind=2\/h.kind=3\/h.kind=4\/¬ (1<=h.kind/\h.kind<=4):=by omega
 rcases bC with k|k|k|k|k
 . have hk:(decide (1<=h.kind/\h.kind<=4) && JR h)=(Z08 h && Z9E h):=by
    rw [decide_eq_true (by omega),Yah,JR,k];rfl
   rw [hk];clear hk;cases Z08 h<;>cases Z1H h<;>repeat'(first|refine W1 ?_|omega|refine VG ?_ ?_<;>intro hg|refine VC ?_ ?_<;>intro hc)
   all_goals first
    | (refine CP hS (Z09 _ _ _ _) λw5 hT hS => ?_
       repeat'(first|refine W1 ?_|omega|refine VG ?_ ?_<;>intro hg|refine VC ?_ ?_<;>intro hc)
       refine RU ?_;exact ⟨rfl,hS⟩)
    | (refine RU ?_
       exact ⟨rfl,hS⟩)
 . have hk:(decide (1<=h.kind/\h.kind<=4) && JR h)=(Z08 h && Z1H h && Z9F h):=by
    rw [decide_eq_true (by omega),Yah,JR,k];rfl
   rw [hk];clear hk;cases Z08 h<;>cases Z1H h<;>repeat'(first|refine W1 ?_|omega|refine VG ?_ ?_<;>intro hg|refine VC ?_ ?_<;>intro hc)
   all_goals first
    | (refine CP hS (Z09 _ _ _ _) λw5 hT hS => ?_
       repeat'(first|refine W1 ?_|omega|refine VG ?_ ?_<;>intro hg|refine VC ?_ ?_<;>intro hc)
       refine RU ?_;exact ⟨rfl,hS⟩)
    | (refine RU ?_
       exact ⟨rfl,hS⟩)
 . have hk:(decide (1<=h.kind/\h.kind<=4) && JR h)=(Z08 h && Z1H h):=by
    rw [decide_eq_true (by omega),Yah,JR,k];rfl
   rw [hk];clear hk;cases Z08 h<;>cases Z1H h<;>repeat'(first|refine W1 ?_|omega|refine VG ?_ ?_<;>intro hg|refine VC ?_ ?_<;>intro hc)
   all_goals first
    | (refine CP hS (Z09 _ _ _ _) λw5 hT hS => ?_
       repeat'(first|refine W1 ?_|omega|refine VG ?_ ?_<;>intro hg|refine VC ?_ ?_<;>intro hc)
       refine RU ?_;exact ⟨rfl,hS⟩)
    | (refine RU ?_
       exact ⟨rfl,hS⟩)
 . have hk:(decide (1<=h.kind/\h.kind<=4) && JR h)=(ZbJ h):=by
    rw [decide_eq_true (by omega),Yah,JR,k];rfl
   rw [hk];clear hk;cases Z08 h<;>cases Z1H h<;>repeat'(first|refine W1 ?_|omega|refine VG ?_ ?_<;>intro hg|refine VC ?_ ?_<;>intro hc)
   all_goals first
    | (refine CP hS (Z09 _ _ _ _) λw5 hT hS => ?_
       repeat'(first|refine W1 ?_|omega|refine VG ?_ ?_<;>intro hg|refine VC ?_ ?_<;>intro hc)
       refine RU ?_;exact ⟨rfl,hS⟩)
    | (refine RU ?_
       exact ⟨rfl,hS⟩)
 rw [decide_eq_false k,YaG];focus repeat'(first|refine W1 ?_|omega|refine VG ?_ ?_<;>intro hg|refine VC ?_ ?_<;>intro hc)
 refine RU ?_;exact ⟨rfl,hS⟩
theorem Z86 (v:Value) (l:List Hol) (w) (hs:SlV [] w v l):CC 76 #[v] w λr w'=>r=.I (Z5J l)/\Stp [] w w':=by
 have dz:=hs.max;unfold Z5J;refine cW1 19 Tryz.func76 ?_;by_cases cb:100<l.length;rw [if_pos cb];focus repeat'(first|refine W1 ?_|omega|refine VG ?_ ?_<;>intro hg|refine VC ?_ ?_<;>intro hc)
 refine RU ?_;exact ⟨rfl,Stp.refl _ _⟩;rw [if_neg cb];repeat'(first|refine W1 ?_|omega|refine VG ?_ ?_<;>intro hg|refine VC ?_ ?_<;>intro hc)
 refine LP (σ:=Nat) (λk=>[(0,v),(2,.I 0),(3,.I (k:Int))]) (λk w'=>k<=l.length/\Stp [] w w'/\∀ j (h:j<l.length),j<k->Z1c l[j]=true) (λk=>l.length - k) 0 ⟨Xo _,Stp.refl _ _,λj _ h=>absurd h (Xs _)⟩ ?_;rintro k w1 ⟨hk,hT,hz⟩;have aJ:=hs.up hT;by_cases hlt:k<l.length;focus repeat'(first|refine W1 ?_|omega|refine VG ?_ ?_<;>intro hg|refine VC ?_ ?_<;>intro hc)
 refine CP hT (Z85 l[k] _) λw2 hU hT=>?_;cases hb:Z1c l[k];have hn:l.all Z1c=false:=by
  rw [Yab];intro h;have:=(ZW _ _).1 h k hlt;rw [hb] at this;cases this
 rw [hn];focus repeat'(first|refine W1 ?_|omega|refine VG ?_ ?_<;>intro hg|refine VC ?_ ?_<;>intro hc)
 refine RU ?_;exact ⟨rfl,hT⟩;focus repeat'(first|refine W1 ?_|omega|refine VG ?_ ?_<;>intro hg|refine VC ?_ ?_<;>intro hc)
 exact QL (k+1) ⟨hlt,hT,λj h hj=>by
  by_cases e:j=k;subst e;exact hb;exact hz j h (by omega)⟩ (Xp hlt (Xr k))
 rw [if_pos ((ZW _ _).2 (λj h=>hz j h (by omega)))];focus repeat'(first|refine W1 ?_|omega|refine VG ?_ ?_<;>intro hg|refine VC ?_ ?_<;>intro hc)
 refine RU ?_;exact ⟨rfl,hT⟩
def Z5K (f:Nat->Int):Nat->Int
 | 0=>0
 | n+1=>if Z5K f n≠0 then Z5K f n else f n
theorem Z1t {f:Nat->Int}:∀ {n:Nat},(∀ j,j<n->f j=0)->Z5K f n=0
 | 0,_=>rfl
 | n + 1, h => by
   rw [Z5K,Z1t (λj hj=>h j (by omega)),if_neg (by simp)];exact h n (Xr n)
theorem Z5i {f:Nat->Int} {k:Nat} (h:∀ j,j<k->f j=0) (hk:f k≠0):∀ {n:Nat},k<n->Z5K f n=f k
 | 0,hn=>absurd hn (Xs _)
 | n + 1, hn => by
   by_cases e:k=n;subst e;rw [Z5K,Z1t h,if_neg (by simp)];rw [Z5K,Z5i h hk (show k<n by omega),if_pos hk]
def Z3k (l:List Spn) (i:Nat):Int:=
 if ¬ ((0<=(l.getD i (0,0)).1/\(l.getD i (0,0)).1<=8589934592)/\-900<=(l.getD i (0,0)).2/\(l.getD i (0,0)).2<=900) then 5 else if 0<i/\(l.getD i (0,0)).1 - 2880<(l.getD (i - 1) (0,0)).1 then 12 else 0
def Z5L (z:Int) (l:List Spn):Int:=if 100<l.length then 2 else if ¬ (-900<=z/\z<=900) then 5 else Z5K (Z3k l) l.length
theorem Z5j (n:Int) (w):CC 108 #[.I n] w λr w'=>r=.B (decide (-900<=n/\n<=900))/\Stp [] w w':=by
 refine cW1 9 Tryz.func108 ?_;repeat'(first|refine W1 ?_|omega|refine VG ?_ ?_<;>intro hg|refine VC ?_ ?_<;>intro hc)
 refine RU ?_;exact ⟨by congr 1;rw [decide_eq_decide];exact ⟨λh=>⟨by omega,h⟩,λh=>h.2⟩,Stp.refl _ _⟩;refine RU ?_;exact ⟨by congr 1;symm;exact decide_eq_false (λh=>by omega),Stp.refl _ _⟩
theorem Z6X (n a b:Int) (w):CC 114 #[.I n,.I a,.I b] w λr w'=>r=.B (decide (a<=n/\n<=b))/\Stp [] w w':=by
 refine cW3 15 Tryz.func114 ?_;repeat'(first|refine W1 ?_|omega|refine VG ?_ ?_<;>intro hg|refine VC ?_ ?_<;>intro hc)
 refine RU ?_;exact ⟨by congr 1;rw [decide_eq_decide];exact ⟨λh=>⟨by omega,h⟩,λh=>h.2⟩,Stp.refl _ _⟩;refine RU ?_;exact ⟨by congr 1;symm;exact decide_eq_false (λh=>by omega),Stp.refl _ _⟩
theorem Z9G (v:Value) (z:Int) (l:List Spn) (w) (hs:SlV [] w v l):CC 72 #[.agg #[.I z,v]] w λr w'=>r=.I (Z5L z l)/\Stp [] w w':=by
 have dz:=hs.max;unfold Z5L;refine cW1 51 Tryz.func72 ?_;refine W ?_;refine BX (Stp.refl [] w) λb1 w1 h1 e1 _ hS=>?_;replace e1:Blk w1 b1 45 [.I z,v]:=e1;replace hs:=hs.up hS;by_cases cb:100<l.length;rw [if_pos cb];focus repeat'(first|refine W1 ?_|omega|refine VG ?_ ?_<;>intro hg|refine VC ?_ ?_<;>intro hc)
 refine RU ?_;exact ⟨rfl,hS⟩;rw [if_neg cb];repeat'(first|refine W1 ?_|omega|refine VG ?_ ?_<;>intro hg|refine VC ?_ ?_<;>intro hc)
 refine CP hS (Z5j _ _) λw2 hT hS=>?_;replace e1:=e1.up hT;replace hs:=hs.up hT;by_cases hz:-900<=z/\z<=900
 case neg=>
  rw [decide_eq_false hz,if_pos hz];repeat'(first|refine W1 ?_|omega|refine VG ?_ ?_<;>intro hg|refine VC ?_ ?_<;>intro hc)
  refine RU ?_;exact ⟨rfl,hS⟩
 rw [decide_eq_true hz,if_neg (not_not_intro hz)];repeat'(first|refine W1 ?_|omega|refine VG ?_ ?_<;>intro hg|refine VC ?_ ?_<;>intro hc)
 refine LP (σ:=Nat) (λk=>[(1,pQ b1),(2,.I 0),(16,v),(17,.I (l.length:Int)),(18,.I (k:Int))]) (λk w'=>k<=l.length/\Stp [] w2 w'/\∀ j,j<k->Z3k l j=0) (λk=>l.length - k) 0 ⟨Xo _,Stp.refl _ _,λj h=>absurd h (Xs _)⟩ ?_;rintro k w4 ⟨hk,T,bg⟩;have aJ:=hs.up T;have q1:=e1.up T;by_cases hlt:k<l.length
 . have hg:l.getD k (0,0)=l[k]:=by simp [hlt]
   have fP:Z3k l k=(if ¬ ((0<=l[k].1/\l[k].1<=8589934592)/\-900<=l[k].2/\l[k].2<=900) then (5:Int) else if 0<k/\l[k].1 - 2880<(l.getD (k - 1) (0,0)).1 then 12 else 0):=by unfold Z3k;rw [hg]
   have dA:∀ c,(if ¬ ((0<=l[k].1/\l[k].1<=8589934592)/\-900<=l[k].2/\l[k].2<=900) then (5:Int) else if 0<k/\l[k].1 - 2880<(l.getD (k - 1) (0,0)).1 then 12 else 0)=c->c≠0->Z5K (Z3k l) l.length=c:=λc h hc=>by rw [Z5i bg (by rw [fP,h];exact hc) hlt,fP,h]
   have go:(if ¬ ((0<=l[k].1/\l[k].1<=8589934592)/\-900<=l[k].2/\l[k].2<=900) then (5:Int) else if 0<k/\l[k].1 - 2880<(l.getD (k - 1) (0,0)).1 then 12 else 0)=0->∀ j,j<k+1->Z3k l j=0:=λhb j hj=>by
    by_cases e:j=k;subst e;exact fP.trans hb;exact bg j (by omega)
   clear fP;repeat'(first|refine W1 ?_|omega|refine VG ?_ ?_<;>intro hg|refine VC ?_ ?_<;>intro hc)
   refine Z1 Z9 rfl ?_;rintro _ w5 ⟨b4,rfl,bA,e4,hU⟩;repeat'(first|refine W1 ?_|omega|refine VG ?_ ?_<;>intro hg|refine VC ?_ ?_<;>intro hc)
   refine SA (us:=Z8.enc l[k]) e4 ?_;rintro _ w6 ⟨bZ,e4⟩;replace hU:=hU.ow bZ;replace q1:=q1.up hU;replace aJ:=aJ.up hU;replace T:=T.trans hU;clear hU bZ;by_cases ga:0<=l[k].1/\l[k].1<=8589934592
   case neg=>
    rw [dA 5 (by rw [if_pos (λg=>ga g.1)]) (by decide)];repeat'(first|refine W1 ?_|omega|refine VG ?_ ?_<;>intro hg|refine VC ?_ ?_<;>intro hc)
    all_goals
     refine RU ?_;exact ⟨rfl,hS.trans T⟩
   repeat'(first|refine W1 ?_|omega|refine VG ?_ ?_<;>intro hg|refine VC ?_ ?_<;>intro hc)
   refine CP T (Z5j _ _) λw7 hU T=>?_;replace q1:=q1.up hU;replace aJ:=aJ.up hU;replace e4:=e4.up hU;by_cases gb:-900<=l[k].2/\l[k].2<=900
   case neg=>
    rw [decide_eq_false gb];rw [dA 5 (by rw [if_pos (λg=>gb g.2)]) (by decide)];repeat'(first|refine W1 ?_|omega|refine VG ?_ ?_<;>intro hg|refine VC ?_ ?_<;>intro hc)
    refine RU ?_;exact ⟨rfl,hS.trans T⟩
   rw [decide_eq_true gb];rw [if_neg (not_not_intro ⟨ga,gb⟩)] at dA go;repeat'(first|refine W1 ?_|omega|refine VG ?_ ?_<;>intro hg|refine VC ?_ ?_<;>intro hc)
   cases k with
   | zero=>
     rw [if_neg (by omega)] at dA go;refine ZDr 16 [] [] [(0,0),(1,0),(2,0),(3,0),(4,1),(5,0),(6,0),(7,1),(8,0),(9,0),(10,0),(11,0),(12,1),(13,0),(14,0),(15,0)] (λw1 ae=>?_);replace T:=T.trans ae;repeat'(first|refine D1 ?_|omega|refine Z6 rfl rfl rfl rfl (λhg=>?_) (λhg=>?_)|(refine Z2 rfl rfl rfl rfl (λhg=>?_) (λhg=>?_)<;>refine D1 ?_)|fail)
     repeat'(first|refine W1 ?_|omega|refine VG ?_ ?_<;>intro hg|refine VC ?_ ?_<;>intro hc)
     exact QL 1 ⟨hlt,T,go rfl⟩ (Xp hlt (Xr 0))
   | succ i=>
     have db:((i+1:Nat):Int) - 1=(i:Int):=by omega
     have jY:i<l.length:=by omega
     have mA:l.getD (i+1 - 1) (0,0)=l[i]:=by simp [jY]
     have eS:=bg i (Xr i);unfold Z3k at eS;rw [show l.getD i (0,0)=l[i] by simp [jY]] at eS;have mB:0<=l[i].1/\l[i].1<=8589934592:=by
      by_cases g:(0<=l[i].1/\l[i].1<=8589934592)/\-900<=l[i].2/\l[i].2<=900;exact g.1;rw [if_pos g] at eS;cases eS
     clear eS bg;rw [mA] at dA go;refine ZDr 16 [] [] [(0,0),(1,0),(2,0),(3,0),(4,1),(5,0),(6,0),(7,1),(8,0),(9,0),(10,0),(11,0),(12,1),(13,0),(14,0),(15,0)] (λw1 ae=>?_);replace q1:=q1.up ae;replace aJ:=aJ.up ae;replace e4:=e4.up ae;replace T:=T.trans ae;clear ae;repeat'(first|refine D1 ?_|omega|refine Z6 rfl rfl rfl rfl (λhg=>?_) (λhg=>?_)|(refine Z2 rfl rfl rfl rfl (λhg=>?_) (λhg=>?_)<;>refine D1 ?_)|fail)
     by_cases gc:l[i+1].1 - 2880<l[i].1;rw [dA 12 (if_pos ⟨by omega,gc⟩) (by decide)];focus repeat'(first|refine W1 ?_|omega|refine VG ?_ ?_<;>intro hg|refine VC ?_ ?_<;>intro hc)
     refine RU ?_;exact ⟨rfl,hS.trans T⟩;focus repeat'(first|refine W1 ?_|omega|refine VG ?_ ?_<;>intro hg|refine VC ?_ ?_<;>intro hc)
     exact QL (i+2) ⟨hlt,T,go (if_neg (λg=>gc g.2))⟩ (Xp hlt (Xr (i+1)))
 rw [Z1t (λj hj=>bg j (by omega))];focus repeat'(first|refine W1 ?_|omega|refine VG ?_ ?_<;>intro hg|refine VC ?_ ?_<;>intro hc)
 refine RU ?_;exact ⟨rfl,hS.trans T⟩
theorem Z87 (v:Value) (z:Int) (l:List Spn) (w) (hs:SlV [] w v l):CC 78 #[.agg #[.I z,v]] w λr w'=>r=.I (Z5L z l)/\Stp [] w w':=by
 have dz:=hs.max;unfold Z5L;refine cW1 50 Tryz.func78 ?_;refine W ?_;refine BX (Stp.refl [] w) λb1 w1 h1 e1 _ hS=>?_;replace e1:Blk w1 b1 45 [.I z,v]:=e1;replace hs:=hs.up hS;by_cases cb:100<l.length;rw [if_pos cb];focus repeat'(first|refine W1 ?_|omega|refine VG ?_ ?_<;>intro hg|refine VC ?_ ?_<;>intro hc)
 refine RU ?_;exact ⟨rfl,hS⟩;rw [if_neg cb];repeat'(first|refine W1 ?_|omega|refine VG ?_ ?_<;>intro hg|refine VC ?_ ?_<;>intro hc)
 refine CP hS (Z6X _ _ _ _) λw2 hT hS=>?_;replace e1:=e1.up hT;replace hs:=hs.up hT;by_cases hz:-900<=z/\z<=900
 case neg=>
  rw [decide_eq_false hz,if_pos hz];repeat'(first|refine W1 ?_|omega|refine VG ?_ ?_<;>intro hg|refine VC ?_ ?_<;>intro hc)
  refine RU ?_;exact ⟨rfl,hS⟩
 rw [decide_eq_true hz,if_neg (not_not_intro hz)];repeat'(first|refine W1 ?_|omega|refine VG ?_ ?_<;>intro hg|refine VC ?_ ?_<;>intro hc)
 refine LP (σ:=Nat) (λk=>[(1,pQ b1),(2,.I 0),(3,.I (k:Int))]) (λk w'=>k<=l.length/\Stp [] w2 w'/\∀ j,j<k->Z3k l j=0) (λk=>l.length - k) 0 ⟨Xo _,Stp.refl _ _,λj h=>absurd h (Xs _)⟩ ?_;rintro k w4 ⟨hk,T,bg⟩;have aJ:=hs.up T;have q1:=e1.up T;by_cases hlt:k<l.length
 . have hg:l.getD k (0,0)=l[k]:=by simp [hlt]
   have fP:Z3k l k=(if ¬ ((0<=l[k].1/\l[k].1<=8589934592)/\-900<=l[k].2/\l[k].2<=900) then (5:Int) else if 0<k/\l[k].1 - 2880<(l.getD (k - 1) (0,0)).1 then 12 else 0):=by unfold Z3k;rw [hg]
   have dA:∀ c,(if ¬ ((0<=l[k].1/\l[k].1<=8589934592)/\-900<=l[k].2/\l[k].2<=900) then (5:Int) else if 0<k/\l[k].1 - 2880<(l.getD (k - 1) (0,0)).1 then 12 else 0)=c->c≠0->Z5K (Z3k l) l.length=c:=λc h hc=>by rw [Z5i bg (by rw [fP,h];exact hc) hlt,fP,h]
   have go:(if ¬ ((0<=l[k].1/\l[k].1<=8589934592)/\-900<=l[k].2/\l[k].2<=900) then (5:Int) else if 0<k/\l[k].1 - 2880<(l.getD (k - 1) (0,0)).1 then 12 else 0)=0->∀ j,j<k+1->Z3k l j=0:=λhb j hj=>by
    by_cases e:j=k;subst e;exact fP.trans hb;exact bg j (by omega)
   clear fP;repeat'(first|refine W1 ?_|omega|refine VG ?_ ?_<;>intro hg|refine VC ?_ ?_<;>intro hc)
   refine Z1 Z9 rfl ?_;rintro _ w5 ⟨b4,rfl,bA,e4,hU⟩;repeat'(first|refine W1 ?_|omega|refine VG ?_ ?_<;>intro hg|refine VC ?_ ?_<;>intro hc)
   refine SA (us:=Z8.enc l[k]) e4 ?_;rintro _ w6 ⟨bZ,e4⟩;replace hU:=hU.ow bZ;replace q1:=q1.up hU;replace aJ:=aJ.up hU;replace T:=T.trans hU;clear hU bZ;repeat'(first|refine W1 ?_|omega|refine VG ?_ ?_<;>intro hg|refine VC ?_ ?_<;>intro hc)
   refine CP T (Z6X _ _ _ _) λw7 hU T=>?_;replace q1:=q1.up hU;replace aJ:=aJ.up hU;replace e4:=e4.up hU;by_cases ga:0<=l[k].1/\l[k].1<=8589934592
   case neg=>
    rw [decide_eq_false ga];rw [dA 5 (by rw [if_pos (λg=>ga g.1)]) (by decide)];repeat'(first|refine W1 ?_|omega|refine VG ?_ ?_<;>intro hg|refine VC ?_ ?_<;>intro hc)
    refine RU ?_;exact ⟨rfl,hS.trans T⟩
   rw [decide_eq_true ga];repeat'(first|refine W1 ?_|omega|refine VG ?_ ?_<;>intro hg|refine VC ?_ ?_<;>intro hc)
   refine CP T (Z6X _ _ _ _) λw7 hU T=>?_;replace q1:=q1.up hU;replace aJ:=aJ.up hU;replace e4:=e4.up hU;by_cases gb:-900<=l[k].2/\l[k].2<=900
   case neg=>
    rw [decide_eq_false gb];rw [dA 5 (by rw [if_pos (λg=>gb g.2)]) (by decide)];repeat'(first|refine W1 ?_|omega|refine VG ?_ ?_<;>intro hg|refine VC ?_ ?_<;>intro hc)
    refine RU ?_;exact ⟨rfl,hS.trans T⟩
   rw [decide_eq_true gb];rw [if_neg (not_not_intro ⟨ga,gb⟩)] at dA go;repeat'(first|refine W1 ?_|omega|refine VG ?_ ?_<;>intro hg|refine VC ?_ ?_<;>intro hc)
   cases k with
   | zero=>
     rw [if_neg (by omega)] at dA go;refine ZDr 15 [] [] [(0,0),(1,0),(2,0),(3,0),(4,1),(5,0),(6,1),(7,0),(8,0),(9,0),(10,0),(11,1),(12,0),(13,0),(14,0)] (λw1 ae=>?_);replace T:=T.trans ae;repeat'(first|refine D1 ?_|omega|refine Z6 rfl rfl rfl rfl (λhg=>?_) (λhg=>?_)|(refine Z2 rfl rfl rfl rfl (λhg=>?_) (λhg=>?_)<;>refine D1 ?_)|fail)
     repeat'(first|refine W1 ?_|omega|refine VG ?_ ?_<;>intro hg|refine VC ?_ ?_<;>intro hc)
     exact QL 1 ⟨hlt,T,go rfl⟩ (Xp hlt (Xr 0))
   | succ i=>
     have db:((i+1:Nat):Int) - 1=(i:Int):=by omega
     have jY:i<l.length:=by omega
     have mA:l.getD (i+1 - 1) (0,0)=l[i]:=by simp [jY]
     have eS:=bg i (Xr i);unfold Z3k at eS;rw [show l.getD i (0,0)=l[i] by simp [jY]] at eS;have mB:0<=l[i].1/\l[i].1<=8589934592:=by
      by_cases g:(0<=l[i].1/\l[i].1<=8589934592)/\-900<=l[i].2/\l[i].2<=900;exact g.1;rw [if_pos g] at eS;cases eS
     clear eS bg;rw [mA] at dA go;refine ZDr 15 [] [] [(0,0),(1,0),(2,0),(3,0),(4,1),(5,0),(6,1),(7,0),(8,0),(9,0),(10,0),(11,1),(12,0),(13,0),(14,0)] (λw1 ae=>?_);replace q1:=q1.up ae;replace aJ:=aJ.up ae;replace e4:=e4.up ae;replace T:=T.trans ae;clear ae;repeat'(first|refine D1 ?_|omega|refine Z6 rfl rfl rfl rfl (λhg=>?_) (λhg=>?_)|(refine Z2 rfl rfl rfl rfl (λhg=>?_) (λhg=>?_)<;>refine D1 ?_)|fail)
     by_cases gc:l[i+1].1 - 2880<l[i].1;rw [dA 12 (if_pos ⟨by omega,gc⟩) (by decide)];focus repeat'(first|refine W1 ?_|omega|refine VG ?_ ?_<;>intro hg|refine VC ?_ ?_<;>intro hc)
     refine RU ?_;exact ⟨rfl,hS.trans T⟩;focus repeat'(first|refine W1 ?_|omega|refine VG ?_ ?_<;>intro hg|refine VC ?_ ?_<;>intro hc)
     exact QL (i+2) ⟨hlt,T,go (if_neg (λg=>gc g.2))⟩ (Xp hlt (Xr (i+1)))
 rw [Z1t (λj hj=>bg j (by omega))];focus repeat'(first|refine W1 ?_|omega|refine VG ?_ ?_<;>intro hg|refine VC ?_ ?_<;>intro hc)
 refine RU ?_;exact ⟨rfl,hS.trans T⟩
theorem Z1I (d:Int) (w):CC 220 #[.I d] w λr w'=>r=.B (decide (0<=d/\d<=3652058))/\Stp [] w w':=by
 refine cW1 9 Tryz.func220 ?_;repeat'(first|refine W1 ?_|omega|refine VG ?_ ?_<;>intro hg|refine VC ?_ ?_<;>intro hc)
 refine RU ?_;exact ⟨by congr 1;rw [decide_eq_decide];exact ⟨λh=>⟨by omega,h⟩,λh=>h.2⟩,Stp.refl _ _⟩;refine RU ?_;exact ⟨by congr 1;symm;exact decide_eq_false (λh=>by omega),Stp.refl _ _⟩
theorem Z3l (d m:Int) (w):CC 111 #[.I d,.I m] w λr w'=>r=.B (decide (0<=d/\d<=m))/\Stp [] w w':=by
 refine cW2 12 Tryz.func111 ?_;repeat'(first|refine W1 ?_|omega|refine VG ?_ ?_<;>intro hg|refine VC ?_ ?_<;>intro hc)
 refine RU ?_;exact ⟨by congr 1;rw [decide_eq_decide];exact ⟨λh=>⟨by omega,h⟩,λh=>h.2⟩,Stp.refl _ _⟩;refine RU ?_;exact ⟨by congr 1;symm;exact decide_eq_false (λh=>by omega),Stp.refl _ _⟩
def RvK (r:Rtn):Prop:=(r.kind=1/\(0<=r.lo/\r.lo<=3652058)/\(0<=r.hi/\r.hi<=3652058)/\r.lo<=r.hi)\/(r.kind=2/\r.lo=0/\(0<=r.hi/\r.hi<=3652058))\/(r.kind=3/\r.lo=0/\r.hi=0)
instance (r:Rtn):Decidable (RvK r):=by unfold RvK;infer_instance
theorem Z88 (r:Rtn) (w):CC 175 #[aG r] w λx w'=>x=.B (decide (RvK r))/\Stp [] w w':=by
 have yes:RvK r->decide (RvK r)=true:=λh=>decide_eq_true h;have no:¬ RvK r->decide (RvK r)=false:=λh=>decide_eq_false h;generalize decide (RvK r)=dd at yes no ⊢;unfold RvK at yes no;refine cW1 42 Tryz.func175 ?_;refine W ?_;refine BX (Stp.refl [] w) λb1 w1 h1 e1 _ hS=>?_;replace e1:Blk w1 b1 138 (Z8.enc r):=e1;by_cases k1:r.kind=1
 . repeat'(first|refine W1 ?_|omega|refine VG ?_ ?_<;>intro hg|refine VC ?_ ?_<;>intro hc)
   refine CP hS (Z1I _ _) λw2 hT hS=>?_;replace e1:=e1.up hT;by_cases a:0<=r.lo/\r.lo<=3652058
   case neg=>
    rw [decide_eq_false a,no (by omega)];repeat'(first|refine W1 ?_|omega|refine VG ?_ ?_<;>intro hg|refine VC ?_ ?_<;>intro hc)
    refine RU ?_;exact ⟨rfl,hS⟩
   rw [decide_eq_true a];repeat'(first|refine W1 ?_|omega|refine VG ?_ ?_<;>intro hg|refine VC ?_ ?_<;>intro hc)
   refine CP hS (Z1I _ _) λw3 hT hS=>?_;replace e1:=e1.up hT;by_cases b:0<=r.hi/\r.hi<=3652058
   case neg=>
    rw [decide_eq_false b,no (by omega)];repeat'(first|refine W1 ?_|omega|refine VG ?_ ?_<;>intro hg|refine VC ?_ ?_<;>intro hc)
    refine RU ?_;exact ⟨rfl,hS⟩
   rw [decide_eq_true b];by_cases c:r.lo<=r.hi;rw [yes (by omega)];focus repeat'(first|refine W1 ?_|omega|refine VG ?_ ?_<;>intro hg|refine VC ?_ ?_<;>intro hc)
   refine RU ?_;exact ⟨by simp [c],hS⟩;rw [no (by omega)];focus repeat'(first|refine W1 ?_|omega|refine VG ?_ ?_<;>intro hg|refine VC ?_ ?_<;>intro hc)
   refine RU ?_;exact ⟨by simp [c],hS⟩
 by_cases k2:r.kind=2
 . by_cases a:r.lo=0
   case neg=>
    rw [no (by omega)];repeat'(first|refine W1 ?_|omega|refine VG ?_ ?_<;>intro hg|refine VC ?_ ?_<;>intro hc)
    refine RU ?_;exact ⟨rfl,hS⟩
   repeat'(first|refine W1 ?_|omega|refine VG ?_ ?_<;>intro hg|refine VC ?_ ?_<;>intro hc)
   refine CP hS (Z1I _ _) λw3 hT hS=>?_;by_cases b:0<=r.hi/\r.hi<=3652058;rw [decide_eq_true b,yes (by omega)];focus repeat'(first|refine W1 ?_|omega|refine VG ?_ ?_<;>intro hg|refine VC ?_ ?_<;>intro hc)
   refine RU ?_;exact ⟨rfl,hS⟩;rw [decide_eq_false b,no (by omega)];focus repeat'(first|refine W1 ?_|omega|refine VG ?_ ?_<;>intro hg|refine VC ?_ ?_<;>intro hc)
   refine RU ?_;exact ⟨rfl,hS⟩
 by_cases k3:r.kind=3
 . by_cases a:r.lo=0
   case neg=>
    rw [no (by omega)];repeat'(first|refine W1 ?_|omega|refine VG ?_ ?_<;>intro hg|refine VC ?_ ?_<;>intro hc)
    refine RU ?_;exact ⟨rfl,hS⟩
   by_cases b:r.hi=0;rw [yes (by omega)];focus repeat'(first|refine W1 ?_|omega|refine VG ?_ ?_<;>intro hg|refine VC ?_ ?_<;>intro hc)
   refine RU ?_;exact ⟨by simp [b],hS⟩;rw [no (by omega)];focus repeat'(first|refine W1 ?_|omega|refine VG ?_ ?_<;>intro hg|refine VC ?_ ?_<;>intro hc)
   refine RU ?_;exact ⟨by simp [b],hS⟩
 rw [no (by omega)];repeat'(first|refine W1 ?_|omega|refine VG ?_ ?_<;>intro hg|refine VC ?_ ?_<;>intro hc)
 refine RU ?_;exact ⟨rfl,hS⟩
theorem Z89 (v cv:Value) (l:List Rtn) (cs:List Crr) (w) (hs:SlV [] w v l) (aT:SlV [] w cv cs) :
 CC 112 #[v,cv] w λr w'=>r=.I (Z9D cs.length l)/\Stp [] w w':=by
 have dz:=hs.max;have bL:=aT.max;unfold Z9D;refine cW2 39 Tryz.func112 ?_;by_cases jX:32<l.length;rw [if_pos jX];focus repeat'(first|refine W1 ?_|omega|refine VG ?_ ?_<;>intro hg|refine VC ?_ ?_<;>intro hc)
 refine RU ?_;exact ⟨rfl,Stp.refl _ _⟩;rw [if_neg jX];repeat'(first|refine W1 ?_|omega|refine VG ?_ ?_<;>intro hg|refine VC ?_ ?_<;>intro hc)
 refine LP (σ:=Nat) (λk=>[(0,v),(1,cv),(4,.I 0),(5,.I (k:Int))]) (λk w'=>k<=l.length/\Stp [] w w'/\∀ j (h:j<l.length),j<k->Z1G cs.length l[j]) (λk=>l.length - k) 0 ⟨Xo _,Stp.refl _ _,λj _ h=>absurd h (Xs _)⟩ ?_;rintro k w1 ⟨hk,hT,hz⟩;have aJ:=hs.up hT;by_cases hlt:k<l.length
 . have no:¬ Z1G cs.length l[k]->¬ ∀ r∈l,Z1G cs.length r:=λh g=>h (g _ (Xb hlt))
   have go:Z1G cs.length l[k]->∀ j (h:j<l.length),j<k+1->Z1G cs.length l[j]:=λhb j h hj=>by
    by_cases e:j=k;subst e;exact hb;exact hz j h (by omega)
   have eq:Z1G cs.length l[k]↔(0<=l[k].crr/\l[k].crr<cs.length)/\RvK l[k]:=Iff.rfl;rw [eq] at no go;clear eq;repeat'(first|refine W1 ?_|omega|refine VG ?_ ?_<;>intro hg|refine VC ?_ ?_<;>intro hc)
   refine CP hT (Z88 l[k] _) λw2 hU hT=>?_;replace aJ:=aJ.up hU;by_cases hb:RvK l[k]
   case neg=>
    rw [decide_eq_false hb,if_neg (no (λg=>hb g.2))];repeat'(first|refine W1 ?_|omega|refine VG ?_ ?_<;>intro hg|refine VC ?_ ?_<;>intro hc)
    refine RU ?_;exact ⟨rfl,hT⟩
   rw [decide_eq_true hb];by_cases dU:0<=l[k].crr/\l[k].crr<cs.length
   case neg=>
    rw [if_neg (no (λg=>dU g.1))];repeat'(first|refine W1 ?_|omega|refine VG ?_ ?_<;>intro hg|refine VC ?_ ?_<;>intro hc)
    all_goals
     refine RU ?_;exact ⟨rfl,hT⟩
   repeat'(first|refine W1 ?_|omega|refine VG ?_ ?_<;>intro hg|refine VC ?_ ?_<;>intro hc)
   exact QL (k+1) ⟨hlt,hT,go ⟨dU,hb⟩⟩ (Xp hlt (Xr k))
 rw [if_pos (λr hr=>by obtain ⟨j,hj,rfl⟩:=Xv hr;exact hz j hj (by omega))];focus repeat'(first|refine W1 ?_|omega|refine VG ?_ ?_<;>intro hg|refine VC ?_ ?_<;>intro hc)
 refine RU ?_;exact ⟨rfl,hT⟩
theorem Z8a (rv cv:Value) (a:Atp) (cs:List Crr) (w) (hs:SlV [] w rv a.rets) (aT:SlV [] w cv cs) :
 CC 75 #[.agg (atC a rv).toArray,cv] w λr w'=>r=.I (Z1U cs.length a)/\Stp [] w w':=by
 have bL:=aT.max;have yes:Z5H cs.length a->Z1U cs.length a=Z9D cs.length a.rets:=λh=>if_pos h;have no:¬ Z5H cs.length a->Z1U cs.length a=5:=λh=>if_neg h;unfold Z5H at yes no;generalize Z1U cs.length a=res at yes no ⊢;refine cW2 34 Tryz.func75 ?_;refine W ?_;refine BX (Stp.refl [] w) λb1 w1 h1 e1 _ hS=>?_;replace e1:Blk w1 b1 32 (atC a rv):=e1;repeat'(first|refine W1 ?_|omega|refine VG ?_ ?_<;>intro hg|refine VC ?_ ?_<;>intro hc)
 refine CP hS (Z3l _ _ _) λw2 hT hS=>?_;replace e1:=e1.up hT;by_cases g1:0<=a.entry/\a.entry<=65535
 case neg=>
  rw [decide_eq_false g1,no (by omega)];repeat'(first|refine W1 ?_|omega|refine VG ?_ ?_<;>intro hg|refine VC ?_ ?_<;>intro hc)
  refine RU ?_;exact ⟨rfl,hS⟩
 rw [decide_eq_true g1];repeat'(first|refine W1 ?_|omega|refine VG ?_ ?_<;>intro hg|refine VC ?_ ?_<;>intro hc)
 refine CP hS (Z3l _ _ _) λw3 hT hS=>?_;replace e1:=e1.up hT;by_cases g2:0<=a.party/\a.party<=63
 case neg=>
  rw [decide_eq_false g2,no (by omega)];repeat'(first|refine W1 ?_|omega|refine VG ?_ ?_<;>intro hg|refine VC ?_ ?_<;>intro hc)
  refine RU ?_;exact ⟨rfl,hS⟩
 rw [decide_eq_true g2];repeat'(first|refine W1 ?_|omega|refine VG ?_ ?_<;>intro hg|refine VC ?_ ?_<;>intro hc)
 refine CP hS (Z3l _ _ _) λw4 hT hS=>?_;replace e1:=e1.up hT;by_cases g3:0<=a.crr/\a.crr<=(cs.length:Int) - 1
 case neg=>
  rw [decide_eq_false g3,no (by omega)];repeat'(first|refine W1 ?_|omega|refine VG ?_ ?_<;>intro hg|refine VC ?_ ?_<;>intro hc)
  refine RU ?_;exact ⟨rfl,hS⟩
 rw [decide_eq_true g3];repeat'(first|refine W1 ?_|omega|refine VG ?_ ?_<;>intro hg|refine VC ?_ ?_<;>intro hc)
 refine CP hS (Z3l _ _ _) λw5 hT hS=>?_;replace e1:=e1.up hT;by_cases g4:0<=a.sent/\a.sent<=3652058
 case neg=>
  rw [decide_eq_false g4,no (by omega)];repeat'(first|refine W1 ?_|omega|refine VG ?_ ?_<;>intro hg|refine VC ?_ ?_<;>intro hc)
  refine RU ?_;exact ⟨rfl,hS⟩
 rw [decide_eq_true g4,yes (by omega)];repeat'(first|refine W1 ?_|omega|refine VG ?_ ?_<;>intro hg|refine VC ?_ ?_<;>intro hc)
 refine CP hS (Z89 rv cv _ cs _ (hs.up hS) (aT.up hS)) λw6 hT hS=>?_;repeat'(first|refine W1 ?_|omega|refine VG ?_ ?_<;>intro hg|refine VC ?_ ?_<;>intro hc)
 refine RU ?_;exact ⟨rfl,hS⟩
theorem Z8b (v cv:Value) (l:List Atp) (cs:List Crr) (w) (hl:l.length<=65536) (hs:SlV [] w v l) (aT:SlV [] w cv cs) :
 CC 37 #[v,cv] w λr w'=>r=.I (Z2h cs.length l)/\Stp [] w w':=by
 have dz:=hs.max;refine cW2 25 Tryz.func37 ?_;repeat'(first|refine W1 ?_|omega|refine VG ?_ ?_<;>intro hg|refine VC ?_ ?_<;>intro hc)
 refine ZC (σ:=Nat) (λk=>[(0,v),(1,cv),(4,.I 0),(5,.I (k:Int))])
  (λk W=>k<=l.length/\Z2h cs.length l=Z2h cs.length (l.drop k)/\Stp [] w W) (λk=>l.length - k) 0 ⟨rfl,rfl,rfl,rfl,trivial⟩ ⟨Xo _,rfl,Stp.refl _ _⟩ ?_
 rintro k w2 ⟨hk,az,hS⟩;have aJ:=hs.up hS;have bz:=aT.up hS;by_cases hlt:k<l.length;have hd:l.drop k=l[k] :: l.drop (k+1):=XI hlt;rw [hd] at az;have iw:Z2h cs.length (l[k] :: l.drop (k+1))=if Z1U cs.length l[k]≠0 then Z1U cs.length l[k] else Z2h cs.length (l.drop (k+1)):=rfl
 rw [iw] at az;obtain ⟨cs0,⟨rv,rfl,fc⟩,an⟩:=aJ.cell hlt;focus repeat'(first|refine W1 ?_|omega|refine VG ?_ ?_<;>intro hg|refine VC ?_ ?_<;>intro hc)
 refine Zf (Z3f rfl rfl aJ hlt ⟨rv,rfl,fc⟩ an) rfl ?_;focus repeat'(first|refine W1 ?_|omega|refine VG ?_ ?_<;>intro hg|refine VC ?_ ?_<;>intro hc)
 refine CP hS (Z8a rv cv l[k] cs _ fc bz) λw5 hT hS=>?_;by_cases he:Z1U cs.length l[k]=0;rw [he] at az ⊢;focus repeat'(first|refine W1 ?_|omega|refine VG ?_ ?_<;>intro hg|refine VC ?_ ?_<;>intro hc)
 exact QL (k+1) ⟨hlt,az,hS⟩ (Xp hlt (Xr k));rw [if_pos he] at az;generalize Z1U cs.length l[k]=z at *;focus repeat'(first|refine W1 ?_|omega|refine VG ?_ ?_<;>intro hg|refine VC ?_ ?_<;>intro hc)
 refine RU ?_;exact ⟨by rw [az],hS⟩;obtain rfl:k=l.length:=by omega
 rw [Yar] at az;focus repeat'(first|refine W1 ?_|omega|refine VG ?_ ?_<;>intro hg|refine VC ?_ ?_<;>intro hc)
 refine RU ?_;exact ⟨by rw [az];rfl,hS⟩
theorem Z8c (v:Value) (l:List Spn) (w) (hs:SlV [] w v l):CC 38 #[v] w λr w'=>r=.I (Z6M l)/\Stp [] w w':=by
 have aW:=hs.max;unfold Z6M;refine cW1 40 Tryz.func38 ?_;by_cases jG:64<l.length;rw [if_pos jG];focus repeat'(first|refine W1 ?_|omega|refine VG ?_ ?_<;>intro hg|refine VC ?_ ?_<;>intro hc)
 refine RU ?_;exact ⟨rfl,Stp.refl _ _⟩;rw [if_neg jG];repeat'(first|refine W1 ?_|omega|refine VG ?_ ?_<;>intro hg|refine VC ?_ ?_<;>intro hc)
 refine LP (σ:=Nat) (λk=>[(0,v),(2,.I 0),(3,.I k)]) (λk w'=>k<=l.length/\Stp [] w w'/\∀ j (h:j<l.length),j<k->¬ (l[j].1<0\/l[j].2<l[j].1\/3652058<l[j].2)) (λk=>l.length - k) 0 ⟨by omega,Stp.refl _ _,by omega⟩ ?_;rintro k w2 ⟨hk,hS,hz⟩;have aJ:=hs.up hS;by_cases hlt:k<l.length
 . repeat'(first|refine W1 ?_|omega|refine VG ?_ ?_<;>intro hg|refine VC ?_ ?_<;>intro hc)
   refine ZDr 27 [] [] [(0,0),(1,0),(2,0),(3,0),(4,1),(5,0),(6,0),(7,0),(8,0),(9,0),(10,0),(11,1),(12,0),(13,0),(14,0),(15,0),(16,1),(17,0),(18,0),(19,0),(20,0),(21,0),(22,0),(23,0),(24,1),(25,0),(26,0)] (λw1 ae=>?_);replace aJ:=aJ.up ae;replace hS:=hS.trans ae;clear ae;repeat'(first|refine D1 ?_|omega|refine Z6 rfl rfl rfl rfl (λhg=>?_) (λhg=>?_)|(refine Z2 rfl rfl rfl rfl (λhg=>?_) (λhg=>?_)<;>refine D1 ?_)|fail)
   all_goals
    repeat'(first|refine W1 ?_|omega|refine VG ?_ ?_<;>intro hg|refine VC ?_ ?_<;>intro hc)
   all_goals first
    | exact QL (k + 1) ⟨hlt, hS, λj h hj => by
       by_cases e:j=k;subst e;omega;exact hz j h (by omega)⟩ (by omega)
    | refine WR ?_
      rw [if_pos (Yag.2 ⟨l[k],Xb hlt,by simp only [decide_eq_true_eq];omega⟩)];exact .mk ⟨rfl,hS⟩
 focus repeat'(first|refine W1 ?_|omega|refine VG ?_ ?_<;>intro hg|refine VC ?_ ?_<;>intro hc)
 refine WR ?_;rw [if_neg];exact .mk ⟨rfl,hS⟩;intro h;obtain ⟨s,h1,h2⟩:=Yag.1 h;obtain ⟨j,hj,rfl⟩:=Xv h1;exact hz j hj (by omega) (by simpa using h2)
theorem Z2i (n a b:Int) (w):CC 82 #[.I n,.I a,.I b] w λr w'=>r=.B (decide (a<=n/\n<=b))/\Stp [] w w':=by
 refine cW3 15 Tryz.func82 ?_;repeat'(first|refine W1 ?_|omega|refine VG ?_ ?_<;>intro hg|refine VC ?_ ?_<;>intro hc)
 refine RU ?_;exact ⟨by congr 1;rw [decide_eq_decide];exact ⟨λh=>⟨by omega,h⟩,λh=>h.2⟩,Stp.refl _ _⟩;refine RU ?_;exact ⟨by congr 1;symm;exact decide_eq_false (λh=>by omega),Stp.refl _ _⟩
theorem Z0x (n a b:Int) (w):CC 40 #[.I n,.I a,.I b] w λr w'=>r=.B (decide (a<=n/\n<=b))/\Stp [] w w':=by
 refine cW3 15 Tryz.func40 ?_;repeat'(first|refine W1 ?_|omega|refine VG ?_ ?_<;>intro hg|refine VC ?_ ?_<;>intro hc)
 refine RU ?_;exact ⟨by congr 1;rw [decide_eq_decide];exact ⟨λh=>⟨by omega,h⟩,λh=>h.2⟩,Stp.refl _ _⟩;refine RU ?_;exact ⟨by congr 1;symm;exact decide_eq_false (λh=>by omega),Stp.refl _ _⟩
theorem Z3m (c:Int) (w):CC 171 #[.int .u8 c] w λr w'=>r=.B (decide (97<=c/\c<=122))/\Stp [] w w':=by
 refine cW1 9 Tryz.func171 ?_;repeat'(first|refine W1 ?_|omega|refine VG ?_ ?_<;>intro hg|refine VC ?_ ?_<;>intro hc)
 refine RU ?_;exact ⟨by congr 1;rw [decide_eq_decide];exact ⟨λh=>⟨by omega,h⟩,λh=>h.2⟩,Stp.refl _ _⟩;refine RU ?_;exact ⟨by congr 1;symm;exact decide_eq_false (λh=>by omega),Stp.refl _ _⟩
theorem Z8d (c:Int) (w):CC 172 #[.int .u8 c] w λr w'=>r=.B (decide (48<=c/\c<=57))/\Stp [] w w':=by
 refine cW1 9 Tryz.func172 ?_;repeat'(first|refine W1 ?_|omega|refine VG ?_ ?_<;>intro hg|refine VC ?_ ?_<;>intro hc)
 refine RU ?_;exact ⟨by congr 1;rw [decide_eq_decide];exact ⟨λh=>⟨by omega,h⟩,λh=>h.2⟩,Stp.refl _ _⟩;refine RU ?_;exact ⟨by congr 1;symm;exact decide_eq_false (λh=>by omega),Stp.refl _ _⟩
theorem Z9H (s:Str) (w):CC 109 #[str s] w λr w'=>r=.B (Z1O s)/\Stp [] w w':=by
 have yes:(∀ i,i<s.length->ltr i (ZU s i))/\s≠[]/\s.length<=12->Z1O s=true:=λh=>decide_eq_true h;have no:¬ ((∀ i,i<s.length->ltr i (ZU s i))/\s≠[]/\s.length<=12)->Z1O s=false:=λh=>decide_eq_false h;generalize Z1O s=res at yes no ⊢;refine cW1 35 Tryz.func109 ?_;by_cases h0:s=[]
 rw [no (λh=>h.2.1 h0)];subst h0;focus repeat'(first|refine W1 ?_|omega|refine VG ?_ ?_<;>intro hg|refine VC ?_ ?_<;>intro hc)
 refine RU ?_;exact ⟨rfl,Stp.refl _ _⟩;have ba:¬ s.length<=0:=Nat.not_le.2 (Yam.2 h0);by_cases ei:s.length<=12
 case neg=>
  rw [no (λh=>ei h.2.2)];repeat'(first|omega|contradiction|refine W1 ?_|refine VG ?_ ?_<;>intro hg|refine VC ?_ ?_<;>intro hc)
  all_goals
   refine RU ?_;exact ⟨rfl,Stp.refl _ _⟩
 repeat'(first|omega|contradiction|refine W1 ?_|refine VG ?_ ?_<;>intro hg|refine VC ?_ ?_<;>intro hc)
 refine JB (a:=s) (i:=0) rfl rfl rfl (Nat.not_le.1 ba) rfl ?_;repeat'(first|refine W1 ?_|omega|refine VG ?_ ?_<;>intro hg|refine VC ?_ ?_<;>intro hc)
 refine CP (Stp.refl [] _) (Z3m _ _) λw1 hT hS=>?_;by_cases f0:97<=ZU s 0/\ZU s 0<=122
 case neg=>
  rw [decide_eq_false f0,no (λh=>by
   have:=h.1 0 (Nat.not_le.1 ba);unfold ltr at this;omega)]
  repeat'(first|refine W1 ?_|omega|refine VG ?_ ?_<;>intro hg|refine VC ?_ ?_<;>intro hc)
  refine RU ?_;exact ⟨rfl,hS⟩
 rw [decide_eq_true f0];repeat'(first|refine W1 ?_|omega|refine VG ?_ ?_<;>intro hg|refine VC ?_ ?_<;>intro hc)
 clear hT;refine LP (σ:=Nat) (λi=>[(0,str s),(2,.B false),(3,.I (i:Int))]) (λi w'=>i<=s.length/\Stp [] w w'/\∀ j,j<i->ltr j (ZU s j)) (λi=>s.length - i) 0 ⟨Xo _,hS,λj h=>absurd h (Xs _)⟩ ?_;rintro i w2 ⟨hi,T,ar⟩;by_cases ke:¬ s.length<=i;have aR:¬ ltr i (ZU s i)->res=false:=λh=>no (λg=>h (g.1 i (by omega)))
 have bQ:ltr i (ZU s i)->∀ j,j<i+1->ltr j (ZU s j):=λh j hj=>by
  by_cases e:j=i;subst e;exact h;exact ar j (by omega)
 have hz:i=0->97<=ZU s i/\ZU s i<=122:=λh=>by rw [h];exact f0
 unfold ltr at aR bQ;focus repeat'(first|refine W1 ?_|omega|refine VG ?_ ?_<;>intro hg|refine VC ?_ ?_<;>intro hc)
 refine CP T (Z3m _ _) λw3 hT T=>?_;by_cases c1:97<=ZU s i/\ZU s i<=122;rw [decide_eq_true c1];focus repeat'(first|refine W1 ?_|omega|refine VG ?_ ?_<;>intro hg|refine VC ?_ ?_<;>intro hc)
 exact QL (i+1) ⟨by omega,T,bQ (.inl c1)⟩ (by omega);rw [decide_eq_false c1];focus repeat'(first|refine W1 ?_|omega|refine VG ?_ ?_<;>intro hg|refine VC ?_ ?_<;>intro hc)
 refine CP T (Z8d _ _) λw4 hT T=>?_;by_cases c2:48<=ZU s i/\ZU s i<=57;rw [decide_eq_true c2];focus repeat'(first|refine W1 ?_|omega|refine VG ?_ ?_<;>intro hg|refine VC ?_ ?_<;>intro hc)
 exact QL (i+1) ⟨by omega,T,bQ (.inr ⟨c2.1,c2.2,λh=>c1 (hz h)⟩)⟩ (by omega);rw [decide_eq_false c2,aR (by omega)];focus repeat'(first|refine W1 ?_|omega|refine VG ?_ ?_<;>intro hg|refine VC ?_ ?_<;>intro hc)
 refine RU ?_;exact ⟨rfl,T⟩;rw [yes ⟨λj hj=>ar j (by omega),h0,ei⟩];focus repeat'(first|refine W1 ?_|omega|refine VG ?_ ?_<;>intro hg|refine VC ?_ ?_<;>intro hc)
 refine RU ?_;exact ⟨rfl,T⟩
theorem Z9I (v:Value) (l:List Hol) (w) (hs:SlV [] w v l):CC 70 #[v] w λr w'=>r=.I (Z5J l)/\Stp [] w w':=by
 have dz:=hs.max;unfold Z5J;refine cW1 55 Tryz.func70 ?_;by_cases cb:100<l.length;rw [if_pos cb];focus repeat'(first|refine W1 ?_|omega|refine VG ?_ ?_<;>intro hg|refine VC ?_ ?_<;>intro hc)
 refine RU ?_;exact ⟨rfl,Stp.refl _ _⟩;rw [if_neg cb];repeat'(first|refine W1 ?_|omega|refine VG ?_ ?_<;>intro hg|refine VC ?_ ?_<;>intro hc)
 refine CL (Z68 _) ?_;rintro _ w1 ⟨rfl,hS⟩;refine Z1 Z9 rfl ?_;rintro _ w2 ⟨b3,rfl,dY,e3,ak⟩;refine SB (us:=Z2Y) (by intro u hu;simp [Z2Y] at hu;rcases hu with rfl|rfl|rfl|rfl|rfl|rfl|rfl|rfl<;>rfl) e3 ?_;rintro _ w3 ⟨hT,k3⟩;replace hS:=hS.trans (ak.ow hT);clear e3 ak hT;repeat'(first|refine W1 ?_|omega|refine VG ?_ ?_<;>intro hg|refine VC ?_ ?_<;>intro hc)
 refine LP (σ:=Nat) (λk=>[(2,.I 0),(3,pQ b3),(10,v),(11,.I (l.length:Int)),(12,.I (k:Int))]) (λk w'=>k<=l.length/\Stp [] w3 w'/\∀ j (h:j<l.length),j<k->Z1c l[j]=true) (λk=>l.length - k) 0 ⟨Xo _,Stp.refl _ _,λj _ h=>absurd h (Xs _)⟩ ?_;rintro k w4 ⟨hk,T,hz⟩;have aJ:=hs.up (hS.trans T);have q3:=k3.up T;by_cases hlt:k<l.length
 . repeat'(first|refine W1 ?_|omega|refine VG ?_ ?_<;>intro hg|refine VC ?_ ?_<;>intro hc)
   refine Z1 Z9 rfl ?_;rintro _ w5 ⟨b5,rfl,kM,e5,hU⟩;refine SA (us:=Z8.enc l[k]) e5 ?_;rintro _ w6 ⟨bZ,e5⟩;replace hU:=hU.ow bZ;replace q3:=q3.up hU;replace T:=T.trans hU;clear hU bZ aJ;have no:Z1c l[k]=false->l.all Z1c=false:=λhb=>by
    rw [Yab];intro h;have:=(ZW _ _).1 h k hlt;rw [hb] at this;cases this
   have go:Z1c l[k]=true->∀ j (h:j<l.length),j<k+1->Z1c l[j]=true:=λhb j h hj=>by
    by_cases e:j=k;subst e;exact hb;exact hz j h (by omega)
   generalize l[k]=h at *;repeat'(first|refine W1 ?_|omega|refine VG ?_ ?_<;>intro hg|refine VC ?_ ?_<;>intro hc)
   refine ZDr 38 [] [] [(0,0),(1,1),(2,2),(3,0),(4,0),(5,0),(6,1),(7,2),(8,0),(9,0),(10,0),(11,0),(12,1),(13,0),(14,0),(15,0),(16,0),(17,1),(18,0),(19,1),(20,0),(21,0),(22,0),(23,0),(24,1),(25,0),(26,0),(27,0),(28,0),(29,1),(30,0),(31,0),(32,0),(33,1),(34,1),(35,2),(36,0),(37,0)] (λw1 ae=>?_);replace q3:=q3.up ae;replace e5:=e5.up ae;replace T:=T.trans ae;clear ae;repeat'(first|refine D1 ?_|omega|refine Z6 rfl rfl rfl rfl (λhg=>?_) (λhg=>?_)|(refine Z2 rfl rfl rfl rfl (λhg=>?_) (λhg=>?_)<;>refine D1 ?_)|fail)
   refine DP T (Z0f _ _ _ _) λw7 hU T=>?_;replace q3:=q3.up hU;replace e5:=e5.up hU;by_cases g1:1<=h.kind/\h.kind<=4
   case neg=>
    rw [decide_eq_false g1];rw [no (by unfold Z1c;rw [decide_eq_false (λg=>g1 g.1),YaG])];repeat'(first|refine D1 ?_|omega|refine Z6 rfl rfl rfl rfl (λhg=>?_) (λhg=>?_)|(refine Z2 rfl rfl rfl rfl (λhg=>?_) (λhg=>?_)<;>refine D1 ?_)|fail)
    repeat'(first|refine W1 ?_|omega|refine VG ?_ ?_<;>intro hg|refine VC ?_ ?_<;>intro hc)
    refine RU ?_;exact ⟨rfl,hS.trans T⟩
   rw [decide_eq_true g1];repeat'(first|refine D1 ?_|omega|refine Z6 rfl rfl rfl rfl (λhg=>?_) (λhg=>?_)|(refine Z2 rfl rfl rfl rfl (λhg=>?_) (λhg=>?_)<;>refine D1 ?_)|fail)
   refine DP T (Z0f _ _ _ _) λw8 hU T=>?_;replace q3:=q3.up hU;replace e5:=e5.up hU;by_cases g2:0<=h.move/\h.move<=2
   case neg=>
    rw [decide_eq_false g2];rw [no (by unfold Z1c;rw [decide_eq_false (λg=>g2 g.2.1),YaG])];repeat'(first|refine D1 ?_|omega|refine Z6 rfl rfl rfl rfl (λhg=>?_) (λhg=>?_)|(refine Z2 rfl rfl rfl rfl (λhg=>?_) (λhg=>?_)<;>refine D1 ?_)|fail)
    repeat'(first|refine W1 ?_|omega|refine VG ?_ ?_<;>intro hg|refine VC ?_ ?_<;>intro hc)
    refine RU ?_;exact ⟨rfl,hS.trans T⟩
   rw [decide_eq_true g2];by_cases g3:1<=h.first/\h.first<=h.last/\h.last<=9999
   case neg=>
    rw [no (by unfold Z1c;rw [decide_eq_false (λg=>g3 g.2.2),YaG])];repeat'(first|refine D1 ?_|omega|refine Z6 rfl rfl rfl rfl (λhg=>?_) (λhg=>?_)|(refine Z2 rfl rfl rfl rfl (λhg=>?_) (λhg=>?_)<;>refine D1 ?_)|fail)
    all_goals
     repeat'(first|refine W1 ?_|omega|refine VG ?_ ?_<;>intro hg|refine VC ?_ ?_<;>intro hc)
     refine RU ?_;exact ⟨rfl,hS.trans T⟩
   have gd:Z1c h=JR h:=by
    unfold Z1c;rw [decide_eq_true ⟨g1,g2,g3⟩,Yah]
   rw [gd] at no go;have bC:h.kind=1\/h.kind=2\/h.kind=3\/h.kind=4:=by omega
   rcases bC with bC|bC|bC|bC
   have eR:JR h=(Z08 h && Z9E h):=by
    unfold JR;rw [bC];rfl
   rw [eR] at no go;have db:h.kind - 1=((0:Nat):Int):=by omega
   focus repeat'(first|refine D1 ?_|omega|refine Z6 rfl rfl rfl rfl (λhg=>?_) (λhg=>?_)|(refine Z2 rfl rfl rfl rfl (λhg=>?_) (λhg=>?_)<;>refine D1 ?_)|fail)
   refine Z0V rfl (Z0c (len:=4) (i:=0) rfl rfl rfl db (by decide) rfl ?_);focus repeat'(first|refine D1 ?_|omega|refine Z6 rfl rfl rfl rfl (λhg=>?_) (λhg=>?_)|(refine Z2 rfl rfl rfl rfl (λhg=>?_) (λhg=>?_)<;>refine D1 ?_)|fail)
   refine DP T (Zh0 h _) λw9 hU T=>?_;generalize (Z08 h && Z9E h)=bb at no go ⊢;cases bb;rw [no rfl];focus repeat'(first|refine D1 ?_|omega|refine Z6 rfl rfl rfl rfl (λhg=>?_) (λhg=>?_)|(refine Z2 rfl rfl rfl rfl (λhg=>?_) (λhg=>?_)<;>refine D1 ?_)|fail)
   focus repeat'(first|refine W1 ?_|omega|refine VG ?_ ?_<;>intro hg|refine VC ?_ ?_<;>intro hc)
   refine RU ?_;exact ⟨rfl,hS.trans T⟩;focus repeat'(first|refine D1 ?_|omega|refine Z6 rfl rfl rfl rfl (λhg=>?_) (λhg=>?_)|(refine Z2 rfl rfl rfl rfl (λhg=>?_) (λhg=>?_)<;>refine D1 ?_)|fail)
   focus repeat'(first|refine W1 ?_|omega|refine VG ?_ ?_<;>intro hg|refine VC ?_ ?_<;>intro hc)
   exact QL (k+1) ⟨hlt,T,go rfl⟩ (Xp hlt (Xr k));have eR:JR h=(Z08 h && Z1H h && Z9F h):=by
    unfold JR;rw [bC];rfl
   rw [eR] at no go;have db:h.kind - 1=((1:Nat):Int):=by omega
   focus repeat'(first|refine D1 ?_|omega|refine Z6 rfl rfl rfl rfl (λhg=>?_) (λhg=>?_)|(refine Z2 rfl rfl rfl rfl (λhg=>?_) (λhg=>?_)<;>refine D1 ?_)|fail)
   refine Z0V rfl (Z0c (len:=4) (i:=1) rfl rfl rfl db (by decide) rfl ?_);focus repeat'(first|refine D1 ?_|omega|refine Z6 rfl rfl rfl rfl (λhg=>?_) (λhg=>?_)|(refine Z2 rfl rfl rfl rfl (λhg=>?_) (λhg=>?_)<;>refine D1 ?_)|fail)
   refine DP T (Zh2 h _) λw9 hU T=>?_;generalize (Z08 h && Z1H h && Z9F h)=bb at no go ⊢;cases bb;rw [no rfl];focus repeat'(first|refine D1 ?_|omega|refine Z6 rfl rfl rfl rfl (λhg=>?_) (λhg=>?_)|(refine Z2 rfl rfl rfl rfl (λhg=>?_) (λhg=>?_)<;>refine D1 ?_)|fail)
   focus repeat'(first|refine W1 ?_|omega|refine VG ?_ ?_<;>intro hg|refine VC ?_ ?_<;>intro hc)
   refine RU ?_;exact ⟨rfl,hS.trans T⟩;focus repeat'(first|refine D1 ?_|omega|refine Z6 rfl rfl rfl rfl (λhg=>?_) (λhg=>?_)|(refine Z2 rfl rfl rfl rfl (λhg=>?_) (λhg=>?_)<;>refine D1 ?_)|fail)
   focus repeat'(first|refine W1 ?_|omega|refine VG ?_ ?_<;>intro hg|refine VC ?_ ?_<;>intro hc)
   exact QL (k+1) ⟨hlt,T,go rfl⟩ (Xp hlt (Xr k));have eR:JR h=(Z08 h && Z1H h):=by
    unfold JR;rw [bC];rfl
   rw [eR] at no go;have db:h.kind - 1=((2:Nat):Int):=by omega
   focus repeat'(first|refine D1 ?_|omega|refine Z6 rfl rfl rfl rfl (λhg=>?_) (λhg=>?_)|(refine Z2 rfl rfl rfl rfl (λhg=>?_) (λhg=>?_)<;>refine D1 ?_)|fail)
   refine Z0V rfl (Z0c (len:=4) (i:=2) rfl rfl rfl db (by decide) rfl ?_);focus repeat'(first|refine D1 ?_|omega|refine Z6 rfl rfl rfl rfl (λhg=>?_) (λhg=>?_)|(refine Z2 rfl rfl rfl rfl (λhg=>?_) (λhg=>?_)<;>refine D1 ?_)|fail)
   refine DP T (Zh1 h _) λw9 hU T=>?_;generalize (Z08 h && Z1H h)=bb at no go ⊢;cases bb;rw [no rfl];focus repeat'(first|refine D1 ?_|omega|refine Z6 rfl rfl rfl rfl (λhg=>?_) (λhg=>?_)|(refine Z2 rfl rfl rfl rfl (λhg=>?_) (λhg=>?_)<;>refine D1 ?_)|fail)
   focus repeat'(first|refine W1 ?_|omega|refine VG ?_ ?_<;>intro hg|refine VC ?_ ?_<;>intro hc)
   refine RU ?_;exact ⟨rfl,hS.trans T⟩;focus repeat'(first|refine D1 ?_|omega|refine Z6 rfl rfl rfl rfl (λhg=>?_) (λhg=>?_)|(refine Z2 rfl rfl rfl rfl (λhg=>?_) (λhg=>?_)<;>refine D1 ?_)|fail)
   focus repeat'(first|refine W1 ?_|omega|refine VG ?_ ?_<;>intro hg|refine VC ?_ ?_<;>intro hc)
   exact QL (k+1) ⟨hlt,T,go rfl⟩ (Xp hlt (Xr k));have eR:JR h=(ZbJ h):=by
    unfold JR;rw [bC];rfl
   rw [eR] at no go;have db:h.kind - 1=((3:Nat):Int):=by omega
   focus repeat'(first|refine D1 ?_|omega|refine Z6 rfl rfl rfl rfl (λhg=>?_) (λhg=>?_)|(refine Z2 rfl rfl rfl rfl (λhg=>?_) (λhg=>?_)<;>refine D1 ?_)|fail)
   refine Z0V rfl (Z0c (len:=4) (i:=3) rfl rfl rfl db (by decide) rfl ?_);focus repeat'(first|refine D1 ?_|omega|refine Z6 rfl rfl rfl rfl (λhg=>?_) (λhg=>?_)|(refine Z2 rfl rfl rfl rfl (λhg=>?_) (λhg=>?_)<;>refine D1 ?_)|fail)
   refine DP T (Zh3 h _) λw9 hU T=>?_;generalize (ZbJ h)=bb at no go ⊢;cases bb;rw [no rfl];focus repeat'(first|refine D1 ?_|omega|refine Z6 rfl rfl rfl rfl (λhg=>?_) (λhg=>?_)|(refine Z2 rfl rfl rfl rfl (λhg=>?_) (λhg=>?_)<;>refine D1 ?_)|fail)
   focus repeat'(first|refine W1 ?_|omega|refine VG ?_ ?_<;>intro hg|refine VC ?_ ?_<;>intro hc)
   refine RU ?_;exact ⟨rfl,hS.trans T⟩;focus repeat'(first|refine D1 ?_|omega|refine Z6 rfl rfl rfl rfl (λhg=>?_) (λhg=>?_)|(refine Z2 rfl rfl rfl rfl (λhg=>?_) (λhg=>?_)<;>refine D1 ?_)|fail)
   focus repeat'(first|refine W1 ?_|omega|refine VG ?_ ?_<;>intro hg|refine VC ?_ ?_<;>intro hc)
   exact QL (k+1) ⟨hlt,T,go rfl⟩ (Xp hlt (Xr k))
 rw [if_pos ((ZW _ _).2 (λj h=>hz j h (by omega)))];focus repeat'(first|refine W1 ?_|omega|refine VG ?_ ?_<;>intro hg|refine VC ?_ ?_<;>intro hc)
 refine RU ?_;exact ⟨rfl,hS.trans T⟩
theorem Z5M (d:Int) (w):CC 77 #[.I d] w λr w'=>r=.B (Zw d)/\w'=w:=by
 refine cW1 9 Tryz.func77 ?_;unfold Zw;by_cases h1:d>=0;by_cases h2:d<=3652058;rw [decide_eq_true ⟨h1,h2⟩];focus repeat'(first|refine W1 ?_|omega|refine VG ?_ ?_<;>intro hg|refine VC ?_ ?_<;>intro hc)
 refine RU ?_;exact ⟨by simp [h2],rfl⟩;rw [decide_eq_false (λh=>h2 h.2)];focus repeat'(first|refine W1 ?_|omega|refine VG ?_ ?_<;>intro hg|refine VC ?_ ?_<;>intro hc)
 refine RU ?_;exact ⟨by simp [h2],rfl⟩;rw [decide_eq_false (λh=>h1 h.1)];focus repeat'(first|refine W1 ?_|omega|refine VG ?_ ?_<;>intro hg|refine VC ?_ ?_<;>intro hc)
 refine RU ?_;exact ⟨rfl,rfl⟩
theorem Zh4 (v:Value) (l:List Int) (w) (hs:SlV [] w v l):CC 29 #[v] w λr w'=>r=.I (orL l)/\Stp [] w w':=by
 have aW:=hs.max;refine cW1 18 Tryz.func29 ?_;refine W ?_;refine LP (σ:=Nat) (λk=>[(3,.I 0),(6,v),(7,.I l.length),(8,.I k)]) (λk w'=>k<=l.length/\Stp [] w w'/\∀ j (h:j<l.length),j<k->l[j]=0) (λk=>l.length - k) 0 ⟨Xo _,Stp.refl _ _,λj _ h=>absurd h (Xs _)⟩ ?_;have bU:=hs;clear hs;rintro k w1 ⟨hk,hS,hz⟩;have hs:=bU.up hS;by_cases hlt:k<l.length;by_cases h0:l[k]=0;refine QO ?_;exact QL (k+1) ⟨by omega,hS,λj h hj=>by
  by_cases e:j=k;subst e;exact h0;exact hz j h (by omega)⟩ (by omega)
 refine RT ?_;exact ⟨by rw [Zks hlt hz h0],hS⟩;refine RT ?_;exact ⟨by rw [ZdW (λj h=>hz j h (by omega))],hS⟩
theorem Zep (v:Value) (l:List Bool) (x:Bool) (w) (hs:SlV [] w v l):CC 105 #[v,.B x] w λr w'=>(∃ z:Int,r=.I z/\(0<=z↔x∈l))/\Stp [] w w':=by
 have aW:=hs.max;refine cW2 19 Tryz.func105 ?_;refine W ?_;refine LP (σ:=Nat) (λk=>[(0,v),(1,.B x),(6,v),(7,.I l.length),(8,.I k)]) (λk w'=>k<=l.length/\Stp [] w w'/\∀ j (h:j<l.length),j<k->l[j]≠x) (λk=>l.length - k) 0 ⟨Xo _,Stp.refl _ _,λj _ h=>absurd h (Xs _)⟩ ?_;rintro k w2 ⟨hk,hT,hz⟩;have aJ:=hs.up hT;by_cases hlt:k<l.length
 (refine QP ?_ ?_<;>intro hc)
 refine RU ?_;exact ⟨⟨_,rfl,⟨λ_=>hc ▸ Xb hlt,λ_=>Int.natCast_nonneg _⟩⟩,hT⟩;exact QL (k+1) ⟨hlt,hT,λj h hj=>by
  by_cases e:j=k;subst e;exact λh=>hc h.symm;exact hz j h (by omega)⟩ (by omega)
 have aR:¬ x∈l:=λh=>by
  obtain ⟨j,hj,e⟩:=Xv h;exact hz j hj (by omega) e
 refine RT ?_;exact ⟨⟨_,rfl,⟨λh=>absurd h (by decide),λh=>absurd h aR⟩⟩,hT⟩
theorem Zeq (v:Value) (l:List Bool) (x:Bool) (w) (hs:SlV [] w v l):CC 69 #[v,.B x] w λr w'=>r=.B (decide (x∈l))/\Stp [] w w':=by
 refine cW2 9 Tryz.func69 ?_;refine W ?_;refine CG (Zep v l x _ hs) ?_;rintro _ w2 ⟨⟨z,rfl,hz⟩,hT⟩;refine RT ?_;exact ⟨congrArg Value.bool (decide_eq_decide.2 hz),hT⟩
def Z3n (c:Cal):Bool:=c.week.getD 0 false && (c.week.getD 1 false && (c.week.getD 2 false && (c.week.getD 3 false && (c.week.getD 4 false && (c.week.getD 5 false && c.week.getD 6 false)))))
def Z2j (x:Clo):Bool:=decide (x.lo<=x.hi) && (Zw x.lo && (Zw x.hi && Zw x.known))
def Z5k (c:Cal) (z:Int) (sh:List Spn) (h:Int):Int:=
 if Z3n c then 1 else if Z5J c.hols≠0 then Z5J c.hols else if 200<c.clos.length then 2 else if ¬ c.clos.all Z2j=true then 5 else if Z5L z sh≠0 then Z5L z sh else if h<0\/1440<=h then 5 else 0
theorem ZoP (a b c d e f g:Bool) (w):(binOp .eql 40 (.agg #[.B a,.B b,.B c,.B d,.B e,.B f,.B g]) (.agg #[.B true,.B true,.B true,.B true,.B true,.B true,.B true])).run Tryz.prog w=.ok (.B (a && (b && (c && (d && (e && (f && g))))))) w:=by
 cases a<;>cases b<;>cases c<;>cases d<;>cases e<;>cases f<;>cases g<;>kernel_rfl
theorem Zh5 (x y:Operand) (a b c d e f g:Bool) (w):(eqGuard .eql 40 x y (.agg #[.B a,.B b,.B c,.B d,.B e,.B f,.B g]) (.agg #[.B true,.B true,.B true,.B true,.B true,.B true,.B true])).run Tryz.prog w=.ok () w:=by kernel_rfl
theorem Zh6 (w):(Instr.build 40 #[(0,.B true),(1,.B true),(2,.B true),(3,.B true),(4,.B true),(5,.B true),(6,.B true)]).run Tryz.prog w=.ok (.agg #[.B true,.B true,.B true,.B true,.B true,.B true,.B true]) w:=by kernel_rfl
theorem Zh7 (c:Cal):decide (false∈[c.week.getD 0 false,c.week.getD 1 false,c.week.getD 2 false,c.week.getD 3 false,c.week.getD 4 false,c.week.getD 5 false,c.week.getD 6 false])=!Z3n c:=by
 unfold Z3n;generalize c.week.getD 0 false=a;generalize c.week.getD 1 false=b;generalize c.week.getD 2 false=d;generalize c.week.getD 3 false=e;generalize c.week.getD 4 false=f;generalize c.week.getD 5 false=g;generalize c.week.getD 6 false=h
 revert a b d e f g h;decide
theorem Z6Y (d:Int) (w):CC 71 #[.I d] w λr w'=>r=.B (Zw d)/\Stp [] w w':=
 (Z2g d w).mono (by rintro _ _ ⟨v,rfl,h1,rfl⟩;exact ⟨v,rfl,h1,Stp.refl _ _⟩)
theorem Z3N (d:Int) (w):CC 77 #[.I d] w λr w'=>r=.B (Zw d)/\Stp [] w w':=
 (Z5M d w).mono (by rintro _ _ ⟨v,rfl,h1,rfl⟩;exact ⟨v,rfl,h1,Stp.refl _ _⟩)
theorem Z6Z (c:Cal) (hv cv zs:Value) (z h:Int) (sh:List Spn) (w) (hh:SlV [] w hv c.hols) (bD:SlV [] w cv c.clos) (hz:SlV [] w zs sh) :
 CC 32 #[.agg (Z0M c hv cv (.I z) zs (.I h)).toArray] w λr w'=>r=.I (Z5k c z sh h)/\Stp [] w w':=by
 have bL:=bD.max;unfold Z5k;refine cW1 66 Tryz.func32 ?_;refine W ?_;refine BX (Stp.refl [] w) λb1 w1 h1 e1 _ hS=>?_;replace e1:Blk w1 b1 47 (Z0M c hv cv (.I z) zs (.I h)):=e1;have kD:SlV [] w1 (.slice (some ⟨b1,0,none⟩) 7 7) [c.week.getD 0 false,c.week.getD 1 false,c.week.getD 2 false,c.week.getD 3 false,c.week.getD 4 false,c.week.getD 5 false,c.week.getD 6 false]:=by
  refine ⟨some ⟨b1,0,none⟩,7,rfl,Xq _,by simp [maxLen],λh=>by simp at h,λi hi=>⟨b1,0,[(Z0M c hv cv (.I z) zs (.I h)).getD i (.B false)],rfl,e1.lt,by simp,?_,λj u hu=>?_⟩⟩;have:i=0\/i=1\/i=2\/i=3\/i=4\/i=5\/i=6:=by simp at hi;omega
  rcases this with rfl|rfl|rfl|rfl|rfl|rfl|rfl<;>rfl
  have hj:j=0:=by
   have:=(Xu.1 hu).1;simp at this;exact this
  subst hj;refine e1.cell ?_;have:i=0\/i=1\/i=2\/i=3\/i=4\/i=5\/i=6:=by simp at hi;omega
  rcases this with rfl|rfl|rfl|rfl|rfl|rfl|rfl<;>exact hu
 refine W ?_;refine Zf (Z3A (b:=b1) rfl) rfl ?_;refine W ?_;refine CP hS (Zeq _ _ false _ kD) λw2 hT hS=>?_;replace e1:=e1.up hT;clear kD hT;rw [Zh7];cases Z3n c
 case true=>
  repeat'(first|refine W1 ?_|omega|refine VG ?_ ?_<;>intro hg|refine VC ?_ ?_<;>intro hc)
  refine RU ?_;exact ⟨rfl,hS⟩
 repeat'(first|refine W1 ?_|omega|refine VG ?_ ?_<;>intro hg|refine VC ?_ ?_<;>intro hc)
 refine CP hS (Z9I hv c.hols _ (hh.up hS)) λw3 hT hS=>?_;replace e1:=e1.up hT;by_cases g1:Z5J c.hols=0
 case neg=>
  rw [if_neg (by simp),if_pos g1];repeat'(first|refine W1 ?_|omega|refine VG ?_ ?_<;>intro hg|refine VC ?_ ?_<;>intro hc)
  refine RU ?_;exact ⟨rfl,hS⟩
 rw [g1];by_cases g2:200<c.clos.length;focus repeat'(first|refine W1 ?_|omega|refine VG ?_ ?_<;>intro hg|refine VC ?_ ?_<;>intro hc)
 refine RU ?_;exact ⟨by rw [if_neg (by simp),if_neg (by simp),if_pos g2],hS⟩;rw [if_neg (by simp),if_neg (by simp),if_neg g2];repeat'(first|refine W1 ?_|omega|refine VG ?_ ?_<;>intro hg|refine VC ?_ ?_<;>intro hc)
 refine LP (σ:=Nat) (λk=>[(1,pQ b1),(2,.I 0),(22,cv),(23,.I (c.clos.length:Int)),(24,.I (k:Int))]) (λk w'=>k<=c.clos.length/\Stp [] w3 w'/\∀ j (h:j<c.clos.length),j<k->Z2j c.clos[j]=true) (λk=>c.clos.length - k) 0 ⟨Xo _,Stp.refl _ _,λj _ h=>absurd h (Xs _)⟩ ?_;rintro k w4 ⟨hk,T,hx⟩;have q1:=e1.up T;have bz:=(bD.up hS).up T;by_cases hlt:k<c.clos.length
 . have no:Z2j c.clos[k]=false->c.clos.all Z2j=false:=λhb=>by
    rw [Yab];intro h;have:=(ZW _ _).1 h k hlt;rw [hb] at this;cases this
   have go:Z2j c.clos[k]=true->∀ j (h:j<c.clos.length),j<k+1->Z2j c.clos[j]=true:=λhb j h hj=>by
    by_cases e:j=k;subst e;exact hb;exact hx j h (by omega)
   repeat'(first|refine W1 ?_|omega|refine VG ?_ ?_<;>intro hg|refine VC ?_ ?_<;>intro hc)
   refine Z1 Z9 rfl ?_;rintro _ w5 ⟨b5,rfl,kM,e5,hU⟩;refine SA (us:=Z8.enc c.clos[k]) e5 ?_;rintro _ w6 ⟨bZ,e5⟩;replace hU:=hU.ow bZ;replace T:=T.trans hU;clear hU bZ bz q1;generalize c.clos[k]=x at *;rw [show Z2j x=(decide (x.lo<=x.hi) && (Zw x.lo && (Zw x.hi && Zw x.known))) from rfl] at no go;by_cases m1:x.lo<=x.hi
   case neg=>
    rw [no (by rw [decide_eq_false m1,YaG])];repeat'(first|refine W1 ?_|omega|refine VG ?_ ?_<;>intro hg|refine VC ?_ ?_<;>intro hc)
    refine RU ?_;exact ⟨rfl,hS.trans T⟩
   rw [decide_eq_true m1,Yah] at no go;repeat'(first|refine W1 ?_|omega|refine VG ?_ ?_<;>intro hg|refine VC ?_ ?_<;>intro hc)
   refine CP T (Z6Y _ _) λw7 hU T=>?_;replace e5:=e5.up hU;generalize Zw x.lo=m2 at no go ⊢;cases m2;rw [no rfl];focus repeat'(first|refine W1 ?_|omega|refine VG ?_ ?_<;>intro hg|refine VC ?_ ?_<;>intro hc)
   refine RU ?_;exact ⟨rfl,hS.trans T⟩;repeat'(first|refine W1 ?_|omega|refine VG ?_ ?_<;>intro hg|refine VC ?_ ?_<;>intro hc)
   refine CP T (Z6Y _ _) λw8 hU T=>?_;replace e5:=e5.up hU;generalize Zw x.hi=m3 at no go ⊢;cases m3;rw [no rfl];focus repeat'(first|refine W1 ?_|omega|refine VG ?_ ?_<;>intro hg|refine VC ?_ ?_<;>intro hc)
   refine RU ?_;exact ⟨rfl,hS.trans T⟩;repeat'(first|refine W1 ?_|omega|refine VG ?_ ?_<;>intro hg|refine VC ?_ ?_<;>intro hc)
   refine CP T (Z6Y _ _) λw9 hU T=>?_;generalize Zw x.known=m4 at no go ⊢;cases m4;rw [no rfl];focus repeat'(first|refine W1 ?_|omega|refine VG ?_ ?_<;>intro hg|refine VC ?_ ?_<;>intro hc)
   refine RU ?_;exact ⟨rfl,hS.trans T⟩;repeat'(first|refine W1 ?_|omega|refine VG ?_ ?_<;>intro hg|refine VC ?_ ?_<;>intro hc)
   exact QL (k+1) ⟨hlt,T,go rfl⟩ (Xp hlt (Xr k))
 . have cX:c.clos.all Z2j=true:=(ZW _ _).2 (λj h=>hx j h (by omega))
   have iI:=(hz.up hS).up T;rw [cX,if_neg (by simp)];repeat'(first|refine W1 ?_|omega|refine VG ?_ ?_<;>intro hg|refine VC ?_ ?_<;>intro hc)
   refine Zf (Zr rfl rfl q1 (us:=[.I z,zs]) rfl rfl) rfl ?_;repeat'(first|refine W1 ?_|omega|refine VG ?_ ?_<;>intro hg|refine VC ?_ ?_<;>intro hc)
   refine CP T (Z9G zs z sh _ iI) λw5 hU T=>?_;replace q1:=q1.up hU;by_cases g4:Z5L z sh=0
   case neg=>
    rw [if_pos g4];repeat'(first|refine W1 ?_|omega|refine VG ?_ ?_<;>intro hg|refine VC ?_ ?_<;>intro hc)
    refine RU ?_;exact ⟨rfl,hS.trans T⟩
   rw [g4,if_neg (by simp)];by_cases g5:h<0\/1440<=h
   . rw [if_pos g5]
     repeat'(first|refine W1 ?_|omega|refine VG ?_ ?_<;>intro hg|refine VC ?_ ?_<;>intro hc)
     all_goals
      refine RU ?_;exact ⟨rfl,hS.trans T⟩
   rw [if_neg g5];focus repeat'(first|refine W1 ?_|omega|refine VG ?_ ?_<;>intro hg|refine VC ?_ ?_<;>intro hc)
   refine RU ?_;exact ⟨rfl,hS.trans T⟩
theorem Z5l (c:Cal) (hv cv zs:Value) (z h:Int) (sh:List Spn) (w) (hh:SlV [] w hv c.hols) (bD:SlV [] w cv c.clos) (hz:SlV [] w zs sh) :
 CC 39 #[.agg (Z0M c hv cv (.I z) zs (.I h)).toArray] w λr w'=>r=.I (Z5k c z sh h)/\Stp [] w w':=by
 have bL:=bD.max;unfold Z5k;refine cW1 70 Tryz.func39 ?_;refine W ?_;refine BX (Stp.refl [] w) λb1 w1 h1 e1 _ hS=>?_;replace e1:Blk w1 b1 47 (Z0M c hv cv (.I z) zs (.I h)):=e1;refine W ?_;refine Zf (Zr rfl rfl e1 (us:=[.B (c.week.getD 0 false),.B (c.week.getD 1 false),.B (c.week.getD 2 false),.B (c.week.getD 3 false),.B (c.week.getD 4 false),.B (c.week.getD 5 false),.B (c.week.getD 6 false)]) rfl rfl) rfl ?_;refine Za (vs:=[(0,.B true),(1,.B true),(2,.B true),(3,.B true),(4,.B true),(5,.B true),(6,.B true)]) rfl Zh6 rfl ?_;refine Zg0 (c:=Z3n c=true) rfl rfl (λw=>Zh5 _ _ _ _ _ _ _ _ _ w) (λw=>by rw [ZoP];simp [Z3n]) rfl ?_;rw [Bool.decide_eq_true];cases Z3n c
 case true=>
  repeat'(first|refine W1 ?_|omega|refine VG ?_ ?_<;>intro hg|refine VC ?_ ?_<;>intro hc)
  refine RU ?_;exact ⟨rfl,hS⟩
 repeat'(first|refine W1 ?_|omega|refine VG ?_ ?_<;>intro hg|refine VC ?_ ?_<;>intro hc)
 refine CP hS (Z86 hv c.hols _ (hh.up hS)) λw3 hT hS=>?_;replace e1:=e1.up hT;by_cases g1:Z5J c.hols=0
 case neg=>
  rw [if_neg (by simp),if_pos g1];repeat'(first|refine W1 ?_|omega|refine VG ?_ ?_<;>intro hg|refine VC ?_ ?_<;>intro hc)
  refine RU ?_;exact ⟨rfl,hS⟩
 rw [g1];by_cases g2:200<c.clos.length;focus repeat'(first|refine W1 ?_|omega|refine VG ?_ ?_<;>intro hg|refine VC ?_ ?_<;>intro hc)
 refine RU ?_;exact ⟨by rw [if_neg (by simp),if_neg (by simp),if_pos g2],hS⟩;rw [if_neg (by simp),if_neg (by simp),if_neg g2];repeat'(first|refine W1 ?_|omega|refine VG ?_ ?_<;>intro hg|refine VC ?_ ?_<;>intro hc)
 refine LP (σ:=Nat) (λk=>[(1,pQ b1),(2,.I 0),(4,.I (k:Int))]) (λk w'=>k<=c.clos.length/\Stp [] w3 w'/\∀ j (h:j<c.clos.length),j<k->Z2j c.clos[j]=true) (λk=>c.clos.length - k) 0 ⟨Xo _,Stp.refl _ _,λj _ h=>absurd h (Xs _)⟩ ?_;rintro k w4 ⟨hk,T,hx⟩;have q1:=e1.up T;have bz:=(bD.up hS).up T;by_cases hlt:k<c.clos.length
 . have no:Z2j c.clos[k]=false->c.clos.all Z2j=false:=λhb=>by
    rw [Yab];intro h;have:=(ZW _ _).1 h k hlt;rw [hb] at this;cases this
   have go:Z2j c.clos[k]=true->∀ j (h:j<c.clos.length),j<k+1->Z2j c.clos[j]=true:=λhb j h hj=>by
    by_cases e:j=k;subst e;exact hb;exact hx j h (by omega)
   repeat'(first|refine W1 ?_|omega|refine VG ?_ ?_<;>intro hg|refine VC ?_ ?_<;>intro hc)
   refine Z1 Z9 rfl ?_;rintro _ w5 ⟨b5,rfl,kM,e5,hU⟩;refine SA (us:=Z8.enc c.clos[k]) e5 ?_;rintro _ w6 ⟨bZ,e5⟩;replace hU:=hU.ow bZ;replace T:=T.trans hU;clear hU bZ bz q1;generalize c.clos[k]=x at *;rw [show Z2j x=(decide (x.lo<=x.hi) && (Zw x.lo && (Zw x.hi && Zw x.known))) from rfl] at no go;by_cases m1:x.lo<=x.hi
   case neg=>
    rw [no (by rw [decide_eq_false m1,YaG])];repeat'(first|refine W1 ?_|omega|refine VG ?_ ?_<;>intro hg|refine VC ?_ ?_<;>intro hc)
    refine RU ?_;exact ⟨rfl,hS.trans T⟩
   rw [decide_eq_true m1,Yah] at no go;repeat'(first|refine W1 ?_|omega|refine VG ?_ ?_<;>intro hg|refine VC ?_ ?_<;>intro hc)
   refine CP T (Z3N _ _) λw7 hU T=>?_;replace e5:=e5.up hU;generalize Zw x.lo=m2 at no go ⊢;cases m2;rw [no rfl];focus repeat'(first|refine W1 ?_|omega|refine VG ?_ ?_<;>intro hg|refine VC ?_ ?_<;>intro hc)
   refine RU ?_;exact ⟨rfl,hS.trans T⟩;repeat'(first|refine W1 ?_|omega|refine VG ?_ ?_<;>intro hg|refine VC ?_ ?_<;>intro hc)
   refine CP T (Z3N _ _) λw8 hU T=>?_;replace e5:=e5.up hU;generalize Zw x.hi=m3 at no go ⊢;cases m3;rw [no rfl];focus repeat'(first|refine W1 ?_|omega|refine VG ?_ ?_<;>intro hg|refine VC ?_ ?_<;>intro hc)
   refine RU ?_;exact ⟨rfl,hS.trans T⟩;repeat'(first|refine W1 ?_|omega|refine VG ?_ ?_<;>intro hg|refine VC ?_ ?_<;>intro hc)
   refine CP T (Z3N _ _) λw9 hU T=>?_;generalize Zw x.known=m4 at no go ⊢;cases m4;rw [no rfl];focus repeat'(first|refine W1 ?_|omega|refine VG ?_ ?_<;>intro hg|refine VC ?_ ?_<;>intro hc)
   refine RU ?_;exact ⟨rfl,hS.trans T⟩;repeat'(first|refine W1 ?_|omega|refine VG ?_ ?_<;>intro hg|refine VC ?_ ?_<;>intro hc)
   exact QL (k+1) ⟨hlt,T,go rfl⟩ (Xp hlt (Xr k))
 . have cX:c.clos.all Z2j=true:=(ZW _ _).2 (λj h=>hx j h (by omega))
   have iI:=(hz.up hS).up T;rw [cX,if_neg (by simp)];repeat'(first|refine W1 ?_|omega|refine VG ?_ ?_<;>intro hg|refine VC ?_ ?_<;>intro hc)
   refine Zf (Zr rfl rfl q1 (us:=[.I z,zs]) rfl rfl) rfl ?_;repeat'(first|refine W1 ?_|omega|refine VG ?_ ?_<;>intro hg|refine VC ?_ ?_<;>intro hc)
   refine CP T (Z87 zs z sh _ iI) λw5 hU T=>?_;replace q1:=q1.up hU;by_cases g4:Z5L z sh=0
   case neg=>
    rw [if_pos g4];repeat'(first|refine W1 ?_|omega|refine VG ?_ ?_<;>intro hg|refine VC ?_ ?_<;>intro hc)
    refine RU ?_;exact ⟨rfl,hS.trans T⟩
   rw [g4,if_neg (by simp)];by_cases g5:h<0\/1440<=h
   . rw [if_pos g5]
     repeat'(first|refine W1 ?_|omega|refine VG ?_ ?_<;>intro hg|refine VC ?_ ?_<;>intro hc)
     all_goals
      refine RU ?_;exact ⟨rfl,hS.trans T⟩
   rw [if_neg g5];focus repeat'(first|refine W1 ?_|omega|refine VG ?_ ?_<;>intro hg|refine VC ?_ ?_<;>intro hc)
   refine RU ?_;exact ⟨rfl,hS.trans T⟩
theorem ZaG (a b d:Int) (w):(Instr.buildSlice 98 3 #[(0,.I a),(1,.I b),(2,.I d)]).run Tryz.prog w=.ok (.slice (some ⟨w.heap.size,0,none⟩) 3 3) (w.alloc (.cells #[.I a,.I b,.I d] 52)):=by kernel_rfl
theorem Z8e (f:Fct) (w):CC 73 #[aG f] w λr w'=>r=.B (decide (VOk f))/\Stp [] w w':=by
 have yes:VOk f->decide (VOk f)=true:=λh=>decide_eq_true h;have no:¬ VOk f->decide (VOk f)=false:=λh=>decide_eq_false h;generalize decide (VOk f)=res at yes no ⊢;unfold VOk at yes no;refine cW1 31 Tryz.func73 ?_;refine W ?_;refine BX (Stp.refl [] w) λb1 w1 h1 e1 _ hS=>?_;replace e1:Blk w1 b1 24 (Z8.enc f):=e1;repeat'(first|refine W1 ?_|omega|refine VG ?_ ?_<;>intro hg|refine VC ?_ ?_<;>intro hc)
 refine CP hS (Z2i _ _ _ _) λw2 hT hS=>?_;replace e1:=e1.up hT;by_cases g1:0<=f.entry/\f.entry<=65535
 case neg=>
  rw [decide_eq_false g1,no (λh=>g1 (by omega))];repeat'(first|refine W1 ?_|omega|refine VG ?_ ?_<;>intro hg|refine VC ?_ ?_<;>intro hc)
  refine RU ?_;exact ⟨rfl,hS⟩
 rw [decide_eq_true g1];repeat'(first|refine W1 ?_|omega|refine VG ?_ ?_<;>intro hg|refine VC ?_ ?_<;>intro hc)
 refine CP hS (Z9H _ _) λw3 hT hS=>?_;replace e1:=e1.up hT;cases g2:Z1O f.kind
 case false=>
  rw [no (λh=>by have:=h.2.1;rw [g2] at this;cases this)];repeat'(first|refine W1 ?_|omega|refine VG ?_ ?_<;>intro hg|refine VC ?_ ?_<;>intro hc)
  refine RU ?_;exact ⟨rfl,hS⟩
 repeat'(first|refine W1 ?_|omega|refine VG ?_ ?_<;>intro hg|refine VC ?_ ?_<;>intro hc)
 refine CP hS (Z2i _ _ _ _) λw4 hT hS=>?_;replace e1:=e1.up hT;by_cases g3:0<=f.day/\f.day<=3652058
 case neg=>
  rw [decide_eq_false g3,no (λh=>g3 (by omega))];repeat'(first|refine W1 ?_|omega|refine VG ?_ ?_<;>intro hg|refine VC ?_ ?_<;>intro hc)
  refine RU ?_;exact ⟨rfl,hS⟩
 rw [decide_eq_true g3];repeat'(first|refine W1 ?_|omega|refine VG ?_ ?_<;>intro hg|refine VC ?_ ?_<;>intro hc)
 refine CP hS (Z2i _ _ _ _) λw5 hT hS=>?_;replace e1:=e1.up hT;by_cases g4:0<=f.by_/\f.by_<=63
 case neg=>
  rw [decide_eq_false g4,no (λh=>g4 (by omega))];repeat'(first|refine W1 ?_|omega|refine VG ?_ ?_<;>intro hg|refine VC ?_ ?_<;>intro hc)
  refine RU ?_;exact ⟨rfl,hS⟩
 rw [decide_eq_true g4];repeat'(first|refine W1 ?_|omega|refine VG ?_ ?_<;>intro hg|refine VC ?_ ?_<;>intro hc)
 refine CP hS (Z2i _ _ _ _) λw6 hT hS=>?_;replace e1:=e1.up hT;by_cases g5:0<=f.to_/\f.to_<=63
 case neg=>
  rw [decide_eq_false g5,no (λh=>g5 (by omega))];repeat'(first|refine W1 ?_|omega|refine VG ?_ ?_<;>intro hg|refine VC ?_ ?_<;>intro hc)
  refine RU ?_;exact ⟨rfl,hS⟩
 rw [decide_eq_true g5];repeat'(first|refine W1 ?_|omega|refine VG ?_ ?_<;>intro hg|refine VC ?_ ?_<;>intro hc)
 refine CP hS (Z2i _ _ _ _) λw7 hT hS=>?_;by_cases g6:-2147483647<=f.amt/\f.amt<=2147483647
 case neg=>
  rw [decide_eq_false g6,no (λh=>g6 (by omega))];repeat'(first|refine W1 ?_|omega|refine VG ?_ ?_<;>intro hg|refine VC ?_ ?_<;>intro hc)
  refine RU ?_;exact ⟨rfl,hS⟩
 rw [decide_eq_true g6,yes ⟨by omega,g2,by omega,by omega,by omega,g6⟩];repeat'(first|refine W1 ?_|omega|refine VG ?_ ?_<;>intro hg|refine VC ?_ ?_<;>intro hc)
 refine RU ?_;exact ⟨rfl,hS⟩
theorem ZaH (x:Int) (r:List Int):orL (x :: r)=if x≠0 then x else orL r:=by
 unfold orL;rw [List.find?_cons];by_cases h:x=0;simp [h];simp [h]
theorem Z4d (v:Value) (l:List Int) (w) (hs:SlV [] w v l):CC 33 #[v] w λr w'=>r=.I (orL l)/\Stp [] w w':=by
 have dz:=hs.max;refine cW1 19 Tryz.func33 ?_;repeat'(first|refine W1 ?_|omega|refine VG ?_ ?_<;>intro hg|refine VC ?_ ?_<;>intro hc)
 refine LP (σ:=Nat) (λk=>[(0,v),(2,.I 0),(3,.I (k:Int))]) (λk W=>k<=l.length/\orL l=orL (l.drop k)/\Stp [] w W) (λk=>l.length - k) 0 ⟨Xo _,rfl,Stp.refl _ _⟩ ?_;rintro k w2 ⟨hk,az,hS⟩;have aJ:=hs.up hS;by_cases hlt:k<l.length;have hd:l.drop k=l[k] :: l.drop (k+1):=XI hlt;rw [hd] at az;by_cases he:l[k]=0;have iw:orL (l[k] :: l.drop (k+1))=orL (l.drop (k+1)):=by rw [ZaH,if_neg (not_not_intro he)]
 rw [iw] at az;focus repeat'(first|refine W1 ?_|omega|refine VG ?_ ?_<;>intro hg|refine VC ?_ ?_<;>intro hc)
 exact QL (k+1) ⟨hlt,az,hS⟩ (Xp hlt (Xr k));have iw:orL (l[k] :: l.drop (k+1))=l[k]:=by rw [ZaH,if_pos he]
 rw [iw] at az;focus repeat'(first|refine W1 ?_|omega|refine VG ?_ ?_<;>intro hg|refine VC ?_ ?_<;>intro hc)
 refine RU ?_;exact ⟨by rw [az],hS⟩;obtain rfl:k=l.length:=by omega
 rw [Yar] at az;focus repeat'(first|refine W1 ?_|omega|refine VG ?_ ?_<;>intro hg|refine VC ?_ ?_<;>intro hc)
 refine RU ?_;exact ⟨by rw [az];rfl,hS⟩
def Z4j (x:Crr):Bool:=decide ((0<=x.extra/\x.extra<=1000)/\0<=x.tol/\x.tol<=1000)
def Z9J (q:Cr):Bool:=decide (chkC q=0)
def Z5m (l:List Crr):Int:=if 16<l.length then 2 else if l.all Z4j then 0 else 5
def Z4k (l:List Cr):Int:=if 1024<l.length then 2 else if l.all Z9J then 0 else 22
theorem Z8f (v:Value) (l:List Fct) (w) (hs:SlV [] w v l):CC 34 #[v] w λr w'=>r=.I (Z2G [] l)/\Stp [] w w':=by
 have dz:=hs.max;refine cW1 33 Tryz.func34 ?_;repeat'(first|refine W1 ?_|omega|refine VG ?_ ?_<;>intro hg|refine VC ?_ ?_<;>intro hc)
 refine LP (σ:=Nat) (λk=>[(0,v),(2,.I 0),(3,.I (k:Int))]) (λk W=>k<=l.length/\Z2G [] l=Z2G ((l.take k).map (·.entry)) (l.drop k)/\Stp [] w W) (λk=>l.length - k) 0 ⟨Xo _,rfl,Stp.refl _ _⟩ ?_;rintro k w2 ⟨hk,az,hS⟩;have aJ:=hs.up hS;by_cases hlt:k<l.length
 . have hd:l.drop k=l[k] :: l.drop (k+1):=XI hlt
   rw [hd,Z3M] at az;repeat'(first|refine W1 ?_|omega|refine VG ?_ ?_<;>intro hg|refine VC ?_ ?_<;>intro hc)
   refine CP hS (Z8e l[k] _) λw3 hT hS=>?_;by_cases hv:VOk l[k]
   case neg=>
    rw [decide_eq_false hv];rw [if_pos hv] at az;repeat'(first|refine W1 ?_|omega|refine VG ?_ ?_<;>intro hg|refine VC ?_ ?_<;>intro hc)
    refine RU ?_;exact ⟨by rw [az],hS⟩
   rw [decide_eq_true hv];rw [if_neg (not_not_intro hv)] at az;repeat'(first|refine W1 ?_|omega|refine VG ?_ ?_<;>intro hg|refine VC ?_ ?_<;>intro hc)
   refine LP (σ:=Nat) (λj=>[(0,v),(2,.I 0),(3,.I (k:Int)),(4,.I (j:Int))]) (λj W=>j<=k/\Stp [] w W/\∀ i (h:i<l.length),i<j->l[i].entry≠l[k].entry) (λj=>k - j) 0 ⟨Xo _,hS,λi _ h=>absurd h (Xs _)⟩ ?_;clear hS hT aJ;rintro j w4 ⟨hj,hS,aZ⟩;have aJ:=hs.up hS;by_cases gM:j<k;have fk:j<l.length:=by omega
   focus repeat'(first|refine W1 ?_|omega|refine VG ?_ ?_<;>intro hg|refine VC ?_ ?_<;>intro hc)
   refine ZDr 11 [] [] [(0,0),(1,0),(2,0),(3,0),(4,1),(5,0),(6,0),(7,0),(8,0),(9,1),(10,0)] (λw1 ae=>?_);replace aJ:=aJ.up ae;replace hS:=hS.trans ae;clear ae;focus repeat'(first|refine D1 ?_|omega|refine Z6 rfl rfl rfl rfl (λhg=>?_) (λhg=>?_)|(refine Z2 rfl rfl rfl rfl (λhg=>?_) (λhg=>?_)<;>refine D1 ?_)|fail)
   focus repeat'(first|refine W1 ?_|omega|refine VG ?_ ?_<;>intro hg|refine VC ?_ ?_<;>intro hc)
   rw [if_pos (XO.2 ⟨l[j],List.mem_take_iff_getElem.2 ⟨j,by omega,rfl⟩,hc⟩)] at az;refine RU ?_;exact ⟨by rw [az],hS⟩;exact QL (j+1) ⟨gM,hS,λi h hi=>by
    by_cases e:i=j;subst e;exact hc;exact aZ i h (by omega)⟩ (Xp gM (Xr j))
   have aR:¬ l[k].entry∈(l.take k).map (·.entry):=λh=>by
    obtain ⟨x,hx,he⟩:=XO.1 h;obtain ⟨i,hi,rfl⟩:=List.mem_take_iff_getElem.1 hx;exact aZ i (by omega) (by omega) he
   rw [if_neg aR] at az;focus repeat'(first|refine W1 ?_|omega|refine VG ?_ ?_<;>intro hg|refine VC ?_ ?_<;>intro hc)
   exact QL (k+1) ⟨hlt,by rw [az,Xw hlt,XR];rfl,hS⟩ (Xp hlt (Xr k))
 obtain rfl:k=l.length:=by omega
 rw [Yar] at az;focus repeat'(first|refine W1 ?_|omega|refine VG ?_ ?_<;>intro hg|refine VC ?_ ?_<;>intro hc)
 refine RU ?_;exact ⟨by rw [az];rfl,hS⟩
theorem Z5n (v:Value) (l:List Crr) (w) (hs:SlV [] w v l):CC 35 #[v] w λr w'=>r=.I (Z5m l)/\Stp [] w w':=by
 have dz:=hs.max;unfold Z5m;refine cW1 29 Tryz.func35 ?_;by_cases dH:16<l.length;rw [if_pos dH];focus repeat'(first|refine W1 ?_|omega|refine VG ?_ ?_<;>intro hg|refine VC ?_ ?_<;>intro hc)
 refine RU ?_;exact ⟨rfl,Stp.refl _ _⟩;rw [if_neg dH];repeat'(first|refine W1 ?_|omega|refine VG ?_ ?_<;>intro hg|refine VC ?_ ?_<;>intro hc)
 refine LP (σ:=Nat) (λk=>[(0,v),(2,.I 0),(3,.I (k:Int))]) (λk w'=>k<=l.length/\Stp [] w w'/\∀ j (h:j<l.length),j<k->((0<=l[j].extra/\l[j].extra<=1000)/\0<=l[j].tol/\l[j].tol<=1000)) (λk=>l.length - k) 0 ⟨Xo _,Stp.refl _ _,λj _ h=>absurd h (Xs _)⟩ ?_;rintro k w1 ⟨hk,hT,hz⟩;have aJ:=hs.up hT;by_cases hlt:k<l.length
 . have no:¬ ((0<=l[k].extra/\l[k].extra<=1000)/\0<=l[k].tol/\l[k].tol<=1000)->l.all Z4j=false:=λhb=>by
    rw [Yab];intro h;exact hb (of_decide_eq_true ((ZW _ _).1 h k hlt))
   repeat'(first|refine W1 ?_|omega|refine VG ?_ ?_<;>intro hg|refine VC ?_ ?_<;>intro hc)
   refine CP hT (Z0x _ _ _ _) λw2 hU hT=>?_;replace aJ:=aJ.up hU;by_cases g1:0<=l[k].extra/\l[k].extra<=1000
   case neg=>
    rw [decide_eq_false g1,no (λh=>g1 h.1)];repeat'(first|refine W1 ?_|omega|refine VG ?_ ?_<;>intro hg|refine VC ?_ ?_<;>intro hc)
    refine RU ?_;exact ⟨rfl,hT⟩
   rw [decide_eq_true g1];repeat'(first|refine W1 ?_|omega|refine VG ?_ ?_<;>intro hg|refine VC ?_ ?_<;>intro hc)
   refine CP hT (Z0x _ _ _ _) λw3 hU hT=>?_;by_cases g2:0<=l[k].tol/\l[k].tol<=1000
   case neg=>
    rw [decide_eq_false g2,no (λh=>g2 h.2)];repeat'(first|refine W1 ?_|omega|refine VG ?_ ?_<;>intro hg|refine VC ?_ ?_<;>intro hc)
    refine RU ?_;exact ⟨rfl,hT⟩
   rw [decide_eq_true g2];repeat'(first|refine W1 ?_|omega|refine VG ?_ ?_<;>intro hg|refine VC ?_ ?_<;>intro hc)
   exact QL (k+1) ⟨hlt,hT,λj h hj=>by
    by_cases e:j=k;subst e;exact ⟨g1,g2⟩;exact hz j h (by omega)⟩ (Xp hlt (Xr k))
 rw [if_pos ((ZW Z4j _).2 (λj h=>decide_eq_true (hz j h (by omega))))];focus repeat'(first|refine W1 ?_|omega|refine VG ?_ ?_<;>intro hg|refine VC ?_ ?_<;>intro hc)
 refine RU ?_;exact ⟨rfl,hT⟩
theorem Z8g (v:Value) (l:List Cr) (w) (hs:SlV [] w v l):CC 36 #[v] w λr w'=>r=.I (Z4k l)/\Stp [] w w':=by
 have dz:=hs.max;unfold Z4k;refine cW1 19 Tryz.func36 ?_;by_cases dH:1024<l.length;rw [if_pos dH];focus repeat'(first|refine W1 ?_|omega|refine VG ?_ ?_<;>intro hg|refine VC ?_ ?_<;>intro hc)
 refine RU ?_;exact ⟨rfl,Stp.refl _ _⟩;rw [if_neg dH];repeat'(first|refine W1 ?_|omega|refine VG ?_ ?_<;>intro hg|refine VC ?_ ?_<;>intro hc)
 refine LP (σ:=Nat) (λk=>[(0,v),(2,.I 0),(3,.I (k:Int))]) (λk w'=>k<=l.length/\Stp [] w w'/\∀ j (h:j<l.length),j<k->chkC l[j]=0) (λk=>l.length - k) 0 ⟨Xo _,Stp.refl _ _,λj _ h=>absurd h (Xs _)⟩ ?_;rintro k w1 ⟨hk,hT,hz⟩;have aJ:=hs.up hT;by_cases hlt:k<l.length
 . obtain ⟨cs0,⟨kc,kd,rfl,gE,cI⟩,an⟩:=aJ.cell hlt
   repeat'(first|refine W1 ?_|omega|refine VG ?_ ?_<;>intro hg|refine VC ?_ ?_<;>intro hc)
   refine Zf (Z3f rfl rfl aJ hlt ⟨kc,kd,rfl,gE,cI⟩ an) rfl ?_;repeat'(first|refine W1 ?_|omega|refine VG ?_ ?_<;>intro hg|refine VC ?_ ?_<;>intro hc)
   refine CP hT (Z82 _ l[k] _ ⟨kc,kd,rfl,gE,cI⟩) λw2 hU hT=>?_;by_cases g1:chkC l[k]=0
   case neg=>
    have no:l.all Z9J=false:=by
     rw [Yab];intro h;exact g1 (of_decide_eq_true ((ZW _ _).1 h k hlt))
    rw [no];repeat'(first|refine W1 ?_|omega|refine VG ?_ ?_<;>intro hg|refine VC ?_ ?_<;>intro hc)
    refine RU ?_;exact ⟨rfl,hT⟩
   rw [g1];repeat'(first|refine W1 ?_|omega|refine VG ?_ ?_<;>intro hg|refine VC ?_ ?_<;>intro hc)
   exact QL (k+1) ⟨hlt,hT,λj h hj=>by
    by_cases e:j=k;subst e;exact g1;exact hz j h (by omega)⟩ (Xp hlt (Xr k))
 rw [if_pos ((ZW Z9J _).2 (λj h=>decide_eq_true (hz j h (by omega))))];focus repeat'(first|refine W1 ?_|omega|refine VG ?_ ?_<;>intro hg|refine VC ?_ ?_<;>intro hc)
 refine RU ?_;exact ⟨rfl,hT⟩
def Zes (c:Cas) (z:Int) (sh:List Spn) (h:Int):Int:=orL [Z2h c.crrs.length c.atts,Z6M c.stys,Z5k c.cal z sh h]
def Z9K (c:Cas) (z:Int) (sh:List Spn) (h:Int):Int:=
 if Z2G [] c.fcts≠0 then Z2G [] c.fcts else if Z5m c.crrs≠0 then Z5m c.crrs else if Z4k c.ruls≠0 then Z4k c.ruls else
 if Zes c z sh h≠0 then Zes c z sh h else if (0<=c.court/\c.court<=15)/\0<=c.today/\c.today<=3652058 then 0 else 5
structure Z1V (w:World) (c:Cas) (R:Z0U) (z:Int) (sh:List Spn) (h:Int):Prop where
 ff:SlV [] w R.fv c.fcts
 rr:SlV [] w R.rv c.ruls
 aa:SlV [] w R.av c.atts
 cc:SlV [] w R.cv c.crrs
 ss:SlV [] w R.sv c.stys
 ho:SlV [] w R.hv c.cal.hols
 cl:SlV [] w R.lv c.cal.clos
 zo:R.zo=.I z
 zs:SlV [] w R.zs sh
 hr:R.hr=.I h
theorem Z1V.up {w w':World} {c:Cas} {R:Z0U} {z h:Int} {sh:List Spn} (g:Z1V w c R z sh h) (hS:Stp [] w w'):Z1V w' c R z sh h:=⟨g.ff.up hS,g.rr.up hS,g.aa.up hS,g.cc.up hS,g.ss.up hS,g.ho.up hS,g.cl.up hS,g.zo,g.zs.up hS,g.hr⟩
theorem Z2N (c:Cas) (R:Z0U) (z h:Int) (sh:List Spn) (w) (m:Int) (hF:SlV [] w Z1R Zb) (cA:w.cell? ⟨2,0,none⟩=some (.I m)) (hv:Z1V w c R z sh h) (fm:∀ f∈c.fcts,(f.kind.length:Int)<=maxLen) (cX:c.atts.length<=65536) :
 CC 7 #[.agg (Jh c R).toArray] w λr w'=>r=.I (Z9K c z sh h)/\Stp [] w w':=by
 have qQ:=hv.cc.max;have qR:=hv.rr.max;unfold Z9K;refine cW1 78 Tryz.func7 ?_;refine W ?_;refine BX (Stp.refl [] w) λb1 w1 h1 e1 _ hS=>?_;replace e1:Blk w1 b1 49 (Jh c R):=e1;repeat'(first|refine W1 ?_|omega|refine VG ?_ ?_<;>intro hg|refine VC ?_ ?_<;>intro hc)
 refine CP hS (Z5h R.fv c.fcts _ fm (hv.ff.up hS)) λw2 hT hS=>?_;replace e1:=e1.up hT;by_cases g1:Z2G [] c.fcts=0
 case neg=>
  rw [if_pos g1];generalize Z2G [] c.fcts=z at *;repeat'(first|refine W1 ?_|omega|refine VG ?_ ?_<;>intro hg|refine VC ?_ ?_<;>intro hc)
  refine RU ?_;exact ⟨rfl,hS⟩
 rw [if_neg (not_not_intro g1),g1];have nY:=(hv.up hS).cc;by_cases g2:16<c.crrs.length;have bz:Z5m c.crrs=2:=if_pos g2;rw [bz,if_pos (by decide)];focus repeat'(first|refine W1 ?_|omega|refine VG ?_ ?_<;>intro hg|refine VC ?_ ?_<;>intro hc)
 refine RU ?_;exact ⟨rfl,hS⟩;have bz:Z5m c.crrs=if c.crrs.all Z4j then 0 else 5:=if_neg g2
 repeat'(first|refine W1 ?_|omega|refine VG ?_ ?_<;>intro hg|refine VC ?_ ?_<;>intro hc)
 refine LP (σ:=Nat) (λk=>[(1,pQ b1),(2,.I 0),(20,R.cv),(21,.I (c.crrs.length:Int)),(22,.I (k:Int))]) (λk w'=>k<=c.crrs.length/\Stp [] w2 w'/\∀ j (h:j<c.crrs.length),j<k->Z4j c.crrs[j]=true) (λk=>c.crrs.length - k) 0 ⟨Xo _,Stp.refl _ _,λj _ h=>absurd h (Xs _)⟩ ?_;rintro k y1 ⟨hk,bJ,hz⟩;have e1':=e1.up bJ;have ae:=hS.trans bJ;have jZ:=nY.up bJ;by_cases hlt:k<c.crrs.length
 . have no:Z4j c.crrs[k]=false->Z5m c.crrs=5:=λhb=>by
    rw [bz,if_neg];intro h;have:=(ZW Z4j _).1 h k hlt;rw [hb] at this;cases this
   have go:Z4j c.crrs[k]=true->∀ j (h:j<c.crrs.length),j<k+1->Z4j c.crrs[j]=true:=λhb j h hj=>by
    by_cases e:j=k;subst e;exact hb;exact hz j h (by omega)
   repeat'(first|refine W1 ?_|omega|refine VG ?_ ?_<;>intro hg|refine VC ?_ ?_<;>intro hc)
   refine Z1 Z9 rfl ?_;rintro _ w3 ⟨b6,rfl,iH,e6,hU⟩;refine SA (us:=Z8.enc c.crrs[k]) e6 ?_;rintro _ w4 ⟨bZ,e6⟩;replace hU:=hU.ow bZ;replace bJ:=bJ.trans hU;clear hU bZ e1' ae jZ;generalize c.crrs[k]=x at no go e6 ⊢;unfold Z4j at no;repeat'(first|refine W1 ?_|omega|refine VG ?_ ?_<;>intro hg|refine VC ?_ ?_<;>intro hc)
   refine CP bJ (Z14 _ _ _ _) λw5 hT bJ=>?_;replace e6:=e6.up hT;by_cases x1:0<=x.extra/\x.extra<=1000
   case neg=>
    rw [decide_eq_false x1,no (decide_eq_false (λg=>x1 g.1)),if_pos (by decide)];repeat'(first|refine W1 ?_|omega|refine VG ?_ ?_<;>intro hg|refine VC ?_ ?_<;>intro hc)
    refine RU ?_;exact ⟨rfl,hS.trans bJ⟩
   rw [decide_eq_true x1];repeat'(first|refine W1 ?_|omega|refine VG ?_ ?_<;>intro hg|refine VC ?_ ?_<;>intro hc)
   refine CP bJ (Z14 _ _ _ _) λw6 hT bJ=>?_;by_cases x2:0<=x.tol/\x.tol<=1000
   case neg=>
    rw [decide_eq_false x2,no (decide_eq_false (λg=>x2 g.2)),if_pos (by decide)];repeat'(first|refine W1 ?_|omega|refine VG ?_ ?_<;>intro hg|refine VC ?_ ?_<;>intro hc)
    refine RU ?_;exact ⟨rfl,hS.trans bJ⟩
   rw [decide_eq_true x2];repeat'(first|refine W1 ?_|omega|refine VG ?_ ?_<;>intro hg|refine VC ?_ ?_<;>intro hc)
   exact QL (k+1) ⟨hlt,bJ,go (decide_eq_true ⟨x1,x2⟩)⟩ (Xp hlt (Xr k))
 have jQ:Z5m c.crrs=0:=by rw [bz,if_pos ((ZW Z4j _).2 (λj h=>hz j h (by omega)))]
 rw [if_neg (not_not_intro jQ)];replace e1:=e1';replace hS:=ae;clear e1' ae jZ nY bJ hT hz bz;have nZ:=(hv.up hS).rr;by_cases g3:1024<c.ruls.length;have j0:Z4k c.ruls=2:=if_pos g3;rw [j0,if_pos (by decide)];focus repeat'(first|refine W1 ?_|omega|refine VG ?_ ?_<;>intro hg|refine VC ?_ ?_<;>intro hc)
 refine RU ?_;exact ⟨rfl,hS⟩;have j0:Z4k c.ruls=if c.ruls.all Z9J then 0 else 22:=if_neg g3
 repeat'(first|refine W1 ?_|omega|refine VG ?_ ?_<;>intro hg|refine VC ?_ ?_<;>intro hc)
 refine LP (σ:=Nat) (λk=>[(1,pQ b1),(2,.I 0),(42,R.rv),(43,.I (c.ruls.length:Int)),(44,.I (k:Int))]) (λk w'=>k<=c.ruls.length/\Stp [] y1 w'/\∀ j (h:j<c.ruls.length),j<k->chkC c.ruls[j]=0) (λk=>c.ruls.length - k) 0 ⟨Xo _,Stp.refl _ _,λj _ h=>absurd h (Xs _)⟩ ?_;rintro k y2 ⟨hk,bJ,hz⟩;have e1':=e1.up bJ;have ae:=hS.trans bJ;have ix:=nZ.up bJ;by_cases hlt:k<c.ruls.length
 . obtain ⟨cs0,⟨kc,kd,rfl,gE,cI⟩,an⟩:=ix.cell hlt
   repeat'(first|refine W1 ?_|omega|refine VG ?_ ?_<;>intro hg|refine VC ?_ ?_<;>intro hc)
   refine Zf (Z3f rfl rfl ix hlt ⟨kc,kd,rfl,gE,cI⟩ an) rfl ?_;refine Z1 Z9 rfl ?_;rintro _ w3 ⟨b6,rfl,iH,e6,hU⟩;refine SB (us:=crC c.ruls[k] kc kd) (Z1C gE cI) e6 ?_;rintro _ w4 ⟨bZ,e6⟩;replace hU:=hU.ow bZ;replace bJ:=bJ.trans hU;have dv:=hS.trans bJ;repeat'(first|refine W1 ?_|omega|refine VG ?_ ?_<;>intro hg|refine VC ?_ ?_<;>intro hc)
   refine CP bJ (Z9A _ c.ruls[k] _ m (hF.up dv) (dv.cell (by simp) cA) ⟨kc,kd,rfl,gE.up hU,cI.up hU⟩) λw5 hT bJ=>?_
   by_cases x1:chkC c.ruls[k]=0
   case neg=>
    have qS:Z4k c.ruls=22:=by
     rw [j0,if_neg];intro h;exact x1 (of_decide_eq_true ((ZW Z9J _).1 h k hlt))
    rw [qS,if_pos (by decide)];repeat'(first|refine W1 ?_|omega|refine VG ?_ ?_<;>intro hg|refine VC ?_ ?_<;>intro hc)
    refine RU ?_;exact ⟨rfl,hS.trans bJ⟩
   rw [x1];repeat'(first|refine W1 ?_|omega|refine VG ?_ ?_<;>intro hg|refine VC ?_ ?_<;>intro hc)
   exact QL (k+1) ⟨hlt,bJ,λj h hj=>by
    by_cases e:j=k;subst e;exact x1;exact hz j h (by omega)⟩ (Xp hlt (Xr k))
 have qT:Z4k c.ruls=0:=by rw [j0,if_pos ((ZW Z9J _).2 (λj h=>decide_eq_true (hz j h (by omega))))]
 rw [if_neg (not_not_intro qT)];replace e1:=e1';replace hS:=ae;clear e1' ae ix nZ bJ hz j0;have bt:=hv.up hS;have cU:=hv.zo;have eo:=hv.hr;unfold Zes;repeat'(first|refine W1 ?_|omega|refine VG ?_ ?_<;>intro hg|refine VC ?_ ?_<;>intro hc)
 refine ZDr 14 [] [] [(0,0),(1,1),(2,0),(3,1),(5,0),(6,1),(8,0),(9,1),(4,2),(7,2),(10,2),(11,2),(12,2),(13,0)] (λw1 ae=>?_);replace e1:=e1.up ae;replace hS:=hS.trans ae;replace bt:=bt.up ae;repeat'(first|refine D1 ?_|omega|refine Z6 rfl rfl rfl rfl (λhg=>?_) (λhg=>?_)|(refine Z2 rfl rfl rfl rfl (λhg=>?_) (λhg=>?_)<;>refine D1 ?_)|fail)
 refine WD_read rfl trivial (λw' aE=>Zr rfl rfl (e1.up aE) (us:=Z0M c.cal R.hv R.lv R.zo R.zs R.hr) rfl rfl) rfl ?_;repeat'(first|refine D1 ?_|omega|refine Z6 rfl rfl rfl rfl (λhg=>?_) (λhg=>?_)|(refine Z2 rfl rfl rfl rfl (λhg=>?_) (λhg=>?_)<;>refine D1 ?_)|fail)
 refine DP hS (Z6W R.av R.cv c.atts c.crrs _ cX bt.aa bt.cc) λw5 hT hS=>?_;replace e1:=e1.up hT;replace bt:=bt.up hT;repeat'(first|refine D1 ?_|omega|refine Z6 rfl rfl rfl rfl (λhg=>?_) (λhg=>?_)|(refine Z2 rfl rfl rfl rfl (λhg=>?_) (λhg=>?_)<;>refine D1 ?_)|fail)
 refine DP hS (Z6N R.sv c.stys _ bt.ss) λw6 hT hS=>?_;replace e1:=e1.up hT;replace bt:=bt.up hT;repeat'(first|refine D1 ?_|omega|refine Z6 rfl rfl rfl rfl (λhg=>?_) (λhg=>?_)|(refine Z2 rfl rfl rfl rfl (λhg=>?_) (λhg=>?_)<;>refine D1 ?_)|fail)
 have dR:CC 32 #[.agg (Z0M c.cal R.hv R.lv R.zo R.zs R.hr).toArray] w6 λr w'=>r=.I (Z5k c.cal z sh h)/\Stp [] w6 w':=by
  rw [cU,eo];exact Z6Z c.cal R.hv R.lv R.zs z h sh _ bt.ho bt.cl bt.zs
 refine DP hS dR λw7 hT hS=>?_;replace e1:=e1.up hT;generalize Z2h c.crrs.length c.atts=v1;generalize Z6M c.stys=v2;generalize Z5k c.cal z sh h=v3;repeat'(first|refine D1 ?_|omega|refine Z6 rfl rfl rfl rfl (λhg=>?_) (λhg=>?_)|(refine Z2 rfl rfl rfl rfl (λhg=>?_) (λhg=>?_)<;>refine D1 ?_)|fail)
 refine Z7 rfl trivial (Z0 rfl (ZaG v1 v2 v3)) (λ_ _ h=>Z5.stp h) rfl ?_;rintro vs w8 hN;have eQ:SlV [] w8 vs ([v1,v2,v3]:List Int):=hN.slv (by simp) rfl rfl (by simp [maxLen]);have hU:=Z5.stp hN;clear hN;replace e1:=e1.up hU;replace hS:=hS.trans hU;repeat'(first|refine D1 ?_|omega|refine Z6 rfl rfl rfl rfl (λhg=>?_) (λhg=>?_)|(refine Z2 rfl rfl rfl rfl (λhg=>?_) (λhg=>?_)<;>refine D1 ?_)|fail)
 refine DP hS (Zh4 vs [v1,v2,v3] _ eQ) λw9 hT hS=>?_;replace e1:=e1.up hT;generalize orL [v1,v2,v3]=v4;by_cases g4:v4=0
 case neg=>
  rw [if_pos g4];repeat'(first|refine D1 ?_|omega|refine Z6 rfl rfl rfl rfl (λhg=>?_) (λhg=>?_)|(refine Z2 rfl rfl rfl rfl (λhg=>?_) (λhg=>?_)<;>refine D1 ?_)|fail)
  repeat'(first|refine W1 ?_|omega|refine VG ?_ ?_<;>intro hg|refine VC ?_ ?_<;>intro hc)
  refine RU ?_;exact ⟨rfl,hS⟩
 subst g4;rw [if_neg (by simp)];repeat'(first|refine D1 ?_|omega|refine Z6 rfl rfl rfl rfl (λhg=>?_) (λhg=>?_)|(refine Z2 rfl rfl rfl rfl (λhg=>?_) (λhg=>?_)<;>refine D1 ?_)|fail)
 repeat'(first|refine W1 ?_|omega|refine VG ?_ ?_<;>intro hg|refine VC ?_ ?_<;>intro hc)
 refine CP hS (Z14 _ _ _ _) λw10 hT hS=>?_;replace e1:=e1.up hT;by_cases g5:0<=c.court/\c.court<=15
 case neg=>
  rw [decide_eq_false g5,if_neg (λh=>g5 h.1)];repeat'(first|refine W1 ?_|omega|refine VG ?_ ?_<;>intro hg|refine VC ?_ ?_<;>intro hc)
  refine RU ?_;exact ⟨rfl,hS⟩
 rw [decide_eq_true g5];repeat'(first|refine W1 ?_|omega|refine VG ?_ ?_<;>intro hg|refine VC ?_ ?_<;>intro hc)
 refine CP hS (Z14 _ _ _ _) λw11 hT hS=>?_;by_cases g6:0<=c.today/\c.today<=3652058
 case neg=>
  rw [decide_eq_false g6,if_neg (λh=>g6 h.2)];repeat'(first|refine W1 ?_|omega|refine VG ?_ ?_<;>intro hg|refine VC ?_ ?_<;>intro hc)
  refine RU ?_;exact ⟨rfl,hS⟩
 rw [decide_eq_true g6,if_pos ⟨g5,g6⟩];repeat'(first|refine W1 ?_|omega|refine VG ?_ ?_<;>intro hg|refine VC ?_ ?_<;>intro hc)
 refine RU ?_;exact ⟨rfl,hS⟩
theorem Zh8 (a b:Int) (w):(Instr.buildSlice 98 2 #[(0,.I a),(1,.I b)]).run Tryz.prog w=.ok (.slice (some ⟨w.heap.size,0,none⟩) 2 2) (w.alloc (.cells #[.I a,.I b] 52)):=by kernel_rfl
theorem Z5o (c:Cas) (R:Z0U) (z h:Int) (sh:List Spn) (w) (hv:Z1V w c R z sh h) (cX:c.atts.length<=65536) :
 CC 8 #[.agg (Jh c R).toArray] w λr w'=>r=.I (Z9K c z sh h)/\Stp [] w w':=by
 have cU:=hv.zo;have eo:=hv.hr;unfold Z9K;refine cW1 47 Tryz.func8 ?_;refine W ?_;refine BX (Stp.refl [] w) λb1 w1 h1 e1 _ hS=>?_;replace e1:Blk w1 b1 49 (Jh c R):=e1;have bt:=hv.up hS;repeat'(first|refine W1 ?_|omega|refine VG ?_ ?_<;>intro hg|refine VC ?_ ?_<;>intro hc)
 refine ZDr 9 [] [] [(0,0),(1,1),(3,0),(4,1),(2,2),(5,2),(6,2),(7,2),(8,0)] (λw1 ae=>?_);replace e1:=e1.up ae;replace bt:=bt.up ae;replace hS:=hS.trans ae;clear ae;repeat'(first|refine D1 ?_|omega|refine Z6 rfl rfl rfl rfl (λhg=>?_) (λhg=>?_)|(refine Z2 rfl rfl rfl rfl (λhg=>?_) (λhg=>?_)<;>refine D1 ?_)|fail)
 refine DP hS (Z8f R.fv c.fcts _ bt.ff) λw2 hT hS=>?_;replace e1:=e1.up hT;replace bt:=bt.up hT;repeat'(first|refine D1 ?_|omega|refine Z6 rfl rfl rfl rfl (λhg=>?_) (λhg=>?_)|(refine Z2 rfl rfl rfl rfl (λhg=>?_) (λhg=>?_)<;>refine D1 ?_)|fail)
 refine DP hS (Z5n R.cv c.crrs _ bt.cc) λw3 hT hS=>?_;replace e1:=e1.up hT;replace bt:=bt.up hT;generalize Z2G [] c.fcts=v1;generalize Z5m c.crrs=v2;repeat'(first|refine D1 ?_|omega|refine Z6 rfl rfl rfl rfl (λhg=>?_) (λhg=>?_)|(refine Z2 rfl rfl rfl rfl (λhg=>?_) (λhg=>?_)<;>refine D1 ?_)|fail)
 refine Z7 rfl trivial (Z0 rfl (Zh8 v1 v2)) (λ_ _ h=>Z5.stp h) rfl ?_;rintro vs w4 hN;have eQ:SlV [] w4 vs ([v1,v2]:List Int):=hN.slv (by simp) rfl rfl (by simp [maxLen]);have hU:=Z5.stp hN;clear hN;replace e1:=e1.up hU;replace bt:=bt.up hU;replace hS:=hS.trans hU;repeat'(first|refine D1 ?_|omega|refine Z6 rfl rfl rfl rfl (λhg=>?_) (λhg=>?_)|(refine Z2 rfl rfl rfl rfl (λhg=>?_) (λhg=>?_)<;>refine D1 ?_)|fail)
 refine DP hS (Z4d vs [v1,v2] _ eQ) λw5 hT hS=>?_;replace e1:=e1.up hT;replace bt:=bt.up hT;clear hT hU eQ;rw [ZaH,ZaH,show orL []=0 from rfl];by_cases a1:v1=0
 case neg=>
  rw [if_pos a1,if_pos a1];repeat'(first|refine D1 ?_|omega|refine Z6 rfl rfl rfl rfl (λhg=>?_) (λhg=>?_)|(refine Z2 rfl rfl rfl rfl (λhg=>?_) (λhg=>?_)<;>refine D1 ?_)|fail)
  repeat'(first|refine W1 ?_|omega|refine VG ?_ ?_<;>intro hg|refine VC ?_ ?_<;>intro hc)
  refine RU ?_;exact ⟨rfl,hS⟩
 rw [if_neg (not_not_intro a1),if_neg (not_not_intro a1)];by_cases a2:v2=0
 case neg=>
  rw [if_pos a2,if_pos a2];repeat'(first|refine D1 ?_|omega|refine Z6 rfl rfl rfl rfl (λhg=>?_) (λhg=>?_)|(refine Z2 rfl rfl rfl rfl (λhg=>?_) (λhg=>?_)<;>refine D1 ?_)|fail)
  repeat'(first|refine W1 ?_|omega|refine VG ?_ ?_<;>intro hg|refine VC ?_ ?_<;>intro hc)
  refine RU ?_;exact ⟨rfl,hS⟩
 rw [if_neg (not_not_intro a2),if_neg (not_not_intro a2)];repeat'(first|refine D1 ?_|omega|refine Z6 rfl rfl rfl rfl (λhg=>?_) (λhg=>?_)|(refine Z2 rfl rfl rfl rfl (λhg=>?_) (λhg=>?_)<;>refine D1 ?_)|fail)
 repeat'(first|refine W1 ?_|omega|refine VG ?_ ?_<;>intro hg|refine VC ?_ ?_<;>intro hc)
 refine CP hS (Z8g R.rv c.ruls _ bt.rr) λw6 hT hS=>?_;replace e1:=e1.up hT;replace bt:=bt.up hT;by_cases a3:Z4k c.ruls=0
 case neg=>
  rw [if_pos a3];generalize Z4k c.ruls=v3 at *;repeat'(first|refine W1 ?_|omega|refine VG ?_ ?_<;>intro hg|refine VC ?_ ?_<;>intro hc)
  refine RU ?_;exact ⟨rfl,hS⟩
 rw [if_neg (not_not_intro a3),a3];repeat'(first|refine W1 ?_|omega|refine VG ?_ ?_<;>intro hg|refine VC ?_ ?_<;>intro hc)
 refine ZDr 14 [] [] [(0,0),(1,1),(2,0),(3,1),(5,0),(6,1),(8,0),(9,1),(4,2),(7,2),(10,2),(11,2),(12,2),(13,0)] (λw1 ae=>?_);replace e1:=e1.up ae;replace bt:=bt.up ae;replace hS:=hS.trans ae;clear ae hT;repeat'(first|refine D1 ?_|omega|refine Z6 rfl rfl rfl rfl (λhg=>?_) (λhg=>?_)|(refine Z2 rfl rfl rfl rfl (λhg=>?_) (λhg=>?_)<;>refine D1 ?_)|fail)
 refine WD_read rfl trivial (λw' aE=>Zr rfl rfl (e1.up aE) (us:=Z0M c.cal R.hv R.lv R.zo R.zs R.hr) rfl rfl) rfl ?_;repeat'(first|refine D1 ?_|omega|refine Z6 rfl rfl rfl rfl (λhg=>?_) (λhg=>?_)|(refine Z2 rfl rfl rfl rfl (λhg=>?_) (λhg=>?_)<;>refine D1 ?_)|fail)
 refine DP hS (Z8b R.av R.cv c.atts c.crrs _ cX bt.aa bt.cc) λw7 hT hS=>?_;replace e1:=e1.up hT;replace bt:=bt.up hT;repeat'(first|refine D1 ?_|omega|refine Z6 rfl rfl rfl rfl (λhg=>?_) (λhg=>?_)|(refine Z2 rfl rfl rfl rfl (λhg=>?_) (λhg=>?_)<;>refine D1 ?_)|fail)
 refine DP hS (Z8c R.sv c.stys _ bt.ss) λw8 hT hS=>?_;replace e1:=e1.up hT;replace bt:=bt.up hT;repeat'(first|refine D1 ?_|omega|refine Z6 rfl rfl rfl rfl (λhg=>?_) (λhg=>?_)|(refine Z2 rfl rfl rfl rfl (λhg=>?_) (λhg=>?_)<;>refine D1 ?_)|fail)
 have dR:CC 39 #[.agg (Z0M c.cal R.hv R.lv R.zo R.zs R.hr).toArray] w8 λr w'=>r=.I (Z5k c.cal z sh h)/\Stp [] w8 w':=by
  rw [cU,eo];exact Z5l c.cal R.hv R.lv R.zs z h sh _ bt.ho bt.cl bt.zs
 refine DP hS dR λw9 hT hS=>?_;replace e1:=e1.up hT;unfold Zes;clear dR bt;generalize Z2h c.crrs.length c.atts=u1;generalize Z6M c.stys=u2;generalize Z5k c.cal z sh h=u3;repeat'(first|refine D1 ?_|omega|refine Z6 rfl rfl rfl rfl (λhg=>?_) (λhg=>?_)|(refine Z2 rfl rfl rfl rfl (λhg=>?_) (λhg=>?_)<;>refine D1 ?_)|fail)
 refine Z7 rfl trivial (Z0 rfl (ZaG u1 u2 u3)) (λ_ _ h=>Z5.stp h) rfl ?_;rintro us w10 hN;have eQ:SlV [] w10 us ([u1,u2,u3]:List Int):=hN.slv (by simp) rfl rfl (by simp [maxLen]);have hU:=Z5.stp hN;clear hN;replace e1:=e1.up hU;replace hS:=hS.trans hU;repeat'(first|refine D1 ?_|omega|refine Z6 rfl rfl rfl rfl (λhg=>?_) (λhg=>?_)|(refine Z2 rfl rfl rfl rfl (λhg=>?_) (λhg=>?_)<;>refine D1 ?_)|fail)
 refine DP hS (Z4d us [u1,u2,u3] _ eQ) λw11 hT hS=>?_;replace e1:=e1.up hT;generalize orL [u1,u2,u3]=v4;clear hT hU eQ;by_cases g4:v4=0
 case neg=>
  rw [if_pos g4];repeat'(first|refine D1 ?_|omega|refine Z6 rfl rfl rfl rfl (λhg=>?_) (λhg=>?_)|(refine Z2 rfl rfl rfl rfl (λhg=>?_) (λhg=>?_)<;>refine D1 ?_)|fail)
  repeat'(first|refine W1 ?_|omega|refine VG ?_ ?_<;>intro hg|refine VC ?_ ?_<;>intro hc)
  refine RU ?_;exact ⟨rfl,hS⟩
 subst g4;rw [if_neg (by simp)];repeat'(first|refine D1 ?_|omega|refine Z6 rfl rfl rfl rfl (λhg=>?_) (λhg=>?_)|(refine Z2 rfl rfl rfl rfl (λhg=>?_) (λhg=>?_)<;>refine D1 ?_)|fail)
 repeat'(first|refine W1 ?_|omega|refine VG ?_ ?_<;>intro hg|refine VC ?_ ?_<;>intro hc)
 refine CP hS (Z0x _ _ _ _) λw12 hT hS=>?_;replace e1:=e1.up hT;by_cases g5:0<=c.court/\c.court<=15
 case neg=>
  rw [decide_eq_false g5,if_neg (λh=>g5 h.1)];repeat'(first|refine W1 ?_|omega|refine VG ?_ ?_<;>intro hg|refine VC ?_ ?_<;>intro hc)
  refine RU ?_;exact ⟨rfl,hS⟩
 rw [decide_eq_true g5];repeat'(first|refine W1 ?_|omega|refine VG ?_ ?_<;>intro hg|refine VC ?_ ?_<;>intro hc)
 refine CP hS (Z0x _ _ _ _) λw13 hT hS=>?_;by_cases g6:0<=c.today/\c.today<=3652058
 case neg=>
  rw [decide_eq_false g6,if_neg (λh=>g6 h.2)];repeat'(first|refine W1 ?_|omega|refine VG ?_ ?_<;>intro hg|refine VC ?_ ?_<;>intro hc)
  refine RU ?_;exact ⟨rfl,hS⟩
 rw [decide_eq_true g6,if_pos ⟨g5,g6⟩];repeat'(first|refine W1 ?_|omega|refine VG ?_ ?_<;>intro hg|refine VC ?_ ?_<;>intro hc)
 refine RU ?_;exact ⟨rfl,hS⟩
theorem Z5p:∀ s∈Z06,Z1O s=true/\(s.length:Int)<=maxLen:=by decide
theorem Z69.v {f:Fct} (h:Z69 f) (he:0<=f.entry/\f.entry<65536):VOk f:=by
 have h1:=h.day;have h2:=h.by_;have h3:=h.to_;have h4:=h.amt;exact ⟨he,(Z5p _ h.kind).1,by omega,by omega,by omega,by omega⟩
theorem ZaI:∀ (l:List Fct) (kn:List Int),(∀ f∈l,VOk f)->l.Pairwise (λa b=>a.entry≠b.entry)->(∀ f∈l,f.entry∉kn)->Z2G kn l=0
 | [],_,_,_,_=>rfl
 | f :: l, kn, h1, h2, h3 => by
   have fQ:=List.pairwise_cons.1 h2;rw [Z3M,if_neg (not_not_intro (h1 f YaZ)),if_neg (h3 f YaZ)];refine ZaI l _ (λg hg=>h1 g (XW _ hg)) fQ.2 (λg hg hc=>?_);rcases Xd.1 hc with hc|hc
   exact h3 g (XW _ hg) hc;exact fQ.1 g hg (Xn.1 hc).symm
theorem Z6f.pw {l:List Fct} (h:Z6f l):l.Pairwise (λa b=>a.entry≠b.entry):=by
 rw [Yax];intro i j hi hj dw e;have:=h.lt dw hj;omega
theorem Z2c.b {h:Hol} (ho:Z2c h) (hf:h.first<=h.last):Z1c h=true:=by
 have h1:=ho.k1;have h2:=ho.k2;have h3:=ho.m1;have h4:=ho.m2;have h5:=ho.f1;have h6:=ho.l1;unfold Z1c;rw [decide_eq_true ⟨⟨h1,h2⟩,⟨h3,h4⟩,h5,hf,h6⟩,Yah];unfold JR Z08 Z9E Z1H Z9F ZbJ;have hk:h.kind=1\/h.kind=2\/h.kind=3\/h.kind=4:=by omega
 rcases hk with k|k|k|k
 rw [if_pos k,decide_eq_true (ho.month (by omega)),decide_eq_true (ho.day k)];rfl;rw [if_neg (by omega),if_pos k,decide_eq_true (ho.month (by omega)),decide_eq_true (ho.wd (.inl k)),decide_eq_true (ho.nth k)];rfl;rw [if_neg (by omega),if_neg (by omega),if_pos k,decide_eq_true (ho.month (by omega)),decide_eq_true (ho.wd (.inr k))];rfl;rw [if_neg (by omega),if_neg (by omega),if_neg (by omega),decide_eq_true (ho.off k)]
theorem Z2M.c {z:Int} {sh:List Spn} (h:Z2M z sh):Z5L z sh=0:=by
 unfold Z5L;rw [if_neg (by have:=h.len;omega),if_neg (not_not_intro h.off)];refine Z1t (λj hj=>?_);have h1:=h.at_ _ (Xb hj);unfold Z3k;rw [show sh.getD j (0,0)=sh[j] by simp [hj],if_neg (not_not_intro h1),if_neg];rintro ⟨g1,g2⟩;obtain ⟨i,rfl⟩:∃ i,j=i+1:=⟨j - 1,by omega⟩
 have h2:=h.ord i hj;rw [show sh.getD (i+1 - 1) (0,0)=sh[i] by simp [show i<sh.length by omega]] at g2;omega
theorem ZaE.e {c:Cal} (h:ZaE c) {z g:Int} {sh:List Spn} (hz:Z2M z sh) (hg:0<=g/\g<1440):Z5k c z sh g=0:=by
 unfold Z5k;have hw:Z3n c=false:=by
  obtain ⟨b0,b5,b6,hw⟩:=h.wk;unfold Z3n;rw [hw];cases b0<;>rfl
 have hh:Z5J c.hols=0:=by
  have h3:=h.h3;unfold Z5J;rw [if_neg (by omega),if_pos (Xy.2 (λx hx=>(h.ok.hols x hx).b (h.fl x hx)))]
 have hc:c.clos.all Z2j=true:=Xy.2 (λx hx=>by
  have:=h.cl x hx;unfold Z6c at this;unfold Z2j Zw;rw [decide_eq_true (by omega),decide_eq_true (by omega),decide_eq_true (by omega),decide_eq_true (by omega)];rfl)
 have h3:=h.c3;rw [hw,if_neg (by simp),hh,if_neg (by simp),if_neg (by omega),if_neg (not_not_intro hc),hz.c,if_neg (by simp),if_neg (by omega)]
theorem Z6g {n:Nat}:∀ {l:List Atp},(∀ a∈l,Z1U n a=0)->Z2h n l=0
 | [],_=>rfl
 | a :: l, h => by
   unfold Z2h;rw [if_neg (by rw [h a YaZ];simp)];exact Z6g (λb hb=>h b (XW _ hb))
theorem Z83.drv {c:Cas} (h:Z83 c) {z g:Int} {sh:List Spn} (hz:Z2M z sh) (hg:0<=g/\g<1440):Z9K c z sh g=0:=by
 have h1:=h.fl;have h2:=h.rl;have h3:=h.al;have h4:=h.cl;have h5:=h.sl;have h6:=h.court;have h7:=h.today;have hf:Z2G [] c.fcts=0:=by
  refine ZaI _ _ (λf hf=>?_) h.en.pw (λf _=>by simp);obtain ⟨i,hi,rfl⟩:=Xv hf;have:=h.en i hi;exact (h.fo _ hf).v (by omega)
 have hc:Z5m c.crrs=0:=by
  unfold Z5m;rw [if_neg (by omega),if_pos (Xy.2 (λx hx=>show Z4j x=true from decide_eq_true ⟨(h.co x hx).ext,(h.co x hx).tol⟩))]
 have hr:Z4k c.ruls=0:=by
  unfold Z4k;rw [if_neg (by omega),if_pos (Xy.2 (λq hq=>by
   obtain ⟨r,-,hr,rfl⟩:=h.ro q hq;exact show Z9J _=true from decide_eq_true (Zej r.rul hr).2))]
 have hs:Z2h c.crrs.length c.atts=0:=Z6g (λa ha=>by
  have hx:=h.ao a ha;have x1:=hx.entry;have x2:=hx.party;have x3:=hx.crr;have x4:=hx.sent;have x5:=hx.len;unfold Z1U;rw [if_pos (by unfold Z5H;omega)];unfold Z9D;rw [if_neg (by omega),if_pos];intro r hr;have y:=hx.rets r hr;have y1:=y.crr;have y2:=y.lo;have y3:=y.hi;have y4:=y.kind;unfold Z1G;omega)
 have ht:Z6M c.stys=0:=by
  unfold Z6M;rw [if_neg (by omega),if_neg];intro hc;obtain ⟨s,h1,h2⟩:=Yag.1 hc;have y1:=(h.so s h1).lo;have y2:=(h.so s h1).le;have y3:=(h.so s h1).hi;have:=of_decide_eq_true h2;omega
 unfold Z9K Zes;rw [hf,if_neg (by simp),hc,if_neg (by simp),hr,if_neg (by simp),hs,ht,h.cal.e hz hg,show orL [0,0,0]=0 from rfl,if_neg (by simp),if_pos (by omega)]
end Go.Proofs.YteibicnbkggiiaaGreatDoor
namespace Go.EngB
open Go Go.Eng Go.RowKit Go.Proofs
structure StpB (S:Nat×List Nat) (w w':World):Prop where
 os:w'.os=w.os
 tape:w'.tape=w.tape
 output:w'.output=w.output
 size:w.heap.size<=w'.heap.size
 block:∀ b,b<S.1->b∉S.2->w'.heap[b]?=w.heap[b]?
theorem StpB.refl (S:Nat×List Nat) (w):StpB S w w:=⟨rfl,rfl,rfl,Xq _,λ_ _ _=>rfl⟩
theorem StpB.trans {S:Nat×List Nat} {a b c:World} (h:StpB S a b) (k:StpB S b c):StpB S a c:=
 ⟨k.os.trans h.os,k.tape.trans h.tape,k.output.trans h.output,Xl h.size k.size,λx hx hn=>(k.block x hx hn).trans (h.block x hx hn)⟩
theorem StpB.of {B:Nat} {S:List Nat} {w w':World} (h:Stp S w w') (hB:B<=w.heap.size) (hS:∀ b∈S,B<=b):StpB (B,[]) w w':=
 ⟨h.os,h.tape,h.output,h.size,λb hb _=>h.block b (Xc hb hB) (λhm=>by have:=hS b hm;omega)⟩
theorem StpB.blk {B b T:Nat} {cs:List Value} {w w':World} (h:StpB (B,[]) w w') (hb:Blk w b T cs) (hl:b<B):Blk w' b T cs:=by
 unfold Blk at *;rw [h.block b hl (by simp)];exact hb
instance:Rl (Nat×List Nat):=⟨StpB,StpB.refl,λh k=>h.trans k⟩
abbrev WD (P:Program) (n:Nat) (ops:Array Oper) (S:Nat×List Nat) (Lt:List Nat) (Q:Exit->Act->World->Prop) (ord:List (Nat×Nat)) (e:Env) (w:World):Prop:=WG P n ops S Lt Q ord e w
section
variable {P:Program} {n:Nat} {Q:Exit->Act->World->Prop} {e:Env} {w:World} {ops:Array Oper} {Lt:List Nat} {rest:List (Nat×Nat)} {i d:Nat} {op:Op} {ty:TypeId} {pos:String} {af:Array Edge} {gd:Option (Nat×Bool)} {v:Value}
theorem WC_drawn {id:Nat} {l:List Oper} (m:Nat) (S:Nat×List Nat) (Lt:List Nat) (ord:List (Nat×Nat)) (cf:l.length=m) (hm:P.follows .mixedOrders=true) (hs:Region.noSelect l.toArray=true) (hl:Nat.beq (wt ord) l.length=true)
 (hB:Jp l.toArray Lt ord (Array.replicate m false)=true)
 (h:∀ w',Stp [] w w'->WD P n l.toArray S Lt Q ord e w'):WC P n (.region id l.toArray true) Q e w:=Z5R m S Lt ord cf hm hs hl hB h
theorem WD_read {S:Nat×List Nat} (hi:ops[i]?=some ⟨some d,op,ty,pos,af,gd⟩) (hg:JS ops e gd) (hp:∀ w',StpB S w w'->PR P n ⟨some d,op,ty,pos,af,gd⟩ e w' v) (aw:Nat.blt d n=true)
 (k:WD P n ops S Lt Q rest ((d,v) :: e) w):WD P n ops S Lt Q ((i,1) :: rest) e w:=Zae hi hg hp aw k
end
variable {P:Program} {n:Nat} {Q:Exit->Act->World->Prop} {e:Env} {w w0:World} {ops:Array Oper} {Lt:List Nat} {rest:List (Nat×Nat)}
theorem JD {w w':World} {T len:Nat} {cs:List Value} {v:Value} (h:Z5 w T len cs v w'):Stp [] w w':=h.choose_spec.2.2.2
theorem WD.weak {S:Nat×List Nat} {e':Env} {ord:List (Nat×Nat)} (hs:∀ t v,Eng.look e' t=some v->Eng.look e t=some v) (h:WD P n ops S Lt Q ord e' w):WD P n ops S Lt Q ord e w:=⟨λlisted a b c ha=>h.h listed a b c (ha.weak hs)⟩
theorem ZaJ {α:Type} [Z3 α] {X:List Nat} {T:Nat} {v:Value} {w':World} (h:Z5 w T 0 [] v w') (hb:w0.heap.size<=w.heap.size):Row X w' w0.heap.size T v ([]:List α)/\∀ b∈ob v,w.heap.size<=b:=by
 obtain ⟨b,rfl,cJ,hk,hT⟩:=h;refine ⟨⟨[],rfl,λi hi=>absurd hi (by simp),by simp,.inr ⟨b,0,#[],rfl,by omega,hk,Xq _,by simp [maxLen],by simp,by simp⟩⟩,λc hc=>?_⟩;simp [ob] at hc;omega
theorem Z2A {d k:Nat} {v:Value} {e:Env} (h:d≠k):Eng.look ((d,v) :: e) k=Eng.look e k:=by rw [ZR,if_neg h]
theorem Zet {d5 a b c:Nat} {v x y z:Value} {e:Env} (ha:Eng.look e a=none) (hb:Eng.look e b=none) (hc:Eng.look e c=none):∀ t u,Eng.look ((d5,v) :: e) t=some u->Eng.look ((d5,v) :: (a,x) :: (b,y) :: (c,z) :: e) t=some u:=λt u h=>by
 rw [ZR] at h ⊢;by_cases h5:d5=t
 rwa [if_pos h5] at h ⊢
 rw [if_neg h5] at h ⊢;have n1:a≠t:=λg=>by rw [<- g,ha] at h;cases h
 have n2:b≠t:=λg=>by rw [<- g,hb] at h;cases h
 have n3:c≠t:=λg=>by rw [<- g,hc] at h;cases h
 rw [Z2A n1,Z2A n2,Z2A n3];exact h
theorem WD_app2 {α:Type} [Z3 α] {X:List Nat} {i0 i3 i4 i5 d0 d3 d4 d5 t T bytes:Nat} {x z:Operand} {xv u z0:Value} {xs:List α} {y:α} {cs:List Value} {ty0 ty3 ty4 ty5:TypeId} {p0 p3 p4 p5:String} {a0 a3 a4 a5:Array Edge}
 [ht:Und P t (.slice T)] [hk:Siz P T (Z3.k α)] [hb:Byt P T bytes] [hz:Zer P T z0]
 (hW:Stp [] w0 w) (kl:SlV X w0 xv xs) (eV:∀ (Y:List Nat) (W:World),Stp [] w0 W->(∀ b∈Y,b∈X\/w0.heap.size<=b)->Z3.rep Y W y cs)
 (hl:(xs.length+1) * bytes<=140737488355328) (eZ:xs.length+1<=maxLen)
 (k:∀ v w',Row X w' w0.heap.size T v (xs++[y])->Stp [] w0 w'->WD P n ops (w0.heap.size,[]) Lt Q rest ((d5,v) :: e) w')
 (h0:ops[i0]?=some ⟨some d0,.buildSlice t 0 #[],ty0,p0,a0,none⟩:=by exact rfl)
 (h3:ops[i3]?=some ⟨some d3,.call { callee:=.builtin .append,args:=#[.tmp d0,x],argTypes:=#[t,t] },ty3,p3,a3,none⟩:=by exact rfl)
 (h4:ops[i4]?=some ⟨some d4,.buildSlice t 1 #[(0,z)],ty4,p4,a4,none⟩:=by exact rfl)
 (h5:ops[i5]?=some ⟨some d5,.call { callee:=.builtin .append,args:=#[.tmp d3,.tmp d4],argTypes:=#[t,t] },ty5,p5,a5,none⟩:=by exact rfl)
 (r0:∀ w:World,(Instr.buildSlice t 0 #[]).run P w=.ok (.slice (some ⟨w.heap.size,0,none⟩) 0 0) (w.alloc (.cells #[] T)):=by intro w;kernel_rfl)
 (r4:∀ w:World,(Instr.buildSlice t 1 #[(0,u)]).run P w=.ok (.slice (some ⟨w.heap.size,0,none⟩) 1 1) (w.alloc (.cells cs.toArray T)):=by intro w;kernel_rfl)
 (ex:∀ o b,ev ((d0,o) :: e) x=some xv/\ev ((d0,o) :: (d4,b) :: e) x=some xv/\ev ((d4,b) :: (d0,o) :: e) x=some xv:=by intro _ _;exact ⟨rfl,rfl,rfl⟩)
 (ez:∀ o a,ZX e [(0,z)]=some [(0,u)]/\ZX ((d0,o) :: e) [(0,z)]=some [(0,u)]/\ZX ((d3,a) :: (d0,o) :: e) [(0,z)]=some [(0,u)]:=by intro _ _;exact ⟨rfl,rfl,rfl⟩)
 (hn:Eng.look e d0=none/\Eng.look e d3=none/\Eng.look e d4=none:=by exact ⟨rfl,rfl,rfl⟩)
 (hd:d0≠d3/\d0≠d4/\d3≠d4:=by decide)
 (hlt:Nat.blt d0 n=true/\Nat.blt d3 n=true/\Nat.blt d4 n=true/\Nat.blt d5 n=true:=by exact ⟨rfl,rfl,rfl,rfl⟩)
 (cn:z0.cells.size=Z3.k α:=by exact rfl) (ba:0<Z3.k α:=by decide)
 (j4:Z1P i4 ((i3,i4+3) :: (i4,2) :: (i5,2) :: rest)=(i3,2) :: (i5,2) :: rest/\Z1P i4 ((i4,2) :: (i5,2) :: rest)=(i5,2) :: rest:=by exact ⟨rfl,rfl⟩) (hq:Nat.blt (i4+3) 100000=true:=by exact rfl) (hX:∀ b∈X,b<w0.heap.size:=by simp) :
 WD P n ops (w0.heap.size,[]) Lt Q ((i0,i4+3) :: (i3,i4+3) :: (i4,2) :: (i5,2) :: rest) e w:=by
 obtain ⟨n0,n3,n4⟩:=hn;obtain ⟨l0,l3,l4,l5⟩:=hlt;obtain ⟨d03,d04,d34⟩:=hd;have eA:(([]:List α).length+xs.length) * bytes<=140737488355328:=by
  refine Xl (Xt _ ?_) hl;simp
 have iC:([]:List α).length+xs.length<=maxLen:=by simp only [Xj];omega
 have tm:∀ {d:Nat} {v:Value} {e:Env},ev ((d,v) :: e) (.tmp d)=some v:=λ{d v e}=>by show Eng.look _ _=_;rw [ZR,if_pos rfl]
 have tm2:∀ {d d':Nat} {v v':Value} {e:Env},d'≠d->ev ((d',v') :: (d,v) :: e) (.tmp d)=some v:=λ{d d' v v' e} h=>by show Eng.look _ _=_;rw [Z2A h,ZR,if_pos rfl]
 apply Z4E hq;refine JJ h0 trivial (Z0 (l:=[]) (vs:=[]) rfl r0) (λ_ _ h=>StpB.of (JD h) hW.size (by simp)) l0 ?_;rintro o wk hN;obtain ⟨ac,-⟩:=ZaJ (w0:=w0) (α:=α) (X:=X) hN hW.size;replace hW:=hW.trans (JD hN);clear hN;apply Z4E hq;refine JJ h3 trivial (ZI (X:=X) (base:=w0.heap.size) cn ba tm (ex o o).1 ac (kl.ext hW (by simp) (λb hb=>(Xd.1 hb).elim (λh=>.inr (ac.ob_le b h).1) .inl)) eA iC hW.size) (λ_ _ h=>StpB.of h.2.1 hW.size (λb hb=>(ac.ob_le b hb).1)) l3 ?_;rintro a wk2 ⟨aN,hT,-⟩;rw [XH] at aN;replace hW:=hW.own hT (λb hb=>.inr (ac.ob_le b hb).1);clear hT ac;refine Z7 h4 trivial (Z0 (l:=[(0,z)]) (vs:=[(0,u)]) (ez o a).2.2 r4) (λ_ _ h=>StpB.of (JD h) hW.size (by simp)) l4 ?_;rintro b4 wj hN;have dB:SlV (ob a++X) wj b4 [y]:=hN.slv1 (λb hb=>(Xd.1 hb).elim (λh=>(aN.ob_le b h).2) (λh=>Xc (hX b h) hW.size)) (eV _ _ hW (λb hb=>(Xd.1 hb).elim (λh=>.inr (aN.ob_le b h).1) .inl));replace aN:=aN.up (JD hN);replace hW:=hW.trans (JD hN);clear hN;refine Z7 h5 trivial (ZI (X:=X) (base:=w0.heap.size) cn ba (tm2 (Ne.symm d34)) tm aN dB (by simpa using hl) (by simpa using eZ) hW.size) (λ_ _ h=>StpB.of h.2.1 hW.size (λb hb=>(aN.ob_le b hb).1)) l5 ?_;rintro v wl ⟨cu,hT,-⟩;exact (k v wl cu (hW.own hT (λb hb=>.inr (aN.ob_le b hb).1))).weak (Zet n4 n3 n0);rw [j4.2];refine JJ h4 trivial (Z0 (l:=[(0,z)]) (vs:=[(0,u)]) (ez o o).2.1 r4) (λ_ _ h=>StpB.of (JD h) hW.size (by simp)) l4 ?_;rintro b4 wj hN;have dB:SlV (ob o++X) wj b4 [y]:=hN.slv1 (λb hb=>(Xd.1 hb).elim (λh=>(ac.ob_le b h).2) (λh=>Xc (hX b h) hW.size)) (eV _ _ hW (λb hb=>(Xd.1 hb).elim (λh=>.inr (ac.ob_le b h).1) .inl));replace ac:=ac.up (JD hN);replace hW:=hW.trans (JD hN);clear hN;refine Z7 h3 trivial (ZI (X:=X) (base:=w0.heap.size) cn ba (tm2 (Ne.symm d04)) (ex o b4).2.2 ac (kl.ext hW (by simp) (λb hb=>(Xd.1 hb).elim (λh=>.inr (ac.ob_le b h).1) .inl)) eA iC hW.size) (λ_ _ h=>StpB.of h.2.1 hW.size (λb hb=>(ac.ob_le b hb).1)) l3 ?_;rintro a wk2 ⟨aN,hT,bo⟩;rw [XH] at aN;replace dB:SlV (ob a++X) wk2 b4 [y]:=dB.ext hT (λb hb=>by simp [hb]) (λb hb=>by
  rcases Xd.1 hb with hb|hb
  rcases bo b hb with h|h
  exact .inl (by simp [h]);exact .inr h;exact .inl (by simp [hb]))
 replace hW:=hW.own hT (λb hb=>.inr (ac.ob_le b hb).1);clear hT bo ac;refine Z7 h5 trivial (ZI (X:=X) (base:=w0.heap.size) cn ba tm (tm2 d34) aN dB (by simpa using hl) (by simpa using eZ) hW.size) (λ_ _ h=>StpB.of h.2.1 hW.size (λb hb=>(aN.ob_le b hb).1)) l5 ?_;rintro v wl ⟨cu,hT,-⟩;exact (k v wl cu (hW.own hT (λb hb=>.inr (aN.ob_le b hb).1))).weak (Zet n3 n4 n0);rw [j4.1];refine JJ h4 trivial (Z0 (l:=[(0,z)]) (vs:=[(0,u)]) (ez u u).1 r4) (λ_ _ h=>StpB.of (JD h) hW.size (by simp)) l4 ?_;rintro b4 wj hN;have dB:SlV X wj b4 [y]:=hN.slv1 (λb h=>Xc (hX b h) hW.size) (eV _ _ hW (λb h=>.inl h));replace hW:=hW.trans (JD hN);clear hN;refine Z7 h0 trivial (Z0 (l:=[]) (vs:=[]) rfl r0) (λ_ _ h=>StpB.of (JD h) hW.size (by simp)) l0 ?_;rintro o wk hN;obtain ⟨ac,mD⟩:=ZaJ (w0:=w0) (α:=α) (X:=X) hN hW.size;replace dB:SlV (ob o++X) wk b4 [y]:=dB.ext (JD hN) (by simp) (λb hb=>(Xd.1 hb).elim (λh=>.inr (mD b h)) .inl);replace hW:=hW.trans (JD hN);clear hN;refine Z7 h3 trivial (ZI (X:=X) (base:=w0.heap.size) cn ba tm (ex o b4).2.1 ac (kl.ext hW (by simp) (λb hb=>(Xd.1 hb).elim (λh=>.inr (ac.ob_le b h).1) .inl)) eA iC hW.size) (λ_ _ h=>StpB.of h.2.1 hW.size (λb hb=>(ac.ob_le b hb).1)) l3 ?_;rintro a wk2 ⟨aN,hT,bo⟩;rw [XH] at aN;replace dB:SlV (ob a++X) wk2 b4 [y]:=dB.ext hT (λb hb=>by simp [hb]) (λb hb=>by
  rcases Xd.1 hb with hb|hb
  rcases bo b hb with h|h
  exact .inl (by simp [h]);exact .inr h;exact .inl (by simp [hb]))
 replace hW:=hW.own hT (λb hb=>.inr (ac.ob_le b hb).1);clear hT bo ac;refine Z7 h5 trivial (ZI (X:=X) (base:=w0.heap.size) cn ba tm (by show Eng.look _ _=_;rw [Z2A d34,Z2A d04,ZR,if_pos rfl]) aN dB (by simpa using hl) (by simpa using eZ) hW.size) (λ_ _ h=>StpB.of h.2.1 hW.size (λb hb=>(aN.ob_le b hb).1)) l5 ?_;rintro v wl ⟨cu,hT,-⟩;exact (k v wl cu (hW.own hT (λb hb=>.inr (aN.ob_le b hb).1))).weak (Zet n3 n0 n4)
end Go.EngB
namespace Go.Proofs.YteibicnbkggiiaaGreatDoor
open Go Go.Eng Go.RowKit Go.Proofs
structure Spl where
 what:Int
 n:Int
 f:Fct
 q:Cr
 s:Spn
 a:Atp
abbrev spC (x:Spl) (kc kd rv:Value):List Value:=[.I x.what,.I x.n]++Z8.enc x.f++crC x.q kc kd++Z8.enc x.s++atC x.a rv
structure ZkB (w:World) (x:Spl) (kc kd rv:Value):Prop where
 kc:SlV [] w kc x.q.cnd
 kd:SlV [] w kd x.q.due
 rv:SlV [] w rv x.a.rets
 what:I64 x.what
 km:(x.f.kind.length:Int)<=maxLen
def ZkC (w:World) (r:Value) (z:Int) (sh:List Spn):Prop:=∃ (c:Cas) (R:Z0U) (h:Int),r=.agg (Jh c R).toArray/\Z1V w c R z sh h/\(∀ f∈c.fcts,(f.kind.length:Int)<=maxLen)/\c.atts.length<=65536
theorem Z1V.cell {w} {c:Cas} {R:Z0U} {z h:Int} {sh:List Spn} (g:Z1V w c R z sh h):∀ u∈Jh c R,u.oneCell'=true:=by
 have h1:=g.ff.one;have h2:=g.rr.one;have h3:=g.aa.one;have h4:=g.cc.one;have h5:=g.ss.one;have h6:=g.ho.one;have h7:=g.cl.one;have h8:=g.zs.one;have h9:=g.zo;have ec:=g.hr;intro u hu;simp only [Jh,Z0M,Xg,Xm,or_false,XU,XH] at hu;rcases hu with rfl|rfl|rfl|rfl|rfl|rfl|rfl|rfl|rfl|rfl|rfl|rfl|rfl|rfl|rfl|rfl|rfl|rfl|rfl<;>first|assumption|(rw [h9];rfl)|(rw [ec];rfl)|rfl
theorem Zeu (a b:Int) (w):(Instr.build 88 #[(0,.I a),(1,.I b)]).run Tryz.prog w=.ok (aG (⟨a,b⟩:Crr)) w:=by kernel_rfl
theorem Z9L (c:Cas) (R:Z0U) (z h:Int) (sh:List Spn) (x:Spl) (kc kd rv:Value) (w) (hv:Z1V w c R z sh h) (hx:ZkB w x kc kd rv) (eT:∀ f∈c.fcts,(f.kind.length:Int)<=maxLen) (kg:c.fcts.length<=1000) (lx:c.ruls.length<=1000) (cX:c.atts.length<=1000) (bD:c.crrs.length<=1000) (au:c.stys.length<=1000) :
 CC 6 #[.agg (Jh c R).toArray,.agg (spC x kc kd rv).toArray] w λr w'=>ZkC w' r z sh/\Stp [] w w':=by
 refine cW2 82 Tryz.func6 ?_;refine W ?_;refine BX (Stp.refl [] w) λb2 w1 h2 e2 _ hS=>?_;replace e2:Blk w1 b2 49 (Jh c R):=e2;refine W ?_;have l2:=e2.lt;refine BX hS λb3 w2 h3 e3 hT hS=>?_;replace e3:Blk w2 b3 34 (spC x kc kd rv):=e3;replace e2:=e2.up hT;refine W ?_;have l3:=e3.lt;refine Z1 Z9 rfl ?_;rintro _ w3 ⟨b4,rfl,bA,e4,hT⟩;replace e2:=e2.up hT;replace e3:=e3.up hT;replace hS:=hS.trans hT;have l4:=e4.lt;have z2:=hT.size;have n24:b2≠b4:=by omega
 have n23:b2≠b3:=by omega
 clear hT;repeat'(first|refine W1 ?_|omega|refine VG ?_ ?_<;>intro hg|refine VC ?_ ?_<;>intro hc)
 refine CP hS (ZY x.what 8 _ (by decide) hx.what) λw4 hT hS=>?_
 replace e2:=e2.up hT;replace e3:=e3.up hT;replace e4:=e4.up hT;have hr:=ZT (if x.what<0 then -(x.what+1) else x.what) 8 (by decide);generalize (if x.what<0 then -(x.what+1) else x.what) % 8=m at hr ⊢;have z4:=hT.size;clear hT;have q2:=e2.lt;have q3:=e3.lt;have X2:∀ b∈[b2,b4],b∈([]:List Nat)\/w.heap.size<=b:=λb hb=>.inr (by have:=hS.size;simp at hb;omega)
 have L2:∀ b∈[b2,b4],b<w4.heap.size:=λb hb=>by simp at hb;omega
 have YX:∀ (Y:List Nat),(∀ b∈Y,b∈[b2,b4]\/w4.heap.size<=b)->∀ b∈Y,b∈([]:List Nat)\/w.heap.size<=b:=λY hY b hb=>(hY b hb).elim (X2 b) (λg=>.inr (by have:=hS.size;omega))
 have eb:=hv.up hS;have cA:m=0\/m=1\/m=2\/m=3\/m=4\/m=5\/m=6\/m=7:=by omega
 rcases cA with rfl|rfl|rfl|rfl|rfl|rfl|rfl|rfl
 focus repeat'(first|refine W1 ?_|omega|refine VG ?_ ?_<;>intro hg|refine VC ?_ ?_<;>intro hc)
 have dS:=hv.ff.ext (X':=[b2,b4]) hS (by simp) X2;refine Go.EngB.WC_drawn 10 (w4.heap.size,[]) [9] [(1,0),(2,1),(4,0),(5,1),(0,9),(3,9),(6,2),(7,2),(8,0),(9,2)] rfl mixed (by kernel_rfl) (by kernel_rfl) (by kernel_rfl) (λy1 hW=>?_);refine Zy rfl trivial (λw'=>Zn rfl) rfl ?_;refine Go.EngB.WD_read rfl trivial (λw' aE=>ZM rfl rfl (aE.blk (e2.up hW) q2) rfl) rfl ?_;refine Zy rfl trivial (λw'=>Zn rfl) rfl ?_;refine Go.EngB.WD_read rfl trivial (λw' aE=>Zr rfl rfl (aE.blk (e3.up hW) q3) (us:=Z8.enc x.f) rfl rfl) rfl ?_;refine Go.EngB.WD_app2 (α:=Fct) (T:=24) (t:=35) (y:=x.f) (cs:=Z8.enc x.f) hW dS (λ_ _ _ _=>rfl) (Xl (Xt _ (show c.fcts.length+1<=1001 by omega)) (by decide)) (by simp only [maxLen];omega) (hX:=L2) (k:=λfv2 wg ac cj=>?_);refine Zy rfl trivial (λw'=>Zn rfl) rfl ?_;obtain ⟨p2,k2,rfl,-⟩:=id (Row.slv (X:=[b2,b4]) ac L2);refine J2 rfl trivial (Zs (u:=(.slice p2 (c.fcts++[x.f]).length k2)) rfl rfl rfl rfl (e2.up cj) (show (0:Nat)<19 by decide)) rfl ?_;rintro _ wh ⟨hU,k5⟩;refine Z2Q ?_;have dT:SlV [b2,b4] wh (.slice p2 (c.fcts++[x.f]).length k2) (c.fcts++[x.f]):=Row.slv (X:=[b2,b4]) (ac.ext (X':=[b2,b4]) hU (λb hb=>⟨by simp at hb;simp [hb],λh=>by simp only [Xn] at hb;subst hb;have:=(ac.ob_le _ h).1;omega⟩) (λb hb=>.inl hb)) L2;replace e2:Blk wh b2 49 (Jh { c with fcts:=(c.fcts++[x.f]) } { R with fv:=(.slice p2 (c.fcts++[x.f]).length k2) }):=k5;replace e4:=(e4.up cj).ext hU (by simpa using n24.symm);replace hS:=(hS.trans cj).ow hU;have aj:=hv.up hS;have ck:=dT.wk (X':=[]) (by simp);have dK:Z1V wh { c with fcts:=(c.fcts++[x.f]) } { R with fv:=(.slice p2 (c.fcts++[x.f]).length k2) } z sh h:=⟨ck,aj.rr,aj.aa,aj.cc,aj.ss,aj.ho,aj.cl,aj.zo,aj.zs,aj.hr⟩
 clear aj ck ac hW cj hU k5 dS eb;focus repeat'(first|refine W1 ?_|omega|refine VG ?_ ?_<;>intro hg|refine VC ?_ ?_<;>intro hc)
 refine SB (us:=Jh { c with fcts:=(c.fcts++[x.f]) } { R with fv:=(.slice p2 (c.fcts++[x.f]).length k2) }) dK.cell e4 ?_;rintro _ y9 ⟨hU,e4⟩;replace hS:=hS.ow hU;have aj:=hv.up hS;have ck:=dT.ext (X':=[]) hU (by simp) (by simp);focus repeat'(first|refine W1 ?_|omega|refine VG ?_ ?_<;>intro hg|refine VC ?_ ?_<;>intro hc)
 refine ZP rfl rfl rfl e4 rfl ?_;exact .mk ⟨⟨{ c with fcts:=(c.fcts++[x.f]) },{ R with fv:=(.slice p2 (c.fcts++[x.f]).length k2) },h,rfl,⟨ck,aj.rr,aj.aa,aj.cc,aj.ss,aj.ho,aj.cl,aj.zo,aj.zs,aj.hr⟩,λf hf=>(Xd.1 hf).elim (eT f) (λg=>Xn.1 g ▸ hx.km),Xl cX (by decide)⟩,hS⟩;focus repeat'(first|refine W1 ?_|omega|refine VG ?_ ?_<;>intro hg|refine VC ?_ ?_<;>intro hc)
 have dS:=hv.cc.ext (X':=[b2,b4]) hS (by simp) X2;refine Go.EngB.WC_drawn 14 (w4.heap.size,[]) [13] [(1,0),(2,1),(4,0),(5,1),(6,0),(7,0),(8,1),(9,0),(0,13),(3,13),(10,2),(11,2),(12,0),(13,2)] rfl mixed (by kernel_rfl) (by kernel_rfl) (by kernel_rfl) (λy1 hW=>?_);refine Zy rfl trivial (λw'=>Zn rfl) rfl ?_;refine Go.EngB.WD_read rfl trivial (λw' aE=>ZM rfl rfl (aE.blk (e2.up hW) q2) rfl) rfl ?_;refine Zy rfl trivial (λw'=>Zn rfl) rfl ?_;refine Go.EngB.WD_read rfl trivial (λw' aE=>ZM rfl rfl (aE.blk (e3.up hW) q3) rfl) rfl ?_;refine Zy rfl trivial (λw'=>Zn rfl) rfl ?_;refine Zy rfl trivial (λw'=>Zn rfl) rfl ?_;refine Go.EngB.WD_read rfl trivial (λw' aE=>ZM rfl rfl (aE.blk (e3.up hW) q3) rfl) rfl ?_;refine Zy rfl trivial (λw'=>JT (vs:=[(0,.I x.n),(1,.I x.f.amt)]) rfl (Zeu _ _)) rfl ?_;refine Go.EngB.WD_app2 (α:=Crr) (T:=88) (t:=38) (y:=(⟨x.n,x.f.amt⟩:Crr)) (cs:=Z8.enc (⟨x.n,x.f.amt⟩:Crr)) hW dS (λ_ _ _ _=>rfl) (Xl (Xt _ (show c.crrs.length+1<=1001 by omega)) (by decide)) (by simp only [maxLen];omega) (hX:=L2) (k:=λfv2 wg ac cj=>?_);refine Zy rfl trivial (λw'=>Zn rfl) rfl ?_;obtain ⟨p2,k2,rfl,-⟩:=id (Row.slv (X:=[b2,b4]) ac L2);refine J2 rfl trivial (Zs (u:=(.slice p2 (c.crrs++[(⟨x.n,x.f.amt⟩:Crr)]).length k2)) rfl rfl rfl rfl (e2.up cj) (show (3:Nat)<19 by decide)) rfl ?_;rintro _ wh ⟨hU,k5⟩;refine Z2Q ?_;have dT:SlV [b2,b4] wh (.slice p2 (c.crrs++[(⟨x.n,x.f.amt⟩:Crr)]).length k2) (c.crrs++[(⟨x.n,x.f.amt⟩:Crr)]):=Row.slv (X:=[b2,b4]) (ac.ext (X':=[b2,b4]) hU (λb hb=>⟨by simp at hb;simp [hb],λh=>by simp only [Xn] at hb;subst hb;have:=(ac.ob_le _ h).1;omega⟩) (λb hb=>.inl hb)) L2;replace e2:Blk wh b2 49 (Jh { c with crrs:=(c.crrs++[(⟨x.n,x.f.amt⟩:Crr)]) } { R with cv:=(.slice p2 (c.crrs++[(⟨x.n,x.f.amt⟩:Crr)]).length k2) }):=k5;replace e4:=(e4.up cj).ext hU (by simpa using n24.symm);replace hS:=(hS.trans cj).ow hU;have aj:=hv.up hS;have ck:=dT.wk (X':=[]) (by simp);have dK:Z1V wh { c with crrs:=(c.crrs++[(⟨x.n,x.f.amt⟩:Crr)]) } { R with cv:=(.slice p2 (c.crrs++[(⟨x.n,x.f.amt⟩:Crr)]).length k2) } z sh h:=⟨aj.ff,aj.rr,aj.aa,ck,aj.ss,aj.ho,aj.cl,aj.zo,aj.zs,aj.hr⟩
 clear aj ck ac hW cj hU k5 dS eb;focus repeat'(first|refine W1 ?_|omega|refine VG ?_ ?_<;>intro hg|refine VC ?_ ?_<;>intro hc)
 refine Zi (J1 (us:=Jh { c with crrs:=(c.crrs++[(⟨x.n,x.f.amt⟩:Crr)]) } { R with cv:=(.slice p2 (c.crrs++[(⟨x.n,x.f.amt⟩:Crr)]).length k2) }) rfl rfl rfl rfl dK.cell e4 rfl) ?_;rintro _ y9 ⟨hU,e4⟩;replace hS:=hS.ow hU;have aj:=hv.up hS;have ck:=dT.ext (X':=[]) hU (by simp) (by simp);focus repeat'(first|refine W1 ?_|omega|refine VG ?_ ?_<;>intro hg|refine VC ?_ ?_<;>intro hc)
 refine ZP rfl rfl rfl e4 rfl ?_;exact .mk ⟨⟨{ c with crrs:=(c.crrs++[(⟨x.n,x.f.amt⟩:Crr)]) },{ R with cv:=(.slice p2 (c.crrs++[(⟨x.n,x.f.amt⟩:Crr)]).length k2) },h,rfl,⟨aj.ff,aj.rr,aj.aa,ck,aj.ss,aj.ho,aj.cl,aj.zo,aj.zs,aj.hr⟩,eT,Xl cX (by decide)⟩,hS⟩;focus repeat'(first|refine W1 ?_|omega|refine VG ?_ ?_<;>intro hg|refine VC ?_ ?_<;>intro hc)
 have dS:=hv.rr.ext (X':=[b2,b4]) hS (by simp) X2;refine Go.EngB.WC_drawn 10 (w4.heap.size,[]) [9] [(1,0),(2,1),(4,0),(5,1),(0,9),(3,9),(6,2),(7,2),(8,0),(9,2)] rfl mixed (by kernel_rfl) (by kernel_rfl) (by kernel_rfl) (λy1 hW=>?_);refine Zy rfl trivial (λw'=>Zn rfl) rfl ?_;refine Go.EngB.WD_read rfl trivial (λw' aE=>ZM rfl rfl (aE.blk (e2.up hW) q2) rfl) rfl ?_;refine Zy rfl trivial (λw'=>Zn rfl) rfl ?_;refine Go.EngB.WD_read rfl trivial (λw' aE=>Zr rfl rfl (aE.blk (e3.up hW) q3) (us:=crC x.q kc kd) rfl rfl) rfl ?_;refine Go.EngB.WD_app2 (α:=Cr) (T:=27) (t:=36) (y:=x.q) (cs:=crC x.q kc kd) hW dS (λY W g hY=>⟨kc,kd,rfl,hx.kc.ext (hS.trans g) (by simp) (YX Y hY),hx.kd.ext (hS.trans g) (by simp) (YX Y hY)⟩) (Xl (Xt _ (show c.ruls.length+1<=1001 by omega)) (by decide)) (by simp only [maxLen];omega) (hX:=L2) (k:=λfv2 wg ac cj=>?_);refine Zy rfl trivial (λw'=>Zn rfl) rfl ?_;obtain ⟨p2,k2,rfl,-⟩:=id (Row.slv (X:=[b2,b4]) ac L2);refine J2 rfl trivial (Zs (u:=(.slice p2 (c.ruls++[x.q]).length k2)) rfl rfl rfl rfl (e2.up cj) (show (1:Nat)<19 by decide)) rfl ?_;rintro _ wh ⟨hU,k5⟩;refine Z2Q ?_;have dT:SlV [b2,b4] wh (.slice p2 (c.ruls++[x.q]).length k2) (c.ruls++[x.q]):=Row.slv (X:=[b2,b4]) (ac.ext (X':=[b2,b4]) hU (λb hb=>⟨by simp at hb;simp [hb],λh=>by simp only [Xn] at hb;subst hb;have:=(ac.ob_le _ h).1;omega⟩) (λb hb=>.inl hb)) L2;replace e2:Blk wh b2 49 (Jh { c with ruls:=(c.ruls++[x.q]) } { R with rv:=(.slice p2 (c.ruls++[x.q]).length k2) }):=k5;replace e4:=(e4.up cj).ext hU (by simpa using n24.symm);replace hS:=(hS.trans cj).ow hU;have aj:=hv.up hS;have ck:=dT.wk (X':=[]) (by simp);have dK:Z1V wh { c with ruls:=(c.ruls++[x.q]) } { R with rv:=(.slice p2 (c.ruls++[x.q]).length k2) } z sh h:=⟨aj.ff,ck,aj.aa,aj.cc,aj.ss,aj.ho,aj.cl,aj.zo,aj.zs,aj.hr⟩
 clear aj ck ac hW cj hU k5 dS eb;focus repeat'(first|refine W1 ?_|omega|refine VG ?_ ?_<;>intro hg|refine VC ?_ ?_<;>intro hc)
 refine SB (us:=Jh { c with ruls:=(c.ruls++[x.q]) } { R with rv:=(.slice p2 (c.ruls++[x.q]).length k2) }) dK.cell e4 ?_;rintro _ y9 ⟨hU,e4⟩;replace hS:=hS.ow hU;have aj:=hv.up hS;have ck:=dT.ext (X':=[]) hU (by simp) (by simp);focus repeat'(first|refine W1 ?_|omega|refine VG ?_ ?_<;>intro hg|refine VC ?_ ?_<;>intro hc)
 refine ZP rfl rfl rfl e4 rfl ?_;exact .mk ⟨⟨{ c with ruls:=(c.ruls++[x.q]) },{ R with rv:=(.slice p2 (c.ruls++[x.q]).length k2) },h,rfl,⟨aj.ff,ck,aj.aa,aj.cc,aj.ss,aj.ho,aj.cl,aj.zo,aj.zs,aj.hr⟩,eT,Xl cX (by decide)⟩,hS⟩;focus repeat'(first|refine W1 ?_|omega|refine VG ?_ ?_<;>intro hg|refine VC ?_ ?_<;>intro hc)
 have dS:=hv.aa.ext (X':=[b2,b4]) hS (by simp) X2;refine Go.EngB.WC_drawn 10 (w4.heap.size,[]) [9] [(1,0),(2,1),(4,0),(5,1),(0,9),(3,9),(6,2),(7,2),(8,0),(9,2)] rfl mixed (by kernel_rfl) (by kernel_rfl) (by kernel_rfl) (λy1 hW=>?_);refine Zy rfl trivial (λw'=>Zn rfl) rfl ?_;refine Go.EngB.WD_read rfl trivial (λw' aE=>ZM rfl rfl (aE.blk (e2.up hW) q2) rfl) rfl ?_;refine Zy rfl trivial (λw'=>Zn rfl) rfl ?_;refine Go.EngB.WD_read rfl trivial (λw' aE=>Zr rfl rfl (aE.blk (e3.up hW) q3) (us:=atC x.a rv) rfl rfl) rfl ?_;refine Go.EngB.WD_app2 (α:=Atp) (T:=32) (t:=37) (y:=x.a) (cs:=atC x.a rv) hW dS (λY W g hY=>⟨rv,rfl,hx.rv.ext (hS.trans g) (by simp) (YX Y hY)⟩) (Xl (Xt _ (show c.atts.length+1<=1001 by omega)) (by decide)) (by simp only [maxLen];omega) (hX:=L2) (k:=λfv2 wg ac cj=>?_);refine Zy rfl trivial (λw'=>Zn rfl) rfl ?_;obtain ⟨p2,k2,rfl,-⟩:=id (Row.slv (X:=[b2,b4]) ac L2);refine J2 rfl trivial (Zs (u:=(.slice p2 (c.atts++[x.a]).length k2)) rfl rfl rfl rfl (e2.up cj) (show (2:Nat)<19 by decide)) rfl ?_;rintro _ wh ⟨hU,k5⟩;refine Z2Q ?_;have dT:SlV [b2,b4] wh (.slice p2 (c.atts++[x.a]).length k2) (c.atts++[x.a]):=Row.slv (X:=[b2,b4]) (ac.ext (X':=[b2,b4]) hU (λb hb=>⟨by simp at hb;simp [hb],λh=>by simp only [Xn] at hb;subst hb;have:=(ac.ob_le _ h).1;omega⟩) (λb hb=>.inl hb)) L2;replace e2:Blk wh b2 49 (Jh { c with atts:=(c.atts++[x.a]) } { R with av:=(.slice p2 (c.atts++[x.a]).length k2) }):=k5;replace e4:=(e4.up cj).ext hU (by simpa using n24.symm);replace hS:=(hS.trans cj).ow hU;have aj:=hv.up hS;have ck:=dT.wk (X':=[]) (by simp);have dK:Z1V wh { c with atts:=(c.atts++[x.a]) } { R with av:=(.slice p2 (c.atts++[x.a]).length k2) } z sh h:=⟨aj.ff,aj.rr,ck,aj.cc,aj.ss,aj.ho,aj.cl,aj.zo,aj.zs,aj.hr⟩
 clear aj ck ac hW cj hU k5 dS eb;focus repeat'(first|refine W1 ?_|omega|refine VG ?_ ?_<;>intro hg|refine VC ?_ ?_<;>intro hc)
 refine SB (us:=Jh { c with atts:=(c.atts++[x.a]) } { R with av:=(.slice p2 (c.atts++[x.a]).length k2) }) dK.cell e4 ?_;rintro _ y9 ⟨hU,e4⟩;replace hS:=hS.ow hU;have aj:=hv.up hS;have ck:=dT.ext (X':=[]) hU (by simp) (by simp);focus repeat'(first|refine W1 ?_|omega|refine VG ?_ ?_<;>intro hg|refine VC ?_ ?_<;>intro hc)
 refine ZP rfl rfl rfl e4 rfl ?_;exact .mk ⟨⟨{ c with atts:=(c.atts++[x.a]) },{ R with av:=(.slice p2 (c.atts++[x.a]).length k2) },h,rfl,⟨aj.ff,aj.rr,ck,aj.cc,aj.ss,aj.ho,aj.cl,aj.zo,aj.zs,aj.hr⟩,eT,by show (c.atts++[x.a]).length<=_;simp only [Xf,Xh,Xj];omega⟩,hS⟩;focus repeat'(first|refine W1 ?_|omega|refine VG ?_ ?_<;>intro hg|refine VC ?_ ?_<;>intro hc)
 have dS:=hv.ss.ext (X':=[b2,b4]) hS (by simp) X2;refine Go.EngB.WC_drawn 10 (w4.heap.size,[]) [9] [(1,0),(2,1),(4,0),(5,1),(0,9),(3,9),(6,2),(7,2),(8,0),(9,2)] rfl mixed (by kernel_rfl) (by kernel_rfl) (by kernel_rfl) (λy1 hW=>?_);refine Zy rfl trivial (λw'=>Zn rfl) rfl ?_;refine Go.EngB.WD_read rfl trivial (λw' aE=>ZM rfl rfl (aE.blk (e2.up hW) q2) rfl) rfl ?_;refine Zy rfl trivial (λw'=>Zn rfl) rfl ?_;refine Go.EngB.WD_read rfl trivial (λw' aE=>Zr rfl rfl (aE.blk (e3.up hW) q3) (us:=Z8.enc x.s) rfl rfl) rfl ?_;refine Go.EngB.WD_app2 (α:=Spn) (T:=29) (t:=39) (y:=x.s) (cs:=Z8.enc x.s) hW dS (λ_ _ _ _=>rfl) (Xl (Xt _ (show c.stys.length+1<=1001 by omega)) (by decide)) (by simp only [maxLen];omega) (hX:=L2) (k:=λfv2 wg ac cj=>?_);refine Zy rfl trivial (λw'=>Zn rfl) rfl ?_;obtain ⟨p2,k2,rfl,-⟩:=id (Row.slv (X:=[b2,b4]) ac L2);refine J2 rfl trivial (Zs (u:=(.slice p2 (c.stys++[x.s]).length k2)) rfl rfl rfl rfl (e2.up cj) (show (4:Nat)<19 by decide)) rfl ?_;rintro _ wh ⟨hU,k5⟩;refine Z2Q ?_;have dT:SlV [b2,b4] wh (.slice p2 (c.stys++[x.s]).length k2) (c.stys++[x.s]):=Row.slv (X:=[b2,b4]) (ac.ext (X':=[b2,b4]) hU (λb hb=>⟨by simp at hb;simp [hb],λh=>by simp only [Xn] at hb;subst hb;have:=(ac.ob_le _ h).1;omega⟩) (λb hb=>.inl hb)) L2;replace e2:Blk wh b2 49 (Jh { c with stys:=(c.stys++[x.s]) } { R with sv:=(.slice p2 (c.stys++[x.s]).length k2) }):=k5;replace e4:=(e4.up cj).ext hU (by simpa using n24.symm);replace hS:=(hS.trans cj).ow hU;have aj:=hv.up hS;have ck:=dT.wk (X':=[]) (by simp);have dK:Z1V wh { c with stys:=(c.stys++[x.s]) } { R with sv:=(.slice p2 (c.stys++[x.s]).length k2) } z sh h:=⟨aj.ff,aj.rr,aj.aa,aj.cc,ck,aj.ho,aj.cl,aj.zo,aj.zs,aj.hr⟩
 clear aj ck ac hW cj hU k5 dS eb;focus repeat'(first|refine W1 ?_|omega|refine VG ?_ ?_<;>intro hg|refine VC ?_ ?_<;>intro hc)
 refine SB (us:=Jh { c with stys:=(c.stys++[x.s]) } { R with sv:=(.slice p2 (c.stys++[x.s]).length k2) }) dK.cell e4 ?_;rintro _ y9 ⟨hU,e4⟩;replace hS:=hS.ow hU;have aj:=hv.up hS;have ck:=dT.ext (X':=[]) hU (by simp) (by simp);focus repeat'(first|refine W1 ?_|omega|refine VG ?_ ?_<;>intro hg|refine VC ?_ ?_<;>intro hc)
 refine ZP rfl rfl rfl e4 rfl ?_;exact .mk ⟨⟨{ c with stys:=(c.stys++[x.s]) },{ R with sv:=(.slice p2 (c.stys++[x.s]).length k2) },h,rfl,⟨aj.ff,aj.rr,aj.aa,aj.cc,ck,aj.ho,aj.cl,aj.zo,aj.zs,aj.hr⟩,eT,Xl cX (by decide)⟩,hS⟩;focus repeat'(first|refine W1 ?_|omega|refine VG ?_ ?_<;>intro hg|refine VC ?_ ?_<;>intro hc)
 refine Zi (Zs (u:=.I x.n) rfl rfl rfl rfl e2 (show (16:Nat)<19 by decide)) ?_;rintro _ wh ⟨hU,k5⟩;replace e2:Blk wh b2 49 (Jh c { R with hr:=.I x.n }):=k5;replace e4:=e4.ext hU (by simpa using n24.symm);replace hS:=hS.ow hU;have aj:=hv.up hS;have dK:Z1V wh c { R with hr:=.I x.n } z sh x.n:=⟨aj.ff,aj.rr,aj.aa,aj.cc,aj.ss,aj.ho,aj.cl,aj.zo,aj.zs,rfl⟩
 clear aj hU k5 eb;focus repeat'(first|refine W1 ?_|omega|refine VG ?_ ?_<;>intro hg|refine VC ?_ ?_<;>intro hc)
 refine SB (us:=Jh c { R with hr:=.I x.n }) dK.cell e4 ?_;rintro _ y9 ⟨hU,e4⟩;replace hS:=hS.ow hU;have aj:=hv.up hS;focus repeat'(first|refine W1 ?_|omega|refine VG ?_ ?_<;>intro hg|refine VC ?_ ?_<;>intro hc)
 refine ZP rfl rfl rfl e4 rfl ?_;exact .mk ⟨⟨c,{ R with hr:=.I x.n },x.n,rfl,⟨aj.ff,aj.rr,aj.aa,aj.cc,aj.ss,aj.ho,aj.cl,aj.zo,aj.zs,rfl⟩,eT,Xl cX (by decide)⟩,hS⟩;focus repeat'(first|refine W1 ?_|omega|refine VG ?_ ?_<;>intro hg|refine VC ?_ ?_<;>intro hc)
 refine Zi (Zs (u:=.I x.n) rfl rfl rfl rfl e2 (show (17:Nat)<19 by decide)) ?_;rintro _ wh ⟨hU,k5⟩;replace e2:Blk wh b2 49 (Jh { c with court:=x.n } R):=k5;replace e4:=e4.ext hU (by simpa using n24.symm);replace hS:=hS.ow hU;have aj:=hv.up hS;have dK:Z1V wh { c with court:=x.n } R z sh h:=⟨aj.ff,aj.rr,aj.aa,aj.cc,aj.ss,aj.ho,aj.cl,aj.zo,aj.zs,aj.hr⟩
 clear aj hU k5 eb;focus repeat'(first|refine W1 ?_|omega|refine VG ?_ ?_<;>intro hg|refine VC ?_ ?_<;>intro hc)
 refine SB (us:=Jh { c with court:=x.n } R) dK.cell e4 ?_;rintro _ y9 ⟨hU,e4⟩;replace hS:=hS.ow hU;have aj:=hv.up hS;focus repeat'(first|refine W1 ?_|omega|refine VG ?_ ?_<;>intro hg|refine VC ?_ ?_<;>intro hc)
 refine ZP rfl rfl rfl e4 rfl ?_;exact .mk ⟨⟨{ c with court:=x.n },R,h,rfl,⟨aj.ff,aj.rr,aj.aa,aj.cc,aj.ss,aj.ho,aj.cl,aj.zo,aj.zs,aj.hr⟩,eT,Xl cX (by decide)⟩,hS⟩;focus repeat'(first|refine W1 ?_|omega|refine VG ?_ ?_<;>intro hg|refine VC ?_ ?_<;>intro hc)
 refine Zi (Zs (u:=.I x.n) rfl rfl rfl rfl e2 (show (18:Nat)<19 by decide)) ?_;rintro _ wh ⟨hU,k5⟩;replace e2:Blk wh b2 49 (Jh { c with today:=x.n } R):=k5;replace e4:=e4.ext hU (by simpa using n24.symm);replace hS:=hS.ow hU;have aj:=hv.up hS;have dK:Z1V wh { c with today:=x.n } R z sh h:=⟨aj.ff,aj.rr,aj.aa,aj.cc,aj.ss,aj.ho,aj.cl,aj.zo,aj.zs,aj.hr⟩
 clear aj hU k5 eb;focus repeat'(first|refine W1 ?_|omega|refine VG ?_ ?_<;>intro hg|refine VC ?_ ?_<;>intro hc)
 refine SB (us:=Jh { c with today:=x.n } R) dK.cell e4 ?_;rintro _ y9 ⟨hU,e4⟩;replace hS:=hS.ow hU;have aj:=hv.up hS;focus repeat'(first|refine W1 ?_|omega|refine VG ?_ ?_<;>intro hg|refine VC ?_ ?_<;>intro hc)
 refine ZP rfl rfl rfl e4 rfl ?_;exact .mk ⟨⟨{ c with today:=x.n },R,h,rfl,⟨aj.ff,aj.rr,aj.aa,aj.cc,aj.ss,aj.ho,aj.cl,aj.zo,aj.zs,aj.hr⟩,eT,Xl cX (by decide)⟩,hS⟩
end Go.Proofs.YteibicnbkggiiaaGreatDoor
namespace Go.Sim
open Go Go.Eng Go.RowKit Go.Proofs
theorem Jv {α:Type} {b:Bool} {x:Option α} {y:α} (h:(bif b then x else none)=some y):b=true/\x=some y:=by
 cases b with
 | false=>cases h
 | true=>exact ⟨rfl,h⟩
inductive V where
 | i (k:IntKind) (n:Int)
 | b (x:Bool)
 | s (s:Str)
 | c (v:Value)
 | p (b o:Nat)
 | l (b n:Nat)
 | a (l:List V)
 | t (l:List V)
 | f (g:Nat) (x y:List V)
 | m (b:Nat)
 | q (b o k n:Nat)
 | z (b o n:Nat)
abbrev Lc:=Nat->Nat×Nat
mutual
def ga (L:Lc):V->Value
 | .i k n=>.int k n
 | .b x=>.bool x
 | .s s=>str s
 | .c v=>v
 | .p b o=>.pointer (some ⟨(L b).1,o,none⟩)
 | .l b n=>.slice (some ⟨(L b).1,0,none⟩) n (L b).2
 | .a l=>.agg (gl L l).toArray
 | .t l=>.tuple (gl L l).toArray
 | .f g x y=>.func (.func g) (gl L x).toArray (gl L y).toArray
 | .m b=>.map (some (L b).1)
 | .q b o k n=>.slice (some ⟨(L b).1,bif Nat.beq n 0 && Nat.beq (L b).2 o then 0 else o * k,none⟩) n ((L b).2 - o)
 | .z b o n=>.slice (some ⟨(L b).1,o,none⟩) n n
def gl (L:Lc):List V->List Value
 | []=>[]
 | v :: r=>ga L v :: gl L r
end
mutual
def bd (n:Nat):V->Bool
 | .p b _=>Nat.blt b n
 | .l b _=>Nat.blt b n
 | .m b=>Nat.blt b n
 | .q b _ _ _=>Nat.blt b n
 | .z b _ _=>Nat.blt b n
 | .a l=>bl n l
 | .t l=>bl n l
 | .f _ x y=>bl n x && bl n y
 | _=>true
def bl (n:Nat):List V->Bool
 | []=>true
 | v :: r=>bd n v && bl n r
end
mutual
theorem Z4e {L L':Lc} {n:Nat} (h:∀ k,k<n->L' k=L k):∀ v,bd n v=true->ga L' v=ga L v
 | .i _ _,_=>rfl
 | .b _,_=>rfl
 | .s _,_=>rfl
 | .c _,_=>rfl
 | .p b o,hb=>by simp only [ga];rw [h b (Xe hb)]
 | .l b m,hb=>by simp only [ga];rw [h b (Xe hb)]
 | .m b,hb=>by simp only [ga];rw [h b (Xe hb)]
 | .q b _ _ _,hb=>by simp only [ga];rw [h b (Xe hb)]
 | .z b _ _,hb=>by simp only [ga];rw [h b (Xe hb)]
 | .a l,hb=>by simp only [ga];rw [Z3o h l hb]
 | .t l,hb=>by simp only [ga];rw [Z3o h l hb]
 | .f g x y,hb=>by simp only [bd,Xa] at hb;simp only [ga];rw [Z3o h x hb.1,Z3o h y hb.2]
theorem Z3o {L L':Lc} {n:Nat} (h:∀ k,k<n->L' k=L k):∀ l,bl n l=true->gl L' l=gl L l
 | [],_=>rfl
 | v :: r,hb=>by simp only [bl,Xa] at hb;simp only [gl];rw [Z4e h v hb.1,Z3o h r hb.2]
end
mutual
theorem bd_le {n m:Nat} (h:n<=m):∀ v,bd n v=true->bd m v=true
 | .i _ _,_=>rfl
 | .b _,_=>rfl
 | .s _,_=>rfl
 | .c _,_=>rfl
 | .p b o,hb=>XN (Xl (Xe hb) h)
 | .l b k,hb=>XN (Xl (Xe hb) h)
 | .m b,hb=>XN (Xl (Xe hb) h)
 | .q b _ _ _,hb=>XN (Xl (Xe hb) h)
 | .z b _ _,hb=>XN (Xl (Xe hb) h)
 | .a l,hb=>Z4f h l hb
 | .t l,hb=>Z4f h l hb
 | .f g x y,hb=>by simp only [bd,Xa] at hb ⊢;exact ⟨Z4f h x hb.1,Z4f h y hb.2⟩
theorem Z4f {n m:Nat} (h:n<=m):∀ l,bl n l=true->bl m l=true
 | [],_=>rfl
 | v :: r,hb=>by simp only [bl,Xa] at hb ⊢;exact ⟨bd_le h v hb.1,Z4f h r hb.2⟩
end
theorem J8 (L:Lc):∀ l,gl L l=l.map (ga L)
 | []=>rfl
 | v :: r=>by rw [gl,J8 L r];rfl
theorem ZV (L:Lc) (l:List V):(gl L l).length=l.length:=by rw [J8,X1]
theorem Z1d (n:Nat):∀ l,bl n l=true↔∀ v∈l,bd n v=true
 | []=>by simp [bl]
 | v :: r=>by simp [bl,Z1d n r]
abbrev AE:=List (Nat×V)
noncomputable def lk {α:Type} (l:List (Nat×α)) (t:Nat):Option α:=List.rec (motive:=λ_=>Option α) none (λp _ ih=>Bool.rec (motive:=λ_=>Option α) ih (some p.2) (Nat.beq p.1 t)) l
abbrev pt {α:Type} (d:Nat) (v:α) (l:List (Nat×α)):List (Nat×α):=(d,v) :: l
def ge (L:Lc) (e:AE):Env:=e.map (λp=>(p.1,ga L p.2))
theorem Z9M {a b:Nat} (h:a≠b):Nat.beq a b=false:=by
 cases hb:Nat.beq a b with
 | false=>rfl
 | true=>exact absurd (Xk hb) h
theorem Z8h (a:Nat):Nat.beq a a=true:=by simp
theorem Z3p {α:Type} (d:Nat) (v:α) (e:List (Nat×α)) (t:Nat):lk ((d,v) :: e) t=if d=t then some v else lk e t:=by
 show Bool.rec (motive:=λ_=>Option α) (lk e t) (some v) (Nat.beq d t)=_;by_cases h:d=t;subst h;rw [Z8h,if_pos rfl];rw [Z9M h,if_neg h]
theorem JZ (L:Lc):∀ (e:AE) (t:Nat),Eng.look (ge L e) t=(lk e t).map (ga L)
 | [],_=>rfl
 | (k, v) :: r, t => by
   show (bif Nat.beq k t then some (ga L v) else Eng.look (ge L r) t)=_;rw [JZ L r t];show _=Option.map (ga L) (Bool.rec (motive:=λ_=>Option V) (lk r t) (some v) (Nat.beq k t));cases Nat.beq k t<;>rfl
def ofC:Value->V
 | .int k n=>.i k n
 | .bool b=>.b b
 | .string s=>.s s.data.toList
 | v=>.c v
theorem Z5q (L:Lc) (v:Value):ga L (ofC v)=v:=by cases v<;>rfl
noncomputable def evv (e:AE):Operand->Option V
 | .tmp t=>lk e t
 | .const v=>some (ofC v)
 | .global g=>bif Nat.blt g 64 then some (.p g 0) else none
 | .func f=>some (.f f [] [])
def Gl (L:Lc):Prop:=∀ g,g<64->L g=(g,7)
theorem Zm {L:Lc} (hG:Gl L) {e:AE} {x:Operand} {v:V} (h:evv e x=some v):ev (ge L e) x=some (ga L v):=by
 cases x with
 | tmp t=>show Eng.look _ _=_;rw [JZ];show Option.map _ (evv e (.tmp t))=_;rw [h];rfl
 | const c=>simp only [evv,Xi] at h;subst h;show some c=_;rw [Z5q]
 | global g=>
   simp only [evv] at h;obtain ⟨hg,h⟩:=Jv h;simp only [Xi] at h;subst h;show some (pQ g)=_;simp only [ga];rw [hG g (Xe hg)]
 | func f=>simp only [evv,Xi] at h;subst h;rfl
noncomputable def evs (e:AE):List Operand->Option (List V)
 | []=>some []
 | x :: r => match evv e x, evs e r with
   | some v,some l=>some (v :: l)
   | _,_=>none
theorem Zev {L:Lc} (hG:Gl L) {e:AE} {n:Nat}:∀ {l:List Operand} {vs:List V},evs e l=some vs->∀ a,Has n (ge L e) a->l.map a.eval=gl L vs
 | [],vs,h,a,ha=>by simp only [evs,Xi] at h;subst h;rfl
 | x :: r, vs, h, a, ha => by
   unfold evs at h;cases hx:evv e x with
   | none=>simp [hx] at h
   | some v=>
     cases hr:evs e r with
     | none=>simp [hx,hr] at h
     | some l=>
       simp only [hx,hr,Xi] at h;subst h;rw [Xz,ha.ev (Zm hG hx),Zev hG hr a ha];rfl
def isT (P:Program) (t:Nat):Bool:=match P.underlying t with|some .string=>true|_=>false
def isB (P:Program) (t:Nat):Bool:=match P.underlying t with|some .bool=>true|_=>false
theorem Z1J {P:Program} {t:Nat} (h:isT P t=true):Und P t .string:=⟨by
 unfold isT at h;split at h<;>first|assumption|cases h⟩
theorem Zh9 {P:Program} {t:Nat} (h:isB P t=true):Und P t .bool:=⟨by
 unfold isB at h;split at h<;>first|assumption|cases h⟩
def isF (P:Program) (t:Nat):Bool:=match P.underlying t with|some (.interface _)=>true|_=>false
theorem ZaK {P:Program} {t:Nat} (h:isF P t=true):∃ l,P.underlying t=some (.interface l):=by
 unfold isF at h;split at h;exact ⟨_,by assumption⟩;cases h
def Z8i:Value->Bool
 | .nilIface=>true
 | _=>false
theorem Z8j {v:Value} (h:Z8i v=true):v=.nilIface:=by cases v<;>first|rfl|cases h
def isK:Operand->Bool
 | .const _=>true
 | _=>false
theorem Zew {P:Program} {n:Nat} {e:Env} {w} {t u ty:TypeId} {x y:Operand} {d:Option Nat} {pos:String} {af:Array Edge} {g:Option (Nat×Bool)} (hu:∃ l,P.underlying t=some (.interface l)) (hx:ev e x=some .nilIface) (hy:ev e y=some .nilIface) (hk:isK y=true) :
 PR P n ⟨d,.binOp .eql t x y u,ty,pos,af,g⟩ e w (.bool true)/\PR P n ⟨d,.binOp .neq t x y u,ty,pos,af,g⟩ e w (.bool false):=by
 obtain ⟨l,hu⟩:=hu;have:=run_equal_nil_nil (P:=P) (w:=w) t (by rw [hu,Program.methodsAt,hu])
 cases y<;>first
  | (cases hk;done)
  | (constructor<;>refine ⟨λa ha=>?_⟩<;>simp only [execOp,ha.ev hx,ha.ev hy]<;>simp [go_sem,binOp,eqGuard,this])
def cut (b:Bool) (v:V):Option V:=bif b then some v else none
theorem JH {b:Bool} {v u:V} (h:cut b v=some u):b=true/\v=u:=by
 cases b with
 | false=>cases h
 | true=>exact ⟨rfl,XT h⟩
def keq (k k':IntKind):Bool:=decide (k=k')
def eqF (P:Program):List Field->List V->List V->Option Bool
 | [],_,_=>some true
 | f :: fs, xs, ys => match (P.info? f.type).map (·.size), f.name == "_", P.underlying f.type, xs[f.offset]?, ys[f.offset]?, eqF P fs xs ys with
   | some 1,false,some (.int k),some (.i k1 a),some (.i k2 b),some r=>bif keq k1 k && keq k2 k then some (decide (a=b) && r) else none
   | some 1,false,some .string,some (.s a),some (.s b),some r=>some (decide (a=b) && r)
   | _,_,_,_,_,_=>none
def eqS (P:Program) (t:Nat) (a b:List V):Option Bool:=match P.underlying t with
 | some (.struct fs)=>bif !P.stoodInHeld t && !P.eqGuardType P.depth t then eqF P fs.toList a b else none
 | _=>none
def bin (P:Program) (t:Nat) (k:Bool):BinOp->V->V->Option V
 | .add,.i k a,.i k' b=>cut (keq k k') (.i k (k.wrap (a+b)))
 | .sub,.i k a,.i k' b=>cut (keq k k') (.i k (k.wrap (a - b)))
 | .mul,.i k a,.i k' b=>cut (keq k k') (.i k (k.wrap (a * b)))
 | .quo,.i k a,.i k' b=>cut (keq k k' && decide (b≠0)) (.i k (k.wrap (a.tdiv b)))
 | .rem,.i k a,.i k' b=>cut (keq k k' && decide (b≠0)) (.i k (a.tmod b))
 | .eql,.i k a,.i k' b=>cut (keq k k') (.b (decide (a=b)))
 | .neq,.i k a,.i k' b=>cut (keq k k') (.b (decide (¬ a=b)))
 | .lss,.i k a,.i k' b=>cut (keq k k') (.b (decide (a<b)))
 | .leq,.i k a,.i k' b=>cut (keq k k') (.b (decide (a<=b)))
 | .gtr,.i k a,.i k' b=>cut (keq k k') (.b (decide (b<a)))
 | .geq,.i k a,.i k' b=>cut (keq k k') (.b (decide (b<=a)))
 | .eql,.s a,.s b=>cut (isT P t) (.b (decide (a=b)))
 | .neq,.s a,.s b=>cut (isT P t) (.b (decide (¬ a=b)))
 | .add,.s a,.s b=>cut (isT P t && Nat.ble (a.length+b.length) 9223372036854775807) (.s (a++b))
 | .eql,.b a,.b b=>cut (isB P t) (.b (decide (a=b)))
 | .neq,.b a,.b b=>cut (isB P t) (.b (decide (¬ a=b)))
 | .eql,.a a,.a b=>(eqS P t a b).map .b
 | .neq,.a a,.a b=>(eqS P t a b).map λr=>.b (!r)
 | .lss,.s a,.s b=>cut (isT P t) (.b (Op.bytesLess a b))
 | .gtr,.s a,.s b=>cut (isT P t) (.b (!(Op.bytesLess a b || a == b)))
 | .eql,.c a,.c b=>cut (Z8i a && Z8i b && isF P t && k) (.b true)
 | .neq,.c a,.c b=>cut (Z8i a && Z8i b && isF P t && k) (.b false)
 | _,_,_=>none
theorem Z5r (L:Lc) (l:List V) (i:Nat):(gl L l)[i]?=(l[i]?).map (ga L):=by rw [J8,Yac]
theorem Z9N {P:Program} (L:Lc) (w) (d:Nat):∀ (fs:List Field) (xs ys:List V) (r:Bool),eqF P fs xs ys=some r->(Op.eqFields (d+1) (gl L xs).toArray (gl L ys).toArray fs).run P w=.ok r w
 | [],_,_,r,h=>by simp only [eqF,Xi] at h;subst h;simp [Op.eqFields]
 | f :: fs, xs, ys, r, h => by
   simp only [eqF] at h;have hp:∀ (zs:List V) (v:V),(P.info? f.type).map (·.size)=some 1->zs[f.offset]?=some v->(∀ D,P.underlying f.type=some D->Z03 D=false)->(∃ D,P.underlying f.type=some D)->(part f.type (gl L zs).toArray f.offset).run P w=.ok (ga L v) w:=λzs v h1 h2 h3 h4=>by
    obtain ⟨D,hD⟩:=h4;have u1:Siz P f.type 1:=⟨h1⟩
    have u2:Und P f.type D:=⟨hD⟩
    have h5:(gl L zs)[f.offset]?=some (ga L v):=by rw [Z5r,h2];rfl
    simp [part,Und.isAgg,h3 D hD,Siz.run,h5]
   split at h;rename_i k k1 a k2 b r' e1 e2 e3 e4 e5 e6;obtain ⟨hk,h'⟩:=Jv h;simp only [Xa] at hk;have k3:=of_decide_eq_true hk.1;have k4:=of_decide_eq_true hk.2;subst k3 k4;cases h';have q1:=hp xs _ e1 e4 (λD hD=>by rw [e3] at hD;cases hD;rfl) ⟨_,e3⟩;have q2:=hp ys _ e1 e5 (λD hD=>by rw [e3] at hD;cases hD;rfl) ⟨_,e3⟩;have ih:=Z9N L w d fs xs ys r' e6;have e2:f.name ≠ "_" := by simpa using e2
   simp only [Op.eqFields,if_pos e2,Sem.run_bind,q1,q2,Result.andThen_ok,ga,run_equalIn_int w d _ _ _ _ _ e3];by_cases bE:a=b;simp [bE,ih];simp [bE];rename_i a b r' e1 e2 e3 e4 e5 e6;simp only [Xi] at h;subst h;have q1:=hp xs _ e1 e4 (λD hD=>by rw [e3] at hD;cases hD;rfl) ⟨_,e3⟩;have q2:=hp ys _ e1 e5 (λD hD=>by rw [e3] at hD;cases hD;rfl) ⟨_,e3⟩;have ih:=Z9N L w d fs xs ys r' e6;have e2:f.name ≠ "_" := by simpa using e2
   simp only [Op.eqFields,if_pos e2,Sem.run_bind,q1,q2,Result.andThen_ok,ga,run_equalIn_string w d _ _ _ e3];by_cases bE:a=b;simp [bE,ih];simp [bE];cases h
theorem ZkD {P:Program} {t:Nat} {a b:List V} {r:Bool} (L:Lc) (h:eqS P t a b=some r):(∀ op x y w,(eqGuard op t x y (.agg (gl L a).toArray) (.agg (gl L b).toArray)).run P w=.ok () w)/\∀ w,(Op.equal t (.agg (gl L a).toArray) (.agg (gl L b).toArray)).run P w=.ok r w:=by
 unfold eqS at h;split at h;rename_i fs h1;obtain ⟨hc,h⟩:=Jv h;simp only [Xa,YaP] at hc;have hf:P.fieldsOf t=fs:=by unfold Program.fieldsOf;rw [h1]
 refine ⟨λop x y w=>?_,λw=>?_⟩;unfold eqGuard;cases op<;>simp [hc.2];have:=run_equalIn_struct (P:=P) w 9999 t (gl L a).toArray (gl L b).toArray (by rw [h1,hf]) hc.1;rw [hf] at this;exact this.trans (Z9N L w _ _ _ _ _ h);cases h
theorem ZkE {P:Program} {n:Nat} {L:Lc} (hG:Gl L) {e:AE} {t:Nat} {op:BinOp} {x y:Operand} {a b v:V} (hx:evv e x=some a) (hy:evv e y=some b) (h:bin P t (isK y) op a b=some v)
 (w) (d:Option Nat) (u ty:TypeId) (pos:String) (af:Array Edge) (g:Option (Nat×Bool)):PR P n ⟨d,.binOp op t x y u,ty,pos,af,g⟩ (ge L e) w (ga L v):=by
 have ex:=Zm hG hx;have ey:=Zm hG hy;unfold bin at h
 split at h<;>first
  | cases h
  | (rw [XB] at h
     obtain ⟨r,h,rfl⟩:=h;obtain ⟨q1,q2⟩:=ZkD L h;exact ⟨λc hc=>by simp only [execOp,hc.ev ex,hc.ev ey];simp [ga,q1,binOp,q2,go_sem]⟩)
  | (obtain ⟨h1, rfl⟩ := JH h
     first
      | (have hk : _ = _ := of_decide_eq_true h1
         subst hk;first|exact Zgh ex ey rfl|exact Zgi ex ey rfl|exact Zgj ex ey rfl|exact Zcf ex ey|exact Z8y ex ey|exact Z8w ex ey|exact Zcd ex ey|exact Z8x ex ey|exact Zce ex ey)
      | (simp only [Xa] at h1
         obtain ⟨h1,h2⟩:=h1;have hk:_=_:=of_decide_eq_true h1;subst hk;first|exact Zgl ex ey (of_decide_eq_true h2) rfl|exact Zgk ex ey (of_decide_eq_true h2) rfl)
      | (have := Z1J h1
         first|exact Zag ex ey|exact Zah ex ey|exact ⟨λc hc=>by simp only [execOp,hc.ev ex,hc.ev ey];simp [ga,go_sem,binOp,Op.stringOp]⟩)
      | (simp only [Xa] at h1
         obtain ⟨⟨⟨h1,h2⟩,h3⟩,h4⟩:=h1;have ha:=Z8j h1;have hb:=Z8j h2;subst ha hb;first|exact (Zew (ZaK h3) ex ey h4).1|exact (Zew (ZaK h3) ex ey h4).2)
      | (have := Zh9 h1
         first|exact Zac ex ey|exact Z6l ex ey)
      | (simp only [Xa] at h1
         obtain ⟨h1,h2⟩:=h1;have:=Z1J h1;exact Z6q ex ey (Xe h2)))
def vc:V->List V
 | .a l=>l
 | .c v=>v.cells.toList.map ofC
 | v=>[v]
theorem Z70 (L:Lc) (l:List Value):gl L (l.map ofC)=l:=by
 rw [J8,X8]
 conv=>rhs;rw [<- List.map_id l]
 exact YaU λv _=>Z5q L v
theorem Zex (L:Lc) (v:V):(ga L v).cells.toList=gl L (vc v):=by
 cases v<;>first|rfl|simp only [ga,vc,Z70]|simp [ga,vc,Value.cells]
def ZkF (off:Nat) (cs:List V) (us:List V):List V:=us.zipIdx.foldl (λcs p=>cs.set (off+p.2) p.1) cs
theorem Zha (L:Lc) (off:Nat) (us:List V) (cs:List V):(gl L us).toArray.zipIdx.foldl (λcs (x:Value×Nat)=>cs.setIfInBounds (off+x.2) x.1) (gl L cs).toArray=(gl L (ZkF off cs us)).toArray:=by
 have key:∀ (us:List V) (k:Nat) (cs:List V),((us.map (ga L)).zipIdx k).foldl (λcs (x:Value×Nat)=>cs.setIfInBounds (off+x.2) x.1) (cs.map (ga L)).toArray=(((us.zipIdx k).foldl (λcs p=>cs.set (off+p.2) p.1) cs).map (ga L)).toArray:=by
  intro us
  induction us with
  | nil=>intro k cs;rfl
  | cons u us ih=>
    intro k cs;simp only [Xz,List.zipIdx_cons,Ya7];rw [<- ih (k+1) (cs.set (off+k) u)];congr 1;simp
 rw [J8,J8,J8];have:=key us 0 cs;rw [<- Array.foldl_toList];simpa [ZkF] using this
def Z5s (pl:Nat->Option (Nat×Nat)) (cs:List V):List (Nat×V)->Option (List V)
 | []=>some cs
 | (i, v) :: r => match pl i with
   | none=>none
   | some (off,size)=>if (vc v).length≠size\/off+(vc v).length > cs.length then none else Z5s pl (ZkF off cs (vc v)) r
def gp (L:Lc) (l:List (Nat×V)):List (Nat×Value):=l.map λp=>(p.1,ga L p.2)
theorem ZbK (L:Lc) (v:V):(ga L v).cells=(gl L (vc v)).toArray:=by rw [<- Zex]
theorem Z3q (L:Lc) (pl:Nat->Option (Nat×Nat)):∀ (ps:List (Nat×V)) (cs us:List V),Z5s pl cs ps=some us->Instr.fill pl (gl L cs).toArray (gp L ps)=some (gl L us).toArray
 | [],cs,us,h=>by simp only [Z5s,Xi] at h;subst h;rfl
 | (i, v) :: r, cs, us, h => by
   simp only [Z5s] at h;show Instr.fill pl _ ((i,ga L v) :: gp L r)=_;unfold Instr.fill;cases hp:pl i with
   | none=>simp [hp] at h
   | some q=>
     obtain ⟨off,size⟩:=q;simp only [hp] at h ⊢;split at h;cases h;rename_i hc;rw [ZbK,Yaa,Yaa,ZV,ZV,if_neg (by simpa using hc),Zha];exact Z3q L pl r _ us h
noncomputable def parts (e:AE):List (Nat×Operand)->Option (List (Nat×V))
 | []=>some []
 | (i, x) :: r => match evv e x, parts e r with
   | some v,some l=>some ((i,v) :: l)
   | _,_=>none
theorem Z5t {L:Lc} (hG:Gl L) {e:AE}:∀ {l:List (Nat×Operand)} {ps:List (Nat×V)},parts e l=some ps->ZX (ge L e) l=some (gp L ps)
 | [],ps,h=>by simp only [parts,Xi] at h;subst h;rfl
 | (i, x) :: r, ps, h => by
   unfold parts at h;cases hx:evv e x with
   | none=>simp [hx] at h
   | some v=>
     cases hr:parts e r with
     | none=>simp [hx,hr] at h
     | some l=>
       simp only [hx,hr,Xi] at h;subst h;simp only [ZX,Zm hG hx,Z5t hG hr];rfl
def built (P:Program) (t:Nat) (ps:List (Nat×V)):Option (List V):=
 match P.info? t,P.underlying t with
 | some it, some (.array _ e) => match it.zero, P.info? e with
   | some z,some ie=>Z5s (λi=>some (i * ie.size,ie.size)) (z.cells.toList.map ofC) ps
   | _,_=>none
 | some it, some (.struct fields) => match it.zero, fields.toList.mapM (λf => (P.info? f.type).map λi => (f.offset, i.size)) with
   | some z,some places=>Z5s (places.toArray[·]?) (z.cells.toList.map ofC) ps
   | _,_=>none
 | _,_=>none
theorem Zey (L:Lc) {P:Program} {t:Nat} {ps:List (Nat×V)} {cs:List V} (h:built P t ps=some cs):P.built t (gp L ps)=some (gl L cs).toArray:=by
 have hz:∀ z:Value,z.cells=(gl L (z.cells.toList.map ofC)).toArray:=λz=>by rw [Z70]
 unfold built at h;unfold Program.built;split at h;rename_i it n e h1 h2;rw [h1,h2];split at h;rename_i z ie h3 h4;simp only [h3,h4];rw [hz z];exact Z3q L _ _ _ _ h;cases h;rename_i it fs h1 h2;rw [h1,h2];split at h;rename_i z pl h3 h4;simp only [h3,h4];rw [hz z];exact Z3q L _ _ _ _ h;cases h;cases h
def fld (P:Program) (t i:Nat):Option Nat:=match P.underlying t with
 | some (.struct fs) => match fs[i]? with
   | some f => match (P.info? f.type).map (·.size) with
     | some (k+1)=>some f.offset
     | _=>none
   | none=>none
 | _=>none
theorem ZkG {P:Program} {t i o:Nat} (h:fld P t i=some o):Fld P t i o:=⟨by
 unfold fld at h;split at h;rename_i fs h1;split at h;rename_i f h2;split at h;rename_i k h3;exact ⟨fs,f,k,h1,h2,XT h,h3⟩;cases h;cases h;cases h⟩
def Z9O (P:Program) (t i:Nat) (cs:List V):Option V:=match P.underlying t with
 | some (.struct fs) => match fs[i]? with
   | some f => match P.underlying f.type, (P.info? f.type).map (·.size) with
     | some D,some k=>bif Z03 D then some (.a ((cs.drop f.offset).take k)) else cs[f.offset]?
     | _,_=>none
   | none=>none
 | _=>none
theorem Zhb (L:Lc) (l:List V) (k:Nat):gl L (l.take k)=(gl L l).take k:=by rw [J8,J8,Ybg]
theorem Zhc (L:Lc) (l:List V) (k:Nat):gl L (l.drop k)=(gl L l).drop k:=by rw [J8,J8,Ybf]
theorem ZbL {P:Program} {t i:Nat} {cs:List V} {v:V} (L:Lc) (h:Z9O P t i cs=some v) (w):(Instr.field t (.agg (gl L cs).toArray) i).run P w=.ok (ga L v) w:=by
 unfold Z9O at h;split at h;rename_i fs h1;split at h;rename_i f h2;split at h
 . rename_i D k h3 h4
   have u1:Und P f.type D:=⟨h3⟩
   have u2:Siz P f.type k:=⟨h4⟩
   cases hA:Z03 D with
   | true=>
     rw [hA] at h;simp only [cond_true,Xi] at h;subst h;simp [Instr.field,run_underlying h1,h2,asAgg,part,Und.isAgg,hA,Siz.run,ga,Zhb,Zhc]
   | false=>
     rw [hA] at h;simp only [cond_false] at h;have:=Z5r L cs f.offset;rw [h] at this;simp [Instr.field,run_underlying h1,h2,asAgg,part,Und.isAgg,hA,this]
 cases h;cases h;cases h
noncomputable def Z9P (P:Program) (e:AE) (t:Nat) (s:Str):Option Operand->Option Operand->Option V
 | some lo, some hi => match evv e lo, evv e hi with
   | some (.i .i64 l),some (.i .i64 h)=>cut (decide (0<=l/\l<=h/\h<=s.length)) (.s ((s.take h.toNat).drop l.toNat))
   | _,_=>none
 | some lo, none => match evv e lo with
   | some (.i .i64 l)=>cut (decide (0<=l/\l<=s.length)) (.s (s.drop l.toNat))
   | _=>none
 | none, some hi => match evv e hi with
   | some (.i .i64 h)=>cut (decide (0<=h/\h<=s.length)) (.s (s.take h.toNat))
   | _=>none
 | none,none=>none
def slr:V->Option (Nat×Nat×Nat)
 | .l b n=>some (b,0,n)
 | .q b o k n=>some (b,o * k,n)
 | .z b o n=>some (b,o,n)
 | _=>none
theorem ZkH {L:Lc} {v:V} {b o n:Nat} (h:slr v=some (b,o,n)) (hn:0<n):∃ c,ga L v=.slice (some ⟨(L b).1,o,none⟩) n c:=by
 cases v with
 | l b' n'=>
   simp only [slr,Xi,XC] at h;obtain ⟨rfl,rfl,rfl⟩:=h;exact ⟨_,rfl⟩
 | q b' o' k' n'=>
   simp only [slr,Xi,XC] at h;obtain ⟨rfl,rfl,rfl⟩:=h;exact ⟨(L b').2 - o',by simp only [ga];rw [Z9M (Nat.ne_of_gt hn)];rfl⟩
 | z b' o' n'=>
   simp only [slr,Xi,XC] at h;obtain ⟨rfl,rfl,rfl⟩:=h;exact ⟨_,rfl⟩
 | _=>cases h
def idx (P:Program) (t:Nat):V->V->Option V
 | .p b o, .i .i64 j => match P.underlying t with
   | some (.array n el) => match (P.info? el).map (·.size) with
     | some k=>cut (decide (0<=j/\j<n)) (.p b (o+j.toNat * k))
     | none=>none
   | _=>none
 | v, .i .i64 j => match slr v, P.underlying t with
   | some (b, o, n), some (.slice el) => match (P.info? el).map (·.size) with
     | some k=>cut (decide (0<=j/\j<n)) (.p b (o+j.toNat * k))
     | none=>none
   | _,_=>none
 | _,_=>none
def ZkI:V->Option Nat
 | .l _ n=>some n
 | .q _ _ _ n=>some n
 | .z _ _ n=>some n
 | .c (.N)=>some 0
 | _=>none
theorem Zhd {L:Lc} {v:V} {n:Nat} (h:ZkI v=some n):∃ p c,ga L v=.slice p n c:=by
 unfold ZkI at h;split at h<;>first|(cases h;done)|(simp only [Xi] at h;subst h;exact ⟨_,_,rfl⟩)
noncomputable def ZkJ (P:Program) (e:AE) (c:Call):Option V:=match c.callee,c.args.toList,c.argTypes.toList with
 | .builtin .len, [x], [t] => match evv e x with
   | some (.s s)=>cut (isT P t) (.i .i64 s.length)
   | some v => match ZkI v, P.underlying t with
     | some n,some (.slice _)=>some (.i .i64 n)
     | _,_=>none
   | _=>none
 | .builtin .cap, [x], [t] => match evv e x, P.underlying t with
   | some (.c (.N)),some (.slice _)=>some (.i .i64 0)
   | _,_=>none
 | .builtin .max, [x, y], _ => match evv e x, evv e y with
   | some (.i .i64 a),some (.i .i64 b)=>some (.i .i64 (max a b))
   | _,_=>none
 | .builtin .min, [x, y], _ => match evv e x, evv e y with
   | some (.i .i64 a),some (.i .i64 b)=>some (.i .i64 (min a b))
   | _,_=>none
 | _,_,_=>none
noncomputable def ZkK (P:Program) (e:AE) (t:Nat) (lo hi:Option Operand):V->Option V
 | .s s=>bif isT P t then Z9P P e t s lo hi else none
 | .c (.N) => match lo, hi, P.underlying t with
   | none, some h, some (.slice el) => match evv e h, (P.info? el).map (·.size) with
     | some (.i .i64 0),some _=>some (.c (.N))
     | _,_=>none
   | some h, none, some (.slice el) => match evv e h, (P.info? el).map (·.size) with
     | some (.i .i64 0),some _=>some (.c (.N))
     | _,_=>none
   | _,_,_=>none
 | .p b o => match lo, hi, P.underlying t with
   | none, none, some (.array n el) => match (P.info? el).map (·.size) with
     | some _=>some (.z b o n)
     | none=>none
   | _,_,_=>none
 | _=>none
noncomputable def pur (P:Program) (e:AE):Op->Option V
 | .move x=>evv e x
 | .assign x=>evv e x
 | .pick c x y => match evv e c with
   | some (.b true)=>evv e x
   | some (.b false)=>evv e y
   | _=>none
 | .nilCheck x => match evv e x with
   | some (.p b o)=>some (.p b o)
   | _=>none
 | .binOp op t x y _ => match evv e x, evv e y with
   | some a,some b=>bin P t (isK y) op a b
   | _,_=>none
 | .unOp .not _ x => match evv e x with
   | some (.b v)=>some (.b (!v))
   | _=>none
 | .convert s d x => match evv e x, P.underlying s, P.underlying d with
   | some (.i k n),some _,some (.int k')=>some (.i k' (k'.wrap n))
   | _,_,_=>none
 | .makeFunc (.func g) fs cs => match evs e fs.toList, evs e cs.toList with
   | some x,some y=>some (.f g x y)
   | _,_=>none
 | .slice t x lo hi none => match evv e x with
   | some v=>ZkK P e t lo hi v
   | none=>none
 | .fieldAddr t x i => match evv e x, fld P t i with
   | some (.p b o),some k=>some (.p b (o+k))
   | _,_=>none
 | .field t x i => match evv e x with
   | some (.a cs)=>Z9O P t i cs
   | _=>none
 | .indexAddr t x y => match evv e x, evv e y with
   | some a,some b=>idx P t a b
   | _,_=>none
 | .index t x y => match evv e x, evv e y with
   | some (.s s),some (.i _ j)=>cut (isT P t && decide (0<=j/\j<s.length)) (.i .u8 (ZU s j.toNat))
   | _,_=>none
 | .extract x i => match evv e x with
   | some (.t l)=>l[i]?
   | _=>none
 | .build t ps => match parts e ps.toList with
   | some ps=>(built P t ps).map .a
   | _=>none
 | .call c=>ZkJ P e c
 | _=>none
end Go.Sim
