/-
Contracts and plain laws, merged out of own texts.
-/
import Derived.Test.YteibicnbkggiiaaGreatDoorQ6
import Derived.Great.BuildSlice
import Derived.Laws.OwnMore
import Derived.Laws.CopyRow
import Derived.LoopN
import Derived.WideLaws
import Derived.Lib.IndexMore
set_option linter.unusedVariables false
set_option linter.unusedSimpArgs false
set_option maxHeartbeats 4000000
set_option maxRecDepth 20000
namespace Go.Proofs.YteibicnbkggiiaaGreatDoor
open Go Go.Eng Go.RowKit Go.Proofs
def ZfX (c:Cas) (z:Int) (sh:List Spn) (h:Int):Int:=orL [Z7x c.crrs.length c.atts,Zfe c.stys,Zdg c.cal z sh h]
def Zdi (c:Cas) (z:Int) (sh:List Spn) (h:Int):Int:=
 if Z5y [] c.fcts≠0 then Z5y [] c.fcts else if ZbC c.crrs≠0 then ZbC c.crrs else if ZbD c.ruls≠0 then ZbD c.ruls else
 if ZfX c z sh h≠0 then ZfX c z sh h else if (0<=c.court/\c.court<=15)/\0<=c.today/\c.today<=3652058 then 0 else 5
structure Z85 (w:World) (c:Cas) (R:Z0C) (z:Int) (sh:List Spn) (h:Int):Prop where
 ff:SlV [] w R.fv c.fcts
 rr:SlV [] w R.rv c.ruls
 aa:SlV [] w R.av c.atts
 cc:SlV [] w R.cv c.crrs
 ss:SlV [] w R.sv c.stys
 ho:SlV [] w R.hv c.cal.hols
 cl:SlV [] w R.lv c.cal.clos
 zo:R.zo=.I z
 zs:SlV [] w R.zs sh
 hr:R.hr=.I h
theorem Z85.up {w w':World} {c:Cas} {R:Z0C} {z h:Int} {sh:List Spn} (g:Z85 w c R z sh h) (hS:Stp [] w w'):Z85 w' c R z sh h:=⟨g.ff.up hS,g.rr.up hS,g.aa.up hS,g.cc.up hS,g.ss.up hS,g.ho.up hS,g.cl.up hS,g.zo,g.zs.up hS,g.hr⟩
theorem Z86 (c:Cas) (R:Z0C) (z h:Int) (sh:List Spn) (w) (m:Int) (hF:SlV [] w Z2S Zd) (dN:w.cell? ⟨2,0,none⟩=some (.I m)) (hv:Z85 w c R z sh h) (fm:∀ f∈c.fcts,(f.kind.length:Int)<=maxLen) (eC:c.atts.length<=65536) :
 CC 7 #[.agg (Jq c R).toArray] w λr w'=>r=.I (Zdi c z sh h)/\Stp [] w w':=by
 have vE:=hv.cc.max;have vF:=hv.rr.max;unfold Zdi;refine cW1 78 Tryz.func7 ?_;refine W ?_;refine BX (Stp.refl [] w) λb1 w1 h1 e1 _ hS=>?_;replace e1:Blk w1 b1 49 (Jq c R):=e1;repeat'(first|refine W1 ?_|omega|refine VG ?_ ?_<;>intro hg|refine VC ?_ ?_<;>intro hc)
 refine CP hS (Z7w R.fv c.fcts _ fm (hv.ff.up hS)) λw2 hT hS=>?_;replace e1:=e1.up hT;by_cases g1:Z5y [] c.fcts=0
 case neg=>
  rw [if_pos g1];generalize Z5y [] c.fcts=z at *;repeat'(first|refine W1 ?_|omega|refine VG ?_ ?_<;>intro hg|refine VC ?_ ?_<;>intro hc)
  refine RU ?_;exact ⟨rfl,hS⟩
 rw [if_neg (not_not_intro g1),g1];have jX:=(hv.up hS).cc;by_cases g2:16<c.crrs.length;have bT:ZbC c.crrs=2:=if_pos g2;rw [bT,if_pos (by decide)];focus repeat'(first|refine W1 ?_|omega|refine VG ?_ ?_<;>intro hg|refine VC ?_ ?_<;>intro hc)
 refine RU ?_;exact ⟨rfl,hS⟩;have bT:ZbC c.crrs=if c.crrs.all Z84 then 0 else 5:=if_neg g2
 repeat'(first|refine W1 ?_|omega|refine VG ?_ ?_<;>intro hg|refine VC ?_ ?_<;>intro hc)
 refine LP (σ:=Nat) (λk=>[(1,pQ b1),(2,.I 0),(20,R.cv),(21,.I (c.crrs.length:Int)),(22,.I (k:Int))]) (λk w'=>k<=c.crrs.length/\Stp [] w2 w'/\∀ j (h:j<c.crrs.length),j<k->Z84 c.crrs[j]=true) (λk=>c.crrs.length - k) 0 ⟨Xu _,Stp.refl _ _,λj _ h=>absurd h (Xy _)⟩ ?_;rintro k y1 ⟨hk,ck,hz⟩;have e1':=e1.up ck;have ae:=hS.trans ck;have mI:=jX.up ck;by_cases hlt:k<c.crrs.length
 . have no:Z84 c.crrs[k]=false->ZbC c.crrs=5:=λhb=>by
    rw [bT,if_neg];intro h;have:=(Z15 Z84 _).1 h k hlt;rw [hb] at this;cases this
   have go:Z84 c.crrs[k]=true->∀ j (h:j<c.crrs.length),j<k+1->Z84 c.crrs[j]=true:=λhb j h hj=>by
    by_cases e:j=k;subst e;exact hb;exact hz j h (by omega)
   repeat'(first|refine W1 ?_|omega|refine VG ?_ ?_<;>intro hg|refine VC ?_ ?_<;>intro hc)
   refine Z0 Z4 rfl ?_;rintro _ w3 ⟨b6,rfl,eH,e6,hU⟩;refine SA (us:=Z2.enc c.crrs[k]) e6 ?_;rintro _ w4 ⟨bq,e6⟩;replace hU:=hU.ow bq;replace ck:=ck.trans hU;clear hU bq e1' ae mI;generalize c.crrs[k]=x at no go e6 ⊢;unfold Z84 at no;repeat'(first|refine W1 ?_|omega|refine VG ?_ ?_<;>intro hg|refine VC ?_ ?_<;>intro hc)
   refine CP ck (Z11 _ _ _ _) λw5 hT ck=>?_;replace e6:=e6.up hT;by_cases x1:0<=x.extra/\x.extra<=1000
   case neg=>
    rw [decide_eq_false x1,no (decide_eq_false (λg=>x1 g.1)),if_pos (by decide)];repeat'(first|refine W1 ?_|omega|refine VG ?_ ?_<;>intro hg|refine VC ?_ ?_<;>intro hc)
    refine RU ?_;exact ⟨rfl,hS.trans ck⟩
   rw [decide_eq_true x1];repeat'(first|refine W1 ?_|omega|refine VG ?_ ?_<;>intro hg|refine VC ?_ ?_<;>intro hc)
   refine CP ck (Z11 _ _ _ _) λw6 hT ck=>?_;by_cases x2:0<=x.tol/\x.tol<=1000
   case neg=>
    rw [decide_eq_false x2,no (decide_eq_false (λg=>x2 g.2)),if_pos (by decide)];repeat'(first|refine W1 ?_|omega|refine VG ?_ ?_<;>intro hg|refine VC ?_ ?_<;>intro hc)
    refine RU ?_;exact ⟨rfl,hS.trans ck⟩
   rw [decide_eq_true x2];repeat'(first|refine W1 ?_|omega|refine VG ?_ ?_<;>intro hg|refine VC ?_ ?_<;>intro hc)
   exact QL (k+1) ⟨hlt,ck,go (decide_eq_true ⟨x1,x2⟩)⟩ (XE hlt (XA k))
 have j6:ZbC c.crrs=0:=by rw [bT,if_pos ((Z15 Z84 _).2 (λj h=>hz j h (by omega)))]
 rw [if_neg (not_not_intro j6)];replace e1:=e1';replace hS:=ae;clear e1' ae mI jX ck hT hz bT;have si:=(hv.up hS).rr;by_cases g3:1024<c.ruls.length;have mJ:ZbD c.ruls=2:=if_pos g3;rw [mJ,if_pos (by decide)];focus repeat'(first|refine W1 ?_|omega|refine VG ?_ ?_<;>intro hg|refine VC ?_ ?_<;>intro hc)
 refine RU ?_;exact ⟨rfl,hS⟩;have mJ:ZbD c.ruls=if c.ruls.all Zjw then 0 else 22:=if_neg g3
 repeat'(first|refine W1 ?_|omega|refine VG ?_ ?_<;>intro hg|refine VC ?_ ?_<;>intro hc)
 refine LP (σ:=Nat) (λk=>[(1,pQ b1),(2,.I 0),(42,R.rv),(43,.I (c.ruls.length:Int)),(44,.I (k:Int))]) (λk w'=>k<=c.ruls.length/\Stp [] y1 w'/\∀ j (h:j<c.ruls.length),j<k->chkC c.ruls[j]=0) (λk=>c.ruls.length - k) 0 ⟨Xu _,Stp.refl _ _,λj _ h=>absurd h (Xy _)⟩ ?_;rintro k y2 ⟨hk,ck,hz⟩;have e1':=e1.up ck;have ae:=hS.trans ck;have ku:=si.up ck;by_cases hlt:k<c.ruls.length
 . obtain ⟨cs0,⟨kc,kd,rfl,qq,ej⟩,am⟩:=ku.cell hlt
   repeat'(first|refine W1 ?_|omega|refine VG ?_ ?_<;>intro hg|refine VC ?_ ?_<;>intro hc)
   refine Za (Z1C rfl rfl ku hlt ⟨kc,kd,rfl,qq,ej⟩ am) rfl ?_;refine Z0 Z4 rfl ?_;rintro _ w3 ⟨b6,rfl,eH,e6,hU⟩;refine SB (us:=crC c.ruls[k] kc kd) (Z1k qq ej) e6 ?_;rintro _ w4 ⟨bq,e6⟩;replace hU:=hU.ow bq;replace ck:=ck.trans hU;have cS:=hS.trans ck;repeat'(first|refine W1 ?_|omega|refine VG ?_ ?_<;>intro hg|refine VC ?_ ?_<;>intro hc)
   refine CP ck (Zd2 _ c.ruls[k] _ m (hF.up cS) (cS.cell (by simp) dN) ⟨kc,kd,rfl,qq.up hU,ej.up hU⟩) λw5 hT ck=>?_
   by_cases x1:chkC c.ruls[k]=0
   case neg=>
    have nB:ZbD c.ruls=22:=by
     rw [mJ,if_neg];intro h;exact x1 (of_decide_eq_true ((Z15 Zjw _).1 h k hlt))
    rw [nB,if_pos (by decide)];repeat'(first|refine W1 ?_|omega|refine VG ?_ ?_<;>intro hg|refine VC ?_ ?_<;>intro hc)
    refine RU ?_;exact ⟨rfl,hS.trans ck⟩
   rw [x1];repeat'(first|refine W1 ?_|omega|refine VG ?_ ?_<;>intro hg|refine VC ?_ ?_<;>intro hc)
   exact QL (k+1) ⟨hlt,ck,λj h hj=>by
    by_cases e:j=k;subst e;exact x1;exact hz j h (by omega)⟩ (XE hlt (XA k))
 have vG:ZbD c.ruls=0:=by rw [mJ,if_pos ((Z15 Zjw _).2 (λj h=>decide_eq_true (hz j h (by omega))))]
 rw [if_neg (not_not_intro vG)];replace e1:=e1';replace hS:=ae;clear e1' ae ku si ck hz mJ;have gh:=hv.up hS;have eu:=hv.zo;have ik:=hv.hr;unfold ZfX;repeat'(first|refine W1 ?_|omega|refine VG ?_ ?_<;>intro hg|refine VC ?_ ?_<;>intro hc)
 refine ZDr 14 [] [] [(0,0),(1,1),(2,0),(3,1),(5,0),(6,1),(8,0),(9,1),(4,2),(7,2),(10,2),(11,2),(12,2),(13,0)] (λw1 ae=>?_);replace e1:=e1.up ae;replace hS:=hS.trans ae;replace gh:=gh.up ae;repeat'(first|refine D1 ?_|omega|refine Zb rfl rfl rfl rfl (λhg=>?_) (λhg=>?_)|(refine Z7 rfl rfl rfl rfl (λhg=>?_) (λhg=>?_)<;>refine D1 ?_)|fail)
 refine WD_read rfl trivial (λw' aL=>Zj rfl rfl (e1.up aL) (us:=JO c.cal R.hv R.lv R.zo R.zs R.hr) rfl rfl) rfl ?_;repeat'(first|refine D1 ?_|omega|refine Zb rfl rfl rfl rfl (λhg=>?_) (λhg=>?_)|(refine Z7 rfl rfl rfl rfl (λhg=>?_) (λhg=>?_)<;>refine D1 ?_)|fail)
 refine DP hS (Z9N R.av R.cv c.atts c.crrs _ eC gh.aa gh.cc) λw5 hT hS=>?_;replace e1:=e1.up hT;replace gh:=gh.up hT;repeat'(first|refine D1 ?_|omega|refine Zb rfl rfl rfl rfl (λhg=>?_) (λhg=>?_)|(refine Z7 rfl rfl rfl rfl (λhg=>?_) (λhg=>?_)<;>refine D1 ?_)|fail)
 refine DP hS (Z9s R.sv c.stys _ gh.ss) λw6 hT hS=>?_;replace e1:=e1.up hT;replace gh:=gh.up hT;repeat'(first|refine D1 ?_|omega|refine Zb rfl rfl rfl rfl (λhg=>?_) (λhg=>?_)|(refine Z7 rfl rfl rfl rfl (λhg=>?_) (λhg=>?_)<;>refine D1 ?_)|fail)
 have mK:CC 32 #[.agg (JO c.cal R.hv R.lv R.zo R.zs R.hr).toArray] w6 λr w'=>r=.I (Zdg c.cal z sh h)/\Stp [] w6 w':=by
  rw [eu,ik];exact Z9Q c.cal R.hv R.lv R.zs z h sh _ gh.ho gh.cl gh.zs
 refine DP hS mK λw7 hT hS=>?_;replace e1:=e1.up hT;generalize Z7x c.crrs.length c.atts=v1;generalize Zfe c.stys=v2;generalize Zdg c.cal z sh h=v3;repeat'(first|refine D1 ?_|omega|refine Zb rfl rfl rfl rfl (λhg=>?_) (λhg=>?_)|(refine Z7 rfl rfl rfl rfl (λhg=>?_) (λhg=>?_)<;>refine D1 ?_)|fail)
 refine Z9 rfl trivial (Z1 rfl (ZmH v1 v2 v3)) (λ_ _ h=>Z6.stp h) rfl ?_;rintro vs w8 hN;have cy:SlV [] w8 vs ([v1,v2,v3]:List Int):=hN.slv (by simp) rfl rfl (by simp [maxLen]);have hU:=Z6.stp hN;clear hN;replace e1:=e1.up hU;replace hS:=hS.trans hU;repeat'(first|refine D1 ?_|omega|refine Zb rfl rfl rfl rfl (λhg=>?_) (λhg=>?_)|(refine Z7 rfl rfl rfl rfl (λhg=>?_) (λhg=>?_)<;>refine D1 ?_)|fail)
 refine DP hS (ZmF vs [v1,v2,v3] _ cy) λw9 hT hS=>?_;replace e1:=e1.up hT;generalize orL [v1,v2,v3]=v4;by_cases g4:v4=0
 case neg=>
  rw [if_pos g4];repeat'(first|refine D1 ?_|omega|refine Zb rfl rfl rfl rfl (λhg=>?_) (λhg=>?_)|(refine Z7 rfl rfl rfl rfl (λhg=>?_) (λhg=>?_)<;>refine D1 ?_)|fail)
  repeat'(first|refine W1 ?_|omega|refine VG ?_ ?_<;>intro hg|refine VC ?_ ?_<;>intro hc)
  refine RU ?_;exact ⟨rfl,hS⟩
 subst g4;rw [if_neg (by simp)];repeat'(first|refine D1 ?_|omega|refine Zb rfl rfl rfl rfl (λhg=>?_) (λhg=>?_)|(refine Z7 rfl rfl rfl rfl (λhg=>?_) (λhg=>?_)<;>refine D1 ?_)|fail)
 repeat'(first|refine W1 ?_|omega|refine VG ?_ ?_<;>intro hg|refine VC ?_ ?_<;>intro hc)
 refine CP hS (Z11 _ _ _ _) λw10 hT hS=>?_;replace e1:=e1.up hT;by_cases g5:0<=c.court/\c.court<=15
 case neg=>
  rw [decide_eq_false g5,if_neg (λh=>g5 h.1)];repeat'(first|refine W1 ?_|omega|refine VG ?_ ?_<;>intro hg|refine VC ?_ ?_<;>intro hc)
  refine RU ?_;exact ⟨rfl,hS⟩
 rw [decide_eq_true g5];repeat'(first|refine W1 ?_|omega|refine VG ?_ ?_<;>intro hg|refine VC ?_ ?_<;>intro hc)
 refine CP hS (Z11 _ _ _ _) λw11 hT hS=>?_;by_cases g6:0<=c.today/\c.today<=3652058
 case neg=>
  rw [decide_eq_false g6,if_neg (λh=>g6 h.2)];repeat'(first|refine W1 ?_|omega|refine VG ?_ ?_<;>intro hg|refine VC ?_ ?_<;>intro hc)
  refine RU ?_;exact ⟨rfl,hS⟩
 rw [decide_eq_true g6,if_pos ⟨g5,g6⟩];repeat'(first|refine W1 ?_|omega|refine VG ?_ ?_<;>intro hg|refine VC ?_ ?_<;>intro hc)
 refine RU ?_;exact ⟨rfl,hS⟩
theorem Z4g:∀ s∈Z0B,Z2R s=true/\(s.length:Int)<=maxLen:=by decide
theorem Z60.v {f:Fct} (h:Z60 f) (he:0<=f.entry/\f.entry<65536):VOk f:=by
 have h1:=h.day;have h2:=h.by_;have h3:=h.to_;have h4:=h.amt;exact ⟨he,(Z4g _ h.kind).1,by omega,by omega,by omega,by omega⟩
theorem Z9R:∀ (l:List Fct) (kn:List Int),(∀ f∈l,VOk f)->l.Pairwise (λa b=>a.entry≠b.entry)->(∀ f∈l,f.entry∉kn)->Z5y kn l=0
 | [],_,_,_,_=>rfl
 | f :: l, kn, h1, h2, h3 => by
   have fG:=XU.1 h2;rw [Z8H,if_neg (not_not_intro (h1 f XT)),if_neg (h3 f XT)];refine Z9R l _ (λg hg=>h1 g (XX _ hg)) fG.2 (λg hg hc=>?_);rcases Xe.1 hc with hc|hc
   exact h3 g (XX _ hg) hc;exact fG.1 g hg (Xn.1 hc).symm
theorem Z62.pw {l:List Fct} (h:Z62 l):l.Pairwise (λa b=>a.entry≠b.entry):=by
 rw [XZ];intro i j hi hj bR e;have:=h.lt bR hj;omega
theorem Z3f.b {h:Hol} (ho:Z3f h) (hf:h.first<=h.last):Z5A h=true:=by
 have h1:=ho.k1;have h2:=ho.k2;have h3:=ho.m1;have h4:=ho.m2;have h5:=ho.f1;have h6:=ho.l1;unfold Z5A;rw [decide_eq_true ⟨⟨h1,h2⟩,⟨h3,h4⟩,h5,hf,h6⟩,Ybl];unfold Z3t Z2K ZfV Z6f ZfW Zjt;have hk:h.kind=1\/h.kind=2\/h.kind=3\/h.kind=4:=by omega
 rcases hk with k|k|k|k
 rw [if_pos k,decide_eq_true (ho.month (by omega)),decide_eq_true (ho.day k)];rfl;rw [if_neg (by omega),if_pos k,decide_eq_true (ho.month (by omega)),decide_eq_true (ho.wd (.inl k)),decide_eq_true (ho.nth k)];rfl;rw [if_neg (by omega),if_neg (by omega),if_pos k,decide_eq_true (ho.month (by omega)),decide_eq_true (ho.wd (.inr k))];rfl;rw [if_neg (by omega),if_neg (by omega),if_neg (by omega),decide_eq_true (ho.off k)]
theorem Z41.c {z:Int} {sh:List Spn} (h:Z41 z sh):Zdc z sh=0:=by
 unfold Zdc;rw [if_neg (by have:=h.len;omega),if_neg (not_not_intro h.off)];refine Z3L (λj hj=>?_);have h1:=h.at_ _ (Xc hj);unfold Zbz;rw [show sh.getD j (0,0)=sh[j] by simp [hj],if_neg (not_not_intro h1),if_neg];rintro ⟨g1,g2⟩;obtain ⟨i,rfl⟩:∃ i,j=i+1:=⟨j - 1,by omega⟩
 have h2:=h.ord i hj;rw [show sh.getD (i+1 - 1) (0,0)=sh[i] by simp [show i<sh.length by omega]] at g2;omega
theorem Zet.e {c:Cal} (h:Zet c) {z g:Int} {sh:List Spn} (hz:Z41 z sh) (hg:0<=g/\g<1440):Zdg c z sh g=0:=by
 unfold Zdg;have hw:Z8I c=false:=by
  obtain ⟨b0,b5,b6,hw⟩:=h.wk;unfold Z8I;rw [hw];cases b0<;>rfl
 have hh:Zdb c.hols=0:=by
  have h3:=h.h3;unfold Zdb;rw [if_neg (by omega),if_pos (Xx.2 (λx hx=>(h.ok.hols x hx).b (h.fl x hx)))]
 have hc:c.clos.all Z83=true:=Xx.2 (λx hx=>by
  have:=h.cl x hx;unfold Z8C at this;unfold Z83 Zp;rw [decide_eq_true (by omega),decide_eq_true (by omega),decide_eq_true (by omega),decide_eq_true (by omega)];rfl)
 have h3:=h.c3;rw [hw,if_neg (by simp),hh,if_neg (by simp),if_neg (by omega),if_neg (not_not_intro hc),hz.c,if_neg (by simp),if_neg (by omega)]
theorem Z8K {n:Nat}:∀ {l:List Atp},(∀ a∈l,Z82 n a=0)->Z7x n l=0
 | [],_=>rfl
 | a :: l, h => by
   unfold Z7x;rw [if_neg (by rw [h a XT];simp)];exact Z8K (λb hb=>h b (XX _ hb))
theorem Z6d.drv {c:Cas} (h:Z6d c) {z g:Int} {sh:List Spn} (hz:Z41 z sh) (hg:0<=g/\g<1440):Zdi c z sh g=0:=by
 have h1:=h.fl;have h2:=h.rl;have h3:=h.al;have h4:=h.cl;have h5:=h.sl;have h6:=h.court;have h7:=h.today;have hf:Z5y [] c.fcts=0:=by
  refine Z9R _ _ (λf hf=>?_) h.en.pw (λf _=>by simp);obtain ⟨i,hi,rfl⟩:=Xv hf;have:=h.en i hi;exact (h.fo _ hf).v (by omega)
 have hc:ZbC c.crrs=0:=by
  unfold ZbC;rw [if_neg (by omega),if_pos (Xx.2 (λx hx=>show Z84 x=true from decide_eq_true ⟨(h.co x hx).ext,(h.co x hx).tol⟩))]
 have hr:ZbD c.ruls=0:=by
  unfold ZbD;rw [if_neg (by omega),if_pos (Xx.2 (λq hq=>by
   obtain ⟨r,-,hr,rfl⟩:=h.ro q hq;exact show Zjw _=true from decide_eq_true (Zbp r.rul hr).2))]
 have hs:Z7x c.crrs.length c.atts=0:=Z8K (λa ha=>by
  have hx:=h.ao a ha;have x1:=hx.entry;have x2:=hx.party;have x3:=hx.crr;have x4:=hx.sent;have x5:=hx.len;unfold Z82;rw [if_pos (by unfold Zda;omega)];unfold ZmA;rw [if_neg (by omega),if_pos];intro r hr;have y:=hx.rets r hr;have y1:=y.crr;have y2:=y.lo;have y3:=y.hi;have y4:=y.kind;unfold Z5z;omega)
 have ht:Zfe c.stys=0:=by
  unfold Zfe;rw [if_neg (by omega),if_neg];intro hc;obtain ⟨s,h1,h2⟩:=YaS.1 hc;have y1:=(h.so s h1).lo;have y2:=(h.so s h1).le;have y3:=(h.so s h1).hi;have:=of_decide_eq_true h2;omega
 unfold Zdi ZfX;rw [hf,if_neg (by simp),hc,if_neg (by simp),hr,if_neg (by simp),hs,ht,h.cal.e hz hg,show orL [0,0,0]=0 from rfl,if_neg (by simp),if_pos (by omega)]
structure Z7z (f:Fct):Prop where
 entry:0<=f.entry/\f.entry<6
 kind:f.kind∈Z0B
 day:739616<=f.day/\f.day<739676
 by_:0<=f.by_/\f.by_<3
 to_:0<=f.to_/\f.to_<3
 amt:0<=f.amt/\f.amt<100
theorem Z7z.v {f:Fct} (h:Z7z f):VOk f:=by
 have h0:=h.entry;have h1:=h.day;have h2:=h.by_;have h3:=h.to_;have h4:=h.amt;exact ⟨by omega,(Z4g _ h.kind).1,by omega,by omega,by omega,by omega⟩
theorem Z7z.km {f:Fct} (h:Z7z f):(f.kind.length:Int)<=maxLen:=(Z4g _ h.kind).2
theorem Zjz (a b:Int) (s:Str) (w):(Instr.build 24 #[(0,.I a),(1,str s),(2,.I b)]).run Tryz.prog w=.ok (aG (⟨a,s,b,0,0,0⟩:Fct)) w:=by kernel_rfl
theorem Zdj (v:Value) (l:List Int) (w) (hs:SlV [] w v l) (hl:∀ a∈l,I64 a) :
 CC 45 #[v] w λr w'=>∃ f,r=aG f/\Z7z f/\Stp [] w w':=by
 refine cW1 23 Tryz.func45 ?_;refine W ?_;refine Z0 Z4 rfl ?_;rintro _ w1 ⟨b2,rfl,cJ,e2,hS⟩;refine W ?_;refine CM (ZL rfl rfl rfl) (Z09 [] v l 0 6 _ (by decide) (by unfold I64;omega) (hs.up hS) hl) ?_;rintro _ w2 ⟨q0,rfl,nI,hT⟩;replace e2:=e2.up hT;replace hS:=hS.trans hT;refine W ?_;refine CM (ZL rfl rfl rfl) (Z09 [] v l 1 6 _ (by decide) (by unfold I64;omega) (hs.up hS) hl) ?_;rintro _ w3 ⟨q1,rfl,hq1,hT⟩;replace e2:=e2.up hT;replace hS:=hS.trans hT;refine W ?_;refine CM (ZO rfl) (Z3D q1 _ (by omega)) ?_;rintro _ w4 ⟨⟨sk,gF,rfl⟩,hT⟩;replace e2:=e2.up hT;replace hS:=hS.trans hT;refine W ?_;refine CM (ZL rfl rfl rfl) (Z09 [] v l 2 60 _ (by decide) (by unfold I64;omega) (hs.up hS) hl) ?_;rintro _ w5 ⟨q2,rfl,hq2,hT⟩;replace e2:=e2.up hT;replace hS:=hS.trans hT;refine W ?_;refine Zc (vs:=[(0,.I (q0:Int)),(1,str sk),(2,.I (739616+(q2:Int)))]) rfl (Zjz _ _ _) rfl ?_;have l2:=e2.lt;refine Z0 Z4 rfl ?_;rintro _ w6 ⟨b3,rfl,eD,e3,hU⟩;refine SA (us:=Z2.enc (⟨(q0:Int),sk,739616+(q2:Int),0,0,0⟩:Fct)) e3 ?_;rintro _ w7 ⟨bq,e3⟩;replace hU:=hU.ow bq;replace e2:=e2.up hU;replace hS:=hS.trans hU;have n23:b2≠b3:=by omega
 have dz:w.heap.size<=b3:=by have:=hT.size;omega
 clear hU bq hT;refine W ?_;refine CM (ZL rfl rfl rfl) (Z09 [] v l 3 3 _ (by decide) (by unfold I64;omega) (hs.up hS) hl) ?_;rintro _ w8 ⟨q3,rfl,oF,hT⟩;replace e2:=e2.up hT;replace e3:=e3.up hT;replace hS:=hS.trans hT;refine W ?_;refine Z8 (Zf (u:=.I (q3:Int)) rfl rfl rfl rfl e3 (show (3:Nat)<6 by decide)) ?_;rintro _ w9 ⟨hU,e3⟩;replace e3:Blk w9 b3 24 (Z2.enc (⟨(q0:Int),sk,739616+(q2:Int),(q3:Int),0,0⟩:Fct)):=e3;replace e2:=e2.ext hU (by simpa using n23);replace hS:=hS.ow hU;refine W ?_;refine CM (ZL rfl rfl rfl) (Z09 [] v l 4 3 _ (by decide) (by unfold I64;omega) (hs.up hS) hl) ?_;rintro _ w10 ⟨q4,rfl,lD,hT⟩;replace e2:=e2.up hT;replace e3:=e3.up hT;replace hS:=hS.trans hT;refine W ?_;refine Z8 (Zf (u:=.I (q4:Int)) rfl rfl rfl rfl e3 (show (4:Nat)<6 by decide)) ?_;rintro _ w11 ⟨hU,e3⟩;replace e3:Blk w11 b3 24 (Z2.enc (⟨(q0:Int),sk,739616+(q2:Int),(q3:Int),(q4:Int),0⟩:Fct)):=e3;replace e2:=e2.ext hU (by simpa using n23);replace hS:=hS.ow hU;refine W ?_;refine CM (ZL rfl rfl rfl) (Z09 [] v l 5 100 _ (by decide) (by unfold I64;omega) (hs.up hS) hl) ?_;rintro _ w12 ⟨q5,rfl,qW,hT⟩;replace e2:=e2.up hT;replace e3:=e3.up hT;replace hS:=hS.trans hT;refine W ?_;refine Z8 (Zf (u:=.I (q5:Int)) rfl rfl rfl rfl e3 (show (5:Nat)<6 by decide)) ?_;rintro _ w13 ⟨hU,e3⟩;replace e3:Blk w13 b3 24 (Z2.enc (⟨(q0:Int),sk,739616+(q2:Int),(q3:Int),(q4:Int),(q5:Int)⟩:Fct)):=e3;replace e2:=e2.ext hU (by simpa using n23);replace hS:=hS.ow hU;refine W ?_;refine SA (us:=Z2.enc (⟨(q0:Int),sk,739616+(q2:Int),(q3:Int),(q4:Int),(q5:Int)⟩:Fct)) e2 ?_;rintro _ w14 ⟨hU,e2⟩;refine W ?_;refine JH rfl rfl rfl e2 rfl ?_;exact .mk ⟨_,rfl,⟨by dsimp only;omega,gF,by dsimp only;omega,by dsimp only;omega,by dsimp only;omega,by dsimp only;omega⟩,hS.ow hU⟩
theorem Zew (a:Int) (b:Bool) (f:Fct) (w):(Instr.build 60 #[(0,.I a),(1,.B b),(2,aG f)]).run Tryz.prog w=.ok (aG (⟨a,b,f⟩:Vrs)) w:=by kernel_rfl
structure Z63 (vs:List Vrs):Prop where
 chain:Z0m vs
 fil:∀ v∈vs,Z7z v.f
 op:0<=ZI vs/\ZI vs<=3 * (vs.length:Int)
theorem Z63.snoc {vs:List Vrs} {v:Vrs} (h:Z63 vs) (h1:ZI vs<=v.op) (h2:v.op<=ZI vs+3) (h3:Z7z v.f) (h4:v.st=true->Z1Z vs v.f.entry=true):Z63 (vs++[v]) where
 chain:=by
  have he:=h3.entry;have ho:=h.op;exact h.chain.snoc ⟨by omega,h1,λhs=>⟨by omega,h4 hs⟩,λ_=>h3.v⟩
 fil:=λx hx=>(Xe.1 hx).elim (h.fil x) (λg=>Xn.1 g ▸ h3)
 op:=by
  have ho:=h.op;rw [Z0a,Xb,XP];omega
abbrev vrZ:Value:=.agg #[.I 0,.B false,.I 0,.string ByteArray.empty,.I 0,.I 0,.I 0,.I 0]
theorem Z7A (v:Value) (l:List Int) (w) (hs:SlV [] w v l) (hl:∀ a∈l,I64 a) (xu:l.length<=80) :
 CC 10 #[v] w λr w'=>∃ vs:List Vrs,Z63 vs/\vs.length<=10/\SlV [] w' r vs/\Stp [] w w':=by
 have eG:=hs.max;refine cW1 51 Tryz.func10 ?_;refine W ?_;refine Zt (σ:=List Vrs×Value) (λq=>[(0,v),(2,.N),(3,q.2),(4,.I (ZI q.1)),(5,.I ((8 * q.1.length:Nat):Int))]) (λq W=>(Z63 q.1/\q.1.length<=10)/\Row [] W w.heap.size 60 q.2 q.1/\Stp [] w W) (λq=>11 - q.1.length) ([],.N) ⟨rfl,rfl,rfl,rfl,rfl,trivial⟩ ⟨⟨⟨λk hk=>absurd hk (Xy _),by simp,by decide⟩,Xu _⟩,Row.nil,Stp.refl _ _⟩ ?_;rintro ⟨vs,rv⟩ w1 ⟨⟨eJ,mZ⟩,ac,hS⟩;dsimp only at eJ mZ ac ⊢;have bU:=hs.up hS;have fW:=eJ.op;have ju:SlV [] w1 rv vs:=ac.slv (by simp);by_cases hlt:8 * vs.length+1<l.length;have iK:8 * vs.length<l.length:=by omega
 focus repeat'(first|refine W1 ?_|omega|refine VG ?_ ?_<;>intro hg|refine VC ?_ ?_<;>intro hc)
 refine CP hS (Z1n _ 4 _ (by decide) (hl _ (Xc iK))) λw2 hT hS=>?_
 have hr:=ZT (if l[8 * vs.length]<0 then -(l[8 * vs.length]+1) else l[8 * vs.length]) 4 (by decide);generalize (if l[8 * vs.length]<0 then -(l[8 * vs.length]+1) else l[8 * vs.length]) % 4=m at hr ⊢;replace ac:=ac.up hT;clear hT ju bU;have zS:=hS.size;have bX:=λb hb=>ac.ob_le b hb;focus repeat'(first|refine W1 ?_|omega|refine VG ?_ ?_<;>intro hg|refine VC ?_ ?_<;>intro hc)
 have hK:Z8h (λw' D=>Stp [] w2 w'/\∀ c∈D,c<w'.heap.size/\w2.heap.size<=c):=λw w' D D' hJ hS hD=>⟨hJ.1.trans hS,λc hc=>by
  rcases hD c hc with h|h
  have:=hJ.2 c h;have:=hS.size;omega;have:=hJ.1.size;omega⟩
 refine Z8i 17 [⟨15,6,60,vrZ⟩] [16] [(0,0),(1,0),(2,0),(3,0),(6,0),(7,0),(8,0),(9,0),(10,0),(11,0),(12,0),(4,2),(5,0),(13,2),(14,0)] [(16,2)] (λw' D=>Stp [] w2 w'/\∀ c∈D,c<w'.heap.size/\w2.heap.size<=c) rfl mixed (by kernel_rfl) (by kernel_rfl) (by kernel_rfl) (by intro f hf;simp at hf;rcases hf with rfl;rfl) (λw' aL=>⟨aL,by simp⟩) ?_;refine ZdZ (F:=[⟨15,6,60,vrZ⟩]) ⟨by intro f hf;simp at hf;rcases hf with rfl;exact ⟨_,_,_,rfl⟩,by intro f hf;simp at hf;rcases hf with rfl;exact inferInstance,by intro f hf;simp at hf;rcases hf with rfl;rfl,by show [15].Nodup;decide,by intro f hf g hg h;simp at hf hg;rcases hf with rfl;rcases hg with rfl;rfl⟩ (λhF=>?_);have aO:=hs.up hS;have ng:min (((8 * vs.length:Nat):Int)+2) (l.length:Int)=((min (8 * vs.length+2) l.length:Nat):Int):=by omega
 have iA:min (8 * vs.length+2) l.length<=l.length:=by omega
 generalize min (8 * vs.length+2) l.length=n1 at ng iA;have au:=aO.slc (l:=n1) (r:=l.length) iA (Xq _);rw [Xs] at au;refine Jp rfl trivial (λw'=>ZJ rfl) rfl rfl ?_;refine Jp rfl trivial (λw'=>ZJ rfl) rfl rfl ?_;refine Jp rfl trivial (λw'=>ZJ rfl) rfl rfl ?_;refine Jp rfl trivial (λw'=>Z8R rfl rfl (by unfold I64;omega)) rfl rfl ?_;refine Jp rfl trivial (λw'=>ZJ rfl) rfl rfl ?_;refine Jp rfl trivial (λw'=>ZJ rfl) rfl rfl ?_;refine Jp rfl trivial (λw'=>Z8R rfl rfl (by unfold I64;omega)) rfl rfl ?_;refine Jp rfl trivial (λw'=>ZJ rfl) rfl rfl ?_;refine Jp rfl trivial (λw'=>Z8Y rfl aO) rfl rfl ?_;refine Jp rfl trivial (λw'=>Zc5 rfl rfl) rfl rfl ?_;refine Jp rfl trivial (λw'=>Z2r rfl aO rfl ng iA) rfl rfl ?_
 refine Zcw hF hK (J':=λz w' D=>∃ q:Nat,(z=.I (q:Int)/\(q:Int)<3)/\Stp [] w2 w'/\∀ c∈D,c<w'.heap.size/\w2.heap.size<=c) rfl trivial
  (λw D hJ=>(Z3 rfl (ZL rfl rfl rfl) (Z09 [] v l (((8 * vs.length:Nat):Int)+1) 3 w (by decide) (by unfold I64;omega) (aO.up hJ.1) hl)).mono (λz w' ⟨q,h1,h2,h3⟩=>⟨h3,q,⟨h1,h2⟩,hJ.1.trans h3,λc hc=>⟨Xi (hJ.2 c hc).1 h3.size,(hJ.2 c hc).2⟩⟩)) rfl rfl ?_
 intro vt;refine Zna λq=>Zcx ?_;rintro ⟨rfl,hq⟩;refine Jp rfl trivial (λw'=>ZbX rfl rfl) rfl rfl ?_
 refine Zcw hF hK (J':=λz w' D=>∃ f:Fct,(z=aG f/\Z7z f)/\Stp [] w2 w'/\∀ c∈D,c<w'.heap.size/\w2.heap.size<=c) rfl trivial
  (λw D hJ=>(Z3 rfl (ZO rfl) (Zdj _ (l.drop n1) w (au.up hJ.1) (λa ha=>hl a (Yax ha)))).mono (λz w' ⟨f,h1,h2,h3⟩=>⟨h3,f,⟨h1,h2⟩,hJ.1.trans h3,λc hc=>⟨Xi (hJ.2 c hc).1 h3.size,(hJ.2 c hc).2⟩⟩)) rfl rfl ?_
 intro vt;refine Zna λf=>Zcx ?_;rintro ⟨rfl,nR⟩;refine Jp rfl trivial (λw'=>Z0i (vs:=[(0,.I (ZI vs+m)),(1,.B (decide ((q:Int)=0))),(2,aG f)]) rfl (Zew _ _ _)) rfl rfl ?_;refine Zaw hF hK ?_;rintro w3 DD b6 ⟨hT,hD⟩ d6 e6;have eH:=(hD b6 d6).2;generalize decide ((q:Int)=0)=sb;refine Je rfl trivial (Zy (us:=Z2.enc (⟨ZI vs+m,sb,f⟩:Vrs)) rfl rfl rfl rfl (Z2.one _) e6 rfl) rfl ?_;rintro _ w4 ⟨hU,e6⟩;refine Z54 ?_;replace hT:=hT.ow hU;replace ac:=ac.up hT;replace hS:=hS.trans hT;have l6:=e6.lt;clear hT hU au aO hF hK hD d6;have ju:SlV [] w4 rv vs:=ac.slv (by simp);focus repeat'(first|refine W1 ?_|omega|refine VG ?_ ?_<;>intro hg|refine VC ?_ ?_<;>intro hc)
 refine CP hS (ZbE rv vs ⟨ZI vs+m,sb,f⟩ _ ju (by dsimp only;omega) (by dsimp only;omega) nR.v) λw5 hT hS=>?_
 replace e6:=e6.up hT;replace ac:=ac.up hT;replace ju:=ju.up hT;by_cases hw:sb=true/\Z1Z vs f.entry=false;rw [if_pos hw];focus repeat'(first|refine W1 ?_|omega|refine VG ?_ ?_<;>intro hg|refine VC ?_ ?_<;>intro hc)
 refine Z8 (Zf (u:=.B false) rfl rfl rfl rfl e6 (show (1:Nat)<8 by decide)) ?_;rintro _ w6 ⟨hU,e6⟩;replace e6:Blk w6 b6 60 (Z2.enc (⟨ZI vs+m,false,f⟩:Vrs)):=e6;replace ac:=ac.keep hU (λc hc h=>by simp at hc;subst hc;have:=(bX _ h).2;omega);replace hS:=hS.ow hU;focus repeat'(first|refine W1 ?_|omega|refine VG ?_ ?_<;>intro hg|refine VC ?_ ?_<;>intro hc)
 refine Z0 (Z1 (vs:=[(0,aG (⟨ZI vs+m,false,f⟩:Vrs))]) rfl (Z3s _)) rfl ?_;rintro o3 w7 hN;have dz:SlV (ob rv++[]) w7 o3 [(⟨ZI vs+m,false,f⟩:Vrs)]:=hN.slv (λc hc=>(ac.ob_le c (by simpa using hc)).2) rfl rfl (by simp [maxLen]);have hT:=Z6.stp hN;clear hN;replace ac:=ac.up hT;replace hS:=hS.trans hT;clear hT;have aN:=λb hb=>ac.ob_le b hb;have zz:=hS.size;focus repeat'(first|refine W1 ?_|omega|refine VG ?_ ?_<;>intro hg|refine VC ?_ ?_<;>intro hc)
 refine Z0 (ZA (α:=Vrs) (X:=[]) (base:=w.heap.size) rfl (by decide) rfl rfl ac dz (Xk (Xr _ (show vs.length+[(⟨ZI vs+m,false,f⟩:Vrs)].length<=12 by simp only [XP];omega)) (by decide)) (by simp only [XP,maxLen];omega) zz) rfl ?_;rintro o4 w8 ⟨da,hU,-⟩;replace hS:=hS.own hU (λc hc=>.inr (by have:=(aN c hc).1;omega));have qr:Z63 (vs++[(⟨ZI vs+m,false,f⟩:Vrs)]):=eJ.snoc (by dsimp only;omega) (by dsimp only;omega) nR (λh=>by cases h);have eU:(vs++[(⟨ZI vs+m,false,f⟩:Vrs)]).length=vs.length+1:=by simp
 focus repeat'(first|refine W1 ?_|omega|refine VG ?_ ?_<;>intro hg|refine VC ?_ ?_<;>intro hc)
 refine ZF (vs++[(⟨ZI vs+m,false,f⟩:Vrs)],o4) ⟨rfl,rfl,rfl,by rw [Z0a];rfl,by dsimp only;rw [eU];rfl,trivial⟩ ⟨⟨qr,by dsimp only;rw [eU];omega⟩,da,hS⟩ (by dsimp only;rw [eU];omega);rw [if_neg hw];focus repeat'(first|refine W1 ?_|omega|refine VG ?_ ?_<;>intro hg|refine VC ?_ ?_<;>intro hc)
 refine Z0 (Z1 (vs:=[(0,aG (⟨ZI vs+m,sb,f⟩:Vrs))]) rfl (Z3s _)) rfl ?_;rintro o3 w7 hN;have dz:SlV (ob rv++[]) w7 o3 [(⟨ZI vs+m,sb,f⟩:Vrs)]:=hN.slv (λc hc=>(ac.ob_le c (by simpa using hc)).2) rfl rfl (by simp [maxLen]);have hT:=Z6.stp hN;clear hN;replace ac:=ac.up hT;replace hS:=hS.trans hT;clear hT;have aN:=λb hb=>ac.ob_le b hb;have zz:=hS.size;focus repeat'(first|refine W1 ?_|omega|refine VG ?_ ?_<;>intro hg|refine VC ?_ ?_<;>intro hc)
 refine Z0 (ZA (α:=Vrs) (X:=[]) (base:=w.heap.size) rfl (by decide) rfl rfl ac dz (Xk (Xr _ (show vs.length+[(⟨ZI vs+m,sb,f⟩:Vrs)].length<=12 by simp only [XP];omega)) (by decide)) (by simp only [XP,maxLen];omega) zz) rfl ?_;rintro o4 w8 ⟨da,hU,-⟩;replace hS:=hS.own hU (λc hc=>.inr (by have:=(aN c hc).1;omega));have qr:Z63 (vs++[(⟨ZI vs+m,sb,f⟩:Vrs)]):=eJ.snoc (by dsimp only;omega) (by dsimp only;omega) nR (λh=>by cases hp:Z1Z vs f.entry with|true=>rfl|false=>exact absurd ⟨h,hp⟩ hw);have eU:(vs++[(⟨ZI vs+m,sb,f⟩:Vrs)]).length=vs.length+1:=by simp
 focus repeat'(first|refine W1 ?_|omega|refine VG ?_ ?_<;>intro hg|refine VC ?_ ?_<;>intro hc)
 refine ZF (vs++[(⟨ZI vs+m,sb,f⟩:Vrs)],o4) ⟨rfl,rfl,rfl,by rw [Z0a];rfl,by dsimp only;rw [eU];rfl,trivial⟩ ⟨⟨qr,by dsimp only;rw [eU];omega⟩,da,hS⟩ (by dsimp only;rw [eU];omega)
 . repeat'(first|refine W1 ?_|omega|refine VG ?_ ?_<;>intro hg|refine VC ?_ ?_<;>intro hc)
   all_goals
    refine RU ?_;exact ⟨vs,eJ,mZ,ju,hS⟩
theorem Z8L (k:Int):∀ {l:List Vrs},l.Pairwise (λa b=>a.op<=b.op)->l.filter (Z12 k) <+: l
 | [],_=>List.prefix_refl _
 | a :: l, h => by
   have h':=XU.1 h;by_cases e:a.op<=k;rw [YaM (by simpa [Z12] using e)];exact (List.prefix_cons_inj a).2 (Z8L k h'.2);rw [YaL (by simpa [Z12] using e)];have:l.filter (Z12 k)=[]:=List.filter_eq_nil_iff.2 (λb hb=>by have:=h'.1 b hb;simp [Z12];omega);rw [this];exact List.nil_prefix
theorem Z0m.pre {l m:List Vrs} (h:Z0m l) (hp:m <+: l):Z0m m:=λk hk=>by
 obtain ⟨t,rfl⟩:=hp;have:=h k (by rw [Xb];omega);rw [Yai (by omega),Yal hk] at this;exact this
theorem ZfY {l:List Vrs} {k:Int} (h:∀ v∈l,v.op<=k) (hk:0<=k):ZI l<=k:=by
 unfold ZI;cases e:l.getLast? with
 | none=>exact hk
 | some v=>exact h v (List.mem_of_getLast? e)
structure Z7B (fs:List Fct):Prop where
 fil:∀ f∈fs,Z7z f
 asc:fs.Pairwise (λa b=>a.entry<b.entry)
 len:fs.length<=16
theorem Z7B.nd {fs:List Fct} (h:Z7B fs):fs.Nodup:=by
 rw [Ybh];exact h.asc.imp (λh e=>by subst e;omega)
theorem Z7B.cas {fs:List Fct} (h:Z7B fs) {c:Cas} (g:Z4O c):Z4O { c with fcts:=fs }:=by
 have h1:=h.len;have h3:=g.ok;exact ⟨⟨by show fs.length<=100000;omega,h3.rl,h3.cnd,h3.due,h3.att,h3.ext,h3.sty,h3.court,h3.today⟩,h1,g.rl,λf hf=>by
  have x:=h.fil f hf;have x1:=x.day;have x2:=x.by_;have x3:=x.to_;have x4:=x.amt;exact ⟨by omega,by omega,by omega,by omega⟩,h.nd⟩
theorem Z7B.drv {fs:List Fct} (h:Z7B fs) {c:Cas} {z g:Int} {sh:List Spn} (hd:Zdi c z sh g=0):Zdi { c with fcts:=fs } z sh g=0:=by
 have hf:Z5y [] fs=0:=Z9R _ _ (λf hf=>(h.fil f hf).v) (h.asc.imp (λh=>by omega)) (λf _=>by simp);have hl:ZfX { c with fcts:=fs } z sh g=ZfX c z sh g:=rfl;unfold Zdi at hd ⊢;rw [hl];dsimp only;rw [hf,if_neg (by simp)];split at hd;omega;exact hd
theorem Z7B.km {fs:List Fct} (h:Z7B fs):∀ f∈fs,(f.kind.length:Int)<=maxLen:=λf hf=>(h.fil f hf).km
structure Z5B (E:List Vrs) (k:Int) (fs:List Fct):Prop where
 k0:0<=k
 chain:Z0m E
 fil:∀ v∈E,Z7z v.f
 op:∀ v∈E,v.op<=k
 spec:Z1I E k fs
 kn:Z7B fs
theorem Z16 {E:List Vrs} {k j:Int} (h:∀ v∈E,v.op<=k) (hj:k<=j):E.filter (Z12 j)=E:=List.filter_eq_self.2 (λv hv=>by have:=h v hv;simp [Z12];omega)
theorem Z1I.kn {l:List Vrs} {k:Int} {fs:List Fct} (h:Z1I l k fs) (hf:∀ v∈l,v.st=false->Z7z v.f) (hn:fs.length<=16):Z7B fs:=⟨λf h1=>by
 obtain ⟨v,h2,h3,rfl⟩:=(h.mem f).1 h1;exact hf v ((Yak.1 (Zbw h2).2).1) h3,h.asc,hn⟩
theorem Z5B.mk' {vs:List Vrs} {k:Int} {fs:List Fct} (hv:Z63 vs) (hk:0<=k) (hs:Z1I vs k fs) (hn:fs.length<=16):Z5B (vs.filter (Z12 k)) k fs where
 k0:=hk
 chain:=hv.chain.pre (Z8L k hv.chain.ops)
 fil:=λv h=>hv.fil v ((Yak.1 h).1)
 op:=λv h=>by have:=(Yak.1 h).2;simpa [Z12] using this
 spec:=⟨hs.asc,λf=>by rw [hs.mem,List.filter_filter];simp only [Bool.and_self]⟩
 kn:=hs.kn (λv h _=>hv.fil v h) hn
abbrev skV (k:Int) (f:Fct):Vrs:=⟨k+1,true,⟨f.entry,[],0,0,0,0⟩⟩
abbrev agV (k:Int) (f:Fct):Vrs:=⟨k+2,false,f⟩
theorem Z5B.present {E:List Vrs} {k:Int} {fs:List Fct} (h:Z5B E k fs) {f:Fct} (hf:f∈fs):Z1Z E f.entry=true:=by
 obtain ⟨v,h1,h2,-⟩:=(h.spec.mem f).1 hf;rw [Z16 h.op (YaO _)] at h1;unfold Z1Z;rw [h1];simp [h2]
theorem Z5B.step1 {E:List Vrs} {k:Int} {fs:List Fct} (h:Z5B E k fs) {f:Fct} (hf:f∈fs):Z5x E (skV k f):=by
 have h1:=h.k0;have h2:=ZfY h.op h1;have h3:=(h.kn.fil f hf).entry;exact ⟨by dsimp only;omega,by dsimp only;omega,λ_=>⟨by dsimp only;omega,(h.present hf:Z1Z E f.entry=true)⟩,λe=>by cases e⟩
theorem Z5B.step2 {E:List Vrs} {k:Int} {fs:List Fct} (h:Z5B E k fs) {f:Fct} (hf:f∈fs):Z5x (E++[skV k f]) (agV k f):=by
 have h1:=h.k0;exact ⟨by dsimp only;omega,by rw [Z0a];dsimp only;omega,λe=>(by cases e),λ_=>(h.kn.fil f hf).v⟩
theorem Z5B.gone {E:List Vrs} {k:Int} {fs:List Fct} (h:Z5B E k fs) {f:Fct} (hf:f∈fs) {gs:List Fct} (hs:Z1I (E++[skV k f]++[agV k f]) (k+1) gs) (hn:gs.length<=16):Z7B gs/\f.entry∉gs.map Fct.entry:=by
 have cP:(E++[skV k f]++[agV k f]).filter (Z12 (k+1))=E++[skV k f]:=by
  rw [X5,X5,Z16 h.op (by omega)];simp [Z12]
 refine ⟨hs.kn (λv hv ar=>?_) hn,λhc=>?_⟩;rcases Xe.1 hv with hv|hv
 rcases Xe.1 hv with hv|hv
 exact h.fil v hv;rw [Xn.1 hv] at ar;cases ar;rw [Xn.1 hv];exact h.kn.fil f hf;obtain ⟨g,hg,he⟩:=Xw.1 hc;obtain ⟨v,h1,h2,-⟩:=(hs.mem g).1 hg;rw [cP,Z0M,if_pos he.symm] at h1;obtain rfl:=XL h1;cases h2
theorem Z5B.back {E:List Vrs} {k:Int} {fs:List Fct} (h:Z5B E k fs) {f:Fct} (hf:f∈fs) {bs:List Fct} (hs:Z1I (E++[skV k f]++[agV k f]) (k+2) bs):bs=fs:=by
 have cP:(E++[skV k f]++[agV k f]).filter (Z12 (k+2))=E++[skV k f]++[agV k f]:=by
  rw [X5,X5,Z16 h.op (by omega)];simp [Z12]
 refine Z9K hs.asc h.kn.asc (λg=>?_);rw [hs.mem,h.spec.mem,cP,Z0M,Z0M,Z16 h.op (YaO _)];by_cases e:f.entry=g.entry;rw [if_pos e];obtain ⟨v,h1,h2,h3⟩:=(h.spec.mem f).1 hf;rw [Z16 h.op (YaO _)] at h1;rw [<- e,h1];constructor;rintro ⟨y,hy,-,hg⟩;obtain rfl:=XL hy;exact ⟨v,rfl,h2,h3.trans hg⟩;rintro ⟨y,hy,-,hg⟩;obtain rfl:=XL hy;exact ⟨_,rfl,rfl,h3.symm.trans hg⟩;rw [if_neg e,if_neg e]
end Go.Proofs.YteibicnbkggiiaaGreatDoor
namespace Go.Eng
open Go Go.RowKit Go.Proofs
theorem Z7t.perm {κ:Type} {enc:κ->Value} {w} {b r:Nat} {l todo todo':List (κ×Value)} {p:κ×Value} (h:Z7t enc w b r l todo p) (hp:todo.Perm todo'):Z7t enc w b r l todo' p:=by
 obtain ⟨es,clock,since,seen,x,h1,h2,h3,h4,h5,h6⟩:=h;exact ⟨es,clock,since,seen,x,h1,h2,h3,h4,h5.trans (hp.map _),h6⟩
end Go.Eng
namespace Go.Proofs.YteibicnbkggiiaaGreatDoor
open Go Go.Eng Go.RowKit Go.Proofs Go.Shelf Go.Sort
theorem Zdk {X:List Nat} {base:Nat} {v:Value} {zs:List Fct} {w} (h:Row X w base 24 v zs) (br:zs.length<=1000) :
 CC 47 #[v,.func (.func 48) #[] #[]] w λr w'=>r=.tuple #[]/\∃ zs':List Fct,zs'.Perm zs/\(∀ i j (hi:i<zs'.length) (hj:j<zs'.length),i<j->¬ cmI zs'[j].entry zs'[i].entry<0)/\Row X w' base 24 v zs'/\Stp (ob v) w w':=
 Z5i (β:=Fct) (by decide) Tryz.sortFct Tryz.isAgg24 Tryz.sizeOf24 (λx y=>cmI x.entry y.entry) (ZuL Fct.entry) 48 (λx y w=>ZuK x y w) h (by omega)
theorem ZmI (f:Fct) (w):(Instr.buildSlice 35 1 #[(0,aG f)]).run Tryz.prog w=.ok (.slice (some ⟨w.heap.size,0,none⟩) 1 1) (w.alloc (.cells (Z2.enc f).toArray 24)):=by kernel_rfl
theorem Z9S (v:Value) (l:List Vrs) (op:Int) (w) (hs:SlV [] w v l) (hn:l.length<=1000) :
 CC 13 #[v,.I op] w λx w'=>(∃ fs,Z1I l op fs/\fs.length<=l.length/\Row [] w' w.heap.size 24 x fs)/\Stp [] w w':=by
 have eG:=hs.max;refine cW2 45 Tryz.func13 ?_;refine W ?_;refine Z0 (Z06 kI) rfl ?_;rintro _ w1 ⟨r,rfl,hr,hm,hS⟩;have hp:Z2V kI w1 r (([]:List Vrs).map Z4Q):=by
  obtain ⟨es,c,h1,h2,h3⟩:=hm;have h0:es=#[]:=by
   have:=congrArg List.length h2;simp at this;exact this
  subst h0;exact ⟨#[],c,h1,rfl,by simp,by simp,by simp⟩
 clear hm;repeat'(first|refine W1 ?_|omega|refine VG ?_ ?_<;>intro hg|refine VC ?_ ?_<;>intro hc)
 refine LP (σ:=Nat×List Vrs) (λq=>[(1,.I op),(4,.N),(5,.map (some r)),(12,v),(13,.I (l.length:Int)),(14,.I (q.1:Int))]) (λq W=>q.1<=l.length/\Z2V kI W r (q.2.map Z4Q)/\Z7u ((l.take q.1).filter (Z12 op)) q.2/\q.2.length<=q.1/\Stp [] w W) (λq=>l.length - q.1) (0,[]) ⟨Xu _,hp,ZfU,Xq _,hS⟩ ?_;clear hp hS;rintro ⟨k,q⟩ w2 ⟨cB,hp,hq,vH,hS⟩;dsimp only at cB hp hq vH ⊢;have aO:=hs.up hS;by_cases hlt:k<l.length;have ht:l.take (k+1)=l.take k++[l[k]]:=Xj hlt;focus repeat'(first|refine W1 ?_|omega|refine VG ?_ ?_<;>intro hg|refine VC ?_ ?_<;>intro hc)
 refine Z0 Z4 rfl ?_;rintro _ w3 ⟨b7,rfl,kQ,e7,hU⟩;refine SA (us:=Z2.enc l[k]) e7 ?_;rintro _ w4 ⟨bq,e7⟩;replace hU:=hU.ow bq;replace hp:=hp.up hU;replace hS:=hS.trans hU;clear hU bq aO;generalize hx:l[k]=x at *;replace e7:Blk w4 b7 60 ([.I x.op,.B x.st]++Z2.enc x.f):=e7;by_cases cK:x.op<=op;focus repeat'(first|refine W1 ?_|omega|refine VG ?_ ?_<;>intro hg|refine VC ?_ ?_<;>intro hc)
 refine Z8 (Z5w (a:=x.f.entry) (v:=aG x) rfl rfl rfl hp) ?_;rintro _ w5 ⟨gM,hT⟩;rw [Zd9] at gM;focus repeat'(first|refine W1 ?_|omega|refine VG ?_ ?_<;>intro hg|refine VC ?_ ?_<;>intro hc)
 refine QL (k+1,ZfT q x) ⟨hlt,gM,?_,?_,hS.ow hT⟩ (by dsimp only;omega);dsimp only;rw [ht,X5,YaM (by simpa [Z12] using cK),Ybp];exact hq.put x;dsimp only;unfold ZfT;split;rw [XB];omega;rw [Xb,XP];omega;focus repeat'(first|refine W1 ?_|omega|refine VG ?_ ?_<;>intro hg|refine VC ?_ ?_<;>intro hc)
 refine QL (k+1,q) ⟨hlt,hp,?_,by dsimp only;omega,hS⟩ (by dsimp only;omega);dsimp only;rw [ht,X5,YaL (by simpa [Z12] using cK),Ybp,XG];exact hq;obtain rfl:k=l.length:=by omega
 rw [Xs] at hq;focus repeat'(first|refine W1 ?_|omega|refine VG ?_ ?_<;>intro hg|refine VC ?_ ?_<;>intro hc)
 refine Z0 (Zbu rfl hp) rfl ?_;rintro _ w3 ⟨b,rfl,hb,dx,hT⟩;have lr:=hp.at_.lt;replace hS:=hS.trans hT;have lb:=dx.lt;have z3:=hS.size;clear hT hp;focus repeat'(first|refine W1 ?_|omega|refine VG ?_ ?_<;>intro hg|refine VC ?_ ?_<;>intro hc)
 refine Zt (σ:=List Vrs×List Vrs×Value) (λq=>[(4,.N),(8,q.2.2),(29,pQ b)]) (λs W=>(s.1++s.2.1).Perm q/\Z4P kI W b r (q.map Z4Q) (s.2.1.map Z4Q)/\Row [] W w3.heap.size 24 s.2.2 ((s.1.filter (λv=>!v.st)).map (·.f))/\Stp [] w W/\w3.heap.size<=W.heap.size) (λs=>s.2.1.length) ([],q,.N) ⟨rfl,rfl,rfl,trivial⟩ ⟨Yaz _,dx,Row.nil,hS,Xq _⟩ ?_;clear dx hS;rintro ⟨dq,tq,v8⟩ w4 ⟨ft,dx,ac,hS,z4⟩;dsimp only at ft dx ac ⊢;focus repeat'(first|refine W1 ?_|omega|refine VG ?_ ?_<;>intro hg|refine VC ?_ ?_<;>intro hc)
 have aN:=λb hb=>ac.ob_le b hb;have nb:b∉ob v8:=λh=>by have:=(aN _ h).1;omega
 have nr:r∉ob v8:=λh=>by have:=(aN _ h).1;omega
 refine Z0 (Zd7 rfl dx (by omega)) rfl ?_;rintro _ w5 ⟨hT,mL⟩;have lb4:=dx.lt;have mM:dq.length+tq.length=q.length:=by have:=ft.length_eq;simpa using this
 rcases mL with ⟨h0,rfl,rfl⟩|⟨p,rest,iU,rfl,fV⟩
 have jt:tq=[]:=by simpa using h0
 subst jt;rw [XG] at ft;clear dx;focus repeat'(first|refine W1 ?_|omega|refine VG ?_ ?_<;>intro hg|refine VC ?_ ?_<;>intro hc)
 have cP:(List.map (λx=>x.f) (List.filter (λv=>!v.st) dq)).length<=l.length:=by
  rw [XB];refine Xk (X0 _ _) ?_;simp at mM;omega
 refine CM (Zh rfl rfl) (Zdk ac (by omega)) ?_;rintro _ w6 ⟨rfl,fs,fR,dQ,mo,hU⟩;focus repeat'(first|refine W1 ?_|omega|refine VG ?_ ?_<;>intro hg|refine VC ?_ ?_<;>intro hc)
 refine WR ?_;refine .mk ⟨⟨fs,hq.at_ (fR.trans ((ft.filter _).map _)) ?_,by rw [fR.length_eq];exact cP,mo.lower z3⟩,hS.own hU (λb hb=>.inr (by have:=(aN b hb).1;omega))⟩;rw [XZ];intro i j hi hj bR;have:=dQ i j hi hj bR;unfold cmI at this;split at this;omega;split at this<;>omega
 . obtain ⟨x,hx,rfl⟩:=Xw.1 (iU.symm.subset XT)
   obtain ⟨s,t,rfl⟩:=YbL hx;have cw:rest.Perm ((s++t).map Z4Q):=by
    have h6:=iU.symm.trans ((Ya4 (a:=x) (l₁:=s) (l₂:=t)).map Z4Q);rw [XD] at h6;exact h6.cons_inv
   replace fV:=fV.perm cw;clear dx iU cw;replace ac:=ac.keep hT (λc hc h=>by simp at hc;subst hc;exact nb h);replace hS:=hS.ow hT;have z5:=hT.size;clear hT;repeat'(first|refine W1 ?_|omega|refine VG ?_ ?_<;>intro hg|refine VC ?_ ?_<;>intro hc)
   refine Za (Zbv rfl fV) rfl ?_;replace fV:=fV.toD;repeat'(first|refine W1 ?_|omega|refine VG ?_ ?_<;>intro hg|refine VC ?_ ?_<;>intro hc)
   refine Z0 Z4 rfl ?_;rintro _ w6 ⟨b10,rfl,jN,e10,hU⟩;refine SA (us:=Z2.enc x) e10 ?_;rintro _ w7 ⟨bq,e10⟩;replace hU:=hU.ow bq;replace fV:=fV.ext hU (by simp) (by simp);replace ac:=ac.up hU;replace hS:=hS.trans hU;have z7:=hU.size;clear hU bq;replace e10:Blk w7 b10 60 ([.I x.op,.B x.st]++Z2.enc x.f):=e10;have mN:((dq++[x])++(s++t)).Perm q:=by
    refine List.Perm.trans ?_ ft;rw [XI,Yby];exact (Ya4 (a:=x) (l₁:=s) (l₂:=t)).symm.append_left dq
   have mA:((dq++[x]).filter (λv=>!v.st)).map (·.f)=(dq.filter (λv=>!v.st)).map (·.f)++if x.st=true then [] else [x.f]:=by
    rw [X5,XH];congr 1;cases ar:x.st<;>simp [ar]
   cases ar:x.st with
   | true=>
     rw [ar] at e10;rw [ar,if_pos rfl,XG] at mA;rw [<- mA] at ac;repeat'(first|refine W1 ?_|omega|refine VG ?_ ?_<;>intro hg|refine VC ?_ ?_<;>intro hc)
     exact QL (dq++[x],s++t,v8) ⟨mN,fV,ac,hS,by omega⟩ (by simp)
   | false=>
     rw [ar] at e10;rw [ar,if_neg (by simp)] at mA;repeat'(first|refine W1 ?_|omega|refine VG ?_ ?_<;>intro hg|refine VC ?_ ?_<;>intro hc)
     refine Za (Zj rfl rfl e10 (us:=Z2.enc x.f) rfl rfl) rfl ?_;refine Z0 (Z1 (vs:=[(0,.agg (Z2.enc x.f).toArray)]) rfl (ZmI x.f)) rfl ?_;rintro o3 w8 hN;have dz:SlV (ob v8++[]) w8 o3 [x.f]:=hN.slv (λc hc=>(ac.ob_le c (by simpa using hc)).2) rfl rfl (by simp [maxLen]);have hU:=Z6.stp hN;clear hN;replace fV:=fV.ext hU (by simp) (by simp);replace ac:=ac.up hU;replace hS:=hS.trans hU;have z8:=hU.size;have cP:(List.map (λx=>x.f) (List.filter (λv=>!v.st) dq)).length<=l.length:=by
      rw [XB];refine Xk (X0 _ _) ?_;simp at mM;omega
     repeat'(first|refine W1 ?_|omega|refine VG ?_ ?_<;>intro hg|refine VC ?_ ?_<;>intro hc)
     refine Z0 (ZA (α:=Fct) (X:=[]) (base:=w3.heap.size) rfl (by decide) rfl rfl ac dz (Xk (Xr _ (show (List.map (λx=>x.f) (List.filter (λv=>!v.st) dq)).length+[x.f].length<=1001 by simp only [XP];omega)) (by decide)) (by simp only [XP,maxLen];omega) (by omega)) rfl ?_;rintro o4 w9 ⟨da,bq,-⟩;replace fV:=fV.ext bq nr nb;replace hS:=hS.own bq (λc hc=>.inr (by have:=(aN c hc).1;omega));have z9:=bq.size;rw [<- mA] at da;repeat'(first|refine W1 ?_|omega|refine VG ?_ ?_<;>intro hg|refine VC ?_ ?_<;>intro hc)
     exact QL (dq++[x],s++t,o4) ⟨mN,fV,da,hS,by omega⟩ (by simp)
theorem Z7C (v:Value) (l:List Vrs) (y:Vrs) (w) (hs:SlV [] w v l) (hl:Z0m l) (hk:∀ x∈l,(x.f.kind.length:Int)<=maxLen) (hy:Z5x l y) (vJ:(y.f.kind.length:Int)<=maxLen) (hn:l.length<=1000) :
 CC 16 #[v,aG y] w λx w'=>∃ o,x=.tuple #[o,.I 0]/\SlV [] w' o (l++[y])/\Stp [] w w':=by
 have bM:=hs;refine cW2 31 Tryz.func16 ?_;refine W ?_;refine BX (Stp.refl [] w) λb3 w1 h3 e3 _ hS=>?_;replace e3:Blk w1 b3 60 (Z2.enc y):=e3;repeat'(first|refine W1 ?_|omega|refine VG ?_ ?_<;>intro hg|refine VC ?_ ?_<;>intro hc)
 have l3:=e3.lt;refine CL (Zbx v l _ (hs.up hS) hl hk) ?_;rintro _ w2 ⟨r,rfl,hr,hp,hT⟩;have z1:=hS.size;replace e3:=e3.up hT;replace hS:=hS.trans hT;clear hT;repeat'(first|refine W1 ?_|omega|refine VG ?_ ?_<;>intro hg|refine VC ?_ ?_<;>intro hc)
 refine CL (Zev r l y _ vJ hp hy) ?_;rintro _ w3 ⟨rfl,hp,hT⟩;replace e3:=e3.ext hT (by simp;omega);replace hS:=hS.ow hT;clear hT hp;repeat'(first|refine W1 ?_|omega|refine VG ?_ ?_<;>intro hg|refine VC ?_ ?_<;>intro hc)
 refine Go.EngB.WC_drawn 7 (w3.heap.size,[]) [] [(0,0),(2,1),(1,6),(3,2),(4,2),(5,0),(6,0)] rfl mixed (by kernel_rfl) (by kernel_rfl) (by kernel_rfl) (λw5 hW=>?_);have f3:=e3.lt;refine Jn rfl trivial (λw'=>ZJ rfl) rfl ?_;refine Go.EngB.WD_read rfl trivial (λw' aL=>Zj (us:=Z2.enc y) rfl rfl (aL.blk (e3.up hW) f3) rfl rfl) rfl ?_;replace hS:=hS.trans hW;have z35:=hW.size;clear e3 f3;have qt:=bM.up hS;have z5:=hS.size;apply Z91 rfl;refine Z0O rfl trivial (Z3 rfl (ZO rfl) (Z7v v l _ qt (by omega))) (λ_ _ h=>Go.EngB.StpB.of h.2 z35 (by simp)) rfl ?_;rintro o w6 ⟨ac,hT⟩;have aN:=λb hb=>ac.ob_le b hb;have z6:=hT.size;replace hS:=hS.trans hT;refine Z9 rfl trivial (Z1 (vs:=[(0,aG y)]) rfl (Z3s y)) (λ_ _ h=>Go.EngB.StpB.of (Z6.stp h) (by omega) (by simp)) rfl ?_;rintro o3 w7 hN;have dz:SlV (ob o++[]) w7 o3 [y]:=hN.slv (λb hb=>(aN b (by simpa using hb)).2) rfl rfl (by simp [maxLen]);replace ac:=ac.up (Z6.stp hN);have z7:=(Z6.stp hN).size;replace hS:=hS.trans (Z6.stp hN);clear hN hT;refine Z9 rfl trivial (ZA (α:=Vrs) (X:=[]) (base:=w5.heap.size) rfl (by decide) rfl rfl ac dz (Xk (Xr _ (show l.length+[y].length<=1001 by simp only [Xf,Xh];omega)) (by decide)) (by simp only [Xf,Xh,maxLen];omega) (by omega)) (λ_ _ h=>Go.EngB.StpB.of h.2.1 (by omega) (λb hb=>by have:=(aN b hb).1;omega)) rfl ?_;rintro o4 w8 ⟨da,hU,-⟩;replace hS:=hS.own hU (λb hb=>.inr (by have:=(aN b hb).1;omega));refine Jn rfl trivial (λw'=>Z0H rfl) rfl ?_;refine Jn rfl trivial (λw'=>Z0H rfl) rfl ?_;refine Z54 ?_;focus repeat'(first|refine W1 ?_|omega|refine VG ?_ ?_<;>intro hg|refine VC ?_ ?_<;>intro hc)
 refine RU ?_;exact ⟨_,rfl,da.slv (by simp),hS⟩;refine Z0O rfl trivial (Z1 (vs:=[(0,aG y)]) rfl (Z3s y)) (λ_ _ h=>Go.EngB.StpB.of (Z6.stp h) (by omega) (by simp)) rfl ?_;rintro o3 w6 hN;have dz:SlV [] w6 o3 [y]:=hN.slv (by simp) rfl rfl (by simp [maxLen]);have z6:=(Z6.stp hN).size;replace hS:=hS.trans (Z6.stp hN);replace qt:=bM.up hS;clear hN;refine Z9 rfl trivial (Z3 rfl (ZO rfl) (Z7v v l _ qt (by omega))) (λ_ _ h=>Go.EngB.StpB.of h.2 (by omega) (by simp)) rfl ?_;rintro o w7 ⟨ac,hT⟩;have aN:=λb hb=>ac.ob_le b hb;have z7:=hT.size;replace dz:SlV (ob o++[]) w7 o3 [y]:=dz.ext hT (by simp) (λb hb=>.inr (aN b (by simpa using hb)).1);replace hS:=hS.trans hT;clear hT;refine Z9 rfl trivial (ZA (α:=Vrs) (X:=[]) (base:=w6.heap.size) rfl (by decide) rfl rfl ac dz (Xk (Xr _ (show l.length+[y].length<=1001 by simp only [Xf,Xh];omega)) (by decide)) (by simp only [Xf,Xh,maxLen];omega) (by omega)) (λ_ _ h=>Go.EngB.StpB.of h.2.1 (by omega) (λb hb=>by have:=(aN b hb).1;omega)) rfl ?_;rintro o4 w8 ⟨da,hU,-⟩;replace hS:=hS.own hU (λb hb=>.inr (by have:=(aN b hb).1;omega));refine Jn rfl trivial (λw'=>Z0H rfl) rfl ?_;refine Jn rfl trivial (λw'=>Z0H rfl) rfl ?_;refine Z54 ?_;focus repeat'(first|refine W1 ?_|omega|refine VG ?_ ?_<;>intro hg|refine VC ?_ ?_<;>intro hc)
 refine RU ?_;exact ⟨_,rfl,da.slv (by simp),hS⟩
theorem Z8M {c:Cas} {E:List Int}:∀ (l:List DI) (s:List Fct×List Fct),(∀ p∈l,p.1.trig.entry∈E)->(∀ f∈s.2,f.entry∈E)->∀ f∈(l.foldl (Z03 c) s).2,f.entry∈E
 | [],s,_,hs=>hs
 | p :: l, s, hl, hs => by
   rw [Yag];refine Z8M l _ (λq hq=>hl q (by simp [hq])) ?_;unfold Z03;dsimp only;split;rename_i hc;intro f hf;rcases Xe.1 hf with h|h
   exact hs f h;simp only [Xn] at h;subst h;exact hl p (by simp);exact hs
theorem ZfZ {c:Cas} (ho:Z4I c) {E:List Int} {fs:List Fct} (hf:∀ f∈fs,Z0D f) (dQ:∀ f∈fs,f.entry∈E) (known:List Fct):∀ f∈((Z1b c fs).foldl (Z03 c) (known,[])).2,f.entry∈E:=
 Z8M _ _ (λp hp=>by
  obtain ⟨f,jk,_,he,ht⟩:=Z7h hp;rw [he,(Z6u ho (hf f jk) ht).1];exact dQ f jk) (by simp)
theorem Z7D {c:Cas} (h:Z4O c):∀ k,(∀ f∈(ZD c k).2.1,f.entry∈c.fcts.map Fct.entry)/\(∀ f∈(ZD c k).2.2,f.entry∈c.fcts.map Fct.entry)
 | 0=>⟨λf hf=>Xw.2 ⟨f,hf,rfl⟩,by simp [ZD]⟩
 | k + 1 => by
   obtain ⟨h1,h2⟩:=Z7D h k;have h3:=ZfZ h.ok (Z2J h k).1 h1 (ZD c k).1;rw [ZD];dsimp only;exact ⟨h3,λf hf=>(Xe.1 hf).elim (h2 f) (h3 f)⟩
theorem Zdl {c:Cas} (h:Z4O c):∀ f∈Z2I c,f.entry∈c.fcts.map Fct.entry:=λf hf=>(Z7D h 16).2 f ((JU _).mem_iff.1 hf)
theorem ZmJ {c:Cas} (h:Z4O c):∀ f∈Z4K (c.fcts++Z2I c),Z0D f:=λf hf=>by
 rw [(JU _).mem_iff] at hf;exact (Xe.1 hf).elim (h.fo f) (Z7r h f)
theorem Zg0 {c:Cas} (h:Z4O c):∀ d∈Z42 c,d.trig.entry∈c.fcts.map Fct.entry:=λd hd=>by
 unfold Z42 at hd;obtain ⟨p,hp,rfl⟩:=Xw.1 hd;obtain ⟨f,hf,_,he,ht⟩:=Z7h hp;rw [he,(Z6u h.ok (ZmJ h f hf) ht).1];rw [(JU _).mem_iff] at hf;exact (Xe.1 hf).elim (λg=>Xw.2 ⟨f,g,rfl⟩) (Zdl h f)
theorem ZmK (op:BinOp) (x y:Operand) (a b:Fct) (w):(eqGuard op 24 x y (agg a) (agg b)).run Tryz.prog w=.ok () w:=by
 cases op<;>kernel_rfl
theorem Zv0 (a b:Fct) (w):(binOp .neq 24 (agg a) (agg b)).run Tryz.prog w=.ok (.B (decide (¬ a=b))) w:=by
 have h1:Program.stoodInHeld Tryz.prog 24=false:=by kernel_rfl
 obtain ⟨i,hi⟩:∃ i,Tryz.prog.info? 3=some i:=by
  have:=(inferInstance:Siz Tryz.prog 3 1).h;cases h:Tryz.prog.info? 3 with
  | none=>rw [h] at this;cases this
  | some i=>exact ⟨i,rfl⟩
 obtain ⟨a1,a2,a3,a4,a5,a6⟩:=a;obtain ⟨b1,b2,b3,b4,b5,b6⟩:=b;simp [agg,Z2.enc,run_neq_struct,run_equalIn_struct,h1,Program.fieldsOf,Tryz.underlying24,Op.eqFields,part,Und.isAgg,Siz.run,Z0h,run_equalIn_int w _ _ .i64 .i64 _ _ Tryz.underlying3,run_equalIn_string w _ _ _ _ Tryz.underlying9];repeat' split
 all_goals simp_all
theorem ZmL (op:BinOp) (x y:Operand) (a b:Rsn) (w):(eqGuard op 104 x y (agg a) (agg b)).run Tryz.prog w=.ok () w:=by
 cases op<;>kernel_rfl
theorem Zv1 (a b:Rsn) (w):(binOp .neq 104 (agg a) (agg b)).run Tryz.prog w=.ok (.B (decide (¬ a=b))) w:=by
 have h1:Program.stoodInHeld Tryz.prog 104=false:=by kernel_rfl
 obtain ⟨i,hi⟩:∃ i,Tryz.prog.info? 3=some i:=by
  have:=(inferInstance:Siz Tryz.prog 3 1).h;cases h:Tryz.prog.info? 3 with
  | none=>rw [h] at this;cases this
  | some i=>exact ⟨i,rfl⟩
 obtain ⟨a1,a2,a3⟩:=a;obtain ⟨b1,b2,b3⟩:=b;simp [agg,Z2.enc,run_neq_struct,run_equalIn_struct,h1,Program.fieldsOf,Tryz.underlying104,Op.eqFields,part,Und.isAgg,Siz.run,Z0h,run_equalIn_int w _ _ .i64 .i64 _ _ Tryz.underlying3];repeat' split
 all_goals simp_all
theorem ZbF (d:Dln) (ra rb:Value) (w) (ha:SlV [] w ra d.reas) (hb:SlV [] w rb d.reas) :
 CC 55 #[.agg (dlC d ra).toArray,.agg (dlC d rb).toArray] w λr w'=>r=.B true/\Stp [] w w':=by
 have qX:=ha.max;refine cW2 66 Tryz.func55 ?_;refine W ?_;refine BX (Stp.refl [] w) λb2 w1 h2 e2 _ hS=>?_;refine BX hS λb3 w2 h3 e3 hT hS=>?_;replace e2:=e2.up hT;replace e2:Blk w2 b2 70 (dlC d ra):=e2;replace e3:Blk w2 b3 70 (dlC d rb):=e3
 (refine QP ?_ ?_<;>intro hg)
 exact absurd rfl hg;refine Za (Zj rfl rfl e2 (us:=Z2.enc d.trig) rfl rfl) rfl ?_;refine W ?_;refine Za (Zj rfl rfl e3 (us:=Z2.enc d.trig) rfl rfl) rfl ?_;refine W ?_;refine Zl6 (c:=d.trig=d.trig) rfl rfl (λw=>ZmK _ _ _ d.trig d.trig w) (λw=>Zv0 d.trig d.trig w) rfl ?_;rw [decide_eq_false (λh=>h rfl)];refine QO ?_;refine LP (σ:=Nat) (λj=>[(2,pQ b2),(3,pQ b3),(4,.B false),(5,.I (j:Int))]) (λj w'=>j<=d.reas.length/\Stp [] w2 w') (λj=>d.reas.length - j) 0 ⟨Xu _,Stp.refl _ _⟩ ?_;rintro j y ⟨hj,hT⟩;replace e2:=e2.up hT;replace e3:=e3.up hT;have ak:=hS.trans hT;have kw:=ha.up ak;have cJ:=hb.up ak;by_cases hlt:j<d.reas.length;refine QO ?_;refine ZDr 11 [] [] [(0,0),(1,1),(2,0),(3,0),(4,1),(5,0),(6,1),(7,0),(8,0),(9,1),(10,0)] (λw1 ae=>?_);replace kw:=kw.up ae;replace cJ:=cJ.up ae;replace e2:=e2.up ae;replace e3:=e3.up ae;refine QD ?_;apply Z1d;exact rfl;refine Zlb (c:=d.reas[j]=d.reas[j]) trivial rfl rfl (λw=>ZmL _ _ _ d.reas[j] d.reas[j] w) (by intro w;exact Zv1 d.reas[j] d.reas[j] w) rfl ?_;rw [decide_eq_false (λh=>h rfl)];refine D ?_;refine QO ?_;exact QL (j+1) ⟨hlt,hT.trans ae⟩ (XE hlt (XA j));refine RT ?_;exact ⟨rfl,ak⟩
theorem Z4S (va vb:Value) (xs:List Dln) (w) (ha:SlV [] w va xs) (hb:SlV [] w vb xs) :
 CC 15 #[va,vb] w λr w'=>r=.B true/\Stp [] w w':=by
 have qX:=ha.max;refine cW2 27 Tryz.func15 ?_;refine QO ?_;refine LP (σ:=Nat) (λj=>[(0,va),(1,vb),(4,.B false),(5,.I (j:Int))]) (λj w'=>j<=xs.length/\Stp [] w w') (λj=>xs.length - j) 0 ⟨Xu _,Stp.refl _ _⟩ ?_;rintro j y ⟨hj,hS⟩;have kw:=ha.up hS;have cJ:=hb.up hS;by_cases hlt:j<xs.length;refine QO ?_;refine ZDr 10 [] [] [(0,0),(1,0),(2,0),(3,1),(4,0),(5,0),(6,0),(7,1),(8,2),(9,0)] (λw1 ae=>?_);replace kw:=kw.up ae;replace cJ:=cJ.up ae;replace hS:=hS.trans ae;obtain ⟨csa,⟨ra,rfl,kG⟩,kl⟩:=kw.cell hlt;obtain ⟨csb,⟨rb,rfl,mX⟩,eV⟩:=cJ.cell hlt;refine QD ?_;refine WD_read rfl trivial (λw' aL=>Z1C rfl rfl (kw.up aL) hlt ⟨ra,rfl,kG.up aL⟩ (λj u hu=>aL.cell0 (kl j u hu))) rfl ?_;refine QD ?_;refine WD_read rfl trivial (λw' aL=>Z1C rfl rfl (cJ.up aL) hlt ⟨rb,rfl,mX.up aL⟩ (λj u hu=>aL.cell0 (eV j u hu))) rfl ?_;focus repeat'(first|refine D1 ?_|omega|refine Zb rfl rfl rfl rfl (λhg=>?_) (λhg=>?_)|(refine Z7 rfl rfl rfl rfl (λhg=>?_) (λhg=>?_)<;>refine D1 ?_)|fail)
 refine DP hS (ZbF xs[j] ra rb _ kG mX) λw5 hT hS=>?_;refine QD ?_;refine QO ?_;exact QL (j+1) ⟨hlt,hS⟩ (XE hlt (XA j));refine RT ?_;exact ⟨rfl,hS⟩
end Go.Proofs.YteibicnbkggiiaaGreatDoor
namespace Go.Sim
open Go Go.Eng Go.RowKit Go.Proofs
theorem JY {α:Type} {b:Bool} {x:Option α} {y:α} (h:(bif b then x else none)=some y):b=true/\x=some y:=by
 cases b with
 | false=>cases h
 | true=>exact ⟨rfl,h⟩
inductive V where
 | i (k:IntKind) (n:Int)
 | b (x:Bool)
 | s (s:Str)
 | c (v:Value)
 | p (b o:Nat)
 | l (b n:Nat)
 | a (l:List V)
 | t (l:List V)
 | f (g:Nat) (x y:List V)
 | m (b:Nat)
 | q (b o k n:Nat)
 | z (b o n:Nat)
abbrev Lc:=Nat->Nat×Nat
mutual
def ga (L:Lc):V->Value
 | .i k n=>.int k n
 | .b x=>.bool x
 | .s s=>str s
 | .c v=>v
 | .p b o=>.pointer (some ⟨(L b).1,o,none⟩)
 | .l b n=>.slice (some ⟨(L b).1,0,none⟩) n (L b).2
 | .a l=>.agg (gl L l).toArray
 | .t l=>.tuple (gl L l).toArray
 | .f g x y=>.func (.func g) (gl L x).toArray (gl L y).toArray
 | .m b=>.map (some (L b).1)
 | .q b o k n=>.slice (some ⟨(L b).1,bif Nat.beq n 0 && Nat.beq (L b).2 o then 0 else o * k,none⟩) n ((L b).2 - o)
 | .z b o n=>.slice (some ⟨(L b).1,o,none⟩) n n
def gl (L:Lc):List V->List Value
 | []=>[]
 | v :: r=>ga L v :: gl L r
end
mutual
def bd (n:Nat):V->Bool
 | .p b _=>Nat.blt b n
 | .l b _=>Nat.blt b n
 | .m b=>Nat.blt b n
 | .q b _ _ _=>Nat.blt b n
 | .z b _ _=>Nat.blt b n
 | .a l=>bl n l
 | .t l=>bl n l
 | .f _ x y=>bl n x && bl n y
 | _=>true
def bl (n:Nat):List V->Bool
 | []=>true
 | v :: r=>bd n v && bl n r
end
mutual
theorem Z64 {L L':Lc} {n:Nat} (h:∀ k,k<n->L' k=L k):∀ v,bd n v=true->ga L' v=ga L v
 | .i _ _,_=>rfl
 | .b _,_=>rfl
 | .s _,_=>rfl
 | .c _,_=>rfl
 | .p b o,hb=>by simp only [ga];rw [h b (Xg hb)]
 | .l b m,hb=>by simp only [ga];rw [h b (Xg hb)]
 | .m b,hb=>by simp only [ga];rw [h b (Xg hb)]
 | .q b _ _ _,hb=>by simp only [ga];rw [h b (Xg hb)]
 | .z b _ _,hb=>by simp only [ga];rw [h b (Xg hb)]
 | .a l,hb=>by simp only [ga];rw [Z4T h l hb]
 | .t l,hb=>by simp only [ga];rw [Z4T h l hb]
 | .f g x y,hb=>by simp only [bd,Xd] at hb;simp only [ga];rw [Z4T h x hb.1,Z4T h y hb.2]
theorem Z4T {L L':Lc} {n:Nat} (h:∀ k,k<n->L' k=L k):∀ l,bl n l=true->gl L' l=gl L l
 | [],_=>rfl
 | v :: r,hb=>by simp only [bl,Xd] at hb;simp only [gl];rw [Z64 h v hb.1,Z4T h r hb.2]
end
mutual
theorem bd_le {n m:Nat} (h:n<=m):∀ v,bd n v=true->bd m v=true
 | .i _ _,_=>rfl
 | .b _,_=>rfl
 | .s _,_=>rfl
 | .c _,_=>rfl
 | .p b o,hb=>X2 (Xk (Xg hb) h)
 | .l b k,hb=>X2 (Xk (Xg hb) h)
 | .m b,hb=>X2 (Xk (Xg hb) h)
 | .q b _ _ _,hb=>X2 (Xk (Xg hb) h)
 | .z b _ _,hb=>X2 (Xk (Xg hb) h)
 | .a l,hb=>Z65 h l hb
 | .t l,hb=>Z65 h l hb
 | .f g x y,hb=>by simp only [bd,Xd] at hb ⊢;exact ⟨Z65 h x hb.1,Z65 h y hb.2⟩
theorem Z65 {n m:Nat} (h:n<=m):∀ l,bl n l=true->bl m l=true
 | [],_=>rfl
 | v :: r,hb=>by simp only [bl,Xd] at hb ⊢;exact ⟨bd_le h v hb.1,Z65 h r hb.2⟩
end
theorem Jt (L:Lc):∀ l,gl L l=l.map (ga L)
 | []=>rfl
 | v :: r=>by rw [gl,Jt L r];rfl
theorem Ja (L:Lc) (l:List V):(gl L l).length=l.length:=by rw [Jt,XB]
theorem Z24 (n:Nat):∀ l,bl n l=true↔∀ v∈l,bd n v=true
 | []=>by simp [bl]
 | v :: r=>by simp [bl,Z24 n r]
abbrev AE:=List (Nat×V)
noncomputable def lk {α:Type} (l:List (Nat×α)) (t:Nat):Option α:=List.rec (motive:=λ_=>Option α) none (λp _ ih=>Bool.rec (motive:=λ_=>Option α) ih (some p.2) (Nat.beq p.1 t)) l
abbrev pt {α:Type} (d:Nat) (v:α) (l:List (Nat×α)):List (Nat×α):=(d,v) :: l
def ge (L:Lc) (e:AE):Env:=e.map (λp=>(p.1,ga L p.2))
theorem Zdm {a b:Nat} (h:a≠b):Nat.beq a b=false:=by
 cases hb:Nat.beq a b with
 | false=>rfl
 | true=>exact absurd (Xp hb) h
theorem ZbG (a:Nat):Nat.beq a a=true:=by simp
theorem Z4U {α:Type} (d:Nat) (v:α) (e:List (Nat×α)) (t:Nat):lk ((d,v) :: e) t=if d=t then some v else lk e t:=by
 show Bool.rec (motive:=λ_=>Option α) (lk e t) (some v) (Nat.beq d t)=_;by_cases h:d=t;subst h;rw [ZbG,if_pos rfl];rw [Zdm h,if_neg h]
theorem Z0E (L:Lc):∀ (e:AE) (t:Nat),Eng.look (ge L e) t=(lk e t).map (ga L)
 | [],_=>rfl
 | (k, v) :: r, t => by
   show (bif Nat.beq k t then some (ga L v) else Eng.look (ge L r) t)=_;rw [Z0E L r t];show _=Option.map (ga L) (Bool.rec (motive:=λ_=>Option V) (lk r t) (some v) (Nat.beq k t));cases Nat.beq k t<;>rfl
def ofC:Value->V
 | .int k n=>.i k n
 | .bool b=>.b b
 | .string s=>.s s.data.toList
 | v=>.c v
theorem Z7E (L:Lc) (v:Value):ga L (ofC v)=v:=by cases v<;>rfl
noncomputable def evv (e:AE):Operand->Option V
 | .tmp t=>lk e t
 | .const v=>some (ofC v)
 | .global g=>bif Nat.blt g 64 then some (.p g 0) else none
 | .func f=>some (.f f [] [])
def Gl (L:Lc):Prop:=∀ g,g<64->L g=(g,7)
theorem Zq {L:Lc} (hG:Gl L) {e:AE} {x:Operand} {v:V} (h:evv e x=some v):ev (ge L e) x=some (ga L v):=by
 cases x with
 | tmp t=>show Eng.look _ _=_;rw [Z0E];show Option.map _ (evv e (.tmp t))=_;rw [h];rfl
 | const c=>simp only [evv,Xl] at h;subst h;show some c=_;rw [Z7E]
 | global g=>
   simp only [evv] at h;obtain ⟨hg,h⟩:=JY h;simp only [Xl] at h;subst h;show some (pQ g)=_;simp only [ga];rw [hG g (Xg hg)]
 | func f=>simp only [evv,Xl] at h;subst h;rfl
noncomputable def evs (e:AE):List Operand->Option (List V)
 | []=>some []
 | x :: r => match evv e x, evs e r with
   | some v,some l=>some (v :: l)
   | _,_=>none
theorem ZjA {L:Lc} (hG:Gl L) {e:AE} {n:Nat}:∀ {l:List Operand} {vs:List V},evs e l=some vs->∀ a,Has n (ge L e) a->l.map a.eval=gl L vs
 | [],vs,h,a,ha=>by simp only [evs,Xl] at h;subst h;rfl
 | x :: r, vs, h, a, ha => by
   unfold evs at h;cases hx:evv e x with
   | none=>simp [hx] at h
   | some v=>
     cases hr:evs e r with
     | none=>simp [hx,hr] at h
     | some l=>
       simp only [hx,hr,Xl] at h;subst h;rw [XD,ha.ev (Zq hG hx),ZjA hG hr a ha];rfl
def isT (P:Program) (t:Nat):Bool:=match P.underlying t with|some .string=>true|_=>false
def isB (P:Program) (t:Nat):Bool:=match P.underlying t with|some .bool=>true|_=>false
theorem Z2M {P:Program} {t:Nat} (h:isT P t=true):Und P t .string:=⟨by
 unfold isT at h;split at h<;>first|assumption|cases h⟩
theorem ZmM {P:Program} {t:Nat} (h:isB P t=true):Und P t .bool:=⟨by
 unfold isB at h;split at h<;>first|assumption|cases h⟩
def isF (P:Program) (t:Nat):Bool:=match P.underlying t with|some (.interface _)=>true|_=>false
theorem Zex {P:Program} {t:Nat} (h:isF P t=true):∃ l,P.underlying t=some (.interface l):=by
 unfold isF at h;split at h;exact ⟨_,by assumption⟩;cases h
def ZbH:Value->Bool
 | .nilIface=>true
 | _=>false
theorem ZbI {v:Value} (h:ZbH v=true):v=.nilIface:=by cases v<;>first|rfl|cases h
def isK:Operand->Bool
 | .const _=>true
 | _=>false
theorem ZjB {P:Program} {n:Nat} {e:Env} {w} {t u ty:TypeId} {x y:Operand} {d:Option Nat} {pos:String} {af:Array Edge} {g:Option (Nat×Bool)} (hu:∃ l,P.underlying t=some (.interface l)) (hx:ev e x=some .nilIface) (hy:ev e y=some .nilIface) (hk:isK y=true) :
 PR P n ⟨d,.binOp .eql t x y u,ty,pos,af,g⟩ e w (.bool true)/\PR P n ⟨d,.binOp .neq t x y u,ty,pos,af,g⟩ e w (.bool false):=by
 obtain ⟨l,hu⟩:=hu;have:=run_equal_nil_nil (P:=P) (w:=w) t (by rw [hu,Program.methodsAt,hu])
 cases y<;>first
  | (cases hk;done)
  | (constructor<;>refine ⟨λa ha=>?_⟩<;>simp only [execOp,ha.ev hx,ha.ev hy]<;>simp [go_sem,binOp,eqGuard,this])
def cut (b:Bool) (v:V):Option V:=bif b then some v else none
theorem Z0l {b:Bool} {v u:V} (h:cut b v=some u):b=true/\v=u:=by
 cases b with
 | false=>cases h
 | true=>exact ⟨rfl,XL h⟩
def keq (k k':IntKind):Bool:=decide (k=k')
def eqF (P:Program):List Field->List V->List V->Option Bool
 | [],_,_=>some true
 | f :: fs, xs, ys => match (P.info? f.type).map (·.size), f.name == "_", P.underlying f.type, xs[f.offset]?, ys[f.offset]?, eqF P fs xs ys with
   | some 1,false,some (.int k),some (.i k1 a),some (.i k2 b),some r=>bif keq k1 k && keq k2 k then some (decide (a=b) && r) else none
   | some 1,false,some .string,some (.s a),some (.s b),some r=>some (decide (a=b) && r)
   | _,_,_,_,_,_=>none
def eqS (P:Program) (t:Nat) (a b:List V):Option Bool:=match P.underlying t with
 | some (.struct fs)=>bif !P.stoodInHeld t && !P.eqGuardType P.depth t then eqF P fs.toList a b else none
 | _=>none
def bin (P:Program) (t:Nat) (k:Bool):BinOp->V->V->Option V
 | .add,.i k a,.i k' b=>cut (keq k k') (.i k (k.wrap (a+b)))
 | .sub,.i k a,.i k' b=>cut (keq k k') (.i k (k.wrap (a - b)))
 | .mul,.i k a,.i k' b=>cut (keq k k') (.i k (k.wrap (a * b)))
 | .quo,.i k a,.i k' b=>cut (keq k k' && decide (b≠0)) (.i k (k.wrap (a.tdiv b)))
 | .rem,.i k a,.i k' b=>cut (keq k k' && decide (b≠0)) (.i k (a.tmod b))
 | .eql,.i k a,.i k' b=>cut (keq k k') (.b (decide (a=b)))
 | .neq,.i k a,.i k' b=>cut (keq k k') (.b (decide (¬ a=b)))
 | .lss,.i k a,.i k' b=>cut (keq k k') (.b (decide (a<b)))
 | .leq,.i k a,.i k' b=>cut (keq k k') (.b (decide (a<=b)))
 | .gtr,.i k a,.i k' b=>cut (keq k k') (.b (decide (b<a)))
 | .geq,.i k a,.i k' b=>cut (keq k k') (.b (decide (b<=a)))
 | .eql,.s a,.s b=>cut (isT P t) (.b (decide (a=b)))
 | .neq,.s a,.s b=>cut (isT P t) (.b (decide (¬ a=b)))
 | .add,.s a,.s b=>cut (isT P t && Nat.ble (a.length+b.length) 9223372036854775807) (.s (a++b))
 | .eql,.b a,.b b=>cut (isB P t) (.b (decide (a=b)))
 | .neq,.b a,.b b=>cut (isB P t) (.b (decide (¬ a=b)))
 | .eql,.a a,.a b=>(eqS P t a b).map .b
 | .neq,.a a,.a b=>(eqS P t a b).map λr=>.b (!r)
 | .lss,.s a,.s b=>cut (isT P t) (.b (Op.bytesLess a b))
 | .gtr,.s a,.s b=>cut (isT P t) (.b (!(Op.bytesLess a b || a == b)))
 | .eql,.c a,.c b=>cut (ZbH a && ZbH b && isF P t && k) (.b true)
 | .neq,.c a,.c b=>cut (ZbH a && ZbH b && isF P t && k) (.b false)
 | _,_,_=>none
theorem Z7F (L:Lc) (l:List V) (i:Nat):(gl L l)[i]?=(l[i]?).map (ga L):=by rw [Jt,XV]
theorem Zdn {P:Program} (L:Lc) (w) (d:Nat):∀ (fs:List Field) (xs ys:List V) (r:Bool),eqF P fs xs ys=some r->(Op.eqFields (d+1) (gl L xs).toArray (gl L ys).toArray fs).run P w=.ok r w
 | [],_,_,r,h=>by simp only [eqF,Xl] at h;subst h;simp [Op.eqFields]
 | f :: fs, xs, ys, r, h => by
   simp only [eqF] at h;have hp:∀ (zs:List V) (v:V),(P.info? f.type).map (·.size)=some 1->zs[f.offset]?=some v->(∀ D,P.underlying f.type=some D->Z0h D=false)->(∃ D,P.underlying f.type=some D)->(part f.type (gl L zs).toArray f.offset).run P w=.ok (ga L v) w:=λzs v h1 h2 h3 h4=>by
    obtain ⟨D,hD⟩:=h4;have u1:Siz P f.type 1:=⟨h1⟩
    have u2:Und P f.type D:=⟨hD⟩
    have h5:(gl L zs)[f.offset]?=some (ga L v):=by rw [Z7F,h2];rfl
    simp [part,Und.isAgg,h3 D hD,Siz.run,h5]
   split at h;rename_i k k1 a k2 b r' e1 e2 e3 e4 e5 e6;obtain ⟨hk,h'⟩:=JY h;simp only [Xd] at hk;have k3:=of_decide_eq_true hk.1;have k4:=of_decide_eq_true hk.2;subst k3 k4;cases h';have q1:=hp xs _ e1 e4 (λD hD=>by rw [e3] at hD;cases hD;rfl) ⟨_,e3⟩;have q2:=hp ys _ e1 e5 (λD hD=>by rw [e3] at hD;cases hD;rfl) ⟨_,e3⟩;have ih:=Zdn L w d fs xs ys r' e6;have e2:f.name ≠ "_" := by simpa using e2
   simp only [Op.eqFields,if_pos e2,Sem.run_bind,q1,q2,Result.andThen_ok,ga,run_equalIn_int w d _ _ _ _ _ e3];by_cases bK:a=b;simp [bK,ih];simp [bK];rename_i a b r' e1 e2 e3 e4 e5 e6;simp only [Xl] at h;subst h;have q1:=hp xs _ e1 e4 (λD hD=>by rw [e3] at hD;cases hD;rfl) ⟨_,e3⟩;have q2:=hp ys _ e1 e5 (λD hD=>by rw [e3] at hD;cases hD;rfl) ⟨_,e3⟩;have ih:=Zdn L w d fs xs ys r' e6;have e2:f.name ≠ "_" := by simpa using e2
   simp only [Op.eqFields,if_pos e2,Sem.run_bind,q1,q2,Result.andThen_ok,ga,run_equalIn_string w d _ _ _ e3];by_cases bK:a=b;simp [bK,ih];simp [bK];cases h
theorem Zrs {P:Program} {t:Nat} {a b:List V} {r:Bool} (L:Lc) (h:eqS P t a b=some r):(∀ op x y w,(eqGuard op t x y (.agg (gl L a).toArray) (.agg (gl L b).toArray)).run P w=.ok () w)/\∀ w,(Op.equal t (.agg (gl L a).toArray) (.agg (gl L b).toArray)).run P w=.ok r w:=by
 unfold eqS at h;split at h;rename_i fs h1;obtain ⟨hc,h⟩:=JY h;simp only [Xd,Ybf] at hc;have hf:P.fieldsOf t=fs:=by unfold Program.fieldsOf;rw [h1]
 refine ⟨λop x y w=>?_,λw=>?_⟩;unfold eqGuard;cases op<;>simp [hc.2];have:=run_equalIn_struct (P:=P) w 9999 t (gl L a).toArray (gl L b).toArray (by rw [h1,hf]) hc.1;rw [hf] at this;exact this.trans (Zdn L w _ _ _ _ _ h);cases h
theorem Zrt {P:Program} {n:Nat} {L:Lc} (hG:Gl L) {e:AE} {t:Nat} {op:BinOp} {x y:Operand} {a b v:V} (hx:evv e x=some a) (hy:evv e y=some b) (h:bin P t (isK y) op a b=some v)
 (w) (d:Option Nat) (u ty:TypeId) (pos:String) (af:Array Edge) (g:Option (Nat×Bool)):PR P n ⟨d,.binOp op t x y u,ty,pos,af,g⟩ (ge L e) w (ga L v):=by
 have ex:=Zq hG hx;have ey:=Zq hG hy;unfold bin at h
 split at h<;>first
  | cases h
  | (rw [XO] at h
     obtain ⟨r,h,rfl⟩:=h;obtain ⟨q1,q2⟩:=Zrs L h;exact ⟨λc hc=>by simp only [execOp,hc.ev ex,hc.ev ey];simp [ga,q1,binOp,q2,go_sem]⟩)
  | (obtain ⟨h1, rfl⟩ := Z0l h
     first
      | (have hk : _ = _ := of_decide_eq_true h1
         subst hk;first|exact Zlq ex ey rfl|exact Zlr ex ey rfl|exact Zls ex ey rfl|exact ZbX ex ey|exact ZbY ex ey|exact ZbV ex ey|exact Zgt ex ey|exact ZbW ex ey|exact Zgu ex ey)
      | (simp only [Xd] at h1
         obtain ⟨h1,h2⟩:=h1;have hk:_=_:=of_decide_eq_true h1;subst hk;first|exact Zlu ex ey (of_decide_eq_true h2) rfl|exact Zlt ex ey (of_decide_eq_true h2) rfl)
      | (have := Z2M h1
         first|exact ZdQ ex ey|exact ZdR ex ey|exact ⟨λc hc=>by simp only [execOp,hc.ev ex,hc.ev ey];simp [ga,go_sem,binOp,Op.stringOp]⟩)
      | (simp only [Xd] at h1
         obtain ⟨⟨⟨h1,h2⟩,h3⟩,h4⟩:=h1;have ha:=ZbI h1;have hb:=ZbI h2;subst ha hb;first|exact (ZjB (Zex h3) ex ey h4).1|exact (ZjB (Zex h3) ex ey h4).2)
      | (have := ZmM h1
         first|exact ZdL ex ey|exact Z8S ex ey)
      | (simp only [Xd] at h1
         obtain ⟨h1,h2⟩:=h1;have:=Z2M h1;exact Z92 ex ey (Xg h2)))
def vc:V->List V
 | .a l=>l
 | .c v=>v.cells.toList.map ofC
 | v=>[v]
theorem Z9T (L:Lc) (l:List Value):gl L (l.map ofC)=l:=by
 rw [Jt,XY]
 conv=>rhs;rw [<- List.map_id l]
 exact YaF λv _=>Z7E L v
theorem ZjC (L:Lc) (v:V):(ga L v).cells.toList=gl L (vc v):=by
 cases v<;>first|rfl|simp only [ga,vc,Z9T]|simp [ga,vc,Value.cells]
def Zru (off:Nat) (cs:List V) (us:List V):List V:=us.zipIdx.foldl (λcs p=>cs.set (off+p.2) p.1) cs
theorem ZmN (L:Lc) (off:Nat) (us:List V) (cs:List V):(gl L us).toArray.zipIdx.foldl (λcs (x:Value×Nat)=>cs.setIfInBounds (off+x.2) x.1) (gl L cs).toArray=(gl L (Zru off cs us)).toArray:=by
 have key:∀ (us:List V) (k:Nat) (cs:List V),((us.map (ga L)).zipIdx k).foldl (λcs (x:Value×Nat)=>cs.setIfInBounds (off+x.2) x.1) (cs.map (ga L)).toArray=(((us.zipIdx k).foldl (λcs p=>cs.set (off+p.2) p.1) cs).map (ga L)).toArray:=by
  intro us
  induction us with
  | nil=>intro k cs;rfl
  | cons u us ih=>
    intro k cs;simp only [XD,List.zipIdx_cons,Yag];rw [<- ih (k+1) (cs.set (off+k) u)];congr 1;simp
 rw [Jt,Jt,Jt];have:=key us 0 cs;rw [<- Array.foldl_toList];simpa [Zru] using this
def Z7G (pl:Nat->Option (Nat×Nat)) (cs:List V):List (Nat×V)->Option (List V)
 | []=>some cs
 | (i, v) :: r => match pl i with
   | none=>none
   | some (off,size)=>if (vc v).length≠size\/off+(vc v).length > cs.length then none else Z7G pl (Zru off cs (vc v)) r
def gp (L:Lc) (l:List (Nat×V)):List (Nat×Value):=l.map λp=>(p.1,ga L p.2)
theorem Zg1 (L:Lc) (v:V):(ga L v).cells=(gl L (vc v)).toArray:=by rw [<- ZjC]
theorem Z4V (L:Lc) (pl:Nat->Option (Nat×Nat)):∀ (ps:List (Nat×V)) (cs us:List V),Z7G pl cs ps=some us->Instr.fill pl (gl L cs).toArray (gp L ps)=some (gl L us).toArray
 | [],cs,us,h=>by simp only [Z7G,Xl] at h;subst h;rfl
 | (i, v) :: r, cs, us, h => by
   simp only [Z7G] at h;show Instr.fill pl _ ((i,ga L v) :: gp L r)=_;unfold Instr.fill;cases hp:pl i with
   | none=>simp [hp] at h
   | some q=>
     obtain ⟨off,size⟩:=q;simp only [hp] at h ⊢;split at h;cases h;rename_i hc;rw [Zg1,Yan,Yan,Ja,Ja,if_neg (by simpa using hc),ZmN];exact Z4V L pl r _ us h
noncomputable def parts (e:AE):List (Nat×Operand)->Option (List (Nat×V))
 | []=>some []
 | (i, x) :: r => match evv e x, parts e r with
   | some v,some l=>some ((i,v) :: l)
   | _,_=>none
theorem Z7H {L:Lc} (hG:Gl L) {e:AE}:∀ {l:List (Nat×Operand)} {ps:List (Nat×V)},parts e l=some ps->Jg (ge L e) l=some (gp L ps)
 | [],ps,h=>by simp only [parts,Xl] at h;subst h;rfl
 | (i, x) :: r, ps, h => by
   unfold parts at h;cases hx:evv e x with
   | none=>simp [hx] at h
   | some v=>
     cases hr:parts e r with
     | none=>simp [hx,hr] at h
     | some l=>
       simp only [hx,hr,Xl] at h;subst h;simp only [Jg,Zq hG hx,Z7H hG hr];rfl
def built (P:Program) (t:Nat) (ps:List (Nat×V)):Option (List V):=
 match P.info? t,P.underlying t with
 | some it, some (.array _ e) => match it.zero, P.info? e with
   | some z,some ie=>Z7G (λi=>some (i * ie.size,ie.size)) (z.cells.toList.map ofC) ps
   | _,_=>none
 | some it, some (.struct fields) => match it.zero, fields.toList.mapM (λf => (P.info? f.type).map λi => (f.offset, i.size)) with
   | some z,some places=>Z7G (places.toArray[·]?) (z.cells.toList.map ofC) ps
   | _,_=>none
 | _,_=>none
theorem ZjD (L:Lc) {P:Program} {t:Nat} {ps:List (Nat×V)} {cs:List V} (h:built P t ps=some cs):P.built t (gp L ps)=some (gl L cs).toArray:=by
 have hz:∀ z:Value,z.cells=(gl L (z.cells.toList.map ofC)).toArray:=λz=>by rw [Z9T]
 unfold built at h;unfold Program.built;split at h;rename_i it n e h1 h2;rw [h1,h2];split at h;rename_i z ie h3 h4;simp only [h3,h4];rw [hz z];exact Z4V L _ _ _ _ h;cases h;rename_i it fs h1 h2;rw [h1,h2];split at h;rename_i z pl h3 h4;simp only [h3,h4];rw [hz z];exact Z4V L _ _ _ _ h;cases h;cases h
def fld (P:Program) (t i:Nat):Option Nat:=match P.underlying t with
 | some (.struct fs) => match fs[i]? with
   | some f => match (P.info? f.type).map (·.size) with
     | some (k+1)=>some f.offset
     | _=>none
   | none=>none
 | _=>none
theorem Zrv {P:Program} {t i o:Nat} (h:fld P t i=some o):Fld P t i o:=⟨by
 unfold fld at h;split at h;rename_i fs h1;split at h;rename_i f h2;split at h;rename_i k h3;exact ⟨fs,f,k,h1,h2,XL h,h3⟩;cases h;cases h;cases h⟩
def fieldV (P:Program) (t i:Nat) (cs:List V):Option V:=match P.underlying t with
 | some (.struct fs) => match fs[i]? with
   | some f => match P.underlying f.type, (P.info? f.type).map (·.size) with
     | some D,some k=>bif Z0h D then some (.a ((cs.drop f.offset).take k)) else cs[f.offset]?
     | _,_=>none
   | none=>none
 | _=>none
theorem ZmO (L:Lc) (l:List V) (k:Nat):gl L (l.take k)=(gl L l).take k:=by rw [Jt,Jt,List.map_take]
theorem ZmP (L:Lc) (l:List V) (k:Nat):gl L (l.drop k)=(gl L l).drop k:=by rw [Jt,Jt,List.map_drop]
theorem Zg2 {P:Program} {t i:Nat} {cs:List V} {v:V} (L:Lc) (h:fieldV P t i cs=some v) (w):(Instr.field t (.agg (gl L cs).toArray) i).run P w=.ok (ga L v) w:=by
 unfold fieldV at h;split at h;rename_i fs h1;split at h;rename_i f h2;split at h
 . rename_i D k h3 h4
   have u1:Und P f.type D:=⟨h3⟩
   have u2:Siz P f.type k:=⟨h4⟩
   cases hA:Z0h D with
   | true=>
     rw [hA] at h;simp only [cond_true,Xl] at h;subst h;simp [Instr.field,run_underlying h1,h2,asAgg,part,Und.isAgg,hA,Siz.run,ga,ZmO,ZmP]
   | false=>
     rw [hA] at h;simp only [cond_false] at h;have:=Z7F L cs f.offset;rw [h] at this;simp [Instr.field,run_underlying h1,h2,asAgg,part,Und.isAgg,hA,this]
 cases h;cases h;cases h
noncomputable def Zdo (P:Program) (e:AE) (t:Nat) (s:Str):Option Operand->Option Operand->Option V
 | some lo, some hi => match evv e lo, evv e hi with
   | some (.i .i64 l),some (.i .i64 h)=>cut (decide (0<=l/\l<=h/\h<=s.length)) (.s ((s.take h.toNat).drop l.toNat))
   | _,_=>none
 | some lo, none => match evv e lo with
   | some (.i .i64 l)=>cut (decide (0<=l/\l<=s.length)) (.s (s.drop l.toNat))
   | _=>none
 | none, some hi => match evv e hi with
   | some (.i .i64 h)=>cut (decide (0<=h/\h<=s.length)) (.s (s.take h.toNat))
   | _=>none
 | none,none=>none
def slr:V->Option (Nat×Nat×Nat)
 | .l b n=>some (b,0,n)
 | .q b o k n=>some (b,o * k,n)
 | .z b o n=>some (b,o,n)
 | _=>none
theorem Zrw {L:Lc} {v:V} {b o n:Nat} (h:slr v=some (b,o,n)) (hn:0<n):∃ c,ga L v=.slice (some ⟨(L b).1,o,none⟩) n c:=by
 cases v with
 | l b' n'=>
   simp only [slr,Xl,XM] at h;obtain ⟨rfl,rfl,rfl⟩:=h;exact ⟨_,rfl⟩
 | q b' o' k' n'=>
   simp only [slr,Xl,XM] at h;obtain ⟨rfl,rfl,rfl⟩:=h;exact ⟨(L b').2 - o',by simp only [ga];rw [Zdm (Nat.ne_of_gt hn)];rfl⟩
 | z b' o' n'=>
   simp only [slr,Xl,XM] at h;obtain ⟨rfl,rfl,rfl⟩:=h;exact ⟨_,rfl⟩
 | _=>cases h
def idx (P:Program) (t:Nat):V->V->Option V
 | .p b o, .i .i64 j => match P.underlying t with
   | some (.array n el) => match (P.info? el).map (·.size) with
     | some k=>cut (decide (0<=j/\j<n)) (.p b (o+j.toNat * k))
     | none=>none
   | _=>none
 | v, .i .i64 j => match slr v, P.underlying t with
   | some (b, o, n), some (.slice el) => match (P.info? el).map (·.size) with
     | some k=>cut (decide (0<=j/\j<n)) (.p b (o+j.toNat * k))
     | none=>none
   | _,_=>none
 | _,_=>none
def Zrx:V->Option Nat
 | .l _ n=>some n
 | .q _ _ _ n=>some n
 | .z _ _ n=>some n
 | .c (.N)=>some 0
 | _=>none
theorem ZmQ {L:Lc} {v:V} {n:Nat} (h:Zrx v=some n):∃ p c,ga L v=.slice p n c:=by
 unfold Zrx at h;split at h<;>first|(cases h;done)|(simp only [Xl] at h;subst h;exact ⟨_,_,rfl⟩)
noncomputable def Zry (P:Program) (e:AE) (c:Call):Option V:=match c.callee,c.args.toList,c.argTypes.toList with
 | .builtin .len, [x], [t] => match evv e x with
   | some (.s s)=>cut (isT P t) (.i .i64 s.length)
   | some v => match Zrx v, P.underlying t with
     | some n,some (.slice _)=>some (.i .i64 n)
     | _,_=>none
   | _=>none
 | .builtin .cap, [x], [t] => match evv e x, P.underlying t with
   | some (.c (.N)),some (.slice _)=>some (.i .i64 0)
   | _,_=>none
 | .builtin .max, [x, y], _ => match evv e x, evv e y with
   | some (.i .i64 a),some (.i .i64 b)=>some (.i .i64 (max a b))
   | _,_=>none
 | .builtin .min, [x, y], _ => match evv e x, evv e y with
   | some (.i .i64 a),some (.i .i64 b)=>some (.i .i64 (min a b))
   | _,_=>none
 | _,_,_=>none
noncomputable def Zrz (P:Program) (e:AE) (t:Nat) (lo hi:Option Operand):V->Option V
 | .s s=>bif isT P t then Zdo P e t s lo hi else none
 | .c (.N) => match lo, hi, P.underlying t with
   | none, some h, some (.slice el) => match evv e h, (P.info? el).map (·.size) with
     | some (.i .i64 0),some _=>some (.c (.N))
     | _,_=>none
   | some h, none, some (.slice el) => match evv e h, (P.info? el).map (·.size) with
     | some (.i .i64 0),some _=>some (.c (.N))
     | _,_=>none
   | _,_,_=>none
 | .p b o => match lo, hi, P.underlying t with
   | none, none, some (.array n el) => match (P.info? el).map (·.size) with
     | some _=>some (.z b o n)
     | none=>none
   | _,_,_=>none
 | _=>none
noncomputable def pur (P:Program) (e:AE):Op->Option V
 | .move x=>evv e x
 | .assign x=>evv e x
 | .pick c x y => match evv e c with
   | some (.b true)=>evv e x
   | some (.b false)=>evv e y
   | _=>none
 | .nilCheck x => match evv e x with
   | some (.p b o)=>some (.p b o)
   | _=>none
 | .binOp op t x y _ => match evv e x, evv e y with
   | some a,some b=>bin P t (isK y) op a b
   | _,_=>none
 | .unOp .not _ x => match evv e x with
   | some (.b v)=>some (.b (!v))
   | _=>none
 | .convert s d x => match evv e x, P.underlying s, P.underlying d with
   | some (.i k n),some _,some (.int k')=>some (.i k' (k'.wrap n))
   | _,_,_=>none
 | .makeFunc (.func g) fs cs => match evs e fs.toList, evs e cs.toList with
   | some x,some y=>some (.f g x y)
   | _,_=>none
 | .slice t x lo hi none => match evv e x with
   | some v=>Zrz P e t lo hi v
   | none=>none
 | .fieldAddr t x i => match evv e x, fld P t i with
   | some (.p b o),some k=>some (.p b (o+k))
   | _,_=>none
 | .field t x i => match evv e x with
   | some (.a cs)=>fieldV P t i cs
   | _=>none
 | .indexAddr t x y => match evv e x, evv e y with
   | some a,some b=>idx P t a b
   | _,_=>none
 | .index t x y => match evv e x, evv e y with
   | some (.s s),some (.i _ j)=>cut (isT P t && decide (0<=j/\j<s.length)) (.i .u8 (J5 s j.toNat))
   | _,_=>none
 | .extract x i => match evv e x with
   | some (.t l)=>l[i]?
   | _=>none
 | .build t ps => match parts e ps.toList with
   | some ps=>(built P t ps).map .a
   | _=>none
 | .call c=>Zry P e c
 | _=>none
section
variable {P:Program} {n:Nat} {e:Env} {w:World} {d:Option Nat} {ty:TypeId} {pos:String} {af:Array Edge} {g:Option (Nat×Bool)}
theorem ZmR {t el k:Nat} {x y:Operand} {b o i l c:Nat} {z:Int} [hu:Und P t (.slice el)] [hk:Siz P el k] (hx:ev e x=some (.slice (some ⟨b,o,none⟩) l c)) (hy:ev e y=some (.I z)) (hz:z=(i:Int)) (hi:i<l) :
 PR P n ⟨d,.indexAddr t x y,ty,pos,af,g⟩ e w (.pointer (some ⟨b,o+i * k,none⟩)):=
 ⟨λa ha => by
   subst hz;have h0:(0:Int)<=(i:Int)/\(i:Int)<(l:Int):=by omega
   have hr:(Instr.indexAt t (.slice (some ⟨b,o,none⟩) l c) (.I (i:Int))).run P w=.ok (.pointer (some ⟨b,o+i * k,none⟩)) w:=by
    simp only [Instr.indexAt,asIntOf];simp [run_underlying hu.h,Siz.run,Addr.add_lit,hi]
   simp [execOp,ha.ev hx,ha.ev hy,hr]⟩
theorem Z9U {L:Lc} (hG:Gl L) {e:AE} {xs:Array Operand} {vs:List V} (h:evs e xs.toList=some vs):∀ a,Has n (ge L e) a->xs.map a.eval=(gl L vs).toArray:=λa ha=>by
 rw [<- ZjA hG h a ha,<- Ybz,X3]
theorem Zg3 {t:TypeId} {x y:Operand} {a:Str} {z:Int} {i:Nat} {kk:IntKind} [hu:Und P t .string] (hx:ev e x=some (str a)) (hy:ev e y=some (.int kk z)) (hz:z=(i:Int)) (hi:i<a.length):PR P n ⟨d,.index t x y,ty,pos,af,g⟩ e w (.int .u8 (J5 a i)):=
 ⟨λc ha => by
   subst hz;have h1:(0:Int)<=(i:Int)/\((i:Int)<((⟨a.toArray⟩:ByteArray).size:Int)):=by rw [Jy];omega
   have:=run_index_string (P:=P) w t ⟨a.toArray⟩ kk (i:Int) hu.h;rw [dif_pos h1] at this;simp only [execOp,ha.ev hx,ha.ev hy];simp [this,J5,List.getD,hi];rfl⟩
theorem ZrA {L:Lc} (hG:Gl L) {e:AE} {t:Nat} {x y:Operand} {a b v:V} (hx:evv e x=some a) (hy:evv e y=some b) (h:idx P t a b=some v):PR P n ⟨d,.indexAddr t x y,ty,pos,af,g⟩ (ge L e) w (ga L v):=by
 have ex:=Zq hG hx;have ey:=Zq hG hy;unfold idx at h;split at h;split at h;rename_i m el h1;split at h;rename_i k h2;obtain ⟨h3,rfl⟩:=Z0l h;have h4:=of_decide_eq_true h3;have u1:Und P t (.array m el):=⟨h1⟩
 have u2:Siz P el k:=⟨h2⟩
 exact Z2t (el:=el) (k:=k) ex ey (i:=_root_.Int.toNat _) (by rw [X7 h4.1]) (by omega);cases h;cases h;split at h;rename_i b o m el h1 h2;split at h;rename_i k h5;obtain ⟨h3,rfl⟩:=Z0l h;have h4:=of_decide_eq_true h3;have u1:Und P t (.slice el):=⟨h2⟩
 have u2:Siz P el k:=⟨h5⟩
 obtain ⟨c,hv⟩:=Zrw (L:=L) h1 (by omega);rw [hv] at ex;exact ZmR (el:=el) (k:=k) ex ey (i:=_root_.Int.toNat _) (by rw [X7 h4.1]) (by omega);cases h;cases h;cases h
theorem Zg4 {L:Lc} (hG:Gl L) {e:AE} {t:Nat} {x:Operand} {s:Str} {lo hi:Option Operand} {v:V} (ht:isT P t=true) (hx:evv e x=some (.s s)) (h:Zdo P e t s lo hi=some v):PR P n ⟨d,.slice t x lo hi none,ty,pos,af,g⟩ (ge L e) w (ga L v):=by
 have ex:=Zq hG hx;have u1:=Z2M ht;unfold Zdo at h;split at h;split at h;rename_i l h' h1 h2;obtain ⟨h3,rfl⟩:=Z0l h;have h4:=of_decide_eq_true h3;exact Z2s ex (Zq hG h1) (Zq hG h2) (by rw [X7 h4.1]) (by rw [X7 (by omega)]) (by omega) (by omega);cases h;split at h;rename_i l h1;obtain ⟨h3,rfl⟩:=Z0l h;have h4:=of_decide_eq_true h3;exact Zad ex (Zq hG h1) (by rw [X7 h4.1]) (by omega);cases h;split at h;rename_i l h1;obtain ⟨h3,rfl⟩:=Z0l h;have h4:=of_decide_eq_true h3;exact Zae ex (Zq hG h1) (by rw [X7 h4.1]) (by omega);cases h;cases h
theorem ZmS {α:Type} {a:Array α} {x:α} (h:a.toList=[x]):a=#[x]:=by rw [<- X3 (xs:=a),h]
theorem Zv2 {α:Type} {a:Array α} {x y:α} (h:a.toList=[x,y]):a=#[x,y]:=by rw [<- X3 (xs:=a),h]
theorem ZmT {L:Lc} (hG:Gl L) {e:AE} {c:Call} {v:V} (h:Zry P e c=some v):PR P n ⟨d,.call c,ty,pos,af,g⟩ (ge L e) w (ga L v):=by
 obtain ⟨cl,xs,ts⟩:=c;unfold Zry at h;split at h;rename_i x t h1 h2 h3
 try dsimp only at h1 h2 h3
 obtain rfl:=ZmS h2;obtain rfl:=ZmS h3;subst h1;split at h;rename_i h1;obtain ⟨h2,rfl⟩:=Z0l h;have:=Z2M h2;exact ZdS (Zq hG h1);rename_i v' bt h1;split at h;rename_i m el h2 h3;cases h;have:Und P t (.slice el):=⟨h3⟩
 obtain ⟨p,c,hv⟩:=ZmQ (L:=L) h2;have:=Zq hG h1;rw [hv] at this;exact ZbZ this;cases h;cases h;rename_i x t h1 h2 h3
 try dsimp only at h1 h2 h3
 obtain rfl:=ZmS h2;obtain rfl:=ZmS h3;subst h1;split at h;rename_i el h1 h2;cases h;have:Und P t (.slice el):=⟨h2⟩
 exact Z6O (Zq hG h1);cases h;rename_i x y h1 h2
 try dsimp only at h1 h2
 obtain rfl:=Zv2 h2;subst h1;split at h;rename_i h1 h2;cases h;exact Zhq (Zq hG h1) (Zq hG h2);cases h;rename_i x y h1 h2
 try dsimp only at h1 h2
 obtain rfl:=Zv2 h2;subst h1;split at h;rename_i h1 h2;cases h;exact Zc5 (Zq hG h1) (Zq hG h2);cases h;cases h
theorem ZmU {L:Lc} (hG:Gl L) {e:AE} {t:Nat} {x:Operand} {u v:V} {lo hi:Option Operand} (hx:evv e x=some u) (h:Zrz P e t lo hi u=some v):PR P n ⟨d,.slice t x lo hi none,ty,pos,af,g⟩ (ge L e) w (ga L v):=by
 have ex:=Zq hG hx;unfold Zrz at h;split at h;obtain ⟨ht,h⟩:=JY h;exact Zg4 hG ht hx h;split at h;rename_i ho el h1;split at h;rename_i k h2 h3;cases h;have u1:Und P t (.slice el):=⟨h1⟩
 have u2:Siz P el _:=⟨h3⟩
 exact ⟨λa ha=>by simp [execOp,ha.ev ex,ha.ev (Zq hG h2),ga,Instr.sliceAt,run_underlying u1.h,Instr.slice,Instr.sliceBounds,Instr.sliceBound,asIntOf,u2.run]⟩;cases h;rename_i ho el h1;split at h;rename_i k h2 h3;cases h;have u1:Und P t (.slice el):=⟨h1⟩
 have u2:Siz P el _:=⟨h3⟩
 exact ⟨λa ha=>by simp [execOp,ha.ev ex,ha.ev (Zq hG h2),ga,Instr.sliceAt,run_underlying u1.h,Instr.slice,Instr.sliceBounds,Instr.sliceBound,asIntOf,u2.run]⟩;cases h;cases h;split at h;rename_i m el h1;split at h;rename_i k h3;cases h;have u1:Und P t (.array m el):=⟨h1⟩
 have u2:Siz P el _:=⟨h3⟩
 exact ⟨λa ha=>by simp [execOp,ha.ev ex,ga,Instr.sliceAt,Instr.sureAddr,run_underlying u1.h,Instr.sliceBounds,u2.run,Addr.add]⟩;cases h;cases h;cases h
theorem ZjE {L:Lc} (hG:Gl L) {e:AE} {op:Op} {v:V} (h:pur P e op=some v):PR P n ⟨d,op,ty,pos,af,g⟩ (ge L e) w (ga L v):=by
 unfold pur at h;split at h;exact ZJ (Zq hG h);exact Z0H (Zq hG h);split at h;rename_i h1;exact Z89 (Zq hG h1) (Zq hG h);rename_i h1;exact Z8a (Zq hG h1) (Zq hG h);cases h;split at h;rename_i h1;cases h;exact Z5J (Zq hG h1);cases h;split at h;rename_i h1 h2;exact Zrt hG h1 h2 h w d _ ty pos af g;cases h;split at h;rename_i h1;cases h;exact ZbU (Zq hG h1);cases h;split at h;rename_i h1 h2 h3;cases h;have u1:Und P _ _:=⟨h2⟩
 have u2:Und P _ _:=⟨h3⟩
 exact Zlp (Zq hG h1);cases h;split at h;rename_i fs cs x y h1 h2;cases h;exact ⟨λa ha=>by simp [execOp,Instr.makeFunc,Z9U hG h1 a ha,Z9U hG h2 a ha,ga]⟩;cases h;split at h;rename_i h1;exact ZmU hG h1 h;cases h;split at h;rename_i h1 h2;cases h;have:=Zrv h2;exact Z1g (Zq hG h1);cases h;split at h;rename_i h1;exact ZhW (Zq hG h1) (Zg2 L h);cases h;split at h;rename_i h1 h2;exact ZrA hG h1 h2 h;cases h;split at h;rename_i h1 h2;obtain ⟨h3,rfl⟩:=Z0l h;simp only [Xd] at h3;have h4:=of_decide_eq_true h3.2;have:=Z2M h3.1;exact Zg3 (Zq hG h1) (Zq hG h2) (by rw [X7 h4.1]) (by omega);cases h;split at h;rename_i l h1;exact Z6z (Zq hG h1) (by rw [List.getElem?_toArray,Z7F,h];rfl);cases h;split at h;rename_i ps h1;rw [XO] at h;obtain ⟨cs,h2,rfl⟩:=h;rename_i arr _ _;have:=Z0i (P:=P) (n:=n) (w:=w) (d:=d) (ty:=ty) (pos:=pos) (af:=af) (g:=g) (Z7H hG h1) (λw=>run_build w _ _ _ (ZjD L h2));simpa [ga] using this;cases h;exact ZmT hG h;cases h
end
abbrev Tr (α:Type):=List (Nat×Option α)
noncomputable def Tr.get {α:Type} (t:Tr α) (k:Nat):Option α:=Option.rec (motive:=λ_=>Option α) none (λv=>v) (lk t k)
def Tr.put {α:Type} (v:Option α) (t:Tr α) (k:Nat):Tr α:=(k,v) :: t
theorem Tr.get_put {α:Type} (v:Option α) (t:Tr α) (k j:Nat):(Tr.put v t k).get j=if j=k then v else t.get j:=by
 unfold Tr.get Tr.put;rw [Z4U];by_cases e:k=j;rw [if_pos e,if_pos e.symm];rw [if_neg e,if_neg (Ne.symm e)]
structure KI (P:Program) where
 kt:Nat
 κ:Type
 de:DecidableEq κ
 ek:Z6C P kt κ
 dec:V->Option κ
 ok:∀ L v a,dec v=some a->ga L v=ek.enc a
class KD (P:Program) where
 l:List (KI P)
def kf {P:Program}:List (KI P)->Nat->Option (KI P)
 | [],_=>none
 | K :: r,t=>bif Nat.beq K.kt t then some K else kf r t
theorem ZjF {P:Program}:∀ {l:List (KI P)} {t:Nat} {K:KI P},kf l t=some K->K.kt=t
 | [],_,_,h=>by cases h
 | K :: r, t, K', h => by
   simp only [kf] at h;cases hb:Nat.beq K.kt t with
   | true=>rw [hb] at h;cases h;exact Xp hb
   | false=>rw [hb] at h;exact ZjF (l:=r) h
inductive O where
 | c (T z:Nat) (cs:List V)
 | it (s:Str) (p:Nat)
 | mp (l:List (V×V))
 | ro (cs:List V)
 | ig
def O.bd (n:Nat):O->Bool
 | .c _ _ cs=>bl n cs
 | .it _ _=>true
 | .mp l=>l.all λp=>bl n [p.1,p.2]
 | .ro cs=>bl n cs
 | .ig=>true
structure S where
 m:Tr O
 n:Nat
def Zdp (L:Lc) (w:World) (r:Nat) (l:List (V×V)):Prop:=∃ l':List (V×V),l'.Perm l/\∃ (es:Array MapEntry) (clock:Nat),w.heap[r]?=some (.map es clock)/\es.toList.map (·.key)=l'.map (λp=>ga L p.1)/\es.toList.map (·.val)=l'.map (λp=>ga L p.2)
def Ob (L:Lc) (w:World) (k:Nat):O->Prop
 | .c T z cs=>∃ rest,Blk w (L k).1 T (gl L cs++rest)/\(z≠0->cs.length+rest.length=(L k).2 * z/\(L k).2<=maxLen)/\(z=0->rest=[])
 | .it s p=>Itr w (L k).1 s p
 | .mp l=>Zdp L w (L k).1 l
 | .ro cs=>(L k).1<w.heap.size/\∀ i u,cs[i]?=some u->w.cell? ⟨(L k).1,i,none⟩=some (ga L u)
 | .ig=>(L k).1<w.heap.size/\∃ m,w.cell? ⟨(L k).1,0,none⟩=some (.I m)
structure Rel (L:Lc) (s:S) (w:World):Prop where
 g:Gl L
 ob:∀ k o,s.m.get k=some o->Ob L w k o
 bn:∀ k o,s.m.get k=some o->k<s.n/\O.bd s.n o=true
 inj:∀ j k,(s.m.get j).isSome=true->(s.m.get k).isSome=true->(L j).1=(L k).1->j=k
 n64:64<=s.n
theorem Itr.ext {S:List Nat} {w w':World} {b p:Nat} {s:Str} (h:Itr w b s p) (hS:Stp S w w') (hb:b∉S):Itr w' b s p:=by
 have hl:=h.lt;unfold Itr at *;rw [hS.block b hl hb];exact h
theorem Ob.ext {L:Lc} {S:List Nat} {w w':World} {k:Nat} {o:O} (h:Ob L w k o) (hS:Stp S w w') (hb:(L k).1∉S):Ob L w' k o:=by
 cases o with
 | c T z cs=>obtain ⟨r,h1,h2⟩:=h;exact ⟨r,h1.ext hS hb,h2⟩
 | it s p=>exact Itr.ext h hS hb
 | mp l=>
   obtain ⟨l',h1,es,c,h2,h3⟩:=h;exact ⟨l',h1,es,c,by rw [hS.block _ (Xm.1 h2).1 hb];exact h2,h3⟩
 | ro cs=>exact ⟨Xi h.1 hS.size,λi u hu=>hS.cell hb (h.2 i u hu)⟩
 | ig=>exact ⟨Xi h.1 hS.size,h.2.imp λ_ hm=>hS.cell hb hm⟩
theorem Ob.lt {L:Lc} {w} {k:Nat} {o:O} (h:Ob L w k o):(L k).1<w.heap.size:=by
 cases o with
 | c T z cs=>obtain ⟨r,h1,h2⟩:=h;exact h1.lt
 | it s p=>exact Itr.lt h
 | mp l=>
   obtain ⟨l',h1,es,c,h2,h3⟩:=h;exact (Xm.1 h2).1
 | ro cs=>exact h.1
 | ig=>exact h.1
theorem Ob.eq {L L':Lc} {n:Nat} {w} {k:Nat} {o:O} (h:Ob L w k o) (hk:L' k=L k) (ho:o.bd n=true) (hL:∀ k,k<n->L' k=L k):Ob L' w k o:=by
 cases o with
 | c T z cs=>obtain ⟨r,h1,h2⟩:=h;exact ⟨r,by rw [hk,Z4T hL cs ho];exact h1,by rw [hk];exact h2⟩
 | it s p=>show Itr _ _ _ _;rw [hk];exact h
 | mp l=>
   obtain ⟨l',h1,es,c,h2,h3,h4⟩:=h;have hb:∀ p∈l',bd n p.1=true/\bd n p.2=true:=λp hp=>by
    have:=Xx.1 (show (l.all λp=>bl n [p.1,p.2])=true from ho) p (h1.mem_iff.1 hp);simpa [bl] using this
   refine ⟨l',h1,es,c,by rw [hk];exact h2,?_,?_⟩;rw [h3];exact YaF λp hp=>(Z64 hL _ (hb p hp).1).symm;rw [h4];exact YaF λp hp=>(Z64 hL _ (hb p hp).2).symm
 | ro cs=>
   refine ⟨by rw [hk];exact h.1,λi u hu=>?_⟩;rw [hk,Z64 hL u ((Z24 n cs).1 ho u (List.mem_of_getElem? hu))];exact h.2 i u hu
 | ig=>show _/\_;rw [hk];exact h
theorem O.bd_le {n m:Nat} (h:n<=m) {o:O} (ho:o.bd n=true):o.bd m=true:=by
 cases o with
 | c T z cs=>exact Z65 h cs ho
 | it s p=>rfl
 | mp l=>
   refine Xx.2 λp hp=>Z65 h _ (Xx.1 (show (l.all λp=>bl n [p.1,p.2])=true from ho) p hp)
 | ro cs=>exact Z65 h cs ho
 | ig=>rfl
def ids (n:Nat) (L:Lc) (ws:List Nat):List Nat:=(ws.filter (λk=>Nat.blt k n)).map (λk=>(L k).1)
theorem JJ {n:Nat} {L:Lc} {ws:List Nat} {b:Nat}:b∈ids n L ws↔∃ k∈ws,k<n/\(L k).1=b:=by
 unfold ids;simp only [Xw,Yak];constructor;rintro ⟨k,⟨h1,h2⟩,h3⟩;exact ⟨k,h1,Xg h2,h3⟩;rintro ⟨k,h1,h2,h3⟩;exact ⟨k,⟨h1,X2 h2⟩,h3⟩
structure Nx (s s':S) (L L':Lc) (w w':World) (ws:List Nat):Prop where
 le:s.n<=s'.n
 ag:∀ k,k<s.n->L' k=L k
 nw:∀ k,s.n<=k->k<s'.n->w.heap.size<=(L' k).1\/(L' k).1∈ids s.n L ws
 st:Stp (ids s.n L ws) w w'
theorem Nx.refl (s:S) (L:Lc) (w):Nx s s L L w w []:=⟨Xq _,λ_ _=>rfl,λk h1 h2=>absurd h2 (Ya0.2 h1),Stp.refl _ _⟩
theorem Nx.trans {s s1 s2:S} {L L1 L2:Lc} {w w1 w2:World} {ws vs:List Nat} (h:Nx s s1 L L1 w w1 ws) (k:Nx s1 s2 L1 L2 w1 w2 vs):Nx s s2 L L2 w w2 (ws++vs):=by
 have hz:=h.st.size;have gD:∀ b,b∈ids s1.n L1 vs->b∈ids s.n L (ws++vs)\/w.heap.size<=b:=λb hb=>by
  obtain ⟨j,hj,sj,rfl⟩:=JJ.1 hb;by_cases qu:j<s.n;rw [h.ag j qu];exact .inl (JJ.2 ⟨j,Xe.2 (.inr hj),qu,rfl⟩);rcases h.nw j (Ya1 qu) sj with g|g
  exact .inr g;obtain ⟨i,hi,ba,he⟩:=JJ.1 g;exact .inl (JJ.2 ⟨i,Xe.2 (.inl hi),ba,he⟩)
 have ba:∀ b,b∈ids s.n L ws->b∈ids s.n L (ws++vs):=λb hb=>by
  obtain ⟨i,hi,ba,he⟩:=JJ.1 hb;exact JJ.2 ⟨i,Xe.2 (.inl hi),ba,he⟩
 refine ⟨Xk h.le k.le,λj hj=>(k.ag j (Xi hj h.le)).trans (h.ag j hj),λj h1 h2=>?_,(h.st.mono ba).own k.st gD⟩;by_cases hj:j<s1.n;rw [k.ag j hj];exact (h.nw j h1 hj).imp id (ba _);rcases k.nw j (Ya1 hj) h2 with g|g
 exact .inl (Xk hz g);exact (gD _ g).symm
noncomputable def ldc (s:S) (b:Nat):Option (List V):=match s.m.get b with
 | some (.c _ _ cs)=>some cs
 | some (.ro cs)=>some cs
 | _=>none
theorem Z3u {L:Lc} {s:S} {w} (h:Rel L s w) {b:Nat} {cs:List V} (hl:ldc s b=some cs) {i:Nat} {u:V} (hu:cs[i]?=some u):w.cell? ⟨(L b).1,i,none⟩=some (ga L u):=by
 unfold ldc at hl;split at hl;rename_i T z cs' hg;cases hl;obtain ⟨r,h1,-⟩:=h.ob b _ hg;refine h1.cell ?_;rw [Yaq (by rw [Ja];exact (Xt.1 hu).1),Z7F,hu];rfl;rename_i cs' hg;cases hl;exact (h.ob b _ hg).2 i u hu;cases hl
def Zdq {P:Program} (K:KI P) (a:K.κ):List (V×V)->Option (List V)
 | []=>some []
 | (q, v) :: r => match K.dec q, Zdq K a r with
   | some b, some l => match K.de b a with
     | .isTrue _=>some (v :: l)
     | .isFalse _=>some l
   | _,_=>none
def vz:Value->V
 | .agg cs=>.a (cs.toList.map ofC)
 | v=>ofC v
theorem Zv3 (L:Lc) (v:Value):ga L (vz v)=v:=by
 cases v with
 | agg cs=>simp only [vz,ga,Z9T,X3]
 | _=>simp only [vz,Z7E]
noncomputable def Znh (P:Program) [KD P] (s:S) (t b:Nat) (kv:V):Option V:=match P.underlying t with
 | some (.map kt et) => match s.m.get b, kf (KD.l (P := P)) kt, (P.info? et).bind (·.zero) with
   | some (.mp l), some K, some z => match K.dec kv with
     | some a => match Zdq K a l with
       | some []=>some (vz z)
       | some [v]=>some v
       | _=>none
     | none=>none
   | _,_,_=>none
 | _=>none
noncomputable def Zv4 (P:Program) (e:AE) (s:S) (t b n:Nat):Option Operand->Option Operand->Option V:=λlo hi=>match s.m.get b,P.underlying t with
 | some (.c T z cs), some (.slice el) => match (P.info? el).map (·.size) with
   | some k => bif Nat.blt 0 z && Nat.ble (n * z) cs.length then (match lo, hi with
     | none, some h => match evv e h with
       | some (.i .i64 h)=>cut (decide (0<=h/\h<=n)) (.l b h.toNat)
       | _=>none
     | some h, none => match evv e h with
       | some (.i .i64 h)=>cut (decide (0<=h/\h<=n)) (.q b h.toNat k (n - h.toNat))
       | _=>none
     | _,_=>none) else none
   | none=>none
 | _,_=>none
noncomputable def rd (P:Program) [KD P] (e:AE) (s:S):Op->Option (V×Nat)
 | .load t x => match evv e x, P.underlying t with
   | some (.p b o), some D => match ldc s b with
     | some cs => match Z0h D, (P.info? t).map (·.size) with
       | true,some k=>bif Nat.ble (o+k) cs.length then some (.a ((cs.drop o).take k),b) else none
       | false, _ => match cs[o]? with
         | some v=>some (v,b)
         | none=>none
       | _,_=>none
     | none=>none
   | _,_=>none
 | .lookup t x k false => match evv e x, evv e k with
   | some (.m b),some kv=>(Znh P s t b kv).map λv=>(v,b)
   | _,_=>none
 | .slice t x lo hi none => match evv e x with
   | some (.l b n)=>(Zv4 P e s t b n lo hi).map λv=>(v,b)
   | _=>none
 | _=>none
def mfl {P:Program} (K:KI P) (p:V×V):Option (K.κ×V):=(K.dec p.1).map λb=>(b,p.2)
theorem Z4W {P:Program} {K:KI P} {a:K.κ}:∀ {l:List (V×V)} {r:List V},Zdq K a l=some r->(∀ p∈l,∃ b,K.dec p.1=some b)/\r=((l.filterMap (mfl K)).filter λq=>@decide (q.1=a) (K.de q.1 a)).map (·.2)
 | [],r,h=>by simp only [Zdq,Xl] at h;subst h;exact ⟨by simp,rfl⟩
 | (q, v) :: t, r, h => by
   simp only [Zdq] at h;split at h;rename_i b l' h1 h2;obtain ⟨h3,h4⟩:=Z4W h2;have hf:mfl K (q,v)=some (b,v):=by simp [mfl,h1]
   refine ⟨λp hp=>(Xa.1 hp).elim (λe=>⟨b,by rw [e];exact h1⟩) (h3 p),?_⟩;rw [List.filterMap_cons_some hf];split at h;rename_i e e';cases h;rw [YaM (by simpa using e),XD,h4];rename_i e e';cases h;rw [YaL (by simpa using e),h4];cases h
theorem Z7I {P:Program} {K:KI P} (L:Lc):∀ {l:List (V×V)},(∀ p∈l,∃ b,K.dec p.1=some b)->l.map (λp=>ga L p.1)=(l.filterMap (mfl K)).map (λq=>K.ek.enc q.1)/\l.map (λp=>ga L p.2)=(l.filterMap (mfl K)).map (λq=>ga L q.2)
 | [],_=>⟨rfl,rfl⟩
 | p :: l, h => by
   obtain ⟨b,hb⟩:=h p (.head _);obtain ⟨h1,h2⟩:=Z7I L (l:=l) (λq hq=>h q (.tail _ hq));have hf:mfl K p=some (b,p.2):=by simp [mfl,hb]
   rw [List.filterMap_cons_some hf,XD,XD,XD,XD,h1,h2,K.ok L p.1 b hb];exact ⟨rfl,rfl⟩
theorem ZrB {P:Program} {K:KI P} {L:Lc} {w} {r:Nat} {l:List (V×V)} (h:Zdp L w r l) (hd:∀ p∈l,∃ b,K.dec p.1=some b):∃ N:List (K.κ×V),N.Perm (l.filterMap (mfl K))/\Jf K.ek.enc w r (N.map λq=>(q.1,ga L q.2)):=by
 obtain ⟨l',h1,es,c,h2,h3,h4⟩:=h;obtain ⟨k1,k2⟩:=Z7I (K:=K) L (l:=l') (λp hp=>hd p (h1.mem_iff.1 hp));refine ⟨l'.filterMap (mfl K),h1.filterMap _,es,c,h2,?_,?_⟩;rw [h3,k1,XY];rfl;rw [h4,k2,XY];rfl
theorem ZbJ {κ:Type} [DecidableEq κ] (N N':List (κ×V)) (hp:N'.Perm N) (L:Lc) (a:κ) (z:Value):(∀ v,(N.filter λq=>decide (q.1=a)).map (·.2)=[v]->Z0t (N'.map λq=>(q.1,ga L q.2)) a z=ga L v)/\
 ((N.filter λq=>decide (q.1=a)).map (·.2)=[]->Z0t (N'.map λq=>(q.1,ga L q.2)) a z=z):=by
 have hf:(N'.map λq=>(q.1,ga L q.2)).find? (λp=>decide (p.1=a))=((N'.filter λq=>decide (q.1=a)).head?).map λq=>(q.1,ga L q.2):=by
  rw [List.head?_filter,List.find?_map];rfl
 have hq:=hp.filter (λq=>decide (q.1=a));constructor;intro v hv;obtain ⟨q,hq1,rfl⟩:=List.map_eq_singleton_iff.1 hv;rw [hq1] at hq;unfold Z0t;rw [hf,List.perm_singleton.1 hq];rfl;intro hv;rw [List.map_eq_nil_iff.1 hv] at hq;unfold Z0t;rw [hf,hq.eq_nil];rfl
theorem Zdp.same {L:Lc} {w w':World} {r:Nat} {l:List (V×V)} (h:Zdp L w r l) (hS:w'.heap[r]?=w.heap[r]?):Zdp L w' r l:=by
 obtain ⟨l',h1,es,c,h2,h3⟩:=h;exact ⟨l',h1,es,c,by rw [hS];exact h2,h3⟩
theorem Zni {P:Program} [KD P] {n:Nat} {e:AE} {w w':World} {d:Option Nat} {ty:TypeId} {pos:String} {af:Array Edge} {g:Option (Nat×Bool)} {L:Lc} {s:S} {op:Op} {v:V} {b:Nat}
 (h:Rel L s w) (hr:rd P e s op=some (v,b)) (hS:w'.heap[(L b).1]?=w.heap[(L b).1]?):PR P n ⟨d,op,ty,pos,af,g⟩ (ge L e) w' (ga L v):=by
 unfold rd at hr;split at hr;split at hr;rename_i b' o D h1 h2;have u1:Und P _ D:=⟨h2⟩
 split at hr;rename_i cs h3;split at hr;rename_i k hA h4;obtain ⟨hk,hr⟩:=JY hr;simp only [Xl,XM] at hr;obtain ⟨rfl,rfl⟩:=hr;have jS:=Xg hk;have u2:Siz P _ k:=⟨h4⟩
 refine Z25 (cs:=gl L ((cs.drop o).take k)) hA (Zq h.g h1) (by rw [Ja,Xz,Yah];omega) (λj u hu=>?_);rw [Z7F] at hu;rw [XO] at hu;obtain ⟨u',jR,rfl⟩:=hu;have hj:=(Xt.1 jR).1;rw [Xz] at hj;rw [List.getElem?_take_of_lt (by omega),YbN] at jR;rw [World.cell?_of_block (w:=w) hS];exact Z3u h h3 jR;rename_i _ hA;split at hr;rename_i u h4;cases hr;exact Jd hA (Zq h.g h1) (by rw [World.cell?_of_block (w:=w) hS];exact Z3u h h3 h4);cases hr;cases hr;cases hr;cases hr;split at hr;rename_i b' kv h1 h2;rw [XO] at hr;obtain ⟨v',hr,hp⟩:=hr;simp only [XM] at hp;obtain ⟨rfl,rfl⟩:=hp;unfold Znh at hr;split at hr;rename_i kt et h3;split at hr;rename_i l K z h4 h5 h6;obtain rfl:=ZjF h5;split at hr;rename_i a h7;have hm:Zdp L w (L b').1 l:=h.ob b' _ h4;have u1:Und P _ (.map K.kt et):=⟨h3⟩
 have u2:Zer P et z:=⟨h6⟩
 have hk:=Zq h.g h2;rw [K.ok L kv a h7] at hk;have fin:∀ r,Zdq K a l=some r->∃ N:List (K.κ×V),N.Perm (l.filterMap (mfl K))/\PR P n ⟨d,.lookup _ _ _ false,ty,pos,af,g⟩ (ge L e) w' (@Z0t K.κ K.de (N.map λq=>(q.1,ga L q.2)) a z):=λr hr=>by
  obtain ⟨N,q1,q2⟩:=ZrB (K:=K) (hm.same hS) (Z4W hr).1;exact ⟨N,q1,@Z0K P n (ge L e) w' d ty pos af g _ K.kt et _ K.κ K.de _ _ z u1 K.ek u2 _ a (Zq h.g h1) hk q2⟩
 split at hr;rename_i h8;cases hr;obtain ⟨N,q1,q2⟩:=fin _ h8;rw [(@ZbJ K.κ K.de _ N q1 L a z).2 (Z4W h8).2.symm] at q2;rw [Zv3];exact q2;rename_i h8;cases hr;obtain ⟨N,q1,q2⟩:=fin _ h8;rw [(@ZbJ K.κ K.de _ N q1 L a z).1 _ (Z4W h8).2.symm] at q2;exact q2;cases hr;cases hr;cases hr;cases hr;cases hr;split at hr;rename_i b' m h1;rw [XO] at hr;obtain ⟨v',hr,hp⟩:=hr;simp only [XM] at hp;obtain ⟨rfl,rfl⟩:=hp;unfold Zv4 at hr;split at hr;rename_i T z cs el h2 h3;split at hr;rename_i k h4;obtain ⟨hc,hr⟩:=JY hr;simp only [Xd] at hc;have c1:0<z:=Xg hc.1;have c2:=Xg hc.2;obtain ⟨rest,-,ac,-⟩:=h.ob b' _ h2;obtain ⟨r1,r2⟩:=ac (by omega);have lG:m<=(L b').2:=Nat.le_of_mul_le_mul_right (by omega) c1;have u1:Und P _ (.slice el):=⟨h3⟩
 have u2:Siz P el k:=⟨h4⟩
 have ex:=Zq h.g h1;split at hr;rename_i ho;split at hr;rename_i hh h5;obtain ⟨h6,rfl⟩:=Z0l hr;have h6:=of_decide_eq_true h6;obtain ⟨j,rfl⟩:∃ j:Nat,hh=(j:Int):=⟨hh.toNat,by omega⟩
 exact ⟨λa ha=>by simp [execOp,ha.ev ex,ha.ev (Zq h.g h5),ga,Instr.sliceAt,run_underlying u1.h,Instr.slice,Instr.sliceBounds,Instr.sliceBound,asIntOf,u2.run,Addr.add_lit,show j<=(L b').2 by omega]⟩;cases hr;rename_i ho;split at hr;rename_i hh h5;obtain ⟨h6,rfl⟩:=Z0l hr;have h6:=of_decide_eq_true h6;obtain ⟨j,rfl⟩:∃ j:Nat,hh=(j:Int):=⟨hh.toNat,by omega⟩
 refine ⟨λa ha=>?_⟩;by_cases e1:(L b').2=j;have e2:m=j:=by omega
 simp [execOp,ha.ev ex,ha.ev (Zq h.g h5),ga,Instr.sliceAt,run_underlying u1.h,Instr.slice,Instr.sliceBounds,Instr.sliceBound,asIntOf,u2.run,Addr.add_lit,e1,e2];have e3:(Nat.beq (m - j) 0 && Nat.beq (L b').2 j)=false:=by rw [Zdm e1,Yb3]
 have e4:ga L (.q b' j k (m - j))=.slice (some ⟨(L b').1,j * k,none⟩) (m - j) ((L b').2 - j):=by simp only [ga];rw [e3];rfl
 rw [Ybv,e4];simp [execOp,ha.ev ex,ha.ev (Zq h.g h5),ga,Instr.sliceAt,run_underlying u1.h,Instr.slice,Instr.sliceBounds,Instr.sliceBound,asIntOf,u2.run,Addr.add_lit,e1,show j<=m by omega];cases hr;cases hr;cases hr;cases hr;cases hr;cases hr
def upd (L:Lc) (n:Nat) (p:Nat×Nat):Lc:=λk=>if k=n then p else L k
theorem Z5C {L:Lc} {n k:Nat} {p:Nat×Nat} (h:k≠n):upd L n p k=L k:=if_neg h
theorem ZS (L:Lc) (n:Nat) (p:Nat×Nat):upd L n p n=p:=if_pos rfl
theorem Z1c {L:Lc} {n:Nat} {p:Nat×Nat}:∀ k,k<n->upd L n p k=L k:=λ_ hk=>Z5C (Nat.ne_of_lt hk)
def Z4X (s:S) (o:O):Option S:=bif o.bd s.n then some ⟨s.m.put (some o) s.n,s.n+1⟩ else none
theorem Rel.new' {L:Lc} {s s':S} {w} {o:O} {p:Nat×Nat} (h:Rel L s w) (hn:Z4X s o=some s') (hf:∀ k o',s.m.get k=some o'->(L k).1≠p.1) (ho:Ob (upd L s.n p) w s.n o):Rel (upd L s.n p) s' w/\s'.n=s.n+1:=by
 unfold Z4X at hn;obtain ⟨h2,hn⟩:=JY hn;simp only [Xl] at hn;subst hn;have bi:∀ k,(Tr.put (some o) s.m s.n).get k=if k=s.n then some o else s.m.get k:=λk=>Tr.get_put _ _ _ _
 have n64:=h.n64;refine ⟨⟨λg hg=>?_,λk o' hk=>?_,λk o' hk=>?_,λj k hj hk he=>?_,by show 64<=s.n+1;omega⟩,rfl⟩;rw [Z1c g (by omega)];exact h.g g hg;dsimp only at hk;rw [bi] at hk;by_cases e:k=s.n;rw [if_pos e] at hk;cases hk;subst e;exact ho;rw [if_neg e] at hk;obtain ⟨a,b⟩:=h.bn k o' hk;exact (h.ob k o' hk).eq (Z1c k a) b Z1c;dsimp only at hk;rw [bi] at hk;by_cases e:k=s.n;rw [if_pos e] at hk;cases hk;exact ⟨by show k<s.n+1;omega,O.bd_le (YbP _) h2⟩;rw [if_neg e] at hk;obtain ⟨a,b⟩:=h.bn k o' hk;exact ⟨Nat.lt_succ_of_lt a,O.bd_le (YbP _) b⟩;dsimp only at hj hk;rw [bi] at hj hk;by_cases e1:j=s.n;by_cases e2:k=s.n;rw [e1,e2];rw [if_neg e2] at hk;obtain ⟨o',im⟩:=Yac.1 hk;rw [e1,ZS,Z1c k (h.bn k o' im).1] at he;exact absurd he.symm (hf k o' im);rw [if_neg e1] at hj;obtain ⟨o',im⟩:=Yac.1 hj;by_cases e2:k=s.n;rw [e2,ZS,Z1c j (h.bn j o' im).1] at he;exact absurd he (hf j o' im);rw [if_neg e2] at hk;obtain ⟨o2,qv⟩:=Yac.1 hk;rw [Z1c j (h.bn j o' im).1,Z1c k (h.bn k o2 qv).1] at he;exact h.inj j k (by rw [im];rfl) hk he
theorem Rel.up {L:Lc} {s:S} {w w':World} (h:Rel L s w) (hS:Stp [] w w'):Rel L s w':=⟨h.g,λk o hk=>(h.ob k o hk).ext hS (by simp),h.bn,h.inj,h.n64⟩
theorem Rel.new {L:Lc} {s s':S} {w w':World} {o:O} {p:Nat×Nat} (h:Rel L s w) (hn:Z4X s o=some s') (hT:Stp [] w w') (hb:w.heap.size<=p.1) (ho:Ob (upd L s.n p) w' s.n o) :
 Rel (upd L s.n p) s' w'/\Nx s s' L (upd L s.n p) w w' []/\s'.n=s.n+1:=by
 obtain ⟨a1,a2⟩:=(h.up hT).new' hn (λk o' hk he=>by have:=(h.ob k o' hk).lt;omega) ho;refine ⟨a1,⟨by omega,Z1c,λk h3 h4=>?_,by simpa [ids] using hT⟩,a2⟩;obtain rfl:k=s.n:=by omega
 rw [ZS];exact .inl hb
def Z7J (s:S) (k:Nat) (o:Option O):S:=⟨s.m.put o k,s.n⟩
theorem Rel.set {L:Lc} {s:S} {w w':World} {k:Nat} {o o':O} (h:Rel L s w) (hk:s.m.get k=some o) (hS:Stp [(L k).1] w w') (ho:Ob L w' k o') (hb:o'.bd s.n=true) :
 Rel L (Z7J s k (some o')) w'/\Nx s (Z7J s k (some o')) L L w w' [k]:=by
 have fx:=(h.bn k o hk).1;have bi:∀ j,(Tr.put (some o') s.m k).get j=if j=k then some o' else s.m.get j:=λj=>Tr.get_put _ _ _ _
 have fH:∀ j,((Tr.put (some o') s.m k).get j).isSome=true->(s.m.get j).isSome=true:=λj hj=>by
  rw [bi] at hj;by_cases e:j=k;rw [e,hk];rfl
  rwa [if_neg e] at hj
 refine ⟨⟨h.g,λj o1 hj=>?_,λj o1 hj=>?_,λi j hi hj he=>h.inj i j (fH i hi) (fH j hj) he,h.n64⟩,⟨Xq _,λ_ _=>rfl,λj h1 h2=>absurd h2 (Ya0.2 h1),?_⟩⟩;dsimp only [Z7J] at hj;rw [bi] at hj;by_cases e:j=k;rw [if_pos e] at hj;cases hj;exact e ▸ ho;rw [if_neg e] at hj;exact (h.ob j o1 hj).ext hS (by
  simp only [Xn];exact λhe=>e (h.inj j k (by rw [hj];rfl) (by rw [hk];rfl) he))
 dsimp only [Z7J] at hj;rw [bi] at hj;by_cases e:j=k;rw [if_pos e] at hj;cases hj;exact ⟨e ▸ fx,hb⟩;rw [if_neg e] at hj;exact h.bn j o1 hj;refine hS.mono (λb hb=>?_);simp only [Xn] at hb;exact JJ.2 ⟨k,by simp,fx,hb.symm⟩
theorem Rel.kill {L:Lc} {s:S} {w} {k:Nat} (h:Rel L s w) (hk:k<s.n):Rel L (Z7J s k none) w:=by
 have bi:∀ j,(Tr.put (none:Option O) s.m k).get j=if j=k then none else s.m.get j:=λj=>Tr.get_put _ _ _ _
 have fH:∀ j o,(Tr.put (none:Option O) s.m k).get j=some o->s.m.get j=some o:=λj o hj=>by
  rw [bi] at hj;by_cases e:j=k;rw [if_pos e] at hj;cases hj
  rwa [if_neg e] at hj
 refine ⟨h.g,λj o hj=>h.ob j o (fH j o hj),λj o hj=>h.bn j o (fH j o hj),λi j hi hj he=>?_,h.n64⟩;obtain ⟨a,ha⟩:=Yac.1 hi;obtain ⟨b,hb⟩:=Yac.1 hj;exact h.inj i j (by rw [fH i a ha];rfl) (by rw [fH j b hb];rfl) he
def oc:V->Bool
 | .a _=>false
 | .t _=>false
 | .c v=>v.oneCell'
 | _=>true
theorem Zdr {L:Lc} {v:V} (h:oc v=true):(ga L v).oneCell'=true:=by
 cases v<;>first|rfl|exact h|cases h
abbrev Rs:=Option V×S×List Nat
noncomputable def stA (P:Program) (e:AE) (s:S) (t:Nat) (x y:Operand):Option Rs:=match evv e x,evv e y with
 | some (.p b o), some v => match s.m.get b, (P.info? t).map (·.size) with
   | some (.c T z cs),some m=>bif decide ((vc v).length=m) && (vc v).all oc && Nat.ble (o+(vc v).length) cs.length && bl s.n (vc v) then some (none,Z7J s b (some (.c T z (cs.take o++vc v++cs.drop (o+(vc v).length)))),[b]) else none
   | _,_=>none
 | _,_=>none
def Po (L:Lc) (s:S) (w:World) (r:Rs) (u:Value) (w':World):Prop:=∃ L',Nx s r.2.1 L L' w w' r.2.2/\Rel L' r.2.1 w'/\∀ v,r.1=some v->u=ga L' v
section
variable {P:Program} {n:Nat} {e:AE} {w:World} {d:Option Nat} {ty:TypeId} {pos:String} {af:Array Edge} {g:Option (Nat×Bool)} {L:Lc} {s:S}
theorem ZrC {t:Nat} {x y:Operand} {r:Rs} (h:Rel L s w) (hr:stA P e s t x y=some r):OE P n ⟨d,.store t x y,ty,pos,af,g⟩ (ge L e) w (Po L s w r):=by
 unfold stA at hr;split at hr;rename_i b o v h1 h2;split at hr;rename_i T z cs m h3 h4;obtain ⟨hc,hr⟩:=JY hr;simp only [Xl] at hr;subst hr;simp only [Xd] at hc;obtain ⟨⟨⟨c1,c2⟩,c3⟩,c4⟩:=hc;have c1:=of_decide_eq_true c1;have c3:=Xg c3;have u1:Siz P t m:=⟨h4⟩
 obtain ⟨rest,hB,ac,kB⟩:=h.ob b _ h3;have ai:=Ja L cs;refine (Z1r (us:=gl L (vc v)) (Zq h.g h1) (Zq h.g h2) (ZjC L v) (by rw [Ja];exact c1) (λc hc=>?_) hB (by rw [Ja,Xb,ai];omega)).mono (λu w' hw=>?_);rw [Jt] at hc;obtain ⟨q,hq,rfl⟩:=Xw.1 hc;exact Zdr (Xx.1 c2 q hq);obtain ⟨hS,kz⟩:=hw;have eV:=(h.bn b _ h3).2;have key:((gl L cs++rest).take o++gl L (vc v)++(gl L cs++rest).drop (o+(gl L (vc v)).length))=gl L (cs.take o++vc v++cs.drop (o+(vc v).length))++rest:=by
  rw [Ja,Yai (by rw [ai];omega),List.drop_append_of_le_length (by rw [ai];omega)];simp only [Jt,XH,List.map_take,List.map_drop,XI]
 rw [key] at kz;obtain ⟨a1,a2⟩:=h.set (o':=.c T z (cs.take o++vc v++cs.drop (o+(vc v).length))) h3 hS ⟨rest,kz,λhz=>by
  have:=ac hz;refine ⟨?_,this.2⟩;rw [<- this.1];simp only [Xb,Xz,Yah];omega,kB⟩ ((Z24 _ _).2 λq hq=>by
   have mO:=(Z24 _ _).1 (show bl s.n cs=true from eV);rcases Xe.1 hq with hq|hq
   rcases Xe.1 hq with hq|hq
   exact mO q (Yao hq);exact (Z24 _ _).1 c4 q hq;exact mO q (Yax hq))
 exact ⟨L,a2,a1,λv hv=>by cases hv⟩;cases hr;cases hr
end
def zro (z:Value) (N:Nat):List V:=(List.range N).map λi=>ofC (z.cells[i % z.cells.size]!)
theorem Zds (L:Lc) (z:Value) (N:Nat):gl L (zro z N)=((Array.range N).map (z.cells[· % z.cells.size]!)).toList:=by
 rw [Jt];simp [zro,XY,Function.comp_def,Z7E]
def byV (c:UInt8):V:=.i .u8 (c.toNat:Int)
inductive Kv where
 | p
 | l (n:Nat)
 | m
def Kv.v:Kv->Nat->V
 | .p,k=>.p k 0
 | .l n,k=>.l k n
 | .m,k=>.m k
theorem Kv.eq {L L':Lc} {k:Nat} (h:L' k=L k) (f:Kv):ga L' (f.v k)=ga L (f.v k):=by cases f<;>simp only [Kv.v,ga,h]
noncomputable def mkO (P:Program) (e:AE):Op->Option (Kv×O)
 | .alloc t => match (P.info? t).bind (·.zero) with
   | some z=>some (.p,.c t 0 (z.cells.toList.map ofC))
   | none=>none
 | .box t x => match evv e x with
   | some v=>some (.p,.c t 0 (vc v))
   | none=>none
 | .buildSlice t len ps => match parts e ps.toList, P.underlying t with
   | some ps, some (.slice el) => match P.info? el with
     | some ie => match ie.zero with
       | some z => bif Nat.blt 0 (len * ie.size) && Nat.ble (len * ie.size) 100000 && Nat.ble len maxLen then
          (match Z7G (λi=>some (i * ie.size,ie.size)) (zro z (len * ie.size)) ps with
          | some cs=>bif Nat.beq cs.length (len * ie.size) then some (.l len,.c el ie.size cs) else none
          | none=>none) else none
       | none=>none
     | none=>none
   | _,_=>none
 | .range t x => match evv e x with
   | some (.s z)=>bif isT P t then some (.p,.it z 0) else none
   | _=>none
 | .convert sr ds x => match evv e x, P.underlying ds with
   | some (.s z), some (.slice el) => match P.underlying el with
     | some (.int .u8)=>bif isT P sr && Nat.ble z.length 100000 then some (.l z.length,.ro (z.map byV)) else none
     | _=>none
   | _,_=>none
 | .makeMap t none=>some (.m,.mp [])
 | .makeSlice t x y => match P.underlying t, evv e x, evv e y with
   | some (.slice el), some (.i .i64 n), some (.i .i64 m) => match P.info? el with
     | some ie => match ie.zero with
       | some z=>bif decide (n=m/\0<=n/\n<=1000000) && Nat.blt 0 ie.size && Nat.ble ie.bytes 1000000 then some (.l n.toNat,.c el ie.size (zro z (n.toNat * ie.size))) else none
       | none=>none
     | none=>none
   | _,_,_=>none
 | .call ⟨.builtin .append, ⟨[x, y]⟩, ⟨[t, t']⟩⟩ => match P.underlying t, P.underlying t', evv e x, evv e y with
   | some (.slice el), some (.int kn), some (.c (.N)), some (.i .i64 n) => match P.info? el with
     | some ie => match ie.zero with
       | some z=>bif decide (0<n/\n<=1000000) && Nat.beq z.cells.size ie.size && Nat.blt 0 ie.size && Nat.ble ie.bytes 1000000 then some (.l n.toNat,.c el ie.size (zro z (n.toNat * z.cells.size))) else none
       | none=>none
     | none=>none
   | _,_,_,_=>none
 | _=>none
def Zg5 (L:Lc) (w:World) (k:Nat) (f:Kv) (o:O) (u:Value) (w':World):Prop:=∃ p:Nat×Nat,w.heap.size<=p.1/\Stp [] w w'/\Ob (upd L k p) w' k o/\u=ga (upd L k p) (f.v k)
noncomputable def nxA (e:AE) (s:S) (x:Operand):Option Rs:=match evv e x with
 | some (.p b 0) => match s.m.get b with
   | some (.it z p) => match z[p]? with
     | some c=>bif Nat.blt c.toNat 128 then some (some (.t [.b true,.i .i64 p,.i .i32 c.toNat]),Z7J s b (some (.it z (p+1))),[b]) else none
     | none=>some (some (.t [.b false]),s,[])
   | _=>none
 | _=>none
section
variable {P:Program} {n:Nat} {e:AE} {w:World} {d:Option Nat} {ty:TypeId} {pos:String} {af:Array Edge} {g:Option (Nat×Bool)} {L:Lc} {s:S}
theorem ZjG {k T z c b:Nat} {cs:List V} {f:Kv} {u:Value} {w':World} (rest:List Value) (hb:w.heap.size<=b) (hB:Blk w' b T (gl L cs++rest)) (hT:Stp [] w w') (fY:bl k cs=true) (hz:z≠0->cs.length+rest.length=c * z/\c<=maxLen) (h0:z=0->rest=[])
 (hu:u=ga (upd L k (b,c)) (f.v k)):Zg5 L w k f (.c T z cs) u w':=
 ⟨(b,c),hb,hT,⟨rest,by rw [ZS,Z4T (L:=L) Z1c cs fY];exact hB,λh=>by rw [ZS];exact hz h,h0⟩,hu⟩
theorem ZjH {src dst el:TypeId} {x:Operand} {z:Str} {E:Env} [hs:Und P src .string] [hd:Und P dst (.slice el)] [he:Und P el (.int .u8)] (hx:ev E x=some (str z)) (hl:z.length<=1000000) :
 OE P n ⟨d,.convert src dst x,ty,pos,af,g⟩ E w (λv w'=>(∃ c,v=.slice (some ⟨w.heap.size,0,none⟩) z.length c)/\w.heap.size<w'.heap.size/\(∀ i u,(z.map byV)[i]?=some u->w'.cell? ⟨w.heap.size,i,none⟩=some (ga L u))/\Stp [] w w'):=by
 refine Zv (v:=.slice (some ⟨w.heap.size,0,none⟩) z.length (grownCap w z.length 0 el)) (w':=Go.Lib.bytesWorld w el ⟨z.toArray⟩) (λa ha=>?_) ⟨⟨_,rfl⟩,by rw [Go.Lib.bytesWorld_size];omega,λi u hu=>?_,?_⟩;have h:=Go.Lib.run_convert_string_bytes (P:=P) w src dst el ⟨z.toArray⟩ hs.h hd.h he.h;simp only [Jy] at h;simp [execOp,ha.ev hx,h];rw [XV,XO] at hu;obtain ⟨c,hc,rfl⟩:=hu;have hi:=(Xt.1 hc).1;have hz:=(Xt.1 hc).2;have h:=Go.Lib.bytesWorld_cell w el ⟨z.toArray⟩ i (by rw [Jy];exact hi);rw [h];simp [byV,ga,hi,hz];refine ⟨rfl,rfl,rfl,?_,λb hb _=>Go.Lib.bytesWorld_at_old w el _ b hb⟩;rw [Go.Lib.bytesWorld_size];omega
theorem Zdt {op:Op} {f:Kv} {o:O} (k:Nat) (hG:Gl L) (hr:mkO P e op=some (f,o)) (hk:o.bd k=true):OE P n ⟨d,op,ty,pos,af,g⟩ (ge L e) w (Zg5 L w k f o):=by
 unfold mkO at hr;split at hr;split at hr;rename_i z h1;cases hr;have u1:Zer P _ z:=⟨h1⟩
 refine Z4.mono (λu w' hw=>?_);obtain ⟨b,rfl,hb,hB,hT⟩:=hw;exact ZjG (c:=0) [] hb (by rw [Z9T,XG];exact hB) hT hk (λh=>absurd rfl h) (λ_=>rfl) (by simp only [Kv.v,ga,ZS]);cases hr;split at hr;rename_i v h1;cases hr;refine (Zn (Zq hG h1)).mono (λu w' hw=>?_);obtain ⟨b,rfl,hb,hB,hT⟩:=hw;exact ZjG (c:=0) [] hb (by rw [<- ZjC,XG];exact hB) hT hk (λh=>absurd rfl h) (λ_=>rfl) (by simp only [Kv.v,ga,ZS]);cases hr;split at hr;rename_i vs el h1 h2;split at hr;rename_i ie h3;split at hr;rename_i z h4;obtain ⟨hc,hr⟩:=JY hr;simp only [Xd] at hc;obtain ⟨⟨c1,c2⟩,c3⟩:=hc;have c1:=Xg c1;have c2:=Xg c2;have c3:=Xg c3;split at hr;rename_i cs h5;obtain ⟨hl,hr⟩:=JY hr;have hl:=Xp hl;cases hr;have hf:=Z4V L _ _ _ _ h5;rw [Zds,X3] at hf;have hb:∀ w:World,(Instr.buildSlice _ _ (gp L vs).toArray).run P w=.ok (.slice (some ⟨w.heap.size,0,none⟩) _ _) (w.alloc (.cells (gl L cs).toArray el)):=λw=>
  run_buildSlice w _ el _ _ _ ie z h2 h3 h4 (by omega) (by omega) hf
 have:=Z1 (P:=P) (n:=n) (w:=w) (d:=d) (ty:=ty) (pos:=pos) (af:=af) (g:=g) (Z7H hG h1) hb;rw [X3] at this;refine this.mono (λu w' hw=>?_);obtain ⟨b,rfl,cO,hB,hT⟩:=hw;exact ZjG (c:=_) [] cO (by rw [XG];exact hB) hT hk (λ_=>⟨by rw [Xh];exact hl,c3⟩) (λ_=>rfl) (by simp only [Kv.v,ga,ZS]);cases hr;cases hr;cases hr;cases hr;split at hr;rename_i z h1;obtain ⟨ht,hr⟩:=JY hr;have:=Z2M ht;cases hr;refine (ZhV (Zq hG h1)).mono (λu w' hw=>?_);obtain ⟨b,rfl,hb,hI,hT⟩:=hw;exact ⟨(b,0),hb,hT,by show Itr _ _ _ _;rw [ZS];exact hI,by simp only [Kv.v,ga,ZS]⟩;cases hr;split at hr;rename_i z el h1 h2;split at hr;rename_i h3;obtain ⟨hc,hr⟩:=JY hr;simp only [Xd] at hc;have u1:=Z2M hc.1;have u2:Und P _ (.slice el):=⟨h2⟩
 have u3:Und P el (.int .u8):=⟨h3⟩
 cases hr;have hz:=Xg hc.2;refine (ZjH (L:=L) (Zq hG h1) (by omega)).mono (λu w' hw=>?_);obtain ⟨⟨c,rfl⟩,hlt,am,hT⟩:=hw;refine ⟨(w.heap.size,c),Xq _,hT,?_,by simp only [Kv.v,ga,ZS]⟩;show (upd L k (w.heap.size,c) k).1 < _/\_;rw [ZS];refine ⟨hlt,λi u hu=>?_⟩;have:=am i u hu;rw [XV,XO] at hu;obtain ⟨q,-,rfl⟩:=hu;exact this;cases hr;cases hr;cases hr;exact Zv (v:=.map (some w.heap.size)) (w':=w.alloc (.map #[] 0)) (λa ha=>by simp [execOp,run_makeMap]) ⟨(w.heap.size,0),Xq _,Stp.alloc _ _ _,⟨[],Yaz _,#[],0,by rw [ZS];exact heap_alloc_new w _,rfl,rfl⟩,by simp only [Kv.v,ga,ZS]⟩;split at hr;rename_i el nn m h1 h2 h3;split at hr;rename_i ie h4;split at hr;rename_i z h5;obtain ⟨hc,bB⟩:=JY hr;simp only [Xd] at hc;obtain ⟨⟨c1,c2⟩,c3⟩:=hc;obtain ⟨rfl,c4,c5⟩:=of_decide_eq_true c1;have c2:0<ie.size:=Xg c2;have c3:=Xg c3;cases bB;obtain ⟨j,rfl⟩:∃ j:Nat,nn=(j:Int):=⟨nn.toNat,by omega⟩
 have hj:j<=1000000:=by omega
 rw [Ybv] at hk ⊢;have qw:ie.bytes * j<=281474976710656:=Xk (YaV c3 hj) (by decide);obtain ⟨w',aJ,bF,lE⟩:=run_make_full (P:=P) w w.heap.size _ el ie z ie.size h1 h4 h5 rfl .i64 .i64 j qw (by simp only [maxLen];omega) (Xq _);refine Zv (v:=.slice (some ⟨w.heap.size,0,none⟩) j j) (w':=w') (λa ha=>by simp [execOp,ha.ev (Zq hG h2),ha.ev (Zq hG h3),ga,aJ]) ?_;rcases bF.2 with ⟨h,_⟩|⟨gb,cap,cur,h,cJ,hg,hn,hm,aV,jj⟩
 cases h;cases h;have hl:(gl L (zro z (j * ie.size))).length=j * ie.size:=by rw [Ja];simp [zro]
 refine ZjG (c:=j) [] (Xq _) (by
  rw [XG,Zds];show _=some _;rw [hg,<- X3 (xs:=cur),<- XR (l:=cur.toList) (i:=j * ie.size) (by rw [Yae,aV];exact Xq _),jj];rfl) (Stp.of_grown lE) hk (λ_=>⟨by rw [Xh,<- Ja L];exact hl,by simp only [maxLen];omega⟩) (λ_=>rfl) (by simp only [Kv.v,ga,ZS])
 cases hr;cases hr;cases hr;split at hr;rename_i el kn nn h1 h2 h3 h4;split at hr;rename_i ie h5;split at hr;rename_i z h6;obtain ⟨hc,hr⟩:=JY hr;simp only [Xd] at hc;obtain ⟨⟨⟨c1,c2⟩,c3⟩,c4⟩:=hc;obtain ⟨c5,c6⟩:=of_decide_eq_true c1;have c2:=Xp c2;have c3:0<ie.size:=Xg c3;have c4:=Xg c4;cases hr;obtain ⟨j,rfl⟩:∃ j:Nat,nn=(j:Int):=⟨nn.toNat,by omega⟩
 have hj:j<=1000000:=by omega
 rw [Ybv] at hk ⊢;have qw:j * ie.bytes<=281474976710656:=Xk (YaV hj c4) (by decide);have aJ:=Go.Lib.run_append_nil_zeros (P:=P) w _ _ ty el ie z .i64 kn h1 h2 h5 h6 j (by omega) c3 (by omega) qw;have jJ:=grownCap_ge w j 0 el;refine Zv (v:=.slice (some ⟨w.heap.size,0,none⟩) j (grownCap w j 0 el)) (w':=w.drew.alloc (.cells (Builtin.zeroCells z.cells j++Builtin.zeroCells z.cells (grownCap w j 0 el - j)) el)) (λa ha=>by
  have e1:=ha.ev (Zq hG h3);have e2:=ha.ev (Zq hG h4);simp only [ga] at e1 e2;simp [execOp,resolve,invoke,builtin,e1,e2,aJ]) ?_
 refine ZjG (c:=grownCap w j 0 el) (Builtin.zeroCells z.cells (grownCap w j 0 el - j)).toList (Xq _) (by
  rw [Zds];have:=heap_alloc_new w.drew (.cells (Builtin.zeroCells z.cells j++Builtin.zeroCells z.cells (grownCap w j 0 el - j)) el);show _=some _;rw [show w.heap.size=w.drew.heap.size from rfl,this];congr 2;apply Array.ext';simp [Builtin.zeroCells]) ((Stp.drew [] w).trans (Stp.alloc [] _ _)) hk (λ_=>⟨by
   have q1:(zro z (j * z.cells.size)).length=j * z.cells.size:=by simp [zro]
   have q2:(Builtin.zeroCells z.cells (grownCap w j 0 el - j)).toList.length=(grownCap w j 0 el - j) * z.cells.size:=by rw [Yae,size_zeroCells]
   rw [q1,q2,c2,<- Yb1];congr 1;omega,grownCap_le_maxLen w j 0 el (by simp only [maxLen];omega)⟩) (λh0=>by omega) (by simp only [Kv.v,ga,ZS])
 cases hr;cases hr;cases hr;cases hr
theorem Zv5 {x:Operand} {r:Rs} (h:Rel L s w) (hr:nxA e s x=some r):OE P n ⟨d,.next x true,ty,pos,af,g⟩ (ge L e) w (Po L s w r):=by
 unfold nxA at hr;split at hr;rename_i b h1;split at hr;rename_i z p h2;have hI:Itr w (L b).1 z p:=h.ob b _ h2;split at hr;rename_i c h3;obtain ⟨ha,hr⟩:=JY hr;cases hr;have hp:=(Xt.1 h3).1;have hc:z[p]=c:=(Xt.1 h3).2;have hd:=ZeQ hp (by rw [hc];exact Xg ha);refine (Zlj (Zq h.g h1) hI hp).mono (λu w' hw=>?_);obtain ⟨rfl,hI',hS⟩:=hw;rw [hd] at hI';obtain ⟨a1,a2⟩:=h.set (o':=.it z (p+1)) h2 hS hI' rfl;exact ⟨L,a2,a1,λv' hv=>by cases hv;simp only [ga,gl,hd,hc]⟩;rename_i h3;cases hr;refine (Zcs (Zq h.g h1) hI (by simpa using h3)).mono (λu w' hw=>?_);obtain ⟨rfl,rfl⟩:=hw;exact ⟨L,Nx.refl _ _ _,h,λv' hv=>by cases hv;rfl⟩;cases hr;cases hr
end
noncomputable def ZmV (e:AE) (s:S) (y:Operand) (k:Nat):Option (Nat×List V):=match evv e y with
 | some (.l b m) => match ldc s b with
   | some cs=>bif Nat.ble (m * k) cs.length then some (m,cs.take (m * k)) else none
   | none=>none
 | some (.c (.N))=>some (0,[])
 | _=>none
def ZbK (s:S) (b:Nat):S:=Z7J s b none
noncomputable def Zv6 (s:S) (el k:Nat) (xv:V) (m:Nat) (news:List V):Option Rs:=match xv with
 | .c (.N) => match m with
   | 0=>some (some xv,s,[])
   | _ => match Z4X s (.c el k news) with
     | some s'=>some (some (.l s.n m),s',[])
     | none=>none
 | .l b n => match s.m.get b with
   | some (.c T z cs) => bif Nat.beq T el && Nat.beq z k && Nat.ble (n * k) cs.length && Nat.ble (n + m) 1000000 then (match m with
     | 0=>some (some xv,s,[])
     | _ => match Z4X (ZbK s b) (.c el k (cs.take (n * k) ++ news)) with
       | some s'=>some (some (.l s.n (n+m)),s',[b])
       | none=>none) else none
   | _=>none
 | _=>none
noncomputable def apA (P:Program) (e:AE) (s:S):Op->Option Rs
 | .call ⟨.builtin .append, ⟨[x, y]⟩, ⟨[t, t']⟩⟩ => match P.underlying t with
   | some (.slice el) => match P.info? el with
     | some ie => match ie.zero with
       | some z => bif Nat.beq t t' && Nat.beq z.cells.size ie.size && Nat.blt 0 ie.size && Nat.ble ie.bytes 1000000 then (match evv e x, ZmV e s y ie.size with
         | some xv,some (m,news)=>bif news.all oc && Nat.ble m 1000000 then Zv6 s el ie.size xv m news else none
         | _,_=>none) else none
       | none=>none
     | none=>none
   | _=>none
 | .call ⟨.builtin .copy, ⟨[x, y]⟩, ⟨[t, _]⟩⟩ => match P.underlying t, evv e x with
   | some (.slice el), some (.l b n) => match (P.info? el).map (·.size) with
     | some k => match s.m.get b, ZmV e s y k with
       | some (.c T z cs),some (m,news)=>bif Nat.ble m n && news.all oc && bl s.n news && Nat.ble news.length cs.length then some (some (.i .i64 m),Z7J s b (some (.c T z (news++cs.drop news.length))),[b]) else none
       | _,_=>none
     | none=>none
   | _,_=>none
 | _=>none
section
variable {P:Program} {n:Nat} {e:AE} {w:World} {d:Option Nat} {ty:TypeId} {pos:String} {af:Array Edge} {g:Option (Nat×Bool)} {L:Lc} {s:S}
theorem Zey {E:Env} {x y:Operand} {t el m c j:Nat} {ie:TypeInfo} {z v:Value} {a:Addr} {xs news:List Value} (ht:P.underlying t=some (.slice el)) (hi:P.info? el=some ie) (hz:ie.zero=some z) (dC:z.cells.size=ie.size) (aZ:0<ie.size) (nT:ie.bytes<=1000000)
 (hx:ev E x=some v) (hy:ev E y=some (.slice (some a) m c)) (bF:w.ownsRow 0 el ie.size v j xs) (hl:news.length=m * ie.size) (cA:∀ j u,news[j]?=some u->w.cell? (a.add j)=some u) (h1:∀ u∈news,u.oneCell'=true) (hm:0<m) (vK:j+m<=2000000) :
 OE P n ⟨d,.call { callee:=.builtin .append,args:=#[x,y],argTypes:=#[t,t] },ty,pos,af,g⟩ E w (λv' w'=>∃ q cap rest,v'=.slice (some ⟨q,0,none⟩) (j+m) cap/\Blk w' q el (xs++news++rest)/\(xs++news).length+rest.length=cap * ie.size/\cap<=maxLen/\Stp (ob v) w w'/\(q∈ob v\/w.heap.size<=q)):=by
 have cW:(j+m) * ie.bytes<=140737488355328:=Xk (YaV vK nT) (by omega);have jl:j+m<=maxLen:=by simp only [maxLen];omega
 obtain ⟨v',w',aJ,h2,h3,h4⟩:=run_append_own (P:=P) w 0 t ty el ie z ie.size ie.bytes ht hi hz rfl rfl dC aZ v j xs bF a m c news hl cA h1 jl cW (Xu _);have ab:=Z4j (P:=P) ht hi hz rfl rfl bF hl cA h1 jl cW aJ;have hS:Stp (ob v) w w':=by rw [<- Zc0];exact Stp.of_grown h3
 refine Zv (v:=v') (w':=w') (λa ha=>by simp [execOp,resolve,invoke,builtin,ha.ev hx,ha.ev hy,aJ]) ?_;rcases h2.2 with ⟨rfl,h0⟩|⟨q,cap,cur,rfl,hb,hg,bN,bC,aV,ic⟩
 omega;refine ⟨q,cap,cur.toList.drop ((j+m) * ie.size),rfl,?_,?_,bC,hS,ab q (by simp [ob])⟩;rw [<- ic,XN];exact hg;rw [<- aV,<- ic,Xz,Yah,Yae];omega
theorem Zez {E:Env} {x y:Operand} {t el j c c':Nat} {p q:Option Addr} [ht:Und P t (.slice el)] {k:Nat} [hk:Siz P el k] (hx:ev E x=some (.slice p j c)) (hy:ev E y=some (.slice q 0 c')) (hj:j<=c) :
 OE P n ⟨d,.call { callee:=.builtin .append,args:=#[x,y],argTypes:=#[t,t] },ty,pos,af,g⟩ E w (λv w'=>v=.slice p j c/\w'=w):=by
 refine Zv (v:=.slice p j c) (w':=w) (λa ha=>?_) ⟨rfl,rfl⟩;have h1:(Builtin.firstCells k 0 (.slice q 0 c')).run P w=.ok #[] w:=by
  cases q with
  | none=>simp [Builtin.firstCells]
  | some a=>have:=run_loadCells_list (P:=P) (w:=w) a [] (by simp);simpa [Builtin.firstCells] using this
 have h2:(Builtin.append_ #[t,t] ty #[.slice p j c,.slice q 0 c']).run P w=.ok (.slice p j c) w:=by
  cases p<;>simp [Builtin.append_,run_underlying ht.h,Siz.run,Builtin.lenOf,h1,hj,storeCells]
 simp [execOp,resolve,invoke,builtin,ha.ev hx,ha.ev hy,h2]
theorem ZjI {E:Env} {x y:Operand} {t t' T el k b m N c c':Nat} {p:Option Addr} {news cs:List Value} [ht:Und P t (.slice el)] [hk:Siz P el k] (hx:ev E x=some (.slice (some ⟨b,0,none⟩) N c)) (hy:ev E y=some (.slice p m c')) (hm:m<=N)
 (lP:(Builtin.firstCells k m (.slice p m c')).run P w=.ok news.toArray w) (hB:Blk w b T cs) (hl:news.length<=cs.length) (aB:∀ u∈news,u.oneCell'=true) :
 OE P n ⟨d,.call { callee:=.builtin .copy,args:=#[x,y],argTypes:=#[t,t'] },ty,pos,af,g⟩ E w (λv w'=>v=.I m/\Blk w' b T (news++cs.drop news.length)/\Stp [b] w w'):=by
 have ar:=run_storeCells_at (P:=P) b 0 T news 0 cs.toArray w hB (by simpa using hl) aB;simp only [Ybs,XK,List.take_zero,XW] at ar;refine Zv (v:=goInt m) (w':=w.setRow b (news++cs.drop news.length).toArray) (λa ha=>?_) ⟨rfl,setRow_heap w b cs.toArray _ T (0,0) hB,Z0I _ _ _⟩;have hr:(Builtin.copy_ #[t,t'] ty #[.slice (some ⟨b,0,none⟩) N c,.slice p m c']).run P w=.ok (goInt m) (w.setRow b (news++cs.drop news.length).toArray):=by
  simp [Builtin.copy_,run_underlying ht.h,Builtin.lenOf,Siz.run,lP,ar,Yap hm]
 generalize w.setRow b (news++cs.drop news.length).toArray=W' at hr ⊢;simp [execOp,resolve,invoke,builtin,ha.ev hx,ha.ev hy,hr]
theorem ZjJ {y:Operand} {k m:Nat} {news:List V} (h:Rel L s w) (hr:ZmV e s y k=some (m,news)):∃ p c,ev (ge L e) y=some (.slice p m c)/\news.length=m * k/\(0<m->∃ b,p=some ⟨b,0,none⟩/\∀ j u,(gl L news)[j]?=some u->w.cell? ((⟨b,0,none⟩:Addr).add j)=some u):=by
 unfold ZmV at hr;split at hr;rename_i b' m' h1;split at hr;rename_i cs h2;have dF:=JY hr;clear hr;obtain ⟨hc,hr⟩:=dF;cases hr;have c1:=Xg hc;refine ⟨_,_,Zq h.g h1,by rw [Xz];omega,λ_=>⟨_,rfl,λj u hu=>?_⟩⟩;rw [Z7F,XO] at hu;obtain ⟨q,hq,rfl⟩:=hu;have hj:=(Xt.1 hq).1;rw [Xz] at hj;rw [List.getElem?_take_of_lt (by omega)] at hq;rw [Addr.add_lit,XK];exact Z3u h h2 hq;cases hr;rename_i h1;cases hr;exact ⟨_,_,Zq h.g h1,by simp,λh=>absurd h (YbS 0)⟩;cases hr
theorem Z9V (L:Lc) (a b:List V):gl L (a++b)=gl L a++gl L b:=by rw [Jt,Jt,Jt,XH]
theorem Z6w {o:O} {s':S} (hn:Z4X s o=some s'):o.bd s.n=true:=(JY hn).1
theorem Rel.grow {s':S} {w':World} {b:Nat} {o o':O} {p:Nat×Nat} (h:Rel L s w) (hb:s.m.get b=some o) (hn:Z4X (ZbK s b) o'=some s') (hS:Stp [(L b).1] w w') (hp:p.1=(L b).1\/w.heap.size<=p.1) (ho:Ob (upd L s.n p) w' s.n o') :
 Rel (upd L s.n p) s' w'/\Nx s s' L (upd L s.n p) w w' [b]:=by
 have iE:=(h.bn b o hb).1;have hk:=h.kill iE;have jc:∀ k,(ZbK s b).m.get k=if k=b then none else s.m.get k:=λk=>Tr.get_put _ _ _ _
 have aX:∀ k o1,(ZbK s b).m.get k=some o1->(L k).1≠(L b).1/\(L k).1<w.heap.size:=λk o1 bp=>by
  have hlt:=(hk.ob k o1 bp).lt;rw [jc] at bp;by_cases e:k=b;rw [if_pos e] at bp;cases bp;rw [if_neg e] at bp;exact ⟨λhe=>e (h.inj k b (by rw [bp];rfl) (by rw [hb];rfl) he),hlt⟩
 have jS:Rel L (ZbK s b) w':=⟨hk.g,λk o1 bp=>(hk.ob k o1 bp).ext hS (by simpa using (aX k o1 bp).1),hk.bn,hk.inj,hk.n64⟩
 obtain ⟨a1,a2⟩:=jS.new' hn (λk o1 bp he=>by
  obtain ⟨q1,q2⟩:=aX k o1 bp;rcases hp with hp|hp
  exact q1 (he.trans hp);omega) ho
 refine ⟨a1,⟨by show s.n<=_;rw [a2];exact YbP _,Z1c,λk h3 h4=>?_,hS.mono (λx hx=>?_)⟩⟩;have:k=s.n:=by rw [a2] at h4;have:k<s.n+1:=h4;omega
 subst this;rw [ZS];rcases hp with hp|hp
 exact .inr (JJ.2 ⟨b,by simp,iE,hp.symm⟩);exact .inl hp;simp only [Xn] at hx;exact JJ.2 ⟨b,by simp,iE,hx.symm⟩
theorem Po.same {v:V} {u:Value} (h:Rel L s w) (hu:u=ga L v):Po L s w (some v,s,[]) u w:=⟨L,Nx.refl _ _ _,h,λv' hv=>by cases hv;exact hu⟩
theorem Zv7 {op:Op} {r:Rs} (h:Rel L s w) (hr:apA P e s op=some r):OE P n ⟨d,op,ty,pos,af,g⟩ (ge L e) w (Po L s w r):=by
 unfold apA at hr;split at hr;rename_i x y t t';split at hr;rename_i el h4;split at hr;rename_i ie h5;split at hr;rename_i z h6;have dF:=JY hr;clear hr;obtain ⟨hc,hr⟩:=dF;simp only [Xd] at hc;obtain ⟨⟨⟨c1,c2⟩,c3⟩,c4⟩:=hc;obtain rfl:t=t':=Xp c1;have c2:=Xp c2;have c3:0<ie.size:=Xg c3;have c4:=Xg c4;have u1:Und P t (.slice el):=⟨h4⟩
 have u2:Siz P el ie.size:=⟨by rw [h5];rfl⟩
 split at hr;rename_i xv m news h7 h8;have dF:=JY hr;clear hr;obtain ⟨hd,hr⟩:=dF;simp only [Xd] at hd;have d2:=Xg hd.2;obtain ⟨yp,yc,s1,s2,s4⟩:=ZjJ h h8;have aB:∀ u∈gl L news,u.oneCell'=true:=λu hu=>by
  rw [Jt] at hu;obtain ⟨q,hq,rfl⟩:=Xw.1 hu;exact Zdr (Xx.1 hd.1 q hq)
 have hx:=Zq h.g h7;unfold Zv6 at hr;split at hr;split at hr;cases hr;refine (Zez hx s1 (Xu _)).mono (λu w' hw=>?_);obtain ⟨rfl,rfl⟩:=hw;exact Po.same h rfl;rename_i hm;have s3:0<m:=Nat.pos_of_ne_zero hm;obtain ⟨yb,rfl,s5⟩:=s4 s3;split at hr;rename_i s' hn;cases hr;refine (Zey (j:=0) (xs:=[]) h4 h5 h6 c2 c3 c4 hx s1 (World.ownsRow_nil w 0 el ie.size) (by rw [Ja];exact s2) s5 aB s3 (by omega)).mono (λu w' hw=>?_);obtain ⟨q,cap,rest,rfl,hB,hL,bC,hS,hq⟩:=hw;have fY:=Z6w hn;obtain ⟨a1,a2,a3⟩:=h.new (p:=(q,cap)) hn (by simpa [ob,ga] using hS) (hq.elim (λhq=>by simp [ob,ga] at hq) id) ⟨rest,by rw [ZS,Z4T Z1c news fY];simpa using hB,λ_=>by rw [ZS];refine ⟨?_,bC⟩;rw [<- Ja L news];simpa using hL,λh0=>by omega⟩;exact ⟨_,a2,a1,λv' hv=>by cases hv;simp only [ga,ZS,XK]⟩;cases hr;rename_i bx nn;split at hr;rename_i T z' cs h9;have dF:=JY hr;clear hr;obtain ⟨hf,hr⟩:=dF;simp only [Xd] at hf;obtain ⟨⟨⟨f1,f2⟩,f3⟩,f4⟩:=hf;obtain rfl:T=el:=Xp f1;obtain rfl:z'=ie.size:=Xp f2;have f3:=Xg f3;have f4:=Xg f4;obtain ⟨rest,hB,ac,-⟩:=h.ob bx _ h9;obtain ⟨r1,r2⟩:=ac (by omega);have bN:nn<=(L bx).2:=Nat.le_of_mul_le_mul_right (by omega) c3;split at hr;cases hr;refine (Zez hx s1 bN).mono (λu w' hw=>?_);obtain ⟨rfl,rfl⟩:=hw;exact Po.same h rfl;rename_i hm;have s3:0<m:=Nat.pos_of_ne_zero hm;obtain ⟨yb,rfl,s5⟩:=s4 s3;split at hr;rename_i s' hn;cases hr;have bF:w.ownsRow 0 T ie.size (.slice (some ⟨(L bx).1,0,none⟩) nn (L bx).2) nn (gl L (cs.take (nn * ie.size))):=⟨by rw [Ja,Xz];omega,.inr ⟨(L bx).1,(L bx).2,(gl L cs++rest).toArray,rfl,Xu _,hB,bN,r2,by rw [Yan,Xb,Ja];exact r1,by
  rw [List.toList_toArray,Yai (by rw [Ja];omega),Jt,Jt,List.map_take]⟩⟩
 refine (Zey h4 h5 h6 c2 c3 c4 hx s1 bF (by rw [Ja];exact s2) s5 aB s3 (by omega)).mono (λu w' hw=>?_);obtain ⟨q,cap,rest',rfl,kz,hL,bC,hS,hq⟩:=hw;have fY:=Z6w hn;obtain ⟨a1,a2⟩:=h.grow (p:=(q,cap)) h9 hn (by simpa [ob,ga] using hS) (by simpa [ob,ga] using hq) ⟨rest',by
  rw [ZS,Z4T (L:=L) (n:=s.n) Z1c _ fY,Z9V];exact kz,λ_=>by rw [ZS];refine ⟨?_,bC⟩;rw [<- Ja L (_++news),Z9V];exact hL,λh0=>by omega⟩
 exact ⟨_,a2,a1,λv' hv=>by cases hv;simp only [ga,ZS]⟩;cases hr;cases hr;cases hr;cases hr;cases hr;cases hr;cases hr;split at hr;rename_i el b N h1 h2;split at hr;rename_i k h3;split at hr;rename_i T z cs m news h4 h5;have dF:=JY hr;clear hr;obtain ⟨hc,hr⟩:=dF;cases hr;simp only [Xd] at hc;obtain ⟨⟨⟨c1,c2⟩,c3⟩,c4⟩:=hc;have c1:=Xg c1;have c4:=Xg c4;have u1:Und P _ (.slice el):=⟨h1⟩
 have u2:Siz P el k:=⟨h3⟩
 obtain ⟨yp,yc,s1,s2,s4⟩:=ZjJ h h5;obtain ⟨rest,hB,ac,kB⟩:=h.ob b _ h4;have lP:(Builtin.firstCells k m (.slice yp m yc)).run P w=.ok (gl L news).toArray w:=by
  rcases Nat.eq_zero_or_pos m with rfl|hm
  . have:news=[]:=XQ.1 (by omega)
    subst this;cases yp with
    | none=>simp [Builtin.firstCells,gl]
    | some a=>have:=run_loadCells_list (P:=P) (w:=w) a [] (by simp);simpa [Builtin.firstCells,gl] using this
  obtain ⟨yb,rfl,s5⟩:=s4 hm;have:=run_loadCells_list (P:=P) (w:=w) ⟨yb,0,none⟩ (gl L news) s5;rw [Ja,s2] at this;simpa [Builtin.firstCells] using this
 refine (ZjI (Zq h.g h2) s1 c1 lP hB (by rw [Ja,Xb,Ja];omega) (λu hu=>by
  rw [Jt] at hu;obtain ⟨q,hq,rfl⟩:=Xw.1 hu;exact Zdr (Xx.1 c2 q hq))).mono (λu w' hw=>?_)
 obtain ⟨rfl,kz,hS⟩:=hw;have eV:=(Z24 _ _).1 (show bl s.n cs=true from (h.bn b _ h4).2);have key:gl L news++(gl L cs++rest).drop (gl L news).length=gl L (news++cs.drop news.length)++rest:=by
  rw [Ja,List.drop_append_of_le_length (by rw [Ja];omega)];simp only [Jt,XH,List.map_drop,XI]
 rw [key] at kz;obtain ⟨a1,a2⟩:=h.set (o':=.c T z (news++cs.drop news.length)) h4 hS ⟨rest,kz,λhz=>by
  have:=ac hz;refine ⟨?_,this.2⟩;rw [<- this.1];simp only [Xb,Yah];omega,kB⟩ ((Z24 _ _).2 λq hq=>(Xe.1 hq).elim ((Z24 _ _).1 c3 q) (λhq=>eV q (Yax hq)))
 exact ⟨L,a2,a1,λv hv=>by cases hv;rfl⟩;cases hr;cases hr;cases hr;cases hr
end
noncomputable def inA (P:Program) [KD P] (e:AE) (s:S) (t:Nat) (x k v:Operand):Option Rs:=match evv e x,evv e k,evv e v,P.underlying t with
 | some (.m b), some kv, some v, some (.map kt et) => match s.m.get b, kf (KD.l (P := P)) kt with
   | some (.mp l), some K => match K.dec kv with
     | some a => match Zdq K a l with
       | some []=>bif bl s.n [kv,v] then some (none,Z7J s b (some (.mp (l++[(kv,v)]))),[b]) else none
       | _=>none
     | none=>none
   | _,_=>none
 | _,_,_,_=>none
noncomputable def efA (P:Program) [KD P] (e:AE) (s:S):Op->Option Rs
 | .store t x y=>stA P e s t x y
 | .next x true=>nxA e s x
 | .insert t x k v=>inA P e s t x k v
 | .mapUpdate t x k v=>inA P e s t x k v
 | op => match mkO P e op with
   | some (f, o) => match Z4X s o with
     | some s'=>some (some (f.v s.n),s',[])
     | none=>none
   | none=>apA P e s op
section
variable {P:Program} [KD P] {n:Nat} {e:AE} {w:World} {d:Option Nat} {ty:TypeId} {pos:String} {af:Array Edge} {g:Option (Nat×Bool)} {L:Lc} {s:S}
theorem Znj {t:Nat} {x k v:Operand} {r:Rs} (op:Op) (ho:op=.insert t x k v\/op=.mapUpdate t x k v) (h:Rel L s w) (hr:inA P e s t x k v=some r):OE P n ⟨d,op,ty,pos,af,g⟩ (ge L e) w (Po L s w r):=by
 unfold inA at hr;split at hr;rename_i b kv u kt et h1 h2 h3 h4;split at hr;rename_i l K h5 h6;obtain rfl:=ZjF h6;split at hr;rename_i a h7;split at hr;rename_i h8;have dF:=JY hr;clear hr;obtain ⟨hb,hr⟩:=dF;cases hr;obtain ⟨l',q1,es,c,q2,q3,q4⟩:Zdp L w (L b).1 l:=h.ob b _ h5;obtain ⟨m1,m2⟩:=Z4W h8;have m1':∀ p∈l',∃ b,K.dec p.1=some b:=λp hp=>m1 p (q1.mem_iff.1 hp);obtain ⟨k1,k2⟩:=Z7I (K:=K) L m1';have hM:Jf K.ek.enc w (L b).1 ((l'.filterMap (mfl K)).map λq=>(q.1,ga L q.2)):=⟨es,c,q2,by rw [q3,k1,XY];rfl,by rw [q4,k2,XY];rfl⟩
 have hn:∀ p∈(l'.filterMap (mfl K)).map (λq=>(q.1,ga L q.2)),¬ p.1=a:=λp hp he=>by
  obtain ⟨q,hq,rfl⟩:=Xw.1 hp;have eP:=((q1.filterMap (mfl K)).mem_iff).1 hq;have:q.2∈(((l.filterMap (mfl K)).filter λq=>@decide (q.1=a) (K.de q.1 a)).map (·.2)):=Xw.2 ⟨q,Yak.2 ⟨eP,by simpa using he⟩,rfl⟩;rw [<- m2] at this;cases this
 have u1:Und P t (.map K.kt et):=⟨h4⟩
 have hk:=Zq h.g h2;rw [K.ok L kv a h7] at hk;have fin:∀ (u':Value) (w':World),Jf K.ek.enc w' (L b).1 ((l'.filterMap (mfl K)).map (λq=>(q.1,ga L q.2))++[(a,ga L u)])/\Stp [(L b).1] w w'->Po L s w (none,Z7J s b (some (.mp (l++[(kv,u)]))),[b]) u' w':=by
  rintro u' w' ⟨⟨es',c',p2,p3,p4⟩,hS⟩;obtain ⟨a1,a2⟩:=h.set (o':=.mp (l++[(kv,u)])) h5 hS ⟨l'++[(kv,u)],q1.append_right _,es',c',p2,by
   rw [p3,XH,XH,XY,k1,XD,XD,K.ok L kv a h7];rfl,by
   rw [p4,XH,XH,XY,k2];rfl⟩ (by
    show ((l++[(kv,u)]).all λp=>bl s.n [p.1,p.2])=true;rw [List.all_append,show (l.all λp=>bl s.n [p.1,p.2])=true from (h.bn b _ h5).2];simpa using hb)
  exact ⟨L,a2,a1,λv hv=>by cases hv⟩
 rcases ho with rfl|rfl
 exact (@Zm P n (ge L e) w d ty pos af g t K.kt et _ K.κ K.de _ _ _ u1 K.ek _ a _ (Zq h.g h1) hk (Zq h.g h3) hM hn).mono fin;exact (@Z0J P n (ge L e) w d ty pos af g t K.kt et _ K.κ K.de _ _ _ u1 K.ek _ a _ (Zq h.g h1) hk (Zq h.g h3) hM hn).mono fin;cases hr;cases hr;cases hr;cases hr
theorem Zv8 {op:Op} {r:Rs} (h:Rel L s w) (hr:efA P e s op=some r):OE P n ⟨d,op,ty,pos,af,g⟩ (ge L e) w (Po L s w r):=by
 unfold efA at hr;split at hr;exact ZrC h hr;exact Zv5 h hr;exact Znj _ (.inl rfl) h hr;exact Znj _ (.inr rfl) h hr;split at hr;rename_i f o h1;split at hr;rename_i s' hn;cases hr;refine (Zdt s.n h.g h1 (Z6w hn)).mono (λu w' hw=>?_);obtain ⟨p,hp,hT,ho,hu⟩:=hw;obtain ⟨a1,a2,a3⟩:=h.new hn hT hp ho;exact ⟨_,a2,a1,λv hv=>by cases hv;exact hu⟩;cases hr;exact Zv7 h hr
end
abbrev Cf:=Nat->List V->S->Option (V×S×List Nat)
noncomputable def cal (e:AE):Op->Option (Nat×List V)
 | .call c => match c.callee with
   | .value f => match evv e f, evs e c.args.toList with
     | some (.f g x y),some l=>some (g,x++l++y)
     | _,_=>none
   | _=>none
 | _=>none
def Z4h (P:Program) (call:Cf):Prop:=∀ f args s v s' ws,call f args s=some (v,s',ws)->bl s.n args=true->∀ L w,Rel L s w->Enters P f/\Calls P f (gl L args).toArray w (Ret λu w'=>∃ L',Nx s s' L L' w w' ws/\Rel L' s' w'/\u=ga L' v)
noncomputable def opV (P:Program) [KD P] (call:Cf) (e:AE) (s:S) (op:Op):Option Rs:=match pur P e op with
 | some v=>some (some v,s,[])
 | none => match rd P e s op with
   | some (v,_)=>some (some v,s,[])
   | none => match efA P e s op with
     | some r=>some r
     | none => match cal e op with
       | some (f, args) => bif bl s.n args then (match call f args s with
         | some (v,s',ws)=>some (some v,s',ws)
         | none=>none) else none
       | none=>none
section
variable {P:Program} [KD P] {n:Nat} {e:AE} {w:World} {d:Option Nat} {ty:TypeId} {pos:String} {af:Array Edge} {g:Option (Nat×Bool)} {L:Lc} {s:S} {call:Cf}
theorem ZrD {P:Program} {op:Op} {f:Nat} {args:List V} {v:V} {s':S} {ws:List Nat} (hC:Z4h P call) (h:Rel L s w) (hc:cal e op=some (f,args)) (hb:bl s.n args=true) (hr:call f args s=some (v,s',ws)) :
 OE P n ⟨d,op,ty,pos,af,g⟩ (ge L e) w (Po L s w (some v,s',ws)):=by
 unfold cal at hc;split at hc;rename_i c;obtain ⟨cl,xs,ts⟩:=c;split at hc;rename_i fo h1
 try dsimp only at h1
 subst h1;split at hc;rename_i g' x y l h2 h3;simp only [Xl,XM] at hc;obtain ⟨rfl,rfl⟩:=hc;obtain ⟨hE,hk⟩:=hC _ _ _ _ _ _ hr hb L w h;have hf:=Zq h.g h2;refine ⟨λa ha Q=>?_⟩;have hv:=Z9U h.g h3 a ha;have he:(execOp a.eval ⟨d,.call { callee:=.value fo,args:=xs,argTypes:=ts },ty,pos,af,g⟩).run P w=.ok (.enter g' (gl L (x++l++y)).toArray) w:=by
  simp only [execOp,resolve,ha.ev hf,ga,Deferred.ofValue,hv];simp only [invoke];rw [Z9V,Z9V];have:=hE ((gl L x).toArray++(gl L l).toArray++(gl L y).toArray) w;simpa using this
 unfold Oper.wp;rw [he];simp only [Oper.upon];refine hk.mono ?_;rintro r w' ⟨u,rfl,L',h4,h5,h6⟩;exact ⟨u,rfl,L',h4,h5,λv' bt=>by cases bt;exact h6⟩;cases hc;cases hc;cases hc
theorem ZjK {op:Op} {r:Rs} (hC:Z4h P call) (h:Rel L s w) (hr:opV P call e s op=some r):OE P n ⟨d,op,ty,pos,af,g⟩ (ge L e) w (Po L s w r):=by
 unfold opV at hr;split at hr;rename_i v h1;cases hr;exact (Zhn (ZjE h.g h1)).mono λu w' ⟨hu,hw⟩=>by subst hw;exact ⟨L,Nx.refl _ _ _,h,λv' hv=>by cases hv;exact hu⟩
 split at hr;rename_i v b h1;cases hr;exact (Zhn (Zni h h1 rfl)).mono λu w' ⟨hu,hw⟩=>by subst hw;exact ⟨L,Nx.refl _ _ _,h,λv' hv=>by cases hv;exact hu⟩
 split at hr;rename_i r' h1;cases hr;exact Zv8 h h1;split at hr;rename_i f args h1;obtain ⟨hb,hr⟩:=JY hr;split at hr;rename_i v s' ws h2;cases hr;exact ZrD hC h h1 hb h2;cases hr;cases hr
def EB (n:Nat) (e:AE):Prop:=∀ t v,lk e t=some v->bd n v=true
theorem EB.le {m k:Nat} {e:AE} (h:EB m e) (hk:m<=k):EB k e:=λt v hv=>bd_le hk v (h t v hv)
def Z5D (n:Nat) (d:Option Nat) (r:Rs) (e:AE):Option (AE×S×List Nat):=match d,r.1 with
 | some d,some v=>bif bd r.2.1.n v && Nat.blt d n then some (pt d v e,r.2.1,r.2.2) else none
 | none,_=>some (e,r.2.1,r.2.2)
 | some _,none=>none
def Aft (n:Nat) (L:Lc) (e:AE) (u:Value) (L1:Lc) (e1:AE):Option Nat->Prop
 | some d=>Nat.blt d n=true/\∀ t v,Eng.look (ge L1 e1) t=some v->Eng.look ((d,u) :: ge L e) t=some v
 | none=>∀ t v,Eng.look (ge L1 e1) t=some v->Eng.look (ge L e) t=some v
theorem Z20 {r:Rs} {e1:AE} {s1:S} {ws:List Nat} {u:Value} {w':World} (hE:EB s.n e) (hp:Z5D n d r e=some (e1,s1,ws)) (hP:Po L s w r u w') :
 ∃ L1,Nx s s1 L L1 w w' ws/\Rel L1 s1 w'/\EB s1.n e1/\Aft n L e u L1 e1 d:=by
 obtain ⟨rv,s',ws'⟩:=r;obtain ⟨L1,hN,hR,hu⟩:=hP;have old:∀ t x,lk e t=some x->ga L1 x=ga L x:=λt x hx=>Z64 hN.ag x (hE t x hx);unfold Z5D at hp;cases d with
 | none=>
   simp only [Xl,XM] at hp;obtain ⟨rfl,rfl,rfl⟩:=hp;refine ⟨L1,hN,hR,hE.le hN.le,λt v hv=>?_⟩;rw [Z0E,XO] at hv ⊢;obtain ⟨x,hx,rfl⟩:=hv;exact ⟨x,hx,(old t x hx).symm⟩
 | some dd=>
   cases rv with
   | none=>cases hp
   | some v=>
     simp only at hp;obtain ⟨hc,hp⟩:=JY hp;simp only [Xl,XM] at hp;obtain ⟨rfl,rfl,rfl⟩:=hp;simp only [Xd] at hc;refine ⟨L1,hN,hR,λt x hx=>?_,hc.2,λt x hx=>?_⟩;rw [Z4U] at hx;by_cases e1:dd=t;rw [if_pos e1] at hx;cases hx;exact hc.1;rw [if_neg e1] at hx;exact bd_le hN.le x (hE t x hx);rw [Z0E,Z4U] at hx;rw [Ju];by_cases e1:dd=t;rw [if_pos e1] at hx ⊢;cases hx;rw [hu v rfl];rw [if_neg e1] at hx ⊢;rw [Z0E];rw [XO] at hx ⊢;obtain ⟨y,hy,rfl⟩:=hx;exact ⟨y,hy,(old t y hy).symm⟩
theorem WL.weak {P:Program} {ops:Array Oper} {Q:Exit->Act->World->Prop} {l:List Oper} {e e':Env} (hs:∀ t v,Eng.look e' t=some v->Eng.look e t=some v) (h:WL P n ops Q l e' w):WL P n ops Q l e w:=⟨λa ha=>h.h a (ha.weak hs)⟩
noncomputable def yl (ops:Array Oper) (e:AE) (j:Nat):Option V:=((ops[j]?).bind (·.dst)).bind (lk e)
theorem Znk (L:Lc) (ops:Array Oper) (e:AE) (j:Nat):yld ops (ge L e) j=(yl ops e j).map (ga L):=by
 unfold yld yl;cases (ops[j]?).bind (·.dst) with
 | none=>rfl
 | some d=>exact Z0E L e d
def ZvN:V->Bool->Bool
 | .b c,b=>c != b
 | .c v,b=>Zno v b
 | _,_=>false
def okC:V->Bool->Bool
 | .b c,b=>c == b
 | _,_=>false
noncomputable def gdW (ops:Array Oper) (e:AE):Option (Nat×Bool)->Bool
 | none=>true
 | some (j, b) => match yl ops e j with
   | some v=>okC v b
   | none=>false
noncomputable def gdN (ops:Array Oper) (e:AE):Option (Nat×Bool)->Bool
 | none=>false
 | some (j, b) => match yl ops e j with
   | some v=>ZvN v b
   | none=>false
theorem ZjL {ops:Array Oper} {L:Lc} {j:Nat} {b:Bool} (h:gdW ops e (some (j,b))=true):yld ops (ge L e) j=some (.B b):=by
 simp only [gdW] at h;rw [Znk];cases hy:yl ops e j with
 | none=>rw [hy] at h;cases h
 | some v=>
   rw [hy] at h;cases v<;>first|cases h|(simp only [okC,beq_iff_eq] at h;subst h;rfl)
theorem Zdu {ops:Array Oper} {L:Lc} {g:Option (Nat×Bool)} (h:gdN ops e g=true):noB ops (ge L e) g=true:=by
 cases g with
 | none=>cases h
 | some p=>
   obtain ⟨j,b⟩:=p;simp only [gdN] at h;simp only [noB,Znk];cases hy:yl ops e j with
   | none=>rw [hy] at h;cases h
   | some v=>
     rw [hy] at h;cases v<;>first|cases h|exact h
noncomputable def ZbL (P:Program) [KD P] (call:Cf) (n:Nat) (ops:Array Oper):List Oper->AE->S->Option (AE×S×List Nat)
 | [],e,s=>some (e,s,[])
 | o :: r, e, s => match gdW ops e o.guard with
   | true => match opV P call e s o.op with
     | some q => match Z5D n o.dst q e with
       | some (e1, s1, w1) => match ZbL P call n ops r e1 s1 with
         | some (e2,s2,w2)=>some (e2,s2,w1++w2)
         | none=>none
       | none=>none
     | none=>none
   | false => match gdN ops e o.guard, Z5D n o.dst (some (.c undef), s, []) e with
     | true,some (e1,s1,_)=>ZbL P call n ops r e1 s1
     | _,_=>none
theorem Z3v {ops:Array Oper} {Q:Exit->Act->World->Prop} {rest:List Oper} (hC:Z4h P call):∀ (l:List Oper) (e:AE) (s:S) (e':AE) (s':S) (ws:List Nat) (L:Lc) (w),ZbL P call n ops l e s=some (e',s',ws)->Rel L s w->EB s.n e->
 (∀ L' w',Nx s s' L L' w w' ws->Rel L' s' w'->EB s'.n e'->WL P n ops Q rest (ge L' e') w')->WL P n ops Q (l++rest) (ge L e) w
 | [], e, s, e', s', ws, L, w, h, hR, hE, k => by
   simp only [ZbL,Xl,XM] at h;obtain ⟨rfl,rfl,rfl⟩:=h;exact k L w (Nx.refl _ _ _) hR hE
 | o :: r, e, s, e', s', ws, L, w, h, hR, hE, k => by
   obtain ⟨d,op,ty,pos,af,g⟩:=o;simp only [ZbL] at h;split at h;rename_i hg;split at h;rename_i q h1;split at h;rename_i e1 s1 w1 h2;split at h
   . rename_i e2 s2 w2 h3
     simp only [Xl,XM] at h;obtain ⟨rfl,rfl,rfl⟩:=h;have go:WL P n ops Q (⟨d,op,ty,pos,af,none⟩ :: (r++rest)) (ge L e) w:=by
      have hO:=ZjK (n:=n) (d:=d) (ty:=ty) (pos:=pos) (af:=af) (g:=none) hC hR h1;cases d with
      | none=>
        refine Z8 hO (λu w1' hu=>?_);obtain ⟨L1,a1,a2,a3,a4⟩:=Z20 hE h2 hu;exact WL.weak a4 (Z3v hC r e1 s1 e2 s2 w2 L1 w1' h3 a2 a3 (λL' w' b1 b2 b3=>k L' w' (a1.trans b1) b2 b3))
      | some dd=>
        have aw:Nat.blt dd n=true:=by
         obtain ⟨rv,sx,wx⟩:=q;cases rv with
         | none=>cases h2
         | some v=>
           simp only [Z5D] at h2;cases hc:(bd sx.n v && Nat.blt dd n) with
           | false=>rw [hc] at h2;cases h2
           | true=>simp only [Xd] at hc;exact hc.2
        refine Z0 hO aw (λu w1' hu=>?_);obtain ⟨L1,a1,a2,a3,a4⟩:=Z20 hE h2 hu;exact WL.weak a4.2 (Z3v hC r e1 s1 e2 s2 w2 L1 w1' h3 a2 a3 (λL' w' b1 b2 b3=>k L' w' (a1.trans b1) b2 b3))
     cases g with
     | none=>exact go
     | some p=>
       obtain ⟨j,b⟩:=p;exact Zn7 (ZjL hg) go
   cases h;cases h;cases h;split at h
   . rename_i e1 s1 _ hg h2
     have hu:Po L s w (some (.c undef),s,[]) undef w:=⟨L,Nx.refl _ _ _,hR,λv hv=>by cases hv;rfl⟩
     obtain ⟨L1,a1,a2,a3,a4⟩:=Z20 hE h2 hu;have hq:Nx s s1 L L1 w w []:=by
      cases d with
      | none=>simp only [Z5D,Xl,XM] at h2;obtain ⟨-,-,rfl⟩:=h2;exact a1
      | some dd=>
        simp only [Z5D] at h2;cases hc:(bd s.n (V.c undef) && Nat.blt dd n) with
        | false=>rw [hc] at h2;cases h2
        | true=>rw [hc] at h2;simp only [cond_true,Xl,XM] at h2;obtain ⟨-,-,rfl⟩:=h2;exact a1
     have ih:=Z3v hC r e1 s1 e' s' ws L1 w h a2 a3 (λL' w' b1 b2 b3=>k L' w' (by simpa using hq.trans b1) b2 b3);cases g with
     | none=>cases hg
     | some p=>
       obtain ⟨j,b⟩:=p;cases d with
       | none=>exact Zgp (Zdu hg) (WL.weak a4 ih)
       | some dd=>exact ZdG (Zdu hg) a4.1 (WL.weak a4.2 ih)
   cases h
theorem ZmW {ops:Array Oper} {Q:Exit->Act->World->Prop} (hC:Z4h P call) (l:List Oper) (e:AE) (s:S) (e':AE) (s':S) (ws:List Nat) (L:Lc) (w) (h:ZbL P call n ops l e s=some (e',s',ws)) (hR:Rel L s w) (hE:EB s.n e)
 (k:∀ L' w',Nx s s' L L' w w' ws->Rel L' s' w'->EB s'.n e'->WQ n Q .normal (ge L' e') w'):WL P n ops Q l (ge L e) w:=by
 have:=Z3v (rest:=[]) (Q:=Q) hC l e s e' s' ws L w h hR hE (λL' w' a b c=>Z51 (k L' w' a b c))
 rwa [XG] at this
end
abbrev Dr:=AE×S×List Nat×List Nat×List Nat
noncomputable def drS (P:Program) [KD P] (call:Cf) (n:Nat) (ops:Array Oper) (Lt:List Nat):List (Nat×Nat)->Bool->AE->S->Option Dr
 | [],_,e,s=>some (e,s,[],[],[])
 | (i, t) :: r, fl, e, s => match ops[i]? with
   | none=>none
   | some o => match gdW ops e o.guard with
     | false => match gdN ops e o.guard, o.dst, Z5D n o.dst (some (.c undef), s, []) e, Nat.ble t 2 with
       | true,some _,some (e1,_,_),true=>drS P call n ops Lt r fl e1 s
       | _,_,_,_=>none
     | true => match t with
       | 0 => match pur P e o.op, o.dst with
         | some v, some d => match Z5D n (some d) (some v, s, []) e with
           | some (e1,_,_)=>drS P call n ops Lt r fl e1 s
           | none=>none
         | _,_=>none
       | 1 => match fl, rd P e s o.op, o.dst with
         | false, some (v, b), some d => match Z5D n (some d) (some v, s, []) e with
           | some (e1, _, _) => match drS P call n ops Lt r fl e1 s with
             | some (e2,s2,wE,wL,rs)=>some (e2,s2,wE,wL,b :: rs)
             | none=>none
           | none=>none
         | _,_,_=>none
       | 2 => match opV P call e s o.op with
         | some q => match Z5D n o.dst q e with
           | some (e1, s1, w1) => match Lt.contains i with
             | true => match drS P call n ops Lt r true e1 s1 with
               | some (e2,s2,wE,wL,rs)=>some (e2,s2,wE,w1++wL,rs)
               | none=>none
             | false => match fl with
               | true=>none
               | false => match drS P call n ops Lt r false e1 s1 with
                 | some (e2,s2,wE,wL,rs)=>some (e2,s2,w1++wE,wL,rs)
                 | none=>none
           | none=>none
         | none=>none
       | t + 3 => match r with
         | (q, 2) :: r' => match ops[q]? with
           | some oq => match o.guard, oq.guard, o.dst, oq.dst, mkO P e o.op, mkO P e oq.op with
             | none, none, some di, some dq, some (fi, oi), some (fq, ox) => match Z4X s oi with
               | some s1 => match Z4X s1 ox with
                 | some s2=>bif Nat.beq q t && Nat.blt (q+3) 100000 && Nat.blt di n && Nat.blt dq n && !Nat.beq di dq && ox.bd s.n && (lk e di).isNone && (lk e dq).isNone then drS P call n ops Lt r' fl (pt dq (fq.v (s.n+1)) (pt di (fi.v s.n) e)) s2 else none
                 | none=>none
               | none=>none
             | _,_,_,_,_,_=>none
           | none=>none
         | _=>none
noncomputable def ZjM (P:Program) [KD P] (call:Cf) (n:Nat) (ops:Array Oper) (Lt:List Nat) (ord:List (Nat×Nat)) (e:AE) (s:S):Option (AE×S×List Nat):=
 match drS P call n ops Lt ord false e s with
 | some (e1,s1,wE,wL,rs)=>bif rs.all (λb=>Nat.blt b s.n && (s.m.get b).isSome && !wE.contains b) && wE.all (λk=>Nat.ble s.n k || (s.m.get k).isSome) then some (e1,s1,wE++wL) else none
 | none=>none
def ZrE (ops:Array Oper) (Lt:List Nat) (ord:List (Nat×Nat)):Bool:=Region.noSelect ops && Nat.beq (wt ord) ops.toList.length && ZX ops Lt ord (Array.replicate ops.toList.length false)
def chkC (od:Nat->Option (List Nat×List (Nat×Nat))):Code->Bool
 | .region id ops true => match od id with
   | some (Lt,ord)=>ZrE ops Lt ord
   | none=>true
 | .seq a b=>chkC od a && chkC od b
 | .cond _ a b=>chkC od a && chkC od b
 | .block _ b=>chkC od b
 | .loop b=>chkC od b
 | .scope b=>chkC od b
 | _=>true
section
variable {P:Program} [KD P] {n:Nat} {w:World} {call:Cf}
theorem WDB.weak {P:Program} {ops:Array Oper} {Lt:List Nat} {Q:Exit->Act->World->Prop} {S:Nat×List Nat} {e e':Env} {ord:List (Nat×Nat)} (hs:∀ t v,Eng.look e' t=some v->Eng.look e t=some v) (h:EngB.WD P n ops S Lt Q ord e' w):EngB.WD P n ops S Lt Q ord e w:=⟨λlisted a b c ha=>h.h listed a b c (ha.weak hs)⟩
theorem ZrF {ops:Array Oper} {L:Lc} {e:AE} {g:Option (Nat×Bool)} (h:gdW ops e g=true):JV ops (ge L e) g:=by
 cases g with
 | none=>trivial
 | some p=>exact ZjL h
theorem Z3M {d:Option Nat} {r:Rs} {e e1:AE} {s1:S} {ws:List Nat} (h:Z5D n d r e=some (e1,s1,ws)):s1=r.2.1/\ws=r.2.2/\∀ dd,d=some dd->Nat.blt dd n=true:=by
 unfold Z5D at h;split at h;rename_i d' v _;obtain ⟨hc,h⟩:=JY h;simp only [Xl,XM] at h;simp only [Xd] at hc;exact ⟨h.2.1.symm,h.2.2.symm,λdd hd=>by cases hd;exact hc.2⟩;simp only [Xl,XM] at h;exact ⟨h.2.1.symm,h.2.2.symm,λdd hd=>by cases hd⟩;cases h
theorem Kv.bd_lt {k m:Nat} (h:k<m) (f:Kv):bd m (f.v k)=true:=by cases f<;>exact X2 h
theorem ZbM {s s':S} {o:O} (h:Z4X s o=some s'):s'.n=s.n+1/\∀ k,s'.m.get k=if k=s.n then some o else s.m.get k:=by
 have:=(JY h).2;simp only [Xl] at this;subst this;exact ⟨rfl,λk=>Tr.get_put _ _ _ _⟩
theorem ZrG {e:AE} {L:Lc} {s s1 s2:S} {w':World} {oi ox:O} {fi fq:Kv} {di dq:Nat} {pi pq:Nat×Nat} (hR:Rel L s w) (hE:EB s.n e) (n1:Z4X s oi=some s1) (n2:Z4X s1 ox=some s2) (c6:ox.bd s.n=true) (h1:w.heap.size<=pi.1) (h2:w.heap.size<=pq.1) (h3:pi.1≠pq.1) (hS:Stp [] w w') (vL:Ob (upd L s.n pi) w' s.n oi) (qv:Ob (upd L (s.n+1) pq) w' (s.n+1) ox) :
 ∃ L2,Rel L2 s2 w'/\Nx s s2 L L2 w w' []/\EB s2.n (pt dq (fq.v (s.n+1)) (pt di (fi.v s.n) e))/\(∀ x,bd s.n x=true->ga L2 x=ga L x)/\ga L2 (fi.v s.n)=ga (upd L s.n pi) (fi.v s.n)/\ga L2 (fq.v (s.n+1))=ga (upd L (s.n+1) pq) (fq.v (s.n+1)):=by
 obtain ⟨a1,a2⟩:=ZbM n1;obtain ⟨b1,b2⟩:=ZbM n2;obtain ⟨r1,-⟩:=(hR.up hS).new' n1 (λk o' hk he=>by have:=(hR.ob k o' hk).lt;omega) vL;have q1:∀ k,k<s.n->upd (upd L s.n pi) (s.n+1) pq k=L k:=λk hk=>by rw [Z5C (by omega),Z5C (by omega)]
 have q2:upd (upd L s.n pi) (s.n+1) pq s.n=upd L s.n pi s.n:=Z5C (by omega);have q3:upd (upd L s.n pi) (s.n+1) pq (s.n+1)=upd L (s.n+1) pq (s.n+1):=by rw [ZS,ZS]
 obtain ⟨r2,-⟩:=r1.new' (p:=pq) n2 (λk o' hk he=>by
  rw [a2] at hk;by_cases e:k=s.n;subst e;rw [ZS] at he;exact h3 he;rw [if_neg e] at hk;rw [Z5C e] at he;have:=(hR.ob k o' hk).lt;omega) (by rw [a1];exact qv.eq q3 c6 (λk hk=>by rw [q1 k hk,Z5C (by omega)]))
 rw [a1] at r2;refine ⟨_,r2,⟨by omega,q1,λk g1 g2=>?_,by simpa [ids] using hS⟩,λt v hv=>?_,λx hx=>Z64 q1 x hx,Kv.eq q2 _,Kv.eq q3 _⟩;have:k=s.n\/k=s.n+1:=by omega
 rcases this with rfl|rfl
 rw [q2,ZS];exact .inl h1;rw [q3,ZS];exact .inl h2;rw [Z4U] at hv;by_cases e1:dq=t;rw [if_pos e1] at hv;cases hv;exact Kv.bd_lt (by omega) _;rw [if_neg e1,Z4U] at hv;by_cases e2:di=t;rw [if_pos e2] at hv;cases hv;exact Kv.bd_lt (by omega) _;rw [if_neg e2] at hv;exact bd_le (by omega) v (hE t v hv)
theorem Z4i {ops:Array Oper} {Lt:List Nat} {Q:Exit->Act->World->Prop} (hC:Z4h P call) {s0:S} {L0:Lc} {w0:World} {WE:List Nat} (eK:Rel L0 s0 w0) (kA:∀ k∈WE,k<s0.n->(s0.m.get k).isSome=true) :
 ∀ (ord : List (Nat × Nat)) (fl : Bool) (e : AE) (s : S) (e' : AE) (s' : S) (wE wL rs so : List Nat) (L : Lc) (w), drS P call n ops Lt ord fl e s = some (e', s', wE, wL, rs) -> Rel L s w -> EB s.n e -> Nx s0 s L0 L w0 w so -> (fl = false -> ∀ k ∈ so, k ∈ WE) -> (∀ k ∈ wE, k ∈ WE)->
   (∀ b∈rs,b<s0.n/\(s0.m.get b).isSome=true/\b∉WE)->(∀ L' w' so',Nx s0 s' L0 L' w0 w' so'->(∀ k∈so',k∈so\/k∈wE\/k∈wL)->Rel L' s' w'->EB s'.n e'->WQ n Q .normal (ge L' e') w')->
   EngB.WD P n ops (w0.heap.size,ids s0.n L0 WE) Lt Q ord (ge L e) w
 | [], fl, e, s, e', s', wE, wL, rs, so, L, w, h, hR, hE, hN, hf, hw, hr, k => by
   simp only [drS,Xl,XM] at h;obtain ⟨rfl,rfl,rfl,rfl,rfl⟩:=h;exact Z54 (k L w so hN (λk hk=>.inl hk) hR hE)
 | (i, t) :: r, fl, e, s, e', s', wE, wL, rs, so, L, w, h, hR, hE, hN, hf, hw, hr, k => by
   simp only [drS] at h;split at h;cases h;rename_i o hi;obtain ⟨d,op,ty,pos,af,g⟩:=o;dsimp only at h;split at h;rename_i jv;split at h;rename_i _ dd e1 s1 ws1 qx ht hp;obtain ⟨q1,q2,q3⟩:=Z3M hp;have hu:Po L s w (some (.c undef),s,[]) undef w:=⟨L,Nx.refl _ _ _,hR,λv hv=>by cases hv;rfl⟩
   obtain ⟨L1,a1,a2,a3,a4⟩:=Z20 hE hp hu
   try dsimp only at q1 q2
   subst q1;subst q2;have ih:=Z4i (Q:=Q) hC eK kA r fl e1 s1 e' s' wE wL rs so L1 w h a2 a3 (by simpa using hN.trans a1) hf hw hr k;have sm:=Xg ht;have qy:=Zdu (L:=L) qx;rcases (by omega:t=0\/t=1\/t=2) with rfl|rfl|rfl
   exact Za8 hi qy a4.1 (WDB.weak a4.2 ih);exact Za9 hi qy a4.1 (WDB.weak a4.2 ih);exact Zaa hi qy a4.1 (WDB.weak a4.2 ih);cases h;rename_i vM;have jw:=ZrF (L:=L) vM;split at h;split at h;rename_i v dd hv;split at h;rename_i e1 s1 ws1 hp;obtain ⟨q1,q2,q3⟩:=Z3M hp
   try dsimp only at q1 q2
   subst q1;subst q2;have hu:Po L s1 w (some v,s1,[]) (ga L v) w:=⟨L,Nx.refl _ _ _,hR,λv' bt=>by cases bt;rfl⟩
   obtain ⟨L1,a1,a2,a3,a4⟩:=Z20 hE hp hu;have ih:=Z4i (Q:=Q) hC eK kA r fl e1 s1 e' s' wE wL rs so L1 w h a2 a3 (by simpa using hN.trans a1) hf hw hr k;exact Jn hi jw (λw'=>ZjE hR.g hv) a4.1 (WDB.weak a4.2 ih);cases h;cases h;split at h;rename_i v b dd hv;split at h;rename_i e1 s1 ws1 hp;obtain ⟨q1,q2,q3⟩:=Z3M hp
   try dsimp only at q1 q2
   subst q1;subst q2;split at h;rename_i e2 s2 wE' wL' rs' h2;simp only [Xl,XM] at h;obtain ⟨rfl,rfl,rfl,rfl,rfl⟩:=h;have hu:Po L s1 w (some v,s1,[]) (ga L v) w:=⟨L,Nx.refl _ _ _,hR,λv' bt=>by cases bt;rfl⟩
   obtain ⟨L1,a1,a2,a3,a4⟩:=Z20 hE hp hu;have ih:=Z4i (Q:=Q) hC eK kA r false e1 s1 e2 s2 wE' wL' rs' so L1 w h2 a2 a3 (by simpa using hN.trans a1) hf hw (λb hb=>hr b (XX _ hb)) k;obtain ⟨b1,b2,b3⟩:=hr b (XT);refine EngB.WD_read hi jw (λw' hS=>Zni hR hv (hS.block _ ?_ ?_)) a4.1 (WDB.weak a4.2 ih);rw [hN.ag b b1];obtain ⟨ob,aN⟩:=Yac.1 b2;exact (eK.ob b ob aN).lt;rw [hN.ag b b1];intro hm;obtain ⟨j,j1,j2,j3⟩:=JJ.1 hm;exact b3 (eK.inj j b (kA j j1 j2) b2 j3 ▸ j1);cases h;cases h;cases h;split at h;rename_i q hq;split at h;rename_i e1 s1 w1 hp;obtain ⟨q1,q2,q3⟩:=Z3M hp;have hO:=ZjK (n:=n) (d:=d) (ty:=ty) (pos:=pos) (af:=af) (g:=g) hC hR hq;split at h;rename_i sq;split at h
   . rename_i e2 s2 wE' wL' rs' h2
     simp only [Xl,XM] at h;obtain ⟨rfl,rfl,rfl,rfl,rfl⟩:=h;have kk:∀ u w1',Po L s w q u w1'->∃ L1,Aft n L e u L1 e1 d/\EngB.WD P n ops (w0.heap.size,ids s0.n L0 WE) Lt Q r (ge L1 e1) w1':=λu w1' hu=>by
      obtain ⟨L1,a1,a2,a3,a4⟩:=Z20 hE hp hu;exact ⟨L1,a4,Z4i (Q:=Q) hC eK kA r true e1 s1 e2 s2 wE' wL' rs' (so++w1) L1 w1' h2 a2 a3 (hN.trans a1) (λh=>by cases h) hw hr (λL' w' so' c1 c2 c3 c4=>k L' w' so' c1 (λj hj=>by
       rcases c2 j hj with h|h|h
       rcases Xe.1 h with h|h
       exact .inl h;exact .inr (.inr (Xe.2 (.inl h)));exact .inr (.inl h);exact .inr (.inr (Xe.2 (.inr h)))) c3 c4)⟩
     cases d with
     | none=>exact Je hi jw hO sq (λu w1' hu=>by obtain ⟨L1,a4,ih⟩:=kk u w1' hu;exact WDB.weak a4 ih)
     | some dd=>exact ZdO hi jw hO sq (q3 dd rfl) (λu w1' hu=>by obtain ⟨L1,a4,ih⟩:=kk u w1' hu;exact WDB.weak a4.2 ih)
   cases h;split at h;cases h;split at h
   . rename_i e2 s2 wE' wL' rs' h2
     simp only [Xl,XM] at h;obtain ⟨rfl,rfl,rfl,rfl,rfl⟩:=h;have cZ:=hf rfl;have hB:∀ u w1',Po L s w q u w1'->EngB.StpB (w0.heap.size,ids s0.n L0 WE) w w1':=λu w1' hu=>by
      obtain ⟨L1,a1,a2,a3⟩:=hu;refine ⟨a1.st.os,a1.st.tape,a1.st.output,a1.st.size,λb hb su=>a1.st.block b (Xi hb hN.st.size) (λhm=>?_)⟩;obtain ⟨j,j1,j2,rfl⟩:=JJ.1 hm;have jW:j∈WE:=hw j (Xe.2 (.inl (q2 ▸ j1)));by_cases hj:j<s0.n;exact su (JJ.2 ⟨j,jW,hj,(congrArg Prod.fst (hN.ag j hj)).symm⟩);rcases hN.nw j (Ya1 hj) j2 with g1|g1
      exact absurd hb (Ya0.2 g1);obtain ⟨i',i1,i2,i3⟩:=JJ.1 g1;exact su (JJ.2 ⟨i',cZ i' i1,i2,i3⟩)
     have kk:∀ u w1',Po L s w q u w1'->∃ L1,Aft n L e u L1 e1 d/\EngB.WD P n ops (w0.heap.size,ids s0.n L0 WE) Lt Q r (ge L1 e1) w1':=λu w1' hu=>by
      obtain ⟨L1,a1,a2,a3,a4⟩:=Z20 hE hp hu;exact ⟨L1,a4,Z4i (Q:=Q) hC eK kA r false e1 s1 e2 s2 wE' wL' rs' (so++w1) L1 w1' h2 a2 a3 (hN.trans a1) (λ_ j hj=>(Xe.1 hj).elim (cZ j) (λh=>hw j (Xe.2 (.inl h)))) (λj hj=>hw j (Xe.2 (.inr hj))) hr (λL' w' so' c1 c2 c3 c4=>k L' w' so' c1 (λj hj=>by
       rcases c2 j hj with h|h|h
       rcases Xe.1 h with h|h
       exact .inl h;exact .inr (.inl (Xe.2 (.inl h)));exact .inr (.inl (Xe.2 (.inr h)));exact .inr (.inr h)) c3 c4)⟩
     cases d with
     | none=>exact Z1O hi jw hO hB (λu w1' hu=>by obtain ⟨L1,a4,ih⟩:=kk u w1' hu;exact WDB.weak a4 ih)
     | some dd=>exact Z9 hi jw hO hB (q3 dd rfl) (λu w1' hu=>by obtain ⟨L1,a4,ih⟩:=kk u w1' hu;exact WDB.weak a4.2 ih)
   cases h;cases h;cases h;split at h;rename_i q r';split at h;rename_i oq hq;split at h;rename_i di dq fi oi fq ox g2 d2 m1 m2;split at h;rename_i s1 n1;split at h;rename_i s2 n2;have dF:=JY h;clear h;obtain ⟨hc,h⟩:=dF;simp only [Xd,Ybf] at hc;obtain ⟨⟨⟨⟨⟨⟨⟨c1,c2⟩,c3⟩,c4⟩,c5⟩,c6⟩,c7⟩,c8⟩:=hc;have c1:=Xp c1;subst c1;obtain ⟨dd',op',ty',pos',af',gq⟩:=oq;dsimp only at g2 d2 m2;subst g2 d2;have aX:di≠dq:=λhe=>by rw [he,ZbG] at c5;cases c5
   have k1:∀ w1 w2,w0.heap.size<=w1.heap.size->Stp [] w1 w2->EngB.StpB (w0.heap.size,ids s0.n L0 WE) w1 w2:=λw1 w2 hz hT=>⟨hT.os,hT.tape,hT.output,hT.size,λb hb _=>hT.block b (Xi hb hz) (by simp)⟩
   have fin:∀ (pi pq:Nat×Nat) (w2:World) (env:Env),w.heap.size<=pi.1->w.heap.size<=pq.1->pi.1≠pq.1->Stp [] w w2->Ob (upd L s.n pi) w2 s.n oi->Ob (upd L (s.n+1) pq) w2 (s.n+1) ox->(Eng.look env dq=some (ga (upd L (s.n+1) pq) (fq.v (s.n+1))))->(Eng.look env di=some (ga (upd L s.n pi) (fi.v s.n)))->(∀ t,t≠dq->t≠di->Eng.look env t=Eng.look (ge L e) t)->EngB.WD P n ops (w0.heap.size,ids s0.n L0 WE) Lt Q r' env w2:=λpi pq w2 env h1 h2 h3 hT o1 o2 v1 v2 v3=>by
    obtain ⟨L2,x1,x2,x3,x4,x5,x6⟩:=ZrG (fi:=fi) (fq:=fq) (di:=di) (dq:=dq) hR hE n1 n2 c6 h1 h2 h3 hT o1 o2;refine WDB.weak (e':=ge L2 (pt dq (fq.v (s.n+1)) (pt di (fi.v s.n) e))) (λt v hv=>?_) (Z4i (Q:=Q) hC eK kA r' fl _ s2 e' s' wE wL rs so L2 w2 h x1 x3 (by simpa using hN.trans x2) hf hw hr k);rw [Z0E,Z4U] at hv;by_cases y1:dq=t;rw [if_pos y1] at hv;subst y1;rw [v1];simpa [x6] using hv;rw [if_neg y1,Z4U] at hv;by_cases y2:di=t;rw [if_pos y2] at hv;subst y2;rw [v2];simpa [x5] using hv;rw [if_neg y2] at hv;rw [v3 t (Ne.symm y1) (Ne.symm y2),Z0E];rw [XO] at hv ⊢;obtain ⟨x,hx,rfl⟩:=hv;exact ⟨x,hx,(x4 x (hE t x hx)).symm⟩
   have m9:=Z6w n1;have oe:ox.bd (s.n+1)=true:=O.bd_le (YbP _) c6;have O1:∀ w1,OE P n ⟨some di,op,ty,pos,af,none⟩ (ge L e) w1 (Zg5 L w1 s.n fi oi):=λw1=>Zdt s.n hR.g m1 m9;have O2:∀ w1,OE P n ⟨some dq,op',ty',pos',af',none⟩ (ge L e) w1 (Zg5 L w1 (s.n+1) fq ox):=λw1=>Zdt (s.n+1) hR.g m2 oe;have fresh:∀ (d':Nat) (v':Value),(lk e d').isNone=true->∀ t v,Eng.look (ge L e) t=some v->Eng.look ((d',v') :: ge L e) t=some v:=λd' v' hd t v hv=>by
    rw [Ju];by_cases e1:d'=t;subst e1;rw [Z0E,Option.isNone_iff_eq_none.1 hd] at hv;cases hv;rw [if_neg e1];exact hv
   have lo:∀ (a b:Nat) (x y:Value) (t:Nat),Eng.look ((a,x) :: (b,y) :: ge L e) t=if a=t then some x else if b=t then some y else Eng.look (ge L e) t:=λa b x y t=>by rw [Ju,Ju]
   refine Z91 c2 (Z0O hi jw (O1 w) (λv w1 hv=>k1 _ _ hN.st.size hv.choose_spec.2.1) c3 (λvi w1 iZ=>?_)) (Z0O hq trivial (O2 w) (λv w1 hv=>k1 _ _ hN.st.size hv.choose_spec.2.1) c4 (λvq w1 iZ=>?_));obtain ⟨pi,h1,ck,o1,rfl⟩:=iZ;refine Z9 hq trivial (G:=Zg5 L w1 (s.n+1) fq ox) ⟨λa ha=>(O2 w1).h a (ha.weak (fresh di _ c7))⟩ (λv w2 hv=>k1 _ _ (Xk hN.st.size ck.size) hv.choose_spec.2.1) c4 (λvq w2 jC=>?_);obtain ⟨pq,h2,ax,o2,rfl⟩:=jC;have hlt:=o1.lt;rw [ZS] at hlt;exact fin pi pq w2 _ h1 (Xk ck.size h2) (by omega) (ck.trans ax) (o1.ext ax (by simp)) o2 (by rw [lo,if_pos rfl]) (by rw [lo,if_neg (Ne.symm aX),if_pos rfl]) (λt y1 y2=>by rw [lo,if_neg (Ne.symm y1),if_neg (Ne.symm y2)]);obtain ⟨pq,h2,ck,o2,rfl⟩:=iZ;simp only [Z3N,if_pos];refine Z9 hi jw (G:=Zg5 L w1 s.n fi oi) ⟨λa ha=>(O1 w1).h a (ha.weak (fresh dq _ c8))⟩ (λv w2 hv=>k1 _ _ (Xk hN.st.size ck.size) hv.choose_spec.2.1) c3 (λvi w2 jC=>?_);obtain ⟨pi,h1,ax,o1,rfl⟩:=jC;have hlt:=o2.lt;rw [ZS] at hlt;exact fin pi pq w2 _ (Xk ck.size h1) h2 (by omega) (ck.trans ax) o1 (o2.ext ax (by simp)) (by rw [lo,if_neg aX,if_pos rfl]) (by rw [lo,if_pos rfl]) (λt y1 y2=>by rw [lo,if_neg (Ne.symm y2),if_neg (Ne.symm y1)]);cases h;cases h;cases h;cases h;cases h
end
inductive Ex where
 | n
 | r
 | x (i:Nat)
def Ex.to:Ex->Exit
 | .n=>.normal
 | .r=>.ret
 | .x i=>.exit i
abbrev Cs:=Ex×AE×S×List Nat
def ZeA (f:AE->S->Option Cs):Nat->AE->S->Option Cs
 | 0,_,_=>none
 | k + 1, e, s => match f e s with
   | some (.n, e1, s1, w1) => match ZeA f k e1 s1 with
     | some (x,e2,s2,w2)=>some (x,e2,s2,w1++w2)
     | none=>none
   | some (.r,e1,s1,w1)=>some (.r,e1,s1,w1)
   | some (.x i,e1,s1,w1)=>some (.x i,e1,s1,w1)
   | none=>none
noncomputable def Z0F (P:Program) [KD P] (call:Cf) (od:Nat->Option (List Nat×List (Nat×Nat))) (n:Nat):Code->AE->S->Option Cs
 | .skip,e,s=>some (.n,e,s,[])
 | .region id ops false, e, s => match ZbL P call n ops ops.toList e s with
   | some (e1,s1,w1)=>some (.n,e1,s1,w1)
   | none=>none
 | .region id ops true, e, s => match od id with
   | some (Lt, ord) => match ZjM P call n ops Lt ord e s with
     | some (e1,s1,w1)=>some (.n,e1,s1,w1)
     | none=>none
   | none=>none
 | .seq a b, e, s => match Z0F P call od n a e s with
   | some (.n, e1, s1, w1) => match Z0F P call od n b e1 s1 with
     | some (x,e2,s2,w2)=>some (x,e2,s2,w1++w2)
     | none=>none
   | some (.r,e1,s1,w1)=>some (.r,e1,s1,w1)
   | some (.x i,e1,s1,w1)=>some (.x i,e1,s1,w1)
   | none=>none
 | .cond c a b, e, s => match evv e c with
   | some (.b true)=>Z0F P call od n a e s
   | some (.b false)=>Z0F P call od n b e s
   | _=>none
 | .block i b, e, s => match Z0F P call od n b e s with
   | some (.n,e1,s1,w1)=>some (.n,e1,s1,w1)
   | some (.r,e1,s1,w1)=>some (.r,e1,s1,w1)
   | some (.x j,e1,s1,w1)=>bif Nat.beq j i then some (.n,e1,s1,w1) else some (.x j,e1,s1,w1)
   | none=>none
 | .loop b,e,s=>ZeA (Z0F P call od n b) 2000 e s
 | .exit i,e,s=>some (.x i,e,s,[])
 | .scope b,e,s=>Z0F P call od n b e s
 | .label _,e,s=>some (.n,e,s,[])
 | .ret,e,s=>some (.r,e,s,[])
 | _,_,_=>none
theorem Nx.sub {s s':S} {L L':Lc} {w w':World} {ws vs:List Nat} (h:Nx s s' L L' w w' ws) (hs:∀ k∈ws,k<s.n->k∈vs):Nx s s' L L' w w' vs:=by
 have hi:∀ b,b∈ids s.n L ws->b∈ids s.n L vs:=λb hb=>by
  obtain ⟨j,h1,h2,h3⟩:=JJ.1 hb;exact JJ.2 ⟨j,hs j h1 h2,h2,h3⟩
 exact ⟨h.le,h.ag,λj h1 h2=>(h.nw j h1 h2).imp id (hi _),h.st.mono hi⟩
theorem Zg6 {P:Program} [KD P] {n:Nat} {Q:Exit->Act->World->Prop} {e:Env} {w} {ops:Array Oper} {S:Nat×List Nat} {Lt:List Nat} {ord:List (Nat×Nat)} (hs:Region.noSelect ops=true) (hl:Nat.beq (wt ord) ops.toList.length=true)
 (hB:ZX ops Lt ord (Array.replicate ops.toList.length false)=true) (h:EngB.WD P n ops S Lt Q ord e w) (a:Act) (ha:Has n e a):wpAny P .any ops Q ops.size (Array.replicate ops.size false) a w:=by
 have h2:=JS (Q:=Q) (λa w hz=>hz) _ _ _ _ (h.h _ hs hB a ha);rw [Xp hl] at h2;simpa using h2
section
variable {P:Program} [KD P] {n:Nat} {call:Cf} {od:Nat->Option (List Nat×List (Nat×Nat))}
theorem Zg7 {ops:Array Oper} {Lt:List Nat} {ord:List (Nat×Nat)} {Q:Exit->Act->World->Prop} (hC:Z4h P call) (hc:ZrE ops Lt ord=true) {e:AE} {s:S} {e':AE} {s':S} {ws:List Nat} {L:Lc} {w} (h:ZjM P call n ops Lt ord e s=some (e',s',ws)) (hR:Rel L s w) (hE:EB s.n e)
 (k:∀ L' w',Nx s s' L L' w w' ws->Rel L' s' w'->EB s'.n e'->WQ n Q .normal (ge L' e') w'):∀ a,Has n (ge L e) a->wpAny P .any ops Q ops.size (Array.replicate ops.size false) a { w with drawn:=w.drawn+1 }:=by
 unfold ZjM at h;unfold ZrE at hc;simp only [Xd] at hc;obtain ⟨⟨c1,c2⟩,c3⟩:=hc;split at h;rename_i e1 s1 wE wL rs hd;obtain ⟨hx,h⟩:=JY h;simp only [Xl,XM] at h;obtain ⟨rfl,rfl,rfl⟩:=h;simp only [Xd] at hx;obtain ⟨x1,x2⟩:=hx;intro a ha;have hS:Stp [] w { w with drawn:=w.drawn+1 }:=Stp.drew [] w;generalize { w with drawn:=w.drawn+1 }=w1 at hS ⊢;refine Zg6 c1 c2 c3 (S:=(w.heap.size,ids s.n L wE)) ?_ a ha;have kY:=hR.up hS;exact Z4i (P:=P) (n:=n) (ops:=ops) (Lt:=Lt) (Q:=Q) hC hR (WE:=wE) (λj hj sj=>by
  have:=Xx.1 x2 j hj;simp only [YaZ] at this;rcases this with h|h
  have:=Xg h;omega;exact h) ord false e s e1 s1 wE wL rs [] L w1 hd kY hE ⟨Xq _,λ_ _=>rfl,λj h1 h2=>absurd h2 (Ya0.2 h1),hS⟩ (λ_ j hj=>by cases hj) (λj hj=>hj) (λb hb=>by
  have:=Xx.1 x1 b hb;simp only [Xd,Ybf,List.contains_eq_mem,decide_eq_false_iff_not] at this;exact ⟨Xg this.1.1,this.1.2,this.2⟩) (λL' w' so' a1 a2 a3 a4=>k L' w' (a1.sub (λj hj _=>by
   rcases a2 j hj with h|h|h
   cases h;exact Xe.2 (.inl h);exact Xe.2 (.inr h))) a3 a4)
 cases h
def Zv9 (P:Program) (n:Nat) (c:Code) (f:AE->S->Option Cs):Prop:=∀ (ds:List Deferred) (e:AE) (s:S) (x:Ex) (e':AE) (s':S) (ws:List Nat) (L:Lc) (w:World) (Q:Exit->Act->World->Prop),f e s=some (x,e',s',ws)->Rel L s w->EB s.n e->
 (∀ L' w',Nx s s' L L' w w' ws->Rel L' s' w'->EB s'.n e'->WQ n (Z75 ds Q) x.to (ge L' e') w')->∀ a,Has n (ge L e) a->c.wp P Q (Z0u ds a) w
theorem Z8N {P:Program} {c:Code} {f:AE->S->Option Cs} (hf:Zv9 P n c f) (ds:List Deferred) {Q:Exit->Act->World->Prop} {x:Ex} {e':AE} {s':S}:∀ (m:Nat) (e:AE) (s:S) (ws:List Nat) (L:Lc) (w),ZeA f m e s=some (x,e',s',ws)->Rel L s w->EB s.n e->
 (∀ L' w',Nx s s' L L' w w' ws->Rel L' s' w'->EB s'.n e'->WQ n (Z75 ds Q) x.to (ge L' e') w')->∀ a,Has n (ge L e) a->Code.rounds P c Q m (Z0u ds a) w
 | 0,_,_,_,_,_,h,_,_,_=>by cases h
 | m + 1, e, s, ws, L, w, h, hR, hE, k => by
   intro a ha;rw [rounds_succ];simp only [ZeA] at h;split at h;rename_i h2;split at h;rename_i h3;cases h;refine hf ds _ _ _ _ _ _ L w _ h2 hR hE ?_ a ha;exact λL' w' a1 a2 a3=>⟨λa ha=>Z8N hf ds m _ _ _ L' w' h3 a2 a3 (λL2 w2 b1 b2 b3=>k L2 w2 (a1.trans b1) b2 b3) a ha⟩
   cases h;rename_i h2;cases h;refine hf ds _ _ _ _ _ _ L w _ h2 hR hE ?_ a ha;exact λL' w' a1 a2 a3=>⟨(k L' w' a1 a2 a3).h⟩
   rename_i h2;cases h;refine hf ds _ _ _ _ _ _ L w _ h2 hR hE ?_ a ha;exact λL' w' a1 a2 a3=>⟨(k L' w' a1 a2 a3).h⟩
   cases h
theorem ZbN (hC:Z4h P call) (hm:P.follows .mixedOrders=true):∀ c,chkC od c=true->Zv9 P n c (Z0F P call od n c):=by
 intro c
 induction c with
 | skip=>
   intro hK ds e s x e' s' ws L w Q h hR hE k a ha;cases h;exact wp_skip ((k L w (Nx.refl _ _ _) hR hE).h a ha)
 | region id ops dr=>
   intro hK ds e s x e' s' ws L w Q h hR hE k a ha;cases dr with
   | false=>
     simp only [Z0F] at h;split at h;rename_i h1;cases h;have:=wp_region_lit (P:=P) (id:=id) (l:=ops.toList) (Z4e _ _ _ ((ZmW hC _ e s _ _ _ L w h1 hR hE k).h a ha))
     rwa [X3] at this
     cases h
   | true=>
     simp only [Z0F] at h;simp only [chkC] at hK;split at h;rename_i h0;rw [h0] at hK;split at h;rename_i h1;cases h;exact wp_region_any hm (Z5n _ _ _ _ (Zg7 hC hK h1 hR hE k a ha));cases h;cases h
 | seq b c ihb ihc=>
   intro hK ds e s x e' s' ws L w Q h hR hE k a ha;simp only [chkC,Xd] at hK;replace ihb:=ihb hK.1;replace ihc:=ihc hK.2;simp only [Z0F] at h;split at h;rename_i h2;split at h;rename_i h3;cases h;refine wp_seq (ihb ds _ _ _ _ _ _ L w _ h2 hR hE ?_ a ha);exact λL' w' a1 a2 a3=>⟨λa ha=>ihc ds _ _ _ _ _ _ L' w' Q h3 a2 a3 (λL2 w2 b1 b2 b3=>k L2 w2 (a1.trans b1) b2 b3) a ha⟩
   cases h;rename_i h2;cases h;refine wp_seq (ihb ds _ _ _ _ _ _ L w _ h2 hR hE ?_ a ha);exact λL' w' a1 a2 a3=>⟨(k L' w' a1 a2 a3).h⟩
   rename_i h2;cases h;refine wp_seq (ihb ds _ _ _ _ _ _ L w _ h2 hR hE ?_ a ha);exact λL' w' a1 a2 a3=>⟨(k L' w' a1 a2 a3).h⟩
   cases h
 | cond c b d ihb ihd=>
   intro hK ds e s x e' s' ws L w Q h hR hE k a ha;simp only [chkC,Xd] at hK;replace ihb:=ihb hK.1;replace ihd:=ihd hK.2;simp only [Z0F] at h;split at h;rename_i hc;exact wp_cond_true (HasD.ev ha (Zq hR.g hc)) (ihb ds e s x e' s' ws L w Q h hR hE k a ha);rename_i hc;exact wp_cond_false (HasD.ev ha (Zq hR.g hc)) (ihd ds e s x e' s' ws L w Q h hR hE k a ha);cases h
 | block i b ih=>
   intro hK ds e s x e' s' ws L w Q h hR hE k a ha;replace ih:=ih hK;simp only [Z0F] at h;split at h;rename_i h2;cases h;refine wp_block (ih ds _ _ _ _ _ _ L w _ h2 hR hE ?_ a ha);exact λL' w' a1 a2 a3=>⟨(k L' w' a1 a2 a3).h⟩
   rename_i h2;cases h;refine wp_block (ih ds _ _ _ _ _ _ L w _ h2 hR hE ?_ a ha);exact λL' w' a1 a2 a3=>⟨(k L' w' a1 a2 a3).h⟩
   . rename_i j e2 s2 w2 h2
     cases hj:Nat.beq j i with
     | true=>
       rw [hj] at h;cases h;cases Xp hj;refine wp_block (ih ds _ _ _ _ _ _ L w _ h2 hR hE ?_ a ha);exact λL' w' a1 a2 a3=>⟨(Zl (k L' w' a1 a2 a3)).h⟩
     | false=>
       rw [hj] at h;cases h;refine wp_block (ih ds _ _ _ _ _ _ L w _ h2 hR hE ?_ a ha);exact λL' w' a1 a2 a3=>⟨(Zu hj (k L' w' a1 a2 a3)).h⟩
   cases h
 | loop b ih=>
   intro hK ds e s x e' s' ws L w Q h hR hE k a ha;replace ih:=ih hK;exact wp_loop_rounds 2000 (Z8N ih ds 2000 e s ws L w h hR hE k a ha)
 | exit i=>
   intro hK ds e s x e' s' ws L w Q h hR hE k a ha;cases h;exact wp_exit ((k L w (Nx.refl _ _ _) hR hE).h a ha)
 | scope b ih=>
   intro hK ds e s x e' s' ws L w Q h hR hE k a ha;replace ih:=ih hK;refine wp_scope_straight (ih ds e s x e' s' ws L w _ h hR hE (λL' w' a1 a2 a3=>?_) a ha);have:=(k L' w' a1 a2 a3).h;cases x<;>exact ⟨this⟩
 | label l=>
   intro hK ds e s x e' s' ws L w Q h hR hE k a ha;cases h;exact wp_label ((k L w (Nx.refl _ _ _) hR hE).h a ha)
 | ret=>
   intro hK ds e s x e' s' ws L w Q h hR hE k a ha;cases h;exact wp_ret ((k L w (Nx.refl _ _ _) hR hE).h a ha)
 | _=>intro hK ds e s x e' s' ws L w Q h;cases h
theorem ZbO (a:Act):Z0u [] a=a:=by cases a;simp [Z0u]
theorem ZbP (hC:Z4h P call) (hm:P.follows .mixedOrders=true) {c:Code} (hK:chkC od c=true) {e:AE} {s:S} {x:Ex} {e':AE} {s':S} {ws:List Nat} {L:Lc} {w} {Q:Exit->Act->World->Prop} (h:Z0F P call od n c e s=some (x,e',s',ws)) (hR:Rel L s w) (hE:EB s.n e)
 (k:∀ L' w',Nx s s' L L' w w' ws->Rel L' s' w'->EB s'.n e'->WQ n Q x.to (ge L' e') w'):WC P n c Q (ge L e) w:=
 ⟨λa ha => by
   have:=ZbN hC hm c hK [] e s x e' s' ws L w Q h hR hE (λL' w' a1 a2 a3=>⟨λa ha=>by unfold Z75;rw [ZbO];exact (k L' w' a1 a2 a3).h a ha⟩) a ha
   rwa [ZbO] at this⟩
end
abbrev Od:=List (Nat×Nat×List Nat×List (Nat×Nat))
def odS (f:Nat):Od->Nat->Option (List Nat×List (Nat×Nat))
 | [],_=>none
 | (g,q,a,b) :: l,r=>bif Nat.beq g f && Nat.beq q r then some (a,b) else odS f l r
noncomputable def Z5E (P:Program) (e:AE) (s:S):ResultVar->Option V
 | .tmp t=>lk e t
 | .cell t T => match lk e t, P.underlying T with
   | some (.p b 0), some D => match ldc s b with
     | some cs => match Z0h D, (P.info? T).map (·.size) with
       | true,some k=>bif Nat.beq cs.length k then some (.a cs) else none
       | false,_=>cs[0]?
       | _,_=>none
     | none=>none
   | _,_=>none
noncomputable def Zdv (P:Program) (e:AE) (s:S):List ResultVar->Option V
 | []=>some (.t [])
 | [x]=>Z5E P e s x
 | [x, y] => match Z5E P e s x, Z5E P e s y with
   | some a,some b=>some (.t [a,b])
   | _,_=>none
 | [x, y, z] => match Z5E P e s x, Z5E P e s y, Z5E P e s z with
   | some a,some b,some c=>some (.t [a,b,c])
   | _,_,_=>none
 | [x, y, z, u] => match Z5E P e s x, Z5E P e s y, Z5E P e s z, Z5E P e s u with
   | some a,some b,some c,some d=>some (.t [a,b,c,d])
   | _,_,_,_=>none
 | _=>none
def Z87:Nat->List V->AE
 | _,[]=>[]
 | k,v :: r=>(k,v) :: Z87 (k+1) r
abbrev Hk:=Cf->Nat->List V->S->Option (Option (V×S×List Nat))
def gcS (s:S) (v:V) (s1:S) (ws:List Nat):V×S×List Nat:=match ws.filter (λk=>Nat.blt k s.n) with
 | []=>bif bd s.n v then (v,s,[]) else (v,s1,[])
 | ws=>(v,s1,ws)
noncomputable def ZmX (P:Program) (fn:Func) (s:S):Option Cs->Option (V×S×List Nat)
 | some (.n, e, s1, ws) => match fn.results.toList with
   | []=>some (gcS s (.t []) s1 ws)
   | _=>none
 | some (.r, e, s1, ws) => match Zdv P e s1 fn.results.toList with
   | some v=>some (gcS s v s1 ws)
   | none=>none
 | _=>none
noncomputable def fnS (P:Program) [KD P] (od:Od) (hk:Hk):Nat->Cf
 | 0,_,_,_=>none
 | k + 1, f, args, s => match hk (fnS P od hk k) f args s with
   | some r=>r
   | none => match P.funcs[f]? with
     | some fn => match fn.body with
       | some c=>bif Nat.ble args.length fn.ntmps then ZmX P fn s (Z0F P (fnS P od hk k) (odS f od) fn.ntmps c (Z87 0 args) s) else none
       | none=>none
     | none=>none
def ZrH (P:Program) (hk:Hk):Prop:=∀ call,Z4h P call->∀ f args s v s' ws,hk call f args s=some (some (v,s',ws))->bl s.n args=true->∀ L w,Rel L s w->Enters P f/\Calls P f (gl L args).toArray w (Ret λu w'=>∃ L',Nx s s' L L' w w' ws/\Rel L' s' w'/\u=ga L' v)
def ZbQ (tmps:Array Value):ResultVar->Sem Value
 | .tmp t=>pure (tmps.getD t undef)
 | .cell a t=>do loadVar t (<- asAddr (tmps.getD a undef))
theorem Z88 (fn:Func) (tmps:Array Value):results fn tmps=(do
 let vs <- fn.results.mapM (ZbQ tmps)
 pure (if h:vs.size=1 then vs[0] else .tuple vs)):=rfl
section
variable {P:Program} [KD P] {n:Nat}
theorem Z9W (L:Lc):∀ (l:List V) (k:Nat),ge L (Z87 k l)=Z2W (gl L l) k
 | [],k=>rfl
 | v :: r, k => by
   show (k,ga L v) :: ge L (Z87 (k+1) r)=_;rw [Z9W L r (k+1)];rfl
theorem Z9X:∀ (l:List V) (k t:Nat) (v:V),lk (Z87 k l) t=some v->v∈l
 | [],k,t,v,h=>by cases h
 | u :: r, k, t, v, h => by
   simp only [Z87] at h;rw [Z4U] at h;by_cases hb:k=t;rw [if_pos hb] at h;simp only [Xl] at h;subst h;exact .head _;rw [if_neg hb] at h;exact .tail _ (Z9X r (k+1) t v h)
theorem Z0U {P:Program} {L:Lc} {e:AE} {s:S} {w} (hR:Rel L s w) {x:ResultVar} {v:V} (h:Z5E P e s x=some v) {a:Act} (ha:Has n (ge L e) a):(ZbQ a.tmps x).run P w=.ok (ga L v) w:=by
 cases x with
 | tmp t=>
   have:=ha.vals t (ga L v) (by rw [Z0E];simp only [Z5E] at h;rw [h];rfl);simp only [ZbQ,this];rfl
 | cell t T=>
   simp only [Z5E] at h;split at h;rename_i b D h1 h2;have hu:Und P T D:=⟨h2⟩
   have hp:=ha.vals t (.pointer (some ⟨(L b).1,0,none⟩)) (by rw [Z0E,h1];rfl);have sw:(asAddr (a.tmps[t]?.getD undef)).run P w=.ok ⟨(L b).1,0,none⟩ w:=by rw [<- XJ,hp];rfl
   split at h;rename_i cs h3;split at h;rename_i k hA h4;have hs:Siz P T k:=⟨h4⟩
   obtain ⟨hk,h⟩:=JY h;simp only [Xl] at h;subst h;have bY:=Xp hk;have h5:=run_loadCells_list (P:=P) w ⟨(L b).1,0,none⟩ (gl L cs) (λj v hv=>by
    rw [Addr.add_lit,XK];rw [Z7F,XO] at hv;obtain ⟨u,jR,rfl⟩:=hv;exact Z3u hR h3 jR)
   rw [Ja,bY] at h5;simp [ZbQ,sw,loadVar,Und.isAgg,hA,Siz.run,h5,ga];rename_i _ hA;have h5:=Z3u hR h3 h;simp [ZbQ,sw,loadVar,Und.isAgg,hA,h5];cases h;cases h;cases h
theorem ZeB {P:Program} {fn:Func} {L:Lc} {e:AE} {s:S} {w} (hR:Rel L s w) {v:V} (h:Zdv P e s fn.results.toList=some v) {a:Act} (ha:Has n (ge L e) a):(results fn a.tmps).run P w=.ok (ga L v) w:=by
 rw [Z88];obtain ⟨rs,ju⟩:∃ rs,fn.results=List.toArray rs:=⟨fn.results.toList,by rw [X3]⟩
 rw [ju] at h ⊢;simp only at h
 match rs,h with
 | [],h=>simp only [Zdv,Xl] at h;subst h;simp;rfl
 | [x], h=>
   have h1:=Z0U hR (x:=x) h ha;simp [h1]
 | [x, y], h=>
   simp only [Zdv] at h;split at h;rename_i p q e1 e2;simp only [Xl] at h;subst h;have h1:=Z0U hR e1 ha;have h2:=Z0U hR e2 ha;simp [h1,h2,ga,gl];cases h
 | [x, y, z], h=>
   simp only [Zdv] at h;split at h;rename_i p q r e1 e2 e3;simp only [Xl] at h;subst h;have h1:=Z0U hR e1 ha;have h2:=Z0U hR e2 ha;have h3:=Z0U hR e3 ha;simp [h1,h2,h3,ga,gl];cases h
 | [x, y, z, u], h=>
   simp only [Zdv] at h;split at h;rename_i p q r o e1 e2 e3 e4;simp only [Xl] at h;subst h;have h1:=Z0U hR e1 ha;have h2:=Z0U hR e2 ha;have h3:=Z0U hR e3 ha;have h4:=Z0U hR e4 ha;simp [h1,h2,h3,h4,ga,gl];cases h
 | _ :: _ :: _ :: _ :: _ :: _,h=>cases h
theorem ZjN {L L':Lc} {s s1 s2:S} {w w':World} {v v2:V} {w1 ws:List Nat} (hR:Rel L s w) (a1:Nx s s1 L L' w w' w1) (a2:Rel L' s1 w') (h:gcS s v s1 w1=(v2,s2,ws)):∃ L2,Nx s s2 L L2 w w' ws/\Rel L2 s2 w'/\ga L' v=ga L2 v2:=by
 have shr:Nx s s1 L L' w w' (w1.filter (λk=>Nat.blt k s.n)):=a1.sub (λk hk fx=>Yak.2 ⟨hk,X2 fx⟩);unfold gcS at h;split at h
 . rename_i hf
   rw [hf] at shr;cases hb:bd s.n v with
   | true=>
     rw [hb] at h;cases h;have hT:Stp [] w w':=by simpa [ids] using shr.st
     exact ⟨L,⟨Xq _,λ_ _=>rfl,λk h1 h2=>absurd h2 (Ya0.2 h1),by simpa [ids] using hT⟩,hR.up hT,Z64 a1.ag v hb⟩
   | false=>rw [hb] at h;cases h;exact ⟨L',shr,a2,rfl⟩
 cases h;exact ⟨L',shr,a2,rfl⟩
theorem ZmY {call:Cf} {od:Nat->Option (List Nat×List (Nat×Nat))} (hC:Z4h P call) (hm:P.follows .mixedOrders=true) {fn:Func} {c:Code} (hK:chkC od c=true) {f:Nat} (hf:P.funcs[f]?=some fn) (hb:fn.body=some c) {args:List V} {s:S} {v:V} {s':S} {ws:List Nat}
 (hl:Nat.ble args.length fn.ntmps=true) (h:ZmX P fn s (Z0F P call od fn.ntmps c (Z87 0 args) s)=some (v,s',ws)) (hB:bl s.n args=true) {L:Lc} {w} (hR:Rel L s w) :
 Calls P f (gl L args).toArray w (Ret λu w'=>∃ L',Nx s s' L L' w w' ws/\Rel L' s' w'/\u=ga L' v):=by
 refine Z04 (n:=fn.ntmps) hf hb rfl (by simpa [Ja] using hl) ?_;have hz:=Z9W L args 0;have hE:EB s.n (Z87 0 args):=λt v hv=>(Z24 s.n args).1 hB v (Z9X args 0 t v hv);rw [show ((gl L args).toArray).toList=gl L args from rfl,<- hz];cases hc:Z0F P call od fn.ntmps c (Z87 0 args) s with
 | none=>rw [hc] at h;cases h
 | some q=>
   obtain ⟨x,e1,s1,w1⟩:=q;rw [hc] at h;refine ZbP hC hm hK hc hR hE (λL' w' a1 a2 a3=>?_);cases x with
   | n=>
     simp only [ZmX] at h;split at h;rename_i hr;simp only [Xl] at h;obtain ⟨L2,g1,g2,g3⟩:=ZjN hR a1 a2 h;exact Z8Q (Array.toList_eq_nil_iff.1 hr) ⟨_,rfl,L2,g1,g2,g3⟩;cases h
   | r=>
     simp only [ZmX] at h;split at h;rename_i v' hr;simp only [Xl] at h;obtain ⟨L2,g1,g2,g3⟩:=ZjN hR a1 a2 h;exact ⟨λa ha=>⟨ha.defers,_,ZeB a2 hr ha,_,rfl,L2,g1,g2,g3⟩⟩;cases h
   | x i=>cases h
def ZmZ (P:Program) (od:Od):Prop:=∀ (f:Nat) (fn:Func) (c:Code),P.funcs[f]?=some fn->fn.body=some c->chkC (odS f od) c=true
theorem Zdw {od:Od} {hk:Hk} (hO:ZmZ P od) (hm:P.follows .mixedOrders=true) (hN:∀ (f:Nat) (fn:Func),P.funcs[f]?=some fn->(fn.name == "runtime.NumGoroutine")=false) (hH:ZrH P hk):∀ k,Z4h P (fnS P od hk k)
 | 0=>λf args s v s' ws h=>by cases h
 | k + 1 => λf args s v s' ws h hB L w hR => by
   have ih:=Zdw (od:=od) hO hm hN hH k;simp only [fnS] at h;split at h;rename_i r hr;subst h;exact hH _ ih f args s v s' ws hr hB L w hR;split at h;rename_i fn hf;split at h;rename_i c hb;obtain ⟨hl,h⟩:=JY h;exact ⟨enters_of hf (hN f fn hf) hb,ZmY ih hm (hO f fn c hf hb) hf hb hl h hB hR⟩;cases h;cases h
end
def dfS:Code->Option (Array Oper×List Oper×Operand×Array TypeId×TypeId×String×Array Edge)
 | .region id ops false => match ops.toList.reverse with
   | ⟨none,.defer ⟨.value t,⟨[]⟩,ts⟩,ty,pos,af,none⟩ :: r=>some (ops,r.reverse,t,ts,ty,pos,af)
   | _=>none
 | _=>none
noncomputable def ZjO (P:Program) [KD P] (call:Cf) (od:Nat->Option (List Nat×List (Nat×Nat))) (n:Nat) (nop:Nat->Nat->Bool) (fn:Func):Code->AE->S->Option (V×S×List Nat)
 | .seq a b, e, s => match dfS a with
   | some (ops, l, t, _) => match ZbL P call n ops l e s with
     | some (e1, s1, w1) => match evv e1 t with
       | some (.f g [] cap) => match nop g cap.length with
         | true => match Z0F P call od n b e1 s1 with
           | some (.r, e2, s2, w2) => match Zdv P e2 s2 fn.results.toList with
             | some v=>some (v,s2,w1++w2)
             | none=>none
           | _=>none
         | false=>none
       | _=>none
     | none=>none
   | none => match Z0F P call od n a e s with
     | some (.n, e1, s1, w1) => match ZjO P call od n nop fn b e1 s1 with
       | some (v,s2,w2)=>some (v,s2,w1++w2)
       | none=>none
     | _=>none
 | _,_,_=>none
section
variable {P:Program} [KD P] {n:Nat} {call:Cf} {od:Nat->Option (List Nat×List (Nat×Nat))} {ds:List Deferred}
theorem ZrI {c:Code} {ops:Array Oper} {l:List Oper} {t:Operand} {ts:Array TypeId} {ty:TypeId} {pos:String} {af:Array Edge} (h:dfS c=some (ops,l,t,ts,ty,pos,af)) :
 (∃ id,c=.region id ops false)/\ops.toList=l++[⟨none,.defer ⟨.value t,#[],ts⟩,ty,pos,af,none⟩]:=by
 unfold dfS at h;split at h;rename_i id ops';split at h;rename_i r hr;simp only [Xl,XM] at h;obtain ⟨rfl,rfl,rfl,rfl,rfl,rfl,rfl⟩:=h;refine ⟨⟨id,rfl⟩,?_⟩;have:=congrArg List.reverse hr;simpa using this;cases h;cases h
def ZjP (P:Program) (nop:Nat->Nat->Bool):Prop:=∀ g k,nop g k=true->(∃ fn',Fun P g fn')/\∀ (cap:List Value) (w:World),cap.length=k->CallsD P g cap.toArray .returning w (λe u' w'=>∃ v,e=.returned v/\(u'=.returning/\Stp [] w w'))
theorem Zn0 {nop:Nat->Nat->Bool} {fn:Func} (hC:Z4h P call) (hm:P.follows .mixedOrders=true) (hN:ZjP P nop):∀ (c:Code),chkC od c=true->∀ (e:AE) (s:S) (v:V) (s':S) (ws:List Nat) (L:Lc) (w) (R:Ending->World->Prop),ZjO P call od n nop fn c e s=some (v,s',ws)->Rel L s w->EB s.n e->
 (∀ L' w',Nx s s' L L' w w' ws->Rel L' s' w'->R (.returned (ga L' v)) w')->WC P n c (bodyPostD P fn R) (ge L e) w:=by
 intro c
 induction c with
 | seq a b iha ihb=>
   intro hK e s v s' ws L w R h hR hE k;simp only [chkC,Xd] at hK;replace ihb:=ihb hK.2;simp only [ZjO] at h;split at h;rename_i ops l t q hd;obtain ⟨ts,ty,pos,af⟩:=q;obtain ⟨⟨id,rfl⟩,qz⟩:=ZrI hd;split at h;rename_i e1 s1 w1 h1;split at h;rename_i g cap cb;split at h;rename_i hn;split at h;rename_i e2 s2 w2 h2;split at h;rename_i v2 hv;simp only [Xl,XM] at h;obtain ⟨rfl,rfl,rfl⟩:=h;obtain ⟨⟨fn',hF⟩,qA⟩:=hN g _ hn;refine Z43 ?_;have:=Z1o (P:=P) (n:=n) (id:=id) (Q:=Exit.then (λa w=>b.wp P (bodyPostD P fn R) a w) (bodyPostD P fn R)) (e:=ge L e) (w:=w) (l:=ops.toList) (by
    rw [X3,qz];refine Z3v hC l e s e1 s1 w1 L w h1 hR hE (λL1 y1 a1 a2 a3=>?_);refine Zje (fv:=.func g) (cap:=(gl L1 cap).toArray) (Zq a2.g cb) ?_;refine ⟨ZbN hC hm b hK.2 _ e1 s1 .r e2 s2 w2 L1 y1 _ h2 a2 a3 (λL2 y2 b1 b2 b3=>⟨λact ha=>?_⟩)⟩;show Leaves _ _ act.tmps _ (act.defers++_) .returning _;rw [ha.defers];refine Zd1 (f:=g) (by simp) (qA (gl L1 cap) y2 (by rw [Ja])) ?_;rintro _ u' y3 ⟨rfl,hT⟩;have sz:=b2.up hT;have lA:Nx s2 s2 L2 L2 y2 y3 []:=⟨Xq _,λ_ _=>rfl,λj h1 h2=>absurd h2 (Ya0.2 h1),hT⟩
    exact ⟨rfl,_,ZeB sz hv ha,k L2 y3 (by simpa using (a1.trans b1).trans lA) sz⟩)
   rwa [X3] at this
   cases h;cases h;cases h;cases h;cases h;split at h;rename_i e1 s1 w1 h1;split at h;rename_i v2 s2 w2 h2;simp only [Xl,XM] at h;obtain ⟨rfl,rfl,rfl⟩:=h;exact Z43 (ZbP hC hm hK.1 h1 hR hE (λL1 y1 a1 a2 a3=>Z3x (ihb e1 s1 v2 s2 w2 L1 y1 R h2 a2 a3 (λL2 y2 b1 b2=>k L2 y2 (a1.trans b1) b2))));cases h;cases h
 | _=>
   intro hK e s v s' ws L w R h hR hE k;simp only [ZjO] at h;cases h
end
noncomputable def ZrJ (P:Program) [KD P] (od:Od) (nop:Nat->Nat->Bool) (call:Cf) (f:Nat) (args:List V) (s:S):Option (V×S×List Nat):=match P.funcs[f]? with
 | some fn => match fn.body with
   | some c => bif Nat.ble args.length fn.ntmps then (match ZjO P call (odS f od) fn.ntmps nop fn c (Z87 0 args) s with
     | some (v,s1,ws)=>some (v,s1,ws.filter (λk=>Nat.blt k s.n))
     | none=>none) else none
   | none=>none
 | none=>none
theorem Zn1 {P:Program} [KD P] {od:Od} (hO:ZmZ P od) {nop:Nat->Nat->Bool} {call:Cf} (hC:Z4h P call) (hm:P.follows .mixedOrders=true) (hN:ZjP P nop) {f:Nat} {args:List V} {s:S} {v:V} {s':S} {ws:List Nat} (h:ZrJ P od nop call f args s=some (v,s',ws)) (hB:bl s.n args=true) {L:Lc} {w} (hR:Rel L s w) :
 Calls P f (gl L args).toArray w (Ret λu w'=>∃ L',Nx s s' L L' w w' ws/\Rel L' s' w'/\u=ga L' v):=by
 unfold ZrJ at h;split at h;rename_i fn hf;split at h;rename_i c hb;obtain ⟨hl,h⟩:=JY h;split at h;rename_i v1 s1 w1 h1;simp only [Xl,XM] at h;obtain ⟨rfl,rfl,rfl⟩:=h;refine Z9J (n:=fn.ntmps) hf hb rfl (by simpa [Ja] using hl) ?_;rw [show ((gl L args).toArray).toList=gl L args from rfl,<- Z9W L args 0];exact Zn0 hC hm hN c (hO f fn c hf hb) _ _ _ _ _ L w _ h1 hR (λt v hv=>(Z24 s.n args).1 hB v (Z9X args 0 t v hv)) (λL' w' a1 a2=>⟨_,rfl,L',a1.sub (λk hk fx=>Yak.2 ⟨hk,X2 fx⟩),a2,rfl⟩);cases h;cases h;cases h
end Go.Sim
namespace Go.Proofs.YteibicnbkggiiaaGreatDoor
open Go Go.Eng Go.RowKit Go.Proofs
theorem Zva {P:Program} {n:Nat} {Q:Exit->Act->World->Prop} {e:Env} {w} {ops:Array Oper} {rest:List Oper} {an:Nat} {ty:TypeId} {pos:String} {af:Array Edge} {t u:Nat} {x:Operand} {ds:TypeDesc} [hu:Und P t ds] (vN:∃ l,ds=.interface l) (hx:ev e x=some .nilIface) (aw:Nat.blt an n=true) (kk:WL P n ops Q rest ((an,.B false) :: e) w) :
 WL P n ops Q (⟨some an,.binOp .neq t x (.const .nilIface) u,ty,pos,af,none⟩ :: rest) e w:=by
 refine Za (v:=.B false) ⟨λa ha=>?_⟩ aw kk;obtain ⟨l,rfl⟩:=vN;have hy:a.eval (.const .nilIface)=.nilIface:=rfl;simp only [execOp,ha.ev hx,hy];have:=run_equal_nil_nil (P:=P) (w:=w) t (by rw [hu.h,Program.methodsAt,hu.h]);simp [go_sem,binOp,eqGuard,this]
theorem Zg8 (w) (el:TypeId) (t:ByteArray):Stp [] w (Lib.bytesWorld w el t):=by
 refine ⟨rfl,rfl,rfl,?_,λb hb _=>Lib.bytesWorld_at_old w el _ b hb⟩;rw [Lib.bytesWorld_size];omega
open Go Go.Eng Go.RowKit Go.Proofs Go.Sim
def ZrK (g k:Nat):Bool:=Nat.beq g 178 && Nat.beq k 4
def Zdx (b:Bool) (v:V) (s:S):Option (Option (V×S×List Nat)):=some (bif b then some (v,s,[]) else none)
def kdI:V->Option Int
 | .i .i64 n=>some n
 | _=>none
def kdS:V->Option Str
 | .s t=>some t
 | _=>none
def kdF:V->Option Fct
 | .a [.i .i64 a,.s b,.i .i64 c,.i .i64 d,.i .i64 e,.i .i64 f]=>some ⟨a,b,c,d,e,f⟩
 | _=>none
def kdG:V->Option Sig
 | .a [.i .i64 a,.s b,.i .i64 c,.i .i64 d,.i .i64 e]=>some ⟨a,b,c,d,e⟩
 | _=>none
instance:KD Tryz.prog where
 l := [⟨3, Int, inferInstance, inferInstance, kdI, λL v a h => by unfold kdI at h; split at h <;> cases h; rfl⟩,
   ⟨9,Str,inferInstance,inferInstance,kdS,λL v a h=>by unfold kdS at h;split at h<;>cases h;rfl⟩,
   ⟨24,Fct,inferInstance,inferInstance,kdF,λL v a h=>by unfold kdF at h;split at h<;>cases h;rfl⟩,
   ⟨331,Sig,inferInstance,inferInstance,kdG,λL v a h=>by unfold kdG at h;split at h<;>cases h;rfl⟩]
theorem Znl {α:Type} [Z5 α] (w):SlV [] w (.N) ([]:List α):=⟨none,0,rfl,Xq _,by decide,λ_=>rfl,λi hi=>absurd hi (Xy i)⟩
def ZrL (p:Zcc):V×V:=(.a [.i .i64 p.1.kind,.s p.1.s,.i .i64 p.1.a,.i .i64 p.1.b,.i .i64 p.1.c],Sim.ofC p.2)
def eqN:List V->List Int->Bool
 | [],[]=>true
 | .i .i64 a :: r,b :: t=>decide (a=b) && eqN r t
 | _,_=>false
theorem ZjQ:∀ {cs:List V} {l:List Int},eqN cs l=true->cs=l.map (.i .i64)
 | [],[],_=>rfl
 | .i .i64 a :: r, b :: t, h => by
   simp only [eqN,Xd,decide_eq_true_eq] at h;rw [h.1,ZjQ h.2];rfl
 | [],_ :: _,h=>by cases h
 | .i .i64 a :: r,[],h=>by cases h
noncomputable def roN (s:S) (g:Nat) (l:List Int):Bool:=match s.m.get g with
 | some (.ro cs)=>eqN cs l
 | _=>false
theorem ZjR {L:Lc} {s:S} {w} (hR:Rel L s w) {g:Nat} {l:List Int} (hg:g<64) (h:roN s g l=true):∀ i u,l[i]?=some u->w.cell? ⟨g,i,none⟩=some (.I u):=by
 unfold roN at h;split at h;rename_i cs hc;have:=(hR.ob g _ hc).2;rw [hR.g g hg,ZjQ h] at this;intro i u hu;exact this i _ (by rw [XV,hu];rfl);cases h
noncomputable def jx (od:Od):Hk:=λcall f args s=>match args with
 | [.s t, .i k c] => match k with
   | .i32=>bif Nat.beq f 222 then Zdx (decide (0<=c) && decide (c<128)) (.b (decide (0<=Lib.indexByte t c.toNat.toUInt8))) s else none
   | .u8=>bif Nat.beq f 272 then Zdx true (.i .i64 (Lib.indexByte t c.toNat.toUInt8)) s else none
   | _=>none
 | [.s a, .s b] => bif Nat.beq f 213 then (match s.m.get 2 with
   | some .ig=>Zdx (Nat.blt a.length 4294967281) (.b (Lib.contains a b)) s
   | _=>some none) else none
 | [.s t] => bif Nat.beq f 275 then (match Lib.atoiAll t with
   | .ok v=>Zdx (Nat.ble t.length 1000000) (.t [.i .i64 v,.c .nilIface]) s
   | _=>some none) else none
 | [] => bif Nat.beq f 282 then (match Z4X s (.mp (Z28.map ZrL)) with
   | some s'=>some (some (.m s.n,s',[]))
   | none=>some none) else none
 | [.a [.b b0, .b b1, .b b2, .b b3, .b b4, .b b5, .b b6, .c (.N), .c (.N), z1, z2, z3], .i .i64 d, .i .i64 kn] => bif Nat.beq f 134 then
    Zdx (roN s 1 Z2b && roN s 5 Z3k) (.t [.i .i64 (J6 (Zr ⟨[b0,b1,b2,b3,b4,b5,b6],[],[]⟩ kn) 1 d).1,.i .i64 (J6 (Zr ⟨[b0,b1,b2,b3,b4,b5,b6],[],[]⟩ kn) 1 d).2]) s else none
 | [.s t,.f g x y]=>bif Nat.beq f 115 then some (ZrJ Tryz.prog od ZrK call f args s) else none
 | _=>none
theorem ZjS (w):(Instr.typeAssert .nilIface 20 248 true).run Tryz.prog w=.ok (.tuple #[.agg #[.I 0,.I 0],.B false]) w:=by kernel_rfl
theorem Zg9 (v7 v4 v5 v6:Value) (w) :
 CallsD Tryz.prog 178 #[v7,v4,v5,v6] .returning w (λe u' w'=>∃ v,e=.returned v/\(u'=.returning/\Stp [] w w')):=by
 refine callsD_of_wpS Tryz.func178 rfl λgR cs hu=>?_;have hc:gR={ gR with mode:=.returning }:=by rw [<- hu]
 apply wpS_seq;apply wpS_region;simp [wpOpsS,go_sem,recoverD,hu,Tryz.ntmps178,Exit.thenS];rw [hc];refine ZfL (n:=22) (e:=[(0,v7),(1,v4),(2,v5),(3,v6),(4,.nilIface)]) (Has.of rfl (by simp) (by
  intro p hp;simp only [Xa,Xo,or_false] at hp;rcases hp with rfl|rfl|rfl|rfl|rfl<;>kernel_rfl)) ?_
 refine W ?_;refine Za (Z7Z rfl ZjS) rfl ?_;refine W ?_;refine Z0 Z4 rfl ?_;rintro _ w1 ⟨bf,rfl,xw,ef,hT⟩;refine SB (us:=[.I 0,.I 0]) (by intro u hu;simp at hu;rcases hu with rfl|rfl<;>rfl) ef ?_;rintro _ w2 ⟨ax,ef'⟩;have hS:=hT.ow ax;refine W ?_;refine Zva ⟨_,rfl⟩ rfl rfl ?_;refine W ?_;first|refine ZdI rfl ?_|refine Z8Q rfl ?_
 exact ⟨⟨_,rfl⟩,rfl,hS⟩
theorem Zn2:ZjP Tryz.prog ZrK:=by
 intro g k h;unfold ZrK at h;simp only [Xd] at h;have h1:=Xp h.1;have h2:=Xp h.2;subst h1 h2;refine ⟨⟨_,inferInstance⟩,λcap w hc=>?_⟩
 match cap,hc with
 | [a,b,c,d],_=>exact Zg9 a b c d w
theorem Z4Y {b:Bool} {v u:V} {s s':S} {ws:List Nat} (h:Zdx b v s=some (some (u,s',ws))):b=true/\u=v/\s'=s/\ws=[]:=by
 unfold Zdx at h;cases b with
 | false=>cases h
 | true=>cases h;exact ⟨rfl,rfl,rfl,rfl⟩
theorem ZjT (od:Od) (hO:ZmZ Tryz.prog od):ZrH Tryz.prog (jx od):=by
 intro call hC f args s v s' ws h hB L w hR;have same:∀ {u:Value} {w':World},Stp [] w w'->u=ga L v->s'=s->ws=[]->∃ L',Nx s s' L L' w w' ws/\Rel L' s' w'/\u=ga L' v:=by
  rintro u w' hT rfl rfl rfl;exact ⟨L,⟨Xq _,λ_ _=>rfl,λj h1 h2=>absurd h2 (Ya0.2 h1),hT⟩,hR.up hT,rfl⟩
 unfold jx at h;split at h;rename_i t k c;split at h;obtain ⟨h1,h2⟩:=JY h;have:=Xp h1;subst this;obtain ⟨h3,rfl,rfl,rfl⟩:=Z4Y h2;simp only [Xd,decide_eq_true_eq] at h3;refine ⟨Fun.enters,(Tryz.strings_ContainsRune_ascii ⟨t.toArray⟩ c w h3.1 h3.2).mono ?_⟩;rintro e w' ⟨rfl,rfl⟩;exact ⟨_,rfl,same (Stp.refl _ _) rfl rfl rfl⟩;obtain ⟨h1,h2⟩:=JY h;have:=Xp h1;subst this;obtain ⟨h3,rfl,rfl,rfl⟩:=Z4Y h2;refine ⟨Fun.enters,(Tryz.strings_IndexByte ⟨t.toArray⟩ c w).mono ?_⟩;rintro e w' ⟨rfl,rfl⟩;exact ⟨_,rfl,same (Stp.refl _ _) rfl rfl rfl⟩;cases h;rename_i a b;obtain ⟨h1,h2⟩:=JY h;have:=Xp h1;subst this;split at h2;rename_i hg;obtain ⟨h3,rfl,rfl,rfl⟩:=Z4Y h2;obtain ⟨_,m,dN⟩:=hR.ob _ _ hg;rw [hR.g _ (by decide)] at dN;refine ⟨Fun.enters,(Tryz.strings_Contains ⟨a.toArray⟩ ⟨b.toArray⟩ m w (by rw [Jy];exact Xg h3) dN).mono ?_⟩;rintro e w' ⟨rfl,rfl⟩;exact ⟨_,rfl,same (Stp.refl _ _) rfl rfl rfl⟩;cases h2;rename_i t;obtain ⟨h1,h2⟩:=JY h;have:=Xp h1;subst this;split at h2;rename_i x hx;obtain ⟨h3,rfl,rfl,rfl⟩:=Z4Y h2;have:=Xg h3;refine ⟨Fun.enters,(Tryz.strconv_Atoi_ok ⟨t.toArray⟩ (by rw [Jy];omega) x (by simpa using hx) w).mono ?_⟩;rintro e w' ⟨rfl,hw⟩;refine ⟨_,rfl,same ?_ rfl rfl rfl⟩;rcases hw with rfl|⟨x,rfl⟩
 exact Stp.refl _ _;exact Zg8 _ _ _;cases h2;obtain ⟨h1,h2⟩:=JY h;have:=Xp h1;subst this;split at h2;rename_i s1 hn;cases h2;refine ⟨Fun.enters,(Z2N w).mono ?_⟩;rintro _ w' ⟨u,rfl,m,l,rfl,⟨es,c,q1,q2,q3⟩,hp,hT,hm⟩;have aN:Ob (upd L s.n (m,0)) w' s.n (.mp (Z28.map ZrL)):=⟨l.map ZrL,hp.map _,es,c,by rw [ZS];exact q1,by rw [q2,XY];rfl,by rw [q3,XY];exact YaF λp _=>by show p.2=ga _ (Sim.ofC p.2);rw [Z7E]⟩
 obtain ⟨a1,a2,a3⟩:=hR.new hn hT hm aN;exact ⟨_,rfl,_,a2,a1,by simp only [ga,ZS]⟩;cases h2;rename_i b0 b1 b2 b3 b4 b5 b6 z1 z2 z3 d kn;obtain ⟨h1,h2⟩:=JY h;have:=Xp h1;subst this;obtain ⟨h3,rfl,rfl,rfl⟩:=Z4Y h2;simp only [Xd] at h3;have hc:Z4D w ⟨[b0,b1,b2,b3,b4,b5,b6],[],[]⟩ (.N) (.N) (ga L z1) (ga L z2) (ga L z3):=⟨Znl _,Znl _,ZjR hR (by decide) h3.1,ZjR hR (by decide) h3.2,⟨rfl,by simp,by simp⟩⟩
 refine ⟨Fun.enters,(Z5s d kn _ _ _ _ _ _ w hc).mono ?_⟩;rintro _ w' ⟨u,rfl,rfl,hT⟩;exact ⟨_,rfl,same hT rfl rfl rfl⟩;rename_i t g x y;obtain ⟨h1,h2⟩:=JY h;have:=Xp h1;subst this;exact ⟨Fun.enters,Zn1 hO hC mixed Zn2 (XL h2) hB hR⟩;cases h
end Go.Proofs.YteibicnbkggiiaaGreatDoor
namespace Go.Sim
open Go Go.Eng Go.RowKit Go.Proofs
mutual
def eqV:V->V->Bool
 | .i k a,.i k' b=>decide (k=k') && decide (a=b)
 | .b x,.b y=>decide (x=y)
 | .s a,.s b=>decide (a=b)
 | .p b o,.p b' o'=>Nat.beq b b' && Nat.beq o o'
 | .l b o,.l b' o'=>Nat.beq b b' && Nat.beq o o'
 | .a l,.a l'=>eqL l l'
 | .t l,.t l'=>eqL l l'
 | .c (.N),.c (.N)=>true
 | _,_=>false
def eqL:List V->List V->Bool
 | [],[]=>true
 | a :: r,b :: t=>eqV a b && eqL r t
 | _,_=>false
end
mutual
theorem ZjU:∀ a b,eqV a b=true->a=b
 | .i k a,b,h=>by cases b<;>first|(cases h;done)|(simp only [eqV,Xd,decide_eq_true_eq] at h;rw [h.1,h.2])
 | .b x,b,h=>by cases b<;>first|(cases h;done)|(simp only [eqV,decide_eq_true_eq] at h;rw [h])
 | .s x,b,h=>by cases b<;>first|(cases h;done)|(simp only [eqV,decide_eq_true_eq] at h;rw [h])
 | .p x o,b,h=>by cases b<;>first|(cases h;done)|(simp only [eqV,Xd] at h;rw [Xp h.1,Xp h.2])
 | .l x o,b,h=>by cases b<;>first|(cases h;done)|(simp only [eqV,Xd] at h;rw [Xp h.1,Xp h.2])
 | .a l,b,h=>by cases b<;>first|(cases h;done)|(simp only [eqV] at h;rw [Z5F l _ h])
 | .t l,b,h=>by cases b<;>first|(cases h;done)|(simp only [eqV] at h;rw [Z5F l _ h])
 | .c v, b, h => by
   unfold eqV at h;split at h<;>first|(cases h;done)|simp_all
 | .f ..,b,h=>by cases b<;>cases h
 | .m ..,b,h=>by cases b<;>cases h
 | .q ..,b,h=>by cases b<;>cases h
 | .z ..,b,h=>by cases b<;>cases h
theorem Z5F:∀ l t,eqL l t=true->l=t
 | [],[],_=>rfl
 | a :: r, b :: t, h => by
   simp only [eqL,Xd] at h;rw [ZjU a b h.1,Z5F r t h.2]
 | [],_ :: _,h=>by cases h
 | _ :: _,[],h=>by cases h
end
def eqO:O->O->Bool
 | .c T z cs,.c T' z' cs'=>Nat.beq T T' && Nat.beq z z' && eqL cs cs'
 | .ro cs,.ro cs'=>eqL cs cs'
 | .ig,.ig=>true
 | _,_=>false
theorem ZrM {a b:O} (h:eqO a b=true):a=b:=by
 unfold eqO at h;split at h;simp only [Xd] at h;rw [Xp h.1.1,Xp h.1.2,Z5F _ _ h.2];rw [Z5F _ _ h];rfl;cases h
noncomputable def Zdy (a s:S):Bool:=Nat.beq a.n s.n && a.m.all λp=>match p.2,s.m.get p.1 with
 | some o,some o'=>eqO o o'
 | none,_=>true
 | _,_=>false
theorem ZjV {α:Type}:∀ {l:List (Nat×α)} {k:Nat} {v:α},lk l k=some v->(k,v)∈l
 | [],_,_,h=>by cases h
 | (j, u) :: r, k, v, h => by
   rw [Z4U] at h;by_cases e:j=k;rw [if_pos e] at h;cases h;subst e;exact .head _;rw [if_neg e] at h;exact .tail _ (ZjV h)
theorem ZeC {α:Type} {t:Tr α} {k:Nat} {v:α} (h:t.get k=some v):(k,some v)∈t:=by
 unfold Tr.get at h;cases hl:lk t k with
 | none=>rw [hl] at h;cases h
 | some u=>rw [hl] at h;cases h;exact ZjV hl
theorem Z9Y {a s:S} (h:Zdy a s=true):a.n=s.n/\∀ k o,a.m.get k=some o->s.m.get k=some o:=by
 simp only [Zdy,Xd] at h;refine ⟨Xp h.1,λk o ho=>?_⟩;have:=Xx.1 h.2 _ (ZeC ho);dsimp only at this;split at this;rename_i o1 o2 h1 h2;cases h1;rw [h2,ZrM this];rename_i h1;cases h1;cases this
theorem Rel.sub {L:Lc} {a s:S} {w} (h:Rel L s w) (hs:Zdy a s=true):Rel L a w:=by
 obtain ⟨h1,h2⟩:=Z9Y hs;refine ⟨h.g,λk o ho=>h.ob k o (h2 k o ho),λk o ho=>by rw [h1];exact h.bn k o (h2 k o ho),λj k hj hk he=>?_,by rw [h1];exact h.n64⟩;obtain ⟨x,hx⟩:=Yac.1 hj;obtain ⟨y,hy⟩:=Yac.1 hk;exact h.inj j k (by rw [h2 j x hx];rfl) (by rw [h2 k y hy];rfl) he
structure En where
 f:Nat
 args:List V
 a:S
 v:V
 r:Option S
noncomputable def Zn3 (f:Nat) (args:List V) (s:S):List En->Option (V×S×List Nat)
 | []=>none
 | E :: t => bif Nat.beq E.f f && eqL E.args args && Zdy E.a s then (match E.r with
   | none=>some (E.v,s,[])
   | some s1=>some (E.v,s1,[])) else Zn3 f args s t
noncomputable def Zdz (E:En):Option (V×S×List Nat)->Bool
 | some (v, s, []) => eqV E.v v && bl E.a.n E.args && (match E.r with
   | none=>bd E.a.n E.v
   | some s1=>Zdy s1 s)
 | _=>false
def ZrN (P:Program) (E:En):Prop:=∀ L w s,Rel L s w->Zdy E.a s=true->Enters P E.f/\Calls P E.f (gl L E.args).toArray w (Ret λu w'=>match E.r with
 | none=>u=ga L E.v/\Stp [] w w'
 | some s1=>∃ L',Nx s s1 L L' w w' []/\Rel L' s1 w'/\u=ga L' E.v)
theorem Z4Z {P:Program} {call:Cf} (hC:Z4h P call) {E:En} (h:Zdz E (call E.f E.args E.a)=true):ZrN P E:=by
 intro L w s hR hs;generalize hf:call E.f E.args E.a=r at h;unfold Zdz at h;split at h;rename_i v s1;simp only [Xd] at h;obtain ⟨⟨h1,h2⟩,h3⟩:=h;have h1:=ZjU _ _ h1;subst h1;have hn:=(Z9Y hs).1;obtain ⟨q1,q2⟩:=hC _ _ _ _ _ _ hf h2 L w (hR.sub hs);refine ⟨q1,q2.mono ?_⟩;rintro _ w' ⟨u,rfl,L',hN,vO,rfl⟩;refine ⟨_,rfl,?_⟩;split at h3;exact ⟨Z64 hN.ag _ h3,by simpa [ids] using hN.st⟩;rename_i s2 hr;have hm:=(Z9Y h3).1;exact ⟨L',⟨by have:=hN.le;omega,λk hk=>hN.ag k (by omega),λk h1 h2=>by have:=hN.nw k (by omega) (by omega);simpa [ids] using this,by simpa [ids] using hN.st⟩,vO.sub h3,rfl⟩;cases h
theorem ZeD {P:Program} {f:Nat} {args:List V} {s:S}:∀ {t:List En},(∀ E∈t,ZrN P E)->∀ {v s' ws},Zn3 f args s t=some (v,s',ws)->bl s.n args=true->∀ L w,Rel L s w->Enters P f/\Calls P f (gl L args).toArray w (Ret λu w'=>∃ L',Nx s s' L L' w w' ws/\Rel L' s' w'/\u=ga L' v)
 | [],_,_,_,_,h,_,_,_,_=>by cases h
 | E :: t, ht, v, s', ws, h, hb, L, w, hR => by
   simp only [Zn3] at h;cases hc:(Nat.beq E.f f && eqL E.args args && Zdy E.a s) with
   | false=>rw [hc] at h;exact ZeD (λE' vP=>ht E' (.tail _ vP)) h hb L w hR
   | true=>
     rw [hc] at h;simp only [Xd] at hc;obtain ⟨⟨c1,c2⟩,c3⟩:=hc;have c1:=Xp c1;have c2:=Z5F _ _ c2;subst c1 c2;obtain ⟨q1,q2⟩:=ht E (.head _) L w s hR c3;refine ⟨q1,q2.mono ?_⟩;rintro _ w' ⟨u,rfl,hu⟩;refine ⟨_,rfl,?_⟩;simp only [cond_true] at h;split at h;rename_i hr;rw [hr] at hu;cases h;obtain ⟨rfl,hT⟩:=hu;exact ⟨L,⟨Xq _,λ_ _=>rfl,λj h1 h2=>absurd h2 (Ya0.2 h1),by simpa [ids] using hT⟩,hR.up hT,rfl⟩;rename_i s1 hr;rw [hr] at hu;cases h;exact hu
end Go.Sim
