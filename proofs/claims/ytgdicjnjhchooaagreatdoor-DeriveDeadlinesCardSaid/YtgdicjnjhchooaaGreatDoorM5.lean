/-
Contracts and plain laws, merged out of own texts.
-/
import Derived.Test.YtgdicjnjhchooaaGreatDoorM4
import Derived.ChangeKeysEq
set_option linter.unusedVariables false
set_option linter.unusedSimpArgs false
set_option maxHeartbeats 4000000
set_option maxRecDepth 20000
namespace Go.Proofs.YtgdicjnjhchooaaGreatDoor
open Go Go.Eng Go.RowKit
theorem Zb7 (n a b:Int) (w):CC 27 #[.I n,.I a,.I b] w λr w'=>r=.B (decide (a<=n/\n<=b))/\Stp [] w w':=by
 refine cW3 15 Tryz.func27 ?_
 (refine QP ?_ ?_<;>intro hg)
 refine RU ?_;exact ⟨by congr 1;rw [decide_eq_decide];exact ⟨λh=>⟨by omega,h⟩,λh=>h.2⟩,Stp.refl _ _⟩;refine RU ?_;exact ⟨by congr 1;symm;exact decide_eq_false (λh=>by omega),Stp.refl _ _⟩
theorem Z8k (a b c d e:Int) (w):(Instr.build 83 #[(0,.I a),(1,.I (-1)),(3,.I b),(4,.I c),(5,.I d),(6,.I e)]).run Tryz.prog w=.ok (Ziq [a,-1,0,b,c,d,e]) w:=by kernel_rfl
theorem Zfg (op a b r:Int):(Jk op a b r).length<=1:=by
 unfold Jk;repeat' split
 all_goals first|exact Xl _|exact Xr _
theorem Z4Z (o:Int->Bool) (ev:List Int) (C:List Ins):∀ (f i:Nat) (st:List Int) (sp:List Spn),(Z4K o ev C f i st sp).2.1.length<=sp.length+f
 | 0,_,_,_=>by simp [Z4K]
 | f + 1, i, st, sp => by
   rw [Z4K];split;simp;split;have:=Z4Z o ev C f (C.getD i ⟨0,0⟩).n.toNat st sp;omega;split;have:=Z4Z o ev C f (if ZW st 0=0 then (C.getD i ⟨0,0⟩).n.toNat else i+1) st.dropLast sp;omega;split;refine Xh (Z4Z o ev C f _ _ _) ?_;have:=Zfg (C.getD i ⟨0,0⟩).op (ZW st 1) (ZW st 0) (JC o ev (C.getD i ⟨0,0⟩) (ZW st 1) (ZW st 0)).1;rw [Xa];omega;simp
def evL (c:Cas) (f:Fct):List Int:=
 let s:=Z1x c.atts c.crrs f.entry f.to_
 [f.day,if s.2=true then s.1.day else -1,if s.2=true then s.1.extra else 0,f.by_,f.to_,c.court,f.amt]
def opn (c:Cas):Int->Bool:=Ze c.cal c.today
def noD:Dln×Bool:=(default,false)
def mkD (c:Cas) (f:Fct) (r:Int) (q:Cr) (day due:Int) (sp:List Spn):Dln:=
 let s:=Z1x c.atts c.crrs f.entry f.to_
 let a:=Z46 c.fcts f q.unl due
 { rule := q.name, trig := f, party := f.to_, due := due, stat := if a.2 = true then 1 else if due < c.today then 2 else 0,
   reas:=[⟨1,f.entry,f.day⟩,⟨2,r,0⟩]++(if s.2=true/\(Z0p q.cnd=true\/Z0p q.due=true) then [⟨3,s.1.att,s.1.day⟩] else [])
    ++ sp.map (λx=>⟨4,x.1,x.2⟩)++(Z23 f.day day c.stys).map (λx=>⟨5,x.1,x.2⟩)++(if a.2=true then [⟨6,a.1.entry,a.1.day⟩] else []) }
def JQ (c:Cas) (f:Fct) (r:Int):Dln×Bool:=
 if ¬ (0<=r/\r<=(c.ruls.length:Int) - 1) then noD else
 let q:=c.ruls.getD r.toNat crZ
 if q.on≠f.kind\/ZhP c.ruls q.name f.day≠r then noD else
 let x:=J7 (opn c) (evL c f) q.cnd
 if x.2.2≠0\/x.1=0 then noD else
 let y:=J7 (opn c) (evL c f) q.due
 if y.2.2≠0 then noD else
 let z:=Z0N f.day y.1 c.stys
 if z.2≠0 then noD else
 if z.1=y.1 then (mkD c f r q y.1 y.1 (x.2.1++y.2.1),true) else
 let n:=ZE (opn c) 1 z.1
 if n.2≠0 then noD else (mkD c f r q y.1 n.1 (x.2.1++y.2.1++[(z.1,n.1)]),true)
structure Z3x (c:Cas):Prop where
 fl:c.fcts.length<=100000
 rl:c.ruls.length<=1024
 cnd:∀ q∈c.ruls,Z35 q.cnd=(2,0)
 due:∀ q∈c.ruls,Z35 q.due=(3,0)
 att:Zic c.atts c.crrs
 ext:∀ x∈c.crrs,0<=x.extra/\x.extra<=1000
 sty:ZaI c.stys
 court:0<=c.court/\c.court<=15
 today:0<=c.today/\c.today<=3652058
structure Z0l (f:Fct):Prop where
 day:0<=f.day/\f.day<=3652058
 by_:0<=f.by_/\f.by_<=63
 to_:0<=f.to_/\f.to_<=63
 amt:-2147483647<=f.amt/\f.amt<=2147483647
structure Z2R (w:World) (c:Cas) (R:Z0o):Prop where
 ff:SlV [] w R.fv c.fcts
 rr:SlV [] w R.rv c.ruls
 aa:SlV [] w R.av c.atts
 cc:SlV [] w R.cv c.crrs
 ss:SlV [] w R.sv c.stys
 cal:Z1y w c.cal R.hv R.lv R.zo R.zs R.hr
 one:R.zo.oneCell'=true/\R.zs.oneCell'=true/\R.hr.oneCell'=true
theorem Z2R.up {w w':World} {c:Cas} {R:Z0o} (h:Z2R w c R) (hS:Stp [] w w'):Z2R w' c R:=⟨h.ff.up hS,h.rr.up hS,h.aa.up hS,h.cc.up hS,h.ss.up hS,h.cal.up hS,h.one⟩
theorem Z3y {o:Int->Bool} {ev:List Int} {C:List Ins} {t:Int} (bF:ZaB ev) {sh:List (Option Shp)} (ak:sh.length=C.length) (bW:∀ i,i<C.length->∃ s nx,Zb4 C sh i s nx) (eo:sh.getD (C.length - 1) none=some [t]) :
 ∀ (f i:Nat) (s:Shp) (st:List Int) (sp sp':List Spn) (v:Int),i<C.length->sh.getD i none=some s->JN s st->C.length<=f+i->Z4K o ev C f i st sp=(v,sp',0)->vOk t v
 | 0,i,s,st,sp,sp',v,hi,hs,ax,hf,hr=>by omega
 | f + 1, i, s, st, sp, sp', v, hi, hs, ax, hf, hr => by
   obtain ⟨s',nx,hg⟩:=bW i hi;obtain rfl:s'=s:=by have:=hg.at_;rw [hs] at this;simpa using this.symm
   rw [Z4K] at hr;have hn:=hg.next;have hstop:=hg.stop;have jr:=hg.jump;have nH:=hg.on;generalize C.getD i ⟨0,0⟩=x at *
   try dsimp only at hr
   by_cases bT:x.op=24;rw [if_pos bT] at hr;obtain ⟨a1,a2⟩:=hstop bT;rw [show i=C.length - 1 by omega,eo] at hs;obtain rfl:[t]=s':=by simpa using hs
   obtain ⟨u,rfl,hu⟩:=ax.one_inv;simp [ZW] at hr;rw [<- hr.1];exact hu;rw [if_neg bT] at hr;by_cases bJ:x.op=13;rw [if_pos bJ] at hr;obtain ⟨j1,j2,j3⟩:=jr (.inl bJ);have aQ:=ZcK bJ hn;subst aQ;exact Z3y bF ak bW eo f x.n.toNat _ st sp sp' v (by omega) j3 ax (by omega) hr;rw [if_neg bJ] at hr;by_cases cw:x.op=14;rw [if_pos cw] at hr;obtain ⟨j1,j2,j3⟩:=jr (.inr cw);obtain ⟨o1,o2⟩:=nH bT bJ;have aQ:=ZcL cw hn;have eh:JN nx st.dropLast:=by
    rw [aQ,Yac,Yac,<- ax.1];exact ax.take _
   by_cases hb:ZW st 0=0;rw [if_pos hb] at hr;exact Z3y bF ak bW eo f _ _ _ sp sp' v (by omega) j3 eh (by omega) hr;rw [if_neg hb] at hr;exact Z3y bF ak bW eo f _ _ _ sp sp' v (by omega) o2 eh (by omega) hr;rw [if_neg cw] at hr;obtain ⟨o1,o2⟩:=nH bT bJ;by_cases he:(JC o ev x (ZW st 1) (ZW st 0)).2=0;rw [if_pos he] at hr;exact Z3y bF ak bW eo f _ _ _ _ sp' v (by omega) o2 (Z6S bF hn bT bJ cw ax he) (by omega) hr;rw [if_neg he] at hr;simp only [XM] at hr;exact absurd hr.2.2 he
theorem Z4r {o:Int->Bool} {ev:List Int} {C:List Ins} {t:Int} (bF:ZaB ev) (hv:Z35 C=(t,0)) (h:(J7 o ev C).2.2=0):vOk t (J7 o ev C).1:=by
 obtain ⟨h0,pN,sh,ak,aL,fG,gK,kh,bW⟩:=Z4X hv;exact Z3y bF ak bW kh C.length 0 [] [] [] _ _ h0 gK JN.nil (by omega) (show J7 o ev C=((J7 o ev C).1,(J7 o ev C).2.1,0) by rw [<- h])
theorem Z2S {o:Int->Bool} {ev:List Int} {C:List Ins} {t:Int} (hv:Z35 C=(t,0)):(J7 o ev C).2.1.length<=200:=by
 obtain ⟨h0,pN,_⟩:=Z4X hv;have:=Z4Z o ev C C.length 0 [] [];unfold J7;simp only [Xi] at this;omega
def Z8l (s:AlS):Prop:=∀ y∈s.out,-1<=y.2/\y.2<=3652058
theorem Zir {l:List Rtn} {crrs:List Crr} {s:AlS} {x:Spn} (h:Z8l s) (hx:-1<=x.2/\x.2<=3652058):Z8l (JX l crrs s x):=by
 unfold JX;dsimp only;split;exact h;have ht:Z8l (if ZA l crrs x.1<s.least then (⟨ZA l crrs x.1,false,[]⟩:AlS) else s):=by
  split;intro y hy;cases hy;exact h
 generalize (if ZA l crrs x.1<s.least then (⟨ZA l crrs x.1,false,[]⟩:AlS) else s)=t at *;split;rename_i y hy;split;intro z hz;rcases Xd.1 hz with hz|hz
 exact ht z (List.dropLast_subset _ hz);simp only [Xm] at hz;subst hz;exact hx;intro z hz;rcases Xd.1 hz with hz|hz
 exact ht z hz;simp only [Xm] at hz;subst hz;exact hx;intro z hz;rcases Xd.1 hz with hz|hz
 exact ht z hz;simp only [Xm] at hz;subst hz;exact hx
theorem Zb8 {l:List Rtn} {crrs:List Crr}:∀ (L:List Spn) (s:AlS),Z8l s->(∀ x∈L,-1<=x.2/\x.2<=3652058)->Z8l (L.foldl (JX l crrs) s)
 | [],_,h,_=>h
 | x :: L,s,h,hL=>Zb8 L _ (Zir h (hL x (by simp))) (λy hy=>hL y (by simp [hy]))
theorem Zis (l:List Rtn) (crrs:List Crr) {sent:Int} (hs:0<=sent/\sent<=3652058):-1<=(Z4R l crrs sent).1/\(Z4R l crrs sent).1<=3652058:=by
 unfold Z4R;have ho:Z8l (Z9p l crrs sent):=Zb8 _ _ (λy hy=>by cases hy) (λx hx=>⟨(Z71 hs hx).2.2.1,(Z71 hs hx).2.2.2⟩);dsimp only;split;simp;split;rename_i y hy;exact ho y (List.mem_of_getLast? hy);simp
theorem Ze4 (l:List Atp) (crrs:List Crr) (en pa:Int):∀ (k:Nat),k<=l.length->∀ s∈ofG l crrs en pa k,∃ j,∃ h:j<l.length,s=ofE crrs l[j] j
 | 0,_,s,h=>by simp [ofG] at h
 | k + 1, hk, s, h => by
   rw [ofG] at h;rcases Xd.1 h with h|h
   exact Ze4 l crrs en pa k (by omega) s h;split at h;simp only [Xm] at h;exact ⟨k,by omega,by rw [h];simp [show k<l.length by omega]⟩;cases h
theorem Z8m (l:List Svc):∀ k,k<l.length->Z0k l k∈l
 | 0,h=>by simp [Z0k,h]
 | k + 1, h => by
   rw [Z0k];split;simp [h];exact Z8m l k (by omega)
theorem ZlI {l:List Atp} {crrs:List Crr} (en pa:Int) (ho:Zic l crrs) (hx:∀ x∈crrs,0<=x.extra/\x.extra<=1000) :
 -1<=(Z1x l crrs en pa).1.day/\(Z1x l crrs en pa).1.day<=3652058/\0<=(Z1x l crrs en pa).1.extra/\(Z1x l crrs en pa).1.extra<=1000:=by
 have hm:=Ze4 l crrs en pa l.length (Xl _);show -1<=(JY (ofG l crrs en pa l.length)).1.day/\(JY (ofG l crrs en pa l.length)).1.day<=3652058/\0<=(JY (ofG l crrs en pa l.length)).1.extra/\(JY (ofG l crrs en pa l.length)).1.extra<=1000;generalize ofG l crrs en pa l.length=L at *;unfold JY;split;simp;rename_i bi;obtain ⟨j,hj,e⟩:=hm _ (Z8m L (L.length - 1) (by have:=X7.2 bi;omega));dsimp only;rw [e];have hs:=Zis l[j].rets crrs (ho.sent _ (Xb hj));have hc:=ho.crr _ (Xb hj);obtain ⟨m,hm⟩:∃ m:Nat,l[j].crr=m:=⟨l[j].crr.toNat,by omega⟩
 have eT:m<crrs.length:=by omega
 have kV:=hx _ (Xb eT);simp only [ofE,hm];rw [show crrs.getD ((m:Int).toNat) ⟨0,0⟩=crrs[m] by simp [eT]];omega
theorem ZcM {c:Cas} {f:Fct} (ho:Z3x c) (hf:Z0l f):ZaB (evL c f):=by
 have h:=ZlI f.entry f.to_ ho.att ho.ext;have h1:=hf.day;have h2:=hf.by_;have h3:=hf.to_;have h4:=hf.amt;have h5:=ho.court;unfold evL;dsimp only;generalize Z1x c.atts c.crrs f.entry f.to_=s at *;refine ⟨rfl,h1,?_,?_⟩;show -1<=(if s.2=true then s.1.day else -1)/\(if s.2=true then s.1.day else -1)<=3652058;split<;>omega
 intro i cy ld;obtain rfl|rfl|rfl|rfl|rfl:i=2\/i=3\/i=4\/i=5\/i=6:=by omega
 show -2147483647<=(if s.2=true then s.1.extra else 0)/\(if s.2=true then s.1.extra else 0)<=2147483647;split<;>omega
 show -2147483647<=f.by_/\f.by_<=2147483647;omega;show -2147483647<=f.to_/\f.to_<=2147483647;omega;show -2147483647<=c.court/\c.court<=2147483647;omega;exact h4
theorem JJ (w):(Instr.build 45 #[]).run Tryz.prog w=.ok (.agg (dlC (default:Dln) J3).toArray) w:=by kernel_rfl
theorem JK:∀ u∈dlC (default:Dln) J3,u.oneCell'=true:=by decide
theorem Z50 (ev:List Int):∀ u∈evC ev,u.oneCell'=true:=by
 intro u hu;unfold evC at hu;simp only [Xc,Xn,or_false] at hu;rcases hu with rfl|rfl|rfl|rfl|rfl|rfl|rfl<;>rfl
theorem Ze5 (s:Str) (f:Fct) (a b:Int) (w):(Instr.build 45 #[(0,str s),(1,aG f),(2,.I a),(3,.I b)]).run Tryz.prog w=.ok (.agg (dlC (⟨s,f,a,b,0,[]⟩:Dln) J3).toArray) w:=by kernel_rfl
theorem Z7a (a b:Int) (w):(Instr.build 94 #[(0,.I a),(1,.I b)]).run Tryz.prog w=.ok (.agg (Z2.enc ((a,b):Spn)).toArray) w:=by kernel_rfl
theorem Z0h (d:Dln) {rv:Value} (h:rv.oneCell'=true):∀ u∈dlC d rv,u.oneCell'=true:=by
 intro u hu;simp only [dlC,Xc,Xn,or_false] at hu;rcases hu with rfl|rfl|rfl|rfl|rfl|rfl|rfl|rfl|rfl|rfl|rfl<;>first|rfl|assumption
theorem Nte.up {w0 w w':World} {bd:Nat} {d:Dln} {rv:Value} (h:Nte w0 bd w d rv) (hT:Stp [] w w'):Nte w0 bd w' d rv:=⟨h.blk.up hT,h.row.up hT,h.stp.trans hT.mn,h.lt,h.len⟩
theorem Nte.stat {w0 w w':World} {bd:Nat} {d d':Dln} {rv:Value} (h:Nte w0 bd w d rv) (hT:Stp [bd] w w') (hb:Blk w' bd 45 (dlC d' rv)) (he:d'.reas=d.reas):Nte w0 bd w' d' rv:=
 ⟨hb,by rw [he];exact h.row.ext hT (λb iu=>⟨iu,λh2=>by have:=(h.row.ob_le b h2).1;have:=h.lt;simp at iu;omega⟩) (λb hb=>.inl hb),h.stp.trans hT,h.lt,by rw [he];exact h.len⟩
abbrev dU (q:Cr) (f:Fct) (due st:Int) (l:List Rsn):Dln:=⟨q.name,f,f.to_,due,st,l⟩
theorem Z9z (c:Cas) (R:Z0o) (f:Fct) (r:Int) (w) (hv:Z2R w c R) (ho:Z3x c) (hf:Z0l f) (hr:I64 r) :
 CC 8 #[.agg (Jc c R).toArray,aG f,.I r] w λv w'=>∃ rv,v=.tuple #[.agg (dlC (JQ c f r).1 rv).toArray,.B (JQ c f r).2]/\Zk 96 w w' rv (JQ c f r).1.reas:=by
 generalize aq:JQ c f r=o;have fm:=ho.rl;refine cW3 246 Tryz.func8 ?_;refine W ?_;refine BX (Stp.refl [] w) λb3 w1 h3 e3 _ hS=>?_;replace e3:Blk w1 b3 37 (Jc c R):=e3;refine BX hS λb4 w2 h4 e4 hT hS=>?_;replace e4:Blk w2 b4 40 (Z2.enc f):=e4;replace e3:=e3.up hT;refine W ?_;refine Z0 Z4 rfl ?_;rintro _ w3 ⟨b6,rfl,dS,e6,hT⟩;have g6:w.heap.size<=b6:=Xh hS.size dS;replace e6:Blk w3 b6 45 (dlC (default:Dln) J3):=e6;replace e3:=e3.up hT;replace e4:=e4.up hT;replace hS:=hS.trans hT;clear hT;have kj:=hv.up hS;have cr:=kj.rr;refine W ?_;refine CP hS (Zb7 _ _ _ _) λw4 hT hS=>?_;replace e3:=e3.up hT;replace e4:=e4.up hT;replace e6:=e6.up hT;clear hT kj cr;by_cases hw:0<=r/\r<=(c.ruls.length:Int) - 1
 rotate_left
 rw [JQ,if_pos hw] at aq;rw [decide_eq_false hw];refine QO ?_;refine Z5 (vs:=[]) rfl JJ rfl ?_;refine SB (us:=dlC (default:Dln) J3) JK e6 ?_;rintro _ wz ⟨hT,e6⟩;refine W ?_;refine Zq rfl rfl rfl e6 rfl rfl ?_;subst aq;exact .mk ⟨J3,rfl,Zk.nil.up (hS.ow hT)⟩;rw [JQ,if_neg (not_not_intro hw)] at aq;rw [decide_eq_true hw];obtain ⟨i,rfl⟩:∃ i:Nat,r=i:=⟨r.toNat,by omega⟩
 have hi:i<c.ruls.length:=by omega
 rw [show c.ruls.getD ((i:Int).toNat) crZ=c.ruls[i] by simp [hi]] at aq;dsimp only at aq;have jX:=(ho.cnd _ (Xb hi))
 have iL:=(ho.due _ (Xb hi))
 have fH:=hv.up hS;have cr:=fH.rr;obtain ⟨cs,⟨kc,kd,rfl,gc,gd⟩,am⟩:=hv.rr.cell hi;refine QO ?_;refine Z9 (Z2r rfl rfl cr hi ⟨kc,kd,rfl,gc.up hS,gd.up hS⟩ (λj u hu=>hS.cell0 (am j u hu))) rfl ?_;refine Z0 Z4 rfl ?_;rintro _ w5 ⟨b8,rfl,dG,e8,hT⟩;refine SB (us:=crC c.ruls[i] kc kd) (Z1s gc gd) e8 ?_;rintro _ w6 ⟨an,e8⟩;replace hT:=hT.ow an;replace e3:=e3.up hT;replace e4:=e4.up hT;replace e6:=e6.up hT;replace hS:=hS.trans hT;clear hT an am cr fH;generalize hq:c.ruls[i]=q at *;have cr:=(hv.up hS).rr;have l8:=e8.lt
 (refine QP ?_ ?_<;>intro hg)
 rw [if_pos (.inl (by assumption))] at aq;refine Z5 (vs:=[]) rfl JJ rfl ?_;refine SB (us:=dlC (default:Dln) J3) JK e6 ?_;rintro _ wz ⟨hT,e6⟩;refine W ?_;refine Zq rfl rfl rfl e6 rfl rfl ?_;subst aq;exact .mk ⟨J3,rfl,Zk.nil.up (hS.ow hT)⟩;refine CP hS (ZaD R.rv c.ruls q.name f.day _ cr) λw7 hT hS=>?_;replace e3:=e3.up hT;replace e4:=e4.up hT;replace e6:=e6.up hT;replace e8:=e8.up hT;clear cr;by_cases ha:ZhP c.ruls q.name f.day=i
 rotate_left
 rw [if_pos (.inr ha)] at aq;refine QO ?_;refine Z5 (vs:=[]) rfl JJ rfl ?_;refine SB (us:=dlC (default:Dln) J3) JK e6 ?_;rintro _ wz ⟨hT,e6⟩;refine W ?_;refine Zq rfl rfl rfl e6 rfl rfl ?_;subst aq;exact .mk ⟨J3,rfl,Zk.nil.up (hS.ow hT)⟩;rw [if_neg (λh=>h.elim (λh=>absurd h (by assumption)) (λh=>h ha))] at aq;refine QO ?_;refine Z5 (vs:=[(0,.I f.day),(1,.I (-1)),(3,.I f.by_),(4,.I f.to_),(5,.I c.court),(6,.I f.amt)]) rfl (Z8k _ _ _ _ _) rfl ?_;refine Z0 Z4 rfl ?_;have l3:=e3.lt;have l4:=e4.lt;have l6:=e6.lt;have l8':=e8.lt;rintro _ w8 ⟨b9,rfl,ee,e9,hT⟩;have g9:w.heap.size<=b9:=Xh hS.size ee;refine SB (us:=evC [f.day,-1,0,f.by_,f.to_,c.court,f.amt]) (Z50 _) e9 ?_;rintro _ w9 ⟨an,e9⟩;replace hT:=hT.ow an;replace e3:=e3.up hT;replace e4:=e4.up hT;replace e6:=e6.up hT;replace e8:=e8.up hT;replace hS:=hS.trans hT;clear hT an;have pO:=hv.up hS;refine QO ?_;refine CP hS (Zqd R.av R.cv c.atts c.crrs f.entry f.to_ _ pO.aa pO.cc ho.att) λw10 hT hS=>?_;replace e3:=e3.up hT;replace e4:=e4.up hT;replace e6:=e6.up hT;replace e8:=e8.up hT;replace e9:=e9.up hT;clear hT pO;have l9:=e9.lt;generalize bQ:Z1x c.atts c.crrs f.entry f.to_=s at *;obtain ⟨s,ok⟩:=s;refine QO ?_;refine Z0 Z4 rfl ?_;rintro _ w11 ⟨b10,rfl,eP,e10,hT⟩;refine SA (us:=Z2.enc s) e10 ?_;rintro _ w12 ⟨an,e10⟩;replace hT:=hT.ow an;replace e3:=e3.up hT;replace e4:=e4.up hT;replace e6:=e6.up hT;replace e8:=e8.up hT;replace e9:=e9.up hT;replace hS:=hS.trans hT;clear hT an;refine W ?_;have e9':=e9
 refine Js (σ:=Unit) (λ_=>[(2,.I (i:Int)),(3,pQ b3),(4,pQ b4),(6,pQ b6),(8,pQ b8),(9,pQ b9),(10,pQ b10),(11,.B ok)])
  (λ_ w'=>Stp [b9] w12 w'/\Blk w' b9 83 (evC (evL c f))) ?_ ?_
 have fI:evL c f=[f.day,if ok=true then s.day else -1,if ok=true then s.extra else 0,f.by_,f.to_,c.court,f.amt]:=by
  unfold evL;rw [bQ]
 rw [fI]
 (refine QP ?_ ?_<;>intro hc)
 refine ZDr 8 [b9] [] [(0,0),(1,1),(2,0),(3,1),(4,0),(5,2),(6,0),(7,2)] (λw1 ae=>?_);replace e9:=e9.up ae;replace e10:=e10.up ae;have c10:_=some (Value.int .i64 s.day):=e10.cell (j:=0) rfl;have c11:_=some (Value.int .i64 s.extra):=e10.cell (j:=1) rfl;focus repeat'(first|refine D1 ?_|omega|refine Jn rfl (by first|exact trivial|exact rfl) rfl rfl (by assumption) rfl ?_|refine Zl rfl rfl rfl rfl (λhg=>?_) (λhg=>?_)|(refine Zh rfl rfl rfl rfl (λhg=>?_) (λhg=>?_)<;>refine D1 ?_)|fail)
 refine Z17 rfl trivial (Zb rfl rfl rfl rfl e9 (by simp [evC])) (λ_ _ h=>h.1) ?_;rintro _ w13 ⟨hT,e9⟩;focus repeat'(first|refine D1 ?_|omega|refine Jn rfl (by first|exact trivial|exact rfl) rfl rfl (by assumption) rfl ?_|refine Zl rfl rfl rfl rfl (λhg=>?_) (λhg=>?_)|(refine Zh rfl rfl rfl rfl (λhg=>?_) (λhg=>?_)<;>refine D1 ?_)|fail)
 refine Z17 rfl trivial (Zb rfl rfl rfl rfl e9 (by simp [evC])) (λ_ _ h=>h.1) ?_;rintro _ w14 ⟨an,e9⟩;focus repeat'(first|refine D1 ?_|omega|refine Jn rfl (by first|exact trivial|exact rfl) rfl rfl (by assumption) rfl ?_|refine Zl rfl rfl rfl rfl (λhg=>?_) (λhg=>?_)|(refine Zh rfl rfl rfl rfl (λhg=>?_) (λhg=>?_)<;>refine D1 ?_)|fail)
 exact QT () ⟨(ae.mn.own hT (λc hc=>.inl hc)).own an (λc hc=>.inl hc),by rw [show ok=true by assumption];exact e9⟩;rw [show ok=false by simpa using ‹_›];exact QT () ⟨Stp.refl _ _,e9⟩;rintro _ w13 ⟨hT,e9⟩;replace e3:=e3.ext hT (by simp;omega);replace e4:=e4.ext hT (by simp;omega);replace e6:=e6.ext hT (by simp;omega);replace e8:=e8.ext hT (by simp;omega);replace e10:=e10.ext hT (by simp;omega);replace hS:=hS.ow hT;clear hT;have bF:=ZcM ho hf;have cJ:=hv.up hS;have l3:=e3.lt;have l4:=e4.lt;have l6:=e6.lt;have l8:=e8.lt;have l10:=e10.lt;rw [show opn c=Ze c.cal c.today from rfl] at aq;have gJ:=hS;have f3:=e3;have f4:=e4;have f6:=e6;have f8:=e8;have f10:=e10;refine W ?_;refine Z9 (Zn rfl rfl e3 (us:=Ji c.cal R.hv R.lv R.zo R.zs R.hr) rfl rfl) rfl ?_;refine W ?_;refine CL (Zb6 kc q.cnd 2 c.today (evL c f) c.cal R.hv R.lv R.zo R.zs R.hr _ (gc.up hS) jX cJ.cal bF cJ.one) ?_;rintro _ w14 ⟨pv,rfl,cO⟩;have iM:=Z2S (o:=Ze c.cal c.today) (ev:=evL c f) jX;generalize J7 (Ze c.cal c.today) (evL c f) q.cnd=x at *;obtain ⟨x1,xs,xe⟩:=x;dsimp only at aq cO iM ⊢;have hT:=cO.2;replace e3:=e3.up hT;replace e4:=e4.up hT;replace e6:=e6.up hT;replace e8:=e8.up hT;replace e9:=e9.up hT;replace e10:=e10.up hT;replace hS:=hS.trans hT;clear hT cJ;by_cases gY:xe=0
 rotate_left
 rw [if_pos (.inl gY)] at aq;refine QO ?_;refine Z5 (vs:=[]) rfl JJ rfl ?_;refine SB (us:=dlC (default:Dln) J3) JK e6 ?_;rintro _ wz ⟨hT,e6⟩;refine W ?_;refine Zq rfl rfl rfl e6 rfl rfl ?_;subst aq;exact .mk ⟨J3,rfl,Zk.nil.up (hS.ow hT)⟩;by_cases mK:x1=0;rw [if_pos (.inr mK)] at aq;refine QO ?_;refine Z5 (vs:=[]) rfl JJ rfl ?_;refine SB (us:=dlC (default:Dln) J3) JK e6 ?_;rintro _ wz ⟨hT,e6⟩;refine W ?_;refine Zq rfl rfl rfl e6 rfl rfl ?_;subst aq;exact .mk ⟨J3,rfl,Zk.nil.up (hS.ow hT)⟩;rw [if_neg (λh=>h.elim (λh=>h gY) (λh=>mK h))] at aq;have cJ:=hv.up hS;refine QO ?_;refine Z9 (Zn rfl rfl e3 (us:=Ji c.cal R.hv R.lv R.zo R.zs R.hr) rfl rfl) rfl ?_;refine W ?_;refine CL (Zb6 kd q.due 3 c.today (evL c f) c.cal R.hv R.lv R.zo R.zs R.hr _ (gd.up hS) iL cJ.cal bF cJ.one) ?_;rintro _ w15 ⟨pw,rfl,bK⟩;have dY:=Z2S (o:=Ze c.cal c.today) (ev:=evL c f) iL;have kl:=Z4r (o:=Ze c.cal c.today) bF iL;generalize J7 (Ze c.cal c.today) (evL c f) q.due=y at *;obtain ⟨y1,ys,ye⟩:=y;dsimp only at aq bK dY kl ⊢;have cb:SlV (ob pv) w15 pw ys:=bK.slv (λb hb=>(cO.ob_le b hb).2);have hT:=bK.2;replace e3:=e3.up hT;replace e4:=e4.up hT;replace e6:=e6.up hT;replace e8:=e8.up hT;replace e9:=e9.up hT;replace e10:=e10.up hT;replace cO:=cO.up hT;replace hS:=hS.trans hT;clear hT cJ bK;by_cases ko:ye=0
 rotate_left
 rw [if_pos ko] at aq;refine QO ?_;refine Z5 (vs:=[]) rfl JJ rfl ?_;refine SB (us:=dlC (default:Dln) J3) JK e6 ?_;rintro _ wz ⟨hT,e6⟩;refine W ?_;refine Zq rfl rfl rfl e6 rfl rfl ?_;subst aq;exact .mk ⟨J3,rfl,Zk.nil.up (hS.ow hT)⟩;rw [if_neg (not_not_intro ko)] at aq;have jl:0<=y1/\y1<=3652058:=by
  rcases kl ko with h|h|h
  omega;omega;exact h.2
 have cJ:=hv.up hS;have fT:=hf.day;refine QO ?_;refine CP hS (Z6X f.day y1 R.sv c.stys _ cJ.ss ho.sty (by omega) (by omega)) λw16 hT hS=>?_
 replace e3:=e3.up hT;replace e4:=e4.up hT;replace e6:=e6.up hT;replace e8:=e8.up hT;replace e9:=e9.up hT;replace e10:=e10.up hT;replace cO:=cO.up hT;replace cb:=cb.up hT;clear hT cJ;generalize Z0N f.day y1 c.stys=z at *;obtain ⟨z1,ze⟩:=z;dsimp only at aq ⊢;by_cases rS:ze=0
 rotate_left
 rw [if_pos rS] at aq;refine QO ?_;refine Z5 (vs:=[]) rfl JJ rfl ?_;refine SB (us:=dlC (default:Dln) J3) JK e6 ?_;rintro _ wz ⟨hT,e6⟩;refine W ?_;refine Zq rfl rfl rfl e6 rfl rfl ?_;subst aq;exact .mk ⟨J3,rfl,Zk.nil.up (hS.ow hT)⟩;rw [if_neg (not_not_intro rS)] at aq;refine QO ?_;refine Z0 (ZZ (β:=Spn) rfl (by decide) rfl rfl cO cb (Xh (Xu _ (show xs.length+ys.length<=400 by omega)) (by decide)) (by simp only [maxLen];omega)) rfl ?_;rintro pu w17 ⟨hr,-,-⟩;clear cO cb e3 e4 e6 e8 e9 e10 hS;have kR:(xs++ys).length<=400:=by rw [Xa];omega
 refine W ?_
 refine Js (σ:=Int×Value×List Spn) (λq=>[(2,.I (i:Int)),(3,pQ b3),(4,pQ b4),(6,pQ b6),(8,pQ b8),(10,pQ b10),(11,.B ok),(13,q.2.1),(15,.I y1),(17,.I q.1)])
  (λp w'=>Zk 94 w13 w' p.2.1 p.2.2/\p.2.2.length<=1000/\(mkD c f i q y1 p.1 p.2.2,true)=o) ?_ ?_
 by_cases pP:z1=y1;rw [if_pos pP] at aq;refine QO ?_;exact QT (z1,pu,xs++ys) ⟨hr,by dsimp only;omega,by rw [pP];exact aq⟩
 . rw [if_neg pP] at aq
   have e3:=f3.up hr.2;have e6:=f6.up hr.2;have hS:=gJ.trans hr.2;have cJ:=hv.up hS;refine QO ?_;refine Z9 (Zn rfl rfl e3 (us:=Ji c.cal R.hv R.lv R.zo R.zs R.hr) rfl rfl) rfl ?_;refine W ?_;refine CP hS (Z5D z1 c.today c.cal R.hv R.lv R.zo R.zs R.hr _ cJ.cal) λw18 hT hS=>?_;replace e3:=e3.up hT;replace e6:=e6.up hT;replace hr:=hr.up hT;clear hT cJ;generalize ZE (Ze c.cal c.today) 1 z1=nn at *;obtain ⟨n1,ne⟩:=nn;dsimp only at aq ⊢;by_cases bi:ne=0
   rotate_left
   rw [if_pos bi] at aq;refine QO ?_;refine Z5 (vs:=[]) rfl JJ rfl ?_;refine SB (us:=dlC (default:Dln) J3) JK e6 ?_;rintro _ wz ⟨hT,e6⟩;refine W ?_;refine Zq rfl rfl rfl e6 rfl rfl ?_;subst aq;exact .mk ⟨J3,rfl,Zk.nil.up (hS.ow hT)⟩;rw [if_neg (not_not_intro bi)] at aq;refine QO ?_;refine Z5 (vs:=[(0,.I z1),(1,.I n1)]) rfl (Z7a _ _) rfl ?_;refine AP1 ((z1,n1):Spn) hr (by omega) λv1 v' w' aO _=>?_
   refine W ?_;exact Z0E (n1,v',xs++ys++[(z1,n1)]) ⟨rfl,rfl,rfl,rfl,rfl,rfl,rfl,rfl,rfl,rfl,trivial⟩ ⟨aO,by simp only [Xa,Xe,Xi] at kR ⊢;omega,aq⟩
 clear aq hr kR;rintro ⟨due,sv,sp⟩ w18 ⟨hr,db,aq⟩;dsimp only at hr db aq ⊢;subst aq;have e3:=f3.up hr.2;have e4:=f4.up hr.2;have e6:=f6.up hr.2;have e8:=f8.up hr.2;have e10:=f10.up hr.2;have hS:=gJ.trans hr.2;have iJ:SlV [] w18 sv sp:=hr.slv (by simp);clear hr f3 f4 f6 f8 f10 gJ;refine W ?_;refine Z5 (vs:=[(0,str q.name),(1,aG f),(2,.I f.to_),(3,.I due)]) rfl (Ze5 _ _ _ _) rfl ?_;refine Z0 Z4 rfl ?_;rintro _ w19 ⟨b19,rfl,pR,e19,hT⟩;refine SB (us:=dlC (⟨q.name,f,f.to_,due,0,[]⟩:Dln) J3) (Z0h _ rfl) e19 ?_;rintro _ w20 ⟨an,e19⟩;replace hT:=hT.ow an;have l3:=e3.lt;have l4:=e4.lt;have l6:=e6.lt;have l8:=e8.lt;have l10:=e10.lt;replace e3:=e3.up hT;replace e4:=e4.up hT;replace e6:=e6.up hT;replace e8:=e8.up hT;replace e10:=e10.up hT;replace iJ:SlV [b19] w20 sv sp:=iJ.ext hT (by simp) (λb hb=>.inr (by simp at hb;omega));have g19:w.heap.size<=b19:=Xh hS.size pR;replace hS:=hS.trans hT;clear hT an;have hN:Nte w20 b19 w20 ⟨q.name,f,f.to_,due,0,[]⟩ J3:=⟨e19,Row.nil,Stp.refl _ _,e19.lt,by simp⟩
 clear e19;refine W ?_;refine Z0 (Z0F rfl (ZJ rfl rfl rfl) rfl (Z2s w20 b19 _ _ 1 f.entry f.day _ hN (by simp))) rfl ?_;rintro _ w21 ⟨r1,hN,-,-⟩;have f4:=e4.ext hN.stp (by simp;omega);refine W ?_;refine Z0 (Z0F rfl (ZJ rfl rfl rfl) rfl (Z2s w20 b19 _ _ 2 i 0 _ hN (by simp))) rfl ?_;rintro _ w22 ⟨r2,hN,-,-⟩;clear f4;have f8:=e8.ext hN.stp (by simp;omega);have ep:Stp [] w w22:=hS.own hN.stp (λc hc=>.inr (by simp at hc;omega));have bz:=gc.up ep;have cA:=gd.up ep;refine W ?_;refine Z98 (σ:=Unit) (λ_=>[(2,.I (i:Int)),(3,pQ b3),(4,pQ b4),(6,pQ b6),(8,pQ b8),(15,.I y1),(17,.I due),(19,pQ b19),(20,.func (.func 33) #[] #[pQ b19]),(10,pQ b10),(13,sv),(185,.B (ok && (Z0p q.cnd || Z0p q.due)))]) (λ_ w'=>Stp [] w22 w') ?_ ?_
 . cases ok with
   | false=>
     refine QO ?_;exact QT () (Stp.refl _ _)
   | true=>
     refine QO ?_;refine CP (Stp.refl [] w22) (ZaH kc q.cnd _ bz) λw23 hT hS=>?_;replace f8:=f8.up hT;replace cA:=cA.up hT;cases h1:Z0p q.cnd with
     | true=>
       refine QO ?_;exact QT () hS
     | false=>
       refine QO ?_;refine CP hS (ZaH kd q.due _ cA) λw24 hT hS=>?_;cases h2:Z0p q.due
       all_goals
        refine QO ?_;exact QT () hS
 rintro _ w23 hT;replace hN:=hN.up hT;clear bz cA f8 ep hT;generalize jG:(ok && (Z0p q.cnd || Z0p q.due))=bb at *;refine W ?_;refine Js (σ:=Value) (λ_=>[(2,.I (i:Int)),(3,pQ b3),(4,pQ b4),(6,pQ b6),(8,pQ b8),(15,.I y1),(17,.I due),(19,pQ b19),(20,.func (.func 33) #[] #[pQ b19]),(13,sv)]) (λrv w'=>Nte w20 b19 w' (dU q f due 0 ([⟨1,f.entry,f.day⟩,⟨2,i,0⟩]++if bb=true then [⟨3,s.att,s.day⟩] else [])) rv) ?_ ?_
 . cases bb with
   | false=>
     refine QO ?_;exact QT r2 hN
   | true=>
     have f10:=e10.ext hN.stp (by simp;omega);refine QO ?_;refine Z0 (Z0F rfl (ZJ rfl rfl rfl) rfl (Z2s w20 b19 _ _ 3 s.att s.day _ hN (by simp))) rfl ?_;rintro _ w24 ⟨r3,hN,-,-⟩;refine W ?_;exact QT r3 hN
 clear hN;rintro r3 w24 hN;generalize fX:([⟨1,f.entry,f.day⟩,⟨2,i,0⟩]++if bb=true then [⟨3,s.att,s.day⟩] else []:List Rsn)=L1 at *;have pT:L1.length<=3:=by rw [<- fX];split<;>simp
 have fJ:=iJ.max;refine W ?_;refine LP (σ:=Nat×Value) (λp=>[(2,.I (i:Int)),(3,pQ b3),(4,pQ b4),(6,pQ b6),(8,pQ b8),(15,.I y1),(17,.I due),(19,pQ b19),(20,.func (.func 33) #[] #[pQ b19]),(192,sv),(193,.I sp.length),(194,.I p.1)]) (λp w'=>p.1<=sp.length/\Nte w20 b19 w' (dU q f due 0 (L1++(sp.take p.1).map (λx=>(⟨4,x.1,x.2⟩:Rsn)))) p.2) (λp=>sp.length - p.1) (0,r3) ⟨by omega,by simpa using hN⟩ ?_;clear hN;rintro ⟨k,r4⟩ w25 ⟨hk,hN⟩;dsimp only at hk hN ⊢;by_cases hlt:k<sp.length;have rT:SlV [] w25 sv sp:=iJ.ext hN.stp (λb hb=>hb) (by simp);have ax:(sp.take (k+1)).map (λx=>(⟨4,x.1,x.2⟩:Rsn))=(sp.take k).map (λx=>(⟨4,x.1,x.2⟩:Rsn))++[⟨4,sp[k].1,sp[k].2⟩]:=by rw [Xg hlt,XL];rfl
 refine QO ?_;refine Z0 Z4 rfl ?_;rintro _ w26 ⟨b22,rfl,uW,e22,hA⟩;refine SA (us:=Z2.enc sp[k]) e22 ?_;rintro _ w27 ⟨cG,e22⟩;replace hA:=hA.ow cG;replace hN:=hN.up hA;refine QO ?_;refine Z0 (Z0F rfl (ZJ rfl rfl rfl) rfl (Z2s w20 b19 _ _ 4 sp[k].1 sp[k].2 _ hN (by simp only [Xa,Xy,Xx];omega))) rfl ?_;rintro _ w28 ⟨r5,hN,-,-⟩;refine QO ?_;exact QL (k+1,r5) ⟨hlt,by rw [ax,<- XC];exact hN⟩ (by dsimp only;omega);obtain rfl:k=sp.length:=by omega
 rw [Xs] at hN;have cQ:=hS.own hN.stp (λc hc=>.inr (by simp at hc;omega));have f3:=e3.ext hN.stp (by simp;omega);have f4:=e4.ext hN.stp (by simp;omega);have fT:=hf.day;refine QO ?_;refine CG (ZhX f.day y1 R.sv c.stys _ (hv.up cQ).ss ho.sty (by omega) (by omega)) ?_;intro uv w26 hu;have gX:(Z23 f.day y1 c.stys).length<=1000:=by
  have:=ho.sty.len;unfold Z23;split;simp;exact Xh (XG _ _) this
 generalize hU:Z23 f.day y1 c.stys=us at *;have cY:SlV (b19 :: ob r4) w26 uv us:=hu.slv (λb hb=>by
  rcases Xc.1 hb with rfl|hb
  exact hN.blk.lt;exact (hN.row.ob_le b hb).2)
 replace hN:=hN.up hu.2;clear f3 f4 hu cQ iJ;have oB:=cY.max;refine QO ?_;generalize iN:L1++sp.map (λx=>(⟨4,x.1,x.2⟩:Rsn))=L2 at *;have pU:L2.length<=1003:=by rw [<- iN,Xa,Xy];omega
 refine LP (σ:=Nat×Value) (λp=>[(2,.I (i:Int)),(3,pQ b3),(4,pQ b4),(6,pQ b6),(8,pQ b8),(15,.I y1),(17,.I due),(19,pQ b19),(20,.func (.func 33) #[] #[pQ b19]),(210,uv),(211,.I us.length),(212,.I p.1)]) (λp w'=>p.1<=us.length/\Nte w20 b19 w' (dU q f due 0 (L2++(us.take p.1).map (λx=>(⟨5,x.1,x.2⟩:Rsn)))) p.2/\SlV (b19 :: ob p.2) w' uv us) (λp=>us.length - p.1) (0,r4) ⟨by omega,by simpa using hN,cY⟩ ?_;clear hN cY;rintro ⟨k,r5⟩ w27 ⟨hk,hN,cY⟩;dsimp only at hk hN ⊢;by_cases hlt:k<us.length;have rU:SlV [] w27 uv us:=cY.ext (Stp.refl [] w27) (by simp) (by simp);have ax:(us.take (k+1)).map (λx=>(⟨5,x.1,x.2⟩:Rsn))=(us.take k).map (λx=>(⟨5,x.1,x.2⟩:Rsn))++[⟨5,us[k].1,us[k].2⟩]:=by rw [Xg hlt,XL];rfl
 refine QO ?_;refine Z0 Z4 rfl ?_;rintro _ w28 ⟨b24,rfl,uX,e24,hA⟩;refine SA (us:=Z2.enc us[k]) e24 ?_;rintro _ w29 ⟨cG,e24⟩;replace hA:=hA.ow cG;replace hN:=hN.up hA;refine QO ?_;refine Z0 (Z0F rfl (ZJ rfl rfl rfl) rfl (Z2s w20 b19 _ _ 5 us[k].1 us[k].2 _ hN (by simp only [Xa,Xy,Xx];omega))) rfl ?_;rintro _ w30 ⟨r6,lS,dI,pV⟩;refine QO ?_;exact QL (k+1,r6) ⟨hlt,by rw [ax,<- XC];exact lS,(cY.up hA).ext dI (λb hb=>hb) (λb hb=>by
  rcases Xc.1 hb with rfl|hb
  exact .inl (by simp);exact (pV b hb).imp (λh=>by simp [h]) id)⟩ (by dsimp only;omega)
 obtain rfl:k=us.length:=by omega
 rw [Xs] at hN;generalize mL:L2++us.map (λx=>(⟨5,x.1,x.2⟩:Rsn))=L3 at *;have pW:L3.length<=2003:=by rw [<- mL,Xa,Xy];omega
 clear cY oB;have cQ:=hS.own hN.stp (λc hc=>.inr (by simp at hc;omega));have f3:=e3.ext hN.stp (by simp;omega);have f4:=e4.ext hN.stp (by simp;omega);have f8:=e8.ext hN.stp (by simp;omega);refine QO ?_;refine CP cQ (Zcv c R f q.unl due _ (hv.up cQ).ff (by have:=ho.fl;omega)) λw28 hT _=>?_
 replace hN:=hN.up hT;clear f3 f4 f8 hT cQ;generalize hA:Z46 c.fcts f q.unl due=a at *;obtain ⟨g,met⟩:=a;refine QO ?_;refine Z0 Z4 rfl ?_;rintro _ w29 ⟨b25,rfl,uY,e25,nQ⟩;refine SA (us:=Z2.enc g) e25 ?_;rintro _ w30 ⟨cG,e25⟩;replace nQ:=nQ.ow cG;have pX:b25≠b19:=by have:=hN.blk.lt;omega
 replace hN:=hN.up nQ;clear nQ cG;refine W ?_;refine Js (σ:=Value) (λ_=>[(6,pQ b6),(19,pQ b19)]) (λrv w'=>Nte w20 b19 w' (mkD c f i q y1 due sp) rv) ?_ ?_
 . have ay:mkD c f i q y1 due sp=dU q f due (if met=true then 1 else if due<c.today then 2 else 0) (L3++if met=true then [⟨6,g.entry,g.day⟩] else []):=by
    unfold mkD;rw [hA,bQ,hU];dsimp only;rw [<- mL,<- iN,<- fX,<- jG];simp only [Xf,Yax]
   rw [ay];cases met with
   | true=>
     refine QO ?_;refine Z8 (Zb (u:=.I 1) rfl rfl rfl rfl hN.blk (by simp)) ?_;rintro _ w31 ⟨hT,e19⟩;replace e25:=e25.ext hT (by simpa using pX);replace hN:=hN.stat (d':=dU q f due 1 L3) hT e19 rfl;refine QO ?_;refine Z0 (Z0F rfl (ZJ rfl rfl rfl) rfl (Z2s w20 b19 _ _ 6 g.entry g.day _ hN (by dsimp only;omega))) rfl ?_;rintro _ w32 ⟨r7,hN,-,-⟩;refine W ?_;exact QT r7 hN
   | false=>
     have f3:=e3.ext hN.stp (by simp;omega);by_cases ip:due<c.today;refine QO ?_;refine Z8 (Zb (u:=.I 2) rfl rfl rfl rfl hN.blk (by simp)) ?_;rintro _ w31 ⟨hT,e19⟩;replace hN:=hN.stat (d':=dU q f due 2 L3) hT e19 rfl;refine QO ?_;exact QT r5 (by simpa [ip] using hN);refine QO ?_;exact QT r5 (by simpa [ip] using hN)
 clear hN e25;rintro rv w31 hN;have f6:=e6.ext hN.stp (by simp;omega);have dg:rv.oneCell'=true:=(hN.row.slv (X:=[]) (by simp)).one;have hk:=hN.blk;refine W ?_;refine SB (us:=dlC (mkD c f i q y1 due sp) rv) (Z0h _ dg) f6 ?_;rintro _ w32 ⟨hT,f6⟩;refine W ?_;refine Zq rfl rfl rfl f6 rfl rfl ?_;have cQ:=hS.own hN.stp (λc hc=>.inr (by simp at hc;omega));have aJ:=λb hb=>(hN.row.ob_le b hb).1;refine .mk ⟨rv,rfl,?_,cQ.ow hT⟩;exact JO (Row.ext (JO (X':=[b6]) (Row.lower hN.row (by have:=hS.size;omega))) hT (λb hb=>⟨hb,λh=>by have:=aJ b h;have:=hN.lt;simp at hb;omega⟩) (λb hb=>.inl hb))
abbrev DI:=Dln×Nat
structure Yld (fv:Value) (g:Nat) (cap:Array Value) (J:List DI->List Nat->World->Prop) (Pd:List DI->Dln->Nat->Prop):Prop where
 fv:fv=.func (.func g) #[] cap
 lt:∀ pre F W,J pre F W->∀ b∈F,b<W.heap.size
 up:∀ pre F W W',J pre F W->Stp [] W W'->J pre F W'
 call:∀ pre F d dv i W,J pre F W->SlV F W dv d.reas->Pd pre d i->CC g (#[.agg (dlC d dv).toArray,.I (i:Nat)]++cap) W λr W'=>∃ F',J (pre++[(d,i)]) F' W'/\Stp F W W'/\∀ b∈F',b∈F\/W.heap.size<=b
def Z0P (c:Cas) (f:Fct):Nat->List DI
 | 0=>[]
 | i+1=>Z0P c f i++if (JQ c f i).2=true then [((JQ c f i).1,i)] else []
def JE (c:Cas) (fs:List Fct):List DI:=fs.flatMap (λf=>Z0P c f c.ruls.length)
theorem Z5E (c:Cas) (fs:List Fct) (k:Nat) (h:k<fs.length):JE c (fs.take (k+1))=JE c (fs.take k)++Z0P c fs[k] c.ruls.length:=by
 unfold JE;rw [Xg h,YaV];simp
theorem Zb9 {fv:Value} {g:Nat} {fn:Func} {cap:Array Value} {J:List DI->List Nat->World->Prop} {Pd:List DI->Dln->Nat->Prop} [hf:Fun Tryz.prog g fn] (hy:Yld fv g cap J Pd)
 (c:Cas) (R:Z0o) (lv:Value) (fs:List Fct) (F0:List Nat) (w) (ho:Z3x c) (cD:∀ W,Stp F0 w W->Z2R W c R) (hl:∀ W,Stp F0 w W->SlV [] W lv fs) (fY:∀ f∈fs,Z0l f)
 (hP:∀ k (hk:k<fs.length) (i:Nat),i<c.ruls.length->(JQ c fs[k] i).2=true->Pd (JE c (fs.take k)++Z0P c fs[k] i) (JQ c fs[k] i).1 i) (h0:J [] F0 w) :
 CC 50 #[.agg (Jc c R).toArray,lv,fv] w λr W=>∃ F,J (JE c fs) F W/\Stp F0 w W/\∀ b∈F,b∈F0\/w.heap.size<=b:=by
 have bh:=(hl w (Stp.refl _ _)).max;have fm:=ho.rl;have o5:=hy.fv;subst o5;refine cW3 37 Tryz.func50 ?_;refine W ?_;refine BX (Stp.refl [] w) λb3 w1 h3 e3 _ hS=>?_;replace e3:Blk w1 b3 37 (Jc c R):=e3;have fV:=hl w1 hS.mn;refine W ?_
 refine Zm (σ:=Nat×List Nat) (λq=>[(2,.func (.func g) #[] cap),(3,pQ b3),(11,lv),(12,.I fs.length),(13,.I q.1)])
  (λq W=>q.1<=fs.length/\J (JE c (fs.take q.1)) q.2 W/\Stp F0 w W/\Blk W b3 37 (Jc c R)/\b3∉q.2/\∀ b∈q.2,b∈F0\/w.heap.size<=b) (λq=>fs.length - q.1) (0,F0) ⟨rfl,rfl,rfl,rfl,rfl,trivial⟩
  ⟨by omega,by simpa [JE] using hy.up _ _ _ _ h0 hS,hS.mn,e3,λh=>by have:=hy.lt _ _ _ h0 _ h;omega,λb hb=>.inl hb⟩ ?_
 clear e3 fV hS;rintro ⟨k,F⟩ w2 ⟨hk,hJ,hS,e3,dJ,ik⟩;dsimp only at hk hJ dJ ik ⊢;have dK:=hl w2 hS;by_cases hlt:k<fs.length;have fK:=fY _ (Xb hlt);have hstep:=Z5E c fs k hlt;refine QO ?_;refine Z0 Z4 rfl ?_;rintro _ w3 ⟨b7,rfl,jo,e7,hA⟩;refine SA (us:=Z2.enc fs[k]) e7 ?_;rintro _ w4 ⟨cG,e7⟩;replace hA:=hA.ow cG;have kp:b7∉F:=λh=>by have:=hy.lt _ _ _ hJ _ h;omega
 replace e3:=e3.up hA;replace hJ:=hy.up _ _ _ _ hJ hA;replace hS:=hS.trans hA.mn;clear hA cG dK;have cr:=(cD w4 hS).rr;refine QO ?_
 refine Zm (σ:=Nat×List Nat) (λq=>[(2,.func (.func g) #[] cap),(3,pQ b3),(7,pQ b7),(11,lv),(12,.I fs.length),(13,.I k),(19,.I c.ruls.length),(20,.I q.1)])
  (λq W=>q.1<=c.ruls.length/\J (JE c (fs.take k)++Z0P c fs[k] q.1) q.2 W/\Stp F0 w W/\Blk W b3 37 (Jc c R)/\Blk W b7 40 (Z2.enc fs[k])/\b3∉q.2/\b7∉q.2/\∀ b∈q.2,b∈F0\/w.heap.size<=b) (λq=>c.ruls.length - q.1) (0,F) ⟨rfl,rfl,rfl,rfl,rfl,rfl,rfl,rfl,trivial⟩
  ⟨by omega,by simpa [Z0P] using hJ,hS,e3,e7,dJ,kp,ik⟩ ?_
 clear hJ hS e3 e7 dJ kp ik cr;rintro ⟨i,F⟩ w5 ⟨hi,hJ,hS,e3,e7,dJ,kp,ik⟩;dsimp only at hi hJ dJ kp ik ⊢;by_cases kq:i<c.ruls.length
 . have cj:=cD w5 hS
   have ax:Z0P c fs[k] (i+1)=Z0P c fs[k] i++if (JQ c fs[k] i).2=true then [((JQ c fs[k] i).1,i)] else []:=rfl
   have rV:=hP k hlt i kq;refine QO ?_;refine CM (ZJ rfl rfl rfl) (Z9z c R fs[k] i w5 cj ho fK (by unfold I64;omega)) ?_;rintro _ w6 ⟨rv,rfl,ac⟩;have hA:=ac.2;have au:SlV F w6 rv (JQ c fs[k] i).1.reas:=ac.slv (λb hb=>hy.lt _ _ _ hJ b hb);replace e3:=e3.up hA;replace e7:=e7.up hA;replace hJ:=hy.up _ _ _ _ hJ hA;replace hS:=hS.trans hA.mn;clear hA ac cj;generalize JQ c fs[k] i=o at *;obtain ⟨d,ok⟩:=o;dsimp only at ax rV au;have eW:=au.one;refine QO ?_;refine Z0 Z4 rfl ?_;rintro _ w7 ⟨b9,rfl,ee,e9,hA⟩;refine SB (us:=dlC d rv) (Z0h _ eW) e9 ?_;rintro _ w8 ⟨cG,e9⟩;replace hA:=hA.ow cG;have xq:b9∉F:=λh=>by have:=hy.lt _ _ _ hJ _ h;omega
   replace e3:=e3.up hA;replace e7:=e7.up hA;replace hJ:=hy.up _ _ _ _ hJ hA;replace hS:=hS.trans hA.mn;replace au:=au.up hA;clear hA cG;cases ok with
   | false=>
     refine QO ?_;exact QL (i+1,F) ⟨kq,by rw [ax,if_neg (by simp),Xz];exact hJ,hS,e3,e7,dJ,kp,ik⟩ (by dsimp only;omega)
   | true=>
     refine QO ?_;refine Z0 (Z0F rfl (Zg rfl rfl) rfl (hy.call _ F d rv i w8 hJ au (rV rfl))) rfl ?_;rintro _ w9 ⟨F',lE,hA,ku⟩;refine QO ?_;have z3:=e3.lt;have z7:=e7.lt;refine QL (i+1,F') ⟨kq,by rw [ax,if_pos rfl,<- XC];exact lE,hS.own hA ik,e3.ext hA dJ,e7.ext hA kp,λh=>?_,λh=>?_,λb hb=>?_⟩ (by dsimp only;omega);rcases ku _ h with h|h
     exact dJ h;omega;rcases ku _ h with h|h
     exact kp h;omega;rcases ku _ hb with h|h
     exact ik _ h;exact .inr (by have:=hS.size;omega)
 obtain rfl:i=c.ruls.length:=by omega
 refine QO ?_;exact QL (k+1,F) ⟨hlt,by rw [hstep];exact hJ,hS,e3,dJ,ik⟩ (by dsimp only;omega);obtain rfl:k=fs.length:=by omega
 rw [Xs] at hJ;refine RT ?_;exact ⟨F,hJ,hS,ik⟩
abbrev Z6g (x:Fct):Value:=aG x
theorem Zqk (x y:Fct) (w):(Op.equal 40 (Z6g x) (Z6g y)).run Tryz.prog w=.ok (decide (x=y)) w:=by
 have h1:Program.stoodInHeld Tryz.prog 40=false:=by kernel_rfl
 obtain ⟨i,hi⟩:∃ i,Tryz.prog.info? 3=some i:=by
  have:=(inferInstance:Siz Tryz.prog 3 1).h;cases h:Tryz.prog.info? 3 with
  | none=>rw [h] at this;cases this
  | some i=>exact ⟨i,rfl⟩
 obtain ⟨a,b,c,d,e,f⟩:=x;obtain ⟨a',b',c',d',e',f'⟩:=y;simp [Z6g,Z2.enc,Op.equal,Op.maxDepth,run_equalIn_struct,h1,Program.fieldsOf,Tryz.underlying40,Op.eqFields,part,Und.isAgg,Siz.run,Z06,run_equalIn_int w _ _ .i64 .i64 _ _ Tryz.underlying3,run_equalIn_string w _ _ _ _ Tryz.underlying9];repeat' split
 all_goals simp_all
theorem ZlJ (em:Bool) (x:Fct) (w):(Instr.checkKey em 10000 40 (Z6g x)).run Tryz.prog w=.ok () w:=by kernel_rfl
instance:Z8T Tryz.prog 40 Fct where
 enc:=Z6g
 chk:=ZlJ
 find:=λa es l w hk=>by
  have h2:=run_findKey_eq (P:=Tryz.prog) (k:=40) w (by kernel_rfl) (Z6g a) es;have h3:=Z28 Z6g Zqk a w es l 0 hk;simp only [XJ] at h3;exact h2.trans h3
theorem ZlK {κ:Type} [DecidableEq κ] (l:List κ) (a:κ):Z4h (l.map (λx=>(x,Value.bool true))) a (.B false)=.B (decide (a∈l)):=by
 unfold Z4h;cases h:(l.map (λx=>(x,Value.bool true))).find? (λp=>decide (p.1=a)) with
 | none=>
   rw [YaO] at h;rw [decide_eq_false (λha=>absurd (h (a,.B true) (XK.2 ⟨a,ha,rfl⟩)) (by simp))]
 | some p=>
   have h1:=YaA h;have h2:=List.find?_some h;obtain ⟨x,hx,rfl⟩:=XK.1 h1;have:x=a:=by simpa using h2
   subst this;simp [hx]
def Jr (c:Cas) (s:List Fct×List Fct) (p:DI):List Fct×List Fct:=
 let f:=Z3s c p.1 p.2
 if f.2=true/\f.1∉s.1 then (s.1++[f.1],s.2++[f.1]) else s
theorem Zfh (c:Cas) (s:List Fct×List Fct) (p:DI):(Jr c s p).2.length<=s.2.length+1:=by
 unfold Jr;dsimp only;split<;>simp
theorem Z3R (c:Cas):∀ (l:List DI) (s:List Fct×List Fct),(l.foldl (Jr c) s).2.length<=s.2.length+l.length
 | [],s=>by simp
 | p :: l, s => by
   have h1:=Z3R c l (Jr c s p);have h2:=Zfh c s p;rw [X5,Xe];omega
structure FcK where
 c:Cas
 R:Z0o
 w0:World
 b1:Nat
 b3:Nat
 r:Nat
 b9:Nat
 known:List Fct
structure ZmB (K:FcK):Prop where
 d1:K.b1≠K.r/\K.b1≠K.b9
 d2:K.b3≠K.r/\K.b3≠K.b9
 d3:K.r≠K.b9
 l1:K.b1<K.w0.heap.size
 l3:K.b3<K.w0.heap.size
 lr:K.r<K.w0.heap.size
 l9:K.b9<K.w0.heap.size
 e1:Blk K.w0 K.b1 37 (Jc K.c K.R)
 e3:Blk K.w0 K.b3 116 [.map (some K.r)]
 rr:∀ W,Stp [K.r,K.b9] K.w0 W->SlV [] W K.R.rv K.c.ruls
structure FcJ (K:FcK) (pre:List DI) (F:List Nat) (W:World):Prop where
 ex:∃ nv,F=K.r :: K.b9 :: ob nv/\Blk W K.b9 23 [nv]/\Row [K.r,K.b9] W K.w0.heap.size 40 nv (pre.foldl (Jr K.c) (K.known,[])).2
 map:Jz Z6g W K.r ((pre.foldl (Jr K.c) (K.known,[])).1.map (λf=>(f,.B true)))
 stp:Stp [K.r,K.b9] K.w0 W
theorem ZcN (K:FcK) (hK:ZmB K):Yld (.func (.func 53) #[] #[.pointer (some ⟨K.b1,0,none⟩),.pointer (some ⟨K.b3,0,none⟩),.pointer (some ⟨K.b9,0,none⟩)]) 53 #[.pointer (some ⟨K.b1,0,none⟩),.pointer (some ⟨K.b3,0,none⟩),.pointer (some ⟨K.b9,0,none⟩)] (FcJ K)
 (λpre d i=>i<K.c.ruls.length/\(-1000000000<=d.due/\d.due<=1000000000/\-1000000000<=d.trig.day/\d.trig.day<=1000000000)/\pre.length<=300000000000):=by
 obtain ⟨⟨d1,d1'⟩,⟨d2,d2'⟩,d3,l1,l3,lr,l9,E1,E3,cr⟩:=hK;refine ⟨rfl,?_,?_,?_⟩;rintro pre F Y ⟨⟨nv,rfl,e9,ac⟩,hm,hS⟩ b hb;have:=hS.size;simp only [Xc] at hb;rcases hb with rfl|rfl|hb
 omega;omega;exact (ac.ob_le b hb).2;rintro pre F Y Y' ⟨⟨nv,rfl,e9,ac⟩,hm,hS⟩ hT;exact ⟨⟨nv,rfl,e9.up hT,ac.up hT⟩,hm.up hT,hS.trans hT.mn⟩
 . rintro pre F d dv i Y ⟨⟨nv,rfl,e9,ac⟩,hm,hS⟩ au ⟨hi,hb,fw⟩
   have cX:=Z3R K.c pre (K.known,[]);simp only [Xi,XJ] at cX;have ax:∀ p:DI,(pre++[p]).foldl (Jr K.c) (K.known,[])=Jr K.c (pre.foldl (Jr K.c) (K.known,[])) p:=λp=>by simp
   have ax:=ax (d,i);have eW:=au.one;have hW:=hS.size;have dE:=λb hb=>(ac.ob_le b hb)
   generalize pre.foldl (Jr K.c) (K.known,[])=s at *;refine cW5 29 Tryz.func53 ?_;refine W ?_;refine BX (Stp.refl [] Y) λb5 w1 h5 e5 hT _=>?_;replace e5:Blk w1 b5 45 (dlC d dv):=e5;have e1:=E1.ext (hS.trans hT.mn) (by simp [d1,d1']);have e3:=E3.ext (hS.trans hT.mn) (by simp [d2,d2']);have cO:=cr w1 (hS.trans hT.mn);replace e9:=e9.up hT;replace ac:=ac.up hT;replace hm:=hm.up hT;have iO:SlV [] w1 dv d.reas:=au.ext hT (by simp) (by simp);have eX:=hT;clear hT;refine W ?_;refine CP (Stp.refl [] w1) (ZaW K.c K.R d dv i w1 cO iO hi hb) λw2 hT _=>?_;have g2:Y.heap.size<=w2.heap.size:=Xh eX.size hT.size;generalize lh:Z3s K.c d i=fo at *;obtain ⟨f,ok⟩:=fo;refine W ?_;refine Z0 Z4 rfl ?_;rintro _ w3 ⟨b7,rfl,jo,e7,an⟩;refine SA (us:=Z2.enc f) e7 ?_;rintro _ w4 ⟨cF,e7⟩;replace hT:=hT.trans (an.ow cF);clear an cF;replace e1:=e1.up hT;replace e3:=e3.up hT;replace e9:=e9.up hT;replace ac:=ac.up hT;replace hm:=hm.up hT;replace eX:=eX.trans hT;clear hT e5 cO iO;have g7:Y.heap.size<=b7:=by omega
   have mM:Jr K.c s (d,i)=if ok=true/\f∉s.1 then (s.1++[f],s.2++[f]) else s:=by unfold Jr;rw [lh]
   rw [mM] at ax;clear mM;have skip:(¬ (ok=true/\f∉s.1))->∀ w',Stp [] w4 w'->∃ F',FcJ K (pre++[(d,i)]) F' w'/\Stp (K.r :: K.b9 :: ob nv) Y w'/\∀ b∈F',b∈K.r :: K.b9 :: ob nv\/Y.heap.size<=b:=λhn w' hT=>by
    rw [if_neg hn] at ax;exact ⟨_,⟨⟨nv,rfl,e9.up hT,by rw [ax];exact ac.up hT⟩,by rw [ax];exact hm.up hT,hS.trans ((eX.trans hT).mn)⟩,(eX.trans hT).mn,λb hb=>.inl hb⟩
   cases ok with
   | false=>
     refine QO ?_;refine WR ?_;exact .mk (skip (by simp) _ (Stp.refl _ _))
   | true=>
     refine QO ?_;refine Z9 (Z5n (a:=f) rfl rfl hm) rfl ?_;rw [ZlK];by_cases aY:f∈s.1;rw [decide_eq_true aY];refine QO ?_;refine WR ?_;exact .mk (skip (by simp [aY]) _ (Stp.refl _ _));rw [if_pos ⟨rfl,aY⟩] at ax;rw [decide_eq_false aY];clear skip;refine QO ?_;refine Z8 (Z2i (a:=f) rfl rfl rfl hm (λp hp=>by
      obtain ⟨x,hx,rfl⟩:=XK.1 hp;exact λh=>aY (h ▸ hx))) ?_
     rintro _ w5 ⟨rW,dO⟩;have z9:K.b9<w4.heap.size:=e9.lt;replace e9:=e9.ext dO (by simp;omega);replace e7:=e7.ext dO (by simp;omega);replace ac:=ac.ext (X':=[K.r,K.b9]) dO (λb hb=>⟨by simp at hb;simp [hb],λh=>by simp at hb;have:=(dE b h).1;omega⟩) (λb hb=>.inl hb);refine QO ?_;refine APG (X:=[K.r,K.b9]) (base:=K.w0.heap.size) f ac (λb hb=>by have:=dO.size;have:=eX.size;simp at hb;omega) (by have:=dO.size;have:=eX.size;omega) rfl (by omega) (by simp only [maxLen];omega) λv1 nv' w6 pY dI aJ=>?_
     replace e9:=e9.ext dI (λh=>by have:=(dE _ h).1;omega);focus repeat'(first|refine W1 ?_|omega|refine VG ?_ ?_<;>intro hg|refine VC ?_ ?_<;>intro hc)
     have mN:SlV [K.r,K.b9] w6 nv' (s.2++[f]):=pY.slv (λb hb=>by simp at hb;omega);refine Z8 (Zb (u:=nv') rfl rfl mN.cells mN.one e9 (by simp)) ?_;rintro _ w7 ⟨lj,e9⟩;refine QO ?_;refine WR ?_;have pZ:=λb hb=>pY.ob_le b hb;have mO:Stp (K.r :: K.b9 :: ob nv) w4 w7:=(dO.mn.trans (dI.mono (λb hb=>by simp [hb]))).trans lj.mn;refine .mk ⟨K.r :: K.b9 :: ob nv',⟨⟨nv',rfl,e9,?_⟩,?_,?_⟩,eX.mn.trans mO,λb hb=>?_⟩;rw [ax];exact pY.ext lj (λb hb=>⟨by simp at hb;simp [hb],λh=>by simp at hb;have:=(pZ b h).1;omega⟩) (λb hb=>.inl hb);rw [ax];have uZ:Jz Z6g w7 K.r (s.1.map (λf=>(f,Value.bool true))++[(f,Value.bool true)]):=(rW.ext dI (λh=>by have:=(dE _ h).1;omega)).ext lj (by simp;omega);rw [XL];exact uZ;exact (hS.trans eX.mn).own mO (λb hb=>by
      simp only [Xc] at hb;rcases hb with rfl|rfl|hb
      exact .inl (by simp);exact .inl (by simp);exact .inr (dE b hb).1)
     simp only [Xc] at hb ⊢;rcases hb with rfl|rfl|hb
     exact .inl (.inl rfl);exact .inl (.inr (.inl rfl));rcases aJ b hb with h|h
     exact .inl (.inr (.inr h));exact .inr (by have:=dO.size;have:=eX.size;omega)
open Go Go.Eng Go.RowKit Go.Shelf Go.Sort
structure Z4f {α:Type} (cf:α->α->Int):Prop where
 anti:∀ x y,cf x y<0↔0<cf y x
 trans:∀ x y z,cf x y<=0->cf y z<=0->cf x z<=0
theorem Z4f.swo {α:Type} {cf:α->α->Int} (h:Z4f cf):SWO (ltOf cf):=by
 have e:∀ x y,ltOf cf x y=decide (cf x y<0):=λ_ _=>rfl;refine ⟨λx=>?_,λx y z h1 h2=>?_,λx y z h1 h2=>?_⟩;have:=h.anti x x;rw [e];simp;omega;rw [e] at *;simp only [decide_eq_true_eq] at *;have a1:=h.anti x y;have a2:=h.anti x z;by_cases hz:cf x z<0;exact hz;have:=h.trans y z x (by omega) (by omega);omega;rw [e] at *;simp only [decide_eq_false_iff_not] at *;have a1:=h.anti x y;have a2:=h.anti y z;have a3:=h.anti x z;have:=h.trans z y x (by omega) (by omega);omega
theorem Z2t {α:Type} (f:α->Int):Z4f (λx y:α=>cmI (f x) (f y)):=by
 have key:∀ a b:Int,(cmI a b<0↔a<b)/\(0<cmI a b↔b<a):=by
  intro a b;unfold cmI;by_cases h1:a<b;simp [h1];omega;by_cases h2:b<a;simp [h1,h2];simp [h1,h2]
 refine ⟨λx y=>?_,λx y z h1 h2=>?_⟩;rw [(key _ _).1,(key _ _).2];have a1:=key (f x) (f y);have a2:=key (f y) (f z);have a3:=key (f x) (f z)
 try dsimp only at *
 by_cases h:0<cmI (f x) (f z);have:=a3.2.1 h;have:¬ f y<f x:=λhh=>by have:=a1.2.2 hh;omega
 have:¬ f z<f y:=λhh=>by have:=a2.2.2 hh;omega
 omega;omega
theorem Z2u:∀ a:Str,ltS a a=false
 | []=>rfl
 | x :: a => by
   show (decide (x<x) || (x == x && ltS a a))=false;rw [Z2u a];simp
theorem Z9A:∀ a b:Str,ltS a b=true\/a=b\/ltS b a=true
 | [],[]=>.inr (.inl rfl)
 | [],_ :: _=>.inl rfl
 | _ :: _,[]=>.inr (.inr rfl)
 | x :: a, y :: b => by
   have e1:ltS (x :: a) (y :: b)=(decide (x<y) || (x == y && ltS a b)):=rfl;have e2:ltS (y :: b) (x :: a)=(decide (y<x) || (y == x && ltS b a)):=rfl;rw [e1,e2];rcases Nat.lt_trichotomy x.toNat y.toNat with h|h|h
   exact .inl (by simp [UInt8.lt_iff_toNat_lt,h]);obtain rfl:x=y:=UInt8.toNat_inj.1 h;rcases Z9A a b with h|h|h
   exact .inl (by simp [h]);exact .inr (.inl (by rw [h]));exact .inr (.inr (by simp [h]));exact .inr (.inr (by simp [UInt8.lt_iff_toNat_lt,h]))
theorem Z7b:∀ a b c:Str,ltS a b=true->ltS b c=true->ltS a c=true
 | [],[],_,h,_=>by cases h
 | [],_ :: _,[],_,h=>by cases h
 | [],_ :: _,_ :: _,_,_=>rfl
 | _ :: _,[],_,h,_=>by cases h
 | _ :: _,_ :: _,[],_,h=>by cases h
 | x :: a, y :: b, z :: c, h1, h2 => by
   have e1:ltS (x :: a) (y :: b)=(decide (x<y) || (x == y && ltS a b)):=rfl;have e2:ltS (y :: b) (z :: c)=(decide (y<z) || (y == z && ltS b c)):=rfl;have e3:ltS (x :: a) (z :: c)=(decide (x<z) || (x == z && ltS a c)):=rfl;rw [e1] at h1;rw [e2] at h2;rw [e3];simp only [Yax,decide_eq_true_eq,Xf,beq_iff_eq,UInt8.lt_iff_toNat_lt] at *;rcases h1 with h1|⟨rfl,h1⟩
   rcases h2 with h2|⟨rfl,h2⟩
   exact .inl (by omega);exact .inl h1;rcases h2 with h2|⟨rfl,h2⟩
   exact .inl h2;exact .inr ⟨rfl,Z7b a b c h1 h2⟩
theorem Z0Q (a b:Str):(Z37 a b<0↔ltS a b=true)/\(0<Z37 a b↔ltS b a=true):=by
 unfold Z37;cases h1:ltS a b with
 | true=>
   have h2:ltS b a=false:=by
    cases h:ltS b a with
    | false=>rfl
    | true=>have:=Z7b a b a h1 h;rw [Z2u] at this;cases this
   simp [h2]
 | false=>
   rcases Z9A a b with h|rfl|h
   rw [h1] at h;cases h;simp [h1];have bi:a≠b:=λe=>by subst e;rw [Z2u] at h;cases h
   simp [h,bi]
theorem Zfi {α:Type} (f:α->Str):Z4f (λx y:α=>Z37 (f x) (f y)):=by
 refine ⟨λx y=>?_,λx y z h1 h2=>?_⟩;rw [(Z0Q _ _).1,(Z0Q _ _).2]
 try dsimp only at *
 by_cases h:0<Z37 (f x) (f z)
 . exfalso
   have g:=(Z0Q _ _).2.1 h;have n1:ltS (f y) (f x)=false:=by
    cases hh:ltS (f y) (f x) with
    | false=>rfl
    | true=>have:=(Z0Q (f x) (f y)).2.2 hh;omega
   have n2:ltS (f z) (f y)=false:=by
    cases hh:ltS (f z) (f y) with
    | false=>rfl
    | true=>have:=(Z0Q (f y) (f z)).2.2 hh;omega
   rcases Z9A (f x) (f y) with a|a|a
   have:=Z7b _ _ _ g a;rw [n2] at this;cases this;rw [a] at g;rw [n2] at g;cases g;rw [n1] at a;cases a
 omega
def lx (a b:Int):Int:=if a≠0 then a else b
theorem Z4f.lx {α:Type} {c1 c2:α->α->Int} (h1:Z4f c1) (h2:Z4f c2):Z4f (λx y=>lx (c1 x y) (c2 x y)):=by
 refine ⟨λx y=>?_,λx y z a b=>?_⟩;have:=h1.anti x y;have:=h1.anti y x;have:=h2.anti x y;unfold YtgdicjnjhchooaaGreatDoor.lx
 try dsimp only
 split<;>split<;>omega
 unfold YtgdicjnjhchooaaGreatDoor.lx at *
 try dsimp only at *
 have a1:=h1.anti x y;have a1':=h1.anti y x;have a2:=h1.anti y z;have a2':=h1.anti z y;have a3:=h1.anti x z;have a3':=h1.anti z x;have t1:=h1.trans x y z;have t2:=h1.trans y z x;have t3:=h1.trans z x y;have t4:=h2.trans x y z;split at a<;>split at b<;>split<;>omega
theorem Z7c (a:Int) (l:List Int):orL (a :: l)=lx a (orL l):=by
 unfold orL lx;by_cases h:a=0<;>simp [h]
theorem Z9B (f g:Fct):Z12 f g=lx (cmI f.day g.day) (lx (cmI f.entry g.entry) (lx (Z37 f.kind g.kind) (lx (cmI f.by_ g.by_) (lx (cmI f.to_ g.to_) (cmI f.amt g.amt))))):=by
 unfold Z12;simp only [Z7c];congr 5;unfold lx orL;by_cases h:cmI f.amt g.amt=0<;>simp [h]
theorem Z26:Z4f Z12:=by
 have:Z12=λf g:Fct=>lx (cmI f.day g.day) (lx (cmI f.entry g.entry) (lx (Z37 f.kind g.kind) (lx (cmI f.by_ g.by_) (lx (cmI f.to_ g.to_) (cmI f.amt g.amt))))):=by
  funext f g;exact Z9B f g
 rw [this];exact (Z2t _).lx ((Z2t _).lx ((Zfi _).lx ((Z2t _).lx ((Z2t _).lx (Z2t _)))))
theorem Z51 {a b:Int} (h:lx a b=0):a=0/\b=0:=by
 unfold lx at h;split at h<;>omega
theorem Z3z {a b:Int} (h:cmI a b=0):a=b:=by
 unfold cmI at h;split at h;omega;split at h<;>omega
theorem Z8n {a b:Str} (h:Z37 a b=0):a=b:=by
 rcases Z9A a b with g|g|g
 have:=(Z0Q a b).1.2 g;omega;exact g;have:=(Z0Q a b).2.2 g;omega
theorem Zfj {f g:Fct} (h:Z12 f g=0):f=g:=by
 rw [Z9B] at h;obtain ⟨h1,h⟩:=Z51 h;obtain ⟨h2,h⟩:=Z51 h;obtain ⟨h3,h⟩:=Z51 h;obtain ⟨h4,h⟩:=Z51 h;obtain ⟨h5,h6⟩:=Z51 h;obtain ⟨a,b,c,d,e,k⟩:=f;obtain ⟨a',b',c',d',e',k'⟩:=g
 try dsimp only at *
 rw [Z3z h1,Z3z h2,Z8n h3,Z3z h4,Z3z h5,Z3z h6]
theorem Z8o {α:Type} {cf:α->α->Int} (h:Z4f cf) (h0:∀ x y,cf x y=0->x=y):∀ {l m:List α},l.Perm m->l.Pairwise (λa b=>¬ cf b a<0)->m.Pairwise (λa b=>¬ cf b a<0)->l=m
 | [],m,hp,_,_=>(List.nil_perm.1 hp).symm
 | x :: l,[],hp,_,_=>by have:=hp.length_eq;simp at this
 | x :: l, y :: m, hp, h1, h2 => by
   rw [XD] at h1 h2;have kR:x=y:=by
    rcases Xc.1 (hp.mem_iff.1 (YaP)) with e|e
    exact e;rcases Xc.1 (hp.symm.mem_iff.1 (YaP)) with e'|e'
    exact e'.symm;have a1:=h2.1 x e;have a2:=h1.1 y e';have b1:=h.anti x y;have b2:=h.anti y x;exact h0 x y (by omega)
   subst kR;rw [Z8o h h0 hp.cons_inv h1.2 h2.2]
def Z5F (s:Fct):List Fct->List Fct
 | []=>[s]
 | x :: l=>if Z12 s x<=0 then s :: x :: l else x :: Z5F s l
def Z0m (l:List Fct):List Fct:=l.foldr Z5F []
theorem Z3S (s:Fct):∀ l,(Z5F s l).Perm (s :: l)
 | []=>Yam _
 | x :: l => by
   rw [Z5F];split;exact Yam _
   . exact ((Z3S s l).cons x).trans (List.Perm.swap _ _ _)
theorem Z3A (s:Fct):∀ l:List Fct,l.Pairwise (λa b=>¬ Z12 b a<0)->(Z5F s l).Pairwise (λa b=>¬ Z12 b a<0)
 | [],_=>by simp [Z5F]
 | x :: l, h => by
   rw [Z5F];rw [XD] at h;split;rename_i hlt;refine XD.2 ⟨λy hy=>?_,XD.2 h⟩;rcases Xc.1 hy with rfl|hy
   have:=Z26.anti y s;omega;have a1:=h.1 y hy;have a2:=Z26.anti y x;have a3:=Z26.anti y s;have:=Z26.trans s x y hlt (by omega);omega;rename_i hlt;refine XD.2 ⟨λy hy=>?_,Z3A s l h.2⟩;rcases Xc.1 ((Z3S s l).mem_iff.1 hy) with rfl|hy
   omega;exact h.1 y hy
theorem JV:∀ l,(Z0m l).Perm l
 | []=>Yam _
 | x :: l=>(Z3S x _).trans ((JV l).cons x)
theorem Z2T:∀ l,(Z0m l).Pairwise (λa b=>¬ Z12 b a<0)
 | []=>List.Pairwise.nil
 | x :: l=>Z3A x _ (Z2T l)
theorem Zba {l m:List Fct} (hp:m.Perm l) (hs:m.Pairwise (λa b=>¬ Z12 b a<0)):m=Z0m l:=Z8o Z26 (λ_ _=>Zfj) (hp.trans (JV l).symm) hs (Z2T l)
theorem Z62 {X:List Nat} {base:Nat} {v:Value} {zs:List Fct} {w} (h:Row X w base 40 v zs) (bD:zs.length<=400000000000) :
 CC 48 #[v,.func (.func 49) #[] #[]] w λr w'=>r=.tuple #[]/\Row X w' base 40 v (Z0m zs)/\Stp (ob v) w w':=by
 refine Calls.ret (Z8c (β:=Fct) (by decide) Tryz.sortFct Tryz.isAgg40 Tryz.sizeOf40 Z12 Z26.swo 49 (λx y w=>ZtZ x y w) h (by omega)) ?_;rintro _ w' ⟨rfl,zs',hp,hs,hr,hS⟩;rw [<- Zba hp (Yag.2 λi j hi hj cW=>hs i j hi hj cW)];exact ⟨rfl,hr,hS⟩
def Zs (c:Cas):Nat->List Fct×List Fct×List Fct
 | 0=>(c.fcts,c.fcts,[])
 | k+1=>let s:=Zs c k;let r:=(JE c s.2.1).foldl (Jr c) (s.1,[]);(r.1,r.2,s.2.2++r.2)
def Z1j (c:Cas):List Fct:=Z0m (Zs c 16).2.2
theorem Z63 (c:Cas) {k:Nat} (h:(Zs c k).2.1=[]):∀ j,(Zs c (k+j)).2.2=(Zs c k).2.2/\(Zs c (k+j)).2.1=[]
 | 0=>⟨rfl,h⟩
 | j + 1 => by
   obtain ⟨h1,h2⟩:=Z63 c h j;rw [<- YaK,Zs];dsimp only;rw [h2];simp [JE,h1]
theorem Z2v (c:Cas) (f:Fct):∀ i,(Z0P c f i).length<=i
 | 0=>Xl _
 | i + 1 => by
   rw [Z0P,Xa];have:=Z2v c f i;split<;>simp<;>omega
theorem Z2w (c:Cas):∀ fs:List Fct,(JE c fs).length<=fs.length * c.ruls.length
 | []=>by simp [JE]
 | f :: fs => by
   have h1:=Z2w c fs;have h2:=Z2v c f c.ruls.length;unfold JE at h1 ⊢;rw [Ya7,Xa,Xe,Yau];omega
theorem Zbb {c:Cas} {f:Fct} {p:DI}:∀ i,p∈Z0P c f i->p.2<i/\p.1=(JQ c f p.2).1/\(JQ c f p.2).2=true
 | 0,h=>by cases h
 | i + 1, h => by
   rw [Z0P] at h;rcases Xd.1 h with h|h
   obtain ⟨h1,h2⟩:=Zbb i h;exact ⟨by omega,h2⟩;split at h;rename_i ht;simp only [Xm] at h;subst h;exact ⟨by dsimp only;omega,rfl,ht⟩;cases h
theorem Zit {c:Cas} {fs:List Fct} {p:DI} (h:p∈JE c fs):∃ f∈fs,p.2<c.ruls.length/\p.1=(JQ c f p.2).1/\(JQ c f p.2).2=true:=by
 unfold JE at h;obtain ⟨f,hf,hp⟩:=Ybf.1 h;exact ⟨f,hf,Zbb _ hp⟩
theorem Z9C {c:Cas} {f:Fct} {r:Int} (ho:Z3x c) (hf:Z0l f) (h:(JQ c f r).2=true):(JQ c f r).1.trig=f/\0<=(JQ c f r).1.due/\(JQ c f r).1.due<=3652058:=by
 have bF:=ZcM ho hf;have no:∀ {P:Prop},(noD.2=true)->P:=λh=>by cases h
 unfold JQ at h ⊢;by_cases hr:¬ (0<=r/\r<=(c.ruls.length:Int) - 1);rw [if_pos hr] at h;exact no h;rw [if_neg hr] at h ⊢;have hq:c.ruls.getD r.toNat crZ∈c.ruls:=by
  have hl:r.toNat<c.ruls.length:=by omega
  simp [hl]
 have iL:=ho.due _ hq;generalize c.ruls.getD r.toNat crZ=q at *;dsimp only at h ⊢;have kl:=Z4r (o:=opn c) bF iL;generalize J7 (opn c) (evL c f) q.due=y at *;generalize J7 (opn c) (evL c f) q.cnd=x at *;split at h;exact no h;split at h;exact no h;split at h;exact no h;rename_i g1 g2 g3;rw [if_neg g1,if_neg g2,if_neg g3];have hy:0<=y.1/\y.1<=3652058:=by
  rcases kl (Decidable.not_not.1 g3) with h|h|h
  omega;omega;exact h.2
 generalize Z0N f.day y.1 c.stys=z at *;split at h;exact no h;rename_i g4;rw [if_neg g4];split at h;rename_i g5;rw [if_pos g5];exact ⟨rfl,hy⟩;rename_i g5;rw [if_neg g5];split at h;exact no h;rename_i g6;rw [if_neg g6];have:=Zr.1 (Z1T (Decidable.not_not.1 g6)).1;exact ⟨rfl,this⟩
theorem Zql {c:Cas} {d:Dln} {i:Nat} (ho:Z3x c) (hf:Z0l d.trig) (h:(Z3s c d i).2=true):Z0l (Z3s c d i).1:=by
 have h1:=hf.day;have h2:=ho.today;unfold Z3s at h;simp only [decide_eq_true_eq] at h;refine ⟨?_,hf.to_,hf.by_,hf.amt⟩;show 0<=max d.due d.trig.day+1/\max d.due d.trig.day+1<=3652058;omega
theorem Zbc {c:Cas} (ho:Z3x c):∀ (l:List DI) (s:List Fct×List Fct),(∀ p∈l,Z0l p.1.trig)->(∀ f∈s.2,Z0l f)->∀ f∈(l.foldl (Jr c) s).2,Z0l f
 | [],s,_,hs=>hs
 | p :: l, s, hl, hs => by
   rw [X5];refine Zbc ho l _ (λq hq=>hl q (by simp [hq])) ?_;unfold Jr;dsimp only;split;rename_i hc;intro f hf;rcases Xd.1 hf with h|h
   exact hs f h;simp only [Xm] at h;subst h;exact Zql ho (hl p (by simp)) hc.1;exact hs
theorem Ziu {c:Cas} (ho:Z3x c) {fs:List Fct} (fY:∀ f∈fs,Z0l f) (known:List Fct):∀ f∈((JE c fs).foldl (Jr c) (known,[])).2,Z0l f:=
 Zbc ho _ _ (λp hp=>by
  obtain ⟨f,hf,_,he,ht⟩:=Zit hp;rw [he,(Z9C ho (fY f hf) ht).1];exact fY f hf) (by simp)
theorem Z8p (c:Cas) (hr:c.ruls.length<=4) (fs known:List Fct):((JE c fs).foldl (Jr c) (known,[])).2.length<=fs.length * 4:=by
 have h1:=Z3R c (JE c fs) (known,[]);have h2:=Z2w c fs;have h3:=Nat.mul_le_mul_left fs.length hr;simp only [Xi] at h1;omega
structure Z7O (c:Cas):Prop where
 ok:Z3x c
 fl:c.fcts.length<=16
 rl:c.ruls.length<=4
 fo:∀ f∈c.fcts,Z0l f
 nd:c.fcts.Nodup
theorem Z7d {c:Cas} (h:Z7O c):∀ k,(Zs c k).2.1.length<=16 * 4 ^ k/\3 * (Zs c k).2.2.length<=16 * 4 ^ (k+1)
 | 0=>⟨by simpa [Zs] using h.fl,by simp [Zs]⟩
 | k + 1 => by
   obtain ⟨h1,h2⟩:=Z7d h k;have h3:=Z8p c h.rl (Zs c k).2.1 (Zs c k).1;rw [Zs];dsimp only;rw [Xa];have e1:4 ^ (k+1)=4 ^ k * 4:=YbB 4 k;have e2:4 ^ (k+2)=4 ^ (k+1) * 4:=YbB 4 (k+1);constructor<;>omega
theorem Z2U {c:Cas} (h:Z7O c) {k:Nat} (hk:k<=16):(Zs c k).2.1.length<=70000000000/\(Zs c k).2.2.length<=92000000000:=by
 obtain ⟨h1,h2⟩:=Z7d h k;have e1:4 ^ k<=4 ^ 16:=Nat.pow_le_pow_right (by decide) hk;have e2:4 ^ (k+1)<=4 ^ 17:=Nat.pow_le_pow_right (by decide) (by omega);have n1:4 ^ 16=4294967296:=by decide
 have n2:4 ^ 17=17179869184:=by decide
 constructor<;>omega
theorem Z2V {c:Cas} (h:Z7O c):∀ k,(∀ f∈(Zs c k).2.1,Z0l f)/\(∀ f∈(Zs c k).2.2,Z0l f)
 | 0=>⟨h.fo,by simp [Zs]⟩
 | k + 1 => by
   obtain ⟨h1,h2⟩:=Z2V h k;have h3:=Ziu h.ok h1 (Zs c k).1;rw [Zs];dsimp only;exact ⟨h3,λf hf=>(Xd.1 hf).elim (h2 f) (h3 f)⟩
end Go.Proofs.YtgdicjnjhchooaaGreatDoor
namespace Go.Eng
open Go
def Z7e (ops:Array Oper) (Lt:List Nat) (i q:Nat) (r1 r2:List (Nat×Nat)):List Nat->Array Bool->Bool
 | [],listed=>Region.ready .any ops listed == [i,q] && J5 ops Lt r1 (listed.setIfInBounds i true) && J5 ops Lt r2 (listed.setIfInBounds q true)
 | j :: p,listed=>(Region.ready .any ops listed).contains j && Region.free .any ops listed j && Z7e ops Lt i q r1 r2 p (listed.setIfInBounds j true)
structure WDF (P:Program) (n:Nat) (ops:Array Oper) (S:List Nat) (Lt:List Nat) (Q:Exit->Act->World->Prop) (i q:Nat) (r1 r2:List (Nat×Nat)) (p:List Nat) (e:Env) (w:World):Prop where
 h:∀ listed:Array Bool,Region.noSelect ops=true->Z7e ops Lt i q r1 r2 p listed=true->∀ a,Has n e a->Z8Q P .any ops S (λj=>Lt.contains j) (λa w=>Q .normal a w) (p.length+(wt r1+1)) listed a w
section
variable {P:Program} {n:Nat} {Q:Exit->Act->World->Prop} {e:Env} {w:World} {ops:Array Oper} {S:List Nat} {Lt:List Nat}
theorem Zfk {id:Nat} {l:List Oper} (m:Nat) (S:List Nat) (Lt:List Nat) (p:List Nat) (i q:Nat) (r1 r2:List (Nat×Nat)) (ce:l.length=m) (hm:P.follows .mixedOrders=true) (hs:Region.noSelect l.toArray=true) (hl:Nat.beq (p.length+(wt r1+1)) l.length=true)
 (hB:Z7e l.toArray Lt i q r1 r2 p (Array.replicate m false)=true)
 (h:∀ w',Stp [] w w'->WDF P n l.toArray S Lt Q i q r1 r2 p e w'):WC P n (.region id l.toArray true) Q e w:=by
 subst ce;refine ⟨λa ha=>wp_region_any hm ?_⟩;have h1:=(h { w with drawn:=w.drawn+1 } (Stp.drew [] w)).h _ hs hB a ha;have h2:=Z0u (Q:=Q) (λa w hz=>hz) _ _ _ _ h1;rw [Xq hl] at h2;simpa using h2
theorem Z7f {i q j d:Nat} {r1 r2:List (Nat×Nat)} {p:List Nat} {op:Op} {ty:TypeId} {pos:String} {af:Array Edge} {gd:Option (Nat×Bool)} {v:Value} (hi:ops[j]?=some ⟨some d,op,ty,pos,af,gd⟩) (hg:Z08 ops e gd) (hp:∀ w',PR P n ⟨some d,op,ty,pos,af,gd⟩ e w' v) (aB:Nat.blt d n=true)
 (k:WDF P n ops S Lt Q i q r1 r2 p ((d,v) :: e) w):WDF P n ops S Lt Q i q r1 r2 (j :: p) e w:=by
 refine ⟨λlisted hs hB a ha=>?_⟩;simp only [Z7e,Xf] at hB;obtain ⟨⟨h1,h2⟩,h3⟩:=hB;have hk:=k.h _ hs h3 _ (ha.put (v:=v) aB);have e1:(j :: p).length+(wt r1+1)=p.length+(wt r1+1)+1:=by simp only [Xe];omega
 rw [e1];exact Z4y (oi:=⟨some d,op,ty,pos,af,gd⟩) (R:=λ_ _=>True) (λ_=>trivial) (λ_ _ _ _ _=>trivial) hi (λ_ _ _ _ _ _ _ _=>trivial) (Region.noSelect_spec hs) _ _ _ _ (Region.free_spec hi h2) (λ_=>trivial) (by simpa using h1) (.inl ⟨Z01 ha hg,λw' _=>(hp w').h a ha⟩) hk
theorem Ziv {i q:Nat} {r1 r2:List (Nat×Nat)} (hw:Nat.beq (wt r1) (wt r2)=true) (h1:WD1 P n ops S Lt Q i r1 e w) (h2:WD1 P n ops S Lt Q q r2 e w):WDF P n ops S Lt Q i q r1 r2 [] e w:=by
 refine ⟨λlisted hs hB a ha=>?_⟩;simp only [Z7e,Xf,beq_iff_eq] at hB;obtain ⟨⟨hr,c1⟩,c2⟩:=hB;have e1:([]:List Nat).length+(wt r1+1)=wt r1+1:=by simp
 rw [e1];refine ⟨λh0=>absurd (hr ▸ h0) (by simp),λj hj=>?_⟩;rw [hr] at hj;have gj:j=i\/j=q:=by simpa using hj
 rcases gj with rfl|rfl
 exact h1.h _ hs c1 a ha;rw [Xq hw];exact h2.h _ hs c2 a ha
theorem Z7g {i q j d:Nat} {r1 r2:List (Nat×Nat)} {p:List Nat} {x:Operand} {ty:TypeId} {pos:String} {af:Array Edge} {gd:Option (Nat×Bool)} {v:Value} (hi:ops[j]?=some ⟨some d,.move x,ty,pos,af,gd⟩) (hg:Z08 ops e gd) (hx:ev e x=some v) (aB:Nat.blt d n=true)
 (k:WDF P n ops S Lt Q i q r1 r2 p ((d,v) :: e) w):WDF P n ops S Lt Q i q r1 r2 (j :: p) e w:=Z7f hi hg (λ_=>ZX hx) aB k
theorem Zbd {i q j d:Nat} {r1 r2:List (Nat×Nat)} {p:List Nat} {x y:Operand} {t u:TypeId} {a b:Int} {ty:TypeId} {pos:String} {af:Array Edge} {gd:Option (Nat×Bool)} (hi:ops[j]?=some ⟨some d,.binOp .rem t x y u,ty,pos,af,gd⟩) (hg:Z08 ops e gd) (hx:ev e x=some (.I a)) (hy:ev e y=some (.I b)) (h0:0<=a) (hb:0<b) (hr:I64 a) (aB:Nat.blt d n=true)
 (k:WDF P n ops S Lt Q i q r1 r2 p ((d,.I (a % b)) :: e) w):WDF P n ops S Lt Q i q r1 r2 (j :: p) e w:=Z7f hi hg (λ_=>Zdn hx hy h0 hb hr) aB k
theorem Ziw {i q j d:Nat} {r1 r2:List (Nat×Nat)} {p:List Nat} {x y:Operand} {t u:TypeId} {a b:Int} {ty:TypeId} {pos:String} {af:Array Edge} {gd:Option (Nat×Bool)} (hi:ops[j]?=some ⟨some d,.binOp .quo t x y u,ty,pos,af,gd⟩) (hg:Z08 ops e gd) (hx:ev e x=some (.I a)) (hy:ev e y=some (.I b)) (h0:0<=a) (hb:0<b) (hr:I64 a) (aB:Nat.blt d n=true)
 (k:WDF P n ops S Lt Q i q r1 r2 p ((d,.I (a / b)) :: e) w):WDF P n ops S Lt Q i q r1 r2 (j :: p) e w:=Z7f hi hg (λ_=>Zdo hx hy h0 hb hr) aB k
end
end Go.Eng
namespace Go.Proofs.YtgdicjnjhchooaaGreatDoor
open Go Go.Eng Go.RowKit Go.Proofs
theorem Zfl (z:Int) (w) (hz:I64 z):CC 26 #[.I z] w λr w'=>(∃ s∈Z1h,r=str s)/\Stp [] w w':=by
 refine cW1 10 Tryz.func26 ?_;refine W ?_;refine Z0 (Z1 (vs:=[(0,str [99,108,97,105,109]),(1,str [97,110,115,119,101,114]),(2,str [109,111,116,105,111,110]),(3,str [111,114,100,101,114]),(4,str [97,112,112,101,97,108]),(5,str [108,97,112,115,101])]) rfl (bS6 _ _ _ _ _ _)) rfl ?_;rintro v w1 hN;have hv:SlV [] w1 v Z1h:=hN.slv (by simp) rfl rfl (by decide);have hS:=Za.stp hN;clear hN;refine W ?_;refine CM (Zg rfl rfl) (ZD z 6 _ (by decide) hz) ?_;rintro _ w2 ⟨rfl,hT⟩;have hr:=Jb (if z<0 then -(z+1) else z) 6 (by decide);generalize (if z<0 then -(z+1) else z) % 6=y at hr ⊢;obtain ⟨q,rfl⟩:∃ q:Nat,y=(q:Int):=⟨y.toNat,by omega⟩
 replace hv:=hv.up hT;have bV:q<Z1h.length:=by show q<6;omega
 refine RT ?_;exact ⟨⟨_,Xb bV,rfl⟩,hS.trans hT⟩
theorem Z13 (v:Value) (l:List Int) (k:Nat) (w) (hs:SlV [] w v l) :
 CC 19 #[v,.I (k:Int)] w λr w'=>SlV [] w r (l.drop k)/\w'=w:=by
 have bh:=hs.max;refine cW2 11 Tryz.func19 ?_;refine W ?_;have hm:(if (l.length:Int)<(k:Int) then (l.length:Int) else (k:Int))=((min k l.length:Nat):Int):=by split<;>omega
 refine Z9 (Z0Z (l:=min k l.length) rfl hs rfl (by omega) (by omega)) rfl ?_;refine W ?_;refine WR ?_;have h:=hs.slc (l:=min k l.length) (r:=l.length) (by omega) (Xl _);rw [Xs] at h;have e:l.drop (min k l.length)=l.drop k:=by
  by_cases hk:k<=l.length;rw [Yay hk];rw [Nat.min_eq_right (by omega),Ybg,Ya4 (by omega)]
 rw [e] at h;exact .mk ⟨h,rfl⟩
structure Z8q (f:Fct):Prop where
 kind:f.kind∈Z1h
 day:739616<=f.day/\f.day<=739655
 by_:0<=f.by_/\f.by_<=2
 to_:0<=f.to_/\f.to_<=2
 amt:-20<=f.amt/\f.amt<=179
theorem Z8q.ok {f:Fct} (h:Z8q f):Z0l f:=⟨by have:=h.day;omega,by have:=h.by_;omega,by have:=h.to_;omega,by have:=h.amt;omega⟩
theorem ZlL (f:Fct) (w):(Instr.build 40 #[(0,.I f.entry),(1,str f.kind),(2,.I f.day),(3,.I f.by_),(4,.I f.to_),(5,.I f.amt)]).run Tryz.prog w=.ok (aG f) w:=by kernel_rfl
theorem Z8r (en z:Int) (w) (hz:I64 z) :
 CC 6 #[.I en,.I z] w λr w'=>∃ f:Fct,r=aG f/\f.entry=en/\Z8q f/\Stp [] w w':=by
 refine cW2 26 Tryz.func6 ?_;refine W ?_;refine Z0 Z4 rfl ?_;rintro _ w1 ⟨b4,rfl,br,k4,hS⟩;refine W ?_;refine CM (Zg rfl rfl) (ZD z 100000000 _ (by decide) hz) ?_;rintro _ w2 ⟨rfl,hT⟩;have hr:=Jb (if z<0 then -(z+1) else z) 100000000 (by decide);generalize (if z<0 then -(z+1) else z) % 100000000=y at hr ⊢;replace k4:=k4.up hT;replace hS:=hS.trans hT;clear hT;refine W ?_;refine CM (ZS rfl) (Zfl y _ (by unfold I64;omega)) ?_;rintro _ w3 ⟨⟨s,hs,rfl⟩,hT⟩;replace k4:=k4.up hT;replace hS:=hS.trans hT;clear hT;refine W ?_;have hf:Z8q (⟨en,s,739616+y / 6 % 40,y / 240 % 3,y / 720 % 3,y / 2160 % 200 - 20⟩:Fct):=by
  refine ⟨hs,?_,?_,?_,?_⟩<;>dsimp only<;>omega
 refine Z5 rfl (ZlL (⟨en,s,739616+y / 6 % 40,y / 240 % 3,y / 720 % 3,y / 2160 % 200 - 20⟩:Fct)) rfl ?_;generalize hg:(⟨en,s,739616+y / 6 % 40,y / 240 % 3,y / 720 % 3,y / 2160 % 200 - 20⟩:Fct)=f at hf;have he:f.entry=en:=by rw [<- hg]
 refine SA (us:=Z2.enc f) k4 ?_;rintro _ w4 ⟨hT,k4⟩;replace hS:=hS.ow hT;refine W ?_;refine JS rfl rfl rfl k4 rfl ?_;exact .mk ⟨f,rfl,he,hf,hS⟩
structure Zbe (x:Crr):Prop where
 ext:0<=x.extra/\x.extra<=1000
 tol:0<=x.tol/\x.tol<=1000
theorem Z6r (a b c d:Int) (w):(Instr.buildSlice 22 4 #[(0,.I a),(1,.I b),(2,.I c),(3,.I d)]).run Tryz.prog w=.ok (.slice (some ⟨w.heap.size,0,none⟩) 4 4) (w.alloc (.cells #[.I a,.I b,.I c,.I d] 3)):=by kernel_rfl
theorem Z8s (x:Crr) (w):(Instr.build 127 #[(0,.I x.extra),(1,.I x.tol)]).run Tryz.prog w=.ok (aG x) w:=by kernel_rfl
theorem Z8t (x:Crr) (w):(Instr.buildSlice 26 1 #[(0,aG x)]).run Tryz.prog w=.ok (.slice (some ⟨w.heap.size,0,none⟩) 1 1) (w.alloc (.cells (Z2.enc x).toArray 127)):=by kernel_rfl
theorem Z9D (lv:Value) (l:List Int) (w) (hs:SlV [] w lv l) (hl:∀ a∈l,I64 a) :
 CC 20 #[lv] w λr w'=>∃ cs:List Crr,1<=cs.length/\cs.length<=4/\(∀ x∈cs,Zbe x)/\Zk 127 w w' r cs:=by
 refine cW1 32 Tryz.func20 ?_;refine W ?_;refine LP (σ:=Nat×Value×List Crr) (λq=>[(0,lv),(3,q.2.1),(4,.I (q.1:Int))]) (λq W=>q.1<=4/\q.2.2.length=q.1/\(∀ x∈q.2.2,Zbe x)/\Row [] W w.heap.size 127 q.2.1 q.2.2/\Stp [] w W) (λq=>4 - q.1) (0,.N,[]) ⟨by decide,rfl,by simp,Row.nil,Stp.refl _ _⟩ ?_;rintro ⟨j,ov,cs⟩ w1 ⟨hj,ak,aL,ac,hS⟩;dsimp only at hj ak aL ac ⊢;have aJ:=λb hb=>ac.ob_le b hb;have bB:=hs.up hS;refine W ?_;refine CM (ZJ rfl rfl rfl) (ZI [] _ l 0 4 _ (by decide) (by unfold I64;omega) bB hl) ?_;rintro _ w2 ⟨q,rfl,hq,hT⟩;replace ac:=ac.up hT;replace bB:=bB.up hT;replace hS:=hS.trans hT;clear hT;by_cases hlt:(j:Int)<=(q:Int);refine QO ?_;refine CM (ZJ rfl rfl rfl) (ZI [] _ l (1+(j:Int)) 1000 _ (by decide) (by unfold I64;omega) bB hl) ?_;rintro _ w3 ⟨x,rfl,hx,hT⟩;replace ac:=ac.up hT;replace bB:=bB.up hT;replace hS:=hS.trans hT;clear hT;refine W ?_;refine Zfk 16 (ob ov) [] [0,2,3,7,8,9] 1 6 [(4,0),(5,1),(6,2),(10,0),(11,1),(12,0),(13,2),(14,2),(15,0)] [(10,0),(11,1),(1,2),(4,0),(5,1),(12,0),(13,2),(14,2),(15,0)] rfl mixed (by kernel_rfl) (by kernel_rfl) (by kernel_rfl) (λw1 ae=>?_);replace ac:=ac.up ae;replace hS:=hS.trans ae;clear ae;have za:=hS.size;refine Z7g rfl trivial rfl rfl ?_;refine Z7g rfl trivial rfl rfl ?_;refine Zbd rfl trivial rfl rfl (by omega) (by decide) (by unfold I64;omega) rfl ?_;refine Z7g rfl trivial rfl rfl ?_;refine Ziw rfl trivial rfl rfl (by omega) (by decide) (by unfold I64;omega) rfl ?_;refine Zbd rfl trivial rfl rfl (by omega) (by decide) (by unfold I64;omega) rfl ?_;obtain ⟨k1,bz,hq1⟩:∃ k:Nat,(x:Int) % 4=(k:Int)/\k<([0,3,5,2]:List Int).length:=⟨x % 4,by omega,YbD _ (by decide)⟩
 obtain ⟨k2,cA,hq2⟩:∃ k:Nat,(x:Int) / 4 % 4=(k:Int)/\k<([0,0,1,2]:List Int).length:=⟨x / 4 % 4,by omega,YbD _ (by decide)⟩
 rw [bz,cA];apply Ziv rfl;refine Z16 rfl trivial (Z1 (vs:=[(0,.I 0),(1,.I 3),(2,.I 5),(3,.I 2)]) rfl (Z6r _ _ _ _)) (λ_ _ h=>(Za.stp h).mn) rfl ?_;rintro va wa hN;have kw:SlV (ob ov) wa va ([0,3,5,2]:List Int):=hN.slv (λb hb=>(ac.ob_le b hb).2) rfl rfl (by simp [maxLen]);have hT:=Za.stp hN;clear hN;replace ac:=ac.up hT;replace hS:=hS.trans hT;clear hT;refine QD ?_;refine Z7 rfl trivial (Z1 (vs:=[(0,.I 0),(1,.I 0),(2,.I 1),(3,.I 2)]) rfl (Z6r _ _ _ _)) (λ_ _ h=>(Za.stp h).mn) rfl ?_;rintro vb wb hN;have qa:SlV (ob ov) wb vb ([0,0,1,2]:List Int):=hN.slv (λb hb=>(ac.ob_le b hb).2) rfl rfl (by simp [maxLen]);have hT:=Za.stp hN;clear hN;replace ac:=ac.up hT;replace kw:=kw.up hT;replace hS:=hS.trans hT;clear hT;refine QD ?_;have hy:Zbe (⟨([0,3,5,2]:List Int)[k1]'hq1,([0,0,1,2]:List Int)[k2]'hq2⟩:Crr):=by
  constructor;have:=Xb hq1;dsimp only;generalize ([0,3,5,2]:List Int)[k1]'hq1=A at this ⊢;simp only [Xc,Xn,or_false] at this;omega;have:=Xb hq2;dsimp only;generalize ([0,0,1,2]:List Int)[k2]'hq2=A at this ⊢;simp only [Xc,Xn,or_false] at this;omega
 refine Jl rfl trivial (λw'=>Z0G rfl (λw=>Z8s (⟨([0,3,5,2]:List Int)[k1]'hq1,([0,0,1,2]:List Int)[k2]'hq2⟩:Crr) w)) rfl ?_;generalize (⟨([0,3,5,2]:List Int)[k1]'hq1,([0,0,1,2]:List Int)[k2]'hq2⟩:Crr)=y at hy ⊢;refine Z7 rfl trivial (Z1 rfl (Z8t y)) (λ_ _ h=>(Za.stp h).mn) rfl ?_;rintro vs wd hN;have cb:SlV (ob ov++[]) wd vs [y]:=hN.slv (λb hb=>(ac.ob_le b (by simpa using hb)).2) rfl (by simp) (by simp [maxLen]);have hT:=Za.stp hN;clear hN;replace ac:=ac.up hT;replace hS:=hS.trans hT;clear hT;have zd:=hS.size;refine Z7 rfl trivial (ZC (α:=Crr) (X:=[]) (base:=w.heap.size) rfl (by decide) rfl rfl ac cb (Xh (Xu _ (show cs.length+[y].length<=10 by simp;omega)) (by decide)) (by simp [maxLen];omega) (by omega)) (λ_ _ h=>h.2.1) rfl ?_;rintro ov' we ⟨bU,cF,cK⟩;refine QD ?_;refine W ?_;exact QL (j+1,ov',cs++[y]) ⟨by dsimp only;omega,by simp [ak],λz hz=>by
  rcases Xd.1 hz with h|h
  exact aL z h;simp only [Xm] at h;subst h;exact hy,bU,hS.own cF (λb hb=>.inr (ac.ob_le b hb).1)⟩ (by dsimp only;omega)
 refine Z16 rfl trivial (Z1 (vs:=[(0,.I 0),(1,.I 0),(2,.I 1),(3,.I 2)]) rfl (Z6r _ _ _ _)) (λ_ _ h=>(Za.stp h).mn) rfl ?_;rintro vb wb hN;have qa:SlV (ob ov) wb vb ([0,0,1,2]:List Int):=hN.slv (λb hb=>(ac.ob_le b hb).2) rfl rfl (by simp [maxLen]);have hT:=Za.stp hN;clear hN;replace ac:=ac.up hT;replace hS:=hS.trans hT;clear hT;refine QD ?_;refine Z7 rfl trivial (Z1 (vs:=[(0,.I 0),(1,.I 3),(2,.I 5),(3,.I 2)]) rfl (Z6r _ _ _ _)) (λ_ _ h=>(Za.stp h).mn) rfl ?_;rintro va wa hN;have kw:SlV (ob ov) wa va ([0,3,5,2]:List Int):=hN.slv (λb hb=>(ac.ob_le b hb).2) rfl rfl (by simp [maxLen]);have hT:=Za.stp hN;clear hN;replace ac:=ac.up hT;replace qa:=qa.up hT;replace hS:=hS.trans hT;clear hT;refine QD ?_;have hy:Zbe (⟨([0,3,5,2]:List Int)[k1]'hq1,([0,0,1,2]:List Int)[k2]'hq2⟩:Crr):=by
  constructor;have:=Xb hq1;dsimp only;generalize ([0,3,5,2]:List Int)[k1]'hq1=A at this ⊢;simp only [Xc,Xn,or_false] at this;omega;have:=Xb hq2;dsimp only;generalize ([0,0,1,2]:List Int)[k2]'hq2=A at this ⊢;simp only [Xc,Xn,or_false] at this;omega
 refine Jl rfl trivial (λw'=>Z0G rfl (λw=>Z8s (⟨([0,3,5,2]:List Int)[k1]'hq1,([0,0,1,2]:List Int)[k2]'hq2⟩:Crr) w)) rfl ?_;generalize (⟨([0,3,5,2]:List Int)[k1]'hq1,([0,0,1,2]:List Int)[k2]'hq2⟩:Crr)=y at hy ⊢;refine Z7 rfl trivial (Z1 rfl (Z8t y)) (λ_ _ h=>(Za.stp h).mn) rfl ?_;rintro vs wd hN;have cb:SlV (ob ov++[]) wd vs [y]:=hN.slv (λb hb=>(ac.ob_le b (by simpa using hb)).2) rfl (by simp) (by simp [maxLen]);have hT:=Za.stp hN;clear hN;replace ac:=ac.up hT;replace hS:=hS.trans hT;clear hT;have zd:=hS.size;refine Z7 rfl trivial (ZC (α:=Crr) (X:=[]) (base:=w.heap.size) rfl (by decide) rfl rfl ac cb (Xh (Xu _ (show cs.length+[y].length<=10 by simp;omega)) (by decide)) (by simp [maxLen];omega) (by omega)) (λ_ _ h=>h.2.1) rfl ?_;rintro ov' we ⟨bU,cF,cK⟩;refine QD ?_;refine W ?_;exact QL (j+1,ov',cs++[y]) ⟨by dsimp only;omega,by simp [ak],λz hz=>by
  rcases Xd.1 hz with h|h
  exact aL z h;simp only [Xm] at h;subst h;exact hy,bU,hS.own cF (λb hb=>.inr (ac.ob_le b hb).1)⟩ (by dsimp only;omega)
 . refine QO ?_
   all_goals
    refine RU ?_;exact ⟨cs,by omega,by omega,aL,ac,hS⟩
structure Ze6 (x:Spn):Prop where
 lo:0<=x.1
 le:x.1<=x.2
 hi:x.2<=3652058
theorem Zbf (lv:Value) (l:List Int) (w) (hs:SlV [] w lv l) (hl:∀ a∈l,I64 a) (h4:l.length<=4) :
 CC 24 #[lv,.I 739616] w λr w'=>∃ xs:List Spn,xs.length<=2/\(∀ x∈xs,Ze6 x)/\Zk 94 w w' r xs:=by
 refine cW2 44 Tryz.func24 ?_;refine W ?_;refine LP (σ:=Nat×Value×List Spn) (λq=>[(0,lv),(1,.I 739616),(5,q.2.1),(6,.I ((2 * q.1:Nat):Int))]) (λq W=>q.1<=2/\q.2.2.length=q.1/\(∀ x∈q.2.2,Ze6 x)/\Row [] W w.heap.size 94 q.2.1 q.2.2/\Stp [] w W) (λq=>4 - q.1) (0,.N,[]) ⟨by decide,rfl,by simp,Row.nil,Stp.refl _ _⟩ ?_;rintro ⟨j,ov,xs⟩ w1 ⟨hj,ak,aL,ac,hS⟩;dsimp only at hj ak aL ac ⊢;have aJ:=λb hb=>ac.ob_le b hb;have bB:=hs.up hS;by_cases hlt:2 * j+1<l.length;have hlt0:2 * j<l.length:=by omega
 refine QO ?_;have gT:=hl _ (Xb hlt0);have jl:=hl _ (Xb hlt);refine CM (Zg rfl rfl) (ZD (l[2 * j]'hlt0) 80 _ (by decide) gT) ?_;rintro _ w2 ⟨rfl,hT⟩;have hr:=Jb (if l[2 * j]<0 then -(l[2 * j]+1) else l[2 * j]) 80 (by decide);generalize (if l[2 * j]<0 then -(l[2 * j]+1) else l[2 * j]) % 80=y at hr ⊢;replace ac:=ac.up hT;replace bB:=bB.up hT;replace hS:=hS.trans hT;clear hT;refine QO ?_;have xr:2 * j+1<l.length:=hlt;refine CM (Zg rfl rfl) (ZD (l[2 * j+1]'hlt) 15 _ (by decide) jl) ?_;rintro _ w3 ⟨rfl,hT⟩;have bK:=Jb (if l[2 * j+1]<0 then -(l[2 * j+1]+1) else l[2 * j+1]) 15 (by decide);generalize (if l[2 * j+1]<0 then -(l[2 * j+1]+1) else l[2 * j+1]) % 15=z at bK ⊢;replace ac:=ac.up hT;replace bB:=bB.up hT;replace hS:=hS.trans hT;clear hT;refine QO ?_;obtain ⟨f0,kU⟩:∃ f0:Int,max 0 (min 3652058 (739616 - 20+y))=f0:=⟨_,rfl⟩
 obtain ⟨f1,oY⟩:∃ f1:Int,min 3652058 (f0+z)=f1:=⟨_,rfl⟩
 rw [kU,oY];have ax:Ze6 (f0,f1):=by constructor<;>dsimp only<;>omega
 refine Z5 (vs:=[(0,.I f0),(1,.I f1)]) rfl (Z7a _ _) rfl ?_;have zS:=hS.size;refine APG ((f0,f1):Spn) ac (by simp) (by omega) rfl (Xh (Xu _ (show xs.length+1<=10 by omega)) (by decide)) (by simp [maxLen];omega) (λv1 ov' w4 bU cF cK=>?_);refine QO ?_;exact Zd (j+1,ov',xs++[(f0,f1)]) ⟨rfl,rfl,rfl,rfl,trivial⟩ ⟨by dsimp only;omega,by simp [ak],λz hz=>by
  rcases Xd.1 hz with h|h
  exact aL z h;simp only [Xm] at h;subst h;exact ax,bU,hS.own cF (λb hb=>.inr (aJ b hb).1)⟩ (by dsimp only;omega)
 . refine QO ?_
   all_goals
    refine RU ?_;exact ⟨xs,by omega,aL,ac,hS⟩
structure Ze7 (n:Nat) (r:Rtn):Prop where
 crr:0<=r.crr/\r.crr<n
 lo:0<=r.lo/\r.lo<=3652058
 hi:0<=r.hi/\r.hi<=3652058
 kind:(r.kind=1/\r.lo<=r.hi)\/(r.kind=2/\r.lo=0)\/(r.kind=3/\r.lo=0/\r.hi=0)
theorem Ze8 (w):(Instr.buildSlice 22 8 #[(0,.I 1),(1,.I 1),(2,.I 1),(3,.I 1),(4,.I 2),(5,.I 2),(6,.I 3),(7,.I 1)]).run Tryz.prog w=.ok (.slice (some ⟨w.heap.size,0,none⟩) 8 8) (w.alloc (.cells #[.I 1,.I 1,.I 1,.I 1,.I 2,.I 2,.I 3,.I 1] 3)):=by kernel_rfl
theorem Ze9 (a k:Int) (w):(Instr.build 137 #[(0,.I a),(1,.I k)]).run Tryz.prog w=.ok (aG (⟨a,k,0,0⟩:Rtn)) w:=by kernel_rfl
def K8:List Int:=[1,1,1,1,2,2,3,1]
theorem Zqm {k:Nat} (h:k<K8.length):K8[k]=1\/K8[k]=2\/K8[k]=3:=by
 have:=Xb h;generalize K8[k]=z at this ⊢;simp only [K8,Xc,Xn,or_false] at this;omega
theorem Zbg (lv cv:Value) (l:List Int) (cs:List Crr) (day:Int) (w) (hs:SlV [] w lv l) (hl:∀ a∈l,I64 a) (h3:l.length<=3) (cD:SlV [] w cv cs) (hc:1<=cs.length/\cs.length<=4) (hd:739616<=day/\day<=739655) :
 CC 25 #[lv,cv,.I day] w λr w'=>∃ xs:List Rtn,xs.length<=3/\(∀ x∈xs,Ze7 cs.length x)/\Zk 137 w w' r xs:=by
 refine cW3 69 Tryz.func25 ?_;refine W ?_;refine LP (σ:=Nat×Value×List Rtn) (λq=>[(0,lv),(1,cv),(2,.I day),(7,q.2.1),(8,.I (q.1:Int))]) (λq W=>q.1<=3/\q.2.2.length=q.1/\(∀ x∈q.2.2,Ze7 cs.length x)/\Row [] W w.heap.size 137 q.2.1 q.2.2/\Stp [] w W) (λq=>4 - q.1) (0,.N,[]) ⟨by decide,rfl,by simp,Row.nil,Stp.refl _ _⟩ ?_;rintro ⟨j,ov,xs⟩ w1 ⟨hj,ak,aL,ac,hS⟩;dsimp only at hj ak aL ac ⊢;have aJ:=λb hb=>ac.ob_le b hb;have bB:=hs.up hS;have dR:=cD.up hS;by_cases hlt:j<l.length;refine QO ?_;have gT:=hl _ (Xb hlt);refine CM (Zg rfl rfl) (ZD (l[j]'hlt) 1000000 _ (by decide) gT) ?_;rintro _ w2 ⟨rfl,hT⟩;have hr:=Jb (if l[j]<0 then -(l[j]+1) else l[j]) 1000000 (by decide);generalize (if l[j]<0 then -(l[j]+1) else l[j]) % 1000000=y at hr ⊢;replace ac:=ac.up hT;replace dR:=dR.up hT;replace hS:=hS.trans hT;clear hT bB;refine W ?_;have zS:=hS.size
 refine Js (σ:=Nat×Int×Int) (λq=>[(0,lv),(1,cv),(2,.I day),(7,ov),(8,.I (j:Int)),(9,.I y),(10,.pointer (some ⟨q.1,0,none⟩))])
  (λq w'=>w2.heap.size<=q.1/\Stp [] w2 w'/\(0<=q.2.1/\q.2.1<cs.length)/\(q.2.2=1\/q.2.2=2\/q.2.2=3)/\Blk w' q.1 137 (Z2.enc (⟨q.2.1,q.2.2,0,0⟩:Rtn))) ?_ ?_
 refine ZDr 14 [] [13] [(0,0),(1,0),(2,0),(3,0),(4,0),(6,0),(7,0),(8,0),(5,15),(9,0),(10,1),(11,0),(12,2),(13,2)] (λw1 ae=>?_);have hB:=ae;have mQ:=dR.up ae;clear ae;obtain ⟨k1,bz,hq1⟩:∃ k:Nat,y / 4 % 8=(k:Int)/\k<K8.length:=⟨(y / 4 % 8).toNat,by omega,by simp only [K8,Xe,Xi];omega⟩
 obtain ⟨a0,qc⟩:∃ a0:Int,y % max 1 (cs.length:Int)=a0:=⟨_,rfl⟩
 have gB:0<=a0/\a0<cs.length:=by
  have h1:=Ybl y (show max 1 (cs.length:Int)≠0 by omega);have h2:=Ya2 y (show 0<max 1 (cs.length:Int) by omega);omega
 have hK:=Zqm hq1;refine QD ?_;rw [bz,qc];apply Z8P rfl;refine Z16 rfl trivial (Z1 rfl Ze8) (λ_ _ h=>Za.stp h) rfl ?_;rintro va wa hN;have kw:SlV [] wa va K8:=hN.slv (by simp) rfl rfl (by simp [maxLen,K8]);have hT:=Za.stp hN;clear hN;replace hB:=hB.trans hT;clear hT;refine QD ?_;refine Jl rfl trivial (λw'=>Z0G rfl (λw=>Ze9 a0 (K8[k1]'hq1) w)) rfl ?_;focus repeat'(first|refine D1 ?_|omega|refine Zl rfl rfl rfl rfl (λhg=>?_) (λhg=>?_)|(refine Zh rfl rfl rfl rfl (λhg=>?_) (λhg=>?_)<;>refine D1 ?_)|fail)
 have zB:=hB.size;refine Z7 rfl trivial Z4 (λ_ _ h=>h.choose_spec.2.2.2) rfl ?_;rintro _ wb ⟨b,rfl,hb,e3,hT⟩;have gb:w2.heap.size<=b:=by omega
 replace hB:=hB.trans hT;replace kw:=kw.up hT;clear hT;focus repeat'(first|refine D1 ?_|omega|refine Zl rfl rfl rfl rfl (λhg=>?_) (λhg=>?_)|(refine Zh rfl rfl rfl rfl (λhg=>?_) (λhg=>?_)<;>refine D1 ?_)|fail)
 refine ZM rfl trivial (Zw (us:=Z2.enc (⟨a0,K8[k1]'hq1,0,0⟩:Rtn)) rfl rfl rfl rfl (Z2.one _) e3 rfl) rfl ?_;rintro _ wc ⟨an,e3⟩;refine QD ?_;exact QT (b,a0,K8[k1]'hq1) ⟨gb,hB.ow an,gB,hK,e3⟩;have zB:=hB.size;refine Z16 rfl trivial Z4 (λ_ _ h=>h.choose_spec.2.2.2) rfl ?_;rintro _ wb ⟨b,rfl,hb,e3,hT⟩;have gb:w2.heap.size<=b:=by omega
 replace hB:=hB.trans hT;clear hT;focus repeat'(first|refine D1 ?_|omega|refine Zl rfl rfl rfl rfl (λhg=>?_) (λhg=>?_)|(refine Zh rfl rfl rfl rfl (λhg=>?_) (λhg=>?_)<;>refine D1 ?_)|fail)
 refine Z7 rfl trivial (Z1 rfl Ze8) (λ_ _ h=>Za.stp h) rfl ?_;rintro va wa hN;have kw:SlV [] wa va K8:=hN.slv (by simp) rfl rfl (by simp [maxLen,K8]);have hT:=Za.stp hN;clear hN;replace hB:=hB.trans hT;replace e3:=e3.up hT;clear hT;refine QD ?_;refine Jl rfl trivial (λw'=>Z0G rfl (λw=>Ze9 a0 (K8[k1]'hq1) w)) rfl ?_;focus repeat'(first|refine D1 ?_|omega|refine Zl rfl rfl rfl rfl (λhg=>?_) (λhg=>?_)|(refine Zh rfl rfl rfl rfl (λhg=>?_) (λhg=>?_)<;>refine D1 ?_)|fail)
 refine ZM rfl trivial (Zw (us:=Z2.enc (⟨a0,K8[k1]'hq1,0,0⟩:Rtn)) rfl rfl rfl rfl (Z2.one _) e3 rfl) rfl ?_;rintro _ wc ⟨an,e3⟩;refine QD ?_;exact QT (b,a0,K8[k1]'hq1) ⟨gb,hB.ow an,gB,hK,e3⟩;rintro ⟨b,a,k⟩ w3 ⟨hb,hT,ha,hk,e3⟩;dsimp only at hb ha hk e3 ⊢;rcases hk with rfl|rfl|rfl
 refine QO ?_;have kz:0<=(max 0 (min 3652058 (day - 3+y / 32 % 40)))/\(max 0 (min 3652058 (day - 3+y / 32 % 40)))<=3652058:=by omega
 generalize (max 0 (min 3652058 (day - 3+y / 32 % 40)))=f0 at kz ⊢;refine Z8 (Zb (u:=.I f0) rfl rfl rfl rfl e3 (show (2:Nat)<4 by decide)) ?_;rintro _ w4 ⟨an,e3⟩;replace e3:Blk w4 b 137 (Z2.enc (⟨a,1,f0,0⟩:Rtn)):=e3;replace hT:=hT.ow an;clear an;refine QO ?_;have qd:f0<=min 3652058 (f0+y / 1280 % 5)/\min 3652058 (f0+y / 1280 % 5)<=3652058:=by omega
 generalize min 3652058 (f0+y / 1280 % 5)=f1 at qd ⊢;refine Z8 (Zb (u:=.I f1) rfl rfl rfl rfl e3 (show (3:Nat)<4 by decide)) ?_;rintro _ w5 ⟨an,e3⟩;replace e3:Blk w5 b 137 (Z2.enc (⟨a,1,f0,f1⟩:Rtn)):=e3;replace hT:=hT.ow an;clear an;have z4:=hT.size;have cS:=ac.up hT;have aU:=hS.trans hT;have zS4:=aU.size;refine QO ?_;refine APG (⟨a,1,f0,f1⟩:Rtn) cS (by simp) (by omega) rfl (Xh (Xu _ (show xs.length+1<=10 by omega)) (by decide)) (by simp [maxLen];omega) (λv1 ov' w4 bU cF cK=>?_);refine QO ?_;exact QL (j+1,ov',xs++[⟨a,1,f0,f1⟩]) ⟨by dsimp only;omega,by simp [ak],λz hz=>by
  rcases Xd.1 hz with h|h
  exact aL z h;simp only [Xm] at h;subst h;constructor<;>dsimp only<;>omega,bU,aU.own cF (λb hb=>.inr (cS.ob_le b hb).1)⟩ (by dsimp only;omega)
 refine QO ?_;have kz:0<=(max 0 (min 3652058 (day - 3+y / 32 % 40)))/\(max 0 (min 3652058 (day - 3+y / 32 % 40)))<=3652058:=by omega
 generalize (max 0 (min 3652058 (day - 3+y / 32 % 40)))=f0 at kz ⊢;refine Z8 (Zb (u:=.I f0) rfl rfl rfl rfl e3 (show (3:Nat)<4 by decide)) ?_;rintro _ w4 ⟨an,e3⟩;replace e3:Blk w4 b 137 (Z2.enc (⟨a,2,0,f0⟩:Rtn)):=e3;replace hT:=hT.ow an;clear an;have z4:=hT.size;have cS:=ac.up hT;have aU:=hS.trans hT;have zS4:=aU.size;refine QO ?_;refine APG (⟨a,2,0,f0⟩:Rtn) cS (by simp) (by omega) rfl (Xh (Xu _ (show xs.length+1<=10 by omega)) (by decide)) (by simp [maxLen];omega) (λv1 ov' w4 bU cF cK=>?_);refine QO ?_;exact QL (j+1,ov',xs++[⟨a,2,0,f0⟩]) ⟨by dsimp only;omega,by simp [ak],λz hz=>by
  rcases Xd.1 hz with h|h
  exact aL z h;simp only [Xm] at h;subst h;constructor<;>dsimp only<;>omega,bU,aU.own cF (λb hb=>.inr (cS.ob_le b hb).1)⟩ (by dsimp only;omega)
 have z4:=hT.size;have cS:=ac.up hT;have aU:=hS.trans hT;have zS4:=aU.size;refine QO ?_;refine APG (⟨a,3,0,0⟩:Rtn) cS (by simp) (by omega) rfl (Xh (Xu _ (show xs.length+1<=10 by omega)) (by decide)) (by simp [maxLen];omega) (λv1 ov' w4 bU cF cK=>?_);refine QO ?_;exact QL (j+1,ov',xs++[⟨a,3,0,0⟩]) ⟨by dsimp only;omega,by simp [ak],λz hz=>by
  rcases Xd.1 hz with h|h
  exact aL z h;simp only [Xm] at h;subst h;constructor<;>dsimp only<;>omega,bU,aU.own cF (λb hb=>.inr (cS.ob_le b hb).1)⟩ (by dsimp only;omega)
 . refine QO ?_
   all_goals
    refine RU ?_;exact ⟨xs,by omega,aL,ac,hS⟩
theorem Z2W (z:Int) (m:Int) (w) (hm:0<m) (hz:I64 z):CC 91 #[.I z,.I m] w λr w'=>r=.I ((if z<0 then -(z+1) else z) % m)/\Stp [] w w':=by
 unfold I64 at hz;refine cW2 13 Tryz.func91 ?_;by_cases h:z<0;refine RT ?_;exact ⟨by rw [if_pos h],Stp.refl _ _⟩;refine RT ?_;exact ⟨by rw [if_neg h],Stp.refl _ _⟩
theorem ZcO (X:List Nat) (v:Value) (l:List Int) (i m:Int) (w) (hm:0<m) (hi:I64 i) (hs:SlV X w v l) (hl:∀ a∈l,I64 a):CC 90 #[v,.I i,.I m] w λr w'=>∃ q:Nat,r=.I (q:Int)/\(q:Int)<m/\Stp [] w w':=by
 unfold I64 at hi;have bh:=hs.max;refine cW3 21 Tryz.func90 ?_;refine W ?_;by_cases fj:0<=i/\i<l.length;obtain ⟨h0,h1⟩:=fj;obtain ⟨k,rfl⟩:∃ k:Nat,i=(k:Int):=⟨i.toNat,by omega⟩
 have hk:k<l.length:=by omega
 refine QO ?_;refine CL (Z2W _ m _ hm (hl _ (Xb hk))) ?_;rintro _ w2 ⟨rfl,hS⟩;refine W ?_;refine WR ?_;have:=Jb (if l[k]<0 then -(l[k]+1) else l[k]) m hm;exact .mk ⟨_,by rw [X4 this.1],by rw [X4 this.1];exact this.2,hS⟩
 . repeat'(first|refine W1 ?_|omega|refine VG ?_ ?_<;>intro hg|refine VC ?_ ?_<;>intro hc)
   all_goals first
    | (refine RU ?_
       exact ⟨0,rfl,by simpa using hm,Stp.refl _ _⟩)
theorem ZlM (a:Int) (w):(Instr.build 33 #[(0,.I a)]).run Tryz.prog w=.ok (.agg #[.I a,.N]) w:=by kernel_rfl
theorem ZlN (a b:Int) (w):(Instr.build 125 #[(0,.I a),(1,.I b)]).run Tryz.prog w=.ok (agg ((a,b):Spn)) w:=by kernel_rfl
theorem Zix (d:Spn) (w):(Instr.buildSlice 31 1 #[(0,agg d)]).run Tryz.prog w=.ok (.slice (some ⟨w.heap.size,0,none⟩) 1 1) (w.alloc (.cells (Z2.enc d).toArray 125)):=by kernel_rfl
def Zbh (x:Spn):Prop:=0<=x.1/\x.1<=2000000
theorem Z7h (v:Value) (l:List Int) (w) (hs:SlV [] w v l) (hl:∀ a∈l,I64 a) :
 CC 57 #[v] w λr w'=>∃ (o:Int) (zs:Value) (xs:List Spn),r=.agg #[.I o,zs]/\(∀ x∈xs,Zbh x)/\xs.length<=100/\Zk 125 w w' zs xs:=by
 have bh:=hs.max;refine cW1 45 Tryz.func57 ?_;refine W ?_;refine Z0 Z4 rfl ?_;rintro _ w1 ⟨b2,rfl,cg,k2,hS⟩;refine W ?_;refine CM (ZJ rfl rfl rfl) (ZcO [] _ l 0 1801 _ (by decide) (by unfold I64;omega) (hs.up hS) hl) ?_;rintro _ w2 ⟨q0,rfl,qc,aj⟩;replace k2:=k2.up aj;replace hS:=hS.trans aj;clear aj;refine W ?_;refine Z5 (vs:=[(0,.I ((q0:Int) - 900))]) rfl (ZlM _) rfl ?_;have k2lt:=k2.lt;refine Z0 Z4 rfl ?_;rintro _ w3 ⟨b3,rfl,dM,k3,aF⟩;replace k2:=k2.up aF;replace hS:=hS.trans aF;clear aF;refine W ?_;have n23:b2≠b3:=by omega
 refine SB (us:=[.I ((q0:Int) - 900),.N]) (by simp [Value.oneCell']) k3 ?_;rintro _ w4 ⟨aU,k3⟩;replace k2:=k2.ext aU (by simpa using n23);replace hS:=hS.ow aU;clear aU;have bD:=hS.size;have k3lt:=k3.lt;have k2lt':=k2.lt;refine W ?_;refine Z0t (σ:=Value×List Spn) (λq=>[(2,pQ b2),(3,pQ b3)]) (λq w'=>Blk w' b2 33 (.agg #[.I 0,.N]:Value).cells.toList/\Blk w' b3 33 [.I ((q0:Int) - 900),q.1]/\Row [] w' w4.heap.size 125 q.1 q.2/\q.2.length<=42/\(∀ x∈q.2,Zbh x)/\Stp [b3] w4 w') ?_ ?_
 refine Zm (σ:=Nat×Int×Value×List Spn) (λq=>[(0,v),(2,pQ b2),(3,pQ b3),(4,.I q.2.1),(5,.I (q.1:Int))])
  (λq w'=>(1<=q.1/\q.1<=43/\0<=q.2.1/\q.2.1<=25000 * q.1/\q.2.2.2.length<q.1)/\Blk w' b2 33 (.agg #[.I 0,.N]:Value).cells.toList/\Blk w' b3 33 [.I ((q0:Int) - 900),q.2.2.1]/\Row [] w' w4.heap.size 125 q.2.2.1 q.2.2.2/\(∀ x∈q.2.2.2,Zbh x)/\Stp [b3] w4 w') (λq=>43 - q.1)
  (1,0,.N,[]) ⟨rfl,rfl,rfl,rfl,rfl,trivial⟩ ⟨⟨by decide,by decide,by decide,by decide,by decide⟩,k2,k3,Row.nil,by simp,Stp.refl _ _⟩ ?_
 rintro ⟨k,at_,zs,xs⟩ w5 ⟨⟨bz,qe,gB,pb,iM⟩,k2,k3,ac,il,aD⟩;dsimp only at bz qe gB pb iM k3 ac il ⊢;have iP:Stp [] w w5:=hS.ow aD;have bQ:=hs;replace hs:=hs.up iP;by_cases hlt:k+1<l.length/\k<41;obtain ⟨hlt,xt⟩:=hlt;have jg:k<l.length:=by omega
 refine QO ?_;refine CM (Zg rfl rfl) (Z2W _ 20000 _ (by decide) (hl _ (Xb jg))) ?_;rintro _ w6 ⟨rfl,cz⟩;have hr:=Jb (if l[k]<0 then -(l[k]+1) else l[k]) 20000 (by decide);generalize (if l[k]<0 then -(l[k]+1) else l[k]) % 20000=m at hr ⊢;refine W ?_;replace k2:=k2.up cz;replace k3:=k3.up cz;replace ac:=ac.up cz;replace hs:=hs.up cz;replace aD:=aD.trans cz.mn;clear cz iP;have n3:b3∉ob zs:=λh=>by have:=(ac.ob_le _ h).1;omega
 have n2:b2∉ob zs:=λh=>by have:=(ac.ob_le _ h).1;omega
 replace hs:SlV (ob zs) w6 v l:=bQ.ext (X':=ob zs) (hS.ow aD) (by simp) (λb hb=>.inr (by have:=(ac.ob_le b hb).1;omega));refine WC_drawn 15 (ob zs) [14] [(0,0),(1,1),(2,0),(3,0),(4,0),(5,0),(6,0),(7,1),(8,2),(9,0),(10,0),(11,2),(12,2),(13,0),(14,2)] rfl mixed (by kernel_rfl) (by kernel_rfl) (by kernel_rfl) (λw1 ae=>?_);replace k2:=k2.up ae;replace k3:=k3.up ae;replace ac:=ac.up ae;replace hs:=hs.up ae;replace aD:=aD.trans ae.mn;clear ae;refine D ?_;refine Z7 rfl trivial (Z3 rfl (Zg rfl rfl) (Z2W _ 1801 _ (by decide) (hl _ (Xb hlt)))) (λ_ _ h=>h.2.mn) rfl ?_;rintro _ w7 ⟨rfl,aW⟩;have bK:=Jb (if l[k+1]<0 then -(l[k+1]+1) else l[k+1]) 1801 (by decide);generalize (if l[k+1]<0 then -(l[k+1]+1) else l[k+1]) % 1801=m2 at bK ⊢;replace k2:=k2.up aW;replace k3:=k3.up aW;replace ac:=ac.up aW;replace aD:=aD.trans aW.mn;clear aW;refine D ?_;refine Jl rfl trivial (λw'=>Z0G (vs:=[(0,.I (at_+m)),(1,.I (m2 - 900))]) rfl (ZlN _ _)) rfl ?_;refine D ?_;refine Z7 rfl trivial (Z1 (vs:=[(0,agg ((at_+m,m2 - 900):Spn))]) rfl (Zix _)) (λ_ _ h=>(Za.stp h).mn) rfl ?_;rintro bv w8 hN;have aI:SlV (ob zs++[]) w8 bv [((at_+m,m2 - 900):Spn)]:=hN.slv (λb hb=>(ac.ob_le b (by simpa using hb)).2) rfl rfl (by simp [maxLen]);have hT:=Za.stp hN;clear hN;replace k2:=k2.up hT;replace k3:=k3.up hT;replace ac:=ac.up hT;replace aD:=aD.trans hT.mn;clear hT;have aV:=aD.size;have aJ:=ac.ob_le;refine D ?_;refine Z7 rfl trivial (ZC (X:=[]) (base:=w4.heap.size) rfl (by decide) rfl rfl ac aI (by simp only [Xe,Xi];omega) (by simp only [Xe,Xi,maxLen];omega) aV) (λ_ _ h=>h.2.1) rfl ?_;rintro zs' w9 ⟨ac,hT,gM⟩;replace k2:=k2.ext hT (λh=>by have:=(aJ _ h).1;omega);replace k3:=k3.ext hT (λh=>by have:=(aJ _ h).1;omega);replace aD:Stp [b3] w4 w9:=aD.own hT (λc hc=>.inr (aJ c hc).1);clear hT;refine D ?_;refine ZM rfl trivial (Zb (u:=zs') rfl rfl (Row.slv (X:=[]) ac (by simp)).cells (Row.slv (X:=[]) ac (by simp)).one k3 (by simp)) rfl ?_;rintro _ w10 ⟨hT,k3⟩;replace k3:Blk w10 b3 33 [.I ((q0:Int) - 900),zs']:=k3;replace k2:=k2.ext hT (by simpa using n23);have bR:=ac.ob_le;replace ac:=ac.keep hT (λb hb h=>by have:=bR _ h;simp at hb;omega);replace aD:=aD.trans hT;clear hT;refine D ?_;refine W ?_;refine Zd (k+2,at_+m+2880,zs',xs++[((at_+m,m2 - 900):Spn)]) ⟨rfl,rfl,rfl,rfl,rfl,trivial⟩ ⟨⟨by dsimp only;omega,by dsimp only;omega,by dsimp only;omega,by dsimp only;omega,by dsimp only;rw [Xa];simp only [Xe,Xi];omega⟩,k2,k3,ac,?_,aD⟩ (by dsimp only;omega);intro x hx;rcases Xd.1 hx with h|h
 exact il x h;rw [Xm.1 h];unfold Zbh;dsimp only;omega
 . repeat'(first|refine W1 ?_|omega|refine VG ?_ ?_<;>intro hg|refine VC ?_ ?_<;>intro hc)
   all_goals exact QT (zs,xs) ⟨k2,k3,ac,(by dsimp only;omega),il,aD⟩
 rintro ⟨zs,xs⟩ w5 ⟨k2,k3,ac,iM,il,aD⟩;dsimp only at k3 ac iM il ⊢;refine W ?_;have aJ:=ac.ob_le;have iP:Stp [] w w5:=hS.ow aD;refine SB (us:=[.I ((q0:Int) - 900),zs]) (by intro u hu;simp at hu;rcases hu with rfl|rfl;exact rfl;exact (Row.slv (X:=[]) ac (by simp)).one) k2 ?_;rintro _ w6 ⟨hT,k2⟩;replace ac:=ac.keep hT (λb hb h=>by have:=aJ _ h;simp at hb;omega);refine W ?_;refine JS rfl rfl rfl k2 rfl ?_;exact .mk ⟨_,zs,xs,rfl,il,by omega,ac.lower bD,iP.ow hT⟩
def cL (b0 b5 b6:Bool) (hv cv zo zs hr:Value):List Value:=[.B b0,.B false,.B false,.B false,.B false,.B b5,.B b6,hv,cv,zo,zs,hr]
theorem ZlO (w):(Instr.buildSlice 22 4 #[(0,.I 1439),(1,.I 1020),(2,.I 0),(3,.I 720)]).run Tryz.prog w=.ok (.slice (some ⟨w.heap.size,0,none⟩) 4 4) (w.alloc (.cells #[.I 1439,.I 1020,.I 0,.I 720] 3)):=by kernel_rfl
theorem ZlP (h:Int) (w):(Instr.build 35 #[(4,.I h)]).run Tryz.prog w=.ok (.agg (cL false false false (.N) (.N) (.I 0) (.N) (.I h)).toArray) w:=by kernel_rfl
theorem Zqn (a b c:Int) (w):(Instr.build 120 #[(0,.I a),(1,.I b),(7,.I 1),(8,.I 9999),(6,.I c)]).run Tryz.prog w=.ok (agg (⟨a,b,0,0,0,0,c,1,9999⟩:Hol)) w:=by kernel_rfl
theorem ZlQ (h:Hol) (w):(Instr.buildSlice 29 1 #[(0,agg h)]).run Tryz.prog w=.ok (.slice (some ⟨w.heap.size,0,none⟩) 1 1) (w.alloc (.cells (Z2.enc h).toArray 120)):=by kernel_rfl
theorem ZlR (a b c:Int) (w):(Instr.build 122 #[(0,.I a),(1,.I b),(2,.I c)]).run Tryz.prog w=.ok (agg (⟨a,b,c⟩:Clo)) w:=by kernel_rfl
theorem ZlS (h:Clo) (w):(Instr.buildSlice 30 1 #[(0,agg h)]).run Tryz.prog w=.ok (.slice (some ⟨w.heap.size,0,none⟩) 1 1) (w.alloc (.cells (Z2.enc h).toArray 122)):=by kernel_rfl
def Zbi (x:Clo):Prop:=739616<=x.lo/\x.lo<739736/\x.lo<=x.hi/\x.hi<=x.lo+5/\739616<=x.known/\x.known<739746
structure ZmC (c:Cal):Prop where
 ok:ZhM c
 wk:∃ b0 b5 b6:Bool,c.week=[b0,false,false,false,false,b5,b6]
 h3:c.hols.length<=3
 c3:c.clos.length<=3
 cl:∀ x∈c.clos,Zbi x
theorem Z7i (X:List Nat) (v:Value) (l:List Int) (w:World) (hX:∀ b∈X,b<w.heap.size) (hs:SlV [] w v l) (hl:∀ a∈l,I64 a) :
 CC 18 #[v] w λr w'=>∃ (c:Cal) (hv cv zo zs hr:Value),r=Z20 c hv cv zo zs hr/\(zo.oneCell'=true/\zs.oneCell'=true/\hr.oneCell'=true)/\ZmC c/\SlV X w' hv c.hols/\SlV X w' cv c.clos/\Stp [] w w':=by
 have bh:=hs.max;refine cW1 160 Tryz.func18 ?_;refine W ?_;refine Z0 Z4 rfl ?_;rintro _ w1 ⟨b2,rfl,cg,k2,hS⟩;refine W ?_;refine Z0 (Z1 (vs:=[(0,.I 1439),(1,.I 1020),(2,.I 0),(3,.I 720)]) rfl (ZlO)) rfl ?_;rintro bv w2 hN;have aI:SlV [] w2 bv ([1439,1020,0,720]:List Int):=hN.slv (by simp) rfl rfl (by simp [maxLen]);have hT:=Za.stp hN;clear hN;replace k2:=k2.up hT;replace hS:=hS.trans hT;clear hT;refine W ?_;refine CM (ZJ rfl rfl rfl) (ZI [] _ l 0 4 _ (by decide) (by unfold I64;omega) (hs.up hS) hl) ?_;rintro _ wn ⟨q0,rfl,qc,hT⟩;replace aI:=aI.up hT;replace k2:=k2.up hT;replace hS:=hS.trans hT;clear hT;have vd:q0<([1439,1020,0,720]:List Int).length:=by simp only [Xe,Xi];omega
 refine W ?_;generalize ([1439,1020,0,720]:List Int)[q0]=hr;refine Z5 (vs:=[(4,.I hr)]) rfl (ZlP _) rfl ?_;have k2lt:=k2.lt;clear aI;refine Z0 Z4 rfl ?_;rintro _ w3 ⟨b3,rfl,dM,k3,hT⟩;replace k2:=k2.up hT;replace hS:=hS.trans hT;clear hT;refine W ?_;have n23:b2≠b3:=by omega
 refine SB (us:=cL false false false (.N) (.N) (.I 0) (.N) (.I hr)) (by simp [cL,Value.oneCell']) k3 ?_;rintro _ w4 ⟨hT,k3⟩;replace k2:=k2.ext hT (by simpa using n23);replace hS:=hS.ow hT;clear hT;have k3lt:=k3.lt;have k2lt':=k2.lt;have ve:w.heap.size<=b3:=by have:=k3lt;have:=hS.size;omega
 refine W ?_;refine CM (ZJ rfl rfl rfl) (ZI [] _ l 1 8 _ (by decide) (by unfold I64;omega) (hs.up hS) hl) ?_;rintro _ wn ⟨q1,rfl,hq1,hT⟩;replace k3:=k3.up hT;replace k2:=k2.up hT;replace hS:=hS.trans hT;clear hT;refine W ?_;refine JT (len:=7) (i:=5) rfl rfl rfl (by decide) rfl ?_;refine Z8 (Zb (u:=.B (decide (¬ (q1:Int)=1))) rfl rfl rfl rfl k3 (by simp [cL])) ?_;rintro _ wn ⟨hT,k3⟩;replace k3:Blk wn b3 35 (cL false (decide (¬ (q1:Int)=1)) false (.N) (.N) (.I 0) (.N) (.I hr)):=k3;replace k2:=k2.ext hT (by simpa using n23);replace hS:=hS.ow hT;clear hT;refine W ?_;refine JT (len:=7) (i:=6) rfl rfl rfl (by decide) rfl ?_;refine Z8 (Zb (u:=.B (decide (¬ (q1:Int)=2))) rfl rfl rfl rfl k3 (by simp [cL])) ?_;rintro _ wn ⟨hT,k3⟩;replace k3:Blk wn b3 35 (cL false (decide (¬ (q1:Int)=1)) (decide (¬ (q1:Int)=2)) (.N) (.N) (.I 0) (.N) (.I hr)):=k3;replace k2:=k2.ext hT (by simpa using n23);replace hS:=hS.ow hT;clear hT;refine W ?_;refine Z8 (Zb (u:=.B (decide ((q1:Int)=3))) rfl rfl rfl rfl k3 (by simp [cL])) ?_;rintro _ w5 ⟨hT,k3⟩;replace k3:Blk w5 b3 35 (cL (decide ((q1:Int)=3)) (decide (¬ (q1:Int)=1)) (decide (¬ (q1:Int)=2)) (.N) (.N) (.I 0) (.N) (.I hr)):=k3;replace k2:=k2.ext hT (by simpa using n23);replace hS:=hS.ow hT;clear hT;refine W ?_;generalize decide ((q1:Int)=3)=b0 at k3 ⊢;generalize decide (¬ (q1:Int)=1)=b5 at k3 ⊢;generalize decide (¬ (q1:Int)=2)=b6 at k3 ⊢;replace k2:Blk w5 b2 35 ((.agg (cL false false false (.N) (.N) (.I 0) (.N) (.I 0)).toArray:Value).cells.toList):=k2;have vf:=hS.size;have k3lt5:=k3.lt;have k2lt5:=k2.lt;refine Z0t (σ:=Value×List Hol) (λq=>[(0,v),(2,pQ b2),(3,pQ b3)]) (λq w'=>q.2.length<=3/\Blk w' b2 35 ((.agg (cL false false false (.N) (.N) (.I 0) (.N) (.I 0)).toArray:Value).cells.toList)/\Blk w' b3 35 (cL b0 b5 b6 q.1 (.N) (.I 0) (.N) (.I hr))/\Row [] w' w5.heap.size 120 q.1 q.2/\(∀ x∈q.2,Z0X x)/\Stp [b3] w5 w') ?_ ?_
 refine Zm (σ:=Nat×Value×List Hol) (λq=>[(0,v),(2,pQ b2),(3,pQ b3),(5,.I (q.1:Int))]) (λq w'=>q.1<=3/\q.2.2.length<=q.1/\Blk w' b2 35 ((.agg (cL false false false (.N) (.N) (.I 0) (.N) (.I 0)).toArray:Value).cells.toList)/\Blk w' b3 35 (cL b0 b5 b6 q.2.1 (.N) (.I 0) (.N) (.I hr))/\Row [] w' w5.heap.size 120 q.2.1 q.2.2/\(∀ x∈q.2.2,Z0X x)/\Stp [b3] w5 w') (λq=>3 - q.1)
  (0,.N,[]) ⟨rfl,rfl,rfl,rfl,trivial⟩ ⟨by decide,by decide,k2,k3,Row.nil,by simp,Stp.refl _ _⟩ ?_
 rintro ⟨j,hv,hols⟩ w6 ⟨qf,ak,k2,k3,ac,eE,aH⟩;dsimp only at qf ak k3 ac eE ⊢;have bP:=hs.up (hS.ow aH);have qg:=ac.ob_le;refine W ?_;refine CM (ZJ rfl rfl rfl) (ZI [] _ l 2 4 _ (by decide) (by unfold I64;omega) bP hl) ?_;rintro _ wn ⟨q,rfl,hq,hT⟩;replace k3:=k3.up hT;replace k2:=k2.up hT;replace ac:=ac.up hT;replace bP:=bP.up hT;replace aH:=aH.trans hT.mn;clear hT;by_cases hlt:(j:Int)<(q:Int);refine QO ?_;refine CM (ZJ rfl rfl rfl) (ZI [] _ l (3+2 * (j:Int)) 1000000 _ (by decide) (by unfold I64;omega) bP hl) ?_;rintro _ wn ⟨x,rfl,hx,hT⟩;replace k3:=k3.up hT;replace k2:=k2.up hT;replace ac:=ac.up hT;replace bP:=bP.up hT;replace aH:=aH.trans hT.mn;clear hT;refine W ?_;refine CM (ZJ rfl rfl rfl) (ZI [] _ l (4+2 * (j:Int)) 1000000 _ (by decide) (by unfold I64;omega) bP hl) ?_;rintro _ wn ⟨y,rfl,hy,hT⟩;replace k3:=k3.up hT;replace k2:=k2.up hT;replace ac:=ac.up hT;replace bP:=bP.up hT;replace aH:=aH.trans hT.mn;clear hT;refine W ?_;refine Z5 (vs:=[(0,.I (1+(x:Int) % 4)),(1,.I (1+(x:Int) / 4 % 4)),(7,.I 1),(8,.I 9999),(6,.I ((y:Int) % 3))]) rfl (Zqn _ _ _) rfl ?_;have vg:=k3.lt;have vh:=k2.lt;have mR:=ac.ob_le;have vj:=aH.size;refine Z0 Z4 rfl ?_;rintro _ wn ⟨b8,rfl,dG,k8,hT⟩;replace k3:=k3.up hT;replace k2:=k2.up hT;replace ac:=ac.up hT;replace bP:=bP.up hT;replace aH:=aH.trans hT.mn;clear hT;refine W ?_;have iQ:b8≠b2/\b8≠b3/\b8∉ob hv:=⟨by omega,by omega,λh=>by have:=(mR _ h).2;omega⟩
 have cP:w5.heap.size<=b8:=by omega
 generalize nB:1+(x:Int) % 4=m1;generalize fe:1+(x:Int) / 4 % 4=m2;generalize nN:(y:Int) % 3=m3;refine SA (us:=Z2.enc (⟨m1,m2,0,0,0,0,m3,1,9999⟩:Hol)) k8 ?_;rintro _ wn ⟨hT,k8⟩;replace k3:=k3.ext hT (by simp;omega);replace k2:=k2.ext hT (by simp;omega);replace ac:=ac.keep hT (by simp;exact iQ.2.2);replace aH:=aH.ow hT;clear hT;replace k8:Blk wn b8 120 [.I m1,.I m2,.I 0,.I 0,.I 0,.I 0,.I m3,.I 1,.I 9999]:=k8;clear bP;refine W ?_
 refine Z0t (σ:=Hol) (λ_=>[(0,v),(2,pQ b2),(3,pQ b3),(5,.I (j:Int)),(8,pQ b8)])
  (λh w'=>Z0X h/\Blk w' b8 120 [.I h.kind,.I h.month,.I h.day,.I h.wd,.I h.nth,.I h.off,.I h.move,.I h.first,.I h.last]/\Blk w' b2 35 ((.agg (cL false false false (.N) (.N) (.I 0) (.N) (.I 0)).toArray:Value).cells.toList)/\Blk w' b3 35 (cL b0 b5 b6 hv (.N) (.I 0) (.N) (.I hr))/\Row [] w' w5.heap.size 120 hv hols/\Stp [b3] w5 w') ?_ ?_
 have hk:m1=1\/m1=2\/m1=3\/m1=4:=by omega
 rcases hk with rfl|rfl|rfl|rfl
 refine W ?_;refine S1 (u:=.I (1+(y:Int) / 3 % 31)) k8 ?_;rintro _ wn ⟨hT,k8⟩;replace k8:Blk wn b8 120 [.I (1),.I (m2),.I (1+(y:Int) / 3 % 31),.I (0),.I (0),.I (0),.I (m3),.I (1),.I (9999)]:=k8;replace k3:=k3.ext hT (by simp;omega);replace k2:=k2.ext hT (by simp;omega);replace ac:=ac.keep hT (by simp;exact iQ.2.2);replace aH:=aH.ow hT;clear hT;refine W ?_;have iR:Z0X (⟨1,m2,1+(y:Int) / 3 % 31,0,0,0,m3,1,9999⟩:Hol):=by constructor<;>dsimp only<;>omega
 exact Z0E (⟨1,m2,1+(y:Int) / 3 % 31,0,0,0,m3,1,9999⟩:Hol) ⟨rfl,rfl,rfl,rfl,rfl,trivial⟩ ⟨iR,k8,k2,k3,ac,aH⟩;refine W ?_;refine S1 (u:=.I ((y:Int) / 3 % 7)) k8 ?_;rintro _ wn ⟨hT,k8⟩;replace k8:Blk wn b8 120 [.I (2),.I (m2),.I (0),.I ((y:Int) / 3 % 7),.I (0),.I (0),.I (m3),.I (1),.I (9999)]:=k8;replace k3:=k3.ext hT (by simp;omega);replace k2:=k2.ext hT (by simp;omega);replace ac:=ac.keep hT (by simp;exact iQ.2.2);replace aH:=aH.ow hT;clear hT;refine W ?_;refine S1 (u:=.I (1+(y:Int) / 21 % 5)) k8 ?_;rintro _ wn ⟨hT,k8⟩;replace k8:Blk wn b8 120 [.I (2),.I (m2),.I (0),.I ((y:Int) / 3 % 7),.I (1+(y:Int) / 21 % 5),.I (0),.I (m3),.I (1),.I (9999)]:=k8;replace k3:=k3.ext hT (by simp;omega);replace k2:=k2.ext hT (by simp;omega);replace ac:=ac.keep hT (by simp;exact iQ.2.2);replace aH:=aH.ow hT;clear hT;refine W ?_;refine S1 (u:=.I (0)) k8 ?_;rintro _ wn ⟨hT,k8⟩;replace k8:Blk wn b8 120 [.I (2),.I (m2),.I (0),.I ((y:Int) / 3 % 7),.I (1+(y:Int) / 21 % 5),.I (0),.I (0),.I (1),.I (9999)]:=k8;replace k3:=k3.ext hT (by simp;omega);replace k2:=k2.ext hT (by simp;omega);replace ac:=ac.keep hT (by simp;exact iQ.2.2);replace aH:=aH.ow hT;clear hT;refine W ?_;have iR:Z0X (⟨2,m2,0,(y:Int) / 3 % 7,1+(y:Int) / 21 % 5,0,0,1,9999⟩:Hol):=by constructor<;>dsimp only<;>omega
 exact Z0E (⟨2,m2,0,(y:Int) / 3 % 7,1+(y:Int) / 21 % 5,0,0,1,9999⟩:Hol) ⟨rfl,rfl,rfl,rfl,rfl,trivial⟩ ⟨iR,k8,k2,k3,ac,aH⟩;refine W ?_;refine S1 (u:=.I ((y:Int) / 3 % 7)) k8 ?_;rintro _ wn ⟨hT,k8⟩;replace k8:Blk wn b8 120 [.I (3),.I (m2),.I (0),.I ((y:Int) / 3 % 7),.I (0),.I (0),.I (m3),.I (1),.I (9999)]:=k8;replace k3:=k3.ext hT (by simp;omega);replace k2:=k2.ext hT (by simp;omega);replace ac:=ac.keep hT (by simp;exact iQ.2.2);replace aH:=aH.ow hT;clear hT;refine W ?_;refine S1 (u:=.I (0)) k8 ?_;rintro _ wn ⟨hT,k8⟩;replace k8:Blk wn b8 120 [.I (3),.I (m2),.I (0),.I ((y:Int) / 3 % 7),.I (0),.I (0),.I (0),.I (1),.I (9999)]:=k8;replace k3:=k3.ext hT (by simp;omega);replace k2:=k2.ext hT (by simp;omega);replace ac:=ac.keep hT (by simp;exact iQ.2.2);replace aH:=aH.ow hT;clear hT;refine W ?_;have iR:Z0X (⟨3,m2,0,(y:Int) / 3 % 7,0,0,0,1,9999⟩:Hol):=by constructor<;>dsimp only<;>omega
 exact Z0E (⟨3,m2,0,(y:Int) / 3 % 7,0,0,0,1,9999⟩:Hol) ⟨rfl,rfl,rfl,rfl,rfl,trivial⟩ ⟨iR,k8,k2,k3,ac,aH⟩;refine W ?_;refine S1 (u:=.I ((y:Int) / 3 % 61 - 10)) k8 ?_;rintro _ wn ⟨hT,k8⟩;replace k8:Blk wn b8 120 [.I (4),.I (m2),.I (0),.I (0),.I (0),.I ((y:Int) / 3 % 61 - 10),.I (m3),.I (1),.I (9999)]:=k8;replace k3:=k3.ext hT (by simp;omega);replace k2:=k2.ext hT (by simp;omega);replace ac:=ac.keep hT (by simp;exact iQ.2.2);replace aH:=aH.ow hT;clear hT;refine W ?_;refine S1 (u:=.I (0)) k8 ?_;rintro _ wn ⟨hT,k8⟩;replace k8:Blk wn b8 120 [.I (4),.I (0),.I (0),.I (0),.I (0),.I ((y:Int) / 3 % 61 - 10),.I (m3),.I (1),.I (9999)]:=k8;replace k3:=k3.ext hT (by simp;omega);replace k2:=k2.ext hT (by simp;omega);replace ac:=ac.keep hT (by simp;exact iQ.2.2);replace aH:=aH.ow hT;clear hT;refine W ?_;have iR:Z0X (⟨4,0,0,0,0,(y:Int) / 3 % 61 - 10,m3,1,9999⟩:Hol):=by constructor<;>dsimp only<;>omega
 exact Z0E (⟨4,0,0,0,0,(y:Int) / 3 % 61 - 10,m3,1,9999⟩:Hol) ⟨rfl,rfl,rfl,rfl,rfl,trivial⟩ ⟨iR,k8,k2,k3,ac,aH⟩;rintro hh wq ⟨iR,k8,k2,k3,ac,aH⟩;refine W ?_;refine Z0 (Z1 (vs:=[(0,agg hh)]) rfl (ZlQ _)) rfl ?_;rintro bw wn hN;have gC:SlV (ob hv++[]) wn bw [hh]:=hN.slv (λb hb=>(ac.ob_le b (by simpa using hb)).2) rfl rfl (by simp [maxLen]);have hT:=Za.stp hN;clear hN;replace k3:=k3.up hT;replace k2:=k2.up hT;replace ac:=ac.up hT;replace aH:=aH.trans hT.mn;clear hT;have aJ:=ac.ob_le;have aV:=aH.size;refine Z0 (ZC (X:=[]) (base:=w5.heap.size) rfl (by decide) rfl rfl ac gC (by simp only [Xe,Xi];omega) (by simp only [Xe,Xi,maxLen];omega) aV) rfl ?_;rintro im wn ⟨ac,hT,gM⟩;replace k2:=k2.ext hT (λh=>by have:=(aJ _ h).1;omega);replace k3:=k3.ext hT (λh=>by have:=(aJ _ h).1;omega);replace aH:Stp [b3] w5 wn:=aH.own hT (λc hc=>.inr (aJ c hc).1);clear hT;have bR:=ac.ob_le;refine W ?_;refine Z8 (Zb (u:=im) rfl rfl (Row.slv (X:=[]) ac (by simp)).cells (Row.slv (X:=[]) ac (by simp)).one k3 (by simp [cL])) ?_;rintro _ wn ⟨hT,k3⟩;replace k3:Blk wn b3 35 (cL b0 b5 b6 im (.N) (.I 0) (.N) (.I hr)):=k3;replace k2:=k2.ext hT (by simpa using n23);replace ac:=ac.keep hT (λb hb h=>by have:=bR _ h;simp at hb;omega);replace aH:=aH.trans hT;clear hT;refine W ?_;refine QL (j+1,im,hols++[hh]) ⟨by dsimp only;omega,by dsimp only;rw [Xa];simp only [Xe,Xi];omega,k2,k3,ac,?_,aH⟩ (by dsimp only;omega);intro z hz;rcases Xd.1 hz with h|h
 exact eE z h;rw [Xm.1 h];exact iR
 . refine QO ?_
   all_goals exact QT (hv,hols) ⟨(by dsimp only;omega),k2,k3,ac,eE,aH⟩
 rintro ⟨hv,hols⟩ w6 ⟨jm,k2,k3,ac,eE,aH⟩;dsimp only at jm k3 ac eE ⊢;have dT:SlV (b2 :: b3 :: X) w6 hv hols:=Row.slv (X:=b2 :: b3 :: X) ac (λb hb=>by
  rcases Xc.1 hb with rfl|hb
  omega;rcases Xc.1 hb with rfl|hb
  omega;have:=hX b hb;omega)
 replace hS:=hS.ow aH;clear ac aH;have vk:=hS.size;have k3lt6:=k3.lt;have k2lt6:=k2.lt;refine W ?_;refine Z0t (σ:=Value×List Clo) (λq=>[(0,v),(2,pQ b2),(3,pQ b3)]) (λq w'=>q.2.length<=3/\(∀ x∈q.2,Zbi x)/\Blk w' b2 35 ((.agg (cL false false false (.N) (.N) (.I 0) (.N) (.I 0)).toArray:Value).cells.toList)/\Blk w' b3 35 (cL b0 b5 b6 hv q.1 (.I 0) (.N) (.I hr))/\Row [] w' w6.heap.size 122 q.1 q.2/\Stp [b3] w6 w') ?_ ?_
 refine Zm (σ:=Nat×Value×List Clo) (λq=>[(0,v),(2,pQ b2),(3,pQ b3),(9,.I (q.1:Int))]) (λq w'=>q.1<=3/\q.2.2.length<=q.1/\(∀ x∈q.2.2,Zbi x)/\Blk w' b2 35 ((.agg (cL false false false (.N) (.N) (.I 0) (.N) (.I 0)).toArray:Value).cells.toList)/\Blk w' b3 35 (cL b0 b5 b6 hv q.2.1 (.I 0) (.N) (.I hr))/\Row [] w' w6.heap.size 122 q.2.1 q.2.2/\Stp [b3] w6 w') (λq=>3 - q.1)
  (0,.N,[]) ⟨rfl,rfl,rfl,rfl,trivial⟩ ⟨by decide,by decide,(by simp),k2,k3,Row.nil,Stp.refl _ _⟩ ?_
 rintro ⟨j,cv,clos⟩ w7 ⟨qf,ak,fJ,k2,k3,ac,aH⟩;dsimp only at qf ak k3 ac ⊢;have bP:=hs.up (hS.ow aH);have qg:=ac.ob_le;refine W ?_;refine CM (ZJ rfl rfl rfl) (ZI [] _ l 9 4 _ (by decide) (by unfold I64;omega) bP hl) ?_;rintro _ wn ⟨q,rfl,hq,hT⟩;replace k3:=k3.up hT;replace k2:=k2.up hT;replace ac:=ac.up hT;replace bP:=bP.up hT;replace aH:=aH.trans hT.mn;clear hT;by_cases hlt:(j:Int)<(q:Int);refine QO ?_;refine CM (ZJ rfl rfl rfl) (ZI [] _ l (10+(j:Int)) 1000000 _ (by decide) (by unfold I64;omega) bP hl) ?_;rintro _ wn ⟨x,rfl,hx,hT⟩;replace k3:=k3.up hT;replace k2:=k2.up hT;replace ac:=ac.up hT;replace bP:=bP.up hT;replace aH:=aH.trans hT.mn;clear hT;refine W ?_;refine Z5 (vs:=[(0,.I (739616+(x:Int) % 120)),(1,.I (739616+(x:Int) % 120+(x:Int) / 120 % 6)),(2,.I (739616+(x:Int) / 720 % 130))]) rfl (ZlR _ _ _) rfl ?_;have io:Zbi ⟨739616+(x:Int) % 120,739616+(x:Int) % 120+(x:Int) / 120 % 6,739616+(x:Int) / 720 % 130⟩:=by unfold Zbi;dsimp only;omega
 generalize 739616+(x:Int) % 120=lo at io ⊢;generalize lo+(x:Int) / 120 % 6=hi at io ⊢;generalize 739616+(x:Int) / 720 % 130=kn at io ⊢;refine Z0 (Z1 (vs:=[(0,agg (⟨lo,hi,kn⟩:Clo))]) rfl (ZlS _)) rfl ?_;rintro bw wn hN;have gC:SlV (ob cv++[]) wn bw [(⟨lo,hi,kn⟩:Clo)]:=hN.slv (λb hb=>(ac.ob_le b (by simpa using hb)).2) rfl rfl (by simp [maxLen]);have hT:=Za.stp hN;clear hN;replace k3:=k3.up hT;replace k2:=k2.up hT;replace ac:=ac.up hT;replace aH:=aH.trans hT.mn;clear hT;have aJ:=ac.ob_le;have aV:=aH.size;refine Z0 (ZC (X:=[]) (base:=w6.heap.size) rfl (by decide) rfl rfl ac gC (by simp only [Xe,Xi];omega) (by simp only [Xe,Xi,maxLen];omega) aV) rfl ?_;rintro cv' wn ⟨ac,hT,gM⟩;replace k2:=k2.ext hT (λh=>by have:=(aJ _ h).1;omega);replace k3:=k3.ext hT (λh=>by have:=(aJ _ h).1;omega);replace aH:Stp [b3] w6 wn:=aH.own hT (λc hc=>.inr (aJ c hc).1);clear hT;have bR:=ac.ob_le;refine W ?_;refine Z8 (Zb (u:=cv') rfl rfl (Row.slv (X:=[]) ac (by simp)).cells (Row.slv (X:=[]) ac (by simp)).one k3 (by simp [cL])) ?_;rintro _ wn ⟨hT,k3⟩;replace k3:Blk wn b3 35 (cL b0 b5 b6 hv cv' (.I 0) (.N) (.I hr)):=k3;replace k2:=k2.ext hT (by simpa using n23);replace ac:=ac.keep hT (λb hb h=>by have:=bR _ h;simp at hb;omega);replace aH:=aH.trans hT;clear hT;refine W ?_;refine Zd (j+1,cv',clos++[(⟨lo,hi,kn⟩:Clo)]) ⟨rfl,rfl,rfl,rfl,trivial⟩ ⟨by dsimp only;omega,by dsimp only;rw [Xa];simp only [Xe,Xi];omega,(λy hy=>by rcases Xd.1 hy with h|h;exact fJ y h;rw [Xm.1 h];exact io),k2,k3,ac,aH⟩ (by dsimp only;omega)
 . refine QO ?_
   all_goals exact QT (cv,clos) ⟨(by dsimp only;omega),fJ,k2,k3,ac,aH⟩
 rintro ⟨cv,clos⟩ w7 ⟨mS,fJ,k2,k3,ac,aH⟩;dsimp only at k3 ac ⊢;have cD:SlV (b2 :: b3 :: X) w7 cv clos:=Row.slv (X:=b2 :: b3 :: X) ac (λb hb=>by
  rcases Xc.1 hb with rfl|hb
  omega;rcases Xc.1 hb with rfl|hb
  omega;have:=hX b hb;omega)
 replace dT:SlV (b2 :: b3 :: X) w7 hv hols:=dT.ext aH (by simp) (λ_ h=>.inl h);replace hS:=hS.ow aH;clear ac aH;have bP:=hs.up hS;have vl:=hS.size;have k3lt7:=k3.lt;have k2lt7:=k2.lt;by_cases bJ:13<l.length;refine QO ?_;have eV:=bP.slc (l:=13) (r:=l.length) (by omega) (Xl _);rw [Xs] at eV;refine Zc2 (l:=13) rfl bP rfl (by simp) (by omega) rfl ?_;refine W ?_;refine CL (Z7h _ (l.drop 13) _ eV (λa ha=>hl a (YaF ha))) ?_;rintro _ w8 ⟨zo,zs,xs,rfl,il,iM,hz⟩;have aJ:=hz.ob_le;have hT:=hz.2;replace k3:=k3.up hT;replace k2:=k2.up hT;have cC:=hz.1;replace dT:SlV (b2 :: b3 :: (ob zs++X)) w8 hv hols:=dT.ext hT (by simp) (λb hb=>by
  simp at hb;rcases hb with rfl|rfl|hb|hb
  exact .inl (by simp);exact .inl (by simp);exact .inr (aJ b hb).1;exact .inl (by simp [hb]))
 replace cD:SlV (b2 :: b3 :: (ob zs++X)) w8 cv clos:=cD.ext hT (by simp) (λb hb=>by
  simp at hb;rcases hb with rfl|rfl|hb|hb
  exact .inl (by simp);exact .inl (by simp);exact .inr (aJ b hb).1;exact .inl (by simp [hb]))
 replace hS:=hS.trans hT;have dJ:b3∉ob zs:=λh=>by have:=(aJ _ h).1;omega
 have lY:b2∉ob zs:=λh=>by have:=(aJ _ h).1;omega
 clear hT hz hs bP;refine W ?_;refine Z8 (Z1G (o:=9) (us:=[.I zo,zs]) rfl rfl rfl rfl (by intro u hu;simp at hu;rcases hu with rfl|rfl;exact rfl;exact (Row.slv (X:=[]) cC (by simp)).one) k3 (by simp [cL])) ?_;rintro _ w9 ⟨hT,k3⟩;replace k3:Blk w9 b3 35 (cL b0 b5 b6 hv cv (.I zo) zs (.I hr)):=k3;replace k2:=k2.ext hT (by simpa using n23);replace cC:=cC.keep hT (λb hb h=>by simp at hb;subst hb;exact dJ h);replace dT:=dT.ext (X':=b2 :: b3 :: (ob zs++X)) hT (by simp) (λ_ h=>.inl h);replace cD:=cD.ext (X':=b2 :: b3 :: (ob zs++X)) hT (by simp) (λ_ h=>.inl h);replace hS:=hS.ow hT;clear hT;refine W ?_;refine Z0t (σ:=Unit) (λq=>[(2,pQ b2),(3,pQ b3)]) (λq w'=>Stp (ob zs) w9 w') ?_ ?_
 refine Zm (σ:=Nat×List Spn) (λq=>[(2,pQ b2),(3,pQ b3),(13,.I (q.1:Int))]) (λq w'=>q.1<=xs.length/\q.2.length=xs.length/\(∀ i (hi:i<q.2.length),q.1<=i->Zbh q.2[i])/\Row [] w' w7.heap.size 125 zs q.2/\Stp (ob zs) w9 w') (λq=>xs.length - q.1)
  (0,xs) ⟨rfl,rfl,rfl,trivial⟩ ⟨by dsimp only;omega,rfl,(λi hi _=>il _ (Xb hi)),cC,Stp.refl _ _⟩ ?_
 rintro ⟨j,ys⟩ wa ⟨hj,dY,cb,cC,aH⟩;dsimp only at hj dY cb cC ⊢;have k3:=k3.ext aH dJ;have dW:SlV [] wa zs ys:=Row.slv (X:=[]) cC (by simp);rw [<- dY] at hj;by_cases hlt:j<ys.length;refine QO ?_;have cZ:=(cb j hlt (Xl _))
 unfold Zbh at cZ;refine ZDr 15 [] [14] [(0,0),(1,0),(2,1),(3,0),(4,0),(5,0),(6,1),(7,0),(8,0),(9,0),(10,1),(11,0),(12,0),(13,0),(14,2)] (λw1 ae=>?_);replace k3:=k3.up ae;replace cC:=cC.up ae;replace dW:=dW.up ae;replace aH:=aH.trans ae.mn;clear ae;refine D ?_;refine ZM rfl trivial (Z3I (β:=Spn) (i:=j) (y':=((ys[j].1+1065047040,ys[j].2):Spn)) rfl rfl rfl rfl rfl cC hlt (by decide) rfl) rfl ?_;rintro _ wb ⟨cC,hT⟩;replace aH:=aH.trans hT;refine D ?_;refine W ?_;refine Zd (j+1,ys.set j ((ys[j].1+1065047040,ys[j].2):Spn)) ⟨rfl,rfl,rfl,trivial⟩ ⟨by dsimp only;omega,by dsimp only;rw [Yan];exact dY,?_,cC,aH⟩ (by dsimp only;omega);intro i hi du;dsimp only at hi du ⊢;rw [Ybh (by omega)];exact cb i (by rw [Yan] at hi;exact hi) (by omega)
 . refine QO ?_
   all_goals exact QT () aH
 rintro _ wa aH;have k3:=k3.ext aH dJ;have k2:=k2.ext aH lY;have dT:=dT.ext (X':=b2 :: b3 :: X) aH (λb h=>by simp [h]) (λb h=>.inl (by simp at h;rcases h with rfl|rfl|h<;>simp [*]));have cD:=cD.ext (X':=b2 :: b3 :: X) aH (λb h=>by simp [h]) (λb h=>.inl (by simp at h;rcases h with rfl|rfl|h<;>simp [*]));replace hS:=hS.own aH (λc hc=>.inr (by have:=(aJ _ hc).1;omega));have ll:zs.oneCell'=true:=(Row.slv (X:=[]) cC (by simp)).one;clear aH;refine W ?_;refine SB (us:=cL b0 b5 b6 hv cv (.I zo) zs (.I hr)) (by intro u hu;simp [cL] at hu;rcases hu with rfl|rfl|rfl|rfl|rfl|rfl|rfl|rfl|rfl|rfl|rfl<;>first|exact rfl|exact ll|exact dT.one|exact cD.one) k2 ?_;rintro _ wb ⟨hT,k2⟩;refine W ?_;refine JS rfl rfl rfl k2 rfl ?_;exact .mk ⟨⟨[b0,false,false,false,false,b5,b6],hols,clos⟩,hv,cv,.I zo,zs,.I hr,rfl,⟨rfl,ll,rfl⟩,⟨⟨rfl,eE,by dsimp only;omega⟩,⟨b0,b5,b6,rfl⟩,jm,mS,fJ⟩,dT.ext hT (by simp) (λb h=>.inl (by simp [h])),cD.ext hT (by simp) (λb h=>.inl (by simp [h])),hS.ow hT⟩;refine QO ?_;refine CM (ZS rfl) (Z7h _ [] _ (Row.slv (X:=[]) (Row.nil (base:=0) (T:=0)) (by simp)) (by simp)) ?_;rintro _ w8 ⟨zo,zs,xs,rfl,il,iM,hz⟩;have aJ:=hz.ob_le;have hT:=hz.2;replace k3:=k3.up hT;replace k2:=k2.up hT;have cC:=hz.1;replace dT:SlV (b2 :: b3 :: (ob zs++X)) w8 hv hols:=dT.ext hT (by simp) (λb hb=>by
  simp at hb;rcases hb with rfl|rfl|hb|hb
  exact .inl (by simp);exact .inl (by simp);exact .inr (aJ b hb).1;exact .inl (by simp [hb]))
 replace cD:SlV (b2 :: b3 :: (ob zs++X)) w8 cv clos:=cD.ext hT (by simp) (λb hb=>by
  simp at hb;rcases hb with rfl|rfl|hb|hb
  exact .inl (by simp);exact .inl (by simp);exact .inr (aJ b hb).1;exact .inl (by simp [hb]))
 replace hS:=hS.trans hT;have dJ:b3∉ob zs:=λh=>by have:=(aJ _ h).1;omega
 have lY:b2∉ob zs:=λh=>by have:=(aJ _ h).1;omega
 clear hT hz hs bP;refine W ?_;refine Z8 (Z1G (o:=9) (us:=[.I zo,zs]) rfl rfl rfl rfl (by intro u hu;simp at hu;rcases hu with rfl|rfl;exact rfl;exact (Row.slv (X:=[]) cC (by simp)).one) k3 (by simp [cL])) ?_;rintro _ w9 ⟨hT,k3⟩;replace k3:Blk w9 b3 35 (cL b0 b5 b6 hv cv (.I zo) zs (.I hr)):=k3;replace k2:=k2.ext hT (by simpa using n23);replace cC:=cC.keep hT (λb hb h=>by simp at hb;subst hb;exact dJ h);replace dT:=dT.ext (X':=b2 :: b3 :: (ob zs++X)) hT (by simp) (λ_ h=>.inl h);replace cD:=cD.ext (X':=b2 :: b3 :: (ob zs++X)) hT (by simp) (λ_ h=>.inl h);replace hS:=hS.ow hT;clear hT;refine W ?_;refine Z0t (σ:=Unit) (λq=>[(2,pQ b2),(3,pQ b3)]) (λq w'=>Stp (ob zs) w9 w') ?_ ?_
 refine Zm (σ:=Nat×List Spn) (λq=>[(2,pQ b2),(3,pQ b3),(13,.I (q.1:Int))]) (λq w'=>q.1<=xs.length/\q.2.length=xs.length/\(∀ i (hi:i<q.2.length),q.1<=i->Zbh q.2[i])/\Row [] w' w7.heap.size 125 zs q.2/\Stp (ob zs) w9 w') (λq=>xs.length - q.1)
  (0,xs) ⟨rfl,rfl,rfl,trivial⟩ ⟨by dsimp only;omega,rfl,(λi hi _=>il _ (Xb hi)),cC,Stp.refl _ _⟩ ?_
 rintro ⟨j,ys⟩ wa ⟨hj,dY,cb,cC,aH⟩;dsimp only at hj dY cb cC ⊢;have k3:=k3.ext aH dJ;have dW:SlV [] wa zs ys:=Row.slv (X:=[]) cC (by simp);rw [<- dY] at hj;by_cases hlt:j<ys.length;refine QO ?_;have cZ:=(cb j hlt (Xl _))
 unfold Zbh at cZ;refine ZDr 15 [] [14] [(0,0),(1,0),(2,1),(3,0),(4,0),(5,0),(6,1),(7,0),(8,0),(9,0),(10,1),(11,0),(12,0),(13,0),(14,2)] (λw1 ae=>?_);replace k3:=k3.up ae;replace cC:=cC.up ae;replace dW:=dW.up ae;replace aH:=aH.trans ae.mn;clear ae;refine D ?_;refine ZM rfl trivial (Z3I (β:=Spn) (i:=j) (y':=((ys[j].1+1065047040,ys[j].2):Spn)) rfl rfl rfl rfl rfl cC hlt (by decide) rfl) rfl ?_;rintro _ wb ⟨cC,hT⟩;replace aH:=aH.trans hT;refine D ?_;refine W ?_;refine Zd (j+1,ys.set j ((ys[j].1+1065047040,ys[j].2):Spn)) ⟨rfl,rfl,rfl,trivial⟩ ⟨by dsimp only;omega,by dsimp only;rw [Yan];exact dY,?_,cC,aH⟩ (by dsimp only;omega);intro i hi du;dsimp only at hi du ⊢;rw [Ybh (by omega)];exact cb i (by rw [Yan] at hi;exact hi) (by omega)
 . refine QO ?_
   all_goals exact QT () aH
 rintro _ wa aH;have k3:=k3.ext aH dJ;have k2:=k2.ext aH lY;have dT:=dT.ext (X':=b2 :: b3 :: X) aH (λb h=>by simp [h]) (λb h=>.inl (by simp at h;rcases h with rfl|rfl|h<;>simp [*]));have cD:=cD.ext (X':=b2 :: b3 :: X) aH (λb h=>by simp [h]) (λb h=>.inl (by simp at h;rcases h with rfl|rfl|h<;>simp [*]));replace hS:=hS.own aH (λc hc=>.inr (by have:=(aJ _ hc).1;omega));have ll:zs.oneCell'=true:=(Row.slv (X:=[]) cC (by simp)).one;clear aH;refine W ?_;refine SB (us:=cL b0 b5 b6 hv cv (.I zo) zs (.I hr)) (by intro u hu;simp [cL] at hu;rcases hu with rfl|rfl|rfl|rfl|rfl|rfl|rfl|rfl|rfl|rfl|rfl<;>first|exact rfl|exact ll|exact dT.one|exact cD.one) k2 ?_;rintro _ wb ⟨hT,k2⟩;refine W ?_;refine JS rfl rfl rfl k2 rfl ?_;exact .mk ⟨⟨[b0,false,false,false,false,b5,b6],hols,clos⟩,hv,cv,.I zo,zs,.I hr,rfl,⟨rfl,ll,rfl⟩,⟨⟨rfl,eE,by dsimp only;omega⟩,⟨b0,b5,b6,rfl⟩,jm,mS,fJ⟩,dT.ext hT (by simp) (λb h=>.inl (by simp [h])),cD.ext hT (by simp) (λb h=>.inl (by simp [h])),hS.ow hT⟩
end Go.Proofs.YtgdicjnjhchooaaGreatDoor
namespace Go.Eng
open Go Go.RowKit Go.Proofs
theorem Z64:∀ {e:Env} {t:Nat} {v:Value},look e t=some v->(t,v)∈e
 | (k, u) :: r, t, v, h => by
   rw [Zf] at h;by_cases hk:k=t;subst hk;simp at h;subst h;simp;rw [if_neg hk] at h;exact Yas _ (Z64 h)
theorem Has.of {n:Nat} {e:Env} {a:Act} (h1:a.defers=[]) (h2:a.tmps.size=n) (h3:∀ p∈e,a.tmps.getD p.1 undef=p.2):Has n e a:=⟨h1,h2,λt v h=>h3 (t,v) (Z64 h)⟩
section
variable {P:Program} {n:Nat} {Q:Exit->Act->World->Prop} {e:Env} {w:World} {ops:Array Oper} {rest:List Oper} {ty:TypeId} {pos:String} {af:Array Edge} {ds:List Deferred}
theorem Zfm {fn:Func} {gN:Frame} {cs:List Frame} {u':FrameMode} {R:Ending->FrameMode->World->Prop} {c:Code} {a:Act} (ha:Has n e a) (h:WC P n c (bodyPost P fn (λx w=>R x u' w)) e w) :
 c.wpS P (bodyPostS P fn gN cs R) a ({ gN with mode:=u' } :: cs) w:=by
 refine wpS_of_wp (wp_mono (h.h a ha) λex a' w' hq=>?_);cases ex with
 | normal=>obtain ⟨hd,v,hr,hR⟩:=hq;exact ⟨hd,u',rfl,v,hr,hR⟩
 | ret=>obtain ⟨hd,v,hr,hR⟩:=hq;exact ⟨hd,u',rfl,v,hr,hR⟩
 | panic ch=>obtain ⟨hd,hR⟩:=hq;exact ⟨hd,u',rfl,hR⟩
 | exit i=>exact hq.elim
 | goto l=>exact hq.elim
 | outgrown=>exact ⟨u',hq⟩
theorem Z9E {f:FuncId} {fn:Func} {c:Code} {args:Array Value} {w} {R:Ending->World->Prop} {n:Nat} (hf:P.funcs[f]?=some fn) (hb:fn.body=some c)
 (hn:fn.ntmps=n) (hs:Nat.ble args.size n=true) (h:WC P n c (bodyPostD P fn R) (Z39 args.toList 0) w):Calls P f args w R:=by
 refine calls_of_wp_defers hf hb (h.h _ ?_);rw [hn];have du:args.size<=n:=Xj hs;refine ⟨rfl,by simp;omega,λt v hv=>?_⟩;obtain ⟨_,h2⟩:=Z3a _ _ _ _ hv;simp only [Nat.sub_zero] at h2;have hlt:t<args.size:=by
  have:=(Xw.1 h2).1;simpa using this
 have:args[t]?=some v:=by simpa using h2
 have h3:(args++Array.replicate (n - args.size) undef)[t]?=some v:=by
  rw [X3 hlt];exact this
 simp [XH,h3]
theorem Ziy {y:Code} {t:Operand} {fv:Fn} {cap:Array Value} (hc:ev e t=some (.func fv #[] cap)) {ts:Array TypeId}
 (h:WCD [{ target:=.fn fv cap,args:=#[] }] P n y Q e w) :
 WL P n ops (Exit.then (λa w=>y.wp P Q a w) Q) [⟨none,.defer { callee:=.value t,args:=#[],argTypes:=ts },ty,pos,af,none⟩] e w:=by
 refine ⟨λa ha=>?_⟩;refine wpList_plain rfl (λK hK=>?_);unfold Oper.wp;have he:(execOp a.eval ⟨none,.defer { callee:=.value t,args:=#[],argTypes:=ts },ty,pos,af,none⟩).run P w=.ok (.defer { target:=.fn fv cap,args:=#[] }) w:=by
  simp [execOp,resolve,ha.ev hc,Deferred.ofValue]
 rw [he];simp only [Oper.upon];refine hK _ _ ?_;have hd:({ a with defers:={ target:=.fn fv cap,args:=#[] } :: a.defers }:Act)=Z0C [{ target:=.fn fv cap,args:=#[] }] a:=by
  unfold Z0C;rw [ha.defers];rfl
 show wpList P ops _ [] (Act.put { a with defers:=_ } none undef) w;rw [hd];exact wpList_nil (h.h a ha)
theorem ZcP {fn fn':Func} {tmps:Array Value} {R:Ending->World->Prop} {f:FuncId} {cap:Array Value} {u:FrameMode} (hu:u≠.run) [hf:Fun P f fn'] {G:Value->FrameMode->World->Prop}
 (h:CallsD P f cap u w λe u' w'=>∃ v,e=.returned v/\G v u' w') (hk:∀ v u' w',G v u' w'->settle u'=.returning/\∃ r,(results fn tmps).run P w'=.ok r w'/\R (.returned r) w') :
 Leaves P fn tmps R [{ target:=.fn (.func f) cap,args:=#[] }] u w:=by
 refine leaves_cons (f:=f) (args:=cap) hu ?_ (h.mono λe u' w' ⟨v,h1,h2⟩=>?_);simp [invoke];exact hf.enters cap w;subst h1;obtain ⟨h3,r,h4,h5⟩:=hk v u' w' h2;show Leaves P fn tmps R [] (settle u') w';rw [h3];exact ⟨r,h4,h5⟩
theorem Z7P {d:Option Nat} {g:Option (Nat×Bool)} {x:Operand} {t s:TypeId} {u v:Value} (hx:ev e x=some u) (hb:∀ w,(Instr.typeAssert u t s true).run P w=.ok v w):PR P n ⟨d,.typeAssert x t s true,ty,pos,af,g⟩ e w v:=
 ⟨λa ha=>by simp [execOp,ha.ev hx,hb]⟩
end
end Go.Eng
namespace Go.Proofs.YtgdicjnjhchooaaGreatDoor
open Go Go.Eng Go.RowKit Go.Proofs
theorem Ziz (r:Rul) (p:Option Addr) (a c:Nat) (p':Option Addr) (a' c':Nat) (w):(Instr.buildSlice 61 1 #[(0,.agg (rlC r (.slice p a c) (.slice p' a' c')).toArray)]).run Tryz.prog w=.ok (.slice (some ⟨w.heap.size,0,none⟩) 1 1) (w.alloc (.cells (rlC r (.slice p a c) (.slice p' a' c')).toArray 73)):=by kernel_rfl
theorem Zqo {X:List Nat} {w} {r:Rul} {cs:List Value} (h:Z6.rep X w r cs):∀ i (hi:i < [r].length) (ca:i < [cs].length),Z6.rep X w [r][i] [cs][i]
 | 0,_,_=>h
theorem ZcQ (X:List Nat) (v:Value) (l:List Int) (m:Nat) (w) (hs:SlV X w v l) (hl:∀ a∈l,I64 a) (hm:m<=100000):CC 58 #[v,.I (m:Int)] w λr w'=>Zk 3 w w' r (l.take m):=by
 have bh:=hs.max;refine cW2 14 Tryz.func58 ?_;refine W ?_;have gf:min (l.length:Int) (m:Int)=((min l.length m:Nat):Int):=by omega
 refine Z9 (Z09 (r:=min l.length m) rfl hs rfl (by omega) (Nat.min_le_left _ _)) rfl ?_;have au:SlV X w _ (l.take (min l.length m)):=hs.slc (Xr (min l.length m)) (Nat.min_le_left _ _);refine Z0 (ZZ rfl (by decide) rfl rfl (Zk.nil (w:=w)) (ys:=l.take (min l.length m)) (au.wk (by simp [ob])) (by simp;omega) (by simp [maxLen];omega)) rfl ?_;rintro v' w1 ⟨ac,-,-⟩;refine W ?_;refine WR ?_;refine .mk ?_;have e:l.take (min l.length m)=l.take m:=by rw [Nat.min_comm,<- Ybc,Xs]
 rw [XO,e] at ac;exact ac
theorem ZiA (p:Option Addr) (l c:Nat) (w):(Instr.build 130 #[(0,.slice p l c)]).run Tryz.prog w=.ok (.agg #[.slice p l c,.I 0]) w:=by kernel_rfl
theorem Zfn (X:List Nat) (lv:Value) (l:List Int) (w:World) (hX:∀ b∈X,b<w.heap.size) (hs:SlV [] w lv l) (hl:∀ a∈l,I64 a):CC 22 #[lv] w λr w'=>∃ rs:List RuleM,rs.length<=4/\(∀ x∈rs,Z6N x)/\SlV X w' r (rs.map RuleM.rul)/\Stp [] w w':=by
 refine cW1 24 Tryz.func22 ?_;refine W ?_;refine CM (Zg rfl rfl) (ZcQ [] lv l 120 _ hs hl (by decide)) ?_;rintro v w1 dX;have au:=dX.slv (X:=[]) (by simp);have hS:=dX.2;have dL:∀ a∈l.take 120,I64 a:=λa ha=>hl a (Yad ha);clear dX;generalize l.take 120=l' at *;obtain ⟨p,c,rfl,-⟩:=id au;refine W ?_;apply Z5 (vs:=[(0,.slice p l'.length c)]) rfl (ZiA _ _ _) rfl;refine Z0 (Zp rfl) rfl ?_;rintro _ w2 ⟨bm,rfl,jO,ay,hT⟩;replace ay:Mk3 w2 bm (.slice p l'.length c) 0:=ay;replace au:SlV [bm] w2 (.slice p l'.length c) l':=au.ext hT (by simp) (λb h=>.inr (by simp at h;omega));have gC:w.heap.size<=bm:=Xh hS.size jO;replace hS:=hS.trans hT;clear hT jO;refine W ?_;refine CM (Zg rfl rfl) (Z03 bm _ l' _ 5 _ (by decide) (by omega) ay au dL) ?_;rintro _ w3 ⟨k,rfl,hk,ay,hT⟩;replace au:=au.ext hT (λ_ h=>h) (λ_ h=>.inl h);have hlt:=ay.lt;refine W ?_
 refine Zm (σ:=Nat×List RuleM×Value×Nat) (λq=>[(3,pQ bm),(4,q.2.2.1),(5,.I (k:Int)),(6,.I (q.1:Int))])
  (λq w'=>q.1<=k/\q.2.1.length=q.1/\(∀ x∈q.2.1,Z6N x)/\q.2.2.2<=1+300 * q.1/\Mk3 w' bm (.slice p l'.length c) q.2.2.2/\Row (bm :: X) w' w3.heap.size 73 q.2.2.1 (q.2.1.map RuleM.rul)/\Stp [bm] w3 w')
  (λq=>k - q.1) (0,[],.N,1) ⟨rfl,rfl,rfl,rfl,trivial⟩ ⟨Xr _,rfl,by simp,by simp,ay,Row.nil,Stp.refl _ _⟩ ?_
 have aF:=hS.ow hT;have qh:=au;clear ay au hS hT;rintro ⟨i,rs,v,at_⟩ w4 ⟨hi,ak,aP,ez,ay,ac,hS⟩;dsimp only at hi ak aP ez ay ac ⊢;have bD:=hS.size;by_cases fj:i<k;refine QO ?_;have qi:∀ b∈ob v++bm :: X,b<w4.heap.size:=λb hb=>by
  rcases Xd.1 hb with h|h
  exact (ac.ob_le b h).2;rcases Xc.1 h with rfl|h
  omega;have:=hX b h;have:=aF.size;omega
 refine CM (ZS rfl) (ZeK (ob v++bm :: X) bm _ l' _ _ ay (qh.ext hS (λ_ h=>h) (λ_ h=>.inl h)) dL (by omega) qi) ?_;rintro _ w5 ⟨r,i',⟨ki,kd,rfl,jE,fE⟩,hr,ay,ca,hT⟩;replace ac:=ac.ext (X':=bm :: X) hT (λb hb=>by
  simp only [Xm] at hb;subst hb;exact ⟨by simp,λh=>by have:=(ac.ob_le b h).1;omega⟩) (λb hb=>.inl hb)
 have qj:∀ b∈ob v++bm :: X,b<w5.heap.size:=λb hb=>Xv (qi b hb) hT.size;replace hS:=hS.trans hT;clear hT qi;obtain ⟨p1,c1,rfl,-⟩:=id jE;obtain ⟨p2,c2,rfl,-⟩:=id fE;refine Z0 (Z1 (vs:=[(0,.agg (rlC r.rul (.slice p1 r.rul.cnd.kids.length c1) (.slice p2 r.rul.due.kids.length c2)).toArray)]) rfl (Ziz _ _ _ _ _ _ _)) rfl ?_;intro bv w6 hN;have aI:SlV (ob v++bm :: X) w6 bv [r.rul]:=hN.slvG (css:=[rlC r.rul _ _]) qj rfl rfl (by simp) (Zqo ⟨_,_,rfl,jE,fE⟩) (by simp [maxLen]);have hT:=Za.stp hN;replace ay:=ay.up hT;replace ac:=ac.up hT;replace hS:=hS.trans hT.mn;clear hT hN jE fE;have vm:=hS.size;have fm:(rs.map RuleM.rul).length=i:=by rw [Xy,ak]
 refine Z0 (ZC (X:=bm :: X) (base:=w3.heap.size) rfl (by decide) rfl rfl ac aI (by simp only [Xe,Xi,Xy];omega) (by simp only [Xe,Xi,Xy,maxLen];omega) vm) rfl ?_;rintro rv' w7 ⟨aN,hT,cm⟩;have js:∀ c∈ob v,w3.heap.size<=c:=λc hc=>(ac.ob_le c hc).1;replace ay:=ay.ext hT (λh=>by have:=js _ h;omega);replace hS:=hS.own hT (λc hc=>.inr (js c hc));clear hT;refine W ?_;refine QL (i+1,rs++[r],rv',i') ⟨fj,by simp [ak],?_,Xh ca (Xh (Yby ez 300) (Nat.le_of_eq (by rw [Nat.mul_add,YaK]))),ay,?_,hS⟩ (by dsimp only;omega);intro x hx;rcases Xd.1 hx with h|h
 exact aP x h;simp at h;subst h;exact hr;rw [XL];exact aN;refine QO ?_;refine WR ?_;refine .mk ⟨rs,by omega,aP,(ac.slv (λb hb=>by
  rcases Xc.1 hb with rfl|h
  exact hlt;have:=hX b h;have:=aF.size;omega)).wk (by simp;exact λ_ h=>.inr h),aF.ow hS⟩
def Zqp (q:Cr):Bool:=decide ((Z35 q.cnd).2≠0) || decide ((Z35 q.due).2≠0) || decide ((Z35 q.cnd).1≠2) || decide ((Z35 q.due).1≠3) || decide (q.frm<0) || decide (q.frm > 3652058) || !JF q.name || !JF q.on || (decide (q.unl≠[]) && !JF q.unl) || (decide (q.els≠[]) && !JF q.els)
def chkC (q:Cr):Int:=if Zqp q then 22 else 0
structure Zua (q:Cr):Prop where
 frm:I64 q.frm
 cnd:∀ x∈q.cnd,I64 x.op/\I64 x.n
 due:∀ x∈q.due,I64 x.op/\I64 x.n
 lcnd:q.cnd.length<=200
 ldue:q.due.length<=200
 lname:q.name.length<=12
 lon:q.on.length<=12
 lunl:q.unl.length<=12
 lels:q.els.length<=12
def Z47 (m:Nat) (z:Ins):Prop:=0<=z.op/\z.op<=24/\0<=z.n/\z.n<=2147483647+(m:Int)
theorem Z47.le {m k:Nat} {z:Ins} (h:Z47 m z) (hk:m<=k):Z47 k z:=⟨h.1,h.2.1,h.2.2.1,by have:=h.2.2.2;omega⟩
theorem ZiB:∀ (l:List Nd) (p m:Nat),(∀ y∈l,∀ p,∀ z∈Zc y p,Z47 (p+(Zc y p).length) z)->p+(Jq (l.map Zc) p).length<=m->∀ z∈Jq (l.map Zc) p,Z47 m z
 | [],p,m,_,_,z,hz=>by simp [Jq] at hz
 | y :: l, p, m, h, hm, z, hz => by
   simp only [XE,Jq,Xd,Xa] at hz hm;rcases hz with hz|hz
   exact (h y (by simp) p z hz).le (by omega);exact ZiB l _ m (λy hy=>h y (by simp [hy])) (by omega) z hz
theorem Zub (s:Str):∀ o∈opF s,0<=o/\o<=24:=by
 intro o ho;unfold opF at ho;cases h:Zhb.find? (λp=>decide (p.1=s)) with
 | none=>rw [h] at ho;cases ho
 | some p=>
   rw [h] at ho;have aP:∀ q∈Zhb,∀ o∈q.2,0<=o/\o<=24:=by decide +kernel
   exact aP p (YaA h) o ho
theorem ZiC (k:Int) (s:Str) (m:Nat):∀ z∈Z3o k s,Z47 m z:=by
 intro z hz;unfold Z3o Z42 at hz;simp only [Xd,XK] at hz;rcases hz with hz|⟨o,ho,rfl⟩
 split at hz;simp only [Xc,Xn,or_false] at hz;subst hz;exact ⟨by decide,by decide,by decide,by simp only;omega⟩;cases hz;obtain ⟨h1,h2⟩:=Zub s o ho;exact ⟨h1,h2,by simp,by simp only;omega⟩
theorem ZiD (c y n:Cf) (p m:Nat) (hc:∀ p,∀ z∈c p,Z47 (p+(c p).length) z) (hy:∀ p,∀ z∈y p,Z47 (p+(y p).length) z) (hn:∀ p,∀ z∈n p,Z47 (p+(n p).length) z) (hm:p+(chC c y n p).length<=m):∀ z∈chC c y n p,Z47 m z:=by
 intro z hz;unfold chC at hz hm;simp only [Xd,Xc,Xn,or_false,Xa,Xe,Xi] at hz hm;rcases hz with (((hz|rfl)|hz)|rfl)|hz
 exact (hc p z hz).le (by omega);exact ⟨by simp,by simp,by simp only;omega,by simp only;omega⟩;exact (hy _ z hz).le (by omega);exact ⟨by simp,by simp,by simp only;omega,by simp only;omega⟩;exact (hn _ z hz).le (by omega)
theorem ZlT (k n:Int) (s:Str) (m:Nat) (h:Z1K k n s≠0):Z47 m (Z1n k n s):=by
 unfold Z1K at h;unfold Z1n;by_cases k4:k=4
 . subst k4
   rw [if_pos rfl] at h;have hf:(ZK s).2.2=true:=by
    cases hb:(ZK s).2.2 with
    | true=>rfl
    | false=>rw [Z5p hb] at h;simp at h
   obtain ⟨i,hi,_,he⟩:=(Z6P s (ZK s).1).1 ⟨hf,rfl⟩;rw [if_neg (by decide),if_neg (by decide),if_neg (by decide)];exact ⟨by simp,by simp,by simp only;omega,by simp only;omega⟩
 rw [if_neg k4] at h;split at h;exact absurd rfl h;by_cases k1:k=1;rw [if_pos k1] at h ⊢;split at h;exact ⟨by simp,by simp,by simp only;omega,by simp only;omega⟩;exact absurd rfl h;rw [if_neg k1] at h ⊢;by_cases k2:k=2;rw [if_pos k2] at h ⊢;split at h;exact ⟨by simp,by simp,by simp only;omega,by simp only;omega⟩;exact absurd rfl h;rw [if_neg k2] at h ⊢;by_cases k3:k=3;rw [if_pos k3] at h ⊢;split at h;exact ⟨by simp,by simp,by simp only;omega,by simp only;omega⟩;exact absurd rfl h;rw [if_neg k3] at h;exact absurd rfl h
theorem Zqq (x:Nd):Zi x≠0->∀ p,∀ z∈Zc x p,Z47 (p+(Zc x p).length) z:=by
 induction x using Nd.ind with
 | h k n s l ih=>
 intro ht p;have hk:∀ y∈l,Zi y≠0:=λy hy=>Z5w (x:=.mk k n s l) ht hy;have ih':∀ y∈l,∀ p,∀ z∈Zc y p,Z47 (p+(Zc y p).length) z:=λy hy=>ih y hy (hk y hy);have jR:Zi (.mk k n s l)=JG k n s (l.map Zi):=Z2j _;rw [jR] at ht;have hplain:∀ m,p+(Z1M k s (l.map Zc) p).length<=m->∀ z∈Z1M k s (l.map Zc) p,Z47 m z:=λm hm z hz=>by
  rw [Z2p] at hz hm;rw [Xa] at hm;rcases Xd.1 hz with hz|hz
  exact ZiB l p m ih' (by omega) z hz;exact ZiC k s m z hz
 have bG:∀ i,∀ p,∀ z∈(l.map Zc).getD i Z4l p,Z47 (p+((l.map Zc).getD i Z4l p).length) z:=λi p z hz=>by
  by_cases hi:i<l.length;have e:(l.map Zc).getD i Z4l=Zc l[i]:=by rw [XA,XR (by simpa using hi)];simp
  rw [e] at hz ⊢;exact ih' _ (Xb hi) p z hz;have e:(l.map Zc).getD i Z4l=Z4l:=by rw [XA,Ya5 (by simpa using hi)];rfl
  rw [e] at hz;cases hz
 have jt:∀ b:Int,(b=0\/b=1)->∀ p:Nat,∀ z∈[(⟨2,b⟩:Ins)],Z47 (p+[(⟨2,b⟩:Ins)].length) z:=λb hb p z hz=>by
  simp only [Xc,Xn,or_false] at hz;subst hz;exact ⟨by simp,by simp,by simp only;omega,by simp only;omega⟩
 have du:∀ c:List Ins,p+c.length<=p+c.length:=λc=>Xl _;rw [Zc];rcases Z5W ht with ⟨he,hc⟩|⟨h0,h3,lZ,hc⟩
 have hl:l=[]:=by simpa using he
 subst hl;unfold Z1N;rw [if_pos (show (List.map Zc ([]:List Nd)).length=0 from rfl)];intro z hz;simp only [Xc,Xn,or_false] at hz;subst hz;exact ZlT k n s _ (by rw [<- hc];exact ht);have hl:l≠[]:=λh=>lZ (by rw [h];rfl)
 have ec:¬ (l.map Zc).length=0:=by simpa using hl
 unfold Z1N;rw [if_neg ec];split;exact ZiD _ _ _ p _ (bG 0) (bG 1) (bG 2) (Xl _);split;exact ZiD _ _ _ p _ (bG 0) (bG 1) (jt 0 (.inl rfl)) (Xl _);split;exact ZiD _ _ _ p _ (bG 0) (jt 1 (.inr rfl)) (bG 1) (Xl _);split;intro z hz;rcases Xd.1 hz with hz|hz
 exact hplain _ (by simp) z hz;simp only [Xc,Xn,or_false] at hz;subst hz;exact ⟨by simp,by simp,by simp only;omega,by simp only;omega⟩;exact hplain _ (Xl _)
theorem Z8u (x:Nd) (ht:Zi x≠0) (hl:(JB x).length<=200):∀ z∈JB x,I64 z.op/\I64 z.n:=by
 intro z hz;unfold JB at hz hl;rw [Xa] at hl;rcases Xd.1 hz with hz|hz
 obtain ⟨h1,h2,h3,h4⟩:=Zqq x ht 0 z hz;unfold I64;constructor<;>omega;simp only [Xc,Xn,or_false] at hz;subst hz;unfold I64;simp
theorem Z3T {s:Str} (h:JF s=true):s.length<=12:=by
 unfold JF Z6K at h;simp only [Xf,decide_eq_true_eq] at h;have:=h.1;omega
theorem ZiE (r:Rul) (h:Z2n r=0):Zua (crF r)/\chkC (crF r)=0:=by
 unfold crF;rw [if_pos h];unfold Z2n at h;split at h
 contradiction;rename_i kQ;have eY:Z3m r=0:=by omega
 unfold Z3m at eY;split at eY;simp at eY;rename_i fB;split at eY;simp at eY;rename_i jf;split at eY
 contradiction;rename_i nB;have qk:Z6M r.cnd 2=0:=by omega
 split at h
 contradiction;rename_i xu;have ql:Z2l r.cnd=0:=by omega
 have key:∀ (x:Nd) (t:Int),t≠0->Z6M x t=0->Z2l x=0->ZQ x<=12/\Zi x=t/\(JB x).length<=200:=λx t lm hm he=>by
  unfold Z6M at hm;unfold Z2l at he;split at hm;rename_i hn;rw [if_pos hn] at he;split at hm;simp at hm;rename_i h0;rw [if_neg h0] at he;split at hm;rename_i vn;split at he;simp at he;exact ⟨hn,vn,by omega⟩;simp at hm;simp at hm
 obtain ⟨n1,t1,l1⟩:=key r.cnd 2 (by decide) qk ql;obtain ⟨n2,t2,l2⟩:=key r.due 3 (by decide) eY h;have v1:=Z8a r.cnd (by omega) n1 l1;have v2:=Z8a r.due (by omega) n2 l2;have kA:Z0L r=true:=by simpa using fB
 unfold Z0L at kA;simp only [Xf,Yax,decide_eq_true_eq] at kA;obtain ⟨⟨⟨a1,a2⟩,a3⟩,a4⟩:=kA;refine ⟨⟨show I64 r.frm by unfold I64;omega,Z8u _ (by omega) l1,Z8u _ (by omega) l2,l1,l2,Z3T a1,Z3T a2,?_,?_⟩,?_⟩;rcases a3 with h|h
 rw [show (⟨r.name,r.frm,r.on,JB r.cnd,JB r.due,r.unl,r.els⟩:Cr).unl=r.unl from rfl,h];simp;exact Z3T h;rcases a4 with h|h
 rw [show (⟨r.name,r.frm,r.on,JB r.cnd,JB r.due,r.unl,r.els⟩:Cr).els=r.els from rfl,h];simp;exact Z3T h;unfold chkC Zqp;simp only [v1,v2,t1,t2,a1,a2];rcases a3 with h3|h3<;>rcases a4 with h4|h4<;>simp [h3,h4]<;>omega
structure ZiF (n:Nat) (a:Atp):Prop where
 entry:0<=a.entry/\a.entry<=15
 party:0<=a.party/\a.party<=2
 crr:0<=a.crr/\a.crr<n
 sent:739616<=a.sent/\a.sent<=739655
 len:a.rets.length<=3
 rets:∀ x∈a.rets,Ze7 n x
def Z8v (l:List Fct):Prop:=∀ k (h:k<l.length),2 * (k:Int)<=l[k].entry/\l[k].entry<=2 * (k:Int)+1
structure Z6h (c:Cas):Prop where
 fl:c.fcts.length<=8
 fo:∀ f∈c.fcts,Z8q f
 en:Z8v c.fcts
 rl:c.ruls.length<=4
 ro:∀ q∈c.ruls,∃ r:RuleM,Z6N r/\Z2n r.rul=0/\q=crF r.rul
 al:c.atts.length<=4
 ao:∀ a∈c.atts,ZiF c.crrs.length a
 cl:1<=c.crrs.length/\c.crrs.length<=4
 co:∀ x∈c.crrs,Zbe x
 sl:c.stys.length<=2
 so:∀ x∈c.stys,Ze6 x
 cal:ZmC c.cal
 court:0<=c.court/\c.court<=2
 today:739616<=c.today/\c.today<=739705
structure Z7Q (X:List Nat) (lv:Value) (l:List Int) (c:Cas) (R:Z0o) (w:World):Prop where
 li:SlV X w lv l
 ff:SlV X w R.fv c.fcts
 rr:SlV X w R.rv c.ruls
 aa:SlV X w R.av c.atts
 cc:SlV X w R.cv c.crrs
 ss:SlV X w R.sv c.stys
 ho:SlV X w R.hv c.cal.hols
 clo:SlV X w R.lv c.cal.clos
 one:R.zo.oneCell'=true/\R.zs.oneCell'=true/\R.hr.oneCell'=true
theorem Z7Q.ext {X:List Nat} {lv:Value} {l:List Int} {c:Cas} {R:Z0o} {w w':World} (h:Z7Q X lv l c R w) (hS:Stp X w w'):Z7Q X lv l c R w':=
 ⟨h.li.ext hS (λ_ h=>h) (λ_ h=>.inl h),h.ff.ext hS (λ_ h=>h) (λ_ h=>.inl h),h.rr.ext hS (λ_ h=>h) (λ_ h=>.inl h),h.aa.ext hS (λ_ h=>h) (λ_ h=>.inl h),h.cc.ext hS (λ_ h=>h) (λ_ h=>.inl h),h.ss.ext hS (λ_ h=>h) (λ_ h=>.inl h),h.ho.ext hS (λ_ h=>h) (λ_ h=>.inl h),h.clo.ext hS (λ_ h=>h) (λ_ h=>.inl h),h.one⟩
theorem Z7Q.cell {X:List Nat} {lv:Value} {l:List Int} {c:Cas} {R:Z0o} {w} (h:Z7Q X lv l c R w):∀ u∈Jc c R,u.oneCell'=true:=by
 have h1:=h.ff.one;have h2:=h.rr.one;have h3:=h.aa.one;have h4:=h.cc.one;have h5:=h.ss.one;have h6:=h.ho.one;have h7:=h.clo.one;obtain ⟨h8,h9,gt⟩:=h.one;intro u hu;simp only [Jc,Ji,Xc,Xn,or_false,Yaa,XO] at hu;rcases hu with rfl|rfl|rfl|rfl|rfl|rfl|rfl|rfl|rfl|rfl|rfl|rfl|rfl|rfl|rfl|rfl|rfl|rfl|rfl<;>first|assumption|rfl
theorem Zfo (c:Cal) (hv lv zo zs hr:Value) (p:Option Addr) (n k:Nat) (cs:List Crr) (ct td:Int) (w):(Instr.build 37 #[(5,Z20 c hv lv zo zs hr),(3,.slice p n k),(6,.I ct),(7,.I td)]).run Tryz.prog w=.ok (.agg (Jc ⟨[],[],[],cs,[],c,ct,td⟩ ⟨.N,.N,.N,.slice p n k,.N,hv,lv,zo,zs,hr⟩).toArray) w:=by kernel_rfl
theorem Zfp (f:Fct) (w):(Instr.buildSlice 23 1 #[(0,aG f)]).run Tryz.prog w=.ok (.slice (some ⟨w.heap.size,0,none⟩) 1 1) (w.alloc (.cells (Z2.enc f).toArray 40)):=by kernel_rfl
theorem ZiG (a b c d:Int) (w):(Instr.build 77 #[(0,.I a),(1,.I b),(2,.I c),(3,.I d)]).run Tryz.prog w=.ok (.agg (atC ⟨a,b,c,d,[]⟩ (.N)).toArray) w:=by kernel_rfl
theorem ZlU {a:Atp} {v:Value} (h:v.oneCell'=true):∀ u∈atC a v,u.oneCell'=true:=by
 intro u hu;simp only [Xc,Xn,or_false] at hu;rcases hu with rfl|rfl|rfl|rfl|rfl<;>first|assumption|rfl
theorem Z7j (lv:Value) (l:List Int) (w) (hs:SlV [] w lv l) (hl:∀ a∈l,I64 a) (hL:Z0K w) (hM:Z2d w) :
 CC 5 #[lv] w λr w'=>∃ (c:Cas) (R:Z0o),r=.agg (Jc c R).toArray/\Z2R w' c R/\Z6h c/\Stp [] w w':=by
 have dL:∀ k,∀ a∈l.drop k,I64 a:=λk a h=>hl a (YaF h);refine cW1 137 Tryz.func5 ?_;refine W ?_;refine Z0 Z4 rfl ?_;rintro _ w1 ⟨b2,rfl,cg,e2,hS⟩;refine W ?_;refine CL (Z13 lv l 40 _ (hs.up hS)) ?_;rintro v1 w2 ⟨h1,rfl⟩;have b2w:=e2.lt;refine W ?_;refine CM (ZS rfl) (Z7i [b2] v1 _ _ (by simpa using b2w) h1 (dL 40)) ?_;rintro _ w3 ⟨cal,hv,cv,zo,zs,hr,rfl,aq,cI,eE,bY,hT⟩;replace e2:=e2.up hT;replace hS:=hS.trans hT;clear hT h1;refine W ?_;refine CL (Z13 lv l 60 _ (hs.up hS)) ?_;rintro v1 w4 ⟨h1,rfl⟩;refine W ?_;refine CL (Z9D v1 _ _ h1 (dL 60)) ?_;rintro crv w5 ⟨cs,dR,dF,fg,ic⟩;have cj:SlV [b2] w5 crv cs:=ic.slv (by simpa using e2.lt);have hT:=ic.2;replace e2:=e2.up hT;replace eE:=eE.up hT;replace bY:=bY.up hT;replace hS:=hS.trans hT;clear hT h1 ic;refine W ?_;refine CM (ZJ rfl rfl rfl) (ZI [] _ l 0 3 _ (by decide) (by unfold I64;omega) (hs.up hS) hl) ?_;rintro _ w6 ⟨ct,rfl,qm,hT⟩;replace e2:=e2.up hT;replace eE:=eE.up hT;replace bY:=bY.up hT;replace cj:=cj.up hT;replace hS:=hS.trans hT;clear hT;refine W ?_;refine CM (ZJ rfl rfl rfl) (ZI [] _ l 1 90 _ (by decide) (by unfold I64;omega) (hs.up hS) hl) ?_;rintro _ w7 ⟨td,rfl,vo,hT⟩;replace e2:=e2.up hT;replace eE:=eE.up hT;replace bY:=bY.up hT;replace cj:=cj.up hT;replace hS:=hS.trans hT;clear hT;obtain ⟨p,k,rfl,-⟩:=id cj;refine W ?_;refine Z5 rfl (Zfo cal hv cv zo zs hr p cs.length k cs (ct:Int) (739616+(td:Int))) rfl ?_;generalize (.slice p cs.length k:Value)=crv at cj ⊢;refine Z0 Z4 rfl ?_;rintro _ w8 ⟨b3,rfl,dM,e3,hT⟩;have b2w7:=e2.lt;have n23:b2≠b3:=by omega
 replace e2:=e2.up hT;have nc:∀ b∈[b2,b3],b∈[b2]\/w7.heap.size<=b:=λb hb=>by simp at hb ⊢;omega
 obtain ⟨rX,mT,mU,mV⟩:SlV [b2,b3] w8 lv l/\SlV [b2,b3] w8 hv cal.hols/\SlV [b2,b3] w8 cv cal.clos/\SlV [b2,b3] w8 crv cs:=⟨by
  have h:=hs.ext (X':=[b2,b3]) (hS.trans hT) (by simp) (λb hb=>.inr (by have:=hS.size;simp at hb;omega));exact h,eE.ext hT (by simp) nc,bY.ext hT (by simp) nc,cj.ext hT (by simp) nc⟩
 replace hS:=hS.trans hT;clear hT eE bY cj nc;have dP:Z7Q [b2,b3] lv l ⟨[],[],[],cs,[],cal,(ct:Int),739616+(td:Int)⟩ ⟨.N,.N,.N,crv,.N,hv,cv,zo,zs,hr⟩ w8:=⟨rX,Z6o _ _,Z6o _ _,Z6o _ _,mV,Z6o _ _,mT,mU,aq⟩
 have ay:Z6h ⟨[],[],[],cs,[],cal,(ct:Int),739616+(td:Int)⟩:=⟨Xr _,by simp,λk h=>by simp at h,Xr _,by simp,Xr _,by simp,⟨dR,dF⟩,fg,Xr _,by simp,cI,by dsimp only;omega,by dsimp only;omega⟩
 clear rX mT mU mV aq;generalize nR:(⟨[],[],[],cs,[],cal,(ct:Int),739616+(td:Int)⟩:Cas)=C at *;generalize nT:(⟨.N,.N,.N,crv,.N,hv,cv,zo,zs,hr⟩:Z0o)=R at *;refine SB (us:=Jc C R) dP.cell e3 ?_;rintro _ w9 ⟨hT,e3⟩;replace dP:=dP.ext hT.mn;replace e2:=e2.ext hT (by simpa using n23);have g3:w.heap.size<=b3:=by have:=hS.size;have:=e3.lt;omega
 replace hS:=hS.ow hT;clear hT;have l2:=e2.lt;have l3:=e3.lt;have vp:C.fcts=[]:=by rw [<- nR]
 have qn:C.ruls=[]:=by rw [<- nR]
 have ln:C.atts=[]:=by rw [<- nR]
 clear nR;have eH:R.fv=.N:=by rw [<- nT]
 have lp:R.rv=.N:=by rw [<- nT]
 have kB:R.av=.N:=by rw [<- nT]
 clear nT;refine W ?_
 refine Zm (σ:=Nat×Value×List Fct) (λq=>[(0,lv),(2,pQ b2),(3,pQ b3),(4,.I (q.1:Int))])
  (λq W=>q.1<=8/\q.2.2.length=q.1/\(∀ f∈q.2.2,Z8q f)/\Z8v q.2.2/\Row [b2,b3] W w9.heap.size 40 q.2.1 q.2.2/\Blk W b3 37 (Jc C { R with fv:=q.2.1 })/\Stp [b3] w9 W) (λq=>9 - q.1) (0,.N,[])
  ⟨rfl,rfl,rfl,rfl,trivial⟩ ⟨by decide,rfl,by simp,λk h=>by simp at h,Row.nil,by rw [<- eH];exact e3,Stp.refl _ _⟩ ?_
 clear e3;rintro ⟨j,fv,fs⟩ y1 ⟨hj,ak,aL,lq,ac,e3,hT⟩;dsimp only at hj ak aL lq ac e3 ⊢;have ls:=dP.ext hT.mn;have bZ:SlV [] y1 lv l:=ls.li.wk (by simp);have aJ:=λb hb=>ac.ob_le b hb;refine W ?_;refine CM (ZJ rfl rfl rfl) (ZI [] _ l 2 9 _ (by decide) (by unfold I64;omega) bZ hl) ?_;rintro _ y2 ⟨q,rfl,hq,hU⟩;replace ac:=ac.up hU;replace e3:=e3.up hU;replace bZ:=bZ.up hU;replace hT:=hT.trans hU.mn;clear hU ls;by_cases hlt:(j:Int)<(q:Int);refine QO ?_;refine ZDr 16 [] [13,15] [(0,0),(1,1),(2,0),(3,0),(4,0),(7,0),(8,0),(9,0),(5,2),(6,0),(10,2),(11,2),(12,2),(13,2),(14,0),(15,2)] (λw1 ae=>?_);replace ac:=ac.up ae;replace e3:=e3.up ae;replace bZ:=bZ.up ae;replace hT:=hT.trans ae.mn;clear ae;refine QD ?_;refine Z7 rfl trivial (Z3 rfl (ZJ rfl rfl rfl) (ZI [] _ l 3 2 _ (by decide) (by unfold I64;omega) bZ hl)) (λ_ _ h=>h.choose_spec.2.2) rfl ?_;rintro _ y3 ⟨q3,rfl,rx,hU⟩;replace ac:=ac.up hU;replace e3:=e3.up hU;replace bZ:=bZ.up hU;replace hT:=hT.trans hU.mn;clear hU;refine QD ?_;refine Z7 rfl trivial (Z3 rfl (ZJ rfl rfl rfl) (ZI [] _ l (4+(j:Int)) 100000000 _ (by decide) (by unfold I64;omega) bZ hl)) (λ_ _ h=>h.choose_spec.2.2) rfl ?_;rintro _ y4 ⟨q4,rfl,nF,hU⟩;replace ac:=ac.up hU;replace e3:=e3.up hU;replace hT:=hT.trans hU.mn;clear hU bZ;focus repeat'(first|refine D1 ?_|omega|refine Zl rfl rfl rfl rfl (λhg=>?_) (λhg=>?_)|(refine Zh rfl rfl rfl rfl (λhg=>?_) (λhg=>?_)<;>refine D1 ?_)|fail)
 refine Z7 rfl trivial (Z3 rfl (Zg rfl rfl) (Z8r (2 * (j:Int)+(q3:Int)) (q4:Int) _ (by unfold I64;omega))) (λ_ _ h=>h.choose_spec.2.2.2) rfl ?_;rintro _ y5 ⟨f,rfl,xw,hf,hU⟩;replace ac:=ac.up hU;replace e3:=e3.up hU;replace hT:=hT.trans hU.mn;clear hU;focus repeat'(first|refine D1 ?_|omega|refine Zl rfl rfl rfl rfl (λhg=>?_) (λhg=>?_)|(refine Zh rfl rfl rfl rfl (λhg=>?_) (λhg=>?_)<;>refine D1 ?_)|fail)
 refine Z7 rfl trivial (Z1 rfl (Zfp f)) (λ_ _ h=>Za.stp h) rfl ?_;rintro vs y6 hN;have dt:SlV (ob fv++[b2,b3]) y6 vs [f]:=hN.slv (λb hb=>by
  have:=hT.size;rcases Xd.1 hb with h|h
  exact (ac.ob_le b h).2;simp at h;omega) rfl (by simp) (by simp [maxLen])
 have hU:=Za.stp hN;clear hN;replace ac:=ac.up hU;replace e3:=e3.up hU;replace hT:=hT.trans hU.mn;clear hU;focus repeat'(first|refine D1 ?_|omega|refine Zl rfl rfl rfl rfl (λhg=>?_) (λhg=>?_)|(refine Zh rfl rfl rfl rfl (λhg=>?_) (λhg=>?_)<;>refine D1 ?_)|fail)
 refine Z2B rfl trivial (ZC (α:=Fct) (X:=[b2,b3]) (base:=w9.heap.size) rfl (by decide) rfl rfl ac dt (Xh (Xu _ (show fs.length+[f].length<=10 by simp;omega)) (by decide)) (by simp [maxLen];omega) (by have:=hT.size;omega)) rfl rfl ?_;rintro fv' y7 ⟨aN,hU,gM⟩;have bR:=λb hb=>ac.ob_le b hb;replace e3:=e3.ext hU (λh=>by have:=bR _ h;omega);replace hT:=hT.own hU (λb hb=>.inr (bR b hb).1);clear hU;obtain ⟨pv,kv,rfl,-⟩:=id (Row.slv (X:=[b2,b3]) aN (λb hb=>by simp at hb;omega));refine QD ?_;refine ZM rfl trivial (Zb (u:=.slice pv (fs++[f]).length kv) rfl rfl rfl rfl e3 (show (0:Nat)<19 by decide)) rfl ?_;rintro _ y8 ⟨hU,e3⟩;replace e3:Blk y8 b3 37 (Jc C { R with fv:=.slice pv (fs++[f]).length kv }):=e3;replace hT:=hT.own hU (λb hb=>.inl hb);replace aN:=aN.keep hU (λb hb h=>by simp only [Xm] at hb;subst hb;have:=(aN.ob_le _ h).1;omega);clear hU;refine QD ?_;refine QO ?_;exact Zd (j+1,.slice pv (fs++[f]).length kv,fs++[f]) ⟨rfl,rfl,rfl,rfl,trivial⟩ ⟨by dsimp only;omega,by simp [ak],λz hz=>by
  rcases Xd.1 hz with h|h
  exact aL z h;simp only [Xm] at h;subst h;exact hf,λk hk=>by
  dsimp only at hk ⊢;rw [List.getElem_append];split;exact lq k _;have:k=j:=by simp at hk;omega
  subst this;simp only [List.getElem_singleton];omega,aN,e3,hT⟩ (by dsimp only;omega)
 . as_aux_lemma=>
   have rY:Z7Q [b2,b3] lv l { C with fcts:=fs } { R with fv:=fv } y2:={ dP.ext hT.mn with ff:=Row.slv (X:=[b2,b3]) ac (λb hb=>by simp at hb;omega) }
   have fL:Z6h { C with fcts:=fs }:=⟨by dsimp only;omega,aL,lq,ay.rl,ay.ro,ay.al,ay.ao,ay.cl,ay.co,ay.sl,ay.so,ay.cal,ay.court,ay.today⟩
   replace e2:=e2.ext hT (by simp;omega);replace hS:=hS.ow hT;replace l2:=e2.lt;replace l3:=e3.lt;replace qn:({ C with fcts:=fs }:Cas).ruls=[]:=qn;replace ln:({ C with fcts:=fs }:Cas).atts=[]:=ln;replace lp:({ R with fv:=fv }:Z0o).rv=.N:=lp;replace kB:({ R with fv:=fv }:Z0o).av=.N:=kB;clear dP ay hT ac aJ aL lq vp eH ak;replace e3:Blk y2 b3 37 (Jc { C with fcts:=fs } { R with fv:=fv }):=e3;generalize ({ C with fcts:=fs }:Cas)=C at *;generalize ({ R with fv:=fv }:Z0o)=R at *;refine QO ?_;refine CL (Z13 lv l 80 _ bZ) ?_;rintro v1 z1 ⟨h1,rfl⟩;repeat'(first|refine W1 ?_|omega|refine VG ?_ ?_<;>intro hg|refine VC ?_ ?_<;>intro hc)
   refine CM (ZS rfl) (Zfn [b2,b3] v1 _ _ (λb hb=>by simp at hb;omega) h1 (dL 80)) ?_;rintro gv z2 ⟨rs,h4,aP,qo,hT⟩;have rZ:=rY.ext hT.mn;replace e2:=e2.up hT;replace e3:=e3.up hT;replace hS:=hS.trans hT;replace l2:=e2.lt;replace l3:=e3.lt;clear rY hT h1 bZ;have s7:(rs.map RuleM.rul).length=rs.length:=Xy ..;have xx:=qo.max;refine QO ?_
   refine Zm (σ:=Nat×Value×List Cr) (λq=>[(0,lv),(2,pQ b2),(3,pQ b3),(5,gv),(6,.I (q.1:Int))])
    (λq W=>q.1<=rs.length/\q.2.2.length<=q.1/\(∀ x∈q.2.2,∃ r:RuleM,Z6N r/\Z2n r.rul=0/\x=crF r.rul)/\Row [b2,b3] W z2.heap.size 65 q.2.1 q.2.2/\Blk W b3 37 (Jc C { R with rv:=q.2.1 })/\Stp [b3] z2 W) (λq=>rs.length - q.1) (0,.N,[])
    ⟨rfl,rfl,rfl,rfl,rfl,trivial⟩ ⟨by omega,Xl _,by simp,Row.nil,by rw [<- lp];exact e3,Stp.refl _ _⟩ ?_
   clear e3;rintro ⟨j,rv,qs⟩ y1 ⟨hj,ak,aL,ac,e3,hT⟩;dsimp only at hj ak aL ac e3 ⊢;have aJ:=λb hb=>ac.ob_le b hb;have iT:SlV [b2,b3] y1 gv (rs.map RuleM.rul):=qo.ext hT (by simp) (λ_ h=>.inl h);by_cases hlt:j<rs.length;have bZ:j<(rs.map RuleM.rul).length:=by omega
   have hG:=aP _ (Xb hlt);have iU:(rs.map RuleM.rul)[j]=rs[j].rul:=by simp
   obtain ⟨ka,kb,qp,mm,mQ⟩:=Zq6 iT bZ;rw [iU] at qp mm;have la:ZT rs[j].cond<=1000:=Xh hG.cond.size (by decide);have pd:ZT rs[j].due<=1000:=Xh hG.due.size (by decide);refine QO ?_;refine Z9 (Zcq rfl rfl iT bZ mQ) rfl ?_;rw [iU];refine CM (ZS rfl) (ZeL _ rs[j].rul _ ⟨ka,kb,rfl,qp.wk (by simp),mm.wk (by simp)⟩ la pd) ?_;rintro _ y2 ⟨cv,rfl,cD,hU⟩;obtain ⟨k1,d1,rfl,bz,iz⟩:=cD (ob rv++[b2,b3]) (λb hb=>by
    have:=hT.size;rcases Xd.1 hb with h|h
    exact (aJ b h).2;simp at h;omega)
   clear cD iT qp mm mQ;replace ac:=ac.up hU;replace e3:=e3.up hU;replace hT:=hT.trans hU.mn;clear hU;refine W ?_;have xy:=hT.size;refine Z0 Z4 rfl ?_;rintro _ y3 ⟨b7,rfl,jo,e7,hU⟩;have n37:b3≠b7:=by have:=e3.lt;omega
   have bR:=λb hb=>ac.ob_le b hb;replace ac:=ac.ext (X':=[b2,b3,b7]) hU (by simp) (λb hb=>by simp at hb ⊢;omega);replace e3:=e3.up hU;have nb7:∀ b∈b7 :: (ob rv++[b2,b3]),b∈ob rv++[b2,b3]\/y2.heap.size<=b:=λb hb=>by
    rcases Xc.1 hb with rfl|h
    exact .inr jo;exact .inl h
   replace bz:=bz.ext hU (by simp) nb7;replace iz:=iz.ext hU (by simp) nb7;replace hT:=hT.trans hU.mn;clear hU;refine SB (us:=crC (crF rs[j].rul) k1 d1) (Z1s bz iz) e7 ?_;rintro _ y4 ⟨hU,e7⟩;replace ac:=ac.ext (X':=[b2,b3]) hU (λb hb=>by
    simp only [Xm] at hb;subst hb;exact ⟨by simp,λh=>by have:=(bR _ h).2;omega⟩) (λb hb=>.inl (by simp at hb ⊢;omega))
   replace e3:=e3.ext hU (by simpa using n37);replace bz:=bz.ext (X':=ob rv++[b2,b3]) hU (by simp) (λb hb=>.inl (Yas _ hb));replace iz:=iz.ext (X':=ob rv++[b2,b3]) hU (by simp) (λb hb=>.inl (Yas _ hb));replace hT:=hT.ow hU;clear hU;by_cases he:Z2n rs[j].rul=0;refine QO ?_;have zT:=hT.size;refine APG (X:=[b2,b3]) (base:=z2.heap.size) (crF rs[j].rul) ac (λb hb=>by simp at hb;omega) (by omega) ⟨k1,d1,rfl,bz,iz⟩ (Xh (Xu _ (show qs.length+1<=10 by omega)) (by decide)) (by simp only [maxLen];omega) λv1 rv' y5 aN hU gM=>?_
   replace e3:=e3.ext hU (λh=>by have:=(bR _ h).1;omega);replace hT:=hT.own hU (λb hb=>.inr (bR b hb).1);clear hU;obtain ⟨pv,kv,rfl,-⟩:=id (Row.slv (X:=[b2,b3]) aN (λb hb=>by simp at hb;omega));refine QO ?_;refine Z8 (Zb (u:=.slice pv (qs++[crF rs[j].rul]).length kv) rfl rfl rfl rfl e3 (show (1:Nat)<19 by decide)) ?_;rintro _ y6 ⟨hU,e3⟩;replace e3:Blk y6 b3 37 (Jc C { R with rv:=.slice pv (qs++[crF rs[j].rul]).length kv }):=e3;replace hT:=hT.own hU (λb hb=>.inl hb);replace aN:=aN.ext (X':=[b2,b3]) hU (λb hb=>by
    simp only [Xm] at hb;subst hb;exact ⟨by simp,λh=>by have:=(aN.ob_le _ h).1;omega⟩) (λb hb=>.inl hb)
   clear hU;refine QO ?_;exact Zd (j+1,.slice pv (qs++[crF rs[j].rul]).length kv,qs++[crF rs[j].rul]) ⟨rfl,rfl,rfl,rfl,rfl,trivial⟩ ⟨by dsimp only;omega,by simp;omega,λz hz=>by
    rcases Xd.1 hz with h|h
    exact aL z h;simp only [Xm] at h;subst h;exact ⟨rs[j],hG,he,rfl⟩,aN,e3,hT⟩ (by dsimp only;omega)
   refine QO ?_;exact QL (j+1,rv,qs) ⟨by dsimp only;omega,by dsimp only;omega,aL,ac,e3,hT⟩ (by dsimp only;omega)
   . as_aux_lemma=>
     refine QO ?_;have mW:Z7Q [b2,b3] lv l { C with ruls:=qs } { R with rv:=rv } y1:={ rZ.ext hT.mn with rr:=Row.slv (X:=[b2,b3]) ac (λb hb=>by simp at hb;omega) }
     have fM:Z6h { C with ruls:=qs }:=⟨fL.fl,fL.fo,fL.en,by dsimp only;omega,aL,fL.al,fL.ao,fL.cl,fL.co,fL.sl,fL.so,fL.cal,fL.court,fL.today⟩
     replace e2:=e2.ext hT (by simp;omega);replace hS:=hS.ow hT;replace l2:=e2.lt;replace l3:=e3.lt;replace ln:({ C with ruls:=qs }:Cas).atts=[]:=ln;replace kB:({ R with rv:=rv }:Z0o).av=.N:=kB;replace e3:Blk y1 b3 37 (Jc { C with ruls:=qs } { R with rv:=rv }):=e3;clear rZ fL hT ac aJ aL qn lp ak iT qo;generalize ({ C with ruls:=qs }:Cas)=C at *;generalize ({ R with rv:=rv }:Z0o)=R at *;have bZ:SlV [] y1 lv l:=mW.li.wk (by simp);refine CL (Z13 lv l 30 _ bZ) ?_;rintro v3 u1 ⟨h3,rfl⟩;refine QO ?_;refine CL (Z13 lv l 30 _ bZ) ?_;rintro v4 u2 ⟨nI,rfl⟩;have nN:=h3.max;have vr:=nI.max;refine QO ?_;refine Z9 (Z09 (r:=min 4 (l.drop 30).length) rfl h3 rfl (by omega) (by omega)) rfl ?_;have h5:=h3.slc (l:=0) (r:=min 4 (l.drop 30).length) (by omega) (by omega);have nU:∀ a∈((l.drop 30).take (min 4 (l.drop 30).length)).drop 0,I64 a:=λa h=>dL 30 a (Yad (YaF h));have r8:(((l.drop 30).take (min 4 (l.drop 30).length)).drop 0).length<=4:=by simp only [Yae,Xx];omega
     refine CL (Zbf _ _ _ h5 nU r8) ?_;rintro sv u3 ⟨xs,ju,r9,lH⟩;have ij:SlV [b2,b3] u3 sv xs:=lH.slv (λb hb=>by simp at hb;omega);have hT:=lH.2;replace mW:=mW.ext hT.mn;replace e2:=e2.up hT;replace e3:=e3.up hT;replace hS:=hS.trans hT;clear hT h3 nI h5 nU r8 lH nN vr bZ;obtain ⟨ps,ks,rfl,-⟩:=id ij;refine QO ?_;refine Z8 (Zb (u:=.slice ps xs.length ks) rfl rfl rfl rfl e3 (show (4:Nat)<19 by decide)) ?_;rintro _ u4 ⟨hT,e3⟩;replace e3:Blk u4 b3 37 (Jc { C with stys:=xs } { R with sv:=.slice ps xs.length ks }):=e3;have sa:Z7Q [b2,b3] lv l { C with stys:=xs } { R with sv:=.slice ps xs.length ks } u4:={ mW.ext hT.mn with ss:=ij.ext hT (by simp) (λ_ h=>.inl h) }
     have fO:Z6h { C with stys:=xs }:=⟨fM.fl,fM.fo,fM.en,fM.rl,fM.ro,fM.al,fM.ao,fM.cl,fM.co,ju,r9,fM.cal,fM.court,fM.today⟩
     replace e2:=e2.ext hT (by simp;omega);replace hS:=hS.ow hT;replace l2:=e2.lt;replace l3:=e3.lt;replace ln:({ C with stys:=xs }:Cas).atts=[]:=ln;replace kB:({ R with sv:=.slice ps xs.length ks }:Z0o).av=.N:=kB;clear mW fM hT ij ju r9;generalize ({ C with stys:=xs }:Cas)=C at *;generalize ({ R with sv:=.slice ps xs.length ks }:Z0o)=R at *;refine QO ?_
     refine Zm (σ:=Nat×Value×List Atp) (λq=>[(0,lv),(2,pQ b2),(3,pQ b3),(9,.I (q.1:Int))])
      (λq W=>q.1<=4/\q.2.2.length=q.1/\(∀ x∈q.2.2,ZiF C.crrs.length x)/\Row [b2,b3] W u4.heap.size 77 q.2.1 q.2.2/\Blk W b3 37 (Jc C { R with av:=q.2.1 })/\Stp [b3] u4 W) (λq=>5 - q.1) (0,.N,[])
      ⟨rfl,rfl,rfl,rfl,trivial⟩ ⟨by decide,rfl,by simp,Row.nil,by rw [<- kB];exact e3,Stp.refl _ _⟩ ?_
     clear e3;rintro ⟨j,av,as_⟩ y1 ⟨hj,ak,aL,ac,e3,hT⟩;dsimp only at hj ak aL ac e3 ⊢;have aJ:=λb hb=>ac.ob_le b hb;have ls:=sa.ext hT.mn;have bZ:SlV [] y1 lv l:=ls.li.wk (by simp);have cj:=ls.cc;have bY:=fO.cl;have qq:=cj.max;refine QO ?_;refine CM (ZJ rfl rfl rfl) (ZI [] _ l 12 5 _ (by decide) (by unfold I64;omega) bZ hl) ?_;rintro _ y2 ⟨q,rfl,hq,hU⟩;replace ac:=ac.up hU;replace e3:=e3.up hU;replace bZ:=bZ.up hU;replace cj:=cj.up hU;replace hT:=hT.trans hU.mn;clear hU ls;obtain ⟨pc,kc,cD,-⟩:=id cj;by_cases hlt:(j:Int)<(q:Int)
     . as_aux_lemma=>
       have vt:j+1<=4:=by omega
       have qr:5 - (j+1)<5 - j:=by omega
       refine QO ?_;refine CM (ZJ rfl rfl rfl) (ZI [] _ l (13+(j:Int)) 1000000 _ (by decide) (by unfold I64;omega) bZ hl) ?_;rintro _ y3 ⟨n,rfl,hn,hU⟩;replace ac:=ac.up hU;replace e3:=e3.up hU;replace bZ:=bZ.up hU;replace cj:=cj.up hU;replace hT:=hT.trans hU.mn;clear hU;refine QO ?_;have r1:0<=(n:Int) % 16/\(n:Int) % 16<=15:=by omega
       have r2:0<=(n:Int) / 16 % 3/\(n:Int) / 16 % 3<=2:=by omega
       have r3:0<=(n:Int) / 48 % (C.crrs.length:Int)/\(n:Int) / 48 % (C.crrs.length:Int)<C.crrs.length:=⟨Ybl _ (by omega),Ya2 _ (by omega)⟩
       have r4:739616<=739616+(n:Int) / 768 % 40/\739616+(n:Int) / 768 % 40<=739655:=by omega
       generalize (n:Int) % 16=a1 at r1 ⊢;generalize (n:Int) / 16 % 3=a2 at r2 ⊢;generalize (n:Int) / 48 % (C.crrs.length:Int)=a3 at r3 ⊢;generalize 739616+(n:Int) / 768 % 40=a4 at r4 ⊢;refine Z5 rfl (ZiG a1 a2 a3 a4) rfl ?_;have zT:=hT.size;refine Z0 Z4 rfl ?_;rintro _ y4 ⟨b,rfl,hb,e4,hU⟩;have n3:b3≠b:=by have:=e3.lt;omega
       have bR:=λb hb=>ac.ob_le b hb;replace ac:=ac.ext (X':=[b2,b3,b]) hU (by simp) (λc hc=>by simp at hc ⊢;omega);replace e3:=e3.up hU;replace bZ:=bZ.ext (X':=[b]) hU (by simp) (λc hc=>.inr (by simp at hc;omega));replace cj:=cj.ext (X':=[b]) hU (by simp) (λc hc=>.inr (by simp at hc;omega));replace hT:=hT.trans hU.mn;clear hU;refine SB (us:=atC ⟨a1,a2,a3,a4,[]⟩ (.N)) (ZlU (by rfl)) e4 ?_;rintro _ y5 ⟨hU,e4⟩;replace e3:=e3.ext hU (by simpa using n3);replace ac:=ac.ext (X':=[b2,b3,b]) hU (λc hc=>by
        simp only [Xm] at hc;subst hc;exact ⟨by simp,λh=>by have:=(bR _ h).2;omega⟩) (λc hc=>.inl hc)
       replace bZ:=bZ.ext (X':=[b]) hU (by simp) (λc hc=>.inl hc);replace cj:=cj.ext (X':=[b]) hU (by simp) (λc hc=>.inl hc);replace hT:=hT.ow hU;clear hU;refine QO ?_
       refine Js (σ:=Value×List Rtn) (λq=>[(0,lv),(2,pQ b2),(3,pQ b3),(9,.I (j:Int)),(11,pQ b)])
        (λq W=>(q.2.length<=3/\∀ x∈q.2,Ze7 C.crrs.length x)/\Blk W b 77 (atC ⟨a1,a2,a3,a4,q.2⟩ q.1)/\Row [b2,b3] W u4.heap.size 77 av as_/\SlV (ob av++[b2,b3]) W q.1 q.2/\Blk W b3 37 (Jc C { R with av:=av })/\Stp [b3] u4 W) ?_ ?_
       . as_aux_lemma=>
         refine ZDr 20 [] [19] [(0,0),(1,0),(2,0),(3,0),(5,0),(6,0),(7,0),(8,0),(13,0),(14,1),(15,0),(16,1),(4,2),(9,2),(10,0),(11,0),(12,0),(17,2),(18,0),(19,2)] (λw1 ae=>?_);replace ac:=ac.up ae;replace e3:=e3.up ae;replace e4:=e4.up ae;replace bZ:=bZ.up ae;replace cj:=cj.up ae;replace hT:=hT.trans ae.mn;clear ae;have qt:=bZ.wk (X':=[]) (by simp);have nV:=Z13 lv l (18+3 * j) _ qt;have pB:((18+3 * j:Nat):Int)=18+3 * (j:Int):=by omega
         rw [pB] at nV;refine QD ?_;refine DC nV (λ_ _ h=>by rw [h.2];exact Stp.refl _ _) ?_;rintro v5 u5 ⟨h5,rfl⟩;repeat'(first|refine D1 ?_|omega|refine Zl rfl rfl rfl rfl (λhg=>?_) (λhg=>?_)|(refine Zh rfl rfl rfl rfl (λhg=>?_) (λhg=>?_)<;>refine D1 ?_)|fail)
         refine DC nV (λ_ _ h=>by rw [h.2];exact Stp.refl _ _) ?_;rintro v6 u6 ⟨h6,rfl⟩;clear nV;have rW:=h5.max;refine QD ?_;refine Jl rfl trivial (λ_=>Z09 (r:=min 3 (l.drop (18+3 * j)).length) rfl h5 rfl (by omega) (by omega)) rfl ?_;have h7:=h5.slc (l:=0) (r:=min 3 (l.drop (18+3 * j)).length) (by omega) (by omega);have sc:∀ a∈((l.drop (18+3 * j)).take (min 3 (l.drop (18+3 * j)).length)).drop 0,I64 a:=λa h=>dL _ a (Yad (YaF h));have sd:(((l.drop (18+3 * j)).take (min 3 (l.drop (18+3 * j)).length)).drop 0).length<=3:=by simp only [Yae,Xx];omega
         repeat'(first|refine D1 ?_|omega|refine Zl rfl rfl rfl rfl (λhg=>?_) (λhg=>?_)|(refine Zh rfl rfl rfl rfl (λhg=>?_) (λhg=>?_)<;>refine D1 ?_)|fail)
         refine Z7 rfl trivial (Z3 rfl (ZJ rfl rfl rfl) (Zbg _ R.cv _ C.crrs a4 _ h7 sc sd (cj.wk (by simp)) bY r4)) (λ_ _ h=>h.choose_spec.2.2.2) rfl ?_;rintro rv u7 ⟨rs7,bU,fF,cr⟩;have hU:=cr.2;have au:SlV (b :: (ob av++[b2,b3])) u7 rv rs7:=cr.slv (λc hc=>by
          have:=hT.size;have:=e4.lt;rcases Xc.1 hc with rfl|hc
          omega;rcases Xd.1 hc with h|h
          have:=ac.ob_le c h;omega;simp at h;omega)
         replace ac:=ac.up hU;replace e3:=e3.up hU;replace e4:=e4.up hU;replace hT:=hT.trans hU.mn;clear hU cr h7 sc sd h5 h6;obtain ⟨pr,kr,rfl,-⟩:=id au;refine QD ?_;refine ZM rfl trivial (Zb (u:=.slice pr rs7.length kr) rfl rfl rfl rfl e4 (show (4:Nat)<5 by decide)) rfl ?_;rintro _ u8 ⟨hU,e4⟩;replace e4:Blk u8 b 77 (atC ⟨a1,a2,a3,a4,rs7⟩ (.slice pr rs7.length kr)):=e4;replace e3:=e3.ext hU (by simpa using n3);have cK:=λb hb=>ac.ob_le b hb;replace ac:=ac.ext (X':=[b2,b3]) hU (λc hc=>by
          simp only [Xm] at hc;subst hc;exact ⟨by simp,λh=>by have:=(bR _ h).2;omega⟩) (λc hc=>.inl (by simp at hc ⊢;omega))
         replace hT:=hT.ow hU;refine QD ?_;exact QT (.slice pr rs7.length kr,rs7) ⟨⟨bU,fF⟩,e4,ac,au.ext hU (by simp) (λc hc=>.inl (Yas _ hc)),e3,hT⟩
       . clear ac e3 e4 hT bZ cj
         as_aux_lemma=>
         rintro ⟨rv,rs7⟩ u8 ⟨⟨bU,fF⟩,e4,ac,au,e3,hT⟩;dsimp only at bU fF e4 au;have qu:ZiF C.crrs.length (⟨a1,a2,a3,a4,rs7⟩:Atp):=⟨r1,r2,r3,r4,bU,fF⟩
         clear r1 r2 r3 r4 bU fF hn qq bY;have cK:=λb hb=>ac.ob_le b hb;have zT8:=hT.size;have iE:=au.max;refine QO ?_;refine APG (X:=[b2,b3]) (base:=u4.heap.size) (⟨a1,a2,a3,a4,rs7⟩:Atp) ac (λb hb=>by simp at hb;omega) (by omega) ⟨rv,rfl,au⟩ (Xh (Xu _ (show as_.length+1<=10 by omega)) (by decide)) (by simp only [maxLen];omega) λv1 av' u9 aN hU gM=>?_
         replace e3:=e3.ext hU (λh=>by have:=(cK _ h).1;omega);replace hT:=hT.own hU (λb hb=>.inr (cK b hb).1);clear hU;obtain ⟨pv,kv,rfl,-⟩:=id (Row.slv (X:=[b2,b3]) aN (λb hb=>by simp at hb;omega));refine QO ?_;refine Z8 (Zb (u:=.slice pv (as_++[(⟨a1,a2,a3,a4,rs7⟩:Atp)]).length kv) rfl rfl rfl rfl e3 (show (2:Nat)<19 by decide)) ?_;rintro _ x1 ⟨hU,e3⟩;replace e3:Blk x1 b3 37 (Jc C { R with av:=.slice pv (as_++[(⟨a1,a2,a3,a4,rs7⟩:Atp)]).length kv }):=e3;replace hT:=hT.own hU (λb hb=>.inl hb);replace aN:=aN.ext (X':=[b2,b3]) hU (λc hc=>by
          simp only [Xm] at hc;subst hc;exact ⟨by simp,λh=>by have:=(aN.ob_le _ h).1;omega⟩) (λc hc=>.inl hc)
         clear hU;refine QO ?_;exact Zd (j+1,.slice pv (as_++[(⟨a1,a2,a3,a4,rs7⟩:Atp)]).length kv,as_++[(⟨a1,a2,a3,a4,rs7⟩:Atp)]) ⟨rfl,rfl,rfl,rfl,trivial⟩ ⟨vt,by simp [ak],λz hz=>by
          rcases Xd.1 hz with h|h
          exact aL z h;simp only [Xm] at h;subst h;exact qu,aN,e3,hT⟩ qr
     . as_aux_lemma=>
       have se:Z7Q [b2,b3] lv l { C with atts:=as_ } { R with av:=av } y2:={ sa.ext hT.mn with aa:=Row.slv (X:=[b2,b3]) ac (λb hb=>by simp at hb;omega) }
       have sf:Z6h { C with atts:=as_ }:=⟨fO.fl,fO.fo,fO.en,fO.rl,fO.ro,by dsimp only;omega,aL,fO.cl,fO.co,fO.sl,fO.so,fO.cal,fO.court,fO.today⟩
       replace e3:Blk y2 b3 37 (Jc { C with atts:=as_ } { R with av:=av }):=e3;replace e2:=e2.ext hT (by simp;omega);replace hS:=hS.ow hT;generalize ({ C with atts:=as_ }:Cas)=D at *;generalize ({ R with av:=av }:Z0o)=Q at *;refine QO ?_;refine SB (us:=Jc D Q) se.cell e2 ?_;rintro _ x2 ⟨hU,e2⟩;have jv:=se.ext hU.mn;have aj:=hS.ow hU;refine W ?_;refine JS rfl rfl rfl e2 rfl ?_;exact .mk ⟨D,Q,rfl,⟨jv.ff.wk (by simp),jv.rr.wk (by simp),jv.aa.wk (by simp),jv.cc.wk (by simp),jv.ss.wk (by simp),⟨jv.ho.wk (by simp),jv.clo.wk (by simp),hL.up aj,hM.up aj,sf.cal.ok⟩,jv.one⟩,sf,aj⟩
theorem Z2R.own {w w0 W:World} {B:List Nat} {c:Cas} {R:Z0o} (hv:Z2R w c R) (h0:Stp [] w w0) (hB:∀ b∈B,w.heap.size<=b) (hS:Stp B w0 W):Z2R W c R:=hv.up (h0.own hS (λb hb=>.inr (hB b hb)))
theorem Row.low {α:Type} [Z6 α] {X:List Nat} {w} {a b T:Nat} {v:Value} {xs:List α} (h:Row X w b T v xs) (bM:a<=b):Row [] w a T v xs:=(h.lower bM).ext (Stp.refl [] w) (by simp) (by simp)
theorem Z8w (c:Cas) (R:Z0o) (w) (hv:Z2R w c R) (hs:Z7O c) :
 CC 16 #[.agg (Jc c R).toArray] w λv w'=>Zk 40 w w' v (Z1j c):=by
 have cX:=hs.fl;refine cW1 43 Tryz.func16 ?_;refine W ?_;refine BX (Stp.refl [] w) λb1 w1 h1 e1 _ hS=>?_;replace e1:Blk w1 b1 37 (Jc c R):=e1;have l1:=e1.lt;refine W ?_;refine Z0 (Z4j Z6g) rfl ?_;rintro _ w2 ⟨r,rfl,hr,hm,hT⟩;have gr:w.heap.size<=r:=Xh hS.size hr;have lr:=hm.lt;have z2:=hT.size;replace e1:=e1.up hT;replace hS:=hS.trans hT;clear hT;refine Z0 Z4 rfl ?_;rintro _ w3 ⟨b3,rfl,dM,e3,hT⟩;have z3:=hT.size;replace e1:=e1.up hT;replace hm:=hm.up hT;replace hS:=hS.trans hT;clear hT;replace e3:Blk w3 b3 116 [.map none]:=e3;refine S1 (u:=.map (some r)) e3 ?_;rintro _ w4 ⟨hT,e3⟩;have z4:=hT.size;replace e3:Blk w4 b3 116 [.map (some r)]:=e3;replace e1:=e1.ext hT (by simp;omega);replace hm:=hm.ext hT (by simp;omega);replace hS:=hS.ow hT;have l3:=e3.lt;clear hT;refine W ?_;have kU:=(hv.up hS).ff;refine W ?_
 refine Zm (σ:=Nat) (λk=>[(1,pQ b1),(3,pQ b3),(12,R.fv),(13,.I c.fcts.length),(14,.I k)])
  (λk W=>k<=c.fcts.length/\Jz Z6g W r ((c.fcts.take k).map (λf=>(f,.B true)))/\Stp [r] w4 W) (λk=>c.fcts.length - k) 0 ⟨rfl,rfl,rfl,rfl,rfl,trivial⟩ ⟨by omega,by simpa using hm,Stp.refl _ _⟩ ?_
 clear hm kU;rintro k w5 ⟨hk,hm,hT⟩;have sg:=hv.own hS (B:=[r]) (by simpa using gr) hT;by_cases hlt:k<c.fcts.length;have gO:=sg.ff;have e3':=e3.ext hT (by simp;omega);have hfresh:∀ x∈c.fcts.take k,x≠c.fcts[k]:=by
  have h:=hs.nd.sublist (List.take_sublist (k+1) c.fcts);rw [Xg hlt,Ybq] at h;exact λx hx=>h.2.2 x hx _ (by simp)
 refine QO ?_;refine Z0 Z4 rfl ?_;rintro _ w6 ⟨b5,rfl,jU,e5,hA⟩;refine SA (us:=Z2.enc c.fcts[k]) e5 ?_;rintro _ w7 ⟨cG,e5⟩;replace hA:=hA.ow cG;replace e3':=e3'.up hA;replace hm:=hm.up hA;refine QO ?_;refine Z8 (Z2i (a:=c.fcts[k]) rfl rfl rfl hm (λp hp=>by
  obtain ⟨x,hx,rfl⟩:=XK.1 hp;exact hfresh x hx)) ?_
 rintro _ w8 ⟨vu,vw⟩;refine QO ?_;exact QL (k+1) ⟨hlt,by rw [Xg hlt,XL];exact vu,(hT.trans hA.mn).trans vw⟩ (by omega);obtain rfl:k=c.fcts.length:=by omega
 rw [Xs] at hm;have e1':=e1.ext hT (by simp;omega);refine QO ?_;have si:SlV [r] w5 R.fv c.fcts:=hv.ff.ext (hS.ow hT) (by simp) (λb hb=>.inr (by simp at hb;omega))
 refine Zm (σ:=Nat×Value×Value) (λq=>[(1,pQ b1),(3,pQ b3),(6,q.2.2),(7,q.2.1),(8,.I q.1)])
  (λq W=>q.1<=16/\Jz Z6g W r ((Zs c q.1).1.map (λf=>(f,.B true)))/\Stp [r] w4 W/\SlV [r] W q.2.1 (Zs c q.1).2.1/\Row [r] W w4.heap.size 40 q.2.2 (Zs c q.1).2.2) (λq=>16 - q.1) (0,R.fv,.N) ⟨rfl,rfl,rfl,rfl,rfl,trivial⟩
  ⟨by omega,hm,hT,si,Row.nil⟩ ?_
 clear hm hT sg e1' si;rintro ⟨k,nowv,ov⟩ Y ⟨hk,hm,hT,iV,ac⟩;dsimp only at hk hm hT iV ac ⊢;obtain ⟨q1,q2⟩:=Z2U hs hk;have q3:=(Z2V hs k).1;have hstop:=Z63 c (k:=k);have dh:Zs c (k+1)=(((JE c (Zs c k).2.1).foldl (Jr c) ((Zs c k).1,[])).1,((JE c (Zs c k).2.1).foldl (Jr c) ((Zs c k).1,[])).2,(Zs c k).2.2++((JE c (Zs c k).2.1).foldl (Jr c) ((Zs c k).1,[])).2):=rfl;generalize sj:Zs c k=S at *;obtain ⟨kn,now,out⟩:=S;dsimp only at *;have dE:=λb hb=>ac.ob_le b hb;have zT:=hT.size;have sm:=iV.max;by_cases fj:k<16/\0<now.length;obtain ⟨g1,g2⟩:=fj;have qw:SlV [] Y nowv now:=iV.ext (Stp.refl [] Y) (by simp) (by simp);have f1:=e1.ext hT (by simp;omega);have f3:=e3.ext hT (by simp;omega);refine QO ?_;refine Z0 Z4 rfl ?_;rintro _ wA ⟨b9,rfl,ee,e9,hA⟩;replace e9:Blk wA b9 23 [.N]:=e9;have zA:=hA.size;have l9:=e9.lt;replace f1:=f1.up hA;replace f3:=f3.up hA;replace hm:=hm.up hA;have sq:=hT.trans hA.mn;have vx:Stp [] w wA:=hS.ow sq;have su:SlV [r,b9] wA nowv now:=iV.ext hA (by simp) (λb hb=>by
  simp only [Xc,Xn,or_false] at hb;rcases hb with rfl|rfl
  exact .inl (by simp);exact .inr ee)
 have vy:Row [r,b9] wA w4.heap.size 40 ov out:=ac.ext hA (by simp) (λb hb=>by
  simp only [Xc,Xn,or_false] at hb;rcases hb with rfl|rfl
  exact .inl (by simp);exact .inr ee)
 clear qw hA;refine QO ?_;have cD:∀ Y',Stp [r,b9] wA Y'->Z2R Y' c R:=λY' h=>hv.own vx (B:=[r,b9]) (by simp;omega) h
 have hK:ZmB ⟨c,R,wA,b1,b3,r,b9,kn⟩:=⟨⟨by dsimp only;omega,by dsimp only;omega⟩,⟨by dsimp only;omega,by dsimp only;omega⟩,by dsimp only;omega,by dsimp only;omega,by dsimp only;omega,by dsimp only;omega,l9,f1,f3,λY' h=>(cD Y' h).rr⟩
 have eA:=Zb9 (ZcN _ hK) c R nowv now [r,b9] wA hs.ok cD (λY' h=>su.ext h (λb hb=>hb) (by simp)) q3 (λj hj i hi ht=>⟨hi,by
  obtain ⟨o1,o2,o3⟩:=Z9C hs.ok (q3 _ (Xb hj)) ht;have:=(q3 _ (Xb hj)).day;rw [o1];omega,by
  have a1:=Z2w c (now.take j);have a2:=Z2v c now[j] i;have a3:=hs.rl;have a4:=Yal (show (now.take j).length<=70000000000 by rw [Xx];omega) a3;rw [Xa];omega⟩) ⟨⟨.N,rfl,e9,Row.nil⟩,hm,Stp.refl _ _⟩
 refine CL eA ?_;rintro _ W2 ⟨F,⟨⟨nv,rfl,e9,qx⟩,hm,nW⟩,-,-⟩;dsimp only at qx hm e9 nW;clear eA hK cD su;have xz:=Z8p c hs.rl now kn;generalize (JE c now).foldl (Jr c) (kn,[])=T at *;have gE:=λb hb=>qx.ob_le b hb;have zS:=nW.size;have vA:Row [r] W2 w4.heap.size 40 ov out:=vy.ext nW (λb hb=>⟨hb,λh=>by have:=dE b h;simp at hb;omega⟩) (λb hb=>.inl (by simp at hb;simp [hb]));have qy:Row (ob ov++[r]) W2 wA.heap.size 40 nv T.2:=JO qx;have fD:SlV (ob ov++[r]) W2 nv T.2:=qy.slv (λb hb=>by
  rcases Xd.1 hb with h|h
  have:=dE b h;omega;simp at h;omega)
 refine QO ?_;refine Z0 (ZC (α:=Fct) (X:=[r]) (base:=w4.heap.size) rfl (by decide) rfl rfl vA fD (Xh (Xu _ (show out.length+T.2.length<=600000000000 by omega)) (by decide)) (by simp only [maxLen];omega) (by omega)) rfl ?_;rintro ov' W3 ⟨bU,cF,cK⟩;replace e9:=e9.ext cF (λh=>by have:=dE _ h;omega);refine QO ?_;refine QL (k+1,nv,ov') ⟨by dsimp only;omega,?_,?_,?_,?_⟩ (by dsimp only;omega);rw [dh];exact hm.ext cF (λh=>by have:=dE _ h;omega);exact (sq.own nW (λb hb=>by
  simp only [Xc,Xn,or_false] at hb;rcases hb with rfl|rfl
  exact .inl (by simp);exact .inr (by omega))).own cF (λb hb=>.inr (dE b hb).1)
 rw [dh];exact fD.ext cF (λb hb=>by simp [hb]) (λb hb=>.inl (by simp at hb;simp [hb]));rw [dh];exact bU
 . have iW:out=(Zs c 16).2.2:=by
    by_cases fG:k=16;rw [fG] at sj;rw [sj];have hn:now=[]:=XV.1 (by omega);have:=(hstop hn (16 - k)).1;rw [show k+(16 - k)=16 by omega] at this;exact this.symm
   have pg:out.length<=400000000000:=by omega
   clear hstop dh;repeat'(first|refine W1 ?_|omega|refine VG ?_ ?_<;>intro hg|refine VC ?_ ?_<;>intro hc)
   all_goals
    refine CL (Z62 ac pg) ?_;rintro _ W2 ⟨rfl,bK,an⟩;refine W ?_;refine WR ?_;refine .mk ?_;rw [iW] at bK;exact ⟨Row.low bK (by have:=hS.size;omega),(hS.ow hT).own an (λb hb=>.inr (by have:=dE b hb;have:=hS.size;omega))⟩
end Go.Proofs.YtgdicjnjhchooaaGreatDoor
namespace Go.Eng
open Go Go.RowKit
variable {P:Program} {n:Nat} {e:Env} {w:World} {d:Option Nat} {ty:TypeId} {pos:String} {af:Array Edge} {g:Option (Nat×Bool)}
theorem ZiH {t tn T bytes k m:Nat} {kn:IntKind} {x y:Operand} {z:Value} [ht:Und P t (.slice T)] [hn:Und P tn (.int kn)] [hk:Siz P T m] [hb:Byt P T bytes] [hz:Zer P T z] (la:z.cells.size=m) (hm:0<m)
 (hx:ev e x=some (.N)) (hy:ev e y=some (.I (k:Int))) (h0:0<k) (kW:k<=maxLen) (hbytes:k * bytes<=140737488355328) :
 OE P n ⟨d,.call { callee:=.builtin .append,args:=#[x,y],argTypes:=#[t,tn] },ty,pos,af,g⟩ e w
  (λv w'=>∃ c,v=.slice (some ⟨w.heap.size,0,none⟩) k c/\w'.ownsRow w.heap.size T m (.slice (some ⟨w.heap.size,0,none⟩) 0 c) 0 []/\Stp [] w w'):=by
 obtain ⟨i,hi,cu,cy,gR⟩:∃ i,P.info? T=some i/\i.size=m/\i.bytes=bytes/\i.zero=some z:=by
  have a1:=hk.h;have a2:=hb.h;have a3:=hz.h;cases hi:P.info? T with
  | none=>simp [hi] at a1
  | some i=>exact ⟨i,rfl,by simpa [hi] using a1,by simpa [hi] using a2,by simpa [hi] using a3⟩
 have bj:=Go.Lib.run_append_nil_zeros (P:=P) w t tn ty T i z .i64 kn ht.h hn.h hi gR k h0 (by omega) (by simp [maxLen] at kW;omega) (by rw [cy];omega);have kT:=grownCap_ge w k 0 T;have bD:(Builtin.zeroCells z.cells k++Builtin.zeroCells z.cells (grownCap w k 0 T - k)).size=grownCap w k 0 T * m:=by
  rw [Array.size_append,size_zeroCells,size_zeroCells,la,<- YbR];congr 1;omega
 refine ZL (v:=.slice (some ⟨w.heap.size,0,none⟩) k (grownCap w k 0 T)) (w':=w.drew.alloc (.cells (Builtin.zeroCells z.cells k++Builtin.zeroCells z.cells (grownCap w k 0 T - k)) T)) (λa ha=>?_) ⟨_,rfl,World.ownsRow_made w.drew _ _ (Xl _) (grownCap_le_maxLen w k 0 T kW) bD,(Stp.drew [] w).trans (Stp.alloc [] _ _)⟩;simp [execOp,resolve,invoke,builtin,ha.ev hx,ha.ev hy,bj]
end Go.Eng
namespace Go.Proofs.YtgdicjnjhchooaaGreatDoor
open Go Go.Eng Go.RowKit
theorem Zfq (k:Nat) (w) (hk:k<=1000000000000):CC 84 #[.N,.I (k:Int)] w λr w'=>Zk 40 w w' r ([]:List Fct):=by
 refine cW2 27 Tryz.func84 ?_;refine W ?_;have h0:SlV (α:=Fct) [] w (.N) []:=J6 _ _;have cn:([]:List Fct).length=0:=rfl;repeat'(first|refine W1 ?_|omega|refine VG ?_ ?_<;>intro hg|refine VC ?_ ?_<;>intro hc)
 apply Z9 (Zcm rfl) rfl;by_cases jI:k=0;subst jI;refine QO ?_;refine WR ?_;exact .mk Zk.nil;refine QO ?_;apply Z9 (Zcm rfl) rfl;apply Z9 (Zcn rfl rfl) rfl;refine W ?_;refine Z0 (ZiH (m:=6) (k:=k) rfl (by decide) rfl rfl (by omega) (by simp [maxLen];omega) (by omega)) rfl ?_;rintro _ w1 ⟨c,rfl,cm,hS⟩;replace h0:=h0.up hS;have hr:Zk 40 w w1 (.slice (some ⟨w.heap.size,0,none⟩) 0 c) ([]:List Fct):=⟨⟨[],rfl,λi h=>absurd h (XF _),cm⟩,hS⟩
 refine W ?_;apply Z9 (ZeH rfl rfl) rfl;refine W ?_;refine WR ?_;exact .mk hr
theorem Zbj (v:Value) (xss:List (Sl Fct)) (w) (hs:SlV [] w v xss) (hl:xss.length<=1000) (ak:(xss.flatMap Sl.l).length<=1000000000000):CC 47 #[v] w λr w'=>Zk 40 w w' r (xss.flatMap Sl.l):=by
 have cH:∀ j,((xss.take j).flatMap Sl.l).length<=(xss.flatMap Sl.l).length:=λj=>by
  rw [<- XZ j xss,YaV,Xa];simp only [XZ];have:(xss.take j).flatMap Sl.l=((xss.take j++xss.drop j).take j).flatMap Sl.l:=by rw [XZ]
  omega
 have hstep:∀ j (h:j<xss.length),(xss.take (j+1)).flatMap Sl.l=(xss.take j).flatMap Sl.l++xss[j].l:=λj h=>by
  rw [Xg h,YaV];simp
 refine cW1 36 Tryz.func47 ?_;refine W ?_;refine Z0t (σ:=Unit) (λ_=>[(0,v),(3,.I ((xss.flatMap Sl.l).length:Int))]) (λ_ w'=>w'=w) ?_ ?_;refine LP (σ:=Nat) (λj=>[(0,v),(9,v),(10,.I (xss.length:Int)),(3,.I (((xss.take j).flatMap Sl.l).length:Int)),(11,.I (j:Int))]) (λj w'=>j<=xss.length/\w'=w) (λj=>xss.length - j) 0 ⟨Xr _,rfl⟩ ?_;rintro j w2 ⟨hj,rfl⟩;by_cases hlt:j<xss.length;obtain ⟨u,am,lO⟩:=hs.sub hlt;have oB:=lO.max;have h1:=cH j;have h2:=cH (j+1);have h3:=hstep j hlt;have h4:((xss.take (j+1)).flatMap Sl.l).length=((xss.take j).flatMap Sl.l).length+xss[j].l.length:=by rw [h3,Xa]
 refine QO ?_;apply Z9 (Jp rfl rfl am) rfl;refine QO ?_;refine Zd (j+1) ⟨rfl,rfl,rfl,by rw [h4,YbP];rfl,rfl,trivial⟩ ⟨hlt,rfl⟩ (by omega);have gz:j=xss.length:=by omega
 subst gz;rw [Xs];refine QO ?_;exact QT () rfl;rintro _ w2 rfl;refine W ?_;refine CM (Zg rfl rfl) (Zfq _ _ (by omega)) ?_;rintro g w3 hr;refine W ?_;have dH:=hs.up hr.2;refine W ?_;refine LP (σ:=Nat×Value) (λq=>[(6,q.2),(25,v),(26,.I (xss.length:Int)),(27,.I (q.1:Int))]) (λq w'=>q.1<=xss.length/\Zk 40 w2 w' q.2 ((xss.take q.1).flatMap Sl.l)) (λq=>xss.length - q.1) (0,g) ⟨Xr _,by simpa using hr⟩ ?_;clear hr dH;rintro ⟨j,g⟩ w4 ⟨hj,hr⟩;dsimp only at hj hr ⊢;by_cases hlt:j<xss.length;have jV:SlV (ob g) w4 v xss:=hs.ext hr.2 (by simp) (λb hb=>.inr (hr.ob_le b hb).1);obtain ⟨u,am,lO⟩:=jV.sub hlt;have h1:=cH j;have h2:=cH (j+1);have h3:=hstep j hlt;have h4:((xss.take (j+1)).flatMap Sl.l).length=((xss.take j).flatMap Sl.l).length+xss[j].l.length:=by rw [h3,Xa]
 refine QO ?_;apply Z9 (Jp rfl rfl am) rfl;refine QO ?_;refine Z0 (ZZ rfl (by decide) rfl rfl hr lO (by omega) (by simp only [maxLen];omega)) rfl ?_;rintro g' w5 ⟨aO,-,-⟩;refine W ?_;exact QL (j+1,g') ⟨hlt,by dsimp only;rw [h3];exact aO⟩ (by dsimp only;omega);have gz:j=xss.length:=by omega
 subst gz;rw [Xs] at hr;refine QO ?_;refine WR ?_;exact .mk hr
def Z7k (c:Cas):List Dln:=(JE c (Z0m (c.fcts++Z1j c))).map Prod.fst
structure DlJ (w0:World) (b:Nat) (pre:List DI) (F:List Nat) (W:World):Prop where
 ex:∃ nv,F=b :: ob nv/\Blk W b 52 [nv]/\Row [b] W w0.heap.size 45 nv (pre.map Prod.fst)
 stp:Stp [b] w0 W
 lt:b<w0.heap.size
theorem Zfr (w0:World) (b:Nat) (dD:b<w0.heap.size):Yld (.func (.func 51) #[] #[pQ b]) 51 #[pQ b] (DlJ w0 b) (λpre d i=>pre.length<=900000000000):=by
 refine ⟨rfl,?_,?_,?_⟩;rintro pre F Y ⟨⟨nv,rfl,e,ac⟩,hS,hb⟩ x hx;have:=hS.size;simp only [Xc] at hx;rcases hx with rfl|hx
 omega;exact (ac.ob_le x hx).2;rintro pre F Y Y' ⟨⟨nv,rfl,e,ac⟩,hS,hb⟩ hT;exact ⟨⟨nv,rfl,e.up hT,ac.up hT⟩,hS.trans hT.mn,hb⟩;rintro pre F d dv i Y ⟨⟨nv,rfl,e,ac⟩,hS,hb⟩ au fw;have dE:=λx hx=>ac.ob_le x hx;have zS:=hS.size;have eW:=au.one;refine cW3 9 Tryz.func51 ?_;refine W ?_;refine BX (Stp.refl [] Y) λb3 w1 h3 e3 hT _=>?_;replace e3:Blk w1 b3 45 (dlC d dv):=e3;replace e:=e.up hT;replace ac:=ac.up hT;have zT:=hT.size;have iO:SlV (ob nv++[b]) w1 dv d.reas:=au.ext hT (by simp) (λx hx=>by
  rcases Xd.1 hx with h|h
  exact .inl (by simp [h]);exact .inl (by simp at h;simp [h]))
 refine W ?_;refine APG (X:=[b]) (base:=w0.heap.size) (cs:=dlC d dv) d ac (λx hx=>by simp at hx;omega) (by omega) ⟨dv,rfl,iO⟩ (by rw [Xy];exact Xh (Xu _ (show pre.length+1<=900000000001 by omega)) (by decide)) (by rw [Xy];simp only [maxLen];omega) λv1 nv' w2 bK an aJ=>?_
 have eb:b<w1.heap.size:=e.lt;replace e:=e.ext an (λh=>by have:=dE _ h;omega);refine W ?_;have mX:SlV [b] w2 nv' (pre.map Prod.fst++[d]):=bK.slv (λx hx=>by simp at hx;omega);refine Z8 (Zb (u:=nv') rfl rfl mX.cells mX.one e (by simp)) ?_;rintro _ w3 ⟨cF,e⟩;refine W ?_;refine WR ?_;have gE:=λx hx=>bK.ob_le x hx;have mY:Stp (b :: ob nv) w1 w3:=(an.mono (λx hx=>by simp [hx])).trans cF.mn;refine .mk ⟨b :: ob nv',⟨⟨nv',rfl,e,?_⟩,?_,hb⟩,hT.mn.trans mY,λx hx=>?_⟩;rw [XL];exact bK.ext cF (λx hx=>⟨hx,λh=>by have:=gE x h;simp at hx;omega⟩) (λx hx=>.inl hx);exact (hS.trans hT.mn).own mY (λx hx=>by
  rcases Xc.1 hx with rfl|hx
  exact .inl (by simp);exact .inr (dE x hx).1)
 rcases Xc.1 hx with rfl|hx
 exact .inl (by simp);rcases aJ x hx with h|h
 exact .inl (by simp [h]);exact .inr (by omega)
theorem Z7l {c:Cas} (h:Z7O c):(Z1j c).length<=92000000000:=by
 unfold Z1j;rw [(JV _).length_eq];exact (Z2U h (Xl _)).2
theorem Z7m {c:Cas} (h:Z7O c):∀ f∈Z1j c,Z0l f:=λf hf=>(Z2V h 16).2 f ((JV _).mem_iff.1 hf)
theorem ZlV (p q:Option Addr) (l m c d:Nat) (w):(Instr.buildSlice 166 2 #[(0,.slice p l c),(1,.slice q m d)]).run Tryz.prog w=.ok (.slice (some ⟨w.heap.size,0,none⟩) 2 2) (w.alloc (.cells #[.slice p l c,.slice q m d] 23)):=by kernel_rfl
theorem Zbk {α:Type} [Z6 α] {X:List Nat} {w} {v:Value} {xs:List α} (h:SlV X w v xs):∃ p c,v=.slice p xs.length c:=by
 obtain ⟨p,c,h,_⟩:=h;exact ⟨p,c,h⟩
theorem Z7R (c:Cas) (R:Z0o) (w) (hv:Z2R w c R) (hs:Z7O c) :
 CC 13 #[.agg (Jc c R).toArray] w λv w'=>Row [] w' w.heap.size 45 v (Z7k c)/\Stp [] w w':=by
 have cX:=hs.fl;have eT:=Z7l hs;refine cW1 18 Tryz.func13 ?_;refine W ?_;refine BX (Stp.refl [] w) λb1 w1 h1 e1 _ hS=>?_;replace e1:Blk w1 b1 37 (Jc c R):=e1;refine W ?_;refine ZDr 7 [] [] [(0,0),(1,1),(2,1),(3,2),(4,2),(5,2),(6,0)] (λw1 ae=>?_);replace e1:=e1.up ae;replace hS:=hS.trans ae;clear ae;refine D ?_;refine DC (Z8w c R _ (hv.up hS) hs) (λ_ _ h=>h.2) ?_;rintro fv w2 hr;have dx:Z7k c=(JE c (Z0m (c.fcts++Z1j c))).map Prod.fst:=rfl;have lg:=Z7m hs;generalize Z1j c=G at *;have aj:=hS.trans hr.2;replace e1:=e1.up hr.2;have gO:=(hv.up aj).ff;have lu:SlV [] w2 fv (G):=hr.slv (by simp);obtain ⟨p1,c1,iG⟩:=Zbk gO;obtain ⟨p2,c2,kZ⟩:=Zbk lu;rw [iG,kZ];rw [iG] at gO;rw [kZ] at lu;refine Z7 rfl trivial (Z1 (vs:=[(0,.slice p1 c.fcts.length c1),(1,.slice p2 (G).length c2)]) rfl (ZlV _ _ _ _ _ _)) (λ_ _ h=>Za.stp h) rfl ?_;rintro v3 w3 hN;have ij:SlV [] w3 v3 [(⟨c.fcts⟩:Sl Fct),⟨G⟩]:=hN.slvS (by simp) rfl rfl (λi hi ca=>by
  match i,hi with
  | 0,_=>exact gO
  | 1,_=>exact lu) (by simp [maxLen])
 have hT:=Za.stp hN;replace e1:=e1.up hT;have z13:=e1.lt;replace aj:=aj.trans hT;have cj:=Zbj v3 _ w3 ij (by simp) (by simp;omega);rw [show [(⟨c.fcts⟩:Sl Fct),⟨G⟩].flatMap Sl.l=c.fcts++G by simp] at cj;refine DC cj (λ_ _ h=>h.2) ?_;rintro lv w4 hl;refine D ?_;replace e1:=e1.up hl.2;have z1:=e1.lt;replace aj:=aj.trans hl.2;have mw:=λb hb=>hl.ob_le b hb;have z3:=(hS.trans hr.2).size;have z3':=hT.size;clear gO lu hN hT ij cj hr hS;refine W ?_;refine CM (Zg rfl rfl) (Z62 hl.1 (by rw [Xa];omega)) ?_;rintro _ w5 ⟨rfl,nU,dO⟩;have nX:b1∉ob lv:=λh=>by have:=mw _ h;omega
 replace e1:=e1.ext dO nX;have aD:Stp [] w w5:=aj.own dO (λb hb=>.inr (by have:=mw b hb;omega));generalize hL:Z0m (c.fcts++G)=L at *;have sw:L.length<=92000000016:=by rw [<- hL,(JV _).length_eq,Xa];omega
 have nY:∀ f∈L,Z0l f:=λf hf=>by
  rw [<- hL,(JV _).mem_iff] at hf;rcases Xd.1 hf with h|h
  exact hs.fo f h;exact lg f h
 refine W ?_;refine Z0 Z4 rfl ?_;rintro _ w6 ⟨b4,rfl,br,e4,dI⟩;replace e4:Blk w6 b4 52 [.N]:=e4;have z4:=e4.lt;replace e1:=e1.up dI;have cz:=aD.trans dI;have au:SlV [b4] w6 lv L:=SlV.ext (X:=[]) (nU.slv (by simp)) dI (by simp) (λx hx=>.inr (by simp at hx;omega));have g4:w.heap.size<=b4:=by have:=aD.size;omega
 refine W ?_;have eA:=Zb9 (Zfr w6 b4 z4) c R lv L [b4] w6 hs.ok (λY hY=>hv.own cz (B:=[b4]) (by simpa using g4) hY) (λY hY=>au.ext hY (λx hx=>hx) (by simp)) nY (λj hj i hi ht=>by
  have a1:=Z2w c (L.take j);have a2:=Z2v c L[j] i;have a3:=hs.rl;have a4:=Yal (show (L.take j).length<=220000000000 by rw [Xx];omega) a3;rw [Xa];omega) ⟨⟨.N,rfl,e4,Row.nil⟩,Stp.refl _ _,z4⟩
 refine CL eA ?_;rintro _ w7 ⟨F,⟨⟨nv,rfl,e4',ac⟩,aW,-⟩,-,-⟩;refine W ?_;refine WR ?_;refine .mk ⟨?_,cz.ow aW⟩;rw [dx];exact Row.low ac (by have:=cz.size;omega)
open Go Go.Eng Go.RowKit Go.Proofs
theorem ZiI {q:Cr} (h:chkC q=0):Z35 q.cnd=(2,0)/\Z35 q.due=(3,0):=by
 unfold chkC at h;split at h;cases h;rename_i hb;unfold Zqp at hb;simp only [Yax,decide_eq_true_eq,not_or,Decidable.not_not] at hb;obtain ⟨⟨⟨⟨⟨⟨⟨⟨⟨a1,a2⟩,a3⟩,a4⟩,-⟩,-⟩,-⟩,-⟩,-⟩,-⟩:=hb;exact ⟨Prod.ext a3 a1,Prod.ext a4 a2⟩
theorem Z8v.lt {l:List Fct} (h:Z8v l) {i j:Nat} (hi:i<j) (hj:j<l.length):(l[i]'(by omega)).entry<l[j].entry:=by
 have h1:=h i (by omega);have h2:=h j hj;omega
theorem Z8v.nodup {l:List Fct} (h:Z8v l):l.Nodup:=by
 unfold List.Nodup;rw [Yag];intro i j hi hj cW e;have:=h.lt cW hj;rw [e] at this;omega
theorem Z6h.att {c:Cas} (h:Z6h c):Zic c.atts c.crrs:=by
 have eA:=h.al;refine ⟨by omega,λa ha=>?_,λa ha=>(h.ao a ha).crr,λa ha=>?_⟩;have hx:=h.ao a ha;have hl:=hx.len;exact ⟨by omega,λr hr=>(hx.rets r hr).crr,λx hx=>(h.co x hx).tol,λr hr=>⟨(hx.rets r hr).lo.1,(hx.rets r hr).lo.2,(hx.rets r hr).hi.1,(hx.rets r hr).hi.2⟩⟩;have:=(h.ao a ha).sent;omega
theorem Z6h.cas {c:Cas} (h:Z6h c):Z7O c:=by
 have cX:=h.fl;have fm:=h.rl;have au:=h.sl;have qm:=h.court;have vo:=h.today;have hv:∀ q∈c.ruls,Z35 q.cnd=(2,0)/\Z35 q.due=(3,0):=λq hq=>by
  obtain ⟨r,-,hr,rfl⟩:=h.ro q hq;exact ZiI (ZiE r.rul hr).2
 refine ⟨⟨by omega,by omega,λq hq=>(hv q hq).1,λq hq=>(hv q hq).2,h.att,λx hx=>(h.co x hx).ext,⟨by omega,λs hs=>⟨(h.so s hs).lo,(h.so s hs).le,(h.so s hs).hi⟩⟩,by omega,by omega⟩,by omega,fm,λf hf=>(h.fo f hf).ok,h.en.nodup⟩
theorem Zfs (v:Value) (l:List Int) (x:Int) (w) (hs:SlV [] w v l) :
 CC 291 #[v,.I x] w λr w'=>r=.B (decide (x∈l))/\Stp [] w w':=by
 have iE:=hs.max;refine cW2 18 Tryz.func291 ?_;refine W ?_;refine LP (σ:=Nat) (λk=>[(0,v),(1,.I x),(4,.B false),(5,.I (k:Int))]) (λk w'=>k<=l.length/\Stp [] w w'/\∀ j (h:j<l.length),j<k->l[j]≠x) (λk=>l.length - k) 0 ⟨Xr _,Stp.refl _ _,λj _ h=>absurd h (XF _)⟩ ?_;rintro k w2 ⟨hk,hT,hz⟩;have aX:=hs.up hT;by_cases hlt:k<l.length
 (refine QP ?_ ?_<;>intro hc)
 refine RU ?_;exact ⟨by rw [decide_eq_true (hc ▸ Xb hlt)],hT⟩;exact QL (k+1) ⟨hlt,hT,λj h hj=>by
  by_cases e:j=k;subst e;exact hc;exact hz j h (by omega)⟩ (by omega)
 have bg:¬ x∈l:=λh=>by
  obtain ⟨j,hj,e⟩:=XB h;exact hz j hj (by omega) e
 refine RT ?_;exact ⟨by rw [decide_eq_false bg],hT⟩
end Go.Proofs.YtgdicjnjhchooaaGreatDoor
namespace Go.Sim
open Go Go.Eng Go.RowKit Go.Proofs
theorem Z00 {α:Type} {b:Bool} {x:Option α} {y:α} (h:(bif b then x else none)=some y):b=true/\x=some y:=by
 cases b with
 | false=>cases h
 | true=>exact ⟨rfl,h⟩
inductive V where
 | i (k:IntKind) (n:Int)
 | b (x:Bool)
 | s (s:Str)
 | c (v:Value)
 | p (b o:Nat)
 | l (b n:Nat)
 | a (l:List V)
 | t (l:List V)
 | f (g:Nat) (x y:List V)
 | m (b:Nat)
 | q (b o k n:Nat)
 | z (b o n:Nat)
abbrev Lc:=Nat->Nat×Nat
mutual
def ga (L:Lc):V->Value
 | .i k n=>.int k n
 | .b x=>.bool x
 | .s s=>str s
 | .c v=>v
 | .p b o=>.pointer (some ⟨(L b).1,o,none⟩)
 | .l b n=>.slice (some ⟨(L b).1,0,none⟩) n (L b).2
 | .a l=>.agg (gl L l).toArray
 | .t l=>.tuple (gl L l).toArray
 | .f g x y=>.func (.func g) (gl L x).toArray (gl L y).toArray
 | .m b=>.map (some (L b).1)
 | .q b o k n=>.slice (some ⟨(L b).1,bif Nat.beq n 0 && Nat.beq (L b).2 o then 0 else o * k,none⟩) n ((L b).2 - o)
 | .z b o n=>.slice (some ⟨(L b).1,o,none⟩) n n
def gl (L:Lc):List V->List Value
 | []=>[]
 | v :: r=>ga L v :: gl L r
end
mutual
def bd (n:Nat):V->Bool
 | .p b _=>Nat.blt b n
 | .l b _=>Nat.blt b n
 | .m b=>Nat.blt b n
 | .q b _ _ _=>Nat.blt b n
 | .z b _ _=>Nat.blt b n
 | .a l=>bl n l
 | .t l=>bl n l
 | .f _ x y=>bl n x && bl n y
 | _=>true
def bl (n:Nat):List V->Bool
 | []=>true
 | v :: r=>bd n v && bl n r
end
mutual
theorem Z65 {L L':Lc} {n:Nat} (h:∀ k,k<n->L' k=L k):∀ v,bd n v=true->ga L' v=ga L v
 | .i _ _,_=>rfl
 | .b _,_=>rfl
 | .s _,_=>rfl
 | .c _,_=>rfl
 | .p b o,hb=>by simp only [ga];rw [h b (Xj hb)]
 | .l b m,hb=>by simp only [ga];rw [h b (Xj hb)]
 | .m b,hb=>by simp only [ga];rw [h b (Xj hb)]
 | .q b _ _ _,hb=>by simp only [ga];rw [h b (Xj hb)]
 | .z b _ _,hb=>by simp only [ga];rw [h b (Xj hb)]
 | .a l,hb=>by simp only [ga];rw [Z52 h l hb]
 | .t l,hb=>by simp only [ga];rw [Z52 h l hb]
 | .f g x y,hb=>by simp only [bd,Xf] at hb;simp only [ga];rw [Z52 h x hb.1,Z52 h y hb.2]
theorem Z52 {L L':Lc} {n:Nat} (h:∀ k,k<n->L' k=L k):∀ l,bl n l=true->gl L' l=gl L l
 | [],_=>rfl
 | v :: r,hb=>by simp only [bl,Xf] at hb;simp only [gl];rw [Z65 h v hb.1,Z52 h r hb.2]
end
mutual
theorem bd_le {n m:Nat} (h:n<=m):∀ v,bd n v=true->bd m v=true
 | .i _ _,_=>rfl
 | .b _,_=>rfl
 | .s _,_=>rfl
 | .c _,_=>rfl
 | .p b o,hb=>X0 (Xh (Xj hb) h)
 | .l b k,hb=>X0 (Xh (Xj hb) h)
 | .m b,hb=>X0 (Xh (Xj hb) h)
 | .q b _ _ _,hb=>X0 (Xh (Xj hb) h)
 | .z b _ _,hb=>X0 (Xh (Xj hb) h)
 | .a l,hb=>Z66 h l hb
 | .t l,hb=>Z66 h l hb
 | .f g x y,hb=>by simp only [bd,Xf] at hb ⊢;exact ⟨Z66 h x hb.1,Z66 h y hb.2⟩
theorem Z66 {n m:Nat} (h:n<=m):∀ l,bl n l=true->bl m l=true
 | [],_=>rfl
 | v :: r,hb=>by simp only [bl,Xf] at hb ⊢;exact ⟨bd_le h v hb.1,Z66 h r hb.2⟩
end
theorem Jw (L:Lc):∀ l,gl L l=l.map (ga L)
 | []=>rfl
 | v :: r=>by rw [gl,Jw L r];rfl
theorem Jg (L:Lc) (l:List V):(gl L l).length=l.length:=by rw [Jw,Xy]
theorem Z2f (n:Nat):∀ l,bl n l=true↔∀ v∈l,bd n v=true
 | []=>by simp [bl]
 | v :: r=>by simp [bl,Z2f n r]
abbrev AE:=List (Nat×V)
noncomputable def lk {α:Type} (l:List (Nat×α)) (t:Nat):Option α:=List.rec (motive:=λ_=>Option α) none (λp _ ih=>Bool.rec (motive:=λ_=>Option α) ih (some p.2) (Nat.beq p.1 t)) l
abbrev pt {α:Type} (d:Nat) (v:α) (l:List (Nat×α)):List (Nat×α):=(d,v) :: l
def ge (L:Lc) (e:AE):Env:=e.map (λp=>(p.1,ga L p.2))
theorem ZcR {a b:Nat} (h:a≠b):Nat.beq a b=false:=by
 cases hb:Nat.beq a b with
 | false=>rfl
 | true=>exact absurd (Xq hb) h
theorem Zbl (a:Nat):Nat.beq a a=true:=by simp
theorem Z53 {α:Type} (d:Nat) (v:α) (e:List (Nat×α)) (t:Nat):lk ((d,v) :: e) t=if d=t then some v else lk e t:=by
 show Bool.rec (motive:=λ_=>Option α) (lk e t) (some v) (Nat.beq d t)=_;by_cases h:d=t;subst h;rw [Zbl,if_pos rfl];rw [ZcR h,if_neg h]
theorem Z0R (L:Lc):∀ (e:AE) (t:Nat),Eng.look (ge L e) t=(lk e t).map (ga L)
 | [],_=>rfl
 | (k, v) :: r, t => by
   show (bif Nat.beq k t then some (ga L v) else Eng.look (ge L r) t)=_;rw [Z0R L r t];show _=Option.map (ga L) (Bool.rec (motive:=λ_=>Option V) (lk r t) (some v) (Nat.beq k t));cases Nat.beq k t<;>rfl
def ofC:Value->V
 | .int k n=>.i k n
 | .bool b=>.b b
 | .string s=>.s s.data.toList
 | v=>.c v
theorem Z7n (L:Lc) (v:Value):ga L (ofC v)=v:=by cases v<;>rfl
noncomputable def evv (e:AE):Operand->Option V
 | .tmp t=>lk e t
 | .const v=>some (ofC v)
 | .global g=>bif Nat.blt g 64 then some (.p g 0) else none
 | .func f=>some (.f f [] [])
def Gl (L:Lc):Prop:=∀ g,g<64->L g=(g,7)
theorem Zv {L:Lc} (hG:Gl L) {e:AE} {x:Operand} {v:V} (h:evv e x=some v):ev (ge L e) x=some (ga L v):=by
 cases x with
 | tmp t=>show Eng.look _ _=_;rw [Z0R];show Option.map _ (evv e (.tmp t))=_;rw [h];rfl
 | const c=>simp only [evv,Xk] at h;subst h;show some c=_;rw [Z7n]
 | global g=>
   simp only [evv] at h;obtain ⟨hg,h⟩:=Z00 h;simp only [Xk] at h;subst h;show some (pQ g)=_;simp only [ga];rw [hG g (Xj hg)]
 | func f=>simp only [evv,Xk] at h;subst h;rfl
noncomputable def evs (e:AE):List Operand->Option (List V)
 | []=>some []
 | x :: r => match evv e x, evs e r with
   | some v,some l=>some (v :: l)
   | _,_=>none
theorem ZiJ {L:Lc} (hG:Gl L) {e:AE} {n:Nat}:∀ {l:List Operand} {vs:List V},evs e l=some vs->∀ a,Has n (ge L e) a->l.map a.eval=gl L vs
 | [],vs,h,a,ha=>by simp only [evs,Xk] at h;subst h;rfl
 | x :: r, vs, h, a, ha => by
   unfold evs at h;cases hx:evv e x with
   | none=>simp [hx] at h
   | some v=>
     cases hr:evs e r with
     | none=>simp [hx,hr] at h
     | some l=>
       simp only [hx,hr,Xk] at h;subst h;rw [XE,ha.ev (Zv hG hx),ZiJ hG hr a ha];rfl
def isT (P:Program) (t:Nat):Bool:=match P.underlying t with|some .string=>true|_=>false
def isB (P:Program) (t:Nat):Bool:=match P.underlying t with|some .bool=>true|_=>false
theorem Z2X {P:Program} {t:Nat} (h:isT P t=true):Und P t .string:=⟨by
 unfold isT at h;split at h<;>first|assumption|cases h⟩
theorem ZlW {P:Program} {t:Nat} (h:isB P t=true):Und P t .bool:=⟨by
 unfold isB at h;split at h<;>first|assumption|cases h⟩
def isF (P:Program) (t:Nat):Bool:=match P.underlying t with|some (.interface _)=>true|_=>false
theorem Zea {P:Program} {t:Nat} (h:isF P t=true):∃ l,P.underlying t=some (.interface l):=by
 unfold isF at h;split at h;exact ⟨_,by assumption⟩;cases h
def Zbm:Value->Bool
 | .nilIface=>true
 | _=>false
theorem Zbn {v:Value} (h:Zbm v=true):v=.nilIface:=by cases v<;>first|rfl|cases h
def isK:Operand->Bool
 | .const _=>true
 | _=>false
theorem ZiK {P:Program} {n:Nat} {e:Env} {w} {t u ty:TypeId} {x y:Operand} {d:Option Nat} {pos:String} {af:Array Edge} {g:Option (Nat×Bool)} (hu:∃ l,P.underlying t=some (.interface l)) (hx:ev e x=some .nilIface) (hy:ev e y=some .nilIface) (hk:isK y=true) :
 PR P n ⟨d,.binOp .eql t x y u,ty,pos,af,g⟩ e w (.bool true)/\PR P n ⟨d,.binOp .neq t x y u,ty,pos,af,g⟩ e w (.bool false):=by
 obtain ⟨l,hu⟩:=hu;have:=run_equal_nil_nil (P:=P) (w:=w) t (by rw [hu,Program.methodsAt,hu])
 cases y<;>first
  | (cases hk;done)
  | (constructor<;>refine ⟨λa ha=>?_⟩<;>simp only [execOp,ha.ev hx,ha.ev hy]<;>simp [go_sem,binOp,eqGuard,this])
def cut (b:Bool) (v:V):Option V:=bif b then some v else none
theorem Z0r {b:Bool} {v u:V} (h:cut b v=some u):b=true/\v=u:=by
 cases b with
 | false=>cases h
 | true=>exact ⟨rfl,XU h⟩
def keq (k k':IntKind):Bool:=decide (k=k')
def eqF (P:Program):List Field->List V->List V->Option Bool
 | [],_,_=>some true
 | f :: fs, xs, ys => match (P.info? f.type).map (·.size), f.name == "_", P.underlying f.type, xs[f.offset]?, ys[f.offset]?, eqF P fs xs ys with
   | some 1,false,some (.int k),some (.i k1 a),some (.i k2 b),some r=>bif keq k1 k && keq k2 k then some (decide (a=b) && r) else none
   | some 1,false,some .string,some (.s a),some (.s b),some r=>some (decide (a=b) && r)
   | _,_,_,_,_,_=>none
def eqS (P:Program) (t:Nat) (a b:List V):Option Bool:=match P.underlying t with
 | some (.struct fs)=>bif !P.stoodInHeld t && !P.eqGuardType P.depth t then eqF P fs.toList a b else none
 | _=>none
def bin (P:Program) (t:Nat) (k:Bool):BinOp->V->V->Option V
 | .add,.i k a,.i k' b=>cut (keq k k') (.i k (k.wrap (a+b)))
 | .sub,.i k a,.i k' b=>cut (keq k k') (.i k (k.wrap (a - b)))
 | .mul,.i k a,.i k' b=>cut (keq k k') (.i k (k.wrap (a * b)))
 | .quo,.i k a,.i k' b=>cut (keq k k' && decide (b≠0)) (.i k (k.wrap (a.tdiv b)))
 | .rem,.i k a,.i k' b=>cut (keq k k' && decide (b≠0)) (.i k (a.tmod b))
 | .eql,.i k a,.i k' b=>cut (keq k k') (.b (decide (a=b)))
 | .neq,.i k a,.i k' b=>cut (keq k k') (.b (decide (¬ a=b)))
 | .lss,.i k a,.i k' b=>cut (keq k k') (.b (decide (a<b)))
 | .leq,.i k a,.i k' b=>cut (keq k k') (.b (decide (a<=b)))
 | .gtr,.i k a,.i k' b=>cut (keq k k') (.b (decide (b<a)))
 | .geq,.i k a,.i k' b=>cut (keq k k') (.b (decide (b<=a)))
 | .eql,.s a,.s b=>cut (isT P t) (.b (decide (a=b)))
 | .neq,.s a,.s b=>cut (isT P t) (.b (decide (¬ a=b)))
 | .add,.s a,.s b=>cut (isT P t && Nat.ble (a.length+b.length) 9223372036854775807) (.s (a++b))
 | .eql,.b a,.b b=>cut (isB P t) (.b (decide (a=b)))
 | .neq,.b a,.b b=>cut (isB P t) (.b (decide (¬ a=b)))
 | .eql,.a a,.a b=>(eqS P t a b).map .b
 | .neq,.a a,.a b=>(eqS P t a b).map λr=>.b (!r)
 | .lss,.s a,.s b=>cut (isT P t) (.b (Op.bytesLess a b))
 | .gtr,.s a,.s b=>cut (isT P t) (.b (!(Op.bytesLess a b || a == b)))
 | .eql,.c a,.c b=>cut (Zbm a && Zbm b && isF P t && k) (.b true)
 | .neq,.c a,.c b=>cut (Zbm a && Zbm b && isF P t && k) (.b false)
 | _,_,_=>none
theorem Z7o (L:Lc) (l:List V) (i:Nat):(gl L l)[i]?=(l[i]?).map (ga L):=by rw [Jw,Yai]
theorem ZcS {P:Program} (L:Lc) (w) (d:Nat):∀ (fs:List Field) (xs ys:List V) (r:Bool),eqF P fs xs ys=some r->(Op.eqFields (d+1) (gl L xs).toArray (gl L ys).toArray fs).run P w=.ok r w
 | [],_,_,r,h=>by simp only [eqF,Xk] at h;subst h;simp [Op.eqFields]
 | f :: fs, xs, ys, r, h => by
   simp only [eqF] at h;have hp:∀ (zs:List V) (v:V),(P.info? f.type).map (·.size)=some 1->zs[f.offset]?=some v->(∀ D,P.underlying f.type=some D->Z06 D=false)->(∃ D,P.underlying f.type=some D)->(part f.type (gl L zs).toArray f.offset).run P w=.ok (ga L v) w:=λzs v h1 h2 h3 h4=>by
    obtain ⟨D,hD⟩:=h4;have u1:Siz P f.type 1:=⟨h1⟩
    have u2:Und P f.type D:=⟨hD⟩
    have h5:(gl L zs)[f.offset]?=some (ga L v):=by rw [Z7o,h2];rfl
    simp [part,Und.isAgg,h3 D hD,Siz.run,h5]
   split at h;rename_i k k1 a k2 b r' e1 e2 e3 e4 e5 e6;obtain ⟨hk,h'⟩:=Z00 h;simp only [Xf] at hk;have k3:=of_decide_eq_true hk.1;have k4:=of_decide_eq_true hk.2;subst k3 k4;cases h';have q1:=hp xs _ e1 e4 (λD hD=>by rw [e3] at hD;cases hD;rfl) ⟨_,e3⟩;have q2:=hp ys _ e1 e5 (λD hD=>by rw [e3] at hD;cases hD;rfl) ⟨_,e3⟩;have ih:=ZcS L w d fs xs ys r' e6;have e2:f.name ≠ "_" := by simpa using e2
   simp only [Op.eqFields,if_pos e2,Sem.run_bind,q1,q2,Result.andThen_ok,ga,run_equalIn_int w d _ _ _ _ _ e3];by_cases bM:a=b;simp [bM,ih];simp [bM];rename_i a b r' e1 e2 e3 e4 e5 e6;simp only [Xk] at h;subst h;have q1:=hp xs _ e1 e4 (λD hD=>by rw [e3] at hD;cases hD;rfl) ⟨_,e3⟩;have q2:=hp ys _ e1 e5 (λD hD=>by rw [e3] at hD;cases hD;rfl) ⟨_,e3⟩;have ih:=ZcS L w d fs xs ys r' e6;have e2:f.name ≠ "_" := by simpa using e2
   simp only [Op.eqFields,if_pos e2,Sem.run_bind,q1,q2,Result.andThen_ok,ga,run_equalIn_string w d _ _ _ e3];by_cases bM:a=b;simp [bM,ih];simp [bM];cases h
theorem Zqr {P:Program} {t:Nat} {a b:List V} {r:Bool} (L:Lc) (h:eqS P t a b=some r):(∀ op x y w,(eqGuard op t x y (.agg (gl L a).toArray) (.agg (gl L b).toArray)).run P w=.ok () w)/\∀ w,(Op.equal t (.agg (gl L a).toArray) (.agg (gl L b).toArray)).run P w=.ok r w:=by
 unfold eqS at h;split at h;rename_i fs h1;obtain ⟨hc,h⟩:=Z00 h;simp only [Xf,Ya9] at hc;have hf:P.fieldsOf t=fs:=by unfold Program.fieldsOf;rw [h1]
 refine ⟨λop x y w=>?_,λw=>?_⟩;unfold eqGuard;cases op<;>simp [hc.2];have:=run_equalIn_struct (P:=P) w 9999 t (gl L a).toArray (gl L b).toArray (by rw [h1,hf]) hc.1;rw [hf] at this;exact this.trans (ZcS L w _ _ _ _ _ h);cases h
theorem Zqs {P:Program} {n:Nat} {L:Lc} (hG:Gl L) {e:AE} {t:Nat} {op:BinOp} {x y:Operand} {a b v:V} (hx:evv e x=some a) (hy:evv e y=some b) (h:bin P t (isK y) op a b=some v)
 (w) (d:Option Nat) (u ty:TypeId) (pos:String) (af:Array Edge) (g:Option (Nat×Bool)):PR P n ⟨d,.binOp op t x y u,ty,pos,af,g⟩ (ge L e) w (ga L v):=by
 have ex:=Zv hG hx;have ey:=Zv hG hy;unfold bin at h
 split at h<;>first
  | cases h
  | (rw [XN] at h
     obtain ⟨r,h,rfl⟩:=h;obtain ⟨q1,q2⟩:=Zqr L h;exact ⟨λc hc=>by simp only [execOp,hc.ev ex,hc.ev ey];simp [ga,q1,binOp,q2,go_sem]⟩)
  | (obtain ⟨h1, rfl⟩ := Z0r h
     first
      | (have hk : _ = _ := of_decide_eq_true h1
         subst hk;first|exact Zl3 ex ey rfl|exact Zl4 ex ey rfl|exact Zl5 ex ey rfl|exact Zgc ex ey|exact ZbW ex ey|exact ZbU ex ey|exact Zga ex ey|exact ZbV ex ey|exact Zgb ex ey)
      | (simp only [Xf] at h1
         obtain ⟨h1,h2⟩:=h1;have hk:_=_:=of_decide_eq_true h1;subst hk;first|exact Zl7 ex ey (of_decide_eq_true h2) rfl|exact Zl6 ex ey (of_decide_eq_true h2) rfl)
      | (have := Z2X h1
         first|exact Zdt ex ey|exact Zdu ex ey|exact ⟨λc hc=>by simp only [execOp,hc.ev ex,hc.ev ey];simp [ga,go_sem,binOp,Op.stringOp]⟩)
      | (simp only [Xf] at h1
         obtain ⟨⟨⟨h1,h2⟩,h3⟩,h4⟩:=h1;have ha:=Zbn h1;have hb:=Zbn h2;subst ha hb;first|exact (ZiK (Zea h3) ex ey h4).1|exact (ZiK (Zea h3) ex ey h4).2)
      | (have := ZlW h1
         first|exact Zdp ex ey|exact Z8J ex ey)
      | (simp only [Xf] at h1
         obtain ⟨h1,h2⟩:=h1;have:=Z2X h1;exact Z8S ex ey (Xj h2)))
end Go.Sim
