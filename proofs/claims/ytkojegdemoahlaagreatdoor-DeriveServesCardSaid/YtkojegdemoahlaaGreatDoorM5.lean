/-
Contracts and plain laws, merged out of own texts.
-/
import Derived.Test.YtkojegdemoahlaaGreatDoorM4
import Derived.ChangeKeysEq
import Derived.Lib.IndexMore
set_option linter.unusedVariables false
set_option linter.unusedSimpArgs false
set_option maxHeartbeats 4000000
set_option maxRecDepth 20000
namespace Go.Proofs.YtkojegdemoahlaaGreatDoor
open Go Go.Eng Go.RowKit
theorem Z2b {o:Int->Bool} {ev:List Int} {C:List Ins} {t:Int} (bJ:Z9i ev) {sh:List (Option Shp)} (am:sh.length=C.length) (bT:∀ i,i<C.length->∃ s nx,Z8j C sh i s nx) (cw:sh.getD (C.length - 1) none=some [t]) :
 ∀ (f i:Nat) (s:Shp) (st:List Int) (sp sp':List Spn) (v:Int),i<C.length->sh.getD i none=some s->Jv s st->C.length<=f+i->Z3h o ev C f i st sp=(v,sp',0)->vOk t v
 | 0,i,s,st,sp,sp',v,hi,hs,ax,hf,hr=>by omega
 | f + 1, i, s, st, sp, sp', v, hi, hs, ax, hf, hr => by
   obtain ⟨s',nx,hg⟩:=bT i hi;obtain rfl:s'=s:=by have:=hg.at_;rw [hs] at this;simpa using this.symm
   rw [Z3h] at hr;have hn:=hg.next;have hstop:=hg.stop;have gK:=hg.jump;have o5:=hg.on;generalize C.getD i ⟨0,0⟩=x at *
   try dsimp only at hr
   by_cases bI:x.op=24;rw [if_pos bI] at hr;obtain ⟨a1,a2⟩:=hstop bI;rw [show i=C.length - 1 by omega,cw] at hs;obtain rfl:[t]=s':=by simpa using hs
   obtain ⟨u,rfl,hu⟩:=ax.one_inv;simp [Jd] at hr;rw [<- hr.1];exact hu;rw [if_neg bI] at hr;by_cases bH:x.op=13;rw [if_pos bH] at hr;obtain ⟨j1,j2,j3⟩:=gK (.inl bH);have cB:=Zev bH hn;subst cB;exact Z2b bJ am bT cw f x.n.toNat _ st sp sp' v (by omega) j3 ax (by omega) hr;rw [if_neg bH] at hr;by_cases ce:x.op=14;rw [if_pos ce] at hr;obtain ⟨j1,j2,j3⟩:=gK (.inr ce);obtain ⟨o1,o2⟩:=o5 bI bH;have cB:=Zew ce hn;have fj:Jv nx st.dropLast:=by
    rw [cB,YaG,YaG,<- ax.1];exact ax.take _
   by_cases hb:Jd st 0=0;rw [if_pos hb] at hr;exact Z2b bJ am bT cw f _ _ _ sp sp' v (by omega) j3 fj (by omega) hr;rw [if_neg hb] at hr;exact Z2b bJ am bT cw f _ _ _ sp sp' v (by omega) o2 fj (by omega) hr;rw [if_neg ce] at hr;obtain ⟨o1,o2⟩:=o5 bI bH;by_cases he:(Ji o ev x (Jd st 1) (Jd st 0)).2=0;rw [if_pos he] at hr;exact Z2b bJ am bT cw f _ _ _ _ sp' v (by omega) o2 (Z80 bJ hn bI bH ce ax he) (by omega) hr;rw [if_neg he] at hr;simp only [XG] at hr;exact absurd hr.2.2 he
theorem Z9A {o:Int->Bool} {ev:List Int} {C:List Ins} {t:Int} (bJ:Z9i ev) (hv:Z1Y C=(t,0)) (h:(ZZ o ev C).2.2=0):vOk t (ZZ o ev C).1:=by
 obtain ⟨h0,mT,sh,am,aY,eI,ir,j6,bT⟩:=Z5e hv;exact Z2b bJ am bT j6 C.length 0 [] [] [] _ _ h0 ir Jv.nil (by omega) (show ZZ o ev C=((ZZ o ev C).1,(ZZ o ev C).2.1,0) by rw [<- h])
theorem Z5f {o:Int->Bool} {ev:List Int} {C:List Ins} {t:Int} (hv:Z1Y C=(t,0)):(ZZ o ev C).2.1.length<=200:=by
 obtain ⟨h0,mT,_⟩:=Z5e hv;have:=Z3v o ev C C.length 0 [] [];unfold ZZ;simp only [Xr] at this;omega
def Z65 (s:AlS):Prop:=∀ y∈s.out,-1<=y.2/\y.2<=3652058
theorem Zez {l:List Rtn} {crrs:List Crr} {s:AlS} {x:Spn} (h:Z65 s) (hx:-1<=x.2/\x.2<=3652058):Z65 (Js l crrs s x):=by
 unfold Js;dsimp only;split;exact h;have ht:Z65 (if Jz l crrs x.1<s.least then (⟨Jz l crrs x.1,false,[]⟩:AlS) else s):=by
  split;intro y hy;cases hy;exact h
 generalize (if Jz l crrs x.1<s.least then (⟨Jz l crrs x.1,false,[]⟩:AlS) else s)=t at *;split;rename_i y hy;split;intro z hz;rcases Xg.1 hz with hz|hz
 exact ht z (List.dropLast_subset _ hz);simp only [Xw] at hz;subst hz;exact hx;intro z hz;rcases Xg.1 hz with hz|hz
 exact ht z hz;simp only [Xw] at hz;subst hz;exact hx;intro z hz;rcases Xg.1 hz with hz|hz
 exact ht z hz;simp only [Xw] at hz;subst hz;exact hx
theorem Z8n {l:List Rtn} {crrs:List Crr}:∀ (L:List Spn) (s:AlS),Z65 s->(∀ x∈L,-1<=x.2/\x.2<=3652058)->Z65 (L.foldl (Js l crrs) s)
 | [],_,h,_=>h
 | x :: L,s,h,hL=>Z8n L _ (Zez h (hL x (by simp))) (λy hy=>hL y (by simp [hy]))
theorem ZeA (l:List Rtn) (crrs:List Crr) {sent:Int} (hs:0<=sent/\sent<=3652058):-1<=(Z1A l crrs sent).1/\(Z1A l crrs sent).1<=3652058:=by
 unfold Z1A;have ho:Z65 (Z6Z l crrs sent):=Z8n _ _ (λy hy=>by cases hy) (λx hx=>⟨(Z58 hs hx).2.2.1,(Z58 hs hx).2.2.2⟩);dsimp only;split;simp;split;rename_i y hy;exact ho y (List.mem_of_getLast? hy);simp
theorem ZaC (l:List Atp) (crrs:List Crr) (en pa:Int):∀ (k:Nat),k<=l.length->∀ s∈ofG l crrs en pa k,∃ j,∃ h:j<l.length,s=ofE crrs l[j] j
 | 0,_,s,h=>by simp [ofG] at h
 | k + 1, hk, s, h => by
   rw [ofG] at h;rcases Xg.1 h with h|h
   exact ZaC l crrs en pa k (by omega) s h;split at h;simp only [Xw] at h;exact ⟨k,by omega,by rw [h];simp [show k<l.length by omega]⟩;cases h
theorem Z66 (l:List Svc):∀ k,k<l.length->Z0Z l k∈l
 | 0,h=>by simp [Z0Z,h]
 | k + 1, h => by
   rw [Z0Z];split;simp [h];exact Z66 l k (by omega)
theorem ZhL {l:List Atp} {crrs:List Crr} (en pa:Int) (ho:ZlS l crrs) (hx:∀ x∈crrs,0<=x.extra/\x.extra<=1000) :
 -1<=(Z2W l crrs en pa).1.day/\(Z2W l crrs en pa).1.day<=3652058/\0<=(Z2W l crrs en pa).1.extra/\(Z2W l crrs en pa).1.extra<=1000:=by
 have hm:=ZaC l crrs en pa l.length (Xm _);show -1<=(Z2F (ofG l crrs en pa l.length)).1.day/\(Z2F (ofG l crrs en pa l.length)).1.day<=3652058/\0<=(Z2F (ofG l crrs en pa l.length)).1.extra/\(Z2F (ofG l crrs en pa l.length)).1.extra<=1000;generalize ofG l crrs en pa l.length=L at *;unfold Z2F;split;simp;rename_i dp;obtain ⟨j,hj,e⟩:=hm _ (Z66 L (L.length - 1) (by have:=YbB.2 dp;omega));dsimp only;rw [e];have hs:=ZeA l[j].rets crrs (ho.sent _ (Xc hj));have hc:=ho.crr _ (Xc hj);obtain ⟨m,hm⟩:∃ m:Nat,l[j].crr=m:=⟨l[j].crr.toNat,by omega⟩
 have gW:m<crrs.length:=by omega
 have iV:=hx _ (Xc gW);simp only [ofE,hm];rw [show crrs.getD ((m:Int).toNat) ⟨0,0⟩=crrs[m] by simp [gW]];omega
theorem Zm0 {c:Cas} {f:Fct} (ho:Zex c) (hf:Zey f):Z9i (evL c f):=by
 have h:=ZhL f.entry f.to_ ho.att ho.ext;have h1:=hf.day;have h2:=hf.by_;have h3:=hf.to_;have h4:=hf.amt;have h5:=ho.court;unfold evL;dsimp only;generalize Z2W c.atts c.crrs f.entry f.to_=s at *;refine ⟨rfl,h1,?_,?_⟩;show -1<=(if s.2=true then s.1.day else -1)/\(if s.2=true then s.1.day else -1)<=3652058;split<;>omega
 intro i dY mI;obtain rfl|rfl|rfl|rfl|rfl:i=2\/i=3\/i=4\/i=5\/i=6:=by omega
 show -2147483647<=(if s.2=true then s.1.extra else 0)/\(if s.2=true then s.1.extra else 0)<=2147483647;split<;>omega
 show -2147483647<=f.by_/\f.by_<=2147483647;omega;show -2147483647<=f.to_/\f.to_<=2147483647;omega;show -2147483647<=c.court/\c.court<=2147483647;omega;exact h4
theorem Z13 (w):(Instr.build 69 #[]).run Tryz.prog w=.ok (.agg (dlC (default:Dln) Z0h).toArray) w:=by kernel_rfl
theorem Z14:∀ u∈dlC (default:Dln) Z0h,u.oneCell'=true:=by decide
theorem ZhM (ev:List Int):∀ u∈evC ev,u.oneCell'=true:=by
 intro u hu;unfold evC at hu;simp only [Xd,Xp,or_false] at hu;rcases hu with rfl|rfl|rfl|rfl|rfl|rfl|rfl<;>rfl
theorem ZhN (s:Str) (f:Fct) (a b:Int) (w):(Instr.build 69 #[(0,str s),(1,aG f),(2,.I a),(3,.I b)]).run Tryz.prog w=.ok (.agg (dlC (⟨s,f,a,b,0,[]⟩:Dln) Z0h).toArray) w:=by kernel_rfl
theorem ZeB (a b:Int) (w):(Instr.build 123 #[(0,.I a),(1,.I b)]).run Tryz.prog w=.ok (.agg (Z2.enc ((a,b):Spn)).toArray) w:=by kernel_rfl
theorem Z78 (d:Dln) {rv:Value} (h:rv.oneCell'=true):∀ u∈dlC d rv,u.oneCell'=true:=by
 intro u hu;simp only [dlC,Xd,Xp,or_false] at hu;rcases hu with rfl|rfl|rfl|rfl|rfl|rfl|rfl|rfl|rfl|rfl|rfl<;>first|rfl|assumption
theorem Nte.up {w0 w w':World} {bd:Nat} {d:Dln} {rv:Value} (h:Nte w0 bd w d rv) (hT:Stp [] w w'):Nte w0 bd w' d rv:=⟨h.blk.up hT,h.row.up hT,h.stp.trans hT.mn,h.lt,h.len⟩
theorem Nte.stat {w0 w w':World} {bd:Nat} {d d':Dln} {rv:Value} (h:Nte w0 bd w d rv) (hT:Stp [bd] w w') (hb:Blk w' bd 69 (dlC d' rv)) (he:d'.reas=d.reas):Nte w0 bd w' d' rv:=
 ⟨hb,by rw [he];exact h.row.ext hT (λb bQ=>⟨bQ,λh2=>by have:=(h.row.ob_le b h2).1;have:=h.lt;simp at bQ;omega⟩) (λb hb=>.inl hb),h.stp.trans hT,h.lt,by rw [he];exact h.len⟩
abbrev dU (q:Cr) (f:Fct) (due st:Int) (l:List Rsn):Dln:=⟨q.name,f,f.to_,due,st,l⟩
theorem ZhO (c:Cas) (R:Z5B) (f:Fct) (r:Int) (w) (hv:Z8m w c R) (ho:Zex c) (hf:Zey f) (hr:I64 r) :
 CC 12 #[.agg (Z1j c R).toArray,aG f,.I r] w λv w'=>∃ rv,v=.tuple #[.agg (dlC (Z3w c f r).1 rv).toArray,.B (Z3w c f r).2]/\ZE 73 w w' rv (Z3w c f r).1.reas:=by
 generalize az:Z3w c f r=o;have dO:=ho.rl;refine cW3 246 Tryz.func12 ?_;refine W ?_;refine BX (Stp.refl [] w) λb3 w1 h3 e3 _ hS=>?_;replace e3:Blk w1 b3 50 (Z1j c R):=e3;refine BX hS λb4 w2 h4 e4 hT hS=>?_;replace e4:Blk w2 b4 54 (Z2.enc f):=e4;replace e3:=e3.up hT;refine W ?_;refine Z0 Z4 rfl ?_;rintro _ w3 ⟨b6,rfl,eo,e6,hT⟩;have g6:w.heap.size<=b6:=Xl hS.size eo;replace e6:Blk w3 b6 69 (dlC (default:Dln) Z0h):=e6;replace e3:=e3.up hT;replace e4:=e4.up hT;replace hS:=hS.trans hT;clear hT;have o6:=hv.up hS;have fQ:=o6.rr;refine W ?_;refine CP hS (Z0k _ _ _ _) λw4 hT hS=>?_;replace e3:=e3.up hT;replace e4:=e4.up hT;replace e6:=e6.up hT;clear hT o6 fQ;by_cases hw:0<=r/\r<=(c.ruls.length:Int) - 1
 rotate_left
 rw [Z3w,if_pos hw] at az;rw [decide_eq_false hw];refine QO ?_;refine Z9 (vs:=[]) rfl Z13 rfl ?_;refine SB (us:=dlC (default:Dln) Z0h) Z14 e6 ?_;rintro _ wz ⟨hT,e6⟩;refine W ?_;refine ZY rfl rfl rfl e6 rfl rfl ?_;subst az;exact .mk ⟨Z0h,rfl,ZE.nil.up (hS.ow hT)⟩;rw [Z3w,if_neg (not_not_intro hw)] at az;rw [decide_eq_true hw];obtain ⟨i,rfl⟩:∃ i:Nat,r=i:=⟨r.toNat,by omega⟩
 have hi:i<c.ruls.length:=by omega
 rw [show c.ruls.getD ((i:Int).toNat) crZ=c.ruls[i] by simp [hi]] at az;dsimp only at az;have ii:=(ho.cnd _ (Xc hi))
 have mU:=(ho.due _ (Xc hi))
 have iu:=hv.up hS;have fQ:=iu.rr;obtain ⟨cs,⟨kc,kd,rfl,gc,gd⟩,ak⟩:=hv.rr.cell hi;refine QO ?_;refine Z7 (Z25 rfl rfl fQ hi ⟨kc,kd,rfl,gc.up hS,gd.up hS⟩ (λj u hu=>hS.cell0 (ak j u hu))) rfl ?_;refine Z0 Z4 rfl ?_;rintro _ w5 ⟨b8,rfl,d5,e8,hT⟩;refine SB (us:=crC c.ruls[i] kc kd) (Z4C gc gd) e8 ?_;rintro _ w6 ⟨aK,e8⟩;replace hT:=hT.ow aK;replace e3:=e3.up hT;replace e4:=e4.up hT;replace e6:=e6.up hT;replace hS:=hS.trans hT;clear hT aK ak fQ iu;generalize hq:c.ruls[i]=q at *;have fQ:=(hv.up hS).rr;have l8:=e8.lt
 (refine QP ?_ ?_<;>intro hg)
 rw [if_pos (.inl (by assumption))] at az;refine Z9 (vs:=[]) rfl Z13 rfl ?_;refine SB (us:=dlC (default:Dln) Z0h) Z14 e6 ?_;rintro _ wz ⟨hT,e6⟩;refine W ?_;refine ZY rfl rfl rfl e6 rfl rfl ?_;subst az;exact .mk ⟨Z0h,rfl,ZE.nil.up (hS.ow hT)⟩;refine CP hS (Z81 R.rv c.ruls q.name f.day _ fQ) λw7 hT hS=>?_;replace e3:=e3.up hT;replace e4:=e4.up hT;replace e6:=e6.up hT;replace e8:=e8.up hT;clear fQ;by_cases ha:ZdS c.ruls q.name f.day=i
 rotate_left
 rw [if_pos (.inr ha)] at az;refine QO ?_;refine Z9 (vs:=[]) rfl Z13 rfl ?_;refine SB (us:=dlC (default:Dln) Z0h) Z14 e6 ?_;rintro _ wz ⟨hT,e6⟩;refine W ?_;refine ZY rfl rfl rfl e6 rfl rfl ?_;subst az;exact .mk ⟨Z0h,rfl,ZE.nil.up (hS.ow hT)⟩;rw [if_neg (λh=>h.elim (λh=>absurd h (by assumption)) (λh=>h ha))] at az;refine QO ?_;refine Z9 (vs:=[(0,.I f.day),(1,.I (-1)),(3,.I f.by_),(4,.I f.to_),(5,.I c.court),(6,.I f.amt)]) rfl (ZbD _ _ _ _ _) rfl ?_;refine Z0 Z4 rfl ?_;have l3:=e3.lt;have l4:=e4.lt;have l6:=e6.lt;have l8':=e8.lt;rintro _ w8 ⟨b9,rfl,gG,e9,hT⟩;have g9:w.heap.size<=b9:=Xl hS.size gG;refine SB (us:=evC [f.day,-1,0,f.by_,f.to_,c.court,f.amt]) (ZhM _) e9 ?_;rintro _ w9 ⟨aK,e9⟩;replace hT:=hT.ow aK;replace e3:=e3.up hT;replace e4:=e4.up hT;replace e6:=e6.up hT;replace e8:=e8.up hT;replace hS:=hS.trans hT;clear hT aK;have mV:=hv.up hS;refine QO ?_;refine CP hS (ZlT R.av R.cv c.atts c.crrs f.entry f.to_ _ mV.aa mV.cc ho.att) λw10 hT hS=>?_;replace e3:=e3.up hT;replace e4:=e4.up hT;replace e6:=e6.up hT;replace e8:=e8.up hT;replace e9:=e9.up hT;clear hT mV;have l9:=e9.lt;generalize cd:Z2W c.atts c.crrs f.entry f.to_=s at *;obtain ⟨s,ok⟩:=s;refine QO ?_;refine Z0 Z4 rfl ?_;rintro _ w11 ⟨b10,rfl,jQ,e10,hT⟩;refine SA (us:=Z2.enc s) e10 ?_;rintro _ w12 ⟨aK,e10⟩;replace hT:=hT.ow aK;replace e3:=e3.up hT;replace e4:=e4.up hT;replace e6:=e6.up hT;replace e8:=e8.up hT;replace e9:=e9.up hT;replace hS:=hS.trans hT;clear hT aK;refine W ?_;have e9':=e9
 refine Z0v (σ:=Unit) (λ_=>[(2,.I (i:Int)),(3,pQ b3),(4,pQ b4),(6,pQ b6),(8,pQ b8),(9,pQ b9),(10,pQ b10),(11,.B ok)])
  (λ_ w'=>Stp [b9] w12 w'/\Blk w' b9 112 (evC (evL c f))) ?_ ?_
 have mW:evL c f=[f.day,if ok=true then s.day else -1,if ok=true then s.extra else 0,f.by_,f.to_,c.court,f.amt]:=by
  unfold evL;rw [cd]
 rw [mW]
 (refine QP ?_ ?_<;>intro hc)
 refine ZDr 8 [b9] [] [(0,0),(1,1),(2,0),(3,1),(4,0),(5,2),(6,0),(7,2)] (λw1 ae=>?_);replace e9:=e9.up ae;replace e10:=e10.up ae;have c10:_=some (Value.int .i64 s.day):=e10.cell (j:=0) rfl;have c11:_=some (Value.int .i64 s.extra):=e10.cell (j:=1) rfl;focus repeat'(first|refine D1 ?_|omega|refine Z0y rfl (by first|exact trivial|exact rfl) rfl rfl (by assumption) rfl ?_|refine Z8 rfl rfl rfl rfl (λhg=>?_) (λhg=>?_)|(refine Z6 rfl rfl rfl rfl (λhg=>?_) (λhg=>?_)<;>refine D1 ?_)|fail)
 refine Z2i rfl trivial (Zj rfl rfl rfl rfl e9 (by simp [evC])) (λ_ _ h=>h.1) ?_;rintro _ w13 ⟨hT,e9⟩;focus repeat'(first|refine D1 ?_|omega|refine Z0y rfl (by first|exact trivial|exact rfl) rfl rfl (by assumption) rfl ?_|refine Z8 rfl rfl rfl rfl (λhg=>?_) (λhg=>?_)|(refine Z6 rfl rfl rfl rfl (λhg=>?_) (λhg=>?_)<;>refine D1 ?_)|fail)
 refine Z2i rfl trivial (Zj rfl rfl rfl rfl e9 (by simp [evC])) (λ_ _ h=>h.1) ?_;rintro _ w14 ⟨aK,e9⟩;focus repeat'(first|refine D1 ?_|omega|refine Z0y rfl (by first|exact trivial|exact rfl) rfl rfl (by assumption) rfl ?_|refine Z8 rfl rfl rfl rfl (λhg=>?_) (λhg=>?_)|(refine Z6 rfl rfl rfl rfl (λhg=>?_) (λhg=>?_)<;>refine D1 ?_)|fail)
 exact QT () ⟨(ae.mn.own hT (λc hc=>.inl hc)).own aK (λc hc=>.inl hc),by rw [show ok=true by assumption];exact e9⟩;rw [show ok=false by simpa using ‹_›];exact QT () ⟨Stp.refl _ _,e9⟩;rintro _ w13 ⟨hT,e9⟩;replace e3:=e3.ext hT (by simp;omega);replace e4:=e4.ext hT (by simp;omega);replace e6:=e6.ext hT (by simp;omega);replace e8:=e8.ext hT (by simp;omega);replace e10:=e10.ext hT (by simp;omega);replace hS:=hS.ow hT;clear hT;have bJ:=Zm0 ho hf;have eu:=hv.up hS;have l3:=e3.lt;have l4:=e4.lt;have l6:=e6.lt;have l8:=e8.lt;have l10:=e10.lt;rw [show opn c=Zk c.cal c.today from rfl] at az;have bF:=hS;have f3:=e3;have f4:=e4;have f6:=e6;have f8:=e8;have f10:=e10;refine W ?_;refine Z7 (Zy rfl rfl e3 (us:=Jq c.cal R.hv R.lv R.zo R.zs R.hr) rfl rfl) rfl ?_;refine W ?_;refine CL (Z8l kc q.cnd 2 c.today (evL c f) c.cal R.hv R.lv R.zo R.zs R.hr _ (gc.up hS) ii eu.cal bJ eu.one) ?_;rintro _ w14 ⟨pv,rfl,dD⟩;have rR:=Z5f (o:=Zk c.cal c.today) (ev:=evL c f) ii;generalize ZZ (Zk c.cal c.today) (evL c f) q.cnd=x at *;obtain ⟨x1,xs,xe⟩:=x;dsimp only at az dD rR ⊢;have hT:=dD.2;replace e3:=e3.up hT;replace e4:=e4.up hT;replace e6:=e6.up hT;replace e8:=e8.up hT;replace e9:=e9.up hT;replace e10:=e10.up hT;replace hS:=hS.trans hT;clear hT eu;by_cases jt:xe=0
 rotate_left
 rw [if_pos (.inl jt)] at az;refine QO ?_;refine Z9 (vs:=[]) rfl Z13 rfl ?_;refine SB (us:=dlC (default:Dln) Z0h) Z14 e6 ?_;rintro _ wz ⟨hT,e6⟩;refine W ?_;refine ZY rfl rfl rfl e6 rfl rfl ?_;subst az;exact .mk ⟨Z0h,rfl,ZE.nil.up (hS.ow hT)⟩;by_cases lT:x1=0;rw [if_pos (.inr lT)] at az;refine QO ?_;refine Z9 (vs:=[]) rfl Z13 rfl ?_;refine SB (us:=dlC (default:Dln) Z0h) Z14 e6 ?_;rintro _ wz ⟨hT,e6⟩;refine W ?_;refine ZY rfl rfl rfl e6 rfl rfl ?_;subst az;exact .mk ⟨Z0h,rfl,ZE.nil.up (hS.ow hT)⟩;rw [if_neg (λh=>h.elim (λh=>h jt) (λh=>lT h))] at az;have eu:=hv.up hS;refine QO ?_;refine Z7 (Zy rfl rfl e3 (us:=Jq c.cal R.hv R.lv R.zo R.zs R.hr) rfl rfl) rfl ?_;refine W ?_;refine CL (Z8l kd q.due 3 c.today (evL c f) c.cal R.hv R.lv R.zo R.zs R.hr _ (gd.up hS) mU eu.cal bJ eu.one) ?_;rintro _ w15 ⟨pw,rfl,cM⟩;have cQ:=Z5f (o:=Zk c.cal c.today) (ev:=evL c f) mU;have o7:=Z9A (o:=Zk c.cal c.today) bJ mU;generalize ZZ (Zk c.cal c.today) (evL c f) q.due=y at *;obtain ⟨y1,ys,ye⟩:=y;dsimp only at az cM cQ o7 ⊢;have bZ:SlV (ob pv) w15 pw ys:=cM.slv (λb hb=>(dD.ob_le b hb).2);have hT:=cM.2;replace e3:=e3.up hT;replace e4:=e4.up hT;replace e6:=e6.up hT;replace e8:=e8.up hT;replace e9:=e9.up hT;replace e10:=e10.up hT;replace dD:=dD.up hT;replace hS:=hS.trans hT;clear hT eu cM;by_cases mX:ye=0
 rotate_left
 rw [if_pos mX] at az;refine QO ?_;refine Z9 (vs:=[]) rfl Z13 rfl ?_;refine SB (us:=dlC (default:Dln) Z0h) Z14 e6 ?_;rintro _ wz ⟨hT,e6⟩;refine W ?_;refine ZY rfl rfl rfl e6 rfl rfl ?_;subst az;exact .mk ⟨Z0h,rfl,ZE.nil.up (hS.ow hT)⟩;rw [if_neg (not_not_intro mX)] at az;have rf:0<=y1/\y1<=3652058:=by
  rcases o7 mX with h|h|h
  omega;omega;exact h.2
 have eu:=hv.up hS;have iq:=hf.day;refine QO ?_;refine CP hS (Z55 f.day y1 R.sv c.stys _ eu.ss ho.sty (by omega) (by omega)) λw16 hT hS=>?_
 replace e3:=e3.up hT;replace e4:=e4.up hT;replace e6:=e6.up hT;replace e8:=e8.up hT;replace e9:=e9.up hT;replace e10:=e10.up hT;replace dD:=dD.up hT;replace bZ:=bZ.up hT;clear hT eu;generalize Z54 f.day y1 c.stys=z at *;obtain ⟨z1,ze⟩:=z;dsimp only at az ⊢;by_cases o8:ze=0
 rotate_left
 rw [if_pos o8] at az;refine QO ?_;refine Z9 (vs:=[]) rfl Z13 rfl ?_;refine SB (us:=dlC (default:Dln) Z0h) Z14 e6 ?_;rintro _ wz ⟨hT,e6⟩;refine W ?_;refine ZY rfl rfl rfl e6 rfl rfl ?_;subst az;exact .mk ⟨Z0h,rfl,ZE.nil.up (hS.ow hT)⟩;rw [if_neg (not_not_intro o8)] at az;refine QO ?_;refine Z0 (Z37 (β:=Spn) rfl (by decide) rfl rfl dD bZ (Xl (Xt _ (show xs.length+ys.length<=400 by omega)) (by decide)) (by simp only [maxLen];omega)) rfl ?_;rintro pu w17 ⟨hr,-,-⟩;clear dD bZ e3 e4 e6 e8 e9 e10 hS;have kN:(xs++ys).length<=400:=by rw [Xe];omega
 refine W ?_
 refine Z0v (σ:=Int×Value×List Spn) (λq=>[(2,.I (i:Int)),(3,pQ b3),(4,pQ b4),(6,pQ b6),(8,pQ b8),(10,pQ b10),(11,.B ok),(13,q.2.1),(15,.I y1),(17,.I q.1)])
  (λp w'=>ZE 123 w13 w' p.2.1 p.2.2/\p.2.2.length<=1000/\(mkD c f i q y1 p.1 p.2.2,true)=o) ?_ ?_
 by_cases mY:z1=y1;rw [if_pos mY] at az;refine QO ?_;exact QT (z1,pu,xs++ys) ⟨hr,by dsimp only;omega,by rw [mY];exact az⟩
 . rw [if_neg mY] at az
   have e3:=f3.up hr.2;have e6:=f6.up hr.2;have hS:=bF.trans hr.2;have eu:=hv.up hS;refine QO ?_;refine Z7 (Zy rfl rfl e3 (us:=Jq c.cal R.hv R.lv R.zo R.zs R.hr) rfl rfl) rfl ?_;refine W ?_;refine CP hS (Z3X z1 c.today c.cal R.hv R.lv R.zo R.zs R.hr _ eu.cal) λw18 hT hS=>?_;replace e3:=e3.up hT;replace e6:=e6.up hT;replace hr:=hr.up hT;clear hT eu;generalize ZR (Zk c.cal c.today) 1 z1=nn at *;obtain ⟨n1,ne⟩:=nn;dsimp only at az ⊢;by_cases dp:ne=0
   rotate_left
   rw [if_pos dp] at az;refine QO ?_;refine Z9 (vs:=[]) rfl Z13 rfl ?_;refine SB (us:=dlC (default:Dln) Z0h) Z14 e6 ?_;rintro _ wz ⟨hT,e6⟩;refine W ?_;refine ZY rfl rfl rfl e6 rfl rfl ?_;subst az;exact .mk ⟨Z0h,rfl,ZE.nil.up (hS.ow hT)⟩;rw [if_neg (not_not_intro dp)] at az;refine QO ?_;refine Z9 (vs:=[(0,.I z1),(1,.I n1)]) rfl (ZeB _ _) rfl ?_;refine AP1 ((z1,n1):Spn) hr (by omega) λv1 v' w' aV _=>?_
   refine W ?_;exact Zt (n1,v',xs++ys++[(z1,n1)]) ⟨rfl,rfl,rfl,rfl,rfl,rfl,rfl,rfl,rfl,rfl,trivial⟩ ⟨aV,by simp only [Xe,Xo,Xr] at kN ⊢;omega,az⟩
 clear az hr kN;rintro ⟨due,sv,sp⟩ w18 ⟨hr,db,az⟩;dsimp only at hr db az ⊢;subst az;have e3:=f3.up hr.2;have e4:=f4.up hr.2;have e6:=f6.up hr.2;have e8:=f8.up hr.2;have e10:=f10.up hr.2;have hS:=bF.trans hr.2;have fB:SlV [] w18 sv sp:=hr.slv (by simp);clear hr f3 f4 f6 f8 f10 bF;refine W ?_;refine Z9 (vs:=[(0,str q.name),(1,aG f),(2,.I f.to_),(3,.I due)]) rfl (ZhN _ _ _ _) rfl ?_;refine Z0 Z4 rfl ?_;rintro _ w19 ⟨b19,rfl,mZ,e19,hT⟩;refine SB (us:=dlC (⟨q.name,f,f.to_,due,0,[]⟩:Dln) Z0h) (Z78 _ rfl) e19 ?_;rintro _ w20 ⟨aK,e19⟩;replace hT:=hT.ow aK;have l3:=e3.lt;have l4:=e4.lt;have l6:=e6.lt;have l8:=e8.lt;have l10:=e10.lt;replace e3:=e3.up hT;replace e4:=e4.up hT;replace e6:=e6.up hT;replace e8:=e8.up hT;replace e10:=e10.up hT;replace fB:SlV [b19] w20 sv sp:=fB.ext hT (by simp) (λb hb=>.inr (by simp at hb;omega));have g19:w.heap.size<=b19:=Xl hS.size mZ;replace hS:=hS.trans hT;clear hT aK;have hN:Nte w20 b19 w20 ⟨q.name,f,f.to_,due,0,[]⟩ Z0h:=⟨e19,Row.nil,Stp.refl _ _,e19.lt,by simp⟩
 clear e19;refine W ?_;refine Z0 (ZC rfl (Z16 rfl rfl rfl) rfl (Z1k w20 b19 _ _ 1 f.entry f.day _ hN (by simp))) rfl ?_;rintro _ w21 ⟨r1,hN,-,-⟩;have f4:=e4.ext hN.stp (by simp;omega);refine W ?_;refine Z0 (ZC rfl (Z16 rfl rfl rfl) rfl (Z1k w20 b19 _ _ 2 i 0 _ hN (by simp))) rfl ?_;rintro _ w22 ⟨r2,hN,-,-⟩;clear f4;have f8:=e8.ext hN.stp (by simp;omega);have iv:Stp [] w w22:=hS.own hN.stp (λc hc=>.inr (by simp at hc;omega));have bz:=gc.up iv;have dF:=gd.up iv;refine W ?_;refine Z6x (σ:=Unit) (λ_=>[(2,.I (i:Int)),(3,pQ b3),(4,pQ b4),(6,pQ b6),(8,pQ b8),(15,.I y1),(17,.I due),(19,pQ b19),(20,.func (.func 38) #[] #[pQ b19]),(10,pQ b10),(13,sv),(185,.B (ok && (Z2E q.cnd || Z2E q.due)))]) (λ_ w'=>Stp [] w22 w') ?_ ?_
 . cases ok with
   | false=>
     refine QO ?_;exact QT () (Stp.refl _ _)
   | true=>
     refine QO ?_;refine CP (Stp.refl [] w22) (Z84 kc q.cnd _ bz) λw23 hT hS=>?_;replace f8:=f8.up hT;replace dF:=dF.up hT;cases h1:Z2E q.cnd with
     | true=>
       refine QO ?_;exact QT () hS
     | false=>
       refine QO ?_;refine CP hS (Z84 kd q.due _ dF) λw24 hT hS=>?_;cases h2:Z2E q.due
       all_goals
        refine QO ?_;exact QT () hS
 rintro _ w23 hT;replace hN:=hN.up hT;clear bz dF f8 iv hT;generalize jw:(ok && (Z2E q.cnd || Z2E q.due))=bb at *;refine W ?_;refine Z0v (σ:=Value) (λ_=>[(2,.I (i:Int)),(3,pQ b3),(4,pQ b4),(6,pQ b6),(8,pQ b8),(15,.I y1),(17,.I due),(19,pQ b19),(20,.func (.func 38) #[] #[pQ b19]),(13,sv)]) (λrv w'=>Nte w20 b19 w' (dU q f due 0 ([⟨1,f.entry,f.day⟩,⟨2,i,0⟩]++if bb=true then [⟨3,s.att,s.day⟩] else [])) rv) ?_ ?_
 . cases bb with
   | false=>
     refine QO ?_;exact QT r2 hN
   | true=>
     have f10:=e10.ext hN.stp (by simp;omega);refine QO ?_;refine Z0 (ZC rfl (Z16 rfl rfl rfl) rfl (Z1k w20 b19 _ _ 3 s.att s.day _ hN (by simp))) rfl ?_;rintro _ w24 ⟨r3,hN,-,-⟩;refine W ?_;exact QT r3 hN
 clear hN;rintro r3 w24 hN;generalize ik:([⟨1,f.entry,f.day⟩,⟨2,i,0⟩]++if bb=true then [⟨3,s.att,s.day⟩] else []:List Rsn)=L1 at *;have rS:L1.length<=3:=by rw [<- ik];split<;>simp
 have tw:=fB.max;refine W ?_;refine LP (σ:=Nat×Value) (λp=>[(2,.I (i:Int)),(3,pQ b3),(4,pQ b4),(6,pQ b6),(8,pQ b8),(15,.I y1),(17,.I due),(19,pQ b19),(20,.func (.func 38) #[] #[pQ b19]),(192,sv),(193,.I sp.length),(194,.I p.1)]) (λp w'=>p.1<=sp.length/\Nte w20 b19 w' (dU q f due 0 (L1++(sp.take p.1).map (λx=>(⟨4,x.1,x.2⟩:Rsn)))) p.2) (λp=>sp.length - p.1) (0,r3) ⟨by omega,by simpa using hN⟩ ?_;clear hN;rintro ⟨k,r4⟩ w25 ⟨hk,hN⟩;dsimp only at hk hN ⊢;by_cases ah:k<sp.length;have o9:SlV [] w25 sv sp:=fB.ext hN.stp (λb hb=>hb) (by simp);have ax:(sp.take (k+1)).map (λx=>(⟨4,x.1,x.2⟩:Rsn))=(sp.take k).map (λx=>(⟨4,x.1,x.2⟩:Rsn))++[⟨4,sp[k].1,sp[k].2⟩]:=by rw [Xf ah,XL];rfl
 refine QO ?_;refine Z0 Z4 rfl ?_;rintro _ w26 ⟨b22,rfl,rT,e22,hA⟩;refine SA (us:=Z2.enc sp[k]) e22 ?_;rintro _ w27 ⟨dg,e22⟩;replace hA:=hA.ow dg;replace hN:=hN.up hA;refine QO ?_;refine Z0 (ZC rfl (Z16 rfl rfl rfl) rfl (Z1k w20 b19 _ _ 4 sp[k].1 sp[k].2 _ hN (by simp only [Xe,XI,Xv];omega))) rfl ?_;rintro _ w28 ⟨r5,hN,-,-⟩;refine QO ?_;exact QL (k+1,r5) ⟨ah,by rw [ax,<- XA];exact hN⟩ (by dsimp only;omega);obtain rfl:k=sp.length:=by omega
 rw [Xs] at hN;have bW:=hS.own hN.stp (λc hc=>.inr (by simp at hc;omega));have f3:=e3.ext hN.stp (by simp;omega);have f4:=e4.ext hN.stp (by simp;omega);have iq:=hf.day;refine QO ?_;refine CG (Ze1 f.day y1 R.sv c.stys _ (hv.up bW).ss ho.sty (by omega) (by omega)) ?_;intro uv w26 hu;have cO:(Z3l f.day y1 c.stys).length<=1000:=by
  have:=ho.sty.len;unfold Z3l;split;simp;exact Xl (XR _ _) this
 generalize hU:Z3l f.day y1 c.stys=us at *;have ca:SlV (b19 :: ob r4) w26 uv us:=hu.slv (λb hb=>by
  rcases Xd.1 hb with rfl|hb
  exact hN.blk.lt;exact (hN.row.ob_le b hb).2)
 replace hN:=hN.up hu.2;clear f3 f4 hu bW fB;have oy:=ca.max;refine QO ?_;generalize pb:L1++sp.map (λx=>(⟨4,x.1,x.2⟩:Rsn))=L2 at *;have rU:L2.length<=1003:=by rw [<- pb,Xe,XI];omega
 refine LP (σ:=Nat×Value) (λp=>[(2,.I (i:Int)),(3,pQ b3),(4,pQ b4),(6,pQ b6),(8,pQ b8),(15,.I y1),(17,.I due),(19,pQ b19),(20,.func (.func 38) #[] #[pQ b19]),(210,uv),(211,.I us.length),(212,.I p.1)]) (λp w'=>p.1<=us.length/\Nte w20 b19 w' (dU q f due 0 (L2++(us.take p.1).map (λx=>(⟨5,x.1,x.2⟩:Rsn)))) p.2/\SlV (b19 :: ob p.2) w' uv us) (λp=>us.length - p.1) (0,r4) ⟨by omega,by simpa using hN,ca⟩ ?_;clear hN ca;rintro ⟨k,r5⟩ w27 ⟨hk,hN,ca⟩;dsimp only at hk hN ⊢;by_cases ah:k<us.length;have pc:SlV [] w27 uv us:=ca.ext (Stp.refl [] w27) (by simp) (by simp);have ax:(us.take (k+1)).map (λx=>(⟨5,x.1,x.2⟩:Rsn))=(us.take k).map (λx=>(⟨5,x.1,x.2⟩:Rsn))++[⟨5,us[k].1,us[k].2⟩]:=by rw [Xf ah,XL];rfl
 refine QO ?_;refine Z0 Z4 rfl ?_;rintro _ w28 ⟨b24,rfl,rV,e24,hA⟩;refine SA (us:=Z2.enc us[k]) e24 ?_;rintro _ w29 ⟨dg,e24⟩;replace hA:=hA.ow dg;replace hN:=hN.up hA;refine QO ?_;refine Z0 (ZC rfl (Z16 rfl rfl rfl) rfl (Z1k w20 b19 _ _ 5 us[k].1 us[k].2 _ hN (by simp only [Xe,XI,Xv];omega))) rfl ?_;rintro _ w30 ⟨r6,rW,rX,m5⟩;refine QO ?_;exact QL (k+1,r6) ⟨ah,by rw [ax,<- XA];exact rW,(ca.up hA).ext rX (λb hb=>hb) (λb hb=>by
  rcases Xd.1 hb with rfl|hb
  exact .inl (by simp);exact (m5 b hb).imp (λh=>by simp [h]) id)⟩ (by dsimp only;omega)
 obtain rfl:k=us.length:=by omega
 rw [Xs] at hN;generalize pd:L2++us.map (λx=>(⟨5,x.1,x.2⟩:Rsn))=L3 at *;have rY:L3.length<=2003:=by rw [<- pd,Xe,XI];omega
 clear ca oy;have bW:=hS.own hN.stp (λc hc=>.inr (by simp at hc;omega));have f3:=e3.ext hN.stp (by simp;omega);have f4:=e4.ext hN.stp (by simp;omega);have f8:=e8.ext hN.stp (by simp;omega);refine QO ?_;refine CP bW (Z9k c R f q.unl due _ (hv.up bW).ff (by have:=ho.fl;omega)) λw28 hT _=>?_
 replace hN:=hN.up hT;clear f3 f4 f8 hT bW;generalize hA:Z9j c.fcts f q.unl due=a at *;obtain ⟨g,met⟩:=a;refine QO ?_;refine Z0 Z4 rfl ?_;rintro _ w29 ⟨b25,rfl,rZ,e25,kZ⟩;refine SA (us:=Z2.enc g) e25 ?_;rintro _ w30 ⟨dg,e25⟩;replace kZ:=kZ.ow dg;have m6:b25≠b19:=by have:=hN.blk.lt;omega
 replace hN:=hN.up kZ;clear kZ dg;refine W ?_;refine Z0v (σ:=Value) (λ_=>[(6,pQ b6),(19,pQ b19)]) (λrv w'=>Nte w20 b19 w' (mkD c f i q y1 due sp) rv) ?_ ?_
 . have gZ:mkD c f i q y1 due sp=dU q f due (if met=true then 1 else if due<c.today then 2 else 0) (L3++if met=true then [⟨6,g.entry,g.day⟩] else []):=by
    unfold mkD;rw [hA,cd,hU];dsimp only;rw [<- pd,<- pb,<- ik,<- jw];simp only [Xa,YbA]
   rw [gZ];cases met with
   | true=>
     refine QO ?_;refine Z5 (Zj (u:=.I 1) rfl rfl rfl rfl hN.blk (by simp)) ?_;rintro _ w31 ⟨hT,e19⟩;replace e25:=e25.ext hT (by simpa using m6);replace hN:=hN.stat (d':=dU q f due 1 L3) hT e19 rfl;refine QO ?_;refine Z0 (ZC rfl (Z16 rfl rfl rfl) rfl (Z1k w20 b19 _ _ 6 g.entry g.day _ hN (by dsimp only;omega))) rfl ?_;rintro _ w32 ⟨r7,hN,-,-⟩;refine W ?_;exact QT r7 hN
   | false=>
     have f3:=e3.ext hN.stp (by simp;omega);by_cases iJ:due<c.today;refine QO ?_;refine Z5 (Zj (u:=.I 2) rfl rfl rfl rfl hN.blk (by simp)) ?_;rintro _ w31 ⟨hT,e19⟩;replace hN:=hN.stat (d':=dU q f due 2 L3) hT e19 rfl;refine QO ?_;exact QT r5 (by simpa [iJ] using hN);refine QO ?_;exact QT r5 (by simpa [iJ] using hN)
 clear hN e25;rintro rv w31 hN;have f6:=e6.ext hN.stp (by simp;omega);have j8:rv.oneCell'=true:=(hN.row.slv (X:=[]) (by simp)).one;have hk:=hN.blk;refine W ?_;refine SB (us:=dlC (mkD c f i q y1 due sp) rv) (Z78 _ j8) f6 ?_;rintro _ w32 ⟨hT,f6⟩;refine W ?_;refine ZY rfl rfl rfl f6 rfl rfl ?_;have bW:=hS.own hN.stp (λc hc=>.inr (by simp at hc;omega));have aJ:=λb hb=>(hN.row.ob_le b hb).1;refine .mk ⟨rv,rfl,?_,bW.ow hT⟩;exact Jj (Row.ext (Jj (X':=[b6]) (Row.lower hN.row (by have:=hS.size;omega))) hT (λb hb=>⟨hb,λh=>by have:=aJ b h;have:=hN.lt;simp at hb;omega⟩) (λb hb=>.inl hb))
abbrev Z9B (x:Fct):Value:=aG x
theorem Zm1 (x y:Fct) (w):(Op.equal 54 (Z9B x) (Z9B y)).run Tryz.prog w=.ok (decide (x=y)) w:=by
 have h1:Program.stoodInHeld Tryz.prog 54=false:=by kernel_rfl
 obtain ⟨i,hi⟩:∃ i,Tryz.prog.info? 3=some i:=by
  have:=(inferInstance:Siz Tryz.prog 3 1).h;cases h:Tryz.prog.info? 3 with
  | none=>rw [h] at this;cases this
  | some i=>exact ⟨i,rfl⟩
 obtain ⟨a,b,c,d,e,f⟩:=x;obtain ⟨a',b',c',d',e',f'⟩:=y;simp [Z9B,Z2.enc,Op.equal,Op.maxDepth,run_equalIn_struct,h1,Program.fieldsOf,Tryz.underlying54,Op.eqFields,part,Und.isAgg,Siz.run,JO,run_equalIn_int w _ _ .i64 .i64 _ _ Tryz.underlying3,run_equalIn_string w _ _ _ _ Tryz.underlying9];repeat' split
 all_goals simp_all
theorem ZhP (em:Bool) (x:Fct) (w):(Instr.checkKey em 10000 54 (Z9B x)).run Tryz.prog w=.ok () w:=by kernel_rfl
instance:Z6A Tryz.prog 54 Fct where
 enc:=Z9B
 chk:=ZhP
 find:=λa es l w hk=>by
  have h2:=run_findKey_eq (P:=Tryz.prog) (k:=54) w (by kernel_rfl) (Z9B a) es;have h3:=Z18 Z9B Zm1 a w es l 0 hk;simp only [XO] at h3;exact h2.trans h3
theorem ZhQ {κ:Type} [DecidableEq κ] (l:List κ) (a:κ):Z1V (l.map (λx=>(x,Value.bool true))) a (.B false)=.B (decide (a∈l)):=by
 unfold Z1V;cases h:(l.map (λx=>(x,Value.bool true))).find? (λp=>decide (p.1=a)) with
 | none=>
   rw [Yar] at h;rw [decide_eq_false (λha=>absurd (h (a,.B true) (XE.2 ⟨a,ha,rfl⟩)) (by simp))]
 | some p=>
   have h1:=Yan h;have h2:=YbP h;obtain ⟨x,hx,rfl⟩:=XE.1 h1;have:x=a:=by simpa using h2
   subst this;simp [hx]
open Go Go.Eng Go.RowKit Go.Proofs Go.Sim
def Zm2 (g k:Nat):Bool:=Nat.beq g 84 && Nat.beq k 4
def Z9C (b:Bool) (v:V) (s:S):Option (Option (V×S×List Nat)):=some (bif b then some (v,s,[]) else none)
def kdI:V->Option Int
 | .i .i64 n=>some n
 | _=>none
def kdS:V->Option Str
 | .s t=>some t
 | _=>none
def kdF:V->Option Fct
 | .a [.i .i64 a,.s b,.i .i64 c,.i .i64 d,.i .i64 e,.i .i64 f]=>some ⟨a,b,c,d,e,f⟩
 | _=>none
def kdG:V->Option Sig
 | .a [.i .i64 a,.s b,.i .i64 c,.i .i64 d,.i .i64 e]=>some ⟨a,b,c,d,e⟩
 | _=>none
instance:KD Tryz.prog where
 l := [⟨3, Int, inferInstance, inferInstance, kdI, λL v a h => by unfold kdI at h; split at h <;> cases h; rfl⟩,
   ⟨9,Str,inferInstance,inferInstance,kdS,λL v a h=>by unfold kdS at h;split at h<;>cases h;rfl⟩,
   ⟨54,Fct,inferInstance,inferInstance,kdF,λL v a h=>by unfold kdF at h;split at h<;>cases h;rfl⟩,
   ⟨311,Sig,inferInstance,inferInstance,kdG,λL v a h=>by unfold kdG at h;split at h<;>cases h;rfl⟩]
theorem ZiB {α:Type} [Z1 α] (w):SlV [] w (.N) ([]:List α):=⟨none,0,rfl,Xm _,by decide,λ_=>rfl,λi hi=>absurd hi (XC i)⟩
def Zm3 (p:Zb4):V×V:=(.a [.i .i64 p.1.kind,.s p.1.s,.i .i64 p.1.a,.i .i64 p.1.b,.i .i64 p.1.c],Sim.ofC p.2)
def eqN:List V->List Int->Bool
 | [],[]=>true
 | .i .i64 a :: r,b :: t=>decide (a=b) && eqN r t
 | _,_=>false
theorem ZeC:∀ {cs:List V} {l:List Int},eqN cs l=true->cs=l.map (.i .i64)
 | [],[],_=>rfl
 | .i .i64 a :: r, b :: t, h => by
   simp only [eqN,Xa,decide_eq_true_eq] at h;rw [h.1,ZeC h.2];rfl
 | [],_ :: _,h=>by cases h
 | .i .i64 a :: r,[],h=>by cases h
noncomputable def roN (s:S) (g:Nat) (l:List Int):Bool:=match s.m.get g with
 | some (.ro cs)=>eqN cs l
 | _=>false
theorem ZeD {L:Lc} {s:S} {w} (hR:Rel L s w) {g:Nat} {l:List Int} (hg:g<64) (h:roN s g l=true):∀ i u,l[i]?=some u->w.cell? ⟨g,i,none⟩=some (.I u):=by
 unfold roN at h;split at h;rename_i cs hc;have:=(hR.ob g _ hc).2;rw [hR.g g hg,ZeC h] at this;intro i u hu;exact this i _ (by rw [Yag,hu];rfl);cases h
noncomputable def fR (od:Od):Hk:=λcall f args s=>match args with
 | [.s t, .i k c] => match k with
   | .i32=>bif Nat.beq f 145 then Z9C (decide (0<=c) && decide (c<128)) (.b (decide (0<=Lib.indexByte t c.toNat.toUInt8))) s else none
   | .u8=>bif Nat.beq f 205 then Z9C true (.i .i64 (Lib.indexByte t c.toNat.toUInt8)) s else none
   | _=>none
 | [.s a, .s b] => bif Nat.beq f 156 then (match s.m.get 2 with
   | some .ig=>Z9C (Nat.blt a.length 4294967281) (.b (Lib.contains a b)) s
   | _=>some none) else none
 | [.s t] => bif Nat.beq f 208 then (match Lib.atoiAll t with
   | .ok v=>Z9C (Nat.ble t.length 1000000) (.t [.i .i64 v,.c .nilIface]) s
   | _=>some none) else none
 | [] => bif Nat.beq f 217 then (match Z3c s (.mp (Z6I.map Zm3)) with
   | some s'=>some (some (.m s.n,s',[]))
   | none=>some none) else none
 | [.a [.b b0, .b b1, .b b2, .b b3, .b b4, .b b5, .b b6, .c (.N), .c (.N), z1, z2, z3], .i .i64 d, .i .i64 kn] => bif Nat.beq f 37 then
    Z9C (roN s 1 Z1f && roN s 3 Z24) (.t [.i .i64 (ZR (Zk ⟨[b0,b1,b2,b3,b4,b5,b6],[],[]⟩ kn) 1 d).1,.i .i64 (ZR (Zk ⟨[b0,b1,b2,b3,b4,b5,b6],[],[]⟩ kn) 1 d).2]) s else none
 | [.s t,.f g x y]=>bif Nat.beq f 43 then some (Zj9 Tryz.prog od Zm2 call f args s) else none
 | _=>none
theorem ZeE (w):(Instr.typeAssert .nilIface 20 195 true).run Tryz.prog w=.ok (.tuple #[.agg #[.I 0,.I 0],.B false]) w:=by kernel_rfl
theorem ZbF (v7 v4 v5 v6:Value) (w) :
 CallsD Tryz.prog 84 #[v7,v4,v5,v6] .returning w (λe u' w'=>∃ v,e=.returned v/\(u'=.returning/\Stp [] w w')):=by
 refine callsD_of_wpS Tryz.func84 rfl λeX cs hu=>?_;have hc:eX={ eX with mode:=.returning }:=by rw [<- hu]
 apply wpS_seq;apply wpS_region;simp [wpOpsS,go_sem,recoverD,hu,Tryz.ntmps84,Exit.thenS];rw [hc];refine ZaZ (n:=22) (e:=[(0,v7),(1,v4),(2,v5),(3,v6),(4,.nilIface)]) (Has.of rfl (by simp) (by
  intro p hp;simp only [Xd,Xp,or_false] at hp;rcases hp with rfl|rfl|rfl|rfl|rfl<;>kernel_rfl)) ?_
 refine W ?_;refine Z7 (Z5w rfl ZeE) rfl ?_;refine W ?_;refine Z0 Z4 rfl ?_;rintro _ w1 ⟨bf,rfl,tx,ef,hT⟩;refine SB (us:=[.I 0,.I 0]) (by intro u hu;simp at hu;rcases hu with rfl|rfl<;>rfl) ef ?_;rintro _ w2 ⟨aK,ef'⟩;have hS:=hT.ow aK;refine W ?_;refine Zp1 ⟨_,rfl⟩ rfl rfl ?_;refine W ?_;first|refine Za1 rfl ?_|refine Z6m rfl ?_
 exact ⟨⟨_,rfl⟩,rfl,hS⟩
theorem ZhR:ZcI Tryz.prog Zm2:=by
 intro g k h;unfold Zm2 at h;simp only [Xa] at h;have h1:=Xk h.1;have h2:=Xk h.2;subst h1 h2;refine ⟨⟨_,inferInstance⟩,λcap w hc=>?_⟩
 match cap,hc with
 | [a,b,c,d],_=>exact ZbF a b c d w
theorem Z3x {b:Bool} {v u:V} {s s':S} {ws:List Nat} (h:Z9C b v s=some (some (u,s',ws))):b=true/\u=v/\s'=s/\ws=[]:=by
 unfold Z9C at h;cases b with
 | false=>cases h
 | true=>cases h;exact ⟨rfl,rfl,rfl,rfl⟩
theorem Z9D (od:Od) (hO:ZfU Tryz.prog od):Zj7 Tryz.prog (fR od):=by
 intro call hC f args s v s' ws h hB L w hR;have same:∀ {u:Value} {w':World},Stp [] w w'->u=ga L v->s'=s->ws=[]->∃ L',Nx s s' L L' w w' ws/\Rel L' s' w'/\u=ga L' v:=by
  rintro u w' hT rfl rfl rfl;exact ⟨L,⟨Xm _,λ_ _=>rfl,λj h1 h2=>absurd h2 (Ya0.2 h1),hT⟩,hR.up hT,rfl⟩
 unfold fR at h;split at h;rename_i t k c;split at h;obtain ⟨h1,h2⟩:=Jr h;have:=Xk h1;subst this;obtain ⟨h3,rfl,rfl,rfl⟩:=Z3x h2;simp only [Xa,decide_eq_true_eq] at h3;refine ⟨Fun.enters,(Tryz.strings_ContainsRune_ascii ⟨t.toArray⟩ c w h3.1 h3.2).mono ?_⟩;rintro e w' ⟨rfl,rfl⟩;exact ⟨_,rfl,same (Stp.refl _ _) rfl rfl rfl⟩;obtain ⟨h1,h2⟩:=Jr h;have:=Xk h1;subst this;obtain ⟨h3,rfl,rfl,rfl⟩:=Z3x h2;refine ⟨Fun.enters,(Tryz.strings_IndexByte ⟨t.toArray⟩ c w).mono ?_⟩;rintro e w' ⟨rfl,rfl⟩;exact ⟨_,rfl,same (Stp.refl _ _) rfl rfl rfl⟩;cases h;rename_i a b;obtain ⟨h1,h2⟩:=Jr h;have:=Xk h1;subst this;split at h2;rename_i hg;obtain ⟨h3,rfl,rfl,rfl⟩:=Z3x h2;obtain ⟨_,m,cE⟩:=hR.ob _ _ hg;rw [hR.g _ (by decide)] at cE;refine ⟨Fun.enters,(Tryz.strings_Contains ⟨a.toArray⟩ ⟨b.toArray⟩ m w (by rw [J5];exact Xb h3) cE).mono ?_⟩;rintro e w' ⟨rfl,rfl⟩;exact ⟨_,rfl,same (Stp.refl _ _) rfl rfl rfl⟩;cases h2;rename_i t;obtain ⟨h1,h2⟩:=Jr h;have:=Xk h1;subst this;split at h2;rename_i x hx;obtain ⟨h3,rfl,rfl,rfl⟩:=Z3x h2;have:=Xb h3;refine ⟨Fun.enters,(Tryz.strconv_Atoi_ok ⟨t.toArray⟩ (by rw [J5];omega) x (by simpa using hx) w).mono ?_⟩;rintro e w' ⟨rfl,hw⟩;refine ⟨_,rfl,same ?_ rfl rfl rfl⟩;rcases hw with rfl|⟨x,rfl⟩
 exact Stp.refl _ _;exact Zb6 _ _ _;cases h2;obtain ⟨h1,h2⟩:=Jr h;have:=Xk h1;subst this;split at h2;rename_i s1 hn;cases h2;refine ⟨Fun.enters,(Z1H w).mono ?_⟩;rintro _ w' ⟨u,rfl,m,l,rfl,⟨es,c,q1,q2,q3⟩,hp,hT,hm⟩;have aJ:Ob (upd L s.n (m,0)) w' s.n (.mp (Z6I.map Zm3)):=⟨l.map Zm3,hp.map _,es,c,by rw [ZD];exact q1,by rw [q2,Yad];rfl,by rw [q3,Yad];exact Ybf λp _=>by show p.2=ga _ (Sim.ofC p.2);rw [Z4O]⟩
 obtain ⟨a1,a2,a3⟩:=hR.new hn hT hm aJ;exact ⟨_,rfl,_,a2,a1,by simp only [ga,ZD]⟩;cases h2;rename_i b0 b1 b2 b3 b4 b5 b6 z1 z2 z3 d kn;obtain ⟨h1,h2⟩:=Jr h;have:=Xk h1;subst this;obtain ⟨h3,rfl,rfl,rfl⟩:=Z3x h2;simp only [Xa] at h3;have hc:Z3r w ⟨[b0,b1,b2,b3,b4,b5,b6],[],[]⟩ (.N) (.N) (ga L z1) (ga L z2) (ga L z3):=⟨ZiB _,ZiB _,ZeD hR (by decide) h3.1,ZeD hR (by decide) h3.2,⟨rfl,by simp,by simp⟩⟩
 refine ⟨Fun.enters,(Z3X d kn _ _ _ _ _ _ w hc).mono ?_⟩;rintro _ w' ⟨u,rfl,rfl,hT⟩;exact ⟨_,rfl,same hT rfl rfl rfl⟩;rename_i t g x y;obtain ⟨h1,h2⟩:=Jr h;have:=Xk h1;subst this;exact ⟨Fun.enters,ZfW hO hC mixed ZhR (XU h2) hB hR⟩;cases h
end Go.Proofs.YtkojegdemoahlaaGreatDoor
namespace Go.Sim
open Go Go.Eng Go.RowKit Go.Proofs
mutual
def eqV:V->V->Bool
 | .i k a,.i k' b=>decide (k=k') && decide (a=b)
 | .b x,.b y=>decide (x=y)
 | .s a,.s b=>decide (a=b)
 | .p b o,.p b' o'=>Nat.beq b b' && Nat.beq o o'
 | .l b o,.l b' o'=>Nat.beq b b' && Nat.beq o o'
 | .a l,.a l'=>eqL l l'
 | .t l,.t l'=>eqL l l'
 | .c (.N),.c (.N)=>true
 | _,_=>false
def eqL:List V->List V->Bool
 | [],[]=>true
 | a :: r,b :: t=>eqV a b && eqL r t
 | _,_=>false
end
mutual
theorem ZeF:∀ a b,eqV a b=true->a=b
 | .i k a,b,h=>by cases b<;>first|(cases h;done)|(simp only [eqV,Xa,decide_eq_true_eq] at h;rw [h.1,h.2])
 | .b x,b,h=>by cases b<;>first|(cases h;done)|(simp only [eqV,decide_eq_true_eq] at h;rw [h])
 | .s x,b,h=>by cases b<;>first|(cases h;done)|(simp only [eqV,decide_eq_true_eq] at h;rw [h])
 | .p x o,b,h=>by cases b<;>first|(cases h;done)|(simp only [eqV,Xa] at h;rw [Xk h.1,Xk h.2])
 | .l x o,b,h=>by cases b<;>first|(cases h;done)|(simp only [eqV,Xa] at h;rw [Xk h.1,Xk h.2])
 | .a l,b,h=>by cases b<;>first|(cases h;done)|(simp only [eqV] at h;rw [Z3Y l _ h])
 | .t l,b,h=>by cases b<;>first|(cases h;done)|(simp only [eqV] at h;rw [Z3Y l _ h])
 | .c v, b, h => by
   unfold eqV at h;split at h<;>first|(cases h;done)|simp_all
 | .f ..,b,h=>by cases b<;>cases h
 | .m ..,b,h=>by cases b<;>cases h
 | .q ..,b,h=>by cases b<;>cases h
 | .z ..,b,h=>by cases b<;>cases h
theorem Z3Y:∀ l t,eqL l t=true->l=t
 | [],[],_=>rfl
 | a :: r, b :: t, h => by
   simp only [eqL,Xa] at h;rw [ZeF a b h.1,Z3Y r t h.2]
 | [],_ :: _,h=>by cases h
 | _ :: _,[],h=>by cases h
end
def eqO:O->O->Bool
 | .c T z cs,.c T' z' cs'=>Nat.beq T T' && Nat.beq z z' && eqL cs cs'
 | .ro cs,.ro cs'=>eqL cs cs'
 | .ig,.ig=>true
 | _,_=>false
theorem Zm4 {a b:O} (h:eqO a b=true):a=b:=by
 unfold eqO at h;split at h;simp only [Xa] at h;rw [Xk h.1.1,Xk h.1.2,Z3Y _ _ h.2];rw [Z3Y _ _ h];rfl;cases h
noncomputable def Z8o (a s:S):Bool:=Nat.beq a.n s.n && a.m.all λp=>match p.2,s.m.get p.1 with
 | some o,some o'=>eqO o o'
 | none,_=>true
 | _,_=>false
theorem ZeG {α:Type}:∀ {l:List (Nat×α)} {k:Nat} {v:α},lk l k=some v->(k,v)∈l
 | [],_,_,h=>by cases h
 | (j, u) :: r, k, v, h => by
   rw [Z39] at h;by_cases e:j=k;rw [if_pos e] at h;cases h;subst e;exact .head _;rw [if_neg e] at h;exact .tail _ (ZeG h)
theorem ZaD {α:Type} {t:Tr α} {k:Nat} {v:α} (h:t.get k=some v):(k,some v)∈t:=by
 unfold Tr.get at h;cases hl:lk t k with
 | none=>rw [hl] at h;cases h
 | some u=>rw [hl] at h;cases h;exact ZeG hl
theorem Z79 {a s:S} (h:Z8o a s=true):a.n=s.n/\∀ k o,a.m.get k=some o->s.m.get k=some o:=by
 simp only [Z8o,Xa] at h;refine ⟨Xk h.1,λk o ho=>?_⟩;have:=XS.1 h.2 _ (ZaD ho);dsimp only at this;split at this;rename_i o1 o2 h1 h2;cases h1;rw [h2,Zm4 this];rename_i h1;cases h1;cases this
theorem Rel.sub {L:Lc} {a s:S} {w} (h:Rel L s w) (hs:Z8o a s=true):Rel L a w:=by
 obtain ⟨h1,h2⟩:=Z79 hs;refine ⟨h.g,λk o ho=>h.ob k o (h2 k o ho),λk o ho=>by rw [h1];exact h.bn k o (h2 k o ho),λj k hj hk he=>?_,by rw [h1];exact h.n64⟩;obtain ⟨x,hx⟩:=X1.1 hj;obtain ⟨y,hy⟩:=X1.1 hk;exact h.inj j k (by rw [h2 j x hx];rfl) (by rw [h2 k y hy];rfl) he
structure En where
 f:Nat
 args:List V
 a:S
 v:V
 r:Option S
noncomputable def ZhS (f:Nat) (args:List V) (s:S):List En->Option (V×S×List Nat)
 | []=>none
 | E :: t => bif Nat.beq E.f f && eqL E.args args && Z8o E.a s then (match E.r with
   | none=>some (E.v,s,[])
   | some s1=>some (E.v,s1,[])) else ZhS f args s t
noncomputable def Z8p (E:En):Option (V×S×List Nat)->Bool
 | some (v, s, []) => eqV E.v v && bl E.a.n E.args && (match E.r with
   | none=>bd E.a.n E.v
   | some s1=>Z8o s1 s)
 | _=>false
def Zm5 (P:Program) (E:En):Prop:=∀ L w s,Rel L s w->Z8o E.a s=true->Enters P E.f/\Calls P E.f (gl L E.args).toArray w (Ret λu w'=>match E.r with
 | none=>u=ga L E.v/\Stp [] w w'
 | some s1=>∃ L',Nx s s1 L L' w w' []/\Rel L' s1 w'/\u=ga L' E.v)
theorem Z2u {P:Program} {call:Cf} (hC:Z2L P call) {E:En} (h:Z8p E (call E.f E.args E.a)=true):Zm5 P E:=by
 intro L w s hR hs;generalize hf:call E.f E.args E.a=r at h;unfold Z8p at h;split at h;rename_i v s1;simp only [Xa] at h;obtain ⟨⟨h1,h2⟩,h3⟩:=h;have h1:=ZeF _ _ h1;subst h1;have hn:=(Z79 hs).1;obtain ⟨q1,q2⟩:=hC _ _ _ _ _ _ hf h2 L w (hR.sub hs);refine ⟨q1,q2.mono ?_⟩;rintro _ w' ⟨u,rfl,L',hN,r8,rfl⟩;refine ⟨_,rfl,?_⟩;split at h3;exact ⟨Z48 hN.ag _ h3,by simpa [ids] using hN.st⟩;rename_i s2 hr;have hm:=(Z79 h3).1;exact ⟨L',⟨by have:=hN.le;omega,λk hk=>hN.ag k (by omega),λk h1 h2=>by have:=hN.nw k (by omega) (by omega);simpa [ids] using this,by simpa [ids] using hN.st⟩,r8.sub h3,rfl⟩;cases h
theorem ZaE {P:Program} {f:Nat} {args:List V} {s:S}:∀ {t:List En},(∀ E∈t,Zm5 P E)->∀ {v s' ws},ZhS f args s t=some (v,s',ws)->bl s.n args=true->∀ L w,Rel L s w->Enters P f/\Calls P f (gl L args).toArray w (Ret λu w'=>∃ L',Nx s s' L L' w w' ws/\Rel L' s' w'/\u=ga L' v)
 | [],_,_,_,_,h,_,_,_,_=>by cases h
 | E :: t, ht, v, s', ws, h, hb, L, w, hR => by
   simp only [ZhS] at h;cases hc:(Nat.beq E.f f && eqL E.args args && Z8o E.a s) with
   | false=>rw [hc] at h;exact ZaE (λE' r9=>ht E' (.tail _ r9)) h hb L w hR
   | true=>
     rw [hc] at h;simp only [Xa] at hc;obtain ⟨⟨c1,c2⟩,c3⟩:=hc;have c1:=Xk c1;have c2:=Z3Y _ _ c2;subst c1 c2;obtain ⟨q1,q2⟩:=ht E (.head _) L w s hR c3;refine ⟨q1,q2.mono ?_⟩;rintro _ w' ⟨u,rfl,hu⟩;refine ⟨_,rfl,?_⟩;simp only [cond_true] at h;split at h;rename_i hr;rw [hr] at hu;cases h;obtain ⟨rfl,hT⟩:=hu;exact ⟨L,⟨Xm _,λ_ _=>rfl,λj h1 h2=>absurd h2 (Ya0.2 h1),by simpa [ids] using hT⟩,hR.up hT,rfl⟩;rename_i s1 hr;rw [hr] at hu;cases h;exact hu
end Go.Sim
namespace Go.Proofs.YtkojegdemoahlaaGreatDoor
open Go Go.Eng Go.RowKit Go.Proofs Go.Sim
def odP:Od:=[(11,20,[],[(0,0),(1,1),(2,0),(3,1),(5,0),(6,1),(8,0),(9,1),(4,2),(7,2),(10,2),(11,2),(12,2),(13,0)]),
 (33,5,[],[(0,0),(1,1),(2,0),(3,0),(4,0),(5,0),(6,1),(7,0),(8,0),(9,0),(10,0),(11,0),(12,0),(13,0),(14,0),(15,1),(16,0),(17,0),(18,0),(19,0),(20,1),(21,0),(22,0),(23,0)]),
 (82,6,[],[(0,0),(1,1),(2,0),(3,0),(4,1),(5,0),(6,1),(7,0),(8,0),(9,1),(10,0)]),
 (79,1,[],[(0,0),(1,1),(2,1),(3,2),(4,2),(5,2),(6,0)]),
 (80,6,[],[(0,0),(1,0),(2,0),(3,1),(4,0),(5,0),(6,0),(7,1),(8,0)]),
 (42,6,[],[(0,0),(1,0),(2,1),(3,1),(4,2),(5,0)]),
 (35,11,[],[(0,0),(2,1),(1,2),(3,0),(4,0),(5,0)]),
 (78,1,[],[(0,0),(1,1),(2,0),(3,1),(5,0),(6,1),(7,0),(8,1),(10,0),(11,1),(12,0),(13,1),(15,0),(16,1),(17,0),(18,1),(20,0),(21,1),(22,0),(23,1),(25,0),(26,1),(27,0),(28,1),(4,2),(9,2),(14,2),(19,2),(24,2),(29,2),(30,2),(31,2),(32,0)]),
 (143,2,[22],[(0,0),(1,1),(2,0),(3,1),(4,0),(5,0),(6,0),(7,1),(8,0),(9,1),(10,0),(11,1),(12,0),(13,0),(14,0),(15,1),(16,0),(17,1),(18,0),(19,1),(20,0),(21,2),(22,2)]),
 (143,3,[],[(0,1),(1,0),(2,1),(3,0),(4,0),(5,0),(6,1),(7,0),(8,0),(9,0),(10,0),(11,1),(12,0),(13,1),(14,0),(15,0),(16,2),(17,0)]),
 (62,3,[],[(0,0),(1,0),(2,0),(4,0),(5,0),(3,9),(6,2),(7,0),(8,2),(9,0)]),
 (74,9,[],[(0,0),(1,0),(2,0),(3,0),(4,1),(5,0),(6,0),(7,0),(8,0),(9,0),(10,1),(11,0),(12,0),(13,0)]),
 (43,8,[],[(0,0),(1,0),(2,0),(3,1),(4,0),(5,0),(6,0),(7,1),(8,0),(9,0),(10,1),(11,0)]),
 (44,2,[],[(0,0),(1,0),(2,0),(3,1),(4,0),(5,0),(6,0),(7,1),(8,0),(9,0),(10,1),(11,0)]),
 (104,1,[],[(0,0),(1,0),(2,0),(3,1),(4,0),(5,0),(6,1),(7,0),(8,0),(9,0),(10,1),(11,0),(12,0),(13,1),(14,2),(15,2),(16,0)]),
 (111,0,[37],[(0,0),(1,0),(2,0),(3,0),(4,1),(5,0),(6,0),(7,0),(8,0),(9,1),(10,0),(11,0),(12,0),(13,0),(14,1),(15,0),(16,0),(17,0),(18,0),(19,1),(20,0),(21,0),(22,0),(23,0),(24,1),(25,0),(26,0),(27,0),(28,0),(29,1),(30,0),(31,0),(32,0),(33,0),(34,1),(35,0),(36,2),(37,2)]),
 (249,4,[],[(0,0),(1,0),(2,0),(3,0),(4,0),(5,0),(6,0),(7,0),(8,1),(9,0),(10,0),(11,0),(12,0),(13,1),(14,2),(15,0),(16,0)]),
 (271,4,[],[(0,0),(1,0),(2,0),(3,0),(4,0),(5,0),(6,0),(7,0),(8,0),(9,0),(10,0),(11,0),(12,0),(13,0),(14,0),(15,0),(16,0),(17,0),(18,0),(19,0),(20,0),(21,0)]),
 (88,1,[11],[(0,0),(1,0),(2,0),(3,1),(4,0),(5,0),(6,0),(7,1),(8,0),(9,1),(10,2),(11,2)]),
 (89,1,[],[(0,0),(1,0),(2,0),(3,1),(4,0),(5,0),(6,0),(7,1),(8,0),(9,0),(10,1),(11,0)]),
 (169,13,[],[(0,0),(2,0),(3,1),(4,0),(5,0),(6,0),(7,1),(8,0),(9,0),(10,0),(11,0),(1,2),(12,0),(13,0)]),
 (169,4,[],[(1,0),(2,1),(3,0),(4,0),(5,0),(6,1),(7,0),(8,0),(9,0),(10,0),(0,2),(11,0),(12,0)]),
 (169,44,[],[(0,0),(1,0),(2,0),(3,0),(4,1),(5,0),(6,0),(7,0),(8,0),(9,0)]),
 (169,6,[],[(1,0),(2,1),(3,0),(4,0),(5,0),(6,1),(7,0),(8,0),(9,0),(10,0),(0,2),(11,0),(12,0)]),
 (170,6,[],[(0,0),(1,0),(2,0),(3,1),(4,0),(5,0),(6,0),(7,1),(8,0)]),
 (172,5,[12,14],[(0,0),(1,0),(2,0),(3,1),(4,0),(5,0),(6,0),(7,0),(8,1),(9,0),(10,0),(11,0),(12,2),(13,0),(14,2)]),
 (155,14,[8],[(0,0),(1,1),(2,0),(3,0),(4,0),(5,2),(6,2),(7,0),(8,2)]),
 (159,19,[],[(1,0),(2,1),(3,0),(4,1),(5,1),(6,0),(0,2),(7,2),(8,0)]),
 (163,8,[],[(1,0),(2,1),(5,0),(0,2),(3,2),(4,0)]),
 (228,1,[],[(0,0),(1,1),(2,0),(3,0),(4,0),(5,1),(6,0),(7,0),(8,0),(9,0),(10,1),(11,0),(12,0),(13,0),(14,0),(15,1),(16,0),(17,0),(18,0),(19,0),(20,1),(21,0),(22,0),(23,0),(24,0),(25,1),(26,0),(27,1),(28,0),(29,1),(30,2),(31,0),(32,0)]),
 (229,1,[],[(0,0),(1,1),(2,0),(3,1),(4,0),(5,0),(6,0)]),
 (211,1,[11],[(0,0),(1,0),(2,0),(3,1),(4,0),(5,0),(6,0),(7,1),(8,0),(9,1),(10,2),(11,2)])]
theorem Zpk:(Tryz.prog.funcs.toList.all λfn=>!(fn.name == "runtime.NumGoroutine"))=true:=by kernel_rfl
theorem Z9E (f:Nat) (fn:Func) (h:Tryz.prog.funcs[f]?=some fn):(fn.name == "runtime.NumGoroutine")=false:=by
 simpa using XS.1 Zpk fn (Array.mem_toList_iff.2 (Array.mem_of_getElem? h))
def ZbG (lo hi:Nat):Nat->List Func->Bool
 | _,[]=>true
 | k, fn :: r => (match Nat.ble lo k && Nat.blt k hi, fn.body with
   | true,some c=>Sim.chkC (odS k odP) c
   | _,_=>true) && ZbG lo hi (k+1) r
theorem Z7a (lo hi:Nat):∀ (l:List Func) (k i:Nat) (fn:Func) (c:Code),ZbG lo hi k l=true->l[i]?=some fn->fn.body=some c->lo<=k+i->k+i<hi->Sim.chkC (odS (k+i) odP) c=true
 | [],_,_,_,_,_,h,_,_,_=>by cases h
 | x :: r, k, 0, fn, c, h, bV, hb, h1, h2 => by
   simp only [ZbG,Xa] at h;cases bV;have:=h.1;rw [hb,XV (show lo<=k from h1),show Nat.blt k hi=true from XV h2] at this;exact this
 | x :: r, k, i + 1, fn, c, h, bV, hb, h1, h2 => by
   simp only [ZbG,Xa] at h;have:=Z7a lo hi r (k+1) i fn c h.2 bV hb (by omega) (by omega)
   rwa [show k+1+i=k+(i+1) by omega] at this
theorem Zpl:ZbG 0 150 0 Tryz.prog.funcs.toList=true:=by kernel_rfl
theorem Zpm:ZbG 150 1000 0 Tryz.prog.funcs.toList=true:=by kernel_rfl
theorem ZhT:Nat.ble Tryz.prog.funcs.toList.length 1000=true:=by kernel_rfl
theorem Z3Z:ZfU Tryz.prog odP:=λf fn c hf hb=>by
 have jJ:Tryz.prog.funcs.toList[f]?=some fn:=by rw [YaF];exact hf
 have hl:=(Xn.1 jJ).1;have:=Xb ZhT;by_cases h:f<150;have:=Z7a 0 150 _ 0 f fn c Zpl jJ hb (by omega) (by omega)
 rwa [XO] at this
 have:=Z7a 150 1000 _ 0 f fn c Zpm jJ hb (by omega) (by omega)
 rwa [XO] at this
noncomputable abbrev Z9F (hk:Hk):Sim.Cf:=fnS Tryz.prog odP hk 30
def Zpn:Str:=[114,117,108,101,32,114,32,102,114,111,109,32,64,50,48,50,54,45,48,49,45,48,49,32,123,32,111,110,32,99,108,97,105,109,59,32,100,117,101,32,100,97,121,32,43,32,50,48,32,100,97,121,115,59,32,117,110,108,101,115,115,32,97,110,115,119,101,114,59,32,101,108,115,101,32,108,97,112,115,101,59,32,125]
abbrev nS:V:=.c (.N)
abbrev vI (n:Int):V:=.i .i64 n
abbrev Ms:=List (Nat×Option O)
def m0:Ms:=[(0,some (.ro (Za.map V.s))),(1,some (.ro (Z1f.map vI))),(3,some (.ro (Z24.map vI))),(2,some .ig)]
def mC:Ms:=(220,some (.c 179 2 [vI 4,vI 0,vI 1,vI 20,vI 15,vI 0,vI 24,vI 0])) :: (185,some (.c 179 2 [vI 2,vI 1,vI 24,vI 0])) :: (223,some (.c 81 7 [.s [114],vI 739616,.s [99,108,97,105,109],.l 185 2,.l 220 4,.s [97,110,115,119,101,114],.s [108,97,112,115,101]])) :: m0
def clV:List V:=[vI 4,.s [99,108,97,105,109],vI 739616,vI 1,vI 2,vI 50]
def mF:Ms:=(225,some (.c 54 6 clV)) :: mC
def csV (f s:V) (d:Int):V:=.a [f,.l 223 1,nS,nS,s,.b false,.b false,.b false,.b false,.b false,.b false,.b false,nS,nS,vI 0,nS,vI 0,vI 0,vI d]
def ZhU (a:List V) (m:Ms) (n:Nat):En:=⟨42,a,⟨m,n⟩,.b true,none⟩
def E0:En:=⟨4,[.s Zpn],⟨m0,64⟩,.t [.l 223 1,.b true],some ⟨mC,224⟩⟩
def E1:En:=ZhU [csV (.l 225 1) nS 739630,vI 739636,vI 0,nS,nS] mF 233
def E2:En:=ZhU [csV (.l 225 1) nS 739640,vI 739636,vI 2,nS,.l 233 1] ((233,some (.c 54 6 [vI 4,.s [108,97,112,115,101],vI 739637,vI 2,vI 1,vI 50])) :: mF) 234
def E3:En:=ZhU [csV (.l 229 2) nS 739640,vI 739636,vI 1,.l 234 1,nS] ((234,some (.c 73 3 [vI 6,vI 7,vI 739636])) :: (229,some (.c 54 6 (clV++[vI 7,.s [97,110,115,119,101,114],vI 739636,vI 2,vI 0,vI 0]))) :: mC) 235
def E4:En:=ZhU [csV (.l 225 1) (.l 231 1) 739630,vI 739638,vI 0,.l 235 2,nS] ((235,some (.c 73 3 [vI 4,vI 739638,vI 739638,vI 5,vI 739620,vI 739621])) :: (231,some (.c 123 2 [vI 739620,vI 739621])) :: mF) 236
theorem Zqk:Z8p E0 (Z9F (fR odP) E0.f E0.args E0.a)=true:=by kernel_rfl
theorem Zql:Z8p E1 (Z9F (fR odP) E1.f E1.args E1.a)=true:=by kernel_rfl
theorem Zqm:Z8p E2 (Z9F (fR odP) E2.f E2.args E2.a)=true:=by kernel_rfl
theorem Zqn:Z8p E3 (Z9F (fR odP) E3.f E3.args E3.a)=true:=by kernel_rfl
theorem Zqo:Z8p E4 (Z9F (fR odP) E4.f E4.args E4.a)=true:=by kernel_rfl
def Zm6:List En:=[E0,E1,E2,E3,E4]
theorem Zm7:∀ E∈Zm6,Zm5 Tryz.prog E:=by
 have hC:=Z6F Z3Z mixed Z9E (Z9D odP Z3Z) 30;intro E hE;simp only [Zm6,Xd,Xp,or_false] at hE;rcases hE with rfl|rfl|rfl|rfl|rfl
 exact Z2u hC Zqk;exact Z2u hC Zql;exact Z2u hC Zqm;exact Z2u hC Zqn;exact Z2u hC Zqo
noncomputable def m7:Hk:=λcall f args s=>match ZhS f args s Zm6 with
 | some r=>some (some r)
 | none=>fR odP call f args s
theorem Zm8:Zj7 Tryz.prog m7:=by
 intro call hC f args s v s' ws h hB L w hR;unfold m7 at h;split at h;rename_i r hr;cases h;exact ZaE Zm7 hr hB L w hR;exact Z9D odP Z3Z call hC f args s v s' ws h hB L w hR
def ZeH:Option (V×S×List Nat)->Bool
 | some (.b true,_,[])=>true
 | _=>false
theorem Zqp:ZeH (Z9F m7 13 [] ⟨m0,64⟩)=true:=by kernel_rfl
theorem ZiC (m:Int) (w) (hF:SlV [] w Z1w Za) (ew:Z05 w) (ez:Z1i w) (cE:w.cell? ⟨2,0,none⟩=some (.I m)):Rel (λk=>(k,7)) ⟨m0,64⟩ w:=by
 have hN:∀ {g:Nat} {l:List Int},l≠[]->(∀ i u,l[i]?=some u->w.cell? ⟨g,i,none⟩=some (.I u))->Ob (λk=>(k,7)) w g (.ro (l.map vI)):=λ{g l} hl h=>by
  refine ⟨?_,λi u hu=>?_⟩
  . cases l with
    | nil=>exact absurd rfl hl
    | cons a t=>exact block_lt_of_cell (h 0 a rfl)
  rw [Yag,XB] at hu;obtain ⟨z,hz,rfl⟩:=hu;exact h i z hz
 have hS:Ob (λk=>(k,7)) w 0 (.ro (Za.map V.s)):=by
  obtain ⟨p,c,he,hl,hm,hn,hc⟩:=hF;cases he;have hc':∀ i (hi:i<Za.length),w.cell? ⟨0,i,none⟩=some (str Za[i]):=λi hi=>by
   obtain ⟨b,o,cs,h1,h2,h3,h4,h5⟩:=hc i hi;cases h1;have h4:cs=[str Za[i]]:=h4;have:=h5 0 (str Za[i]) (by rw [h4];rfl);simpa [show Z1.k Str=1 from rfl] using this
  refine ⟨block_lt_of_cell (hc' 0 (by decide)),λi u hu=>?_⟩;rw [Yag,XB] at hu;obtain ⟨z,hz,rfl⟩:=hu;obtain ⟨hi,rfl⟩:=Xn.1 hz;exact hc' i hi
 have cs:∀ (k:Nat) (o:O),Tr.get m0 k=some o->k<64/\O.bd 64 o=true/\Ob (λk=>(k,7)) w k o:=λk o h=>by
  have:=ZaD h;simp only [m0,Xd,Xp,or_false,XG,Xh] at this;rcases this with ⟨rfl,rfl⟩|⟨rfl,rfl⟩|⟨rfl,rfl⟩|⟨rfl,rfl⟩
  exact ⟨by decide,by decide +kernel,hS⟩;exact ⟨by decide,by decide +kernel,hN (by decide) ew⟩;exact ⟨by decide,by decide +kernel,hN (by decide) ez⟩;exact ⟨by decide,rfl,block_lt_of_cell cE,m,cE⟩
 exact ⟨λ_ _=>rfl,λk o h=>(cs k o h).2.2,λk o h=>⟨(cs k o h).1,(cs k o h).2.1⟩,λj k _ _ h=>h,Xm _⟩
theorem Zm9 (call:Sim.Cf) (hC:Z2L Tryz.prog call) (run:ZeH (call 13 [] ⟨m0,64⟩)=true) (m:Int) (w) (hF:SlV [] w Z1w Za) (ew:Z05 w) (ez:Z1i w) (cE:w.cell? ⟨2,0,none⟩=some (.I m)) :
 CC 13 #[] w λr w'=>r=.B true/\Stp [] w w':=by
 generalize hf:call 13 [] ⟨m0,64⟩=r at run;unfold ZeH at run;split at run;refine (hC _ _ _ _ _ _ hf rfl _ w (ZiC m w hF ew ez cE)).2.mono ?_;rintro _ w' ⟨u,rfl,L',hN,-,rfl⟩;exact ⟨_,rfl,rfl,by simpa [ids] using hN.st⟩;cases run
theorem Z9G (er:Value) (m:Int) (w) (hF:SlV [] w Z1w Za) (ew:Z05 w) (ez:Z1i w) (cE:w.cell? ⟨2,0,none⟩=some (.I m)) (iu:w.cell? ⟨5,0,none⟩=some er) (bJ:er=.nilIface\/∃ te pe,er=.iface te pe) :
 CC 13 #[] w λr w'=>r=.B true/\Stp [] w w':=Zm9 _ (Z6F Z3Z mixed Z9E Zm8 30) Zqp m w hF ew ez cE
theorem Z9H {α:Type} [Z1 α] {L:Lc} {s:S} {w} {X:List Nat} (hR:Rel L s w) {b T:Nat} {cs:List V} {xs:List α} (hb:s.m.get b=some (.c T (Z1.k α) cs)) (hz:Z1.k α≠0) (hX:(L b).1∉X) (hl:cs.length=xs.length * Z1.k α)
 (hr:∀ i (h:i<xs.length),Z1.rep X w xs[i] (gl L ((cs.drop (i * Z1.k α)).take (Z1.k α)))):SlV X w (ga L (.l b xs.length)) xs:=by
 obtain ⟨rest,h1,h2,-⟩:=hR.ob b _ hb;obtain ⟨h3,h4⟩:=h2 hz;refine ⟨some ⟨(L b).1,0,none⟩,(L b).2,rfl,?_,h4,(λh=>by cases h),λi hi=>⟨(L b).1,0,_,rfl,h1.lt,hX,hr i hi,λj u hu=>?_⟩⟩;refine Ya8 (c:=Z1.k α) ?_ (YbE hz);rw [<- hl];omega;rw [Z4a,XB] at hu;obtain ⟨u',eW,rfl⟩:=hu;have hj:=(Xn.1 eW).1;rw [Xv] at hj;rw [Ybg (by omega),Ybm] at eW;have:=Z1c hR (b:=b) (cs:=cs) (by unfold ldc;rw [hb]) eW;simpa [XO] using this
def ZiD:Str:=[114,117,108,101,32,120,32,102,114,111,109,32,64,50,48,50,48,45,48,49,45,48,49,32,123,32,111,110,32,99,108,97,105,109,59,32,100,117,101,32,115,101,114,118,101,100,32,43,32,101,120,116,114,97,32,100,97,121,115,59,32,125]
def Z40:Cr:=⟨[120],737424,[99,108,97,105,109],[⟨2,1⟩,⟨24,0⟩],[⟨4,1⟩,⟨4,2⟩,⟨15,0⟩,⟨24,0⟩],[],[]⟩
def m49:Ms:=[(198,some (.c 179 2 [vI 4,vI 1,vI 4,vI 2,vI 15,vI 0,vI 24,vI 0])),(163,some (.c 179 2 [vI 2,vI 1,vI 24,vI 0])),(201,some (.c 81 7 [.s [120],vI 737424,.s [99,108,97,105,109],.l 163 2,.l 198 4,.s [],.s []]))]
def E49:En:=⟨4,[.s ZiD],⟨m0,64⟩,.t [.l 201 1,.b true],some ⟨m49,202⟩⟩
theorem Zpo:Z8p E49 (Z9F (fR odP) E49.f E49.args E49.a)=true:=by kernel_rfl
theorem ZbH:Z8o ⟨m0,64⟩ ⟨m0,64⟩=true:=by decide +kernel
theorem Z9I (X:List Nat) (m:Int) (w:World) (hX:∀ c∈X,c<w.heap.size) (hF:SlV [] w Z1w Za) (ew:Z05 w) (ez:Z1i w) (cE:w.cell? ⟨2,0,none⟩=some (.I m)) :
 CC 4 #[str ZiD] w λr w'=>∃ rv,r=.tuple #[rv,.B true]/\SlV X w' rv [Z40]/\Stp [] w w':=by
 have hC:=Z6F Z3Z mixed Z9E (Z9D odP Z3Z) 30;refine ((Z2u hC Zpo) _ w _ (ZiC m w hF ew ez cE) ZbH).2.mono ?_;rintro _ w' ⟨u,rfl,L',hN,hR,rfl⟩;have m8:∀ b,64<=b->b<202->(L' b).1∉X:=λb g1 g2 hc=>by
  have:=hX _ hc;rcases hN.nw b g1 g2 with h|h
  omega;cases h
 refine .mk ⟨ga L' (.l 201 1),rfl,?_,by simpa [ids] using hN.st⟩;refine Z9H (xs:=[Z40]) (T:=81) hR rfl (by decide) (m8 201 (by decide) (by decide)) rfl (λi hi=>?_);obtain rfl:i=0:=by simpa using hi
 refine ⟨ga L' (.l 163 2),ga L' (.l 198 4),rfl,?_,?_⟩
 . refine Z9H (xs:=[(⟨2,1⟩:Ins),⟨24,0⟩]) (T:=179) hR rfl (by decide) (m8 163 (by decide) (by decide)) rfl (λi hi=>?_)
   match i,hi with
   | 0,_=>rfl
   | 1,_=>rfl
 . refine Z9H (xs:=[(⟨4,1⟩:Ins),⟨4,2⟩,⟨15,0⟩,⟨24,0⟩]) (T:=179) hR rfl (by decide) (m8 198 (by decide) (by decide)) rfl (λi hi=>?_)
   match i,hi with
   | 0,_=>rfl
   | 1,_=>rfl
   | 2,_=>rfl
   | 3,_=>rfl
end Go.Proofs.YtkojegdemoahlaaGreatDoor
namespace Go.Eng
open Go
structure Pap where
 attempt:Int
 party:Int
 carrier:Int
 sent:Int
 deriving DecidableEq,Inhabited
structure Wy where
 attempt:Int
 kind:Int
 days:Int
 party:Int
 deriving DecidableEq,Inhabited
structure Dlv where
 attempt:Int
 party:Int
 day:Int
 deriving DecidableEq,Inhabited
structure Rpt where
 attempt:Int
 day:Int
 carrier:Int
 kind:Int
 frm:Int
 til:Int
 deriving DecidableEq,Inhabited
instance:Z2 Pap where
 k:=4
 enc:=λp=>[.I p.attempt,.I p.party,.I p.carrier,.I p.sent]
 len:=λ_=>rfl
 one:=by intro x u hu;simp at hu;rcases hu with rfl|rfl|rfl|rfl<;>rfl
instance:Z2 Wy where
 k:=4
 enc:=λp=>[.I p.attempt,.I p.kind,.I p.days,.I p.party]
 len:=λ_=>rfl
 one:=by intro x u hu;simp at hu;rcases hu with rfl|rfl|rfl|rfl<;>rfl
instance:Z2 Dlv where
 k:=3
 enc:=λp=>[.I p.attempt,.I p.party,.I p.day]
 len:=λ_=>rfl
 one:=by intro x u hu;simp at hu;rcases hu with rfl|rfl|rfl<;>rfl
instance:Z2 Rpt where
 k:=6
 enc:=λp=>[.I p.attempt,.I p.day,.I p.carrier,.I p.kind,.I p.frm,.I p.til]
 len:=λ_=>rfl
 one:=by intro x u hu;simp at hu;rcases hu with rfl|rfl|rfl|rfl|rfl|rfl<;>rfl
def ZbI {α:Type} [Z2 α] (P:Program) (g:Nat) (lb:Array Value) (p:α->Bool) (w:World):Prop:=
 ∀ (x:α) (w':World),Stp [] w w'->Calls P g (#[agg x]++lb) w' (Ret λv w''=>v=.B (p x)/\Stp [] w' w'')
end Go.Eng
namespace Go.Proofs.YtkojegdemoahlaaGreatDoor
open Go Go.Eng Go.RowKit
def Jw (n most:Int):Int:=if n<0 then (-(n+1)) % most else n % most
theorem Z5g (a b:Int) (ha:I64 a) (hb:0<b) (w):CC 7 #[.I a,.I b] w λv w'=>v=.I (Jw a b)/\Stp [] w w':=by
 have dI:=ha;unfold I64 at ha;refine cW2 13 Tryz.func7 ?_;repeat'(first|refine W1 ?_|refine VG ?_ ?_<;>intro hg|refine VC ?_ ?_<;>intro hc)
 all_goals (refine WR ?_)
 exact .mk ⟨by simp [Jw,hc],Stp.refl _ _⟩;exact .mk ⟨by simp [Jw,hc],Stp.refl _ _⟩
theorem ZeI (g:Nat) (fn:Func) [Fun Tryz.prog g fn] (lb:Array Value) (p:Wy->Bool) (X:List Nat) (v:Value) (xs:List Wy) (w) (hs:SlV X w v xs) (hp:ZbI Tryz.prog g lb p w) :
 CC 48 #[v,.func (.func g) #[] lb] w λr w'=>r=.I (idx p xs)/\Stp [] w w':=by
 have bg:=hs.max;refine cW2 19 Tryz.func48 ?_;refine W ?_;refine LP (σ:=Nat) (λk=>[(0,v),(1,.func (.func g) #[] lb),(7,.I xs.length),(8,.I k)]) (λk w'=>k<=xs.length/\Stp [] w w'/\∀ j (h:j<xs.length),j<k->p xs[j]=false) (λk=>xs.length - k) 0 ⟨Xu _,Stp.refl _ _,λj _ h=>absurd h (XC _)⟩ ?_;rintro k w1 ⟨hk,hS,hb⟩;have hs:=hs.up hS;by_cases ah:k<xs.length;focus repeat'(first|refine W1 ?_|refine VG ?_ ?_<;>intro hg|refine VC ?_ ?_<;>intro hc)
 . refine Z0 (ZC (f:=g) rfl (ZO rfl) rfl (hp xs[k] w1 hS)) rfl ?_
   rintro _ w2 ⟨rfl,ai⟩;cases hq:p xs[k] with
   | true=>
     repeat'(first|refine W1 ?_|refine VG ?_ ?_<;>intro hg|refine VC ?_ ?_<;>intro hc)
     refine RU ?_;exact ⟨by rw [Z2n ah hq hb],hS.trans ai⟩
   | false=>
     repeat'(first|refine W1 ?_|refine VG ?_ ?_<;>intro hg|refine VC ?_ ?_<;>intro hc)
     refine QL (k+1) ⟨by omega,hS.trans ai,λj h hj=>?_⟩ (by omega);by_cases e:j=k;subst e;exact hq;exact hb j h (by omega)
 omega;focus repeat'(first|refine W1 ?_|refine VG ?_ ?_<;>intro hg|refine VC ?_ ?_<;>intro hc)
 omega;refine RU ?_;exact ⟨by rw [Z0W (λj h=>hb j h (by omega))],hS⟩
theorem Z5G (g:Nat) (fn:Func) [Fun Tryz.prog g fn] (lb:Array Value) (p:Dlv->Bool) (X:List Nat) (v:Value) (xs:List Dlv) (w) (hs:SlV X w v xs) (hp:ZbI Tryz.prog g lb p w) :
 CC 98 #[v,.func (.func g) #[] lb] w λr w'=>r=.I (idx p xs)/\Stp [] w w':=by
 have bg:=hs.max;refine cW2 19 Tryz.func98 ?_;refine W ?_;refine LP (σ:=Nat) (λk=>[(0,v),(1,.func (.func g) #[] lb),(7,.I xs.length),(8,.I k)]) (λk w'=>k<=xs.length/\Stp [] w w'/\∀ j (h:j<xs.length),j<k->p xs[j]=false) (λk=>xs.length - k) 0 ⟨Xu _,Stp.refl _ _,λj _ h=>absurd h (XC _)⟩ ?_;rintro k w1 ⟨hk,hS,hb⟩;have hs:=hs.up hS;by_cases ah:k<xs.length;focus repeat'(first|refine W1 ?_|refine VG ?_ ?_<;>intro hg|refine VC ?_ ?_<;>intro hc)
 . refine Z0 (ZC (f:=g) rfl (ZO rfl) rfl (hp xs[k] w1 hS)) rfl ?_
   rintro _ w2 ⟨rfl,ai⟩;cases hq:p xs[k] with
   | true=>
     repeat'(first|refine W1 ?_|refine VG ?_ ?_<;>intro hg|refine VC ?_ ?_<;>intro hc)
     refine RU ?_;exact ⟨by rw [Z2n ah hq hb],hS.trans ai⟩
   | false=>
     repeat'(first|refine W1 ?_|refine VG ?_ ?_<;>intro hg|refine VC ?_ ?_<;>intro hc)
     refine QL (k+1) ⟨by omega,hS.trans ai,λj h hj=>?_⟩ (by omega);by_cases e:j=k;subst e;exact hq;exact hb j h (by omega)
 omega;focus repeat'(first|refine W1 ?_|refine VG ?_ ?_<;>intro hg|refine VC ?_ ?_<;>intro hc)
 omega;refine RU ?_;exact ⟨by rw [Z0W (λj h=>hb j h (by omega))],hS⟩
theorem Z8q (g:Nat) (fn:Func) [Fun Tryz.prog g fn] (lb:Array Value) (p:Rpt->Bool) (X:List Nat) (v:Value) (xs:List Rpt) (w) (hs:SlV X w v xs) (hp:ZbI Tryz.prog g lb p w) :
 CC 101 #[v,.func (.func g) #[] lb] w λr w'=>r=.I (idx p xs)/\Stp [] w w':=by
 have bg:=hs.max;refine cW2 19 Tryz.func101 ?_;refine W ?_;refine LP (σ:=Nat) (λk=>[(0,v),(1,.func (.func g) #[] lb),(7,.I xs.length),(8,.I k)]) (λk w'=>k<=xs.length/\Stp [] w w'/\∀ j (h:j<xs.length),j<k->p xs[j]=false) (λk=>xs.length - k) 0 ⟨Xu _,Stp.refl _ _,λj _ h=>absurd h (XC _)⟩ ?_;rintro k w1 ⟨hk,hS,hb⟩;have hs:=hs.up hS;by_cases ah:k<xs.length;focus repeat'(first|refine W1 ?_|refine VG ?_ ?_<;>intro hg|refine VC ?_ ?_<;>intro hc)
 . refine Z0 (ZC (f:=g) rfl (ZO rfl) rfl (hp xs[k] w1 hS)) rfl ?_
   rintro _ w2 ⟨rfl,ai⟩;cases hq:p xs[k] with
   | true=>
     repeat'(first|refine W1 ?_|refine VG ?_ ?_<;>intro hg|refine VC ?_ ?_<;>intro hc)
     refine RU ?_;exact ⟨by rw [Z2n ah hq hb],hS.trans ai⟩
   | false=>
     repeat'(first|refine W1 ?_|refine VG ?_ ?_<;>intro hg|refine VC ?_ ?_<;>intro hc)
     refine QL (k+1) ⟨by omega,hS.trans ai,λj h hj=>?_⟩ (by omega);by_cases e:j=k;subst e;exact hq;exact hb j h (by omega)
 omega;focus repeat'(first|refine W1 ?_|refine VG ?_ ?_<;>intro hg|refine VC ?_ ?_<;>intro hc)
 omega;refine RU ?_;exact ⟨by rw [Z0W (λj h=>hb j h (by omega))],hS⟩
theorem ZhV (g:Nat) (fn:Func) [Fun Tryz.prog g fn] (lb:Array Value) (p:Wy->Bool) (X:List Nat) (v:Value) (xs:List Wy) (w) (hs:SlV X w v xs) (hp:ZbI Tryz.prog g lb p w) :
 CC 16 #[v,.func (.func g) #[] lb] w λr w'=>r=.I (idx p xs)/\Stp [] w w':=by
 refine cW2 8 Tryz.func16 ?_;refine W ?_;refine CL (ZeI g fn lb p X v xs w hs hp) ?_;rintro _ w2 ⟨rfl,ai⟩;refine RT ?_;exact ⟨rfl,ai⟩
theorem Zpp (b T:Nat) (p:Pap) (w) (hb:Blk w b T (Z2.enc p)):ZbI Tryz.prog 17 #[pQ b] (λx:Wy=>decide (x.attempt=p.attempt)) w:=by
 intro x w1 hS;have hb:=hb.up hS;show Calls _ _ #[agg x,pQ b] _ _;refine cW2 9 Tryz.func17 ?_;refine W ?_;refine Z0 (Zl rfl) rfl ?_;rintro _ w2 ⟨c,rfl,hc,ab,ai⟩;have hb:=hb.up ai;refine RT ?_;exact ⟨rfl,ai⟩
theorem Z41 {α:Type} (p:α->Bool) (xs:List α):(idx p xs=-1/\xs.find? p=none)\/∃ k,∃ h:k<xs.length,idx p xs=(k:Int)/\xs.find? p=some xs[k]/\p xs[k]=true/\∀ j (h:j<xs.length),j<k->p xs[j]=false:=by
 cases h:xs.findIdx? p with
 | none=>exact .inl ⟨by simp [idx,h],by rw [Yam] at h;rw [Yar];intro x hx;simp [h x hx]⟩
 | some k=>
   have h0:=h;rw [X8] at h;obtain ⟨hk,hp,hb⟩:=h;refine .inr ⟨k,hk,by simp [idx,h0],?_,hp,λj h hj=>by simpa using hb j hj⟩;rw [YaR];exact ⟨hp,k,hk,rfl,λj hj=>by simpa using hb j hj⟩
theorem ZeJ (a b c:Int) (w):(Instr.build 94 #[(0,.I a),(1,.I b),(2,.I c)]).run Tryz.prog w=.ok (agg (Dlv.mk a b c)) w:=by kernel_rfl
theorem Zma (a b c d:Int) (w):(Instr.build 52 #[(0,.I a),(1,.I b),(2,.I c),(3,.I d)]).run Tryz.prog w=.ok (agg (Pap.mk a b c d)) w:=by kernel_rfl
theorem Zmb (a b c d:Int) (w):(Instr.build 90 #[(0,.I a),(1,.I b),(2,.I c),(3,.I d)]).run Tryz.prog w=.ok (agg (Wy.mk a b c d)) w:=by kernel_rfl
theorem ZeK (a b c d:Int) (w):(Instr.build 62 #[(0,.I a),(1,.I b),(2,.I c),(3,.I d)]).run Tryz.prog w=.ok (.agg #[.I a,.I b,.I c,.I d]) w:=by kernel_rfl
theorem Zmc (z y a b c d:Int) (w):(Instr.build 64 #[(0,.I z),(1,.I y),(2,.agg #[.I a,.I b,.I c,.I d])]).run Tryz.prog w=.ok (agg (Rpt.mk z y a b c d)) w:=by kernel_rfl
theorem ZaF (d:Dlv) (w):(Instr.buildSlice 34 1 #[(0,agg d)]).run Tryz.prog w=.ok (.slice (some ⟨w.heap.size,0,none⟩) 1 1) (w.alloc (.cells (Z2.enc d).toArray 94)):=by kernel_rfl
theorem ZhW (d:Rpt) (w):(Instr.buildSlice 35 1 #[(0,agg d)]).run Tryz.prog w=.ok (.slice (some ⟨w.heap.size,0,none⟩) 1 1) (w.alloc (.cells (Z2.enc d).toArray 64)):=by kernel_rfl
theorem ZhX (d:Pap) (w):(Instr.buildSlice 26 1 #[(0,agg d)]).run Tryz.prog w=.ok (.slice (some ⟨w.heap.size,0,none⟩) 1 1) (w.alloc (.cells (Z2.enc d).toArray 52)):=by kernel_rfl
theorem ZhY (d:Wy) (w):(Instr.buildSlice 28 1 #[(0,agg d)]).run Tryz.prog w=.ok (.slice (some ⟨w.heap.size,0,none⟩) 1 1) (w.alloc (.cells (Z2.enc d).toArray 90)):=by kernel_rfl
theorem Z67 (a b:Int) (w):(Instr.buildSlice 22 2 #[(0,.I a),(1,.I b)]).run Tryz.prog w=.ok (.slice (some ⟨w.heap.size,0,none⟩) 2 2) (w.alloc (.cells #[.I a,.I b] 3)):=by kernel_rfl
def Z2G (ws:List Wy) (z:Int):Wy:=match ws.find? (λx=>decide (x.attempt=z)) with|some p=>p|none=>⟨z,0,1,0⟩
def Z2c (p:Pap) (w:Wy):Dlv:=⟨p.attempt,if w.kind=4 then w.party else p.party,p.sent+w.days⟩
def Z15 (p:Pap) (w:Wy):Bool:=decide (p.sent+w.days<=3652058/\w.kind≠1/\w.kind≠5)
def Z1K (p:Pap) (w:Wy) (i:Int):Rpt:=⟨p.attempt,p.sent+w.days+i,p.carrier,1,p.sent+w.days,p.sent+w.days⟩
def J9 (p:Pap) (w:Wy):List Rpt:=
 if p.sent+w.days > 3652058\/w.kind=1\/w.kind=2 then [] else if w.kind=3 then [Z1K p w 1,Z1K p w 2] else [Z1K p w 1]
theorem SlV.nilC {α:Type} [Z1 α] (X:List Nat) (w:World):SlV (α:=α) X w (.N) []:=
 ⟨none,0,rfl,Xm _,by simp [maxLen],λ_=>rfl,λi h=>absurd h (XC _)⟩
def Z06 (a d:Dlv):Bool:=decide (a.day<d.day\/a.day=d.day/\a.attempt<d.attempt)
def JV (a d:Rpt):Bool:=decide (a.day<d.day\/a.day=d.day/\a.attempt<d.attempt)
def Zqq (l:List Dlv) (d:Dlv):List Dlv:=l.takeWhile (λx=>Z06 x d)++[d]++l.dropWhile (λx=>Z06 x d)
def Zqr (l:List Rpt) (d:Rpt):List Rpt:=l.takeWhile (λx=>JV x d)++[d]++l.dropWhile (λx=>JV x d)
theorem Z2v (a b:Int) (hb:0<b):0<=Jw a b/\Jw a b<b:=by
 unfold Jw;split;exact ⟨Ybh _ (by omega),YaX _ hb⟩;exact ⟨Ybh _ (by omega),YaX _ hb⟩
def Z4k (i:Nat) (x:Int):Pap:=
 let n:=Jw x 1000000
 ⟨3 * (i:Int)+n % 3,n / 3 % 4,n / 12 % 3,739616+n / 36 % 40⟩
def ZI (l:List Int):List Pap:=(List.range (min l.length 8)).map (λi=>Z4k i (l.getD i 0))
def Z5h (p:Pap) (x:Int):Option Wy:=
 let n:=Jw x 1000000
 if n % 7<6 then some ⟨p.attempt,n % 7,n / 7 % 9,n / 63 % 4⟩ else none
def Z19 (ps:List Pap) (l:List Int):List Wy:=(List.range (min ps.length l.length)).filterMap (λi=>Z5h (ps.getD i default) (l.getD i 0))
theorem Z2H {α β:Type} (f:α->Option β) (a:α):[a].filterMap f=(f a).toList:=by
 cases h:f a<;>simp [h]
theorem ZbJ (X Y:List Nat) (v:Value) (l:List Int) (w:World) (hX:∀ b∈X,b<w.heap.size) (hl:SlV Y w v l) (hi:∀ x∈l,I64 x) :
 CC 5 #[v] w λr w'=>Row X w' w.heap.size 52 r (ZI l)/\Stp [] w w':=by
 have bg:=hl.max;refine cW1 41 Tryz.func5 ?_;refine W ?_;refine LP (σ:=Nat×Value) (λk=>[(0,v),(3,k.2),(4,.I k.1)]) (λk w'=>k.1<=min l.length 8/\Stp [] w w'/\Row X w' w.heap.size 52 k.2 ((List.range k.1).map (λi=>Z4k i (l.getD i 0)))) (λk=>8 - k.1) (0,.N) ⟨Xu _,Stp.refl _ _,Row.nil⟩ ?_;rintro ⟨k,r⟩ w1 ⟨hk,hS,ac⟩;dsimp only at hk hS ac ⊢;replace hl:=hl.up hS;have fk:=hS.size;by_cases ah:k<l.length
 . repeat'(first|refine W1 ?_|refine VG ?_ ?_<;>intro hg|refine VC ?_ ?_<;>intro hc)
   have hx:=hi l[k] (Xc ah);refine CM (ZK rfl rfl) (Z5g _ 1000000 hx (by omega) _) ?_;rintro _ w2 ⟨rfl,ai⟩;replace ac:=ac.up ai;replace hS:=hS.trans ai;replace fk:=hS.size;have hp:Z4k k (l.getD k 0)=Z4k k l[k]:=by simp [List.getD,ah]
   obtain ⟨h0,h1⟩:=Z2v l[k] 1000000 (by omega);have hq:Z4k k l[k]=⟨3 * (k:Int)+Jw l[k] 1000000 % 3,Jw l[k] 1000000 / 3 % 4,Jw l[k] 1000000 / 12 % 3,739616+Jw l[k] 1000000 / 36 % 40⟩:=rfl;generalize Z4k k l[k]=pk at *;generalize Jw l[k] 1000000=n at *;subst hq;refine W ?_;apply Z9 (vs:=[(0,.I (3 * (k:Int)+n % 3)),(1,.I (n / 3 % 4)),(2,.I (n / 12 % 3)),(3,.I (739616+n / 36 % 40))]) rfl (Zma _ _ _ _) rfl;refine Z0 (Z3 (vs:=[(0,agg (Pap.mk _ _ _ _))]) rfl (ZhX _)) rfl ?_;rintro u w3 hN;have iw:=ac.ob_le;have cU:=hN.choose_spec.2.2.2;replace ac:=ac.up cU;have ca:SlV (ob r++X) w3 u [Pap.mk _ _ _ _]:=hN.slv (λb hb=>(Xg.1 hb).elim (λh=>(iw b h).2) (λh=>Xj (hX b h) fk)) rfl rfl (by simp [maxLen]);replace hS:=hS.trans cU;replace fk:=hS.size;refine Z0 (ZJ (X:=X) (base:=w.heap.size) rfl (by decide) rfl rfl ac ca (by simp;omega) (by simp [maxLen];omega) fk) rfl ?_;rintro v2 w4 ⟨bD,m9,fS⟩;replace hS:=hS.own m9 (λb hb=>.inr (ac.ob_le b hb).1);refine W ?_;refine QL (k+1,v2) ⟨by dsimp only;omega,hS,?_⟩ (by dsimp only;omega);dsimp only;rw [Ya2,XL,List.map_singleton,hp];exact bD;all_goals (first|omega|skip)
   all_goals (refine WR ?_)
   all_goals exact .mk ⟨by rw [ZI,show min l.length 8=k by omega];exact ac,hS⟩
 . repeat'(first|refine W1 ?_|refine VG ?_ ?_<;>intro hg|refine VC ?_ ?_<;>intro hc)
   all_goals (first|omega|skip)
   all_goals (refine WR ?_)
   all_goals exact .mk ⟨by rw [ZI,show min l.length 8=k by omega];exact ac,hS⟩
theorem ZhZ (X Y Z:List Nat) (v u:Value) (ps:List Pap) (l:List Int) (w:World) (hX:∀ b∈X,b<w.heap.size) (aZ:SlV Z w u ps) (hl:SlV Y w v l) (hi:∀ x∈l,I64 x) (hn:ps.length<=1000) :
 CC 6 #[u,v] w λr w'=>Row X w' w.heap.size 90 r (Z19 ps l)/\Stp [] w w':=by
 have bg:=hl.max;refine cW2 46 Tryz.func6 ?_;refine W ?_;refine LP (σ:=Nat×Value) (λk=>[(0,u),(1,v),(5,k.2),(6,.I k.1)]) (λk w'=>k.1<=min ps.length l.length/\Stp [] w w'/\Row X w' w.heap.size 90 k.2 ((List.range k.1).filterMap (λi=>Z5h (ps.getD i default) (l.getD i 0)))) (λk=>ps.length - k.1) (0,.N) ⟨Xu _,Stp.refl _ _,Row.nil⟩ ?_;rintro ⟨k,r⟩ w1 ⟨hk,hS,ac⟩;dsimp only at hk hS ac ⊢;replace hl:=hl.up hS;replace aZ:=aZ.up hS;have fk:=hS.size;by_cases se:k<ps.length;by_cases ah:k<l.length
 . repeat'(first|refine W1 ?_|refine VG ?_ ?_<;>intro hg|refine VC ?_ ?_<;>intro hc)
   have hx:=hi l[k] (Xc ah);refine CM (ZK rfl rfl) (Z5g _ 1000000 hx (by omega) _) ?_;rintro _ w2 ⟨rfl,ai⟩;replace ac:=ac.up ai;replace hl:=hl.up ai;replace aZ:=aZ.up ai;replace hS:=hS.trans ai;replace fk:=hS.size;have am:((List.range k).filterMap (λi=>Z5h (ps.getD i default) (l.getD i 0))).length<=k:=by
    have:=List.length_filterMap_le (λi=>Z5h (ps.getD i default) (l.getD i 0)) (List.range k);simpa using this
   obtain ⟨h0,h1⟩:=Z2v l[k] 1000000 (by omega);have hp:Z5h (ps.getD k default) (l.getD k 0)=if Jw l[k] 1000000 % 7<6 then some ⟨ps[k].attempt,Jw l[k] 1000000 % 7,Jw l[k] 1000000 / 7 % 9,Jw l[k] 1000000 / 63 % 4⟩ else none:=by simp [List.getD,ah,se,Z5h]
   generalize Jw l[k] 1000000=n at *;focus repeat'(first|refine W1 ?_|refine VG ?_ ?_<;>intro hg|refine VC ?_ ?_<;>intro hc)
   apply Z9 (vs:=[(0,.I ps[k].attempt),(1,.I (n % 7)),(2,.I (n / 7 % 9)),(3,.I (n / 63 % 4))]) rfl (Zmb _ _ _ _) rfl;refine Z0 (Z3 (vs:=[(0,agg (Wy.mk _ _ _ _))]) rfl (ZhY _)) rfl ?_;rintro u' w3 hN;have iw:=ac.ob_le;have cU:=hN.choose_spec.2.2.2;replace ac:=ac.up cU;have ca:SlV (ob r++X) w3 u' [Wy.mk _ _ _ _]:=hN.slv (λb hb=>(Xg.1 hb).elim (λh=>(iw b h).2) (λh=>Xj (hX b h) fk)) rfl rfl (by simp [maxLen]);replace hS:=hS.trans cU;replace fk:=hS.size;refine Z0 (ZJ (X:=X) (base:=w.heap.size) rfl (by decide) rfl rfl ac ca (by simp only [Xo,Xr];omega) (by simp only [Xo,Xr,maxLen];omega) fk) rfl ?_;rintro v2 w4 ⟨bD,m9,fS⟩;replace hS:=hS.own m9 (λb hb=>.inr (ac.ob_le b hb).1);refine W ?_;refine QL (k+1,v2) ⟨by dsimp only;omega,hS,?_⟩ (by dsimp only;omega);dsimp only;rw [Ya2,List.filterMap_append,Z2H,hp,if_pos (by assumption)];exact bD;refine QL (k+1,r) ⟨by dsimp only;omega,hS,?_⟩ (by dsimp only;omega);dsimp only;rw [Ya2,List.filterMap_append,Z2H,hp,if_neg (by assumption)];simpa using ac;all_goals (first|omega|skip)
 . repeat'(first|refine W1 ?_|refine VG ?_ ?_<;>intro hg|refine VC ?_ ?_<;>intro hc)
   all_goals (first|omega|skip)
   all_goals (refine WR ?_)
   all_goals exact .mk ⟨by rw [Z19,show min ps.length l.length=k by omega];exact ac,hS⟩
 . repeat'(first|refine W1 ?_|refine VG ?_ ?_<;>intro hg|refine VC ?_ ?_<;>intro hc)
   all_goals (first|omega|skip)
   all_goals (refine WR ?_)
   all_goals exact .mk ⟨by rw [Z19,show min ps.length l.length=k by omega];exact ac,hS⟩
def Z68 (till:Int) (ws:List Wy) (ds:List Dlv) (p:Pap):List Dlv:=
 if Z15 p (Z2G ws p.attempt)=true/\(Z2c p (Z2G ws p.attempt)).day<=till then Zqq ds (Z2c p (Z2G ws p.attempt)) else ds
def ZeL (till:Int) (rs:List Rpt) (r:Rpt):List Rpt:=if r.day<=till then Zqr rs r else rs
def Z5i (till:Int) (ws:List Wy) (rs:List Rpt) (p:Pap):List Rpt:=(J9 p (Z2G ws p.attempt)).foldl (ZeL till) rs
def Zpq (till:Int) (ws:List Wy) (ps:List Pap):List Dlv:=ps.foldl (Z68 till ws) []
def Zc (till:Int) (ws:List Wy) (ps:List Pap):List Rpt:=ps.foldl (Z5i till ws) []
theorem Z5j (p:Pap) (y:Wy):(J9 p y).length<=2:=by unfold J9;split<;>(try split)<;>simp
theorem Z9J {α β:Type} (f:β->α->β) (l:List α) (k:Nat) (hk:k<l.length) (z:β):(l.take (k+1)).foldl f z=f ((l.take k).foldl f z) l[k]:=by
 rw [Xf hk,Ya6];rfl
def Z69 {α:Type} [Z2 α] (P:Program) (S:List Nat) (g:Nat) (lb:Array Value) (p:α->Bool) (w:World):Prop:=
 ∀ (x:α) (w':World),Stp S w w'->Calls P g (#[agg x]++lb) w' (Ret λv w''=>v=.B (p x)/\Stp [] w' w'')
theorem Z69.pred {α:Type} [Z2 α] {P:Program} {S:List Nat} {g:Nat} {lb:Array Value} {p:α->Bool} {w w':World} (h:Z69 P S g lb p w) (hS:Stp S w w'):ZbI P g lb p w':=
 λx w'' h2=>h x w'' (hS.trans h2.mn)
theorem ZeM (d:Dlv) (w):CC 19 #[agg d] w λv w'=>v=.tuple #[.I d.day,.I d.attempt]/\Stp [] w w':=by
 refine cW1 8 Tryz.func19 ?_;refine W ?_;refine Z0 (Zl rfl) rfl ?_;rintro _ w2 ⟨c,rfl,hc,ab,hS⟩;replace ab:Blk w2 c _ (Z2.enc d):=ab;refine W ?_;refine ZDr 6 [] [] [(0,0),(1,1),(2,0),(3,1),(4,0),(5,0)] (λw1 ae=>?_);replace hS:=hS.trans ae;replace ab:=ab.up ae;repeat'(first|refine D1 ?_|omega|refine Z8 rfl rfl rfl rfl (λhg=>?_) (λhg=>?_)|(refine Z6 rfl rfl rfl rfl (λhg=>?_) (λhg=>?_)<;>refine D1 ?_)|fail)
 refine RT ?_;exact ⟨rfl,hS⟩
theorem ZeN (d:Rpt) (w):CC 21 #[agg d] w λv w'=>v=.tuple #[.I d.day,.I d.attempt]/\Stp [] w w':=by
 refine cW1 8 Tryz.func21 ?_;refine W ?_;refine Z0 (Zl rfl) rfl ?_;rintro _ w2 ⟨c,rfl,hc,ab,hS⟩;replace ab:Blk w2 c _ (Z2.enc d):=ab;refine W ?_;refine ZDr 6 [] [] [(0,0),(1,1),(2,0),(3,1),(4,0),(5,0)] (λw1 ae=>?_);replace hS:=hS.trans ae;replace ab:=ab.up ae;repeat'(first|refine D1 ?_|omega|refine Z8 rfl rfl rfl rfl (λhg=>?_) (λhg=>?_)|(refine Z6 rfl rfl rfl rfl (λhg=>?_) (λhg=>?_)<;>refine D1 ?_)|fail)
 refine RT ?_;exact ⟨rfl,hS⟩
def orI (x y:Int):Int:=if x≠0 then x else y
theorem ZaG (X:List Nat) (v:Value) (x y:Int) (w) (hv:SlV X w v [x,y]):CC 53 #[v] w λr w'=>r=.I (orI x y)/\Stp [] w w':=by
 refine cW1 18 Tryz.func53 ?_;refine W ?_;refine LP (σ:=Nat) (λk=>[(3,.I 0),(6,v),(7,.I 2),(8,.I k)]) (λk w'=>k<=2/\Stp [] w w'/\(0<k->x=0)/\(1<k->y=0)) (λk=>2 - k) 0 ⟨by omega,Stp.refl _ _,by omega,by omega⟩ ?_;rintro k w1 ⟨hk,hS,hx,hy⟩;replace hv:=hv.up hS;have hc:k=0\/k=1\/k=2:=by omega
 rcases hc with rfl|rfl|rfl
 have h2:0 < [x,y].length:=by simp
 focus repeat'(first|refine W1 ?_|refine VG ?_ ?_<;>intro hg|refine VC ?_ ?_<;>intro hc)
 refine RU ?_;exact ⟨by simp_all [orI],hS⟩;exact QL 1 ⟨by omega,hS,λ_=>by simp_all,by omega⟩ (by omega);have h2:1 < [x,y].length:=by simp
 focus repeat'(first|refine W1 ?_|refine VG ?_ ?_<;>intro hg|refine VC ?_ ?_<;>intro hc)
 refine RU ?_;exact ⟨by simp_all [orI],hS⟩;exact QL 2 ⟨by omega,hS,λ_=>hx (by omega),λ_=>by simp_all⟩ (by omega);focus repeat'(first|refine W1 ?_|refine VG ?_ ?_<;>intro hg|refine VC ?_ ?_<;>intro hc)
 refine RU ?_;exact ⟨by simp_all [orI],hS⟩
theorem Zpr (S:List Nat) (b1 b2 T1 T2:Nat) (till:Int) (w) (h1:Blk w b1 T1 [.func (.func 19) #[] #[]]) (h2:Blk w b2 T2 [.I till]) (n1:b1∉S) (n2:b2∉S) :
 Z69 Tryz.prog S 50 #[pQ b1,pQ b2] (λx:Dlv=>decide (x.day > till)) w:=by
 intro x w1 hS;replace h1:=h1.ext hS n1;replace h2:=h2.ext hS n2;show Calls _ _ #[agg x,pQ b1,pQ b2] _ _;refine cW3 16 Tryz.func50 ?_;refine W ?_;refine Z0 (Zl rfl) rfl ?_;rintro _ w2 ⟨c,rfl,hc,ab,ai⟩;replace ab:Blk w2 c _ (Z2.enc x):=ab;replace h1:=h1.up ai;replace h2:=h2.up ai;refine W ?_;refine Z0 (ZC (f:=19) rfl (ZO rfl) rfl (ZeM _ _)) rfl ?_;rintro _ w3 ⟨rfl,aw⟩;replace h2:=h2.up aw;refine RT ?_;exact ⟨rfl,ai.trans aw⟩
def Z7b (x y:Dlv):Int:=orI (Z1C x.day y.day) (Z1C x.attempt y.attempt)
theorem Zps (S:List Nat) (b T:Nat) (w) (h1:Blk w b T [.func (.func 19) #[] #[]]) (n1:b∉S) :
 Z4s Tryz.prog S 52 #[pQ b] Z7b w:=by
 intro x y w1 hS;replace h1:=h1.ext hS n1;show Calls _ _ #[agg x,agg y,pQ b] _ _;refine cW3 30 Tryz.func52 ?_;refine W ?_;refine Z0 (Zl rfl) rfl ?_;rintro _ w2 ⟨c,rfl,hc,ab,ai⟩;replace ab:Blk w2 c _ (Z2.enc x):=ab;replace h1:=h1.up ai;refine Z0 (Zl rfl) rfl ?_;rintro _ w3 ⟨c2,rfl,dt,au,aw⟩;replace au:Blk w3 c2 _ (Z2.enc y):=au;replace h1:=h1.up aw;replace ab:=ab.up aw;replace ai:=ai.trans aw;refine W ?_;refine Z0 (ZC (f:=19) rfl (ZO rfl) rfl (ZeM _ _)) rfl ?_;rintro _ w4 ⟨rfl,ay⟩;replace h1:=h1.up ay;replace ab:=ab.up ay;replace au:=au.up ay;replace ai:=ai.trans ay;refine W ?_;refine Z0 (ZC (f:=19) rfl (ZO rfl) rfl (ZeM _ _)) rfl ?_;rintro _ w5 ⟨rfl,aB⟩;replace ai:=ai.trans aB;refine W ?_;refine CL (Z0j _ _ _) ?_;rintro _ w6 ⟨rfl,bR⟩;replace ai:=ai.trans bR;refine W ?_;refine CL (Z0j _ _ _) ?_;rintro _ w7 ⟨rfl,aR⟩;replace ai:=ai.trans aR;refine Z0 (Z3 (vs:=[(0,.I (Z1C x.day y.day)),(1,.I (Z1C x.attempt y.attempt))]) rfl (Z67 _ _)) rfl ?_;rintro u w8 hN;have hu:SlV [] w8 u [Z1C x.day y.day,Z1C x.attempt y.attempt]:=hN.slv (by simp) rfl rfl (by simp [maxLen]);replace ai:=ai.trans hN.choose_spec.2.2.2;refine CL (ZaG _ _ _ _ _ hu) ?_;rintro _ w9 ⟨rfl,cG⟩;refine RT ?_;exact ⟨rfl,ai.trans cG⟩
theorem Zpt (S:List Nat) (b1 b2 T1 T2:Nat) (till:Int) (w) (h1:Blk w b1 T1 [.func (.func 21) #[] #[]]) (h2:Blk w b2 T2 [.I till]) (n1:b1∉S) (n2:b2∉S) :
 Z69 Tryz.prog S 56 #[pQ b1,pQ b2] (λx:Rpt=>decide (x.day > till)) w:=by
 intro x w1 hS;replace h1:=h1.ext hS n1;replace h2:=h2.ext hS n2;show Calls _ _ #[agg x,pQ b1,pQ b2] _ _;refine cW3 16 Tryz.func56 ?_;refine W ?_;refine Z0 (Zl rfl) rfl ?_;rintro _ w2 ⟨c,rfl,hc,ab,ai⟩;replace ab:Blk w2 c _ (Z2.enc x):=ab;replace h1:=h1.up ai;replace h2:=h2.up ai;refine W ?_;refine Z0 (ZC (f:=21) rfl (ZO rfl) rfl (ZeN _ _)) rfl ?_;rintro _ w3 ⟨rfl,aw⟩;replace h2:=h2.up aw;refine RT ?_;exact ⟨rfl,ai.trans aw⟩
def Z7c (x y:Rpt):Int:=orI (Z1C x.day y.day) (Z1C x.attempt y.attempt)
theorem Zpu (S:List Nat) (b T:Nat) (w) (h1:Blk w b T [.func (.func 21) #[] #[]]) (n1:b∉S) :
 Z4s Tryz.prog S 58 #[pQ b] Z7c w:=by
 intro x y w1 hS;replace h1:=h1.ext hS n1;show Calls _ _ #[agg x,agg y,pQ b] _ _;refine cW3 30 Tryz.func58 ?_;refine W ?_;refine Z0 (Zl rfl) rfl ?_;rintro _ w2 ⟨c,rfl,hc,ab,ai⟩;replace ab:Blk w2 c _ (Z2.enc x):=ab;replace h1:=h1.up ai;refine Z0 (Zl rfl) rfl ?_;rintro _ w3 ⟨c2,rfl,dt,au,aw⟩;replace au:Blk w3 c2 _ (Z2.enc y):=au;replace h1:=h1.up aw;replace ab:=ab.up aw;replace ai:=ai.trans aw;refine W ?_;refine Z0 (ZC (f:=21) rfl (ZO rfl) rfl (ZeN _ _)) rfl ?_;rintro _ w4 ⟨rfl,ay⟩;replace h1:=h1.up ay;replace ab:=ab.up ay;replace au:=au.up ay;replace ai:=ai.trans ay;refine W ?_;refine Z0 (ZC (f:=21) rfl (ZO rfl) rfl (ZeN _ _)) rfl ?_;rintro _ w5 ⟨rfl,aB⟩;replace ai:=ai.trans aB;refine W ?_;refine CL (Z0j _ _ _) ?_;rintro _ w6 ⟨rfl,bR⟩;replace ai:=ai.trans bR;refine W ?_;refine CL (Z0j _ _ _) ?_;rintro _ w7 ⟨rfl,aR⟩;replace ai:=ai.trans aR;refine Z0 (Z3 (vs:=[(0,.I (Z1C x.day y.day)),(1,.I (Z1C x.attempt y.attempt))]) rfl (Z67 _ _)) rfl ?_;rintro u w8 hN;have hu:SlV [] w8 u [Z1C x.day y.day,Z1C x.attempt y.attempt]:=hN.slv (by simp) rfl rfl (by simp [maxLen]);replace ai:=ai.trans hN.choose_spec.2.2.2;refine CL (ZaG _ _ _ _ _ hu) ?_;rintro _ w9 ⟨rfl,cG⟩;refine RT ?_;exact ⟨rfl,ai.trans cG⟩
theorem Z2I {α:Type} {ys xs:List α} {i j:Nat} (bN:i<j) (hj:j<xs.length) (hl:ys.length=xs.length) (hd:ys.drop j=xs.drop j) :
 (ys.set i xs[j]).take (i+1)=ys.take i++[xs[j]]/\(ys.set i xs[j]).drop (j+1)=xs.drop (j+1):=by
 constructor;apply YaU;simp;omega;intro m h1 h2;by_cases hm:m<i;rw [Yat (by simp;omega)];simp [show ¬ i=m by omega];have:m=i:=by simp at h1;omega
 subst this;rw [Yaf (by simp;omega)];simp;rw [List.drop_set_of_lt (by omega)];have:=congrArg (List.drop 1) hd;simpa [YbW] using this
theorem Zi0 (g:Nat) (fn:Func) [Fun Tryz.prog g fn] (lb:Array Value) (p:Dlv->Bool) (X:List Nat) (base:Nat) (v:Value) (xs:List Dlv) (w:World) (hX:∀ b∈X,b<base) (aF:base<=w.heap.size) (ac:Row X w base 94 v xs) (hp:Z69 Tryz.prog (ob v) g lb p w) (am:xs.length<=1000) :
 CC 49 #[v,.func (.func g) #[] lb] w λr w'=>Row X w' base 94 r (xs.filter (λx=>!p x))/\Stp (ob v) w w'/\ob r=ob v:=by
 have hs:=ac.slv hX;refine cW2 42 Tryz.func49 ?_;refine W ?_;refine CL (Z5G g fn lb p X v xs _ hs (hp.pred (Stp.refl _ _))) ?_;rintro _ w1 ⟨rfl,ae⟩;replace hs:=hs.up ae;replace ac:=ac.up ae;rcases Z41 p xs with ⟨hi,bO⟩|⟨k,hk,hi,_,kP,hb⟩
 rw [hi];refine W ?_;refine WR ?_;have:xs.filter (λx=>!p x)=xs:=by
  rw [YaP];intro x hx;have:=Yar.1 bO x hx;simpa using this
 exact .mk ⟨by rw [this];exact ac,ae.mn,rfl⟩;rw [hi];focus repeat'(first|refine W1 ?_|refine VG ?_ ?_<;>intro hg|refine VC ?_ ?_<;>intro hc)
 refine Zr (σ:=Nat×Nat) (λs=>[(0,v),(1,.func (.func g) #[] lb),(5,.I s.1),(6,.I s.2)])
  (λs w'=>s.1<s.2/\s.2<=xs.length/\Stp (ob v) w w'/\∃ ys,ys.length=xs.length/\Row X w' base 94 v ys/\ys.take s.1=(xs.take s.2).filter (λx=>!p x)/\ys.drop s.2=xs.drop s.2) (λs=>xs.length - s.2) (k,k+1) ⟨rfl,rfl,rfl,rfl,trivial⟩
  ⟨by simp,hk,ae.mn,xs,rfl,ac,?_,rfl⟩ ?_
 dsimp only;rw [Xf hk,XT];have h1:(xs.take k).filter (λx=>!p x)=xs.take k:=by
  rw [YaP];intro x hx;obtain ⟨m,hm,rfl⟩:=Xq hx;simp at hm;simp [hb m (by omega) (by omega)]
 simp [h1,kP];rintro ⟨i,j⟩ w2 ⟨bN,hj,hS,ys,cQ,ac,fT,fU⟩;dsimp only at bN hj fT fU ⊢;have eA:=ac.slv hX;have gk:=hS.size;by_cases na:j<ys.length
 . have fp:j<xs.length:=by omega
   repeat'(first|refine W1 ?_|refine VG ?_ ?_<;>intro hg|refine VC ?_ ?_<;>intro hc)
   rotate_left
   omega;have ix:ys[j]=xs[j]:=by
    have:=congrArg (λl=>l[0]?) fU;simpa [na,fp] using this
   have iy:=ac.ob_le;refine Z0 Z4 rfl ?_;rintro _ w3 ⟨b,rfl,bQ,ab,aw⟩;refine SA (us:=Z2.enc ys[j]) ab ?_;rintro _ w4 ⟨ay,ab⟩;replace ay:=aw.own ay (S:=[]) (by simp;omega);replace ac:=ac.up ay;replace eA:=eA.up ay;replace hS:=hS.trans ay.mn;have hq:xs.take (j+1)=xs.take j++[xs[j]]:=Xf fp;refine W ?_;refine Z0 (ZC (f:=g) rfl (ZO rfl) rfl (hp ys[j] w4 hS)) rfl ?_;rintro _ w5 ⟨rfl,aB⟩;replace ac:=ac.up aB;replace eA:=eA.up aB;replace ab:=ab.up aB;replace hS:=hS.trans aB.mn;cases j9:p ys[j] with
   | true=>
     repeat'(first|refine W1 ?_|refine VG ?_ ?_<;>intro hg|refine VC ?_ ?_<;>intro hc)
     refine QL (i,j+1) ⟨by dsimp only;omega,fp,hS,ys,cQ,ac,?_,?_⟩ (by dsimp only;omega);dsimp only;rw [hq,XT,fT,<- ix];simp [j9];dsimp only;have:=congrArg (List.drop 1) fU;simpa [YbW] using this
   | false=>
     have nc:i<ys.length:=by omega
     have gz:b∉ob v:=λh=>by have:=(iy b h).2;omega
     repeat'(first|refine W1 ?_|refine VG ?_ ?_<;>intro hg|refine VC ?_ ?_<;>intro hc)
     refine Z5 (JE (i:=i) (y':=ys[j]) rfl rfl rfl rfl ac hX nc) ?_;rintro _ w6 ⟨ac,bR⟩;refine W ?_;obtain ⟨e1,e2⟩:=Z2I bN fp cQ fU;refine QL (i+1,j+1) ⟨by dsimp only;omega,fp,hS.trans bR,ys.set i xs[j],by simp [cQ],?_,?_,e2⟩ (by dsimp only;omega);rw [ix] at ac;exact ac;dsimp only;rw [hq,XT,e1,fT,<- ix];simp [j9]
 have fa:j=xs.length:=by omega
 focus repeat'(first|refine W1 ?_|refine VG ?_ ?_<;>intro hg|refine VC ?_ ?_<;>intro hc)
 omega;have fH:i<=ys.length:=by omega
 apply Z7 (Z1r rfl eA rfl rfl fH) rfl;refine Z5 (Z33 (by decide) (by decide) (by decide) rfl ac fH) ?_;rintro _ w6 ⟨ac,bR⟩;refine W ?_;apply Z7 (Z1q rfl eA rfl rfl fH) rfl;refine W ?_;refine WR ?_;refine .mk ⟨?_,hS.trans bR,Z4L _ _ _⟩;rw [fT,fa,Xs] at ac;exact ac
theorem Zi1 (g:Nat) (fn:Func) [Fun Tryz.prog g fn] (lb:Array Value) (p:Rpt->Bool) (X:List Nat) (base:Nat) (v:Value) (xs:List Rpt) (w:World) (hX:∀ b∈X,b<base) (aF:base<=w.heap.size) (ac:Row X w base 64 v xs) (hp:Z69 Tryz.prog (ob v) g lb p w) (am:xs.length<=1000) :
 CC 55 #[v,.func (.func g) #[] lb] w λr w'=>Row X w' base 64 r (xs.filter (λx=>!p x))/\Stp (ob v) w w'/\ob r=ob v:=by
 have hs:=ac.slv hX;refine cW2 42 Tryz.func55 ?_;refine W ?_;refine CL (Z8q g fn lb p X v xs _ hs (hp.pred (Stp.refl _ _))) ?_;rintro _ w1 ⟨rfl,ae⟩;replace hs:=hs.up ae;replace ac:=ac.up ae;rcases Z41 p xs with ⟨hi,bO⟩|⟨k,hk,hi,_,kP,hb⟩
 rw [hi];refine W ?_;refine WR ?_;have:xs.filter (λx=>!p x)=xs:=by
  rw [YaP];intro x hx;have:=Yar.1 bO x hx;simpa using this
 exact .mk ⟨by rw [this];exact ac,ae.mn,rfl⟩;rw [hi];focus repeat'(first|refine W1 ?_|refine VG ?_ ?_<;>intro hg|refine VC ?_ ?_<;>intro hc)
 refine Zr (σ:=Nat×Nat) (λs=>[(0,v),(1,.func (.func g) #[] lb),(5,.I s.1),(6,.I s.2)])
  (λs w'=>s.1<s.2/\s.2<=xs.length/\Stp (ob v) w w'/\∃ ys,ys.length=xs.length/\Row X w' base 64 v ys/\ys.take s.1=(xs.take s.2).filter (λx=>!p x)/\ys.drop s.2=xs.drop s.2) (λs=>xs.length - s.2) (k,k+1) ⟨rfl,rfl,rfl,rfl,trivial⟩
  ⟨by simp,hk,ae.mn,xs,rfl,ac,?_,rfl⟩ ?_
 dsimp only;rw [Xf hk,XT];have h1:(xs.take k).filter (λx=>!p x)=xs.take k:=by
  rw [YaP];intro x hx;obtain ⟨m,hm,rfl⟩:=Xq hx;simp at hm;simp [hb m (by omega) (by omega)]
 simp [h1,kP];rintro ⟨i,j⟩ w2 ⟨bN,hj,hS,ys,cQ,ac,fT,fU⟩;dsimp only at bN hj fT fU ⊢;have eA:=ac.slv hX;have gk:=hS.size;by_cases na:j<ys.length
 . have fp:j<xs.length:=by omega
   repeat'(first|refine W1 ?_|refine VG ?_ ?_<;>intro hg|refine VC ?_ ?_<;>intro hc)
   rotate_left
   omega;have ix:ys[j]=xs[j]:=by
    have:=congrArg (λl=>l[0]?) fU;simpa [na,fp] using this
   have iy:=ac.ob_le;refine Z0 Z4 rfl ?_;rintro _ w3 ⟨b,rfl,bQ,ab,aw⟩;refine SA (us:=Z2.enc ys[j]) ab ?_;rintro _ w4 ⟨ay,ab⟩;replace ay:=aw.own ay (S:=[]) (by simp;omega);replace ac:=ac.up ay;replace eA:=eA.up ay;replace hS:=hS.trans ay.mn;have hq:xs.take (j+1)=xs.take j++[xs[j]]:=Xf fp;refine W ?_;refine Z0 (ZC (f:=g) rfl (ZO rfl) rfl (hp ys[j] w4 hS)) rfl ?_;rintro _ w5 ⟨rfl,aB⟩;replace ac:=ac.up aB;replace eA:=eA.up aB;replace ab:=ab.up aB;replace hS:=hS.trans aB.mn;cases j9:p ys[j] with
   | true=>
     repeat'(first|refine W1 ?_|refine VG ?_ ?_<;>intro hg|refine VC ?_ ?_<;>intro hc)
     refine QL (i,j+1) ⟨by dsimp only;omega,fp,hS,ys,cQ,ac,?_,?_⟩ (by dsimp only;omega);dsimp only;rw [hq,XT,fT,<- ix];simp [j9];dsimp only;have:=congrArg (List.drop 1) fU;simpa [YbW] using this
   | false=>
     have nc:i<ys.length:=by omega
     have gz:b∉ob v:=λh=>by have:=(iy b h).2;omega
     repeat'(first|refine W1 ?_|refine VG ?_ ?_<;>intro hg|refine VC ?_ ?_<;>intro hc)
     refine Z5 (JE (i:=i) (y':=ys[j]) rfl rfl rfl rfl ac hX nc) ?_;rintro _ w6 ⟨ac,bR⟩;refine W ?_;obtain ⟨e1,e2⟩:=Z2I bN fp cQ fU;refine QL (i+1,j+1) ⟨by dsimp only;omega,fp,hS.trans bR,ys.set i xs[j],by simp [cQ],?_,?_,e2⟩ (by dsimp only;omega);rw [ix] at ac;exact ac;dsimp only;rw [hq,XT,e1,fT,<- ix];simp [j9]
 have fa:j=xs.length:=by omega
 focus repeat'(first|refine W1 ?_|refine VG ?_ ?_<;>intro hg|refine VC ?_ ?_<;>intro hc)
 omega;have fH:i<=ys.length:=by omega
 apply Z7 (Z1r rfl eA rfl rfl fH) rfl;refine Z5 (Z33 (by decide) (by decide) (by decide) rfl ac fH) ?_;rintro _ w6 ⟨ac,bR⟩;refine W ?_;apply Z7 (Z1q rfl eA rfl rfl fH) rfl;refine W ?_;refine WR ?_;refine .mk ⟨?_,hS.trans bR,Z4L _ _ _⟩;rw [fT,fa,Xs] at ac;exact ac
theorem Z9K (g:Nat) (fn:Func) [Fun Tryz.prog g fn] (lb:Array Value) (c:Dlv->Dlv->Int) (ho:Ord c) (X:List Nat) (base:Nat) (v:Value) (xs:List Dlv) (w:World) (hX:∀ b∈X,b<base) (aF:base<=w.heap.size) (ac:Row X w base 94 v xs) (hp:Z4s Tryz.prog (ob v) g lb c w) (am:xs.length<=1000) :
 CC 164 #[v,.I 0,.I xs.length,.func (.func g) #[] lb] w λr w'=>∃ ys,JU c xs ys/\Row X w' base 94 v ys/\Stp (ob v) w w':=by
 refine cW4 53 Tryz.func164 ?_;refine W ?_
 refine Zr (σ:=Nat) (λi=>[(0,v),(1,.I 0),(2,.I xs.length),(3,.func (.func g) #[] lb),(8,.I (i+1))])
  (λi w'=>Stp (ob v) w w'/\∃ ys,ys.Perm xs/\Row X w' base 94 v ys/\(ys.take (i+1)).Pairwise (λa b=>¬ c b a<0)) (λi=>xs.length - i) 0 ⟨rfl,rfl,rfl,rfl,rfl,trivial⟩
  ⟨Stp.refl _ _,xs,YaA _,ac,?_⟩ ?_
 . cases xs with
   | nil=>simp
   | cons x r=>simp
 rintro i w1 ⟨hS,ys,bC,ac,bY⟩;have cQ:=bC.length_eq;by_cases kO:i+1<xs.length
 . repeat'(first|refine W1 ?_|refine VG ?_ ?_<;>intro hg|refine VC ?_ ?_<;>intro hc)
   rotate_left
   omega;obtain ⟨pre,x,rest,dL,rfl⟩:∃ pre x rest,pre.length=i+1/\ys=put pre rest x pre.length:=by
    refine ⟨ys.take (i+1),ys[i+1],ys.drop (i+2),by simp;omega,?_⟩;unfold put;have hl:(ys.take (i+1)).length=i+1:=by simp;omega
    rw [hl,Yah,Nat.min_self,Yax (by omega)]
    conv=>lhs;rw [<- Xy (i+1) ys,X5 (by omega)]
    simp
   have bB:pre.Pairwise (λa b=>¬ c b a<0):=by
    have:(put pre rest x pre.length).take (i+1)=pre:=by
     unfold put;rw [Xs,Yas,XA,<- dL,YaJ];rfl
    rwa [this] at bY
   have jX:pre.length+1+rest.length=xs.length:=by rw [<- cQ,Z0A]
   have fin:∀ j (w':World),j<=pre.length->Stp (ob v) w w'->Row X w' base 94 v (put pre rest x j)->(∀ q (h:q<pre.length),j<=q->c x pre[q]<0)->(∀ h:j - 1<pre.length,0<j->¬ c x pre[j - 1]<0)->
    Stp (ob v) w w'/\∃ ys,ys.Perm xs/\Row X w' base 94 v ys/\(ys.take (i+1+1)).Pairwise (λa b=>¬ c b a<0):=by
    intro j w' hj hS ac h1 h2;refine ⟨hS,put pre rest x j,?_,ac,?_⟩;refine List.Perm.trans ?_ bC;unfold put;rw [Xs,Yas];refine Yak _ ?_;refine List.Perm.trans Ybc ?_;rw [Xy];exact (YaD x pre).symm;have e:(put pre rest x j).take (i+1+1)=pre.take j++x :: pre.drop j:=by
     have hl:(pre.take j++x :: pre.drop j).length=i+1+1:=by
      have:=congrArg List.length (Xy j pre);simp only [Xe] at this;simp only [Xe,Xo];omega
     unfold put;rw [<- hl,YaJ];rfl
    rw [e];exact Z2Y ho hj bB h1 h2
   refine Zr (σ:=Nat) (λj=>[(0,v),(1,.I 0),(2,.I xs.length),(3,.func (.func g) #[] lb),(8,.I (i+1)),(9,.I (j:Int))])
    (λj w'=>j<=pre.length/\Stp (ob v) w w'/\Row X w' base 94 v (put pre rest x j)/\(∀ q (h:q<pre.length),j<=q->c x pre[q]<0)) (λj=>j) (i+1) ⟨rfl,rfl,rfl,rfl,rfl,rfl,trivial⟩
    ⟨by omega,hS,by rw [dL] at ac;exact ac,λq h hq=>by omega⟩ ?_
   clear ac hS;rintro j w2 ⟨hj,hS,ac,ah⟩;have hs:=ac.slv hX;cases j with
   | zero=>
     refine W ?_;refine ZDr 17 [] [] [(0,0),(1,0),(2,0),(3,0),(4,0),(5,0),(6,0),(7,0),(8,1),(9,0),(10,0),(11,0),(12,0),(13,1),(14,2),(15,0),(16,0)] (λw1 ae=>?_);replace hS:=hS.trans ae.mn;replace ac:=ac.up ae;replace hs:=hs.up ae;repeat'(first|refine D1 ?_|omega|refine Z8 rfl rfl rfl rfl (λhg=>?_) (λhg=>?_)|(refine Z6 rfl rfl rfl rfl (λhg=>?_) (λhg=>?_)<;>refine D1 ?_)|fail)
     refine W ?_;exact QL (i+1) (fin 0 _ (Xu _) hS ac ah (λ_ h=>absurd h (YbK _))) (by omega)
   | succ j=>
     have hz:((j+1:Nat):Int) - 1=(j:Int):=by omega
     have cY:j+1<(put pre rest x (j+1)).length:=by rw [Z0A];omega
     have gJ:j<(put pre rest x (j+1)).length:=by rw [Z0A];omega
     have a1:=Z9r (rest:=rest) (x:=x) hj cY;have a0:=Z2X (rest:=rest) (x:=x) (YaM hj) gJ;refine W ?_;refine ZDr 17 [] [] [(0,0),(1,0),(2,0),(3,0),(4,0),(5,0),(6,0),(7,0),(8,1),(9,0),(10,0),(11,0),(12,0),(13,1),(14,2),(15,0),(16,0)] (λw1 ae=>?_);replace hS:=hS.trans ae.mn;replace ac:=ac.up ae;replace hs:=hs.up ae;repeat'(first|refine D1 ?_|omega|refine Z8 rfl rfl rfl rfl (λhg=>?_) (λhg=>?_)|(refine Z6 rfl rfl rfl rfl (λhg=>?_) (λhg=>?_)<;>refine D1 ?_)|fail)
     refine Zp rfl (by first|exact trivial|exact rfl) (ZC (f:=g) rfl (ZK rfl rfl) rfl (hp _ _ _ hS)) (λ_ _ h=>h.2) rfl ?_;rintro _ w3 ⟨rfl,aw⟩;rw [a1,a0];replace hS:=hS.trans aw.mn;replace ac:=ac.up aw;replace hs:=hs.up aw;repeat'(first|refine D1 ?_|omega|refine Z8 rfl rfl rfl rfl (λhg=>?_) (λhg=>?_)|(refine Z6 rfl rfl rfl rfl (λhg=>?_) (λhg=>?_)<;>refine D1 ?_)|fail)
     repeat'(first|refine W1 ?_|refine VG ?_ ?_<;>intro hg|refine VC ?_ ?_<;>intro hc)
     rename_i hc;refine ZDr 18 [] [15,17] [(0,0),(1,0),(2,0),(3,0),(4,0),(5,0),(6,0),(7,0),(8,0),(9,1),(10,0),(11,0),(12,0),(13,1),(14,0),(15,2),(16,0),(17,2)] (λw1 ae=>?_);replace hS:=hS.trans ae.mn;replace ac:=ac.up ae;replace hs:=hs.up ae;focus repeat'(first|refine D1 ?_|omega|refine Z8 rfl rfl rfl rfl (λhg=>?_) (λhg=>?_)|(refine Z6 rfl rfl rfl rfl (λhg=>?_) (λhg=>?_)<;>refine D1 ?_)|fail)
     rw [a1,a0];refine Jg rfl trivial (JE (i:=j+1) (y':=pre[j]) rfl rfl rfl rfl ac hX cY) rfl ?_;rintro _ w4 ⟨ac,ay⟩;replace hS:=hS.trans ay;focus repeat'(first|refine D1 ?_|omega|refine Z8 rfl rfl rfl rfl (λhg=>?_) (λhg=>?_)|(refine Z6 rfl rfl rfl rfl (λhg=>?_) (λhg=>?_)<;>refine D1 ?_)|fail)
     refine Jg rfl trivial (JE (i:=j) (y':=x) rfl rfl rfl rfl ac hX (by rw [Yac];exact gJ)) rfl ?_;rintro _ w5 ⟨ac,aB⟩;replace hS:=hS.trans aB;rw [Z5a (YaM hj)] at ac;focus repeat'(first|refine D1 ?_|omega|refine Z8 rfl rfl rfl rfl (λhg=>?_) (λhg=>?_)|(refine Z6 rfl rfl rfl rfl (λhg=>?_) (λhg=>?_)<;>refine D1 ?_)|fail)
     refine W ?_;refine J3 j ⟨rfl,rfl,rfl,rfl,rfl,(by rw [<- hz];rfl),trivial⟩ ⟨by omega,hS,ac,λq h hq=>?_⟩ (by omega);by_cases e:q=j;subst e;exact hc;exact ah q h (by omega);exact QL (i+1) (fin (j+1) _ hj hS ac ah (λ_ _=>by assumption)) (by omega)
 focus repeat'(first|refine W1 ?_|refine VG ?_ ?_<;>intro hg|refine VC ?_ ?_<;>intro hc)
 omega;refine WR ?_;refine .mk ⟨ys,⟨bC,?_⟩,ac,hS⟩
 rwa [XH (by omega)] at bY
theorem Z9L (g:Nat) (fn:Func) [Fun Tryz.prog g fn] (lb:Array Value) (c:Rpt->Rpt->Int) (ho:Ord c) (X:List Nat) (base:Nat) (v:Value) (xs:List Rpt) (w:World) (hX:∀ b∈X,b<base) (aF:base<=w.heap.size) (ac:Row X w base 64 v xs) (hp:Z4s Tryz.prog (ob v) g lb c w) (am:xs.length<=1000) :
 CC 166 #[v,.I 0,.I xs.length,.func (.func g) #[] lb] w λr w'=>∃ ys,JU c xs ys/\Row X w' base 64 v ys/\Stp (ob v) w w':=by
 refine cW4 53 Tryz.func166 ?_;refine W ?_
 refine Zr (σ:=Nat) (λi=>[(0,v),(1,.I 0),(2,.I xs.length),(3,.func (.func g) #[] lb),(8,.I (i+1))])
  (λi w'=>Stp (ob v) w w'/\∃ ys,ys.Perm xs/\Row X w' base 64 v ys/\(ys.take (i+1)).Pairwise (λa b=>¬ c b a<0)) (λi=>xs.length - i) 0 ⟨rfl,rfl,rfl,rfl,rfl,trivial⟩
  ⟨Stp.refl _ _,xs,YaA _,ac,?_⟩ ?_
 . cases xs with
   | nil=>simp
   | cons x r=>simp
 rintro i w1 ⟨hS,ys,bC,ac,bY⟩;have cQ:=bC.length_eq;by_cases kO:i+1<xs.length
 . repeat'(first|refine W1 ?_|refine VG ?_ ?_<;>intro hg|refine VC ?_ ?_<;>intro hc)
   rotate_left
   omega;obtain ⟨pre,x,rest,dL,rfl⟩:∃ pre x rest,pre.length=i+1/\ys=put pre rest x pre.length:=by
    refine ⟨ys.take (i+1),ys[i+1],ys.drop (i+2),by simp;omega,?_⟩;unfold put;have hl:(ys.take (i+1)).length=i+1:=by simp;omega
    rw [hl,Yah,Nat.min_self,Yax (by omega)]
    conv=>lhs;rw [<- Xy (i+1) ys,X5 (by omega)]
    simp
   have bB:pre.Pairwise (λa b=>¬ c b a<0):=by
    have:(put pre rest x pre.length).take (i+1)=pre:=by
     unfold put;rw [Xs,Yas,XA,<- dL,YaJ];rfl
    rwa [this] at bY
   have jX:pre.length+1+rest.length=xs.length:=by rw [<- cQ,Z0A]
   have fin:∀ j (w':World),j<=pre.length->Stp (ob v) w w'->Row X w' base 64 v (put pre rest x j)->(∀ q (h:q<pre.length),j<=q->c x pre[q]<0)->(∀ h:j - 1<pre.length,0<j->¬ c x pre[j - 1]<0)->
    Stp (ob v) w w'/\∃ ys,ys.Perm xs/\Row X w' base 64 v ys/\(ys.take (i+1+1)).Pairwise (λa b=>¬ c b a<0):=by
    intro j w' hj hS ac h1 h2;refine ⟨hS,put pre rest x j,?_,ac,?_⟩;refine List.Perm.trans ?_ bC;unfold put;rw [Xs,Yas];refine Yak _ ?_;refine List.Perm.trans Ybc ?_;rw [Xy];exact (YaD x pre).symm;have e:(put pre rest x j).take (i+1+1)=pre.take j++x :: pre.drop j:=by
     have hl:(pre.take j++x :: pre.drop j).length=i+1+1:=by
      have:=congrArg List.length (Xy j pre);simp only [Xe] at this;simp only [Xe,Xo];omega
     unfold put;rw [<- hl,YaJ];rfl
    rw [e];exact Z2Y ho hj bB h1 h2
   refine Zr (σ:=Nat) (λj=>[(0,v),(1,.I 0),(2,.I xs.length),(3,.func (.func g) #[] lb),(8,.I (i+1)),(9,.I (j:Int))])
    (λj w'=>j<=pre.length/\Stp (ob v) w w'/\Row X w' base 64 v (put pre rest x j)/\(∀ q (h:q<pre.length),j<=q->c x pre[q]<0)) (λj=>j) (i+1) ⟨rfl,rfl,rfl,rfl,rfl,rfl,trivial⟩
    ⟨by omega,hS,by rw [dL] at ac;exact ac,λq h hq=>by omega⟩ ?_
   clear ac hS;rintro j w2 ⟨hj,hS,ac,ah⟩;have hs:=ac.slv hX;cases j with
   | zero=>
     refine W ?_;refine ZDr 17 [] [] [(0,0),(1,0),(2,0),(3,0),(4,0),(5,0),(6,0),(7,0),(8,1),(9,0),(10,0),(11,0),(12,0),(13,1),(14,2),(15,0),(16,0)] (λw1 ae=>?_);replace hS:=hS.trans ae.mn;replace ac:=ac.up ae;replace hs:=hs.up ae;repeat'(first|refine D1 ?_|omega|refine Z8 rfl rfl rfl rfl (λhg=>?_) (λhg=>?_)|(refine Z6 rfl rfl rfl rfl (λhg=>?_) (λhg=>?_)<;>refine D1 ?_)|fail)
     refine W ?_;exact QL (i+1) (fin 0 _ (Xu _) hS ac ah (λ_ h=>absurd h (YbK _))) (by omega)
   | succ j=>
     have hz:((j+1:Nat):Int) - 1=(j:Int):=by omega
     have cY:j+1<(put pre rest x (j+1)).length:=by rw [Z0A];omega
     have gJ:j<(put pre rest x (j+1)).length:=by rw [Z0A];omega
     have a1:=Z9r (rest:=rest) (x:=x) hj cY;have a0:=Z2X (rest:=rest) (x:=x) (YaM hj) gJ;refine W ?_;refine ZDr 17 [] [] [(0,0),(1,0),(2,0),(3,0),(4,0),(5,0),(6,0),(7,0),(8,1),(9,0),(10,0),(11,0),(12,0),(13,1),(14,2),(15,0),(16,0)] (λw1 ae=>?_);replace hS:=hS.trans ae.mn;replace ac:=ac.up ae;replace hs:=hs.up ae;repeat'(first|refine D1 ?_|omega|refine Z8 rfl rfl rfl rfl (λhg=>?_) (λhg=>?_)|(refine Z6 rfl rfl rfl rfl (λhg=>?_) (λhg=>?_)<;>refine D1 ?_)|fail)
     refine Zp rfl (by first|exact trivial|exact rfl) (ZC (f:=g) rfl (ZK rfl rfl) rfl (hp _ _ _ hS)) (λ_ _ h=>h.2) rfl ?_;rintro _ w3 ⟨rfl,aw⟩;rw [a1,a0];replace hS:=hS.trans aw.mn;replace ac:=ac.up aw;replace hs:=hs.up aw;repeat'(first|refine D1 ?_|omega|refine Z8 rfl rfl rfl rfl (λhg=>?_) (λhg=>?_)|(refine Z6 rfl rfl rfl rfl (λhg=>?_) (λhg=>?_)<;>refine D1 ?_)|fail)
     repeat'(first|refine W1 ?_|refine VG ?_ ?_<;>intro hg|refine VC ?_ ?_<;>intro hc)
     rename_i hc;refine ZDr 18 [] [15,17] [(0,0),(1,0),(2,0),(3,0),(4,0),(5,0),(6,0),(7,0),(8,0),(9,1),(10,0),(11,0),(12,0),(13,1),(14,0),(15,2),(16,0),(17,2)] (λw1 ae=>?_);replace hS:=hS.trans ae.mn;replace ac:=ac.up ae;replace hs:=hs.up ae;focus repeat'(first|refine D1 ?_|omega|refine Z8 rfl rfl rfl rfl (λhg=>?_) (λhg=>?_)|(refine Z6 rfl rfl rfl rfl (λhg=>?_) (λhg=>?_)<;>refine D1 ?_)|fail)
     rw [a1,a0];refine Jg rfl trivial (JE (i:=j+1) (y':=pre[j]) rfl rfl rfl rfl ac hX cY) rfl ?_;rintro _ w4 ⟨ac,ay⟩;replace hS:=hS.trans ay;focus repeat'(first|refine D1 ?_|omega|refine Z8 rfl rfl rfl rfl (λhg=>?_) (λhg=>?_)|(refine Z6 rfl rfl rfl rfl (λhg=>?_) (λhg=>?_)<;>refine D1 ?_)|fail)
     refine Jg rfl trivial (JE (i:=j) (y':=x) rfl rfl rfl rfl ac hX (by rw [Yac];exact gJ)) rfl ?_;rintro _ w5 ⟨ac,aB⟩;replace hS:=hS.trans aB;rw [Z5a (YaM hj)] at ac;focus repeat'(first|refine D1 ?_|omega|refine Z8 rfl rfl rfl rfl (λhg=>?_) (λhg=>?_)|(refine Z6 rfl rfl rfl rfl (λhg=>?_) (λhg=>?_)<;>refine D1 ?_)|fail)
     refine W ?_;refine J3 j ⟨rfl,rfl,rfl,rfl,rfl,(by rw [<- hz];rfl),trivial⟩ ⟨by omega,hS,ac,λq h hq=>?_⟩ (by omega);by_cases e:q=j;subst e;exact hc;exact ah q h (by omega);exact QL (i+1) (fin (j+1) _ hj hS ac ah (λ_ _=>by assumption)) (by omega)
 focus repeat'(first|refine W1 ?_|refine VG ?_ ?_<;>intro hg|refine VC ?_ ?_<;>intro hc)
 omega;refine WR ?_;refine .mk ⟨ys,⟨bC,?_⟩,ac,hS⟩
 rwa [XH (by omega)] at bY
theorem ZaH (x y:Int):Z1C x y≠0↔x≠y:=by unfold Z1C;split<;>(try split)<;>omega
theorem ZeO (x y:Int):orI x y<0↔x<0\/x=0/\y<0:=by unfold orI;split<;>omega
theorem Z2w (x y:Dlv):Z7b x y<0↔Z06 x y=true:=by
 unfold Z7b Z06;rw [ZeO,Z0B,Z0B,decide_eq_true_eq];have:=ZaH x.day y.day;constructor;rintro (h|⟨h,h2⟩);exact .inl h;exact .inr ⟨by omega,h2⟩;rintro (h|⟨h,h2⟩);exact .inl h;exact .inr ⟨by omega,h2⟩
theorem Zqs:Ord Z7b where
 asym:=λa b=>by rw [Z2w,Z2w];simp only [Z06,decide_eq_true_eq];omega
 trans:=λa b d=>by rw [Z2w,Z2w,Z2w];simp only [Z06,decide_eq_true_eq];omega
theorem Z2x (x y:Rpt):Z7c x y<0↔JV x y=true:=by
 unfold Z7c JV;rw [ZeO,Z0B,Z0B,decide_eq_true_eq];have:=ZaH x.day y.day;constructor;rintro (h|⟨h,h2⟩);exact .inl h;exact .inr ⟨by omega,h2⟩;rintro (h|⟨h,h2⟩);exact .inl h;exact .inr ⟨by omega,h2⟩
theorem Zqt:Ord Z7c where
 asym:=λa b=>by rw [Z2x,Z2x];simp only [JV,decide_eq_true_eq];omega
 trans:=λa b d=>by rw [Z2x,Z2x,Z2x];simp only [JV,decide_eq_true_eq];omega
theorem Zi2 (g:Nat) (fn:Func) [Fun Tryz.prog g fn] (lb:Array Value) (c:Dlv->Dlv->Int) (ho:Ord c) (X:List Nat) (base:Nat) (v:Value) (xs:List Dlv) (w:World) (hX:∀ b∈X,b<base) (aF:base<=w.heap.size) (ac:Row X w base 94 v xs) (hp:Z4s Tryz.prog (ob v) g lb c w) (am:xs.length<20) :
 CC 99 #[v,.I xs.length,.func (.func g) #[] lb] w λr w'=>∃ ys,JU c xs ys/\Row X w' base 94 v ys/\Stp (ob v) w w':=by
 have nl:¬ ((20:Int)<=xs.length):=by omega
 have nl2:¬ ((20:Int)<xs.length):=by omega
 refine cW3 63 Tryz.func99 ?_;refine W ?_;refine Zr (σ:=Unit) (λ_=>[(0,v),(1,.I xs.length),(2,.func (.func g) #[] lb),(6,.I 20),(7,.I 0),(8,.I 20)]) (λ_ w'=>w'=w) (λ_=>0) () ⟨rfl,rfl,rfl,rfl,rfl,rfl,trivial⟩ rfl ?_;rintro _ w' rfl;repeat'(first|refine W1 ?_|refine VG ?_ ?_<;>intro hg|refine VC ?_ ?_<;>intro hc)
 exact absurd (by assumption) nl;refine CM (Z30 rfl rfl rfl rfl) (Z9K g fn lb c ho X base v xs _ hX aF ac hp (by omega)) ?_;rintro r w2 ar;refine W ?_;refine Zr (σ:=Unit) (λ_=>[(1,.I xs.length),(6,.I 20)]) (λ_ w'=>w'=w2) (λ_=>0) () ⟨rfl,rfl,trivial⟩ rfl ?_;rintro _ w' rfl;repeat'(first|refine W1 ?_|refine VG ?_ ?_<;>intro hg|refine VC ?_ ?_<;>intro hc)
 exact absurd (by assumption) nl2;refine WR ?_;exact .mk ar
theorem Z8r (g:Nat) (fn:Func) [Fun Tryz.prog g fn] (lb:Array Value) (c:Dlv->Dlv->Int) (ho:Ord c) (X:List Nat) (base:Nat) (v:Value) (xs:List Dlv) (w:World) (hX:∀ b∈X,b<base) (aF:base<=w.heap.size) (ac:Row X w base 94 v xs) (hp:Z4s Tryz.prog (ob v) g lb c w) (am:xs.length<20) :
 CC 51 #[v,.func (.func g) #[] lb] w λr w'=>∃ ys,JU c xs ys/\Row X w' base 94 v ys/\Stp (ob v) w w':=by
 have hs:=ac.slv hX;refine cW2 9 Tryz.func51 ?_;refine W ?_;refine CL (Zi2 g fn lb c ho X base v xs _ hX aF ac hp am) ?_;rintro r w2 ar;refine W ?_;refine WR ?_;exact .mk ar
theorem Zi3 (g:Nat) (fn:Func) [Fun Tryz.prog g fn] (lb:Array Value) (c:Rpt->Rpt->Int) (ho:Ord c) (X:List Nat) (base:Nat) (v:Value) (xs:List Rpt) (w:World) (hX:∀ b∈X,b<base) (aF:base<=w.heap.size) (ac:Row X w base 64 v xs) (hp:Z4s Tryz.prog (ob v) g lb c w) (am:xs.length<20) :
 CC 102 #[v,.I xs.length,.func (.func g) #[] lb] w λr w'=>∃ ys,JU c xs ys/\Row X w' base 64 v ys/\Stp (ob v) w w':=by
 have nl:¬ ((20:Int)<=xs.length):=by omega
 have nl2:¬ ((20:Int)<xs.length):=by omega
 refine cW3 63 Tryz.func102 ?_;refine W ?_;refine Zr (σ:=Unit) (λ_=>[(0,v),(1,.I xs.length),(2,.func (.func g) #[] lb),(6,.I 20),(7,.I 0),(8,.I 20)]) (λ_ w'=>w'=w) (λ_=>0) () ⟨rfl,rfl,rfl,rfl,rfl,rfl,trivial⟩ rfl ?_;rintro _ w' rfl;repeat'(first|refine W1 ?_|refine VG ?_ ?_<;>intro hg|refine VC ?_ ?_<;>intro hc)
 exact absurd (by assumption) nl;refine CM (Z30 rfl rfl rfl rfl) (Z9L g fn lb c ho X base v xs _ hX aF ac hp (by omega)) ?_;rintro r w2 ar;refine W ?_;refine Zr (σ:=Unit) (λ_=>[(1,.I xs.length),(6,.I 20)]) (λ_ w'=>w'=w2) (λ_=>0) () ⟨rfl,rfl,trivial⟩ rfl ?_;rintro _ w' rfl;repeat'(first|refine W1 ?_|refine VG ?_ ?_<;>intro hg|refine VC ?_ ?_<;>intro hc)
 exact absurd (by assumption) nl2;refine WR ?_;exact .mk ar
theorem Z8s (g:Nat) (fn:Func) [Fun Tryz.prog g fn] (lb:Array Value) (c:Rpt->Rpt->Int) (ho:Ord c) (X:List Nat) (base:Nat) (v:Value) (xs:List Rpt) (w:World) (hX:∀ b∈X,b<base) (aF:base<=w.heap.size) (ac:Row X w base 64 v xs) (hp:Z4s Tryz.prog (ob v) g lb c w) (am:xs.length<20) :
 CC 57 #[v,.func (.func g) #[] lb] w λr w'=>∃ ys,JU c xs ys/\Row X w' base 64 v ys/\Stp (ob v) w w':=by
 have hs:=ac.slv hX;refine cW2 9 Tryz.func57 ?_;refine W ?_;refine CL (Zi3 g fn lb c ho X base v xs _ hX aF ac hp am) ?_;rintro r w2 ar;refine W ?_;refine WR ?_;exact .mk ar
theorem Zi4 (X:List Nat) (base:Nat) (v:Value) (xs:List Dlv) (till:Int) (w:World) (hX:∀ b∈X,b<base) (aF:base<=w.heap.size) (ac:Row X w base 94 v xs) (am:xs.length<20) :
 CC 18 #[v,.I till,.func (.func 19) #[] #[]] w λr w'=>∃ ys,JU Z7b (xs.filter (λx=>!decide (x.day > till))) ys/\Row X w' base 94 r ys/\Stp (ob v) w w'/\ob r=ob v:=by
 have aJ:=ac.ob_le;have hs:=ac.slv hX;refine cW3 14 Tryz.func18 ?_;refine W ?_;refine Z0 (Zl rfl) rfl ?_;rintro _ w1 ⟨b1,rfl,fA,aT,ae⟩;refine Z0 (Zl rfl) rfl ?_;rintro _ w2 ⟨b2,rfl,fw,au,ai⟩;replace aT:=aT.up ai;have fk:=ae.size;replace ae:=ae.trans ai;replace ac:=ac.up ae;replace hs:=hs.up ae;have n1:b1∉ob v:=λh=>by have:=(aJ _ h).2;omega
 have n2:b2∉ob v:=λh=>by have:=(aJ _ h).2;have:=ai.size;omega
 refine W ?_;have gA:=ae.size;refine CM (ZK rfl rfl) (Zi0 50 _ _ (λx=>decide (x.day > till)) X base v xs _ hX (by omega) ac (Zpr (ob v) b2 b1 _ _ till _ au aT n2 n1) (by omega)) ?_;rintro r w3 ⟨ac,aw,cV⟩;replace au:=au.ext aw n2;have sf:=aw.size;refine W ?_;refine CM (ZK rfl rfl) (Z8r 52 _ _ Z7b Zqs X base r _ _ hX (by omega) ac (Zps (ob r) b2 _ _ au (by rw [cV];exact n2)) (YbD (XR _ _) am)) ?_;rintro z w4 ⟨ys,bZ,ac,ay⟩;refine RT ?_;exact ⟨ys,bZ,ac,(ae.mn.trans aw).trans (cV ▸ ay),cV⟩
theorem Zi5 (X:List Nat) (base:Nat) (v:Value) (xs:List Rpt) (till:Int) (w:World) (hX:∀ b∈X,b<base) (aF:base<=w.heap.size) (ac:Row X w base 64 v xs) (am:xs.length<20) :
 CC 20 #[v,.I till,.func (.func 21) #[] #[]] w λr w'=>∃ ys,JU Z7c (xs.filter (λx=>!decide (x.day > till))) ys/\Row X w' base 64 r ys/\Stp (ob v) w w'/\ob r=ob v:=by
 have aJ:=ac.ob_le;have hs:=ac.slv hX;refine cW3 14 Tryz.func20 ?_;refine W ?_;refine Z0 (Zl rfl) rfl ?_;rintro _ w1 ⟨b1,rfl,fA,aT,ae⟩;refine Z0 (Zl rfl) rfl ?_;rintro _ w2 ⟨b2,rfl,fw,au,ai⟩;replace aT:=aT.up ai;have fk:=ae.size;replace ae:=ae.trans ai;replace ac:=ac.up ae;replace hs:=hs.up ae;have n1:b1∉ob v:=λh=>by have:=(aJ _ h).2;omega
 have n2:b2∉ob v:=λh=>by have:=(aJ _ h).2;have:=ai.size;omega
 refine W ?_;have gA:=ae.size;refine CM (ZK rfl rfl) (Zi1 56 _ _ (λx=>decide (x.day > till)) X base v xs _ hX (by omega) ac (Zpt (ob v) b2 b1 _ _ till _ au aT n2 n1) (by omega)) ?_;rintro r w3 ⟨ac,aw,cV⟩;replace au:=au.ext aw n2;have sf:=aw.size;refine W ?_;refine CM (ZK rfl rfl) (Z8s 58 _ _ Z7c Zqt X base r _ _ hX (by omega) ac (Zpu (ob r) b2 _ _ au (by rw [cV];exact n2)) (YbD (XR _ _) am)) ?_;rintro z w4 ⟨ys,bZ,ac,ay⟩;refine RT ?_;exact ⟨ys,bZ,ac,(ae.mn.trans aw).trans (cV ▸ ay),cV⟩
theorem _root_.Go.Eng.Row.reX {β:Type} [Z2 β] {X X':List Nat} {w} {base T:Nat} {v:Value} {xs:List β} (h:Row X w base T v xs):Row X' w base T v xs:=h
theorem Zi6 (c:Int) (w):(Instr.build 90 #[(2,.I c)]).run Tryz.prog w=.ok (agg (Wy.mk 0 0 c 0)) w:=by kernel_rfl
def JA (ws:List Wy) (z:Int):Wy:=match ws.find? (λx=>decide (x.attempt=z)) with|some p=>p|none=>⟨0,0,1,0⟩
def Z0O (ws:List Wy) (ps:List Pap):List Dlv:=ps.flatMap (λp=>if Z15 p (JA ws p.attempt) then [Z2c p (JA ws p.attempt)] else [])
def Z0l (ws:List Wy) (ps:List Pap):List Rpt:=ps.flatMap (λp=>J9 p (JA ws p.attempt))
theorem Z6a (ws:List Wy) (ps:List Pap) (k:Nat) (hk:k<ps.length):Z0O ws (ps.take (k+1))=Z0O ws (ps.take k)++if Z15 ps[k] (JA ws ps[k].attempt) then [Z2c ps[k] (JA ws ps[k].attempt)] else []:=by
 unfold Z0O;rw [Xf hk,Yaw];simp
theorem Z6b (ws:List Wy) (ps:List Pap) (k:Nat) (hk:k<ps.length):Z0l ws (ps.take (k+1))=Z0l ws (ps.take k)++J9 ps[k] (JA ws ps[k].attempt):=by
 unfold Z0l;rw [Xf hk,Yaw];simp
theorem Z5k (ws:List Wy) (ps:List Pap):∀ k,k<=ps.length->(Z0O ws (ps.take k)).length<=k
 | 0,_=>by simp [Z0O]
 | k + 1, h => by
   have ih:=Z5k ws ps k (by omega);rw [Z6a ws ps k (by omega),Xe];split<;>simp<;>omega
theorem Z5l (ws:List Wy) (ps:List Pap):∀ k,k<=ps.length->(Z0l ws (ps.take k)).length<=2 * k
 | 0,_=>by simp [Z0l]
 | k + 1, h => by
   have ih:=Z5l ws ps k (by omega);rw [Z6b ws ps k (by omega),Xe];have:=Z5j (ps[k]'(by omega)) (JA ws (ps[k]'(by omega)).attempt);omega
def Ju (y:Wy):Nat:=if y.kind=2 then 0 else if y.kind=3 then 2 else 1
theorem Z8t (p:Pap) (y:Wy) (h1:¬ p.sent+y.days > 3652058) (h2:¬ y.kind=1):J9 p y=(List.range (Ju y)).map (λi=>Z1K p y (1+(i:Nat))):=by
 unfold J9 Ju;by_cases e2:y.kind=2;simp [e2];by_cases e3:y.kind=3;rw [if_neg (by omega),if_pos e3,if_neg e2,if_pos e3];rfl;rw [if_neg (by omega),if_neg e3,if_neg e2,if_neg e3];rfl
theorem Zmd (X Y Z:List Nat) (u v:Value) (ps:List Pap) (ws:List Wy) (till:Int) (w:World) (hX:∀ b∈X,b<w.heap.size) (aZ:SlV Y w u ps) (cD:SlV Z w v ws) (hn:ps.length<=9) (hr:∀ p∈ps,I64 (p.sent+(JA ws p.attempt).days)) :
 CC 8 #[u,v,.I till] w λr w'=>∃ a b ds rs,r=.tuple #[a,b]/\JU Z7b ((Z0O ws ps).filter (λx=>!decide (x.day > till))) ds/\JU Z7c ((Z0l ws ps).filter (λx=>!decide (x.day > till))) rs/\SlV X w' a ds/\SlV X w' b rs/\Stp [] w w':=by
 have bg:=cD.max;refine cW3 97 Tryz.func8 ?_;refine W ?_
 refine Z2h (σ:=Value×Value) (λs=>[(2,.I till),(8,s.1),(9,s.2)])
  (λs w'=>Stp [] w w'/\Row X w' w.heap.size 94 s.1 (Z0O ws ps)/\Row X w' w.heap.size 64 s.2 (Z0l ws ps)/\∀ b∈ob s.1,b∉ob s.2) ?_ ?_
 refine Zr (σ:=Nat×Value×Value) (λk=>[(1,v),(2,.I till),(8,k.2.1),(9,k.2.2),(18,u),(19,.I ps.length),(20,.I k.1)])
  (λk w'=>k.1<=ps.length/\Stp [] w w'/\Row X w' w.heap.size 94 k.2.1 (Z0O ws (ps.take k.1))/\Row X w' w.heap.size 64 k.2.2 (Z0l ws (ps.take k.1))/\∀ b∈ob k.2.1,b∉ob k.2.2) (λk=>ps.length - k.1) (0,.N,.N)
  ⟨rfl,rfl,rfl,rfl,rfl,rfl,rfl,trivial⟩ ⟨Xu _,Stp.refl _ _,Row.nil,Row.nil,by simp [ob]⟩ ?_
 rintro ⟨k,dv,rv⟩ w1 ⟨hk,hS,hd,cI,cJ⟩;dsimp only at hk hS hd cI cJ ⊢;have ke:=aZ;have kg:=cD;replace aZ:=aZ.up hS;replace cD:=cD.up hS;have cL:=hd.ob_le;have gH:=cI.ob_le;have gA:=hS.size;by_cases ah:k<ps.length
 . repeat'(first|refine W1 ?_|refine VG ?_ ?_<;>intro hg|refine VC ?_ ?_<;>intro hc)
   rotate_left
   omega;refine Z0 Z4 rfl ?_;rintro _ w2 ⟨b,rfl,hb,ab,ai⟩;refine SA (us:=Z2.enc ps[k]) ab ?_;rintro _ w3 ⟨aw,ab⟩;replace aw:=ai.own aw (S:=[]) (by simp;omega);replace aZ:=aZ.up aw;replace cD:=cD.up aw;replace hd:=hd.up aw;replace cI:=cI.up aw;replace hS:=hS.trans aw;refine W ?_;apply Z9 (vs:=[(2,.I 1)]) rfl (Zi6 _) rfl;have f1:=ab.lt;refine Z0 Z4 rfl ?_;rintro _ w4 ⟨b2,rfl,fw,au,ay⟩;refine SA (us:=Z2.enc (Wy.mk 0 0 1 0)) au ?_;rintro _ w5 ⟨aB,au⟩;replace aB:=ay.own aB (S:=[]) (by simp;omega);replace aZ:=aZ.up aB;replace cD:=cD.up aB;replace hd:=hd.up aB;replace cI:=cI.up aB;replace ab:=ab.up aB;replace hS:=hS.trans aB;refine W ?_;refine CL (ZhV 17 _ _ _ Z v ws _ cD (Zpp b _ ps[k] _ ab)) ?_;rintro _ w6 ⟨rfl,bR⟩;replace aZ:=aZ.up bR;replace cD:=cD.up bR;replace hd:=hd.up bR;replace cI:=cI.up bR;replace ab:=ab.up bR;replace au:=au.up bR;replace hS:=hS.trans bR;refine W ?_;have dK:=ab.lt
   refine Z0v (σ:=Unit) (λ_=>[(1,v),(2,.I till),(8,dv),(9,rv),(18,u),(19,.I ps.length),(20,.I k),(11,pQ b),(12,pQ b2)])
    (λ_ w'=>Stp [b2] w6 w'/\Blk w' b2 90 (Z2.enc (JA ws ps[k].attempt))) ?_ ?_
   rcases Z41 (λx:Wy=>decide (x.attempt=ps[k].attempt)) ws with ⟨hi,hf⟩|⟨m,hm,hi,hf,_,_⟩
   rw [hi];refine W ?_;exact QT () ⟨Stp.refl _ _,by unfold JA;rw [hf];exact au⟩;rw [hi];focus repeat'(first|refine W1 ?_|refine VG ?_ ?_<;>intro hg|refine VC ?_ ?_<;>intro hc)
   refine SA (us:=Z2.enc ws[m]) au ?_;rintro _ w7 ⟨aR,au⟩;refine W ?_;exact QT () ⟨aR,by unfold JA;rw [hf];exact au⟩;rintro _ w7 ⟨aR,au⟩;have jw:b≠b2:=by have:=bR.size;omega
   replace ab:=ab.ext aR (by simpa using jw);have tz:w.heap.size<=b2:=by have:=aw.size;omega
   have pf:∀ x∈ob dv,x≠b2:=λx hx e=>by have:=(cL x hx).2;omega
   have nf:∀ x∈ob dv,x≠b:=λx hx e=>by have:=(cL x hx).2;omega
   have ng:∀ x∈ob rv,x≠b:=λx hx e=>by have:=(gH x hx).2;omega
   have sg:∀ x∈ob rv,x≠b2:=λx hx e=>by have:=(gH x hx).2;omega
   replace hd:=hd.keep aR (λx hx h=>pf _ h (by simpa using hx));replace cI:=cI.keep aR (λx hx h=>sg _ h (by simpa using hx));have bW:=hS;replace hS:=hS.own aR (by simp;omega);have hy:=hr ps[k] (Xc ah);have lD:=Z5k ws ps k hk;have lR:=Z5l ws ps k hk;have nD:=Z6a ws ps k ah;have nR:=Z6b ws ps k ah;generalize Z0O ws (ps.take k)=ds at *;generalize Z0l ws (ps.take k)=rs at *;generalize JA ws ps[k].attempt=y at *;clear cL gH;replace aZ:=ke.up hS;replace cD:=kg.up hS;have oW:=hy;unfold I64 at oW;refine Z4G (σ:=Unit) (λ_=>[(1,v),(2,.I till),(8,dv),(9,rv),(18,u),(19,.I ps.length),(20,.I k),(11,pQ b),(12,pQ b2),(14,.I (ps[k].sent+y.days))]) (λ_ w'=>w'=w7) ?_ ?_;refine W ?_;exact QT () rfl;rintro _ w' rfl;refine Z4G (σ:=Unit) (λ_=>[(1,v),(2,.I till),(8,dv),(9,rv),(18,u),(19,.I ps.length),(20,.I k),(11,pQ b),(12,pQ b2),(14,.I (ps[k].sent+y.days))]) (λ_ w''=>w''=w'/\¬ ps[k].sent+y.days > 3652058/\¬ y.kind=1) ?_ ?_;focus repeat'(first|refine W1 ?_|refine VG ?_ ?_<;>intro hg|refine VC ?_ ?_<;>intro hc)
   refine QL (k+1,dv,rv) ⟨ah,hS,?_,?_,cJ⟩ (by dsimp only;omega);dsimp only;have e:Z15 ps[k] y=false:=by simp only [Z15,decide_eq_false_iff_not];omega
   rw [nD,e];simpa using hd;dsimp only;rw [nR,J9,if_pos (by omega)];simpa using cI;refine QL (k+1,dv,rv) ⟨ah,hS,?_,?_,cJ⟩ (by dsimp only;omega);dsimp only;have e:Z15 ps[k] y=false:=by simp only [Z15,decide_eq_false_iff_not];omega
   rw [nD,e];simpa using hd;dsimp only;rw [nR,J9,if_pos (by omega)];simpa using cI;exact QT () ⟨rfl,by omega,by omega⟩;rintro _ w'' ⟨rfl,ei,bz⟩;have iZ:=hd.ob_le;have fQ:=cI.ob_le;refine Z4G (σ:=Value) (λdv'=>[(1,v),(2,.I till),(8,dv'),(9,rv),(18,u),(19,.I ps.length),(20,.I k),(11,pQ b),(12,pQ b2),(14,.I (ps[k].sent+y.days))]) (λdv' w'=>Stp (ob dv) w'' w'/\Row X w' w.heap.size 94 dv' (Z0O ws (ps.take (k+1)))/\∀ b∈ob dv',b∈ob dv\/w''.heap.size<=b) ?_ ?_;focus repeat'(first|refine W1 ?_|refine VG ?_ ?_<;>intro hg|refine VC ?_ ?_<;>intro hc)
   have eD:Z0O ws (ps.take (k+1))=ds++[Dlv.mk ps[k].attempt y.party (ps[k].sent+y.days)]:=by
    rw [nD,if_pos (by simp only [Z15,decide_eq_true_eq];exact ⟨by omega,bz,by assumption⟩),Z2c,if_pos (by assumption)]
   apply Z9 (vs:=[(0,.I ps[k].attempt),(1,.I y.party),(2,.I (ps[k].sent+y.days))]) rfl (ZeJ _ _ _) rfl;refine Z0 (Z3 (vs:=[(0,agg (Dlv.mk _ _ _))]) rfl (ZaF _)) rfl ?_;rintro z w8 hN;have cU:=hN.choose_spec.2.2.2;have ca:SlV (ob dv) w8 z [Dlv.mk ps[k].attempt y.party (ps[k].sent+y.days)]:=hN.slv (λb hb=>(iZ b hb).2) rfl rfl (by simp [maxLen]);have ni:=hd.up cU;have d5:=hS.size;have gG:=cU.size;refine Z0 (ZJ (X:=[]) (base:=w.heap.size) rfl (by decide) rfl rfl ni.reX (by simpa using ca) (by simp only [Xo,Xr];omega) (by simp only [Xo,Xr,maxLen];omega) (by omega)) rfl ?_;rintro dv' w9 ⟨gM,cG,aJ⟩;refine W ?_;exact Zt dv' ⟨rfl,rfl,rfl,rfl,rfl,rfl,rfl,rfl,rfl,rfl,trivial⟩ ⟨cU.mn.trans cG,by rw [eD];exact gM.reX,λb hb=>(aJ b hb).imp id (λh=>by omega)⟩;have eD:Z0O ws (ps.take (k+1))=ds++[Dlv.mk ps[k].attempt ps[k].party (ps[k].sent+y.days)]:=by
    rw [nD,if_pos (by simp only [Z15,decide_eq_true_eq];exact ⟨by omega,bz,by assumption⟩),Z2c,if_neg (by assumption)]
   apply Z9 (vs:=[(0,.I ps[k].attempt),(1,.I ps[k].party),(2,.I (ps[k].sent+y.days))]) rfl (ZeJ _ _ _) rfl;refine Z0 (Z3 (vs:=[(0,agg (Dlv.mk _ _ _))]) rfl (ZaF _)) rfl ?_;rintro z w8 hN;have cU:=hN.choose_spec.2.2.2;have ca:SlV (ob dv) w8 z [Dlv.mk ps[k].attempt ps[k].party (ps[k].sent+y.days)]:=hN.slv (λb hb=>(iZ b hb).2) rfl rfl (by simp [maxLen]);have ni:=hd.up cU;have d5:=hS.size;have gG:=cU.size;refine Z0 (ZJ (X:=[]) (base:=w.heap.size) rfl (by decide) rfl rfl ni.reX (by simpa using ca) (by simp only [Xo,Xr];omega) (by simp only [Xo,Xr,maxLen];omega) (by omega)) rfl ?_;rintro dv' w9 ⟨gM,cG,aJ⟩;refine W ?_;exact Zt dv' ⟨rfl,rfl,rfl,rfl,rfl,rfl,rfl,rfl,rfl,rfl,trivial⟩ ⟨cU.mn.trans cG,by rw [eD];exact gM.reX,λb hb=>(aJ b hb).imp id (λh=>by omega)⟩;exact QT dv ⟨Stp.refl _ _,by rw [nD,if_neg (by simp only [Z15,decide_eq_true_eq];omega)];simpa using hd,λb hb=>.inl hb⟩;rintro dv' w8 ⟨cF,kh,io⟩;have si:=cF;have kj:∀ b∈ob dv',b∉ob rv:=λb hb h=>(io b hb).elim (λh1=>cJ b h1 h) (λh1=>by have:=(fQ b h).2;omega)
   replace cI:=cI.keep cF cJ;replace hS:=hS.own cF (λb hb=>.inr (iZ b hb).1);replace ab:=ab.ext cF (λh=>nf _ h rfl);replace au:=au.ext cF (λh=>pf _ h rfl);replace aZ:=ke.up hS;replace cD:=kg.up hS;refine Z4G (σ:=Unit) (λ_=>[(1,v),(2,.I till),(8,dv'),(9,rv),(18,u),(19,.I ps.length),(20,.I k),(11,pQ b),(12,pQ b2),(14,.I (ps[k].sent+y.days)),(16,.I 1)]) (λ_ w'=>w'=w8) ?_ ?_;refine W ?_;exact QT () rfl;rintro _ w' rfl;refine Z4G (σ:=Unit) (λ_=>[(1,v),(2,.I till),(8,dv'),(9,rv),(18,u),(19,.I ps.length),(20,.I k),(11,pQ b),(12,pQ b2),(14,.I (ps[k].sent+y.days)),(16,.I (Ju y:Nat))]) (λ_ w''=>w''=w') ?_ ?_;focus repeat'(first|refine W1 ?_|refine VG ?_ ?_<;>intro hg|refine VC ?_ ?_<;>intro hc)
   have e:Ju y=0:=by unfold Ju;rw [if_pos (by assumption)]
   exact Zt () ⟨rfl,rfl,rfl,rfl,rfl,rfl,rfl,rfl,rfl,rfl,(by rw [e];rfl),trivial⟩ rfl;have e:Ju y=2:=by unfold Ju;rw [if_neg (by assumption),if_pos (by assumption)]
   exact Zt () ⟨rfl,rfl,rfl,rfl,rfl,rfl,rfl,rfl,rfl,rfl,(by rw [e];rfl),trivial⟩ rfl;have e:Ju y=1:=by unfold Ju;rw [if_neg (by assumption),if_neg (by assumption)]
   exact Zt () ⟨rfl,rfl,rfl,rfl,rfl,rfl,rfl,rfl,rfl,rfl,(by rw [e];rfl),trivial⟩ rfl;rintro _ w'' rfl;have eU:Ju y<=2:=by unfold Ju;split<;>(try split)<;>omega
   have eR:=Z8t ps[k] y ei bz;rw [eR] at nR;generalize Ju y=cp at *;refine W ?_
   refine Zr (σ:=Nat×Value) (λs=>[(1,v),(2,.I till),(8,dv'),(9,s.2),(18,u),(19,.I ps.length),(20,.I k),(11,pQ b),(12,pQ b2),(14,.I (ps[k].sent+y.days)),(70,.I (cp:Nat)),(71,.I s.1)])
    (λs w'=>s.1<=cp/\Stp [] w w'/\Row X w' w.heap.size 94 dv' (Z0O ws (ps.take (k+1)))/\Row X w' w.heap.size 64 s.2 (rs++(List.range s.1).map (λi=>Z1K ps[k] y (1+(i:Nat))))/\(∀ x∈ob dv',x∉ob s.2)/\(∀ x∈ob s.2,x≠b)/\Blk w' b 52 (Z2.enc ps[k])) (λs=>cp - s.1) (0,rv)
    ⟨rfl,rfl,rfl,rfl,rfl,rfl,rfl,rfl,rfl,rfl,rfl,rfl,trivial⟩ ⟨Xu _,hS,kh,by simpa using cI,kj,ng,ab⟩ ?_
   rintro ⟨m,rv'⟩ w9 ⟨hm,cG,gM,k0,fV,iz,ec⟩;dsimp only at hm cG gM k0 fV iz ⊢;by_cases sj:m<cp
   . repeat'(first|refine W1 ?_|refine VG ?_ ?_<;>intro hg|refine VC ?_ ?_<;>intro hc)
     rotate_left
     omega;apply Z9 (vs:=[(0,.I ps[k].carrier),(1,.I 1),(2,.I (ps[k].sent+y.days)),(3,.I (ps[k].sent+y.days))]) rfl (ZeK _ _ _ _) rfl;apply Z9 (vs:=[(0,.I ps[k].attempt),(1,.I (ps[k].sent+y.days+1+m)),(2,.agg #[.I ps[k].carrier,.I 1,.I (ps[k].sent+y.days),.I (ps[k].sent+y.days)])]) rfl (Zmc _ _ _ _ _ _) rfl;have eM:Rpt.mk ps[k].attempt (ps[k].sent+y.days+1+m) ps[k].carrier 1 (ps[k].sent+y.days) (ps[k].sent+y.days)=Z1K ps[k] y (1+(m:Nat)):=by
      simp only [Z1K,Rpt.mk.injEq,true_and,and_true];omega
     rw [eM];refine Z0 (Z3 (vs:=[(0,agg (Z1K ps[k] y (1+(m:Nat))))]) rfl (ZhW _)) rfl ?_;rintro z w10 hN;have cU:=hN.choose_spec.2.2.2;have kl:=k0.ob_le;have nj:=gM.ob_le;have oh:=ec.lt;have ca:SlV (ob rv') w10 z [Z1K ps[k] y (1+(m:Nat))]:=hN.slv (λb hb=>(kl b hb).2) rfl rfl (by simp [maxLen]);have no:=k0.up cU;have np:=gM.up cU;have iB:=ec.up cU;have d5:=cG.size;have gG:=cU.size;have dO:((List.range m).map (λi=>Z1K ps[k] y (1+(i:Nat)))).length=m:=by simp
     refine Z0 (ZJ (X:=[]) (base:=w.heap.size) rfl (by decide) rfl rfl no.reX (by simpa using ca) (by simp only [Xe,Xo,Xr,dO];omega) (by simp only [Xe,Xo,Xr,dO,maxLen];omega) (by omega)) rfl ?_;rintro rv'' w11 ⟨nq,iD,aJ⟩;refine W ?_;refine QL (m+1,rv'') ⟨sj,(cG.trans cU).own iD (λx hx=>.inr (kl x hx).1),np.keep iD (λx hx h=>fV x h hx),?_,λx hx h=>?_,λx hx e=>?_,iB.ext iD (λh=>iz _ h rfl)⟩ (by dsimp only;omega);dsimp only;rw [Ya2,XL,List.map_singleton,<- XA];exact nq.reX;rcases aJ x h with h1|h1
     exact fV x hx h1;have:=(nj x hx).2;omega;rcases aJ x hx with h1|h1
     exact iz x h1 e;omega
   focus repeat'(first|refine W1 ?_|refine VG ?_ ?_<;>intro hg|refine VC ?_ ?_<;>intro hc)
   omega;have e:m=cp:=by omega
   subst e;refine QL (k+1,dv',rv') ⟨ah,cG,gM,?_,fV⟩ (by dsimp only;omega);dsimp only;rw [nR];exact k0
 focus repeat'(first|refine W1 ?_|refine VG ?_ ?_<;>intro hg|refine VC ?_ ?_<;>intro hc)
 omega;rw [XH (by omega)] at hd cI;exact QT (dv,rv) ⟨hS,hd,cI,cJ⟩;rintro ⟨dv,rv⟩ w1 ⟨hS,hd,cI,cJ⟩;dsimp only at hS hd cI cJ ⊢;have lD:=Z5k ws ps ps.length (Xm _);have lR:=Z5l ws ps ps.length (Xm _);rw [Xs] at lD lR;refine W ?_;refine CM (Z16 rfl rfl rfl) (Zi4 X w.heap.size dv _ till _ hX hS.size hd (by omega)) ?_;rintro a w2 ⟨ds,lW,lV,ai,sl⟩;have ko:=cI.keep ai cJ;replace hS:=hS.own ai (λb hb=>.inr (hd.ob_le b hb).1);refine W ?_;refine CM (Z16 rfl rfl rfl) (Zi5 X w.heap.size rv _ till _ hX hS.size ko (by omega)) ?_;rintro a2 w3 ⟨rs,fy,ij,aw,aJ⟩;have oT:=lV.keep aw (λb hb h=>cJ b (sl ▸ h) hb);refine RT ?_;exact ⟨a,a2,ds,rs,rfl,lW,fy,oT.slv hX,ij.slv hX,hS.own aw (λb hb=>.inr (ko.ob_le b hb).1)⟩
def Zi7 {α:Type} (lt:α->α->Bool) (l:List α) (d:α):List α:=l.takeWhile (λx=>lt x d)++[d]++l.dropWhile (λx=>lt x d)
structure Zme {α:Type} (lt:α->α->Bool):Prop where
 asym:∀ a b,lt a b=true->lt b a=false
 trans:∀ a b d,lt b a=false->lt d b=false->lt d a=false
theorem Z6c {α:Type} (lt:α->α->Bool) (l:List α) (d:α):(Zi7 lt l d).Perm (l++[d]):=by
 unfold Zi7;rw [XA,List.singleton_append];refine List.Perm.trans Ybc ?_;rw [List.takeWhile_append_dropWhile];exact (YaD d l).symm
theorem Z4l {α:Type} {lt:α->α->Bool} (ho:Zme lt) {l:List α} (d:α) (h:l.Pairwise (λa b=>lt b a=false)):(Zi7 lt l d).Pairwise (λa b=>lt b a=false):=by
 unfold Zi7;have ht:∀ a∈l.takeWhile (λx=>lt x d),lt a d=true:=λa ha=>XS.1 List.all_takeWhile a ha;have hd:∀ a∈l.dropWhile (λx=>lt x d),lt a d=false:=by
  have hp:(l.dropWhile (λx=>lt x d)).Pairwise (λa b=>lt b a=false):=h.sublist (List.dropWhile_sublist _);have hh:=List.head?_dropWhile_not (λx=>lt x d) l;cases hc:l.dropWhile (λx=>lt x d) with
  | nil=>simp
  | cons y r=>
    rw [hc] at hp hh;simp at hh;intro a ha;rcases Xd.1 ha with rfl|ha
    exact hh;exact ho.trans _ _ _ hh ((X6.1 hp).1 a ha)
 rw [XA,YaL];refine ⟨h.sublist (List.takeWhile_sublist _),?_,?_⟩;rw [List.singleton_append,X6];exact ⟨λa ha=>hd a ha,h.sublist (List.dropWhile_sublist _)⟩;intro a ha b hb;rcases Xd.1 hb with rfl|hb
 exact ho.asym _ _ (ht a ha);have:=h;rw [<- List.takeWhile_append_dropWhile (p:=λx=>lt x d) (l:=l),YaL] at this;exact this.2.2 a ha b hb
theorem Zpv:Zme Z06 where
 asym:=λa b=>by simp only [Z06,decide_eq_true_eq,decide_eq_false_iff_not];omega
 trans:=λa b d=>by simp only [Z06,decide_eq_false_iff_not];omega
theorem ZeP (a b:Dlv) (h1:Z06 a b=false) (h2:Z06 b a=false):a.day=b.day/\a.attempt=b.attempt:=by
 simp only [Z06,decide_eq_false_iff_not] at h1 h2;omega
theorem Zmf {xs ys:List Dlv} (h:JU Z7b xs ys):ys.Perm xs/\ys.Pairwise (λa b=>Z06 b a=false):=
 ⟨h.1,h.2.imp (λ{a b} cj=>by rw [Z2w] at cj;simpa using cj)⟩
theorem Zpw {xs ys zs:List Dlv} (h1:ys.Perm xs) (h2:ys.Pairwise (λa b=>Z06 b a=false)) (h3:zs.Perm xs) (h4:zs.Pairwise (λa b=>Z06 b a=false)) (hd:∀ a∈xs,∀ b∈xs,a.day=b.day->a.attempt=b.attempt->a=b):ys=zs:=by
 refine List.Perm.eq_of_pairwise (λa b ha hb e1 e2=>?_) h2 h4 (h1.trans h3.symm);obtain ⟨k1,k2⟩:=ZeP _ _ e1 e2;exact (hd b (h3.subset hb) a (h1.subset ha) k1 k2).symm
theorem Zpx:Zme JV where
 asym:=λa b=>by simp only [JV,decide_eq_true_eq,decide_eq_false_iff_not];omega
 trans:=λa b d=>by simp only [JV,decide_eq_false_iff_not];omega
theorem ZeQ (a b:Rpt) (h1:JV a b=false) (h2:JV b a=false):a.day=b.day/\a.attempt=b.attempt:=by
 simp only [JV,decide_eq_false_iff_not] at h1 h2;omega
theorem Zmg {xs ys:List Rpt} (h:JU Z7c xs ys):ys.Perm xs/\ys.Pairwise (λa b=>JV b a=false):=
 ⟨h.1,h.2.imp (λ{a b} cj=>by rw [Z2x] at cj;simpa using cj)⟩
theorem Zpy {xs ys zs:List Rpt} (h1:ys.Perm xs) (h2:ys.Pairwise (λa b=>JV b a=false)) (h3:zs.Perm xs) (h4:zs.Pairwise (λa b=>JV b a=false)) (hd:∀ a∈xs,∀ b∈xs,a.day=b.day->a.attempt=b.attempt->a=b):ys=zs:=by
 refine List.Perm.eq_of_pairwise (λa b ha hb e1 e2=>?_) h2 h4 (h1.trans h3.symm);obtain ⟨k1,k2⟩:=ZeQ _ _ e1 e2;exact (hd b (h3.subset hb) a (h1.subset ha) k1 k2).symm
def Z2d (ps:List Pap):Prop:=ps.Pairwise (λa b=>a.attempt≠b.attempt)
theorem Z2d.eq {ps:List Pap} (h:Z2d ps) {p q:Pap} (hp:p∈ps) (hq:q∈ps) (e:p.attempt=q.attempt):p=q:=by
 obtain ⟨i,hi,rfl⟩:=Xq hp;obtain ⟨j,hj,rfl⟩:=Xq hq;have h':=YaI.1 h;rcases Nat.lt_trichotomy i j with h1|h1|h1
 exact absurd e (h' i j hi hj h1);subst h1;rfl;exact absurd e.symm (h' j i hj hi h1)
theorem ZaI (ws:List Wy) (p:Pap):Z2c p (JA ws p.attempt)=Z2c p (Z2G ws p.attempt)/\Z15 p (JA ws p.attempt)=Z15 p (Z2G ws p.attempt)/\J9 p (JA ws p.attempt)=J9 p (Z2G ws p.attempt):=by
 unfold JA Z2G;cases ws.find? (λx=>decide (x.attempt=p.attempt)) with
 | some y=>exact ⟨rfl,rfl,rfl⟩
 | none=>exact ⟨rfl,rfl,rfl⟩
theorem Z8u {ws:List Wy} {ps:List Pap} {a:Dlv} (h:a∈Z0O ws ps):∃ p∈ps,a=Z2c p (JA ws p.attempt):=by
 unfold Z0O at h;obtain ⟨p,hp,h⟩:=Ybd.1 h;split at h;exact ⟨p,hp,by simpa using h⟩;simp at h
theorem Z5m {ws:List Wy} {ps:List Pap} {a:Rpt} (h:a∈Z0l ws ps):∃ p∈ps,∃ i:Int,a=Z1K p (JA ws p.attempt) i:=by
 unfold Z0l at h;obtain ⟨p,hp,h⟩:=Ybd.1 h;unfold J9 at h;split at h;simp at h;split at h;rcases Xd.1 h with rfl|h
 exact ⟨p,hp,1,rfl⟩;exact ⟨p,hp,2,by simpa using h⟩;exact ⟨p,hp,1,by simpa using h⟩
theorem Zqu {ws:List Wy} {ps:List Pap} (hd:Z2d ps) {a b:Dlv} (ha:a∈Z0O ws ps) (hb:b∈Z0O ws ps) (h1:a.day=b.day) (h2:a.attempt=b.attempt):a=b:=by
 obtain ⟨p,hp,rfl⟩:=Z8u ha;obtain ⟨q,hq,rfl⟩:=Z8u hb;have:p=q:=hd.eq hp hq h2;rw [this]
theorem Zqv {ws:List Wy} {ps:List Pap} (hd:Z2d ps) {a b:Rpt} (ha:a∈Z0l ws ps) (hb:b∈Z0l ws ps) (h1:a.day=b.day) (h2:a.attempt=b.attempt):a=b:=by
 obtain ⟨p,hp,i,rfl⟩:=Z5m ha;obtain ⟨q,hq,j,rfl⟩:=Z5m hb;have:p=q:=hd.eq hp hq h2;subst this;have:i=j:=by simp only [Z1K] at h1;omega
 rw [this]
theorem Z6d (till:Int) (ws:List Wy):∀ (ps:List Pap) (acc:List Dlv),(ps.foldl (Z68 till ws) acc).Perm (acc++(Z0O ws ps).filter (λx=>!decide (x.day > till)))
 | [],acc=>by simp [Z0O]
 | p :: ps, acc => by
   obtain ⟨e1,e2,_⟩:=ZaI ws p;have ih:=Z6d till ws ps (Z68 till ws acc p);have hc:Z0O ws (p :: ps)=(if Z15 p (JA ws p.attempt) then [Z2c p (JA ws p.attempt)] else [])++Z0O ws ps:=by unfold Z0O;rw [Ybp]
   rw [XP,hc,XT,<- XA];refine ih.trans (Yak _ ?_);unfold Z68;rw [e1,e2];by_cases h1:Z15 p (Z2G ws p.attempt)=true;by_cases h2:(Z2c p (Z2G ws p.attempt)).day<=till;rw [if_pos ⟨h1,h2⟩,if_pos h1,YaS (by simpa using h2)];exact Z6c Z06 acc _;rw [if_neg (λh=>h2 h.2),if_pos h1,YaT (by simpa using h2)];simp;rw [if_neg (λh=>h1 h.1),if_neg h1];simp
theorem Z4m (till:Int) (ws:List Wy):∀ (ps:List Pap) (acc:List Dlv),acc.Pairwise (λa b=>Z06 b a=false)->(ps.foldl (Z68 till ws) acc).Pairwise (λa b=>Z06 b a=false)
 | [],acc,h=>h
 | p :: ps, acc, h => by
   rw [XP];refine Z4m till ws ps _ ?_;unfold Z68;split;exact Z4l Zpv _ h;exact h
theorem Z6e (till:Int):∀ (l acc:List Rpt),(l.foldl (ZeL till) acc).Perm (acc++l.filter (λx=>!decide (x.day > till)))
 | [],acc=>by simp
 | r :: l, acc => by
   rw [XP];refine (Z6e till l _).trans ?_;unfold ZeL;by_cases h2:r.day<=till;rw [if_pos h2,YaS (by simpa using h2)];refine (Yak _ (Z6c JV acc r)).trans ?_;simp;rw [if_neg h2,YaT (by simpa using h2)]
theorem Z4n (till:Int):∀ (l acc:List Rpt),acc.Pairwise (λa b=>JV b a=false)->(l.foldl (ZeL till) acc).Pairwise (λa b=>JV b a=false)
 | [],acc,h=>h
 | r :: l, acc, h => by
   rw [XP];refine Z4n till l _ ?_;unfold ZeL;split;exact Z4l Zpx _ h;exact h
theorem Z42 (till:Int) (ws:List Wy):∀ (ps:List Pap) (acc:List Rpt),(ps.foldl (Z5i till ws) acc).Perm (acc++(Z0l ws ps).filter (λx=>!decide (x.day > till)))
 | [],acc=>by simp [Z0l]
 | p :: ps, acc => by
   obtain ⟨_,_,e3⟩:=ZaI ws p;have ih:=Z42 till ws ps (Z5i till ws acc p);have hc:Z0l ws (p :: ps)=J9 p (JA ws p.attempt)++Z0l ws ps:=by unfold Z0l;rw [Ybp]
   rw [XP,hc,XT,<- XA];refine ih.trans (Yak _ ?_);unfold Z5i;rw [e3];exact Z6e till _ _
theorem Z4o (till:Int) (ws:List Wy):∀ (ps:List Pap) (acc:List Rpt),acc.Pairwise (λa b=>JV b a=false)->(ps.foldl (Z5i till ws) acc).Pairwise (λa b=>JV b a=false)
 | [],acc,h=>h
 | p :: ps, acc, h => by
   rw [XP];exact Z4o till ws ps _ (Z4n till _ _ h)
theorem Z9M {till:Int} {ws:List Wy} {ps:List Pap} {ds:List Dlv} (hd:Z2d ps) (h:JU Z7b ((Z0O ws ps).filter (λx=>!decide (x.day > till))) ds):ds=Zpq till ws ps:=by
 obtain ⟨h1,h2⟩:=Zmf h;refine Zpw h1 h2 (by have:=Z6d till ws ps [];rw [XM] at this;exact this) (Z4m till ws ps [] .nil) (λa ha b hb=>?_);exact Zqu hd (X2.1 ha).1 (X2.1 hb).1
theorem Z9N {till:Int} {ws:List Wy} {ps:List Pap} {rs:List Rpt} (hd:Z2d ps) (h:JU Z7c ((Z0l ws ps).filter (λx=>!decide (x.day > till))) rs):rs=Zc till ws ps:=by
 obtain ⟨h1,h2⟩:=Zmg h;refine Zpy h1 h2 (by have:=Z42 till ws ps [];rw [XM] at this;exact this) (Z4o till ws ps [] .nil) (λa ha b hb=>?_);exact Zqv hd (X2.1 ha).1 (X2.1 hb).1
theorem Z5H (l:List Int):Z2d (ZI l):=by
 unfold Z2d ZI;rw [List.pairwise_map];refine List.pairwise_lt_range.imp (λ{i j} bN=>?_);simp only [Z4k];omega
theorem Z1F (l:List Int):(ZI l).length<=8:=by simp [ZI];omega
theorem Z3y {l:List Int} {p:Pap} (h:p∈ZI l):0<=p.attempt/\p.attempt<24/\0<=p.party/\p.party<4/\0<=p.carrier/\p.carrier<3/\739616<=p.sent/\p.sent<739656:=by
 unfold ZI at h;obtain ⟨i,hi,rfl⟩:=XE.1 h;simp only [Ybq] at hi;obtain ⟨h0,h1⟩:=Z2v (l.getD i 0) 1000000 (by omega);simp only [Z4k];omega
theorem Z5n {ps:List Pap} {l:List Int} {y:Wy} (h:y∈Z19 ps l):0<=y.kind/\y.kind<6/\0<=y.days/\y.days<9/\0<=y.party/\y.party<4:=by
 unfold Z19 at h;obtain ⟨i,hi,he⟩:=List.mem_filterMap.1 h;obtain ⟨h0,h1⟩:=Z2v (l.getD i 0) 1000000 (by omega);unfold Z5h at he;dsimp only at he;split at he;cases he;dsimp only;omega;cases he
theorem Z6f {ws:List Wy} {lo hi:Int} (h:∀ y∈ws,lo<=y.days/\y.days<=hi) (h1:lo<=1/\1<=hi) (z:Int):lo<=(JA ws z).days/\(JA ws z).days<=hi:=by
 unfold JA;cases hf:ws.find? (λx=>decide (x.attempt=z)) with
 | some y=>exact h y (Yan hf)
 | none=>exact h1
structure Fit (ps:List Pap) (ws:List Wy):Prop where
 dist:Z2d ps
 len:ps.length<=9
 sent:∀ p∈ps,0<=p.sent/\p.sent<=4000000
 days:∀ y∈ws,0<=y.days/\y.days<=4000000
theorem Zi8 (X Y Z:List Nat) (u v:Value) (ps:List Pap) (ws:List Wy) (till:Int) (w:World) (hX:∀ b∈X,b<w.heap.size) (aZ:SlV Y w u ps) (cD:SlV Z w v ws) (hf:Fit ps ws) :
 CC 8 #[u,v,.I till] w λr w'=>∃ a b,r=.tuple #[a,b]/\SlV X w' a (Zpq till ws ps)/\SlV X w' b (Zc till ws ps)/\Stp [] w w':=by
 have h:=Zmd X Y Z u v ps ws till w hX aZ cD hf.len (λp hp=>by
  have h1:=hf.sent p hp;have h2:=Z6f hf.days (by omega) p.attempt;unfold I64;omega)
 refine h.mono ?_;rintro r w' ⟨z,rfl,a,b,ds,rs,rfl,hd,hr,ha,hb,hS⟩;rw [Z9M hf.dist hd] at ha;rw [Z9N hf.dist hr] at hb;exact ⟨_,rfl,a,b,rfl,ha,hb,hS⟩
theorem ZeR (a b:List Int):Fit (ZI a) (Z19 (ZI a) b) where
 dist:=Z5H a
 len:=by have:=Z1F a;omega
 sent:=λp hp=>by have:=Z3y hp;omega
 days:=λy hy=>by have:=Z5n hy;omega
end Go.Proofs.YtkojegdemoahlaaGreatDoor
namespace Go.Eng
open Go Go.RowKit Go.Proofs
theorem Row.slvN {α:Type} [Z1 α] {X:List Nat} {w} {base T:Nat} {v:Value} {xs:List α} (h:Row X w base T v xs) (hX:∀ b∈X,b∉ob v):SlV X w v xs:=by
 obtain ⟨css,hl,hr,ho⟩:=h;have hk:∀ c∈css,c.length=Z1.k α:=by
  intro c hc;obtain ⟨i,hi,rfl⟩:=Xq hc;exact Z1.len (hr i (by omega) hi)
 rcases ho.2 with ⟨rfl,hn⟩|⟨q,cap,cur,rfl,hb,hg,bj,aW,aH,ht⟩
 exact ⟨none,0,by rw [hn],by omega,by simp [maxLen],λ_=>rfl,λi hi=>by omega⟩;refine ⟨some ⟨q,0,none⟩,cap,rfl,bj,aW,λh=>by simp at h,λi hi=>?_⟩;refine ⟨q,0,css[i]'(by omega),rfl,(Xi.1 hg).1,λhx=>hX q hx (by simp [ob]),?_,λj u hu=>?_⟩;exact Z1.ext (hr i hi (by omega)) (Stp.refl [] w) (by simp) (λb hb=>.inl (by simp [hb]));have h1:=JC css hk i (by omega) j u hu;rw [<- ht,Yab] at h1;split at h1;have h2:cur[i * Z1.k α+j]?=some u:=by simpa using h1
 rw [XO,cell_of_row w q _ cur T (0,0) hg];exact h2;cases h1
end Go.Eng
namespace Go.Proofs.YtkojegdemoahlaaGreatDoor
open Go Go.Eng Go.RowKit Go.Proofs
structure Zpz (x:Crr):Prop where
 ext:0<=x.extra/\x.extra<=1000
 tol:0<=x.tol/\x.tol<=1000
abbrev rlN (s:Str):Rul:=⟨s,0,s,.mk 2 0 [] [],.mk 3 0 [] [],[],[]⟩
theorem ckN (s:Str):decide (Z6P (rlN s)=0)=ZG s:=by
 have m1:Z2D (.mk 2 0 [] []) 2=0:=by
  unfold Z2D;rw [show Z0t (.mk 2 0 [] [])=1 by simp only [Z3e,Nd.kids,Yaj];rfl,show JG (.mk 2 0 [] [])=2 by simp only [Z4W,Nd.kids,Nd.kind,Nd.num,Nd.word,Yaj];rfl];decide
 have m2:Z2D (.mk 3 0 [] []) 3=0:=by
  unfold Z2D;rw [show Z0t (.mk 3 0 [] [])=1 by simp only [Z3e,Nd.kids,Yaj];rfl,show JG (.mk 3 0 [] [])=3 by simp only [Z4W,Nd.kids,Nd.kind,Nd.num,Nd.word,Yaj];rfl];decide
 have hn:Z01 (rlN s)=ZG s:=by simp [Z01]
 unfold Z6P;rw [hn,m1,m2];cases ZG s<;>simp
theorem Z8v (k:Int) (w):(Instr.build 86 #[(0,.I k)]).run Tryz.prog w=.ok (.agg #[.I k,.I 0,str [],.N]) w:=by kernel_rfl
theorem Z0P (s:Str) (m:Int) (w) (hF:SlV [] w Z1w Za) (hm:w.cell? ⟨2,0,none⟩=some (.I m)) :
 CC 63 #[str s] w λr w'=>r=.B (ZG s)/\Stp [] w w':=by
 refine cW1 12 Tryz.func63 ?_;refine W ?_;apply Z9 (vs:=[(0,.I 2)]) rfl (Z8v _) rfl;apply Z9 (vs:=[(0,.I 3)]) rfl (Z8v _) rfl;apply Z9 (vs:=[(0,str s),(2,str s),(3,.agg #[.I 2,.I 0,str [],.N]),(4,.agg #[.I 3,.I 0,str [],.N])]) rfl (ZdP _ _ _ _ _ _ _ _ _ _ _ _ _ _) rfl;refine Z0 Z4 rfl ?_;rintro _ w1 ⟨b,rfl,hb,e0,hT⟩;refine SB (us:=rlC (rlN s) Z0h Z0h) (Zh9 (rlN s) (Zz (α:=Nd) [] w) (Zz (α:=Nd) [] w)) e0 ?_;rintro _ w2 ⟨aK,e1⟩;have hS:=hT.ow aK;clear hT aK e0;refine W ?_;refine CM (ZO rfl) (Z7R _ (rlN s) m _ ⟨Z0h,Z0h,rfl,Zz _ _,Zz _ _⟩ (hF.up hS) (hS.cell (by simp) hm)) ?_;rintro _ w3 ⟨rfl,hT⟩;replace hS:=hS.trans hT;refine RT ?_;exact ⟨by rw [<- ckN s],hS⟩
def JM (q:Cr):Bool:=decide ((Z1Y q.cnd).2≠0) || decide ((Z1Y q.due).2≠0) || decide ((Z1Y q.cnd).1≠2) || decide ((Z1Y q.due).1≠3) || decide (q.frm<0) || decide (q.frm > 3652058) || !ZG q.name || !ZG q.on || (decide (q.unl≠[]) && !ZG q.unl) || (decide (q.els≠[]) && !ZG q.els)
def chkC (q:Cr):Int:=if JM q then 22 else 0
theorem Z9O (v:Value) (q:Cr) (w) (m:Int) (hF:SlV [] w Z1w Za) (hm:w.cell? ⟨2,0,none⟩=some (.I m)) (hv:CrV [] w v q) :
 CC 28 #[v] w λr w'=>r=.I (chkC q)/\Stp [] w w':=by
 obtain ⟨kc,kd,rfl,cu,dy⟩:=hv;refine cW1 60 Tryz.func28 ?_;refine W ?_;refine Z0 (Zl rfl) rfl ?_;rintro _ w1 ⟨b,rfl,hb,e1,hS⟩;replace e1:Blk w1 b 81 (crC q kc kd):=e1;replace cu:=cu.up hS;replace dy:=dy.up hS;clear hb;refine W ?_;refine CL (Z4Y _ q.cnd _ cu) ?_;rintro _ w2 ⟨rfl,hT⟩;replace e1:=e1.up hT;replace cu:=cu.up hT;replace dy:=dy.up hT;replace hS:=hS.trans hT;clear hT;refine W ?_;refine CL (Z4Y _ q.due _ dy) ?_;rintro _ w2 ⟨rfl,hT⟩;replace e1:=e1.up hT;replace cu:=cu.up hT;replace dy:=dy.up hT;replace hS:=hS.trans hT;clear hT;refine W ?_;refine Z0v (σ:=Bool) (λu=>[(1,pQ b),(2,.I 0),(19,.B u)]) (λu w'=>Blk w' b 81 (crC q kc kd)/\Stp [] w w'/\u=JM q) ?_ ?_
 . repeat'(first|refine W1 ?_|omega|refine VG ?_ ?_<;>intro hg|refine VC ?_ ?_<;>intro hc)
   all_goals try (first|exact Zt true ⟨rfl,rfl,rfl,trivial⟩ ⟨e1,hS,by simp [JM, *]⟩|exact Zt false ⟨rfl,rfl,rfl,trivial⟩ ⟨e1,hS,by simp [JM, *]⟩|exact Zt _ ⟨rfl,rfl,rfl,trivial⟩ ⟨e1,hS,by simp [JM, *]⟩)
   refine W ?_;refine CM (ZO rfl) (Z0P q.name m _ (hF.up hS) (hS.cell (by simp) hm)) ?_;rintro _ w3 ⟨rfl,hT⟩;replace e1:=e1.up hT;replace cu:=cu.up hT;replace dy:=dy.up hT;replace hS:=hS.trans hT;clear hT;cases hn_name:ZG q.name with
   | false=>
     repeat'(first|refine W1 ?_|omega|refine VG ?_ ?_<;>intro hg|refine VC ?_ ?_<;>intro hc)
     all_goals (first|exact Zt true ⟨rfl,rfl,rfl,trivial⟩ ⟨e1,hS,by simp [JM, *]⟩|exact Zt false ⟨rfl,rfl,rfl,trivial⟩ ⟨e1,hS,by simp [JM, *]⟩|exact Zt _ ⟨rfl,rfl,rfl,trivial⟩ ⟨e1,hS,by simp [JM, *]⟩)
   | true=>
     repeat'(first|refine W1 ?_|omega|refine VG ?_ ?_<;>intro hg|refine VC ?_ ?_<;>intro hc)
     refine W ?_;refine CM (ZO rfl) (Z0P q.on m _ (hF.up hS) (hS.cell (by simp) hm)) ?_;rintro _ w3 ⟨rfl,hT⟩;replace e1:=e1.up hT;replace cu:=cu.up hT;replace dy:=dy.up hT;replace hS:=hS.trans hT;clear hT;cases hn_on:ZG q.on with
     | false=>
       repeat'(first|refine W1 ?_|omega|refine VG ?_ ?_<;>intro hg|refine VC ?_ ?_<;>intro hc)
       all_goals (first|exact Zt true ⟨rfl,rfl,rfl,trivial⟩ ⟨e1,hS,by simp [JM, *]⟩|exact Zt false ⟨rfl,rfl,rfl,trivial⟩ ⟨e1,hS,by simp [JM, *]⟩|exact Zt _ ⟨rfl,rfl,rfl,trivial⟩ ⟨e1,hS,by simp [JM, *]⟩)
     | true=>
       repeat'(first|refine W1 ?_|omega|refine VG ?_ ?_<;>intro hg|refine VC ?_ ?_<;>intro hc)
       . refine W ?_
         refine CM (ZO rfl) (Z0P q.unl m _ (hF.up hS) (hS.cell (by simp) hm)) ?_;rintro _ w3 ⟨rfl,hT⟩;replace e1:=e1.up hT;replace cu:=cu.up hT;replace dy:=dy.up hT;replace hS:=hS.trans hT;clear hT;cases hn_unl:ZG q.unl with
         | false=>
           repeat'(first|refine W1 ?_|omega|refine VG ?_ ?_<;>intro hg|refine VC ?_ ?_<;>intro hc)
           all_goals (first|exact Zt true ⟨rfl,rfl,rfl,trivial⟩ ⟨e1,hS,by simp [JM, *]⟩|exact Zt false ⟨rfl,rfl,rfl,trivial⟩ ⟨e1,hS,by simp [JM, *]⟩|exact Zt _ ⟨rfl,rfl,rfl,trivial⟩ ⟨e1,hS,by simp [JM, *]⟩)
         | true=>
           repeat'(first|refine W1 ?_|omega|refine VG ?_ ?_<;>intro hg|refine VC ?_ ?_<;>intro hc)
           . refine W ?_
             refine CM (ZO rfl) (Z0P q.els m _ (hF.up hS) (hS.cell (by simp) hm)) ?_;rintro _ w3 ⟨rfl,hT⟩;replace e1:=e1.up hT;replace cu:=cu.up hT;replace dy:=dy.up hT;replace hS:=hS.trans hT;clear hT;cases hn_els:ZG q.els with
             | false=>
               repeat'(first|refine W1 ?_|omega|refine VG ?_ ?_<;>intro hg|refine VC ?_ ?_<;>intro hc)
               all_goals (first|exact Zt true ⟨rfl,rfl,rfl,trivial⟩ ⟨e1,hS,by simp [JM, *]⟩|exact Zt false ⟨rfl,rfl,rfl,trivial⟩ ⟨e1,hS,by simp [JM, *]⟩|exact Zt _ ⟨rfl,rfl,rfl,trivial⟩ ⟨e1,hS,by simp [JM, *]⟩)
             | true=>
               repeat'(first|refine W1 ?_|omega|refine VG ?_ ?_<;>intro hg|refine VC ?_ ?_<;>intro hc)
               all_goals (first|exact Zt true ⟨rfl,rfl,rfl,trivial⟩ ⟨e1,hS,by simp [JM, *]⟩|exact Zt false ⟨rfl,rfl,rfl,trivial⟩ ⟨e1,hS,by simp [JM, *]⟩|exact Zt _ ⟨rfl,rfl,rfl,trivial⟩ ⟨e1,hS,by simp [JM, *]⟩)
           all_goals (first|exact Zt true ⟨rfl,rfl,rfl,trivial⟩ ⟨e1,hS,by simp [JM, *]⟩|exact Zt false ⟨rfl,rfl,rfl,trivial⟩ ⟨e1,hS,by simp [JM, *]⟩|exact Zt _ ⟨rfl,rfl,rfl,trivial⟩ ⟨e1,hS,by simp [JM, *]⟩)
       . refine W ?_
         refine CM (ZO rfl) (Z0P q.els m _ (hF.up hS) (hS.cell (by simp) hm)) ?_;rintro _ w3 ⟨rfl,hT⟩;replace e1:=e1.up hT;replace cu:=cu.up hT;replace dy:=dy.up hT;replace hS:=hS.trans hT;clear hT;cases hn_els:ZG q.els with
         | false=>
           repeat'(first|refine W1 ?_|omega|refine VG ?_ ?_<;>intro hg|refine VC ?_ ?_<;>intro hc)
           all_goals (first|exact Zt true ⟨rfl,rfl,rfl,trivial⟩ ⟨e1,hS,by simp [JM, *]⟩|exact Zt false ⟨rfl,rfl,rfl,trivial⟩ ⟨e1,hS,by simp [JM, *]⟩|exact Zt _ ⟨rfl,rfl,rfl,trivial⟩ ⟨e1,hS,by simp [JM, *]⟩)
         | true=>
           repeat'(first|refine W1 ?_|omega|refine VG ?_ ?_<;>intro hg|refine VC ?_ ?_<;>intro hc)
           all_goals (first|exact Zt true ⟨rfl,rfl,rfl,trivial⟩ ⟨e1,hS,by simp [JM, *]⟩|exact Zt false ⟨rfl,rfl,rfl,trivial⟩ ⟨e1,hS,by simp [JM, *]⟩|exact Zt _ ⟨rfl,rfl,rfl,trivial⟩ ⟨e1,hS,by simp [JM, *]⟩)
       all_goals (first|exact Zt true ⟨rfl,rfl,rfl,trivial⟩ ⟨e1,hS,by simp [JM, *]⟩|exact Zt false ⟨rfl,rfl,rfl,trivial⟩ ⟨e1,hS,by simp [JM, *]⟩|exact Zt _ ⟨rfl,rfl,rfl,trivial⟩ ⟨e1,hS,by simp [JM, *]⟩)
 rintro u w4 ⟨e1,hS,hu⟩
 try dsimp only at hu ⊢
 unfold chkC;rw [<- hu];cases u with
 | true=>
   repeat'(first|refine W1 ?_|omega|refine VG ?_ ?_<;>intro hg|refine VC ?_ ?_<;>intro hc)
   refine RU ?_;exact ⟨rfl,hS⟩
 | false=>
   repeat'(first|refine W1 ?_|omega|refine VG ?_ ?_<;>intro hg|refine VC ?_ ?_<;>intro hc)
   refine RU ?_;exact ⟨rfl,hS⟩
structure ZpA (X:List Nat) (lv:Value) (l:List Int) (c:Cas) (R:Z5B) (w:World):Prop where
 li:SlV X w lv l
 ff:SlV X w R.fv c.fcts
 rr:SlV X w R.rv c.ruls
 aa:SlV X w R.av c.atts
 cc:SlV X w R.cv c.crrs
 ss:SlV X w R.sv c.stys
 ho:SlV X w R.hv c.cal.hols
 clo:SlV X w R.lv c.cal.clos
 one:R.zo.oneCell'=true/\R.zs.oneCell'=true/\R.hr.oneCell'=true
theorem ZpA.cell {X:List Nat} {lv:Value} {l:List Int} {c:Cas} {R:Z5B} {w} (h:ZpA X lv l c R w):∀ u∈Z1j c R,u.oneCell'=true:=by
 have h1:=h.ff.one;have h2:=h.rr.one;have h3:=h.aa.one;have h4:=h.cc.one;have h5:=h.ss.one;have h6:=h.ho.one;have h7:=h.clo.one;obtain ⟨h8,h9,iP⟩:=h.one;intro u hu;simp only [Z1j,Jq,Xd,Xp,or_false,X9,XM] at hu;rcases hu with rfl|rfl|rfl|rfl|rfl|rfl|rfl|rfl|rfl|rfl|rfl|rfl|rfl|rfl|rfl|rfl|rfl|rfl|rfl<;>first|assumption|rfl
theorem Zi9 {a:Atp} {v:Value} (h:v.oneCell'=true):∀ u∈atC a v,u.oneCell'=true:=by
 intro u hu;simp only [Xd,Xp,or_false] at hu;rcases hu with rfl|rfl|rfl|rfl|rfl<;>first|assumption|rfl
theorem Z3z {α:Type} [Z1 α] {X:List Nat} {w} {v:Value} {xs:List α} (h:SlV X w v xs):∃ p c,v=.slice p xs.length c:=by
 obtain ⟨p,c,h,_⟩:=h;exact ⟨p,c,h⟩
def ltr (i:Nat) (c:Int):Prop:=(97<=c/\c<=122)\/(48<=c/\c<=57/\i≠0)
instance (i:Nat) (c:Int):Decidable (ltr i c):=by unfold ltr;infer_instance
def Z5o (s:Str):Bool:=decide ((∀ i,i<s.length->ltr i (Z09 s i))/\s≠[]/\s.length<=12)
theorem ZeS (s:Str) (w) (hm:(s.length:Int)<=maxLen):CC 271 #[str s] w λr w'=>r=.B (Z5o s)/\Stp [] w w':=by
 simp only [maxLen] at hm;refine cW1 49 Tryz.func271 ?_;refine W ?_;refine LP (σ:=Nat) (λi=>[(0,str s),(7,.I (s.length:Int)),(8,.I (i:Int))]) (λi w'=>i<=s.length/\Stp [] w w'/\∀ j,j<i->ltr j (Z09 s j)) (λi=>s.length - i) 0 ⟨Xu _,Stp.refl _ _,λj h=>absurd h (XC _)⟩ ?_;rintro i w2 ⟨hi,hS,aM⟩
 try dsimp only at hi aM ⊢
 by_cases lp:¬ s.length<=i
 . have bO:¬ ltr i (Z09 s i)->Z5o s=false:=λh=>decide_eq_false (λk=>h (k.1 i (by omega)))
   have cW:ltr i (Z09 s i)->∀ j,j<i+1->ltr j (Z09 s j):=λh j hj=>by
    by_cases e:j=i;subst e;exact h;exact aM j (by omega)
   generalize iK:Z09 s i=b at bO cW;have fb:(97<=b/\b<=122)->ltr i b:=.inl;have cZ:(48<=b/\b<=57/\i≠0)->ltr i b:=.inr;have iR:¬ (97<=b/\b<=122)->¬ (48<=b/\b<=57/\i≠0)->¬ ltr i b:=λh1 h2 h=>h.elim h1 h2;subst iK;by_cases c1:97<=Z09 s i;all_goals by_cases c2:Z09 s i<=122
   all_goals by_cases c3:48<=Z09 s i
   all_goals by_cases c4:Z09 s i<=57
   all_goals by_cases c5:(i:Int)=0
   all_goals try omega
   all_goals
    refine QO ?_;refine ZDr 22 [] [] [(0,0),(1,0),(2,0),(3,0),(4,0),(5,0),(6,0),(7,0),(8,0),(9,0),(10,0),(11,0),(12,0),(13,0),(14,0),(15,0),(16,0),(17,0),(18,0),(19,0),(20,0),(21,0)] (λw1 ae=>?_);have bp:=hS.trans ae;refine QD ?_;refine QO ?_
   all_goals first
    | exact QL (i+1) ⟨by omega,bp,cW (by first|exact fb ⟨c1,c2⟩|exact cZ ⟨c3,c4,by omega⟩)⟩ (by omega)
    | (refine RU ?_
       exact ⟨by rw [bO (iR (by omega) (by omega))],bp⟩)
 obtain rfl:i=s.length:=by omega
 by_cases h0:s=[]
 subst h0;refine RT ?_;exact ⟨rfl,hS⟩;by_cases iT:s.length<=12
 . (refine QP ?_ ?_<;>intro hg)
   all_goals try contradiction
   all_goals
    refine RU ?_;exact ⟨by rw [show Z5o s=true from decide_eq_true ⟨aM,h0,iT⟩,decide_eq_true (by omega)],hS⟩
 . (refine QP ?_ ?_<;>intro hg)
   all_goals try contradiction
   all_goals
    refine RU ?_;exact ⟨by rw [show Z5o s=false from decide_eq_false (λh=>iT h.2.2),decide_eq_false (by omega)],hS⟩
theorem Z7d (n m:Int) (w):CC 225 #[.I n,.I m] w λr w'=>r=.B (decide (0<=n/\n<m))/\Stp [] w w':=by
 refine cW2 12 Tryz.func225 ?_
 (refine QP ?_ ?_<;>intro hg)
 refine RU ?_;exact ⟨by congr 1;rw [decide_eq_decide];exact ⟨λh=>⟨by omega,h⟩,λh=>h.2⟩,Stp.refl _ _⟩;refine RU ?_;exact ⟨by congr 1;symm;exact decide_eq_false (λh=>by omega),Stp.refl _ _⟩
def VOk (f:Fct):Prop:=(0<=f.entry/\f.entry<65536)/\Z5o f.kind=true/\(0<=f.day/\f.day<3652059)/\(0<=f.by_/\f.by_<64)/\(0<=f.to_/\f.to_<64)/\-2147483647<=f.amt/\f.amt<=2147483647
instance (f:Fct):Decidable (VOk f):=by unfold VOk;infer_instance
theorem ZbK (f:Fct) (w) (hm:(f.kind.length:Int)<=maxLen):CC 226 #[aG f] w λr w'=>r=.B (decide (VOk f))/\Stp [] w w':=by
 refine cW1 36 Tryz.func226 ?_;refine W ?_;refine BX (Stp.refl [] w) λb1 w1 h1 e1 _ hS=>?_;replace e1:Blk w1 b1 54 (Z2.enc f):=e1;refine QO ?_;refine CP hS (Z7d f.entry 65536 _) λw3 hT hS=>?_;replace e1:=e1.up hT;clear hT;by_cases h0:(0<=f.entry/\f.entry<65536)
 rotate_left
 rw [decide_eq_false h0];refine RT ?_;exact ⟨by rw [decide_eq_false (λh=>h0 (h.1))],hS⟩;rw [decide_eq_true h0];refine QO ?_;refine CP hS (ZeS f.kind _ hm) λw4 hT hS=>?_;replace e1:=e1.up hT;clear hT;by_cases h1:(Z5o f.kind=true)
 rotate_left
 rw [YbI.2 h1];refine RT ?_;exact ⟨by rw [decide_eq_false (λh=>h1 (h.2.1))],hS⟩;rw [h1];refine QO ?_;refine CP hS (Z7d f.day 3652059 _) λw5 hT hS=>?_;replace e1:=e1.up hT;clear hT;by_cases h2:(0<=f.day/\f.day<3652059)
 rotate_left
 rw [decide_eq_false h2];refine RT ?_;exact ⟨by rw [decide_eq_false (λh=>h2 (h.2.2.1))],hS⟩;rw [decide_eq_true h2];refine QO ?_;refine CP hS (Z7d f.by_ 64 _) λw6 hT hS=>?_;replace e1:=e1.up hT;clear hT;by_cases h3:(0<=f.by_/\f.by_<64)
 rotate_left
 rw [decide_eq_false h3];refine RT ?_;exact ⟨by rw [decide_eq_false (λh=>h3 (h.2.2.2.1))],hS⟩;rw [decide_eq_true h3];refine QO ?_;refine CP hS (Z7d f.to_ 64 _) λw7 hT hS=>?_;replace e1:=e1.up hT;clear hT;by_cases h4:(0<=f.to_/\f.to_<64)
 rotate_left
 rw [decide_eq_false h4];refine RT ?_;exact ⟨by rw [decide_eq_false (λh=>h4 (h.2.2.2.2.1))],hS⟩;rw [decide_eq_true h4]
 (refine QP ?_ ?_<;>intro hg)
 all_goals
  refine RU ?_;exact ⟨by
   congr 1;symm
   first
    | (rw [decide_eq_decide];exact ⟨λh=>by have:=h.2.2.2.2.2;omega,λh=>⟨h0,h1,h2,h3,h4,by omega,by omega⟩⟩)
    | exact decide_eq_false (λh=>by have:=h.2.2.2.2.2;omega),hS⟩
abbrev mkI (a:Int):Value:=.I a
structure Vr0 where
 f:Fct
instance:Z2 Vr0 where
 k:=8
 enc:=λx=>.I 0 :: .B false :: Z2.enc x.f
 len:=λ_=>rfl
 one:=by
  intro x u hu;rcases Xd.1 hu with rfl|hu
  rfl;rcases Xd.1 hu with rfl|hu
  rfl;exact Z2.one x.f u hu
abbrev Z9P (f:Fct):Int:=if VOk f then 0 else 5
theorem ZeT (r:Nat) (f:Fct) (w) (hm:(f.kind.length:Int)<=maxLen) (hr:Ja mkI w r []) :
 CC 168 #[.map (some r),aG (⟨f⟩:Vr0),.I 0] w λv w'=>v=.I (Z9P f)/\Stp [r] w w':=by
 have lr:=hr.lt;refine cW3 50 Tryz.func168 ?_;refine W ?_;refine BX (Stp.refl [] w) λb1 w1 h1 e1 _ hS=>?_;replace e1:Blk w1 b1 156 (Z2.enc (⟨f⟩:Vr0)):=e1;replace hr:=hr.up hS;refine QO ?_;refine Z7 (Zy rfl rfl e1 (us:=Z2.enc f) rfl rfl) rfl ?_;refine W ?_;refine CP hS (ZbK f _ hm) λw2 hT hS=>?_;replace e1:=e1.up hT;replace hr:=hr.up hT;clear hT;unfold Z9P;by_cases hv:VOk f
 rotate_left
 rw [decide_eq_false hv,if_neg hv];refine RT ?_;exact ⟨rfl,hS.mn⟩;rw [decide_eq_true hv,if_pos hv];refine QO ?_;refine Z5 (Z1a (a:=f.entry) rfl rfl rfl hr (by simp)) ?_;rintro _ w3 ⟨re,hT⟩;refine RT ?_;exact ⟨rfl,hS.mn.trans hT⟩
theorem Zia (v:Value) (f:Fct) (w) (hm:(f.kind.length:Int)<=maxLen) (hs:SlV [] w v [(⟨f⟩:Vr0)]) :
 CC 103 #[v] w λr w'=>∃ p q,r=.tuple #[p,q,.I (Z9P f)]/\Stp [] w w':=by
 refine cW1 29 Tryz.func103 ?_;refine W ?_;refine Z0 (Z0K mkI) rfl ?_;rintro _ w1 ⟨r,rfl,gr,gN,hS⟩;replace hs:=hs.up hS;refine W ?_;have cn:0 < [(⟨f⟩:Vr0)].length:=by simp
 refine Zr (σ:=Nat) (λk=>[(0,v),(5,.map (some r)),(6,.I 0),(11,v),(12,.I 1),(13,.I (k:Int))])
  (λk W=>k<=1/\(k=0->W=w1)/\(k=1->VOk f)/\Stp [] w W) (λk=>1 - k) 0 ⟨rfl,rfl,rfl,rfl,rfl,rfl,trivial⟩ ⟨by decide,λ_=>rfl,by simp,hS⟩ ?_
 rintro k w2 ⟨hk,fK,bz,ai⟩;have cm:k=0\/k=1:=by omega
 rcases cm with rfl|rfl
 obtain rfl:=fK rfl;clear fK bz ai;have lr:=gN.lt;refine QO ?_;refine Z0 Z4 rfl ?_;rintro _ w3 ⟨b8,rfl,d5,e8,hT⟩;refine SA (us:=Z2.enc (⟨f⟩:Vr0)) e8 ?_;rintro _ w4 ⟨hU,e8⟩;replace hT:=hT.ow hU;replace gN:=gN.up hT;have ay:=hS.trans hT;have l8:=e8.lt;have n8:b8≠r:=by omega
 clear hU;refine QO ?_;refine CL (ZeT r f _ hm gN) ?_;rintro _ w5 ⟨rfl,hU⟩;replace e8:=e8.ext hU (by simpa using n8);have aB:Stp [] w w5:=ay.ow hU;unfold Z9P;by_cases hv:VOk f;rw [if_pos hv];refine QO ?_;exact QL 1 ⟨Xm _,by simp,λ_=>hv,aB⟩ (by decide);rw [if_neg hv];refine RT ?_;exact ⟨_,_,rfl,aB⟩;have hv:=bz rfl;refine RT ?_;exact ⟨_,_,by rw [show Z9P f=0 from if_pos hv],ai⟩
theorem Z9Q (v:Value) (f:Fct) (w) (hm:(f.kind.length:Int)<=maxLen) (hs:SlV [] w v [(⟨f⟩:Vr0)]) :
 CC 61 #[v] w λr w'=>r=.I (Z9P f)/\Stp [] w w':=by
 refine cW1 13 Tryz.func61 ?_;refine W ?_;refine CL (Zia v f _ hm hs) ?_;rintro _ w1 ⟨p,q,rfl,hS⟩;refine RT ?_;exact ⟨rfl,hS⟩
def Z8w:List Int->List Fct->Int
 | _,[]=>0
 | kn,f :: l=>if ¬ VOk f then 5 else if f.entry∈kn then 4 else Z8w (kn++[f.entry]) l
theorem Z6g (kn:List Int) (f:Fct) (l:List Fct):Z8w kn (f :: l)=if ¬ VOk f then 5 else if f.entry∈kn then 4 else Z8w (kn++[f.entry]) l:=rfl
theorem ZeU {κ:Type} [DecidableEq κ] (l:List Fct) (g:Fct->κ) (a:κ):Z1V (l.map (λx=>(g x,Value.bool true))) a (.B false)=.B (decide (a∈l.map g)):=by
 have:=ZhQ (l.map g) a;rw [Yad] at this;exact this
theorem Zib (f:Fct) (w):(Instr.build 156 #[(2,aG f)]).run Tryz.prog w=.ok (aG (⟨f⟩:Vr0)) w:=by kernel_rfl
theorem Zic (f:Fct) (w):(Instr.buildSlice 157 1 #[(0,aG (⟨f⟩:Vr0))]).run Tryz.prog w=.ok (.slice (some ⟨w.heap.size,0,none⟩) 1 1) (w.alloc (.cells (Z2.enc (⟨f⟩:Vr0)).toArray 156)):=by kernel_rfl
theorem Z5p (v:Value) (l:List Fct) (w) (hm:∀ f∈l,(f.kind.length:Int)<=maxLen) (hs:SlV [] w v l) :
 CC 26 #[v] w λr w'=>r=.I (Z8w [] l)/\Stp [] w w':=by
 have ia:=hs.max;refine cW1 26 Tryz.func26 ?_;refine W ?_;refine Z0 (Z0K mkI) rfl ?_;rintro _ w1 ⟨r,rfl,gr,gN,hS⟩;have dw:=hs.ext (X':=[r]) hS (by simp) (λb hb=>.inr (by simp at hb;omega));have lr:=gN.lt;refine QO ?_
 refine Zr (σ:=Nat) (λk=>[(3,.map (some r)),(7,v),(8,.I (l.length:Int)),(9,.I (k:Int))])
  (λk W=>k<=l.length/\Ja mkI W r ((l.take k).map (λf=>(f.entry,.B true)))/\Z8w [] l=Z8w ((l.take k).map Fct.entry) (l.drop k)/\Stp [r] w1 W) (λk=>l.length - k) 0 ⟨rfl,rfl,rfl,rfl,trivial⟩ ⟨Xu _,by simpa using gN,by simp,Stp.refl _ _⟩ ?_
 clear gN;rintro k w2 ⟨hk,dN,bt,hT⟩;have bu:=dw.ext (X':=[r]) hT (by simp) (λb hb=>.inl hb);have tB:=hT.size;by_cases ah:k<l.length
 . have hd:l.drop k=l[k] :: l.drop (k+1):=X5 ah
   have fx:l.take (k+1)=l.take k++[l[k]]:=Xf ah;have gZ:=hm _ (Xc ah);rw [hd,Z6g] at bt;refine QO ?_;refine Z0 Z4 rfl ?_;rintro _ w3 ⟨b5,rfl,oH,e5,hU⟩;refine SA (us:=Z2.enc l[k]) e5 ?_;rintro _ w4 ⟨dX,e5⟩;replace hU:=hU.ow dX;replace dN:=dN.up hU;have dG:=hT.trans hU.mn;have l5:=e5.lt;clear dX hU;refine QO ?_;refine Z9 rfl (Zib l[k]) rfl ?_;refine Z0 (Z3 rfl (Zic l[k])) rfl ?_;rintro vs w5 hN;have cC:SlV [] w5 vs [(⟨l[k]⟩:Vr0)]:=hN.slv (by simp) rfl (by simp) (by simp [maxLen]);have hU:=Zh.stp hN;clear hN;replace dN:=dN.up hU;replace e5:=e5.up hU;replace dG:=dG.trans hU.mn;clear hU;refine CP (Stp.refl [] w5) (Z9Q vs l[k] _ gZ cC) λw6 hU _=>?_;replace dN:=dN.up hU;replace e5:=e5.up hU;replace dG:=dG.trans hU.mn;clear hU;unfold Z9P;have bW:∀ W,Stp [r] w1 W->Stp [] w W:=λW h=>hS.ow h;by_cases hv:VOk l[k]
   rotate_left
   rw [if_neg hv];rw [if_pos hv] at bt;refine RT ?_;exact ⟨by rw [bt],bW _ dG⟩;rw [if_pos hv];rw [if_neg (by simpa using hv)] at bt;refine QO ?_;refine Z7 (Z1b (a:=l[k].entry) rfl rfl dN) rfl ?_;rw [ZeU];by_cases aX:l[k].entry∈(l.take k).map Fct.entry;rw [if_pos aX] at bt;rw [decide_eq_true aX];refine RT ?_;exact ⟨by rw [bt],bW _ dG⟩;rw [if_neg aX] at bt;rw [decide_eq_false aX];refine QO ?_;refine Z5 (Z1a (a:=l[k].entry) rfl rfl rfl dN (λp hp=>by
    obtain ⟨x,hx,rfl⟩:=XE.1 hp;exact λh=>aX (XE.2 ⟨x,hx,h⟩))) ?_
   rintro _ w7 ⟨lS,hU⟩;refine QO ?_;exact QL (k+1) ⟨ah,by rw [fx,XL];exact lS,by rw [bt,fx,XL];rfl,dG.trans hU⟩ (by omega)
 obtain rfl:k=l.length:=by omega
 rw [Yas] at bt;refine RT ?_;exact ⟨by rw [bt];rfl,hS.ow hT⟩
def Z3A (n:Nat) (r:Rtn):Prop:=(0<=r.crr/\r.crr<n)/\((r.kind=1/\(0<=r.lo/\r.lo<=3652058)/\(0<=r.hi/\r.hi<=3652058)/\r.lo<=r.hi)\/(r.kind=2/\r.lo=0/\(0<=r.hi/\r.hi<=3652058))\/(r.kind=3/\r.lo=0/\r.hi=0))
instance (n:Nat) (r:Rtn):Decidable (Z3A n r):=by unfold Z3A;infer_instance
def Z9R (n:Nat) (l:List Rtn):Int:=if 32<l.length then 2 else if ∀ r∈l,Z3A n r then 0 else 5
theorem Z0m (d:Int) (w):CC 60 #[.I d] w λr w'=>r=.B (decide (0<=d/\d<=3652058))/\Stp [] w w':=by
 refine cW1 9 Tryz.func60 ?_
 (refine QP ?_ ?_<;>intro hg)
 refine RU ?_;exact ⟨by congr 1;rw [decide_eq_decide];exact ⟨λh=>⟨by omega,h⟩,λh=>h.2⟩,Stp.refl _ _⟩;refine RU ?_;exact ⟨by congr 1;symm;exact decide_eq_false (λh=>by omega),Stp.refl _ _⟩
theorem Z3B (v cv:Value) (l:List Rtn) (cs:List Crr) (w) (hs:SlV [] w v l) (cX:SlV [] w cv cs) :
 CC 25 #[v,cv] w λr w'=>r=.I (Z9R cs.length l)/\Stp [] w w':=by
 have ia:=hs.max;have aW:=cX.max;unfold Z9R;refine cW2 78 Tryz.func25 ?_;by_cases mo:32<l.length;rw [if_pos mo];refine RT ?_;exact ⟨rfl,Stp.refl _ _⟩;rw [if_neg mo];refine QO ?_
 refine Zr (σ:=Nat) (λk=>[(0,v),(1,cv),(11,v),(12,.I (l.length:Int)),(13,.I (k:Int))])
  (λk W=>k<=l.length/\(∀ i (h:i<l.length),i<k->Z3A cs.length l[i])/\Stp [] w W) (λk=>l.length - k) 0 ⟨rfl,rfl,rfl,rfl,rfl,trivial⟩ ⟨Xu _,λi _ h=>absurd h (XC _),Stp.refl _ _⟩ ?_
 rintro k w2 ⟨hk,aM,hS⟩;have bu:=hs.up hS;have dt:=cX.up hS;by_cases ah:k<l.length;refine QO ?_;refine Z0 Z4 rfl ?_;rintro _ w3 ⟨b6,rfl,eo,e6,hU⟩;refine SA (us:=Z2.enc l[k]) e6 ?_;rintro _ w4 ⟨dX,e6⟩;replace hU:=hU.ow dX;replace dt:=dt.up hU;replace hS:=hS.trans hU;clear hU dX bu;have cW:Z3A cs.length l[k]->∀ i (h:i<l.length),i<k+1->Z3A cs.length l[i]:=λhv i h pg=>by
  by_cases e:i=k;subst e;exact hv;exact aM i h (by omega)
 have bO:¬ Z3A cs.length l[k]->(if ∀ r∈l,Z3A cs.length r then (0:Int) else 5)=5:=λh=>if_neg (λg=>h (g _ (Xc ah)));generalize l[k]=y at *;clear aM;by_cases hv:Z3A cs.length y;replace cW:=cW hv;clear bO;unfold Z3A at hv;obtain ⟨⟨g1,g2⟩,⟨k1,g3,g4,g5⟩|⟨k1,g3,g4⟩|⟨k1,g3,g4⟩⟩:=hv;refine QO ?_;refine CP hS (Z0m _ _) λw5 hT hS=>?_;replace e6:=e6.up hT;rw [decide_eq_true g3];refine QO ?_;refine CP hS (Z0m _ _) λw6 hT hS=>?_;replace e6:=e6.up hT;rw [decide_eq_true g4];refine QO ?_;exact QL (k+1) ⟨ah,cW,hS⟩ (Xx ah (XD k));refine QO ?_;refine CP hS (Z0m _ _) λw5 hT hS=>?_;replace e6:=e6.up hT;rw [decide_eq_true g4];refine QO ?_;exact QL (k+1) ⟨ah,cW,hS⟩ (Xx ah (XD k));refine QO ?_;exact QL (k+1) ⟨ah,cW,hS⟩ (Xx ah (XD k))
 . replace bO:=bO hv
   clear cW;rw [bO];unfold Z3A at hv;repeat'(first|refine W1 ?_|omega|refine VG ?_ ?_<;>intro hg|refine VC ?_ ?_<;>intro hc)
   all_goals try
    refine CP hS (Z0m _ _) λw5 hT hS=>?_;replace e6:=e6.up hT;repeat'(first|refine W1 ?_|omega|refine VG ?_ ?_<;>intro hg|refine VC ?_ ?_<;>intro hc)
   all_goals try
    refine CP hS (Z0m _ _) λw6 hT hS=>?_;replace e6:=e6.up hT;repeat'(first|refine W1 ?_|omega|refine VG ?_ ?_<;>intro hg|refine VC ?_ ?_<;>intro hc)
   all_goals
    refine RU ?_;exact ⟨rfl,hS⟩
 obtain rfl:k=l.length:=by omega
 have hf:(if ∀ r∈l,Z3A cs.length r then (0:Int) else 5)=0:=if_pos (λr hr=>by
  obtain ⟨i,hi,rfl⟩:=Xq hr;exact aM i hi hi)
 rw [hf];refine RT ?_;exact ⟨rfl,hS⟩
def Z9S (n:Nat) (a:Atp):Prop:=(0<=a.entry/\a.entry<65536)/\(0<=a.party/\a.party<64)/\(0<=a.crr/\a.crr<n)/\(0<=a.sent/\a.sent<=3652058)
instance (n:Nat) (a:Atp):Decidable (Z9S n a):=by unfold Z9S;infer_instance
def Z4t (n:Nat) (a:Atp):Int:=if Z9S n a then Z9R n a.rets else 5
def Z7e (n:Nat):List Atp->Int
 | []=>0
 | a :: l=>if Z4t n a≠0 then Z4t n a else Z7e n l
theorem Z3C (rv cv:Value) (a:Atp) (cs:List Crr) (w) (hs:SlV [] w rv a.rets) (cX:SlV [] w cv cs) :
 CC 22 #[.agg (atC a rv).toArray,cv] w λr w'=>r=.I (Z4t cs.length a)/\Stp [] w w':=by
 have aW:=cX.max;unfold Z4t;refine cW2 36 Tryz.func22 ?_;refine W ?_;refine BX (Stp.refl [] w) λb1 w1 h1 e1 _ hS=>?_;replace e1:Blk w1 b1 60 (atC a rv):=e1;have dt:=cX.up hS;have bu:=hs.up hS;by_cases hv:Z9S cs.length a;rw [if_pos hv];unfold Z9S at hv;obtain ⟨g1,g2,g3,g4⟩:=hv;refine QO ?_;refine CP hS (Z3B rv cv a.rets cs _ bu dt) λw5 hT hS=>?_;refine RT ?_;exact ⟨rfl,hS⟩
 . rw [if_neg hv]
   unfold Z9S at hv;repeat'(first|refine W1 ?_|omega|refine VG ?_ ?_<;>intro hg|refine VC ?_ ?_<;>intro hc)
   all_goals
    refine RU ?_;exact ⟨rfl,hS⟩
theorem Z7f (v cv:Value) (l:List Atp) (cs:List Crr) (w) (hl:l.length<=65536) (hs:SlV [] w v l) (cX:SlV [] w cv cs) :
 CC 30 #[v,cv] w λr w'=>r=.I (Z7e cs.length l)/\Stp [] w w':=by
 have ia:=hs.max;refine cW2 24 Tryz.func30 ?_;refine QO ?_
 refine Zr (σ:=Nat) (λk=>[(0,v),(1,cv),(11,v),(12,.I (l.length:Int)),(13,.I (k:Int))])
  (λk W=>k<=l.length/\Z7e cs.length l=Z7e cs.length (l.drop k)/\Stp [] w W) (λk=>l.length - k) 0 ⟨rfl,rfl,rfl,rfl,rfl,trivial⟩ ⟨Xu _,rfl,Stp.refl _ _⟩ ?_
 rintro k w2 ⟨hk,bt,hS⟩;have bu:=hs.up hS;have dt:=cX.up hS;by_cases ah:k<l.length;have hd:l.drop k=l[k] :: l.drop (k+1):=X5 ah;rw [hd] at bt;have mr:Z7e cs.length (l[k] :: l.drop (k+1))=if Z4t cs.length l[k]≠0 then Z4t cs.length l[k] else Z7e cs.length (l.drop (k+1)):=rfl
 rw [mr] at bt;obtain ⟨cs0,⟨rv,rfl,cK⟩,ak⟩:=bu.cell ah;refine QO ?_;refine Z7 (Z25 rfl rfl bu ah ⟨rv,rfl,cK⟩ ak) rfl ?_;refine Z0 Z4 rfl ?_;rintro _ w3 ⟨b6,rfl,eo,e6,hU⟩;refine SB (us:=atC l[k] rv) (Zi9 cK.one) e6 ?_;rintro _ w4 ⟨dX,e6⟩;replace hU:=hU.ow dX;replace dt:=dt.up hU;replace cK:=cK.up hU;replace hS:=hS.trans hU;clear hU dX ak bu;refine QO ?_;refine CP hS (Z3C rv cv l[k] cs _ cK dt) λw5 hT hS=>?_;by_cases he:Z4t cs.length l[k]=0;rw [he] at bt ⊢;refine QO ?_;exact QL (k+1) ⟨ah,bt,hS⟩ (Xx ah (XD k));rw [if_pos he] at bt;generalize Z4t cs.length l[k]=z at *;refine RT ?_;exact ⟨by rw [bt],hS⟩;obtain rfl:k=l.length:=by omega
 rw [Yas] at bt;refine RT ?_;exact ⟨by rw [bt];rfl,hS⟩
theorem Zid (v:Value) (l:List Int) (w) (hs:SlV [] w v l):CC 29 #[v] w λr w'=>r=.I (orL l)/\Stp [] w w':=by
 have bg:=hs.max;refine cW1 18 Tryz.func29 ?_;refine W ?_;refine LP (σ:=Nat) (λk=>[(3,.I 0),(6,v),(7,.I l.length),(8,.I k)]) (λk w'=>k<=l.length/\Stp [] w w'/\∀ j (h:j<l.length),j<k->l[j]=0) (λk=>l.length - k) 0 ⟨Xu _,Stp.refl _ _,λj _ h=>absurd h (XC _)⟩ ?_;have cd:=hs;clear hs;rintro k w1 ⟨hk,hS,hz⟩;have hs:=cd.up hS;by_cases ah:k<l.length;by_cases h0:l[k]=0;refine QO ?_;exact QL (k+1) ⟨by omega,hS,λj h hj=>by
  by_cases e:j=k;subst e;exact h0;exact hz j h (by omega)⟩ (by omega)
 refine RT ?_;exact ⟨by rw [ZdV ah hz h0],hS⟩;refine RT ?_;exact ⟨by rw [Z82 (λj h=>hz j h (by omega))],hS⟩
theorem Z5I (w):CC 65 #[.N] w λr w'=>r=.I 0/\Stp [] w w':=by
 refine cW1 55 Tryz.func65 ?_;refine QO ?_;refine CL (Z64 _) ?_;rintro _ w1 ⟨rfl,hS⟩;repeat'(first|refine W1 ?_|omega|refine VG ?_ ?_<;>intro hg|refine VC ?_ ?_<;>intro hc)
 refine Z0 Z4 rfl ?_;rintro _ w2 ⟨b,rfl,hb,e6,hT⟩;refine SB (us:=Z2Z) (by intro u hu;simp [Z2Z] at hu;rcases hu with rfl|rfl|rfl|rfl|rfl|rfl|rfl|rfl<;>rfl) e6 ?_;rintro _ w3 ⟨hU,e6⟩;replace hS:=(hS.trans hT).own hU (λc hc=>.inr (by have:=hS.size;simp at hc;omega));refine QO ?_;refine LP (σ:=Nat) (λk=>[(11,.I 0),(12,.I (k:Int))]) (λk w'=>k=0/\w'=w3) (λk=>k) 0 ⟨rfl,rfl⟩ ?_;rintro k w4 ⟨rfl,rfl⟩;refine RT ?_;exact ⟨rfl,hS⟩
theorem Z5J (w):CC 67 #[.agg #[.I 0,.N]] w λr w'=>r=.I 0/\Stp [] w w':=by
 have fW:∀ W:World,CC 108 #[.I 0] W λr w'=>r=.B true/\Stp [] W w':=λW=>by
  refine cW1 9 Tryz.func108 ?_;refine RT ?_;exact ⟨rfl,Stp.refl _ _⟩
 refine cW1 51 Tryz.func67 ?_;refine W ?_;refine BX (Stp.refl [] w) λb1 w1 h1 e1 _ hS=>?_;replace e1:Blk w1 b1 46 [.I 0,.N]:=e1;refine QO ?_;refine CP hS (fW _) λw2 hT hS=>?_;replace e1:=e1.up hT;refine QO ?_;refine LP (σ:=Nat) (λk=>[(17,.I 0),(18,.I (k:Int))]) (λk w'=>k=0/\w'=w2) (λk=>k) 0 ⟨rfl,rfl⟩ ?_;rintro k w4 ⟨rfl,rfl⟩;refine RT ?_;exact ⟨rfl,hS⟩
theorem ZeV (v:Value) (l:List Bool) (x:Bool) (w) (hs:SlV [] w v l):CC 105 #[v,.B x] w λr w'=>(∃ z:Int,r=.I z/\(0<=z↔x∈l))/\Stp [] w w':=by
 have bg:=hs.max;refine cW2 19 Tryz.func105 ?_;refine W ?_;refine LP (σ:=Nat) (λk=>[(0,v),(1,.B x),(6,v),(7,.I l.length),(8,.I k)]) (λk w'=>k<=l.length/\Stp [] w w'/\∀ j (h:j<l.length),j<k->l[j]≠x) (λk=>l.length - k) 0 ⟨Xu _,Stp.refl _ _,λj _ h=>absurd h (XC _)⟩ ?_;rintro k w2 ⟨hk,hT,hz⟩;have bu:=hs.up hT;by_cases ah:k<l.length
 (refine QP ?_ ?_<;>intro hc)
 refine RU ?_;exact ⟨⟨_,rfl,⟨λ_=>hc ▸ Xc ah,λ_=>Int.natCast_nonneg _⟩⟩,hT⟩;exact QL (k+1) ⟨ah,hT,λj h hj=>by
  by_cases e:j=k;subst e;exact λh=>hc h.symm;exact hz j h (by omega)⟩ (by omega)
 have bO:¬ x∈l:=λh=>by
  obtain ⟨j,hj,e⟩:=Xq h;exact hz j hj (by omega) e
 refine RT ?_;exact ⟨⟨_,rfl,⟨λh=>absurd h (by decide),λh=>absurd h bO⟩⟩,hT⟩
theorem ZeW (v:Value) (l:List Bool) (x:Bool) (w) (hs:SlV [] w v l):CC 64 #[v,.B x] w λr w'=>r=.B (decide (x∈l))/\Stp [] w w':=by
 refine cW2 9 Tryz.func64 ?_;refine W ?_;refine CG (ZeV v l x _ hs) ?_;rintro _ w2 ⟨⟨z,rfl,hz⟩,hT⟩;refine RT ?_;exact ⟨congrArg Value.bool (decide_eq_decide.2 hz),hT⟩
def ZiE:List Value:=[.B false,.B false,.B false,.B false,.B false,.B false,.B false,.N,.N,.I 0,.N,.I 0]
theorem Z5K (w):CC 32 #[.agg ZiE.toArray] w λr w'=>r=.I 0/\Stp [] w w':=by
 refine cW1 66 Tryz.func32 ?_;refine W ?_;refine BX (Stp.refl [] w) λb1 w1 h1 e1 _ hS=>?_;replace e1:Blk w1 b1 48 ZiE:=e1;have kW:SlV [] w1 (.slice (some ⟨b1,0,none⟩) 7 7) [false,false,false,false,false,false,false]:=by
  refine ⟨some ⟨b1,0,none⟩,7,rfl,Xm _,by simp [maxLen],λh=>by simp at h,λi hi=>⟨b1,0,[.B false],rfl,e1.lt,by simp,?_,λj u hu=>?_⟩⟩;have:i=0\/i=1\/i=2\/i=3\/i=4\/i=5\/i=6:=by simp at hi;omega
  rcases this with rfl|rfl|rfl|rfl|rfl|rfl|rfl<;>rfl
  have hj:j=0:=by
   have:=(Xn.1 hu).1;simp at this;exact this
  subst hj;refine e1.cell ?_;have:i=0\/i=1\/i=2\/i=3\/i=4\/i=5\/i=6:=by simp at hi;omega
  rcases this with rfl|rfl|rfl|rfl|rfl|rfl|rfl<;>exact hu
 refine W ?_;refine Z7 (Z3G (b:=b1) rfl) rfl ?_;refine W ?_;refine CP hS (ZeW _ _ false _ kW) λw2 hT hS=>?_;replace e1:=e1.up hT;clear kW hT;rw [decide_eq_true (by simp)];refine QO ?_;refine CP hS (Z5I _) λw3 hT hS=>?_;replace e1:=e1.up hT;refine QO ?_;refine LP (σ:=Nat) (λk=>[(1,pQ b1),(23,.I 0),(24,.I (k:Int))]) (λk w'=>k=0/\w'=w3) (λk=>k) 0 ⟨rfl,rfl⟩ ?_;rintro k w4 ⟨rfl,rfl⟩;refine QO ?_;refine Z7 (Zy rfl rfl e1 (us:=[.I 0,.N]) rfl rfl) rfl ?_;refine W ?_;refine CP hS (Z5J _) λw5 hT hS=>?_;replace e1:=e1.up hT;refine RT ?_;exact ⟨rfl,hS⟩
structure ZiF (c:Cas):Prop where
 fil:Z8w [] c.fcts=0
 fm:∀ f∈c.fcts,(f.kind.length:Int)<=maxLen
 cl:c.crrs.length<=16
 co:∀ x∈c.crrs,Zpz x
 rl:c.ruls.length<=1024
 ro:∀ q∈c.ruls,chkC q=0
 al:c.atts.length<=65536
 ao:Z7e c.crrs.length c.atts=0
 so:ZlR c.stys=0
 court:0<=c.court/\c.court<=15
 today:0<=c.today/\c.today<=3652058
theorem Zie (a b d:Int) (w):(Instr.buildSlice 160 3 #[(0,.I a),(1,.I b),(2,.I d)]).run Tryz.prog w=.ok (.slice (some ⟨w.heap.size,0,none⟩) 3 3) (w.alloc (.cells #[.I a,.I b,.I d] 55)):=by kernel_rfl
theorem Z7g (c:Cas) (R:Z5B) (w) (m:Int) (hF:SlV [] w Z1w Za) (cE:w.cell? ⟨2,0,none⟩=some (.I m)) (hv:Z8m w c R) (ho:ZiF c)
 (cy:∀ Y,Stp [] w Y->CC 32 #[.agg (Jq c.cal R.hv R.lv R.zo R.zs R.hr).toArray] Y λr w'=>r=.I 0/\Stp [] Y w') :
 CC 11 #[.agg (Z1j c R).toArray] w λr w'=>r=.I 0/\Stp [] w w':=by
 have eU:=ho.cl;have dO:=ho.rl;have nr:=ho.court;have sm:=ho.today;have sn:=hv.cc.max;have nu:=hv.rr.max;refine cW1 78 Tryz.func11 ?_;refine W ?_;refine BX (Stp.refl [] w) λb1 w1 h1 e1 _ hS=>?_;replace e1:Blk w1 b1 50 (Z1j c R):=e1;refine QO ?_;refine CP hS (Z5p R.fv c.fcts _ ho.fm (hv.ff.up hS)) λw2 hT hS=>?_;replace e1:=e1.up hT;rw [ho.fil];have ii:=(hv.up hS).cc;refine QO ?_;refine LP (σ:=Nat) (λk=>[(1,pQ b1),(20,R.cv),(21,.I (c.crrs.length:Int)),(22,.I (k:Int))]) (λk w'=>k<=c.crrs.length/\Stp [] w2 w') (λk=>c.crrs.length - k) 0 ⟨Xu _,Stp.refl _ _⟩ ?_;rintro k y1 ⟨hk,bM⟩;have e1':=e1.up bM;have ae:=hS.trans bM;have ny:=ii.up bM;by_cases ah:k<c.crrs.length;have la:=ho.co _ (Xc ah);have x1:=la.ext;have x2:=la.tol;refine QO ?_;refine Z0 Z4 rfl ?_;rintro _ w3 ⟨b6,rfl,eo,e6,hU⟩;refine SA (us:=Z2.enc c.crrs[k]) e6 ?_;rintro _ w4 ⟨dX,e6⟩;replace hU:=hU.ow dX;replace bM:=bM.trans hU;generalize c.crrs[k]=x at *;refine QO ?_;refine CP bM (Z0k _ _ _ _) λw5 hT bM=>?_;replace e6:=e6.up hT;rw [decide_eq_true x1];refine QO ?_;refine CP bM (Z0k _ _ _ _) λw6 hT bM=>?_;rw [decide_eq_true x2];refine QO ?_;exact QL (k+1) ⟨ah,bM⟩ (Xx ah (XD k));replace e1:=e1';replace hS:=ae;clear e1' ae ny ii bM hT;have pj:=(hv.up hS).rr;refine QO ?_;refine LP (σ:=Nat) (λk=>[(1,pQ b1),(42,R.rv),(43,.I (c.ruls.length:Int)),(44,.I (k:Int))]) (λk w'=>k<=c.ruls.length/\Stp [] y1 w') (λk=>c.ruls.length - k) 0 ⟨Xu _,Stp.refl _ _⟩ ?_;rintro k y2 ⟨hk,bM⟩;have e1':=e1.up bM;have ae:=hS.trans bM;have iE:=pj.up bM;by_cases ah:k<c.ruls.length;have la:=ho.ro _ (Xc ah);obtain ⟨cs0,⟨kc,kd,rfl,nz,ep⟩,ak⟩:=iE.cell ah;refine QO ?_;refine Z7 (Z25 rfl rfl iE ah ⟨kc,kd,rfl,nz,ep⟩ ak) rfl ?_;refine Z0 Z4 rfl ?_;rintro _ w3 ⟨b6,rfl,eo,e6,hU⟩;refine SB (us:=crC c.ruls[k] kc kd) (Z4C nz ep) e6 ?_;rintro _ w4 ⟨dX,e6⟩;replace hU:=hU.ow dX;replace bM:=bM.trans hU;have bW:=hS.trans bM;refine QO ?_;refine CP bM (Z9O _ c.ruls[k] _ m (hF.up bW) (bW.cell (by simp) cE) ⟨kc,kd,rfl,nz.up hU,ep.up hU⟩) λw5 hT bM=>?_
 rw [la];refine QO ?_;exact QL (k+1) ⟨ah,bM⟩ (Xx ah (XD k));replace e1:=e1';replace hS:=ae;clear e1' ae iE pj bM;have fX:=hv.up hS;refine QO ?_;refine ZDr 14 [] [] [(0,0),(1,1),(2,0),(3,1),(5,0),(6,1),(8,0),(9,1),(4,2),(7,2),(10,2),(11,2),(12,2),(13,0)] (λw1 ae=>?_);replace e1:=e1.up ae;replace hS:=hS.trans ae;replace fX:=fX.up ae;refine QD ?_;refine WD_read rfl trivial (λw' bp=>Zy rfl rfl (e1.up bp) (us:=Jq c.cal R.hv R.lv R.zo R.zs R.hr) rfl rfl) rfl ?_;repeat'(first|refine D1 ?_|omega|refine Z8 rfl rfl rfl rfl (λhg=>?_) (λhg=>?_)|(refine Z6 rfl rfl rfl rfl (λhg=>?_) (λhg=>?_)<;>refine D1 ?_)|fail)
 refine DP hS (Z7f R.av R.cv c.atts c.crrs _ ho.al fX.aa fX.cc) λw5 hT hS=>?_;replace e1:=e1.up hT;replace fX:=fX.up hT;rw [ho.ao];repeat'(first|refine D1 ?_|omega|refine Z8 rfl rfl rfl rfl (λhg=>?_) (λhg=>?_)|(refine Z6 rfl rfl rfl rfl (λhg=>?_) (λhg=>?_)<;>refine D1 ?_)|fail)
 refine DP hS (Z6V R.sv c.stys _ fX.ss) λw6 hT hS=>?_;replace e1:=e1.up hT;replace fX:=fX.up hT;rw [ho.so];repeat'(first|refine D1 ?_|omega|refine Z8 rfl rfl rfl rfl (λhg=>?_) (λhg=>?_)|(refine Z6 rfl rfl rfl rfl (λhg=>?_) (λhg=>?_)<;>refine D1 ?_)|fail)
 refine DP hS (cy _ hS) λw7 hT hS=>?_;replace e1:=e1.up hT;repeat'(first|refine D1 ?_|omega|refine Z8 rfl rfl rfl rfl (λhg=>?_) (λhg=>?_)|(refine Z6 rfl rfl rfl rfl (λhg=>?_) (λhg=>?_)<;>refine D1 ?_)|fail)
 refine Zp rfl trivial (Z3 rfl (Zie 0 0 0)) (λ_ _ h=>Zh.stp h) rfl ?_;rintro vs w8 hN;have cC:SlV [] w8 vs ([0,0,0]:List Int):=hN.slv (by simp) rfl rfl (by simp [maxLen]);have hU:=Zh.stp hN;clear hN;replace e1:=e1.up hU;replace hS:=hS.trans hU;repeat'(first|refine D1 ?_|omega|refine Z8 rfl rfl rfl rfl (λhg=>?_) (λhg=>?_)|(refine Z6 rfl rfl rfl rfl (λhg=>?_) (λhg=>?_)<;>refine D1 ?_)|fail)
 refine DP hS (Zid vs [0,0,0] _ cC) λw9 hT hS=>?_;replace e1:=e1.up hT;rw [show orL [0,0,0]=0 from rfl];refine QD ?_;refine QO ?_;refine CP hS (Z0k _ _ _ _) λw10 hT hS=>?_;replace e1:=e1.up hT;rw [decide_eq_true nr];refine QO ?_;refine CP hS (Z0k _ _ _ _) λw11 hT hS=>?_;rw [decide_eq_true sm];refine RT ?_;exact ⟨rfl,hS⟩
def Z9T (r:Rpt):Rtn:=⟨r.carrier,r.kind,r.frm,r.til⟩
def J0 (rs:List Rpt) (a:Int):List Rtn:=(rs.filter (λr=>decide (r.attempt=a))).map Z9T
def JI (ws:List Wy) (p:Pap):Int:=p.sent+(JA ws p.attempt).days
def Z5q (ws:List Wy) (p:Pap):Rtn:=⟨p.carrier,1,JI ws p,JI ws p⟩
theorem Z43 (ws:List Wy) (p:Pap):∀ r∈J9 p (JA ws p.attempt),r.attempt=p.attempt/\Z9T r=Z5q ws p:=by
 intro r h;unfold J9 at h;split at h;simp at h;split at h<;>simp only [Xd,Xp,or_false] at h;rcases h with rfl|rfl<;>exact ⟨rfl,rfl⟩
 subst h;exact ⟨rfl,rfl⟩
theorem Zif (ws:List Wy):∀ (ps:List Pap),Z2d ps->∀ p∈ps,(Z0l ws ps).filter (λr=>decide (r.attempt=p.attempt))=J9 p (JA ws p.attempt):=by
 intro ps
 induction ps with
 | nil=>intro _ p h;cases h
 | cons q l ih=>
   intro hd p hp;have kh:=X6.1 hd;have e:Z0l ws (q :: l)=J9 q (JA ws q.attempt)++Z0l ws l:=by simp [Z0l]
   rw [e,XT];rcases Xd.1 hp with rfl|hp
   have h1:(J9 p (JA ws p.attempt)).filter (λr=>decide (r.attempt=p.attempt))=J9 p (JA ws p.attempt):=YaP.2 (λr hr=>decide_eq_true (Z43 ws p r hr).1);have h2:(Z0l ws l).filter (λr=>decide (r.attempt=p.attempt))=[]:=Ybs.2 (λr hr h=>by
    obtain ⟨q,hq,i,rfl⟩:=Z5m hr;exact kh.1 q hq (of_decide_eq_true h).symm)
   rw [h1,h2,XJ];have h1:(J9 q (JA ws q.attempt)).filter (λr=>decide (r.attempt=p.attempt))=[]:=Ybs.2 (λr hr h=>by
    have:=(Z43 ws q r hr).1;exact kh.1 p hp (this.symm.trans (of_decide_eq_true h)))
   rw [h1,XM,ih kh.2 p hp]
theorem Z2y (till:Int) (ws:List Wy) (ps:List Pap) (hd:Z2d ps) (p:Pap) (hp:p∈ps):∃ n,n<=2/\J0 (Zc till ws ps) p.attempt=List.replicate n (Z5q ws p):=by
 have h1:((Zc till ws ps).filter (λr=>decide (r.attempt=p.attempt))).Perm (((Z0l ws ps).filter (λx=>!decide (x.day > till))).filter (λr=>decide (r.attempt=p.attempt))):=(show (Zc till ws ps).Perm _ from Z42 till ws ps []).filter _;have h2:((Z0l ws ps).filter (λx=>!decide (x.day > till))).filter (λr=>decide (r.attempt=p.attempt))=(J9 p (JA ws p.attempt)).filter (λx=>!decide (x.day > till)):=by
  rw [<- Zif ws ps hd p hp,List.filter_filter,List.filter_filter];exact List.filter_congr (λx _=>Bool.and_comm _ _)
 rw [h2] at h1;refine ⟨(J0 (Zc till ws ps) p.attempt).length,?_,List.eq_replicate_iff.2 ⟨rfl,λb hb=>?_⟩⟩;unfold J0;rw [XI,h1.length_eq];exact Xl (XR _ _) (Z5j _ _);obtain ⟨r,hr,rfl⟩:=XE.1 hb;exact (Z43 ws p r (X2.1 (h1.subset hr)).1).2
theorem Zig (x:Rtn) (crrs:List Crr) (h:(crrs.getD x.crr.toNat ⟨0,0⟩).tol=0) (day:Int):∀ n,n<=2->Jz (List.replicate n x) crrs day=if Z28 x day=true then (n:Int) else 0
 | 0,_=>by simp [Jz,Z0q]
 | 1, _ => by
   by_cases hw:Z28 x day=true;simp only [List.replicate,Jz,Z0q,XP,List.foldl_nil,Z3m,if_pos hw,Z2V,XQ,Yaj,List.sum_cons,List.sum_nil,Z4r];rw [h];rfl;simp [Jz,Z0q,Z3m,hw]
 | 2, _ => by
   by_cases hw:Z28 x day=true;simp only [List.replicate,Jz,Z0q,XP,List.foldl_nil,Z3m,if_pos hw,Z2V,if_true,XQ,Yaj,List.sum_cons,List.sum_nil,Z4r];rw [h];rfl;simp [Jz,Z0q,Z3m,hw,List.replicate]
theorem Zih (crrs:List Crr) (sent:Int) (hs:0<=sent/\sent<=3652058):Z1A [] crrs sent=(0,false):=by
 have hd:Z0S [] sent=[sent,3652059]:=by
  refine Z6R (Jp _).1 (by simp;omega) (λz=>?_);unfold Z0S;rw [(Jp _).2];simp
 simp [Z1A,Z6Z,Z3V,hd,Js,Jz,Z0q]
theorem Zii (c d sent:Int) (crrs:List Crr) (h:(crrs.getD c.toNat ⟨0,0⟩).tol=0) (hs:0<=sent) (h1:sent<=d) (h2:d<=3652057) (n:Nat) (hn:0<n/\n<=2):Z1A (List.replicate n ⟨c,1,d,d⟩) crrs sent=(d,true):=by
 have hx:=λday=>Zig ⟨c,1,d,d⟩ crrs h day n hn.2;have hw:∀ day,Z28 ⟨c,1,d,d⟩ day=decide (day<d\/d<day):=λday=>rfl;have hm:∀ z,z∈Z0S (List.replicate n ⟨c,1,d,d⟩) sent↔z=sent\/z=3652059\/(sent<d/\z=d)\/z=d+1:=λz=>by
  unfold Z0S;rw [(Jp _).2];simp only [Xg,Xd,Xp,or_false,Ybd,X2,decide_eq_true_eq,Ya1];constructor;rintro ((rfl|rfl)|⟨r,⟨-,rfl⟩,h3,h4,h5⟩);exact .inl rfl;exact .inr (.inl rfl);rcases h3 with rfl|rfl
  exact .inr (.inr (.inl ⟨h4,rfl⟩));exact .inr (.inr (.inr rfl));rintro (rfl|rfl|⟨h3,rfl⟩|rfl);exact .inl (.inl rfl);exact .inl (.inr rfl);exact .inr ⟨_,⟨by omega,rfl⟩,.inl rfl,h3,by omega⟩;exact .inr ⟨_,⟨by omega,rfl⟩,.inr rfl,by omega,by omega⟩
 have e0:Jz (List.replicate n ⟨c,1,d,d⟩) crrs (-1)=n:=by rw [hx,hw,decide_eq_true (.inl (by omega)),if_pos rfl]
 have ed:Jz (List.replicate n ⟨c,1,d,d⟩) crrs d=0:=by rw [hx,hw,decide_eq_false (by omega),if_neg (by simp)]
 have e1:Jz (List.replicate n ⟨c,1,d,d⟩) crrs (d+1)=n:=by rw [hx,hw,decide_eq_true (.inr (by omega)),if_pos rfl]
 have hp:¬ ((0:Int)=n):=by omega
 have iU:(0:Int)<n:=by omega
 have pm:¬ ((n:Int)<n):=by omega
 have pn:¬ ((n:Int)<0):=by omega
 by_cases ah:sent<d;have hd:Z0S (List.replicate n ⟨c,1,d,d⟩) sent=[sent,d,d+1,3652059]:=by
  refine Z6R (Jp _).1 (by simp;omega) (λz=>?_);rw [hm z];simp only [Xd,Xp,or_false];constructor<;>rintro (h|h|h|h)<;>omega
 have es:Jz (List.replicate n ⟨c,1,d,d⟩) crrs sent=n:=by rw [hx,hw,decide_eq_true (.inl ah),if_pos rfl]
 simp [Z1A,Z6Z,Z3V,hd,Js,e0,es,ed,e1,hn.1,pm,pn];obtain rfl:d=sent:=by omega
 have hd:Z0S (List.replicate n ⟨c,1,d,d⟩) d=[d,d+1,3652059]:=by
  refine Z6R (Jp _).1 (by simp;omega) (λz=>?_);rw [hm z];simp only [Xd,Xp,or_false];constructor;rintro (h|h|h|h)<;>omega;rintro (h|h|h)<;>omega
 simp [Z1A,Z6Z,Z3V,hd,Js,e0,ed,e1,hn.1,pm,pn]
def Zmh:Cal:=⟨[false,false,false,false,false,false,false],[],[]⟩
def Z03 (i:Nat) (p:Pap):Fct:=⟨i,[99,108,97,105,109],p.sent,0,p.party,0⟩
def JQ (i:Nat) (p:Pap) (l:List Rtn):Atp:=⟨i,p.party,p.carrier,p.sent,l⟩
def Z0T (ps:List Pap) (n:Nat):List Fct:=(List.range n).map (λi=>Z03 i (ps.getD i default))
def Z0r (rs:List Rpt) (ps:List Pap) (n:Nat):List Atp:=(List.range n).map (λi=>JQ i (ps.getD i default) (J0 rs (ps.getD i default).attempt))
def Z0s (e:Int):List Crr:=[⟨e,0⟩,⟨1,0⟩,⟨0,0⟩]
def Jm (e:Int) (rs:List Rpt) (ps:List Pap) (n:Nat):Cas:=⟨Z0T ps n,[Z40],Z0r rs ps n,Z0s e,[],Zmh,0,739686⟩
theorem Z3D (ps:List Pap) (n:Nat):(Z0T ps n).length=n:=by simp [Z0T]
theorem JN (rs:List Rpt) (ps:List Pap) (n:Nat):(Z0r rs ps n).length=n:=by simp [Z0r]
theorem ZbL (ps:List Pap) (n:Nat) (h:n<ps.length):Z0T ps (n+1)=Z0T ps n++[Z03 n ps[n]]:=by
 simp [Z0T,Ya2,h]
theorem ZbM (rs:List Rpt) (ps:List Pap) (n:Nat) (h:n<ps.length):Z0r rs ps (n+1)=Z0r rs ps n++[JQ n ps[n] (J0 rs ps[n].attempt)]:=by
 simp [Z0r,Ya2,h]
theorem Zij (ps:List Pap) (n i:Nat) (h:i<ps.length) (hn:i<(Z0T ps n).length):(Z0T ps n)[i]=Z03 i ps[i]:=by
 simp [Z0T,h]
theorem Zqw (e c:Int):((Z0s e).getD c.toNat ⟨0,0⟩).tol=0:=by
 unfold Z0s
 match c.toNat with
 | 0=>rfl
 | 1=>rfl
 | 2=>rfl
 | n+3=>simp
structure Z1m (ws:List Wy) (ps:List Pap):Prop where
 len:ps.length<=8
 pa:∀ p∈ps,0<=p.party/\p.party<4/\0<=p.carrier/\p.carrier<3/\739616<=p.sent/\p.sent<739656
 da:∀ p∈ps,0<=(JA ws p.attempt).days/\(JA ws p.attempt).days<9
theorem Z9U (a b:List Int):Z1m (Z19 (ZI a) b) (ZI a) where
 len:=Z1F a
 pa:=λp hp=>by have:=Z3y hp;omega
 da:=λp hp=>by
  have:=Z6f (ws:=Z19 (ZI a) b) (lo:=0) (hi:=8) (λy hy=>by have:=Z5n hy;omega) (by omega) p.attempt;omega
section
variable {e till:Int} {ws:List Wy} {ps:List Pap}
theorem Z1m.rt (h:Z1m ws ps) {p:Pap} (hp:p∈ps):Z3A 3 (Z5q ws p):=by
 have h1:=h.pa p hp;have h2:=h.da p hp;unfold Z3A Z5q JI;dsimp only;omega
theorem Z1m.ret (h:Z1m ws ps) {p:Pap} (hp:p∈ps) (n:Nat) (hn:n<=2):Z9R 3 (List.replicate n (Z5q ws p))=0:=by
 unfold Z9R;rw [if_neg (by simp;omega),if_pos (λr hr=>by rw [(Ya1.1 hr).2];exact h.rt hp)]
theorem Z1m.att (h:Z1m ws ps) {p:Pap} (hp:p∈ps) {i:Nat} (hi:i<8) (n:Nat) (hn:n<=2):Z4t 3 (JQ i p (List.replicate n (Z5q ws p)))=0:=by
 have h1:=h.pa p hp;unfold Z4t;rw [if_pos (by unfold Z9S JQ;dsimp only;omega)];exact h.ret hp n hn
theorem Z2e {rs:List Rpt} {n:Nat} {a:Atp} (hn:n<=ps.length) (ha:a∈Z0r rs ps n):∃ (i:Nat) (h:i<ps.length),i<n/\a=JQ i ps[i] (J0 rs ps[i].attempt):=by
 obtain ⟨i,hi,rfl⟩:=XE.1 ha;rw [Ybq] at hi;exact ⟨i,by omega,hi,by simp [show i<ps.length by omega]⟩
theorem ZeX {n:Nat} {a:Fct} (hn:n<=ps.length) (ha:a∈Z0T ps n):∃ (i:Nat) (h:i<ps.length),i<n/\a=Z03 i ps[i]:=by
 obtain ⟨i,hi,rfl⟩:=XE.1 ha;rw [Ybq] at hi;exact ⟨i,by omega,hi,by simp [show i<ps.length by omega]⟩
theorem Z8x {n:Nat}:∀ {l:List Atp},(∀ a∈l,Z4t n a=0)->Z7e n l=0
 | [],_=>rfl
 | a :: l, h => by
   unfold Z7e;rw [if_neg (by rw [h a YaB];simp)];exact Z8x (λb hb=>h b (X0 _ hb))
theorem Z6h (h:Z1m ws ps):∀ (k n:Nat),n+k<=ps.length->∀ kn:List Int,(∀ z∈kn,z<n)->Z8w kn ((List.range' n k).map (λi=>Z03 i (ps.getD i default)))=0
 | 0,_,_,_,_=>rfl
 | k + 1, n, hn, kn, hk => by
   have hl:n<ps.length:=by omega
   have h1:=h.pa _ (Xc hl);have h0:=h.len;rw [List.range'_succ,XQ,Z6g,YaC,XN hl,Ybw,if_neg,if_neg];exact Z6h h k (n+1) (by omega) _ (λz hz=>by
    rcases Xg.1 hz with hz|hz
    have:=hk z hz;omega;have:=Xw.1 hz;simp only [Z03] at this;omega)
   intro hc;have:=hk _ hc;simp [Z03] at this;refine not_not_intro ⟨?_,show Z5o [99,108,97,105,109]=true by decide,?_⟩<;>simp only [Z03]<;>omega
theorem ZpB (h:Z1m ws ps) (hd:Z2d ps) (he:0<=e/\e<30):ZiF (Jm e (Zc till ws ps) ps ps.length) where
 fil:=by
  have:=Z6h h ps.length 0 (by omega) [] (by simp)
  rwa [<- List.range_eq_range'] at this
 fm:=λf hf=>by
  obtain ⟨i,hi,-,rfl⟩:=ZeX (Xm _) hf;show ((5:Nat):Int)<=maxLen;decide
 cl:=show (3:Nat)<=16 by decide
 co:=λx hx=>by
  simp only [Jm,Z0s,Xd,Xp,or_false] at hx;rcases hx with rfl|rfl|rfl<;>refine ⟨?_,?_⟩<;>dsimp only<;>omega
 rl:=show (1:Nat)<=1024 by decide
 ro:=λq hq=>by
  obtain rfl:=Xw.1 hq;decide +kernel
 al:=by have:=h.len;show (Z0r _ _ _).length<=_;rw [JN];omega
 ao:=Z8x (λa ha=>by
  obtain ⟨i,hi,-,rfl⟩:=Z2e (Xm _) ha;obtain ⟨n,hn,hr⟩:=Z2y till ws ps hd _ (Xc hi);have:=h.len;rw [hr];exact h.att (Xc hi) (by omega) n hn)
 so:=rfl
 court:=show (0:Int)<=0/\(0:Int)<=15 by decide
 today:=show (0:Int)<=739686/\(739686:Int)<=3652058 by decide
theorem Zqx (h:Z1m ws ps) (hd:Z2d ps) (he:0<=e/\e<30):Zex (Jm e (Zc till ws ps) ps ps.length) where
 fl:=by have:=h.len;show (Z0T _ _).length<=_;rw [Z3D];omega
 rl:=show (1:Nat)<=1024 by decide
 cnd:=λq hq=>by
  obtain rfl:=Xw.1 hq;decide +kernel
 due:=λq hq=>by
  obtain rfl:=Xw.1 hq;decide +kernel
 att:={
  len:=by have:=h.len;show (Z0r _ _ _).length<=_;rw [JN];omega
  ret:=λa ha=>by
   obtain ⟨i,hi,-,rfl⟩:=Z2e (Xm _) ha;obtain ⟨n,hn,hr⟩:=Z2y till ws ps hd _ (Xc hi);have h1:=h.pa _ (Xc hi);have h2:=h.da _ (Xc hi);refine ⟨?_,?_,?_,?_⟩;show (J0 _ _).length<=_;rw [hr];simp;omega;intro r aV;replace aV:r∈J0 _ _:=aV;rw [hr] at aV;rw [(Ya1.1 aV).2];exact ⟨h1.2.2.1,h1.2.2.2.1⟩;intro x hx;simp only [Jm,Z0s,Xd,Xp,or_false] at hx;rcases hx with rfl|rfl|rfl<;>dsimp only<;>omega
   intro r aV;replace aV:r∈J0 _ _:=aV;rw [hr] at aV;rw [(Ya1.1 aV).2];simp only [Z5q,JI];omega
  crr:=λa ha=>by
   obtain ⟨i,hi,-,rfl⟩:=Z2e (Xm _) ha;have h1:=h.pa _ (Xc hi);exact ⟨h1.2.2.1,h1.2.2.2.1⟩
  sent:=λa ha=>by
   obtain ⟨i,hi,-,rfl⟩:=Z2e (Xm _) ha;have h1:=h.pa _ (Xc hi);simp only [JQ];omega }
 ext:=λx hx=>by
  simp only [Jm,Z0s,Xd,Xp,or_false] at hx;rcases hx with rfl|rfl|rfl<;>dsimp only<;>omega
 sty:=by constructor<;>simp [Jm]
 court:=show (0:Int)<=0/\(0:Int)<=15 by decide
 today:=show (0:Int)<=739686/\(739686:Int)<=3652058 by decide
theorem ZpC (h:Z1m ws ps) {i:Nat} (hi:i<ps.length):Zey (Z03 i ps[i]):=by
 have h1:=h.pa _ (Xc hi);constructor<;>simp only [Z03]<;>omega
theorem ZiG {rs:List Rpt} (i:Nat) (hi:i<ps.length):∀ k,k<=ps.length->ofG (Z0r rs ps ps.length) (Z0s e) i ps[i].party k=if i<k/\(Z1A (J0 rs ps[i].attempt) (Z0s e) ps[i].sent).2=true then [ofE (Z0s e) (JQ i ps[i] (J0 rs ps[i].attempt)) i] else []
 | 0,_=>by simp [ofG]
 | k + 1, hk => by
   have e1:(Z0r rs ps ps.length).getD k default=JQ k ps[k] (J0 rs ps[k].attempt):=by simp [Z0r,show k<ps.length by omega]
   unfold ofG;rw [ZiG i hi k (by omega),e1];unfold svB;by_cases pg:i=k;subst pg;by_cases hs:(Z1A (J0 rs ps[i].attempt) (Z0s e) ps[i].sent).2=true;rw [if_neg (by omega),if_pos (by simp only [JQ,and_self,decide_true,YbM];exact hs),if_pos ⟨by omega,hs⟩,XM];rw [if_neg (by omega),if_neg (by simp only [JQ,and_self,decide_true,YbM];exact hs),if_neg (λh=>hs h.2),XM];have cm:¬ ((decide ((JQ k ps[k] (J0 rs ps[k].attempt)).entry=↑i/\(JQ k ps[k] (J0 rs ps[k].attempt)).party=ps[i].party) && (Z1A (JQ k ps[k] (J0 rs ps[k].attempt)).rets (Z0s e) (JQ k ps[k] (J0 rs ps[k].attempt)).sent).2)=true):=by
    intro hc;have h1:=(of_decide_eq_true (Bool.and_eq_true_iff.1 hc).1).1;simp only [JQ] at h1;omega
   rw [if_neg cm,XJ];have:i<k↔i<k+1:=by omega
   simp only [this]
theorem Zqy {rs:List Rpt} (i:Nat) (hi:i<ps.length):Z2W (Z0r rs ps ps.length) (Z0s e) i ps[i].party=if (Z1A (J0 rs ps[i].attempt) (Z0s e) ps[i].sent).2=true then (ofE (Z0s e) (JQ i ps[i] (J0 rs ps[i].attempt)) i,true) else (⟨0,0,0⟩,false):=by
 unfold Z2W;rw [JN,ZiG i hi _ (Xm _)];by_cases hs:(Z1A (J0 rs ps[i].attempt) (Z0s e) ps[i].sent).2=true;rw [if_pos ⟨hi,hs⟩,if_pos hs];rfl;rw [if_neg (λh=>hs h.2),if_neg hs];rfl
def exW (e c:Int):Int:=((Z0s e).getD c.toNat ⟨0,0⟩).extra
theorem ZaJ (he:0<=e/\e<30) (c:Int):0<=exW e c/\exW e c<30:=by
 unfold exW Z0s
 match c.toNat with
 | 0=>exact he
 | 1=>exact (show (0:Int)<=1/\(1:Int)<30 by decide)
 | 2=>exact (show (0:Int)<=0/\(0:Int)<30 by decide)
 | n+3=>simp
theorem ZpD (h:Z1m ws ps) (hd:Z2d ps) (he:0<=e/\e<30) (i:Nat) (hi:i<ps.length) :
 (J0 (Zc till ws ps) ps[i].attempt=[]/\(Z3w (Jm e (Zc till ws ps) ps ps.length) (Z03 i ps[i]) 0).2=false)\/
 (J0 (Zc till ws ps) ps[i].attempt ≠ [] /\ (Z3w (Jm e (Zc till ws ps) ps ps.length) (Z03 i ps[i]) 0).2 = true /\ (Z3w (Jm e (Zc till ws ps) ps ps.length) (Z03 i ps[i]) 0).1.due = JI ws ps[i] + exW e ps[i].carrier/\
   ∃ x y,(Z3w (Jm e (Zc till ws ps) ps ps.length) (Z03 i ps[i]) 0).1.reas=[x,y,⟨3,i,JI ws ps[i]⟩]):=by
 obtain ⟨n,hn,hr⟩:=Z2y till ws ps hd _ (Xc hi);have h1:=h.pa _ (Xc hi);have h2:=h.da _ (Xc hi);have h3:=ZaJ he ps[i].carrier;have fW:=Zqy (e:=e) (rs:=Zc till ws ps) i hi;have ha:ZdS [Z40] [120] ps[i].sent=0:=by
  simp [ZdS,Z2U,ZdR,Z40];omega
 rcases YbF n with rfl|aO
 left;rw [hr,List.replicate_zero] at fW ⊢;rw [Zih _ _ (by omega),if_neg (by simp)] at fW;refine ⟨rfl,?_⟩;have bJ:evL (Jm e (Zc till ws ps) ps ps.length) (Z03 i ps[i])=[ps[i].sent,-1,0,0,ps[i].party,0,0]:=by
  unfold evL;simp only [Jm,Z03,fW];rfl
 unfold Z3w;rw [bJ];simp [Jm,Z03,Z40,ZZ,Z3h,Ji,arM,Z6T,Jd,noD]
 right;have fB:=Zii ps[i].carrier (JI ws ps[i]) ps[i].sent (Z0s e) (Zqw e _) (by omega) (by unfold JI;omega) (by unfold JI;omega) n ⟨aO,hn⟩;rw [hr] at fW ⊢;unfold Z5q at fW ⊢;rw [fB,if_pos rfl] at fW;have kp:Z2W (Z0r (Zc till ws ps) ps ps.length) (Z0s e) i ps[i].party=(⟨JI ws ps[i],exW e ps[i].carrier,i⟩,true):=by
  rw [fW];unfold ofE JQ exW;dsimp only;rw [fB]
 have io:JI ws ps[i]=ps[i].sent+(JA ws ps[i].attempt).days:=rfl;refine ⟨λhc=>by have:=congrArg List.length hc;simp at this;omega,?_⟩;have bJ:evL (Jm e (Zc till ws ps) ps ps.length) (Z03 i ps[i])=[ps[i].sent,JI ws ps[i],exW e ps[i].carrier,0,ps[i].party,0,0]:=by
  unfold evL;simp only [Jm,Z03,kp];rfl
 have hx:Z3w (Jm e (Zc till ws ps) ps ps.length) (Z03 i ps[i]) 0=(mkD (Jm e (Zc till ws ps) ps ps.length) (Z03 i ps[i]) 0 Z40 (JI ws ps[i]+exW e ps[i].carrier) (JI ws ps[i]+exW e ps[i].carrier) [],true):=by
  have hy:ZZ (opn (Jm e (Zc till ws ps) ps ps.length)) [ps[i].sent,JI ws ps[i],exW e ps[i].carrier,0,ps[i].party,0,0] Z40.due=(JI ws ps[i]+exW e ps[i].carrier,[],0):=by
   have d1:¬ JI ws ps[i]=-1:=by omega
   have d2:¬ (JI ws ps[i]+exW e ps[i].carrier<0\/3652058<JI ws ps[i]+exW e ps[i].carrier):=by omega
   simp [Z40,ZZ,Z3h,Ji,arM,Z6T,Jd,Z1M,Z6S,Jc,d1,d2]
  have hz:ZZ (opn (Jm e (Zc till ws ps) ps ps.length)) [ps[i].sent,JI ws ps[i],exW e ps[i].carrier,0,ps[i].party,0,0] Z40.cnd=(1,[],0):=rfl;unfold Z3w;rw [bJ,if_neg (by simp [Jm])];simp only [show (Jm e (Zc till ws ps) ps ps.length).ruls.getD (0:Int).toNat crZ=Z40 from rfl];rw [hz,hy,if_neg (by simp only [not_or,Decidable.not_not];exact ⟨rfl,ha⟩),if_neg (by simp),if_neg (by simp)];have hq:Z54 (Z03 i ps[i]).day (JI ws ps[i]+exW e ps[i].carrier) (Jm e (Zc till ws ps) ps ps.length).stys=(JI ws ps[i]+exW e ps[i].carrier,0):=by
   show Z54 _ _ []=_;unfold Z54;split;rfl;rw [if_neg];rfl;show ¬ 3652058<Z4q _ [] _;rw [Z4q];omega
  rw [hq,if_neg (by simp),if_pos rfl];rfl
 rw [hx];refine ⟨rfl,rfl,⟨1,i,ps[i].sent⟩,⟨2,0,0⟩,?_⟩;unfold mkD;have hq:Z3l (Z03 i ps[i]).day (JI ws ps[i]+exW e ps[i].carrier) (Jm e (Zc till ws ps) ps ps.length).stys=[]:=by
  show Z3l _ _ []=_;unfold Z3l;split<;>rfl
 have kV:(Z9j (Jm e (Zc till ws ps) ps ps.length).fcts (Z03 i ps[i]) Z40.unl (JI ws ps[i]+exW e ps[i].carrier)).2=false:=by
  unfold Z9j;rw [if_pos];unfold Z5C;refine Ybs.2 (λx _=>?_);simp [Z60,Z40]
 have nB:Z2W (Jm e (Zc till ws ps) ps ps.length).atts (Jm e (Zc till ws ps) ps ps.length).crrs (Z03 i ps[i]).entry (Z03 i ps[i]).to_=(⟨JI ws ps[i],exW e ps[i].carrier,i⟩,true):=kp;simp only [hq,kV,nB];rw [if_pos ⟨trivial,.inr (by decide)⟩];rfl
theorem ZeY (rs:List Rpt) (a:Int) (k:Nat) (h:k<rs.length):J0 (rs.take (k+1)) a=J0 (rs.take k) a++if rs[k].attempt=a then [Z9T rs[k]] else []:=by
 unfold J0;rw [Xf h,XT,XL];by_cases hc:rs[k].attempt=a<;>simp [hc]
theorem Z8y (hd:Z2d ps) {p:Pap} (hp:p∈ps) (k:Nat):∃ n,n<=2/\J0 ((Zc till ws ps).take k) p.attempt=List.replicate n (Z5q ws p):=by
 obtain ⟨n,hn,hr⟩:=Z2y till ws ps hd p hp;have he:J0 ((Zc till ws ps).take k) p.attempt++J0 ((Zc till ws ps).drop k) p.attempt=List.replicate n (Z5q ws p):=by
  rw [<- hr];unfold J0;rw [<- XL,<- XT,Xy]
 refine ⟨_,?_,List.eq_replicate_iff.2 ⟨rfl,λb hb=>?_⟩⟩;have:=congrArg List.length he;rw [Xe,Ya3] at this;omega;have:b∈List.replicate n (Z5q ws p):=by rw [<- he];exact Yby _ hb
 exact (Ya1.1 this).2
theorem Z6i (hd:Z2d ps) {n:Nat} (hn:n<=ps.length):∀ a∈Z0r (Zc till ws ps) ps n,a.rets.length<=1000:=λa ha=>by
 obtain ⟨i,hi,-,rfl⟩:=Z2e hn ha;obtain ⟨k,hk,hr⟩:=Z2y till ws ps hd _ (Xc hi);show (J0 _ _).length<=_;rw [hr,Ya3];omega
def ZbN (a:Int) (d:Int) (r:Rpt):Int:=if r.attempt=a then r.frm else d
theorem Z8z (a:Int):∀ (rs:List Rpt) (d:Int),rs.foldl (ZbN a) d=(J0 rs a).foldl (λ_ x=>x.lo) d
 | [],_=>rfl
 | r :: l, d => by
   rw [XP,Z8z a l];unfold ZbN J0;by_cases h:r.attempt=a;rw [if_pos h,YaS (by simpa using h),XQ,XP];rfl;rw [if_neg h,YaT (by simpa using h)]
theorem ZpE (h:Z1m ws ps) (hd:Z2d ps) (i:Nat) (hi:i<ps.length):(Zc till ws ps).foldl (ZbN ps[i].attempt) (-1)=if J0 (Zc till ws ps) ps[i].attempt=[] then -1 else JI ws ps[i]:=by
 rw [Z8z];obtain ⟨n,hn,hr⟩:=Z2y till ws ps hd _ (Xc hi);rw [hr]
 match n,hn with
 | 0,_=>rfl
 | 1,_=>rfl
 | 2,_=>rfl
end
end Go.Proofs.YtkojegdemoahlaaGreatDoor
namespace Go.EngB
open Go Go.Eng Go.RowKit Go.Proofs
variable {P:Program} {n:Nat} {Q:Exit->Act->World->Prop} {e:Env} {w w0:World} {ops:Array Oper} {Lt:List Nat} {rest:List (Nat×Nat)}
theorem nil_row {α:Type} [Z1 α] {X:List Nat} {T:Nat} {v:Value} {w':World} (h:Zh w T 0 [] v w') (hb:w0.heap.size<=w.heap.size):Row X w' w0.heap.size T v ([]:List α)/\∀ b∈ob v,w.heap.size<=b:=by
 obtain ⟨b,rfl,bQ,hk,hT⟩:=h;refine ⟨⟨[],rfl,λi hi=>absurd hi (by simp),by simp,.inr ⟨b,0,#[],rfl,by omega,hk,Xm _,by simp [maxLen],by simp,by simp⟩⟩,λc hc=>?_⟩;simp [ob] at hc;omega
end Go.EngB
namespace Go.Eng
open Go Go.RowKit Go.Proofs
section
variable {P:Program} {n:Nat} {e:Env} {d:Option Nat} {ty:TypeId} {pos:String} {af:Array Edge} {g:Option (Nat×Bool)}
variable {α:Type} [Z1 α] {X:List Nat} {w w':World} {base T:Nat} {v:Value} {xs:List α}
theorem Z1n {i j k:Nat} {t:TypeId} {x y:Operand} {u:Value} {y':α} [bw:Siz P t 1] (hx:ev e x=some (.pointer (some (Zq v i k j)))) (hy:ev e y=some u) (hk:k=Z1.k α)
 (hu:u.cells.toList=[u]) (h1:u.oneCell'=true) (ac:Row X w base T v xs) (hi:i<xs.length) (hj:j<Z1.k α) (aV:∀ cs,Z1.rep (ob v++X) w xs[i] cs->Z1.rep (ob v++X) w y' (cs.set j u)) :
 OE P n ⟨d,.store t x y,ty,pos,af,g⟩ e w (λ_ w'=>Row X w' base T v (xs.set i y')/\Stp (ob v) w w'):=by
 obtain ⟨css,hl,hr,ho⟩:=ac;have am:∀ c∈css,c.length=Z1.k α:=by
  intro c hc;obtain ⟨q,hq,rfl⟩:=Xq hc;exact Z1.len (hr q (by omega) hq)
 rcases ho.2 with ⟨rfl,hn⟩|⟨q,cap,cur,rfl,hb,hg,bj,aW,aH,ht⟩
 omega;subst hk;have ah:i * Z1.k α+j<xs.length * Z1.k α:=by
  have:(i+1) * Z1.k α<=xs.length * Z1.k α:=Xt _ (by omega);rw [Yaa] at this;omega
 have aN:i * Z1.k α+j+[u].length<=cur.size:=by
  rw [aH];have:=Xt (Z1.k α) bj;simp only [Ybt];omega
 have ax:=run_storeCells_at P q (i * Z1.k α+j) T [u] 0 cur w hg (by simpa using aN) (by simpa using h1);simp only [YaY] at ax;have ca:u.cells.size=1:=by rw [<- XK,hu];rfl
 have dE:Stp [q] w (w.setRow q (cur.toList.take (i * Z1.k α+j)++[u]++cur.toList.drop (i * Z1.k α+j+[u].length)).toArray):=JB _ _ _;have gR:=aV _ (hr i hi (by omega));refine Z1p (w':=w.setRow q (cur.toList.take (i * Z1.k α+j)++[u]++cur.toList.drop (i * Z1.k α+j+[u].length)).toArray) (λa ha=>?_) ⟨⟨css.set i ((css[i]'(by omega)).set j u),by simp [hl],λm hm jh=>?_,?_,.inr ⟨q,cap,_,by simp,hb,setRow_heap w q cur _ T (0,0) hg,by simpa using bj,aW,?_,?_⟩⟩,dE⟩;have ct:Zq (.slice (some ⟨q,0,none⟩) xs.length cap) i (Z1.k α) j=⟨q,i * Z1.k α+j,none⟩:=by simp [Zq]
 rw [ct] at hx;simp [execOp,ha.ev hx,ha.ev hy,Instr.storeAt,Instr.sureAddr,storeVar,Siz.run,ca,hu,ax];have ae:∀ b∈[q],b∈ob (.slice (some ⟨q,0,none⟩) xs.length cap)++X:=by simp [ob]
 by_cases bN:i=m;subst bN;simp only [Yao];exact Z1.ext gR dE ae (λb hb=>.inl hb);simp only [YaO bN];exact Z1.ext (hr m (by simpa using hm) (by simpa using jh)) dE ae (λb hb=>.inl hb);rw [JX css am i (by omega) j hj];simpa using ho.1;simp only [XZ,Xe,Xv,X4,XK];omega;rw [JX css am i (by omega) j hj,<- ht];have bw:i * Z1.k α+j<cur.toList.length:=by simp;simp at aN;omega
 simp only [Yac];rw [show cur.toList.take (i * Z1.k α+j)++[u]++cur.toList.drop (i * Z1.k α+j+[u].length)=cur.toList.set (i * Z1.k α+j) u by
  rw [YaH,if_pos bw];simp]
 rw [List.take_set]
end
end Go.Eng
