/-
Contracts and plain laws, merged out of own texts.
-/
import Derived.Test.YtipfkbkkndacjaaGreatDoorM4
import Derived.RangeFuncBox
import Derived.RangeFuncLeaves
import Derived.RangeFuncNested
import Derived.RangeFuncBound
import Derived.RangeFuncCalls
import Derived.Shelf.Abstract
import Derived.Shelf.RegionOpen
import Derived.BigRegionIn
import Derived.WalkKit
import Derived.OwnWalkIn
import Derived.TacticsInMore
import Derived.LoopNIn
import Derived.LoopIn
import Derived.ChangeKeysEq
set_option linter.unusedVariables false
set_option linter.unusedSimpArgs false
set_option maxHeartbeats 4000000
set_option maxRecDepth 20000
namespace Go.Proofs.YtipfkbkkndacjaaGreatDoor
open Go Go.Eng Go.RowKit
theorem ZeD (lv cv:Value) (l:List Rtn) (crrs:List Crr) (sent:Int) (w) (hl:SlV [] w lv l) (hc:SlV [] w cv crrs) (ho:ZnE l crrs) (hs:0<=sent/\sent<=3652058) :
 CC 77 #[lv,cv,.I sent] w λv w'=>v=.tuple #[.I (Zbj l crrs sent).1,.B (Zbj l crrs sent).2]/\Stp [] w w':=by
 unfold Zbj;refine cW3 30 Tryz.func77 ?_;refine W ?_;refine CG (Zd5 lv cv l crrs sent w hl hc ho hs) ?_;rintro _ w1 ⟨ov,rfl,ay,hS⟩;generalize Zh0 l crrs sent=s at *;obtain ⟨least,never,out⟩:=s;dsimp only at ay ⊢;have aU:=ay.max;cases never with
 | true=>
   refine RT ?_;exact ⟨rfl,hS⟩
 | false=>
   rcases Yap out with rfl|⟨M,u,rfl⟩
   refine RT ?_;exact ⟨rfl,hS⟩;rw [Yaq] at *;have lc:((M++[u]).length:Int) - 1=(M.length:Nat):=by simp
   have mx:M.length<(M++[u]).length:=by simp
   have dB:(M++[u])[M.length]=u:=by simp
   have gB:0<((M++[u]).length:Int):=by simp
   have vY:(M++[u]).getLast?=some u:=by simp
   rw [vY];refine QO ?_;rw [dB];refine RU ?_;exact ⟨rfl,hS⟩
theorem ZnG (a b:Svc) (w):CC 79 #[aG a,aG b] w λr w'=>r=.I (cmI a.day b.day)/\Stp [] w w':=by
 refine cW2 10 Tryz.func79 ?_;refine W ?_;refine BX (Stp.refl [] w) λb2 w1 h2 e2 _ hS=>?_;replace e2:Blk w1 b2 115 (Z3.enc a):=e2;refine BX hS λb3 w2 h3 e3 hT hS=>?_;replace e2:=e2.up hT;replace e3:Blk w2 b3 115 (Z3.enc b):=e3;refine W ?_;refine CP hS (Z4H _ _ _) λw3 _ hS=>?_;refine RT ?_;exact ⟨rfl,hS⟩
def Z2v (l:List Svc):Nat->Svc
 | 0=>l.getD 0 ⟨0,0,0⟩
 | k+1=>if (l.getD (k+1) ⟨0,0,0⟩).day<(Z2v l k).day then l.getD (k+1) ⟨0,0,0⟩ else Z2v l k
def Z53 (l:List Svc):Svc×Bool:=if l=[] then (⟨0,0,0⟩,false) else (Z2v l (l.length - 1),true)
theorem ZkJ (v:Value) (l:List Svc) (w) (hs:SlV [] w v l):CC 78 #[v,.func (.func 79) #[] #[]] w λr w'=>r=.tuple #[.agg (Z3.enc (Z53 l).1).toArray,.B (Z53 l).2]/\Stp [] w w':=by
 have aU:=hs.max;unfold Z53;refine cW2 31 Tryz.func78 ?_;refine W ?_;refine Z0 Z2 rfl ?_;rintro _ w1 ⟨b4,rfl,bz,e4,hS⟩;refine W ?_;refine Z0 Z2 rfl ?_;rintro _ w2 ⟨b6,rfl,ez,e6,hT⟩;have l4:=e4.lt;replace e4:=e4.up hT;have g6:w.heap.size<=b6:=Xh hS.size ez;replace hS:=hS.trans hT;clear hT;have n46:b4≠b6:=by omega
 replace e4:Blk w2 b4 115 (Z3.enc (⟨0,0,0⟩:Svc)):=e4;replace e6:Blk w2 b6 115 (Z3.enc (⟨0,0,0⟩:Svc)):=e6;have bq:=hs.up hS;have hz:((l.length:Int)=0)↔l=[]:=by simp
 (refine QP ?_ ?_<;>intro hc)
 obtain rfl:l=[]:=hz.1 (by assumption);refine SA (us:=Z3.enc (⟨0,0,0⟩:Svc)) e4 ?_;rintro _ w3 ⟨hT,e4⟩;refine W ?_;refine Zn rfl rfl rfl e4 rfl rfl ?_;exact .mk ⟨rfl,hS.ow hT⟩;have hn:l≠[]:=λh=>absurd (hz.2 h) (by assumption)
 have bj:0<l.length:=XU.2 hn;rw [if_neg hn];refine QO ?_;refine SA (us:=Z3.enc l[0]) e6 ?_;rintro _ w3 ⟨hT,e6⟩;replace e4:=e4.ext hT (by simpa using n46);replace hS:=hS.ow hT;clear hT bq;have eZ:=hs.up hS;refine QO ?_;have gk:=eZ.slc (l:=1) (r:=l.length) bj (Xn _);rw [Xo] at gk;refine Z8 (Z5c (l:=1) rfl eZ rfl rfl bj) rfl ?_;clear eZ;obtain ⟨dv,rz⟩:∃ dv,dv=Eng.slc v 1 l.length 3:=⟨_,rfl⟩
 rw [<- rz];have vZ:SlV [] w3 dv (l.drop 1):=rz ▸ gk;clear gk;have jZ:(l.drop 1).length=l.length - 1:=by simp
 refine W ?_;have br:=hS;refine LP (σ:=Nat) (λk=>[(1,.func (.func 79) #[] #[]),(4,pQ b4),(6,pQ b6),(17,dv),(18,.I (l.drop 1).length),(19,.I k)]) (λk w'=>k<=l.length - 1/\Stp [b6] w3 w'/\Stp [] w w'/\Blk w' b6 115 (Z3.enc (Z2v l k))/\Blk w' b4 115 (Z3.enc (⟨0,0,0⟩:Svc))) (λk=>l.length - 1 - k) 0 ⟨by omega,Stp.refl _ _,hS,by rw [Z2v,show l.getD 0 ⟨0,0,0⟩=l[0] by simp [bj]];exact e6,e4⟩ ?_;clear e4 e6 hS;rintro k w4 ⟨hk,hT,hS,e6,e4⟩;by_cases hlt:k<(l.drop 1).length;have eA:SlV [] w4 dv (l.drop 1):=by
  have h:=(hs.up hS).slc (l:=1) (r:=l.length) bj (Xn _);rw [Xo] at h;rw [rz];exact h
 have bG:k+1<l.length:=by omega
 have dB:(l.drop 1)[k]=l[k+1]:=by simp
 have hstep:Z2v l (k+1)=if l[k+1].day<(Z2v l k).day then l[k+1] else Z2v l k:=by rw [Z2v,show l.getD (k+1) ⟨0,0,0⟩=l[k+1] by simp [bG]]
 generalize Z2v l k=m at *;refine QO ?_;rw [dB];refine Z0 Z2 rfl ?_;rintro _ w5 ⟨b8,rfl,fL,e8,hA⟩;refine SA (us:=Z3.enc l[k+1]) e8 ?_;rintro _ w6 ⟨dr,e8⟩;replace hA:=hA.ow dr;replace e4:=e4.up hA;replace e6:=e6.up hA;replace hS:=hS.trans hA;replace hT:=hT.trans hA.mn;clear hA dr eA;refine W ?_;refine CP hS (ZnG l[k+1] m _) λw7 hA hS=>?_;replace e4:=e4.up hA;replace e6:=e6.up hA;replace e8:=e8.up hA;replace hT:=hT.trans hA.mn;clear hA;have bQ:cmI l[k+1].day m.day<0↔l[k+1].day<m.day:=by unfold cmI;split<;>(try split)<;>omega
 by_cases hc:l[k+1].day<m.day;rw [if_pos hc] at hstep;have hc':=bQ.2 hc;refine QO ?_;refine SA (us:=Z3.enc l[k+1]) e6 ?_;rintro _ w8 ⟨hA,e6⟩;replace e4:=e4.ext hA (by simpa using n46);refine QO ?_;exact QL (k+1) ⟨by omega,hT.trans hA,hS.ow hA,by rw [hstep];exact e6,e4⟩ (by omega);rw [if_neg hc] at hstep;have hc':=λh=>hc (bQ.1 h);refine QO ?_;exact QL (k+1) ⟨by omega,hT,hS,by rw [hstep];exact e6,e4⟩ (by omega);obtain rfl:k=l.length - 1:=by omega
 refine QO ?_;refine SA (us:=Z3.enc (Z2v l (l.length - 1))) e4 ?_;rintro _ w8 ⟨hA,e4⟩;refine QO ?_;refine Zn rfl rfl rfl e4 rfl rfl ?_;exact .mk ⟨rfl,hS.ow hA⟩
structure ZnH (l:List Atp) (crrs:List Crr):Prop where
 len:l.length<=65536
 ret:∀ a∈l,ZnE a.rets crrs
 crr:∀ a∈l,0<=a.crr/\a.crr<crrs.length
 sent:∀ a∈l,0<=a.sent/\a.sent<=3652058
def svB (crrs:List Crr) (en pa:Int) (a:Atp):Bool:=decide (a.entry=en/\a.party=pa) && (Zbj a.rets crrs a.sent).2
def ofE (crrs:List Crr) (a:Atp) (k:Nat):Svc:=⟨(Zbj a.rets crrs a.sent).1,(crrs.getD a.crr.toNat ⟨0,0⟩).extra,k⟩
def ofG (l:List Atp) (crrs:List Crr) (en pa:Int):Nat->List Svc
 | 0=>[]
 | k+1=>ofG l crrs en pa k++if svB crrs en pa (l.getD k default)=true then [ofE crrs (l.getD k default) k] else []
def Z8N (l:List Atp) (crrs:List Crr) (en pa:Int):Svc×Bool:=Z53 (ofG l crrs en pa l.length)
theorem ZfH (l:List Atp) (crrs:List Crr) (en pa:Int):∀ k,(ofG l crrs en pa k).length<=k
 | 0=>by simp [ofG]
 | k + 1 => by
   have:=ZfH l crrs en pa k;simp only [ofG,Xd];split<;>simp<;>omega
theorem ZkK (a b c:Int) (w):(Instr.build 115 #[(0,.I a),(1,.I b),(2,.I c)]).run Tryz.prog w=.ok (aG (⟨a,b,c⟩:Svc)) w:=by kernel_rfl
theorem Ztw (lv cv:Value) (l:List Atp) (crrs:List Crr) (en pa:Int) (w) (hl:SlV [] w lv l) (nS:SlV [] w cv crrs) (ho:ZnH l crrs) :
 CC 49 #[lv,.I en,.I pa,cv] w λr w'=>r=.tuple #[.agg (Z3.enc (Z8N l crrs en pa).1).toArray,.B (Z8N l crrs en pa).2]/\Stp [] w w':=by
 have ai:=ho.len;refine cW4 59 Tryz.func49 ?_;refine W ?_;refine Z0 Z2 rfl ?_;rintro _ w1 ⟨b8,rfl,fL,e8,hS⟩;replace e8:Blk w1 b8 115 (Z3.enc (⟨0,0,0⟩:Svc)):=e8;have ft:=hl.up hS;refine W ?_;refine LP (σ:=Nat×Value) (λq=>[(1,.I en),(2,.I pa),(3,cv),(8,pQ b8),(10,q.2),(15,lv),(16,.I l.length),(17,.I q.1)]) (λq w'=>q.1<=l.length/\ZF 115 w1 w' q.2 (ofG l crrs en pa q.1)) (λq=>l.length - q.1) (0,.N) ⟨by omega,ZF.nil⟩ ?_;rintro ⟨k,rv⟩ w2 ⟨hk,hr⟩;dsimp only at hk hr ⊢;by_cases hlt:k<l.length
 . have d8:=ft.up hr.2
   obtain ⟨cs,⟨tv,rfl,ht⟩,aq⟩:=d8.cell hlt;have hstep:ofG l crrs en pa (k+1)=ofG l crrs en pa k++if svB crrs en pa l[k]=true then [ofE crrs l[k] k] else []:=by rw [ofG,show l.getD k default=l[k] by simp [hlt]]
   have cT:=ZfH l crrs en pa k;have lE:=ho.ret _ (Xc hlt);have ji:=ho.crr _ (Xc hlt);have ew:=ho.sent _ (Xc hlt);refine QO ?_;refine Z8 (Z0n rfl rfl d8 hlt ⟨tv,rfl,ht⟩ aq) rfl ?_;refine Z0 Z2 rfl ?_;rintro _ w3 ⟨b12,rfl,rk,e12,hA⟩;refine W ?_;refine SB (us:=atC l[k] tv) (Z6.one (x:=l[k]) (w:=w2) (X:=[]) ⟨tv,rfl,ht⟩) e12 ?_;rintro _ w4 ⟨dr,e12⟩;replace hA:=hA.ow dr;replace hr:=hr.up hA;replace ht:=ht.up hA;clear hA dr d8 aq;have fy:SlV [] w4 cv crrs:=(nS.up hS).up hr.2;have skip:svB crrs en pa l[k]=false->ofG l crrs en pa (k+1)=ofG l crrs en pa k:=λh=>by rw [hstep,h,if_neg (by simp),XG]
   repeat'(first|refine W1 ?_|omega|refine VG ?_ ?_<;>intro hg|refine VC ?_ ?_<;>intro hc)
   all_goals try exact QL (k+1,rv) ⟨hlt,by rw [skip (by simp only [svB,Bool.and_eq_false_iff,decide_eq_false_iff_not];exact .inl (λh=>by omega))];exact hr⟩ (by dsimp only;omega)
   refine CP (Stp.refl [] w4) (ZeD tv cv l[k].rets crrs l[k].sent _ ht fy lE ew) λw5 hA _=>?_;replace hr:=hr.up hA;replace e12:=e12.up hA;replace fy:=fy.up hA;clear hA ht;unfold svB at hstep skip;unfold ofE at hstep;generalize Zbj l[k].rets crrs l[k].sent=sv at *;obtain ⟨d,ok⟩:=sv;cases ok with
   | false=>
     dsimp only at skip ⊢;refine QO ?_;exact QL (k+1,rv) ⟨hlt,by rw [skip (by simp)];exact hr⟩ (by dsimp only;omega)
   | true=>
     rw [if_pos (by simp only [Ya3,decide_eq_true_eq];constructor<;>omega)] at hstep;obtain ⟨j,hj⟩:∃ j:Nat,l[k].crr=j:=⟨l[k].crr.toNat,by omega⟩
     have fF:j<crrs.length:=by omega
     rw [hj,show crrs.getD ((j:Int).toNat) ⟨0,0⟩=crrs[j] by simp [fF]] at hstep;dsimp only at hstep ⊢;refine QO ?_;refine Z7 (vs:=[(0,.I d),(1,.I crrs[j].extra),(2,.I k)]) rfl (ZkK _ _ _) rfl ?_;refine AP1 (⟨d,crrs[j].extra,k⟩:Svc) hr (by omega) λv1 v' w' bE _=>?_
     refine QO ?_;exact QL (k+1,v') ⟨hlt,by rw [hstep];exact bE⟩ (by dsimp only;omega)
 obtain rfl:k=l.length:=by omega
 have eK:SlV [] w2 rv (ofG l crrs en pa l.length):=hr.slv (by simp);replace e8:=e8.up hr.2;replace hS:=hS.trans hr.2;clear hr;unfold Z8N;refine QO ?_;refine CP hS (ZkJ rv _ _ eK) λw3 hT hS=>?_;replace e8:=e8.up hT;refine W ?_;refine SA (us:=Z3.enc (Z53 (ofG l crrs en pa l.length)).1) e8 ?_;rintro _ w4 ⟨hA,e8⟩;refine W ?_;refine Zn rfl rfl rfl e8 rfl rfl ?_;exact .mk ⟨rfl,hS.ow hA⟩
theorem ZkL (a b c:Int) (w):(Instr.build 67 #[(0,.I a),(1,.I b),(2,.I c)]).run Tryz.prog w=.ok (aG (⟨a,b,c⟩:Rsn)) w:=by kernel_rfl
structure Nte (w0:World) (bd:Nat) (w:World) (d:Dln) (rv:Value):Prop where
 blk:Blk w bd 56 (dlC d rv)
 row:Row [bd] w w0.heap.size 67 rv d.reas
 stp:Stp [bd] w0 w
 lt:bd<w0.heap.size
 len:d.reas.length<=100000
theorem Z2U (w0:World) (bd:Nat) (d:Dln) (rv:Value) (k a b:Int) (w) (h:Nte w0 bd w d rv) (hl:d.reas.length+1<=100000) :
 CC 53 #[.I k,.I a,.I b,pQ bd] w λr w'=>∃ rv',Nte w0 bd w' { d with reas:=d.reas++[⟨k,a,b⟩] } rv'/\Stp (bd :: ob rv) w w'/\∀ b∈ob rv',b∈ob rv\/w.heap.size<=b:=by
 obtain ⟨e3,hr,hS,hlt,ai⟩:=h;refine cW4 16 Tryz.func53 ?_;refine W ?_;refine Z7 (vs:=[(0,.I k),(1,.I a),(2,.I b)]) rfl (ZkL _ _ _) rfl ?_;refine APR (X:=[bd]) (base:=w0.heap.size) (⟨k,a,b⟩:Rsn) hr (λc hc=>by have:=hS.size;simp at hc;omega) hS.size (by omega) λv1 v' w1 bE hT aV=>?_
 have e3':Blk w1 bd 56 (dlC d rv):=e3.ext hT (λhb=>by have:=(hr.ob_le bd hb).1;omega);refine W ?_;have ay:SlV [bd] w1 v' (d.reas++[⟨k,a,b⟩]):=bE.slv (λc hc=>by simp at hc;omega);refine Z5 (Zb (u:=v') rfl rfl ay.cells ay.one e3' (by simp)) ?_;rintro _ w2 ⟨ar,e3''⟩;refine W ?_;refine WR ?_;refine .mk ⟨v',⟨e3'',bE.ext ar (λc hc=>?_) (λc hc=>.inl hc),?_,hlt,by simp;omega⟩,(hT.mono (λc hc=>by simp [hc])).trans ar.mn,aV⟩;simp only [Xk] at hc;subst hc;exact ⟨by simp,λh=>by have:=(bE.ob_le c h).1;omega⟩;refine (hS.own hT (λc hc=>.inr (hr.ob_le c hc).1)).trans ar
def Z6M (els:Str) (d:Dln):Fct:=⟨d.trig.entry,els,max d.due d.trig.day+1,d.trig.to_,d.trig.by_,d.trig.amt⟩
def Z1N (c:Cas) (d:Dln) (r:Nat):Fct×Bool:=(Z6M (c.ruls.getD r crZ).els d,decide (d.stat=2/\(c.ruls.getD r crZ).els≠[]/\max d.due d.trig.day+1<=c.today))
theorem Zd6 (a:Int) (s:Str) (b c d e:Int) (w):(Instr.build 45 #[(0,.I a),(1,str s),(2,.I b),(3,.I c),(4,.I d),(5,.I e)]).run Tryz.prog w=.ok (aG (⟨a,s,b,c,d,e⟩:Fct)) w:=by kernel_rfl
theorem Zd7 (c:Cas) (R:Z0N) (d:Dln) (dv:Value) (r:Nat) (w) (hs:SlV [] w R.rv c.ruls) (hd:SlV [] w dv d.reas) (hr:r<c.ruls.length) (hb:-1000000000<=d.due/\d.due<=1000000000/\-1000000000<=d.trig.day/\d.trig.day<=1000000000) :
 CC 47 #[.agg (Jh c R).toArray,.agg (dlC d dv).toArray,.I r] w λv w'=>v=.tuple #[.agg (Z3.enc (Z1N c d r).1).toArray,.B (Z1N c d r).2]/\Stp [] w w':=by
 unfold Z1N;rw [show c.ruls.getD r crZ=c.ruls[r] by simp [hr]];refine cW3 49 Tryz.func47 ?_;refine W ?_;refine BX (Stp.refl [] w) λb3 w1 h3 e3 _ hS=>?_;replace e3:Blk w1 b3 37 (Jh c R):=e3;refine BX hS λb4 w2 h4 e4 hT hS=>?_;replace e4:Blk w2 b4 56 (dlC d dv):=e4;replace e3:=e3.up hT;have l3:=e3.lt;have l4:=e4.lt;refine W ?_;refine Z0 Z2 rfl ?_;rintro _ w3 ⟨b6,rfl,ez,e6,hT⟩;have n36:b3≠b6:=by omega
 have n46:b4≠b6:=by omega
 have g6:w.heap.size<=b6:=Xh hS.size ez;replace e3:=e3.up hT;replace e4:=e4.up hT;replace hS:=hS.trans hT;clear hT;refine W ?_;refine Z8 (Zl (us:=Z3.enc d.trig) rfl rfl e4 rfl rfl) rfl ?_;refine Z0 Z2 rfl ?_;rintro _ w4 ⟨b8,rfl,fL,e8,hT⟩;refine SA (us:=Z3.enc d.trig) e8 ?_;rintro _ w5 ⟨ar,e8⟩;replace hT:=hT.ow ar;replace e3:=e3.up hT;replace e4:=e4.up hT;have l6:=e6.lt;replace e6:=e6.up hT;replace hS:=hS.trans hT;have n68:b6≠b8:=λh=>by subst h;exact absurd l6 (Nat.not_lt.2 fL)
 clear hT ar;refine W ?_;refine ZDr 23 [] [22] [(0,0),(1,1),(2,0),(3,1),(4,0),(5,0),(6,0),(7,1),(8,0),(9,1),(10,0),(11,1),(12,0),(13,0),(14,0),(15,1),(16,0),(17,1),(18,0),(19,1),(20,0),(21,2),(22,2)] (λw1 ae=>?_);replace e3:=e3.up ae;replace e4:=e4.up ae;replace e6:=e6.up ae;replace e8:=e8.up ae;replace hS:=hS.trans ae;clear ae;have eK:=hs.up hS;obtain ⟨cs,⟨kc,kd,rfl,-,-⟩,aq⟩:=eK.cell hr;have hf:w1.cell? (ZH R.rv r 7 6)=some (str c.ruls[r].els):=aq 6 _ rfl;repeat'(first|refine D1 ?_|omega|refine Z0G rfl (by first|exact trivial|exact rfl) rfl rfl (by assumption) rfl ?_|refine Zk rfl rfl rfl rfl (λhg=>?_) (λhg=>?_)|(refine Zi rfl rfl rfl rfl (λhg=>?_) (λhg=>?_)<;>refine D1 ?_)|fail)
 refine Z1Z rfl trivial (vs:=[(0,.I d.trig.entry),(1,str c.ruls[r].els),(2,.I (max d.due d.trig.day+1)),(3,.I d.trig.to_),(4,.I d.trig.by_),(5,.I d.trig.amt)]) rfl (Zd6 _ _ _ _ _ _) rfl ?_;refine Za rfl trivial Z2 (λ_ _ h=>h.choose_spec.2.2.2) rfl ?_;rintro _ w6 ⟨b9,rfl,ir,e9,hT⟩;refine Jr rfl trivial (Zm (us:=Z3.enc (Z6M c.ruls[r].els d)) rfl rfl rfl rfl (Z3.one _) e9 rfl) rfl ?_;rintro _ w7 ⟨ar,e9⟩;replace hT:=hT.ow ar;have l6':=e6.lt;have n69:b6≠b9:=by omega
 replace e3:=e3.up hT;replace e4:=e4.up hT;replace e6:=e6.up hT;replace hS:=hS.trans hT;clear hT ar eK aq hf e8;refine D ?_;refine W ?_;replace e9:Blk w7 b9 45 (Z3.enc (Z6M c.ruls[r].els d)):=e9;have bD:(Z6M c.ruls[r].els d).kind=c.ruls[r].els/\(Z6M c.ruls[r].els d).day=max d.due d.trig.day+1:=⟨rfl,rfl⟩
 obtain ⟨v1,v2⟩:=bD;generalize Z6M c.ruls[r].els d=F at *;rw [<- v1,<- v2];clear v1 v2;refine JK (σ:=Unit) (λ_=>[(6,pQ b6),(7,.B (decide (d.stat=2/\F.kind≠[]/\F.day<=c.today)))]) (λ_ w'=>Stp [] w w'/\Blk w' b6 45 (Z3.enc F)) ?_ ?_
 . refine ZDr 18 ([b6]) [] [(0,1),(1,0),(2,1),(3,0),(4,0),(5,0),(6,1),(7,0),(8,0),(9,0),(10,0),(11,1),(12,0),(13,1),(14,0),(15,0),(16,2),(17,0)] (λw1 ae=>?_)
   replace e3:=e3.up ae;replace e4:=e4.up ae;replace e6:=e6.up ae;replace e9:=e9.up ae;replace hS:=hS.trans ae;clear ae;repeat'(first|refine D1 ?_|omega|refine Zk rfl rfl rfl rfl (λhg=>?_) (λhg=>?_)|(refine Zi rfl rfl rfl rfl (λhg=>?_) (λhg=>?_)<;>refine D1 ?_)|fail)
   all_goals
    refine Z0B rfl trivial (Zm (us:=Z3.enc F) rfl rfl rfl rfl (Z3.one _) e6 rfl) (λ_ _ h=>h.1) ?_;rintro _ wz ⟨hT,e6⟩;refine D ?_;refine ZA () ⟨rfl,?_,trivial⟩ ⟨hS.ow hT,e6⟩;show some (Value.bool _)=some (Value.bool _);congr 2
    first
     | (symm;exact decide_eq_false (λh=>by first|exact absurd h.1 (by assumption)|exact absurd h.2.1 (by assumption)))
     | (rw [decide_eq_decide];exact ⟨λh=>⟨by assumption,by assumption,h⟩,λh=>h.2.2⟩)
 rintro _ w8 ⟨hS,e6⟩;refine W ?_;refine Zn rfl rfl rfl e6 rfl rfl ?_;exact .mk ⟨rfl,hS⟩
def Res (K:MK) (w:World) (st:List Int) (sp:List Spn) (at_:Int) (r:Int×Int):Prop:=
 ∃ sv pv st2 sp2,Mch K w sv pv st2 sp2 at_ r.2 (decide (¬ r.2=0))/\(r.2=0->st2=st++[r.1]/\sp2=sp)
section
variable {K:MK} {w w':World} {sv pv:Value} {st:List Int} {sp:List Spn} {at_ er:Int} {dn:Bool}
abbrev mP (K:MK):Value:=.pointer (some ⟨K.bm,0,none⟩)
theorem Zd8 (hK:KOk K) {v:Int} (h:Mch K w sv pv (st++[v]) sp at_ er dn) :
 CC 82 #[mP K] w λr w'=>r=.I v/\(∃ sv',Mch K w' sv' pv st sp at_ er dn)/\Stp [K.bm] w w':=by
 have ac:=h.blk;have ab:=h.row;unfold Z5V at ac;have hs:=ab.slv (X:=[]) (by simp);have hz:((st++[v]).length:Int) - 1=(st.length:Int):=by simp
 have hi:st.length<(st++[v]).length:=by simp
 have hm:=hs.max;refine cW1 28 Tryz.func82 ?_;refine W ?_;refine Z8 (Z1Y rfl hs rfl hz (by omega)) rfl ?_;refine W ?_;have hc:=ab.cut (r:=st.length) (by omega);rw [YbI rfl] at hc;have h1:=hc.slv (X:=[]) (by simp);refine Z5 (Zb (u:=slc sv 0 st.length 1) rfl rfl h1.cells h1.one ac (by simp [evC,Z0j])) ?_;rintro _ w1 ⟨ae,cp⟩;refine RT ?_;exact ⟨by simp,⟨slc sv 0 st.length 1,h.stack hK (Stp.refl _ _) hc (λb hb=>.inl (by rw [<- Zjb sv st.length 1];exact hb)) ae cp⟩,ae⟩
theorem Z3s (hK:KOk K) {v:Int} (h:Mch K w sv pv (st++[v]) sp at_ er dn) :
 CC 82 #[mP K] w λr w'=>r=.I v/\∃ sv',Mch K w' sv' pv st sp at_ er dn:=
 Go.Eng.Calls.ret (Zd8 hK h) (λ_ _ h=>⟨h.1,h.2.1⟩)
theorem Z09 (hK:KOk K) {a b:Int} (h:Mch K w sv pv (st++[a,b]) sp at_ er dn) :
 CC 204 #[mP K] w λr w'=>r=.tuple #[.I a,.I b]/\∃ sv',Mch K w' sv' pv st sp at_ er dn:=by
 refine cW1 10 Tryz.func204 ?_;refine W ?_;refine CM (ZN rfl) (Z3s (st:=st++[a]) (v:=b) hK (by simpa using h)) ?_;rintro _ w1 ⟨rfl,sv1,h1⟩;refine W ?_;refine CL (Z3s hK h1) ?_;rintro _ w2 ⟨rfl,sv2,h2⟩;refine RT ?_;exact ⟨rfl,sv2,h2⟩
theorem Z0t (hK:KOk K) (h:Mch K w sv pv st sp at_ 0 false) (hl:st.length<=100000) (n e:Int) :
 CC 203 #[mP K,.I n,.I e] w λr w'=>r=.tuple #[]/\Res K w' st sp at_ (n,e):=by
 refine Go.Eng.Calls.ret (Zkn hK h n e hl) ?_;rintro v w' ⟨rfl,sv',h1⟩;refine ⟨rfl,sv',pv,if e=0 then st++[n] else st,sp,?_,λhe=>⟨if_pos he,rfl⟩⟩;by_cases he:e=0;subst he;simpa using h1;simpa [he] using h1
theorem ZfI (hK:KOk K) (h:Mch K w sv pv st sp at_ 0 false) (hl:st.length<=100000) (n a b:Int) :
 CC 261 #[mP K,.I n,.I a,.I b] w λr w'=>r=.tuple #[]/\Res K w' st sp at_ (if n<a\/b<n then (0,5) else (n,0)):=by
 refine cW4 21 Tryz.func261 ?_;by_cases hc:n<a\/b<n
 . rw [if_pos hc]
   repeat'(first|refine W1 ?_|omega|refine VG ?_ ?_<;>intro hg|refine VC ?_ ?_<;>intro hc)
   all_goals
    refine CL (Z0t hK h hl 0 5) ?_;rintro _ w1 ⟨rfl,h1⟩;refine RT ?_;exact ⟨rfl,h1⟩
 rw [if_neg hc];refine QO ?_;refine CL (Z0t hK h hl n 0) ?_;rintro _ w1 ⟨rfl,h1⟩;refine RT ?_;exact ⟨rfl,h1⟩
theorem Z60 (hK:KOk K) (h:Mch K w sv pv st sp at_ 0 false) (hl:st.length<=100000) (n:Int) :
 CC 205 #[mP K,.I n] w λr w'=>r=.tuple #[]/\Res K w' st sp at_ (Z4R n):=by
 refine cW2 7 Tryz.func205 ?_;refine W ?_;refine CL (ZfI hK h hl n _ _) ?_;rintro _ w1 ⟨rfl,h1⟩;refine RT ?_;exact ⟨rfl,h1⟩
theorem Zx1 (hK:KOk K) (h:Mch K w sv pv st sp at_ 0 false) (hl:st.length<=100000) (n:Int) :
 CC 207 #[mP K,.I n] w λr w'=>r=.tuple #[]/\Res K w' st sp at_ (Z6B n):=by
 refine cW2 7 Tryz.func207 ?_;refine W ?_;refine CL (ZfI hK h hl n _ _) ?_;rintro _ w1 ⟨rfl,h1⟩;refine RT ?_;exact ⟨rfl,h1⟩
theorem Zbo (hK:KOk K) (h:Mch K w sv pv st sp at_ 0 false) (hl:st.length<=100000) (b:Bool) :
 CC 206 #[mP K,.B b] w λr w'=>r=.tuple #[]/\Res K w' st sp at_ (Z48 b,0):=by
 refine cW2 9 Tryz.func206 ?_;cases b;refine W ?_;refine CL (Z0t hK h hl 0 0) ?_;rintro _ w1 ⟨rfl,h1⟩;refine RT ?_;exact ⟨rfl,h1⟩;refine W ?_;refine CL (Z0t hK h hl 1 0) ?_;rintro _ w1 ⟨rfl,h1⟩;refine RT ?_;exact ⟨rfl,h1⟩
theorem Ztx (hK:KOk K) (h:Mch K w sv pv st sp at_ 0 false) (hl:st.length<=100000) (n:Int) :
 CC 128 #[mP K,.I n] w λr w'=>r=.tuple #[]/\Res K w' st sp at_ (n,0):=by
 refine cW2 7 Tryz.func128 ?_;refine W ?_;refine CL (Z0t hK h hl n 0) ?_;rintro _ w1 ⟨rfl,h1⟩;refine RT ?_;exact ⟨rfl,h1⟩
theorem Zy2 (hK:KOk K) {a b:Int} (h:Mch K w sv pv (st++[a,b]) sp at_ 0 false) (hl:st.length<=100000) (n:Int) (hr:I64 (a+b)) :
 CC 130 #[mP K,.I n] w λr w'=>r=.tuple #[]/\Res K w' st sp at_ (Z4R (a+b)):=by
 try unfold I64 at hr
 refine cW2 16 Tryz.func130 ?_;refine W ?_;refine CL (Z09 hK h) ?_;rintro _ w1 ⟨rfl,sv1,h1⟩;refine W ?_;refine CL (Z60 hK h1 hl _) ?_;rintro _ w2 ⟨rfl,h2⟩;refine RT ?_;exact ⟨rfl,h2⟩
theorem Zy3 (hK:KOk K) {a b:Int} (h:Mch K w sv pv (st++[a,b]) sp at_ 0 false) (hl:st.length<=100000) (n:Int) (hr:I64 (a - b)) :
 CC 131 #[mP K,.I n] w λr w'=>r=.tuple #[]/\Res K w' st sp at_ (Z4R (a - b)):=by
 try unfold I64 at hr
 refine cW2 16 Tryz.func131 ?_;refine W ?_;refine CL (Z09 hK h) ?_;rintro _ w1 ⟨rfl,sv1,h1⟩;refine W ?_;refine CL (Z60 hK h1 hl _) ?_;rintro _ w2 ⟨rfl,h2⟩;refine RT ?_;exact ⟨rfl,h2⟩
theorem Zy4 (hK:KOk K) {a b:Int} (h:Mch K w sv pv (st++[a,b]) sp at_ 0 false) (hl:st.length<=100000) (n:Int) (hr:I64 (a * b)) :
 CC 132 #[mP K,.I n] w λr w'=>r=.tuple #[]/\Res K w' st sp at_ (Z4R (a * b)):=by
 try unfold I64 at hr
 refine cW2 16 Tryz.func132 ?_;refine W ?_;refine CL (Z09 hK h) ?_;rintro _ w1 ⟨rfl,sv1,h1⟩;refine W ?_;refine CL (Z60 hK h1 hl _) ?_;rintro _ w2 ⟨rfl,h2⟩;refine RT ?_;exact ⟨rfl,h2⟩
theorem ltV (hK:KOk K) {a b:Int} (h:Mch K w sv pv (st++[a,b]) sp at_ 0 false) (hl:st.length<=100000) (n:Int) (hr:True) :
 CC 134 #[mP K,.I n] w λr w'=>r=.tuple #[]/\Res K w' st sp at_ ((Z48 (decide (a<b)),0)):=by
 try unfold I64 at hr
 refine cW2 16 Tryz.func134 ?_;refine W ?_;refine CL (Z09 hK h) ?_;rintro _ w1 ⟨rfl,sv1,h1⟩;refine W ?_;refine CL (Zbo hK h1 hl _) ?_;rintro _ w2 ⟨rfl,h2⟩;refine RT ?_;exact ⟨rfl,h2⟩
theorem leV (hK:KOk K) {a b:Int} (h:Mch K w sv pv (st++[a,b]) sp at_ 0 false) (hl:st.length<=100000) (n:Int) (hr:True) :
 CC 135 #[mP K,.I n] w λr w'=>r=.tuple #[]/\Res K w' st sp at_ ((Z48 (decide (a<=b)),0)):=by
 try unfold I64 at hr
 refine cW2 16 Tryz.func135 ?_;refine W ?_;refine CL (Z09 hK h) ?_;rintro _ w1 ⟨rfl,sv1,h1⟩;refine W ?_;refine CL (Zbo hK h1 hl _) ?_;rintro _ w2 ⟨rfl,h2⟩;refine RT ?_;exact ⟨rfl,h2⟩
theorem eqV (hK:KOk K) {a b:Int} (h:Mch K w sv pv (st++[a,b]) sp at_ 0 false) (hl:st.length<=100000) (n:Int) (hr:True) :
 CC 136 #[mP K,.I n] w λr w'=>r=.tuple #[]/\Res K w' st sp at_ ((Z48 (decide (a=b)),0)):=by
 try unfold I64 at hr
 refine cW2 16 Tryz.func136 ?_;refine W ?_;refine CL (Z09 hK h) ?_;rintro _ w1 ⟨rfl,sv1,h1⟩;refine W ?_;refine CL (Zbo hK h1 hl _) ?_;rintro _ w2 ⟨rfl,h2⟩;refine RT ?_;exact ⟨rfl,h2⟩
theorem Zx2 (hK:KOk K) {a b:Int} (h:Mch K w sv pv (st++[a,b]) sp at_ 0 false) (hl:st.length<=100000) (n:Int) (hr:I64 (a+b)) :
 CC 140 #[mP K,.I n] w λr w'=>r=.tuple #[]/\Res K w' st sp at_ (Z6B (a+b)):=by
 try unfold I64 at hr
 refine cW2 16 Tryz.func140 ?_;refine W ?_;refine CL (Z09 hK h) ?_;rintro _ w1 ⟨rfl,sv1,h1⟩;refine W ?_;refine CL (Zx1 hK h1 hl _) ?_;rintro _ w2 ⟨rfl,h2⟩;refine RT ?_;exact ⟨rfl,h2⟩
theorem Zty (hK:KOk K) {a b:Int} (h:Mch K w sv pv (st++[a,b]) sp at_ 0 false) (hl:st.length<=100000) (n:Int) (hr:I64 (7 * b)/\I64 (a+7 * b)) :
 CC 141 #[mP K,.I n] w λr w'=>r=.tuple #[]/\Res K w' st sp at_ (Z6B (a+7 * b)):=by
 try unfold I64 at hr
 refine cW2 17 Tryz.func141 ?_;refine W ?_;refine CL (Z09 hK h) ?_;rintro _ w1 ⟨rfl,sv1,h1⟩;refine W ?_;refine CL (Zx1 hK h1 hl _) ?_;rintro _ w2 ⟨rfl,h2⟩;refine RT ?_;exact ⟨rfl,h2⟩
theorem Ztz (hK:KOk K) {a b:Int} (h:Mch K w sv pv (st++[a,b]) sp at_ 0 false) (hl:st.length<=100000) (n:Int) (hr:True) :
 CC 146 #[mP K,.I n] w λr w'=>r=.tuple #[]/\Res K w' st sp at_ ((max a b,0)):=by
 try unfold I64 at hr
 refine cW2 16 Tryz.func146 ?_;refine W ?_;refine CL (Z09 hK h) ?_;rintro _ w1 ⟨rfl,sv1,h1⟩;refine W ?_;refine CL (Z0t hK h1 hl _ 0) ?_;rintro _ w2 ⟨rfl,h2⟩;refine RT ?_;exact ⟨rfl,h2⟩
theorem ZkM (hK:KOk K) {a b:Int} (h:Mch K w sv pv (st++[a,b]) sp at_ 0 false) (hl:st.length<=100000) (n:Int) (hr:True) :
 CC 147 #[mP K,.I n] w λr w'=>r=.tuple #[]/\Res K w' st sp at_ ((min a b,0)):=by
 try unfold I64 at hr
 refine cW2 16 Tryz.func147 ?_;refine W ?_;refine CL (Z09 hK h) ?_;rintro _ w1 ⟨rfl,sv1,h1⟩;refine W ?_;refine CL (Z0t hK h1 hl _ 0) ?_;rintro _ w2 ⟨rfl,h2⟩;refine RT ?_;exact ⟨rfl,h2⟩
theorem ZkN (hK:KOk K) {a b:Int} (h:Mch K w sv pv (st++[a,b]) sp at_ 0 false) (hl:st.length<=100000) (n:Int) (hr:I64 (b - a)) :
 CC 148 #[mP K,.I n] w λr w'=>r=.tuple #[]/\Res K w' st sp at_ (Z4R (b - a)):=by
 try unfold I64 at hr
 refine cW2 16 Tryz.func148 ?_;refine W ?_;refine CL (Z09 hK h) ?_;rintro _ w1 ⟨rfl,sv1,h1⟩;refine W ?_;refine CL (Z60 hK h1 hl _) ?_;rintro _ w2 ⟨rfl,h2⟩;refine RT ?_;exact ⟨rfl,h2⟩
end
section
variable {K:MK} {w w':World} {sv pv:Value} {st:List Int} {sp:List Spn} {at_ er:Int} {dn:Bool}
theorem Zy5 (hK:KOk K) {b:Int} (h:Mch K w sv pv (st++[b]) sp at_ 0 false) (hl:st.length<=100000) (n:Int) (hr:I64 (-b)) :
 CC 133 #[mP K,.I n] w λr w'=>r=.tuple #[]/\Res K w' st sp at_ (Z4R (-b)):=by
 unfold I64 at hr;refine cW2 9 Tryz.func133 ?_;refine W ?_;refine CL (Z3s hK h) ?_;rintro _ w1 ⟨rfl,sv1,h1⟩;refine W ?_;refine CL (Z60 hK h1 hl _) ?_;rintro _ w2 ⟨rfl,h2⟩;refine RT ?_;exact ⟨rfl,h2⟩
theorem Zy6 (hK:KOk K) {b:Int} (h:Mch K w sv pv (st++[b]) sp at_ 0 false) (hl:st.length<=100000) (n:Int) :
 CC 137 #[mP K,.I n] w λr w'=>r=.tuple #[]/\Res K w' st sp at_ (Z48 (decide (b=0)),0):=by
 refine cW2 9 Tryz.func137 ?_;refine W ?_;refine CL (Z3s hK h) ?_;rintro _ w1 ⟨rfl,sv1,h1⟩;refine W ?_;refine CL (Zbo hK h1 hl _) ?_;rintro _ w2 ⟨rfl,h2⟩;refine RT ?_;exact ⟨rfl,h2⟩
theorem Zx3 (hK:KOk K) (h:Mch K w sv pv st sp at_ er dn) (n:Int) :
 CC 138 #[mP K,.I n] w λr w'=>r=.tuple #[]/\Mch K w' sv pv st sp n er dn:=by
 have ac:=h.blk;unfold Z5V at ac;refine cW2 8 Tryz.func138 ?_;refine W ?_;refine Z5 (Zb (u:=.I n) rfl rfl rfl rfl ac (by simp [evC,Z0j])) ?_;rintro _ w1 ⟨ae,cp⟩;refine RT ?_;exact ⟨rfl,h.put hK ae cp⟩
theorem Zx4 (hK:KOk K) (h:Mch K w sv pv st sp at_ er dn) (n:Int) :
 CC 149 #[mP K,.I n] w λr w'=>r=.tuple #[]/\Mch K w' sv pv st sp at_ er true:=by
 have ac:=h.blk;unfold Z5V at ac;refine cW2 7 Tryz.func149 ?_;refine W ?_;refine Z5 (Zb (u:=.B true) rfl rfl rfl rfl ac (by simp [evC,Z0j])) ?_;rintro _ w1 ⟨ae,cp⟩;refine RT ?_;exact ⟨rfl,h.put hK ae cp⟩
theorem ZnI (hK:KOk K) {b:Int} (h:Mch K w sv pv (st++[b]) sp at_ er dn) (n:Int) :
 CC 139 #[mP K,.I n] w λr w'=>r=.tuple #[]/\∃ sv',Mch K w' sv' pv st sp (if b=0 then n else at_) er dn:=by
 refine cW2 11 Tryz.func139 ?_;refine W ?_;refine CL (Z3s hK h) ?_;rintro _ w1 ⟨rfl,sv1,h1⟩;have ac:=h1.blk;unfold Z5V at ac;by_cases hb:b=0;rw [if_pos hb];refine QO ?_;refine Z5 (Zb (u:=.I n) rfl rfl rfl rfl ac (by simp [evC,Z0j])) ?_;rintro _ w2 ⟨ae,cp⟩;refine RT ?_;exact ⟨rfl,sv1,h1.put hK ae cp⟩;rw [if_neg hb];refine RT ?_;exact ⟨rfl,sv1,h1⟩
theorem ZnJ (a b c d e f g:Int) (w):(Instr.build 282 #[(0,.I a),(1,.I b),(2,.I c),(3,.I d),(4,.I e),(5,.I f),(6,.I g)]).run Tryz.prog w=.ok (.agg #[.I a,.I b,.I c,.I d,.I e,.I f,.I g]) w:=by kernel_rfl
theorem ZtA (hK:KOk K) (h:Mch K w sv pv st sp at_ 0 false) (hl:st.length<=100000) (n:Int) (h0:0<=n) (h7:n<7) :
 CC 129 #[mP K,.I n] w λr w'=>r=.tuple #[]/\Res K w' st sp at_ (ZcL K.ev n):=by
 have ac:=h.blk;unfold Z5V evC Z0j at ac;have qa:=hK.bml;have bD:=hK.ev.served;refine cW2 56 Tryz.func129 ?_;refine W ?_;refine ZDr 38 [] [37] [(0,0),(1,0),(2,0),(3,0),(4,1),(5,0),(6,0),(7,0),(8,0),(9,1),(10,0),(11,0),(12,0),(13,0),(14,1),(15,0),(16,0),(17,0),(18,0),(19,1),(20,0),(21,0),(22,0),(23,0),(24,1),(25,0),(26,0),(27,0),(28,0),(29,1),(30,0),(31,0),(32,0),(33,0),(34,1),(35,0),(36,2),(37,2)] (λw1 ae=>?_);replace h:=h.up ae;replace ac:=ac.up ae;refine D ?_;refine Z1Z rfl trivial rfl (ZnJ _ _ _ _ _ _ _) rfl ?_;refine Za rfl trivial Z2 (λ_ _ ⟨_,_,_,_,h⟩=>h) rfl ?_;rintro _ w2 ⟨b2,rfl,bV,e2,ah⟩;refine Jr rfl trivial (Zm (us:=evC K.ev) rfl rfl rfl rfl (by intro u hu;simp [evC] at hu;rcases hu with rfl|rfl|rfl|rfl|rfl|rfl|rfl<;>rfl) e2 rfl) rfl ?_;rintro _ w3 ⟨hT,e3⟩;have am:=ah.ow hT;replace h:=h.up am;unfold evC at e3;refine D ?_;clear ac ae e2 hT ah am;have fin:∀ (v e:Int),(v,e)=ZcL K.ev n->∀ w',Res K w' st sp at_ (v,e)->Ret (λr w'=>r=.tuple #[]/\Res K w' st sp at_ (ZcL K.ev n)) (.returned (.tuple #[])) w':=by
  intro v e he w' hr;rw [<- he];exact .mk ⟨rfl,hr⟩
 have hn:n=0\/n=1\/n=2\/n=3\/n=4\/n=5\/n=6:=by omega
 rcases hn with rfl|rfl|rfl|rfl|rfl|rfl|rfl
 case inr.inl=>
  by_cases hs:K.ev.getD 1 0<0;refine QO ?_;focus repeat'(first|refine W1 ?_|omega|refine VG ?_ ?_<;>intro hg|refine VC ?_ ?_<;>intro hc)
  refine CL (Z0t hK h hl 0 32) ?_;rintro _ w4 ⟨rfl,h1⟩;refine W ?_;refine WR ?_;refine fin _ _ ?_ _ h1;unfold ZcL;rw [if_pos ⟨rfl,by omega⟩];refine QO ?_;focus repeat'(first|refine W1 ?_|omega|refine VG ?_ ?_<;>intro hg|refine VC ?_ ?_<;>intro hc)
  focus repeat'(first|refine W1 ?_|omega|refine VG ?_ ?_<;>intro hg|refine VC ?_ ?_<;>intro hc)
  refine CL (Z0t hK h hl _ 0) ?_;rintro _ w4 ⟨rfl,h1⟩;refine W ?_;refine WR ?_;refine fin _ _ ?_ _ h1;unfold ZcL;rw [if_neg (by rintro ⟨-,h⟩;omega)];rfl
 case inl=>
  refine QO ?_;repeat'(first|refine W1 ?_|omega|refine VG ?_ ?_<;>intro hg|refine VC ?_ ?_<;>intro hc)
  refine CL (Z0t hK h hl _ 0) ?_;rintro _ w4 ⟨rfl,h1⟩;refine W ?_;refine WR ?_;exact fin _ _ rfl _ h1
 case inr.inr.inl=>
  refine QO ?_;repeat'(first|refine W1 ?_|omega|refine VG ?_ ?_<;>intro hg|refine VC ?_ ?_<;>intro hc)
  refine CL (Z0t hK h hl _ 0) ?_;rintro _ w4 ⟨rfl,h1⟩;refine W ?_;refine WR ?_;exact fin _ _ rfl _ h1
 case inr.inr.inr.inl=>
  refine QO ?_;refine Z36 (len:=7) (i:=3) rfl rfl rfl (by decide) rfl ?_;refine QO ?_;refine CL (Z0t hK h hl _ 0) ?_;rintro _ w4 ⟨rfl,h1⟩;refine W ?_;refine WR ?_;exact fin _ _ rfl _ h1
 case inr.inr.inr.inr.inl=>
  refine QO ?_;refine Z36 (len:=7) (i:=4) rfl rfl rfl (by decide) rfl ?_;refine QO ?_;refine CL (Z0t hK h hl _ 0) ?_;rintro _ w4 ⟨rfl,h1⟩;refine W ?_;refine WR ?_;exact fin _ _ rfl _ h1
 case inr.inr.inr.inr.inr.inl=>
  refine QO ?_;refine Z36 (len:=7) (i:=5) rfl rfl rfl (by decide) rfl ?_;refine QO ?_;refine CL (Z0t hK h hl _ 0) ?_;rintro _ w4 ⟨rfl,h1⟩;refine W ?_;refine WR ?_;exact fin _ _ rfl _ h1
 case inr.inr.inr.inr.inr.inr=>
  refine QO ?_;refine Z36 (len:=7) (i:=6) rfl rfl rfl (by decide) rfl ?_;refine QO ?_;refine CL (Z0t hK h hl _ 0) ?_;rintro _ w4 ⟨rfl,h1⟩;refine W ?_;refine WR ?_;exact fin _ _ rfl _ h1
end
def ZnK {α:Type} [Z3 α] (P:Program) (S:List Nat) (g:Nat) (lb:Array Value) (c:α->α->Int) (w:World):Prop:=
 ∀ (x y:α) (w':World),Stp S w w'->Calls P g (#[agg x,agg y]++lb) w' (Ret λv w''=>v=.I (c x y)/\Stp [] w' w'')
theorem ZfJ (x:Int) (w):CC 125 #[.I x] w λv w'=>v=.B false/\Stp [] w w':=by
 refine cW1 6 Tryz.func125 ?_;repeat'(first|(apply Z4s;exact rfl;exact rfl)|apply Z30|(apply Z7F;exact rfl;exact rfl)|(apply Ztc;exact rfl;exact rfl;exact rfl)|(apply ZmO;exact rfl;exact rfl;exact rfl)|apply Z7R|apply Z2H|apply Z7S|refine Z4o ?_|refine Z1s ?_)
 refine RU ?_;exact ⟨by simp,Stp.refl _ _⟩
def ZkO (x y:Int):Int:=if x<y then -1 else if x > y then 1 else 0
theorem Zd9 (x y:Int) (w):CC 75 #[.I x,.I y] w λv w'=>v=.I (ZkO x y)/\Stp [] w w':=by
 refine cW2 20 Tryz.func75 ?_;repeat'(first|(apply Z4s;exact rfl;exact rfl)|apply Z30|(apply Z7F;exact rfl;exact rfl)|(apply ZdQ;exact rfl;exact rfl;exact rfl)|(apply ZdR;exact rfl;exact rfl;exact rfl)|apply Z7R|apply Z2H|apply Z7D|apply Z7S|(apply Z1I;exact rfl)|(apply Z1n;exact rfl)|refine Z4o ?_|refine Z1s ?_)
 refine CL (ZfJ _ _) ?_;rintro _ w1 ⟨rfl,hS⟩;repeat'(first|(apply Z4s;exact rfl;exact rfl)|apply Z30|(apply Z7F;exact rfl;exact rfl)|(apply ZdQ;exact rfl;exact rfl;exact rfl)|(apply ZdR;exact rfl;exact rfl;exact rfl)|apply Z7R|apply Z2H|apply Z7D|apply Z7S|(apply Z1I;exact rfl)|(apply Z1n;exact rfl)|refine Z4o ?_|refine Z1s ?_)
 refine CL (ZfJ _ _) ?_;rintro _ w2 ⟨rfl,ah⟩;replace hS:=hS.trans ah;repeat'(first|(apply Z4s;exact rfl;exact rfl)|apply Z30|(apply Z7F;exact rfl;exact rfl)|(apply ZdQ;exact rfl;exact rfl;exact rfl)|(apply ZdR;exact rfl;exact rfl;exact rfl)|apply Z7R|apply Z2H|apply Z7D|apply Z7S|(apply Z1I;exact rfl)|(apply Z1n;exact rfl)|refine Z4o ?_|refine Z1s ?_|refine Zax rfl (λhc=>?_) (λhc=>?_)|refine ZbN rfl (λhc=>?_) (λhc=>?_))
 all_goals (refine WR ?_)
 all_goals exact .mk ⟨by unfold ZkO;(first|(simp_all;done)|(rw [if_neg (by omega),if_neg (by omega)])),hS⟩
def put {α:Type} (pre rest:List α) (x:α) (j:Nat):List α:=pre.take j++x :: pre.drop j++rest
theorem ZkP {α:Type} {pre rest:List α} {x:α} {j:Nat} (hj:j<pre.length):((put pre rest x (j+1)).set (j+1) pre[j]).set j x=put pre rest x j:=by
 have h1:pre.take (j+1)=pre.take j++[pre[j]]:=Xi hj;have h2:pre.drop j=pre[j] :: pre.drop (j+1):=Yac hj;have hl:(pre.take j).length=j:=by simp;omega
 unfold put;rw [h1,h2];simp only [XA,XC,XN];rw [YbG,if_neg (by omega),hl,show j+1 - j=1 by omega];rw [YbG,if_neg (by omega),hl,Nat.sub_self];rfl
theorem ZtB {α:Type} {pre rest:List α} {x:α} {j:Nat} (hj:j<=pre.length) (h:j<(put pre rest x j).length):(put pre rest x j)[j]=x:=by
 rw [List.getElem_eq_iff];unfold put;rw [Yaa (by simp;omega),YaH (by simp;omega)];simp [Yae hj]
theorem ZeE {α:Type} {pre rest:List α} {x:α} {j:Nat} (hj:j<pre.length) (h:j<(put pre rest x (j+1)).length):(put pre rest x (j+1))[j]=pre[j]:=by
 rw [List.getElem_eq_iff];unfold put;rw [Yaa (by simp;omega),Yaa (by simp;omega)];simp [hj]
theorem Zbp {α:Type} {pre rest:List α} {x:α} {j:Nat}:(put pre rest x j).length=pre.length+1+rest.length:=by
 have:=congrArg List.length (XO j pre);simp only [Xd] at this;simp only [put,Xd,Xe];omega
def Za6 {α:Type} (c:α->α->Int) (xs ys:List α):Prop:=ys.Perm xs/\ys.Pairwise (λa b=>¬ c b a<0)
structure Ord {α:Type} (c:α->α->Int):Prop where
 asym:∀ a b,c a b<0->¬ c b a<0
 trans:∀ a b d,¬ c b a<0->¬ c d b<0->¬ c d a<0
theorem ZeF {α:Type} {c:α->α->Int} (ho:Ord c) {pre:List α} {x:α} {j:Nat} (hj:j<=pre.length) (hp:pre.Pairwise (λa b=>¬ c b a<0))
 (h1:∀ q (h:q<pre.length),j<=q->c x pre[q]<0) (h2:∀ h:j - 1<pre.length,0<j->¬ c x pre[j - 1]<0):(pre.take j++x :: pre.drop j).Pairwise (λa b=>¬ c b a<0):=by
 rw [Ybj];have hd:∀ a∈pre.drop j,c x a<0:=by
  intro a ha;obtain ⟨m,hm,rfl⟩:=Xr ha;simp only [List.getElem_drop];simp at hm;exact h1 _ _ (by omega)
 have ht:∀ a∈pre.take j,¬ c x a<0:=by
  intro a ha;obtain ⟨m,hm,rfl⟩:=Xr ha;simp only [Xx] at hm;simp only [List.getElem_take];by_cases e:m=j - 1;subst e;exact h2 (by omega) (by omega);exact ho.trans _ _ _ (Yao.1 hp m (j - 1) (by omega) (by omega) (by omega)) (h2 (by omega) (by omega))
 refine ⟨hp.sublist (List.take_sublist _ _),?_,?_⟩;rw [X3];exact ⟨λa ha=>ho.asym _ _ (hd a ha),hp.sublist (List.drop_sublist _ _)⟩;intro a ha b hb;rcases Xb.1 hb with rfl|hb
 exact ht a ha;exact λh=>by
  have h3:=hd b hb;exact ho.trans a x b (ht a ha) (ho.asym _ _ h3) h
theorem Z61 (x y:Int):ZkO x y<0↔x<y:=by unfold ZkO;split<;>(try split)<;>omega
def Z2w (y:Nat):Nat:=
 let a:=y % 19
 let b:=y / 100
 let c:=y % 100
 let g:=(b - (b+8) / 25+1) / 3
 let h:=(19 * a+b - b / 4 - g+15) % 30
 let l:=(32+2 * (b % 4)+2 * (c / 4) - h - c % 4) % 7
 h+l+114 - 7 * ((a+11 * h+22 * l) / 451)
def Zx5 (y:Nat):Nat:=(11 * (y % 19+1)+20+((8 * (y / 100+1)+5) / 25 - 5)+60 - (3 * (y / 100+1) / 4 - 12)) % 30
def Zx6 (e g:Nat):Nat:=bif Nat.beq e 24 || (Nat.beq e 25 && Nat.blt 11 g) then e+1 else e
def Zx7 (e d:Nat):Nat:=let n:=(bif Nat.blt (44 - e) 21 then 44 - e+30 else 44 - e);n+7 - (d+n) % 7
def ZkQ (y:Nat):Nat:=Zx7 (Zx6 (Zx5 y) (y % 19+1)) (5 * y / 4 - (3 * (y / 100+1) / 4 - 12) - 10)
def ZfK (y:Nat):Bool:=Nat.beq (Z2w y) (ZkQ y+92) && (Nat.ble 114 (Z2w y) && Nat.ble (Z2w y) 148)
def Zh4:Nat->Nat->Bool
 | 0,lo=>ZfK lo
 | k+1,lo=>Zh4 k lo && Zh4 k (lo+2 ^ k)
theorem Z4L:∀ (k lo d:Nat),Zh4 k lo=true->lo<=d->d<lo+2 ^ k->ZfK d=true
 | 0, lo, d, h, h1, h2 => by
   have:d=lo:=by simp at h2;omega
   subst this;exact h
 | k + 1, lo, d, h, h1, h2 => by
   simp only [Zh4,Xl] at h;rcases YaC d (lo+2 ^ k) with h3|h3
   exact Z4L k lo d h.1 h1 h3;exact Z4L k _ d h.2 h3 (by rw [Ybq] at h2;omega)
theorem Zh5:Zh4 13 1583=true:=by kernel_rfl
theorem Zh6:Zh4 8 9775=true:=by kernel_rfl
theorem ZnL {y:Nat} (h1:1583<=y) (h2:y<=9999):Z2w y=ZkQ y+92/\114<=Z2w y/\Z2w y<=148:=by
 have h:ZfK y=true:=by
  rcases YaC y 9775 with h3|h3
  exact Z4L 13 1583 y Zh5 h1 (by omega);exact Z4L 8 9775 y Zh6 h3 (by omega)
 unfold ZfK at h;simp only [Xl] at h;exact ⟨XS h.1,XZ h.2.1,XZ h.2.2⟩
theorem Zh7 {y:Nat} (h1:1583<=y) (h2:y<=9999):Z3B (y:Int)=(Z2w y:Int):=by
 unfold Z3B Z2w;dsimp only;have e1:(y:Int) % 19=((y % 19:Nat):Int):=by omega
 have e2:(y:Int) / 100=((y / 100:Nat):Int):=by omega
 have e3:(y:Int) % 100=((y % 100:Nat):Int):=by omega
 rw [e1,e2,e3];have ha:y % 19<=18:=by omega
 have hb:15<=y / 100/\y / 100<=99:=by omega
 have hc:y % 100<=99:=by omega
 generalize y % 19=a at *;generalize y / 100=b at *;generalize y % 100=c at *;have e4:((b:Int) - ((b:Int)+8) / 25+1) / 3=(((b - (b+8) / 25+1) / 3:Nat):Int):=by omega
 have hg:(b - (b+8) / 25+1) / 3+b / 4<=b:=by omega
 rw [e4];generalize (b - (b+8) / 25+1) / 3=g at *;have e5:(19 * (a:Int)+(b:Int) - (b:Int) / 4 - (g:Int)+15) % 30=(((19 * a+b - b / 4 - g+15) % 30:Nat):Int):=by omega
 rw [e5];have hh:(19 * a+b - b / 4 - g+15) % 30<=29:=by omega
 generalize (19 * a+b - b / 4 - g+15) % 30=h at *;have e6:(32+2 * ((b:Int) % 4)+2 * ((c:Int) / 4) - (h:Int) - (c:Int) % 4) % 7=(((32+2 * (b % 4)+2 * (c / 4) - h - c % 4) % 7:Nat):Int):=by omega
 rw [e6];have hl:(32+2 * (b % 4)+2 * (c / 4) - h - c % 4) % 7<=6:=by omega
 generalize (32+2 * (b % 4)+2 * (c / 4) - h - c % 4) % 7=l at *;omega
theorem Z7i {y:Int} (h1:1583<=y) (h2:y<=9999):114<=Z3B y/\Z3B y<=148:=by
 obtain ⟨k,rfl⟩:∃ k:Nat,y=(k:Int):=⟨y.toNat,by omega⟩
 have:=ZnL (y:=k) (by omega) (by omega);rw [Zh7 (by omega) (by omega)];omega
theorem ZeG (y d:Int):Z0c y 3 d=Z0c y 3 1+d - 1/\Z0c y 4 d=Z0c y 3 1+31+d - 1:=by
 constructor;rw [show (3:Int)=((2:Nat):Int)+1 by rfl,Z2M y d 2 (by omega),Z2M y 1 2 (by omega)];omega;rw [show (4:Int)=((3:Nat):Int)+1 by rfl,show (3:Int)=((2:Nat):Int)+1 by rfl,Z2M y d 3 (by omega),Z2M y 1 2 (by omega)];have:Z2n y 3=Z2n y 2+31:=by
  have:Z2n y 3=Z2n y 2+ZI y 3:=by simp [Z2n]
  rw [this];rfl
 omega
theorem Z2x (n a b:Int) (w):CC 213 #[.I n,.I a,.I b] w λr w'=>r=.B (decide (a<=n/\n<=b))/\w'=w:=by
 refine cW3 15 Tryz.func213 ?_;by_cases h1:n>=a;by_cases h2:n<=b;rw [decide_eq_true ⟨h1,h2⟩];refine RT ?_;exact ⟨by simp [h2],rfl⟩;rw [decide_eq_false (λh=>h2 h.2)];refine RT ?_;exact ⟨by simp [h2],rfl⟩;rw [decide_eq_false (λh=>h1 h.1)];refine RT ?_;exact ⟨rfl,rfl⟩
theorem Z4d (d:Int) (w) (h0:0<=d) (h1:d<=9000000000):CC 155 #[.I d] w λr w'=>r=.I (d % 7)/\w'=w:=by
 refine cW1 7 Tryz.func155 ?_;refine RT ?_;exact ⟨by congr 1;omega,rfl⟩
theorem ZeH (y:Int) (w):CC 312 #[.I y] w λr w'=>r=.tuple #[.I (if y<1583\/9999<y then 0 else Z5U y),.I (if y<1583\/9999<y then 5 else 0)]/\Stp [] w w':=by
 refine cW1 77 Tryz.func312 ?_;by_cases hy:y<1583\/9999<y
 . rw [if_pos hy,if_pos hy]
   repeat'(first|refine W1 ?_|omega|refine VG ?_ ?_<;>intro hg|refine VC ?_ ?_<;>intro hc)
   all_goals refine WR ?_
   all_goals exact .mk ⟨rfl,Stp.refl _ _⟩
 rw [if_neg hy,if_neg hy];have hb:=Z7i (y:=y) (by omega) (by omega)
 have he:Z37 (Z3B y=(19 * (y % 19)+y / 100 - y / 100 / 4 - (y / 100 - (y / 100+8) / 25+1) / 3+15) % 30 +
  (32+2 * (y / 100 % 4)+2 * (y % 100 / 4) - (19 * (y % 19)+y / 100 - y / 100 / 4 - (y / 100 - (y / 100+8) / 25+1) / 3+15) % 30 - y % 100 % 4) % 7 -
  7 * ((y % 19+11 * ((19 * (y % 19)+y / 100 - y / 100 / 4 - (y / 100 - (y / 100+8) / 25+1) / 3+15) % 30)+22 * ((32+2 * (y / 100 % 4)+2 * (y % 100 / 4) - (19 * (y % 19)+y / 100 - y / 100 / 4 - (y / 100 - (y / 100+8) / 25+1) / 3+15) % 30 - y % 100 % 4) % 7)) / 451)+114):=⟨rfl⟩
 have g1:0<=y % 19/\y % 19<=18:=by omega
 have g2:15<=y / 100/\y / 100<=99:=by omega
 have g3:0<=y % 100/\y % 100<=99:=by omega
 refine QO ?_;have g4:0<=(19 * (y % 19)+y / 100 - y / 100 / 4 - (y / 100 - (y / 100+8) / 25+1) / 3+15) % 30/\(19 * (y % 19)+y / 100 - y / 100 / 4 - (y / 100 - (y / 100+8) / 25+1) / 3+15) % 30<=29:=by omega
 generalize (19 * (y % 19)+y / 100 - y / 100 / 4 - (y / 100 - (y / 100+8) / 25+1) / 3+15) % 30=H at he g4 ⊢;have g5:0<=(32+2 * (y / 100 % 4)+2 * (y % 100 / 4) - H - y % 100 % 4) % 7/\(32+2 * (y / 100 % 4)+2 * (y % 100 / 4) - H - y % 100 % 4) % 7<=6:=by omega
 refine W ?_;generalize (32+2 * (y / 100 % 4)+2 * (y % 100 / 4) - H - y % 100 % 4) % 7=L at he g5 ⊢;rw [<- he.h];refine Z7 (vs:=[(0,.I y),(1,.I (Z3B y / 31)),(2,.I (Z3B y % 31+1))]) rfl (Z5M _ _ _) rfl ?_;refine Z0 (Z4 rfl (ZN rfl) (Z5n y _ _ _ (by omega) (by omega) (by omega) (by omega) (by omega) (by omega) (by omega))) rfl ?_;rintro _ w1 ⟨rfl,hS⟩;refine RT ?_;exact ⟨rfl,hS⟩
theorem Z2V {y m:Int} (hy:1<=y) (eH:y<=9999) (hm:1<=m) (eG:m<=12):¬ Z28 y m 1/\0<=Z0c y m 1/\Z0c y m 1<=3652058/\28<=ZI y m/\ZI y m<=31:=by
 have hl:=Z2t (y:=y) (k:=(m - 1).toNat) (by omega);rw [show (((m - 1).toNat:Int))+1=m by omega] at hl;have qw:=Z1l y m;have:=dayM_range hy eH hm eG (d:=1) (by omega) (by omega);exact ⟨by unfold Z28;omega,this.1,this.2,hl,qw⟩
theorem Z8O (h:Hol) (y:Int) (w) (hL:Z0z w) (hy:1<=y) (eH:y<=9999) (hm:1<=h.month) (eG:h.month<=12) (hw:0<=h.wd) (j6:h.wd<=6) :
 CC 307 #[agg h,.I y] w λr w'=>r=.tuple #[.I (Z0c y h.month 1),.I (Z45 y h.month h.wd)]/\Stp [] w w':=by
 obtain ⟨f1,f2,f3,f4,f5⟩:=Z2V hy eH hm eG;refine cW2 26 Tryz.func307 ?_;refine W ?_;refine Z0 (Zq rfl) rfl ?_;rintro _ w1 ⟨b,rfl,hb,ac,hS⟩;replace ac:Blk w1 b 138 (Z3.enc h):=ac;replace hL:=hL.up hS;refine W ?_;refine Z7 (vs:=[(0,.I y),(1,.I h.month),(2,.I 1)]) rfl (Z5M _ _ _) rfl ?_;refine CL (Z8j y _ _ _ hL) ?_;rintro _ w2 ⟨rfl,hT⟩;rw [if_neg f1,if_neg f1];replace ac:=ac.up hT;replace hS:=hS.trans hT;clear hT;refine W ?_;refine ZDr 12 [] [] [(0,0),(1,0),(2,0),(3,1),(4,0),(5,2),(6,0),(7,0),(8,0),(9,0),(10,0),(11,0)] (λw1 ae=>?_);replace ac:=ac.up ae;replace hS:=hS.trans ae;clear ae;refine D ?_;refine Za rfl trivial (Z4 rfl (ZN rfl) (Z4d _ _ f2 (by omega))) (λ_ _ h=>by rw [h.2];exact Stp.refl _ _) rfl ?_;rintro _ w3 ⟨rfl,rfl⟩;refine D ?_;refine W ?_;refine WR ?_;refine .mk ⟨?_,hS⟩;unfold Z45;rfl
def Z1O (h:Hol) (y:Int):Int×Bool:=
 if h.kind=1 then (if Z28 y h.month h.day then 0 else Z0c y h.month h.day,!decide (Z28 y h.month h.day))
 else if h.kind=2 then (Z45 y h.month h.wd+7 * (h.nth - 1),decide (Z45 y h.month h.wd+7 * (h.nth - 1)<Z0c y h.month 1+ZI y h.month))
 else if h.kind=3 then (Z45 y h.month h.wd+(Z0c y h.month 1+ZI y h.month - 1 - Z45 y h.month h.wd) / 7 * 7,true)
 else ((if y<1583\/9999<y then 0 else Z5U y)+h.off,!decide (y<1583\/9999<y))
theorem ZtC {h:Hol} {y:Int} (h1:h.first<=y) (h2:y<=h.last):Znu h y=if (Z1O h y).2=true then some (Z1O h y).1 else none:=by
 unfold Znu Z1O;rw [if_neg (by omega)];by_cases k1:h.kind=1;rw [if_pos k1,if_pos k1];by_cases hb:Z28 y h.month h.day;simp [hb];simp [hb];rw [if_neg k1,if_neg k1];by_cases k2:h.kind=2;rw [if_pos k2,if_pos k2];simp;rw [if_neg k2,if_neg k2];by_cases k3:h.kind=3;rw [if_pos k3,if_pos k3];rfl;rw [if_neg k3,if_neg k3];by_cases hy:y<1583\/9999<y;simp [hy];simp [hy]
abbrev Zda (h:Hol) (y:Int):Value:=.tuple #[.I (Z1O h y).1,.B (Z1O h y).2]
theorem Z7j {y:Int} (h1:1583<=y) (h2:y<=9999):1000<=Z5U y/\Z5U y<=3652058:=by
 have hb:=Z7i h1 h2;have e3:ZI y 3=31:=rfl;have e4:ZI y 4=30:=rfl;have hs:=Z3Z h1;have cr:500000<=Z1h 1583:=by decide
 have pB:=ZeG y (Z3B y % 31+1);have pC:Z0c y 3 1=Z1h y+Z2n y 2:=by
  have:=Z2M y 1 2 (by omega);rw [show ((2:Nat):Int)+1=3 by rfl] at this;omega
 have hc:0<=Z2n y 2:=by
  have:=Z4z (y:=y) (Xp 2) (by omega);simpa [Z2n] using this
 unfold Z5U;have hm:Z3B y / 31=3\/Z3B y / 31=4:=by omega
 rcases hm with hm|hm
 rw [hm];exact ⟨by omega,(dayM_range (by omega) h2 (by omega) (by omega) (by omega) (by omega)).2⟩;rw [hm];exact ⟨by omega,(dayM_range (by omega) h2 (by omega) (by omega) (by omega) (by omega)).2⟩
theorem Z3t {y m wd:Int} (hy:1<=y) (eH:y<=9999) (hm:1<=m) (eG:m<=12):Z0c y m 1<=Z45 y m wd/\Z45 y m wd<=Z0c y m 1+6:=by
 unfold Z45;omega
theorem ZeI {h:Hol} {y:Int} (ho:Z2c h) (h1:h.first<=y) (h2:y<=h.last) (hp:(Z1O h y).2=true):0<=(Z1O h y).1/\(Z1O h y).1<=3653000:=by
 have hy:=ho.f1;have eH:=ho.l1;have bG:=ho.k1;have dg:=ho.k2;unfold Z1O at hp ⊢;by_cases k1:h.kind=1;rw [if_pos k1] at hp ⊢;obtain ⟨m1,m2⟩:=ho.month (by omega);by_cases hb:Z28 y h.month h.day;simp [hb] at hp;dsimp only;rw [if_neg hb];unfold Z28 at hb;have:=dayM_range (y:=y) (m:=h.month) (d:=h.day) (by omega) (by omega) (by omega) (by omega) (by omega) (by omega);omega;rw [if_neg k1] at hp ⊢;by_cases k2:h.kind=2;rw [if_pos k2] at hp ⊢;obtain ⟨m1,m2⟩:=ho.month (by omega);obtain ⟨n1,n2⟩:=ho.nth k2;obtain ⟨f1,f2,f3,f4,f5⟩:=Z2V (y:=y) (by omega) (by omega) m1 m2;obtain ⟨f6,f7⟩:=Z3t (y:=y) (wd:=h.wd) (by omega) (by omega) m1 m2;dsimp only;omega;rw [if_neg k2] at hp ⊢;by_cases k3:h.kind=3;rw [if_pos k3] at hp ⊢;obtain ⟨m1,m2⟩:=ho.month (by omega);obtain ⟨f1,f2,f3,f4,f5⟩:=Z2V (y:=y) (by omega) (by omega) m1 m2;obtain ⟨f6,f7⟩:=Z3t (y:=y) (wd:=h.wd) (by omega) (by omega) m1 m2;dsimp only;omega;rw [if_neg k3] at hp ⊢;obtain ⟨o1,o2⟩:=ho.off (by omega);by_cases hy:y<1583\/9999<y;simp [hy] at hp;dsimp only;rw [if_neg hy];have:=Z7j (y:=y) (by omega) (by omega);omega
theorem Zh8 (h:Hol) (y:Int) (w) (hL:Z0z w) (hk:h.kind=1) :
 CC 303 #[agg h,.I y] w λr w'=>r=Zda h y/\Stp [] w w':=by
 have e:Z1O h y=(if Z28 y h.month h.day then 0 else Z0c y h.month h.day,!decide (Z28 y h.month h.day)):=by unfold Z1O;rw [if_pos hk]
 unfold Zda;rw [e];refine cW2 21 Tryz.func303 ?_;refine W ?_;refine Z0 (Zq rfl) rfl ?_;rintro _ w1 ⟨b,rfl,hb,ac,hS⟩;replace ac:Blk w1 b 138 (Z3.enc h):=ac;replace hL:=hL.up hS;refine W ?_;refine Z7 (vs:=[(0,.I y),(1,.I h.month),(2,.I h.day)]) rfl (Z5M _ _ _) rfl ?_;refine CL (Z8j y _ _ _ hL) ?_;rintro _ w2 ⟨rfl,hT⟩;refine W ?_;refine WR ?_;refine .mk ⟨?_,hS.trans hT⟩;by_cases hb:Z28 y h.month h.day<;>simp [hb]
theorem Zh9 (h:Hol) (y:Int) (w) (hL:Z0z w) (hy:1<=y) (eH:y<=9999) (hk:h.kind=2) (ho:Z2c h) :
 CC 306 #[agg h,.I y] w λr w'=>r=Zda h y/\Stp [] w w':=by
 have e:Z1O h y=(Z45 y h.month h.wd+7 * (h.nth - 1),decide (Z45 y h.month h.wd+7 * (h.nth - 1)<Z0c y h.month 1+ZI y h.month)):=by unfold Z1O;rw [if_neg (by omega),if_pos hk]
 obtain ⟨m1,m2⟩:=ho.month (by omega);obtain ⟨d1,d2⟩:=ho.wd (.inl hk);obtain ⟨n1,n2⟩:=ho.nth hk;obtain ⟨f1,f2,f3,f4,f5⟩:=Z2V hy eH m1 m2;obtain ⟨f6,f7⟩:=Z3t (wd:=h.wd) hy eH m1 m2;unfold Zda;rw [e];refine cW2 29 Tryz.func306 ?_;refine W ?_;refine Z0 (Zq rfl) rfl ?_;rintro _ w1 ⟨b,rfl,hb,ac,hS⟩;replace ac:Blk w1 b 138 (Z3.enc h):=ac;replace hL:=hL.up hS;refine W ?_;refine CL (Z8O h y _ hL hy eH m1 m2 d1 d2) ?_;rintro _ w2 ⟨rfl,hT⟩;replace ac:=ac.up hT;replace hL:=hL.up hT;replace hS:=hS.trans hT;refine W ?_;refine CM (Zf rfl rfl) (Z3k y _ _ hL (by omega) (by omega)) ?_;rintro _ _ ⟨rfl,rfl⟩;refine RT ?_;exact ⟨rfl,hS⟩
theorem Zha (h:Hol) (y:Int) (w) (hL:Z0z w) (hy:1<=y) (eH:y<=9999) (hk:h.kind=3) (ho:Z2c h) :
 CC 309 #[agg h,.I y] w λr w'=>r=Zda h y/\Stp [] w w':=by
 have e:Z1O h y=(Z45 y h.month h.wd+(Z0c y h.month 1+ZI y h.month - 1 - Z45 y h.month h.wd) / 7 * 7,true):=by unfold Z1O;rw [if_neg (by omega),if_neg (by omega),if_pos hk]
 obtain ⟨m1,m2⟩:=ho.month (by omega);obtain ⟨d1,d2⟩:=ho.wd (.inr hk);obtain ⟨f1,f2,f3,f4,f5⟩:=Z2V hy eH m1 m2;obtain ⟨f6,f7⟩:=Z3t (wd:=h.wd) hy eH m1 m2;unfold Zda;rw [e];refine cW2 29 Tryz.func309 ?_;refine W ?_;refine Z0 (Zq rfl) rfl ?_;rintro _ w1 ⟨b,rfl,hb,ac,hS⟩;replace ac:Blk w1 b 138 (Z3.enc h):=ac;replace hL:=hL.up hS;refine W ?_;refine CL (Z8O h y _ hL hy eH m1 m2 d1 d2) ?_;rintro _ w2 ⟨rfl,hT⟩;replace ac:=ac.up hT;replace hL:=hL.up hT;replace hS:=hS.trans hT;refine W ?_;refine CM (Zf rfl rfl) (Z3k y _ _ hL (by omega) (by omega)) ?_;rintro _ _ ⟨rfl,rfl⟩;refine RT ?_;exact ⟨rfl,hS⟩
theorem Zhb (h:Hol) (y:Int) (w) (hk:h.kind=4) (ho:Z2c h) :
 CC 311 #[agg h,.I y] w λr w'=>r=Zda h y/\Stp [] w w':=by
 have e:Z1O h y=((if y<1583\/9999<y then 0 else Z5U y)+h.off,!decide (y<1583\/9999<y)):=by unfold Z1O;rw [if_neg (by omega),if_neg (by omega),if_neg (by omega)]
 obtain ⟨o1,o2⟩:=ho.off hk;have hr:0<=(if y<1583\/9999<y then 0 else Z5U y)/\(if y<1583\/9999<y then 0 else Z5U y)<=3652058:=by
  split;omega;have:=Z7j (y:=y) (by omega) (by omega);omega
 unfold Zda;rw [e];refine cW2 19 Tryz.func311 ?_;refine W ?_;refine Z0 (Zq rfl) rfl ?_;rintro _ w1 ⟨b,rfl,hb,ac,hS⟩;replace ac:Blk w1 b 138 (Z3.enc h):=ac;refine W ?_;refine CL (ZeH y _) ?_;rintro _ w2 ⟨rfl,hT⟩;replace ac:=ac.up hT;replace hS:=hS.trans hT;refine W ?_;refine WR ?_;refine .mk ⟨?_,hS⟩;by_cases hy:y<1583\/9999<y<;>simp [hy]
theorem ZeJ (g:Nat) (fn:Func) [Fun Tryz.prog g fn] (lb:Array Value) (c:Spn->Spn->Int) (ho:Ord c) (X:List Nat) (base:Nat) (v:Value) (xs:List Spn) (w:World) (hX:∀ b∈X,b<base) (aX:base<=w.heap.size) (ab:Row X w base 345 v xs) (hp:ZnK Tryz.prog (ob v) g lb c w) (ai:xs.length<=1000) :
 CC 360 #[v,.I 0,.I xs.length,.func (.func g) #[] lb] w λr w'=>∃ ys,Za6 c xs ys/\Row X w' base 345 v ys/\Stp (ob v) w w':=by
 refine cW4 53 Tryz.func360 ?_;refine W ?_
 refine Zt (σ:=Nat) (λi=>[(0,v),(1,.I 0),(2,.I xs.length),(3,.func (.func g) #[] lb),(8,.I (i+1))])
  (λi w'=>Stp (ob v) w w'/\∃ ys,ys.Perm xs/\Row X w' base 345 v ys/\(ys.take (i+1)).Pairwise (λa b=>¬ c b a<0)) (λi=>xs.length - i) 0 ⟨rfl,rfl,rfl,rfl,rfl,trivial⟩
  ⟨Stp.refl _ _,xs,Yaj _,ab,?_⟩ ?_
 . cases xs with
   | nil=>simp
   | cons x r=>simp
 rintro i w1 ⟨hS,ys,iU,ab,kw⟩;have fR:=iU.length_eq;by_cases pl:i+1<xs.length
 . repeat'(first|refine W1 ?_|refine VG ?_ ?_<;>intro hg|refine VC ?_ ?_<;>intro hc)
   rotate_left
   omega;obtain ⟨pre,x,rest,bZ,rfl⟩:∃ pre x rest,pre.length=i+1/\ys=put pre rest x pre.length:=by
    refine ⟨ys.take (i+1),ys[i+1],ys.drop (i+2),by simp;omega,?_⟩;unfold put;have hl:(ys.take (i+1)).length=i+1:=by simp;omega
    rw [hl,YaI,Nat.min_self,YaD (by omega)]
    conv=>lhs;rw [<- XO (i+1) ys,Yac (by omega)]
    simp
   have cw:pre.Pairwise (λa b=>¬ c b a<0):=by
    have:(put pre rest x pre.length).take (i+1)=pre:=by
     unfold put;rw [Xo,Ya0,XA,<- bZ,YbI];rfl
    rwa [this] at kw
   have v8:pre.length+1+rest.length=xs.length:=by rw [<- fR,Zbp]
   have fin:∀ j (w':World),j<=pre.length->Stp (ob v) w w'->Row X w' base 345 v (put pre rest x j)->(∀ q (h:q<pre.length),j<=q->c x pre[q]<0)->(∀ h:j - 1<pre.length,0<j->¬ c x pre[j - 1]<0)->
    Stp (ob v) w w'/\∃ ys,ys.Perm xs/\Row X w' base 345 v ys/\(ys.take (i+1+1)).Pairwise (λa b=>¬ c b a<0):=by
    intro j w' hj hS ab h1 h2;refine ⟨hS,put pre rest x j,?_,ab,?_⟩;refine List.Perm.trans ?_ iU;unfold put;rw [Xo,Ya0];refine List.Perm.append_right _ ?_;refine List.Perm.trans List.perm_middle ?_;rw [XO];exact (List.perm_append_singleton x pre).symm;have e:(put pre rest x j).take (i+1+1)=pre.take j++x :: pre.drop j:=by
     have hl:(pre.take j++x :: pre.drop j).length=i+1+1:=by
      have:=congrArg List.length (XO j pre);simp only [Xd] at this;simp only [Xd,Xe];omega
     unfold put;rw [<- hl,YbI];rfl
    rw [e];exact ZeF ho hj cw h1 h2
   refine Zt (σ:=Nat) (λj=>[(0,v),(1,.I 0),(2,.I xs.length),(3,.func (.func g) #[] lb),(8,.I (i+1)),(9,.I (j:Int))])
    (λj w'=>j<=pre.length/\Stp (ob v) w w'/\Row X w' base 345 v (put pre rest x j)/\(∀ q (h:q<pre.length),j<=q->c x pre[q]<0)) (λj=>j) (i+1) ⟨rfl,rfl,rfl,rfl,rfl,rfl,trivial⟩
    ⟨by omega,hS,by rw [bZ] at ab;exact ab,λq h hq=>by omega⟩ ?_
   clear ab hS;rintro j w2 ⟨hj,hS,ab,hlt⟩;have hs:=ab.slv hX;cases j with
   | zero=>
     refine W ?_;refine ZDr 17 [] [] [(0,0),(1,0),(2,0),(3,0),(4,0),(5,0),(6,0),(7,0),(8,1),(9,0),(10,0),(11,0),(12,0),(13,1),(14,2),(15,0),(16,0)] (λw1 ae=>?_);replace hS:=hS.trans ae.mn;replace ab:=ab.up ae;replace hs:=hs.up ae;refine D ?_;refine W ?_;exact QL (i+1) (fin 0 _ (Xp _) hS ab hlt (λ_ h=>absurd h (Nat.lt_irrefl _))) (by omega)
   | succ j=>
     have hz:((j+1:Nat):Int) - 1=(j:Int):=by omega
     have bM:j+1<(put pre rest x (j+1)).length:=by rw [Zbp];omega
     have fx:j<(put pre rest x (j+1)).length:=by rw [Zbp];omega
     have a1:=ZtB (rest:=rest) (x:=x) hj bM;have a0:=ZeE (rest:=rest) (x:=x) (Nat.lt_of_succ_le hj) fx;refine W ?_;refine ZDr 17 [] [] [(0,0),(1,0),(2,0),(3,0),(4,0),(5,0),(6,0),(7,0),(8,1),(9,0),(10,0),(11,0),(12,0),(13,1),(14,2),(15,0),(16,0)] (λw1 ae=>?_);replace hS:=hS.trans ae.mn;replace ab:=ab.up ae;replace hs:=hs.up ae;refine QD ?_;refine Za rfl (by first|exact trivial|exact rfl) (Z0l (f:=g) rfl (Zf rfl rfl) rfl (hp _ _ _ hS)) (λ_ _ h=>h.2) rfl ?_;rintro _ w3 ⟨rfl,am⟩;rw [a1,a0];replace hS:=hS.trans am.mn;replace ab:=ab.up am;replace hs:=hs.up am;refine D ?_
     (refine QP ?_ ?_<;>intro hc)
     rename_i hc;refine ZDr 18 [] [15,17] [(0,0),(1,0),(2,0),(3,0),(4,0),(5,0),(6,0),(7,0),(8,0),(9,1),(10,0),(11,0),(12,0),(13,1),(14,0),(15,2),(16,0),(17,2)] (λw1 ae=>?_);replace hS:=hS.trans ae.mn;replace ab:=ab.up ae;replace hs:=hs.up ae;refine D ?_;rw [a1,a0];refine Jr rfl trivial (Z34 (i:=j+1) (y':=pre[j]) rfl rfl rfl rfl ab hX bM) rfl ?_;rintro _ w4 ⟨ab,aI⟩;replace hS:=hS.trans aI;refine D ?_;refine Jr rfl trivial (Z34 (i:=j) (y':=x) rfl rfl rfl rfl ab hX (by rw [X4];exact fx)) rfl ?_;rintro _ w5 ⟨ab,aD⟩;replace hS:=hS.trans aD;rw [ZkP (Nat.lt_of_succ_le hj)] at ab;refine D ?_;refine W ?_;refine Zs j ⟨rfl,rfl,rfl,rfl,rfl,(by rw [<- hz];rfl),trivial⟩ ⟨by omega,hS,ab,λq h hq=>?_⟩ (by omega);by_cases e:q=j;subst e;exact hc;exact hlt q h (by omega);exact QL (i+1) (fin (j+1) _ hj hS ab hlt (λ_ _=>by assumption)) (by omega)
 focus repeat'(first|refine W1 ?_|refine VG ?_ ?_<;>intro hg|refine VC ?_ ?_<;>intro hc)
 omega;refine WR ?_;refine .mk ⟨ys,⟨iU,?_⟩,ab,hS⟩
 rwa [XJ (by omega)] at kw
theorem ZnM (g:Nat) (fn:Func) [Fun Tryz.prog g fn] (lb:Array Value) (c:Spn->Spn->Int) (ho:Ord c) (X:List Nat) (base:Nat) (v:Value) (xs:List Spn) (w:World) (hX:∀ b∈X,b<base) (aX:base<=w.heap.size) (ab:Row X w base 345 v xs) (hp:ZnK Tryz.prog (ob v) g lb c w) (ai:xs.length<20) :
 CC 347 #[v,.I xs.length,.func (.func g) #[] lb] w λr w'=>∃ ys,Za6 c xs ys/\Row X w' base 345 v ys/\Stp (ob v) w w':=by
 have nl:¬ ((20:Int)<=xs.length):=by omega
 have nl2:¬ ((20:Int)<xs.length):=by omega
 refine cW3 63 Tryz.func347 ?_;refine W ?_;refine Zt (σ:=Unit) (λ_=>[(0,v),(1,.I xs.length),(2,.func (.func g) #[] lb),(6,.I 20),(7,.I 0),(8,.I 20)]) (λ_ w'=>w'=w) (λ_=>0) () ⟨rfl,rfl,rfl,rfl,rfl,rfl,trivial⟩ rfl ?_;rintro _ w' rfl;repeat'(first|refine W1 ?_|refine VG ?_ ?_<;>intro hg|refine VC ?_ ?_<;>intro hc)
 exact absurd (by assumption) nl;refine CM (Z7v rfl rfl rfl rfl) (ZeJ g fn lb c ho X base v xs _ hX aX ab hp (by omega)) ?_;rintro r w2 aA;refine W ?_;refine Zt (σ:=Unit) (λ_=>[(1,.I xs.length),(6,.I 20)]) (λ_ w'=>w'=w2) (λ_=>0) () ⟨rfl,rfl,trivial⟩ rfl ?_;rintro _ w' rfl;repeat'(first|refine W1 ?_|refine VG ?_ ?_<;>intro hg|refine VC ?_ ?_<;>intro hc)
 exact absurd (by assumption) nl2;refine WR ?_;exact .mk aA
theorem Zdb (g:Nat) (fn:Func) [Fun Tryz.prog g fn] (lb:Array Value) (c:Spn->Spn->Int) (ho:Ord c) (X:List Nat) (base:Nat) (v:Value) (xs:List Spn) (w:World) (hX:∀ b∈X,b<base) (aX:base<=w.heap.size) (ab:Row X w base 345 v xs) (hp:ZnK Tryz.prog (ob v) g lb c w) (ai:xs.length<20) :
 CC 318 #[v,.func (.func g) #[] lb] w λr w'=>∃ ys,Za6 c xs ys/\Row X w' base 345 v ys/\Stp (ob v) w w':=by
 have hs:=ab.slv hX;refine cW2 9 Tryz.func318 ?_;refine W ?_;refine CL (ZnM g fn lb c ho X base v xs _ hX aX ab hp ai) ?_;rintro r w2 aA;refine W ?_;refine WR ?_;exact .mk aA
def Zdc (x y:Spn):Int:=ZkO x.1 y.1
theorem Zy7:Ord Zdc where
 asym:=λa b=>by unfold Zdc;rw [Z61,Z61];omega
 trans:=λa b d=>by unfold Zdc;rw [Z61,Z61,Z61];omega
theorem Zx8 (S:List Nat) (w):ZnK Tryz.prog S 319 #[] Zdc w:=by
 intro x y w1 hS;show Calls _ _ #[agg x,agg y] _ _;refine cW2 10 Tryz.func319 ?_;refine W ?_;refine Z0 (Zq rfl) rfl ?_;rintro _ w2 ⟨c,rfl,hc,ac,ah⟩;replace ac:Blk w2 c _ (Z3.enc x):=ac;refine Z0 (Zq rfl) rfl ?_;rintro _ w3 ⟨c2,rfl,ci,aQ,am⟩;replace aQ:Blk w3 c2 _ (Z3.enc y):=aQ;replace ac:=ac.up am;replace ah:=ah.trans am;refine W ?_;refine CL (Zd9 _ _ _) ?_;rintro _ w4 ⟨rfl,aI⟩;refine RT ?_;exact ⟨rfl,ah.trans aI⟩
def ofH (y:Int) (h:Hol) (i:Int):List Spn:=match Z2u h y with|some d=>[(d,i)]|none=>[]
def ofK (y:Int):List Hol->Int->List Spn
 | [],_=>[]
 | h :: r,i=>ofH y h i++ofK y r (i+1)
theorem ZfL (y:Int):∀ (a b:List Hol) (i:Int),ofK y (a++b) i=ofK y a i++ofK y b (i+a.length)
 | [],b,i=>by simp [ofK]
 | h :: a, b, i => by
   simp only [XC,ofK,ZfL y a b (i+1),XA,Xe];congr 3;omega
theorem ZfM (y d:Int):∀ (l:List Hol) (i:Int),(∃ r,(d,r)∈ofK y l i)↔∃ h∈l,Z2u h y=some d
 | [],i=>by simp [ofK]
 | h :: l, i => by
   simp only [ofK,Xg,Xb,exists_or,exists_eq_or_imp];have ih:=ZfM y d l (i+1);constructor;rintro (⟨r,hr⟩|hr)
   . left
     unfold ofH at hr;cases hk:Z2u h y with
     | none=>rw [hk] at hr;simp at hr
     | some d'=>rw [hk] at hr;simp at hr;rw [hr.1]
   right;exact ih.1 hr;rintro (hk|hk)
   left;exact ⟨i,by unfold ofH;rw [hk];simp⟩
   right;exact ih.2 hk
theorem Z7M (y:Int):∀ (l:List Hol) (i:Int),(ofK y l i).length<=l.length
 | [],i=>by simp [ofK]
 | h :: l, i => by
   have:=Z7M y l (i+1);simp only [ofK,Xd,Xe];unfold ofH;cases Z2u h y<;>simp<;>omega
abbrev fnV (f:Nat):Value:=.func (.func f) #[] #[]
abbrev Z5t:List Value:=[fnV 302,fnV 303,fnV 305,fnV 306,fnV 308,fnV 309,fnV 310,fnV 311]
theorem Zbq (f g:Nat) (w):(Instr.build 324 #[(0,fnV f),(1,fnV g)]).run Tryz.prog w=.ok (.agg #[fnV f,fnV g]) w:=by kernel_rfl
theorem ZnN (a b c d e f g h:Nat) (w):(Instr.build 325 #[(0,.agg #[fnV a,fnV b]),(1,.agg #[fnV c,fnV d]),(2,.agg #[fnV e,fnV f]),(3,.agg #[fnV g,fnV h])]).run Tryz.prog w=.ok (.agg #[fnV a,fnV b,fnV c,fnV d,fnV e,fnV f,fnV g,fnV h]) w:=by kernel_rfl
theorem Za7 (w):CC 253 #[] w λr w'=>r=.agg Z5t.toArray/\Stp [] w w':=by
 refine cW0 6 Tryz.func253 ?_;refine W ?_;refine Z0 Z2 rfl ?_;rintro _ w1 ⟨b,rfl,hb,ac,hS⟩;refine W ?_;refine Z7 (vs:=[(0,fnV 302),(1,fnV 303)]) rfl (Zbq _ _) rfl ?_;refine Z7 (vs:=[(0,fnV 305),(1,fnV 306)]) rfl (Zbq _ _) rfl ?_;refine Z7 (vs:=[(0,fnV 308),(1,fnV 309)]) rfl (Zbq _ _) rfl ?_;refine Z7 (vs:=[(0,fnV 310),(1,fnV 311)]) rfl (Zbq _ _) rfl ?_;refine Z7 (vs:=[(0,.agg #[fnV 302,fnV 303]),(1,.agg #[fnV 305,fnV 306]),(2,.agg #[fnV 308,fnV 309]),(3,.agg #[fnV 310,fnV 311])]) rfl (ZnN _ _ _ _ _ _ _ _) rfl ?_;refine SB (us:=Z5t) (by intro u hu;simp [Z5t] at hu;rcases hu with rfl|rfl|rfl|rfl|rfl|rfl|rfl|rfl<;>rfl) ac ?_;rintro _ w2 ⟨hT,aQ⟩;refine W ?_;refine J3 rfl rfl rfl aQ rfl ?_;exact .mk ⟨rfl,hS.ow hT⟩
theorem ZnO {m d:Int} (h0:0<=m) (h2:m<=2) (hd:0<=d):Z6D[0+m.toNat * 7+(d % 7).toNat * 1]?=some (Z46 m d - d):=by
 have hm:m=0\/m=1\/m=2:=by omega
 have hw:d % 7=0\/d % 7=1\/d % 7=2\/d % 7=3\/d % 7=4\/d % 7=5\/d % 7=6:=by omega
 unfold Z46;rcases hm with rfl|rfl|rfl<;>rcases hw with h|h|h|h|h|h|h<;>rw [h]<;>simp [Z6D]<;>omega
theorem Zhc (m d:Int):d - 1<=Z46 m d/\Z46 m d<=d+2:=by
 unfold Z46;repeat' split
 all_goals omega
theorem ZnP (a b:Int) (w):(Instr.build 345 #[(0,.I a),(1,.I b)]).run Tryz.prog w=.ok (agg ((a,b):Spn)) w:=by kernel_rfl
theorem ZkR (d:Spn) (w):(Instr.buildSlice 342 1 #[(0,agg d)]).run Tryz.prog w=.ok (.slice (some ⟨w.heap.size,0,none⟩) 1 1) (w.alloc (.cells (Z3.enc d).toArray 345)):=by kernel_rfl
theorem ZnQ (v:Value) (l:List Hol) (y:Int) (w) (hs:SlV [] w v l) (hL:Z0z w) (hM:Z2R w) (ho:∀ h∈l,Z2c h) (hl:l.length<20) :
 CC 272 #[v,.I y] w λr w'=>∃ ys,Za6 Zdc (ofK y l 0) ys/\ZF 345 w w' r ys:=by
 refine cW2 61 Tryz.func272 ?_;refine W ?_;refine CL (Za7 _) ?_;rintro _ w1 ⟨rfl,hS⟩;refine Z0 Z2 rfl ?_;rintro _ w2 ⟨b6,rfl,ez,e6,ah⟩;refine W ?_;refine SB (us:=Z5t) (by intro u hu;simp [Z5t] at hu;rcases hu with rfl|rfl|rfl|rfl|rfl|rfl|rfl|rfl<;>rfl) e6 ?_;rintro _ w3 ⟨hT,k6⟩;replace hS:=hS.trans (ah.ow hT);clear e6 ah hT;replace hs:=hs.up hS;replace hL:=hL.up hS;replace hM:=hM.up hS;refine W ?_
 refine Zt (σ:=Nat×Value) (λq=>[(0,v),(1,.I y),(5,q.2),(6,pQ b6),(12,v),(13,.I (l.length:Int)),(14,.I (q.1:Int))])
  (λq w'=>q.1<=l.length/\ZF 345 w3 w' q.2 (ofK y (l.take q.1) 0)) (λq=>l.length - q.1) (0,.N) ⟨rfl,rfl,rfl,rfl,rfl,rfl,rfl,trivial⟩ ⟨Xp _,ZF.nil⟩ ?_
 rintro ⟨k,ov⟩ w4 ⟨hk,hr⟩;dsimp only at hk hr ⊢;have aI:=hr.2;replace hs:=hs.up aI;replace hL:=hL.up aI;replace hM:=hM.up aI;replace k6:=k6.up aI;by_cases hlt:k<l.length;have ht:l.take (k+1)=l.take k++[l[k]]:=Xi hlt;have tO:ofK y (l.take (k+1)) 0=ofK y (l.take k) 0++ofH y l[k] (k:Int):=by
  rw [ht,ZfL];simp only [ofK,XG,Xx,Yae hk];simp
 have aP:=ho l[k] (Xc hlt);refine QO ?_;refine Z0 Z2 rfl ?_;rintro _ w5 ⟨b8,rfl,fL,e8,aD⟩;refine W ?_;refine SA (us:=Z3.enc l[k]) e8 ?_;rintro _ w6 ⟨hT,k8⟩;replace aD:=aD.ow hT;clear e8 hT;replace hr:=hr.up aD;replace hs:=hs.up aD;replace hL:=hL.up aD;replace hM:=hM.up aD;replace k6:=k6.up aD;clear aD;refine W ?_;refine CL (Z2x y l[k].first l[k].last _) ?_;rintro _ w6 ⟨rfl,rfl⟩;have again:∀ (w':World),Z2u l[k] y=none->Stp [] w6 w'->ZF 345 w3 w' ov (ofK y (l.take (k+1)) 0):=by
  intro w' hn dD;rw [tO];unfold ofH;rw [hn,XG];exact hr.up dD
 by_cases bJ:l[k].first<=y/\y<=l[k].last;rw [decide_eq_true bJ];have fK:=ZtC bJ.1 bJ.2;have rA:=aP.f1;have eH:=aP.l1;refine W ?_
 refine JK (σ:=Unit) (λ_=>[(0,v),(1,.I y),(5,ov),(6,pQ b6),(7,.I (k:Int)),(8,pQ b8),(9,.I (Z1O l[k] y).1),(10,.B (Z1O l[k] y).2),(12,v),(13,.I (l.length:Int)),(14,.I (k:Int))])
  (λ_ w'=>Stp [] w6 w') ?_ ?_
 have d9:l[k].kind=1\/l[k].kind=2\/l[k].kind=3\/l[k].kind=4:=by have:=aP.k1;have:=aP.k2;omega
 rcases d9 with d9|d9|d9|d9
 refine ZDr 14 [] [] [(0,0),(1,1),(2,0),(3,0),(4,0),(5,1),(6,1),(7,0),(8,2),(9,0),(10,0),(11,0),(12,0),(13,0)] (λw1 ae=>?_);replace k6:=k6.up ae;replace k8:=k8.up ae;replace hL:=hL.up ae;have hz:l[k].kind - 1=((0:Nat):Int):=by omega
 refine D ?_;refine Z20 rfl (Z4v (len:=4) (i:=0) trivial rfl rfl hz (by decide) rfl ?_);refine D ?_;refine Za rfl trivial (Z4 rfl (Zf rfl rfl) (Zh8 _ _ _ hL d9)) (λ_ _ h=>h.2) rfl ?_;rintro _ w7 ⟨rfl,aR⟩;refine D ?_;exact QT () (ae.trans aR);refine ZDr 14 [] [] [(0,0),(1,1),(2,0),(3,0),(4,0),(5,1),(6,1),(7,0),(8,2),(9,0),(10,0),(11,0),(12,0),(13,0)] (λw1 ae=>?_);replace k6:=k6.up ae;replace k8:=k8.up ae;replace hL:=hL.up ae;have hz:l[k].kind - 1=((1:Nat):Int):=by omega
 refine D ?_;refine Z20 rfl (Z4v (len:=4) (i:=1) trivial rfl rfl hz (by decide) rfl ?_);refine D ?_;refine Za rfl trivial (Z4 rfl (Zf rfl rfl) (Zh9 _ _ _ hL (by omega) (by omega) d9 aP)) (λ_ _ h=>h.2) rfl ?_;rintro _ w7 ⟨rfl,aR⟩;refine D ?_;exact QT () (ae.trans aR);refine ZDr 14 [] [] [(0,0),(1,1),(2,0),(3,0),(4,0),(5,1),(6,1),(7,0),(8,2),(9,0),(10,0),(11,0),(12,0),(13,0)] (λw1 ae=>?_);replace k6:=k6.up ae;replace k8:=k8.up ae;replace hL:=hL.up ae;have hz:l[k].kind - 1=((2:Nat):Int):=by omega
 refine D ?_;refine Z20 rfl (Z4v (len:=4) (i:=2) trivial rfl rfl hz (by decide) rfl ?_);refine D ?_;refine Za rfl trivial (Z4 rfl (Zf rfl rfl) (Zha _ _ _ hL (by omega) (by omega) d9 aP)) (λ_ _ h=>h.2) rfl ?_;rintro _ w7 ⟨rfl,aR⟩;refine D ?_;exact QT () (ae.trans aR);refine ZDr 14 [] [] [(0,0),(1,1),(2,0),(3,0),(4,0),(5,1),(6,1),(7,0),(8,2),(9,0),(10,0),(11,0),(12,0),(13,0)] (λw1 ae=>?_);replace k6:=k6.up ae;replace k8:=k8.up ae;replace hL:=hL.up ae;have hz:l[k].kind - 1=((3:Nat):Int):=by omega
 refine D ?_;refine Z20 rfl (Z4v (len:=4) (i:=3) trivial rfl rfl hz (by decide) rfl ?_);refine D ?_;refine Za rfl trivial (Z4 rfl (Zf rfl rfl) (Zhb _ _ _ d9 aP)) (λ_ _ h=>h.2) rfl ?_;rintro _ w7 ⟨rfl,aR⟩;refine D ?_;exact QT () (ae.trans aR)
 . rintro _ w7 aR
   clear k6;replace k8:=k8.up aR;replace hM:=hM.up aR;cases hp:(Z1O l[k] y).2 with
   | false=>
     rw [hp] at fK;refine W ?_;exact QL (k+1,ov) ⟨hlt,again _ (by unfold Z2u;rw [fK];rfl) aR⟩ (by dsimp only;omega)
   | true=>
     rw [hp] at fK;obtain ⟨n1,n2⟩:=ZeI aP bJ.1 bJ.2 hp;have rB:=aP.m1;have rC:=aP.m2;have la:=ZnO rB rC n1;have tP:=Zhc l[k].move (Z1O l[k] y).1;have dY:Z2u l[k] y=if ZL (Z46 l[k].move (Z1O l[k] y).1)=true then some (Z46 l[k].move (Z1O l[k] y).1) else none:=by
      unfold Z2u;rw [fK];rfl
     generalize (Z1O l[k] y).1=d at *;refine W ?_;refine ZDr 10 [] [] [(0,0),(1,0),(2,1),(3,0),(5,0),(4,2),(6,0),(7,1),(8,0),(9,0)] (λw1 ae=>?_);replace k8:=k8.up ae;replace hM:=hM.up ae;replace aR:=aR.trans ae;clear ae;refine D ?_;refine Z20 rfl (Z4v (len:=3) (i:=l[k].move.toNat) trivial rfl rfl (by omega) (by omega) rfl ?_);refine D ?_;refine Za rfl trivial (Z4 rfl (ZN rfl) (Z4d _ _ n1 (by omega))) (λ_ _ h=>by rw [h.2];exact Stp.refl _ _) rfl ?_;rintro _ w8 ⟨rfl,rfl⟩;refine D ?_;refine Z20 rfl (Z4v (len:=7) (i:=(d % 7).toNat) trivial rfl rfl (by omega) (by omega) rfl ?_);refine D ?_;refine ZP rfl trivial (λw' aN=>JC rfl rfl (hM.up aN _ _ la)) rfl ?_;refine D ?_;have ed:d+(Z46 l[k].move d - d)=Z46 l[k].move d:=by omega
     rw [ed];refine W ?_;refine CL (Z2x (Z46 l[k].move d) 0 3652058 _) ?_;rintro _ _ ⟨rfl,rfl⟩;by_cases h2:0<=Z46 l[k].move d/\Z46 l[k].move d<=3652058;rw [decide_eq_true h2];rw [if_pos (ZM.2 h2)] at dY;have iB:=Z7M y (l.take k) 0;have wl:(l.take k).length<=l.length:=by rw [Xx];omega
     replace hr:=hr.up aR;refine W ?_;refine Z7 (vs:=[(0,.I (Z46 l[k].move d)),(1,.I (k:Int))]) rfl (ZnP _ _) rfl ?_;refine Z0 (Z1 (vs:=[(0,agg ((Z46 l[k].move d,(k:Int)):Spn))]) rfl (ZkR _)) rfl ?_;rintro bv w9 hN;have gC:=Z9.stp hN;have an:SlV (ob ov) w9 bv [((Z46 l[k].move d,(k:Int)):Spn)]:=hN.slv (λb hb=>(hr.1.ob_le b hb).2) rfl rfl (by simp [maxLen]);replace hr:=hr.up gC;refine Z0 (JE rfl (by decide) rfl rfl hr an (by simp only [Xe,Xf];omega) (by simp only [Xe,Xf,maxLen];omega)) rfl ?_;rintro ov' w10 ⟨dm,eu,wm⟩;refine W ?_;refine QL (k+1,ov') ⟨hlt,?_⟩ (by dsimp only;omega);dsimp only;rw [tO];unfold ofH;rw [dY];exact dm;rw [decide_eq_false h2];rw [if_neg (λh=>h2 (ZM.1 h))] at dY;refine W ?_;exact QL (k+1,ov) ⟨hlt,again _ dY aR⟩ (by dsimp only;omega)
 rw [decide_eq_false bJ];refine W ?_;exact QL (k+1,ov) ⟨hlt,again _ (by unfold Z2u Znu;rw [if_pos (by omega)];rfl) (Stp.refl _ _)⟩ (by dsimp only;omega);have dg:k=l.length:=by omega
 subst dg;rw [Xo] at hr;have ai:=Z7M y l 0;refine QO ?_;refine CM (Zf rfl rfl) (Zdb 319 _ #[] Zdc Zy7 [] w3.heap.size ov _ _ (by simp) hr.2.size hr.1 (Zx8 _ _) (by omega)) ?_;rintro _ w7 ⟨ys,ew,iV,aR⟩;refine RT ?_;exact ⟨ys,ew,iV.lower hS.size,(hS.trans hr.2).own aR (λc hc=>.inr (Xh hS.size (hr.1.ob_le c hc).1))⟩
end Go.Proofs.YtipfkbkkndacjaaGreatDoor
namespace Go.Eng
open Go Go.RowKit Go.Proofs
variable {P:Program} {n:Nat} {Q:Exit->Act->World->Prop} {e:Env} {w:World}
theorem Z62 {i:Nat} {A B:Exit->Act->World->Prop} (h:∀ ex a w,A ex a w->B ex a w):∀ ex a w,Exit.inBlock i A ex a w->Exit.inBlock i B ex a w:=by
 intro ex a w hq;cases ex with
 | exit j=>
   simp only [Exit.inBlock] at hq ⊢;split;rename_i hj;rw [if_pos hj] at hq;exact h _ _ _ hq;rename_i hj;rw [if_neg hj] at hq;exact h _ _ _ hq
 | normal=>exact h _ _ _ hq
 | ret=>exact h _ _ _ hq
 | goto t=>exact h _ _ _ hq
 | panic c=>exact h _ _ _ hq
 | outgrown=>exact h _ _ _ hq
theorem ZkS {x y:Code} {σ:Type} {i j:Nat} (env:σ->Env) (I:σ->World->Prop)
 (h:WC P n x (Exit.inBlock i (Exit.inBlock j (Exit.then (λa w=>∃ s,Has n (env s) a/\I s w) Q))) e w) (k:∀ s w,I s w->WC P n y Q (env s) w):WC P n x (Exit.inBlock i (Exit.inBlock j (Exit.then (λa w=>y.wp P Q a w) Q))) e w:=
 ⟨λa ha => wp_mono (h.h a ha) (Z62 (Z62 (λex a w hq => by
   cases ex with
   | normal=>obtain ⟨s,h1,h2⟩:=hq;exact (k s w h2).h a h1
   | _=>exact hq)))⟩
end Go.Eng
namespace Go.Proofs.YtipfkbkkndacjaaGreatDoor
open Go Go.Eng Go.RowKit
def inR (a b:Int) (zs:List Int):List Int:=zs.filter λd=>decide (a<=d/\d<=b)
theorem ZnR (a b:Int) (x y:List Int):inR a b (x++y)=inR a b x++inR a b y:=by unfold inR;rw [Ya8]
theorem ZkT {y:Int} {l:List Hol} {ys:List Spn} (h:Za6 Zdc (ofK y l 0) ys) (d:Int):d∈ys.map Prod.fst↔∃ h∈l,Z2u h y=some d:=by
 rw [<- ZfM y d l 0,XH];constructor;rintro ⟨⟨a,r⟩,h1,rfl⟩;exact ⟨r,h.1.mem_iff.1 h1⟩;rintro ⟨r,hr⟩;exact ⟨(d,r),h.1.mem_iff.2 hr,rfl⟩
theorem ZkU {y:Int} {l:List Hol} {ys:List Spn} (h:Za6 Zdc (ofK y l 0) ys):ys.length<=l.length:=by
 rw [h.1.length_eq];exact Z7M y l 0
theorem Zdd (v:Value) (l:List Hol) (a b:Int) (w) (hs:SlV [] w v l) (hL:Z0z w) (hM:Z2R w) (ho:∀ h∈l,Z2c h) (hl:l.length<20) (ha:0<=a) (cU:a<=b) (hb:b<=3652058) (yx:(ofM a).y<=(ofM b).y) :
 CC 214 #[v,.I a,.I b] w λr w'=>∃ zs:List Int,(∀ d,d∈zs↔a<=d/\d<=b/\∃ y,(ofM a).y - 1<=y/\y<=(ofM b).y+1/\∃ h∈l,Z2u h y=some d)/\ZF 3 w w' r (Z3A zs):=by
 obtain ⟨ya1,ya2,-⟩:=Z5m ha (by omega);obtain ⟨yb1,yb2,-⟩:=Z5m (n:=b) (by omega) hb;have lf:max a 0=a:=by omega
 have wo:min b 3652058=b:=by omega
 refine cW3 65 Tryz.func214 ?_;refine W ?_;rw [lf,wo];refine QO ?_;refine CM (ZN rfl) (Z7K a _ ha (by omega)) ?_;rintro _ w1 ⟨rfl,hS⟩;refine W ?_;refine Z0 Z2 rfl ?_;rintro _ w2 ⟨b7,rfl,fu,e7,ah⟩;refine W ?_;refine SB (us:=[.I (ofM a).y,.I (ofM a).m,.I (ofM a).d]) (by intro u hu;simp at hu;rcases hu with rfl|rfl|rfl<;>rfl) e7 ?_;rintro _ w3 ⟨hT,k7⟩;replace hS:=hS.trans (ah.ow hT);clear e7 ah hT;refine W ?_;refine CM (ZN rfl) (Z7K b _ (by omega) hb) ?_;rintro _ w4 ⟨rfl,aI⟩;replace k7:=k7.up aI;replace hS:=hS.trans aI;refine W ?_;refine Z0 Z2 rfl ?_;rintro _ w5 ⟨b9,rfl,ir,e9,aD⟩;have n79:b7≠b9:=by have:=k7.lt;omega
 refine W ?_;refine SB (us:=[.I (ofM b).y,.I (ofM b).m,.I (ofM b).d]) (by intro u hu;simp at hu;rcases hu with rfl|rfl|rfl<;>rfl) e9 ?_;rintro _ w6 ⟨hT,k9⟩;replace aD:=aD.ow hT;replace k7:=k7.up aD;replace hS:=hS.trans aD;clear e9 hT aI aD;replace hs:=hs.up hS;replace hL:=hL.up hS;replace hM:=hM.up hS;refine W ?_
 refine Zt (σ:=Nat×Value×List Int) (λq=>[(0,v),(1,.I a),(2,.I b),(7,pQ b7),(9,pQ b9),(11,q.2.1),(12,.I ((ofM a).y - 1+(q.1:Int)))])
  (λq w'=>(ofM a).y - 1+(q.1:Int)<=(ofM b).y+2/\q.2.2.length<=q.1 * 20/\(∀ d,d∈q.2.2↔a<=d/\d<=b/\∃ y,(ofM a).y - 1<=y/\y<(ofM a).y - 1+(q.1:Int)/\∃ h∈l,Z2u h y=some d)/\ZF 3 w6 w' q.2.1 q.2.2)
  (λq=>20000 - q.1) (0,.N,[]) ⟨rfl,rfl,rfl,rfl,rfl,rfl,(by simp [Z1P]),trivial⟩ ⟨by dsimp only;omega,Xp _,λd=>by simp;intros;omega,ZF.nil⟩ ?_
 rintro ⟨k,ov,zs⟩ w7 ⟨hk,tI,hz,hr⟩;dsimp only at hk tI hz hr ⊢;have aR:=hr.2;replace k7:=k7.up aR;replace k9:=k9.up aR;replace hs:=hs.up aR;replace hL:=hL.up aR;replace hM:=hM.up aR;by_cases hlt:(ofM a).y - 1+(k:Int)<=(ofM b).y+1;refine QO ?_;refine CL (ZnQ v l _ _ hs hL hM ho hl) ?_;rintro rv w8 ⟨ys,ew,gZ⟩;have fR:=ZkU ew;have rD:=ZkT ew;have cK:=gZ.2;have cP:=gZ.slv (X:=ob ov) (λb hb=>(hr.1.ob_le b hb).2);have rE:=gZ.slv (X:=[]) (by simp);replace hr:=hr.up cK;replace k9:=k9.up cK;replace hs:=hs.up cK;replace hL:=hL.up cK;replace hM:=hM.up cK;refine W ?_
 refine ZkS (σ:=Value×List Int) (λq=>[(0,v),(1,.I a),(2,.I b),(7,pQ b7),(9,pQ b9),(11,q.1),(12,.I ((ofM a).y - 1+(k:Int)))])
  (λq w'=>q.2=zs++inR a b (ys.map Prod.fst)/\ZF 3 w6 w' q.1 q.2) ?_ ?_
 refine Zt (σ:=Nat×Value) (λq=>[(0,v),(1,.I a),(2,.I b),(7,pQ b7),(9,pQ b9),(11,q.2),(12,.I ((ofM a).y - 1+(k:Int))),(44,rv),(45,.I (ys.length:Int)),(46,.I (q.1:Int))])
  (λq w'=>q.1<=ys.length/\ZF 3 w6 w' q.2 (zs++inR a b ((ys.take q.1).map Prod.fst))/\SlV (ob q.2) w' rv ys) (λq=>ys.length - q.1) (0,ov) ⟨rfl,rfl,rfl,rfl,rfl,rfl,rfl,rfl,rfl,rfl,trivial⟩ ⟨Xp _,by simpa [inR] using hr,cP⟩ ?_
 clear hr cP rE hs hL hM k7 k9;rintro ⟨j,ov'⟩ w9 ⟨hj,hr,cP⟩;dsimp only at hj hr cP ⊢;by_cases fF:j<ys.length;have fJ:inR a b ((ys.take (j+1)).map Prod.fst)=inR a b ((ys.take j).map Prod.fst)++inR a b [ys[j].1]:=by
  rw [Xi fF,XR,ZnR];rfl
 refine QO ?_;refine Z0 Z2 rfl ?_;rintro _ w10 ⟨b14,rfl,wu,e14,eu⟩;refine W ?_;refine SA (us:=Z3.enc ys[j]) e14 ?_;rintro _ w11 ⟨hT,k14⟩;replace eu:=eu.ow hT;clear e14 hT;replace hr:=hr.up eu;replace cP:=cP.up eu;refine W ?_;refine CL (Z2x ys[j].1 a b _) ?_;rintro _ _ ⟨rfl,rfl⟩;by_cases bJ:a<=ys[j].1/\ys[j].1<=b;rw [decide_eq_true bJ];have ai:(zs++inR a b ((ys.take j).map Prod.fst)).length<=300000:=by
  have h1:(inR a b ((ys.take j).map Prod.fst)).length<=((ys.take j).map Prod.fst).length:=X0 _ _;rw [Xd];simp only [Xu,Xx] at h1;omega
 have e1:inR a b [ys[j].1]=[ys[j].1]:=by unfold inR;simp [bJ]
 rw [e1] at fJ;refine W ?_;refine Z0 (Z1 (vs:=[(0,.I ys[j].1)]) rfl (Zr _)) rfl ?_;rintro bv w12 hN;have jt:=Z9.stp hN;have an:SlV (ob ov') w12 bv [ys[j].1]:=hN.slv (λb hb=>(hr.1.ob_le b hb).2) rfl rfl (by simp [maxLen]);replace hr:=hr.up jt;replace cP:=cP.up jt;refine Z0 (JE rfl (by decide) rfl rfl hr an (by simp only [Xe,Xf];omega) (by simp only [Xe,Xf,maxLen];omega)) rfl ?_;rintro ov2 w13 ⟨dm,cS,rF⟩;refine W ?_;refine QL (j+1,ov2) ⟨fF,?_,cP.ext cS (λ_ h=>h) rF⟩ (by dsimp only;omega);dsimp only;rw [fJ,<- XA];exact dm;rw [decide_eq_false bJ];have e1:inR a b [ys[j].1]=[]:=by unfold inR;simp only [List.filter_cons,decide_eq_false bJ,List.filter_nil];rfl
 rw [e1,XG] at fJ;refine W ?_;refine QL (j+1,ov') ⟨fF,?_,cP⟩ (by dsimp only;omega);dsimp only;rw [fJ];exact hr;have rG:j=ys.length:=by omega
 subst rG;rw [Xo] at hr;refine QO ?_;exact ZA (ov',zs++inR a b (ys.map Prod.fst)) ⟨rfl,rfl,rfl,rfl,rfl,rfl,rfl,trivial⟩ ⟨rfl,hr⟩;rintro ⟨ov',zs'⟩ w9 ⟨tQ,hr⟩;dsimp only at tQ hr ⊢;subst tQ;have e1:(ofM a).y - 1+(k:Int)+1=(ofM a).y - 1+((k+1:Nat):Int):=by omega
 refine W ?_;rw [e1];refine Zs (k+1,ov',zs++inR a b (ys.map Prod.fst)) ⟨rfl,rfl,rfl,rfl,rfl,rfl,rfl,trivial⟩ ⟨by dsimp only;omega,?_,λd=>?_,hr⟩ (by dsimp only;omega);have h1:(inR a b (ys.map Prod.fst)).length<=(ys.map Prod.fst).length:=X0 _ _;dsimp only;rw [Xd];simp only [Xu] at h1;omega;dsimp only;rw [Xg,hz,inR,Ybo,rD];constructor;rintro (⟨p1,p2,y,p3,p4,p5⟩|⟨p5,p6⟩);exact ⟨p1,p2,y,p3,by omega,p5⟩;have p6:=of_decide_eq_true p6;exact ⟨p6.1,p6.2,_,by omega,by omega,p5⟩;rintro ⟨p1,p2,y,p3,p4,p5⟩;by_cases hy:y<(ofM a).y - 1+(k:Int)
 exact .inl ⟨p1,p2,y,p3,hy,p5⟩;obtain rfl:y=(ofM a).y - 1+(k:Int):=by omega
 exact .inr ⟨p5,decide_eq_true ⟨p1,p2⟩⟩;refine QO ?_;refine CM (ZN rfl) (ZcG _ hr.1 (by omega)) ?_;rintro _ w8 ⟨rfl,bB,cK⟩;refine W ?_;refine CM (ZN rfl) (Z7c _ bB (by rw [Ybh];omega)) ?_;rintro rv w9 ⟨dP,gC,aV⟩;refine W ?_;refine WR ?_;refine .mk ⟨zs,λd=>?_,dP.lower hS.size,((hS.trans hr.2).own cK (λc hc=>.inr (Xh hS.size (hr.1.ob_le c hc).1))).own gC (λc hc=>.inr (Xh hS.size (hr.1.ob_le c hc).1))⟩;rw [hz];constructor;rintro ⟨p1,p2,y,p3,p4,p5⟩;exact ⟨p1,p2,y,p3,by omega,p5⟩;rintro ⟨p1,p2,y,p3,p4,p5⟩;exact ⟨p1,p2,y,p3,by omega,p5⟩
theorem ZeK {l:List Hol} {d:Int} (h0:0<=d) (h1:d<=3652058) {zs:List Int} (hz:∀ x,x∈zs↔d<=x/\x<=d/\∃ y,(ofM d).y - 1<=y/\y<=(ofM d).y+1/\∃ h∈l,Z2u h y=some x) :
 decide (((Z3A zs).length:Int) > 0)=Z8x l d:=by
 have hm:=(Z3m zs).2;have bJ:ZL d=true:=ZM.2 ⟨h0,h1⟩;rw [Yad];unfold Z8x;rw [bJ,Bool.true_and,decide_eq_true_eq,Yag];constructor;intro hl;obtain ⟨x,hx⟩:=List.exists_mem_of_length_pos (l:=Z3A zs) (by omega);obtain ⟨p1,p2,y,p3,p4,h,hh,hk⟩:=(hz x).1 ((hm x).1 hx);obtain rfl:x=d:=by omega
 refine ⟨y,?_,Yag.2 ⟨h,hh,decide_eq_true hk⟩⟩;have:y=(ofM x).y - 1\/y=(ofM x).y\/y=(ofM x).y+1:=by omega
 rcases this with rfl|rfl|rfl<;>simp
 rintro ⟨y,hy,hh⟩;obtain ⟨h,hh,hk⟩:=Yag.1 hh;have eH:(ofM d).y - 1<=y/\y<=(ofM d).y+1:=by simp at hy;omega
 have:d∈Z3A zs:=(hm d).2 ((hz d).2 ⟨YaY _,YaY _,y,eH.1,eH.2,h,hh,of_decide_eq_true hk⟩);have:=List.length_pos_of_mem this;omega
theorem ZtD (v:Value) (l:List Hol) (d:Int) (w) (hs:SlV [] w v l) (hL:Z0z w) (hM:Z2R w) (ho:∀ h∈l,Z2c h) (hl:l.length<20) :
 CC 156 #[v,.I d] w λr w'=>r=.B (Z8x l d)/\Stp [] w w':=by
 refine cW2 15 Tryz.func156 ?_;refine W ?_;refine CL (Z2x d 0 3652058 _) ?_;rintro _ _ ⟨rfl,rfl⟩;by_cases hd:0<=d/\d<=3652058;rw [decide_eq_true hd];refine W ?_;refine CL (Zdd v l d d _ hs hL hM ho hl hd.1 (YaY _) hd.2 (YaY _)) ?_;rintro rv w1 ⟨zs,hz,hr⟩;have eR:=hr.slv (X:=[]) (by simp);refine RT ?_;exact ⟨by rw [ZeK hd.1 hd.2 hz],hr.2⟩;rw [decide_eq_false hd];refine W ?_;refine WR ?_;refine .mk ⟨?_,Stp.refl _ _⟩;have:ZL d=false:=by unfold ZL;exact decide_eq_false hd
 unfold Z8x;rw [this];rfl
structure Z6N (w:World) (c:Cal) (hv cv zo zs hr:Value):Prop where
 hols:SlV [] w hv c.hols
 clos:SlV [] w cv c.clos
 len:Z0z w
 mov:Z2R w
 ok:Zkm c
abbrev Z6O (c:Cal) (hv cv zo zs hr:Value):Value:=.agg (Z0j c hv cv zo zs hr).toArray
theorem Z6N.up {w w':World} {c:Cal} {hv cv zo zs hr:Value} (h:Z6N w c hv cv zo zs hr) (hS:Stp [] w w'):Z6N w' c hv cv zo zs hr:=⟨h.hols.up hS,h.clos.up hS,h.len.up hS,h.mov.up hS,h.ok⟩
theorem ZnS (c:Cal) (hv cv zo zs hr:Value) {i:Nat} (hi:i<7):(Z0j c hv cv zo zs hr)[0+i * 1]?=some (.B (c.week.getD i false)):=by
 have:i=0\/i=1\/i=2\/i=3\/i=4\/i=5\/i=6:=by omega
 rcases this with rfl|rfl|rfl|rfl|rfl|rfl|rfl<;>rfl
theorem Z4e (d:Int) (w):CC 87 #[.I d] w λr w'=>r=.B (ZL d)/\w'=w:=by
 refine cW1 9 Tryz.func87 ?_;unfold ZL;by_cases h1:d>=0;by_cases h2:d<=3652058;rw [decide_eq_true ⟨h1,h2⟩];refine RT ?_;exact ⟨by simp [h2],rfl⟩;rw [decide_eq_false (λh=>h2 h.2)];refine RT ?_;exact ⟨by simp [h2],rfl⟩;rw [decide_eq_false (λh=>h1 h.1)];refine RT ?_;exact ⟨rfl,rfl⟩
theorem Zhd (d kn:Int) (bc bk:Nat) (c:Cal) (hv cv zo zs hr:Value) (w) (h:Z6N w c hv cv zo zs hr) (kc:Blk w bc 35 (Z0j c hv cv zo zs hr)) (kk:Blk w bk 3 [.I kn]) (h0:0<=d) (h1:d<=3652058) :
 CC 154 #[.I d,pQ bc,pQ bk] w λr w'=>r=.B (Zft c kn d)/\Stp [] w w':=by
 have rH:(d % 7).toNat<7:=by omega
 have pD:=ZnS c hv cv zo zs hr rH;have bQ:=h.clos.max;have ww:=h.clos;refine cW3 40 Tryz.func154 ?_;refine W ?_;refine CM (ZN rfl) (Z4d d _ h0 (by omega)) ?_;rintro _ w ⟨rfl,rfl⟩;refine W ?_;refine Z36 (len:=7) (i:=(d % 7).toNat) rfl rfl (by omega) rH rfl ?_;refine ZbT rfl rfl kc pD rfl ?_;unfold Zft;cases hw:c.week.getD (d % 7).toNat false with
 | true=>
   refine RT ?_;exact ⟨by simp,Stp.refl _ _⟩
 | false=>
   rw [Ybz];refine W ?_;refine Z0h (σ:=Unit) (λ_=>[(0,.I d),(1,pQ bc)]) (λ_ w'=>ZcJ c.clos kn d=false/\Stp [] w w') ?_ ?_
   refine Zt (σ:=Nat) (λk=>[(0,.I d),(1,pQ bc),(2,pQ bk),(13,cv),(14,.I (c.clos.length:Int)),(15,.I (k:Int))])
    (λk w'=>k<=c.clos.length/\ZcJ (c.clos.take k) kn d=false/\Stp [] w w') (λk=>c.clos.length - k) 0 ⟨rfl,rfl,rfl,rfl,rfl,rfl,trivial⟩ ⟨Xp _,rfl,Stp.refl _ _⟩ ?_
   rintro k w1 ⟨hk,hn,hS⟩;have kk:=kk.up hS;have cE:=h.clos.up hS;by_cases hlt:k<c.clos.length;have ht:ZcJ (c.clos.take (k+1)) kn d=(ZcJ (c.clos.take k) kn d || decide (c.clos[k].known<=kn/\c.clos[k].lo<=d/\d<=c.clos[k].hi)):=by
    unfold ZcJ;rw [Xi hlt,List.any_append];simp
   rw [hn,Ybz] at ht;refine QO ?_;refine Z0 Z2 rfl ?_;rintro _ w2 ⟨b6,rfl,ez,e6,ah⟩;refine W ?_;refine SA (us:=Z3.enc c.clos[k]) e6 ?_;rintro _ w3 ⟨hT,k6⟩;replace ah:=ah.ow hT;clear e6 hT;replace kk:=kk.up ah;replace cE:=cE.up ah;replace hS:=hS.trans ah;by_cases hx:c.clos[k].known<=kn/\c.clos[k].lo<=d/\d<=c.clos[k].hi;refine QO ?_;refine WR ?_;refine .mk ⟨?_,hS⟩;have:ZcJ c.clos kn d=true:=by
    unfold ZcJ;exact Yag.2 ⟨c.clos[k],Xc hlt,decide_eq_true hx⟩
   rw [this];rfl
   . rw [decide_eq_false hx] at ht
     repeat'(first|refine W1 ?_|omega|refine VG ?_ ?_<;>intro hg|refine VC ?_ ?_<;>intro hc)
     all_goals exact QL (k+1) ⟨hlt,ht,hS⟩ (by omega)
   obtain rfl:k=c.clos.length:=by omega
   rw [Xo] at hn;refine QO ?_;exact QT () ⟨hn,hS⟩;rintro _ w1 ⟨hn,hS⟩;have kc:=kc.up hS;have h:=h.up hS;rw [hn,Ybz];refine W ?_;refine CM (Zf rfl rfl) (ZtD hv c.hols d _ h.hols h.len h.mov h.ok.hols (by have:=h.ok.few;omega)) ?_;rintro _ w2 ⟨rfl,ah⟩;refine RT ?_;exact ⟨rfl,hS.trans ah⟩
def Zx9 (w:World) (f:Value) (c:Cal) (hv cv zo zs hr:Value) (kn:Int):Prop:=∃ b2 b3,f=.func (.func 154) #[] #[pQ b2,pQ b3]/\Blk w b2 35 (Z0j c hv cv zo zs hr)/\Blk w b3 3 [.I kn]
theorem ZkV (kn:Int) (c:Cal) (hv cv zo zs hr:Value) (w):CC 88 #[Z6O c hv cv zo zs hr,.I kn] w λr w'=>Zx9 w' r c hv cv zo zs hr kn/\Stp [] w w':=by
 refine cW2 6 Tryz.func88 ?_;refine W ?_;refine Z0 (Zq rfl) rfl ?_;rintro _ w1 ⟨b2,rfl,bV,ac,hS⟩;replace ac:Blk w1 b2 35 (Z0j c hv cv zo zs hr):=ac;refine Z0 (Zq rfl) rfl ?_;rintro _ w2 ⟨b3,rfl,dN,aK,ah⟩;replace aK:Blk w2 b3 3 [.I kn]:=aK;replace ac:=ac.up ah;refine RT ?_;exact ⟨⟨b2,b3,rfl,ac,aK⟩,hS.trans ah⟩
open Go Go.Eng Go.RowKit Go.Proofs Go.Shelf
attribute [local go_sem] Oper.semAt_some
theorem ZkW (n:Nat) (hn:2<=n) (l bd bs:Nat) (d0 st:Int) (ax:st=1\/st=-1) (pE:0<=d0) (iq:d0<=3652058) (J:Nat->World->Prop) (Jx:World->Prop)
 (wx:∀ k W,J k W->W.cell? ⟨bd,0,none⟩=some (.I (d0+st * k))/\W.cell? ⟨bs,0,none⟩=some (.I st))
 (hY : ∀ (k : Nat) W, J k W -> k <= 1000 -> ZL (d0 + st * k) = true -> YieldAt Fence.wide (n - 1) Tryz.prog l #[.I (d0 + st * k)] W λe W'=>
   (e=.returned (.B true)/\W'.cell? ⟨bd,0,none⟩=some (.I (d0+st * k))/\W'.frozen? ⟨bd,0,none⟩=false/\W'.cell? ⟨bs,0,none⟩=some (.I st)/\J (k+1) (W'.setCell ⟨bd,0,none⟩ (.I (d0+st * k+st))))\/(e=.returned (.B false)/\Jx W'))
 (W:World) (h0:J 0 W) :
 CallsIn Fence.wide n Tryz.prog 212 #[.func (.yield l) #[] #[],pQ bd,pQ bs] W λe W'=>(∃ v,e=.returned v)/\
  ((∃ k:Nat,(1000<k\/ZL (d0+st * k)=false)/\J k W')\/Jx W'):=by
 refine callsIn_of_wp Tryz.func212 rfl trivial ?_ rfl;simp only [Tryz.ntmps212,Yaw,Xe,Xf,Nat.reduceAdd,Nat.reduceSub,Array.replicate_succ,Array.replicate_zero,List.push_toArray,List.append_toArray,XN,XC]
 gi_wp2
 gi_loopw [4] (λi wr=>∃ k:Nat,k<=1001/\i=.I (k:Int)/\J k wr) (λi _=>1002 - (intOf i).toNat)
 case atStart=>exact ⟨0,Xp _,rfl,h0⟩
 case round=>
  obtain ⟨k,hk,rfl,pF⟩:=hrel;obtain ⟨c1,c2⟩:=wx k _ pF;have jI:-1001<=st * (k:Int)/\st * (k:Int)<=1001:=by rcases ax with rfl|rfl<;>omega
  by_cases hlt:k<=1000
  . have cT:(k:Int)<=1000:=by omega
    gi_wp2
    refine ⟨trivial,(λh=>by cases h),?_⟩;refine (callsIn_wide.2 (Z4e _ _)).mono ?_;rintro e w' ⟨v,rfl,rfl,rfl⟩;cases bJ:ZL (d0+st * k) with
    | false=>
      gi_wp2
      go_end0
      exact ⟨⟨_,rfl⟩,.inl ⟨k,.inr bJ,pF⟩⟩
    | true=>
      obtain ⟨fn,tmps,assign,body,hy,hR⟩:=hY k _ pF hlt bJ
      gi_wp2
      refine ⟨(λh=>by cases h),hR.mono ?_⟩;rintro e W3 (⟨rfl,a1,a2,a3,a4⟩|⟨rfl,hx⟩);have wC:=ZM.1 bJ
      gi_wp2
      exact ⟨⟨k+1,by omega,rfl,a4⟩,by simp [intOf];omega⟩
      gi_wp2
      refine bodyPost_ret (results_none rfl _ _ _) rfl ?_;exact ⟨⟨_,rfl⟩,.inr hx⟩
  have fU:¬ (k:Int)<=1000:=by omega
  gi_wp2
  refine ⟨trivial,?_⟩
  gi_wp2
  go_end0
  exact ⟨⟨_,rfl⟩,.inl ⟨k,.inl (by omega),pF⟩⟩
theorem ZeL {g:Operand} {ps:Array Tmp} {assign body:Code} {Q:Exit->Act->World->Prop} {a:Act} {w:World} {n:Nat} (hn:3<=n) (bA:ps.size=1) {bd bs:Nat} {d0 st:Int}
 (hg:a.eval g=.func (.func 212) #[] #[pQ bd,pQ bs]) (ax:st=1\/st=-1) (pE:0<=d0) (iq:d0<=3652058) (ko:bd<w.heap.size)
 (I I':Nat->World->Prop) (Ix:World->Prop)
 (hI:∀ k W W',I k W->Below w.heap.size W W'->I k W') (hI':∀ k W W',I' k W->Below w.heap.size W W'->I' k W') (hIx:∀ W W',Ix W->Below w.heap.size W W'->Ix W')
 (hc:∀ (k:Nat) W,I k W->W.cell? ⟨bd,0,none⟩=some (.I (d0+st * k))/\W.cell? ⟨bs,0,none⟩=some (.I st))
 (hc':∀ (k:Nat) W,I' k W->W.cell? ⟨bd,0,none⟩=some (.I (d0+st * k))/\W.frozen? ⟨bd,0,none⟩=false/\W.cell? ⟨bs,0,none⟩=some (.I st))
 (hstep:∀ (k:Nat) W,I' k W->I (k+1) (W.setCell ⟨bd,0,none⟩ (.I (d0+st * k+st)))) (h0:I 0 w) (a₁:Int->Act)
 (hassign : ∀ (l : Nat) (X : Int) (W : World) (K : Act -> World -> Prop), K (a₁ X) W->
   assign.wpIn (Fence.wide.inRound l) (n - 1 - 1) Tryz.prog (Exit.then K (λ_ _ _=>False)) { tmps:=(ps.zip #[Value.int .i64 X]).foldl (λt (p,v)=>t.setIfInBounds p v) a.tmps,defers:=[] } W)
 (hbody : ∀ (l : Nat) (k : Nat) (W : World), I k W -> k <= 1000 -> ZL (d0 + st * k) = true -> body.wpIn (Fence.wide.inRound l) (n - 1 - 1) Tryz.prog
   (λe _ W'=>(∀ b,w.heap.size<=b->b<W.heap.size->W'.heap[b]?=W.heap[b]?)/\match e with|.normal=>I' k W'|.ret=>Ix W'|_=>False) (a₁ (d0+st * k)) W)
 (hdone:∀ (D k:Nat) (W:World),w.heap.size<=D->(1000<k\/ZL (d0+st * k)=false)->I k W->W.heap[D]?=some (.deferred (some []))->Q .normal { a with defers:={ target:=.collected D,args:=#[] } :: a.defers } W)
 (hstop:∀ (D:Nat) (W:World),w.heap.size<=D->Ix W->W.heap[D]?=some (.deferred (some []))->Q .ret { a with defers:={ target:=.collected D,args:=#[] } :: a.defers } W) :
 (Code.rangeFunc g ps assign body).wpIn Fence.wide n Tryz.prog Q a w:=by
 refine wpIn_rangeFunc ?_;intro fn qF;obtain ⟨rec,bo⟩:∃ rec:LoopState->Option Code->Loop,rec=λst pe=>{ state:=st,pending:=pe,fn,tmps:=a.tmps,params:=ps,assign,body,defers:=w.heap.size }:=⟨_,rfl⟩
 obtain ⟨W1,gh⟩:∃ W1,(w.alloc (.deferred (some []))).alloc (.loop (rec .ready none))=W1:=⟨_,rfl⟩
 have lz:W1.heap[w.heap.size+1]?=some (.loop (rec .ready none)):=by
  rw [<- gh];have:=World.alloc_heap_new (w.alloc (.deferred (some []))) (.loop (rec .ready none));rwa [World.size_alloc] at this
 have rq:W1.heap[w.heap.size]?=some (.deferred (some [])):=by
  rw [<- gh];exact (Below.heap_alloc _ _ _ (by simp)).trans (World.alloc_heap_new w _)
 have aW:Below w.heap.size w W1:=by
  rw [<- gh];exact ((Below.refl _ w).alloc (Xn _) _).alloc (by simp) _
 have bput:∀ (W:World) (l:Nat) (o:Obj),w.heap.size<=l->Below w.heap.size W (W.putObj l o):=λW l o hl=>
  ⟨rfl,rfl,rfl,by simp,λk hk=>World.putObj_heap_other (by omega)⟩
 refine ⟨w.heap.size+1,[{ target:=.collected w.heap.size,args:=#[] }],W1,{ target:=.fn (.func 212) #[pQ bd,pQ bs],args:=#[.func (.yield (w.heap.size+1)) #[] #[]] },W1,212,
  #[.func (.yield (w.heap.size+1)) #[] #[]]++#[pQ bd,pQ bs],W1,?_,?_,?_,?_,λh=>(by cases h),?_⟩
 rw [<- gh,bo];exact run_enterLoop_outer _ _ _ _ _;simp only [resolve,hg];simp [go_sem];intro f' tz;trivial;have eg:=enters_of Tryz.func212 (by kernel_rfl) rfl;simp [invoke,go_sem,eg]
 refine (ZkW (n - 1) (by omega) (w.heap.size+1) bd bs d0 st ax pE iq
  (λk W=>I k W/\W.heap[w.heap.size+1]?=some (.loop (rec .ready none))/\W.heap[w.heap.size]?=some (.deferred (some [])))
  (λW=>Ix W/\W.heap[w.heap.size+1]?=some (.loop (rec .done (some .ret)))/\W.heap[w.heap.size]?=some (.deferred (some [])))
  (λk W h=>hc k W h.1) ?_ W1 ⟨hI _ _ _ h0 aW,lz,rq⟩).mono ?_
 . rintro k W ⟨hi,hl,hk⟩ iI bJ
   have hlt:w.heap.size+1<W.heap.size:=(Xm.1 hl).1;have hy:=run_yield (P:=Tryz.prog) (args:=#[Value.int .i64 (d0+st * k)]) hl (by rw [bo];simp [bA]);rw [bo] at hy;refine ⟨fn,_,assign,body,hy,roundIn_of_wpIn qF (hassign _ _ W _ ⟨_,run_beginRound hl (by rw [bo]),?_⟩)⟩;have d8:(W.putObj (w.heap.size+1) (.loop { rec .ready none with state:=.busy })).heap[w.heap.size+1]?=some (.loop { rec .ready none with state:=.busy }):=World.putObj_heap_same hlt;have dg:(W.putObj (w.heap.size+1) (.loop { rec .ready none with state:=.busy })).heap[w.heap.size]?=some (.deferred (some [])):=(World.putObj_heap_other (by omega)).trans hk;refine wpIn_mono (hbody _ k _ (hI _ _ _ hi (bput _ _ _ (by omega))) iI bJ) ?_
   have fin:∀ (jump:Option Code) (W3:World),(∀ b,w.heap.size<=b->b<(W.putObj (w.heap.size+1) (.loop { rec .ready none with state:=.busy })).heap.size->W3.heap[b]?=(W.putObj (w.heap.size+1) (.loop { rec .ready none with state:=.busy })).heap[b]?)->
    (Instr.endRound (w.heap.size+1) jump).run Tryz.prog W3=.ok (.B jump.isNone) (W3.putObj (w.heap.size+1) (.loop (rec (if jump.isNone then .ready else .done) jump)))/\
    (W3.putObj (w.heap.size+1) (.loop (rec (if jump.isNone then .ready else .done) jump))).heap[w.heap.size+1]?=some (.loop (rec (if jump.isNone then .ready else .done) jump))/\
    (W3.putObj (w.heap.size+1) (.loop (rec (if jump.isNone then .ready else .done) jump))).heap[w.heap.size]?=some (.deferred (some [])):=λjump W3 j8=>by
    have iG:=(j8 (w.heap.size+1) (by omega) (by simp;omega)).trans d8;have nT:=(j8 w.heap.size (by omega) (by simp;omega)).trans dg;have:=run_endRound (P:=Tryz.prog) jump iG;rw [bo] at this ⊢;exact ⟨this,World.putObj_heap_same (Xm.1 iG).1,(World.putObj_heap_other (by omega)).trans nT⟩
   rintro e a3 W3 ⟨j8,hp⟩;cases e with
   | normal=>
     obtain ⟨hr,rJ,nT⟩:=fin none W3 j8;have tS:=hI' _ _ _ hp (bput W3 (w.heap.size+1) (.loop (rec .ready none)) (by omega));obtain ⟨p1,p2,p3⟩:=hc' _ _ tS;refine ⟨_,_,hr,.inl ⟨rfl,p1,p2,p3,hstep _ _ tS,?_,?_⟩⟩;exact (Below.heap_setCell _ ⟨bd,0,none⟩ _ _ (by show w.heap.size+1≠bd;omega)).trans rJ;exact (Below.heap_setCell _ ⟨bd,0,none⟩ _ _ (by show w.heap.size≠bd;omega)).trans nT
   | ret=>
     obtain ⟨hr,rJ,nT⟩:=fin (some .ret) W3 j8;exact ⟨_,_,hr,.inr ⟨rfl,hIx _ _ hp (bput W3 (w.heap.size+1) _ (by omega)),rJ,nT⟩⟩
   | exit id=>exact hp.elim
   | goto t=>exact hp.elim
   | panic ch=>exact hp.elim
   | outgrown=>exact hp.elim
 rintro e W2 ⟨⟨v,rfl⟩,(⟨k,eN,hi,hl,hk⟩|⟨hi,hl,hk⟩)⟩;exact ⟨none,_,by have:=run_endLoop (P:=Tryz.prog) hl (by rw [bo];simp);rw [bo] at this;exact this,hdone _ k _ (Xn _) eN (hI _ _ _ hi (bput _ _ _ (by omega))) ((World.putObj_heap_other (by omega)).trans hk)⟩;refine ⟨some .ret,_,by have:=run_endLoop (P:=Tryz.prog) hl (by rw [bo];simp);rw [bo] at this;exact this,?_⟩;exact wpIn_ret (hstop _ _ (Xn _) (hIx _ _ hi (bput _ _ _ (by omega))) ((World.putObj_heap_other (by omega)).trans hk))
theorem ZkX (d st:Int) (w):CC 152 #[.I d,.I st] w λr w'=>∃ b2 b3,r=.func (.func 212) #[] #[pQ b2,pQ b3]/\w.heap.size<=b2/\b2<b3/\Blk w' b2 3 [.I d]/\Blk w' b3 3 [.I st]/\Stp [] w w':=by
 refine cW2 6 Tryz.func152 ?_;refine W ?_;refine Z0 (Zq rfl) rfl ?_;rintro _ w1 ⟨b2,rfl,bV,k2,hS⟩;replace k2:Blk w1 b2 3 [.I d]:=k2;refine Z0 (Zq rfl) rfl ?_;rintro _ w2 ⟨b3,rfl,dN,k3,ah⟩;replace k3:Blk w2 b3 3 [.I st]:=k3;have:=k2.lt;replace k2:=k2.up ah;refine RT ?_;exact ⟨b2,b3,rfl,bV,by omega,k2,k3,hS.trans ah⟩
theorem Z7k {P:Program} {t b:Nat} {D:TypeDesc} {u:Value} {w:World} [hu:Und P t D] (hA:Z0K D=false) (hc:w.cell? ⟨b,0,none⟩=some u):(loadVar t ⟨b,0,none⟩).run P w=.ok u w:=by
 simp [loadVar,Und.isAgg,hA,hc]
theorem Zbr (b:Nat) (v:Value) (w):Stp [b] w (w.setCell ⟨b,0,none⟩ v):=⟨rfl,rfl,rfl,(KeepsOthers.setCell w ⟨b,0,none⟩ v).size,λk hk hn=>Below.heap_setCell w ⟨b,0,none⟩ v k (λe=>hn (by simp [e]))⟩
theorem Z63 (opn:Int->Bool) (st:Int):∀ (m:Nat) (d:Int) (k:Nat),(∀ j:Nat,j<k->opn (d+st * j)=false)->(m<=k\/ZL (d+st * k)=false)->Z47 opn st m d=(0,31)
 | 0,d,k,_,_=>rfl
 | m + 1, d, k, h, hk => by
   unfold Z47;cases hd:ZL d with
   | false=>rfl
   | true=>
     rw [if_pos rfl];cases k with
     | zero=>
       rcases hk with hk|hk
       omega;rw [show d+st * ((0:Nat):Int)=d by simp,hd] at hk;cases hk
     | succ k=>
       have h0:=h 0 (by omega);rw [show d+st * ((0:Nat):Int)=d by simp] at h0;rw [if_neg (by rw [h0];simp)];have es:∀ j:Nat,d+st+st * (j:Int)=d+st * ((j+1:Nat):Int):=λj=>by
        rw [Ybn,Int.mul_add];simp;omega
       exact Z63 opn st m (d+st) k (λj hj=>by rw [es];exact h (j+1) (by omega)) (hk.imp (λh=>by omega) (λh=>by rw [es];exact h))
theorem Z8P (opn:Int->Bool) (st:Int):∀ (m:Nat) (d:Int) (k:Nat),k<m->(∀ j:Nat,j<=k->ZL (d+st * j)=true)->(∀ j:Nat,j<k->opn (d+st * j)=false)->opn (d+st * k)=true->Z47 opn st m d=(d+st * k,0)
 | 0,d,k,h,_,_,_=>absurd h (Xw _)
 | m + 1, d, k, gT, hi, h, ho => by
   have hd:=hi 0 (Xp _);rw [show d+st * ((0:Nat):Int)=d by simp] at hd;unfold Z47;rw [hd,if_pos rfl];cases k with
   | zero=>
     rw [show d+st * ((0:Nat):Int)=d by simp] at ho ⊢;rw [if_pos ho]
   | succ k=>
     have h0:=h 0 (by omega);rw [show d+st * ((0:Nat):Int)=d by simp] at h0;rw [if_neg (by rw [h0];simp)];have es:∀ j:Nat,d+st+st * (j:Int)=d+st * ((j+1:Nat):Int):=λj=>by
      rw [Ybn,Int.mul_add];simp;omega
     rw [<- es];exact Z8P opn st m (d+st) k (by omega) (λj hj=>by rw [es];exact hi (j+1) (by omega)) (λj hj=>by rw [es];exact h (j+1) (by omega)) (by rw [es];exact ho)
theorem ZfN {W:World} {b8 b9:Nat} {u v:Value} (c8:W.cell? ⟨b8,0,none⟩=some u) (c9:W.cell? ⟨b9,0,none⟩=some v) (n:b8≠b9) (x y:Value) :
 ((W.setCell ⟨b8,0,none⟩ x).setCell ⟨b9,0,none⟩ y).cell? ⟨b8,0,none⟩=some x/\((W.setCell ⟨b8,0,none⟩ x).setCell ⟨b9,0,none⟩ y).cell? ⟨b9,0,none⟩=some y:=by
 have h1:(W.setCell ⟨b8,0,none⟩ x).cell? ⟨b8,0,none⟩=some x:=World.cell?_setCell_same _ _ _ c8;have h2:(W.setCell ⟨b8,0,none⟩ x).cell? ⟨b9,0,none⟩=some v:=(World.cell?_setCell_other _ _ _ _ (λh=>n (by injection h))).trans c9;exact ⟨(World.cell?_setCell_other _ _ _ _ (λh=>n (by injection h with h;exact h.symm))).trans h1,World.cell?_setCell_same _ _ _ h2⟩
theorem Z64 (b8 b9:Nat) (x y:Value) (w):Stp [b8,b9] w ((w.setCell ⟨b8,0,none⟩ x).setCell ⟨b9,0,none⟩ y):=((Zbr b8 x w).mono (S':=[b8,b9]) (by simp)).trans ((Zbr b9 y _).mn)
theorem ZeM {tmps:Array Value} {W:World} {b8 b9:Nat} {x y:Value} (h8:tmps.getD 8 undef=pQ b8) (h9:tmps.getD 9 undef=pQ b9) (c8:W.cell? ⟨b8,0,none⟩=some x) (c9:W.cell? ⟨b9,0,none⟩=some y) :
 (results Tryz.f84 tmps).run Tryz.prog W=.ok (.tuple #[x,y]) W:=by
 rw [XD] at h8 h9;have l8:=Z7k (P:=Tryz.prog) (t:=3) (hu:=(inferInstance:Und Tryz.prog 3 (.int .i64))) rfl c8;have l9:=Z7k (P:=Tryz.prog) (t:=92) (hu:=(inferInstance:Und Tryz.prog 92 (.int .i64))) rfl c9;simp [results,h8,h9,asAddr,l8,l9]
theorem ZkY (d kn st:Int) (ax:st=1\/st=-1) (c:Cal) (hv cv zo zs hr:Value) (w) (h:Z6N w c hv cv zo zs hr) :
 CallsIn Fence.wide 5 Tryz.prog 84 #[Z6O c hv cv zo zs hr,.I d,.I kn,.I st] w λe W'=>e=.returned (.tuple #[.I (Jz (Zx c kn) st d).1,.I (Jz (Zx c kn) st d).2])/\Stp [] w W':=by
 refine callsIn_of_wp_marks Tryz.func84 rfl trivial ?_ rfl;simp only [Tryz.ntmps84,Yaw,Xe,Xf,Nat.reduceAdd,Nat.reduceSub,Array.replicate_succ,Array.replicate_zero,List.push_toArray,List.append_toArray,XN,XC]
 gi_wp2
 obtain ⟨W1,gh⟩:∃ W1,W1=((w.alloc (.cells (Z0j c hv cv zo zs hr).toArray 35)).alloc (.cells #[.I 0] 3)).alloc (.cells #[.I 0] 92):=⟨_,rfl⟩
 rw [<- gh];have kc:Blk W1 w.heap.size 35 (Z0j c hv cv zo zs hr):=by
  rw [gh];exact (Blk.up (World.alloc_heap_new w _) (Stp.alloc _ _ _)).up (Stp.alloc _ _ _)
 have k8:Blk W1 (w.heap.size+1) 3 [.I 0]:=by
  rw [gh];have:=World.alloc_heap_new (w.alloc (.cells (Z0j c hv cv zo zs hr).toArray 35)) (.cells #[.I 0] 3);rw [World.size_alloc] at this;exact Blk.up this (Stp.alloc _ _ _)
 have k9:Blk W1 (w.heap.size+1+1) 92 [.I 0]:=by
  rw [gh];have:=World.alloc_heap_new ((w.alloc (.cells (Z0j c hv cv zo zs hr).toArray 35)).alloc (.cells #[.I 0] 3)) (.cells #[.I 0] 92);rw [World.size_alloc,World.size_alloc] at this;exact this
 have ae:Stp [] w W1:=by
  rw [gh];exact ((Stp.alloc _ _ _).trans (Stp.alloc _ _ _)).trans (Stp.alloc _ _ _)
 have yy:w.heap.size<=w.heap.size+1:=by omega
 have yz:w.heap.size<=w.heap.size+1+1:=by omega
 generalize ir:w.heap.size+1+1=b9 at *;generalize fL:w.heap.size+1=b8 at *;generalize bz:w.heap.size=b4 at *;clear gh;have n89:b8≠b9:=by omega
 have c8:=Boxed.cell (show Boxed W1 b8 3 (.I 0) from k8);have f8:=Boxed.frozen (show Boxed W1 b8 3 (.I 0) from k8);have c9:=Boxed.cell (show Boxed W1 b9 92 (.I 0) from k9);have f9:=Boxed.frozen (show Boxed W1 b9 92 (.I 0) from k9);refine ⟨trivial,?_⟩;refine (callsIn_wide.2 (Z4e d W1)).mono ?_;rintro e w' ⟨v,rfl,rfl,rfl⟩;cases hd:ZL d with
 | false=>
   gi_wp2
   have gO:Jz (Zx c kn) st d=(0,5):=by unfold Jz;rw [hd];rfl
   obtain ⟨g8,g9⟩:=ZfN c8 c9 n89 (.I 0) (.I 5);refine ⟨_,ZeM rfl rfl g8 g9,?_,?_⟩;rw [gO];exact ae.own (Z64 b8 b9 _ _ _) (λx hx=>by simp at hx;omega)
 | true=>
   have q:=λ(j:Nat) (u:Value) (hu:(Z0j c hv cv zo zs hr)[j]?=some u)=>kc.cell hu;have q0:=q 0 _ rfl;have q1:=q 1 _ rfl;have q2:=q 2 _ rfl;have q3:=q 3 _ rfl;have q4:=q 4 _ rfl;have q5:=q 5 _ rfl;have q6:=q 6 _ rfl;have q7:=q 7 _ rfl;have q8:=q 8 _ rfl;have q9:=q 9 _ rfl;have q10:=q 10 _ rfl;have q11:=q 11 _ rfl
   gi_wp2
   refine ⟨trivial,?_⟩;refine (callsIn_wide.2 (ZkV kn c hv cv zo zs hr w')).mono ?_;rintro e W2 ⟨v,rfl,⟨b2,b3,rfl,k2,k3⟩,ah⟩;have f8':=Boxed.frozen (show Boxed W2 b8 3 (.I 0) from k8.up ah);have f9':=Boxed.frozen (show Boxed W2 b9 92 (.I 0) from k9.up ah);have c8':=Boxed.cell (show Boxed W2 b8 3 (.I 0) from k8.up ah);have c9':=Boxed.cell (show Boxed W2 b9 92 (.I 0) from k9.up ah);have cN:=Boxed.cell (Boxed.new W2 178 .nilFunc);have fN:=Boxed.frozen (Boxed.new W2 178 .nilFunc);have wD:(store ⟨W2.heap.size,0,none⟩ (.func (.func 154) #[] #[pQ b2,pQ b3])).run Tryz.prog (W2.alloc (.cells #[.nilFunc] 178))=.ok () ((W2.alloc (.cells #[.nilFunc] 178)).setCell ⟨W2.heap.size,0,none⟩ (.func (.func 154) #[] #[pQ b2,pQ b3])):=by
    rw [run_store _ _ _ _ _ rfl];simp [cN,fN]
   gi_wp2
   refine ⟨trivial,?_⟩;refine (callsIn_wide.2 (ZkX d st _)).mono ?_;rintro e W3 ⟨v,rfl,bd,bs,rfl,ko,dK,kd,ks,am⟩;have cE:W3.cell? ⟨W2.heap.size,0,none⟩=some (.func (.func 154) #[] #[pQ b2,pQ b3]):=am.cell (by simp) (Boxed.cell (Boxed.new W2 178 _));have cG:Stp [] W2 W3:=(Stp.alloc [] W2 _).trans am
   gi_wp2
   have dD:Stp [] w' W3:=ah.trans cG;have h3:=(h.up ae).up dD;have wF:=(k2.up cG).lt;have k2':=k2.up cG;have k3':=k3.up cG;have k8':=k8.up dD;have k9':=k9.up dD;have wG:=cG.size;have yA:W2.heap.size<W3.heap.size:=by have:=block_lt_of_cell cE;simpa using this
   have wH:W2.heap.size<bd:=by simp at ko;omega
   have k8l:=(k8.up ah).lt;have k9l:=(k9.up ah).lt;have k2l:=k2.lt;have k3l:=k3.lt;have pE:=(ZM.1 hd).1;have iq:=(ZM.1 hd).2;have wI:w.heap.size<=bd:=by have:=ae.size;have:=dD.size;have:=ah.size;omega
   have g1:3<w.heap.size:=by have:=block_lt_of_cell (h.len 0 0 rfl);simpa using this
   have g2:4<w.heap.size:=by have:=block_lt_of_cell (h.mov 0 0 rfl);simpa using this
   have wJ:=h.hols.ext (X':=[bd]) (ae.trans dD) (by simp) (λb hb=>.inr (by simp at hb;omega));have wK:=h.clos.ext (X':=[bd]) (ae.trans dD) (by simp) (λb hb=>.inr (by simp at hb;omega));have yB:=(ae.trans dD).size;have cal:∀ W,Stp [bd] W3 W->Z6N W c hv cv zo zs hr:=λW hS=>⟨wJ.ext (X':=[]) hS (λb hb=>hb) (by simp),wK.ext (X':=[]) hS (λb hb=>hb) (by simp),h3.len.ext hS (by simp;omega),h3.mov.ext hS (by simp;omega),h.ok⟩
   have sb:∀ {S:List Nat} {W W':World},Stp S W3 W->Below W3.heap.size W W'->Stp S W3 W':=λhS hB=>⟨hB.os.trans hS.os,hB.tape.trans hS.tape,hB.output.trans hS.output,Xh hS.size hB.size,λi hi hn=>(hB.block i hi).trans (hS.block i hi hn)⟩
   have dY:=kd.lt;have yC:=ks.lt
   refine ZeL (by omega) rfl rfl ax pE iq kd.lt
    (λk W=>Stp [bd] W3 W/\Boxed W bd 3 (.I (d+st * k))/\∀ j:Nat,j<k->Zx c kn (d+st * j)=false)
    (λk W=>(Stp [bd] W3 W/\Boxed W bd 3 (.I (d+st * k))/\∀ j:Nat,j<k->Zx c kn (d+st * j)=false)/\Zx c kn (d+st * k)=false)
    (λW=>Stp [bd,b8,b9] W3 W/\∃ k:Nat,k<=1000/\ZL (d+st * k)=true/\(∀ j:Nat,j<k->Zx c kn (d+st * j)=false)/\Zx c kn (d+st * k)=true/\W.cell? ⟨b8,0,none⟩=some (.I (d+st * k))/\W.cell? ⟨b9,0,none⟩=some (.I 0))
    ?hI ?hI' ?hIx ?hc ?hc' ?hstep ?h0 (λX=>{ tmps:=#[Z6O c hv cv zo zs hr,.I d,.I kn,.I st,pQ b4,undef,undef,undef,pQ b8,pQ b9,.pointer (some ⟨W2.heap.size,0,none⟩),.I X,.I d,.B true,.B false,Z6O c hv cv zo zs hr,.I kn,.func (.func 154) #[] #[pQ b2,pQ b3],.I d,.I st,.func (.func 212) #[] #[pQ bd,pQ bs],.I X,undef,undef,undef,undef,undef],defers:=[] }) ?hassign ?hbody ?hdone ?hstop
   case hI=>exact λk W W' ⟨a,b,e⟩ hB=>⟨sb a hB,(hB.block bd dY).trans b,e⟩
   case hI'=>exact λk W W' ⟨⟨a,b,e⟩,f⟩ hB=>⟨⟨sb a hB,(hB.block bd dY).trans b,e⟩,f⟩
   case hIx=>exact λW W' ⟨a,k,p1,p2,p3,p4,p5,p6⟩ hB=>⟨sb a hB,k,p1,p2,p3,p4,(World.cell?_of_block (hB.block b8 (by omega))).trans p5,(World.cell?_of_block (hB.block b9 (by omega))).trans p6⟩
   case hc=>exact λk W ⟨a,b,e⟩=>⟨b.cell,a.cell (by simp;omega) (ks.cell rfl)⟩
   case hc'=>exact λk W ⟨⟨a,b,e⟩,f⟩=>⟨b.cell,b.frozen,a.cell (by simp;omega) (ks.cell rfl)⟩
   case hstep=>
    rintro k W ⟨⟨a,b,e⟩,f⟩;have e1:d+st * ((k+1:Nat):Int)=d+st * k+st:=by rcases ax with rfl|rfl<;>omega
    refine ⟨a.trans (Zbr bd _ _),by rw [e1];exact b.set _,λj hj=>?_⟩;by_cases iC:j=k;subst iC;exact f;exact e j (by omega)
   case h0=>exact ⟨Stp.refl _ _,by rw [show d+st * ((0:Nat):Int)=d by simp];exact kd,λj hj=>absurd hj (Xw _)⟩
   case hassign=>
    intro l X W K hK
    gi_wp2
    exact hK
   case hbody=>
    rintro l k W ⟨a,bx,e⟩ iI bJ;have wL:=a.cell (b:=W2.heap.size) (o:=0) (by simp;omega) cE;obtain ⟨x0,x1⟩:=ZM.1 bJ
    gi_wp2
    refine ⟨trivial,(CallsIn.inRound l (callsIn_wide.2 (Zhd (d+st * k) kn b2 b3 c hv cv zo zs hr W (cal W a) (k2'.ext a (by simp;omega)) (k3'.ext a (by simp;omega)) x0 x1))).mono ?_⟩;rintro e5 W5 ⟨v,rfl,rfl,aD⟩;have a5:=a.trans aD.mn;cases dQ:Zft c kn (d+st * k) with
    | true=>
      gi_wp2
      exact ⟨λb h1 h2=>aD.block b h2 (by simp),⟨Blk.up (show Blk W bd 3 [.I (d+st * k)] from bx) aD,e⟩,by unfold Zx;rw [bJ,dQ];rfl⟩
    | false=>
      have f8:=Boxed.frozen (show Boxed W5 b8 3 (.I 0) from k8'.ext a5 (by simp;omega));have f9:=Boxed.frozen (show Boxed W5 b9 92 (.I 0) from k9'.ext a5 (by simp;omega));have c8:=Boxed.cell (show Boxed W5 b8 3 (.I 0) from k8'.ext a5 (by simp;omega));have c9:=Boxed.cell (show Boxed W5 b9 92 (.I 0) from k9'.ext a5 (by simp;omega))
      gi_wp2
      exact ⟨λb h1 h2=>((Z64 b8 b9 _ _ W5).block b (Xa h2 aD.size) (by simp;omega)).trans (aD.block b h2 (by simp)),a5.mn.trans ((Z64 b8 b9 _ _ W5).mn),k,iI,bJ,e,by unfold Zx;rw [bJ,dQ];rfl,rfl⟩
   case hdone=>
    rintro D k W hD eN ⟨a,bx,e⟩ gj;have f8:=Boxed.frozen (show Boxed W b8 3 (.I 0) from k8'.ext a (by simp;omega));have f9:=Boxed.frozen (show Boxed W b9 92 (.I 0) from k9'.ext a (by simp;omega));have c8:=Boxed.cell (show Boxed W b8 3 (.I 0) from k8'.ext a (by simp;omega));have c9:=Boxed.cell (show Boxed W b9 92 (.I 0) from k9'.ext a (by simp;omega))
    gi_wp2
    obtain ⟨y8,y9⟩:=ZfN c8 c9 n89 (.I 0) (.I 31);have wM:D<W.heap.size:=(Xm.1 gj).1;have nU:=((Z64 b8 b9 (.I 0) (.I 31) W).block D wM (by simp;omega)).trans gj;have gO:Jz (Zx c kn) st d=(0,31):=by
     unfold Jz;rw [hd,if_pos rfl];exact Z63 _ _ _ _ k e (eN.imp (λh=>by omega) id)
    refine ⟨by simp,.inl ⟨_,_,rfl,run_takeDeferred nU,_,ZeM rfl rfl ((World.cell?_of_block (World.putObj_heap_other (by show b8≠D;omega))).trans y8) ((World.cell?_of_block (World.putObj_heap_other (by show b9≠D;omega))).trans y9),?_,?_⟩⟩;rw [gO];have t1:=((ae.trans dD).ow a).own (Z64 b8 b9 (.I 0) (.I 31) W) (λx hx=>.inr (by simp at hx;omega));refine ⟨t1.os,t1.tape,t1.output,by simpa using t1.size,λq hq hn=>(World.putObj_heap_other (by omega)).trans (t1.block q hq hn)⟩
   case hstop=>
    rintro D W hD ⟨a,k,p1,p2,p3,p4,p5,p6⟩ gj
    gi_wp2
    obtain ⟨x0,x1⟩:=ZM.1 p2;have gO:Jz (Zx c kn) st d=(d+st * k,0):=by
     unfold Jz;rw [hd,if_pos rfl];refine Z8P _ _ _ _ k (by omega) (λj hj=>ZM.2 ?_) p3 p4;rcases ax with rfl|rfl<;>omega
    refine ⟨by simp,.inl ⟨_,_,rfl,run_takeDeferred gj,_,ZeM rfl rfl ((World.cell?_of_block (World.putObj_heap_other (by show b8≠D;omega))).trans p5) ((World.cell?_of_block (World.putObj_heap_other (by show b9≠D;omega))).trans p6),?_,?_⟩⟩;rw [gO];have t1:=(ae.trans dD).ow a;exact ⟨t1.os,t1.tape,t1.output,by simpa using t1.size,λq hq hn=>(World.putObj_heap_other (by omega)).trans (t1.block q hq hn)⟩
theorem Z3u (d kn st:Int) (c:Cal) (hv cv zo zs hr:Value) (w) (h:Z6N w c hv cv zo zs hr) (ax:st=1\/st=-1) :
 CC 84 #[Z6O c hv cv zo zs hr,.I d,.I kn,.I st] w λr w'=>r=.tuple #[.I (Jz (Zx c kn) st d).1,.I (Jz (Zx c kn) st d).2]/\Stp [] w w':=by
 refine Calls.mono (callsIn_wide.1 (ZkY d kn st ax c hv cv zo zs hr w h)) ?_;rintro e W' ⟨rfl,hS⟩;exact .mk ⟨rfl,hS⟩
theorem Za8 (d kn:Int) (c:Cal) (hv cv zo zs hr:Value) (w) (h:Z6N w c hv cv zo zs hr) :
 CC 52 #[Z6O c hv cv zo zs hr,.I d,.I kn] w λr w'=>r=.tuple #[.I (Jz (Zx c kn) (1) d).1,.I (Jz (Zx c kn) (1) d).2]/\Stp [] w w':=by
 refine cW3 14 Tryz.func52 ?_;refine W ?_;refine Z0 (Zq rfl) rfl ?_;rintro _ w1 ⟨b3,rfl,dN,ac,hS⟩;replace ac:Blk w1 b3 35 (Z0j c hv cv zo zs hr):=ac;replace h:=h.up hS;refine W ?_;refine CM (Z7v rfl rfl rfl rfl) (Z3u d kn (1) c hv cv zo zs hr _ h (by omega)) ?_;rintro _ w2 ⟨rfl,ah⟩;refine RT ?_;exact ⟨rfl,hS.trans ah⟩
theorem Z9s (d kn:Int) (c:Cal) (hv cv zo zs hr:Value) (w) (h:Z6N w c hv cv zo zs hr) :
 CC 210 #[Z6O c hv cv zo zs hr,.I d,.I kn] w λr w'=>r=.tuple #[.I (Jz (Zx c kn) (-1) d).1,.I (Jz (Zx c kn) (-1) d).2]/\Stp [] w w':=by
 refine cW3 14 Tryz.func210 ?_;refine W ?_;refine Z0 (Zq rfl) rfl ?_;rintro _ w1 ⟨b3,rfl,dN,ac,hS⟩;replace ac:Blk w1 b3 35 (Z0j c hv cv zo zs hr):=ac;replace h:=h.up hS;refine W ?_;refine CM (Z7v rfl rfl rfl rfl) (Z3u d kn (-1) c hv cv zo zs hr _ h (by omega)) ?_;rintro _ w2 ⟨rfl,ah⟩;refine RT ?_;exact ⟨rfl,hS.trans ah⟩
theorem ZnT (d n kn:Int) (c:Cal) (hv cv zo zs hr:Value) (w) (h:Z6N w c hv cv zo zs hr) :
 CC 209 #[Z6O c hv cv zo zs hr,.I d,.I n,.I kn] w λr w'=>r=.tuple #[.I (Z6A (Zx c kn) d n).1,.I (Z6A (Zx c kn) d n).2]/\Stp [] w w':=by
 refine cW4 46 Tryz.func209 ?_;refine W ?_;refine Z0 (Zq rfl) rfl ?_;rintro _ w1 ⟨b4,rfl,bz,ac,hS⟩;replace ac:Blk w1 b4 35 (Z0j c hv cv zo zs hr):=ac;replace h:=h.up hS;refine W ?_;refine CL (Z4e d _) ?_;rintro _ w1 ⟨rfl,rfl⟩;unfold Z6A;cases hd:ZL d with
 | false=>
   rw [if_neg (by simp)];refine RT ?_;exact ⟨rfl,hS⟩
 | true=>
   rw [if_pos rfl];by_cases hn:n < -1000\/1000<n
   . rw [if_pos hn]
     repeat'(first|refine W1 ?_|omega|refine VG ?_ ?_<;>intro hg|refine VC ?_ ?_<;>intro hc)
     all_goals refine WR ?_
     all_goals exact .mk ⟨rfl,hS⟩
   rw [if_neg hn];by_cases gQ:n<0;have ri:(n.natAbs:Int)=(-n):=by omega
   have rK:(if n<0 then (-1:Int) else 1)=-1:=by split<;>omega
   rw [rK];refine QO ?_
   refine Zt (σ:=Nat×Int) (λq=>[(1,.I q.2),(3,.I kn),(4,pQ b4),(10,.I (-1)),(28,.I (-n)),(29,.I (q.1:Int))])
    (λq w'=>q.1<=n.natAbs/\ZL q.2=true/\Z6z (Zx c kn) (-1) (n.natAbs - q.1) q.2=Z6z (Zx c kn) (-1) n.natAbs d/\Stp [] w1 w') (λq=>n.natAbs - q.1) (0,d) ⟨rfl,rfl,rfl,rfl,rfl,rfl,trivial⟩ ⟨Xp _,hd,rfl,Stp.refl _ _⟩ ?_
   rintro ⟨k,q⟩ w2 ⟨hk,hq,fC,ah⟩;dsimp only at hk hq fC ⊢;have aQ:=ac.up ah;have h2:=h.up ah;have wN:=ZM.1 hq;by_cases hlt:k<n.natAbs;have e1:n.natAbs - k=(n.natAbs - (k+1))+1:=by omega
   rw [e1,Z6z] at fC;refine QO ?_;refine CM (Z7v rfl rfl rfl rfl) (Z3u (q+(-1)) kn (-1) c hv cv zo zs hr _ h2 (by omega)) ?_;rintro _ w3 ⟨rfl,am⟩;by_cases he:(Jz (Zx c kn) (-1) (q+(-1))).2=0;rw [if_pos he] at fC;rw [he];refine W ?_;exact Zs (k+1,(Jz (Zx c kn) (-1) (q+(-1))).1) ⟨rfl,rfl,rfl,rfl,rfl,rfl,trivial⟩ ⟨by dsimp only;omega,(Z49 he).1,fC,ah.trans am⟩ (by dsimp only;omega);rw [if_neg he] at fC;refine QO ?_;refine WR ?_;rw [<- fC];exact .mk ⟨rfl,(hS.trans ah).trans am⟩;have e1:n.natAbs - k=0:=by omega
   rw [e1,Z6z] at fC;refine QO ?_;refine WR ?_;rw [<- fC];exact .mk ⟨rfl,hS.trans ah⟩;have ri:(n.natAbs:Int)=n:=by omega
   have rK:(if n<0 then (-1:Int) else 1)=1:=by split<;>omega
   rw [rK];refine QO ?_
   refine Zt (σ:=Nat×Int) (λq=>[(1,.I q.2),(3,.I kn),(4,pQ b4),(10,.I (1)),(28,.I n),(29,.I (q.1:Int))])
    (λq w'=>q.1<=n.natAbs/\ZL q.2=true/\Z6z (Zx c kn) (1) (n.natAbs - q.1) q.2=Z6z (Zx c kn) (1) n.natAbs d/\Stp [] w1 w') (λq=>n.natAbs - q.1) (0,d) ⟨rfl,rfl,rfl,rfl,rfl,rfl,trivial⟩ ⟨Xp _,hd,rfl,Stp.refl _ _⟩ ?_
   rintro ⟨k,q⟩ w2 ⟨hk,hq,fC,ah⟩;dsimp only at hk hq fC ⊢;have aQ:=ac.up ah;have h2:=h.up ah;have wN:=ZM.1 hq;by_cases hlt:k<n.natAbs;have e1:n.natAbs - k=(n.natAbs - (k+1))+1:=by omega
   rw [e1,Z6z] at fC;refine QO ?_;refine CM (Z7v rfl rfl rfl rfl) (Z3u (q+(1)) kn (1) c hv cv zo zs hr _ h2 (by omega)) ?_;rintro _ w3 ⟨rfl,am⟩;by_cases he:(Jz (Zx c kn) (1) (q+(1))).2=0;rw [if_pos he] at fC;rw [he];refine W ?_;exact Zs (k+1,(Jz (Zx c kn) (1) (q+(1))).1) ⟨rfl,rfl,rfl,rfl,rfl,rfl,trivial⟩ ⟨by dsimp only;omega,(Z49 he).1,fC,ah.trans am⟩ (by dsimp only;omega);rw [if_neg he] at fC;refine QO ?_;refine WR ?_;rw [<- fC];exact .mk ⟨rfl,(hS.trans ah).trans am⟩;have e1:n.natAbs - k=0:=by omega
   rw [e1,Z6z] at fC;refine QO ?_;refine WR ?_;rw [<- fC];exact .mk ⟨rfl,hS.trans ah⟩
theorem Z9t (d n:Int) (w) (hL:Z0z w) (h0:0<=d) (h1:d<=3652058) :
 CC 208 #[.I d,.I n] w λr w'=>r=.tuple #[.I (ZcK d n).1,.I (ZcK d n).2]/\Stp [] w w':=by
 obtain ⟨y1,y2,m1,m2,d1,d2,jy⟩:=Z5m h0 h1;have bJ:ZL d=true:=ZM.2 ⟨h0,h1⟩;have g1:3<w.heap.size:=by have:=block_lt_of_cell (hL 0 0 rfl);simpa using this
 unfold ZcK;refine cW2 56 Tryz.func208 ?_;by_cases hn:n < -200000\/200000<n
 . rw [if_pos hn]
   repeat'(first|refine W1 ?_|omega|refine VG ?_ ?_<;>intro hg|refine VC ?_ ?_<;>intro hc)
   all_goals refine WR ?_
   all_goals exact .mk ⟨rfl,Stp.refl _ _⟩
 rw [if_neg hn,if_pos bJ];refine QO ?_;refine CL (Z7K d _ h0 h1) ?_;rintro _ w1 ⟨rfl,hS⟩;replace hL:=hL.up hS;refine W ?_;refine Z0 Z2 rfl ?_;rintro _ w2 ⟨b6,rfl,ez,e6,ah⟩;refine W ?_;refine SB (us:=[.I (ofM d).y,.I (ofM d).m,.I (ofM d).d]) (by intro u hu;simp at hu;rcases hu with rfl|rfl|rfl<;>rfl) e6 ?_;rintro _ w3 ⟨hT,k6⟩;have lh:w.heap.size<=b6:=by have:=hS.size;omega
 replace hS:=hS.trans (ah.ow hT);replace hL:=hL.up (ah.ow hT);clear e6 hT ah;generalize hM:12 * (ofM d).y+(ofM d).m - 1+n=M;by_cases hr:M<12\/120000<=M
 . rw [if_pos hr]
   refine W ?_;rw [hM];repeat'(first|refine W1 ?_|omega|refine VG ?_ ?_<;>intro hg|refine VC ?_ ?_<;>intro hc)
   all_goals refine WR ?_
   all_goals exact .mk ⟨rfl,hS⟩
 rw [if_neg hr];have ft:=Z1l (M / 12) (M % 12+1);have cV:=Z2t (y:=M / 12) (k:=(M % 12).toNat) (by omega);rw [show (((M % 12).toNat:Int))=M % 12 by omega] at cV;refine W ?_;rw [hM];refine QO ?_;refine S1 (u:=.I (M / 12)) k6 ?_;rintro _ w4 ⟨aI,k6⟩;refine W ?_;refine S1 (u:=.I (M % 12+1)) k6 ?_;rintro _ w5 ⟨aD,k6⟩;replace hL:=(hL.ext aI (by simp;omega)).ext aD (by simp;omega);replace hS:=(hS.ow aI).ow aD;clear aI aD;refine W ?_;refine ZDr 10 [] [9] [(0,0),(1,1),(2,0),(3,1),(4,0),(5,1),(6,2),(7,0),(8,0),(9,2)] (λw1 ae=>?_);replace hL:=hL.up ae;replace k6:=k6.up ae;replace hS:=hS.trans ae;clear ae;refine D ?_;refine Za rfl trivial (Z4 rfl (Zf rfl rfl) (Z3k (M / 12) (M % 12+1) _ hL (by omega) (by omega))) (λ_ _ h=>by rw [h.2];exact Stp.refl _ _) rfl ?_;rintro _ _ ⟨rfl,rfl⟩;refine D ?_;refine Jr rfl trivial (Zb (u:=.I (min (ofM d).d (ZI (M / 12) (M % 12+1)))) rfl rfl rfl rfl k6 (by simp)) rfl ?_;rintro _ w6 ⟨dp,k6⟩;replace hS:=hS.ow dp;refine D ?_;refine W ?_;refine CM (ZN rfl) (Z5n (M / 12) (M % 12+1) (min (ofM d).d (ZI (M / 12) (M % 12+1))) _ (by omega) (by omega) (by omega) (by omega) (by omega) (by omega) (by omega)) ?_;rintro _ w7 ⟨rfl,aR⟩;refine RT ?_;exact ⟨rfl,hS.trans aR⟩
theorem ZnU (a b:Int) (w):(Instr.build 75 #[(0,.I a),(1,.I b)]).run Tryz.prog w=.ok (agg ((a,b):Spn)) w:=by kernel_rfl
theorem ZkZ (d:Spn) (w):(Instr.buildSlice 27 1 #[(0,agg d)]).run Tryz.prog w=.ok (.slice (some ⟨w.heap.size,0,none⟩) 1 1) (w.alloc (.cells (Z3.enc d).toArray 75)):=by kernel_rfl
section
variable {K:MK} {w w':World} {sv pv:Value} {st:List Int} {sp:List Spn} {at_ er:Int} {dn:Bool}
theorem Mch.cal (hK:KOk K) (h:Mch K w sv pv st sp at_ er dn):Z6N w K.c K.hv K.cv K.zo K.zs K.hr:=
 ⟨(h.hols hK).ext (Stp.refl [] w) (by simp) (by simp),(h.clos hK).ext (Stp.refl [] w) (by simp) (by simp),h.len hK,h.mov hK,hK.cal⟩
theorem Mch.spans (hK:KOk K) (h:Mch K w sv pv st sp at_ er dn) {bs:Nat} (hk:K.nk=some bs) {pv':Value} {sp':List Spn} {w2:World} (hS:Stp (ob pv) w w') (hr:Row [] w' K.w0.heap.size 75 pv' sp') (ho:∀ b∈ob pv',b∈ob pv\/w.heap.size<=b)
 (ah:Stp [bs] w' w2) (hb:Blk w2 bs 27 [pv']):Mch K w2 sv pv' st sp' at_ er dn:=by
 have lk:=hK.bml;have hn:=hK.nkl bs hk;obtain ⟨h1,h2⟩:=h.nt bs hk;have kY:=λb hb=>(hr.ob_le b hb).1;have gf:=λb hb=>(h2.ob_le b hb).1;have rL:=λb hb=>(h.row.ob_le b hb).1;have rM:=λb hb=>(h.row.ob_le b hb).2;refine ⟨(h.blk.ext hS (λhx=>by have:=gf _ hx;omega)).ext ah (by have:=hn.2;simp;exact λe=>this e.symm),(h.row.keep hS (λb hb hp=>h.ap b hp hb)).keep ah (λb hb hx=>by have:=rL _ hx;simp at hb;omega),λbs' dK=>?_,(λh0=>by rw [hk] at h0;cases h0),λb hb hp=>?_,?_,λp hp=>?_⟩;have dK:bs'=bs:=by rw [hk] at dK;exact (X2 dK).symm
 subst dK;exact ⟨hb,hr.keep ah (λb hb hx=>by have:=kY _ hx;simp at hb;omega)⟩;rcases ho b hp with h3|h3
 exact h.ap b hb h3;have:=rM b hb;omega;exact (h.stp.own (S':=ob pv) hS (λb hb=>.inr (gf b hb))).trans (ah.mono (by simp [MK.own,hk]));obtain ⟨a,b,c,d⟩:=h.prot p hp;have hlt:=(Xm.1 a).1;have a2:=(hS.block p.1 hlt d).trans a;have a3:=(ah.block p.1 (Xm.1 a2).1 (λe=>b (by simp at e;rw [e];simp [MK.own,hk]))).trans a2;exact ⟨a3,b,c,λh3=>(ho _ h3).elim d (λh4=>by omega)⟩
theorem Zhe (hK:KOk K) (h:Mch K w sv pv st sp at_ er dn) {bs:Nat} (hk:K.nk=some bs) (a b:Int) (hl:sp.length<=100000) :
 CC 80 #[.I a,.I b,pQ bs] w λr w'=>r=.tuple #[]/\∃ pv',Mch K w' sv pv' st (sp++[(a,b)]) at_ er dn:=by
 obtain ⟨ac,ab⟩:=h.nt bs hk;have hn:=hK.nkl bs hk;have gf:=λb hb=>(ab.ob_le b hb).1;refine cW3 11 Tryz.func80 ?_;refine W ?_;refine Z7 (vs:=[(0,.I a),(1,.I b)]) rfl (ZnU _ _) rfl ?_;refine Z0 (Z1 (vs:=[(0,agg ((a,b):Spn))]) rfl (ZkZ _)) rfl ?_;rintro bv w1 hN;have ae:=Z9.stp hN;have an:SlV (ob pv++[]) w1 bv [((a,b):Spn)]:=hN.slv (λb hb=>by simp at hb;exact (ab.ob_le b hb).2) rfl rfl (by simp [maxLen]);replace h:=h.up ae;replace ab:=ab.up ae;replace ac:=ac.up ae;refine Z0 (ZQ rfl (by decide) rfl rfl ab an (by simp;omega) (by simp [maxLen];omega) (h.stp.size)) rfl ?_;rintro pv' w2 ⟨dm,ah,ho⟩;have aQ:=ac.ext ah (λhx=>by have:=gf _ hx;omega);refine W ?_;have h1:=dm.slv (X:=[]) (by simp);refine Z5 (Zb (u:=pv') rfl rfl h1.cells h1.one aQ (by simp)) ?_;rintro _ w3 ⟨am,aK⟩;refine RT ?_;exact ⟨rfl,pv',h.spans hK hk ah dm ho am aK⟩
theorem Z7N {P:Nat} {e:Env} {d:Option Nat} {ty:TypeId} {pos:String} {af:Array Edge} {g:Option (Nat×Bool)} {x y z:Operand} {ts:Array TypeId} (hK:KOk K) (h:Mch K w sv pv st sp at_ er dn) {a b:Int} (hl:sp.length<=100000)
 (hx:ev e x=some (ZoP K.nk)) (hy:ev e y=some (.I a)) (hz:ev e z=some (.I b)) :
 OE Tryz.prog P ⟨d,.call { callee:=.value x,args:=#[y,z],argTypes:=ts },ty,pos,af,g⟩ e w (λv w'=>v=.tuple #[]/\∃ pv',Mch K w' sv pv' st (sp++[(a,b)]) at_ er dn):=by
 cases hk:K.nk with
 | none=>
   exact absurd hk hK.nks
 | some bs=>
   rw [hk] at hx;exact Z0l (f:=80) hx (Zf hy hz) rfl (Zhe hK h hk a b hl)
theorem Res.err {r:Int×Int} {st':List Int} {sp':List Spn} (h:Res K w st sp at_ r) (he:¬ r.2=0):Res K w st' sp' at_ r:=by
 obtain ⟨a,b,c,d,h1,h2⟩:=h;exact ⟨a,b,c,d,h1,λh0=>absurd h0 he⟩
theorem ZnV (hK:KOk K) {a b:Int} (h:Mch K w sv pv (st++[a,b]) sp at_ 0 false) (hl:st.length<=100000) (n:Int) (hr:ZL a=true) :
 CC 142 #[mP K,.I n] w λr w'=>r=.tuple #[]/\Res K w' st sp at_ (ZcK a b):=by
 obtain ⟨d0,d1⟩:=ZM.1 hr;refine cW2 18 Tryz.func142 ?_;refine W ?_;refine CL (Z09 hK h) ?_;rintro _ w1 ⟨rfl,sv1,h1⟩;refine W ?_;refine CL (Z9t a b _ (h1.len hK) d0 d1) ?_;rintro _ w2 ⟨rfl,hS⟩;replace h1:=h1.up hS;refine W ?_;refine CL (Z0t hK h1 hl _ _) ?_;rintro _ w3 ⟨rfl,h2⟩;refine RT ?_;exact ⟨rfl,h2⟩
theorem Zxa (hK:KOk K) {b:Int} (h:Mch K w sv pv (st++[b]) sp at_ 0 false) (hl:st.length<=100000) (gF:sp.length<=100000) (n:Int) :
 CC 144 #[mP K,.I n] w λr w'=>r=.tuple #[]/\Res K w' st (sp++[(b,(Jz (Zx K.c K.kn) 1 b).1)]) at_ (Jz (Zx K.c K.kn) (1) b):=by
 refine cW2 35 Tryz.func144 ?_;refine W ?_;refine CL (Z3s hK h) ?_;rintro _ w1 ⟨rfl,sv1,h1⟩;refine W ?_;refine ZDr 15 [] [] [(0,0),(1,0),(2,0),(3,1),(4,0),(5,0),(6,0),(7,0),(8,1),(9,2),(10,0),(11,0),(12,0),(13,0),(14,0)] (λw1 ae=>?_);replace h1:=h1.up ae;have ac:=h1.blk;unfold Z5V at ac;refine D ?_;refine ZP rfl trivial (λw' aN=>Zl (us:=Z0j K.c K.hv K.cv K.zo K.zs K.hr) rfl rfl (ac.up aN) rfl rfl) rfl ?_;refine D ?_;refine DC (Za8 b K.kn K.c K.hv K.cv K.zo K.zs K.hr _ (h1.cal hK)) (λ_ _ h=>h.2) ?_;rintro _ w2 ⟨rfl,ah⟩;replace h1:=h1.up ah;replace ac:=ac.up ah;refine D ?_;by_cases he:(Jz (Zx K.c K.kn) (1) b).2=0;refine QO ?_;refine Z0 (Z7N hK h1 gF rfl rfl rfl) rfl ?_;rintro _ w3 ⟨rfl,pv1,h2⟩;refine W ?_;refine CL (Z0t hK h2 hl _ _) ?_;rintro _ w4 ⟨rfl,h3⟩;refine RT ?_;exact ⟨rfl,h3⟩;refine QO ?_;refine CL (Z0t hK h1 hl _ _) ?_;rintro _ w4 ⟨rfl,h3⟩;refine RT ?_;exact ⟨rfl,h3.err he⟩
theorem Zxb (hK:KOk K) {b:Int} (h:Mch K w sv pv (st++[b]) sp at_ 0 false) (hl:st.length<=100000) (gF:sp.length<=100000) (n:Int) :
 CC 145 #[mP K,.I n] w λr w'=>r=.tuple #[]/\Res K w' st (sp++[((Jz (Zx K.c K.kn) (-1) b).1,b)]) at_ (Jz (Zx K.c K.kn) (-1) b):=by
 refine cW2 35 Tryz.func145 ?_;refine W ?_;refine CL (Z3s hK h) ?_;rintro _ w1 ⟨rfl,sv1,h1⟩;refine W ?_;refine ZDr 15 [] [] [(0,0),(1,0),(2,0),(3,1),(4,0),(5,0),(6,0),(7,0),(8,1),(9,2),(10,0),(11,0),(12,0),(13,0),(14,0)] (λw1 ae=>?_);replace h1:=h1.up ae;have ac:=h1.blk;unfold Z5V at ac;refine D ?_;refine ZP rfl trivial (λw' aN=>Zl (us:=Z0j K.c K.hv K.cv K.zo K.zs K.hr) rfl rfl (ac.up aN) rfl rfl) rfl ?_;refine D ?_;refine DC (Z9s b K.kn K.c K.hv K.cv K.zo K.zs K.hr _ (h1.cal hK)) (λ_ _ h=>h.2) ?_;rintro _ w2 ⟨rfl,ah⟩;replace h1:=h1.up ah;replace ac:=ac.up ah;refine D ?_;by_cases he:(Jz (Zx K.c K.kn) (-1) b).2=0;refine QO ?_;refine Z0 (Z7N hK h1 gF rfl rfl rfl) rfl ?_;rintro _ w3 ⟨rfl,pv1,h2⟩;refine W ?_;refine CL (Z0t hK h2 hl _ _) ?_;rintro _ w4 ⟨rfl,h3⟩;refine RT ?_;exact ⟨rfl,h3⟩;refine QO ?_;refine CL (Z0t hK h1 hl _ _) ?_;rintro _ w4 ⟨rfl,h3⟩;refine RT ?_;exact ⟨rfl,h3.err he⟩
theorem ZtE (hK:KOk K) {a b:Int} (h:Mch K w sv pv (st++[a,b]) sp at_ 0 false) (hl:st.length<=100000) (gF:sp.length<=100000) (n:Int) (hr:ZL a=true) :
 CC 143 #[mP K,.I n] w λr w'=>r=.tuple #[]/\Res K w' st (sp++JZ 18 a b (Z6A (Zx K.c K.kn) a b).1) at_ (Z6A (Zx K.c K.kn) a b):=by
 obtain ⟨d0,d1⟩:=ZM.1 hr;refine cW2 57 Tryz.func143 ?_;refine W ?_;refine CL (Z09 hK h) ?_;rintro _ w1 ⟨rfl,sv1,h1⟩;refine W ?_;refine ZDr 16 [] [] [(0,0),(1,0),(2,0),(3,1),(4,0),(5,0),(6,0),(7,0),(8,0),(9,1),(10,2),(11,0),(12,0),(13,0),(14,0),(15,0)] (λw1 ae=>?_);replace h1:=h1.up ae;have ac:=h1.blk;unfold Z5V at ac;refine D ?_;refine ZP rfl trivial (λw' aN=>Zl (us:=Z0j K.c K.hv K.cv K.zo K.zs K.hr) rfl rfl (ac.up aN) rfl rfl) rfl ?_;refine D ?_;refine DC (ZnT a b K.kn K.c K.hv K.cv K.zo K.zs K.hr _ (h1.cal hK)) (λ_ _ h=>h.2) ?_;rintro _ w2 ⟨rfl,ah⟩;replace h1:=h1.up ah;replace ac:=ac.up ah;refine D ?_;have bC:JZ 18 a b (Z6A (Zx K.c K.kn) a b).1=if 0<b then [(a+1,(Z6A (Zx K.c K.kn) a b).1)] else if b<0 then [((Z6A (Zx K.c K.kn) a b).1,a - 1)] else []:=rfl
 rw [bC];by_cases he:(Z6A (Zx K.c K.kn) a b).2=0;by_cases mc:b=0;rw [if_neg (by omega),if_neg (by omega),XG];refine QO ?_;refine CL (Z0t hK h1 hl _ _) ?_;rintro _ w4 ⟨rfl,h3⟩;refine RT ?_;exact ⟨rfl,h3⟩;by_cases aW:0<b;rw [if_pos aW];refine QO ?_;refine Z0 (Z7N hK h1 gF rfl rfl rfl) rfl ?_;rintro _ w3 ⟨rfl,pv1,h2⟩;refine W ?_;refine CL (Z0t hK h2 hl _ _) ?_;rintro _ w4 ⟨rfl,h3⟩;refine RT ?_;exact ⟨rfl,h3⟩;rw [if_neg aW,if_pos (by omega)];refine QO ?_;refine Z0 (Z7N hK h1 gF rfl rfl rfl) rfl ?_;rintro _ w3 ⟨rfl,pv1,h2⟩;refine W ?_;refine CL (Z0t hK h2 hl _ _) ?_;rintro _ w4 ⟨rfl,h3⟩;refine RT ?_;exact ⟨rfl,h3⟩;refine QO ?_;refine CL (Z0t hK h1 hl _ _) ?_;rintro _ w4 ⟨rfl,h3⟩;refine RT ?_;exact ⟨rfl,h3.err he⟩
end
structure Zde (code:List Ins) (st:List (Option Shp)) (i:Nat) (s nx:Shp):Prop where
 at_:st.getD i none=some s
 next:Jj (code.getD i ⟨0,0⟩) s=some nx
 stop:(code.getD i ⟨0,0⟩).op=24->i+1=st.length/\s.length=1
 jump:(code.getD i ⟨0,0⟩).op=13\/(code.getD i ⟨0,0⟩).op=14->(i:Int)<(code.getD i ⟨0,0⟩).n/\(code.getD i ⟨0,0⟩).n<st.length/\st.getD (code.getD i ⟨0,0⟩).n.toNat none=some nx
 on:(code.getD i ⟨0,0⟩).op≠24->(code.getD i ⟨0,0⟩).op≠13->i+1<st.length/\st.getD (i+1) none=some nx
theorem Z2y {st st':List (Option Shp)} {t:Int} {nx:Shp} (h:JF st t nx=some st'):(∀ i s,st.getD i none=some s->st'.getD i none=some s)/\0<=t/\t<st.length/\st'.getD t.toNat none=some nx:=by
 unfold JF at h;split at h;rename_i hr;split at h;rename_i s0 ba;split at h;rename_i he;subst he;cases h;exact ⟨λi s h=>h,hr.1,hr.2,ba⟩;cases h;rename_i hn;cases h;refine ⟨λi s h=>?_,hr.1,hr.2,?_⟩;by_cases hi:t.toNat=i;subst hi;rw [hn] at h;cases h;have:(st.set t.toNat (some nx)).getD i none=st.getD i none:=by
  simp [List.getD,hi]
 rw [this];exact h;have:t.toNat<st.length:=by omega
 simp [List.getD,this];cases h
theorem Zde.keeps {code:List Ins} {st st':List (Option Shp)} {i:Nat} {s nx:Shp} (h:Zde code st i s nx) (hk:∀ i s,st.getD i none=some s->st'.getD i none=some s) (hl:st'.length=st.length):Zde code st' i s nx:=
 ⟨hk _ _ h.at_,h.next,λh1=>by rw [hl];exact h.stop h1,λh1=>by rw [hl];exact ⟨(h.jump h1).1,(h.jump h1).2.1,hk _ _ (h.jump h1).2.2⟩,λh1 h2=>by rw [hl];exact ⟨(h.on h1 h2).1,hk _ _ (h.on h1 h2).2⟩⟩
theorem Zhf {code:List Ins} {st st':List (Option Shp)} {i:Nat} (h:JN st i (code.getD i ⟨0,0⟩)=some st'):(∀ i s,st.getD i none=some s->st'.getD i none=some s)/\st'.length=st.length/\∃ s nx,Zde code st' i s nx:=by
 unfold JN at h;cases hs:st.getD i none with
 | none=>rw [hs] at h;cases h
 | some s=>
   rw [hs] at h;dsimp only at h;cases hn:Jj (code.getD i ⟨0,0⟩) s with
   | none=>rw [hn] at h;cases h
   | some nx=>
     rw [hn] at h;dsimp only at h;by_cases de:(code.getD i ⟨0,0⟩).op=24;rw [if_pos de] at h;split at h;rename_i hc;cases h;exact ⟨λ_ _ h=>h,rfl,s,nx,hs,hn,λ_=>hc,λh=>by omega,λh=>absurd de h⟩;cases h;rw [if_neg de] at h;by_cases cX:(code.getD i ⟨0,0⟩).op=13;rw [if_pos cX] at h;split at h;rename_i hc;obtain ⟨k1,k2,k3,k4⟩:=Z2y h;have hl:=JA h;exact ⟨k1,hl,s,nx,k1 _ _ hs,hn,λh=>absurd h de,λ_=>⟨hc,by omega,k4⟩,λ_ h=>absurd cX h⟩;cases h;rw [if_neg cX] at h;by_cases eh:(code.getD i ⟨0,0⟩).op=14;rw [if_pos eh] at h;split at h;rename_i hc;obtain ⟨s1,r1,r2⟩:=X1.1 h;obtain ⟨k1,k2,k3,k4⟩:=Z2y r1;obtain ⟨m1,m2,m3,m4⟩:=Z2y r2;have hl:=JA r1;have d8:=JA r2;exact ⟨λi s h=>m1 _ _ (k1 _ _ h),by omega,s,nx,m1 _ _ (k1 _ _ hs),hn,λh=>absurd h de,λ_=>⟨hc,by omega,m1 _ _ k4⟩,λ_ _=>⟨by omega,m4⟩⟩;cases h;rw [if_neg eh] at h;obtain ⟨k1,k2,k3,k4⟩:=Z2y h;have hl:=JA h;exact ⟨k1,hl,s,nx,k1 _ _ hs,hn,λh=>absurd h de,λh=>absurd h (not_or.2 ⟨cX,eh⟩),λ_ _=>⟨by omega,k4⟩⟩
theorem Zdf {code:List Ins} {st0:List (Option Shp)}:∀ (k:Nat) (st:List (Option Shp)),Z3F code k st0=some st->(∀ i s,st0.getD i none=some s->st.getD i none=some s)/\st.length=st0.length/\∀ i,i<k->∃ s nx,Zde code st i s nx
 | 0,st,h=>by cases h;exact ⟨λ_ _ h=>h,rfl,λi hi=>by omega⟩
 | k + 1, st, h => by
   obtain ⟨s1,h1,h2⟩:=X1.1 h;obtain ⟨a1,a2,a3⟩:=Zdf k s1 h1;obtain ⟨b1,b2,b3⟩:=Zhf h2;refine ⟨λi s h=>b1 _ _ (a1 _ _ h),by omega,λi hi=>?_⟩;by_cases hk:i=k;subst hk;exact b3;obtain ⟨s,nx,hg⟩:=a3 i (by omega);exact ⟨s,nx,hg.keeps b1 b2⟩
theorem Z8Q {code:List Ins} {t:Int} (h:Z29 code=(t,0)):0<code.length/\code.length<=200/\∃ st:List (Option Shp),st.length=code.length/\ZcE st/\(∀ s,some s∈st->s.length<=16)/\st.getD 0 none=some []/\st.getD (code.length - 1) none=some [t]/\∀ i,i<code.length->∃ s nx,Zde code st i s nx:=by
 unfold Z29 at h;by_cases hl:code.length=0\/code.length > 200;rw [if_pos hl] at h;cases h;rw [if_neg hl] at h;cases hr:Z3F code code.length (some [] :: List.replicate (code.length - 1) none) with
 | none=>rw [hr] at h;cases h
 | some st=>
   rw [hr] at h;dsimp only at h;obtain ⟨a1,a2,a3⟩:=Zdf _ _ hr;have h0:ZcE ((some []) :: List.replicate (code.length - 1) none):=by
    intro s hs;simp at hs;subst hs;intro k hk;cases hk
   have ai:st.length=code.length:=by rw [a2];simp;omega
   have gG:∀ (k:Nat) (st:List (Option Shp)),Z3F code k (some [] :: List.replicate (code.length - 1) none)=some st->∀ s,some s∈st->s.length<=16:=by
    intro k
    induction k with
    | zero=>
      intro st h s hs;cases h;simp at hs;subst hs;simp
    | succ k ih=>
      intro st h;obtain ⟨s1,h1,h2⟩:=X1.1 h;exact Zki (ih s1 h1) h2
   refine ⟨by omega,by omega,st,ai,(Zkf h0 _ _ hr).1,gG _ _ hr,a1 0 [] rfl,?_,a3⟩;obtain ⟨s,nx,hg⟩:=a3 (code.length - 1) (by omega);have jq:=hg.at_;rw [jq] at h ⊢;by_cases de:(code.getD (code.length - 1) ⟨0,0⟩).op=24;have:=(hg.stop de).2;obtain ⟨k,rfl⟩:=Ybd.1 this;simp at h;rw [h];by_cases cX:(code.getD (code.length - 1) ⟨0,0⟩).op=13;have:=hg.jump (.inl cX);omega;have:=hg.on de cX;omega
abbrev Zl0:List (Int×Value):=[(1,fnV 128),(2,fnV 128),(3,fnV 128),(4,fnV 129),
 (5,fnV 130),(6,fnV 131),(7,fnV 132),(8,fnV 133),
 (9,fnV 134),(10,fnV 135),(11,fnV 136),(12,fnV 137),
 (13,fnV 138),(14,fnV 139),(15,fnV 140),(16,fnV 141),
 (17,fnV 142),(18,fnV 143),(19,fnV 144),(20,fnV 145),
 (21,fnV 146),(22,fnV 147),(23,fnV 148),(24,fnV 149)]
abbrev Zxc (z:Int):Value:=.I z
theorem Zhg (w):CC 81 #[] w λr w'=>∃ m,r=.map (some m)/\w.heap.size<=m/\JM Zxc w' m Zl0/\Stp [] w w':=by
 refine cW0 3 Tryz.func81 ?_;refine W ?_;refine Z0 (Z13 Zxc) rfl ?_;rintro _ w1 ⟨m,rfl,hm,au,hS⟩;refine Z5 (Zu (a:=(1:Int)) rfl rfl rfl au (by decide)) ?_;clear au;rintro _ w2 ⟨au,hT⟩;replace hS:=hS.ow hT;clear hT;refine Z5 (Zu (a:=(2:Int)) rfl rfl rfl au (by decide)) ?_;clear au;rintro _ w2 ⟨au,hT⟩;replace hS:=hS.ow hT;clear hT;refine Z5 (Zu (a:=(3:Int)) rfl rfl rfl au (by decide)) ?_;clear au;rintro _ w2 ⟨au,hT⟩;replace hS:=hS.ow hT;clear hT;refine Z5 (Zu (a:=(4:Int)) rfl rfl rfl au (by decide)) ?_;clear au;rintro _ w2 ⟨au,hT⟩;replace hS:=hS.ow hT;clear hT;refine Z5 (Zu (a:=(5:Int)) rfl rfl rfl au (by decide)) ?_;clear au;rintro _ w2 ⟨au,hT⟩;replace hS:=hS.ow hT;clear hT;refine Z5 (Zu (a:=(6:Int)) rfl rfl rfl au (by decide)) ?_;clear au;rintro _ w2 ⟨au,hT⟩;replace hS:=hS.ow hT;clear hT;refine Z5 (Zu (a:=(7:Int)) rfl rfl rfl au (by decide)) ?_;clear au;rintro _ w2 ⟨au,hT⟩;replace hS:=hS.ow hT;clear hT;refine Z5 (Zu (a:=(8:Int)) rfl rfl rfl au (by decide)) ?_;clear au;rintro _ w2 ⟨au,hT⟩;replace hS:=hS.ow hT;clear hT;refine Z5 (Zu (a:=(9:Int)) rfl rfl rfl au (by decide)) ?_;clear au;rintro _ w2 ⟨au,hT⟩;replace hS:=hS.ow hT;clear hT;refine Z5 (Zu (a:=(10:Int)) rfl rfl rfl au (by decide)) ?_;clear au;rintro _ w2 ⟨au,hT⟩;replace hS:=hS.ow hT;clear hT;refine Z5 (Zu (a:=(11:Int)) rfl rfl rfl au (by decide)) ?_;clear au;rintro _ w2 ⟨au,hT⟩;replace hS:=hS.ow hT;clear hT;refine Z5 (Zu (a:=(12:Int)) rfl rfl rfl au (by decide)) ?_;clear au;rintro _ w2 ⟨au,hT⟩;replace hS:=hS.ow hT;clear hT;refine Z5 (Zu (a:=(13:Int)) rfl rfl rfl au (by decide)) ?_;clear au;rintro _ w2 ⟨au,hT⟩;replace hS:=hS.ow hT;clear hT;refine Z5 (Zu (a:=(14:Int)) rfl rfl rfl au (by decide)) ?_;clear au;rintro _ w2 ⟨au,hT⟩;replace hS:=hS.ow hT;clear hT;refine Z5 (Zu (a:=(15:Int)) rfl rfl rfl au (by decide)) ?_;clear au;rintro _ w2 ⟨au,hT⟩;replace hS:=hS.ow hT;clear hT;refine Z5 (Zu (a:=(16:Int)) rfl rfl rfl au (by decide)) ?_;clear au;rintro _ w2 ⟨au,hT⟩;replace hS:=hS.ow hT;clear hT;refine Z5 (Zu (a:=(17:Int)) rfl rfl rfl au (by decide)) ?_;clear au;rintro _ w2 ⟨au,hT⟩;replace hS:=hS.ow hT;clear hT;refine Z5 (Zu (a:=(18:Int)) rfl rfl rfl au (by decide)) ?_;clear au;rintro _ w2 ⟨au,hT⟩;replace hS:=hS.ow hT;clear hT;refine Z5 (Zu (a:=(19:Int)) rfl rfl rfl au (by decide)) ?_;clear au;rintro _ w2 ⟨au,hT⟩;replace hS:=hS.ow hT;clear hT;refine Z5 (Zu (a:=(20:Int)) rfl rfl rfl au (by decide)) ?_;clear au;rintro _ w2 ⟨au,hT⟩;replace hS:=hS.ow hT;clear hT;refine Z5 (Zu (a:=(21:Int)) rfl rfl rfl au (by decide)) ?_;clear au;rintro _ w2 ⟨au,hT⟩;replace hS:=hS.ow hT;clear hT;refine Z5 (Zu (a:=(22:Int)) rfl rfl rfl au (by decide)) ?_;clear au;rintro _ w2 ⟨au,hT⟩;replace hS:=hS.ow hT;clear hT;refine Z5 (Zu (a:=(23:Int)) rfl rfl rfl au (by decide)) ?_;clear au;rintro _ w2 ⟨au,hT⟩;replace hS:=hS.ow hT;clear hT;refine Z5 (Zu (a:=(24:Int)) rfl rfl rfl au (by decide)) ?_;clear au;rintro _ w2 ⟨au,hT⟩;replace hS:=hS.ow hT;clear hT;refine RT ?_;exact ⟨m,rfl,hm,au,hS⟩
theorem ZeN {x:Ins} {s nx:Shp} {st:List Int} (hn:Jj x s=some nx) (hs:Z0q s st):(Zz x).2.2.2=true/\∃ st0 vs ts,st=st0++vs/\(ts=(Zz x).1\/(Zz x).2.1≠[]/\ts=(Zz x).2.1)/\Z0q ts vs:=by
 unfold Jj at hn;dsimp only at hn;split at hn;rename_i hc;obtain ⟨c1,c2,c3,c4⟩:=hc;exact ⟨c1,st.take (s.length - (Zz x).1.length),st.drop (s.length - (Zz x).1.length),_,(XO _ _).symm,c3,hs.drop _⟩;cases hn
def Z0o (K:MK) (w:World) (x:Ins) (st:List Int) (sp:List Spn) (sv pv:Value) (at_:Int):Prop:=
 if x.op=24 then Mch K w sv pv st sp at_ 0 true
 else if x.op=13 then Mch K w sv pv st sp x.n 0 false
 else if x.op=14 then ∃ sv',Mch K w sv' pv st.dropLast sp (if Z07 st 0=0 then x.n else at_) 0 false
 else Res K w (st.take (st.length - arM x.op)) (sp++JZ x.op (Z07 st 1) (Z07 st 0) (Z0d (Zx K.c K.kn) K.ev x (Z07 st 1) (Z07 st 0)).1) at_ (Z0d (Zx K.c K.kn) K.ev x (Z07 st 1) (Z07 st 0))
theorem Z65 {t v:Int} (h:vOk t v):-2147483647<=v/\v<=2147483647:=by unfold vOk at h;omega
theorem Zy8 {t u a b:Int} (ha:vOk t a) (hb:vOk u b):I64 (a * b):=by
 have h1:=Z65 ha;have h2:=Z65 hb;have h3:(a * b).natAbs<=2147483647 * 2147483647:=by rw [Int.natAbs_mul];exact Ybf (by omega) (by omega)
 unfold I64;omega
section
variable {K:MK} {w w':World} {sv pv:Value} {st:List Int} {sp:List Spn} {at_ er:Int} {dn:Bool}
theorem ZnW {P:Nat} {e:Env} {d:Option Nat} {ty:TypeId} {pos:String} {af:Array Edge} {g:Option (Nat×Bool)} {y1 y2 y3:Operand} {ts:Array TypeId} (hK:KOk K) {x:Ins} {s nx:Shp}
 (h:Mch K w sv pv st sp at_ 0 false) (hn:Jj x s=some nx) (hs:Z0q s st) (hl:st.length<=100000) (gF:sp.length<=100000)
 (hx:ev e y1=some (Z3M Zl0 x.op .nilFunc)) (hy:ev e y2=some (mP K)) (hz:ev e y3=some (.I x.n)) :
 OE Tryz.prog P ⟨d,.call { callee:=.value y1,args:=#[y2,y3],argTypes:=ts },ty,pos,af,g⟩ e w (λv w'=>v=.tuple #[]/\Z0o K w' x st sp sv pv at_):=by
 obtain ⟨kp,st0,vs,ts',rfl,cj,dL⟩:=ZeN hn hs;have hr:=Z8y kp;obtain ⟨op,n⟩:=x;dsimp only at *;have cV:st0.length<=100000:=by rw [Xd] at hl;omega
 have fI:op=1\/op=2\/op=3\/op=4\/op=5\/op=6\/op=7\/op=8\/op=9\/op=10\/op=11\/op=12\/op=13\/op=14\/op=15\/op=16\/op=17\/op=18\/op=19\/op=20\/op=21\/op=22\/op=23\/op=24:=by omega
 rcases fI with rfl|rfl|rfl|rfl|rfl|rfl|rfl|rfl|rfl|rfl|rfl|rfl|rfl|rfl|rfl|rfl|rfl|rfl|rfl|rfl|rfl|rfl|rfl|rfl
 all_goals (simp [Zz] at kp cj)
 all_goals (try subst cj)
 case inl|inr.inl|inr.inr.inl=>
  refine (Z4 (f:=128) hx (Zf hy hz) (Ztx hK h hl n)).mono ?_;rintro v w' ⟨rfl,aA⟩;refine ⟨rfl,?_⟩;unfold Z0o;have et:List.take (st0.length+vs.length) (st0++vs)=st0++vs:=XJ (by simp);simpa [arM,JZ,Z0d,et] using aA
 case inr.inr.inr.inl=>
  refine (Z4 (f:=129) hx (Zf hy hz) (ZtA hK h hl n (by omega) (by omega))).mono ?_;rintro v w' ⟨rfl,aA⟩;refine ⟨rfl,?_⟩;unfold Z0o;have et:List.take (st0.length+vs.length) (st0++vs)=st0++vs:=XJ (by simp);simpa [arM,JZ,Z0d,et] using aA
 case inr.inr.inr.inr.inl=>
  obtain ⟨a,b,rfl,ha,hb⟩:=dL.two_inv;refine (Z4 (f:=130) hx (Zf hy hz) (Zy2 hK h cV n (by have:=Z65 ha;have:=Z65 hb;unfold I64;omega))).mono ?_;rintro v w' ⟨rfl,aA⟩;refine ⟨rfl,?_⟩;unfold Z0o;simpa [arM,JZ,Z0d,Z3G,Jp] using aA
 case inr.inr.inr.inr.inr.inl=>
  obtain ⟨a,b,rfl,ha,hb⟩:=dL.two_inv;refine (Z4 (f:=131) hx (Zf hy hz) (Zy3 hK h cV n (by have:=Z65 ha;have:=Z65 hb;unfold I64;omega))).mono ?_;rintro v w' ⟨rfl,aA⟩;refine ⟨rfl,?_⟩;unfold Z0o;simpa [arM,JZ,Z0d,Z3G,Jp] using aA
 case inr.inr.inr.inr.inr.inr.inl=>
  obtain ⟨a,b,rfl,ha,hb⟩:=dL.two_inv;refine (Z4 (f:=132) hx (Zf hy hz) (Zy4 hK h cV n (Zy8 ha hb))).mono ?_;rintro v w' ⟨rfl,aA⟩;refine ⟨rfl,?_⟩;unfold Z0o;simpa [arM,JZ,Z0d,Z3G,Jp] using aA
 case inr.inr.inr.inr.inr.inr.inr.inr.inl=>
  obtain ⟨a,b,rfl⟩:∃ a b,vs=[a,b]:=by
   rcases cj with rfl|rfl
   all_goals
    obtain ⟨a,b,h1,-⟩:=dL.two_inv;exact ⟨a,b,h1⟩
  refine (Z4 (f:=134) hx (Zf hy hz) (ltV hK h cV n trivial)).mono ?_;rintro v w' ⟨rfl,aA⟩;refine ⟨rfl,?_⟩;unfold Z0o;simpa [arM,JZ,Z0d,Z3G,Jp] using aA
 case inr.inr.inr.inr.inr.inr.inr.inr.inr.inl=>
  obtain ⟨a,b,rfl⟩:∃ a b,vs=[a,b]:=by
   rcases cj with rfl|rfl
   all_goals
    obtain ⟨a,b,h1,-⟩:=dL.two_inv;exact ⟨a,b,h1⟩
  refine (Z4 (f:=135) hx (Zf hy hz) (leV hK h cV n trivial)).mono ?_;rintro v w' ⟨rfl,aA⟩;refine ⟨rfl,?_⟩;unfold Z0o;simpa [arM,JZ,Z0d,Z3G,Jp] using aA
 case inr.inr.inr.inr.inr.inr.inr.inr.inr.inr.inl=>
  obtain ⟨a,b,rfl⟩:∃ a b,vs=[a,b]:=by
   rcases cj with rfl|rfl
   all_goals
    obtain ⟨a,b,h1,-⟩:=dL.two_inv;exact ⟨a,b,h1⟩
  refine (Z4 (f:=136) hx (Zf hy hz) (eqV hK h cV n trivial)).mono ?_;rintro v w' ⟨rfl,aA⟩;refine ⟨rfl,?_⟩;unfold Z0o;simpa [arM,JZ,Z0d,Z3G,Jp] using aA
 case inr.inr.inr.inr.inr.inr.inr.inr.inr.inr.inr.inr.inr.inr.inl=>
  obtain ⟨a,b,rfl,ha,hb⟩:=dL.two_inv;refine (Z4 (f:=140) hx (Zf hy hz) (Zx2 hK h cV n (by have:=Z65 ha;have:=Z65 hb;unfold I64;omega))).mono ?_;rintro v w' ⟨rfl,aA⟩;refine ⟨rfl,?_⟩;unfold Z0o;simpa [arM,JZ,Z0d,Z3G,Jp] using aA
 case inr.inr.inr.inr.inr.inr.inr.inr.inr.inr.inr.inr.inr.inr.inr.inl=>
  obtain ⟨a,b,rfl,ha,hb⟩:=dL.two_inv;refine (Z4 (f:=141) hx (Zf hy hz) (Zty hK h cV n (by have:=Z65 ha;have:=Z65 hb;unfold I64;omega))).mono ?_;rintro v w' ⟨rfl,aA⟩;refine ⟨rfl,?_⟩;unfold Z0o;simpa [arM,JZ,Z0d,Z3G,Jp] using aA
 case inr.inr.inr.inr.inr.inr.inr.inr.inr.inr.inr.inr.inr.inr.inr.inr.inl=>
  obtain ⟨a,b,rfl,ha,hb⟩:=dL.two_inv;refine (Z4 (f:=142) hx (Zf hy hz) (ZnV hK h cV n (ZM.2 ha.d))).mono ?_;rintro v w' ⟨rfl,aA⟩;refine ⟨rfl,?_⟩;unfold Z0o;simpa [arM,JZ,Z0d,Z3G,Jp] using aA
 case inr.inr.inr.inr.inr.inr.inr.inr.inr.inr.inr.inr.inr.inr.inr.inr.inr.inl=>
  obtain ⟨a,b,rfl,ha,hb⟩:=dL.two_inv;refine (Z4 (f:=143) hx (Zf hy hz) (ZtE hK h cV gF n (ZM.2 ha.d))).mono ?_;rintro v w' ⟨rfl,aA⟩;refine ⟨rfl,?_⟩;unfold Z0o;simpa [arM,JZ,Z0d,Z3G,Jp] using aA
 case inr.inr.inr.inr.inr.inr.inr.inr.inr.inr.inr.inr.inr.inr.inr.inr.inr.inr.inr.inr.inl=>
  obtain ⟨a,b,rfl,ha,hb⟩:=dL.two_inv;refine (Z4 (f:=146) hx (Zf hy hz) (Ztz hK h cV n trivial)).mono ?_;rintro v w' ⟨rfl,aA⟩;refine ⟨rfl,?_⟩;unfold Z0o;simpa [arM,JZ,Z0d,Z3G,Jp] using aA
 case inr.inr.inr.inr.inr.inr.inr.inr.inr.inr.inr.inr.inr.inr.inr.inr.inr.inr.inr.inr.inr.inl=>
  obtain ⟨a,b,rfl,ha,hb⟩:=dL.two_inv;refine (Z4 (f:=147) hx (Zf hy hz) (ZkM hK h cV n trivial)).mono ?_;rintro v w' ⟨rfl,aA⟩;refine ⟨rfl,?_⟩;unfold Z0o;simpa [arM,JZ,Z0d,Z3G,Jp] using aA
 case inr.inr.inr.inr.inr.inr.inr.inr.inr.inr.inr.inr.inr.inr.inr.inr.inr.inr.inr.inr.inr.inr.inl=>
  obtain ⟨a,b,rfl,ha,hb⟩:=dL.two_inv;refine (Z4 (f:=148) hx (Zf hy hz) (ZkN hK h cV n (by have:=Z65 ha;have:=Z65 hb;unfold I64;omega))).mono ?_;rintro v w' ⟨rfl,aA⟩;refine ⟨rfl,?_⟩;unfold Z0o;have e:Z4R (b - a)=(b - a,0):=by
   have:=ha.d;have:=hb.d;unfold Z4R;rw [if_neg (by omega)]
  rw [e] at aA;simpa [arM,JZ,Z0d,Z3G,Jp] using aA
 case inr.inr.inr.inr.inr.inr.inr.inl=>
  obtain ⟨b,rfl,hb⟩:=dL.one_inv;refine (Z4 (f:=133) hx (Zf hy hz) (Zy5 hK h cV n (by have:=Z65 hb;unfold I64;omega))).mono ?_;rintro v w' ⟨rfl,aA⟩;refine ⟨rfl,?_⟩;unfold Z0o;have e:Z4R (-b)=(-b,0):=by
   have:=Z65 hb;unfold Z4R;rw [if_neg (by omega)]
  rw [e] at aA;simpa [arM,JZ,Z0d,ZcM,Z1T] using aA
 case inr.inr.inr.inr.inr.inr.inr.inr.inr.inr.inr.inl=>
  obtain ⟨b,rfl,hb⟩:=dL.one_inv;refine (Z4 (f:=137) hx (Zf hy hz) (Zy6 hK h cV n)).mono ?_;rintro v w' ⟨rfl,aA⟩;refine ⟨rfl,?_⟩;unfold Z0o;have e:Z48 (decide (b=0))=1 - b:=by
   rcases hb.b with rfl|rfl<;>rfl
  rw [e] at aA;simpa [arM,JZ,Z0d,ZcM,Z1T] using aA
 case inr.inr.inr.inr.inr.inr.inr.inr.inr.inr.inr.inr.inr.inr.inr.inr.inr.inr.inl=>
  obtain ⟨b,rfl,hb⟩:=dL.one_inv;refine (Z4 (f:=144) hx (Zf hy hz) (Zxa hK h cV gF n)).mono ?_;rintro v w' ⟨rfl,aA⟩;refine ⟨rfl,?_⟩;unfold Z0o;simpa [arM,JZ,Z0d,ZcM,Z1T] using aA
 case inr.inr.inr.inr.inr.inr.inr.inr.inr.inr.inr.inr.inr.inr.inr.inr.inr.inr.inr.inl=>
  obtain ⟨b,rfl,hb⟩:=dL.one_inv;refine (Z4 (f:=145) hx (Zf hy hz) (Zxb hK h cV gF n)).mono ?_;rintro v w' ⟨rfl,aA⟩;refine ⟨rfl,?_⟩;unfold Z0o;simpa [arM,JZ,Z0d,ZcM,Z1T] using aA
 case inr.inr.inr.inr.inr.inr.inr.inr.inr.inr.inr.inr.inl=>
  refine (Z4 (f:=138) hx (Zf hy hz) (Zx3 hK h n)).mono ?_;rintro v w' ⟨rfl,aA⟩;refine ⟨rfl,?_⟩;unfold Z0o;simpa using aA
 case inr.inr.inr.inr.inr.inr.inr.inr.inr.inr.inr.inr.inr.inl=>
  obtain ⟨b,rfl,hb⟩:=dL.one_inv;refine (Z4 (f:=139) hx (Zf hy hz) (ZnI hK h n)).mono ?_;rintro v w' ⟨rfl,aA⟩;refine ⟨rfl,?_⟩;unfold Z0o;simpa [Z1T] using aA
 case inr.inr.inr.inr.inr.inr.inr.inr.inr.inr.inr.inr.inr.inr.inr.inr.inr.inr.inr.inr.inr.inr.inr=>
  refine (Z4 (f:=149) hx (Zf hy hz) (Zx4 hK h n)).mono ?_;rintro v w' ⟨rfl,aA⟩;refine ⟨rfl,?_⟩;unfold Z0o;simpa using aA
end
abbrev ZnX (ev:List Int):Value:=.agg (evC ev).toArray
theorem ZnY (ev:List Int) (c:Cal) (hv cv zo zs hr:Value) (kn:Int) (b:Addr) (w) :
 (Instr.build 167 #[(0, ZnX ev), (1, Z6O c hv cv zo zs hr), (2, .I kn), (7, .func (.func 80) #[] #[.pointer (some b)])]).run Tryz.prog w
   = .ok (.agg (evC ev++Z0j c hv cv zo zs hr++([.I kn,.N,.I 0,.I 0,.B false,.func (.func 80) #[] #[.pointer (some b)]]:List Value)).toArray) w:=by kernel_rfl
theorem Zl1 {x:Ins} {s nx:Shp} (hx:x.op=13) (hn:Jj x s=some nx):nx=s:=by
 obtain ⟨op,n⟩:=x;dsimp only at hx;subst hx;simp [Jj,Zz] at hn;exact hn.2.symm
theorem Zl2 {x:Ins} {s nx:Shp} (hx:x.op=14) (hn:Jj x s=some nx):nx=s.dropLast:=by
 obtain ⟨op,n⟩:=x;dsimp only at hx;subst hx;simp [Jj,Zz] at hn;rw [YaK];exact hn.2.symm
def ZnZ (K:MK) (code:List Ins) (sh:List (Option Shp)) (q:Nat×Bool) (w:World):Prop:=
 ∃ sv pv st sp at_ er, Mch K w sv pv st sp at_ er q.2/\
   (q.2=false->er=0/\at_=(q.1:Int)/\q.1<code.length/\sp.length<=q.1/\(∃ s,sh.getD q.1 none=some s/\Z0q s st)/\∃ f,code.length<=f+q.1/\Z6C (Zx K.c K.kn) K.ev code f q.1 st sp=Jk (Zx K.c K.kn) K.ev code)/\
   (q.2=true->(er=0/\∃ x,st=[x]/\Jk (Zx K.c K.kn) K.ev code=(x,sp,0))\/(er≠0/\Jk (Zx K.c K.kn) K.ev code=(0,[],er)))
theorem ZnZ.step {K:MK} {code:List Ins} {sh:List (Option Shp)} {i:Nat} {x:Ins} {s nx:Shp} {st:List Int} {sp:List Spn} {w} {sv pv:Value} {f:Nat} (hK:KOk K) (hi:i<code.length) (hx:code.getD i ⟨0,0⟩=x) (ai:sh.length=code.length)
 (hg:Zde code sh i s nx) (gG:∀ s,some s∈sh->s.length<=16) (ax:Z0q s st) (bC:sp.length<=i) (hf:code.length<=f+i) (hr:Z6C (Zx K.c K.kn) K.ev code f i st sp=Jk (Zx K.c K.kn) K.ev code)
 (h:Z0o K w x st sp sv pv ((i+1:Nat):Int)):∃ q:Nat×Bool,ZnZ K code sh q w/\(if q.2=true then 0 else code.length+1 - q.1)<code.length+1 - i:=by
 obtain ⟨f,rfl⟩:∃ f',f=f'+1:=⟨f - 1,by omega⟩
 rw [Z6C] at hr;rw [hx] at hr;have hn:=hg.next;rw [hx] at hn;unfold Z0o at h;by_cases de:x.op=24;rw [if_pos de] at h hr;obtain ⟨cr,bq⟩:=hg.stop (by rw [hx];exact de);have ft:st.length=1:=by rw [<- ax.1];exact bq
 obtain ⟨a,rfl⟩:=Ybd.1 ft;refine ⟨(i,true),⟨sv,pv,[a],sp,_,0,h,(λhq=>by cases hq),λ_=>.inl ⟨rfl,a,rfl,?_⟩⟩,by simp;omega⟩;rw [<- hr];rfl;rw [if_neg de] at h hr;by_cases cX:x.op=13;rw [if_pos cX] at h hr;obtain ⟨j1,j2,j3⟩:=hg.jump (.inl (by rw [hx];exact cX));rw [hx] at j1 j2 j3;have cu:=Zl1 cX hn;subst cu;refine ⟨(x.n.toNat,false),⟨sv,pv,st,sp,_,0,h,λ_=>⟨rfl,by omega,by omega,by dsimp only;omega,⟨_,j3,ax⟩,f,by dsimp only;omega,hr⟩,λhq=>by cases hq⟩,by simp;omega⟩;rw [if_neg cX] at h hr;by_cases eh:x.op=14;rw [if_pos eh] at h hr;obtain ⟨j1,j2,j3⟩:=hg.jump (.inr (by rw [hx];exact eh));obtain ⟨o1,o2⟩:=hg.on (by rw [hx];exact de) (by rw [hx];exact cX);rw [hx] at j1 j2 j3;have cu:=Zl2 eh hn;have iW:Z0q nx st.dropLast:=by
  rw [cu,YaK,YaK,<- ax.1];exact ax.take _
 obtain ⟨sv',h⟩:=h;by_cases hb:Z07 st 0=0;rw [if_pos hb] at h hr;exact ⟨(x.n.toNat,false),⟨sv',pv,st.dropLast,sp,_,0,h,λ_=>⟨rfl,by omega,by omega,by dsimp only;omega,⟨_,j3,iW⟩,f,by dsimp only;omega,hr⟩,λhq=>by cases hq⟩,by simp;omega⟩;rw [if_neg hb] at h hr;exact ⟨(i+1,false),⟨sv',pv,st.dropLast,sp,_,0,h,λ_=>⟨rfl,rfl,by omega,by dsimp only;omega,⟨_,o2,iW⟩,f,by dsimp only;omega,hr⟩,λhq=>by cases hq⟩,by simp;omega⟩;rw [if_neg eh] at h hr;obtain ⟨o1,o2⟩:=hg.on (by rw [hx];exact de) (by rw [hx];exact cX);obtain ⟨sv',pv',st',sp',hM,aP⟩:=h;by_cases he:(Z0d (Zx K.c K.kn) K.ev x (Z07 st 1) (Z07 st 0)).2=0
 . rw [if_pos he] at hr
   obtain ⟨e1,e2⟩:=aP he;subst e1 e2;rw [he] at hM;have ay:(JZ x.op (Z07 st 1) (Z07 st 0) (Z0d (Zx K.c K.kn) K.ev x (Z07 st 1) (Z07 st 0)).1).length<=1:=by
    unfold JZ;repeat' split
    all_goals simp
   refine ⟨(i+1,false),⟨sv',pv',_,_,_,0,hM,λ_=>⟨rfl,rfl,by omega,by dsimp only;rw [Xd];omega,⟨_,o2,ZcO hK.ev hn de cX eh ax he⟩,f,by dsimp only;omega,hr⟩,λhq=>by cases hq⟩,by simp;omega⟩
 rw [if_neg he] at hr;have hd:decide (¬ (Z0d (Zx K.c K.kn) K.ev x (Z07 st 1) (Z07 st 0)).2=0)=true:=decide_eq_true he;rw [hd] at hM;exact ⟨(i,true),⟨sv',pv',_,_,_,_,hM,(λhq=>by cases hq),λ_=>.inr ⟨he,hr.symm⟩⟩,by simp;omega⟩
theorem Zdg (v:Value) (code:List Ins) (t kn:Int) (ev:List Int) (c:Cal) (hv cv zo zs hr:Value) (w) (hs:SlV [] w v code) (rN:Z29 code=(t,0)) (dH:Z6N w c hv cv zo zs hr) (bD:Zeu ev) (ho:zo.oneCell'=true/\zs.oneCell'=true/\hr.oneCell'=true) :
 CC 50 #[v,ZnX ev,Z6O c hv cv zo zs hr,.I kn] w λr w'=>∃ pv,r=.tuple #[.I (Jk (Zx c kn) ev code).1,pv,.I (Jk (Zx c kn) ev code).2.2]/\ZF 75 w w' pv (Jk (Zx c kn) ev code).2.1:=by
 obtain ⟨cV,tT,sh,ai,aP,gG,lF,nV,dj⟩:=Z8Q rN;refine cW4 63 Tryz.func50 ?_;refine W ?_;refine Z0 (Zq rfl) rfl ?_;rintro _ w1 ⟨b5,rfl,jA,k5,hS⟩;replace k5:Blk w1 b5 113 (evC ev):=k5;refine Z0 (Zq rfl) rfl ?_;rintro _ w2 ⟨b6,rfl,ez,k6,ah⟩;replace k6:Blk w2 b6 35 (Z0j c hv cv zo zs hr):=k6;replace k5:=k5.up ah;replace hS:=hS.trans ah;refine W ?_;refine Z0 Z2 rfl ?_;rintro _ w3 ⟨bs,rfl,dK,ks,am⟩;replace k5:=k5.up am;replace k6:=k6.up am;have wO:w.heap.size<=bs:=Xh hS.size dK;replace hS:=hS.trans am;refine W ?_;refine Z7 (vs:=[(0,ZnX ev),(1,Z6O c hv cv zo zs hr),(2,.I kn),(7,.func (.func 80) #[] #[pQ bs])]) rfl (ZnY ev c hv cv zo zs hr kn _) rfl ?_;refine Z0 (Zq rfl) rfl ?_;rintro _ w4 ⟨bm,rfl,lk,km,aI⟩;replace km:Blk w4 bm 167 (evC ev++Z0j c hv cv zo zs hr++[.I kn,.N,.I 0,.I 0,.B false,.func (.func 80) #[] #[pQ bs]]):=km;have wP:w.heap.size<=bm:=Xh hS.size lk;have rO:bm≠bs:=by have:=ks.lt;omega
 replace ks:=ks.up aI;replace hS:=hS.trans aI;clear k5 k6 ah am aI;refine W ?_;refine CL (Zhg _) ?_;rintro _ w5 ⟨m,rfl,hm,au,aD⟩;obtain ⟨K,e1,e2,hk,e4,e5,e6,e7,e8,e9,e10,e11,e12⟩:∃ K:MK,K.w0=w5/\K.bm=bm/\K.nk=some bs/\K.ev=ev/\K.c=c/\K.kn=kn/\K.hv=hv/\K.cv=cv/\K.zo=zo/\K.zs=zs/\K.hr=hr/\K.pr=[]:=⟨⟨w5,bm,some bs,ev,c,kn,hv,cv,zo,zs,hr,[]⟩,rfl,rfl,rfl,rfl,rfl,rfl,rfl,rfl,rfl,rfl,rfl,rfl⟩
 subst e1 e2 e4 e5 e6 e7 e8 e9 e10 e11;have my:=hS.trans aD;have own_ge:∀ b∈K.own,w.heap.size<=b:=λb hb=>by simp [MK.own,hk] at hb;omega
 have rP:m∉K.own:=λhb=>by
  have:=km.lt;have:=ks.lt;simp [MK.own,hk] at hb;omega
 have rQ:=dH.up my;have g1:3<w.heap.size:=by have:=block_lt_of_cell (dH.len 0 0 rfl);simpa using this
 have g2:4<w.heap.size:=by have:=block_lt_of_cell (dH.mov 0 0 rfl);simpa using this
 have hK:KOk K:=
  { hols := dH.hols.ext my (by simp) (λb hb => .inr (own_ge b hb))
    clos:=dH.clos.ext my (by simp) (λb hb=>.inr (own_ge b hb))
    ozo:=ho.1,ozs:=ho.2.1,ohr:=ho.2.2
    len:=rQ.len,mov:=rQ.mov
    bml:=(km.up aD).lt
    nkl:=λb hb=>by rw [hk] at hb;cases hb;exact ⟨(ks.up aD).lt,λh=>rO h.symm⟩
    gl:=λb hb=>by have:=own_ge b hb;omega
    cal:=dH.ok
    ev:=bD,nks:=by rw [hk];simp }
 have hM:Mch K K.w0 (.N) (.N) [] [] 0 0 false:=
  { blk := by unfold Z5V; rw [hk]; exact km.up aD
    row:=Row.nil
    nt:=λb hb=>by rw [hk] at hb;cases hb;exact ⟨ks.up aD,Row.nil⟩
    nt0:=λ_=>rfl
    ap:=by simp [ob]
    stp:=Stp.refl _ _
    prot:=λp hp=>by rw [e12] at hp;cases hp }
 have ba:SlV K.own K.w0 v code:=hs.ext my (by simp) (λb hb=>.inr (own_ge b hb));clear hs km ks rQ;refine W ?_
 refine Zt (σ:=Nat×Bool) (λ_=>[(0,v),(11,pQ bs),(13,mP K),(14,.map (some m))])
  (λq w'=>ZnZ K code sh q w') (λq=>if q.2=true then 0 else code.length+1 - q.1) (0,false) ⟨rfl,rfl,rfl,rfl,trivial⟩ ⟨_,_,[],[],0,0,hM,λ_=>⟨rfl,rfl,cV,Xn _,⟨[],lF,Z0q.nil⟩,code.length,Xn _,rfl⟩,λh=>by cases h⟩ ?_
 clear hM;rintro ⟨i,dn⟩ w6 ⟨sv,pv,st,sp,at_,er,hM,bh,hdone⟩;dsimp only at hM bh hdone ⊢;have ac:=hM.blk;unfold Z5V at ac;cases dn with
 | false=>
   obtain ⟨rfl,rfl,hi,bC,⟨s,jL,ax⟩,f,hf,hr⟩:=bh rfl;obtain ⟨s',nx,hg⟩:=dj i hi;have kA:s'=s:=by have:=hg.at_;rw [jL] at this;exact (X2 this).symm
   subst kA;have ay:=ba.ext (X':=[]) hM.stp (λb hb=>hb) (by simp);have hx:code.getD i ⟨0,0⟩=code[i]:=by simp [List.getD,hi]
   have hn:=hg.next;rw [hx] at hn;have wQ:s'.length<=16:=gG _ (by
    have kP:i<sh.length:=by omega
    rw [XE,XV kP] at jL;simp only [YaF] at jL;rw [<- jL];exact Xc kP)
   refine W ?_;refine Z0 Z2 rfl ?_;rintro _ w7 ⟨b15,rfl,wR,e15,aR⟩;have mg:=ac.lt;refine W ?_;refine SA (us:=Z3.enc code[i]) e15 ?_;rintro _ w8 ⟨hT,k15⟩;replace aR:=aR.ow hT;clear e15 hT;replace hM:=hM.up aR;replace ac:=ac.up aR;refine W ?_;refine Z5 (Zb (u:=.I ((i:Int)+1)) rfl rfl rfl rfl ac (by simp [evC,Z0j])) ?_;rintro _ w9 ⟨gC,nW⟩;replace hM:=hM.put hK (at':=((i+1:Nat):Int)) (er':=0) (dn':=false) gC nW;replace k15:=k15.ext gC (by simp;omega);have aL:=au.ext hM.stp rP;refine W ?_;refine Z8 (Z1R rfl rfl aL) rfl ?_;refine W ?_;refine Z0 (ZnW hK hM hn ax (by rw [<- ax.1];omega) (by omega) rfl rfl rfl) rfl ?_;rintro _ w10 ⟨rfl,aA⟩;obtain ⟨q,hq,hlt⟩:=ZnZ.step hK hi hx ai hg gG ax bC hf hr aA;refine W ?_;exact QL q hq (by simpa using hlt)
 | true=>
   have fin:∀ w' pv',Stp K.own K.w0 w'->Row [] w' K.w0.heap.size 75 pv' (Jk (Zx K.c K.kn) K.ev code).2.1->ZF 75 w w' pv' (Jk (Zx K.c K.kn) K.ev code).2.1:=λw' pv' h1 h2=>
    ⟨h2.lower my.size,my.own h1 (λb hb=>.inr (own_ge b hb))⟩
   rcases hdone rfl with ⟨rfl,x,rfl,hR⟩|⟨he,hR⟩
   obtain ⟨ks,ab⟩:=hM.nt bs hk;refine W ?_;refine ZDr 6 ([K.bm]) [] [(0,0),(2,1),(1,2),(3,0),(4,0),(5,0)] (λw1 ae=>?_);replace hM:=hM.up ae;replace ks:=ks.up ae;replace ab:=ab.up ae;refine D ?_;refine DC (Zd8 (st:=[]) hK hM) (λ_ _ h=>h.2.2) ?_;rintro _ w7 ⟨rfl,⟨sv',tU⟩,aR⟩;obtain ⟨ks7,iV⟩:=tU.nt bs hk;refine D ?_;refine W ?_;refine WR ?_;refine .mk ⟨pv,by rw [hR],fin _ _ tU.stp ?_⟩;rw [hR];exact iV;refine QO ?_;refine ZDr 7 [] [] [(0,0),(1,0),(2,0),(3,1),(4,0),(5,0),(6,0)] (λw1 ae=>?_);replace hM:=hM.up ae;replace ac:=ac.up ae;refine D ?_;refine W ?_;refine WR ?_;refine .mk ⟨.N,by rw [hR],fin _ _ hM.stp ?_⟩;rw [hR];exact Row.nil
theorem Z1y (n a b:Int) (w):CC 48 #[.I n,.I a,.I b] w λr w'=>r=.B (decide (a<=n/\n<=b))/\Stp [] w w':=by
 refine cW3 15 Tryz.func48 ?_
 (refine QP ?_ ?_<;>intro hg)
 refine RU ?_;exact ⟨by congr 1;rw [decide_eq_decide];exact ⟨λh=>⟨by omega,h⟩,λh=>h.2⟩,Stp.refl _ _⟩;refine RU ?_;exact ⟨by congr 1;symm;exact decide_eq_false (λh=>by omega),Stp.refl _ _⟩
theorem Zhh (a b c d e:Int) (w):(Instr.build 113 #[(0,.I a),(1,.I (-1)),(3,.I b),(4,.I c),(5,.I d),(6,.I e)]).run Tryz.prog w=.ok (ZnX [a,-1,0,b,c,d,e]) w:=by kernel_rfl
theorem Zhi (op a b r:Int):(JZ op a b r).length<=1:=by
 unfold JZ;repeat' split
 all_goals first|exact Xn _|exact Xp _
theorem Z66 (o:Int->Bool) (ev:List Int) (C:List Ins):∀ (f i:Nat) (st:List Int) (sp:List Spn),(Z6C o ev C f i st sp).2.1.length<=sp.length+f
 | 0,_,_,_=>by simp [Z6C]
 | f + 1, i, st, sp => by
   rw [Z6C];split;simp;split;have:=Z66 o ev C f (C.getD i ⟨0,0⟩).n.toNat st sp;omega;split;have:=Z66 o ev C f (if Z07 st 0=0 then (C.getD i ⟨0,0⟩).n.toNat else i+1) st.dropLast sp;omega;split;refine Xh (Z66 o ev C f _ _ _) ?_;have:=Zhi (C.getD i ⟨0,0⟩).op (Z07 st 1) (Z07 st 0) (Z0d o ev (C.getD i ⟨0,0⟩) (Z07 st 1) (Z07 st 0)).1;rw [Xd];omega;simp
def evL (c:Cas) (f:Fct):List Int:=
 let s:=Z8N c.atts c.crrs f.entry f.to_
 [f.day,if s.2=true then s.1.day else -1,if s.2=true then s.1.extra else 0,f.by_,f.to_,c.court,f.amt]
def opn (c:Cas):Int->Bool:=Zx c.cal c.today
def noD:Dln×Bool:=(default,false)
def mkD (c:Cas) (f:Fct) (r:Int) (q:Cr) (day due:Int) (sp:List Spn):Dln:=
 let s:=Z8N c.atts c.crrs f.entry f.to_
 let a:=Z9o c.fcts f q.unl due
 { rule := q.name, trig := f, party := f.to_, due := due, stat := if a.2 = true then 1 else if due < c.today then 2 else 0,
   reas:=[⟨1,f.entry,f.day⟩,⟨2,r,0⟩]++(if s.2=true/\(Z2T q.cnd=true\/Z2T q.due=true) then [⟨3,s.1.att,s.1.day⟩] else [])
    ++ sp.map (λx=>⟨4,x.1,x.2⟩)++(Z7g f.day day c.stys).map (λx=>⟨5,x.1,x.2⟩)++(if a.2=true then [⟨6,a.1.entry,a.1.day⟩] else []) }
def JB (c:Cas) (f:Fct) (r:Int):Dln×Bool:=
 if ¬ (0<=r/\r<=(c.ruls.length:Int) - 1) then noD else
 let q:=c.ruls.getD r.toNat crZ
 if q.on≠f.kind\/Zev c.ruls q.name f.day≠r then noD else
 let x:=Jk (opn c) (evL c f) q.cnd
 if x.2.2≠0\/x.1=0 then noD else
 let y:=Jk (opn c) (evL c f) q.due
 if y.2.2≠0 then noD else
 let z:=Z7z f.day y.1 c.stys
 if z.2≠0 then noD else
 if z.1=y.1 then (mkD c f r q y.1 y.1 (x.2.1++y.2.1),true) else
 let n:=Jz (opn c) 1 z.1
 if n.2≠0 then noD else (mkD c f r q y.1 n.1 (x.2.1++y.2.1++[(z.1,n.1)]),true)
structure Z7l (c:Cas):Prop where
 fl:c.fcts.length<=100000
 rl:c.ruls.length<=1024
 cnd:∀ q∈c.ruls,Z29 q.cnd=(2,0)
 due:∀ q∈c.ruls,Z29 q.due=(3,0)
 att:ZnH c.atts c.crrs
 ext:∀ x∈c.crrs,0<=x.extra/\x.extra<=1000
 sty:Z8E c.stys
 court:0<=c.court/\c.court<=15
 today:0<=c.today/\c.today<=3652058
structure Z0Z (f:Fct):Prop where
 day:0<=f.day/\f.day<=3652058
 by_:0<=f.by_/\f.by_<=63
 to_:0<=f.to_/\f.to_<=63
 amt:-2147483647<=f.amt/\f.amt<=2147483647
structure Z1z (w:World) (c:Cas) (R:Z0N):Prop where
 ff:SlV [] w R.fv c.fcts
 rr:SlV [] w R.rv c.ruls
 aa:SlV [] w R.av c.atts
 cc:SlV [] w R.cv c.crrs
 ss:SlV [] w R.sv c.stys
 cal:Z6N w c.cal R.hv R.lv R.zo R.zs R.hr
 one:R.zo.oneCell'=true/\R.zs.oneCell'=true/\R.hr.oneCell'=true
theorem Z1z.up {w w':World} {c:Cas} {R:Z0N} (h:Z1z w c R) (hS:Stp [] w w'):Z1z w' c R:=⟨h.ff.up hS,h.rr.up hS,h.aa.up hS,h.cc.up hS,h.ss.up hS,h.cal.up hS,h.one⟩
theorem Z4f {o:Int->Bool} {ev:List Int} {C:List Ins} {t:Int} (bD:Zeu ev) {sh:List (Option Shp)} (ai:sh.length=C.length) (dj:∀ i,i<C.length->∃ s nx,Zde C sh i s nx) (dW:sh.getD (C.length - 1) none=some [t]) :
 ∀ (f i:Nat) (s:Shp) (st:List Int) (sp sp':List Spn) (v:Int),i<C.length->sh.getD i none=some s->Z0q s st->C.length<=f+i->Z6C o ev C f i st sp=(v,sp',0)->vOk t v
 | 0,i,s,st,sp,sp',v,hi,hs,ax,hf,hr=>by omega
 | f + 1, i, s, st, sp, sp', v, hi, hs, ax, hf, hr => by
   obtain ⟨s',nx,hg⟩:=dj i hi;obtain rfl:s'=s:=by have:=hg.at_;rw [hs] at this;simpa using this.symm
   rw [Z6C] at hr;have hn:=hg.next;have hstop:=hg.stop;have kB:=hg.jump;have jF:=hg.on;generalize C.getD i ⟨0,0⟩=x at *
   try dsimp only at hr
   by_cases de:x.op=24;rw [if_pos de] at hr;obtain ⟨a1,a2⟩:=hstop de;rw [show i=C.length - 1 by omega,dW] at hs;obtain rfl:[t]=s':=by simpa using hs
   obtain ⟨u,rfl,hu⟩:=ax.one_inv;simp [Z07] at hr;rw [<- hr.1];exact hu;rw [if_neg de] at hr;by_cases cX:x.op=13;rw [if_pos cX] at hr;obtain ⟨j1,j2,j3⟩:=kB (.inl cX);have cu:=Zl1 cX hn;subst cu;exact Z4f bD ai dj dW f x.n.toNat _ st sp sp' v (by omega) j3 ax (by omega) hr;rw [if_neg cX] at hr;by_cases eh:x.op=14;rw [if_pos eh] at hr;obtain ⟨j1,j2,j3⟩:=kB (.inr eh);obtain ⟨o1,o2⟩:=jF de cX;have cu:=Zl2 eh hn;have iW:Z0q nx st.dropLast:=by
    rw [cu,YaK,YaK,<- ax.1];exact ax.take _
   by_cases hb:Z07 st 0=0;rw [if_pos hb] at hr;exact Z4f bD ai dj dW f _ _ _ sp sp' v (by omega) j3 iW (by omega) hr;rw [if_neg hb] at hr;exact Z4f bD ai dj dW f _ _ _ sp sp' v (by omega) o2 iW (by omega) hr;rw [if_neg eh] at hr;obtain ⟨o1,o2⟩:=jF de cX;by_cases he:(Z0d o ev x (Z07 st 1) (Z07 st 0)).2=0;rw [if_pos he] at hr;exact Z4f bD ai dj dW f _ _ _ _ sp' v (by omega) o2 (ZcO bD hn de cX eh ax he) (by omega) hr;rw [if_neg he] at hr;simp only [Prod.mk.injEq] at hr;exact absurd hr.2.2 he
theorem Z8R {o:Int->Bool} {ev:List Int} {C:List Ins} {t:Int} (bD:Zeu ev) (hv:Z29 C=(t,0)) (h:(Jk o ev C).2.2=0):vOk t (Jk o ev C).1:=by
 obtain ⟨h0,rR,sh,ai,aP,gG,lF,nV,dj⟩:=Z8Q hv;exact Z4f bD ai dj nV C.length 0 [] [] [] _ _ h0 lF Z0q.nil (by omega) (show Jk o ev C=((Jk o ev C).1,(Jk o ev C).2.1,0) by rw [<- h])
theorem Z8S {o:Int->Bool} {ev:List Int} {C:List Ins} {t:Int} (hv:Z29 C=(t,0)):(Jk o ev C).2.1.length<=200:=by
 obtain ⟨h0,rR,_⟩:=Z8Q hv;have:=Z66 o ev C C.length 0 [] [];unfold Jk;simp only [Xf] at this;omega
def Za9 (s:AlS):Prop:=∀ y∈s.out,-1<=y.2/\y.2<=3652058
theorem Zl3 {l:List Rtn} {crrs:List Crr} {s:AlS} {x:Spn} (h:Za9 s) (hx:-1<=x.2/\x.2<=3652058):Za9 (Z0J l crrs s x):=by
 unfold Z0J;dsimp only;split;exact h;have ht:Za9 (if Z1F l crrs x.1<s.least then (⟨Z1F l crrs x.1,false,[]⟩:AlS) else s):=by
  split;intro y hy;cases hy;exact h
 generalize (if Z1F l crrs x.1<s.least then (⟨Z1F l crrs x.1,false,[]⟩:AlS) else s)=t at *;split;rename_i y hy;split;intro z hz;rcases Xg.1 hz with hz|hz
 exact ht z (List.dropLast_subset _ hz);simp only [Xk] at hz;subst hz;exact hx;intro z hz;rcases Xg.1 hz with hz|hz
 exact ht z hz;simp only [Xk] at hz;subst hz;exact hx;intro z hz;rcases Xg.1 hz with hz|hz
 exact ht z hz;simp only [Xk] at hz;subst hz;exact hx
theorem Zdh {l:List Rtn} {crrs:List Crr}:∀ (L:List Spn) (s:AlS),Za9 s->(∀ x∈L,-1<=x.2/\x.2<=3652058)->Za9 (L.foldl (Z0J l crrs) s)
 | [],_,h,_=>h
 | x :: L,s,h,hL=>Zdh L _ (Zl3 h (hL x (by simp))) (λy hy=>hL y (by simp [hy]))
theorem Zl4 (l:List Rtn) (crrs:List Crr) {sent:Int} (hs:0<=sent/\sent<=3652058):-1<=(Zbj l crrs sent).1/\(Zbj l crrs sent).1<=3652058:=by
 unfold Zbj;have ho:Za9 (Zh0 l crrs sent):=Zdh _ _ (λy hy=>by cases hy) (λx hx=>⟨(Z8L hs hx).2.2.1,(Z8L hs hx).2.2.2⟩);dsimp only;split;simp;split;rename_i y hy;exact ho y (List.mem_of_getLast? hy);simp
theorem ZfO (l:List Atp) (crrs:List Crr) (en pa:Int):∀ (k:Nat),k<=l.length->∀ s∈ofG l crrs en pa k,∃ j,∃ h:j<l.length,s=ofE crrs l[j] j
 | 0,_,s,h=>by simp [ofG] at h
 | k + 1, hk, s, h => by
   rw [ofG] at h;rcases Xg.1 h with h|h
   exact ZfO l crrs en pa k (by omega) s h;split at h;simp only [Xk] at h;exact ⟨k,by omega,by rw [h];simp [show k<l.length by omega]⟩;cases h
theorem Zaa (l:List Svc):∀ k,k<l.length->Z2v l k∈l
 | 0,h=>by simp [Z2v,h]
 | k + 1, h => by
   rw [Z2v];split;simp [h];exact Zaa l k (by omega)
theorem Zo0 {l:List Atp} {crrs:List Crr} (en pa:Int) (ho:ZnH l crrs) (hx:∀ x∈crrs,0<=x.extra/\x.extra<=1000) :
 -1<=(Z8N l crrs en pa).1.day/\(Z8N l crrs en pa).1.day<=3652058/\0<=(Z8N l crrs en pa).1.extra/\(Z8N l crrs en pa).1.extra<=1000:=by
 have hm:=ZfO l crrs en pa l.length (Xn _);show -1<=(Z53 (ofG l crrs en pa l.length)).1.day/\(Z53 (ofG l crrs en pa l.length)).1.day<=3652058/\0<=(Z53 (ofG l crrs en pa l.length)).1.extra/\(Z53 (ofG l crrs en pa l.length)).1.extra<=1000;generalize ofG l crrs en pa l.length=L at *;unfold Z53;split;simp;rename_i aS;obtain ⟨j,hj,e⟩:=hm _ (Zaa L (L.length - 1) (by have:=XU.2 aS;omega));dsimp only;rw [e];have hs:=Zl4 l[j].rets crrs (ho.sent _ (Xc hj));have hc:=ho.crr _ (Xc hj);obtain ⟨m,hm⟩:∃ m:Nat,l[j].crr=m:=⟨l[j].crr.toNat,by omega⟩
 have bI:m<crrs.length:=by omega
 have mw:=hx _ (Xc bI);simp only [ofE,hm];rw [show crrs.getD ((m:Int).toNat) ⟨0,0⟩=crrs[m] by simp [bI]];omega
theorem Zl5 {c:Cas} {f:Fct} (ho:Z7l c) (hf:Z0Z f):Zeu (evL c f):=by
 have h:=Zo0 f.entry f.to_ ho.att ho.ext;have h1:=hf.day;have h2:=hf.by_;have h3:=hf.to_;have h4:=hf.amt;have h5:=ho.court;unfold evL;dsimp only;generalize Z8N c.atts c.crrs f.entry f.to_=s at *;refine ⟨rfl,h1,?_,?_⟩;show -1<=(if s.2=true then s.1.day else -1)/\(if s.2=true then s.1.day else -1)<=3652058;split<;>omega
 intro i cg rH;obtain rfl|rfl|rfl|rfl|rfl:i=2\/i=3\/i=4\/i=5\/i=6:=by omega
 show -2147483647<=(if s.2=true then s.1.extra else 0)/\(if s.2=true then s.1.extra else 0)<=2147483647;split<;>omega
 show -2147483647<=f.by_/\f.by_<=2147483647;omega;show -2147483647<=f.to_/\f.to_<=2147483647;omega;show -2147483647<=c.court/\c.court<=2147483647;omega;exact h4
theorem Z2z (w):(Instr.build 56 #[]).run Tryz.prog w=.ok (.agg (dlC (default:Dln) Jn).toArray) w:=by kernel_rfl
theorem Z2A:∀ u∈dlC (default:Dln) Jn,u.oneCell'=true:=by decide
theorem Zo1 (ev:List Int):∀ u∈evC ev,u.oneCell'=true:=by
 intro u hu;unfold evC at hu;simp only [Xb,Xj,or_false] at hu;rcases hu with rfl|rfl|rfl|rfl|rfl|rfl|rfl<;>rfl
theorem Zo2 (s:Str) (f:Fct) (a b:Int) (w):(Instr.build 56 #[(0,str s),(1,aG f),(2,.I a),(3,.I b)]).run Tryz.prog w=.ok (.agg (dlC (⟨s,f,a,b,0,[]⟩:Dln) Jn).toArray) w:=by kernel_rfl
theorem Z8T (a b:Int) (w):(Instr.build 75 #[(0,.I a),(1,.I b)]).run Tryz.prog w=.ok (.agg (Z3.enc ((a,b):Spn)).toArray) w:=by kernel_rfl
theorem Zbs (d:Dln) {rv:Value} (h:rv.oneCell'=true):∀ u∈dlC d rv,u.oneCell'=true:=by
 intro u hu;simp only [dlC,Xb,Xj,or_false] at hu;rcases hu with rfl|rfl|rfl|rfl|rfl|rfl|rfl|rfl|rfl|rfl|rfl<;>first|rfl|assumption
theorem Nte.up {w0 w w':World} {bd:Nat} {d:Dln} {rv:Value} (h:Nte w0 bd w d rv) (hT:Stp [] w w'):Nte w0 bd w' d rv:=⟨h.blk.up hT,h.row.up hT,h.stp.trans hT.mn,h.lt,h.len⟩
theorem Nte.stat {w0 w w':World} {bd:Nat} {d d':Dln} {rv:Value} (h:Nte w0 bd w d rv) (hT:Stp [bd] w w') (hb:Blk w' bd 56 (dlC d' rv)) (he:d'.reas=d.reas):Nte w0 bd w' d' rv:=
 ⟨hb,by rw [he];exact h.row.ext hT (λb dF=>⟨dF,λh2=>by have:=(h.row.ob_le b h2).1;have:=h.lt;simp at dF;omega⟩) (λb hb=>.inl hb),h.stp.trans hT,h.lt,by rw [he];exact h.len⟩
abbrev dU (q:Cr) (f:Fct) (due st:Int) (l:List Rsn):Dln:=⟨q.name,f,f.to_,due,st,l⟩
theorem Zo3 (c:Cas) (R:Z0N) (f:Fct) (r:Int) (w) (hv:Z1z w c R) (ho:Z7l c) (hf:Z0Z f) (hr:I64 r) :
 CC 24 #[.agg (Jh c R).toArray,aG f,.I r] w λv w'=>∃ rv,v=.tuple #[.agg (dlC (JB c f r).1 rv).toArray,.B (JB c f r).2]/\ZF 67 w w' rv (JB c f r).1.reas:=by
 generalize aM:JB c f r=o;have jk:=ho.rl;refine cW3 246 Tryz.func24 ?_;refine W ?_;refine BX (Stp.refl [] w) λb3 w1 h3 e3 _ hS=>?_;replace e3:Blk w1 b3 37 (Jh c R):=e3;refine BX hS λb4 w2 h4 e4 hT hS=>?_;replace e4:Blk w2 b4 45 (Z3.enc f):=e4;replace e3:=e3.up hT;refine W ?_;refine Z0 Z2 rfl ?_;rintro _ w3 ⟨b6,rfl,ez,e6,hT⟩;have g6:w.heap.size<=b6:=Xh hS.size ez;replace e6:Blk w3 b6 56 (dlC (default:Dln) Jn):=e6;replace e3:=e3.up hT;replace e4:=e4.up hT;replace hS:=hS.trans hT;clear hT;have kC:=hv.up hS;have fe:=kC.rr;refine W ?_;refine CP hS (Z1y _ _ _ _) λw4 hT hS=>?_;replace e3:=e3.up hT;replace e4:=e4.up hT;replace e6:=e6.up hT;clear hT kC fe;by_cases hw:0<=r/\r<=(c.ruls.length:Int) - 1
 rotate_left
 rw [JB,if_pos hw] at aM;rw [decide_eq_false hw];refine QO ?_;refine Z7 (vs:=[]) rfl Z2z rfl ?_;refine SB (us:=dlC (default:Dln) Jn) Z2A e6 ?_;rintro _ wz ⟨hT,e6⟩;refine W ?_;refine Zn rfl rfl rfl e6 rfl rfl ?_;subst aM;exact .mk ⟨Jn,rfl,ZF.nil.up (hS.ow hT)⟩;rw [JB,if_neg (not_not_intro hw)] at aM;rw [decide_eq_true hw];obtain ⟨i,rfl⟩:∃ i:Nat,r=i:=⟨r.toNat,by omega⟩
 have hi:i<c.ruls.length:=by omega
 rw [show c.ruls.getD ((i:Int).toNat) crZ=c.ruls[i] by simp [hi]] at aM;dsimp only at aM;have fB:=(ho.cnd _ (Xc hi))
 have go:=(ho.due _ (Xc hi))
 have d5:=hv.up hS;have fe:=d5.rr;obtain ⟨cs,⟨kc,kd,rfl,gc,gd⟩,aq⟩:=hv.rr.cell hi;refine QO ?_;refine Z8 (Z0n rfl rfl fe hi ⟨kc,kd,rfl,gc.up hS,gd.up hS⟩ (λj u hu=>hS.cell0 (aq j u hu))) rfl ?_;refine Z0 Z2 rfl ?_;rintro _ w5 ⟨b8,rfl,fL,e8,hT⟩;refine SB (us:=crC c.ruls[i] kc kd) (Z0r gc gd) e8 ?_;rintro _ w6 ⟨ar,e8⟩;replace hT:=hT.ow ar;replace e3:=e3.up hT;replace e4:=e4.up hT;replace e6:=e6.up hT;replace hS:=hS.trans hT;clear hT ar aq fe d5;generalize hq:c.ruls[i]=q at *;have fe:=(hv.up hS).rr;have l8:=e8.lt
 (refine QP ?_ ?_<;>intro hg)
 rw [if_pos (.inl (by assumption))] at aM;refine Z7 (vs:=[]) rfl Z2z rfl ?_;refine SB (us:=dlC (default:Dln) Jn) Z2A e6 ?_;rintro _ wz ⟨hT,e6⟩;refine W ?_;refine Zn rfl rfl rfl e6 rfl rfl ?_;subst aM;exact .mk ⟨Jn,rfl,ZF.nil.up (hS.ow hT)⟩;refine CP hS (ZcP R.rv c.ruls q.name f.day _ fe) λw7 hT hS=>?_;replace e3:=e3.up hT;replace e4:=e4.up hT;replace e6:=e6.up hT;replace e8:=e8.up hT;clear fe;by_cases ha:Zev c.ruls q.name f.day=i
 rotate_left
 rw [if_pos (.inr ha)] at aM;refine QO ?_;refine Z7 (vs:=[]) rfl Z2z rfl ?_;refine SB (us:=dlC (default:Dln) Jn) Z2A e6 ?_;rintro _ wz ⟨hT,e6⟩;refine W ?_;refine Zn rfl rfl rfl e6 rfl rfl ?_;subst aM;exact .mk ⟨Jn,rfl,ZF.nil.up (hS.ow hT)⟩;rw [if_neg (λh=>h.elim (λh=>absurd h (by assumption)) (λh=>h ha))] at aM;refine QO ?_;refine Z7 (vs:=[(0,.I f.day),(1,.I (-1)),(3,.I f.by_),(4,.I f.to_),(5,.I c.court),(6,.I f.amt)]) rfl (Zhh _ _ _ _ _) rfl ?_;refine Z0 Z2 rfl ?_;have l3:=e3.lt;have l4:=e4.lt;have l6:=e6.lt;have l8':=e8.lt;rintro _ w8 ⟨b9,rfl,ir,e9,hT⟩;have g9:w.heap.size<=b9:=Xh hS.size ir;refine SB (us:=evC [f.day,-1,0,f.by_,f.to_,c.court,f.amt]) (Zo1 _) e9 ?_;rintro _ w9 ⟨ar,e9⟩;replace hT:=hT.ow ar;replace e3:=e3.up hT;replace e4:=e4.up hT;replace e6:=e6.up hT;replace e8:=e8.up hT;replace hS:=hS.trans hT;clear hT ar;have rS:=hv.up hS;refine QO ?_;refine CP hS (Ztw R.av R.cv c.atts c.crrs f.entry f.to_ _ rS.aa rS.cc ho.att) λw10 hT hS=>?_;replace e3:=e3.up hT;replace e4:=e4.up hT;replace e6:=e6.up hT;replace e8:=e8.up hT;replace e9:=e9.up hT;clear hT rS;have l9:=e9.lt;generalize ba:Z8N c.atts c.crrs f.entry f.to_=s at *;obtain ⟨s,ok⟩:=s;refine QO ?_;refine Z0 Z2 rfl ?_;rintro _ w11 ⟨b10,rfl,dG,e10,hT⟩;refine SA (us:=Z3.enc s) e10 ?_;rintro _ w12 ⟨ar,e10⟩;replace hT:=hT.ow ar;replace e3:=e3.up hT;replace e4:=e4.up hT;replace e6:=e6.up hT;replace e8:=e8.up hT;replace e9:=e9.up hT;replace hS:=hS.trans hT;clear hT ar;refine W ?_;have e9':=e9
 refine JK (σ:=Unit) (λ_=>[(2,.I (i:Int)),(3,pQ b3),(4,pQ b4),(6,pQ b6),(8,pQ b8),(9,pQ b9),(10,pQ b10),(11,.B ok)])
  (λ_ w'=>Stp [b9] w12 w'/\Blk w' b9 113 (evC (evL c f))) ?_ ?_
 have rT:evL c f=[f.day,if ok=true then s.day else -1,if ok=true then s.extra else 0,f.by_,f.to_,c.court,f.amt]:=by
  unfold evL;rw [ba]
 rw [rT]
 (refine QP ?_ ?_<;>intro hc)
 refine ZDr 8 [b9] [] [(0,0),(1,1),(2,0),(3,1),(4,0),(5,2),(6,0),(7,2)] (λw1 ae=>?_);replace e9:=e9.up ae;replace e10:=e10.up ae;have c10:_=some (Value.int .i64 s.day):=e10.cell (j:=0) rfl;have c11:_=some (Value.int .i64 s.extra):=e10.cell (j:=1) rfl;focus repeat'(first|refine D1 ?_|omega|refine Z0G rfl (by first|exact trivial|exact rfl) rfl rfl (by assumption) rfl ?_|refine Zk rfl rfl rfl rfl (λhg=>?_) (λhg=>?_)|(refine Zi rfl rfl rfl rfl (λhg=>?_) (λhg=>?_)<;>refine D1 ?_)|fail)
 refine Z0B rfl trivial (Zb rfl rfl rfl rfl e9 (by simp [evC])) (λ_ _ h=>h.1) ?_;rintro _ w13 ⟨hT,e9⟩;focus repeat'(first|refine D1 ?_|omega|refine Z0G rfl (by first|exact trivial|exact rfl) rfl rfl (by assumption) rfl ?_|refine Zk rfl rfl rfl rfl (λhg=>?_) (λhg=>?_)|(refine Zi rfl rfl rfl rfl (λhg=>?_) (λhg=>?_)<;>refine D1 ?_)|fail)
 refine Z0B rfl trivial (Zb rfl rfl rfl rfl e9 (by simp [evC])) (λ_ _ h=>h.1) ?_;rintro _ w14 ⟨ar,e9⟩;focus repeat'(first|refine D1 ?_|omega|refine Z0G rfl (by first|exact trivial|exact rfl) rfl rfl (by assumption) rfl ?_|refine Zk rfl rfl rfl rfl (λhg=>?_) (λhg=>?_)|(refine Zi rfl rfl rfl rfl (λhg=>?_) (λhg=>?_)<;>refine D1 ?_)|fail)
 exact QT () ⟨(ae.mn.own hT (λc hc=>.inl hc)).own ar (λc hc=>.inl hc),by rw [show ok=true by assumption];exact e9⟩;rw [show ok=false by simpa using ‹_›];exact QT () ⟨Stp.refl _ _,e9⟩;rintro _ w13 ⟨hT,e9⟩;replace e3:=e3.ext hT (by simp;omega);replace e4:=e4.ext hT (by simp;omega);replace e6:=e6.ext hT (by simp;omega);replace e8:=e8.ext hT (by simp;omega);replace e10:=e10.ext hT (by simp;omega);replace hS:=hS.ow hT;clear hT;have bD:=Zl5 ho hf;have ia:=hv.up hS;have l3:=e3.lt;have l4:=e4.lt;have l6:=e6.lt;have l8:=e8.lt;have l10:=e10.lt;rw [show opn c=Zx c.cal c.today from rfl] at aM;have cS:=hS;have f3:=e3;have f4:=e4;have f6:=e6;have f8:=e8;have f10:=e10;refine W ?_;refine Z8 (Zl rfl rfl e3 (us:=Z0j c.cal R.hv R.lv R.zo R.zs R.hr) rfl rfl) rfl ?_;refine W ?_;refine CL (Zdg kc q.cnd 2 c.today (evL c f) c.cal R.hv R.lv R.zo R.zs R.hr _ (gc.up hS) fB ia.cal bD ia.one) ?_;rintro _ w14 ⟨pv,rfl,fG⟩;have lG:=Z8S (o:=Zx c.cal c.today) (ev:=evL c f) fB;generalize Jk (Zx c.cal c.today) (evL c f) q.cnd=x at *;obtain ⟨x1,xs,xe⟩:=x;dsimp only at aM fG lG ⊢;have hT:=fG.2;replace e3:=e3.up hT;replace e4:=e4.up hT;replace e6:=e6.up hT;replace e8:=e8.up hT;replace e9:=e9.up hT;replace e10:=e10.up hT;replace hS:=hS.trans hT;clear hT ia;by_cases jf:xe=0
 rotate_left
 rw [if_pos (.inl jf)] at aM;refine QO ?_;refine Z7 (vs:=[]) rfl Z2z rfl ?_;refine SB (us:=dlC (default:Dln) Jn) Z2A e6 ?_;rintro _ wz ⟨hT,e6⟩;refine W ?_;refine Zn rfl rfl rfl e6 rfl rfl ?_;subst aM;exact .mk ⟨Jn,rfl,ZF.nil.up (hS.ow hT)⟩;by_cases qd:x1=0;rw [if_pos (.inr qd)] at aM;refine QO ?_;refine Z7 (vs:=[]) rfl Z2z rfl ?_;refine SB (us:=dlC (default:Dln) Jn) Z2A e6 ?_;rintro _ wz ⟨hT,e6⟩;refine W ?_;refine Zn rfl rfl rfl e6 rfl rfl ?_;subst aM;exact .mk ⟨Jn,rfl,ZF.nil.up (hS.ow hT)⟩;rw [if_neg (λh=>h.elim (λh=>h jf) (λh=>qd h))] at aM;have ia:=hv.up hS;refine QO ?_;refine Z8 (Zl rfl rfl e3 (us:=Z0j c.cal R.hv R.lv R.zo R.zs R.hr) rfl rfl) rfl ?_;refine W ?_;refine CL (Zdg kd q.due 3 c.today (evL c f) c.cal R.hv R.lv R.zo R.zs R.hr _ (gd.up hS) go ia.cal bD ia.one) ?_;rintro _ w15 ⟨pw,rfl,dm⟩;have fR:=Z8S (o:=Zx c.cal c.today) (ev:=evL c f) go;have pG:=Z8R (o:=Zx c.cal c.today) bD go;generalize Jk (Zx c.cal c.today) (evL c f) q.due=y at *;obtain ⟨y1,ys,ye⟩:=y;dsimp only at aM dm fR pG ⊢;have cP:SlV (ob pv) w15 pw ys:=dm.slv (λb hb=>(fG.ob_le b hb).2);have hT:=dm.2;replace e3:=e3.up hT;replace e4:=e4.up hT;replace e6:=e6.up hT;replace e8:=e8.up hT;replace e9:=e9.up hT;replace e10:=e10.up hT;replace fG:=fG.up hT;replace hS:=hS.trans hT;clear hT ia dm;by_cases rU:ye=0
 rotate_left
 rw [if_pos rU] at aM;refine QO ?_;refine Z7 (vs:=[]) rfl Z2z rfl ?_;refine SB (us:=dlC (default:Dln) Jn) Z2A e6 ?_;rintro _ wz ⟨hT,e6⟩;refine W ?_;refine Zn rfl rfl rfl e6 rfl rfl ?_;subst aM;exact .mk ⟨Jn,rfl,ZF.nil.up (hS.ow hT)⟩;rw [if_neg (not_not_intro rU)] at aM;have rA:0<=y1/\y1<=3652058:=by
  rcases pG rU with h|h|h
  omega;omega;exact h.2
 have ia:=hv.up hS;have gO:=hf.day;refine QO ?_;refine CP hS (Z8G f.day y1 R.sv c.stys _ ia.ss ho.sty (by omega) (by omega)) λw16 hT hS=>?_
 replace e3:=e3.up hT;replace e4:=e4.up hT;replace e6:=e6.up hT;replace e8:=e8.up hT;replace e9:=e9.up hT;replace e10:=e10.up hT;replace fG:=fG.up hT;replace cP:=cP.up hT;clear hT ia;generalize Z7z f.day y1 c.stys=z at *;obtain ⟨z1,ze⟩:=z;dsimp only at aM ⊢;by_cases tV:ze=0
 rotate_left
 rw [if_pos tV] at aM;refine QO ?_;refine Z7 (vs:=[]) rfl Z2z rfl ?_;refine SB (us:=dlC (default:Dln) Jn) Z2A e6 ?_;rintro _ wz ⟨hT,e6⟩;refine W ?_;refine Zn rfl rfl rfl e6 rfl rfl ?_;subst aM;exact .mk ⟨Jn,rfl,ZF.nil.up (hS.ow hT)⟩;rw [if_neg (not_not_intro tV)] at aM;refine QO ?_;refine Z0 (JE (β:=Spn) rfl (by decide) rfl rfl fG cP (Xh (Xq _ (show xs.length+ys.length<=400 by omega)) (by decide)) (by simp only [maxLen];omega)) rfl ?_;rintro pu w17 ⟨hr,-,-⟩;clear fG cP e3 e4 e6 e8 e9 e10 hS;have pH:(xs++ys).length<=400:=by rw [Xd];omega
 refine W ?_
 refine JK (σ:=Int×Value×List Spn) (λq=>[(2,.I (i:Int)),(3,pQ b3),(4,pQ b4),(6,pQ b6),(8,pQ b8),(10,pQ b10),(11,.B ok),(13,q.2.1),(15,.I y1),(17,.I q.1)])
  (λp w'=>ZF 75 w13 w' p.2.1 p.2.2/\p.2.2.length<=1000/\(mkD c f i q y1 p.1 p.2.2,true)=o) ?_ ?_
 by_cases rV:z1=y1;rw [if_pos rV] at aM;refine QO ?_;exact QT (z1,pu,xs++ys) ⟨hr,by dsimp only;omega,by rw [rV];exact aM⟩
 . rw [if_neg rV] at aM
   have e3:=f3.up hr.2;have e6:=f6.up hr.2;have hS:=cS.trans hr.2;have ia:=hv.up hS;refine QO ?_;refine Z8 (Zl rfl rfl e3 (us:=Z0j c.cal R.hv R.lv R.zo R.zs R.hr) rfl rfl) rfl ?_;refine W ?_;refine CP hS (Za8 z1 c.today c.cal R.hv R.lv R.zo R.zs R.hr _ ia.cal) λw18 hT hS=>?_;replace e3:=e3.up hT;replace e6:=e6.up hT;replace hr:=hr.up hT;clear hT ia;generalize Jz (Zx c.cal c.today) 1 z1=nn at *;obtain ⟨n1,ne⟩:=nn;dsimp only at aM ⊢;by_cases aS:ne=0
   rotate_left
   rw [if_pos aS] at aM;refine QO ?_;refine Z7 (vs:=[]) rfl Z2z rfl ?_;refine SB (us:=dlC (default:Dln) Jn) Z2A e6 ?_;rintro _ wz ⟨hT,e6⟩;refine W ?_;refine Zn rfl rfl rfl e6 rfl rfl ?_;subst aM;exact .mk ⟨Jn,rfl,ZF.nil.up (hS.ow hT)⟩;rw [if_neg (not_not_intro aS)] at aM;refine QO ?_;refine Z7 (vs:=[(0,.I z1),(1,.I n1)]) rfl (Z8T _ _) rfl ?_;refine AP1 ((z1,n1):Spn) hr (by omega) λv1 v' w' bE _=>?_
   refine W ?_;exact ZA (n1,v',xs++ys++[(z1,n1)]) ⟨rfl,rfl,rfl,rfl,rfl,rfl,rfl,rfl,rfl,rfl,trivial⟩ ⟨bE,by simp only [Xd,Xe,Xf] at pH ⊢;omega,aM⟩
 clear aM hr pH;rintro ⟨due,sv,sp⟩ w18 ⟨hr,bC,aM⟩;dsimp only at hr bC aM ⊢;subst aM;have e3:=f3.up hr.2;have e4:=f4.up hr.2;have e6:=f6.up hr.2;have e8:=f8.up hr.2;have e10:=f10.up hr.2;have hS:=cS.trans hr.2;have eR:SlV [] w18 sv sp:=hr.slv (by simp);clear hr f3 f4 f6 f8 f10 cS;refine W ?_;refine Z7 (vs:=[(0,str q.name),(1,aG f),(2,.I f.to_),(3,.I due)]) rfl (Zo2 _ _ _ _) rfl ?_;refine Z0 Z2 rfl ?_;rintro _ w19 ⟨b19,rfl,nX,e19,hT⟩;refine SB (us:=dlC (⟨q.name,f,f.to_,due,0,[]⟩:Dln) Jn) (Zbs _ rfl) e19 ?_;rintro _ w20 ⟨ar,e19⟩;replace hT:=hT.ow ar;have l3:=e3.lt;have l4:=e4.lt;have l6:=e6.lt;have l8:=e8.lt;have l10:=e10.lt;replace e3:=e3.up hT;replace e4:=e4.up hT;replace e6:=e6.up hT;replace e8:=e8.up hT;replace e10:=e10.up hT;replace eR:SlV [b19] w20 sv sp:=eR.ext hT (by simp) (λb hb=>.inr (by simp at hb;omega));have g19:w.heap.size<=b19:=Xh hS.size nX;replace hS:=hS.trans hT;clear hT ar;have hN:Nte w20 b19 w20 ⟨q.name,f,f.to_,due,0,[]⟩ Jn:=⟨e19,Row.nil,Stp.refl _ _,e19.lt,by simp⟩
 clear e19;refine W ?_;refine Z0 (Z0l rfl (ZK rfl rfl rfl) rfl (Z2U w20 b19 _ _ 1 f.entry f.day _ hN (by simp))) rfl ?_;rintro _ w21 ⟨r1,hN,-,-⟩;have f4:=e4.ext hN.stp (by simp;omega);refine W ?_;refine Z0 (Z0l rfl (ZK rfl rfl rfl) rfl (Z2U w20 b19 _ _ 2 i 0 _ hN (by simp))) rfl ?_;rintro _ w22 ⟨r2,hN,-,-⟩;clear f4;have f8:=e8.ext hN.stp (by simp;omega);have lH:Stp [] w w22:=hS.own hN.stp (λc hc=>.inr (by simp at hc;omega));have bG:=gc.up lH;have dg:=gd.up lH;refine W ?_;refine Z5K (σ:=Unit) (λ_=>[(2,.I (i:Int)),(3,pQ b3),(4,pQ b4),(6,pQ b6),(8,pQ b8),(15,.I y1),(17,.I due),(19,pQ b19),(20,.func (.func 53) #[] #[pQ b19]),(10,pQ b10),(13,sv),(185,.B (ok && (Z2T q.cnd || Z2T q.due)))]) (λ_ w'=>Stp [] w22 w') ?_ ?_
 . cases ok with
   | false=>
     refine QO ?_;exact QT () (Stp.refl _ _)
   | true=>
     refine QO ?_;refine CP (Stp.refl [] w22) (ZcT kc q.cnd _ bG) λw23 hT hS=>?_;replace f8:=f8.up hT;replace dg:=dg.up hT;cases h1:Z2T q.cnd with
     | true=>
       refine QO ?_;exact QT () hS
     | false=>
       refine QO ?_;refine CP hS (ZcT kd q.due _ dg) λw24 hT hS=>?_;cases h2:Z2T q.due
       all_goals
        refine QO ?_;exact QT () hS
 rintro _ w23 hT;replace hN:=hN.up hT;clear bG dg f8 lH hT;generalize mg:(ok && (Z2T q.cnd || Z2T q.due))=bb at *;refine W ?_;refine JK (σ:=Value) (λ_=>[(2,.I (i:Int)),(3,pQ b3),(4,pQ b4),(6,pQ b6),(8,pQ b8),(15,.I y1),(17,.I due),(19,pQ b19),(20,.func (.func 53) #[] #[pQ b19]),(13,sv)]) (λrv w'=>Nte w20 b19 w' (dU q f due 0 ([⟨1,f.entry,f.day⟩,⟨2,i,0⟩]++if bb=true then [⟨3,s.att,s.day⟩] else [])) rv) ?_ ?_
 . cases bb with
   | false=>
     refine QO ?_;exact QT r2 hN
   | true=>
     have f10:=e10.ext hN.stp (by simp;omega);refine QO ?_;refine Z0 (Z0l rfl (ZK rfl rfl rfl) rfl (Z2U w20 b19 _ _ 3 s.att s.day _ hN (by simp))) rfl ?_;rintro _ w24 ⟨r3,hN,-,-⟩;refine W ?_;exact QT r3 hN
 clear hN;rintro r3 w24 hN;generalize lz:([⟨1,f.entry,f.day⟩,⟨2,i,0⟩]++if bb=true then [⟨3,s.att,s.day⟩] else []:List Rsn)=L1 at *;have wS:L1.length<=3:=by rw [<- lz];split<;>simp
 have gR:=eR.max;refine W ?_;refine LP (σ:=Nat×Value) (λp=>[(2,.I (i:Int)),(3,pQ b3),(4,pQ b4),(6,pQ b6),(8,pQ b8),(15,.I y1),(17,.I due),(19,pQ b19),(20,.func (.func 53) #[] #[pQ b19]),(192,sv),(193,.I sp.length),(194,.I p.1)]) (λp w'=>p.1<=sp.length/\Nte w20 b19 w' (dU q f due 0 (L1++(sp.take p.1).map (λx=>(⟨4,x.1,x.2⟩:Rsn)))) p.2) (λp=>sp.length - p.1) (0,r3) ⟨by omega,by simpa using hN⟩ ?_;clear hN;rintro ⟨k,r4⟩ w25 ⟨hk,hN⟩;dsimp only at hk hN ⊢;by_cases hlt:k<sp.length;have tW:SlV [] w25 sv sp:=eR.ext hN.stp (λb hb=>hb) (by simp);have ax:(sp.take (k+1)).map (λx=>(⟨4,x.1,x.2⟩:Rsn))=(sp.take k).map (λx=>(⟨4,x.1,x.2⟩:Rsn))++[⟨4,sp[k].1,sp[k].2⟩]:=by rw [Xi hlt,XR];rfl
 refine QO ?_;refine Z0 Z2 rfl ?_;rintro _ w26 ⟨b22,rfl,wT,e22,hA⟩;refine SA (us:=Z3.enc sp[k]) e22 ?_;rintro _ w27 ⟨dr,e22⟩;replace hA:=hA.ow dr;replace hN:=hN.up hA;refine QO ?_;refine Z0 (Z0l rfl (ZK rfl rfl rfl) rfl (Z2U w20 b19 _ _ 4 sp[k].1 sp[k].2 _ hN (by simp only [Xd,Xu,Xx];omega))) rfl ?_;rintro _ w28 ⟨r5,hN,-,-⟩;refine QO ?_;exact QL (k+1,r5) ⟨hlt,by rw [ax,<- XA];exact hN⟩ (by dsimp only;omega);obtain rfl:k=sp.length:=by omega
 rw [Xo] at hN;have dD:=hS.own hN.stp (λc hc=>.inr (by simp at hc;omega));have f3:=e3.ext hN.stp (by simp;omega);have f4:=e4.ext hN.stp (by simp;omega);have gO:=hf.day;refine QO ?_;refine CG (Zku f.day y1 R.sv c.stys _ (hv.up dD).ss ho.sty (by omega) (by omega)) ?_;intro uv w26 hu;have eF:(Z7g f.day y1 c.stys).length<=1000:=by
  have:=ho.sty.len;unfold Z7g;split;simp;exact Xh (X0 _ _) this
 generalize hU:Z7g f.day y1 c.stys=us at *;have eq:SlV (b19 :: ob r4) w26 uv us:=hu.slv (λb hb=>by
  rcases Xb.1 hb with rfl|hb
  exact hN.blk.lt;exact (hN.row.ob_le b hb).2)
 replace hN:=hN.up hu.2;clear f3 f4 hu dD eR;have oT:=eq.max;refine QO ?_;generalize tX:L1++sp.map (λx=>(⟨4,x.1,x.2⟩:Rsn))=L2 at *;have wU:L2.length<=1003:=by rw [<- tX,Xd,Xu];omega
 refine LP (σ:=Nat×Value) (λp=>[(2,.I (i:Int)),(3,pQ b3),(4,pQ b4),(6,pQ b6),(8,pQ b8),(15,.I y1),(17,.I due),(19,pQ b19),(20,.func (.func 53) #[] #[pQ b19]),(210,uv),(211,.I us.length),(212,.I p.1)]) (λp w'=>p.1<=us.length/\Nte w20 b19 w' (dU q f due 0 (L2++(us.take p.1).map (λx=>(⟨5,x.1,x.2⟩:Rsn)))) p.2/\SlV (b19 :: ob p.2) w' uv us) (λp=>us.length - p.1) (0,r4) ⟨by omega,by simpa using hN,eq⟩ ?_;clear hN eq;rintro ⟨k,r5⟩ w27 ⟨hk,hN,eq⟩;dsimp only at hk hN ⊢;by_cases hlt:k<us.length;have tY:SlV [] w27 uv us:=eq.ext (Stp.refl [] w27) (by simp) (by simp);have ax:(us.take (k+1)).map (λx=>(⟨5,x.1,x.2⟩:Rsn))=(us.take k).map (λx=>(⟨5,x.1,x.2⟩:Rsn))++[⟨5,us[k].1,us[k].2⟩]:=by rw [Xi hlt,XR];rfl
 refine QO ?_;refine Z0 Z2 rfl ?_;rintro _ w28 ⟨b24,rfl,wV,e24,hA⟩;refine SA (us:=Z3.enc us[k]) e24 ?_;rintro _ w29 ⟨dr,e24⟩;replace hA:=hA.ow dr;replace hN:=hN.up hA;refine QO ?_;refine Z0 (Z0l rfl (ZK rfl rfl rfl) rfl (Z2U w20 b19 _ _ 5 us[k].1 us[k].2 _ hN (by simp only [Xd,Xu,Xx];omega))) rfl ?_;rintro _ w30 ⟨r6,m8,jM,rW⟩;refine QO ?_;exact QL (k+1,r6) ⟨hlt,by rw [ax,<- XA];exact m8,(eq.up hA).ext jM (λb hb=>hb) (λb hb=>by
  rcases Xb.1 hb with rfl|hb
  exact .inl (by simp);exact (rW b hb).imp (λh=>by simp [h]) id)⟩ (by dsimp only;omega)
 obtain rfl:k=us.length:=by omega
 rw [Xo] at hN;generalize tZ:L2++us.map (λx=>(⟨5,x.1,x.2⟩:Rsn))=L3 at *;have wW:L3.length<=2003:=by rw [<- tZ,Xd,Xu];omega
 clear eq oT;have dD:=hS.own hN.stp (λc hc=>.inr (by simp at hc;omega));have f3:=e3.ext hN.stp (by simp;omega);have f4:=e4.ext hN.stp (by simp;omega);have f8:=e8.ext hN.stp (by simp;omega);refine QO ?_;refine CP dD (Zex c R f q.unl due _ (hv.up dD).ff (by have:=ho.fl;omega)) λw28 hT _=>?_
 replace hN:=hN.up hT;clear f3 f4 f8 hT dD;generalize hA:Z9o c.fcts f q.unl due=a at *;obtain ⟨g,met⟩:=a;refine QO ?_;refine Z0 Z2 rfl ?_;rintro _ w29 ⟨b25,rfl,wX,e25,mz⟩;refine SA (us:=Z3.enc g) e25 ?_;rintro _ w30 ⟨dr,e25⟩;replace mz:=mz.ow dr;have rX:b25≠b19:=by have:=hN.blk.lt;omega
 replace hN:=hN.up mz;clear mz dr;refine W ?_;refine JK (σ:=Value) (λ_=>[(6,pQ b6),(19,pQ b19)]) (λrv w'=>Nte w20 b19 w' (mkD c f i q y1 due sp) rv) ?_ ?_
 . have az:mkD c f i q y1 due sp=dU q f due (if met=true then 1 else if due<c.today then 2 else 0) (L3++if met=true then [⟨6,g.entry,g.day⟩] else []):=by
    unfold mkD;rw [hA,ba,hU];dsimp only;rw [<- tZ,<- tX,<- lz,<- mg];simp only [Xl,Yay]
   rw [az];cases met with
   | true=>
     refine QO ?_;refine Z5 (Zb (u:=.I 1) rfl rfl rfl rfl hN.blk (by simp)) ?_;rintro _ w31 ⟨hT,e19⟩;replace e25:=e25.ext hT (by simpa using rX);replace hN:=hN.stat (d':=dU q f due 1 L3) hT e19 rfl;refine QO ?_;refine Z0 (Z0l rfl (ZK rfl rfl rfl) rfl (Z2U w20 b19 _ _ 6 g.entry g.day _ hN (by dsimp only;omega))) rfl ?_;rintro _ w32 ⟨r7,hN,-,-⟩;refine W ?_;exact QT r7 hN
   | false=>
     have f3:=e3.ext hN.stp (by simp;omega);by_cases lV:due<c.today;refine QO ?_;refine Z5 (Zb (u:=.I 2) rfl rfl rfl rfl hN.blk (by simp)) ?_;rintro _ w31 ⟨hT,e19⟩;replace hN:=hN.stat (d':=dU q f due 2 L3) hT e19 rfl;refine QO ?_;exact QT r5 (by simpa [lV] using hN);refine QO ?_;exact QT r5 (by simpa [lV] using hN)
 clear hN e25;rintro rv w31 hN;have f6:=e6.ext hN.stp (by simp;omega);have nY:rv.oneCell'=true:=(hN.row.slv (X:=[]) (by simp)).one;have hk:=hN.blk;refine W ?_;refine SB (us:=dlC (mkD c f i q y1 due sp) rv) (Zbs _ nY) f6 ?_;rintro _ w32 ⟨hT,f6⟩;refine W ?_;refine Zn rfl rfl rfl f6 rfl rfl ?_;have dD:=hS.own hN.stp (λc hc=>.inr (by simp at hc;omega));have aV:=λb hb=>(hN.row.ob_le b hb).1;refine .mk ⟨rv,rfl,?_,dD.ow hT⟩;exact Z2d (Row.ext (Z2d (X':=[b6]) (Row.lower hN.row (by have:=hS.size;omega))) hT (λb hb=>⟨hb,λh=>by have:=aV b h;have:=hN.lt;simp at hb;omega⟩) (λb hb=>.inl hb))
abbrev DI:=Dln×Nat
structure Yld (fv:Value) (g:Nat) (cap:Array Value) (J:List DI->List Nat->World->Prop) (Pd:List DI->Dln->Nat->Prop):Prop where
 fv:fv=.func (.func g) #[] cap
 lt:∀ pre F W,J pre F W->∀ b∈F,b<W.heap.size
 up:∀ pre F W W',J pre F W->Stp [] W W'->J pre F W'
 call:∀ pre F d dv i W,J pre F W->SlV F W dv d.reas->Pd pre d i->CC g (#[.agg (dlC d dv).toArray,.I (i:Nat)]++cap) W λr W'=>∃ F',J (pre++[(d,i)]) F' W'/\Stp F W W'/\∀ b∈F',b∈F\/W.heap.size<=b
def Z2p (c:Cas) (f:Fct):Nat->List DI
 | 0=>[]
 | i+1=>Z2p c f i++if (JB c f i).2=true then [((JB c f i).1,i)] else []
def Z0a (c:Cas) (fs:List Fct):List DI:=fs.flatMap (λf=>Z2p c f c.ruls.length)
theorem Zhj (c:Cas) (fs:List Fct) (k:Nat) (h:k<fs.length):Z0a c (fs.take (k+1))=Z0a c (fs.take k)++Z2p c fs[k] c.ruls.length:=by
 unfold Z0a;rw [Xi h,Yam];simp
theorem Zdi {fv:Value} {g:Nat} {fn:Func} {cap:Array Value} {J:List DI->List Nat->World->Prop} {Pd:List DI->Dln->Nat->Prop} [hf:Fun Tryz.prog g fn] (hy:Yld fv g cap J Pd)
 (c:Cas) (R:Z0N) (lv:Value) (fs:List Fct) (F0:List Nat) (w) (ho:Z7l c) (cb:∀ W,Stp F0 w W->Z1z W c R) (hl:∀ W,Stp F0 w W->SlV [] W lv fs) (iv:∀ f∈fs,Z0Z f)
 (hP:∀ k (hk:k<fs.length) (i:Nat),i<c.ruls.length->(JB c fs[k] i).2=true->Pd (Z0a c (fs.take k)++Z2p c fs[k] i) (JB c fs[k] i).1 i) (h0:J [] F0 w) :
 CC 44 #[.agg (Jh c R).toArray,lv,fv] w λr W=>∃ F,J (Z0a c fs) F W/\Stp F0 w W/\∀ b∈F,b∈F0\/w.heap.size<=b:=by
 have aU:=(hl w (Stp.refl _ _)).max;have jk:=ho.rl;have gg:=hy.fv;subst gg;refine cW3 37 Tryz.func44 ?_;refine W ?_;refine BX (Stp.refl [] w) λb3 w1 h3 e3 _ hS=>?_;replace e3:Blk w1 b3 37 (Jh c R):=e3;have ft:=hl w1 hS.mn;refine W ?_
 refine Zt (σ:=Nat×List Nat) (λq=>[(2,.func (.func g) #[] cap),(3,pQ b3),(11,lv),(12,.I fs.length),(13,.I q.1)])
  (λq W=>q.1<=fs.length/\J (Z0a c (fs.take q.1)) q.2 W/\Stp F0 w W/\Blk W b3 37 (Jh c R)/\b3∉q.2/\∀ b∈q.2,b∈F0\/w.heap.size<=b) (λq=>fs.length - q.1) (0,F0) ⟨rfl,rfl,rfl,rfl,rfl,trivial⟩
  ⟨by omega,by simpa [Z0a] using hy.up _ _ _ _ h0 hS,hS.mn,e3,λh=>by have:=hy.lt _ _ _ h0 _ h;omega,λb hb=>.inl hb⟩ ?_
 clear e3 ft hS;rintro ⟨k,F⟩ w2 ⟨hk,hJ,hS,e3,eV,jn⟩;dsimp only at hk hJ eV jn ⊢;have d8:=hl w2 hS;by_cases hlt:k<fs.length;have wY:=iv _ (Xc hlt);have hstep:=Zhj c fs k hlt;refine QO ?_;refine Z0 Z2 rfl ?_;rintro _ w3 ⟨b7,rfl,fu,e7,hA⟩;refine SA (us:=Z3.enc fs[k]) e7 ?_;rintro _ w4 ⟨dr,e7⟩;replace hA:=hA.ow dr;have lI:b7∉F:=λh=>by have:=hy.lt _ _ _ hJ _ h;omega
 replace e3:=e3.up hA;replace hJ:=hy.up _ _ _ _ hJ hA;replace hS:=hS.trans hA.mn;clear hA dr d8;have fe:=(cb w4 hS).rr;refine QO ?_
 refine Zt (σ:=Nat×List Nat) (λq=>[(2,.func (.func g) #[] cap),(3,pQ b3),(7,pQ b7),(11,lv),(12,.I fs.length),(13,.I k),(19,.I c.ruls.length),(20,.I q.1)])
  (λq W=>q.1<=c.ruls.length/\J (Z0a c (fs.take k)++Z2p c fs[k] q.1) q.2 W/\Stp F0 w W/\Blk W b3 37 (Jh c R)/\Blk W b7 45 (Z3.enc fs[k])/\b3∉q.2/\b7∉q.2/\∀ b∈q.2,b∈F0\/w.heap.size<=b) (λq=>c.ruls.length - q.1) (0,F) ⟨rfl,rfl,rfl,rfl,rfl,rfl,rfl,rfl,trivial⟩
  ⟨by omega,by simpa [Z2p] using hJ,hS,e3,e7,eV,lI,jn⟩ ?_
 clear hJ hS e3 e7 eV lI jn fe;rintro ⟨i,F⟩ w5 ⟨hi,hJ,hS,e3,e7,eV,lI,jn⟩;dsimp only at hi hJ eV lI jn ⊢;by_cases lJ:i<c.ruls.length
 . have cY:=cb w5 hS
   have ax:Z2p c fs[k] (i+1)=Z2p c fs[k] i++if (JB c fs[k] i).2=true then [((JB c fs[k] i).1,i)] else []:=rfl
   have ua:=hP k hlt i lJ;refine QO ?_;refine CM (ZK rfl rfl rfl) (Zo3 c R fs[k] i w5 cY ho wY (by unfold I64;omega)) ?_;rintro _ w6 ⟨rv,rfl,ab⟩;have hA:=ab.2;have ay:SlV F w6 rv (JB c fs[k] i).1.reas:=ab.slv (λb hb=>hy.lt _ _ _ hJ b hb);replace e3:=e3.up hA;replace e7:=e7.up hA;replace hJ:=hy.up _ _ _ _ hJ hA;replace hS:=hS.trans hA.mn;clear hA ab cY;generalize JB c fs[k] i=o at *;obtain ⟨d,ok⟩:=o;dsimp only at ax ua ay;have bN:=ay.one;refine QO ?_;refine Z0 Z2 rfl ?_;rintro _ w7 ⟨b9,rfl,ir,e9,hA⟩;refine SB (us:=dlC d rv) (Zbs _ bN) e9 ?_;rintro _ w8 ⟨dr,e9⟩;replace hA:=hA.ow dr;have yD:b9∉F:=λh=>by have:=hy.lt _ _ _ hJ _ h;omega
   replace e3:=e3.up hA;replace e7:=e7.up hA;replace hJ:=hy.up _ _ _ _ hJ hA;replace hS:=hS.trans hA.mn;replace ay:=ay.up hA;clear hA dr;cases ok with
   | false=>
     refine QO ?_;exact QL (i+1,F) ⟨lJ,by rw [ax,if_neg (by simp),XG];exact hJ,hS,e3,e7,eV,lI,jn⟩ (by dsimp only;omega)
   | true=>
     refine QO ?_;refine Z0 (Z0l rfl (Zf rfl rfl) rfl (hy.call _ F d rv i w8 hJ ay (ua rfl))) rfl ?_;rintro _ w9 ⟨F',mM,hA,lK⟩;refine QO ?_;have z3:=e3.lt;have z7:=e7.lt;refine QL (i+1,F') ⟨lJ,by rw [ax,if_pos rfl,<- XA];exact mM,hS.own hA jn,e3.ext hA eV,e7.ext hA lI,λh=>?_,λh=>?_,λb hb=>?_⟩ (by dsimp only;omega);rcases lK _ h with h|h
     exact eV h;omega;rcases lK _ h with h|h
     exact lI h;omega;rcases lK _ hb with h|h
     exact jn _ h;exact .inr (by have:=hS.size;omega)
 obtain rfl:i=c.ruls.length:=by omega
 refine QO ?_;exact QL (k+1,F) ⟨hlt,by rw [hstep];exact hJ,hS,e3,eV,jn⟩ (by dsimp only;omega);obtain rfl:k=fs.length:=by omega
 rw [Xo] at hJ;refine RT ?_;exact ⟨F,hJ,hS,jn⟩
abbrev Z7A (x:Fct):Value:=aG x
theorem ZtF (x y:Fct) (w):(Op.equal 45 (Z7A x) (Z7A y)).run Tryz.prog w=.ok (decide (x=y)) w:=by
 have h1:Program.stoodInHeld Tryz.prog 45=false:=by kernel_rfl
 obtain ⟨i,hi⟩:∃ i,Tryz.prog.info? 3=some i:=by
  have:=(inferInstance:Siz Tryz.prog 3 1).h;cases h:Tryz.prog.info? 3 with
  | none=>rw [h] at this;cases this
  | some i=>exact ⟨i,rfl⟩
 obtain ⟨a,b,c,d,e,f⟩:=x;obtain ⟨a',b',c',d',e',f'⟩:=y;simp [Z7A,Z3.enc,Op.equal,Op.maxDepth,run_equalIn_struct,h1,Program.fieldsOf,Tryz.underlying45,Op.eqFields,part,Und.isAgg,Siz.run,Z0K,run_equalIn_int w _ _ .i64 .i64 _ _ Tryz.underlying3,run_equalIn_string w _ _ _ _ Tryz.underlying9];repeat' split
 all_goals simp_all
theorem Zo4 (em:Bool) (x:Fct) (w):(Instr.checkKey em 10000 45 (Z7A x)).run Tryz.prog w=.ok () w:=by kernel_rfl
instance:ZbY Tryz.prog 45 Fct where
 enc:=Z7A
 chk:=Zo4
 find:=λa es l w hk=>by
  have h2:=run_findKey_eq (P:=Tryz.prog) (k:=45) w (by kernel_rfl) (Z7A a) es;have h3:=Z2C Z7A ZtF a w es l 0 hk;simp only [XP] at h3;exact h2.trans h3
theorem ZfP {κ:Type} [DecidableEq κ] (l:List κ) (a:κ):Z3M (l.map (λx=>(x,Value.bool true))) a (.B false)=.B (decide (a∈l)):=by
 unfold Z3M;cases h:(l.map (λx=>(x,Value.bool true))).find? (λp=>decide (p.1=a)) with
 | none=>
   rw [Yas] at h;rw [decide_eq_false (λha=>absurd (h (a,.B true) (XH.2 ⟨a,ha,rfl⟩)) (by simp))]
 | some p=>
   have h1:=X6 h;have h2:=Ybm h;obtain ⟨x,hx,rfl⟩:=XH.1 h1;have:x=a:=by simpa using h2
   subst this;simp [hx]
def JG (c:Cas) (s:List Fct×List Fct) (p:DI):List Fct×List Fct:=
 let f:=Z1N c p.1 p.2
 if f.2=true/\f.1∉s.1 then (s.1++[f.1],s.2++[f.1]) else s
theorem Zhk (c:Cas) (s:List Fct×List Fct) (p:DI):(JG c s p).2.length<=s.2.length+1:=by
 unfold JG;dsimp only;split<;>simp
theorem Z6P (c:Cas):∀ (l:List DI) (s:List Fct×List Fct),(l.foldl (JG c) s).2.length<=s.2.length+l.length
 | [],s=>by simp
 | p :: l, s => by
   have h1:=Z6P c l (JG c s p);have h2:=Zhk c s p;rw [XX,Xe];omega
structure FcK where
 c:Cas
 R:Z0N
 w0:World
 b1:Nat
 b3:Nat
 r:Nat
 b9:Nat
 known:List Fct
structure ZoR (K:FcK):Prop where
 d1:K.b1≠K.r/\K.b1≠K.b9
 d2:K.b3≠K.r/\K.b3≠K.b9
 d3:K.r≠K.b9
 l1:K.b1<K.w0.heap.size
 l3:K.b3<K.w0.heap.size
 lr:K.r<K.w0.heap.size
 l9:K.b9<K.w0.heap.size
 e1:Blk K.w0 K.b1 37 (Jh K.c K.R)
 e3:Blk K.w0 K.b3 108 [.map (some K.r)]
 rr:∀ W,Stp [K.r,K.b9] K.w0 W->SlV [] W K.R.rv K.c.ruls
structure FcJ (K:FcK) (pre:List DI) (F:List Nat) (W:World):Prop where
 ex:∃ nv,F=K.r :: K.b9 :: ob nv/\Blk W K.b9 24 [nv]/\Row [K.r,K.b9] W K.w0.heap.size 45 nv (pre.foldl (JG K.c) (K.known,[])).2
 map:JM Z7A W K.r ((pre.foldl (JG K.c) (K.known,[])).1.map (λf=>(f,.B true)))
 stp:Stp [K.r,K.b9] K.w0 W
theorem ZeO (K:FcK) (hK:ZoR K):Yld (.func (.func 46) #[] #[.pointer (some ⟨K.b1,0,none⟩),.pointer (some ⟨K.b3,0,none⟩),.pointer (some ⟨K.b9,0,none⟩)]) 46 #[.pointer (some ⟨K.b1,0,none⟩),.pointer (some ⟨K.b3,0,none⟩),.pointer (some ⟨K.b9,0,none⟩)] (FcJ K)
 (λpre d i=>i<K.c.ruls.length/\(-1000000000<=d.due/\d.due<=1000000000/\-1000000000<=d.trig.day/\d.trig.day<=1000000000)/\pre.length<=300000000000):=by
 obtain ⟨⟨d1,d1'⟩,⟨d2,d2'⟩,d3,l1,l3,lr,l9,E1,E3,fe⟩:=hK;refine ⟨rfl,?_,?_,?_⟩;rintro pre F Y ⟨⟨nv,rfl,e9,ab⟩,hm,hS⟩ b hb;have:=hS.size;simp only [Xb] at hb;rcases hb with rfl|rfl|hb
 omega;omega;exact (ab.ob_le b hb).2;rintro pre F Y Y' ⟨⟨nv,rfl,e9,ab⟩,hm,hS⟩ hT;exact ⟨⟨nv,rfl,e9.up hT,ab.up hT⟩,hm.up hT,hS.trans hT.mn⟩
 . rintro pre F d dv i Y ⟨⟨nv,rfl,e9,ab⟩,hm,hS⟩ ay ⟨hi,hb,bZ⟩
   have dC:=Z6P K.c pre (K.known,[]);simp only [Xf,XP] at dC;have ax:∀ p:DI,(pre++[p]).foldl (JG K.c) (K.known,[])=JG K.c (pre.foldl (JG K.c) (K.known,[])) p:=λp=>by simp
   have ax:=ax (d,i);have bN:=ay.one;have hW:=hS.size;have eJ:=λb hb=>(ab.ob_le b hb)
   generalize pre.foldl (JG K.c) (K.known,[])=s at *;refine cW5 29 Tryz.func46 ?_;refine W ?_;refine BX (Stp.refl [] Y) λb5 w1 h5 e5 hT _=>?_;replace e5:Blk w1 b5 56 (dlC d dv):=e5;have e1:=E1.ext (hS.trans hT.mn) (by simp [d1,d1']);have e3:=E3.ext (hS.trans hT.mn) (by simp [d2,d2']);have fG:=fe w1 (hS.trans hT.mn);replace e9:=e9.up hT;replace ab:=ab.up hT;replace hm:=hm.up hT;have jN:SlV [] w1 dv d.reas:=ay.ext hT (by simp) (by simp);have dS:=hT;clear hT;refine W ?_;refine CP (Stp.refl [] w1) (Zd7 K.c K.R d dv i w1 fG jN hi hb) λw2 hT _=>?_;have g2:Y.heap.size<=w2.heap.size:=Xh dS.size hT.size;generalize kD:Z1N K.c d i=fo at *;obtain ⟨f,ok⟩:=fo;refine W ?_;refine Z0 Z2 rfl ?_;rintro _ w3 ⟨b7,rfl,fu,e7,ar⟩;refine SA (us:=Z3.enc f) e7 ?_;rintro _ w4 ⟨cB,e7⟩;replace hT:=hT.trans (ar.ow cB);clear ar cB;replace e1:=e1.up hT;replace e3:=e3.up hT;replace e9:=e9.up hT;replace ab:=ab.up hT;replace hm:=hm.up hT;replace dS:=dS.trans hT;clear hT e5 fG jN;have g7:Y.heap.size<=b7:=by omega
   have nZ:JG K.c s (d,i)=if ok=true/\f∉s.1 then (s.1++[f],s.2++[f]) else s:=by unfold JG;rw [kD]
   rw [nZ] at ax;clear nZ;have skip:(¬ (ok=true/\f∉s.1))->∀ w',Stp [] w4 w'->∃ F',FcJ K (pre++[(d,i)]) F' w'/\Stp (K.r :: K.b9 :: ob nv) Y w'/\∀ b∈F',b∈K.r :: K.b9 :: ob nv\/Y.heap.size<=b:=λhn w' hT=>by
    rw [if_neg hn] at ax;exact ⟨_,⟨⟨nv,rfl,e9.up hT,by rw [ax];exact ab.up hT⟩,by rw [ax];exact hm.up hT,hS.trans ((dS.trans hT).mn)⟩,(dS.trans hT).mn,λb hb=>.inl hb⟩
   cases ok with
   | false=>
     refine QO ?_;refine WR ?_;exact .mk (skip (by simp) _ (Stp.refl _ _))
   | true=>
     refine QO ?_;refine Z8 (Z1R (a:=f) rfl rfl hm) rfl ?_;rw [ZfP];by_cases bJ:f∈s.1;rw [decide_eq_true bJ];refine QO ?_;refine WR ?_;exact .mk (skip (by simp [bJ]) _ (Stp.refl _ _));rw [if_pos ⟨rfl,bJ⟩] at ax;rw [decide_eq_false bJ];clear skip;refine QO ?_;refine Z5 (Z1Q (a:=f) rfl rfl rfl hm (λp hp=>by
      obtain ⟨x,hx,rfl⟩:=XH.1 hp;exact λh=>bJ (h ▸ hx))) ?_
     rintro _ w5 ⟨ub,ec⟩;have z9:K.b9<w4.heap.size:=e9.lt;replace e9:=e9.ext ec (by simp;omega);replace e7:=e7.ext ec (by simp;omega);replace ab:=ab.ext (X':=[K.r,K.b9]) ec (λb hb=>⟨by simp at hb;simp [hb],λh=>by simp at hb;have:=(eJ b h).1;omega⟩) (λb hb=>.inl hb);refine QO ?_;refine APG (X:=[K.r,K.b9]) (base:=K.w0.heap.size) f ab (λb hb=>by have:=ec.size;have:=dS.size;simp at hb;omega) (by have:=ec.size;have:=dS.size;omega) rfl (by omega) (by simp only [maxLen];omega) λv1 nv' w6 rY jM aV=>?_
     replace e9:=e9.ext jM (λh=>by have:=(eJ _ h).1;omega);focus repeat'(first|refine W1 ?_|omega|refine VG ?_ ?_<;>intro hg|refine VC ?_ ?_<;>intro hc)
     have oa:SlV [K.r,K.b9] w6 nv' (s.2++[f]):=rY.slv (λb hb=>by simp at hb;omega);refine Z5 (Zb (u:=nv') rfl rfl oa.cells oa.one e9 (by simp)) ?_;rintro _ w7 ⟨rZ,e9⟩;refine QO ?_;refine WR ?_;have r8:=λb hb=>rY.ob_le b hb;have oc:Stp (K.r :: K.b9 :: ob nv) w4 w7:=(ec.mn.trans (jM.mono (λb hb=>by simp [hb]))).trans rZ.mn;refine .mk ⟨K.r :: K.b9 :: ob nv',⟨⟨nv',rfl,e9,?_⟩,?_,?_⟩,dS.mn.trans oc,λb hb=>?_⟩;rw [ax];exact rY.ext rZ (λb hb=>⟨by simp at hb;simp [hb],λh=>by simp at hb;have:=(r8 b h).1;omega⟩) (λb hb=>.inl hb);rw [ax];have wZ:JM Z7A w7 K.r (s.1.map (λf=>(f,Value.bool true))++[(f,Value.bool true)]):=(ub.ext jM (λh=>by have:=(eJ _ h).1;omega)).ext rZ (by simp;omega);rw [XR];exact wZ;exact (hS.trans dS.mn).own oc (λb hb=>by
      simp only [Xb] at hb;rcases hb with rfl|rfl|hb
      exact .inl (by simp);exact .inl (by simp);exact .inr (eJ b hb).1)
     simp only [Xb] at hb ⊢;rcases hb with rfl|rfl|hb
     exact .inl (.inl rfl);exact .inl (.inr (.inl rfl));rcases aV b hb with h|h
     exact .inl (.inr (.inr h));exact .inr (by have:=ec.size;have:=dS.size;omega)
open Go Go.Eng Go.RowKit Go.Shelf Go.Sort
structure Z54 {α:Type} (cf:α->α->Int):Prop where
 anti:∀ x y,cf x y<0↔0<cf y x
 trans:∀ x y z,cf x y<=0->cf y z<=0->cf x z<=0
theorem Z54.swo {α:Type} {cf:α->α->Int} (h:Z54 cf):SWO (ltOf cf):=by
 have e:∀ x y,ltOf cf x y=decide (cf x y<0):=λ_ _=>rfl;refine ⟨λx=>?_,λx y z h1 h2=>?_,λx y z h1 h2=>?_⟩;have:=h.anti x x;rw [e];simp;omega;rw [e] at *;simp only [decide_eq_true_eq] at *;have a1:=h.anti x y;have a2:=h.anti x z;by_cases hz:cf x z<0;exact hz;have:=h.trans y z x (by omega) (by omega);omega;rw [e] at *;simp only [decide_eq_false_iff_not] at *;have a1:=h.anti x y;have a2:=h.anti y z;have a3:=h.anti x z;have:=h.trans z y x (by omega) (by omega);omega
theorem Z2W {α:Type} (f:α->Int):Z54 (λx y:α=>cmI (f x) (f y)):=by
 have key:∀ a b:Int,(cmI a b<0↔a<b)/\(0<cmI a b↔b<a):=by
  intro a b;unfold cmI;by_cases h1:a<b;simp [h1];omega;by_cases h2:b<a;simp [h1,h2];simp [h1,h2]
 refine ⟨λx y=>?_,λx y z h1 h2=>?_⟩;rw [(key _ _).1,(key _ _).2];have a1:=key (f x) (f y);have a2:=key (f y) (f z);have a3:=key (f x) (f z)
 try dsimp only at *
 by_cases h:0<cmI (f x) (f z);have:=a3.2.1 h;have:¬ f y<f x:=λhh=>by have:=a1.2.2 hh;omega
 have:¬ f z<f y:=λhh=>by have:=a2.2.2 hh;omega
 omega;omega
theorem Z6Q:∀ a:Str,ltS a a=false
 | []=>rfl
 | x :: a => by
   show (decide (x<x) || (x == x && ltS a a))=false;rw [Z6Q a];simp
theorem Zbt:∀ a b:Str,ltS a b=true\/a=b\/ltS b a=true
 | [],[]=>.inr (.inl rfl)
 | [],_ :: _=>.inl rfl
 | _ :: _,[]=>.inr (.inr rfl)
 | x :: a, y :: b => by
   have e1:ltS (x :: a) (y :: b)=(decide (x<y) || (x == y && ltS a b)):=rfl;have e2:ltS (y :: b) (x :: a)=(decide (y<x) || (y == x && ltS b a)):=rfl;rw [e1,e2];rcases Nat.lt_trichotomy x.toNat y.toNat with h|h|h
   exact .inl (by simp [UInt8.lt_iff_toNat_lt,h]);obtain rfl:x=y:=UInt8.toNat_inj.1 h;rcases Zbt a b with h|h|h
   exact .inl (by simp [h]);exact .inr (.inl (by rw [h]));exact .inr (.inr (by simp [h]));exact .inr (.inr (by simp [UInt8.lt_iff_toNat_lt,h]))
theorem Z8U:∀ a b c:Str,ltS a b=true->ltS b c=true->ltS a c=true
 | [],[],_,h,_=>by cases h
 | [],_ :: _,[],_,h=>by cases h
 | [],_ :: _,_ :: _,_,_=>rfl
 | _ :: _,[],_,h,_=>by cases h
 | _ :: _,_ :: _,[],_,h=>by cases h
 | x :: a, y :: b, z :: c, h1, h2 => by
   have e1:ltS (x :: a) (y :: b)=(decide (x<y) || (x == y && ltS a b)):=rfl;have e2:ltS (y :: b) (z :: c)=(decide (y<z) || (y == z && ltS b c)):=rfl;have e3:ltS (x :: a) (z :: c)=(decide (x<z) || (x == z && ltS a c)):=rfl;rw [e1] at h1;rw [e2] at h2;rw [e3];simp only [Yay,decide_eq_true_eq,Xl,beq_iff_eq,UInt8.lt_iff_toNat_lt] at *;rcases h1 with h1|⟨rfl,h1⟩
   rcases h2 with h2|⟨rfl,h2⟩
   exact .inl (by omega);exact .inl h1;rcases h2 with h2|⟨rfl,h2⟩
   exact .inl h2;exact .inr ⟨rfl,Z8U a b c h1 h2⟩
theorem Z2h (a b:Str):(Z4a a b<0↔ltS a b=true)/\(0<Z4a a b↔ltS b a=true):=by
 unfold Z4a;cases h1:ltS a b with
 | true=>
   have h2:ltS b a=false:=by
    cases h:ltS b a with
    | false=>rfl
    | true=>have:=Z8U a b a h1 h;rw [Z6Q] at this;cases this
   simp [h2]
 | false=>
   rcases Zbt a b with h|rfl|h
   rw [h1] at h;cases h;simp [h1];have aS:a≠b:=λe=>by subst e;rw [Z6Q] at h;cases h
   simp [h,aS]
theorem Zhl {α:Type} (f:α->Str):Z54 (λx y:α=>Z4a (f x) (f y)):=by
 refine ⟨λx y=>?_,λx y z h1 h2=>?_⟩;rw [(Z2h _ _).1,(Z2h _ _).2]
 try dsimp only at *
 by_cases h:0<Z4a (f x) (f z)
 . exfalso
   have g:=(Z2h _ _).2.1 h;have n1:ltS (f y) (f x)=false:=by
    cases hh:ltS (f y) (f x) with
    | false=>rfl
    | true=>have:=(Z2h (f x) (f y)).2.2 hh;omega
   have n2:ltS (f z) (f y)=false:=by
    cases hh:ltS (f z) (f y) with
    | false=>rfl
    | true=>have:=(Z2h (f y) (f z)).2.2 hh;omega
   rcases Zbt (f x) (f y) with a|a|a
   have:=Z8U _ _ _ g a;rw [n2] at this;cases this;rw [a] at g;rw [n2] at g;cases g;rw [n1] at a;cases a
 omega
def lx (a b:Int):Int:=if a≠0 then a else b
theorem Z54.lx {α:Type} {c1 c2:α->α->Int} (h1:Z54 c1) (h2:Z54 c2):Z54 (λx y=>lx (c1 x y) (c2 x y)):=by
 refine ⟨λx y=>?_,λx y z a b=>?_⟩;have:=h1.anti x y;have:=h1.anti y x;have:=h2.anti x y;unfold YtipfkbkkndacjaaGreatDoor.lx
 try dsimp only
 split<;>split<;>omega
 unfold YtipfkbkkndacjaaGreatDoor.lx at *
 try dsimp only at *
 have a1:=h1.anti x y;have a1':=h1.anti y x;have a2:=h1.anti y z;have a2':=h1.anti z y;have a3:=h1.anti x z;have a3':=h1.anti z x;have t1:=h1.trans x y z;have t2:=h1.trans y z x;have t3:=h1.trans z x y;have t4:=h2.trans x y z;split at a<;>split at b<;>split<;>omega
theorem Zl6 (a:Int) (l:List Int):orL (a :: l)=lx a (orL l):=by
 unfold orL lx;by_cases h:a=0<;>simp [h]
theorem ZfQ (f g:Fct):Z3n f g=lx (cmI f.day g.day) (lx (cmI f.entry g.entry) (lx (Z4a f.kind g.kind) (lx (cmI f.by_ g.by_) (lx (cmI f.to_ g.to_) (cmI f.amt g.amt))))):=by
 unfold Z3n;simp only [Zl6];congr 5;unfold lx orL;by_cases h:cmI f.amt g.amt=0<;>simp [h]
theorem Z1r:Z54 Z3n:=by
 have:Z3n=λf g:Fct=>lx (cmI f.day g.day) (lx (cmI f.entry g.entry) (lx (Z4a f.kind g.kind) (lx (cmI f.by_ g.by_) (lx (cmI f.to_ g.to_) (cmI f.amt g.amt))))):=by
  funext f g;exact ZfQ f g
 rw [this];exact (Z2W _).lx ((Z2W _).lx ((Zhl _).lx ((Z2W _).lx ((Z2W _).lx (Z2W _)))))
theorem Z67 {a b:Int} (h:lx a b=0):a=0/\b=0:=by
 unfold lx at h;split at h<;>omega
theorem Z4g {a b:Int} (h:cmI a b=0):a=b:=by
 unfold cmI at h;split at h;omega;split at h<;>omega
theorem Zhm {a b:Str} (h:Z4a a b=0):a=b:=by
 rcases Zbt a b with g|g|g
 have:=(Z2h a b).1.2 g;omega;exact g;have:=(Z2h a b).2.2 g;omega
theorem Zab {f g:Fct} (h:Z3n f g=0):f=g:=by
 rw [ZfQ] at h;obtain ⟨h1,h⟩:=Z67 h;obtain ⟨h2,h⟩:=Z67 h;obtain ⟨h3,h⟩:=Z67 h;obtain ⟨h4,h⟩:=Z67 h;obtain ⟨h5,h6⟩:=Z67 h;obtain ⟨a,b,c,d,e,k⟩:=f;obtain ⟨a',b',c',d',e',k'⟩:=g
 try dsimp only at *
 rw [Z4g h1,Z4g h2,Zhm h3,Z4g h4,Z4g h5,Z4g h6]
theorem Zac {α:Type} {cf:α->α->Int} (h:Z54 cf) (h0:∀ x y,cf x y=0->x=y):∀ {l m:List α},l.Perm m->l.Pairwise (λa b=>¬ cf b a<0)->m.Pairwise (λa b=>¬ cf b a<0)->l=m
 | [],m,hp,_,_=>(List.nil_perm.1 hp).symm
 | x :: l,[],hp,_,_=>by have:=hp.length_eq;simp at this
 | x :: l, y :: m, hp, h1, h2 => by
   rw [X3] at h1 h2;have pH:x=y:=by
    rcases Xb.1 (hp.mem_iff.1 (YaS)) with e|e
    exact e;rcases Xb.1 (hp.symm.mem_iff.1 (YaS)) with e'|e'
    exact e'.symm;have a1:=h2.1 x e;have a2:=h1.1 y e';have b1:=h.anti x y;have b2:=h.anti y x;exact h0 x y (by omega)
   subst pH;rw [Zac h h0 hp.cons_inv h1.2 h2.2]
def ZeP (s:Fct):List Fct->List Fct
 | []=>[s]
 | x :: l=>if Z3n s x<=0 then s :: x :: l else x :: ZeP s l
def Z2X (l:List Fct):List Fct:=l.foldr ZeP []
theorem Z6R (s:Fct):∀ l,(ZeP s l).Perm (s :: l)
 | []=>Yaj _
 | x :: l => by
   rw [ZeP];split;exact Yaj _
   . exact ((Z6R s l).cons x).trans (List.Perm.swap _ _ _)
theorem Z7m (s:Fct):∀ l:List Fct,l.Pairwise (λa b=>¬ Z3n b a<0)->(ZeP s l).Pairwise (λa b=>¬ Z3n b a<0)
 | [],_=>by simp [ZeP]
 | x :: l, h => by
   rw [ZeP];rw [X3] at h;split;rename_i hlt;refine X3.2 ⟨λy hy=>?_,X3.2 h⟩;rcases Xb.1 hy with rfl|hy
   have:=Z1r.anti y s;omega;have a1:=h.1 y hy;have a2:=Z1r.anti y x;have a3:=Z1r.anti y s;have:=Z1r.trans s x y hlt (by omega);omega;rename_i hlt;refine X3.2 ⟨λy hy=>?_,Z7m s l h.2⟩;rcases Xb.1 ((Z6R s l).mem_iff.1 hy) with rfl|hy
   omega;exact h.1 y hy
theorem Jf:∀ l,(Z2X l).Perm l
 | []=>Yaj _
 | x :: l=>(Z6R x _).trans ((Jf l).cons x)
theorem Z3v:∀ l,(Z2X l).Pairwise (λa b=>¬ Z3n b a<0)
 | []=>List.Pairwise.nil
 | x :: l=>Z7m x _ (Z3v l)
theorem Zdj {l m:List Fct} (hp:m.Perm l) (hs:m.Pairwise (λa b=>¬ Z3n b a<0)):m=Z2X l:=Zac Z1r (λ_ _=>Zab) (hp.trans (Jf l).symm) hs (Z3v l)
theorem Z55 {l m:List Fct} (hp:m.Perm l):Z2X m=Z2X l:=Zdj ((Jf m).trans hp) (Z3v m)
theorem Z7n {X:List Nat} {base:Nat} {v:Value} {zs:List Fct} {w} (h:Row X w base 45 v zs) (bH:zs.length<=400000000000) :
 CC 42 #[v,.func (.func 43) #[] #[]] w λr w'=>r=.tuple #[]/\Row X w' base 45 v (Z2X zs)/\Stp (ob v) w w':=by
 refine Calls.ret (Za0 (β:=Fct) (by decide) Tryz.sortFct Tryz.isAgg45 Tryz.sizeOf45 Z3n Z1r.swo 43 (λx y w=>ZwZ x y w) h (by omega)) ?_;rintro _ w' ⟨rfl,zs',hp,hs,hr,hS⟩;rw [<- Zdj hp (Yao.2 λi j hi hj dJ=>hs i j hi hj dJ)];exact ⟨rfl,hr,hS⟩
def Zj (c:Cas):Nat->List Fct×List Fct×List Fct
 | 0=>(c.fcts,c.fcts,[])
 | k+1=>let s:=Zj c k;let r:=(Z0a c s.2.1).foldl (JG c) (s.1,[]);(r.1,r.2,s.2.2++r.2)
def J2 (c:Cas):List Fct:=Z2X (Zj c 16).2.2
theorem Z7o (c:Cas) {k:Nat} (h:(Zj c k).2.1=[]):∀ j,(Zj c (k+j)).2.2=(Zj c k).2.2/\(Zj c (k+j)).2.1=[]
 | 0=>⟨rfl,h⟩
 | j + 1 => by
   obtain ⟨h1,h2⟩:=Z7o c h j;rw [<- Yau,Zj];dsimp only;rw [h2];simp [Z0a,h1]
theorem Z68 (c:Cas) (f:Fct):∀ i,(Z2p c f i).length<=i
 | 0=>Xn _
 | i + 1 => by
   rw [Z2p,Xd];have:=Z68 c f i;split<;>simp<;>omega
theorem Z69 (c:Cas):∀ fs:List Fct,(Z0a c fs).length<=fs.length * c.ruls.length
 | []=>by simp [Z0a]
 | f :: fs => by
   have h1:=Z69 c fs;have h2:=Z68 c f c.ruls.length;unfold Z0a at h1 ⊢;rw [YaX,Xd,Xe,X9];omega
theorem Zdk {c:Cas} {f:Fct} {p:DI}:∀ i,p∈Z2p c f i->p.2<i/\p.1=(JB c f p.2).1/\(JB c f p.2).2=true
 | 0,h=>by cases h
 | i + 1, h => by
   rw [Z2p] at h;rcases Xg.1 h with h|h
   obtain ⟨h1,h2⟩:=Zdk i h;exact ⟨by omega,h2⟩;split at h;rename_i ht;simp only [Xk] at h;subst h;exact ⟨by dsimp only;omega,rfl,ht⟩;cases h
theorem Z6a {c:Cas} {fs:List Fct} {p:DI} (h:p∈Z0a c fs):∃ f∈fs,p.2<c.ruls.length/\p.1=(JB c f p.2).1/\(JB c f p.2).2=true:=by
 unfold Z0a at h;obtain ⟨f,hf,hp⟩:=YaZ.1 h;exact ⟨f,hf,Zdk _ hp⟩
theorem Zbu {c:Cas} {f:Fct} {r:Int} (ho:Z7l c) (hf:Z0Z f) (h:(JB c f r).2=true):(JB c f r).1.trig=f/\0<=(JB c f r).1.due/\(JB c f r).1.due<=3652058:=by
 have bD:=Zl5 ho hf;have no:∀ {P:Prop},(noD.2=true)->P:=λh=>by cases h
 unfold JB at h ⊢;by_cases hr:¬ (0<=r/\r<=(c.ruls.length:Int) - 1);rw [if_pos hr] at h;exact no h;rw [if_neg hr] at h ⊢;have hq:c.ruls.getD r.toNat crZ∈c.ruls:=by
  have hl:r.toNat<c.ruls.length:=by omega
  simp [hl]
 have go:=ho.due _ hq;generalize c.ruls.getD r.toNat crZ=q at *;dsimp only at h ⊢;have pG:=Z8R (o:=opn c) bD go;generalize Jk (opn c) (evL c f) q.due=y at *;generalize Jk (opn c) (evL c f) q.cnd=x at *;split at h;exact no h;split at h;exact no h;split at h;exact no h;rename_i g1 g2 g3;rw [if_neg g1,if_neg g2,if_neg g3];have hy:0<=y.1/\y.1<=3652058:=by
  rcases pG (Decidable.not_not.1 g3) with h|h|h
  omega;omega;exact h.2
 generalize Z7z f.day y.1 c.stys=z at *;split at h;exact no h;rename_i g4;rw [if_neg g4];split at h;rename_i g5;rw [if_pos g5];exact ⟨rfl,hy⟩;rename_i g5;rw [if_neg g5];split at h;exact no h;rename_i g6;rw [if_neg g6];have:=ZM.1 (Z49 (Decidable.not_not.1 g6)).1;exact ⟨rfl,this⟩
theorem ZtG {c:Cas} {d:Dln} {i:Nat} (ho:Z7l c) (hf:Z0Z d.trig) (h:(Z1N c d i).2=true):Z0Z (Z1N c d i).1:=by
 have h1:=hf.day;have h2:=ho.today;unfold Z1N at h;simp only [decide_eq_true_eq] at h;refine ⟨?_,hf.to_,hf.by_,hf.amt⟩;show 0<=max d.due d.trig.day+1/\max d.due d.trig.day+1<=3652058;omega
theorem Zdl {c:Cas} (ho:Z7l c):∀ (l:List DI) (s:List Fct×List Fct),(∀ p∈l,Z0Z p.1.trig)->(∀ f∈s.2,Z0Z f)->∀ f∈(l.foldl (JG c) s).2,Z0Z f
 | [],s,_,hs=>hs
 | p :: l, s, hl, hs => by
   rw [XX];refine Zdl ho l _ (λq hq=>hl q (by simp [hq])) ?_;unfold JG;dsimp only;split;rename_i hc;intro f hf;rcases Xg.1 hf with h|h
   exact hs f h;simp only [Xk] at h;subst h;exact ZtG ho (hl p (by simp)) hc.1;exact hs
theorem Zl7 {c:Cas} (ho:Z7l c) {fs:List Fct} (iv:∀ f∈fs,Z0Z f) (known:List Fct):∀ f∈((Z0a c fs).foldl (JG c) (known,[])).2,Z0Z f:=
 Zdl ho _ _ (λp hp=>by
  obtain ⟨f,hf,_,he,ht⟩:=Z6a hp;rw [he,(Zbu ho (iv f hf) ht).1];exact iv f hf) (by simp)
theorem Zad (c:Cas) (hr:c.ruls.length<=4) (fs known:List Fct):((Z0a c fs).foldl (JG c) (known,[])).2.length<=fs.length * 4:=by
 have h1:=Z6P c (Z0a c fs) (known,[]);have h2:=Z69 c fs;have h3:=Nat.mul_le_mul_left fs.length hr;simp only [Xf] at h1;omega
structure Z4T (c:Cas):Prop where
 ok:Z7l c
 fl:c.fcts.length<=16
 rl:c.ruls.length<=4
 fo:∀ f∈c.fcts,Z0Z f
 nd:c.fcts.Nodup
theorem Z8V {c:Cas} (h:Z4T c):∀ k,(Zj c k).2.1.length<=16 * 4 ^ k/\3 * (Zj c k).2.2.length<=16 * 4 ^ (k+1)
 | 0=>⟨by simpa [Zj] using h.fl,by simp [Zj]⟩
 | k + 1 => by
   obtain ⟨h1,h2⟩:=Z8V h k;have h3:=Zad c h.rl (Zj c k).2.1 (Zj c k).1;rw [Zj];dsimp only;rw [Xd];have e1:4 ^ (k+1)=4 ^ k * 4:=Ybq 4 k;have e2:4 ^ (k+2)=4 ^ (k+1) * 4:=Ybq 4 (k+1);constructor<;>omega
theorem Z8W {c:Cas} (h:Z4T c) {k:Nat} (hk:k<=16):(Zj c k).2.1.length<=70000000000/\(Zj c k).2.2.length<=92000000000:=by
 obtain ⟨h1,h2⟩:=Z8V h k;have e1:4 ^ k<=4 ^ 16:=Nat.pow_le_pow_right (by decide) hk;have e2:4 ^ (k+1)<=4 ^ 17:=Nat.pow_le_pow_right (by decide) (by omega);have n1:4 ^ 16=4294967296:=by decide
 have n2:4 ^ 17=17179869184:=by decide
 constructor<;>omega
theorem Z5u {c:Cas} (h:Z4T c):∀ k,(∀ f∈(Zj c k).2.1,Z0Z f)/\(∀ f∈(Zj c k).2.2,Z0Z f)
 | 0=>⟨h.fo,by simp [Zj]⟩
 | k + 1 => by
   obtain ⟨h1,h2⟩:=Z5u h k;have h3:=Zl7 h.ok h1 (Zj c k).1;rw [Zj];dsimp only;exact ⟨h3,λf hf=>(Xg.1 hf).elim (h2 f) (h3 f)⟩
end Go.Proofs.YtipfkbkkndacjaaGreatDoor
namespace Go.Eng
open Go
def Z8X (ops:Array Oper) (Lt:List Nat) (i q:Nat) (r1 r2:List (Nat×Nat)):List Nat->Array Bool->Bool
 | [],listed=>Region.ready .any ops listed == [i,q] && J6 ops Lt r1 (listed.setIfInBounds i true) && J6 ops Lt r2 (listed.setIfInBounds q true)
 | j :: p,listed=>(Region.ready .any ops listed).contains j && Region.free .any ops listed j && Z8X ops Lt i q r1 r2 p (listed.setIfInBounds j true)
structure WDF (P:Program) (n:Nat) (ops:Array Oper) (S:List Nat) (Lt:List Nat) (Q:Exit->Act->World->Prop) (i q:Nat) (r1 r2:List (Nat×Nat)) (p:List Nat) (e:Env) (w:World):Prop where
 h:∀ listed:Array Bool,Region.noSelect ops=true->Z8X ops Lt i q r1 r2 p listed=true->∀ a,Has n e a->ZaH P .any ops S (λj=>Lt.contains j) (λa w=>Q .normal a w) (p.length+(wt r1+1)) listed a w
section
variable {P:Program} {n:Nat} {Q:Exit->Act->World->Prop} {e:Env} {w:World} {ops:Array Oper} {S:List Nat} {Lt:List Nat}
theorem Zhn {id:Nat} {l:List Oper} (m:Nat) (S:List Nat) (Lt:List Nat) (p:List Nat) (i q:Nat) (r1 r2:List (Nat×Nat)) (cI:l.length=m) (hm:P.follows .mixedOrders=true) (hs:Region.noSelect l.toArray=true) (hl:Nat.beq (p.length+(wt r1+1)) l.length=true)
 (hB:Z8X l.toArray Lt i q r1 r2 p (Array.replicate m false)=true)
 (h:∀ w',Stp [] w w'->WDF P n l.toArray S Lt Q i q r1 r2 p e w'):WC P n (.region id l.toArray true) Q e w:=by
 subst cI;refine ⟨λa ha=>wp_region_any hm ?_⟩;have h1:=(h { w with drawn:=w.drawn+1 } (Stp.drew [] w)).h _ hs hB a ha;have h2:=Z12 (Q:=Q) (λa w hz=>hz) _ _ _ _ h1;rw [XS hl] at h2;simpa using h2
theorem Z8Y {i q j d:Nat} {r1 r2:List (Nat×Nat)} {p:List Nat} {op:Op} {ty:TypeId} {pos:String} {af:Array Edge} {gd:Option (Nat×Bool)} {v:Value} (hi:ops[j]?=some ⟨some d,op,ty,pos,af,gd⟩) (hg:Z0b ops e gd) (hp:∀ w',PR P n ⟨some d,op,ty,pos,af,gd⟩ e w' v) (aw:Nat.blt d n=true)
 (k:WDF P n ops S Lt Q i q r1 r2 p ((d,v) :: e) w):WDF P n ops S Lt Q i q r1 r2 (j :: p) e w:=by
 refine ⟨λlisted hs hB a ha=>?_⟩;simp only [Z8X,Xl] at hB;obtain ⟨⟨h1,h2⟩,h3⟩:=hB;have hk:=k.h _ hs h3 _ (ha.put (v:=v) aw);have e1:(j :: p).length+(wt r1+1)=p.length+(wt r1+1)+1:=by simp only [Xe];omega
 rw [e1];exact Z5w (oi:=⟨some d,op,ty,pos,af,gd⟩) (R:=λ_ _=>True) (λ_=>trivial) (λ_ _ _ _ _=>trivial) hi (λ_ _ _ _ _ _ _ _=>trivial) (Region.noSelect_spec hs) _ _ _ _ (Region.free_spec hi h2) (λ_=>trivial) (by simpa using h1) (.inl ⟨Jw ha hg,λw' _=>(hp w').h a ha⟩) hk
theorem Zl8 {i q:Nat} {r1 r2:List (Nat×Nat)} (hw:Nat.beq (wt r1) (wt r2)=true) (h1:WD1 P n ops S Lt Q i r1 e w) (h2:WD1 P n ops S Lt Q q r2 e w):WDF P n ops S Lt Q i q r1 r2 [] e w:=by
 refine ⟨λlisted hs hB a ha=>?_⟩;simp only [Z8X,Xl,beq_iff_eq] at hB;obtain ⟨⟨hr,c1⟩,c2⟩:=hB;have e1:([]:List Nat).length+(wt r1+1)=wt r1+1:=by simp
 rw [e1];refine ⟨λh0=>absurd (hr ▸ h0) (by simp),λj hj=>?_⟩;rw [hr] at hj;have gz:j=i\/j=q:=by simpa using hj
 rcases gz with rfl|rfl
 exact h1.h _ hs c1 a ha;rw [XS hw];exact h2.h _ hs c2 a ha
theorem Z8Z {i q j d:Nat} {r1 r2:List (Nat×Nat)} {p:List Nat} {x:Operand} {ty:TypeId} {pos:String} {af:Array Edge} {gd:Option (Nat×Bool)} {v:Value} (hi:ops[j]?=some ⟨some d,.move x,ty,pos,af,gd⟩) (hg:Z0b ops e gd) (hx:ev e x=some v) (aw:Nat.blt d n=true)
 (k:WDF P n ops S Lt Q i q r1 r2 p ((d,v) :: e) w):WDF P n ops S Lt Q i q r1 r2 (j :: p) e w:=Z8Y hi hg (λ_=>ZX hx) aw k
theorem Zdm {i q j d:Nat} {r1 r2:List (Nat×Nat)} {p:List Nat} {x y:Operand} {t u:TypeId} {a b:Int} {ty:TypeId} {pos:String} {af:Array Edge} {gd:Option (Nat×Bool)} (hi:ops[j]?=some ⟨some d,.binOp .rem t x y u,ty,pos,af,gd⟩) (hg:Z0b ops e gd) (hx:ev e x=some (.I a)) (hy:ev e y=some (.I b)) (h0:0<=a) (hb:0<b) (hr:I64 a) (aw:Nat.blt d n=true)
 (k:WDF P n ops S Lt Q i q r1 r2 p ((d,.I (a % b)) :: e) w):WDF P n ops S Lt Q i q r1 r2 (j :: p) e w:=Z8Y hi hg (λ_=>Zfa hx hy h0 hb hr) aw k
theorem Zl9 {i q j d:Nat} {r1 r2:List (Nat×Nat)} {p:List Nat} {x y:Operand} {t u:TypeId} {a b:Int} {ty:TypeId} {pos:String} {af:Array Edge} {gd:Option (Nat×Bool)} (hi:ops[j]?=some ⟨some d,.binOp .quo t x y u,ty,pos,af,gd⟩) (hg:Z0b ops e gd) (hx:ev e x=some (.I a)) (hy:ev e y=some (.I b)) (h0:0<=a) (hb:0<b) (hr:I64 a) (aw:Nat.blt d n=true)
 (k:WDF P n ops S Lt Q i q r1 r2 p ((d,.I (a / b)) :: e) w):WDF P n ops S Lt Q i q r1 r2 (j :: p) e w:=Z8Y hi hg (λ_=>Zfb hx hy h0 hb hr) aw k
end
end Go.Eng
namespace Go.Proofs.YtipfkbkkndacjaaGreatDoor
open Go Go.Eng Go.RowKit Go.Proofs
theorem Zae (z:Int) (w) (hz:I64 z):CC 28 #[.I z] w λr w'=>(∃ s∈Jo,r=str s)/\Stp [] w w':=by
 refine cW1 10 Tryz.func28 ?_;refine W ?_;refine Z0 (Z1 (vs:=[(0,str [99,108,97,105,109]),(1,str [97,110,115,119,101,114]),(2,str [109,111,116,105,111,110]),(3,str [111,114,100,101,114]),(4,str [97,112,112,101,97,108]),(5,str [108,97,112,115,101])]) rfl (bS6 _ _ _ _ _ _)) rfl ?_;rintro v w1 hN;have hv:SlV [] w1 v Jo:=hN.slv (by simp) rfl rfl (by decide);have hS:=Z9.stp hN;clear hN;refine W ?_;refine CM (Zf rfl rfl) (J7 z 6 _ (by decide) hz) ?_;rintro _ w2 ⟨rfl,hT⟩;have hr:=J1 (if z<0 then -(z+1) else z) 6 (by decide);generalize (if z<0 then -(z+1) else z) % 6=y at hr ⊢;obtain ⟨q,rfl⟩:∃ q:Nat,y=(q:Int):=⟨y.toNat,by omega⟩
 replace hv:=hv.up hT;have cF:q<Jo.length:=by show q<6;omega
 refine RT ?_;exact ⟨⟨_,Xc cF,rfl⟩,hS.trans hT⟩
theorem Z1m (v:Value) (l:List Int) (k:Nat) (w) (hs:SlV [] w v l) :
 CC 33 #[v,.I (k:Int)] w λr w'=>SlV [] w r (l.drop k)/\w'=w:=by
 have aU:=hs.max;refine cW2 11 Tryz.func33 ?_;refine W ?_;have hm:(if (l.length:Int)<(k:Int) then (l.length:Int) else (k:Int))=((min k l.length:Nat):Int):=by split<;>omega
 refine Z8 (Z5c (l:=min k l.length) rfl hs rfl (by omega) (by omega)) rfl ?_;refine W ?_;refine WR ?_;have h:=hs.slc (l:=min k l.length) (r:=l.length) (by omega) (Xn _);rw [Xo] at h;have e:l.drop (min k l.length)=l.drop k:=by
  by_cases hk:k<=l.length;rw [Yae hk];rw [YbB (by omega),Ya0,YaD (by omega)]
 rw [e] at h;exact .mk ⟨h,rfl⟩
structure Zaf (f:Fct):Prop where
 kind:f.kind∈Jo
 day:739616<=f.day/\f.day<=739655
 by_:0<=f.by_/\f.by_<=2
 to_:0<=f.to_/\f.to_<=2
 amt:-20<=f.amt/\f.amt<=179
theorem Zaf.ok {f:Fct} (h:Zaf f):Z0Z f:=⟨by have:=h.day;omega,by have:=h.by_;omega,by have:=h.to_;omega,by have:=h.amt;omega⟩
theorem Zo5 (f:Fct) (w):(Instr.build 45 #[(0,.I f.entry),(1,str f.kind),(2,.I f.day),(3,.I f.by_),(4,.I f.to_),(5,.I f.amt)]).run Tryz.prog w=.ok (aG f) w:=by kernel_rfl
theorem Zho (en z:Int) (w) (hz:I64 z) :
 CC 26 #[.I en,.I z] w λr w'=>∃ f:Fct,r=aG f/\f.entry=en/\Zaf f/\Stp [] w w':=by
 refine cW2 26 Tryz.func26 ?_;refine W ?_;refine Z0 Z2 rfl ?_;rintro _ w1 ⟨b4,rfl,bz,k4,hS⟩;refine W ?_;refine CM (Zf rfl rfl) (J7 z 100000000 _ (by decide) hz) ?_;rintro _ w2 ⟨rfl,hT⟩;have hr:=J1 (if z<0 then -(z+1) else z) 100000000 (by decide);generalize (if z<0 then -(z+1) else z) % 100000000=y at hr ⊢;replace k4:=k4.up hT;replace hS:=hS.trans hT;clear hT;refine W ?_;refine CM (ZN rfl) (Zae y _ (by unfold I64;omega)) ?_;rintro _ w3 ⟨⟨s,hs,rfl⟩,hT⟩;replace k4:=k4.up hT;replace hS:=hS.trans hT;clear hT;refine W ?_;have hf:Zaf (⟨en,s,739616+y / 6 % 40,y / 240 % 3,y / 720 % 3,y / 2160 % 200 - 20⟩:Fct):=by
  refine ⟨hs,?_,?_,?_,?_⟩<;>dsimp only<;>omega
 refine Z7 rfl (Zo5 (⟨en,s,739616+y / 6 % 40,y / 240 % 3,y / 720 % 3,y / 2160 % 200 - 20⟩:Fct)) rfl ?_;generalize hg:(⟨en,s,739616+y / 6 % 40,y / 240 % 3,y / 720 % 3,y / 2160 % 200 - 20⟩:Fct)=f at hf;have he:f.entry=en:=by rw [<- hg]
 refine SA (us:=Z3.enc f) k4 ?_;rintro _ w4 ⟨hT,k4⟩;replace hS:=hS.ow hT;refine W ?_;refine J3 rfl rfl rfl k4 rfl ?_;exact .mk ⟨f,rfl,he,hf,hS⟩
structure Zag (x:Crr):Prop where
 ext:0<=x.extra/\x.extra<=1000
 tol:0<=x.tol/\x.tol<=1000
theorem Z7O (a b c d:Int) (w):(Instr.buildSlice 23 4 #[(0,.I a),(1,.I b),(2,.I c),(3,.I d)]).run Tryz.prog w=.ok (.slice (some ⟨w.heap.size,0,none⟩) 4 4) (w.alloc (.cells #[.I a,.I b,.I c,.I d] 3)):=by kernel_rfl
theorem Zah (x:Crr) (w):(Instr.build 143 #[(0,.I x.extra),(1,.I x.tol)]).run Tryz.prog w=.ok (aG x) w:=by kernel_rfl
theorem Zai (x:Crr) (w):(Instr.buildSlice 26 1 #[(0,aG x)]).run Tryz.prog w=.ok (.slice (some ⟨w.heap.size,0,none⟩) 1 1) (w.alloc (.cells (Z3.enc x).toArray 143)):=by kernel_rfl
theorem Zbv (lv:Value) (l:List Int) (w) (hs:SlV [] w lv l) (hl:∀ a∈l,I64 a) :
 CC 34 #[lv] w λr w'=>∃ cs:List Crr,1<=cs.length/\cs.length<=4/\(∀ x∈cs,Zag x)/\ZF 143 w w' r cs:=by
 refine cW1 32 Tryz.func34 ?_;refine W ?_;refine LP (σ:=Nat×Value×List Crr) (λq=>[(0,lv),(3,q.2.1),(4,.I (q.1:Int))]) (λq W=>q.1<=4/\q.2.2.length=q.1/\(∀ x∈q.2.2,Zag x)/\Row [] W w.heap.size 143 q.2.1 q.2.2/\Stp [] w W) (λq=>4 - q.1) (0,.N,[]) ⟨by decide,rfl,by simp,Row.nil,Stp.refl _ _⟩ ?_;rintro ⟨j,ov,cs⟩ w1 ⟨hj,ai,aP,ab,hS⟩;dsimp only at hj ai aP ab ⊢;have aV:=λb hb=>ab.ob_le b hb;have cr:=hs.up hS;refine W ?_;refine CM (ZK rfl rfl rfl) (ZZ [] _ l 0 4 _ (by decide) (by unfold I64;omega) cr hl) ?_;rintro _ w2 ⟨q,rfl,hq,hT⟩;replace ab:=ab.up hT;replace cr:=cr.up hT;replace hS:=hS.trans hT;clear hT;by_cases hlt:(j:Int)<=(q:Int);refine QO ?_;refine CM (ZK rfl rfl rfl) (ZZ [] _ l (1+(j:Int)) 1000 _ (by decide) (by unfold I64;omega) cr hl) ?_;rintro _ w3 ⟨x,rfl,hx,hT⟩;replace ab:=ab.up hT;replace cr:=cr.up hT;replace hS:=hS.trans hT;clear hT;refine W ?_;refine Zhn 16 (ob ov) [] [0,2,3,7,8,9] 1 6 [(4,0),(5,1),(6,2),(10,0),(11,1),(12,0),(13,2),(14,2),(15,0)] [(10,0),(11,1),(1,2),(4,0),(5,1),(12,0),(13,2),(14,2),(15,0)] rfl mixed (by kernel_rfl) (by kernel_rfl) (by kernel_rfl) (λw1 ae=>?_);replace ab:=ab.up ae;replace hS:=hS.trans ae;clear ae;have za:=hS.size;refine Z8Z rfl trivial rfl rfl ?_;refine Z8Z rfl trivial rfl rfl ?_;refine Zdm rfl trivial rfl rfl (by omega) (by decide) (by unfold I64;omega) rfl ?_;refine Z8Z rfl trivial rfl rfl ?_;refine Zl9 rfl trivial rfl rfl (by omega) (by decide) (by unfold I64;omega) rfl ?_;refine Zdm rfl trivial rfl rfl (by omega) (by decide) (by unfold I64;omega) rfl ?_;obtain ⟨k1,bG,hq1⟩:∃ k:Nat,(x:Int) % 4=(k:Int)/\k<([0,3,5,2]:List Int).length:=⟨x % 4,by omega,YbE _ (by decide)⟩
 obtain ⟨k2,dg,hq2⟩:∃ k:Nat,(x:Int) / 4 % 4=(k:Int)/\k<([0,0,1,2]:List Int).length:=⟨x / 4 % 4,by omega,YbE _ (by decide)⟩
 rw [bG,dg];apply Zl8 rfl;refine Z4q rfl trivial (Z1 (vs:=[(0,.I 0),(1,.I 3),(2,.I 5),(3,.I 2)]) rfl (Z7O _ _ _ _)) (λ_ _ h=>(Z9.stp h).mn) rfl ?_;rintro va wa hN;have eo:SlV (ob ov) wa va ([0,3,5,2]:List Int):=hN.slv (λb hb=>(ab.ob_le b hb).2) rfl rfl (by simp [maxLen]);have hT:=Z9.stp hN;clear hN;replace ab:=ab.up hT;replace hS:=hS.trans hT;clear hT;refine QD ?_;refine Za rfl trivial (Z1 (vs:=[(0,.I 0),(1,.I 0),(2,.I 1),(3,.I 2)]) rfl (Z7O _ _ _ _)) (λ_ _ h=>(Z9.stp h).mn) rfl ?_;rintro vb wb hN;have gJ:SlV (ob ov) wb vb ([0,0,1,2]:List Int):=hN.slv (λb hb=>(ab.ob_le b hb).2) rfl rfl (by simp [maxLen]);have hT:=Z9.stp hN;clear hN;replace ab:=ab.up hT;replace eo:=eo.up hT;replace hS:=hS.trans hT;clear hT;refine QD ?_;have hy:Zag (⟨([0,3,5,2]:List Int)[k1]'hq1,([0,0,1,2]:List Int)[k2]'hq2⟩:Crr):=by
  constructor;have:=Xc hq1;dsimp only;generalize ([0,3,5,2]:List Int)[k1]'hq1=A at this ⊢;simp only [Xb,Xj,or_false] at this;omega;have:=Xc hq2;dsimp only;generalize ([0,0,1,2]:List Int)[k2]'hq2=A at this ⊢;simp only [Xb,Xj,or_false] at this;omega
 refine JL rfl trivial (λw'=>Z0P rfl (λw=>Zah (⟨([0,3,5,2]:List Int)[k1]'hq1,([0,0,1,2]:List Int)[k2]'hq2⟩:Crr) w)) rfl ?_;generalize (⟨([0,3,5,2]:List Int)[k1]'hq1,([0,0,1,2]:List Int)[k2]'hq2⟩:Crr)=y at hy ⊢;refine Za rfl trivial (Z1 rfl (Zai y)) (λ_ _ h=>(Z9.stp h).mn) rfl ?_;rintro vs wd hN;have cP:SlV (ob ov++[]) wd vs [y]:=hN.slv (λb hb=>(ab.ob_le b (by simpa using hb)).2) rfl (by simp) (by simp [maxLen]);have hT:=Z9.stp hN;clear hN;replace ab:=ab.up hT;replace hS:=hS.trans hT;clear hT;have zd:=hS.size;refine Za rfl trivial (ZQ (α:=Crr) (X:=[]) (base:=w.heap.size) rfl (by decide) rfl rfl ab cP (Xh (Xq _ (show cs.length+[y].length<=10 by simp;omega)) (by decide)) (by simp [maxLen];omega) (by omega)) (λ_ _ h=>h.2.1) rfl ?_;rintro ov' we ⟨dh,cB,eC⟩;refine QD ?_;refine W ?_;exact QL (j+1,ov',cs++[y]) ⟨by dsimp only;omega,by simp [ai],λz hz=>by
  rcases Xg.1 hz with h|h
  exact aP z h;simp only [Xk] at h;subst h;exact hy,dh,hS.own cB (λb hb=>.inr (ab.ob_le b hb).1)⟩ (by dsimp only;omega)
 refine Z4q rfl trivial (Z1 (vs:=[(0,.I 0),(1,.I 0),(2,.I 1),(3,.I 2)]) rfl (Z7O _ _ _ _)) (λ_ _ h=>(Z9.stp h).mn) rfl ?_;rintro vb wb hN;have gJ:SlV (ob ov) wb vb ([0,0,1,2]:List Int):=hN.slv (λb hb=>(ab.ob_le b hb).2) rfl rfl (by simp [maxLen]);have hT:=Z9.stp hN;clear hN;replace ab:=ab.up hT;replace hS:=hS.trans hT;clear hT;refine QD ?_;refine Za rfl trivial (Z1 (vs:=[(0,.I 0),(1,.I 3),(2,.I 5),(3,.I 2)]) rfl (Z7O _ _ _ _)) (λ_ _ h=>(Z9.stp h).mn) rfl ?_;rintro va wa hN;have eo:SlV (ob ov) wa va ([0,3,5,2]:List Int):=hN.slv (λb hb=>(ab.ob_le b hb).2) rfl rfl (by simp [maxLen]);have hT:=Z9.stp hN;clear hN;replace ab:=ab.up hT;replace gJ:=gJ.up hT;replace hS:=hS.trans hT;clear hT;refine QD ?_;have hy:Zag (⟨([0,3,5,2]:List Int)[k1]'hq1,([0,0,1,2]:List Int)[k2]'hq2⟩:Crr):=by
  constructor;have:=Xc hq1;dsimp only;generalize ([0,3,5,2]:List Int)[k1]'hq1=A at this ⊢;simp only [Xb,Xj,or_false] at this;omega;have:=Xc hq2;dsimp only;generalize ([0,0,1,2]:List Int)[k2]'hq2=A at this ⊢;simp only [Xb,Xj,or_false] at this;omega
 refine JL rfl trivial (λw'=>Z0P rfl (λw=>Zah (⟨([0,3,5,2]:List Int)[k1]'hq1,([0,0,1,2]:List Int)[k2]'hq2⟩:Crr) w)) rfl ?_;generalize (⟨([0,3,5,2]:List Int)[k1]'hq1,([0,0,1,2]:List Int)[k2]'hq2⟩:Crr)=y at hy ⊢;refine Za rfl trivial (Z1 rfl (Zai y)) (λ_ _ h=>(Z9.stp h).mn) rfl ?_;rintro vs wd hN;have cP:SlV (ob ov++[]) wd vs [y]:=hN.slv (λb hb=>(ab.ob_le b (by simpa using hb)).2) rfl (by simp) (by simp [maxLen]);have hT:=Z9.stp hN;clear hN;replace ab:=ab.up hT;replace hS:=hS.trans hT;clear hT;have zd:=hS.size;refine Za rfl trivial (ZQ (α:=Crr) (X:=[]) (base:=w.heap.size) rfl (by decide) rfl rfl ab cP (Xh (Xq _ (show cs.length+[y].length<=10 by simp;omega)) (by decide)) (by simp [maxLen];omega) (by omega)) (λ_ _ h=>h.2.1) rfl ?_;rintro ov' we ⟨dh,cB,eC⟩;refine QD ?_;refine W ?_;exact QL (j+1,ov',cs++[y]) ⟨by dsimp only;omega,by simp [ai],λz hz=>by
  rcases Xg.1 hz with h|h
  exact aP z h;simp only [Xk] at h;subst h;exact hy,dh,hS.own cB (λb hb=>.inr (ab.ob_le b hb).1)⟩ (by dsimp only;omega)
 . refine QO ?_
   all_goals
    refine RU ?_;exact ⟨cs,by omega,by omega,aP,ab,hS⟩
end Go.Proofs.YtipfkbkkndacjaaGreatDoor
