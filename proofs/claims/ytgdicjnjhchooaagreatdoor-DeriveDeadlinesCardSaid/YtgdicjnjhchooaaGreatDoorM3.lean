/-
Contracts and plain laws, merged out of own texts.
-/
import Derived.Test.YtgdicjnjhchooaaGreatDoorM2
import Derived.Test.YtgdicjnjhchooaaGreatDoorRows
import Derived.Test.YtgdicjnjhchooaaGreatDoorTie
import Derived.Test.YtgdicjnjhchooaaGreatDoorCards
import Derived.Shelf.SlSortCmp.NoneTotal
import Derived.Laws.CopyRow
import Derived.Test.YtgdicjnjhchooaaGreatDoorShl3
import Derived.Recover
import Derived.RangeFuncLeaves
import Derived.RangeFuncCalls
import Derived.RangeFuncSeq
import Derived.OrdersIn
set_option linter.unusedVariables false
set_option linter.unusedSimpArgs false
set_option maxHeartbeats 4000000
set_option maxRecDepth 20000
namespace Go.Proofs.YtgdicjnjhchooaaGreatDoor
open Go Go.Eng Go.RowKit
theorem Zcs (v:Value) (r:Rul) (w) (hv:Zq5 [] w v r) (h1:ZT r.cnd<=1000) (h2:ZT r.due<=1000) :
 CC 61 #[v] w λr' w'=>r'=.I (Z3m r)/\Stp [] w w':=by
 obtain ⟨ki,kd,rfl,hi,hd⟩:=hv;have tM:=Z1r r.cnd;have lY:=Z1r r.due;refine cW1 69 Tryz.func61 ?_;refine W ?_;refine Z0 (Zp rfl) rfl ?_;rintro _ w1 ⟨b,rfl,hb,ab,hS⟩;replace ab:Blk w1 b _ (rlC r ki kd):=ab;refine W ?_;refine CL (Z1d r.name _) ?_;rintro _ w2 ⟨rfl,hT⟩;replace ab:=ab.up hT;replace hS:=hS.trans hT;clear hT;refine Z98 (σ:=Bool) (λq=>[(1,pQ b),(2,.I 0),(38,.B q)]) (λq w'=>Blk w' b 73 (rlC r ki kd)/\Stp [] w w'/\q=!Z0L r) ?_ ?_
 . cases hA:JF r.name with
   | false=>
     refine W ?_;exact QT true ⟨ab,hS,by simp [Z0L, *]⟩
   | true=>
     refine W ?_;refine CL (Z1d r.on _) ?_;rintro _ w2 ⟨rfl,hT⟩;replace ab:=ab.up hT;replace hS:=hS.trans hT;clear hT;cases hB:JF r.on with
     | false=>
       refine W ?_;exact QT true ⟨ab,hS,by simp [Z0L, *]⟩
     | true=>
       repeat'(first|refine W1 ?_|omega|refine VG ?_ ?_<;>intro hg|refine VC ?_ ?_<;>intro hc)
       . refine CL (Z1d r.unl _) ?_
         rintro _ w2 ⟨rfl,hT⟩;replace ab:=ab.up hT;replace hS:=hS.trans hT;clear hT;cases hC:JF r.unl with
         | false=>
           refine W ?_;exact QT true ⟨ab,hS,by simp [Z0L, *]⟩
         | true=>
           (refine QP ?_ ?_<;>intro hg)
           . refine CL (Z1d r.els _) ?_
             rintro _ w2 ⟨rfl,hT⟩;replace ab:=ab.up hT;replace hS:=hS.trans hT;clear hT;cases hD:JF r.els with
             | false=>
               refine W ?_;exact QT true ⟨ab,hS,by simp [Z0L, *]⟩
             | true=>
               refine W ?_;exact QT false ⟨ab,hS,by simp [Z0L, *]⟩
           exact QT false ⟨ab,hS,by simp [Z0L, *]⟩
       . refine CL (Z1d r.els _) ?_
         rintro _ w2 ⟨rfl,hT⟩;replace ab:=ab.up hT;replace hS:=hS.trans hT;clear hT;cases hD:JF r.els with
         | false=>
           refine W ?_;exact QT true ⟨ab,hS,by simp [Z0L, *]⟩
         | true=>
           refine W ?_;exact QT false ⟨ab,hS,by simp [Z0L, *]⟩
       exact QT false ⟨ab,hS,by simp [Z0L, *]⟩
 rintro q w3 ⟨ab,hS,hq⟩
 try dsimp only at hq ⊢
 unfold Z3m;cases fB:Z0L r with
 | false=>
   rw [fB] at hq;subst hq;refine RT ?_;exact ⟨rfl,hS⟩
 | true=>
   rw [fB] at hq;subst hq;rw [if_neg (by decide)];refine W ?_;by_cases hr:r.frm<0\/r.frm > 3652058
   . rw [if_pos hr]
     repeat'(first|refine W1 ?_|omega|refine VG ?_ ?_<;>intro hg|refine VC ?_ ?_<;>intro hc)
     all_goals
      refine RU ?_;exact ⟨rfl,hS⟩
   rw [if_neg hr];refine QO ?_;apply Z9 (Zn (us:=ndC r.cnd ki) rfl rfl ab rfl rfl) rfl;refine W ?_;refine CM (ZS rfl) (Z6C [] _ r.cnd _ (Z3h _ h1) (by omega) ⟨ki,rfl,hi.up hS⟩) ?_;rintro _ w4 ⟨rfl,hT⟩;replace ab:=ab.up hT;replace hS:=hS.trans hT;clear hT;unfold Z6M;by_cases n1:ZQ r.cnd<=12
   case neg=>
    simp only [if_neg n1];refine RT ?_;exact ⟨rfl,hS⟩
   simp only [if_pos n1];by_cases t1:Zi r.cnd=0;simp only [if_pos t1];refine RT ?_;exact ⟨rfl,hS⟩;simp only [if_neg t1];by_cases u1:Zi r.cnd=2
   case neg=>
    simp only [if_neg u1];refine RT ?_;exact ⟨rfl,hS⟩
   simp only [if_pos u1];refine QO ?_;apply Z9 (Zn (us:=ndC r.due kd) rfl rfl ab rfl rfl) rfl;refine W ?_;refine CM (ZS rfl) (Z6C [] _ r.due _ (Z3h _ h2) (by omega) ⟨kd,rfl,hd.up hS⟩) ?_;rintro _ w5 ⟨rfl,hT⟩;replace hS:=hS.trans hT;clear hT;by_cases n2:ZQ r.due<=12
   case neg=>
    simp only [if_neg n2];refine RT ?_;exact ⟨rfl,hS⟩
   simp only [if_pos n2];by_cases t2:Zi r.due=0;simp only [if_pos t2];refine RT ?_;exact ⟨rfl,hS⟩;simp only [if_neg t2];by_cases u2:Zi r.due=3
   case neg=>
    simp only [if_neg u2];refine RT ?_;exact ⟨rfl,hS⟩
   simp only [if_pos u2];refine RT ?_;exact ⟨rfl,hS⟩
abbrev Zq7:Nd:=.mk 0 0 [] []
abbrev J3:Value:=.N
theorem ZdG (r:Rul) {X Y:List Nat} {w w':World} {ki kd:Value} (h1:SlV X w ki r.cnd.kids) (h2:SlV Y w' kd r.due.kids):∀ c∈rlC r ki kd,c.oneCell'=true:=by
 intro c hc;have e1:=h1.one;have e2:=h2.one;simp only [rlC,Xc,Xn,or_false] at hc;rcases hc with rfl|rfl|rfl|rfl|rfl|rfl|rfl|rfl|rfl|rfl|rfl|rfl|rfl<;>first|rfl|exact e1|exact e2
open Go Go.Eng Go.RowKit Go.Proofs
theorem Zmx:∀ d,d<=6->Z1Z 161 1 d/\Z1Z 94 2 d/\Z1Z 95 3 d:=by
 intro d
 induction d with
 | zero=>
   intro h;have ih':∀ e,0=e+1->Z1Z 161 1 e/\Z1Z 94 2 e/\Z1Z 95 3 e:=λe he=>by omega
   exact ⟨Z4D _ h ih',Z6G _ h ih',Z6I _ h ih'⟩
 | succ d ih=>
   intro h;have ih':∀ e,d+1=e+1->Z1Z 161 1 e/\Z1Z 94 2 e/\Z1Z 95 3 e:=λe he=>by
    obtain rfl:d=e:=by omega
    exact ih (by omega)
   exact ⟨Z4D _ h ih',Z6G _ h ih',Z6I _ h ih'⟩
def Zct:List Str:=[[114,48],[114,49],[114,50],[114,51]]
def Z1h:List Str:=[[99,108,97,105,109],[97,110,115,119,101,114],[109,111,116,105,111,110],[111,114,100,101,114],[97,112,112,101,97,108],[108,97,112,115,101]]
theorem ZeJ (q:Nat) (w) (hq:q<4):CC 92 #[.I (q:Int)] w λr w'=>(∃ s∈Zct,r=str s)/\Stp [] w w':=by
 refine cW1 7 Tryz.func92 ?_;refine W ?_;refine CM (Zg rfl rfl) (ZD (q:Int) 4 _ (by decide) (by unfold I64;omega)) ?_;rintro _ w1 ⟨rfl,hS⟩;rw [if_neg (by omega),YbG (by omega) (by omega)];refine CM (ZS rfl) (Z7I (q:Int) _ (by omega) (by omega)) ?_;rintro _ w2 ⟨rfl,hT⟩;have:q=0\/q=1\/q=2\/q=3:=by omega
 have hm:([114]++Lib.itoa (q:Int):Str)∈Zct/\(Lib.itoa (q:Int)).length<=10:=by
  rcases this with rfl|rfl|rfl|rfl<;>(unfold Lib.itoa;rw [if_neg (by omega),Lib.decDigits,dif_pos (by decide)];decide)
 refine Zdw rfl rfl (by simp;omega) rfl ?_;refine RT ?_;exact ⟨⟨_,hm.1,rfl⟩,hS.trans hT⟩
theorem Z5v (q:Nat) (w) (hq:q<6):CC 26 #[.I (q:Int)] w λr w'=>(∃ s∈Z1h,r=str s)/\Stp [] w w':=by
 refine cW1 10 Tryz.func26 ?_;refine W ?_;refine Z0 (Z1 (vs:=[(0,str [99,108,97,105,109]),(1,str [97,110,115,119,101,114]),(2,str [109,111,116,105,111,110]),(3,str [111,114,100,101,114]),(4,str [97,112,112,101,97,108]),(5,str [108,97,112,115,101])]) rfl (bS6 _ _ _ _ _ _)) rfl ?_;rintro v w1 hN;have hv:SlV [] w1 v Z1h:=hN.slv (by simp) rfl rfl (by decide);have hS:=Za.stp hN;clear hN;refine W ?_;refine CM (Zg rfl rfl) (ZD (q:Int) 6 _ (by decide) (by unfold I64;omega)) ?_;rintro _ w2 ⟨rfl,hT⟩;rw [if_neg (by omega),YbG (by omega) (by omega)];replace hv:=hv.up hT;have bV:q<Z1h.length:=by show q<6;exact hq
 refine RT ?_;exact ⟨⟨_,Xb bV,rfl⟩,hS.trans hT⟩
structure Z6N (r:RuleM):Prop where
 name:r.name∈Zct
 frm:739606<=r.frm/\r.frm<739636
 on:r.on∈Z1h
 cond:Gn 2 3 r.cond
 due:Gn 3 3 r.due
 unl:r.unl=[]\/r.unl∈Z1h
 els:r.els=[]\/r.els∈Z1h
theorem ZhG (a o:Str) (f k n:Int) (s:Str) (p:Option Addr) (l c:Nat) (w):(Instr.build 73 #[(0,str a),(1,.I f),(2,str o),(3,.agg #[.I k,.I n,str s,.slice p l c])]).run Tryz.prog w=.ok (.agg #[str a,.I f,str o,.I k,.I n,str s,.slice p l c,.I 0,.I 0,str [],.N,str [],str []]) w:=by kernel_rfl
theorem ZeK (X:List Nat) (bm:Nat) (lv:Value) (l:List Int) (i:Nat) (w) (ay:Mk3 w bm lv i) (au:SlV [bm] w lv l) (hl:∀ a∈l,I64 a) (hi:i<=50000) (hX:∀ b∈X,b<w.heap.size) :
 CC 60 #[pQ bm] w λr w'=>∃ (rl:RuleM) (i':Nat),Zq5 X w' r rl.rul/\Z6N rl/\Mk3 w' bm lv i'/\i'<=i+300/\Stp [bm] w w':=by
 have z4:szD 4=40:=by decide
 have z4':szD (3+1)=40:=z4;have fC:=au;have jO:=ay.lt;refine cW1 40 Tryz.func60 ?_;refine W ?_;refine Z0 Z4 rfl ?_;rintro _ w1 ⟨b2,rfl,cg,e2,hS⟩;have n2:b2≠bm:=by have:=ay.lt;omega
 replace ay:=ay.up hS;replace au:=au.up hS;replace hS:Stp [bm] w w1:=hS.mn;have l2:=e2.lt;refine W ?_;refine CM (Zg rfl rfl) (Z03 bm lv l _ 4 _ (by decide) (by omega) ay au hl) ?_;rintro _ wq ⟨q1,rfl,hq1,ay,hT⟩;replace au:=au.ext hT (λ_ h=>h) (λ_ h=>.inl h);replace e2:=e2.ext hT (by simp;exact n2);replace hS:=hS.trans hT;clear hT;refine CM (ZS rfl) (ZeJ q1 _ (by omega)) ?_;rintro _ wq ⟨⟨nm,fB,rfl⟩,hT⟩;replace ay:=ay.up hT;replace au:=au.up hT;replace e2:=e2.up hT;replace hS:=hS.trans hT.mn;clear hT;refine W ?_;refine CM (Zg rfl rfl) (Z03 bm lv l _ 30 _ (by decide) (by omega) ay au hl) ?_;rintro _ wq ⟨q2,rfl,hq2,ay,hT⟩;replace au:=au.ext hT (λ_ h=>h) (λ_ h=>.inl h);replace e2:=e2.ext hT (by simp;exact n2);replace hS:=hS.trans hT;clear hT;refine W ?_;refine CM (Zg rfl rfl) (Z03 bm lv l _ 6 _ (by decide) (by omega) ay au hl) ?_;rintro _ wq ⟨q3,rfl,rx,ay,hT⟩;replace au:=au.ext hT (λ_ h=>h) (λ_ h=>.inl h);replace e2:=e2.ext hT (by simp;exact n2);replace hS:=hS.trans hT;clear hT;refine CM (ZS rfl) (Z5v q3 _ (by omega)) ?_;rintro _ wq ⟨⟨on,nH,rfl⟩,hT⟩;replace ay:=ay.up hT;replace au:=au.up hT;replace e2:=e2.up hT;replace hS:=hS.trans hT.mn;clear hT;refine W ?_;refine CL (Zcr (b2 :: bm :: X) _) ?_;rintro _ wq ⟨⟨kt,rfl,ht⟩,hT⟩;obtain ⟨pt,ct,rfl,-⟩:=id ht;replace ht:SlV (b2 :: bm :: X) wq (.slice pt Z4F.kids.length ct) Z4F.kids:=ht;replace ay:=ay.up hT;replace au:=au.up hT;replace e2:=e2.up hT;replace hS:=hS.trans hT.mn;clear hT;refine W ?_;refine Z5 (vs:=[(0,str nm),(1,.I _),(2,str on),(3,.agg #[.I 2,.I 1,str [],.slice pt 0 ct])]) rfl (ZhG _ _ _ _ _ _ _ _ _) rfl ?_;refine Z0 Z4 rfl ?_;rintro _ wq ⟨b3,rfl,dM,e0,hT⟩;have ry:∀ c,c<w.heap.size->c<b3:=λc hc=>by have:=hS.size;omega
 have n3:b3≠bm:=by have:=ay.lt;omega
 have n23:b2≠b3:=by have:=e2.lt;omega
 have tN:w.heap.size<=b3:=Xh hS.size dM;refine SB (us:=rlC ⟨nm,739616+(q2:Int) - 10,on,Z4F,Zq7,[],[]⟩ (.slice pt 0 ct) J3) (ZdG _ (X:=b2 :: bm :: X) ht (J6 [] wq)) e0 ?_;rintro _ wq ⟨an,e3⟩;replace hT:=Jy hT dM an;clear an e0;replace ht:SlV (b3 :: b2 :: bm :: X) wq (.slice pt Z4F.kids.length ct) Z4F.kids:=ht.ext hT (by simp) (λc hc=>by
  rcases Xc.1 hc with rfl|h
  exact .inr dM;exact .inl h)
 replace ay:=ay.up hT;replace au:=au.up hT;replace e2:=e2.up hT;replace hS:=hS.trans hT.mn;clear hT dM;have jf:739606<=739616+(q2:Int) - 10/\739616+(q2:Int) - 10<739636:=by omega
 generalize 739616+(q2:Int) - 10=fr at *;clear hq1 rx;refine W ?_;refine CM (Zg rfl rfl) (Z03 bm lv l _ 3 _ (by decide) (by omega) ay au hl) ?_;rintro _ wq ⟨q4,rfl,nF,ay,hT⟩;replace au:=au.ext hT (λ_ h=>h) (λ_ h=>.inl h);replace e2:=e2.ext hT (by simp;exact n2);replace e3:=e3.ext hT (by simp;exact n3);replace hS:=hS.trans hT;replace ht:=ht.ext hT (by simp) (λ_ h=>.inl h);clear hT;have rz:∀ (w':World),Stp [bm] w w'->(∃ cs,Blk w' b3 73 cs)->(∃ cs,Blk w' b2 73 cs)->∀ b∈b3 :: b2 :: bm :: X,b<w'.heap.size:=λw' h1 h2 h3 b hb=>by
  obtain ⟨_,h2⟩:=h2;obtain ⟨_,h3⟩:=h3;have:=h1.size;simp only [Xc] at hb;rcases hb with rfl|rfl|rfl|h
  exact h2.lt;exact h3.lt;omega;have:=hX b h;omega
 refine W ?_
 refine Js (σ:=Nd×Value×Nat) (λ_=>[(0,pQ bm),(2,pQ b2),(3,pQ b3)])
  (λq w'=>Gn 2 3 q.1/\SlV (b3 :: b2 :: bm :: X) w' q.2.1 q.1.kids/\Mk3 w' bm lv q.2.2/\q.2.2<=i+124/\SlV [bm] w' lv l/\(∃ cs:List Value,cs.length=13/\Blk w' b2 73 cs)/\Blk w' b3 73 (rlC ⟨nm,fr,on,q.1,Zq7,[],[]⟩ q.2.1 J3)/\Stp [bm] w w') ?_ ?_
 (refine QP ?_ ?_<;>intro hc)
 refine CM (Zg rfl rfl) ((Zmx 3 (by decide)).2.1 (b3 :: b2 :: bm :: X) _ bm lv l _ _ rfl ay au hl (by rw [z4];omega) (rz _ hS ⟨_,e3⟩ ⟨_,e2⟩)) ?_;rintro _ wq ⟨y,i1,⟨ky,rfl,hy⟩,gy,ay,cu,hT⟩;replace au:=au.ext hT (λ_ h=>h) (λ_ h=>.inl h);replace e2:=e2.ext hT (by simp;exact n2);replace e3:=e3.ext hT (by simp;exact n3);replace hS:=hS.trans hT;clear hT;refine W ?_;refine Z8 (Z1G (us:=ndC y ky) rfl rfl rfl rfl (JH hy) e3 (by simp)) ?_;rintro _ wq ⟨hT,e3⟩;replace e3:Blk wq b3 73 (rlC ⟨nm,fr,on,y,Zq7,[],[]⟩ ky J3):=e3;replace hy:=hy.ext hT (by simp) (λ_ h=>.inl h);replace ay:=ay.ext hT (by simp;exact n3.symm);replace e2:=e2.ext hT (by simp;exact n23);replace hS:=hS.ow hT;replace au:=fC.ext hS (λ_ h=>h) (λ_ h=>.inl h);clear hT;refine W ?_;exact QT (y,ky,_) ⟨gy,hy,ay,by simp only;omega,au,⟨_,rfl,e2⟩,e3,hS⟩;exact QT (Z4F,_,_) ⟨.bool _ _ (by decide),ht,ay,by simp only;omega,au,⟨_,rfl,e2⟩,e3,hS⟩;clear ay au e2 e3 hS ht;rintro ⟨y,ky,i1⟩ wq ⟨gy,hy,ay,cu,au,⟨cs2,eC,e2⟩,e3,hS⟩;dsimp only at gy hy ay cu e3;have z4':szD (3+1)=40:=z4;refine W ?_;refine CM (Zg rfl rfl) ((Zmx 3 (by decide)).2.2 (b3 :: b2 :: bm :: X) _ bm lv l _ _ rfl ay au hl (by rw [z4];omega) (rz _ hS ⟨_,e3⟩ ⟨_,e2⟩)) ?_;rintro _ wq ⟨x,i2,⟨kx,rfl,hx⟩,gx,ay,cy,hT⟩;replace hy:=hy.ext hT (by simp) (λ_ h=>.inl h);replace e2:=e2.ext hT (by simp;exact n2);replace e3:=e3.ext hT (by simp;exact n3);replace hS:=hS.trans hT;clear hT;refine W ?_;refine Z8 (Z1G (us:=ndC x kx) rfl rfl rfl rfl (JH hx) e3 (by simp)) ?_;rintro _ wq ⟨hT,e3⟩;replace e3:Blk wq b3 73 (rlC ⟨nm,fr,on,y,x,[],[]⟩ ky kx):=e3;replace hx:=hx.ext hT (by simp) (λ_ h=>.inl h);replace hy:=hy.ext hT (by simp) (λ_ h=>.inl h);replace ay:=ay.ext hT (by simp;exact n3.symm);replace e2:=e2.ext hT (by simp;exact n23);replace hS:=hS.ow hT;replace au:=fC.ext hS (λ_ h=>h) (λ_ h=>.inl h);clear hT;refine W ?_;refine CM (Zg rfl rfl) (Z03 bm lv l _ 2 _ (by decide) (by omega) ay au hl) ?_;rintro _ wq ⟨q5,rfl,tO,ay,hT⟩;replace hy:=hy.ext hT (by simp) (λ_ h=>.inl h);replace hx:=hx.ext hT (by simp) (λ_ h=>.inl h);replace e2:=e2.ext hT (by simp;exact n2);replace e3:=e3.ext hT (by simp;exact n3);replace hS:=hS.trans hT;replace au:=fC.ext hS (λ_ h=>h) (λ_ h=>.inl h);clear hT;refine W ?_
 refine Js (σ:=Str×Nat) (λ_=>[(0,pQ bm),(2,pQ b2),(3,pQ b3)])
  (λq w'=>(q.1=[]\/q.1∈Z1h)/\SlV (b3 :: b2 :: bm :: X) w' ky y.kids/\SlV (b3 :: b2 :: bm :: X) w' kx x.kids/\Mk3 w' bm lv q.2/\q.2<=i+250/\Blk w' b2 73 cs2/\Blk w' b3 73 (rlC ⟨nm,fr,on,y,x,q.1,[]⟩ ky kx)/\Stp [bm] w w') ?_ ?_
 (refine QP ?_ ?_<;>intro hc)
 refine CM (Zg rfl rfl) (Z03 bm lv l _ 6 _ (by decide) (by omega) ay au hl) ?_;rintro _ wq ⟨q6,rfl,tP,ay,hT⟩;replace hy:=hy.ext hT (by simp) (λ_ h=>.inl h);replace hx:=hx.ext hT (by simp) (λ_ h=>.inl h);replace e2:=e2.ext hT (by simp;exact n2);replace e3:=e3.ext hT (by simp;exact n3);replace hS:=hS.trans hT;clear hT;refine W ?_;refine CM (ZS rfl) (Z5v q6 _ (by omega)) ?_;rintro _ wq ⟨⟨kn,fW,rfl⟩,hT⟩;replace hy:=hy.up hT;replace hx:=hx.up hT;replace ay:=ay.up hT;replace e2:=e2.up hT;replace e3:=e3.up hT;replace hS:=hS.trans hT.mn;clear hT;refine W ?_;refine S1 (u:=str kn) e3 ?_;rintro _ wq ⟨hT,e3⟩;replace e3:Blk wq b3 73 (rlC ⟨nm,fr,on,y,x,kn,[]⟩ ky kx):=e3;replace hx:=hx.ext hT (by simp) (λ_ h=>.inl h);replace hy:=hy.ext hT (by simp) (λ_ h=>.inl h);replace ay:=ay.ext hT (by simp;exact n3.symm);replace e2:=e2.ext hT (by simp;exact n23);replace hS:=hS.ow hT;refine W ?_;exact QT (kn,_) ⟨.inr fW,hy,hx,ay,by simp only;omega,e2,e3,hS⟩;exact QT ([],_) ⟨.inl rfl,hy,hx,ay,by simp only;omega,e2,e3,hS⟩;clear ay au e2 e3 hS hy hx;rintro ⟨u,i5⟩ wq ⟨hu,hy,hx,ay,tQ,e2,e3,hS⟩;dsimp only at hu ay tQ e3;have au:=fC.ext hS (λ_ h=>h) (λ_ h=>.inl h);refine W ?_;refine CM (Zg rfl rfl) (Z03 bm lv l _ 2 _ (by decide) (by omega) ay au hl) ?_;rintro _ wq ⟨q5,rfl,tO,ay,hT⟩;replace hy:=hy.ext hT (by simp) (λ_ h=>.inl h);replace hx:=hx.ext hT (by simp) (λ_ h=>.inl h);replace e2:=e2.ext hT (by simp;exact n2);replace e3:=e3.ext hT (by simp;exact n3);replace hS:=hS.trans hT;replace au:=fC.ext hS (λ_ h=>h) (λ_ h=>.inl h);clear hT;refine W ?_
 refine Js (σ:=Str×Nat) (λ_=>[(0,pQ bm),(2,pQ b2),(3,pQ b3)])
  (λq w'=>(q.1=[]\/q.1∈Z1h)/\SlV (b3 :: b2 :: bm :: X) w' ky y.kids/\SlV (b3 :: b2 :: bm :: X) w' kx x.kids/\Mk3 w' bm lv q.2/\q.2<=i+252/\Blk w' b2 73 cs2/\Blk w' b3 73 (rlC ⟨nm,fr,on,y,x,u,q.1⟩ ky kx)/\Stp [bm] w w') ?_ ?_
 (refine QP ?_ ?_<;>intro hc)
 refine CM (Zg rfl rfl) (Z03 bm lv l _ 6 _ (by decide) (by omega) ay au hl) ?_;rintro _ wq ⟨q6,rfl,tP,ay,hT⟩;replace hy:=hy.ext hT (by simp) (λ_ h=>.inl h);replace hx:=hx.ext hT (by simp) (λ_ h=>.inl h);replace e2:=e2.ext hT (by simp;exact n2);replace e3:=e3.ext hT (by simp;exact n3);replace hS:=hS.trans hT;clear hT;refine W ?_;refine CM (ZS rfl) (Z5v q6 _ (by omega)) ?_;rintro _ wq ⟨⟨kn,fW,rfl⟩,hT⟩;replace hy:=hy.up hT;replace hx:=hx.up hT;replace ay:=ay.up hT;replace e2:=e2.up hT;replace e3:=e3.up hT;replace hS:=hS.trans hT.mn;clear hT;refine W ?_;refine S1 (u:=str kn) e3 ?_;rintro _ wq ⟨hT,e3⟩;replace e3:Blk wq b3 73 (rlC ⟨nm,fr,on,y,x,u,kn⟩ ky kx):=e3;replace hx:=hx.ext hT (by simp) (λ_ h=>.inl h);replace hy:=hy.ext hT (by simp) (λ_ h=>.inl h);replace ay:=ay.ext hT (by simp;exact n3.symm);replace e2:=e2.ext hT (by simp;exact n23);replace hS:=hS.ow hT;refine W ?_;exact QT (kn,_) ⟨.inr fW,hy,hx,ay,by simp only;omega,e2,e3,hS⟩;exact QT ([],_) ⟨.inl rfl,hy,hx,ay,by simp only;omega,e2,e3,hS⟩;clear ay au e2 e3 hS hy hx;rintro ⟨v,i6⟩ wq ⟨hv,hy,hx,ay,tR,e2,e3,hS⟩;dsimp only at hv ay tR e3;have au:=fC.ext hS (λ_ h=>h) (λ_ h=>.inl h);refine W ?_
 try (apply Z9 (Zn (us:=rlC ⟨nm,fr,on,y,x,u,v⟩ ky kx) rfl rfl e3 rfl rfl) rfl)
 try refine W ?_
 refine Z8 (Zw (us:=rlC ⟨nm,fr,on,y,x,u,v⟩ ky kx) rfl rfl rfl rfl (ZdG ⟨nm,fr,on,y,x,u,v⟩ hy hx) e2 (by rw [eC];rfl)) ?_;rintro _ wz ⟨hT,e2⟩;refine W ?_;refine JS rfl rfl rfl e2 rfl ?_;refine .mk ⟨⟨nm,fr,on,y,x,u,v⟩,i6,⟨ky,kx,rfl,(hy.ext hT (by simp) (λ_ h=>.inl h)).wk (λb h=>by simp [h]),(hx.ext hT (by simp) (λ_ h=>.inl h)).wk (λb h=>by simp [h])⟩,⟨fB,jf,nH,gy,gx,hu,hv⟩,ay.ext hT (by simp;exact n2.symm),by omega,hS.ow hT⟩
structure Cr where
 name:Str
 frm:Int
 on:Str
 cnd:List Ins
 due:List Ins
 unl:Str
 els:Str
abbrev crC (q:Cr) (kc kd:Value):List Value:=[str q.name,.I q.frm,str q.on,kc,kd,str q.unl,str q.els]
def CrV (X:List Nat) (w:World) (v:Value) (q:Cr):Prop:=∃ kc kd,v=.agg (crC q kc kd).toArray/\SlV X w kc q.cnd/\SlV X w kd q.due
theorem Z1s {q:Cr} {X Y:List Nat} {w w':World} {kc kd:Value} (h1:SlV X w kc q.cnd) (h2:SlV Y w' kd q.due):∀ c∈crC q kc kd,c.oneCell'=true:=by
 intro c hc;have e1:=h1.one;have e2:=h2.one;simp only [crC,Xc,Xn,or_false] at hc;rcases hc with rfl|rfl|rfl|rfl|rfl|rfl|rfl<;>first|rfl|exact e1|exact e2
def Z2n (r:Rul):Int:=if Z3m r≠0 then Z3m r else if Z2l r.cnd≠0 then Z2l r.cnd else Z2l r.due
abbrev crZ:Cr:=⟨[],0,[],[],[],[],[]⟩
def crF (r:Rul):Cr:=if Z2n r=0 then ⟨r.name,r.frm,r.on,JB r.cnd,JB r.due,r.unl,r.els⟩ else crZ
def ZtU (w:World) (r:Rul) (v:Value) (w':World):Prop:=∃ cv,v=.tuple #[cv,.I (Z2n r)]/\(∀ X:List Nat,(∀ b∈X,b<w.heap.size)->CrV X w' cv (crF r))/\Stp [] w w'
theorem Z6O (w):(Instr.build 65 #[]).run Tryz.prog w=.ok (.agg (crC crZ J3 J3).toArray) w:=by kernel_rfl
theorem Zl8 (q:Cr) (p1 p2:Option Addr) (l1 c1 l2 c2:Nat) (w):(Instr.build 65 #[(0,str q.name),(1,.I q.frm),(2,str q.on),(3,.slice p1 l1 c1),(4,.slice p2 l2 c2),(5,str q.unl),(6,str q.els)]).run Tryz.prog w=.ok (.agg (crC q (.slice p1 l1 c1) (.slice p2 l2 c2)).toArray) w:=by kernel_rfl
theorem ZeL (v:Value) (r:Rul) (w) (hv:Zq5 [] w v r) (h1:ZT r.cnd<=1000) (h2:ZT r.due<=1000) :
 Calls Tryz.prog 23 #[v] w (Ret (ZtU w r)):=by
 obtain ⟨ki,kd,rfl,hi,hd⟩:=hv;have tM:=Z1r r.cnd;have lY:=Z1r r.due;refine cW1 48 Tryz.func23 ?_;refine W ?_;refine Z0 (Zp rfl) rfl ?_;rintro _ w1 ⟨b,rfl,hb,ab,hS⟩;replace ab:Blk w1 b _ (rlC r ki kd):=ab;refine W ?_;refine Z0 Z4 rfl ?_;rintro _ w2 ⟨b2,rfl,cg,e2,hT⟩;have oR:w.heap.size<=b2:=Xh hS.size cg;replace ab:=ab.up hT;replace hS:=hS.trans hT;clear hT hb cg;refine W ?_
 try (refine Z9 (ZY rfl rfl ab rfl) rfl ?_)
 refine W ?_;refine CL (Zcs _ r _ ⟨ki,kd,rfl,hi.up hS,hd.up hS⟩ h1 h2) ?_;rintro _ w3 ⟨rfl,hT⟩;replace ab:=ab.up hT;replace e2:=e2.up hT;replace hS:=hS.trans hT;clear hT;by_cases kQ:Z3m r=0
 case neg=>
  have hE:Z2n r=Z3m r:=by unfold Z2n;rw [if_pos kQ]
  have hC:crF r=crZ:=by unfold crF;rw [hE,if_neg kQ]
  refine QO ?_;apply Z5 (vs:=[]) rfl Z6O rfl;refine W ?_;refine SB (us:=crC crZ J3 J3) (Z1s (q:=crZ) (J6 [] w) (J6 [] w)) e2 ?_;rintro _ w9 ⟨hT,e2⟩;refine W ?_;refine Zq rfl rfl rfl e2 rfl rfl ?_;exact .mk ⟨_,by rw [hE]<;>rfl,λX hX=>⟨J3,J3,by rw [hC],by rw [hC];exact J6 X _,by rw [hC];exact J6 X _⟩,hS.ow hT⟩
 refine QO ?_;apply Z9 (Zn (us:=ndC r.cnd ki) rfl rfl ab rfl rfl) rfl;refine W ?_;refine CM (ZS rfl) (Z31 _ r.cnd _ h1 (by omega) ⟨ki,rfl,hi.up hS⟩) ?_;rintro _ w4 ⟨va,rfl,ha,hT⟩;replace ha:=λX (hX:∀ b∈X,b<w.heap.size)=>ha (b2 :: X) (λb hb=>by
  rcases Xc.1 hb with rfl|h
  exact e2.lt;exact Xv (hX b h) hS.size)
 replace ab:=ab.up hT;replace e2:=e2.up hT;replace hS:=hS.trans hT;clear hT;refine W ?_;by_cases dR:Z2l r.cnd=0
 case neg=>
  have hE:Z2n r=Z2l r.cnd:=by unfold Z2n;rw [if_neg (by simp [kQ]),if_pos dR]
  have hC:crF r=crZ:=by unfold crF;rw [hE,if_neg dR]
  refine QO ?_;apply Z5 (vs:=[]) rfl Z6O rfl;refine W ?_;refine SB (us:=crC crZ J3 J3) (Z1s (q:=crZ) (J6 [] w) (J6 [] w)) e2 ?_;rintro _ w9 ⟨hT,e2⟩;refine W ?_;refine Zq rfl rfl rfl e2 rfl rfl ?_;exact .mk ⟨_,by rw [hE]<;>rfl,λX hX=>⟨J3,J3,by rw [hC],by rw [hC];exact J6 X _,by rw [hC];exact J6 X _⟩,hS.ow hT⟩
 rw [if_pos dR] at ha;refine QO ?_;apply Z9 (Zn (us:=ndC r.due kd) rfl rfl ab rfl rfl) rfl;refine W ?_;refine CM (ZS rfl) (Z31 _ r.due _ h2 (by omega) ⟨kd,rfl,hd.up hS⟩) ?_;rintro _ w5 ⟨vb,rfl,hb,hT⟩;replace hb:=λX (hX:∀ b∈X,b<w.heap.size)=>hb (b2 :: X) (λb hb=>by
  rcases Xc.1 hb with rfl|h
  exact e2.lt;exact Xv (hX b h) hS.size)
 replace ha:=λX hX=>(ha X hX).up hT;replace ab:=ab.up hT;replace e2:=e2.up hT;replace hS:=hS.trans hT;clear hT;refine W ?_;have hE:Z2n r=Z2l r.due:=by unfold Z2n;rw [if_neg (by simp [kQ]),if_neg (by simp [dR])]
 by_cases eC:Z2l r.due=0
 case neg=>
  have hC:crF r=crZ:=by unfold crF;rw [hE,if_neg eC]
  refine QO ?_;apply Z5 (vs:=[]) rfl Z6O rfl;refine W ?_;refine SB (us:=crC crZ J3 J3) (Z1s (q:=crZ) (J6 [] w) (J6 [] w)) e2 ?_;rintro _ w9 ⟨hT,e2⟩;refine W ?_;refine Zq rfl rfl rfl e2 rfl rfl ?_;exact .mk ⟨_,by rw [hE]<;>rfl,λX hX=>⟨J3,J3,by rw [hC],by rw [hC];exact J6 X _,by rw [hC];exact J6 X _⟩,hS.ow hT⟩
 rw [if_pos eC] at hb;have hC:crF r=⟨r.name,r.frm,r.on,JB r.cnd,JB r.due,r.unl,r.els⟩:=by unfold crF;rw [hE,if_pos eC]
 obtain ⟨p1,c1,rfl,-⟩:=id (ha [] (by simp));obtain ⟨p2,c2,rfl,-⟩:=id (hb [] (by simp));refine QO ?_;apply Z5 (vs:=[(0,str r.name),(1,.I r.frm),(2,str r.on),(3,.slice p1 (JB r.cnd).length c1),(4,.slice p2 (JB r.due).length c2),(5,str r.unl),(6,str r.els)]) rfl (Zl8 ⟨r.name,r.frm,r.on,JB r.cnd,JB r.due,r.unl,r.els⟩ _ _ _ _ _ _) rfl;refine SB (us:=crC ⟨r.name,r.frm,r.on,JB r.cnd,JB r.due,r.unl,r.els⟩ (.slice p1 (JB r.cnd).length c1) (.slice p2 (JB r.due).length c2)) (Z1s (q:=⟨r.name,r.frm,r.on,JB r.cnd,JB r.due,r.unl,r.els⟩) (ha [] (by simp)) (hb [] (by simp))) e2 ?_;rintro _ w9 ⟨hT,e2⟩;refine W ?_;refine Zq rfl rfl rfl e2 rfl rfl ?_;exact .mk ⟨_,by rw [hE,eC],λX hX=>by
  rw [hC];exact ⟨_,_,rfl,((ha X hX).ext hT (by simp) (λ_ h=>.inl h)).wk (λb h=>by simp [h]),((hb X hX).ext hT (by simp) (λ_ h=>.inl h)).wk (λb h=>by simp [h])⟩,hS.ow hT⟩
end Go.Proofs.YtgdicjnjhchooaaGreatDoor
namespace Go.Eng
open Go
end Go.Eng
namespace Go.Proofs.YtgdicjnjhchooaaGreatDoor
open Go Go.Eng Go.RowKit
def ZH (x:Ins):List Int×List Int×List Int×Bool:=
 if x.op=1 then ([],[],[1],decide (-2147483647<=x.n/\x.n<=2147483647))
 else if x.op=2 then ([],[],[2],decide (x.n=0\/x.n=1))
 else if x.op=3 then ([],[],[3],decide (0<=x.n/\x.n<=3652058))
 else if x.op=4 then ([],[],[if x.n=0\/x.n=1 then 3 else 1],decide (0<=x.n/\x.n<7))
 else if x.op=13 then ([],[],[],true)
 else if x.op=14 then ([2],[],[],true)
 else if x.op=5\/x.op=6\/x.op=7 then ([1,1],[],[1],decide (x.n=0))
 else if x.op=8 then ([1],[],[1],decide (x.n=0))
 else if x.op=9\/x.op=10\/x.op=11 then ([1,1],[3,3],[2],decide (x.n=0))
 else if x.op=12 then ([2],[],[2],decide (x.n=0))
 else if x.op=15\/x.op=16\/x.op=17\/x.op=18 then ([3,1],[],[3],decide (x.n=0))
 else if x.op=19\/x.op=20 then ([3],[],[3],decide (x.n=0))
 else if x.op=21\/x.op=22 then ([3,3],[],[3],decide (x.n=0))
 else if x.op=23 then ([3,3],[],[1],decide (x.n=0))
 else if x.op=24 then ([],[],[],decide (x.n=0))
 else ([],[],[],false)
abbrev Shp:=List Int
def J4 (x:Ins) (s:Shp):Option Shp:=
 let e:=ZH x
 let k:=s.length - e.1.length
 if e.2.2.2=true/\e.1.length<=s.length/\(s.drop k=e.1\/e.2.1≠[]/\s.drop k=e.2.1)/\(s.take k++e.2.2.1).length<=16 then some (s.take k++e.2.2.1) else none
def Z0M (st:List (Option Shp)) (t:Int) (sh:Shp):Option (List (Option Shp)):=
 if 0<=t/\t<st.length then
  match st.getD t.toNat none with
  | some s=>if s=sh then some st else none
  | none=>some (st.set t.toNat (some sh))
 else none
def Z1O (st:List (Option Shp)) (i:Nat) (x:Ins):Option (List (Option Shp)):=
 match st.getD i none with
 | none=>none
 | some s=>
   match J4 x s with
   | none=>none
   | some nx=>
     if x.op=24 then (if i+1=st.length/\s.length=1 then some st else none)
     else if x.op=13 then (if x.n > i then Z0M st x.n nx else none)
     else if x.op=14 then (if x.n > i then (Z0M st x.n nx).bind (λst'=>Z0M st' ((i:Int)+1) nx) else none)
     else Z0M st ((i:Int)+1) nx
def Z9d (code:List Ins):Nat->List (Option Shp)->Option (List (Option Shp))
 | 0,st=>some st
 | k+1,st=>(Z9d code k st).bind (λst'=>Z1O st' k (code.getD k ⟨0,0⟩))
def Z35 (code:List Ins):Int×Int:=
 if code.length=0\/code.length > 200 then (0,22) else
  match Z9d code code.length ((some []) :: List.replicate (code.length - 1) none) with
  | none=>(0,22)
  | some st=>(((st.getD (code.length - 1) none).getD []).headD 0,0)
theorem Z0e {st st':List (Option Shp)} {t:Int} {sh:Shp} (h:Z0M st t sh=some st'):st'.length=st.length:=by
 unfold Z0M at h;split at h;split at h;split at h;cases h;rfl;cases h;cases h;simp;cases h
def okS (s:Shp):Prop:=∀ k∈s,k=1\/k=2\/k=3
theorem ZhH {s:Shp} (h:okS s) (k:Nat):okS (s.take k):=λa ha=>h a (Yad ha)
theorem Zl9 {s t:Shp} (h:okS s) (h':okS t):okS (s++t):=λa ha=>(Xd.1 ha).elim (h a) (h' a)
theorem Zq8 {op n:Int} (h:¬ (1<=op/\op<=24)):ZH ⟨op,n⟩=([],[],[],false):=by
 have h1:∀ k:Int,1<=k->k<=24->¬ op=k:=λk h1 h2 e=>h (by omega)
 simp only [ZH];rw [if_neg (h1 1 (by decide) (by decide))];rw [if_neg (h1 2 (by decide) (by decide))];rw [if_neg (h1 3 (by decide) (by decide))];rw [if_neg (h1 4 (by decide) (by decide))];rw [if_neg (h1 13 (by decide) (by decide))];rw [if_neg (h1 14 (by decide) (by decide))];rw [if_neg (not_or.2 ⟨h1 5 (by decide) (by decide),(not_or.2 ⟨h1 6 (by decide) (by decide),(h1 7 (by decide) (by decide))⟩)⟩)];rw [if_neg (h1 8 (by decide) (by decide))];rw [if_neg (not_or.2 ⟨h1 9 (by decide) (by decide),(not_or.2 ⟨h1 10 (by decide) (by decide),(h1 11 (by decide) (by decide))⟩)⟩)];rw [if_neg (h1 12 (by decide) (by decide))];rw [if_neg (not_or.2 ⟨h1 15 (by decide) (by decide),(not_or.2 ⟨h1 16 (by decide) (by decide),(not_or.2 ⟨h1 17 (by decide) (by decide),(h1 18 (by decide) (by decide))⟩)⟩)⟩)];rw [if_neg (not_or.2 ⟨h1 19 (by decide) (by decide),(h1 20 (by decide) (by decide))⟩)];rw [if_neg (not_or.2 ⟨h1 21 (by decide) (by decide),(h1 22 (by decide) (by decide))⟩)];rw [if_neg (h1 23 (by decide) (by decide))];rw [if_neg (h1 24 (by decide) (by decide))]
def Zav (st:List (Option Shp)):Prop:=∀ s,some s∈st->okS s
theorem ZeM (x:Ins):okS (ZH x).2.2.1:=by
 obtain ⟨op,n⟩:=x;by_cases hr:1<=op/\op<=24;have hn:op=1\/op=2\/op=3\/op=4\/op=5\/op=6\/op=7\/op=8\/op=9\/op=10\/op=11\/op=12\/op=13\/op=14\/op=15\/op=16\/op=17\/op=18\/op=19\/op=20\/op=21\/op=22\/op=23\/op=24:=by omega
 rcases hn with rfl|rfl|rfl|rfl|rfl|rfl|rfl|rfl|rfl|rfl|rfl|rfl|rfl|rfl|rfl|rfl|rfl|rfl|rfl|rfl|rfl|rfl|rfl|rfl
 intro k hk;simp [ZH] at hk;omega;intro k hk;simp [ZH] at hk;omega;intro k hk;simp [ZH] at hk;omega;show okS [if n=0\/n=1 then 3 else 1];intro k hk;simp at hk;subst hk;split<;>simp;intro k hk;simp [ZH] at hk;omega;intro k hk;simp [ZH] at hk;omega;intro k hk;simp [ZH] at hk;omega;intro k hk;simp [ZH] at hk;omega;intro k hk;simp [ZH] at hk;omega;intro k hk;simp [ZH] at hk;omega;intro k hk;simp [ZH] at hk;omega;intro k hk;simp [ZH] at hk;omega;intro k hk;simp [ZH] at hk;intro k hk;simp [ZH] at hk;intro k hk;simp [ZH] at hk;omega;intro k hk;simp [ZH] at hk;omega;intro k hk;simp [ZH] at hk;omega;intro k hk;simp [ZH] at hk;omega;intro k hk;simp [ZH] at hk;omega;intro k hk;simp [ZH] at hk;omega;intro k hk;simp [ZH] at hk;omega;intro k hk;simp [ZH] at hk;omega;intro k hk;simp [ZH] at hk;omega;intro k hk;simp [ZH] at hk;rw [Zq8 hr];intro k hk;simp at hk
theorem Zla {x:Ins} {s nx:Shp} (hs:okS s) (h:J4 x s=some nx):okS nx:=by
 unfold J4 at h;dsimp only at h;split at h;cases h;exact Zl9 (ZhH hs _) (ZeM x);cases h
theorem Z4G {st st':List (Option Shp)} {t:Int} {nx:Shp} (ax:Zav st) (hn:okS nx) (h:Z0M st t nx=some st'):Zav st':=by
 unfold Z0M at h;split at h;split at h;split at h;cases h;exact ax;cases h;cases h;intro s hs;rcases List.mem_or_eq_of_mem_set hs with h|h
 exact ax s h;cases h;exact hn;cases h
theorem Zlb {st st':List (Option Shp)} {i:Nat} {x:Ins} (ax:Zav st) (h:Z1O st i x=some st'):Zav st'/\st'.length=st.length:=by
 unfold Z1O at h;split at h;cases h;rename_i s hs;have bQ:okS s:=by
  refine ax s ?_;have hi:i<st.length:=Nat.lt_of_not_le λdu=>by simp [List.getD,YaN.2 du] at hs
  have:st.getD i none=st[i]:=by simp [List.getD,hi]
  rw [<- hs,this];exact Xb hi
 split at h;cases h;rename_i nx hn;have aQ:=Zla bQ hn;split at h;split at h;cases h;exact ⟨ax,rfl⟩;cases h;split at h;split at h;exact ⟨Z4G ax aQ h,Z0e h⟩;cases h;split at h;split at h;obtain ⟨s1,h1,h2⟩:=Yar.1 h;exact ⟨Z4G (Z4G ax aQ h1) aQ h2,by rw [Z0e h2,Z0e h1]⟩;cases h;exact ⟨Z4G ax aQ h,Z0e h⟩
theorem ZhI {code:List Ins} {st0:List (Option Shp)} (h0:Zav st0):∀ k st,Z9d code k st0=some st->Zav st/\st.length=st0.length
 | 0,st,h=>by cases h;exact ⟨h0,rfl⟩
 | k + 1, st, h => by
   obtain ⟨s1,h1,h2⟩:=Yar.1 h;obtain ⟨a,b⟩:=ZhI h0 k s1 h1;obtain ⟨c,d⟩:=Zlb a h2;exact ⟨c,by omega⟩
theorem Zq9 {st st':List (Option Shp)} {i:Nat} {x:Ins} (h0:∀ s,some s∈st->s.length<=16) (h:Z1O st i x=some st'):∀ s,some s∈st'->s.length<=16:=by
 have hr:∀ {st st':List (Option Shp)} {t:Int} {nx:Shp},(∀ s,some s∈st->s.length<=16)->nx.length<=16->Z0M st t nx=some st'->∀ s,some s∈st'->s.length<=16:=by
  intro st st' t nx ax hn h;unfold Z0M at h;split at h;split at h;split at h;cases h;exact ax;cases h;cases h;intro s hs;rcases List.mem_or_eq_of_mem_set hs with h|h
  exact ax s h;cases h;exact hn;cases h
 have hn:∀ {s nx:Shp},J4 x s=some nx->nx.length<=16:=by
  intro s nx h;unfold J4 at h;dsimp only at h;split at h;rename_i hc;cases h;exact hc.2.2.2;cases h
 unfold Z1O at h;split at h;cases h;split at h;cases h;rename_i nx tT;have aQ:=hn tT;split at h;split at h;cases h;exact h0;cases h;split at h;split at h;exact hr h0 aQ h;cases h;split at h;split at h;obtain ⟨s1,h1,h2⟩:=Yar.1 h;exact hr (hr h0 aQ h1) aQ h2;cases h;exact hr h0 aQ h
open Go Go.Eng Go.RowKit Go.Proofs Go.ChangeShapes Go.WideShapes Go.Deep
theorem Zuv:ownKnob Tryz.prog.godebug=none:=by kernel_rfl
theorem ZtV:laidOutB Tryz.prog=true:=by kernel_rfl
section
variable {H:Type} {enc:TypeId×Value->H} {w:World} {base:Nat} {spare:Nat->Bool} {fA:Bool}
theorem ZtW {r:Reach} {b0:Nat} {v:Value} {d:DataW H} {p:List MemPlace} (hv:Value.okWide Tryz.prog w r b0 3 v) (h:DataW.Trod enc Tryz.prog w base spare fA 3 v d p):∃ z:Int,v=.I z/\I64 z:=by
 obtain ⟨z,rfl,_,_,hw⟩:=open_int Tryz.underlying3 hv h;exact ⟨z,rfl,by simpa [I64,Lit.wf,IntKind.min,IntKind.max,IntKind.signed,IntKind.bits] using hw⟩
theorem Zr1 {r:Reach} {b0:Nat} {v:Value} {d:DataW H} {p:List MemPlace} (hv:Value.okWide Tryz.prog w r b0 22 v) (h:DataW.Trod enc Tryz.prog w base spare fA 22 v d p) :
 ∃ l:List Int,SlV [] w v l/\(∀ x∈l,I64 x)/\Zl0 d=l.length:=by
 obtain ⟨fuel,h⟩:=h;obtain ⟨u,l,hu,hs,aL,eD⟩:=ZhB Tryz.underlying22 (by kernel_rfl) Tryz.underlying3 h;obtain ⟨a,m,c,rfl⟩:=okWide_slice Tryz.underlying22 hv;have jP:Value.slice a m c=u:=by simpa [Value.cells] using hu
 subst jP;exact ⟨l,hs,aL,eD⟩
end
end Go.Proofs.YtgdicjnjhchooaaGreatDoor
namespace Go.Eng
open Go Go.RowKit
variable {X:List Nat} {w w':World} {base T:Nat} {v:Value} {zs ys:List Int}
def ZhJ (w:World) (base T:Nat) (v:Value) (zs:List Int):Prop:=(v=.N/\zs=[])\/∃ g cap cur,v=.slice (some ⟨g,0,none⟩) zs.length cap/\base<=g/\w.heap[g]?=some (.cells cur T (0,0))/\zs.length<=cap/\cap<=maxLen/\cur.size=cap/\cur.toList.take zs.length=zs.map (Value.int .i64)
theorem Row.toI (h:Row X w base T v zs):ZhJ w base T v zs:=by
 obtain ⟨css,hl,hr,hx,ho⟩:=h;have hc:css=zs.map (λx=>[Value.int .i64 x]):=by
  apply YaY (by simpa using hl);intro i h1 h2;have:css[i]=[Value.int .i64 zs[i]]:=hr i (by omega) h1;simp [this]
 rcases ho with ⟨rfl,hn⟩|⟨g,cap,cur,rfl,hb,hg,bX,bE,aR,ht⟩
 exact .inl ⟨rfl,XV.1 hn⟩
 . refine .inr ⟨g,cap,cur,rfl,hb,hg,bX,bE,by simpa [Z6.k,Z2.k] using aR,?_⟩
   have h2:cur.toList.take (zs.length * 1)=css.flatten:=ht;rw [Ybd] at h2;rw [h2,hc];clear h2 ht hx hr hl hc bX hg aR
   induction zs with
   | nil=>rfl
   | cons a l ih=>simp at ih ⊢;exact ih
theorem ZhJ.toRow (h:ZhJ w base T v zs):Row X w base T v zs:=by
 rcases h with ⟨rfl,rfl⟩|⟨g,cap,cur,rfl,hb,hg,bX,bE,aR,ht⟩
 exact Row.nil
 . refine ⟨zs.map (λx=>[Value.int .i64 x]),by simp,λi h1 h2=>by simp;rfl,?_⟩
   have hf:(zs.map (λx=>[Value.int .i64 x])).flatten=zs.map (Value.int .i64):=by
    clear ht bX
    induction zs with
    | nil=>rfl
    | cons a l ih=>simp at ih ⊢;exact ih
   rw [hf];refine ⟨by simp [Z6.k,Z2.k],.inr ⟨g,cap,cur,rfl,hb,hg,bX,bE,by simpa [Z6.k,Z2.k] using aR,by simpa [Z6.k,Z2.k] using ht⟩⟩
theorem Z9e {zs:List Int} (hs:zs.Pairwise (·<=·)):(Lib.compact zs).Pairwise (· < ·)/\∀ y,y∈Lib.compact zs↔y∈zs:=by
 have hd:∀ i j,i<=j->j<zs.length->zs.toArray[i]!<=zs.toArray[j]!:=by
  intro i j cW hj;rcases Nat.lt_or_eq_of_le cW with h|rfl
  have:=Yag.1 hs i j (by omega) hj h;simpa [getElem!_pos,hj,show i<zs.length by omega] using this;exact XI _
 have key:∀ m,m<=zs.length->(Lib.compactUpTo zs.toArray m).Pairwise (· < ·)/\∀ y,y∈Lib.compactUpTo zs.toArray m↔∃ i,i<m/\y=zs.toArray[i]!:=by
  intro m
  induction m with
  | zero=>intro _;refine ⟨by simp [Lib.compactUpTo],λy=>by simp [Lib.compactUpTo]⟩
  | succ m ih=>
    intro hm;obtain ⟨i1,i2⟩:=ih (by omega);rw [Lib.compactUpTo_succ];by_cases hk:Lib.keeps zs.toArray m=true;rw [if_pos hk];refine ⟨XX.2 ⟨i1,YaZ _ _,λa ha b hb=>?_⟩,λy=>?_⟩;obtain ⟨i,hi,rfl⟩:=(i2 a).1 ha;rw [Xm.1 hb];have jQ:m=0\/zs.toArray[m]!≠zs.toArray[m - 1]!:=by simpa [Lib.keeps] using hk
    have h1:=hd i (m - 1) (by omega) (by omega);have h2:=hd (m - 1) m (by omega) (by omega);have h3:=jQ.resolve_left (by omega);omega;rw [Xd,i2,Xm];constructor;rintro (⟨i,hi,rfl⟩|rfl);exact ⟨i,by omega,rfl⟩;exact ⟨m,by omega,rfl⟩;rintro ⟨i,hi,rfl⟩;by_cases ca:i<m;exact .inl ⟨i,ca,rfl⟩;exact .inr (by rw [show i=m by omega]);rw [if_neg hk,Xz];have jQ:¬ (m=0\/zs.toArray[m]!≠zs.toArray[m - 1]!):=by simpa [Lib.keeps] using hk
    have rh:m≠0:=λh=>jQ (.inl h);have he:zs.toArray[m]! = zs.toArray[m - 1]!:=Decidable.byContradiction λh=>jQ (.inr h);refine ⟨i1,λy=>?_⟩;rw [i2];constructor;rintro ⟨i,hi,rfl⟩;exact ⟨i,by omega,rfl⟩;rintro ⟨i,hi,rfl⟩;by_cases ca:i<m;exact ⟨i,ca,rfl⟩;exact ⟨m - 1,by omega,by rw [show i=m by omega,he]⟩
 obtain ⟨h1,h2⟩:=key zs.length (Xl _);refine ⟨h1,λy=>?_⟩;show y∈Lib.compactUpTo zs.toArray zs.length↔_;rw [h2];constructor;rintro ⟨i,hi,rfl⟩;simp [getElem!_pos,hi];intro h;obtain ⟨i,hi,rfl⟩:=XB h;exact ⟨i,hi,by simp [getElem!_pos,hi]⟩
theorem ZhK:∀ {a b:List Int},a.Pairwise (· < ·)->b.Pairwise (· < ·)->(∀ y,y∈a↔y∈b)->a=b
 | [],[],_,_,_=>rfl
 | [],y :: b,_,_,h=>absurd ((h y).2 (by simp)) (by simp)
 | x :: a,[],_,_,h=>absurd ((h x).1 (by simp)) (by simp)
 | x :: a, y :: b, ha, hb, h => by
   rw [XD] at ha hb;have kR:x=y:=by
    have h1:=(h x).1 (by simp);have h2:=(h y).2 (by simp);rcases Xc.1 h1 with e|h1
    exact e;rcases Xc.1 h2 with e|h2
    exact e.symm;have:=hb.1 x h1;have:=ha.1 y h2;omega
   subst kR;congr 1;refine ZhK ha.2 hb.2 λz=>?_;constructor;intro hz;rcases Xc.1 ((h z).1 (Yas _ hz)) with e|h1
   have:=ha.1 z hz;omega;exact h1;intro hz;rcases Xc.1 ((h z).2 (Yas _ hz)) with e|h1
   have:=hb.1 z hz;omega;exact h1
def Z32 (zs:List Int):List Int:=Lib.compact (zs.mergeSort λx y=>decide (x<=y))
theorem Z0v (zs:List Int):(Z32 zs).Pairwise (· < ·)/\∀ y,y∈Z32 zs↔y∈zs:=by
 have hp:(zs.mergeSort λx y=>decide (x<=y)).Pairwise (·<=·):=by
  have:=List.pairwise_mergeSort (le:=λ(x y:Int)=>decide (x<=y)) (λa b c h1 h2=>by simp at *;omega) (λa b=>by simp;omega) zs;exact this.imp (λh=>by simpa using h)
 obtain ⟨h1,h2⟩:=Z9e hp;exact ⟨h1,λy=>by unfold Z32;rw [h2];exact (List.mergeSort_perm zs _).mem_iff⟩
theorem Zaw {g q:Nat} {cur:Array Value} (os:Array Obj) (h:w.heap[g]?=some (.cells cur T (0,0))) (hl:ys.length<=cur.size) :
 Stp [g] w (Go.Sort.grow (Go.Sort.putRow (Value.int .i64) (Go.Sort.ahead w q) g 0 ys.toArray) os)/\
 ∃ cur',(Go.Sort.grow (Go.Sort.putRow (Value.int .i64) (Go.Sort.ahead w q) g 0 ys.toArray) os).heap[g]?=some (.cells cur' T (0,0))/\cur'.size=cur.size/\cur'.toList.take ys.length=ys.map (Value.int .i64):=by
 have hlt:g<w.heap.size:=(Xo.1 h).1;have hh:(Go.Sort.grow (Go.Sort.putRow (Value.int .i64) (Go.Sort.ahead w q) g 0 ys.toArray) os).heap=w.heap.modify g (Go.Sort.onCells (Go.Sort.putCells (Value.int .i64) 0 ys.toArray))++os:=rfl;refine ⟨⟨rfl,rfl,rfl,by rw [hh];simp,λb hb hn=>?_⟩,Go.Sort.putCells (Value.int .i64) 0 ys.toArray cur,?_,by simp [Go.Sort.putCells],?_⟩;rw [hh,X3 (by simpa using hb),Ya6,if_neg (by simp at hn;exact λe=>hn e.symm)];rw [hh,X3 (by simpa using hlt),Ya6,if_pos rfl,h];rfl;apply YaY;simp [Go.Sort.putCells];omega;intro i h1 h2;have hi:i<ys.length:=by simpa using h2
 simp [Go.Sort.putCells,hi]
theorem Z87 {g:Nat} {cur:Array Value} (h:w.heap[g]?=some (.cells cur T (0,0))) (ht:cur.toList.take zs.length=zs.map (Value.int .i64)):Go.Sort.Holds (Value.int .i64) w g 0 zs.toArray:=by
 intro j hj;have gj:j<zs.length:=by simpa using hj
 have hc:cur[j]?=some (.I zs[j]):=by
  have h1:(cur.toList.take zs.length)[j]?=some (.I zs[j]):=by rw [ht];simp [gj]
  rw [Yaq,if_pos gj] at h1;simpa using h1
 constructor;simp [World.cell?,h,hc,gj];simp [World.frozen?,h]
end Go.Eng
namespace Go.Proofs.YtgdicjnjhchooaaGreatDoor
open Go Go.Eng Go.RowKit
theorem Zax {X:List Nat} {base T:Nat} {v:Value} {zs:List Int} (w) (h:Row X w base T v zs) (bD:zs.length<4611686018427387904) :
 CC 232 #[v] w λr w'=>r=.tuple #[]/\Row X w' base T v (zs.mergeSort λx y=>decide (x<=y))/\Stp (ob v) w w':=by
 rcases h.toI with ⟨rfl,rfl⟩|⟨g,cap,cur,rfl,hb,hg,bX,bE,aR,ht⟩
 refine (Tryz.slices_Sort_int_none none 0 w).mono ?_;rintro _ _ ⟨rfl,rfl⟩;exact .mk ⟨rfl,by simpa using Row.nil,Stp.refl _ _⟩;have hlt:g<w.heap.size:=(Xo.1 hg).1;refine (Tryz.slices_Sort_int g 0 cap zs w (Z87 hg ht) hlt bD).mono ?_;rintro _ _ ⟨rfl,q,os,rfl⟩;have hl:(zs.mergeSort λx y=>decide (x<=y)).length=zs.length:=Ybt zs;obtain ⟨hS,cur',h1,h2,h3⟩:=Zaw (q:=q) os hg (ys:=zs.mergeSort λx y=>decide (x<=y)) (by omega);refine .mk ⟨rfl,ZhJ.toRow (.inr ⟨g,cap,cur',by rw [hl],hb,h1,by omega,bE,by omega,h3⟩),hS⟩
theorem Z5U {X:List Nat} {base T:Nat} {v:Value} {zs:List Int} (w) (h:Row X w base T v zs) (bD:zs.length<=9223372036854775807) :
 CC 233 #[v] w λr w'=>Row X w' base T r (Lib.compact zs)/\Stp (ob v) w w'/\ob r=ob v:=by
 rcases h.toI with ⟨rfl,rfl⟩|⟨g,cap,cur,rfl,hb,hg,bX,bE,aR,ht⟩
 refine (Tryz.slices_Compact_int_empty none 0 w).mono ?_;rintro _ _ ⟨rfl,rfl⟩;exact .mk ⟨by rw [show Lib.compact ([]:List Int)=[] from rfl];exact Row.nil,Stp.refl _ _,rfl⟩;refine (Tryz.slices_Compact_int g 0 cap zs w (Z87 hg ht) bD bX).mono ?_;rintro _ _ ⟨rfl,q,rfl⟩;have bY:(Lib.compact zs).length<=zs.length:=by
  unfold Lib.compact Lib.compactUpTo;rw [Xy];exact Xh (XG _ _) (by simp)
 have e:∀ W:World,W=Go.Sort.grow W #[]:=λW=>by simp [Go.Sort.grow]
 rw [e (Go.Sort.putRow _ _ _ _ _)];obtain ⟨hS,cur',h1,h2,h3⟩:=Zaw (q:=q) #[] hg (ys:=Lib.compact zs++List.replicate (zs.length - (Lib.compact zs).length) 0) (by simp;omega);refine .mk ⟨ZhJ.toRow (.inr ⟨g,cap,cur',rfl,hb,h1,by omega,bE,by omega,?_⟩),hS,rfl⟩;have h4:=congrArg (List.take (Lib.compact zs).length) h3;rw [Ybc,Yay (by simp)] at h4;rw [h4];simp
theorem Z6P (s:Str) (y:Int):((ZK s).2.2=true/\y=(ZK s).1)↔∃ i,i<7/\s=Zj.getD i []/\y=(i:Int):=by
 by_cases h0:s=[100,97,121]
 subst h0;have e:ZK [100,97,121]=(0,3,true):=by decide +kernel
 have u:∀ i,i<7->[100,97,121]=Zj.getD i []->i=0:=by decide +kernel
 rw [e];constructor;rintro ⟨-,rfl⟩;exact ⟨0,by decide,by decide +kernel,rfl⟩;rintro ⟨i,hi,he,rfl⟩;rw [u i hi he];exact ⟨rfl,rfl⟩;by_cases h1:s=[115,101,114,118,101,100]
 subst h1;have e:ZK [115,101,114,118,101,100]=(1,3,true):=by decide +kernel
 have u:∀ i,i<7->[115,101,114,118,101,100]=Zj.getD i []->i=1:=by decide +kernel
 rw [e];constructor;rintro ⟨-,rfl⟩;exact ⟨1,by decide,by decide +kernel,rfl⟩;rintro ⟨i,hi,he,rfl⟩;rw [u i hi he];exact ⟨rfl,rfl⟩;by_cases h2:s=[101,120,116,114,97]
 subst h2;have e:ZK [101,120,116,114,97]=(2,1,true):=by decide +kernel
 have u:∀ i,i<7->[101,120,116,114,97]=Zj.getD i []->i=2:=by decide +kernel
 rw [e];constructor;rintro ⟨-,rfl⟩;exact ⟨2,by decide,by decide +kernel,rfl⟩;rintro ⟨i,hi,he,rfl⟩;rw [u i hi he];exact ⟨rfl,rfl⟩;by_cases h3:s=[98,121]
 subst h3;have e:ZK [98,121]=(3,1,true):=by decide +kernel
 have u:∀ i,i<7->[98,121]=Zj.getD i []->i=3:=by decide +kernel
 rw [e];constructor;rintro ⟨-,rfl⟩;exact ⟨3,by decide,by decide +kernel,rfl⟩;rintro ⟨i,hi,he,rfl⟩;rw [u i hi he];exact ⟨rfl,rfl⟩;by_cases h4:s=[116,111]
 subst h4;have e:ZK [116,111]=(4,1,true):=by decide +kernel
 have u:∀ i,i<7->[116,111]=Zj.getD i []->i=4:=by decide +kernel
 rw [e];constructor;rintro ⟨-,rfl⟩;exact ⟨4,by decide,by decide +kernel,rfl⟩;rintro ⟨i,hi,he,rfl⟩;rw [u i hi he];exact ⟨rfl,rfl⟩;by_cases h5:s=[99,111,117,114,116]
 subst h5;have e:ZK [99,111,117,114,116]=(5,1,true):=by decide +kernel
 have u:∀ i,i<7->[99,111,117,114,116]=Zj.getD i []->i=5:=by decide +kernel
 rw [e];constructor;rintro ⟨-,rfl⟩;exact ⟨5,by decide,by decide +kernel,rfl⟩;rintro ⟨i,hi,he,rfl⟩;rw [u i hi he];exact ⟨rfl,rfl⟩;by_cases h6:s=[97,109,111,117,110,116]
 subst h6;have e:ZK [97,109,111,117,110,116]=(6,1,true):=by decide +kernel
 have u:∀ i,i<7->[97,109,111,117,110,116]=Zj.getD i []->i=6:=by decide +kernel
 rw [e];constructor;rintro ⟨-,rfl⟩;exact ⟨6,by decide,by decide +kernel,rfl⟩;rintro ⟨i,hi,he,rfl⟩;rw [u i hi he];exact ⟨rfl,rfl⟩;constructor;rintro ⟨h,-⟩;exfalso;have hn:Zj.findIdx? (isS s)=none:=Yaf.2 λx hx=>by
  simp only [Zj,Xc,Xn,or_false] at hx;rcases hx with rfl|rfl|rfl|rfl|rfl|rfl|rfl<;>simp only [isS,decide_eq_false_iff_not]<;>intro e<;>first|exact (absurd e h0)|exact (absurd e.symm h0)|exact (absurd e h1)|exact (absurd e.symm h1)|exact (absurd e h2)|exact (absurd e.symm h2)|exact (absurd e h3)|exact (absurd e.symm h3)|exact (absurd e h4)|exact (absurd e.symm h4)|exact (absurd e h5)|exact (absurd e.symm h5)|exact (absurd e h6)|exact (absurd e.symm h6)|skip
 simp [ZK,idx,hn] at h
 . rintro ⟨i,hi,he,-⟩
   exfalso
   match i,hi with
   | 0,_=>exact h0 he
   | 1,_=>exact h1 he
   | 2,_=>exact h2 he
   | 3,_=>exact h3 he
   | 4,_=>exact h4 he
   | 5,_=>exact h5 he
   | 6,_=>exact h6 he
theorem Z5w {x y:Nd} (h:Zi x≠0) (hy:y∈x.kids):Zi y≠0:=by
 intro h0;apply h;rw [Z2j];unfold JG;split;rfl;rw [if_pos (by rw [<- h0];exact YaJ hy)]
def Seg (C:List Ins) (p:Nat) (c:List Ins):Prop:=∃ A B,C=A++c++B/\A.length=p
theorem Seg.left {C a b:List Ins} {p:Nat} (h:Seg C p (a++b)):Seg C p a:=by
 obtain ⟨A,B,rfl,hp⟩:=h;exact ⟨A,b++B,by simp,hp⟩
theorem Seg.right {C a b:List Ins} {p:Nat} (h:Seg C p (a++b)):Seg C (p+a.length) b:=by
 obtain ⟨A,B,rfl,hp⟩:=h;exact ⟨A++a,B,by simp,by simp [hp]⟩
theorem Seg.at {C r:List Ins} {x:Ins} {p:Nat} (h:Seg C p (x :: r)):C.getD p ⟨0,0⟩=x:=by
 obtain ⟨A,B,rfl,hp⟩:=h;subst hp;simp
def Z4H (C:List Ins):Nat->Nat->List (Option Shp)->Option (List (Option Shp))
 | _,0,st=>some st
 | p,k+1,st=>(Z1O st p (C.getD p ⟨0,0⟩)).bind (Z4H C (p+1) k)
theorem Z1e (C:List Ins) (b:Nat):∀ (a p:Nat) (st:List (Option Shp)),Z4H C p (a+b) st=(Z4H C p a st).bind (Z4H C (p+a) b)
 | 0,p,st=>by simp [Z4H]
 | a + 1, p, st => by
   rw [show a+1+b=(a+b)+1 by omega,Z4H,Z4H];cases h:Z1O st p (C.getD p ⟨0,0⟩) with
   | none=>rfl
   | some st'=>
     simp only [XY];rw [Z1e C b a (p+1) st',show p+1+a=p+(a+1) by omega]
theorem Z3n (C:List Ins) (p:Nat) (st:List (Option Shp)):Z4H C p 1 st=Z1O st p (C.getD p ⟨0,0⟩):=by
 rw [Z4H];cases Z1O st p (C.getD p ⟨0,0⟩)<;>rfl
theorem Z88 (C:List Ins) (st:List (Option Shp)):∀ k:Nat,Z9d C k st=Z4H C 0 k st
 | 0=>rfl
 | k + 1 => by
   rw [Z9d,Z1e,Z88 C st k];cases Z4H C 0 k st with
   | none=>rfl
   | some st'=>simp only [XY,XJ];rw [Z3n]
def Z2o (C:List Ins) (p:Nat) (c:List Ins) (s s':Shp):Prop:=
 ∀ st : List (Option Shp), st.length = C.length -> p + c.length < C.length -> st[p]? = some (some s) -> (∀ i, p < i -> i < p + c.length -> st[i]? = some none)->
   (st[p+c.length]?=some none\/st[p+c.length]?=some (some s'))->
   ∃ st',Z4H C p c.length st=some st'/\st'.length=C.length/\st'[p+c.length]?=some (some s')/\∀ i,p+c.length<i->st'[i]?=st[i]?
theorem Z9f {st:List (Option Shp)} {t:Nat} {sh:Shp} (h:t<st.length) (h2:st[t]?=some none\/st[t]?=some (some sh)) :
 ∃ st',Z0M st (t:Int) sh=some st'/\st'.length=st.length/\st'[t]?=some (some sh)/\∀ i,i≠t->st'[i]?=st[i]?:=by
 unfold Z0M;rw [if_pos (by omega),Ya8,XA];rcases h2 with h2|h2
 rw [h2];exact ⟨_,rfl,by simp,by simp [h],λi hi=>List.getElem?_set_ne (λe=>hi e.symm)⟩;rw [h2];simp only [YaC,if_pos];exact ⟨_,rfl,rfl,h2,λ_ _=>rfl⟩
theorem Z2o.app {C a b:List Ins} {p:Nat} {s s1 s2:Shp} (ha:Z2o C p a s s1) (hb:Z2o C (p+a.length) b s1 s2) (h1:a≠[]) (h2:b≠[]):Z2o C p (a++b) s s2:=by
 intro st hl hlt h0 hn hq;have l1:=X7.2 h1;have l2:=X7.2 h2;simp only [Xa] at hlt hn hq ⊢;obtain ⟨st1,r1,e1,e2,e3⟩:=ha st hl (by omega) h0 (λi hi cy=>hn i hi (by omega)) (.inl (hn _ (by omega) (by omega)));obtain ⟨st2,r2,g1,g2,g3⟩:=hb st1 e1 (by omega) e2 (λi hi cy=>by rw [e3 i hi];exact hn i (by omega) (by omega)) (by rw [e3 _ (by omega),YaK];exact hq);refine ⟨st2,by rw [Z1e,r1];exact r2,g1,by rw [<- YaK];exact g2,λi hi=>by rw [g3 i (by omega),e3 i (by omega)]⟩
theorem Z4I {C:List Ins} {p:Nat} {x:Ins} {s s':Shp} (hs:Seg C p [x]) (h1:x.op≠24) (h2:x.op≠13) (h3:x.op≠14) (hx:J4 x s=some s'):Z2o C p [x] s s':=by
 intro st hl hlt h0 hn hq;simp only [Xe,Xi,XJ] at hlt hq ⊢;obtain ⟨st',r1,r2,r3,r4⟩:=Z9f (st:=st) (t:=p+1) (sh:=s') (by omega) hq;refine ⟨st',?_,by omega,r3,λi hi=>r4 i (by omega)⟩;rw [Z3n,hs.at];unfold Z1O;rw [XA,h0];simp only [YaC,hx];rw [if_neg h1,if_neg h2,if_neg h3];exact r1
def Z5V (b:Nat):List Ins->Shp->Option Shp
 | [],s=>some s
 | x :: r, s => match J4 x s with
   | none=>none
   | some s'=>if s'.length<=b then Z5V b r s' else none
theorem Z1P {x:Ins} {ts r s:Shp} (h:J4 x ts=some r) (hl:s.length+r.length<=16):J4 x (s++ts)=some (s++r):=by
 unfold J4 at h ⊢;dsimp only at h ⊢;split at h;rename_i hc;obtain ⟨c1,c2,c3,c4⟩:=hc;simp only [Xk] at h;have e1:(s++ts).length - (ZH x).1.length=s.length+(ts.length - (ZH x).1.length):=by rw [Xa];omega
 have e2:(s++ts).drop (s.length+(ts.length - (ZH x).1.length))=ts.drop (ts.length - (ZH x).1.length):=by
  rw [List.drop_append,List.drop_of_length_le (by omega),XO];congr 1;omega
 have e3:(s++ts).take (s.length+(ts.length - (ZH x).1.length))=s++ts.take (ts.length - (ZH x).1.length):=by
  rw [Ybe,XS (by omega),show s.length+(ts.length - (ZH x).1.length) - s.length=ts.length - (ZH x).1.length by omega]
 rw [e1,e2,e3];have e4:s++ts.take (ts.length - (ZH x).1.length)++(ZH x).2.2.1=s++r:=by rw [XC,h]
 rw [e4,if_pos ⟨c1,by rw [Xa];omega,c3,by rw [Xa];omega⟩];cases h
theorem Z89 {C:List Ins} (b:Nat):∀ (L:List Ins) (p:Nat) (s ts r:Shp),L≠[]->Seg C p L->(∀ x∈L,x.op≠24/\x.op≠13/\x.op≠14)->Z5V b L ts=some r->s.length+b<=16->Z2o C p L (s++ts) (s++r)
 | [],_,_,_,_,h,_,_,_,_=>absurd rfl h
 | [x], p, s, ts, r, _, hs, ho, hf, hb => by
   obtain ⟨o1,o2,o3⟩:=ho x (by simp);unfold Z5V at hf;cases hx:J4 x ts with
   | none=>rw [hx] at hf;cases hf
   | some s1=>
     rw [hx] at hf;simp only at hf;split at hf;rename_i hl;simp only [Z5V,Xk] at hf;subst hf;exact Z4I hs o1 o2 o3 (Z1P hx (by omega));cases hf
 | x :: y :: L, p, s, ts, r, _, hs, ho, hf, hb => by
   obtain ⟨o1,o2,o3⟩:=ho x (by simp);rw [Z5V] at hf;cases hx:J4 x ts with
   | none=>rw [hx] at hf;cases hf
   | some s1=>
     rw [hx] at hf;simp only at hf;split at hf;rename_i hl;have bB:Seg C p ([x]++(y :: L)):=hs;exact Z2o.app (a:=[x]) (Z4I bB.left o1 o2 o3 (Z1P hx (by omega))) (Z89 b (y :: L) _ s s1 r (by simp) bB.right (λz hz=>ho z (by simp [hz])) hf hb) (by simp) (by simp);cases hf
theorem Z9g {C Lc Ly Ln:List Ins} {p:Nat} {s s':Shp} (t1 t2:Int)
 (hs:Seg C p (Lc++[⟨14,t1⟩]++Ly++[⟨13,t2⟩]++Ln)) (oT:t1=((p+Lc.length+1+Ly.length+1:Nat):Int)) (ia:t2=((p+Lc.length+1+Ly.length+1+Ln.length:Nat):Int))
 (hc:Z2o C p Lc s (s++[2])) (hy:Z2o C (p+Lc.length+1) Ly s s') (hn:Z2o C (p+Lc.length+1+Ly.length+1) Ln s s') (h1:Lc≠[]) (h2:Ly≠[]) (h3:Ln≠[]) (hl:s.length<=16) (dL:s'.length<=16) :
 Z2o C p (Lc++[⟨14,t1⟩]++Ly++[⟨13,t2⟩]++Ln) s s':=by
 intro st ak hlt h0 bg hq;have l1:=X7.2 h1;have l2:=X7.2 h2;have l3:=X7.2 h3;have ec:(Lc++[(⟨14,t1⟩:Ins)]++Ly++[(⟨13,t2⟩:Ins)]++Ln).length=Lc.length+(1+(Ly.length+(1+Ln.length))):=by simp only [Xa,Xe,Xi];omega
 rw [ec] at hlt bg hq ⊢;have g14:C.getD (p+Lc.length) ⟨0,0⟩=⟨14,t1⟩:=(show Seg C (p+Lc.length) (⟨14,t1⟩ :: (Ly++[⟨13,t2⟩]++Ln)) from (show Seg C p (Lc++(⟨14,t1⟩ :: (Ly++[⟨13,t2⟩]++Ln))) by simpa using hs).right).at;have g13:C.getD (p+Lc.length+1+Ly.length) ⟨0,0⟩=⟨13,t2⟩:=by
  have h:=(show Seg C p ((Lc++[⟨14,t1⟩]++Ly)++(⟨13,t2⟩ :: Ln)) by simpa using hs).right.at;rw [<- h];congr 1;simp only [Xa,Xe,Xi];omega
 obtain ⟨st1,r1,e1,e2,e3⟩:=hc st ak (by omega) h0 (λi hi cy=>bg i hi (by omega)) (.inl (bg _ (by omega) (by omega)));have n14:J4 ⟨14,t1⟩ (s++[2])=some s:=by
  have:=Z1P (x:=⟨14,t1⟩) (ts:=[2]) (r:=[]) (s:=s) (by simp [J4,ZH]) (by simpa using hl);simpa using this
 obtain ⟨st2,q1,q2,q3,q4⟩:=Z9f (st:=st1) (t:=p+Lc.length+1+Ly.length+1) (sh:=s) (by omega) (.inl (by rw [e3 _ (by omega)];exact bg _ (by omega) (by omega)));obtain ⟨st3,u1,u2,u3,u4⟩:=Z9f (st:=st2) (t:=p+Lc.length+1) (sh:=s) (by omega) (.inl (by rw [q4 _ (by omega),e3 _ (by omega)];exact bg _ (by omega) (by omega)));have s14:Z4H C (p+Lc.length) 1 st1=some st3:=by
  rw [Z3n,g14];unfold Z1O;rw [XA,e2];simp only [YaC,n14];rw [if_neg (by simp),if_neg (by simp),if_pos trivial,if_pos (by omega),oT,q1];simp only [XY];rw [<- u1];congr 1
 obtain ⟨st4,v1,v2,v3,v4⟩:=hy st3 (by omega) (by omega) u3 (λi hi cy=>by rw [u4 i (by omega),q4 i (by omega),e3 i (by omega)];exact bg i (by omega) (by omega)) (.inl (by rw [u4 _ (by omega),q4 _ (by omega),e3 _ (by omega)];exact bg _ (by omega) (by omega)));have n13:J4 ⟨13,t2⟩ s'=some s':=by
  simp [J4,ZH,dL]
 have nF:st4[p+Lc.length+1+Ly.length+1+Ln.length]?=st[p+(Lc.length+(1+(Ly.length+(1+Ln.length))))]?:=by
  rw [v4 _ (by omega),u4 _ (by omega),q4 _ (by omega),e3 _ (by omega)];congr 1;omega
 obtain ⟨st5,w1,w2,w3,w4⟩:=Z9f (st:=st4) (t:=p+Lc.length+1+Ly.length+1+Ln.length) (sh:=s') (by omega) (by rw [nF];exact hq);have s13:Z4H C (p+Lc.length+1+Ly.length) 1 st4=some st5:=by
  rw [Z3n,g13];unfold Z1O;rw [XA,v3];simp only [YaC,n13];rw [if_neg (by simp),if_pos trivial,if_pos (by omega),ia,w1]
 obtain ⟨st6,x1,x2,x3,x4⟩:=hn st5 (by omega) (by omega) (by rw [w4 _ (by omega),v4 _ (by omega),u4 _ (by omega)];exact q3) (λi hi cy=>by rw [w4 i (by omega),v4 i (by omega),u4 i (by omega),q4 i (by omega),e3 i (by omega)];exact bg i (by omega) (by omega)) (.inr w3);refine ⟨st6,?_,x2,?_,λi hi=>by rw [x4 i (by omega),w4 i (by omega),v4 i (by omega),u4 i (by omega),q4 i (by omega),e3 i (by omega)]⟩;rw [Z1e,r1,XY,Z1e,s14,XY,Z1e,v1,XY,Z1e,s13,XY];exact x1;rw [<- x3];congr 1;omega
theorem Zlc {x:Sig} (h:Z5q x≠0):(x,Value.int .i64 (Z5q x))∈Z34:=by
 have hs:=Zh5 x;unfold Z5q Zh4 Z4h at *;cases hf:Z34.find? (λp=>decide (p.1=x)) with
 | none=>rw [hf] at h;simp at h
 | some p=>
   have h1:=YaA hf;have h2:=List.find?_some hf;simp only [decide_eq_true_eq] at h2;rw [hf] at hs;simp only at hs ⊢;exact (congrArg (·∈Z34) (Prod.ext h2 hs:p=(x,_))).mp h1
theorem ZeN {x:Sig} (h:Z5q x≠0):∃ e∈Z34,x=e.1/\e.2=.I (Z5q x):=⟨_,Zlc h,rfl,rfl⟩
theorem Zmy {ts:List Int} (h0:(0:Int)∉ts) (h3:ts.length<=3) (hn:ts≠[]) (h2:ts.getD 2 0=0):(ts.getD 1 0=0/\ts=[ts.getD 0 0])\/(ts.getD 1 0≠0/\ts=[ts.getD 0 0,ts.getD 1 0]):=by
 match ts,h3 with
 | [],_=>exact absurd rfl hn
 | [a],_=>left;exact ⟨rfl,rfl⟩
 | [a,b],_=>right;refine ⟨λhb=>h0 ?_,rfl⟩;simp at hb;simp [hb]
 | [a,b,c],_=>exact absurd (by simp at h2;simp [h2]) h0
theorem Z5W {k n:Int} {s:Str} {ts:List Int} (h:JG k n s ts≠0) :
 (ts=[]/\JG k n s ts=Z1K k n s)\/
 ((0:Int)∉ts/\ts.length<=3/\ts≠[]/\((k=9/\ts=[2,JG k n s ts,JG k n s ts])\/(k=6/\ts.getD 2 0=0/\JG k n s ts=Z4k s (ts.getD 0 0) (ts.getD 1 0))\/(JG k n s ts=Z5q ⟨k,s,ts.getD 0 0,ts.getD 1 0,ts.getD 2 0⟩))):=by
 unfold JG at h ⊢;split at h;exact absurd rfl h;rename_i h3;split at h;exact absurd rfl h;rename_i h0;rw [if_neg h3,if_neg h0];split at h;rename_i he
 left;exact ⟨he,by rw [if_pos he]⟩;rename_i he
 right;rw [if_neg he];refine ⟨h0,by omega,he,?_⟩;split at h;exact absurd rfl h;rename_i hn;rw [if_neg hn];split at h
 . rename_i h9
   left;rw [if_pos h9];refine ⟨h9.1,?_⟩;obtain ⟨_,_,e2,e3⟩:=h9
   match ts,h3 with
   | [],_=>exact absurd rfl he
   | [a],_=>simp at e2 e3 h
   | [a,b],_=>simp at e2 e3 h;exact absurd e3 h
   | [a,b,c],_=>simp at e2 e3 ⊢;exact ⟨e2,e3.symm⟩
   | a :: b :: c :: d :: r,h3=>simp at h3
 rename_i h9;rw [if_neg h9];split at h;rename_i h6
 right;left;rw [if_pos h6];exact ⟨h6.1,h6.2,rfl⟩;rename_i h6
 right;right;rw [if_neg h6]
theorem Zld {α:Type} {l:List α} (h:l.length=2):∃ a b,l=[a,b]:=by
 match l,h with
 | [a,b],_=>exact ⟨a,b,rfl⟩
theorem Zle {α:Type} {l:List α} (h:l.length=3):∃ a b c,l=[a,b,c]:=by
 match l,h with
 | [a,b,c],_=>exact ⟨a,b,c,rfl⟩
theorem Zay (x:Nd):Zi x≠0->∀ p,Zc x p≠[]:=by
 induction x using Nd.ind with
 | h k n s l ih=>
 intro ht p;have hk:∀ y∈l,Zi y≠0:=λy hy=>Z5w (x:=.mk k n s l) ht hy;rw [Zc];unfold Z1N;have hp:∀ p,l≠[]->Z1M k s (l.map Zc) p≠[]:=by
  intro p hl;unfold Z1M;cases l with
  | nil=>exact absurd rfl hl
  | cons y r=>
    have:=ih y (by simp) (hk y (by simp)) p;simp only [XE,Jq];intro h;simp only [Ybr] at h;exact this h.1.1.1
 split;simp;rename_i hl;have dL:l≠[]:=λh=>hl (by rw [h];rfl)
 split;unfold chC;simp;split;unfold chC;simp;split;unfold chC;simp;split;simp;exact hp p dL
theorem Zaz {C:List Ins}:∀ (l:List Nd),(∀ y∈l,∀ p s,Seg C p (Zc y p)->s.length+ZQ y<=16->Z2o C p (Zc y p) s (s++[Zi y]))->(∀ y∈l,∀ p,Zc y p≠[])->
 ∀ p s,l≠[]->Seg C p (Jq (l.map Zc) p)->(∀ y∈l,s.length+(l.length - 1)+ZQ y<=16)->Z2o C p (Jq (l.map Zc) p) s (s++l.map Zi)
 | [],_,_,_,_,h,_,_=>absurd rfl h
 | [y], hr, bi, p, s, _, hs, hb => by
   have e:Jq ([y].map Zc) p=Zc y p:=by simp [Jq]
   rw [e] at hs ⊢;exact hr y (by simp) p s hs (by have:=hb y (by simp);simpa using this)
 | y :: z :: l, hr, bi, p, s, _, hs, hb => by
   have e:Jq ((y :: z :: l).map Zc) p=Zc y p++Jq ((z :: l).map Zc) (p+(Zc y p).length):=by simp [Jq]
   rw [e] at hs ⊢;have h1:=hr y (by simp) p s hs.left (by have:=hb y (by simp);omega);have h2:=Zaz (z :: l) (λy hy=>hr y (by simp [hy])) (λy hy=>bi y (by simp [hy])) (p+(Zc y p).length) (s++[Zi y]) (by simp) hs.right (λw hw=>by
    have:=hb w (by simp [hw]);simp only [Xa,Xe,Xi] at this ⊢;omega)
   have h3:Jq ((z :: l).map Zc) (p+(Zc y p).length)≠[]:=by
    simp only [XE,Jq];intro h;simp only [Ybr] at h;exact bi z (by simp) _ h.1
   have:=Z2o.app h1 h2 (bi y (by simp) p) h3;simpa using this
theorem Z1Q {C:List Ins} {l:List Nd} {L:List Ins} {p:Nat} {s ts r:Shp} (hr:∀ y∈l,∀ p s,Seg C p (Zc y p)->s.length+ZQ y<=16->Z2o C p (Zc y p) s (s++[Zi y])) (bi:∀ y∈l,∀ p,Zc y p≠[])
 (da:l.map Zi=ts) (hl:l≠[]) (hL:L≠[]) (hs:Seg C p (Jq (l.map Zc) p++L)) (hb:∀ y∈l,s.length+(l.length - 1)+ZQ y<=16) (ho:∀ x∈L,x.op≠24/\x.op≠13/\x.op≠14) (hf:Z5V 2 L ts=some r) (h2:s.length+2<=16) :
 Z2o C p (Jq (l.map Zc) p++L) s (s++r):=by
 have h1:=Zaz l hr bi p s hl hs.left hb;rw [da] at h1;have h3:Jq (l.map Zc) p≠[]:=by
  cases l with
  | nil=>exact absurd rfl hl
  | cons y l=>
    simp only [XE,Jq];intro h;simp only [Ybr] at h;exact bi y (by simp) _ h.1
 exact Z2o.app h1 (Z89 2 L _ s ts r hL hs.right ho hf h2) h3 hL
def Z3o (k:Int) (s:Str):List Ins:=(if k=8\/k=5/\s=[45] then [⟨8,0⟩] else [])++Z42 (opF s)
theorem Z2p (k:Int) (s:Str) (cs:List Cf) (p:Nat):Z1M k s cs p=Jq cs p++Z3o k s:=by unfold Z1M Z3o;rw [XC]
def okL (L:List Ins) (ts:List Int) (t:Int):Bool:=decide (L≠[]) && L.all (λx=>decide (x.op≠24/\x.op≠13/\x.op≠14)) && decide (Z5V 2 L ts=some [t])
theorem Z4J {L:List Ins} {ts:List Int} {t:Int} (h:okL L ts t=true):L≠[]/\(∀ x∈L,x.op≠24/\x.op≠13/\x.op≠14)/\Z5V 2 L ts=some [t]:=by
 unfold okL at h;simp only [Xf,decide_eq_true_eq,XQ] at h;exact ⟨h.1.1,h.1.2,h.2⟩
def Zmz (e:Zew):Bool:=
 match e.2 with
 | .I t=>decide (e.1.kind≠9) && decide (e.1.kind≠6) && decide (e.1.c=0) && okL (Z3o e.1.kind e.1.s) (if e.1.b=0 then [e.1.a] else [e.1.a,e.1.b]) t
 | _=>false
theorem Zlf:Z34.all Zmz=true:=by decide +kernel
theorem ZhL:Z0U.all (λs=>okL (Z3o 6 s++(if s=[45] then [⟨6,0⟩] else [])) [1,1] 1 && !decide (s=[97,110,100]) && !decide (s=[111,114]))=true:=by decide +kernel
theorem Zlg:Z2G.all (λs=>okL (Z3o 6 s) [1,1] 2 && okL (Z3o 6 s) [3,3] 2 && !decide (s=[97,110,100]) && !decide (s=[111,114]) && !decide (s=[45]))=true:=by decide +kernel
theorem ZeO (C:List Ins) (x:Nd):Zi x≠0->∀ p s,Seg C p (Zc x p)->s.length+ZQ x<=16->Z2o C p (Zc x p) s (s++[Zi x]):=by
 induction x using Nd.ind with
 | h k n s l ih=>
 intro ht p sh hs hb;have hk:∀ y∈l,Zi y≠0:=λy hy=>Z5w (x:=.mk k n s l) ht hy;have hr:∀ y∈l,∀ p s,Seg C p (Zc y p)->s.length+ZQ y<=16->Z2o C p (Zc y p) s (s++[Zi y]):=λy hy=>ih y hy (hk y hy);have bi:∀ y∈l,∀ p,Zc y p≠[]:=λy hy=>Zay y (hk y hy);have ci:∀ y∈l,ZQ y+1<=ZQ (.mk k n s l):=λy hy=>by have:=Zam (x:=.mk k n s l) hy;omega
 have hrange:=Z3g (.mk k n s l);have jR:Zi (.mk k n s l)=JG k n s (l.map Zi):=Z2j _;rw [Zc] at hs ⊢;rw [jR] at ht hrange ⊢;rcases Z5W ht with ⟨he,hc⟩|⟨h0,h3,lZ,hc⟩
 ·
   have hl:l=[]:=by simpa using he
   subst hl;unfold Z1N at hs ⊢;rw [if_pos (show (List.map Zc ([]:List Nd)).length=0 from rfl)] at hs ⊢;rw [hc] at ht ⊢;have ak:sh.length+1<=16:=by
    have:1<=ZQ (.mk k n s []):=by rw [Z2k];omega
    omega
   refine Z4I hs ?_ ?_ ?_ ?_;unfold Z1n;split<;>(try split)<;>(try split)<;>simp;unfold Z1n;split<;>(try split)<;>(try split)<;>simp;unfold Z1n;split<;>(try split)<;>(try split)<;>simp;have aQ:J4 (Z1n k n s) []=some [Z1K k n s]:=by
    unfold Z1K at ht ⊢;unfold Z1n;by_cases k4:k=4;subst k4;rw [if_pos rfl] at ht ⊢;split at ht
    . rename_i hn
      rw [if_pos hn];have hf:((ZK s).2.1=3/\((ZK s).1=0\/(ZK s).1=1))\/((ZK s).2.1=1/\2<=(ZK s).1/\(ZK s).1<7):=by
       have h1:(ZK s).2.2=true:=by
        cases hb:(ZK s).2.2 with
        | true=>rfl
        | false=>exact absurd (Z5p hb) ht
       obtain ⟨i,hi,fD,_⟩:=(Z6P s (ZK s).1).1 ⟨h1,rfl⟩;subst fD
       match i,hi with
       | 0,_=>decide +kernel
       | 1,_=>decide +kernel
       | 2,_=>decide +kernel
       | 3,_=>decide +kernel
       | 4,_=>decide +kernel
       | 5,_=>decide +kernel
       | 6,_=>decide +kernel
      rw [if_neg (by decide),if_neg (by decide),if_neg (by decide)];rcases hf with ⟨e1,e2⟩|⟨e1,e2,e3⟩
      simp [J4,ZH,e1,e2];omega;simp [J4,ZH,e1];omega
    exact absurd rfl ht;rw [if_neg k4] at ht ⊢;split at ht;exact absurd rfl ht;rename_i bQ;rw [if_neg bQ];by_cases k1:k=1;rw [if_pos k1] at ht ⊢;rw [if_pos k1];split at ht;rename_i h;rw [if_pos h];simp [J4,ZH];omega;exact absurd rfl ht;rw [if_neg k1] at ht ⊢;rw [if_neg k1];by_cases k2:k=2;rw [if_pos k2] at ht ⊢;rw [if_pos k2];split at ht;rename_i h;rw [if_pos h];simp [J4,ZH];omega;exact absurd rfl ht;rw [if_neg k2] at ht ⊢;rw [if_neg k2];by_cases k3:k=3;rw [if_pos k3] at ht ⊢;rw [if_pos k3];split at ht;rename_i h;rw [if_pos h];simp [J4,ZH];omega;exact absurd rfl ht;rw [if_neg k3] at ht;exact absurd rfl ht
   have:=Z1P (s:=sh) aQ (by simpa using ak);simpa using this
 . have hl:l≠[]:=λh=>lZ (by rw [h];rfl)
   have ak:l.length<=3:=by simpa using h3
   have ec:¬ (l.map Zc).length=0:=by simpa using hl
   unfold Z1N at hs ⊢;rw [if_neg ec] at hs ⊢;rcases hc with ⟨h9,da⟩|⟨h6,tU,cU⟩|mb
   ·
     rw [if_pos h9] at hs ⊢;generalize JG k n s (l.map Zi)=t at *;have jm:l.length=3:=by have:=congrArg List.length da;simpa using this
     obtain ⟨a,b,c,rfl⟩:=Zle jm;simp only [XE,Yap,YbM,and_true] at da;obtain ⟨ta,tb,tc⟩:=da;simp only [XE,Yap,Yav,Yaw] at hs ⊢;unfold chC at hs ⊢;have na:=ci a (by simp);have nb:=ci b (by simp);have nc:=ci c (by simp);refine Z9g _ _ hs rfl rfl ?_ ?_ ?_ (bi a (by simp) _) (bi b (by simp) _) (bi c (by simp) _) (by omega) (by simp only [Xa,Xe,Xi];omega);rw [<- ta];exact hr a (by simp) p sh (by have:=hs.left.left.left.left;exact this) (by omega);rw [<- tb];have h2:=hs.left.left.right;simp only [Xa,Xe,Xi] at h2;exact hr b (by simp) _ sh h2 (by omega);rw [<- tc];have h2:=hs.right;simp only [Xa,Xe,Xi] at h2;have e:p+((Zc a p).length+(0+1)+(Zc b (p+(Zc a p).length+1)).length+(0+1))=p+(Zc a p).length+1+(Zc b (p+(Zc a p).length+1)).length+1:=by omega
     rw [e] at h2;exact hr c (by simp) _ sh h2 (by omega)
   ·
     subst h6;rw [if_neg (by decide)] at hs ⊢;rcases Zmy h0 h3 lZ tU with ⟨dD,da⟩|⟨dD,da⟩
     exfalso;apply ht;rw [cU,dD];have gB:(l.map Zi).getD 0 0≠0:=λh=>h0 (by rw [da,h];simp)
     unfold Z4k;split;rw [if_neg (by omega)];split;rw [if_neg (by omega)];split;rw [if_neg (by omega)];rfl;have dK:l.length=2:=by have:=congrArg List.length da;simpa using this
     obtain ⟨a,b,rfl⟩:=Zld dK;simp only [XE,Yap,Yav,Yaw] at cU;have na:=ci a (by simp);have nb:=ci b (by simp);have ra:=Z3g a;have iD:∀ y∈[a,b],sh.length+([a,b].length - 1)+ZQ y<=16:=λy hy=>by
      have:=ci y hy;simp only [Xe,Xi];omega
     have h2:sh.length+2<=16:=by
      have:1<=ZQ a:=by rw [Z2k];omega
      omega
     by_cases hA:s∈Z0U;have aL:=XQ.1 ZhL s hA;simp only [Xf,Ya9,decide_eq_false_iff_not] at aL;obtain ⟨⟨aL,jS⟩,dE⟩:=aL;obtain ⟨o1,o2,o3⟩:=Z4J aL;have bM:Zi a=Zi b/\Zi a=1:=by
      unfold Z4k at cU;rw [if_pos hA] at cU;split at cU;assumption;exact absurd cU ht
     have oT:JG 6 n s ([a,b].map Zi)=1:=by
      show JG 6 n s [Zi a,Zi b]=1;rw [cU];unfold Z4k;rw [if_pos hA,if_pos bM]
     rw [oT];rw [if_neg (by intro h;exact jS h.2),if_neg (by intro h;exact dE h.2)] at hs ⊢;split at hs;rename_i hm;rw [if_pos hm];rw [Z2p,XC] at hs ⊢;rw [if_pos hm.2] at o1 o2 o3;exact Z1Q hr bi (ts:=[1,1]) (by simp [bM.2,<- bM.1]) (by simp) o1 hs iD o2 o3 h2;rename_i hm;rw [if_neg hm];have lG:¬ s=[45]:=λh=>hm ⟨rfl,h⟩;rw [if_neg lG,Xz] at o1 o2 o3;rw [Z2p] at hs ⊢;exact Z1Q hr bi (ts:=[1,1]) (by simp [bM.2,<- bM.1]) (by simp) o1 hs iD o2 o3 h2;by_cases hC:s∈Z2G;have aL:=XQ.1 Zlg s hC;simp only [Xf,Ya9,decide_eq_false_iff_not] at aL;obtain ⟨⟨⟨⟨oV,oW⟩,jS⟩,dE⟩,tV⟩:=aL;have bM:Zi a=Zi b/\¬ Zi a=2:=by
      unfold Z4k at cU;rw [if_neg hA,if_pos hC] at cU;split at cU;assumption;exact absurd cU ht
     have ia:JG 6 n s ([a,b].map Zi)=2:=by
      show JG 6 n s [Zi a,Zi b]=2;rw [cU];unfold Z4k;rw [if_neg hA,if_pos hC,if_pos bM]
     rw [ia];rw [if_neg (by intro h;exact jS h.2),if_neg (by intro h;exact dE h.2),if_neg (by intro h;exact tV h.2),Z2p] at hs ⊢;have ka:=hk a (by simp);have bJ:Zi a=1\/Zi a=3:=by omega
     rcases bJ with h|h
     obtain ⟨o1,o2,o3⟩:=Z4J oV;exact Z1Q hr bi (ts:=[1,1]) (by simp [h,<- bM.1]) (by simp) o1 hs iD o2 o3 h2;obtain ⟨o1,o2,o3⟩:=Z4J oW;exact Z1Q hr bi (ts:=[3,3]) (by simp [h,<- bM.1]) (by simp) o1 hs iD o2 o3 h2;have hL:s∈Z0I:=by
      by_cases hL:s∈Z0I;exact hL;exfalso;apply ht;show JG 6 n s [Zi a,Zi b]=0;rw [cU];unfold Z4k;rw [if_neg hA,if_neg hC,if_neg hL]
     have bM:Zi a=Zi b/\Zi a=2:=by
      unfold Z4k at cU;rw [if_neg hA,if_neg hC,if_pos hL] at cU;split at cU;assumption;exact absurd cU ht
     have ia:JG 6 n s ([a,b].map Zi)=2:=by
      show JG 6 n s [Zi a,Zi b]=2;rw [cU];unfold Z4k;rw [if_neg hA,if_neg hC,if_pos hL,if_pos bM]
     rw [ia];have hconst:∀ (z:Int) (q:Nat),(z=0\/z=1)->Seg C q [⟨2,z⟩]->Z2o C q [⟨2,z⟩] sh (sh++[2]):=λz q hz tW=>by
      have aQ:J4 ⟨2,z⟩ []=some [2]:=by simp [J4,ZH,hz]
      have:=Z1P (s:=sh) aQ (by simp only [Xe,Xi];omega);rw [Xz] at this;exact Z4I tW (by simp) (by simp) (by simp) this
     simp only [Z0I,Xc,Xn,or_false] at hL;rcases hL with hL|hL
     rw [if_pos ⟨rfl,hL⟩] at hs ⊢;simp only [XE,Yap,Yav,Yaw] at hs ⊢;unfold chC at hs ⊢;refine Z9g _ _ hs rfl rfl ?_ ?_ ?_ (bi a (by simp) _) (bi b (by simp) _) (by simp) (by omega) (by simp only [Xa,Xe,Xi];omega);have h1:=hr a (by simp) p sh hs.left.left.left.left (by omega);rw [bM.2] at h1;exact h1;have h2:=hs.left.left.right;simp only [Xa,Xe,Xi] at h2;have h1:=hr b (by simp) _ sh h2 (by omega);rw [<- bM.1,bM.2] at h1;exact h1;have h2:=hs.right;simp only [Xa,Xe,Xi] at h2;have e:p+((Zc a p).length+(0+1)+(Zc b (p+(Zc a p).length+1)).length+(0+1))=p+(Zc a p).length+1+(Zc b (p+(Zc a p).length+1)).length+1:=by omega
     rw [e] at h2;exact hconst 0 _ (.inl rfl) h2;have mc:¬ ((6:Int)=6/\s=[97,110,100]):=by rintro ⟨_,h⟩;rw [hL] at h;exact absurd h (by decide)
     rw [if_neg mc,if_pos ⟨rfl,hL⟩] at hs ⊢;simp only [XE,Yap,Yav,Yaw] at hs ⊢;unfold chC at hs ⊢;refine Z9g _ _ hs rfl rfl ?_ ?_ ?_ (bi a (by simp) _) (by simp) (bi b (by simp) _) (by omega) (by simp only [Xa,Xe,Xi];omega);have h1:=hr a (by simp) p sh hs.left.left.left.left (by omega);rw [bM.2] at h1;exact h1;have h2:=hs.left.left.right;simp only [Xa,Xe,Xi] at h2;exact hconst 1 _ (.inr rfl) h2;have h2:=hs.right;simp only [Xa,Xe,Xi] at h2;have e:p+((Zc a p).length+(0+1)+(0+1)+(0+1))=p+(Zc a p).length+1+(0+1)+1:=by omega
     rw [e] at h2;have h1:=hr b (by simp) _ sh h2 (by omega);rw [<- bM.1,bM.2] at h1;exact h1
   ·
     obtain ⟨e,he,gY,bF⟩:=ZeN (by rw [<- mb];exact ht);have aL:=XQ.1 Zlf e he;unfold Zmz at aL;rw [bF] at aL;simp only [Xf,decide_eq_true_eq] at aL;obtain ⟨⟨⟨k9,k6⟩,gU⟩,jT⟩:=aL;rw [<- gY] at k9 k6 gU jT;simp only at k9 k6 gU jT;obtain ⟨o1,o2,o3⟩:=Z4J jT;rw [if_neg k9,if_neg (by intro h;exact k6 h.1),if_neg (by intro h;exact k6 h.1),if_neg (by intro h;exact k6 h.1),Z2p] at hs ⊢;rw [mb];have da:l.map Zi=(if (l.map Zi).getD 1 0=0 then [(l.map Zi).getD 0 0] else [(l.map Zi).getD 0 0,(l.map Zi).getD 1 0]):=by
      rcases Zmy h0 h3 lZ gU with ⟨h1,h2⟩|⟨h1,h2⟩
      rw [if_pos h1];exact h2;rw [if_neg h1];exact h2
     have dK:l.length<=2:=by
      have:=congrArg List.length da;rw [Xy] at this;split at this<;>simp only [Xe,Xi] at this<;>omega
     have h2:sh.length+2<=16:=by
      cases l with
      | nil=>exact absurd rfl hl
      | cons y r=>
        have:=ci y (by simp);have:1<=ZQ y:=by rw [Z2k];omega
        omega
     exact Z1Q hr bi da hl o1 hs (λy hy=>by have:=ci y hy;omega) o2 o3 h2
theorem Z8a (y:Nd) (ht:Zi y≠0) (hn:ZQ y<=12) (hl:(JB y).length<=200):Z35 (JB y)=(Zi y,0):=by
 have bi:=Zay y ht 0;have aZ:=X7.2 bi;unfold JB at hl ⊢;have ak:(Zc y 0++[(⟨24,0⟩:Ins)]).length=(Zc y 0).length+1:=by simp
 have hr:=ZeO (Zc y 0++[⟨24,0⟩]) y ht 0 [] ⟨[],[⟨24,0⟩],by simp,rfl⟩ (by simp only [Xi];omega);obtain ⟨st,r1,r2,r3,_⟩:=hr ((some []) :: List.replicate ((Zc y 0++[(⟨24,0⟩:Ins)]).length - 1) none) (by simp) (by rw [ak];omega) (by simp) (λi hi cy=>by
  cases i with
  | zero=>omega
  | succ i=>
    rw [YaX,Ybn,if_pos (by rw [ak];omega)]) (.inl (by
  rw [XJ];obtain ⟨m,hm⟩:∃ m,(Zc y 0).length=m+1:=⟨(Zc y 0).length - 1,by omega⟩
  rw [hm,YaX,Ybn,if_pos (by rw [ak];omega)]))
 rw [XJ] at r3;rw [XO] at r3;unfold Z35;rw [if_neg (by rw [ak] at hl ⊢;omega)];have bj:Z9d (Zc y 0++[⟨24,0⟩]) (Zc y 0++[(⟨24,0⟩:Ins)]).length ((some []) :: List.replicate ((Zc y 0++[(⟨24,0⟩:Ins)]).length - 1) none)=some st:=by
  rw [Z88]
  conv=>lhs;arg 3;rw [ak]
  rw [Z1e,r1,XY,XJ,Z3n];have hg:(Zc y 0++[(⟨24,0⟩:Ins)]).getD (Zc y 0).length ⟨0,0⟩=⟨24,0⟩:=by simp
  rw [hg];unfold Z1O;rw [XA,r3];have aQ:J4 ⟨24,0⟩ [Zi y]=some [Zi y]:=by simp [J4,ZH]
  simp only [YaC,aQ];rw [if_pos trivial,if_pos (by constructor<;>simp [r2])]
 rw [bj];have e:(Zc y 0++[(⟨24,0⟩:Ins)]).length - 1=(Zc y 0).length:=by rw [ak];omega
 simp only [e];rw [XA,r3];rfl
structure Hol where
 kind:Int
 month:Int
 day:Int
 wd:Int
 nth:Int
 off:Int
 move:Int
 first:Int
 last:Int
structure Clo where
 lo:Int
 hi:Int
 known:Int
structure Cal where
 week:List Bool
 hols:List Hol
 clos:List Clo
def Zu (d:Int):Bool:=decide (0<=d/\d<=3652058)
def Z2q (y:Int):Int:=
 let a:=y % 19
 let b:=y / 100
 let c:=y % 100
 let g:=(b - (b+8) / 25+1) / 3
 let h:=(19 * a+b - b / 4 - g+15) % 30
 let l:=(32+2 * (b % 4)+2 * (c / 4) - h - c % 4) % 7
 h+l - 7 * ((a+11 * h+22 * l) / 451)+114
def Z1R (y:Int):Int:=Jt y (Z2q y / 31) (Z2q y % 31+1)
def Z1t (y m wd:Int):Int:=Jt y m 1+(wd - Jt y m 1 % 7+7) % 7
def Zcu (h:Hol) (y:Int):Option Int:=
 if y<h.first\/h.last<y then none
 else if h.kind=1 then (if Z0g y h.month h.day then none else some (Jt y h.month h.day))
 else if h.kind=2 then (if Z1t y h.month h.wd+7 * (h.nth - 1)<Jt y h.month 1+Zo y h.month then some (Z1t y h.month h.wd+7 * (h.nth - 1)) else none)
 else if h.kind=3 then some (Z1t y h.month h.wd+(Jt y h.month 1+Zo y h.month - 1 - Z1t y h.month h.wd) / 7 * 7)
 else if y<1583\/9999<y then none else some (Z1R y+h.off)
def Z0V (m d:Int):Int:=if m=1/\d % 7=5 then d+2 else if m=2/\d % 7=5 then d - 1 else if (m=1\/m=2)/\d % 7=6 then d+1 else d
def Z0j (h:Hol) (y:Int):Option Int:=(Zcu h y).bind λd=>if Zu (Z0V h.move d) then some (Z0V h.move d) else none
structure Z0X (h:Hol):Prop where
 k1:1<=h.kind
 k2:h.kind<=4
 m1:0<=h.move
 m2:h.move<=2
 f1:1<=h.first
 l1:h.last<=9999
 month:h.kind≠4->1<=h.month/\h.month<=12
 day:h.kind=1->1<=h.day/\h.day<=31
 wd:h.kind=2\/h.kind=3->0<=h.wd/\h.wd<=6
 nth:h.kind=2->1<=h.nth/\h.nth<=5
 off:h.kind=4->-100<=h.off/\h.off<=100
def Z2b (l:List Hol) (d:Int):Bool:=
 Zu d && [(ofM d).y - 1,(ofM d).y,(ofM d).y+1].any λy=>l.any λh=>decide (Z0j h y=some d)
def Z44 (l:List Clo) (known d:Int):Bool:=l.any λx=>decide (x.known<=known/\x.lo<=d/\d<=x.hi)
def ZaA (c:Cal) (known d:Int):Bool:=c.week.getD (d % 7).toNat false || Z44 c.clos known d || Z2b c.hols d
def Ze (c:Cal) (known d:Int):Bool:=Zu d && !ZaA c known d
structure ZhM (c:Cal):Prop where
 week:c.week.length=7
 hols:∀ h∈c.hols,Z0X h
 few:c.hols.length<=6
def Z1S (opn:Int->Bool) (step:Int):Nat->Int->Int×Int
 | 0,_=>(0,31)
 | k+1,d=>if Zu d=true then (if opn d=true then (d,0) else Z1S opn step k (d+step)) else (0,31)
def ZE (opn:Int->Bool) (step d:Int):Int×Int:=if Zu d=true then Z1S opn step 1001 d else (0,5)
def Z2c (opn:Int->Bool) (step:Int):Nat->Int->Int×Int
 | 0,d=>(d,0)
 | k+1,d=>if (ZE opn step (d+step)).2=0 then Z2c opn step k (ZE opn step (d+step)).1 else (0,31)
def Z45 (opn:Int->Bool) (d n:Int):Int×Int:=
 if Zu d=true then (if n < -1000\/1000<n then (0,2) else Z2c opn (if n<0 then -1 else 1) n.natAbs d) else (0,5)
def Z6Q (d n:Int):Int×Int:=
 if n < -200000\/200000<n then (0,2) else if Zu d=true then
  (let m:=12 * (ofM d).y+(ofM d).m - 1+n
   if m<12\/120000<=m then (0,5) else (Jt (m / 12) (m % 12+1) (min (ofM d).d (Zo (m / 12) (m % 12+1))),0))
 else (0,5)
def Z33 (b:Bool):Int:=if b=true then 1 else 0
def Z36 (n:Int):Int×Int:=if n < -2147483647\/2147483647<n then (0,5) else (n,0)
def Z7J (n:Int):Int×Int:=if n<0\/3652058<n then (0,5) else (n,0)
def Z9h (ev:List Int) (n:Int):Int×Int:=if n=1/\ev.getD 1 0=-1 then (0,32) else (ev.getD n.toNat 0,0)
def Z7K (opn:Int->Bool) (op b:Int):Int×Int:=
 if op=8 then (-b,0) else if op=19 then ZE opn 1 b else if op=20 then ZE opn (-1) b else (1 - b,0)
def Z2M (opn:Int->Bool) (op a b:Int):Int×Int:=
 if op=5 then Z36 (a+b) else if op=6 then Z36 (a - b) else if op=7 then Z36 (a * b)
 else if op=9 then (Z33 (decide (a<b)),0) else if op=10 then (Z33 (decide (a<=b)),0) else if op=11 then (Z33 (decide (a=b)),0)
 else if op=15 then Z7J (a+b) else if op=16 then Z7J (a+7 * b) else if op=17 then Z6Q a b else if op=18 then Z45 opn a b
 else if op=21 then (max a b,0) else if op=22 then (min a b,0) else (b - a,0)
def arM (op:Int):Nat:=if op=1\/op=2\/op=3\/op=4 then 0 else if op=8\/op=12\/op=19\/op=20 then 1 else 2
def JC (opn:Int->Bool) (ev:List Int) (x:Ins) (a b:Int):Int×Int:=
 if x.op=4 then Z9h ev x.n else if arM x.op=0 then (x.n,0) else if arM x.op=1 then Z7K opn x.op b else Z2M opn x.op a b
abbrev Spn:=Int×Int
def Jk (op a b r:Int):List Spn:=
 if op=19 then [(b,r)] else if op=20 then [(r,b)] else if op=18 then (if 0<b then [(a+1,r)] else if b<0 then [(r,a - 1)] else []) else []
def ZW (st:List Int) (k:Nat):Int:=if k<st.length then st.getD (st.length - 1 - k) 0 else 0
def Z4K (opn:Int->Bool) (ev:List Int) (C:List Ins):Nat->Nat->List Int->List Spn->Int×List Spn×Int
 | 0,_,_,_=>(0,[],22)
 | f + 1, i, st, sp=>
   let x:=C.getD i ⟨0,0⟩
   let b:=ZW st 0
   let a:=ZW st 1
   if x.op=24 then (b,sp,0)
   else if x.op=13 then Z4K opn ev C f x.n.toNat st sp
   else if x.op=14 then Z4K opn ev C f (if b=0 then x.n.toNat else i+1) st.dropLast sp
   else if (JC opn ev x a b).2=0 then Z4K opn ev C f (i+1) (st.take (st.length - arM x.op)++[(JC opn ev x a b).1]) (sp++Jk x.op a b (JC opn ev x a b).1)
   else (0,[],(JC opn ev x a b).2)
def J7 (opn:Int->Bool) (ev:List Int) (C:List Ins):Int×List Spn×Int:=Z4K opn ev C C.length 0 [] []
def vOk (t v:Int):Prop:=(t=1/\-2147483647<=v/\v<=2147483647)\/(t=2/\(v=0\/v=1))\/(t=3/\0<=v/\v<=3652058)
structure ZaB (ev:List Int):Prop where
 len:ev.length=7
 day:0<=ev.getD 0 0/\ev.getD 0 0<=3652058
 served:-1<=ev.getD 1 0/\ev.getD 1 0<=3652058
 rest:∀ i,2<=i->i<7->-2147483647<=ev.getD i 0/\ev.getD i 0<=2147483647
def JN (s:Shp) (st:List Int):Prop:=s.length=st.length/\∀ i (h:i<s.length) (h':i<st.length),vOk s[i] st[i]
theorem Zr {d:Int}:Zu d=true↔0<=d/\d<=3652058:=by unfold Zu;simp
theorem ZaC (opn:Int->Bool) (step:Int):∀ (k:Nat) (d:Int),(Z1S opn step k d).2=0->Zu (Z1S opn step k d).1=true/\opn (Z1S opn step k d).1=true
 | 0,d,h=>by simp [Z1S] at h
 | k + 1, d, h => by
   unfold Z1S at h ⊢;split at h;rename_i h1;rw [if_pos h1];split at h;rename_i h2;rw [if_pos h2];exact ⟨h1,h2⟩;rename_i h2;rw [if_neg h2];exact ZaC opn step k _ h;simp at h
theorem Z1T {opn:Int->Bool} {step d:Int} (h:(ZE opn step d).2=0):Zu (ZE opn step d).1=true/\Zu d=true:=by
 unfold ZE at h ⊢;split at h;rename_i h1;rw [if_pos h1];exact ⟨(ZaC _ _ _ _ h).1,h1⟩;simp at h
theorem ZdH (opn:Int->Bool) (step:Int):∀ (k:Nat) (d:Int),Zu d=true->(Z2c opn step k d).2=0->Zu (Z2c opn step k d).1=true
 | 0,d,hd,h=>hd
 | k + 1, d, hd, h => by
   unfold Z2c at h ⊢;split at h;rename_i h1;rw [if_pos h1];exact ZdH opn step k _ (Z1T h1).1 h;simp at h
theorem Zlh {opn:Int->Bool} {d n:Int} (h:(Z45 opn d n).2=0):Zu (Z45 opn d n).1=true:=by
 unfold Z45 at h ⊢;split at h;rename_i h1;rw [if_pos h1];split at h;simp at h;rename_i h2;rw [if_neg h2];exact ZdH _ _ _ _ h1 h;simp at h
theorem Z11 {y m d:Int} (hy:1<=y) (dm:y<=9999) (hm:1<=m) (fe:m<=12) (hd:1<=d) (iB:d<=Zo y m):0<=Jt y m d/\Jt y m d<=3652058:=by
 obtain ⟨k,hk⟩:∃ k:Nat,m=(k:Int)+1:=⟨(m - 1).toNat,by omega⟩
 subst hk;have hk:k<=11:=by omega
 rw [Z1c y d k hk];have h0:ZG 1=0:=by decide
 have h1:=Z0c hy;have h2:=Z0c (show y+1<=10000 by omega);have h3:ZG 10000=3652059:=by decide
 have gU:0<=Ju y k:=by
  have:=JM (y:=y) (Xr k) (by omega);simpa [Ju] using this
 have hc:Ju y (k+1)=Ju y k+Zo y ((k:Int)+1):=by simp [Ju]
 have me:=JM (y:=y) (show k+1<=12 by omega) (Xl _);have hs:=Z3l y;have tX:=ZdD y;omega
theorem Zli {d n:Int} (h:(Z6Q d n).2=0):Zu (Z6Q d n).1=true:=by
 unfold Z6Q at h ⊢;split at h;simp at h;rename_i h0;rw [if_neg h0];split at h;rename_i h1;rw [if_pos h1];dsimp only at h ⊢;split at h;simp at h;rename_i h2;rw [if_neg h2];rw [Zr] at h1 ⊢;obtain ⟨a1,a2,a3,a4,a5,a6,a7⟩:=Z4m h1.1 h1.2;generalize 12 * (ofM d).y+(ofM d).m - 1+n=m at h2;have hk:(m % 12).toNat<12:=by omega
 have hl:=Z0d (y:=m / 12) hk;rw [show (((m % 12).toNat:Int))=m % 12 by omega] at hl;dsimp only;exact Z11 (by omega) (by omega) (by omega) (by omega) (by omega) (by omega);simp at h
theorem JN.nil:JN [] []:=⟨rfl,λi h=>absurd h (XF _)⟩
theorem JN.one {t v:Int} (h:vOk t v):JN [t] [v]:=⟨rfl,λi hi _=>by
 have:i=0:=by simpa using hi
 subst this;exact h⟩
theorem JN.app {s1 s2:Shp} {l1 l2:List Int} (h1:JN s1 l1) (h2:JN s2 l2):JN (s1++s2) (l1++l2):=by
 refine ⟨by simp [h1.1,h2.1],λi h h'=>?_⟩;by_cases hi:i<s1.length;rw [YaE hi,YaE (by rw [<- h1.1];exact hi)];exact h1.2 i hi _;have e:=h1.1;rw [Yaz (by omega),Yaz (by omega)];have:=h2.2 (i - s1.length) (by simp at h;omega) (by simp at h';omega);simpa [e] using this
theorem JN.take {s:Shp} {l:List Int} (h:JN s l) (k:Nat):JN (s.take k) (l.take k):=
 ⟨by simp [h.1],λi hi ca=>by simp at hi ca ⊢;exact h.2 i _ _⟩
theorem JN.drop {s:Shp} {l:List Int} (h:JN s l) (k:Nat):JN (s.drop k) (l.drop k):=
 ⟨by simp [h.1],λi hi ca=>by simp at hi ca ⊢;exact h.2 _ _ _⟩
theorem JN.one_inv {t:Int} {l:List Int} (h:JN [t] l):∃ v,l=[v]/\vOk t v:=by
 match l,h with
 | [v],h=>exact ⟨v,rfl,h.2 0 (by simp) (by simp)⟩
 | [],h=>exact absurd h.1 (by simp)
 | _ :: _ :: _,h=>exact absurd h.1 (by simp)
theorem JN.two_inv {t u:Int} {l:List Int} (h:JN [t,u] l):∃ a b,l=[a,b]/\vOk t a/\vOk u b:=by
 match l,h with
 | [a,b],h=>exact ⟨a,b,rfl,h.2 0 (by simp) (by simp),h.2 1 (by simp) (by simp)⟩
 | [],h=>exact absurd h.1 (by simp)
 | [_],h=>exact absurd h.1 (by simp)
 | _ :: _ :: _ :: _,h=>exact absurd h.1 (by simp)
theorem Z1B (l:List Int) (v:Int):ZW (l++[v]) 0=v:=by
 unfold ZW;simp
theorem J2 (l:List Int) (a b:Int):ZW (l++[a,b]) 0=b/\ZW (l++[a,b]) 1=a:=by
 unfold ZW;constructor<;>simp [XA,YaM]
theorem Zlj {n:Int} (h:(Z36 n).2=0):vOk 1 (Z36 n).1:=by
 unfold Z36 at h ⊢;split at h;simp at h;rename_i h1;rw [if_neg h1];left;refine ⟨rfl,?_,?_⟩<;>dsimp only<;>omega
theorem Zlk {n:Int} (h:(Z7J n).2=0):vOk 3 (Z7J n).1:=by
 unfold Z7J at h ⊢;split at h;simp at h;rename_i h1;rw [if_neg h1];right;right;refine ⟨rfl,?_,?_⟩<;>dsimp only<;>omega
theorem Zqa (b:Bool):vOk 2 (Z33 b):=by
 right;left;refine ⟨rfl,?_⟩;unfold Z33;cases b<;>simp
theorem vOk.days {v:Int} (h:Zu v=true):vOk 3 v:=.inr (.inr ⟨rfl,Zr.1 h⟩)
theorem vOk.n {v:Int} (h:vOk 1 v):-2147483647<=v/\v<=2147483647:=by unfold vOk at h;omega
theorem vOk.b {v:Int} (h:vOk 2 v):v=0\/v=1:=by unfold vOk at h;omega
theorem vOk.d {v:Int} (h:vOk 3 v):0<=v/\v<=3652058:=by unfold vOk at h;omega
theorem Z6R {x:Ins} (h:(ZH x).2.2.2=true):1<=x.op/\x.op<=24:=by
 by_cases h1:1<=x.op/\x.op<=24;exact h1
 . exfalso
   have:ZH x=([],[],[],false):=by
    unfold ZH
    repeat rw [if_neg (by omega)]
   rw [this] at h;simp at h
theorem Zqb {opn:Int->Bool} {ev:List Int} (bF:ZaB ev) {x:Ins} {ts vs:List Int} (hx:(ZH x).2.2.2=true) (bT:x.op≠24) (bJ:x.op≠13) (cw:x.op≠14)
 (ht:ts=(ZH x).1\/(ZH x).2.1≠[]/\ts=(ZH x).2.1) (hs:JN ts vs) :
 ts.length=arM x.op/\(ZH x).1.length=arM x.op/\∀ st,((JC opn ev x (ZW (st++vs) 1) (ZW (st++vs) 0)).2=0->JN (ZH x).2.2.1 [(JC opn ev x (ZW (st++vs) 1) (ZW (st++vs) 0)).1]):=by
 have hr:=Z6R hx;obtain ⟨op,n⟩:=x;dsimp only at *;have jK:op=1\/op=2\/op=3\/op=4\/op=5\/op=6\/op=7\/op=8\/op=9\/op=10\/op=11\/op=12\/op=15\/op=16\/op=17\/op=18\/op=19\/op=20\/op=21\/op=22\/op=23:=by omega
 rcases jK with rfl|rfl|rfl|rfl|rfl|rfl|rfl|rfl|rfl|rfl|rfl|rfl|rfl|rfl|rfl|rfl|rfl|rfl|rfl|rfl|rfl
 case inl|inr.inl|inr.inr.inl=>
  simp [ZH] at hx ht ⊢;subst ht;refine ⟨rfl,rfl,λst _=>JN.one ?_⟩;simp [JC,arM,vOk];omega
 case inr.inr.inr.inl=>
  simp [ZH] at hx ht ⊢;subst ht;refine ⟨rfl,rfl,λst h=>JN.one ?_⟩;simp only [JC,if_true] at h ⊢;unfold Z9h at h ⊢;split at h;simp at h;rename_i h1;rw [if_neg h1];dsimp only;have h0:=bF.day;have bB:=bF.served;by_cases jn:n=0\/n=1;rw [if_pos jn]
  right;right;rcases jn with rfl|rfl
  exact ⟨rfl,h0.1,h0.2⟩;refine ⟨rfl,?_,bB.2⟩;have:¬ ev.getD 1 0=-1:=λh=>h1 ⟨rfl,h⟩;show 0<=ev.getD 1 0;omega;rw [if_neg jn]
  left;exact ⟨rfl,bF.rest n.toNat (by omega) (by omega)⟩
 all_goals
  simp [ZH] at hx ht ⊢
  try subst hx
 all_goals
  first
  | (subst ht
     obtain ⟨b,rfl,hb⟩:=hs.one_inv;refine ⟨rfl,rfl,λst h=>JN.one ?_⟩;simp only [Z1B] at h ⊢;simp [JC,arM,Z7K,Z2M] at h ⊢;first
     | exact .days (Z1T h).1
     | (have:=hb.n;unfold vOk;omega)
     | (have:=hb.b;unfold vOk;omega))
  | (rcases ht with rfl | rfl <;>
     (obtain ⟨a,b,rfl,ha,hb⟩:=hs.two_inv
      refine ⟨rfl,rfl,λst h=>JN.one ?_⟩;simp only [J2] at h ⊢;simp [JC,arM,Z7K,Z2M] at h ⊢;exact Zqa _))
  | (subst ht
     obtain ⟨a,b,rfl,ha,hb⟩:=hs.two_inv;refine ⟨rfl,rfl,λst h=>JN.one ?_⟩;simp only [J2] at h ⊢;simp [JC,arM,Z7K,Z2M] at h ⊢;first
     | exact Zlj h
     | exact Zlk h
     | exact .days (Zli h)
     | exact .days (Zlh h)
     | (have:=ha.d;have:=hb.d;unfold vOk;omega))
theorem Z6S {opn:Int->Bool} {ev:List Int} (bF:ZaB ev) {x:Ins} {s nx:Shp} {st:List Int} (hn:J4 x s=some nx) (bT:x.op≠24) (bJ:x.op≠13) (cw:x.op≠14) (hs:JN s st)
 (he:(JC opn ev x (ZW st 1) (ZW st 0)).2=0):JN nx (st.take (st.length - arM x.op)++[(JC opn ev x (ZW st 1) (ZW st 0)).1]):=by
 unfold J4 at hn;dsimp only at hn;split at hn;rename_i hc;obtain ⟨c1,c2,c3,c4⟩:=hc;simp only [Xk] at hn;subst hn;have db:st=st.take (s.length - (ZH x).1.length)++st.drop (s.length - (ZH x).1.length):=(XZ _ _).symm;obtain ⟨v1,v2,v3⟩:=Zqb (opn:=opn) bF c1 bT bJ cw c3 (hs.drop _);have v4:=v3 (st.take (s.length - (ZH x).1.length));rw [<- db] at v4;rw [<- v2,<- hs.1];exact (hs.take _).app (v4 he);cases hn
end Go.Proofs.YtgdicjnjhchooaaGreatDoor
namespace Go.Eng
open Go Go.RowKit Go.Proofs
end Go.Eng
namespace Go.Proofs.YtgdicjnjhchooaaGreatDoor
open Go Go.Eng Go.RowKit
instance:Z2 Hol where
 k:=9
 enc:=λh=>[.I h.kind,.I h.month,.I h.day,.I h.wd,.I h.nth,.I h.off,.I h.move,.I h.first,.I h.last]
 len:=λ_=>rfl
 one:=by intro x u hu;simp at hu;rcases hu with rfl|rfl|rfl|rfl|rfl|rfl|rfl|rfl|rfl<;>rfl
instance:Z2 Clo where
 k:=3
 enc:=λh=>[.I h.lo,.I h.hi,.I h.known]
 len:=λ_=>rfl
 one:=by intro x u hu;simp at hu;rcases hu with rfl|rfl|rfl<;>rfl
instance:Z2 Spn where
 k:=2
 enc:=λh=>[.I h.1,.I h.2]
 len:=λ_=>rfl
 one:=by intro x u hu;simp at hu;rcases hu with rfl|rfl<;>rfl
def Z3p:List Int:=[0,0,0,0,0,0,0,0,0,0,0,0,2,1,0,0,0,0,0,-1,1]
def Z2d (w:World):Prop:=∀ i u,Z3p[i]?=some u->w.cell? ⟨2,i,none⟩=some (.I u)
theorem Z2d.ext {S:List Nat} {w w':World} (h:Z2d w) (hS:Stp S w w') (hb:2∉S):Z2d w':=λi u hu=>hS.cell hb (h i u hu)
theorem Z2d.up {w w':World} (h:Z2d w) (hS:Stp [] w w'):Z2d w':=h.ext hS (by simp)
structure MK where
 w0:World
 bm:Nat
 nk:Option Nat
 ev:List Int
 c:Cal
 kn:Int
 hv:Value
 cv:Value
 zo:Value
 zs:Value
 hr:Value
 pr:List (Nat×Obj)
def Ji (c:Cal) (hv cv zo zs hr:Value):List Value:=
 [.B (c.week.getD 0 false),.B (c.week.getD 1 false),.B (c.week.getD 2 false),.B (c.week.getD 3 false),.B (c.week.getD 4 false),.B (c.week.getD 5 false),.B (c.week.getD 6 false),hv,cv,zo,zs,hr]
def evC (ev:List Int):List Value:=[.I (ev.getD 0 0),.I (ev.getD 1 0),.I (ev.getD 2 0),.I (ev.getD 3 0),.I (ev.getD 4 0),.I (ev.getD 5 0),.I (ev.getD 6 0)]
def ZmA (nk:Option Nat):Value:=match nk with|none=>.nilIface|some bs=>.func (.func 67) #[] #[pQ bs]
def Z4L (K:MK) (sv:Value) (at_ er:Int) (dn:Bool):List Value:=
 evC K.ev++Ji K.c K.hv K.cv K.zo K.zs K.hr++[.I K.kn,sv,.I at_,.I er,.B dn,ZmA K.nk]
def MK.own (K:MK):List Nat:=K.bm :: K.nk.toList
structure KOk (K:MK):Prop where
 hols:SlV K.own K.w0 K.hv K.c.hols
 clos:SlV K.own K.w0 K.cv K.c.clos
 ozo:K.zo.oneCell'=true
 ozs:K.zs.oneCell'=true
 ohr:K.hr.oneCell'=true
 len:Z0K K.w0
 mov:Z2d K.w0
 bml:K.bm<K.w0.heap.size
 nkl:∀ b,K.nk=some b->b<K.w0.heap.size/\b≠K.bm
 gl:∀ b∈K.own,b≠1/\b≠2
 cal:ZhM K.c
 ev:ZaB K.ev
 nks:K.nk≠none
structure Mch (K:MK) (w:World) (sv pv:Value) (st:List Int) (sp:List Spn) (at_ er:Int) (dn:Bool):Prop where
 blk:Blk w K.bm 147 (Z4L K sv at_ er dn)
 row:Row [] w K.w0.heap.size 3 sv st
 nt:∀ bs,K.nk=some bs->Blk w bs 27 [pv]/\Row [] w K.w0.heap.size 94 pv sp
 nt0:K.nk=none->pv=.N
 ap:∀ b∈ob sv,b∉ob pv
 stp:Stp K.own K.w0 w
 prot:∀ p∈K.pr,w.heap[p.1]?=some p.2/\p.1∉K.own/\p.1∉ob sv/\p.1∉ob pv
section
variable {K:MK} {w w':World} {sv pv:Value} {st:List Int} {sp:List Spn} {at_ er:Int} {dn:Bool}
theorem Mch.up (h:Mch K w sv pv st sp at_ er dn) (hS:Stp [] w w'):Mch K w' sv pv st sp at_ er dn:=
 ⟨h.blk.up hS,h.row.up hS,λbs hb=>⟨(h.nt bs hb).1.up hS,(h.nt bs hb).2.up hS⟩,h.nt0,h.ap,h.stp.trans hS.mn,λp hp=>let ⟨a,b,c,d⟩:=h.prot p hp;⟨(hS.block p.1 (Xo.1 a).1 (by simp)).trans a,b,c,d⟩⟩
theorem Mch.hols (hK:KOk K) (h:Mch K w sv pv st sp at_ er dn):SlV K.own w K.hv K.c.hols:=hK.hols.ext h.stp (λb hb=>hb) (λb hb=>.inl hb)
theorem Mch.clos (hK:KOk K) (h:Mch K w sv pv st sp at_ er dn):SlV K.own w K.cv K.c.clos:=hK.clos.ext h.stp (λb hb=>hb) (λb hb=>.inl hb)
theorem Mch.len (hK:KOk K) (h:Mch K w sv pv st sp at_ er dn):Z0K w:=hK.len.ext h.stp (λhb=>(hK.gl _ hb).1 rfl)
theorem Mch.mov (hK:KOk K) (h:Mch K w sv pv st sp at_ er dn):Z2d w:=hK.mov.ext h.stp (λhb=>(hK.gl _ hb).2 rfl)
theorem Mch.put (hK:KOk K) (h:Mch K w sv pv st sp at_ er dn) {at' er':Int} {dn':Bool} (hS:Stp [K.bm] w w') (hb:Blk w' K.bm 147 (Z4L K sv at' er' dn')):Mch K w' sv pv st sp at' er' dn':=by
 have hl:∀ v,(∀ b∈ob v,K.w0.heap.size<=b)->∀ b∈[K.bm],b∉ob v:=λv hv b hb h2=>by
  have:=hK.bml;have:=hv b h2;simp at hb;omega
 refine ⟨hb,h.row.keep hS (hl _ (λb hb=>(h.row.ob_le b hb).1)),λbs dw=>?_,h.nt0,h.ap,h.stp.trans (hS.mono (by simp [MK.own])),λp hp=>let ⟨a,b,c,d⟩:=h.prot p hp;⟨(hS.block p.1 (Xo.1 a).1 (λe=>b (by simp at e;rw [e];exact YaP))).trans a,b,c,d⟩⟩;obtain ⟨h1,h2⟩:=h.nt bs dw;exact ⟨h1.ext hS (by have:=(hK.nkl bs dw).2;simpa using this),h2.keep hS (hl _ (λb hb=>(h2.ob_le b hb).1))⟩
theorem Mch.stack (hK:KOk K) (h:Mch K w sv pv st sp at_ er dn) {sv':Value} {st':List Int} {w2:World} (hS:Stp (ob sv) w w') (hr:Row [] w' K.w0.heap.size 3 sv' st') (ho:∀ b∈ob sv',b∈ob sv\/w.heap.size<=b)
 (aj:Stp [K.bm] w' w2) (hb:Blk w2 K.bm 147 (Z4L K sv' at_ er dn)):Mch K w2 sv' pv st' sp at_ er dn:=by
 have jO:=hK.bml;have kT:=λb hb=>(hr.ob_le b hb).1;have eQ:=λb hb=>(h.row.ob_le b hb).1;have hl:=h.stp.size;refine ⟨hb,hr.keep aj (λb hb h2=>by have:=kT b h2;simp at hb;omega),λbs dw=>?_,h.nt0,λb hb hp=>?_,?_,λp hp=>?_⟩;obtain ⟨h1,h2⟩:=h.nt bs dw;have hn:=hK.nkl bs dw;have oX:=λb hb=>(h2.ob_le b hb).1;refine ⟨(h1.ext hS (λhx=>by have:=eQ _ hx;omega)).ext aj (by simpa using hn.2),(h2.keep hS (λb hb=>h.ap b hb)).keep aj (λb hb hx=>by have:=oX _ hx;simp at hb;omega)⟩
 . cases hk:K.nk with
   | none=>rw [h.nt0 hk] at hp;simp [ob] at hp
   | some bs=>
     obtain ⟨h1,h2⟩:=h.nt bs hk;rcases ho b hb with h3|h3
     exact h.ap b h3 hp;have:=(h2.ob_le b hp).2;omega
 refine (h.stp.own (S':=ob sv) hS (λb hb=>.inr (eQ b hb))).trans (aj.mono (by simp [MK.own]));obtain ⟨a,b,c,d⟩:=h.prot p hp;have hlt:=(Xo.1 a).1;have a2:=(hS.block p.1 hlt c).trans a;have a3:=(aj.block p.1 (Xo.1 a2).1 (λe=>b (by simp at e;rw [e];exact YaP))).trans a2;exact ⟨a3,b,λh3=>(ho _ h3).elim c (λh4=>by omega),d⟩
theorem ZhN (hK:KOk K) (h:Mch K w sv pv st sp at_ er dn) (n e:Int) (hl:st.length<=100000) :
 CC 171 #[.pointer (some ⟨K.bm,0,none⟩),.I n,.I e] w λr w'=>r=.tuple #[]/\∃ sv',Mch K w' sv' pv (if e=0 then st++[n] else st) sp at_ (if e=0 then er else e) (if e=0 then dn else true):=by
 have ab:=h.blk;have ac:=h.row;unfold Z4L at ab;refine cW3 25 Tryz.func171 ?_;by_cases he:e=0;subst he;rw [if_pos rfl,if_pos rfl,if_pos rfl];refine QO ?_;refine Z0 (Z1 (vs:=[(0,.I n)]) rfl (Jj _)) rfl ?_;rintro bv w1 hN;have ae:=Za.stp hN;have aI:SlV (ob sv++[]) w1 bv [n]:=hN.slv (λb hb=>by simp at hb;exact (ac.ob_le b hb).2) rfl rfl (by simp [maxLen]);replace h:=h.up ae;replace ac:=ac.up ae;replace ab:=ab.up ae;refine Z0 (ZC rfl (by decide) rfl rfl ac aI (by simp;omega) (by simp [maxLen];omega) (h.stp.size)) rfl ?_;rintro sv' w2 ⟨bK,aj,ho⟩;have aK:=ab.ext aj (λhx=>by have:=(ac.ob_le _ hx).1;have:=hK.bml;omega);refine W ?_;have h1:=bK.slv (X:=[]) (by simp);refine Z8 (Zb (u:=sv') rfl rfl h1.cells h1.one aK (by simp [evC,Ji])) ?_;rintro _ w3 ⟨aF,bH⟩;refine W ?_;refine WR ?_;refine .mk ⟨rfl,sv',h.stack hK aj bK ho aF bH⟩;rw [if_neg he,if_neg he,if_neg he];refine QO ?_;refine Z8 (Zb (u:=.I e) rfl rfl rfl rfl ab (by simp [evC,Ji])) ?_;rintro _ w1 ⟨ae,cB⟩;refine W ?_;refine Z8 (Zb (u:=.B true) rfl rfl rfl rfl cB (by simp [evC,Ji])) ?_;rintro _ w2 ⟨aj,aK⟩;refine RT ?_;exact ⟨rfl,sv,h.put hK (ae.trans aj) aK⟩
end
end Go.Proofs.YtgdicjnjhchooaaGreatDoor
namespace Go.Eng
open Go Go.RowKit Go.Proofs
section
variable {P:Program} {n:Nat} {e:Env} {w:World} {d:Option Nat} {ty:TypeId} {pos:String} {af:Array Edge} {g:Option (Nat×Bool)} {rest:List Oper} {ops:Array Oper} {Q:Exit->Act->World->Prop}
theorem Z2r {α:Type} [Z6 α] {X:List Nat} {v:Value} {xs:List α} {i:Nat} {cs:List Value} {x:Operand} {t:TypeId} {D:TypeDesc} [hu:Und P t D] (hA:Z06 D=true) [bD:Siz P t (Z6.k α)] (hx:ev e x=some (.pointer (some (Zx v i (Z6.k α) 0)))) (hs:SlV X w v xs) (hi:i<xs.length)
 (hr:Z6.rep X w xs[i] cs) (hc:∀ j u,cs[j]?=some u->w.cell? (Zx v i (Z6.k α) j)=some u):PR P n ⟨d,.load t x,ty,pos,af,g⟩ e w (.agg cs.toArray):=by
 obtain ⟨p,l',c,rfl⟩:=hs.isSome hi;refine Z2g (cs:=cs) hA hx (Z6.len hr) (λj u hu=>?_);have:=hc j u hu;simpa [Zx] using this
end
structure Fct where
 entry:Int
 kind:Str
 day:Int
 by_:Int
 to_:Int
 amt:Int
deriving DecidableEq
instance:Inhabited Fct:=⟨⟨0,[],0,0,0,0⟩⟩
instance:Z2 Fct where
 k:=6
 enc:=λx=>[.I x.entry,str x.kind,.I x.day,.I x.by_,.I x.to_,.I x.amt]
 len:=λ_=>rfl
 one:=by intro x u hu;simp at hu;rcases hu with rfl|rfl|rfl|rfl|rfl|rfl<;>rfl
structure Rsn where
 kind:Int
 a:Int
 b:Int
deriving DecidableEq
instance:Z2 Rsn where
 k:=3
 enc:=λx=>[.I x.kind,.I x.a,.I x.b]
 len:=λ_=>rfl
 one:=by intro x u hu;simp at hu;rcases hu with rfl|rfl|rfl<;>rfl
structure Rtn where
 crr:Int
 kind:Int
 lo:Int
 hi:Int
deriving DecidableEq
instance:Z2 Rtn where
 k:=4
 enc:=λx=>[.I x.crr,.I x.kind,.I x.lo,.I x.hi]
 len:=λ_=>rfl
 one:=by intro x u hu;simp at hu;rcases hu with rfl|rfl|rfl|rfl<;>rfl
structure Crr where
 extra:Int
 tol:Int
deriving DecidableEq
instance:Z2 Crr where
 k:=2
 enc:=λx=>[.I x.extra,.I x.tol]
 len:=λ_=>rfl
 one:=by intro x u hu;simp at hu;rcases hu with rfl|rfl<;>rfl
structure Svc where
 day:Int
 extra:Int
 att:Int
deriving DecidableEq
instance:Z2 Svc where
 k:=3
 enc:=λx=>[.I x.day,.I x.extra,.I x.att]
 len:=λ_=>rfl
 one:=by intro x u hu;simp at hu;rcases hu with rfl|rfl|rfl<;>rfl
structure Atp where
 entry:Int
 party:Int
 crr:Int
 sent:Int
 rets:List Rtn
instance:Inhabited Atp:=⟨⟨0,0,0,0,[]⟩⟩
abbrev atC (a:Atp) (rv:Value):List Value:=[.I a.entry,.I a.party,.I a.crr,.I a.sent,rv]
instance:Z6 Atp where
 k:=5
 rep:=λX w a cs=>∃ rv,cs=atC a rv/\SlV X w rv a.rets
 len:=λ⟨_,h,_⟩=>h ▸ rfl
 one:=by
  rintro X w a cs ⟨rv,rfl,h⟩ u hu;have:=h.one;simp only [Xc,Xn,or_false] at hu;rcases hu with rfl|rfl|rfl|rfl|rfl<;>first|rfl|assumption
 ext:=λ⟨rv,h,hs⟩ hS h1 h2=>⟨rv,h,hs.ext hS h1 h2⟩
structure Dln where
 rule:Str
 trig:Fct
 party:Int
 due:Int
 stat:Int
 reas:List Rsn
instance:Inhabited Dln:=⟨⟨[],default,0,0,0,[]⟩⟩
abbrev dlC (a:Dln) (rv:Value):List Value:=[str a.rule,.I a.trig.entry,str a.trig.kind,.I a.trig.day,.I a.trig.by_,.I a.trig.to_,.I a.trig.amt,.I a.party,.I a.due,.I a.stat,rv]
instance:Z6 Dln where
 k:=11
 rep:=λX w a cs=>∃ rv,cs=dlC a rv/\SlV X w rv a.reas
 len:=λ⟨_,h,_⟩=>h ▸ rfl
 one:=by
  rintro X w a cs ⟨rv,rfl,h⟩ u hu;have:=h.one;simp only [Xc,Xn,or_false] at hu;rcases hu with rfl|rfl|rfl|rfl|rfl|rfl|rfl|rfl|rfl|rfl|rfl<;>first|rfl|assumption
 ext:=λ⟨rv,h,hs⟩ hS h1 h2=>⟨rv,h,hs.ext hS h1 h2⟩
end Go.Eng
namespace Go.Proofs.YtgdicjnjhchooaaGreatDoor
open Go Go.Eng Go.RowKit
instance:Z6 Cr where
 k:=7
 rep:=λX w q cs=>∃ kc kd,cs=crC q kc kd/\SlV X w kc q.cnd/\SlV X w kd q.due
 len:=λ⟨_,_,h,_⟩=>h ▸ rfl
 one:=λ⟨_,_,h,h1,h2⟩=>h ▸ Z1s h1 h2
 ext:=λ⟨kc,kd,h,h1,h2⟩ hS g1 g2=>⟨kc,kd,h,h1.ext hS g1 g2,h2.ext hS g1 g2⟩
structure Cas where
 fcts:List Fct
 ruls:List Cr
 atts:List Atp
 crrs:List Crr
 stys:List Spn
 cal:Cal
 court:Int
 today:Int
structure Z0o where
 fv:Value
 rv:Value
 av:Value
 cv:Value
 sv:Value
 hv:Value
 lv:Value
 zo:Value
 zs:Value
 hr:Value
abbrev Jc (c:Cas) (R:Z0o):List Value:=[R.fv,R.rv,R.av,R.cv,R.sv]++Ji c.cal R.hv R.lv R.zo R.zs R.hr++[.I c.court,.I c.today]
end Go.Proofs.YtgdicjnjhchooaaGreatDoor
namespace Go.Eng
open Go Go.RowKit Go.Proofs
variable {P:Program} {n:Nat} {Q:Exit->Act->World->Prop} {e:Env} {w w0:World} {rest:List Oper} {ops:Array Oper} {ty:TypeId} {pos:String} {af:Array Edge}
theorem Stp.cell0 {w w':World} {ad:Addr} {u:Value} (h:Stp [] w w') (hc:w.cell? ad=some u):w'.cell? ad=some u:=by
 have hlt:ad.block<w.heap.size:=block_lt_of_cell hc;rw [<- hc];exact World.cell?_of_block (w:=w) (h.block ad.block hlt (by simp))
theorem CP {S:List Nat} {f d:Nat} {fn:Func} {xs:Array Operand} {ts:Array TypeId} {vs:Array Value} {r:Value} {c:Operand} [hf:Fun P f fn] (hS:Stp S w0 w) (h:Calls P f vs w (Ret λv w'=>v=r/\Stp [] w w')) (k:∀ w',Stp [] w w'->Stp S w0 w'->WL P n ops Q rest ((d,r) :: e) w')
 (hc:ev e c=some (.func (.func f) #[] #[]):=by exact rfl) (hv:∀ a,Has n e a->xs.map a.eval=vs:=by first|exact ZS rfl|exact Zg rfl rfl|exact ZJ rfl rfl rfl|exact Z40 rfl rfl rfl rfl|exact Z7F) (hd:Nat.blt d n=true:=by exact rfl) :
 WL P n ops Q (⟨some d,.call { callee:=.value c,args:=xs,argTypes:=ts },ty,pos,af,none⟩ :: rest) e w:=
 Z0 (Z3 hc hv h) hd (by rintro _ w' ⟨rfl,hT⟩;exact k w' hT (hS.trans hT.mn))
theorem CG {f d:Nat} {fn:Func} {xs:Array Operand} {ts:Array TypeId} {vs:Array Value} {G:Value->World->Prop} {c:Operand} [hf:Fun P f fn] (h:Calls P f vs w (Ret G)) (k:∀ v w',G v w'->WL P n ops Q rest ((d,v) :: e) w')
 (hc:ev e c=some (.func (.func f) #[] #[]):=by exact rfl) (hv:∀ a,Has n e a->xs.map a.eval=vs:=by first|exact ZS rfl|exact Zg rfl rfl|exact ZJ rfl rfl rfl|exact Z40 rfl rfl rfl rfl|exact Z7F) (hd:Nat.blt d n=true:=by exact rfl) :
 WL P n ops Q (⟨some d,.call { callee:=.value c,args:=xs,argTypes:=ts },ty,pos,af,none⟩ :: rest) e w:=
 Z0 (Z3 hc hv h) hd k
theorem BX {S:List Nat} {d:Nat} {t:TypeId} {x:Operand} {v:Value} (hS:Stp S w0 w) (k:∀ b w',w.heap.size<=b->Blk w' b t v.cells.toList->Stp [] w w'->Stp S w0 w'->WL P n ops Q rest ((d,pQ b) :: e) w')
 (hx:ev e x=some v:=by exact rfl) (hd:Nat.blt d n=true:=by exact rfl):WL P n ops Q (⟨some d,.box t x,ty,pos,af,none⟩ :: rest) e w:=
 Z0 (Zp hx) hd (by rintro _ w' ⟨b,rfl,hb,hk,hT⟩;exact k b w' hb hk hT (hS.trans hT.mn))
theorem JU {x:Operand} {t:TypeId} {D:TypeDesc} {ad:Addr} {v:Value} {d:Nat} [hu:Und P t D] (hA:Z06 D=false) (hx:ev e x=some (.pointer (some ad))) (hc:w.cell? ad=some v) (hd:Nat.blt d n=true) (k:WL P n ops Q rest ((d,v) :: e) w) :
 WL P n ops Q (⟨some d,.load t x,ty,pos,af,none⟩ :: rest) e w:=Z9 (Jp hA hx hc) hd k
theorem Jn {Lt:List Nat} {ord:List (Nat×Nat)} {i d:Nat} {gd:Option (Nat×Bool)} {x:Operand} {t:TypeId} {D:TypeDesc} {ad:Addr} {v:Value} [hu:Und P t D] (hi:ops[i]?=some ⟨some d,.load t x,ty,pos,af,gd⟩) (hg:Z08 ops e gd) (hA:Z06 D=false) (hx:ev e x=some (.pointer (some ad))) (hc:w.cell? ad=some v) (hd:Nat.blt d n=true)
 (k:WD P n ops [] Lt Q ord ((d,v) :: e) w):WD P n ops [] Lt Q ((i,1) :: ord) e w:=WD_read hi hg (λ_ hS=>Jp hA hx (hS.cell0 hc)) hd k
theorem DP {S S0:List Nat} {Lt:List Nat} {ord:List (Nat×Nat)} {i f d:Nat} {fn:Func} {gd:Option (Nat×Bool)} {xs:Array Operand} {ts:Array TypeId} {vs:Array Value} {r:Value} {c:Operand} [hf:Fun P f fn] (hS:Stp S0 w0 w) (h:Calls P f vs w (Ret λv w'=>v=r/\Stp [] w w')) (k:∀ w',Stp [] w w'->Stp S0 w0 w'->WD P n ops S Lt Q ord ((d,r) :: e) w')
 (hi:ops[i]?=some ⟨some d,.call { callee:=.value c,args:=xs,argTypes:=ts },ty,pos,af,gd⟩:=by exact rfl) (hg:Z08 ops e gd:=by first|exact trivial|exact rfl)
 (hc:ev e c=some (.func (.func f) #[] #[]):=by exact rfl) (hv:∀ a,Has n e a->xs.map a.eval=vs:=by first|exact ZS rfl|exact Zg rfl rfl|exact ZJ rfl rfl rfl|exact Z40 rfl rfl rfl rfl|exact Z7F) (hd:Nat.blt d n=true:=by exact rfl) :
 WD P n ops S Lt Q ((i,2) :: ord) e w:=
 Z7 hi hg (Z3 hc hv h) (λ_ _ h=>h.2.mn) hd (by rintro _ w' ⟨rfl,hT⟩;exact k w' hT (hS.trans hT.mn))
end Go.Eng
namespace Go.Proofs.YtgdicjnjhchooaaGreatDoor
open Go Go.Eng Go.RowKit
def ZhO (l:List Cr) (nm:Str) (day b:Int) (i:Nat):Prop:=(l.getD i crZ).name=nm/\(l.getD i crZ).frm<=day/\(b<0\/(l.getD b.toNat crZ).frm<=(l.getD i crZ).frm)
instance (l:List Cr) (nm:Str) (day b:Int) (i:Nat):Decidable (ZhO l nm day b i):=by unfold ZhO;infer_instance
def Z2e (l:List Cr) (nm:Str) (day:Int):Nat->Int
 | 0=>-1
 | k+1=>if ZhO l nm day (Z2e l nm day k) k then k else Z2e l nm day k
def ZhP (l:List Cr) (nm:Str) (day:Int):Int:=Z2e l nm day l.length
theorem Z9i (l:List Cr) (nm:Str) (day:Int):∀ k,-1<=Z2e l nm day k/\Z2e l nm day k<k
 | 0=>by simp [Z2e]
 | k + 1 => by
   have:=Z9i l nm day k;simp only [Z2e];split<;>omega
theorem Z6e {A B C:Prop} [Decidable (A/\B/\C)] {x k b z:Int} {e:Eng.Env} {i:Nat} (h:x=if A/\B/\C then k else b) (he:Eng.look e i=some (.I z)) (hz:(A/\B/\C/\z=k)\/(¬ (B/\C)/\z=b)\/(¬ A/\z=b)):Eng.look e i=some (.I x):=by
 rw [he,h];rcases hz with ⟨a,b,c,rfl⟩|⟨a,rfl⟩|⟨a,rfl⟩
 rw [if_pos ⟨a,b,c⟩];rw [if_neg (λh=>a h.2)];rw [if_neg (λh=>a h.1)]
theorem ZaD (v:Value) (l:List Cr) (nm:Str) (day:Int) (w) (hs:SlV [] w v l):CC 28 #[v,str nm,.I day] w λr w'=>r=.I (ZhP l nm day)/\Stp [] w w':=by
 have bh:=hs.max;refine cW3 44 Tryz.func28 ?_;refine W ?_;refine LP (σ:=Nat) (λk=>[(0,v),(1,str nm),(2,.I day),(7,.I (Z2e l nm day k)),(10,v),(11,.I l.length),(12,.I k)]) (λk w'=>k<=l.length/\Stp [] w w') (λk=>l.length - k) 0 ⟨by omega,Stp.refl _ _⟩ ?_;have bQ:=hs;clear hs;rintro k w1 ⟨hk,hS⟩;have hs:=bQ.up hS;by_cases hlt:k<l.length;obtain ⟨cs,⟨kc,kd,rfl,g1,g2⟩,am⟩:=hs.cell hlt;have hb:=Z9i l nm day k;have hstep:Z2e l nm day (k+1)=if l[k].name=nm/\l[k].frm<=day/\(Z2e l nm day k<0\/(l.getD (Z2e l nm day k).toNat crZ).frm<=l[k].frm) then (k:Int) else Z2e l nm day k:=by
  rw [Z2e];simp only [ZhO,show l.getD k crZ=l[k] by simp [hlt]]
 generalize Z2e l nm day k=bb at *;refine QO ?_;refine Z9 (Z2r rfl rfl hs hlt ⟨kc,kd,rfl,g1,g2⟩ am) rfl ?_;refine Z0 Z4 rfl ?_;rintro _ w2 ⟨b,rfl,gC,e9,hT⟩;refine W ?_;refine SB (us:=crC l[k] kc kd) (Z1s g1 g2) e9 ?_;rintro _ w3 ⟨an,e9⟩;replace hS:=hS.trans (hT.ow an);clear hT an hs am g1 g2;refine W ?_;refine ZDr 24 [] [] [(0,0),(1,1),(2,0),(3,0),(4,0),(5,0),(6,1),(7,0),(8,0),(9,0),(10,0),(11,0),(12,0),(13,0),(14,0),(15,1),(16,0),(17,0),(18,0),(19,0),(20,1),(21,0),(22,0),(23,0)] (λw1 ae=>?_);replace e9:=e9.up ae;replace hS:=hS.trans ae;clear ae;have hs:=bQ.up hS;by_cases h0:bb<0
 . repeat'(first|refine D1 ?_|omega|refine Zl rfl rfl rfl rfl (λhg=>?_) (λhg=>?_)|(refine Zh rfl rfl rfl rfl (λhg=>?_) (λhg=>?_)<;>refine D1 ?_)|fail)
   all_goals refine QO ?_
   all_goals
    refine Zd (k+1) ⟨rfl,rfl,rfl,?_,rfl,rfl,rfl,trivial⟩ ⟨by omega,hS⟩ (by omega);first|exact Z6e hstep rfl (.inl ⟨by assumption,by omega,by omega,rfl⟩)|exact Z6e hstep rfl (.inr (.inl ⟨by omega,rfl⟩))|exact Z6e hstep rfl (.inr (.inr ⟨by assumption,rfl⟩))
 . obtain ⟨j,rfl⟩:∃ j:Nat,bb=j:=⟨bb.toNat,by omega⟩
   have hj:j<l.length:=by omega
   obtain ⟨cs,⟨kc2,kd2,rfl,-,-⟩,am⟩:=hs.cell hj;have hf:w1.cell? (Zx v j 7 1)=some (.I l[j].frm):=am 1 _ rfl;rw [show (j:Int).toNat=j by simp,show l.getD j crZ=l[j] by simp [hj]] at hstep;repeat'(first|refine D1 ?_|omega|refine Jn rfl (by first|exact trivial|exact rfl) rfl rfl (by assumption) rfl ?_|refine Zl rfl rfl rfl rfl (λhg=>?_) (λhg=>?_)|(refine Zh rfl rfl rfl rfl (λhg=>?_) (λhg=>?_)<;>refine D1 ?_)|fail)
   all_goals repeat'(first|refine W1 ?_|omega|refine VG ?_ ?_<;>intro hg|refine VC ?_ ?_<;>intro hc)
   all_goals
    refine Zd (k+1) ⟨rfl,rfl,rfl,?_,rfl,rfl,rfl,trivial⟩ ⟨by omega,hS⟩ (by omega);first|exact Z6e hstep rfl (.inl ⟨by assumption,by omega,by omega,rfl⟩)|exact Z6e hstep rfl (.inr (.inl ⟨by omega,rfl⟩))|exact Z6e hstep rfl (.inr (.inr ⟨by assumption,rfl⟩))
 refine QO ?_;refine WR ?_;rw [show k=l.length by omega];exact .mk ⟨rfl,hS⟩
theorem Z9j (v:Value) (l:List Cr) (nm:Str) (day:Int) (w) (hs:SlV [] w v l):CC 37 #[v,str nm,.I day] w λr w'=>r=.I (ZhP l nm day)/\Stp [] w w':=by
 have bh:=hs.max;refine cW3 51 Tryz.func37 ?_;refine W ?_;refine LP (σ:=Nat) (λk=>[(0,v),(1,str nm),(2,.I day),(7,.I (Z2e l nm day k)),(8,.I k)]) (λk w'=>k<=l.length/\Stp [] w w') (λk=>l.length - k) 0 ⟨by omega,Stp.refl _ _⟩ ?_;have bQ:=hs;clear hs;rintro k w2 ⟨hk,hS⟩;have hs:=bQ.up hS;by_cases hlt:k<l.length;obtain ⟨cs,⟨kc,kd,rfl,-,-⟩,am⟩:=hs.cell hlt;have hb:=Z9i l nm day k;have hstep:Z2e l nm day (k+1)=if l[k].name=nm/\l[k].frm<=day/\(Z2e l nm day k<0\/(l.getD (Z2e l nm day k).toNat crZ).frm<=l[k].frm) then (k:Int) else Z2e l nm day k:=by
  rw [Z2e];simp only [ZhO,show l.getD k crZ=l[k] by simp [hlt]]
 generalize Z2e l nm day k=bb at *;refine QO ?_;refine ZDr 34 [] [] [(0,0),(1,0),(2,0),(3,0),(4,1),(5,0),(6,0),(7,0),(8,0),(9,0),(10,0),(11,0),(12,1),(13,0),(14,0),(15,0),(16,0),(17,0),(18,0),(19,0),(20,0),(21,0),(22,0),(23,0),(24,1),(25,0),(26,0),(27,0),(28,0),(29,0),(30,1),(31,0),(32,0),(33,0)] (λw1 ae=>?_);have kU:w1.cell? (Zx v k 7 0)=some (str l[k].name):=ae.cell0 (am 0 _ rfl);have oY:w1.cell? (Zx v k 7 1)=some (.I l[k].frm):=ae.cell0 (am 1 _ rfl);replace hS:=hS.trans ae;clear ae hs am;have hs:=bQ.up hS;by_cases h0:bb<0
 . repeat'(first|refine D1 ?_|omega|refine Jn rfl (by first|exact trivial|exact rfl) rfl rfl (by assumption) rfl ?_|refine Zl rfl rfl rfl rfl (λhg=>?_) (λhg=>?_)|(refine Zh rfl rfl rfl rfl (λhg=>?_) (λhg=>?_)<;>refine D1 ?_)|fail)
   all_goals refine QO ?_
   all_goals
    refine Zd (k+1) ⟨rfl,rfl,rfl,?_,rfl,trivial⟩ ⟨by omega,hS⟩ (by omega);first|exact Z6e hstep rfl (.inl ⟨by assumption,by omega,by omega,rfl⟩)|exact Z6e hstep rfl (.inr (.inl ⟨by omega,rfl⟩))|exact Z6e hstep rfl (.inr (.inr ⟨by assumption,rfl⟩))
 . obtain ⟨j,rfl⟩:∃ j:Nat,bb=j:=⟨bb.toNat,by omega⟩
   have hj:j<l.length:=by omega
   have iE:max (j:Int) 0=j:=by omega
   obtain ⟨cs,⟨kc2,kd2,rfl,-,-⟩,am⟩:=hs.cell hj;have hf:w1.cell? (Zx v j 7 1)=some (.I l[j].frm):=am 1 _ rfl;rw [show (j:Int).toNat=j by simp,show l.getD j crZ=l[j] by simp [hj]] at hstep;repeat'(first|refine D1 ?_|omega|refine Jn rfl (by first|exact trivial|exact rfl) rfl rfl (by assumption) rfl ?_|refine Zl rfl rfl rfl rfl (λhg=>?_) (λhg=>?_)|(refine Zh rfl rfl rfl rfl (λhg=>?_) (λhg=>?_)<;>refine D1 ?_)|fail)
   all_goals repeat'(first|refine W1 ?_|omega|refine VG ?_ ?_<;>intro hg|refine VC ?_ ?_<;>intro hc)
   all_goals
    refine Zd (k+1) ⟨rfl,rfl,rfl,?_,rfl,trivial⟩ ⟨by omega,hS⟩ (by omega);first|exact Z6e hstep rfl (.inl ⟨by assumption,by omega,by omega,rfl⟩)|exact Z6e hstep rfl (.inr (.inl ⟨by omega,rfl⟩))|exact Z6e hstep rfl (.inr (.inr ⟨by assumption,rfl⟩))
 refine QO ?_;refine WR ?_;rw [show k=l.length by omega];exact .mk ⟨rfl,hS⟩
end Go.Proofs.YtgdicjnjhchooaaGreatDoor
namespace Go.Eng
open Go Go.RowKit Go.Proofs
variable {P:Program} {n:Nat} {Q:Exit->Act->World->Prop} {e:Env} {w w0:World} {rest:List Oper} {ops:Array Oper} {ty:TypeId} {pos:String} {af:Array Edge} {d:Option Nat} {g:Option (Nat×Bool)}
abbrev ltS (a b:Str):Bool:=Op.bytesLess a b
theorem Z4M {t u:TypeId} {x y:Operand} {a b:Str} {c:Bool} [hu:Und P t .string] (hx:ev e x=some (str a)) (hy:ev e y=some (str b)) (hc:ltS a b=c):PR P n ⟨d,.binOp .lss t x y u,ty,pos,af,g⟩ e w (.B c):=
 ⟨λ_ ha=>by simp only [execOp,ha.ev hx,ha.ev hy];subst hc;simp [go_sem,binOp,Op.stringOp]⟩
theorem ZdI {t u:TypeId} {x y:Operand} {a b:Str} {c:Bool} [hu:Und P t .string] (hx:ev e x=some (str a)) (hy:ev e y=some (str b)) (hc:(!(ltS a b || a == b))=c):PR P n ⟨d,.binOp .gtr t x y u,ty,pos,af,g⟩ e w (.B c):=
 ⟨λ_ ha=>by simp only [execOp,ha.ev hx,ha.ev hy];subst hc;simp [go_sem,binOp,Op.stringOp]⟩
end Go.Eng
namespace Go.Proofs.YtgdicjnjhchooaaGreatDoor
open Go Go.Eng Go.RowKit
def Z37 (a b:Str):Int:=if ltS a b=true then -1 else if (!(ltS a b || a == b))=true then 1 else 0
def cmI (x y:Int):Int:=if x<y then -1 else if y<x then 1 else 0
theorem Z3O (x y:Int) (w):CC 66 #[.I x,.I y] w λr w'=>r=.I (cmI x y)/\Stp [] w w':=
 (Tryz.cmp_Compare_int x y w).mono (by
   rintro e w' ⟨rfl,rfl⟩;exact .mk ⟨rfl,Stp.refl _ _⟩)
theorem Z6T (a:Str) (w):CC 156 #[str a] w λr w'=>r=.B false/\Stp [] w w':=by
 refine cW1 6 Tryz.func156 ?_;refine RT ?_;exact ⟨by simp,Stp.refl _ _⟩
theorem ZhQ (a b:Str) (w):CC 88 #[str a,str b] w λr w'=>r=.I (Z37 a b)/\Stp [] w w':=by
 refine cW2 20 Tryz.func88 ?_;refine W ?_;refine CP (Stp.refl [] w) (Z6T a _) λw1 _ hS=>?_;refine W ?_;refine CP hS (Z6T b _) λw2 _ hS=>?_;refine W ?_;cases h1:ltS a b
 . refine Z9 (Z4M rfl rfl h1) rfl ?_
   refine W ?_;cases h2:(!(ltS a b || a == b))
   all_goals
    refine Z9 (ZdI rfl rfl h2) rfl ?_;refine RT ?_;exact ⟨by rw [Z37,if_neg (by simp [h1]),h2];rfl,hS⟩
 refine Z9 (Z4M rfl rfl h1) rfl ?_;refine RT ?_;exact ⟨by rw [Z37,h1];rfl,hS⟩
def orL (l:List Int):Int:=(l.find? (λx=>decide (x≠0))).getD 0
theorem ZhR {l:List Int} {k:Nat} (hk:k<l.length) (h:∀ j (h:j<l.length),j<k->l[j]=0) (h0:l[k]≠0):orL l=l[k]:=by
 have:l.find? (λx=>decide (x≠0))=some l[k]:=by
  rw [List.find?_eq_some_iff_getElem];exact ⟨by simpa using h0,k,hk,rfl,λj hj=>by simp [h j (by omega) hj]⟩
 rw [orL,this];rfl
theorem ZaE {l:List Int} (h:∀ j (h:j<l.length),l[j]=0):orL l=0:=by
 have:l.find? (λx=>decide (x≠0))=none:=by
  rw [YaO];intro x hx;obtain ⟨j,hj,rfl⟩:=XB hx;simp [h j hj]
 rw [orL,this];rfl
theorem Zll (v:Value) (l:List Int) (w) (hs:SlV [] w v l):CC 87 #[v] w λr w'=>r=.I (orL l)/\Stp [] w w':=by
 have bh:=hs.max;refine cW1 18 Tryz.func87 ?_;refine W ?_;refine LP (σ:=Nat) (λk=>[(3,.I 0),(6,v),(7,.I l.length),(8,.I k)]) (λk w'=>k<=l.length/\Stp [] w w'/\∀ j (h:j<l.length),j<k->l[j]=0) (λk=>l.length - k) 0 ⟨by omega,Stp.refl _ _,by omega⟩ ?_;have bQ:=hs;clear hs;rintro k w1 ⟨hk,hS,hz⟩;have hs:=bQ.up hS;by_cases hlt:k<l.length;by_cases h0:l[k]=0;refine QO ?_;exact QL (k+1) ⟨by omega,hS,λj h hj=>by
  by_cases e:j=k;subst e;exact h0;exact hz j h (by omega)⟩ (by omega)
 refine RT ?_;exact ⟨by rw [ZhR hlt hz h0],hS⟩;refine RT ?_;exact ⟨by rw [ZaE (λj h=>hz j h (by omega))],hS⟩
def Z12 (f g:Fct):Int:=orL [cmI f.day g.day,cmI f.entry g.entry,Z37 f.kind g.kind,cmI f.by_ g.by_,cmI f.to_ g.to_,cmI f.amt g.amt]
theorem ZaF (a b c d e f:Int) (w):(Instr.buildSlice 22 6 #[(0,.I a),(1,.I b),(2,.I c),(3,.I d),(4,.I e),(5,.I f)]).run Tryz.prog w=.ok (.slice (some ⟨w.heap.size,0,none⟩) 6 6) (w.alloc (.cells #[.I a,.I b,.I c,.I d,.I e,.I f] 3)):=by kernel_rfl
theorem ZhS (f g:Fct) (w):CC 49 #[aG f,aG g] w λr w'=>r=.I (Z12 f g)/\Stp [] w w':=by
 refine cW2 37 Tryz.func49 ?_;refine W ?_;refine BX (Stp.refl [] w) λb2 w1 h2 e2 _ hS=>?_;refine BX hS λb3 w2 h3 e3 hT hS=>?_;replace e2:=e2.up hT;replace e2:Blk w2 b2 40 (Z2.enc f):=e2;replace e3:Blk w2 b3 40 (Z2.enc g):=e3;refine W ?_;refine ZDr 33 [] [] [(0,0),(1,1),(2,0),(3,1),(5,0),(6,1),(7,0),(8,1),(10,0),(11,1),(12,0),(13,1),(15,0),(16,1),(17,0),(18,1),(20,0),(21,1),(22,0),(23,1),(25,0),(26,1),(27,0),(28,1),(4,2),(9,2),(14,2),(19,2),(24,2),(29,2),(30,2),(31,2),(32,0)] (λw1 ae=>?_);replace e2:=e2.up ae;replace e3:=e3.up ae;replace hS:=hS.trans ae;refine D ?_;clear ae e2 e3;refine DP hS (Z3O _ _ _) λ_ _ hS=>?_;refine DP hS (Z3O _ _ _) λ_ _ hS=>?_;refine DP hS (ZhQ _ _ _) λ_ _ hS=>?_;refine DP hS (Z3O _ _ _) λ_ _ hS=>?_;refine DP hS (Z3O _ _ _) λ_ _ hS=>?_;refine DP hS (Z3O _ _ _) λ_ _ hS=>?_;refine Z7 rfl trivial (Z1 rfl (ZaF _ _ _ _ _ _)) (λ_ _ h=>Za.stp h) rfl ?_;rintro bv wb hN;have aI:=hN.slv (X:=[]) (ys:=[cmI f.day g.day,cmI f.entry g.entry,Z37 f.kind g.kind,cmI f.by_ g.by_,cmI f.to_ g.to_,cmI f.amt g.amt]) (by simp) rfl rfl (by simp [maxLen]);replace hS:=hS.trans (Za.stp hN);refine DP hS (Zll bv _ _ aI) λ_ _ hS=>?_;refine D ?_;refine RT ?_;exact ⟨rfl,hS⟩
end Go.Proofs.YtgdicjnjhchooaaGreatDoor
namespace Go.Eng
open Go Go.RowKit Go.Proofs
variable {P:Program} {n:Nat} {Q:Exit->Act->World->Prop} {e:Env} {w w0:World} {rest:List Oper} {ops:Array Oper} {ty ty':TypeId} {pos pos':String} {af af':Array Edge}
theorem AP1 {β:Type} [Z2 β] {T t bytes d1 d2:Nat} {x y:Operand} {v z0 u:Value} {xs:List β} [ht:Und P t (.slice T)] [hk:Siz P T (Z6.k β)] [hb:Byt P T bytes] [hz:Zer P T z0] (z:β) (hr:Zk T w0 w v xs) (hl:xs.length<=100000000)
 (k:∀ v1 v' w',Zk T w0 w' v' (xs++[z])->Stp (ob v) w w'->WL P n ops Q rest ((d2,v') :: (d1,v1) :: e) w')
 (hx:ev e x=some v:=by exact rfl) (hy:Jm e [(0,y)]=some [(0,u)]:=by exact rfl) (bj:∀ w:World,(Instr.buildSlice t 1 #[(0,u)]).run P w=.ok (.slice (some ⟨w.heap.size,0,none⟩) 1 1) (w.alloc (.cells (Z2.enc z).toArray T)):=by intro w;kernel_rfl)
 (kV:∀ v1,ev ((d1,v1) :: e) x=some v:=by intro _;exact rfl) (iw:∀ v1,ev ((d1,v1) :: e) (.tmp d1)=some v1:=by intro _;exact rfl)
 (dW:z0.cells.size=Z6.k β:=by exact rfl) (aZ:0<Z6.k β:=by decide) (cU:bytes<=1000:=by decide) (h1:Nat.blt d1 n=true:=by exact rfl) (h2:Nat.blt d2 n=true:=by exact rfl) :
 WL P n ops Q (⟨some d1,.buildSlice t 1 #[(0,y)],ty,pos,af,none⟩ :: ⟨some d2,.call { callee:=.builtin .append,args:=#[x,.tmp d1],argTypes:=#[t,t] },ty',pos',af',none⟩ :: rest) e w:=by
 refine Z0 (Z1 (l:=[(0,y)]) (vs:=[(0,u)]) hy bj) h1 ?_;intro v1 w1 hN;have hT:Stp [] w w1:=hN.choose_spec.2.2.2;have aI:SlV (ob v) w1 v1 [z]:=hN.slv (λb hb=>(hr.ob_le b hb).2) rfl (by simp) (by simp [maxLen]);refine Z0 (ZZ dW aZ (kV v1) (iw v1) (hr.up hT) aI (by
  simp only [Xe,Xi];exact Xh (Yal (Yby hl 1) cU) (by omega)) (by simp only [Xe,Xi,maxLen];omega)) h2 ?_
 rintro v' w2 ⟨g1,g2,-⟩;exact k v1 v' w2 g1 (hT.mn.trans g2)
theorem APR {β:Type} [Z2 β] {X:List Nat} {T t bytes d1 d2 base:Nat} {x y:Operand} {v z0 u:Value} {xs:List β} [ht:Und P t (.slice T)] [hk:Siz P T (Z6.k β)] [hb:Byt P T bytes] [hz:Zer P T z0] (z:β) (hr:Row X w base T v xs) (hX:∀ b∈X,b<w.heap.size) (dw:base<=w.heap.size) (hl:xs.length<=100000000)
 (k:∀ v1 v' w',Row X w' base T v' (xs++[z])->Stp (ob v) w w'->(∀ b∈ob v',b∈ob v\/w.heap.size<=b)->WL P n ops Q rest ((d2,v') :: (d1,v1) :: e) w')
 (hx:ev e x=some v:=by exact rfl) (hy:Jm e [(0,y)]=some [(0,u)]:=by exact rfl) (bj:∀ w:World,(Instr.buildSlice t 1 #[(0,u)]).run P w=.ok (.slice (some ⟨w.heap.size,0,none⟩) 1 1) (w.alloc (.cells (Z2.enc z).toArray T)):=by intro w;kernel_rfl)
 (kV:∀ v1,ev ((d1,v1) :: e) x=some v:=by intro _;exact rfl) (iw:∀ v1,ev ((d1,v1) :: e) (.tmp d1)=some v1:=by intro _;exact rfl)
 (dW:z0.cells.size=Z6.k β:=by exact rfl) (aZ:0<Z6.k β:=by decide) (cU:bytes<=1000:=by decide) (h1:Nat.blt d1 n=true:=by exact rfl) (h2:Nat.blt d2 n=true:=by exact rfl) :
 WL P n ops Q (⟨some d1,.buildSlice t 1 #[(0,y)],ty,pos,af,none⟩ :: ⟨some d2,.call { callee:=.builtin .append,args:=#[x,.tmp d1],argTypes:=#[t,t] },ty',pos',af',none⟩ :: rest) e w:=by
 refine Z0 (Z1 (l:=[(0,y)]) (vs:=[(0,u)]) hy bj) h1 ?_;intro v1 w1 hN;have hT:Stp [] w w1:=hN.choose_spec.2.2.2;have aI:SlV (ob v++X) w1 v1 [z]:=hN.slv (λb hb=>by
  rcases Xd.1 hb with h|h
  exact (hr.ob_le b h).2;exact hX b h) rfl (by simp) (by simp [maxLen])
 refine Z0 (ZC (X:=X) (base:=base) dW aZ (kV v1) (iw v1) (hr.up hT) aI (by
  simp only [Xe,Xi];exact Xh (Yal (Yby hl 1) cU) (by omega)) (by simp only [Xe,Xi,maxLen];omega) (Xh dw hT.size)) h2 ?_
 rintro v' w2 ⟨g1,g2,g3⟩;exact k v1 v' w2 g1 (hT.mn.trans g2) (λb hb=>(g3 b hb).imp id (Xh hT.size))
end Go.Eng
namespace Go.Proofs.YtgdicjnjhchooaaGreatDoor
open Go Go.Eng Go.RowKit
def Z0W (l:List Fct):Nat->Fct
 | 0=>l.getD 0 default
 | k+1=>if Z12 (l.getD (k+1) default) (Z0W l k)<0 then l.getD (k+1) default else Z0W l k
theorem ZhT (v:Value) (l:List Fct) (w) (hs:SlV [] w v l) (hn:l≠[]):CC 73 #[v,.func (.func 49) #[] #[]] w λr w'=>r=.agg (Z2.enc (Z0W l (l.length - 1))).toArray/\Stp [] w w':=by
 have bh:=hs.max;have aZ:0<l.length:=X7.2 hn;refine cW2 33 Tryz.func73 ?_;refine W ?_;refine Z0 Z4 rfl ?_;rintro _ w1 ⟨b4,rfl,br,e4,hS⟩;have bB:=hs.up hS;refine QO ?_;refine Z0 Z4 rfl ?_;rintro _ w2 ⟨b5,rfl,jU,e5,hT⟩;have l4:=e4.lt;replace e4:=e4.up hT;refine SA (us:=Z2.enc l[0]) e5 ?_;rintro _ w3 ⟨an,e5⟩;replace e4:=e4.ext an (by simp;omega);replace hS:=hS.trans (hT.ow an);clear hT an bB;have l5:=e5.lt;have g4:b4≠b5:=by omega
 have g5:w.heap.size<=b5:=by have:=hS.size;omega
 refine W ?_;refine LP (σ:=Nat) (λk=>[(0,v),(1,.func (.func 49) #[] #[]),(4,pQ b4),(5,pQ b5),(6,.I ((k:Int)+1))]) (λk w'=>k<l.length/\Stp [] w w'/\Blk w' b5 40 (Z2.enc (Z0W l k))/\(∃ cs,Blk w' b4 40 cs/\cs.length=6)) (λk=>l.length - k) 0 ⟨aZ,hS,by rw [Z0W,show l.getD 0 default=l[0] by simp [aZ]];exact e5,_,e4,rfl⟩ ?_;clear e4 e5 hS;rintro k w4 ⟨hk,hS,e5,cs4,e4,dF⟩;have bB:=hs.up hS;by_cases hlt:k+1<l.length;have hstep:Z0W l (k+1)=if Z12 l[k+1] (Z0W l k)<0 then l[k+1] else Z0W l k:=by rw [Z0W,show l.getD (k+1) default=l[k+1] by simp [hlt]]
 generalize Z0W l k=m at *;refine QO ?_;refine ZDr 8 [] [] [(0,0),(1,0),(2,0),(3,0),(4,1),(5,1),(6,2),(7,0)] (λw1 ae=>?_);replace bB:=bB.up ae;replace e5:=e5.up ae;replace e4:=e4.up ae;replace hS:=hS.trans ae;clear ae;refine D ?_;refine DP hS (ZhS l[k+1] m _) λw5 hT hS=>?_;replace bB:=bB.up hT;replace e5:=e5.up hT;replace e4:=e4.up hT;refine D ?_;by_cases hc:Z12 l[k+1] m<0;rw [if_pos hc] at hstep;refine QO ?_;refine SA (us:=Z2.enc l[k+1]) e5 ?_;rintro _ w6 ⟨an,e5⟩;replace e4:=e4.ext an (by simp;omega);replace hS:=hS.ow an;refine QO ?_;exact QL (k+1) ⟨hlt,hS,by rw [hstep];exact e5,_,e4,dF⟩ (by omega);rw [if_neg hc] at hstep;refine QO ?_;exact QL (k+1) ⟨hlt,hS,by rw [hstep];exact e5,_,e4,dF⟩ (by omega);refine QO ?_;refine Z8 (Zw (us:=Z2.enc (Z0W l k)) rfl rfl rfl rfl (Z2.one _) e4 dF.symm) ?_;rintro _ w6 ⟨an,e4⟩;refine QO ?_;refine JS rfl rfl rfl e4 rfl ?_;rw [show l.length - 1=k by omega];exact .mk ⟨rfl,hS.ow an⟩
theorem ZdJ (w):(Instr.build 40 #[]).run Tryz.prog w=.ok (aG (default:Fct)) w:=by kernel_rfl
def Z4N (f:Fct) (unl:Str) (due:Int) (g:Fct):Bool:=decide (unl≠[]/\g.kind=unl/\g.by_=f.to_/\g.day<=due/\(f.day<=g.day\/due<f.day))
def Z6f (fs:List Fct) (f:Fct) (unl:Str) (due:Int):List Fct:=fs.filter (Z4N f unl due)
def Z46 (fs:List Fct) (f:Fct) (unl:Str) (due:Int):Fct×Bool:=if Z6f fs f unl due=[] then (default,false) else (Z0W (Z6f fs f unl due) ((Z6f fs f unl due).length - 1),true)
theorem Z8b (fs:List Fct) (f:Fct) (unl:Str) (due:Int) (k:Nat) (h:k<fs.length):Z6f (fs.take (k+1)) f unl due=Z6f (fs.take k) f unl due++if Z4N f unl due fs[k]=true then [fs[k]] else []:=by
 unfold Z6f;rw [Xg h,YaD];congr 1;cases hc:Z4N f unl due fs[k]<;>simp [hc]
theorem Zcv (c:Cas) (R:Z0o) (f:Fct) (unl:Str) (due:Int) (w) (hs:SlV [] w R.fv c.fcts) (hl:c.fcts.length<=10000000):CC 36 #[.agg (Jc c R).toArray,aG f,str unl,.I due] w λr w'=>r=.tuple #[.agg (Z2.enc (Z46 c.fcts f unl due).1).toArray,.B (Z46 c.fcts f unl due).2]/\Stp [] w w':=by
 refine cW4 65 Tryz.func36 ?_;refine W ?_;refine BX (Stp.refl [] w) λb4 w1 h4 e4 _ hS=>?_;replace e4:Blk w1 b4 37 (Jc c R):=e4;refine BX hS λb5 w2 h5 e5 hT hS=>?_;replace e5:Blk w2 b5 40 (Z2.enc f):=e5;replace e4:=e4.up hT;refine W ?_;refine Z0 Z4 rfl ?_;rintro _ w3 ⟨b8,rfl,dG,e8,hT⟩;have g8:w.heap.size<=b8:=Xh hS.size dG;replace e4:=e4.up hT;replace e5:=e5.up hT;replace hS:=hS.trans hT;have dH:=hs.up hS;refine W ?_;refine LP (σ:=Nat×Value) (λq=>[(2,str unl),(3,.I due),(4,pQ b4),(5,pQ b5),(8,pQ b8),(9,.B false),(10,q.2),(14,R.fv),(15,.I c.fcts.length),(16,.I q.1)]) (λq w'=>q.1<=c.fcts.length/\Zk 40 w3 w' q.2 (Z6f (c.fcts.take q.1) f unl due)) (λq=>c.fcts.length - q.1) (0,.N) ⟨by omega,Zk.nil⟩ ?_;rintro ⟨k,rv⟩ w4 ⟨hk,hr⟩;dsimp only at hk hr ⊢;have e4':=e4.up hr.2;have e5':=e5.up hr.2;have jV:=dH.up hr.2;by_cases hlt:k<c.fcts.length
 . have hstep:=Z8b c.fcts f unl due k hlt
   refine QO ?_;refine Z0 Z4 rfl ?_;rintro _ w5 ⟨b12,rfl,oZ,e12,hT⟩;refine SA (us:=Z2.enc c.fcts[k]) e12 ?_;rintro _ w6 ⟨an,e12⟩;replace hT:=hT.ow an;replace e4':=e4'.up hT;replace e5':=e5'.up hT;replace hr:=hr.up hT;clear hT an jV;repeat'(first|refine W1 ?_|omega|refine VG ?_ ?_<;>intro hg|refine VC ?_ ?_<;>intro hc)
   all_goals first
    | exact QL (k + 1, rv) ⟨hlt, by
       rw [hstep,if_neg,Xz];exact hr;simp only [Z4N,decide_eq_true_eq];rintro ⟨a,b,c,d,e⟩;first|contradiction|omega⟩ (by dsimp only;omega)
    | refine AP1 c.fcts[k] hr (Xh (XG _ _) (by simp; omega)) λv1 v' w' aO _ => ?_
      refine QO ?_;exact QL (k+1,v') ⟨hlt,by
       rw [hstep,if_pos (show Z4N f unl due c.fcts[k]=true from decide_eq_true ⟨by assumption,by assumption,by omega,by omega,by omega⟩)];exact aO⟩ (by dsimp only;omega)
 have bN:SlV [] w4 rv (Z6f (c.fcts.take k) f unl due):=hr.slv (by simp);obtain rfl:k=c.fcts.length:=by omega
 rw [Xs] at bN;have e8':=e8.up hr.2;replace hS:=hS.trans hr.2;clear hr;unfold Z46;generalize Z6f c.fcts f unl due=L at *;have hz:((L.length:Int)=0)↔L=[]:=by simp
 (refine QP ?_ ?_<;>intro hc)
 obtain rfl:L=[]:=hz.1 (by assumption);refine Z5 (vs:=[]) rfl ZdJ rfl ?_;refine Z8 (Zw (us:=Z2.enc (default:Fct)) rfl rfl rfl rfl (Z2.one _) e8' rfl) ?_;rintro _ w6 ⟨an,e8''⟩;refine W ?_;refine Zq rfl rfl rfl e8'' rfl rfl ?_;exact .mk ⟨rfl,hS.ow an⟩;have hL:L≠[]:=λh=>absurd (hz.2 h) (by assumption)
 rw [if_neg hL];refine CP hS (ZhT rv L w4 bN hL) λw5 hT hS=>?_;replace e8':=e8'.up hT;refine Z8 (Zw (us:=Z2.enc (Z0W L (L.length - 1))) rfl rfl rfl rfl (Z2.one _) e8' rfl) ?_;rintro _ w6 ⟨an,e8''⟩;refine W ?_;refine Zq rfl rfl rfl e8'' rfl rfl ?_;exact .mk ⟨rfl,hS.ow an⟩
theorem ZtX (a b:Ins) (w):(binOp .eql 151 (agg a) (agg b)).run Tryz.prog w=.ok (.B (decide (a=b))) w:=by
 have h1:Program.stoodInHeld Tryz.prog 151=false:=by kernel_rfl
 obtain ⟨a1,a2⟩:=a;obtain ⟨b1,b2⟩:=b;simp [agg,Z2.enc,run_eql_struct,run_equalIn_struct,h1,Program.fieldsOf,Tryz.underlying151,Op.eqFields,part,Und.isAgg,Z06,run_equalIn_int w _ _ .i64 .i64 _ _ Tryz.underlying3];repeat' split
 all_goals simp_all
theorem Zcw (v:Value) (l:List Ins) (x:Ins) (w) (hs:SlV [] w v l):CC 128 #[v,agg x] w λr w'=>(∃ z:Int,r=.I z/\(0<=z↔x∈l))/\Stp [] w w':=by
 have bh:=hs.max;refine cW2 19 Tryz.func128 ?_;refine W ?_;refine BX (Stp.refl [] w) λb3 w1 h3 e3 _ hS=>?_;replace e3:Blk w1 b3 151 (Z2.enc x):=e3;have bB:=hs.up hS;refine W ?_;refine LP (σ:=Nat) (λk=>[(0,v),(3,pQ b3),(6,v),(7,.I l.length),(8,.I k)]) (λk w'=>k<=l.length/\Stp [] w1 w'/\∀ j (h:j<l.length),j<k->l[j]≠x) (λk=>l.length - k) 0 ⟨by omega,Stp.refl _ _,by omega⟩ ?_;rintro k w2 ⟨hk,hT,hz⟩;have aX:=bB.up hT;have e3':=e3.up hT;by_cases hlt:k<l.length;refine QO ?_;refine ZDr 6 [] [] [(0,1),(1,0),(2,0),(3,0),(4,1),(5,0)] (λw1 ae=>?_);replace aX:=aX.up ae;replace e3':=e3'.up ae;replace hT:=hT.trans ae;refine D ?_;apply Z1I;exact rfl;refine Zdx (c:=x=l[k]) trivial rfl rfl (λw=>Zq0 _ _ _ x l[k] w) (by intro w;exact ZtX x l[k] w) rfl ?_;refine D ?_
 (refine QP ?_ ?_<;>intro hc)
 refine RU ?_;exact ⟨⟨_,rfl,by constructor<;>intro _<;>first|omega|(rw [hc];exact Xb hlt)⟩,hS.trans hT⟩;exact QL (k+1) ⟨hlt,hT,λj h hj=>by
  by_cases e:j=k;subst e;exact λh=>hc h.symm;exact hz j h (by omega)⟩ (by omega)
 refine RT ?_;exact ⟨⟨_,rfl,by
  constructor;intro h;omega;intro h;obtain ⟨j,hj,e⟩:=XB h;exact absurd e (hz j hj (by omega))⟩,hS.trans hT⟩
theorem Z6U (v:Value) (l:List Ins) (x:Ins) (w) (hs:SlV [] w v l):CC 72 #[v,agg x] w λr w'=>r=.B (decide (x∈l))/\Stp [] w w':=by
 refine cW2 9 Tryz.func72 ?_;refine W ?_;refine BX (Stp.refl [] w) λb3 w1 h3 e3 _ hS=>?_;replace e3:Blk w1 b3 151 (Z2.enc x):=e3;refine W ?_;refine CG (Zcw v l x _ (hs.up hS)) ?_;rintro _ w2 ⟨⟨z,rfl,hz⟩,hT⟩;refine RT ?_;exact ⟨congrArg Value.bool (decide_eq_decide.2 hz),hS.trans hT⟩
def Z0p (l:List Ins):Bool:=decide ((⟨4,1⟩:Ins)∈l) || decide ((⟨4,2⟩:Ins)∈l)
theorem ZaG (a b:Int) (w):(Instr.build 151 #[(0,.I a),(1,.I b)]).run Tryz.prog w=.ok (agg (⟨a,b⟩:Ins)) w:=by kernel_rfl
theorem ZaH (v:Value) (l:List Ins) (w) (hs:SlV [] w v l):CC 34 #[v] w λr w'=>r=.B (Z0p l)/\Stp [] w w':=by
 refine cW1 11 Tryz.func34 ?_;refine W ?_;refine Z5 (vs:=[(0,.I 4),(1,.I 1)]) rfl (ZaG _ _) rfl ?_;refine CP (Stp.refl [] w) (Z6U v l _ w hs) λw1 _ hS=>?_;unfold Z0p;by_cases h1:(⟨4,1⟩:Ins)∈l;rw [decide_eq_true h1];refine RT ?_;exact ⟨rfl,hS⟩;rw [decide_eq_false h1];refine QO ?_;refine Z5 (vs:=[(0,.I 4),(1,.I 2)]) rfl (ZaG _ _) rfl ?_;refine W ?_;refine CP hS (Z6U v l _ _ (hs.up hS)) λw2 _ hS=>?_;refine RT ?_;exact ⟨by simp,hS⟩
end Go.Proofs.YtgdicjnjhchooaaGreatDoor
namespace Go.Eng
open Go Go.RowKit Go.Proofs
section
variable {P:Program} {n:Nat} {Q:Exit->Act->World->Prop} {e:Env} {w w0 w':World} {rest:List Oper} {ops:Array Oper} {ty:TypeId} {pos:String} {af:Array Edge} {dd:Option Nat} {g:Option (Nat×Bool)}
structure StD (w w':World):Prop where
 s:Stp [] w w'
 d:w.drawn<=w'.drawn
theorem StD.refl (w):StD w w:=⟨Stp.refl _ _,Xl _⟩
theorem StD.trans {a b c:World} (h:StD a b) (k:StD b c):StD a c:=⟨h.s.trans k.s,Xh h.d k.d⟩
theorem StD.grown {w w':World} (h:StD w w'):∃ q os',w'=Go.Sort.grow (w.drewN q) os':=by
 refine ⟨w'.drawn - w.drawn,w'.heap.extract w.heap.size w'.heap.size,?_⟩;obtain ⟨⟨h1,h2,h3,h4,h5⟩,h6⟩:=h;have hh:w'.heap=w.heap++w'.heap.extract w.heap.size w'.heap.size:=by
  apply Array.ext_getElem?;intro i;by_cases hi:i<w.heap.size;rw [h5 i hi (by simp),X3 hi];rw [Array.getElem?_append_right (by omega),Array.getElem?_extract];by_cases cy:i<w'.heap.size;rw [if_pos (by omega)];congr 1;omega;rw [if_neg (by omega),Ya3 (by omega)]
 cases w';cases w;simp only [Go.Sort.grow,World.drewN] at *;subst h1 h2 h3;simp only [World.mk.injEq,true_and,and_true];exact ⟨hh,by omega⟩
theorem ZeP {id:Nat} {l:List Oper} (m:Nat) (S:List Nat) (Lt:List Nat) (ord:List (Nat×Nat)) (ce:l.length=m) (hm:P.follows .mixedOrders=true) (hs:Region.noSelect l.toArray=true) (hl:Nat.beq (wt ord) l.length=true)
 (hB:J5 l.toArray Lt ord (Array.replicate m false)=true)
 (h:∀ w',StD w w'->WD P n l.toArray S Lt Q ord e w'):WC P n (.region id l.toArray true) Q e w:=by
 subst ce;refine ⟨λa ha=>wp_region_any hm ?_⟩;have h1:=(h { w with drawn:=w.drawn+1 } ⟨Stp.drew [] w,YbH _⟩).h _ hs hB a ha;have h2:=Z0u (Q:=Q) (λa w hz=>hz) _ _ _ _ h1;rw [Xq hl] at h2;simpa using h2
theorem BXD {d:Nat} {t:TypeId} {x:Operand} {v:Value} (hS:StD w0 w) (k:∀ b w',w.heap.size<=b->Blk w' b t v.cells.toList->StD w w'->StD w0 w'->WL P n ops Q rest ((d,pQ b) :: e) w')
 (hx:ev e x=some v:=by exact rfl) (hd:Nat.blt d n=true:=by exact rfl):WL P n ops Q (⟨some d,.box t x,ty,pos,af,none⟩ :: rest) e w:=by
 have ho:OE P n ⟨some d,.box t x,ty,pos,af,none⟩ e w (λu w'=>Z6w w t v.cells.toList u w'/\w'.drawn=w.drawn):=
  ZL (v:=.pointer (some ⟨w.heap.size,0,none⟩)) (w':=w.alloc (.cells v.cells t)) (λa ha=>by
   simp [execOp,Instr.box,ha.ev hx,newVar,newRow,newObj];rfl) ⟨by simpa using ZbY w t v.cells.toList,rfl⟩
 refine Z0 ho hd ?_;rintro _ w' ⟨⟨b,rfl,hb,hk,hT⟩,he⟩;have h1:StD w w':=⟨hT,Nat.le_of_eq he.symm⟩
 exact k b w' hb hk h1 (hS.trans h1)
theorem Z6V {t T len:Nat} {l:List (Nat×Operand)} {vs:List (Nat×Value)} {cs:List Value} (hv:Jm e l=some vs)
 (hb:∀ w:World,(Instr.buildSlice t len vs.toArray).run P w=.ok (.slice (some ⟨w.heap.size,0,none⟩) len len) (w.alloc (.cells cs.toArray T))) :
 OE P n ⟨dd,.buildSlice t len l.toArray,ty,pos,af,g⟩ e w (λv w'=>Za w T len cs v w'/\StD w w'):=
 ZL (v:=.slice (some ⟨w.heap.size,0,none⟩) len len) (w':=w.alloc (.cells cs.toArray T)) (λa ha=>by
  have h1:=ha.parts hv;have h2:l.toArray.map (λ(x:Nat×Operand)=>match x with|(i,x)=>(i,a.eval x))=vs.toArray:=by
   rw [Ybv];exact congrArg List.toArray h1
  simp only [execOp];rw [h2];simp [hb w]) ⟨⟨w.heap.size,rfl,Xl _,heap_alloc_new w _,Stp.alloc _ _ _⟩,⟨Stp.alloc _ _ _,Xl _⟩⟩
theorem CPD {f d:Nat} {fn:Func} {xs:Array Operand} {ts:Array TypeId} {vs:Array Value} {r:Value} {c:Operand} [hf:Fun P f fn] (hS:StD w0 w) (h:Calls P f vs w (Ret λv w'=>v=r/\StD w w')) (k:∀ w',StD w w'->StD w0 w'->WL P n ops Q rest ((d,r) :: e) w')
 (hc:ev e c=some (.func (.func f) #[] #[]):=by exact rfl) (hv:∀ a,Has n e a->xs.map a.eval=vs:=by first|exact ZS rfl|exact Zg rfl rfl|exact ZJ rfl rfl rfl|exact Z40 rfl rfl rfl rfl|exact Z7F) (hd:Nat.blt d n=true:=by exact rfl) :
 WL P n ops Q (⟨some d,.call { callee:=.value c,args:=xs,argTypes:=ts },ty,pos,af,none⟩ :: rest) e w:=
 Z0 (Z3 hc hv h) hd (by rintro _ w' ⟨rfl,hT⟩;exact k w' hT (hS.trans hT))
theorem DPD {Lt:List Nat} {ord:List (Nat×Nat)} {i f d:Nat} {fn:Func} {gd:Option (Nat×Bool)} {xs:Array Operand} {ts:Array TypeId} {vs:Array Value} {r:Value} {c:Operand} {S:List Nat} [hf:Fun P f fn] (hS:StD w0 w) (h:Calls P f vs w (Ret λv w'=>v=r/\StD w w')) (k:∀ w',StD w w'->StD w0 w'->WD P n ops S Lt Q ord ((d,r) :: e) w')
 (hi:ops[i]?=some ⟨some d,.call { callee:=.value c,args:=xs,argTypes:=ts },ty,pos,af,gd⟩:=by exact rfl) (hg:Z08 ops e gd:=by first|exact trivial|exact rfl)
 (hc:ev e c=some (.func (.func f) #[] #[]):=by exact rfl) (hv:∀ a,Has n e a->xs.map a.eval=vs:=by first|exact ZS rfl|exact Zg rfl rfl|exact ZJ rfl rfl rfl|exact Z40 rfl rfl rfl rfl|exact Z7F) (hd:Nat.blt d n=true:=by exact rfl) :
 WD P n ops S Lt Q ((i,2) :: ord) e w:=
 Z7 hi hg (Z3 hc hv h) (λ_ _ h=>h.2.s.mn) hd (by rintro _ w' ⟨rfl,hT⟩;exact k w' hT (hS.trans hT))
end
section
variable {w:World} {T:Nat}
theorem ZeQ {g q:Nat} {cur F:Array Value} (os:Array Obj) (h:w.heap[g]?=some (.cells cur T (0,0))) (hl:F.size<=cur.size) :
 Stp [g] w (Go.Sort.grow (Go.Sort.putRow id (Go.Sort.ahead w q) g 0 F) os)/\
 ∃ cur',(Go.Sort.grow (Go.Sort.putRow id (Go.Sort.ahead w q) g 0 F) os).heap[g]?=some (.cells cur' T (0,0))/\cur'.size=cur.size/\cur'.toList.take F.size=F.toList:=by
 have hlt:g<w.heap.size:=(Xo.1 h).1;have hh:(Go.Sort.grow (Go.Sort.putRow id (Go.Sort.ahead w q) g 0 F) os).heap=w.heap.modify g (Go.Sort.onCells (Go.Sort.putCells id 0 F))++os:=rfl;refine ⟨⟨rfl,rfl,rfl,by rw [hh];simp,λb hb hn=>?_⟩,Go.Sort.putCells id 0 F cur,?_,by simp [Go.Sort.putCells],?_⟩;rw [hh,X3 (by simpa using hb),Ya6,if_neg (by simp at hn;exact λe=>hn e.symm)];rw [hh,X3 (by simpa using hlt),Ya6,if_pos rfl,h];rfl;apply YaY;simp [Go.Sort.putCells];omega;intro i h1 h2;have hi:i<F.size:=by simpa using h2
 simp [Go.Sort.putCells,hi]
theorem Zcx {g:Nat} {cur F:Array Value} (h:w.heap[g]?=some (.cells cur T (0,0))) (ht:cur.toList.take F.size=F.toList):Go.Sort.Holds id w g 0 F:=by
 intro j hj;have hc:cur[j]?=some F[j]:=by
  have h1:(cur.toList.take F.size)[j]?=some F[j]:=by rw [ht];simp [hj]
  rw [Yaq,if_pos hj] at h1;simpa using h1
 constructor;simp [World.cell?,h,hc,hj];simp [World.frozen?,h]
theorem Z6W {β:Type} [Z2 β] [Inhabited β] (hk:0<Z2.k β) (xs:List β):(Go.Sort.flatK Z2.enc (Z2.k β) xs.toArray).toList=(xs.map Z2.enc).flatten:=by
 have ak:((xs.map Z2.enc).flatten:List Value).length=xs.length * Z2.k β:=by
  rw [Z0z (k:=Z2.k β) _ (by intro c hc;obtain ⟨x,_,rfl⟩:=XK.1 hc;exact Z2.len x),Xy]
 apply List.ext_getElem?;intro t;by_cases ht:t<xs.length * Z2.k β;have hq:t / Z2.k β<xs.length:=Nat.div_lt_of_lt_mul (by rwa [Ybo] at ht);have hr:t % Z2.k β<Z2.k β:=YbD _ hk;have h1:=Z07 (k:=Z2.k β) (xs.map Z2.enc) (by intro c hc;obtain ⟨x,_,rfl⟩:=XK.1 hc;exact Z2.len x) (t / Z2.k β) (by simpa using hq) (t % Z2.k β) ((Z2.enc xs[t / Z2.k β])[t % Z2.k β]'(by rw [Z2.len];exact hr)) (by simp [Z2.len,hr]);rw [Ybo,Ybz] at h1;rw [h1];have h2:=Go.Sort.get_flatK Z2.enc (Z2.k β) xs.toArray t (by simpa using ht);have hs:t<(Go.Sort.flatK Z2.enc (Z2.k β) xs.toArray).size:=by simpa using ht
 rw [getElem!_pos _ t hs] at h2;rw [YaR,Array.getElem?_eq_getElem hs,h2];congr 1;rw [getElem!_pos xs.toArray _ (by simpa using hq),getElem!_pos _ _ (by rw [Z2.len];exact hr)];simp;rw [Ya5 (by simpa using YaW ht),Ya5 (by rw [ak];omega)]
theorem Row.toK {β:Type} [Z2 β] {X:List Nat} {base:Nat} {v:Value} {zs:List β} (h:Row X w base T v zs) :
 (v=.N/\zs=[])\/∃ g cap cur,v=.slice (some ⟨g,0,none⟩) zs.length cap/\base<=g/\w.heap[g]?=some (.cells cur T (0,0))/\zs.length<=cap/\cap<=maxLen/\cur.size=cap * Z2.k β/\cur.toList.take (zs.length * Z2.k β)=(zs.map Z2.enc).flatten:=by
 obtain ⟨css,hl,hr,hx,ho⟩:=h;have hc:css=zs.map Z2.enc:=by
  apply YaY (by simpa using hl);intro i h1 h2;have:css[i]=Z2.enc zs[i]:=hr i (by omega) h1;simp [this]
 subst hc;rcases ho with ⟨rfl,hn⟩|⟨g,cap,cur,rfl,hb,hg,bX,bE,aR,ht⟩
 exact .inl ⟨rfl,XV.1 hn⟩;exact .inr ⟨g,cap,cur,rfl,hb,hg,bX,bE,aR,ht⟩
theorem Row.ofK {β:Type} [Z2 β] {X:List Nat} {base g cap:Nat} {cur:Array Value} {zs:List β} (hb:base<=g) (hg:w.heap[g]?=some (.cells cur T (0,0))) (bX:zs.length<=cap) (bE:cap<=maxLen) (aR:cur.size=cap * Z2.k β)
 (ht:cur.toList.take (zs.length * Z2.k β)=(zs.map Z2.enc).flatten):Row X w base T (.slice (some ⟨g,0,none⟩) zs.length cap) zs:=
 ⟨zs.map Z2.enc, by simp, λi h1 h2 => by simp; rfl, by
   rw [Z0z (k:=Z2.k β) _ (by intro c hc;obtain ⟨x,_,rfl⟩:=XK.1 hc;exact Z2.len x),Xy];rfl,
   .inr ⟨g,cap,cur,rfl,hb,hg,bX,bE,aR,ht⟩⟩
theorem JO {β:Type} [Z2 β] {X X':List Nat} {base:Nat} {v:Value} {zs:List β} (h:Row X w base T v zs):Row X' w base T v zs:=by
 rcases h.toK with ⟨rfl,rfl⟩|⟨g,cap,cur,rfl,hb,hg,bX,bE,aR,ht⟩
 exact Row.nil;exact Row.ofK hb hg bX bE aR ht
open Go.Shelf Go.Sort in
theorem Z8c {β:Type} [Z2 β] [Inhabited β] {P:Program} {ρ:Ren} (jI:0<Z2.k β) (L:SlLaysF0.n6 P ρ) (aE:∀ w,(isAgg (ρ.t 24)).run P w=.ok true w) (zE:∀ w,(Go.sizeOf (ρ.t 24)).run P w=.ok (Z2.k β) w) (cf:β->β->Int) (hO:SWO (ltOf cf)) (g:Nat) {fn:Func} [hf:Fun P g fn]
 (o0:∀ (x y:β) (w),Calls P g #[aG x,aG y] w (Ret λr w'=>r=.I (cf x y)/\StD w w'))
 {X:List Nat} {base:Nat} {v:Value} {zs:List β} (h:Row X w base T v zs) (bD:zs.length<4611686018427387904) :
 Calls P (ρ.f 6) #[v,.func (.func g) #[] #[]] w (Ret λr w'=>r=.tuple #[]/\∃ zs':List β,zs'.Perm zs/\(∀ i j (hi:i<zs'.length) (hj:j<zs'.length),i<j->¬ cf zs'[j] zs'[i]<0)/\Row X w' base T v zs'/\Stp (ob v) w w'):=by
 rcases h.toK with ⟨rfl,rfl⟩|⟨gb,cap,cur,rfl,hb,hg,bX,bE,aR,ht⟩
 refine (AnyF.slices_SortFunc_none L none 0 _ w).mono ?_;rintro _ _ ⟨rfl,rfl⟩;exact .mk ⟨rfl,[],Yam _,λi j hi=>absurd hi (XF _),Row.nil,Stp.refl _ _⟩;have hlt:gb<w.heap.size:=(Xo.1 hg).1;have hC:CmpLays P g #[] Z2.enc (Z2.k β) cf gb 0 zs.toArray.size w:=λm os dk hs x y=>by
  refine (o0 x y _).mono ?_;rintro _ _ ⟨_,rfl,rfl,hD⟩;exact ⟨rfl,hD.grown⟩
 have hH:HoldsK Z2.enc (Z2.k β) w gb 0 zs.toArray:=Zcx hg (by rw [size_flatK,Z6W jI];simpa using ht);have hS:=AnyQ.slices_SortFunc L (Z2.k β) aE zE Z2.enc Z2.len Z2.one cf hO g #[] gb 0 cap zs.toArray w (λargs w=>hf.enters args w) hC hH hlt (by simpa using bD);rw [show zs.toArray.size=zs.length by simp] at hS;refine hS.mono ?_;rintro _ _ ⟨rfl,d',q,os,⟨p1,p2,p3⟩,cp,rfl⟩;have hl:d'.size=zs.length:=by simpa using p1
 have hp:d'.toList.Perm zs:=by
  have e1:d'.extract 0 zs.length=d':=by rw [<- hl];simp
  have e2:zs.toArray.extract 0 zs.length=zs.toArray:=by simp
  rw [e1,e2] at p3;simpa using p3
 obtain ⟨h1,cur',h2,h3,h4⟩:=ZeQ (q:=q) (F:=flatK Z2.enc (Z2.k β) d') os hg (by rw [size_flatK,hl,aR];exact Xu _ bX);refine .mk ⟨rfl,d'.toList,hp,λi j hi hj cW=>?_,?_,h1⟩;have:=cp i j (Xr _) cW (by simpa [hl] using hj);simp only [ltOf,decide_eq_false_iff_not] at this;rw [getElem!_pos d' j (by simpa using hj),getElem!_pos d' i (by simpa using hi)] at this;simpa using this;have hz:zs.length=d'.toList.length:=by simp [hl]
 rw [hz];refine Row.ofK hb h2 (by rw [<- hz];exact bX) bE (by rw [h3,aR]) ?_;rw [<- hz,<- hl,<- size_flatK Z2.enc (Z2.k β) d',h4];have:=Z6W jI d'.toList;simpa using this
end
variable {P:Program} {n:Nat} {e:Env} {w:World} {d:Option Nat} {ty:TypeId} {pos:String} {af:Array Edge} {g:Option (Nat×Bool)}
theorem ZdK {T k bytes:Nat} {z:Value} [hk:Siz P T k] [hb:Byt P T bytes] [hz:Zer P T z]:∃ i,P.info? T=some i/\i.size=k/\i.bytes=bytes/\i.zero=some z:=by
 have a1:=hk.h;have a2:=hb.h;have a3:=hz.h;cases hi:P.info? T with
 | none=>simp [hi] at a1
 | some i=>exact ⟨i,rfl,by simpa [hi] using a1,by simpa [hi] using a2,by simpa [hi] using a3⟩
def ZuS (T k m:Nat) (w:World) (v:Value) (w':World):Prop:=∃ b cur,v=.slice (some ⟨b,0,none⟩) m m/\w.heap.size<=b/\w'.heap[b]?=some (.cells cur T (0,0))/\cur.size=m * k/\m<=maxLen/\Stp [] w w'
theorem Z7L {t T bytes k m:Nat} {x y:Operand} {z:Value} [ht:Und P t (.slice T)] [hk:Siz P T k] [hb:Byt P T bytes] [hz:Zer P T z]
 (hx:ev e x=some (.I (m:Int))) (hy:ev e y=some (.I (m:Int))) (kW:m<=maxLen) (hbytes:bytes * m<=281474976710656) :
 OE P n ⟨d,.makeSlice t x y,ty,pos,af,g⟩ e w (ZuS T k m w):=by
 obtain ⟨i,hi,cu,cy,gR⟩:=ZdK (P:=P) (T:=T) (k:=k) (bytes:=bytes) (z:=z);obtain ⟨w',bj,cm,o4⟩:=run_make_full (P:=P) w w.heap.size t T i z k ht.h hi gR cu .i64 .i64 m (by rw [cy];exact hbytes) kW (Xl _);refine ZL (v:=.slice (some ⟨w.heap.size,0,none⟩) m m) (w':=w') (λa ha=>?_) ?_;simp [execOp,ha.ev hx,ha.ev hy,bj];rcases cm.2 with ⟨h,_⟩|⟨gb,cap,cur,h,cg,hg,hn,hm,aR,ia⟩
 cases h;cases h;exact ⟨_,cur,rfl,Xl _,hg,aR,kW,Stp.of_grown o4⟩
theorem ZhU {β:Type} [Z2 β] {t T bytes b:Nat} {x y:Operand} {z u:Value} {zs:List β} {cur:Array Value} {base:Nat} [ht:Und P t (.slice T)] [hk:Siz P T (Z6.k β)] [hb:Byt P T bytes] [hz:Zer P T z]
 (hx:ev e x=some (.slice (some ⟨b,0,none⟩) zs.length zs.length)) (hy:ev e y=some u) (hs:SlV [] w u zs) (hg:w.heap[b]?=some (.cells cur T (0,0))) (aR:cur.size=zs.length * Z6.k β) (aV:base<=b) (hm:zs.length<=maxLen) :
 OE P n ⟨d,.call { callee:=.builtin .copy,args:=#[x,y],argTypes:=#[t,t] },ty,pos,af,g⟩ e w (λ_ w'=>(∀ X,Row X w' base T (.slice (some ⟨b,0,none⟩) zs.length zs.length) zs)/\Stp [b] w w'):=by
 obtain ⟨i,hi,cu,cy,gR⟩:=ZdK (P:=P) (T:=T) (k:=Z6.k β) (bytes:=bytes) (z:=z);have cX:((zs.map Z2.enc).flatten:List Value).length=zs.length * Z6.k β:=by
  rw [Z0z (k:=Z2.k β) _ (by intro c hc;obtain ⟨x,_,rfl⟩:=XK.1 hc;exact Z2.len x),Xy];rfl
 have aq:∀ v∈(zs.map Z2.enc).flatten,v.oneCell'=true:=by
  intro v hv;obtain ⟨c,hc,jX⟩:=List.mem_flatten.1 hv;obtain ⟨x,_,rfl⟩:=XK.1 hc;exact Z2.one x v jX
 have ax:=run_storeCells_at (P:=P) b 0 T (zs.map Z2.enc).flatten 0 cur w hg (by rw [cX,aR];omega) aq;obtain ⟨p,c,rfl,wV,bE,tY,am⟩:=hs;have mf:(Builtin.firstCells (Z6.k β) zs.length (.slice p zs.length c)).run P w=.ok (zs.map Z2.enc).flatten.toArray w:=by
  cases p with
  | none=>
    have h0:zs.length=0:=by have:=tY rfl;omega
    obtain rfl:=XV.1 h0;simp [Builtin.firstCells]
  | some a=>
    have:=run_loadCells_list (P:=P) (w:=w) a (zs.map Z2.enc).flatten (λj v hj=>by
     have aT:j<zs.length * Z2.k β:=by
      have h1:=(Xw.1 hj).1;rw [cX] at h1;exact h1
     have tZ:0<Z2.k β:=by
      rcases Nat.eq_zero_or_pos (Z2.k β) with h|h
      rw [h] at aT;omega;exact h
     have hq:j / Z2.k β<zs.length:=Nat.div_lt_of_lt_mul (by rwa [Ybo] at aT);have hr:j % Z2.k β<Z2.k β:=YbD _ tZ;obtain ⟨b',o,cs,h1,h2,h3,h4,h5⟩:=am _ hq;cases h1;have nI:cs=Z2.enc zs[j / Z2.k β]:=h4;have h6:=Z07 (k:=Z2.k β) (zs.map Z2.enc) (by intro c hc;obtain ⟨x,_,rfl⟩:=XK.1 hc;exact Z2.len x) (j / Z2.k β) (by simpa using hq) (j % Z2.k β) ((Z2.enc zs[j / Z2.k β])[j % Z2.k β]'(by rw [Z2.len];exact hr)) (by simp [Z2.len,hr]);rw [Ybo,Ybz] at h6;rw [h6] at hj;have h7:=h5 (j % Z2.k β) _ (by rw [nI];exact XR (by rw [Z2.len];exact hr));rw [XU hj] at h7;have h8:o+j / Z2.k β * Z2.k β+j % Z2.k β=o+j:=by
      have:=Ybz j (Z2.k β);rw [Ybo] at this;omega
     have h9:(⟨b',o,none⟩:Addr).add j=⟨b',o+j,none⟩:=by unfold Addr.add;split<;>simp_all
     rw [h9,<- h8];exact h7)
    rw [cX] at this;simpa [Builtin.firstCells] using this
 refine ZL (v:=goInt zs.length) (w':=w.setRow b ((zs.map Z2.enc).flatten++cur.toList.drop ((zs.map Z2.enc).flatten.length)).toArray) (λa ha=>?_) ⟨λX=>?_,Z1F _ _ _⟩;have hr:(Builtin.copy_ #[t,t] ty #[.slice (some ⟨b,0,none⟩) zs.length zs.length,.slice p zs.length c]).run P w=.ok (goInt zs.length) (w.setRow b ((zs.map Z2.enc).flatten++cur.toList.drop ((zs.map Z2.enc).flatten.length)).toArray):=by
  simp only [YbA,XJ,List.take_zero,XO] at ax;simp [Builtin.copy_,run_underlying ht.h,Builtin.lenOf,sizeOf,typeInfo,hi,cu,mf,ax]
 generalize w.setRow b ((zs.map Z2.enc).flatten++cur.toList.drop ((zs.map Z2.enc).flatten.length)).toArray=W' at hr ⊢;simp [execOp,resolve,invoke,builtin,ha.ev hx,ha.ev hy,hr];have wW:b<w.heap.size:=(Xo.1 hg).1;refine Row.ofK (cur:=((zs.map Z2.enc).flatten++cur.toList.drop ((zs.map Z2.enc).flatten.length)).toArray) aV (setRow_heap w b cur _ T (0,0) hg) (Xl _) hm ?_ ?_;have:Z2.k β=Z6.k β:=rfl;rw [this];simp only [Yah,Xa,Yae,Yab,cX,aR];omega;have:Z2.k β=Z6.k β:=rfl;rw [this];simp only [Ya1 (Nat.le_of_eq cX.symm)];rw [<- cX,Xs]
end Go.Eng
namespace Go.Proofs.YtgdicjnjhchooaaGreatDoor
open Go Go.Eng Go.RowKit
theorem ZeR (x y:Int) (w):CC 66 #[.I x,.I y] w λr w'=>r=.I (cmI x y)/\StD w w':=
 (Tryz.cmp_Compare_int x y w).mono (by
   rintro e w' ⟨rfl,rfl⟩;exact .mk ⟨rfl,StD.refl _⟩)
theorem ZhV (a:Str) (w):CC 156 #[str a] w λr w'=>r=.B false/\StD w w':=by
 refine cW1 6 Tryz.func156 ?_;refine RT ?_;exact ⟨by simp,StD.refl _⟩
theorem ZtY (a b:Str) (w):CC 88 #[str a,str b] w λr w'=>r=.I (Z37 a b)/\StD w w':=by
 refine cW2 20 Tryz.func88 ?_;refine W ?_;refine CPD (StD.refl w) (ZhV a _) λw1 _ hS=>?_;refine W ?_;refine CPD hS (ZhV b _) λw2 _ hS=>?_;refine W ?_;cases h1:ltS a b
 . refine Z9 (Z4M rfl rfl h1) rfl ?_
   refine W ?_;cases h2:(!(ltS a b || a == b))
   all_goals
    refine Z9 (ZdI rfl rfl h2) rfl ?_;refine RT ?_;exact ⟨by rw [Z37,if_neg (by simp [h1]),h2];rfl,hS⟩
 refine Z9 (Z4M rfl rfl h1) rfl ?_;refine RT ?_;exact ⟨by rw [Z37,h1];rfl,hS⟩
theorem ZuT (v:Value) (l:List Int) (w) (hs:SlV [] w v l):CC 87 #[v] w λr w'=>r=.I (orL l)/\StD w w':=by
 have bh:=hs.max;refine cW1 18 Tryz.func87 ?_;refine W ?_;refine LP (σ:=Nat) (λk=>[(3,.I 0),(6,v),(7,.I l.length),(8,.I k)]) (λk w'=>k<=l.length/\StD w w'/\∀ j (h:j<l.length),j<k->l[j]=0) (λk=>l.length - k) 0 ⟨by omega,StD.refl _,by omega⟩ ?_;have bQ:=hs;clear hs;rintro k w1 ⟨hk,hS,hz⟩;have hs:=bQ.up hS.s;by_cases hlt:k<l.length;by_cases h0:l[k]=0;refine QO ?_;exact QL (k+1) ⟨by omega,hS,λj h hj=>by
  by_cases e:j=k;subst e;exact h0;exact hz j h (by omega)⟩ (by omega)
 refine RT ?_;exact ⟨by rw [ZhR hlt hz h0],hS⟩;refine RT ?_;exact ⟨by rw [ZaE (λj h=>hz j h (by omega))],hS⟩
theorem ZtZ (f g:Fct) (w):CC 49 #[aG f,aG g] w λr w'=>r=.I (Z12 f g)/\StD w w':=by
 refine cW2 37 Tryz.func49 ?_;refine W ?_;refine BXD (StD.refl w) λb2 w1 h2 e2 _ hS=>?_;refine BXD hS λb3 w2 h3 e3 hT hS=>?_;replace e2:=e2.up hT.s;replace e2:Blk w2 b2 40 (Z2.enc f):=e2;replace e3:Blk w2 b3 40 (Z2.enc g):=e3;refine W ?_;refine ZeP 33 [] [] [(0,0),(1,1),(2,0),(3,1),(5,0),(6,1),(7,0),(8,1),(10,0),(11,1),(12,0),(13,1),(15,0),(16,1),(17,0),(18,1),(20,0),(21,1),(22,0),(23,1),(25,0),(26,1),(27,0),(28,1),(4,2),(9,2),(14,2),(19,2),(24,2),(29,2),(30,2),(31,2),(32,0)] rfl mixed (by kernel_rfl) (by kernel_rfl) (by kernel_rfl) (λw1 ae=>?_);replace e2:=e2.up ae.s;replace e3:=e3.up ae.s;replace hS:=hS.trans ae;refine D ?_;clear ae e2 e3;refine DPD hS (ZeR _ _ _) λ_ _ hS=>?_;refine DPD hS (ZeR _ _ _) λ_ _ hS=>?_;refine DPD hS (ZtY _ _ _) λ_ _ hS=>?_;refine DPD hS (ZeR _ _ _) λ_ _ hS=>?_;refine DPD hS (ZeR _ _ _) λ_ _ hS=>?_;refine DPD hS (ZeR _ _ _) λ_ _ hS=>?_;refine Z7 rfl trivial (Z6V rfl (ZaF _ _ _ _ _ _)) (λ_ _ h=>Za.stp h.1) rfl ?_;rintro bv wb ⟨hN,hT⟩;have aI:=hN.slv (X:=[]) (ys:=[cmI f.day g.day,cmI f.entry g.entry,Z37 f.kind g.kind,cmI f.by_ g.by_,cmI f.to_ g.to_,cmI f.amt g.amt]) (by simp) rfl rfl (by simp [maxLen]);replace hS:=hS.trans hT;refine DPD hS (ZuT bv _ _ aI) λ_ _ hS=>?_;refine D ?_;refine RT ?_;exact ⟨rfl,hS⟩
theorem Zu0 (a b:Spn) (w):CC 124 #[aG a,aG b] w λr w'=>r=.I (cmI a.1 b.1)/\StD w w':=by
 refine cW2 10 Tryz.func124 ?_;refine W ?_;refine BXD (StD.refl w) λb2 w1 h2 e2 _ hS=>?_;refine BXD hS λb3 w2 h3 e3 hT hS=>?_;replace e2:=e2.up hT.s;replace e2:Blk w2 b2 94 (Z2.enc a):=e2;replace e3:Blk w2 b3 94 (Z2.enc b):=e3;refine W ?_;refine CPD hS (ZeR _ _ _) λw3 _ hS=>?_;refine RT ?_;exact ⟨rfl,hS⟩
def Zcy (s:Spn):List Spn->List Spn
 | []=>[s]
 | x :: l=>if s.1<x.1 then s :: x :: l else x :: Zcy s l
def ZdL (l:List Spn):List Spn:=l.foldr Zcy []
def Jh (acc:List Spn) (s:Spn):List Spn:=
 match acc.getLast? with
 | none=>[s]
 | some t=>if s.1<=t.2+1 then acc.dropLast++[(t.1,max t.2 s.2)] else acc++[s]
def Ja (l:List Spn):List Spn:=(ZdL l).foldl Jh []
structure ZaI (l:List Spn):Prop where
 len:l.length<=1000
 rng:∀ s∈l,0<=s.1/\s.1<=s.2/\s.2<=3652058
theorem Z1C (s:Spn):Jh [] s=[s]:=rfl
theorem Jo (L:List Spn) (u s:Spn):Jh (L++[u]) s=if s.1<=u.2+1 then L++[(u.1,max u.2 s.2)] else L++[u]++[s]:=by
 simp [Jh]
theorem Z5x (s:Spn):∀ l,(Zcy s l).Perm (s :: l)
 | []=>Yam _
 | x :: l => by
   rw [Zcy];split;exact Yam _
   . exact ((Z5x s l).cons x).trans (List.Perm.swap _ _ _)
theorem Z5X (s:Spn):∀ l:List Spn,l.Pairwise (λa b=>a.1<=b.1)->(Zcy s l).Pairwise (λa b=>a.1<=b.1)
 | [],_=>by simp [Zcy]
 | x :: l, h => by
   rw [Zcy];rw [XD] at h;split;rename_i hlt;refine XD.2 ⟨λy hy=>?_,XD.2 h⟩;rcases Xc.1 hy with rfl|hy
   omega;have:=h.1 y hy;omega;rename_i hlt;refine XD.2 ⟨λy hy=>?_,Z5X s l h.2⟩;rcases Xc.1 ((Z5x s l).mem_iff.1 hy) with rfl|hy
   omega;exact h.1 y hy
theorem Z0w:∀ l,(ZdL l).Perm l
 | []=>Yam _
 | x :: l=>(Z5x x _).trans ((Z0w l).cons x)
theorem Z2N:∀ l,(ZdL l).Pairwise (λa b=>a.1<=b.1)
 | []=>List.Pairwise.nil
 | x :: l=>Z5X x _ (Z2N l)
theorem Zcz {acc:List Spn} {s t:Spn} (h:s.1=t.1) (hs:s.1<=s.2) (ht:t.1<=t.2):Jh (Jh acc s) t=Jh (Jh acc t) s:=by
 obtain ⟨s1,s2⟩:=s;obtain ⟨t1,t2⟩:=t;dsimp only at h hs ht;subst h;rcases Yaj acc with rfl|⟨L,u,rfl⟩
 rw [Z1C,Z1C];have e1:=Jo [] (s1,s2) (s1,t2);have e2:=Jo [] (s1,t2) (s1,s2);rw [XO] at e1 e2;rw [e1,e2,if_pos (by dsimp only;omega),if_pos (by dsimp only;omega)];dsimp only;rw [Int.max_comm];obtain ⟨u1,u2⟩:=u;rw [Yak,Jo,Jo];dsimp only;by_cases hc:s1<=u2+1;rw [if_pos hc,if_pos hc,Jo,Jo,if_pos (by dsimp only;omega),if_pos (by dsimp only;omega)];dsimp only;congr 3;omega;rw [if_neg hc,if_neg hc,Jo,Jo,if_pos (by dsimp only;omega),if_pos (by dsimp only;omega)];dsimp only;rw [Int.max_comm]
theorem Z8d {x:Spn} (hx:x.1<=x.2):∀ (A:List Spn) (acc:List Spn),(∀ a∈A,a.1=x.1/\a.1<=a.2)->Jh (A.foldl Jh acc) x=A.foldl Jh (Jh acc x)
 | [],_,_=>rfl
 | a :: A, acc, h => by
   rw [X5,X5,Z8d hx A _ (λb hb=>h b (by simp [hb])),Zcz (h a (by simp)).1 (h a (by simp)).2 hx]
theorem ZaJ:∀ (L1 L2 acc:List Spn),L1.Perm L2->L1.Pairwise (λa b=>a.1<=b.1)->L2.Pairwise (λa b=>a.1<=b.1)->(∀ s∈L1,s.1<=s.2)->L1.foldl Jh acc=L2.foldl Jh acc
 | [],L2,acc,hp,_,_,_=>by rw [List.nil_perm.1 hp]
 | x :: l, L2, acc, hp, h1, h2, hv => by
   obtain ⟨A,B,rfl⟩:=List.append_of_mem (hp.mem_iff.1 (YaP));have hq:l.Perm (A++B):=(hp.trans YbK).cons_inv;rw [XD] at h1;have iq:=XX.1 h2;rw [X5,XP,X5,Z8d (hv x (by simp)) A acc (λa ha=>?_),<- XP];refine ZaJ l (A++B) _ hq h1.2 ?_ (λs hs=>hv s (by simp [hs]));exact h2.sublist (List.Sublist.append_left (List.sublist_cons_self _ _) _);have fc:a∈l:=hq.mem_iff.2 (by simp [ha]);have g1:=h1.1 a fc;have g2:=iq.2.2 a ha x (by simp);exact ⟨by omega,hv a (by simp [fc])⟩
theorem ZeS {l L:List Spn} (hp:L.Perm l) (hs:L.Pairwise (λa b=>a.1<=b.1)) (hv:∀ s∈l,s.1<=s.2):Ja l=L.foldl Jh []:=
 ZaJ _ _ _ ((Z0w l).trans hp.symm) (Z2N l) hs (λs h=>hv s ((Z0w l).mem_iff.1 h))
theorem ZeT (acc:List Spn) (s:Spn):(Jh acc s).length<=acc.length+1:=by
 rcases Yaj acc with rfl|⟨L,u,rfl⟩
 simp [Jh];rw [Yak,Jo];split<;>simp
theorem Z5y:∀ (L acc:List Spn),(L.foldl Jh acc).length<=acc.length+L.length
 | [],acc=>by simp
 | x :: L, acc => by
   rw [X5];have h1:=Z5y L (Jh acc x);have h2:=ZeT acc x;rw [Xe];omega
def SpV (s:Spn):Prop:=0<=s.1/\s.1<=s.2/\s.2<=3652058
theorem Zlm {acc:List Spn} {s:Spn} (ha:∀ x∈acc,SpV x) (hs:SpV s):∀ x∈Jh acc s,SpV x:=by
 rcases Yaj acc with rfl|⟨L,u,rfl⟩
 rw [Z1C];intro x hx;simp only [Xm] at hx;subst hx;exact hs;rw [Yak] at ha ⊢;rw [Jo];have hu:=ha u (by simp);intro x hx;unfold SpV at *;split at hx;rcases Xd.1 hx with h|h
 exact ha x (by simp [h]);simp only [Xm] at h;subst h;dsimp only;omega;rcases Xd.1 hx with h|h
 exact ha x h;simp only [Xm] at h;subst h;exact hs
theorem Z9k:∀ (L acc:List Spn),(∀ x∈acc,SpV x)->(∀ x∈L,SpV x)->∀ x∈L.foldl Jh acc,SpV x
 | [],acc,h,_=>h
 | y :: L,acc,h,hL=>Z9k L _ (Zlm h (hL y (by simp))) (λx hx=>hL x (by simp [hx]))
theorem ZhW {l:List Spn} (h:ZaI l):ZaI (Ja l):=by
 have hp:=Z0w l;refine ⟨?_,Z9k _ _ (by simp) (λx hx=>h.rng x (hp.mem_iff.1 hx))⟩;have:=Z5y (ZdL l) [];rw [hp.length_eq] at this;have:=h.len;unfold Ja;simp at *;omega
open Go Go.Eng Go.RowKit Go.Shelf Go.Sort
theorem ZuU {α:Type} (f:α->Int):SWO (ltOf λx y:α=>cmI (f x) (f y)):=by
 have h:∀ x y,ltOf (λx y:α=>cmI (f x) (f y)) x y=decide (f x<f y):=by
  intro x y;unfold ltOf cmI;by_cases h1:f x<f y;simp [h1];by_cases h2:f y<f x<;>simp [h1,h2]
 refine ⟨λx=>by rw [h];simp,λx y z h1 h2=>?_,λx y z h1 h2=>?_⟩;rw [h] at *;simp at *;omega;rw [h] at *;simp at *;omega
instance:Inhabited Spn:=⟨(0,0)⟩
theorem ZaK {X:List Nat} {base:Nat} {v:Value} {zs:List Spn} {w} (h:Row X w base 94 v zs) (bD:zs.length<=1000) :
 CC 123 #[v,.func (.func 124) #[] #[]] w λr w'=>r=.tuple #[]/\∃ zs':List Spn,zs'.Perm zs/\(∀ i j (hi:i<zs'.length) (hj:j<zs'.length),i<j->¬ cmI zs'[j].1 zs'[i].1<0)/\Row X w' base 94 v zs'/\Stp (ob v) w w':=
 Z8c (β:=Spn) (by decide) Tryz.sortSpn Tryz.isAgg94 Tryz.sizeOf94 (λx y=>cmI x.1 y.1) (ZuU Prod.fst) 124 (λx y w=>Zu0 x y w) h (by omega)
theorem ZeU (v:Value) (l:List Spn) (w) (hs:SlV [] w v l) (ho:ZaI l):CC 70 #[v] w λr w'=>Zk 94 w w' r (Ja l):=by
 have ak:=ho.len;refine cW1 58 Tryz.func70 ?_;refine W ?_;refine Z0 (Z7L (m:=l.length) rfl rfl (by simp only [maxLen];omega) (Xh (Nat.mul_le_mul_left _ ak) (by decide))) rfl ?_;rintro _ w1 ⟨b,cur,rfl,hb,hg,aR,hm,hT⟩;have bB:=hs.up hT;refine W ?_;refine Z0 (ZhU (base:=w.heap.size) rfl rfl bB hg aR hb hm) rfl ?_;rintro _ w2 ⟨hr,an⟩;replace hT:=hT.ow an;refine W ?_;refine CL (ZaK (hr []) ak) ?_;rintro _ w3 ⟨rfl,L,hp,cp,bU,cF⟩;have hS:Stp [] w w3:=hT.own cF (λc hc=>.inr (by simp [ob] at hc;omega));have t6:L.Pairwise (λa b=>a.1<=b.1):=Yag.2 (λi j hi hj cW=>by
  have:=cp i j hi hj cW;unfold cmI at this;by_cases h1:L[j].1<L[i].1;rw [if_pos h1] at this;omega;omega)
 rw [ZeS hp t6 (λs h=>(ho.rng s h).2.1)];have hv:∀ s∈L,SpV s:=λs h=>ho.rng s (hp.mem_iff.1 h);have oS:L.length=l.length:=hp.length_eq;have hL:L.length<=1000:=by rw [oS];exact ak
 have au:SlV [] w3 (.slice (some ⟨b,0,none⟩) l.length l.length) L:=bU.slv (by simp);rw [<- oS] at *;clear hr bU bB hT an cF hg aR cp hp;generalize wX:Value.slice (some ⟨b,0,none⟩) L.length L.length=vv at *;refine W ?_;refine LP (σ:=Nat×Value) (λq=>[(4,q.2),(16,vv),(17,.I L.length),(18,.I q.1)]) (λq w'=>q.1<=L.length/\Zk 94 w3 w' q.2 ((L.take q.1).foldl Jh [])) (λq=>L.length - q.1) (0,.N) ⟨by omega,Zk.nil⟩ ?_;rintro ⟨k,rv⟩ w4 ⟨hk,hr⟩;dsimp only at hk hr ⊢;by_cases hlt:k<L.length;have dz:=au.up hr.2;have hstep:(L.take (k+1)).foldl Jh []=Jh ((L.take k).foldl Jh []) L[k]:=by rw [Xg hlt,XP];rfl
 have cX:=Z5y (L.take k) [];have o5:=Z9k (L.take k) [] (by simp) (λx hx=>hv x (Yad hx));have ua:=hv _ (Xb hlt);rw [Xx,Xi] at cX;generalize (L.take k).foldl Jh []=acc at *;refine QO ?_;refine Z0 Z4 rfl ?_;rintro _ w5 ⟨b6,rfl,dS,e6,hA⟩;refine SA (us:=Z2.enc L[k]) e6 ?_;rintro _ w6 ⟨cG,e6⟩;replace hA:=hA.ow cG;replace hr:=hr.up hA;clear hA cG dz;have bN:SlV [] w6 rv acc:=hr.slv (by simp);refine W ?_;rcases Yaj acc with rfl|⟨M,u,rfl⟩
 refine ZDr 14 [] [] [(0,0),(1,0),(2,0),(3,0),(4,1),(5,0),(6,0),(7,0),(8,0),(9,0),(10,1),(11,0),(12,0),(13,0)] (λw1 ae=>?_);replace hr:=hr.up ae;replace e6:=e6.up ae;refine D ?_;refine W ?_;refine AP1 L[k] hr (by simp) λv1 v' w' aO _=>?_
 refine W ?_;exact QL (k+1,v') ⟨hlt,by rw [hstep,Z1C];exact aO⟩ (by dsimp only;omega);rw [Yak] at *;rw [Jo] at hstep;have mg:((M++[u]).length:Int) - 1=(M.length:Nat):=by simp
 have kX:M.length<(M++[u]).length:=by simp
 have cZ:(M++[u])[M.length]=u:=by simp
 have hu:=o5 u (by simp);unfold SpV at hu ua;have o7:0<=(M++[u])[M.length].2/\(M++[u])[M.length].2<=3652058:=by rw [cZ];omega
 have fb:0<((M++[u]).length:Int):=by simp
 refine ZDr 14 [] [] [(0,0),(1,0),(2,0),(3,0),(4,1),(5,0),(6,0),(7,0),(8,0),(9,0),(10,1),(11,0),(12,0),(13,0)] (λw1 ae=>?_);replace hr:=hr.up ae;replace bN:=bN.up ae;replace e6:=e6.up ae;refine QD ?_;rw [cZ];refine W ?_;refine VC ?_ ?_<;>intro hc;rw [if_pos hc] at hstep;refine W ?_;refine ZDr 15 [] [14] [(0,0),(1,0),(2,0),(3,0),(4,0),(5,0),(6,0),(7,0),(8,1),(9,0),(10,1),(11,0),(12,0),(13,0),(14,2)] (λw1 ae=>?_);replace hr:=hr.up ae;replace bN:=bN.up ae;replace e6:=e6.up ae;refine QD ?_;rw [cZ];refine ZM rfl trivial (Z93 (y':=(u.1,max u.2 L[k].2)) (u:=.I (max u.2 L[k].2)) rfl rfl rfl rfl rfl hr kX (by decide) (by rw [cZ];rfl)) rfl ?_;rintro _ w8 ⟨rA,-⟩;refine D ?_;refine W ?_;rw [show (M++[u]).set M.length (u.1,max u.2 L[k].2)=M++[(u.1,max u.2 L[k].2)] by simp] at rA;exact QL (k+1,rv) ⟨hlt,by rw [hstep];exact rA⟩ (by dsimp only;omega);rw [if_neg hc] at hstep;refine W ?_;refine AP1 L[k] hr (by omega) λv1 v' w' aO _=>?_
 refine W ?_;exact QL (k+1,v') ⟨hlt,by rw [hstep];exact aO⟩ (by dsimp only;omega);obtain rfl:k=L.length:=by omega
 rw [Xs] at hr;refine QO ?_;refine WR ?_;exact .mk (hr.pre hS)
def Z1i (start:Int):List Spn->Int->Int
 | [],d=>d
 | s :: l,d=>if d<s.1 then d else Z1i start l (d+max 0 (s.2 - max s.1 (start+1)+1))
def Z0N (start due:Int) (l:List Spn):Int×Int:=if due<=start then (due,0) else if 3652058<Z1i start (Ja l) due then (0,31) else (Z1i start (Ja l) due,0)
theorem ZeV (start:Int) (L:List Spn) (d:Int) (k:Nat) (h:k<L.length):Z1i start (L.drop k) d=if d<L[k].1 then d else Z1i start (L.drop (k+1)) (d+max 0 (L[k].2 - max L[k].1 (start+1)+1)):=by
 rw [YaS h,Z1i]
theorem Z6X (start due:Int) (v:Value) (l:List Spn) (w) (hs:SlV [] w v l) (ho:ZaI l) (h1:-1000000000<=start/\start<=1000000000) (h2:-1000000000<=due/\due<=1000000000):CC 31 #[.I start,.I due,v] w λr w'=>r=.tuple #[.I (Z0N start due l).1,.I (Z0N start due l).2]/\Stp [] w w':=by
 have hm:=ZhW ho;unfold Z0N;refine cW3 41 Tryz.func31 ?_;by_cases hd:due<=start;rw [if_pos hd];refine RT ?_;exact ⟨rfl,Stp.refl _ _⟩;rw [if_neg hd];refine QO ?_;refine CG (ZeU v l w hs ho) ?_;intro rv w1 hr;have hS:=hr.2;have bN:SlV [] w1 rv (Ja l):=hr.slv (by simp);clear hr;generalize Ja l=L at *;refine W ?_;refine Z0t (σ:=Int) (λd=>[(0,.I start),(1,.I d)]) (λd w'=>Stp [] w w'/\d=Z1i start L due/\-1000000000<=d/\d<=9000000000000) ?_ ?_;refine LP (σ:=Nat×Int) (λq=>[(0,.I start),(1,.I q.2),(15,rv),(16,.I L.length),(17,.I q.1)]) (λq w'=>q.1<=L.length/\Stp [] w1 w'/\Z1i start (L.drop q.1) q.2=Z1i start L due/\-1000000000<=q.2/\q.2<=1000000000+q.1 * 4000000000) (λq=>L.length - q.1) (0,due) ⟨by omega,Stp.refl _ _,rfl,h2.1,by dsimp only;omega⟩ ?_;rintro ⟨k,d⟩ w2 ⟨hk,hT,he,g1,g2⟩;dsimp only at hk he g1 g2 ⊢;have ak:=hm.len;have jY:=bN.up hT;by_cases hlt:k<L.length;obtain ⟨r1,r2,r3⟩:=hm.rng _ (Xb hlt);have hstep:=ZeV start L d k hlt;rw [he] at hstep;refine QO ?_;refine Z0 Z4 rfl ?_;rintro _ w3 ⟨b9,rfl,ee,e9,aF⟩;refine SA (us:=Z2.enc L[k]) e9 ?_;rintro _ w4 ⟨aU,e9⟩;replace hT:=hT.trans (aF.ow aU);clear aF aU jY;simp only [Z2.enc] at e9;by_cases hb:d<L[k].1;rw [if_pos hb] at hstep;refine QO ?_;exact QT d ⟨hS.trans hT,hstep.symm,g1,by omega⟩;rw [if_neg hb] at hstep;refine QO ?_;exact Zd (k+1,d+max 0 (L[k].2 - max L[k].1 (start+1)+1)) ⟨rfl,rfl,rfl,rfl,rfl,trivial⟩ ⟨hlt,hT,hstep.symm,by dsimp only;omega,by dsimp only;omega⟩ (by dsimp only;omega);refine QO ?_;rw [Ya4 (by omega)] at he;exact QT d ⟨hS.trans hT,he,g1,by omega⟩;rintro d w2 ⟨aj,rfl,g1,g2⟩;generalize Z1i start L due=d at *;by_cases hc:3652058<d;rw [if_pos hc];refine RT ?_;exact ⟨rfl,aj⟩;rw [if_neg hc];refine RT ?_;exact ⟨rfl,aj⟩
def ZaL (start due:Int) (l:List Spn):Int:=if (Z0N start due l).2≠0 then 3652058 else (Z0N start due l).1
def Z1U (start e:Int) (s:Spn):Bool:=decide (start<s.2/\s.1<=e)
def Z23 (start due:Int) (l:List Spn):List Spn:=if due<=start then [] else l.filter (Z1U start (ZaL start due l))
theorem Z5Y {α:Type} (p:α->Bool) (l:List α) (k:Nat) (h:k<l.length):(l.take (k+1)).filter p=(l.take k).filter p++if p l[k]=true then [l[k]] else []:=by
 rw [Xg h,YaD];congr 1;cases hc:p l[k]<;>simp [hc]
theorem ZhX (start due:Int) (v:Value) (l:List Spn) (w) (hs:SlV [] w v l) (ho:ZaI l) (h1:-1000000000<=start/\start<=1000000000) (h2:-1000000000<=due/\due<=1000000000):CC 35 #[.I start,.I due,v] w λr w'=>Zk 94 w w' r (Z23 start due l):=by
 have ak:=ho.len;unfold Z23;refine cW3 46 Tryz.func35 ?_;by_cases hd:due<=start;rw [if_pos hd];refine QO ?_;refine WR ?_;exact .mk Zk.nil;rw [if_neg hd];refine QO ?_;refine CP (Stp.refl [] w) (Z6X start due v l w hs ho h1 h2) λw1 _ hS=>?_;refine W ?_;unfold ZaL;generalize Z0N start due l=p;obtain ⟨d,c⟩:=p;dsimp only;refine Js (σ:=Unit) (λ_=>[(0,.I start),(2,v),(7,.I (if c≠0 then 3652058 else d))]) (λ_ w'=>Stp [] w w') ?_ ?_;by_cases hc:c=0;rw [if_neg (by simpa using hc)];refine QO ?_;exact QT () hS;rw [if_pos hc];refine QO ?_;exact QT () hS;rintro _ w2 hS;generalize (if c≠0 then (3652058:Int) else d)=E;have aX:=hs.up hS;refine W ?_;refine LP (σ:=Nat×Value) (λq=>[(0,.I start),(7,.I E),(9,q.2),(24,v),(25,.I l.length),(26,.I q.1)]) (λq w'=>q.1<=l.length/\Zk 94 w w' q.2 ((l.take q.1).filter (Z1U start E))) (λq=>l.length - q.1) (0,.N) ⟨by omega,Zk.pre hS Zk.nil⟩ ?_;rintro ⟨k,rv⟩ w3 ⟨hk,hr⟩;dsimp only at hk hr ⊢;have dH:=hs.up hr.2;by_cases hlt:k<l.length
 . have hstep:=Z5Y (Z1U start E) l k hlt
   refine QO ?_;refine Z0 Z4 rfl ?_;rintro _ w4 ⟨b11,rfl,iF,e11,aF⟩;refine SA (us:=Z2.enc l[k]) e11 ?_;rintro _ w5 ⟨aU,e11⟩;replace hr:=hr.up (aF.ow aU);clear aF aU dH;repeat'(first|refine W1 ?_|omega|refine VG ?_ ?_<;>intro hg|refine VC ?_ ?_<;>intro hc)
   all_goals first
    | exact QL (k + 1, rv) ⟨hlt, by
       rw [hstep,if_neg (show ¬ Z1U start E l[k]=true by simp only [Z1U,decide_eq_true_eq];omega),Xz];exact hr⟩ (by dsimp only;omega)
    | refine AP1 l[k] hr (Xh (XG _ _) (by simp; omega)) λv1 v' w' aO _ => ?_
      refine QO ?_;exact QL (k+1,v') ⟨hlt,by
       rw [hstep,if_pos (show Z1U start E l[k]=true from decide_eq_true ⟨by omega,by omega⟩)];exact aO⟩ (by dsimp only;omega)
 obtain rfl:k=l.length:=by omega
 rw [Xs] at hr;refine QO ?_;refine WR ?_;exact .mk hr
end Go.Proofs.YtgdicjnjhchooaaGreatDoor
namespace Go.Eng
open Go Go.RowKit Go.Proofs
def Z0C (ds:List Deferred) (a:Act):Act:={ a with defers:=a.defers++ds }
def Z6Y (ds:List Deferred) (Q:Exit->Act->World->Prop):Exit->Act->World->Prop:=λx a w=>Q x (Z0C ds a) w
theorem Z1V (ds:List Deferred) (a:Act) (d:Option Nat) (v:Value):Z0C ds (a.put d v)=(Z0C ds a).put d v:=by cases d<;>rfl
theorem Z5z (ds:List Deferred) (a:Act):(Z0C ds a).eval=a.eval:=by funext x;cases x<;>rfl
theorem Z3q {ds:List Deferred} {Q:Exit->Act->World->Prop} (h:LetsOut (Z6Y ds Q)):LetsOut Q:=let ⟨a,w,h⟩:=h;⟨_,w,h⟩
theorem ZaM {P:Program} {ds:List Deferred} {Q:Exit->Act->World->Prop} {o:Oper} {a:Act} {w} {K K':Act->World->Prop} (hK:∀ a w,K' a w->K (Z0C ds a) w) (h:o.wp P a w K' (Z6Y ds Q)):o.wp P (Z0C ds a) w K Q:=by
 unfold Oper.wp at *;rw [Z5z];generalize (execOp a.eval o).run P w=r at *;cases r with
 | ok x w'=>
   cases x<;>simp only [Oper.upon] at h ⊢
   case value v=>have:=hK _ _ h;rw [Z1V] at this;exact this
   case skip=>have:=hK _ _ h;rw [Z1V] at this;exact this
   case defer d=>have:=hK _ _ h;rw [Z1V] at this;exact this
   case enter f args=>
    refine Calls.mono h λe w'' he=>?_;cases e with
    | returned v=>have:=hK _ _ he;rw [Z1V] at this;exact this
    | panicked c=>exact he
    | outgrown=>exact Z3q he
   case row row args=>exact Rows.mono h λv w'' he=>by have:=hK _ _ he;rw [Z1V] at this;exact this
 | halt x w'=>cases x<;>simp only [Oper.upon] at h ⊢;exact h
theorem ZaN {P:Program} {ds:List Deferred} {o:Oper} {a:Act} {w} (h:o.asks P a w):o.asks P (Z0C ds a) w:=by
 unfold Oper.asks at *;rw [Z5z];exact h
theorem Z4p {P:Program} {ds:List Deferred} {Q:Exit->Act->World->Prop} {ops:Array Oper}:∀ (l:List Oper) (a:Act) (w),wpList P ops (Z6Y ds Q) l a w->wpList P ops Q l (Z0C ds a) w
 | [],a,w,h=>h
 | o :: rest, a, w, h => by
   unfold wpList at *;split at h;rename_i hw;rw [if_pos (show Region.wanted o (yielded ops (Z0C ds a).tmps)=true from hw)];rcases h with h|⟨h1,h2⟩
   exact .inl (ZaM (λa w h=>Z4p rest a w h) h);exact .inr ⟨ZaN h1,Z3q h2⟩;rename_i hw;rw [if_neg (show ¬ Region.wanted o (yielded ops (Z0C ds a).tmps)=true from hw)];rw [<- Z1V];exact Z4p rest _ w h
theorem ZhY {P:Program} {ds:List Deferred} {Q:Exit->Act->World->Prop} {ops:Array Oper} {i:Nat} {a:Act} {w} {K K':Act->World->Prop} (hK:∀ a w,K' a w->K (Z0C ds a) w) (h:wpOp P ops (Z6Y ds Q) i K' a w):wpOp P ops Q i K (Z0C ds a) w:=by
 unfold wpOp at *;cases ho:ops[i]? with
 | none=>simp only [ho] at h ⊢;exact hK _ _ h
 | some o=>
   simp only [ho] at h ⊢;split at h;rename_i hw;rw [if_pos (show Region.wanted o (yielded ops (Z0C ds a).tmps)=true from hw)];rcases h with h|⟨h1,h2⟩
   exact .inl (ZaM hK h);exact .inr ⟨ZaN h1,Z3q h2⟩;rename_i hw;rw [if_neg (show ¬ Region.wanted o (yielded ops (Z0C ds a).tmps)=true from hw)];rw [<- Z1V];exact hK _ _ h
theorem Z5A {P:Program} {ds:List Deferred} {Q:Exit->Act->World->Prop} {ops:Array Oper} {md:Region.Mode}:∀ (fuel:Nat) (listed:Array Bool) (a:Act) (w),wpAny P md ops (Z6Y ds Q) fuel listed a w->wpAny P md ops Q fuel listed (Z0C ds a) w
 | 0,_,_,_,h=>h
 | fuel+1,_,_,_,h=>⟨h.1,λi hi=>ZhY (λa w h=>Z5A fuel _ a w h) (h.2 i hi)⟩
structure WQD (ds:List Deferred) (n:Nat) (Q:Exit->Act->World->Prop) (x:Exit) (e:Env) (w):Prop where
 h:∀ a,Has n e a->Q x (Z0C ds a) w
structure WCD (ds:List Deferred) (P:Program) (n:Nat) (c:Code) (Q:Exit->Act->World->Prop) (e:Env) (w):Prop where
 h:∀ a,Has n e a->c.wp P Q (Z0C ds a) w
section rules
variable {P:Program} {n:Nat} {ds:List Deferred} {Q:Exit->Act->World->Prop} {e:Env} {w}
theorem Zqc {x:Exit} (h:WQD ds n Q x e w):WQ n (Z6Y ds Q) x e w:=⟨λa ha=>h.h a ha⟩
theorem Zln {x y:Code} (h:WCD ds P n x (Exit.then (λa w=>y.wp P Q a w) Q) e w):WCD ds P n (x.seq y) Q e w:=⟨λa ha=>wp_seq (h.h a ha)⟩
theorem ZaO {y:Code} (h:WCD ds P n y Q e w):WQD ds n (Exit.then (λa w=>y.wp P Q a w) Q) .normal e w:=⟨λa ha=>h.h a ha⟩
theorem Zlo (h:WQD ds n Q .ret e w):WCD ds P n .ret Q e w:=⟨λa ha=>wp_ret (h.h a ha)⟩
theorem HasD.ev {a:Act} (ha:Has n e a) {x:Operand} {v:Value} (hx:ev e x=some v):(Z0C ds a).eval x=v:=by rw [Z5z];exact ha.ev hx
theorem ZeW {id:Nat} {l:List Oper} (m:Nat) (S:List Nat) (Lt:List Nat) (ord:List (Nat×Nat)) (ce:l.length=m) (hm:P.follows .mixedOrders=true) (hs:Region.noSelect l.toArray=true) (hl:Nat.beq (wt ord) l.length=true)
 (hB:J5 l.toArray Lt ord (Array.replicate m false)=true)
 (h:∀ w',Stp [] w w'->WD P n l.toArray S Lt (Z6Y ds Q) ord e w'):WCD ds P n (.region id l.toArray true) Q e w:=by
 subst ce;refine ⟨λa ha=>wp_region_any hm (Z5A _ _ _ _ ?_)⟩;have h1:=(h { w with drawn:=w.drawn+1 } (Stp.drew [] w)).h _ hs hB a ha;have h2:=Z0u (Q:=Z6Y ds Q) (λa w hz=>hz) _ _ _ _ h1;rw [Xq hl] at h2;simpa using h2
end rules
abbrev FR (l:Nat):Fence:=Fence.wide.inRound l
section
variable {P:Program} {n m l:Nat} {Q Q':Exit->Act->World->Prop} {e:Env} {w:World} {ops:Array Oper}
theorem ZdM {o:Oper} {a:Act} {K K':Act->World->Prop} (d5:∀ c,o.op≠.defer c) (hQ:∀ x a w,Q x a w->Q' x a w) (hK:∀ a w,K a w->K' a w) (h:o.wp P a w K Q):o.wpIn (FR l) m P a w K' Q':=by
 unfold Oper.wp at h;refine ⟨λ_ _=>trivial,?_⟩;rw [Oper.semAt_eq _ _ _ d5];generalize (execOp a.eval o).run P w=r at *;cases r with
 | ok x w'=>
   cases x<;>simp only [Oper.upon] at h<;>simp only [Oper.uponIn]
   case value v=>exact hK _ _ h
   case skip=>exact hK _ _ h
   case defer d=>exact hK _ _ h
   case enter f args=>
    refine ⟨(λh=>by cases h),CallsIn.inRound l (callsIn_wide.2 (Calls.mono h λen w'' he=>?_))⟩;cases en with
    | returned v=>exact hK _ _ he
    | panicked c=>exact hQ _ _ _ he
    | outgrown=>
      obtain ⟨a',w3,h3⟩:=he;exact ⟨a',w3,hQ _ _ _ h3⟩
   case row row args=>
    exact ⟨(λh=>by cases h),λc cs _=>let ⟨v,w'',r,s⟩:=h c cs;⟨v,w'',hK _ _ r,stepsIn_wide.2 s⟩⟩
 | halt x w'=>
   cases x<;>simp only [Oper.upon] at h<;>simp only [Oper.uponIn];exact hQ _ _ _ h
theorem Z9l (d5:∀ (i:Nat) (o:Oper),ops[i]?=some o->∀ c,o.op≠.defer c) (hQ:∀ a w,¬ Q .outgrown a w):∀ (L:List Nat) (a:Act) (w),wpOps P ops Q L a w->wpOpsIn (FR l) m P ops Q L a w
 | [],a,w,h=>h
 | i :: rest, a, w, h => by
   unfold wpOps at h;unfold wpOpsIn;cases ho:ops[i]? with
   | none=>simp only [ho] at h ⊢;exact Z9l d5 hQ rest a w h
   | some o=>
     simp only [ho] at h ⊢;split at h;rename_i hw;rw [if_pos hw];rcases h with h|⟨_,a',w',h⟩
     exact ZdM (d5 i o ho) (λ_ _ _ h=>h) (λa w h=>Z9l d5 hQ rest a w h) h;exact absurd h (hQ a' w');rename_i hw;rw [if_neg hw];exact ⟨λ_ _=>trivial,Z9l d5 hQ rest _ w h⟩
def ZhZ (L:List Oper):Bool:=L.all λo=>match o.op with|.defer _=>false|_=>true
theorem Z6Z {L:List Oper} (h:ZhZ L=true):∀ (i:Nat) (o:Oper),L.toArray[i]?=some o->∀ c,o.op≠.defer c:=by
 intro i o ho c hc;have hm:o∈L:=by
  have:L[i]?=some o:=by simpa using ho
  exact List.mem_of_getElem? this
 have:=XQ.1 h o hm;rw [hc] at this;cases this
theorem Z9m {md:Region.Mode} {S:List Nat} {Lt:Nat->Bool} {Z:Act->World->Prop} (d5:∀ (i:Nat) (o:Oper),ops[i]?=some o->∀ c,o.op≠.defer c) (hZ:∀ a w,Z a w->Q .normal a w):∀ (fuel:Nat) (listed:Array Bool) (a:Act) (w),
 Z8Q P md ops S Lt Z fuel listed a w->wpAnyIn (FR l) m P md ops Q fuel listed a w
 | 0,_,_,_,h=>⟨h.1,hZ _ _ h.2⟩
 | fuel + 1, listed, a, w, h => ⟨λh0 => hZ _ _ (h.1 h0), λi hi => by
   have h1:=h.2 i hi;unfold wpOp at h1;unfold wpOpIn;cases ho:ops[i]? with
   | none=>simp only [ho] at h1 ⊢;exact Z9m d5 hZ fuel _ a w h1.2
   | some o=>
     simp only [ho] at h1 ⊢;split at h1;rename_i hw;rw [if_pos hw];rcases h1 with h1|⟨_,_,_,hf⟩
     exact ZdM (d5 i o ho) (λ_ _ _ h=>h.elim) (λa w h=>Z9m d5 hZ fuel _ a w h.2) h1;exact hf.elim;rename_i hw;rw [if_neg hw];exact ⟨λ_ _=>trivial,Z9m d5 hZ fuel _ _ w h1.2⟩⟩
structure WCR (l m:Nat) (P:Program) (n:Nat) (c:Code) (Q:Exit->Act->World->Prop) (e:Env) (w:World):Prop where
 h:∀ a,Has n e a->c.wpIn (FR l) m P Q a w
variable {x y:Code}
theorem JD (h:WCR l m P n x (Exit.then (λa w=>y.wpIn (FR l) m P Q a w) Q) e w):WCR l m P n (x.seq y) Q e w:=⟨λa ha=>wpIn_seq (h.h a ha)⟩
theorem Jd (h:WCR l m P n y Q e w):WQ n (Exit.then (λa w=>y.wpIn (FR l) m P Q a w) Q) .normal e w:=⟨λa ha=>h.h a ha⟩
theorem Je (h:WQ n Q .normal e w):WCR l m P n .skip Q e w:=⟨λa ha=>wpIn_skip (h.h a ha)⟩
theorem Jf {i:Nat} (h:WQ n Q (.exit i) e w):WCR l m P n (.exit i) Q e w:=⟨λa ha=>wpIn_exit (h.h a ha)⟩
theorem ZU {i:Nat} {c:Code} (h:WCR l m P n c (Exit.inBlock i Q) e w):WCR l m P n (.block i c) Q e w:=⟨λa ha=>wpIn_block (h.h a ha)⟩
theorem J9 {c:Operand} (hc:ev e c=some (.B true)) (h:WCR l m P n x Q e w):WCR l m P n (.cond c x y) Q e w:=⟨λa ha=>wpIn_cond_true (ha.ev hc) (h.h a ha)⟩
theorem ZP {c:Operand} (hc:ev e c=some (.B false)) (h:WCR l m P n y Q e w):WCR l m P n (.cond c x y) Q e w:=⟨λa ha=>wpIn_cond_false (ha.ev hc) (h.h a ha)⟩
theorem Z3r {c:Operand} {p:Prop} [Decidable p] (hc:ev e c=some (.B (decide p))) (ht:p->WCR l m P n x Q e w) (hf:¬ p->WCR l m P n y Q e w):WCR l m P n (.cond c x y) Q e w:=by
 by_cases h:p;rw [decide_eq_true h] at hc;exact J9 hc (ht h);rw [decide_eq_false h] at hc;exact ZP hc (hf h)
theorem ZF {id:Nat} {L:List Oper} (hd:ZhZ L=true) (hQ:∀ a w,¬ Q .outgrown a w) (h:WL P n L.toArray Q L e w):WCR l m P n (.region id L.toArray false) Q e w:=
 ⟨λa ha => wpIn_region (by
   have h1:=h.h a ha;rw [List.range_eq_range',<- Yab];exact Z9l (Z6Z hd) hQ _ _ _ (by rw [wpOps_eq_wpList L.toArray.toList 0 (by simp)];simpa using h1))⟩
theorem Z8e {id:Nat} {L:List Oper} (k:Nat) (S:List Nat) (Lt:List Nat) (ord:List (Nat×Nat)) (ce:L.length=k) (hm:P.follows .mixedOrders=true) (hs:Region.noSelect L.toArray=true) (hl:Nat.beq (wt ord) L.length=true)
 (hB:J5 L.toArray Lt ord (Array.replicate k false)=true) (hd:ZhZ L=true)
 (h:∀ w',Stp [] w w'->WD P n L.toArray S Lt Q ord e w'):WCR l m P n (.region id L.toArray true) Q e w:=by
 subst ce;refine ⟨λa ha=>wpIn_region_any hm ?_⟩;have h1:=(h { w with drawn:=w.drawn+1 } (Stp.drew [] w)).h _ hs hB a ha;have h2:=Z9m (l:=l) (m:=m) (Q:=Q) (Z6Z hd) (λa w hz=>hz) _ _ _ _ h1;rw [Xq hl] at h2;simpa using h2
theorem Zi0 {σ:Type} (env:σ->Env) (I:σ->World->Prop)
 (h:WCR l m P n x (Exit.then (λa w=>∃ s,Has n (env s) a/\I s w) Q) e w) (k:∀ s w,I s w->WCR l m P n y Q (env s) w):WCR l m P n x (Exit.then (λa w=>y.wpIn (FR l) m P Q a w) Q) e w:=
 ⟨λa ha => wpIn_mono (h.h a ha) (λex a w hq => by
   cases ex with
   | normal=>obtain ⟨s,h1,h2⟩:=hq;exact (k s w h2).h a h1
   | _=>exact hq)⟩
end
theorem Z1W (W:World) (b:Nat) (o:Obj):Stp [b] W (W.putObj b o):=⟨rfl,rfl,rfl,by simp,λk hk hn=>World.putObj_heap_other (by simpa using hn)⟩
def ZdN {α:Type} (P:Program) (f:Nat) (cap:Array Value) (encs:α->Value) (L:List α) (l:Nat) (F:List Nat) (W:World):Prop:=
 ∀ (J : List α -> List Nat -> World -> Prop), (∀ pre F W, J pre F W -> ∀ b ∈ F, b < W.heap.size) -> (∀ pre F W W', J pre F W -> Stp [] W W' -> J pre F W')->
   (∀ pre x F W,J pre F W->pre++[x] <+: L->YieldAt Fence.wide 4 P l #[encs x] W λen W'=>en=.returned (.B true)/\∃ F',J (pre++[x]) F' W'/\Stp F W W'/\∀ b∈F',b∈F\/W.heap.size<=b)->
   J [] F W->Calls P f (#[.func (.yield l) #[] #[]]++cap) W (Ret λ_ W'=>∃ F',J L F' W'/\Stp F W W'/\∀ b∈F',b∈F\/W.heap.size<=b)
section
variable {P:Program} {n:Nat} {Q:Exit->Act->World->Prop} {e:Env} {w:World}
theorem Zi1 {α:Type} {f p:Nat} {fn:Func} {cap:Array Value} {g:Operand} {assign body:Code} [hf:Fun P f fn] {E:α->Nat->Env} {T:Nat} {cs:α->List Value} (encs:α->Value) (hg:ev e g=some (.func (.func f) #[] cap)) (hp:Nat.blt p n=true)
 (L:List α) (I:List α->List Nat->World->Prop) (F0:List Nat) (hlt:∀ pre F W,I pre F W->∀ b∈F,b<W.heap.size)
 (hI:∀ pre F W W' S,I pre F W->Stp S W W'->(∀ b∈S,w.heap.size<=b/\b∉F)->I pre F W') (h0:I [] F0 w)
 (jN:∀ (l:Nat) (W:World),Stp [] w W->w.heap.size<=l->l<W.heap.size->ZdN P f cap encs L l (l :: F0) W)
 (hassign:∀ (l:Nat) (x:α) (W:World) (Z:Exit->Act->World->Prop),(∀ a w,¬ Z .outgrown a w)->(∀ b W1,W.heap.size<=b->Blk W1 b T (cs x)->Stp [] W W1->WQ n Z .normal (E x b) W1)->WCR l 4 P n assign Z ((p,encs x) :: e) W)
 (hbody : ∀ (l : Nat) (pre : List α) (x : α) (b : Nat) (F : List Nat) (W : World) (Z : Exit -> Act -> World -> Prop), I pre F W -> pre ++ [x] <+: L -> Blk W b T (cs x) -> b ∉ F -> w.heap.size <= b -> (∀ a w, ¬ Z .outgrown a w)->
   (∀ a F' W',I (pre++[x]) F' W'->Stp F W W'->(∀ b∈F',b∈F\/W.heap.size<=b)->Z .normal a W')->WCR l 4 P n body Z (E x b) W)
 (hdone:∀ (D:Nat) (F:List Nat) (W:World),I L F W->w.heap.size<=D->D∉F->W.heap[D]?=some (.deferred (some []))->(∀ b∈F,b∈F0\/w.heap.size<=b)->Stp F0 w W->WQD [{ target:=.collected D,args:=#[] }] n Q .normal e W) :
 WC P n (.rangeFunc g #[p] assign body) Q e w:=by
 refine ⟨λa ha=>(wpIn_wide (n:=5)).1 (wpIn_rangeFunc ?_)⟩;intro fnid _;obtain ⟨rec,bC⟩:∃ rec:LoopState->Option Code->Loop,rec=λst pe=>{ state:=st,pending:=pe,fn:=fnid,tmps:=a.tmps,params:=#[p],assign,body,defers:=w.heap.size }:=⟨_,rfl⟩
 obtain ⟨W1,eR⟩:∃ W1,(w.alloc (.deferred (some []))).alloc (.loop (rec .ready none))=W1:=⟨_,rfl⟩
 have fX:W1.heap[w.heap.size+1]?=some (.loop (rec .ready none)):=by
  rw [<- eR];have:=World.alloc_heap_new (w.alloc (.deferred (some []))) (.loop (rec .ready none));rwa [World.size_alloc] at this
 have bA:Stp [] w (w.alloc (.deferred (some []))):=Stp.alloc [] _ _;have mh:Stp [] (w.alloc (.deferred (some []))) W1:=by rw [<- eR];exact Stp.alloc [] _ _
 have o8:W1.heap[w.heap.size]?=some (.deferred (some [])):=by
  rw [mh.block w.heap.size (by simp) (by simp)];exact World.alloc_heap_new w _
 have ae:Stp [] w W1:=bA.trans mh;have rB:=hlt _ _ _ h0
 refine ⟨w.heap.size+1,[{ target:=.collected w.heap.size,args:=#[] }],W1,{ target:=.fn (.func f) cap,args:=#[.func (.yield (w.heap.size+1)) #[] #[]] },W1,f,
  #[.func (.yield (w.heap.size+1)) #[] #[]]++cap,W1,?_,?_,?_,?_,λh=>(by cases h),?_⟩
 rw [<- eR,bC];exact run_enterLoop_outer _ _ _ _ _;simp only [resolve,ha.ev hg];simp [go_sem];intro f' mi;trivial;have eg:=hf.enters;simp [invoke,go_sem];exact eg _ _;generalize hl:w.heap.size+1=l at *
 have dY:=jN l W1 ae (by omega) (Xo.1 fX).1 (λpre F W=>∃ G,F=l :: G/\I pre G W/\W.heap[l]?=some (.loop (rec .ready none))/\W.heap[w.heap.size]?=some (.deferred (some []))/\l∉G/\w.heap.size∉G)
  (by
    rintro pre F W ⟨G,rfl,hi,h1,h2,h3,h4⟩ b hb;rcases Xc.1 hb with rfl|hb
    exact (Xo.1 h1).1;exact hlt _ _ _ hi b hb)
  (by
    rintro pre F W W' ⟨G,rfl,hi,h1,h2,h3,h4⟩ hS;exact ⟨G,rfl,hI _ _ _ _ _ hi hS (by simp),(hS.block l (Xo.1 h1).1 (by simp)).trans h1,(hS.block _ (Xo.1 h2).1 (by simp)).trans h2,h3,h4⟩)
  (by
    rintro pre x F W ⟨G,rfl,hi,h1,h2,h3,h4⟩ cH;have mj:l<W.heap.size:=(Xo.1 h1).1;have o9:w.heap.size<W.heap.size:=(Xo.1 h2).1;have hG:=hlt _ _ _ hi;have hy:=run_yield (P:=P) (args:=#[encs x]) h1 (by rw [bC];rfl);rw [bC] at hy;refine ⟨fnid,_,assign,body,hy,roundIn_of_wpIn trivial ((hassign l x W _ (λ_ _ h=>h) ?_).h _ ?_)⟩;intro b Wa hb hk ml;have ub:=(ml.block l mj (by simp)).trans h1;have uc:=(ml.block _ o9 (by simp)).trans h2;have wY:=ml.size;refine ⟨λa1 pb=>⟨_,run_beginRound ub (by rw [bC]),?_⟩⟩;have iG:=Z1W Wa l (.loop { rec .ready none with state:=.busy });have ud:=hI _ _ _ _ _ hi ml (by simp);have kX:=hI _ _ _ _ _ ud iG (by intro b hb;simp at hb;subst hb;exact ⟨by omega,h3⟩);have ue:(Wa.putObj l (.loop { rec .ready none with state:=.busy })).heap[l]?=some (.loop { rec .ready none with state:=.busy }):=World.putObj_heap_same (by omega);have uf:=(iG.block w.heap.size (by omega) (by simp;omega)).trans uc;have mm:=hk.ext iG (by simp;omega);have wZ:=iG.size;refine (hbody l pre x b G _ _ kX cH mm (λh=>by have:=hG b h;omega) (by omega) (λ_ _ h=>h) ?_).h a1 pb;intro a2 G' W' ca be kY;have ug:=(be.block l (by omega) h3).trans ue;have uh:=(be.block w.heap.size (by omega) h4).trans uf;have xa:=be.size;have ui:=run_endRound (P:=P) none ug;have kZ:=Z1W W' l (.loop (rec .ready none));have mo:l∉G':=λh=>by
     rcases kY l h with h|h
     exact h3 h;omega
    refine ⟨_,_,ui,rfl,l :: G',⟨G',rfl,?_,?_,?_,mo,λh=>?_⟩,?_,λb hb=>?_⟩;have:=hI _ _ _ _ _ ca kZ (by intro b hb;simp at hb;subst hb;exact ⟨by omega,mo⟩);rw [bC] at this ⊢;exact this;rw [bC];exact World.putObj_heap_same (by omega);rw [bC];exact (World.putObj_heap_other (by omega)).trans uh;rcases kY _ h with h|h
    exact h4 h;omega;rw [bC] at kZ be ⊢;exact ((((ml.mono (S':=l :: G) (by simp)).trans ((by rw [bC] at iG;exact iG:Stp [l] _ _).mn)).trans (be.mono (λb hb=>by simp [hb]))).trans kZ.mn);rcases Xc.1 hb with rfl|hb
    exact .inl (by simp);rcases kY b hb with h|h
    exact .inl (by simp [h]);exact .inr (by omega);have:=ha.put (v:=encs x) hp;have e2:(a.put (some p) (encs x))={ tmps:=((#[p]:Array Nat).zip #[encs x]).foldl (λt (p,v)=>t.setIfInBounds p v) a.tmps,defers:=[] }:=by
     simp [Act.put,ha.defers]
    rw [e2] at this;exact this)
  ⟨F0,rfl,hI _ _ _ _ _ h0 ae (by simp),fX,o8,λh=>by have:=rB l h;omega,λh=>by have:=rB _ h;omega⟩
 refine (callsIn_wide (n:=4)).2 (dY.mono ?_);rintro _ W2 ⟨v,rfl,F',⟨G,rfl,hi,h1,h2,h3,h4⟩,aj,uj⟩;have pd:=aj.size;have la:=ae.size;have mj:l<W2.heap.size:=(Xo.1 h1).1;refine ⟨none,_,by have:=run_endLoop (P:=P) h1 (by rw [bC];simp);rw [bC] at this;exact this,?_⟩;have hp:=Z1W W2 l (.loop { rec .ready none with state:=.exhausted });rw [bC] at hp;have hd:=hdone w.heap.size G _ (hI _ _ _ _ _ hi hp (by intro b hb;simp at hb;subst hb;exact ⟨by omega,h3⟩)) (Xl _) h4 ((hp.block w.heap.size (by omega) (by simp;omega)).trans h2) (λb hb=>by
  rcases uj b (by simp [hb]) with h|h
  rcases Xc.1 h with rfl|h
  exact .inr (by omega);exact .inl h;exact .inr (by omega))
  ((((ae.mono (S' := F0) (by simp)).own aj (λb hb => by
    rcases Xc.1 hb with rfl|hb
    exact .inr (by omega);exact .inl hb))).own hp (λb hb=>by simp at hb;subst hb;exact .inr (by omega)))
 have:=hd.h a ha;unfold Z0C at this;rw [ha.defers,XO] at this;rw [ha.defers,Xz];exact this
end
section
variable {P:Program} {ops:Array Oper} {md:Region.Mode} {S:List Nat} {Lt:Nat->Bool} {kk:Nat}
theorem ZcA {o:Oper} {a:Act} {w} {K K':Act->World->Prop} {Q:Exit->Act->World->Prop} (hK:∀ a w,K a w->K' a w) (h:o.wpIn Fence.wide kk P a w K (λ_ _ _=>False)):o.wpIn Fence.wide kk P a w K' Q:=by
 unfold Oper.wpIn at *;refine ⟨h.1,?_⟩;replace h:=h.2;generalize (o.semAt Fence.wide.round a.eval).run P w=r at *;cases r with
 | ok x w'=>
   cases x<;>simp only [Oper.uponIn] at h ⊢
   case value v=>exact hK _ _ h
   case skip=>exact hK _ _ h
   case defer d=>exact hK _ _ h
   case enter f args=>
    exact ⟨h.1,CallsIn.mono h.2 λe w'' he=>by
     cases e with
     | returned v=>exact hK _ _ he
     | panicked c=>exact he.elim
     | outgrown=>obtain ⟨_,_,hf⟩:=he;exact hf.elim⟩
   case row row args=>exact ⟨h.1,RowsIn.mono h.2 λu w'' he=>hK _ _ he⟩
   case round l f tmps assign body=>
    exact ⟨h.1,RoundIn.mono h.2 λe w'' he=>by
     cases e with
     | returned v=>exact hK _ _ he
     | panicked c=>exact he.elim
     | outgrown=>obtain ⟨_,_,hf⟩:=he;exact hf.elim⟩
 | halt x w'=>cases x<;>simp only [Oper.uponIn] at h ⊢
def Z2O (kk:Nat) (P:Program) (md:Region.Mode) (ops:Array Oper) (S:List Nat) (Lt:Nat->Bool) (Z:Act->World->Prop):Nat->Array Bool->Act->World->Prop
 | 0,listed,a,w=>Region.ready md ops listed=[]/\Z a w
 | fuel + 1, listed, a, w=>
   (Region.ready md ops listed=[]->Z a w)/\
   ∀ i∈Region.ready md ops listed,wpOpIn Fence.wide kk P ops (λ_ _ _=>False) i (λa' w'=>(Stp S w w'\/Lt i=true)/\Z2O kk P md ops S Lt Z fuel (listed.setIfInBounds i true) a' w') a w
theorem Z1u {Z:Act->World->Prop} {Q:Exit->Act->World->Prop} (hZ:∀ a w,Z a w->Q .normal a w):∀ (fuel:Nat) (listed:Array Bool) (a:Act) (w),
 Z2O kk P md ops S Lt Z fuel listed a w->wpAnyIn Fence.wide kk P md ops Q fuel listed a w
 | 0,_,_,_,h=>⟨h.1,hZ _ _ h.2⟩
 | fuel + 1, listed, a, w, h => ⟨λh0 => hZ _ _ (h.1 h0), λi hi => by
   have h1:=h.2 i hi;unfold wpOpIn at h1 ⊢;cases ho:ops[i]? with
   | none=>simp only [ho] at h1 ⊢;exact Z1u hZ fuel _ a w h1.2
   | some o=>
     simp only [ho] at h1 ⊢;split at h1;rename_i hw;rw [if_pos hw];exact ZcA (λa w h=>Z1u hZ fuel _ a w h.2) h1;rename_i hw;rw [if_neg hw];exact ⟨λ_ _=>trivial,Z1u hZ fuel _ _ w h1.2.2⟩⟩
theorem ZdO {Z:Act->World->Prop} {R:World->World->Prop} (eH:∀ w,R w w) (og:∀ a b c,R a b->R b c->R a c) {i:Nat} {oi:Oper} {v:Value} (hi:ops[i]?=some oi)
 (oh:∀ j oj,ops[j]?=some oj->(∀ e∈oj.after,Region.binds md e=true->e.on≠i)->j≠i->∀ w w',(Stp S w w'\/Lt j=true)->R w w')
 (gg:∀ (j:Nat) (o:Oper) cs b,ops[j]?=some o->o.op≠.select cs b) :
 ∀ (fuel : Nat) (listed : Array Bool) (a : Act) (w),
   (∀ j oj,ops[j]?=some oj->j≠i->listed.getD j true=false->(∀ e∈oj.after,Region.binds md e=true->e.on≠i)->oi.apart ops oj=true)->
   (Stp S w w\/Lt i=true->True)->i∈Region.ready md ops listed->YE P ops R oi v a w->
   Z2O kk P md ops S Lt Z fuel (listed.setIfInBounds i true) (a.put oi.dst v) w->Z2O kk P md ops S Lt Z (fuel+1) listed a w:=by
 have now:∀ (fuel:Nat) (listed:Array Bool) (a:Act) (w:World),YE P ops R oi v a w->Z2O kk P md ops S Lt Z fuel (listed.setIfInBounds i true) (a.put oi.dst v) w->
  wpOpIn Fence.wide kk P ops (λ_ _ _=>False) i (λa' w'=>(Stp S w w'\/Lt i=true)/\Z2O kk P md ops S Lt Z fuel (listed.setIfInBounds i true) a' w') a w:=by
  intro fuel listed a w hy H;unfold wpOpIn;simp only [hi];rcases hy with ⟨hw,hv⟩|⟨hw,rfl⟩
  simp only [hw,if_true];refine ⟨λ_ _=>trivial,?_⟩;rw [show Fence.wide.round=none from rfl,Oper.semAt_none,hv w (eH w)];exact ⟨.inl (Stp.refl _ _),H⟩;simp only [hw,YaB,if_false];exact ⟨λ_ _=>trivial,.inl (Stp.refl _ _),H⟩
 intro fuel
 induction fuel with
 | zero=>
   intro listed a w _ _ hr hy H;refine ⟨λh=>(by rw [h] at hr;cases hr),λj hj=>?_⟩;by_cases cM:j=i;subst cM;exact now _ _ _ _ hy H;have:=ready_mono hj cM;rw [H.1] at this;cases this
 | succ fuel ih=>
   intro listed a w dZ hx hr hy H;refine ⟨λh=>(by rw [h] at hr;cases hr),λj hj=>?_⟩;by_cases cM:j=i;subst cM;exact now _ _ _ _ hy H;have h1:=H.2 j (ready_mono hj cM);obtain ⟨gh,oj,iv,aP⟩:=mem_ready.1 hj;have gi:∀ e∈oj.after,Region.binds md e=true->e.on≠i:=λe he hb jD=>by
    have h1:=aP e he hb;have h0:=(mem_ready.1 hr).1;rw [jD] at h1;rcases Ybp i listed.size with h'|h'
    simp [h'] at h0 h1;rw [h0] at h1;cases h1;simp [Ya3 h'] at h1
   have hap:=dZ j oj iv cM gh gi;obtain ⟨p1,p2,p3⟩:=Oper.apart_spec hap;have keep:∀ (a:Act),YE P ops R oi v a w->∀ u,YE P ops R oi v (a.put oj.dst u) w:=λa hy u=>
    hy.same (execOp_put oi (λcs b=>gg i oi cs b hi) a oj.dst u p3) (wanted_put oi a oj.dst u p3)
   have keepD:∀ (a:Act) d,YE P ops R oi v a w->YE P ops R oi v { a with defers:=d :: a.defers } w:=λa d hy=>hy.same rfl rfl;have later:∀ (a:Act) w',(Stp S w w'\/Lt j=true)->YE P ops R oi v a w->YE P ops R oi v a w':=λa w' hs hy=>by
    rcases hy with ⟨hw,hv⟩|hw
    exact .inl ⟨hw,λw'' h''=>hv w'' (og _ _ _ (oh j oj iv gi cM w w' hs) h'')⟩;exact .inr hw
   have eI:∀ k ok,ops[k]?=some ok->k≠i->(listed.setIfInBounds j true).getD k true=false->
    (∀ e∈ok.after,Region.binds md e=true->e.on≠i)->oi.apart ops ok=true:=λk ok hk jE lB bg=>by
    refine dZ k ok hk jE ?_ bg;by_cases gV:j=k;subst gV;exact gh;rw [getD_set_ne true gV] at lB;exact lB
   have fin:∀ a' w',YE P ops R oi v a' w->(Stp S w w'\/Lt j=true)/\Z2O kk P md ops S Lt Z fuel ((listed.setIfInBounds i true).setIfInBounds j true) (a'.put oi.dst v) w'->
    (Stp S w w'\/Lt j=true)/\Z2O kk P md ops S Lt Z (fuel+1) (listed.setIfInBounds j true) a' w':=by
    rintro a' w' iw ⟨hs,hk⟩;refine ⟨hs,ih _ a' w' eI (λ_=>trivial) (ready_mono hr (Ne.symm cM)) (later a' w' hs iw) ?_⟩;rw [Array.setIfInBounds_comm _ _ cM];exact hk
   have ol:∀ cs b,oj.op≠.select cs b:=λcs b=>gg j oj cs b iv;unfold wpOpIn at *;simp only [iv] at *;rw [wanted_put oj a oi.dst v p1] at h1;split
   . rename_i hw
     simp only [hw,if_true] at h1;refine ⟨λ_ _=>trivial,?_⟩;replace h1:=h1.2;rw [show Fence.wide.round=none from rfl,Oper.semAt_none] at h1 ⊢;rw [execOp_put oj ol a oi.dst v p1] at h1;generalize (execOp a.eval oj).run P w=r at *;cases r with
     | ok n w'=>
       cases n<;>simp only [Oper.uponIn] at h1 ⊢
       case value u=>exact fin _ _ (keep a hy u) (by rw [<- Act.put_comm a v u p2];exact h1)
       case skip=>exact fin _ _ (keep a hy _) (by rw [<- Act.put_comm a v undef p2];exact h1)
       case defer d=>
        refine fin _ _ (keep _ (keepD a d hy) _) ?_;rw [<- Act.put_comm _ v undef p2,<- Act.put_defers];exact h1
       case enter f args=>
        refine ⟨h1.1,CallsIn.mono h1.2 λe w'' he=>?_⟩;cases e with
        | returned u=>exact fin _ _ (keep a hy u) (by rw [<- Act.put_comm a v u p2];exact he)
        | panicked c=>exact he
        | outgrown=>exact he
       case row row args=>exact ⟨h1.1,RowsIn.mono h1.2 λu w'' he=>fin _ _ (keep a hy u) (by rw [<- Act.put_comm a v u p2];exact he)⟩
       case round l f tmps assign body=>
        refine ⟨h1.1,RoundIn.mono h1.2 λe w'' he=>?_⟩;cases e with
        | returned u=>exact fin _ _ (keep a hy u) (by rw [<- Act.put_comm a v u p2];exact he)
        | panicked c=>exact he
        | outgrown=>exact he
     | halt x w'=>
       cases x<;>simp only [Oper.uponIn] at h1
   rename_i hw;simp only [hw] at h1;exact ⟨λ_ _=>trivial,fin _ _ (keep a hy _) (by rw [<- Act.put_comm a v undef p2];exact h1.2)⟩
end
structure WDI (kk:Nat) (P:Program) (n:Nat) (ops:Array Oper) (S:List Nat) (Q:Exit->Act->World->Prop) (ord:List (Nat×Nat)) (e:Env) (w:World):Prop where
 h:∀ listed:Array Bool,Region.noSelect ops=true->J5 ops [] ord listed=true->∀ a,Has n e a->Z2O kk P .any ops S (λj=>([]:List Nat).contains j) (λa w=>Q .normal a w) (wt ord) listed a w
section
variable {P:Program} {n kk:Nat} {Q:Exit->Act->World->Prop} {e:Env} {w:World} {ops:Array Oper} {S:List Nat} {rest:List (Nat×Nat)}
variable {i d:Nat} {op:Op} {ty:TypeId} {pos:String} {af:Array Edge} {v:Value}
theorem ZeX {id:Nat} {L:List Oper} (kk:Nat) (m:Nat) (S:List Nat) (ord:List (Nat×Nat)) (ce:L.length=m) (hm:P.follows .mixedOrders=true) (hs:Region.noSelect L.toArray=true) (hl:Nat.beq (wt ord) L.length=true)
 (hB:J5 L.toArray [] ord (Array.replicate m false)=true)
 (h:∀ w',Stp [] w w'->WDI kk P n L.toArray S Q ord e w'):WC P n (.region id L.toArray true) Q e w:=by
 subst ce;refine ⟨λa ha=>(wpIn_wide (n:=kk)).1 (wpIn_region_any hm ?_)⟩;have h1:=(h { w with drawn:=w.drawn+1 } (Stp.drew [] w)).h _ hs hB a ha;have h2:=Z1u (Q:=Q) (λa w hz=>hz) _ _ _ _ h1;rw [Xq hl] at h2;simpa using h2
theorem Zlp (h:WQ n Q .normal e w):WDI kk P n ops S Q [] e w:=
 ⟨λ_ _ hB a ha=>⟨by simpa [J5,ZN] using hB,h.h a ha⟩⟩
theorem Z0f (hi:ops[i]?=some ⟨some d,op,ty,pos,af,none⟩) (hp:∀ w',PR P n ⟨some d,op,ty,pos,af,none⟩ e w' v) (aB:Nat.blt d n=true)
 (k:WDI kk P n ops S Q rest ((d,v) :: e) w):WDI kk P n ops S Q ((i,0) :: rest) e w:=by
 refine ⟨λlisted hs hB a ha=>?_⟩;simp only [J5,ZN,Xf] at hB;obtain ⟨⟨h1,h2⟩,h3⟩:=hB;have hk:=k.h _ hs h3 _ (ha.put (v:=v) aB);rw [Z0n (by decide)];exact ZdO (R:=λ_ _=>True) (λ_=>trivial) (λ_ _ _ _ _=>trivial) hi (λ_ _ _ _ _ _ _ _=>trivial) (Region.noSelect_spec hs) _ _ _ _ (Region.free_spec hi h2) (λ_=>trivial) (by simpa using h1) (.inl ⟨Z01 (e:=e) (n:=n) ha trivial,λw' _=>(hp w').h a ha⟩) hk
theorem ZaP (hi:ops[i]?=some ⟨some d,op,ty,pos,af,none⟩) (hp:∀ w',Stp S w w'->PR P n ⟨some d,op,ty,pos,af,none⟩ e w' v) (aB:Nat.blt d n=true)
 (k:WDI kk P n ops S Q rest ((d,v) :: e) w):WDI kk P n ops S Q ((i,1) :: rest) e w:=by
 refine ⟨λlisted hs hB a ha=>?_⟩;simp only [J5,ZN,Xf] at hB;obtain ⟨⟨⟨h1,h2⟩,hb⟩,h3⟩:=hB;have hk:=k.h _ hs h3 _ (ha.put (v:=v) aB);rw [Z0n (by decide)];refine ZdO (R:=Stp S) (λw=>Stp.refl _ w) (λ_ _ _ h k=>h.trans k) hi (λj oj hj hn cM w w' hs=>?_) (Region.noSelect_spec hs) _ _ _ _ (Region.free_spec hi h2) (λ_=>trivial) (by simpa using h1) (.inl ⟨Z01 (e:=e) (n:=n) ha trivial,λw' hw=>(hp w' hw).h a ha⟩) hk;rcases hs with hs|hs
 exact hs;cases hs
theorem ZeY {l:Nat} {x c:Operand} {ts:Array TypeId} {u r:Value} {G:World->Prop} (hi:ops[i]?=some ⟨some d,.call { callee:=.value c,args:=#[x],argTypes:=ts },ty,pos,af,none⟩) (hc:ev e c=some (.func (.yield l) #[] #[])) (hx:ev e x=some u)
 (hY:YieldAt Fence.wide (kk - 1) P l #[u] w (λen W'=>en=.returned r/\G W')) (hS:∀ W',G W'->Stp S w W') (aB:Nat.blt d n=true)
 (k:∀ W',G W'->WDI kk P n ops S Q rest ((d,r) :: e) W'):WDI kk P n ops S Q ((i,2) :: rest) e w:=by
 refine ⟨λlisted hs hB a ha=>?_⟩;simp only [J5,ZN] at hB;rw [if_neg (by simp)] at hB;simp only [Xf,beq_iff_eq] at hB;obtain ⟨h1,h3⟩:=hB;rw [Z0n (by decide)];refine ⟨λh0=>absurd (h1 ▸ h0) (by simp),λj hj=>?_⟩;rw [h1] at hj;obtain rfl:j=i:=by simpa using hj
 obtain ⟨fn,tmps,assign,body,hy,hR⟩:=hY;unfold wpOpIn;simp only [hi];rw [if_pos (show Region.wanted (⟨some d,.call { callee:=.value c,args:=#[x],argTypes:=ts },ty,pos,af,none⟩:Oper) _=true from rfl)];refine ⟨λ_ _=>trivial,?_⟩;have he:(execOp a.eval ⟨some d,.call { callee:=.value c,args:=#[x],argTypes:=ts },ty,pos,af,none⟩).run P w=.ok (.round l fn tmps assign body) w:=by
  simp only [execOp,resolve,ha.ev hc,Deferred.ofValue];simp [invoke,ha.ev hx,hy]
 rw [show Fence.wide.round=none from rfl,Oper.semAt_none,he];refine ⟨λh=>(by cases h),RoundIn.mono hR ?_⟩;rintro en W' ⟨rfl,hG⟩;exact ⟨.inl (hS W' hG),(k W' hG).h _ hs h3 _ (ha.put aB)⟩
end
end Go.Eng
