/-
Contracts and plain laws, merged out of own texts.
-/
import Derived.Test.YteibicnbkggiiaaGreatDoorQ4
import Derived.RangeFuncBox
import Derived.RangeFuncLeaves
import Derived.RangeFuncNested
import Derived.RangeFuncBound
import Derived.RangeFuncCalls
import Derived.Shelf.Abstract
import Derived.Shelf.RegionOpen
import Derived.BigRegionIn
import Derived.WalkKit
import Derived.OwnWalkIn
import Derived.TacticsInMore
import Derived.LoopNIn
import Derived.LoopIn
import Derived.ChangeKeysEq
set_option linter.unusedVariables false
set_option linter.unusedSimpArgs false
set_option maxHeartbeats 4000000
set_option maxRecDepth 20000
namespace Go.Proofs.YteibicnbkggiiaaGreatDoor
open Go Go.Eng Go.RowKit
theorem ZcT (g:Nat) (fn:Func) [Fun Tryz.prog g fn] (lb:Array Value) (c:Spn->Spn->Int) (ho:Ord c) (X:List Nat) (base:Nat) (v:Value) (xs:List Spn) (w:World) (hX:∀ b∈X,b<base) (aT:base<=w.heap.size) (ac:Row X w base 375 v xs) (hp:Zm2 Tryz.prog (ob v) g lb c w) (ai:xs.length<=1000) :
 CC 369 #[v,.I 0,.I xs.length,.func (.func g) #[] lb] w λr w'=>∃ ys,Z8u c xs ys/\Row X w' base 375 v ys/\Stp (ob v) w w':=by
 refine cW4 53 Tryz.func369 ?_;refine W ?_
 refine Zt (σ:=Nat) (λi=>[(0,v),(1,.I 0),(2,.I xs.length),(3,.func (.func g) #[] lb),(8,.I (i+1))])
  (λi w'=>Stp (ob v) w w'/\∃ ys,ys.Perm xs/\Row X w' base 375 v ys/\(ys.take (i+1)).Pairwise (λa b=>¬ c b a<0)) (λi=>xs.length - i) 0 ⟨rfl,rfl,rfl,rfl,rfl,trivial⟩
  ⟨Stp.refl _ _,xs,Yaz _,ac,?_⟩ ?_
 . cases xs with
   | nil=>simp
   | cons x r=>simp
 rintro i w1 ⟨hS,ys,gN,ac,jm⟩;have dH:=gN.length_eq;by_cases dx:i+1<xs.length
 . repeat'(first|refine W1 ?_|refine VG ?_ ?_<;>intro hg|refine VC ?_ ?_<;>intro hc)
   rotate_left
   omega;obtain ⟨pre,x,rest,fu,rfl⟩:∃ pre x rest,pre.length=i+1/\ys=put pre rest x pre.length:=by
    refine ⟨ys.take (i+1),ys[i+1],ys.drop (i+2),by simp;omega,?_⟩;unfold put;have hl:(ys.take (i+1)).length=i+1:=by simp;omega
    rw [hl,YaU,Nat.min_self,Ya8 (by omega)]
    conv=>lhs;rw [<- XN (i+1) ys,Yat (by omega)]
    simp
   have bQ:pre.Pairwise (λa b=>¬ c b a<0):=by
    have:(put pre rest x pre.length).take (i+1)=pre:=by
     unfold put;rw [Xs,Ybi,XI,<- fu,YbZ];rfl
    rwa [this] at jm
   have uj:pre.length+1+rest.length=xs.length:=by rw [<- dH,Z9D]
   have fin:∀ j (w':World),j<=pre.length->Stp (ob v) w w'->Row X w' base 375 v (put pre rest x j)->(∀ q (h:q<pre.length),j<=q->c x pre[q]<0)->(∀ h:j - 1<pre.length,0<j->¬ c x pre[j - 1]<0)->
    Stp (ob v) w w'/\∃ ys,ys.Perm xs/\Row X w' base 375 v ys/\(ys.take (i+1+1)).Pairwise (λa b=>¬ c b a<0):=by
    intro j w' hj hS ac h1 h2;refine ⟨hS,put pre rest x j,?_,ac,?_⟩;refine List.Perm.trans ?_ gN;unfold put;rw [Xs,Ybi];refine List.Perm.append_right _ ?_;refine List.Perm.trans Ya4 ?_;rw [XN];exact (List.perm_append_singleton x pre).symm;have e:(put pre rest x j).take (i+1+1)=pre.take j++x :: pre.drop j:=by
     have hl:(pre.take j++x :: pre.drop j).length=i+1+1:=by
      have:=congrArg List.length (XN j pre);simp only [Xb] at this;simp only [Xb,Xf];omega
     unfold put;rw [<- hl,YbZ];rfl
    rw [e];exact ZcP ho hj bQ h1 h2
   refine Zt (σ:=Nat) (λj=>[(0,v),(1,.I 0),(2,.I xs.length),(3,.func (.func g) #[] lb),(8,.I (i+1)),(9,.I (j:Int))])
    (λj w'=>j<=pre.length/\Stp (ob v) w w'/\Row X w' base 375 v (put pre rest x j)/\(∀ q (h:q<pre.length),j<=q->c x pre[q]<0)) (λj=>j) (i+1) ⟨rfl,rfl,rfl,rfl,rfl,rfl,trivial⟩
    ⟨by omega,hS,by rw [fu] at ac;exact ac,λq h hq=>by omega⟩ ?_
   clear ac hS;rintro j w2 ⟨hj,hS,ac,hlt⟩;have hs:=ac.slv hX;cases j with
   | zero=>
     refine W ?_;refine ZDr 17 [] [] [(0,0),(1,0),(2,0),(3,0),(4,0),(5,0),(6,0),(7,0),(8,1),(9,0),(10,0),(11,0),(12,0),(13,1),(14,2),(15,0),(16,0)] (λw1 ae=>?_);replace hS:=hS.trans ae.mn;replace ac:=ac.up ae;replace hs:=hs.up ae;refine D ?_;refine W ?_;exact QL (i+1) (fin 0 _ (Xu _) hS ac hlt (λ_ h=>absurd h (YbS _))) (by omega)
   | succ j=>
     have hz:((j+1:Nat):Int) - 1=(j:Int):=by omega
     have cg:j+1<(put pre rest x (j+1)).length:=by rw [Z9D];omega
     have eF:j<(put pre rest x (j+1)).length:=by rw [Z9D];omega
     have a1:=Zri (rest:=rest) (x:=x) hj cg;have a0:=ZcO (rest:=rest) (x:=x) (Nat.lt_of_succ_le hj) eF;refine W ?_;refine ZDr 17 [] [] [(0,0),(1,0),(2,0),(3,0),(4,0),(5,0),(6,0),(7,0),(8,1),(9,0),(10,0),(11,0),(12,0),(13,1),(14,2),(15,0),(16,0)] (λw1 ae=>?_);replace hS:=hS.trans ae.mn;replace ac:=ac.up ae;replace hs:=hs.up ae;refine QD ?_;refine Z9 rfl (by first|exact trivial|exact rfl) (Z0v (f:=g) rfl (Zh rfl rfl) rfl (hp _ _ _ hS)) (λ_ _ h=>h.2) rfl ?_;rintro _ w3 ⟨rfl,az⟩;rw [a1,a0];replace hS:=hS.trans az.mn;replace ac:=ac.up az;replace hs:=hs.up az;refine D ?_
     (refine QP ?_ ?_<;>intro hc)
     rename_i hc;refine ZDr 18 [] [15,17] [(0,0),(1,0),(2,0),(3,0),(4,0),(5,0),(6,0),(7,0),(8,0),(9,1),(10,0),(11,0),(12,0),(13,1),(14,0),(15,2),(16,0),(17,2)] (λw1 ae=>?_);replace hS:=hS.trans ae.mn;replace ac:=ac.up ae;replace hs:=hs.up ae;refine D ?_;rw [a1,a0];refine Je rfl trivial (Z6B (i:=j+1) (y':=pre[j]) rfl rfl rfl rfl ac hX cg) rfl ?_;rintro _ w4 ⟨ac,aF⟩;replace hS:=hS.trans aF;refine D ?_;refine Je rfl trivial (Z6B (i:=j) (y':=x) rfl rfl rfl rfl ac hX (by rw [Yaa];exact eF)) rfl ?_;rintro _ w5 ⟨ac,aC⟩;replace hS:=hS.trans aC;rw [ZiR (Nat.lt_of_succ_le hj)] at ac;refine D ?_;refine W ?_;refine ZF j ⟨rfl,rfl,rfl,rfl,rfl,(by rw [<- hz];rfl),trivial⟩ ⟨by omega,hS,ac,λq h hq=>?_⟩ (by omega);by_cases e:q=j;subst e;exact hc;exact hlt q h (by omega);exact QL (i+1) (fin (j+1) _ hj hS ac hlt (λ_ _=>by assumption)) (by omega)
 focus repeat'(first|refine W1 ?_|refine VG ?_ ?_<;>intro hg|refine VC ?_ ?_<;>intro hc)
 omega;refine WR ?_;refine .mk ⟨ys,⟨gN,?_⟩,ac,hS⟩
 rwa [XR (by omega)] at jm
theorem Zm4 (g:Nat) (fn:Func) [Fun Tryz.prog g fn] (lb:Array Value) (c:Spn->Spn->Int) (ho:Ord c) (X:List Nat) (base:Nat) (v:Value) (xs:List Spn) (w:World) (hX:∀ b∈X,b<base) (aT:base<=w.heap.size) (ac:Row X w base 375 v xs) (hp:Zm2 Tryz.prog (ob v) g lb c w) (ai:xs.length<20) :
 CC 366 #[v,.I xs.length,.func (.func g) #[] lb] w λr w'=>∃ ys,Z8u c xs ys/\Row X w' base 375 v ys/\Stp (ob v) w w':=by
 have nl:¬ ((20:Int)<=xs.length):=by omega
 have nl2:¬ ((20:Int)<xs.length):=by omega
 refine cW3 63 Tryz.func366 ?_;refine W ?_;refine Zt (σ:=Unit) (λ_=>[(0,v),(1,.I xs.length),(2,.func (.func g) #[] lb),(6,.I 20),(7,.I 0),(8,.I 20)]) (λ_ w'=>w'=w) (λ_=>0) () ⟨rfl,rfl,rfl,rfl,rfl,rfl,trivial⟩ rfl ?_;rintro _ w' rfl;repeat'(first|refine W1 ?_|refine VG ?_ ?_<;>intro hg|refine VC ?_ ?_<;>intro hc)
 exact absurd (by assumption) nl;refine CM (Z67 rfl rfl rfl rfl) (ZcT g fn lb c ho X base v xs _ hX aT ac hp (by omega)) ?_;rintro r w2 ay;refine W ?_;refine Zt (σ:=Unit) (λ_=>[(1,.I xs.length),(6,.I 20)]) (λ_ w'=>w'=w2) (λ_=>0) () ⟨rfl,rfl,trivial⟩ rfl ?_;rintro _ w' rfl;repeat'(first|refine W1 ?_|refine VG ?_ ?_<;>intro hg|refine VC ?_ ?_<;>intro hc)
 exact absurd (by assumption) nl2;refine WR ?_;exact .mk ay
theorem Zb9 (g:Nat) (fn:Func) [Fun Tryz.prog g fn] (lb:Array Value) (c:Spn->Spn->Int) (ho:Ord c) (X:List Nat) (base:Nat) (v:Value) (xs:List Spn) (w:World) (hX:∀ b∈X,b<base) (aT:base<=w.heap.size) (ac:Row X w base 375 v xs) (hp:Zm2 Tryz.prog (ob v) g lb c w) (ai:xs.length<20) :
 CC 358 #[v,.func (.func g) #[] lb] w λr w'=>∃ ys,Z8u c xs ys/\Row X w' base 375 v ys/\Stp (ob v) w w':=by
 have hs:=ac.slv hX;refine cW2 9 Tryz.func358 ?_;refine W ?_;refine CL (Zm4 g fn lb c ho X base v xs _ hX aT ac hp ai) ?_;rintro r w2 ay;refine W ?_;refine WR ?_;exact .mk ay
def Zba (x y:Spn):Int:=ZiQ x.1 y.1
theorem ZvL:Ord Zba where
 asym:=λa b=>by unfold Zba;rw [Z4B,Z4B];omega
 trans:=λa b d=>by unfold Zba;rw [Z4B,Z4B,Z4B];omega
theorem ZuT (S:List Nat) (w):Zm2 Tryz.prog S 359 #[] Zba w:=by
 intro x y w1 hS;show Calls _ _ #[agg x,agg y] _ _;refine cW2 10 Tryz.func359 ?_;refine W ?_;refine Z0 (Zn rfl) rfl ?_;rintro _ w2 ⟨c,rfl,hc,ab,ak⟩;replace ab:Blk w2 c _ (Z2.enc x):=ab;refine Z0 (Zn rfl) rfl ?_;rintro _ w3 ⟨c2,rfl,bT,aS,az⟩;replace aS:Blk w3 c2 _ (Z2.enc y):=aS;replace ab:=ab.up az;replace ak:=ak.trans az;refine W ?_;refine CL (Zb7 _ _ _) ?_;rintro _ w4 ⟨rfl,aF⟩;refine RT ?_;exact ⟨rfl,ak.trans aF⟩
def ofH (y:Int) (h:Hol) (i:Int):List Spn:=match Z1S h y with|some d=>[(d,i)]|none=>[]
def ofK (y:Int):List Hol->Int->List Spn
 | [],_=>[]
 | h :: r,i=>ofH y h i++ofK y r (i+1)
theorem Zei (y:Int):∀ (a b:List Hol) (i:Int),ofK y (a++b) i=ofK y a i++ofK y b (i+a.length)
 | [],b,i=>by simp [ofK]
 | h :: a, b, i => by
   simp only [Yab,ofK,Zei y a b (i+1),XI,Xf];congr 3;omega
theorem Zej (y d:Int):∀ (l:List Hol) (i:Int),(∃ r,(d,r)∈ofK y l i)↔∃ h∈l,Z1S h y=some d
 | [],i=>by simp [ofK]
 | h :: l, i => by
   simp only [ofK,Xe,Xa,exists_or,exists_eq_or_imp];have ih:=Zej y d l (i+1);constructor;rintro (⟨r,hr⟩|hr)
   . left
     unfold ofH at hr;cases hk:Z1S h y with
     | none=>rw [hk] at hr;simp at hr
     | some d'=>rw [hk] at hr;simp at hr;rw [hr.1]
   right;exact ih.1 hr;rintro (hk|hk)
   left;exact ⟨i,by unfold ofH;rw [hk];simp⟩
   right;exact ih.2 hk
theorem Z6s (y:Int):∀ (l:List Hol) (i:Int),(ofK y l i).length<=l.length
 | [],i=>by simp [ofK]
 | h :: l, i => by
   have:=Z6s y l (i+1);simp only [ofK,Xb,Xf];unfold ofH;cases Z1S h y<;>simp<;>omega
abbrev fnV (f:Nat):Value:=.func (.func f) #[] #[]
abbrev Z4f:List Value:=[fnV 159,fnV 160,fnV 162,fnV 163,fnV 166,fnV 167,fnV 168,fnV 169]
theorem Z9E (f g:Nat) (w):(Instr.build 184 #[(0,fnV f),(1,fnV g)]).run Tryz.prog w=.ok (.agg #[fnV f,fnV g]) w:=by kernel_rfl
theorem Zm5 (a b c d e f g h:Nat) (w):(Instr.build 185 #[(0,.agg #[fnV a,fnV b]),(1,.agg #[fnV c,fnV d]),(2,.agg #[fnV e,fnV f]),(3,.agg #[fnV g,fnV h])]).run Tryz.prog w=.ok (.agg #[fnV a,fnV b,fnV c,fnV d,fnV e,fnV f,fnV g,fnV h]) w:=by kernel_rfl
theorem Z8v (w):CC 106 #[] w λr w'=>r=.agg Z4f.toArray/\Stp [] w w':=by
 refine cW0 6 Tryz.func106 ?_;refine W ?_;refine Z0 Z4 rfl ?_;rintro _ w1 ⟨b,rfl,hb,ab,hS⟩;refine W ?_;refine Zc (vs:=[(0,fnV 159),(1,fnV 160)]) rfl (Z9E _ _) rfl ?_;refine Zc (vs:=[(0,fnV 162),(1,fnV 163)]) rfl (Z9E _ _) rfl ?_;refine Zc (vs:=[(0,fnV 166),(1,fnV 167)]) rfl (Z9E _ _) rfl ?_;refine Zc (vs:=[(0,fnV 168),(1,fnV 169)]) rfl (Z9E _ _) rfl ?_;refine Zc (vs:=[(0,.agg #[fnV 159,fnV 160]),(1,.agg #[fnV 162,fnV 163]),(2,.agg #[fnV 166,fnV 167]),(3,.agg #[fnV 168,fnV 169])]) rfl (Zm5 _ _ _ _ _ _ _ _) rfl ?_;refine SB (us:=Z4f) (by intro u hu;simp [Z4f] at hu;rcases hu with rfl|rfl|rfl|rfl|rfl|rfl|rfl|rfl<;>rfl) ab ?_;rintro _ w2 ⟨hT,aS⟩;refine W ?_;refine JH rfl rfl rfl aS rfl ?_;exact .mk ⟨rfl,hS.ow hT⟩
theorem Zm6 {m d:Int} (h0:0<=m) (h2:m<=2) (hd:0<=d):Z3k[0+m.toNat * 7+(d % 7).toNat * 1]?=some (Z3e m d - d):=by
 have hm:m=0\/m=1\/m=2:=by omega
 have hw:d % 7=0\/d % 7=1\/d % 7=2\/d % 7=3\/d % 7=4\/d % 7=5\/d % 7=6:=by omega
 unfold Z3e;rcases hm with rfl|rfl|rfl<;>rcases hw with h|h|h|h|h|h|h<;>rw [h]<;>simp [Z3k]<;>omega
theorem Zfw (m d:Int):d - 1<=Z3e m d/\Z3e m d<=d+2:=by
 unfold Z3e;repeat' split
 all_goals omega
theorem Zm7 (a b:Int) (w):(Instr.build 375 #[(0,.I a),(1,.I b)]).run Tryz.prog w=.ok (agg ((a,b):Spn)) w:=by kernel_rfl
theorem ZiT (d:Spn) (w):(Instr.buildSlice 372 1 #[(0,agg d)]).run Tryz.prog w=.ok (.slice (some ⟨w.heap.size,0,none⟩) 1 1) (w.alloc (.cells (Z2.enc d).toArray 375)):=by kernel_rfl
theorem Zm8 (v:Value) (l:List Hol) (y:Int) (w) (hs:SlV [] w v l) (hL:Z0G w) (hM:Z2g w) (ho:∀ h∈l,Z3f h) (hl:l.length<20) :
 CC 342 #[v,.I y] w λr w'=>∃ ys,Z8u Zba (ofK y l 0) ys/\ZE 375 w w' r ys:=by
 refine cW2 61 Tryz.func342 ?_;refine W ?_;refine CL (Z8v _) ?_;rintro _ w1 ⟨rfl,hS⟩;refine Z0 Z4 rfl ?_;rintro _ w2 ⟨b6,rfl,eH,e6,ak⟩;refine W ?_;refine SB (us:=Z4f) (by intro u hu;simp [Z4f] at hu;rcases hu with rfl|rfl|rfl|rfl|rfl|rfl|rfl|rfl<;>rfl) e6 ?_;rintro _ w3 ⟨hT,k6⟩;replace hS:=hS.trans (ak.ow hT);clear e6 ak hT;replace hs:=hs.up hS;replace hL:=hL.up hS;replace hM:=hM.up hS;refine W ?_
 refine Zt (σ:=Nat×Value) (λq=>[(0,v),(1,.I y),(5,q.2),(6,pQ b6),(12,v),(13,.I (l.length:Int)),(14,.I (q.1:Int))])
  (λq w'=>q.1<=l.length/\ZE 375 w3 w' q.2 (ofK y (l.take q.1) 0)) (λq=>l.length - q.1) (0,.N) ⟨rfl,rfl,rfl,rfl,rfl,rfl,rfl,trivial⟩ ⟨Xu _,ZE.nil⟩ ?_
 rintro ⟨k,ov⟩ w4 ⟨hk,hr⟩;dsimp only at hk hr ⊢;have aF:=hr.2;replace hs:=hs.up aF;replace hL:=hL.up aF;replace hM:=hM.up aF;replace k6:=k6.up aF;by_cases hlt:k<l.length;have ht:l.take (k+1)=l.take k++[l[k]]:=Xj hlt;have rA:ofK y (l.take (k+1)) 0=ofK y (l.take k) 0++ofH y l[k] (k:Int):=by
  rw [ht,Zei];simp only [ofK,XG,Xz,Yap hk];simp
 have aK:=ho l[k] (Xc hlt);refine QO ?_;refine Z0 Z4 rfl ?_;rintro _ w5 ⟨b8,rfl,eZ,e8,aC⟩;refine W ?_;refine SA (us:=Z2.enc l[k]) e8 ?_;rintro _ w6 ⟨hT,k8⟩;replace aC:=aC.ow hT;clear e8 hT;replace hr:=hr.up aC;replace hs:=hs.up aC;replace hL:=hL.up aC;replace hM:=hM.up aC;replace k6:=k6.up aC;clear aC;refine W ?_;refine CL (Z10 y l[k].first l[k].last _) ?_;rintro _ w6 ⟨rfl,rfl⟩;have again:∀ (w':World),Z1S l[k] y=none->Stp [] w6 w'->ZE 375 w3 w' ov (ofK y (l.take (k+1)) 0):=by
  intro w' hn cS;rw [rA];unfold ofH;rw [hn,XG];exact hr.up cS
 by_cases ba:l[k].first<=y/\y<=l[k].last;rw [decide_eq_true ba];have fA:=Zrj ba.1 ba.2;have pd:=aK.f1;have dO:=aK.l1;refine W ?_
 refine JG (σ:=Unit) (λ_=>[(0,v),(1,.I y),(5,ov),(6,pQ b6),(7,.I (k:Int)),(8,pQ b8),(9,.I (Z1m l[k] y).1),(10,.B (Z1m l[k] y).2),(12,v),(13,.I (l.length:Int)),(14,.I (k:Int))])
  (λ_ w'=>Stp [] w6 w') ?_ ?_
 have bY:l[k].kind=1\/l[k].kind=2\/l[k].kind=3\/l[k].kind=4:=by have:=aK.k1;have:=aK.k2;omega
 rcases bY with bY|bY|bY|bY
 refine ZDr 14 [] [] [(0,0),(1,1),(2,0),(3,0),(4,0),(5,1),(6,1),(7,0),(8,2),(9,0),(10,0),(11,0),(12,0),(13,0)] (λw1 ae=>?_);replace k6:=k6.up ae;replace k8:=k8.up ae;replace hL:=hL.up ae;have hz:l[k].kind - 1=((0:Nat):Int):=by omega
 refine D ?_;refine Z1d rfl (Z0P (len:=4) (i:=0) trivial rfl rfl hz (by decide) rfl ?_);refine D ?_;refine Z9 rfl trivial (Z3 rfl (Zh rfl rfl) (Zfs _ _ _ hL bY)) (λ_ _ h=>h.2) rfl ?_;rintro _ w7 ⟨rfl,aQ⟩;refine D ?_;exact QT () (ae.trans aQ);refine ZDr 14 [] [] [(0,0),(1,1),(2,0),(3,0),(4,0),(5,1),(6,1),(7,0),(8,2),(9,0),(10,0),(11,0),(12,0),(13,0)] (λw1 ae=>?_);replace k6:=k6.up ae;replace k8:=k8.up ae;replace hL:=hL.up ae;have hz:l[k].kind - 1=((1:Nat):Int):=by omega
 refine D ?_;refine Z1d rfl (Z0P (len:=4) (i:=1) trivial rfl rfl hz (by decide) rfl ?_);refine D ?_;refine Z9 rfl trivial (Z3 rfl (Zh rfl rfl) (Zft _ _ _ hL (by omega) (by omega) bY aK)) (λ_ _ h=>h.2) rfl ?_;rintro _ w7 ⟨rfl,aQ⟩;refine D ?_;exact QT () (ae.trans aQ);refine ZDr 14 [] [] [(0,0),(1,1),(2,0),(3,0),(4,0),(5,1),(6,1),(7,0),(8,2),(9,0),(10,0),(11,0),(12,0),(13,0)] (λw1 ae=>?_);replace k6:=k6.up ae;replace k8:=k8.up ae;replace hL:=hL.up ae;have hz:l[k].kind - 1=((2:Nat):Int):=by omega
 refine D ?_;refine Z1d rfl (Z0P (len:=4) (i:=2) trivial rfl rfl hz (by decide) rfl ?_);refine D ?_;refine Z9 rfl trivial (Z3 rfl (Zh rfl rfl) (Zfu _ _ _ hL (by omega) (by omega) bY aK)) (λ_ _ h=>h.2) rfl ?_;rintro _ w7 ⟨rfl,aQ⟩;refine D ?_;exact QT () (ae.trans aQ);refine ZDr 14 [] [] [(0,0),(1,1),(2,0),(3,0),(4,0),(5,1),(6,1),(7,0),(8,2),(9,0),(10,0),(11,0),(12,0),(13,0)] (λw1 ae=>?_);replace k6:=k6.up ae;replace k8:=k8.up ae;replace hL:=hL.up ae;have hz:l[k].kind - 1=((3:Nat):Int):=by omega
 refine D ?_;refine Z1d rfl (Z0P (len:=4) (i:=3) trivial rfl rfl hz (by decide) rfl ?_);refine D ?_;refine Z9 rfl trivial (Z3 rfl (Zh rfl rfl) (Zfv _ _ _ bY aK)) (λ_ _ h=>h.2) rfl ?_;rintro _ w7 ⟨rfl,aQ⟩;refine D ?_;exact QT () (ae.trans aQ)
 . rintro _ w7 aQ
   clear k6;replace k8:=k8.up aQ;replace hM:=hM.up aQ;cases hp:(Z1m l[k] y).2 with
   | false=>
     rw [hp] at fA;refine W ?_;exact QL (k+1,ov) ⟨hlt,again _ (by unfold Z1S;rw [fA];rfl) aQ⟩ (by dsimp only;omega)
   | true=>
     rw [hp] at fA;obtain ⟨n1,n2⟩:=ZcS aK ba.1 ba.2 hp;have pf:=aK.m1;have pg:=aK.m2;have pj:=Zm6 pf pg n1;have rB:=Zfw l[k].move (Z1m l[k] y).1;have ej:Z1S l[k] y=if Zp (Z3e l[k].move (Z1m l[k] y).1)=true then some (Z3e l[k].move (Z1m l[k] y).1) else none:=by
      unfold Z1S;rw [fA];rfl
     generalize (Z1m l[k] y).1=d at *;refine W ?_;refine ZDr 10 [] [] [(0,0),(1,0),(2,1),(3,0),(5,0),(4,2),(6,0),(7,1),(8,0),(9,0)] (λw1 ae=>?_);replace k8:=k8.up ae;replace hM:=hM.up ae;replace aQ:=aQ.trans ae;clear ae;refine D ?_;refine Z1d rfl (Z0P (len:=3) (i:=l[k].move.toNat) trivial rfl rfl (by omega) (by omega) rfl ?_);refine D ?_;refine Z9 rfl trivial (Z3 rfl (ZO rfl) (Z3p _ _ n1 (by omega))) (λ_ _ h=>by rw [h.2];exact Stp.refl _ _) rfl ?_;rintro _ w8 ⟨rfl,rfl⟩;refine D ?_;refine Z1d rfl (Z0P (len:=7) (i:=(d % 7).toNat) trivial rfl rfl (by omega) (by omega) rfl ?_);refine D ?_;refine WD_read rfl trivial (λw' aL=>Jd rfl rfl (hM.up aL _ _ pj)) rfl ?_;refine D ?_;have ed:d+(Z3e l[k].move d - d)=Z3e l[k].move d:=by omega
     rw [ed];refine W ?_;refine CL (Z10 (Z3e l[k].move d) 0 3652058 _) ?_;rintro _ _ ⟨rfl,rfl⟩;by_cases h2:0<=Z3e l[k].move d/\Z3e l[k].move d<=3652058;rw [decide_eq_true h2];rw [if_pos (ZC.2 h2)] at ej;have sK:=Z6s y (l.take k) 0;have uk:(l.take k).length<=l.length:=by rw [Xz];omega
     replace hr:=hr.up aQ;refine W ?_;refine Zc (vs:=[(0,.I (Z3e l[k].move d)),(1,.I (k:Int))]) rfl (Zm7 _ _) rfl ?_;refine Z0 (Z1 (vs:=[(0,agg ((Z3e l[k].move d,(k:Int)):Spn))]) rfl (ZiT _)) rfl ?_;rintro bv w9 hN;have fp:=Z6.stp hN;have aI:SlV (ob ov) w9 bv [((Z3e l[k].move d,(k:Int)):Spn)]:=hN.slv (λb hb=>(hr.1.ob_le b hb).2) rfl rfl (by simp [maxLen]);replace hr:=hr.up fp;refine Z0 (Z01 rfl (by decide) rfl rfl hr aI (by simp only [Xf,Xh];omega) (by simp only [Xf,Xh,maxLen];omega)) rfl ?_;rintro ov' w10 ⟨cw,du,ul⟩;refine W ?_;refine QL (k+1,ov') ⟨hlt,?_⟩ (by dsimp only;omega);dsimp only;rw [rA];unfold ofH;rw [ej];exact cw;rw [decide_eq_false h2];rw [if_neg (λh=>h2 (ZC.1 h))] at ej;refine W ?_;exact QL (k+1,ov) ⟨hlt,again _ ej aQ⟩ (by dsimp only;omega)
 rw [decide_eq_false ba];refine W ?_;exact QL (k+1,ov) ⟨hlt,again _ (by unfold Z1S ZlJ;rw [if_pos (by omega)];rfl) (Stp.refl _ _)⟩ (by dsimp only;omega);have cB:k=l.length:=by omega
 subst cB;rw [Xs] at hr;have ai:=Z6s y l 0;refine QO ?_;refine CM (Zh rfl rfl) (Zb9 359 _ #[] Zba ZvL [] w3.heap.size ov _ _ (by simp) hr.2.size hr.1 (ZuT _ _) (by omega)) ?_;rintro _ w7 ⟨ys,cZ,gO,aQ⟩;refine RT ?_;exact ⟨ys,cZ,gO.lower hS.size,(hS.trans hr.2).own aQ (λc hc=>.inr (Xk hS.size (hr.1.ob_le c hc).1))⟩
end Go.Proofs.YteibicnbkggiiaaGreatDoor
namespace Go.Eng
open Go Go.RowKit Go.Proofs
variable {P:Program} {n:Nat} {Q:Exit->Act->World->Prop} {e:Env} {w:World}
theorem Z4C {i:Nat} {A B:Exit->Act->World->Prop} (h:∀ ex a w,A ex a w->B ex a w):∀ ex a w,Exit.inBlock i A ex a w->Exit.inBlock i B ex a w:=by
 intro ex a w hq;cases ex with
 | exit j=>
   simp only [Exit.inBlock] at hq ⊢;split;rename_i hj;rw [if_pos hj] at hq;exact h _ _ _ hq;rename_i hj;rw [if_neg hj] at hq;exact h _ _ _ hq
 | normal=>exact h _ _ _ hq
 | ret=>exact h _ _ _ hq
 | goto t=>exact h _ _ _ hq
 | panic c=>exact h _ _ _ hq
 | outgrown=>exact h _ _ _ hq
theorem ZiU {x y:Code} {σ:Type} {i j:Nat} (env:σ->Env) (I:σ->World->Prop)
 (h:WC P n x (Exit.inBlock i (Exit.inBlock j (Exit.then (λa w=>∃ s,Has n (env s) a/\I s w) Q))) e w) (k:∀ s w,I s w->WC P n y Q (env s) w):WC P n x (Exit.inBlock i (Exit.inBlock j (Exit.then (λa w=>y.wp P Q a w) Q))) e w:=
 ⟨λa ha => wp_mono (h.h a ha) (Z4C (Z4C (λex a w hq => by
   cases ex with
   | normal=>obtain ⟨s,h1,h2⟩:=hq;exact (k s w h2).h a h1
   | _=>exact hq)))⟩
end Go.Eng
namespace Go.Proofs.YteibicnbkggiiaaGreatDoor
open Go Go.Eng Go.RowKit
def inR (a b:Int) (zs:List Int):List Int:=zs.filter λd=>decide (a<=d/\d<=b)
theorem Zm9 (a b:Int) (x y:List Int):inR a b (x++y)=inR a b x++inR a b y:=by unfold inR;rw [X5]
theorem ZiV {y:Int} {l:List Hol} {ys:List Spn} (h:Z8u Zba (ofK y l 0) ys) (d:Int):d∈ys.map Prod.fst↔∃ h∈l,Z1S h y=some d:=by
 rw [<- Zej y d l 0,Xw];constructor;rintro ⟨⟨a,r⟩,h1,rfl⟩;exact ⟨r,h.1.mem_iff.1 h1⟩;rintro ⟨r,hr⟩;exact ⟨(d,r),h.1.mem_iff.2 hr,rfl⟩
theorem ZiW {y:Int} {l:List Hol} {ys:List Spn} (h:Z8u Zba (ofK y l 0) ys):ys.length<=l.length:=by
 rw [h.1.length_eq];exact Z6s y l 0
theorem Zbb (v:Value) (l:List Hol) (a b:Int) (w) (hs:SlV [] w v l) (hL:Z0G w) (hM:Z2g w) (ho:∀ h∈l,Z3f h) (hl:l.length<20) (ha:0<=a) (bK:a<=b) (hb:b<=3652058) (xc:(ofM a).y<=(ofM b).y) :
 CC 329 #[v,.I a,.I b] w λr w'=>∃ zs:List Int,(∀ d,d∈zs↔a<=d/\d<=b/\∃ y,(ofM a).y - 1<=y/\y<=(ofM b).y+1/\∃ h∈l,Z1S h y=some d)/\ZE 3 w w' r (Z2P zs):=by
 obtain ⟨ya1,ya2,-⟩:=Z9f ha (by omega);obtain ⟨yb1,yb2,-⟩:=Z9f (n:=b) (by omega) hb;have eG:max a 0=a:=by omega
 have um:min b 3652058=b:=by omega
 refine cW3 65 Tryz.func329 ?_;refine W ?_;rw [eG,um];refine QO ?_;refine CM (ZO rfl) (Z9j a _ ha (by omega)) ?_;rintro _ w1 ⟨rfl,hS⟩;refine W ?_;refine Z0 Z4 rfl ?_;rintro _ w2 ⟨b7,rfl,kQ,e7,ak⟩;refine W ?_;refine SB (us:=[.I (ofM a).y,.I (ofM a).m,.I (ofM a).d]) (by intro u hu;simp at hu;rcases hu with rfl|rfl|rfl<;>rfl) e7 ?_;rintro _ w3 ⟨hT,k7⟩;replace hS:=hS.trans (ak.ow hT);clear e7 ak hT;refine W ?_;refine CM (ZO rfl) (Z9j b _ (by omega) hb) ?_;rintro _ w4 ⟨rfl,aF⟩;replace k7:=k7.up aF;replace hS:=hS.trans aF;refine W ?_;refine Z0 Z4 rfl ?_;rintro _ w5 ⟨b9,rfl,gH,e9,aC⟩;have n79:b7≠b9:=by have:=k7.lt;omega
 refine W ?_;refine SB (us:=[.I (ofM b).y,.I (ofM b).m,.I (ofM b).d]) (by intro u hu;simp at hu;rcases hu with rfl|rfl|rfl<;>rfl) e9 ?_;rintro _ w6 ⟨hT,k9⟩;replace aC:=aC.ow hT;replace k7:=k7.up aC;replace hS:=hS.trans aC;clear e9 hT aF aC;replace hs:=hs.up hS;replace hL:=hL.up hS;replace hM:=hM.up hS;refine W ?_
 refine Zt (σ:=Nat×Value×List Int) (λq=>[(0,v),(1,.I a),(2,.I b),(7,pQ b7),(9,pQ b9),(11,q.2.1),(12,.I ((ofM a).y - 1+(q.1:Int)))])
  (λq w'=>(ofM a).y - 1+(q.1:Int)<=(ofM b).y+2/\q.2.2.length<=q.1 * 20/\(∀ d,d∈q.2.2↔a<=d/\d<=b/\∃ y,(ofM a).y - 1<=y/\y<(ofM a).y - 1+(q.1:Int)/\∃ h∈l,Z1S h y=some d)/\ZE 3 w6 w' q.2.1 q.2.2)
  (λq=>20000 - q.1) (0,.N,[]) ⟨rfl,rfl,rfl,rfl,rfl,rfl,(by simp [Ju]),trivial⟩ ⟨by dsimp only;omega,Xu _,λd=>by simp;intros;omega,ZE.nil⟩ ?_
 rintro ⟨k,ov,zs⟩ w7 ⟨hk,rt,hz,hr⟩;dsimp only at hk rt hz hr ⊢;have aQ:=hr.2;replace k7:=k7.up aQ;replace k9:=k9.up aQ;replace hs:=hs.up aQ;replace hL:=hL.up aQ;replace hM:=hM.up aQ;by_cases hlt:(ofM a).y - 1+(k:Int)<=(ofM b).y+1;refine QO ?_;refine CL (Zm8 v l _ _ hs hL hM ho hl) ?_;rintro rv w8 ⟨ys,cZ,jn⟩;have dH:=ZiW cZ;have pm:=ZiV cZ;have bZ:=jn.2;have ce:=jn.slv (X:=ob ov) (λb hb=>(hr.1.ob_le b hb).2);have pn:=jn.slv (X:=[]) (by simp);replace hr:=hr.up bZ;replace k9:=k9.up bZ;replace hs:=hs.up bZ;replace hL:=hL.up bZ;replace hM:=hM.up bZ;refine W ?_
 refine ZiU (σ:=Value×List Int) (λq=>[(0,v),(1,.I a),(2,.I b),(7,pQ b7),(9,pQ b9),(11,q.1),(12,.I ((ofM a).y - 1+(k:Int)))])
  (λq w'=>q.2=zs++inR a b (ys.map Prod.fst)/\ZE 3 w6 w' q.1 q.2) ?_ ?_
 refine Zt (σ:=Nat×Value) (λq=>[(0,v),(1,.I a),(2,.I b),(7,pQ b7),(9,pQ b9),(11,q.2),(12,.I ((ofM a).y - 1+(k:Int))),(44,rv),(45,.I (ys.length:Int)),(46,.I (q.1:Int))])
  (λq w'=>q.1<=ys.length/\ZE 3 w6 w' q.2 (zs++inR a b ((ys.take q.1).map Prod.fst))/\SlV (ob q.2) w' rv ys) (λq=>ys.length - q.1) (0,ov) ⟨rfl,rfl,rfl,rfl,rfl,rfl,rfl,rfl,rfl,rfl,trivial⟩ ⟨Xu _,by simpa [inR] using hr,ce⟩ ?_
 clear hr ce pn hs hL hM k7 k9;rintro ⟨j,ov'⟩ w9 ⟨hj,hr,ce⟩;dsimp only at hj hr ce ⊢;by_cases dI:j<ys.length;have ic:inR a b ((ys.take (j+1)).map Prod.fst)=inR a b ((ys.take j).map Prod.fst)++inR a b [ys[j].1]:=by
  rw [Xj dI,XH,Zm9];rfl
 refine QO ?_;refine Z0 Z4 rfl ?_;rintro _ w10 ⟨b14,rfl,uo,e14,du⟩;refine W ?_;refine SA (us:=Z2.enc ys[j]) e14 ?_;rintro _ w11 ⟨hT,k14⟩;replace du:=du.ow hT;clear e14 hT;replace hr:=hr.up du;replace ce:=ce.up du;refine W ?_;refine CL (Z10 ys[j].1 a b _) ?_;rintro _ _ ⟨rfl,rfl⟩;by_cases ba:a<=ys[j].1/\ys[j].1<=b;rw [decide_eq_true ba];have ai:(zs++inR a b ((ys.take j).map Prod.fst)).length<=300000:=by
  have h1:(inR a b ((ys.take j).map Prod.fst)).length<=((ys.take j).map Prod.fst).length:=X0 _ _;rw [Xb];simp only [XB,Xz] at h1;omega
 have e1:inR a b [ys[j].1]=[ys[j].1]:=by unfold inR;simp [ba]
 rw [e1] at ic;refine W ?_;refine Z0 (Z1 (vs:=[(0,.I ys[j].1)]) rfl (Zo _)) rfl ?_;rintro bv w12 hN;have iu:=Z6.stp hN;have aI:SlV (ob ov') w12 bv [ys[j].1]:=hN.slv (λb hb=>(hr.1.ob_le b hb).2) rfl rfl (by simp [maxLen]);replace hr:=hr.up iu;replace ce:=ce.up iu;refine Z0 (Z01 rfl (by decide) rfl rfl hr aI (by simp only [Xf,Xh];omega) (by simp only [Xf,Xh,maxLen];omega)) rfl ?_;rintro ov2 w13 ⟨cw,cj,po⟩;refine W ?_;refine QL (j+1,ov2) ⟨dI,?_,ce.ext cj (λ_ h=>h) po⟩ (by dsimp only;omega);dsimp only;rw [ic,<- XI];exact cw;rw [decide_eq_false ba];have e1:inR a b [ys[j].1]=[]:=by unfold inR;simp only [List.filter_cons,decide_eq_false ba,Ybp];rfl
 rw [e1,XG] at ic;refine W ?_;refine QL (j+1,ov') ⟨dI,?_,ce⟩ (by dsimp only;omega);dsimp only;rw [ic];exact hr;have pp:j=ys.length:=by omega
 subst pp;rw [Xs] at hr;refine QO ?_;exact Zw (ov',zs++inR a b (ys.map Prod.fst)) ⟨rfl,rfl,rfl,rfl,rfl,rfl,rfl,trivial⟩ ⟨rfl,hr⟩;rintro ⟨ov',zs'⟩ w9 ⟨nC,hr⟩;dsimp only at nC hr ⊢;subst nC;have e1:(ofM a).y - 1+(k:Int)+1=(ofM a).y - 1+((k+1:Nat):Int):=by omega
 refine W ?_;rw [e1];refine ZF (k+1,ov',zs++inR a b (ys.map Prod.fst)) ⟨rfl,rfl,rfl,rfl,rfl,rfl,rfl,trivial⟩ ⟨by dsimp only;omega,?_,λd=>?_,hr⟩ (by dsimp only;omega);have h1:(inR a b (ys.map Prod.fst)).length<=(ys.map Prod.fst).length:=X0 _ _;dsimp only;rw [Xb];simp only [XB] at h1;omega;dsimp only;rw [Xe,hz,inR,Yak,pm];constructor;rintro (⟨p1,p2,y,p3,p4,p5⟩|⟨p5,p6⟩);exact ⟨p1,p2,y,p3,by omega,p5⟩;have p6:=of_decide_eq_true p6;exact ⟨p6.1,p6.2,_,by omega,by omega,p5⟩;rintro ⟨p1,p2,y,p3,p4,p5⟩;by_cases hy:y<(ofM a).y - 1+(k:Int)
 exact .inl ⟨p1,p2,y,p3,hy,p5⟩;obtain rfl:y=(ofM a).y - 1+(k:Int):=by omega
 exact .inr ⟨p5,decide_eq_true ⟨p1,p2⟩⟩;refine QO ?_;refine CM (ZO rfl) (ZaD _ hr.1 (by omega)) ?_;rintro _ w8 ⟨rfl,fE,bZ⟩;refine W ?_;refine CM (ZO rfl) (Z5P _ fE (by rw [Ybx];omega)) ?_;rintro rv w9 ⟨mb,fp,aN⟩;refine W ?_;refine WR ?_;refine .mk ⟨zs,λd=>?_,mb.lower hS.size,((hS.trans hr.2).own bZ (λc hc=>.inr (Xk hS.size (hr.1.ob_le c hc).1))).own fp (λc hc=>.inr (Xk hS.size (hr.1.ob_le c hc).1))⟩;rw [hz];constructor;rintro ⟨p1,p2,y,p3,p4,p5⟩;exact ⟨p1,p2,y,p3,by omega,p5⟩;rintro ⟨p1,p2,y,p3,p4,p5⟩;exact ⟨p1,p2,y,p3,by omega,p5⟩
theorem ZcU {l:List Hol} {d:Int} (h0:0<=d) (h1:d<=3652058) {zs:List Int} (hz:∀ x,x∈zs↔d<=x/\x<=d/\∃ y,(ofM d).y - 1<=y/\y<=(ofM d).y+1/\∃ h∈l,Z1S h y=some x) :
 decide (((Z2P zs).length:Int) > 0)=Z6X l d:=by
 have hm:=(Z2B zs).2;have ba:Zp d=true:=ZC.2 ⟨h0,h1⟩;rw [Ybn];unfold Z6X;rw [ba,Ybl,decide_eq_true_eq,YaS];constructor;intro hl;obtain ⟨x,hx⟩:=List.exists_mem_of_length_pos (l:=Z2P zs) (by omega);obtain ⟨p1,p2,y,p3,p4,h,hh,hk⟩:=(hz x).1 ((hm x).1 hx);obtain rfl:x=d:=by omega
 refine ⟨y,?_,YaS.2 ⟨h,hh,decide_eq_true hk⟩⟩;have:y=(ofM x).y - 1\/y=(ofM x).y\/y=(ofM x).y+1:=by omega
 rcases this with rfl|rfl|rfl<;>simp
 rintro ⟨y,hy,hh⟩;obtain ⟨h,hh,hk⟩:=YaS.1 hh;have dO:(ofM d).y - 1<=y/\y<=(ofM d).y+1:=by simp at hy;omega
 have:d∈Z2P zs:=(hm d).2 ((hz d).2 ⟨YaO _,YaO _,y,dO.1,dO.2,h,hh,of_decide_eq_true hk⟩);have:=List.length_pos_of_mem this;omega
theorem Zrk (v:Value) (l:List Hol) (d:Int) (w) (hs:SlV [] w v l) (hL:Z0G w) (hM:Z2g w) (ho:∀ h∈l,Z3f h) (hl:l.length<20) :
 CC 300 #[v,.I d] w λr w'=>r=.B (Z6X l d)/\Stp [] w w':=by
 refine cW2 15 Tryz.func300 ?_;refine W ?_;refine CL (Z10 d 0 3652058 _) ?_;rintro _ _ ⟨rfl,rfl⟩;by_cases hd:0<=d/\d<=3652058;rw [decide_eq_true hd];refine W ?_;refine CL (Zbb v l d d _ hs hL hM ho hl hd.1 (YaO _) hd.2 (YaO _)) ?_;rintro rv w1 ⟨zs,hz,hr⟩;have jQ:=hr.slv (X:=[]) (by simp);refine RT ?_;exact ⟨by rw [ZcU hd.1 hd.2 hz],hr.2⟩;rw [decide_eq_false hd];refine W ?_;refine WR ?_;refine .mk ⟨?_,Stp.refl _ _⟩;have:Zp d=false:=by unfold Zp;exact decide_eq_false hd
 unfold Z6X;rw [this];rfl
structure Z4D (w:World) (c:Cal) (hv cv zo zs hr:Value):Prop where
 hols:SlV [] w hv c.hols
 clos:SlV [] w cv c.clos
 len:Z0G w
 mov:Z2g w
 ok:Zin c
abbrev Z5r (c:Cal) (hv cv zo zs hr:Value):Value:=.agg (JO c hv cv zo zs hr).toArray
theorem Z4D.up {w w':World} {c:Cal} {hv cv zo zs hr:Value} (h:Z4D w c hv cv zo zs hr) (hS:Stp [] w w'):Z4D w' c hv cv zo zs hr:=⟨h.hols.up hS,h.clos.up hS,h.len.up hS,h.mov.up hS,h.ok⟩
theorem Zma (c:Cal) (hv cv zo zs hr:Value) {i:Nat} (hi:i<7):(JO c hv cv zo zs hr)[0+i * 1]?=some (.B (c.week.getD i false)):=by
 have:i=0\/i=1\/i=2\/i=3\/i=4\/i=5\/i=6:=by omega
 rcases this with rfl|rfl|rfl|rfl|rfl|rfl|rfl<;>rfl
theorem Z1V (d:Int) (w):CC 71 #[.I d] w λr w'=>r=.B (Zp d)/\w'=w:=by
 refine cW1 9 Tryz.func71 ?_;unfold Zp;by_cases h1:d>=0;by_cases h2:d<=3652058;rw [decide_eq_true ⟨h1,h2⟩];refine RT ?_;exact ⟨by simp [h2],rfl⟩;rw [decide_eq_false (λh=>h2 h.2)];refine RT ?_;exact ⟨by simp [h2],rfl⟩;rw [decide_eq_false (λh=>h1 h.1)];refine RT ?_;exact ⟨rfl,rfl⟩
theorem Zfx (d kn:Int) (bc bk:Nat) (c:Cal) (hv cv zo zs hr:Value) (w) (h:Z4D w c hv cv zo zs hr) (kc:Blk w bc 47 (JO c hv cv zo zs hr)) (kk:Blk w bk 3 [.I kn]) (h0:0<=d) (h1:d<=3652058) :
 CC 299 #[.I d,pQ bc,pQ bk] w λr w'=>r=.B (Ze1 c kn d)/\Stp [] w w':=by
 have px:(d % 7).toNat<7:=by omega
 have nD:=Zma c hv cv zo zs hr px;have bC:=h.clos.max;have uq:=h.clos;refine cW3 40 Tryz.func299 ?_;refine W ?_;refine CM (ZO rfl) (Z3p d _ h0 (by omega)) ?_;rintro _ w ⟨rfl,rfl⟩;refine W ?_;refine Z2u (len:=7) (i:=(d % 7).toNat) rfl rfl (by omega) px rfl ?_;refine Zab rfl rfl kc nD rfl ?_;unfold Ze1;cases hw:c.week.getD (d % 7).toNat false with
 | true=>
   refine RT ?_;exact ⟨by simp,Stp.refl _ _⟩
 | false=>
   rw [YbR];refine W ?_;refine Z0b (σ:=Unit) (λ_=>[(0,.I d),(1,pQ bc)]) (λ_ w'=>ZaG c.clos kn d=false/\Stp [] w w') ?_ ?_
   refine Zt (σ:=Nat) (λk=>[(0,.I d),(1,pQ bc),(2,pQ bk),(13,cv),(14,.I (c.clos.length:Int)),(15,.I (k:Int))])
    (λk w'=>k<=c.clos.length/\ZaG (c.clos.take k) kn d=false/\Stp [] w w') (λk=>c.clos.length - k) 0 ⟨rfl,rfl,rfl,rfl,rfl,rfl,trivial⟩ ⟨Xu _,rfl,Stp.refl _ _⟩ ?_
   rintro k w1 ⟨hk,hn,hS⟩;have kk:=kk.up hS;have cn:=h.clos.up hS;by_cases hlt:k<c.clos.length;have ht:ZaG (c.clos.take (k+1)) kn d=(ZaG (c.clos.take k) kn d || decide (c.clos[k].known<=kn/\c.clos[k].lo<=d/\d<=c.clos[k].hi)):=by
    unfold ZaG;rw [Xj hlt,List.any_append];simp
   rw [hn,YbR] at ht;refine QO ?_;refine Z0 Z4 rfl ?_;rintro _ w2 ⟨b6,rfl,eH,e6,ak⟩;refine W ?_;refine SA (us:=Z2.enc c.clos[k]) e6 ?_;rintro _ w3 ⟨hT,k6⟩;replace ak:=ak.ow hT;clear e6 hT;replace kk:=kk.up ak;replace cn:=cn.up ak;replace hS:=hS.trans ak;by_cases hx:c.clos[k].known<=kn/\c.clos[k].lo<=d/\d<=c.clos[k].hi;refine QO ?_;refine WR ?_;refine .mk ⟨?_,hS⟩;have:ZaG c.clos kn d=true:=by
    unfold ZaG;exact YaS.2 ⟨c.clos[k],Xc hlt,decide_eq_true hx⟩
   rw [this];rfl
   . rw [decide_eq_false hx] at ht
     repeat'(first|refine W1 ?_|omega|refine VG ?_ ?_<;>intro hg|refine VC ?_ ?_<;>intro hc)
     all_goals exact QL (k+1) ⟨hlt,ht,hS⟩ (by omega)
   obtain rfl:k=c.clos.length:=by omega
   rw [Xs] at hn;refine QO ?_;exact QT () ⟨hn,hS⟩;rintro _ w1 ⟨hn,hS⟩;have kc:=kc.up hS;have h:=h.up hS;rw [hn,YbR];refine W ?_;refine CM (Zh rfl rfl) (Zrk hv c.hols d _ h.hols h.len h.mov h.ok.hols (by have:=h.ok.few;omega)) ?_;rintro _ w2 ⟨rfl,ak⟩;refine RT ?_;exact ⟨rfl,hS.trans ak⟩
def ZuU (w:World) (f:Value) (c:Cal) (hv cv zo zs hr:Value) (kn:Int):Prop:=∃ b2 b3,f=.func (.func 299) #[] #[pQ b2,pQ b3]/\Blk w b2 47 (JO c hv cv zo zs hr)/\Blk w b3 3 [.I kn]
theorem ZiX (kn:Int) (c:Cal) (hv cv zo zs hr:Value) (w):CC 265 #[Z5r c hv cv zo zs hr,.I kn] w λr w'=>ZuU w' r c hv cv zo zs hr kn/\Stp [] w w':=by
 refine cW2 6 Tryz.func265 ?_;refine W ?_;refine Z0 (Zn rfl) rfl ?_;rintro _ w1 ⟨b2,rfl,cJ,ab,hS⟩;replace ab:Blk w1 b2 47 (JO c hv cv zo zs hr):=ab;refine Z0 (Zn rfl) rfl ?_;rintro _ w2 ⟨b3,rfl,eD,aM,ak⟩;replace aM:Blk w2 b3 3 [.I kn]:=aM;replace ab:=ab.up ak;refine RT ?_;exact ⟨⟨b2,b3,rfl,ab,aM⟩,hS.trans ak⟩
open Go Go.Eng Go.RowKit Go.Proofs Go.Shelf
attribute [local go_sem] Oper.semAt_some
theorem ZiY (n:Nat) (hn:2<=n) (l bd bs:Nat) (d0 st:Int) (ar:st=1\/st=-1) (nE:0<=d0) (fX:d0<=3652058) (J:Nat->World->Prop) (Jx:World->Prop)
 (ur:∀ k W,J k W->W.cell? ⟨bd,0,none⟩=some (.I (d0+st * k))/\W.cell? ⟨bs,0,none⟩=some (.I st))
 (hY : ∀ (k : Nat) W, J k W -> k <= 1000 -> Zp (d0 + st * k) = true -> YieldAt Fence.wide (n - 1) Tryz.prog l #[.I (d0 + st * k)] W λe W'=>
   (e=.returned (.B true)/\W'.cell? ⟨bd,0,none⟩=some (.I (d0+st * k))/\W'.frozen? ⟨bd,0,none⟩=false/\W'.cell? ⟨bs,0,none⟩=some (.I st)/\J (k+1) (W'.setCell ⟨bd,0,none⟩ (.I (d0+st * k+st))))\/(e=.returned (.B false)/\Jx W'))
 (W:World) (h0:J 0 W) :
 CallsIn Fence.wide n Tryz.prog 301 #[.func (.yield l) #[] #[],pQ bd,pQ bs] W λe W'=>(∃ v,e=.returned v)/\
  ((∃ k:Nat,(1000<k\/Zp (d0+st * k)=false)/\J k W')\/Jx W'):=by
 refine callsIn_of_wp Tryz.func301 rfl trivial ?_ rfl;simp only [Tryz.ntmps301,Yan,Xf,Xh,Nat.reduceAdd,Nat.reduceSub,Array.replicate_succ,Array.replicate_zero,List.push_toArray,List.append_toArray,XW,Yab]
 gi_wp2
 gi_loopw [4] (λi wr=>∃ k:Nat,k<=1001/\i=.I (k:Int)/\J k wr) (λi _=>1002 - (intOf i).toNat)
 case atStart=>exact ⟨0,Xu _,rfl,h0⟩
 case round=>
  obtain ⟨k,hk,rfl,nF⟩:=hrel;obtain ⟨c1,c2⟩:=ur k _ nF;have gF:-1001<=st * (k:Int)/\st * (k:Int)<=1001:=by rcases ar with rfl|rfl<;>omega
  by_cases hlt:k<=1000
  . have cK:(k:Int)<=1000:=by omega
    gi_wp2
    refine ⟨trivial,(λh=>by cases h),?_⟩;refine (callsIn_wide.2 (Z1V _ _)).mono ?_;rintro e w' ⟨v,rfl,rfl,rfl⟩;cases ba:Zp (d0+st * k) with
    | false=>
      gi_wp2
      go_end0
      exact ⟨⟨_,rfl⟩,.inl ⟨k,.inr ba,nF⟩⟩
    | true=>
      obtain ⟨fn,tmps,assign,body,hy,hR⟩:=hY k _ nF hlt ba
      gi_wp2
      refine ⟨(λh=>by cases h),hR.mono ?_⟩;rintro e W3 (⟨rfl,a1,a2,a3,a4⟩|⟨rfl,hx⟩);have uu:=ZC.1 ba
      gi_wp2
      exact ⟨⟨k+1,by omega,rfl,a4⟩,by simp [intOf];omega⟩
      gi_wp2
      refine bodyPost_ret (results_none rfl _ _ _) rfl ?_;exact ⟨⟨_,rfl⟩,.inr hx⟩
  have iw:¬ (k:Int)<=1000:=by omega
  gi_wp2
  refine ⟨trivial,?_⟩
  gi_wp2
  go_end0
  exact ⟨⟨_,rfl⟩,.inl ⟨k,.inl (by omega),nF⟩⟩
theorem ZcV {g:Operand} {ps:Array Tmp} {assign body:Code} {Q:Exit->Act->World->Prop} {a:Act} {w:World} {n:Nat} (hn:3<=n) (ib:ps.size=1) {bd bs:Nat} {d0 st:Int}
 (hg:a.eval g=.func (.func 301) #[] #[pQ bd,pQ bs]) (ar:st=1\/st=-1) (nE:0<=d0) (fX:d0<=3652058) (fY:bd<w.heap.size)
 (I I':Nat->World->Prop) (Ix:World->Prop)
 (hI:∀ k W W',I k W->Below w.heap.size W W'->I k W') (hI':∀ k W W',I' k W->Below w.heap.size W W'->I' k W') (hIx:∀ W W',Ix W->Below w.heap.size W W'->Ix W')
 (hc:∀ (k:Nat) W,I k W->W.cell? ⟨bd,0,none⟩=some (.I (d0+st * k))/\W.cell? ⟨bs,0,none⟩=some (.I st))
 (hc':∀ (k:Nat) W,I' k W->W.cell? ⟨bd,0,none⟩=some (.I (d0+st * k))/\W.frozen? ⟨bd,0,none⟩=false/\W.cell? ⟨bs,0,none⟩=some (.I st))
 (hstep:∀ (k:Nat) W,I' k W->I (k+1) (W.setCell ⟨bd,0,none⟩ (.I (d0+st * k+st)))) (h0:I 0 w) (a₁:Int->Act)
 (hassign : ∀ (l : Nat) (X : Int) (W : World) (K : Act -> World -> Prop), K (a₁ X) W->
   assign.wpIn (Fence.wide.inRound l) (n - 1 - 1) Tryz.prog (Exit.then K (λ_ _ _=>False)) { tmps:=(ps.zip #[Value.int .i64 X]).foldl (λt (p,v)=>t.setIfInBounds p v) a.tmps,defers:=[] } W)
 (hbody : ∀ (l : Nat) (k : Nat) (W : World), I k W -> k <= 1000 -> Zp (d0 + st * k) = true -> body.wpIn (Fence.wide.inRound l) (n - 1 - 1) Tryz.prog
   (λe _ W'=>(∀ b,w.heap.size<=b->b<W.heap.size->W'.heap[b]?=W.heap[b]?)/\match e with|.normal=>I' k W'|.ret=>Ix W'|_=>False) (a₁ (d0+st * k)) W)
 (hdone:∀ (D k:Nat) (W:World),w.heap.size<=D->(1000<k\/Zp (d0+st * k)=false)->I k W->W.heap[D]?=some (.deferred (some []))->Q .normal { a with defers:={ target:=.collected D,args:=#[] } :: a.defers } W)
 (hstop:∀ (D:Nat) (W:World),w.heap.size<=D->Ix W->W.heap[D]?=some (.deferred (some []))->Q .ret { a with defers:={ target:=.collected D,args:=#[] } :: a.defers } W) :
 (Code.rangeFunc g ps assign body).wpIn Fence.wide n Tryz.prog Q a w:=by
 refine wpIn_rangeFunc ?_;intro fn kK;obtain ⟨rec,bA⟩:∃ rec:LoopState->Option Code->Loop,rec=λst pe=>{ state:=st,pending:=pe,fn,tmps:=a.tmps,params:=ps,assign,body,defers:=w.heap.size }:=⟨_,rfl⟩
 obtain ⟨W1,fa⟩:∃ W1,(w.alloc (.deferred (some []))).alloc (.loop (rec .ready none))=W1:=⟨_,rfl⟩
 have jY:W1.heap[w.heap.size+1]?=some (.loop (rec .ready none)):=by
  rw [<- fa];have:=World.alloc_heap_new (w.alloc (.deferred (some []))) (.loop (rec .ready none));rwa [World.size_alloc] at this
 have oW:W1.heap[w.heap.size]?=some (.deferred (some [])):=by
  rw [<- fa];exact (Below.heap_alloc _ _ _ (by simp)).trans (World.alloc_heap_new w _)
 have ee:Below w.heap.size w W1:=by
  rw [<- fa];exact ((Below.refl _ w).alloc (Xq _) _).alloc (by simp) _
 have bput:∀ (W:World) (l:Nat) (o:Obj),w.heap.size<=l->Below w.heap.size W (W.putObj l o):=λW l o hl=>
  ⟨rfl,rfl,rfl,by simp,λk hk=>World.putObj_heap_other (by omega)⟩
 refine ⟨w.heap.size+1,[{ target:=.collected w.heap.size,args:=#[] }],W1,{ target:=.fn (.func 301) #[pQ bd,pQ bs],args:=#[.func (.yield (w.heap.size+1)) #[] #[]] },W1,301,
  #[.func (.yield (w.heap.size+1)) #[] #[]]++#[pQ bd,pQ bs],W1,?_,?_,?_,?_,λh=>(by cases h),?_⟩
 rw [<- fa,bA];exact run_enterLoop_outer _ _ _ _ _;simp only [resolve,hg];simp [go_sem];intro f' jk;trivial;have eg:=enters_of Tryz.func301 (by kernel_rfl) rfl;simp [invoke,go_sem,eg]
 refine (ZiY (n - 1) (by omega) (w.heap.size+1) bd bs d0 st ar nE fX
  (λk W=>I k W/\W.heap[w.heap.size+1]?=some (.loop (rec .ready none))/\W.heap[w.heap.size]?=some (.deferred (some [])))
  (λW=>Ix W/\W.heap[w.heap.size+1]?=some (.loop (rec .done (some .ret)))/\W.heap[w.heap.size]?=some (.deferred (some [])))
  (λk W h=>hc k W h.1) ?_ W1 ⟨hI _ _ _ h0 ee,jY,oW⟩).mono ?_
 . rintro k W ⟨hi,hl,hk⟩ jc ba
   have hlt:w.heap.size+1<W.heap.size:=(Xm.1 hl).1;have hy:=run_yield (P:=Tryz.prog) (args:=#[Value.int .i64 (d0+st * k)]) hl (by rw [bA];simp [ib]);rw [bA] at hy;refine ⟨fn,_,assign,body,hy,roundIn_of_wpIn kK (hassign _ _ W _ ⟨_,run_beginRound hl (by rw [bA]),?_⟩)⟩;have dJ:(W.putObj (w.heap.size+1) (.loop { rec .ready none with state:=.busy })).heap[w.heap.size+1]?=some (.loop { rec .ready none with state:=.busy }):=World.putObj_heap_same hlt;have cB:(W.putObj (w.heap.size+1) (.loop { rec .ready none with state:=.busy })).heap[w.heap.size]?=some (.deferred (some [])):=(World.putObj_heap_other (by omega)).trans hk;refine wpIn_mono (hbody _ k _ (hI _ _ _ hi (bput _ _ _ (by omega))) jc ba) ?_
   have fin:∀ (jump:Option Code) (W3:World),(∀ b,w.heap.size<=b->b<(W.putObj (w.heap.size+1) (.loop { rec .ready none with state:=.busy })).heap.size->W3.heap[b]?=(W.putObj (w.heap.size+1) (.loop { rec .ready none with state:=.busy })).heap[b]?)->
    (Instr.endRound (w.heap.size+1) jump).run Tryz.prog W3=.ok (.B jump.isNone) (W3.putObj (w.heap.size+1) (.loop (rec (if jump.isNone then .ready else .done) jump)))/\
    (W3.putObj (w.heap.size+1) (.loop (rec (if jump.isNone then .ready else .done) jump))).heap[w.heap.size+1]?=some (.loop (rec (if jump.isNone then .ready else .done) jump))/\
    (W3.putObj (w.heap.size+1) (.loop (rec (if jump.isNone then .ready else .done) jump))).heap[w.heap.size]?=some (.deferred (some [])):=λjump W3 ja=>by
    have gz:=(ja (w.heap.size+1) (by omega) (by simp;omega)).trans dJ;have me:=(ja w.heap.size (by omega) (by simp;omega)).trans cB;have:=run_endRound (P:=Tryz.prog) jump gz;rw [bA] at this ⊢;exact ⟨this,World.putObj_heap_same (Xm.1 gz).1,(World.putObj_heap_other (by omega)).trans me⟩
   rintro e a3 W3 ⟨ja,hp⟩;cases e with
   | normal=>
     obtain ⟨hr,pz,me⟩:=fin none W3 ja;have rC:=hI' _ _ _ hp (bput W3 (w.heap.size+1) (.loop (rec .ready none)) (by omega));obtain ⟨p1,p2,p3⟩:=hc' _ _ rC;refine ⟨_,_,hr,.inl ⟨rfl,p1,p2,p3,hstep _ _ rC,?_,?_⟩⟩;exact (Below.heap_setCell _ ⟨bd,0,none⟩ _ _ (by show w.heap.size+1≠bd;omega)).trans pz;exact (Below.heap_setCell _ ⟨bd,0,none⟩ _ _ (by show w.heap.size≠bd;omega)).trans me
   | ret=>
     obtain ⟨hr,pz,me⟩:=fin (some .ret) W3 ja;exact ⟨_,_,hr,.inr ⟨rfl,hIx _ _ hp (bput W3 (w.heap.size+1) _ (by omega)),pz,me⟩⟩
   | exit id=>exact hp.elim
   | goto t=>exact hp.elim
   | panic ch=>exact hp.elim
   | outgrown=>exact hp.elim
 rintro e W2 ⟨⟨v,rfl⟩,(⟨k,dK,hi,hl,hk⟩|⟨hi,hl,hk⟩)⟩;exact ⟨none,_,by have:=run_endLoop (P:=Tryz.prog) hl (by rw [bA];simp);rw [bA] at this;exact this,hdone _ k _ (Xq _) dK (hI _ _ _ hi (bput _ _ _ (by omega))) ((World.putObj_heap_other (by omega)).trans hk)⟩;refine ⟨some .ret,_,by have:=run_endLoop (P:=Tryz.prog) hl (by rw [bA];simp);rw [bA] at this;exact this,?_⟩;exact wpIn_ret (hstop _ _ (Xq _) (hIx _ _ hi (bput _ _ _ (by omega))) ((World.putObj_heap_other (by omega)).trans hk))
theorem ZiZ (d st:Int) (w):CC 266 #[.I d,.I st] w λr w'=>∃ b2 b3,r=.func (.func 301) #[] #[pQ b2,pQ b3]/\w.heap.size<=b2/\b2<b3/\Blk w' b2 3 [.I d]/\Blk w' b3 3 [.I st]/\Stp [] w w':=by
 refine cW2 6 Tryz.func266 ?_;refine W ?_;refine Z0 (Zn rfl) rfl ?_;rintro _ w1 ⟨b2,rfl,cJ,k2,hS⟩;replace k2:Blk w1 b2 3 [.I d]:=k2;refine Z0 (Zn rfl) rfl ?_;rintro _ w2 ⟨b3,rfl,eD,k3,ak⟩;replace k3:Blk w2 b3 3 [.I st]:=k3;have:=k2.lt;replace k2:=k2.up ak;refine RT ?_;exact ⟨b2,b3,rfl,cJ,by omega,k2,k3,hS.trans ak⟩
theorem Z5W {P:Program} {t b:Nat} {D:TypeDesc} {u:Value} {w:World} [hu:Und P t D] (hA:Z0h D=false) (hc:w.cell? ⟨b,0,none⟩=some u):(loadVar t ⟨b,0,none⟩).run P w=.ok u w:=by
 simp [loadVar,Und.isAgg,hA,hc]
theorem Z9F (b:Nat) (v:Value) (w):Stp [b] w (w.setCell ⟨b,0,none⟩ v):=⟨rfl,rfl,rfl,(KeepsOthers.setCell w ⟨b,0,none⟩ v).size,λk hk hn=>Below.heap_setCell w ⟨b,0,none⟩ v k (λe=>hn (by simp [e]))⟩
theorem Z4E (opn:Int->Bool) (st:Int):∀ (m:Nat) (d:Int) (k:Nat),(∀ j:Nat,j<k->opn (d+st * j)=false)->(m<=k\/Zp (d+st * k)=false)->Z3g opn st m d=(0,31)
 | 0,d,k,_,_=>rfl
 | m + 1, d, k, h, hk => by
   unfold Z3g;cases hd:Zp d with
   | false=>rfl
   | true=>
     rw [if_pos rfl];cases k with
     | zero=>
       rcases hk with hk|hk
       omega;rw [show d+st * ((0:Nat):Int)=d by simp,hd] at hk;cases hk
     | succ k=>
       have h0:=h 0 (by omega);rw [show d+st * ((0:Nat):Int)=d by simp] at h0;rw [if_neg (by rw [h0];simp)];have es:∀ j:Nat,d+st+st * (j:Int)=d+st * ((j+1:Nat):Int):=λj=>by
        rw [YbD,Int.mul_add];simp;omega
       exact Z4E opn st m (d+st) k (λj hj=>by rw [es];exact h (j+1) (by omega)) (hk.imp (λh=>by omega) (λh=>by rw [es];exact h))
theorem Z7c (opn:Int->Bool) (st:Int):∀ (m:Nat) (d:Int) (k:Nat),k<m->(∀ j:Nat,j<=k->Zp (d+st * j)=true)->(∀ j:Nat,j<k->opn (d+st * j)=false)->opn (d+st * k)=true->Z3g opn st m d=(d+st * k,0)
 | 0,d,k,h,_,_,_=>absurd h (Xy _)
 | m + 1, d, k, fI, hi, h, ho => by
   have hd:=hi 0 (Xu _);rw [show d+st * ((0:Nat):Int)=d by simp] at hd;unfold Z3g;rw [hd,if_pos rfl];cases k with
   | zero=>
     rw [show d+st * ((0:Nat):Int)=d by simp] at ho ⊢;rw [if_pos ho]
   | succ k=>
     have h0:=h 0 (by omega);rw [show d+st * ((0:Nat):Int)=d by simp] at h0;rw [if_neg (by rw [h0];simp)];have es:∀ j:Nat,d+st+st * (j:Int)=d+st * ((j+1:Nat):Int):=λj=>by
      rw [YbD,Int.mul_add];simp;omega
     rw [<- es];exact Z7c opn st m (d+st) k (by omega) (λj hj=>by rw [es];exact hi (j+1) (by omega)) (λj hj=>by rw [es];exact h (j+1) (by omega)) (by rw [es];exact ho)
theorem Zek {W:World} {b8 b9:Nat} {u v:Value} (c8:W.cell? ⟨b8,0,none⟩=some u) (c9:W.cell? ⟨b9,0,none⟩=some v) (n:b8≠b9) (x y:Value) :
 ((W.setCell ⟨b8,0,none⟩ x).setCell ⟨b9,0,none⟩ y).cell? ⟨b8,0,none⟩=some x/\((W.setCell ⟨b8,0,none⟩ x).setCell ⟨b9,0,none⟩ y).cell? ⟨b9,0,none⟩=some y:=by
 have h1:(W.setCell ⟨b8,0,none⟩ x).cell? ⟨b8,0,none⟩=some x:=World.cell?_setCell_same _ _ _ c8;have h2:(W.setCell ⟨b8,0,none⟩ x).cell? ⟨b9,0,none⟩=some v:=(World.cell?_setCell_other _ _ _ _ (λh=>n (by injection h))).trans c9;exact ⟨(World.cell?_setCell_other _ _ _ _ (λh=>n (by injection h with h;exact h.symm))).trans h1,World.cell?_setCell_same _ _ _ h2⟩
theorem Z4F (b8 b9:Nat) (x y:Value) (w):Stp [b8,b9] w ((w.setCell ⟨b8,0,none⟩ x).setCell ⟨b9,0,none⟩ y):=((Z9F b8 x w).mono (S':=[b8,b9]) (by simp)).trans ((Z9F b9 y _).mn)
theorem ZcW {tmps:Array Value} {W:World} {b8 b9:Nat} {x y:Value} (h8:tmps.getD 8 undef=pQ b8) (h9:tmps.getD 9 undef=pQ b9) (c8:W.cell? ⟨b8,0,none⟩=some x) (c9:W.cell? ⟨b9,0,none⟩=some y) :
 (results Tryz.f202 tmps).run Tryz.prog W=.ok (.tuple #[x,y]) W:=by
 rw [XJ] at h8 h9;have l8:=Z5W (P:=Tryz.prog) (t:=3) (hu:=(inferInstance:Und Tryz.prog 3 (.int .i64))) rfl c8;have l9:=Z5W (P:=Tryz.prog) (t:=52) (hu:=(inferInstance:Und Tryz.prog 52 (.int .i64))) rfl c9;simp [results,h8,h9,asAddr,l8,l9]
theorem Zj0 (d kn st:Int) (ar:st=1\/st=-1) (c:Cal) (hv cv zo zs hr:Value) (w) (h:Z4D w c hv cv zo zs hr) :
 CallsIn Fence.wide 5 Tryz.prog 202 #[Z5r c hv cv zo zs hr,.I d,.I kn,.I st] w λe W'=>e=.returned (.tuple #[.I (J6 (Zr c kn) st d).1,.I (J6 (Zr c kn) st d).2])/\Stp [] w W':=by
 refine callsIn_of_wp_marks Tryz.func202 rfl trivial ?_ rfl;simp only [Tryz.ntmps202,Yan,Xf,Xh,Nat.reduceAdd,Nat.reduceSub,Array.replicate_succ,Array.replicate_zero,List.push_toArray,List.append_toArray,XW,Yab]
 gi_wp2
 obtain ⟨W1,fa⟩:∃ W1,W1=((w.alloc (.cells (JO c hv cv zo zs hr).toArray 47)).alloc (.cells #[.I 0] 3)).alloc (.cells #[.I 0] 52):=⟨_,rfl⟩
 rw [<- fa];have kc:Blk W1 w.heap.size 47 (JO c hv cv zo zs hr):=by
  rw [fa];exact (Blk.up (World.alloc_heap_new w _) (Stp.alloc _ _ _)).up (Stp.alloc _ _ _)
 have k8:Blk W1 (w.heap.size+1) 3 [.I 0]:=by
  rw [fa];have:=World.alloc_heap_new (w.alloc (.cells (JO c hv cv zo zs hr).toArray 47)) (.cells #[.I 0] 3);rw [World.size_alloc] at this;exact Blk.up this (Stp.alloc _ _ _)
 have k9:Blk W1 (w.heap.size+1+1) 52 [.I 0]:=by
  rw [fa];have:=World.alloc_heap_new ((w.alloc (.cells (JO c hv cv zo zs hr).toArray 47)).alloc (.cells #[.I 0] 3)) (.cells #[.I 0] 52);rw [World.size_alloc,World.size_alloc] at this;exact this
 have ae:Stp [] w W1:=by
  rw [fa];exact ((Stp.alloc _ _ _).trans (Stp.alloc _ _ _)).trans (Stp.alloc _ _ _)
 have xd:w.heap.size<=w.heap.size+1:=by omega
 have xf:w.heap.size<=w.heap.size+1+1:=by omega
 generalize gH:w.heap.size+1+1=b9 at *;generalize eZ:w.heap.size+1=b8 at *;generalize bE:w.heap.size=b4 at *;clear fa;have n89:b8≠b9:=by omega
 have c8:=Boxed.cell (show Boxed W1 b8 3 (.I 0) from k8);have f8:=Boxed.frozen (show Boxed W1 b8 3 (.I 0) from k8);have c9:=Boxed.cell (show Boxed W1 b9 52 (.I 0) from k9);have f9:=Boxed.frozen (show Boxed W1 b9 52 (.I 0) from k9);refine ⟨trivial,?_⟩;refine (callsIn_wide.2 (Z1V d W1)).mono ?_;rintro e w' ⟨v,rfl,rfl,rfl⟩;cases hd:Zp d with
 | false=>
   gi_wp2
   have gY:J6 (Zr c kn) st d=(0,5):=by unfold J6;rw [hd];rfl
   obtain ⟨g8,g9⟩:=Zek c8 c9 n89 (.I 0) (.I 5);refine ⟨_,ZcW rfl rfl g8 g9,?_,?_⟩;rw [gY];exact ae.own (Z4F b8 b9 _ _ _) (λx hx=>by simp at hx;omega)
 | true=>
   have q:=λ(j:Nat) (u:Value) (hu:(JO c hv cv zo zs hr)[j]?=some u)=>kc.cell hu;have q0:=q 0 _ rfl;have q1:=q 1 _ rfl;have q2:=q 2 _ rfl;have q3:=q 3 _ rfl;have q4:=q 4 _ rfl;have q5:=q 5 _ rfl;have q6:=q 6 _ rfl;have q7:=q 7 _ rfl;have q8:=q 8 _ rfl;have q9:=q 9 _ rfl;have q10:=q 10 _ rfl;have q11:=q 11 _ rfl
   gi_wp2
   refine ⟨trivial,?_⟩;refine (callsIn_wide.2 (ZiX kn c hv cv zo zs hr w')).mono ?_;rintro e W2 ⟨v,rfl,⟨b2,b3,rfl,k2,k3⟩,ak⟩;have f8':=Boxed.frozen (show Boxed W2 b8 3 (.I 0) from k8.up ak);have f9':=Boxed.frozen (show Boxed W2 b9 52 (.I 0) from k9.up ak);have c8':=Boxed.cell (show Boxed W2 b8 3 (.I 0) from k8.up ak);have c9':=Boxed.cell (show Boxed W2 b9 52 (.I 0) from k9.up ak);have cN:=Boxed.cell (Boxed.new W2 147 .nilFunc);have fN:=Boxed.frozen (Boxed.new W2 147 .nilFunc);have uw:(store ⟨W2.heap.size,0,none⟩ (.func (.func 299) #[] #[pQ b2,pQ b3])).run Tryz.prog (W2.alloc (.cells #[.nilFunc] 147))=.ok () ((W2.alloc (.cells #[.nilFunc] 147)).setCell ⟨W2.heap.size,0,none⟩ (.func (.func 299) #[] #[pQ b2,pQ b3])):=by
    rw [run_store _ _ _ _ _ rfl];simp [cN,fN]
   gi_wp2
   refine ⟨trivial,?_⟩;refine (callsIn_wide.2 (ZiZ d st _)).mono ?_;rintro e W3 ⟨v,rfl,bd,bs,rfl,fY,cM,kd,ks,az⟩;have cn:W3.cell? ⟨W2.heap.size,0,none⟩=some (.func (.func 299) #[] #[pQ b2,pQ b3]):=az.cell (by simp) (Boxed.cell (Boxed.new W2 147 _));have mf:Stp [] W2 W3:=(Stp.alloc [] W2 _).trans az
   gi_wp2
   have cS:Stp [] w' W3:=ak.trans mf;have h3:=(h.up ae).up cS;have ux:=(k2.up mf).lt;have k2':=k2.up mf;have k3':=k3.up mf;have k8':=k8.up cS;have k9':=k9.up cS;have uy:=mf.size;have xg:W2.heap.size<W3.heap.size:=by have:=block_lt_of_cell cn;simpa using this
   have uz:W2.heap.size<bd:=by simp at fY;omega
   have k8l:=(k8.up ak).lt;have k9l:=(k9.up ak).lt;have k2l:=k2.lt;have k3l:=k3.lt;have nE:=(ZC.1 hd).1;have fX:=(ZC.1 hd).2;have uA:w.heap.size<=bd:=by have:=ae.size;have:=cS.size;have:=ak.size;omega
   have g1:1<w.heap.size:=by have:=block_lt_of_cell (h.len 0 0 rfl);simpa using this
   have g2:5<w.heap.size:=by have:=block_lt_of_cell (h.mov 0 0 rfl);simpa using this
   have uB:=h.hols.ext (X':=[bd]) (ae.trans cS) (by simp) (λb hb=>.inr (by simp at hb;omega));have uC:=h.clos.ext (X':=[bd]) (ae.trans cS) (by simp) (λb hb=>.inr (by simp at hb;omega));have xh:=(ae.trans cS).size;have cal:∀ W,Stp [bd] W3 W->Z4D W c hv cv zo zs hr:=λW hS=>⟨uB.ext (X':=[]) hS (λb hb=>hb) (by simp),uC.ext (X':=[]) hS (λb hb=>hb) (by simp),h3.len.ext hS (by simp;omega),h3.mov.ext hS (by simp;omega),h.ok⟩
   have sb:∀ {S:List Nat} {W W':World},Stp S W3 W->Below W3.heap.size W W'->Stp S W3 W':=λhS hB=>⟨hB.os.trans hS.os,hB.tape.trans hS.tape,hB.output.trans hS.output,Xk hS.size hB.size,λi hi hn=>(hB.block i hi).trans (hS.block i hi hn)⟩
   have ej:=kd.lt;have xi:=ks.lt
   refine ZcV (by omega) rfl rfl ar nE fX kd.lt
    (λk W=>Stp [bd] W3 W/\Boxed W bd 3 (.I (d+st * k))/\∀ j:Nat,j<k->Zr c kn (d+st * j)=false)
    (λk W=>(Stp [bd] W3 W/\Boxed W bd 3 (.I (d+st * k))/\∀ j:Nat,j<k->Zr c kn (d+st * j)=false)/\Zr c kn (d+st * k)=false)
    (λW=>Stp [bd,b8,b9] W3 W/\∃ k:Nat,k<=1000/\Zp (d+st * k)=true/\(∀ j:Nat,j<k->Zr c kn (d+st * j)=false)/\Zr c kn (d+st * k)=true/\W.cell? ⟨b8,0,none⟩=some (.I (d+st * k))/\W.cell? ⟨b9,0,none⟩=some (.I 0))
    ?hI ?hI' ?hIx ?hc ?hc' ?hstep ?h0 (λX=>{ tmps:=#[Z5r c hv cv zo zs hr,.I d,.I kn,.I st,pQ b4,undef,undef,undef,pQ b8,pQ b9,.pointer (some ⟨W2.heap.size,0,none⟩),.I X,.I d,.B true,.B false,Z5r c hv cv zo zs hr,.I kn,.func (.func 299) #[] #[pQ b2,pQ b3],.I d,.I st,.func (.func 301) #[] #[pQ bd,pQ bs],.I X,undef,undef,undef,undef,undef],defers:=[] }) ?hassign ?hbody ?hdone ?hstop
   case hI=>exact λk W W' ⟨a,b,e⟩ hB=>⟨sb a hB,(hB.block bd ej).trans b,e⟩
   case hI'=>exact λk W W' ⟨⟨a,b,e⟩,f⟩ hB=>⟨⟨sb a hB,(hB.block bd ej).trans b,e⟩,f⟩
   case hIx=>exact λW W' ⟨a,k,p1,p2,p3,p4,p5,p6⟩ hB=>⟨sb a hB,k,p1,p2,p3,p4,(World.cell?_of_block (hB.block b8 (by omega))).trans p5,(World.cell?_of_block (hB.block b9 (by omega))).trans p6⟩
   case hc=>exact λk W ⟨a,b,e⟩=>⟨b.cell,a.cell (by simp;omega) (ks.cell rfl)⟩
   case hc'=>exact λk W ⟨⟨a,b,e⟩,f⟩=>⟨b.cell,b.frozen,a.cell (by simp;omega) (ks.cell rfl)⟩
   case hstep=>
    rintro k W ⟨⟨a,b,e⟩,f⟩;have e1:d+st * ((k+1:Nat):Int)=d+st * k+st:=by rcases ar with rfl|rfl<;>omega
    refine ⟨a.trans (Z9F bd _ _),by rw [e1];exact b.set _,λj hj=>?_⟩;by_cases iY:j=k;subst iY;exact f;exact e j (by omega)
   case h0=>exact ⟨Stp.refl _ _,by rw [show d+st * ((0:Nat):Int)=d by simp];exact kd,λj hj=>absurd hj (Xy _)⟩
   case hassign=>
    intro l X W K hK
    gi_wp2
    exact hK
   case hbody=>
    rintro l k W ⟨a,bx,e⟩ jc ba;have uD:=a.cell (b:=W2.heap.size) (o:=0) (by simp;omega) cn;obtain ⟨x0,x1⟩:=ZC.1 ba
    gi_wp2
    refine ⟨trivial,(CallsIn.inRound l (callsIn_wide.2 (Zfx (d+st * k) kn b2 b3 c hv cv zo zs hr W (cal W a) (k2'.ext a (by simp;omega)) (k3'.ext a (by simp;omega)) x0 x1))).mono ?_⟩;rintro e5 W5 ⟨v,rfl,rfl,aC⟩;have a5:=a.trans aC.mn;cases dL:Ze1 c kn (d+st * k) with
    | true=>
      gi_wp2
      exact ⟨λb h1 h2=>aC.block b h2 (by simp),⟨Blk.up (show Blk W bd 3 [.I (d+st * k)] from bx) aC,e⟩,by unfold Zr;rw [ba,dL];rfl⟩
    | false=>
      have f8:=Boxed.frozen (show Boxed W5 b8 3 (.I 0) from k8'.ext a5 (by simp;omega));have f9:=Boxed.frozen (show Boxed W5 b9 52 (.I 0) from k9'.ext a5 (by simp;omega));have c8:=Boxed.cell (show Boxed W5 b8 3 (.I 0) from k8'.ext a5 (by simp;omega));have c9:=Boxed.cell (show Boxed W5 b9 52 (.I 0) from k9'.ext a5 (by simp;omega))
      gi_wp2
      exact ⟨λb h1 h2=>((Z4F b8 b9 _ _ W5).block b (Xi h2 aC.size) (by simp;omega)).trans (aC.block b h2 (by simp)),a5.mn.trans ((Z4F b8 b9 _ _ W5).mn),k,jc,ba,e,by unfold Zr;rw [ba,dL];rfl,rfl⟩
   case hdone=>
    rintro D k W hD dK ⟨a,bx,e⟩ fb;have f8:=Boxed.frozen (show Boxed W b8 3 (.I 0) from k8'.ext a (by simp;omega));have f9:=Boxed.frozen (show Boxed W b9 52 (.I 0) from k9'.ext a (by simp;omega));have c8:=Boxed.cell (show Boxed W b8 3 (.I 0) from k8'.ext a (by simp;omega));have c9:=Boxed.cell (show Boxed W b9 52 (.I 0) from k9'.ext a (by simp;omega))
    gi_wp2
    obtain ⟨y8,y9⟩:=Zek c8 c9 n89 (.I 0) (.I 31);have uE:D<W.heap.size:=(Xm.1 fb).1;have mg:=((Z4F b8 b9 (.I 0) (.I 31) W).block D uE (by simp;omega)).trans fb;have gY:J6 (Zr c kn) st d=(0,31):=by
     unfold J6;rw [hd,if_pos rfl];exact Z4E _ _ _ _ k e (dK.imp (λh=>by omega) id)
    refine ⟨by simp,.inl ⟨_,_,rfl,run_takeDeferred mg,_,ZcW rfl rfl ((World.cell?_of_block (World.putObj_heap_other (by show b8≠D;omega))).trans y8) ((World.cell?_of_block (World.putObj_heap_other (by show b9≠D;omega))).trans y9),?_,?_⟩⟩;rw [gY];have t1:=((ae.trans cS).ow a).own (Z4F b8 b9 (.I 0) (.I 31) W) (λx hx=>.inr (by simp at hx;omega));refine ⟨t1.os,t1.tape,t1.output,by simpa using t1.size,λq hq hn=>(World.putObj_heap_other (by omega)).trans (t1.block q hq hn)⟩
   case hstop=>
    rintro D W hD ⟨a,k,p1,p2,p3,p4,p5,p6⟩ fb
    gi_wp2
    obtain ⟨x0,x1⟩:=ZC.1 p2;have gY:J6 (Zr c kn) st d=(d+st * k,0):=by
     unfold J6;rw [hd,if_pos rfl];refine Z7c _ _ _ _ k (by omega) (λj hj=>ZC.2 ?_) p3 p4;rcases ar with rfl|rfl<;>omega
    refine ⟨by simp,.inl ⟨_,_,rfl,run_takeDeferred fb,_,ZcW rfl rfl ((World.cell?_of_block (World.putObj_heap_other (by show b8≠D;omega))).trans p5) ((World.cell?_of_block (World.putObj_heap_other (by show b9≠D;omega))).trans p6),?_,?_⟩⟩;rw [gY];have t1:=(ae.trans cS).ow a;exact ⟨t1.os,t1.tape,t1.output,by simpa using t1.size,λq hq hn=>(World.putObj_heap_other (by omega)).trans (t1.block q hq hn)⟩
theorem Z2H (d kn st:Int) (c:Cal) (hv cv zo zs hr:Value) (w) (h:Z4D w c hv cv zo zs hr) (ar:st=1\/st=-1) :
 CC 202 #[Z5r c hv cv zo zs hr,.I d,.I kn,.I st] w λr w'=>r=.tuple #[.I (J6 (Zr c kn) st d).1,.I (J6 (Zr c kn) st d).2]/\Stp [] w w':=by
 refine Calls.mono (callsIn_wide.1 (Zj0 d kn st ar c hv cv zo zs hr w h)) ?_;rintro e W' ⟨rfl,hS⟩;exact .mk ⟨rfl,hS⟩
theorem Z5s (d kn:Int) (c:Cal) (hv cv zo zs hr:Value) (w) (h:Z4D w c hv cv zo zs hr) :
 CC 134 #[Z5r c hv cv zo zs hr,.I d,.I kn] w λr w'=>r=.tuple #[.I (J6 (Zr c kn) (1) d).1,.I (J6 (Zr c kn) (1) d).2]/\Stp [] w w':=by
 refine cW3 14 Tryz.func134 ?_;refine W ?_;refine Z0 (Zn rfl) rfl ?_;rintro _ w1 ⟨b3,rfl,eD,ab,hS⟩;replace ab:Blk w1 b3 47 (JO c hv cv zo zs hr):=ab;replace h:=h.up hS;refine W ?_;refine CM (Z67 rfl rfl rfl rfl) (Z2H d kn (1) c hv cv zo zs hr _ h (by omega)) ?_;rintro _ w2 ⟨rfl,ak⟩;refine RT ?_;exact ⟨rfl,hS.trans ak⟩
theorem Z7W (d kn:Int) (c:Cal) (hv cv zo zs hr:Value) (w) (h:Z4D w c hv cv zo zs hr) :
 CC 297 #[Z5r c hv cv zo zs hr,.I d,.I kn] w λr w'=>r=.tuple #[.I (J6 (Zr c kn) (-1) d).1,.I (J6 (Zr c kn) (-1) d).2]/\Stp [] w w':=by
 refine cW3 14 Tryz.func297 ?_;refine W ?_;refine Z0 (Zn rfl) rfl ?_;rintro _ w1 ⟨b3,rfl,eD,ab,hS⟩;replace ab:Blk w1 b3 47 (JO c hv cv zo zs hr):=ab;replace h:=h.up hS;refine W ?_;refine CM (Z67 rfl rfl rfl rfl) (Z2H d kn (-1) c hv cv zo zs hr _ h (by omega)) ?_;rintro _ w2 ⟨rfl,ak⟩;refine RT ?_;exact ⟨rfl,hS.trans ak⟩
theorem Zmb (d n kn:Int) (c:Cal) (hv cv zo zs hr:Value) (w) (h:Z4D w c hv cv zo zs hr) :
 CC 296 #[Z5r c hv cv zo zs hr,.I d,.I n,.I kn] w λr w'=>r=.tuple #[.I (Z5g (Zr c kn) d n).1,.I (Z5g (Zr c kn) d n).2]/\Stp [] w w':=by
 refine cW4 46 Tryz.func296 ?_;refine W ?_;refine Z0 (Zn rfl) rfl ?_;rintro _ w1 ⟨b4,rfl,bE,ab,hS⟩;replace ab:Blk w1 b4 47 (JO c hv cv zo zs hr):=ab;replace h:=h.up hS;refine W ?_;refine CL (Z1V d _) ?_;rintro _ w1 ⟨rfl,rfl⟩;unfold Z5g;cases hd:Zp d with
 | false=>
   rw [if_neg (by simp)];refine RT ?_;exact ⟨rfl,hS⟩
 | true=>
   rw [if_pos rfl];by_cases hn:n < -1000\/1000<n
   . rw [if_pos hn]
     repeat'(first|refine W1 ?_|omega|refine VG ?_ ?_<;>intro hg|refine VC ?_ ?_<;>intro hc)
     all_goals refine WR ?_
     all_goals exact .mk ⟨rfl,hS⟩
   rw [if_neg hn];by_cases uF:n<0;have oO:(n.natAbs:Int)=(-n):=by omega
   have pA:(if n<0 then (-1:Int) else 1)=-1:=by split<;>omega
   rw [pA];refine QO ?_
   refine Zt (σ:=Nat×Int) (λq=>[(1,.I q.2),(3,.I kn),(4,pQ b4),(10,.I (-1)),(28,.I (-n)),(29,.I (q.1:Int))])
    (λq w'=>q.1<=n.natAbs/\Zp q.2=true/\Z5f (Zr c kn) (-1) (n.natAbs - q.1) q.2=Z5f (Zr c kn) (-1) n.natAbs d/\Stp [] w1 w') (λq=>n.natAbs - q.1) (0,d) ⟨rfl,rfl,rfl,rfl,rfl,rfl,trivial⟩ ⟨Xu _,hd,rfl,Stp.refl _ _⟩ ?_
   rintro ⟨k,q⟩ w2 ⟨hk,hq,eo,ak⟩;dsimp only at hk hq eo ⊢;have aS:=ab.up ak;have h2:=h.up ak;have uG:=ZC.1 hq;by_cases hlt:k<n.natAbs;have e1:n.natAbs - k=(n.natAbs - (k+1))+1:=by omega
   rw [e1,Z5f] at eo;refine QO ?_;refine CM (Z67 rfl rfl rfl rfl) (Z2H (q+(-1)) kn (-1) c hv cv zo zs hr _ h2 (by omega)) ?_;rintro _ w3 ⟨rfl,az⟩;by_cases he:(J6 (Zr c kn) (-1) (q+(-1))).2=0;rw [if_pos he] at eo;rw [he];refine W ?_;exact ZF (k+1,(J6 (Zr c kn) (-1) (q+(-1))).1) ⟨rfl,rfl,rfl,rfl,rfl,rfl,trivial⟩ ⟨by dsimp only;omega,(Z3j he).1,eo,ak.trans az⟩ (by dsimp only;omega);rw [if_neg he] at eo;refine QO ?_;refine WR ?_;rw [<- eo];exact .mk ⟨rfl,(hS.trans ak).trans az⟩;have e1:n.natAbs - k=0:=by omega
   rw [e1,Z5f] at eo;refine QO ?_;refine WR ?_;rw [<- eo];exact .mk ⟨rfl,hS.trans ak⟩;have oO:(n.natAbs:Int)=n:=by omega
   have pA:(if n<0 then (-1:Int) else 1)=1:=by split<;>omega
   rw [pA];refine QO ?_
   refine Zt (σ:=Nat×Int) (λq=>[(1,.I q.2),(3,.I kn),(4,pQ b4),(10,.I (1)),(28,.I n),(29,.I (q.1:Int))])
    (λq w'=>q.1<=n.natAbs/\Zp q.2=true/\Z5f (Zr c kn) (1) (n.natAbs - q.1) q.2=Z5f (Zr c kn) (1) n.natAbs d/\Stp [] w1 w') (λq=>n.natAbs - q.1) (0,d) ⟨rfl,rfl,rfl,rfl,rfl,rfl,trivial⟩ ⟨Xu _,hd,rfl,Stp.refl _ _⟩ ?_
   rintro ⟨k,q⟩ w2 ⟨hk,hq,eo,ak⟩;dsimp only at hk hq eo ⊢;have aS:=ab.up ak;have h2:=h.up ak;have uG:=ZC.1 hq;by_cases hlt:k<n.natAbs;have e1:n.natAbs - k=(n.natAbs - (k+1))+1:=by omega
   rw [e1,Z5f] at eo;refine QO ?_;refine CM (Z67 rfl rfl rfl rfl) (Z2H (q+(1)) kn (1) c hv cv zo zs hr _ h2 (by omega)) ?_;rintro _ w3 ⟨rfl,az⟩;by_cases he:(J6 (Zr c kn) (1) (q+(1))).2=0;rw [if_pos he] at eo;rw [he];refine W ?_;exact ZF (k+1,(J6 (Zr c kn) (1) (q+(1))).1) ⟨rfl,rfl,rfl,rfl,rfl,rfl,trivial⟩ ⟨by dsimp only;omega,(Z3j he).1,eo,ak.trans az⟩ (by dsimp only;omega);rw [if_neg he] at eo;refine QO ?_;refine WR ?_;rw [<- eo];exact .mk ⟨rfl,(hS.trans ak).trans az⟩;have e1:n.natAbs - k=0:=by omega
   rw [e1,Z5f] at eo;refine QO ?_;refine WR ?_;rw [<- eo];exact .mk ⟨rfl,hS.trans ak⟩
theorem Z7X (d n:Int) (w) (hL:Z0G w) (h0:0<=d) (h1:d<=3652058) :
 CC 295 #[.I d,.I n] w λr w'=>r=.tuple #[.I (ZaH d n).1,.I (ZaH d n).2]/\Stp [] w w':=by
 obtain ⟨y1,y2,m1,m2,d1,d2,iz⟩:=Z9f h0 h1;have ba:Zp d=true:=ZC.2 ⟨h0,h1⟩;have g1:1<w.heap.size:=by have:=block_lt_of_cell (hL 0 0 rfl);simpa using this
 unfold ZaH;refine cW2 56 Tryz.func295 ?_;by_cases hn:n < -200000\/200000<n
 . rw [if_pos hn]
   repeat'(first|refine W1 ?_|omega|refine VG ?_ ?_<;>intro hg|refine VC ?_ ?_<;>intro hc)
   all_goals refine WR ?_
   all_goals exact .mk ⟨rfl,Stp.refl _ _⟩
 rw [if_neg hn,if_pos ba];refine QO ?_;refine CL (Z9j d _ h0 h1) ?_;rintro _ w1 ⟨rfl,hS⟩;replace hL:=hL.up hS;refine W ?_;refine Z0 Z4 rfl ?_;rintro _ w2 ⟨b6,rfl,eH,e6,ak⟩;refine W ?_;refine SB (us:=[.I (ofM d).y,.I (ofM d).m,.I (ofM d).d]) (by intro u hu;simp at hu;rcases hu with rfl|rfl|rfl<;>rfl) e6 ?_;rintro _ w3 ⟨hT,k6⟩;have uH:w.heap.size<=b6:=by have:=hS.size;omega
 replace hS:=hS.trans (ak.ow hT);replace hL:=hL.up (ak.ow hT);clear e6 hT ak;generalize hM:12 * (ofM d).y+(ofM d).m - 1+n=M;by_cases hr:M<12\/120000<=M
 . rw [if_pos hr]
   refine W ?_;rw [hM];repeat'(first|refine W1 ?_|omega|refine VG ?_ ?_<;>intro hg|refine VC ?_ ?_<;>intro hc)
   all_goals refine WR ?_
   all_goals exact .mk ⟨rfl,hS⟩
 rw [if_neg hr];have eR:=Z4a (M / 12) (M % 12+1);have cm:=Z1Q (y:=M / 12) (k:=(M % 12).toNat) (by omega);rw [show (((M % 12).toNat:Int))=M % 12 by omega] at cm;refine W ?_;rw [hM];refine QO ?_;refine S1 (u:=.I (M / 12)) k6 ?_;rintro _ w4 ⟨aF,k6⟩;refine W ?_;refine S1 (u:=.I (M % 12+1)) k6 ?_;rintro _ w5 ⟨aC,k6⟩;replace hL:=(hL.ext aF (by simp;omega)).ext aC (by simp;omega);replace hS:=(hS.ow aF).ow aC;clear aF aC;refine W ?_;refine ZDr 10 [] [9] [(0,0),(1,1),(2,0),(3,1),(4,0),(5,1),(6,2),(7,0),(8,0),(9,2)] (λw1 ae=>?_);replace hL:=hL.up ae;replace k6:=k6.up ae;replace hS:=hS.trans ae;clear ae;refine D ?_;refine Z9 rfl trivial (Z3 rfl (Zh rfl rfl) (Z2y (M / 12) (M % 12+1) _ hL (by omega) (by omega))) (λ_ _ h=>by rw [h.2];exact Stp.refl _ _) rfl ?_;rintro _ _ ⟨rfl,rfl⟩;refine D ?_;refine Je rfl trivial (Zf (u:=.I (min (ofM d).d (ZG (M / 12) (M % 12+1)))) rfl rfl rfl rfl k6 (by simp)) rfl ?_;rintro _ w6 ⟨cG,k6⟩;replace hS:=hS.ow cG;refine D ?_;refine W ?_;refine CM (ZO rfl) (Z4b (M / 12) (M % 12+1) (min (ofM d).d (ZG (M / 12) (M % 12+1))) _ (by omega) (by omega) (by omega) (by omega) (by omega) (by omega) (by omega)) ?_;rintro _ w7 ⟨rfl,aQ⟩;refine RT ?_;exact ⟨rfl,hS.trans aQ⟩
theorem Zmc (a b:Int) (w):(Instr.build 29 #[(0,.I a),(1,.I b)]).run Tryz.prog w=.ok (agg ((a,b):Spn)) w:=by kernel_rfl
theorem Zj1 (d:Spn) (w):(Instr.buildSlice 39 1 #[(0,agg d)]).run Tryz.prog w=.ok (.slice (some ⟨w.heap.size,0,none⟩) 1 1) (w.alloc (.cells (Z2.enc d).toArray 29)):=by kernel_rfl
section
variable {K:MK} {w w':World} {sv pv:Value} {st:List Int} {sp:List Spn} {at_ er:Int} {dn:Bool}
theorem Mch.cal (hK:KOk K) (h:Mch K w sv pv st sp at_ er dn):Z4D w K.c K.hv K.cv K.zo K.zs K.hr:=
 ⟨(h.hols hK).ext (Stp.refl [] w) (by simp) (by simp),(h.clos hK).ext (Stp.refl [] w) (by simp) (by simp),h.len hK,h.mov hK,hK.cal⟩
theorem Mch.spans (hK:KOk K) (h:Mch K w sv pv st sp at_ er dn) {bs:Nat} (hk:K.nk=some bs) {pv':Value} {sp':List Spn} {w2:World} (hS:Stp (ob pv) w w') (hr:Row [] w' K.w0.heap.size 29 pv' sp') (ho:∀ b∈ob pv',b∈ob pv\/w.heap.size<=b)
 (ak:Stp [bs] w' w2) (hb:Blk w2 bs 39 [pv']):Mch K w2 sv pv' st sp' at_ er dn:=by
 have jO:=hK.bml;have hn:=hK.nkl bs hk;obtain ⟨h1,h2⟩:=h.nt bs hk;have jJ:=λb hb=>(hr.ob_le b hb).1;have eY:=λb hb=>(h2.ob_le b hb).1;have pB:=λb hb=>(h.row.ob_le b hb).1;have pC:=λb hb=>(h.row.ob_le b hb).2;refine ⟨(h.blk.ext hS (λhx=>by have:=eY _ hx;omega)).ext ak (by have:=hn.2;simp;exact λe=>this e.symm),(h.row.keep hS (λb hb hp=>h.ap b hp hb)).keep ak (λb hb hx=>by have:=pB _ hx;simp at hb;omega),λbs' cM=>?_,(λh0=>by rw [hk] at h0;cases h0),λb hb hp=>?_,?_,λp hp=>?_⟩;have cM:bs'=bs:=by rw [hk] at cM;exact (XL cM).symm
 subst cM;exact ⟨hb,hr.keep ak (λb hb hx=>by have:=jJ _ hx;simp at hb;omega)⟩;rcases ho b hp with h3|h3
 exact h.ap b hb h3;have:=pC b hb;omega;exact (h.stp.own (S':=ob pv) hS (λb hb=>.inr (eY b hb))).trans (ak.mono (by simp [MK.own,hk]));obtain ⟨a,b,c,d⟩:=h.prot p hp;have hlt:=(Xm.1 a).1;have a2:=(hS.block p.1 hlt d).trans a;have a3:=(ak.block p.1 (Xm.1 a2).1 (λe=>b (by simp at e;rw [e];simp [MK.own,hk]))).trans a2;exact ⟨a3,b,c,λh3=>(ho _ h3).elim d (λh4=>by omega)⟩
theorem Zfy (hK:KOk K) (h:Mch K w sv pv st sp at_ er dn) {bs:Nat} (hk:K.nk=some bs) (a b:Int) (hl:sp.length<=100000) :
 CC 198 #[.I a,.I b,pQ bs] w λr w'=>r=.tuple #[]/\∃ pv',Mch K w' sv pv' st (sp++[(a,b)]) at_ er dn:=by
 obtain ⟨ab,ac⟩:=h.nt bs hk;have hn:=hK.nkl bs hk;have eY:=λb hb=>(ac.ob_le b hb).1;refine cW3 11 Tryz.func198 ?_;refine W ?_;refine Zc (vs:=[(0,.I a),(1,.I b)]) rfl (Zmc _ _) rfl ?_;refine Z0 (Z1 (vs:=[(0,agg ((a,b):Spn))]) rfl (Zj1 _)) rfl ?_;rintro bv w1 hN;have ae:=Z6.stp hN;have aI:SlV (ob pv++[]) w1 bv [((a,b):Spn)]:=hN.slv (λb hb=>by simp at hb;exact (ac.ob_le b hb).2) rfl rfl (by simp [maxLen]);replace h:=h.up ae;replace ac:=ac.up ae;replace ab:=ab.up ae;refine Z0 (ZA rfl (by decide) rfl rfl ac aI (by simp;omega) (by simp [maxLen];omega) (h.stp.size)) rfl ?_;rintro pv' w2 ⟨cw,ak,ho⟩;have aS:=ab.ext ak (λhx=>by have:=eY _ hx;omega);refine W ?_;have h1:=cw.slv (X:=[]) (by simp);refine Z8 (Zf (u:=pv') rfl rfl h1.cells h1.one aS (by simp)) ?_;rintro _ w3 ⟨az,aM⟩;refine RT ?_;exact ⟨rfl,pv',h.spans hK hk ak cw ho az aM⟩
theorem Z6t {P:Nat} {e:Env} {d:Option Nat} {ty:TypeId} {pos:String} {af:Array Edge} {g:Option (Nat×Bool)} {x y z:Operand} {ts:Array TypeId} (hK:KOk K) (h:Mch K w sv pv st sp at_ er dn) {a b:Int} (hl:sp.length<=100000)
 (hx:ev e x=some (Zne K.nk)) (hy:ev e y=some (.I a)) (hz:ev e z=some (.I b)) :
 OE Tryz.prog P ⟨d,.call { callee:=.value x,args:=#[y,z],argTypes:=ts },ty,pos,af,g⟩ e w (λv w'=>v=.tuple #[]/\∃ pv',Mch K w' sv pv' st (sp++[(a,b)]) at_ er dn):=by
 cases hk:K.nk with
 | none=>
   exact absurd hk hK.nks
 | some bs=>
   rw [hk] at hx;exact Z0v (f:=198) hx (Zh hy hz) rfl (Zfy hK h hk a b hl)
theorem Res.err {r:Int×Int} {st':List Int} {sp':List Spn} (h:Res K w st sp at_ r) (he:¬ r.2=0):Res K w st' sp' at_ r:=by
 obtain ⟨a,b,c,d,h1,h2⟩:=h;exact ⟨a,b,c,d,h1,λh0=>absurd h0 he⟩
theorem Zmd (hK:KOk K) {a b:Int} (h:Mch K w sv pv (st++[a,b]) sp at_ 0 false) (hl:st.length<=100000) (n:Int) (hr:Zp a=true) :
 CC 255 #[mP K,.I n] w λr w'=>r=.tuple #[]/\Res K w' st sp at_ (ZaH a b):=by
 obtain ⟨d0,d1⟩:=ZC.1 hr;refine cW2 18 Tryz.func255 ?_;refine W ?_;refine CL (JM hK h) ?_;rintro _ w1 ⟨rfl,sv1,h1⟩;refine W ?_;refine CL (Z7X a b _ (h1.len hK) d0 d1) ?_;rintro _ w2 ⟨rfl,hS⟩;replace h1:=h1.up hS;refine W ?_;refine CL (Z02 hK h1 hl _ _) ?_;rintro _ w3 ⟨rfl,h2⟩;refine RT ?_;exact ⟨rfl,h2⟩
theorem ZuV (hK:KOk K) {b:Int} (h:Mch K w sv pv (st++[b]) sp at_ 0 false) (hl:st.length<=100000) (fy:sp.length<=100000) (n:Int) :
 CC 257 #[mP K,.I n] w λr w'=>r=.tuple #[]/\Res K w' st (sp++[(b,(J6 (Zr K.c K.kn) 1 b).1)]) at_ (J6 (Zr K.c K.kn) (1) b):=by
 refine cW2 35 Tryz.func257 ?_;refine W ?_;refine CL (Z2F hK h) ?_;rintro _ w1 ⟨rfl,sv1,h1⟩;refine W ?_;refine ZDr 15 [] [] [(0,0),(1,0),(2,0),(3,1),(4,0),(5,0),(6,0),(7,0),(8,1),(9,2),(10,0),(11,0),(12,0),(13,0),(14,0)] (λw1 ae=>?_);replace h1:=h1.up ae;have ab:=h1.blk;unfold Z4v at ab;refine D ?_;refine WD_read rfl trivial (λw' aL=>Zj (us:=JO K.c K.hv K.cv K.zo K.zs K.hr) rfl rfl (ab.up aL) rfl rfl) rfl ?_;refine D ?_;refine DC (Z5s b K.kn K.c K.hv K.cv K.zo K.zs K.hr _ (h1.cal hK)) (λ_ _ h=>h.2) ?_;rintro _ w2 ⟨rfl,ak⟩;replace h1:=h1.up ak;replace ab:=ab.up ak;refine D ?_;by_cases he:(J6 (Zr K.c K.kn) (1) b).2=0;refine QO ?_;refine Z0 (Z6t hK h1 fy rfl rfl rfl) rfl ?_;rintro _ w3 ⟨rfl,pv1,h2⟩;refine W ?_;refine CL (Z02 hK h2 hl _ _) ?_;rintro _ w4 ⟨rfl,h3⟩;refine RT ?_;exact ⟨rfl,h3⟩;refine QO ?_;refine CL (Z02 hK h1 hl _ _) ?_;rintro _ w4 ⟨rfl,h3⟩;refine RT ?_;exact ⟨rfl,h3.err he⟩
theorem ZuW (hK:KOk K) {b:Int} (h:Mch K w sv pv (st++[b]) sp at_ 0 false) (hl:st.length<=100000) (fy:sp.length<=100000) (n:Int) :
 CC 258 #[mP K,.I n] w λr w'=>r=.tuple #[]/\Res K w' st (sp++[((J6 (Zr K.c K.kn) (-1) b).1,b)]) at_ (J6 (Zr K.c K.kn) (-1) b):=by
 refine cW2 35 Tryz.func258 ?_;refine W ?_;refine CL (Z2F hK h) ?_;rintro _ w1 ⟨rfl,sv1,h1⟩;refine W ?_;refine ZDr 15 [] [] [(0,0),(1,0),(2,0),(3,1),(4,0),(5,0),(6,0),(7,0),(8,1),(9,2),(10,0),(11,0),(12,0),(13,0),(14,0)] (λw1 ae=>?_);replace h1:=h1.up ae;have ab:=h1.blk;unfold Z4v at ab;refine D ?_;refine WD_read rfl trivial (λw' aL=>Zj (us:=JO K.c K.hv K.cv K.zo K.zs K.hr) rfl rfl (ab.up aL) rfl rfl) rfl ?_;refine D ?_;refine DC (Z7W b K.kn K.c K.hv K.cv K.zo K.zs K.hr _ (h1.cal hK)) (λ_ _ h=>h.2) ?_;rintro _ w2 ⟨rfl,ak⟩;replace h1:=h1.up ak;replace ab:=ab.up ak;refine D ?_;by_cases he:(J6 (Zr K.c K.kn) (-1) b).2=0;refine QO ?_;refine Z0 (Z6t hK h1 fy rfl rfl rfl) rfl ?_;rintro _ w3 ⟨rfl,pv1,h2⟩;refine W ?_;refine CL (Z02 hK h2 hl _ _) ?_;rintro _ w4 ⟨rfl,h3⟩;refine RT ?_;exact ⟨rfl,h3⟩;refine QO ?_;refine CL (Z02 hK h1 hl _ _) ?_;rintro _ w4 ⟨rfl,h3⟩;refine RT ?_;exact ⟨rfl,h3.err he⟩
theorem Zrl (hK:KOk K) {a b:Int} (h:Mch K w sv pv (st++[a,b]) sp at_ 0 false) (hl:st.length<=100000) (fy:sp.length<=100000) (n:Int) (hr:Zp a=true) :
 CC 256 #[mP K,.I n] w λr w'=>r=.tuple #[]/\Res K w' st (sp++JK 18 a b (Z5g (Zr K.c K.kn) a b).1) at_ (Z5g (Zr K.c K.kn) a b):=by
 obtain ⟨d0,d1⟩:=ZC.1 hr;refine cW2 57 Tryz.func256 ?_;refine W ?_;refine CL (JM hK h) ?_;rintro _ w1 ⟨rfl,sv1,h1⟩;refine W ?_;refine ZDr 16 [] [] [(0,0),(1,0),(2,0),(3,1),(4,0),(5,0),(6,0),(7,0),(8,0),(9,1),(10,2),(11,0),(12,0),(13,0),(14,0),(15,0)] (λw1 ae=>?_);replace h1:=h1.up ae;have ab:=h1.blk;unfold Z4v at ab;refine D ?_;refine WD_read rfl trivial (λw' aL=>Zj (us:=JO K.c K.hv K.cv K.zo K.zs K.hr) rfl rfl (ab.up aL) rfl rfl) rfl ?_;refine D ?_;refine DC (Zmb a b K.kn K.c K.hv K.cv K.zo K.zs K.hr _ (h1.cal hK)) (λ_ _ h=>h.2) ?_;rintro _ w2 ⟨rfl,ak⟩;replace h1:=h1.up ak;replace ab:=ab.up ak;refine D ?_;have cC:JK 18 a b (Z5g (Zr K.c K.kn) a b).1=if 0<b then [(a+1,(Z5g (Zr K.c K.kn) a b).1)] else if b<0 then [((Z5g (Zr K.c K.kn) a b).1,a - 1)] else []:=rfl
 rw [cC];by_cases he:(Z5g (Zr K.c K.kn) a b).2=0;by_cases dF:b=0;rw [if_neg (by omega),if_neg (by omega),XG];refine QO ?_;refine CL (Z02 hK h1 hl _ _) ?_;rintro _ w4 ⟨rfl,h3⟩;refine RT ?_;exact ⟨rfl,h3⟩;by_cases ee:0<b;rw [if_pos ee];refine QO ?_;refine Z0 (Z6t hK h1 fy rfl rfl rfl) rfl ?_;rintro _ w3 ⟨rfl,pv1,h2⟩;refine W ?_;refine CL (Z02 hK h2 hl _ _) ?_;rintro _ w4 ⟨rfl,h3⟩;refine RT ?_;exact ⟨rfl,h3⟩;rw [if_neg ee,if_pos (by omega)];refine QO ?_;refine Z0 (Z6t hK h1 fy rfl rfl rfl) rfl ?_;rintro _ w3 ⟨rfl,pv1,h2⟩;refine W ?_;refine CL (Z02 hK h2 hl _ _) ?_;rintro _ w4 ⟨rfl,h3⟩;refine RT ?_;exact ⟨rfl,h3⟩;refine QO ?_;refine CL (Z02 hK h1 hl _ _) ?_;rintro _ w4 ⟨rfl,h3⟩;refine RT ?_;exact ⟨rfl,h3.err he⟩
end
structure Zbc (code:List Ins) (st:List (Option Shp)) (i:Nat) (s nx:Shp):Prop where
 at_:st.getD i none=some s
 next:ZZ (code.getD i ⟨0,0⟩) s=some nx
 stop:(code.getD i ⟨0,0⟩).op=24->i+1=st.length/\s.length=1
 jump:(code.getD i ⟨0,0⟩).op=13\/(code.getD i ⟨0,0⟩).op=14->(i:Int)<(code.getD i ⟨0,0⟩).n/\(code.getD i ⟨0,0⟩).n<st.length/\st.getD (code.getD i ⟨0,0⟩).n.toNat none=some nx
 on:(code.getD i ⟨0,0⟩).op≠24->(code.getD i ⟨0,0⟩).op≠13->i+1<st.length/\st.getD (i+1) none=some nx
theorem Z1W {st st':List (Option Shp)} {t:Int} {nx:Shp} (h:Jh st t nx=some st'):(∀ i s,st.getD i none=some s->st'.getD i none=some s)/\0<=t/\t<st.length/\st'.getD t.toNat none=some nx:=by
 unfold Jh at h;split at h;rename_i hr;split at h;rename_i s0 bM;split at h;rename_i he;subst he;cases h;exact ⟨λi s h=>h,hr.1,hr.2,bM⟩;cases h;rename_i hn;cases h;refine ⟨λi s h=>?_,hr.1,hr.2,?_⟩;by_cases hi:t.toNat=i;subst hi;rw [hn] at h;cases h;have:(st.set t.toNat (some nx)).getD i none=st.getD i none:=by
  simp [List.getD,hi]
 rw [this];exact h;have:t.toNat<st.length:=by omega
 simp [List.getD,this];cases h
theorem Zbc.keeps {code:List Ins} {st st':List (Option Shp)} {i:Nat} {s nx:Shp} (h:Zbc code st i s nx) (hk:∀ i s,st.getD i none=some s->st'.getD i none=some s) (hl:st'.length=st.length):Zbc code st' i s nx:=
 ⟨hk _ _ h.at_,h.next,λh1=>by rw [hl];exact h.stop h1,λh1=>by rw [hl];exact ⟨(h.jump h1).1,(h.jump h1).2.1,hk _ _ (h.jump h1).2.2⟩,λh1 h2=>by rw [hl];exact ⟨(h.on h1 h2).1,hk _ _ (h.on h1 h2).2⟩⟩
theorem Zfz {code:List Ins} {st st':List (Option Shp)} {i:Nat} (h:Jr st i (code.getD i ⟨0,0⟩)=some st'):(∀ i s,st.getD i none=some s->st'.getD i none=some s)/\st'.length=st.length/\∃ s nx,Zbc code st' i s nx:=by
 unfold Jr at h;cases hs:st.getD i none with
 | none=>rw [hs] at h;cases h
 | some s=>
   rw [hs] at h;dsimp only at h;cases hn:ZZ (code.getD i ⟨0,0⟩) s with
   | none=>rw [hn] at h;cases h
   | some nx=>
     rw [hn] at h;dsimp only at h;by_cases cq:(code.getD i ⟨0,0⟩).op=24;rw [if_pos cq] at h;split at h;rename_i hc;cases h;exact ⟨λ_ _ h=>h,rfl,s,nx,hs,hn,λ_=>hc,λh=>by omega,λh=>absurd cq h⟩;cases h;rw [if_neg cq] at h;by_cases bW:(code.getD i ⟨0,0⟩).op=13;rw [if_pos bW] at h;split at h;rename_i hc;obtain ⟨k1,k2,k3,k4⟩:=Z1W h;have hl:=Jc h;exact ⟨k1,hl,s,nx,k1 _ _ hs,hn,λh=>absurd h cq,λ_=>⟨hc,by omega,k4⟩,λ_ h=>absurd bW h⟩;cases h;rw [if_neg bW] at h;by_cases cV:(code.getD i ⟨0,0⟩).op=14;rw [if_pos cV] at h;split at h;rename_i hc;obtain ⟨s1,r1,r2⟩:=X6.1 h;obtain ⟨k1,k2,k3,k4⟩:=Z1W r1;obtain ⟨m1,m2,m3,m4⟩:=Z1W r2;have hl:=Jc r1;have dJ:=Jc r2;exact ⟨λi s h=>m1 _ _ (k1 _ _ h),by omega,s,nx,m1 _ _ (k1 _ _ hs),hn,λh=>absurd h cq,λ_=>⟨hc,by omega,m1 _ _ k4⟩,λ_ _=>⟨by omega,m4⟩⟩;cases h;rw [if_neg cV] at h;obtain ⟨k1,k2,k3,k4⟩:=Z1W h;have hl:=Jc h;exact ⟨k1,hl,s,nx,k1 _ _ hs,hn,λh=>absurd h cq,λh=>absurd h (not_or.2 ⟨bW,cV⟩),λ_ _=>⟨by omega,k4⟩⟩
theorem Zbd {code:List Ins} {st0:List (Option Shp)}:∀ (k:Nat) (st:List (Option Shp)),Z2U code k st0=some st->(∀ i s,st0.getD i none=some s->st.getD i none=some s)/\st.length=st0.length/\∀ i,i<k->∃ s nx,Zbc code st i s nx
 | 0,st,h=>by cases h;exact ⟨λ_ _ h=>h,rfl,λi hi=>by omega⟩
 | k + 1, st, h => by
   obtain ⟨s1,h1,h2⟩:=X6.1 h;obtain ⟨a1,a2,a3⟩:=Zbd k s1 h1;obtain ⟨b1,b2,b3⟩:=Zfz h2;refine ⟨λi s h=>b1 _ _ (a1 _ _ h),by omega,λi hi=>?_⟩;by_cases hk:i=k;subst hk;exact b3;obtain ⟨s,nx,hg⟩:=a3 i (by omega);exact ⟨s,nx,hg.keeps b1 b2⟩
theorem Z7d {code:List Ins} {t:Int} (h:Z1y code=(t,0)):0<code.length/\code.length<=200/\∃ st:List (Option Shp),st.length=code.length/\ZaB st/\(∀ s,some s∈st->s.length<=16)/\st.getD 0 none=some []/\st.getD (code.length - 1) none=some [t]/\∀ i,i<code.length->∃ s nx,Zbc code st i s nx:=by
 unfold Z1y at h;by_cases hl:code.length=0\/code.length > 200;rw [if_pos hl] at h;cases h;rw [if_neg hl] at h;cases hr:Z2U code code.length (some [] :: List.replicate (code.length - 1) none) with
 | none=>rw [hr] at h;cases h
 | some st=>
   rw [hr] at h;dsimp only at h;obtain ⟨a1,a2,a3⟩:=Zbd _ _ hr;have h0:ZaB ((some []) :: List.replicate (code.length - 1) none):=by
    intro s hs;simp at hs;subst hs;intro k hk;cases hk
   have ai:st.length=code.length:=by rw [a2];simp;omega
   have fB:∀ (k:Nat) (st:List (Option Shp)),Z2U code k (some [] :: List.replicate (code.length - 1) none)=some st->∀ s,some s∈st->s.length<=16:=by
    intro k
    induction k with
    | zero=>
      intro st h s hs;cases h;simp at hs;subst hs;simp
    | succ k ih=>
      intro st h;obtain ⟨s1,h1,h2⟩:=X6.1 h;exact Zij (ih s1 h1) h2
   refine ⟨by omega,by omega,st,ai,(Zig h0 _ _ hr).1,fB _ _ hr,a1 0 [] rfl,?_,a3⟩;obtain ⟨s,nx,hg⟩:=a3 (code.length - 1) (by omega);have bO:=hg.at_;rw [bO] at h ⊢;by_cases cq:(code.getD (code.length - 1) ⟨0,0⟩).op=24;have:=(hg.stop cq).2;obtain ⟨k,rfl⟩:=Ybu.1 this;simp at h;rw [h];by_cases bW:(code.getD (code.length - 1) ⟨0,0⟩).op=13;have:=hg.jump (.inl bW);omega;have:=hg.on cq bW;omega
abbrev Zj2:List (Int×Value):=[(1,fnV 241),(2,fnV 241),(3,fnV 241),(4,fnV 242),
 (5,fnV 243),(6,fnV 244),(7,fnV 245),(8,fnV 246),
 (9,fnV 247),(10,fnV 248),(11,fnV 249),(12,fnV 250),
 (13,fnV 251),(14,fnV 252),(15,fnV 253),(16,fnV 254),
 (17,fnV 255),(18,fnV 256),(19,fnV 257),(20,fnV 258),
 (21,fnV 259),(22,fnV 260),(23,fnV 261),(24,fnV 262)]
abbrev ZuX (z:Int):Value:=.I z
theorem ZfA (w):CC 199 #[] w λr w'=>∃ m,r=.map (some m)/\w.heap.size<=m/\Jf ZuX w' m Zj2/\Stp [] w w':=by
 refine cW0 3 Tryz.func199 ?_;refine W ?_;refine Z0 (Z06 ZuX) rfl ?_;rintro _ w1 ⟨m,rfl,hm,aq,hS⟩;refine Z8 (Zm (a:=(1:Int)) rfl rfl rfl aq (by decide)) ?_;clear aq;rintro _ w2 ⟨aq,hT⟩;replace hS:=hS.ow hT;clear hT;refine Z8 (Zm (a:=(2:Int)) rfl rfl rfl aq (by decide)) ?_;clear aq;rintro _ w2 ⟨aq,hT⟩;replace hS:=hS.ow hT;clear hT;refine Z8 (Zm (a:=(3:Int)) rfl rfl rfl aq (by decide)) ?_;clear aq;rintro _ w2 ⟨aq,hT⟩;replace hS:=hS.ow hT;clear hT;refine Z8 (Zm (a:=(4:Int)) rfl rfl rfl aq (by decide)) ?_;clear aq;rintro _ w2 ⟨aq,hT⟩;replace hS:=hS.ow hT;clear hT;refine Z8 (Zm (a:=(5:Int)) rfl rfl rfl aq (by decide)) ?_;clear aq;rintro _ w2 ⟨aq,hT⟩;replace hS:=hS.ow hT;clear hT;refine Z8 (Zm (a:=(6:Int)) rfl rfl rfl aq (by decide)) ?_;clear aq;rintro _ w2 ⟨aq,hT⟩;replace hS:=hS.ow hT;clear hT;refine Z8 (Zm (a:=(7:Int)) rfl rfl rfl aq (by decide)) ?_;clear aq;rintro _ w2 ⟨aq,hT⟩;replace hS:=hS.ow hT;clear hT;refine Z8 (Zm (a:=(8:Int)) rfl rfl rfl aq (by decide)) ?_;clear aq;rintro _ w2 ⟨aq,hT⟩;replace hS:=hS.ow hT;clear hT;refine Z8 (Zm (a:=(9:Int)) rfl rfl rfl aq (by decide)) ?_;clear aq;rintro _ w2 ⟨aq,hT⟩;replace hS:=hS.ow hT;clear hT;refine Z8 (Zm (a:=(10:Int)) rfl rfl rfl aq (by decide)) ?_;clear aq;rintro _ w2 ⟨aq,hT⟩;replace hS:=hS.ow hT;clear hT;refine Z8 (Zm (a:=(11:Int)) rfl rfl rfl aq (by decide)) ?_;clear aq;rintro _ w2 ⟨aq,hT⟩;replace hS:=hS.ow hT;clear hT;refine Z8 (Zm (a:=(12:Int)) rfl rfl rfl aq (by decide)) ?_;clear aq;rintro _ w2 ⟨aq,hT⟩;replace hS:=hS.ow hT;clear hT;refine Z8 (Zm (a:=(13:Int)) rfl rfl rfl aq (by decide)) ?_;clear aq;rintro _ w2 ⟨aq,hT⟩;replace hS:=hS.ow hT;clear hT;refine Z8 (Zm (a:=(14:Int)) rfl rfl rfl aq (by decide)) ?_;clear aq;rintro _ w2 ⟨aq,hT⟩;replace hS:=hS.ow hT;clear hT;refine Z8 (Zm (a:=(15:Int)) rfl rfl rfl aq (by decide)) ?_;clear aq;rintro _ w2 ⟨aq,hT⟩;replace hS:=hS.ow hT;clear hT;refine Z8 (Zm (a:=(16:Int)) rfl rfl rfl aq (by decide)) ?_;clear aq;rintro _ w2 ⟨aq,hT⟩;replace hS:=hS.ow hT;clear hT;refine Z8 (Zm (a:=(17:Int)) rfl rfl rfl aq (by decide)) ?_;clear aq;rintro _ w2 ⟨aq,hT⟩;replace hS:=hS.ow hT;clear hT;refine Z8 (Zm (a:=(18:Int)) rfl rfl rfl aq (by decide)) ?_;clear aq;rintro _ w2 ⟨aq,hT⟩;replace hS:=hS.ow hT;clear hT;refine Z8 (Zm (a:=(19:Int)) rfl rfl rfl aq (by decide)) ?_;clear aq;rintro _ w2 ⟨aq,hT⟩;replace hS:=hS.ow hT;clear hT;refine Z8 (Zm (a:=(20:Int)) rfl rfl rfl aq (by decide)) ?_;clear aq;rintro _ w2 ⟨aq,hT⟩;replace hS:=hS.ow hT;clear hT;refine Z8 (Zm (a:=(21:Int)) rfl rfl rfl aq (by decide)) ?_;clear aq;rintro _ w2 ⟨aq,hT⟩;replace hS:=hS.ow hT;clear hT;refine Z8 (Zm (a:=(22:Int)) rfl rfl rfl aq (by decide)) ?_;clear aq;rintro _ w2 ⟨aq,hT⟩;replace hS:=hS.ow hT;clear hT;refine Z8 (Zm (a:=(23:Int)) rfl rfl rfl aq (by decide)) ?_;clear aq;rintro _ w2 ⟨aq,hT⟩;replace hS:=hS.ow hT;clear hT;refine Z8 (Zm (a:=(24:Int)) rfl rfl rfl aq (by decide)) ?_;clear aq;rintro _ w2 ⟨aq,hT⟩;replace hS:=hS.ow hT;clear hT;refine RT ?_;exact ⟨m,rfl,hm,aq,hS⟩
theorem ZcX {x:Ins} {s nx:Shp} {st:List Int} (hn:ZZ x s=some nx) (hs:Z00 s st):(Zk x).2.2.2=true/\∃ st0 vs ts,st=st0++vs/\(ts=(Zk x).1\/(Zk x).2.1≠[]/\ts=(Zk x).2.1)/\Z00 ts vs:=by
 unfold ZZ at hn;dsimp only at hn;split at hn;rename_i hc;obtain ⟨c1,c2,c3,c4⟩:=hc;exact ⟨c1,st.take (s.length - (Zk x).1.length),st.drop (s.length - (Zk x).1.length),_,(XN _ _).symm,c3,hs.drop _⟩;cases hn
def JX (K:MK) (w:World) (x:Ins) (st:List Int) (sp:List Spn) (sv pv:Value) (at_:Int):Prop:=
 if x.op=24 then Mch K w sv pv st sp at_ 0 true
 else if x.op=13 then Mch K w sv pv st sp x.n 0 false
 else if x.op=14 then ∃ sv',Mch K w sv' pv st.dropLast sp (if JN st 0=0 then x.n else at_) 0 false
 else Res K w (st.take (st.length - arM x.op)) (sp++JK x.op (JN st 1) (JN st 0) (JT (Zr K.c K.kn) K.ev x (JN st 1) (JN st 0)).1) at_ (JT (Zr K.c K.kn) K.ev x (JN st 1) (JN st 0))
theorem Z4G {t v:Int} (h:vOk t v):-2147483647<=v/\v<=2147483647:=by unfold vOk at h;omega
theorem ZvM {t u a b:Int} (ha:vOk t a) (hb:vOk u b):I64 (a * b):=by
 have h1:=Z4G ha;have h2:=Z4G hb;have h3:(a * b).natAbs<=2147483647 * 2147483647:=by rw [Int.natAbs_mul];exact YaV (by omega) (by omega)
 unfold I64;omega
section
variable {K:MK} {w w':World} {sv pv:Value} {st:List Int} {sp:List Spn} {at_ er:Int} {dn:Bool}
theorem Zme {P:Nat} {e:Env} {d:Option Nat} {ty:TypeId} {pos:String} {af:Array Edge} {g:Option (Nat×Bool)} {y1 y2 y3:Operand} {ts:Array TypeId} (hK:KOk K) {x:Ins} {s nx:Shp}
 (h:Mch K w sv pv st sp at_ 0 false) (hn:ZZ x s=some nx) (hs:Z00 s st) (hl:st.length<=100000) (fy:sp.length<=100000)
 (hx:ev e y1=some (Z0t Zj2 x.op .nilFunc)) (hy:ev e y2=some (mP K)) (hz:ev e y3=some (.I x.n)) :
 OE Tryz.prog P ⟨d,.call { callee:=.value y1,args:=#[y2,y3],argTypes:=ts },ty,pos,af,g⟩ e w (λv w'=>v=.tuple #[]/\JX K w' x st sp sv pv at_):=by
 obtain ⟨kT,st0,vs,ts',rfl,cY,cy⟩:=ZcX hn hs;have hr:=Z6Y kT;obtain ⟨op,n⟩:=x;dsimp only at *;have cm:st0.length<=100000:=by rw [Xb] at hl;omega
 have fW:op=1\/op=2\/op=3\/op=4\/op=5\/op=6\/op=7\/op=8\/op=9\/op=10\/op=11\/op=12\/op=13\/op=14\/op=15\/op=16\/op=17\/op=18\/op=19\/op=20\/op=21\/op=22\/op=23\/op=24:=by omega
 rcases fW with rfl|rfl|rfl|rfl|rfl|rfl|rfl|rfl|rfl|rfl|rfl|rfl|rfl|rfl|rfl|rfl|rfl|rfl|rfl|rfl|rfl|rfl|rfl|rfl
 all_goals (simp [Zk] at kT cY)
 all_goals (try subst cY)
 case inl|inr.inl|inr.inr.inl=>
  refine (Z3 (f:=241) hx (Zh hy hz) (Zrf hK h hl n)).mono ?_;rintro v w' ⟨rfl,ay⟩;refine ⟨rfl,?_⟩;unfold JX;have et:List.take (st0.length+vs.length) (st0++vs)=st0++vs:=XR (by simp);simpa [arM,JK,JT,et] using ay
 case inr.inr.inr.inl=>
  refine (Z3 (f:=242) hx (Zh hy hz) (fieldV hK h hl n (by omega) (by omega))).mono ?_;rintro v w' ⟨rfl,ay⟩;refine ⟨rfl,?_⟩;unfold JX;have et:List.take (st0.length+vs.length) (st0++vs)=st0++vs:=XR (by simp);simpa [arM,JK,JT,et] using ay
 case inr.inr.inr.inr.inl=>
  obtain ⟨a,b,rfl,ha,hb⟩:=cy.two_inv;refine (Z3 (f:=243) hx (Zh hy hz) (ZvG hK h cm n (by have:=Z4G ha;have:=Z4G hb;unfold I64;omega))).mono ?_;rintro v w' ⟨rfl,ay⟩;refine ⟨rfl,?_⟩;unfold JX;simpa [arM,JK,JT,Z3i,J3] using ay
 case inr.inr.inr.inr.inr.inl=>
  obtain ⟨a,b,rfl,ha,hb⟩:=cy.two_inv;refine (Z3 (f:=244) hx (Zh hy hz) (ZvH hK h cm n (by have:=Z4G ha;have:=Z4G hb;unfold I64;omega))).mono ?_;rintro v w' ⟨rfl,ay⟩;refine ⟨rfl,?_⟩;unfold JX;simpa [arM,JK,JT,Z3i,J3] using ay
 case inr.inr.inr.inr.inr.inr.inl=>
  obtain ⟨a,b,rfl,ha,hb⟩:=cy.two_inv;refine (Z3 (f:=245) hx (Zh hy hz) (ZvI hK h cm n (ZvM ha hb))).mono ?_;rintro v w' ⟨rfl,ay⟩;refine ⟨rfl,?_⟩;unfold JX;simpa [arM,JK,JT,Z3i,J3] using ay
 case inr.inr.inr.inr.inr.inr.inr.inr.inl=>
  obtain ⟨a,b,rfl⟩:∃ a b,vs=[a,b]:=by
   rcases cY with rfl|rfl
   all_goals
    obtain ⟨a,b,h1,-⟩:=cy.two_inv;exact ⟨a,b,h1⟩
  refine (Z3 (f:=247) hx (Zh hy hz) (ltV hK h cm n trivial)).mono ?_;rintro v w' ⟨rfl,ay⟩;refine ⟨rfl,?_⟩;unfold JX;simpa [arM,JK,JT,Z3i,J3] using ay
 case inr.inr.inr.inr.inr.inr.inr.inr.inr.inl=>
  obtain ⟨a,b,rfl⟩:∃ a b,vs=[a,b]:=by
   rcases cY with rfl|rfl
   all_goals
    obtain ⟨a,b,h1,-⟩:=cy.two_inv;exact ⟨a,b,h1⟩
  refine (Z3 (f:=248) hx (Zh hy hz) (leV hK h cm n trivial)).mono ?_;rintro v w' ⟨rfl,ay⟩;refine ⟨rfl,?_⟩;unfold JX;simpa [arM,JK,JT,Z3i,J3] using ay
 case inr.inr.inr.inr.inr.inr.inr.inr.inr.inr.inl=>
  obtain ⟨a,b,rfl⟩:∃ a b,vs=[a,b]:=by
   rcases cY with rfl|rfl
   all_goals
    obtain ⟨a,b,h1,-⟩:=cy.two_inv;exact ⟨a,b,h1⟩
  refine (Z3 (f:=249) hx (Zh hy hz) (eqV hK h cm n trivial)).mono ?_;rintro v w' ⟨rfl,ay⟩;refine ⟨rfl,?_⟩;unfold JX;simpa [arM,JK,JT,Z3i,J3] using ay
 case inr.inr.inr.inr.inr.inr.inr.inr.inr.inr.inr.inr.inr.inr.inl=>
  obtain ⟨a,b,rfl,ha,hb⟩:=cy.two_inv;refine (Z3 (f:=253) hx (Zh hy hz) (ZuN hK h cm n (by have:=Z4G ha;have:=Z4G hb;unfold I64;omega))).mono ?_;rintro v w' ⟨rfl,ay⟩;refine ⟨rfl,?_⟩;unfold JX;simpa [arM,JK,JT,Z3i,J3] using ay
 case inr.inr.inr.inr.inr.inr.inr.inr.inr.inr.inr.inr.inr.inr.inr.inl=>
  obtain ⟨a,b,rfl,ha,hb⟩:=cy.two_inv;refine (Z3 (f:=254) hx (Zh hy hz) (Zrg hK h cm n (by have:=Z4G ha;have:=Z4G hb;unfold I64;omega))).mono ?_;rintro v w' ⟨rfl,ay⟩;refine ⟨rfl,?_⟩;unfold JX;simpa [arM,JK,JT,Z3i,J3] using ay
 case inr.inr.inr.inr.inr.inr.inr.inr.inr.inr.inr.inr.inr.inr.inr.inr.inl=>
  obtain ⟨a,b,rfl,ha,hb⟩:=cy.two_inv;refine (Z3 (f:=255) hx (Zh hy hz) (Zmd hK h cm n (ZC.2 ha.d))).mono ?_;rintro v w' ⟨rfl,ay⟩;refine ⟨rfl,?_⟩;unfold JX;simpa [arM,JK,JT,Z3i,J3] using ay
 case inr.inr.inr.inr.inr.inr.inr.inr.inr.inr.inr.inr.inr.inr.inr.inr.inr.inl=>
  obtain ⟨a,b,rfl,ha,hb⟩:=cy.two_inv;refine (Z3 (f:=256) hx (Zh hy hz) (Zrl hK h cm fy n (ZC.2 ha.d))).mono ?_;rintro v w' ⟨rfl,ay⟩;refine ⟨rfl,?_⟩;unfold JX;simpa [arM,JK,JT,Z3i,J3] using ay
 case inr.inr.inr.inr.inr.inr.inr.inr.inr.inr.inr.inr.inr.inr.inr.inr.inr.inr.inr.inr.inl=>
  obtain ⟨a,b,rfl,ha,hb⟩:=cy.two_inv;refine (Z3 (f:=259) hx (Zh hy hz) (Zrh hK h cm n trivial)).mono ?_;rintro v w' ⟨rfl,ay⟩;refine ⟨rfl,?_⟩;unfold JX;simpa [arM,JK,JT,Z3i,J3] using ay
 case inr.inr.inr.inr.inr.inr.inr.inr.inr.inr.inr.inr.inr.inr.inr.inr.inr.inr.inr.inr.inr.inl=>
  obtain ⟨a,b,rfl,ha,hb⟩:=cy.two_inv;refine (Z3 (f:=260) hx (Zh hy hz) (ZiO hK h cm n trivial)).mono ?_;rintro v w' ⟨rfl,ay⟩;refine ⟨rfl,?_⟩;unfold JX;simpa [arM,JK,JT,Z3i,J3] using ay
 case inr.inr.inr.inr.inr.inr.inr.inr.inr.inr.inr.inr.inr.inr.inr.inr.inr.inr.inr.inr.inr.inr.inl=>
  obtain ⟨a,b,rfl,ha,hb⟩:=cy.two_inv;refine (Z3 (f:=261) hx (Zh hy hz) (ZiP hK h cm n (by have:=Z4G ha;have:=Z4G hb;unfold I64;omega))).mono ?_;rintro v w' ⟨rfl,ay⟩;refine ⟨rfl,?_⟩;unfold JX;have e:Z3R (b - a)=(b - a,0):=by
   have:=ha.d;have:=hb.d;unfold Z3R;rw [if_neg (by omega)]
  rw [e] at ay;simpa [arM,JK,JT,Z3i,J3] using ay
 case inr.inr.inr.inr.inr.inr.inr.inl=>
  obtain ⟨b,rfl,hb⟩:=cy.one_inv;refine (Z3 (f:=246) hx (Zh hy hz) (ZvJ hK h cm n (by have:=Z4G hb;unfold I64;omega))).mono ?_;rintro v w' ⟨rfl,ay⟩;refine ⟨rfl,?_⟩;unfold JX;have e:Z3R (-b)=(-b,0):=by
   have:=Z4G hb;unfold Z3R;rw [if_neg (by omega)]
  rw [e] at ay;simpa [arM,JK,JT,ZaJ,Z1p] using ay
 case inr.inr.inr.inr.inr.inr.inr.inr.inr.inr.inr.inl=>
  obtain ⟨b,rfl,hb⟩:=cy.one_inv;refine (Z3 (f:=250) hx (Zh hy hz) (ZvK hK h cm n)).mono ?_;rintro v w' ⟨rfl,ay⟩;refine ⟨rfl,?_⟩;unfold JX;have e:Z3h (decide (b=0))=1 - b:=by
   rcases hb.b with rfl|rfl<;>rfl
  rw [e] at ay;simpa [arM,JK,JT,ZaJ,Z1p] using ay
 case inr.inr.inr.inr.inr.inr.inr.inr.inr.inr.inr.inr.inr.inr.inr.inr.inr.inr.inl=>
  obtain ⟨b,rfl,hb⟩:=cy.one_inv;refine (Z3 (f:=257) hx (Zh hy hz) (ZuV hK h cm fy n)).mono ?_;rintro v w' ⟨rfl,ay⟩;refine ⟨rfl,?_⟩;unfold JX;simpa [arM,JK,JT,ZaJ,Z1p] using ay
 case inr.inr.inr.inr.inr.inr.inr.inr.inr.inr.inr.inr.inr.inr.inr.inr.inr.inr.inr.inl=>
  obtain ⟨b,rfl,hb⟩:=cy.one_inv;refine (Z3 (f:=258) hx (Zh hy hz) (ZuW hK h cm fy n)).mono ?_;rintro v w' ⟨rfl,ay⟩;refine ⟨rfl,?_⟩;unfold JX;simpa [arM,JK,JT,ZaJ,Z1p] using ay
 case inr.inr.inr.inr.inr.inr.inr.inr.inr.inr.inr.inr.inl=>
  refine (Z3 (f:=251) hx (Zh hy hz) (ZuO hK h n)).mono ?_;rintro v w' ⟨rfl,ay⟩;refine ⟨rfl,?_⟩;unfold JX;simpa using ay
 case inr.inr.inr.inr.inr.inr.inr.inr.inr.inr.inr.inr.inr.inl=>
  obtain ⟨b,rfl,hb⟩:=cy.one_inv;refine (Z3 (f:=252) hx (Zh hy hz) (Zm0 hK h n)).mono ?_;rintro v w' ⟨rfl,ay⟩;refine ⟨rfl,?_⟩;unfold JX;simpa [Z1p] using ay
 case inr.inr.inr.inr.inr.inr.inr.inr.inr.inr.inr.inr.inr.inr.inr.inr.inr.inr.inr.inr.inr.inr.inr=>
  refine (Z3 (f:=262) hx (Zh hy hz) (ZuP hK h n)).mono ?_;rintro v w' ⟨rfl,ay⟩;refine ⟨rfl,?_⟩;unfold JX;simpa using ay
end
abbrev Zmf (ev:List Int):Value:=.agg (evC ev).toArray
theorem Zmg (ev:List Int) (c:Cal) (hv cv zo zs hr:Value) (kn:Int) (b:Addr) (w) :
 (Instr.build 272 #[(0, Zmf ev), (1, Z5r c hv cv zo zs hr), (2, .I kn), (7, .func (.func 198) #[] #[.pointer (some b)])]).run Tryz.prog w
   = .ok (.agg (evC ev++JO c hv cv zo zs hr++([.I kn,.N,.I 0,.I 0,.B false,.func (.func 198) #[] #[.pointer (some b)]]:List Value)).toArray) w:=by kernel_rfl
theorem Zj3 {x:Ins} {s nx:Shp} (hx:x.op=13) (hn:ZZ x s=some nx):nx=s:=by
 obtain ⟨op,n⟩:=x;dsimp only at hx;subst hx;simp [ZZ,Zk] at hn;exact hn.2.symm
theorem Zj4 {x:Ins} {s nx:Shp} (hx:x.op=14) (hn:ZZ x s=some nx):nx=s.dropLast:=by
 obtain ⟨op,n⟩:=x;dsimp only at hx;subst hx;simp [ZZ,Zk] at hn;rw [YaY];exact hn.2.symm
def Zmh (K:MK) (code:List Ins) (sh:List (Option Shp)) (q:Nat×Bool) (w:World):Prop:=
 ∃ sv pv st sp at_ er, Mch K w sv pv st sp at_ er q.2/\
   (q.2=false->er=0/\at_=(q.1:Int)/\q.1<code.length/\sp.length<=q.1/\(∃ s,sh.getD q.1 none=some s/\Z00 s st)/\∃ f,code.length<=f+q.1/\Z6a (Zr K.c K.kn) K.ev code f q.1 st sp=Js (Zr K.c K.kn) K.ev code)/\
   (q.2=true->(er=0/\∃ x,st=[x]/\Js (Zr K.c K.kn) K.ev code=(x,sp,0))\/(er≠0/\Js (Zr K.c K.kn) K.ev code=(0,[],er)))
theorem Zmh.step {K:MK} {code:List Ins} {sh:List (Option Shp)} {i:Nat} {x:Ins} {s nx:Shp} {st:List Int} {sp:List Spn} {w} {sv pv:Value} {f:Nat} (hK:KOk K) (hi:i<code.length) (hx:code.getD i ⟨0,0⟩=x) (ai:sh.length=code.length)
 (hg:Zbc code sh i s nx) (fB:∀ s,some s∈sh->s.length<=16) (ar:Z00 s st) (cC:sp.length<=i) (hf:code.length<=f+i) (hr:Z6a (Zr K.c K.kn) K.ev code f i st sp=Js (Zr K.c K.kn) K.ev code)
 (h:JX K w x st sp sv pv ((i+1:Nat):Int)):∃ q:Nat×Bool,Zmh K code sh q w/\(if q.2=true then 0 else code.length+1 - q.1)<code.length+1 - i:=by
 obtain ⟨f,rfl⟩:∃ f',f=f'+1:=⟨f - 1,by omega⟩
 rw [Z6a] at hr;rw [hx] at hr;have hn:=hg.next;rw [hx] at hn;unfold JX at h;by_cases cq:x.op=24;rw [if_pos cq] at h hr;obtain ⟨bU,aO⟩:=hg.stop (by rw [hx];exact cq);have eR:st.length=1:=by rw [<- ar.1];exact aO
 obtain ⟨a,rfl⟩:=Ybu.1 eR;refine ⟨(i,true),⟨sv,pv,[a],sp,_,0,h,(λhq=>by cases hq),λ_=>.inl ⟨rfl,a,rfl,?_⟩⟩,by simp;omega⟩;rw [<- hr];rfl;rw [if_neg cq] at h hr;by_cases bW:x.op=13;rw [if_pos bW] at h hr;obtain ⟨j1,j2,j3⟩:=hg.jump (.inl (by rw [hx];exact bW));rw [hx] at j1 j2 j3;have cF:=Zj3 bW hn;subst cF;refine ⟨(x.n.toNat,false),⟨sv,pv,st,sp,_,0,h,λ_=>⟨rfl,by omega,by omega,by dsimp only;omega,⟨_,j3,ar⟩,f,by dsimp only;omega,hr⟩,λhq=>by cases hq⟩,by simp;omega⟩;rw [if_neg bW] at h hr;by_cases cV:x.op=14;rw [if_pos cV] at h hr;obtain ⟨j1,j2,j3⟩:=hg.jump (.inr (by rw [hx];exact cV));obtain ⟨o1,o2⟩:=hg.on (by rw [hx];exact cq) (by rw [hx];exact bW);rw [hx] at j1 j2 j3;have cF:=Zj4 cV hn;have gP:Z00 nx st.dropLast:=by
  rw [cF,YaY,YaY,<- ar.1];exact ar.take _
 obtain ⟨sv',h⟩:=h;by_cases hb:JN st 0=0;rw [if_pos hb] at h hr;exact ⟨(x.n.toNat,false),⟨sv',pv,st.dropLast,sp,_,0,h,λ_=>⟨rfl,by omega,by omega,by dsimp only;omega,⟨_,j3,gP⟩,f,by dsimp only;omega,hr⟩,λhq=>by cases hq⟩,by simp;omega⟩;rw [if_neg hb] at h hr;exact ⟨(i+1,false),⟨sv',pv,st.dropLast,sp,_,0,h,λ_=>⟨rfl,rfl,by omega,by dsimp only;omega,⟨_,o2,gP⟩,f,by dsimp only;omega,hr⟩,λhq=>by cases hq⟩,by simp;omega⟩;rw [if_neg cV] at h hr;obtain ⟨o1,o2⟩:=hg.on (by rw [hx];exact cq) (by rw [hx];exact bW);obtain ⟨sv',pv',st',sp',hM,aK⟩:=h;by_cases he:(JT (Zr K.c K.kn) K.ev x (JN st 1) (JN st 0)).2=0
 . rw [if_pos he] at hr
   obtain ⟨e1,e2⟩:=aK he;subst e1 e2;rw [he] at hM;have au:(JK x.op (JN st 1) (JN st 0) (JT (Zr K.c K.kn) K.ev x (JN st 1) (JN st 0)).1).length<=1:=by
    unfold JK;repeat' split
    all_goals simp
   refine ⟨(i+1,false),⟨sv',pv',_,_,_,0,hM,λ_=>⟨rfl,rfl,by omega,by dsimp only;rw [Xb];omega,⟨_,o2,ZaL hK.ev hn cq bW cV ar he⟩,f,by dsimp only;omega,hr⟩,λhq=>by cases hq⟩,by simp;omega⟩
 rw [if_neg he] at hr;have hd:decide (¬ (JT (Zr K.c K.kn) K.ev x (JN st 1) (JN st 0)).2=0)=true:=decide_eq_true he;rw [hd] at hM;exact ⟨(i,true),⟨sv',pv',_,_,_,_,hM,(λhq=>by cases hq),λ_=>.inr ⟨he,hr.symm⟩⟩,by simp;omega⟩
theorem Zbe (v:Value) (code:List Ins) (t kn:Int) (ev:List Int) (c:Cal) (hv cv zo zs hr:Value) (w) (hs:SlV [] w v code) (pD:Z1y code=(t,0)) (ep:Z4D w c hv cv zo zs hr) (cb:ZcE ev) (ho:zo.oneCell'=true/\zs.oneCell'=true/\hr.oneCell'=true) :
 CC 132 #[v,Zmf ev,Z5r c hv cv zo zs hr,.I kn] w λr w'=>∃ pv,r=.tuple #[.I (Js (Zr c kn) ev code).1,pv,.I (Js (Zr c kn) ev code).2.2]/\ZE 29 w w' pv (Js (Zr c kn) ev code).2.1:=by
 obtain ⟨cm,rD,sh,ai,aK,fB,j8,mh,cE⟩:=Z7d pD;refine cW4 63 Tryz.func132 ?_;refine W ?_;refine Z0 (Zn rfl) rfl ?_;rintro _ w1 ⟨b5,rfl,iG,k5,hS⟩;replace k5:Blk w1 b5 209 (evC ev):=k5;refine Z0 (Zn rfl) rfl ?_;rintro _ w2 ⟨b6,rfl,eH,k6,ak⟩;replace k6:Blk w2 b6 47 (JO c hv cv zo zs hr):=k6;replace k5:=k5.up ak;replace hS:=hS.trans ak;refine W ?_;refine Z0 Z4 rfl ?_;rintro _ w3 ⟨bs,rfl,cM,ks,az⟩;replace k5:=k5.up az;replace k6:=k6.up az;have uI:w.heap.size<=bs:=Xk hS.size cM;replace hS:=hS.trans az;refine W ?_;refine Zc (vs:=[(0,Zmf ev),(1,Z5r c hv cv zo zs hr),(2,.I kn),(7,.func (.func 198) #[] #[pQ bs])]) rfl (Zmg ev c hv cv zo zs hr kn _) rfl ?_;refine Z0 (Zn rfl) rfl ?_;rintro _ w4 ⟨bm,rfl,jO,km,aF⟩;replace km:Blk w4 bm 272 (evC ev++JO c hv cv zo zs hr++[.I kn,.N,.I 0,.I 0,.B false,.func (.func 198) #[] #[pQ bs]]):=km;have uJ:w.heap.size<=bm:=Xk hS.size jO;have pE:bm≠bs:=by have:=ks.lt;omega
 replace ks:=ks.up aF;replace hS:=hS.trans aF;clear k5 k6 ak az aF;refine W ?_;refine CL (ZfA _) ?_;rintro _ w5 ⟨m,rfl,hm,aq,aC⟩;obtain ⟨K,e1,e2,hk,e4,e5,e6,e7,e8,e9,e10,e11,e12⟩:∃ K:MK,K.w0=w5/\K.bm=bm/\K.nk=some bs/\K.ev=ev/\K.c=c/\K.kn=kn/\K.hv=hv/\K.cv=cv/\K.zo=zo/\K.zs=zs/\K.hr=hr/\K.pr=[]:=⟨⟨w5,bm,some bs,ev,c,kn,hv,cv,zo,zs,hr,[]⟩,rfl,rfl,rfl,rfl,rfl,rfl,rfl,rfl,rfl,rfl,rfl,rfl⟩
 subst e1 e2 e4 e5 e6 e7 e8 e9 e10 e11;have kU:=hS.trans aC;have own_ge:∀ b∈K.own,w.heap.size<=b:=λb hb=>by simp [MK.own,hk] at hb;omega
 have pF:m∉K.own:=λhb=>by
  have:=km.lt;have:=ks.lt;simp [MK.own,hk] at hb;omega
 have pG:=ep.up kU;have g1:1<w.heap.size:=by have:=block_lt_of_cell (ep.len 0 0 rfl);simpa using this
 have g2:5<w.heap.size:=by have:=block_lt_of_cell (ep.mov 0 0 rfl);simpa using this
 have hK:KOk K:=
  { hols := ep.hols.ext kU (by simp) (λb hb => .inr (own_ge b hb))
    clos:=ep.clos.ext kU (by simp) (λb hb=>.inr (own_ge b hb))
    ozo:=ho.1,ozs:=ho.2.1,ohr:=ho.2.2
    len:=pG.len,mov:=pG.mov
    bml:=(km.up aC).lt
    nkl:=λb hb=>by rw [hk] at hb;cases hb;exact ⟨(ks.up aC).lt,λh=>pE h.symm⟩
    gl:=λb hb=>by have:=own_ge b hb;omega
    cal:=ep.ok
    ev:=cb,nks:=by rw [hk];simp }
 have hM:Mch K K.w0 (.N) (.N) [] [] 0 0 false:=
  { blk := by unfold Z4v; rw [hk]; exact km.up aC
    row:=Row.nil
    nt:=λb hb=>by rw [hk] at hb;cases hb;exact ⟨ks.up aC,Row.nil⟩
    nt0:=λ_=>rfl
    ap:=by simp [ob]
    stp:=Stp.refl _ _
    prot:=λp hp=>by rw [e12] at hp;cases hp }
 have bM:SlV K.own K.w0 v code:=hs.ext kU (by simp) (λb hb=>.inr (own_ge b hb));clear hs km ks pG;refine W ?_
 refine Zt (σ:=Nat×Bool) (λ_=>[(0,v),(11,pQ bs),(13,mP K),(14,.map (some m))])
  (λq w'=>Zmh K code sh q w') (λq=>if q.2=true then 0 else code.length+1 - q.1) (0,false) ⟨rfl,rfl,rfl,rfl,trivial⟩ ⟨_,_,[],[],0,0,hM,λ_=>⟨rfl,rfl,cm,Xq _,⟨[],j8,Z00.nil⟩,code.length,Xq _,rfl⟩,λh=>by cases h⟩ ?_
 clear hM;rintro ⟨i,dn⟩ w6 ⟨sv,pv,st,sp,at_,er,hM,aJ,hdone⟩;dsimp only at hM aJ hdone ⊢;have ab:=hM.blk;unfold Z4v at ab;cases dn with
 | false=>
   obtain ⟨rfl,rfl,hi,cC,⟨s,iJ,ar⟩,f,hf,hr⟩:=aJ rfl;obtain ⟨s',nx,hg⟩:=cE i hi;have jo:s'=s:=by have:=hg.at_;rw [iJ] at this;exact (XL this).symm
   subst jo;have au:=bM.ext (X':=[]) hM.stp (λb hb=>hb) (by simp);have hx:code.getD i ⟨0,0⟩=code[i]:=by simp [List.getD,hi]
   have hn:=hg.next;rw [hx] at hn;have uK:s'.length<=16:=fB _ (by
    have iK:i<sh.length:=by omega
    rw [XS,XC iK] at iJ;simp only [YaR] at iJ;rw [<- iJ];exact Xc iK)
   refine W ?_;refine Z0 Z4 rfl ?_;rintro _ w7 ⟨b15,rfl,uL,e15,aQ⟩;have kH:=ab.lt;refine W ?_;refine SA (us:=Z2.enc code[i]) e15 ?_;rintro _ w8 ⟨hT,k15⟩;replace aQ:=aQ.ow hT;clear e15 hT;replace hM:=hM.up aQ;replace ab:=ab.up aQ;refine W ?_;refine Z8 (Zf (u:=.I ((i:Int)+1)) rfl rfl rfl rfl ab (by simp [evC,JO])) ?_;rintro _ w9 ⟨fp,mi⟩;replace hM:=hM.put hK (at':=((i+1:Nat):Int)) (er':=0) (dn':=false) fp mi;replace k15:=k15.ext fp (by simp;omega);have uN:=aq.ext hM.stp pF;refine W ?_;refine Za (Z0K rfl rfl uN) rfl ?_;refine W ?_;refine Z0 (Zme hK hM hn ar (by rw [<- ar.1];omega) (by omega) rfl rfl rfl) rfl ?_;rintro _ w10 ⟨rfl,ay⟩;obtain ⟨q,hq,hlt⟩:=Zmh.step hK hi hx ai hg fB ar cC hf hr ay;refine W ?_;exact QL q hq (by simpa using hlt)
 | true=>
   have fin:∀ w' pv',Stp K.own K.w0 w'->Row [] w' K.w0.heap.size 29 pv' (Js (Zr K.c K.kn) K.ev code).2.1->ZE 29 w w' pv' (Js (Zr K.c K.kn) K.ev code).2.1:=λw' pv' h1 h2=>
    ⟨h2.lower kU.size,kU.own h1 (λb hb=>.inr (own_ge b hb))⟩
   rcases hdone rfl with ⟨rfl,x,rfl,hR⟩|⟨he,hR⟩
   obtain ⟨ks,ac⟩:=hM.nt bs hk;refine W ?_;refine ZDr 6 ([K.bm]) [] [(0,0),(2,1),(1,2),(3,0),(4,0),(5,0)] (λw1 ae=>?_);replace hM:=hM.up ae;replace ks:=ks.up ae;replace ac:=ac.up ae;refine D ?_;refine DC (Zb6 (st:=[]) hK hM) (λ_ _ h=>h.2.2) ?_;rintro _ w7 ⟨rfl,⟨sv',rE⟩,aQ⟩;obtain ⟨ks7,gO⟩:=rE.nt bs hk;refine D ?_;refine W ?_;refine WR ?_;refine .mk ⟨pv,by rw [hR],fin _ _ rE.stp ?_⟩;rw [hR];exact gO;refine QO ?_;refine ZDr 7 [] [] [(0,0),(1,0),(2,0),(3,1),(4,0),(5,0),(6,0)] (λw1 ae=>?_);replace hM:=hM.up ae;replace ab:=ab.up ae;refine D ?_;refine W ?_;refine WR ?_;refine .mk ⟨.N,by rw [hR],fin _ _ hM.stp ?_⟩;rw [hR];exact Row.nil
theorem Z11 (n a b:Int) (w):CC 27 #[.I n,.I a,.I b] w λr w'=>r=.B (decide (a<=n/\n<=b))/\Stp [] w w':=by
 refine cW3 15 Tryz.func27 ?_
 (refine QP ?_ ?_<;>intro hg)
 refine RU ?_;exact ⟨by congr 1;rw [decide_eq_decide];exact ⟨λh=>⟨by omega,h⟩,λh=>h.2⟩,Stp.refl _ _⟩;refine RU ?_;exact ⟨by congr 1;symm;exact decide_eq_false (λh=>by omega),Stp.refl _ _⟩
theorem ZfB (a b c d e:Int) (w):(Instr.build 209 #[(0,.I a),(1,.I (-1)),(3,.I b),(4,.I c),(5,.I d),(6,.I e)]).run Tryz.prog w=.ok (Zmf [a,-1,0,b,c,d,e]) w:=by kernel_rfl
theorem ZfC (op a b r:Int):(JK op a b r).length<=1:=by
 unfold JK;repeat' split
 all_goals first|exact Xq _|exact Xu _
theorem Z4H (o:Int->Bool) (ev:List Int) (C:List Ins):∀ (f i:Nat) (st:List Int) (sp:List Spn),(Z6a o ev C f i st sp).2.1.length<=sp.length+f
 | 0,_,_,_=>by simp [Z6a]
 | f + 1, i, st, sp => by
   rw [Z6a];split;simp;split;have:=Z4H o ev C f (C.getD i ⟨0,0⟩).n.toNat st sp;omega;split;have:=Z4H o ev C f (if JN st 0=0 then (C.getD i ⟨0,0⟩).n.toNat else i+1) st.dropLast sp;omega;split;refine Xk (Z4H o ev C f _ _ _) ?_;have:=ZfC (C.getD i ⟨0,0⟩).op (JN st 1) (JN st 0) (JT o ev (C.getD i ⟨0,0⟩) (JN st 1) (JN st 0)).1;rw [Xb];omega;simp
def evL (c:Cas) (f:Fct):List Int:=
 let s:=Z7a c.atts c.crrs f.entry f.to_
 [f.day,if s.2=true then s.1.day else -1,if s.2=true then s.1.extra else 0,f.by_,f.to_,c.court,f.amt]
def opn (c:Cas):Int->Bool:=Zr c.cal c.today
def noD:Dln×Bool:=(default,false)
def mkD (c:Cas) (f:Fct) (r:Int) (q:Cr) (day due:Int) (sp:List Spn):Dln:=
 let s:=Z7a c.atts c.crrs f.entry f.to_
 let a:=Zis c.fcts f q.unl due
 { rule := q.name, trig := f, party := f.to_, due := due, stat := if a.2 = true then 1 else if due < c.today then 2 else 0,
   reas:=[⟨1,f.entry,f.day⟩,⟨2,r,0⟩]++(if s.2=true/\(Z3Y q.cnd=true\/Z3Y q.due=true) then [⟨3,s.1.att,s.1.day⟩] else [])
    ++ sp.map (λx=>⟨4,x.1,x.2⟩)++(Z8r f.day day c.stys).map (λx=>⟨5,x.1,x.2⟩)++(if a.2=true then [⟨6,a.1.entry,a.1.day⟩] else []) }
def Z1F (c:Cas) (f:Fct) (r:Int):Dln×Bool:=
 if ¬ (0<=r/\r<=(c.ruls.length:Int) - 1) then noD else
 let q:=c.ruls.getD r.toNat crZ
 if q.on≠f.kind\/Zrc c.ruls q.name f.day≠r then noD else
 let x:=Js (opn c) (evL c f) q.cnd
 if x.2.2≠0\/x.1=0 then noD else
 let y:=Js (opn c) (evL c f) q.due
 if y.2.2≠0 then noD else
 let z:=Z9r f.day y.1 c.stys
 if z.2≠0 then noD else
 if z.1=y.1 then (mkD c f r q y.1 y.1 (x.2.1++y.2.1),true) else
 let n:=J6 (opn c) 1 z.1
 if n.2≠0 then noD else (mkD c f r q y.1 n.1 (x.2.1++y.2.1++[(z.1,n.1)]),true)
structure Z4I (c:Cas):Prop where
 fl:c.fcts.length<=100000
 rl:c.ruls.length<=1024
 cnd:∀ q∈c.ruls,Z1y q.cnd=(2,0)
 due:∀ q∈c.ruls,Z1y q.due=(3,0)
 att:ZlZ c.atts c.crrs
 ext:∀ x∈c.crrs,0<=x.extra/\x.extra<=1000
 sty:Zf9 c.stys
 court:0<=c.court/\c.court<=15
 today:0<=c.today/\c.today<=3652058
structure Z0D (f:Fct):Prop where
 day:0<=f.day/\f.day<=3652058
 by_:0<=f.by_/\f.by_<=63
 to_:0<=f.to_/\f.to_<=63
 amt:-2147483647<=f.amt/\f.amt<=2147483647
structure Z2k (w:World) (c:Cas) (R:Z0C):Prop where
 ff:SlV [] w R.fv c.fcts
 rr:SlV [] w R.rv c.ruls
 aa:SlV [] w R.av c.atts
 cc:SlV [] w R.cv c.crrs
 ss:SlV [] w R.sv c.stys
 cal:Z4D w c.cal R.hv R.lv R.zo R.zs R.hr
 one:R.zo.oneCell'=true/\R.zs.oneCell'=true/\R.hr.oneCell'=true
theorem Z2k.up {w w':World} {c:Cas} {R:Z0C} (h:Z2k w c R) (hS:Stp [] w w'):Z2k w' c R:=⟨h.ff.up hS,h.rr.up hS,h.aa.up hS,h.cc.up hS,h.ss.up hS,h.cal.up hS,h.one⟩
theorem Z3q {o:Int->Bool} {ev:List Int} {C:List Ins} {t:Int} (cb:ZcE ev) {sh:List (Option Shp)} (ai:sh.length=C.length) (cE:∀ i,i<C.length->∃ s nx,Zbc C sh i s nx) (dg:sh.getD (C.length - 1) none=some [t]) :
 ∀ (f i:Nat) (s:Shp) (st:List Int) (sp sp':List Spn) (v:Int),i<C.length->sh.getD i none=some s->Z00 s st->C.length<=f+i->Z6a o ev C f i st sp=(v,sp',0)->vOk t v
 | 0,i,s,st,sp,sp',v,hi,hs,ar,hf,hr=>by omega
 | f + 1, i, s, st, sp, sp', v, hi, hs, ar, hf, hr => by
   obtain ⟨s',nx,hg⟩:=cE i hi;obtain rfl:s'=s:=by have:=hg.at_;rw [hs] at this;simpa using this.symm
   rw [Z6a] at hr;have hn:=hg.next;have hstop:=hg.stop;have jp:=hg.jump;have ni:=hg.on;generalize C.getD i ⟨0,0⟩=x at *
   try dsimp only at hr
   by_cases cq:x.op=24;rw [if_pos cq] at hr;obtain ⟨a1,a2⟩:=hstop cq;rw [show i=C.length - 1 by omega,dg] at hs;obtain rfl:[t]=s':=by simpa using hs
   obtain ⟨u,rfl,hu⟩:=ar.one_inv;simp [JN] at hr;rw [<- hr.1];exact hu;rw [if_neg cq] at hr;by_cases bW:x.op=13;rw [if_pos bW] at hr;obtain ⟨j1,j2,j3⟩:=jp (.inl bW);have cF:=Zj3 bW hn;subst cF;exact Z3q cb ai cE dg f x.n.toNat _ st sp sp' v (by omega) j3 ar (by omega) hr;rw [if_neg bW] at hr;by_cases cV:x.op=14;rw [if_pos cV] at hr;obtain ⟨j1,j2,j3⟩:=jp (.inr cV);obtain ⟨o1,o2⟩:=ni cq bW;have cF:=Zj4 cV hn;have gP:Z00 nx st.dropLast:=by
    rw [cF,YaY,YaY,<- ar.1];exact ar.take _
   by_cases hb:JN st 0=0;rw [if_pos hb] at hr;exact Z3q cb ai cE dg f _ _ _ sp sp' v (by omega) j3 gP (by omega) hr;rw [if_neg hb] at hr;exact Z3q cb ai cE dg f _ _ _ sp sp' v (by omega) o2 gP (by omega) hr;rw [if_neg cV] at hr;obtain ⟨o1,o2⟩:=ni cq bW;by_cases he:(JT o ev x (JN st 1) (JN st 0)).2=0;rw [if_pos he] at hr;exact Z3q cb ai cE dg f _ _ _ _ sp' v (by omega) o2 (ZaL cb hn cq bW cV ar he) (by omega) hr;rw [if_neg he] at hr;simp only [XM] at hr;exact absurd hr.2.2 he
theorem Z7e {o:Int->Bool} {ev:List Int} {C:List Ins} {t:Int} (cb:ZcE ev) (hv:Z1y C=(t,0)) (h:(Js o ev C).2.2=0):vOk t (Js o ev C).1:=by
 obtain ⟨h0,pH,sh,ai,aK,fB,j8,mh,cE⟩:=Z7d hv;exact Z3q cb ai cE mh C.length 0 [] [] [] _ _ h0 j8 Z00.nil (by omega) (show Js o ev C=((Js o ev C).1,(Js o ev C).2.1,0) by rw [<- h])
theorem Z7f {o:Int->Bool} {ev:List Int} {C:List Ins} {t:Int} (hv:Z1y C=(t,0)):(Js o ev C).2.1.length<=200:=by
 obtain ⟨h0,pH,_⟩:=Z7d hv;have:=Z4H o ev C C.length 0 [] [];unfold Js;simp only [Xh] at this;omega
def Z8w (s:AlS):Prop:=∀ y∈s.out,-1<=y.2/\y.2<=3652058
theorem Zj5 {l:List Rtn} {crrs:List Crr} {s:AlS} {x:Spn} (h:Z8w s) (hx:-1<=x.2/\x.2<=3652058):Z8w (Z0g l crrs s x):=by
 unfold Z0g;dsimp only;split;exact h;have ht:Z8w (if Z1a l crrs x.1<s.least then (⟨Z1a l crrs x.1,false,[]⟩:AlS) else s):=by
  split;intro y hy;cases hy;exact h
 generalize (if Z1a l crrs x.1<s.least then (⟨Z1a l crrs x.1,false,[]⟩:AlS) else s)=t at *;split;rename_i y hy;split;intro z hz;rcases Xe.1 hz with hz|hz
 exact ht z (List.dropLast_subset _ hz);simp only [Xn] at hz;subst hz;exact hx;intro z hz;rcases Xe.1 hz with hz|hz
 exact ht z hz;simp only [Xn] at hz;subst hz;exact hx;intro z hz;rcases Xe.1 hz with hz|hz
 exact ht z hz;simp only [Xn] at hz;subst hz;exact hx
theorem Zbf {l:List Rtn} {crrs:List Crr}:∀ (L:List Spn) (s:AlS),Z8w s->(∀ x∈L,-1<=x.2/\x.2<=3652058)->Z8w (L.foldl (Z0g l crrs) s)
 | [],_,h,_=>h
 | x :: L,s,h,hL=>Zbf L _ (Zj5 h (hL x (by simp))) (λy hy=>hL y (by simp [hy]))
theorem Zj6 (l:List Rtn) (crrs:List Crr) {sent:Int} (hs:0<=sent/\sent<=3652058):-1<=(Z9x l crrs sent).1/\(Z9x l crrs sent).1<=3652058:=by
 unfold Z9x;have ho:Z8w (Zfj l crrs sent):=Zbf _ _ (λy hy=>by cases hy) (λx hx=>⟨(Z78 hs hx).2.2.1,(Z78 hs hx).2.2.2⟩);dsimp only;split;simp;split;rename_i y hy;exact ho y (List.mem_of_getLast? hy);simp
theorem Zel (l:List Atp) (crrs:List Crr) (en pa:Int):∀ (k:Nat),k<=l.length->∀ s∈ofG l crrs en pa k,∃ j,∃ h:j<l.length,s=ofE crrs l[j] j
 | 0,_,s,h=>by simp [ofG] at h
 | k + 1, hk, s, h => by
   rw [ofG] at h;rcases Xe.1 h with h|h
   exact Zel l crrs en pa k (by omega) s h;split at h;simp only [Xn] at h;exact ⟨k,by omega,by rw [h];simp [show k<l.length by omega]⟩;cases h
theorem Z8x (l:List Svc):∀ k,k<l.length->Z1T l k∈l
 | 0,h=>by simp [Z1T,h]
 | k + 1, h => by
   rw [Z1T];split;simp [h];exact Z8x l k (by omega)
theorem Zmi {l:List Atp} {crrs:List Crr} (en pa:Int) (ho:ZlZ l crrs) (hx:∀ x∈crrs,0<=x.extra/\x.extra<=1000) :
 -1<=(Z7a l crrs en pa).1.day/\(Z7a l crrs en pa).1.day<=3652058/\0<=(Z7a l crrs en pa).1.extra/\(Z7a l crrs en pa).1.extra<=1000:=by
 have hm:=Zel l crrs en pa l.length (Xq _);show -1<=(Z3Z (ofG l crrs en pa l.length)).1.day/\(Z3Z (ofG l crrs en pa l.length)).1.day<=3652058/\0<=(Z3Z (ofG l crrs en pa l.length)).1.extra/\(Z3Z (ofG l crrs en pa l.length)).1.extra<=1000;generalize ofG l crrs en pa l.length=L at *;unfold Z3Z;split;simp;rename_i aX;obtain ⟨j,hj,e⟩:=hm _ (Z8x L (L.length - 1) (by have:=Yaf.2 aX;omega));dsimp only;rw [e];have hs:=Zj6 l[j].rets crrs (ho.sent _ (Xc hj));have hc:=ho.crr _ (Xc hj);obtain ⟨m,hm⟩:∃ m:Nat,l[j].crr=m:=⟨l[j].crr.toNat,by omega⟩
 have jl:m<crrs.length:=by omega
 have kN:=hx _ (Xc jl);simp only [ofE,hm];rw [show crrs.getD ((m:Int).toNat) ⟨0,0⟩=crrs[m] by simp [jl]];omega
theorem Zj7 {c:Cas} {f:Fct} (ho:Z4I c) (hf:Z0D f):ZcE (evL c f):=by
 have h:=Zmi f.entry f.to_ ho.att ho.ext;have h1:=hf.day;have h2:=hf.by_;have h3:=hf.to_;have h4:=hf.amt;have h5:=ho.court;unfold evL;dsimp only;generalize Z7a c.atts c.crrs f.entry f.to_=s at *;refine ⟨rfl,h1,?_,?_⟩;show -1<=(if s.2=true then s.1.day else -1)/\(if s.2=true then s.1.day else -1)<=3652058;split<;>omega
 intro i bI px;obtain rfl|rfl|rfl|rfl|rfl:i=2\/i=3\/i=4\/i=5\/i=6:=by omega
 show -2147483647<=(if s.2=true then s.1.extra else 0)/\(if s.2=true then s.1.extra else 0)<=2147483647;split<;>omega
 show -2147483647<=f.by_/\f.by_<=2147483647;omega;show -2147483647<=f.to_/\f.to_<=2147483647;omega;show -2147483647<=c.court/\c.court<=2147483647;omega;exact h4
theorem Z1X (w):(Instr.build 70 #[]).run Tryz.prog w=.ok (.agg (dlC (default:Dln) JE).toArray) w:=by kernel_rfl
theorem Z1Y:∀ u∈dlC (default:Dln) JE,u.oneCell'=true:=by decide
theorem Zmj (ev:List Int):∀ u∈evC ev,u.oneCell'=true:=by
 intro u hu;unfold evC at hu;simp only [Xa,Xo,or_false] at hu;rcases hu with rfl|rfl|rfl|rfl|rfl|rfl|rfl<;>rfl
theorem Zmk (s:Str) (f:Fct) (a b:Int) (w):(Instr.build 70 #[(0,str s),(1,aG f),(2,.I a),(3,.I b)]).run Tryz.prog w=.ok (.agg (dlC (⟨s,f,a,b,0,[]⟩:Dln) JE).toArray) w:=by kernel_rfl
theorem Zbg (a b:Int) (w):(Instr.build 29 #[(0,.I a),(1,.I b)]).run Tryz.prog w=.ok (.agg (Z2.enc ((a,b):Spn)).toArray) w:=by kernel_rfl
theorem Z9G (d:Dln) {rv:Value} (h:rv.oneCell'=true):∀ u∈dlC d rv,u.oneCell'=true:=by
 intro u hu;simp only [dlC,Xa,Xo,or_false] at hu;rcases hu with rfl|rfl|rfl|rfl|rfl|rfl|rfl|rfl|rfl|rfl|rfl<;>first|rfl|assumption
theorem Nte.up {w0 w w':World} {bd:Nat} {d:Dln} {rv:Value} (h:Nte w0 bd w d rv) (hT:Stp [] w w'):Nte w0 bd w' d rv:=⟨h.blk.up hT,h.row.up hT,h.stp.trans hT.mn,h.lt,h.len⟩
theorem Nte.stat {w0 w w':World} {bd:Nat} {d d':Dln} {rv:Value} (h:Nte w0 bd w d rv) (hT:Stp [bd] w w') (hb:Blk w' bd 70 (dlC d' rv)) (he:d'.reas=d.reas):Nte w0 bd w' d' rv:=
 ⟨hb,by rw [he];exact h.row.ext hT (λb cO=>⟨cO,λh2=>by have:=(h.row.ob_le b h2).1;have:=h.lt;simp at cO;omega⟩) (λb hb=>.inl hb),h.stp.trans hT,h.lt,by rw [he];exact h.len⟩
abbrev dU (q:Cr) (f:Fct) (due st:Int) (l:List Rsn):Dln:=⟨q.name,f,f.to_,due,st,l⟩
theorem Zml (c:Cas) (R:Z0C) (f:Fct) (r:Int) (w) (hv:Z2k w c R) (ho:Z4I c) (hf:Z0D f) (hr:I64 r) :
 CC 92 #[.agg (Jq c R).toArray,aG f,.I r] w λv w'=>∃ rv,v=.tuple #[.agg (dlC (Z1F c f r).1 rv).toArray,.B (Z1F c f r).2]/\ZE 104 w w' rv (Z1F c f r).1.reas:=by
 generalize aB:Z1F c f r=o;have jM:=ho.rl;refine cW3 246 Tryz.func92 ?_;refine W ?_;refine BX (Stp.refl [] w) λb3 w1 h3 e3 _ hS=>?_;replace e3:Blk w1 b3 49 (Jq c R):=e3;refine BX hS λb4 w2 h4 e4 hT hS=>?_;replace e4:Blk w2 b4 24 (Z2.enc f):=e4;replace e3:=e3.up hT;refine W ?_;refine Z0 Z4 rfl ?_;rintro _ w3 ⟨b6,rfl,eH,e6,hT⟩;have g6:w.heap.size<=b6:=Xk hS.size eH;replace e6:Blk w3 b6 70 (dlC (default:Dln) JE):=e6;replace e3:=e3.up hT;replace e4:=e4.up hT;replace hS:=hS.trans hT;clear hT;have rF:=hv.up hS;have fc:=rF.rr;refine W ?_;refine CP hS (Z11 _ _ _ _) λw4 hT hS=>?_;replace e3:=e3.up hT;replace e4:=e4.up hT;replace e6:=e6.up hT;clear hT rF fc;by_cases hw:0<=r/\r<=(c.ruls.length:Int) - 1
 rotate_left
 rw [Z1F,if_pos hw] at aB;rw [decide_eq_false hw];refine QO ?_;refine Zc (vs:=[]) rfl Z1X rfl ?_;refine SB (us:=dlC (default:Dln) JE) Z1Y e6 ?_;rintro _ wz ⟨hT,e6⟩;refine W ?_;refine ZM rfl rfl rfl e6 rfl rfl ?_;subst aB;exact .mk ⟨JE,rfl,ZE.nil.up (hS.ow hT)⟩;rw [Z1F,if_neg (not_not_intro hw)] at aB;rw [decide_eq_true hw];obtain ⟨i,rfl⟩:∃ i:Nat,r=i:=⟨r.toNat,by omega⟩
 have hi:i<c.ruls.length:=by omega
 rw [show c.ruls.getD ((i:Int).toNat) crZ=c.ruls[i] by simp [hi]] at aB;dsimp only at aB;have jX:=(ho.cnd _ (Xc hi))
 have mj:=(ho.due _ (Xc hi))
 have jq:=hv.up hS;have fc:=jq.rr;obtain ⟨cs,⟨kc,kd,rfl,gc,gd⟩,am⟩:=hv.rr.cell hi;refine QO ?_;refine Za (Z1C rfl rfl fc hi ⟨kc,kd,rfl,gc.up hS,gd.up hS⟩ (λj u hu=>hS.cell0 (am j u hu))) rfl ?_;refine Z0 Z4 rfl ?_;rintro _ w5 ⟨b8,rfl,eZ,e8,hT⟩;refine SB (us:=crC c.ruls[i] kc kd) (Z1k gc gd) e8 ?_;rintro _ w6 ⟨ax,e8⟩;replace hT:=hT.ow ax;replace e3:=e3.up hT;replace e4:=e4.up hT;replace e6:=e6.up hT;replace hS:=hS.trans hT;clear hT ax am fc jq;generalize hq:c.ruls[i]=q at *;have fc:=(hv.up hS).rr;have l8:=e8.lt
 (refine QP ?_ ?_<;>intro hg)
 rw [if_pos (.inl (by assumption))] at aB;refine Zc (vs:=[]) rfl Z1X rfl ?_;refine SB (us:=dlC (default:Dln) JE) Z1Y e6 ?_;rintro _ wz ⟨hT,e6⟩;refine W ?_;refine ZM rfl rfl rfl e6 rfl rfl ?_;subst aB;exact .mk ⟨JE,rfl,ZE.nil.up (hS.ow hT)⟩;refine CP hS (ZaM R.rv c.ruls q.name f.day _ fc) λw7 hT hS=>?_;replace e3:=e3.up hT;replace e4:=e4.up hT;replace e6:=e6.up hT;replace e8:=e8.up hT;clear fc;by_cases ha:Zrc c.ruls q.name f.day=i
 rotate_left
 rw [if_pos (.inr ha)] at aB;refine QO ?_;refine Zc (vs:=[]) rfl Z1X rfl ?_;refine SB (us:=dlC (default:Dln) JE) Z1Y e6 ?_;rintro _ wz ⟨hT,e6⟩;refine W ?_;refine ZM rfl rfl rfl e6 rfl rfl ?_;subst aB;exact .mk ⟨JE,rfl,ZE.nil.up (hS.ow hT)⟩;rw [if_neg (λh=>h.elim (λh=>absurd h (by assumption)) (λh=>h ha))] at aB;refine QO ?_;refine Zc (vs:=[(0,.I f.day),(1,.I (-1)),(3,.I f.by_),(4,.I f.to_),(5,.I c.court),(6,.I f.amt)]) rfl (ZfB _ _ _ _ _) rfl ?_;refine Z0 Z4 rfl ?_;have l3:=e3.lt;have l4:=e4.lt;have l6:=e6.lt;have l8':=e8.lt;rintro _ w8 ⟨b9,rfl,gH,e9,hT⟩;have g9:w.heap.size<=b9:=Xk hS.size gH;refine SB (us:=evC [f.day,-1,0,f.by_,f.to_,c.court,f.amt]) (Zmj _) e9 ?_;rintro _ w9 ⟨ax,e9⟩;replace hT:=hT.ow ax;replace e3:=e3.up hT;replace e4:=e4.up hT;replace e6:=e6.up hT;replace e8:=e8.up hT;replace hS:=hS.trans hT;clear hT ax;have pI:=hv.up hS;refine QO ?_;refine CP hS (Zre R.av R.cv c.atts c.crrs f.entry f.to_ _ pI.aa pI.cc ho.att) λw10 hT hS=>?_;replace e3:=e3.up hT;replace e4:=e4.up hT;replace e6:=e6.up hT;replace e8:=e8.up hT;replace e9:=e9.up hT;clear hT pI;have l9:=e9.lt;generalize bM:Z7a c.atts c.crrs f.entry f.to_=s at *;obtain ⟨s,ok⟩:=s;refine QO ?_;refine Z0 Z4 rfl ?_;rintro _ w11 ⟨b10,rfl,jN,e10,hT⟩;refine SA (us:=Z2.enc s) e10 ?_;rintro _ w12 ⟨ax,e10⟩;replace hT:=hT.ow ax;replace e3:=e3.up hT;replace e4:=e4.up hT;replace e6:=e6.up hT;replace e8:=e8.up hT;replace e9:=e9.up hT;replace hS:=hS.trans hT;clear hT ax;refine W ?_;have e9':=e9
 refine JG (σ:=Unit) (λ_=>[(2,.I (i:Int)),(3,pQ b3),(4,pQ b4),(6,pQ b6),(8,pQ b8),(9,pQ b9),(10,pQ b10),(11,.B ok)])
  (λ_ w'=>Stp [b9] w12 w'/\Blk w' b9 209 (evC (evL c f))) ?_ ?_
 have pJ:evL c f=[f.day,if ok=true then s.day else -1,if ok=true then s.extra else 0,f.by_,f.to_,c.court,f.amt]:=by
  unfold evL;rw [bM]
 rw [pJ]
 (refine QP ?_ ?_<;>intro hc)
 refine ZDr 8 [b9] [] [(0,0),(1,1),(2,0),(3,1),(4,0),(5,2),(6,0),(7,2)] (λw1 ae=>?_);replace e9:=e9.up ae;replace e10:=e10.up ae;have c10:_=some (Value.int .i64 s.day):=e10.cell (j:=0) rfl;have c11:_=some (Value.int .i64 s.extra):=e10.cell (j:=1) rfl;focus repeat'(first|refine D1 ?_|omega|refine Z0d rfl (by first|exact trivial|exact rfl) rfl rfl (by assumption) rfl ?_|refine Zb rfl rfl rfl rfl (λhg=>?_) (λhg=>?_)|(refine Z7 rfl rfl rfl rfl (λhg=>?_) (λhg=>?_)<;>refine D1 ?_)|fail)
 refine Z1O rfl trivial (Zf rfl rfl rfl rfl e9 (by simp [evC])) (λ_ _ h=>h.1) ?_;rintro _ w13 ⟨hT,e9⟩;focus repeat'(first|refine D1 ?_|omega|refine Z0d rfl (by first|exact trivial|exact rfl) rfl rfl (by assumption) rfl ?_|refine Zb rfl rfl rfl rfl (λhg=>?_) (λhg=>?_)|(refine Z7 rfl rfl rfl rfl (λhg=>?_) (λhg=>?_)<;>refine D1 ?_)|fail)
 refine Z1O rfl trivial (Zf rfl rfl rfl rfl e9 (by simp [evC])) (λ_ _ h=>h.1) ?_;rintro _ w14 ⟨ax,e9⟩;focus repeat'(first|refine D1 ?_|omega|refine Z0d rfl (by first|exact trivial|exact rfl) rfl rfl (by assumption) rfl ?_|refine Zb rfl rfl rfl rfl (λhg=>?_) (λhg=>?_)|(refine Z7 rfl rfl rfl rfl (λhg=>?_) (λhg=>?_)<;>refine D1 ?_)|fail)
 exact QT () ⟨(ae.mn.own hT (λc hc=>.inl hc)).own ax (λc hc=>.inl hc),by rw [show ok=true by assumption];exact e9⟩;rw [show ok=false by simpa using ‹_›];exact QT () ⟨Stp.refl _ _,e9⟩;rintro _ w13 ⟨hT,e9⟩;replace e3:=e3.ext hT (by simp;omega);replace e4:=e4.ext hT (by simp;omega);replace e6:=e6.ext hT (by simp;omega);replace e8:=e8.ext hT (by simp;omega);replace e10:=e10.ext hT (by simp;omega);replace hS:=hS.ow hT;clear hT;have cb:=Zj7 ho hf;have fO:=hv.up hS;have l3:=e3.lt;have l4:=e4.lt;have l6:=e6.lt;have l8:=e8.lt;have l10:=e10.lt;rw [show opn c=Zr c.cal c.today from rfl] at aB;have cj:=hS;have f3:=e3;have f4:=e4;have f6:=e6;have f8:=e8;have f10:=e10;refine W ?_;refine Za (Zj rfl rfl e3 (us:=JO c.cal R.hv R.lv R.zo R.zs R.hr) rfl rfl) rfl ?_;refine W ?_;refine CL (Zbe kc q.cnd 2 c.today (evL c f) c.cal R.hv R.lv R.zo R.zs R.hr _ (gc.up hS) jX fO.cal cb fO.one) ?_;rintro _ w14 ⟨pv,rfl,eA⟩;have fP:=Z7f (o:=Zr c.cal c.today) (ev:=evL c f) jX;generalize Js (Zr c.cal c.today) (evL c f) q.cnd=x at *;obtain ⟨x1,xs,xe⟩:=x;dsimp only at aB eA fP ⊢;have hT:=eA.2;replace e3:=e3.up hT;replace e4:=e4.up hT;replace e6:=e6.up hT;replace e8:=e8.up hT;replace e9:=e9.up hT;replace e10:=e10.up hT;replace hS:=hS.trans hT;clear hT fO;by_cases gZ:xe=0
 rotate_left
 rw [if_pos (.inl gZ)] at aB;refine QO ?_;refine Zc (vs:=[]) rfl Z1X rfl ?_;refine SB (us:=dlC (default:Dln) JE) Z1Y e6 ?_;rintro _ wz ⟨hT,e6⟩;refine W ?_;refine ZM rfl rfl rfl e6 rfl rfl ?_;subst aB;exact .mk ⟨JE,rfl,ZE.nil.up (hS.ow hT)⟩;by_cases oa:x1=0;rw [if_pos (.inr oa)] at aB;refine QO ?_;refine Zc (vs:=[]) rfl Z1X rfl ?_;refine SB (us:=dlC (default:Dln) JE) Z1Y e6 ?_;rintro _ wz ⟨hT,e6⟩;refine W ?_;refine ZM rfl rfl rfl e6 rfl rfl ?_;subst aB;exact .mk ⟨JE,rfl,ZE.nil.up (hS.ow hT)⟩;rw [if_neg (λh=>h.elim (λh=>h gZ) (λh=>oa h))] at aB;have fO:=hv.up hS;refine QO ?_;refine Za (Zj rfl rfl e3 (us:=JO c.cal R.hv R.lv R.zo R.zs R.hr) rfl rfl) rfl ?_;refine W ?_;refine CL (Zbe kd q.due 3 c.today (evL c f) c.cal R.hv R.lv R.zo R.zs R.hr _ (gd.up hS) mj fO.cal cb fO.one) ?_;rintro _ w15 ⟨pw,rfl,cw⟩;have dH:=Z7f (o:=Zr c.cal c.today) (ev:=evL c f) mj;have nG:=Z7e (o:=Zr c.cal c.today) cb mj;generalize Js (Zr c.cal c.today) (evL c f) q.due=y at *;obtain ⟨y1,ys,ye⟩:=y;dsimp only at aB cw dH nG ⊢;have ce:SlV (ob pv) w15 pw ys:=cw.slv (λb hb=>(eA.ob_le b hb).2);have hT:=cw.2;replace e3:=e3.up hT;replace e4:=e4.up hT;replace e6:=e6.up hT;replace e8:=e8.up hT;replace e9:=e9.up hT;replace e10:=e10.up hT;replace eA:=eA.up hT;replace hS:=hS.trans hT;clear hT fO cw;by_cases fQ:ye=0
 rotate_left
 rw [if_pos fQ] at aB;refine QO ?_;refine Zc (vs:=[]) rfl Z1X rfl ?_;refine SB (us:=dlC (default:Dln) JE) Z1Y e6 ?_;rintro _ wz ⟨hT,e6⟩;refine W ?_;refine ZM rfl rfl rfl e6 rfl rfl ?_;subst aB;exact .mk ⟨JE,rfl,ZE.nil.up (hS.ow hT)⟩;rw [if_neg (not_not_intro fQ)] at aB;have pd:0<=y1/\y1<=3652058:=by
  rcases nG fQ with h|h|h
  omega;omega;exact h.2
 have fO:=hv.up hS;have gY:=hf.day;refine QO ?_;refine CP hS (Z74 f.day y1 R.sv c.stys _ fO.ss ho.sty (by omega) (by omega)) λw16 hT hS=>?_
 replace e3:=e3.up hT;replace e4:=e4.up hT;replace e6:=e6.up hT;replace e8:=e8.up hT;replace e9:=e9.up hT;replace e10:=e10.up hT;replace eA:=eA.up hT;replace ce:=ce.up hT;clear hT fO;generalize Z9r f.day y1 c.stys=z at *;obtain ⟨z1,ze⟩:=z;dsimp only at aB ⊢;by_cases rG:ze=0
 rotate_left
 rw [if_pos rG] at aB;refine QO ?_;refine Zc (vs:=[]) rfl Z1X rfl ?_;refine SB (us:=dlC (default:Dln) JE) Z1Y e6 ?_;rintro _ wz ⟨hT,e6⟩;refine W ?_;refine ZM rfl rfl rfl e6 rfl rfl ?_;subst aB;exact .mk ⟨JE,rfl,ZE.nil.up (hS.ow hT)⟩;rw [if_neg (not_not_intro rG)] at aB;refine QO ?_;refine Z0 (Z01 (β:=Spn) rfl (by decide) rfl rfl eA ce (Xk (Xr _ (show xs.length+ys.length<=400 by omega)) (by decide)) (by simp only [maxLen];omega)) rfl ?_;rintro pu w17 ⟨hr,-,-⟩;clear eA ce e3 e4 e6 e8 e9 e10 hS;have kV:(xs++ys).length<=400:=by rw [Xb];omega
 refine W ?_
 refine JG (σ:=Int×Value×List Spn) (λq=>[(2,.I (i:Int)),(3,pQ b3),(4,pQ b4),(6,pQ b6),(8,pQ b8),(10,pQ b10),(11,.B ok),(13,q.2.1),(15,.I y1),(17,.I q.1)])
  (λp w'=>ZE 29 w13 w' p.2.1 p.2.2/\p.2.2.length<=1000/\(mkD c f i q y1 p.1 p.2.2,true)=o) ?_ ?_
 by_cases pK:z1=y1;rw [if_pos pK] at aB;refine QO ?_;exact QT (z1,pu,xs++ys) ⟨hr,by dsimp only;omega,by rw [pK];exact aB⟩
 . rw [if_neg pK] at aB
   have e3:=f3.up hr.2;have e6:=f6.up hr.2;have hS:=cj.trans hr.2;have fO:=hv.up hS;refine QO ?_;refine Za (Zj rfl rfl e3 (us:=JO c.cal R.hv R.lv R.zo R.zs R.hr) rfl rfl) rfl ?_;refine W ?_;refine CP hS (Z5s z1 c.today c.cal R.hv R.lv R.zo R.zs R.hr _ fO.cal) λw18 hT hS=>?_;replace e3:=e3.up hT;replace e6:=e6.up hT;replace hr:=hr.up hT;clear hT fO;generalize J6 (Zr c.cal c.today) 1 z1=nn at *;obtain ⟨n1,ne⟩:=nn;dsimp only at aB ⊢;by_cases aX:ne=0
   rotate_left
   rw [if_pos aX] at aB;refine QO ?_;refine Zc (vs:=[]) rfl Z1X rfl ?_;refine SB (us:=dlC (default:Dln) JE) Z1Y e6 ?_;rintro _ wz ⟨hT,e6⟩;refine W ?_;refine ZM rfl rfl rfl e6 rfl rfl ?_;subst aB;exact .mk ⟨JE,rfl,ZE.nil.up (hS.ow hT)⟩;rw [if_neg (not_not_intro aX)] at aB;refine QO ?_;refine Zc (vs:=[(0,.I z1),(1,.I n1)]) rfl (Zbg _ _) rfl ?_;refine AP1 ((z1,n1):Spn) hr (by omega) λv1 v' w' bB _=>?_
   refine W ?_;exact Zw (n1,v',xs++ys++[(z1,n1)]) ⟨rfl,rfl,rfl,rfl,rfl,rfl,rfl,rfl,rfl,rfl,trivial⟩ ⟨bB,by simp only [Xb,Xf,Xh] at kV ⊢;omega,aB⟩
 clear aB hr kV;rintro ⟨due,sv,sp⟩ w18 ⟨hr,cC,aB⟩;dsimp only at hr cC aB ⊢;subst aB;have e3:=f3.up hr.2;have e4:=f4.up hr.2;have e6:=f6.up hr.2;have e8:=f8.up hr.2;have e10:=f10.up hr.2;have hS:=cj.trans hr.2;have jQ:SlV [] w18 sv sp:=hr.slv (by simp);clear hr f3 f4 f6 f8 f10 cj;refine W ?_;refine Zc (vs:=[(0,str q.name),(1,aG f),(2,.I f.to_),(3,.I due)]) rfl (Zmk _ _ _ _) rfl ?_;refine Z0 Z4 rfl ?_;rintro _ w19 ⟨b19,rfl,pL,e19,hT⟩;refine SB (us:=dlC (⟨q.name,f,f.to_,due,0,[]⟩:Dln) JE) (Z9G _ rfl) e19 ?_;rintro _ w20 ⟨ax,e19⟩;replace hT:=hT.ow ax;have l3:=e3.lt;have l4:=e4.lt;have l6:=e6.lt;have l8:=e8.lt;have l10:=e10.lt;replace e3:=e3.up hT;replace e4:=e4.up hT;replace e6:=e6.up hT;replace e8:=e8.up hT;replace e10:=e10.up hT;replace jQ:SlV [b19] w20 sv sp:=jQ.ext hT (by simp) (λb hb=>.inr (by simp at hb;omega));have g19:w.heap.size<=b19:=Xk hS.size pL;replace hS:=hS.trans hT;clear hT ax;have hN:Nte w20 b19 w20 ⟨q.name,f,f.to_,due,0,[]⟩ JE:=⟨e19,Row.nil,Stp.refl _ _,e19.lt,by simp⟩
 clear e19;refine W ?_;refine Z0 (Z0v rfl (ZL rfl rfl rfl) rfl (Z2i w20 b19 _ _ 1 f.entry f.day _ hN (by simp))) rfl ?_;rintro _ w21 ⟨r1,hN,-,-⟩;have f4:=e4.ext hN.stp (by simp;omega);refine W ?_;refine Z0 (Z0v rfl (ZL rfl rfl rfl) rfl (Z2i w20 b19 _ _ 2 i 0 _ hN (by simp))) rfl ?_;rintro _ w22 ⟨r2,hN,-,-⟩;clear f4;have f8:=e8.ext hN.stp (by simp;omega);have j9:Stp [] w w22:=hS.own hN.stp (λc hc=>.inr (by simp at hc;omega));have bp:=gc.up j9;have cB:=gd.up j9;refine W ?_;refine Z6n (σ:=Unit) (λ_=>[(2,.I (i:Int)),(3,pQ b3),(4,pQ b4),(6,pQ b6),(8,pQ b8),(15,.I y1),(17,.I due),(19,pQ b19),(20,.func (.func 135) #[] #[pQ b19]),(10,pQ b10),(13,sv),(185,.B (ok && (Z3Y q.cnd || Z3Y q.due)))]) (λ_ w'=>Stp [] w22 w') ?_ ?_
 . cases ok with
   | false=>
     refine QO ?_;exact QT () (Stp.refl _ _)
   | true=>
     refine QO ?_;refine CP (Stp.refl [] w22) (ZaQ kc q.cnd _ bp) λw23 hT hS=>?_;replace f8:=f8.up hT;replace cB:=cB.up hT;cases h1:Z3Y q.cnd with
     | true=>
       refine QO ?_;exact QT () hS
     | false=>
       refine QO ?_;refine CP hS (ZaQ kd q.due _ cB) λw24 hT hS=>?_;cases h2:Z3Y q.due
       all_goals
        refine QO ?_;exact QT () hS
 rintro _ w23 hT;replace hN:=hN.up hT;clear bp cB f8 j9 hT;generalize kH:(ok && (Z3Y q.cnd || Z3Y q.due))=bb at *;refine W ?_;refine JG (σ:=Value) (λ_=>[(2,.I (i:Int)),(3,pQ b3),(4,pQ b4),(6,pQ b6),(8,pQ b8),(15,.I y1),(17,.I due),(19,pQ b19),(20,.func (.func 135) #[] #[pQ b19]),(13,sv)]) (λrv w'=>Nte w20 b19 w' (dU q f due 0 ([⟨1,f.entry,f.day⟩,⟨2,i,0⟩]++if bb=true then [⟨3,s.att,s.day⟩] else [])) rv) ?_ ?_
 . cases bb with
   | false=>
     refine QO ?_;exact QT r2 hN
   | true=>
     have f10:=e10.ext hN.stp (by simp;omega);refine QO ?_;refine Z0 (Z0v rfl (ZL rfl rfl rfl) rfl (Z2i w20 b19 _ _ 3 s.att s.day _ hN (by simp))) rfl ?_;rintro _ w24 ⟨r3,hN,-,-⟩;refine W ?_;exact QT r3 hN
 clear hN;rintro r3 w24 hN;generalize jY:([⟨1,f.entry,f.day⟩,⟨2,i,0⟩]++if bb=true then [⟨3,s.att,s.day⟩] else []:List Rsn)=L1 at *;have uO:L1.length<=3:=by rw [<- jY];split<;>simp
 have kW:=jQ.max;refine W ?_;refine LP (σ:=Nat×Value) (λp=>[(2,.I (i:Int)),(3,pQ b3),(4,pQ b4),(6,pQ b6),(8,pQ b8),(15,.I y1),(17,.I due),(19,pQ b19),(20,.func (.func 135) #[] #[pQ b19]),(192,sv),(193,.I sp.length),(194,.I p.1)]) (λp w'=>p.1<=sp.length/\Nte w20 b19 w' (dU q f due 0 (L1++(sp.take p.1).map (λx=>(⟨4,x.1,x.2⟩:Rsn)))) p.2) (λp=>sp.length - p.1) (0,r3) ⟨by omega,by simpa using hN⟩ ?_;clear hN;rintro ⟨k,r4⟩ w25 ⟨hk,hN⟩;dsimp only at hk hN ⊢;by_cases hlt:k<sp.length;have rH:SlV [] w25 sv sp:=jQ.ext hN.stp (λb hb=>hb) (by simp);have ar:(sp.take (k+1)).map (λx=>(⟨4,x.1,x.2⟩:Rsn))=(sp.take k).map (λx=>(⟨4,x.1,x.2⟩:Rsn))++[⟨4,sp[k].1,sp[k].2⟩]:=by rw [Xj hlt,XH];rfl
 refine QO ?_;refine Z0 Z4 rfl ?_;rintro _ w26 ⟨b22,rfl,uP,e22,hA⟩;refine SA (us:=Z2.enc sp[k]) e22 ?_;rintro _ w27 ⟨cR,e22⟩;replace hA:=hA.ow cR;replace hN:=hN.up hA;refine QO ?_;refine Z0 (Z0v rfl (ZL rfl rfl rfl) rfl (Z2i w20 b19 _ _ 4 sp[k].1 sp[k].2 _ hN (by simp only [Xb,XB,Xz];omega))) rfl ?_;rintro _ w28 ⟨r5,hN,-,-⟩;refine QO ?_;exact QL (k+1,r5) ⟨hlt,by rw [ar,<- XI];exact hN⟩ (by dsimp only;omega);obtain rfl:k=sp.length:=by omega
 rw [Xs] at hN;have cS:=hS.own hN.stp (λc hc=>.inr (by simp at hc;omega));have f3:=e3.ext hN.stp (by simp;omega);have f4:=e4.ext hN.stp (by simp;omega);have gY:=hf.day;refine QO ?_;refine CG (Ziw f.day y1 R.sv c.stys _ (hv.up cS).ss ho.sty (by omega) (by omega)) ?_;intro uv w26 hu;have dE:(Z8r f.day y1 c.stys).length<=1000:=by
  have:=ho.sty.len;unfold Z8r;split;simp;exact Xk (X0 _ _) this
 generalize hU:Z8r f.day y1 c.stys=us at *;have dt:SlV (b19 :: ob r4) w26 uv us:=hu.slv (λb hb=>by
  rcases Xa.1 hb with rfl|hb
  exact hN.blk.lt;exact (hN.row.ob_le b hb).2)
 replace hN:=hN.up hu.2;clear f3 f4 hu cS jQ;have mY:=dt.max;refine QO ?_;generalize rI:L1++sp.map (λx=>(⟨4,x.1,x.2⟩:Rsn))=L2 at *;have uQ:L2.length<=1003:=by rw [<- rI,Xb,XB];omega
 refine LP (σ:=Nat×Value) (λp=>[(2,.I (i:Int)),(3,pQ b3),(4,pQ b4),(6,pQ b6),(8,pQ b8),(15,.I y1),(17,.I due),(19,pQ b19),(20,.func (.func 135) #[] #[pQ b19]),(210,uv),(211,.I us.length),(212,.I p.1)]) (λp w'=>p.1<=us.length/\Nte w20 b19 w' (dU q f due 0 (L2++(us.take p.1).map (λx=>(⟨5,x.1,x.2⟩:Rsn)))) p.2/\SlV (b19 :: ob p.2) w' uv us) (λp=>us.length - p.1) (0,r4) ⟨by omega,by simpa using hN,dt⟩ ?_;clear hN dt;rintro ⟨k,r5⟩ w27 ⟨hk,hN,dt⟩;dsimp only at hk hN ⊢;by_cases hlt:k<us.length;have rJ:SlV [] w27 uv us:=dt.ext (Stp.refl [] w27) (by simp) (by simp);have ar:(us.take (k+1)).map (λx=>(⟨5,x.1,x.2⟩:Rsn))=(us.take k).map (λx=>(⟨5,x.1,x.2⟩:Rsn))++[⟨5,us[k].1,us[k].2⟩]:=by rw [Xj hlt,XH];rfl
 refine QO ?_;refine Z0 Z4 rfl ?_;rintro _ w28 ⟨b24,rfl,pM,e24,hA⟩;refine SA (us:=Z2.enc us[k]) e24 ?_;rintro _ w29 ⟨cR,e24⟩;replace hA:=hA.ow cR;replace hN:=hN.up hA;refine QO ?_;refine Z0 (Z0v rfl (ZL rfl rfl rfl) rfl (Z2i w20 b19 _ _ 5 us[k].1 us[k].2 _ hN (by simp only [Xb,XB,Xz];omega))) rfl ?_;rintro _ w30 ⟨r6,lB,iL,pN⟩;refine QO ?_;exact QL (k+1,r6) ⟨hlt,by rw [ar,<- XI];exact lB,(dt.up hA).ext iL (λb hb=>hb) (λb hb=>by
  rcases Xa.1 hb with rfl|hb
  exact .inl (by simp);exact (pN b hb).imp (λh=>by simp [h]) id)⟩ (by dsimp only;omega)
 obtain rfl:k=us.length:=by omega
 rw [Xs] at hN;generalize rK:L2++us.map (λx=>(⟨5,x.1,x.2⟩:Rsn))=L3 at *;have uR:L3.length<=2003:=by rw [<- rK,Xb,XB];omega
 clear dt mY;have cS:=hS.own hN.stp (λc hc=>.inr (by simp at hc;omega));have f3:=e3.ext hN.stp (by simp;omega);have f4:=e4.ext hN.stp (by simp;omega);have f8:=e8.ext hN.stp (by simp;omega);refine QO ?_;refine CP cS (ZcG c R f q.unl due _ (hv.up cS).ff (by have:=ho.fl;omega)) λw28 hT _=>?_
 replace hN:=hN.up hT;clear f3 f4 f8 hT cS;generalize hA:Zis c.fcts f q.unl due=a at *;obtain ⟨g,met⟩:=a;refine QO ?_;refine Z0 Z4 rfl ?_;rintro _ w29 ⟨b25,rfl,uS,e25,nH⟩;refine SA (us:=Z2.enc g) e25 ?_;rintro _ w30 ⟨cR,e25⟩;replace nH:=nH.ow cR;have pO:b25≠b19:=by have:=hN.blk.lt;omega
 replace hN:=hN.up nH;clear nH cR;refine W ?_;refine JG (σ:=Value) (λ_=>[(6,pQ b6),(19,pQ b19)]) (λrv w'=>Nte w20 b19 w' (mkD c f i q y1 due sp) rv) ?_ ?_
 . have aA:mkD c f i q y1 due sp=dU q f due (if met=true then 1 else if due<c.today then 2 else 0) (L3++if met=true then [⟨6,g.entry,g.day⟩] else []):=by
    unfold mkD;rw [hA,bM,hU];dsimp only;rw [<- rK,<- rI,<- jY,<- kH];simp only [Xd,YaZ]
   rw [aA];cases met with
   | true=>
     refine QO ?_;refine Z8 (Zf (u:=.I 1) rfl rfl rfl rfl hN.blk (by simp)) ?_;rintro _ w31 ⟨hT,e19⟩;replace e25:=e25.ext hT (by simpa using pO);replace hN:=hN.stat (d':=dU q f due 1 L3) hT e19 rfl;refine QO ?_;refine Z0 (Z0v rfl (ZL rfl rfl rfl) rfl (Z2i w20 b19 _ _ 6 g.entry g.day _ hN (by dsimp only;omega))) rfl ?_;rintro _ w32 ⟨r7,hN,-,-⟩;refine W ?_;exact QT r7 hN
   | false=>
     have f3:=e3.ext hN.stp (by simp;omega);by_cases il:due<c.today;refine QO ?_;refine Z8 (Zf (u:=.I 2) rfl rfl rfl rfl hN.blk (by simp)) ?_;rintro _ w31 ⟨hT,e19⟩;replace hN:=hN.stat (d':=dU q f due 2 L3) hT e19 rfl;refine QO ?_;exact QT r5 (by simpa [il] using hN);refine QO ?_;exact QT r5 (by simpa [il] using hN)
 clear hN e25;rintro rv w31 hN;have f6:=e6.ext hN.stp (by simp;omega);have ml:rv.oneCell'=true:=(hN.row.slv (X:=[]) (by simp)).one;have hk:=hN.blk;refine W ?_;refine SB (us:=dlC (mkD c f i q y1 due sp) rv) (Z9G _ ml) f6 ?_;rintro _ w32 ⟨hT,f6⟩;refine W ?_;refine ZM rfl rfl rfl f6 rfl rfl ?_;have cS:=hS.own hN.stp (λc hc=>.inr (by simp at hc;omega));have aN:=λb hb=>(hN.row.ob_le b hb).1;refine .mk ⟨rv,rfl,?_,cS.ow hT⟩;exact Z2h (Row.ext (Z2h (X':=[b6]) (Row.lower hN.row (by have:=hS.size;omega))) hT (λb hb=>⟨hb,λh=>by have:=aN b h;have:=hN.lt;simp at hb;omega⟩) (λb hb=>.inl hb))
abbrev DI:=Dln×Nat
structure Yld (fv:Value) (g:Nat) (cap:Array Value) (J:List DI->List Nat->World->Prop) (Pd:List DI->Dln->Nat->Prop):Prop where
 fv:fv=.func (.func g) #[] cap
 lt:∀ pre F W,J pre F W->∀ b∈F,b<W.heap.size
 up:∀ pre F W W',J pre F W->Stp [] W W'->J pre F W'
 call:∀ pre F d dv i W,J pre F W->SlV F W dv d.reas->Pd pre d i->CC g (#[.agg (dlC d dv).toArray,.I (i:Nat)]++cap) W λr W'=>∃ F',J (pre++[(d,i)]) F' W'/\Stp F W W'/\∀ b∈F',b∈F\/W.heap.size<=b
def Z6b (c:Cas) (f:Fct):Nat->List DI
 | 0=>[]
 | i+1=>Z6b c f i++if (Z1F c f i).2=true then [((Z1F c f i).1,i)] else []
def Z1b (c:Cas) (fs:List Fct):List DI:=fs.flatMap (λf=>Z6b c f c.ruls.length)
theorem ZfD (c:Cas) (fs:List Fct) (k:Nat) (h:k<fs.length):Z1b c (fs.take (k+1))=Z1b c (fs.take k)++Z6b c fs[k] c.ruls.length:=by
 unfold Z1b;rw [Xj h,YaC];simp
theorem Zbh {fv:Value} {g:Nat} {fn:Func} {cap:Array Value} {J:List DI->List Nat->World->Prop} {Pd:List DI->Dln->Nat->Prop} [hf:Fun Tryz.prog g fn] (hy:Yld fv g cap J Pd)
 (c:Cas) (R:Z0C) (lv:Value) (fs:List Fct) (F0:List Nat) (w) (ho:Z4I c) (bH:∀ W,Stp F0 w W->Z2k W c R) (hl:∀ W,Stp F0 w W->SlV [] W lv fs) (dQ:∀ f∈fs,Z0D f)
 (hP:∀ k (hk:k<fs.length) (i:Nat),i<c.ruls.length->(Z1F c fs[k] i).2=true->Pd (Z1b c (fs.take k)++Z6b c fs[k] i) (Z1F c fs[k] i).1 i) (h0:J [] F0 w) :
 CC 53 #[.agg (Jq c R).toArray,lv,fv] w λr W=>∃ F,J (Z1b c fs) F W/\Stp F0 w W/\∀ b∈F,b∈F0\/w.heap.size<=b:=by
 have aW:=(hl w (Stp.refl _ _)).max;have jM:=ho.rl;have oS:=hy.fv;subst oS;refine cW3 37 Tryz.func53 ?_;refine W ?_;refine BX (Stp.refl [] w) λb3 w1 h3 e3 _ hS=>?_;replace e3:Blk w1 b3 49 (Jq c R):=e3;have eR:=hl w1 hS.mn;refine W ?_
 refine Zt (σ:=Nat×List Nat) (λq=>[(2,.func (.func g) #[] cap),(3,pQ b3),(11,lv),(12,.I fs.length),(13,.I q.1)])
  (λq W=>q.1<=fs.length/\J (Z1b c (fs.take q.1)) q.2 W/\Stp F0 w W/\Blk W b3 49 (Jq c R)/\b3∉q.2/\∀ b∈q.2,b∈F0\/w.heap.size<=b) (λq=>fs.length - q.1) (0,F0) ⟨rfl,rfl,rfl,rfl,rfl,trivial⟩
  ⟨by omega,by simpa [Z1b] using hy.up _ _ _ _ h0 hS,hS.mn,e3,λh=>by have:=hy.lt _ _ _ h0 _ h;omega,λb hb=>.inl hb⟩ ?_
 clear e3 eR hS;rintro ⟨k,F⟩ w2 ⟨hk,hJ,hS,e3,dS,fR⟩;dsimp only at hk hJ dS fR ⊢;have dJ:=hl w2 hS;by_cases hlt:k<fs.length;have uT:=dQ _ (Xc hlt);have hstep:=ZfD c fs k hlt;refine QO ?_;refine Z0 Z4 rfl ?_;rintro _ w3 ⟨b7,rfl,kQ,e7,hA⟩;refine SA (us:=Z2.enc fs[k]) e7 ?_;rintro _ w4 ⟨cR,e7⟩;replace hA:=hA.ow cR;have ke:b7∉F:=λh=>by have:=hy.lt _ _ _ hJ _ h;omega
 replace e3:=e3.up hA;replace hJ:=hy.up _ _ _ _ hJ hA;replace hS:=hS.trans hA.mn;clear hA cR dJ;have fc:=(bH w4 hS).rr;refine QO ?_
 refine Zt (σ:=Nat×List Nat) (λq=>[(2,.func (.func g) #[] cap),(3,pQ b3),(7,pQ b7),(11,lv),(12,.I fs.length),(13,.I k),(19,.I c.ruls.length),(20,.I q.1)])
  (λq W=>q.1<=c.ruls.length/\J (Z1b c (fs.take k)++Z6b c fs[k] q.1) q.2 W/\Stp F0 w W/\Blk W b3 49 (Jq c R)/\Blk W b7 24 (Z2.enc fs[k])/\b3∉q.2/\b7∉q.2/\∀ b∈q.2,b∈F0\/w.heap.size<=b) (λq=>c.ruls.length - q.1) (0,F) ⟨rfl,rfl,rfl,rfl,rfl,rfl,rfl,rfl,trivial⟩
  ⟨by omega,by simpa [Z6b] using hJ,hS,e3,e7,dS,ke,fR⟩ ?_
 clear hJ hS e3 e7 dS ke fR fc;rintro ⟨i,F⟩ w5 ⟨hi,hJ,hS,e3,e7,dS,ke,fR⟩;dsimp only at hi hJ dS ke fR ⊢;by_cases kg:i<c.ruls.length
 . have cz:=bH w5 hS
   have ar:Z6b c fs[k] (i+1)=Z6b c fs[k] i++if (Z1F c fs[k] i).2=true then [((Z1F c fs[k] i).1,i)] else []:=rfl
   have rL:=hP k hlt i kg;refine QO ?_;refine CM (ZL rfl rfl rfl) (Zml c R fs[k] i w5 cz ho uT (by unfold I64;omega)) ?_;rintro _ w6 ⟨rv,rfl,ac⟩;have hA:=ac.2;have au:SlV F w6 rv (Z1F c fs[k] i).1.reas:=ac.slv (λb hb=>hy.lt _ _ _ hJ b hb);replace e3:=e3.up hA;replace e7:=e7.up hA;replace hJ:=hy.up _ _ _ _ hJ hA;replace hS:=hS.trans hA.mn;clear hA ac cz;generalize Z1F c fs[k] i=o at *;obtain ⟨d,ok⟩:=o;dsimp only at ar rL au;have iM:=au.one;refine QO ?_;refine Z0 Z4 rfl ?_;rintro _ w7 ⟨b9,rfl,gH,e9,hA⟩;refine SB (us:=dlC d rv) (Z9G _ iM) e9 ?_;rintro _ w8 ⟨cR,e9⟩;replace hA:=hA.ow cR;have xj:b9∉F:=λh=>by have:=hy.lt _ _ _ hJ _ h;omega
   replace e3:=e3.up hA;replace e7:=e7.up hA;replace hJ:=hy.up _ _ _ _ hJ hA;replace hS:=hS.trans hA.mn;replace au:=au.up hA;clear hA cR;cases ok with
   | false=>
     refine QO ?_;exact QL (i+1,F) ⟨kg,by rw [ar,if_neg (by simp),XG];exact hJ,hS,e3,e7,dS,ke,fR⟩ (by dsimp only;omega)
   | true=>
     refine QO ?_;refine Z0 (Z0v rfl (Zh rfl rfl) rfl (hy.call _ F d rv i w8 hJ au (rL rfl))) rfl ?_;rintro _ w9 ⟨F',iq,hA,kh⟩;refine QO ?_;have z3:=e3.lt;have z7:=e7.lt;refine QL (i+1,F') ⟨kg,by rw [ar,if_pos rfl,<- XI];exact iq,hS.own hA fR,e3.ext hA dS,e7.ext hA ke,λh=>?_,λh=>?_,λb hb=>?_⟩ (by dsimp only;omega);rcases kh _ h with h|h
     exact dS h;omega;rcases kh _ h with h|h
     exact ke h;omega;rcases kh _ hb with h|h
     exact fR _ h;exact .inr (by have:=hS.size;omega)
 obtain rfl:i=c.ruls.length:=by omega
 refine QO ?_;exact QL (k+1,F) ⟨hlt,by rw [hstep];exact hJ,hS,e3,dS,fR⟩ (by dsimp only;omega);obtain rfl:k=fs.length:=by omega
 rw [Xs] at hJ;refine RT ?_;exact ⟨F,hJ,hS,fR⟩
abbrev Z6c (x:Fct):Value:=aG x
theorem Zrm (x y:Fct) (w):(Op.equal 24 (Z6c x) (Z6c y)).run Tryz.prog w=.ok (decide (x=y)) w:=by
 have h1:Program.stoodInHeld Tryz.prog 24=false:=by kernel_rfl
 obtain ⟨i,hi⟩:∃ i,Tryz.prog.info? 3=some i:=by
  have:=(inferInstance:Siz Tryz.prog 3 1).h;cases h:Tryz.prog.info? 3 with
  | none=>rw [h] at this;cases this
  | some i=>exact ⟨i,rfl⟩
 obtain ⟨a,b,c,d,e,f⟩:=x;obtain ⟨a',b',c',d',e',f'⟩:=y;simp [Z6c,Z2.enc,Op.equal,Op.maxDepth,run_equalIn_struct,h1,Program.fieldsOf,Tryz.underlying24,Op.eqFields,part,Und.isAgg,Siz.run,Z0h,run_equalIn_int w _ _ .i64 .i64 _ _ Tryz.underlying3,run_equalIn_string w _ _ _ _ Tryz.underlying9];repeat' split
 all_goals simp_all
theorem Zmm (em:Bool) (x:Fct) (w):(Instr.checkKey em 10000 24 (Z6c x)).run Tryz.prog w=.ok () w:=by kernel_rfl
instance:Z6C Tryz.prog 24 Fct where
 enc:=Z6c
 chk:=Zmm
 find:=λa es l w hk=>by
  have h2:=run_findKey_eq (P:=Tryz.prog) (k:=24) w (by kernel_rfl) (Z6c a) es;have h3:=Z21 Z6c Zrm a w es l 0 hk;simp only [XK] at h3;exact h2.trans h3
theorem Zem {κ:Type} [DecidableEq κ] (l:List κ) (a:κ):Z0t (l.map (λx=>(x,Value.bool true))) a (.B false)=.B (decide (a∈l)):=by
 unfold Z0t;cases h:(l.map (λx=>(x,Value.bool true))).find? (λp=>decide (p.1=a)) with
 | none=>
   rw [Yaw] at h;rw [decide_eq_false (λha=>absurd (h (a,.B true) (Xw.2 ⟨a,ha,rfl⟩)) (by simp))]
 | some p=>
   have h1:=X9 h;have h2:=Ybo h;obtain ⟨x,hx,rfl⟩:=Xw.1 h1;have:x=a:=by simpa using h2
   subst this;simp [hx]
def Z03 (c:Cas) (s:List Fct×List Fct) (p:DI):List Fct×List Fct:=
 let f:=Zb4 c p.1 p.2
 if f.2=true/\f.1∉s.1 then (s.1++[f.1],s.2++[f.1]) else s
theorem ZfE (c:Cas) (s:List Fct×List Fct) (p:DI):(Z03 c s p).2.length<=s.2.length+1:=by
 unfold Z03;dsimp only;split<;>simp
theorem Z5t (c:Cas):∀ (l:List DI) (s:List Fct×List Fct),(l.foldl (Z03 c) s).2.length<=s.2.length+l.length
 | [],s=>by simp
 | p :: l, s => by
   have h1:=Z5t c l (Z03 c s p);have h2:=ZfE c s p;rw [Yag,Xf];omega
structure FcK where
 c:Cas
 R:Z0C
 w0:World
 b1:Nat
 b3:Nat
 r:Nat
 b9:Nat
 known:List Fct
structure Zng (K:FcK):Prop where
 d1:K.b1≠K.r/\K.b1≠K.b9
 d2:K.b3≠K.r/\K.b3≠K.b9
 d3:K.r≠K.b9
 l1:K.b1<K.w0.heap.size
 l3:K.b3<K.w0.heap.size
 lr:K.r<K.w0.heap.size
 l9:K.b9<K.w0.heap.size
 e1:Blk K.w0 K.b1 49 (Jq K.c K.R)
 e3:Blk K.w0 K.b3 160 [.map (some K.r)]
 rr:∀ W,Stp [K.r,K.b9] K.w0 W->SlV [] W K.R.rv K.c.ruls
structure FcJ (K:FcK) (pre:List DI) (F:List Nat) (W:World):Prop where
 ex:∃ nv,F=K.r :: K.b9 :: ob nv/\Blk W K.b9 35 [nv]/\Row [K.r,K.b9] W K.w0.heap.size 24 nv (pre.foldl (Z03 K.c) (K.known,[])).2
 map:Jf Z6c W K.r ((pre.foldl (Z03 K.c) (K.known,[])).1.map (λf=>(f,.B true)))
 stp:Stp [K.r,K.b9] K.w0 W
theorem ZcY (K:FcK) (hK:Zng K):Yld (.func (.func 88) #[] #[.pointer (some ⟨K.b1,0,none⟩),.pointer (some ⟨K.b3,0,none⟩),.pointer (some ⟨K.b9,0,none⟩)]) 88 #[.pointer (some ⟨K.b1,0,none⟩),.pointer (some ⟨K.b3,0,none⟩),.pointer (some ⟨K.b9,0,none⟩)] (FcJ K)
 (λpre d i=>i<K.c.ruls.length/\(-1000000000<=d.due/\d.due<=1000000000/\-1000000000<=d.trig.day/\d.trig.day<=1000000000)/\pre.length<=300000000000):=by
 obtain ⟨⟨d1,d1'⟩,⟨d2,d2'⟩,d3,l1,l3,lr,l9,E1,E3,fc⟩:=hK;refine ⟨rfl,?_,?_,?_⟩;rintro pre F Y ⟨⟨nv,rfl,e9,ac⟩,hm,hS⟩ b hb;have:=hS.size;simp only [Xa] at hb;rcases hb with rfl|rfl|hb
 omega;omega;exact (ac.ob_le b hb).2;rintro pre F Y Y' ⟨⟨nv,rfl,e9,ac⟩,hm,hS⟩ hT;exact ⟨⟨nv,rfl,e9.up hT,ac.up hT⟩,hm.up hT,hS.trans hT.mn⟩
 . rintro pre F d dv i Y ⟨⟨nv,rfl,e9,ac⟩,hm,hS⟩ au ⟨hi,hb,fu⟩
   have cP:=Z5t K.c pre (K.known,[]);simp only [Xh,XK] at cP;have ar:∀ p:DI,(pre++[p]).foldl (Z03 K.c) (K.known,[])=Z03 K.c (pre.foldl (Z03 K.c) (K.known,[])) p:=λp=>by simp
   have ar:=ar (d,i);have iM:=au.one;have hW:=hS.size;have dG:=λb hb=>(ac.ob_le b hb)
   generalize pre.foldl (Z03 K.c) (K.known,[])=s at *;refine cW5 29 Tryz.func88 ?_;refine W ?_;refine BX (Stp.refl [] Y) λb5 w1 h5 e5 hT _=>?_;replace e5:Blk w1 b5 70 (dlC d dv):=e5;have e1:=E1.ext (hS.trans hT.mn) (by simp [d1,d1']);have e3:=E3.ext (hS.trans hT.mn) (by simp [d2,d2']);have eA:=fc w1 (hS.trans hT.mn);replace e9:=e9.up hT;replace ac:=ac.up hT;replace hm:=hm.up hT;have iN:SlV [] w1 dv d.reas:=au.ext hT (by simp) (by simp);have ii:=hT;clear hT;refine W ?_;refine CP (Stp.refl [] w1) (Zb5 K.c K.R d dv i w1 eA iN hi hb) λw2 hT _=>?_;have g2:Y.heap.size<=w2.heap.size:=Xk ii.size hT.size;generalize uU:Zb4 K.c d i=fo at *;obtain ⟨f,ok⟩:=fo;refine W ?_;refine Z0 Z4 rfl ?_;rintro _ w3 ⟨b7,rfl,kQ,e7,ax⟩;refine SA (us:=Z2.enc f) e7 ?_;rintro _ w4 ⟨cH,e7⟩;replace hT:=hT.trans (ax.ow cH);clear ax cH;replace e1:=e1.up hT;replace e3:=e3.up hT;replace e9:=e9.up hT;replace ac:=ac.up hT;replace hm:=hm.up hT;replace ii:=ii.trans hT;clear hT e5 eA iN;have g7:Y.heap.size<=b7:=by omega
   have mm:Z03 K.c s (d,i)=if ok=true/\f∉s.1 then (s.1++[f],s.2++[f]) else s:=by unfold Z03;rw [uU]
   rw [mm] at ar;clear mm;have skip:(¬ (ok=true/\f∉s.1))->∀ w',Stp [] w4 w'->∃ F',FcJ K (pre++[(d,i)]) F' w'/\Stp (K.r :: K.b9 :: ob nv) Y w'/\∀ b∈F',b∈K.r :: K.b9 :: ob nv\/Y.heap.size<=b:=λhn w' hT=>by
    rw [if_neg hn] at ar;exact ⟨_,⟨⟨nv,rfl,e9.up hT,by rw [ar];exact ac.up hT⟩,by rw [ar];exact hm.up hT,hS.trans ((ii.trans hT).mn)⟩,(ii.trans hT).mn,λb hb=>.inl hb⟩
   cases ok with
   | false=>
     refine QO ?_;refine WR ?_;exact .mk (skip (by simp) _ (Stp.refl _ _))
   | true=>
     refine QO ?_;refine Za (Z0K (a:=f) rfl rfl hm) rfl ?_;rw [Zem];by_cases ba:f∈s.1;rw [decide_eq_true ba];refine QO ?_;refine WR ?_;exact .mk (skip (by simp [ba]) _ (Stp.refl _ _));rw [if_pos ⟨rfl,ba⟩] at ar;rw [decide_eq_false ba];clear skip;refine QO ?_;refine Z8 (Z0J (a:=f) rfl rfl rfl hm (λp hp=>by
      obtain ⟨x,hx,rfl⟩:=Xw.1 hp;exact λh=>ba (h ▸ hx))) ?_
     rintro _ w5 ⟨rM,dR⟩;have z9:K.b9<w4.heap.size:=e9.lt;replace e9:=e9.ext dR (by simp;omega);replace e7:=e7.ext dR (by simp;omega);replace ac:=ac.ext (X':=[K.r,K.b9]) dR (λb hb=>⟨by simp at hb;simp [hb],λh=>by simp at hb;have:=(dG b h).1;omega⟩) (λb hb=>.inl hb);refine QO ?_;refine APG (X:=[K.r,K.b9]) (base:=K.w0.heap.size) f ac (λb hb=>by have:=dR.size;have:=ii.size;simp at hb;omega) (by have:=dR.size;have:=ii.size;omega) rfl (by omega) (by simp only [maxLen];omega) λv1 nv' w6 mo iL aN=>?_
     replace e9:=e9.ext iL (λh=>by have:=(dG _ h).1;omega);focus repeat'(first|refine W1 ?_|omega|refine VG ?_ ?_<;>intro hg|refine VC ?_ ?_<;>intro hc)
     have mq:SlV [K.r,K.b9] w6 nv' (s.2++[f]):=mo.slv (λb hb=>by simp at hb;omega);refine Z8 (Zf (u:=nv') rfl rfl mq.cells mq.one e9 (by simp)) ?_;rintro _ w7 ⟨pP,e9⟩;refine QO ?_;refine WR ?_;have pR:=λb hb=>mo.ob_le b hb;have mr:Stp (K.r :: K.b9 :: ob nv) w4 w7:=(dR.mn.trans (iL.mono (λb hb=>by simp [hb]))).trans pP.mn;refine .mk ⟨K.r :: K.b9 :: ob nv',⟨⟨nv',rfl,e9,?_⟩,?_,?_⟩,ii.mn.trans mr,λb hb=>?_⟩;rw [ar];exact mo.ext pP (λb hb=>⟨by simp at hb;simp [hb],λh=>by simp at hb;have:=(pR b h).1;omega⟩) (λb hb=>.inl hb);rw [ar];have uV:Jf Z6c w7 K.r (s.1.map (λf=>(f,Value.bool true))++[(f,Value.bool true)]):=(rM.ext iL (λh=>by have:=(dG _ h).1;omega)).ext pP (by simp;omega);rw [XH];exact uV;exact (hS.trans ii.mn).own mr (λb hb=>by
      simp only [Xa] at hb;rcases hb with rfl|rfl|hb
      exact .inl (by simp);exact .inl (by simp);exact .inr (dG b hb).1)
     simp only [Xa] at hb ⊢;rcases hb with rfl|rfl|hb
     exact .inl (.inl rfl);exact .inl (.inr (.inl rfl));rcases aN b hb with h|h
     exact .inl (.inr (.inr h));exact .inr (by have:=dR.size;have:=ii.size;omega)
open Go Go.Eng Go.RowKit Go.Shelf Go.Sort
structure Z40 {α:Type} (cf:α->α->Int):Prop where
 anti:∀ x y,cf x y<0↔0<cf y x
 trans:∀ x y z,cf x y<=0->cf y z<=0->cf x z<=0
theorem Z40.swo {α:Type} {cf:α->α->Int} (h:Z40 cf):SWO (ltOf cf):=by
 have e:∀ x y,ltOf cf x y=decide (cf x y<0):=λ_ _=>rfl;refine ⟨λx=>?_,λx y z h1 h2=>?_,λx y z h1 h2=>?_⟩;have:=h.anti x x;rw [e];simp;omega;rw [e] at *;simp only [decide_eq_true_eq] at *;have a1:=h.anti x y;have a2:=h.anti x z;by_cases hz:cf x z<0;exact hz;have:=h.trans y z x (by omega) (by omega);omega;rw [e] at *;simp only [decide_eq_false_iff_not] at *;have a1:=h.anti x y;have a2:=h.anti y z;have a3:=h.anti x z;have:=h.trans z y x (by omega) (by omega);omega
theorem Z2l {α:Type} (f:α->Int):Z40 (λx y:α=>cmI (f x) (f y)):=by
 have key:∀ a b:Int,(cmI a b<0↔a<b)/\(0<cmI a b↔b<a):=by
  intro a b;unfold cmI;by_cases h1:a<b;simp [h1];omega;by_cases h2:b<a;simp [h1,h2];simp [h1,h2]
 refine ⟨λx y=>?_,λx y z h1 h2=>?_⟩;rw [(key _ _).1,(key _ _).2];have a1:=key (f x) (f y);have a2:=key (f y) (f z);have a3:=key (f x) (f z)
 try dsimp only at *
 by_cases h:0<cmI (f x) (f z);have:=a3.2.1 h;have:¬ f y<f x:=λhh=>by have:=a1.2.2 hh;omega
 have:¬ f z<f y:=λhh=>by have:=a2.2.2 hh;omega
 omega;omega
theorem Z5u:∀ a:Str,ltS a a=false
 | []=>rfl
 | x :: a => by
   show (decide (x<x) || (x == x && ltS a a))=false;rw [Z5u a];simp
theorem Z9H:∀ a b:Str,ltS a b=true\/a=b\/ltS b a=true
 | [],[]=>.inr (.inl rfl)
 | [],_ :: _=>.inl rfl
 | _ :: _,[]=>.inr (.inr rfl)
 | x :: a, y :: b => by
   have e1:ltS (x :: a) (y :: b)=(decide (x<y) || (x == y && ltS a b)):=rfl;have e2:ltS (y :: b) (x :: a)=(decide (y<x) || (y == x && ltS b a)):=rfl;rw [e1,e2];rcases Nat.lt_trichotomy x.toNat y.toNat with h|h|h
   exact .inl (by simp [UInt8.lt_iff_toNat_lt,h]);obtain rfl:x=y:=UInt8.toNat_inj.1 h;rcases Z9H a b with h|h|h
   exact .inl (by simp [h]);exact .inr (.inl (by rw [h]));exact .inr (.inr (by simp [h]));exact .inr (.inr (by simp [UInt8.lt_iff_toNat_lt,h]))
theorem Z7g:∀ a b c:Str,ltS a b=true->ltS b c=true->ltS a c=true
 | [],[],_,h,_=>by cases h
 | [],_ :: _,[],_,h=>by cases h
 | [],_ :: _,_ :: _,_,_=>rfl
 | _ :: _,[],_,h,_=>by cases h
 | _ :: _,_ :: _,[],_,h=>by cases h
 | x :: a, y :: b, z :: c, h1, h2 => by
   have e1:ltS (x :: a) (y :: b)=(decide (x<y) || (x == y && ltS a b)):=rfl;have e2:ltS (y :: b) (z :: c)=(decide (y<z) || (y == z && ltS b c)):=rfl;have e3:ltS (x :: a) (z :: c)=(decide (x<z) || (x == z && ltS a c)):=rfl;rw [e1] at h1;rw [e2] at h2;rw [e3];simp only [YaZ,decide_eq_true_eq,Xd,beq_iff_eq,UInt8.lt_iff_toNat_lt] at *;rcases h1 with h1|⟨rfl,h1⟩
   rcases h2 with h2|⟨rfl,h2⟩
   exact .inl (by omega);exact .inl h1;rcases h2 with h2|⟨rfl,h2⟩
   exact .inl h2;exact .inr ⟨rfl,Z7g a b c h1 h2⟩
theorem Z1G (a b:Str):(Z3l a b<0↔ltS a b=true)/\(0<Z3l a b↔ltS b a=true):=by
 unfold Z3l;cases h1:ltS a b with
 | true=>
   have h2:ltS b a=false:=by
    cases h:ltS b a with
    | false=>rfl
    | true=>have:=Z7g a b a h1 h;rw [Z5u] at this;cases this
   simp [h2]
 | false=>
   rcases Z9H a b with h|rfl|h
   rw [h1] at h;cases h;simp [h1];have aX:a≠b:=λe=>by subst e;rw [Z5u] at h;cases h
   simp [h,aX]
theorem ZfF {α:Type} (f:α->Str):Z40 (λx y:α=>Z3l (f x) (f y)):=by
 refine ⟨λx y=>?_,λx y z h1 h2=>?_⟩;rw [(Z1G _ _).1,(Z1G _ _).2]
 try dsimp only at *
 by_cases h:0<Z3l (f x) (f z)
 . exfalso
   have g:=(Z1G _ _).2.1 h;have n1:ltS (f y) (f x)=false:=by
    cases hh:ltS (f y) (f x) with
    | false=>rfl
    | true=>have:=(Z1G (f x) (f y)).2.2 hh;omega
   have n2:ltS (f z) (f y)=false:=by
    cases hh:ltS (f z) (f y) with
    | false=>rfl
    | true=>have:=(Z1G (f y) (f z)).2.2 hh;omega
   rcases Z9H (f x) (f y) with a|a|a
   have:=Z7g _ _ _ g a;rw [n2] at this;cases this;rw [a] at g;rw [n2] at g;cases g;rw [n1] at a;cases a
 omega
def lx (a b:Int):Int:=if a≠0 then a else b
theorem Z40.lx {α:Type} {c1 c2:α->α->Int} (h1:Z40 c1) (h2:Z40 c2):Z40 (λx y=>lx (c1 x y) (c2 x y)):=by
 refine ⟨λx y=>?_,λx y z a b=>?_⟩;have:=h1.anti x y;have:=h1.anti y x;have:=h2.anti x y;unfold YteibicnbkggiiaaGreatDoor.lx
 try dsimp only
 split<;>split<;>omega
 unfold YteibicnbkggiiaaGreatDoor.lx at *
 try dsimp only at *
 have a1:=h1.anti x y;have a1':=h1.anti y x;have a2:=h1.anti y z;have a2':=h1.anti z y;have a3:=h1.anti x z;have a3':=h1.anti z x;have t1:=h1.trans x y z;have t2:=h1.trans y z x;have t3:=h1.trans z x y;have t4:=h2.trans x y z;split at a<;>split at b<;>split<;>omega
theorem Zj8 (a:Int) (l:List Int):orL (a :: l)=lx a (orL l):=by
 unfold orL lx;by_cases h:a=0<;>simp [h]
theorem Zen (f g:Fct):Z3S f g=lx (cmI f.day g.day) (lx (cmI f.entry g.entry) (lx (Z3l f.kind g.kind) (lx (cmI f.by_ g.by_) (lx (cmI f.to_ g.to_) (cmI f.amt g.amt))))):=by
 unfold Z3S;simp only [Zj8];congr 5;unfold lx orL;by_cases h:cmI f.amt g.amt=0<;>simp [h]
theorem Z3J:Z40 Z3S:=by
 have:Z3S=λf g:Fct=>lx (cmI f.day g.day) (lx (cmI f.entry g.entry) (lx (Z3l f.kind g.kind) (lx (cmI f.by_ g.by_) (lx (cmI f.to_ g.to_) (cmI f.amt g.amt))))):=by
  funext f g;exact Zen f g
 rw [this];exact (Z2l _).lx ((Z2l _).lx ((ZfF _).lx ((Z2l _).lx ((Z2l _).lx (Z2l _)))))
theorem Z4J {a b:Int} (h:lx a b=0):a=0/\b=0:=by
 unfold lx at h;split at h<;>omega
theorem Z3r {a b:Int} (h:cmI a b=0):a=b:=by
 unfold cmI at h;split at h;omega;split at h<;>omega
theorem ZfG {a b:Str} (h:Z3l a b=0):a=b:=by
 rcases Z9H a b with g|g|g
 have:=(Z1G a b).1.2 g;omega;exact g;have:=(Z1G a b).2.2 g;omega
theorem ZfH {f g:Fct} (h:Z3S f g=0):f=g:=by
 rw [Zen] at h;obtain ⟨h1,h⟩:=Z4J h;obtain ⟨h2,h⟩:=Z4J h;obtain ⟨h3,h⟩:=Z4J h;obtain ⟨h4,h⟩:=Z4J h;obtain ⟨h5,h6⟩:=Z4J h;obtain ⟨a,b,c,d,e,k⟩:=f;obtain ⟨a',b',c',d',e',k'⟩:=g
 try dsimp only at *
 rw [Z3r h1,Z3r h2,ZfG h3,Z3r h4,Z3r h5,Z3r h6]
theorem Z8y {α:Type} {cf:α->α->Int} (h:Z40 cf) (h0:∀ x y,cf x y=0->x=y):∀ {l m:List α},l.Perm m->l.Pairwise (λa b=>¬ cf b a<0)->m.Pairwise (λa b=>¬ cf b a<0)->l=m
 | [],m,hp,_,_=>(List.nil_perm.1 hp).symm
 | x :: l,[],hp,_,_=>by have:=hp.length_eq;simp at this
 | x :: l, y :: m, hp, h1, h2 => by
   rw [XU] at h1 h2;have kV:x=y:=by
    rcases Xa.1 (hp.mem_iff.1 (XT)) with e|e
    exact e;rcases Xa.1 (hp.symm.mem_iff.1 (XT)) with e'|e'
    exact e'.symm;have a1:=h2.1 x e;have a2:=h1.1 y e';have b1:=h.anti x y;have b2:=h.anti y x;exact h0 x y (by omega)
   subst kV;rw [Z8y h h0 hp.cons_inv h1.2 h2.2]
def ZcZ (s:Fct):List Fct->List Fct
 | []=>[s]
 | x :: l=>if Z3S s x<=0 then s :: x :: l else x :: ZcZ s l
def Z4K (l:List Fct):List Fct:=l.foldr ZcZ []
theorem Z5v (s:Fct):∀ l,(ZcZ s l).Perm (s :: l)
 | []=>Yaz _
 | x :: l => by
   rw [ZcZ];split;exact Yaz _
   . exact ((Z5v s l).cons x).trans (List.Perm.swap _ _ _)
theorem Z5X (s:Fct):∀ l:List Fct,l.Pairwise (λa b=>¬ Z3S b a<0)->(ZcZ s l).Pairwise (λa b=>¬ Z3S b a<0)
 | [],_=>by simp [ZcZ]
 | x :: l, h => by
   rw [ZcZ];rw [XU] at h;split;rename_i hlt;refine XU.2 ⟨λy hy=>?_,XU.2 h⟩;rcases Xa.1 hy with rfl|hy
   have:=Z3J.anti y s;omega;have a1:=h.1 y hy;have a2:=Z3J.anti y x;have a3:=Z3J.anti y s;have:=Z3J.trans s x y hlt (by omega);omega;rename_i hlt;refine XU.2 ⟨λy hy=>?_,Z5X s l h.2⟩;rcases Xa.1 ((Z5v s l).mem_iff.1 hy) with rfl|hy
   omega;exact h.1 y hy
theorem JU:∀ l,(Z4K l).Perm l
 | []=>Yaz _
 | x :: l=>(Z5v x _).trans ((JU l).cons x)
theorem Z4L:∀ l,(Z4K l).Pairwise (λa b=>¬ Z3S b a<0)
 | []=>List.Pairwise.nil
 | x :: l=>Z5X x _ (Z4L l)
theorem Zj9 {l m:List Fct} (hp:m.Perm l) (hs:m.Pairwise (λa b=>¬ Z3S b a<0)):m=Z4K l:=Z8y Z3J (λ_ _=>ZfH) (hp.trans (JU l).symm) hs (Z4L l)
theorem Z5Y {X:List Nat} {base:Nat} {v:Value} {zs:List Fct} {w} (h:Row X w base 24 v zs) (br:zs.length<=400000000000) :
 CC 47 #[v,.func (.func 52) #[] #[]] w λr w'=>r=.tuple #[]/\Row X w' base 24 v (Z4K zs)/\Stp (ob v) w w':=by
 refine Calls.ret (Z5i (β:=Fct) (by decide) Tryz.sortFct Tryz.isAgg24 Tryz.sizeOf24 Z3S Z3J.swo 52 (λx y w=>ZuI x y w) h (by omega)) ?_;rintro _ w' ⟨rfl,zs',hp,hs,hr,hS⟩;rw [<- Zj9 hp (XZ.2 λi j hi hj bR=>hs i j hi hj bR)];exact ⟨rfl,hr,hS⟩
def ZD (c:Cas):Nat->List Fct×List Fct×List Fct
 | 0=>(c.fcts,c.fcts,[])
 | k+1=>let s:=ZD c k;let r:=(Z1b c s.2.1).foldl (Z03 c) (s.1,[]);(r.1,r.2,s.2.2++r.2)
def Z2I (c:Cas):List Fct:=Z4K (ZD c 16).2.2
theorem Z5Z (c:Cas) {k:Nat} (h:(ZD c k).2.1=[]):∀ j,(ZD c (k+j)).2.2=(ZD c k).2.2/\(ZD c (k+j)).2.1=[]
 | 0=>⟨rfl,h⟩
 | j + 1 => by
   obtain ⟨h1,h2⟩:=Z5Z c h j;rw [<- YaP,ZD];dsimp only;rw [h2];simp [Z1b,h1]
theorem Z4M (c:Cas) (f:Fct):∀ i,(Z6b c f i).length<=i
 | 0=>Xq _
 | i + 1 => by
   rw [Z6b,Xb];have:=Z4M c f i;split<;>simp<;>omega
theorem Z4N (c:Cas):∀ fs:List Fct,(Z1b c fs).length<=fs.length * c.ruls.length
 | []=>by simp [Z1b]
 | f :: fs => by
   have h1:=Z4N c fs;have h2:=Z4M c f c.ruls.length;unfold Z1b at h1 ⊢;rw [Ybc,Xb,Xf,Yam];omega
theorem Zbi {c:Cas} {f:Fct} {p:DI}:∀ i,p∈Z6b c f i->p.2<i/\p.1=(Z1F c f p.2).1/\(Z1F c f p.2).2=true
 | 0,h=>by cases h
 | i + 1, h => by
   rw [Z6b] at h;rcases Xe.1 h with h|h
   obtain ⟨h1,h2⟩:=Zbi i h;exact ⟨by omega,h2⟩;split at h;rename_i ht;simp only [Xn] at h;subst h;exact ⟨by dsimp only;omega,rfl,ht⟩;cases h
theorem Z7h {c:Cas} {fs:List Fct} {p:DI} (h:p∈Z1b c fs):∃ f∈fs,p.2<c.ruls.length/\p.1=(Z1F c f p.2).1/\(Z1F c f p.2).2=true:=by
 unfold Z1b at h;obtain ⟨f,hf,hp⟩:=YbV.1 h;exact ⟨f,hf,Zbi _ hp⟩
theorem Z6u {c:Cas} {f:Fct} {r:Int} (ho:Z4I c) (hf:Z0D f) (h:(Z1F c f r).2=true):(Z1F c f r).1.trig=f/\0<=(Z1F c f r).1.due/\(Z1F c f r).1.due<=3652058:=by
 have cb:=Zj7 ho hf;have no:∀ {P:Prop},(noD.2=true)->P:=λh=>by cases h
 unfold Z1F at h ⊢;by_cases hr:¬ (0<=r/\r<=(c.ruls.length:Int) - 1);rw [if_pos hr] at h;exact no h;rw [if_neg hr] at h ⊢;have hq:c.ruls.getD r.toNat crZ∈c.ruls:=by
  have hl:r.toNat<c.ruls.length:=by omega
  simp [hl]
 have mj:=ho.due _ hq;generalize c.ruls.getD r.toNat crZ=q at *;dsimp only at h ⊢;have nG:=Z7e (o:=opn c) cb mj;generalize Js (opn c) (evL c f) q.due=y at *;generalize Js (opn c) (evL c f) q.cnd=x at *;split at h;exact no h;split at h;exact no h;split at h;exact no h;rename_i g1 g2 g3;rw [if_neg g1,if_neg g2,if_neg g3];have hy:0<=y.1/\y.1<=3652058:=by
  rcases nG (Decidable.not_not.1 g3) with h|h|h
  omega;omega;exact h.2
 generalize Z9r f.day y.1 c.stys=z at *;split at h;exact no h;rename_i g4;rw [if_neg g4];split at h;rename_i g5;rw [if_pos g5];exact ⟨rfl,hy⟩;rename_i g5;rw [if_neg g5];split at h;exact no h;rename_i g6;rw [if_neg g6];have:=ZC.1 (Z3j (Decidable.not_not.1 g6)).1;exact ⟨rfl,this⟩
theorem Zrn {c:Cas} {d:Dln} {i:Nat} (ho:Z4I c) (hf:Z0D d.trig) (h:(Zb4 c d i).2=true):Z0D (Zb4 c d i).1:=by
 have h1:=hf.day;have h2:=ho.today;unfold Zb4 at h;simp only [decide_eq_true_eq] at h;refine ⟨?_,hf.to_,hf.by_,hf.amt⟩;show 0<=max d.due d.trig.day+1/\max d.due d.trig.day+1<=3652058;omega
theorem Zbj {c:Cas} (ho:Z4I c):∀ (l:List DI) (s:List Fct×List Fct),(∀ p∈l,Z0D p.1.trig)->(∀ f∈s.2,Z0D f)->∀ f∈(l.foldl (Z03 c) s).2,Z0D f
 | [],s,_,hs=>hs
 | p :: l, s, hl, hs => by
   rw [Yag];refine Zbj ho l _ (λq hq=>hl q (by simp [hq])) ?_;unfold Z03;dsimp only;split;rename_i hc;intro f hf;rcases Xe.1 hf with h|h
   exact hs f h;simp only [Xn] at h;subst h;exact Zrn ho (hl p (by simp)) hc.1;exact hs
theorem Zja {c:Cas} (ho:Z4I c) {fs:List Fct} (dQ:∀ f∈fs,Z0D f) (known:List Fct):∀ f∈((Z1b c fs).foldl (Z03 c) (known,[])).2,Z0D f:=
 Zbj ho _ _ (λp hp=>by
  obtain ⟨f,hf,_,he,ht⟩:=Z7h hp;rw [he,(Z6u ho (dQ f hf) ht).1];exact dQ f hf) (by simp)
theorem Z8z (c:Cas) (hr:c.ruls.length<=4) (fs known:List Fct):((Z1b c fs).foldl (Z03 c) (known,[])).2.length<=fs.length * 4:=by
 have h1:=Z5t c (Z1b c fs) (known,[]);have h2:=Z4N c fs;have h3:=Nat.mul_le_mul_left fs.length hr;simp only [Xh] at h1;omega
structure Z4O (c:Cas):Prop where
 ok:Z4I c
 fl:c.fcts.length<=16
 rl:c.ruls.length<=4
 fo:∀ f∈c.fcts,Z0D f
 nd:c.fcts.Nodup
theorem Z7i {c:Cas} (h:Z4O c):∀ k,(ZD c k).2.1.length<=16 * 4 ^ k/\3 * (ZD c k).2.2.length<=16 * 4 ^ (k+1)
 | 0=>⟨by simpa [ZD] using h.fl,by simp [ZD]⟩
 | k + 1 => by
   obtain ⟨h1,h2⟩:=Z7i h k;have h3:=Z8z c h.rl (ZD c k).2.1 (ZD c k).1;rw [ZD];dsimp only;rw [Xb];have e1:4 ^ (k+1)=4 ^ k * 4:=YbH 4 k;have e2:4 ^ (k+2)=4 ^ (k+1) * 4:=YbH 4 (k+1);constructor<;>omega
theorem Z7j {c:Cas} (h:Z4O c) {k:Nat} (hk:k<=16):(ZD c k).2.1.length<=70000000000/\(ZD c k).2.2.length<=92000000000:=by
 obtain ⟨h1,h2⟩:=Z7i h k;have e1:4 ^ k<=4 ^ 16:=Nat.pow_le_pow_right (by decide) hk;have e2:4 ^ (k+1)<=4 ^ 17:=Nat.pow_le_pow_right (by decide) (by omega);have n1:4 ^ 16=4294967296:=by decide
 have n2:4 ^ 17=17179869184:=by decide
 constructor<;>omega
theorem Z2J {c:Cas} (h:Z4O c):∀ k,(∀ f∈(ZD c k).2.1,Z0D f)/\(∀ f∈(ZD c k).2.2,Z0D f)
 | 0=>⟨h.fo,by simp [ZD]⟩
 | k + 1 => by
   obtain ⟨h1,h2⟩:=Z2J h k;have h3:=Zja h.ok h1 (ZD c k).1;rw [ZD];dsimp only;exact ⟨h3,λf hf=>(Xe.1 hf).elim (h2 f) (h3 f)⟩
end Go.Proofs.YteibicnbkggiiaaGreatDoor
namespace Go.Eng
open Go
def Z7k (ops:Array Oper) (Lt:List Nat) (i q:Nat) (r1 r2:List (Nat×Nat)):List Nat->Array Bool->Bool
 | [],listed=>Region.ready .any ops listed == [i,q] && ZX ops Lt r1 (listed.setIfInBounds i true) && ZX ops Lt r2 (listed.setIfInBounds q true)
 | j :: p,listed=>(Region.ready .any ops listed).contains j && Region.free .any ops listed j && Z7k ops Lt i q r1 r2 p (listed.setIfInBounds j true)
structure WDF (P:Program) (n:Nat) (ops:Array Oper) (S:List Nat) (Lt:List Nat) (Q:Exit->Act->World->Prop) (i q:Nat) (r1 r2:List (Nat×Nat)) (p:List Nat) (e:Env) (w:World):Prop where
 h:∀ listed:Array Bool,Region.noSelect ops=true->Z7k ops Lt i q r1 r2 p listed=true->∀ a,Has n e a->Z45 P .any ops S (λj=>Lt.contains j) (λa w=>Q .normal a w) (p.length+(wt r1+1)) listed a w
section
variable {P:Program} {n:Nat} {Q:Exit->Act->World->Prop} {e:Env} {w:World} {ops:Array Oper} {S:List Nat} {Lt:List Nat}
theorem ZfI {id:Nat} {l:List Oper} (m:Nat) (S:List Nat) (Lt:List Nat) (p:List Nat) (i q:Nat) (r1 r2:List (Nat×Nat)) (bP:l.length=m) (hm:P.follows .mixedOrders=true) (hs:Region.noSelect l.toArray=true) (hl:Nat.beq (p.length+(wt r1+1)) l.length=true)
 (hB:Z7k l.toArray Lt i q r1 r2 p (Array.replicate m false)=true)
 (h:∀ w',Stp [] w w'->WDF P n l.toArray S Lt Q i q r1 r2 p e w'):WC P n (.region id l.toArray true) Q e w:=by
 subst bP;refine ⟨λa ha=>wp_region_any hm ?_⟩;have h1:=(h { w with drawn:=w.drawn+1 } (Stp.drew [] w)).h _ hs hB a ha;have h2:=JS (Q:=Q) (λa w hz=>hz) _ _ _ _ h1;rw [Xp hl] at h2;simpa using h2
theorem Z7l {i q j d:Nat} {r1 r2:List (Nat×Nat)} {p:List Nat} {op:Op} {ty:TypeId} {pos:String} {af:Array Edge} {gd:Option (Nat×Bool)} {v:Value} (hi:ops[j]?=some ⟨some d,op,ty,pos,af,gd⟩) (hg:JV ops e gd) (hp:∀ w',PR P n ⟨some d,op,ty,pos,af,gd⟩ e w' v) (aw:Nat.blt d n=true)
 (k:WDF P n ops S Lt Q i q r1 r2 p ((d,v) :: e) w):WDF P n ops S Lt Q i q r1 r2 (j :: p) e w:=by
 refine ⟨λlisted hs hB a ha=>?_⟩;simp only [Z7k,Xd] at hB;obtain ⟨⟨h1,h2⟩,h3⟩:=hB;have hk:=k.h _ hs h3 _ (ha.put (v:=v) aw);have e1:(j :: p).length+(wt r1+1)=p.length+(wt r1+1)+1:=by simp only [Xf];omega
 rw [e1];exact Z2p (oi:=⟨some d,op,ty,pos,af,gd⟩) (R:=λ_ _=>True) (λ_=>trivial) (λ_ _ _ _ _=>trivial) hi (λ_ _ _ _ _ _ _ _=>trivial) (Region.noSelect_spec hs) _ _ _ _ (Region.free_spec hi h2) (λ_=>trivial) (by simpa using h1) (.inl ⟨Jb ha hg,λw' _=>(hp w').h a ha⟩) hk
theorem Zjb {i q:Nat} {r1 r2:List (Nat×Nat)} (hw:Nat.beq (wt r1) (wt r2)=true) (h1:WD1 P n ops S Lt Q i r1 e w) (h2:WD1 P n ops S Lt Q q r2 e w):WDF P n ops S Lt Q i q r1 r2 [] e w:=by
 refine ⟨λlisted hs hB a ha=>?_⟩;simp only [Z7k,Xd,beq_iff_eq] at hB;obtain ⟨⟨hr,c1⟩,c2⟩:=hB;have e1:([]:List Nat).length+(wt r1+1)=wt r1+1:=by simp
 rw [e1];refine ⟨λh0=>absurd (hr ▸ h0) (by simp),λj hj=>?_⟩;rw [hr] at hj;have eB:j=i\/j=q:=by simpa using hj
 rcases eB with rfl|rfl
 exact h1.h _ hs c1 a ha;rw [Xp hw];exact h2.h _ hs c2 a ha
theorem Z7m {i q j d:Nat} {r1 r2:List (Nat×Nat)} {p:List Nat} {x:Operand} {ty:TypeId} {pos:String} {af:Array Edge} {gd:Option (Nat×Bool)} {v:Value} (hi:ops[j]?=some ⟨some d,.move x,ty,pos,af,gd⟩) (hg:JV ops e gd) (hx:ev e x=some v) (aw:Nat.blt d n=true)
 (k:WDF P n ops S Lt Q i q r1 r2 p ((d,v) :: e) w):WDF P n ops S Lt Q i q r1 r2 (j :: p) e w:=Z7l hi hg (λ_=>ZJ hx) aw k
theorem Zbk {i q j d:Nat} {r1 r2:List (Nat×Nat)} {p:List Nat} {x y:Operand} {t u:TypeId} {a b:Int} {ty:TypeId} {pos:String} {af:Array Edge} {gd:Option (Nat×Bool)} (hi:ops[j]?=some ⟨some d,.binOp .rem t x y u,ty,pos,af,gd⟩) (hg:JV ops e gd) (hx:ev e x=some (.I a)) (hy:ev e y=some (.I b)) (h0:0<=a) (hb:0<b) (hr:I64 a) (aw:Nat.blt d n=true)
 (k:WDF P n ops S Lt Q i q r1 r2 p ((d,.I (a % b)) :: e) w):WDF P n ops S Lt Q i q r1 r2 (j :: p) e w:=Z7l hi hg (λ_=>ZdJ hx hy h0 hb hr) aw k
theorem Zjc {i q j d:Nat} {r1 r2:List (Nat×Nat)} {p:List Nat} {x y:Operand} {t u:TypeId} {a b:Int} {ty:TypeId} {pos:String} {af:Array Edge} {gd:Option (Nat×Bool)} (hi:ops[j]?=some ⟨some d,.binOp .quo t x y u,ty,pos,af,gd⟩) (hg:JV ops e gd) (hx:ev e x=some (.I a)) (hy:ev e y=some (.I b)) (h0:0<=a) (hb:0<b) (hr:I64 a) (aw:Nat.blt d n=true)
 (k:WDF P n ops S Lt Q i q r1 r2 p ((d,.I (a / b)) :: e) w):WDF P n ops S Lt Q i q r1 r2 (j :: p) e w:=Z7l hi hg (λ_=>ZdK hx hy h0 hb hr) aw k
end
end Go.Eng
namespace Go.Proofs.YteibicnbkggiiaaGreatDoor
open Go Go.Eng Go.RowKit Go.Proofs
theorem ZfJ (z:Int) (w) (hz:I64 z):CC 60 #[.I z] w λr w'=>(∃ s∈Z0B,r=str s)/\Stp [] w w':=by
 refine cW1 10 Tryz.func60 ?_;refine W ?_;refine Z0 (Z1 (vs:=[(0,str [99,108,97,105,109]),(1,str [97,110,115,119,101,114]),(2,str [109,111,116,105,111,110]),(3,str [111,114,100,101,114]),(4,str [97,112,112,101,97,108]),(5,str [108,97,112,115,101])]) rfl (bS6 _ _ _ _ _ _)) rfl ?_;rintro v w1 hN;have hv:SlV [] w1 v Z0B:=hN.slv (by simp) rfl rfl (by decide);have hS:=Z6.stp hN;clear hN;refine W ?_;refine CM (Zh rfl rfl) (J4 z 6 _ (by decide) hz) ?_;rintro _ w2 ⟨rfl,hT⟩;have hr:=ZT (if z<0 then -(z+1) else z) 6 (by decide);generalize (if z<0 then -(z+1) else z) % 6=y at hr ⊢;obtain ⟨q,rfl⟩:∃ q:Nat,y=(q:Int):=⟨y.toNat,by omega⟩
 replace hv:=hv.up hT;have bV:q<Z0B.length:=by show q<6;omega
 refine RT ?_;exact ⟨⟨_,Xc bV,rfl⟩,hS.trans hT⟩
theorem Z0L (v:Value) (l:List Int) (k:Nat) (w) (hs:SlV [] w v l) :
 CC 18 #[v,.I (k:Int)] w λr w'=>SlV [] w r (l.drop k)/\w'=w:=by
 have aW:=hs.max;refine cW2 11 Tryz.func18 ?_;refine W ?_;have hm:(if (l.length:Int)<(k:Int) then (l.length:Int) else (k:Int))=((min k l.length:Nat):Int):=by split<;>omega
 refine Za (Z2r (l:=min k l.length) rfl hs rfl (by omega) (by omega)) rfl ?_;refine W ?_;refine WR ?_;have h:=hs.slc (l:=min k l.length) (r:=l.length) (by omega) (Xq _);rw [Xs] at h;have e:l.drop (min k l.length)=l.drop k:=by
  by_cases hk:k<=l.length;rw [Yap hk];rw [YbT (by omega),Ybi,Ya8 (by omega)]
 rw [e] at h;exact .mk ⟨h,rfl⟩
structure Z60 (f:Fct):Prop where
 kind:f.kind∈Z0B
 day:739616<=f.day/\f.day<=739655
 by_:0<=f.by_/\f.by_<=2
 to_:0<=f.to_/\f.to_<=2
 amt:-20<=f.amt/\f.amt<=179
theorem Z60.ok {f:Fct} (h:Z60 f):Z0D f:=⟨by have:=h.day;omega,by have:=h.by_;omega,by have:=h.to_;omega,by have:=h.amt;omega⟩
theorem Zmn (f:Fct) (w):(Instr.build 24 #[(0,.I f.entry),(1,str f.kind),(2,.I f.day),(3,.I f.by_),(4,.I f.to_),(5,.I f.amt)]).run Tryz.prog w=.ok (aG f) w:=by kernel_rfl
theorem ZfK (en z:Int) (w) (hz:I64 z) :
 CC 21 #[.I en,.I z] w λr w'=>∃ f:Fct,r=aG f/\f.entry=en/\Z60 f/\Stp [] w w':=by
 refine cW2 26 Tryz.func21 ?_;refine W ?_;refine Z0 Z4 rfl ?_;rintro _ w1 ⟨b4,rfl,bE,k4,hS⟩;refine W ?_;refine CM (Zh rfl rfl) (J4 z 100000000 _ (by decide) hz) ?_;rintro _ w2 ⟨rfl,hT⟩;have hr:=ZT (if z<0 then -(z+1) else z) 100000000 (by decide);generalize (if z<0 then -(z+1) else z) % 100000000=y at hr ⊢;replace k4:=k4.up hT;replace hS:=hS.trans hT;clear hT;refine W ?_;refine CM (ZO rfl) (ZfJ y _ (by unfold I64;omega)) ?_;rintro _ w3 ⟨⟨s,hs,rfl⟩,hT⟩;replace k4:=k4.up hT;replace hS:=hS.trans hT;clear hT;refine W ?_;have hf:Z60 (⟨en,s,739616+y / 6 % 40,y / 240 % 3,y / 720 % 3,y / 2160 % 200 - 20⟩:Fct):=by
  refine ⟨hs,?_,?_,?_,?_⟩<;>dsimp only<;>omega
 refine Zc rfl (Zmn (⟨en,s,739616+y / 6 % 40,y / 240 % 3,y / 720 % 3,y / 2160 % 200 - 20⟩:Fct)) rfl ?_;generalize hg:(⟨en,s,739616+y / 6 % 40,y / 240 % 3,y / 720 % 3,y / 2160 % 200 - 20⟩:Fct)=f at hf;have he:f.entry=en:=by rw [<- hg]
 refine SA (us:=Z2.enc f) k4 ?_;rintro _ w4 ⟨hT,k4⟩;replace hS:=hS.ow hT;refine W ?_;refine JH rfl rfl rfl k4 rfl ?_;exact .mk ⟨f,rfl,he,hf,hS⟩
structure Zbl (x:Crr):Prop where
 ext:0<=x.extra/\x.extra<=1000
 tol:0<=x.tol/\x.tol<=1000
theorem Z6v (a b c d:Int) (w):(Instr.buildSlice 22 4 #[(0,.I a),(1,.I b),(2,.I c),(3,.I d)]).run Tryz.prog w=.ok (.slice (some ⟨w.heap.size,0,none⟩) 4 4) (w.alloc (.cells #[.I a,.I b,.I c,.I d] 3)):=by kernel_rfl
theorem Z8A (x:Crr) (w):(Instr.build 88 #[(0,.I x.extra),(1,.I x.tol)]).run Tryz.prog w=.ok (aG x) w:=by kernel_rfl
theorem Z8B (x:Crr) (w):(Instr.buildSlice 38 1 #[(0,aG x)]).run Tryz.prog w=.ok (.slice (some ⟨w.heap.size,0,none⟩) 1 1) (w.alloc (.cells (Z2.enc x).toArray 88)):=by kernel_rfl
theorem Z9I (lv:Value) (l:List Int) (w) (hs:SlV [] w lv l) (hl:∀ a∈l,I64 a) :
 CC 19 #[lv] w λr w'=>∃ cs:List Crr,1<=cs.length/\cs.length<=4/\(∀ x∈cs,Zbl x)/\ZE 88 w w' r cs:=by
 refine cW1 32 Tryz.func19 ?_;refine W ?_;refine LP (σ:=Nat×Value×List Crr) (λq=>[(0,lv),(3,q.2.1),(4,.I (q.1:Int))]) (λq W=>q.1<=4/\q.2.2.length=q.1/\(∀ x∈q.2.2,Zbl x)/\Row [] W w.heap.size 88 q.2.1 q.2.2/\Stp [] w W) (λq=>4 - q.1) (0,.N,[]) ⟨by decide,rfl,by simp,Row.nil,Stp.refl _ _⟩ ?_;rintro ⟨j,ov,cs⟩ w1 ⟨hj,ai,aK,ac,hS⟩;dsimp only at hj ai aK ac ⊢;have aN:=λb hb=>ac.ob_le b hb;have bU:=hs.up hS;refine W ?_;refine CM (ZL rfl rfl rfl) (ZN [] _ l 0 4 _ (by decide) (by unfold I64;omega) bU hl) ?_;rintro _ w2 ⟨q,rfl,hq,hT⟩;replace ac:=ac.up hT;replace bU:=bU.up hT;replace hS:=hS.trans hT;clear hT;by_cases hlt:(j:Int)<=(q:Int);refine QO ?_;refine CM (ZL rfl rfl rfl) (ZN [] _ l (1+(j:Int)) 1000 _ (by decide) (by unfold I64;omega) bU hl) ?_;rintro _ w3 ⟨x,rfl,hx,hT⟩;replace ac:=ac.up hT;replace bU:=bU.up hT;replace hS:=hS.trans hT;clear hT;refine W ?_;refine ZfI 16 (ob ov) [] [0,2,3,7,8,9] 1 6 [(4,0),(5,1),(6,2),(10,0),(11,1),(12,0),(13,2),(14,2),(15,0)] [(10,0),(11,1),(1,2),(4,0),(5,1),(12,0),(13,2),(14,2),(15,0)] rfl mixed (by kernel_rfl) (by kernel_rfl) (by kernel_rfl) (λw1 ae=>?_);replace ac:=ac.up ae;replace hS:=hS.trans ae;clear ae;have za:=hS.size;refine Z7m rfl trivial rfl rfl ?_;refine Z7m rfl trivial rfl rfl ?_;refine Zbk rfl trivial rfl rfl (by omega) (by decide) (by unfold I64;omega) rfl ?_;refine Z7m rfl trivial rfl rfl ?_;refine Zjc rfl trivial rfl rfl (by omega) (by decide) (by unfold I64;omega) rfl ?_;refine Zbk rfl trivial rfl rfl (by omega) (by decide) (by unfold I64;omega) rfl ?_;obtain ⟨k1,bp,hq1⟩:∃ k:Nat,(x:Int) % 4=(k:Int)/\k<([0,3,5,2]:List Int).length:=⟨x % 4,by omega,YbW _ (by decide)⟩
 obtain ⟨k2,cB,hq2⟩:∃ k:Nat,(x:Int) / 4 % 4=(k:Int)/\k<([0,0,1,2]:List Int).length:=⟨x / 4 % 4,by omega,YbW _ (by decide)⟩
 rw [bp,cB];apply Zjb rfl;refine Z0O rfl trivial (Z1 (vs:=[(0,.I 0),(1,.I 3),(2,.I 5),(3,.I 2)]) rfl (Z6v _ _ _ _)) (λ_ _ h=>(Z6.stp h).mn) rfl ?_;rintro va wa hN;have kj:SlV (ob ov) wa va ([0,3,5,2]:List Int):=hN.slv (λb hb=>(ac.ob_le b hb).2) rfl rfl (by simp [maxLen]);have hT:=Z6.stp hN;clear hN;replace ac:=ac.up hT;replace hS:=hS.trans hT;clear hT;refine QD ?_;refine Z9 rfl trivial (Z1 (vs:=[(0,.I 0),(1,.I 0),(2,.I 1),(3,.I 2)]) rfl (Z6v _ _ _ _)) (λ_ _ h=>(Z6.stp h).mn) rfl ?_;rintro vb wb hN;have ij:SlV (ob ov) wb vb ([0,0,1,2]:List Int):=hN.slv (λb hb=>(ac.ob_le b hb).2) rfl rfl (by simp [maxLen]);have hT:=Z6.stp hN;clear hN;replace ac:=ac.up hT;replace kj:=kj.up hT;replace hS:=hS.trans hT;clear hT;refine QD ?_;have hy:Zbl (⟨([0,3,5,2]:List Int)[k1]'hq1,([0,0,1,2]:List Int)[k2]'hq2⟩:Crr):=by
  constructor;have:=Xc hq1;dsimp only;generalize ([0,3,5,2]:List Int)[k1]'hq1=A at this ⊢;simp only [Xa,Xo,or_false] at this;omega;have:=Xc hq2;dsimp only;generalize ([0,0,1,2]:List Int)[k2]'hq2=A at this ⊢;simp only [Xa,Xo,or_false] at this;omega
 refine Jn rfl trivial (λw'=>Z0i rfl (λw=>Z8A (⟨([0,3,5,2]:List Int)[k1]'hq1,([0,0,1,2]:List Int)[k2]'hq2⟩:Crr) w)) rfl ?_;generalize (⟨([0,3,5,2]:List Int)[k1]'hq1,([0,0,1,2]:List Int)[k2]'hq2⟩:Crr)=y at hy ⊢;refine Z9 rfl trivial (Z1 rfl (Z8B y)) (λ_ _ h=>(Z6.stp h).mn) rfl ?_;rintro vs wd hN;have ce:SlV (ob ov++[]) wd vs [y]:=hN.slv (λb hb=>(ac.ob_le b (by simpa using hb)).2) rfl (by simp) (by simp [maxLen]);have hT:=Z6.stp hN;clear hN;replace ac:=ac.up hT;replace hS:=hS.trans hT;clear hT;have zd:=hS.size;refine Z9 rfl trivial (ZA (α:=Crr) (X:=[]) (base:=w.heap.size) rfl (by decide) rfl rfl ac ce (Xk (Xr _ (show cs.length+[y].length<=10 by simp;omega)) (by decide)) (by simp [maxLen];omega) (by omega)) (λ_ _ h=>h.2.1) rfl ?_;rintro ov' we ⟨cX,cH,dB⟩;refine QD ?_;refine W ?_;exact QL (j+1,ov',cs++[y]) ⟨by dsimp only;omega,by simp [ai],λz hz=>by
  rcases Xe.1 hz with h|h
  exact aK z h;simp only [Xn] at h;subst h;exact hy,cX,hS.own cH (λb hb=>.inr (ac.ob_le b hb).1)⟩ (by dsimp only;omega)
 refine Z0O rfl trivial (Z1 (vs:=[(0,.I 0),(1,.I 0),(2,.I 1),(3,.I 2)]) rfl (Z6v _ _ _ _)) (λ_ _ h=>(Z6.stp h).mn) rfl ?_;rintro vb wb hN;have ij:SlV (ob ov) wb vb ([0,0,1,2]:List Int):=hN.slv (λb hb=>(ac.ob_le b hb).2) rfl rfl (by simp [maxLen]);have hT:=Z6.stp hN;clear hN;replace ac:=ac.up hT;replace hS:=hS.trans hT;clear hT;refine QD ?_;refine Z9 rfl trivial (Z1 (vs:=[(0,.I 0),(1,.I 3),(2,.I 5),(3,.I 2)]) rfl (Z6v _ _ _ _)) (λ_ _ h=>(Z6.stp h).mn) rfl ?_;rintro va wa hN;have kj:SlV (ob ov) wa va ([0,3,5,2]:List Int):=hN.slv (λb hb=>(ac.ob_le b hb).2) rfl rfl (by simp [maxLen]);have hT:=Z6.stp hN;clear hN;replace ac:=ac.up hT;replace ij:=ij.up hT;replace hS:=hS.trans hT;clear hT;refine QD ?_;have hy:Zbl (⟨([0,3,5,2]:List Int)[k1]'hq1,([0,0,1,2]:List Int)[k2]'hq2⟩:Crr):=by
  constructor;have:=Xc hq1;dsimp only;generalize ([0,3,5,2]:List Int)[k1]'hq1=A at this ⊢;simp only [Xa,Xo,or_false] at this;omega;have:=Xc hq2;dsimp only;generalize ([0,0,1,2]:List Int)[k2]'hq2=A at this ⊢;simp only [Xa,Xo,or_false] at this;omega
 refine Jn rfl trivial (λw'=>Z0i rfl (λw=>Z8A (⟨([0,3,5,2]:List Int)[k1]'hq1,([0,0,1,2]:List Int)[k2]'hq2⟩:Crr) w)) rfl ?_;generalize (⟨([0,3,5,2]:List Int)[k1]'hq1,([0,0,1,2]:List Int)[k2]'hq2⟩:Crr)=y at hy ⊢;refine Z9 rfl trivial (Z1 rfl (Z8B y)) (λ_ _ h=>(Z6.stp h).mn) rfl ?_;rintro vs wd hN;have ce:SlV (ob ov++[]) wd vs [y]:=hN.slv (λb hb=>(ac.ob_le b (by simpa using hb)).2) rfl (by simp) (by simp [maxLen]);have hT:=Z6.stp hN;clear hN;replace ac:=ac.up hT;replace hS:=hS.trans hT;clear hT;have zd:=hS.size;refine Z9 rfl trivial (ZA (α:=Crr) (X:=[]) (base:=w.heap.size) rfl (by decide) rfl rfl ac ce (Xk (Xr _ (show cs.length+[y].length<=10 by simp;omega)) (by decide)) (by simp [maxLen];omega) (by omega)) (λ_ _ h=>h.2.1) rfl ?_;rintro ov' we ⟨cX,cH,dB⟩;refine QD ?_;refine W ?_;exact QL (j+1,ov',cs++[y]) ⟨by dsimp only;omega,by simp [ai],λz hz=>by
  rcases Xe.1 hz with h|h
  exact aK z h;simp only [Xn] at h;subst h;exact hy,cX,hS.own cH (λb hb=>.inr (ac.ob_le b hb).1)⟩ (by dsimp only;omega)
 . refine QO ?_
   all_goals
    refine RU ?_;exact ⟨cs,by omega,by omega,aK,ac,hS⟩
structure Zeo (x:Spn):Prop where
 lo:0<=x.1
 le:x.1<=x.2
 hi:x.2<=3652058
theorem Zbm (lv:Value) (l:List Int) (w) (hs:SlV [] w lv l) (hl:∀ a∈l,I64 a) (h4:l.length<=4) :
 CC 24 #[lv,.I 739616] w λr w'=>∃ xs:List Spn,xs.length<=2/\(∀ x∈xs,Zeo x)/\ZE 29 w w' r xs:=by
 refine cW2 44 Tryz.func24 ?_;refine W ?_;refine LP (σ:=Nat×Value×List Spn) (λq=>[(0,lv),(1,.I 739616),(5,q.2.1),(6,.I ((2 * q.1:Nat):Int))]) (λq W=>q.1<=2/\q.2.2.length=q.1/\(∀ x∈q.2.2,Zeo x)/\Row [] W w.heap.size 29 q.2.1 q.2.2/\Stp [] w W) (λq=>4 - q.1) (0,.N,[]) ⟨by decide,rfl,by simp,Row.nil,Stp.refl _ _⟩ ?_;rintro ⟨j,ov,xs⟩ w1 ⟨hj,ai,aK,ac,hS⟩;dsimp only at hj ai aK ac ⊢;have aN:=λb hb=>ac.ob_le b hb;have bU:=hs.up hS;by_cases hlt:2 * j+1<l.length;have hlt0:2 * j<l.length:=by omega
 refine QO ?_;have kC:=hl _ (Xc hlt0);have pd:=hl _ (Xc hlt);refine CM (Zh rfl rfl) (J4 (l[2 * j]'hlt0) 80 _ (by decide) kC) ?_;rintro _ w2 ⟨rfl,hT⟩;have hr:=ZT (if l[2 * j]<0 then -(l[2 * j]+1) else l[2 * j]) 80 (by decide);generalize (if l[2 * j]<0 then -(l[2 * j]+1) else l[2 * j]) % 80=y at hr ⊢;replace ac:=ac.up hT;replace bU:=bU.up hT;replace hS:=hS.trans hT;clear hT;refine QO ?_;have xl:2 * j+1<l.length:=hlt;refine CM (Zh rfl rfl) (J4 (l[2 * j+1]'hlt) 15 _ (by decide) pd) ?_;rintro _ w3 ⟨rfl,hT⟩;have cw:=ZT (if l[2 * j+1]<0 then -(l[2 * j+1]+1) else l[2 * j+1]) 15 (by decide);generalize (if l[2 * j+1]<0 then -(l[2 * j+1]+1) else l[2 * j+1]) % 15=z at cw ⊢;replace ac:=ac.up hT;replace bU:=bU.up hT;replace hS:=hS.trans hT;clear hT;refine QO ?_;obtain ⟨f0,pT⟩:∃ f0:Int,max 0 (min 3652058 (739616 - 20+y))=f0:=⟨_,rfl⟩
 obtain ⟨f1,uW⟩:∃ f1:Int,min 3652058 (f0+z)=f1:=⟨_,rfl⟩
 rw [pT,uW];have ar:Zeo (f0,f1):=by constructor<;>dsimp only<;>omega
 refine Zc (vs:=[(0,.I f0),(1,.I f1)]) rfl (Zbg _ _) rfl ?_;have zS:=hS.size;refine APG ((f0,f1):Spn) ac (by simp) (by omega) rfl (Xk (Xr _ (show xs.length+1<=10 by omega)) (by decide)) (by simp [maxLen];omega) (λv1 ov' w4 cX cH dB=>?_);refine QO ?_;exact ZF (j+1,ov',xs++[(f0,f1)]) ⟨rfl,rfl,rfl,rfl,trivial⟩ ⟨by dsimp only;omega,by simp [ai],λz hz=>by
  rcases Xe.1 hz with h|h
  exact aK z h;simp only [Xn] at h;subst h;exact ar,cX,hS.own cH (λb hb=>.inr (aN b hb).1)⟩ (by dsimp only;omega)
 . refine QO ?_
   all_goals
    refine RU ?_;exact ⟨xs,by omega,aK,ac,hS⟩
structure Zep (n:Nat) (r:Rtn):Prop where
 crr:0<=r.crr/\r.crr<n
 lo:0<=r.lo/\r.lo<=3652058
 hi:0<=r.hi/\r.hi<=3652058
 kind:(r.kind=1/\r.lo<=r.hi)\/(r.kind=2/\r.lo=0)\/(r.kind=3/\r.lo=0/\r.hi=0)
theorem Zeq (w):(Instr.buildSlice 22 8 #[(0,.I 1),(1,.I 1),(2,.I 1),(3,.I 1),(4,.I 2),(5,.I 2),(6,.I 3),(7,.I 1)]).run Tryz.prog w=.ok (.slice (some ⟨w.heap.size,0,none⟩) 8 8) (w.alloc (.cells #[.I 1,.I 1,.I 1,.I 1,.I 2,.I 2,.I 3,.I 1] 3)):=by kernel_rfl
theorem Zes (a k:Int) (w):(Instr.build 138 #[(0,.I a),(1,.I k)]).run Tryz.prog w=.ok (aG (⟨a,k,0,0⟩:Rtn)) w:=by kernel_rfl
def K8:List Int:=[1,1,1,1,2,2,3,1]
theorem Zro {k:Nat} (h:k<K8.length):K8[k]=1\/K8[k]=2\/K8[k]=3:=by
 have:=Xc h;generalize K8[k]=z at this ⊢;simp only [K8,Xa,Xo,or_false] at this;omega
theorem Zbn (lv cv:Value) (l:List Int) (cs:List Crr) (day:Int) (w) (hs:SlV [] w lv l) (hl:∀ a∈l,I64 a) (h3:l.length<=3) (bH:SlV [] w cv cs) (hc:1<=cs.length/\cs.length<=4) (hd:739616<=day/\day<=739655) :
 CC 25 #[lv,cv,.I day] w λr w'=>∃ xs:List Rtn,xs.length<=3/\(∀ x∈xs,Zep cs.length x)/\ZE 138 w w' r xs:=by
 refine cW3 69 Tryz.func25 ?_;refine W ?_;refine LP (σ:=Nat×Value×List Rtn) (λq=>[(0,lv),(1,cv),(2,.I day),(7,q.2.1),(8,.I (q.1:Int))]) (λq W=>q.1<=3/\q.2.2.length=q.1/\(∀ x∈q.2.2,Zep cs.length x)/\Row [] W w.heap.size 138 q.2.1 q.2.2/\Stp [] w W) (λq=>4 - q.1) (0,.N,[]) ⟨by decide,rfl,by simp,Row.nil,Stp.refl _ _⟩ ?_;rintro ⟨j,ov,xs⟩ w1 ⟨hj,ai,aK,ac,hS⟩;dsimp only at hj ai aK ac ⊢;have aN:=λb hb=>ac.ob_le b hb;have bU:=hs.up hS;have ca:=bH.up hS;by_cases hlt:j<l.length;refine QO ?_;have kC:=hl _ (Xc hlt);refine CM (Zh rfl rfl) (J4 (l[j]'hlt) 1000000 _ (by decide) kC) ?_;rintro _ w2 ⟨rfl,hT⟩;have hr:=ZT (if l[j]<0 then -(l[j]+1) else l[j]) 1000000 (by decide);generalize (if l[j]<0 then -(l[j]+1) else l[j]) % 1000000=y at hr ⊢;replace ac:=ac.up hT;replace ca:=ca.up hT;replace hS:=hS.trans hT;clear hT bU;refine W ?_;have zS:=hS.size
 refine JG (σ:=Nat×Int×Int) (λq=>[(0,lv),(1,cv),(2,.I day),(7,ov),(8,.I (j:Int)),(9,.I y),(10,.pointer (some ⟨q.1,0,none⟩))])
  (λq w'=>w2.heap.size<=q.1/\Stp [] w2 w'/\(0<=q.2.1/\q.2.1<cs.length)/\(q.2.2=1\/q.2.2=2\/q.2.2=3)/\Blk w' q.1 138 (Z2.enc (⟨q.2.1,q.2.2,0,0⟩:Rtn))) ?_ ?_
 refine ZDr 14 [] [13] [(0,0),(1,0),(2,0),(3,0),(4,0),(6,0),(7,0),(8,0),(5,15),(9,0),(10,1),(11,0),(12,2),(13,2)] (λw1 ae=>?_);have hB:=ae;have kl:=ca.up ae;clear ae;obtain ⟨k1,bp,hq1⟩:∃ k:Nat,y / 4 % 8=(k:Int)/\k<K8.length:=⟨(y / 4 % 8).toNat,by omega,by simp only [K8,Xf,Xh];omega⟩
 obtain ⟨a0,nI⟩:∃ a0:Int,y % max 1 (cs.length:Int)=a0:=⟨_,rfl⟩
 have lO:0<=a0/\a0<cs.length:=by
  have h1:=Ybm y (show max 1 (cs.length:Int)≠0 by omega);have h2:=Ya6 y (show 0<max 1 (cs.length:Int) by omega);omega
 have hK:=Zro hq1;refine QD ?_;rw [bp,nI];apply Z91 rfl;refine Z0O rfl trivial (Z1 rfl Zeq) (λ_ _ h=>Z6.stp h) rfl ?_;rintro va wa hN;have kj:SlV [] wa va K8:=hN.slv (by simp) rfl rfl (by simp [maxLen,K8]);have hT:=Z6.stp hN;clear hN;replace hB:=hB.trans hT;clear hT;refine QD ?_;refine Jn rfl trivial (λw'=>Z0i rfl (λw=>Zes a0 (K8[k1]'hq1) w)) rfl ?_;focus repeat'(first|refine D1 ?_|omega|refine Zb rfl rfl rfl rfl (λhg=>?_) (λhg=>?_)|(refine Z7 rfl rfl rfl rfl (λhg=>?_) (λhg=>?_)<;>refine D1 ?_)|fail)
 have zB:=hB.size;refine Z9 rfl trivial Z4 (λ_ _ h=>h.choose_spec.2.2.2) rfl ?_;rintro _ wb ⟨b,rfl,hb,e3,hT⟩;have gb:w2.heap.size<=b:=by omega
 replace hB:=hB.trans hT;replace kj:=kj.up hT;clear hT;focus repeat'(first|refine D1 ?_|omega|refine Zb rfl rfl rfl rfl (λhg=>?_) (λhg=>?_)|(refine Z7 rfl rfl rfl rfl (λhg=>?_) (λhg=>?_)<;>refine D1 ?_)|fail)
 refine Je rfl trivial (Zy (us:=Z2.enc (⟨a0,K8[k1]'hq1,0,0⟩:Rtn)) rfl rfl rfl rfl (Z2.one _) e3 rfl) rfl ?_;rintro _ wc ⟨ax,e3⟩;refine QD ?_;exact QT (b,a0,K8[k1]'hq1) ⟨gb,hB.ow ax,lO,hK,e3⟩;have zB:=hB.size;refine Z0O rfl trivial Z4 (λ_ _ h=>h.choose_spec.2.2.2) rfl ?_;rintro _ wb ⟨b,rfl,hb,e3,hT⟩;have gb:w2.heap.size<=b:=by omega
 replace hB:=hB.trans hT;clear hT;focus repeat'(first|refine D1 ?_|omega|refine Zb rfl rfl rfl rfl (λhg=>?_) (λhg=>?_)|(refine Z7 rfl rfl rfl rfl (λhg=>?_) (λhg=>?_)<;>refine D1 ?_)|fail)
 refine Z9 rfl trivial (Z1 rfl Zeq) (λ_ _ h=>Z6.stp h) rfl ?_;rintro va wa hN;have kj:SlV [] wa va K8:=hN.slv (by simp) rfl rfl (by simp [maxLen,K8]);have hT:=Z6.stp hN;clear hN;replace hB:=hB.trans hT;replace e3:=e3.up hT;clear hT;refine QD ?_;refine Jn rfl trivial (λw'=>Z0i rfl (λw=>Zes a0 (K8[k1]'hq1) w)) rfl ?_;focus repeat'(first|refine D1 ?_|omega|refine Zb rfl rfl rfl rfl (λhg=>?_) (λhg=>?_)|(refine Z7 rfl rfl rfl rfl (λhg=>?_) (λhg=>?_)<;>refine D1 ?_)|fail)
 refine Je rfl trivial (Zy (us:=Z2.enc (⟨a0,K8[k1]'hq1,0,0⟩:Rtn)) rfl rfl rfl rfl (Z2.one _) e3 rfl) rfl ?_;rintro _ wc ⟨ax,e3⟩;refine QD ?_;exact QT (b,a0,K8[k1]'hq1) ⟨gb,hB.ow ax,lO,hK,e3⟩;rintro ⟨b,a,k⟩ w3 ⟨hb,hT,ha,hk,e3⟩;dsimp only at hb ha hk e3 ⊢;rcases hk with rfl|rfl|rfl
 refine QO ?_;have ko:0<=(max 0 (min 3652058 (day - 3+y / 32 % 40)))/\(max 0 (min 3652058 (day - 3+y / 32 % 40)))<=3652058:=by omega
 generalize (max 0 (min 3652058 (day - 3+y / 32 % 40)))=f0 at ko ⊢;refine Z8 (Zf (u:=.I f0) rfl rfl rfl rfl e3 (show (2:Nat)<4 by decide)) ?_;rintro _ w4 ⟨ax,e3⟩;replace e3:Blk w4 b 138 (Z2.enc (⟨a,1,f0,0⟩:Rtn)):=e3;replace hT:=hT.ow ax;clear ax;refine QO ?_;have pU:f0<=min 3652058 (f0+y / 1280 % 5)/\min 3652058 (f0+y / 1280 % 5)<=3652058:=by omega
 generalize min 3652058 (f0+y / 1280 % 5)=f1 at pU ⊢;refine Z8 (Zf (u:=.I f1) rfl rfl rfl rfl e3 (show (3:Nat)<4 by decide)) ?_;rintro _ w5 ⟨ax,e3⟩;replace e3:Blk w5 b 138 (Z2.enc (⟨a,1,f0,f1⟩:Rtn)):=e3;replace hT:=hT.ow ax;clear ax;have z4:=hT.size;have cT:=ac.up hT;have aF:=hS.trans hT;have zS4:=aF.size;refine QO ?_;refine APG (⟨a,1,f0,f1⟩:Rtn) cT (by simp) (by omega) rfl (Xk (Xr _ (show xs.length+1<=10 by omega)) (by decide)) (by simp [maxLen];omega) (λv1 ov' w4 cX cH dB=>?_);refine QO ?_;exact QL (j+1,ov',xs++[⟨a,1,f0,f1⟩]) ⟨by dsimp only;omega,by simp [ai],λz hz=>by
  rcases Xe.1 hz with h|h
  exact aK z h;simp only [Xn] at h;subst h;constructor<;>dsimp only<;>omega,cX,aF.own cH (λb hb=>.inr (cT.ob_le b hb).1)⟩ (by dsimp only;omega)
 refine QO ?_;have ko:0<=(max 0 (min 3652058 (day - 3+y / 32 % 40)))/\(max 0 (min 3652058 (day - 3+y / 32 % 40)))<=3652058:=by omega
 generalize (max 0 (min 3652058 (day - 3+y / 32 % 40)))=f0 at ko ⊢;refine Z8 (Zf (u:=.I f0) rfl rfl rfl rfl e3 (show (3:Nat)<4 by decide)) ?_;rintro _ w4 ⟨ax,e3⟩;replace e3:Blk w4 b 138 (Z2.enc (⟨a,2,0,f0⟩:Rtn)):=e3;replace hT:=hT.ow ax;clear ax;have z4:=hT.size;have cT:=ac.up hT;have aF:=hS.trans hT;have zS4:=aF.size;refine QO ?_;refine APG (⟨a,2,0,f0⟩:Rtn) cT (by simp) (by omega) rfl (Xk (Xr _ (show xs.length+1<=10 by omega)) (by decide)) (by simp [maxLen];omega) (λv1 ov' w4 cX cH dB=>?_);refine QO ?_;exact QL (j+1,ov',xs++[⟨a,2,0,f0⟩]) ⟨by dsimp only;omega,by simp [ai],λz hz=>by
  rcases Xe.1 hz with h|h
  exact aK z h;simp only [Xn] at h;subst h;constructor<;>dsimp only<;>omega,cX,aF.own cH (λb hb=>.inr (cT.ob_le b hb).1)⟩ (by dsimp only;omega)
 have z4:=hT.size;have cT:=ac.up hT;have aF:=hS.trans hT;have zS4:=aF.size;refine QO ?_;refine APG (⟨a,3,0,0⟩:Rtn) cT (by simp) (by omega) rfl (Xk (Xr _ (show xs.length+1<=10 by omega)) (by decide)) (by simp [maxLen];omega) (λv1 ov' w4 cX cH dB=>?_);refine QO ?_;exact QL (j+1,ov',xs++[⟨a,3,0,0⟩]) ⟨by dsimp only;omega,by simp [ai],λz hz=>by
  rcases Xe.1 hz with h|h
  exact aK z h;simp only [Xn] at h;subst h;constructor<;>dsimp only<;>omega,cX,aF.own cH (λb hb=>.inr (cT.ob_le b hb).1)⟩ (by dsimp only;omega)
 . refine QO ?_
   all_goals
    refine RU ?_;exact ⟨xs,by omega,aK,ac,hS⟩
theorem Z1n (z:Int) (m:Int) (w) (hm:0<m) (hz:I64 z):CC 43 #[.I z,.I m] w λr w'=>r=.I ((if z<0 then -(z+1) else z) % m)/\Stp [] w w':=by
 unfold I64 at hz;refine cW2 13 Tryz.func43 ?_;by_cases h:z<0;refine RT ?_;exact ⟨by rw [if_pos h],Stp.refl _ _⟩;refine RT ?_;exact ⟨by rw [if_neg h],Stp.refl _ _⟩
theorem Z09 (X:List Nat) (v:Value) (l:List Int) (i m:Int) (w) (hm:0<m) (hi:I64 i) (hs:SlV X w v l) (hl:∀ a∈l,I64 a):CC 44 #[v,.I i,.I m] w λr w'=>∃ q:Nat,r=.I (q:Int)/\(q:Int)<m/\Stp [] w w':=by
 unfold I64 at hi;have aW:=hs.max;refine cW3 21 Tryz.func44 ?_;refine W ?_;by_cases iy:0<=i/\i<l.length;obtain ⟨h0,h1⟩:=iy;obtain ⟨k,rfl⟩:∃ k:Nat,i=(k:Int):=⟨i.toNat,by omega⟩
 have hk:k<l.length:=by omega
 refine QO ?_;refine CL (Z1n _ m _ hm (hl _ (Xc hk))) ?_;rintro _ w2 ⟨rfl,hS⟩;refine W ?_;refine WR ?_;have:=ZT (if l[k]<0 then -(l[k]+1) else l[k]) m hm;exact .mk ⟨_,by rw [X7 this.1],by rw [X7 this.1];exact this.2,hS⟩
 . repeat'(first|refine W1 ?_|omega|refine VG ?_ ?_<;>intro hg|refine VC ?_ ?_<;>intro hc)
   all_goals first
    | (refine RU ?_
       exact ⟨0,rfl,by simpa using hm,Stp.refl _ _⟩)
theorem Zmo (a:Int) (w):(Instr.build 45 #[(0,.I a)]).run Tryz.prog w=.ok (.agg #[.I a,.N]) w:=by kernel_rfl
theorem Zmp (a b:Int) (w):(Instr.build 127 #[(0,.I a),(1,.I b)]).run Tryz.prog w=.ok (agg ((a,b):Spn)) w:=by kernel_rfl
theorem Zjd (d:Spn) (w):(Instr.buildSlice 43 1 #[(0,agg d)]).run Tryz.prog w=.ok (.slice (some ⟨w.heap.size,0,none⟩) 1 1) (w.alloc (.cells (Z2.enc d).toArray 127)):=by kernel_rfl
def Z7Y (x:Spn):Prop:=0<=x.1/\x.1<=2000000
def ShL (xs:List Spn):Prop:=(∀ x∈xs,-900<=x.2/\x.2<=900)/\xs.Pairwise (λa b=>a.1+2880<=b.1)
structure Z41 (z:Int) (sh:List Spn):Prop where
 off:-900<=z/\z<=900
 len:sh.length<=100
 at_:∀ s∈sh,(0<=s.1/\s.1<=8589934592)/\-900<=s.2/\s.2<=900
 ord:∀ i (h:i+1<sh.length),sh[i].1+2880<=sh[i+1].1
def Zd0 (X:List Nat) (w:World) (zo zs hr:Value):Prop:=∃ z sh h,zo=.I z/\hr=.I h/\SlV X w zs sh/\Z41 z sh/\0<=h/\h<1440
theorem Zd0.ext {X S X':List Nat} {w w':World} {zo zs hr:Value} (h:Zd0 X w zo zs hr) (hS:Stp S w w') (h1:∀ b∈S,b∈X) (h2:∀ b∈X',b∈X\/w.heap.size<=b):Zd0 X' w' zo zs hr:=by
 obtain ⟨z,sh,g,e1,e2,hs,ho⟩:=h;exact ⟨z,sh,g,e1,e2,hs.ext hS h1 h2,ho⟩
theorem Z7n (v:Value) (l:List Int) (w) (hs:SlV [] w v l) (hl:∀ a∈l,I64 a) :
 CC 59 #[v] w λr w'=>∃ (o:Int) (zs:Value) (xs:List Spn),r=.agg #[.I o,zs]/\(∀ x∈xs,Z7Y x)/\(xs.length<=100/\(-900<=o/\o<=900)/\ShL xs)/\ZE 127 w w' zs xs:=by
 have aW:=hs.max;refine cW1 45 Tryz.func59 ?_;refine W ?_;refine Z0 Z4 rfl ?_;rintro _ w1 ⟨b2,rfl,cJ,k2,hS⟩;refine W ?_;refine CM (ZL rfl rfl rfl) (Z09 [] _ l 0 1801 _ (by decide) (by unfold I64;omega) (hs.up hS) hl) ?_;rintro _ w2 ⟨q0,rfl,nI,ak⟩;replace k2:=k2.up ak;replace hS:=hS.trans ak;clear ak;refine W ?_;refine Zc (vs:=[(0,.I ((q0:Int) - 900))]) rfl (Zmo _) rfl ?_;have k2lt:=k2.lt;refine Z0 Z4 rfl ?_;rintro _ w3 ⟨b3,rfl,eD,k3,az⟩;replace k2:=k2.up az;replace hS:=hS.trans az;clear az;refine W ?_;have n23:b2≠b3:=by omega
 refine SB (us:=[.I ((q0:Int) - 900),.N]) (by simp [Value.oneCell']) k3 ?_;rintro _ w4 ⟨aF,k3⟩;replace k2:=k2.ext aF (by simpa using n23);replace hS:=hS.ow aF;clear aF;have br:=hS.size;have k3lt:=k3.lt;have k2lt':=k2.lt;refine W ?_;refine Z0b (σ:=Value×List Spn) (λq=>[(2,pQ b2),(3,pQ b3)]) (λq w'=>Blk w' b2 45 (.agg #[.I 0,.N]:Value).cells.toList/\Blk w' b3 45 [.I ((q0:Int) - 900),q.1]/\Row [] w' w4.heap.size 127 q.1 q.2/\q.2.length<=42/\((∀ x∈q.2,Z7Y x)/\ShL q.2)/\Stp [b3] w4 w') ?_ ?_
 refine Zt (σ:=Nat×Int×Value×List Spn) (λq=>[(0,v),(2,pQ b2),(3,pQ b3),(4,.I q.2.1),(5,.I (q.1:Int))])
  (λq w'=>(1<=q.1/\q.1<=43/\0<=q.2.1/\q.2.1<=25000 * q.1/\q.2.2.2.length<q.1)/\Blk w' b2 45 (.agg #[.I 0,.N]:Value).cells.toList/\Blk w' b3 45 [.I ((q0:Int) - 900),q.2.2.1]/\Row [] w' w4.heap.size 127 q.2.2.1 q.2.2.2/\((∀ x∈q.2.2.2,Z7Y x)/\ShL q.2.2.2/\∀ x∈q.2.2.2,x.1+2880<=q.2.1)/\Stp [b3] w4 w') (λq=>43 - q.1)
  (1,0,.N,[]) ⟨rfl,rfl,rfl,rfl,rfl,trivial⟩ ⟨⟨by decide,by decide,by decide,by decide,by decide⟩,k2,k3,Row.nil,⟨by simp,⟨by simp,List.Pairwise.nil⟩,by simp⟩,Stp.refl _ _⟩ ?_
 rintro ⟨k,at_,zs,xs⟩ w5 ⟨⟨bp,pV,lO,oY,fP⟩,k2,k3,ac,dY,aC⟩;dsimp only at bp pV lO oY fP k3 ac dY ⊢;have iO:Stp [] w w5:=hS.ow aC;have bM:=hs;replace hs:=hs.up iO;by_cases hlt:k+1<l.length/\k<41;obtain ⟨hlt,xm⟩:=hlt;have jc:k<l.length:=by omega
 refine QO ?_;refine CM (Zh rfl rfl) (Z1n _ 20000 _ (by decide) (hl _ (Xc jc))) ?_;rintro _ w6 ⟨rfl,cG⟩;have hr:=ZT (if l[k]<0 then -(l[k]+1) else l[k]) 20000 (by decide);generalize (if l[k]<0 then -(l[k]+1) else l[k]) % 20000=m at hr ⊢;refine W ?_;replace k2:=k2.up cG;replace k3:=k3.up cG;replace ac:=ac.up cG;replace hs:=hs.up cG;replace aC:=aC.trans cG.mn;clear cG iO;have n3:b3∉ob zs:=λh=>by have:=(ac.ob_le _ h).1;omega
 have n2:b2∉ob zs:=λh=>by have:=(ac.ob_le _ h).1;omega
 replace hs:SlV (ob zs) w6 v l:=bM.ext (X':=ob zs) (hS.ow aC) (by simp) (λb hb=>.inr (by have:=(ac.ob_le b hb).1;omega));refine WC_drawn 15 (ob zs) [14] [(0,0),(1,1),(2,0),(3,0),(4,0),(5,0),(6,0),(7,1),(8,2),(9,0),(10,0),(11,2),(12,2),(13,0),(14,2)] rfl mixed (by kernel_rfl) (by kernel_rfl) (by kernel_rfl) (λw1 ae=>?_);replace k2:=k2.up ae;replace k3:=k3.up ae;replace ac:=ac.up ae;replace hs:=hs.up ae;replace aC:=aC.trans ae.mn;clear ae;refine D ?_;refine Z9 rfl trivial (Z3 rfl (Zh rfl rfl) (Z1n _ 1801 _ (by decide) (hl _ (Xc hlt)))) (λ_ _ h=>h.2.mn) rfl ?_;rintro _ w7 ⟨rfl,aQ⟩;have cw:=ZT (if l[k+1]<0 then -(l[k+1]+1) else l[k+1]) 1801 (by decide);generalize (if l[k+1]<0 then -(l[k+1]+1) else l[k+1]) % 1801=m2 at cw ⊢;replace k2:=k2.up aQ;replace k3:=k3.up aQ;replace ac:=ac.up aQ;replace aC:=aC.trans aQ.mn;clear aQ;refine D ?_;refine Jn rfl trivial (λw'=>Z0i (vs:=[(0,.I (at_+m)),(1,.I (m2 - 900))]) rfl (Zmp _ _)) rfl ?_;refine D ?_;refine Z9 rfl trivial (Z1 (vs:=[(0,agg ((at_+m,m2 - 900):Spn))]) rfl (Zjd _)) (λ_ _ h=>(Z6.stp h).mn) rfl ?_;rintro bv w8 hN;have aI:SlV (ob zs++[]) w8 bv [((at_+m,m2 - 900):Spn)]:=hN.slv (λb hb=>(ac.ob_le b (by simpa using hb)).2) rfl rfl (by simp [maxLen]);have hT:=Z6.stp hN;clear hN;replace k2:=k2.up hT;replace k3:=k3.up hT;replace ac:=ac.up hT;replace aC:=aC.trans hT.mn;clear hT;have aT:=aC.size;have aN:=ac.ob_le;refine D ?_;refine Z9 rfl trivial (ZA (X:=[]) (base:=w4.heap.size) rfl (by decide) rfl rfl ac aI (by simp only [Xf,Xh];omega) (by simp only [Xf,Xh,maxLen];omega) aT) (λ_ _ h=>h.2.1) rfl ?_;rintro zs' w9 ⟨ac,hT,gQ⟩;replace k2:=k2.ext hT (λh=>by have:=(aN _ h).1;omega);replace k3:=k3.ext hT (λh=>by have:=(aN _ h).1;omega);replace aC:Stp [b3] w4 w9:=aC.own hT (λc hc=>.inr (aN c hc).1);clear hT;refine D ?_;refine Je rfl trivial (Zf (u:=zs') rfl rfl (Row.slv (X:=[]) ac (by simp)).cells (Row.slv (X:=[]) ac (by simp)).one k3 (by simp)) rfl ?_;rintro _ w10 ⟨hT,k3⟩;replace k3:Blk w10 b3 45 [.I ((q0:Int) - 900),zs']:=k3;replace k2:=k2.ext hT (by simpa using n23);have bX:=ac.ob_le;replace ac:=ac.keep hT (λb hb h=>by have:=bX _ h;simp at hb;omega);replace aC:=aC.trans hT;clear hT;refine D ?_;refine W ?_;refine ZF (k+2,at_+m+2880,zs',xs++[((at_+m,m2 - 900):Spn)]) ⟨rfl,rfl,rfl,rfl,rfl,trivial⟩ ⟨⟨by dsimp only;omega,by dsimp only;omega,by dsimp only;omega,by dsimp only;omega,by dsimp only;rw [Xb];simp only [Xf,Xh];omega⟩,k2,k3,ac,?_,aC⟩ (by dsimp only;omega);refine ⟨λx hx=>?_,⟨λx hx=>?_,?_⟩,λx hx=>?_⟩;rcases Xe.1 hx with h|h
 exact dY.1 x h;rw [Xn.1 h];unfold Z7Y;dsimp only;omega;rcases Xe.1 hx with h|h
 exact dY.2.1.1 x h;rw [Xn.1 h];dsimp only;omega;refine Ybg.2 ⟨dY.2.1.2,by simp,λa ha b hb=>?_⟩;rw [Xn.1 hb];have:=dY.2.2 a ha;dsimp only;omega;rcases Xe.1 hx with h|h
 have:=dY.2.2 x h;dsimp only;omega;rw [Xn.1 h];dsimp only;omega
 . repeat'(first|refine W1 ?_|omega|refine VG ?_ ?_<;>intro hg|refine VC ?_ ?_<;>intro hc)
   all_goals exact QT (zs,xs) ⟨k2,k3,ac,(by dsimp only;omega),⟨dY.1,dY.2.1⟩,aC⟩
 rintro ⟨zs,xs⟩ w5 ⟨k2,k3,ac,fP,dY,aC⟩;dsimp only at k3 ac fP dY ⊢;refine W ?_;have aN:=ac.ob_le;have iO:Stp [] w w5:=hS.ow aC;refine SB (us:=[.I ((q0:Int) - 900),zs]) (by intro u hu;simp at hu;rcases hu with rfl|rfl;exact rfl;exact (Row.slv (X:=[]) ac (by simp)).one) k2 ?_;rintro _ w6 ⟨hT,k2⟩;replace ac:=ac.keep hT (λb hb h=>by have:=aN _ h;simp at hb;omega);refine W ?_;refine JH rfl rfl rfl k2 rfl ?_;exact .mk ⟨_,zs,xs,rfl,dY.1,⟨by omega,by omega,dY.2⟩,ac.lower br,iO.ow hT⟩
end Go.Proofs.YteibicnbkggiiaaGreatDoor
