/-
Contracts and plain laws, merged out of own texts.
-/
import Derived.Test.YtipfkbkkndacjaaGreatDoorM5
import Derived.WideLaws
set_option linter.unusedVariables false
set_option linter.unusedSimpArgs false
set_option maxHeartbeats 4000000
set_option maxRecDepth 20000
namespace Go.Proofs.YtipfkbkkndacjaaGreatDoor
open Go Go.Eng Go.RowKit Go.Proofs
theorem Zhp (x:Spn) (w):(Instr.buildSlice 27 1 #[(0,aG x)]).run Tryz.prog w=.ok (.slice (some ⟨w.heap.size,0,none⟩) 1 1) (w.alloc (.cells (Z3.enc x).toArray 75)):=by kernel_rfl
structure ZfR (x:Spn):Prop where
 lo:0<=x.1
 le:x.1<=x.2
 hi:x.2<=3652058
theorem Zdn (lv:Value) (l:List Int) (w) (hs:SlV [] w lv l) (hl:∀ a∈l,I64 a) (h4:l.length<=4) :
 CC 38 #[lv,.I 739616] w λr w'=>∃ xs:List Spn,xs.length<=2/\(∀ x∈xs,ZfR x)/\ZF 75 w w' r xs:=by
 refine cW2 44 Tryz.func38 ?_;refine W ?_;refine LP (σ:=Nat×Value×List Spn) (λq=>[(0,lv),(1,.I 739616),(5,q.2.1),(6,.I ((2 * q.1:Nat):Int))]) (λq W=>q.1<=2/\q.2.2.length=q.1/\(∀ x∈q.2.2,ZfR x)/\Row [] W w.heap.size 75 q.2.1 q.2.2/\Stp [] w W) (λq=>4 - q.1) (0,.N,[]) ⟨by decide,rfl,by simp,Row.nil,Stp.refl _ _⟩ ?_;rintro ⟨j,ov,xs⟩ w1 ⟨hj,ai,aP,ab,hS⟩;dsimp only at hj ai aP ab ⊢;have aV:=λb hb=>ab.ob_le b hb;have cr:=hs.up hS;by_cases hlt:2 * j+1<l.length;have hlt0:2 * j<l.length:=by omega
 refine QO ?_;have lX:=hl _ (Xc hlt0);have rA:=hl _ (Xc hlt);refine CM (Zf rfl rfl) (J7 (l[2 * j]'hlt0) 80 _ (by decide) lX) ?_;rintro _ w2 ⟨rfl,hT⟩;have hr:=J1 (if l[2 * j]<0 then -(l[2 * j]+1) else l[2 * j]) 80 (by decide);generalize (if l[2 * j]<0 then -(l[2 * j]+1) else l[2 * j]) % 80=y at hr ⊢;replace ab:=ab.up hT;replace cr:=cr.up hT;replace hS:=hS.trans hT;clear hT;refine QO ?_;have yE:2 * j+1<l.length:=hlt;refine CM (Zf rfl rfl) (J7 (l[2 * j+1]'hlt) 15 _ (by decide) rA) ?_;rintro _ w3 ⟨rfl,hT⟩;have dm:=J1 (if l[2 * j+1]<0 then -(l[2 * j+1]+1) else l[2 * j+1]) 15 (by decide);generalize (if l[2 * j+1]<0 then -(l[2 * j+1]+1) else l[2 * j+1]) % 15=z at dm ⊢;replace ab:=ab.up hT;replace cr:=cr.up hT;replace hS:=hS.trans hT;clear hT;refine QO ?_;obtain ⟨f0,od⟩:∃ f0:Int,max 0 (min 3652058 (739616 - 20+y))=f0:=⟨_,rfl⟩
 obtain ⟨f1,nq⟩:∃ f1:Int,min 3652058 (f0+z)=f1:=⟨_,rfl⟩
 rw [od,nq];have ax:ZfR (f0,f1):=by constructor<;>dsimp only<;>omega
 refine Z7 (vs:=[(0,.I f0),(1,.I f1)]) rfl (Z8T _ _) rfl ?_;have zS:=hS.size;refine APG ((f0,f1):Spn) ab (by simp) (by omega) rfl (Xh (Xq _ (show xs.length+1<=10 by omega)) (by decide)) (by simp [maxLen];omega) (λv1 ov' w4 dh cB eC=>?_);refine QO ?_;exact Zs (j+1,ov',xs++[(f0,f1)]) ⟨rfl,rfl,rfl,rfl,trivial⟩ ⟨by dsimp only;omega,by simp [ai],λz hz=>by
  rcases Xg.1 hz with h|h
  exact aP z h;simp only [Xk] at h;subst h;exact ax,dh,hS.own cB (λb hb=>.inr (aV b hb).1)⟩ (by dsimp only;omega)
 . refine QO ?_
   all_goals
    refine RU ?_;exact ⟨xs,by omega,aP,ab,hS⟩
structure ZfS (n:Nat) (r:Rtn):Prop where
 crr:0<=r.crr/\r.crr<n
 lo:0<=r.lo/\r.lo<=3652058
 hi:0<=r.hi/\r.hi<=3652058
 kind:(r.kind=1/\r.lo<=r.hi)\/(r.kind=2/\r.lo=0)\/(r.kind=3/\r.lo=0/\r.hi=0)
theorem ZfT (w):(Instr.buildSlice 23 8 #[(0,.I 1),(1,.I 1),(2,.I 1),(3,.I 1),(4,.I 2),(5,.I 2),(6,.I 3),(7,.I 1)]).run Tryz.prog w=.ok (.slice (some ⟨w.heap.size,0,none⟩) 8 8) (w.alloc (.cells #[.I 1,.I 1,.I 1,.I 1,.I 2,.I 2,.I 3,.I 1] 3)):=by kernel_rfl
theorem ZfU (a k:Int) (w):(Instr.build 80 #[(0,.I a),(1,.I k)]).run Tryz.prog w=.ok (aG (⟨a,k,0,0⟩:Rtn)) w:=by kernel_rfl
def K8:List Int:=[1,1,1,1,2,2,3,1]
theorem ZtH {k:Nat} (h:k<K8.length):K8[k]=1\/K8[k]=2\/K8[k]=3:=by
 have:=Xc h;generalize K8[k]=z at this ⊢;simp only [K8,Xb,Xj,or_false] at this;omega
theorem Zdo (lv cv:Value) (l:List Int) (cs:List Crr) (day:Int) (w) (hs:SlV [] w lv l) (hl:∀ a∈l,I64 a) (h3:l.length<=3) (cb:SlV [] w cv cs) (hc:1<=cs.length/\cs.length<=4) (hd:739616<=day/\day<=739655) :
 CC 39 #[lv,cv,.I day] w λr w'=>∃ xs:List Rtn,xs.length<=3/\(∀ x∈xs,ZfS cs.length x)/\ZF 80 w w' r xs:=by
 refine cW3 69 Tryz.func39 ?_;refine W ?_;refine LP (σ:=Nat×Value×List Rtn) (λq=>[(0,lv),(1,cv),(2,.I day),(7,q.2.1),(8,.I (q.1:Int))]) (λq W=>q.1<=3/\q.2.2.length=q.1/\(∀ x∈q.2.2,ZfS cs.length x)/\Row [] W w.heap.size 80 q.2.1 q.2.2/\Stp [] w W) (λq=>4 - q.1) (0,.N,[]) ⟨by decide,rfl,by simp,Row.nil,Stp.refl _ _⟩ ?_;rintro ⟨j,ov,xs⟩ w1 ⟨hj,ai,aP,ab,hS⟩;dsimp only at hj ai aP ab ⊢;have aV:=λb hb=>ab.ob_le b hb;have cr:=hs.up hS;have bY:=cb.up hS;by_cases hlt:j<l.length;refine QO ?_;have lX:=hl _ (Xc hlt);refine CM (Zf rfl rfl) (J7 (l[j]'hlt) 1000000 _ (by decide) lX) ?_;rintro _ w2 ⟨rfl,hT⟩;have hr:=J1 (if l[j]<0 then -(l[j]+1) else l[j]) 1000000 (by decide);generalize (if l[j]<0 then -(l[j]+1) else l[j]) % 1000000=y at hr ⊢;replace ab:=ab.up hT;replace bY:=bY.up hT;replace hS:=hS.trans hT;clear hT cr;refine W ?_;have zS:=hS.size
 refine JK (σ:=Nat×Int×Int) (λq=>[(0,lv),(1,cv),(2,.I day),(7,ov),(8,.I (j:Int)),(9,.I y),(10,.pointer (some ⟨q.1,0,none⟩))])
  (λq w'=>w2.heap.size<=q.1/\Stp [] w2 w'/\(0<=q.2.1/\q.2.1<cs.length)/\(q.2.2=1\/q.2.2=2\/q.2.2=3)/\Blk w' q.1 80 (Z3.enc (⟨q.2.1,q.2.2,0,0⟩:Rtn))) ?_ ?_
 refine ZDr 14 [] [13] [(0,0),(1,0),(2,0),(3,0),(4,0),(6,0),(7,0),(8,0),(5,15),(9,0),(10,1),(11,0),(12,2),(13,2)] (λw1 ae=>?_);have hB:=ae;have dI:=bY.up ae;clear ae;obtain ⟨k1,bG,hq1⟩:∃ k:Nat,y / 4 % 8=(k:Int)/\k<K8.length:=⟨(y / 4 % 8).toNat,by omega,by simp only [K8,Xe,Xf];omega⟩
 obtain ⟨a0,se⟩:∃ a0:Int,y % max 1 (cs.length:Int)=a0:=⟨_,rfl⟩
 have nH:0<=a0/\a0<cs.length:=by
  have h1:=Ya4 y (show max 1 (cs.length:Int)≠0 by omega);have h2:=YaR y (show 0<max 1 (cs.length:Int) by omega);omega
 have hK:=ZtH hq1;refine QD ?_;rw [bG,se];apply Zj7 rfl;refine Z4q rfl trivial (Z1 rfl ZfT) (λ_ _ h=>Z9.stp h) rfl ?_;rintro va wa hN;have eo:SlV [] wa va K8:=hN.slv (by simp) rfl rfl (by simp [maxLen,K8]);have hT:=Z9.stp hN;clear hN;replace hB:=hB.trans hT;clear hT;refine QD ?_;refine JL rfl trivial (λw'=>Z0P rfl (λw=>ZfU a0 (K8[k1]'hq1) w)) rfl ?_;focus repeat'(first|refine D1 ?_|omega|refine Zk rfl rfl rfl rfl (λhg=>?_) (λhg=>?_)|(refine Zi rfl rfl rfl rfl (λhg=>?_) (λhg=>?_)<;>refine D1 ?_)|fail)
 have zB:=hB.size;refine Za rfl trivial Z2 (λ_ _ h=>h.choose_spec.2.2.2) rfl ?_;rintro _ wb ⟨b,rfl,hb,e3,hT⟩;have gb:w2.heap.size<=b:=by omega
 replace hB:=hB.trans hT;replace eo:=eo.up hT;clear hT;focus repeat'(first|refine D1 ?_|omega|refine Zk rfl rfl rfl rfl (λhg=>?_) (λhg=>?_)|(refine Zi rfl rfl rfl rfl (λhg=>?_) (λhg=>?_)<;>refine D1 ?_)|fail)
 refine Jr rfl trivial (Zm (us:=Z3.enc (⟨a0,K8[k1]'hq1,0,0⟩:Rtn)) rfl rfl rfl rfl (Z3.one _) e3 rfl) rfl ?_;rintro _ wc ⟨ar,e3⟩;refine QD ?_;exact QT (b,a0,K8[k1]'hq1) ⟨gb,hB.ow ar,nH,hK,e3⟩;have zB:=hB.size;refine Z4q rfl trivial Z2 (λ_ _ h=>h.choose_spec.2.2.2) rfl ?_;rintro _ wb ⟨b,rfl,hb,e3,hT⟩;have gb:w2.heap.size<=b:=by omega
 replace hB:=hB.trans hT;clear hT;focus repeat'(first|refine D1 ?_|omega|refine Zk rfl rfl rfl rfl (λhg=>?_) (λhg=>?_)|(refine Zi rfl rfl rfl rfl (λhg=>?_) (λhg=>?_)<;>refine D1 ?_)|fail)
 refine Za rfl trivial (Z1 rfl ZfT) (λ_ _ h=>Z9.stp h) rfl ?_;rintro va wa hN;have eo:SlV [] wa va K8:=hN.slv (by simp) rfl rfl (by simp [maxLen,K8]);have hT:=Z9.stp hN;clear hN;replace hB:=hB.trans hT;replace e3:=e3.up hT;clear hT;refine QD ?_;refine JL rfl trivial (λw'=>Z0P rfl (λw=>ZfU a0 (K8[k1]'hq1) w)) rfl ?_;focus repeat'(first|refine D1 ?_|omega|refine Zk rfl rfl rfl rfl (λhg=>?_) (λhg=>?_)|(refine Zi rfl rfl rfl rfl (λhg=>?_) (λhg=>?_)<;>refine D1 ?_)|fail)
 refine Jr rfl trivial (Zm (us:=Z3.enc (⟨a0,K8[k1]'hq1,0,0⟩:Rtn)) rfl rfl rfl rfl (Z3.one _) e3 rfl) rfl ?_;rintro _ wc ⟨ar,e3⟩;refine QD ?_;exact QT (b,a0,K8[k1]'hq1) ⟨gb,hB.ow ar,nH,hK,e3⟩;rintro ⟨b,a,k⟩ w3 ⟨hb,hT,ha,hk,e3⟩;dsimp only at hb ha hk e3 ⊢;rcases hk with rfl|rfl|rfl
 refine QO ?_;have lL:0<=(max 0 (min 3652058 (day - 3+y / 32 % 40)))/\(max 0 (min 3652058 (day - 3+y / 32 % 40)))<=3652058:=by omega
 generalize (max 0 (min 3652058 (day - 3+y / 32 % 40)))=f0 at lL ⊢;refine Z5 (Zb (u:=.I f0) rfl rfl rfl rfl e3 (show (2:Nat)<4 by decide)) ?_;rintro _ w4 ⟨ar,e3⟩;replace e3:Blk w4 b 80 (Z3.enc (⟨a,1,f0,0⟩:Rtn)):=e3;replace hT:=hT.ow ar;clear ar;refine QO ?_;have sf:f0<=min 3652058 (f0+y / 1280 % 5)/\min 3652058 (f0+y / 1280 % 5)<=3652058:=by omega
 generalize min 3652058 (f0+y / 1280 % 5)=f1 at sf ⊢;refine Z5 (Zb (u:=.I f1) rfl rfl rfl rfl e3 (show (3:Nat)<4 by decide)) ?_;rintro _ w5 ⟨ar,e3⟩;replace e3:Blk w5 b 80 (Z3.enc (⟨a,1,f0,f1⟩:Rtn)):=e3;replace hT:=hT.ow ar;clear ar;have z4:=hT.size;have dE:=ab.up hT;have aI:=hS.trans hT;have zS4:=aI.size;refine QO ?_;refine APG (⟨a,1,f0,f1⟩:Rtn) dE (by simp) (by omega) rfl (Xh (Xq _ (show xs.length+1<=10 by omega)) (by decide)) (by simp [maxLen];omega) (λv1 ov' w4 dh cB eC=>?_);refine QO ?_;exact QL (j+1,ov',xs++[⟨a,1,f0,f1⟩]) ⟨by dsimp only;omega,by simp [ai],λz hz=>by
  rcases Xg.1 hz with h|h
  exact aP z h;simp only [Xk] at h;subst h;constructor<;>dsimp only<;>omega,dh,aI.own cB (λb hb=>.inr (dE.ob_le b hb).1)⟩ (by dsimp only;omega)
 refine QO ?_;have lL:0<=(max 0 (min 3652058 (day - 3+y / 32 % 40)))/\(max 0 (min 3652058 (day - 3+y / 32 % 40)))<=3652058:=by omega
 generalize (max 0 (min 3652058 (day - 3+y / 32 % 40)))=f0 at lL ⊢;refine Z5 (Zb (u:=.I f0) rfl rfl rfl rfl e3 (show (3:Nat)<4 by decide)) ?_;rintro _ w4 ⟨ar,e3⟩;replace e3:Blk w4 b 80 (Z3.enc (⟨a,2,0,f0⟩:Rtn)):=e3;replace hT:=hT.ow ar;clear ar;have z4:=hT.size;have dE:=ab.up hT;have aI:=hS.trans hT;have zS4:=aI.size;refine QO ?_;refine APG (⟨a,2,0,f0⟩:Rtn) dE (by simp) (by omega) rfl (Xh (Xq _ (show xs.length+1<=10 by omega)) (by decide)) (by simp [maxLen];omega) (λv1 ov' w4 dh cB eC=>?_);refine QO ?_;exact QL (j+1,ov',xs++[⟨a,2,0,f0⟩]) ⟨by dsimp only;omega,by simp [ai],λz hz=>by
  rcases Xg.1 hz with h|h
  exact aP z h;simp only [Xk] at h;subst h;constructor<;>dsimp only<;>omega,dh,aI.own cB (λb hb=>.inr (dE.ob_le b hb).1)⟩ (by dsimp only;omega)
 have z4:=hT.size;have dE:=ab.up hT;have aI:=hS.trans hT;have zS4:=aI.size;refine QO ?_;refine APG (⟨a,3,0,0⟩:Rtn) dE (by simp) (by omega) rfl (Xh (Xq _ (show xs.length+1<=10 by omega)) (by decide)) (by simp [maxLen];omega) (λv1 ov' w4 dh cB eC=>?_);refine QO ?_;exact QL (j+1,ov',xs++[⟨a,3,0,0⟩]) ⟨by dsimp only;omega,by simp [ai],λz hz=>by
  rcases Xg.1 hz with h|h
  exact aP z h;simp only [Xk] at h;subst h;constructor<;>dsimp only<;>omega,dh,aI.own cB (λb hb=>.inr (dE.ob_le b hb).1)⟩ (by dsimp only;omega)
 . refine QO ?_
   all_goals
    refine RU ?_;exact ⟨xs,by omega,aP,ab,hS⟩
theorem Z3w (z:Int) (m:Int) (w) (hm:0<m) (hz:I64 z):CC 102 #[.I z,.I m] w λr w'=>r=.I ((if z<0 then -(z+1) else z) % m)/\Stp [] w w':=by
 unfold I64 at hz;refine cW2 13 Tryz.func102 ?_;by_cases h:z<0;refine RT ?_;exact ⟨by rw [if_pos h],Stp.refl _ _⟩;refine RT ?_;exact ⟨by rw [if_neg h],Stp.refl _ _⟩
theorem ZeQ (X:List Nat) (v:Value) (l:List Int) (i m:Int) (w) (hm:0<m) (hi:I64 i) (hs:SlV X w v l) (hl:∀ a∈l,I64 a):CC 101 #[v,.I i,.I m] w λr w'=>∃ q:Nat,r=.I (q:Int)/\(q:Int)<m/\Stp [] w w':=by
 unfold I64 at hi;have aU:=hs.max;refine cW3 21 Tryz.func101 ?_;refine W ?_;by_cases iL:0<=i/\i<l.length;obtain ⟨h0,h1⟩:=iL;obtain ⟨k,rfl⟩:∃ k:Nat,i=(k:Int):=⟨i.toNat,by omega⟩
 have hk:k<l.length:=by omega
 refine QO ?_;refine CL (Z3w _ m _ hm (hl _ (Xc hk))) ?_;rintro _ w2 ⟨rfl,hS⟩;refine W ?_;refine WR ?_;have:=J1 (if l[k]<0 then -(l[k]+1) else l[k]) m hm;exact .mk ⟨_,by rw [YaA this.1],by rw [YaA this.1];exact this.2,hS⟩
 . repeat'(first|refine W1 ?_|omega|refine VG ?_ ?_<;>intro hg|refine VC ?_ ?_<;>intro hc)
   all_goals first
    | (refine RU ?_
       exact ⟨0,rfl,by simpa using hm,Stp.refl _ _⟩)
theorem Zo6 (a:Int) (w):(Instr.build 33 #[(0,.I a)]).run Tryz.prog w=.ok (.agg #[.I a,.N]) w:=by kernel_rfl
theorem Zo7 (a b:Int) (w):(Instr.build 141 #[(0,.I a),(1,.I b)]).run Tryz.prog w=.ok (agg ((a,b):Spn)) w:=by kernel_rfl
theorem Zla (d:Spn) (w):(Instr.buildSlice 31 1 #[(0,agg d)]).run Tryz.prog w=.ok (.slice (some ⟨w.heap.size,0,none⟩) 1 1) (w.alloc (.cells (Z3.enc d).toArray 141)):=by kernel_rfl
def Zdp (x:Spn):Prop:=0<=x.1/\x.1<=2000000
theorem Z90 (v:Value) (l:List Int) (w) (hs:SlV [] w v l) (hl:∀ a∈l,I64 a) :
 CC 64 #[v] w λr w'=>∃ (o:Int) (zs:Value) (xs:List Spn),r=.agg #[.I o,zs]/\(∀ x∈xs,Zdp x)/\xs.length<=100/\ZF 141 w w' zs xs:=by
 have aU:=hs.max;refine cW1 45 Tryz.func64 ?_;refine W ?_;refine Z0 Z2 rfl ?_;rintro _ w1 ⟨b2,rfl,bV,k2,hS⟩;refine W ?_;refine CM (ZK rfl rfl rfl) (ZeQ [] _ l 0 1801 _ (by decide) (by unfold I64;omega) (hs.up hS) hl) ?_;rintro _ w2 ⟨q0,rfl,se,ah⟩;replace k2:=k2.up ah;replace hS:=hS.trans ah;clear ah;refine W ?_;refine Z7 (vs:=[(0,.I ((q0:Int) - 900))]) rfl (Zo6 _) rfl ?_;have k2lt:=k2.lt;refine Z0 Z2 rfl ?_;rintro _ w3 ⟨b3,rfl,dN,k3,am⟩;replace k2:=k2.up am;replace hS:=hS.trans am;clear am;refine W ?_;have n23:b2≠b3:=by omega
 refine SB (us:=[.I ((q0:Int) - 900),.N]) (by simp [Value.oneCell']) k3 ?_;rintro _ w4 ⟨aI,k3⟩;replace k2:=k2.ext aI (by simpa using n23);replace hS:=hS.ow aI;clear aI;have bH:=hS.size;have k3lt:=k3.lt;have k2lt':=k2.lt;refine W ?_;refine Z0h (σ:=Value×List Spn) (λq=>[(2,pQ b2),(3,pQ b3)]) (λq w'=>Blk w' b2 33 (.agg #[.I 0,.N]:Value).cells.toList/\Blk w' b3 33 [.I ((q0:Int) - 900),q.1]/\Row [] w' w4.heap.size 141 q.1 q.2/\q.2.length<=42/\(∀ x∈q.2,Zdp x)/\Stp [b3] w4 w') ?_ ?_
 refine Zt (σ:=Nat×Int×Value×List Spn) (λq=>[(0,v),(2,pQ b2),(3,pQ b3),(4,.I q.2.1),(5,.I (q.1:Int))])
  (λq w'=>(1<=q.1/\q.1<=43/\0<=q.2.1/\q.2.1<=25000 * q.1/\q.2.2.2.length<q.1)/\Blk w' b2 33 (.agg #[.I 0,.N]:Value).cells.toList/\Blk w' b3 33 [.I ((q0:Int) - 900),q.2.2.1]/\Row [] w' w4.heap.size 141 q.2.2.1 q.2.2.2/\(∀ x∈q.2.2.2,Zdp x)/\Stp [b3] w4 w') (λq=>43 - q.1)
  (1,0,.N,[]) ⟨rfl,rfl,rfl,rfl,rfl,trivial⟩ ⟨⟨by decide,by decide,by decide,by decide,by decide⟩,k2,k3,Row.nil,by simp,Stp.refl _ _⟩ ?_
 rintro ⟨k,at_,zs,xs⟩ w5 ⟨⟨bG,sg,nH,ru,lG⟩,k2,k3,ab,jo,aD⟩;dsimp only at bG sg nH ru lG k3 ab jo ⊢;have jO:Stp [] w w5:=hS.ow aD;have ba:=hs;replace hs:=hs.up jO;by_cases hlt:k+1<l.length/\k<41;obtain ⟨hlt,yF⟩:=hlt;have iI:k<l.length:=by omega
 refine QO ?_;refine CM (Zf rfl rfl) (Z3w _ 20000 _ (by decide) (hl _ (Xc iI))) ?_;rintro _ w6 ⟨rfl,dp⟩;have hr:=J1 (if l[k]<0 then -(l[k]+1) else l[k]) 20000 (by decide);generalize (if l[k]<0 then -(l[k]+1) else l[k]) % 20000=m at hr ⊢;refine W ?_;replace k2:=k2.up dp;replace k3:=k3.up dp;replace ab:=ab.up dp;replace hs:=hs.up dp;replace aD:=aD.trans dp.mn;clear dp jO;have n3:b3∉ob zs:=λh=>by have:=(ab.ob_le _ h).1;omega
 have n2:b2∉ob zs:=λh=>by have:=(ab.ob_le _ h).1;omega
 replace hs:SlV (ob zs) w6 v l:=ba.ext (X':=ob zs) (hS.ow aD) (by simp) (λb hb=>.inr (by have:=(ab.ob_le b hb).1;omega));refine Z7W 15 (ob zs) [14] [(0,0),(1,1),(2,0),(3,0),(4,0),(5,0),(6,0),(7,1),(8,2),(9,0),(10,0),(11,2),(12,2),(13,0),(14,2)] rfl mixed (by kernel_rfl) (by kernel_rfl) (by kernel_rfl) (λw1 ae=>?_);replace k2:=k2.up ae;replace k3:=k3.up ae;replace ab:=ab.up ae;replace hs:=hs.up ae;replace aD:=aD.trans ae.mn;clear ae;refine D ?_;refine Za rfl trivial (Z4 rfl (Zf rfl rfl) (Z3w _ 1801 _ (by decide) (hl _ (Xc hlt)))) (λ_ _ h=>h.2.mn) rfl ?_;rintro _ w7 ⟨rfl,aR⟩;have dm:=J1 (if l[k+1]<0 then -(l[k+1]+1) else l[k+1]) 1801 (by decide);generalize (if l[k+1]<0 then -(l[k+1]+1) else l[k+1]) % 1801=m2 at dm ⊢;replace k2:=k2.up aR;replace k3:=k3.up aR;replace ab:=ab.up aR;replace aD:=aD.trans aR.mn;clear aR;refine D ?_;refine JL rfl trivial (λw'=>Z0P (vs:=[(0,.I (at_+m)),(1,.I (m2 - 900))]) rfl (Zo7 _ _)) rfl ?_;refine D ?_;refine Za rfl trivial (Z1 (vs:=[(0,agg ((at_+m,m2 - 900):Spn))]) rfl (Zla _)) (λ_ _ h=>(Z9.stp h).mn) rfl ?_;rintro bv w8 hN;have an:SlV (ob zs++[]) w8 bv [((at_+m,m2 - 900):Spn)]:=hN.slv (λb hb=>(ab.ob_le b (by simpa using hb)).2) rfl rfl (by simp [maxLen]);have hT:=Z9.stp hN;clear hN;replace k2:=k2.up hT;replace k3:=k3.up hT;replace ab:=ab.up hT;replace aD:=aD.trans hT.mn;clear hT;have aX:=aD.size;have aV:=ab.ob_le;refine D ?_;refine Za rfl trivial (ZQ (X:=[]) (base:=w4.heap.size) rfl (by decide) rfl rfl ab an (by simp only [Xe,Xf];omega) (by simp only [Xe,Xf,maxLen];omega) aX) (λ_ _ h=>h.2.1) rfl ?_;rintro zs' w9 ⟨ab,hT,ib⟩;replace k2:=k2.ext hT (λh=>by have:=(aV _ h).1;omega);replace k3:=k3.ext hT (λh=>by have:=(aV _ h).1;omega);replace aD:Stp [b3] w4 w9:=aD.own hT (λc hc=>.inr (aV c hc).1);clear hT;refine D ?_;refine Jr rfl trivial (Zb (u:=zs') rfl rfl (Row.slv (X:=[]) ab (by simp)).cells (Row.slv (X:=[]) ab (by simp)).one k3 (by simp)) rfl ?_;rintro _ w10 ⟨hT,k3⟩;replace k3:Blk w10 b3 33 [.I ((q0:Int) - 900),zs']:=k3;replace k2:=k2.ext hT (by simpa using n23);have bK:=ab.ob_le;replace ab:=ab.keep hT (λb hb h=>by have:=bK _ h;simp at hb;omega);replace aD:=aD.trans hT;clear hT;refine D ?_;refine W ?_;refine Zs (k+2,at_+m+2880,zs',xs++[((at_+m,m2 - 900):Spn)]) ⟨rfl,rfl,rfl,rfl,rfl,trivial⟩ ⟨⟨by dsimp only;omega,by dsimp only;omega,by dsimp only;omega,by dsimp only;omega,by dsimp only;rw [Xd];simp only [Xe,Xf];omega⟩,k2,k3,ab,?_,aD⟩ (by dsimp only;omega);intro x hx;rcases Xg.1 hx with h|h
 exact jo x h;rw [Xk.1 h];unfold Zdp;dsimp only;omega
 . repeat'(first|refine W1 ?_|omega|refine VG ?_ ?_<;>intro hg|refine VC ?_ ?_<;>intro hc)
   all_goals exact QT (zs,xs) ⟨k2,k3,ab,(by dsimp only;omega),jo,aD⟩
 rintro ⟨zs,xs⟩ w5 ⟨k2,k3,ab,lG,jo,aD⟩;dsimp only at k3 ab lG jo ⊢;refine W ?_;have aV:=ab.ob_le;have jO:Stp [] w w5:=hS.ow aD;refine SB (us:=[.I ((q0:Int) - 900),zs]) (by intro u hu;simp at hu;rcases hu with rfl|rfl;exact rfl;exact (Row.slv (X:=[]) ab (by simp)).one) k2 ?_;rintro _ w6 ⟨hT,k2⟩;replace ab:=ab.keep hT (λb hb h=>by have:=aV _ h;simp at hb;omega);refine W ?_;refine J3 rfl rfl rfl k2 rfl ?_;exact .mk ⟨_,zs,xs,rfl,jo,by omega,ab.lower bH,jO.ow hT⟩
def cL (b0 b5 b6:Bool) (hv cv zo zs hr:Value):List Value:=[.B b0,.B false,.B false,.B false,.B false,.B b5,.B b6,hv,cv,zo,zs,hr]
theorem Zo8 (w):(Instr.buildSlice 23 4 #[(0,.I 1439),(1,.I 1020),(2,.I 0),(3,.I 720)]).run Tryz.prog w=.ok (.slice (some ⟨w.heap.size,0,none⟩) 4 4) (w.alloc (.cells #[.I 1439,.I 1020,.I 0,.I 720] 3)):=by kernel_rfl
theorem Zo9 (h:Int) (w):(Instr.build 35 #[(4,.I h)]).run Tryz.prog w=.ok (.agg (cL false false false (.N) (.N) (.I 0) (.N) (.I h)).toArray) w:=by kernel_rfl
theorem ZtI (a b c:Int) (w):(Instr.build 138 #[(0,.I a),(1,.I b),(7,.I 1),(8,.I 9999),(6,.I c)]).run Tryz.prog w=.ok (agg (⟨a,b,0,0,0,0,c,1,9999⟩:Hol)) w:=by kernel_rfl
theorem Zoa (h:Hol) (w):(Instr.buildSlice 29 1 #[(0,agg h)]).run Tryz.prog w=.ok (.slice (some ⟨w.heap.size,0,none⟩) 1 1) (w.alloc (.cells (Z3.enc h).toArray 138)):=by kernel_rfl
theorem Zob (a b c:Int) (w):(Instr.build 73 #[(0,.I a),(1,.I b),(2,.I c)]).run Tryz.prog w=.ok (agg (⟨a,b,c⟩:Clo)) w:=by kernel_rfl
theorem Zoc (h:Clo) (w):(Instr.buildSlice 30 1 #[(0,agg h)]).run Tryz.prog w=.ok (.slice (some ⟨w.heap.size,0,none⟩) 1 1) (w.alloc (.cells (Z3.enc h).toArray 73)):=by kernel_rfl
def Zdq (x:Clo):Prop:=739616<=x.lo/\x.lo<739736/\x.lo<=x.hi/\x.hi<=x.lo+5/\739616<=x.known/\x.known<739746
structure ZoS (c:Cal):Prop where
 ok:Zkm c
 wk:∃ b0 b5 b6:Bool,c.week=[b0,false,false,false,false,b5,b6]
 h3:c.hols.length<=3
 c3:c.clos.length<=3
 cl:∀ x∈c.clos,Zdq x
theorem Z91 (X:List Nat) (v:Value) (l:List Int) (w:World) (hX:∀ b∈X,b<w.heap.size) (hs:SlV [] w v l) (hl:∀ a∈l,I64 a) :
 CC 32 #[v] w λr w'=>∃ (c:Cal) (hv cv zo zs hr:Value),r=Z6O c hv cv zo zs hr/\(zo.oneCell'=true/\zs.oneCell'=true/\hr.oneCell'=true)/\ZoS c/\SlV X w' hv c.hols/\SlV X w' cv c.clos/\Stp [] w w':=by
 have aU:=hs.max;refine cW1 160 Tryz.func32 ?_;refine W ?_;refine Z0 Z2 rfl ?_;rintro _ w1 ⟨b2,rfl,bV,k2,hS⟩;refine W ?_;refine Z0 (Z1 (vs:=[(0,.I 1439),(1,.I 1020),(2,.I 0),(3,.I 720)]) rfl (Zo8)) rfl ?_;rintro bv w2 hN;have an:SlV [] w2 bv ([1439,1020,0,720]:List Int):=hN.slv (by simp) rfl rfl (by simp [maxLen]);have hT:=Z9.stp hN;clear hN;replace k2:=k2.up hT;replace hS:=hS.trans hT;clear hT;refine W ?_;refine CM (ZK rfl rfl rfl) (ZZ [] _ l 0 4 _ (by decide) (by unfold I64;omega) (hs.up hS) hl) ?_;rintro _ wn ⟨q0,rfl,se,hT⟩;replace an:=an.up hT;replace k2:=k2.up hT;replace hS:=hS.trans hT;clear hT;have xa:q0<([1439,1020,0,720]:List Int).length:=by simp only [Xe,Xf];omega
 refine W ?_;generalize ([1439,1020,0,720]:List Int)[q0]=hr;refine Z7 (vs:=[(4,.I hr)]) rfl (Zo9 _) rfl ?_;have k2lt:=k2.lt;clear an;refine Z0 Z2 rfl ?_;rintro _ w3 ⟨b3,rfl,dN,k3,hT⟩;replace k2:=k2.up hT;replace hS:=hS.trans hT;clear hT;refine W ?_;have n23:b2≠b3:=by omega
 refine SB (us:=cL false false false (.N) (.N) (.I 0) (.N) (.I hr)) (by simp [cL,Value.oneCell']) k3 ?_;rintro _ w4 ⟨hT,k3⟩;replace k2:=k2.ext hT (by simpa using n23);replace hS:=hS.ow hT;clear hT;have k3lt:=k3.lt;have k2lt':=k2.lt;have xb:w.heap.size<=b3:=by have:=k3lt;have:=hS.size;omega
 refine W ?_;refine CM (ZK rfl rfl rfl) (ZZ [] _ l 1 8 _ (by decide) (by unfold I64;omega) (hs.up hS) hl) ?_;rintro _ wn ⟨q1,rfl,hq1,hT⟩;replace k3:=k3.up hT;replace k2:=k2.up hT;replace hS:=hS.trans hT;clear hT;refine W ?_;refine Z36 (len:=7) (i:=5) rfl rfl rfl (by decide) rfl ?_;refine Z5 (Zb (u:=.B (decide (¬ (q1:Int)=1))) rfl rfl rfl rfl k3 (by simp [cL])) ?_;rintro _ wn ⟨hT,k3⟩;replace k3:Blk wn b3 35 (cL false (decide (¬ (q1:Int)=1)) false (.N) (.N) (.I 0) (.N) (.I hr)):=k3;replace k2:=k2.ext hT (by simpa using n23);replace hS:=hS.ow hT;clear hT;refine W ?_;refine Z36 (len:=7) (i:=6) rfl rfl rfl (by decide) rfl ?_;refine Z5 (Zb (u:=.B (decide (¬ (q1:Int)=2))) rfl rfl rfl rfl k3 (by simp [cL])) ?_;rintro _ wn ⟨hT,k3⟩;replace k3:Blk wn b3 35 (cL false (decide (¬ (q1:Int)=1)) (decide (¬ (q1:Int)=2)) (.N) (.N) (.I 0) (.N) (.I hr)):=k3;replace k2:=k2.ext hT (by simpa using n23);replace hS:=hS.ow hT;clear hT;refine W ?_;refine Z5 (Zb (u:=.B (decide ((q1:Int)=3))) rfl rfl rfl rfl k3 (by simp [cL])) ?_;rintro _ w5 ⟨hT,k3⟩;replace k3:Blk w5 b3 35 (cL (decide ((q1:Int)=3)) (decide (¬ (q1:Int)=1)) (decide (¬ (q1:Int)=2)) (.N) (.N) (.I 0) (.N) (.I hr)):=k3;replace k2:=k2.ext hT (by simpa using n23);replace hS:=hS.ow hT;clear hT;refine W ?_;generalize decide ((q1:Int)=3)=b0 at k3 ⊢;generalize decide (¬ (q1:Int)=1)=b5 at k3 ⊢;generalize decide (¬ (q1:Int)=2)=b6 at k3 ⊢;replace k2:Blk w5 b2 35 ((.agg (cL false false false (.N) (.N) (.I 0) (.N) (.I 0)).toArray:Value).cells.toList):=k2;have xc:=hS.size;have k3lt5:=k3.lt;have k2lt5:=k2.lt;refine Z0h (σ:=Value×List Hol) (λq=>[(0,v),(2,pQ b2),(3,pQ b3)]) (λq w'=>q.2.length<=3/\Blk w' b2 35 ((.agg (cL false false false (.N) (.N) (.I 0) (.N) (.I 0)).toArray:Value).cells.toList)/\Blk w' b3 35 (cL b0 b5 b6 q.1 (.N) (.I 0) (.N) (.I hr))/\Row [] w' w5.heap.size 138 q.1 q.2/\(∀ x∈q.2,Z2c x)/\Stp [b3] w5 w') ?_ ?_
 refine Zt (σ:=Nat×Value×List Hol) (λq=>[(0,v),(2,pQ b2),(3,pQ b3),(5,.I (q.1:Int))]) (λq w'=>q.1<=3/\q.2.2.length<=q.1/\Blk w' b2 35 ((.agg (cL false false false (.N) (.N) (.I 0) (.N) (.I 0)).toArray:Value).cells.toList)/\Blk w' b3 35 (cL b0 b5 b6 q.2.1 (.N) (.I 0) (.N) (.I hr))/\Row [] w' w5.heap.size 138 q.2.1 q.2.2/\(∀ x∈q.2.2,Z2c x)/\Stp [b3] w5 w') (λq=>3 - q.1)
  (0,.N,[]) ⟨rfl,rfl,rfl,rfl,trivial⟩ ⟨by decide,by decide,k2,k3,Row.nil,by simp,Stp.refl _ _⟩ ?_
 rintro ⟨j,hv,hols⟩ w6 ⟨si,ai,k2,k3,ab,fO,aJ⟩;dsimp only at si ai k3 ab fO ⊢;have cJ:=hs.up (hS.ow aJ);have sj:=ab.ob_le;refine W ?_;refine CM (ZK rfl rfl rfl) (ZZ [] _ l 2 4 _ (by decide) (by unfold I64;omega) cJ hl) ?_;rintro _ wn ⟨q,rfl,hq,hT⟩;replace k3:=k3.up hT;replace k2:=k2.up hT;replace ab:=ab.up hT;replace cJ:=cJ.up hT;replace aJ:=aJ.trans hT.mn;clear hT;by_cases hlt:(j:Int)<(q:Int);refine QO ?_;refine CM (ZK rfl rfl rfl) (ZZ [] _ l (3+2 * (j:Int)) 1000000 _ (by decide) (by unfold I64;omega) cJ hl) ?_;rintro _ wn ⟨x,rfl,hx,hT⟩;replace k3:=k3.up hT;replace k2:=k2.up hT;replace ab:=ab.up hT;replace cJ:=cJ.up hT;replace aJ:=aJ.trans hT.mn;clear hT;refine W ?_;refine CM (ZK rfl rfl rfl) (ZZ [] _ l (4+2 * (j:Int)) 1000000 _ (by decide) (by unfold I64;omega) cJ hl) ?_;rintro _ wn ⟨y,rfl,hy,hT⟩;replace k3:=k3.up hT;replace k2:=k2.up hT;replace ab:=ab.up hT;replace cJ:=cJ.up hT;replace aJ:=aJ.trans hT.mn;clear hT;refine W ?_;refine Z7 (vs:=[(0,.I (1+(x:Int) % 4)),(1,.I (1+(x:Int) / 4 % 4)),(7,.I 1),(8,.I 9999),(6,.I ((y:Int) % 3))]) rfl (ZtI _ _ _) rfl ?_;have xd:=k3.lt;have xf:=k2.lt;have oe:=ab.ob_le;have xg:=aJ.size;refine Z0 Z2 rfl ?_;rintro _ wn ⟨b8,rfl,fL,k8,hT⟩;replace k3:=k3.up hT;replace k2:=k2.up hT;replace ab:=ab.up hT;replace cJ:=cJ.up hT;replace aJ:=aJ.trans hT.mn;clear hT;refine W ?_;have jg:b8≠b2/\b8≠b3/\b8∉ob hv:=⟨by omega,by omega,λh=>by have:=(oe _ h).2;omega⟩
 have cK:w5.heap.size<=b8:=by omega
 generalize gP:1+(x:Int) % 4=m1;generalize eG:1+(x:Int) / 4 % 4=m2;generalize pB:(y:Int) % 3=m3;refine SA (us:=Z3.enc (⟨m1,m2,0,0,0,0,m3,1,9999⟩:Hol)) k8 ?_;rintro _ wn ⟨hT,k8⟩;replace k3:=k3.ext hT (by simp;omega);replace k2:=k2.ext hT (by simp;omega);replace ab:=ab.keep hT (by simp;exact jg.2.2);replace aJ:=aJ.ow hT;clear hT;replace k8:Blk wn b8 138 [.I m1,.I m2,.I 0,.I 0,.I 0,.I 0,.I m3,.I 1,.I 9999]:=k8;clear cJ;refine W ?_
 refine Z0h (σ:=Hol) (λ_=>[(0,v),(2,pQ b2),(3,pQ b3),(5,.I (j:Int)),(8,pQ b8)])
  (λh w'=>Z2c h/\Blk w' b8 138 [.I h.kind,.I h.month,.I h.day,.I h.wd,.I h.nth,.I h.off,.I h.move,.I h.first,.I h.last]/\Blk w' b2 35 ((.agg (cL false false false (.N) (.N) (.I 0) (.N) (.I 0)).toArray:Value).cells.toList)/\Blk w' b3 35 (cL b0 b5 b6 hv (.N) (.I 0) (.N) (.I hr))/\Row [] w' w5.heap.size 138 hv hols/\Stp [b3] w5 w') ?_ ?_
 have hk:m1=1\/m1=2\/m1=3\/m1=4:=by omega
 rcases hk with rfl|rfl|rfl|rfl
 refine W ?_;refine S1 (u:=.I (1+(y:Int) / 3 % 31)) k8 ?_;rintro _ wn ⟨hT,k8⟩;replace k8:Blk wn b8 138 [.I (1),.I (m2),.I (1+(y:Int) / 3 % 31),.I (0),.I (0),.I (0),.I (m3),.I (1),.I (9999)]:=k8;replace k3:=k3.ext hT (by simp;omega);replace k2:=k2.ext hT (by simp;omega);replace ab:=ab.keep hT (by simp;exact jg.2.2);replace aJ:=aJ.ow hT;clear hT;refine W ?_;have iX:Z2c (⟨1,m2,1+(y:Int) / 3 % 31,0,0,0,m3,1,9999⟩:Hol):=by constructor<;>dsimp only<;>omega
 exact ZA (⟨1,m2,1+(y:Int) / 3 % 31,0,0,0,m3,1,9999⟩:Hol) ⟨rfl,rfl,rfl,rfl,rfl,trivial⟩ ⟨iX,k8,k2,k3,ab,aJ⟩;refine W ?_;refine S1 (u:=.I ((y:Int) / 3 % 7)) k8 ?_;rintro _ wn ⟨hT,k8⟩;replace k8:Blk wn b8 138 [.I (2),.I (m2),.I (0),.I ((y:Int) / 3 % 7),.I (0),.I (0),.I (m3),.I (1),.I (9999)]:=k8;replace k3:=k3.ext hT (by simp;omega);replace k2:=k2.ext hT (by simp;omega);replace ab:=ab.keep hT (by simp;exact jg.2.2);replace aJ:=aJ.ow hT;clear hT;refine W ?_;refine S1 (u:=.I (1+(y:Int) / 21 % 5)) k8 ?_;rintro _ wn ⟨hT,k8⟩;replace k8:Blk wn b8 138 [.I (2),.I (m2),.I (0),.I ((y:Int) / 3 % 7),.I (1+(y:Int) / 21 % 5),.I (0),.I (m3),.I (1),.I (9999)]:=k8;replace k3:=k3.ext hT (by simp;omega);replace k2:=k2.ext hT (by simp;omega);replace ab:=ab.keep hT (by simp;exact jg.2.2);replace aJ:=aJ.ow hT;clear hT;refine W ?_;refine S1 (u:=.I (0)) k8 ?_;rintro _ wn ⟨hT,k8⟩;replace k8:Blk wn b8 138 [.I (2),.I (m2),.I (0),.I ((y:Int) / 3 % 7),.I (1+(y:Int) / 21 % 5),.I (0),.I (0),.I (1),.I (9999)]:=k8;replace k3:=k3.ext hT (by simp;omega);replace k2:=k2.ext hT (by simp;omega);replace ab:=ab.keep hT (by simp;exact jg.2.2);replace aJ:=aJ.ow hT;clear hT;refine W ?_;have iX:Z2c (⟨2,m2,0,(y:Int) / 3 % 7,1+(y:Int) / 21 % 5,0,0,1,9999⟩:Hol):=by constructor<;>dsimp only<;>omega
 exact ZA (⟨2,m2,0,(y:Int) / 3 % 7,1+(y:Int) / 21 % 5,0,0,1,9999⟩:Hol) ⟨rfl,rfl,rfl,rfl,rfl,trivial⟩ ⟨iX,k8,k2,k3,ab,aJ⟩;refine W ?_;refine S1 (u:=.I ((y:Int) / 3 % 7)) k8 ?_;rintro _ wn ⟨hT,k8⟩;replace k8:Blk wn b8 138 [.I (3),.I (m2),.I (0),.I ((y:Int) / 3 % 7),.I (0),.I (0),.I (m3),.I (1),.I (9999)]:=k8;replace k3:=k3.ext hT (by simp;omega);replace k2:=k2.ext hT (by simp;omega);replace ab:=ab.keep hT (by simp;exact jg.2.2);replace aJ:=aJ.ow hT;clear hT;refine W ?_;refine S1 (u:=.I (0)) k8 ?_;rintro _ wn ⟨hT,k8⟩;replace k8:Blk wn b8 138 [.I (3),.I (m2),.I (0),.I ((y:Int) / 3 % 7),.I (0),.I (0),.I (0),.I (1),.I (9999)]:=k8;replace k3:=k3.ext hT (by simp;omega);replace k2:=k2.ext hT (by simp;omega);replace ab:=ab.keep hT (by simp;exact jg.2.2);replace aJ:=aJ.ow hT;clear hT;refine W ?_;have iX:Z2c (⟨3,m2,0,(y:Int) / 3 % 7,0,0,0,1,9999⟩:Hol):=by constructor<;>dsimp only<;>omega
 exact ZA (⟨3,m2,0,(y:Int) / 3 % 7,0,0,0,1,9999⟩:Hol) ⟨rfl,rfl,rfl,rfl,rfl,trivial⟩ ⟨iX,k8,k2,k3,ab,aJ⟩;refine W ?_;refine S1 (u:=.I ((y:Int) / 3 % 61 - 10)) k8 ?_;rintro _ wn ⟨hT,k8⟩;replace k8:Blk wn b8 138 [.I (4),.I (m2),.I (0),.I (0),.I (0),.I ((y:Int) / 3 % 61 - 10),.I (m3),.I (1),.I (9999)]:=k8;replace k3:=k3.ext hT (by simp;omega);replace k2:=k2.ext hT (by simp;omega);replace ab:=ab.keep hT (by simp;exact jg.2.2);replace aJ:=aJ.ow hT;clear hT;refine W ?_;refine S1 (u:=.I (0)) k8 ?_;rintro _ wn ⟨hT,k8⟩;replace k8:Blk wn b8 138 [.I (4),.I (0),.I (0),.I (0),.I (0),.I ((y:Int) / 3 % 61 - 10),.I (m3),.I (1),.I (9999)]:=k8;replace k3:=k3.ext hT (by simp;omega);replace k2:=k2.ext hT (by simp;omega);replace ab:=ab.keep hT (by simp;exact jg.2.2);replace aJ:=aJ.ow hT;clear hT;refine W ?_;have iX:Z2c (⟨4,0,0,0,0,(y:Int) / 3 % 61 - 10,m3,1,9999⟩:Hol):=by constructor<;>dsimp only<;>omega
 exact ZA (⟨4,0,0,0,0,(y:Int) / 3 % 61 - 10,m3,1,9999⟩:Hol) ⟨rfl,rfl,rfl,rfl,rfl,trivial⟩ ⟨iX,k8,k2,k3,ab,aJ⟩;rintro hh wq ⟨iX,k8,k2,k3,ab,aJ⟩;refine W ?_;refine Z0 (Z1 (vs:=[(0,agg hh)]) rfl (Zoa _)) rfl ?_;rintro bw wn hN;have lw:SlV (ob hv++[]) wn bw [hh]:=hN.slv (λb hb=>(ab.ob_le b (by simpa using hb)).2) rfl rfl (by simp [maxLen]);have hT:=Z9.stp hN;clear hN;replace k3:=k3.up hT;replace k2:=k2.up hT;replace ab:=ab.up hT;replace aJ:=aJ.trans hT.mn;clear hT;have aV:=ab.ob_le;have aX:=aJ.size;refine Z0 (ZQ (X:=[]) (base:=w5.heap.size) rfl (by decide) rfl rfl ab lw (by simp only [Xe,Xf];omega) (by simp only [Xe,Xf,maxLen];omega) aX) rfl ?_;rintro sm wn ⟨ab,hT,ib⟩;replace k2:=k2.ext hT (λh=>by have:=(aV _ h).1;omega);replace k3:=k3.ext hT (λh=>by have:=(aV _ h).1;omega);replace aJ:Stp [b3] w5 wn:=aJ.own hT (λc hc=>.inr (aV c hc).1);clear hT;have bK:=ab.ob_le;refine W ?_;refine Z5 (Zb (u:=sm) rfl rfl (Row.slv (X:=[]) ab (by simp)).cells (Row.slv (X:=[]) ab (by simp)).one k3 (by simp [cL])) ?_;rintro _ wn ⟨hT,k3⟩;replace k3:Blk wn b3 35 (cL b0 b5 b6 sm (.N) (.I 0) (.N) (.I hr)):=k3;replace k2:=k2.ext hT (by simpa using n23);replace ab:=ab.keep hT (λb hb h=>by have:=bK _ h;simp at hb;omega);replace aJ:=aJ.trans hT;clear hT;refine W ?_;refine QL (j+1,sm,hols++[hh]) ⟨by dsimp only;omega,by dsimp only;rw [Xd];simp only [Xe,Xf];omega,k2,k3,ab,?_,aJ⟩ (by dsimp only;omega);intro z hz;rcases Xg.1 hz with h|h
 exact fO z h;rw [Xk.1 h];exact iX
 . refine QO ?_
   all_goals exact QT (hv,hols) ⟨(by dsimp only;omega),k2,k3,ab,fO,aJ⟩
 rintro ⟨hv,hols⟩ w6 ⟨iG,k2,k3,ab,fO,aJ⟩;dsimp only at iG k3 ab fO ⊢;have fg:SlV (b2 :: b3 :: X) w6 hv hols:=Row.slv (X:=b2 :: b3 :: X) ab (λb hb=>by
  rcases Xb.1 hb with rfl|hb
  omega;rcases Xb.1 hb with rfl|hb
  omega;have:=hX b hb;omega)
 replace hS:=hS.ow aJ;clear ab aJ;have xh:=hS.size;have k3lt6:=k3.lt;have k2lt6:=k2.lt;refine W ?_;refine Z0h (σ:=Value×List Clo) (λq=>[(0,v),(2,pQ b2),(3,pQ b3)]) (λq w'=>q.2.length<=3/\(∀ x∈q.2,Zdq x)/\Blk w' b2 35 ((.agg (cL false false false (.N) (.N) (.I 0) (.N) (.I 0)).toArray:Value).cells.toList)/\Blk w' b3 35 (cL b0 b5 b6 hv q.1 (.I 0) (.N) (.I hr))/\Row [] w' w6.heap.size 73 q.1 q.2/\Stp [b3] w6 w') ?_ ?_
 refine Zt (σ:=Nat×Value×List Clo) (λq=>[(0,v),(2,pQ b2),(3,pQ b3),(9,.I (q.1:Int))]) (λq w'=>q.1<=3/\q.2.2.length<=q.1/\(∀ x∈q.2.2,Zdq x)/\Blk w' b2 35 ((.agg (cL false false false (.N) (.N) (.I 0) (.N) (.I 0)).toArray:Value).cells.toList)/\Blk w' b3 35 (cL b0 b5 b6 hv q.2.1 (.I 0) (.N) (.I hr))/\Row [] w' w6.heap.size 73 q.2.1 q.2.2/\Stp [b3] w6 w') (λq=>3 - q.1)
  (0,.N,[]) ⟨rfl,rfl,rfl,rfl,trivial⟩ ⟨by decide,by decide,(by simp),k2,k3,Row.nil,Stp.refl _ _⟩ ?_
 rintro ⟨j,cv,clos⟩ w7 ⟨si,ai,gR,k2,k3,ab,aJ⟩;dsimp only at si ai k3 ab ⊢;have cJ:=hs.up (hS.ow aJ);have sj:=ab.ob_le;refine W ?_;refine CM (ZK rfl rfl rfl) (ZZ [] _ l 9 4 _ (by decide) (by unfold I64;omega) cJ hl) ?_;rintro _ wn ⟨q,rfl,hq,hT⟩;replace k3:=k3.up hT;replace k2:=k2.up hT;replace ab:=ab.up hT;replace cJ:=cJ.up hT;replace aJ:=aJ.trans hT.mn;clear hT;by_cases hlt:(j:Int)<(q:Int);refine QO ?_;refine CM (ZK rfl rfl rfl) (ZZ [] _ l (10+(j:Int)) 1000000 _ (by decide) (by unfold I64;omega) cJ hl) ?_;rintro _ wn ⟨x,rfl,hx,hT⟩;replace k3:=k3.up hT;replace k2:=k2.up hT;replace ab:=ab.up hT;replace cJ:=cJ.up hT;replace aJ:=aJ.trans hT.mn;clear hT;refine W ?_;refine Z7 (vs:=[(0,.I (739616+(x:Int) % 120)),(1,.I (739616+(x:Int) % 120+(x:Int) / 120 % 6)),(2,.I (739616+(x:Int) / 720 % 130))]) rfl (Zob _ _ _) rfl ?_;have pI:Zdq ⟨739616+(x:Int) % 120,739616+(x:Int) % 120+(x:Int) / 120 % 6,739616+(x:Int) / 720 % 130⟩:=by unfold Zdq;dsimp only;omega
 generalize 739616+(x:Int) % 120=lo at pI ⊢;generalize lo+(x:Int) / 120 % 6=hi at pI ⊢;generalize 739616+(x:Int) / 720 % 130=kn at pI ⊢;refine Z0 (Z1 (vs:=[(0,agg (⟨lo,hi,kn⟩:Clo))]) rfl (Zoc _)) rfl ?_;rintro bw wn hN;have lw:SlV (ob cv++[]) wn bw [(⟨lo,hi,kn⟩:Clo)]:=hN.slv (λb hb=>(ab.ob_le b (by simpa using hb)).2) rfl rfl (by simp [maxLen]);have hT:=Z9.stp hN;clear hN;replace k3:=k3.up hT;replace k2:=k2.up hT;replace ab:=ab.up hT;replace aJ:=aJ.trans hT.mn;clear hT;have aV:=ab.ob_le;have aX:=aJ.size;refine Z0 (ZQ (X:=[]) (base:=w6.heap.size) rfl (by decide) rfl rfl ab lw (by simp only [Xe,Xf];omega) (by simp only [Xe,Xf,maxLen];omega) aX) rfl ?_;rintro cv' wn ⟨ab,hT,ib⟩;replace k2:=k2.ext hT (λh=>by have:=(aV _ h).1;omega);replace k3:=k3.ext hT (λh=>by have:=(aV _ h).1;omega);replace aJ:Stp [b3] w6 wn:=aJ.own hT (λc hc=>.inr (aV c hc).1);clear hT;have bK:=ab.ob_le;refine W ?_;refine Z5 (Zb (u:=cv') rfl rfl (Row.slv (X:=[]) ab (by simp)).cells (Row.slv (X:=[]) ab (by simp)).one k3 (by simp [cL])) ?_;rintro _ wn ⟨hT,k3⟩;replace k3:Blk wn b3 35 (cL b0 b5 b6 hv cv' (.I 0) (.N) (.I hr)):=k3;replace k2:=k2.ext hT (by simpa using n23);replace ab:=ab.keep hT (λb hb h=>by have:=bK _ h;simp at hb;omega);replace aJ:=aJ.trans hT;clear hT;refine W ?_;refine Zs (j+1,cv',clos++[(⟨lo,hi,kn⟩:Clo)]) ⟨rfl,rfl,rfl,rfl,trivial⟩ ⟨by dsimp only;omega,by dsimp only;rw [Xd];simp only [Xe,Xf];omega,(λy hy=>by rcases Xg.1 hy with h|h;exact gR y h;rw [Xk.1 h];exact pI),k2,k3,ab,aJ⟩ (by dsimp only;omega)
 . refine QO ?_
   all_goals exact QT (cv,clos) ⟨(by dsimp only;omega),gR,k2,k3,ab,aJ⟩
 rintro ⟨cv,clos⟩ w7 ⟨og,gR,k2,k3,ab,aJ⟩;dsimp only at k3 ab ⊢;have cb:SlV (b2 :: b3 :: X) w7 cv clos:=Row.slv (X:=b2 :: b3 :: X) ab (λb hb=>by
  rcases Xb.1 hb with rfl|hb
  omega;rcases Xb.1 hb with rfl|hb
  omega;have:=hX b hb;omega)
 replace fg:SlV (b2 :: b3 :: X) w7 hv hols:=fg.ext aJ (by simp) (λ_ h=>.inl h);replace hS:=hS.ow aJ;clear ab aJ;have cJ:=hs.up hS;have xi:=hS.size;have k3lt7:=k3.lt;have k2lt7:=k2.lt;by_cases cX:13<l.length;refine QO ?_;have gk:=cJ.slc (l:=13) (r:=l.length) (by omega) (Xn _);rw [Xo] at gk;refine Z5d (l:=13) rfl cJ rfl (by simp) (by omega) rfl ?_;refine W ?_;refine CL (Z90 _ (l.drop 13) _ gk (λa ha=>hl a (YaL ha))) ?_;rintro _ w8 ⟨zo,zs,xs,rfl,jo,lG,hz⟩;have aV:=hz.ob_le;have hT:=hz.2;replace k3:=k3.up hT;replace k2:=k2.up hT;have di:=hz.1;replace fg:SlV (b2 :: b3 :: (ob zs++X)) w8 hv hols:=fg.ext hT (by simp) (λb hb=>by
  simp at hb;rcases hb with rfl|rfl|hb|hb
  exact .inl (by simp);exact .inl (by simp);exact .inr (aV b hb).1;exact .inl (by simp [hb]))
 replace cb:SlV (b2 :: b3 :: (ob zs++X)) w8 cv clos:=cb.ext hT (by simp) (λb hb=>by
  simp at hb;rcases hb with rfl|rfl|hb|hb
  exact .inl (by simp);exact .inl (by simp);exact .inr (aV b hb).1;exact .inl (by simp [hb]))
 replace hS:=hS.trans hT;have eV:b3∉ob zs:=λh=>by have:=(aV _ h).1;omega
 have jG:b2∉ob zs:=λh=>by have:=(aV _ h).1;omega
 clear hT hz hs cJ;refine W ?_;refine Z5 (Z1e (o:=9) (us:=[.I zo,zs]) rfl rfl rfl rfl (by intro u hu;simp at hu;rcases hu with rfl|rfl;exact rfl;exact (Row.slv (X:=[]) di (by simp)).one) k3 (by simp [cL])) ?_;rintro _ w9 ⟨hT,k3⟩;replace k3:Blk w9 b3 35 (cL b0 b5 b6 hv cv (.I zo) zs (.I hr)):=k3;replace k2:=k2.ext hT (by simpa using n23);replace di:=di.keep hT (λb hb h=>by simp at hb;subst hb;exact eV h);replace fg:=fg.ext (X':=b2 :: b3 :: (ob zs++X)) hT (by simp) (λ_ h=>.inl h);replace cb:=cb.ext (X':=b2 :: b3 :: (ob zs++X)) hT (by simp) (λ_ h=>.inl h);replace hS:=hS.ow hT;clear hT;refine W ?_;refine Z0h (σ:=Unit) (λq=>[(2,pQ b2),(3,pQ b3)]) (λq w'=>Stp (ob zs) w9 w') ?_ ?_
 refine Zt (σ:=Nat×List Spn) (λq=>[(2,pQ b2),(3,pQ b3),(13,.I (q.1:Int))]) (λq w'=>q.1<=xs.length/\q.2.length=xs.length/\(∀ i (hi:i<q.2.length),q.1<=i->Zdp q.2[i])/\Row [] w' w7.heap.size 141 zs q.2/\Stp (ob zs) w9 w') (λq=>xs.length - q.1)
  (0,xs) ⟨rfl,rfl,rfl,trivial⟩ ⟨by dsimp only;omega,rfl,(λi hi _=>jo _ (Xc hi)),di,Stp.refl _ _⟩ ?_
 rintro ⟨j,ys⟩ wa ⟨hj,fR,cP,di,aJ⟩;dsimp only at hj fR cP di ⊢;have k3:=k3.ext aJ eV;have fQ:SlV [] wa zs ys:=Row.slv (X:=[]) di (by simp);rw [<- fR] at hj;by_cases hlt:j<ys.length;refine QO ?_;have dB:=(cP j hlt (Xn _))
 unfold Zdp at dB;refine ZDr 15 [] [14] [(0,0),(1,0),(2,1),(3,0),(4,0),(5,0),(6,1),(7,0),(8,0),(9,0),(10,1),(11,0),(12,0),(13,0),(14,2)] (λw1 ae=>?_);replace k3:=k3.up ae;replace di:=di.up ae;replace fQ:=fQ.up ae;replace aJ:=aJ.trans ae.mn;clear ae;refine D ?_;refine Jr rfl trivial (Z4r (β:=Spn) (i:=j) (y':=((ys[j].1+1065047040,ys[j].2):Spn)) rfl rfl rfl rfl rfl di hlt (by decide) rfl) rfl ?_;rintro _ wb ⟨di,hT⟩;replace aJ:=aJ.trans hT;refine D ?_;refine W ?_;refine Zs (j+1,ys.set j ((ys[j].1+1065047040,ys[j].2):Spn)) ⟨rfl,rfl,rfl,trivial⟩ ⟨by dsimp only;omega,by dsimp only;rw [X4];exact fR,?_,di,aJ⟩ (by dsimp only;omega);intro i hi cT;dsimp only at hi cT ⊢;rw [YaN (by omega)];exact cP i (by rw [X4] at hi;exact hi) (by omega)
 . refine QO ?_
   all_goals exact QT () aJ
 rintro _ wa aJ;have k3:=k3.ext aJ eV;have k2:=k2.ext aJ jG;have fg:=fg.ext (X':=b2 :: b3 :: X) aJ (λb h=>by simp [h]) (λb h=>.inl (by simp at h;rcases h with rfl|rfl|h<;>simp [*]));have cb:=cb.ext (X':=b2 :: b3 :: X) aJ (λb h=>by simp [h]) (λb h=>.inl (by simp at h;rcases h with rfl|rfl|h<;>simp [*]));replace hS:=hS.own aJ (λc hc=>.inr (by have:=(aV _ hc).1;omega));have oh:zs.oneCell'=true:=(Row.slv (X:=[]) di (by simp)).one;clear aJ;refine W ?_;refine SB (us:=cL b0 b5 b6 hv cv (.I zo) zs (.I hr)) (by intro u hu;simp [cL] at hu;rcases hu with rfl|rfl|rfl|rfl|rfl|rfl|rfl|rfl|rfl|rfl|rfl<;>first|exact rfl|exact oh|exact fg.one|exact cb.one) k2 ?_;rintro _ wb ⟨hT,k2⟩;refine W ?_;refine J3 rfl rfl rfl k2 rfl ?_;exact .mk ⟨⟨[b0,false,false,false,false,b5,b6],hols,clos⟩,hv,cv,.I zo,zs,.I hr,rfl,⟨rfl,oh,rfl⟩,⟨⟨rfl,fO,by dsimp only;omega⟩,⟨b0,b5,b6,rfl⟩,iG,og,gR⟩,fg.ext hT (by simp) (λb h=>.inl (by simp [h])),cb.ext hT (by simp) (λb h=>.inl (by simp [h])),hS.ow hT⟩;refine QO ?_;refine CM (ZN rfl) (Z90 _ [] _ (Row.slv (X:=[]) (Row.nil (base:=0) (T:=0)) (by simp)) (by simp)) ?_;rintro _ w8 ⟨zo,zs,xs,rfl,jo,lG,hz⟩;have aV:=hz.ob_le;have hT:=hz.2;replace k3:=k3.up hT;replace k2:=k2.up hT;have di:=hz.1;replace fg:SlV (b2 :: b3 :: (ob zs++X)) w8 hv hols:=fg.ext hT (by simp) (λb hb=>by
  simp at hb;rcases hb with rfl|rfl|hb|hb
  exact .inl (by simp);exact .inl (by simp);exact .inr (aV b hb).1;exact .inl (by simp [hb]))
 replace cb:SlV (b2 :: b3 :: (ob zs++X)) w8 cv clos:=cb.ext hT (by simp) (λb hb=>by
  simp at hb;rcases hb with rfl|rfl|hb|hb
  exact .inl (by simp);exact .inl (by simp);exact .inr (aV b hb).1;exact .inl (by simp [hb]))
 replace hS:=hS.trans hT;have eV:b3∉ob zs:=λh=>by have:=(aV _ h).1;omega
 have jG:b2∉ob zs:=λh=>by have:=(aV _ h).1;omega
 clear hT hz hs cJ;refine W ?_;refine Z5 (Z1e (o:=9) (us:=[.I zo,zs]) rfl rfl rfl rfl (by intro u hu;simp at hu;rcases hu with rfl|rfl;exact rfl;exact (Row.slv (X:=[]) di (by simp)).one) k3 (by simp [cL])) ?_;rintro _ w9 ⟨hT,k3⟩;replace k3:Blk w9 b3 35 (cL b0 b5 b6 hv cv (.I zo) zs (.I hr)):=k3;replace k2:=k2.ext hT (by simpa using n23);replace di:=di.keep hT (λb hb h=>by simp at hb;subst hb;exact eV h);replace fg:=fg.ext (X':=b2 :: b3 :: (ob zs++X)) hT (by simp) (λ_ h=>.inl h);replace cb:=cb.ext (X':=b2 :: b3 :: (ob zs++X)) hT (by simp) (λ_ h=>.inl h);replace hS:=hS.ow hT;clear hT;refine W ?_;refine Z0h (σ:=Unit) (λq=>[(2,pQ b2),(3,pQ b3)]) (λq w'=>Stp (ob zs) w9 w') ?_ ?_
 refine Zt (σ:=Nat×List Spn) (λq=>[(2,pQ b2),(3,pQ b3),(13,.I (q.1:Int))]) (λq w'=>q.1<=xs.length/\q.2.length=xs.length/\(∀ i (hi:i<q.2.length),q.1<=i->Zdp q.2[i])/\Row [] w' w7.heap.size 141 zs q.2/\Stp (ob zs) w9 w') (λq=>xs.length - q.1)
  (0,xs) ⟨rfl,rfl,rfl,trivial⟩ ⟨by dsimp only;omega,rfl,(λi hi _=>jo _ (Xc hi)),di,Stp.refl _ _⟩ ?_
 rintro ⟨j,ys⟩ wa ⟨hj,fR,cP,di,aJ⟩;dsimp only at hj fR cP di ⊢;have k3:=k3.ext aJ eV;have fQ:SlV [] wa zs ys:=Row.slv (X:=[]) di (by simp);rw [<- fR] at hj;by_cases hlt:j<ys.length;refine QO ?_;have dB:=(cP j hlt (Xn _))
 unfold Zdp at dB;refine ZDr 15 [] [14] [(0,0),(1,0),(2,1),(3,0),(4,0),(5,0),(6,1),(7,0),(8,0),(9,0),(10,1),(11,0),(12,0),(13,0),(14,2)] (λw1 ae=>?_);replace k3:=k3.up ae;replace di:=di.up ae;replace fQ:=fQ.up ae;replace aJ:=aJ.trans ae.mn;clear ae;refine D ?_;refine Jr rfl trivial (Z4r (β:=Spn) (i:=j) (y':=((ys[j].1+1065047040,ys[j].2):Spn)) rfl rfl rfl rfl rfl di hlt (by decide) rfl) rfl ?_;rintro _ wb ⟨di,hT⟩;replace aJ:=aJ.trans hT;refine D ?_;refine W ?_;refine Zs (j+1,ys.set j ((ys[j].1+1065047040,ys[j].2):Spn)) ⟨rfl,rfl,rfl,trivial⟩ ⟨by dsimp only;omega,by dsimp only;rw [X4];exact fR,?_,di,aJ⟩ (by dsimp only;omega);intro i hi cT;dsimp only at hi cT ⊢;rw [YaN (by omega)];exact cP i (by rw [X4] at hi;exact hi) (by omega)
 . refine QO ?_
   all_goals exact QT () aJ
 rintro _ wa aJ;have k3:=k3.ext aJ eV;have k2:=k2.ext aJ jG;have fg:=fg.ext (X':=b2 :: b3 :: X) aJ (λb h=>by simp [h]) (λb h=>.inl (by simp at h;rcases h with rfl|rfl|h<;>simp [*]));have cb:=cb.ext (X':=b2 :: b3 :: X) aJ (λb h=>by simp [h]) (λb h=>.inl (by simp at h;rcases h with rfl|rfl|h<;>simp [*]));replace hS:=hS.own aJ (λc hc=>.inr (by have:=(aV _ hc).1;omega));have oh:zs.oneCell'=true:=(Row.slv (X:=[]) di (by simp)).one;clear aJ;refine W ?_;refine SB (us:=cL b0 b5 b6 hv cv (.I zo) zs (.I hr)) (by intro u hu;simp [cL] at hu;rcases hu with rfl|rfl|rfl|rfl|rfl|rfl|rfl|rfl|rfl|rfl|rfl<;>first|exact rfl|exact oh|exact fg.one|exact cb.one) k2 ?_;rintro _ wb ⟨hT,k2⟩;refine W ?_;refine J3 rfl rfl rfl k2 rfl ?_;exact .mk ⟨⟨[b0,false,false,false,false,b5,b6],hols,clos⟩,hv,cv,.I zo,zs,.I hr,rfl,⟨rfl,oh,rfl⟩,⟨⟨rfl,fO,by dsimp only;omega⟩,⟨b0,b5,b6,rfl⟩,iG,og,gR⟩,fg.ext hT (by simp) (λb h=>.inl (by simp [h])),cb.ext hT (by simp) (λb h=>.inl (by simp [h])),hS.ow hT⟩
end Go.Proofs.YtipfkbkkndacjaaGreatDoor
namespace Go.Eng
open Go Go.RowKit Go.Proofs
theorem Z7p:∀ {e:Env} {t:Nat} {v:Value},look e t=some v->(t,v)∈e
 | (k, u) :: r, t, v, h => by
   rw [Z1P] at h;by_cases hk:k=t;subst hk;simp at h;subst h;simp;rw [if_neg hk] at h;exact XL _ (Z7p h)
theorem Has.of {n:Nat} {e:Env} {a:Act} (h1:a.defers=[]) (h2:a.tmps.size=n) (h3:∀ p∈e,a.tmps.getD p.1 undef=p.2):Has n e a:=⟨h1,h2,λt v h=>h3 (t,v) (Z7p h)⟩
section
variable {P:Program} {n:Nat} {Q:Exit->Act->World->Prop} {e:Env} {w:World} {ops:Array Oper} {rest:List Oper} {ty:TypeId} {pos:String} {af:Array Edge} {ds:List Deferred}
theorem Zaj {fn:Func} {ic:Frame} {cs:List Frame} {u':FrameMode} {R:Ending->FrameMode->World->Prop} {c:Code} {a:Act} (ha:Has n e a) (h:WC P n c (bodyPost P fn (λx w=>R x u' w)) e w) :
 c.wpS P (bodyPostS P fn ic cs R) a ({ ic with mode:=u' } :: cs) w:=by
 refine wpS_of_wp (wp_mono (h.h a ha) λex a' w' hq=>?_);cases ex with
 | normal=>obtain ⟨hd,v,hr,hR⟩:=hq;exact ⟨hd,u',rfl,v,hr,hR⟩
 | ret=>obtain ⟨hd,v,hr,hR⟩:=hq;exact ⟨hd,u',rfl,v,hr,hR⟩
 | panic ch=>obtain ⟨hd,hR⟩:=hq;exact ⟨hd,u',rfl,hR⟩
 | exit i=>exact hq.elim
 | goto l=>exact hq.elim
 | outgrown=>exact ⟨u',hq⟩
theorem Zbw {f:FuncId} {fn:Func} {c:Code} {args:Array Value} {w} {R:Ending->World->Prop} {n:Nat} (hf:P.funcs[f]?=some fn) (hb:fn.body=some c)
 (hn:fn.ntmps=n) (hs:Nat.ble args.size n=true) (h:WC P n c (bodyPostD P fn R) (Z59 args.toList 0) w):Calls P f args w R:=by
 refine calls_of_wp_defers hf hb (h.h _ ?_);rw [hn];have cT:args.size<=n:=XZ hs;refine ⟨rfl,by simp;omega,λt v hv=>?_⟩;obtain ⟨_,h2⟩:=Z3I _ _ _ _ hv;simp only [Nat.sub_zero] at h2;have hlt:t<args.size:=by
  have:=(Xz.1 h2).1;simpa using this
 have:args[t]?=some v:=by simpa using h2
 have h3:(args++Array.replicate (n - args.size) undef)[t]?=some v:=by
  rw [XY hlt];exact this
 simp [XD,h3]
theorem Z9u {f:FuncId} {fn:Func} {c:Code} {a0 a1:Value} {w} {R:Ending->World->Prop} {n:Nat} (hf:P.funcs[f]?=some fn) (hb:fn.body=some c)
 (hn:fn.ntmps=n) (hs:Nat.ble 2 n=true) (h:WC P n c (bodyPostD P fn R) [(0,a0),(1,a1)] w):Calls P f #[a0,a1] w R:=Zbw hf hb hn hs h
theorem Zlb {y:Code} {t:Operand} {fv:Fn} {cap:Array Value} (hc:ev e t=some (.func fv #[] cap)) {ts:Array TypeId}
 (h:WCD [{ target:=.fn fv cap,args:=#[] }] P n y Q e w) :
 WL P n ops (Exit.then (λa w=>y.wp P Q a w) Q) [⟨none,.defer { callee:=.value t,args:=#[],argTypes:=ts },ty,pos,af,none⟩] e w:=by
 refine ⟨λa ha=>?_⟩;refine wpList_plain rfl (λK hK=>?_);unfold Oper.wp;have he:(execOp a.eval ⟨none,.defer { callee:=.value t,args:=#[],argTypes:=ts },ty,pos,af,none⟩).run P w=.ok (.defer { target:=.fn fv cap,args:=#[] }) w:=by
  simp [execOp,resolve,ha.ev hc,Deferred.ofValue]
 rw [he];simp only [Oper.upon];refine hK _ _ ?_;have hd:({ a with defers:={ target:=.fn fv cap,args:=#[] } :: a.defers }:Act)=Z1x [{ target:=.fn fv cap,args:=#[] }] a:=by
  unfold Z1x;rw [ha.defers];rfl
 show wpList P ops _ [] (Act.put { a with defers:=_ } none undef) w;rw [hd];exact wpList_nil (h.h a ha)
theorem Zhq {d:Nat} {f:Nat} {fn:Func} {xs:Array Operand} {ts:Array TypeId} {vs:Array Value} {c:Operand} {ch:List PanicEntry} {F:World->Prop} [hf:Fun P f fn]
 (hc:ev e c=some (.func (.func f) #[] #[])) (hv:∀ a,Has n e a->xs.map a.eval=vs) (h:Calls P f vs w (λe w'=>e=.panicked ch/\F w')) (hd:Nat.blt d n=true) (k:∀ w',F w'->WQ n Q (.panic ch) e w') :
 WL P n ops Q (⟨some d,.call { callee:=.value c,args:=xs,argTypes:=ts },ty,pos,af,none⟩ :: rest) e w:=
 ZaV (G:=λ_ _=>False) (F:=λch' w'=>ch'=ch/\F w') (Z89 hc hv (h.mono λe w' ⟨h1,h2⟩=>by rw [h1];exact .pan ⟨rfl,h2⟩)) hd (λch' w' ⟨h1,h2⟩=>by subst h1;exact k w' h2) (λ_ _ h=>h.elim)
theorem Z6S {t b T:Nat} {D:TypeDesc} {v:Value} [hu:Und P t D] (hA:Z0K D=false) (hb:Blk w b T [v]):(loadVar t ⟨b,0,none⟩).run P w=.ok v w:=by
 have:=hb.cell (j:=0) rfl;simp [loadVar,Und.isAgg,hA,this]
theorem Z6T {fn:Func} {a:Act} {t1 t2 t3 T1 T2 T3 b1 b2 b3 S1 S2 S3:Nat} {D1 D2 D3:TypeDesc} {v1 v2 v3:Value} (hr:fn.results=#[.cell t1 T1,.cell t2 T2,.cell t3 T3]) [tk:Und P T1 D1] [vF:Und P T2 D2] [yG:Und P T3 D3] (mz:Z0K D1=false) (dr:Z0K D2=false) (xj:Z0K D3=false)
 (h1:a.tmps.getD t1 undef=pQ b1) (h2:a.tmps.getD t2 undef=pQ b2) (h3:a.tmps.getD t3 undef=pQ b3)
 (e1:Blk w b1 S1 [v1]) (e2:Blk w b2 S2 [v2]) (e3:Blk w b3 S3 [v3]):(results fn a.tmps).run P w=.ok (.tuple #[v1,v2,v3]) w:=by
 rw [XD] at h1 h2 h3;simp [results,hr,h1,h2,h3,asAddr,Z6S mz e1,Z6S dr e2,Z6S xj e3]
theorem Z92 {fn fn':Func} {tmps:Array Value} {R:Ending->World->Prop} {f:FuncId} {cap:Array Value} {u:FrameMode} (hu:u≠.run) [hf:Fun P f fn'] {G:Value->FrameMode->World->Prop}
 (h:CallsD P f cap u w λe u' w'=>∃ v,e=.returned v/\G v u' w') (hk:∀ v u' w',G v u' w'->settle u'=.returning/\∃ r,(results fn tmps).run P w'=.ok r w'/\R (.returned r) w') :
 Leaves P fn tmps R [{ target:=.fn (.func f) cap,args:=#[] }] u w:=by
 refine leaves_cons (f:=f) (args:=cap) hu ?_ (h.mono λe u' w' ⟨v,h1,h2⟩=>?_);simp [invoke];exact hf.enters cap w;subst h1;obtain ⟨h3,r,h4,h5⟩:=hk v u' w' h2;show Leaves P fn tmps R [] (settle u') w';rw [h3];exact ⟨r,h4,h5⟩
theorem Z56 {d:Option Nat} {g:Option (Nat×Bool)} {x:Operand} {t s:TypeId} {u v:Value} (hx:ev e x=some u) (hb:∀ w,(Instr.typeAssert u t s true).run P w=.ok v w):PR P n ⟨d,.typeAssert x t s true,ty,pos,af,g⟩ e w v:=
 ⟨λa ha=>by simp [execOp,ha.ev hx,hb]⟩
theorem Zbx {d:Option Nat} {g:Option (Nat×Bool)} {f:Nat} {x y z r:Operand} {v u s q:Value} (hx:ev e x=some v) (hy:ev e y=some u) (hz:ev e z=some s) (hr:ev e r=some q):PR P n ⟨d,.makeFunc (.func f) #[] #[x,y,z,r],ty,pos,af,g⟩ e w (.func (.func f) #[] #[v,u,s,q]):=
 ⟨λa ha=>by simp [execOp,Instr.makeFunc,ha.ev hx,ha.ev hy,ha.ev hz,ha.ev hr]⟩
end
theorem Z0k {α β:Type} {x:Out α} {k:α->Nat->Nat->Out β} {y:β} {i o:Nat} (h:x.bind k=.ok y i o):∃ a i1 o1,x=.ok a i1 o1/\k a i1 o1=.ok y i o:=by
 cases x with
 | err a c=>simp [Out.bind] at h
 | ok a i1 o1=>exact ⟨a,i1,o1,rfl,h⟩
theorem Z6b {l:List Tkn} {i o:Nat} {s:Str} {i' o':Nat} (h:Z2r l i o=.ok s i' o'):i<i':=by
 unfold Z2r at h;split at h;simp [Z1j] at h;obtain ⟨a,i1,o1,h1,h2⟩:=Z0k h;have:=Z1u h1;simp only [Out.ok.injEq] at h2;omega
theorem Zak {l:List Tkn} {i o:Nat} {x:Nd} {i' o':Nat} (h:Z24 l i o=.ok x i' o'):i<i':=by
 have h1:=Z9K l i o;rw [h] at h1;have:=Z26 l _ _ _ _ _ _ _ h1;simp only [Call.lo] at this;omega
theorem Z4h {α:Type} {l:List Tkn} {wd:Str} {z:α} {rd:Nat->Nat->Out α} {i o:Nat} {x:α} {i' o':Nat} (hr:∀ i o x i' o',rd i o=.ok x i' o'->i<i') (h:Z1G l wd z rd i o=.ok x i' o'):i<=i':=by
 unfold Z1G at h;split at h;obtain ⟨a,i1,o1,h1,h2⟩:=Z0k h;obtain ⟨a2,i2,o2,h3,h4⟩:=Z0k h2;have:=hr _ _ _ _ _ h1;have:=(Z2s h3).1;simp only [Out.ok.injEq] at h4;omega;simp only [Out.ok.injEq] at h;omega
theorem Zdr {l:List Tkn} {i o:Nat} {r:RuleM} {i' o':Nat} (h:Z9I l i o=.ok r i' o'):i<i':=by
 unfold Z9I at h;obtain ⟨a1,i1,o1,h1,h⟩:=Z0k h;obtain ⟨a2,i2,o2,h2,h⟩:=Z0k h;obtain ⟨a3,i3,o3,h3,h⟩:=Z0k h;obtain ⟨a4,i4,o4,h4,h⟩:=Z0k h;obtain ⟨a5,i5,o5,h5,h⟩:=Z0k h;split at h;obtain ⟨a6,i6,o6,h6,h⟩:=Z0k h;obtain ⟨a7,i7,o7,h7,h⟩:=Z0k h;split at h;obtain ⟨a8,i8,o8,h8,h⟩:=Z0k h;obtain ⟨a9,i9,o9,h9,h⟩:=Z0k h;obtain ⟨a10,i10,o10,fq,h⟩:=Z0k h;obtain ⟨a11,i11,o11,ml,h⟩:=Z0k h;have:=(Z2s h1).1;have:=Z6b h2;have:=(Z2s h3).1;have:=(Z1u h4).2.1;have:=(Z2s h5).1;have:=Z4h (λ_ _ _ _ _ h=>Z6b h) h6;have:=Z4h (λ_ _ _ _ _ h=>Zak h) h7;have:=Z4h (λ_ _ _ _ _ h=>Zak h) h8;have:=Z4h (λ_ _ _ _ _ h=>Z6b h) h9;have:=Z4h (λ_ _ _ _ _ h=>Z6b h) fq;have:=(Z2s ml).1;simp only [Out.ok.injEq] at h;omega;simp [Z1j] at h;simp [Z1j] at h
end Go.Eng
namespace Go.Proofs.YtipfkbkkndacjaaGreatDoor
open Go Go.Eng Go.RowKit Go.Proofs
theorem Zds (r:Rul) (p:Option Addr) (a c:Nat) (p':Option Addr) (a' c':Nat) (w):(Instr.buildSlice 90 1 #[(0,.agg (rlC r (.slice p a c) (.slice p' a' c')).toArray)]).run Tryz.prog w=.ok (.slice (some ⟨w.heap.size,0,none⟩) 1 1) (w.alloc (.cells (rlC r (.slice p a c) (.slice p' a' c')).toArray 99)):=by kernel_rfl
theorem Zlc {X:List Nat} {w} {r:Rul} {cs:List Value} (h:Z6.rep X w r cs):∀ i (hi:i < [r].length) (cH:i < [cs].length),Z6.rep X w [r][i] [cs][i]
 | 0,_,_=>h
theorem ZeR (X:List Nat) (b:Nat) (tv:Value) (l:List Tkn) (hL:Z3X l) (m:Int) (i o f:Nat) (w:World) (aW:b≠2) (bP:b∈X) (hX:∀ c∈X,c<w.heap.size) (hm:w.cell? ⟨2,0,none⟩=some (.I m)) (hp:Pd w b tv l i o) (hf:l.length<=i+f) :
 Calls Tryz.prog 90 #[pQ b] w (PC b w tv l (Z25 l f [] i o) (λrs v w'=>SlV X w' v (rs.map RuleM.rul))):=by
 have ba:=hp.2.1;have oR:=hm;have lw:=hp.lt;have j9:=hp.2.2.2.1;generalize hR:Z25 l f [] i o=R;refine cW1 22 Tryz.func90 ?_;refine W ?_
 refine Zt (σ:=Nat×List RuleM×Value×Nat×Nat) (λq=>[(0,pQ b),(3,q.2.2.1)])
  (λq w'=>Z25 l q.1 q.2.1 q.2.2.2.1 q.2.2.2.2=R/\l.length<=q.2.2.2.1+q.1/\q.2.1.length<=q.2.2.2.1/\Pd w' b tv l q.2.2.2.1 q.2.2.2.2/\Row X w' w.heap.size 99 q.2.2.1 (q.2.1.map RuleM.rul)/\w'.cell? ⟨2,0,none⟩=some (.I m)/\Stp [b] w w')
  (λq=>q.1) (f,[],.N,i,o) ⟨rfl,rfl,trivial⟩ ⟨hR,hf,Xp _,hp,Row.nil,hm,Stp.refl _ _⟩ ?_
 clear hR hp hm hf;rintro ⟨f1,rs,rv,i1,o1⟩ w1 ⟨hR,hf,jk,hp,ab,hm,hS⟩;dsimp only at hR hf jk hp ab ⊢;have bM:=hp.i_lt;obtain ⟨f1,rfl⟩:∃ f',f1=f'+1:=⟨f1 - 1,by omega⟩
 simp only [Z25] at hR;refine W ?_;refine ZDr 12 [] [] [(0,0),(1,0),(2,0),(3,1),(4,0),(5,0),(6,0),(7,1),(8,0),(9,0),(10,1),(11,0)] (λw1 ae=>?_);replace jv:=ae;replace hp:=hp.up ae;replace ab:=ab.up ae;replace hm:=ae.cell (by simp) hm;replace hS:=hS.trans ae.mn;clear ae jv;obtain ⟨dq,bA,gV,bZ,fz⟩:=id hp;have jE:=Z6w gV;refine D ?_;by_cases hk:(cur l i1).kind=0;rw [if_pos hk] at hR;subst hR;rw [jE] at hk;refine QO ?_;refine WR ?_;refine PC.ok ?_ hp hS;exact ab.slv hX;rw [if_neg hk] at hR;rw [jE] at hk;refine QO ?_;have lM:∀ c∈ob rv++X,c<w1.heap.size:=λc hc=>by
  rcases Xg.1 hc with h|h
  exact (ab.ob_le c h).2;exact Xa (hX c h) hS.size
 have bF:=Zk9 (ob rv++X) b tv l hL m i1 o1 _ aW (by simp [bP]) lM hm hp;rcases hU:Z9I l i1 o1 with ⟨a,c⟩|⟨r,i2,o2⟩
 rw [hU] at hR;simp only [Out.bind] at hR;subst hR;refine ZV rfl (ZN rfl) (PC.falls bF hU hS) rfl ?_;intro wz bR;focus repeat'(first|refine Zh ?_|refine Zg ?_)
 refine ZE ?_;exact PC.err bR;rw [hU] at hR;simp only [Out.bind] at hR;have hlt:=Zdr hU;refine CL (PC.goes bF hU) ?_;rintro _ w3 ⟨⟨ki,kd,rfl,gM,dY⟩,fY,hT⟩;replace ab:=ab.ext (X':=X) hT (λc hc=>by
  simp only [Xk] at hc;subst hc;exact ⟨bP,λh=>by have:=(ab.ob_le c h).1;omega⟩) (λc hc=>.inl hc)
 replace hm:=Jy hm aW hT;replace hS:=hS.trans hT;have sq:∀ c∈ob rv++X,c<w3.heap.size:=λc hc=>Xa (lM c hc) hT.size;clear hT hp lM bF dq bA;obtain ⟨p1,c1,rfl,-⟩:=id gM;obtain ⟨p2,c2,rfl,-⟩:=id dY;refine Z0 (Z1 (vs:=[(0,.agg (rlC r.rul (.slice p1 r.rul.cnd.kids.length c1) (.slice p2 r.rul.due.kids.length c2)).toArray)]) rfl (Zds _ _ _ _ _ _ _)) rfl ?_;intro bv w4 hN;have an:SlV (ob rv++X) w4 bv [r.rul]:=hN.slvG (css:=[rlC r.rul _ _]) sq rfl rfl (by simp) (Zlc ⟨_,_,rfl,gM,dY⟩) (by simp [maxLen]);have hT:=Z9.stp hN;replace fY:=fY.up hT;replace ab:=ab.up hT;replace hm:=hT.cell (by simp) hm;replace hS:=hS.trans hT.mn;clear hT hN gM dY;have pg:=hS.size;refine Z0 (ZQ (X:=X) (base:=w.heap.size) rfl (by decide) rfl rfl ab an (by simp only [Xe,Xf,Xu];omega) (by simp only [Xe,Xf,Xu,maxLen];omega) pg) rfl ?_;rintro rv' w5 ⟨aC,hT,ce⟩;have eM:∀ c∈ob rv,w.heap.size<=c:=λc hc=>(ab.ob_le c hc).1;have lj:(2:Nat)∉ob rv:=λh=>by have:=eM _ h;have:=block_lt_of_cell oR;simp at this;omega
 replace hm:=hT.cell lj hm;replace hS:=hS.own hT (λc hc=>.inr (eM c hc));replace fY:Pd w5 b tv l i2 o2:=by
  obtain ⟨g1,g2,g3,g4,g5⟩:=fY;exact ⟨g1.ext hT (λh=>by have:=eM b h;omega),ba.ext hS (λc hc=>hc) (λc hc=>.inl hc),g3,g4,g5⟩
 clear hT;refine W ?_;refine QL (f1,rs++[r],rv',i2,o2) ⟨hR,by dsimp only;omega,by simp;omega,fY,?_,hm,hS⟩ (by dsimp only;omega);rw [XR];exact aC
theorem ZeS (X:List Nat) (v:Value) (l:List Int) (m:Nat) (w) (hs:SlV X w v l) (hl:∀ a∈l,I64 a) (hm:m<=100000):CC 65 #[v,.I (m:Int)] w λr w'=>ZF 3 w w' r (l.take m):=by
 have aU:=hs.max;refine cW2 14 Tryz.func65 ?_;refine W ?_;have kJ:min (l.length:Int) (m:Int)=((min l.length m:Nat):Int):=by omega
 refine Z8 (Z1Y (r:=min l.length m) rfl hs rfl (by omega) (Nat.min_le_left _ _)) rfl ?_;have ay:SlV X w _ (l.take (min l.length m)):=hs.slc (Xp (min l.length m)) (Nat.min_le_left _ _);refine Z0 (JE rfl (by decide) rfl rfl (ZF.nil (w:=w)) (ys:=l.take (min l.length m)) (ay.wk (by simp [ob])) (by simp;omega) (by simp [maxLen];omega)) rfl ?_;rintro v' w1 ⟨ab,-,-⟩;refine W ?_;refine WR ?_;refine .mk ?_;have e:l.take (min l.length m)=l.take m:=by rw [Nat.min_comm,<- YaI,Xo]
 rw [XN,e] at ab;exact ab
theorem Zld (p:Option Addr) (l c:Nat) (w):(Instr.build 146 #[(0,.slice p l c)]).run Tryz.prog w=.ok (.agg #[.slice p l c,.I 0]) w:=by kernel_rfl
theorem Zhr (X:List Nat) (lv:Value) (l:List Int) (w:World) (hX:∀ b∈X,b<w.heap.size) (hs:SlV [] w lv l) (hl:∀ a∈l,I64 a):CC 36 #[lv] w λr w'=>∃ rs:List RuleM,rs.length<=4/\(∀ x∈rs,Z8t x)/\SlV X w' r (rs.map RuleM.rul)/\Stp [] w w':=by
 refine cW1 24 Tryz.func36 ?_;refine W ?_;refine CM (Zf rfl rfl) (ZeS [] lv l 120 _ hs hl (by decide)) ?_;rintro v w1 dz;have ay:=dz.slv (X:=[]) (by simp);have hS:=dz.2;have ea:∀ a∈l.take 120,I64 a:=λa ha=>hl a (Yav ha);clear dz;generalize l.take 120=l' at *;obtain ⟨p,c,rfl,-⟩:=id ay;refine W ?_;apply Z7 (vs:=[(0,.slice p l'.length c)]) rfl (Zld _ _ _) rfl;refine Z0 (Zq rfl) rfl ?_;rintro _ w2 ⟨bm,rfl,lk,az,hT⟩;replace az:Mk3 w2 bm (.slice p l'.length c) 0:=az;replace ay:SlV [bm] w2 (.slice p l'.length c) l':=ay.ext hT (by simp) (λb h=>.inr (by simp at h;omega));have lw:w.heap.size<=bm:=Xh hS.size lk;replace hS:=hS.trans hT;clear hT lk;refine W ?_;refine CM (Zf rfl rfl) (Z0p bm _ l' _ 5 _ (by decide) (by omega) az ay ea) ?_;rintro _ w3 ⟨k,rfl,hk,az,hT⟩;replace ay:=ay.ext hT (λ_ h=>h) (λ_ h=>.inl h);have hlt:=az.lt;refine W ?_
 refine Zt (σ:=Nat×List RuleM×Value×Nat) (λq=>[(3,pQ bm),(4,q.2.2.1),(5,.I (k:Int)),(6,.I (q.1:Int))])
  (λq w'=>q.1<=k/\q.2.1.length=q.1/\(∀ x∈q.2.1,Z8t x)/\q.2.2.2<=1+300 * q.1/\Mk3 w' bm (.slice p l'.length c) q.2.2.2/\Row (bm :: X) w' w3.heap.size 99 q.2.2.1 (q.2.1.map RuleM.rul)/\Stp [bm] w3 w')
  (λq=>k - q.1) (0,[],.N,1) ⟨rfl,rfl,rfl,rfl,trivial⟩ ⟨Xp _,rfl,by simp,by simp,az,Row.nil,Stp.refl _ _⟩ ?_
 have am:=hS.ow hT;have su:=ay;clear az ay hS hT;rintro ⟨i,rs,v,at_⟩ w4 ⟨hi,ai,aB,jq,az,ab,hS⟩;dsimp only at hi ai aB jq az ab ⊢;have bH:=hS.size;by_cases iL:i<k;refine QO ?_;have lM:∀ b∈ob v++bm :: X,b<w4.heap.size:=λb hb=>by
  rcases Xg.1 hb with h|h
  exact (ab.ob_le b h).2;rcases Xb.1 h with rfl|h
  omega;have:=hX b h;have:=am.size;omega
 refine CM (ZN rfl) (ZgF (ob v++bm :: X) bm _ l' _ _ az (su.ext hS (λ_ h=>h) (λ_ h=>.inl h)) ea (by omega) lM) ?_;rintro _ w5 ⟨r,i',⟨ki,kd,rfl,gM,dY⟩,hr,az,cH,hT⟩;replace ab:=ab.ext (X':=bm :: X) hT (λb hb=>by
  simp only [Xk] at hb;subst hb;exact ⟨by simp,λh=>by have:=(ab.ob_le b h).1;omega⟩) (λb hb=>.inl hb)
 have sw:∀ b∈ob v++bm :: X,b<w5.heap.size:=λb hb=>Xa (lM b hb) hT.size;replace hS:=hS.trans hT;clear hT lM;obtain ⟨p1,c1,rfl,-⟩:=id gM;obtain ⟨p2,c2,rfl,-⟩:=id dY;refine Z0 (Z1 (vs:=[(0,.agg (rlC r.rul (.slice p1 r.rul.cnd.kids.length c1) (.slice p2 r.rul.due.kids.length c2)).toArray)]) rfl (Zds _ _ _ _ _ _ _)) rfl ?_;intro bv w6 hN;have an:SlV (ob v++bm :: X) w6 bv [r.rul]:=hN.slvG (css:=[rlC r.rul _ _]) sw rfl rfl (by simp) (Zlc ⟨_,_,rfl,gM,dY⟩) (by simp [maxLen]);have hT:=Z9.stp hN;replace az:=az.up hT;replace ab:=ab.up hT;replace hS:=hS.trans hT.mn;clear hT hN gM dY;have pg:=hS.size;have jk:(rs.map RuleM.rul).length=i:=by rw [Xu,ai]
 refine Z0 (ZQ (X:=bm :: X) (base:=w3.heap.size) rfl (by decide) rfl rfl ab an (by simp only [Xe,Xf,Xu];omega) (by simp only [Xe,Xf,Xu,maxLen];omega) pg) rfl ?_;rintro rv' w7 ⟨aC,hT,ce⟩;have eM:∀ c∈ob v,w3.heap.size<=c:=λc hc=>(ab.ob_le c hc).1;replace az:=az.ext hT (λh=>by have:=eM _ h;omega);replace hS:=hS.own hT (λc hc=>.inr (eM c hc));clear hT;refine W ?_;refine QL (i+1,rs++[r],rv',i') ⟨iL,by simp [ai],?_,Xh cH (Xh (Ybk jq 300) (Nat.le_of_eq (by rw [Nat.mul_add,Yau]))),az,?_,hS⟩ (by dsimp only;omega);intro x hx;rcases Xg.1 hx with h|h
 exact aB x h;simp at h;subst h;exact hr;rw [XR];exact aC;refine QO ?_;refine WR ?_;refine .mk ⟨rs,by omega,aB,(ab.slv (λb hb=>by
  rcases Xb.1 hb with rfl|h
  exact hlt;have:=hX b h;have:=am.size;omega)).wk (by simp;exact λ_ h=>.inr h),am.ow hS⟩
abbrev rlN (s:Str):Rul:=⟨s,0,s,.mk 2 0 [] [],.mk 3 0 [] [],[],[]⟩
theorem ckN (s:Str):decide (Z0M (rlN s)=0)=ZB s:=by
 have m1:Z1H (.mk 2 0 [] []) 2=0:=by
  unfold Z1H;rw [show Zw (.mk 2 0 [] [])=1 by simp only [Z0T,Nd.kids,XM];rfl,show Zd (.mk 2 0 [] [])=2 by simp only [Z0S,Nd.kids,Nd.kind,Nd.num,Nd.word,XM];rfl];decide
 have m2:Z1H (.mk 3 0 [] []) 3=0:=by
  unfold Z1H;rw [show Zw (.mk 3 0 [] [])=1 by simp only [Z0T,Nd.kids,XM];rfl,show Zd (.mk 3 0 [] [])=3 by simp only [Z0S,Nd.kids,Nd.kind,Nd.num,Nd.word,XM];rfl];decide
 have hn:Je (rlN s)=ZB s:=by simp [Je]
 unfold Z0M;rw [hn,m1,m2];cases ZB s<;>simp
theorem Zdt (k:Int) (w):(Instr.build 97 #[(0,.I k)]).run Tryz.prog w=.ok (.agg #[.I k,.I 0,str [],.N]) w:=by kernel_rfl
theorem Z2i (s:Str) (m:Int) (w) (hF:SlV [] w Z21 Ze) (hm:w.cell? ⟨2,0,none⟩=some (.I m)) :
 CC 191 #[str s] w λr w'=>r=.B (ZB s)/\Stp [] w w':=by
 refine cW1 12 Tryz.func191 ?_;refine W ?_;apply Z7 (vs:=[(0,.I 2)]) rfl (Zdt _) rfl;apply Z7 (vs:=[(0,.I 3)]) rfl (Zdt _) rfl;apply Z7 (vs:=[(0,str s),(2,str s),(3,.agg #[.I 2,.I 0,str [],.N]),(4,.agg #[.I 3,.I 0,str [],.N])]) rfl (Zkk _ _ _ _ _ _ _ _ _ _ _ _ _ _) rfl;refine Z0 Z2 rfl ?_;rintro _ w1 ⟨b,rfl,hb,e0,hT⟩;refine SB (us:=rlC (rlN s) Jn Jn) (Zb7 (rlN s) (Zo (α:=Nd) [] w) (Zo (α:=Nd) [] w)) e0 ?_;rintro _ w2 ⟨ar,e1⟩;have hS:=hT.ow ar;clear hT ar e0;refine W ?_;refine CM (ZN rfl) (Z7b _ (rlN s) m _ ⟨Jn,Jn,rfl,Zo _ _,Zo _ _⟩ (hF.up hS) (hS.cell (by simp) hm)) ?_;rintro _ w3 ⟨rfl,hT⟩;replace hS:=hS.trans hT;refine RT ?_;exact ⟨by rw [<- ckN s],hS⟩
def Z0H (q:Cr):Bool:=decide ((Z29 q.cnd).2≠0) || decide ((Z29 q.due).2≠0) || decide ((Z29 q.cnd).1≠2) || decide ((Z29 q.due).1≠3) || decide (q.frm<0) || decide (q.frm > 3652058) || !ZB q.name || !ZB q.on || (decide (q.unl≠[]) && !ZB q.unl) || (decide (q.els≠[]) && !ZB q.els)
def Zby (q:Cr):Int:=if Z0H q then 22 else 0
theorem ZeT (v:Value) (q:Cr) (w) (m:Int) (hF:SlV [] w Z21 Ze) (hm:w.cell? ⟨2,0,none⟩=some (.I m)) (hv:CrV [] w v q) (fI:∀ x∈q.cnd++q.due,opP x.op) :
 CC 110 #[v] w λr w'=>r=.I (Zby q)/\Stp [] w w':=by
 obtain ⟨kc,kd,rfl,bY,cR⟩:=hv;refine cW1 60 Tryz.func110 ?_;refine W ?_;refine Z0 (Zq rfl) rfl ?_;rintro _ w1 ⟨b,rfl,hb,e1,hS⟩;replace e1:Blk w1 b 62 (crC q kc kd):=e1;replace bY:=bY.up hS;replace cR:=cR.up hS;clear hb;refine W ?_;refine CL (Z8v _ q.cnd _ bY (λx hx=>fI x (Xg.2 (.inl hx)))) ?_;rintro _ w2 ⟨rfl,hT⟩;replace e1:=e1.up hT;replace bY:=bY.up hT;replace cR:=cR.up hT;replace hS:=hS.trans hT;clear hT;refine W ?_;refine CL (Z8v _ q.due _ cR (λx hx=>fI x (Xg.2 (.inr hx)))) ?_;rintro _ w2 ⟨rfl,hT⟩;replace e1:=e1.up hT;replace bY:=bY.up hT;replace cR:=cR.up hT;replace hS:=hS.trans hT;clear hT;refine W ?_;refine JK (σ:=Bool) (λu=>[(1,pQ b),(2,.I 0),(19,.B u)]) (λu w'=>Blk w' b 62 (crC q kc kd)/\Stp [] w w'/\u=Z0H q) ?_ ?_
 . repeat'(first|refine W1 ?_|omega|refine VG ?_ ?_<;>intro hg|refine VC ?_ ?_<;>intro hc)
   all_goals try (first|exact ZA true ⟨rfl,rfl,rfl,trivial⟩ ⟨e1,hS,by simp [Z0H, *]⟩|exact ZA false ⟨rfl,rfl,rfl,trivial⟩ ⟨e1,hS,by simp [Z0H, *]⟩|exact ZA _ ⟨rfl,rfl,rfl,trivial⟩ ⟨e1,hS,by simp [Z0H, *]⟩)
   refine W ?_;refine CM (ZN rfl) (Z2i q.name m _ (hF.up hS) (hS.cell (by simp) hm)) ?_;rintro _ w3 ⟨rfl,hT⟩;replace e1:=e1.up hT;replace bY:=bY.up hT;replace cR:=cR.up hT;replace hS:=hS.trans hT;clear hT;cases hn_name:ZB q.name with
   | false=>
     repeat'(first|refine W1 ?_|omega|refine VG ?_ ?_<;>intro hg|refine VC ?_ ?_<;>intro hc)
     all_goals (first|exact ZA true ⟨rfl,rfl,rfl,trivial⟩ ⟨e1,hS,by simp [Z0H, *]⟩|exact ZA false ⟨rfl,rfl,rfl,trivial⟩ ⟨e1,hS,by simp [Z0H, *]⟩|exact ZA _ ⟨rfl,rfl,rfl,trivial⟩ ⟨e1,hS,by simp [Z0H, *]⟩)
   | true=>
     repeat'(first|refine W1 ?_|omega|refine VG ?_ ?_<;>intro hg|refine VC ?_ ?_<;>intro hc)
     refine W ?_;refine CM (ZN rfl) (Z2i q.on m _ (hF.up hS) (hS.cell (by simp) hm)) ?_;rintro _ w3 ⟨rfl,hT⟩;replace e1:=e1.up hT;replace bY:=bY.up hT;replace cR:=cR.up hT;replace hS:=hS.trans hT;clear hT;cases hn_on:ZB q.on with
     | false=>
       repeat'(first|refine W1 ?_|omega|refine VG ?_ ?_<;>intro hg|refine VC ?_ ?_<;>intro hc)
       all_goals (first|exact ZA true ⟨rfl,rfl,rfl,trivial⟩ ⟨e1,hS,by simp [Z0H, *]⟩|exact ZA false ⟨rfl,rfl,rfl,trivial⟩ ⟨e1,hS,by simp [Z0H, *]⟩|exact ZA _ ⟨rfl,rfl,rfl,trivial⟩ ⟨e1,hS,by simp [Z0H, *]⟩)
     | true=>
       repeat'(first|refine W1 ?_|omega|refine VG ?_ ?_<;>intro hg|refine VC ?_ ?_<;>intro hc)
       . refine W ?_
         refine CM (ZN rfl) (Z2i q.unl m _ (hF.up hS) (hS.cell (by simp) hm)) ?_;rintro _ w3 ⟨rfl,hT⟩;replace e1:=e1.up hT;replace bY:=bY.up hT;replace cR:=cR.up hT;replace hS:=hS.trans hT;clear hT;cases hn_unl:ZB q.unl with
         | false=>
           repeat'(first|refine W1 ?_|omega|refine VG ?_ ?_<;>intro hg|refine VC ?_ ?_<;>intro hc)
           all_goals (first|exact ZA true ⟨rfl,rfl,rfl,trivial⟩ ⟨e1,hS,by simp [Z0H, *]⟩|exact ZA false ⟨rfl,rfl,rfl,trivial⟩ ⟨e1,hS,by simp [Z0H, *]⟩|exact ZA _ ⟨rfl,rfl,rfl,trivial⟩ ⟨e1,hS,by simp [Z0H, *]⟩)
         | true=>
           repeat'(first|refine W1 ?_|omega|refine VG ?_ ?_<;>intro hg|refine VC ?_ ?_<;>intro hc)
           . refine W ?_
             refine CM (ZN rfl) (Z2i q.els m _ (hF.up hS) (hS.cell (by simp) hm)) ?_;rintro _ w3 ⟨rfl,hT⟩;replace e1:=e1.up hT;replace bY:=bY.up hT;replace cR:=cR.up hT;replace hS:=hS.trans hT;clear hT;cases hn_els:ZB q.els with
             | false=>
               repeat'(first|refine W1 ?_|omega|refine VG ?_ ?_<;>intro hg|refine VC ?_ ?_<;>intro hc)
               all_goals (first|exact ZA true ⟨rfl,rfl,rfl,trivial⟩ ⟨e1,hS,by simp [Z0H, *]⟩|exact ZA false ⟨rfl,rfl,rfl,trivial⟩ ⟨e1,hS,by simp [Z0H, *]⟩|exact ZA _ ⟨rfl,rfl,rfl,trivial⟩ ⟨e1,hS,by simp [Z0H, *]⟩)
             | true=>
               repeat'(first|refine W1 ?_|omega|refine VG ?_ ?_<;>intro hg|refine VC ?_ ?_<;>intro hc)
               all_goals (first|exact ZA true ⟨rfl,rfl,rfl,trivial⟩ ⟨e1,hS,by simp [Z0H, *]⟩|exact ZA false ⟨rfl,rfl,rfl,trivial⟩ ⟨e1,hS,by simp [Z0H, *]⟩|exact ZA _ ⟨rfl,rfl,rfl,trivial⟩ ⟨e1,hS,by simp [Z0H, *]⟩)
           all_goals (first|exact ZA true ⟨rfl,rfl,rfl,trivial⟩ ⟨e1,hS,by simp [Z0H, *]⟩|exact ZA false ⟨rfl,rfl,rfl,trivial⟩ ⟨e1,hS,by simp [Z0H, *]⟩|exact ZA _ ⟨rfl,rfl,rfl,trivial⟩ ⟨e1,hS,by simp [Z0H, *]⟩)
       . refine W ?_
         refine CM (ZN rfl) (Z2i q.els m _ (hF.up hS) (hS.cell (by simp) hm)) ?_;rintro _ w3 ⟨rfl,hT⟩;replace e1:=e1.up hT;replace bY:=bY.up hT;replace cR:=cR.up hT;replace hS:=hS.trans hT;clear hT;cases hn_els:ZB q.els with
         | false=>
           repeat'(first|refine W1 ?_|omega|refine VG ?_ ?_<;>intro hg|refine VC ?_ ?_<;>intro hc)
           all_goals (first|exact ZA true ⟨rfl,rfl,rfl,trivial⟩ ⟨e1,hS,by simp [Z0H, *]⟩|exact ZA false ⟨rfl,rfl,rfl,trivial⟩ ⟨e1,hS,by simp [Z0H, *]⟩|exact ZA _ ⟨rfl,rfl,rfl,trivial⟩ ⟨e1,hS,by simp [Z0H, *]⟩)
         | true=>
           repeat'(first|refine W1 ?_|omega|refine VG ?_ ?_<;>intro hg|refine VC ?_ ?_<;>intro hc)
           all_goals (first|exact ZA true ⟨rfl,rfl,rfl,trivial⟩ ⟨e1,hS,by simp [Z0H, *]⟩|exact ZA false ⟨rfl,rfl,rfl,trivial⟩ ⟨e1,hS,by simp [Z0H, *]⟩|exact ZA _ ⟨rfl,rfl,rfl,trivial⟩ ⟨e1,hS,by simp [Z0H, *]⟩)
       all_goals (first|exact ZA true ⟨rfl,rfl,rfl,trivial⟩ ⟨e1,hS,by simp [Z0H, *]⟩|exact ZA false ⟨rfl,rfl,rfl,trivial⟩ ⟨e1,hS,by simp [Z0H, *]⟩|exact ZA _ ⟨rfl,rfl,rfl,trivial⟩ ⟨e1,hS,by simp [Z0H, *]⟩)
 rintro u w4 ⟨e1,hS,hu⟩
 try dsimp only at hu ⊢
 unfold Zby;rw [<- hu];cases u with
 | true=>
   repeat'(first|refine W1 ?_|omega|refine VG ?_ ?_<;>intro hg|refine VC ?_ ?_<;>intro hc)
   refine RU ?_;exact ⟨rfl,hS⟩
 | false=>
   repeat'(first|refine W1 ?_|omega|refine VG ?_ ?_<;>intro hg|refine VC ?_ ?_<;>intro hc)
   refine RU ?_;exact ⟨rfl,hS⟩
structure Zxd (q:Cr):Prop where
 frm:I64 q.frm
 cnd:∀ x∈q.cnd,I64 x.op/\I64 x.n
 due:∀ x∈q.due,I64 x.op/\I64 x.n
 lcnd:q.cnd.length<=200
 ldue:q.due.length<=200
 lname:q.name.length<=12
 lon:q.on.length<=12
 lunl:q.unl.length<=12
 lels:q.els.length<=12
def Z4U (m:Nat) (z:Ins):Prop:=0<=z.op/\z.op<=24/\0<=z.n/\z.n<=2147483647+(m:Int)
theorem Z4U.le {m k:Nat} {z:Ins} (h:Z4U m z) (hk:m<=k):Z4U k z:=⟨h.1,h.2.1,h.2.2.1,by have:=h.2.2.2;omega⟩
theorem Zle:∀ (l:List Nd) (p m:Nat),(∀ y∈l,∀ p,∀ z∈Zc y p,Z4U (p+(Zc y p).length) z)->p+(Js (l.map Zc) p).length<=m->∀ z∈Js (l.map Zc) p,Z4U m z
 | [],p,m,_,_,z,hz=>by simp [Js] at hz
 | y :: l, p, m, h, hm, z, hz => by
   simp only [Xt,Js,Xg,Xd] at hz hm;rcases hz with hz|hz
   exact (h y (by simp) p z hz).le (by omega);exact Zle l _ m (λy hy=>h y (by simp [hy])) (by omega) z hz
theorem Zxe (s:Str):∀ o∈opF s,0<=o/\o<=24:=by
 intro o ho;unfold opF at ho;cases h:Z83.find? (λp=>decide (p.1=s)) with
 | none=>rw [h] at ho;cases ho
 | some p=>
   rw [h] at ho;have aB:∀ q∈Z83,∀ o∈q.2,0<=o/\o<=24:=by decide +kernel
   exact aB p (X6 h) o ho
theorem Zlf (k:Int) (s:Str) (m:Nat):∀ z∈Z44 k s,Z4U m z:=by
 intro z hz;unfold Z44 Z2l at hz;simp only [Xg,XH] at hz;rcases hz with hz|⟨o,ho,rfl⟩
 split at hz;simp only [Xb,Xj,or_false] at hz;subst hz;exact ⟨by decide,by decide,by decide,by simp only;omega⟩;cases hz;obtain ⟨h1,h2⟩:=Zxe s o ho;exact ⟨h1,h2,by simp,by simp only;omega⟩
theorem Zlg (c y n:Cf) (p m:Nat) (hc:∀ p,∀ z∈c p,Z4U (p+(c p).length) z) (hy:∀ p,∀ z∈y p,Z4U (p+(y p).length) z) (hn:∀ p,∀ z∈n p,Z4U (p+(n p).length) z) (hm:p+(chC c y n p).length<=m):∀ z∈chC c y n p,Z4U m z:=by
 intro z hz;unfold chC at hz hm;simp only [Xg,Xb,Xj,or_false,Xd,Xe,Xf] at hz hm;rcases hz with (((hz|rfl)|hz)|rfl)|hz
 exact (hc p z hz).le (by omega);exact ⟨by simp,by simp,by simp only;omega,by simp only;omega⟩;exact (hy _ z hz).le (by omega);exact ⟨by simp,by simp,by simp only;omega,by simp only;omega⟩;exact (hn _ z hz).le (by omega)
theorem Zod (k n:Int) (s:Str) (m:Nat) (h:Z0Q k n s≠0):Z4U m (Z1b k n s):=by
 unfold Z0Q at h;unfold Z1b;by_cases k4:k=4
 . subst k4
   rw [if_pos rfl] at h;have hf:(ZR s).2.2=true:=by
    cases hb:(ZR s).2.2 with
    | true=>rfl
    | false=>rw [Z6j hb] at h;simp at h
   obtain ⟨i,hi,_,he⟩:=(Z8w s (ZR s).1).1 ⟨hf,rfl⟩;rw [if_neg (by decide),if_neg (by decide),if_neg (by decide)];exact ⟨by simp,by simp,by simp only;omega,by simp only;omega⟩
 rw [if_neg k4] at h;split at h;exact absurd rfl h;by_cases k1:k=1;rw [if_pos k1] at h ⊢;split at h;exact ⟨by simp,by simp,by simp only;omega,by simp only;omega⟩;exact absurd rfl h;rw [if_neg k1] at h ⊢;by_cases k2:k=2;rw [if_pos k2] at h ⊢;split at h;exact ⟨by simp,by simp,by simp only;omega,by simp only;omega⟩;exact absurd rfl h;rw [if_neg k2] at h ⊢;by_cases k3:k=3;rw [if_pos k3] at h ⊢;split at h;exact ⟨by simp,by simp,by simp only;omega,by simp only;omega⟩;exact absurd rfl h;rw [if_neg k3] at h;exact absurd rfl h
theorem ZtJ (x:Nd):Zd x≠0->∀ p,∀ z∈Zc x p,Z4U (p+(Zc x p).length) z:=by
 induction x using Nd.ind with
 | h k n s l ih=>
 intro ht p;have hk:∀ y∈l,Zd y≠0:=λy hy=>Z6y (x:=.mk k n s l) ht hy;have ih':∀ y∈l,∀ p,∀ z∈Zc y p,Z4U (p+(Zc y p).length) z:=λy hy=>ih y hy (hk y hy);have lq:Zd (.mk k n s l)=JD k n s (l.map Zd):=Z0S _;rw [lq] at ht;have hplain:∀ m,p+(Z0L k s (l.map Zc) p).length<=m->∀ z∈Z0L k s (l.map Zc) p,Z4U m z:=λm hm z hz=>by
  rw [Z2Q] at hz hm;rw [Xd] at hm;rcases Xg.1 hz with hz|hz
  exact Zle l p m ih' (by omega) z hz;exact Zlf k s m z hz
 have cD:∀ i,∀ p,∀ z∈(l.map Zc).getD i Z5g p,Z4U (p+((l.map Zc).getD i Z5g p).length) z:=λi p z hz=>by
  by_cases hi:i<l.length;have e:(l.map Zc).getD i Z5g=Zc l[i]:=by rw [XE,XV (by simpa using hi)];simp
  rw [e] at hz ⊢;exact ih' _ (Xc hi) p z hz;have e:(l.map Zc).getD i Z5g=Z5g:=by rw [XE,YaU (by simpa using hi)];rfl
  rw [e] at hz;cases hz
 have kE:∀ b:Int,(b=0\/b=1)->∀ p:Nat,∀ z∈[(⟨2,b⟩:Ins)],Z4U (p+[(⟨2,b⟩:Ins)].length) z:=λb hb p z hz=>by
  simp only [Xb,Xj,or_false] at hz;subst hz;exact ⟨by simp,by simp,by simp only;omega,by simp only;omega⟩
 have cT:∀ c:List Ins,p+c.length<=p+c.length:=λc=>Xn _;rw [Zc];rcases Z7e ht with ⟨he,hc⟩|⟨h0,h3,mo,hc⟩
 have hl:l=[]:=by simpa using he
 subst hl;unfold Z1i;rw [if_pos (show (List.map Zc ([]:List Nd)).length=0 from rfl)];intro z hz;simp only [Xb,Xj,or_false] at hz;subst hz;exact Zod k n s _ (by rw [<- hc];exact ht);have hl:l≠[]:=λh=>mo (by rw [h];rfl)
 have dT:¬ (l.map Zc).length=0:=by simpa using hl
 unfold Z1i;rw [if_neg dT];split;exact Zlg _ _ _ p _ (cD 0) (cD 1) (cD 2) (Xn _);split;exact Zlg _ _ _ p _ (cD 0) (cD 1) (kE 0 (.inl rfl)) (Xn _);split;exact Zlg _ _ _ p _ (cD 0) (kE 1 (.inr rfl)) (cD 1) (Xn _);split;intro z hz;rcases Xg.1 hz with hz|hz
 exact hplain _ (by simp) z hz;simp only [Xb,Xj,or_false] at hz;subst hz;exact ⟨by simp,by simp,by simp only;omega,by simp only;omega⟩;exact hplain _ (Xn _)
theorem Zal (x:Nd) (ht:Zd x≠0) (hl:(ZU x).length<=200):∀ z∈ZU x,I64 z.op/\I64 z.n:=by
 intro z hz;unfold ZU at hz hl;rw [Xd] at hl;rcases Xg.1 hz with hz|hz
 obtain ⟨h1,h2,h3,h4⟩:=ZtJ x ht 0 z hz;unfold I64;constructor<;>omega;simp only [Xb,Xj,or_false] at hz;subst hz;unfold I64;simp
theorem Z4M {s:Str} (h:ZB s=true):s.length<=12:=by
 unfold ZB Z41 at h;simp only [Xl,decide_eq_true_eq] at h;have:=h.1;omega
theorem Z93 (r:Rul) (h:Z0s r=0):Zxd (crF r)/\Zby (crF r)=0:=by
 unfold crF;rw [if_pos h];unfold Z0s at h;split at h
 contradiction;rename_i jm;have gq:Z0M r=0:=by omega
 unfold Z0M at gq;split at gq;simp at gq;rename_i fK;split at gq;simp at gq;rename_i ju;split at gq
 contradiction;rename_i gP;have sz:Z1H r.cnd 2=0:=by omega
 split at h
 contradiction;rename_i yH;have sA:Z0D r.cnd=0:=by omega
 have key:∀ (x:Nd) (t:Int),t≠0->Z1H x t=0->Z0D x=0->Zw x<=12/\Zd x=t/\(ZU x).length<=200:=λx t mA hm he=>by
  unfold Z1H at hm;unfold Z0D at he;split at hm;rename_i hn;rw [if_pos hn] at he;split at hm;simp at hm;rename_i h0;rw [if_neg h0] at he;split at hm;rename_i xl;split at he;simp at he;exact ⟨hn,xl,by omega⟩;simp at hm;simp at hm
 obtain ⟨n1,t1,l1⟩:=key r.cnd 2 (by decide) sz sA;obtain ⟨n2,t2,l2⟩:=key r.due 3 (by decide) gq h;have v1:=Z9Z r.cnd (by omega) n1 l1;have v2:=Z9Z r.due (by omega) n2 l2;have lN:Je r=true:=by simpa using fK
 unfold Je at lN;simp only [Xl,Yay,decide_eq_true_eq] at lN;obtain ⟨⟨⟨a1,a2⟩,a3⟩,a4⟩:=lN;refine ⟨⟨show I64 r.frm by unfold I64;omega,Zal _ (by omega) l1,Zal _ (by omega) l2,l1,l2,Z4M a1,Z4M a2,?_,?_⟩,?_⟩;rcases a3 with h|h
 rw [show (⟨r.name,r.frm,r.on,ZU r.cnd,ZU r.due,r.unl,r.els⟩:Cr).unl=r.unl from rfl,h];simp;exact Z4M h;rcases a4 with h|h
 rw [show (⟨r.name,r.frm,r.on,ZU r.cnd,ZU r.due,r.unl,r.els⟩:Cr).els=r.els from rfl,h];simp;exact Z4M h;unfold Zby Z0H;simp only [v1,v2,t1,t2,a1,a2];rcases a3 with h3|h3<;>rcases a4 with h4|h4<;>simp [h3,h4]<;>omega
structure Zlh (n:Nat) (a:Atp):Prop where
 entry:0<=a.entry/\a.entry<=15
 party:0<=a.party/\a.party<=2
 crr:0<=a.crr/\a.crr<n
 sent:739616<=a.sent/\a.sent<=739655
 len:a.rets.length<=3
 rets:∀ x∈a.rets,ZfS n x
def Zam (l:List Fct):Prop:=∀ k (h:k<l.length),2 * (k:Int)<=l[k].entry/\l[k].entry<=2 * (k:Int)+1
structure Z94 (c:Cas):Prop where
 fl:c.fcts.length<=8
 fo:∀ f∈c.fcts,Zaf f
 en:Zam c.fcts
 rl:c.ruls.length<=4
 ro:∀ q∈c.ruls,∃ r:RuleM,Z8t r/\Z0s r.rul=0/\q=crF r.rul
 al:c.atts.length<=4
 ao:∀ a∈c.atts,Zlh c.crrs.length a
 cl:1<=c.crrs.length/\c.crrs.length<=4
 co:∀ x∈c.crrs,Zag x
 sl:c.stys.length<=2
 so:∀ x∈c.stys,ZfR x
 cal:ZoS c.cal
 court:0<=c.court/\c.court<=2
 today:739616<=c.today/\c.today<=739705
structure Z9v (X:List Nat) (lv:Value) (l:List Int) (c:Cas) (R:Z0N) (w:World):Prop where
 li:SlV X w lv l
 ff:SlV X w R.fv c.fcts
 rr:SlV X w R.rv c.ruls
 aa:SlV X w R.av c.atts
 cc:SlV X w R.cv c.crrs
 ss:SlV X w R.sv c.stys
 ho:SlV X w R.hv c.cal.hols
 clo:SlV X w R.lv c.cal.clos
 one:R.zo.oneCell'=true/\R.zs.oneCell'=true/\R.hr.oneCell'=true
theorem Z9v.ext {X:List Nat} {lv:Value} {l:List Int} {c:Cas} {R:Z0N} {w w':World} (h:Z9v X lv l c R w) (hS:Stp X w w'):Z9v X lv l c R w':=
 ⟨h.li.ext hS (λ_ h=>h) (λ_ h=>.inl h),h.ff.ext hS (λ_ h=>h) (λ_ h=>.inl h),h.rr.ext hS (λ_ h=>h) (λ_ h=>.inl h),h.aa.ext hS (λ_ h=>h) (λ_ h=>.inl h),h.cc.ext hS (λ_ h=>h) (λ_ h=>.inl h),h.ss.ext hS (λ_ h=>h) (λ_ h=>.inl h),h.ho.ext hS (λ_ h=>h) (λ_ h=>.inl h),h.clo.ext hS (λ_ h=>h) (λ_ h=>.inl h),h.one⟩
theorem Z9v.cell {X:List Nat} {lv:Value} {l:List Int} {c:Cas} {R:Z0N} {w} (h:Z9v X lv l c R w):∀ u∈Jh c R,u.oneCell'=true:=by
 have h1:=h.ff.one;have h2:=h.rr.one;have h3:=h.aa.one;have h4:=h.cc.one;have h5:=h.ss.one;have h6:=h.ho.one;have h7:=h.clo.one;obtain ⟨h8,h9,fq⟩:=h.one;intro u hu;simp only [Jh,Z0j,Xb,Xj,or_false,XC,XN] at hu;rcases hu with rfl|rfl|rfl|rfl|rfl|rfl|rfl|rfl|rfl|rfl|rfl|rfl|rfl|rfl|rfl|rfl|rfl|rfl|rfl<;>first|assumption|rfl
theorem Zhs (c:Cal) (hv lv zo zs hr:Value) (p:Option Addr) (n k:Nat) (cs:List Crr) (ct td:Int) (w):(Instr.build 37 #[(5,Z6O c hv lv zo zs hr),(3,.slice p n k),(6,.I ct),(7,.I td)]).run Tryz.prog w=.ok (.agg (Jh ⟨[],[],[],cs,[],c,ct,td⟩ ⟨.N,.N,.N,.slice p n k,.N,hv,lv,zo,zs,hr⟩).toArray) w:=by kernel_rfl
theorem Zht (f:Fct) (w):(Instr.buildSlice 24 1 #[(0,aG f)]).run Tryz.prog w=.ok (.slice (some ⟨w.heap.size,0,none⟩) 1 1) (w.alloc (.cells (Z3.enc f).toArray 45)):=by kernel_rfl
theorem Zli (a b c d:Int) (w):(Instr.build 78 #[(0,.I a),(1,.I b),(2,.I c),(3,.I d)]).run Tryz.prog w=.ok (.agg (atC ⟨a,b,c,d,[]⟩ (.N)).toArray) w:=by kernel_rfl
theorem ZfV {a:Atp} {v:Value} (h:v.oneCell'=true):∀ u∈atC a v,u.oneCell'=true:=by
 intro u hu;simp only [Xb,Xj,or_false] at hu;rcases hu with rfl|rfl|rfl|rfl|rfl<;>first|assumption|rfl
theorem Z5v (lv:Value) (l:List Int) (w) (hs:SlV [] w lv l) (hl:∀ a∈l,I64 a) (hL:Z0z w) (hM:Z2R w) :
 CC 10 #[lv] w λr w'=>∃ (c:Cas) (R:Z0N),r=.agg (Jh c R).toArray/\Z1z w' c R/\Z94 c/\Stp [] w w':=by
 have ea:∀ k,∀ a∈l.drop k,I64 a:=λk a h=>hl a (YaL h);refine cW1 137 Tryz.func10 ?_;refine W ?_;refine Z0 Z2 rfl ?_;rintro _ w1 ⟨b2,rfl,bV,e2,hS⟩;refine W ?_;refine CL (Z1m lv l 40 _ (hs.up hS)) ?_;rintro v1 w2 ⟨h1,rfl⟩;have b2w:=e2.lt;refine W ?_;refine CM (ZN rfl) (Z91 [b2] v1 _ _ (by simpa using b2w) h1 (ea 40)) ?_;rintro _ w3 ⟨cal,hv,cv,zo,zs,hr,rfl,aM,dH,fO,cE,hT⟩;replace e2:=e2.up hT;replace hS:=hS.trans hT;clear hT h1;refine W ?_;refine CL (Z1m lv l 60 _ (hs.up hS)) ?_;rintro v1 w4 ⟨h1,rfl⟩;refine W ?_;refine CL (Zbv v1 _ _ h1 (ea 60)) ?_;rintro crv w5 ⟨cs,bY,fy,ji,nS⟩;have cY:SlV [b2] w5 crv cs:=nS.slv (by simpa using e2.lt);have hT:=nS.2;replace e2:=e2.up hT;replace fO:=fO.up hT;replace cE:=cE.up hT;replace hS:=hS.trans hT;clear hT h1 nS;refine W ?_;refine CM (ZK rfl rfl rfl) (ZZ [] _ l 0 3 _ (by decide) (by unfold I64;omega) (hs.up hS) hl) ?_;rintro _ w6 ⟨ct,rfl,ol,hT⟩;replace e2:=e2.up hT;replace fO:=fO.up hT;replace cE:=cE.up hT;replace cY:=cY.up hT;replace hS:=hS.trans hT;clear hT;refine W ?_;refine CM (ZK rfl rfl rfl) (ZZ [] _ l 1 90 _ (by decide) (by unfold I64;omega) (hs.up hS) hl) ?_;rintro _ w7 ⟨td,rfl,mB,hT⟩;replace e2:=e2.up hT;replace fO:=fO.up hT;replace cE:=cE.up hT;replace cY:=cY.up hT;replace hS:=hS.trans hT;clear hT;obtain ⟨p,k,rfl,-⟩:=id cY;refine W ?_;refine Z7 rfl (Zhs cal hv cv zo zs hr p cs.length k cs (ct:Int) (739616+(td:Int))) rfl ?_;generalize (.slice p cs.length k:Value)=crv at cY ⊢;refine Z0 Z2 rfl ?_;rintro _ w8 ⟨b3,rfl,dN,e3,hT⟩;have b2w7:=e2.lt;have n23:b2≠b3:=by omega
 replace e2:=e2.up hT;have nc:∀ b∈[b2,b3],b∈[b2]\/w7.heap.size<=b:=λb hb=>by simp at hb ⊢;omega
 obtain ⟨uc,om,oq,ot⟩:SlV [b2,b3] w8 lv l/\SlV [b2,b3] w8 hv cal.hols/\SlV [b2,b3] w8 cv cal.clos/\SlV [b2,b3] w8 crv cs:=⟨by
  have h:=hs.ext (X':=[b2,b3]) (hS.trans hT) (by simp) (λb hb=>.inr (by have:=hS.size;simp at hb;omega));exact h,fO.ext hT (by simp) nc,cE.ext hT (by simp) nc,cY.ext hT (by simp) nc⟩
 replace hS:=hS.trans hT;clear hT fO cE cY nc;have iM:Z9v [b2,b3] lv l ⟨[],[],[],cs,[],cal,(ct:Int),739616+(td:Int)⟩ ⟨.N,.N,.N,crv,.N,hv,cv,zo,zs,hr⟩ w8:=⟨uc,ZY _ _,ZY _ _,ZY _ _,ot,ZY _ _,om,oq,aM⟩
 have az:Z94 ⟨[],[],[],cs,[],cal,(ct:Int),739616+(td:Int)⟩:=⟨Xp _,by simp,λk h=>by simp at h,Xp _,by simp,Xp _,by simp,⟨bY,fy⟩,ji,Xp _,by simp,dH,by dsimp only;omega,by dsimp only;omega⟩
 clear uc om oq ot aM;generalize pJ:(⟨[],[],[],cs,[],cal,(ct:Int),739616+(td:Int)⟩:Cas)=C at *;generalize pK:(⟨.N,.N,.N,crv,.N,hv,cv,zo,zs,hr⟩:Z0N)=R at *;refine SB (us:=Jh C R) iM.cell e3 ?_;rintro _ w9 ⟨hT,e3⟩;replace iM:=iM.ext hT.mn;replace e2:=e2.ext hT (by simpa using n23);have g3:w.heap.size<=b3:=by have:=hS.size;have:=e3.lt;omega
 replace hS:=hS.ow hT;clear hT;have l2:=e2.lt;have l3:=e3.lt;have xm:C.fcts=[]:=by rw [<- pJ]
 have sB:C.ruls=[]:=by rw [<- pJ]
 have mC:C.atts=[]:=by rw [<- pJ]
 clear pJ;have j4:R.fv=.N:=by rw [<- pK]
 have pL:R.rv=.N:=by rw [<- pK]
 have lO:R.av=.N:=by rw [<- pK]
 clear pK;refine W ?_
 refine Zt (σ:=Nat×Value×List Fct) (λq=>[(0,lv),(2,pQ b2),(3,pQ b3),(4,.I (q.1:Int))])
  (λq W=>q.1<=8/\q.2.2.length=q.1/\(∀ f∈q.2.2,Zaf f)/\Zam q.2.2/\Row [b2,b3] W w9.heap.size 45 q.2.1 q.2.2/\Blk W b3 37 (Jh C { R with fv:=q.2.1 })/\Stp [b3] w9 W) (λq=>9 - q.1) (0,.N,[])
  ⟨rfl,rfl,rfl,rfl,trivial⟩ ⟨by decide,rfl,by simp,λk h=>by simp at h,Row.nil,by rw [<- j4];exact e3,Stp.refl _ _⟩ ?_
 clear e3;rintro ⟨j,fv,fs⟩ y1 ⟨hj,ai,aP,pM,ab,e3,hT⟩;dsimp only at hj ai aP pM ab e3 ⊢;have mD:=iM.ext hT.mn;have bW:SlV [] y1 lv l:=mD.li.wk (by simp);have aV:=λb hb=>ab.ob_le b hb;refine W ?_;refine CM (ZK rfl rfl rfl) (ZZ [] _ l 2 9 _ (by decide) (by unfold I64;omega) bW hl) ?_;rintro _ y2 ⟨q,rfl,hq,hU⟩;replace ab:=ab.up hU;replace e3:=e3.up hU;replace bW:=bW.up hU;replace hT:=hT.trans hU.mn;clear hU mD;by_cases hlt:(j:Int)<(q:Int);refine QO ?_;refine ZDr 16 [] [13,15] [(0,0),(1,1),(2,0),(3,0),(4,0),(7,0),(8,0),(9,0),(5,2),(6,0),(10,2),(11,2),(12,2),(13,2),(14,0),(15,2)] (λw1 ae=>?_);replace ab:=ab.up ae;replace e3:=e3.up ae;replace bW:=bW.up ae;replace hT:=hT.trans ae.mn;clear ae;refine QD ?_;refine Za rfl trivial (Z4 rfl (ZK rfl rfl rfl) (ZZ [] _ l 3 2 _ (by decide) (by unfold I64;omega) bW hl)) (λ_ _ h=>h.choose_spec.2.2) rfl ?_;rintro _ y3 ⟨q3,rfl,tA,hU⟩;replace ab:=ab.up hU;replace e3:=e3.up hU;replace bW:=bW.up hU;replace hT:=hT.trans hU.mn;clear hU;refine QD ?_;refine Za rfl trivial (Z4 rfl (ZK rfl rfl rfl) (ZZ [] _ l (4+(j:Int)) 100000000 _ (by decide) (by unfold I64;omega) bW hl)) (λ_ _ h=>h.choose_spec.2.2) rfl ?_;rintro _ y4 ⟨q4,rfl,oW,hU⟩;replace ab:=ab.up hU;replace e3:=e3.up hU;replace hT:=hT.trans hU.mn;clear hU bW;focus repeat'(first|refine D1 ?_|omega|refine Zk rfl rfl rfl rfl (λhg=>?_) (λhg=>?_)|(refine Zi rfl rfl rfl rfl (λhg=>?_) (λhg=>?_)<;>refine D1 ?_)|fail)
 refine Za rfl trivial (Z4 rfl (Zf rfl rfl) (Zho (2 * (j:Int)+(q3:Int)) (q4:Int) _ (by unfold I64;omega))) (λ_ _ h=>h.choose_spec.2.2.2) rfl ?_;rintro _ y5 ⟨f,rfl,yI,hf,hU⟩;replace ab:=ab.up hU;replace e3:=e3.up hU;replace hT:=hT.trans hU.mn;clear hU;focus repeat'(first|refine D1 ?_|omega|refine Zk rfl rfl rfl rfl (λhg=>?_) (λhg=>?_)|(refine Zi rfl rfl rfl rfl (λhg=>?_) (λhg=>?_)<;>refine D1 ?_)|fail)
 refine Za rfl trivial (Z1 rfl (Zht f)) (λ_ _ h=>Z9.stp h) rfl ?_;rintro vs y6 hN;have dL:SlV (ob fv++[b2,b3]) y6 vs [f]:=hN.slv (λb hb=>by
  have:=hT.size;rcases Xg.1 hb with h|h
  exact (ab.ob_le b h).2;simp at h;omega) rfl (by simp) (by simp [maxLen])
 have hU:=Z9.stp hN;clear hN;replace ab:=ab.up hU;replace e3:=e3.up hU;replace hT:=hT.trans hU.mn;clear hU;focus repeat'(first|refine D1 ?_|omega|refine Zk rfl rfl rfl rfl (λhg=>?_) (λhg=>?_)|(refine Zi rfl rfl rfl rfl (λhg=>?_) (λhg=>?_)<;>refine D1 ?_)|fail)
 refine ZmM rfl trivial (ZQ (α:=Fct) (X:=[b2,b3]) (base:=w9.heap.size) rfl (by decide) rfl rfl ab dL (Xh (Xq _ (show fs.length+[f].length<=10 by simp;omega)) (by decide)) (by simp [maxLen];omega) (by have:=hT.size;omega)) rfl rfl ?_;rintro fv' y7 ⟨aC,hU,ib⟩;have bK:=λb hb=>ab.ob_le b hb;replace e3:=e3.ext hU (λh=>by have:=bK _ h;omega);replace hT:=hT.own hU (λb hb=>.inr (bK b hb).1);clear hU;obtain ⟨pv,kv,rfl,-⟩:=id (Row.slv (X:=[b2,b3]) aC (λb hb=>by simp at hb;omega));refine QD ?_;refine Jr rfl trivial (Zb (u:=.slice pv (fs++[f]).length kv) rfl rfl rfl rfl e3 (show (0:Nat)<19 by decide)) rfl ?_;rintro _ y8 ⟨hU,e3⟩;replace e3:Blk y8 b3 37 (Jh C { R with fv:=.slice pv (fs++[f]).length kv }):=e3;replace hT:=hT.own hU (λb hb=>.inl hb);replace aC:=aC.keep hU (λb hb h=>by simp only [Xk] at hb;subst hb;have:=(aC.ob_le _ h).1;omega);clear hU;refine QD ?_;refine QO ?_;exact Zs (j+1,.slice pv (fs++[f]).length kv,fs++[f]) ⟨rfl,rfl,rfl,rfl,trivial⟩ ⟨by dsimp only;omega,by simp [ai],λz hz=>by
  rcases Xg.1 hz with h|h
  exact aP z h;simp only [Xk] at h;subst h;exact hf,λk hk=>by
  dsimp only at hk ⊢;rw [List.getElem_append];split;exact pM k _;have:k=j:=by simp at hk;omega
  subst this;simp only [List.getElem_singleton];omega,aC,e3,hT⟩ (by dsimp only;omega)
 . as_aux_lemma=>
   have ou:Z9v [b2,b3] lv l { C with fcts:=fs } { R with fv:=fv } y2:={ iM.ext hT.mn with ff:=Row.slv (X:=[b2,b3]) ab (λb hb=>by simp at hb;omega) }
   have ie:Z94 { C with fcts:=fs }:=⟨by dsimp only;omega,aP,pM,az.rl,az.ro,az.al,az.ao,az.cl,az.co,az.sl,az.so,az.cal,az.court,az.today⟩
   replace e2:=e2.ext hT (by simp;omega);replace hS:=hS.ow hT;replace l2:=e2.lt;replace l3:=e3.lt;replace sB:({ C with fcts:=fs }:Cas).ruls=[]:=sB;replace mC:({ C with fcts:=fs }:Cas).atts=[]:=mC;replace pL:({ R with fv:=fv }:Z0N).rv=.N:=pL;replace lO:({ R with fv:=fv }:Z0N).av=.N:=lO;clear iM az hT ab aV aP pM xm j4 ai;replace e3:Blk y2 b3 37 (Jh { C with fcts:=fs } { R with fv:=fv }):=e3;generalize ({ C with fcts:=fs }:Cas)=C at *;generalize ({ R with fv:=fv }:Z0N)=R at *;refine QO ?_;refine CL (Z1m lv l 80 _ bW) ?_;rintro v1 z1 ⟨h1,rfl⟩;repeat'(first|refine W1 ?_|omega|refine VG ?_ ?_<;>intro hg|refine VC ?_ ?_<;>intro hc)
   refine CM (ZN rfl) (Zhr [b2,b3] v1 _ _ (λb hb=>by simp at hb;omega) h1 (ea 80)) ?_;rintro gv z2 ⟨rs,h4,aB,mE,hT⟩;have ud:=ou.ext hT.mn;replace e2:=e2.up hT;replace e3:=e3.up hT;replace hS:=hS.trans hT;replace l2:=e2.lt;replace l3:=e3.lt;clear ou hT h1 bW;have pY:(rs.map RuleM.rul).length=rs.length:=Xu ..;have mW:=mE.max;refine QO ?_
   refine Zt (σ:=Nat×Value×List Cr) (λq=>[(0,lv),(2,pQ b2),(3,pQ b3),(5,gv),(6,.I (q.1:Int))])
    (λq W=>q.1<=rs.length/\q.2.2.length<=q.1/\(∀ x∈q.2.2,∃ r:RuleM,Z8t r/\Z0s r.rul=0/\x=crF r.rul)/\Row [b2,b3] W z2.heap.size 62 q.2.1 q.2.2/\Blk W b3 37 (Jh C { R with rv:=q.2.1 })/\Stp [b3] z2 W) (λq=>rs.length - q.1) (0,.N,[])
    ⟨rfl,rfl,rfl,rfl,rfl,trivial⟩ ⟨by omega,Xn _,by simp,Row.nil,by rw [<- pL];exact e3,Stp.refl _ _⟩ ?_
   clear e3;rintro ⟨j,rv,qs⟩ y1 ⟨hj,ai,aP,ab,e3,hT⟩;dsimp only at hj ai aP ab e3 ⊢;have aV:=λb hb=>ab.ob_le b hb;have fD:SlV [b2,b3] y1 gv (rs.map RuleM.rul):=mE.ext hT (by simp) (λ_ h=>.inl h);by_cases hlt:j<rs.length;have bW:j<(rs.map RuleM.rul).length:=by omega
   have hG:=aB _ (Xc hlt);have ox:(rs.map RuleM.rul)[j]=rs[j].rul:=by simp
   obtain ⟨ka,kb,jp,it,dI⟩:=Zka fD bW;rw [ox] at jp it;have fW:ZD rs[j].cond<=1000:=Xh hG.cond.size (by decide);have lp:ZD rs[j].due<=1000:=Xh hG.due.size (by decide);refine QO ?_;refine Z8 (Z8s rfl rfl fD bW dI) rfl ?_;rw [ox];refine CM (ZN rfl) (ZgG _ rs[j].rul _ ⟨ka,kb,rfl,jp.wk (by simp),it.wk (by simp)⟩ fW lp) ?_;rintro _ y2 ⟨cv,rfl,cb,hU⟩;obtain ⟨k1,d1,rfl,bG,cR⟩:=cb (ob rv++[b2,b3]) (λb hb=>by
    have:=hT.size;rcases Xg.1 hb with h|h
    exact (aV b h).2;simp at h;omega)
   clear cb fD jp it dI;replace ab:=ab.up hU;replace e3:=e3.up hU;replace hT:=hT.trans hU.mn;clear hU;refine W ?_;have yJ:=hT.size;refine Z0 Z2 rfl ?_;rintro _ y3 ⟨b7,rfl,fu,e7,hU⟩;have n37:b3≠b7:=by have:=e3.lt;omega
   have bK:=λb hb=>ab.ob_le b hb;replace ab:=ab.ext (X':=[b2,b3,b7]) hU (by simp) (λb hb=>by simp at hb ⊢;omega);replace e3:=e3.up hU;have nb7:∀ b∈b7 :: (ob rv++[b2,b3]),b∈ob rv++[b2,b3]\/y2.heap.size<=b:=λb hb=>by
    rcases Xb.1 hb with rfl|h
    exact .inr fu;exact .inl h
   replace bG:=bG.ext hU (by simp) nb7;replace cR:=cR.ext hU (by simp) nb7;replace hT:=hT.trans hU.mn;clear hU;refine SB (us:=crC (crF rs[j].rul) k1 d1) (Z0r bG cR) e7 ?_;rintro _ y4 ⟨hU,e7⟩;replace ab:=ab.ext (X':=[b2,b3]) hU (λb hb=>by
    simp only [Xk] at hb;subst hb;exact ⟨by simp,λh=>by have:=(bK _ h).2;omega⟩) (λb hb=>.inl (by simp at hb ⊢;omega))
   replace e3:=e3.ext hU (by simpa using n37);replace bG:=bG.ext (X':=ob rv++[b2,b3]) hU (by simp) (λb hb=>.inl (XL _ hb));replace cR:=cR.ext (X':=ob rv++[b2,b3]) hU (by simp) (λb hb=>.inl (XL _ hb));replace hT:=hT.ow hU;clear hU;by_cases he:Z0s rs[j].rul=0;refine QO ?_;have zT:=hT.size;refine APG (X:=[b2,b3]) (base:=z2.heap.size) (crF rs[j].rul) ab (λb hb=>by simp at hb;omega) (by omega) ⟨k1,d1,rfl,bG,cR⟩ (Xh (Xq _ (show qs.length+1<=10 by omega)) (by decide)) (by simp only [maxLen];omega) λv1 rv' y5 aC hU ib=>?_
   replace e3:=e3.ext hU (λh=>by have:=(bK _ h).1;omega);replace hT:=hT.own hU (λb hb=>.inr (bK b hb).1);clear hU;obtain ⟨pv,kv,rfl,-⟩:=id (Row.slv (X:=[b2,b3]) aC (λb hb=>by simp at hb;omega));refine QO ?_;refine Z5 (Zb (u:=.slice pv (qs++[crF rs[j].rul]).length kv) rfl rfl rfl rfl e3 (show (1:Nat)<19 by decide)) ?_;rintro _ y6 ⟨hU,e3⟩;replace e3:Blk y6 b3 37 (Jh C { R with rv:=.slice pv (qs++[crF rs[j].rul]).length kv }):=e3;replace hT:=hT.own hU (λb hb=>.inl hb);replace aC:=aC.ext (X':=[b2,b3]) hU (λb hb=>by
    simp only [Xk] at hb;subst hb;exact ⟨by simp,λh=>by have:=(aC.ob_le _ h).1;omega⟩) (λb hb=>.inl hb)
   clear hU;refine QO ?_;exact Zs (j+1,.slice pv (qs++[crF rs[j].rul]).length kv,qs++[crF rs[j].rul]) ⟨rfl,rfl,rfl,rfl,rfl,trivial⟩ ⟨by dsimp only;omega,by simp;omega,λz hz=>by
    rcases Xg.1 hz with h|h
    exact aP z h;simp only [Xk] at h;subst h;exact ⟨rs[j],hG,he,rfl⟩,aC,e3,hT⟩ (by dsimp only;omega)
   refine QO ?_;exact QL (j+1,rv,qs) ⟨by dsimp only;omega,by dsimp only;omega,aP,ab,e3,hT⟩ (by dsimp only;omega)
   . as_aux_lemma=>
     refine QO ?_;have oy:Z9v [b2,b3] lv l { C with ruls:=qs } { R with rv:=rv } y1:={ ud.ext hT.mn with rr:=Row.slv (X:=[b2,b3]) ab (λb hb=>by simp at hb;omega) }
     have ig:Z94 { C with ruls:=qs }:=⟨ie.fl,ie.fo,ie.en,by dsimp only;omega,aP,ie.al,ie.ao,ie.cl,ie.co,ie.sl,ie.so,ie.cal,ie.court,ie.today⟩
     replace e2:=e2.ext hT (by simp;omega);replace hS:=hS.ow hT;replace l2:=e2.lt;replace l3:=e3.lt;replace mC:({ C with ruls:=qs }:Cas).atts=[]:=mC;replace lO:({ R with rv:=rv }:Z0N).av=.N:=lO;replace e3:Blk y1 b3 37 (Jh { C with ruls:=qs } { R with rv:=rv }):=e3;clear ud ie hT ab aV aP sB pL ai fD mE;generalize ({ C with ruls:=qs }:Cas)=C at *;generalize ({ R with rv:=rv }:Z0N)=R at *;have bW:SlV [] y1 lv l:=oy.li.wk (by simp);refine CL (Z1m lv l 30 _ bW) ?_;rintro v3 u1 ⟨h3,rfl⟩;refine QO ?_;refine CL (Z1m lv l 30 _ bW) ?_;rintro v4 u2 ⟨pn,rfl⟩;have pB:=h3.max;have xn:=pn.max;refine QO ?_;refine Z8 (Z1Y (r:=min 4 (l.drop 30).length) rfl h3 rfl (by omega) (by omega)) rfl ?_;have h5:=h3.slc (l:=0) (r:=min 4 (l.drop 30).length) (by omega) (by omega);have pN:∀ a∈((l.drop 30).take (min 4 (l.drop 30).length)).drop 0,I64 a:=λa h=>ea 30 a (Yav (YaL h));have ue:(((l.drop 30).take (min 4 (l.drop 30).length)).drop 0).length<=4:=by simp only [Yar,Xx];omega
     refine CL (Zdn _ _ _ h5 pN ue) ?_;rintro sv u3 ⟨xs,uf,lP,mN⟩;have kA:SlV [b2,b3] u3 sv xs:=mN.slv (λb hb=>by simp at hb;omega);have hT:=mN.2;replace oy:=oy.ext hT.mn;replace e2:=e2.up hT;replace e3:=e3.up hT;replace hS:=hS.trans hT;clear hT h3 pn h5 pN ue mN pB xn bW;obtain ⟨ps,ks,rfl,-⟩:=id kA;refine QO ?_;refine Z5 (Zb (u:=.slice ps xs.length ks) rfl rfl rfl rfl e3 (show (4:Nat)<19 by decide)) ?_;rintro _ u4 ⟨hT,e3⟩;replace e3:Blk u4 b3 37 (Jh { C with stys:=xs } { R with sv:=.slice ps xs.length ks }):=e3;have oz:Z9v [b2,b3] lv l { C with stys:=xs } { R with sv:=.slice ps xs.length ks } u4:={ oy.ext hT.mn with ss:=kA.ext hT (by simp) (λ_ h=>.inl h) }
     have ii:Z94 { C with stys:=xs }:=⟨ig.fl,ig.fo,ig.en,ig.rl,ig.ro,ig.al,ig.ao,ig.cl,ig.co,uf,lP,ig.cal,ig.court,ig.today⟩
     replace e2:=e2.ext hT (by simp;omega);replace hS:=hS.ow hT;replace l2:=e2.lt;replace l3:=e3.lt;replace mC:({ C with stys:=xs }:Cas).atts=[]:=mC;replace lO:({ R with sv:=.slice ps xs.length ks }:Z0N).av=.N:=lO;clear oy ig hT kA uf lP;generalize ({ C with stys:=xs }:Cas)=C at *;generalize ({ R with sv:=.slice ps xs.length ks }:Z0N)=R at *;refine QO ?_
     refine Zt (σ:=Nat×Value×List Atp) (λq=>[(0,lv),(2,pQ b2),(3,pQ b3),(9,.I (q.1:Int))])
      (λq W=>q.1<=4/\q.2.2.length=q.1/\(∀ x∈q.2.2,Zlh C.crrs.length x)/\Row [b2,b3] W u4.heap.size 78 q.2.1 q.2.2/\Blk W b3 37 (Jh C { R with av:=q.2.1 })/\Stp [b3] u4 W) (λq=>5 - q.1) (0,.N,[])
      ⟨rfl,rfl,rfl,rfl,trivial⟩ ⟨by decide,rfl,by simp,Row.nil,by rw [<- lO];exact e3,Stp.refl _ _⟩ ?_
     clear e3;rintro ⟨j,av,as_⟩ y1 ⟨hj,ai,aP,ab,e3,hT⟩;dsimp only at hj ai aP ab e3 ⊢;have aV:=λb hb=>ab.ob_le b hb;have mD:=oz.ext hT.mn;have bW:SlV [] y1 lv l:=mD.li.wk (by simp);have cY:=mD.cc;have cE:=ii.cl;have sC:=cY.max;refine QO ?_;refine CM (ZK rfl rfl rfl) (ZZ [] _ l 12 5 _ (by decide) (by unfold I64;omega) bW hl) ?_;rintro _ y2 ⟨q,rfl,hq,hU⟩;replace ab:=ab.up hU;replace e3:=e3.up hU;replace bW:=bW.up hU;replace cY:=cY.up hU;replace hT:=hT.trans hU.mn;clear hU mD;obtain ⟨pc,kc,cb,-⟩:=id cY;by_cases hlt:(j:Int)<(q:Int)
     . as_aux_lemma=>
       have xo:j+1<=4:=by omega
       have iO:5 - (j+1)<5 - j:=by omega
       refine QO ?_;refine CM (ZK rfl rfl rfl) (ZZ [] _ l (13+(j:Int)) 1000000 _ (by decide) (by unfold I64;omega) bW hl) ?_;rintro _ y3 ⟨n,rfl,hn,hU⟩;replace ab:=ab.up hU;replace e3:=e3.up hU;replace bW:=bW.up hU;replace cY:=cY.up hU;replace hT:=hT.trans hU.mn;clear hU;refine QO ?_;have r1:0<=(n:Int) % 16/\(n:Int) % 16<=15:=by omega
       have r2:0<=(n:Int) / 16 % 3/\(n:Int) / 16 % 3<=2:=by omega
       have r3:0<=(n:Int) / 48 % (C.crrs.length:Int)/\(n:Int) / 48 % (C.crrs.length:Int)<C.crrs.length:=⟨Ya4 _ (by omega),YaR _ (by omega)⟩
       have r4:739616<=739616+(n:Int) / 768 % 40/\739616+(n:Int) / 768 % 40<=739655:=by omega
       generalize (n:Int) % 16=a1 at r1 ⊢;generalize (n:Int) / 16 % 3=a2 at r2 ⊢;generalize (n:Int) / 48 % (C.crrs.length:Int)=a3 at r3 ⊢;generalize 739616+(n:Int) / 768 % 40=a4 at r4 ⊢;refine Z7 rfl (Zli a1 a2 a3 a4) rfl ?_;have zT:=hT.size;refine Z0 Z2 rfl ?_;rintro _ y4 ⟨b,rfl,hb,e4,hU⟩;have n3:b3≠b:=by have:=e3.lt;omega
       have bK:=λb hb=>ab.ob_le b hb;replace ab:=ab.ext (X':=[b2,b3,b]) hU (by simp) (λc hc=>by simp at hc ⊢;omega);replace e3:=e3.up hU;replace bW:=bW.ext (X':=[b]) hU (by simp) (λc hc=>.inr (by simp at hc;omega));replace cY:=cY.ext (X':=[b]) hU (by simp) (λc hc=>.inr (by simp at hc;omega));replace hT:=hT.trans hU.mn;clear hU;refine SB (us:=atC ⟨a1,a2,a3,a4,[]⟩ (.N)) (ZfV (by rfl)) e4 ?_;rintro _ y5 ⟨hU,e4⟩;replace e3:=e3.ext hU (by simpa using n3);replace ab:=ab.ext (X':=[b2,b3,b]) hU (λc hc=>by
        simp only [Xk] at hc;subst hc;exact ⟨by simp,λh=>by have:=(bK _ h).2;omega⟩) (λc hc=>.inl hc)
       replace bW:=bW.ext (X':=[b]) hU (by simp) (λc hc=>.inl hc);replace cY:=cY.ext (X':=[b]) hU (by simp) (λc hc=>.inl hc);replace hT:=hT.ow hU;clear hU;refine QO ?_
       refine JK (σ:=Value×List Rtn) (λq=>[(0,lv),(2,pQ b2),(3,pQ b3),(9,.I (j:Int)),(11,pQ b)])
        (λq W=>(q.2.length<=3/\∀ x∈q.2,ZfS C.crrs.length x)/\Blk W b 78 (atC ⟨a1,a2,a3,a4,q.2⟩ q.1)/\Row [b2,b3] W u4.heap.size 78 av as_/\SlV (ob av++[b2,b3]) W q.1 q.2/\Blk W b3 37 (Jh C { R with av:=av })/\Stp [b3] u4 W) ?_ ?_
       . as_aux_lemma=>
         refine ZDr 20 [] [19] [(0,0),(1,0),(2,0),(3,0),(5,0),(6,0),(7,0),(8,0),(13,0),(14,1),(15,0),(16,1),(4,2),(9,2),(10,0),(11,0),(12,0),(17,2),(18,0),(19,2)] (λw1 ae=>?_);replace ab:=ab.up ae;replace e3:=e3.up ae;replace e4:=e4.up ae;replace bW:=bW.up ae;replace cY:=cY.up ae;replace hT:=hT.trans ae.mn;clear ae;have sD:=bW.wk (X':=[]) (by simp);have pO:=Z1m lv l (18+3 * j) _ sD;have rG:((18+3 * j:Nat):Int)=18+3 * (j:Int):=by omega
         rw [rG] at pO;refine QD ?_;refine DC pO (λ_ _ h=>by rw [h.2];exact Stp.refl _ _) ?_;rintro v5 u5 ⟨h5,rfl⟩;repeat'(first|refine D1 ?_|omega|refine Zk rfl rfl rfl rfl (λhg=>?_) (λhg=>?_)|(refine Zi rfl rfl rfl rfl (λhg=>?_) (λhg=>?_)<;>refine D1 ?_)|fail)
         refine DC pO (λ_ _ h=>by rw [h.2];exact Stp.refl _ _) ?_;rintro v6 u6 ⟨h6,rfl⟩;clear pO;have ub:=h5.max;refine QD ?_;refine JL rfl trivial (λ_=>Z1Y (r:=min 3 (l.drop (18+3 * j)).length) rfl h5 rfl (by omega) (by omega)) rfl ?_;have h7:=h5.slc (l:=0) (r:=min 3 (l.drop (18+3 * j)).length) (by omega) (by omega);have ug:∀ a∈((l.drop (18+3 * j)).take (min 3 (l.drop (18+3 * j)).length)).drop 0,I64 a:=λa h=>ea _ a (Yav (YaL h));have uh:(((l.drop (18+3 * j)).take (min 3 (l.drop (18+3 * j)).length)).drop 0).length<=3:=by simp only [Yar,Xx];omega
         repeat'(first|refine D1 ?_|omega|refine Zk rfl rfl rfl rfl (λhg=>?_) (λhg=>?_)|(refine Zi rfl rfl rfl rfl (λhg=>?_) (λhg=>?_)<;>refine D1 ?_)|fail)
         refine Za rfl trivial (Z4 rfl (ZK rfl rfl rfl) (Zdo _ R.cv _ C.crrs a4 _ h7 ug uh (cY.wk (by simp)) cE r4)) (λ_ _ h=>h.choose_spec.2.2.2) rfl ?_;rintro rv u7 ⟨rs7,dh,lE,fe⟩;have hU:=fe.2;have ay:SlV (b :: (ob av++[b2,b3])) u7 rv rs7:=fe.slv (λc hc=>by
          have:=hT.size;have:=e4.lt;rcases Xb.1 hc with rfl|hc
          omega;rcases Xg.1 hc with h|h
          have:=ab.ob_le c h;omega;simp at h;omega)
         replace ab:=ab.up hU;replace e3:=e3.up hU;replace e4:=e4.up hU;replace hT:=hT.trans hU.mn;clear hU fe h7 ug uh h5 h6;obtain ⟨pr,kr,rfl,-⟩:=id ay;refine QD ?_;refine Jr rfl trivial (Zb (u:=.slice pr rs7.length kr) rfl rfl rfl rfl e4 (show (4:Nat)<5 by decide)) rfl ?_;rintro _ u8 ⟨hU,e4⟩;replace e4:Blk u8 b 78 (atC ⟨a1,a2,a3,a4,rs7⟩ (.slice pr rs7.length kr)):=e4;replace e3:=e3.ext hU (by simpa using n3);have eC:=λb hb=>ab.ob_le b hb;replace ab:=ab.ext (X':=[b2,b3]) hU (λc hc=>by
          simp only [Xk] at hc;subst hc;exact ⟨by simp,λh=>by have:=(bK _ h).2;omega⟩) (λc hc=>.inl (by simp at hc ⊢;omega))
         replace hT:=hT.ow hU;refine QD ?_;exact QT (.slice pr rs7.length kr,rs7) ⟨⟨dh,lE⟩,e4,ab,ay.ext hU (by simp) (λc hc=>.inl (XL _ hc)),e3,hT⟩
       . clear ab e3 e4 hT bW cY
         as_aux_lemma=>
         rintro ⟨rv,rs7⟩ u8 ⟨⟨dh,lE⟩,e4,ab,ay,e3,hT⟩;dsimp only at dh lE e4 ay;have sE:Zlh C.crrs.length (⟨a1,a2,a3,a4,rs7⟩:Atp):=⟨r1,r2,r3,r4,dh,lE⟩
         clear r1 r2 r3 r4 dh lE hn sC cE;have eC:=λb hb=>ab.ob_le b hb;have zT8:=hT.size;have lf:=ay.max;refine QO ?_;refine APG (X:=[b2,b3]) (base:=u4.heap.size) (⟨a1,a2,a3,a4,rs7⟩:Atp) ab (λb hb=>by simp at hb;omega) (by omega) ⟨rv,rfl,ay⟩ (Xh (Xq _ (show as_.length+1<=10 by omega)) (by decide)) (by simp only [maxLen];omega) λv1 av' u9 aC hU ib=>?_
         replace e3:=e3.ext hU (λh=>by have:=(eC _ h).1;omega);replace hT:=hT.own hU (λb hb=>.inr (eC b hb).1);clear hU;obtain ⟨pv,kv,rfl,-⟩:=id (Row.slv (X:=[b2,b3]) aC (λb hb=>by simp at hb;omega));refine QO ?_;refine Z5 (Zb (u:=.slice pv (as_++[(⟨a1,a2,a3,a4,rs7⟩:Atp)]).length kv) rfl rfl rfl rfl e3 (show (2:Nat)<19 by decide)) ?_;rintro _ x1 ⟨hU,e3⟩;replace e3:Blk x1 b3 37 (Jh C { R with av:=.slice pv (as_++[(⟨a1,a2,a3,a4,rs7⟩:Atp)]).length kv }):=e3;replace hT:=hT.own hU (λb hb=>.inl hb);replace aC:=aC.ext (X':=[b2,b3]) hU (λc hc=>by
          simp only [Xk] at hc;subst hc;exact ⟨by simp,λh=>by have:=(aC.ob_le _ h).1;omega⟩) (λc hc=>.inl hc)
         clear hU;refine QO ?_;exact Zs (j+1,.slice pv (as_++[(⟨a1,a2,a3,a4,rs7⟩:Atp)]).length kv,as_++[(⟨a1,a2,a3,a4,rs7⟩:Atp)]) ⟨rfl,rfl,rfl,rfl,trivial⟩ ⟨xo,by simp [ai],λz hz=>by
          rcases Xg.1 hz with h|h
          exact aP z h;simp only [Xk] at h;subst h;exact sE,aC,e3,hT⟩ iO
     . as_aux_lemma=>
       have ui:Z9v [b2,b3] lv l { C with atts:=as_ } { R with av:=av } y2:={ oz.ext hT.mn with aa:=Row.slv (X:=[b2,b3]) ab (λb hb=>by simp at hb;omega) }
       have uj:Z94 { C with atts:=as_ }:=⟨ii.fl,ii.fo,ii.en,ii.rl,ii.ro,by dsimp only;omega,aP,ii.cl,ii.co,ii.sl,ii.so,ii.cal,ii.court,ii.today⟩
       replace e3:Blk y2 b3 37 (Jh { C with atts:=as_ } { R with av:=av }):=e3;replace e2:=e2.ext hT (by simp;omega);replace hS:=hS.ow hT;generalize ({ C with atts:=as_ }:Cas)=D at *;generalize ({ R with av:=av }:Z0N)=Q at *;refine QO ?_;refine SB (us:=Jh D Q) ui.cell e2 ?_;rintro _ x2 ⟨hU,e2⟩;have kF:=ui.ext hU.mn;have ah:=hS.ow hU;refine W ?_;refine J3 rfl rfl rfl e2 rfl ?_;exact .mk ⟨D,Q,rfl,⟨kF.ff.wk (by simp),kF.rr.wk (by simp),kF.aa.wk (by simp),kF.cc.wk (by simp),kF.ss.wk (by simp),⟨kF.ho.wk (by simp),kF.clo.wk (by simp),hL.up ah,hM.up ah,uj.cal.ok⟩,kF.one⟩,uj,ah⟩
theorem Z1z.own {w w0 W:World} {B:List Nat} {c:Cas} {R:Z0N} (hv:Z1z w c R) (h0:Stp [] w w0) (hB:∀ b∈B,w.heap.size<=b) (hS:Stp B w0 W):Z1z W c R:=hv.up (h0.own hS (λb hb=>.inr (hB b hb)))
theorem Row.low {α:Type} [Z6 α] {X:List Nat} {w} {a b T:Nat} {v:Value} {xs:List α} (h:Row X w b T v xs) (cU:a<=b):Row [] w a T v xs:=(h.lower cU).ext (Stp.refl [] w) (by simp) (by simp)
theorem Z1U (c:Cas) (R:Z0N) (w) (hv:Z1z w c R) (hs:Z4T c) :
 CC 19 #[.agg (Jh c R).toArray] w λv w'=>ZF 45 w w' v (J2 c):=by
 have dC:=hs.fl;refine cW1 43 Tryz.func19 ?_;refine W ?_;refine BX (Stp.refl [] w) λb1 w1 h1 e1 _ hS=>?_;replace e1:Blk w1 b1 37 (Jh c R):=e1;have l1:=e1.lt;refine W ?_;refine Z0 (Z13 Z7A) rfl ?_;rintro _ w2 ⟨r,rfl,hr,hm,hT⟩;have gr:w.heap.size<=r:=Xh hS.size hr;have lr:=hm.lt;have z2:=hT.size;replace e1:=e1.up hT;replace hS:=hS.trans hT;clear hT;refine Z0 Z2 rfl ?_;rintro _ w3 ⟨b3,rfl,dN,e3,hT⟩;have z3:=hT.size;replace e1:=e1.up hT;replace hm:=hm.up hT;replace hS:=hS.trans hT;clear hT;replace e3:Blk w3 b3 108 [.map none]:=e3;refine S1 (u:=.map (some r)) e3 ?_;rintro _ w4 ⟨hT,e3⟩;have z4:=hT.size;replace e3:Blk w4 b3 108 [.map (some r)]:=e3;replace e1:=e1.ext hT (by simp;omega);replace hm:=hm.ext hT (by simp;omega);replace hS:=hS.ow hT;have l3:=e3.lt;clear hT;refine W ?_;have od:=(hv.up hS).ff;refine W ?_
 refine Zt (σ:=Nat) (λk=>[(1,pQ b1),(3,pQ b3),(12,R.fv),(13,.I c.fcts.length),(14,.I k)])
  (λk W=>k<=c.fcts.length/\JM Z7A W r ((c.fcts.take k).map (λf=>(f,.B true)))/\Stp [r] w4 W) (λk=>c.fcts.length - k) 0 ⟨rfl,rfl,rfl,rfl,rfl,trivial⟩ ⟨by omega,by simpa using hm,Stp.refl _ _⟩ ?_
 clear hm od;rintro k w5 ⟨hk,hm,hT⟩;have uk:=hv.own hS (B:=[r]) (by simpa using gr) hT;by_cases hlt:k<c.fcts.length;have iw:=uk.ff;have e3':=e3.ext hT (by simp;omega);have hfresh:∀ x∈c.fcts.take k,x≠c.fcts[k]:=by
  have h:=hs.nd.sublist (List.take_sublist (k+1) c.fcts);rw [Xi hlt,Ybb] at h;exact λx hx=>h.2.2 x hx _ (by simp)
 refine QO ?_;refine Z0 Z2 rfl ?_;rintro _ w6 ⟨b5,rfl,jA,e5,hA⟩;refine SA (us:=Z3.enc c.fcts[k]) e5 ?_;rintro _ w7 ⟨dr,e5⟩;replace hA:=hA.ow dr;replace e3':=e3'.up hA;replace hm:=hm.up hA;refine QO ?_;refine Z5 (Z1Q (a:=c.fcts[k]) rfl rfl rfl hm (λp hp=>by
  obtain ⟨x,hx,rfl⟩:=XH.1 hp;exact hfresh x hx)) ?_
 rintro _ w8 ⟨jD,xp⟩;refine QO ?_;exact QL (k+1) ⟨hlt,by rw [Xi hlt,XR];exact jD,(hT.trans hA.mn).trans xp⟩ (by omega);obtain rfl:k=c.fcts.length:=by omega
 rw [Xo] at hm;have e1':=e1.ext hT (by simp;omega);refine QO ?_;have ul:SlV [r] w5 R.fv c.fcts:=hv.ff.ext (hS.ow hT) (by simp) (λb hb=>.inr (by simp at hb;omega))
 refine Zt (σ:=Nat×Value×Value) (λq=>[(1,pQ b1),(3,pQ b3),(6,q.2.2),(7,q.2.1),(8,.I q.1)])
  (λq W=>q.1<=16/\JM Z7A W r ((Zj c q.1).1.map (λf=>(f,.B true)))/\Stp [r] w4 W/\SlV [r] W q.2.1 (Zj c q.1).2.1/\Row [r] W w4.heap.size 45 q.2.2 (Zj c q.1).2.2) (λq=>16 - q.1) (0,R.fv,.N) ⟨rfl,rfl,rfl,rfl,rfl,trivial⟩
  ⟨by omega,hm,hT,ul,Row.nil⟩ ?_
 clear hm hT uk e1' ul;rintro ⟨k,nowv,ov⟩ Y ⟨hk,hm,hT,jP,ab⟩;dsimp only at hk hm hT jP ab ⊢;obtain ⟨q1,q2⟩:=Z8W hs hk;have q3:=(Z5u hs k).1;have hstop:=Z7o c (k:=k);have dV:Zj c (k+1)=(((Z0a c (Zj c k).2.1).foldl (JG c) ((Zj c k).1,[])).1,((Z0a c (Zj c k).2.1).foldl (JG c) ((Zj c k).1,[])).2,(Zj c k).2.2++((Z0a c (Zj c k).2.1).foldl (JG c) ((Zj c k).1,[])).2):=rfl;generalize um:Zj c k=S at *;obtain ⟨kn,now,out⟩:=S;dsimp only at *;have eJ:=λb hb=>ab.ob_le b hb;have zT:=hT.size;have uo:=jP.max;by_cases iL:k<16/\0<now.length;obtain ⟨g1,g2⟩:=iL;have oA:SlV [] Y nowv now:=jP.ext (Stp.refl [] Y) (by simp) (by simp);have f1:=e1.ext hT (by simp;omega);have f3:=e3.ext hT (by simp;omega);refine QO ?_;refine Z0 Z2 rfl ?_;rintro _ wA ⟨b9,rfl,ir,e9,hA⟩;replace e9:Blk wA b9 24 [.N]:=e9;have zA:=hA.size;have l9:=e9.lt;replace f1:=f1.up hA;replace f3:=f3.up hA;replace hm:=hm.up hA;have uq:=hT.trans hA.mn;have xq:Stp [] w wA:=hS.ow uq;have ur:SlV [r,b9] wA nowv now:=jP.ext hA (by simp) (λb hb=>by
  simp only [Xb,Xj,or_false] at hb;rcases hb with rfl|rfl
  exact .inl (by simp);exact .inr ir)
 have xr:Row [r,b9] wA w4.heap.size 45 ov out:=ab.ext hA (by simp) (λb hb=>by
  simp only [Xb,Xj,or_false] at hb;rcases hb with rfl|rfl
  exact .inl (by simp);exact .inr ir)
 clear oA hA;refine QO ?_;have cb:∀ Y',Stp [r,b9] wA Y'->Z1z Y' c R:=λY' h=>hv.own xq (B:=[r,b9]) (by simp;omega) h
 have hK:ZoR ⟨c,R,wA,b1,b3,r,b9,kn⟩:=⟨⟨by dsimp only;omega,by dsimp only;omega⟩,⟨by dsimp only;omega,by dsimp only;omega⟩,by dsimp only;omega,by dsimp only;omega,by dsimp only;omega,by dsimp only;omega,l9,f1,f3,λY' h=>(cb Y' h).rr⟩
 have je:=Zdi (ZeO _ hK) c R nowv now [r,b9] wA hs.ok cb (λY' h=>ur.ext h (λb hb=>hb) (by simp)) q3 (λj hj i hi ht=>⟨hi,by
  obtain ⟨o1,o2,o3⟩:=Zbu hs.ok (q3 _ (Xc hj)) ht;have:=(q3 _ (Xc hj)).day;rw [o1];omega,by
  have a1:=Z69 c (now.take j);have a2:=Z68 c now[j] i;have a3:=hs.rl;have a4:=Ybf (show (now.take j).length<=70000000000 by rw [Xx];omega) a3;rw [Xd];omega⟩) ⟨⟨.N,rfl,e9,Row.nil⟩,hm,Stp.refl _ _⟩
 refine CL je ?_;rintro _ W2 ⟨F,⟨⟨nv,rfl,e9,sF⟩,hm,pP⟩,-,-⟩;dsimp only at sF hm e9 pP;clear je hK cb ur;have yK:=Zad c hs.rl now kn;generalize (Z0a c now).foldl (JG c) (kn,[])=T at *;have iR:=λb hb=>sF.ob_le b hb;have zS:=pP.size;have xt:Row [r] W2 w4.heap.size 45 ov out:=xr.ext pP (λb hb=>⟨hb,λh=>by have:=eJ b h;simp at hb;omega⟩) (λb hb=>.inl (by simp at hb;simp [hb]));have sG:Row (ob ov++[r]) W2 wA.heap.size 45 nv T.2:=Z2d sF;have fc:SlV (ob ov++[r]) W2 nv T.2:=sG.slv (λb hb=>by
  rcases Xg.1 hb with h|h
  have:=eJ b h;omega;simp at h;omega)
 refine QO ?_;refine Z0 (ZQ (α:=Fct) (X:=[r]) (base:=w4.heap.size) rfl (by decide) rfl rfl xt fc (Xh (Xq _ (show out.length+T.2.length<=600000000000 by omega)) (by decide)) (by simp only [maxLen];omega) (by omega)) rfl ?_;rintro ov' W3 ⟨dh,cB,eC⟩;replace e9:=e9.ext cB (λh=>by have:=eJ _ h;omega);refine QO ?_;refine QL (k+1,nv,ov') ⟨by dsimp only;omega,?_,?_,?_,?_⟩ (by dsimp only;omega);rw [dV];exact hm.ext cB (λh=>by have:=eJ _ h;omega);exact (uq.own pP (λb hb=>by
  simp only [Xb,Xj,or_false] at hb;rcases hb with rfl|rfl
  exact .inl (by simp);exact .inr (by omega))).own cB (λb hb=>.inr (eJ b hb).1)
 rw [dV];exact fc.ext cB (λb hb=>by simp [hb]) (λb hb=>.inl (by simp at hb;simp [hb]));rw [dV];exact dh
 . have sH:out=(Zj c 16).2.2:=by
    by_cases gG:k=16;rw [gG] at um;rw [um];have hn:now=[]:=Xy.1 (by omega);have:=(hstop hn (16 - k)).1;rw [show k+(16 - k)=16 by omega] at this;exact this.symm
   have nN:out.length<=400000000000:=by omega
   clear hstop dV;repeat'(first|refine W1 ?_|omega|refine VG ?_ ?_<;>intro hg|refine VC ?_ ?_<;>intro hc)
   all_goals
    refine CL (Z7n ab nN) ?_;rintro _ W2 ⟨rfl,dm,ar⟩;refine W ?_;refine WR ?_;refine .mk ?_;rw [sH] at dm;exact ⟨Row.low dm (by have:=hS.size;omega),(hS.ow hT).own ar (λb hb=>.inr (by have:=eJ b hb;have:=hS.size;omega))⟩
end Go.Proofs.YtipfkbkkndacjaaGreatDoor
namespace Go.Eng
open Go Go.RowKit
variable {P:Program} {n:Nat} {e:Env} {w:World} {d:Option Nat} {ty:TypeId} {pos:String} {af:Array Edge} {g:Option (Nat×Bool)}
theorem Zlj {t tn T bytes k m:Nat} {kn:IntKind} {x y:Operand} {z:Value} [ht:Und P t (.slice T)] [hn:Und P tn (.int kn)] [hk:Siz P T m] [hb:Byt P T bytes] [hz:Zer P T z] (fW:z.cells.size=m) (hm:0<m)
 (hx:ev e x=some (.N)) (hy:ev e y=some (.I (k:Int))) (h0:0<k) (gT:k<=maxLen) (hbytes:k * bytes<=140737488355328) :
 OE P n ⟨d,.call { callee:=.builtin .append,args:=#[x,y],argTypes:=#[t,tn] },ty,pos,af,g⟩ e w
  (λv w'=>∃ c,v=.slice (some ⟨w.heap.size,0,none⟩) k c/\w'.ownsRow w.heap.size T m (.slice (some ⟨w.heap.size,0,none⟩) 0 c) 0 []/\Stp [] w w'):=by
 obtain ⟨i,hi,bM,cg,fE⟩:∃ i,P.info? T=some i/\i.size=m/\i.bytes=bytes/\i.zero=some z:=by
  have a1:=hk.h;have a2:=hb.h;have a3:=hz.h;cases hi:P.info? T with
  | none=>simp [hi] at a1
  | some i=>exact ⟨i,rfl,by simpa [hi] using a1,by simpa [hi] using a2,by simpa [hi] using a3⟩
 have bh:=Go.Lib.run_append_nil_zeros (P:=P) w t tn ty T i z .i64 kn ht.h hn.h hi fE k h0 (by omega) (by simp [maxLen] at gT;omega) (by rw [cg];omega);have kY:=grownCap_ge w k 0 T;have bH:(Builtin.zeroCells z.cells k++Builtin.zeroCells z.cells (grownCap w k 0 T - k)).size=grownCap w k 0 T * m:=by
  rw [Array.size_append,size_zeroCells,size_zeroCells,fW,<- Nat.add_mul];congr 1;omega
 refine Jd (v:=.slice (some ⟨w.heap.size,0,none⟩) k (grownCap w k 0 T)) (w':=w.drew.alloc (.cells (Builtin.zeroCells z.cells k++Builtin.zeroCells z.cells (grownCap w k 0 T - k)) T)) (λa ha=>?_) ⟨_,rfl,World.ownsRow_made w.drew _ _ (Xn _) (grownCap_le_maxLen w k 0 T gT) bH,(Stp.drew [] w).trans (Stp.alloc [] _ _)⟩;simp [execOp,resolve,invoke,builtin,ha.ev hx,ha.ev hy,bh]
end Go.Eng
namespace Go.Proofs.YtipfkbkkndacjaaGreatDoor
open Go Go.Eng Go.RowKit
theorem Zhu (k:Nat) (w) (hk:k<=1000000000000):CC 71 #[.N,.I (k:Int)] w λr w'=>ZF 45 w w' r ([]:List Fct):=by
 refine cW2 27 Tryz.func71 ?_;refine W ?_;have h0:SlV (α:=Fct) [] w (.N) []:=Zo _ _;have cV:([]:List Fct).length=0:=rfl;repeat'(first|refine W1 ?_|omega|refine VG ?_ ?_<;>intro hg|refine VC ?_ ?_<;>intro hc)
 apply Z8 (ZaZ rfl) rfl;by_cases fw:k=0;subst fw;refine QO ?_;refine WR ?_;exact .mk ZF.nil;refine QO ?_;apply Z8 (ZaZ rfl) rfl;apply Z8 (Z8i rfl rfl) rfl;refine W ?_;refine Z0 (Zlj (m:=6) (k:=k) rfl (by decide) rfl rfl (by omega) (by simp [maxLen];omega) (by omega)) rfl ?_;rintro _ w1 ⟨c,rfl,ce,hS⟩;replace h0:=h0.up hS;have hr:ZF 45 w w1 (.slice (some ⟨w.heap.size,0,none⟩) 0 c) ([]:List Fct):=⟨⟨[],rfl,λi h=>absurd h (Xw _),ce⟩,hS⟩
 refine W ?_;apply Z8 (Z9R rfl rfl) rfl;refine W ?_;refine WR ?_;exact .mk hr
theorem Zdu (v:Value) (xss:List (Sl Fct)) (w) (hs:SlV [] w v xss) (hl:xss.length<=1000) (ai:(xss.flatMap Sl.l).length<=1000000000000):CC 41 #[v] w λr w'=>ZF 45 w w' r (xss.flatMap Sl.l):=by
 have cw:∀ j,((xss.take j).flatMap Sl.l).length<=(xss.flatMap Sl.l).length:=λj=>by
  rw [<- XO j xss,Yam,Xd];simp only [XO];have:(xss.take j).flatMap Sl.l=((xss.take j++xss.drop j).take j).flatMap Sl.l:=by rw [XO]
  omega
 have hstep:∀ j (h:j<xss.length),(xss.take (j+1)).flatMap Sl.l=(xss.take j).flatMap Sl.l++xss[j].l:=λj h=>by
  rw [Xi h,Yam];simp
 refine cW1 36 Tryz.func41 ?_;refine W ?_;refine Z0h (σ:=Unit) (λ_=>[(0,v),(3,.I ((xss.flatMap Sl.l).length:Int))]) (λ_ w'=>w'=w) ?_ ?_;refine LP (σ:=Nat) (λj=>[(0,v),(9,v),(10,.I (xss.length:Int)),(3,.I (((xss.take j).flatMap Sl.l).length:Int)),(11,.I (j:Int))]) (λj w'=>j<=xss.length/\w'=w) (λj=>xss.length - j) 0 ⟨Xp _,rfl⟩ ?_;rintro j w2 ⟨hj,rfl⟩;by_cases hlt:j<xss.length;obtain ⟨u,aq,fH⟩:=hs.sub hlt;have oT:=fH.max;have h1:=cw j;have h2:=cw (j+1);have h3:=hstep j hlt;have h4:((xss.take (j+1)).flatMap Sl.l).length=((xss.take j).flatMap Sl.l).length+xss[j].l.length:=by rw [h3,Xd]
 refine QO ?_;apply Z8 (JC rfl rfl aq) rfl;refine QO ?_;refine Zs (j+1) ⟨rfl,rfl,rfl,by rw [h4,Ybn];rfl,rfl,trivial⟩ ⟨hlt,rfl⟩ (by omega);have du:j=xss.length:=by omega
 subst du;rw [Xo];refine QO ?_;exact QT () rfl;rintro _ w2 rfl;refine W ?_;refine CM (Zf rfl rfl) (Zhu _ _ (by omega)) ?_;rintro g w3 hr;refine W ?_;have eZ:=hs.up hr.2;refine W ?_;refine LP (σ:=Nat×Value) (λq=>[(6,q.2),(25,v),(26,.I (xss.length:Int)),(27,.I (q.1:Int))]) (λq w'=>q.1<=xss.length/\ZF 45 w2 w' q.2 ((xss.take q.1).flatMap Sl.l)) (λq=>xss.length - q.1) (0,g) ⟨Xp _,by simpa using hr⟩ ?_;clear hr eZ;rintro ⟨j,g⟩ w4 ⟨hj,hr⟩;dsimp only at hj hr ⊢;by_cases hlt:j<xss.length;have eA:SlV (ob g) w4 v xss:=hs.ext hr.2 (by simp) (λb hb=>.inr (hr.ob_le b hb).1);obtain ⟨u,aq,fH⟩:=eA.sub hlt;have h1:=cw j;have h2:=cw (j+1);have h3:=hstep j hlt;have h4:((xss.take (j+1)).flatMap Sl.l).length=((xss.take j).flatMap Sl.l).length+xss[j].l.length:=by rw [h3,Xd]
 refine QO ?_;apply Z8 (JC rfl rfl aq) rfl;refine QO ?_;refine Z0 (JE rfl (by decide) rfl rfl hr fH (by omega) (by simp only [maxLen];omega)) rfl ?_;rintro g' w5 ⟨bE,-,-⟩;refine W ?_;exact QL (j+1,g') ⟨hlt,by dsimp only;rw [h3];exact bE⟩ (by dsimp only;omega);have du:j=xss.length:=by omega
 subst du;rw [Xo] at hr;refine QO ?_;refine WR ?_;exact .mk hr
def JH (c:Cas):List Dln:=(Z0a c (Z2X (c.fcts++J2 c))).map Prod.fst
structure DlJ (w0:World) (b:Nat) (pre:List DI) (F:List Nat) (W:World):Prop where
 ex:∃ nv,F=b :: ob nv/\Blk W b 47 [nv]/\Row [b] W w0.heap.size 56 nv (pre.map Prod.fst)
 stp:Stp [b] w0 W
 lt:b<w0.heap.size
theorem Zhv (w0:World) (b:Nat) (mc:b<w0.heap.size):Yld (.func (.func 45) #[] #[pQ b]) 45 #[pQ b] (DlJ w0 b) (λpre d i=>pre.length<=900000000000):=by
 refine ⟨rfl,?_,?_,?_⟩;rintro pre F Y ⟨⟨nv,rfl,e,ab⟩,hS,hb⟩ x hx;have:=hS.size;simp only [Xb] at hx;rcases hx with rfl|hx
 omega;exact (ab.ob_le x hx).2;rintro pre F Y Y' ⟨⟨nv,rfl,e,ab⟩,hS,hb⟩ hT;exact ⟨⟨nv,rfl,e.up hT,ab.up hT⟩,hS.trans hT.mn,hb⟩;rintro pre F d dv i Y ⟨⟨nv,rfl,e,ab⟩,hS,hb⟩ ay bZ;have eJ:=λx hx=>ab.ob_le x hx;have zS:=hS.size;have bN:=ay.one;refine cW3 9 Tryz.func45 ?_;refine W ?_;refine BX (Stp.refl [] Y) λb3 w1 h3 e3 hT _=>?_;replace e3:Blk w1 b3 56 (dlC d dv):=e3;replace e:=e.up hT;replace ab:=ab.up hT;have zT:=hT.size;have jN:SlV (ob nv++[b]) w1 dv d.reas:=ay.ext hT (by simp) (λx hx=>by
  rcases Xg.1 hx with h|h
  exact .inl (by simp [h]);exact .inl (by simp at h;simp [h]))
 refine W ?_;refine APG (X:=[b]) (base:=w0.heap.size) (cs:=dlC d dv) d ab (λx hx=>by simp at hx;omega) (by omega) ⟨dv,rfl,jN⟩ (by rw [Xu];exact Xh (Xq _ (show pre.length+1<=900000000001 by omega)) (by decide)) (by rw [Xu];simp only [maxLen];omega) λv1 nv' w2 dm ar aV=>?_
 have eb:b<w1.heap.size:=e.lt;replace e:=e.ext ar (λh=>by have:=eJ _ h;omega);refine W ?_;have oB:SlV [b] w2 nv' (pre.map Prod.fst++[d]):=dm.slv (λx hx=>by simp at hx;omega);refine Z5 (Zb (u:=nv') rfl rfl oB.cells oB.one e (by simp)) ?_;rintro _ w3 ⟨cB,e⟩;refine W ?_;refine WR ?_;have iR:=λx hx=>dm.ob_le x hx;have oD:Stp (b :: ob nv) w1 w3:=(ar.mono (λx hx=>by simp [hx])).trans cB.mn;refine .mk ⟨b :: ob nv',⟨⟨nv',rfl,e,?_⟩,?_,hb⟩,hT.mn.trans oD,λx hx=>?_⟩;rw [XR];exact dm.ext cB (λx hx=>⟨hx,λh=>by have:=iR x h;simp at hx;omega⟩) (λx hx=>.inl hx);exact (hS.trans hT.mn).own oD (λx hx=>by
  rcases Xb.1 hx with rfl|hx
  exact .inl (by simp);exact .inr (eJ x hx).1)
 rcases Xb.1 hx with rfl|hx
 exact .inl (by simp);rcases aV x hx with h|h
 exact .inl (by simp [h]);exact .inr (by omega)
theorem Z95 {c:Cas} (h:Z4T c):(J2 c).length<=92000000000:=by
 unfold J2;rw [(Jf _).length_eq];exact (Z8W h (Xn _)).2
theorem Z96 {c:Cas} (h:Z4T c):∀ f∈J2 c,Z0Z f:=λf hf=>(Z5u h 16).2 f ((Jf _).mem_iff.1 hf)
theorem Zoe (p q:Option Addr) (l m c d:Nat) (w):(Instr.buildSlice 153 2 #[(0,.slice p l c),(1,.slice q m d)]).run Tryz.prog w=.ok (.slice (some ⟨w.heap.size,0,none⟩) 2 2) (w.alloc (.cells #[.slice p l c,.slice q m d] 24)):=by kernel_rfl
theorem Zdv {α:Type} [Z6 α] {X:List Nat} {w} {v:Value} {xs:List α} (h:SlV X w v xs):∃ p c,v=.slice p xs.length c:=by
 obtain ⟨p,c,h,_⟩:=h;exact ⟨p,c,h⟩
theorem Z10 (c:Cas) (R:Z0N) (w) (hv:Z1z w c R) (hs:Z4T c) :
 CC 17 #[.agg (Jh c R).toArray] w λv w'=>Row [] w' w.heap.size 56 v (JH c)/\Stp [] w w':=by
 have dC:=hs.fl;have bI:=Z95 hs;refine cW1 18 Tryz.func17 ?_;refine W ?_;refine BX (Stp.refl [] w) λb1 w1 h1 e1 _ hS=>?_;replace e1:Blk w1 b1 37 (Jh c R):=e1;refine W ?_;refine ZDr 7 [] [] [(0,0),(1,1),(2,1),(3,2),(4,2),(5,2),(6,0)] (λw1 ae=>?_);replace e1:=e1.up ae;replace hS:=hS.trans ae;clear ae;refine D ?_;refine DC (Z1U c R _ (hv.up hS) hs) (λ_ _ h=>h.2) ?_;rintro fv w2 hr;have eE:JH c=(Z0a c (Z2X (c.fcts++J2 c))).map Prod.fst:=rfl;have rP:=Z96 hs;generalize J2 c=G at *;have ah:=hS.trans hr.2;replace e1:=e1.up hr.2;have iw:=(hv.up ah).ff;have oE:SlV [] w2 fv (G):=hr.slv (by simp);obtain ⟨p1,c1,fa⟩:=Zdv iw;obtain ⟨p2,c2,fZ⟩:=Zdv oE;rw [fa,fZ];rw [fa] at iw;rw [fZ] at oE;refine Za rfl trivial (Z1 (vs:=[(0,.slice p1 c.fcts.length c1),(1,.slice p2 (G).length c2)]) rfl (Zoe _ _ _ _ _ _)) (λ_ _ h=>Z9.stp h) rfl ?_;rintro v3 w3 hN;have kA:SlV [] w3 v3 [(⟨c.fcts⟩:Sl Fct),⟨G⟩]:=hN.slvS (by simp) rfl rfl (λi hi cH=>by
  match i,hi with
  | 0,_=>exact iw
  | 1,_=>exact oE) (by simp [maxLen])
 have hT:=Z9.stp hN;replace e1:=e1.up hT;have z13:=e1.lt;replace ah:=ah.trans hT;have cY:=Zdu v3 _ w3 kA (by simp) (by simp;omega);rw [show [(⟨c.fcts⟩:Sl Fct),⟨G⟩].flatMap Sl.l=c.fcts++G by simp] at cY;refine DC cY (λ_ _ h=>h.2) ?_;rintro lv w4 hl;refine D ?_;replace e1:=e1.up hl.2;have z1:=e1.lt;replace ah:=ah.trans hl.2;have mh:=λb hb=>hl.ob_le b hb;have z3:=(hS.trans hr.2).size;have z3':=hT.size;clear iw oE hN hT kA cY hr hS;refine W ?_;refine CM (Zf rfl rfl) (Z7n hl.1 (by rw [Xd];omega)) ?_;rintro _ w5 ⟨rfl,pN,ec⟩;have qV:b1∉ob lv:=λh=>by have:=mh _ h;omega
 replace e1:=e1.ext ec qV;have aD:Stp [] w w5:=ah.own ec (λb hb=>.inr (by have:=mh b hb;omega));generalize hL:Z2X (c.fcts++G)=L at *;have yL:L.length<=92000000016:=by rw [<- hL,(Jf _).length_eq,Xd];omega
 have xu:∀ f∈L,Z0Z f:=λf hf=>by
  rw [<- hL,(Jf _).mem_iff] at hf;rcases Xg.1 hf with h|h
  exact hs.fo f h;exact rP f h
 refine W ?_;refine Z0 Z2 rfl ?_;rintro _ w6 ⟨b4,rfl,bz,e4,jM⟩;replace e4:Blk w6 b4 47 [.N]:=e4;have z4:=e4.lt;replace e1:=e1.up jM;have dp:=aD.trans jM;have ay:SlV [b4] w6 lv L:=SlV.ext (X:=[]) (pN.slv (by simp)) jM (by simp) (λx hx=>.inr (by simp at hx;omega));have g4:w.heap.size<=b4:=by have:=aD.size;omega
 refine W ?_;have je:=Zdi (Zhv w6 b4 z4) c R lv L [b4] w6 hs.ok (λY hY=>hv.own dp (B:=[b4]) (by simpa using g4) hY) (λY hY=>ay.ext hY (λx hx=>hx) (by simp)) xu (λj hj i hi ht=>by
  have a1:=Z69 c (L.take j);have a2:=Z68 c L[j] i;have a3:=hs.rl;have a4:=Ybf (show (L.take j).length<=220000000000 by rw [Xx];omega) a3;rw [Xd];omega) ⟨⟨.N,rfl,e4,Row.nil⟩,Stp.refl _ _,z4⟩
 refine CL je ?_;rintro _ w7 ⟨F,⟨⟨nv,rfl,e4',ab⟩,aR,-⟩,-,-⟩;refine W ?_;refine WR ?_;refine .mk ⟨?_,dp.ow aR⟩;rw [eE];exact Row.low ab (by have:=dp.size;omega)
open Go Go.Eng Go.RowKit Go.Proofs
theorem Z97 {q:Cr} (h:Zby q=0):Z29 q.cnd=(2,0)/\Z29 q.due=(3,0):=by
 unfold Zby at h;split at h;cases h;rename_i hb;unfold Z0H at hb;simp only [Yay,decide_eq_true_eq,not_or,Decidable.not_not] at hb;obtain ⟨⟨⟨⟨⟨⟨⟨⟨⟨a1,a2⟩,a3⟩,a4⟩,-⟩,-⟩,-⟩,-⟩,-⟩,-⟩:=hb;exact ⟨Prod.ext a3 a1,Prod.ext a4 a2⟩
theorem Zam.lt {l:List Fct} (h:Zam l) {i j:Nat} (hi:i<j) (hj:j<l.length):(l[i]'(by omega)).entry<l[j].entry:=by
 have h1:=h i (by omega);have h2:=h j hj;omega
theorem Zam.nodup {l:List Fct} (h:Zam l):l.Nodup:=by
 unfold List.Nodup;rw [Yao];intro i j hi hj dJ e;have:=h.lt dJ hj;rw [e] at this;omega
theorem Z94.att {c:Cas} (h:Z94 c):ZnH c.atts c.crrs:=by
 have je:=h.al;refine ⟨by omega,λa ha=>?_,λa ha=>(h.ao a ha).crr,λa ha=>?_⟩;have hx:=h.ao a ha;have hl:=hx.len;exact ⟨by omega,λr hr=>(hx.rets r hr).crr,λx hx=>(h.co x hx).tol,λr hr=>⟨(hx.rets r hr).lo.1,(hx.rets r hr).lo.2,(hx.rets r hr).hi.1,(hx.rets r hr).hi.2⟩⟩;have:=(h.ao a ha).sent;omega
theorem Z94.cas {c:Cas} (h:Z94 c):Z4T c:=by
 have dC:=h.fl;have jk:=h.rl;have ay:=h.sl;have ol:=h.court;have mB:=h.today;have hv:∀ q∈c.ruls,Z29 q.cnd=(2,0)/\Z29 q.due=(3,0):=λq hq=>by
  obtain ⟨r,-,hr,rfl⟩:=h.ro q hq;exact Z97 (Z93 r.rul hr).2
 refine ⟨⟨by omega,by omega,λq hq=>(hv q hq).1,λq hq=>(hv q hq).2,h.att,λx hx=>(h.co x hx).ext,⟨by omega,λs hs=>⟨(h.so s hs).lo,(h.so s hs).le,(h.so s hs).hi⟩⟩,by omega,by omega⟩,by omega,jk,λf hf=>(h.fo f hf).ok,h.en.nodup⟩
theorem Zan (x:Fct):Z3n x x=0:=by have:=Z1r.anti x x;omega
theorem Zao (l:List Fct):∀ k,k<l.length->Z2o l k∈l/\∀ i (h:i<l.length),i<=k->Z3n (Z2o l k) l[i]<=0
 | 0, h => by
   rw [Z2o];have e:l.getD 0 default=l[0]:=by simp [h]
   rw [e];refine ⟨Xc h,λi hi h0=>?_⟩;obtain rfl:i=0:=by omega
   rw [Zan];omega
 | k + 1, h => by
   obtain ⟨h1,h2⟩:=Zao l k (by omega);have e:l.getD (k+1) default=l[k+1]:=by simp [h]
   rw [Z2o,e];split;rename_i hc;refine ⟨Xc h,λi hi ut=>?_⟩;by_cases ei:i=k+1;subst ei;rw [Zan];omega;exact Z1r.trans _ _ _ (by omega) (h2 i hi (by omega));rename_i hc;refine ⟨h1,λi hi ut=>?_⟩;by_cases ei:i=k+1;subst ei;have:=Z1r.anti l[k+1] (Z2o l k);omega;exact h2 i hi (by omega)
theorem Zdw {l:List Fct} (h:l≠[]):Z2o l (l.length - 1)∈l/\∀ x∈l,Z3n (Z2o l (l.length - 1)) x<=0:=by
 have hl:0<l.length:=XU.2 h;obtain ⟨h1,h2⟩:=Zao l (l.length - 1) (by omega);refine ⟨h1,λx hx=>?_⟩;obtain ⟨i,hi,rfl⟩:=Xr hx;exact h2 i hi (by omega)
theorem Zhw {fs gs:List Fct} (hp:fs.Perm gs) (f:Fct) (unl:Str) (due:Int):Z9o fs f unl due=Z9o gs f unl due:=by
 have hq:(Z2S fs f unl due).Perm (Z2S gs f unl due):=hp.filter _;unfold Z9o;by_cases h:Z2S fs f unl due=[]
 have h':Z2S gs f unl due=[]:=by rw [h] at hq;exact hq.symm.eq_nil
 rw [if_pos h,if_pos h'];have h':¬ Z2S gs f unl due=[]:=λg=>h (by rw [g] at hq;exact hq.eq_nil)
 rw [if_neg h,if_neg h'];obtain ⟨a1,a2⟩:=Zdw h;obtain ⟨b1,b2⟩:=Zdw h';have c1:=a2 _ (hq.mem_iff.2 b1);have c2:=b2 _ (hq.mem_iff.1 a1);congr 1;have:=Z1r.anti (Z2o (Z2S fs f unl due) ((Z2S fs f unl due).length - 1)) (Z2o (Z2S gs f unl due) ((Z2S gs f unl due).length - 1));exact Zab (by omega)
def Giv (c:Cas) (l:List DI) (f:Fct):Prop:=∃ p∈l,(Z1N c p.1 p.2).2=true/\f=(Z1N c p.1 p.2).1
structure Zxf (c:Cas) (l:List DI) (s t:List Fct×List Fct):Prop where
 m1:∀ f,f∈t.1↔f∈s.1\/Giv c l f
 m2:∀ f,f∈t.2↔f∈s.2\/(f∉s.1/\Giv c l f)
 n1:s.1.Nodup->t.1.Nodup
 n2:s.2.Nodup->(∀ f∈s.2,f∈s.1)->t.2.Nodup
theorem Z6c (c:Cas) (p:DI) (l:List DI) (f:Fct):Giv c (p :: l) f↔((Z1N c p.1 p.2).2=true/\f=(Z1N c p.1 p.2).1)\/Giv c l f:=by
 unfold Giv;simp
theorem Z2Y (c:Cas):∀ (l:List DI) (s:List Fct×List Fct),Zxf c l s (l.foldl (JG c) s)
 | [],s=>⟨λf=>by simp [Giv],λf=>by simp [Giv],id,λh _=>h⟩
 | p :: l, s => by
   rw [XX];have ih:=Z2Y c l (JG c s p);generalize l.foldl (JG c) (JG c s p)=t at ih;obtain ⟨i1,i2,i3,i4⟩:=ih;by_cases hc:(Z1N c p.1 p.2).2=true/\(Z1N c p.1 p.2).1∉s.1;have e:JG c s p=(s.1++[(Z1N c p.1 p.2).1],s.2++[(Z1N c p.1 p.2).1]):=if_pos hc;rw [e] at i1 i2 i3 i4;dsimp only at i1 i2 i3 i4;obtain ⟨c1,c2⟩:=hc;refine ⟨λf=>?_,λf=>?_,λh=>i3 ?_,λh g=>i4 ?_ ?_⟩;rw [i1,Z6c];simp only [Xg,Xk];constructor;rintro ((h|h)|h);exact .inl h;exact .inr (.inl ⟨c1,h⟩);exact .inr (.inr h);rintro (h|⟨_,h⟩|h);exact .inl (.inl h);exact .inl (.inr h);exact .inr h;rw [i2,Z6c];simp only [Xg,Xk];constructor;rintro ((h|h)|⟨h1,h2⟩);exact .inl h;subst h;exact .inr ⟨c2,.inl ⟨c1,rfl⟩⟩;exact .inr ⟨λg=>h1 (.inl g),.inr h2⟩;rintro (h|⟨h1,⟨_,h⟩|h⟩);exact .inl (.inl h);exact .inl (.inr h);by_cases e:f=(Z1N c p.1 p.2).1;exact .inl (.inr e);exact .inr ⟨λg=>g.elim h1 e,h⟩;rw [Ybb];exact ⟨h,by simp,λa ha b hb=>by simp at hb;subst hb;exact λe=>c2 (e ▸ ha)⟩;rw [Ybb];exact ⟨h,by simp,λa ha b hb=>by simp at hb;subst hb;exact λe=>c2 (e ▸ g a ha)⟩;intro f hf;rcases Xg.1 hf with h'|h'
   exact Xg.2 (.inl (g f h'));exact Xg.2 (.inr h');have e:JG c s p=s:=if_neg hc;rw [e] at i1 i2 i3 i4;refine ⟨λf=>?_,λf=>?_,i3,i4⟩;rw [i1,Z6c];constructor;rintro (h|h);exact .inl h;exact .inr (.inr h);rintro (h|⟨h1,h2⟩|h);exact .inl h;subst h2;exact .inl (Decidable.byContradiction λg=>hc ⟨h1,g⟩);exact .inr h;rw [i2,Z6c];constructor;rintro (h|⟨h1,h2⟩);exact .inl h;exact .inr ⟨h1,.inr h2⟩;rintro (h|⟨h1,⟨h2,h3⟩|h⟩);exact .inl h;subst h3;exact absurd ⟨h2,h1⟩ hc;exact .inr ⟨h1,h⟩
theorem Zhx {c:Cas} {fs:List Fct} (hp:fs.Perm c.fcts) (f:Fct) (r:Int):JB { c with fcts:=fs } f r=JB c f r:=by
 unfold JB mkD opn evL;simp only [Zhw hp]
theorem Zap {c:Cas} {fs:List Fct} (hp:fs.Perm c.fcts) (f:Fct):∀ i,Z2p { c with fcts:=fs } f i=Z2p c f i
 | 0=>rfl
 | i+1=>by rw [Z2p,Z2p,Zap hp f i,Zhx hp]
theorem Zaq {c:Cas} {fs:List Fct} (hp:fs.Perm c.fcts) (l:List Fct):Z0a { c with fcts:=fs } l=Z0a c l:=by
 unfold Z0a;simp only [Zap hp]
theorem Z9w {c:Cas} {l m:List Fct} (hp:l.Perm m) (p:DI):p∈Z0a c l↔p∈Z0a c m:=by
 unfold Z0a;simp only [YaZ,hp.mem_iff]
theorem Z7q {c:Cas} {fs:List Fct} (hp:fs.Perm c.fcts) (hn:c.fcts.Nodup):∀ k,(Zj { c with fcts:=fs } k).1.Perm (Zj c k).1/\(Zj { c with fcts:=fs } k).2.1.Perm (Zj c k).2.1/\(Zj { c with fcts:=fs } k).2.2.Perm (Zj c k).2.2/\(Zj c k).1.Nodup/\(Zj { c with fcts:=fs } k).1.Nodup
 | 0=>⟨hp,hp,Yaj _,hn,hp.symm.nodup hn⟩
 | k + 1 => by
   obtain ⟨h1,h2,h3,h4,h5⟩:=Z7q hp hn k;rw [Zj,Zj];dsimp only;rw [Zaq hp];have s1:=Z2Y { c with fcts:=fs } (Z0a c (Zj { c with fcts:=fs } k).2.1) ((Zj { c with fcts:=fs } k).1,[]);have s2:=Z2Y c (Z0a c (Zj c k).2.1) ((Zj c k).1,[]);generalize (Z0a c (Zj { c with fcts:=fs } k).2.1).foldl (JG { c with fcts:=fs }) ((Zj { c with fcts:=fs } k).1,[])=t1 at *;generalize (Z0a c (Zj c k).2.1).foldl (JG c) ((Zj c k).1,[])=t2 at *;have hg:∀ f,Giv { c with fcts:=fs } (Z0a c (Zj { c with fcts:=fs } k).2.1) f↔Giv c (Z0a c (Zj c k).2.1) f:=λf=>by
    unfold Giv;simp only [Z9w h2];rfl
   have lj:=s1.n1 h5;have jG:=s2.n1 h4;have gP:=s1.n2 (by simp) (by simp);have eG:=s2.n2 (by simp) (by simp);have fa:t1.1.Perm t2.1:=(List.perm_ext_iff_of_nodup lj jG).2 (λf=>by rw [s1.m1,s2.m1,hg,h1.mem_iff]);have fZ:t1.2.Perm t2.2:=(List.perm_ext_iff_of_nodup gP eG).2 (λf=>by rw [s1.m2,s2.m2,hg,h1.mem_iff]);exact ⟨fa,fZ,h3.append fZ,jG,lj⟩
theorem Z7r {c:Cas} {fs:List Fct} (hp:fs.Perm c.fcts) (hn:c.fcts.Nodup):J2 { c with fcts:=fs }=J2 c:=by
 unfold J2;exact Z55 (Z7q hp hn 16).2.2.1
theorem ZeU {c:Cas} {fs:List Fct} (hp:fs.Perm c.fcts) (hn:c.fcts.Nodup):JH { c with fcts:=fs }=JH c:=by
 unfold JH;rw [Zaq hp,Z7r hp hn];exact congrArg (λl=>(Z0a c l).map Prod.fst) (Z55 (hp.append_right _))
def ltr (i:Nat) (c:Int):Prop:=(97<=c/\c<=122)\/(48<=c/\c<=57/\i≠0)
instance (i:Nat) (c:Int):Decidable (ltr i c):=by unfold ltr;infer_instance
def Zar (s:Str):Bool:=decide ((∀ i,i<s.length->ltr i (Jg s i))/\s≠[]/\s.length<=12)
theorem Zlk (s:Str) (w) (hm:(s.length:Int)<=maxLen):CC 356 #[str s] w λr w'=>r=.B (Zar s)/\Stp [] w w':=by
 simp only [maxLen] at hm;refine cW1 49 Tryz.func356 ?_;refine W ?_;refine LP (σ:=Nat) (λi=>[(0,str s),(7,.I (s.length:Int)),(8,.I (i:Int))]) (λi w'=>i<=s.length/\Stp [] w w'/\∀ j,j<i->ltr j (Jg s j)) (λi=>s.length - i) 0 ⟨Xp _,Stp.refl _ _,λj h=>absurd h (Xw _)⟩ ?_;rintro i w2 ⟨hi,hS,aB⟩
 try dsimp only at hi aB ⊢
 by_cases pX:¬ s.length<=i
 . have bg:¬ ltr i (Jg s i)->Zar s=false:=λh=>decide_eq_false (λk=>h (k.1 i (by omega)))
   have dO:ltr i (Jg s i)->∀ j,j<i+1->ltr j (Jg s j):=λh j hj=>by
    by_cases e:j=i;subst e;exact h;exact aB j (by omega)
   generalize iA:Jg s i=b at bg dO;have ft:(97<=b/\b<=122)->ltr i b:=.inl;have d8:(48<=b/\b<=57/\i≠0)->ltr i b:=.inr;have iG:¬ (97<=b/\b<=122)->¬ (48<=b/\b<=57/\i≠0)->¬ ltr i b:=λh1 h2 h=>h.elim h1 h2;subst iA;by_cases c1:97<=Jg s i;all_goals by_cases c2:Jg s i<=122
   all_goals by_cases c3:48<=Jg s i
   all_goals by_cases c4:Jg s i<=57
   all_goals by_cases c5:(i:Int)=0
   all_goals try omega
   all_goals
    refine QO ?_;refine ZDr 22 [] [] [(0,0),(1,0),(2,0),(3,0),(4,0),(5,0),(6,0),(7,0),(8,0),(9,0),(10,0),(11,0),(12,0),(13,0),(14,0),(15,0),(16,0),(17,0),(18,0),(19,0),(20,0),(21,0)] (λw1 ae=>?_);have aN:=hS.trans ae;refine QD ?_;refine QO ?_
   all_goals first
    | exact QL (i+1) ⟨by omega,aN,dO (by first|exact ft ⟨c1,c2⟩|exact d8 ⟨c3,c4,by omega⟩)⟩ (by omega)
    | (refine RU ?_
       exact ⟨by rw [bg (iG (by omega) (by omega))],aN⟩)
 obtain rfl:i=s.length:=by omega
 by_cases h0:s=[]
 subst h0;refine RT ?_;exact ⟨rfl,hS⟩;by_cases mu:s.length<=12
 . (refine QP ?_ ?_<;>intro hg)
   all_goals try contradiction
   all_goals
    refine RU ?_;exact ⟨by rw [show Zar s=true from decide_eq_true ⟨aB,h0,mu⟩,decide_eq_true (by omega)],hS⟩
 . (refine QP ?_ ?_<;>intro hg)
   all_goals try contradiction
   all_goals
    refine RU ?_;exact ⟨by rw [show Zar s=false from decide_eq_false (λh=>mu h.2.2),decide_eq_false (by omega)],hS⟩
theorem Zbz (n m:Int) (w):CC 333 #[.I n,.I m] w λr w'=>r=.B (decide (0<=n/\n<m))/\Stp [] w w':=by
 refine cW2 12 Tryz.func333 ?_
 (refine QP ?_ ?_<;>intro hg)
 refine RU ?_;exact ⟨by congr 1;rw [decide_eq_decide];exact ⟨λh=>⟨by omega,h⟩,λh=>h.2⟩,Stp.refl _ _⟩;refine RU ?_;exact ⟨by congr 1;symm;exact decide_eq_false (λh=>by omega),Stp.refl _ _⟩
def VOk (f:Fct):Prop:=(0<=f.entry/\f.entry<65536)/\Zar f.kind=true/\(0<=f.day/\f.day<3652059)/\(0<=f.by_/\f.by_<64)/\(0<=f.to_/\f.to_<64)/\-2147483647<=f.amt/\f.amt<=2147483647
instance (f:Fct):Decidable (VOk f):=by unfold VOk;infer_instance
theorem Zhy (f:Fct) (w) (hm:(f.kind.length:Int)<=maxLen):CC 334 #[aG f] w λr w'=>r=.B (decide (VOk f))/\Stp [] w w':=by
 refine cW1 36 Tryz.func334 ?_;refine W ?_;refine BX (Stp.refl [] w) λb1 w1 h1 e1 _ hS=>?_;replace e1:Blk w1 b1 45 (Z3.enc f):=e1;refine QO ?_;refine CP hS (Zbz f.entry 65536 _) λw3 hT hS=>?_;replace e1:=e1.up hT;clear hT;by_cases h0:(0<=f.entry/\f.entry<65536)
 rotate_left
 rw [decide_eq_false h0];refine RT ?_;exact ⟨by rw [decide_eq_false (λh=>h0 (h.1))],hS⟩;rw [decide_eq_true h0];refine QO ?_;refine CP hS (Zlk f.kind _ hm) λw4 hT hS=>?_;replace e1:=e1.up hT;clear hT;by_cases h1:(Zar f.kind=true)
 rotate_left
 rw [Ybw.2 h1];refine RT ?_;exact ⟨by rw [decide_eq_false (λh=>h1 (h.2.1))],hS⟩;rw [h1];refine QO ?_;refine CP hS (Zbz f.day 3652059 _) λw5 hT hS=>?_;replace e1:=e1.up hT;clear hT;by_cases h2:(0<=f.day/\f.day<3652059)
 rotate_left
 rw [decide_eq_false h2];refine RT ?_;exact ⟨by rw [decide_eq_false (λh=>h2 (h.2.2.1))],hS⟩;rw [decide_eq_true h2];refine QO ?_;refine CP hS (Zbz f.by_ 64 _) λw6 hT hS=>?_;replace e1:=e1.up hT;clear hT;by_cases h3:(0<=f.by_/\f.by_<64)
 rotate_left
 rw [decide_eq_false h3];refine RT ?_;exact ⟨by rw [decide_eq_false (λh=>h3 (h.2.2.2.1))],hS⟩;rw [decide_eq_true h3];refine QO ?_;refine CP hS (Zbz f.to_ 64 _) λw7 hT hS=>?_;replace e1:=e1.up hT;clear hT;by_cases h4:(0<=f.to_/\f.to_<64)
 rotate_left
 rw [decide_eq_false h4];refine RT ?_;exact ⟨by rw [decide_eq_false (λh=>h4 (h.2.2.2.2.1))],hS⟩;rw [decide_eq_true h4]
 (refine QP ?_ ?_<;>intro hg)
 all_goals
  refine RU ?_;exact ⟨by
   congr 1;symm
   first
    | (rw [decide_eq_decide];exact ⟨λh=>by have:=h.2.2.2.2.2;omega,λh=>⟨h0,h1,h2,h3,h4,by omega,by omega⟩⟩)
    | exact decide_eq_false (λh=>by have:=h.2.2.2.2.2;omega),hS⟩
abbrev mkI (a:Int):Value:=.I a
structure Vr0 where
 f:Fct
instance:Z3 Vr0 where
 k:=8
 enc:=λx=>.I 0 :: .B false :: Z3.enc x.f
 len:=λ_=>rfl
 one:=by
  intro x u hu;rcases Xb.1 hu with rfl|hu
  rfl;rcases Xb.1 hu with rfl|hu
  rfl;exact Z3.one x.f u hu
abbrev ZeV (f:Fct):Int:=if VOk f then 0 else 5
theorem Zll (r:Nat) (f:Fct) (w) (hm:(f.kind.length:Int)<=maxLen) (hr:JM mkI w r []) :
 CC 296 #[.map (some r),aG (⟨f⟩:Vr0),.I 0] w λv w'=>v=.I (ZeV f)/\Stp [r] w w':=by
 have lr:=hr.lt;refine cW3 50 Tryz.func296 ?_;refine W ?_;refine BX (Stp.refl [] w) λb1 w1 h1 e1 _ hS=>?_;replace e1:Blk w1 b1 262 (Z3.enc (⟨f⟩:Vr0)):=e1;replace hr:=hr.up hS;refine QO ?_;refine Z8 (Zl rfl rfl e1 (us:=Z3.enc f) rfl rfl) rfl ?_;refine W ?_;refine CP hS (Zhy f _ hm) λw2 hT hS=>?_;replace e1:=e1.up hT;replace hr:=hr.up hT;clear hT;unfold ZeV;by_cases hv:VOk f
 rotate_left
 rw [decide_eq_false hv,if_neg hv];refine RT ?_;exact ⟨rfl,hS.mn⟩;rw [decide_eq_true hv,if_pos hv];refine QO ?_;refine Z5 (Z1Q (a:=f.entry) rfl rfl rfl hr (by simp)) ?_;rintro _ w3 ⟨pB,hT⟩;refine RT ?_;exact ⟨rfl,hS.mn.trans hT⟩
theorem Zof (v:Value) (f:Fct) (w) (hm:(f.kind.length:Int)<=maxLen) (hs:SlV [] w v [(⟨f⟩:Vr0)]) :
 CC 249 #[v] w λr w'=>∃ p q,r=.tuple #[p,q,.I (ZeV f)]/\Stp [] w w':=by
 refine cW1 29 Tryz.func249 ?_;refine W ?_;refine Z0 (Z13 mkI) rfl ?_;rintro _ w1 ⟨r,rfl,gr,gP,hS⟩;replace hs:=hs.up hS;refine W ?_;have cV:0 < [(⟨f⟩:Vr0)].length:=by simp
 refine Zt (σ:=Nat) (λk=>[(0,v),(5,.map (some r)),(6,.I 0),(11,v),(12,.I 1),(13,.I (k:Int))])
  (λk W=>k<=1/\(k=0->W=w1)/\(k=1->VOk f)/\Stp [] w W) (λk=>1 - k) 0 ⟨rfl,rfl,rfl,rfl,rfl,rfl,trivial⟩ ⟨by decide,λ_=>rfl,by simp,hS⟩ ?_
 rintro k w2 ⟨hk,fw,bG,ah⟩;have d9:k=0\/k=1:=by omega
 rcases d9 with rfl|rfl
 obtain rfl:=fw rfl;clear fw bG ah;have lr:=gP.lt;refine QO ?_;refine Z0 Z2 rfl ?_;rintro _ w3 ⟨b8,rfl,fL,e8,hT⟩;refine SA (us:=Z3.enc (⟨f⟩:Vr0)) e8 ?_;rintro _ w4 ⟨hU,e8⟩;replace hT:=hT.ow hU;replace gP:=gP.up hT;have aI:=hS.trans hT;have l8:=e8.lt;have n8:b8≠r:=by omega
 clear hU;refine QO ?_;refine CL (Zll r f _ hm gP) ?_;rintro _ w5 ⟨rfl,hU⟩;replace e8:=e8.ext hU (by simpa using n8);have aD:Stp [] w w5:=aI.ow hU;unfold ZeV;by_cases hv:VOk f;rw [if_pos hv];refine QO ?_;exact QL 1 ⟨Xn _,by simp,λ_=>hv,aD⟩ (by decide);rw [if_neg hv];refine RT ?_;exact ⟨_,_,rfl,aD⟩;have hv:=bG rfl;refine RT ?_;exact ⟨_,_,by rw [show ZeV f=0 from if_pos hv],ah⟩
theorem ZeW (v:Value) (f:Fct) (w) (hm:(f.kind.length:Int)<=maxLen) (hs:SlV [] w v [(⟨f⟩:Vr0)]) :
 CC 189 #[v] w λr w'=>r=.I (ZeV f)/\Stp [] w w':=by
 refine cW1 13 Tryz.func189 ?_;refine W ?_;refine CL (Zof v f _ hm hs) ?_;rintro _ w1 ⟨p,q,rfl,hS⟩;refine RT ?_;exact ⟨rfl,hS⟩
def Zdx:List Int->List Fct->Int
 | _,[]=>0
 | kn,f :: l=>if ¬ VOk f then 5 else if f.entry∈kn then 4 else Zdx (kn++[f.entry]) l
theorem Zhz (kn:List Int) (f:Fct) (l:List Fct):Zdx kn (f :: l)=if ¬ VOk f then 5 else if f.entry∈kn then 4 else Zdx (kn++[f.entry]) l:=rfl
theorem Zlm {κ:Type} [DecidableEq κ] (l:List Fct) (g:Fct->κ) (a:κ):Z3M (l.map (λx=>(g x,Value.bool true))) a (.B false)=.B (decide (a∈l.map g)):=by
 have:=ZfP (l.map g) a;rw [YbF] at this;exact this
theorem Zog (f:Fct) (w):(Instr.build 262 #[(2,aG f)]).run Tryz.prog w=.ok (aG (⟨f⟩:Vr0)) w:=by kernel_rfl
theorem Zoh (f:Fct) (w):(Instr.buildSlice 263 1 #[(0,aG (⟨f⟩:Vr0))]).run Tryz.prog w=.ok (.slice (some ⟨w.heap.size,0,none⟩) 1 1) (w.alloc (.cells (Z3.enc (⟨f⟩:Vr0)).toArray 262)):=by kernel_rfl
theorem Z98 (v:Value) (l:List Fct) (w) (hm:∀ f∈l,(f.kind.length:Int)<=maxLen) (hs:SlV [] w v l) :
 CC 109 #[v] w λr w'=>r=.I (Zdx [] l)/\Stp [] w w':=by
 have lf:=hs.max;refine cW1 26 Tryz.func109 ?_;refine W ?_;refine Z0 (Z13 mkI) rfl ?_;rintro _ w1 ⟨r,rfl,gr,gP,hS⟩;have cr:=hs.ext (X':=[r]) hS (by simp) (λb hb=>.inr (by simp at hb;omega));have lr:=gP.lt;refine QO ?_
 refine Zt (σ:=Nat) (λk=>[(3,.map (some r)),(7,v),(8,.I (l.length:Int)),(9,.I (k:Int))])
  (λk W=>k<=l.length/\JM mkI W r ((l.take k).map (λf=>(f.entry,.B true)))/\Zdx [] l=Zdx ((l.take k).map Fct.entry) (l.drop k)/\Stp [r] w1 W) (λk=>l.length - k) 0 ⟨rfl,rfl,rfl,rfl,trivial⟩ ⟨Xp _,by simpa using gP,by simp,Stp.refl _ _⟩ ?_
 clear gP;rintro k w2 ⟨hk,eG,ck,hT⟩;have bq:=cr.ext (X':=[r]) hT (by simp) (λb hb=>.inl hb);have yM:=hT.size;by_cases hlt:k<l.length
 . have hd:l.drop k=l[k] :: l.drop (k+1):=Yac hlt
   have fJ:l.take (k+1)=l.take k++[l[k]]:=Xi hlt;have az:=hm _ (Xc hlt);rw [hd,Zhz] at ck;refine QO ?_;refine Z0 Z2 rfl ?_;rintro _ w3 ⟨b5,rfl,jA,e5,hU⟩;refine SA (us:=Z3.enc l[k]) e5 ?_;rintro _ w4 ⟨ix,e5⟩;replace hU:=hU.ow ix;replace eG:=eG.up hU;have fM:=hT.trans hU.mn;have l5:=e5.lt;clear ix hU;refine QO ?_;refine Z7 rfl (Zog l[k]) rfl ?_;refine Z0 (Z1 rfl (Zoh l[k])) rfl ?_;rintro vs w5 hN;have dL:SlV [] w5 vs [(⟨l[k]⟩:Vr0)]:=hN.slv (by simp) rfl (by simp) (by simp [maxLen]);have hU:=Z9.stp hN;clear hN;replace eG:=eG.up hU;replace e5:=e5.up hU;replace fM:=fM.trans hU.mn;clear hU;refine CP (Stp.refl [] w5) (ZeW vs l[k] _ az dL) λw6 hU _=>?_;replace eG:=eG.up hU;replace e5:=e5.up hU;replace fM:=fM.trans hU.mn;clear hU;unfold ZeV;have dD:∀ W,Stp [r] w1 W->Stp [] w W:=λW h=>hS.ow h;by_cases hv:VOk l[k]
   rotate_left
   rw [if_neg hv];rw [if_pos hv] at ck;refine RT ?_;exact ⟨by rw [ck],dD _ fM⟩;rw [if_pos hv];rw [if_neg (by simpa using hv)] at ck;refine QO ?_;refine Z8 (Z1R (a:=l[k].entry) rfl rfl eG) rfl ?_;rw [Zlm];by_cases bJ:l[k].entry∈(l.take k).map Fct.entry;rw [if_pos bJ] at ck;rw [decide_eq_true bJ];refine RT ?_;exact ⟨by rw [ck],dD _ fM⟩;rw [if_neg bJ] at ck;rw [decide_eq_false bJ];refine QO ?_;refine Z5 (Z1Q (a:=l[k].entry) rfl rfl rfl eG (λp hp=>by
    obtain ⟨x,hx,rfl⟩:=XH.1 hp;exact λh=>bJ (XH.2 ⟨x,hx,h⟩))) ?_
   rintro _ w7 ⟨qc,hU⟩;refine QO ?_;exact QL (k+1) ⟨hlt,by rw [fJ,XR];exact qc,by rw [ck,fJ,XR];rfl,fM.trans hU⟩ (by omega)
 obtain rfl:k=l.length:=by omega
 rw [Ya0] at ck;refine RT ?_;exact ⟨by rw [ck];rfl,hS.ow hT⟩
def Z7B (n:Nat) (r:Rtn):Prop:=(0<=r.crr/\r.crr<n)/\((r.kind=1/\(0<=r.lo/\r.lo<=3652058)/\(0<=r.hi/\r.hi<=3652058)/\r.lo<=r.hi)\/(r.kind=2/\r.lo=0/\(0<=r.hi/\r.hi<=3652058))\/(r.kind=3/\r.lo=0/\r.hi=0))
instance (n:Nat) (r:Rtn):Decidable (Z7B n r):=by unfold Z7B;infer_instance
def ZtK (n:Nat) (l:List Rtn):Int:=if 32<l.length then 2 else if ∀ r∈l,Z7B n r then 0 else 5
theorem Z1A (d:Int) (w):CC 301 #[.I d] w λr w'=>r=.B (decide (0<=d/\d<=3652058))/\Stp [] w w':=by
 refine cW1 9 Tryz.func301 ?_
 (refine QP ?_ ?_<;>intro hg)
 refine RU ?_;exact ⟨by congr 1;rw [decide_eq_decide];exact ⟨λh=>⟨by omega,h⟩,λh=>h.2⟩,Stp.refl _ _⟩;refine RU ?_;exact ⟨by congr 1;symm;exact decide_eq_false (λh=>by omega),Stp.refl _ _⟩
theorem ZbA (v cv:Value) (l:List Rtn) (cs:List Crr) (w) (hs:SlV [] w v l) (cb:SlV [] w cv cs) :
 CC 251 #[v,cv] w λr w'=>r=.I (ZtK cs.length l)/\Stp [] w w':=by
 have lf:=hs.max;have bQ:=cb.max;unfold ZtK;refine cW2 78 Tryz.func251 ?_;by_cases kW:32<l.length;rw [if_pos kW];refine RT ?_;exact ⟨rfl,Stp.refl _ _⟩;rw [if_neg kW];refine QO ?_
 refine Zt (σ:=Nat) (λk=>[(0,v),(1,cv),(11,v),(12,.I (l.length:Int)),(13,.I (k:Int))])
  (λk W=>k<=l.length/\(∀ i (h:i<l.length),i<k->Z7B cs.length l[i])/\Stp [] w W) (λk=>l.length - k) 0 ⟨rfl,rfl,rfl,rfl,rfl,trivial⟩ ⟨Xp _,λi _ h=>absurd h (Xw _),Stp.refl _ _⟩ ?_
 rintro k w2 ⟨hk,aB,hS⟩;have bq:=hs.up hS;have ci:=cb.up hS;by_cases hlt:k<l.length;refine QO ?_;refine Z0 Z2 rfl ?_;rintro _ w3 ⟨b6,rfl,ez,e6,hU⟩;refine SA (us:=Z3.enc l[k]) e6 ?_;rintro _ w4 ⟨ix,e6⟩;replace hU:=hU.ow ix;replace ci:=ci.up hU;replace hS:=hS.trans hU;clear hU ix bq;have dO:Z7B cs.length l[k]->∀ i (h:i<l.length),i<k+1->Z7B cs.length l[i]:=λhv i h ut=>by
  by_cases e:i=k;subst e;exact hv;exact aB i h (by omega)
 have bg:¬ Z7B cs.length l[k]->(if ∀ r∈l,Z7B cs.length r then (0:Int) else 5)=5:=λh=>if_neg (λg=>h (g _ (Xc hlt)));generalize l[k]=y at *;clear aB;by_cases hv:Z7B cs.length y;replace dO:=dO hv;clear bg;unfold Z7B at hv;obtain ⟨⟨g1,g2⟩,⟨k1,g3,g4,g5⟩|⟨k1,g3,g4⟩|⟨k1,g3,g4⟩⟩:=hv;refine QO ?_;refine CP hS (Z1A _ _) λw5 hT hS=>?_;replace e6:=e6.up hT;rw [decide_eq_true g3];refine QO ?_;refine CP hS (Z1A _ _) λw6 hT hS=>?_;replace e6:=e6.up hT;rw [decide_eq_true g4];refine QO ?_;exact QL (k+1) ⟨hlt,dO,hS⟩ (Xs hlt (Xv k));refine QO ?_;refine CP hS (Z1A _ _) λw5 hT hS=>?_;replace e6:=e6.up hT;rw [decide_eq_true g4];refine QO ?_;exact QL (k+1) ⟨hlt,dO,hS⟩ (Xs hlt (Xv k));refine QO ?_;exact QL (k+1) ⟨hlt,dO,hS⟩ (Xs hlt (Xv k))
 . replace bg:=bg hv
   clear dO;rw [bg];unfold Z7B at hv;repeat'(first|refine W1 ?_|omega|refine VG ?_ ?_<;>intro hg|refine VC ?_ ?_<;>intro hc)
   all_goals try
    refine CP hS (Z1A _ _) λw5 hT hS=>?_;replace e6:=e6.up hT;repeat'(first|refine W1 ?_|omega|refine VG ?_ ?_<;>intro hg|refine VC ?_ ?_<;>intro hc)
   all_goals try
    refine CP hS (Z1A _ _) λw6 hT hS=>?_;replace e6:=e6.up hT;repeat'(first|refine W1 ?_|omega|refine VG ?_ ?_<;>intro hg|refine VC ?_ ?_<;>intro hc)
   all_goals
    refine RU ?_;exact ⟨rfl,hS⟩
 obtain rfl:k=l.length:=by omega
 have hf:(if ∀ r∈l,Z7B cs.length r then (0:Int) else 5)=0:=if_pos (λr hr=>by
  obtain ⟨i,hi,rfl⟩:=Xr hr;exact aB i hi hi)
 rw [hf];refine RT ?_;exact ⟨rfl,hS⟩
def ZhA (n:Nat) (a:Atp):Prop:=(0<=a.entry/\a.entry<65536)/\(0<=a.party/\a.party<64)/\(0<=a.crr/\a.crr<n)/\(0<=a.sent/\a.sent<=3652058)
instance (n:Nat) (a:Atp):Decidable (ZhA n a):=by unfold ZhA;infer_instance
def Zdy (n:Nat) (a:Atp):Int:=if ZhA n a then ZtK n a.rets else 5
def ZeX (n:Nat):List Atp->Int
 | []=>0
 | a :: l=>if Zdy n a≠0 then Zdy n a else ZeX n l
theorem ZbB (rv cv:Value) (a:Atp) (cs:List Crr) (w) (hs:SlV [] w rv a.rets) (cb:SlV [] w cv cs) :
 CC 192 #[.agg (atC a rv).toArray,cv] w λr w'=>r=.I (Zdy cs.length a)/\Stp [] w w':=by
 have bQ:=cb.max;unfold Zdy;refine cW2 36 Tryz.func192 ?_;refine W ?_;refine BX (Stp.refl [] w) λb1 w1 h1 e1 _ hS=>?_;replace e1:Blk w1 b1 78 (atC a rv):=e1;have ci:=cb.up hS;have bq:=hs.up hS;by_cases hv:ZhA cs.length a;rw [if_pos hv];unfold ZhA at hv;obtain ⟨g1,g2,g3,g4⟩:=hv;refine QO ?_;refine CP hS (ZbA rv cv a.rets cs _ bq ci) λw5 hT hS=>?_;refine RT ?_;exact ⟨rfl,hS⟩
 . rw [if_neg hv]
   unfold ZhA at hv;repeat'(first|refine W1 ?_|omega|refine VG ?_ ?_<;>intro hg|refine VC ?_ ?_<;>intro hc)
   all_goals
    refine RU ?_;exact ⟨rfl,hS⟩
theorem ZbC (v cv:Value) (l:List Atp) (cs:List Crr) (w) (hl:l.length<=65536) (hs:SlV [] w v l) (cb:SlV [] w cv cs) :
 CC 112 #[v,cv] w λr w'=>r=.I (ZeX cs.length l)/\Stp [] w w':=by
 have lf:=hs.max;refine cW2 24 Tryz.func112 ?_;refine QO ?_
 refine Zt (σ:=Nat) (λk=>[(0,v),(1,cv),(11,v),(12,.I (l.length:Int)),(13,.I (k:Int))])
  (λk W=>k<=l.length/\ZeX cs.length l=ZeX cs.length (l.drop k)/\Stp [] w W) (λk=>l.length - k) 0 ⟨rfl,rfl,rfl,rfl,rfl,trivial⟩ ⟨Xp _,rfl,Stp.refl _ _⟩ ?_
 rintro k w2 ⟨hk,ck,hS⟩;have bq:=hs.up hS;have ci:=cb.up hS;by_cases hlt:k<l.length;have hd:l.drop k=l[k] :: l.drop (k+1):=Yac hlt;rw [hd] at ck;have lC:ZeX cs.length (l[k] :: l.drop (k+1))=if Zdy cs.length l[k]≠0 then Zdy cs.length l[k] else ZeX cs.length (l.drop (k+1)):=rfl
 rw [lC] at ck;obtain ⟨cs0,⟨rv,rfl,bN⟩,aq⟩:=bq.cell hlt;refine QO ?_;refine Z8 (Z0n rfl rfl bq hlt ⟨rv,rfl,bN⟩ aq) rfl ?_;refine Z0 Z2 rfl ?_;rintro _ w3 ⟨b6,rfl,ez,e6,hU⟩;refine SB (us:=atC l[k] rv) (ZfV bN.one) e6 ?_;rintro _ w4 ⟨ix,e6⟩;replace hU:=hU.ow ix;replace ci:=ci.up hU;replace bN:=bN.up hU;replace hS:=hS.trans hU;clear hU ix aq bq;refine QO ?_;refine CP hS (ZbB rv cv l[k] cs _ bN ci) λw5 hT hS=>?_;by_cases he:Zdy cs.length l[k]=0;rw [he] at ck ⊢;refine QO ?_;exact QL (k+1) ⟨hlt,ck,hS⟩ (Xs hlt (Xv k));rw [if_pos he] at ck;generalize Zdy cs.length l[k]=z at *;refine RT ?_;exact ⟨by rw [ck],hS⟩;obtain rfl:k=l.length:=by omega
 rw [Ya0] at ck;refine RT ?_;exact ⟨by rw [ck];rfl,hS⟩
theorem Zoi (v:Value) (l:List Int) (w) (hs:SlV [] w v l):CC 111 #[v] w λr w'=>r=.I (orL l)/\Stp [] w w':=by
 have aU:=hs.max;refine cW1 18 Tryz.func111 ?_;refine W ?_;refine LP (σ:=Nat) (λk=>[(3,.I 0),(6,v),(7,.I l.length),(8,.I k)]) (λk w'=>k<=l.length/\Stp [] w w'/\∀ j (h:j<l.length),j<k->l[j]=0) (λk=>l.length - k) 0 ⟨Xp _,Stp.refl _ _,λj _ h=>absurd h (Xw _)⟩ ?_;have ba:=hs;clear hs;rintro k w1 ⟨hk,hS,hz⟩;have hs:=ba.up hS;by_cases hlt:k<l.length;by_cases h0:l[k]=0;refine QO ?_;exact QL (k+1) ⟨by omega,hS,λj h hj=>by
  by_cases e:j=k;subst e;exact h0;exact hz j h (by omega)⟩ (by omega)
 refine RT ?_;exact ⟨by rw [Zew hlt hz h0],hS⟩;refine RT ?_;exact ⟨by rw [Z8A (λj h=>hz j h (by omega))],hS⟩
theorem Z9x (w):CC 194 #[.N] w λr w'=>r=.I 0/\Stp [] w w':=by
 refine cW1 55 Tryz.func194 ?_;refine QO ?_;refine CL (Za7 _) ?_;rintro _ w1 ⟨rfl,hS⟩;repeat'(first|refine W1 ?_|omega|refine VG ?_ ?_<;>intro hg|refine VC ?_ ?_<;>intro hc)
 refine Z0 Z2 rfl ?_;rintro _ w2 ⟨b,rfl,hb,e6,hT⟩;refine SB (us:=Z5t) (by intro u hu;simp [Z5t] at hu;rcases hu with rfl|rfl|rfl|rfl|rfl|rfl|rfl|rfl<;>rfl) e6 ?_;rintro _ w3 ⟨hU,e6⟩;replace hS:=(hS.trans hT).own hU (λc hc=>.inr (by have:=hS.size;simp at hc;omega));refine QO ?_;refine LP (σ:=Nat) (λk=>[(11,.I 0),(12,.I (k:Int))]) (λk w'=>k=0/\w'=w3) (λk=>k) 0 ⟨rfl,rfl⟩ ?_;rintro k w4 ⟨rfl,rfl⟩;refine RT ?_;exact ⟨rfl,hS⟩
theorem Z9y (w):CC 195 #[.agg #[.I 0,.N]] w λr w'=>r=.I 0/\Stp [] w w':=by
 have iX:∀ W:World,CC 254 #[.I 0] W λr w'=>r=.B true/\Stp [] W w':=λW=>by
  refine cW1 9 Tryz.func254 ?_;refine RT ?_;exact ⟨rfl,Stp.refl _ _⟩
 refine cW1 51 Tryz.func195 ?_;refine W ?_;refine BX (Stp.refl [] w) λb1 w1 h1 e1 _ hS=>?_;replace e1:Blk w1 b1 33 [.I 0,.N]:=e1;refine QO ?_;refine CP hS (iX _) λw2 hT hS=>?_;replace e1:=e1.up hT;refine QO ?_;refine LP (σ:=Nat) (λk=>[(17,.I 0),(18,.I (k:Int))]) (λk w'=>k=0/\w'=w2) (λk=>k) 0 ⟨rfl,rfl⟩ ?_;rintro k w4 ⟨rfl,rfl⟩;refine RT ?_;exact ⟨rfl,hS⟩
theorem Zln (v:Value) (l:List Bool) (x:Bool) (w) (hs:SlV [] w v l):CC 252 #[v,.B x] w λr w'=>(∃ z:Int,r=.I z/\(0<=z↔x∈l))/\Stp [] w w':=by
 have aU:=hs.max;refine cW2 19 Tryz.func252 ?_;refine W ?_;refine LP (σ:=Nat) (λk=>[(0,v),(1,.B x),(6,v),(7,.I l.length),(8,.I k)]) (λk w'=>k<=l.length/\Stp [] w w'/\∀ j (h:j<l.length),j<k->l[j]≠x) (λk=>l.length - k) 0 ⟨Xp _,Stp.refl _ _,λj _ h=>absurd h (Xw _)⟩ ?_;rintro k w2 ⟨hk,hT,hz⟩;have bq:=hs.up hT;by_cases hlt:k<l.length
 (refine QP ?_ ?_<;>intro hc)
 refine RU ?_;exact ⟨⟨_,rfl,⟨λ_=>hc ▸ Xc hlt,λ_=>Int.natCast_nonneg _⟩⟩,hT⟩;exact QL (k+1) ⟨hlt,hT,λj h hj=>by
  by_cases e:j=k;subst e;exact λh=>hc h.symm;exact hz j h (by omega)⟩ (by omega)
 have bg:¬ x∈l:=λh=>by
  obtain ⟨j,hj,e⟩:=Xr h;exact hz j hj (by omega) e
 refine RT ?_;exact ⟨⟨_,rfl,⟨λh=>absurd h (by decide),λh=>absurd h bg⟩⟩,hT⟩
theorem Zlo (v:Value) (l:List Bool) (x:Bool) (w) (hs:SlV [] w v l):CC 193 #[v,.B x] w λr w'=>r=.B (decide (x∈l))/\Stp [] w w':=by
 refine cW2 9 Tryz.func193 ?_;refine W ?_;refine CG (Zln v l x _ hs) ?_;rintro _ w2 ⟨⟨z,rfl,hz⟩,hT⟩;refine RT ?_;exact ⟨congrArg Value.bool (decide_eq_decide.2 hz),hT⟩
def ZoT:List Value:=[.B false,.B false,.B false,.B false,.B false,.B false,.B false,.N,.N,.I 0,.N,.I 0]
theorem Z9z (w):CC 114 #[.agg ZoT.toArray] w λr w'=>r=.I 0/\Stp [] w w':=by
 refine cW1 66 Tryz.func114 ?_;refine W ?_;refine BX (Stp.refl [] w) λb1 w1 h1 e1 _ hS=>?_;replace e1:Blk w1 b1 35 ZoT:=e1;have pD:SlV [] w1 (.slice (some ⟨b1,0,none⟩) 7 7) [false,false,false,false,false,false,false]:=by
  refine ⟨some ⟨b1,0,none⟩,7,rfl,Xn _,by simp [maxLen],λh=>by simp at h,λi hi=>⟨b1,0,[.B false],rfl,e1.lt,by simp,?_,λj u hu=>?_⟩⟩;have:i=0\/i=1\/i=2\/i=3\/i=4\/i=5\/i=6:=by simp at hi;omega
  rcases this with rfl|rfl|rfl|rfl|rfl|rfl|rfl<;>rfl
  have hj:j=0:=by
   have:=(Xz.1 hu).1;simp at this;exact this
  subst hj;refine e1.cell ?_;have:i=0\/i=1\/i=2\/i=3\/i=4\/i=5\/i=6:=by simp at hi;omega
  rcases this with rfl|rfl|rfl|rfl|rfl|rfl|rfl<;>exact hu
 refine W ?_;refine Z8 (Z6h (b:=b1) rfl) rfl ?_;refine W ?_;refine CP hS (Zlo _ _ false _ pD) λw2 hT hS=>?_;replace e1:=e1.up hT;clear pD hT;rw [decide_eq_true (by simp)];refine QO ?_;refine CP hS (Z9x _) λw3 hT hS=>?_;replace e1:=e1.up hT;refine QO ?_;refine LP (σ:=Nat) (λk=>[(1,pQ b1),(23,.I 0),(24,.I (k:Int))]) (λk w'=>k=0/\w'=w3) (λk=>k) 0 ⟨rfl,rfl⟩ ?_;rintro k w4 ⟨rfl,rfl⟩;refine QO ?_;refine Z8 (Zl rfl rfl e1 (us:=[.I 0,.N]) rfl rfl) rfl ?_;refine W ?_;refine CP hS (Z9y _) λw5 hT hS=>?_;replace e1:=e1.up hT;refine RT ?_;exact ⟨rfl,hS⟩
structure Zdz (c:Cas):Prop where
 ops:∀ q∈c.ruls,∀ x∈q.cnd++q.due,opP x.op
 fil:Zdx [] c.fcts=0
 fm:∀ f∈c.fcts,(f.kind.length:Int)<=maxLen
 cl:c.crrs.length<=16
 co:∀ x∈c.crrs,Zag x
 rl:c.ruls.length<=1024
 ro:∀ q∈c.ruls,Zby q=0
 al:c.atts.length<=65536
 ao:ZeX c.crrs.length c.atts=0
 so:ZgW c.stys=0
 court:0<=c.court/\c.court<=15
 today:0<=c.today/\c.today<=3652058
theorem Zoj (a b d:Int) (w):(Instr.buildSlice 265 3 #[(0,.I a),(1,.I b),(2,.I d)]).run Tryz.prog w=.ok (.slice (some ⟨w.heap.size,0,none⟩) 3 3) (w.alloc (.cells #[.I a,.I b,.I d] 92)):=by kernel_rfl
theorem ZbD (c:Cas) (R:Z0N) (w) (m:Int) (hF:SlV [] w Z21 Ze) (ey:w.cell? ⟨2,0,none⟩=some (.I m)) (hv:Z1z w c R) (ho:Zdz c)
 (dH:∀ Y,Stp [] w Y->CC 114 #[.agg (Z0j c.cal R.hv R.lv R.zo R.zs R.hr).toArray] Y λr w'=>r=.I 0/\Stp [] Y w') :
 CC 70 #[.agg (Jh c R).toArray] w λr w'=>r=.I 0/\Stp [] w w':=by
 have cE:=ho.cl;have jk:=ho.rl;have ol:=ho.court;have mB:=ho.today;have xw:=hv.cc.max;have xx:=hv.rr.max;refine cW1 78 Tryz.func70 ?_;refine W ?_;refine BX (Stp.refl [] w) λb1 w1 h1 e1 _ hS=>?_;replace e1:Blk w1 b1 37 (Jh c R):=e1;refine QO ?_;refine CP hS (Z98 R.fv c.fcts _ ho.fm (hv.ff.up hS)) λw2 hT hS=>?_;replace e1:=e1.up hT;rw [ho.fil];have fB:=(hv.up hS).cc;refine QO ?_;refine LP (σ:=Nat) (λk=>[(1,pQ b1),(20,R.cv),(21,.I (c.crrs.length:Int)),(22,.I (k:Int))]) (λk w'=>k<=c.crrs.length/\Stp [] w2 w') (λk=>c.crrs.length - k) 0 ⟨Xp _,Stp.refl _ _⟩ ?_;rintro k y1 ⟨hk,ca⟩;have e1':=e1.up ca;have ae:=hS.trans ca;have sI:=fB.up ca;by_cases hlt:k<c.crrs.length;have lP:=ho.co _ (Xc hlt);have x1:=lP.ext;have x2:=lP.tol;refine QO ?_;refine Z0 Z2 rfl ?_;rintro _ w3 ⟨b6,rfl,ez,e6,hU⟩;refine SA (us:=Z3.enc c.crrs[k]) e6 ?_;rintro _ w4 ⟨ix,e6⟩;replace hU:=hU.ow ix;replace ca:=ca.trans hU;generalize c.crrs[k]=x at *;refine QO ?_;refine CP ca (Z1y _ _ _ _) λw5 hT ca=>?_;replace e6:=e6.up hT;rw [decide_eq_true x1];refine QO ?_;refine CP ca (Z1y _ _ _ _) λw6 hT ca=>?_;rw [decide_eq_true x2];refine QO ?_;exact QL (k+1) ⟨hlt,ca⟩ (Xs hlt (Xv k));replace e1:=e1';replace hS:=ae;clear e1' ae sI fB ca hT;have pd:=(hv.up hS).rr;refine QO ?_;refine LP (σ:=Nat) (λk=>[(1,pQ b1),(42,R.rv),(43,.I (c.ruls.length:Int)),(44,.I (k:Int))]) (λk w'=>k<=c.ruls.length/\Stp [] y1 w') (λk=>c.ruls.length - k) 0 ⟨Xp _,Stp.refl _ _⟩ ?_;rintro k y2 ⟨hk,ca⟩;have e1':=e1.up ca;have ae:=hS.trans ca;have lQ:=pd.up ca;by_cases hlt:k<c.ruls.length;have lP:=ho.ro _ (Xc hlt);obtain ⟨cs0,⟨kc,kd,rfl,sJ,dY⟩,aq⟩:=lQ.cell hlt;refine QO ?_;refine Z8 (Z0n rfl rfl lQ hlt ⟨kc,kd,rfl,sJ,dY⟩ aq) rfl ?_;refine Z0 Z2 rfl ?_;rintro _ w3 ⟨b6,rfl,ez,e6,hU⟩;refine SB (us:=crC c.ruls[k] kc kd) (Z0r sJ dY) e6 ?_;rintro _ w4 ⟨ix,e6⟩;replace hU:=hU.ow ix;replace ca:=ca.trans hU;have dD:=hS.trans ca;refine QO ?_;refine CP ca (ZeT _ c.ruls[k] _ m (hF.up dD) (dD.cell (by simp) ey) ⟨kc,kd,rfl,sJ.up hU,dY.up hU⟩ (ho.ops _ (Xc (by assumption)))) λw5 hT ca=>?_
 rw [lP];refine QO ?_;exact QL (k+1) ⟨hlt,ca⟩ (Xs hlt (Xv k));replace e1:=e1';replace hS:=ae;clear e1' ae lQ pd ca;have jQ:=hv.up hS;refine QO ?_;refine ZDr 14 [] [] [(0,0),(1,1),(2,0),(3,1),(5,0),(6,1),(8,0),(9,1),(4,2),(7,2),(10,2),(11,2),(12,2),(13,0)] (λw1 ae=>?_);replace e1:=e1.up ae;replace hS:=hS.trans ae;replace jQ:=jQ.up ae;refine QD ?_;refine ZP rfl trivial (λw' aN=>Zl rfl rfl (e1.up aN) (us:=Z0j c.cal R.hv R.lv R.zo R.zs R.hr) rfl rfl) rfl ?_;repeat'(first|refine D1 ?_|omega|refine Zk rfl rfl rfl rfl (λhg=>?_) (λhg=>?_)|(refine Zi rfl rfl rfl rfl (λhg=>?_) (λhg=>?_)<;>refine D1 ?_)|fail)
 refine DP hS (ZbC R.av R.cv c.atts c.crrs _ ho.al jQ.aa jQ.cc) λw5 hT hS=>?_;replace e1:=e1.up hT;replace jQ:=jQ.up hT;rw [ho.ao];repeat'(first|refine D1 ?_|omega|refine Zk rfl rfl rfl rfl (λhg=>?_) (λhg=>?_)|(refine Zi rfl rfl rfl rfl (λhg=>?_) (λhg=>?_)<;>refine D1 ?_)|fail)
 refine DP hS (Zbd R.sv c.stys _ jQ.ss) λw6 hT hS=>?_;replace e1:=e1.up hT;replace jQ:=jQ.up hT;rw [ho.so];repeat'(first|refine D1 ?_|omega|refine Zk rfl rfl rfl rfl (λhg=>?_) (λhg=>?_)|(refine Zi rfl rfl rfl rfl (λhg=>?_) (λhg=>?_)<;>refine D1 ?_)|fail)
 refine DP hS (dH _ hS) λw7 hT hS=>?_;replace e1:=e1.up hT;repeat'(first|refine D1 ?_|omega|refine Zk rfl rfl rfl rfl (λhg=>?_) (λhg=>?_)|(refine Zi rfl rfl rfl rfl (λhg=>?_) (λhg=>?_)<;>refine D1 ?_)|fail)
 refine Za rfl trivial (Z1 rfl (Zoj 0 0 0)) (λ_ _ h=>Z9.stp h) rfl ?_;rintro vs w8 hN;have dL:SlV [] w8 vs ([0,0,0]:List Int):=hN.slv (by simp) rfl rfl (by simp [maxLen]);have hU:=Z9.stp hN;clear hN;replace e1:=e1.up hU;replace hS:=hS.trans hU;repeat'(first|refine D1 ?_|omega|refine Zk rfl rfl rfl rfl (λhg=>?_) (λhg=>?_)|(refine Zi rfl rfl rfl rfl (λhg=>?_) (λhg=>?_)<;>refine D1 ?_)|fail)
 refine DP hS (Zoi vs [0,0,0] _ dL) λw9 hT hS=>?_;replace e1:=e1.up hT;rw [show orL [0,0,0]=0 from rfl];refine QD ?_;refine QO ?_;refine CP hS (Z1y _ _ _ _) λw10 hT hS=>?_;replace e1:=e1.up hT;rw [decide_eq_true ol];refine QO ?_;refine CP hS (Z1y _ _ _ _) λw11 hT hS=>?_;rw [decide_eq_true mB];refine RT ?_;exact ⟨rfl,hS⟩
theorem Z7P (op:BinOp) (x y:Operand) (a b:Fct) (w):(eqGuard op 45 x y (agg a) (agg b)).run Tryz.prog w=.ok () w:=by
 cases op<;>kernel_rfl
theorem ZoU (a b:Fct) (w):(binOp .neq 45 (agg a) (agg b)).run Tryz.prog w=.ok (.B (decide (¬ a=b))) w:=by
 have h1:Program.stoodInHeld Tryz.prog 45=false:=by kernel_rfl
 obtain ⟨i,hi⟩:∃ i,Tryz.prog.info? 3=some i:=by
  have:=(inferInstance:Siz Tryz.prog 3 1).h;cases h:Tryz.prog.info? 3 with
  | none=>rw [h] at this;cases this
  | some i=>exact ⟨i,rfl⟩
 obtain ⟨a1,a2,a3,a4,a5,a6⟩:=a;obtain ⟨b1,b2,b3,b4,b5,b6⟩:=b;simp [agg,Z3.enc,run_neq_struct,run_equalIn_struct,h1,Program.fieldsOf,Tryz.underlying45,Op.eqFields,part,Und.isAgg,Siz.run,Z0K,run_equalIn_int w _ _ .i64 .i64 _ _ Tryz.underlying3,run_equalIn_string w _ _ _ _ Tryz.underlying9];repeat' split
 all_goals simp_all
theorem Z57 (va vb:Value) (xs ys:List Fct) (w) (ha:SlV [] w va xs) (hb:SlV [] w vb ys) :
 CC 18 #[va,vb] w λr w'=>r=.B (decide (xs=ys))/\Stp [] w w':=by
 have qU:=ha.max;have tr:=hb.max;refine cW2 26 Tryz.func18 ?_;refine W ?_;by_cases hl:xs.length=ys.length
 case neg=>
  refine RT ?_;exact ⟨by congr 1;rw [eq_comm,decide_eq_false_iff_not];exact λh=>hl (by rw [h]),Stp.refl _ _⟩
 refine QO ?_;refine LP (σ:=Nat) (λj=>[(0,va),(1,vb),(4,.B false),(5,.I (j:Int))]) (λj w'=>j<=xs.length/\Stp [] w w'/\∀ i (h:i<xs.length),i<j->xs[i]=ys[i]'(by omega)) (λj=>xs.length - j) 0 ⟨Xp _,Stp.refl _ _,λi _ h=>absurd h (Xw _)⟩ ?_;rintro j w2 ⟨hj,hS,df⟩
 try dsimp only at hj df ⊢
 replace ha:=ha.up hS;replace hb:=hb.up hS;by_cases hlt:j<xs.length;have eO:j<ys.length:=by omega
 refine QO ?_;refine ZDr 9 [] [] [(0,0),(1,0),(2,0),(3,1),(4,0),(5,0),(6,0),(7,1),(8,0)] (λw1 ae=>?_);replace ha:=ha.up ae;replace hb:=hb.up ae;replace hS:=hS.trans ae;refine D ?_;apply Z20;exact rfl;refine Zff (c:=xs[j]=ys[j]) trivial rfl rfl (λw=>Z7P _ _ _ xs[j] ys[j] w) (by intro w;exact ZoU xs[j] ys[j] w) rfl ?_;refine D ?_
 (refine QP ?_ ?_<;>intro hc)
 refine RU ?_;exact ⟨by congr 1;rw [eq_comm,decide_eq_false_iff_not];exact λh=>hc (by simp [h]),hS⟩;have he:xs[j]=ys[j]:=Decidable.byContradiction hc;have hk:∀ i (h:i<xs.length),i<j+1->xs[i]=ys[i]'(by omega):=λi h hi=>by
  by_cases dJ:i=j;subst dJ;exact he;exact df i h (by omega)
 exact QL (j+1) ⟨hlt,hS,hk⟩ (Xs hlt (Xv j));have du:j=xs.length:=by omega
 subst du;refine RT ?_;exact ⟨by congr 1;rw [eq_comm,decide_eq_true_eq];exact YaG hl (λi h h'=>df i h h),hS⟩
theorem Zok (op:BinOp) (x y:Operand) (a b:Rsn) (w):(eqGuard op 67 x y (agg a) (agg b)).run Tryz.prog w=.ok () w:=by
 cases op<;>kernel_rfl
theorem Zxg (a b:Rsn) (w):(binOp .neq 67 (agg a) (agg b)).run Tryz.prog w=.ok (.B (decide (¬ a=b))) w:=by
 have h1:Program.stoodInHeld Tryz.prog 67=false:=by kernel_rfl
 obtain ⟨i,hi⟩:∃ i,Tryz.prog.info? 3=some i:=by
  have:=(inferInstance:Siz Tryz.prog 3 1).h;cases h:Tryz.prog.info? 3 with
  | none=>rw [h] at this;cases this
  | some i=>exact ⟨i,rfl⟩
 obtain ⟨a1,a2,a3⟩:=a;obtain ⟨b1,b2,b3⟩:=b;simp [agg,Z3.enc,run_neq_struct,run_equalIn_struct,h1,Program.fieldsOf,Tryz.underlying67,Op.eqFields,part,Und.isAgg,Siz.run,Z0K,run_equalIn_int w _ _ .i64 .i64 _ _ Tryz.underlying3];repeat' split
 all_goals simp_all
theorem Z7s (d:Dln) (ra rb:Value) (w) (ha:SlV [] w ra d.reas) (hb:SlV [] w rb d.reas) :
 CC 25 #[.agg (dlC d ra).toArray,.agg (dlC d rb).toArray] w λr w'=>r=.B true/\Stp [] w w':=by
 have qU:=ha.max;refine cW2 66 Tryz.func25 ?_;refine W ?_;refine BX (Stp.refl [] w) λb2 w1 h2 e2 _ hS=>?_;refine BX hS λb3 w2 h3 e3 hT hS=>?_;replace e2:=e2.up hT;replace e2:Blk w2 b2 56 (dlC d ra):=e2;replace e3:Blk w2 b3 56 (dlC d rb):=e3
 (refine QP ?_ ?_<;>intro hg)
 exact absurd rfl hg;refine Z8 (Zl rfl rfl e2 (us:=Z3.enc d.trig) rfl rfl) rfl ?_;refine W ?_;refine Z8 (Zl rfl rfl e3 (us:=Z3.enc d.trig) rfl rfl) rfl ?_;refine W ?_;refine ZmQ (c:=d.trig=d.trig) rfl rfl (λw=>Z7P _ _ _ d.trig d.trig w) (λw=>ZoU d.trig d.trig w) rfl ?_;rw [decide_eq_false (λh=>h rfl)];refine QO ?_;refine LP (σ:=Nat) (λj=>[(2,pQ b2),(3,pQ b3),(4,.B false),(5,.I (j:Int))]) (λj w'=>j<=d.reas.length/\Stp [] w2 w') (λj=>d.reas.length - j) 0 ⟨Xp _,Stp.refl _ _⟩ ?_;rintro j y ⟨hj,hT⟩;replace e2:=e2.up hT;replace e3:=e3.up hT;have ah:=hS.trans hT;have iy:=ha.up ah;have bV:=hb.up ah;by_cases hlt:j<d.reas.length;refine QO ?_;refine ZDr 11 [] [] [(0,0),(1,1),(2,0),(3,0),(4,1),(5,0),(6,1),(7,0),(8,0),(9,1),(10,0)] (λw1 ae=>?_);replace iy:=iy.up ae;replace bV:=bV.up ae;replace e2:=e2.up ae;replace e3:=e3.up ae;refine QD ?_;apply Z20;exact rfl;refine Zff (c:=d.reas[j]=d.reas[j]) trivial rfl rfl (λw=>Zok _ _ _ d.reas[j] d.reas[j] w) (by intro w;exact Zxg d.reas[j] d.reas[j] w) rfl ?_;rw [decide_eq_false (λh=>h rfl)];refine D ?_;refine QO ?_;exact QL (j+1) ⟨hlt,hT.trans ae⟩ (Xs hlt (Xv j));refine RT ?_;exact ⟨rfl,ah⟩
theorem ZbE (va vb:Value) (xs:List Dln) (w) (ha:SlV [] w va xs) (hb:SlV [] w vb xs) :
 CC 16 #[va,vb] w λr w'=>r=.B true/\Stp [] w w':=by
 have qU:=ha.max;refine cW2 27 Tryz.func16 ?_;refine QO ?_;refine LP (σ:=Nat) (λj=>[(0,va),(1,vb),(4,.B false),(5,.I (j:Int))]) (λj w'=>j<=xs.length/\Stp [] w w') (λj=>xs.length - j) 0 ⟨Xp _,Stp.refl _ _⟩ ?_;rintro j y ⟨hj,hS⟩;have iy:=ha.up hS;have bV:=hb.up hS;by_cases hlt:j<xs.length;refine QO ?_;refine ZDr 10 [] [] [(0,0),(1,0),(2,0),(3,1),(4,0),(5,0),(6,0),(7,1),(8,2),(9,0)] (λw1 ae=>?_);replace iy:=iy.up ae;replace bV:=bV.up ae;replace hS:=hS.trans ae;obtain ⟨csa,⟨ra,rfl,cQ⟩,dI⟩:=iy.cell hlt;obtain ⟨csb,⟨rb,rfl,me⟩,iM⟩:=bV.cell hlt;refine QD ?_;refine ZP rfl trivial (λw' aN=>Z0n rfl rfl (iy.up aN) hlt ⟨ra,rfl,cQ.up aN⟩ (λj u hu=>aN.cell0 (dI j u hu))) rfl ?_;refine QD ?_;refine ZP rfl trivial (λw' aN=>Z0n rfl rfl (bV.up aN) hlt ⟨rb,rfl,me.up aN⟩ (λj u hu=>aN.cell0 (iM j u hu))) rfl ?_;focus repeat'(first|refine D1 ?_|omega|refine Zk rfl rfl rfl rfl (λhg=>?_) (λhg=>?_)|(refine Zi rfl rfl rfl rfl (λhg=>?_) (λhg=>?_)<;>refine D1 ?_)|fail)
 refine DP hS (Z7s xs[j] ra rb _ cQ me) λw5 hT hS=>?_;refine QD ?_;refine QO ?_;exact QL (j+1) ⟨hlt,hS⟩ (Xs hlt (Xv j));refine RT ?_;exact ⟨rfl,hS⟩
def ZfW:Str:=[114,117,108,101,32,114,32,102,114,111,109,32,64,50,48,50,54,45,48,49,45,48,49,32,123,32,111,110,32,99,108,97,105,109,59,32,100,117,101,32,100,97,121,32,43,32,50,48,32,100,97,121,115,59,32,117,110,108,101,115,115,32,97,110,115,119,101,114,59,32,101,108,115,101,32,108,97,112,115,101,59,32,125]
def Z3H:RuleM:=⟨[114],739616,[99,108,97,105,109],.mk 2 1 [] [],.mk 7 0 [100,97,121,115] [.mk 4 0 [100,97,121] [],.mk 1 20 [] []],[97,110,115,119,101,114],[108,97,112,115,101]⟩
theorem Zol:Z27 ZfW=.ok [Z3H]:=by kernel_rfl
def Z4i:Cr:=⟨[114],739616,[99,108,97,105,109],[⟨2,1⟩,⟨24,0⟩],[⟨4,0⟩,⟨1,20⟩,⟨15,0⟩,⟨24,0⟩],[97,110,115,119,101,114],[108,97,112,115,101]⟩
def z22:Cal:=⟨[false,false,false,false,false,false,false],[],[]⟩
def Zp:Fct:=⟨4,[99,108,97,105,109],739616,1,2,50⟩
def Zxh:Cas:=⟨[Zp],[Z4i],[],[],[],z22,0,739630⟩
def Zxi:Cas:=⟨[Zp],[Z4i],[],[],[],z22,0,739640⟩
def Zxj:Cas:=⟨[Zp,⟨7,[97,110,115,119,101,114],739636,2,0,0⟩],[Z4i],[],[],[],z22,0,739640⟩
def Zxk:Cas:=⟨[Zp],[Z4i],[],[],[(739620,739621)],z22,0,739630⟩
def Z4N:Fct:=⟨4,[108,97,112,115,101],739637,2,1,50⟩
def Z16 (due st:Int) (more:List Rsn):Dln:=⟨[114],Zp,2,due,st,[⟨1,4,739616⟩,⟨2,0,0⟩]++more⟩
theorem Zy9:J2 Zxh=[]:=by decide +kernel
theorem Zya:J2 Zxi=[Z4N]:=by decide +kernel
theorem Zyb:J2 Zxj=[]:=by decide +kernel
theorem Zyc:J2 Zxk=[]:=by decide +kernel
theorem Zyd:JH Zxh=[Z16 739636 0 []]:=by kernel_rfl
theorem Zye:JH Zxi=[Z16 739636 2 []]:=by kernel_rfl
theorem Zyf:JH Zxj=[Z16 739636 1 [⟨6,7,739636⟩]]:=by kernel_rfl
theorem Zyg:JH Zxk=[Z16 739638 0 [⟨4,739638,739638⟩,⟨5,739620,739621⟩]]:=by kernel_rfl
theorem ZoV:Zd (.mk 2 1 [] [])=2:=by
 rw [Zd];decide +kernel
theorem Zxl:Zd (.mk 7 0 [100,97,121,115] [.mk 4 0 [100,97,121] [],.mk 1 20 [] []])=3:=by
 rw [Zd,Xt,Xt,XM,Zd,Zd];decide +kernel
theorem ZoW:Zw (.mk 2 1 [] [])=1:=by
 rw [Zw];decide +kernel
theorem Zxm:Zw (.mk 7 0 [100,97,121,115] [.mk 4 0 [100,97,121] [],.mk 1 20 [] []])=2:=by
 rw [Zw,Xt,Xt,XM,Zw,Zw];decide +kernel
theorem ZfX:ZU (.mk 2 1 [] [])=[⟨2,1⟩,⟨24,0⟩]:=by
 rw [ZU,Zc];decide +kernel
theorem ZdA (k n:Int) (s:Str) (l:List Nd):Zc (.mk k n s l)=Z1i k n s (l.map Zc):=by rw [Zc]
theorem ZoX:ZU (.mk 7 0 [100,97,121,115] [.mk 4 0 [100,97,121] [],.mk 1 20 [] []])=[⟨4,0⟩,⟨1,20⟩,⟨15,0⟩,⟨24,0⟩]:=by
 rw [ZU,Zc,Xt,Xt,XM];simp only [ZdA];decide +kernel
theorem ZeY:Z0s Z3H.rul=0:=by
 have c1:Z3H.rul.cnd=.mk 2 1 [] []:=rfl;have c2:Z3H.rul.due=.mk 7 0 [100,97,121,115] [.mk 4 0 [100,97,121] [],.mk 1 20 [] []]:=rfl;have c3:Je Z3H.rul=true:=by decide +kernel
 have c4:¬ (Z3H.rul.frm<0\/Z3H.rul.frm > 3652058):=by decide +kernel
 unfold Z0s Z0M;rw [c1,c2,c3];simp only [Z1H,Z0D,ZoV,Zxl,ZoW,Zxm,ZfX,ZoX,if_neg c4];decide +kernel
theorem ZoY:crF Z3H.rul=Z4i:=by
 unfold crF;rw [if_pos ZeY];have c1:Z3H.rul.cnd=.mk 2 1 [] []:=rfl;have c2:Z3H.rul.due=.mk 7 0 [100,97,121,115] [.mk 4 0 [100,97,121] [],.mk 1 20 [] []]:=rfl;rw [c1,c2,ZfX,ZoX];rfl
theorem ZoZ:Zby Z4i=0:=ZoY ▸ (Z93 Z3H.rul ZeY).2
def lxV:Lx->Value
 | .err c=>.tuple #[aG (⟨0,0,[],0⟩:Tkn),.I c]
 | .ok t=>.tuple #[aG t,.I 0]
theorem tk0 (w):(Instr.build 183 #[]).run Tryz.prog w=.ok (aG (⟨0,0,[],0⟩:Tkn)) w:=by kernel_rfl
theorem tk2 (k:Int) (s:Str) (w):(Instr.build 183 #[(0,.I k),(2,str s)]).run Tryz.prog w=.ok (aG (⟨k,0,s,0⟩:Tkn)) w:=by kernel_rfl
theorem tk3 (k n:Int) (s:Str) (w):(Instr.build 183 #[(0,.I k),(2,str s),(3,.I n)]).run Tryz.prog w=.ok (aG (⟨k,0,s,n⟩:Tkn)) w:=by kernel_rfl
theorem tk1 (k n:Int) (w):(Instr.build 183 #[(0,.I k),(1,.I n)]).run Tryz.prog w=.ok (aG (⟨k,n,[],0⟩:Tkn)) w:=by kernel_rfl
theorem ZtL {s:Str} {a b:UInt8} (h:s.take 2=[a,b]):2<=s.length:=by
 have:=congrArg List.length h;simp at this;omega
theorem Z99 (s:Str) (w) (aS:s≠[]):CC 215 #[str s] w λr w'=>r=lxV (Z01 s)/\Stp [] w w':=by
 have hl:s.length≠0:=λh=>aS (Xy.1 h);have cD:Jg s 0=((s.getD 0 0).toNat:Int):=rfl;refine cW1 22 Tryz.func215 ?_;refine W ?_;refine Z0 Z2 rfl ?_;rintro _ w1 ⟨b2,rfl,bV,e2,hS⟩;refine W ?_;refine CL (Z2G s 60 61 _) ?_;rintro _ wv ⟨rfl,jz⟩;subst wv;by_cases a1:s.take 2=[60,61]
 have h2:=ZtL a1;have hv:Z01 s=.ok ⟨4,0,s.take 2,0⟩:=by unfold Z01;rw [if_pos (.inl a1)]
 rw [decide_eq_true a1];refine W ?_;refine Z0y (r:=2) rfl rfl rfl (by omega) rfl ?_;refine Z7 (vs:=[(0,.I 4),(2,str (s.take 2))]) rfl (tk2 _ _) rfl ?_;refine SA (us:=Z3.enc (⟨4,0,s.take 2,0⟩:Tkn)) e2 ?_;rintro _ wz ⟨hT,e2'⟩;refine W ?_;refine Zn rfl rfl rfl e2' rfl rfl ?_;exact .mk ⟨by rw [hv];rfl,hS.ow hT⟩;rw [decide_eq_false a1];refine W ?_;refine CL (Z2G s 33 61 _) ?_;rintro _ wv ⟨rfl,jz⟩;subst wv;by_cases a2:s.take 2=[33,61]
 have h2:=ZtL a2;have hv:Z01 s=.ok ⟨4,0,s.take 2,0⟩:=by unfold Z01;rw [if_pos (.inr (.inl a2))]
 rw [decide_eq_true a2];refine W ?_;refine Z0y (r:=2) rfl rfl rfl (by omega) rfl ?_;refine Z7 (vs:=[(0,.I 4),(2,str (s.take 2))]) rfl (tk2 _ _) rfl ?_;refine SA (us:=Z3.enc (⟨4,0,s.take 2,0⟩:Tkn)) e2 ?_;rintro _ wz ⟨hT,e2'⟩;refine W ?_;refine Zn rfl rfl rfl e2' rfl rfl ?_;exact .mk ⟨by rw [hv];rfl,hS.ow hT⟩;rw [decide_eq_false a2];refine W ?_;refine CL (Z2G s 62 61 _) ?_;rintro _ wv ⟨rfl,jz⟩;subst wv;by_cases a3:s.take 2=[62,61]
 have h2:=ZtL a3;have hv:Z01 s=.ok ⟨4,0,s.take 2,0⟩:=by unfold Z01;rw [if_pos (.inr (.inr a3))]
 rw [decide_eq_true a3];refine W ?_;refine Z0y (r:=2) rfl rfl rfl (by omega) rfl ?_;refine Z7 (vs:=[(0,.I 4),(2,str (s.take 2))]) rfl (tk2 _ _) rfl ?_;refine SA (us:=Z3.enc (⟨4,0,s.take 2,0⟩:Tkn)) e2 ?_;rintro _ wz ⟨hT,e2'⟩;refine W ?_;refine Zn rfl rfl rfl e2' rfl rfl ?_;exact .mk ⟨by rw [hv];rfl,hS.ow hT⟩;rw [decide_eq_false a3];have bg:¬ (s.take 2=[60,61]\/s.take 2=[33,61]\/s.take 2=[62,61]):=by
  rintro (h|h|h);exact a1 h;exact a2 h;exact a3 h
 refine QO ?_;refine J9 (i:=0) rfl rfl rfl (by omega) rfl ?_;repeat'(first|refine W1 ?_|omega|refine VG ?_ ?_<;>intro hg|refine VC ?_ ?_<;>intro hc)
 rw [cD];refine CL (Z79 Z8e (s.getD 0 0) _) ?_;rintro _ wv ⟨rfl,jz⟩;subst wv;have sK:=Z8p Z8e (s.getD 0 0);rw [decide_eq_decide] at sK;by_cases a4:s.getD 0 0∈Z8e;have hv:Z01 s=.ok ⟨4,0,s.take 1,0⟩:=by unfold Z01;rw [if_neg bg,if_pos a4]
 have h0:=sK.2 a4;refine QO ?_;refine W ?_;refine Z0y (r:=1) rfl rfl rfl (by omega) rfl ?_;refine Z7 (vs:=[(0,.I 4),(2,str (s.take 1))]) rfl (tk2 _ _) rfl ?_;refine SA (us:=Z3.enc (⟨4,0,s.take 1,0⟩:Tkn)) e2 ?_;rintro _ wz ⟨hT,e2'⟩;refine W ?_;refine Zn rfl rfl rfl e2' rfl rfl ?_;exact .mk ⟨by rw [hv];rfl,hS.ow hT⟩;have hv:Z01 s=.err 20:=by unfold Z01;rw [if_neg bg,if_neg a4]
 have h0:¬ 0<=Lib.indexByte Z8e (s.getD 0 0):=λh=>a4 (sK.1 h);refine QO ?_;refine Z7 (vs:=[]) rfl tk0 rfl ?_;refine SA (us:=Z3.enc (⟨0,0,[],0⟩:Tkn)) e2 ?_;rintro _ wz ⟨hT,e2'⟩;refine W ?_;refine Zn rfl rfl rfl e2' rfl rfl ?_;exact .mk ⟨by rw [hv];rfl,hS.ow hT⟩
theorem Zas (s:Str) (w) (hl:s.length<=1000000):CC 220 #[str s] w λr w'=>r=lxV (Z4Z s)/\Stp [] w w':=by
 have cT:(s.takeWhile ldB).length<=s.length:=by
  have:=congrArg List.length (Z05 (p:=ldB) s);simp at this;omega
 refine cW1 14 Tryz.func220 ?_;refine W ?_;refine Z0 Z2 rfl ?_;rintro _ w1 ⟨b2,rfl,bV,e2,hS⟩;refine W ?_;refine CL (Z6q (λn=>ZaW n || Z6p n) Ztn s _ hl) ?_;rintro _ w2 ⟨rfl,hT⟩;rw [ZjO];replace e2:=e2.up hT;replace hS:=hS.trans hT;clear hT;by_cases mu:12<(s.takeWhile ldB).length;have hv:Z4Z s=.err 2:=by unfold Z4Z;simp only;rw [if_pos mu]
 refine QO ?_;refine Z7 (vs:=[]) rfl tk0 rfl ?_;refine SA (us:=Z3.enc (⟨0,0,[],0⟩:Tkn)) e2 ?_;rintro _ wz ⟨hT,e2'⟩;refine W ?_;refine Zn rfl rfl rfl e2' rfl rfl ?_;exact .mk ⟨by rw [hv];rfl,hS.ow hT⟩;have hv:Z4Z s=.ok ⟨1,0,s.take (s.takeWhile ldB).length,0⟩:=by unfold Z4Z;simp only;rw [if_neg mu]
 generalize (s.takeWhile ldB).length=q at *;refine QO ?_;refine Z0y (r:=q) rfl rfl rfl cT rfl ?_;refine Z7 (vs:=[(0,.I 1),(2,str (s.take q))]) rfl (tk2 _ _) rfl ?_;refine SA (us:=Z3.enc (⟨1,0,s.take q,0⟩:Tkn)) e2 ?_;rintro _ wz ⟨hT,e2'⟩;refine W ?_;refine Zn rfl rfl rfl e2' rfl rfl ?_;exact .mk ⟨by rw [hv];rfl,hS.ow hT⟩
theorem Zxn {P:Program} {n:Nat} {Q:Exit->Act->World->Prop} {e:Env} {w} {ops:Array Oper} {rest:List Oper} {ak:Nat} {ty:TypeId} {pos:String} {af:Array Edge} {t u p:Nat} {x y:Operand} {v:Value} {ds:TypeDesc} [hu:Und P t ds] (sL:∃ l,ds=.interface l) (hx:ev e x=some (.iface p v)) (hy:ev e y=some .nilIface) (aw:Nat.blt ak n=true) (kk:WL P n ops Q rest ((ak,.B true) :: e) w) :
 WL P n ops Q (⟨some ak,.binOp .neq t x y u,ty,pos,af,none⟩ :: rest) e w:=by
 refine Z8 (v:=.B true) ⟨λa ha=>?_⟩ aw kk;obtain ⟨l,rfl⟩:=sL;simp only [execOp,ha.ev hx,ha.ev hy];have:=run_equal_held_nil (P:=P) (w:=w) t p v (by rw [hu.h,Program.methodsAt,hu.h]);simp [go_sem,binOp,this]
theorem Zp0 {P:Program} {n:Nat} {Q:Exit->Act->World->Prop} {e:Env} {w} {ops:Array Oper} {rest:List Oper} {ak:Nat} {ty:TypeId} {pos:String} {af:Array Edge} {t u:Nat} {x:Operand} {ds:TypeDesc} [hu:Und P t ds] (sL:∃ l,ds=.interface l) (hx:ev e x=some .nilIface) (aw:Nat.blt ak n=true) (kk:WL P n ops Q rest ((ak,.B false) :: e) w) :
 WL P n ops Q (⟨some ak,.binOp .neq t x (.const .nilIface) u,ty,pos,af,none⟩ :: rest) e w:=by
 refine Z8 (v:=.B false) ⟨λa ha=>?_⟩ aw kk;obtain ⟨l,rfl⟩:=sL;have hy:a.eval (.const .nilIface)=.nilIface:=rfl;simp only [execOp,ha.ev hx,hy];have:=run_equal_nil_nil (P:=P) (w:=w) t (by rw [hu.h,Program.methodsAt,hu.h]);simp [go_sem,binOp,eqGuard,this]
theorem ZhB (w) (el:TypeId) (t:ByteArray):Stp [] w (Lib.bytesWorld w el t):=by
 refine ⟨rfl,rfl,rfl,?_,λb hb _=>Lib.bytesWorld_at_old w el _ b hb⟩;rw [Lib.bytesWorld_size];omega
theorem ZhC (t:Str) (ev:Value) (w:World) (ht:t.all ZO=true) (aS:t≠[]) (hl:t.length<=1000000) (d5:w.cell? ⟨8,0,none⟩=some ev) (bD:ev=.nilIface\/∃ te pe,ev=.iface te pe) :
 CC 276 #[str t] w λr w'=>(if Z0u t<=9223372036854775807 then r=.tuple #[.I (Z0u t:Int),.nilIface] else ∃ z p v,r=.tuple #[.I z,.iface p v])/\Stp [] w w':=by
 have ha:=Zct aS ht;by_cases h:Z0u t<=9223372036854775807;rw [if_pos h] at ha;refine (Tryz.strconv_Atoi_ok ⟨t.toArray⟩ (by rw [Z0x];omega) (Z0u t:Int) (by simpa using ha) w).mono ?_;rintro e w' ⟨rfl,hw⟩;refine .mk ⟨by rw [if_pos h],?_⟩;rcases hw with rfl|⟨x,rfl⟩
 exact Stp.refl _ _;exact ZhB _ _ _;rw [if_neg h] at ha;refine (Tryz.strconv_Atoi_range ⟨t.toArray⟩ (by rw [Z0x];omega) (by simpa using ha) ev w d5 bD).mono ?_;rintro e w' ⟨N,rfl,_,_,hw⟩;exact .mk ⟨by rw [if_neg h];exact ⟨_,_,_,rfl⟩,Stp.of_below hw⟩
theorem Z7t (s:Str) (ev:Value) (w:World) (hl:s.length<=1000000) (hd:ZO (s.getD 0 0)=true) (aS:s≠[]) (d5:w.cell? ⟨8,0,none⟩=some ev) (bD:ev=.nilIface\/∃ te pe,ev=.iface te pe):CC 222 #[str s] w λr w'=>r=lxV (Z3e s)/\Stp [] w w':=by
 have cT:(s.takeWhile ZO).length<=s.length:=by
  have:=congrArg List.length (Z05 (p:=ZO) s);simp at this;omega
 have aB:(s.takeWhile ZO).all ZO=true:=XW.2 λc hc=>Z0V hc;have fJ:=Z05 (p:=ZO) s;have bj:s.takeWhile ZO≠[]:=by
  cases s with
  | nil=>exact absurd rfl aS
  | cons a r=>simp only [XB] at hd;simp [hd]
 have rx:(s.takeWhile ZO).length≠0:=λh=>bj (Xy.1 h);have oA:Z3e s=if 1<(s.takeWhile ZO).length/\(s.takeWhile ZO).getD 0 0=48 then .err 20 else if 2147483647<Z0u (s.takeWhile ZO) then .err 5 else .ok ⟨2,0,s.takeWhile ZO,Z0u (s.takeWhile ZO)⟩:=rfl
 rw [oA];have gO:=Zgm s;refine cW1 35 Tryz.func222 ?_;refine W ?_;refine Z0 Z2 rfl ?_;rintro _ w1 ⟨b2,rfl,bV,e2,hS⟩;refine W ?_;refine CL (Z6q Z6p Z4y s _ hl) ?_;rintro _ w2 ⟨rfl,hT⟩;rw [gO];replace e2:=e2.up hT;replace hS:=hS.trans hT;clear hT;refine Z0y (r:=(s.takeWhile ZO).length) rfl rfl rfl cT rfl ?_;rw [fJ];have d8:(s.takeWhile ZO).length<=1000000:=Xh cT hl;clear oA fJ cT gO;generalize s.takeWhile ZO=t at *;have cD:Jg t 0=((t.getD 0 0).toNat:Int):=rfl;have sM:Jg t 0=48↔t.getD 0 0=48:=by
  rw [cD];constructor;intro h;have sM:(48:UInt8).toNat=48:=rfl;exact UInt8.toNat_inj.1 (by omega);intro h;rw [h];rfl
 by_cases hz:1<t.length/\t.getD 0 0=48;rw [if_pos hz];have fW:=hz.1;have lp:=sM.2 hz.2;refine QO ?_;refine J9 (i:=0) rfl rfl rfl (by omega) rfl ?_;refine QO ?_;refine Z7 (vs:=[]) rfl tk0 rfl ?_;refine SA (us:=Z3.enc (⟨0,0,[],0⟩:Tkn)) e2 ?_;rintro _ wz ⟨hT,e2'⟩;refine W ?_;refine Zn rfl rfl rfl e2' rfl rfl ?_;exact .mk ⟨rfl,hS.ow hT⟩;rw [if_neg hz];refine W ?_;refine Z5K (σ:=Unit) (λ_=>[(0,str s),(2,pQ b2),(4,str t),(18,.B false)]) (λ_ w'=>w'=w2) ?_ ?_;by_cases h1:1<t.length;have h0:¬ Jg t 0=48:=λh=>hz ⟨h1,sM.1 h⟩;refine QO ?_;refine J9 (i:=0) rfl rfl rfl (by omega) rfl ?_;refine QO ?_;rw [decide_eq_false h0];exact QT () rfl;refine QO ?_;exact QT () rfl;rintro _ wv jz;subst wv;refine W ?_;refine CM (ZN rfl) (ZhC t ev _ aB bj d8 (hS.cell (by simp) d5) bD) ?_;rintro _ w3 ⟨hr,hT⟩;replace e2:=e2.up hT;replace hS:=hS.trans hT;clear hT;by_cases aU:Z0u t<=9223372036854775807;rw [if_pos aU] at hr;subst hr;refine W ?_;refine Zp0 ⟨_,rfl⟩ rfl rfl ?_;by_cases oF:2147483647<Z0u t;rw [if_pos oF];refine QO ?_;refine Z7 (vs:=[]) rfl tk0 rfl ?_;refine SA (us:=Z3.enc (⟨0,0,[],0⟩:Tkn)) e2 ?_;rintro _ wz ⟨hT,e2'⟩;refine W ?_;refine Zn rfl rfl rfl e2' rfl rfl ?_;exact .mk ⟨rfl,hS.ow hT⟩;rw [if_neg oF];refine QO ?_;refine Z7 (vs:=[(0,.I 2),(2,str t),(3,.I (Z0u t:Int))]) rfl (tk3 _ _ _) rfl ?_;refine SA (us:=Z3.enc (⟨2,0,t,Z0u t⟩:Tkn)) e2 ?_;rintro _ wz ⟨hT,e2'⟩;refine W ?_;refine Zn rfl rfl rfl e2' rfl rfl ?_;exact .mk ⟨rfl,hS.ow hT⟩;rw [if_neg aU] at hr;obtain ⟨z,p,v,rfl⟩:=hr;rw [if_pos (by omega)];refine W ?_;refine Zxn ⟨_,rfl⟩ rfl rfl rfl ?_;refine QO ?_;refine Z7 (vs:=[]) rfl tk0 rfl ?_;refine SA (us:=Z3.enc (⟨0,0,[],0⟩:Tkn)) e2 ?_;rintro _ wz ⟨hT,e2'⟩;refine W ?_;refine Zn rfl rfl rfl e2' rfl rfl ?_;exact .mk ⟨rfl,hS.ow hT⟩
theorem Z7u {z:Int} (h0:0<=z) (h1:z<2147483648):IntKind.i32.wrap z=z:=by
 rw [IntKind.wrap_i32];omega
theorem Zom:∀ i,i<Jc.length->(Jc.getD i 0).toNat<128:=by decide
theorem Zon {s:Str} (h:11<=s.length) (hf:∀ j,j<11->Z4Q (Jc.getD j 0) (s.getD j 0)=true):((Jc.zip s).all λp=>Z4Q p.1 p.2)=true:=by
 rw [XW];intro p hp;obtain ⟨i,hi,rfl⟩:=Xr hp;have h1:i<11:=by
  have:Jc.length=11:=rfl;simp at hi;omega
 have:=hf i h1;rw [List.getElem_zip];have e1:Jc.getD i 0=Jc[i]'(by show i<11;omega):=by
  have:i<Jc.length:=h1;simp [List.getD,this]
 have e2:s.getD i 0=s[i]'(by omega):=by
  have:i<s.length:=by omega
  simp [List.getD,this]
 rw [e1,e2] at this;exact this
theorem Zat {s:Str} {j:Nat} (h:11<=s.length) (hj:j<11) (hf:Z4Q (Jc.getD j 0) (s.getD j 0)=false):((Jc.zip s).all λp=>Z4Q p.1 p.2)=false:=by
 cases hb:((Jc.zip s).all λp=>Z4Q p.1 p.2) with
 | false=>rfl
 | true=>
   rw [XW] at hb;have hl:j<(Jc.zip s).length:=by
    have:Jc.length=11:=rfl;simp;omega
   have:=hb _ (Xc hl);rw [List.getElem_zip] at this;have e1:Jc.getD j 0=Jc[j]'(by show j<11;omega):=by
    have:j<Jc.length:=hj;simp [List.getD,this]
   have e2:s.getD j 0=s[j]'(by omega):=by
    have:j<s.length:=by omega
    simp [List.getD,this]
   rw [e1,e2] at hf;rw [hf] at this;cases this
theorem ZfY (s:Str) (w) (cx:Z0z w) (hl:s.length<=1000000):CC 223 #[str s] w λr w'=>r=lxV (Z9l s)/\Stp [] w w':=by
 have yN:3<w.heap.size:=by have:=block_lt_of_cell (cx 0 0 rfl);simpa using this
 refine cW1 52 Tryz.func223 ?_;refine W ?_;refine Z0 Z2 rfl ?_;rintro _ w1 ⟨b2,rfl,bV,e2,hS⟩;by_cases ml:s.length<11;have hv:Z9l s=.err 20:=by unfold Z9l;rw [if_pos ml]
 rw [hv];refine QO ?_;refine Z7 (vs:=[]) rfl tk0 rfl ?_;refine SA (us:=Z3.enc (⟨0,0,[],0⟩:Tkn)) e2 ?_;rintro _ wz ⟨hT,e2'⟩;refine W ?_;refine Zn rfl rfl rfl e2' rfl rfl ?_;exact .mk ⟨rfl,hS.ow hT⟩
 . have lR:Z9l s=if ((Jc.zip s).all λp=>Z4Q p.1 p.2) then (let d:=Z1k ((s.take 11).drop 1);if d.2=0 then .ok ⟨3,0,s.take 11,d.1⟩ else .err 5) else .err 20:=by unfold Z9l;rw [if_neg ml]
   rw [lR];replace cx:=cx.up hS;refine QO ?_;refine Z0 (Zch (s:=Jc) rfl) rfl ?_;rintro _ w2 ⟨bi,rfl,pi,hI,hT⟩;have xy:w.heap.size<=bi:=Xh hS.size pi;have ni2:b2≠bi:=by have:=e2.lt;omega
   have xz:(3:Nat)≠bi:=by omega
   replace e2:=e2.up hT;replace cx:=cx.up hT;replace hS:=hS.trans hT;clear hT;refine W ?_
   refine Zt (σ:=Nat) (λq=>[(0,str s),(2,pQ b2),(13,pQ bi)])
    (λq w'=>q<=11/\Itr w' bi Jc q/\(∀ j,j<q->Z4Q (Jc.getD j 0) (s.getD j 0)=true)/\(∃ cs:List Value,cs.length=4/\Blk w' b2 183 cs)/\Z0z w'/\Stp [] w w')
    (λq=>11 - q) 0 ⟨rfl,rfl,rfl,trivial⟩ ⟨Xp _,hI,λj h=>absurd h (Xw _),⟨_,rfl,e2⟩,cx,hS⟩ ?_
   clear hI e2 cx hS;rintro q w3 ⟨hq,hI,cC,⟨cs2,ci,e2⟩,cx,hS⟩
   match cs2,ci with
   | [q0,q1,q2,q3],_=>
   have dC:Jc.length=11:=rfl;by_cases hlt:q<11;have hqf:q<Jc.length:=by omega
   have nN:=Zom q hqf;have iO:dec Jc q=((Jc.getD q 0).toNat,1):=by
    have e1:Jc.getD q 0=Jc[q]'hqf:=by simp [List.getD,hqf]
    rw [e1] at nN ⊢;exact Z4x hqf nN
   refine W ?_;refine Z0 (Zfm rfl hI hqf) rfl ?_;rintro _ w4 ⟨rfl,pS,hT⟩;rw [iO] at pS ⊢;dsimp only at pS ⊢;replace e2:=e2.ext hT (by simpa using ni2);replace cx:=cx.ext hT (by simpa using xz);replace hS:=hS.ow hT;clear hT hI;have ma:=Z7X s q;refine QO ?_;refine Z8 (Z4A (b:=Jg s q) rfl (Z7u ma.1 (by omega))) rfl ?_;have lW:Jg s q=((s.getD q 0).toNat:Int):=rfl;by_cases gK:Jc.getD q 0=100;rw [gK];have jx:(((100:UInt8).toNat:Nat):Int)=100:=rfl;rw [jx];have oG:Z4Q (Jc.getD q 0) (s.getD q 0)=ZO (s.getD q 0):=by unfold Z4Q;rw [if_pos gK]
   refine QO ?_;rw [lW];refine Z0 (Z4 rfl (ZN rfl) (Z4y (s.getD q 0).toNat _)) rfl ?_;rintro _ wv ⟨rfl,jz⟩;subst wv;have jj:Z6p (s.getD q 0).toNat=ZO (s.getD q 0):=rfl;rw [jj];cases hd:ZO (s.getD q 0);have hz:=Zat (s:=s) (by omega) hlt (by rw [oG];exact hd);rw [if_neg (by rw [hz];decide)];refine QO ?_;refine Z7 (vs:=[]) rfl tk0 rfl ?_;refine SA (us:=Z3.enc (⟨0,0,[],0⟩:Tkn)) e2 ?_;rintro _ wz ⟨hT,e2'⟩;refine W ?_;refine Zn rfl rfl rfl e2' rfl rfl ?_;exact .mk ⟨rfl,hS.ow hT⟩;refine QO ?_;refine QL (q+1) ⟨hlt,pS,λj hj=>?_,⟨_,rfl,e2⟩,cx,hS⟩ (by omega);rcases YaC j q with h|h
   exact cC j h;obtain rfl:j=q:=by omega
   rw [oG];exact hd;have aS:¬ ((Jc.getD q 0).toNat:Int)=100:=λh=>gK (by
    have jx:(100:UInt8).toNat=100:=rfl;exact UInt8.toNat_inj.1 (by omega))
   have oG:Z4Q (Jc.getD q 0) (s.getD q 0)=decide (s.getD q 0=Jc.getD q 0):=by unfold Z4Q;rw [if_neg gK]
   have df:Jg s q=((Jc.getD q 0).toNat:Int)↔s.getD q 0=Jc.getD q 0:=by
    rw [lW];constructor;intro h;exact UInt8.toNat_inj.1 (by omega);intro h;rw [h]
   by_cases hx:Jg s q=((Jc.getD q 0).toNat:Int)
   refine QO ?_;refine QL (q+1) ⟨hlt,pS,λj hj=>?_,⟨_,rfl,e2⟩,cx,hS⟩ (by omega);rcases YaC j q with h|h
   exact cC j h;obtain rfl:j=q:=by omega
   rw [oG];exact decide_eq_true (df.1 hx);have hz:=Zat (s:=s) (by omega) hlt (by rw [oG];exact decide_eq_false (λh=>hx (df.2 h)));rw [if_neg (by rw [hz];decide)];refine QO ?_;refine Z7 (vs:=[]) rfl tk0 rfl ?_;refine SA (us:=Z3.enc (⟨0,0,[],0⟩:Tkn)) e2 ?_;rintro _ wz ⟨hT,e2'⟩;refine W ?_;refine Zn rfl rfl rfl e2' rfl rfl ?_;exact .mk ⟨rfl,hS.ow hT⟩;have sN:q=11:=by omega
   subst sN;have hz:=Zon (s:=s) (by omega) cC;rw [if_pos hz];refine W ?_;refine Z0 (Z8d rfl hI (by omega)) rfl ?_;rintro _ wv ⟨rfl,jz⟩;subst wv;refine W ?_;refine Z5z (l:=1) (r:=11) rfl rfl rfl rfl rfl (by omega) (by omega) rfl ?_;refine Z0 (Z4 rfl (ZN rfl) (Zel _ _ cx (by simp;omega))) rfl ?_;rintro _ w5 ⟨rfl,hT⟩;replace e2:=e2.up hT;replace hS:=hS.trans hT;clear hT;dsimp only;by_cases h0:(Z1k ((s.take 11).drop 1)).2=0;rw [if_pos h0];refine QO ?_;refine Z0y (r:=11) rfl rfl rfl (by omega) rfl ?_;refine W ?_;refine Z7 (vs:=[(0,.I 3),(2,str (s.take 11)),(3,.I (Z1k ((s.take 11).drop 1)).1)]) rfl (tk3 _ _ _) rfl ?_;refine Z5 (Zm (us:=Z3.enc (⟨3,0,s.take 11,(Z1k ((s.take 11).drop 1)).1⟩:Tkn)) rfl rfl rfl rfl (Z3.one _) e2 rfl) ?_;rintro _ wz ⟨hT,e2'⟩;refine W ?_;refine Zn rfl rfl rfl e2' rfl rfl ?_;exact .mk ⟨rfl,hS.ow hT⟩;rw [if_neg h0];refine QO ?_;refine Z7 (vs:=[]) rfl tk0 rfl ?_;refine SA (us:=Z3.enc (⟨0,0,[],0⟩:Tkn)) e2 ?_;rintro _ wz ⟨hT,e2'⟩;refine W ?_;refine Zn rfl rfl rfl e2' rfl rfl ?_;exact .mk ⟨rfl,hS.ow hT⟩
end Go.Proofs.YtipfkbkkndacjaaGreatDoor
namespace Go.Eng
open Go Go.RowKit Go.Proofs
theorem Z2Z {s:Str} {e:Int} (h:JX s=.err e):e≠0:=by
 unfold JX at h;simp only at h;split at h;unfold Z4Z at h;simp only at h;split at h<;>simp at h;omega;split at h;unfold Z3e at h;simp only at h;split at h;simp at h;omega;split at h<;>simp at h;omega;split at h;unfold Z9l at h;split at h;simp at h;omega;split at h;simp only at h;split at h<;>simp at h;omega;simp at h;omega;unfold Z01 at h;split at h;simp at h;split at h<;>simp at h;omega
theorem Zoo {s:Str} (h:s.getD 0 0=35):1<=nlM s:=by
 cases s with
 | nil=>simp at h
 | cons a r=>
   simp only [XB] at h;subst h;unfold nlM;have h0:0<(35 :: r:Str).length:=by simp
   have hl:(35 :: r:Str).length=r.length+1:=by simp
   rw [hl];unfold JV;rw [if_pos h0,Z4x h0 (by show (35:UInt8).toNat<128;decide)];simp only;have hn:Z8f ((35 :: r:Str)[0]).toNat=true:=by show Z8f (35:UInt8).toNat=true;decide
   rw [if_pos hn];exact Z9M _ _ _ _ (by simp)
end Go.Eng
namespace Go.Proofs.YtipfkbkkndacjaaGreatDoor
open Go Go.Eng Go.RowKit Go.Proofs
theorem Z4j (t:Tkn) (w):(Instr.buildSlice 184 1 #[(0,aG t)]).run Tryz.prog w=.ok (.slice (some ⟨w.heap.size,0,none⟩) 1 1) (w.alloc (.cells (Z3.enc t).toArray 183)):=by kernel_rfl
def TkV (w w':World) (r:Value):Tks->Prop
 | .err a c=>r=.tuple #[.N,.I a,.I c]
 | .ok l=>∃ tv,r=.tuple #[tv,.I 0,.I 0]/\ZF 183 w w' tv l
theorem ZeZ (s:Str) (ev:Value) (w) (cx:Z0z w) (d5:w.cell? ⟨8,0,none⟩=some ev) (bD:ev=.nilIface\/∃ te pe,ev=.iface te pe) (hl:s.length<=1000000) :
 CC 157 #[str s] w λr w'=>TkV w w' r (Z02 s)/\Stp [] w w':=by
 unfold Z02;refine cW1 72 Tryz.func157 ?_;refine W ?_;refine Z8n ?_;by_cases h4:4000<s.length
 . rw [if_pos h4]
   refine QO ?_
   repeat (first|refine JW ?_|refine W1 ?_)
   refine RU ?_;exact ⟨rfl,Stp.refl _ _⟩
 rw [if_neg h4];generalize hR:JS nlM s (s.length+1) 0 []=R;refine QO ?_;refine Zk2 ?_;refine QO ?_
 refine Zt (σ:=Nat×Nat×List Tkn×Value) (λq=>[(0,str s),(5,q.2.2.2),(6,.I (q.2.1:Int))])
  (λq w'=>JS nlM s q.1 q.2.1 q.2.2.1=R/\s.length<q.2.1+q.1/\q.2.1<=s.length/\q.2.2.1.length<=q.2.1/\ZF 183 w w' q.2.2.2 q.2.2.1)
  (λq=>q.1) (s.length+1,0,[],.N) ⟨rfl,rfl,rfl,trivial⟩ ⟨hR,by dsimp only;omega,Xp _,Xn _,ZF.nil⟩ ?_
 clear hR;rintro ⟨f,q,l,lv⟩ w1 ⟨hR,hf,hq,j9,ab⟩;dsimp only at hR hf hq j9 ab ⊢;have dz:=ab;cases f with
 | zero=>omega
 | succ f=>
 simp only [JS] at hR;by_cases hlt:q<s.length
 rotate_left
 . rw [if_neg hlt] at hR
   subst hR;refine QO ?_;refine Z7 (vs:=[(0,.I 0),(1,.I (q:Int))]) rfl (tk1 _ _) rfl ?_;refine Z0 (Z1 (vs:=[(0,.agg (Z3.enc (⟨0,(q:Int),[],0⟩:Tkn)).toArray)]) rfl (Z4j _)) rfl ?_;intro bv w3 hN;have an:SlV (ob lv) w3 bv [(⟨0,(q:Int),[],0⟩:Tkn)]:=hN.slv (λb hb=>(ab.ob_le b hb).2) rfl rfl (by simp [maxLen]);replace ab:=ab.up (Z9.stp hN);clear hN;refine Z0 (JE rfl (by decide) rfl rfl ab an (by simp only [Xe,Xf];omega) (by simp only [Xe,Xf,maxLen];omega)) rfl ?_;rintro lv' w4 ⟨aC,hT,ce⟩;refine QO ?_
   repeat (first|refine JW ?_|refine W1 ?_)
   refine RU ?_;exact ⟨⟨lv',rfl,aC⟩,aC.2⟩
 rw [if_pos hlt] at hR;have aS:s.drop q≠[]:=λh=>by have:=congrArg List.length h;simp at this;omega
 have jZ:(s.drop q).length≠0:=λh=>aS (Xy.1 h);have gt:(s.drop q).length<=1000000:=by simp;omega
 have jR:=cx.up ab.2;have jS:=ab.2.cell (by simp) d5;refine QO ?_;refine ZbV (l:=q) rfl rfl rfl (by omega) rfl ?_;refine QO ?_;have lW:Jg (s.drop q) 0=(((s.drop q).getD 0 0).toNat:Int):=rfl;have ma:=Z7X (s.drop q) 0;refine J9 (i:=0) rfl rfl rfl (by omega) rfl ?_;refine Z8 (Z4A (b:=Jg (s.drop q) 0) rfl (Z7u ma.1 (by omega))) rfl ?_;rw [lW];refine QO ?_;refine CL (Zb1 ((s.drop q).getD 0 0) _) ?_;rintro _ w2 ⟨rfl,hT⟩;replace ab:=ab.up hT;replace jR:=jR.up hT;replace jS:=hT.cell (by simp) jS;have dz:=ab;clear hT;cases bC:Z1E ((s.drop q).getD 0 0)
 rotate_left
 . rw [if_pos bC] at hR
   refine QO ?_
   repeat (first|refine Z06 ?_|refine W1 ?_)
   exact QL (f,q+1,l,lv) ⟨hR,by dsimp only;omega,by dsimp only;omega,by dsimp only;omega,ab⟩ (by dsimp only;omega)
 rw [if_neg (by rw [bC];decide)] at hR;have pT:(s.drop q).getD 0 0≠32:=λh=>by rw [h] at bC;exact absurd bC (by decide)
 by_cases oH:(s.drop q).getD 0 0=35
 . rw [if_pos oH] at hR
   have yO:=Zoo oH;have oA:nlM (s.drop q)<=(s.drop q).length:=Z9L _ _ _ _;have xA:(s.drop q).length=s.length - q:=by simp
   rw [oH];have oI:(((35:UInt8).toNat:Nat):Int)=35:=rfl;rw [oI];refine QO ?_;refine CL (Z6q Z8f Ztm (s.drop q) _ gt) ?_;rintro _ w3 ⟨rfl,hT⟩;replace ab:=ab.up hT;have sO:JV (s.drop q) Z8f (s.drop q).length 0=nlM (s.drop q):=rfl;rw [sO];refine QO ?_
   repeat (first|refine Z06 ?_|refine W1 ?_)
   exact Zs (f,q+nlM (s.drop q),l,lv) ⟨rfl,rfl,rfl,trivial⟩ ⟨hR,by dsimp only;omega,by dsimp only;omega,by dsimp only;omega,ab⟩ (by dsimp only;omega)
 rw [if_neg oH] at hR;have xB:¬ ((((s.drop q).getD 0 0).toNat:Nat):Int)=35:=λh=>oH (by
  have oI:(35:UInt8).toNat=35:=rfl;exact UInt8.toNat_inj.1 (by omega))
 refine QO ?_;refine CL (Z8g ((s.drop q).getD 0 0).toNat _) ?_;rintro _ wv ⟨rfl,jz⟩;subst wv;have oZ:ZaW ((s.drop q).getD 0 0).toNat=Z5I ((s.drop q).getD 0 0):=rfl;rw [oZ];cases jT:Z5I ((s.drop q).getD 0 0)
 rotate_left
 . have dy:JX (s.drop q)=Z4Z (s.drop q):=by unfold JX;simp only [jT,if_true]
   refine QO ?_;cases hr:JX (s.drop q) with
   | err e=>
     rw [hr] at hR;subst hR;have he:=Z2Z hr;refine CL (Zas (s.drop q) _ gt) ?_;rintro _ w4 ⟨rfl,hT⟩;rw [<- dy,hr];simp only [lxV];refine QO ?_;refine Z0 Z2 rfl ?_;rintro _ w5 ⟨b10,rfl,dG,e10,ar⟩;refine SA (us:=Z3.enc (⟨0,0,[],0⟩:Tkn)) e10 ?_;rintro _ w6 ⟨cB,e10'⟩;have lS:=(ab.2.trans hT).trans (ar.ow cB);refine QO ?_
     repeat (first|refine JW ?_|refine W1 ?_)
     refine RU ?_;exact ⟨rfl,lS⟩
   | ok t=>
     rw [hr] at hR;simp only at hR;have d6:=Z2K aS pT hr;have iY:t.text.length≠0:=λh=>d6.1.text (Xy.1 h);have lT:t.text.length<=s.length - q:=by have:=d6.2.1;simpa using this
     refine CL (Zas (s.drop q) _ gt) ?_;rintro _ w4 ⟨rfl,hT⟩;rw [<- dy,hr];simp only [lxV];replace ab:=ab.up hT;clear hT;refine QO ?_;refine Z0 Z2 rfl ?_;rintro _ w5 ⟨b10,rfl,dG,e10,hT⟩;refine SA (us:=Z3.enc t) e10 ?_;rintro _ w6 ⟨ar,e10'⟩;have jl:=hT.ow ar;have eU:b10∉ob lv:=λh=>by have:=(ab.ob_le b10 h).2;omega
     clear hT ar e10;refine QO ?_;refine Z5 (Zb (u:=.I (q:Int)) rfl rfl rfl rfl e10' (by simp [Z3.enc])) ?_;rintro _ w7 ⟨hT,e11⟩;replace e11:Blk w7 b10 183 (Z3.enc ({ t with pos:=(q:Int) }:Tkn)):=e11;replace ab:ZF 183 w w7 lv l:=ab.up (jl.ow hT);clear hT e10';refine QO ?_;refine Z0 (Z1 (vs:=[(0,.agg (Z3.enc ({ t with pos:=(q:Int) }:Tkn)).toArray)]) rfl (Z4j _)) rfl ?_;intro bv w8 hN;have an:SlV (ob lv) w8 bv [({ t with pos:=(q:Int) }:Tkn)]:=hN.slv (λb hb=>(ab.ob_le b hb).2) rfl rfl (by simp [maxLen]);replace ab:=ab.up (Z9.stp hN);replace e11:=e11.up (Z9.stp hN);clear hN;refine Z0 (JE rfl (by decide) rfl rfl ab an (by simp only [Xe,Xf];omega) (by simp only [Xe,Xf,maxLen];omega)) rfl ?_;rintro lv' w9 ⟨aC,hT,ce⟩;replace e11:=e11.ext hT eU;clear hT;have lB:({ t with pos:=(q:Int) }:Tkn).text.length=t.text.length:=rfl;refine QO ?_
     repeat (first|refine Z06 ?_|refine W1 ?_)
     exact Zs (f,q+t.text.length,l++[{ t with pos:=(q:Int) }],lv') ⟨rfl,rfl,rfl,trivial⟩ ⟨hR,by dsimp only;omega,by dsimp only;omega,by simp;omega,aC⟩ (by dsimp only;omega)
 refine QO ?_;refine CL (Z4y ((s.drop q).getD 0 0).toNat _) ?_;rintro _ wv ⟨rfl,jz⟩;subst wv;have xC:Z6p ((s.drop q).getD 0 0).toNat=ZO ((s.drop q).getD 0 0):=rfl;rw [xC];cases jj:ZO ((s.drop q).getD 0 0)
 rotate_left
 . have dy:JX (s.drop q)=Z3e (s.drop q):=by unfold JX;simp only [jT,jj,if_true,XQ,if_false]
   refine QO ?_;cases hr:JX (s.drop q) with
   | err e=>
     rw [hr] at hR;subst hR;have he:=Z2Z hr;refine CL (Z7t (s.drop q) ev _ gt jj aS jS bD) ?_;rintro _ w4 ⟨rfl,hT⟩;rw [<- dy,hr];simp only [lxV];refine QO ?_;refine Z0 Z2 rfl ?_;rintro _ w5 ⟨b10,rfl,dG,e10,ar⟩;refine SA (us:=Z3.enc (⟨0,0,[],0⟩:Tkn)) e10 ?_;rintro _ w6 ⟨cB,e10'⟩;have lS:=(ab.2.trans hT).trans (ar.ow cB);refine QO ?_
     repeat (first|refine JW ?_|refine W1 ?_)
     refine RU ?_;exact ⟨rfl,lS⟩
   | ok t=>
     rw [hr] at hR;simp only at hR;have d6:=Z2K aS pT hr;have iY:t.text.length≠0:=λh=>d6.1.text (Xy.1 h);have lT:t.text.length<=s.length - q:=by have:=d6.2.1;simpa using this
     refine CL (Z7t (s.drop q) ev _ gt jj aS jS bD) ?_;rintro _ w4 ⟨rfl,hT⟩;rw [<- dy,hr];simp only [lxV];replace ab:=ab.up hT;clear hT;refine QO ?_;refine Z0 Z2 rfl ?_;rintro _ w5 ⟨b10,rfl,dG,e10,hT⟩;refine SA (us:=Z3.enc t) e10 ?_;rintro _ w6 ⟨ar,e10'⟩;have jl:=hT.ow ar;have eU:b10∉ob lv:=λh=>by have:=(ab.ob_le b10 h).2;omega
     clear hT ar e10;refine QO ?_;refine Z5 (Zb (u:=.I (q:Int)) rfl rfl rfl rfl e10' (by simp [Z3.enc])) ?_;rintro _ w7 ⟨hT,e11⟩;replace e11:Blk w7 b10 183 (Z3.enc ({ t with pos:=(q:Int) }:Tkn)):=e11;replace ab:ZF 183 w w7 lv l:=ab.up (jl.ow hT);clear hT e10';refine QO ?_;refine Z0 (Z1 (vs:=[(0,.agg (Z3.enc ({ t with pos:=(q:Int) }:Tkn)).toArray)]) rfl (Z4j _)) rfl ?_;intro bv w8 hN;have an:SlV (ob lv) w8 bv [({ t with pos:=(q:Int) }:Tkn)]:=hN.slv (λb hb=>(ab.ob_le b hb).2) rfl rfl (by simp [maxLen]);replace ab:=ab.up (Z9.stp hN);replace e11:=e11.up (Z9.stp hN);clear hN;refine Z0 (JE rfl (by decide) rfl rfl ab an (by simp only [Xe,Xf];omega) (by simp only [Xe,Xf,maxLen];omega)) rfl ?_;rintro lv' w9 ⟨aC,hT,ce⟩;replace e11:=e11.ext hT eU;clear hT;have lB:({ t with pos:=(q:Int) }:Tkn).text.length=t.text.length:=rfl;refine QO ?_
     repeat (first|refine Z06 ?_|refine W1 ?_)
     exact Zs (f,q+t.text.length,l++[{ t with pos:=(q:Int) }],lv') ⟨rfl,rfl,rfl,trivial⟩ ⟨hR,by dsimp only;omega,by dsimp only;omega,by simp;omega,aC⟩ (by dsimp only;omega)
 by_cases kg:(s.drop q).getD 0 0=64
 . have dy:JX (s.drop q)=Z9l (s.drop q):=by
    unfold JX;simp only [jT,jj,XQ,if_false];rw [if_pos kg]
   rw [kg];have oJ:(((64:UInt8).toNat:Nat):Int)=64:=rfl;rw [oJ];refine QO ?_;cases hr:JX (s.drop q) with
   | err e=>
     rw [hr] at hR;subst hR;have he:=Z2Z hr;refine CL (ZfY (s.drop q) _ jR gt) ?_;rintro _ w4 ⟨rfl,hT⟩;rw [<- dy,hr];simp only [lxV];refine QO ?_;refine Z0 Z2 rfl ?_;rintro _ w5 ⟨b10,rfl,dG,e10,ar⟩;refine SA (us:=Z3.enc (⟨0,0,[],0⟩:Tkn)) e10 ?_;rintro _ w6 ⟨cB,e10'⟩;have lS:=(ab.2.trans hT).trans (ar.ow cB);refine QO ?_
     repeat (first|refine JW ?_|refine W1 ?_)
     refine RU ?_;exact ⟨rfl,lS⟩
   | ok t=>
     rw [hr] at hR;simp only at hR;have d6:=Z2K aS pT hr;have iY:t.text.length≠0:=λh=>d6.1.text (Xy.1 h);have lT:t.text.length<=s.length - q:=by have:=d6.2.1;simpa using this
     refine CL (ZfY (s.drop q) _ jR gt) ?_;rintro _ w4 ⟨rfl,hT⟩;rw [<- dy,hr];simp only [lxV];replace ab:=ab.up hT;clear hT;refine QO ?_;refine Z0 Z2 rfl ?_;rintro _ w5 ⟨b10,rfl,dG,e10,hT⟩;refine SA (us:=Z3.enc t) e10 ?_;rintro _ w6 ⟨ar,e10'⟩;have jl:=hT.ow ar;have eU:b10∉ob lv:=λh=>by have:=(ab.ob_le b10 h).2;omega
     clear hT ar e10;refine QO ?_;refine Z5 (Zb (u:=.I (q:Int)) rfl rfl rfl rfl e10' (by simp [Z3.enc])) ?_;rintro _ w7 ⟨hT,e11⟩;replace e11:Blk w7 b10 183 (Z3.enc ({ t with pos:=(q:Int) }:Tkn)):=e11;replace ab:ZF 183 w w7 lv l:=ab.up (jl.ow hT);clear hT e10';refine QO ?_;refine Z0 (Z1 (vs:=[(0,.agg (Z3.enc ({ t with pos:=(q:Int) }:Tkn)).toArray)]) rfl (Z4j _)) rfl ?_;intro bv w8 hN;have an:SlV (ob lv) w8 bv [({ t with pos:=(q:Int) }:Tkn)]:=hN.slv (λb hb=>(ab.ob_le b hb).2) rfl rfl (by simp [maxLen]);replace ab:=ab.up (Z9.stp hN);replace e11:=e11.up (Z9.stp hN);clear hN;refine Z0 (JE rfl (by decide) rfl rfl ab an (by simp only [Xe,Xf];omega) (by simp only [Xe,Xf,maxLen];omega)) rfl ?_;rintro lv' w9 ⟨aC,hT,ce⟩;replace e11:=e11.ext hT eU;clear hT;have lB:({ t with pos:=(q:Int) }:Tkn).text.length=t.text.length:=rfl;refine QO ?_
     repeat (first|refine Z06 ?_|refine W1 ?_)
     exact Zs (f,q+t.text.length,l++[{ t with pos:=(q:Int) }],lv') ⟨rfl,rfl,rfl,trivial⟩ ⟨hR,by dsimp only;omega,by dsimp only;omega,by simp;omega,aC⟩ (by dsimp only;omega)
 have dy:JX (s.drop q)=Z01 (s.drop q):=by
  unfold JX;simp only [jT,jj,XQ,if_false];rw [if_neg kg]
 have xD:¬ ((((s.drop q).getD 0 0).toNat:Nat):Int)=64:=λh=>kg (by
  have oJ:(64:UInt8).toNat=64:=rfl;exact UInt8.toNat_inj.1 (by omega))
 refine QO ?_;cases hr:JX (s.drop q) with
 | err e=>
   rw [hr] at hR;subst hR;have he:=Z2Z hr;refine CL (Z99 (s.drop q) _ aS) ?_;rintro _ w4 ⟨rfl,hT⟩;rw [<- dy,hr];simp only [lxV];refine QO ?_;refine Z0 Z2 rfl ?_;rintro _ w5 ⟨b10,rfl,dG,e10,ar⟩;refine SA (us:=Z3.enc (⟨0,0,[],0⟩:Tkn)) e10 ?_;rintro _ w6 ⟨cB,e10'⟩;have lS:=(ab.2.trans hT).trans (ar.ow cB);refine QO ?_
   repeat (first|refine JW ?_|refine W1 ?_)
   refine RU ?_;exact ⟨rfl,lS⟩
 | ok t=>
   rw [hr] at hR;simp only at hR;have d6:=Z2K aS pT hr;have iY:t.text.length≠0:=λh=>d6.1.text (Xy.1 h);have lT:t.text.length<=s.length - q:=by have:=d6.2.1;simpa using this
   refine CL (Z99 (s.drop q) _ aS) ?_;rintro _ w4 ⟨rfl,hT⟩;rw [<- dy,hr];simp only [lxV];replace ab:=ab.up hT;clear hT;refine QO ?_;refine Z0 Z2 rfl ?_;rintro _ w5 ⟨b10,rfl,dG,e10,hT⟩;refine SA (us:=Z3.enc t) e10 ?_;rintro _ w6 ⟨ar,e10'⟩;have jl:=hT.ow ar;have eU:b10∉ob lv:=λh=>by have:=(ab.ob_le b10 h).2;omega
   clear hT ar e10;refine QO ?_;refine Z5 (Zb (u:=.I (q:Int)) rfl rfl rfl rfl e10' (by simp [Z3.enc])) ?_;rintro _ w7 ⟨hT,e11⟩;replace e11:Blk w7 b10 183 (Z3.enc ({ t with pos:=(q:Int) }:Tkn)):=e11;replace ab:ZF 183 w w7 lv l:=ab.up (jl.ow hT);clear hT e10';refine QO ?_;refine Z0 (Z1 (vs:=[(0,.agg (Z3.enc ({ t with pos:=(q:Int) }:Tkn)).toArray)]) rfl (Z4j _)) rfl ?_;intro bv w8 hN;have an:SlV (ob lv) w8 bv [({ t with pos:=(q:Int) }:Tkn)]:=hN.slv (λb hb=>(ab.ob_le b hb).2) rfl rfl (by simp [maxLen]);replace ab:=ab.up (Z9.stp hN);replace e11:=e11.up (Z9.stp hN);clear hN;refine Z0 (JE rfl (by decide) rfl rfl ab an (by simp only [Xe,Xf];omega) (by simp only [Xe,Xf,maxLen];omega)) rfl ?_;rintro lv' w9 ⟨aC,hT,ce⟩;replace e11:=e11.ext hT eU;clear hT;have lB:({ t with pos:=(q:Int) }:Tkn).text.length=t.text.length:=rfl;refine QO ?_
   repeat (first|refine Z06 ?_|refine W1 ?_)
   exact Zs (f,q+t.text.length,l++[{ t with pos:=(q:Int) }],lv') ⟨rfl,rfl,rfl,trivial⟩ ⟨hR,by dsimp only;omega,by dsimp only;omega,by simp;omega,aC⟩ (by dsimp only;omega)
end Go.Proofs.YtipfkbkkndacjaaGreatDoor
namespace Go.Eng
open Go Go.RowKit Go.Proofs
theorem Z2B {nl:Str->Nat} {s:Str}:∀ (f at_:Nat) (l:List Tkn) (a c:Int),JS nl s f at_ l=.err a c->c≠0
 | 0,at_,l,a,c,h=>by simp [JS] at h
 | f + 1, at_, l, a, c, h => by
   simp only [JS] at h;split at h;split at h;exact Z2B f _ _ _ _ h;split at h;exact Z2B f _ _ _ _ h
   . cases hr:JX (s.drop at_) with
     | err e=>
       rw [hr] at h;simp only [Tks.err.injEq] at h;obtain ⟨_,rfl⟩:=h;exact Z2Z hr
     | ok t=>
       rw [hr] at h;exact Z2B f _ _ _ _ h
   simp at h
theorem ZdB {s:Str} {a c:Int} (h:Z02 s=.err a c):c≠0:=by
 unfold Z02 at h;split at h;simp only [Tks.err.injEq] at h;omega;exact Z2B _ _ _ _ _ h
theorem ZbF {s:Str} {l:List Tkn} (h:Z02 s=.ok l) (bZ:∀ t∈l,t.text∉Z3D):Z3X l/\∃ l1 p,l=l1++[⟨0,p,[],0⟩]/\∀ t∈l1,ZjM t:=by
 unfold Z02 at h;split at h;cases h;rename_i hl;obtain ⟨l1,p,rfl,h1,h2,h3⟩:=Z3f (nl:=nlM) (s:=s) (by omega) (s.length+1) 0 [] l (by simp) (by simp) (by simp) (by simp) h;exact ⟨Zn7 h1 h2 (by omega) (λt ht=>bZ t (by simp [ht])),l1,p,rfl,h1⟩
theorem Z9a {l:List Tkn}:∀ (f:Nat) (rs:List RuleM) (i o:Nat) (rs':List RuleM) (i' o':Nat),Z25 l f rs i o=.ok rs' i' o'->l.length<=i+f->i'<l.length->(cur l i').kind=0
 | 0,rs,i,o,rs',i',o',h,h1,h2=>by simp only [Z25,Out.ok.injEq] at h;omega
 | f + 1, rs, i, o, rs', i', o', h, h1, h2 => by
   simp only [Z25] at h;split at h;rename_i hk;simp only [Out.ok.injEq] at h;obtain ⟨_,rfl,_⟩:=h;exact hk;obtain ⟨r,i1,o1,h3,h4⟩:=Z0k h;have:=Zdr h3;exact Z9a f _ _ _ _ _ _ h4 (by omega) h2
end Go.Eng
namespace Go.Proofs.YtipfkbkkndacjaaGreatDoor
open Go Go.Eng Go.RowKit Go.Proofs
theorem Zop (a c:Int) (w):(Instr.typeAssert (Z51 a c) 20 235 true).run Tryz.prog w=.ok (.tuple #[.agg #[.I a,.I c],.B true]) w:=by kernel_rfl
theorem Zoq (w):(Instr.typeAssert .nilIface 20 235 true).run Tryz.prog w=.ok (.tuple #[.agg #[.I 0,.I 0],.B false]) w:=by kernel_rfl
theorem Zf0 (a c:Int) (b7 b4 b5 b6:Nat) (z7 v4 v5 v6:Value) (w) (e7:Blk w b7 90 [z7]) (e4:Blk w b4 90 [v4]) (e5:Blk w b5 3 [v5]) (e6:Blk w b6 92 [v6])
 (hz:z7.cells.toList=[z7]) (fW:z7.oneCell'=true) (n74:b7≠b4) (n75:b7≠b5) (n76:b7≠b6) (n45:b4≠b5) (n46:b4≠b6) (n56:b5≠b6) :
 CallsD Tryz.prog 158 #[pQ b7,pQ b4,pQ b5,pQ b6] (.panicking [⟨Z51 a c,false,false⟩]) w
  (λe u' w'=>∃ v,e=.returned v/\(u'=.panicking [⟨Z51 a c,true,false⟩]/\Blk w' b4 90 [z7]/\Blk w' b5 3 [.I a]/\Blk w' b6 92 [.I c]/\Stp [b4,b5,b6] w w')):=by
 refine callsD_of_wpS Tryz.func158 rfl λic cs hu=>?_;apply wpS_seq;apply wpS_region;simp [wpOpsS,go_sem,recoverD,hu,Tryz.ntmps158,Exit.thenS];refine Zaj (n:=22) (e:=[(0,pQ b7),(1,pQ b4),(2,pQ b5),(3,pQ b6),(4,Z51 a c)]) (Has.of rfl (by simp) (by
  intro p hp;simp only [Xb,Xj,or_false] at hp;rcases hp with rfl|rfl|rfl|rfl|rfl<;>kernel_rfl)) ?_
 refine W ?_;refine Z8 (Z56 rfl (Zop a c)) rfl ?_;refine W ?_;refine Z0 Z2 rfl ?_;rintro _ w1 ⟨bf,rfl,xE,ef,hT⟩;refine SB (us:=[.I a,.I c]) (by intro u hu;simp at hu;rcases hu with rfl|rfl<;>rfl) ef ?_;rintro _ w2 ⟨ar,ef'⟩;have nf7:=e7.lt;have nf4:=e4.lt;have nf5:=e5.lt;have nf6:=e6.lt;have hS:=hT.ow ar;clear hT ar ef;replace e7:=e7.up hS;replace e4:=e4.up hS;replace e5:=e5.up hS;replace e6:=e6.up hS;refine W ?_;refine ZDr 8 ([b4,b5,b6]) [] [(0,1),(1,0),(2,1),(3,0),(4,1),(5,2),(6,2),(7,2)] (λw1 ae=>?_);replace e7:=e7.up ae;replace e4:=e4.up ae;replace e5:=e5.up ae;replace e6:=e6.up ae;replace ef':=ef'.up ae;replace hS:=hS.trans ae;clear ae;have m7:b7∉[b4,b5,b6]:=by simp;exact ⟨n74,n75,n76⟩
 have mf:bf∉[b4,b5,b6]:=by simp;omega
 refine Z0w rfl trivial rfl rfl e7 m7 rfl rfl ?_;refine Z5y rfl trivial rfl rfl ?_;refine Z0w rfl trivial rfl rfl ef' mf rfl rfl ?_;refine Z5y rfl trivial rfl rfl ?_;refine Z0w rfl trivial rfl rfl ef' mf rfl rfl ?_;refine Z0B rfl trivial (Zm (us:=[z7]) rfl rfl hz rfl (by simpa using fW) e4 rfl) (λ_ _ h=>h.1.mn) ?_;rintro _ w3 ⟨hT,e4'⟩;replace e5:=e5.ext hT (by simpa using n45.symm);replace e6:=e6.ext hT (by simpa using n46.symm);replace hS:=(hS.mono (S':=[b4,b5,b6]) (by simp)).trans hT.mn;clear hT;refine Z0B rfl trivial (Zm (us:=[.I a]) rfl rfl rfl rfl (by simp;rfl) e5 rfl) (λ_ _ h=>h.1.mn) ?_;rintro _ w4 ⟨hT,e5'⟩;replace e4':=e4'.ext hT (by simpa using n45);replace e6:=e6.ext hT (by simpa using n56.symm);replace hS:=hS.trans hT.mn;clear hT;refine Z0B rfl trivial (Zm (us:=[.I c]) rfl rfl rfl rfl (by simp;rfl) e6 rfl) (λ_ _ h=>h.1.mn) ?_;rintro _ w5 ⟨hT,e6'⟩;replace e4':=e4'.ext hT (by simpa using n46);replace e5':=e5'.ext hT (by simpa using n56);replace hS:=hS.trans hT.mn;refine ZdP ?_;refine W ?_;first|refine Zay rfl ?_|refine Zaz rfl ?_
 exact ⟨⟨_,rfl⟩,rfl,e4',e5',e6',hS⟩
theorem Zf1 (b7 b4 b5 b6:Nat) (w) :
 CallsD Tryz.prog 158 #[pQ b7,pQ b4,pQ b5,pQ b6] .returning w
  (λe u' w'=>∃ v,e=.returned v/\(u'=.returning/\Stp [] w w')):=by
 refine callsD_of_wpS Tryz.func158 rfl λic cs hu=>?_;have hc:ic={ ic with mode:=.returning }:=by rw [<- hu]
 apply wpS_seq;apply wpS_region;simp [wpOpsS,go_sem,recoverD,hu,Tryz.ntmps158,Exit.thenS];rw [hc];refine Zaj (n:=22) (e:=[(0,pQ b7),(1,pQ b4),(2,pQ b5),(3,pQ b6),(4,.nilIface)]) (Has.of rfl (by simp) (by
  intro p hp;simp only [Xb,Xj,or_false] at hp;rcases hp with rfl|rfl|rfl|rfl|rfl<;>kernel_rfl)) ?_
 refine W ?_;refine Z8 (Z56 rfl Zoq) rfl ?_;refine W ?_;refine Z0 Z2 rfl ?_;rintro _ w1 ⟨bf,rfl,xE,ef,hT⟩;refine SB (us:=[.I 0,.I 0]) (by intro u hu;simp at hu;rcases hu with rfl|rfl<;>rfl) ef ?_;rintro _ w2 ⟨ar,ef'⟩;have hS:=hT.ow ar;refine W ?_;refine Zp0 ⟨_,rfl⟩ rfl rfl ?_;refine W ?_;first|refine Zay rfl ?_|refine Zaz rfl ?_
 exact ⟨⟨_,rfl⟩,rfl,hS⟩
def PsV (X:List Nat) (w':World) (r:Value):Ps->Prop
 | .err a c=>r=.tuple #[.N,.I a,.I c]
 | .ok rs=>∃ rv,r=.tuple #[rv,.I 0,.I 0]/\SlV X w' rv (rs.map RuleM.rul)
theorem Z4k {w w':World} {b T:Nat} {cs:List Value} (hS:Stp [b] w w') (h:Blk w b T cs) (h':Blk w' b T cs):Stp [] w w':=
 ⟨hS.os, hS.tape, hS.output, hS.size, λk hk _ => by
   by_cases hb:k=b;subst hb;rw [h,h'];exact hS.block k hk (by simpa using hb)⟩
theorem Zor (p:Option Addr) (l c:Nat) (w):(Instr.build 186 #[(0,.slice p l c)]).run Tryz.prog w=.ok (.agg #[.slice p l c,.I 0,.I 0]) w:=by kernel_rfl
theorem ZhD (X:List Nat) (s:Str) (er:Value) (m:Int) (w:World) (hX:∀ c∈X,c<w.heap.size) (cx:Z0z w) (hm:w.cell? ⟨2,0,none⟩=some (.I m)) (d5:w.cell? ⟨8,0,none⟩=some er) (bD:er=.nilIface\/∃ te pe,er=.iface te pe) (hl:s.length<=1000000) (bZ:∀ l,Z02 s=.ok l->∀ t∈l,t.text∉Z3D) :
 CC 89 #[str s,.func (.func 90) #[] #[]] w λr w'=>PsV X w' r (Z27 s)/\Stp [] w w':=by
 have yP:2<w.heap.size:=by have:=block_lt_of_cell hm;simpa using this
 refine Z9u (n:=43) Tryz.func89 rfl rfl rfl ?_;refine W ?_;refine Z0 Z2 rfl ?_;rintro _ w1 ⟨b4,rfl,bz,e4,hS⟩;refine W ?_;refine Z0 Z2 rfl ?_;rintro _ w2 ⟨b5,rfl,jA,e5,hT⟩;have n45:b4≠b5:=by have:=e4.lt;omega
 have g5:w.heap.size<=b5:=Xh hS.size jA;replace e4:=e4.up hT;replace hS:=hS.trans hT;refine W ?_;refine Z0 Z2 rfl ?_;rintro _ w3 ⟨b6,rfl,ez,e6,hT⟩;have n46:b4≠b6:=by have:=e4.lt;omega
 have n56:b5≠b6:=by have:=e5.lt;omega
 have g6:w.heap.size<=b6:=Xh hS.size ez;replace e4:=e4.up hT;replace e5:=e5.up hT;replace hS:=hS.trans hT;refine W ?_;refine Z0 Z2 rfl ?_;rintro _ w4 ⟨b7,rfl,fu,e7,hT⟩;have n74:b7≠b4:=by have:=e4.lt;omega
 have n75:b7≠b5:=by have:=e5.lt;omega
 have n76:b7≠b6:=by have:=e6.lt;omega
 replace e4:=e4.up hT;replace e5:=e5.up hT;replace e6:=e6.up hT;replace hS:=hS.trans hT;clear hT;have g4:w.heap.size<=b4:=bz;have sP:∀ c∈[b4,b5,b6,b7],c<w4.heap.size:=λc hc=>by
  simp only [Xb,Xj,or_false] at hc;rcases hc with rfl|rfl|rfl|rfl
  exact e4.lt;exact e5.lt;exact e6.lt;exact e7.lt
 refine W ?_;refine CM (ZN rfl) (ZeZ s er _ (cx.up hS) (hS.cell (by simp) d5) bD hl) ?_;rintro r w5 ⟨hr,hT⟩;replace e4:=e4.up hT;replace e5:=e5.up hT;replace e6:=e6.up hT;replace e7:=e7.up hT;have yQ:=hS;replace hS:=hS.trans hT;clear hT;have own3:∀ {S:List Nat},(∀ c∈S,c=b4\/c=b5\/c=b6)->∀ c∈S,c∈([]:List Nat)\/w.heap.size<=c:=λh c hc=>by
  rcases h c hc with rfl|rfl|rfl
  exact .inr g4;exact .inr g5;exact .inr g6
 cases hK:Z02 s with
 | err a c=>
   rw [hK] at hr;have bE:r=.tuple #[.N,.I a,.I c]:=hr;subst bE;have iA:=ZdB hK;refine W ?_;refine SB (us:=[.I a]) (by simp;rfl) e5 ?_;rintro _ w6 ⟨hT,e5'⟩;replace e4:=e4.ext hT (by simpa using n45);replace e6:=e6.ext hT (by simpa using n56.symm);replace e7:=e7.ext hT (by simpa using n75);replace hS:=hS.own hT (own3 (by simp));refine W ?_;refine SB (us:=[.I c]) (by simp;rfl) e6 ?_;rintro _ w7 ⟨ar,e6'⟩;replace e4:=e4.ext ar (by simpa using n46);replace e5':=e5'.ext ar (by simpa using n56);replace e7:=e7.ext ar (by simpa using n76);replace hS:=hS.own ar (own3 (by simp));clear hT ar e5 e6;refine QO ?_;refine ZDr 6 ([b4]) [] [(0,1),(1,1),(2,1),(3,2),(4,2),(5,2)] (λw8 ae=>?_);replace e7:=e7.up ae;replace e4:=e4.up ae;replace e5':=e5'.up ae;replace e6':=e6'.up ae;replace hS:=hS.trans ae;clear ae;refine Z0w rfl trivial rfl rfl e7 (by simpa using n74) rfl rfl ?_;refine Z0w rfl trivial rfl rfl e5' (by simpa using n45.symm) rfl rfl ?_;refine Z0w rfl trivial rfl rfl e6' (by simpa using n46.symm) rfl rfl ?_;refine Z0B rfl trivial (Zm (us:=[.N]) rfl rfl rfl rfl (by simp;rfl) e4 rfl) (λ_ _ h=>h.1) ?_;rintro _ w9 ⟨hT,e4'⟩;replace e5':=e5'.ext hT (by simpa using n45.symm);replace e6':=e6'.ext hT (by simpa using n46.symm);replace hS:=hS.own hT (own3 (by simp));clear hT e4 e7;refine Z0B (G:=λ_ w'=>Stp [] w9 w') rfl trivial ((Zm (us:=[.I a]) rfl rfl rfl rfl (by simp;rfl) e5' rfl).mono (λ_ _ h=>Z4k h.1 e5' h.2)) (λ_ _ h=>h.mn) ?_;intro _ w10 hT;replace e4':=e4'.up hT;replace e5':=e5'.up hT;replace e6':=e6'.up hT;replace hS:=hS.trans hT;clear hT;refine Z0B (G:=λ_ w'=>Stp [] w10 w') rfl trivial ((Zm (us:=[.I c]) rfl rfl rfl rfl (by simp;rfl) e6' rfl).mono (λ_ _ h=>Z4k h.1 e6' h.2)) (λ_ _ h=>h.mn) ?_;intro _ w11 hT;replace e4':=e4'.up hT;replace e5':=e5'.up hT;replace e6':=e6'.up hT;replace hS:=hS.trans hT;clear hT;refine ZdP ?_;refine W ?_;refine ⟨λact ha=>?_⟩;show Leaves _ _ act.tmps _ act.defers .returning _;rw [ha.defers];refine ⟨_,Z6T rfl rfl rfl rfl (ha.vals 4 _ rfl) (ha.vals 5 _ rfl) (ha.vals 6 _ rfl) e4' e5' e6',?_⟩;refine .mk ⟨?_,hS⟩;unfold Z27;rw [hK];rfl
 | ok l=>
   rw [hK] at hr;obtain ⟨tv,rfl,ab⟩:∃ tv,r=.tuple #[tv,.I 0,.I 0]/\ZF 183 w4 w5 tv l:=hr;obtain ⟨hL,-⟩:=ZbF hK (bZ _ hK);have cj:SlV (α:=Tkn) [b4,b5,b6,b7] w5 tv l:=ab.slv sP;have gF:=hL.pos;have j9:l.length<=1000000:=by have:=hL.len;omega
   refine W ?_;refine SB (us:=[.I 0]) (by simp;rfl) e5 ?_;rintro _ w6 ⟨hT,e5'⟩;replace e4:=e4.ext hT (by simpa using n45);replace e6:=e6.ext hT (by simpa using n56.symm);replace e7:=e7.ext hT (by simpa using n75);replace cj:=cj.ext (X':=[b4,b5,b6,b7]) hT (by simp) (λ_ h=>.inl h);replace hS:=hS.own hT (own3 (by simp));refine W ?_;refine SB (us:=[.I 0]) (by simp;rfl) e6 ?_;rintro _ w7 ⟨ar,e6'⟩;replace e4:=e4.ext ar (by simpa using n46);replace e5':=e5'.ext ar (by simpa using n56);replace e7:=e7.ext ar (by simpa using n76);replace cj:=cj.ext (X':=[b4,b5,b6,b7]) ar (by simp) (λ_ h=>.inl h);replace hS:=hS.own ar (own3 (by simp));clear hT ar e5 e6;refine QO ?_;refine Z8 (Zbx rfl rfl rfl rfl) rfl ?_;refine Zlb rfl ?_;refine Z4J (Z5s ?_);refine W ?_;obtain ⟨tp,tc,uu⟩:=cj.len;refine Z8 (Z0P (vs:=[(0,tv)]) rfl (by rw [uu];exact λw=>Zor _ _ _ w)) rfl ?_;refine Z0 (Zq rfl) rfl ?_;rintro _ w8 ⟨bp,rfl,uw,ep,hT⟩;have l4:=e4.lt;have l5:=e5'.lt;have l6:=e6'.lt;have l7:=e7.lt;have oX:∀ c∈bp :: b4 :: b5 :: b6 :: b7 :: X,c<w8.heap.size:=λc hc=>by
    have h8:=hT.size;have hp:=ep.lt;have h0:=hS.size;simp only [Xb] at hc;rcases hc with rfl|rfl|rfl|rfl|rfl|hc
    exact hp;omega;omega;omega;omega;have:=hX c hc;omega
   have xF:Pd w8 bp tv l 0 0:=⟨by rw [uu];exact ep,cj.ext hT (by simp) (λc hc=>by simp at hc;subst hc;exact .inr uw),gF,j9,by omega⟩
   replace cj:=cj.ext (X':=[bp,b4,b5,b6,b7]) hT (by simp) (λc hc=>by
    rcases Xb.1 hc with rfl|hc
    exact .inr uw;exact .inl hc)
   replace e4:=e4.up hT;replace e5':=e5'.up hT;replace e6':=e6'.up hT;replace e7:=e7.up hT;replace hS:=hS.trans hT;have gp:w.heap.size<=bp:=by have:=hS.size;omega
   have np4:b4≠bp:=by omega
   have np5:b5≠bp:=by omega
   have np6:b6≠bp:=by omega
   have np7:b7≠bp:=by omega
   clear hT;refine Z8 (Z6e rfl) rfl ?_;refine Z30 ?_;refine Z6I (Z2f ?_);refine Z4J (Z5s ?_);refine Z8 (ZX rfl) rfl ?_;refine Z8 (ZX rfl) rfl ?_;have hP:=ZeR (bp :: b4 :: b5 :: b6 :: b7 :: X) bp tv l hL m 0 0 (l.length+1) w8 (by omega) (by simp) oX (hS.cell (by simp) hm) xF (by omega);cases hR:Z25 l (l.length+1) [] 0 0 with
   | err a c=>
     rw [hR] at hP;refine Zhq rfl (ZN rfl) hP rfl ?_;intro w9 hT;replace e4:=e4.ext hT (by simpa using np4);replace e5':=e5'.ext hT (by simpa using np5);replace e6':=e6'.ext hT (by simpa using np6);replace e7:=e7.ext hT (by simpa using np7);replace hS:=hS.ow hT;refine Z6I (Z8H ?_);refine ⟨λact ha=>?_⟩;show Leaves _ _ act.tmps _ (act.defers++_) (.panicking _) _;rw [ha.defers];refine Z92 (f:=158) (by simp) (Zf0 a c b7 b4 b5 b6 _ _ _ _ w9 e7 e4 e5' e6' rfl rfl n74 n75 n76 n45 n46 n56) ?_;rintro v u' w10 ⟨rfl,e4',e5'',e6'',hT⟩;refine ⟨rfl,_,Z6T rfl rfl rfl rfl (ha.vals 4 _ rfl) (ha.vals 5 _ rfl) (ha.vals 6 _ rfl) e4' e5'' e6'',?_⟩;refine .mk ⟨?_,hS.own hT (own3 (by simp))⟩;unfold Z27;rw [hK];simp only [hR];rfl
   | ok rs i' o'=>
     rw [hR] at hP;refine CL hP ?_;rintro rv w9 ⟨bN,sQ,hT⟩;replace e4:=e4.ext hT (by simpa using np4);replace e5':=e5'.ext hT (by simpa using np5);replace e6':=e6'.ext hT (by simpa using np6);replace e7:=e7.ext hT (by simpa using np7);replace cj:=cj.ext (X':=[bp,b4,b5,b6,b7]) hT (by simp) (λ_ h=>.inl h);replace hS:=hS.ow hT;obtain ⟨ep',-,kP,-,-⟩:=sQ;have fw:=Z9a _ _ _ _ _ _ _ hR (by omega) kP;refine Z5 (Zm (us:=[rv]) rfl rfl bN.cells rfl (by simpa using bN.one) e4 rfl) ?_;rintro _ w10 ⟨hT,e4'⟩;replace ep':=ep'.ext hT (by simpa using np4.symm);replace e5':=e5'.ext hT (by simpa using n45.symm);replace e6':=e6'.ext hT (by simpa using n46.symm);replace cj:=cj.ext (X':=[bp,b4,b5,b6,b7]) hT (by simp) (λ_ h=>.inl h);replace bN:=bN.ext (X':=bp :: b4 :: b5 :: b6 :: b7 :: X) hT (by simp) (λ_ h=>.inl h);replace hS:=hS.own hT (own3 (by simp));clear hT;refine Z30 ?_;refine Z6I (Z2f ?_);refine Z4J (Z4J ?_);refine Za3 12 [] [] [(0,0),(1,0),(2,0),(3,1),(4,0),(5,0),(6,0),(7,1),(8,0),(9,0),(10,1),(11,0)] rfl mixed (by kernel_rfl) (by kernel_rfl) (by kernel_rfl) (λw1 ae=>?_);replace e4':=e4'.up ae;replace e5':=e5'.up ae;replace e6':=e6'.up ae;replace ep':=ep'.up ae;replace cj:=cj.up ae;replace bN:=bN.up ae;replace hS:=hS.trans ae;clear ae;refine D ?_;refine W ?_;refine Z6I (Z2f ?_);rw [Z6w kP] at fw;refine Z8I (by simp [ev,fw];rfl) (Zkw (Z2f (Z4J ?_)));refine Z5s ?_;refine Z8 (Jq rfl rfl e4' rfl) rfl ?_;refine Z5 (G:=λ_ w'=>Stp [] w1 w') ((Zm (us:=[rv]) rfl rfl bN.cells rfl (by simpa using bN.one) e4' rfl).mono (λ_ _ h=>Z4k h.1 e4' h.2)) ?_;intro _ w12 hT;replace e4':=e4'.up hT;replace e5':=e5'.up hT;replace e6':=e6'.up hT;replace bN:=bN.up hT;replace hS:=hS.trans hT;clear hT;refine Z5 (G:=λ_ w'=>Stp [] w12 w') ((Zm (us:=[.I 0]) rfl rfl rfl rfl (by simp;rfl) e5' rfl).mono (λ_ _ h=>Z4k h.1 e5' h.2)) ?_;intro _ w13 hT;replace e4':=e4'.up hT;replace e5':=e5'.up hT;replace e6':=e6'.up hT;replace bN:=bN.up hT;replace hS:=hS.trans hT;clear hT;refine Z5 (G:=λ_ w'=>Stp [] w13 w') ((Zm (us:=[.I 0]) rfl rfl rfl rfl (by simp;rfl) e6' rfl).mono (λ_ _ h=>Z4k h.1 e6' h.2)) ?_;intro _ w14 hT;replace e4':=e4'.up hT;replace e5':=e5'.up hT;replace e6':=e6'.up hT;replace bN:=bN.up hT;replace hS:=hS.trans hT;clear hT;refine Z30 ?_;refine Z6I (Z2f (Zfz ?_));refine ⟨λact ha=>?_⟩;show Leaves _ _ act.tmps _ (act.defers++_) .returning _;rw [ha.defers];refine Z92 (f:=158) (by simp) (Zf1 b7 b4 b5 b6 w14) ?_;rintro v u' w15 ⟨rfl,hT⟩;refine ⟨rfl,_,Z6T rfl rfl rfl rfl (ha.vals 4 _ rfl) (ha.vals 5 _ rfl) (ha.vals 6 _ rfl) (e4'.up hT) (e5'.up hT) (e6'.up hT),?_⟩;have hM:Z27 s=.ok rs:=by
      unfold Z27;rw [hK];simp only [hR]
     rw [hM];exact .mk ⟨⟨rv,rfl,(bN.up hT).ext (Stp.refl [] _) (by simp) (λc hc=>.inl (by simp [hc]))⟩,hS.trans hT⟩
theorem ZhE (X:List Nat) (s:Str) (er:Value) (m:Int) (w:World) (hX:∀ c∈X,c<w.heap.size) (cx:Z0z w) (hm:w.cell? ⟨2,0,none⟩=some (.I m)) (d5:w.cell? ⟨8,0,none⟩=some er) (bD:er=.nilIface\/∃ te pe,er=.iface te pe) (hl:s.length<=1000000) (bZ:∀ l,Z02 s=.ok l->∀ t∈l,t.text∉Z3D) :
 CC 58 #[str s] w λr w'=>PsV X w' r (Z27 s)/\Stp [] w w':=by
 refine cW1 10 Tryz.func58 ?_;refine W ?_;refine CL (ZhD X s er m w hX cx hm d5 bD hl bZ) ?_;rintro r w1 ⟨hr,hS⟩;cases hK:Z27 s with
 | err a c=>
   rw [hK] at hr;have bE:r=.tuple #[.N,.I a,.I c]:=hr;subst bE;refine RT ?_;exact ⟨rfl,hS⟩
 | ok rs=>
   rw [hK] at hr;obtain ⟨rv,rfl,bN⟩:=hr;refine RT ?_;exact ⟨⟨rv,rfl,bN⟩,hS⟩
theorem Z4l (X:List Nat) (s:Str) (rs:List RuleM) (er:Value) (m:Int) (w:World) (hX:∀ b∈X,b<w.heap.size) (hF:SlV [] w Z21 Ze) (cx:Z0z w) (ey:w.cell? ⟨2,0,none⟩=some (.I m)) (d5:w.cell? ⟨8,0,none⟩=some er) (bD:er=.nilIface\/∃ te pe,er=.iface te pe) (hl:s.length<=1000000) (bZ:∀ l,Z02 s=.ok l->∀ t∈l,t.text∉Z3D)
 (hp:Z27 s=.ok rs) (h4:rs.length<=100) (lg:∀ r∈rs,Z0s r.rul=0/\ZD r.cond<=1000/\ZD r.due<=1000/\Smp r.cond/\Smp r.due) :
 CC 29 #[str s] w λr w'=>∃ v,r=.tuple #[v,.B true]/\SlV X w' v (rs.map (λr=>crF r.rul))/\Stp [] w w':=by
 refine cW1 40 Tryz.func29 ?_;refine W ?_;refine CL (ZhE X s er m w hX cx ey d5 bD hl bZ) ?_;rintro rv w1 ⟨hr,hS⟩;rw [hp] at hr;obtain ⟨gv,rfl,mE⟩:=hr;have mW:=mE.max;have pY:(rs.map RuleM.rul).length=rs.length:=Xu ..;have ip:∀ b∈X,b<w1.heap.size:=λb hb=>Xa (hX b hb) hS.size;refine QO ?_;refine LP (σ:=Nat×Value) (λq=>[(0,str s),(4,gv),(7,q.2),(8,.I (q.1:Int))]) (λq W=>q.1<=rs.length/\Row X W w1.heap.size 62 q.2 ((rs.take q.1).map (λr=>crF r.rul))/\Stp [] w1 W) (λq=>rs.length - q.1) (0,.N) ⟨Xp _,Row.nil,Stp.refl _ _⟩ ?_;rintro ⟨j,ov⟩ y1 ⟨hj,ab,hT⟩;dsimp only at hj ab ⊢;have aV:=λb hb=>ab.ob_le b hb;have fD:SlV X y1 gv (rs.map RuleM.rul):=mE.up hT;by_cases hlt:j<rs.length;have bW:j<(rs.map RuleM.rul).length:=by omega
 obtain ⟨hG,fW,lp,cr,bq⟩:=lg _ (Xc hlt);have ox:(rs.map RuleM.rul)[j]=rs[j].rul:=by simp
 have fJ:(rs.take (j+1)).map (λr=>crF r.rul)=(rs.take j).map (λr=>crF r.rul)++[crF rs[j].rul]:=by
  rw [Xi hlt,XR];rfl
 have ai:((rs.take j).map (λr=>crF r.rul)).length<=100:=by rw [Xu,Xx];omega
 obtain ⟨ka,kb,jp,it,dI⟩:=Zka fD bW;rw [ox] at jp it;have ux:=hS.trans hT;refine QO ?_;refine Z8 (Z8s rfl rfl fD bW dI) rfl ?_;rw [ox];refine CM (ZN rfl) (Zkc _ rs[j].rul _ ⟨ka,kb,rfl,jp.wk (by simp),it.wk (by simp)⟩ cr bq fW lp (hF.up ux) m (ux.cell (by simp) ey)) ?_;rintro _ y2 ⟨cv,rfl,cb,hU⟩;obtain ⟨k1,d1,rfl,bG,cR⟩:=cb (ob ov++X) (λb hb=>by
  have:=hT.size;rcases Xg.1 hb with h|h
  exact (aV b h).2;have:=ip b h;omega)
 clear cb fD jp it dI;rw [hG];replace ab:=ab.up hU;replace hT:=hT.trans hU;clear hU;refine W ?_;refine Z0 Z2 rfl ?_;rintro _ y3 ⟨b7,rfl,fu,e7,hU⟩;have bK:=λb hb=>ab.ob_le b hb;replace ab:=ab.ext (X':=b7 :: X) hU (by simp) (λb hb=>by
  rcases Xb.1 hb with rfl|h
  exact .inr fu;exact .inl h)
 have nb7:∀ b∈b7 :: (ob ov++X),b∈ob ov++X\/y2.heap.size<=b:=λb hb=>by
  rcases Xb.1 hb with rfl|h
  exact .inr fu;exact .inl h
 replace bG:=bG.ext hU (by simp) nb7;replace cR:=cR.ext hU (by simp) nb7;have zT:=hT.size;replace hT:=hT.trans hU;clear hU;refine SB (us:=crC (crF rs[j].rul) k1 d1) (Z0r bG cR) e7 ?_;rintro _ y4 ⟨hU,e7⟩;replace ab:=ab.ext (X':=X) hU (λb hb=>by
  simp only [Xk] at hb;subst hb;exact ⟨by simp,λh=>by have:=(bK _ h).2;omega⟩) (λb hb=>.inl (XL _ hb))
 replace bG:=bG.ext (X':=ob ov++X) hU (by simp) (λb hb=>.inl (XL _ hb));replace cR:=cR.ext (X':=ob ov++X) hU (by simp) (λb hb=>.inl (XL _ hb));replace hT:=hT.ow hU;clear hU;have zT4:=hT.size;refine QO ?_;refine APG (X:=X) (base:=w1.heap.size) (crF rs[j].rul) ab (λb hb=>by have:=ip b hb;omega) (by omega) ⟨k1,d1,rfl,bG,cR⟩ (Xh (Xq _ (Nat.succ_le_succ ai)) (by decide)) (by simp only [maxLen];omega) λv1 rv' y5 aC hU ib=>?_
 replace hT:=hT.own hU (λb hb=>.inr (bK b hb).1);refine QO ?_;exact QL (j+1,rv') ⟨hlt,by dsimp only;rw [fJ];exact aC,hT⟩ (by dsimp only;omega);obtain rfl:j=rs.length:=by omega
 rw [Xo] at ab;refine RT ?_;exact ⟨ov,rfl,ab.slv ip,hS.trans hT⟩
theorem Zos (rl:Str) (f:Fct) (p d s:Int) (w):(Instr.build 56 #[(0,str rl),(1,aG f),(2,.I p),(3,.I d),(4,.I s)]).run Tryz.prog w=.ok (.agg (dlC ⟨rl,f,p,d,s,[]⟩ (.N)).toArray) w:=by kernel_rfl
theorem Z7Q (a b c:Int) (w):(Instr.build 67 #[(0,.I a),(1,.I b),(2,.I c)]).run Tryz.prog w=.ok (aG (⟨a,b,c⟩:Rsn)) w:=by kernel_rfl
theorem Zot (a:Int) (w):(Instr.build 67 #[(0,.I a)]).run Tryz.prog w=.ok (aG (⟨a,0,0⟩:Rsn)) w:=by kernel_rfl
theorem ZdC (x y:Rsn) (w):(Instr.buildSlice 54 2 #[(0,aG x),(1,aG y)]).run Tryz.prog w=.ok (.slice (some ⟨w.heap.size,0,none⟩) 2 2) (w.alloc (.cells (Z3.enc x++Z3.enc y).toArray 67)):=by kernel_rfl
theorem Z3x (c:Cas) (R:Z0N) (due st:Int) (mv ev:Value) (more:List Rsn) (evs:List Fct) (w) (m:Int) (hF:SlV [] w Z21 Ze) (ey:w.cell? ⟨2,0,none⟩=some (.I m))
 (hv:Z1z w c R) (hs:Z4T c) (ho:Zdz c) (dH:∀ Y,Stp [] w Y->CC 114 #[.agg (Z0j c.cal R.hv R.lv R.zo R.zs R.hr).toArray] Y λr w'=>r=.I 0/\Stp [] Y w')
 (hd:JH c=[Z16 due st more]) (hf:J2 c=evs) (h0:∃ l,c.fcts=Zp :: l) (mF:SlV [] w mv more) (sR:SlV [] w ev evs) (bI:more.length<=10) :
 CC 40 #[.agg (Jh c R).toArray,.I due,.I st,mv,ev] w λr w'=>r=.B true/\Stp [] w w':=by
 obtain ⟨l0,cV⟩:=h0;refine cW5 48 Tryz.func40 ?_;refine W ?_;refine BX (Stp.refl [] w) λb5 w1 h5 e5 _ hS=>?_;replace e5:Blk w1 b5 37 (Jh c R):=e5;refine QO ?_;refine CL (Z10 c R _ (hv.up hS) hs) ?_;rintro dv w2 ⟨dy,hT⟩;rw [hd] at dy;have gk:SlV [] w2 dv [Z16 due st more]:=Row.slv (X:=[]) dy (by simp);have jZ:0 < [Z16 due st more].length:=by simp
 replace e5:=e5.up hT;replace hS:=hS.trans hT;clear dy hT;refine QO ?_;refine CP hS (ZbD c R _ m (hF.up hS) (hS.cell (by simp) ey) (hv.up hS) ho (λY h=>dH Y (hS.trans h))) λw3 hT hS=>?_
 replace e5:=e5.up hT;replace gk:=gk.up hT;clear hT;refine QO ?_;refine CL (Z1U c R _ (hv.up hS) hs) ?_;rintro fv w4 gZ;rw [hf] at gZ;have d7:SlV [] w4 fv evs:=gZ.slv (by simp);have hT:=gZ.2;replace e5:=e5.up hT;replace gk:=gk.up hT;replace hS:=hS.trans hT;clear gZ hT;refine QO ?_;refine CP hS (Z57 fv ev evs evs _ d7 (sR.up hS)) λw5 hT hS=>?_;rw [decide_eq_true rfl];replace e5:=e5.up hT;replace gk:=gk.up hT;clear hT d7;have iw:SlV [] w5 R.fv c.fcts:=(hv.up hS).ff;rw [cV] at iw;have dC:0<(Zp :: l0).length:=by simp
 refine QO ?_;refine Z7 rfl (Zos [114] Zp 2 due st) rfl ?_;refine Z0 Z2 rfl ?_;rintro _ w6 ⟨b,rfl,hb,e6,hT⟩;have zS:=hS.size;have n5:b5≠b:=by have:=e5.lt;omega
 replace e5:=e5.up hT;have jU:SlV [b] w6 dv [Z16 due st more]:=gk.ext hT (by simp) (λc hc=>.inr (by simp at hc;omega));have mb:SlV [b] w6 mv more:=mF.ext (hS.trans hT) (by simp) (λc hc=>.inr (by simp at hc;omega));replace hS:=hS.trans hT;clear hT gk iw;refine Z5 (Zm (us:=dlC ⟨[114],Zp,2,due,st,[]⟩ (.N)) rfl rfl rfl rfl (λu hu=>by
  simp only [Xb,Xj,or_false] at hu;rcases hu with rfl|rfl|rfl|rfl|rfl|rfl|rfl|rfl|rfl|rfl|rfl<;>rfl) e6 rfl) ?_
 rintro _ w7 ⟨hT,e6⟩;replace e5:=e5.ext hT (by simpa using n5);replace jU:=jU.ext (X':=[b]) hT (by simp) (λc hc=>.inl hc);replace mb:=mb.ext (X':=[b]) hT (by simp) (λc hc=>.inl hc);replace hS:=hS.ow hT;clear hT;have l6:=e6.lt;have l57:=e5.lt;refine QO ?_;refine Z7 rfl (Z7Q 1 4 739616) rfl ?_;refine W ?_;refine Z7 rfl (Zot 2) rfl ?_;refine Z0 (Z1 rfl (ZdC ⟨1,4,739616⟩ ⟨2,0,0⟩)) rfl ?_;rintro tv w8 hN;have ab:Row [b] w8 w7.heap.size 67 tv [(⟨1,4,739616⟩:Rsn),⟨2,0,0⟩]:=Z2d (X:=[]) (hN.row (Xn _) rfl (by simp) (by simp [maxLen]));have aV:=λc hc=>ab.ob_le c hc;have hT:=Z9.stp hN;have jD:SlV (ob tv++[b]) w8 mv more:=mb.ext hT (by simp) (λc hc=>by
  rcases Xg.1 hc with h|h
  exact .inr (aV c h).1;exact .inl h)
 replace e5:=e5.up hT;replace e6:=e6.up hT;have oK:SlV (ob tv++[b]) w8 dv [Z16 due st more]:=jU.ext hT (by simp) (λc hc=>by
  rcases Xg.1 hc with h|h
  exact .inr (aV c h).1;exact .inl h)
 have zS7:=hS.size;replace hS:=hS.trans hT;have zT:=hT.size;clear hT hN mb;refine W ?_;refine Z0 (ZQ (α:=Rsn) (X:=[b]) (base:=w7.heap.size) rfl (by decide) rfl rfl ab jD (Xh (Xq _ (show [(⟨1,4,739616⟩:Rsn),⟨2,0,0⟩].length+more.length<=20 by simp;omega)) (by decide)) (by simp [maxLen];omega) (by omega)) rfl ?_;rintro qv w9 ⟨iZ,hT,xG⟩;replace e5:=e5.ext hT (λh=>by have:=aV _ h;omega);replace e6:=e6.ext hT (λh=>by have:=aV _ h;omega);have oL:SlV [b] w9 dv [Z16 due st more]:=oK.ext hT (λc hc=>by simp [hc]) (λc hc=>.inl (by simp at hc;simp [hc]));replace hS:=hS.own hT (λc hc=>.inr (by have:=aV c hc;omega));clear hT oK jD jU ab;obtain ⟨pq,kq,rfl,-⟩:=id (Row.slv (X:=[b]) iZ (by simpa using l6));refine QO ?_;refine Z5 (Zb (u:=.slice pq ([(⟨1,4,739616⟩:Rsn),⟨2,0,0⟩]++more).length kq) rfl rfl rfl rfl e6 (show (10:Nat)<11 by decide)) ?_;rintro _ wA ⟨hT,e6⟩;replace e6:Blk wA b 56 (dlC (Z16 due st more) (.slice pq ([(⟨1,4,739616⟩:Rsn),⟨2,0,0⟩]++more).length kq)):=e6;have jV:SlV [] wA dv [Z16 due st more]:=oL.ext hT (by simp) (by simp);have sS:SlV [] wA (.slice pq ([(⟨1,4,739616⟩:Rsn),⟨2,0,0⟩]++more).length kq) (Z16 due st more).reas:=(Row.slv (X:=[b]) iZ (by simpa using l6)).ext hT (by simp) (by simp);replace hS:=hS.ow hT;generalize (Value.slice pq ([(⟨1,4,739616⟩:Rsn),⟨2,0,0⟩]++more).length kq)=qv at *;clear hT oL iZ e5;refine QO ?_;refine ZDr 6 [] [] [(0,0),(1,0),(2,1),(3,1),(4,2),(5,0)] (λw1 ae=>?_);replace jV:=jV.up ae;replace sS:=sS.up ae;replace e6:=e6.up ae;replace hS:=hS.trans ae;clear ae;obtain ⟨csa,⟨ra,rfl,cQ⟩,dI⟩:=jV.cell jZ;refine QD ?_;refine ZP rfl trivial (λw' aN=>Z0n rfl rfl (jV.up aN) jZ ⟨ra,rfl,cQ.up aN⟩ (λj u hu=>aN.cell0 (dI j u hu))) rfl ?_;refine QD ?_
 try refine ZP rfl trivial (λw' aN=>Zl rfl rfl (e6.up aN) (us:=dlC (Z16 due st more) qv) rfl rfl) rfl ?_
 repeat'(first|refine D1 ?_|omega|refine Zk rfl rfl rfl rfl (λhg=>?_) (λhg=>?_)|(refine Zi rfl rfl rfl rfl (λhg=>?_) (λhg=>?_)<;>refine D1 ?_)|fail)
 refine DP hS (Z7s (Z16 due st more) ra qv _ cQ sS) λw5 hT hS=>?_;refine QD ?_;refine RT ?_;exact ⟨rfl,hS⟩
end Go.Proofs.YtipfkbkkndacjaaGreatDoor
