/-
Contracts and plain laws, merged out of own texts.
-/
import Derived.Test.YteibicnbkggiiaaGreatDoorQ5
import Derived.Maps.RangeRun
set_option linter.unusedVariables false
set_option linter.unusedSimpArgs false
set_option maxHeartbeats 4000000
set_option maxRecDepth 20000
namespace Go.Proofs.YteibicnbkggiiaaGreatDoor
open Go Go.Eng Go.RowKit
def cL (b0 b5 b6:Bool) (hv cv zo zs hr:Value):List Value:=[.B b0,.B false,.B false,.B false,.B false,.B b5,.B b6,hv,cv,zo,zs,hr]
theorem Zmq (w):(Instr.buildSlice 22 4 #[(0,.I 1439),(1,.I 1020),(2,.I 0),(3,.I 720)]).run Tryz.prog w=.ok (.slice (some ⟨w.heap.size,0,none⟩) 4 4) (w.alloc (.cells #[.I 1439,.I 1020,.I 0,.I 720] 3)):=by kernel_rfl
theorem Zmr (h:Int) (w):(Instr.build 47 #[(4,.I h)]).run Tryz.prog w=.ok (.agg (cL false false false (.N) (.N) (.I 0) (.N) (.I h)).toArray) w:=by kernel_rfl
theorem Zrp (a b c:Int) (w):(Instr.build 122 #[(0,.I a),(1,.I b),(7,.I 1),(8,.I 9999),(6,.I c)]).run Tryz.prog w=.ok (agg (⟨a,b,0,0,0,0,c,1,9999⟩:Hol)) w:=by kernel_rfl
theorem Zms (h:Hol) (w):(Instr.buildSlice 41 1 #[(0,agg h)]).run Tryz.prog w=.ok (.slice (some ⟨w.heap.size,0,none⟩) 1 1) (w.alloc (.cells (Z2.enc h).toArray 122)):=by kernel_rfl
theorem Zmt (a b c:Int) (w):(Instr.build 124 #[(0,.I a),(1,.I b),(2,.I c)]).run Tryz.prog w=.ok (agg (⟨a,b,c⟩:Clo)) w:=by kernel_rfl
theorem Zmu (h:Clo) (w):(Instr.buildSlice 42 1 #[(0,agg h)]).run Tryz.prog w=.ok (.slice (some ⟨w.heap.size,0,none⟩) 1 1) (w.alloc (.cells (Z2.enc h).toArray 124)):=by kernel_rfl
def Z8C (x:Clo):Prop:=739616<=x.lo/\x.lo<739736/\x.lo<=x.hi/\x.hi<=x.lo+5/\739616<=x.known/\x.known<739746
structure Zet (c:Cal):Prop where
 ok:Zin c
 wk:∃ b0 b5 b6:Bool,c.week=[b0,false,false,false,false,b5,b6]
 h3:c.hols.length<=3
 c3:c.clos.length<=3
 cl:∀ x∈c.clos,Z8C x
 fl:∀ x∈c.hols,x.first<=x.last
def Z7o (x:Hol):Prop:=Z3f x/\x.first<=x.last
theorem Z8D {z:Int} {xs ys:List Spn} (hz:-900<=z/\z<=900) (hl:xs.length<=100) (ho:∀ x∈xs,Z7Y x) (hs:ShL xs) (hy:ys.length=xs.length) (he:∀ i (hi:i<ys.length) (be:i<xs.length),ys[i]=(xs[i].1+1065047040,xs[i].2)):Z41 z ys where
 off:=hz
 len:=by omega
 at_:=λs h=>by
  obtain ⟨i,hi,rfl⟩:=Xv h;have be:i<xs.length:=by omega
  have h1:=ho _ (Xc be);have h2:=hs.1 _ (Xc be);rw [he i hi be];unfold Z7Y at h1;dsimp only;omega
 ord:=λi h=>by
  have h1:=XZ.1 hs.2 i (i+1) (by omega) (by omega) (by omega);rw [he i (by omega) (by omega),he (i+1) h (by omega)];dsimp only;omega
theorem Z7p (X:List Nat) (v:Value) (l:List Int) (w:World) (hX:∀ b∈X,b<w.heap.size) (hs:SlV [] w v l) (hl:∀ a∈l,I64 a) :
 CC 17 #[v] w λr w'=>∃ (c:Cal) (hv cv zo zs hr:Value),r=Z5r c hv cv zo zs hr/\(zo.oneCell'=true/\zs.oneCell'=true/\hr.oneCell'=true)/\Zet c/\SlV X w' hv c.hols/\SlV X w' cv c.clos/\Stp [] w w'/\Zd0 X w' zo zs hr:=by
 have aW:=hs.max;refine cW1 160 Tryz.func17 ?_;refine W ?_;refine Z0 Z4 rfl ?_;rintro _ w1 ⟨b2,rfl,cJ,k2,hS⟩;refine W ?_;refine Z0 (Z1 (vs:=[(0,.I 1439),(1,.I 1020),(2,.I 0),(3,.I 720)]) rfl (Zmq)) rfl ?_;rintro bv w2 hN;have aI:SlV [] w2 bv ([1439,1020,0,720]:List Int):=hN.slv (by simp) rfl rfl (by simp [maxLen]);have hT:=Z6.stp hN;clear hN;replace k2:=k2.up hT;replace hS:=hS.trans hT;clear hT;refine W ?_;refine CM (ZL rfl rfl rfl) (ZN [] _ l 0 4 _ (by decide) (by unfold I64;omega) (hs.up hS) hl) ?_;rintro _ wn ⟨q0,rfl,nI,hT⟩;replace aI:=aI.up hT;replace k2:=k2.up hT;replace hS:=hS.trans hT;clear hT;have pW:q0<([1439,1020,0,720]:List Int).length:=by simp only [Xf,Xh];omega
 refine W ?_;have ik:∀ x∈([1439,1020,0,720]:List Int),0<=x/\x<1440:=by decide
 replace ik:=ik _ (Xc pW);generalize ([1439,1020,0,720]:List Int)[q0]=hr at ik ⊢;refine Zc (vs:=[(4,.I hr)]) rfl (Zmr _) rfl ?_;have k2lt:=k2.lt;clear aI;refine Z0 Z4 rfl ?_;rintro _ w3 ⟨b3,rfl,eD,k3,hT⟩;replace k2:=k2.up hT;replace hS:=hS.trans hT;clear hT;refine W ?_;have n23:b2≠b3:=by omega
 refine SB (us:=cL false false false (.N) (.N) (.I 0) (.N) (.I hr)) (by simp [cL,Value.oneCell']) k3 ?_;rintro _ w4 ⟨hT,k3⟩;replace k2:=k2.ext hT (by simpa using n23);replace hS:=hS.ow hT;clear hT;have k3lt:=k3.lt;have k2lt':=k2.lt;have uX:w.heap.size<=b3:=by have:=k3lt;have:=hS.size;omega
 refine W ?_;refine CM (ZL rfl rfl rfl) (ZN [] _ l 1 8 _ (by decide) (by unfold I64;omega) (hs.up hS) hl) ?_;rintro _ wn ⟨q1,rfl,hq1,hT⟩;replace k3:=k3.up hT;replace k2:=k2.up hT;replace hS:=hS.trans hT;clear hT;refine W ?_;refine Z2u (len:=7) (i:=5) rfl rfl rfl (by decide) rfl ?_;refine Z8 (Zf (u:=.B (decide (¬ (q1:Int)=1))) rfl rfl rfl rfl k3 (by simp [cL])) ?_;rintro _ wn ⟨hT,k3⟩;replace k3:Blk wn b3 47 (cL false (decide (¬ (q1:Int)=1)) false (.N) (.N) (.I 0) (.N) (.I hr)):=k3;replace k2:=k2.ext hT (by simpa using n23);replace hS:=hS.ow hT;clear hT;refine W ?_;refine Z2u (len:=7) (i:=6) rfl rfl rfl (by decide) rfl ?_;refine Z8 (Zf (u:=.B (decide (¬ (q1:Int)=2))) rfl rfl rfl rfl k3 (by simp [cL])) ?_;rintro _ wn ⟨hT,k3⟩;replace k3:Blk wn b3 47 (cL false (decide (¬ (q1:Int)=1)) (decide (¬ (q1:Int)=2)) (.N) (.N) (.I 0) (.N) (.I hr)):=k3;replace k2:=k2.ext hT (by simpa using n23);replace hS:=hS.ow hT;clear hT;refine W ?_;refine Z8 (Zf (u:=.B (decide ((q1:Int)=3))) rfl rfl rfl rfl k3 (by simp [cL])) ?_;rintro _ w5 ⟨hT,k3⟩;replace k3:Blk w5 b3 47 (cL (decide ((q1:Int)=3)) (decide (¬ (q1:Int)=1)) (decide (¬ (q1:Int)=2)) (.N) (.N) (.I 0) (.N) (.I hr)):=k3;replace k2:=k2.ext hT (by simpa using n23);replace hS:=hS.ow hT;clear hT;refine W ?_;generalize decide ((q1:Int)=3)=b0 at k3 ⊢;generalize decide (¬ (q1:Int)=1)=b5 at k3 ⊢;generalize decide (¬ (q1:Int)=2)=b6 at k3 ⊢;replace k2:Blk w5 b2 47 ((.agg (cL false false false (.N) (.N) (.I 0) (.N) (.I 0)).toArray:Value).cells.toList):=k2;have uY:=hS.size;have k3lt5:=k3.lt;have k2lt5:=k2.lt;refine Z0b (σ:=Value×List Hol) (λq=>[(0,v),(2,pQ b2),(3,pQ b3)]) (λq w'=>q.2.length<=3/\Blk w' b2 47 ((.agg (cL false false false (.N) (.N) (.I 0) (.N) (.I 0)).toArray:Value).cells.toList)/\Blk w' b3 47 (cL b0 b5 b6 q.1 (.N) (.I 0) (.N) (.I hr))/\Row [] w' w5.heap.size 122 q.1 q.2/\(∀ x∈q.2,Z7o x)/\Stp [b3] w5 w') ?_ ?_
 refine Zt (σ:=Nat×Value×List Hol) (λq=>[(0,v),(2,pQ b2),(3,pQ b3),(5,.I (q.1:Int))]) (λq w'=>q.1<=3/\q.2.2.length<=q.1/\Blk w' b2 47 ((.agg (cL false false false (.N) (.N) (.I 0) (.N) (.I 0)).toArray:Value).cells.toList)/\Blk w' b3 47 (cL b0 b5 b6 q.2.1 (.N) (.I 0) (.N) (.I hr))/\Row [] w' w5.heap.size 122 q.2.1 q.2.2/\(∀ x∈q.2.2,Z7o x)/\Stp [b3] w5 w') (λq=>3 - q.1)
  (0,.N,[]) ⟨rfl,rfl,rfl,rfl,trivial⟩ ⟨by decide,by decide,k2,k3,Row.nil,by simp,Stp.refl _ _⟩ ?_
 rintro ⟨j,hv,hols⟩ w6 ⟨pX,ai,k2,k3,ac,dZ,aH⟩;dsimp only at pX ai k3 ac dZ ⊢;have cu:=hs.up (hS.ow aH);have pY:=ac.ob_le;refine W ?_;refine CM (ZL rfl rfl rfl) (ZN [] _ l 2 4 _ (by decide) (by unfold I64;omega) cu hl) ?_;rintro _ wn ⟨q,rfl,hq,hT⟩;replace k3:=k3.up hT;replace k2:=k2.up hT;replace ac:=ac.up hT;replace cu:=cu.up hT;replace aH:=aH.trans hT.mn;clear hT;by_cases hlt:(j:Int)<(q:Int);refine QO ?_;refine CM (ZL rfl rfl rfl) (ZN [] _ l (3+2 * (j:Int)) 1000000 _ (by decide) (by unfold I64;omega) cu hl) ?_;rintro _ wn ⟨x,rfl,hx,hT⟩;replace k3:=k3.up hT;replace k2:=k2.up hT;replace ac:=ac.up hT;replace cu:=cu.up hT;replace aH:=aH.trans hT.mn;clear hT;refine W ?_;refine CM (ZL rfl rfl rfl) (ZN [] _ l (4+2 * (j:Int)) 1000000 _ (by decide) (by unfold I64;omega) cu hl) ?_;rintro _ wn ⟨y,rfl,hy,hT⟩;replace k3:=k3.up hT;replace k2:=k2.up hT;replace ac:=ac.up hT;replace cu:=cu.up hT;replace aH:=aH.trans hT.mn;clear hT;refine W ?_;refine Zc (vs:=[(0,.I (1+(x:Int) % 4)),(1,.I (1+(x:Int) / 4 % 4)),(7,.I 1),(8,.I 9999),(6,.I ((y:Int) % 3))]) rfl (Zrp _ _ _) rfl ?_;have uZ:=k3.lt;have vd:=k2.lt;have mu:=ac.ob_le;have ve:=aH.size;refine Z0 Z4 rfl ?_;rintro _ wn ⟨b8,rfl,eZ,k8,hT⟩;replace k3:=k3.up hT;replace k2:=k2.up hT;replace ac:=ac.up hT;replace cu:=cu.up hT;replace aH:=aH.trans hT.mn;clear hT;refine W ?_;have iP:b8≠b2/\b8≠b3/\b8∉ob hv:=⟨by omega,by omega,λh=>by have:=(mu _ h).2;omega⟩
 have bZ:w5.heap.size<=b8:=by omega
 generalize gB:1+(x:Int) % 4=m1;generalize ec:1+(x:Int) / 4 % 4=m2;generalize gM:(y:Int) % 3=m3;refine SA (us:=Z2.enc (⟨m1,m2,0,0,0,0,m3,1,9999⟩:Hol)) k8 ?_;rintro _ wn ⟨hT,k8⟩;replace k3:=k3.ext hT (by simp;omega);replace k2:=k2.ext hT (by simp;omega);replace ac:=ac.keep hT (by simp;exact iP.2.2);replace aH:=aH.ow hT;clear hT;replace k8:Blk wn b8 122 [.I m1,.I m2,.I 0,.I 0,.I 0,.I 0,.I m3,.I 1,.I 9999]:=k8;clear cu;refine W ?_
 refine Z0b (σ:=Hol) (λ_=>[(0,v),(2,pQ b2),(3,pQ b3),(5,.I (j:Int)),(8,pQ b8)])
  (λh w'=>Z7o h/\Blk w' b8 122 [.I h.kind,.I h.month,.I h.day,.I h.wd,.I h.nth,.I h.off,.I h.move,.I h.first,.I h.last]/\Blk w' b2 47 ((.agg (cL false false false (.N) (.N) (.I 0) (.N) (.I 0)).toArray:Value).cells.toList)/\Blk w' b3 47 (cL b0 b5 b6 hv (.N) (.I 0) (.N) (.I hr))/\Row [] w' w5.heap.size 122 hv hols/\Stp [b3] w5 w') ?_ ?_
 have hk:m1=1\/m1=2\/m1=3\/m1=4:=by omega
 rcases hk with rfl|rfl|rfl|rfl
 refine W ?_;refine S1 (u:=.I (1+(y:Int) / 3 % 31)) k8 ?_;rintro _ wn ⟨hT,k8⟩;replace k8:Blk wn b8 122 [.I (1),.I (m2),.I (1+(y:Int) / 3 % 31),.I (0),.I (0),.I (0),.I (m3),.I (1),.I (9999)]:=k8;replace k3:=k3.ext hT (by simp;omega);replace k2:=k2.ext hT (by simp;omega);replace ac:=ac.keep hT (by simp;exact iP.2.2);replace aH:=aH.ow hT;clear hT;refine W ?_;have gg:Z7o (⟨1,m2,1+(y:Int) / 3 % 31,0,0,0,m3,1,9999⟩:Hol):=⟨by constructor<;>dsimp only<;>omega,by dsimp only;omega⟩
 exact Zw (⟨1,m2,1+(y:Int) / 3 % 31,0,0,0,m3,1,9999⟩:Hol) ⟨rfl,rfl,rfl,rfl,rfl,trivial⟩ ⟨gg,k8,k2,k3,ac,aH⟩;refine W ?_;refine S1 (u:=.I ((y:Int) / 3 % 7)) k8 ?_;rintro _ wn ⟨hT,k8⟩;replace k8:Blk wn b8 122 [.I (2),.I (m2),.I (0),.I ((y:Int) / 3 % 7),.I (0),.I (0),.I (m3),.I (1),.I (9999)]:=k8;replace k3:=k3.ext hT (by simp;omega);replace k2:=k2.ext hT (by simp;omega);replace ac:=ac.keep hT (by simp;exact iP.2.2);replace aH:=aH.ow hT;clear hT;refine W ?_;refine S1 (u:=.I (1+(y:Int) / 21 % 5)) k8 ?_;rintro _ wn ⟨hT,k8⟩;replace k8:Blk wn b8 122 [.I (2),.I (m2),.I (0),.I ((y:Int) / 3 % 7),.I (1+(y:Int) / 21 % 5),.I (0),.I (m3),.I (1),.I (9999)]:=k8;replace k3:=k3.ext hT (by simp;omega);replace k2:=k2.ext hT (by simp;omega);replace ac:=ac.keep hT (by simp;exact iP.2.2);replace aH:=aH.ow hT;clear hT;refine W ?_;refine S1 (u:=.I (0)) k8 ?_;rintro _ wn ⟨hT,k8⟩;replace k8:Blk wn b8 122 [.I (2),.I (m2),.I (0),.I ((y:Int) / 3 % 7),.I (1+(y:Int) / 21 % 5),.I (0),.I (0),.I (1),.I (9999)]:=k8;replace k3:=k3.ext hT (by simp;omega);replace k2:=k2.ext hT (by simp;omega);replace ac:=ac.keep hT (by simp;exact iP.2.2);replace aH:=aH.ow hT;clear hT;refine W ?_;have gg:Z7o (⟨2,m2,0,(y:Int) / 3 % 7,1+(y:Int) / 21 % 5,0,0,1,9999⟩:Hol):=⟨by constructor<;>dsimp only<;>omega,by dsimp only;omega⟩
 exact Zw (⟨2,m2,0,(y:Int) / 3 % 7,1+(y:Int) / 21 % 5,0,0,1,9999⟩:Hol) ⟨rfl,rfl,rfl,rfl,rfl,trivial⟩ ⟨gg,k8,k2,k3,ac,aH⟩;refine W ?_;refine S1 (u:=.I ((y:Int) / 3 % 7)) k8 ?_;rintro _ wn ⟨hT,k8⟩;replace k8:Blk wn b8 122 [.I (3),.I (m2),.I (0),.I ((y:Int) / 3 % 7),.I (0),.I (0),.I (m3),.I (1),.I (9999)]:=k8;replace k3:=k3.ext hT (by simp;omega);replace k2:=k2.ext hT (by simp;omega);replace ac:=ac.keep hT (by simp;exact iP.2.2);replace aH:=aH.ow hT;clear hT;refine W ?_;refine S1 (u:=.I (0)) k8 ?_;rintro _ wn ⟨hT,k8⟩;replace k8:Blk wn b8 122 [.I (3),.I (m2),.I (0),.I ((y:Int) / 3 % 7),.I (0),.I (0),.I (0),.I (1),.I (9999)]:=k8;replace k3:=k3.ext hT (by simp;omega);replace k2:=k2.ext hT (by simp;omega);replace ac:=ac.keep hT (by simp;exact iP.2.2);replace aH:=aH.ow hT;clear hT;refine W ?_;have gg:Z7o (⟨3,m2,0,(y:Int) / 3 % 7,0,0,0,1,9999⟩:Hol):=⟨by constructor<;>dsimp only<;>omega,by dsimp only;omega⟩
 exact Zw (⟨3,m2,0,(y:Int) / 3 % 7,0,0,0,1,9999⟩:Hol) ⟨rfl,rfl,rfl,rfl,rfl,trivial⟩ ⟨gg,k8,k2,k3,ac,aH⟩;refine W ?_;refine S1 (u:=.I ((y:Int) / 3 % 61 - 10)) k8 ?_;rintro _ wn ⟨hT,k8⟩;replace k8:Blk wn b8 122 [.I (4),.I (m2),.I (0),.I (0),.I (0),.I ((y:Int) / 3 % 61 - 10),.I (m3),.I (1),.I (9999)]:=k8;replace k3:=k3.ext hT (by simp;omega);replace k2:=k2.ext hT (by simp;omega);replace ac:=ac.keep hT (by simp;exact iP.2.2);replace aH:=aH.ow hT;clear hT;refine W ?_;refine S1 (u:=.I (0)) k8 ?_;rintro _ wn ⟨hT,k8⟩;replace k8:Blk wn b8 122 [.I (4),.I (0),.I (0),.I (0),.I (0),.I ((y:Int) / 3 % 61 - 10),.I (m3),.I (1),.I (9999)]:=k8;replace k3:=k3.ext hT (by simp;omega);replace k2:=k2.ext hT (by simp;omega);replace ac:=ac.keep hT (by simp;exact iP.2.2);replace aH:=aH.ow hT;clear hT;refine W ?_;have gg:Z7o (⟨4,0,0,0,0,(y:Int) / 3 % 61 - 10,m3,1,9999⟩:Hol):=⟨by constructor<;>dsimp only<;>omega,by dsimp only;omega⟩
 exact Zw (⟨4,0,0,0,0,(y:Int) / 3 % 61 - 10,m3,1,9999⟩:Hol) ⟨rfl,rfl,rfl,rfl,rfl,trivial⟩ ⟨gg,k8,k2,k3,ac,aH⟩;rintro hh wq ⟨gg,k8,k2,k3,ac,aH⟩;refine W ?_;refine Z0 (Z1 (vs:=[(0,agg hh)]) rfl (Zms _)) rfl ?_;rintro bw wn hN;have dz:SlV (ob hv++[]) wn bw [hh]:=hN.slv (λb hb=>(ac.ob_le b (by simpa using hb)).2) rfl rfl (by simp [maxLen]);have hT:=Z6.stp hN;clear hN;replace k3:=k3.up hT;replace k2:=k2.up hT;replace ac:=ac.up hT;replace aH:=aH.trans hT.mn;clear hT;have aN:=ac.ob_le;have aT:=aH.size;refine Z0 (ZA (X:=[]) (base:=w5.heap.size) rfl (by decide) rfl rfl ac dz (by simp only [Xf,Xh];omega) (by simp only [Xf,Xh,maxLen];omega) aT) rfl ?_;rintro bt wn ⟨ac,hT,gQ⟩;replace k2:=k2.ext hT (λh=>by have:=(aN _ h).1;omega);replace k3:=k3.ext hT (λh=>by have:=(aN _ h).1;omega);replace aH:Stp [b3] w5 wn:=aH.own hT (λc hc=>.inr (aN c hc).1);clear hT;have bX:=ac.ob_le;refine W ?_;refine Z8 (Zf (u:=bt) rfl rfl (Row.slv (X:=[]) ac (by simp)).cells (Row.slv (X:=[]) ac (by simp)).one k3 (by simp [cL])) ?_;rintro _ wn ⟨hT,k3⟩;replace k3:Blk wn b3 47 (cL b0 b5 b6 bt (.N) (.I 0) (.N) (.I hr)):=k3;replace k2:=k2.ext hT (by simpa using n23);replace ac:=ac.keep hT (λb hb h=>by have:=bX _ h;simp at hb;omega);replace aH:=aH.trans hT;clear hT;refine W ?_;refine QL (j+1,bt,hols++[hh]) ⟨by dsimp only;omega,by dsimp only;rw [Xb];simp only [Xf,Xh];omega,k2,k3,ac,?_,aH⟩ (by dsimp only;omega);intro z hz;rcases Xe.1 hz with h|h
 exact dZ z h;rw [Xn.1 h];exact gg
 . refine QO ?_
   all_goals exact QT (hv,hols) ⟨(by dsimp only;omega),k2,k3,ac,dZ,aH⟩
 rintro ⟨hv,hols⟩ w6 ⟨gz,k2,k3,ac,dZ,aH⟩;dsimp only at gz k3 ac dZ ⊢;have d5:SlV (b2 :: b3 :: X) w6 hv hols:=Row.slv (X:=b2 :: b3 :: X) ac (λb hb=>by
  rcases Xa.1 hb with rfl|hb
  omega;rcases Xa.1 hb with rfl|hb
  omega;have:=hX b hb;omega)
 replace hS:=hS.ow aH;clear ac aH;have vf:=hS.size;have k3lt6:=k3.lt;have k2lt6:=k2.lt;refine W ?_;refine Z0b (σ:=Value×List Clo) (λq=>[(0,v),(2,pQ b2),(3,pQ b3)]) (λq w'=>q.2.length<=3/\(∀ x∈q.2,Z8C x)/\Blk w' b2 47 ((.agg (cL false false false (.N) (.N) (.I 0) (.N) (.I 0)).toArray:Value).cells.toList)/\Blk w' b3 47 (cL b0 b5 b6 hv q.1 (.I 0) (.N) (.I hr))/\Row [] w' w6.heap.size 124 q.1 q.2/\Stp [b3] w6 w') ?_ ?_
 refine Zt (σ:=Nat×Value×List Clo) (λq=>[(0,v),(2,pQ b2),(3,pQ b3),(9,.I (q.1:Int))]) (λq w'=>q.1<=3/\q.2.2.length<=q.1/\(∀ x∈q.2.2,Z8C x)/\Blk w' b2 47 ((.agg (cL false false false (.N) (.N) (.I 0) (.N) (.I 0)).toArray:Value).cells.toList)/\Blk w' b3 47 (cL b0 b5 b6 hv q.2.1 (.I 0) (.N) (.I hr))/\Row [] w' w6.heap.size 124 q.2.1 q.2.2/\Stp [b3] w6 w') (λq=>3 - q.1)
  (0,.N,[]) ⟨rfl,rfl,rfl,rfl,trivial⟩ ⟨by decide,by decide,(by simp),k2,k3,Row.nil,Stp.refl _ _⟩ ?_
 rintro ⟨j,cv,clos⟩ w7 ⟨pX,ai,kW,k2,k3,ac,aH⟩;dsimp only at pX ai k3 ac ⊢;have cu:=hs.up (hS.ow aH);have pY:=ac.ob_le;refine W ?_;refine CM (ZL rfl rfl rfl) (ZN [] _ l 9 4 _ (by decide) (by unfold I64;omega) cu hl) ?_;rintro _ wn ⟨q,rfl,hq,hT⟩;replace k3:=k3.up hT;replace k2:=k2.up hT;replace ac:=ac.up hT;replace cu:=cu.up hT;replace aH:=aH.trans hT.mn;clear hT;by_cases hlt:(j:Int)<(q:Int);refine QO ?_;refine CM (ZL rfl rfl rfl) (ZN [] _ l (10+(j:Int)) 1000000 _ (by decide) (by unfold I64;omega) cu hl) ?_;rintro _ wn ⟨x,rfl,hx,hT⟩;replace k3:=k3.up hT;replace k2:=k2.up hT;replace ac:=ac.up hT;replace cu:=cu.up hT;replace aH:=aH.trans hT.mn;clear hT;refine W ?_;refine Zc (vs:=[(0,.I (739616+(x:Int) % 120)),(1,.I (739616+(x:Int) % 120+(x:Int) / 120 % 6)),(2,.I (739616+(x:Int) / 720 % 130))]) rfl (Zmt _ _ _) rfl ?_;have nJ:Z8C ⟨739616+(x:Int) % 120,739616+(x:Int) % 120+(x:Int) / 120 % 6,739616+(x:Int) / 720 % 130⟩:=by unfold Z8C;dsimp only;omega
 generalize 739616+(x:Int) % 120=lo at nJ ⊢;generalize lo+(x:Int) / 120 % 6=hi at nJ ⊢;generalize 739616+(x:Int) / 720 % 130=kn at nJ ⊢;refine Z0 (Z1 (vs:=[(0,agg (⟨lo,hi,kn⟩:Clo))]) rfl (Zmu _)) rfl ?_;rintro bw wn hN;have dz:SlV (ob cv++[]) wn bw [(⟨lo,hi,kn⟩:Clo)]:=hN.slv (λb hb=>(ac.ob_le b (by simpa using hb)).2) rfl rfl (by simp [maxLen]);have hT:=Z6.stp hN;clear hN;replace k3:=k3.up hT;replace k2:=k2.up hT;replace ac:=ac.up hT;replace aH:=aH.trans hT.mn;clear hT;have aN:=ac.ob_le;have aT:=aH.size;refine Z0 (ZA (X:=[]) (base:=w6.heap.size) rfl (by decide) rfl rfl ac dz (by simp only [Xf,Xh];omega) (by simp only [Xf,Xh,maxLen];omega) aT) rfl ?_;rintro cv' wn ⟨ac,hT,gQ⟩;replace k2:=k2.ext hT (λh=>by have:=(aN _ h).1;omega);replace k3:=k3.ext hT (λh=>by have:=(aN _ h).1;omega);replace aH:Stp [b3] w6 wn:=aH.own hT (λc hc=>.inr (aN c hc).1);clear hT;have bX:=ac.ob_le;refine W ?_;refine Z8 (Zf (u:=cv') rfl rfl (Row.slv (X:=[]) ac (by simp)).cells (Row.slv (X:=[]) ac (by simp)).one k3 (by simp [cL])) ?_;rintro _ wn ⟨hT,k3⟩;replace k3:Blk wn b3 47 (cL b0 b5 b6 hv cv' (.I 0) (.N) (.I hr)):=k3;replace k2:=k2.ext hT (by simpa using n23);replace ac:=ac.keep hT (λb hb h=>by have:=bX _ h;simp at hb;omega);replace aH:=aH.trans hT;clear hT;refine W ?_;refine ZF (j+1,cv',clos++[(⟨lo,hi,kn⟩:Clo)]) ⟨rfl,rfl,rfl,rfl,trivial⟩ ⟨by dsimp only;omega,by dsimp only;rw [Xb];simp only [Xf,Xh];omega,(λy hy=>by rcases Xe.1 hy with h|h;exact kW y h;rw [Xn.1 h];exact nJ),k2,k3,ac,aH⟩ (by dsimp only;omega)
 . refine QO ?_
   all_goals exact QT (cv,clos) ⟨(by dsimp only;omega),kW,k2,k3,ac,aH⟩
 rintro ⟨cv,clos⟩ w7 ⟨mv,kW,k2,k3,ac,aH⟩;dsimp only at k3 ac ⊢;have bH:SlV (b2 :: b3 :: X) w7 cv clos:=Row.slv (X:=b2 :: b3 :: X) ac (λb hb=>by
  rcases Xa.1 hb with rfl|hb
  omega;rcases Xa.1 hb with rfl|hb
  omega;have:=hX b hb;omega)
 replace d5:SlV (b2 :: b3 :: X) w7 hv hols:=d5.ext aH (by simp) (λ_ h=>.inl h);replace hS:=hS.ow aH;clear ac aH;have cu:=hs.up hS;have vg:=hS.size;have k3lt7:=k3.lt;have k2lt7:=k2.lt;by_cases bW:13<l.length;refine QO ?_;have kR:=cu.slc (l:=13) (r:=l.length) (by omega) (Xq _);rw [Xs] at kR;refine Z46 (l:=13) rfl cu rfl (by simp) (by omega) rfl ?_;refine W ?_;refine CL (Z7n _ (l.drop 13) _ kR (λa ha=>hl a (Yax ha))) ?_;rintro _ w8 ⟨zo,zs,xs,rfl,dY,⟨fP,eu,au⟩,hz⟩;have aN:=hz.ob_le;have hT:=hz.2;replace k3:=k3.up hT;replace k2:=k2.up hT;have bG:=hz.1;replace d5:SlV (b2 :: b3 :: (ob zs++X)) w8 hv hols:=d5.ext hT (by simp) (λb hb=>by
  simp at hb;rcases hb with rfl|rfl|hb|hb
  exact .inl (by simp);exact .inl (by simp);exact .inr (aN b hb).1;exact .inl (by simp [hb]))
 replace bH:SlV (b2 :: b3 :: (ob zs++X)) w8 cv clos:=bH.ext hT (by simp) (λb hb=>by
  simp at hb;rcases hb with rfl|rfl|hb|hb
  exact .inl (by simp);exact .inl (by simp);exact .inr (aN b hb).1;exact .inl (by simp [hb]))
 replace hS:=hS.trans hT;have dS:b3∉ob zs:=λh=>by have:=(aN _ h).1;omega
 have iA:b2∉ob zs:=λh=>by have:=(aN _ h).1;omega
 clear hT hz hs cu;refine W ?_;refine Z8 (Z1r (o:=9) (us:=[.I zo,zs]) rfl rfl rfl rfl (by intro u hu;simp at hu;rcases hu with rfl|rfl;exact rfl;exact (Row.slv (X:=[]) bG (by simp)).one) k3 (by simp [cL])) ?_;rintro _ w9 ⟨hT,k3⟩;replace k3:Blk w9 b3 47 (cL b0 b5 b6 hv cv (.I zo) zs (.I hr)):=k3;replace k2:=k2.ext hT (by simpa using n23);replace bG:=bG.keep hT (λb hb h=>by simp at hb;subst hb;exact dS h);replace d5:=d5.ext (X':=b2 :: b3 :: (ob zs++X)) hT (by simp) (λ_ h=>.inl h);replace bH:=bH.ext (X':=b2 :: b3 :: (ob zs++X)) hT (by simp) (λ_ h=>.inl h);replace hS:=hS.ow hT;clear hT;refine W ?_;refine Z0b (σ:=List Spn) (λq=>[(2,pQ b2),(3,pQ b3)]) (λq w'=>Stp (ob zs) w9 w'/\Row [] w' w7.heap.size 127 zs q/\Z41 zo q) ?_ ?_
 refine Zt (σ:=Nat×List Spn) (λq=>[(2,pQ b2),(3,pQ b3),(13,.I (q.1:Int))]) (λq w'=>q.1<=xs.length/\q.2.length=xs.length/\((∀ i (hi:i<q.2.length),q.1<=i->Z7Y q.2[i])/\∀ i (hi:i<q.2.length) (be:i<xs.length),q.2[i]=if i<q.1 then (xs[i].1+1065047040,xs[i].2) else xs[i])/\Row [] w' w7.heap.size 127 zs q.2/\Stp (ob zs) w9 w') (λq=>xs.length - q.1)
  (0,xs) ⟨rfl,rfl,rfl,trivial⟩ ⟨by dsimp only;omega,rfl,⟨λi hi _=>dY _ (Xc hi),λi hi be=>(if_neg (Xy _)).symm⟩,bG,Stp.refl _ _⟩ ?_
 rintro ⟨j,ys⟩ wa ⟨hj,dH,⟨ce,fQ⟩,bG,aH⟩;dsimp only at hj dH ce fQ bG ⊢;have k3:=k3.ext aH dS;have dC:SlV [] wa zs ys:=Row.slv (X:=[]) bG (by simp);rw [<- dH] at hj;by_cases hlt:j<ys.length;refine QO ?_;have cU:=(ce j hlt (Xq _))
 unfold Z7Y at cU;refine ZDr 15 [] [14] [(0,0),(1,0),(2,1),(3,0),(4,0),(5,0),(6,1),(7,0),(8,0),(9,0),(10,1),(11,0),(12,0),(13,0),(14,2)] (λw1 ae=>?_);replace k3:=k3.up ae;replace bG:=bG.up ae;replace dC:=dC.up ae;replace aH:=aH.trans ae.mn;clear ae;refine D ?_;refine Je rfl trivial (Z3y (β:=Spn) (i:=j) (y':=((ys[j].1+1065047040,ys[j].2):Spn)) rfl rfl rfl rfl rfl bG hlt (by decide) rfl) rfl ?_;rintro _ wb ⟨bG,hT⟩;replace aH:=aH.trans hT;refine D ?_;refine W ?_;refine ZF (j+1,ys.set j ((ys[j].1+1065047040,ys[j].2):Spn)) ⟨rfl,rfl,rfl,trivial⟩ ⟨by dsimp only;omega,by dsimp only;rw [Yaa];exact dH,?_,bG,aH⟩ (by dsimp only;omega);refine ⟨λi hi cK=>?_,λi hi be=>?_⟩;dsimp only at hi cK ⊢;rw [YaA (by omega)];exact ce i (by rw [Yaa] at hi;exact hi) (by omega);dsimp only at hi ⊢;have bI:i<ys.length:=by rw [Yaa] at hi;exact hi
 by_cases e:i=j;subst e;rw [YaX,if_pos (XA i),fQ i bI be,if_neg (YbS i)];rw [YaA (by omega),fQ i bI be];by_cases g:i<j;rw [if_pos g,if_pos (by omega)];rw [if_neg g,if_neg (by omega)]
 . have gf:Z41 zo ys:=Z8D eu fP dY au dH (λi hi be=>by rw [fQ i hi be,if_pos (by omega)])
   refine QO ?_;all_goals exact QT ys ⟨aH,bG,gf⟩
 rintro ys wa ⟨aH,bG,gf⟩;have k3:=k3.ext aH dS;have k2:=k2.ext aH iA;have d5:=d5.ext (X':=b2 :: b3 :: X) aH (λb h=>by simp [h]) (λb h=>.inl (by simp at h;rcases h with rfl|rfl|h<;>simp [*]));have bH:=bH.ext (X':=b2 :: b3 :: X) aH (λb h=>by simp [h]) (λb h=>.inl (by simp at h;rcases h with rfl|rfl|h<;>simp [*]));replace hS:=hS.own aH (λc hc=>.inr (by have:=(aN _ hc).1;omega));have mw:zs.oneCell'=true:=(Row.slv (X:=[]) bG (by simp)).one;have pZ:SlV (b2 :: b3 :: X) wa zs ys:=Row.slv (X:=b2 :: b3 :: X) (base:=w7.heap.size) bG (λb hb=>by
  rcases Xa.1 hb with rfl|hb
  omega;rcases Xa.1 hb with rfl|hb
  omega;have:=hX b hb;omega)
 clear aH;refine W ?_;refine SB (us:=cL b0 b5 b6 hv cv (.I zo) zs (.I hr)) (by intro u hu;simp [cL] at hu;rcases hu with rfl|rfl|rfl|rfl|rfl|rfl|rfl|rfl|rfl|rfl|rfl<;>first|exact rfl|exact mw|exact d5.one|exact bH.one) k2 ?_;rintro _ wb ⟨hT,k2⟩;refine W ?_;refine JH rfl rfl rfl k2 rfl ?_;exact .mk ⟨⟨[b0,false,false,false,false,b5,b6],hols,clos⟩,hv,cv,.I zo,zs,.I hr,rfl,⟨rfl,mw,rfl⟩,⟨⟨rfl,λx hx=>(dZ x hx).1,by dsimp only;omega⟩,⟨b0,b5,b6,rfl⟩,gz,mv,kW,λx hx=>(dZ x hx).2⟩,d5.ext hT (by simp) (λb h=>.inl (by simp [h])),bH.ext hT (by simp) (λb h=>.inl (by simp [h])),hS.ow hT,zo,ys,hr,rfl,rfl,pZ.ext hT (by simp) (λb h=>.inl (by simp [h])),gf,ik⟩;refine QO ?_;refine CM (ZO rfl) (Z7n _ [] _ (Row.slv (X:=[]) (Row.nil (base:=0) (T:=0)) (by simp)) (by simp)) ?_;rintro _ w8 ⟨zo,zs,xs,rfl,dY,⟨fP,eu,au⟩,hz⟩;have aN:=hz.ob_le;have hT:=hz.2;replace k3:=k3.up hT;replace k2:=k2.up hT;have bG:=hz.1;replace d5:SlV (b2 :: b3 :: (ob zs++X)) w8 hv hols:=d5.ext hT (by simp) (λb hb=>by
  simp at hb;rcases hb with rfl|rfl|hb|hb
  exact .inl (by simp);exact .inl (by simp);exact .inr (aN b hb).1;exact .inl (by simp [hb]))
 replace bH:SlV (b2 :: b3 :: (ob zs++X)) w8 cv clos:=bH.ext hT (by simp) (λb hb=>by
  simp at hb;rcases hb with rfl|rfl|hb|hb
  exact .inl (by simp);exact .inl (by simp);exact .inr (aN b hb).1;exact .inl (by simp [hb]))
 replace hS:=hS.trans hT;have dS:b3∉ob zs:=λh=>by have:=(aN _ h).1;omega
 have iA:b2∉ob zs:=λh=>by have:=(aN _ h).1;omega
 clear hT hz hs cu;refine W ?_;refine Z8 (Z1r (o:=9) (us:=[.I zo,zs]) rfl rfl rfl rfl (by intro u hu;simp at hu;rcases hu with rfl|rfl;exact rfl;exact (Row.slv (X:=[]) bG (by simp)).one) k3 (by simp [cL])) ?_;rintro _ w9 ⟨hT,k3⟩;replace k3:Blk w9 b3 47 (cL b0 b5 b6 hv cv (.I zo) zs (.I hr)):=k3;replace k2:=k2.ext hT (by simpa using n23);replace bG:=bG.keep hT (λb hb h=>by simp at hb;subst hb;exact dS h);replace d5:=d5.ext (X':=b2 :: b3 :: (ob zs++X)) hT (by simp) (λ_ h=>.inl h);replace bH:=bH.ext (X':=b2 :: b3 :: (ob zs++X)) hT (by simp) (λ_ h=>.inl h);replace hS:=hS.ow hT;clear hT;refine W ?_;refine Z0b (σ:=List Spn) (λq=>[(2,pQ b2),(3,pQ b3)]) (λq w'=>Stp (ob zs) w9 w'/\Row [] w' w7.heap.size 127 zs q/\Z41 zo q) ?_ ?_
 refine Zt (σ:=Nat×List Spn) (λq=>[(2,pQ b2),(3,pQ b3),(13,.I (q.1:Int))]) (λq w'=>q.1<=xs.length/\q.2.length=xs.length/\((∀ i (hi:i<q.2.length),q.1<=i->Z7Y q.2[i])/\∀ i (hi:i<q.2.length) (be:i<xs.length),q.2[i]=if i<q.1 then (xs[i].1+1065047040,xs[i].2) else xs[i])/\Row [] w' w7.heap.size 127 zs q.2/\Stp (ob zs) w9 w') (λq=>xs.length - q.1)
  (0,xs) ⟨rfl,rfl,rfl,trivial⟩ ⟨by dsimp only;omega,rfl,⟨λi hi _=>dY _ (Xc hi),λi hi be=>(if_neg (Xy _)).symm⟩,bG,Stp.refl _ _⟩ ?_
 rintro ⟨j,ys⟩ wa ⟨hj,dH,⟨ce,fQ⟩,bG,aH⟩;dsimp only at hj dH ce fQ bG ⊢;have k3:=k3.ext aH dS;have dC:SlV [] wa zs ys:=Row.slv (X:=[]) bG (by simp);rw [<- dH] at hj;by_cases hlt:j<ys.length;refine QO ?_;have cU:=(ce j hlt (Xq _))
 unfold Z7Y at cU;refine ZDr 15 [] [14] [(0,0),(1,0),(2,1),(3,0),(4,0),(5,0),(6,1),(7,0),(8,0),(9,0),(10,1),(11,0),(12,0),(13,0),(14,2)] (λw1 ae=>?_);replace k3:=k3.up ae;replace bG:=bG.up ae;replace dC:=dC.up ae;replace aH:=aH.trans ae.mn;clear ae;refine D ?_;refine Je rfl trivial (Z3y (β:=Spn) (i:=j) (y':=((ys[j].1+1065047040,ys[j].2):Spn)) rfl rfl rfl rfl rfl bG hlt (by decide) rfl) rfl ?_;rintro _ wb ⟨bG,hT⟩;replace aH:=aH.trans hT;refine D ?_;refine W ?_;refine ZF (j+1,ys.set j ((ys[j].1+1065047040,ys[j].2):Spn)) ⟨rfl,rfl,rfl,trivial⟩ ⟨by dsimp only;omega,by dsimp only;rw [Yaa];exact dH,?_,bG,aH⟩ (by dsimp only;omega);refine ⟨λi hi cK=>?_,λi hi be=>?_⟩;dsimp only at hi cK ⊢;rw [YaA (by omega)];exact ce i (by rw [Yaa] at hi;exact hi) (by omega);dsimp only at hi ⊢;have bI:i<ys.length:=by rw [Yaa] at hi;exact hi
 by_cases e:i=j;subst e;rw [YaX,if_pos (XA i),fQ i bI be,if_neg (YbS i)];rw [YaA (by omega),fQ i bI be];by_cases g:i<j;rw [if_pos g,if_pos (by omega)];rw [if_neg g,if_neg (by omega)]
 . have gf:Z41 zo ys:=Z8D eu fP dY au dH (λi hi be=>by rw [fQ i hi be,if_pos (by omega)])
   refine QO ?_;all_goals exact QT ys ⟨aH,bG,gf⟩
 rintro ys wa ⟨aH,bG,gf⟩;have k3:=k3.ext aH dS;have k2:=k2.ext aH iA;have d5:=d5.ext (X':=b2 :: b3 :: X) aH (λb h=>by simp [h]) (λb h=>.inl (by simp at h;rcases h with rfl|rfl|h<;>simp [*]));have bH:=bH.ext (X':=b2 :: b3 :: X) aH (λb h=>by simp [h]) (λb h=>.inl (by simp at h;rcases h with rfl|rfl|h<;>simp [*]));replace hS:=hS.own aH (λc hc=>.inr (by have:=(aN _ hc).1;omega));have mw:zs.oneCell'=true:=(Row.slv (X:=[]) bG (by simp)).one;have pZ:SlV (b2 :: b3 :: X) wa zs ys:=Row.slv (X:=b2 :: b3 :: X) (base:=w7.heap.size) bG (λb hb=>by
  rcases Xa.1 hb with rfl|hb
  omega;rcases Xa.1 hb with rfl|hb
  omega;have:=hX b hb;omega)
 clear aH;refine W ?_;refine SB (us:=cL b0 b5 b6 hv cv (.I zo) zs (.I hr)) (by intro u hu;simp [cL] at hu;rcases hu with rfl|rfl|rfl|rfl|rfl|rfl|rfl|rfl|rfl|rfl|rfl<;>first|exact rfl|exact mw|exact d5.one|exact bH.one) k2 ?_;rintro _ wb ⟨hT,k2⟩;refine W ?_;refine JH rfl rfl rfl k2 rfl ?_;exact .mk ⟨⟨[b0,false,false,false,false,b5,b6],hols,clos⟩,hv,cv,.I zo,zs,.I hr,rfl,⟨rfl,mw,rfl⟩,⟨⟨rfl,λx hx=>(dZ x hx).1,by dsimp only;omega⟩,⟨b0,b5,b6,rfl⟩,gz,mv,kW,λx hx=>(dZ x hx).2⟩,d5.ext hT (by simp) (λb h=>.inl (by simp [h])),bH.ext hT (by simp) (λb h=>.inl (by simp [h])),hS.ow hT,zo,ys,hr,rfl,rfl,pZ.ext hT (by simp) (λb h=>.inl (by simp [h])),gf,ik⟩
end Go.Proofs.YteibicnbkggiiaaGreatDoor
namespace Go.Eng
open Go Go.RowKit Go.Proofs
theorem Z61:∀ {e:Env} {t:Nat} {v:Value},look e t=some v->(t,v)∈e
 | (k, u) :: r, t, v, h => by
   rw [Ju] at h;by_cases hk:k=t;subst hk;simp at h;subst h;simp;rw [if_neg hk] at h;exact XX _ (Z61 h)
theorem Has.of {n:Nat} {e:Env} {a:Act} (h1:a.defers=[]) (h2:a.tmps.size=n) (h3:∀ p∈e,a.tmps.getD p.1 undef=p.2):Has n e a:=⟨h1,h2,λt v h=>h3 (t,v) (Z61 h)⟩
section
variable {P:Program} {n:Nat} {Q:Exit->Act->World->Prop} {e:Env} {w:World} {ops:Array Oper} {rest:List Oper} {ty:TypeId} {pos:String} {af:Array Edge} {ds:List Deferred}
theorem ZfL {fn:Func} {gR:Frame} {cs:List Frame} {u':FrameMode} {R:Ending->FrameMode->World->Prop} {c:Code} {a:Act} (ha:Has n e a) (h:WC P n c (bodyPost P fn (λx w=>R x u' w)) e w) :
 c.wpS P (bodyPostS P fn gR cs R) a ({ gR with mode:=u' } :: cs) w:=by
 refine wpS_of_wp (wp_mono (h.h a ha) λex a' w' hq=>?_);cases ex with
 | normal=>obtain ⟨hd,v,hr,hR⟩:=hq;exact ⟨hd,u',rfl,v,hr,hR⟩
 | ret=>obtain ⟨hd,v,hr,hR⟩:=hq;exact ⟨hd,u',rfl,v,hr,hR⟩
 | panic ch=>obtain ⟨hd,hR⟩:=hq;exact ⟨hd,u',rfl,hR⟩
 | exit i=>exact hq.elim
 | goto l=>exact hq.elim
 | outgrown=>exact ⟨u',hq⟩
theorem Z9J {f:FuncId} {fn:Func} {c:Code} {args:Array Value} {w} {R:Ending->World->Prop} {n:Nat} (hf:P.funcs[f]?=some fn) (hb:fn.body=some c)
 (hn:fn.ntmps=n) (hs:Nat.ble args.size n=true) (h:WC P n c (bodyPostD P fn R) (Z2W args.toList 0) w):Calls P f args w R:=by
 refine calls_of_wp_defers hf hb (h.h _ ?_);rw [hn];have cK:args.size<=n:=Xg hs;refine ⟨rfl,by simp;omega,λt v hv=>?_⟩;obtain ⟨_,h2⟩:=Z2X _ _ _ _ hv;simp only [Nat.sub_zero] at h2;have hlt:t<args.size:=by
  have:=(Xt.1 h2).1;simpa using this
 have:args[t]?=some v:=by simpa using h2
 have h3:(args++Array.replicate (n - args.size) undef)[t]?=some v:=by
  rw [X4 hlt];exact this
 simp [XJ,h3]
theorem Zje {y:Code} {t:Operand} {fv:Fn} {cap:Array Value} (hc:ev e t=some (.func fv #[] cap)) {ts:Array TypeId}
 (h:WCD [{ target:=.fn fv cap,args:=#[] }] P n y Q e w) :
 WL P n ops (Exit.then (λa w=>y.wp P Q a w) Q) [⟨none,.defer { callee:=.value t,args:=#[],argTypes:=ts },ty,pos,af,none⟩] e w:=by
 refine ⟨λa ha=>?_⟩;refine wpList_plain rfl (λK hK=>?_);unfold Oper.wp;have he:(execOp a.eval ⟨none,.defer { callee:=.value t,args:=#[],argTypes:=ts },ty,pos,af,none⟩).run P w=.ok (.defer { target:=.fn fv cap,args:=#[] }) w:=by
  simp [execOp,resolve,ha.ev hc,Deferred.ofValue]
 rw [he];simp only [Oper.upon];refine hK _ _ ?_;have hd:({ a with defers:={ target:=.fn fv cap,args:=#[] } :: a.defers }:Act)=Z0u [{ target:=.fn fv cap,args:=#[] }] a:=by
  unfold Z0u;rw [ha.defers];rfl
 show wpList P ops _ [] (Act.put { a with defers:=_ } none undef) w;rw [hd];exact wpList_nil (h.h a ha)
theorem Zd1 {fn fn':Func} {tmps:Array Value} {R:Ending->World->Prop} {f:FuncId} {cap:Array Value} {u:FrameMode} (hu:u≠.run) [hf:Fun P f fn'] {G:Value->FrameMode->World->Prop}
 (h:CallsD P f cap u w λe u' w'=>∃ v,e=.returned v/\G v u' w') (hk:∀ v u' w',G v u' w'->settle u'=.returning/\∃ r,(results fn tmps).run P w'=.ok r w'/\R (.returned r) w') :
 Leaves P fn tmps R [{ target:=.fn (.func f) cap,args:=#[] }] u w:=by
 refine leaves_cons (f:=f) (args:=cap) hu ?_ (h.mono λe u' w' ⟨v,h1,h2⟩=>?_);simp [invoke];exact hf.enters cap w;subst h1;obtain ⟨h3,r,h4,h5⟩:=hk v u' w' h2;show Leaves P fn tmps R [] (settle u') w';rw [h3];exact ⟨r,h4,h5⟩
theorem Z7Z {d:Option Nat} {g:Option (Nat×Bool)} {x:Operand} {t s:TypeId} {u v:Value} (hx:ev e x=some u) (hb:∀ w,(Instr.typeAssert u t s true).run P w=.ok v w):PR P n ⟨d,.typeAssert x t s true,ty,pos,af,g⟩ e w v:=
 ⟨λa ha=>by simp [execOp,ha.ev hx,hb]⟩
end
end Go.Eng
namespace Go.Proofs.YteibicnbkggiiaaGreatDoor
open Go Go.Eng Go.RowKit Go.Proofs
theorem Zjf (r:Rul) (p:Option Addr) (a c:Nat) (p':Option Addr) (a' c':Nat) (w):(Instr.buildSlice 76 1 #[(0,.agg (rlC r (.slice p a c) (.slice p' a' c')).toArray)]).run Tryz.prog w=.ok (.slice (some ⟨w.heap.size,0,none⟩) 1 1) (w.alloc (.cells (rlC r (.slice p a c) (.slice p' a' c')).toArray 84)):=by kernel_rfl
theorem Zrq {X:List Nat} {w} {r:Rul} {cs:List Value} (h:Z5.rep X w r cs):∀ i (hi:i < [r].length) (be:i < [cs].length),Z5.rep X w [r][i] [cs][i]
 | 0,_,_=>h
theorem Z7q (X:List Nat) (v:Value) (l:List Int) (m:Nat) (w) (hs:SlV X w v l) (hl:∀ a∈l,I64 a) (hm:m<=100000):CC 11 #[v,.I (m:Int)] w λr w'=>ZE 3 w w' r (l.take m):=by
 have aW:=hs.max;refine cW2 14 Tryz.func11 ?_;refine W ?_;have jA:min (l.length:Int) (m:Int)=((min l.length m:Nat):Int):=by omega
 refine Za (Z1t (r:=min l.length m) rfl hs rfl (by omega) (Nat.min_le_left _ _)) rfl ?_;have au:SlV X w _ (l.take (min l.length m)):=hs.slc (Xu (min l.length m)) (Nat.min_le_left _ _);refine Z0 (Z01 rfl (by decide) rfl rfl (ZE.nil (w:=w)) (ys:=l.take (min l.length m)) (au.wk (by simp [ob])) (by simp;omega) (by simp [maxLen];omega)) rfl ?_;rintro v' w1 ⟨ac,-,-⟩;refine W ?_;refine WR ?_;refine .mk ?_;have e:l.take (min l.length m)=l.take m:=by rw [Nat.min_comm,<- YaU,Xs]
 rw [XW,e] at ac;exact ac
theorem Zjg (p:Option Addr) (l c:Nat) (w):(Instr.build 131 #[(0,.slice p l c)]).run Tryz.prog w=.ok (.agg #[.slice p l c,.I 0]) w:=by kernel_rfl
theorem ZfM (X:List Nat) (lv:Value) (l:List Int) (w:World) (hX:∀ b∈X,b<w.heap.size) (hs:SlV [] w lv l) (hl:∀ a∈l,I64 a):CC 22 #[lv] w λr w'=>∃ rs:List RuleM,rs.length<=4/\(∀ x∈rs,Z6S x)/\SlV X w' r (rs.map RuleM.rul)/\Stp [] w w':=by
 refine cW1 24 Tryz.func22 ?_;refine W ?_;refine CM (Zh rfl rfl) (Z7q [] lv l 120 _ hs hl (by decide)) ?_;rintro v w1 dD;have au:=dD.slv (X:=[]) (by simp);have hS:=dD.2;have dM:∀ a∈l.take 120,I64 a:=λa ha=>hl a (Yao ha);clear dD;generalize l.take 120=l' at *;obtain ⟨p,c,rfl,-⟩:=id au;refine W ?_;apply Zc (vs:=[(0,.slice p l'.length c)]) rfl (Zjg _ _ _) rfl;refine Z0 (Zn rfl) rfl ?_;rintro _ w2 ⟨bm,rfl,jO,aA,hT⟩;replace aA:Mk3 w2 bm (.slice p l'.length c) 0:=aA;replace au:SlV [bm] w2 (.slice p l'.length c) l':=au.ext hT (by simp) (λb h=>.inr (by simp at h;omega));have dz:w.heap.size<=bm:=Xk hS.size jO;replace hS:=hS.trans hT;clear hT jO;refine W ?_;refine CM (Zh rfl rfl) (JZ bm _ l' _ 5 _ (by decide) (by omega) aA au dM) ?_;rintro _ w3 ⟨k,rfl,hk,aA,hT⟩;replace au:=au.ext hT (λ_ h=>h) (λ_ h=>.inl h);have hlt:=aA.lt;refine W ?_
 refine Zt (σ:=Nat×List RuleM×Value×Nat) (λq=>[(3,pQ bm),(4,q.2.2.1),(5,.I (k:Int)),(6,.I (q.1:Int))])
  (λq w'=>q.1<=k/\q.2.1.length=q.1/\(∀ x∈q.2.1,Z6S x)/\q.2.2.2<=1+300 * q.1/\Mk3 w' bm (.slice p l'.length c) q.2.2.2/\Row (bm :: X) w' w3.heap.size 84 q.2.2.1 (q.2.1.map RuleM.rul)/\Stp [bm] w3 w')
  (λq=>k - q.1) (0,[],.N,1) ⟨rfl,rfl,rfl,rfl,trivial⟩ ⟨Xu _,rfl,by simp,by simp,aA,Row.nil,Stp.refl _ _⟩ ?_
 have az:=hS.ow hT;have p9:=au;clear aA au hS hT;rintro ⟨i,rs,v,at_⟩ w4 ⟨hi,ai,aD,bO,aA,ac,hS⟩;dsimp only at hi ai aD bO aA ac ⊢;have br:=hS.size;by_cases iy:i<k;refine QO ?_;have qa:∀ b∈ob v++bm :: X,b<w4.heap.size:=λb hb=>by
  rcases Xe.1 hb with h|h
  exact (ac.ob_le b h).2;rcases Xa.1 h with rfl|h
  omega;have:=hX b h;have:=az.size;omega
 refine CM (ZO rfl) (ZeY (ob v++bm :: X) bm _ l' _ _ aA (p9.ext hS (λ_ h=>h) (λ_ h=>.inl h)) dM (by omega) qa) ?_;rintro _ w5 ⟨r,i',⟨ki,kd,rfl,jB,ej⟩,hr,aA,be,hT⟩;replace ac:=ac.ext (X':=bm :: X) hT (λb hb=>by
  simp only [Xn] at hb;subst hb;exact ⟨by simp,λh=>by have:=(ac.ob_le b h).1;omega⟩) (λb hb=>.inl hb)
 have qb:∀ b∈ob v++bm :: X,b<w5.heap.size:=λb hb=>Xi (qa b hb) hT.size;replace hS:=hS.trans hT;clear hT qa;obtain ⟨p1,c1,rfl,-⟩:=id jB;obtain ⟨p2,c2,rfl,-⟩:=id ej;refine Z0 (Z1 (vs:=[(0,.agg (rlC r.rul (.slice p1 r.rul.cnd.kids.length c1) (.slice p2 r.rul.due.kids.length c2)).toArray)]) rfl (Zjf _ _ _ _ _ _ _)) rfl ?_;intro bv w6 hN;have aI:SlV (ob v++bm :: X) w6 bv [r.rul]:=hN.slvG (css:=[rlC r.rul _ _]) qb rfl rfl (by simp) (Zrq ⟨_,_,rfl,jB,ej⟩) (by simp [maxLen]);have hT:=Z6.stp hN;replace aA:=aA.up hT;replace ac:=ac.up hT;replace hS:=hS.trans hT.mn;clear hT hN jB ej;have vh:=hS.size;have jM:(rs.map RuleM.rul).length=i:=by rw [XB,ai]
 refine Z0 (ZA (X:=bm :: X) (base:=w3.heap.size) rfl (by decide) rfl rfl ac aI (by simp only [Xf,Xh,XB];omega) (by simp only [Xf,Xh,XB,maxLen];omega) vh) rfl ?_;rintro rv' w7 ⟨aR,hT,bF⟩;have jr:∀ c∈ob v,w3.heap.size<=c:=λc hc=>(ac.ob_le c hc).1;replace aA:=aA.ext hT (λh=>by have:=jr _ h;omega);replace hS:=hS.own hT (λc hc=>.inr (jr c hc));clear hT;refine W ?_;refine QL (i+1,rs++[r],rv',i') ⟨iy,by simp [ai],?_,Xk be (Xk (YbB bO 300) (Nat.le_of_eq (by rw [Nat.mul_add,YaP]))),aA,?_,hS⟩ (by dsimp only;omega);intro x hx;rcases Xe.1 hx with h|h
 exact aD x h;simp at h;subst h;exact hr;rw [XH];exact aR;refine QO ?_;refine WR ?_;refine .mk ⟨rs,by omega,aD,(ac.slv (λb hb=>by
  rcases Xa.1 hb with rfl|h
  exact hlt;have:=hX b h;have:=az.size;omega)).wk (by simp;exact λ_ h=>.inr h),az.ow hS⟩
abbrev rlN (s:Str):Rul:=⟨s,0,s,.mk 2 0 [] [],.mk 3 0 [] [],[],[]⟩
theorem ckN (s:Str):decide (Z19 (rlN s)=0)=Zx s:=by
 have m1:Z1R (.mk 2 0 [] []) 2=0:=by
  unfold Z1R;rw [show Zz (.mk 2 0 [] [])=1 by simp only [Z0k,Nd.kids,Yaj];rfl,show Zg (.mk 2 0 [] [])=2 by simp only [Z0y,Nd.kids,Nd.kind,Nd.num,Nd.word,Yaj];rfl];decide
 have m2:Z1R (.mk 3 0 [] []) 3=0:=by
  unfold Z1R;rw [show Zz (.mk 3 0 [] [])=1 by simp only [Z0k,Nd.kids,Yaj];rfl,show Zg (.mk 3 0 [] [])=3 by simp only [Z0y,Nd.kids,Nd.kind,Nd.num,Nd.word,Yaj];rfl];decide
 have hn:J2 (rlN s)=Zx s:=by simp [J2]
 unfold Z19;rw [hn,m1,m2];cases Zx s<;>simp
theorem Zbo (k:Int) (w):(Instr.build 82 #[(0,.I k)]).run Tryz.prog w=.ok (.agg #[.I k,.I 0,str [],.N]) w:=by kernel_rfl
theorem Z1H (s:Str) (m:Int) (w) (hF:SlV [] w Z2S Zd) (hm:w.cell? ⟨2,0,none⟩=some (.I m)) :
 CC 67 #[str s] w λr w'=>r=.B (Zx s)/\Stp [] w w':=by
 refine cW1 12 Tryz.func67 ?_;refine W ?_;apply Zc (vs:=[(0,.I 2)]) rfl (Zbo _) rfl;apply Zc (vs:=[(0,.I 3)]) rfl (Zbo _) rfl;apply Zc (vs:=[(0,str s),(2,str s),(3,.agg #[.I 2,.I 0,str [],.N]),(4,.agg #[.I 3,.I 0,str [],.N])]) rfl (Zil _ _ _ _ _ _ _ _ _ _ _ _ _ _) rfl;refine Z0 Z4 rfl ?_;rintro _ w1 ⟨b,rfl,hb,e0,hT⟩;refine SB (us:=rlC (rlN s) JE JE) (Z9l (rlN s) (Zi (α:=Nd) [] w) (Zi (α:=Nd) [] w)) e0 ?_;rintro _ w2 ⟨ax,e1⟩;have hS:=hT.ow ax;clear hT ax e0;refine W ?_;refine CM (ZO rfl) (Zaz _ (rlN s) m _ ⟨JE,JE,rfl,Zi _ _,Zi _ _⟩ (hF.up hS) (hS.cell (by simp) hm)) ?_;rintro _ w3 ⟨rfl,hT⟩;replace hS:=hS.trans hT;refine RT ?_;exact ⟨by rw [<- ckN s],hS⟩
def Z0e (q:Cr):Bool:=decide ((Z1y q.cnd).2≠0) || decide ((Z1y q.due).2≠0) || decide ((Z1y q.cnd).1≠2) || decide ((Z1y q.due).1≠3) || decide (q.frm<0) || decide (q.frm > 3652058) || !Zx q.name || !Zx q.on || (decide (q.unl≠[]) && !Zx q.unl) || (decide (q.els≠[]) && !Zx q.els)
def chkC (q:Cr):Int:=if Z0e q then 22 else 0
theorem Zd2 (v:Value) (q:Cr) (w) (m:Int) (hF:SlV [] w Z2S Zd) (hm:w.cell? ⟨2,0,none⟩=some (.I m)) (hv:CrV [] w v q) :
 CC 28 #[v] w λr w'=>r=.I (chkC q)/\Stp [] w w':=by
 obtain ⟨kc,kd,rfl,ca,cQ⟩:=hv;refine cW1 60 Tryz.func28 ?_;refine W ?_;refine Z0 (Zn rfl) rfl ?_;rintro _ w1 ⟨b,rfl,hb,e1,hS⟩;replace e1:Blk w1 b 27 (crC q kc kd):=e1;replace ca:=ca.up hS;replace cQ:=cQ.up hS;clear hb;refine W ?_;refine CL (Z6V _ q.cnd _ ca) ?_;rintro _ w2 ⟨rfl,hT⟩;replace e1:=e1.up hT;replace ca:=ca.up hT;replace cQ:=cQ.up hT;replace hS:=hS.trans hT;clear hT;refine W ?_;refine CL (Z6V _ q.due _ cQ) ?_;rintro _ w2 ⟨rfl,hT⟩;replace e1:=e1.up hT;replace ca:=ca.up hT;replace cQ:=cQ.up hT;replace hS:=hS.trans hT;clear hT;refine W ?_;refine JG (σ:=Bool) (λu=>[(1,pQ b),(2,.I 0),(19,.B u)]) (λu w'=>Blk w' b 27 (crC q kc kd)/\Stp [] w w'/\u=Z0e q) ?_ ?_
 . repeat'(first|refine W1 ?_|omega|refine VG ?_ ?_<;>intro hg|refine VC ?_ ?_<;>intro hc)
   all_goals try (first|exact Zw true ⟨rfl,rfl,rfl,trivial⟩ ⟨e1,hS,by simp [Z0e, *]⟩|exact Zw false ⟨rfl,rfl,rfl,trivial⟩ ⟨e1,hS,by simp [Z0e, *]⟩|exact Zw _ ⟨rfl,rfl,rfl,trivial⟩ ⟨e1,hS,by simp [Z0e, *]⟩)
   refine W ?_;refine CM (ZO rfl) (Z1H q.name m _ (hF.up hS) (hS.cell (by simp) hm)) ?_;rintro _ w3 ⟨rfl,hT⟩;replace e1:=e1.up hT;replace ca:=ca.up hT;replace cQ:=cQ.up hT;replace hS:=hS.trans hT;clear hT;cases hn_name:Zx q.name with
   | false=>
     refine QO ?_;all_goals (first|exact Zw true ⟨rfl,rfl,rfl,trivial⟩ ⟨e1,hS,by simp [Z0e, *]⟩|exact Zw false ⟨rfl,rfl,rfl,trivial⟩ ⟨e1,hS,by simp [Z0e, *]⟩|exact Zw _ ⟨rfl,rfl,rfl,trivial⟩ ⟨e1,hS,by simp [Z0e, *]⟩)
   | true=>
     refine QO ?_;refine W ?_;refine CM (ZO rfl) (Z1H q.on m _ (hF.up hS) (hS.cell (by simp) hm)) ?_;rintro _ w3 ⟨rfl,hT⟩;replace e1:=e1.up hT;replace ca:=ca.up hT;replace cQ:=cQ.up hT;replace hS:=hS.trans hT;clear hT;cases hn_on:Zx q.on with
     | false=>
       refine QO ?_;all_goals (first|exact Zw true ⟨rfl,rfl,rfl,trivial⟩ ⟨e1,hS,by simp [Z0e, *]⟩|exact Zw false ⟨rfl,rfl,rfl,trivial⟩ ⟨e1,hS,by simp [Z0e, *]⟩|exact Zw _ ⟨rfl,rfl,rfl,trivial⟩ ⟨e1,hS,by simp [Z0e, *]⟩)
     | true=>
       repeat'(first|refine W1 ?_|omega|refine VG ?_ ?_<;>intro hg|refine VC ?_ ?_<;>intro hc)
       . refine W ?_
         refine CM (ZO rfl) (Z1H q.unl m _ (hF.up hS) (hS.cell (by simp) hm)) ?_;rintro _ w3 ⟨rfl,hT⟩;replace e1:=e1.up hT;replace ca:=ca.up hT;replace cQ:=cQ.up hT;replace hS:=hS.trans hT;clear hT;cases hn_unl:Zx q.unl with
         | false=>
           refine QO ?_;all_goals (first|exact Zw true ⟨rfl,rfl,rfl,trivial⟩ ⟨e1,hS,by simp [Z0e, *]⟩|exact Zw false ⟨rfl,rfl,rfl,trivial⟩ ⟨e1,hS,by simp [Z0e, *]⟩|exact Zw _ ⟨rfl,rfl,rfl,trivial⟩ ⟨e1,hS,by simp [Z0e, *]⟩)
         | true=>
           (refine QP ?_ ?_<;>intro hg)
           . refine W ?_
             refine CM (ZO rfl) (Z1H q.els m _ (hF.up hS) (hS.cell (by simp) hm)) ?_;rintro _ w3 ⟨rfl,hT⟩;replace e1:=e1.up hT;replace ca:=ca.up hT;replace cQ:=cQ.up hT;replace hS:=hS.trans hT;clear hT;cases hn_els:Zx q.els with
             | false=>
               refine QO ?_;all_goals (first|exact Zw true ⟨rfl,rfl,rfl,trivial⟩ ⟨e1,hS,by simp [Z0e, *]⟩|exact Zw false ⟨rfl,rfl,rfl,trivial⟩ ⟨e1,hS,by simp [Z0e, *]⟩|exact Zw _ ⟨rfl,rfl,rfl,trivial⟩ ⟨e1,hS,by simp [Z0e, *]⟩)
             | true=>
               refine QO ?_;all_goals (first|exact Zw true ⟨rfl,rfl,rfl,trivial⟩ ⟨e1,hS,by simp [Z0e, *]⟩|exact Zw false ⟨rfl,rfl,rfl,trivial⟩ ⟨e1,hS,by simp [Z0e, *]⟩|exact Zw _ ⟨rfl,rfl,rfl,trivial⟩ ⟨e1,hS,by simp [Z0e, *]⟩)
           all_goals (first|exact Zw true ⟨rfl,rfl,rfl,trivial⟩ ⟨e1,hS,by simp [Z0e, *]⟩|exact Zw false ⟨rfl,rfl,rfl,trivial⟩ ⟨e1,hS,by simp [Z0e, *]⟩|exact Zw _ ⟨rfl,rfl,rfl,trivial⟩ ⟨e1,hS,by simp [Z0e, *]⟩)
       . refine W ?_
         refine CM (ZO rfl) (Z1H q.els m _ (hF.up hS) (hS.cell (by simp) hm)) ?_;rintro _ w3 ⟨rfl,hT⟩;replace e1:=e1.up hT;replace ca:=ca.up hT;replace cQ:=cQ.up hT;replace hS:=hS.trans hT;clear hT;cases hn_els:Zx q.els with
         | false=>
           refine QO ?_;all_goals (first|exact Zw true ⟨rfl,rfl,rfl,trivial⟩ ⟨e1,hS,by simp [Z0e, *]⟩|exact Zw false ⟨rfl,rfl,rfl,trivial⟩ ⟨e1,hS,by simp [Z0e, *]⟩|exact Zw _ ⟨rfl,rfl,rfl,trivial⟩ ⟨e1,hS,by simp [Z0e, *]⟩)
         | true=>
           refine QO ?_;all_goals (first|exact Zw true ⟨rfl,rfl,rfl,trivial⟩ ⟨e1,hS,by simp [Z0e, *]⟩|exact Zw false ⟨rfl,rfl,rfl,trivial⟩ ⟨e1,hS,by simp [Z0e, *]⟩|exact Zw _ ⟨rfl,rfl,rfl,trivial⟩ ⟨e1,hS,by simp [Z0e, *]⟩)
       all_goals (first|exact Zw true ⟨rfl,rfl,rfl,trivial⟩ ⟨e1,hS,by simp [Z0e, *]⟩|exact Zw false ⟨rfl,rfl,rfl,trivial⟩ ⟨e1,hS,by simp [Z0e, *]⟩|exact Zw _ ⟨rfl,rfl,rfl,trivial⟩ ⟨e1,hS,by simp [Z0e, *]⟩)
 rintro u w4 ⟨e1,hS,hu⟩
 try dsimp only at hu ⊢
 unfold chkC;rw [<- hu];cases u with
 | true=>
   refine RT ?_;exact ⟨rfl,hS⟩
 | false=>
   refine RT ?_;exact ⟨rfl,hS⟩
structure ZuY (q:Cr):Prop where
 frm:I64 q.frm
 cnd:∀ x∈q.cnd,I64 x.op/\I64 x.n
 due:∀ x∈q.due,I64 x.op/\I64 x.n
 lcnd:q.cnd.length<=200
 ldue:q.due.length<=200
 lname:q.name.length<=12
 lon:q.on.length<=12
 lunl:q.unl.length<=12
 lels:q.els.length<=12
def Z3U (m:Nat) (z:Ins):Prop:=0<=z.op/\z.op<=24/\0<=z.n/\z.n<=2147483647+(m:Int)
theorem Z3U.le {m k:Nat} {z:Ins} (h:Z3U m z) (hk:m<=k):Z3U k z:=⟨h.1,h.2.1,h.2.2.1,by have:=h.2.2.2;omega⟩
theorem Zjh:∀ (l:List Nd) (p m:Nat),(∀ y∈l,∀ p,∀ z∈Ze y p,Z3U (p+(Ze y p).length) z)->p+(Jm (l.map Ze) p).length<=m->∀ z∈Jm (l.map Ze) p,Z3U m z
 | [],p,m,_,_,z,hz=>by simp [Jm] at hz
 | y :: l, p, m, h, hm, z, hz => by
   simp only [XD,Jm,Xe,Xb] at hz hm;rcases hz with hz|hz
   exact (h y (by simp) p z hz).le (by omega);exact Zjh l _ m (λy hy=>h y (by simp [hy])) (by omega) z hz
theorem ZuZ (s:Str):∀ o∈opF s,0<=o/\o<=24:=by
 intro o ho;unfold opF at ho;cases h:ZhE.find? (λp=>decide (p.1=s)) with
 | none=>rw [h] at ho;cases ho
 | some p=>
   rw [h] at ho;have aD:∀ q∈ZhE,∀ o∈q.2,0<=o/\o<=24:=by decide +kernel
   exact aD p (X9 h) o ho
theorem Zji (k:Int) (s:Str) (m:Nat):∀ z∈Z3c k s,Z3U m z:=by
 intro z hz;unfold Z3c Z3P at hz;simp only [Xe,Xw] at hz;rcases hz with hz|⟨o,ho,rfl⟩
 split at hz;simp only [Xa,Xo,or_false] at hz;subst hz;exact ⟨by decide,by decide,by decide,by simp only;omega⟩;cases hz;obtain ⟨h1,h2⟩:=ZuZ s o ho;exact ⟨h1,h2,by simp,by simp only;omega⟩
theorem Zjj (c y n:Cf) (p m:Nat) (hc:∀ p,∀ z∈c p,Z3U (p+(c p).length) z) (hy:∀ p,∀ z∈y p,Z3U (p+(y p).length) z) (hn:∀ p,∀ z∈n p,Z3U (p+(n p).length) z) (hm:p+(chC c y n p).length<=m):∀ z∈chC c y n p,Z3U m z:=by
 intro z hz;unfold chC at hz hm;simp only [Xe,Xa,Xo,or_false,Xb,Xf,Xh] at hz hm;rcases hz with (((hz|rfl)|hz)|rfl)|hz
 exact (hc p z hz).le (by omega);exact ⟨by simp,by simp,by simp only;omega,by simp only;omega⟩;exact (hy _ z hz).le (by omega);exact ⟨by simp,by simp,by simp only;omega,by simp only;omega⟩;exact (hn _ z hz).le (by omega)
theorem Zmv (k n:Int) (s:Str) (m:Nat) (h:Z0x k n s≠0):Z3U m (Z1e k n s):=by
 unfold Z0x at h;unfold Z1e;by_cases k4:k=4
 . subst k4
   rw [if_pos rfl] at h;have hf:(ZK s).2.2=true:=by
    cases hb:(ZK s).2.2 with
    | true=>rfl
    | false=>rw [Z57 hb] at h;simp at h
   obtain ⟨i,hi,_,he⟩:=(Z6W s (ZK s).1).1 ⟨hf,rfl⟩;rw [if_neg (by decide),if_neg (by decide),if_neg (by decide)];exact ⟨by simp,by simp,by simp only;omega,by simp only;omega⟩
 rw [if_neg k4] at h;split at h;exact absurd rfl h;by_cases k1:k=1;rw [if_pos k1] at h ⊢;split at h;exact ⟨by simp,by simp,by simp only;omega,by simp only;omega⟩;exact absurd rfl h;rw [if_neg k1] at h ⊢;by_cases k2:k=2;rw [if_pos k2] at h ⊢;split at h;exact ⟨by simp,by simp,by simp only;omega,by simp only;omega⟩;exact absurd rfl h;rw [if_neg k2] at h ⊢;by_cases k3:k=3;rw [if_pos k3] at h ⊢;split at h;exact ⟨by simp,by simp,by simp only;omega,by simp only;omega⟩;exact absurd rfl h;rw [if_neg k3] at h;exact absurd rfl h
theorem Zrr (x:Nd):Zg x≠0->∀ p,∀ z∈Ze x p,Z3U (p+(Ze x p).length) z:=by
 induction x using Nd.ind with
 | h k n s l ih=>
 intro ht p;have hk:∀ y∈l,Zg y≠0:=λy hy=>Z5e (x:=.mk k n s l) ht hy;have ih':∀ y∈l,∀ p,∀ z∈Ze y p,Z3U (p+(Ze y p).length) z:=λy hy=>ih y hy (hk y hy);have jT:Zg (.mk k n s l)=Jl k n s (l.map Zg):=Z0y _;rw [jT] at ht;have hplain:∀ m,p+(Z1w k s (l.map Ze) p).length<=m->∀ z∈Z1w k s (l.map Ze) p,Z3U m z:=λm hm z hz=>by
  rw [Z2f] at hz hm;rw [Xb] at hm;rcases Xe.1 hz with hz|hz
  exact Zjh l p m ih' (by omega) z hz;exact Zji k s m z hz
 have bi:∀ i,∀ p,∀ z∈(l.map Ze).getD i Z49 p,Z3U (p+((l.map Ze).getD i Z49 p).length) z:=λi p z hz=>by
  by_cases hi:i<l.length;have e:(l.map Ze).getD i Z49=Ze l[i]:=by rw [XS,XC (by simpa using hi)];simp
  rw [e] at hz ⊢;exact ih' _ (Xc hi) p z hz;have e:(l.map Ze).getD i Z49=Z49:=by rw [XS,YaG (by simpa using hi)];rfl
  rw [e] at hz;cases hz
 have js:∀ b:Int,(b=0\/b=1)->∀ p:Nat,∀ z∈[(⟨2,b⟩:Ins)],Z3U (p+[(⟨2,b⟩:Ins)].length) z:=λb hb p z hz=>by
  simp only [Xa,Xo,or_false] at hz;subst hz;exact ⟨by simp,by simp,by simp only;omega,by simp only;omega⟩
 have cK:∀ c:List Ins,p+c.length<=p+c.length:=λc=>Xq _;rw [Ze];rcases Z5R ht with ⟨he,hc⟩|⟨h0,h3,kM,hc⟩
 have hl:l=[]:=by simpa using he
 subst hl;unfold Z1x;rw [if_pos (show (List.map Ze ([]:List Nd)).length=0 from rfl)];intro z hz;simp only [Xa,Xo,or_false] at hz;subst hz;exact Zmv k n s _ (by rw [<- hc];exact ht);have hl:l≠[]:=λh=>kM (by rw [h];rfl)
 have dc:¬ (l.map Ze).length=0:=by simpa using hl
 unfold Z1x;rw [if_neg dc];split;exact Zjj _ _ _ p _ (bi 0) (bi 1) (bi 2) (Xq _);split;exact Zjj _ _ _ p _ (bi 0) (bi 1) (js 0 (.inl rfl)) (Xq _);split;exact Zjj _ _ _ p _ (bi 0) (js 1 (.inr rfl)) (bi 1) (Xq _);split;intro z hz;rcases Xe.1 hz with hz|hz
 exact hplain _ (by simp) z hz;simp only [Xa,Xo,or_false] at hz;subst hz;exact ⟨by simp,by simp,by simp only;omega,by simp only;omega⟩;exact hplain _ (Xq _)
theorem Z8E (x:Nd) (ht:Zg x≠0) (hl:(JA x).length<=200):∀ z∈JA x,I64 z.op/\I64 z.n:=by
 intro z hz;unfold JA at hz hl;rw [Xb] at hl;rcases Xe.1 hz with hz|hz
 obtain ⟨h1,h2,h3,h4⟩:=Zrr x ht 0 z hz;unfold I64;constructor<;>omega;simp only [Xa,Xo,or_false] at hz;subst hz;unfold I64;simp
theorem Z3K {s:Str} (h:Zx s=true):s.length<=12:=by
 unfold Zx Z3a at h;simp only [Xd,decide_eq_true_eq] at h;have:=h.1;omega
theorem Zbp (r:Rul) (h:Z2d r=0):ZuY (crF r)/\chkC (crF r)=0:=by
 unfold crF;rw [if_pos h];unfold Z2d at h;split at h
 contradiction;rename_i iB;have fe:Z19 r=0:=by omega
 unfold Z19 at fe;split at fe;simp at fe;rename_i fA;split at fe;simp at fe;rename_i lq;split at fe
 contradiction;rename_i gB;have qc:Z1R r.cnd 2=0:=by omega
 split at h
 contradiction;rename_i xn;have qd:Z29 r.cnd=0:=by omega
 have key:∀ (x:Nd) (t:Int),t≠0->Z1R x t=0->Z29 x=0->Zz x<=12/\Zg x=t/\(JA x).length<=200:=λx t jt hm he=>by
  unfold Z1R at hm;unfold Z29 at he;split at hm;rename_i hn;rw [if_pos hn] at he;split at hm;simp at hm;rename_i h0;rw [if_neg h0] at he;split at hm;rename_i vj;split at he;simp at he;exact ⟨hn,vj,by omega⟩;simp at hm;simp at hm
 obtain ⟨n1,t1,l1⟩:=key r.cnd 2 (by decide) qc qd;obtain ⟨n2,t2,l2⟩:=key r.due 3 (by decide) fe h;have v1:=Z8p r.cnd (by omega) n1 l1;have v2:=Z8p r.due (by omega) n2 l2;have kp:J2 r=true:=by simpa using fA
 unfold J2 at kp;simp only [Xd,YaZ,decide_eq_true_eq] at kp;obtain ⟨⟨⟨a1,a2⟩,a3⟩,a4⟩:=kp;refine ⟨⟨show I64 r.frm by unfold I64;omega,Z8E _ (by omega) l1,Z8E _ (by omega) l2,l1,l2,Z3K a1,Z3K a2,?_,?_⟩,?_⟩;rcases a3 with h|h
 rw [show (⟨r.name,r.frm,r.on,JA r.cnd,JA r.due,r.unl,r.els⟩:Cr).unl=r.unl from rfl,h];simp;exact Z3K h;rcases a4 with h|h
 rw [show (⟨r.name,r.frm,r.on,JA r.cnd,JA r.due,r.unl,r.els⟩:Cr).els=r.els from rfl,h];simp;exact Z3K h;unfold chkC Z0e;simp only [v1,v2,t1,t2,a1,a2];rcases a3 with h3|h3<;>rcases a4 with h4|h4<;>simp [h3,h4]<;>omega
structure Zjk (n:Nat) (a:Atp):Prop where
 entry:0<=a.entry/\a.entry<=15
 party:0<=a.party/\a.party<=2
 crr:0<=a.crr/\a.crr<n
 sent:739616<=a.sent/\a.sent<=739655
 len:a.rets.length<=3
 rets:∀ x∈a.rets,Zep n x
def Z62 (l:List Fct):Prop:=∀ k (h:k<l.length),2 * (k:Int)<=l[k].entry/\l[k].entry<=2 * (k:Int)+1
structure Z6d (c:Cas):Prop where
 fl:c.fcts.length<=8
 fo:∀ f∈c.fcts,Z60 f
 en:Z62 c.fcts
 rl:c.ruls.length<=4
 ro:∀ q∈c.ruls,∃ r:RuleM,Z6S r/\Z2d r.rul=0/\q=crF r.rul
 al:c.atts.length<=4
 ao:∀ a∈c.atts,Zjk c.crrs.length a
 cl:1<=c.crrs.length/\c.crrs.length<=4
 co:∀ x∈c.crrs,Zbl x
 sl:c.stys.length<=2
 so:∀ x∈c.stys,Zeo x
 cal:Zet c.cal
 court:0<=c.court/\c.court<=2
 today:739616<=c.today/\c.today<=739705
structure Z80 (X:List Nat) (lv:Value) (l:List Int) (c:Cas) (R:Z0C) (w:World):Prop where
 li:SlV X w lv l
 ff:SlV X w R.fv c.fcts
 rr:SlV X w R.rv c.ruls
 aa:SlV X w R.av c.atts
 cc:SlV X w R.cv c.crrs
 ss:SlV X w R.sv c.stys
 ho:SlV X w R.hv c.cal.hols
 clo:SlV X w R.lv c.cal.clos
 one:R.zo.oneCell'=true/\R.zs.oneCell'=true/\R.hr.oneCell'=true
 zon:Zd0 X w R.zo R.zs R.hr
theorem Z80.ext {X:List Nat} {lv:Value} {l:List Int} {c:Cas} {R:Z0C} {w w':World} (h:Z80 X lv l c R w) (hS:Stp X w w'):Z80 X lv l c R w':=
 ⟨h.li.ext hS (λ_ h=>h) (λ_ h=>.inl h),h.ff.ext hS (λ_ h=>h) (λ_ h=>.inl h),h.rr.ext hS (λ_ h=>h) (λ_ h=>.inl h),h.aa.ext hS (λ_ h=>h) (λ_ h=>.inl h),h.cc.ext hS (λ_ h=>h) (λ_ h=>.inl h),h.ss.ext hS (λ_ h=>h) (λ_ h=>.inl h),h.ho.ext hS (λ_ h=>h) (λ_ h=>.inl h),h.clo.ext hS (λ_ h=>h) (λ_ h=>.inl h),h.one,h.zon.ext hS (λ_ h=>h) (λ_ h=>.inl h)⟩
theorem Z80.cell {X:List Nat} {lv:Value} {l:List Int} {c:Cas} {R:Z0C} {w} (h:Z80 X lv l c R w):∀ u∈Jq c R,u.oneCell'=true:=by
 have h1:=h.ff.one;have h2:=h.rr.one;have h3:=h.aa.one;have h4:=h.cc.one;have h5:=h.ss.one;have h6:=h.ho.one;have h7:=h.clo.one;obtain ⟨h8,h9,gw⟩:=h.one;intro u hu;simp only [Jq,JO,Xa,Xo,or_false,Yab,XW] at hu;rcases hu with rfl|rfl|rfl|rfl|rfl|rfl|rfl|rfl|rfl|rfl|rfl|rfl|rfl|rfl|rfl|rfl|rfl|rfl|rfl<;>first|assumption|rfl
theorem ZfN (c:Cal) (hv lv zo zs hr:Value) (p:Option Addr) (n k:Nat) (cs:List Crr) (ct td:Int) (w):(Instr.build 49 #[(5,Z5r c hv lv zo zs hr),(3,.slice p n k),(6,.I ct),(7,.I td)]).run Tryz.prog w=.ok (.agg (Jq ⟨[],[],[],cs,[],c,ct,td⟩ ⟨.N,.N,.N,.slice p n k,.N,hv,lv,zo,zs,hr⟩).toArray) w:=by kernel_rfl
theorem ZfO (f:Fct) (w):(Instr.buildSlice 35 1 #[(0,aG f)]).run Tryz.prog w=.ok (.slice (some ⟨w.heap.size,0,none⟩) 1 1) (w.alloc (.cells (Z2.enc f).toArray 24)):=by kernel_rfl
theorem Zjl (a b c d:Int) (w):(Instr.build 32 #[(0,.I a),(1,.I b),(2,.I c),(3,.I d)]).run Tryz.prog w=.ok (.agg (atC ⟨a,b,c,d,[]⟩ (.N)).toArray) w:=by kernel_rfl
theorem Zeu {a:Atp} {v:Value} (h:v.oneCell'=true):∀ u∈atC a v,u.oneCell'=true:=by
 intro u hu;simp only [Xa,Xo,or_false] at hu;rcases hu with rfl|rfl|rfl|rfl|rfl<;>first|assumption|rfl
theorem Zbq (lv:Value) (l:List Int) (w) (hs:SlV [] w lv l) (hl:∀ a∈l,I64 a) (hL:Z0G w) (hM:Z2g w) :
 CC 5 #[lv] w λr w'=>∃ (c:Cas) (R:Z0C),r=.agg (Jq c R).toArray/\Z2k w' c R/\Z6d c/\Stp [] w w'/\Zd0 [] w' R.zo R.zs R.hr:=by
 have dM:∀ k,∀ a∈l.drop k,I64 a:=λk a h=>hl a (Yax h);refine cW1 137 Tryz.func5 ?_;refine W ?_;refine Z0 Z4 rfl ?_;rintro _ w1 ⟨b2,rfl,cJ,e2,hS⟩;refine W ?_;refine CL (Z0L lv l 40 _ (hs.up hS)) ?_;rintro v1 w2 ⟨h1,rfl⟩;have b2w:=e2.lt;refine W ?_;refine CM (ZO rfl) (Z7p [b2] v1 _ _ (by simpa using b2w) h1 (dM 40)) ?_;rintro _ w3 ⟨cal,hv,cv,zo,zs,hr,rfl,aB,ep,dZ,cn,hT,eu⟩;replace e2:=e2.up hT;replace hS:=hS.trans hT;clear hT h1;refine W ?_;refine CL (Z0L lv l 60 _ (hs.up hS)) ?_;rintro v1 w4 ⟨h1,rfl⟩;refine W ?_;refine CL (Z9I v1 _ _ h1 (dM 60)) ?_;rintro crv w5 ⟨cs,ca,fZ,ia,j6⟩;have cz:SlV [b2] w5 crv cs:=j6.slv (by simpa using e2.lt);have hT:=j6.2;replace e2:=e2.up hT;replace dZ:=dZ.up hT;replace cn:=cn.up hT;replace eu:=eu.ext hT (by simp) (λb h=>.inl h);replace hS:=hS.trans hT;clear hT h1 j6;refine W ?_;refine CM (ZL rfl rfl rfl) (ZN [] _ l 0 3 _ (by decide) (by unfold I64;omega) (hs.up hS) hl) ?_;rintro _ w6 ⟨ct,rfl,qe,hT⟩;replace e2:=e2.up hT;replace dZ:=dZ.up hT;replace cn:=cn.up hT;replace eu:=eu.ext hT (by simp) (λb h=>.inl h);replace cz:=cz.up hT;replace hS:=hS.trans hT;clear hT;refine W ?_;refine CM (ZL rfl rfl rfl) (ZN [] _ l 1 90 _ (by decide) (by unfold I64;omega) (hs.up hS) hl) ?_;rintro _ w7 ⟨td,rfl,vk,hT⟩;replace e2:=e2.up hT;replace dZ:=dZ.up hT;replace cn:=cn.up hT;replace eu:=eu.ext hT (by simp) (λb h=>.inl h);replace cz:=cz.up hT;replace hS:=hS.trans hT;clear hT;obtain ⟨p,k,rfl,-⟩:=id cz;refine W ?_;refine Zc rfl (ZfN cal hv cv zo zs hr p cs.length k cs (ct:Int) (739616+(td:Int))) rfl ?_;generalize (.slice p cs.length k:Value)=crv at cz ⊢;refine Z0 Z4 rfl ?_;rintro _ w8 ⟨b3,rfl,eD,e3,hT⟩;have b2w7:=e2.lt;have n23:b2≠b3:=by omega
 replace e2:=e2.up hT;have nc:∀ b∈[b2,b3],b∈[b2]\/w7.heap.size<=b:=λb hb=>by simp at hb ⊢;omega
 have qf:Zd0 [b2,b3] w8 zo zs hr:=eu.ext hT (by simp) nc;obtain ⟨rN,mx,my,mz⟩:SlV [b2,b3] w8 lv l/\SlV [b2,b3] w8 hv cal.hols/\SlV [b2,b3] w8 cv cal.clos/\SlV [b2,b3] w8 crv cs:=⟨by
  have h:=hs.ext (X':=[b2,b3]) (hS.trans hT) (by simp) (λb hb=>.inr (by have:=hS.size;simp at hb;omega));exact h,dZ.ext hT (by simp) nc,cn.ext hT (by simp) nc,cz.ext hT (by simp) nc⟩
 replace hS:=hS.trans hT;clear hT dZ cn cz nc eu;have eV:Z80 [b2,b3] lv l ⟨[],[],[],cs,[],cal,(ct:Int),739616+(td:Int)⟩ ⟨.N,.N,.N,crv,.N,hv,cv,zo,zs,hr⟩ w8:=⟨rN,Z6q _ _,Z6q _ _,Z6q _ _,mz,Z6q _ _,mx,my,aB,qf⟩
 have aA:Z6d ⟨[],[],[],cs,[],cal,(ct:Int),739616+(td:Int)⟩:=⟨Xu _,by simp,λk h=>by simp at h,Xu _,by simp,Xu _,by simp,⟨ca,fZ⟩,ia,Xu _,by simp,ep,by dsimp only;omega,by dsimp only;omega⟩
 clear rN mx my mz aB;generalize nK:(⟨[],[],[],cs,[],cal,(ct:Int),739616+(td:Int)⟩:Cas)=C at *;generalize nL:(⟨.N,.N,.N,crv,.N,hv,cv,zo,zs,hr⟩:Z0C)=R at *;refine SB (us:=Jq C R) eV.cell e3 ?_;rintro _ w9 ⟨hT,e3⟩;replace eV:=eV.ext hT.mn;replace e2:=e2.ext hT (by simpa using n23);have g3:w.heap.size<=b3:=by have:=hS.size;have:=e3.lt;omega
 replace hS:=hS.ow hT;clear hT;have l2:=e2.lt;have l3:=e3.lt;have vl:C.fcts=[]:=by rw [<- nK]
 have qg:C.ruls=[]:=by rw [<- nK]
 have kX:C.atts=[]:=by rw [<- nK]
 clear nK;have eK:R.fv=.N:=by rw [<- nL]
 have kY:R.rv=.N:=by rw [<- nL]
 have kq:R.av=.N:=by rw [<- nL]
 clear nL;refine W ?_
 refine Zt (σ:=Nat×Value×List Fct) (λq=>[(0,lv),(2,pQ b2),(3,pQ b3),(4,.I (q.1:Int))])
  (λq W=>q.1<=8/\q.2.2.length=q.1/\(∀ f∈q.2.2,Z60 f)/\Z62 q.2.2/\Row [b2,b3] W w9.heap.size 24 q.2.1 q.2.2/\Blk W b3 49 (Jq C { R with fv:=q.2.1 })/\Stp [b3] w9 W) (λq=>9 - q.1) (0,.N,[])
  ⟨rfl,rfl,rfl,rfl,trivial⟩ ⟨by decide,rfl,by simp,λk h=>by simp at h,Row.nil,by rw [<- eK];exact e3,Stp.refl _ _⟩ ?_
 clear e3;rintro ⟨j,fv,fs⟩ y1 ⟨hj,ai,aK,nM,ac,e3,hT⟩;dsimp only at hj ai aK nM ac e3 ⊢;have kZ:=eV.ext hT.mn;have cd:SlV [] y1 lv l:=kZ.li.wk (by simp);have aN:=λb hb=>ac.ob_le b hb;refine W ?_;refine CM (ZL rfl rfl rfl) (ZN [] _ l 2 9 _ (by decide) (by unfold I64;omega) cd hl) ?_;rintro _ y2 ⟨q,rfl,hq,hU⟩;replace ac:=ac.up hU;replace e3:=e3.up hU;replace cd:=cd.up hU;replace hT:=hT.trans hU.mn;clear hU kZ;by_cases hlt:(j:Int)<(q:Int);refine QO ?_;refine ZDr 16 [] [13,15] [(0,0),(1,1),(2,0),(3,0),(4,0),(7,0),(8,0),(9,0),(5,2),(6,0),(10,2),(11,2),(12,2),(13,2),(14,0),(15,2)] (λw1 ae=>?_);replace ac:=ac.up ae;replace e3:=e3.up ae;replace cd:=cd.up ae;replace hT:=hT.trans ae.mn;clear ae;refine QD ?_;refine Z9 rfl trivial (Z3 rfl (ZL rfl rfl rfl) (ZN [] _ l 3 2 _ (by decide) (by unfold I64;omega) cd hl)) (λ_ _ h=>h.choose_spec.2.2) rfl ?_;rintro _ y3 ⟨q3,rfl,oF,hU⟩;replace ac:=ac.up hU;replace e3:=e3.up hU;replace cd:=cd.up hU;replace hT:=hT.trans hU.mn;clear hU;refine QD ?_;refine Z9 rfl trivial (Z3 rfl (ZL rfl rfl rfl) (ZN [] _ l (4+(j:Int)) 100000000 _ (by decide) (by unfold I64;omega) cd hl)) (λ_ _ h=>h.choose_spec.2.2) rfl ?_;rintro _ y4 ⟨q4,rfl,lD,hU⟩;replace ac:=ac.up hU;replace e3:=e3.up hU;replace hT:=hT.trans hU.mn;clear hU cd;focus repeat'(first|refine D1 ?_|omega|refine Zb rfl rfl rfl rfl (λhg=>?_) (λhg=>?_)|(refine Z7 rfl rfl rfl rfl (λhg=>?_) (λhg=>?_)<;>refine D1 ?_)|fail)
 refine Z9 rfl trivial (Z3 rfl (Zh rfl rfl) (ZfK (2 * (j:Int)+(q3:Int)) (q4:Int) _ (by unfold I64;omega))) (λ_ _ h=>h.choose_spec.2.2.2) rfl ?_;rintro _ y5 ⟨f,rfl,mA,hf,hU⟩;replace ac:=ac.up hU;replace e3:=e3.up hU;replace hT:=hT.trans hU.mn;clear hU;focus repeat'(first|refine D1 ?_|omega|refine Zb rfl rfl rfl rfl (λhg=>?_) (λhg=>?_)|(refine Z7 rfl rfl rfl rfl (λhg=>?_) (λhg=>?_)<;>refine D1 ?_)|fail)
 refine Z9 rfl trivial (Z1 rfl (ZfO f)) (λ_ _ h=>Z6.stp h) rfl ?_;rintro vs y6 hN;have cy:SlV (ob fv++[b2,b3]) y6 vs [f]:=hN.slv (λb hb=>by
  have:=hT.size;rcases Xe.1 hb with h|h
  exact (ac.ob_le b h).2;simp at h;omega) rfl (by simp) (by simp [maxLen])
 have hU:=Z6.stp hN;clear hN;replace ac:=ac.up hU;replace e3:=e3.up hU;replace hT:=hT.trans hU.mn;clear hU;focus repeat'(first|refine D1 ?_|omega|refine Zb rfl rfl rfl rfl (λhg=>?_) (λhg=>?_)|(refine Z7 rfl rfl rfl rfl (λhg=>?_) (λhg=>?_)<;>refine D1 ?_)|fail)
 refine ZdO rfl trivial (ZA (α:=Fct) (X:=[b2,b3]) (base:=w9.heap.size) rfl (by decide) rfl rfl ac cy (Xk (Xr _ (show fs.length+[f].length<=10 by simp;omega)) (by decide)) (by simp [maxLen];omega) (by have:=hT.size;omega)) rfl rfl ?_;rintro fv' y7 ⟨aR,hU,gQ⟩;have bX:=λb hb=>ac.ob_le b hb;replace e3:=e3.ext hU (λh=>by have:=bX _ h;omega);replace hT:=hT.own hU (λb hb=>.inr (bX b hb).1);clear hU;obtain ⟨pv,kv,rfl,-⟩:=id (Row.slv (X:=[b2,b3]) aR (λb hb=>by simp at hb;omega));refine QD ?_;refine Je rfl trivial (Zf (u:=.slice pv (fs++[f]).length kv) rfl rfl rfl rfl e3 (show (0:Nat)<19 by decide)) rfl ?_;rintro _ y8 ⟨hU,e3⟩;replace e3:Blk y8 b3 49 (Jq C { R with fv:=.slice pv (fs++[f]).length kv }):=e3;replace hT:=hT.own hU (λb hb=>.inl hb);replace aR:=aR.keep hU (λb hb h=>by simp only [Xn] at hb;subst hb;have:=(aR.ob_le _ h).1;omega);clear hU;refine QD ?_;refine QO ?_;exact ZF (j+1,.slice pv (fs++[f]).length kv,fs++[f]) ⟨rfl,rfl,rfl,rfl,trivial⟩ ⟨by dsimp only;omega,by simp [ai],λz hz=>by
  rcases Xe.1 hz with h|h
  exact aK z h;simp only [Xn] at h;subst h;exact hf,λk hk=>by
  dsimp only at hk ⊢;rw [List.getElem_append];split;exact nM k _;have:k=j:=by simp at hk;omega
  subst this;simp only [List.getElem_singleton];omega,aR,e3,hT⟩ (by dsimp only;omega)
 . as_aux_lemma=>
   have rO:Z80 [b2,b3] lv l { C with fcts:=fs } { R with fv:=fv } y2:={ eV.ext hT.mn with ff:=Row.slv (X:=[b2,b3]) ac (λb hb=>by simp at hb;omega) }
   have fS:Z6d { C with fcts:=fs }:=⟨by dsimp only;omega,aK,nM,aA.rl,aA.ro,aA.al,aA.ao,aA.cl,aA.co,aA.sl,aA.so,aA.cal,aA.court,aA.today⟩
   replace e2:=e2.ext hT (by simp;omega);replace hS:=hS.ow hT;replace l2:=e2.lt;replace l3:=e3.lt;replace qg:({ C with fcts:=fs }:Cas).ruls=[]:=qg;replace kX:({ C with fcts:=fs }:Cas).atts=[]:=kX;replace kY:({ R with fv:=fv }:Z0C).rv=.N:=kY;replace kq:({ R with fv:=fv }:Z0C).av=.N:=kq;clear eV aA hT ac aN aK nM vl eK ai;replace e3:Blk y2 b3 49 (Jq { C with fcts:=fs } { R with fv:=fv }):=e3;generalize ({ C with fcts:=fs }:Cas)=C at *;generalize ({ R with fv:=fv }:Z0C)=R at *;refine QO ?_;refine CL (Z0L lv l 80 _ cd) ?_;rintro v1 z1 ⟨h1,rfl⟩;repeat'(first|refine W1 ?_|omega|refine VG ?_ ?_<;>intro hg|refine VC ?_ ?_<;>intro hc)
   refine CM (ZO rfl) (ZfM [b2,b3] v1 _ _ (λb hb=>by simp at hb;omega) h1 (dM 80)) ?_;rintro gv z2 ⟨rs,h4,aD,qh,hT⟩;have rP:=rO.ext hT.mn;replace e2:=e2.up hT;replace e3:=e3.up hT;replace hS:=hS.trans hT;replace l2:=e2.lt;replace l3:=e3.lt;clear rO hT h1 cd;have sL:(rs.map RuleM.rul).length=rs.length:=XB ..;have mW:=qh.max;refine QO ?_
   refine Zt (σ:=Nat×Value×List Cr) (λq=>[(0,lv),(2,pQ b2),(3,pQ b3),(5,gv),(6,.I (q.1:Int))])
    (λq W=>q.1<=rs.length/\q.2.2.length<=q.1/\(∀ x∈q.2.2,∃ r:RuleM,Z6S r/\Z2d r.rul=0/\x=crF r.rul)/\Row [b2,b3] W z2.heap.size 27 q.2.1 q.2.2/\Blk W b3 49 (Jq C { R with rv:=q.2.1 })/\Stp [b3] z2 W) (λq=>rs.length - q.1) (0,.N,[])
    ⟨rfl,rfl,rfl,rfl,rfl,trivial⟩ ⟨by omega,Xq _,by simp,Row.nil,by rw [<- kY];exact e3,Stp.refl _ _⟩ ?_
   clear e3;rintro ⟨j,rv,qs⟩ y1 ⟨hj,ai,aK,ac,e3,hT⟩;dsimp only at hj ai aK ac e3 ⊢;have aN:=λb hb=>ac.ob_le b hb;have iQ:SlV [b2,b3] y1 gv (rs.map RuleM.rul):=qh.ext hT (by simp) (λ_ h=>.inl h);by_cases hlt:j<rs.length;have cd:j<(rs.map RuleM.rul).length:=by omega
   have hG:=aD _ (Xc hlt);have rQ:(rs.map RuleM.rul)[j]=rs[j].rul:=by simp
   obtain ⟨ka,kb,qi,fM,kl⟩:=Zr8 iQ cd;rw [rQ] at qi fM;have dw:ZU rs[j].cond<=1000:=Xk hG.cond.size (by decide);have np:ZU rs[j].due<=1000:=Xk hG.due.size (by decide);refine QO ?_;refine Za (Zcy rfl rfl iQ cd kl) rfl ?_;rw [rQ];refine CM (ZO rfl) (ZeZ _ rs[j].rul _ ⟨ka,kb,rfl,qi.wk (by simp),fM.wk (by simp)⟩ dw np) ?_;rintro _ y2 ⟨cv,rfl,bH,hU⟩;obtain ⟨k1,d1,rfl,bp,cQ⟩:=bH (ob rv++[b2,b3]) (λb hb=>by
    have:=hT.size;rcases Xe.1 hb with h|h
    exact (aN b h).2;simp at h;omega)
   clear bH iQ qi fM kl;replace ac:=ac.up hU;replace e3:=e3.up hU;replace hT:=hT.trans hU.mn;clear hU;refine W ?_;have xo:=hT.size;refine Z0 Z4 rfl ?_;rintro _ y3 ⟨b7,rfl,kQ,e7,hU⟩;have n37:b3≠b7:=by have:=e3.lt;omega
   have bX:=λb hb=>ac.ob_le b hb;replace ac:=ac.ext (X':=[b2,b3,b7]) hU (by simp) (λb hb=>by simp at hb ⊢;omega);replace e3:=e3.up hU;have nb7:∀ b∈b7 :: (ob rv++[b2,b3]),b∈ob rv++[b2,b3]\/y2.heap.size<=b:=λb hb=>by
    rcases Xa.1 hb with rfl|h
    exact .inr kQ;exact .inl h
   replace bp:=bp.ext hU (by simp) nb7;replace cQ:=cQ.ext hU (by simp) nb7;replace hT:=hT.trans hU.mn;clear hU;refine SB (us:=crC (crF rs[j].rul) k1 d1) (Z1k bp cQ) e7 ?_;rintro _ y4 ⟨hU,e7⟩;replace ac:=ac.ext (X':=[b2,b3]) hU (λb hb=>by
    simp only [Xn] at hb;subst hb;exact ⟨by simp,λh=>by have:=(bX _ h).2;omega⟩) (λb hb=>.inl (by simp at hb ⊢;omega))
   replace e3:=e3.ext hU (by simpa using n37);replace bp:=bp.ext (X':=ob rv++[b2,b3]) hU (by simp) (λb hb=>.inl (XX _ hb));replace cQ:=cQ.ext (X':=ob rv++[b2,b3]) hU (by simp) (λb hb=>.inl (XX _ hb));replace hT:=hT.ow hU;clear hU;by_cases he:Z2d rs[j].rul=0;refine QO ?_;have zT:=hT.size;refine APG (X:=[b2,b3]) (base:=z2.heap.size) (crF rs[j].rul) ac (λb hb=>by simp at hb;omega) (by omega) ⟨k1,d1,rfl,bp,cQ⟩ (Xk (Xr _ (show qs.length+1<=10 by omega)) (by decide)) (by simp only [maxLen];omega) λv1 rv' y5 aR hU gQ=>?_
   replace e3:=e3.ext hU (λh=>by have:=(bX _ h).1;omega);replace hT:=hT.own hU (λb hb=>.inr (bX b hb).1);clear hU;obtain ⟨pv,kv,rfl,-⟩:=id (Row.slv (X:=[b2,b3]) aR (λb hb=>by simp at hb;omega));refine QO ?_;refine Z8 (Zf (u:=.slice pv (qs++[crF rs[j].rul]).length kv) rfl rfl rfl rfl e3 (show (1:Nat)<19 by decide)) ?_;rintro _ y6 ⟨hU,e3⟩;replace e3:Blk y6 b3 49 (Jq C { R with rv:=.slice pv (qs++[crF rs[j].rul]).length kv }):=e3;replace hT:=hT.own hU (λb hb=>.inl hb);replace aR:=aR.ext (X':=[b2,b3]) hU (λb hb=>by
    simp only [Xn] at hb;subst hb;exact ⟨by simp,λh=>by have:=(aR.ob_le _ h).1;omega⟩) (λb hb=>.inl hb)
   clear hU;refine QO ?_;exact ZF (j+1,.slice pv (qs++[crF rs[j].rul]).length kv,qs++[crF rs[j].rul]) ⟨rfl,rfl,rfl,rfl,rfl,trivial⟩ ⟨by dsimp only;omega,by simp;omega,λz hz=>by
    rcases Xe.1 hz with h|h
    exact aK z h;simp only [Xn] at h;subst h;exact ⟨rs[j],hG,he,rfl⟩,aR,e3,hT⟩ (by dsimp only;omega)
   refine QO ?_;exact QL (j+1,rv,qs) ⟨by dsimp only;omega,by dsimp only;omega,aK,ac,e3,hT⟩ (by dsimp only;omega)
   . as_aux_lemma=>
     refine QO ?_;have mB:Z80 [b2,b3] lv l { C with ruls:=qs } { R with rv:=rv } y1:={ rP.ext hT.mn with rr:=Row.slv (X:=[b2,b3]) ac (λb hb=>by simp at hb;omega) }
     have fT:Z6d { C with ruls:=qs }:=⟨fS.fl,fS.fo,fS.en,by dsimp only;omega,aK,fS.al,fS.ao,fS.cl,fS.co,fS.sl,fS.so,fS.cal,fS.court,fS.today⟩
     replace e2:=e2.ext hT (by simp;omega);replace hS:=hS.ow hT;replace l2:=e2.lt;replace l3:=e3.lt;replace kX:({ C with ruls:=qs }:Cas).atts=[]:=kX;replace kq:({ R with rv:=rv }:Z0C).av=.N:=kq;replace e3:Blk y1 b3 49 (Jq { C with ruls:=qs } { R with rv:=rv }):=e3;clear rP fS hT ac aN aK qg kY ai iQ qh;generalize ({ C with ruls:=qs }:Cas)=C at *;generalize ({ R with rv:=rv }:Z0C)=R at *;have cd:SlV [] y1 lv l:=mB.li.wk (by simp);refine CL (Z0L lv l 30 _ cd) ?_;rintro v3 u1 ⟨h3,rfl⟩;refine QO ?_;refine CL (Z0L lv l 30 _ cd) ?_;rintro v4 u2 ⟨nu,rfl⟩;have gM:=h3.max;have vm:=nu.max;refine QO ?_;refine Za (Z1t (r:=min 4 (l.drop 30).length) rfl h3 rfl (by omega) (by omega)) rfl ?_;have h5:=h3.slc (l:=0) (r:=min 4 (l.drop 30).length) (by omega) (by omega);have nN:∀ a∈((l.drop 30).take (min 4 (l.drop 30).length)).drop 0,I64 a:=λa h=>dM 30 a (Yao (Yax h));have rR:(((l.drop 30).take (min 4 (l.drop 30).length)).drop 0).length<=4:=by simp only [Yah,Xz];omega
     refine CL (Zbm _ _ _ h5 nN rR) ?_;rintro sv u3 ⟨xs,rS,rT,lg⟩;have jo:SlV [b2,b3] u3 sv xs:=lg.slv (λb hb=>by simp at hb;omega);have hT:=lg.2;replace mB:=mB.ext hT.mn;replace e2:=e2.up hT;replace e3:=e3.up hT;replace hS:=hS.trans hT;clear hT h3 nu h5 nN rR lg gM vm cd;obtain ⟨ps,ks,rfl,-⟩:=id jo;refine QO ?_;refine Z8 (Zf (u:=.slice ps xs.length ks) rfl rfl rfl rfl e3 (show (4:Nat)<19 by decide)) ?_;rintro _ u4 ⟨hT,e3⟩;replace e3:Blk u4 b3 49 (Jq { C with stys:=xs } { R with sv:=.slice ps xs.length ks }):=e3;have rU:Z80 [b2,b3] lv l { C with stys:=xs } { R with sv:=.slice ps xs.length ks } u4:={ mB.ext hT.mn with ss:=jo.ext hT (by simp) (λ_ h=>.inl h) }
     have fU:Z6d { C with stys:=xs }:=⟨fT.fl,fT.fo,fT.en,fT.rl,fT.ro,fT.al,fT.ao,fT.cl,fT.co,rS,rT,fT.cal,fT.court,fT.today⟩
     replace e2:=e2.ext hT (by simp;omega);replace hS:=hS.ow hT;replace l2:=e2.lt;replace l3:=e3.lt;replace kX:({ C with stys:=xs }:Cas).atts=[]:=kX;replace kq:({ R with sv:=.slice ps xs.length ks }:Z0C).av=.N:=kq;clear mB fT hT jo rS rT;generalize ({ C with stys:=xs }:Cas)=C at *;generalize ({ R with sv:=.slice ps xs.length ks }:Z0C)=R at *;refine QO ?_
     refine Zt (σ:=Nat×Value×List Atp) (λq=>[(0,lv),(2,pQ b2),(3,pQ b3),(9,.I (q.1:Int))])
      (λq W=>q.1<=4/\q.2.2.length=q.1/\(∀ x∈q.2.2,Zjk C.crrs.length x)/\Row [b2,b3] W u4.heap.size 32 q.2.1 q.2.2/\Blk W b3 49 (Jq C { R with av:=q.2.1 })/\Stp [b3] u4 W) (λq=>5 - q.1) (0,.N,[])
      ⟨rfl,rfl,rfl,rfl,trivial⟩ ⟨by decide,rfl,by simp,Row.nil,by rw [<- kq];exact e3,Stp.refl _ _⟩ ?_
     clear e3;rintro ⟨j,av,as_⟩ y1 ⟨hj,ai,aK,ac,e3,hT⟩;dsimp only at hj ai aK ac e3 ⊢;have aN:=λb hb=>ac.ob_le b hb;have kZ:=rU.ext hT.mn;have cd:SlV [] y1 lv l:=kZ.li.wk (by simp);have cz:=kZ.cc;have cn:=fU.cl;have qj:=cz.max;refine QO ?_;refine CM (ZL rfl rfl rfl) (ZN [] _ l 12 5 _ (by decide) (by unfold I64;omega) cd hl) ?_;rintro _ y2 ⟨q,rfl,hq,hU⟩;replace ac:=ac.up hU;replace e3:=e3.up hU;replace cd:=cd.up hU;replace cz:=cz.up hU;replace hT:=hT.trans hU.mn;clear hU kZ;obtain ⟨pc,kc,bH,-⟩:=id cz;by_cases hlt:(j:Int)<(q:Int)
     . as_aux_lemma=>
       have vn:j+1<=4:=by omega
       have qk:5 - (j+1)<5 - j:=by omega
       refine QO ?_;refine CM (ZL rfl rfl rfl) (ZN [] _ l (13+(j:Int)) 1000000 _ (by decide) (by unfold I64;omega) cd hl) ?_;rintro _ y3 ⟨n,rfl,hn,hU⟩;replace ac:=ac.up hU;replace e3:=e3.up hU;replace cd:=cd.up hU;replace cz:=cz.up hU;replace hT:=hT.trans hU.mn;clear hU;refine QO ?_;have r1:0<=(n:Int) % 16/\(n:Int) % 16<=15:=by omega
       have r2:0<=(n:Int) / 16 % 3/\(n:Int) / 16 % 3<=2:=by omega
       have r3:0<=(n:Int) / 48 % (C.crrs.length:Int)/\(n:Int) / 48 % (C.crrs.length:Int)<C.crrs.length:=⟨Ybm _ (by omega),Ya6 _ (by omega)⟩
       have r4:739616<=739616+(n:Int) / 768 % 40/\739616+(n:Int) / 768 % 40<=739655:=by omega
       generalize (n:Int) % 16=a1 at r1 ⊢;generalize (n:Int) / 16 % 3=a2 at r2 ⊢;generalize (n:Int) / 48 % (C.crrs.length:Int)=a3 at r3 ⊢;generalize 739616+(n:Int) / 768 % 40=a4 at r4 ⊢;refine Zc rfl (Zjl a1 a2 a3 a4) rfl ?_;have zT:=hT.size;refine Z0 Z4 rfl ?_;rintro _ y4 ⟨b,rfl,hb,e4,hU⟩;have n3:b3≠b:=by have:=e3.lt;omega
       have bX:=λb hb=>ac.ob_le b hb;replace ac:=ac.ext (X':=[b2,b3,b]) hU (by simp) (λc hc=>by simp at hc ⊢;omega);replace e3:=e3.up hU;replace cd:=cd.ext (X':=[b]) hU (by simp) (λc hc=>.inr (by simp at hc;omega));replace cz:=cz.ext (X':=[b]) hU (by simp) (λc hc=>.inr (by simp at hc;omega));replace hT:=hT.trans hU.mn;clear hU;refine SB (us:=atC ⟨a1,a2,a3,a4,[]⟩ (.N)) (Zeu (by rfl)) e4 ?_;rintro _ y5 ⟨hU,e4⟩;replace e3:=e3.ext hU (by simpa using n3);replace ac:=ac.ext (X':=[b2,b3,b]) hU (λc hc=>by
        simp only [Xn] at hc;subst hc;exact ⟨by simp,λh=>by have:=(bX _ h).2;omega⟩) (λc hc=>.inl hc)
       replace cd:=cd.ext (X':=[b]) hU (by simp) (λc hc=>.inl hc);replace cz:=cz.ext (X':=[b]) hU (by simp) (λc hc=>.inl hc);replace hT:=hT.ow hU;clear hU;refine QO ?_
       refine JG (σ:=Value×List Rtn) (λq=>[(0,lv),(2,pQ b2),(3,pQ b3),(9,.I (j:Int)),(11,pQ b)])
        (λq W=>(q.2.length<=3/\∀ x∈q.2,Zep C.crrs.length x)/\Blk W b 32 (atC ⟨a1,a2,a3,a4,q.2⟩ q.1)/\Row [b2,b3] W u4.heap.size 32 av as_/\SlV (ob av++[b2,b3]) W q.1 q.2/\Blk W b3 49 (Jq C { R with av:=av })/\Stp [b3] u4 W) ?_ ?_
       . as_aux_lemma=>
         refine ZDr 20 [] [19] [(0,0),(1,0),(2,0),(3,0),(5,0),(6,0),(7,0),(8,0),(13,0),(14,1),(15,0),(16,1),(4,2),(9,2),(10,0),(11,0),(12,0),(17,2),(18,0),(19,2)] (λw1 ae=>?_);replace ac:=ac.up ae;replace e3:=e3.up ae;replace e4:=e4.up ae;replace cd:=cd.up ae;replace cz:=cz.up ae;replace hT:=hT.trans ae.mn;clear ae;have ql:=cd.wk (X':=[]) (by simp);have nO:=Z0L lv l (18+3 * j) _ ql;have pp:((18+3 * j:Nat):Int)=18+3 * (j:Int):=by omega
         rw [pp] at nO;refine QD ?_;refine DC nO (λ_ _ h=>by rw [h.2];exact Stp.refl _ _) ?_;rintro v5 u5 ⟨h5,rfl⟩;repeat'(first|refine D1 ?_|omega|refine Zb rfl rfl rfl rfl (λhg=>?_) (λhg=>?_)|(refine Z7 rfl rfl rfl rfl (λhg=>?_) (λhg=>?_)<;>refine D1 ?_)|fail)
         refine DC nO (λ_ _ h=>by rw [h.2];exact Stp.refl _ _) ?_;rintro v6 u6 ⟨h6,rfl⟩;clear nO;have rM:=h5.max;refine QD ?_;refine Jn rfl trivial (λ_=>Z1t (r:=min 3 (l.drop (18+3 * j)).length) rfl h5 rfl (by omega) (by omega)) rfl ?_;have h7:=h5.slc (l:=0) (r:=min 3 (l.drop (18+3 * j)).length) (by omega) (by omega);have rV:∀ a∈((l.drop (18+3 * j)).take (min 3 (l.drop (18+3 * j)).length)).drop 0,I64 a:=λa h=>dM _ a (Yao (Yax h));have rW:(((l.drop (18+3 * j)).take (min 3 (l.drop (18+3 * j)).length)).drop 0).length<=3:=by simp only [Yah,Xz];omega
         repeat'(first|refine D1 ?_|omega|refine Zb rfl rfl rfl rfl (λhg=>?_) (λhg=>?_)|(refine Z7 rfl rfl rfl rfl (λhg=>?_) (λhg=>?_)<;>refine D1 ?_)|fail)
         refine Z9 rfl trivial (Z3 rfl (ZL rfl rfl rfl) (Zbn _ R.cv _ C.crrs a4 _ h7 rV rW (cz.wk (by simp)) cn r4)) (λ_ _ h=>h.choose_spec.2.2.2) rfl ?_;rintro rv u7 ⟨rs7,cX,j7,fc⟩;have hU:=fc.2;have au:SlV (b :: (ob av++[b2,b3])) u7 rv rs7:=fc.slv (λc hc=>by
          have:=hT.size;have:=e4.lt;rcases Xa.1 hc with rfl|hc
          omega;rcases Xe.1 hc with h|h
          have:=ac.ob_le c h;omega;simp at h;omega)
         replace ac:=ac.up hU;replace e3:=e3.up hU;replace e4:=e4.up hU;replace hT:=hT.trans hU.mn;clear hU fc h7 rV rW h5 h6;obtain ⟨pr,kr,rfl,-⟩:=id au;refine QD ?_;refine Je rfl trivial (Zf (u:=.slice pr rs7.length kr) rfl rfl rfl rfl e4 (show (4:Nat)<5 by decide)) rfl ?_;rintro _ u8 ⟨hU,e4⟩;replace e4:Blk u8 b 32 (atC ⟨a1,a2,a3,a4,rs7⟩ (.slice pr rs7.length kr)):=e4;replace e3:=e3.ext hU (by simpa using n3);have dB:=λb hb=>ac.ob_le b hb;replace ac:=ac.ext (X':=[b2,b3]) hU (λc hc=>by
          simp only [Xn] at hc;subst hc;exact ⟨by simp,λh=>by have:=(bX _ h).2;omega⟩) (λc hc=>.inl (by simp at hc ⊢;omega))
         replace hT:=hT.ow hU;refine QD ?_;exact QT (.slice pr rs7.length kr,rs7) ⟨⟨cX,j7⟩,e4,ac,au.ext hU (by simp) (λc hc=>.inl (XX _ hc)),e3,hT⟩
       . clear ac e3 e4 hT cd cz
         as_aux_lemma=>
         rintro ⟨rv,rs7⟩ u8 ⟨⟨cX,j7⟩,e4,ac,au,e3,hT⟩;dsimp only at cX j7 e4 au;have qm:Zjk C.crrs.length (⟨a1,a2,a3,a4,rs7⟩:Atp):=⟨r1,r2,r3,r4,cX,j7⟩
         clear r1 r2 r3 r4 cX j7 hn qj cn;have dB:=λb hb=>ac.ob_le b hb;have zT8:=hT.size;have eG:=au.max;refine QO ?_;refine APG (X:=[b2,b3]) (base:=u4.heap.size) (⟨a1,a2,a3,a4,rs7⟩:Atp) ac (λb hb=>by simp at hb;omega) (by omega) ⟨rv,rfl,au⟩ (Xk (Xr _ (show as_.length+1<=10 by omega)) (by decide)) (by simp only [maxLen];omega) λv1 av' u9 aR hU gQ=>?_
         replace e3:=e3.ext hU (λh=>by have:=(dB _ h).1;omega);replace hT:=hT.own hU (λb hb=>.inr (dB b hb).1);clear hU;obtain ⟨pv,kv,rfl,-⟩:=id (Row.slv (X:=[b2,b3]) aR (λb hb=>by simp at hb;omega));refine QO ?_;refine Z8 (Zf (u:=.slice pv (as_++[(⟨a1,a2,a3,a4,rs7⟩:Atp)]).length kv) rfl rfl rfl rfl e3 (show (2:Nat)<19 by decide)) ?_;rintro _ x1 ⟨hU,e3⟩;replace e3:Blk x1 b3 49 (Jq C { R with av:=.slice pv (as_++[(⟨a1,a2,a3,a4,rs7⟩:Atp)]).length kv }):=e3;replace hT:=hT.own hU (λb hb=>.inl hb);replace aR:=aR.ext (X':=[b2,b3]) hU (λc hc=>by
          simp only [Xn] at hc;subst hc;exact ⟨by simp,λh=>by have:=(aR.ob_le _ h).1;omega⟩) (λc hc=>.inl hc)
         clear hU;refine QO ?_;exact ZF (j+1,.slice pv (as_++[(⟨a1,a2,a3,a4,rs7⟩:Atp)]).length kv,as_++[(⟨a1,a2,a3,a4,rs7⟩:Atp)]) ⟨rfl,rfl,rfl,rfl,trivial⟩ ⟨vn,by simp [ai],λz hz=>by
          rcases Xe.1 hz with h|h
          exact aK z h;simp only [Xn] at h;subst h;exact qm,aR,e3,hT⟩ qk
     . as_aux_lemma=>
       have rX:Z80 [b2,b3] lv l { C with atts:=as_ } { R with av:=av } y2:={ rU.ext hT.mn with aa:=Row.slv (X:=[b2,b3]) ac (λb hb=>by simp at hb;omega) }
       have rY:Z6d { C with atts:=as_ }:=⟨fU.fl,fU.fo,fU.en,fU.rl,fU.ro,by dsimp only;omega,aK,fU.cl,fU.co,fU.sl,fU.so,fU.cal,fU.court,fU.today⟩
       replace e3:Blk y2 b3 49 (Jq { C with atts:=as_ } { R with av:=av }):=e3;replace e2:=e2.ext hT (by simp;omega);replace hS:=hS.ow hT;generalize ({ C with atts:=as_ }:Cas)=D at *;generalize ({ R with av:=av }:Z0C)=Q at *;refine QO ?_;refine SB (us:=Jq D Q) rX.cell e2 ?_;rintro _ x2 ⟨hU,e2⟩;have iR:=rX.ext hU.mn;have ak:=hS.ow hU;refine W ?_;refine JH rfl rfl rfl e2 rfl ?_;exact .mk ⟨D,Q,rfl,⟨iR.ff.wk (by simp),iR.rr.wk (by simp),iR.aa.wk (by simp),iR.cc.wk (by simp),iR.ss.wk (by simp),⟨iR.ho.wk (by simp),iR.clo.wk (by simp),hL.up ak,hM.up ak,rY.cal.ok⟩,iR.one⟩,rY,ak,iR.zon.ext (Stp.refl [] _) (by simp) (by simp)⟩
theorem Z2k.own {w w0 W:World} {B:List Nat} {c:Cas} {R:Z0C} (hv:Z2k w c R) (h0:Stp [] w w0) (hB:∀ b∈B,w.heap.size<=b) (hS:Stp B w0 W):Z2k W c R:=hv.up (h0.own hS (λb hb=>.inr (hB b hb)))
theorem Row.low {α:Type} [Z5 α] {X:List Nat} {w} {a b T:Nat} {v:Value} {xs:List α} (h:Row X w b T v xs) (bK:a<=b):Row [] w a T v xs:=(h.lower bK).ext (Stp.refl [] w) (by simp) (by simp)
theorem ZfP (c:Cas) (R:Z0C) (w) (hv:Z2k w c R) (hs:Z4O c) :
 CC 51 #[.agg (Jq c R).toArray] w λv w'=>ZE 24 w w' v (Z2I c):=by
 have cP:=hs.fl;refine cW1 43 Tryz.func51 ?_;refine W ?_;refine BX (Stp.refl [] w) λb1 w1 h1 e1 _ hS=>?_;replace e1:Blk w1 b1 49 (Jq c R):=e1;have l1:=e1.lt;refine W ?_;refine Z0 (Z06 Z6c) rfl ?_;rintro _ w2 ⟨r,rfl,hr,hm,hT⟩;have gr:w.heap.size<=r:=Xk hS.size hr;have lr:=hm.lt;have z2:=hT.size;replace e1:=e1.up hT;replace hS:=hS.trans hT;clear hT;refine Z0 Z4 rfl ?_;rintro _ w3 ⟨b3,rfl,eD,e3,hT⟩;have z3:=hT.size;replace e1:=e1.up hT;replace hm:=hm.up hT;replace hS:=hS.trans hT;clear hT;replace e3:Blk w3 b3 160 [.map none]:=e3;refine S1 (u:=.map (some r)) e3 ?_;rintro _ w4 ⟨hT,e3⟩;have z4:=hT.size;replace e3:Blk w4 b3 160 [.map (some r)]:=e3;replace e1:=e1.ext hT (by simp;omega);replace hm:=hm.ext hT (by simp;omega);replace hS:=hS.ow hT;have l3:=e3.lt;clear hT;refine W ?_;have pT:=(hv.up hS).ff;refine W ?_
 refine Zt (σ:=Nat) (λk=>[(1,pQ b1),(3,pQ b3),(12,R.fv),(13,.I c.fcts.length),(14,.I k)])
  (λk W=>k<=c.fcts.length/\Jf Z6c W r ((c.fcts.take k).map (λf=>(f,.B true)))/\Stp [r] w4 W) (λk=>c.fcts.length - k) 0 ⟨rfl,rfl,rfl,rfl,rfl,trivial⟩ ⟨by omega,by simpa using hm,Stp.refl _ _⟩ ?_
 clear hm pT;rintro k w5 ⟨hk,hm,hT⟩;have rZ:=hv.own hS (B:=[r]) (by simpa using gr) hT;by_cases hlt:k<c.fcts.length;have ew:=rZ.ff;have e3':=e3.ext hT (by simp;omega);have hfresh:∀ x∈c.fcts.take k,x≠c.fcts[k]:=by
  have h:=hs.nd.sublist (List.take_sublist (k+1) c.fcts);rw [Xj hlt,Ybb] at h;exact λx hx=>h.2.2 x hx _ (by simp)
 refine QO ?_;refine Z0 Z4 rfl ?_;rintro _ w6 ⟨b5,rfl,iG,e5,hA⟩;refine SA (us:=Z2.enc c.fcts[k]) e5 ?_;rintro _ w7 ⟨cR,e5⟩;replace hA:=hA.ow cR;replace e3':=e3'.up hA;replace hm:=hm.up hA;refine QO ?_;refine Z8 (Z0J (a:=c.fcts[k]) rfl rfl rfl hm (λp hp=>by
  obtain ⟨x,hx,rfl⟩:=Xw.1 hp;exact hfresh x hx)) ?_
 rintro _ w8 ⟨vo,vp⟩;refine QO ?_;exact QL (k+1) ⟨hlt,by rw [Xj hlt,XH];exact vo,(hT.trans hA.mn).trans vp⟩ (by omega);obtain rfl:k=c.fcts.length:=by omega
 rw [Xs] at hm;have e1':=e1.ext hT (by simp;omega);refine QO ?_;have r8:SlV [r] w5 R.fv c.fcts:=hv.ff.ext (hS.ow hT) (by simp) (λb hb=>.inr (by simp at hb;omega))
 refine Zt (σ:=Nat×Value×Value) (λq=>[(1,pQ b1),(3,pQ b3),(6,q.2.2),(7,q.2.1),(8,.I q.1)])
  (λq W=>q.1<=16/\Jf Z6c W r ((ZD c q.1).1.map (λf=>(f,.B true)))/\Stp [r] w4 W/\SlV [r] W q.2.1 (ZD c q.1).2.1/\Row [r] W w4.heap.size 24 q.2.2 (ZD c q.1).2.2) (λq=>16 - q.1) (0,R.fv,.N) ⟨rfl,rfl,rfl,rfl,rfl,trivial⟩
  ⟨by omega,hm,hT,r8,Row.nil⟩ ?_
 clear hm hT rZ e1' r8;rintro ⟨k,nowv,ov⟩ Y ⟨hk,hm,hT,iS,ac⟩;dsimp only at hk hm hT iS ac ⊢;obtain ⟨q1,q2⟩:=Z7j hs hk;have q3:=(Z2J hs k).1;have hstop:=Z5Z c (k:=k);have df:ZD c (k+1)=(((Z1b c (ZD c k).2.1).foldl (Z03 c) ((ZD c k).1,[])).1,((Z1b c (ZD c k).2.1).foldl (Z03 c) ((ZD c k).1,[])).2,(ZD c k).2.2++((Z1b c (ZD c k).2.1).foldl (Z03 c) ((ZD c k).1,[])).2):=rfl;generalize r9:ZD c k=S at *;obtain ⟨kn,now,out⟩:=S;dsimp only at *;have dG:=λb hb=>ac.ob_le b hb;have zT:=hT.size;have se:=iS.max;by_cases iy:k<16/\0<now.length;obtain ⟨g1,g2⟩:=iy;have vr:SlV [] Y nowv now:=iS.ext (Stp.refl [] Y) (by simp) (by simp);have f1:=e1.ext hT (by simp;omega);have f3:=e3.ext hT (by simp;omega);refine QO ?_;refine Z0 Z4 rfl ?_;rintro _ wA ⟨b9,rfl,gH,e9,hA⟩;replace e9:Blk wA b9 35 [.N]:=e9;have zA:=hA.size;have l9:=e9.lt;replace f1:=f1.up hA;replace f3:=f3.up hA;replace hm:=hm.up hA;have sf:=hT.trans hA.mn;have vu:Stp [] w wA:=hS.ow sf;have sg:SlV [r,b9] wA nowv now:=iS.ext hA (by simp) (λb hb=>by
  simp only [Xa,Xo,or_false] at hb;rcases hb with rfl|rfl
  exact .inl (by simp);exact .inr gH)
 have vw:Row [r,b9] wA w4.heap.size 24 ov out:=ac.ext hA (by simp) (λb hb=>by
  simp only [Xa,Xo,or_false] at hb;rcases hb with rfl|rfl
  exact .inl (by simp);exact .inr gH)
 clear vr hA;refine QO ?_;have bH:∀ Y',Stp [r,b9] wA Y'->Z2k Y' c R:=λY' h=>hv.own vu (B:=[r,b9]) (by simp;omega) h
 have hK:Zng ⟨c,R,wA,b1,b3,r,b9,kn⟩:=⟨⟨by dsimp only;omega,by dsimp only;omega⟩,⟨by dsimp only;omega,by dsimp only;omega⟩,by dsimp only;omega,by dsimp only;omega,by dsimp only;omega,by dsimp only;omega,l9,f1,f3,λY' h=>(bH Y' h).rr⟩
 have eC:=Zbh (ZcY _ hK) c R nowv now [r,b9] wA hs.ok bH (λY' h=>sg.ext h (λb hb=>hb) (by simp)) q3 (λj hj i hi ht=>⟨hi,by
  obtain ⟨o1,o2,o3⟩:=Z6u hs.ok (q3 _ (Xc hj)) ht;have:=(q3 _ (Xc hj)).day;rw [o1];omega,by
  have a1:=Z4N c (now.take j);have a2:=Z4M c now[j] i;have a3:=hs.rl;have a4:=YaV (show (now.take j).length<=70000000000 by rw [Xz];omega) a3;rw [Xb];omega⟩) ⟨⟨.N,rfl,e9,Row.nil⟩,hm,Stp.refl _ _⟩
 refine CL eC ?_;rintro _ W2 ⟨F,⟨⟨nv,rfl,e9,qn⟩,hm,nP⟩,-,-⟩;dsimp only at qn hm e9 nP;clear eC hK bH sg;have xp:=Z8z c hs.rl now kn;generalize (Z1b c now).foldl (Z03 c) (kn,[])=T at *;have gI:=λb hb=>qn.ob_le b hb;have zS:=nP.size;have vx:Row [r] W2 w4.heap.size 24 ov out:=vw.ext nP (λb hb=>⟨hb,λh=>by have:=dG b h;simp at hb;omega⟩) (λb hb=>.inl (by simp at hb;simp [hb]));have qo:Row (ob ov++[r]) W2 wA.heap.size 24 nv T.2:=Z2h qn;have dW:SlV (ob ov++[r]) W2 nv T.2:=qo.slv (λb hb=>by
  rcases Xe.1 hb with h|h
  have:=dG b h;omega;simp at h;omega)
 refine QO ?_;refine Z0 (ZA (α:=Fct) (X:=[r]) (base:=w4.heap.size) rfl (by decide) rfl rfl vx dW (Xk (Xr _ (show out.length+T.2.length<=600000000000 by omega)) (by decide)) (by simp only [maxLen];omega) (by omega)) rfl ?_;rintro ov' W3 ⟨cX,cH,dB⟩;replace e9:=e9.ext cH (λh=>by have:=dG _ h;omega);refine QO ?_;refine QL (k+1,nv,ov') ⟨by dsimp only;omega,?_,?_,?_,?_⟩ (by dsimp only;omega);rw [df];exact hm.ext cH (λh=>by have:=dG _ h;omega);exact (sf.own nP (λb hb=>by
  simp only [Xa,Xo,or_false] at hb;rcases hb with rfl|rfl
  exact .inl (by simp);exact .inr (by omega))).own cH (λb hb=>.inr (dG b hb).1)
 rw [df];exact dW.ext cH (λb hb=>by simp [hb]) (λb hb=>.inl (by simp at hb;simp [hb]));rw [df];exact cX
 . have qp:out=(ZD c 16).2.2:=by
    by_cases fB:k=16;rw [fB] at r9;rw [r9];have hn:now=[]:=XQ.1 (by omega);have:=(hstop hn (16 - k)).1;rw [show k+(16 - k)=16 by omega] at this;exact this.symm
   have o5:out.length<=400000000000:=by omega
   clear hstop df;repeat'(first|refine W1 ?_|omega|refine VG ?_ ?_<;>intro hg|refine VC ?_ ?_<;>intro hc)
   all_goals
    refine CL (Z5Y ac o5) ?_;rintro _ W2 ⟨rfl,cw,ax⟩;refine W ?_;refine WR ?_;refine .mk ?_;rw [qp] at cw;exact ⟨Row.low cw (by have:=hS.size;omega),(hS.ow hT).own ax (λb hb=>.inr (by have:=dG b hb;have:=hS.size;omega))⟩
end Go.Proofs.YteibicnbkggiiaaGreatDoor
namespace Go.Eng
open Go Go.RowKit
variable {P:Program} {n:Nat} {e:Env} {w:World} {d:Option Nat} {ty:TypeId} {pos:String} {af:Array Edge} {g:Option (Nat×Bool)}
theorem Zjm {t tn T bytes k m:Nat} {kn:IntKind} {x y:Operand} {z:Value} [ht:Und P t (.slice T)] [hn:Und P tn (.int kn)] [hk:Siz P T m] [hb:Byt P T bytes] [hz:Zer P T z] (dw:z.cells.size=m) (hm:0<m)
 (hx:ev e x=some (.N)) (hy:ev e y=some (.I (k:Int))) (h0:0<k) (fI:k<=maxLen) (hbytes:k * bytes<=140737488355328) :
 OE P n ⟨d,.call { callee:=.builtin .append,args:=#[x,y],argTypes:=#[t,tn] },ty,pos,af,g⟩ e w
  (λv w'=>∃ c,v=.slice (some ⟨w.heap.size,0,none⟩) k c/\w'.ownsRow w.heap.size T m (.slice (some ⟨w.heap.size,0,none⟩) 0 c) 0 []/\Stp [] w w'):=by
 obtain ⟨i,hi,cg,bI,fj⟩:∃ i,P.info? T=some i/\i.size=m/\i.bytes=bytes/\i.zero=some z:=by
  have a1:=hk.h;have a2:=hb.h;have a3:=hz.h;cases hi:P.info? T with
  | none=>simp [hi] at a1
  | some i=>exact ⟨i,rfl,by simpa [hi] using a1,by simpa [hi] using a2,by simpa [hi] using a3⟩
 have aJ:=Go.Lib.run_append_nil_zeros (P:=P) w t tn ty T i z .i64 kn ht.h hn.h hi fj k h0 (by omega) (by simp [maxLen] at fI;omega) (by rw [bI];omega);have jJ:=grownCap_ge w k 0 T;have br:(Builtin.zeroCells z.cells k++Builtin.zeroCells z.cells (grownCap w k 0 T - k)).size=grownCap w k 0 T * m:=by
  rw [Array.size_append,size_zeroCells,size_zeroCells,dw,<- Yb1];congr 1;omega
 refine Zv (v:=.slice (some ⟨w.heap.size,0,none⟩) k (grownCap w k 0 T)) (w':=w.drew.alloc (.cells (Builtin.zeroCells z.cells k++Builtin.zeroCells z.cells (grownCap w k 0 T - k)) T)) (λa ha=>?_) ⟨_,rfl,World.ownsRow_made w.drew _ _ (Xq _) (grownCap_le_maxLen w k 0 T fI) br,(Stp.drew [] w).trans (Stp.alloc [] _ _)⟩;simp [execOp,resolve,invoke,builtin,ha.ev hx,ha.ev hy,aJ]
end Go.Eng
namespace Go.Proofs.YteibicnbkggiiaaGreatDoor
open Go Go.Eng Go.RowKit
theorem ZfQ (k:Nat) (w) (hk:k<=1000000000000):CC 87 #[.N,.I (k:Int)] w λr w'=>ZE 24 w w' r ([]:List Fct):=by
 refine cW2 27 Tryz.func87 ?_;refine W ?_;have h0:SlV (α:=Fct) [] w (.N) []:=Zi _ _;have cm:([]:List Fct).length=0:=rfl;repeat'(first|refine W1 ?_|omega|refine VG ?_ ?_<;>intro hg|refine VC ?_ ?_<;>intro hc)
 apply Za (Z6O rfl) rfl;by_cases fw:k=0;subst fw;refine QO ?_;refine WR ?_;exact .mk ZE.nil;refine QO ?_;apply Za (Z6O rfl) rfl;apply Za (Z6P rfl rfl) rfl;refine W ?_;refine Z0 (Zjm (m:=6) (k:=k) rfl (by decide) rfl rfl (by omega) (by simp [maxLen];omega) (by omega)) rfl ?_;rintro _ w1 ⟨c,rfl,bF,hS⟩;replace h0:=h0.up hS;have hr:ZE 24 w w1 (.slice (some ⟨w.heap.size,0,none⟩) 0 c) ([]:List Fct):=⟨⟨[],rfl,λi h=>absurd h (Xy _),bF⟩,hS⟩
 refine W ?_;apply Za (Z8g rfl rfl) rfl;refine W ?_;refine WR ?_;exact .mk hr
theorem Zbr (v:Value) (xss:List (Sl Fct)) (w) (hs:SlV [] w v xss) (hl:xss.length<=1000) (ai:(xss.flatMap Sl.l).length<=1000000000000):CC 50 #[v] w λr w'=>ZE 24 w w' r (xss.flatMap Sl.l):=by
 have bQ:∀ j,((xss.take j).flatMap Sl.l).length<=(xss.flatMap Sl.l).length:=λj=>by
  rw [<- XN j xss,YaC,Xb];simp only [XN];have:(xss.take j).flatMap Sl.l=((xss.take j++xss.drop j).take j).flatMap Sl.l:=by rw [XN]
  omega
 have hstep:∀ j (h:j<xss.length),(xss.take (j+1)).flatMap Sl.l=(xss.take j).flatMap Sl.l++xss[j].l:=λj h=>by
  rw [Xj h,YaC];simp
 refine cW1 36 Tryz.func50 ?_;refine W ?_;refine Z0b (σ:=Unit) (λ_=>[(0,v),(3,.I ((xss.flatMap Sl.l).length:Int))]) (λ_ w'=>w'=w) ?_ ?_;refine LP (σ:=Nat) (λj=>[(0,v),(9,v),(10,.I (xss.length:Int)),(3,.I (((xss.take j).flatMap Sl.l).length:Int)),(11,.I (j:Int))]) (λj w'=>j<=xss.length/\w'=w) (λj=>xss.length - j) 0 ⟨Xu _,rfl⟩ ?_;rintro j w2 ⟨hj,rfl⟩;by_cases hlt:j<xss.length;obtain ⟨u,am,eE⟩:=hs.sub hlt;have mY:=eE.max;have h1:=bQ j;have h2:=bQ (j+1);have h3:=hstep j hlt;have h4:((xss.take (j+1)).flatMap Sl.l).length=((xss.take j).flatMap Sl.l).length+xss[j].l.length:=by rw [h3,Xb]
 refine QO ?_;apply Za (Jd rfl rfl am) rfl;refine QO ?_;refine ZF (j+1) ⟨rfl,rfl,rfl,by rw [h4,YbD];rfl,rfl,trivial⟩ ⟨hlt,rfl⟩ (by omega);have eQ:j=xss.length:=by omega
 subst eQ;rw [Xs];refine QO ?_;exact QT () rfl;rintro _ w2 rfl;refine W ?_;refine CM (Zh rfl rfl) (ZfQ _ _ (by omega)) ?_;rintro g w3 hr;refine W ?_;have eh:=hs.up hr.2;refine W ?_;refine LP (σ:=Nat×Value) (λq=>[(6,q.2),(25,v),(26,.I (xss.length:Int)),(27,.I (q.1:Int))]) (λq w'=>q.1<=xss.length/\ZE 24 w2 w' q.2 ((xss.take q.1).flatMap Sl.l)) (λq=>xss.length - q.1) (0,g) ⟨Xu _,by simpa using hr⟩ ?_;clear hr eh;rintro ⟨j,g⟩ w4 ⟨hj,hr⟩;dsimp only at hj hr ⊢;by_cases hlt:j<xss.length;have dy:SlV (ob g) w4 v xss:=hs.ext hr.2 (by simp) (λb hb=>.inr (hr.ob_le b hb).1);obtain ⟨u,am,eE⟩:=dy.sub hlt;have h1:=bQ j;have h2:=bQ (j+1);have h3:=hstep j hlt;have h4:((xss.take (j+1)).flatMap Sl.l).length=((xss.take j).flatMap Sl.l).length+xss[j].l.length:=by rw [h3,Xb]
 refine QO ?_;apply Za (Jd rfl rfl am) rfl;refine QO ?_;refine Z0 (Z01 rfl (by decide) rfl rfl hr eE (by omega) (by simp only [maxLen];omega)) rfl ?_;rintro g' w5 ⟨bB,-,-⟩;refine W ?_;exact QL (j+1,g') ⟨hlt,by dsimp only;rw [h3];exact bB⟩ (by dsimp only;omega);have eQ:j=xss.length:=by omega
 subst eQ;rw [Xs] at hr;refine QO ?_;refine WR ?_;exact .mk hr
def Z42 (c:Cas):List Dln:=(Z1b c (Z4K (c.fcts++Z2I c))).map Prod.fst
structure DlJ (w0:World) (b:Nat) (pre:List DI) (F:List Nat) (W:World):Prop where
 ex:∃ nv,F=b :: ob nv/\Blk W b 63 [nv]/\Row [b] W w0.heap.size 70 nv (pre.map Prod.fst)
 stp:Stp [b] w0 W
 lt:b<w0.heap.size
theorem ZfR (w0:World) (b:Nat) (dF:b<w0.heap.size):Yld (.func (.func 54) #[] #[pQ b]) 54 #[pQ b] (DlJ w0 b) (λpre d i=>pre.length<=900000000000):=by
 refine ⟨rfl,?_,?_,?_⟩;rintro pre F Y ⟨⟨nv,rfl,e,ac⟩,hS,hb⟩ x hx;have:=hS.size;simp only [Xa] at hx;rcases hx with rfl|hx
 omega;exact (ac.ob_le x hx).2;rintro pre F Y Y' ⟨⟨nv,rfl,e,ac⟩,hS,hb⟩ hT;exact ⟨⟨nv,rfl,e.up hT,ac.up hT⟩,hS.trans hT.mn,hb⟩;rintro pre F d dv i Y ⟨⟨nv,rfl,e,ac⟩,hS,hb⟩ au fu;have dG:=λx hx=>ac.ob_le x hx;have zS:=hS.size;have iM:=au.one;refine cW3 9 Tryz.func54 ?_;refine W ?_;refine BX (Stp.refl [] Y) λb3 w1 h3 e3 hT _=>?_;replace e3:Blk w1 b3 70 (dlC d dv):=e3;replace e:=e.up hT;replace ac:=ac.up hT;have zT:=hT.size;have iN:SlV (ob nv++[b]) w1 dv d.reas:=au.ext hT (by simp) (λx hx=>by
  rcases Xe.1 hx with h|h
  exact .inl (by simp [h]);exact .inl (by simp at h;simp [h]))
 refine W ?_;refine APG (X:=[b]) (base:=w0.heap.size) (cs:=dlC d dv) d ac (λx hx=>by simp at hx;omega) (by omega) ⟨dv,rfl,iN⟩ (by rw [XB];exact Xk (Xr _ (show pre.length+1<=900000000001 by omega)) (by decide)) (by rw [XB];simp only [maxLen];omega) λv1 nv' w2 cw ax aN=>?_
 have eb:b<w1.heap.size:=e.lt;replace e:=e.ext ax (λh=>by have:=dG _ h;omega);refine W ?_;have mD:SlV [b] w2 nv' (pre.map Prod.fst++[d]):=cw.slv (λx hx=>by simp at hx;omega);refine Z8 (Zf (u:=nv') rfl rfl mD.cells mD.one e (by simp)) ?_;rintro _ w3 ⟨cH,e⟩;refine W ?_;refine WR ?_;have gI:=λx hx=>cw.ob_le x hx;have mE:Stp (b :: ob nv) w1 w3:=(ax.mono (λx hx=>by simp [hx])).trans cH.mn;refine .mk ⟨b :: ob nv',⟨⟨nv',rfl,e,?_⟩,?_,hb⟩,hT.mn.trans mE,λx hx=>?_⟩;rw [XH];exact cw.ext cH (λx hx=>⟨hx,λh=>by have:=gI x h;simp at hx;omega⟩) (λx hx=>.inl hx);exact (hS.trans hT.mn).own mE (λx hx=>by
  rcases Xa.1 hx with rfl|hx
  exact .inl (by simp);exact .inr (dG x hx).1)
 rcases Xa.1 hx with rfl|hx
 exact .inl (by simp);rcases aN x hx with h|h
 exact .inl (by simp [h]);exact .inr (by omega)
theorem Zd3 {c:Cas} (h:Z4O c):(Z2I c).length<=92000000000:=by
 unfold Z2I;rw [(JU _).length_eq];exact (Z7j h (Xq _)).2
theorem Z7r {c:Cas} (h:Z4O c):∀ f∈Z2I c,Z0D f:=λf hf=>(Z2J h 16).2 f ((JU _).mem_iff.1 hf)
theorem Zmw (p q:Option Addr) (l m c d:Nat) (w):(Instr.buildSlice 158 2 #[(0,.slice p l c),(1,.slice q m d)]).run Tryz.prog w=.ok (.slice (some ⟨w.heap.size,0,none⟩) 2 2) (w.alloc (.cells #[.slice p l c,.slice q m d] 35)):=by kernel_rfl
theorem Zbs {α:Type} [Z5 α] {X:List Nat} {w} {v:Value} {xs:List α} (h:SlV X w v xs):∃ p c,v=.slice p xs.length c:=by
 obtain ⟨p,c,h,_⟩:=h;exact ⟨p,c,h⟩
theorem Z0S (c:Cas) (R:Z0C) (w) (hv:Z2k w c R) (hs:Z4O c) :
 CC 14 #[.agg (Jq c R).toArray] w λv w'=>Row [] w' w.heap.size 70 v (Z42 c)/\Stp [] w w':=by
 have cP:=hs.fl;have jl:=Zd3 hs;refine cW1 18 Tryz.func14 ?_;refine W ?_;refine BX (Stp.refl [] w) λb1 w1 h1 e1 _ hS=>?_;replace e1:Blk w1 b1 49 (Jq c R):=e1;refine W ?_;refine ZDr 7 [] [] [(0,0),(1,1),(2,1),(3,2),(4,2),(5,2),(6,0)] (λw1 ae=>?_);replace e1:=e1.up ae;replace hS:=hS.trans ae;clear ae;refine D ?_;refine DC (ZfP c R _ (hv.up hS) hs) (λ_ _ h=>h.2) ?_;rintro fv w2 hr;have dp:Z42 c=(Z1b c (Z4K (c.fcts++Z2I c))).map Prod.fst:=rfl;have pF:=Z7r hs;generalize Z2I c=G at *;have ak:=hS.trans hr.2;replace e1:=e1.up hr.2;have ew:=(hv.up ak).ff;have mG:SlV [] w2 fv (G):=hr.slv (by simp);obtain ⟨p1,c1,iH⟩:=Zbs ew;obtain ⟨p2,c2,jh⟩:=Zbs mG;rw [iH,jh];rw [iH] at ew;rw [jh] at mG;refine Z9 rfl trivial (Z1 (vs:=[(0,.slice p1 c.fcts.length c1),(1,.slice p2 (G).length c2)]) rfl (Zmw _ _ _ _ _ _)) (λ_ _ h=>Z6.stp h) rfl ?_;rintro v3 w3 hN;have jo:SlV [] w3 v3 [(⟨c.fcts⟩:Sl Fct),⟨G⟩]:=hN.slvS (by simp) rfl rfl (λi hi be=>by
  match i,hi with
  | 0,_=>exact ew
  | 1,_=>exact mG) (by simp [maxLen])
 have hT:=Z6.stp hN;replace e1:=e1.up hT;have z13:=e1.lt;replace ak:=ak.trans hT;have cz:=Zbr v3 _ w3 jo (by simp) (by simp;omega);rw [show [(⟨c.fcts⟩:Sl Fct),⟨G⟩].flatMap Sl.l=c.fcts++G by simp] at cz;refine DC cz (λ_ _ h=>h.2) ?_;rintro lv w4 hl;refine D ?_;replace e1:=e1.up hl.2;have z1:=e1.lt;replace ak:=ak.trans hl.2;have lX:=λb hb=>hl.ob_le b hb;have z3:=(hS.trans hr.2).size;have z3':=hT.size;clear ew mG hN hT jo cz hr hS;refine W ?_;refine CM (Zh rfl rfl) (Z5Y hl.1 (by rw [Xb];omega)) ?_;rintro _ w5 ⟨rfl,nN,dR⟩;have nj:b1∉ob lv:=λh=>by have:=lX _ h;omega
 replace e1:=e1.ext dR nj;have aC:Stp [] w w5:=ak.own dR (λb hb=>.inr (by have:=lX b hb;omega));generalize hL:Z4K (c.fcts++G)=L at *;have xq:L.length<=92000000016:=by rw [<- hL,(JU _).length_eq,Xb];omega
 have vy:∀ f∈L,Z0D f:=λf hf=>by
  rw [<- hL,(JU _).mem_iff] at hf;rcases Xe.1 hf with h|h
  exact hs.fo f h;exact pF f h
 refine W ?_;refine Z0 Z4 rfl ?_;rintro _ w6 ⟨b4,rfl,bE,e4,iL⟩;replace e4:Blk w6 b4 63 [.N]:=e4;have z4:=e4.lt;replace e1:=e1.up iL;have cG:=aC.trans iL;have au:SlV [b4] w6 lv L:=SlV.ext (X:=[]) (nN.slv (by simp)) iL (by simp) (λx hx=>.inr (by simp at hx;omega));have g4:w.heap.size<=b4:=by have:=aC.size;omega
 refine W ?_;have eC:=Zbh (ZfR w6 b4 z4) c R lv L [b4] w6 hs.ok (λY hY=>hv.own cG (B:=[b4]) (by simpa using g4) hY) (λY hY=>au.ext hY (λx hx=>hx) (by simp)) vy (λj hj i hi ht=>by
  have a1:=Z4N c (L.take j);have a2:=Z4M c L[j] i;have a3:=hs.rl;have a4:=YaV (show (L.take j).length<=220000000000 by rw [Xz];omega) a3;rw [Xb];omega) ⟨⟨.N,rfl,e4,Row.nil⟩,Stp.refl _ _,z4⟩
 refine CL eC ?_;rintro _ w7 ⟨F,⟨⟨nv,rfl,e4',ac⟩,aQ,-⟩,-,-⟩;refine W ?_;refine WR ?_;refine .mk ⟨?_,cG.ow aQ⟩;rw [dp];exact Row.low ac (by have:=cG.size;omega)
open Go Go.Eng Go.RowKit Go.Proofs
theorem Zjn {q:Cr} (h:chkC q=0):Z1y q.cnd=(2,0)/\Z1y q.due=(3,0):=by
 unfold chkC at h;split at h;cases h;rename_i hb;unfold Z0e at hb;simp only [YaZ,decide_eq_true_eq,not_or,Decidable.not_not] at hb;obtain ⟨⟨⟨⟨⟨⟨⟨⟨⟨a1,a2⟩,a3⟩,a4⟩,-⟩,-⟩,-⟩,-⟩,-⟩,-⟩:=hb;exact ⟨Prod.ext a3 a1,Prod.ext a4 a2⟩
theorem Z62.lt {l:List Fct} (h:Z62 l) {i j:Nat} (hi:i<j) (hj:j<l.length):(l[i]'(by omega)).entry<l[j].entry:=by
 have h1:=h i (by omega);have h2:=h j hj;omega
theorem Z62.nodup {l:List Fct} (h:Z62 l):l.Nodup:=by
 unfold List.Nodup;rw [XZ];intro i j hi hj bR e;have:=h.lt bR hj;rw [e] at this;omega
theorem Z6d.att {c:Cas} (h:Z6d c):ZlZ c.atts c.crrs:=by
 have eC:=h.al;refine ⟨by omega,λa ha=>?_,λa ha=>(h.ao a ha).crr,λa ha=>?_⟩;have hx:=h.ao a ha;have hl:=hx.len;exact ⟨by omega,λr hr=>(hx.rets r hr).crr,λx hx=>(h.co x hx).tol,λr hr=>⟨(hx.rets r hr).lo.1,(hx.rets r hr).lo.2,(hx.rets r hr).hi.1,(hx.rets r hr).hi.2⟩⟩;have:=(h.ao a ha).sent;omega
theorem Z6d.cas {c:Cas} (h:Z6d c):Z4O c:=by
 have cP:=h.fl;have jM:=h.rl;have au:=h.sl;have qe:=h.court;have vk:=h.today;have hv:∀ q∈c.ruls,Z1y q.cnd=(2,0)/\Z1y q.due=(3,0):=λq hq=>by
  obtain ⟨r,-,hr,rfl⟩:=h.ro q hq;exact Zjn (Zbp r.rul hr).2
 refine ⟨⟨by omega,by omega,λq hq=>(hv q hq).1,λq hq=>(hv q hq).2,h.att,λx hx=>(h.co x hx).ext,⟨by omega,λs hs=>⟨(h.so s hs).lo,(h.so s hs).le,(h.so s hs).hi⟩⟩,by omega,by omega⟩,by omega,jM,λf hf=>(h.fo f hf).ok,h.en.nodup⟩
def ltr (i:Nat) (c:Int):Prop:=(97<=c/\c<=122)\/(48<=c/\c<=57/\i≠0)
instance (i:Nat) (c:Int):Decidable (ltr i c):=by unfold ltr;infer_instance
def Z2R (s:Str):Bool:=decide ((∀ i,i<s.length->ltr i (J5 s i))/\s≠[]/\s.length<=12)
theorem Zjo (s:Str) (w) (hm:(s.length:Int)<=maxLen):CC 139 #[str s] w λr w'=>r=.B (Z2R s)/\Stp [] w w':=by
 simp only [maxLen] at hm;refine cW1 49 Tryz.func139 ?_;refine W ?_;refine LP (σ:=Nat) (λi=>[(0,str s),(7,.I (s.length:Int)),(8,.I (i:Int))]) (λi w'=>i<=s.length/\Stp [] w w'/\∀ j,j<i->ltr j (J5 s j)) (λi=>s.length - i) 0 ⟨Xu _,Stp.refl _ _,λj h=>absurd h (Xy _)⟩ ?_;rintro i w2 ⟨hi,hS,aD⟩
 try dsimp only at hi aD ⊢
 by_cases mU:¬ s.length<=i
 . have aY:¬ ltr i (J5 s i)->Z2R s=false:=λh=>decide_eq_false (λk=>h (k.1 i (by omega)))
   have cx:ltr i (J5 s i)->∀ j,j<i+1->ltr j (J5 s j):=λh j hj=>by
    by_cases e:j=i;subst e;exact h;exact aD j (by omega)
   generalize gX:J5 s i=b at aY cx;have eR:(97<=b/\b<=122)->ltr i b:=.inl;have dJ:(48<=b/\b<=57/\i≠0)->ltr i b:=.inr;have gz:¬ (97<=b/\b<=122)->¬ (48<=b/\b<=57/\i≠0)->¬ ltr i b:=λh1 h2 h=>h.elim h1 h2;subst gX;by_cases c1:97<=J5 s i;all_goals by_cases c2:J5 s i<=122
   all_goals by_cases c3:48<=J5 s i
   all_goals by_cases c4:J5 s i<=57
   all_goals by_cases c5:(i:Int)=0
   all_goals try omega
   all_goals
    refine QO ?_;refine ZDr 22 [] [] [(0,0),(1,0),(2,0),(3,0),(4,0),(5,0),(6,0),(7,0),(8,0),(9,0),(10,0),(11,0),(12,0),(13,0),(14,0),(15,0),(16,0),(17,0),(18,0),(19,0),(20,0),(21,0)] (λw1 ae=>?_);have aL:=hS.trans ae;refine QD ?_;refine QO ?_
   all_goals first
    | exact QL (i+1) ⟨by omega,aL,cx (by first|exact eR ⟨c1,c2⟩|exact dJ ⟨c3,c4,by omega⟩)⟩ (by omega)
    | (refine RU ?_
       exact ⟨by rw [aY (gz (by omega) (by omega))],aL⟩)
 obtain rfl:i=s.length:=by omega
 by_cases h0:s=[]
 subst h0;refine RT ?_;exact ⟨rfl,hS⟩;by_cases iC:s.length<=12
 . (refine QP ?_ ?_<;>intro hg)
   all_goals try contradiction
   all_goals
    refine RU ?_;exact ⟨by rw [show Z2R s=true from decide_eq_true ⟨aD,h0,iC⟩,decide_eq_true (by omega)],hS⟩
 . (refine QP ?_ ?_<;>intro hg)
   all_goals try contradiction
   all_goals
    refine RU ?_;exact ⟨by rw [show Z2R s=false from decide_eq_false (λh=>iC h.2.2),decide_eq_false (by omega)],hS⟩
theorem Z7s (n m:Int) (w):CC 93 #[.I n,.I m] w λr w'=>r=.B (decide (0<=n/\n<m))/\Stp [] w w':=by
 refine cW2 12 Tryz.func93 ?_
 (refine QP ?_ ?_<;>intro hg)
 refine RU ?_;exact ⟨by congr 1;rw [decide_eq_decide];exact ⟨λh=>⟨by omega,h⟩,λh=>h.2⟩,Stp.refl _ _⟩;refine RU ?_;exact ⟨by congr 1;symm;exact decide_eq_false (λh=>by omega),Stp.refl _ _⟩
def VOk (f:Fct):Prop:=(0<=f.entry/\f.entry<65536)/\Z2R f.kind=true/\(0<=f.day/\f.day<3652059)/\(0<=f.by_/\f.by_<64)/\(0<=f.to_/\f.to_<64)/\-2147483647<=f.amt/\f.amt<=2147483647
instance (f:Fct):Decidable (VOk f):=by unfold VOk;infer_instance
theorem Z8F (f:Fct) (w) (hm:(f.kind.length:Int)<=maxLen):CC 94 #[aG f] w λr w'=>r=.B (decide (VOk f))/\Stp [] w w':=by
 refine cW1 36 Tryz.func94 ?_;refine W ?_;refine BX (Stp.refl [] w) λb1 w1 h1 e1 _ hS=>?_;replace e1:Blk w1 b1 24 (Z2.enc f):=e1;refine QO ?_;refine CP hS (Z7s f.entry 65536 _) λw3 hT hS=>?_;replace e1:=e1.up hT;clear hT;by_cases h0:(0<=f.entry/\f.entry<65536)
 rotate_left
 rw [decide_eq_false h0];refine RT ?_;exact ⟨by rw [decide_eq_false (λh=>h0 (h.1))],hS⟩;rw [decide_eq_true h0];refine QO ?_;refine CP hS (Zjo f.kind _ hm) λw4 hT hS=>?_;replace e1:=e1.up hT;clear hT;by_cases h1:(Z2R f.kind=true)
 rotate_left
 rw [Ybe.2 h1];refine RT ?_;exact ⟨by rw [decide_eq_false (λh=>h1 (h.2.1))],hS⟩;rw [h1];refine QO ?_;refine CP hS (Z7s f.day 3652059 _) λw5 hT hS=>?_;replace e1:=e1.up hT;clear hT;by_cases h2:(0<=f.day/\f.day<3652059)
 rotate_left
 rw [decide_eq_false h2];refine RT ?_;exact ⟨by rw [decide_eq_false (λh=>h2 (h.2.2.1))],hS⟩;rw [decide_eq_true h2];refine QO ?_;refine CP hS (Z7s f.by_ 64 _) λw6 hT hS=>?_;replace e1:=e1.up hT;clear hT;by_cases h3:(0<=f.by_/\f.by_<64)
 rotate_left
 rw [decide_eq_false h3];refine RT ?_;exact ⟨by rw [decide_eq_false (λh=>h3 (h.2.2.2.1))],hS⟩;rw [decide_eq_true h3];refine QO ?_;refine CP hS (Z7s f.to_ 64 _) λw7 hT hS=>?_;replace e1:=e1.up hT;clear hT;by_cases h4:(0<=f.to_/\f.to_<64)
 rotate_left
 rw [decide_eq_false h4];refine RT ?_;exact ⟨by rw [decide_eq_false (λh=>h4 (h.2.2.2.2.1))],hS⟩;rw [decide_eq_true h4]
 (refine QP ?_ ?_<;>intro hg)
 all_goals
  refine RU ?_;exact ⟨by
   congr 1;symm
   first
    | (rw [decide_eq_decide];exact ⟨λh=>by have:=h.2.2.2.2.2;omega,λh=>⟨h0,h1,h2,h3,h4,by omega,by omega⟩⟩)
    | exact decide_eq_false (λh=>by have:=h.2.2.2.2.2;omega),hS⟩
abbrev mkI (a:Int):Value:=.I a
structure Vr0 where
 f:Fct
instance:Z2 Vr0 where
 k:=8
 enc:=λx=>.I 0 :: .B false :: Z2.enc x.f
 len:=λ_=>rfl
 one:=by
  intro x u hu;rcases Xa.1 hu with rfl|hu
  rfl;rcases Xa.1 hu with rfl|hu
  rfl;exact Z2.one x.f u hu
abbrev Zd4 (f:Fct):Int:=if VOk f then 0 else 5
theorem Zjp (r:Nat) (f:Fct) (w) (hm:(f.kind.length:Int)<=maxLen) (hr:Jf mkI w r []) :
 CC 57 #[.map (some r),aG (⟨f⟩:Vr0),.I 0] w λv w'=>v=.I (Zd4 f)/\Stp [r] w w':=by
 have lr:=hr.lt;refine cW3 50 Tryz.func57 ?_;refine W ?_;refine BX (Stp.refl [] w) λb1 w1 h1 e1 _ hS=>?_;replace e1:Blk w1 b1 60 (Z2.enc (⟨f⟩:Vr0)):=e1;replace hr:=hr.up hS;refine QO ?_;refine Za (Zj rfl rfl e1 (us:=Z2.enc f) rfl rfl) rfl ?_;refine W ?_;refine CP hS (Z8F f _ hm) λw2 hT hS=>?_;replace e1:=e1.up hT;replace hr:=hr.up hT;clear hT;unfold Zd4;by_cases hv:VOk f
 rotate_left
 rw [decide_eq_false hv,if_neg hv];refine RT ?_;exact ⟨rfl,hS.mn⟩;rw [decide_eq_true hv,if_pos hv];refine QO ?_;refine Z8 (Z0J (a:=f.entry) rfl rfl rfl hr (by simp)) ?_;rintro _ w3 ⟨gM,hT⟩;refine RT ?_;exact ⟨rfl,hS.mn.trans hT⟩
theorem Zmx (v:Value) (f:Fct) (w) (hm:(f.kind.length:Int)<=maxLen) (hs:SlV [] w v [(⟨f⟩:Vr0)]) :
 CC 56 #[v] w λr w'=>∃ p q,r=.tuple #[p,q,.I (Zd4 f)]/\Stp [] w w':=by
 refine cW1 29 Tryz.func56 ?_;refine W ?_;refine Z0 (Z06 mkI) rfl ?_;rintro _ w1 ⟨r,rfl,gr,gB,hS⟩;replace hs:=hs.up hS;refine W ?_;have cm:0 < [(⟨f⟩:Vr0)].length:=by simp
 refine Zt (σ:=Nat) (λk=>[(0,v),(5,.map (some r)),(6,.I 0),(11,v),(12,.I 1),(13,.I (k:Int))])
  (λk W=>k<=1/\(k=0->W=w1)/\(k=1->VOk f)/\Stp [] w W) (λk=>1 - k) 0 ⟨rfl,rfl,rfl,rfl,rfl,rfl,trivial⟩ ⟨by decide,λ_=>rfl,by simp,hS⟩ ?_
 rintro k w2 ⟨hk,fw,bp,ak⟩;have bY:k=0\/k=1:=by omega
 rcases bY with rfl|rfl
 obtain rfl:=fw rfl;clear fw bp ak;have lr:=gB.lt;refine QO ?_;refine Z0 Z4 rfl ?_;rintro _ w3 ⟨b8,rfl,eZ,e8,hT⟩;refine SA (us:=Z2.enc (⟨f⟩:Vr0)) e8 ?_;rintro _ w4 ⟨hU,e8⟩;replace hT:=hT.ow hU;replace gB:=gB.up hT;have aF:=hS.trans hT;have l8:=e8.lt;have n8:b8≠r:=by omega
 clear hU;refine QO ?_;refine CL (Zjp r f _ hm gB) ?_;rintro _ w5 ⟨rfl,hU⟩;replace e8:=e8.ext hU (by simpa using n8);have aC:Stp [] w w5:=aF.ow hU;unfold Zd4;by_cases hv:VOk f;rw [if_pos hv];refine QO ?_;exact QL 1 ⟨Xq _,by simp,λ_=>hv,aC⟩ (by decide);rw [if_neg hv];refine RT ?_;exact ⟨_,_,rfl,aC⟩;have hv:=bp rfl;refine RT ?_;exact ⟨_,_,by rw [show Zd4 f=0 from if_pos hv],ak⟩
theorem Zd5 (v:Value) (f:Fct) (w) (hm:(f.kind.length:Int)<=maxLen) (hs:SlV [] w v [(⟨f⟩:Vr0)]) :
 CC 65 #[v] w λr w'=>r=.I (Zd4 f)/\Stp [] w w':=by
 refine cW1 13 Tryz.func65 ?_;refine W ?_;refine CL (Zmx v f _ hm hs) ?_;rintro _ w1 ⟨p,q,rfl,hS⟩;refine RT ?_;exact ⟨rfl,hS⟩
end Go.Proofs.YteibicnbkggiiaaGreatDoor
namespace Go.Eng
open Go Go.RowKit Go.Proofs
def Z81 {κ:Type} (enc:κ->Value) (w:World) (r:Nat) (l:List (κ×Value)) (es:Array MapEntry) (clock:Nat):Prop:=
 w.heap[r]?=some (.map es clock)/\es.toList.map (λe=>(e.key,e.val))=l.map (λp=>(enc p.1,p.2))/\(es.toList.map (·.born)).Nodup/\(∀ x∈es.toList,x.born<clock)/\(l.map (·.1)).Nodup
def Z2V {κ:Type} (enc:κ->Value) (w:World) (r:Nat) (l:List (κ×Value)):Prop:=∃ es clock,Z81 enc w r l es clock
variable {κ:Type}
theorem Z81.fst {enc:κ->Value} {w} {r:Nat} {l:List (κ×Value)} {es:Array MapEntry} {clock:Nat} (h:Z81 enc w r l es clock):es.toList.map (·.key)=(l.map (·.1)).map enc:=by
 have:=congrArg (List.map Prod.fst) h.2.1;simpa [XY,Function.comp_def] using this
theorem Z81.snd {enc:κ->Value} {w} {r:Nat} {l:List (κ×Value)} {es:Array MapEntry} {clock:Nat} (h:Z81 enc w r l es clock):es.toList.map (·.val)=l.map (·.2):=by
 have:=congrArg (List.map Prod.snd) h.2.1;simpa [XY,Function.comp_def] using this
theorem Z2V.at_ {enc:κ->Value} {w} {r:Nat} {l:List (κ×Value)} (h:Z2V enc w r l):Jf enc w r l:=by
 obtain ⟨es,c,h⟩:=h;refine ⟨es,c,h.1,?_,h.snd⟩;rw [h.fst,XY];rfl
theorem Z81.ext {enc:κ->Value} {S:List Nat} {w w2:World} {r:Nat} {l:List (κ×Value)} {es:Array MapEntry} {clock:Nat} (h:Z81 enc w r l es clock) (hS:Stp S w w2) (hr:r∉S):Z81 enc w2 r l es clock:=by
 have hlt:r<w.heap.size:=(Xm.1 h.1).1;exact ⟨by rw [hS.block r hlt hr];exact h.1,h.2⟩
theorem Z2V.ext {enc:κ->Value} {S:List Nat} {w w2:World} {r:Nat} {l:List (κ×Value)} (h:Z2V enc w r l) (hS:Stp S w w2) (hr:r∉S):Z2V enc w2 r l:=by
 obtain ⟨es,c,h⟩:=h;exact ⟨es,c,h.ext hS hr⟩
theorem Z2V.up {enc:κ->Value} {w w2:World} {r:Nat} {l:List (κ×Value)} (h:Z2V enc w r l) (hS:Stp [] w w2):Z2V enc w2 r l:=h.ext hS (by simp)
def Z6e [DecidableEq κ] (l:List (κ×Value)) (a:κ) (v:Value):List (κ×Value):=if a∈l.map (·.1) then l.map (λp=>if p.1=a then (a,v) else p) else l++[(a,v)]
abbrev kI:Int->Value:=λz=>.I z
theorem Zbt {l:List (Int×Value)} (hn:(l.map (·.1)).Nodup) {i j:Nat} (hi:i<l.length) (hj:j<l.length) (h:l[i].1=l[j].1):i=j:=by
 rw [Ybh,List.pairwise_map,XZ] at hn;rcases Nat.lt_trichotomy i j with g|g|g
 exact absurd h (hn i j hi hj g);exact g;exact absurd h.symm (hn j i hj hi g)
section
variable {P:Program} {n:Nat} {e:Env} {w:World} {d:Option Nat} {ty:TypeId} {pos:String} {af:Array Edge} {g:Option (Nat×Bool)}
theorem Zd6 {mt kt et r:Nat} [hm:Und P mt (.map kt et)] [hu:Und P kt (.int .i64)] {l:List (Int×Value)} {a:Int} {v:Value} (hr:Z2V kI w r l) :
 ∃ w',(Instr.mapUpdate mt (.map (some r)) (.I a) v).run P w=.ok () w'/\Z2V kI w' r (Z6e l a v)/\Stp [r] w w':=by
 obtain ⟨es,clock,h⟩:=hr;have h0:=h.1;have hlt:r<w.heap.size:=(Xm.1 h0).1;have hf:=(inferInstance:Z6C P kt Int).find a es.toList (l.map (·.1)) w h.fst;have iB:=(inferInstance:Z6C P kt Int).chk false a w;change (Instr.checkKey false 10000 kt (.I a)).run P w=.ok () w at iB;change (Instr.findKey kt (.I a) es.toList).run P w=_ at hf;have ai:es.toList.length=l.length:=by have:=congrArg List.length h.2.1;simpa using this
 have stp:∀ o:Obj,Stp [r] w { w with heap:=w.heap.setIfInBounds r o }:=λo=>by
  refine ⟨rfl,rfl,rfl,by simp,λb hb hn=>?_⟩;simp only [Xn] at hn;simp [Yad (λh=>hn h.symm)]
 by_cases ha:a∈l.map (·.1);obtain ⟨p,hp,i7⟩:=Xw.1 ha;obtain ⟨i,hi,rfl⟩:=Xv hp;have kJ:i<es.toList.length:=by omega
 have m7:(l.map (·.1)).findIdx? (λb=>decide (b=a))=some i:=by
  rw [X8];refine ⟨by simpa using hi,by simpa using i7,λj hj=>?_⟩;simp only [List.getElem_map,decide_eq_true_eq];intro hc;have:=Zbt h.2.2.2.2 (show j<l.length by omega) hi (hc.trans i7.symm);omega
 have hk:es.toList[i].key=.I a:=by
  have:=congrArg (λx=>x[i]?) h.fst;simp only [XV,XC kJ,XC hi,YaN,Xl] at this;rw [this,i7]
 rw [m7,X1,XC kJ,YaN] at hf;have vA:es[i]?=some es.toList[i]:=by rw [<- YaH,XC kJ]
 have ar:∀ w:World,(Instr.keyThatStays (.I a) (.I a)).run P w=.ok (.I a) w:=λw=>by
  simp [Instr.keyThatStays,Instr.sameBits]
 refine ⟨{ w with heap:=w.heap.setIfInBounds r (.map (es.modify i λe=>{ e with key:=.I a,val:=v }) clock) },?_,?_,stp _⟩;have cB:(es[i]'(by simpa using kJ)).key=.I a:=by rw [<- Array.getElem_toList];exact hk
 simp [Instr.mapUpdate,run_underlying hm.h,MapKept.run_getObj_map h0,iB,hf,vA,cB,ar,MapKept.run_setObj_map _ h0,Result.andThen];refine ⟨es.modify i λe=>{ e with key:=.I a,val:=v },clock,by simp [hlt],?_,?_,?_,?_⟩;unfold Z6e;rw [if_pos ha,YbF];refine YbQ (λj=>?_);rw [XV,List.getElem?_modify,XV,XV];have hj:=congrArg (λx=>x[j]?) h.2.1;simp only [XV] at hj;by_cases dI:j<l.length;rw [XC (show j<es.toList.length by omega),XC dI] at hj ⊢;simp only [YaN,Option.map_eq_map,Xl] at hj ⊢;by_cases bR:i=j;subst bR;rw [if_pos rfl,if_pos i7];rw [if_neg bR,if_neg (λhc=>bR (Zbt h.2.2.2.2 hi dI (i7.trans hc.symm))),hj];rw [YaG (show es.toList.length<=j by omega),YaG (by omega)];rfl
 . rw [YbF,show ((es.toList.modify i λe=>{ e with key:=.I a,val:=v }).map (·.born))=es.toList.map (·.born) from by
    refine YbQ (λj=>?_);rw [XV,List.getElem?_modify,XV];cases es.toList[j]? with
    | none=>rfl
    | some x=>by_cases bR:i=j<;>simp [bR]]
   exact h.2.2.1
 intro x hx;rw [YbF] at hx;obtain ⟨j,hj,rfl⟩:=Xv hx;rw [List.getElem_modify];have eB:j<es.toList.length:=by simpa using hj
 have:=h.2.2.2.1 _ (Xc eB);split<;>exact this
 unfold Z6e;rw [if_pos ha,XY];refine (congrArg List.Nodup ?_).mp h.2.2.2.2;refine YaF (λp hp=>?_);simp only [Function.comp_apply];split<;>rename_i hc
 exact hc;rfl;have kK:(l.map (·.1)).findIdx? (λb=>decide (b=a))=none:=Z6D (λb hb hc=>ha (hc ▸ hb));rw [kK,Option.bind_none] at hf;refine ⟨{ w with heap:=w.heap.setIfInBounds r (.map (es.push { key:=.I a,val:=v,born:=clock }) (clock+1)) },?_,?_,stp _⟩;simp [Instr.mapUpdate,run_underlying hm.h,MapKept.run_getObj_map h0,iB,hf,MapKept.run_setObj_map _ h0,Result.andThen];refine ⟨es.push { key:=.I a,val:=v,born:=clock },clock+1,by simp [hlt],?_,?_,?_,?_⟩;unfold Z6e;rw [if_neg ha];simp [h.2.1];rw [Array.toList_push,XH,Ybb];refine ⟨h.2.2.1,by simp,λx hx y hy=>?_⟩;obtain ⟨z,hz,rfl⟩:=Xw.1 hx;have:=h.2.2.2.1 z hz;simp at hy;omega;intro x hx;rw [Array.toList_push] at hx;rcases Xe.1 hx with hx|hx
 have:=h.2.2.2.1 x hx;omega;rw [Xn.1 hx];exact XA _;unfold Z6e;rw [if_neg ha,XH,Ybb];refine ⟨h.2.2.2.2,by simp,λx hx y hy=>?_⟩;simp at hy;rintro rfl;exact ha (hy ▸ hx)
theorem Z5w {mt kt et r:Nat} {x y z:Operand} [hm:Und P mt (.map kt et)] [hu:Und P kt (.int .i64)] {l:List (Int×Value)} {a:Int} {v:Value} (hx:ev e x=some (.map (some r))) (hy:ev e y=some (.I a)) (hz:ev e z=some v) (hr:Z2V kI w r l) :
 OE P n ⟨d,.mapUpdate mt x y z,ty,pos,af,g⟩ e w (λ_ w'=>Z2V kI w' r (Z6e l a v)/\Stp [r] w w'):=by
 obtain ⟨w',h1,h2,h3⟩:=Zd6 (P:=P) (mt:=mt) (kt:=kt) (et:=et) (a:=a) (v:=v) hr;exact Z2o (w':=w') (λc hc=>by simp [execOp,hc.ev hx,hc.ev hy,hc.ev hz,h1]) ⟨h2,h3⟩
def Z4P {κ:Type} (enc:κ->Value) (w:World) (b r:Nat) (l todo:List (κ×Value)):Prop:=
 ∃ (es:Array MapEntry) (clock since:Nat) (seen:Array Nat) (c0:Nat),Z81 enc w r l es clock/\(∀ x∈es.toList,x.born<since)/\(since<=clock/\since<=c0)/\w.heap[b]?=some (.mapIter (some r) since seen c0)/\((leftOf es seen).toList.map (λe=>(e.key,e.val))).Perm (todo.map (λp=>(enc p.1,p.2)))
def Z7t {κ:Type} (enc:κ->Value) (w:World) (b r:Nat) (l todo:List (κ×Value)) (p:κ×Value):Prop:=
 ∃ (es:Array MapEntry) (clock since:Nat) (seen:Array Nat) (x:MapEntry),Z81 enc w r l es clock/\(∀ x∈es.toList,x.born<since)/\since<=clock/\w.heap[b]?=some (.mapIter (some r) since (seen.push x.born) clock)/\((leftOf es (seen.push x.born)).toList.map (λe=>(e.key,e.val))).Perm (todo.map (λp=>(enc p.1,p.2)))/\x∈es.toList/\x.key=enc p.1/\x.val=p.2
theorem Z7t.toD {κ:Type} {enc:κ->Value} {w} {b r:Nat} {l todo:List (κ×Value)} {p:κ×Value} (h:Z7t enc w b r l todo p):Z4P enc w b r l todo:=by
 obtain ⟨es,clock,since,seen,x,h1,h2,h3,h4,h5,-⟩:=h;exact ⟨es,clock,since,_,clock,h1,h2,⟨h3,h3⟩,h4,h5⟩
theorem Z4P.lt {κ:Type} {enc:κ->Value} {w} {b r:Nat} {l todo:List (κ×Value)} (h:Z4P enc w b r l todo):b<w.heap.size:=by
 obtain ⟨es,clock,since,seen,c0,h1,h2,h3,h4,h5⟩:=h;exact (Xm.1 h4).1
theorem Z4P.ext {κ:Type} {enc:κ->Value} {S:List Nat} {w w2:World} {b r:Nat} {l todo:List (κ×Value)} (h:Z4P enc w b r l todo) (hS:Stp S w w2) (hr:r∉S) (hb:b∉S):Z4P enc w2 b r l todo:=by
 have hlt:=h.lt;obtain ⟨es,clock,since,seen,c0,h1,h2,h3,h4,h5⟩:=h;exact ⟨es,clock,since,seen,c0,h1.ext hS hr,h2,h3,by rw [hS.block b hlt hb];exact h4,h5⟩
theorem Zbu {κ:Type} {enc:κ->Value} {mt kt et r:Nat} {x:Operand} [hm:Und P mt (.map kt et)] {l:List (κ×Value)} (hx:ev e x=some (.map (some r))) (hr:Z2V enc w r l) :
 OE P n ⟨d,.range mt x,ty,pos,af,g⟩ e w (λv w'=>∃ b,v=pQ b/\w.heap.size<=b/\Z4P enc w' b r l l/\Stp [] w w'):=by
 obtain ⟨es,clock,h⟩:=hr;have hS:Stp [] w (w.alloc (.mapIter (some r) clock #[] clock)):=Stp.alloc _ _ _;refine Zv (v:=.pointer (some ⟨w.heap.size,0,none⟩)) (w':=w.alloc (.mapIter (some r) clock #[] clock)) (λa ha=>?_) ⟨_,rfl,Xq _,⟨es,clock,clock,#[],clock,h.ext hS (by simp),h.2.2.2.1,⟨Xq _,Xq _⟩,heap_alloc_new w _,?_⟩,hS⟩;simp [execOp,ha.ev hx,Instr.range,run_underlying hm.h,MapKept.run_getObj_map h.1,Result.andThen];have:(leftOf es #[]).toList=es.toList:=by simp [leftOf]
 rw [this,h.2.1]
theorem Z8G {y:MapEntry}:∀ {L:List MapEntry},(L.map (·.born)).Nodup->y∈L->L.Perm (y :: L.filter (λe=>!(e.born == y.born)))
 | [],_,h=>by cases h
 | x :: L, hn, h => by
   have jE:=List.nodup_cons.1 hn;rcases Xa.1 h with rfl|h
   rw [YaL (by simp),List.filter_eq_self.2 (λz hz=>by
    have:z.born≠y.born:=λhc=>jE.1 (Xw.2 ⟨z,hz,hc⟩);simpa using this)]
   . have aX:x.born≠y.born:=λhc=>jE.1 (Xw.2 ⟨y,h,hc.symm⟩)
     rw [YaM (by simpa using aX)];exact ((Z8G jE.2 h).cons x).trans (List.Perm.swap _ _ _)
theorem ZfS (es:Array MapEntry) (seen:Array Nat) (b:Nat):(leftOf es (seen.push b)).toList=(leftOf es seen).toList.filter (λe=>!(e.born == b)):=by
 simp only [leftOf,Array.toList_filter,List.filter_filter];refine List.filter_congr (λx _=>?_);rw [Array.contains_push];cases seen.contains x.born<;>cases x.born == b<;>rfl
theorem Zd7 {κ:Type} {enc:κ->Value} {b r:Nat} {x:Operand} {l todo:List (κ×Value)} (hx:ev e x=some (pQ b)) (hi:Z4P enc w b r l todo) (mT:b≠r) :
 OE P n ⟨d,.next x false,ty,pos,af,g⟩ e w (λv w'=>Stp [b] w w'/\((todo=[]/\v=.tuple #[.B false]/\w'=w)\/∃ p rest,todo.Perm (p :: rest)/\v=.tuple #[.B true,enc p.1,p.2]/\Z7t enc w' b r l rest p)):=by
 obtain ⟨es,clock,since,seen,c0,h1,h2,h3,h4,h5⟩:=hi;have hlt:b<w.heap.size:=(Xm.1 h4).1;rcases run_next_at (P:=P) w ty b r since c0 seen es clock h4 h1.1 h2 h3.2 with ⟨hz,aJ⟩|⟨y,hy,w1,iZ,aJ⟩
 have cm:(leftOf es seen).toList=[]:=Yau (by simpa using hz);rw [cm] at h5;have ht:todo=[]:=by simpa using h5.length_eq.symm
 exact Zv (λa ha=>by simp [execOp,ha.ev hx,aJ]) ⟨Stp.refl _ _,.inl ⟨ht,rfl,rfl⟩⟩;have hw:w1.os=w.os/\w1.tape=w.tape/\w1.output=w.output/\w1.heap=w.heap:=by rcases iZ with rfl|rfl<;>exact ⟨rfl,rfl,rfl,rfl⟩
 have hS:Stp [b] w (ChangeMaps.setBlock w1 b (.mapIter (some r) since (seen.push y.born) clock)):=by
  refine ⟨hw.1,hw.2.1,hw.2.2.1,?_,λc hc hn=>?_⟩;simp [ChangeMaps.setBlock,hw.2.2.2];simp only [Xn] at hn;simp [ChangeMaps.setBlock,hw.2.2.2,Yad (λh=>hn h.symm)]
 have dH:y∈es.toList:=by
  have:y∈leftOf es seen:=by simpa using hy
  simp only [leftOf,Array.mem_filter] at this;simpa using this.1
 have dT:((leftOf es seen).toList.map (·.born)).Nodup:=by
  refine List.Nodup.sublist ?_ h1.2.2.1;simp only [leftOf,Array.toList_filter];exact (List.filter_sublist).map _
 have hp:=Z8G dT hy;rw [<- ZfS] at hp;have hq:=(hp.map (λe=>(e.key,e.val))).symm.trans h5;rw [XD] at hq;have hm:(y.key,y.val)∈todo.map (λp=>(enc p.1,p.2)):=hq.subset XT;obtain ⟨p,ft,kF⟩:=Xw.1 hm;obtain ⟨s,t,rfl⟩:=YbL ft;have e1:y.key=enc p.1:=(congrArg Prod.fst kF).symm;have e2:y.val=p.2:=(congrArg Prod.snd kF).symm;have hr:((leftOf es (seen.push y.born)).toList.map (λe=>(e.key,e.val))).Perm ((s++t).map (λp=>(enc p.1,p.2))):=by
  have h6:=hq.trans ((Ya4 (a:=p) (l₁:=s) (l₂:=t)).map (λp=>(enc p.1,p.2)));rw [XD,kF] at h6;exact h6.cons_inv
 refine Zv (v:=.tuple #[.B true,y.key,y.val]) (w':=ChangeMaps.setBlock w1 b (.mapIter (some r) since (seen.push y.born) clock)) (λa ha=>by simp [execOp,ha.ev hx,aJ]) ⟨hS,.inr ⟨p,s++t,Ya4,by rw [e1,e2],es,clock,since,seen,y,h1.ext hS (by simpa using λh=>mT h.symm),h2,h3.1,?_,hr,dH,e1,e2⟩⟩;simp [ChangeMaps.setBlock,hw.2.2.2,hlt]
theorem Zbv {κ:Type} {enc:κ->Value} {b r:Nat} {x:Operand} {l todo:List (κ×Value)} {p:κ×Value} (hx:ev e x=some (pQ b)) (hi:Z7t enc w b r l todo p) :
 PR P n ⟨d,.entry x,ty,pos,af,g⟩ e w (.tuple #[enc p.1,p.2]):=by
 obtain ⟨es,clock,since,seen,y,h1,h2,h3,h4,h5,h6,h7,h8⟩:=hi;refine ⟨λa ha=>?_⟩;have:=run_entry_at (P:=P) w b r since seen es clock y h4 h1.1 h6 h1.2.2.1;simp [execOp,ha.ev hx,this,h7,h8]
end
end Go.Eng
namespace Go.Proofs.YteibicnbkggiiaaGreatDoor
open Go Go.Eng Go.RowKit
structure Vrs where
 op:Int
 st:Bool
 f:Fct
deriving DecidableEq
instance:Inhabited Vrs:=⟨⟨0,false,default⟩⟩
instance:Z2 Vrs where
 k:=8
 enc:=λx=>[.I x.op,.B x.st]++Z2.enc x.f
 len:=λ_=>rfl
 one:=by intro x u hu;simp [Z2.enc] at hu;rcases hu with rfl|rfl|rfl|rfl|rfl|rfl|rfl|rfl<;>rfl
def JR (l:List Vrs) (e:Int):Option Vrs:=l.reverse.find? (λv=>decide (v.f.entry=e))
def Z1Z (l:List Vrs) (e:Int):Bool:=match JR l e with|some v=>!v.st|none=>false
def ZI (l:List Vrs):Int:=match l.getLast? with|some v=>v.op|none=>0
theorem Z0M (l:List Vrs) (v:Vrs) (e:Int):JR (l++[v]) e=if v.f.entry=e then some v else JR l e:=by
 unfold JR;rw [List.reverse_append,List.reverse_cons,List.reverse_nil,XW,Yby,YbE];by_cases h:v.f.entry=e<;>simp [h]
theorem Zd8 (l:List Vrs) (v:Vrs) (e:Int):Z1Z (l++[v]) e=if v.f.entry=e then !v.st else Z1Z l e:=by
 unfold Z1Z;rw [Z0M];by_cases h:v.f.entry=e;rw [if_pos h,if_pos h];rw [if_neg h,if_neg h]
theorem Zbw {l:List Vrs} {e:Int} {v:Vrs} (h:JR l e=some v):v.f.entry=e/\v∈l:=by
 unfold JR at h;have:=Ybo h;exact ⟨by simpa using this,by simpa using X9 h⟩
theorem Z0a (l:List Vrs) (v:Vrs):ZI (l++[v])=v.op:=by simp [ZI]
def Z5x (l:List Vrs) (v:Vrs):Prop:=0<=v.op/\ZI l<=v.op/\(v.st=true->(0<=v.f.entry/\v.f.entry<65536)/\Z1Z l v.f.entry=true)/\(v.st=false->VOk v.f)
def Z0m (l:List Vrs):Prop:=∀ k (h:k<l.length),Z5x (l.take k) l[k]
theorem Z0m.snoc {l:List Vrs} {v:Vrs} (h:Z0m l) (hv:Z5x l v):Z0m (l++[v]):=λk hk=>by
 by_cases e:k<l.length;rw [Yai (by omega),Yal e];exact h k e;have:k=l.length:=by simp at hk;omega
 subst this;rw [Yai (Xq _),Xs,Yar (Xq _)];simpa using hv
theorem Z0m.ops {l:List Vrs} (h:Z0m l):l.Pairwise (λa b=>a.op<=b.op):=by
 rw [XZ];intro i j hi hj bR
 induction j with
 | zero=>omega
 | succ j ih=>
   have hs:=(h (j+1) hj).2.1;rw [Xj (by omega),Z0a] at hs;by_cases e:i=j;subst e;exact hs;exact Int.le_trans (ih (by omega) (by omega)) hs
def Z12 (k:Int) (v:Vrs):Bool:=decide (v.op<=k)
structure Z1I (l:List Vrs) (k:Int) (fs:List Fct):Prop where
 asc:fs.Pairwise (λa b=>a.entry<b.entry)
 mem:∀ f,f∈fs↔∃ v,JR (l.filter (Z12 k)) f.entry=some v/\v.st=false/\v.f=f
theorem Z9K:∀ {a b:List Fct},a.Pairwise (λx y=>x.entry<y.entry)->b.Pairwise (λx y=>x.entry<y.entry)->(∀ f,f∈a↔f∈b)->a=b
 | [],[],_,_,_=>rfl
 | [],y :: b,_,_,h=>absurd ((h y).2 XT) (by simp)
 | x :: a,[],_,_,h=>absurd ((h x).1 XT) (by simp)
 | x :: a, y :: b, ha, hb, h => by
   have dV:=XU.1 ha;have cO:=XU.1 hb;have kV:x=y:=by
    rcases Xa.1 ((h x).1 XT) with e|e
    exact e;rcases Xa.1 ((h y).2 XT) with e2|e2
    exact e2.symm;have:=cO.1 x e;have:=dV.1 y e2;omega
   subst kV;rw [Z9K dV.2 cO.2 (λf=>⟨λhf=>?_,λhf=>?_⟩)];rcases Xa.1 ((h f).1 (XX _ hf)) with e|e
   subst e;have:=dV.1 _ hf;omega;exact e;rcases Xa.1 ((h f).2 (XX _ hf)) with e|e
   subst e;have:=cO.1 _ hf;omega;exact e
theorem Z1I.eq {l m:List Vrs} {k j:Int} {a b:List Fct} (h1:Z1I l k a) (h2:Z1I m j b) (h:∀ e,JR (l.filter (Z12 k)) e=JR (m.filter (Z12 j)) e):a=b:=
 Z9K h1.asc h2.asc (λf=>by rw [h1.mem,h2.mem,h])
def ZfT (q:List Vrs) (v:Vrs):List Vrs:=if v.f.entry∈q.map (·.f.entry) then q.map (λx=>if x.f.entry=v.f.entry then v else x) else q++[v]
def Z7u (l q:List Vrs):Prop:=(q.map (·.f.entry)).Nodup/\∀ v,v∈q↔JR l v.f.entry=some v
theorem ZfU:Z7u [] []:=⟨by simp,λv=>by simp [JR]⟩
theorem Z7u.put {l q:List Vrs} (h:Z7u l q) (v:Vrs):Z7u (l++[v]) (ZfT q v):=by
 unfold ZfT;split;rename_i hm;refine ⟨?_,λx=>?_⟩;rw [XY];refine (congrArg List.Nodup ?_).mp h.1;refine YaF (λp hp=>?_);simp only [Function.comp_apply];split<;>rename_i hc
 exact hc;rfl;rw [Z0M];constructor;intro hx;obtain ⟨y,hy,rfl⟩:=Xw.1 hx;by_cases e:y.f.entry=v.f.entry;rw [if_pos e,if_pos rfl];rw [if_neg e,if_neg (λhc=>e hc.symm)];exact (h.2 y).1 hy;intro hx;by_cases e:v.f.entry=x.f.entry;rw [if_pos e] at hx;obtain rfl:=XL hx;obtain ⟨y,hy,he⟩:=Xw.1 hm;exact Xw.2 ⟨y,hy,if_pos he⟩;rw [if_neg e] at hx;exact Xw.2 ⟨x,(h.2 x).2 hx,if_neg (λhc=>e hc.symm)⟩;rename_i hm;refine ⟨?_,λx=>?_⟩;rw [XH,Ybb];refine ⟨h.1,by simp,λa ha b hb=>?_⟩;simp at hb;rintro rfl;exact hm (hb ▸ ha);rw [Z0M,Xe,Xn];constructor;rintro (hx|rfl);rw [if_neg (λhc=>hm (Xw.2 ⟨x,hx,hc.symm⟩))];exact (h.2 x).1 hx;rw [if_pos rfl];intro hx;by_cases e:v.f.entry=x.f.entry;rw [if_pos e] at hx;exact .inr (XL hx).symm;rw [if_neg e] at hx;exact .inl ((h.2 x).2 hx)
def Z4Q (v:Vrs):Int×Value:=(v.f.entry,aG v)
theorem Zd9 (q:List Vrs) (v:Vrs):Z6e (q.map Z4Q) v.f.entry (aG v)=(ZfT q v).map Z4Q:=by
 have hm:(q.map Z4Q).map (·.1)=q.map (·.f.entry):=by rw [XY];rfl
 unfold Z6e ZfT;rw [hm];split;rw [XY,XY];refine YaF (λx _=>?_);simp only [Function.comp_apply];show (if x.f.entry=v.f.entry then _ else _)=_;split<;>rfl
 rw [XH];rfl
theorem Z7u.at_ {l q:List Vrs} {k:Int} {fs:List Fct} (h:Z7u (l.filter (Z12 k)) q) (hp:fs.Perm ((q.filter (λv=>!v.st)).map (·.f))) (ha:fs.Pairwise (λa b=>a.entry<=b.entry)):Z1I l k fs:=by
 have hn:(fs.map (·.entry)).Nodup:=by
  refine (hp.map (·.entry)).nodup_iff.2 ?_;rw [XY];exact List.Nodup.sublist ((List.filter_sublist).map _) h.1
 refine ⟨?_,λf=>?_⟩;have h2:=Ybh.1 hn;rw [List.pairwise_map] at h2;exact (ha.and h2).imp (λh=>by omega);rw [hp.mem_iff,Xw];constructor;rintro ⟨v,hv,rfl⟩;have bt:=Yak.1 hv;exact ⟨v,(h.2 v).1 bt.1,by simpa using bt.2,rfl⟩;rintro ⟨v,h1,h2,rfl⟩;exact ⟨v,Yak.2 ⟨(h.2 v).2 h1,by simp [h2]⟩,rfl⟩
end Go.Proofs.YteibicnbkggiiaaGreatDoor
namespace Go.EngB
open Go Go.Eng Go.RowKit Go.Proofs
structure StpB (S:Nat×List Nat) (w w':World):Prop where
 os:w'.os=w.os
 tape:w'.tape=w.tape
 output:w'.output=w.output
 size:w.heap.size<=w'.heap.size
 block:∀ b,b<S.1->b∉S.2->w'.heap[b]?=w.heap[b]?
theorem StpB.refl (S:Nat×List Nat) (w):StpB S w w:=⟨rfl,rfl,rfl,Xq _,λ_ _ _=>rfl⟩
theorem StpB.trans {S:Nat×List Nat} {a b c:World} (h:StpB S a b) (k:StpB S b c):StpB S a c:=
 ⟨k.os.trans h.os,k.tape.trans h.tape,k.output.trans h.output,Xk h.size k.size,λx hx hn=>(k.block x hx hn).trans (h.block x hx hn)⟩
theorem StpB.of {B:Nat} {S:List Nat} {w w':World} (h:Stp S w w') (hB:B<=w.heap.size) (hS:∀ b∈S,B<=b):StpB (B,[]) w w':=
 ⟨h.os,h.tape,h.output,h.size,λb hb _=>h.block b (Xi hb hB) (λhm=>by have:=hS b hm;omega)⟩
theorem StpB.blk {B b T:Nat} {cs:List Value} {w w':World} (h:StpB (B,[]) w w') (hb:Blk w b T cs) (hl:b<B):Blk w' b T cs:=by
 unfold Blk at *;rw [h.block b hl (by simp)];exact hb
instance:Rl (Nat×List Nat):=⟨StpB,StpB.refl,λh k=>h.trans k⟩
abbrev WD (P:Program) (n:Nat) (ops:Array Oper) (S:Nat×List Nat) (Lt:List Nat) (Q:Exit->Act->World->Prop) (ord:List (Nat×Nat)) (e:Env) (w:World):Prop:=WG P n ops S Lt Q ord e w
section
variable {P:Program} {n:Nat} {Q:Exit->Act->World->Prop} {e:Env} {w:World} {ops:Array Oper} {Lt:List Nat} {rest:List (Nat×Nat)} {i d:Nat} {op:Op} {ty:TypeId} {pos:String} {af:Array Edge} {gd:Option (Nat×Bool)} {v:Value}
theorem WC_drawn {id:Nat} {l:List Oper} (m:Nat) (S:Nat×List Nat) (Lt:List Nat) (ord:List (Nat×Nat)) (bP:l.length=m) (hm:P.follows .mixedOrders=true) (hs:Region.noSelect l.toArray=true) (hl:Nat.beq (wt ord) l.length=true)
 (hB:ZX l.toArray Lt ord (Array.replicate m false)=true)
 (h:∀ w',Stp [] w w'->WD P n l.toArray S Lt Q ord e w'):WC P n (.region id l.toArray true) Q e w:=Z8b m S Lt ord bP hm hs hl hB h
theorem WD_read {S:Nat×List Nat} (hi:ops[i]?=some ⟨some d,op,ty,pos,af,gd⟩) (hg:JV ops e gd) (hp:∀ w',StpB S w w'->PR P n ⟨some d,op,ty,pos,af,gd⟩ e w' v) (aw:Nat.blt d n=true)
 (k:WD P n ops S Lt Q rest ((d,v) :: e) w):WD P n ops S Lt Q ((i,1) :: rest) e w:=ZdM hi hg hp aw k
end
variable {P:Program} {n:Nat} {Q:Exit->Act->World->Prop} {e:Env} {w w0:World} {ops:Array Oper} {Lt:List Nat} {rest:List (Nat×Nat)}
theorem nil_row {α:Type} [Z5 α] {X:List Nat} {T:Nat} {v:Value} {w':World} (h:Z6 w T 0 [] v w') (hb:w0.heap.size<=w.heap.size):Row X w' w0.heap.size T v ([]:List α)/\∀ b∈ob v,w.heap.size<=b:=by
 obtain ⟨b,rfl,cO,hk,hT⟩:=h;refine ⟨⟨[],rfl,λi hi=>absurd hi (by simp),by simp,.inr ⟨b,0,#[],rfl,by omega,hk,Xq _,by simp [maxLen],by simp,by simp⟩⟩,λc hc=>?_⟩;simp [ob] at hc;omega
end Go.EngB
namespace Go.Proofs.YteibicnbkggiiaaGreatDoor
open Go Go.Eng Go.RowKit Go.Proofs
def Z13 (w:World) (r:Nat) (l:List Vrs):Prop:=∃ pl,Z2V kI w r pl/\∀ e,Z0t pl e (.B false)=.B (Z1Z l e)
theorem Z13.ext {S:List Nat} {w w2:World} {r:Nat} {l:List Vrs} (h:Z13 w r l) (hS:Stp S w w2) (hr:r∉S):Z13 w2 r l:=by
 obtain ⟨pl,h1,h2⟩:=h;exact ⟨pl,h1.ext hS hr,h2⟩
theorem Z13.up {w w2:World} {r:Nat} {l:List Vrs} (h:Z13 w r l) (hS:Stp [] w w2):Z13 w2 r l:=h.ext hS (by simp)
theorem Z13.lt {w} {r:Nat} {l:List Vrs} (h:Z13 w r l):r<w.heap.size:=by
 obtain ⟨pl,h1,-⟩:=h;exact h1.at_.lt
theorem Zjq (a b:Int) (v z:Value):∀ l:List (Int×Value),Z0t (Z6e l a v) b z=if a=b then v else Z0t l b z:=by
 have app:∀ l:List (Int×Value),a∉l.map (·.1)->Z0t (l++[(a,v)]) b z=if a=b then v else Z0t l b z:=λl hn=>by
  unfold Z0t;rw [List.find?_append];by_cases h:a=b;subst h;have:l.find? (λp=>decide (p.1=a))=none:=Yaw.2 (λp hp=>by simpa using λhc=>hn (Xw.2 ⟨p,hp,hc⟩));rw [this,if_pos rfl];simp
  . rw [if_neg h]
    cases l.find? (λp=>decide (p.1=b)) with
    | some p=>rfl
    | none=>simp [h]
 have mp:∀ l:List (Int×Value),Z0t (l.map (λp=>if p.1=a then (a,v) else p)) b z=if a=b/\a∈l.map (·.1) then v else Z0t l b z:=by
  intro l
  induction l with
  | nil=>simp [Z0t]
  | cons p l ih=>
    unfold Z0t at ih ⊢;rw [XD,YbE,YbE,XD];by_cases h1:p.1=a;by_cases h2:a=b;simp [h1,h2];have h3:¬ p.1=b:=λhc=>h2 (h1 ▸ hc);simp only [if_pos h1,h2,h3,decide_false,false_and,if_false];simpa [h2] using ih;by_cases h2:p.1=b;have h3:¬ a=b:=λhc=>h1 (h2.trans hc.symm);simp only [if_neg h1,decide_eq_true h2];rw [if_neg (λhc=>h3 hc.1)];simp only [if_neg h1,h2,decide_false];rw [ih];by_cases h4:a=b/\a∈l.map (·.1);rw [if_pos h4,if_pos ⟨h4.1,XX _ h4.2⟩];rw [if_neg h4,if_neg];rintro ⟨h5,h6⟩;rcases Xa.1 h6 with h6|h6
    exact h1 h6.symm;exact h4 ⟨h5,h6⟩
 intro l;unfold Z6e;split;rename_i hm;rw [mp l];by_cases h:a=b;rw [if_pos ⟨h,hm⟩,if_pos h];rw [if_neg (λhc=>h hc.1),if_neg h];rename_i hm;exact app l hm
theorem Z13.put {w2:World} {r:Nat} {l:List Vrs} {pl:List (Int×Value)} {v:Vrs} (h2:∀ e,Z0t pl e (.B false)=.B (Z1Z l e)) (h:Z2V kI w2 r (Z6e pl v.f.entry (.B (!v.st)))):Z13 w2 r (l++[v]):=
 ⟨_,h,λe=>by rw [Zjq,Zd8,h2];split<;>rfl⟩
theorem Zev (r:Nat) (l:List Vrs) (v:Vrs) (w) (hm:(v.f.kind.length:Int)<=maxLen) (hr:Z13 w r l) (hv:Z5x l v) :
 CC 57 #[.map (some r),aG v,.I (ZI l)] w λx w'=>x=.I 0/\Z13 w' r (l++[v])/\Stp [r] w w':=by
 have lr:=hr.lt;obtain ⟨h1,h2,h3,h4⟩:=hv;refine cW3 50 Tryz.func57 ?_;refine W ?_;refine BX (Stp.refl [] w) λb1 w1 g1 e1 _ hS=>?_;replace e1:Blk w1 b1 60 ([.I v.op,.B v.st]++Z2.enc v.f):=e1;obtain ⟨pl,hr,fu⟩:=hr;replace hr:=hr.up hS;have iT:∀ w2,Z2V kI w2 r (Z6e pl v.f.entry (.B (!v.st)))->Z13 w2 r (l++[v]):=λw2 h=>Z13.put fu h;have bi:=fu v.f.entry;cases ar:v.st with
 | true=>
   rw [ar] at e1 iT;obtain ⟨k1,k2⟩:=h3 ar;rw [k2] at bi;repeat'(first|refine W1 ?_|omega|refine VG ?_ ?_<;>intro hg|refine VC ?_ ?_<;>intro hc)
   refine CP hS (Z7s _ _ _) λw2 hT hS=>?_;replace e1:=e1.up hT;replace hr:=hr.up hT;rw [decide_eq_true k1];repeat'(first|refine W1 ?_|omega|refine VG ?_ ?_<;>intro hg|refine VC ?_ ?_<;>intro hc)
   refine Za (Z0K (z:=.B false) (a:=v.f.entry) rfl rfl hr.at_) rfl ?_;rw [bi];repeat'(first|refine W1 ?_|omega|refine VG ?_ ?_<;>intro hg|refine VC ?_ ?_<;>intro hc)
   refine Z8 (Z5w (a:=v.f.entry) (v:=.B false) rfl rfl rfl hr) ?_;rintro _ w3 ⟨gM,hT⟩;repeat'(first|refine W1 ?_|omega|refine VG ?_ ?_<;>intro hg|refine VC ?_ ?_<;>intro hc)
   refine RU ?_;exact ⟨rfl,iT _ gM,hS.mn.trans hT⟩
 | false=>
   rw [ar] at e1 iT;repeat'(first|refine W1 ?_|omega|refine VG ?_ ?_<;>intro hg|refine VC ?_ ?_<;>intro hc)
   refine Za (Zj rfl rfl e1 (us:=Z2.enc v.f) rfl rfl) rfl ?_;refine W ?_;refine CP hS (Z8F v.f _ hm) λw2 hT hS=>?_;replace e1:=e1.up hT;replace hr:=hr.up hT;rw [decide_eq_true (h4 ar)];repeat'(first|refine W1 ?_|omega|refine VG ?_ ?_<;>intro hg|refine VC ?_ ?_<;>intro hc)
   refine Z8 (Z5w (a:=v.f.entry) (v:=.B true) rfl rfl rfl hr) ?_;rintro _ w3 ⟨gM,hT⟩;repeat'(first|refine W1 ?_|omega|refine VG ?_ ?_<;>intro hg|refine VC ?_ ?_<;>intro hc)
   refine RU ?_;exact ⟨rfl,iT _ gM,hS.mn.trans hT⟩
theorem Zbx (v:Value) (l:List Vrs) (w) (hs:SlV [] w v l) (hl:Z0m l) (hk:∀ x∈l,(x.f.kind.length:Int)<=maxLen) :
 CC 56 #[v] w λx w'=>∃ r,x=.tuple #[.map (some r),.I (ZI l),.I 0]/\w.heap.size<=r/\Z13 w' r l/\Stp [] w w':=by
 have eG:=hs.max;refine cW1 29 Tryz.func56 ?_;refine W ?_;refine Z0 (Z06 kI) rfl ?_;rintro _ w1 ⟨r,rfl,hr,hm,hS⟩;have hp:Z13 w1 r []:=by
  refine ⟨[],?_,λe=>rfl⟩;obtain ⟨es,c,h1,h2,h3⟩:=hm;have h0:es=#[]:=by
   have:=congrArg List.length h2;simp at this;exact this
  subst h0;exact ⟨#[],c,h1,rfl,by simp,by simp,by simp⟩
 clear hm;repeat'(first|refine W1 ?_|omega|refine VG ?_ ?_<;>intro hg|refine VC ?_ ?_<;>intro hc)
 refine LP (σ:=Nat) (λk=>[(2,.map none),(3,.I 0),(4,.I 0),(5,.map (some r)),(6,.I (ZI (l.take k))),(11,v),(12,.I (l.length:Int)),(13,.I (k:Int))]) (λk W=>k<=l.length/\Z13 W r (l.take k)/\Stp [] w W) (λk=>l.length - k) 0 ⟨Xu _,hp,hS⟩ ?_;clear hp hS;rintro k w2 ⟨cB,hp,hS⟩;have aO:=hs.up hS;by_cases hlt:k<l.length;have ht:l.take (k+1)=l.take k++[l[k]]:=Xj hlt;have ar:=hl k hlt;have bY:=hk _ (Xc hlt);focus repeat'(first|refine W1 ?_|omega|refine VG ?_ ?_<;>intro hg|refine VC ?_ ?_<;>intro hc)
 refine Z0 Z4 rfl ?_;rintro _ w3 ⟨b8,rfl,eZ,e8,hU⟩;refine SA (us:=Z2.enc l[k]) e8 ?_;rintro _ w4 ⟨bq,e8⟩;replace hU:=hU.ow bq;have lr:=hp.lt;replace hp:=hp.up hU;replace hS:=hS.trans hU;clear hU bq aO;focus repeat'(first|refine W1 ?_|omega|refine VG ?_ ?_<;>intro hg|refine VC ?_ ?_<;>intro hc)
 refine CL (Zev r (l.take k) l[k] _ bY hp ar) ?_;rintro _ w5 ⟨rfl,hp,hT⟩;replace e8:Blk w5 b8 60 ([.I l[k].op,.B l[k].st]++Z2.enc l[k].f):=e8.ext hT (by simp;omega);replace hS:=hS.ow hT;rw [<- ht] at hp;focus repeat'(first|refine W1 ?_|omega|refine VG ?_ ?_<;>intro hg|refine VC ?_ ?_<;>intro hc)
 exact ZF (k+1) ⟨rfl,rfl,rfl,rfl,by rw [ht,Z0a];rfl,rfl,rfl,rfl,trivial⟩ ⟨hlt,hp,hS⟩ (XE hlt (XA k));obtain rfl:k=l.length:=by omega
 rw [Xs] at hp ⊢;focus repeat'(first|refine W1 ?_|omega|refine VG ?_ ?_<;>intro hg|refine VC ?_ ?_<;>intro hc)
 refine RU ?_;exact ⟨r,rfl,hr,hp,hS⟩
theorem Zjr (w):(Instr.buildSlice 56 0 #[]).run Tryz.prog w=.ok (.slice (some ⟨w.heap.size,0,none⟩) 0 0) (w.alloc (.cells #[] 60)):=by kernel_rfl
theorem Z3s (x:Vrs) (w):(Instr.buildSlice 56 1 #[(0,aG x)]).run Tryz.prog w=.ok (.slice (some ⟨w.heap.size,0,none⟩) 1 1) (w.alloc (.cells (Z2.enc x).toArray 60)):=by kernel_rfl
theorem Z7v (v:Value) (l:List Vrs) (w) (hs:SlV [] w v l) (hl:l.length<=1000000):CC 58 #[v] w λr w'=>Row [] w' w.heap.size 60 r l/\Stp [] w w':=by
 obtain ⟨p,k,rfl,h1,h2,h3,h4⟩:=id hs;refine cW1 8 Tryz.func58 ?_;refine W ?_;refine Za (ZeV rfl rfl) rfl ?_;cases p with
 | none=>
   obtain rfl:k=0:=h3 rfl;obtain rfl:l=[]:=Yau (by omega);repeat'(first|refine W1 ?_|omega|refine VG ?_ ?_<;>intro hg|refine VC ?_ ?_<;>intro hc)
   refine RU ?_;exact ⟨Row.nil,Stp.refl _ _⟩
 | some a=>
   repeat'(first|refine W1 ?_|omega|refine VG ?_ ?_<;>intro hg|refine VC ?_ ?_<;>intro hc)
   refine Z0 (Z1 (vs:=[]) rfl Zjr) rfl ?_;rintro o w1 hN;obtain ⟨ac,-⟩:=Go.EngB.nil_row (w0:=w) (α:=Vrs) (X:=[]) hN (Xq _);have aN:=λb hb=>ac.ob_le b hb;have hU:=Z6.stp hN;clear hN;have vB:SlV (ob o++[]) w1 (.slice (some a) l.length k) l:=hs.ext hU (by simp) (λb hb=>.inr (aN b (by simpa using hb)).1);repeat'(first|refine W1 ?_|omega|refine VG ?_ ?_<;>intro hg|refine VC ?_ ?_<;>intro hc)
   refine Z0 (ZA (α:=Vrs) (X:=[]) (base:=w.heap.size) rfl (by decide) rfl rfl ac vB (Xk (Xr _ (show ([]:List Vrs).length+l.length<=1000000 by simp only [Xh];omega)) (by decide)) (by simp only [Xh,maxLen];omega) hU.size) rfl ?_;rintro o2 w2 ⟨fE,hT,-⟩;rw [XW] at fE;repeat'(first|refine W1 ?_|omega|refine VG ?_ ?_<;>intro hg|refine VC ?_ ?_<;>intro hc)
   refine RU ?_;exact ⟨fE,hU.own hT (λb hb=>.inr (aN b hb).1)⟩
def Z5y:List Int->List Fct->Int
 | _,[]=>0
 | kn,f :: l=>if ¬ VOk f then 5 else if f.entry∈kn then 4 else Z5y (kn++[f.entry]) l
theorem Z8H (kn:List Int) (f:Fct) (l:List Fct):Z5y kn (f :: l)=if ¬ VOk f then 5 else if f.entry∈kn then 4 else Z5y (kn++[f.entry]) l:=rfl
theorem Zjs {κ:Type} [DecidableEq κ] (l:List Fct) (g:Fct->κ) (a:κ):Z0t (l.map (λx=>(g x,Value.bool true))) a (.B false)=.B (decide (a∈l.map g)):=by
 have:=Zem (l.map g) a;rw [XY] at this;exact this
theorem Zmy (f:Fct) (w):(Instr.build 60 #[(2,aG f)]).run Tryz.prog w=.ok (aG (⟨f⟩:Vr0)) w:=by kernel_rfl
theorem Zmz (f:Fct) (w):(Instr.buildSlice 56 1 #[(0,aG (⟨f⟩:Vr0))]).run Tryz.prog w=.ok (.slice (some ⟨w.heap.size,0,none⟩) 1 1) (w.alloc (.cells (Z2.enc (⟨f⟩:Vr0)).toArray 60)):=by kernel_rfl
theorem Z7w (v:Value) (l:List Fct) (w) (hm:∀ f∈l,(f.kind.length:Int)<=maxLen) (hs:SlV [] w v l) :
 CC 26 #[v] w λr w'=>r=.I (Z5y [] l)/\Stp [] w w':=by
 have eG:=hs.max;refine cW1 26 Tryz.func26 ?_;refine W ?_;refine Z0 (Z06 mkI) rfl ?_;rintro _ w1 ⟨r,rfl,gr,gB,hS⟩;have bU:=hs.ext (X':=[r]) hS (by simp) (λb hb=>.inr (by simp at hb;omega));have lr:=gB.lt;refine QO ?_
 refine Zt (σ:=Nat) (λk=>[(3,.map (some r)),(7,v),(8,.I (l.length:Int)),(9,.I (k:Int))])
  (λk W=>k<=l.length/\Jf mkI W r ((l.take k).map (λf=>(f.entry,.B true)))/\Z5y [] l=Z5y ((l.take k).map Fct.entry) (l.drop k)/\Stp [r] w1 W) (λk=>l.length - k) 0 ⟨rfl,rfl,rfl,rfl,trivial⟩ ⟨Xu _,by simpa using gB,by simp,Stp.refl _ _⟩ ?_
 clear gB;rintro k w2 ⟨hk,ec,bJ,hT⟩;have aO:=bU.ext (X':=[r]) hT (by simp) (λb hb=>.inl hb);have xr:=hT.size;by_cases hlt:k<l.length
 . have hd:l.drop k=l[k] :: l.drop (k+1):=Yat hlt
   have ic:l.take (k+1)=l.take k++[l[k]]:=Xj hlt;have aA:=hm _ (Xc hlt);rw [hd,Z8H] at bJ;refine QO ?_;refine Z0 Z4 rfl ?_;rintro _ w3 ⟨b5,rfl,iG,e5,hU⟩;refine SA (us:=Z2.enc l[k]) e5 ?_;rintro _ w4 ⟨bq,e5⟩;replace hU:=hU.ow bq;replace ec:=ec.up hU;have eI:=hT.trans hU.mn;have l5:=e5.lt;clear bq hU;refine QO ?_;refine Zc rfl (Zmy l[k]) rfl ?_;refine Z0 (Z1 rfl (Zmz l[k])) rfl ?_;rintro vs w5 hN;have cy:SlV [] w5 vs [(⟨l[k]⟩:Vr0)]:=hN.slv (by simp) rfl (by simp) (by simp [maxLen]);have hU:=Z6.stp hN;clear hN;replace ec:=ec.up hU;replace e5:=e5.up hU;replace eI:=eI.trans hU.mn;clear hU;refine CP (Stp.refl [] w5) (Zd5 vs l[k] _ aA cy) λw6 hU _=>?_;replace ec:=ec.up hU;replace e5:=e5.up hU;replace eI:=eI.trans hU.mn;clear hU;unfold Zd4;have cS:∀ W,Stp [r] w1 W->Stp [] w W:=λW h=>hS.ow h;by_cases hv:VOk l[k]
   rotate_left
   rw [if_neg hv];rw [if_pos hv] at bJ;refine RT ?_;exact ⟨by rw [bJ],cS _ eI⟩;rw [if_pos hv];rw [if_neg (by simpa using hv)] at bJ;refine QO ?_;refine Za (Z0K (a:=l[k].entry) rfl rfl ec) rfl ?_;rw [Zjs];by_cases ba:l[k].entry∈(l.take k).map Fct.entry;rw [if_pos ba] at bJ;rw [decide_eq_true ba];refine RT ?_;exact ⟨by rw [bJ],cS _ eI⟩;rw [if_neg ba] at bJ;rw [decide_eq_false ba];refine QO ?_;refine Z8 (Z0J (a:=l[k].entry) rfl rfl rfl ec (λp hp=>by
    obtain ⟨x,hx,rfl⟩:=Xw.1 hp;exact λh=>ba (Xw.2 ⟨x,hx,h⟩))) ?_
   rintro _ w7 ⟨n7,hU⟩;refine QO ?_;exact QL (k+1) ⟨hlt,by rw [ic,XH];exact n7,by rw [bJ,ic,XH];rfl,eI.trans hU⟩ (by omega)
 obtain rfl:k=l.length:=by omega
 rw [Ybi] at bJ;refine RT ?_;exact ⟨by rw [bJ];rfl,hS.ow hT⟩
def Z5z (n:Nat) (r:Rtn):Prop:=(0<=r.crr/\r.crr<n)/\((r.kind=1/\(0<=r.lo/\r.lo<=3652058)/\(0<=r.hi/\r.hi<=3652058)/\r.lo<=r.hi)\/(r.kind=2/\r.lo=0/\(0<=r.hi/\r.hi<=3652058))\/(r.kind=3/\r.lo=0/\r.hi=0))
instance (n:Nat) (r:Rtn):Decidable (Z5z n r):=by unfold Z5z;infer_instance
def ZmA (n:Nat) (l:List Rtn):Int:=if 32<l.length then 2 else if ∀ r∈l,Z5z n r then 0 else 5
theorem Z14 (d:Int) (w):CC 158 #[.I d] w λr w'=>r=.B (decide (0<=d/\d<=3652058))/\Stp [] w w':=by
 refine cW1 9 Tryz.func158 ?_
 (refine QP ?_ ?_<;>intro hg)
 refine RU ?_;exact ⟨by congr 1;rw [decide_eq_decide];exact ⟨λh=>⟨by omega,h⟩,λh=>h.2⟩,Stp.refl _ _⟩;refine RU ?_;exact ⟨by congr 1;symm;exact decide_eq_false (λh=>by omega),Stp.refl _ _⟩
theorem Z9L (v cv:Value) (l:List Rtn) (cs:List Crr) (w) (hs:SlV [] w v l) (bH:SlV [] w cv cs) :
 CC 104 #[v,cv] w λr w'=>r=.I (ZmA cs.length l)/\Stp [] w w':=by
 have eG:=hs.max;have bC:=bH.max;unfold ZmA;refine cW2 78 Tryz.func104 ?_;by_cases oZ:32<l.length;rw [if_pos oZ];refine RT ?_;exact ⟨rfl,Stp.refl _ _⟩;rw [if_neg oZ];refine QO ?_
 refine Zt (σ:=Nat) (λk=>[(0,v),(1,cv),(11,v),(12,.I (l.length:Int)),(13,.I (k:Int))])
  (λk W=>k<=l.length/\(∀ i (h:i<l.length),i<k->Z5z cs.length l[i])/\Stp [] w W) (λk=>l.length - k) 0 ⟨rfl,rfl,rfl,rfl,rfl,trivial⟩ ⟨Xu _,λi _ h=>absurd h (Xy _),Stp.refl _ _⟩ ?_
 rintro k w2 ⟨hk,aD,hS⟩;have aO:=hs.up hS;have bT:=bH.up hS;by_cases hlt:k<l.length;refine QO ?_;refine Z0 Z4 rfl ?_;rintro _ w3 ⟨b6,rfl,eH,e6,hU⟩;refine SA (us:=Z2.enc l[k]) e6 ?_;rintro _ w4 ⟨bq,e6⟩;replace hU:=hU.ow bq;replace bT:=bT.up hU;replace hS:=hS.trans hU;clear hU bq aO;have cx:Z5z cs.length l[k]->∀ i (h:i<l.length),i<k+1->Z5z cs.length l[i]:=λhv i h xt=>by
  by_cases e:i=k;subst e;exact hv;exact aD i h (by omega)
 have aY:¬ Z5z cs.length l[k]->(if ∀ r∈l,Z5z cs.length r then (0:Int) else 5)=5:=λh=>if_neg (λg=>h (g _ (Xc hlt)));generalize l[k]=y at *;clear aD;by_cases hv:Z5z cs.length y;replace cx:=cx hv;clear aY;unfold Z5z at hv;obtain ⟨⟨g1,g2⟩,⟨k1,g3,g4,g5⟩|⟨k1,g3,g4⟩|⟨k1,g3,g4⟩⟩:=hv;refine QO ?_;refine CP hS (Z14 _ _) λw5 hT hS=>?_;replace e6:=e6.up hT;rw [decide_eq_true g3];refine QO ?_;refine CP hS (Z14 _ _) λw6 hT hS=>?_;replace e6:=e6.up hT;rw [decide_eq_true g4];refine QO ?_;exact QL (k+1) ⟨hlt,cx,hS⟩ (XE hlt (XA k));refine QO ?_;refine CP hS (Z14 _ _) λw5 hT hS=>?_;replace e6:=e6.up hT;rw [decide_eq_true g4];refine QO ?_;exact QL (k+1) ⟨hlt,cx,hS⟩ (XE hlt (XA k));refine QO ?_;exact QL (k+1) ⟨hlt,cx,hS⟩ (XE hlt (XA k))
 . replace aY:=aY hv
   clear cx;rw [aY];unfold Z5z at hv;repeat'(first|refine W1 ?_|omega|refine VG ?_ ?_<;>intro hg|refine VC ?_ ?_<;>intro hc)
   all_goals try
    refine CP hS (Z14 _ _) λw5 hT hS=>?_;replace e6:=e6.up hT;repeat'(first|refine W1 ?_|omega|refine VG ?_ ?_<;>intro hg|refine VC ?_ ?_<;>intro hc)
   all_goals try
    refine CP hS (Z14 _ _) λw6 hT hS=>?_;replace e6:=e6.up hT;repeat'(first|refine W1 ?_|omega|refine VG ?_ ?_<;>intro hg|refine VC ?_ ?_<;>intro hc)
   all_goals
    refine RU ?_;exact ⟨rfl,hS⟩
 obtain rfl:k=l.length:=by omega
 have hf:(if ∀ r∈l,Z5z cs.length r then (0:Int) else 5)=0:=if_pos (λr hr=>by
  obtain ⟨i,hi,rfl⟩:=Xv hr;exact aD i hi hi)
 rw [hf];refine RT ?_;exact ⟨rfl,hS⟩
def Zda (n:Nat) (a:Atp):Prop:=(0<=a.entry/\a.entry<65536)/\(0<=a.party/\a.party<64)/\(0<=a.crr/\a.crr<n)/\(0<=a.sent/\a.sent<=3652058)
instance (n:Nat) (a:Atp):Decidable (Zda n a):=by unfold Zda;infer_instance
def Z82 (n:Nat) (a:Atp):Int:=if Zda n a then ZmA n a.rets else 5
def Z7x (n:Nat):List Atp->Int
 | []=>0
 | a :: l=>if Z82 n a≠0 then Z82 n a else Z7x n l
theorem Z9M (rv cv:Value) (a:Atp) (cs:List Crr) (w) (hs:SlV [] w rv a.rets) (bH:SlV [] w cv cs) :
 CC 68 #[.agg (atC a rv).toArray,cv] w λr w'=>r=.I (Z82 cs.length a)/\Stp [] w w':=by
 have bC:=bH.max;unfold Z82;refine cW2 36 Tryz.func68 ?_;refine W ?_;refine BX (Stp.refl [] w) λb1 w1 h1 e1 _ hS=>?_;replace e1:Blk w1 b1 32 (atC a rv):=e1;have bT:=bH.up hS;have aO:=hs.up hS;by_cases hv:Zda cs.length a;rw [if_pos hv];unfold Zda at hv;obtain ⟨g1,g2,g3,g4⟩:=hv;refine QO ?_;refine CP hS (Z9L rv cv a.rets cs _ aO bT) λw5 hT hS=>?_;refine RT ?_;exact ⟨rfl,hS⟩
 . rw [if_neg hv]
   unfold Zda at hv;repeat'(first|refine W1 ?_|omega|refine VG ?_ ?_<;>intro hg|refine VC ?_ ?_<;>intro hc)
   all_goals
    refine RU ?_;exact ⟨rfl,hS⟩
theorem Z9N (v cv:Value) (l:List Atp) (cs:List Crr) (w) (hl:l.length<=65536) (hs:SlV [] w v l) (bH:SlV [] w cv cs) :
 CC 30 #[v,cv] w λr w'=>r=.I (Z7x cs.length l)/\Stp [] w w':=by
 have eG:=hs.max;refine cW2 24 Tryz.func30 ?_;refine QO ?_
 refine Zt (σ:=Nat) (λk=>[(0,v),(1,cv),(11,v),(12,.I (l.length:Int)),(13,.I (k:Int))])
  (λk W=>k<=l.length/\Z7x cs.length l=Z7x cs.length (l.drop k)/\Stp [] w W) (λk=>l.length - k) 0 ⟨rfl,rfl,rfl,rfl,rfl,trivial⟩ ⟨Xu _,rfl,Stp.refl _ _⟩ ?_
 rintro k w2 ⟨hk,bJ,hS⟩;have aO:=hs.up hS;have bT:=bH.up hS;by_cases hlt:k<l.length;have hd:l.drop k=l[k] :: l.drop (k+1):=Yat hlt;rw [hd] at bJ;have o7:Z7x cs.length (l[k] :: l.drop (k+1))=if Z82 cs.length l[k]≠0 then Z82 cs.length l[k] else Z7x cs.length (l.drop (k+1)):=rfl
 rw [o7] at bJ;obtain ⟨cs0,⟨rv,rfl,iM⟩,am⟩:=aO.cell hlt;refine QO ?_;refine Za (Z1C rfl rfl aO hlt ⟨rv,rfl,iM⟩ am) rfl ?_;refine Z0 Z4 rfl ?_;rintro _ w3 ⟨b6,rfl,eH,e6,hU⟩;refine SB (us:=atC l[k] rv) (Zeu iM.one) e6 ?_;rintro _ w4 ⟨bq,e6⟩;replace hU:=hU.ow bq;replace bT:=bT.up hU;replace iM:=iM.up hU;replace hS:=hS.trans hU;clear hU bq am aO;refine QO ?_;refine CP hS (Z9M rv cv l[k] cs _ iM bT) λw5 hT hS=>?_;by_cases he:Z82 cs.length l[k]=0;rw [he] at bJ ⊢;refine QO ?_;exact QL (k+1) ⟨hlt,bJ,hS⟩ (XE hlt (XA k));rw [if_pos he] at bJ;generalize Z82 cs.length l[k]=z at *;refine RT ?_;exact ⟨by rw [bJ],hS⟩;obtain rfl:k=l.length:=by omega
 rw [Ybi] at bJ;refine RT ?_;exact ⟨by rw [bJ];rfl,hS⟩
def Z2K (h:Hol):Bool:=decide (1<=h.month/\h.month<=12)
def Z6f (h:Hol):Bool:=decide (0<=h.wd/\h.wd<=6)
def ZfV (h:Hol):Bool:=decide (1<=h.day/\h.day<=31)
def ZfW (h:Hol):Bool:=decide (1<=h.nth/\h.nth<=5)
def Zjt (h:Hol):Bool:=decide (-100<=h.off/\h.off<=100)
def Z3t (h:Hol):Bool:=if h.kind=1 then Z2K h && ZfV h else if h.kind=2 then Z2K h && Z6f h && ZfW h else if h.kind=3 then Z2K h && Z6f h else Zjt h
def Z5A (h:Hol):Bool:=decide ((1<=h.kind/\h.kind<=4)/\(0<=h.move/\h.move<=2)/\1<=h.first/\h.first<=h.last/\h.last<=9999) && Z3t h
def Zdb (l:List Hol):Int:=if 100<l.length then 2 else if l.all Z5A then 0 else 5
theorem Z15 {α:Type} (f:α->Bool) (l:List α):l.all f=true↔∀ j (h:j<l.length),f l[j]=true:=by
 rw [Xx];exact ⟨λh j hj=>h _ (Xc hj),λh x hx=>by obtain ⟨j,hj,rfl⟩:=Xv hx;exact h j hj⟩
theorem Z0T (n a b:Int) (w):CC 107 #[.I n,.I a,.I b] w λr w'=>r=.B (decide (a<=n/\n<=b))/\Stp [] w w':=
 (Z10 n a b w).mono (by rintro _ _ ⟨v,rfl,h1,rfl⟩;exact ⟨v,rfl,h1,Stp.refl _ _⟩)
theorem ZmB (h:Hol) (w):CC 159 #[aG h] w λr w'=>r=.B (Z2K h && ZfV h)/\Stp [] w w':=by
 refine cW1 11 Tryz.func159 ?_;refine W ?_;refine BX (Stp.refl [] w) λb1 w1 h1 e1 _ hS=>?_;replace e1:Blk w1 b1 122 (Z2.enc h):=e1;repeat'(first|refine W1 ?_|omega|refine VG ?_ ?_<;>intro hg|refine VC ?_ ?_<;>intro hc)
 refine CP hS (Z0T _ _ _ _) λw2 hT hS=>?_;replace e1:=e1.up hT;show WL _ _ _ _ _ ((5,.B (Z2K h)) :: _) _;cases Z2K h;focus repeat'(first|refine W1 ?_|omega|refine VG ?_ ?_<;>intro hg|refine VC ?_ ?_<;>intro hc)
 refine RU ?_;exact ⟨rfl,hS⟩;focus repeat'(first|refine W1 ?_|omega|refine VG ?_ ?_<;>intro hg|refine VC ?_ ?_<;>intro hc)
 refine CP hS (Z0T _ _ _ _) λw3 hT hS=>?_;show WL _ _ _ _ _ ((9,.B (ZfV h)) :: _) _;focus repeat'(first|refine W1 ?_|omega|refine VG ?_ ?_<;>intro hg|refine VC ?_ ?_<;>intro hc)
 refine RU ?_;exact ⟨rfl,hS⟩
theorem ZmC (h:Hol) (w):CC 166 #[aG h] w λr w'=>r=.B (Z2K h && Z6f h)/\Stp [] w w':=by
 refine cW1 11 Tryz.func166 ?_;refine W ?_;refine BX (Stp.refl [] w) λb1 w1 h1 e1 _ hS=>?_;replace e1:Blk w1 b1 122 (Z2.enc h):=e1;repeat'(first|refine W1 ?_|omega|refine VG ?_ ?_<;>intro hg|refine VC ?_ ?_<;>intro hc)
 refine CP hS (Z0T _ _ _ _) λw2 hT hS=>?_;replace e1:=e1.up hT;show WL _ _ _ _ _ ((5,.B (Z2K h)) :: _) _;cases Z2K h;focus repeat'(first|refine W1 ?_|omega|refine VG ?_ ?_<;>intro hg|refine VC ?_ ?_<;>intro hc)
 refine RU ?_;exact ⟨rfl,hS⟩;focus repeat'(first|refine W1 ?_|omega|refine VG ?_ ?_<;>intro hg|refine VC ?_ ?_<;>intro hc)
 refine CP hS (Z0T _ _ _ _) λw3 hT hS=>?_;show WL _ _ _ _ _ ((9,.B (Z6f h)) :: _) _;focus repeat'(first|refine W1 ?_|omega|refine VG ?_ ?_<;>intro hg|refine VC ?_ ?_<;>intro hc)
 refine RU ?_;exact ⟨rfl,hS⟩
theorem ZmD (h:Hol) (w):CC 162 #[aG h] w λr w'=>r=.B (Z2K h && Z6f h && ZfW h)/\Stp [] w w':=by
 refine cW1 16 Tryz.func162 ?_;refine W ?_;refine BX (Stp.refl [] w) λb1 w1 h1 e1 _ hS=>?_;replace e1:Blk w1 b1 122 (Z2.enc h):=e1;repeat'(first|refine W1 ?_|omega|refine VG ?_ ?_<;>intro hg|refine VC ?_ ?_<;>intro hc)
 refine CP hS (Z0T _ _ _ _) λw2 hT hS=>?_;replace e1:=e1.up hT;show WL _ _ _ _ _ ((5,.B (Z2K h)) :: _) _;cases Z2K h;focus repeat'(first|refine W1 ?_|omega|refine VG ?_ ?_<;>intro hg|refine VC ?_ ?_<;>intro hc)
 refine RU ?_;exact ⟨rfl,hS⟩;focus repeat'(first|refine W1 ?_|omega|refine VG ?_ ?_<;>intro hg|refine VC ?_ ?_<;>intro hc)
 refine CP hS (Z0T _ _ _ _) λw3 hT hS=>?_;replace e1:=e1.up hT;show WL _ _ _ _ _ ((9,.B (Z6f h)) :: _) _;cases Z6f h;focus repeat'(first|refine W1 ?_|omega|refine VG ?_ ?_<;>intro hg|refine VC ?_ ?_<;>intro hc)
 refine RU ?_;exact ⟨rfl,hS⟩;focus repeat'(first|refine W1 ?_|omega|refine VG ?_ ?_<;>intro hg|refine VC ?_ ?_<;>intro hc)
 refine CP hS (Z0T _ _ _ _) λw4 hT hS=>?_;show WL _ _ _ _ _ ((14,.B (ZfW h)) :: _) _;focus repeat'(first|refine W1 ?_|omega|refine VG ?_ ?_<;>intro hg|refine VC ?_ ?_<;>intro hc)
 refine RU ?_;exact ⟨rfl,hS⟩
theorem ZmE (h:Hol) (w):CC 168 #[aG h] w λr w'=>r=.B (Zjt h)/\Stp [] w w':=by
 refine cW1 6 Tryz.func168 ?_;refine W ?_;refine BX (Stp.refl [] w) λb1 w1 h1 e1 _ hS=>?_;replace e1:Blk w1 b1 122 (Z2.enc h):=e1;repeat'(first|refine W1 ?_|omega|refine VG ?_ ?_<;>intro hg|refine VC ?_ ?_<;>intro hc)
 refine CP hS (Z0T _ _ _ _) λw2 hT hS=>?_;repeat'(first|refine W1 ?_|omega|refine VG ?_ ?_<;>intro hg|refine VC ?_ ?_<;>intro hc)
 refine RU ?_;exact ⟨rfl,hS⟩
def Z9O (f:Nat->Int):Nat->Int
 | 0=>0
 | n+1=>if Z9O f n≠0 then Z9O f n else f n
theorem Z3L {f:Nat->Int}:∀ {n:Nat},(∀ j,j<n->f j=0)->Z9O f n=0
 | 0,_=>rfl
 | n + 1, h => by
   rw [Z9O,Z3L (λj hj=>h j (by omega)),if_neg (by simp)];exact h n (XA n)
theorem Zby {f:Nat->Int} {k:Nat} (h:∀ j,j<k->f j=0) (hk:f k≠0):∀ {n:Nat},k<n->Z9O f n=f k
 | 0,hn=>absurd hn (Xy _)
 | n + 1, hn => by
   by_cases e:k=n;subst e;rw [Z9O,Z3L h,if_neg (by simp)];rw [Z9O,Zby h hk (show k<n by omega),if_pos hk]
def Zbz (l:List Spn) (i:Nat):Int:=
 if ¬ ((0<=(l.getD i (0,0)).1/\(l.getD i (0,0)).1<=8589934592)/\-900<=(l.getD i (0,0)).2/\(l.getD i (0,0)).2<=900) then 5 else if 0<i/\(l.getD i (0,0)).1 - 2880<(l.getD (i - 1) (0,0)).1 then 12 else 0
def Zdc (z:Int) (l:List Spn):Int:=if 100<l.length then 2 else if ¬ (-900<=z/\z<=900) then 5 else Z9O (Zbz l) l.length
theorem Z7y (n:Int) (w):CC 108 #[.I n] w λr w'=>r=.B (decide (-900<=n/\n<=900))/\Stp [] w w':=by
 refine cW1 9 Tryz.func108 ?_;repeat'(first|refine W1 ?_|omega|refine VG ?_ ?_<;>intro hg|refine VC ?_ ?_<;>intro hc)
 refine RU ?_;exact ⟨by congr 1;rw [decide_eq_decide];exact ⟨λh=>⟨by omega,h⟩,λh=>h.2⟩,Stp.refl _ _⟩;refine RU ?_;exact ⟨by congr 1;symm;exact decide_eq_false (λh=>by omega),Stp.refl _ _⟩
theorem Zdd (v:Value) (z:Int) (l:List Spn) (w) (hs:SlV [] w v l):CC 72 #[.agg #[.I z,v]] w λr w'=>r=.I (Zdc z l)/\Stp [] w w':=by
 have eG:=hs.max;unfold Zdc;refine cW1 51 Tryz.func72 ?_;refine W ?_;refine BX (Stp.refl [] w) λb1 w1 h1 e1 _ hS=>?_;replace e1:Blk w1 b1 45 [.I z,v]:=e1;replace hs:=hs.up hS;by_cases eW:100<l.length;rw [if_pos eW];focus repeat'(first|refine W1 ?_|omega|refine VG ?_ ?_<;>intro hg|refine VC ?_ ?_<;>intro hc)
 refine RU ?_;exact ⟨rfl,hS⟩;rw [if_neg eW];repeat'(first|refine W1 ?_|omega|refine VG ?_ ?_<;>intro hg|refine VC ?_ ?_<;>intro hc)
 refine CP hS (Z7y _ _) λw2 hT hS=>?_;replace e1:=e1.up hT;replace hs:=hs.up hT;by_cases hz:-900<=z/\z<=900
 case neg=>
  rw [decide_eq_false hz,if_pos hz];repeat'(first|refine W1 ?_|omega|refine VG ?_ ?_<;>intro hg|refine VC ?_ ?_<;>intro hc)
  refine RU ?_;exact ⟨rfl,hS⟩
 rw [decide_eq_true hz,if_neg (not_not_intro hz)];repeat'(first|refine W1 ?_|omega|refine VG ?_ ?_<;>intro hg|refine VC ?_ ?_<;>intro hc)
 refine LP (σ:=Nat) (λk=>[(1,pQ b1),(2,.I 0),(16,v),(17,.I (l.length:Int)),(18,.I (k:Int))]) (λk w'=>k<=l.length/\Stp [] w2 w'/\∀ j,j<k->Zbz l j=0) (λk=>l.length - k) 0 ⟨Xu _,Stp.refl _ _,λj h=>absurd h (Xy _)⟩ ?_;rintro k w4 ⟨hk,T,bG⟩;have aO:=hs.up T;have q1:=e1.up T;by_cases hlt:k<l.length
 . have hg:l.getD k (0,0)=l[k]:=by simp [hlt]
   have nQ:Zbz l k=(if ¬ ((0<=l[k].1/\l[k].1<=8589934592)/\-900<=l[k].2/\l[k].2<=900) then (5:Int) else if 0<k/\l[k].1 - 2880<(l.getD (k - 1) (0,0)).1 then 12 else 0):=by unfold Zbz;rw [hg]
   have dx:∀ c,(if ¬ ((0<=l[k].1/\l[k].1<=8589934592)/\-900<=l[k].2/\l[k].2<=900) then (5:Int) else if 0<k/\l[k].1 - 2880<(l.getD (k - 1) (0,0)).1 then 12 else 0)=c->c≠0->Z9O (Zbz l) l.length=c:=λc h hc=>by rw [Zby bG (by rw [nQ,h];exact hc) hlt,nQ,h]
   have go:(if ¬ ((0<=l[k].1/\l[k].1<=8589934592)/\-900<=l[k].2/\l[k].2<=900) then (5:Int) else if 0<k/\l[k].1 - 2880<(l.getD (k - 1) (0,0)).1 then 12 else 0)=0->∀ j,j<k+1->Zbz l j=0:=λhb j hj=>by
    by_cases e:j=k;subst e;exact nQ.trans hb;exact bG j (by omega)
   clear nQ;repeat'(first|refine W1 ?_|omega|refine VG ?_ ?_<;>intro hg|refine VC ?_ ?_<;>intro hc)
   refine Z0 Z4 rfl ?_;rintro _ w5 ⟨b4,rfl,bE,e4,hU⟩;repeat'(first|refine W1 ?_|omega|refine VG ?_ ?_<;>intro hg|refine VC ?_ ?_<;>intro hc)
   refine SA (us:=Z2.enc l[k]) e4 ?_;rintro _ w6 ⟨bq,e4⟩;replace hU:=hU.ow bq;replace q1:=q1.up hU;replace aO:=aO.up hU;replace T:=T.trans hU;clear hU bq;by_cases ga:0<=l[k].1/\l[k].1<=8589934592
   case neg=>
    rw [dx 5 (by rw [if_pos (λg=>ga g.1)]) (by decide)];repeat'(first|refine W1 ?_|omega|refine VG ?_ ?_<;>intro hg|refine VC ?_ ?_<;>intro hc)
    all_goals
     refine RU ?_;exact ⟨rfl,hS.trans T⟩
   repeat'(first|refine W1 ?_|omega|refine VG ?_ ?_<;>intro hg|refine VC ?_ ?_<;>intro hc)
   refine CP T (Z7y _ _) λw7 hU T=>?_;replace q1:=q1.up hU;replace aO:=aO.up hU;replace e4:=e4.up hU;by_cases gb:-900<=l[k].2/\l[k].2<=900
   case neg=>
    rw [decide_eq_false gb];rw [dx 5 (by rw [if_pos (λg=>gb g.2)]) (by decide)];repeat'(first|refine W1 ?_|omega|refine VG ?_ ?_<;>intro hg|refine VC ?_ ?_<;>intro hc)
    refine RU ?_;exact ⟨rfl,hS.trans T⟩
   rw [decide_eq_true gb];rw [if_neg (not_not_intro ⟨ga,gb⟩)] at dx go;repeat'(first|refine W1 ?_|omega|refine VG ?_ ?_<;>intro hg|refine VC ?_ ?_<;>intro hc)
   cases k with
   | zero=>
     rw [if_neg (by omega)] at dx go;refine ZDr 16 [] [] [(0,0),(1,0),(2,0),(3,0),(4,1),(5,0),(6,0),(7,1),(8,0),(9,0),(10,0),(11,0),(12,1),(13,0),(14,0),(15,0)] (λw1 ae=>?_);replace T:=T.trans ae;repeat'(first|refine D1 ?_|omega|refine Zb rfl rfl rfl rfl (λhg=>?_) (λhg=>?_)|(refine Z7 rfl rfl rfl rfl (λhg=>?_) (λhg=>?_)<;>refine D1 ?_)|fail)
     repeat'(first|refine W1 ?_|omega|refine VG ?_ ?_<;>intro hg|refine VC ?_ ?_<;>intro hc)
     exact QL 1 ⟨hlt,T,go rfl⟩ (XE hlt (XA 0))
   | succ i=>
     have dw:((i+1:Nat):Int) - 1=(i:Int):=by omega
     have iK:i<l.length:=by omega
     have vC:l.getD (i+1 - 1) (0,0)=l[i]:=by simp [iK]
     have iU:=bG i (XA i);unfold Zbz at iU;rw [show l.getD i (0,0)=l[i] by simp [iK]] at iU;have vD:0<=l[i].1/\l[i].1<=8589934592:=by
      by_cases g:(0<=l[i].1/\l[i].1<=8589934592)/\-900<=l[i].2/\l[i].2<=900;exact g.1;rw [if_pos g] at iU;cases iU
     clear iU bG;rw [vC] at dx go;refine ZDr 16 [] [] [(0,0),(1,0),(2,0),(3,0),(4,1),(5,0),(6,0),(7,1),(8,0),(9,0),(10,0),(11,0),(12,1),(13,0),(14,0),(15,0)] (λw1 ae=>?_);replace q1:=q1.up ae;replace aO:=aO.up ae;replace e4:=e4.up ae;replace T:=T.trans ae;clear ae;repeat'(first|refine D1 ?_|omega|refine Zb rfl rfl rfl rfl (λhg=>?_) (λhg=>?_)|(refine Z7 rfl rfl rfl rfl (λhg=>?_) (λhg=>?_)<;>refine D1 ?_)|fail)
     by_cases gc:l[i+1].1 - 2880<l[i].1;rw [dx 12 (if_pos ⟨by omega,gc⟩) (by decide)];focus repeat'(first|refine W1 ?_|omega|refine VG ?_ ?_<;>intro hg|refine VC ?_ ?_<;>intro hc)
     refine RU ?_;exact ⟨rfl,hS.trans T⟩;focus repeat'(first|refine W1 ?_|omega|refine VG ?_ ?_<;>intro hg|refine VC ?_ ?_<;>intro hc)
     exact QL (i+2) ⟨hlt,T,go (if_neg (λg=>gc g.2))⟩ (XE hlt (XA (i+1)))
 rw [Z3L (λj hj=>bG j (by omega))];focus repeat'(first|refine W1 ?_|omega|refine VG ?_ ?_<;>intro hg|refine VC ?_ ?_<;>intro hc)
 refine RU ?_;exact ⟨rfl,hS.trans T⟩
theorem Z1J (n a b:Int) (w):CC 82 #[.I n,.I a,.I b] w λr w'=>r=.B (decide (a<=n/\n<=b))/\Stp [] w w':=by
 refine cW3 15 Tryz.func82 ?_;repeat'(first|refine W1 ?_|omega|refine VG ?_ ?_<;>intro hg|refine VC ?_ ?_<;>intro hc)
 refine RU ?_;exact ⟨by congr 1;rw [decide_eq_decide];exact ⟨λh=>⟨by omega,h⟩,λh=>h.2⟩,Stp.refl _ _⟩;refine RU ?_;exact ⟨by congr 1;symm;exact decide_eq_false (λh=>by omega),Stp.refl _ _⟩
theorem Z4R (c:Int) (w):CC 171 #[.int .u8 c] w λr w'=>r=.B (decide (97<=c/\c<=122))/\Stp [] w w':=by
 refine cW1 9 Tryz.func171 ?_;repeat'(first|refine W1 ?_|omega|refine VG ?_ ?_<;>intro hg|refine VC ?_ ?_<;>intro hc)
 refine RU ?_;exact ⟨by congr 1;rw [decide_eq_decide];exact ⟨λh=>⟨by omega,h⟩,λh=>h.2⟩,Stp.refl _ _⟩;refine RU ?_;exact ⟨by congr 1;symm;exact decide_eq_false (λh=>by omega),Stp.refl _ _⟩
theorem ZbA (c:Int) (w):CC 172 #[.int .u8 c] w λr w'=>r=.B (decide (48<=c/\c<=57))/\Stp [] w w':=by
 refine cW1 9 Tryz.func172 ?_;repeat'(first|refine W1 ?_|omega|refine VG ?_ ?_<;>intro hg|refine VC ?_ ?_<;>intro hc)
 refine RU ?_;exact ⟨by congr 1;rw [decide_eq_decide];exact ⟨λh=>⟨by omega,h⟩,λh=>h.2⟩,Stp.refl _ _⟩;refine RU ?_;exact ⟨by congr 1;symm;exact decide_eq_false (λh=>by omega),Stp.refl _ _⟩
theorem Zde (s:Str) (w):CC 109 #[str s] w λr w'=>r=.B (Z2R s)/\Stp [] w w':=by
 have yes:(∀ i,i<s.length->ltr i (J5 s i))/\s≠[]/\s.length<=12->Z2R s=true:=λh=>decide_eq_true h;have no:¬ ((∀ i,i<s.length->ltr i (J5 s i))/\s≠[]/\s.length<=12)->Z2R s=false:=λh=>decide_eq_false h;generalize Z2R s=res at yes no ⊢;refine cW1 35 Tryz.func109 ?_;by_cases h0:s=[]
 rw [no (λh=>h.2.1 h0)];subst h0;focus repeat'(first|refine W1 ?_|omega|refine VG ?_ ?_<;>intro hg|refine VC ?_ ?_<;>intro hc)
 refine RU ?_;exact ⟨rfl,Stp.refl _ _⟩;have aZ:¬ s.length<=0:=Nat.not_le.2 (Yaf.2 h0);by_cases iC:s.length<=12
 case neg=>
  rw [no (λh=>iC h.2.2)];repeat'(first|omega|contradiction|refine W1 ?_|refine VG ?_ ?_<;>intro hg|refine VC ?_ ?_<;>intro hc)
  all_goals
   refine RU ?_;exact ⟨rfl,Stp.refl _ _⟩
 repeat'(first|omega|contradiction|refine W1 ?_|refine VG ?_ ?_<;>intro hg|refine VC ?_ ?_<;>intro hc)
 refine Z0c (a:=s) (i:=0) rfl rfl rfl (Nat.not_le.1 aZ) rfl ?_;repeat'(first|refine W1 ?_|omega|refine VG ?_ ?_<;>intro hg|refine VC ?_ ?_<;>intro hc)
 refine CP (Stp.refl [] _) (Z4R _ _) λw1 hT hS=>?_;by_cases f0:97<=J5 s 0/\J5 s 0<=122
 case neg=>
  rw [decide_eq_false f0,no (λh=>by
   have:=h.1 0 (Nat.not_le.1 aZ);unfold ltr at this;omega)]
  repeat'(first|refine W1 ?_|omega|refine VG ?_ ?_<;>intro hg|refine VC ?_ ?_<;>intro hc)
  refine RU ?_;exact ⟨rfl,hS⟩
 rw [decide_eq_true f0];repeat'(first|refine W1 ?_|omega|refine VG ?_ ?_<;>intro hg|refine VC ?_ ?_<;>intro hc)
 clear hT;refine LP (σ:=Nat) (λi=>[(0,str s),(2,.B false),(3,.I (i:Int))]) (λi w'=>i<=s.length/\Stp [] w w'/\∀ j,j<i->ltr j (J5 s j)) (λi=>s.length - i) 0 ⟨Xu _,hS,λj h=>absurd h (Xy _)⟩ ?_;rintro i w2 ⟨hi,T,aD⟩;by_cases mU:¬ s.length<=i;have aY:¬ ltr i (J5 s i)->res=false:=λh=>no (λg=>h (g.1 i (by omega)))
 have cx:ltr i (J5 s i)->∀ j,j<i+1->ltr j (J5 s j):=λh j hj=>by
  by_cases e:j=i;subst e;exact h;exact aD j (by omega)
 have hz:i=0->97<=J5 s i/\J5 s i<=122:=λh=>by rw [h];exact f0
 unfold ltr at aY cx;focus repeat'(first|refine W1 ?_|omega|refine VG ?_ ?_<;>intro hg|refine VC ?_ ?_<;>intro hc)
 refine CP T (Z4R _ _) λw3 hT T=>?_;by_cases c1:97<=J5 s i/\J5 s i<=122;rw [decide_eq_true c1];focus repeat'(first|refine W1 ?_|omega|refine VG ?_ ?_<;>intro hg|refine VC ?_ ?_<;>intro hc)
 exact QL (i+1) ⟨by omega,T,cx (.inl c1)⟩ (by omega);rw [decide_eq_false c1];focus repeat'(first|refine W1 ?_|omega|refine VG ?_ ?_<;>intro hg|refine VC ?_ ?_<;>intro hc)
 refine CP T (ZbA _ _) λw4 hT T=>?_;by_cases c2:48<=J5 s i/\J5 s i<=57;rw [decide_eq_true c2];focus repeat'(first|refine W1 ?_|omega|refine VG ?_ ?_<;>intro hg|refine VC ?_ ?_<;>intro hc)
 exact QL (i+1) ⟨by omega,T,cx (.inr ⟨c2.1,c2.2,λh=>c1 (hz h)⟩)⟩ (by omega);rw [decide_eq_false c2,aY (by omega)];focus repeat'(first|refine W1 ?_|omega|refine VG ?_ ?_<;>intro hg|refine VC ?_ ?_<;>intro hc)
 refine RU ?_;exact ⟨rfl,T⟩;rw [yes ⟨λj hj=>aD j (by omega),h0,iC⟩];focus repeat'(first|refine W1 ?_|omega|refine VG ?_ ?_<;>intro hg|refine VC ?_ ?_<;>intro hc)
 refine RU ?_;exact ⟨rfl,T⟩
theorem Zdf (v:Value) (l:List Hol) (w) (hs:SlV [] w v l):CC 70 #[v] w λr w'=>r=.I (Zdb l)/\Stp [] w w':=by
 have eG:=hs.max;unfold Zdb;refine cW1 55 Tryz.func70 ?_;by_cases eW:100<l.length;rw [if_pos eW];focus repeat'(first|refine W1 ?_|omega|refine VG ?_ ?_<;>intro hg|refine VC ?_ ?_<;>intro hc)
 refine RU ?_;exact ⟨rfl,Stp.refl _ _⟩;rw [if_neg eW];repeat'(first|refine W1 ?_|omega|refine VG ?_ ?_<;>intro hg|refine VC ?_ ?_<;>intro hc)
 refine CL (Z8v _) ?_;rintro _ w1 ⟨rfl,hS⟩;refine Z0 Z4 rfl ?_;rintro _ w2 ⟨b3,rfl,eD,e3,ak⟩;refine SB (us:=Z4f) (by intro u hu;simp [Z4f] at hu;rcases hu with rfl|rfl|rfl|rfl|rfl|rfl|rfl|rfl<;>rfl) e3 ?_;rintro _ w3 ⟨hT,k3⟩;replace hS:=hS.trans (ak.ow hT);clear e3 ak hT;repeat'(first|refine W1 ?_|omega|refine VG ?_ ?_<;>intro hg|refine VC ?_ ?_<;>intro hc)
 refine LP (σ:=Nat) (λk=>[(2,.I 0),(3,pQ b3),(10,v),(11,.I (l.length:Int)),(12,.I (k:Int))]) (λk w'=>k<=l.length/\Stp [] w3 w'/\∀ j (h:j<l.length),j<k->Z5A l[j]=true) (λk=>l.length - k) 0 ⟨Xu _,Stp.refl _ _,λj _ h=>absurd h (Xy _)⟩ ?_;rintro k w4 ⟨hk,T,hz⟩;have aO:=hs.up (hS.trans T);have q3:=k3.up T;by_cases hlt:k<l.length
 . repeat'(first|refine W1 ?_|omega|refine VG ?_ ?_<;>intro hg|refine VC ?_ ?_<;>intro hc)
   refine Z0 Z4 rfl ?_;rintro _ w5 ⟨b5,rfl,iG,e5,hU⟩;refine SA (us:=Z2.enc l[k]) e5 ?_;rintro _ w6 ⟨bq,e5⟩;replace hU:=hU.ow bq;replace q3:=q3.up hU;replace T:=T.trans hU;clear hU bq aO;have no:Z5A l[k]=false->l.all Z5A=false:=λhb=>by
    rw [Ybe];intro h;have:=(Z15 _ _).1 h k hlt;rw [hb] at this;cases this
   have go:Z5A l[k]=true->∀ j (h:j<l.length),j<k+1->Z5A l[j]=true:=λhb j h hj=>by
    by_cases e:j=k;subst e;exact hb;exact hz j h (by omega)
   generalize l[k]=h at *;repeat'(first|refine W1 ?_|omega|refine VG ?_ ?_<;>intro hg|refine VC ?_ ?_<;>intro hc)
   refine ZDr 38 [] [] [(0,0),(1,1),(2,2),(3,0),(4,0),(5,0),(6,1),(7,2),(8,0),(9,0),(10,0),(11,0),(12,1),(13,0),(14,0),(15,0),(16,0),(17,1),(18,0),(19,1),(20,0),(21,0),(22,0),(23,0),(24,1),(25,0),(26,0),(27,0),(28,0),(29,1),(30,0),(31,0),(32,0),(33,1),(34,1),(35,2),(36,0),(37,0)] (λw1 ae=>?_);replace q3:=q3.up ae;replace e5:=e5.up ae;replace T:=T.trans ae;clear ae;repeat'(first|refine D1 ?_|omega|refine Zb rfl rfl rfl rfl (λhg=>?_) (λhg=>?_)|(refine Z7 rfl rfl rfl rfl (λhg=>?_) (λhg=>?_)<;>refine D1 ?_)|fail)
   refine DP T (Z0T _ _ _ _) λw7 hU T=>?_;replace q3:=q3.up hU;replace e5:=e5.up hU;by_cases g1:1<=h.kind/\h.kind<=4
   case neg=>
    rw [decide_eq_false g1];rw [no (by unfold Z5A;rw [decide_eq_false (λg=>g1 g.1),YbM])];repeat'(first|refine D1 ?_|omega|refine Zb rfl rfl rfl rfl (λhg=>?_) (λhg=>?_)|(refine Z7 rfl rfl rfl rfl (λhg=>?_) (λhg=>?_)<;>refine D1 ?_)|fail)
    repeat'(first|refine W1 ?_|omega|refine VG ?_ ?_<;>intro hg|refine VC ?_ ?_<;>intro hc)
    refine RU ?_;exact ⟨rfl,hS.trans T⟩
   rw [decide_eq_true g1];repeat'(first|refine D1 ?_|omega|refine Zb rfl rfl rfl rfl (λhg=>?_) (λhg=>?_)|(refine Z7 rfl rfl rfl rfl (λhg=>?_) (λhg=>?_)<;>refine D1 ?_)|fail)
   refine DP T (Z0T _ _ _ _) λw8 hU T=>?_;replace q3:=q3.up hU;replace e5:=e5.up hU;by_cases g2:0<=h.move/\h.move<=2
   case neg=>
    rw [decide_eq_false g2];rw [no (by unfold Z5A;rw [decide_eq_false (λg=>g2 g.2.1),YbM])];repeat'(first|refine D1 ?_|omega|refine Zb rfl rfl rfl rfl (λhg=>?_) (λhg=>?_)|(refine Z7 rfl rfl rfl rfl (λhg=>?_) (λhg=>?_)<;>refine D1 ?_)|fail)
    repeat'(first|refine W1 ?_|omega|refine VG ?_ ?_<;>intro hg|refine VC ?_ ?_<;>intro hc)
    refine RU ?_;exact ⟨rfl,hS.trans T⟩
   rw [decide_eq_true g2];by_cases g3:1<=h.first/\h.first<=h.last/\h.last<=9999
   case neg=>
    rw [no (by unfold Z5A;rw [decide_eq_false (λg=>g3 g.2.2),YbM])];repeat'(first|refine D1 ?_|omega|refine Zb rfl rfl rfl rfl (λhg=>?_) (λhg=>?_)|(refine Z7 rfl rfl rfl rfl (λhg=>?_) (λhg=>?_)<;>refine D1 ?_)|fail)
    all_goals
     repeat'(first|refine W1 ?_|omega|refine VG ?_ ?_<;>intro hg|refine VC ?_ ?_<;>intro hc)
     refine RU ?_;exact ⟨rfl,hS.trans T⟩
   have gd:Z5A h=Z3t h:=by
    unfold Z5A;rw [decide_eq_true ⟨g1,g2,g3⟩,Ybl]
   rw [gd] at no go;have bY:h.kind=1\/h.kind=2\/h.kind=3\/h.kind=4:=by omega
   rcases bY with bY|bY|bY|bY
   have fM:Z3t h=(Z2K h && ZfV h):=by
    unfold Z3t;rw [bY];rfl
   rw [fM] at no go;have dw:h.kind - 1=((0:Nat):Int):=by omega
   focus repeat'(first|refine D1 ?_|omega|refine Zb rfl rfl rfl rfl (λhg=>?_) (λhg=>?_)|(refine Z7 rfl rfl rfl rfl (λhg=>?_) (λhg=>?_)<;>refine D1 ?_)|fail)
   refine Z1d rfl (Z0P (len:=4) (i:=0) rfl rfl rfl dw (by decide) rfl ?_);focus repeat'(first|refine D1 ?_|omega|refine Zb rfl rfl rfl rfl (λhg=>?_) (λhg=>?_)|(refine Z7 rfl rfl rfl rfl (λhg=>?_) (λhg=>?_)<;>refine D1 ?_)|fail)
   refine DP T (ZmB h _) λw9 hU T=>?_;generalize (Z2K h && ZfV h)=bb at no go ⊢;cases bb;rw [no rfl];focus repeat'(first|refine D1 ?_|omega|refine Zb rfl rfl rfl rfl (λhg=>?_) (λhg=>?_)|(refine Z7 rfl rfl rfl rfl (λhg=>?_) (λhg=>?_)<;>refine D1 ?_)|fail)
   focus repeat'(first|refine W1 ?_|omega|refine VG ?_ ?_<;>intro hg|refine VC ?_ ?_<;>intro hc)
   refine RU ?_;exact ⟨rfl,hS.trans T⟩;focus repeat'(first|refine D1 ?_|omega|refine Zb rfl rfl rfl rfl (λhg=>?_) (λhg=>?_)|(refine Z7 rfl rfl rfl rfl (λhg=>?_) (λhg=>?_)<;>refine D1 ?_)|fail)
   focus repeat'(first|refine W1 ?_|omega|refine VG ?_ ?_<;>intro hg|refine VC ?_ ?_<;>intro hc)
   exact QL (k+1) ⟨hlt,T,go rfl⟩ (XE hlt (XA k));have fM:Z3t h=(Z2K h && Z6f h && ZfW h):=by
    unfold Z3t;rw [bY];rfl
   rw [fM] at no go;have dw:h.kind - 1=((1:Nat):Int):=by omega
   focus repeat'(first|refine D1 ?_|omega|refine Zb rfl rfl rfl rfl (λhg=>?_) (λhg=>?_)|(refine Z7 rfl rfl rfl rfl (λhg=>?_) (λhg=>?_)<;>refine D1 ?_)|fail)
   refine Z1d rfl (Z0P (len:=4) (i:=1) rfl rfl rfl dw (by decide) rfl ?_);focus repeat'(first|refine D1 ?_|omega|refine Zb rfl rfl rfl rfl (λhg=>?_) (λhg=>?_)|(refine Z7 rfl rfl rfl rfl (λhg=>?_) (λhg=>?_)<;>refine D1 ?_)|fail)
   refine DP T (ZmD h _) λw9 hU T=>?_;generalize (Z2K h && Z6f h && ZfW h)=bb at no go ⊢;cases bb;rw [no rfl];focus repeat'(first|refine D1 ?_|omega|refine Zb rfl rfl rfl rfl (λhg=>?_) (λhg=>?_)|(refine Z7 rfl rfl rfl rfl (λhg=>?_) (λhg=>?_)<;>refine D1 ?_)|fail)
   focus repeat'(first|refine W1 ?_|omega|refine VG ?_ ?_<;>intro hg|refine VC ?_ ?_<;>intro hc)
   refine RU ?_;exact ⟨rfl,hS.trans T⟩;focus repeat'(first|refine D1 ?_|omega|refine Zb rfl rfl rfl rfl (λhg=>?_) (λhg=>?_)|(refine Z7 rfl rfl rfl rfl (λhg=>?_) (λhg=>?_)<;>refine D1 ?_)|fail)
   focus repeat'(first|refine W1 ?_|omega|refine VG ?_ ?_<;>intro hg|refine VC ?_ ?_<;>intro hc)
   exact QL (k+1) ⟨hlt,T,go rfl⟩ (XE hlt (XA k));have fM:Z3t h=(Z2K h && Z6f h):=by
    unfold Z3t;rw [bY];rfl
   rw [fM] at no go;have dw:h.kind - 1=((2:Nat):Int):=by omega
   focus repeat'(first|refine D1 ?_|omega|refine Zb rfl rfl rfl rfl (λhg=>?_) (λhg=>?_)|(refine Z7 rfl rfl rfl rfl (λhg=>?_) (λhg=>?_)<;>refine D1 ?_)|fail)
   refine Z1d rfl (Z0P (len:=4) (i:=2) rfl rfl rfl dw (by decide) rfl ?_);focus repeat'(first|refine D1 ?_|omega|refine Zb rfl rfl rfl rfl (λhg=>?_) (λhg=>?_)|(refine Z7 rfl rfl rfl rfl (λhg=>?_) (λhg=>?_)<;>refine D1 ?_)|fail)
   refine DP T (ZmC h _) λw9 hU T=>?_;generalize (Z2K h && Z6f h)=bb at no go ⊢;cases bb;rw [no rfl];focus repeat'(first|refine D1 ?_|omega|refine Zb rfl rfl rfl rfl (λhg=>?_) (λhg=>?_)|(refine Z7 rfl rfl rfl rfl (λhg=>?_) (λhg=>?_)<;>refine D1 ?_)|fail)
   focus repeat'(first|refine W1 ?_|omega|refine VG ?_ ?_<;>intro hg|refine VC ?_ ?_<;>intro hc)
   refine RU ?_;exact ⟨rfl,hS.trans T⟩;focus repeat'(first|refine D1 ?_|omega|refine Zb rfl rfl rfl rfl (λhg=>?_) (λhg=>?_)|(refine Z7 rfl rfl rfl rfl (λhg=>?_) (λhg=>?_)<;>refine D1 ?_)|fail)
   focus repeat'(first|refine W1 ?_|omega|refine VG ?_ ?_<;>intro hg|refine VC ?_ ?_<;>intro hc)
   exact QL (k+1) ⟨hlt,T,go rfl⟩ (XE hlt (XA k));have fM:Z3t h=(Zjt h):=by
    unfold Z3t;rw [bY];rfl
   rw [fM] at no go;have dw:h.kind - 1=((3:Nat):Int):=by omega
   focus repeat'(first|refine D1 ?_|omega|refine Zb rfl rfl rfl rfl (λhg=>?_) (λhg=>?_)|(refine Z7 rfl rfl rfl rfl (λhg=>?_) (λhg=>?_)<;>refine D1 ?_)|fail)
   refine Z1d rfl (Z0P (len:=4) (i:=3) rfl rfl rfl dw (by decide) rfl ?_);focus repeat'(first|refine D1 ?_|omega|refine Zb rfl rfl rfl rfl (λhg=>?_) (λhg=>?_)|(refine Z7 rfl rfl rfl rfl (λhg=>?_) (λhg=>?_)<;>refine D1 ?_)|fail)
   refine DP T (ZmE h _) λw9 hU T=>?_;generalize (Zjt h)=bb at no go ⊢;cases bb;rw [no rfl];focus repeat'(first|refine D1 ?_|omega|refine Zb rfl rfl rfl rfl (λhg=>?_) (λhg=>?_)|(refine Z7 rfl rfl rfl rfl (λhg=>?_) (λhg=>?_)<;>refine D1 ?_)|fail)
   focus repeat'(first|refine W1 ?_|omega|refine VG ?_ ?_<;>intro hg|refine VC ?_ ?_<;>intro hc)
   refine RU ?_;exact ⟨rfl,hS.trans T⟩;focus repeat'(first|refine D1 ?_|omega|refine Zb rfl rfl rfl rfl (λhg=>?_) (λhg=>?_)|(refine Z7 rfl rfl rfl rfl (λhg=>?_) (λhg=>?_)<;>refine D1 ?_)|fail)
   focus repeat'(first|refine W1 ?_|omega|refine VG ?_ ?_<;>intro hg|refine VC ?_ ?_<;>intro hc)
   exact QL (k+1) ⟨hlt,T,go rfl⟩ (XE hlt (XA k))
 rw [if_pos ((Z15 _ _).2 (λj h=>hz j h (by omega)))];focus repeat'(first|refine W1 ?_|omega|refine VG ?_ ?_<;>intro hg|refine VC ?_ ?_<;>intro hc)
 refine RU ?_;exact ⟨rfl,hS.trans T⟩
theorem ZmF (v:Value) (l:List Int) (w) (hs:SlV [] w v l):CC 29 #[v] w λr w'=>r=.I (orL l)/\Stp [] w w':=by
 have aW:=hs.max;refine cW1 18 Tryz.func29 ?_;refine W ?_;refine LP (σ:=Nat) (λk=>[(3,.I 0),(6,v),(7,.I l.length),(8,.I k)]) (λk w'=>k<=l.length/\Stp [] w w'/\∀ j (h:j<l.length),j<k->l[j]=0) (λk=>l.length - k) 0 ⟨Xu _,Stp.refl _ _,λj _ h=>absurd h (Xy _)⟩ ?_;have bM:=hs;clear hs;rintro k w1 ⟨hk,hS,hz⟩;have hs:=bM.up hS;by_cases hlt:k<l.length;by_cases h0:l[k]=0;refine QO ?_;exact QL (k+1) ⟨by omega,hS,λj h hj=>by
  by_cases e:j=k;subst e;exact h0;exact hz j h (by omega)⟩ (by omega)
 refine RT ?_;exact ⟨by rw [ZcF hlt hz h0],hS⟩;refine RT ?_;exact ⟨by rw [Z70 (λj h=>hz j h (by omega))],hS⟩
theorem Zju (v:Value) (l:List Bool) (x:Bool) (w) (hs:SlV [] w v l):CC 105 #[v,.B x] w λr w'=>(∃ z:Int,r=.I z/\(0<=z↔x∈l))/\Stp [] w w':=by
 have aW:=hs.max;refine cW2 19 Tryz.func105 ?_;refine W ?_;refine LP (σ:=Nat) (λk=>[(0,v),(1,.B x),(6,v),(7,.I l.length),(8,.I k)]) (λk w'=>k<=l.length/\Stp [] w w'/\∀ j (h:j<l.length),j<k->l[j]≠x) (λk=>l.length - k) 0 ⟨Xu _,Stp.refl _ _,λj _ h=>absurd h (Xy _)⟩ ?_;rintro k w2 ⟨hk,hT,hz⟩;have aO:=hs.up hT;by_cases hlt:k<l.length
 (refine QP ?_ ?_<;>intro hc)
 refine RU ?_;exact ⟨⟨_,rfl,⟨λ_=>hc ▸ Xc hlt,λ_=>Int.natCast_nonneg _⟩⟩,hT⟩;exact QL (k+1) ⟨hlt,hT,λj h hj=>by
  by_cases e:j=k;subst e;exact λh=>hc h.symm;exact hz j h (by omega)⟩ (by omega)
 have aY:¬ x∈l:=λh=>by
  obtain ⟨j,hj,e⟩:=Xv h;exact hz j hj (by omega) e
 refine RT ?_;exact ⟨⟨_,rfl,⟨λh=>absurd h (by decide),λh=>absurd h aY⟩⟩,hT⟩
theorem Zjv (v:Value) (l:List Bool) (x:Bool) (w) (hs:SlV [] w v l):CC 69 #[v,.B x] w λr w'=>r=.B (decide (x∈l))/\Stp [] w w':=by
 refine cW2 9 Tryz.func69 ?_;refine W ?_;refine CG (Zju v l x _ hs) ?_;rintro _ w2 ⟨⟨z,rfl,hz⟩,hT⟩;refine RT ?_;exact ⟨congrArg Value.bool (decide_eq_decide.2 hz),hT⟩
def Z8I (c:Cal):Bool:=c.week.getD 0 false && (c.week.getD 1 false && (c.week.getD 2 false && (c.week.getD 3 false && (c.week.getD 4 false && (c.week.getD 5 false && c.week.getD 6 false)))))
def Z83 (x:Clo):Bool:=decide (x.lo<=x.hi) && (Zp x.lo && (Zp x.hi && Zp x.known))
def Zdg (c:Cal) (z:Int) (sh:List Spn) (h:Int):Int:=
 if Z8I c then 1 else if Zdb c.hols≠0 then Zdb c.hols else if 200<c.clos.length then 2 else if ¬ c.clos.all Z83=true then 5 else if Zdc z sh≠0 then Zdc z sh else if h<0\/1440<=h then 5 else 0
theorem ZmG (c:Cal):decide (false∈[c.week.getD 0 false,c.week.getD 1 false,c.week.getD 2 false,c.week.getD 3 false,c.week.getD 4 false,c.week.getD 5 false,c.week.getD 6 false])=!Z8I c:=by
 unfold Z8I;generalize c.week.getD 0 false=a;generalize c.week.getD 1 false=b;generalize c.week.getD 2 false=d;generalize c.week.getD 3 false=e;generalize c.week.getD 4 false=f;generalize c.week.getD 5 false=g;generalize c.week.getD 6 false=h
 revert a b d e f g h;decide
theorem Z9P (d:Int) (w):CC 71 #[.I d] w λr w'=>r=.B (Zp d)/\Stp [] w w':=
 (Z1V d w).mono (by rintro _ _ ⟨v,rfl,h1,rfl⟩;exact ⟨v,rfl,h1,Stp.refl _ _⟩)
theorem Z9Q (c:Cal) (hv cv zs:Value) (z h:Int) (sh:List Spn) (w) (hh:SlV [] w hv c.hols) (cn:SlV [] w cv c.clos) (hz:SlV [] w zs sh) :
 CC 32 #[.agg (JO c hv cv (.I z) zs (.I h)).toArray] w λr w'=>r=.I (Zdg c z sh h)/\Stp [] w w':=by
 have bC:=cn.max;unfold Zdg;refine cW1 66 Tryz.func32 ?_;refine W ?_;refine BX (Stp.refl [] w) λb1 w1 h1 e1 _ hS=>?_;replace e1:Blk w1 b1 47 (JO c hv cv (.I z) zs (.I h)):=e1;have nD:SlV [] w1 (.slice (some ⟨b1,0,none⟩) 7 7) [c.week.getD 0 false,c.week.getD 1 false,c.week.getD 2 false,c.week.getD 3 false,c.week.getD 4 false,c.week.getD 5 false,c.week.getD 6 false]:=by
  refine ⟨some ⟨b1,0,none⟩,7,rfl,Xq _,by simp [maxLen],λh=>by simp at h,λi hi=>⟨b1,0,[(JO c hv cv (.I z) zs (.I h)).getD i (.B false)],rfl,e1.lt,by simp,?_,λj u hu=>?_⟩⟩;have:i=0\/i=1\/i=2\/i=3\/i=4\/i=5\/i=6:=by simp at hi;omega
  rcases this with rfl|rfl|rfl|rfl|rfl|rfl|rfl<;>rfl
  have hj:j=0:=by
   have:=(Xt.1 hu).1;simp at this;exact this
  subst hj;refine e1.cell ?_;have:i=0\/i=1\/i=2\/i=3\/i=4\/i=5\/i=6:=by simp at hi;omega
  rcases this with rfl|rfl|rfl|rfl|rfl|rfl|rfl<;>exact hu
 refine W ?_;refine Za (Z55 (b:=b1) rfl) rfl ?_;refine W ?_;refine CP hS (Zjv _ _ false _ nD) λw2 hT hS=>?_;replace e1:=e1.up hT;clear nD hT;rw [ZmG];cases Z8I c
 case true=>
  repeat'(first|refine W1 ?_|omega|refine VG ?_ ?_<;>intro hg|refine VC ?_ ?_<;>intro hc)
  refine RU ?_;exact ⟨rfl,hS⟩
 repeat'(first|refine W1 ?_|omega|refine VG ?_ ?_<;>intro hg|refine VC ?_ ?_<;>intro hc)
 refine CP hS (Zdf hv c.hols _ (hh.up hS)) λw3 hT hS=>?_;replace e1:=e1.up hT;by_cases g1:Zdb c.hols=0
 case neg=>
  rw [if_neg (by simp),if_pos g1];repeat'(first|refine W1 ?_|omega|refine VG ?_ ?_<;>intro hg|refine VC ?_ ?_<;>intro hc)
  refine RU ?_;exact ⟨rfl,hS⟩
 rw [g1];by_cases g2:200<c.clos.length;focus repeat'(first|refine W1 ?_|omega|refine VG ?_ ?_<;>intro hg|refine VC ?_ ?_<;>intro hc)
 refine RU ?_;exact ⟨by rw [if_neg (by simp),if_neg (by simp),if_pos g2],hS⟩;rw [if_neg (by simp),if_neg (by simp),if_neg g2];repeat'(first|refine W1 ?_|omega|refine VG ?_ ?_<;>intro hg|refine VC ?_ ?_<;>intro hc)
 refine LP (σ:=Nat) (λk=>[(1,pQ b1),(2,.I 0),(22,cv),(23,.I (c.clos.length:Int)),(24,.I (k:Int))]) (λk w'=>k<=c.clos.length/\Stp [] w3 w'/\∀ j (h:j<c.clos.length),j<k->Z83 c.clos[j]=true) (λk=>c.clos.length - k) 0 ⟨Xu _,Stp.refl _ _,λj _ h=>absurd h (Xy _)⟩ ?_;rintro k w4 ⟨hk,T,hx⟩;have q1:=e1.up T;have bT:=(cn.up hS).up T;by_cases hlt:k<c.clos.length
 . have no:Z83 c.clos[k]=false->c.clos.all Z83=false:=λhb=>by
    rw [Ybe];intro h;have:=(Z15 _ _).1 h k hlt;rw [hb] at this;cases this
   have go:Z83 c.clos[k]=true->∀ j (h:j<c.clos.length),j<k+1->Z83 c.clos[j]=true:=λhb j h hj=>by
    by_cases e:j=k;subst e;exact hb;exact hx j h (by omega)
   repeat'(first|refine W1 ?_|omega|refine VG ?_ ?_<;>intro hg|refine VC ?_ ?_<;>intro hc)
   refine Z0 Z4 rfl ?_;rintro _ w5 ⟨b5,rfl,iG,e5,hU⟩;refine SA (us:=Z2.enc c.clos[k]) e5 ?_;rintro _ w6 ⟨bq,e5⟩;replace hU:=hU.ow bq;replace T:=T.trans hU;clear hU bq bT q1;generalize c.clos[k]=x at *;rw [show Z83 x=(decide (x.lo<=x.hi) && (Zp x.lo && (Zp x.hi && Zp x.known))) from rfl] at no go;by_cases m1:x.lo<=x.hi
   case neg=>
    rw [no (by rw [decide_eq_false m1,YbM])];repeat'(first|refine W1 ?_|omega|refine VG ?_ ?_<;>intro hg|refine VC ?_ ?_<;>intro hc)
    refine RU ?_;exact ⟨rfl,hS.trans T⟩
   rw [decide_eq_true m1,Ybl] at no go;repeat'(first|refine W1 ?_|omega|refine VG ?_ ?_<;>intro hg|refine VC ?_ ?_<;>intro hc)
   refine CP T (Z9P _ _) λw7 hU T=>?_;replace e5:=e5.up hU;generalize Zp x.lo=m2 at no go ⊢;cases m2;rw [no rfl];focus repeat'(first|refine W1 ?_|omega|refine VG ?_ ?_<;>intro hg|refine VC ?_ ?_<;>intro hc)
   refine RU ?_;exact ⟨rfl,hS.trans T⟩;repeat'(first|refine W1 ?_|omega|refine VG ?_ ?_<;>intro hg|refine VC ?_ ?_<;>intro hc)
   refine CP T (Z9P _ _) λw8 hU T=>?_;replace e5:=e5.up hU;generalize Zp x.hi=m3 at no go ⊢;cases m3;rw [no rfl];focus repeat'(first|refine W1 ?_|omega|refine VG ?_ ?_<;>intro hg|refine VC ?_ ?_<;>intro hc)
   refine RU ?_;exact ⟨rfl,hS.trans T⟩;repeat'(first|refine W1 ?_|omega|refine VG ?_ ?_<;>intro hg|refine VC ?_ ?_<;>intro hc)
   refine CP T (Z9P _ _) λw9 hU T=>?_;generalize Zp x.known=m4 at no go ⊢;cases m4;rw [no rfl];focus repeat'(first|refine W1 ?_|omega|refine VG ?_ ?_<;>intro hg|refine VC ?_ ?_<;>intro hc)
   refine RU ?_;exact ⟨rfl,hS.trans T⟩;repeat'(first|refine W1 ?_|omega|refine VG ?_ ?_<;>intro hg|refine VC ?_ ?_<;>intro hc)
   exact QL (k+1) ⟨hlt,T,go rfl⟩ (XE hlt (XA k))
 . have eC:c.clos.all Z83=true:=(Z15 _ _).2 (λj h=>hx j h (by omega))
   have nC:=(hz.up hS).up T;rw [eC,if_neg (by simp)];repeat'(first|refine W1 ?_|omega|refine VG ?_ ?_<;>intro hg|refine VC ?_ ?_<;>intro hc)
   refine Za (Zj rfl rfl q1 (us:=[.I z,zs]) rfl rfl) rfl ?_;repeat'(first|refine W1 ?_|omega|refine VG ?_ ?_<;>intro hg|refine VC ?_ ?_<;>intro hc)
   refine CP T (Zdd zs z sh _ nC) λw5 hU T=>?_;replace q1:=q1.up hU;by_cases g4:Zdc z sh=0
   case neg=>
    rw [if_pos g4];repeat'(first|refine W1 ?_|omega|refine VG ?_ ?_<;>intro hg|refine VC ?_ ?_<;>intro hc)
    refine RU ?_;exact ⟨rfl,hS.trans T⟩
   rw [g4,if_neg (by simp)];by_cases g5:h<0\/1440<=h
   . rw [if_pos g5]
     repeat'(first|refine W1 ?_|omega|refine VG ?_ ?_<;>intro hg|refine VC ?_ ?_<;>intro hc)
     all_goals
      refine RU ?_;exact ⟨rfl,hS.trans T⟩
   rw [if_neg g5];focus repeat'(first|refine W1 ?_|omega|refine VG ?_ ?_<;>intro hg|refine VC ?_ ?_<;>intro hc)
   refine RU ?_;exact ⟨rfl,hS.trans T⟩
theorem ZmH (a b d:Int) (w):(Instr.buildSlice 98 3 #[(0,.I a),(1,.I b),(2,.I d)]).run Tryz.prog w=.ok (.slice (some ⟨w.heap.size,0,none⟩) 3 3) (w.alloc (.cells #[.I a,.I b,.I d] 52)):=by kernel_rfl
theorem ZbB (f:Fct) (w):CC 73 #[aG f] w λr w'=>r=.B (decide (VOk f))/\Stp [] w w':=by
 have yes:VOk f->decide (VOk f)=true:=λh=>decide_eq_true h;have no:¬ VOk f->decide (VOk f)=false:=λh=>decide_eq_false h;generalize decide (VOk f)=res at yes no ⊢;unfold VOk at yes no;refine cW1 31 Tryz.func73 ?_;refine W ?_;refine BX (Stp.refl [] w) λb1 w1 h1 e1 _ hS=>?_;replace e1:Blk w1 b1 24 (Z2.enc f):=e1;repeat'(first|refine W1 ?_|omega|refine VG ?_ ?_<;>intro hg|refine VC ?_ ?_<;>intro hc)
 refine CP hS (Z1J _ _ _ _) λw2 hT hS=>?_;replace e1:=e1.up hT;by_cases g1:0<=f.entry/\f.entry<=65535
 case neg=>
  rw [decide_eq_false g1,no (λh=>g1 (by omega))];repeat'(first|refine W1 ?_|omega|refine VG ?_ ?_<;>intro hg|refine VC ?_ ?_<;>intro hc)
  refine RU ?_;exact ⟨rfl,hS⟩
 rw [decide_eq_true g1];repeat'(first|refine W1 ?_|omega|refine VG ?_ ?_<;>intro hg|refine VC ?_ ?_<;>intro hc)
 refine CP hS (Zde _ _) λw3 hT hS=>?_;replace e1:=e1.up hT;cases g2:Z2R f.kind
 case false=>
  rw [no (λh=>by have:=h.2.1;rw [g2] at this;cases this)];repeat'(first|refine W1 ?_|omega|refine VG ?_ ?_<;>intro hg|refine VC ?_ ?_<;>intro hc)
  refine RU ?_;exact ⟨rfl,hS⟩
 repeat'(first|refine W1 ?_|omega|refine VG ?_ ?_<;>intro hg|refine VC ?_ ?_<;>intro hc)
 refine CP hS (Z1J _ _ _ _) λw4 hT hS=>?_;replace e1:=e1.up hT;by_cases g3:0<=f.day/\f.day<=3652058
 case neg=>
  rw [decide_eq_false g3,no (λh=>g3 (by omega))];repeat'(first|refine W1 ?_|omega|refine VG ?_ ?_<;>intro hg|refine VC ?_ ?_<;>intro hc)
  refine RU ?_;exact ⟨rfl,hS⟩
 rw [decide_eq_true g3];repeat'(first|refine W1 ?_|omega|refine VG ?_ ?_<;>intro hg|refine VC ?_ ?_<;>intro hc)
 refine CP hS (Z1J _ _ _ _) λw5 hT hS=>?_;replace e1:=e1.up hT;by_cases g4:0<=f.by_/\f.by_<=63
 case neg=>
  rw [decide_eq_false g4,no (λh=>g4 (by omega))];repeat'(first|refine W1 ?_|omega|refine VG ?_ ?_<;>intro hg|refine VC ?_ ?_<;>intro hc)
  refine RU ?_;exact ⟨rfl,hS⟩
 rw [decide_eq_true g4];repeat'(first|refine W1 ?_|omega|refine VG ?_ ?_<;>intro hg|refine VC ?_ ?_<;>intro hc)
 refine CP hS (Z1J _ _ _ _) λw6 hT hS=>?_;replace e1:=e1.up hT;by_cases g5:0<=f.to_/\f.to_<=63
 case neg=>
  rw [decide_eq_false g5,no (λh=>g5 (by omega))];repeat'(first|refine W1 ?_|omega|refine VG ?_ ?_<;>intro hg|refine VC ?_ ?_<;>intro hc)
  refine RU ?_;exact ⟨rfl,hS⟩
 rw [decide_eq_true g5];repeat'(first|refine W1 ?_|omega|refine VG ?_ ?_<;>intro hg|refine VC ?_ ?_<;>intro hc)
 refine CP hS (Z1J _ _ _ _) λw7 hT hS=>?_;by_cases g6:-2147483647<=f.amt/\f.amt<=2147483647
 case neg=>
  rw [decide_eq_false g6,no (λh=>g6 (by omega))];repeat'(first|refine W1 ?_|omega|refine VG ?_ ?_<;>intro hg|refine VC ?_ ?_<;>intro hc)
  refine RU ?_;exact ⟨rfl,hS⟩
 rw [decide_eq_true g6,yes ⟨by omega,g2,by omega,by omega,by omega,g6⟩];repeat'(first|refine W1 ?_|omega|refine VG ?_ ?_<;>intro hg|refine VC ?_ ?_<;>intro hc)
 refine RU ?_;exact ⟨rfl,hS⟩
def Z84 (x:Crr):Bool:=decide ((0<=x.extra/\x.extra<=1000)/\0<=x.tol/\x.tol<=1000)
def Zjw (q:Cr):Bool:=decide (chkC q=0)
def ZbC (l:List Crr):Int:=if 16<l.length then 2 else if l.all Z84 then 0 else 5
def ZbD (l:List Cr):Int:=if 1024<l.length then 2 else if l.all Zjw then 0 else 22
theorem Zdh {l:List Vrs} {e:Int} (h:∀ v∈l,v.f.entry≠e):JR l e=none:=by
 unfold JR;exact Yaw.2 (λv hv=>by simpa using h v (by simpa using hv))
theorem Zjx {l:List Vrs} {e:Int} {k:Nat} (hk:k<l.length) (h:l[k].f.entry=e) (hn:∀ j (hj:j<l.length),k<j->l[j].f.entry≠e):JR l e=some l[k]:=by
 have hs:l=l.take k++l[k] :: l.drop (k+1):=by rw [<- Yat hk,XN]
 have hr:JR l e=(l.take k++l[k] :: l.drop (k+1)).reverse.find? (λv=>decide (v.f.entry=e)):=by rw [<- hs];rfl
 rw [hr,List.reverse_append,List.reverse_cons,XI,List.find?_append];have h1:(l.drop (k+1)).reverse.find? (λv=>decide (v.f.entry=e))=none:=Yaw.2 (λv hv=>by
  obtain ⟨j,hj,rfl⟩:=Xv (List.mem_reverse.1 hv);rw [List.getElem_drop];simpa using hn (k+1+j) (by simp at hj;omega) (by omega))
 rw [h1,Option.none_or,Yby,YbE,decide_eq_true h]
theorem Zjy (w):(Instr.build 60 #[]).run Tryz.prog w=.ok (aG (default:Vrs)) w:=by kernel_rfl
theorem Z2L (v:Value) (l:List Vrs) (e:Int) (w) (hs:SlV [] w v l) :
 CC 83 #[v,.I e] w λx w'=>x=.tuple #[.agg (Z2.enc ((JR l e).getD default)).toArray,.B (JR l e).isSome]/\Stp [] w w':=by
 have eG:=hs.max;refine cW2 27 Tryz.func83 ?_;refine W ?_;refine Z0 Z4 rfl ?_;rintro _ w1 ⟨b4,rfl,bE,e4,hS⟩;replace hs:=hs.up hS;repeat'(first|refine W1 ?_|omega|refine VG ?_ ?_<;>intro hg|refine VC ?_ ?_<;>intro hc)
 refine Zt (σ:=Nat) (λj=>[(0,v),(1,.I e),(4,pQ b4),(6,.I ((j:Int) - 1))]) (λj W=>j<=l.length/\Stp [] w1 W/\∀ i (h:i<l.length),j<=i->l[i].f.entry≠e) (λj=>j) l.length ⟨rfl,rfl,rfl,rfl,trivial⟩ ⟨Xq _,Stp.refl _ _,λi h hi=>absurd h (by omega)⟩ ?_;rintro j w2 ⟨hj,T,aX⟩;have aO:=hs.up T;have f4:=e4.up T;cases j with
 | zero=>
   have hn:JR l e=none:=Zdh (λx hx=>by
    obtain ⟨i,hi,rfl⟩:=Xv hx;exact aX i hi (Xu _))
   rw [hn];repeat'(first|refine W1 ?_|omega|refine VG ?_ ?_<;>intro hg|refine VC ?_ ?_<;>intro hc)
   refine Zc (vs:=[]) rfl Zjy rfl ?_;refine SA (us:=Z2.enc (default:Vrs)) f4 ?_;rintro _ w3 ⟨hU,f4⟩;repeat'(first|refine W1 ?_|omega|refine VG ?_ ?_<;>intro hg|refine VC ?_ ?_<;>intro hc)
   refine ZM rfl rfl rfl f4 rfl rfl ?_;exact .mk ⟨rfl,hS.trans T |>.ow hU⟩
 | succ i=>
   have hz:((i+1:Nat):Int) - 1=(i:Int):=by omega
   rw [hz];have iK:i<l.length:=by omega
   repeat'(first|refine W1 ?_|omega|refine VG ?_ ?_<;>intro hg|refine VC ?_ ?_<;>intro hc)
   refine SA (us:=Z2.enc l[i]) f4 ?_;rintro _ w3 ⟨hU,f4⟩;rw [Zjx iK hc (λj hj bR=>aX j hj bR)];focus repeat'(first|refine W1 ?_|omega|refine VG ?_ ?_<;>intro hg|refine VC ?_ ?_<;>intro hc)
   refine ZM rfl rfl rfl f4 rfl rfl ?_;exact .mk ⟨rfl,hS.trans T |>.ow hU⟩;exact QL i ⟨by omega,T,λj hj bR=>by
    by_cases e2:j=i;subst e2;exact hc;exact aX j hj (by omega)⟩ (XA i)
theorem Z8J {l:List Vrs} (h:0<l.length):ZI l=(l[l.length - 1]'(by omega)).op:=by
 unfold ZI;rw [List.getLast?_eq_getElem?,XC (by omega)]
theorem ZbE (v:Value) (l:List Vrs) (x:Vrs) (w) (hs:SlV [] w v l) (k1:0<=x.op) (k2:ZI l<=x.op) (k3:VOk x.f) :
 CC 46 #[v,aG x] w λr w'=>r=.I (if x.st=true/\Z1Z l x.f.entry=false then 3 else 0)/\Stp [] w w':=by
 have eG:=hs.max;refine cW2 61 Tryz.func46 ?_;refine W ?_;refine BX (Stp.refl [] w) λb3 w1 h3 e3 _ hS=>?_;replace e3:Blk w1 b3 60 ([.I x.op,.B x.st]++Z2.enc x.f):=e3;have mH:0<=x.f.entry/\x.f.entry<=65535:=by have:=k3.1;omega
 unfold Z1Z;cases ar:x.st with
 | true=>
   rw [ar] at e3;repeat'(first|refine W1 ?_|omega|refine VG ?_ ?_<;>intro hg|refine VC ?_ ?_<;>intro hc)
   refine CP hS (Z1J _ _ _ _) λw2 hT hS=>?_;replace e3:=e3.up hT;rw [decide_eq_true mH];by_cases hl:0<l.length
   . have dw:(l.length:Int) - 1=((l.length - 1:Nat):Int):=by omega
     have fy:l.length - 1<l.length:=by omega
     rw [Z8J hl] at k2;have aO:=hs.up hS;repeat'(first|refine W1 ?_|omega|refine VG ?_ ?_<;>intro hg|refine VC ?_ ?_<;>intro hc)
     refine ZDr 15 [] [] [(0,0),(1,0),(2,0),(3,0),(4,0),(5,1),(6,0),(7,0),(8,0),(9,0),(10,0),(11,0),(12,1),(13,0),(14,0)] (λw1 ae=>?_);replace e3:=e3.up ae;replace aO:=aO.up ae;replace hS:=hS.trans ae;clear ae;repeat'(first|refine D1 ?_|omega|refine Zb rfl rfl rfl rfl (λhg=>?_) (λhg=>?_)|(refine Z7 rfl rfl rfl rfl (λhg=>?_) (λhg=>?_)<;>refine D1 ?_)|fail)
     repeat'(first|refine W1 ?_|omega|refine VG ?_ ?_<;>intro hg|refine VC ?_ ?_<;>intro hc)
     refine CP hS (Z2L v l x.f.entry _ (hs.up hS)) λw5 hT hS=>?_;replace e3:=e3.up hT;repeat'(first|refine W1 ?_|omega|refine VG ?_ ?_<;>intro hg|refine VC ?_ ?_<;>intro hc)
     refine Z0 Z4 rfl ?_;rintro _ w6 ⟨b5,rfl,iG,e5,hU⟩;repeat'(first|refine W1 ?_|omega|refine VG ?_ ?_<;>intro hg|refine VC ?_ ?_<;>intro hc)
     refine SA (us:=Z2.enc ((JR l x.f.entry).getD default)) e5 ?_;rintro _ w7 ⟨bq,e5⟩;replace hU:=hU.ow bq;replace e3:=e3.up hU;replace hS:=hS.trans hU;clear hU bq hT;generalize JR l x.f.entry=lv at *;cases lv with
     | none=>
       repeat'(first|refine W1 ?_|omega|refine VG ?_ ?_<;>intro hg|refine VC ?_ ?_<;>intro hc)
       refine RU ?_;exact ⟨rfl,hS⟩
     | some y=>
       replace e5:Blk w7 b5 60 ([.I y.op,.B y.st]++Z2.enc y.f):=e5;cases hy:y.st with
       | true=>
         rw [hy] at e5;repeat'(first|refine W1 ?_|omega|refine VG ?_ ?_<;>intro hg|refine VC ?_ ?_<;>intro hc)
         refine RU ?_;exact ⟨by simp [hy],hS⟩
       | false=>
         rw [hy] at e5;repeat'(first|refine W1 ?_|omega|refine VG ?_ ?_<;>intro hg|refine VC ?_ ?_<;>intro hc)
         refine RU ?_;exact ⟨by simp [hy],hS⟩
   . repeat'(first|refine W1 ?_|omega|refine VG ?_ ?_<;>intro hg|refine VC ?_ ?_<;>intro hc)
     refine ZDr 15 [] [] [(0,0),(1,0),(2,0),(3,0),(4,0),(5,1),(6,0),(7,0),(8,0),(9,0),(10,0),(11,0),(12,1),(13,0),(14,0)] (λw1 ae=>?_);replace e3:=e3.up ae;replace hS:=hS.trans ae;clear ae;repeat'(first|refine D1 ?_|omega|refine Zb rfl rfl rfl rfl (λhg=>?_) (λhg=>?_)|(refine Z7 rfl rfl rfl rfl (λhg=>?_) (λhg=>?_)<;>refine D1 ?_)|fail)
     repeat'(first|refine W1 ?_|omega|refine VG ?_ ?_<;>intro hg|refine VC ?_ ?_<;>intro hc)
     refine CP hS (Z2L v l x.f.entry _ (hs.up hS)) λw5 hT hS=>?_;replace e3:=e3.up hT;repeat'(first|refine W1 ?_|omega|refine VG ?_ ?_<;>intro hg|refine VC ?_ ?_<;>intro hc)
     refine Z0 Z4 rfl ?_;rintro _ w6 ⟨b5,rfl,iG,e5,hU⟩;repeat'(first|refine W1 ?_|omega|refine VG ?_ ?_<;>intro hg|refine VC ?_ ?_<;>intro hc)
     refine SA (us:=Z2.enc ((JR l x.f.entry).getD default)) e5 ?_;rintro _ w7 ⟨bq,e5⟩;replace hU:=hU.ow bq;replace e3:=e3.up hU;replace hS:=hS.trans hU;clear hU bq hT;generalize JR l x.f.entry=lv at *;cases lv with
     | none=>
       repeat'(first|refine W1 ?_|omega|refine VG ?_ ?_<;>intro hg|refine VC ?_ ?_<;>intro hc)
       refine RU ?_;exact ⟨rfl,hS⟩
     | some y=>
       replace e5:Blk w7 b5 60 ([.I y.op,.B y.st]++Z2.enc y.f):=e5;cases hy:y.st with
       | true=>
         rw [hy] at e5;repeat'(first|refine W1 ?_|omega|refine VG ?_ ?_<;>intro hg|refine VC ?_ ?_<;>intro hc)
         refine RU ?_;exact ⟨by simp [hy],hS⟩
       | false=>
         rw [hy] at e5;repeat'(first|refine W1 ?_|omega|refine VG ?_ ?_<;>intro hg|refine VC ?_ ?_<;>intro hc)
         refine RU ?_;exact ⟨by simp [hy],hS⟩
 | false=>
   rw [ar] at e3;repeat'(first|refine W1 ?_|omega|refine VG ?_ ?_<;>intro hg|refine VC ?_ ?_<;>intro hc)
   refine Za (Zj rfl rfl e3 (us:=Z2.enc x.f) rfl rfl) rfl ?_;refine W ?_;refine CP hS (ZbB x.f _) λw2 hT hS=>?_;replace e3:=e3.up hT;rw [decide_eq_true k3];repeat'(first|refine W1 ?_|omega|refine VG ?_ ?_<;>intro hg|refine VC ?_ ?_<;>intro hc)
   refine CP hS (Z1J _ _ _ _) λw3 hT hS=>?_;replace e3:=e3.up hT;rw [decide_eq_true mH];by_cases hl:0<l.length;have dw:(l.length:Int) - 1=((l.length - 1:Nat):Int):=by omega
   have fy:l.length - 1<l.length:=by omega
   rw [Z8J hl] at k2;have aO:=hs.up hS;focus repeat'(first|refine W1 ?_|omega|refine VG ?_ ?_<;>intro hg|refine VC ?_ ?_<;>intro hc)
   refine ZDr 15 [] [] [(0,0),(1,0),(2,0),(3,0),(4,0),(5,1),(6,0),(7,0),(8,0),(9,0),(10,0),(11,0),(12,1),(13,0),(14,0)] (λw1 ae=>?_);replace e3:=e3.up ae;replace aO:=aO.up ae;replace hS:=hS.trans ae;clear ae;focus repeat'(first|refine D1 ?_|omega|refine Zb rfl rfl rfl rfl (λhg=>?_) (λhg=>?_)|(refine Z7 rfl rfl rfl rfl (λhg=>?_) (λhg=>?_)<;>refine D1 ?_)|fail)
   focus repeat'(first|refine W1 ?_|omega|refine VG ?_ ?_<;>intro hg|refine VC ?_ ?_<;>intro hc)
   refine CP hS (Z2L v l x.f.entry _ (hs.up hS)) λw5 hT hS=>?_;replace e3:=e3.up hT;focus repeat'(first|refine W1 ?_|omega|refine VG ?_ ?_<;>intro hg|refine VC ?_ ?_<;>intro hc)
   refine Z0 Z4 rfl ?_;rintro _ w6 ⟨b5,rfl,iG,e5,hU⟩;focus repeat'(first|refine W1 ?_|omega|refine VG ?_ ?_<;>intro hg|refine VC ?_ ?_<;>intro hc)
   refine SA (us:=Z2.enc ((JR l x.f.entry).getD default)) e5 ?_;rintro _ w7 ⟨bq,e5⟩;replace hU:=hU.ow bq;replace e3:=e3.up hU;replace hS:=hS.trans hU;clear hU bq hT;generalize JR l x.f.entry=lv at *;focus repeat'(first|refine W1 ?_|omega|refine VG ?_ ?_<;>intro hg|refine VC ?_ ?_<;>intro hc)
   refine RU ?_;exact ⟨rfl,hS⟩;focus repeat'(first|refine W1 ?_|omega|refine VG ?_ ?_<;>intro hg|refine VC ?_ ?_<;>intro hc)
   refine ZDr 15 [] [] [(0,0),(1,0),(2,0),(3,0),(4,0),(5,1),(6,0),(7,0),(8,0),(9,0),(10,0),(11,0),(12,1),(13,0),(14,0)] (λw1 ae=>?_);replace e3:=e3.up ae;replace hS:=hS.trans ae;clear ae;focus repeat'(first|refine D1 ?_|omega|refine Zb rfl rfl rfl rfl (λhg=>?_) (λhg=>?_)|(refine Z7 rfl rfl rfl rfl (λhg=>?_) (λhg=>?_)<;>refine D1 ?_)|fail)
   focus repeat'(first|refine W1 ?_|omega|refine VG ?_ ?_<;>intro hg|refine VC ?_ ?_<;>intro hc)
   refine CP hS (Z2L v l x.f.entry _ (hs.up hS)) λw5 hT hS=>?_;replace e3:=e3.up hT;focus repeat'(first|refine W1 ?_|omega|refine VG ?_ ?_<;>intro hg|refine VC ?_ ?_<;>intro hc)
   refine Z0 Z4 rfl ?_;rintro _ w6 ⟨b5,rfl,iG,e5,hU⟩;focus repeat'(first|refine W1 ?_|omega|refine VG ?_ ?_<;>intro hg|refine VC ?_ ?_<;>intro hc)
   refine SA (us:=Z2.enc ((JR l x.f.entry).getD default)) e5 ?_;rintro _ w7 ⟨bq,e5⟩;replace hU:=hU.ow bq;replace e3:=e3.up hU;replace hS:=hS.trans hU;clear hU bq hT;generalize JR l x.f.entry=lv at *;focus repeat'(first|refine W1 ?_|omega|refine VG ?_ ?_<;>intro hg|refine VC ?_ ?_<;>intro hc)
   refine RU ?_;exact ⟨rfl,hS⟩
end Go.Proofs.YteibicnbkggiiaaGreatDoor
