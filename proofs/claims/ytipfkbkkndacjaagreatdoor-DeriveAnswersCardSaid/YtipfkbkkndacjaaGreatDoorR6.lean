/-
Contracts and plain laws, merged out of own texts.
-/
import Derived.Test.YtipfkbkkndacjaaGreatDoorR5
import Derived.WideLaws
set_option linter.unusedVariables false
set_option linter.unusedSimpArgs false
set_option maxHeartbeats 4000000
set_option maxRecDepth 20000
namespace Go.Proofs.YtipfkbkkndacjaaGreatDoor
open Go Go.Eng Go.RowKit
def cL (b0 b5 b6:Bool) (hv cv zo zs hr:Value):List Value:=[.B b0,.B false,.B false,.B false,.B false,.B b5,.B b6,hv,cv,zo,zs,hr]
theorem Zn8 (w):(Instr.buildSlice 23 4 #[(0,.I 1439),(1,.I 1020),(2,.I 0),(3,.I 720)]).run Tryz.prog w=.ok (.slice (some ⟨w.heap.size,0,none⟩) 4 4) (w.alloc (.cells #[.I 1439,.I 1020,.I 0,.I 720] 3)):=by kernel_rfl
theorem Zn9 (h:Int) (w):(Instr.build 35 #[(4,.I h)]).run Tryz.prog w=.ok (.agg (cL false false false (.N) (.N) (.I 0) (.N) (.I h)).toArray) w:=by kernel_rfl
theorem ZsH (a b c:Int) (w):(Instr.build 138 #[(0,.I a),(1,.I b),(7,.I 1),(8,.I 9999),(6,.I c)]).run Tryz.prog w=.ok (agg (⟨a,b,0,0,0,0,c,1,9999⟩:Hol)) w:=by kernel_rfl
theorem Zna (h:Hol) (w):(Instr.buildSlice 29 1 #[(0,agg h)]).run Tryz.prog w=.ok (.slice (some ⟨w.heap.size,0,none⟩) 1 1) (w.alloc (.cells (Z3.enc h).toArray 138)):=by kernel_rfl
theorem Znb (a b c:Int) (w):(Instr.build 73 #[(0,.I a),(1,.I b),(2,.I c)]).run Tryz.prog w=.ok (agg (⟨a,b,c⟩:Clo)) w:=by kernel_rfl
theorem Znc (h:Clo) (w):(Instr.buildSlice 30 1 #[(0,agg h)]).run Tryz.prog w=.ok (.slice (some ⟨w.heap.size,0,none⟩) 1 1) (w.alloc (.cells (Z3.enc h).toArray 73)):=by kernel_rfl
def Zcw (x:Clo):Prop:=739616<=x.lo/\x.lo<739736/\x.lo<=x.hi/\x.hi<=x.lo+5/\739616<=x.known/\x.known<739746
structure ZnU (c:Cal):Prop where
 ok:Zjk c
 wk:∃ b0 b5 b6:Bool,c.week=[b0,false,false,false,false,b5,b6]
 h3:c.hols.length<=3
 c3:c.clos.length<=3
 cl:∀ x∈c.clos,Zcw x
theorem Z8w (X:List Nat) (v:Value) (l:List Int) (w:World) (hX:∀ b∈X,b<w.heap.size) (hs:SlV [] w v l) (hl:∀ a∈l,I64 a) :
 CC 32 #[v] w λr w'=>∃ (c:Cal) (hv cv zo zs hr:Value),r=Z6r c hv cv zo zs hr/\(zo.oneCell'=true/\zs.oneCell'=true/\hr.oneCell'=true)/\ZnU c/\SlV X w' hv c.hols/\SlV X w' cv c.clos/\Stp [] w w':=by
 have aT:=hs.max;refine cW1 160 Tryz.func32 ?_;refine W ?_;refine Z0 Z2 rfl ?_;rintro _ w1 ⟨b2,rfl,cu,k2,hS⟩;refine W ?_;refine Z0 (Z1 (vs:=[(0,.I 1439),(1,.I 1020),(2,.I 0),(3,.I 720)]) rfl (Zn8)) rfl ?_;rintro bv w2 hN;have an:SlV [] w2 bv ([1439,1020,0,720]:List Int):=hN.slv (by simp) rfl rfl (by simp [maxLen]);have hT:=Z9.stp hN;clear hN;replace k2:=k2.up hT;replace hS:=hS.trans hT;clear hT;refine W ?_;refine CM (ZI rfl rfl rfl) (ZV [] _ l 0 4 _ (by decide) (by unfold I64;omega) (hs.up hS) hl) ?_;rintro _ wn ⟨q0,rfl,rJ,hT⟩;replace an:=an.up hT;replace k2:=k2.up hT;replace hS:=hS.trans hT;clear hT;have wS:q0<([1439,1020,0,720]:List Int).length:=by simp only [Xe,Xf];omega
 refine W ?_;generalize ([1439,1020,0,720]:List Int)[q0]=hr;refine Z7 (vs:=[(4,.I hr)]) rfl (Zn9 _) rfl ?_;have k2lt:=k2.lt;clear an;refine Z0 Z2 rfl ?_;rintro _ w3 ⟨b3,rfl,d8,k3,hT⟩;replace k2:=k2.up hT;replace hS:=hS.trans hT;clear hT;refine W ?_;have n23:b2≠b3:=by omega
 refine SB (us:=cL false false false (.N) (.N) (.I 0) (.N) (.I hr)) (by simp [cL,Value.oneCell']) k3 ?_;rintro _ w4 ⟨hT,k3⟩;replace k2:=k2.ext hT (by simpa using n23);replace hS:=hS.ow hT;clear hT;have k3lt:=k3.lt;have k2lt':=k2.lt;have wT:w.heap.size<=b3:=by have:=k3lt;have:=hS.size;omega
 refine W ?_;refine CM (ZI rfl rfl rfl) (ZV [] _ l 1 8 _ (by decide) (by unfold I64;omega) (hs.up hS) hl) ?_;rintro _ wn ⟨q1,rfl,hq1,hT⟩;replace k3:=k3.up hT;replace k2:=k2.up hT;replace hS:=hS.trans hT;clear hT;refine W ?_;refine Z2L (len:=7) (i:=5) rfl rfl rfl (by decide) rfl ?_;refine Z6 (Zb (u:=.B (decide (¬ (q1:Int)=1))) rfl rfl rfl rfl k3 (by simp [cL])) ?_;rintro _ wn ⟨hT,k3⟩;replace k3:Blk wn b3 35 (cL false (decide (¬ (q1:Int)=1)) false (.N) (.N) (.I 0) (.N) (.I hr)):=k3;replace k2:=k2.ext hT (by simpa using n23);replace hS:=hS.ow hT;clear hT;refine W ?_;refine Z2L (len:=7) (i:=6) rfl rfl rfl (by decide) rfl ?_;refine Z6 (Zb (u:=.B (decide (¬ (q1:Int)=2))) rfl rfl rfl rfl k3 (by simp [cL])) ?_;rintro _ wn ⟨hT,k3⟩;replace k3:Blk wn b3 35 (cL false (decide (¬ (q1:Int)=1)) (decide (¬ (q1:Int)=2)) (.N) (.N) (.I 0) (.N) (.I hr)):=k3;replace k2:=k2.ext hT (by simpa using n23);replace hS:=hS.ow hT;clear hT;refine W ?_;refine Z6 (Zb (u:=.B (decide ((q1:Int)=3))) rfl rfl rfl rfl k3 (by simp [cL])) ?_;rintro _ w5 ⟨hT,k3⟩;replace k3:Blk w5 b3 35 (cL (decide ((q1:Int)=3)) (decide (¬ (q1:Int)=1)) (decide (¬ (q1:Int)=2)) (.N) (.N) (.I 0) (.N) (.I hr)):=k3;replace k2:=k2.ext hT (by simpa using n23);replace hS:=hS.ow hT;clear hT;refine W ?_;generalize decide ((q1:Int)=3)=b0 at k3 ⊢;generalize decide (¬ (q1:Int)=1)=b5 at k3 ⊢;generalize decide (¬ (q1:Int)=2)=b6 at k3 ⊢;replace k2:Blk w5 b2 35 ((.agg (cL false false false (.N) (.N) (.I 0) (.N) (.I 0)).toArray:Value).cells.toList):=k2;have wU:=hS.size;have k3lt5:=k3.lt;have k2lt5:=k2.lt;refine Z0f (σ:=Value×List Hol) (λq=>[(0,v),(2,pQ b2),(3,pQ b3)]) (λq w'=>q.2.length<=3/\Blk w' b2 35 ((.agg (cL false false false (.N) (.N) (.I 0) (.N) (.I 0)).toArray:Value).cells.toList)/\Blk w' b3 35 (cL b0 b5 b6 q.1 (.N) (.I 0) (.N) (.I hr))/\Row [] w' w5.heap.size 138 q.1 q.2/\(∀ x∈q.2,Z1V x)/\Stp [b3] w5 w') ?_ ?_
 refine Zr (σ:=Nat×Value×List Hol) (λq=>[(0,v),(2,pQ b2),(3,pQ b3),(5,.I (q.1:Int))]) (λq w'=>q.1<=3/\q.2.2.length<=q.1/\Blk w' b2 35 ((.agg (cL false false false (.N) (.N) (.I 0) (.N) (.I 0)).toArray:Value).cells.toList)/\Blk w' b3 35 (cL b0 b5 b6 q.2.1 (.N) (.I 0) (.N) (.I hr))/\Row [] w' w5.heap.size 138 q.2.1 q.2.2/\(∀ x∈q.2.2,Z1V x)/\Stp [b3] w5 w') (λq=>3 - q.1)
  (0,.N,[]) ⟨rfl,rfl,rfl,rfl,trivial⟩ ⟨by decide,by decide,k2,k3,Row.nil,by simp,Stp.refl _ _⟩ ?_
 rintro ⟨j,hv,hols⟩ w6 ⟨rM,ai,k2,k3,ab,fI,aK⟩;dsimp only at rM ai k3 ab fI ⊢;have cI:=hs.up (hS.ow aK);have rN:=ab.ob_le;refine W ?_;refine CM (ZI rfl rfl rfl) (ZV [] _ l 2 4 _ (by decide) (by unfold I64;omega) cI hl) ?_;rintro _ wn ⟨q,rfl,hq,hT⟩;replace k3:=k3.up hT;replace k2:=k2.up hT;replace ab:=ab.up hT;replace cI:=cI.up hT;replace aK:=aK.trans hT.mn;clear hT;by_cases hlt:(j:Int)<(q:Int);refine QO ?_;refine CM (ZI rfl rfl rfl) (ZV [] _ l (3+2 * (j:Int)) 1000000 _ (by decide) (by unfold I64;omega) cI hl) ?_;rintro _ wn ⟨x,rfl,hx,hT⟩;replace k3:=k3.up hT;replace k2:=k2.up hT;replace ab:=ab.up hT;replace cI:=cI.up hT;replace aK:=aK.trans hT.mn;clear hT;refine W ?_;refine CM (ZI rfl rfl rfl) (ZV [] _ l (4+2 * (j:Int)) 1000000 _ (by decide) (by unfold I64;omega) cI hl) ?_;rintro _ wn ⟨y,rfl,hy,hT⟩;replace k3:=k3.up hT;replace k2:=k2.up hT;replace ab:=ab.up hT;replace cI:=cI.up hT;replace aK:=aK.trans hT.mn;clear hT;refine W ?_;refine Z7 (vs:=[(0,.I (1+(x:Int) % 4)),(1,.I (1+(x:Int) / 4 % 4)),(7,.I 1),(8,.I 9999),(6,.I ((y:Int) % 3))]) rfl (ZsH _ _ _) rfl ?_;have wV:=k3.lt;have wW:=k2.lt;have nO:=ab.ob_le;have wX:=aK.size;refine Z0 Z2 rfl ?_;rintro _ wn ⟨b8,rfl,fk,k8,hT⟩;replace k3:=k3.up hT;replace k2:=k2.up hT;replace ab:=ab.up hT;replace cI:=cI.up hT;replace aK:=aK.trans hT.mn;clear hT;refine W ?_;have iM:b8≠b2/\b8≠b3/\b8∉ob hv:=⟨by omega,by omega,λh=>by have:=(nO _ h).2;omega⟩
 have cJ:w5.heap.size<=b8:=by omega
 generalize ik:1+(x:Int) % 4=m1;generalize eP:1+(x:Int) / 4 % 4=m2;generalize oT:(y:Int) % 3=m3;refine SA (us:=Z3.enc (⟨m1,m2,0,0,0,0,m3,1,9999⟩:Hol)) k8 ?_;rintro _ wn ⟨hT,k8⟩;replace k3:=k3.ext hT (by simp;omega);replace k2:=k2.ext hT (by simp;omega);replace ab:=ab.keep hT (by simp;exact iM.2.2);replace aK:=aK.ow hT;clear hT;replace k8:Blk wn b8 138 [.I m1,.I m2,.I 0,.I 0,.I 0,.I 0,.I m3,.I 1,.I 9999]:=k8;clear cI;refine W ?_
 refine Z0f (σ:=Hol) (λ_=>[(0,v),(2,pQ b2),(3,pQ b3),(5,.I (j:Int)),(8,pQ b8)])
  (λh w'=>Z1V h/\Blk w' b8 138 [.I h.kind,.I h.month,.I h.day,.I h.wd,.I h.nth,.I h.off,.I h.move,.I h.first,.I h.last]/\Blk w' b2 35 ((.agg (cL false false false (.N) (.N) (.I 0) (.N) (.I 0)).toArray:Value).cells.toList)/\Blk w' b3 35 (cL b0 b5 b6 hv (.N) (.I 0) (.N) (.I hr))/\Row [] w' w5.heap.size 138 hv hols/\Stp [b3] w5 w') ?_ ?_
 have hk:m1=1\/m1=2\/m1=3\/m1=4:=by omega
 rcases hk with rfl|rfl|rfl|rfl
 refine W ?_;refine S1 (u:=.I (1+(y:Int) / 3 % 31)) k8 ?_;rintro _ wn ⟨hT,k8⟩;replace k8:Blk wn b8 138 [.I (1),.I (m2),.I (1+(y:Int) / 3 % 31),.I (0),.I (0),.I (0),.I (m3),.I (1),.I (9999)]:=k8;replace k3:=k3.ext hT (by simp;omega);replace k2:=k2.ext hT (by simp;omega);replace ab:=ab.keep hT (by simp;exact iM.2.2);replace aK:=aK.ow hT;clear hT;refine W ?_;have iF:Z1V (⟨1,m2,1+(y:Int) / 3 % 31,0,0,0,m3,1,9999⟩:Hol):=by constructor<;>dsimp only<;>omega
 exact ZA (⟨1,m2,1+(y:Int) / 3 % 31,0,0,0,m3,1,9999⟩:Hol) ⟨rfl,rfl,rfl,rfl,rfl,trivial⟩ ⟨iF,k8,k2,k3,ab,aK⟩;refine W ?_;refine S1 (u:=.I ((y:Int) / 3 % 7)) k8 ?_;rintro _ wn ⟨hT,k8⟩;replace k8:Blk wn b8 138 [.I (2),.I (m2),.I (0),.I ((y:Int) / 3 % 7),.I (0),.I (0),.I (m3),.I (1),.I (9999)]:=k8;replace k3:=k3.ext hT (by simp;omega);replace k2:=k2.ext hT (by simp;omega);replace ab:=ab.keep hT (by simp;exact iM.2.2);replace aK:=aK.ow hT;clear hT;refine W ?_;refine S1 (u:=.I (1+(y:Int) / 21 % 5)) k8 ?_;rintro _ wn ⟨hT,k8⟩;replace k8:Blk wn b8 138 [.I (2),.I (m2),.I (0),.I ((y:Int) / 3 % 7),.I (1+(y:Int) / 21 % 5),.I (0),.I (m3),.I (1),.I (9999)]:=k8;replace k3:=k3.ext hT (by simp;omega);replace k2:=k2.ext hT (by simp;omega);replace ab:=ab.keep hT (by simp;exact iM.2.2);replace aK:=aK.ow hT;clear hT;refine W ?_;refine S1 (u:=.I (0)) k8 ?_;rintro _ wn ⟨hT,k8⟩;replace k8:Blk wn b8 138 [.I (2),.I (m2),.I (0),.I ((y:Int) / 3 % 7),.I (1+(y:Int) / 21 % 5),.I (0),.I (0),.I (1),.I (9999)]:=k8;replace k3:=k3.ext hT (by simp;omega);replace k2:=k2.ext hT (by simp;omega);replace ab:=ab.keep hT (by simp;exact iM.2.2);replace aK:=aK.ow hT;clear hT;refine W ?_;have iF:Z1V (⟨2,m2,0,(y:Int) / 3 % 7,1+(y:Int) / 21 % 5,0,0,1,9999⟩:Hol):=by constructor<;>dsimp only<;>omega
 exact ZA (⟨2,m2,0,(y:Int) / 3 % 7,1+(y:Int) / 21 % 5,0,0,1,9999⟩:Hol) ⟨rfl,rfl,rfl,rfl,rfl,trivial⟩ ⟨iF,k8,k2,k3,ab,aK⟩;refine W ?_;refine S1 (u:=.I ((y:Int) / 3 % 7)) k8 ?_;rintro _ wn ⟨hT,k8⟩;replace k8:Blk wn b8 138 [.I (3),.I (m2),.I (0),.I ((y:Int) / 3 % 7),.I (0),.I (0),.I (m3),.I (1),.I (9999)]:=k8;replace k3:=k3.ext hT (by simp;omega);replace k2:=k2.ext hT (by simp;omega);replace ab:=ab.keep hT (by simp;exact iM.2.2);replace aK:=aK.ow hT;clear hT;refine W ?_;refine S1 (u:=.I (0)) k8 ?_;rintro _ wn ⟨hT,k8⟩;replace k8:Blk wn b8 138 [.I (3),.I (m2),.I (0),.I ((y:Int) / 3 % 7),.I (0),.I (0),.I (0),.I (1),.I (9999)]:=k8;replace k3:=k3.ext hT (by simp;omega);replace k2:=k2.ext hT (by simp;omega);replace ab:=ab.keep hT (by simp;exact iM.2.2);replace aK:=aK.ow hT;clear hT;refine W ?_;have iF:Z1V (⟨3,m2,0,(y:Int) / 3 % 7,0,0,0,1,9999⟩:Hol):=by constructor<;>dsimp only<;>omega
 exact ZA (⟨3,m2,0,(y:Int) / 3 % 7,0,0,0,1,9999⟩:Hol) ⟨rfl,rfl,rfl,rfl,rfl,trivial⟩ ⟨iF,k8,k2,k3,ab,aK⟩;refine W ?_;refine S1 (u:=.I ((y:Int) / 3 % 61 - 10)) k8 ?_;rintro _ wn ⟨hT,k8⟩;replace k8:Blk wn b8 138 [.I (4),.I (m2),.I (0),.I (0),.I (0),.I ((y:Int) / 3 % 61 - 10),.I (m3),.I (1),.I (9999)]:=k8;replace k3:=k3.ext hT (by simp;omega);replace k2:=k2.ext hT (by simp;omega);replace ab:=ab.keep hT (by simp;exact iM.2.2);replace aK:=aK.ow hT;clear hT;refine W ?_;refine S1 (u:=.I (0)) k8 ?_;rintro _ wn ⟨hT,k8⟩;replace k8:Blk wn b8 138 [.I (4),.I (0),.I (0),.I (0),.I (0),.I ((y:Int) / 3 % 61 - 10),.I (m3),.I (1),.I (9999)]:=k8;replace k3:=k3.ext hT (by simp;omega);replace k2:=k2.ext hT (by simp;omega);replace ab:=ab.keep hT (by simp;exact iM.2.2);replace aK:=aK.ow hT;clear hT;refine W ?_;have iF:Z1V (⟨4,0,0,0,0,(y:Int) / 3 % 61 - 10,m3,1,9999⟩:Hol):=by constructor<;>dsimp only<;>omega
 exact ZA (⟨4,0,0,0,0,(y:Int) / 3 % 61 - 10,m3,1,9999⟩:Hol) ⟨rfl,rfl,rfl,rfl,rfl,trivial⟩ ⟨iF,k8,k2,k3,ab,aK⟩;rintro hh wq ⟨iF,k8,k2,k3,ab,aK⟩;refine W ?_;refine Z0 (Z1 (vs:=[(0,agg hh)]) rfl (Zna _)) rfl ?_;rintro bw wn hN;have dY:SlV (ob hv++[]) wn bw [hh]:=hN.slv (λb hb=>(ab.ob_le b (by simpa using hb)).2) rfl rfl (by simp [maxLen]);have hT:=Z9.stp hN;clear hN;replace k3:=k3.up hT;replace k2:=k2.up hT;replace ab:=ab.up hT;replace aK:=aK.trans hT.mn;clear hT;have bh:=ab.ob_le;have aY:=aK.size;refine Z0 (Zx (X:=[]) (base:=w5.heap.size) rfl (by decide) rfl rfl ab dY (by simp only [Xe,Xf];omega) (by simp only [Xe,Xf,maxLen];omega) aY) rfl ?_;rintro rO wn ⟨ab,hT,gO⟩;replace k2:=k2.ext hT (λh=>by have:=(bh _ h).1;omega);replace k3:=k3.ext hT (λh=>by have:=(bh _ h).1;omega);replace aK:Stp [b3] w5 wn:=aK.own hT (λc hc=>.inr (bh c hc).1);clear hT;have bA:=ab.ob_le;refine W ?_;refine Z6 (Zb (u:=rO) rfl rfl (Row.slv (X:=[]) ab (by simp)).cells (Row.slv (X:=[]) ab (by simp)).one k3 (by simp [cL])) ?_;rintro _ wn ⟨hT,k3⟩;replace k3:Blk wn b3 35 (cL b0 b5 b6 rO (.N) (.I 0) (.N) (.I hr)):=k3;replace k2:=k2.ext hT (by simpa using n23);replace ab:=ab.keep hT (λb hb h=>by have:=bA _ h;simp at hb;omega);replace aK:=aK.trans hT;clear hT;refine W ?_;refine QL (j+1,rO,hols++[hh]) ⟨by dsimp only;omega,by dsimp only;rw [Xc];simp only [Xe,Xf];omega,k2,k3,ab,?_,aK⟩ (by dsimp only;omega);intro z hz;rcases Xh.1 hz with h|h
 exact fI z h;rw [Xl.1 h];exact iF
 . refine QO ?_
   all_goals exact QT (hv,hols) ⟨(by dsimp only;omega),k2,k3,ab,fI,aK⟩
 rintro ⟨hv,hols⟩ w6 ⟨ii,k2,k3,ab,fI,aK⟩;dsimp only at ii k3 ab fI ⊢;have eW:SlV (b2 :: b3 :: X) w6 hv hols:=Row.slv (X:=b2 :: b3 :: X) ab (λb hb=>by
  rcases Xb.1 hb with rfl|hb
  omega;rcases Xb.1 hb with rfl|hb
  omega;have:=hX b hb;omega)
 replace hS:=hS.ow aK;clear ab aK;have wY:=hS.size;have k3lt6:=k3.lt;have k2lt6:=k2.lt;refine W ?_;refine Z0f (σ:=Value×List Clo) (λq=>[(0,v),(2,pQ b2),(3,pQ b3)]) (λq w'=>q.2.length<=3/\(∀ x∈q.2,Zcw x)/\Blk w' b2 35 ((.agg (cL false false false (.N) (.N) (.I 0) (.N) (.I 0)).toArray:Value).cells.toList)/\Blk w' b3 35 (cL b0 b5 b6 hv q.1 (.I 0) (.N) (.I hr))/\Row [] w' w6.heap.size 73 q.1 q.2/\Stp [b3] w6 w') ?_ ?_
 refine Zr (σ:=Nat×Value×List Clo) (λq=>[(0,v),(2,pQ b2),(3,pQ b3),(9,.I (q.1:Int))]) (λq w'=>q.1<=3/\q.2.2.length<=q.1/\(∀ x∈q.2.2,Zcw x)/\Blk w' b2 35 ((.agg (cL false false false (.N) (.N) (.I 0) (.N) (.I 0)).toArray:Value).cells.toList)/\Blk w' b3 35 (cL b0 b5 b6 hv q.2.1 (.I 0) (.N) (.I hr))/\Row [] w' w6.heap.size 73 q.2.1 q.2.2/\Stp [b3] w6 w') (λq=>3 - q.1)
  (0,.N,[]) ⟨rfl,rfl,rfl,rfl,trivial⟩ ⟨by decide,by decide,(by simp),k2,k3,Row.nil,Stp.refl _ _⟩ ?_
 rintro ⟨j,cv,clos⟩ w7 ⟨rM,ai,gF,k2,k3,ab,aK⟩;dsimp only at rM ai k3 ab ⊢;have cI:=hs.up (hS.ow aK);have rN:=ab.ob_le;refine W ?_;refine CM (ZI rfl rfl rfl) (ZV [] _ l 9 4 _ (by decide) (by unfold I64;omega) cI hl) ?_;rintro _ wn ⟨q,rfl,hq,hT⟩;replace k3:=k3.up hT;replace k2:=k2.up hT;replace ab:=ab.up hT;replace cI:=cI.up hT;replace aK:=aK.trans hT.mn;clear hT;by_cases hlt:(j:Int)<(q:Int);refine QO ?_;refine CM (ZI rfl rfl rfl) (ZV [] _ l (10+(j:Int)) 1000000 _ (by decide) (by unfold I64;omega) cI hl) ?_;rintro _ wn ⟨x,rfl,hx,hT⟩;replace k3:=k3.up hT;replace k2:=k2.up hT;replace ab:=ab.up hT;replace cI:=cI.up hT;replace aK:=aK.trans hT.mn;clear hT;refine W ?_;refine Z7 (vs:=[(0,.I (739616+(x:Int) % 120)),(1,.I (739616+(x:Int) % 120+(x:Int) / 120 % 6)),(2,.I (739616+(x:Int) / 720 % 130))]) rfl (Znb _ _ _) rfl ?_;have o0:Zcw ⟨739616+(x:Int) % 120,739616+(x:Int) % 120+(x:Int) / 120 % 6,739616+(x:Int) / 720 % 130⟩:=by unfold Zcw;dsimp only;omega
 generalize 739616+(x:Int) % 120=lo at o0 ⊢;generalize lo+(x:Int) / 120 % 6=hi at o0 ⊢;generalize 739616+(x:Int) / 720 % 130=kn at o0 ⊢;refine Z0 (Z1 (vs:=[(0,agg (⟨lo,hi,kn⟩:Clo))]) rfl (Znc _)) rfl ?_;rintro bw wn hN;have dY:SlV (ob cv++[]) wn bw [(⟨lo,hi,kn⟩:Clo)]:=hN.slv (λb hb=>(ab.ob_le b (by simpa using hb)).2) rfl rfl (by simp [maxLen]);have hT:=Z9.stp hN;clear hN;replace k3:=k3.up hT;replace k2:=k2.up hT;replace ab:=ab.up hT;replace aK:=aK.trans hT.mn;clear hT;have bh:=ab.ob_le;have aY:=aK.size;refine Z0 (Zx (X:=[]) (base:=w6.heap.size) rfl (by decide) rfl rfl ab dY (by simp only [Xe,Xf];omega) (by simp only [Xe,Xf,maxLen];omega) aY) rfl ?_;rintro cv' wn ⟨ab,hT,gO⟩;replace k2:=k2.ext hT (λh=>by have:=(bh _ h).1;omega);replace k3:=k3.ext hT (λh=>by have:=(bh _ h).1;omega);replace aK:Stp [b3] w6 wn:=aK.own hT (λc hc=>.inr (bh c hc).1);clear hT;have bA:=ab.ob_le;refine W ?_;refine Z6 (Zb (u:=cv') rfl rfl (Row.slv (X:=[]) ab (by simp)).cells (Row.slv (X:=[]) ab (by simp)).one k3 (by simp [cL])) ?_;rintro _ wn ⟨hT,k3⟩;replace k3:Blk wn b3 35 (cL b0 b5 b6 hv cv' (.I 0) (.N) (.I hr)):=k3;replace k2:=k2.ext hT (by simpa using n23);replace ab:=ab.keep hT (λb hb h=>by have:=bA _ h;simp at hb;omega);replace aK:=aK.trans hT;clear hT;refine W ?_;refine Zw (j+1,cv',clos++[(⟨lo,hi,kn⟩:Clo)]) ⟨rfl,rfl,rfl,rfl,trivial⟩ ⟨by dsimp only;omega,by dsimp only;rw [Xc];simp only [Xe,Xf];omega,(λy hy=>by rcases Xh.1 hy with h|h;exact gF y h;rw [Xl.1 h];exact o0),k2,k3,ab,aK⟩ (by dsimp only;omega)
 . refine QO ?_
   all_goals exact QT (cv,clos) ⟨(by dsimp only;omega),gF,k2,k3,ab,aK⟩
 rintro ⟨cv,clos⟩ w7 ⟨nP,gF,k2,k3,ab,aK⟩;dsimp only at k3 ab ⊢;have ca:SlV (b2 :: b3 :: X) w7 cv clos:=Row.slv (X:=b2 :: b3 :: X) ab (λb hb=>by
  rcases Xb.1 hb with rfl|hb
  omega;rcases Xb.1 hb with rfl|hb
  omega;have:=hX b hb;omega)
 replace eW:SlV (b2 :: b3 :: X) w7 hv hols:=eW.ext aK (by simp) (λ_ h=>.inl h);replace hS:=hS.ow aK;clear ab aK;have cI:=hs.up hS;have wZ:=hS.size;have k3lt7:=k3.lt;have k2lt7:=k2.lt;by_cases cT:13<l.length;refine QO ?_;have fU:=cI.slc (l:=13) (r:=l.length) (by omega) (Xn _);rw [Xp] at fU;refine Z4P (l:=13) rfl cI rfl (by simp) (by omega) rfl ?_;refine W ?_;refine CL (Z8v _ (l.drop 13) _ fU (λa ha=>hl a (YaG ha))) ?_;rintro _ w8 ⟨zo,zs,xs,rfl,iU,jv,hz⟩;have bh:=hz.ob_le;have hT:=hz.2;replace k3:=k3.up hT;replace k2:=k2.up hT;have dc:=hz.1;replace eW:SlV (b2 :: b3 :: (ob zs++X)) w8 hv hols:=eW.ext hT (by simp) (λb hb=>by
  simp at hb;rcases hb with rfl|rfl|hb|hb
  exact .inl (by simp);exact .inl (by simp);exact .inr (bh b hb).1;exact .inl (by simp [hb]))
 replace ca:SlV (b2 :: b3 :: (ob zs++X)) w8 cv clos:=ca.ext hT (by simp) (λb hb=>by
  simp at hb;rcases hb with rfl|rfl|hb|hb
  exact .inl (by simp);exact .inl (by simp);exact .inr (bh b hb).1;exact .inl (by simp [hb]))
 replace hS:=hS.trans hT;have eK:b3∉ob zs:=λh=>by have:=(bh _ h).1;omega
 have lY:b2∉ob zs:=λh=>by have:=(bh _ h).1;omega
 clear hT hz hs cI;refine W ?_;refine Z6 (Z12 (o:=9) (us:=[.I zo,zs]) rfl rfl rfl rfl (by intro u hu;simp at hu;rcases hu with rfl|rfl;exact rfl;exact (Row.slv (X:=[]) dc (by simp)).one) k3 (by simp [cL])) ?_;rintro _ w9 ⟨hT,k3⟩;replace k3:Blk w9 b3 35 (cL b0 b5 b6 hv cv (.I zo) zs (.I hr)):=k3;replace k2:=k2.ext hT (by simpa using n23);replace dc:=dc.keep hT (λb hb h=>by simp at hb;subst hb;exact eK h);replace eW:=eW.ext (X':=b2 :: b3 :: (ob zs++X)) hT (by simp) (λ_ h=>.inl h);replace ca:=ca.ext (X':=b2 :: b3 :: (ob zs++X)) hT (by simp) (λ_ h=>.inl h);replace hS:=hS.ow hT;clear hT;refine W ?_;refine Z0f (σ:=Unit) (λq=>[(2,pQ b2),(3,pQ b3)]) (λq w'=>Stp (ob zs) w9 w') ?_ ?_
 refine Zr (σ:=Nat×List Spn) (λq=>[(2,pQ b2),(3,pQ b3),(13,.I (q.1:Int))]) (λq w'=>q.1<=xs.length/\q.2.length=xs.length/\(∀ i (hi:i<q.2.length),q.1<=i->Zcv q.2[i])/\Row [] w' w7.heap.size 141 zs q.2/\Stp (ob zs) w9 w') (λq=>xs.length - q.1)
  (0,xs) ⟨rfl,rfl,rfl,trivial⟩ ⟨by dsimp only;omega,rfl,(λi hi _=>iU _ (Xd hi)),dc,Stp.refl _ _⟩ ?_
 rintro ⟨j,ys⟩ wa ⟨hj,fx,cE,dc,aK⟩;dsimp only at hj fx cE dc ⊢;have k3:=k3.ext aK eK;have dQ:SlV [] wa zs ys:=Row.slv (X:=[]) dc (by simp);rw [<- fx] at hj;by_cases hlt:j<ys.length;refine QO ?_;have dw:=(cE j hlt (Xn _))
 unfold Zcv at dw;refine ZDr 15 [] [14] [(0,0),(1,0),(2,1),(3,0),(4,0),(5,0),(6,1),(7,0),(8,0),(9,0),(10,1),(11,0),(12,0),(13,0),(14,2)] (λw1 ae=>?_);replace k3:=k3.up ae;replace dc:=dc.up ae;replace dQ:=dQ.up ae;replace aK:=aK.trans ae.mn;clear ae;refine D ?_;refine Jm rfl trivial (Z46 (β:=Spn) (i:=j) (y':=((ys[j].1+1065047040,ys[j].2):Spn)) rfl rfl rfl rfl rfl dc hlt (by decide) rfl) rfl ?_;rintro _ wb ⟨dc,hT⟩;replace aK:=aK.trans hT;refine D ?_;refine W ?_;refine Zw (j+1,ys.set j ((ys[j].1+1065047040,ys[j].2):Spn)) ⟨rfl,rfl,rfl,trivial⟩ ⟨by dsimp only;omega,by dsimp only;rw [X4];exact fx,?_,dc,aK⟩ (by dsimp only;omega);intro i hi cQ;dsimp only at hi cQ ⊢;rw [YaI (by omega)];exact cE i (by rw [X4] at hi;exact hi) (by omega)
 . refine QO ?_
   all_goals exact QT () aK
 rintro _ wa aK;have k3:=k3.ext aK eK;have k2:=k2.ext aK lY;have eW:=eW.ext (X':=b2 :: b3 :: X) aK (λb h=>by simp [h]) (λb h=>.inl (by simp at h;rcases h with rfl|rfl|h<;>simp [*]));have ca:=ca.ext (X':=b2 :: b3 :: X) aK (λb h=>by simp [h]) (λb h=>.inl (by simp at h;rcases h with rfl|rfl|h<;>simp [*]));replace hS:=hS.own aK (λc hc=>.inr (by have:=(bh _ hc).1;omega));have nQ:zs.oneCell'=true:=(Row.slv (X:=[]) dc (by simp)).one;clear aK;refine W ?_;refine SB (us:=cL b0 b5 b6 hv cv (.I zo) zs (.I hr)) (by intro u hu;simp [cL] at hu;rcases hu with rfl|rfl|rfl|rfl|rfl|rfl|rfl|rfl|rfl|rfl|rfl<;>first|exact rfl|exact nQ|exact eW.one|exact ca.one) k2 ?_;rintro _ wb ⟨hT,k2⟩;refine W ?_;refine J0 rfl rfl rfl k2 rfl ?_;exact .mk ⟨⟨[b0,false,false,false,false,b5,b6],hols,clos⟩,hv,cv,.I zo,zs,.I hr,rfl,⟨rfl,nQ,rfl⟩,⟨⟨rfl,fI,by dsimp only;omega⟩,⟨b0,b5,b6,rfl⟩,ii,nP,gF⟩,eW.ext hT (by simp) (λb h=>.inl (by simp [h])),ca.ext hT (by simp) (λb h=>.inl (by simp [h])),hS.ow hT⟩;refine QO ?_;refine CM (ZN rfl) (Z8v _ [] _ (Row.slv (X:=[]) (Row.nil (base:=0) (T:=0)) (by simp)) (by simp)) ?_;rintro _ w8 ⟨zo,zs,xs,rfl,iU,jv,hz⟩;have bh:=hz.ob_le;have hT:=hz.2;replace k3:=k3.up hT;replace k2:=k2.up hT;have dc:=hz.1;replace eW:SlV (b2 :: b3 :: (ob zs++X)) w8 hv hols:=eW.ext hT (by simp) (λb hb=>by
  simp at hb;rcases hb with rfl|rfl|hb|hb
  exact .inl (by simp);exact .inl (by simp);exact .inr (bh b hb).1;exact .inl (by simp [hb]))
 replace ca:SlV (b2 :: b3 :: (ob zs++X)) w8 cv clos:=ca.ext hT (by simp) (λb hb=>by
  simp at hb;rcases hb with rfl|rfl|hb|hb
  exact .inl (by simp);exact .inl (by simp);exact .inr (bh b hb).1;exact .inl (by simp [hb]))
 replace hS:=hS.trans hT;have eK:b3∉ob zs:=λh=>by have:=(bh _ h).1;omega
 have lY:b2∉ob zs:=λh=>by have:=(bh _ h).1;omega
 clear hT hz hs cI;refine W ?_;refine Z6 (Z12 (o:=9) (us:=[.I zo,zs]) rfl rfl rfl rfl (by intro u hu;simp at hu;rcases hu with rfl|rfl;exact rfl;exact (Row.slv (X:=[]) dc (by simp)).one) k3 (by simp [cL])) ?_;rintro _ w9 ⟨hT,k3⟩;replace k3:Blk w9 b3 35 (cL b0 b5 b6 hv cv (.I zo) zs (.I hr)):=k3;replace k2:=k2.ext hT (by simpa using n23);replace dc:=dc.keep hT (λb hb h=>by simp at hb;subst hb;exact eK h);replace eW:=eW.ext (X':=b2 :: b3 :: (ob zs++X)) hT (by simp) (λ_ h=>.inl h);replace ca:=ca.ext (X':=b2 :: b3 :: (ob zs++X)) hT (by simp) (λ_ h=>.inl h);replace hS:=hS.ow hT;clear hT;refine W ?_;refine Z0f (σ:=Unit) (λq=>[(2,pQ b2),(3,pQ b3)]) (λq w'=>Stp (ob zs) w9 w') ?_ ?_
 refine Zr (σ:=Nat×List Spn) (λq=>[(2,pQ b2),(3,pQ b3),(13,.I (q.1:Int))]) (λq w'=>q.1<=xs.length/\q.2.length=xs.length/\(∀ i (hi:i<q.2.length),q.1<=i->Zcv q.2[i])/\Row [] w' w7.heap.size 141 zs q.2/\Stp (ob zs) w9 w') (λq=>xs.length - q.1)
  (0,xs) ⟨rfl,rfl,rfl,trivial⟩ ⟨by dsimp only;omega,rfl,(λi hi _=>iU _ (Xd hi)),dc,Stp.refl _ _⟩ ?_
 rintro ⟨j,ys⟩ wa ⟨hj,fx,cE,dc,aK⟩;dsimp only at hj fx cE dc ⊢;have k3:=k3.ext aK eK;have dQ:SlV [] wa zs ys:=Row.slv (X:=[]) dc (by simp);rw [<- fx] at hj;by_cases hlt:j<ys.length;refine QO ?_;have dw:=(cE j hlt (Xn _))
 unfold Zcv at dw;refine ZDr 15 [] [14] [(0,0),(1,0),(2,1),(3,0),(4,0),(5,0),(6,1),(7,0),(8,0),(9,0),(10,1),(11,0),(12,0),(13,0),(14,2)] (λw1 ae=>?_);replace k3:=k3.up ae;replace dc:=dc.up ae;replace dQ:=dQ.up ae;replace aK:=aK.trans ae.mn;clear ae;refine D ?_;refine Jm rfl trivial (Z46 (β:=Spn) (i:=j) (y':=((ys[j].1+1065047040,ys[j].2):Spn)) rfl rfl rfl rfl rfl dc hlt (by decide) rfl) rfl ?_;rintro _ wb ⟨dc,hT⟩;replace aK:=aK.trans hT;refine D ?_;refine W ?_;refine Zw (j+1,ys.set j ((ys[j].1+1065047040,ys[j].2):Spn)) ⟨rfl,rfl,rfl,trivial⟩ ⟨by dsimp only;omega,by dsimp only;rw [X4];exact fx,?_,dc,aK⟩ (by dsimp only;omega);intro i hi cQ;dsimp only at hi cQ ⊢;rw [YaI (by omega)];exact cE i (by rw [X4] at hi;exact hi) (by omega)
 . refine QO ?_
   all_goals exact QT () aK
 rintro _ wa aK;have k3:=k3.ext aK eK;have k2:=k2.ext aK lY;have eW:=eW.ext (X':=b2 :: b3 :: X) aK (λb h=>by simp [h]) (λb h=>.inl (by simp at h;rcases h with rfl|rfl|h<;>simp [*]));have ca:=ca.ext (X':=b2 :: b3 :: X) aK (λb h=>by simp [h]) (λb h=>.inl (by simp at h;rcases h with rfl|rfl|h<;>simp [*]));replace hS:=hS.own aK (λc hc=>.inr (by have:=(bh _ hc).1;omega));have nQ:zs.oneCell'=true:=(Row.slv (X:=[]) dc (by simp)).one;clear aK;refine W ?_;refine SB (us:=cL b0 b5 b6 hv cv (.I zo) zs (.I hr)) (by intro u hu;simp [cL] at hu;rcases hu with rfl|rfl|rfl|rfl|rfl|rfl|rfl|rfl|rfl|rfl|rfl<;>first|exact rfl|exact nQ|exact eW.one|exact ca.one) k2 ?_;rintro _ wb ⟨hT,k2⟩;refine W ?_;refine J0 rfl rfl rfl k2 rfl ?_;exact .mk ⟨⟨[b0,false,false,false,false,b5,b6],hols,clos⟩,hv,cv,.I zo,zs,.I hr,rfl,⟨rfl,nQ,rfl⟩,⟨⟨rfl,fI,by dsimp only;omega⟩,⟨b0,b5,b6,rfl⟩,ii,nP,gF⟩,eW.ext hT (by simp) (λb h=>.inl (by simp [h])),ca.ext hT (by simp) (λb h=>.inl (by simp [h])),hS.ow hT⟩
end Go.Proofs.YtipfkbkkndacjaaGreatDoor
namespace Go.Eng
open Go Go.RowKit Go.Proofs
theorem Z6Y:∀ {e:Env} {t:Nat} {v:Value},look e t=some v->(t,v)∈e
 | (k, u) :: r, t, v, h => by
   rw [JR] at h;by_cases hk:k=t;subst hk;simp at h;subst h;simp;rw [if_neg hk] at h;exact XE _ (Z6Y h)
theorem Has.of {n:Nat} {e:Env} {a:Act} (h1:a.defers=[]) (h2:a.tmps.size=n) (h3:∀ p∈e,a.tmps.getD p.1 undef=p.2):Has n e a:=⟨h1,h2,λt v h=>h3 (t,v) (Z6Y h)⟩
section
variable {P:Program} {n:Nat} {Q:Exit->Act->World->Prop} {e:Env} {w:World} {ops:Array Oper} {rest:List Oper} {ty:TypeId} {pos:String} {af:Array Edge} {ds:List Deferred}
theorem Z9G {fn:Func} {gP:Frame} {cs:List Frame} {u':FrameMode} {R:Ending->FrameMode->World->Prop} {c:Code} {a:Act} (ha:Has n e a) (h:WC P n c (bodyPost P fn (λx w=>R x u' w)) e w) :
 c.wpS P (bodyPostS P fn gP cs R) a ({ gP with mode:=u' } :: cs) w:=by
 refine wpS_of_wp (wp_mono (h.h a ha) λex a' w' hq=>?_);cases ex with
 | normal=>obtain ⟨hd,v,hr,hR⟩:=hq;exact ⟨hd,u',rfl,v,hr,hR⟩
 | ret=>obtain ⟨hd,v,hr,hR⟩:=hq;exact ⟨hd,u',rfl,v,hr,hR⟩
 | panic ch=>obtain ⟨hd,hR⟩:=hq;exact ⟨hd,u',rfl,hR⟩
 | exit i=>exact hq.elim
 | goto l=>exact hq.elim
 | outgrown=>exact ⟨u',hq⟩
theorem ZaQ {f:FuncId} {fn:Func} {c:Code} {args:Array Value} {w} {R:Ending->World->Prop} {n:Nat} (hf:P.funcs[f]?=some fn) (hb:fn.body=some c)
 (hn:fn.ntmps=n) (hs:Nat.ble args.size n=true) (h:WC P n c (bodyPostD P fn R) (Z4M args.toList 0) w):Calls P f args w R:=by
 refine calls_of_wp_defers hf hb (h.h _ ?_);rw [hn];have cQ:args.size<=n:=XV hs;refine ⟨rfl,by simp;omega,λt v hv=>?_⟩;obtain ⟨_,h2⟩:=Z3j _ _ _ _ hv;simp only [Nat.sub_zero] at h2;have hlt:t<args.size:=by
  have:=(Xu.1 h2).1;simpa using this
 have:args[t]?=some v:=by simpa using h2
 have h3:(args++Array.replicate (n - args.size) undef)[t]?=some v:=by
  rw [XU hlt];exact this
 simp [Xz,h3]
theorem Z8S {f:FuncId} {fn:Func} {c:Code} {a0 a1:Value} {w} {R:Ending->World->Prop} {n:Nat} (hf:P.funcs[f]?=some fn) (hb:fn.body=some c)
 (hn:fn.ntmps=n) (hs:Nat.ble 2 n=true) (h:WC P n c (bodyPostD P fn R) [(0,a0),(1,a1)] w):Calls P f #[a0,a1] w R:=ZaQ hf hb hn hs h
theorem Zkb {y:Code} {t:Operand} {fv:Fn} {cap:Array Value} (hc:ev e t=some (.func fv #[] cap)) {ts:Array TypeId}
 (h:WCD [{ target:=.fn fv cap,args:=#[] }] P n y Q e w) :
 WL P n ops (Exit.then (λa w=>y.wp P Q a w) Q) [⟨none,.defer { callee:=.value t,args:=#[],argTypes:=ts },ty,pos,af,none⟩] e w:=by
 refine ⟨λa ha=>?_⟩;refine wpList_plain rfl (λK hK=>?_);unfold Oper.wp;have he:(execOp a.eval ⟨none,.defer { callee:=.value t,args:=#[],argTypes:=ts },ty,pos,af,none⟩).run P w=.ok (.defer { target:=.fn fv cap,args:=#[] }) w:=by
  simp [execOp,resolve,ha.ev hc,Deferred.ofValue]
 rw [he];simp only [Oper.upon];refine hK _ _ ?_;have hd:({ a with defers:={ target:=.fn fv cap,args:=#[] } :: a.defers }:Act)=Z1m [{ target:=.fn fv cap,args:=#[] }] a:=by
  unfold Z1m;rw [ha.defers];rfl
 show wpList P ops _ [] (Act.put { a with defers:=_ } none undef) w;rw [hd];exact wpList_nil (h.h a ha)
theorem Zgw {d:Nat} {f:Nat} {fn:Func} {xs:Array Operand} {ts:Array TypeId} {vs:Array Value} {c:Operand} {ch:List PanicEntry} {F:World->Prop} [hf:Fun P f fn]
 (hc:ev e c=some (.func (.func f) #[] #[])) (hv:∀ a,Has n e a->xs.map a.eval=vs) (h:Calls P f vs w (λe w'=>e=.panicked ch/\F w')) (hd:Nat.blt d n=true) (k:∀ w',F w'->WQ n Q (.panic ch) e w') :
 WL P n ops Q (⟨some d,.call { callee:=.value c,args:=xs,argTypes:=ts },ty,pos,af,none⟩ :: rest) e w:=
 Zaf (G:=λ_ _=>False) (F:=λch' w'=>ch'=ch/\F w') (Z7E hc hv (h.mono λe w' ⟨h1,h2⟩=>by rw [h1];exact .pan ⟨rfl,h2⟩)) hd (λch' w' ⟨h1,h2⟩=>by subst h1;exact k w' h2) (λ_ _ h=>h.elim)
theorem Z6v {t b T:Nat} {D:TypeDesc} {v:Value} [hu:Und P t D] (hA:Z0C D=false) (hb:Blk w b T [v]):(loadVar t ⟨b,0,none⟩).run P w=.ok v w:=by
 have:=hb.cell (j:=0) rfl;simp [loadVar,Und.isAgg,hA,this]
theorem Z6w {fn:Func} {a:Act} {t1 t2 t3 T1 T2 T3 b1 b2 b3 S1 S2 S3:Nat} {D1 D2 D3:TypeDesc} {v1 v2 v3:Value} (hr:fn.results=#[.cell t1 T1,.cell t2 T2,.cell t3 T3]) [sX:Und P T1 D1] [vx:Und P T2 D2] [yw:Und P T3 D3] (mh:Z0C D1=false) (dl:Z0C D2=false) (xa:Z0C D3=false)
 (h1:a.tmps.getD t1 undef=pQ b1) (h2:a.tmps.getD t2 undef=pQ b2) (h3:a.tmps.getD t3 undef=pQ b3)
 (e1:Blk w b1 S1 [v1]) (e2:Blk w b2 S2 [v2]) (e3:Blk w b3 S3 [v3]):(results fn a.tmps).run P w=.ok (.tuple #[v1,v2,v3]) w:=by
 rw [Xz] at h1 h2 h3;simp [results,hr,h1,h2,h3,asAddr,Z6v mh e1,Z6v dl e2,Z6v xa e3]
theorem Z8x {fn fn':Func} {tmps:Array Value} {R:Ending->World->Prop} {f:FuncId} {cap:Array Value} {u:FrameMode} (hu:u≠.run) [hf:Fun P f fn'] {G:Value->FrameMode->World->Prop}
 (h:CallsD P f cap u w λe u' w'=>∃ v,e=.returned v/\G v u' w') (hk:∀ v u' w',G v u' w'->settle u'=.returning/\∃ r,(results fn tmps).run P w'=.ok r w'/\R (.returned r) w') :
 Leaves P fn tmps R [{ target:=.fn (.func f) cap,args:=#[] }] u w:=by
 refine leaves_cons (f:=f) (args:=cap) hu ?_ (h.mono λe u' w' ⟨v,h1,h2⟩=>?_);simp [invoke];exact hf.enters cap w;subst h1;obtain ⟨h3,r,h4,h5⟩:=hk v u' w' h2;show Leaves P fn tmps R [] (settle u') w';rw [h3];exact ⟨r,h4,h5⟩
theorem Z4K {d:Option Nat} {g:Option (Nat×Bool)} {x:Operand} {t s:TypeId} {u v:Value} (hx:ev e x=some u) (hb:∀ w,(Instr.typeAssert u t s true).run P w=.ok v w):PR P n ⟨d,.typeAssert x t s true,ty,pos,af,g⟩ e w v:=
 ⟨λa ha=>by simp [execOp,ha.ev hx,hb]⟩
theorem ZaR {d:Option Nat} {g:Option (Nat×Bool)} {f:Nat} {x y z r:Operand} {v u s q:Value} (hx:ev e x=some v) (hy:ev e y=some u) (hz:ev e z=some s) (hr:ev e r=some q):PR P n ⟨d,.makeFunc (.func f) #[] #[x,y,z,r],ty,pos,af,g⟩ e w (.func (.func f) #[] #[v,u,s,q]):=
 ⟨λa ha=>by simp [execOp,Instr.makeFunc,ha.ev hx,ha.ev hy,ha.ev hz,ha.ev hr]⟩
end
theorem Z09 {α β:Type} {x:Out α} {k:α->Nat->Nat->Out β} {y:β} {i o:Nat} (h:x.bind k=.ok y i o):∃ a i1 o1,x=.ok a i1 o1/\k a i1 o1=.ok y i o:=by
 cases x with
 | err a c=>simp [Out.bind] at h
 | ok a i1 o1=>exact ⟨a,i1,o1,rfl,h⟩
theorem Z5Q {l:List Tkn} {i o:Nat} {s:Str} {i' o':Nat} (h:Z29 l i o=.ok s i' o'):i<i':=by
 unfold Z29 at h;split at h;simp [Z19] at h;obtain ⟨a,i1,o1,h1,h2⟩:=Z09 h;have:=Z1j h1;simp only [Out.ok.injEq] at h2;omega
theorem Z9H {l:List Tkn} {i o:Nat} {x:Nd} {i' o':Nat} (h:Z1P l i o=.ok x i' o'):i<i':=by
 have h1:=Z9b l i o;rw [h] at h1;have:=Z1Q l _ _ _ _ _ _ _ h1;simp only [Call.lo] at this;omega
theorem Z3Y {α:Type} {l:List Tkn} {wd:Str} {z:α} {rd:Nat->Nat->Out α} {i o:Nat} {x:α} {i' o':Nat} (hr:∀ i o x i' o',rd i o=.ok x i' o'->i<i') (h:Z1v l wd z rd i o=.ok x i' o'):i<=i':=by
 unfold Z1v at h;split at h;obtain ⟨a,i1,o1,h1,h2⟩:=Z09 h;obtain ⟨a2,i2,o2,h3,h4⟩:=Z09 h2;have:=hr _ _ _ _ _ h1;have:=(Z2a h3).1;simp only [Out.ok.injEq] at h4;omega;simp only [Out.ok.injEq] at h;omega
theorem Zcx {l:List Tkn} {i o:Nat} {r:RuleM} {i' o':Nat} (h:Z99 l i o=.ok r i' o'):i<i':=by
 unfold Z99 at h;obtain ⟨a1,i1,o1,h1,h⟩:=Z09 h;obtain ⟨a2,i2,o2,h2,h⟩:=Z09 h;obtain ⟨a3,i3,o3,h3,h⟩:=Z09 h;obtain ⟨a4,i4,o4,h4,h⟩:=Z09 h;obtain ⟨a5,i5,o5,h5,h⟩:=Z09 h;split at h;obtain ⟨a6,i6,o6,h6,h⟩:=Z09 h;obtain ⟨a7,i7,o7,h7,h⟩:=Z09 h;split at h;obtain ⟨a8,i8,o8,h8,h⟩:=Z09 h;obtain ⟨a9,i9,o9,h9,h⟩:=Z09 h;obtain ⟨a10,i10,o10,gD,h⟩:=Z09 h;obtain ⟨a11,i11,o11,lV,h⟩:=Z09 h;have:=(Z2a h1).1;have:=Z5Q h2;have:=(Z2a h3).1;have:=(Z1j h4).2.1;have:=(Z2a h5).1;have:=Z3Y (λ_ _ _ _ _ h=>Z5Q h) h6;have:=Z3Y (λ_ _ _ _ _ h=>Z9H h) h7;have:=Z3Y (λ_ _ _ _ _ h=>Z9H h) h8;have:=Z3Y (λ_ _ _ _ _ h=>Z5Q h) h9;have:=Z3Y (λ_ _ _ _ _ h=>Z5Q h) gD;have:=(Z2a lV).1;simp only [Out.ok.injEq] at h;omega;simp [Z19] at h;simp [Z19] at h
end Go.Eng
namespace Go.Proofs.YtipfkbkkndacjaaGreatDoor
open Go Go.Eng Go.RowKit Go.Proofs
theorem Zcy (r:Rul) (p:Option Addr) (a c:Nat) (p':Option Addr) (a' c':Nat) (w):(Instr.buildSlice 90 1 #[(0,.agg (rlC r (.slice p a c) (.slice p' a' c')).toArray)]).run Tryz.prog w=.ok (.slice (some ⟨w.heap.size,0,none⟩) 1 1) (w.alloc (.cells (rlC r (.slice p a c) (.slice p' a' c')).toArray 99)):=by kernel_rfl
theorem Zkc {X:List Nat} {w} {r:Rul} {cs:List Value} (h:Z5.rep X w r cs):∀ i (hi:i < [r].length) (cA:i < [cs].length),Z5.rep X w [r][i] [cs][i]
 | 0,_,_=>h
theorem ZdU (X:List Nat) (b:Nat) (tv:Value) (l:List Tkn) (hL:Z3A l) (m:Int) (i o f:Nat) (w:World) (aX:b≠2) (bT:b∈X) (hX:∀ c∈X,c<w.heap.size) (hm:w.cell? ⟨2,0,none⟩=some (.I m)) (hp:Pd w b tv l i o) (hf:l.length<=i+f) :
 Calls Tryz.prog 90 #[pQ b] w (PC b w tv l (Z2p l f [] i o) (λrs v w'=>SlV X w' v (rs.map RuleM.rul))):=by
 have bg:=hp.2.1;have jL:=hm;have dY:=hp.lt;have jO:=hp.2.2.2.1;generalize hR:Z2p l f [] i o=R;refine cW1 22 Tryz.func90 ?_;refine W ?_
 refine Zr (σ:=Nat×List RuleM×Value×Nat×Nat) (λq=>[(0,pQ b),(3,q.2.2.1)])
  (λq w'=>Z2p l q.1 q.2.1 q.2.2.2.1 q.2.2.2.2=R/\l.length<=q.2.2.2.1+q.1/\q.2.1.length<=q.2.2.2.1/\Pd w' b tv l q.2.2.2.1 q.2.2.2.2/\Row X w' w.heap.size 99 q.2.2.1 (q.2.1.map RuleM.rul)/\w'.cell? ⟨2,0,none⟩=some (.I m)/\Stp [b] w w')
  (λq=>q.1) (f,[],.N,i,o) ⟨rfl,rfl,trivial⟩ ⟨hR,hf,Xq _,hp,Row.nil,hm,Stp.refl _ _⟩ ?_
 clear hR hp hm hf;rintro ⟨f1,rs,rv,i1,o1⟩ w1 ⟨hR,hf,iw,hp,ab,hm,hS⟩;dsimp only at hR hf iw hp ab ⊢;have bN:=hp.i_lt;obtain ⟨f1,rfl⟩:∃ f',f1=f'+1:=⟨f1 - 1,by omega⟩
 simp only [Z2p] at hR;refine W ?_;refine ZDr 12 [] [] [(0,0),(1,0),(2,0),(3,1),(4,0),(5,0),(6,0),(7,1),(8,0),(9,0),(10,1),(11,0)] (λw1 ae=>?_);replace jc:=ae;replace hp:=hp.up ae;replace ab:=ab.up ae;replace hm:=ae.cell (by simp) hm;replace hS:=hS.trans ae.mn;clear ae jc;obtain ⟨dj,bO,gI,cr,fj⟩:=id hp;have jm:=Z6a gI;refine D ?_;by_cases hk:(cur l i1).kind=0;rw [if_pos hk] at hR;subst hR;rw [jm] at hk;refine QO ?_;refine WR ?_;refine PC.ok ?_ hp hS;exact ab.slv hX;rw [if_neg hk] at hR;rw [jm] at hk;refine QO ?_;have lm:∀ c∈ob rv++X,c<w1.heap.size:=λc hc=>by
  rcases Xh.1 hc with h|h
  exact (ab.ob_le c h).2;exact Xa (hX c h) hS.size
 have bF:=Zj7 (ob rv++X) b tv l hL m i1 o1 _ aX (by simp [bT]) lm hm hp;rcases hU:Z99 l i1 o1 with ⟨a,c⟩|⟨r,i2,o2⟩
 rw [hU] at hR;simp only [Out.bind] at hR;subst hR;refine ZR rfl (ZN rfl) (PC.falls bF hU hS) rfl ?_;intro wz bV;focus repeat'(first|refine Zh ?_|refine Zg ?_)
 refine ZD ?_;exact PC.err bV;rw [hU] at hR;simp only [Out.bind] at hR;have hlt:=Zcx hU;refine CL (PC.goes bF hU) ?_;rintro _ w3 ⟨⟨ki,kd,rfl,gA,ej⟩,fM,hT⟩;replace ab:=ab.ext (X':=X) hT (λc hc=>by
  simp only [Xl] at hc;subst hc;exact ⟨bT,λh=>by have:=(ab.ob_le c h).1;omega⟩) (λc hc=>.inl hc)
 replace hm:=Ju hm aX hT;replace hS:=hS.trans hT;have rP:∀ c∈ob rv++X,c<w3.heap.size:=λc hc=>Xa (lm c hc) hT.size;clear hT hp lm bF dj bO;obtain ⟨p1,c1,rfl,-⟩:=id gA;obtain ⟨p2,c2,rfl,-⟩:=id ej;refine Z0 (Z1 (vs:=[(0,.agg (rlC r.rul (.slice p1 r.rul.cnd.kids.length c1) (.slice p2 r.rul.due.kids.length c2)).toArray)]) rfl (Zcy _ _ _ _ _ _ _)) rfl ?_;intro bv w4 hN;have an:SlV (ob rv++X) w4 bv [r.rul]:=hN.slvG (css:=[rlC r.rul _ _]) rP rfl rfl (by simp) (Zkc ⟨_,_,rfl,gA,ej⟩) (by simp [maxLen]);have hT:=Z9.stp hN;replace fM:=fM.up hT;replace ab:=ab.up hT;replace hm:=hT.cell (by simp) hm;replace hS:=hS.trans hT.mn;clear hT hN gA ej;have oI:=hS.size;refine Z0 (Zx (X:=X) (base:=w.heap.size) rfl (by decide) rfl rfl ab an (by simp only [Xe,Xf,Xs];omega) (by simp only [Xe,Xf,Xs,maxLen];omega) oI) rfl ?_;rintro rv' w5 ⟨aC,hT,cb⟩;have eD:∀ c∈ob rv,w.heap.size<=c:=λc hc=>(ab.ob_le c hc).1;have oM:(2:Nat)∉ob rv:=λh=>by have:=eD _ h;have:=block_lt_of_cell jL;simp at this;omega
 replace hm:=hT.cell oM hm;replace hS:=hS.own hT (λc hc=>.inr (eD c hc));replace fM:Pd w5 b tv l i2 o2:=by
  obtain ⟨g1,g2,g3,g4,g5⟩:=fM;exact ⟨g1.ext hT (λh=>by have:=eD b h;omega),bg.ext hS (λc hc=>hc) (λc hc=>.inl hc),g3,g4,g5⟩
 clear hT;refine W ?_;refine QL (f1,rs++[r],rv',i2,o2) ⟨hR,by dsimp only;omega,by simp;omega,fM,?_,hm,hS⟩ (by dsimp only;omega);rw [XM];exact aC
theorem ZdV (X:List Nat) (v:Value) (l:List Int) (m:Nat) (w) (hs:SlV X w v l) (hl:∀ a∈l,I64 a) (hm:m<=100000):CC 65 #[v,.I (m:Int)] w λr w'=>ZE 3 w w' r (l.take m):=by
 have aT:=hs.max;refine cW2 14 Tryz.func65 ?_;refine W ?_;have kh:min (l.length:Int) (m:Int)=((min l.length m:Nat):Int):=by omega
 refine Z8 (Z1M (r:=min l.length m) rfl hs rfl (by omega) (Nat.min_le_left _ _)) rfl ?_;have ax:SlV X w _ (l.take (min l.length m)):=hs.slc (Xq (min l.length m)) (Nat.min_le_left _ _);refine Z0 (Jy rfl (by decide) rfl rfl (ZE.nil (w:=w)) (ys:=l.take (min l.length m)) (ax.wk (by simp [ob])) (by simp;omega) (by simp [maxLen];omega)) rfl ?_;rintro v' w1 ⟨ab,-,-⟩;refine W ?_;refine WR ?_;refine .mk ?_;have e:l.take (min l.length m)=l.take m:=by rw [Nat.min_comm,<- YaA,Xp]
 rw [XC,e] at ab;exact ab
theorem Zkd (p:Option Addr) (l c:Nat) (w):(Instr.build 146 #[(0,.slice p l c)]).run Tryz.prog w=.ok (.agg #[.slice p l c,.I 0]) w:=by kernel_rfl
theorem Zgx (X:List Nat) (lv:Value) (l:List Int) (w:World) (hX:∀ b∈X,b<w.heap.size) (hs:SlV [] w lv l) (hl:∀ a∈l,I64 a):CC 36 #[lv] w λr w'=>∃ rs:List RuleM,rs.length<=4/\(∀ x∈rs,Z7Y x)/\SlV X w' r (rs.map RuleM.rul)/\Stp [] w w':=by
 refine cW1 24 Tryz.func36 ?_;refine W ?_;refine CM (Zf rfl rfl) (ZdV [] lv l 120 _ hs hl (by decide)) ?_;rintro v w1 dq;have ax:=dq.slv (X:=[]) (by simp);have hS:=dq.2;have dT:∀ a∈l.take 120,I64 a:=λa ha=>hl a (Yar ha);clear dq;generalize l.take 120=l' at *;obtain ⟨p,c,rfl,-⟩:=id ax;refine W ?_;apply Z7 (vs:=[(0,.slice p l'.length c)]) rfl (Zkd _ _ _) rfl;refine Z0 (Zo rfl) rfl ?_;rintro _ w2 ⟨bm,rfl,kN,aB,hT⟩;replace aB:Mk3 w2 bm (.slice p l'.length c) 0:=aB;replace ax:SlV [bm] w2 (.slice p l'.length c) l':=ax.ext hT (by simp) (λb h=>.inr (by simp at h;omega));have dY:w.heap.size<=bm:=Xg hS.size kN;replace hS:=hS.trans hT;clear hT kN;refine W ?_;refine CM (Zf rfl rfl) (Z0d bm _ l' _ 5 _ (by decide) (by omega) aB ax dT) ?_;rintro _ w3 ⟨k,rfl,hk,aB,hT⟩;replace ax:=ax.ext hT (λ_ h=>h) (λ_ h=>.inl h);have hlt:=aB.lt;refine W ?_
 refine Zr (σ:=Nat×List RuleM×Value×Nat) (λq=>[(3,pQ bm),(4,q.2.2.1),(5,.I (k:Int)),(6,.I (q.1:Int))])
  (λq w'=>q.1<=k/\q.2.1.length=q.1/\(∀ x∈q.2.1,Z7Y x)/\q.2.2.2<=1+300 * q.1/\Mk3 w' bm (.slice p l'.length c) q.2.2.2/\Row (bm :: X) w' w3.heap.size 99 q.2.2.1 (q.2.1.map RuleM.rul)/\Stp [bm] w3 w')
  (λq=>k - q.1) (0,[],.N,1) ⟨rfl,rfl,rfl,rfl,trivial⟩ ⟨Xq _,rfl,by simp,by simp,aB,Row.nil,Stp.refl _ _⟩ ?_
 have am:=hS.ow hT;have rQ:=ax;clear aB ax hS hT;rintro ⟨i,rs,v,at_⟩ w4 ⟨hi,ai,aA,fz,aB,ab,hS⟩;dsimp only at hi ai aA fz aB ab ⊢;have bE:=hS.size;by_cases ja:i<k;refine QO ?_;have lm:∀ b∈ob v++bm :: X,b<w4.heap.size:=λb hb=>by
  rcases Xh.1 hb with h|h
  exact (ab.ob_le b h).2;rcases Xb.1 h with rfl|h
  omega;have:=hX b h;have:=am.size;omega
 refine CM (ZN rfl) (ZfI (ob v++bm :: X) bm _ l' _ _ aB (rQ.ext hS (λ_ h=>h) (λ_ h=>.inl h)) dT (by omega) lm) ?_;rintro _ w5 ⟨r,i',⟨ki,kd,rfl,gA,ej⟩,hr,aB,cA,hT⟩;replace ab:=ab.ext (X':=bm :: X) hT (λb hb=>by
  simp only [Xl] at hb;subst hb;exact ⟨by simp,λh=>by have:=(ab.ob_le b h).1;omega⟩) (λb hb=>.inl hb)
 have rR:∀ b∈ob v++bm :: X,b<w5.heap.size:=λb hb=>Xa (lm b hb) hT.size;replace hS:=hS.trans hT;clear hT lm;obtain ⟨p1,c1,rfl,-⟩:=id gA;obtain ⟨p2,c2,rfl,-⟩:=id ej;refine Z0 (Z1 (vs:=[(0,.agg (rlC r.rul (.slice p1 r.rul.cnd.kids.length c1) (.slice p2 r.rul.due.kids.length c2)).toArray)]) rfl (Zcy _ _ _ _ _ _ _)) rfl ?_;intro bv w6 hN;have an:SlV (ob v++bm :: X) w6 bv [r.rul]:=hN.slvG (css:=[rlC r.rul _ _]) rR rfl rfl (by simp) (Zkc ⟨_,_,rfl,gA,ej⟩) (by simp [maxLen]);have hT:=Z9.stp hN;replace aB:=aB.up hT;replace ab:=ab.up hT;replace hS:=hS.trans hT.mn;clear hT hN gA ej;have oI:=hS.size;have iw:(rs.map RuleM.rul).length=i:=by rw [Xs,ai]
 refine Z0 (Zx (X:=bm :: X) (base:=w3.heap.size) rfl (by decide) rfl rfl ab an (by simp only [Xe,Xf,Xs];omega) (by simp only [Xe,Xf,Xs,maxLen];omega) oI) rfl ?_;rintro rv' w7 ⟨aC,hT,cb⟩;have eD:∀ c∈ob v,w3.heap.size<=c:=λc hc=>(ab.ob_le c hc).1;replace aB:=aB.ext hT (λh=>by have:=eD _ h;omega);replace hS:=hS.own hT (λc hc=>.inr (eD c hc));clear hT;refine W ?_;refine QL (i+1,rs++[r],rv',i') ⟨ja,by simp [ai],?_,Xg cA (Xg (Ybh fz 300) (Nat.le_of_eq (by rw [Nat.mul_add,Yaq]))),aB,?_,hS⟩ (by dsimp only;omega);intro x hx;rcases Xh.1 hx with h|h
 exact aA x h;simp at h;subst h;exact hr;rw [XM];exact aC;refine QO ?_;refine WR ?_;refine .mk ⟨rs,by omega,aA,(ab.slv (λb hb=>by
  rcases Xb.1 hb with rfl|h
  exact hlt;have:=hX b h;have:=am.size;omega)).wk (by simp;exact λ_ h=>.inr h),am.ow hS⟩
abbrev rlN (s:Str):Rul:=⟨s,0,s,.mk 2 0 [] [],.mk 3 0 [] [],[],[]⟩
theorem ckN (s:Str):decide (Z0R (rlN s)=0)=ZB s:=by
 have m1:Z1S (.mk 2 0 [] []) 2=0:=by
  unfold Z1S;rw [show Zy (.mk 2 0 [] [])=1 by simp only [Z0F,Nd.kids,XR];rfl,show Zd (.mk 2 0 [] [])=2 by simp only [Z0E,Nd.kids,Nd.kind,Nd.num,Nd.word,XR];rfl];decide
 have m2:Z1S (.mk 3 0 [] []) 3=0:=by
  unfold Z1S;rw [show Zy (.mk 3 0 [] [])=1 by simp only [Z0F,Nd.kids,XR];rfl,show Zd (.mk 3 0 [] [])=3 by simp only [Z0E,Nd.kids,Nd.kind,Nd.num,Nd.word,XR];rfl];decide
 have hn:Jf (rlN s)=ZB s:=by simp [Jf]
 unfold Z0R;rw [hn,m1,m2];cases ZB s<;>simp
theorem Zcz (k:Int) (w):(Instr.build 97 #[(0,.I k)]).run Tryz.prog w=.ok (.agg #[.I k,.I 0,str [],.N]) w:=by kernel_rfl
theorem Z22 (s:Str) (m:Int) (w) (hF:SlV [] w Z2m Ze) (hm:w.cell? ⟨2,0,none⟩=some (.I m)) :
 CC 191 #[str s] w λr w'=>r=.B (ZB s)/\Stp [] w w':=by
 refine cW1 12 Tryz.func191 ?_;refine W ?_;apply Z7 (vs:=[(0,.I 2)]) rfl (Zcz _) rfl;apply Z7 (vs:=[(0,.I 3)]) rfl (Zcz _) rfl;apply Z7 (vs:=[(0,str s),(2,str s),(3,.agg #[.I 2,.I 0,str [],.N]),(4,.agg #[.I 3,.I 0,str [],.N])]) rfl (Zji _ _ _ _ _ _ _ _ _ _ _ _ _ _) rfl;refine Z0 Z2 rfl ?_;rintro _ w1 ⟨b,rfl,hb,e0,hT⟩;refine SB (us:=rlC (rlN s) Ji Ji) (Zar (rlN s) (Zk (α:=Nd) [] w) (Zk (α:=Nd) [] w)) e0 ?_;rintro _ w2 ⟨aq,e1⟩;have hS:=hT.ow aq;clear hT aq e0;refine W ?_;refine CM (ZN rfl) (Z6K _ (rlN s) m _ ⟨Ji,Ji,rfl,Zk _ _,Zk _ _⟩ (hF.up hS) (hS.cell (by simp) hm)) ?_;rintro _ w3 ⟨rfl,hT⟩;replace hS:=hS.trans hT;refine RT ?_;exact ⟨by rw [<- ckN s],hS⟩
def Z0u (q:Cr):Bool:=decide ((Z1t q.cnd).2≠0) || decide ((Z1t q.due).2≠0) || decide ((Z1t q.cnd).1≠2) || decide ((Z1t q.due).1≠3) || decide (q.frm<0) || decide (q.frm > 3652058) || !ZB q.name || !ZB q.on || (decide (q.unl≠[]) && !ZB q.unl) || (decide (q.els≠[]) && !ZB q.els)
def ZcA (q:Cr):Int:=if Z0u q then 22 else 0
theorem ZdW (v:Value) (q:Cr) (w) (m:Int) (hF:SlV [] w Z2m Ze) (hm:w.cell? ⟨2,0,none⟩=some (.I m)) (hv:CrV [] w v q) (fD:∀ x∈q.cnd++q.due,opP x.op) :
 CC 110 #[v] w λr w'=>r=.I (ZcA q)/\Stp [] w w':=by
 obtain ⟨kc,kd,rfl,bQ,cO⟩:=hv;refine cW1 60 Tryz.func110 ?_;refine W ?_;refine Z0 (Zo rfl) rfl ?_;rintro _ w1 ⟨b,rfl,hb,e1,hS⟩;replace e1:Blk w1 b 62 (crC q kc kd):=e1;replace bQ:=bQ.up hS;replace cO:=cO.up hS;clear hb;refine W ?_;refine CL (Z80 _ q.cnd _ bQ (λx hx=>fD x (Xh.2 (.inl hx)))) ?_;rintro _ w2 ⟨rfl,hT⟩;replace e1:=e1.up hT;replace bQ:=bQ.up hT;replace cO:=cO.up hT;replace hS:=hS.trans hT;clear hT;refine W ?_;refine CL (Z80 _ q.due _ cO (λx hx=>fD x (Xh.2 (.inr hx)))) ?_;rintro _ w2 ⟨rfl,hT⟩;replace e1:=e1.up hT;replace bQ:=bQ.up hT;replace cO:=cO.up hT;replace hS:=hS.trans hT;clear hT;refine W ?_;refine JE (σ:=Bool) (λu=>[(1,pQ b),(2,.I 0),(19,.B u)]) (λu w'=>Blk w' b 62 (crC q kc kd)/\Stp [] w w'/\u=Z0u q) ?_ ?_
 . repeat'(first|refine W1 ?_|omega|refine VG ?_ ?_<;>intro hg|refine VC ?_ ?_<;>intro hc)
   all_goals try (first|exact ZA true ⟨rfl,rfl,rfl,trivial⟩ ⟨e1,hS,by simp [Z0u, *]⟩|exact ZA false ⟨rfl,rfl,rfl,trivial⟩ ⟨e1,hS,by simp [Z0u, *]⟩|exact ZA _ ⟨rfl,rfl,rfl,trivial⟩ ⟨e1,hS,by simp [Z0u, *]⟩)
   refine W ?_;refine CM (ZN rfl) (Z22 q.name m _ (hF.up hS) (hS.cell (by simp) hm)) ?_;rintro _ w3 ⟨rfl,hT⟩;replace e1:=e1.up hT;replace bQ:=bQ.up hT;replace cO:=cO.up hT;replace hS:=hS.trans hT;clear hT;cases hn_name:ZB q.name with
   | false=>
     repeat'(first|refine W1 ?_|omega|refine VG ?_ ?_<;>intro hg|refine VC ?_ ?_<;>intro hc)
     all_goals (first|exact ZA true ⟨rfl,rfl,rfl,trivial⟩ ⟨e1,hS,by simp [Z0u, *]⟩|exact ZA false ⟨rfl,rfl,rfl,trivial⟩ ⟨e1,hS,by simp [Z0u, *]⟩|exact ZA _ ⟨rfl,rfl,rfl,trivial⟩ ⟨e1,hS,by simp [Z0u, *]⟩)
   | true=>
     repeat'(first|refine W1 ?_|omega|refine VG ?_ ?_<;>intro hg|refine VC ?_ ?_<;>intro hc)
     refine W ?_;refine CM (ZN rfl) (Z22 q.on m _ (hF.up hS) (hS.cell (by simp) hm)) ?_;rintro _ w3 ⟨rfl,hT⟩;replace e1:=e1.up hT;replace bQ:=bQ.up hT;replace cO:=cO.up hT;replace hS:=hS.trans hT;clear hT;cases hn_on:ZB q.on with
     | false=>
       repeat'(first|refine W1 ?_|omega|refine VG ?_ ?_<;>intro hg|refine VC ?_ ?_<;>intro hc)
       all_goals (first|exact ZA true ⟨rfl,rfl,rfl,trivial⟩ ⟨e1,hS,by simp [Z0u, *]⟩|exact ZA false ⟨rfl,rfl,rfl,trivial⟩ ⟨e1,hS,by simp [Z0u, *]⟩|exact ZA _ ⟨rfl,rfl,rfl,trivial⟩ ⟨e1,hS,by simp [Z0u, *]⟩)
     | true=>
       repeat'(first|refine W1 ?_|omega|refine VG ?_ ?_<;>intro hg|refine VC ?_ ?_<;>intro hc)
       . refine W ?_
         refine CM (ZN rfl) (Z22 q.unl m _ (hF.up hS) (hS.cell (by simp) hm)) ?_;rintro _ w3 ⟨rfl,hT⟩;replace e1:=e1.up hT;replace bQ:=bQ.up hT;replace cO:=cO.up hT;replace hS:=hS.trans hT;clear hT;cases hn_unl:ZB q.unl with
         | false=>
           repeat'(first|refine W1 ?_|omega|refine VG ?_ ?_<;>intro hg|refine VC ?_ ?_<;>intro hc)
           all_goals (first|exact ZA true ⟨rfl,rfl,rfl,trivial⟩ ⟨e1,hS,by simp [Z0u, *]⟩|exact ZA false ⟨rfl,rfl,rfl,trivial⟩ ⟨e1,hS,by simp [Z0u, *]⟩|exact ZA _ ⟨rfl,rfl,rfl,trivial⟩ ⟨e1,hS,by simp [Z0u, *]⟩)
         | true=>
           repeat'(first|refine W1 ?_|omega|refine VG ?_ ?_<;>intro hg|refine VC ?_ ?_<;>intro hc)
           . refine W ?_
             refine CM (ZN rfl) (Z22 q.els m _ (hF.up hS) (hS.cell (by simp) hm)) ?_;rintro _ w3 ⟨rfl,hT⟩;replace e1:=e1.up hT;replace bQ:=bQ.up hT;replace cO:=cO.up hT;replace hS:=hS.trans hT;clear hT;cases hn_els:ZB q.els with
             | false=>
               repeat'(first|refine W1 ?_|omega|refine VG ?_ ?_<;>intro hg|refine VC ?_ ?_<;>intro hc)
               all_goals (first|exact ZA true ⟨rfl,rfl,rfl,trivial⟩ ⟨e1,hS,by simp [Z0u, *]⟩|exact ZA false ⟨rfl,rfl,rfl,trivial⟩ ⟨e1,hS,by simp [Z0u, *]⟩|exact ZA _ ⟨rfl,rfl,rfl,trivial⟩ ⟨e1,hS,by simp [Z0u, *]⟩)
             | true=>
               repeat'(first|refine W1 ?_|omega|refine VG ?_ ?_<;>intro hg|refine VC ?_ ?_<;>intro hc)
               all_goals (first|exact ZA true ⟨rfl,rfl,rfl,trivial⟩ ⟨e1,hS,by simp [Z0u, *]⟩|exact ZA false ⟨rfl,rfl,rfl,trivial⟩ ⟨e1,hS,by simp [Z0u, *]⟩|exact ZA _ ⟨rfl,rfl,rfl,trivial⟩ ⟨e1,hS,by simp [Z0u, *]⟩)
           all_goals (first|exact ZA true ⟨rfl,rfl,rfl,trivial⟩ ⟨e1,hS,by simp [Z0u, *]⟩|exact ZA false ⟨rfl,rfl,rfl,trivial⟩ ⟨e1,hS,by simp [Z0u, *]⟩|exact ZA _ ⟨rfl,rfl,rfl,trivial⟩ ⟨e1,hS,by simp [Z0u, *]⟩)
       . refine W ?_
         refine CM (ZN rfl) (Z22 q.els m _ (hF.up hS) (hS.cell (by simp) hm)) ?_;rintro _ w3 ⟨rfl,hT⟩;replace e1:=e1.up hT;replace bQ:=bQ.up hT;replace cO:=cO.up hT;replace hS:=hS.trans hT;clear hT;cases hn_els:ZB q.els with
         | false=>
           repeat'(first|refine W1 ?_|omega|refine VG ?_ ?_<;>intro hg|refine VC ?_ ?_<;>intro hc)
           all_goals (first|exact ZA true ⟨rfl,rfl,rfl,trivial⟩ ⟨e1,hS,by simp [Z0u, *]⟩|exact ZA false ⟨rfl,rfl,rfl,trivial⟩ ⟨e1,hS,by simp [Z0u, *]⟩|exact ZA _ ⟨rfl,rfl,rfl,trivial⟩ ⟨e1,hS,by simp [Z0u, *]⟩)
         | true=>
           repeat'(first|refine W1 ?_|omega|refine VG ?_ ?_<;>intro hg|refine VC ?_ ?_<;>intro hc)
           all_goals (first|exact ZA true ⟨rfl,rfl,rfl,trivial⟩ ⟨e1,hS,by simp [Z0u, *]⟩|exact ZA false ⟨rfl,rfl,rfl,trivial⟩ ⟨e1,hS,by simp [Z0u, *]⟩|exact ZA _ ⟨rfl,rfl,rfl,trivial⟩ ⟨e1,hS,by simp [Z0u, *]⟩)
       all_goals (first|exact ZA true ⟨rfl,rfl,rfl,trivial⟩ ⟨e1,hS,by simp [Z0u, *]⟩|exact ZA false ⟨rfl,rfl,rfl,trivial⟩ ⟨e1,hS,by simp [Z0u, *]⟩|exact ZA _ ⟨rfl,rfl,rfl,trivial⟩ ⟨e1,hS,by simp [Z0u, *]⟩)
 rintro u w4 ⟨e1,hS,hu⟩
 try dsimp only at hu ⊢
 unfold ZcA;rw [<- hu];cases u with
 | true=>
   repeat'(first|refine W1 ?_|omega|refine VG ?_ ?_<;>intro hg|refine VC ?_ ?_<;>intro hc)
   refine RU ?_;exact ⟨rfl,hS⟩
 | false=>
   repeat'(first|refine W1 ?_|omega|refine VG ?_ ?_<;>intro hg|refine VC ?_ ?_<;>intro hc)
   refine RU ?_;exact ⟨rfl,hS⟩
structure Zw2 (q:Cr):Prop where
 frm:I64 q.frm
 cnd:∀ x∈q.cnd,I64 x.op/\I64 x.n
 due:∀ x∈q.due,I64 x.op/\I64 x.n
 lcnd:q.cnd.length<=200
 ldue:q.due.length<=200
 lname:q.name.length<=12
 lon:q.on.length<=12
 lunl:q.unl.length<=12
 lels:q.els.length<=12
def Z4B (m:Nat) (z:Ins):Prop:=0<=z.op/\z.op<=24/\0<=z.n/\z.n<=2147483647+(m:Int)
theorem Z4B.le {m k:Nat} {z:Ins} (h:Z4B m z) (hk:m<=k):Z4B k z:=⟨h.1,h.2.1,h.2.2.1,by have:=h.2.2.2;omega⟩
theorem Zke:∀ (l:List Nd) (p m:Nat),(∀ y∈l,∀ p,∀ z∈Zc y p,Z4B (p+(Zc y p).length) z)->p+(Jn (l.map Zc) p).length<=m->∀ z∈Jn (l.map Zc) p,Z4B m z
 | [],p,m,_,_,z,hz=>by simp [Jn] at hz
 | y :: l, p, m, h, hm, z, hz => by
   simp only [Xy,Jn,Xh,Xc] at hz hm;rcases hz with hz|hz
   exact (h y (by simp) p z hz).le (by omega);exact Zke l _ m (λy hy=>h y (by simp [hy])) (by omega) z hz
theorem Zw3 (s:Str):∀ o∈opF s,0<=o/\o<=24:=by
 intro o ho;unfold opF at ho;cases h:Z7y.find? (λp=>decide (p.1=s)) with
 | none=>rw [h] at ho;cases ho
 | some p=>
   rw [h] at ho;have aA:∀ q∈Z7y,∀ o∈q.2,0<=o/\o<=24:=by decide +kernel
   exact aA p (X2 h) o ho
theorem Zkf (k:Int) (s:Str) (m:Nat):∀ z∈Z3I k s,Z4B m z:=by
 intro z hz;unfold Z3I Z25 at hz;simp only [Xh,XG] at hz;rcases hz with hz|⟨o,ho,rfl⟩
 split at hz;simp only [Xb,Xj,or_false] at hz;subst hz;exact ⟨by decide,by decide,by decide,by simp only;omega⟩;cases hz;obtain ⟨h1,h2⟩:=Zw3 s o ho;exact ⟨h1,h2,by simp,by simp only;omega⟩
theorem Zkg (c y n:Cf) (p m:Nat) (hc:∀ p,∀ z∈c p,Z4B (p+(c p).length) z) (hy:∀ p,∀ z∈y p,Z4B (p+(y p).length) z) (hn:∀ p,∀ z∈n p,Z4B (p+(n p).length) z) (hm:p+(chC c y n p).length<=m):∀ z∈chC c y n p,Z4B m z:=by
 intro z hz;unfold chC at hz hm;simp only [Xh,Xb,Xj,or_false,Xc,Xe,Xf] at hz hm;rcases hz with (((hz|rfl)|hz)|rfl)|hz
 exact (hc p z hz).le (by omega);exact ⟨by simp,by simp,by simp only;omega,by simp only;omega⟩;exact (hy _ z hz).le (by omega);exact ⟨by simp,by simp,by simp only;omega,by simp only;omega⟩;exact (hn _ z hz).le (by omega)
theorem Znd (k n:Int) (s:Str) (m:Nat) (h:Z0Z k n s≠0):Z4B m (Z10 k n s):=by
 unfold Z0Z at h;unfold Z10;by_cases k4:k=4
 . subst k4
   rw [if_pos rfl] at h;have hf:(ZO s).2.2=true:=by
    cases hb:(ZO s).2.2 with
    | true=>rfl
    | false=>rw [Z5X hb] at h;simp at h
   obtain ⟨i,hi,_,he⟩:=(Z81 s (ZO s).1).1 ⟨hf,rfl⟩;rw [if_neg (by decide),if_neg (by decide),if_neg (by decide)];exact ⟨by simp,by simp,by simp only;omega,by simp only;omega⟩
 rw [if_neg k4] at h;split at h;exact absurd rfl h;by_cases k1:k=1;rw [if_pos k1] at h ⊢;split at h;exact ⟨by simp,by simp,by simp only;omega,by simp only;omega⟩;exact absurd rfl h;rw [if_neg k1] at h ⊢;by_cases k2:k=2;rw [if_pos k2] at h ⊢;split at h;exact ⟨by simp,by simp,by simp only;omega,by simp only;omega⟩;exact absurd rfl h;rw [if_neg k2] at h ⊢;by_cases k3:k=3;rw [if_pos k3] at h ⊢;split at h;exact ⟨by simp,by simp,by simp only;omega,by simp only;omega⟩;exact absurd rfl h;rw [if_neg k3] at h;exact absurd rfl h
theorem ZsI (x:Nd):Zd x≠0->∀ p,∀ z∈Zc x p,Z4B (p+(Zc x p).length) z:=by
 induction x using Nd.ind with
 | h k n s l ih=>
 intro ht p;have hk:∀ y∈l,Zd y≠0:=λy hy=>Z6c (x:=.mk k n s l) ht hy;have ih':∀ y∈l,∀ p,∀ z∈Zc y p,Z4B (p+(Zc y p).length) z:=λy hy=>ih y hy (hk y hy);have kR:Zd (.mk k n s l)=JB k n s (l.map Zd):=Z0E _;rw [kR] at ht;have hplain:∀ m,p+(Z0y k s (l.map Zc) p).length<=m->∀ z∈Z0y k s (l.map Zc) p,Z4B m z:=λm hm z hz=>by
  rw [Z2A] at hz hm;rw [Xc] at hm;rcases Xh.1 hz with hz|hz
  exact Zke l p m ih' (by omega) z hz;exact Zkf k s m z hz
 have cF:∀ i,∀ p,∀ z∈(l.map Zc).getD i Z4S p,Z4B (p+((l.map Zc).getD i Z4S p).length) z:=λi p z hz=>by
  by_cases hi:i<l.length;have e:(l.map Zc).getD i Z4S=Zc l[i]:=by rw [XA,XB (by simpa using hi)];simp
  rw [e] at hz ⊢;exact ih' _ (Xd hi) p z hz;have e:(l.map Zc).getD i Z4S=Z4S:=by rw [XA,YaQ (by simpa using hi)];rfl
  rw [e] at hz;cases hz
 have j7:∀ b:Int,(b=0\/b=1)->∀ p:Nat,∀ z∈[(⟨2,b⟩:Ins)],Z4B (p+[(⟨2,b⟩:Ins)].length) z:=λb hb p z hz=>by
  simp only [Xb,Xj,or_false] at hz;subst hz;exact ⟨by simp,by simp,by simp only;omega,by simp only;omega⟩
 have cQ:∀ c:List Ins,p+c.length<=p+c.length:=λc=>Xn _;rw [Zc];rcases Z6N ht with ⟨he,hc⟩|⟨h0,h3,lZ,hc⟩
 have hl:l=[]:=by simpa using he
 subst hl;unfold Z18;rw [if_pos (show (List.map Zc ([]:List Nd)).length=0 from rfl)];intro z hz;simp only [Xb,Xj,or_false] at hz;subst hz;exact Znd k n s _ (by rw [<- hc];exact ht);have hl:l≠[]:=λh=>lZ (by rw [h];rfl)
 have dJ:¬ (l.map Zc).length=0:=by simpa using hl
 unfold Z18;rw [if_neg dJ];split;exact Zkg _ _ _ p _ (cF 0) (cF 1) (cF 2) (Xn _);split;exact Zkg _ _ _ p _ (cF 0) (cF 1) (j7 0 (.inl rfl)) (Xn _);split;exact Zkg _ _ _ p _ (cF 0) (j7 1 (.inr rfl)) (cF 1) (Xn _);split;intro z hz;rcases Xh.1 hz with hz|hz
 exact hplain _ (by simp) z hz;simp only [Xb,Xj,or_false] at hz;subst hz;exact ⟨by simp,by simp,by simp only;omega,by simp only;omega⟩;exact hplain _ (Xn _)
theorem Z9I (x:Nd) (ht:Zd x≠0) (hl:(ZU x).length<=200):∀ z∈ZU x,I64 z.op/\I64 z.n:=by
 intro z hz;unfold ZU at hz hl;rw [Xc] at hl;rcases Xh.1 hz with hz|hz
 obtain ⟨h1,h2,h3,h4⟩:=ZsI x ht 0 z hz;unfold I64;constructor<;>omega;simp only [Xb,Xj,or_false] at hz;subst hz;unfold I64;simp
theorem Z4t {s:Str} (h:ZB s=true):s.length<=12:=by
 unfold ZB Z3F at h;simp only [Xm,decide_eq_true_eq] at h;have:=h.1;omega
theorem ZcB (r:Rul) (h:Z0w r=0):Zw2 (crF r)/\ZcA (crF r)=0:=by
 unfold crF;rw [if_pos h];unfold Z0w at h;split at h
 contradiction;rename_i iQ;have fW:Z0R r=0:=by omega
 unfold Z0R at fW;split at fW;simp at fW;rename_i fF;split at fW;simp at fW;rename_i kp;split at fW
 contradiction;rename_i ik;have rS:Z1S r.cnd 2=0:=by omega
 split at h
 contradiction;rename_i yx;have rT:Z0z r.cnd=0:=by omega
 have key:∀ (x:Nd) (t:Int),t≠0->Z1S x t=0->Z0z x=0->Zy x<=12/\Zd x=t/\(ZU x).length<=200:=λx t mi hm he=>by
  unfold Z1S at hm;unfold Z0z at he;split at hm;rename_i hn;rw [if_pos hn] at he;split at hm;simp at hm;rename_i h0;rw [if_neg h0] at he;split at hm;rename_i xb;split at he;simp at he;exact ⟨hn,xb,by omega⟩;simp at hm;simp at hm
 obtain ⟨n1,t1,l1⟩:=key r.cnd 2 (by decide) rS rT;obtain ⟨n2,t2,l2⟩:=key r.due 3 (by decide) fW h;have v1:=Z9o r.cnd (by omega) n1 l1;have v2:=Z9o r.due (by omega) n2 l2;have ln:Jf r=true:=by simpa using fF
 unfold Jf at ln;simp only [Xm,YaE,decide_eq_true_eq] at ln;obtain ⟨⟨⟨a1,a2⟩,a3⟩,a4⟩:=ln;refine ⟨⟨show I64 r.frm by unfold I64;omega,Z9I _ (by omega) l1,Z9I _ (by omega) l2,l1,l2,Z4t a1,Z4t a2,?_,?_⟩,?_⟩;rcases a3 with h|h
 rw [show (⟨r.name,r.frm,r.on,ZU r.cnd,ZU r.due,r.unl,r.els⟩:Cr).unl=r.unl from rfl,h];simp;exact Z4t h;rcases a4 with h|h
 rw [show (⟨r.name,r.frm,r.on,ZU r.cnd,ZU r.due,r.unl,r.els⟩:Cr).els=r.els from rfl,h];simp;exact Z4t h;unfold ZcA Z0u;simp only [v1,v2,t1,t2,a1,a2];rcases a3 with h3|h3<;>rcases a4 with h4|h4<;>simp [h3,h4]<;>omega
structure Zkh (n:Nat) (a:Atp):Prop where
 entry:0<=a.entry/\a.entry<=15
 party:0<=a.party/\a.party<=2
 crr:0<=a.crr/\a.crr<n
 sent:739616<=a.sent/\a.sent<=739655
 len:a.rets.length<=3
 rets:∀ x∈a.rets,ZeW n x
def Z9J (l:List Fct):Prop:=∀ k (h:k<l.length),2 * (k:Int)<=l[k].entry/\l[k].entry<=2 * (k:Int)+1
structure Z8T (c:Cas):Prop where
 fl:c.fcts.length<=8
 fo:∀ f∈c.fcts,Z9C f
 en:Z9J c.fcts
 rl:c.ruls.length<=4
 ro:∀ q∈c.ruls,∃ r:RuleM,Z7Y r/\Z0w r.rul=0/\q=crF r.rul
 al:c.atts.length<=4
 ao:∀ a∈c.atts,Zkh c.crrs.length a
 cl:1<=c.crrs.length/\c.crrs.length<=4
 co:∀ x∈c.crrs,Z9D x
 sl:c.stys.length<=2
 so:∀ x∈c.stys,ZeV x
 cal:ZnU c.cal
 court:0<=c.court/\c.court<=2
 today:739616<=c.today/\c.today<=739705
structure Z8U (X:List Nat) (lv:Value) (l:List Int) (c:Cas) (R:Z0T) (w:World):Prop where
 li:SlV X w lv l
 ff:SlV X w R.fv c.fcts
 rr:SlV X w R.rv c.ruls
 aa:SlV X w R.av c.atts
 cc:SlV X w R.cv c.crrs
 ss:SlV X w R.sv c.stys
 ho:SlV X w R.hv c.cal.hols
 clo:SlV X w R.lv c.cal.clos
 one:R.zo.oneCell'=true/\R.zs.oneCell'=true/\R.hr.oneCell'=true
theorem Z8U.ext {X:List Nat} {lv:Value} {l:List Int} {c:Cas} {R:Z0T} {w w':World} (h:Z8U X lv l c R w) (hS:Stp X w w'):Z8U X lv l c R w':=
 ⟨h.li.ext hS (λ_ h=>h) (λ_ h=>.inl h),h.ff.ext hS (λ_ h=>h) (λ_ h=>.inl h),h.rr.ext hS (λ_ h=>h) (λ_ h=>.inl h),h.aa.ext hS (λ_ h=>h) (λ_ h=>.inl h),h.cc.ext hS (λ_ h=>h) (λ_ h=>.inl h),h.ss.ext hS (λ_ h=>h) (λ_ h=>.inl h),h.ho.ext hS (λ_ h=>h) (λ_ h=>.inl h),h.clo.ext hS (λ_ h=>h) (λ_ h=>.inl h),h.one⟩
theorem Z8U.cell {X:List Nat} {lv:Value} {l:List Int} {c:Cas} {R:Z0T} {w} (h:Z8U X lv l c R w):∀ u∈Jw c R,u.oneCell'=true:=by
 have h1:=h.ff.one;have h2:=h.rr.one;have h3:=h.aa.one;have h4:=h.cc.one;have h5:=h.ss.one;have h6:=h.ho.one;have h7:=h.clo.one;obtain ⟨h8,h9,gD⟩:=h.one;intro u hu;simp only [Jw,Z08,Xb,Xj,or_false,XS,XC] at hu;rcases hu with rfl|rfl|rfl|rfl|rfl|rfl|rfl|rfl|rfl|rfl|rfl|rfl|rfl|rfl|rfl|rfl|rfl|rfl|rfl<;>first|assumption|rfl
theorem Zgy (c:Cal) (hv lv zo zs hr:Value) (p:Option Addr) (n k:Nat) (cs:List Crr) (ct td:Int) (w):(Instr.build 37 #[(5,Z6r c hv lv zo zs hr),(3,.slice p n k),(6,.I ct),(7,.I td)]).run Tryz.prog w=.ok (.agg (Jw ⟨[],[],[],cs,[],c,ct,td⟩ ⟨.N,.N,.N,.slice p n k,.N,hv,lv,zo,zs,hr⟩).toArray) w:=by kernel_rfl
theorem Zgz (f:Fct) (w):(Instr.buildSlice 24 1 #[(0,aG f)]).run Tryz.prog w=.ok (.slice (some ⟨w.heap.size,0,none⟩) 1 1) (w.alloc (.cells (Z3.enc f).toArray 45)):=by kernel_rfl
theorem Zki (a b c d:Int) (w):(Instr.build 78 #[(0,.I a),(1,.I b),(2,.I c),(3,.I d)]).run Tryz.prog w=.ok (.agg (atC ⟨a,b,c,d,[]⟩ (.N)).toArray) w:=by kernel_rfl
theorem ZeZ {a:Atp} {v:Value} (h:v.oneCell'=true):∀ u∈atC a v,u.oneCell'=true:=by
 intro u hu;simp only [Xb,Xj,or_false] at hu;rcases hu with rfl|rfl|rfl|rfl|rfl<;>first|assumption|rfl
theorem ZdX (lv:Value) (l:List Int) (w) (hs:SlV [] w lv l) (hl:∀ a∈l,I64 a) (hL:Z0A w) (hM:Z3h w) :
 CC 10 #[lv] w λr w'=>∃ (c:Cas) (R:Z0T),r=.agg (Jw c R).toArray/\Z1D w' c R/\Z8T c/\Stp [] w w':=by
 have dT:∀ k,∀ a∈l.drop k,I64 a:=λk a h=>hl a (YaG h);refine cW1 137 Tryz.func10 ?_;refine W ?_;refine Z0 Z2 rfl ?_;rintro _ w1 ⟨b2,rfl,cu,e2,hS⟩;refine W ?_;refine CL (Z1b lv l 40 _ (hs.up hS)) ?_;rintro v1 w2 ⟨h1,rfl⟩;have b2w:=e2.lt;refine W ?_;refine CM (ZN rfl) (Z8w [b2] v1 _ _ (by simpa using b2w) h1 (dT 40)) ?_;rintro _ w3 ⟨cal,hv,cv,zo,zs,hr,rfl,aF,dB,fI,bZ,hT⟩;replace e2:=e2.up hT;replace hS:=hS.trans hT;clear hT h1;refine W ?_;refine CL (Z1b lv l 60 _ (hs.up hS)) ?_;rintro v1 w4 ⟨h1,rfl⟩;refine W ?_;refine CL (ZaP v1 _ _ h1 (dT 60)) ?_;rintro crv w5 ⟨cs,bQ,fi,iN,nF⟩;have cU:SlV [b2] w5 crv cs:=nF.slv (by simpa using e2.lt);have hT:=nF.2;replace e2:=e2.up hT;replace fI:=fI.up hT;replace bZ:=bZ.up hT;replace hS:=hS.trans hT;clear hT h1 nF;refine W ?_;refine CM (ZI rfl rfl rfl) (ZV [] _ l 0 3 _ (by decide) (by unfold I64;omega) (hs.up hS) hl) ?_;rintro _ w6 ⟨ct,rfl,nR,hT⟩;replace e2:=e2.up hT;replace fI:=fI.up hT;replace bZ:=bZ.up hT;replace cU:=cU.up hT;replace hS:=hS.trans hT;clear hT;refine W ?_;refine CM (ZI rfl rfl rfl) (ZV [] _ l 1 90 _ (by decide) (by unfold I64;omega) (hs.up hS) hl) ?_;rintro _ w7 ⟨td,rfl,rU,hT⟩;replace e2:=e2.up hT;replace fI:=fI.up hT;replace bZ:=bZ.up hT;replace cU:=cU.up hT;replace hS:=hS.trans hT;clear hT;obtain ⟨p,k,rfl,-⟩:=id cU;refine W ?_;refine Z7 rfl (Zgy cal hv cv zo zs hr p cs.length k cs (ct:Int) (739616+(td:Int))) rfl ?_;generalize (.slice p cs.length k:Value)=crv at cU ⊢;refine Z0 Z2 rfl ?_;rintro _ w8 ⟨b3,rfl,d8,e3,hT⟩;have b2w7:=e2.lt;have n23:b2≠b3:=by omega
 replace e2:=e2.up hT;have nc:∀ b∈[b2,b3],b∈[b2]\/w7.heap.size<=b:=λb hb=>by simp at hb ⊢;omega
 obtain ⟨tT,nS,nT,nU⟩:SlV [b2,b3] w8 lv l/\SlV [b2,b3] w8 hv cal.hols/\SlV [b2,b3] w8 cv cal.clos/\SlV [b2,b3] w8 crv cs:=⟨by
  have h:=hs.ext (X':=[b2,b3]) (hS.trans hT) (by simp) (λb hb=>.inr (by have:=hS.size;simp at hb;omega));exact h,fI.ext hT (by simp) nc,bZ.ext hT (by simp) nc,cU.ext hT (by simp) nc⟩
 replace hS:=hS.trans hT;clear hT fI bZ cU nc;have jd:Z8U [b2,b3] lv l ⟨[],[],[],cs,[],cal,(ct:Int),739616+(td:Int)⟩ ⟨.N,.N,.N,crv,.N,hv,cv,zo,zs,hr⟩ w8:=⟨tT,ZT _ _,ZT _ _,ZT _ _,nU,ZT _ _,nS,nT,aF⟩
 have aB:Z8T ⟨[],[],[],cs,[],cal,(ct:Int),739616+(td:Int)⟩:=⟨Xq _,by simp,λk h=>by simp at h,Xq _,by simp,Xq _,by simp,⟨bQ,fi⟩,iN,Xq _,by simp,dB,by dsimp only;omega,by dsimp only;omega⟩
 clear tT nS nT nU aF;generalize pb:(⟨[],[],[],cs,[],cal,(ct:Int),739616+(td:Int)⟩:Cas)=C at *;generalize pd:(⟨.N,.N,.N,crv,.N,hv,cv,zo,zs,hr⟩:Z0T)=R at *;refine SB (us:=Jw C R) jd.cell e3 ?_;rintro _ w9 ⟨hT,e3⟩;replace jd:=jd.ext hT.mn;replace e2:=e2.ext hT (by simpa using n23);have g3:w.heap.size<=b3:=by have:=hS.size;have:=e3.lt;omega
 replace hS:=hS.ow hT;clear hT;have l2:=e2.lt;have l3:=e3.lt;have xc:C.fcts=[]:=by rw [<- pb]
 have rV:C.ruls=[]:=by rw [<- pb]
 have mj:C.atts=[]:=by rw [<- pb]
 clear pb;have jK:R.fv=.N:=by rw [<- pd]
 have pg:R.rv=.N:=by rw [<- pd]
 have lp:R.av=.N:=by rw [<- pd]
 clear pd;refine W ?_
 refine Zr (σ:=Nat×Value×List Fct) (λq=>[(0,lv),(2,pQ b2),(3,pQ b3),(4,.I (q.1:Int))])
  (λq W=>q.1<=8/\q.2.2.length=q.1/\(∀ f∈q.2.2,Z9C f)/\Z9J q.2.2/\Row [b2,b3] W w9.heap.size 45 q.2.1 q.2.2/\Blk W b3 37 (Jw C { R with fv:=q.2.1 })/\Stp [b3] w9 W) (λq=>9 - q.1) (0,.N,[])
  ⟨rfl,rfl,rfl,rfl,trivial⟩ ⟨by decide,rfl,by simp,λk h=>by simp at h,Row.nil,by rw [<- jK];exact e3,Stp.refl _ _⟩ ?_
 clear e3;rintro ⟨j,fv,fs⟩ y1 ⟨hj,ai,aO,pi,ab,e3,hT⟩;dsimp only at hj ai aO pi ab e3 ⊢;have ml:=jd.ext hT.mn;have cx:SlV [] y1 lv l:=ml.li.wk (by simp);have bh:=λb hb=>ab.ob_le b hb;refine W ?_;refine CM (ZI rfl rfl rfl) (ZV [] _ l 2 9 _ (by decide) (by unfold I64;omega) cx hl) ?_;rintro _ y2 ⟨q,rfl,hq,hU⟩;replace ab:=ab.up hU;replace e3:=e3.up hU;replace cx:=cx.up hU;replace hT:=hT.trans hU.mn;clear hU ml;by_cases hlt:(j:Int)<(q:Int);refine QO ?_;refine ZDr 16 [] [13,15] [(0,0),(1,1),(2,0),(3,0),(4,0),(7,0),(8,0),(9,0),(5,2),(6,0),(10,2),(11,2),(12,2),(13,2),(14,0),(15,2)] (λw1 ae=>?_);replace ab:=ab.up ae;replace e3:=e3.up ae;replace cx:=cx.up ae;replace hT:=hT.trans ae.mn;clear ae;refine QD ?_;refine Za rfl trivial (Z4 rfl (ZI rfl rfl rfl) (ZV [] _ l 3 2 _ (by decide) (by unfold I64;omega) cx hl)) (λ_ _ h=>h.choose_spec.2.2) rfl ?_;rintro _ y3 ⟨q3,rfl,tg,hU⟩;replace ab:=ab.up hU;replace e3:=e3.up hU;replace cx:=cx.up hU;replace hT:=hT.trans hU.mn;clear hU;refine QD ?_;refine Za rfl trivial (Z4 rfl (ZI rfl rfl rfl) (ZV [] _ l (4+(j:Int)) 100000000 _ (by decide) (by unfold I64;omega) cx hl)) (λ_ _ h=>h.choose_spec.2.2) rfl ?_;rintro _ y4 ⟨q4,rfl,oD,hU⟩;replace ab:=ab.up hU;replace e3:=e3.up hU;replace hT:=hT.trans hU.mn;clear hU cx;focus repeat'(first|refine D1 ?_|omega|refine Zq rfl rfl rfl rfl (λhg=>?_) (λhg=>?_)|(refine Zm rfl rfl rfl rfl (λhg=>?_) (λhg=>?_)<;>refine D1 ?_)|fail)
 refine Za rfl trivial (Z4 rfl (Zf rfl rfl) (Zgu (2 * (j:Int)+(q3:Int)) (q4:Int) _ (by unfold I64;omega))) (λ_ _ h=>h.choose_spec.2.2.2) rfl ?_;rintro _ y5 ⟨f,rfl,yy,hf,hU⟩;replace ab:=ab.up hU;replace e3:=e3.up hU;replace hT:=hT.trans hU.mn;clear hU;focus repeat'(first|refine D1 ?_|omega|refine Zq rfl rfl rfl rfl (λhg=>?_) (λhg=>?_)|(refine Zm rfl rfl rfl rfl (λhg=>?_) (λhg=>?_)<;>refine D1 ?_)|fail)
 refine Za rfl trivial (Z1 rfl (Zgz f)) (λ_ _ h=>Z9.stp h) rfl ?_;rintro vs y6 hN;have dE:SlV (ob fv++[b2,b3]) y6 vs [f]:=hN.slv (λb hb=>by
  have:=hT.size;rcases Xh.1 hb with h|h
  exact (ab.ob_le b h).2;simp at h;omega) rfl (by simp) (by simp [maxLen])
 have hU:=Z9.stp hN;clear hN;replace ab:=ab.up hU;replace e3:=e3.up hU;replace hT:=hT.trans hU.mn;clear hU;focus repeat'(first|refine D1 ?_|omega|refine Zq rfl rfl rfl rfl (λhg=>?_) (λhg=>?_)|(refine Zm rfl rfl rfl rfl (λhg=>?_) (λhg=>?_)<;>refine D1 ?_)|fail)
 refine ZlM rfl trivial (Zx (α:=Fct) (X:=[b2,b3]) (base:=w9.heap.size) rfl (by decide) rfl rfl ab dE (Xg (Xo _ (show fs.length+[f].length<=10 by simp;omega)) (by decide)) (by simp [maxLen];omega) (by have:=hT.size;omega)) rfl rfl ?_;rintro fv' y7 ⟨aC,hU,gO⟩;have bA:=λb hb=>ab.ob_le b hb;replace e3:=e3.ext hU (λh=>by have:=bA _ h;omega);replace hT:=hT.own hU (λb hb=>.inr (bA b hb).1);clear hU;obtain ⟨pv,kv,rfl,-⟩:=id (Row.slv (X:=[b2,b3]) aC (λb hb=>by simp at hb;omega));refine QD ?_;refine Jm rfl trivial (Zb (u:=.slice pv (fs++[f]).length kv) rfl rfl rfl rfl e3 (show (0:Nat)<19 by decide)) rfl ?_;rintro _ y8 ⟨hU,e3⟩;replace e3:Blk y8 b3 37 (Jw C { R with fv:=.slice pv (fs++[f]).length kv }):=e3;replace hT:=hT.own hU (λb hb=>.inl hb);replace aC:=aC.keep hU (λb hb h=>by simp only [Xl] at hb;subst hb;have:=(aC.ob_le _ h).1;omega);clear hU;refine QD ?_;refine QO ?_;exact Zw (j+1,.slice pv (fs++[f]).length kv,fs++[f]) ⟨rfl,rfl,rfl,rfl,trivial⟩ ⟨by dsimp only;omega,by simp [ai],λz hz=>by
  rcases Xh.1 hz with h|h
  exact aO z h;simp only [Xl] at h;subst h;exact hf,λk hk=>by
  dsimp only at hk ⊢;rw [List.getElem_append];split;exact pi k _;have:k=j:=by simp at hk;omega
  subst this;simp only [List.getElem_singleton];omega,aC,e3,hT⟩ (by dsimp only;omega)
 . as_aux_lemma=>
   have tU:Z8U [b2,b3] lv l { C with fcts:=fs } { R with fv:=fv } y2:={ jd.ext hT.mn with ff:=Row.slv (X:=[b2,b3]) ab (λb hb=>by simp at hb;omega) }
   have gQ:Z8T { C with fcts:=fs }:=⟨by dsimp only;omega,aO,pi,aB.rl,aB.ro,aB.al,aB.ao,aB.cl,aB.co,aB.sl,aB.so,aB.cal,aB.court,aB.today⟩
   replace e2:=e2.ext hT (by simp;omega);replace hS:=hS.ow hT;replace l2:=e2.lt;replace l3:=e3.lt;replace rV:({ C with fcts:=fs }:Cas).ruls=[]:=rV;replace mj:({ C with fcts:=fs }:Cas).atts=[]:=mj;replace pg:({ R with fv:=fv }:Z0T).rv=.N:=pg;replace lp:({ R with fv:=fv }:Z0T).av=.N:=lp;clear jd aB hT ab bh aO pi xc jK ai;replace e3:Blk y2 b3 37 (Jw { C with fcts:=fs } { R with fv:=fv }):=e3;generalize ({ C with fcts:=fs }:Cas)=C at *;generalize ({ R with fv:=fv }:Z0T)=R at *;refine QO ?_;refine CL (Z1b lv l 80 _ cx) ?_;rintro v1 z1 ⟨h1,rfl⟩;repeat'(first|refine W1 ?_|omega|refine VG ?_ ?_<;>intro hg|refine VC ?_ ?_<;>intro hc)
   refine CM (ZN rfl) (Zgx [b2,b3] v1 _ _ (λb hb=>by simp at hb;omega) h1 (dT 80)) ?_;rintro gv z2 ⟨rs,h4,aA,mm,hT⟩;have tV:=tU.ext hT.mn;replace e2:=e2.up hT;replace e3:=e3.up hT;replace hS:=hS.trans hT;replace l2:=e2.lt;replace l3:=e3.lt;clear tU hT h1 cx;have pD:(rs.map RuleM.rul).length=rs.length:=Xs ..;have mH:=mm.max;refine QO ?_
   refine Zr (σ:=Nat×Value×List Cr) (λq=>[(0,lv),(2,pQ b2),(3,pQ b3),(5,gv),(6,.I (q.1:Int))])
    (λq W=>q.1<=rs.length/\q.2.2.length<=q.1/\(∀ x∈q.2.2,∃ r:RuleM,Z7Y r/\Z0w r.rul=0/\x=crF r.rul)/\Row [b2,b3] W z2.heap.size 62 q.2.1 q.2.2/\Blk W b3 37 (Jw C { R with rv:=q.2.1 })/\Stp [b3] z2 W) (λq=>rs.length - q.1) (0,.N,[])
    ⟨rfl,rfl,rfl,rfl,rfl,trivial⟩ ⟨by omega,Xn _,by simp,Row.nil,by rw [<- pg];exact e3,Stp.refl _ _⟩ ?_
   clear e3;rintro ⟨j,rv,qs⟩ y1 ⟨hj,ai,aO,ab,e3,hT⟩;dsimp only at hj ai aO ab e3 ⊢;have bh:=λb hb=>ab.ob_le b hb;have fu:SlV [b2,b3] y1 gv (rs.map RuleM.rul):=mm.ext hT (by simp) (λ_ h=>.inl h);by_cases hlt:j<rs.length;have cx:j<(rs.map RuleM.rul).length:=by omega
   have hG:=aA _ (Xd hlt);have nV:(rs.map RuleM.rul)[j]=rs[j].rul:=by simp
   obtain ⟨ka,kb,lq,js,iE⟩:=Zj8 fu cx;rw [nV] at lq js;have fK:ZJ rs[j].cond<=1000:=Xg hG.cond.size (by decide);have kP:ZJ rs[j].due<=1000:=Xg hG.due.size (by decide);refine QO ?_;refine Z8 (Z7X rfl rfl fu cx iE) rfl ?_;rw [nV];refine CM (ZN rfl) (ZfJ _ rs[j].rul _ ⟨ka,kb,rfl,lq.wk (by simp),js.wk (by simp)⟩ fK kP) ?_;rintro _ y2 ⟨cv,rfl,ca,hU⟩;obtain ⟨k1,d1,rfl,bG,cO⟩:=ca (ob rv++[b2,b3]) (λb hb=>by
    have:=hT.size;rcases Xh.1 hb with h|h
    exact (bh b h).2;simp at h;omega)
   clear ca fu lq js iE;replace ab:=ab.up hU;replace e3:=e3.up hU;replace hT:=hT.trans hU.mn;clear hU;refine W ?_;have yz:=hT.size;refine Z0 Z2 rfl ?_;rintro _ y3 ⟨b7,rfl,fg,e7,hU⟩;have n37:b3≠b7:=by have:=e3.lt;omega
   have bA:=λb hb=>ab.ob_le b hb;replace ab:=ab.ext (X':=[b2,b3,b7]) hU (by simp) (λb hb=>by simp at hb ⊢;omega);replace e3:=e3.up hU;have nb7:∀ b∈b7 :: (ob rv++[b2,b3]),b∈ob rv++[b2,b3]\/y2.heap.size<=b:=λb hb=>by
    rcases Xb.1 hb with rfl|h
    exact .inr fg;exact .inl h
   replace bG:=bG.ext hU (by simp) nb7;replace cO:=cO.ext hU (by simp) nb7;replace hT:=hT.trans hU.mn;clear hU;refine SB (us:=crC (crF rs[j].rul) k1 d1) (Z0g bG cO) e7 ?_;rintro _ y4 ⟨hU,e7⟩;replace ab:=ab.ext (X':=[b2,b3]) hU (λb hb=>by
    simp only [Xl] at hb;subst hb;exact ⟨by simp,λh=>by have:=(bA _ h).2;omega⟩) (λb hb=>.inl (by simp at hb ⊢;omega))
   replace e3:=e3.ext hU (by simpa using n37);replace bG:=bG.ext (X':=ob rv++[b2,b3]) hU (by simp) (λb hb=>.inl (XE _ hb));replace cO:=cO.ext (X':=ob rv++[b2,b3]) hU (by simp) (λb hb=>.inl (XE _ hb));replace hT:=hT.ow hU;clear hU;by_cases he:Z0w rs[j].rul=0;refine QO ?_;have zT:=hT.size;refine APG (X:=[b2,b3]) (base:=z2.heap.size) (crF rs[j].rul) ab (λb hb=>by simp at hb;omega) (by omega) ⟨k1,d1,rfl,bG,cO⟩ (Xg (Xo _ (show qs.length+1<=10 by omega)) (by decide)) (by simp only [maxLen];omega) λv1 rv' y5 aC hU gO=>?_
   replace e3:=e3.ext hU (λh=>by have:=(bA _ h).1;omega);replace hT:=hT.own hU (λb hb=>.inr (bA b hb).1);clear hU;obtain ⟨pv,kv,rfl,-⟩:=id (Row.slv (X:=[b2,b3]) aC (λb hb=>by simp at hb;omega));refine QO ?_;refine Z6 (Zb (u:=.slice pv (qs++[crF rs[j].rul]).length kv) rfl rfl rfl rfl e3 (show (1:Nat)<19 by decide)) ?_;rintro _ y6 ⟨hU,e3⟩;replace e3:Blk y6 b3 37 (Jw C { R with rv:=.slice pv (qs++[crF rs[j].rul]).length kv }):=e3;replace hT:=hT.own hU (λb hb=>.inl hb);replace aC:=aC.ext (X':=[b2,b3]) hU (λb hb=>by
    simp only [Xl] at hb;subst hb;exact ⟨by simp,λh=>by have:=(aC.ob_le _ h).1;omega⟩) (λb hb=>.inl hb)
   clear hU;refine QO ?_;exact Zw (j+1,.slice pv (qs++[crF rs[j].rul]).length kv,qs++[crF rs[j].rul]) ⟨rfl,rfl,rfl,rfl,rfl,trivial⟩ ⟨by dsimp only;omega,by simp;omega,λz hz=>by
    rcases Xh.1 hz with h|h
    exact aO z h;simp only [Xl] at h;subst h;exact ⟨rs[j],hG,he,rfl⟩,aC,e3,hT⟩ (by dsimp only;omega)
   refine QO ?_;exact QL (j+1,rv,qs) ⟨by dsimp only;omega,by dsimp only;omega,aO,ab,e3,hT⟩ (by dsimp only;omega)
   . as_aux_lemma=>
     refine QO ?_;have nW:Z8U [b2,b3] lv l { C with ruls:=qs } { R with rv:=rv } y1:={ tV.ext hT.mn with rr:=Row.slv (X:=[b2,b3]) ab (λb hb=>by simp at hb;omega) }
     have gR:Z8T { C with ruls:=qs }:=⟨gQ.fl,gQ.fo,gQ.en,by dsimp only;omega,aO,gQ.al,gQ.ao,gQ.cl,gQ.co,gQ.sl,gQ.so,gQ.cal,gQ.court,gQ.today⟩
     replace e2:=e2.ext hT (by simp;omega);replace hS:=hS.ow hT;replace l2:=e2.lt;replace l3:=e3.lt;replace mj:({ C with ruls:=qs }:Cas).atts=[]:=mj;replace lp:({ R with rv:=rv }:Z0T).av=.N:=lp;replace e3:Blk y1 b3 37 (Jw { C with ruls:=qs } { R with rv:=rv }):=e3;clear tV gQ hT ab bh aO rV pg ai fu mm;generalize ({ C with ruls:=qs }:Cas)=C at *;generalize ({ R with rv:=rv }:Z0T)=R at *;have cx:SlV [] y1 lv l:=nW.li.wk (by simp);refine CL (Z1b lv l 30 _ cx) ?_;rintro v3 u1 ⟨h3,rfl⟩;refine QO ?_;refine CL (Z1b lv l 30 _ cx) ?_;rintro v4 u2 ⟨oO,rfl⟩;have oT:=h3.max;have xd:=oO.max;refine QO ?_;refine Z8 (Z1M (r:=min 4 (l.drop 30).length) rfl h3 rfl (by omega) (by omega)) rfl ?_;have h5:=h3.slc (l:=0) (r:=min 4 (l.drop 30).length) (by omega) (by omega);have pj:∀ a∈((l.drop 30).take (min 4 (l.drop 30).length)).drop 0,I64 a:=λa h=>dT 30 a (Yar (YaG h));have tW:(((l.drop 30).take (min 4 (l.drop 30).length)).drop 0).length<=4:=by simp only [Yan,Xw];omega
     refine CL (Zct _ _ _ h5 pj tW) ?_;rintro sv u3 ⟨xs,tX,ls,mz⟩;have j0:SlV [b2,b3] u3 sv xs:=mz.slv (λb hb=>by simp at hb;omega);have hT:=mz.2;replace nW:=nW.ext hT.mn;replace e2:=e2.up hT;replace e3:=e3.up hT;replace hS:=hS.trans hT;clear hT h3 oO h5 pj tW mz oT xd cx;obtain ⟨ps,ks,rfl,-⟩:=id j0;refine QO ?_;refine Z6 (Zb (u:=.slice ps xs.length ks) rfl rfl rfl rfl e3 (show (4:Nat)<19 by decide)) ?_;rintro _ u4 ⟨hT,e3⟩;replace e3:Blk u4 b3 37 (Jw { C with stys:=xs } { R with sv:=.slice ps xs.length ks }):=e3;have tY:Z8U [b2,b3] lv l { C with stys:=xs } { R with sv:=.slice ps xs.length ks } u4:={ nW.ext hT.mn with ss:=j0.ext hT (by simp) (λ_ h=>.inl h) }
     have gT:Z8T { C with stys:=xs }:=⟨gR.fl,gR.fo,gR.en,gR.rl,gR.ro,gR.al,gR.ao,gR.cl,gR.co,tX,ls,gR.cal,gR.court,gR.today⟩
     replace e2:=e2.ext hT (by simp;omega);replace hS:=hS.ow hT;replace l2:=e2.lt;replace l3:=e3.lt;replace mj:({ C with stys:=xs }:Cas).atts=[]:=mj;replace lp:({ R with sv:=.slice ps xs.length ks }:Z0T).av=.N:=lp;clear nW gR hT j0 tX ls;generalize ({ C with stys:=xs }:Cas)=C at *;generalize ({ R with sv:=.slice ps xs.length ks }:Z0T)=R at *;refine QO ?_
     refine Zr (σ:=Nat×Value×List Atp) (λq=>[(0,lv),(2,pQ b2),(3,pQ b3),(9,.I (q.1:Int))])
      (λq W=>q.1<=4/\q.2.2.length=q.1/\(∀ x∈q.2.2,Zkh C.crrs.length x)/\Row [b2,b3] W u4.heap.size 78 q.2.1 q.2.2/\Blk W b3 37 (Jw C { R with av:=q.2.1 })/\Stp [b3] u4 W) (λq=>5 - q.1) (0,.N,[])
      ⟨rfl,rfl,rfl,rfl,trivial⟩ ⟨by decide,rfl,by simp,Row.nil,by rw [<- lp];exact e3,Stp.refl _ _⟩ ?_
     clear e3;rintro ⟨j,av,as_⟩ y1 ⟨hj,ai,aO,ab,e3,hT⟩;dsimp only at hj ai aO ab e3 ⊢;have bh:=λb hb=>ab.ob_le b hb;have ml:=tY.ext hT.mn;have cx:SlV [] y1 lv l:=ml.li.wk (by simp);have cU:=ml.cc;have bZ:=gT.cl;have rW:=cU.max;refine QO ?_;refine CM (ZI rfl rfl rfl) (ZV [] _ l 12 5 _ (by decide) (by unfold I64;omega) cx hl) ?_;rintro _ y2 ⟨q,rfl,hq,hU⟩;replace ab:=ab.up hU;replace e3:=e3.up hU;replace cx:=cx.up hU;replace cU:=cU.up hU;replace hT:=hT.trans hU.mn;clear hU ml;obtain ⟨pc,kc,ca,-⟩:=id cU;by_cases hlt:(j:Int)<(q:Int)
     . as_aux_lemma=>
       have xf:j+1<=4:=by omega
       have lu:5 - (j+1)<5 - j:=by omega
       refine QO ?_;refine CM (ZI rfl rfl rfl) (ZV [] _ l (13+(j:Int)) 1000000 _ (by decide) (by unfold I64;omega) cx hl) ?_;rintro _ y3 ⟨n,rfl,hn,hU⟩;replace ab:=ab.up hU;replace e3:=e3.up hU;replace cx:=cx.up hU;replace cU:=cU.up hU;replace hT:=hT.trans hU.mn;clear hU;refine QO ?_;have r1:0<=(n:Int) % 16/\(n:Int) % 16<=15:=by omega
       have r2:0<=(n:Int) / 16 % 3/\(n:Int) / 16 % 3<=2:=by omega
       have r3:0<=(n:Int) / 48 % (C.crrs.length:Int)/\(n:Int) / 48 % (C.crrs.length:Int)<C.crrs.length:=⟨Ya2 _ (by omega),YaN _ (by omega)⟩
       have r4:739616<=739616+(n:Int) / 768 % 40/\739616+(n:Int) / 768 % 40<=739655:=by omega
       generalize (n:Int) % 16=a1 at r1 ⊢;generalize (n:Int) / 16 % 3=a2 at r2 ⊢;generalize (n:Int) / 48 % (C.crrs.length:Int)=a3 at r3 ⊢;generalize 739616+(n:Int) / 768 % 40=a4 at r4 ⊢;refine Z7 rfl (Zki a1 a2 a3 a4) rfl ?_;have zT:=hT.size;refine Z0 Z2 rfl ?_;rintro _ y4 ⟨b,rfl,hb,e4,hU⟩;have n3:b3≠b:=by have:=e3.lt;omega
       have bA:=λb hb=>ab.ob_le b hb;replace ab:=ab.ext (X':=[b2,b3,b]) hU (by simp) (λc hc=>by simp at hc ⊢;omega);replace e3:=e3.up hU;replace cx:=cx.ext (X':=[b]) hU (by simp) (λc hc=>.inr (by simp at hc;omega));replace cU:=cU.ext (X':=[b]) hU (by simp) (λc hc=>.inr (by simp at hc;omega));replace hT:=hT.trans hU.mn;clear hU;refine SB (us:=atC ⟨a1,a2,a3,a4,[]⟩ (.N)) (ZeZ (by rfl)) e4 ?_;rintro _ y5 ⟨hU,e4⟩;replace e3:=e3.ext hU (by simpa using n3);replace ab:=ab.ext (X':=[b2,b3,b]) hU (λc hc=>by
        simp only [Xl] at hc;subst hc;exact ⟨by simp,λh=>by have:=(bA _ h).2;omega⟩) (λc hc=>.inl hc)
       replace cx:=cx.ext (X':=[b]) hU (by simp) (λc hc=>.inl hc);replace cU:=cU.ext (X':=[b]) hU (by simp) (λc hc=>.inl hc);replace hT:=hT.ow hU;clear hU;refine QO ?_
       refine JE (σ:=Value×List Rtn) (λq=>[(0,lv),(2,pQ b2),(3,pQ b3),(9,.I (j:Int)),(11,pQ b)])
        (λq W=>(q.2.length<=3/\∀ x∈q.2,ZeW C.crrs.length x)/\Blk W b 78 (atC ⟨a1,a2,a3,a4,q.2⟩ q.1)/\Row [b2,b3] W u4.heap.size 78 av as_/\SlV (ob av++[b2,b3]) W q.1 q.2/\Blk W b3 37 (Jw C { R with av:=av })/\Stp [b3] u4 W) ?_ ?_
       . as_aux_lemma=>
         refine ZDr 20 [] [19] [(0,0),(1,0),(2,0),(3,0),(5,0),(6,0),(7,0),(8,0),(13,0),(14,1),(15,0),(16,1),(4,2),(9,2),(10,0),(11,0),(12,0),(17,2),(18,0),(19,2)] (λw1 ae=>?_);replace ab:=ab.up ae;replace e3:=e3.up ae;replace e4:=e4.up ae;replace cx:=cx.up ae;replace cU:=cU.up ae;replace hT:=hT.trans ae.mn;clear ae;have rX:=cx.wk (X':=[]) (by simp);have pl:=Z1b lv l (18+3 * j) _ rX;have rc:((18+3 * j:Nat):Int)=18+3 * (j:Int):=by omega
         rw [rc] at pl;refine QD ?_;refine DC pl (λ_ _ h=>by rw [h.2];exact Stp.refl _ _) ?_;rintro v5 u5 ⟨h5,rfl⟩;repeat'(first|refine D1 ?_|omega|refine Zq rfl rfl rfl rfl (λhg=>?_) (λhg=>?_)|(refine Zm rfl rfl rfl rfl (λhg=>?_) (λhg=>?_)<;>refine D1 ?_)|fail)
         refine DC pl (λ_ _ h=>by rw [h.2];exact Stp.refl _ _) ?_;rintro v6 u6 ⟨h6,rfl⟩;clear pl;have tS:=h5.max;refine QD ?_;refine Ja rfl trivial (λ_=>Z1M (r:=min 3 (l.drop (18+3 * j)).length) rfl h5 rfl (by omega) (by omega)) rfl ?_;have h7:=h5.slc (l:=0) (r:=min 3 (l.drop (18+3 * j)).length) (by omega) (by omega);have tZ:∀ a∈((l.drop (18+3 * j)).take (min 3 (l.drop (18+3 * j)).length)).drop 0,I64 a:=λa h=>dT _ a (Yar (YaG h));have t7:(((l.drop (18+3 * j)).take (min 3 (l.drop (18+3 * j)).length)).drop 0).length<=3:=by simp only [Yan,Xw];omega
         repeat'(first|refine D1 ?_|omega|refine Zq rfl rfl rfl rfl (λhg=>?_) (λhg=>?_)|(refine Zm rfl rfl rfl rfl (λhg=>?_) (λhg=>?_)<;>refine D1 ?_)|fail)
         refine Za rfl trivial (Z4 rfl (ZI rfl rfl rfl) (Zcu _ R.cv _ C.crrs a4 _ h7 tZ t7 (cU.wk (by simp)) bZ r4)) (λ_ _ h=>h.choose_spec.2.2.2) rfl ?_;rintro rv u7 ⟨rs7,dA,lc,dO⟩;have hU:=dO.2;have ax:SlV (b :: (ob av++[b2,b3])) u7 rv rs7:=dO.slv (λc hc=>by
          have:=hT.size;have:=e4.lt;rcases Xb.1 hc with rfl|hc
          omega;rcases Xh.1 hc with h|h
          have:=ab.ob_le c h;omega;simp at h;omega)
         replace ab:=ab.up hU;replace e3:=e3.up hU;replace e4:=e4.up hU;replace hT:=hT.trans hU.mn;clear hU dO h7 tZ t7 h5 h6;obtain ⟨pr,kr,rfl,-⟩:=id ax;refine QD ?_;refine Jm rfl trivial (Zb (u:=.slice pr rs7.length kr) rfl rfl rfl rfl e4 (show (4:Nat)<5 by decide)) rfl ?_;rintro _ u8 ⟨hU,e4⟩;replace e4:Blk u8 b 78 (atC ⟨a1,a2,a3,a4,rs7⟩ (.slice pr rs7.length kr)):=e4;replace e3:=e3.ext hU (by simpa using n3);have eo:=λb hb=>ab.ob_le b hb;replace ab:=ab.ext (X':=[b2,b3]) hU (λc hc=>by
          simp only [Xl] at hc;subst hc;exact ⟨by simp,λh=>by have:=(bA _ h).2;omega⟩) (λc hc=>.inl (by simp at hc ⊢;omega))
         replace hT:=hT.ow hU;refine QD ?_;exact QT (.slice pr rs7.length kr,rs7) ⟨⟨dA,lc⟩,e4,ab,ax.ext hU (by simp) (λc hc=>.inl (XE _ hc)),e3,hT⟩
       . clear ab e3 e4 hT cx cU
         as_aux_lemma=>
         rintro ⟨rv,rs7⟩ u8 ⟨⟨dA,lc⟩,e4,ab,ax,e3,hT⟩;dsimp only at dA lc e4 ax;have rY:Zkh C.crrs.length (⟨a1,a2,a3,a4,rs7⟩:Atp):=⟨r1,r2,r3,r4,dA,lc⟩
         clear r1 r2 r3 r4 dA lc hn rW bZ;have eo:=λb hb=>ab.ob_le b hb;have zT8:=hT.size;have kJ:=ax.max;refine QO ?_;refine APG (X:=[b2,b3]) (base:=u4.heap.size) (⟨a1,a2,a3,a4,rs7⟩:Atp) ab (λb hb=>by simp at hb;omega) (by omega) ⟨rv,rfl,ax⟩ (Xg (Xo _ (show as_.length+1<=10 by omega)) (by decide)) (by simp only [maxLen];omega) λv1 av' u9 aC hU gO=>?_
         replace e3:=e3.ext hU (λh=>by have:=(eo _ h).1;omega);replace hT:=hT.own hU (λb hb=>.inr (eo b hb).1);clear hU;obtain ⟨pv,kv,rfl,-⟩:=id (Row.slv (X:=[b2,b3]) aC (λb hb=>by simp at hb;omega));refine QO ?_;refine Z6 (Zb (u:=.slice pv (as_++[(⟨a1,a2,a3,a4,rs7⟩:Atp)]).length kv) rfl rfl rfl rfl e3 (show (2:Nat)<19 by decide)) ?_;rintro _ x1 ⟨hU,e3⟩;replace e3:Blk x1 b3 37 (Jw C { R with av:=.slice pv (as_++[(⟨a1,a2,a3,a4,rs7⟩:Atp)]).length kv }):=e3;replace hT:=hT.own hU (λb hb=>.inl hb);replace aC:=aC.ext (X':=[b2,b3]) hU (λc hc=>by
          simp only [Xl] at hc;subst hc;exact ⟨by simp,λh=>by have:=(aC.ob_le _ h).1;omega⟩) (λc hc=>.inl hc)
         clear hU;refine QO ?_;exact Zw (j+1,.slice pv (as_++[(⟨a1,a2,a3,a4,rs7⟩:Atp)]).length kv,as_++[(⟨a1,a2,a3,a4,rs7⟩:Atp)]) ⟨rfl,rfl,rfl,rfl,trivial⟩ ⟨xf,by simp [ai],λz hz=>by
          rcases Xh.1 hz with h|h
          exact aO z h;simp only [Xl] at h;subst h;exact rY,aC,e3,hT⟩ lu
     . as_aux_lemma=>
       have t8:Z8U [b2,b3] lv l { C with atts:=as_ } { R with av:=av } y2:={ tY.ext hT.mn with aa:=Row.slv (X:=[b2,b3]) ab (λb hb=>by simp at hb;omega) }
       have ua:Z8T { C with atts:=as_ }:=⟨gT.fl,gT.fo,gT.en,gT.rl,gT.ro,by dsimp only;omega,aO,gT.cl,gT.co,gT.sl,gT.so,gT.cal,gT.court,gT.today⟩
       replace e3:Blk y2 b3 37 (Jw { C with atts:=as_ } { R with av:=av }):=e3;replace e2:=e2.ext hT (by simp;omega);replace hS:=hS.ow hT;generalize ({ C with atts:=as_ }:Cas)=D at *;generalize ({ R with av:=av }:Z0T)=Q at *;refine QO ?_;refine SB (us:=Jw D Q) t8.cell e2 ?_;rintro _ x2 ⟨hU,e2⟩;have j9:=t8.ext hU.mn;have ah:=hS.ow hU;refine W ?_;refine J0 rfl rfl rfl e2 rfl ?_;exact .mk ⟨D,Q,rfl,⟨j9.ff.wk (by simp),j9.rr.wk (by simp),j9.aa.wk (by simp),j9.cc.wk (by simp),j9.ss.wk (by simp),⟨j9.ho.wk (by simp),j9.clo.wk (by simp),hL.up ah,hM.up ah,ua.cal.ok⟩,j9.one⟩,ua,ah⟩
theorem Z1D.own {w w0 W:World} {B:List Nat} {c:Cas} {R:Z0T} (hv:Z1D w c R) (h0:Stp [] w w0) (hB:∀ b∈B,w.heap.size<=b) (hS:Stp B w0 W):Z1D W c R:=hv.up (h0.own hS (λb hb=>.inr (hB b hb)))
theorem Row.low {α:Type} [Z5 α] {X:List Nat} {w} {a b T:Nat} {v:Value} {xs:List α} (h:Row X w b T v xs) (cR:a<=b):Row [] w a T v xs:=(h.lower cR).ext (Stp.refl [] w) (by simp) (by simp)
theorem Z9K (c:Cas) (R:Z0T) (w) (hv:Z1D w c R) (hs:Z55 c) :
 CC 19 #[.agg (Jw c R).toArray] w λv w'=>ZE 45 w w' v (Z1a c):=by
 have dS:=hs.fl;refine cW1 43 Tryz.func19 ?_;refine W ?_;refine BX (Stp.refl [] w) λb1 w1 h1 e1 _ hS=>?_;replace e1:Blk w1 b1 37 (Jw c R):=e1;have l1:=e1.lt;refine W ?_;refine Z0 (Z0P Z77) rfl ?_;rintro _ w2 ⟨r,rfl,hr,hm,hT⟩;have gr:w.heap.size<=r:=Xg hS.size hr;have lr:=hm.lt;have z2:=hT.size;replace e1:=e1.up hT;replace hS:=hS.trans hT;clear hT;refine Z0 Z2 rfl ?_;rintro _ w3 ⟨b3,rfl,d8,e3,hT⟩;have z3:=hT.size;replace e1:=e1.up hT;replace hm:=hm.up hT;replace hS:=hS.trans hT;clear hT;replace e3:Blk w3 b3 108 [.map none]:=e3;refine S1 (u:=.map (some r)) e3 ?_;rintro _ w4 ⟨hT,e3⟩;have z4:=hT.size;replace e3:Blk w4 b3 108 [.map (some r)]:=e3;replace e1:=e1.ext hT (by simp;omega);replace hm:=hm.ext hT (by simp;omega);replace hS:=hS.ow hT;have l3:=e3.lt;clear hT;refine W ?_;have rI:=(hv.up hS).ff;refine W ?_
 refine Zr (σ:=Nat) (λk=>[(1,pQ b1),(3,pQ b3),(12,R.fv),(13,.I c.fcts.length),(14,.I k)])
  (λk W=>k<=c.fcts.length/\JF Z77 W r ((c.fcts.take k).map (λf=>(f,.B true)))/\Stp [r] w4 W) (λk=>c.fcts.length - k) 0 ⟨rfl,rfl,rfl,rfl,rfl,trivial⟩ ⟨by omega,by simpa using hm,Stp.refl _ _⟩ ?_
 clear hm rI;rintro k w5 ⟨hk,hm,hT⟩;have ub:=hv.own hS (B:=[r]) (by simpa using gr) hT;by_cases hlt:k<c.fcts.length;have gZ:=ub.ff;have e3':=e3.ext hT (by simp;omega);have hfresh:∀ x∈c.fcts.take k,x≠c.fcts[k]:=by
  have h:=hs.nd.sublist (List.take_sublist (k+1) c.fcts);rw [Xi hlt,List.nodup_append] at h;exact λx hx=>h.2.2 x hx _ (by simp)
 refine QO ?_;refine Z0 Z2 rfl ?_;rintro _ w6 ⟨b5,rfl,ji,e5,hA⟩;refine SA (us:=Z3.enc c.fcts[k]) e5 ?_;rintro _ w7 ⟨dl,e5⟩;replace hA:=hA.ow dl;replace e3':=e3'.up hA;replace hm:=hm.up hA;refine QO ?_;refine Z6 (Z1F (a:=c.fcts[k]) rfl rfl rfl hm (λp hp=>by
  obtain ⟨x,hx,rfl⟩:=XG.1 hp;exact hfresh x hx)) ?_
 rintro _ w8 ⟨jl,xg⟩;refine QO ?_;exact QL (k+1) ⟨hlt,by rw [Xi hlt,XM];exact jl,(hT.trans hA.mn).trans xg⟩ (by omega);obtain rfl:k=c.fcts.length:=by omega
 rw [Xp] at hm;have e1':=e1.ext hT (by simp;omega);refine QO ?_;have uc:SlV [r] w5 R.fv c.fcts:=hv.ff.ext (hS.ow hT) (by simp) (λb hb=>.inr (by simp at hb;omega))
 refine Zr (σ:=Nat×Value×Value) (λq=>[(1,pQ b1),(3,pQ b3),(6,q.2.2),(7,q.2.1),(8,.I q.1)])
  (λq W=>q.1<=16/\JF Z77 W r ((ZX c q.1).1.map (λf=>(f,.B true)))/\Stp [r] w4 W/\SlV [r] W q.2.1 (ZX c q.1).2.1/\Row [r] W w4.heap.size 45 q.2.2 (ZX c q.1).2.2) (λq=>16 - q.1) (0,R.fv,.N) ⟨rfl,rfl,rfl,rfl,rfl,trivial⟩
  ⟨by omega,hm,hT,uc,Row.nil⟩ ?_
 clear hm hT ub e1' uc;rintro ⟨k,nowv,ov⟩ Y ⟨hk,hm,hT,jz,ab⟩;dsimp only at hk hm hT jz ab ⊢;obtain ⟨q1,q2⟩:=Z8r hs hk;have q3:=(Z56 hs k).1;have hstop:=Z6X c (k:=k);have dK:ZX c (k+1)=(((Z1E c (ZX c k).2.1).foldl (Z0L c) ((ZX c k).1,[])).1,((Z1E c (ZX c k).2.1).foldl (Z0L c) ((ZX c k).1,[])).2,(ZX c k).2.2++((Z1E c (ZX c k).2.1).foldl (Z0L c) ((ZX c k).1,[])).2):=rfl;generalize ud:ZX c k=S at *;obtain ⟨kn,now,out⟩:=S;dsimp only at *;have eC:=λb hb=>ab.ob_le b hb;have zT:=hT.size;have ue:=jz.max;by_cases ja:k<16/\0<now.length;obtain ⟨g1,g2⟩:=ja;have nX:SlV [] Y nowv now:=jz.ext (Stp.refl [] Y) (by simp) (by simp);have f1:=e1.ext hT (by simp;omega);have f3:=e3.ext hT (by simp;omega);refine QO ?_;refine Z0 Z2 rfl ?_;rintro _ wA ⟨b9,rfl,iS,e9,hA⟩;replace e9:Blk wA b9 24 [.N]:=e9;have zA:=hA.size;have l9:=e9.lt;replace f1:=f1.up hA;replace f3:=f3.up hA;replace hm:=hm.up hA;have uf:=hT.trans hA.mn;have xh:Stp [] w wA:=hS.ow uf;have ug:SlV [r,b9] wA nowv now:=jz.ext hA (by simp) (λb hb=>by
  simp only [Xb,Xj,or_false] at hb;rcases hb with rfl|rfl
  exact .inl (by simp);exact .inr iS)
 have xi:Row [r,b9] wA w4.heap.size 45 ov out:=ab.ext hA (by simp) (λb hb=>by
  simp only [Xb,Xj,or_false] at hb;rcases hb with rfl|rfl
  exact .inl (by simp);exact .inr iS)
 clear nX hA;refine QO ?_;have ca:∀ Y',Stp [r,b9] wA Y'->Z1D Y' c R:=λY' h=>hv.own xh (B:=[r,b9]) (by simp;omega) h
 have hK:ZnT ⟨c,R,wA,b1,b3,r,b9,kn⟩:=⟨⟨by dsimp only;omega,by dsimp only;omega⟩,⟨by dsimp only;omega,by dsimp only;omega⟩,by dsimp only;omega,by dsimp only;omega,by dsimp only;omega,by dsimp only;omega,l9,f1,f3,λY' h=>(ca Y' h).rr⟩
 have iK:=Zco (ZdR _ hK) c R nowv now [r,b9] wA hs.ok ca (λY' h=>ug.ext h (λb hb=>hb) (by simp)) q3 (λj hj i hi ht=>⟨hi,by
  obtain ⟨o1,o2,o3⟩:=Z7j hs.ok (q3 _ (Xd hj)) ht;have:=(q3 _ (Xd hj)).day;rw [o1];omega,by
  have a1:=Z5P c (now.take j);have a2:=Z5O c now[j] i;have a3:=hs.rl;have a4:=Ybb (show (now.take j).length<=70000000000 by rw [Xw];omega) a3;rw [Xc];omega⟩) ⟨⟨.N,rfl,e9,Row.nil⟩,hm,Stp.refl _ _⟩
 refine CL iK ?_;rintro _ W2 ⟨F,⟨⟨nv,rfl,e9,rZ⟩,hm,pm⟩,-,-⟩;dsimp only at rZ hm e9 pm;clear iK hK ca ug;have yA:=Z9B c hs.rl now kn;generalize (Z1E c now).foldl (Z0L c) (kn,[])=T at *;have iy:=λb hb=>rZ.ob_le b hb;have zS:=pm.size;have xj:Row [r] W2 w4.heap.size 45 ov out:=xi.ext pm (λb hb=>⟨hb,λh=>by have:=eC b h;simp at hb;omega⟩) (λb hb=>.inl (by simp at hb;simp [hb]));have r8:Row (ob ov++[r]) W2 wA.heap.size 45 nv T.2:=Z1X rZ;have eT:SlV (ob ov++[r]) W2 nv T.2:=r8.slv (λb hb=>by
  rcases Xh.1 hb with h|h
  have:=eC b h;omega;simp at h;omega)
 refine QO ?_;refine Z0 (Zx (α:=Fct) (X:=[r]) (base:=w4.heap.size) rfl (by decide) rfl rfl xj eT (Xg (Xo _ (show out.length+T.2.length<=600000000000 by omega)) (by decide)) (by simp only [maxLen];omega) (by omega)) rfl ?_;rintro ov' W3 ⟨dA,cD,eo⟩;replace e9:=e9.ext cD (λh=>by have:=eC _ h;omega);refine QO ?_;refine QL (k+1,nv,ov') ⟨by dsimp only;omega,?_,?_,?_,?_⟩ (by dsimp only;omega);rw [dK];exact hm.ext cD (λh=>by have:=eC _ h;omega);exact (uf.own pm (λb hb=>by
  simp only [Xb,Xj,or_false] at hb;rcases hb with rfl|rfl
  exact .inl (by simp);exact .inr (by omega))).own cD (λb hb=>.inr (eC b hb).1)
 rw [dK];exact eT.ext cD (λb hb=>by simp [hb]) (λb hb=>.inl (by simp at hb;simp [hb]));rw [dK];exact dA
 . have r9:out=(ZX c 16).2.2:=by
    by_cases gk:k=16;rw [gk] at ud;rw [ud];have hn:now=[]:=Xv.1 (by omega);have:=(hstop hn (16 - k)).1;rw [show k+(16 - k)=16 by omega] at this;exact this.symm
   have nA:out.length<=400000000000:=by omega
   clear hstop dK;repeat'(first|refine W1 ?_|omega|refine VG ?_ ?_<;>intro hg|refine VC ?_ ?_<;>intro hc)
   all_goals
    refine CL (Z6W ab nA) ?_;rintro _ W2 ⟨rfl,df,aq⟩;refine W ?_;refine WR ?_;refine .mk ?_;rw [r9] at df;exact ⟨Row.low df (by have:=hS.size;omega),(hS.ow hT).own aq (λb hb=>.inr (by have:=eC b hb;have:=hS.size;omega))⟩
end Go.Proofs.YtipfkbkkndacjaaGreatDoor
namespace Go.Eng
open Go Go.RowKit
variable {P:Program} {n:Nat} {e:Env} {w:World} {d:Option Nat} {ty:TypeId} {pos:String} {af:Array Edge} {g:Option (Nat×Bool)}
theorem Zkj {t tn T bytes k m:Nat} {kn:IntKind} {x y:Operand} {z:Value} [ht:Und P t (.slice T)] [hn:Und P tn (.int kn)] [hk:Siz P T m] [hb:Byt P T bytes] [hz:Zer P T z] (fK:z.cells.size=m) (hm:0<m)
 (hx:ev e x=some (.N)) (hy:ev e y=some (.I (k:Int))) (h0:0<k) (gH:k<=maxLen) (hbytes:k * bytes<=140737488355328) :
 OE P n ⟨d,.call { callee:=.builtin .append,args:=#[x,y],argTypes:=#[t,tn] },ty,pos,af,g⟩ e w
  (λv w'=>∃ c,v=.slice (some ⟨w.heap.size,0,none⟩) k c/\w'.ownsRow w.heap.size T m (.slice (some ⟨w.heap.size,0,none⟩) 0 c) 0 []/\Stp [] w w'):=by
 obtain ⟨i,hi,bN,cn,fw⟩:∃ i,P.info? T=some i/\i.size=m/\i.bytes=bytes/\i.zero=some z:=by
  have a1:=hk.h;have a2:=hb.h;have a3:=hz.h;cases hi:P.info? T with
  | none=>simp [hi] at a1
  | some i=>exact ⟨i,rfl,by simpa [hi] using a1,by simpa [hi] using a2,by simpa [hi] using a3⟩
 have bj:=Go.Lib.run_append_nil_zeros (P:=P) w t tn ty T i z .i64 kn ht.h hn.h hi fw k h0 (by omega) (by simp [maxLen] at gH;omega) (by rw [cn];omega);have kH:=grownCap_ge w k 0 T;have bE:(Builtin.zeroCells z.cells k++Builtin.zeroCells z.cells (grownCap w k 0 T - k)).size=grownCap w k 0 T * m:=by
  rw [Array.size_append,size_zeroCells,size_zeroCells,fK,<- Nat.add_mul];congr 1;omega
 refine J9 (v:=.slice (some ⟨w.heap.size,0,none⟩) k (grownCap w k 0 T)) (w':=w.drew.alloc (.cells (Builtin.zeroCells z.cells k++Builtin.zeroCells z.cells (grownCap w k 0 T - k)) T)) (λa ha=>?_) ⟨_,rfl,World.ownsRow_made w.drew _ _ (Xn _) (grownCap_le_maxLen w k 0 T gH) bE,(Stp.drew [] w).trans (Stp.alloc [] _ _)⟩;simp [execOp,resolve,invoke,builtin,ha.ev hx,ha.ev hy,bj]
end Go.Eng
namespace Go.Proofs.YtipfkbkkndacjaaGreatDoor
open Go Go.Eng Go.RowKit
theorem ZgA (k:Nat) (w) (hk:k<=1000000000000):CC 71 #[.N,.I (k:Int)] w λr w'=>ZE 45 w w' r ([]:List Fct):=by
 refine cW2 27 Tryz.func71 ?_;refine W ?_;have h0:SlV (α:=Fct) [] w (.N) []:=Zk _ _;have cB:([]:List Fct).length=0:=rfl;repeat'(first|refine W1 ?_|omega|refine VG ?_ ?_<;>intro hg|refine VC ?_ ?_<;>intro hc)
 apply Z8 (Zaj rfl) rfl;by_cases fh:k=0;subst fh;refine QO ?_;refine WR ?_;exact .mk ZE.nil;refine QO ?_;apply Z8 (Zaj rfl) rfl;apply Z8 (Z7L rfl rfl) rfl;refine W ?_;refine Z0 (Zkj (m:=6) (k:=k) rfl (by decide) rfl rfl (by omega) (by simp [maxLen];omega) (by omega)) rfl ?_;rintro _ w1 ⟨c,rfl,cb,hS⟩;replace h0:=h0.up hS;have hr:ZE 45 w w1 (.slice (some ⟨w.heap.size,0,none⟩) 0 c) ([]:List Fct):=⟨⟨[],rfl,λi h=>absurd h (Xt _),cb⟩,hS⟩
 refine W ?_;apply Z8 (Z9f rfl rfl) rfl;refine W ?_;refine WR ?_;exact .mk hr
theorem ZcC (v:Value) (xss:List (Sl Fct)) (w) (hs:SlV [] w v xss) (hl:xss.length<=1000) (ai:(xss.flatMap Sl.l).length<=1000000000000):CC 41 #[v] w λr w'=>ZE 45 w w' r (xss.flatMap Sl.l):=by
 have cw:∀ j,((xss.take j).flatMap Sl.l).length<=(xss.flatMap Sl.l).length:=λj=>by
  rw [<- XI j xss,Yai,Xc];simp only [XI];have:(xss.take j).flatMap Sl.l=((xss.take j++xss.drop j).take j).flatMap Sl.l:=by rw [XI]
  omega
 have hstep:∀ j (h:j<xss.length),(xss.take (j+1)).flatMap Sl.l=(xss.take j).flatMap Sl.l++xss[j].l:=λj h=>by
  rw [Xi h,Yai];simp
 refine cW1 36 Tryz.func41 ?_;refine W ?_;refine Z0f (σ:=Unit) (λ_=>[(0,v),(3,.I ((xss.flatMap Sl.l).length:Int))]) (λ_ w'=>w'=w) ?_ ?_;refine LP (σ:=Nat) (λj=>[(0,v),(9,v),(10,.I (xss.length:Int)),(3,.I (((xss.take j).flatMap Sl.l).length:Int)),(11,.I (j:Int))]) (λj w'=>j<=xss.length/\w'=w) (λj=>xss.length - j) 0 ⟨Xq _,rfl⟩ ?_;rintro j w2 ⟨hj,rfl⟩;by_cases hlt:j<xss.length;obtain ⟨u,ar,fB⟩:=hs.sub hlt;have oA:=fB.max;have h1:=cw j;have h2:=cw (j+1);have h3:=hstep j hlt;have h4:((xss.take (j+1)).flatMap Sl.l).length=((xss.take j).flatMap Sl.l).length+xss[j].l.length:=by rw [h3,Xc]
 refine QO ?_;apply Z8 (Jl rfl rfl ar) rfl;refine QO ?_;refine Zw (j+1) ⟨rfl,rfl,rfl,by rw [h4,Ybl];rfl,rfl,trivial⟩ ⟨hlt,rfl⟩ (by omega);have ea:j=xss.length:=by omega
 subst ea;rw [Xp];refine QO ?_;exact QT () rfl;rintro _ w2 rfl;refine W ?_;refine CM (Zf rfl rfl) (ZgA _ _ (by omega)) ?_;rintro g w3 hr;refine W ?_;have ey:=hs.up hr.2;refine W ?_;refine LP (σ:=Nat×Value) (λq=>[(6,q.2),(25,v),(26,.I (xss.length:Int)),(27,.I (q.1:Int))]) (λq w'=>q.1<=xss.length/\ZE 45 w2 w' q.2 ((xss.take q.1).flatMap Sl.l)) (λq=>xss.length - q.1) (0,g) ⟨Xq _,by simpa using hr⟩ ?_;clear hr ey;rintro ⟨j,g⟩ w4 ⟨hj,hr⟩;dsimp only at hj hr ⊢;by_cases hlt:j<xss.length;have dz:SlV (ob g) w4 v xss:=hs.ext hr.2 (by simp) (λb hb=>.inr (hr.ob_le b hb).1);obtain ⟨u,ar,fB⟩:=dz.sub hlt;have h1:=cw j;have h2:=cw (j+1);have h3:=hstep j hlt;have h4:((xss.take (j+1)).flatMap Sl.l).length=((xss.take j).flatMap Sl.l).length+xss[j].l.length:=by rw [h3,Xc]
 refine QO ?_;apply Z8 (Jl rfl rfl ar) rfl;refine QO ?_;refine Z0 (Jy rfl (by decide) rfl rfl hr fB (by omega) (by simp only [maxLen];omega)) rfl ?_;rintro g' w5 ⟨bM,-,-⟩;refine W ?_;exact QL (j+1,g') ⟨hlt,by dsimp only;rw [h3];exact bM⟩ (by dsimp only;omega);have ea:j=xss.length:=by omega
 subst ea;rw [Xp] at hr;refine QO ?_;refine WR ?_;exact .mk hr
def Z0M (c:Cas):List Dln:=(Z1E c (Z6U (c.fcts++Z1a c))).map Prod.fst
structure DlJ (w0:World) (b:Nat) (pre:List DI) (F:List Nat) (W:World):Prop where
 ex:∃ nv,F=b :: ob nv/\Blk W b 47 [nv]/\Row [b] W w0.heap.size 56 nv (pre.map Prod.fst)
 stp:Stp [b] w0 W
 lt:b<w0.heap.size
theorem ZgB (w0:World) (b:Nat) (lP:b<w0.heap.size):Yld (.func (.func 45) #[] #[pQ b]) 45 #[pQ b] (DlJ w0 b) (λpre d i=>pre.length<=900000000000):=by
 refine ⟨rfl,?_,?_,?_⟩;rintro pre F Y ⟨⟨nv,rfl,e,ab⟩,hS,hb⟩ x hx;have:=hS.size;simp only [Xb] at hx;rcases hx with rfl|hx
 omega;exact (ab.ob_le x hx).2;rintro pre F Y Y' ⟨⟨nv,rfl,e,ab⟩,hS,hb⟩ hT;exact ⟨⟨nv,rfl,e.up hT,ab.up hT⟩,hS.trans hT.mn,hb⟩;rintro pre F d dv i Y ⟨⟨nv,rfl,e,ab⟩,hS,hb⟩ ax cr;have eC:=λx hx=>ab.ob_le x hx;have zS:=hS.size;have bC:=ax.one;refine cW3 9 Tryz.func45 ?_;refine W ?_;refine BX (Stp.refl [] Y) λb3 w1 h3 e3 hT _=>?_;replace e3:Blk w1 b3 56 (dlC d dv):=e3;replace e:=e.up hT;replace ab:=ab.up hT;have zT:=hT.size;have jx:SlV (ob nv++[b]) w1 dv d.reas:=ax.ext hT (by simp) (λx hx=>by
  rcases Xh.1 hx with h|h
  exact .inl (by simp [h]);exact .inl (by simp at h;simp [h]))
 refine W ?_;refine APG (X:=[b]) (base:=w0.heap.size) (cs:=dlC d dv) d ab (λx hx=>by simp at hx;omega) (by omega) ⟨dv,rfl,jx⟩ (by rw [Xs];exact Xg (Xo _ (show pre.length+1<=900000000001 by omega)) (by decide)) (by rw [Xs];simp only [maxLen];omega) λv1 nv' w2 df aq bh=>?_
 have eb:b<w1.heap.size:=e.lt;replace e:=e.ext aq (λh=>by have:=eC _ h;omega);refine W ?_;have nY:SlV [b] w2 nv' (pre.map Prod.fst++[d]):=df.slv (λx hx=>by simp at hx;omega);refine Z6 (Zb (u:=nv') rfl rfl nY.cells nY.one e (by simp)) ?_;rintro _ w3 ⟨cD,e⟩;refine W ?_;refine WR ?_;have iy:=λx hx=>df.ob_le x hx;have nZ:Stp (b :: ob nv) w1 w3:=(aq.mono (λx hx=>by simp [hx])).trans cD.mn;refine .mk ⟨b :: ob nv',⟨⟨nv',rfl,e,?_⟩,?_,hb⟩,hT.mn.trans nZ,λx hx=>?_⟩;rw [XM];exact df.ext cD (λx hx=>⟨hx,λh=>by have:=iy x h;simp at hx;omega⟩) (λx hx=>.inl hx);exact (hS.trans hT.mn).own nZ (λx hx=>by
  rcases Xb.1 hx with rfl|hx
  exact .inl (by simp);exact .inr (eC x hx).1)
 rcases Xb.1 hx with rfl|hx
 exact .inl (by simp);rcases bh x hx with h|h
 exact .inl (by simp [h]);exact .inr (by omega)
theorem ZdY {c:Cas} (h:Z55 c):(Z1a c).length<=92000000000:=by
 unfold Z1a;rw [(Z0U _).length_eq];exact (Z8r h (Xn _)).2
theorem Z57 {c:Cas} (h:Z55 c):∀ f∈Z1a c,Z0o f:=λf hf=>(Z56 h 16).2 f ((Z0U _).mem_iff.1 hf)
theorem Zne (p q:Option Addr) (l m c d:Nat) (w):(Instr.buildSlice 153 2 #[(0,.slice p l c),(1,.slice q m d)]).run Tryz.prog w=.ok (.slice (some ⟨w.heap.size,0,none⟩) 2 2) (w.alloc (.cells #[.slice p l c,.slice q m d] 24)):=by kernel_rfl
theorem ZcD {α:Type} [Z5 α] {X:List Nat} {w} {v:Value} {xs:List α} (h:SlV X w v xs):∃ p c,v=.slice p xs.length c:=by
 obtain ⟨p,c,h,_⟩:=h;exact ⟨p,c,h⟩
theorem Z4L (c:Cas) (R:Z0T) (w) (hv:Z1D w c R) (hs:Z55 c) :
 CC 17 #[.agg (Jw c R).toArray] w λv w'=>Row [] w' w.heap.size 56 v (Z0M c)/\Stp [] w w':=by
 have dS:=hs.fl;have bH:=ZdY hs;refine cW1 18 Tryz.func17 ?_;refine W ?_;refine BX (Stp.refl [] w) λb1 w1 h1 e1 _ hS=>?_;replace e1:Blk w1 b1 37 (Jw c R):=e1;refine W ?_;refine ZDr 7 [] [] [(0,0),(1,1),(2,1),(3,2),(4,2),(5,2),(6,0)] (λw1 ae=>?_);replace e1:=e1.up ae;replace hS:=hS.trans ae;clear ae;refine D ?_;refine DC (Z9K c R _ (hv.up hS) hs) (λ_ _ h=>h.2) ?_;rintro fv w2 hr;have eN:Z0M c=(Z1E c (Z6U (c.fcts++Z1a c))).map Prod.fst:=rfl;have rp:=Z57 hs;generalize Z1a c=G at *;have ah:=hS.trans hr.2;replace e1:=e1.up hr.2;have gZ:=(hv.up ah).ff;have oa:SlV [] w2 fv (G):=hr.slv (by simp);obtain ⟨p1,c1,fG⟩:=ZcD gZ;obtain ⟨p2,c2,gW⟩:=ZcD oa;rw [fG,gW];rw [fG] at gZ;rw [gW] at oa;refine Za rfl trivial (Z1 (vs:=[(0,.slice p1 c.fcts.length c1),(1,.slice p2 (G).length c2)]) rfl (Zne _ _ _ _ _ _)) (λ_ _ h=>Z9.stp h) rfl ?_;rintro v3 w3 hN;have j0:SlV [] w3 v3 [(⟨c.fcts⟩:Sl Fct),⟨G⟩]:=hN.slvS (by simp) rfl rfl (λi hi cA=>by
  match i,hi with
  | 0,_=>exact gZ
  | 1,_=>exact oa) (by simp [maxLen])
 have hT:=Z9.stp hN;replace e1:=e1.up hT;have z13:=e1.lt;replace ah:=ah.trans hT;have cU:=ZcC v3 _ w3 j0 (by simp) (by simp;omega);rw [show [(⟨c.fcts⟩:Sl Fct),⟨G⟩].flatMap Sl.l=c.fcts++G by simp] at cU;refine DC cU (λ_ _ h=>h.2) ?_;rintro lv w4 hl;refine D ?_;replace e1:=e1.up hl.2;have z1:=e1.lt;replace ah:=ah.trans hl.2;have lR:=λb hb=>hl.ob_le b hb;have z3:=(hS.trans hr.2).size;have z3':=hT.size;clear gZ oa hN hT j0 cU hr hS;refine W ?_;refine CM (Zf rfl rfl) (Z6W hl.1 (by rw [Xc];omega)) ?_;rintro _ w5 ⟨rfl,pj,dV⟩;have qx:b1∉ob lv:=λh=>by have:=lR _ h;omega
 replace e1:=e1.ext dV qx;have aD:Stp [] w w5:=ah.own dV (λb hb=>.inr (by have:=lR b hb;omega));generalize hL:Z6U (c.fcts++G)=L at *;have yB:L.length<=92000000016:=by rw [<- hL,(Z0U _).length_eq,Xc];omega
 have xl:∀ f∈L,Z0o f:=λf hf=>by
  rw [<- hL,(Z0U _).mem_iff] at hf;rcases Xh.1 hf with h|h
  exact hs.fo f h;exact rp f h
 refine W ?_;refine Z0 Z2 rfl ?_;rintro _ w6 ⟨b4,rfl,bD,e4,jw⟩;replace e4:Blk w6 b4 47 [.N]:=e4;have z4:=e4.lt;replace e1:=e1.up jw;have dh:=aD.trans jw;have ax:SlV [b4] w6 lv L:=SlV.ext (X:=[]) (pj.slv (by simp)) jw (by simp) (λx hx=>.inr (by simp at hx;omega));have g4:w.heap.size<=b4:=by have:=aD.size;omega
 refine W ?_;have iK:=Zco (ZgB w6 b4 z4) c R lv L [b4] w6 hs.ok (λY hY=>hv.own dh (B:=[b4]) (by simpa using g4) hY) (λY hY=>ax.ext hY (λx hx=>hx) (by simp)) xl (λj hj i hi ht=>by
  have a1:=Z5P c (L.take j);have a2:=Z5O c L[j] i;have a3:=hs.rl;have a4:=Ybb (show (L.take j).length<=220000000000 by rw [Xw];omega) a3;rw [Xc];omega) ⟨⟨.N,rfl,e4,Row.nil⟩,Stp.refl _ _,z4⟩
 refine CL iK ?_;rintro _ w7 ⟨F,⟨⟨nv,rfl,e4',ab⟩,aR,-⟩,-,-⟩;refine W ?_;refine WR ?_;refine .mk ⟨?_,dh.ow aR⟩;rw [eN];exact Row.low ab (by have:=dh.size;omega)
open Go Go.Eng Go.RowKit Go.Proofs
theorem ZcE {q:Cr} (h:ZcA q=0):Z1t q.cnd=(2,0)/\Z1t q.due=(3,0):=by
 unfold ZcA at h;split at h;cases h;rename_i hb;unfold Z0u at hb;simp only [YaE,decide_eq_true_eq,not_or,Decidable.not_not] at hb;obtain ⟨⟨⟨⟨⟨⟨⟨⟨⟨a1,a2⟩,a3⟩,a4⟩,-⟩,-⟩,-⟩,-⟩,-⟩,-⟩:=hb;exact ⟨Prod.ext a3 a1,Prod.ext a4 a2⟩
theorem Z9J.lt {l:List Fct} (h:Z9J l) {i j:Nat} (hi:i<j) (hj:j<l.length):(l[i]'(by omega)).entry<l[j].entry:=by
 have h1:=h i (by omega);have h2:=h j hj;omega
theorem Z9J.nodup {l:List Fct} (h:Z9J l):l.Nodup:=by
 unfold List.Nodup;rw [Yak];intro i j hi hj dC e;have:=h.lt dC hj;rw [e] at this;omega
theorem Z8T.att {c:Cas} (h:Z8T c):ZmI c.atts c.crrs:=by
 have iK:=h.al;refine ⟨by omega,λa ha=>?_,λa ha=>(h.ao a ha).crr,λa ha=>?_⟩;have hx:=h.ao a ha;have hl:=hx.len;exact ⟨by omega,λr hr=>(hx.rets r hr).crr,λx hx=>(h.co x hx).tol,λr hr=>⟨(hx.rets r hr).lo.1,(hx.rets r hr).lo.2,(hx.rets r hr).hi.1,(hx.rets r hr).hi.2⟩⟩;have:=(h.ao a ha).sent;omega
theorem Z8T.cas {c:Cas} (h:Z8T c):Z55 c:=by
 have dS:=h.fl;have iw:=h.rl;have ax:=h.sl;have nR:=h.court;have rU:=h.today;have hv:∀ q∈c.ruls,Z1t q.cnd=(2,0)/\Z1t q.due=(3,0):=λq hq=>by
  obtain ⟨r,-,hr,rfl⟩:=h.ro q hq;exact ZcE (ZcB r.rul hr).2
 refine ⟨⟨by omega,by omega,λq hq=>(hv q hq).1,λq hq=>(hv q hq).2,h.att,λx hx=>(h.co x hx).ext,⟨by omega,λs hs=>⟨(h.so s hs).lo,(h.so s hs).le,(h.so s hs).hi⟩⟩,by omega,by omega⟩,by omega,iw,λf hf=>(h.fo f hf).ok,h.en.nodup⟩
def ZgC:Rsn:=⟨0,0,0⟩
def Z8y (c:Cas) (d:Dln):Int×Bool:=
 if d.reas.length<2\/(d.reas.getD 1 ZgC).kind≠2 then (0,false) else
  ((d.reas.getD 1 ZgC).a,decide (0<=(d.reas.getD 1 ZgC).a/\(d.reas.getD 1 ZgC).a<c.ruls.length))
theorem ZcF (c:Cas) (f:Fct) (r:Nat) (q:Cr) (day due:Int) (sp:List Spn) (hr:r<c.ruls.length):Z8y c (mkD c f r q day due sp)=((r:Int),true):=by
 have e:∀ (l:List Rsn),¬ (([⟨1,f.entry,f.day⟩,⟨2,(r:Int),0⟩]:List Rsn)++l).length<2:=λl=>by simp
 unfold Z8y mkD;dsimp only;simp only [Xx];rw [if_neg (by
  rintro (h|h);exact e _ h;exact h rfl)]
 have h2:∀ (l:List Rsn),(([⟨1,f.entry,f.day⟩,⟨2,(r:Int),0⟩]:List Rsn)++l).getD 1 ZgC=⟨2,(r:Int),0⟩:=λl=>rfl;rw [h2];dsimp only;rw [decide_eq_true (by omega)]
def Z8V (c:Cas) (f:Fct) (r:Int):Option (Int×Int×List Spn):=
 if ¬ (0<=r/\r<=(c.ruls.length:Int) - 1) then none else
 let q:=c.ruls.getD r.toNat crZ
 if q.on≠f.kind\/ZfP c.ruls q.name f.day≠r then none else
 let x:=J8 (opn c) (evL c f) q.cnd
 if x.2.2≠0\/x.1=0 then none else
 let y:=J8 (opn c) (evL c f) q.due
 if y.2.2≠0 then none else
 let z:=Z8b f.day y.1 c.stys
 if z.2≠0 then none else
 if z.1=y.1 then some (y.1,y.1,x.2.1++y.2.1) else
 let n:=Jo (opn c) 1 z.1
 if n.2≠0 then none else some (y.1,n.1,x.2.1++y.2.1++[(z.1,n.1)])
theorem Zkk (c:Cas) (f:Fct) (r:Int):Z0K c f r=(Z8V c f r).elim noD (λp=>(mkD c f r (c.ruls.getD r.toNat crZ) p.1 p.2.1 p.2.2,true)):=by
 unfold Z0K Z8V;dsimp only;split;rfl;split;rfl;split;rfl;split;rfl;split;rfl;split;rfl;split<;>rfl
theorem ZcG {c:Cas} {f:Fct} {r:Int} {p:Int×Int×List Spn} (h:Z8V c f r=some p):0<=r/\r<c.ruls.length:=by
 unfold Z8V at h;split at h;cases h;omega
theorem Zkl {c:Cas} {f:Fct} {r:Int} (h:(Z0K c f r).2=true):0<=r/\r<c.ruls.length/\∃ day due sp,Z8V c f r=some (day,due,sp)/\(Z0K c f r).1=mkD c f r (c.ruls.getD r.toNat crZ) day due sp:=by
 rw [Zkk] at h ⊢;cases hk:Z8V c f r with
 | none=>rw [hk] at h;cases h
 | some p=>exact ⟨(ZcG hk).1,(ZcG hk).2,p.1,p.2.1,p.2.2,rfl,rfl⟩
theorem Z6x {c:Cas} {f:Fct} {r:Nat} (h:(Z0K c f (r:Nat)).2=true):r<c.ruls.length/\∃ day due sp,Z8V c f (r:Nat)=some (day,due,sp)/\(Z0K c f (r:Nat)).1=mkD c f r (c.ruls.getD r crZ) day due sp:=by
 obtain ⟨_,h2,day,due,sp,h3,h4⟩:=Zkl h;exact ⟨by omega,day,due,sp,h3,h4⟩
theorem Z2F {c:Cas} {d:Dln} (hd:d∈Z0M c):∃ f∈c.fcts++Z1a c,∃ r,r<c.ruls.length/\(Z0K c f (r:Nat)).2=true/\d=(Z0K c f r).1:=by
 unfold Z0M at hd;obtain ⟨p,hp,rfl⟩:=XG.1 hd;obtain ⟨f,hf,hr,he,ht⟩:=Zcq hp;rw [(Z0U _).mem_iff] at hf;exact ⟨f,hf,p.2,hr,ht,he⟩
theorem ZgD {c:Cas} {d:Dln} (hd:d∈Z0M c):∃ r:Nat,r<c.ruls.length/\Z8y c d=((r:Int),true):=by
 obtain ⟨f,hf,r,hr,h1,rfl⟩:=Z2F hd;obtain ⟨_,day,due,sp,_,hd⟩:=Z6x h1;exact ⟨r,hr,by rw [hd];exact ZcF c f r _ day due sp hr⟩
theorem Zkm (fs:List Fct) (g f:Fct) (unl:Str) (due:Int):Z6h (fs++[g]) f unl due=Z6h fs f unl due++if Z86 f unl due g=true then [g] else []:=by
 unfold Z6h;rw [Ya5];congr 1;rw [List.filter_cons];rfl
theorem Z9L {fs:List Fct} {f:Fct} {unl:Str} {due:Int} (h:¬ (Z3Q fs f unl due).2=true):Z6h fs f unl due=[]:=by
 unfold Z3Q at h;split at h;assumption;exact absurd rfl h
theorem Zkn {fs:List Fct} {g f:Fct} {unl:Str} {due:Int} (h:¬ (Z3Q fs f unl due).2=true) (hg:Z86 f unl due g=true):Z3Q (fs++[g]) f unl due=(g,true):=by
 unfold Z3Q;rw [Zkm,Z9L h,if_pos hg];rfl
def Z3Z (unl:Str) (day p:Int):Fct:=⟨60000,unl,day,p,0,0⟩
theorem Znf {fs:List Fct} {f:Fct} {unl:Str} {due:Int} (h:¬ (Z3Q fs f unl due).2=true):Z3Q fs f unl due=(default,false):=by
 have:=Z9L h;unfold Z3Q;rw [if_pos this]
theorem Zng {c:Cas} {d:Dln} (hd:d∈Z0M c) {r:Nat} (hr:Z8y c d=((r:Int),true)) (h1:d.stat≠1) (hu:(c.ruls.getD r crZ).unl≠[]) {day:Int} (h2:d.trig.day<=day) (h3:day<=d.due) :
 Z0K { c with fcts:=c.fcts++[Z3Z (c.ruls.getD r crZ).unl day d.party] } d.trig r=({ d with stat:=1,reas:=d.reas++[⟨6,60000,day⟩] },true):=by
 obtain ⟨f,hf,s,hs,ho,rfl⟩:=Z2F hd;obtain ⟨_,da,due,sp,hk,lX⟩:=Z6x ho;have e:s=r:=by
  rw [lX,ZcF c f s _ da due sp hs] at hr;have:=congrArg Prod.fst hr;dsimp only at this;omega
 subst e;rw [lX] at h1 h2 h3 ⊢;obtain ⟨q,hq⟩:∃ q,c.ruls.getD s crZ=q:=⟨_,rfl⟩
 have xm:day<=due:=h3;have iV:f.day<=day:=h2;have hn:¬ (Z3Q c.fcts f (c.ruls.getD s crZ).unl due).2=true:=λh=>h1 (by unfold mkD;dsimp only;exact if_pos h)
 have hA:=Zkn (g:=Z3Z (c.ruls.getD s crZ).unl day f.to_) hn (decide_eq_true ⟨hu,rfl,rfl,xm,.inl iV⟩);rw [Zkk];show (Z8V c f s).elim noD (λp=>(mkD { c with fcts:=c.fcts++[Z3Z (c.ruls.getD s crZ).unl day f.to_] } f s (c.ruls.getD s crZ) p.1 p.2.1 p.2.2,true))=_;rw [hk];refine Prod.ext ?_ rfl;show mkD { c with fcts:=c.fcts++[Z3Z (c.ruls.getD s crZ).unl day f.to_] } f s (c.ruls.getD s crZ) da due sp={ mkD c f s (c.ruls.getD s crZ) da due sp with stat:=1,reas:=(mkD c f s (c.ruls.getD s crZ) da due sp).reas++[⟨6,60000,day⟩] }
 have hN:=Znf hn;unfold mkD;dsimp only;rw [hA,hN];simp [Z3Z]
def ltr (i:Nat) (c:Int):Prop:=(97<=c/\c<=122)\/(48<=c/\c<=57/\i≠0)
instance (i:Nat) (c:Int):Decidable (ltr i c):=by unfold ltr;infer_instance
def Z9M (s:Str):Bool:=decide ((∀ i,i<s.length->ltr i (Jb s i))/\s≠[]/\s.length<=12)
theorem Zko (s:Str) (w) (hm:(s.length:Int)<=maxLen):CC 356 #[str s] w λr w'=>r=.B (Z9M s)/\Stp [] w w':=by
 simp only [maxLen] at hm;refine cW1 49 Tryz.func356 ?_;refine W ?_;refine LP (σ:=Nat) (λi=>[(0,str s),(7,.I (s.length:Int)),(8,.I (i:Int))]) (λi w'=>i<=s.length/\Stp [] w w'/\∀ j,j<i->ltr j (Jb s j)) (λi=>s.length - i) 0 ⟨Xq _,Stp.refl _ _,λj h=>absurd h (Xt _)⟩ ?_;rintro i w2 ⟨hi,hS,aA⟩
 try dsimp only at hi aA ⊢
 by_cases pC:¬ s.length<=i
 . have bo:¬ ltr i (Jb s i)->Z9M s=false:=λh=>decide_eq_false (λk=>h (k.1 i (by omega)))
   have dG:ltr i (Jb s i)->∀ j,j<i+1->ltr j (Jb s j):=λh j hj=>by
    by_cases e:j=i;subst e;exact h;exact aA j (by omega)
   generalize gz:Jb s i=b at bo dG;have fe:(97<=b/\b<=122)->ltr i b:=.inl;have dR:(48<=b/\b<=57/\i≠0)->ltr i b:=.inr;have ii:¬ (97<=b/\b<=122)->¬ (48<=b/\b<=57/\i≠0)->¬ ltr i b:=λh1 h2 h=>h.elim h1 h2;subst gz;by_cases c1:97<=Jb s i;all_goals by_cases c2:Jb s i<=122
   all_goals by_cases c3:48<=Jb s i
   all_goals by_cases c4:Jb s i<=57
   all_goals by_cases c5:(i:Int)=0
   all_goals try omega
   all_goals
    refine QO ?_;refine ZDr 22 [] [] [(0,0),(1,0),(2,0),(3,0),(4,0),(5,0),(6,0),(7,0),(8,0),(9,0),(10,0),(11,0),(12,0),(13,0),(14,0),(15,0),(16,0),(17,0),(18,0),(19,0),(20,0),(21,0)] (λw1 ae=>?_);have aP:=hS.trans ae;refine QD ?_;refine QO ?_
   all_goals first
    | exact QL (i+1) ⟨by omega,aP,dG (by first|exact fe ⟨c1,c2⟩|exact dR ⟨c3,c4,by omega⟩)⟩ (by omega)
    | (refine RU ?_
       exact ⟨by rw [bo (ii (by omega) (by omega))],aP⟩)
 obtain rfl:i=s.length:=by omega
 by_cases h0:s=[]
 subst h0;refine RT ?_;exact ⟨rfl,hS⟩;by_cases mb:s.length<=12
 . (refine QP ?_ ?_<;>intro hg)
   all_goals try contradiction
   all_goals
    refine RU ?_;exact ⟨by rw [show Z9M s=true from decide_eq_true ⟨aA,h0,mb⟩,decide_eq_true (by omega)],hS⟩
 . (refine QP ?_ ?_<;>intro hg)
   all_goals try contradiction
   all_goals
    refine RU ?_;exact ⟨by rw [show Z9M s=false from decide_eq_false (λh=>mb h.2.2),decide_eq_false (by omega)],hS⟩
theorem ZaS (n m:Int) (w):CC 333 #[.I n,.I m] w λr w'=>r=.B (decide (0<=n/\n<m))/\Stp [] w w':=by
 refine cW2 12 Tryz.func333 ?_
 (refine QP ?_ ?_<;>intro hg)
 refine RU ?_;exact ⟨by congr 1;rw [decide_eq_decide];exact ⟨λh=>⟨by omega,h⟩,λh=>h.2⟩,Stp.refl _ _⟩;refine RU ?_;exact ⟨by congr 1;symm;exact decide_eq_false (λh=>by omega),Stp.refl _ _⟩
def VOk (f:Fct):Prop:=(0<=f.entry/\f.entry<65536)/\Z9M f.kind=true/\(0<=f.day/\f.day<3652059)/\(0<=f.by_/\f.by_<64)/\(0<=f.to_/\f.to_<64)/\-2147483647<=f.amt/\f.amt<=2147483647
instance (f:Fct):Decidable (VOk f):=by unfold VOk;infer_instance
theorem ZgE (f:Fct) (w) (hm:(f.kind.length:Int)<=maxLen):CC 334 #[aG f] w λr w'=>r=.B (decide (VOk f))/\Stp [] w w':=by
 refine cW1 36 Tryz.func334 ?_;refine W ?_;refine BX (Stp.refl [] w) λb1 w1 h1 e1 _ hS=>?_;replace e1:Blk w1 b1 45 (Z3.enc f):=e1;refine QO ?_;refine CP hS (ZaS f.entry 65536 _) λw3 hT hS=>?_;replace e1:=e1.up hT;clear hT;by_cases h0:(0<=f.entry/\f.entry<65536)
 rotate_left
 rw [decide_eq_false h0];refine RT ?_;exact ⟨by rw [decide_eq_false (λh=>h0 (h.1))],hS⟩;rw [decide_eq_true h0];refine QO ?_;refine CP hS (Zko f.kind _ hm) λw4 hT hS=>?_;replace e1:=e1.up hT;clear hT;by_cases h1:(Z9M f.kind=true)
 rotate_left
 rw [Ybt.2 h1];refine RT ?_;exact ⟨by rw [decide_eq_false (λh=>h1 (h.2.1))],hS⟩;rw [h1];refine QO ?_;refine CP hS (ZaS f.day 3652059 _) λw5 hT hS=>?_;replace e1:=e1.up hT;clear hT;by_cases h2:(0<=f.day/\f.day<3652059)
 rotate_left
 rw [decide_eq_false h2];refine RT ?_;exact ⟨by rw [decide_eq_false (λh=>h2 (h.2.2.1))],hS⟩;rw [decide_eq_true h2];refine QO ?_;refine CP hS (ZaS f.by_ 64 _) λw6 hT hS=>?_;replace e1:=e1.up hT;clear hT;by_cases h3:(0<=f.by_/\f.by_<64)
 rotate_left
 rw [decide_eq_false h3];refine RT ?_;exact ⟨by rw [decide_eq_false (λh=>h3 (h.2.2.2.1))],hS⟩;rw [decide_eq_true h3];refine QO ?_;refine CP hS (ZaS f.to_ 64 _) λw7 hT hS=>?_;replace e1:=e1.up hT;clear hT;by_cases h4:(0<=f.to_/\f.to_<64)
 rotate_left
 rw [decide_eq_false h4];refine RT ?_;exact ⟨by rw [decide_eq_false (λh=>h4 (h.2.2.2.2.1))],hS⟩;rw [decide_eq_true h4]
 (refine QP ?_ ?_<;>intro hg)
 all_goals
  refine RU ?_;exact ⟨by
   congr 1;symm
   first
    | (rw [decide_eq_decide];exact ⟨λh=>by have:=h.2.2.2.2.2;omega,λh=>⟨h0,h1,h2,h3,h4,by omega,by omega⟩⟩)
    | exact decide_eq_false (λh=>by have:=h.2.2.2.2.2;omega),hS⟩
abbrev mkI (a:Int):Value:=.I a
structure Vr0 where
 f:Fct
instance:Z3 Vr0 where
 k:=8
 enc:=λx=>.I 0 :: .B false :: Z3.enc x.f
 len:=λ_=>rfl
 one:=by
  intro x u hu;rcases Xb.1 hu with rfl|hu
  rfl;rcases Xb.1 hu with rfl|hu
  rfl;exact Z3.one x.f u hu
abbrev ZdZ (f:Fct):Int:=if VOk f then 0 else 5
theorem Zkp (r:Nat) (f:Fct) (w) (hm:(f.kind.length:Int)<=maxLen) (hr:JF mkI w r []) :
 CC 296 #[.map (some r),aG (⟨f⟩:Vr0),.I 0] w λv w'=>v=.I (ZdZ f)/\Stp [r] w w':=by
 have lr:=hr.lt;refine cW3 50 Tryz.func296 ?_;refine W ?_;refine BX (Stp.refl [] w) λb1 w1 h1 e1 _ hS=>?_;replace e1:Blk w1 b1 262 (Z3.enc (⟨f⟩:Vr0)):=e1;replace hr:=hr.up hS;refine QO ?_;refine Z8 (Zl rfl rfl e1 (us:=Z3.enc f) rfl rfl) rfl ?_;refine W ?_;refine CP hS (ZgE f _ hm) λw2 hT hS=>?_;replace e1:=e1.up hT;replace hr:=hr.up hT;clear hT;unfold ZdZ;by_cases hv:VOk f
 rotate_left
 rw [decide_eq_false hv,if_neg hv];refine RT ?_;exact ⟨rfl,hS.mn⟩;rw [decide_eq_true hv,if_pos hv];refine QO ?_;refine Z6 (Z1F (a:=f.entry) rfl rfl rfl hr (by simp)) ?_;rintro _ w3 ⟨oT,hT⟩;refine RT ?_;exact ⟨rfl,hS.mn.trans hT⟩
theorem Znh (v:Value) (f:Fct) (w) (hm:(f.kind.length:Int)<=maxLen) (hs:SlV [] w v [(⟨f⟩:Vr0)]) :
 CC 249 #[v] w λr w'=>∃ p q,r=.tuple #[p,q,.I (ZdZ f)]/\Stp [] w w':=by
 refine cW1 29 Tryz.func249 ?_;refine W ?_;refine Z0 (Z0P mkI) rfl ?_;rintro _ w1 ⟨r,rfl,gr,ik,hS⟩;replace hs:=hs.up hS;refine W ?_;have cB:0 < [(⟨f⟩:Vr0)].length:=by simp
 refine Zr (σ:=Nat) (λk=>[(0,v),(5,.map (some r)),(6,.I 0),(11,v),(12,.I 1),(13,.I (k:Int))])
  (λk W=>k<=1/\(k=0->W=w1)/\(k=1->VOk f)/\Stp [] w W) (λk=>1 - k) 0 ⟨rfl,rfl,rfl,rfl,rfl,rfl,trivial⟩ ⟨by decide,λ_=>rfl,by simp,hS⟩ ?_
 rintro k w2 ⟨hk,fh,bG,ah⟩;have ew:k=0\/k=1:=by omega
 rcases ew with rfl|rfl
 obtain rfl:=fh rfl;clear fh bG ah;have lr:=ik.lt;refine QO ?_;refine Z0 Z2 rfl ?_;rintro _ w3 ⟨b8,rfl,fk,e8,hT⟩;refine SA (us:=Z3.enc (⟨f⟩:Vr0)) e8 ?_;rintro _ w4 ⟨hU,e8⟩;replace hT:=hT.ow hU;replace ik:=ik.up hT;have aJ:=hS.trans hT;have l8:=e8.lt;have n8:b8≠r:=by omega
 clear hU;refine QO ?_;refine CL (Zkp r f _ hm ik) ?_;rintro _ w5 ⟨rfl,hU⟩;replace e8:=e8.ext hU (by simpa using n8);have aD:Stp [] w w5:=aJ.ow hU;unfold ZdZ;by_cases hv:VOk f;rw [if_pos hv];refine QO ?_;exact QL 1 ⟨Xn _,by simp,λ_=>hv,aD⟩ (by decide);rw [if_neg hv];refine RT ?_;exact ⟨_,_,rfl,aD⟩;have hv:=bG rfl;refine RT ?_;exact ⟨_,_,by rw [show ZdZ f=0 from if_pos hv],ah⟩
theorem Ze0 (v:Value) (f:Fct) (w) (hm:(f.kind.length:Int)<=maxLen) (hs:SlV [] w v [(⟨f⟩:Vr0)]) :
 CC 189 #[v] w λr w'=>r=.I (ZdZ f)/\Stp [] w w':=by
 refine cW1 13 Tryz.func189 ?_;refine W ?_;refine CL (Znh v f _ hm hs) ?_;rintro _ w1 ⟨p,q,rfl,hS⟩;refine RT ?_;exact ⟨rfl,hS⟩
def ZcH:List Int->List Fct->Int
 | _,[]=>0
 | kn,f :: l=>if ¬ VOk f then 5 else if f.entry∈kn then 4 else ZcH (kn++[f.entry]) l
theorem ZgF (kn:List Int) (f:Fct) (l:List Fct):ZcH kn (f :: l)=if ¬ VOk f then 5 else if f.entry∈kn then 4 else ZcH (kn++[f.entry]) l:=rfl
theorem Zkq {κ:Type} [DecidableEq κ] (l:List Fct) (g:Fct->κ) (a:κ):Z3p (l.map (λx=>(g x,Value.bool true))) a (.B false)=.B (decide (a∈l.map g)):=by
 have:=ZeT (l.map g) a;rw [YbD] at this;exact this
theorem Zni (f:Fct) (w):(Instr.build 262 #[(2,aG f)]).run Tryz.prog w=.ok (aG (⟨f⟩:Vr0)) w:=by kernel_rfl
theorem Znj (f:Fct) (w):(Instr.buildSlice 263 1 #[(0,aG (⟨f⟩:Vr0))]).run Tryz.prog w=.ok (.slice (some ⟨w.heap.size,0,none⟩) 1 1) (w.alloc (.cells (Z3.enc (⟨f⟩:Vr0)).toArray 262)):=by kernel_rfl
theorem Z8z (v:Value) (l:List Fct) (w) (hm:∀ f∈l,(f.kind.length:Int)<=maxLen) (hs:SlV [] w v l) :
 CC 109 #[v] w λr w'=>r=.I (ZcH [] l)/\Stp [] w w':=by
 have kJ:=hs.max;refine cW1 26 Tryz.func109 ?_;refine W ?_;refine Z0 (Z0P mkI) rfl ?_;rintro _ w1 ⟨r,rfl,gr,ik,hS⟩;have cm:=hs.ext (X':=[r]) hS (by simp) (λb hb=>.inr (by simp at hb;omega));have lr:=ik.lt;refine QO ?_
 refine Zr (σ:=Nat) (λk=>[(3,.map (some r)),(7,v),(8,.I (l.length:Int)),(9,.I (k:Int))])
  (λk W=>k<=l.length/\JF mkI W r ((l.take k).map (λf=>(f.entry,.B true)))/\ZcH [] l=ZcH ((l.take k).map Fct.entry) (l.drop k)/\Stp [r] w1 W) (λk=>l.length - k) 0 ⟨rfl,rfl,rfl,rfl,trivial⟩ ⟨Xq _,by simpa using ik,by simp,Stp.refl _ _⟩ ?_
 clear ik;rintro k w2 ⟨hk,eP,cg,hT⟩;have br:=cm.ext (X':=[r]) hT (by simp) (λb hb=>.inl hb);have yC:=hT.size;by_cases hlt:k<l.length
 . have hd:l.drop k=l[k] :: l.drop (k+1):=X3 hlt
   have fE:l.take (k+1)=l.take k++[l[k]]:=Xi hlt;have aB:=hm _ (Xd hlt);rw [hd,ZgF] at cg;refine QO ?_;refine Z0 Z2 rfl ?_;rintro _ w3 ⟨b5,rfl,ji,e5,hU⟩;refine SA (us:=Z3.enc l[k]) e5 ?_;rintro _ w4 ⟨ia,e5⟩;replace hU:=hU.ow ia;replace eP:=eP.up hU;have fH:=hT.trans hU.mn;have l5:=e5.lt;clear ia hU;refine QO ?_;refine Z7 rfl (Zni l[k]) rfl ?_;refine Z0 (Z1 rfl (Znj l[k])) rfl ?_;rintro vs w5 hN;have dE:SlV [] w5 vs [(⟨l[k]⟩:Vr0)]:=hN.slv (by simp) rfl (by simp) (by simp [maxLen]);have hU:=Z9.stp hN;clear hN;replace eP:=eP.up hU;replace e5:=e5.up hU;replace fH:=fH.trans hU.mn;clear hU;refine CP (Stp.refl [] w5) (Ze0 vs l[k] _ aB dE) λw6 hU _=>?_;replace eP:=eP.up hU;replace e5:=e5.up hU;replace fH:=fH.trans hU.mn;clear hU;unfold ZdZ;have dx:∀ W,Stp [r] w1 W->Stp [] w W:=λW h=>hS.ow h;by_cases hv:VOk l[k]
   rotate_left
   rw [if_neg hv];rw [if_pos hv] at cg;refine RT ?_;exact ⟨by rw [cg],dx _ fH⟩;rw [if_pos hv];rw [if_neg (by simpa using hv)] at cg;refine QO ?_;refine Z8 (Z1G (a:=l[k].entry) rfl rfl eP) rfl ?_;rw [Zkq];by_cases bK:l[k].entry∈(l.take k).map Fct.entry;rw [if_pos bK] at cg;rw [decide_eq_true bK];refine RT ?_;exact ⟨by rw [cg],dx _ fH⟩;rw [if_neg bK] at cg;rw [decide_eq_false bK];refine QO ?_;refine Z6 (Z1F (a:=l[k].entry) rfl rfl rfl eP (λp hp=>by
    obtain ⟨x,hx,rfl⟩:=XG.1 hp;exact λh=>bK (XG.2 ⟨x,hx,h⟩))) ?_
   rintro _ w7 ⟨pG,hU⟩;refine QO ?_;exact QL (k+1) ⟨hlt,by rw [fE,XM];exact pG,by rw [cg,fE,XM];rfl,fH.trans hU⟩ (by omega)
 obtain rfl:k=l.length:=by omega
 rw [YaV] at cg;refine RT ?_;exact ⟨by rw [cg];rfl,hS.ow hT⟩
def Z78 (n:Nat) (r:Rtn):Prop:=(0<=r.crr/\r.crr<n)/\((r.kind=1/\(0<=r.lo/\r.lo<=3652058)/\(0<=r.hi/\r.hi<=3652058)/\r.lo<=r.hi)\/(r.kind=2/\r.lo=0/\(0<=r.hi/\r.hi<=3652058))\/(r.kind=3/\r.lo=0/\r.hi=0))
instance (n:Nat) (r:Rtn):Decidable (Z78 n r):=by unfold Z78;infer_instance
def ZsJ (n:Nat) (l:List Rtn):Int:=if 32<l.length then 2 else if ∀ r∈l,Z78 n r then 0 else 5
theorem Z1o (d:Int) (w):CC 301 #[.I d] w λr w'=>r=.B (decide (0<=d/\d<=3652058))/\Stp [] w w':=by
 refine cW1 9 Tryz.func301 ?_
 (refine QP ?_ ?_<;>intro hg)
 refine RU ?_;exact ⟨by congr 1;rw [decide_eq_decide];exact ⟨λh=>⟨by omega,h⟩,λh=>h.2⟩,Stp.refl _ _⟩;refine RU ?_;exact ⟨by congr 1;symm;exact decide_eq_false (λh=>by omega),Stp.refl _ _⟩
theorem ZaT (v cv:Value) (l:List Rtn) (cs:List Crr) (w) (hs:SlV [] w v l) (ca:SlV [] w cv cs) :
 CC 251 #[v,cv] w λr w'=>r=.I (ZsJ cs.length l)/\Stp [] w w':=by
 have kJ:=hs.max;have bU:=ca.max;unfold ZsJ;refine cW2 78 Tryz.func251 ?_;by_cases mS:32<l.length;rw [if_pos mS];refine RT ?_;exact ⟨rfl,Stp.refl _ _⟩;rw [if_neg mS];refine QO ?_
 refine Zr (σ:=Nat) (λk=>[(0,v),(1,cv),(11,v),(12,.I (l.length:Int)),(13,.I (k:Int))])
  (λk W=>k<=l.length/\(∀ i (h:i<l.length),i<k->Z78 cs.length l[i])/\Stp [] w W) (λk=>l.length - k) 0 ⟨rfl,rfl,rfl,rfl,rfl,trivial⟩ ⟨Xq _,λi _ h=>absurd h (Xt _),Stp.refl _ _⟩ ?_
 rintro k w2 ⟨hk,aA,hS⟩;have br:=hs.up hS;have cq:=ca.up hS;by_cases hlt:k<l.length;refine QO ?_;refine Z0 Z2 rfl ?_;rintro _ w3 ⟨b6,rfl,eB,e6,hU⟩;refine SA (us:=Z3.enc l[k]) e6 ?_;rintro _ w4 ⟨ia,e6⟩;replace hU:=hU.ow ia;replace cq:=cq.up hU;replace hS:=hS.trans hU;clear hU ia br;have dG:Z78 cs.length l[k]->∀ i (h:i<l.length),i<k+1->Z78 cs.length l[i]:=λhv i h yD=>by
  by_cases e:i=k;subst e;exact hv;exact aA i h (by omega)
 have bo:¬ Z78 cs.length l[k]->(if ∀ r∈l,Z78 cs.length r then (0:Int) else 5)=5:=λh=>if_neg (λg=>h (g _ (Xd hlt)));generalize l[k]=y at *;clear aA;by_cases hv:Z78 cs.length y;replace dG:=dG hv;clear bo;unfold Z78 at hv;obtain ⟨⟨g1,g2⟩,⟨k1,g3,g4,g5⟩|⟨k1,g3,g4⟩|⟨k1,g3,g4⟩⟩:=hv;refine QO ?_;refine CP hS (Z1o _ _) λw5 hT hS=>?_;replace e6:=e6.up hT;rw [decide_eq_true g3];refine QO ?_;refine CP hS (Z1o _ _) λw6 hT hS=>?_;replace e6:=e6.up hT;rw [decide_eq_true g4];refine QO ?_;exact QL (k+1) ⟨hlt,dG,hS⟩ (XN hlt (XT k));refine QO ?_;refine CP hS (Z1o _ _) λw5 hT hS=>?_;replace e6:=e6.up hT;rw [decide_eq_true g4];refine QO ?_;exact QL (k+1) ⟨hlt,dG,hS⟩ (XN hlt (XT k));refine QO ?_;exact QL (k+1) ⟨hlt,dG,hS⟩ (XN hlt (XT k))
 . replace bo:=bo hv
   clear dG;rw [bo];unfold Z78 at hv;repeat'(first|refine W1 ?_|omega|refine VG ?_ ?_<;>intro hg|refine VC ?_ ?_<;>intro hc)
   all_goals try
    refine CP hS (Z1o _ _) λw5 hT hS=>?_;replace e6:=e6.up hT;repeat'(first|refine W1 ?_|omega|refine VG ?_ ?_<;>intro hg|refine VC ?_ ?_<;>intro hc)
   all_goals try
    refine CP hS (Z1o _ _) λw6 hT hS=>?_;replace e6:=e6.up hT;repeat'(first|refine W1 ?_|omega|refine VG ?_ ?_<;>intro hg|refine VC ?_ ?_<;>intro hc)
   all_goals
    refine RU ?_;exact ⟨rfl,hS⟩
 obtain rfl:k=l.length:=by omega
 have hf:(if ∀ r∈l,Z78 cs.length r then (0:Int) else 5)=0:=if_pos (λr hr=>by
  obtain ⟨i,hi,rfl⟩:=Xr hr;exact aA i hi hi)
 rw [hf];refine RT ?_;exact ⟨rfl,hS⟩
def ZgG (n:Nat) (a:Atp):Prop:=(0<=a.entry/\a.entry<65536)/\(0<=a.party/\a.party<64)/\(0<=a.crr/\a.crr<n)/\(0<=a.sent/\a.sent<=3652058)
instance (n:Nat) (a:Atp):Decidable (ZgG n a):=by unfold ZgG;infer_instance
def ZcI (n:Nat) (a:Atp):Int:=if ZgG n a then ZsJ n a.rets else 5
def Ze1 (n:Nat):List Atp->Int
 | []=>0
 | a :: l=>if ZcI n a≠0 then ZcI n a else Ze1 n l
theorem ZaU (rv cv:Value) (a:Atp) (cs:List Crr) (w) (hs:SlV [] w rv a.rets) (ca:SlV [] w cv cs) :
 CC 192 #[.agg (atC a rv).toArray,cv] w λr w'=>r=.I (ZcI cs.length a)/\Stp [] w w':=by
 have bU:=ca.max;unfold ZcI;refine cW2 36 Tryz.func192 ?_;refine W ?_;refine BX (Stp.refl [] w) λb1 w1 h1 e1 _ hS=>?_;replace e1:Blk w1 b1 78 (atC a rv):=e1;have cq:=ca.up hS;have br:=hs.up hS;by_cases hv:ZgG cs.length a;rw [if_pos hv];unfold ZgG at hv;obtain ⟨g1,g2,g3,g4⟩:=hv;refine QO ?_;refine CP hS (ZaT rv cv a.rets cs _ br cq) λw5 hT hS=>?_;refine RT ?_;exact ⟨rfl,hS⟩
 . rw [if_neg hv]
   unfold ZgG at hv;repeat'(first|refine W1 ?_|omega|refine VG ?_ ?_<;>intro hg|refine VC ?_ ?_<;>intro hc)
   all_goals
    refine RU ?_;exact ⟨rfl,hS⟩
theorem ZaV (v cv:Value) (l:List Atp) (cs:List Crr) (w) (hl:l.length<=65536) (hs:SlV [] w v l) (ca:SlV [] w cv cs) :
 CC 112 #[v,cv] w λr w'=>r=.I (Ze1 cs.length l)/\Stp [] w w':=by
 have kJ:=hs.max;refine cW2 24 Tryz.func112 ?_;refine QO ?_
 refine Zr (σ:=Nat) (λk=>[(0,v),(1,cv),(11,v),(12,.I (l.length:Int)),(13,.I (k:Int))])
  (λk W=>k<=l.length/\Ze1 cs.length l=Ze1 cs.length (l.drop k)/\Stp [] w W) (λk=>l.length - k) 0 ⟨rfl,rfl,rfl,rfl,rfl,trivial⟩ ⟨Xq _,rfl,Stp.refl _ _⟩ ?_
 rintro k w2 ⟨hk,cg,hS⟩;have br:=hs.up hS;have cq:=ca.up hS;by_cases hlt:k<l.length;have hd:l.drop k=l[k] :: l.drop (k+1):=X3 hlt;rw [hd] at cg;have qR:Ze1 cs.length (l[k] :: l.drop (k+1))=if ZcI cs.length l[k]≠0 then ZcI cs.length l[k] else Ze1 cs.length (l.drop (k+1)):=rfl
 rw [qR] at cg;obtain ⟨cs0,⟨rv,rfl,bC⟩,ar⟩:=br.cell hlt;refine QO ?_;refine Z8 (Z1W rfl rfl br hlt ⟨rv,rfl,bC⟩ ar) rfl ?_;refine Z0 Z2 rfl ?_;rintro _ w3 ⟨b6,rfl,eB,e6,hU⟩;refine SB (us:=atC l[k] rv) (ZeZ bC.one) e6 ?_;rintro _ w4 ⟨ia,e6⟩;replace hU:=hU.ow ia;replace cq:=cq.up hU;replace bC:=bC.up hU;replace hS:=hS.trans hU;clear hU ia ar br;refine QO ?_;refine CP hS (ZaU rv cv l[k] cs _ bC cq) λw5 hT hS=>?_;by_cases he:ZcI cs.length l[k]=0;rw [he] at cg ⊢;refine QO ?_;exact QL (k+1) ⟨hlt,cg,hS⟩ (XN hlt (XT k));rw [if_pos he] at cg;generalize ZcI cs.length l[k]=z at *;refine RT ?_;exact ⟨by rw [cg],hS⟩;obtain rfl:k=l.length:=by omega
 rw [YaV] at cg;refine RT ?_;exact ⟨by rw [cg];rfl,hS⟩
theorem Znk (v:Value) (l:List Int) (w) (hs:SlV [] w v l):CC 111 #[v] w λr w'=>r=.I (orL l)/\Stp [] w w':=by
 have aT:=hs.max;refine cW1 18 Tryz.func111 ?_;refine W ?_;refine LP (σ:=Nat) (λk=>[(3,.I 0),(6,v),(7,.I l.length),(8,.I k)]) (λk w'=>k<=l.length/\Stp [] w w'/\∀ j (h:j<l.length),j<k->l[j]=0) (λk=>l.length - k) 0 ⟨Xq _,Stp.refl _ _,λj _ h=>absurd h (Xt _)⟩ ?_;have bg:=hs;clear hs;rintro k w1 ⟨hk,hS,hz⟩;have hs:=bg.up hS;by_cases hlt:k<l.length;by_cases h0:l[k]=0;refine QO ?_;exact QL (k+1) ⟨by omega,hS,λj h hj=>by
  by_cases e:j=k;subst e;exact h0;exact hz j h (by omega)⟩ (by omega)
 refine RT ?_;exact ⟨by rw [Zdz hlt hz h0],hS⟩;refine RT ?_;exact ⟨by rw [Z85 (λj h=>hz j h (by omega))],hS⟩
theorem Z8W (w):CC 194 #[.N] w λr w'=>r=.I 0/\Stp [] w w':=by
 refine cW1 55 Tryz.func194 ?_;refine QO ?_;refine CL (Z9w _) ?_;rintro _ w1 ⟨rfl,hS⟩;repeat'(first|refine W1 ?_|omega|refine VG ?_ ?_<;>intro hg|refine VC ?_ ?_<;>intro hc)
 refine Z0 Z2 rfl ?_;rintro _ w2 ⟨b,rfl,hb,e6,hT⟩;refine SB (us:=Z54) (by intro u hu;simp [Z54] at hu;rcases hu with rfl|rfl|rfl|rfl|rfl|rfl|rfl|rfl<;>rfl) e6 ?_;rintro _ w3 ⟨hU,e6⟩;replace hS:=(hS.trans hT).own hU (λc hc=>.inr (by have:=hS.size;simp at hc;omega));refine QO ?_;refine LP (σ:=Nat) (λk=>[(11,.I 0),(12,.I (k:Int))]) (λk w'=>k=0/\w'=w3) (λk=>k) 0 ⟨rfl,rfl⟩ ?_;rintro k w4 ⟨rfl,rfl⟩;refine RT ?_;exact ⟨rfl,hS⟩
theorem Z8X (w):CC 195 #[.agg #[.I 0,.N]] w λr w'=>r=.I 0/\Stp [] w w':=by
 have iF:∀ W:World,CC 254 #[.I 0] W λr w'=>r=.B true/\Stp [] W w':=λW=>by
  refine cW1 9 Tryz.func254 ?_;refine RT ?_;exact ⟨rfl,Stp.refl _ _⟩
 refine cW1 51 Tryz.func195 ?_;refine W ?_;refine BX (Stp.refl [] w) λb1 w1 h1 e1 _ hS=>?_;replace e1:Blk w1 b1 33 [.I 0,.N]:=e1;refine QO ?_;refine CP hS (iF _) λw2 hT hS=>?_;replace e1:=e1.up hT;refine QO ?_;refine LP (σ:=Nat) (λk=>[(17,.I 0),(18,.I (k:Int))]) (λk w'=>k=0/\w'=w2) (λk=>k) 0 ⟨rfl,rfl⟩ ?_;rintro k w4 ⟨rfl,rfl⟩;refine RT ?_;exact ⟨rfl,hS⟩
theorem Zkr (v:Value) (l:List Bool) (x:Bool) (w) (hs:SlV [] w v l):CC 252 #[v,.B x] w λr w'=>(∃ z:Int,r=.I z/\(0<=z↔x∈l))/\Stp [] w w':=by
 have aT:=hs.max;refine cW2 19 Tryz.func252 ?_;refine W ?_;refine LP (σ:=Nat) (λk=>[(0,v),(1,.B x),(6,v),(7,.I l.length),(8,.I k)]) (λk w'=>k<=l.length/\Stp [] w w'/\∀ j (h:j<l.length),j<k->l[j]≠x) (λk=>l.length - k) 0 ⟨Xq _,Stp.refl _ _,λj _ h=>absurd h (Xt _)⟩ ?_;rintro k w2 ⟨hk,hT,hz⟩;have br:=hs.up hT;by_cases hlt:k<l.length
 (refine QP ?_ ?_<;>intro hc)
 refine RU ?_;exact ⟨⟨_,rfl,⟨λ_=>hc ▸ Xd hlt,λ_=>Int.natCast_nonneg _⟩⟩,hT⟩;exact QL (k+1) ⟨hlt,hT,λj h hj=>by
  by_cases e:j=k;subst e;exact λh=>hc h.symm;exact hz j h (by omega)⟩ (by omega)
 have bo:¬ x∈l:=λh=>by
  obtain ⟨j,hj,e⟩:=Xr h;exact hz j hj (by omega) e
 refine RT ?_;exact ⟨⟨_,rfl,⟨λh=>absurd h (by decide),λh=>absurd h bo⟩⟩,hT⟩
theorem Zks (v:Value) (l:List Bool) (x:Bool) (w) (hs:SlV [] w v l):CC 193 #[v,.B x] w λr w'=>r=.B (decide (x∈l))/\Stp [] w w':=by
 refine cW2 9 Tryz.func193 ?_;refine W ?_;refine CG (Zkr v l x _ hs) ?_;rintro _ w2 ⟨⟨z,rfl,hz⟩,hT⟩;refine RT ?_;exact ⟨congrArg Value.bool (decide_eq_decide.2 hz),hT⟩
def ZnV:List Value:=[.B false,.B false,.B false,.B false,.B false,.B false,.B false,.N,.N,.I 0,.N,.I 0]
theorem Z8Y (w):CC 114 #[.agg ZnV.toArray] w λr w'=>r=.I 0/\Stp [] w w':=by
 refine cW1 66 Tryz.func114 ?_;refine W ?_;refine BX (Stp.refl [] w) λb1 w1 h1 e1 _ hS=>?_;replace e1:Blk w1 b1 35 ZnV:=e1;have oV:SlV [] w1 (.slice (some ⟨b1,0,none⟩) 7 7) [false,false,false,false,false,false,false]:=by
  refine ⟨some ⟨b1,0,none⟩,7,rfl,Xn _,by simp [maxLen],λh=>by simp at h,λi hi=>⟨b1,0,[.B false],rfl,e1.lt,by simp,?_,λj u hu=>?_⟩⟩;have:i=0\/i=1\/i=2\/i=3\/i=4\/i=5\/i=6:=by simp at hi;omega
  rcases this with rfl|rfl|rfl|rfl|rfl|rfl|rfl<;>rfl
  have hj:j=0:=by
   have:=(Xu.1 hu).1;simp at this;exact this
  subst hj;refine e1.cell ?_;have:i=0\/i=1\/i=2\/i=3\/i=4\/i=5\/i=6:=by simp at hi;omega
  rcases this with rfl|rfl|rfl|rfl|rfl|rfl|rfl<;>exact hu
 refine W ?_;refine Z8 (Z5V (b:=b1) rfl) rfl ?_;refine W ?_;refine CP hS (Zks _ _ false _ oV) λw2 hT hS=>?_;replace e1:=e1.up hT;clear oV hT;rw [decide_eq_true (by simp)];refine QO ?_;refine CP hS (Z8W _) λw3 hT hS=>?_;replace e1:=e1.up hT;refine QO ?_;refine LP (σ:=Nat) (λk=>[(1,pQ b1),(23,.I 0),(24,.I (k:Int))]) (λk w'=>k=0/\w'=w3) (λk=>k) 0 ⟨rfl,rfl⟩ ?_;rintro k w4 ⟨rfl,rfl⟩;refine QO ?_;refine Z8 (Zl rfl rfl e1 (us:=[.I 0,.N]) rfl rfl) rfl ?_;refine W ?_;refine CP hS (Z8X _) λw5 hT hS=>?_;replace e1:=e1.up hT;refine RT ?_;exact ⟨rfl,hS⟩
structure ZcJ (c:Cas):Prop where
 ops:∀ q∈c.ruls,∀ x∈q.cnd++q.due,opP x.op
 fil:ZcH [] c.fcts=0
 fm:∀ f∈c.fcts,(f.kind.length:Int)<=maxLen
 cl:c.crrs.length<=16
 co:∀ x∈c.crrs,Z9D x
 rl:c.ruls.length<=1024
 ro:∀ q∈c.ruls,ZcA q=0
 al:c.atts.length<=65536
 ao:Ze1 c.crrs.length c.atts=0
 so:ZfZ c.stys=0
 court:0<=c.court/\c.court<=15
 today:0<=c.today/\c.today<=3652058
theorem Znl (a b d:Int) (w):(Instr.buildSlice 265 3 #[(0,.I a),(1,.I b),(2,.I d)]).run Tryz.prog w=.ok (.slice (some ⟨w.heap.size,0,none⟩) 3 3) (w.alloc (.cells #[.I a,.I b,.I d] 92)):=by kernel_rfl
theorem ZaW (c:Cas) (R:Z0T) (w) (m:Int) (hF:SlV [] w Z2m Ze) (eQ:w.cell? ⟨2,0,none⟩=some (.I m)) (hv:Z1D w c R) (ho:ZcJ c)
 (dB:∀ Y,Stp [] w Y->CC 114 #[.agg (Z08 c.cal R.hv R.lv R.zo R.zs R.hr).toArray] Y λr w'=>r=.I 0/\Stp [] Y w') :
 CC 70 #[.agg (Jw c R).toArray] w λr w'=>r=.I 0/\Stp [] w w':=by
 have bZ:=ho.cl;have iw:=ho.rl;have nR:=ho.court;have rU:=ho.today;have xn:=hv.cc.max;have xo:=hv.rr.max;refine cW1 78 Tryz.func70 ?_;refine W ?_;refine BX (Stp.refl [] w) λb1 w1 h1 e1 _ hS=>?_;replace e1:Blk w1 b1 37 (Jw c R):=e1;refine QO ?_;refine CP hS (Z8z R.fv c.fcts _ ho.fm (hv.ff.up hS)) λw2 hT hS=>?_;replace e1:=e1.up hT;rw [ho.fil];have fq:=(hv.up hS).cc;refine QO ?_;refine LP (σ:=Nat) (λk=>[(1,pQ b1),(20,R.cv),(21,.I (c.crrs.length:Int)),(22,.I (k:Int))]) (λk w'=>k<=c.crrs.length/\Stp [] w2 w') (λk=>c.crrs.length - k) 0 ⟨Xq _,Stp.refl _ _⟩ ?_;rintro k y1 ⟨hk,d6⟩;have e1':=e1.up d6;have ae:=hS.trans d6;have se:=fq.up d6;by_cases hlt:k<c.crrs.length;have ls:=ho.co _ (Xd hlt);have x1:=ls.ext;have x2:=ls.tol;refine QO ?_;refine Z0 Z2 rfl ?_;rintro _ w3 ⟨b6,rfl,eB,e6,hU⟩;refine SA (us:=Z3.enc c.crrs[k]) e6 ?_;rintro _ w4 ⟨ia,e6⟩;replace hU:=hU.ow ia;replace d6:=d6.trans hU;generalize c.crrs[k]=x at *;refine QO ?_;refine CP d6 (Z1n _ _ _ _) λw5 hT d6=>?_;replace e6:=e6.up hT;rw [decide_eq_true x1];refine QO ?_;refine CP d6 (Z1n _ _ _ _) λw6 hT d6=>?_;rw [decide_eq_true x2];refine QO ?_;exact QL (k+1) ⟨hlt,d6⟩ (XN hlt (XT k));replace e1:=e1';replace hS:=ae;clear e1' ae se fq d6 hT;have oH:=(hv.up hS).rr;refine QO ?_;refine LP (σ:=Nat) (λk=>[(1,pQ b1),(42,R.rv),(43,.I (c.ruls.length:Int)),(44,.I (k:Int))]) (λk w'=>k<=c.ruls.length/\Stp [] y1 w') (λk=>c.ruls.length - k) 0 ⟨Xq _,Stp.refl _ _⟩ ?_;rintro k y2 ⟨hk,d6⟩;have e1':=e1.up d6;have ae:=hS.trans d6;have lw:=oH.up d6;by_cases hlt:k<c.ruls.length;have ls:=ho.ro _ (Xd hlt);obtain ⟨cs0,⟨kc,kd,rfl,sf,ej⟩,ar⟩:=lw.cell hlt;refine QO ?_;refine Z8 (Z1W rfl rfl lw hlt ⟨kc,kd,rfl,sf,ej⟩ ar) rfl ?_;refine Z0 Z2 rfl ?_;rintro _ w3 ⟨b6,rfl,eB,e6,hU⟩;refine SB (us:=crC c.ruls[k] kc kd) (Z0g sf ej) e6 ?_;rintro _ w4 ⟨ia,e6⟩;replace hU:=hU.ow ia;replace d6:=d6.trans hU;have dx:=hS.trans d6;refine QO ?_;refine CP d6 (ZdW _ c.ruls[k] _ m (hF.up dx) (dx.cell (by simp) eQ) ⟨kc,kd,rfl,sf.up hU,ej.up hU⟩ (ho.ops _ (Xd (by assumption)))) λw5 hT d6=>?_
 rw [ls];refine QO ?_;exact QL (k+1) ⟨hlt,d6⟩ (XN hlt (XT k));replace e1:=e1';replace hS:=ae;clear e1' ae lw oH d6;have jA:=hv.up hS;refine QO ?_;refine ZDr 14 [] [] [(0,0),(1,1),(2,0),(3,1),(5,0),(6,1),(8,0),(9,1),(4,2),(7,2),(10,2),(11,2),(12,2),(13,0)] (λw1 ae=>?_);replace e1:=e1.up ae;replace hS:=hS.trans ae;replace jA:=jA.up ae;refine QD ?_;refine WD_read rfl trivial (λw' aP=>Zl rfl rfl (e1.up aP) (us:=Z08 c.cal R.hv R.lv R.zo R.zs R.hr) rfl rfl) rfl ?_;repeat'(first|refine D1 ?_|omega|refine Zq rfl rfl rfl rfl (λhg=>?_) (λhg=>?_)|(refine Zm rfl rfl rfl rfl (λhg=>?_) (λhg=>?_)<;>refine D1 ?_)|fail)
 refine DP hS (ZaV R.av R.cv c.atts c.crrs _ ho.al jA.aa jA.cc) λw5 hT hS=>?_;replace e1:=e1.up hT;replace jA:=jA.up hT;rw [ho.ao];repeat'(first|refine D1 ?_|omega|refine Zq rfl rfl rfl rfl (λhg=>?_) (λhg=>?_)|(refine Zm rfl rfl rfl rfl (λhg=>?_) (λhg=>?_)<;>refine D1 ?_)|fail)
 refine DP hS (Zay R.sv c.stys _ jA.ss) λw6 hT hS=>?_;replace e1:=e1.up hT;replace jA:=jA.up hT;rw [ho.so];repeat'(first|refine D1 ?_|omega|refine Zq rfl rfl rfl rfl (λhg=>?_) (λhg=>?_)|(refine Zm rfl rfl rfl rfl (λhg=>?_) (λhg=>?_)<;>refine D1 ?_)|fail)
 refine DP hS (dB _ hS) λw7 hT hS=>?_;replace e1:=e1.up hT;repeat'(first|refine D1 ?_|omega|refine Zq rfl rfl rfl rfl (λhg=>?_) (λhg=>?_)|(refine Zm rfl rfl rfl rfl (λhg=>?_) (λhg=>?_)<;>refine D1 ?_)|fail)
 refine Za rfl trivial (Z1 rfl (Znl 0 0 0)) (λ_ _ h=>Z9.stp h) rfl ?_;rintro vs w8 hN;have dE:SlV [] w8 vs ([0,0,0]:List Int):=hN.slv (by simp) rfl rfl (by simp [maxLen]);have hU:=Z9.stp hN;clear hN;replace e1:=e1.up hU;replace hS:=hS.trans hU;repeat'(first|refine D1 ?_|omega|refine Zq rfl rfl rfl rfl (λhg=>?_) (λhg=>?_)|(refine Zm rfl rfl rfl rfl (λhg=>?_) (λhg=>?_)<;>refine D1 ?_)|fail)
 refine DP hS (Znk vs [0,0,0] _ dE) λw9 hT hS=>?_;replace e1:=e1.up hT;rw [show orL [0,0,0]=0 from rfl];refine QD ?_;refine QO ?_;refine CP hS (Z1n _ _ _ _) λw10 hT hS=>?_;replace e1:=e1.up hT;rw [decide_eq_true nR];refine QO ?_;refine CP hS (Z1n _ _ _ _) λw11 hT hS=>?_;rw [decide_eq_true rU];refine RT ?_;exact ⟨rfl,hS⟩
theorem Zf0 (op:BinOp) (x y:Operand) (a b:Fct) (w):(eqGuard op 45 x y (agg a) (agg b)).run Tryz.prog w=.ok () w:=by
 cases op<;>kernel_rfl
theorem ZnW (a b:Fct) (w):(binOp .neq 45 (agg a) (agg b)).run Tryz.prog w=.ok (.B (decide (¬ a=b))) w:=by
 have h1:Program.stoodInHeld Tryz.prog 45=false:=by kernel_rfl
 obtain ⟨i,hi⟩:∃ i,Tryz.prog.info? 3=some i:=by
  have:=(inferInstance:Siz Tryz.prog 3 1).h;cases h:Tryz.prog.info? 3 with
  | none=>rw [h] at this;cases this
  | some i=>exact ⟨i,rfl⟩
 obtain ⟨a1,a2,a3,a4,a5,a6⟩:=a;obtain ⟨b1,b2,b3,b4,b5,b6⟩:=b;simp [agg,Z3.enc,run_neq_struct,run_equalIn_struct,h1,Program.fieldsOf,Tryz.underlying45,Op.eqFields,part,Und.isAgg,Siz.run,Z0C,run_equalIn_int w _ _ .i64 .i64 _ _ Tryz.underlying3,run_equalIn_string w _ _ _ _ Tryz.underlying9];repeat' split
 all_goals simp_all
theorem Z8Z (va vb:Value) (xs ys:List Fct) (w) (ha:SlV [] w va xs) (hb:SlV [] w vb ys) :
 CC 18 #[va,vb] w λr w'=>r=.B (decide (xs=ys))/\Stp [] w w':=by
 have th:=ha.max;have s4:=hb.max;refine cW2 26 Tryz.func18 ?_;refine W ?_;by_cases hl:xs.length=ys.length
 case neg=>
  refine RT ?_;exact ⟨by congr 1;rw [eq_comm,decide_eq_false_iff_not];exact λh=>hl (by rw [h]),Stp.refl _ _⟩
 refine QO ?_;refine LP (σ:=Nat) (λj=>[(0,va),(1,vb),(4,.B false),(5,.I (j:Int))]) (λj w'=>j<=xs.length/\Stp [] w w'/\∀ i (h:i<xs.length),i<j->xs[i]=ys[i]'(by omega)) (λj=>xs.length - j) 0 ⟨Xq _,Stp.refl _ _,λi _ h=>absurd h (Xt _)⟩ ?_;rintro j w2 ⟨hj,hS,cX⟩
 try dsimp only at hj cX ⊢
 replace ha:=ha.up hS;replace hb:=hb.up hS;by_cases hlt:j<xs.length;have eF:j<ys.length:=by omega
 refine QO ?_;refine ZDr 9 [] [] [(0,0),(1,0),(2,0),(3,1),(4,0),(5,0),(6,0),(7,1),(8,0)] (λw1 ae=>?_);replace ha:=ha.up ae;replace hb:=hb.up ae;replace hS:=hS.trans ae;refine D ?_;apply Z2t;exact rfl;refine Zei (c:=xs[j]=ys[j]) trivial rfl rfl (λw=>Zf0 _ _ _ xs[j] ys[j] w) (by intro w;exact ZnW xs[j] ys[j] w) rfl ?_;refine D ?_
 (refine QP ?_ ?_<;>intro hc)
 refine RU ?_;exact ⟨by congr 1;rw [eq_comm,decide_eq_false_iff_not];exact λh=>hc (by simp [h]),hS⟩;have he:xs[j]=ys[j]:=Decidable.byContradiction hc;have hk:∀ i (h:i<xs.length),i<j+1->xs[i]=ys[i]'(by omega):=λi h hi=>by
  by_cases dC:i=j;subst dC;exact he;exact cX i h (by omega)
 exact QL (j+1) ⟨hlt,hS,hk⟩ (XN hlt (XT j));have ea:j=xs.length:=by omega
 subst ea;refine RT ?_;exact ⟨by congr 1;rw [eq_comm,decide_eq_true_eq];exact Yay hl (λi h h'=>cX i h h),hS⟩
theorem Znm (op:BinOp) (x y:Operand) (a b:Rsn) (w):(eqGuard op 67 x y (agg a) (agg b)).run Tryz.prog w=.ok () w:=by
 cases op<;>kernel_rfl
theorem Zw4 (a b:Rsn) (w):(binOp .neq 67 (agg a) (agg b)).run Tryz.prog w=.ok (.B (decide (¬ a=b))) w:=by
 have h1:Program.stoodInHeld Tryz.prog 67=false:=by kernel_rfl
 obtain ⟨i,hi⟩:∃ i,Tryz.prog.info? 3=some i:=by
  have:=(inferInstance:Siz Tryz.prog 3 1).h;cases h:Tryz.prog.info? 3 with
  | none=>rw [h] at this;cases this
  | some i=>exact ⟨i,rfl⟩
 obtain ⟨a1,a2,a3⟩:=a;obtain ⟨b1,b2,b3⟩:=b;simp [agg,Z3.enc,run_neq_struct,run_equalIn_struct,h1,Program.fieldsOf,Tryz.underlying67,Op.eqFields,part,Und.isAgg,Siz.run,Z0C,run_equalIn_int w _ _ .i64 .i64 _ _ Tryz.underlying3];repeat' split
 all_goals simp_all
theorem Z6Z (d:Dln) (ra rb:Value) (w) (ha:SlV [] w ra d.reas) (hb:SlV [] w rb d.reas) :
 CC 25 #[.agg (dlC d ra).toArray,.agg (dlC d rb).toArray] w λr w'=>r=.B true/\Stp [] w w':=by
 have th:=ha.max;refine cW2 66 Tryz.func25 ?_;refine W ?_;refine BX (Stp.refl [] w) λb2 w1 h2 e2 _ hS=>?_;refine BX hS λb3 w2 h3 e3 hT hS=>?_;replace e2:=e2.up hT;replace e2:Blk w2 b2 56 (dlC d ra):=e2;replace e3:Blk w2 b3 56 (dlC d rb):=e3
 (refine QP ?_ ?_<;>intro hg)
 exact absurd rfl hg;refine Z8 (Zl rfl rfl e2 (us:=Z3.enc d.trig) rfl rfl) rfl ?_;refine W ?_;refine Z8 (Zl rfl rfl e3 (us:=Z3.enc d.trig) rfl rfl) rfl ?_;refine W ?_;refine ZlQ (c:=d.trig=d.trig) rfl rfl (λw=>Zf0 _ _ _ d.trig d.trig w) (λw=>ZnW d.trig d.trig w) rfl ?_;rw [decide_eq_false (λh=>h rfl)];refine QO ?_;refine LP (σ:=Nat) (λj=>[(2,pQ b2),(3,pQ b3),(4,.B false),(5,.I (j:Int))]) (λj w'=>j<=d.reas.length/\Stp [] w2 w') (λj=>d.reas.length - j) 0 ⟨Xq _,Stp.refl _ _⟩ ?_;rintro j y ⟨hj,hT⟩;replace e2:=e2.up hT;replace e3:=e3.up hT;have ah:=hS.trans hT;have uh:=ha.up ah;have cu:=hb.up ah;by_cases hlt:j<d.reas.length;refine QO ?_;refine ZDr 11 [] [] [(0,0),(1,1),(2,0),(3,0),(4,1),(5,0),(6,1),(7,0),(8,0),(9,1),(10,0)] (λw1 ae=>?_);replace uh:=uh.up ae;replace cu:=cu.up ae;replace e2:=e2.up ae;replace e3:=e3.up ae;refine QD ?_;apply Z2t;exact rfl;refine Zei (c:=d.reas[j]=d.reas[j]) trivial rfl rfl (λw=>Znm _ _ _ d.reas[j] d.reas[j] w) (by intro w;exact Zw4 d.reas[j] d.reas[j] w) rfl ?_;rw [decide_eq_false (λh=>h rfl)];refine D ?_;refine QO ?_;exact QL (j+1) ⟨hlt,hT.trans ae⟩ (XN hlt (XT j));refine RT ?_;exact ⟨rfl,ah⟩
def Zf1:Str:=[114,117,108,101,32,114,32,102,114,111,109,32,64,50,48,50,54,45,48,49,45,48,49,32,123,32,111,110,32,99,108,97,105,109,59,32,100,117,101,32,100,97,121,32,43,32,50,48,32,100,97,121,115,59,32,117,110,108,101,115,115,32,97,110,115,119,101,114,59,32,101,108,115,101,32,108,97,112,115,101,59,32,125]
def Z3i:RuleM:=⟨[114],739616,[99,108,97,105,109],.mk 2 1 [] [],.mk 7 0 [100,97,121,115] [.mk 4 0 [100,97,121] [],.mk 1 20 [] []],[97,110,115,119,101,114],[108,97,112,115,101]⟩
theorem Znn:Z2W Zf1=.ok [Z3i]:=by kernel_rfl
def Z40:Cr:=⟨[114],739616,[99,108,97,105,109],[⟨2,1⟩,⟨24,0⟩],[⟨4,0⟩,⟨1,20⟩,⟨15,0⟩,⟨24,0⟩],[97,110,115,119,101,114],[108,97,112,115,101]⟩
def z22:Cal:=⟨[false,false,false,false,false,false,false],[],[]⟩
def Zn:Fct:=⟨4,[99,108,97,105,109],739616,1,2,50⟩
def Zw5:Cas:=⟨[Zn],[Z40],[],[],[],z22,0,739630⟩
def Zw6:Cas:=⟨[Zn],[Z40],[],[],[],z22,0,739640⟩
def Zw7:Cas:=⟨[Zn,⟨7,[97,110,115,119,101,114],739636,2,0,0⟩],[Z40],[],[],[],z22,0,739640⟩
def Zw8:Cas:=⟨[Zn],[Z40],[],[],[(739620,739621)],z22,0,739630⟩
def Z4u:Fct:=⟨4,[108,97,112,115,101],739637,2,1,50⟩
def Z0V (due st:Int) (more:List Rsn):Dln:=⟨[114],Zn,2,due,st,[⟨1,4,739616⟩,⟨2,0,0⟩]++more⟩
theorem ZwR:Z1a Zw5=[]:=by decide +kernel
theorem ZwS:Z1a Zw6=[Z4u]:=by decide +kernel
theorem ZwT:Z1a Zw7=[]:=by decide +kernel
theorem ZwU:Z1a Zw8=[]:=by decide +kernel
theorem ZwV:Z0M Zw5=[Z0V 739636 0 []]:=by kernel_rfl
theorem ZwW:Z0M Zw6=[Z0V 739636 2 []]:=by kernel_rfl
theorem ZwX:Z0M Zw7=[Z0V 739636 1 [⟨6,7,739636⟩]]:=by kernel_rfl
theorem ZwY:Z0M Zw8=[Z0V 739638 0 [⟨4,739638,739638⟩,⟨5,739620,739621⟩]]:=by kernel_rfl
theorem Zw9:Zd (.mk 2 1 [] [])=2:=by
 rw [Zd];decide +kernel
theorem Zwa:Zd (.mk 7 0 [100,97,121,115] [.mk 4 0 [100,97,121] [],.mk 1 20 [] []])=3:=by
 rw [Zd,Xy,Xy,XR,Zd,Zd];decide +kernel
theorem Zwb:Zy (.mk 2 1 [] [])=1:=by
 rw [Zy];decide +kernel
theorem Zwc:Zy (.mk 7 0 [100,97,121,115] [.mk 4 0 [100,97,121] [],.mk 1 20 [] []])=2:=by
 rw [Zy,Xy,Xy,XR,Zy,Zy];decide +kernel
theorem ZnX:ZU (.mk 2 1 [] [])=[⟨2,1⟩,⟨24,0⟩]:=by
 rw [ZU,Zc];decide +kernel
theorem Zkt (k n:Int) (s:Str) (l:List Nd):Zc (.mk k n s l)=Z18 k n s (l.map Zc):=by rw [Zc]
theorem ZnY:ZU (.mk 7 0 [100,97,121,115] [.mk 4 0 [100,97,121] [],.mk 1 20 [] []])=[⟨4,0⟩,⟨1,20⟩,⟨15,0⟩,⟨24,0⟩]:=by
 rw [ZU,Zc,Xy,Xy,XR];simp only [Zkt];decide +kernel
theorem Ze2:Z0w Z3i.rul=0:=by
 have c1:Z3i.rul.cnd=.mk 2 1 [] []:=rfl;have c2:Z3i.rul.due=.mk 7 0 [100,97,121,115] [.mk 4 0 [100,97,121] [],.mk 1 20 [] []]:=rfl;have c3:Jf Z3i.rul=true:=by decide +kernel
 have c4:¬ (Z3i.rul.frm<0\/Z3i.rul.frm > 3652058):=by decide +kernel
 unfold Z0w Z0R;rw [c1,c2,c3];simp only [Z1S,Z0z,Zw9,Zwa,Zwb,Zwc,ZnX,ZnY,if_neg c4];decide +kernel
theorem ZnZ:crF Z3i.rul=Z40:=by
 unfold crF;rw [if_pos Ze2];have c1:Z3i.rul.cnd=.mk 2 1 [] []:=rfl;have c2:Z3i.rul.due=.mk 7 0 [100,97,121,115] [.mk 4 0 [100,97,121] [],.mk 1 20 [] []]:=rfl;rw [c1,c2,ZnX,ZnY];rfl
theorem Zo0:ZcA Z40=0:=ZnZ ▸ (ZcB Z3i.rul Ze2).2
def lxV:Lx->Value
 | .err c=>.tuple #[aG (⟨0,0,[],0⟩:Tkn),.I c]
 | .ok t=>.tuple #[aG t,.I 0]
theorem tk0 (w):(Instr.build 183 #[]).run Tryz.prog w=.ok (aG (⟨0,0,[],0⟩:Tkn)) w:=by kernel_rfl
theorem tk2 (k:Int) (s:Str) (w):(Instr.build 183 #[(0,.I k),(2,str s)]).run Tryz.prog w=.ok (aG (⟨k,0,s,0⟩:Tkn)) w:=by kernel_rfl
theorem tk3 (k n:Int) (s:Str) (w):(Instr.build 183 #[(0,.I k),(2,str s),(3,.I n)]).run Tryz.prog w=.ok (aG (⟨k,0,s,n⟩:Tkn)) w:=by kernel_rfl
theorem tk1 (k n:Int) (w):(Instr.build 183 #[(0,.I k),(1,.I n)]).run Tryz.prog w=.ok (aG (⟨k,n,[],0⟩:Tkn)) w:=by kernel_rfl
theorem ZsK {s:Str} {a b:UInt8} (h:s.take 2=[a,b]):2<=s.length:=by
 have:=congrArg List.length h;simp at this;omega
theorem Z8A (s:Str) (w) (aU:s≠[]):CC 215 #[str s] w λr w'=>r=lxV (Z05 s)/\Stp [] w w':=by
 have hl:s.length≠0:=λh=>aU (Xv.1 h);have cF:Jb s 0=((s.getD 0 0).toNat:Int):=rfl;refine cW1 22 Tryz.func215 ?_;refine W ?_;refine Z0 Z2 rfl ?_;rintro _ w1 ⟨b2,rfl,cu,e2,hS⟩;refine W ?_;refine CL (Z2q s 60 61 _) ?_;rintro _ wv ⟨rfl,jh⟩;subst wv;by_cases a1:s.take 2=[60,61]
 have h2:=ZsK a1;have hv:Z05 s=.ok ⟨4,0,s.take 2,0⟩:=by unfold Z05;rw [if_pos (.inl a1)]
 rw [decide_eq_true a1];refine W ?_;refine Z0m (r:=2) rfl rfl rfl (by omega) rfl ?_;refine Z7 (vs:=[(0,.I 4),(2,str (s.take 2))]) rfl (tk2 _ _) rfl ?_;refine SA (us:=Z3.enc (⟨4,0,s.take 2,0⟩:Tkn)) e2 ?_;rintro _ wz ⟨hT,e2'⟩;refine W ?_;refine Zj rfl rfl rfl e2' rfl rfl ?_;exact .mk ⟨by rw [hv];rfl,hS.ow hT⟩;rw [decide_eq_false a1];refine W ?_;refine CL (Z2q s 33 61 _) ?_;rintro _ wv ⟨rfl,jh⟩;subst wv;by_cases a2:s.take 2=[33,61]
 have h2:=ZsK a2;have hv:Z05 s=.ok ⟨4,0,s.take 2,0⟩:=by unfold Z05;rw [if_pos (.inr (.inl a2))]
 rw [decide_eq_true a2];refine W ?_;refine Z0m (r:=2) rfl rfl rfl (by omega) rfl ?_;refine Z7 (vs:=[(0,.I 4),(2,str (s.take 2))]) rfl (tk2 _ _) rfl ?_;refine SA (us:=Z3.enc (⟨4,0,s.take 2,0⟩:Tkn)) e2 ?_;rintro _ wz ⟨hT,e2'⟩;refine W ?_;refine Zj rfl rfl rfl e2' rfl rfl ?_;exact .mk ⟨by rw [hv];rfl,hS.ow hT⟩;rw [decide_eq_false a2];refine W ?_;refine CL (Z2q s 62 61 _) ?_;rintro _ wv ⟨rfl,jh⟩;subst wv;by_cases a3:s.take 2=[62,61]
 have h2:=ZsK a3;have hv:Z05 s=.ok ⟨4,0,s.take 2,0⟩:=by unfold Z05;rw [if_pos (.inr (.inr a3))]
 rw [decide_eq_true a3];refine W ?_;refine Z0m (r:=2) rfl rfl rfl (by omega) rfl ?_;refine Z7 (vs:=[(0,.I 4),(2,str (s.take 2))]) rfl (tk2 _ _) rfl ?_;refine SA (us:=Z3.enc (⟨4,0,s.take 2,0⟩:Tkn)) e2 ?_;rintro _ wz ⟨hT,e2'⟩;refine W ?_;refine Zj rfl rfl rfl e2' rfl rfl ?_;exact .mk ⟨by rw [hv];rfl,hS.ow hT⟩;rw [decide_eq_false a3];have bo:¬ (s.take 2=[60,61]\/s.take 2=[33,61]\/s.take 2=[62,61]):=by
  rintro (h|h|h);exact a1 h;exact a2 h;exact a3 h
 refine QO ?_;refine J5 (i:=0) rfl rfl rfl (by omega) rfl ?_;repeat'(first|refine W1 ?_|omega|refine VG ?_ ?_<;>intro hg|refine VC ?_ ?_<;>intro hc)
 rw [cF];refine CL (Z6J Zbx (s.getD 0 0) _) ?_;rintro _ wv ⟨rfl,jh⟩;subst wv;have sg:=Z7U Zbx (s.getD 0 0);rw [decide_eq_decide] at sg;by_cases a4:s.getD 0 0∈Zbx;have hv:Z05 s=.ok ⟨4,0,s.take 1,0⟩:=by unfold Z05;rw [if_neg bo,if_pos a4]
 have h0:=sg.2 a4;refine QO ?_;refine W ?_;refine Z0m (r:=1) rfl rfl rfl (by omega) rfl ?_;refine Z7 (vs:=[(0,.I 4),(2,str (s.take 1))]) rfl (tk2 _ _) rfl ?_;refine SA (us:=Z3.enc (⟨4,0,s.take 1,0⟩:Tkn)) e2 ?_;rintro _ wz ⟨hT,e2'⟩;refine W ?_;refine Zj rfl rfl rfl e2' rfl rfl ?_;exact .mk ⟨by rw [hv];rfl,hS.ow hT⟩;have hv:Z05 s=.err 20:=by unfold Z05;rw [if_neg bo,if_neg a4]
 have h0:¬ 0<=Lib.indexByte Zbx (s.getD 0 0):=λh=>a4 (sg.1 h);refine QO ?_;refine Z7 (vs:=[]) rfl tk0 rfl ?_;refine SA (us:=Z3.enc (⟨0,0,[],0⟩:Tkn)) e2 ?_;rintro _ wz ⟨hT,e2'⟩;refine W ?_;refine Zj rfl rfl rfl e2' rfl rfl ?_;exact .mk ⟨by rw [hv];rfl,hS.ow hT⟩
theorem Z9N (s:Str) (w) (hl:s.length<=1000000):CC 220 #[str s] w λr w'=>r=lxV (Z5k s)/\Stp [] w w':=by
 have cQ:(s.takeWhile ldB).length<=s.length:=by
  have:=congrArg List.length (JV (p:=ldB) s);simp at this;omega
 refine cW1 14 Tryz.func220 ?_;refine W ?_;refine Z0 Z2 rfl ?_;rintro _ w1 ⟨b2,rfl,cu,e2,hS⟩;refine W ?_;refine CL (Z65 (λn=>Zah n || Z64 n) Zsl s _ hl) ?_;rintro _ w2 ⟨rfl,hT⟩;rw [ZiP];replace e2:=e2.up hT;replace hS:=hS.trans hT;clear hT;by_cases mb:12<(s.takeWhile ldB).length;have hv:Z5k s=.err 2:=by unfold Z5k;simp only;rw [if_pos mb]
 refine QO ?_;refine Z7 (vs:=[]) rfl tk0 rfl ?_;refine SA (us:=Z3.enc (⟨0,0,[],0⟩:Tkn)) e2 ?_;rintro _ wz ⟨hT,e2'⟩;refine W ?_;refine Zj rfl rfl rfl e2' rfl rfl ?_;exact .mk ⟨by rw [hv];rfl,hS.ow hT⟩;have hv:Z5k s=.ok ⟨1,0,s.take (s.takeWhile ldB).length,0⟩:=by unfold Z5k;simp only;rw [if_neg mb]
 generalize (s.takeWhile ldB).length=q at *;refine QO ?_;refine Z0m (r:=q) rfl rfl rfl cQ rfl ?_;refine Z7 (vs:=[(0,.I 1),(2,str (s.take q))]) rfl (tk2 _ _) rfl ?_;refine SA (us:=Z3.enc (⟨1,0,s.take q,0⟩:Tkn)) e2 ?_;rintro _ wz ⟨hT,e2'⟩;refine W ?_;refine Zj rfl rfl rfl e2' rfl rfl ?_;exact .mk ⟨by rw [hv];rfl,hS.ow hT⟩
theorem Zwd {P:Program} {n:Nat} {Q:Exit->Act->World->Prop} {e:Env} {w} {ops:Array Oper} {rest:List Oper} {ak:Nat} {ty:TypeId} {pos:String} {af:Array Edge} {t u p:Nat} {x y:Operand} {v:Value} {ds:TypeDesc} [hu:Und P t ds] (si:∃ l,ds=.interface l) (hx:ev e x=some (.iface p v)) (hy:ev e y=some .nilIface) (aw:Nat.blt ak n=true) (kk:WL P n ops Q rest ((ak,.B true) :: e) w) :
 WL P n ops Q (⟨some ak,.binOp .neq t x y u,ty,pos,af,none⟩ :: rest) e w:=by
 refine Z8 (v:=.B true) ⟨λa ha=>?_⟩ aw kk;obtain ⟨l,rfl⟩:=si;simp only [execOp,ha.ev hx,ha.ev hy];have:=run_equal_held_nil (P:=P) (w:=w) t p v (by rw [hu.h,Program.methodsAt,hu.h]);simp [go_sem,binOp,this]
theorem Zo1 {P:Program} {n:Nat} {Q:Exit->Act->World->Prop} {e:Env} {w} {ops:Array Oper} {rest:List Oper} {ak:Nat} {ty:TypeId} {pos:String} {af:Array Edge} {t u:Nat} {x:Operand} {ds:TypeDesc} [hu:Und P t ds] (si:∃ l,ds=.interface l) (hx:ev e x=some .nilIface) (aw:Nat.blt ak n=true) (kk:WL P n ops Q rest ((ak,.B false) :: e) w) :
 WL P n ops Q (⟨some ak,.binOp .neq t x (.const .nilIface) u,ty,pos,af,none⟩ :: rest) e w:=by
 refine Z8 (v:=.B false) ⟨λa ha=>?_⟩ aw kk;obtain ⟨l,rfl⟩:=si;have hy:a.eval (.const .nilIface)=.nilIface:=rfl;simp only [execOp,ha.ev hx,hy];have:=run_equal_nil_nil (P:=P) (w:=w) t (by rw [hu.h,Program.methodsAt,hu.h]);simp [go_sem,binOp,eqGuard,this]
theorem ZgH (w) (el:TypeId) (t:ByteArray):Stp [] w (Lib.bytesWorld w el t):=by
 refine ⟨rfl,rfl,rfl,?_,λb hb _=>Lib.bytesWorld_at_old w el _ b hb⟩;rw [Lib.bytesWorld_size];omega
theorem ZgI (t:Str) (ev:Value) (w:World) (ht:t.all J3=true) (aU:t≠[]) (hl:t.length<=1000000) (eV:w.cell? ⟨8,0,none⟩=some ev) (bR:ev=.nilIface\/∃ te pe,ev=.iface te pe) :
 CC 276 #[str t] w λr w'=>(if Z1A t<=9223372036854775807 then r=.tuple #[.I (Z1A t:Int),.nilIface] else ∃ z p v,r=.tuple #[.I z,.iface p v])/\Stp [] w w':=by
 have ha:=ZbB aU ht;by_cases h:Z1A t<=9223372036854775807;rw [if_pos h] at ha;refine (Tryz.strconv_Atoi_ok ⟨t.toArray⟩ (by rw [Z0l];omega) (Z1A t:Int) (by simpa using ha) w).mono ?_;rintro e w' ⟨rfl,hw⟩;refine .mk ⟨by rw [if_pos h],?_⟩;rcases hw with rfl|⟨x,rfl⟩
 exact Stp.refl _ _;exact ZgH _ _ _;rw [if_neg h] at ha;refine (Tryz.strconv_Atoi_range ⟨t.toArray⟩ (by rw [Z0l];omega) (by simpa using ha) ev w eV bR).mono ?_;rintro e w' ⟨N,rfl,_,_,hw⟩;exact .mk ⟨by rw [if_neg h];exact ⟨_,_,_,rfl⟩,Stp.of_below hw⟩
theorem Z70 (s:Str) (ev:Value) (w:World) (hl:s.length<=1000000) (hd:J3 (s.getD 0 0)=true) (aU:s≠[]) (eV:w.cell? ⟨8,0,none⟩=some ev) (bR:ev=.nilIface\/∃ te pe,ev=.iface te pe):CC 222 #[str s] w λr w'=>r=lxV (Z4d s)/\Stp [] w w':=by
 have cQ:(s.takeWhile J3).length<=s.length:=by
  have:=congrArg List.length (JV (p:=J3) s);simp at this;omega
 have aA:(s.takeWhile J3).all J3=true:=XZ.2 λc hc=>Z0H hc;have fE:=JV (p:=J3) s;have aW:s.takeWhile J3≠[]:=by
  cases s with
  | nil=>exact absurd rfl aU
  | cons a r=>simp only [XY] at hd;simp [hd]
 have qQ:(s.takeWhile J3).length≠0:=λh=>aW (Xv.1 h);have nX:Z4d s=if 1<(s.takeWhile J3).length/\(s.takeWhile J3).getD 0 0=48 then .err 20 else if 2147483647<Z1A (s.takeWhile J3) then .err 5 else .ok ⟨2,0,s.takeWhile J3,Z1A (s.takeWhile J3)⟩:=rfl
 rw [nX];have gC:=Zfq s;refine cW1 35 Tryz.func222 ?_;refine W ?_;refine Z0 Z2 rfl ?_;rintro _ w1 ⟨b2,rfl,cu,e2,hS⟩;refine W ?_;refine CL (Z65 Z64 Z4e s _ hl) ?_;rintro _ w2 ⟨rfl,hT⟩;rw [gC];replace e2:=e2.up hT;replace hS:=hS.trans hT;clear hT;refine Z0m (r:=(s.takeWhile J3).length) rfl rfl rfl cQ rfl ?_;rw [fE];have dR:(s.takeWhile J3).length<=1000000:=Xg cQ hl;clear nX fE cQ gC;generalize s.takeWhile J3=t at *;have cF:Jb t 0=((t.getD 0 0).toNat:Int):=rfl;have sj:Jb t 0=48↔t.getD 0 0=48:=by
  rw [cF];constructor;intro h;have sj:(48:UInt8).toNat=48:=rfl;exact UInt8.toNat_inj.1 (by omega);intro h;rw [h];rfl
 by_cases hz:1<t.length/\t.getD 0 0=48;rw [if_pos hz];have fK:=hz.1;have kP:=sj.2 hz.2;refine QO ?_;refine J5 (i:=0) rfl rfl rfl (by omega) rfl ?_;refine QO ?_;refine Z7 (vs:=[]) rfl tk0 rfl ?_;refine SA (us:=Z3.enc (⟨0,0,[],0⟩:Tkn)) e2 ?_;rintro _ wz ⟨hT,e2'⟩;refine W ?_;refine Zj rfl rfl rfl e2' rfl rfl ?_;exact .mk ⟨rfl,hS.ow hT⟩;rw [if_neg hz];refine W ?_;refine Z5n (σ:=Unit) (λ_=>[(0,str s),(2,pQ b2),(4,str t),(18,.B false)]) (λ_ w'=>w'=w2) ?_ ?_;by_cases h1:1<t.length;have h0:¬ Jb t 0=48:=λh=>hz ⟨h1,sj.1 h⟩;refine QO ?_;refine J5 (i:=0) rfl rfl rfl (by omega) rfl ?_;refine QO ?_;rw [decide_eq_false h0];exact QT () rfl;refine QO ?_;exact QT () rfl;rintro _ wv jh;subst wv;refine W ?_;refine CM (ZN rfl) (ZgI t ev _ aA aW dR (hS.cell (by simp) eV) bR) ?_;rintro _ w3 ⟨hr,hT⟩;replace e2:=e2.up hT;replace hS:=hS.trans hT;clear hT;by_cases aT:Z1A t<=9223372036854775807;rw [if_pos aT] at hr;subst hr;refine W ?_;refine Zo1 ⟨_,rfl⟩ rfl rfl ?_;by_cases oc:2147483647<Z1A t;rw [if_pos oc];refine QO ?_;refine Z7 (vs:=[]) rfl tk0 rfl ?_;refine SA (us:=Z3.enc (⟨0,0,[],0⟩:Tkn)) e2 ?_;rintro _ wz ⟨hT,e2'⟩;refine W ?_;refine Zj rfl rfl rfl e2' rfl rfl ?_;exact .mk ⟨rfl,hS.ow hT⟩;rw [if_neg oc];refine QO ?_;refine Z7 (vs:=[(0,.I 2),(2,str t),(3,.I (Z1A t:Int))]) rfl (tk3 _ _ _) rfl ?_;refine SA (us:=Z3.enc (⟨2,0,t,Z1A t⟩:Tkn)) e2 ?_;rintro _ wz ⟨hT,e2'⟩;refine W ?_;refine Zj rfl rfl rfl e2' rfl rfl ?_;exact .mk ⟨rfl,hS.ow hT⟩;rw [if_neg aT] at hr;obtain ⟨z,p,v,rfl⟩:=hr;rw [if_pos (by omega)];refine W ?_;refine Zwd ⟨_,rfl⟩ rfl rfl rfl ?_;refine QO ?_;refine Z7 (vs:=[]) rfl tk0 rfl ?_;refine SA (us:=Z3.enc (⟨0,0,[],0⟩:Tkn)) e2 ?_;rintro _ wz ⟨hT,e2'⟩;refine W ?_;refine Zj rfl rfl rfl e2' rfl rfl ?_;exact .mk ⟨rfl,hS.ow hT⟩
theorem Z71 {z:Int} (h0:0<=z) (h1:z<2147483648):IntKind.i32.wrap z=z:=by
 rw [IntKind.wrap_i32];omega
theorem Zno:∀ i,i<Jd.length->(Jd.getD i 0).toNat<128:=by decide
theorem Znp {s:Str} (h:11<=s.length) (hf:∀ j,j<11->Z5l (Jd.getD j 0) (s.getD j 0)=true):((Jd.zip s).all λp=>Z5l p.1 p.2)=true:=by
 rw [XZ];intro p hp;obtain ⟨i,hi,rfl⟩:=Xr hp;have h1:i<11:=by
  have:Jd.length=11:=rfl;simp at hi;omega
 have:=hf i h1;rw [List.getElem_zip];have e1:Jd.getD i 0=Jd[i]'(by show i<11;omega):=by
  have:i<Jd.length:=h1;simp [List.getD,this]
 have e2:s.getD i 0=s[i]'(by omega):=by
  have:i<s.length:=by omega
  simp [List.getD,this]
 rw [e1,e2] at this;exact this
theorem Z9O {s:Str} {j:Nat} (h:11<=s.length) (hj:j<11) (hf:Z5l (Jd.getD j 0) (s.getD j 0)=false):((Jd.zip s).all λp=>Z5l p.1 p.2)=false:=by
 cases hb:((Jd.zip s).all λp=>Z5l p.1 p.2) with
 | false=>rfl
 | true=>
   rw [XZ] at hb;have hl:j<(Jd.zip s).length:=by
    have:Jd.length=11:=rfl;simp;omega
   have:=hb _ (Xd hl);rw [List.getElem_zip] at this;have e1:Jd.getD j 0=Jd[j]'(by show j<11;omega):=by
    have:j<Jd.length:=hj;simp [List.getD,this]
   have e2:s.getD j 0=s[j]'(by omega):=by
    have:j<s.length:=by omega
    simp [List.getD,this]
   rw [e1,e2] at hf;rw [hf] at this;cases this
theorem Zf2 (s:Str) (w) (cY:Z0A w) (hl:s.length<=1000000):CC 223 #[str s] w λr w'=>r=lxV (Zag s)/\Stp [] w w':=by
 have yE:3<w.heap.size:=by have:=block_lt_of_cell (cY 0 0 rfl);simpa using this
 refine cW1 52 Tryz.func223 ?_;refine W ?_;refine Z0 Z2 rfl ?_;rintro _ w1 ⟨b2,rfl,cu,e2,hS⟩;by_cases lV:s.length<11;have hv:Zag s=.err 20:=by unfold Zag;rw [if_pos lV]
 rw [hv];refine QO ?_;refine Z7 (vs:=[]) rfl tk0 rfl ?_;refine SA (us:=Z3.enc (⟨0,0,[],0⟩:Tkn)) e2 ?_;rintro _ wz ⟨hT,e2'⟩;refine W ?_;refine Zj rfl rfl rfl e2' rfl rfl ?_;exact .mk ⟨rfl,hS.ow hT⟩
 . have ly:Zag s=if ((Jd.zip s).all λp=>Z5l p.1 p.2) then (let d:=Z1w ((s.take 11).drop 1);if d.2=0 then .ok ⟨3,0,s.take 11,d.1⟩ else .err 5) else .err 20:=by unfold Zag;rw [if_neg lV]
   rw [ly];replace cY:=cY.up hS;refine QO ?_;refine Z0 (Zbv (s:=Jd) rfl) rfl ?_;rintro _ w2 ⟨bi,rfl,oJ,hI,hT⟩;have xp:w.heap.size<=bi:=Xg hS.size oJ;have ni2:b2≠bi:=by have:=e2.lt;omega
   have xq:(3:Nat)≠bi:=by omega
   replace e2:=e2.up hT;replace cY:=cY.up hT;replace hS:=hS.trans hT;clear hT;refine W ?_
   refine Zr (σ:=Nat) (λq=>[(0,str s),(2,pQ b2),(13,pQ bi)])
    (λq w'=>q<=11/\Itr w' bi Jd q/\(∀ j,j<q->Z5l (Jd.getD j 0) (s.getD j 0)=true)/\(∃ cs:List Value,cs.length=4/\Blk w' b2 183 cs)/\Z0A w'/\Stp [] w w')
    (λq=>11 - q) 0 ⟨rfl,rfl,rfl,trivial⟩ ⟨Xq _,hI,λj h=>absurd h (Xt _),⟨_,rfl,e2⟩,cY,hS⟩ ?_
   clear hI e2 cY hS;rintro q w3 ⟨hq,hI,cZ,⟨cs2,cq,e2⟩,cY,hS⟩
   match cs2,cq with
   | [q0,q1,q2,q3],_=>
   have dS:Jd.length=11:=rfl;by_cases hlt:q<11;have hqf:q<Jd.length:=by omega
   have nA:=Zno q hqf;have lu:dec Jd q=((Jd.getD q 0).toNat,1):=by
    have e1:Jd.getD q 0=Jd[q]'hqf:=by simp [List.getD,hqf]
    rw [e1] at nA ⊢;exact Z4c hqf nA
   refine W ?_;refine Z0 (Zep rfl hI hqf) rfl ?_;rintro _ w4 ⟨rfl,po,hT⟩;rw [lu] at po ⊢;dsimp only at po ⊢;replace e2:=e2.ext hT (by simpa using ni2);replace cY:=cY.ext hT (by simpa using xq);replace hS:=hS.ow hT;clear hT hI;have lM:=Z7s s q;refine QO ?_;refine Z8 (Z4g (b:=Jb s q) rfl (Z71 lM.1 (by omega))) rfl ?_;have lJ:Jb s q=((s.getD q 0).toNat:Int):=rfl;by_cases gw:Jd.getD q 0=100;rw [gw];have jf:(((100:UInt8).toNat:Nat):Int)=100:=rfl;rw [jf];have od:Z5l (Jd.getD q 0) (s.getD q 0)=J3 (s.getD q 0):=by unfold Z5l;rw [if_pos gw]
   refine QO ?_;rw [lJ];refine Z0 (Z4 rfl (ZN rfl) (Z4e (s.getD q 0).toNat _)) rfl ?_;rintro _ wv ⟨rfl,jh⟩;subst wv;have iO:Z64 (s.getD q 0).toNat=J3 (s.getD q 0):=rfl;rw [iO];cases hd:J3 (s.getD q 0);have hz:=Z9O (s:=s) (by omega) hlt (by rw [od];exact hd);rw [if_neg (by rw [hz];decide)];refine QO ?_;refine Z7 (vs:=[]) rfl tk0 rfl ?_;refine SA (us:=Z3.enc (⟨0,0,[],0⟩:Tkn)) e2 ?_;rintro _ wz ⟨hT,e2'⟩;refine W ?_;refine Zj rfl rfl rfl e2' rfl rfl ?_;exact .mk ⟨rfl,hS.ow hT⟩;refine QO ?_;refine QL (q+1) ⟨hlt,po,λj hj=>?_,⟨_,rfl,e2⟩,cY,hS⟩ (by omega);rcases Yat j q with h|h
   exact cZ j h;obtain rfl:j=q:=by omega
   rw [od];exact hd;have aU:¬ ((Jd.getD q 0).toNat:Int)=100:=λh=>gw (by
    have jf:(100:UInt8).toNat=100:=rfl;exact UInt8.toNat_inj.1 (by omega))
   have od:Z5l (Jd.getD q 0) (s.getD q 0)=decide (s.getD q 0=Jd.getD q 0):=by unfold Z5l;rw [if_neg gw]
   have cX:Jb s q=((Jd.getD q 0).toNat:Int)↔s.getD q 0=Jd.getD q 0:=by
    rw [lJ];constructor;intro h;exact UInt8.toNat_inj.1 (by omega);intro h;rw [h]
   by_cases hx:Jb s q=((Jd.getD q 0).toNat:Int)
   refine QO ?_;refine QL (q+1) ⟨hlt,po,λj hj=>?_,⟨_,rfl,e2⟩,cY,hS⟩ (by omega);rcases Yat j q with h|h
   exact cZ j h;obtain rfl:j=q:=by omega
   rw [od];exact decide_eq_true (cX.1 hx);have hz:=Z9O (s:=s) (by omega) hlt (by rw [od];exact decide_eq_false (λh=>hx (cX.2 h)));rw [if_neg (by rw [hz];decide)];refine QO ?_;refine Z7 (vs:=[]) rfl tk0 rfl ?_;refine SA (us:=Z3.enc (⟨0,0,[],0⟩:Tkn)) e2 ?_;rintro _ wz ⟨hT,e2'⟩;refine W ?_;refine Zj rfl rfl rfl e2' rfl rfl ?_;exact .mk ⟨rfl,hS.ow hT⟩;have sm:q=11:=by omega
   subst sm;have hz:=Znp (s:=s) (by omega) cZ;rw [if_pos hz];refine W ?_;refine Z0 (Z7I rfl hI (by omega)) rfl ?_;rintro _ wv ⟨rfl,jh⟩;subst wv;refine W ?_;refine Z5b (l:=1) (r:=11) rfl rfl rfl rfl rfl (by omega) (by omega) rfl ?_;refine Z0 (Z4 rfl (ZN rfl) (Zdr _ _ cY (by simp;omega))) rfl ?_;rintro _ w5 ⟨rfl,hT⟩;replace e2:=e2.up hT;replace hS:=hS.trans hT;clear hT;dsimp only;by_cases h0:(Z1w ((s.take 11).drop 1)).2=0;rw [if_pos h0];refine QO ?_;refine Z0m (r:=11) rfl rfl rfl (by omega) rfl ?_;refine W ?_;refine Z7 (vs:=[(0,.I 3),(2,str (s.take 11)),(3,.I (Z1w ((s.take 11).drop 1)).1)]) rfl (tk3 _ _ _) rfl ?_;refine Z6 (Zi (us:=Z3.enc (⟨3,0,s.take 11,(Z1w ((s.take 11).drop 1)).1⟩:Tkn)) rfl rfl rfl rfl (Z3.one _) e2 rfl) ?_;rintro _ wz ⟨hT,e2'⟩;refine W ?_;refine Zj rfl rfl rfl e2' rfl rfl ?_;exact .mk ⟨rfl,hS.ow hT⟩;rw [if_neg h0];refine QO ?_;refine Z7 (vs:=[]) rfl tk0 rfl ?_;refine SA (us:=Z3.enc (⟨0,0,[],0⟩:Tkn)) e2 ?_;rintro _ wz ⟨hT,e2'⟩;refine W ?_;refine Zj rfl rfl rfl e2' rfl rfl ?_;exact .mk ⟨rfl,hS.ow hT⟩
end Go.Proofs.YtipfkbkkndacjaaGreatDoor
namespace Go.Eng
open Go Go.RowKit Go.Proofs
theorem Z2G {s:Str} {e:Int} (h:Z15 s=.err e):e≠0:=by
 unfold Z15 at h;simp only at h;split at h;unfold Z5k at h;simp only at h;split at h<;>simp at h;omega;split at h;unfold Z4d at h;simp only at h;split at h;simp at h;omega;split at h<;>simp at h;omega;split at h;unfold Zag at h;split at h;simp at h;omega;split at h;simp only at h;split at h<;>simp at h;omega;simp at h;omega;unfold Z05 at h;split at h;simp at h;split at h<;>simp at h;omega
theorem Znq {s:Str} (h:s.getD 0 0=35):1<=nlM s:=by
 cases s with
 | nil=>simp at h
 | cons a r=>
   simp only [XY] at h;subst h;unfold nlM;have h0:0<(35 :: r:Str).length:=by simp
   have hl:(35 :: r:Str).length=r.length+1:=by simp
   rw [hl];unfold JN;rw [if_pos h0,Z4c h0 (by show (35:UInt8).toNat<128;decide)];simp only;have hn:Z7J ((35 :: r:Str)[0]).toNat=true:=by show Z7J (35:UInt8).toNat=true;decide
   rw [if_pos hn];exact Z9d _ _ _ _ (by simp)
end Go.Eng
namespace Go.Proofs.YtipfkbkkndacjaaGreatDoor
open Go Go.Eng Go.RowKit Go.Proofs
theorem Z41 (t:Tkn) (w):(Instr.buildSlice 184 1 #[(0,aG t)]).run Tryz.prog w=.ok (.slice (some ⟨w.heap.size,0,none⟩) 1 1) (w.alloc (.cells (Z3.enc t).toArray 183)):=by kernel_rfl
def TkV (w w':World) (r:Value):Tks->Prop
 | .err a c=>r=.tuple #[.N,.I a,.I c]
 | .ok l=>∃ tv,r=.tuple #[tv,.I 0,.I 0]/\ZE 183 w w' tv l
theorem Ze3 (s:Str) (ev:Value) (w) (cY:Z0A w) (eV:w.cell? ⟨8,0,none⟩=some ev) (bR:ev=.nilIface\/∃ te pe,ev=.iface te pe) (hl:s.length<=1000000) :
 CC 157 #[str s] w λr w'=>TkV w w' r (Z0t s)/\Stp [] w w':=by
 unfold Z0t;refine cW1 72 Tryz.func157 ?_;refine W ?_;refine Z7S ?_;by_cases h4:4000<s.length
 . rw [if_pos h4]
   refine QO ?_
   repeat (first|refine JO ?_|refine W1 ?_)
   refine RU ?_;exact ⟨rfl,Stp.refl _ _⟩
 rw [if_neg h4];generalize hR:Z0s nlM s (s.length+1) 0 []=R;refine QO ?_;refine Zj1 ?_;refine QO ?_
 refine Zr (σ:=Nat×Nat×List Tkn×Value) (λq=>[(0,str s),(5,q.2.2.2),(6,.I (q.2.1:Int))])
  (λq w'=>Z0s nlM s q.1 q.2.1 q.2.2.1=R/\s.length<q.2.1+q.1/\q.2.1<=s.length/\q.2.2.1.length<=q.2.1/\ZE 183 w w' q.2.2.2 q.2.2.1)
  (λq=>q.1) (s.length+1,0,[],.N) ⟨rfl,rfl,rfl,trivial⟩ ⟨hR,by dsimp only;omega,Xq _,Xn _,ZE.nil⟩ ?_
 clear hR;rintro ⟨f,q,l,lv⟩ w1 ⟨hR,hf,hq,jO,ab⟩;dsimp only at hR hf hq jO ab ⊢;have dq:=ab;cases f with
 | zero=>omega
 | succ f=>
 simp only [Z0s] at hR;by_cases hlt:q<s.length
 rotate_left
 . rw [if_neg hlt] at hR
   subst hR;refine QO ?_;refine Z7 (vs:=[(0,.I 0),(1,.I (q:Int))]) rfl (tk1 _ _) rfl ?_;refine Z0 (Z1 (vs:=[(0,.agg (Z3.enc (⟨0,(q:Int),[],0⟩:Tkn)).toArray)]) rfl (Z41 _)) rfl ?_;intro bv w3 hN;have an:SlV (ob lv) w3 bv [(⟨0,(q:Int),[],0⟩:Tkn)]:=hN.slv (λb hb=>(ab.ob_le b hb).2) rfl rfl (by simp [maxLen]);replace ab:=ab.up (Z9.stp hN);clear hN;refine Z0 (Jy rfl (by decide) rfl rfl ab an (by simp only [Xe,Xf];omega) (by simp only [Xe,Xf,maxLen];omega)) rfl ?_;rintro lv' w4 ⟨aC,hT,cb⟩;refine QO ?_
   repeat (first|refine JO ?_|refine W1 ?_)
   refine RU ?_;exact ⟨⟨lv',rfl,aC⟩,aC.2⟩
 rw [if_pos hlt] at hR;have aU:s.drop q≠[]:=λh=>by have:=congrArg List.length h;simp at this;omega
 have jI:(s.drop q).length≠0:=λh=>aU (Xv.1 h);have fX:(s.drop q).length<=1000000:=by simp;omega
 have jB:=cY.up ab.2;have jC:=ab.2.cell (by simp) eV;refine QO ?_;refine Zb9 (l:=q) rfl rfl rfl (by omega) rfl ?_;refine QO ?_;have lJ:Jb (s.drop q) 0=(((s.drop q).getD 0 0).toNat:Int):=rfl;have lM:=Z7s (s.drop q) 0;refine J5 (i:=0) rfl rfl rfl (by omega) rfl ?_;refine Z8 (Z4g (b:=Jb (s.drop q) 0) rfl (Z71 lM.1 (by omega))) rfl ?_;rw [lJ];refine QO ?_;refine CL (Zal ((s.drop q).getD 0 0) _) ?_;rintro _ w2 ⟨rfl,hT⟩;replace ab:=ab.up hT;replace jB:=jB.up hT;replace jC:=hT.cell (by simp) jC;have dq:=ab;clear hT;cases bB:Z63 ((s.drop q).getD 0 0)
 rotate_left
 . rw [if_pos bB] at hR
   refine QO ?_
   repeat (first|refine JW ?_|refine W1 ?_)
   exact QL (f,q+1,l,lv) ⟨hR,by dsimp only;omega,by dsimp only;omega,by dsimp only;omega,ab⟩ (by dsimp only;omega)
 rw [if_neg (by rw [bB];decide)] at hR;have pp:(s.drop q).getD 0 0≠32:=λh=>by rw [h] at bB;exact absurd bB (by decide)
 by_cases oe:(s.drop q).getD 0 0=35
 . rw [if_pos oe] at hR
   have yF:=Znq oe;have nX:nlM (s.drop q)<=(s.drop q).length:=Z9c _ _ _ _;have xr:(s.drop q).length=s.length - q:=by simp
   rw [oe];have og:(((35:UInt8).toNat:Nat):Int)=35:=rfl;rw [og];refine QO ?_;refine CL (Z65 Z7J Zsk (s.drop q) _ fX) ?_;rintro _ w3 ⟨rfl,hT⟩;replace ab:=ab.up hT;have sq:JN (s.drop q) Z7J (s.drop q).length 0=nlM (s.drop q):=rfl;rw [sq];refine QO ?_
   repeat (first|refine JW ?_|refine W1 ?_)
   exact Zw (f,q+nlM (s.drop q),l,lv) ⟨rfl,rfl,rfl,trivial⟩ ⟨hR,by dsimp only;omega,by dsimp only;omega,by dsimp only;omega,ab⟩ (by dsimp only;omega)
 rw [if_neg oe] at hR;have xt:¬ ((((s.drop q).getD 0 0).toNat:Nat):Int)=35:=λh=>oe (by
  have og:(35:UInt8).toNat=35:=rfl;exact UInt8.toNat_inj.1 (by omega))
 refine QO ?_;refine CL (Z7K ((s.drop q).getD 0 0).toNat _) ?_;rintro _ wv ⟨rfl,jh⟩;subst wv;have oF:Zah ((s.drop q).getD 0 0).toNat=Zfp ((s.drop q).getD 0 0):=rfl;rw [oF];cases jD:Zfp ((s.drop q).getD 0 0)
 rotate_left
 . have eX:Z15 (s.drop q)=Z5k (s.drop q):=by unfold Z15;simp only [jD,if_true]
   refine QO ?_;cases hr:Z15 (s.drop q) with
   | err e=>
     rw [hr] at hR;subst hR;have he:=Z2G hr;refine CL (Z9N (s.drop q) _ fX) ?_;rintro _ w4 ⟨rfl,hT⟩;rw [<- eX,hr];simp only [lxV];refine QO ?_;refine Z0 Z2 rfl ?_;rintro _ w5 ⟨b10,rfl,eh,e10,aq⟩;refine SA (us:=Z3.enc (⟨0,0,[],0⟩:Tkn)) e10 ?_;rintro _ w6 ⟨cD,e10'⟩;have lz:=(ab.2.trans hT).trans (aq.ow cD);refine QO ?_
     repeat (first|refine JO ?_|refine W1 ?_)
     refine RU ?_;exact ⟨rfl,lz⟩
   | ok t=>
     rw [hr] at hR;simp only at hR;have dP:=Z3B aU pp hr;have iG:t.text.length≠0:=λh=>dP.1.text (Xv.1 h);have lA:t.text.length<=s.length - q:=by have:=dP.2.1;simpa using this
     refine CL (Z9N (s.drop q) _ fX) ?_;rintro _ w4 ⟨rfl,hT⟩;rw [<- eX,hr];simp only [lxV];replace ab:=ab.up hT;clear hT;refine QO ?_;refine Z0 Z2 rfl ?_;rintro _ w5 ⟨b10,rfl,eh,e10,hT⟩;refine SA (us:=Z3.enc t) e10 ?_;rintro _ w6 ⟨aq,e10'⟩;have iP:=hT.ow aq;have eJ:b10∉ob lv:=λh=>by have:=(ab.ob_le b10 h).2;omega
     clear hT aq e10;refine QO ?_;refine Z6 (Zb (u:=.I (q:Int)) rfl rfl rfl rfl e10' (by simp [Z3.enc])) ?_;rintro _ w7 ⟨hT,e11⟩;replace e11:Blk w7 b10 183 (Z3.enc ({ t with pos:=(q:Int) }:Tkn)):=e11;replace ab:ZE 183 w w7 lv l:=ab.up (iP.ow hT);clear hT e10';refine QO ?_;refine Z0 (Z1 (vs:=[(0,.agg (Z3.enc ({ t with pos:=(q:Int) }:Tkn)).toArray)]) rfl (Z41 _)) rfl ?_;intro bv w8 hN;have an:SlV (ob lv) w8 bv [({ t with pos:=(q:Int) }:Tkn)]:=hN.slv (λb hb=>(ab.ob_le b hb).2) rfl rfl (by simp [maxLen]);replace ab:=ab.up (Z9.stp hN);replace e11:=e11.up (Z9.stp hN);clear hN;refine Z0 (Jy rfl (by decide) rfl rfl ab an (by simp only [Xe,Xf];omega) (by simp only [Xe,Xf,maxLen];omega)) rfl ?_;rintro lv' w9 ⟨aC,hT,cb⟩;replace e11:=e11.ext hT eJ;clear hT;have kY:({ t with pos:=(q:Int) }:Tkn).text.length=t.text.length:=rfl;refine QO ?_
     repeat (first|refine JW ?_|refine W1 ?_)
     exact Zw (f,q+t.text.length,l++[{ t with pos:=(q:Int) }],lv') ⟨rfl,rfl,rfl,trivial⟩ ⟨hR,by dsimp only;omega,by dsimp only;omega,by simp;omega,aC⟩ (by dsimp only;omega)
 refine QO ?_;refine CL (Z4e ((s.drop q).getD 0 0).toNat _) ?_;rintro _ wv ⟨rfl,jh⟩;subst wv;have xu:Z64 ((s.drop q).getD 0 0).toNat=J3 ((s.drop q).getD 0 0):=rfl;rw [xu];cases iO:J3 ((s.drop q).getD 0 0)
 rotate_left
 . have eX:Z15 (s.drop q)=Z4d (s.drop q):=by unfold Z15;simp only [jD,iO,if_true,XP,if_false]
   refine QO ?_;cases hr:Z15 (s.drop q) with
   | err e=>
     rw [hr] at hR;subst hR;have he:=Z2G hr;refine CL (Z70 (s.drop q) ev _ fX iO aU jC bR) ?_;rintro _ w4 ⟨rfl,hT⟩;rw [<- eX,hr];simp only [lxV];refine QO ?_;refine Z0 Z2 rfl ?_;rintro _ w5 ⟨b10,rfl,eh,e10,aq⟩;refine SA (us:=Z3.enc (⟨0,0,[],0⟩:Tkn)) e10 ?_;rintro _ w6 ⟨cD,e10'⟩;have lz:=(ab.2.trans hT).trans (aq.ow cD);refine QO ?_
     repeat (first|refine JO ?_|refine W1 ?_)
     refine RU ?_;exact ⟨rfl,lz⟩
   | ok t=>
     rw [hr] at hR;simp only at hR;have dP:=Z3B aU pp hr;have iG:t.text.length≠0:=λh=>dP.1.text (Xv.1 h);have lA:t.text.length<=s.length - q:=by have:=dP.2.1;simpa using this
     refine CL (Z70 (s.drop q) ev _ fX iO aU jC bR) ?_;rintro _ w4 ⟨rfl,hT⟩;rw [<- eX,hr];simp only [lxV];replace ab:=ab.up hT;clear hT;refine QO ?_;refine Z0 Z2 rfl ?_;rintro _ w5 ⟨b10,rfl,eh,e10,hT⟩;refine SA (us:=Z3.enc t) e10 ?_;rintro _ w6 ⟨aq,e10'⟩;have iP:=hT.ow aq;have eJ:b10∉ob lv:=λh=>by have:=(ab.ob_le b10 h).2;omega
     clear hT aq e10;refine QO ?_;refine Z6 (Zb (u:=.I (q:Int)) rfl rfl rfl rfl e10' (by simp [Z3.enc])) ?_;rintro _ w7 ⟨hT,e11⟩;replace e11:Blk w7 b10 183 (Z3.enc ({ t with pos:=(q:Int) }:Tkn)):=e11;replace ab:ZE 183 w w7 lv l:=ab.up (iP.ow hT);clear hT e10';refine QO ?_;refine Z0 (Z1 (vs:=[(0,.agg (Z3.enc ({ t with pos:=(q:Int) }:Tkn)).toArray)]) rfl (Z41 _)) rfl ?_;intro bv w8 hN;have an:SlV (ob lv) w8 bv [({ t with pos:=(q:Int) }:Tkn)]:=hN.slv (λb hb=>(ab.ob_le b hb).2) rfl rfl (by simp [maxLen]);replace ab:=ab.up (Z9.stp hN);replace e11:=e11.up (Z9.stp hN);clear hN;refine Z0 (Jy rfl (by decide) rfl rfl ab an (by simp only [Xe,Xf];omega) (by simp only [Xe,Xf,maxLen];omega)) rfl ?_;rintro lv' w9 ⟨aC,hT,cb⟩;replace e11:=e11.ext hT eJ;clear hT;have kY:({ t with pos:=(q:Int) }:Tkn).text.length=t.text.length:=rfl;refine QO ?_
     repeat (first|refine JW ?_|refine W1 ?_)
     exact Zw (f,q+t.text.length,l++[{ t with pos:=(q:Int) }],lv') ⟨rfl,rfl,rfl,trivial⟩ ⟨hR,by dsimp only;omega,by dsimp only;omega,by simp;omega,aC⟩ (by dsimp only;omega)
 by_cases jR:(s.drop q).getD 0 0=64
 . have eX:Z15 (s.drop q)=Zag (s.drop q):=by
    unfold Z15;simp only [jD,iO,XP,if_false];rw [if_pos jR]
   rw [jR];have oh:(((64:UInt8).toNat:Nat):Int)=64:=rfl;rw [oh];refine QO ?_;cases hr:Z15 (s.drop q) with
   | err e=>
     rw [hr] at hR;subst hR;have he:=Z2G hr;refine CL (Zf2 (s.drop q) _ jB fX) ?_;rintro _ w4 ⟨rfl,hT⟩;rw [<- eX,hr];simp only [lxV];refine QO ?_;refine Z0 Z2 rfl ?_;rintro _ w5 ⟨b10,rfl,eh,e10,aq⟩;refine SA (us:=Z3.enc (⟨0,0,[],0⟩:Tkn)) e10 ?_;rintro _ w6 ⟨cD,e10'⟩;have lz:=(ab.2.trans hT).trans (aq.ow cD);refine QO ?_
     repeat (first|refine JO ?_|refine W1 ?_)
     refine RU ?_;exact ⟨rfl,lz⟩
   | ok t=>
     rw [hr] at hR;simp only at hR;have dP:=Z3B aU pp hr;have iG:t.text.length≠0:=λh=>dP.1.text (Xv.1 h);have lA:t.text.length<=s.length - q:=by have:=dP.2.1;simpa using this
     refine CL (Zf2 (s.drop q) _ jB fX) ?_;rintro _ w4 ⟨rfl,hT⟩;rw [<- eX,hr];simp only [lxV];replace ab:=ab.up hT;clear hT;refine QO ?_;refine Z0 Z2 rfl ?_;rintro _ w5 ⟨b10,rfl,eh,e10,hT⟩;refine SA (us:=Z3.enc t) e10 ?_;rintro _ w6 ⟨aq,e10'⟩;have iP:=hT.ow aq;have eJ:b10∉ob lv:=λh=>by have:=(ab.ob_le b10 h).2;omega
     clear hT aq e10;refine QO ?_;refine Z6 (Zb (u:=.I (q:Int)) rfl rfl rfl rfl e10' (by simp [Z3.enc])) ?_;rintro _ w7 ⟨hT,e11⟩;replace e11:Blk w7 b10 183 (Z3.enc ({ t with pos:=(q:Int) }:Tkn)):=e11;replace ab:ZE 183 w w7 lv l:=ab.up (iP.ow hT);clear hT e10';refine QO ?_;refine Z0 (Z1 (vs:=[(0,.agg (Z3.enc ({ t with pos:=(q:Int) }:Tkn)).toArray)]) rfl (Z41 _)) rfl ?_;intro bv w8 hN;have an:SlV (ob lv) w8 bv [({ t with pos:=(q:Int) }:Tkn)]:=hN.slv (λb hb=>(ab.ob_le b hb).2) rfl rfl (by simp [maxLen]);replace ab:=ab.up (Z9.stp hN);replace e11:=e11.up (Z9.stp hN);clear hN;refine Z0 (Jy rfl (by decide) rfl rfl ab an (by simp only [Xe,Xf];omega) (by simp only [Xe,Xf,maxLen];omega)) rfl ?_;rintro lv' w9 ⟨aC,hT,cb⟩;replace e11:=e11.ext hT eJ;clear hT;have kY:({ t with pos:=(q:Int) }:Tkn).text.length=t.text.length:=rfl;refine QO ?_
     repeat (first|refine JW ?_|refine W1 ?_)
     exact Zw (f,q+t.text.length,l++[{ t with pos:=(q:Int) }],lv') ⟨rfl,rfl,rfl,trivial⟩ ⟨hR,by dsimp only;omega,by dsimp only;omega,by simp;omega,aC⟩ (by dsimp only;omega)
 have eX:Z15 (s.drop q)=Z05 (s.drop q):=by
  unfold Z15;simp only [jD,iO,XP,if_false];rw [if_neg jR]
 have xw:¬ ((((s.drop q).getD 0 0).toNat:Nat):Int)=64:=λh=>jR (by
  have oh:(64:UInt8).toNat=64:=rfl;exact UInt8.toNat_inj.1 (by omega))
 refine QO ?_;cases hr:Z15 (s.drop q) with
 | err e=>
   rw [hr] at hR;subst hR;have he:=Z2G hr;refine CL (Z8A (s.drop q) _ aU) ?_;rintro _ w4 ⟨rfl,hT⟩;rw [<- eX,hr];simp only [lxV];refine QO ?_;refine Z0 Z2 rfl ?_;rintro _ w5 ⟨b10,rfl,eh,e10,aq⟩;refine SA (us:=Z3.enc (⟨0,0,[],0⟩:Tkn)) e10 ?_;rintro _ w6 ⟨cD,e10'⟩;have lz:=(ab.2.trans hT).trans (aq.ow cD);refine QO ?_
   repeat (first|refine JO ?_|refine W1 ?_)
   refine RU ?_;exact ⟨rfl,lz⟩
 | ok t=>
   rw [hr] at hR;simp only at hR;have dP:=Z3B aU pp hr;have iG:t.text.length≠0:=λh=>dP.1.text (Xv.1 h);have lA:t.text.length<=s.length - q:=by have:=dP.2.1;simpa using this
   refine CL (Z8A (s.drop q) _ aU) ?_;rintro _ w4 ⟨rfl,hT⟩;rw [<- eX,hr];simp only [lxV];replace ab:=ab.up hT;clear hT;refine QO ?_;refine Z0 Z2 rfl ?_;rintro _ w5 ⟨b10,rfl,eh,e10,hT⟩;refine SA (us:=Z3.enc t) e10 ?_;rintro _ w6 ⟨aq,e10'⟩;have iP:=hT.ow aq;have eJ:b10∉ob lv:=λh=>by have:=(ab.ob_le b10 h).2;omega
   clear hT aq e10;refine QO ?_;refine Z6 (Zb (u:=.I (q:Int)) rfl rfl rfl rfl e10' (by simp [Z3.enc])) ?_;rintro _ w7 ⟨hT,e11⟩;replace e11:Blk w7 b10 183 (Z3.enc ({ t with pos:=(q:Int) }:Tkn)):=e11;replace ab:ZE 183 w w7 lv l:=ab.up (iP.ow hT);clear hT e10';refine QO ?_;refine Z0 (Z1 (vs:=[(0,.agg (Z3.enc ({ t with pos:=(q:Int) }:Tkn)).toArray)]) rfl (Z41 _)) rfl ?_;intro bv w8 hN;have an:SlV (ob lv) w8 bv [({ t with pos:=(q:Int) }:Tkn)]:=hN.slv (λb hb=>(ab.ob_le b hb).2) rfl rfl (by simp [maxLen]);replace ab:=ab.up (Z9.stp hN);replace e11:=e11.up (Z9.stp hN);clear hN;refine Z0 (Jy rfl (by decide) rfl rfl ab an (by simp only [Xe,Xf];omega) (by simp only [Xe,Xf,maxLen];omega)) rfl ?_;rintro lv' w9 ⟨aC,hT,cb⟩;replace e11:=e11.ext hT eJ;clear hT;have kY:({ t with pos:=(q:Int) }:Tkn).text.length=t.text.length:=rfl;refine QO ?_
   repeat (first|refine JW ?_|refine W1 ?_)
   exact Zw (f,q+t.text.length,l++[{ t with pos:=(q:Int) }],lv') ⟨rfl,rfl,rfl,trivial⟩ ⟨hR,by dsimp only;omega,by dsimp only;omega,by simp;omega,aC⟩ (by dsimp only;omega)
end Go.Proofs.YtipfkbkkndacjaaGreatDoor
namespace Go.Eng
open Go Go.RowKit Go.Proofs
theorem Z2j {nl:Str->Nat} {s:Str}:∀ (f at_:Nat) (l:List Tkn) (a c:Int),Z0s nl s f at_ l=.err a c->c≠0
 | 0,at_,l,a,c,h=>by simp [Z0s] at h
 | f + 1, at_, l, a, c, h => by
   simp only [Z0s] at h;split at h;split at h;exact Z2j f _ _ _ _ h;split at h;exact Z2j f _ _ _ _ h
   . cases hr:Z15 (s.drop at_) with
     | err e=>
       rw [hr] at h;simp only [Tks.err.injEq] at h;obtain ⟨_,rfl⟩:=h;exact Z2G hr
     | ok t=>
       rw [hr] at h;exact Z2j f _ _ _ _ h
   simp at h
theorem ZcK {s:Str} {a c:Int} (h:Z0t s=.err a c):c≠0:=by
 unfold Z0t at h;split at h;simp only [Tks.err.injEq] at h;omega;exact Z2j _ _ _ _ _ h
theorem ZaX {s:Str} {l:List Tkn} (h:Z0t s=.ok l) (cr:∀ t∈l,t.text∉Z8I):Z3A l/\∃ l1 p,l=l1++[⟨0,p,[],0⟩]/\∀ t∈l1,ZiN t:=by
 unfold Z0t at h;split at h;cases h;rename_i hl;obtain ⟨l1,p,rfl,h1,h2,h3⟩:=Z2U (nl:=nlM) (s:=s) (by omega) (s.length+1) 0 [] l (by simp) (by simp) (by simp) (by simp) h;exact ⟨Zm8 h1 h2 (by omega) (λt ht=>cr t (by simp [ht])),l1,p,rfl,h1⟩
theorem Z8B {l:List Tkn}:∀ (f:Nat) (rs:List RuleM) (i o:Nat) (rs':List RuleM) (i' o':Nat),Z2p l f rs i o=.ok rs' i' o'->l.length<=i+f->i'<l.length->(cur l i').kind=0
 | 0,rs,i,o,rs',i',o',h,h1,h2=>by simp only [Z2p,Out.ok.injEq] at h;omega
 | f + 1, rs, i, o, rs', i', o', h, h1, h2 => by
   simp only [Z2p] at h;split at h;rename_i hk;simp only [Out.ok.injEq] at h;obtain ⟨_,rfl,_⟩:=h;exact hk;obtain ⟨r,i1,o1,h3,h4⟩:=Z09 h;have:=Zcx h3;exact Z8B f _ _ _ _ _ _ h4 (by omega) h2
end Go.Eng
namespace Go.Proofs.YtipfkbkkndacjaaGreatDoor
open Go Go.Eng Go.RowKit Go.Proofs
theorem Znr (a c:Int) (w):(Instr.typeAssert (Z4H a c) 20 235 true).run Tryz.prog w=.ok (.tuple #[.agg #[.I a,.I c],.B true]) w:=by kernel_rfl
theorem Zns (w):(Instr.typeAssert .nilIface 20 235 true).run Tryz.prog w=.ok (.tuple #[.agg #[.I 0,.I 0],.B false]) w:=by kernel_rfl
theorem Ze4 (a c:Int) (b7 b4 b5 b6:Nat) (z7 v4 v5 v6:Value) (w) (e7:Blk w b7 90 [z7]) (e4:Blk w b4 90 [v4]) (e5:Blk w b5 3 [v5]) (e6:Blk w b6 92 [v6])
 (hz:z7.cells.toList=[z7]) (fK:z7.oneCell'=true) (n74:b7≠b4) (n75:b7≠b5) (n76:b7≠b6) (n45:b4≠b5) (n46:b4≠b6) (n56:b5≠b6) :
 CallsD Tryz.prog 158 #[pQ b7,pQ b4,pQ b5,pQ b6] (.panicking [⟨Z4H a c,false,false⟩]) w
  (λe u' w'=>∃ v,e=.returned v/\(u'=.panicking [⟨Z4H a c,true,false⟩]/\Blk w' b4 90 [z7]/\Blk w' b5 3 [.I a]/\Blk w' b6 92 [.I c]/\Stp [b4,b5,b6] w w')):=by
 refine callsD_of_wpS Tryz.func158 rfl λgP cs hu=>?_;apply wpS_seq;apply wpS_region;simp [wpOpsS,go_sem,recoverD,hu,Tryz.ntmps158,Exit.thenS];refine Z9G (n:=22) (e:=[(0,pQ b7),(1,pQ b4),(2,pQ b5),(3,pQ b6),(4,Z4H a c)]) (Has.of rfl (by simp) (by
  intro p hp;simp only [Xb,Xj,or_false] at hp;rcases hp with rfl|rfl|rfl|rfl|rfl<;>kernel_rfl)) ?_
 refine W ?_;refine Z8 (Z4K rfl (Znr a c)) rfl ?_;refine W ?_;refine Z0 Z2 rfl ?_;rintro _ w1 ⟨bf,rfl,xx,ef,hT⟩;refine SB (us:=[.I a,.I c]) (by intro u hu;simp at hu;rcases hu with rfl|rfl<;>rfl) ef ?_;rintro _ w2 ⟨aq,ef'⟩;have nf7:=e7.lt;have nf4:=e4.lt;have nf5:=e5.lt;have nf6:=e6.lt;have hS:=hT.ow aq;clear hT aq ef;replace e7:=e7.up hS;replace e4:=e4.up hS;replace e5:=e5.up hS;replace e6:=e6.up hS;refine W ?_;refine ZDr 8 ([b4,b5,b6]) [] [(0,1),(1,0),(2,1),(3,0),(4,1),(5,2),(6,2),(7,2)] (λw1 ae=>?_);replace e7:=e7.up ae;replace e4:=e4.up ae;replace e5:=e5.up ae;replace e6:=e6.up ae;replace ef':=ef'.up ae;replace hS:=hS.trans ae;clear ae;have m7:b7∉[b4,b5,b6]:=by simp;exact ⟨n74,n75,n76⟩
 have mf:bf∉[b4,b5,b6]:=by simp;omega
 refine Z0k rfl trivial rfl rfl e7 m7 rfl rfl ?_;refine Z5a rfl trivial rfl rfl ?_;refine Z0k rfl trivial rfl rfl ef' mf rfl rfl ?_;refine Z5a rfl trivial rfl rfl ?_;refine Z0k rfl trivial rfl rfl ef' mf rfl rfl ?_;refine Z0p rfl trivial (Zi (us:=[z7]) rfl rfl hz rfl (by simpa using fK) e4 rfl) (λ_ _ h=>h.1.mn) ?_;rintro _ w3 ⟨hT,e4'⟩;replace e5:=e5.ext hT (by simpa using n45.symm);replace e6:=e6.ext hT (by simpa using n46.symm);replace hS:=(hS.mono (S':=[b4,b5,b6]) (by simp)).trans hT.mn;clear hT;refine Z0p rfl trivial (Zi (us:=[.I a]) rfl rfl rfl rfl (by simp;rfl) e5 rfl) (λ_ _ h=>h.1.mn) ?_;rintro _ w4 ⟨hT,e5'⟩;replace e4':=e4'.ext hT (by simpa using n45);replace e6:=e6.ext hT (by simpa using n56.symm);replace hS:=hS.trans hT.mn;clear hT;refine Z0p rfl trivial (Zi (us:=[.I c]) rfl rfl rfl rfl (by simp;rfl) e6 rfl) (λ_ _ h=>h.1.mn) ?_;rintro _ w5 ⟨hT,e6'⟩;replace e4':=e4'.ext hT (by simpa using n46);replace e5':=e5'.ext hT (by simpa using n56);replace hS:=hS.trans hT.mn;refine Za0 ?_;refine W ?_;first|refine Z9R rfl ?_|refine Z9S rfl ?_
 exact ⟨⟨_,rfl⟩,rfl,e4',e5',e6',hS⟩
theorem Ze5 (b7 b4 b5 b6:Nat) (w) :
 CallsD Tryz.prog 158 #[pQ b7,pQ b4,pQ b5,pQ b6] .returning w
  (λe u' w'=>∃ v,e=.returned v/\(u'=.returning/\Stp [] w w')):=by
 refine callsD_of_wpS Tryz.func158 rfl λgP cs hu=>?_;have hc:gP={ gP with mode:=.returning }:=by rw [<- hu]
 apply wpS_seq;apply wpS_region;simp [wpOpsS,go_sem,recoverD,hu,Tryz.ntmps158,Exit.thenS];rw [hc];refine Z9G (n:=22) (e:=[(0,pQ b7),(1,pQ b4),(2,pQ b5),(3,pQ b6),(4,.nilIface)]) (Has.of rfl (by simp) (by
  intro p hp;simp only [Xb,Xj,or_false] at hp;rcases hp with rfl|rfl|rfl|rfl|rfl<;>kernel_rfl)) ?_
 refine W ?_;refine Z8 (Z4K rfl Zns) rfl ?_;refine W ?_;refine Z0 Z2 rfl ?_;rintro _ w1 ⟨bf,rfl,xx,ef,hT⟩;refine SB (us:=[.I 0,.I 0]) (by intro u hu;simp at hu;rcases hu with rfl|rfl<;>rfl) ef ?_;rintro _ w2 ⟨aq,ef'⟩;have hS:=hT.ow aq;refine W ?_;refine Zo1 ⟨_,rfl⟩ rfl rfl ?_;refine W ?_;first|refine Z9R rfl ?_|refine Z9S rfl ?_
 exact ⟨⟨_,rfl⟩,rfl,hS⟩
def PsV (X:List Nat) (w':World) (r:Value):Ps->Prop
 | .err a c=>r=.tuple #[.N,.I a,.I c]
 | .ok rs=>∃ rv,r=.tuple #[rv,.I 0,.I 0]/\SlV X w' rv (rs.map RuleM.rul)
theorem Z42 {w w':World} {b T:Nat} {cs:List Value} (hS:Stp [b] w w') (h:Blk w b T cs) (h':Blk w' b T cs):Stp [] w w':=
 ⟨hS.os, hS.tape, hS.output, hS.size, λk hk _ => by
   by_cases hb:k=b;subst hb;rw [h,h'];exact hS.block k hk (by simpa using hb)⟩
theorem Znt (p:Option Addr) (l c:Nat) (w):(Instr.build 186 #[(0,.slice p l c)]).run Tryz.prog w=.ok (.agg #[.slice p l c,.I 0,.I 0]) w:=by kernel_rfl
theorem ZgJ (X:List Nat) (s:Str) (er:Value) (m:Int) (w:World) (hX:∀ c∈X,c<w.heap.size) (cY:Z0A w) (hm:w.cell? ⟨2,0,none⟩=some (.I m)) (eV:w.cell? ⟨8,0,none⟩=some er) (bR:er=.nilIface\/∃ te pe,er=.iface te pe) (hl:s.length<=1000000) (cr:∀ l,Z0t s=.ok l->∀ t∈l,t.text∉Z8I) :
 CC 89 #[str s,.func (.func 90) #[] #[]] w λr w'=>PsV X w' r (Z2W s)/\Stp [] w w':=by
 have yG:2<w.heap.size:=by have:=block_lt_of_cell hm;simpa using this
 refine Z8S (n:=43) Tryz.func89 rfl rfl rfl ?_;refine W ?_;refine Z0 Z2 rfl ?_;rintro _ w1 ⟨b4,rfl,bD,e4,hS⟩;refine W ?_;refine Z0 Z2 rfl ?_;rintro _ w2 ⟨b5,rfl,ji,e5,hT⟩;have n45:b4≠b5:=by have:=e4.lt;omega
 have g5:w.heap.size<=b5:=Xg hS.size ji;replace e4:=e4.up hT;replace hS:=hS.trans hT;refine W ?_;refine Z0 Z2 rfl ?_;rintro _ w3 ⟨b6,rfl,eB,e6,hT⟩;have n46:b4≠b6:=by have:=e4.lt;omega
 have n56:b5≠b6:=by have:=e5.lt;omega
 have g6:w.heap.size<=b6:=Xg hS.size eB;replace e4:=e4.up hT;replace e5:=e5.up hT;replace hS:=hS.trans hT;refine W ?_;refine Z0 Z2 rfl ?_;rintro _ w4 ⟨b7,rfl,fg,e7,hT⟩;have n74:b7≠b4:=by have:=e4.lt;omega
 have n75:b7≠b5:=by have:=e5.lt;omega
 have n76:b7≠b6:=by have:=e6.lt;omega
 replace e4:=e4.up hT;replace e5:=e5.up hT;replace e6:=e6.up hT;replace hS:=hS.trans hT;clear hT;have g4:w.heap.size<=b4:=bD;have su:∀ c∈[b4,b5,b6,b7],c<w4.heap.size:=λc hc=>by
  simp only [Xb,Xj,or_false] at hc;rcases hc with rfl|rfl|rfl|rfl
  exact e4.lt;exact e5.lt;exact e6.lt;exact e7.lt
 refine W ?_;refine CM (ZN rfl) (Ze3 s er _ (cY.up hS) (hS.cell (by simp) eV) bR hl) ?_;rintro r w5 ⟨hr,hT⟩;replace e4:=e4.up hT;replace e5:=e5.up hT;replace e6:=e6.up hT;replace e7:=e7.up hT;have yH:=hS;replace hS:=hS.trans hT;clear hT;have own3:∀ {S:List Nat},(∀ c∈S,c=b4\/c=b5\/c=b6)->∀ c∈S,c∈([]:List Nat)\/w.heap.size<=c:=λh c hc=>by
  rcases h c hc with rfl|rfl|rfl
  exact .inr g4;exact .inr g5;exact .inr g6
 cases hK:Z0t s with
 | err a c=>
   rw [hK] at hr;have bM:r=.tuple #[.N,.I a,.I c]:=hr;subst bM;have gz:=ZcK hK;refine W ?_;refine SB (us:=[.I a]) (by simp;rfl) e5 ?_;rintro _ w6 ⟨hT,e5'⟩;replace e4:=e4.ext hT (by simpa using n45);replace e6:=e6.ext hT (by simpa using n56.symm);replace e7:=e7.ext hT (by simpa using n75);replace hS:=hS.own hT (own3 (by simp));refine W ?_;refine SB (us:=[.I c]) (by simp;rfl) e6 ?_;rintro _ w7 ⟨aq,e6'⟩;replace e4:=e4.ext aq (by simpa using n46);replace e5':=e5'.ext aq (by simpa using n56);replace e7:=e7.ext aq (by simpa using n76);replace hS:=hS.own aq (own3 (by simp));clear hT aq e5 e6;refine QO ?_;refine ZDr 6 ([b4]) [] [(0,1),(1,1),(2,1),(3,2),(4,2),(5,2)] (λw8 ae=>?_);replace e7:=e7.up ae;replace e4:=e4.up ae;replace e5':=e5'.up ae;replace e6':=e6'.up ae;replace hS:=hS.trans ae;clear ae;refine Z0k rfl trivial rfl rfl e7 (by simpa using n74) rfl rfl ?_;refine Z0k rfl trivial rfl rfl e5' (by simpa using n45.symm) rfl rfl ?_;refine Z0k rfl trivial rfl rfl e6' (by simpa using n46.symm) rfl rfl ?_;refine Z0p rfl trivial (Zi (us:=[.N]) rfl rfl rfl rfl (by simp;rfl) e4 rfl) (λ_ _ h=>h.1) ?_;rintro _ w9 ⟨hT,e4'⟩;replace e5':=e5'.ext hT (by simpa using n45.symm);replace e6':=e6'.ext hT (by simpa using n46.symm);replace hS:=hS.own hT (own3 (by simp));clear hT e4 e7;refine Z0p (G:=λ_ w'=>Stp [] w9 w') rfl trivial ((Zi (us:=[.I a]) rfl rfl rfl rfl (by simp;rfl) e5' rfl).mono (λ_ _ h=>Z42 h.1 e5' h.2)) (λ_ _ h=>h.mn) ?_;intro _ w10 hT;replace e4':=e4'.up hT;replace e5':=e5'.up hT;replace e6':=e6'.up hT;replace hS:=hS.trans hT;clear hT;refine Z0p (G:=λ_ w'=>Stp [] w10 w') rfl trivial ((Zi (us:=[.I c]) rfl rfl rfl rfl (by simp;rfl) e6' rfl).mono (λ_ _ h=>Z42 h.1 e6' h.2)) (λ_ _ h=>h.mn) ?_;intro _ w11 hT;replace e4':=e4'.up hT;replace e5':=e5'.up hT;replace e6':=e6'.up hT;replace hS:=hS.trans hT;clear hT;refine Za0 ?_;refine W ?_;refine ⟨λact ha=>?_⟩;show Leaves _ _ act.tmps _ act.defers .returning _;rw [ha.defers];refine ⟨_,Z6w rfl rfl rfl rfl (ha.vals 4 _ rfl) (ha.vals 5 _ rfl) (ha.vals 6 _ rfl) e4' e5' e6',?_⟩;refine .mk ⟨?_,hS⟩;unfold Z2W;rw [hK];rfl
 | ok l=>
   rw [hK] at hr;obtain ⟨tv,rfl,ab⟩:∃ tv,r=.tuple #[tv,.I 0,.I 0]/\ZE 183 w4 w5 tv l:=hr;obtain ⟨hL,-⟩:=ZaX hK (cr _ hK);have ce:SlV (α:=Tkn) [b4,b5,b6,b7] w5 tv l:=ab.slv su;have gj:=hL.pos;have jO:l.length<=1000000:=by have:=hL.len;omega
   refine W ?_;refine SB (us:=[.I 0]) (by simp;rfl) e5 ?_;rintro _ w6 ⟨hT,e5'⟩;replace e4:=e4.ext hT (by simpa using n45);replace e6:=e6.ext hT (by simpa using n56.symm);replace e7:=e7.ext hT (by simpa using n75);replace ce:=ce.ext (X':=[b4,b5,b6,b7]) hT (by simp) (λ_ h=>.inl h);replace hS:=hS.own hT (own3 (by simp));refine W ?_;refine SB (us:=[.I 0]) (by simp;rfl) e6 ?_;rintro _ w7 ⟨aq,e6'⟩;replace e4:=e4.ext aq (by simpa using n46);replace e5':=e5'.ext aq (by simpa using n56);replace e7:=e7.ext aq (by simpa using n76);replace ce:=ce.ext (X':=[b4,b5,b6,b7]) aq (by simp) (λ_ h=>.inl h);replace hS:=hS.own aq (own3 (by simp));clear hT aq e5 e6;refine QO ?_;refine Z8 (ZaR rfl rfl rfl rfl) rfl ?_;refine Zkb rfl ?_;refine Z4p (Z53 ?_);refine W ?_;obtain ⟨tp,tc,ui⟩:=ce.len;refine Z8 (Z0j (vs:=[(0,tv)]) rfl (by rw [ui];exact λw=>Znt _ _ _ w)) rfl ?_;refine Z0 (Zo rfl) rfl ?_;rintro _ w8 ⟨bp,rfl,uj,ep,hT⟩;have l4:=e4.lt;have l5:=e5'.lt;have l6:=e6'.lt;have l7:=e7.lt;have oE:∀ c∈bp :: b4 :: b5 :: b6 :: b7 :: X,c<w8.heap.size:=λc hc=>by
    have h8:=hT.size;have hp:=ep.lt;have h0:=hS.size;simp only [Xb] at hc;rcases hc with rfl|rfl|rfl|rfl|rfl|hc
    exact hp;omega;omega;omega;omega;have:=hX c hc;omega
   have xy:Pd w8 bp tv l 0 0:=⟨by rw [ui];exact ep,ce.ext hT (by simp) (λc hc=>by simp at hc;subst hc;exact .inr uj),gj,jO,by omega⟩
   replace ce:=ce.ext (X':=[bp,b4,b5,b6,b7]) hT (by simp) (λc hc=>by
    rcases Xb.1 hc with rfl|hc
    exact .inr uj;exact .inl hc)
   replace e4:=e4.up hT;replace e5':=e5'.up hT;replace e6':=e6'.up hT;replace e7:=e7.up hT;replace hS:=hS.trans hT;have gp:w.heap.size<=bp:=by have:=hS.size;omega
   have np4:b4≠bp:=by omega
   have np5:b5≠bp:=by omega
   have np6:b6≠bp:=by omega
   have np7:b7≠bp:=by omega
   clear hT;refine Z8 (Z5S rfl) rfl ?_;refine Z2H ?_;refine Z6m (Z1Z ?_);refine Z4p (Z53 ?_);refine Z8 (ZM rfl) rfl ?_;refine Z8 (ZM rfl) rfl ?_;have hP:=ZdU (bp :: b4 :: b5 :: b6 :: b7 :: X) bp tv l hL m 0 0 (l.length+1) w8 (by omega) (by simp) oE (hS.cell (by simp) hm) xy (by omega);cases hR:Z2p l (l.length+1) [] 0 0 with
   | err a c=>
     rw [hR] at hP;refine Zgw rfl (ZN rfl) hP rfl ?_;intro w9 hT;replace e4:=e4.ext hT (by simpa using np4);replace e5':=e5'.ext hT (by simpa using np5);replace e6':=e6'.ext hT (by simpa using np6);replace e7:=e7.ext hT (by simpa using np7);replace hS:=hS.ow hT;refine Z6m (Z8d ?_);refine ⟨λact ha=>?_⟩;show Leaves _ _ act.tmps _ (act.defers++_) (.panicking _) _;rw [ha.defers];refine Z8x (f:=158) (by simp) (Ze4 a c b7 b4 b5 b6 _ _ _ _ w9 e7 e4 e5' e6' rfl rfl n74 n75 n76 n45 n46 n56) ?_;rintro v u' w10 ⟨rfl,e4',e5'',e6'',hT⟩;refine ⟨rfl,_,Z6w rfl rfl rfl rfl (ha.vals 4 _ rfl) (ha.vals 5 _ rfl) (ha.vals 6 _ rfl) e4' e5'' e6'',?_⟩;refine .mk ⟨?_,hS.own hT (own3 (by simp))⟩;unfold Z2W;rw [hK];simp only [hR];rfl
   | ok rs i' o'=>
     rw [hR] at hP;refine CL hP ?_;rintro rv w9 ⟨bC,sw,hT⟩;replace e4:=e4.ext hT (by simpa using np4);replace e5':=e5'.ext hT (by simpa using np5);replace e6':=e6'.ext hT (by simpa using np6);replace e7:=e7.ext hT (by simpa using np7);replace ce:=ce.ext (X':=[bp,b4,b5,b6,b7]) hT (by simp) (λ_ h=>.inl h);replace hS:=hS.ow hT;obtain ⟨ep',-,kA,-,-⟩:=sw;have fh:=Z8B _ _ _ _ _ _ _ hR (by omega) kA;refine Z6 (Zi (us:=[rv]) rfl rfl bC.cells rfl (by simpa using bC.one) e4 rfl) ?_;rintro _ w10 ⟨hT,e4'⟩;replace ep':=ep'.ext hT (by simpa using np4.symm);replace e5':=e5'.ext hT (by simpa using n45.symm);replace e6':=e6'.ext hT (by simpa using n46.symm);replace ce:=ce.ext (X':=[bp,b4,b5,b6,b7]) hT (by simp) (λ_ h=>.inl h);replace bC:=bC.ext (X':=bp :: b4 :: b5 :: b6 :: b7 :: X) hT (by simp) (λ_ h=>.inl h);replace hS:=hS.own hT (own3 (by simp));clear hT;refine Z2H ?_;refine Z6m (Z1Z ?_);refine Z4p (Z4p ?_);refine Z9s 12 [] [] [(0,0),(1,0),(2,0),(3,1),(4,0),(5,0),(6,0),(7,1),(8,0),(9,0),(10,1),(11,0)] rfl mixed (by kernel_rfl) (by kernel_rfl) (by kernel_rfl) (λw1 ae=>?_);replace e4':=e4'.up ae;replace e5':=e5'.up ae;replace e6':=e6'.up ae;replace ep':=ep'.up ae;replace ce:=ce.up ae;replace bC:=bC.up ae;replace hS:=hS.trans ae;clear ae;refine D ?_;refine W ?_;refine Z6m (Z1Z ?_);rw [Z6a kA] at fh;refine Z8e (by simp [ev,fh];rfl) (Zju (Z1Z (Z4p ?_)));refine Z53 ?_;refine Z8 (ZZ rfl rfl e4' rfl) rfl ?_;refine Z6 (G:=λ_ w'=>Stp [] w1 w') ((Zi (us:=[rv]) rfl rfl bC.cells rfl (by simpa using bC.one) e4' rfl).mono (λ_ _ h=>Z42 h.1 e4' h.2)) ?_;intro _ w12 hT;replace e4':=e4'.up hT;replace e5':=e5'.up hT;replace e6':=e6'.up hT;replace bC:=bC.up hT;replace hS:=hS.trans hT;clear hT;refine Z6 (G:=λ_ w'=>Stp [] w12 w') ((Zi (us:=[.I 0]) rfl rfl rfl rfl (by simp;rfl) e5' rfl).mono (λ_ _ h=>Z42 h.1 e5' h.2)) ?_;intro _ w13 hT;replace e4':=e4'.up hT;replace e5':=e5'.up hT;replace e6':=e6'.up hT;replace bC:=bC.up hT;replace hS:=hS.trans hT;clear hT;refine Z6 (G:=λ_ w'=>Stp [] w13 w') ((Zi (us:=[.I 0]) rfl rfl rfl rfl (by simp;rfl) e6' rfl).mono (λ_ _ h=>Z42 h.1 e6' h.2)) ?_;intro _ w14 hT;replace e4':=e4'.up hT;replace e5':=e5'.up hT;replace e6':=e6'.up hT;replace bC:=bC.up hT;replace hS:=hS.trans hT;clear hT;refine Z2H ?_;refine Z6m (Z1Z (ZeC ?_));refine ⟨λact ha=>?_⟩;show Leaves _ _ act.tmps _ (act.defers++_) .returning _;rw [ha.defers];refine Z8x (f:=158) (by simp) (Ze5 b7 b4 b5 b6 w14) ?_;rintro v u' w15 ⟨rfl,hT⟩;refine ⟨rfl,_,Z6w rfl rfl rfl rfl (ha.vals 4 _ rfl) (ha.vals 5 _ rfl) (ha.vals 6 _ rfl) (e4'.up hT) (e5'.up hT) (e6'.up hT),?_⟩;have hM:Z2W s=.ok rs:=by
      unfold Z2W;rw [hK];simp only [hR]
     rw [hM];exact .mk ⟨⟨rv,rfl,(bC.up hT).ext (Stp.refl [] _) (by simp) (λc hc=>.inl (by simp [hc]))⟩,hS.trans hT⟩
theorem ZgK (X:List Nat) (s:Str) (er:Value) (m:Int) (w:World) (hX:∀ c∈X,c<w.heap.size) (cY:Z0A w) (hm:w.cell? ⟨2,0,none⟩=some (.I m)) (eV:w.cell? ⟨8,0,none⟩=some er) (bR:er=.nilIface\/∃ te pe,er=.iface te pe) (hl:s.length<=1000000) (cr:∀ l,Z0t s=.ok l->∀ t∈l,t.text∉Z8I) :
 CC 58 #[str s] w λr w'=>PsV X w' r (Z2W s)/\Stp [] w w':=by
 refine cW1 10 Tryz.func58 ?_;refine W ?_;refine CL (ZgJ X s er m w hX cY hm eV bR hl cr) ?_;rintro r w1 ⟨hr,hS⟩;cases hK:Z2W s with
 | err a c=>
   rw [hK] at hr;have bM:r=.tuple #[.N,.I a,.I c]:=hr;subst bM;refine RT ?_;exact ⟨rfl,hS⟩
 | ok rs=>
   rw [hK] at hr;obtain ⟨rv,rfl,bC⟩:=hr;refine RT ?_;exact ⟨⟨rv,rfl,bC⟩,hS⟩
theorem Z8C (X:List Nat) (s:Str) (rs:List RuleM) (er:Value) (m:Int) (w:World) (hX:∀ b∈X,b<w.heap.size) (hF:SlV [] w Z2m Ze) (cY:Z0A w) (eQ:w.cell? ⟨2,0,none⟩=some (.I m)) (eV:w.cell? ⟨8,0,none⟩=some er) (bR:er=.nilIface\/∃ te pe,er=.iface te pe) (hl:s.length<=1000000) (cr:∀ l,Z0t s=.ok l->∀ t∈l,t.text∉Z8I)
 (hp:Z2W s=.ok rs) (h4:rs.length<=100) (kK:∀ r∈rs,Z0w r.rul=0/\ZJ r.cond<=1000/\ZJ r.due<=1000/\Smp r.cond/\Smp r.due) :
 CC 29 #[str s] w λr w'=>∃ v,r=.tuple #[v,.B true]/\SlV X w' v (rs.map (λr=>crF r.rul))/\Stp [] w w':=by
 refine cW1 40 Tryz.func29 ?_;refine W ?_;refine CL (ZgK X s er m w hX cY eQ eV bR hl cr) ?_;rintro rv w1 ⟨hr,hS⟩;rw [hp] at hr;obtain ⟨gv,rfl,mm⟩:=hr;have mH:=mm.max;have pD:(rs.map RuleM.rul).length=rs.length:=Xs ..;have gX:∀ b∈X,b<w1.heap.size:=λb hb=>Xa (hX b hb) hS.size;refine QO ?_;refine LP (σ:=Nat×Value) (λq=>[(0,str s),(4,gv),(7,q.2),(8,.I (q.1:Int))]) (λq W=>q.1<=rs.length/\Row X W w1.heap.size 62 q.2 ((rs.take q.1).map (λr=>crF r.rul))/\Stp [] w1 W) (λq=>rs.length - q.1) (0,.N) ⟨Xq _,Row.nil,Stp.refl _ _⟩ ?_;rintro ⟨j,ov⟩ y1 ⟨hj,ab,hT⟩;dsimp only at hj ab ⊢;have bh:=λb hb=>ab.ob_le b hb;have fu:SlV X y1 gv (rs.map RuleM.rul):=mm.up hT;by_cases hlt:j<rs.length;have cx:j<(rs.map RuleM.rul).length:=by omega
 obtain ⟨hG,fK,kP,cm,br⟩:=kK _ (Xd hlt);have nV:(rs.map RuleM.rul)[j]=rs[j].rul:=by simp
 have fE:(rs.take (j+1)).map (λr=>crF r.rul)=(rs.take j).map (λr=>crF r.rul)++[crF rs[j].rul]:=by
  rw [Xi hlt,XM];rfl
 have ai:((rs.take j).map (λr=>crF r.rul)).length<=100:=by rw [Xs,Xw];omega
 obtain ⟨ka,kb,lq,js,iE⟩:=Zj8 fu cx;rw [nV] at lq js;have uk:=hS.trans hT;refine QO ?_;refine Z8 (Z7X rfl rfl fu cx iE) rfl ?_;rw [nV];refine CM (ZN rfl) (Zja _ rs[j].rul _ ⟨ka,kb,rfl,lq.wk (by simp),js.wk (by simp)⟩ cm br fK kP (hF.up uk) m (uk.cell (by simp) eQ)) ?_;rintro _ y2 ⟨cv,rfl,ca,hU⟩;obtain ⟨k1,d1,rfl,bG,cO⟩:=ca (ob ov++X) (λb hb=>by
  have:=hT.size;rcases Xh.1 hb with h|h
  exact (bh b h).2;have:=gX b h;omega)
 clear ca fu lq js iE;rw [hG];replace ab:=ab.up hU;replace hT:=hT.trans hU;clear hU;refine W ?_;refine Z0 Z2 rfl ?_;rintro _ y3 ⟨b7,rfl,fg,e7,hU⟩;have bA:=λb hb=>ab.ob_le b hb;replace ab:=ab.ext (X':=b7 :: X) hU (by simp) (λb hb=>by
  rcases Xb.1 hb with rfl|h
  exact .inr fg;exact .inl h)
 have nb7:∀ b∈b7 :: (ob ov++X),b∈ob ov++X\/y2.heap.size<=b:=λb hb=>by
  rcases Xb.1 hb with rfl|h
  exact .inr fg;exact .inl h
 replace bG:=bG.ext hU (by simp) nb7;replace cO:=cO.ext hU (by simp) nb7;have zT:=hT.size;replace hT:=hT.trans hU;clear hU;refine SB (us:=crC (crF rs[j].rul) k1 d1) (Z0g bG cO) e7 ?_;rintro _ y4 ⟨hU,e7⟩;replace ab:=ab.ext (X':=X) hU (λb hb=>by
  simp only [Xl] at hb;subst hb;exact ⟨by simp,λh=>by have:=(bA _ h).2;omega⟩) (λb hb=>.inl (XE _ hb))
 replace bG:=bG.ext (X':=ob ov++X) hU (by simp) (λb hb=>.inl (XE _ hb));replace cO:=cO.ext (X':=ob ov++X) hU (by simp) (λb hb=>.inl (XE _ hb));replace hT:=hT.ow hU;clear hU;have zT4:=hT.size;refine QO ?_;refine APG (X:=X) (base:=w1.heap.size) (crF rs[j].rul) ab (λb hb=>by have:=gX b hb;omega) (by omega) ⟨k1,d1,rfl,bG,cO⟩ (Xg (Xo _ (Nat.succ_le_succ ai)) (by decide)) (by simp only [maxLen];omega) λv1 rv' y5 aC hU gO=>?_
 replace hT:=hT.own hU (λb hb=>.inr (bA b hb).1);refine QO ?_;exact QL (j+1,rv') ⟨hlt,by dsimp only;rw [fE];exact aC,hT⟩ (by dsimp only;omega);obtain rfl:j=rs.length:=by omega
 rw [Xp] at ab;refine RT ?_;exact ⟨ov,rfl,ab.slv gX,hS.trans hT⟩
theorem Znu (rl:Str) (f:Fct) (p d s:Int) (w):(Instr.build 56 #[(0,str rl),(1,aG f),(2,.I p),(3,.I d),(4,.I s)]).run Tryz.prog w=.ok (.agg (dlC ⟨rl,f,p,d,s,[]⟩ (.N)).toArray) w:=by kernel_rfl
theorem Z7l (a b c:Int) (w):(Instr.build 67 #[(0,.I a),(1,.I b),(2,.I c)]).run Tryz.prog w=.ok (aG (⟨a,b,c⟩:Rsn)) w:=by kernel_rfl
theorem Znv (a:Int) (w):(Instr.build 67 #[(0,.I a)]).run Tryz.prog w=.ok (aG (⟨a,0,0⟩:Rsn)) w:=by kernel_rfl
theorem ZcL (x y:Rsn) (w):(Instr.buildSlice 54 2 #[(0,aG x),(1,aG y)]).run Tryz.prog w=.ok (.slice (some ⟨w.heap.size,0,none⟩) 2 2) (w.alloc (.cells (Z3.enc x++Z3.enc y).toArray 67)):=by kernel_rfl
theorem Z38 (c:Cas) (R:Z0T) (due st:Int) (mv ev:Value) (more:List Rsn) (evs:List Fct) (w) (m:Int) (hF:SlV [] w Z2m Ze) (eQ:w.cell? ⟨2,0,none⟩=some (.I m))
 (hv:Z1D w c R) (hs:Z55 c) (ho:ZcJ c) (dB:∀ Y,Stp [] w Y->CC 114 #[.agg (Z08 c.cal R.hv R.lv R.zo R.zs R.hr).toArray] Y λr w'=>r=.I 0/\Stp [] Y w')
 (hd:Z0M c=[Z0V due st more]) (hf:Z1a c=evs) (h0:∃ l,c.fcts=Zn :: l) (mo:SlV [] w mv more) (sz:SlV [] w ev evs) (bH:more.length<=10) :
 CC 40 #[.agg (Jw c R).toArray,.I due,.I st,mv,ev] w λr w'=>r=.B true/\Stp [] w w':=by
 obtain ⟨l0,cB⟩:=h0;refine cW5 48 Tryz.func40 ?_;refine W ?_;refine BX (Stp.refl [] w) λb5 w1 h5 e5 _ hS=>?_;replace e5:Blk w1 b5 37 (Jw c R):=e5;refine QO ?_;refine CL (Z4L c R _ (hv.up hS) hs) ?_;rintro dv w2 ⟨eX,hT⟩;rw [hd] at eX;have fU:SlV [] w2 dv [Z0V due st more]:=Row.slv (X:=[]) eX (by simp);have jI:0 < [Z0V due st more].length:=by simp
 replace e5:=e5.up hT;replace hS:=hS.trans hT;clear eX hT;refine QO ?_;refine CP hS (ZaW c R _ m (hF.up hS) (hS.cell (by simp) eQ) (hv.up hS) ho (λY h=>dB Y (hS.trans h))) λw3 hT hS=>?_
 replace e5:=e5.up hT;replace fU:=fU.up hT;clear hT;refine QO ?_;refine CL (Z9K c R _ (hv.up hS) hs) ?_;rintro fv w4 jZ;rw [hf] at jZ;have ul:SlV [] w4 fv evs:=jZ.slv (by simp);have hT:=jZ.2;replace e5:=e5.up hT;replace fU:=fU.up hT;replace hS:=hS.trans hT;clear jZ hT;refine QO ?_;refine CP hS (Z8Z fv ev evs evs _ ul (sz.up hS)) λw5 hT hS=>?_;rw [decide_eq_true rfl];replace e5:=e5.up hT;replace fU:=fU.up hT;clear hT ul;have gZ:SlV [] w5 R.fv c.fcts:=(hv.up hS).ff;rw [cB] at gZ;have dS:0<(Zn :: l0).length:=by simp
 refine QO ?_;refine Z7 rfl (Znu [114] Zn 2 due st) rfl ?_;refine Z0 Z2 rfl ?_;rintro _ w6 ⟨b,rfl,hb,e6,hT⟩;have zS:=hS.size;have n5:b5≠b:=by have:=e5.lt;omega
 replace e5:=e5.up hT;have jE:SlV [b] w6 dv [Z0V due st more]:=fU.ext hT (by simp) (λc hc=>.inr (by simp at hc;omega));have lO:SlV [b] w6 mv more:=mo.ext (hS.trans hT) (by simp) (λc hc=>.inr (by simp at hc;omega));replace hS:=hS.trans hT;clear hT fU gZ;refine Z6 (Zi (us:=dlC ⟨[114],Zn,2,due,st,[]⟩ (.N)) rfl rfl rfl rfl (λu hu=>by
  simp only [Xb,Xj,or_false] at hu;rcases hu with rfl|rfl|rfl|rfl|rfl|rfl|rfl|rfl|rfl|rfl|rfl<;>rfl) e6 rfl) ?_
 rintro _ w7 ⟨hT,e6⟩;replace e5:=e5.ext hT (by simpa using n5);replace jE:=jE.ext (X':=[b]) hT (by simp) (λc hc=>.inl hc);replace lO:=lO.ext (X':=[b]) hT (by simp) (λc hc=>.inl hc);replace hS:=hS.ow hT;clear hT;have l6:=e6.lt;have l57:=e5.lt;refine QO ?_;refine Z7 rfl (Z7l 1 4 739616) rfl ?_;refine W ?_;refine Z7 rfl (Znv 2) rfl ?_;refine Z0 (Z1 rfl (ZcL ⟨1,4,739616⟩ ⟨2,0,0⟩)) rfl ?_;rintro tv w8 hN;have ab:Row [b] w8 w7.heap.size 67 tv [(⟨1,4,739616⟩:Rsn),⟨2,0,0⟩]:=Z1X (X:=[]) (hN.row (Xn _) rfl (by simp) (by simp [maxLen]));have bh:=λc hc=>ab.ob_le c hc;have hT:=Z9.stp hN;have jl:SlV (ob tv++[b]) w8 mv more:=lO.ext hT (by simp) (λc hc=>by
  rcases Xh.1 hc with h|h
  exact .inr (bh c h).1;exact .inl h)
 replace e5:=e5.up hT;replace e6:=e6.up hT;have ol:SlV (ob tv++[b]) w8 dv [Z0V due st more]:=jE.ext hT (by simp) (λc hc=>by
  rcases Xh.1 hc with h|h
  exact .inr (bh c h).1;exact .inl h)
 have zS7:=hS.size;replace hS:=hS.trans hT;have zT:=hT.size;clear hT hN lO;refine W ?_;refine Z0 (Zx (α:=Rsn) (X:=[b]) (base:=w7.heap.size) rfl (by decide) rfl rfl ab jl (Xg (Xo _ (show [(⟨1,4,739616⟩:Rsn),⟨2,0,0⟩].length+more.length<=20 by simp;omega)) (by decide)) (by simp [maxLen];omega) (by omega)) rfl ?_;rintro qv w9 ⟨iH,hT,xz⟩;replace e5:=e5.ext hT (λh=>by have:=bh _ h;omega);replace e6:=e6.ext hT (λh=>by have:=bh _ h;omega);have om:SlV [b] w9 dv [Z0V due st more]:=ol.ext hT (λc hc=>by simp [hc]) (λc hc=>.inl (by simp at hc;simp [hc]));replace hS:=hS.own hT (λc hc=>.inr (by have:=bh c hc;omega));clear hT ol jl jE ab;obtain ⟨pq,kq,rfl,-⟩:=id (Row.slv (X:=[b]) iH (by simpa using l6));refine QO ?_;refine Z6 (Zb (u:=.slice pq ([(⟨1,4,739616⟩:Rsn),⟨2,0,0⟩]++more).length kq) rfl rfl rfl rfl e6 (show (10:Nat)<11 by decide)) ?_;rintro _ wA ⟨hT,e6⟩;replace e6:Blk wA b 56 (dlC (Z0V due st more) (.slice pq ([(⟨1,4,739616⟩:Rsn),⟨2,0,0⟩]++more).length kq)):=e6;have jF:SlV [] wA dv [Z0V due st more]:=om.ext hT (by simp) (by simp);have sA:SlV [] wA (.slice pq ([(⟨1,4,739616⟩:Rsn),⟨2,0,0⟩]++more).length kq) (Z0V due st more).reas:=(Row.slv (X:=[b]) iH (by simpa using l6)).ext hT (by simp) (by simp);replace hS:=hS.ow hT;generalize (Value.slice pq ([(⟨1,4,739616⟩:Rsn),⟨2,0,0⟩]++more).length kq)=qv at *;clear hT om iH e5;refine QO ?_;refine ZDr 6 [] [] [(0,0),(1,0),(2,1),(3,1),(4,2),(5,0)] (λw1 ae=>?_);replace jF:=jF.up ae;replace sA:=sA.up ae;replace e6:=e6.up ae;replace hS:=hS.trans ae;clear ae;obtain ⟨csa,⟨ra,rfl,di⟩,iE⟩:=jF.cell jI;refine QD ?_;refine WD_read rfl trivial (λw' aP=>Z1W rfl rfl (jF.up aP) jI ⟨ra,rfl,di.up aP⟩ (λj u hu=>aP.cell0 (iE j u hu))) rfl ?_;refine QD ?_
 try refine WD_read rfl trivial (λw' aP=>Zl rfl rfl (e6.up aP) (us:=dlC (Z0V due st more) qv) rfl rfl) rfl ?_
 repeat'(first|refine D1 ?_|omega|refine Zq rfl rfl rfl rfl (λhg=>?_) (λhg=>?_)|(refine Zm rfl rfl rfl rfl (λhg=>?_) (λhg=>?_)<;>refine D1 ?_)|fail)
 refine DP hS (Z6Z (Z0V due st more) ra qv _ di sA) λw5 hT hS=>?_;refine QD ?_;refine RT ?_;exact ⟨rfl,hS⟩
theorem Zwe:∀ x∈Z40.cnd++Z40.due,opP x.op:=by unfold opP;decide +kernel
theorem ZwZ:Smp Z3i.cond:=.mk (by decide) (by decide) (λy hy=>by cases hy)
theorem Zx0:Smp Z3i.due:=.mk (by decide) (by decide) (λy hy=>by
 have:y=.mk 4 0 [100,97,121] []\/y=.mk 1 20 [] []:=by simpa [Z3i,Nd.kids] using hy
 rcases this with rfl|rfl<;>exact .mk (by decide) (by decide) (λy hy=>by cases hy))
theorem Zku:(match Z0t Zf1 with|.ok l=>l.all (λt=>!(Z8I.contains t.text))|_=>true)=true:=by kernel_rfl
theorem Znw:∀ l,Z0t Zf1=.ok l->∀ t∈l,t.text∉Z8I:=λl hl t ht hb=>by
 have h:=Zku;rw [hl] at h;have h2:=XZ.1 h t ht;rw [List.contains_iff_mem.2 hb] at h2;cases h2
theorem Z1D.cell {c:Cas} {R:Z0T} {w} (h:Z1D w c R):∀ u∈Jw c R,u.oneCell'=true:=by
 have h1:=h.ff.one;have h2:=h.rr.one;have h3:=h.aa.one;have h4:=h.cc.one;have h5:=h.ss.one;have h6:=h.cal.hols.one;have h7:=h.cal.clos.one;obtain ⟨h8,h9,gD⟩:=h.one;intro u hu;simp only [Jw,Z08,Xb,Xj,or_false,XS,XC] at hu;rcases hu with rfl|rfl|rfl|rfl|rfl|rfl|rfl|rfl|rfl|rfl|rfl|rfl|rfl|rfl|rfl|rfl|rfl|rfl|rfl<;>first|assumption|rfl
def Z0B (fs:List Fct) (ss:List Spn) (td:Int):Cas:=⟨fs,[Z40],[],[],ss,z22,0,td⟩
abbrev Z23:Value:=.N
def exR (fv rv sv:Value):Z0T:=⟨fv,rv,Z23,Z23,sv,Z23,Z23,.I 0,Z23,.I 0⟩
theorem ZcM {fs:List Fct} {ss:List Spn} {td:Int} (h1:fs.length<=16) (h2:∀ f∈fs,Z0o f) (h3:fs.Nodup) (h4:Z8a ss) (h5:0<=td/\td<=3652058):Z55 (Z0B fs ss td):=by
 obtain ⟨v1,v2⟩:=ZcE Zo0;refine ⟨⟨by show fs.length<=100000;omega,by show 1<=1024;decide,λq hq=>?_,λq hq=>?_,⟨by show 0<=65536;decide,λa ha=>absurd ha (by simp [Z0B]),λa ha=>absurd ha (by simp [Z0B]),λa ha=>absurd ha (by simp [Z0B])⟩,λx hx=>absurd hx (by simp [Z0B]),h4,⟨by show (0:Int)<=0;decide,by show (0:Int)<=15;decide⟩,h5⟩,h1,by show 1<=4;decide,h2,h3⟩;have:q=Z40:=by simpa [Z0B] using hq
 rw [this];exact v1;have:q=Z40:=by simpa [Z0B] using hq
 rw [this];exact v2
theorem ZcN {fs:List Fct} {ss:List Spn} {td:Int} (h1:ZcH [] fs=0) (h2:∀ f∈fs,(f.kind.length:Int)<=maxLen) (h3:ZfZ ss=0) (h5:0<=td/\td<=3652058):ZcJ (Z0B fs ss td):=
 ⟨λq hq => by
   have:q=Z40:=by simpa [Z0B] using hq
   rw [this];exact Zwe,h1,h2,by show 0<=16;decide,λx hx=>absurd hx (by simp [Z0B]),by show 1<=1024;decide,λq hq=>by
   have:q=Z40:=by simpa [Z0B] using hq
   rw [this];exact Zo0,by show 0<=65536;decide,rfl,h3,⟨by show (0:Int)<=0;decide,by show (0:Int)<=15;decide⟩,h5⟩
theorem ZaY {fs:List Fct} {ss:List Spn} {td:Int} {fv rv sv:Value} {w} (hL:Z0A w) (hM:Z3h w) (h1:SlV [] w fv fs) (h2:SlV [] w rv [Z40]) (h3:SlV [] w sv ss):Z1D w (Z0B fs ss td) (exR fv rv sv):=
 ⟨h1,h2,ZT _ _,ZT _ _,h3,⟨ZT _ _,ZT _ _,hL,hM,⟨rfl,λh hh=>absurd hh (by simp [Z0B,z22]),by show 0<=6;decide⟩⟩,rfl,rfl,rfl⟩
theorem Z5R (fs:List Fct) (ss:List Spn) (td:Int) (fv rv sv:Value) (Y:World):CC 114 #[.agg (Z08 (Z0B fs ss td).cal (exR fv rv sv).hv (exR fv rv sv).lv (exR fv rv sv).zo (exR fv rv sv).zs (exR fv rv sv).hr).toArray] Y λr w'=>r=.I 0/\Stp [] Y w':=Z8Y Y
theorem Znx (p q:Option Addr) (a b c d:Nat) (fs:List Fct) (td:Int) (w):(Instr.build 37 #[(0,.slice p a b),(1,.slice q c d),(7,.I td)]).run Tryz.prog w=.ok (.agg (Jw (Z0B fs [] td) (exR (.slice p a b) (.slice q c d) Z23)).toArray) w:=by kernel_rfl
theorem Zf3 (f:Fct) (w):(Instr.buildSlice 24 1 #[(0,aG f)]).run Tryz.prog w=.ok (.slice (some ⟨w.heap.size,0,none⟩) 1 1) (w.alloc (.cells (Z3.enc f).toArray 45)):=by kernel_rfl
theorem Zny (f g:Fct) (w):(Instr.buildSlice 24 2 #[(0,aG f),(1,aG g)]).run Tryz.prog w=.ok (.slice (some ⟨w.heap.size,0,none⟩) 2 2) (w.alloc (.cells (Z3.enc f++Z3.enc g).toArray 45)):=by kernel_rfl
theorem ZgL (w):(Instr.build 45 #[(0,.I 4),(1,str [99,108,97,105,109]),(2,.I 739616),(3,.I 1),(4,.I 2),(5,.I 50)]).run Tryz.prog w=.ok (aG Zn) w:=by kernel_rfl
def Z1p:Fct:=⟨7,[97,110,115,119,101,114],739636,2,0,0⟩
theorem ZgM (w):(Instr.build 45 #[(0,.I 7),(1,str [97,110,115,119,101,114]),(2,.I 739636),(3,.I 2)]).run Tryz.prog w=.ok (aG Z1p) w:=by kernel_rfl
theorem ZgN (w):(Instr.build 45 #[(0,.I 4),(1,str [108,97,112,115,101]),(2,.I 739637),(3,.I 2),(4,.I 1),(5,.I 50)]).run Tryz.prog w=.ok (aG Z4u) w:=by kernel_rfl
theorem ZcO (x:Rsn) (w):(Instr.buildSlice 54 1 #[(0,aG x)]).run Tryz.prog w=.ok (.slice (some ⟨w.heap.size,0,none⟩) 1 1) (w.alloc (.cells (Z3.enc x).toArray 67)):=by kernel_rfl
theorem Zf4:Z0o Zn:=⟨by decide,by decide,by decide,by decide⟩
theorem Zwf:Z0o Z1p:=⟨by decide,by decide,by decide,by decide⟩
theorem ZaZ {ss:List Spn} {td:Int} (h4:Z8a ss) (h5:0<=td/\td<=3652058):Z55 (Z0B [Zn] ss td):=ZcM (by decide) (λf hf=>by
 have:f=Zn:=by simpa using hf
 rw [this];exact Zf4) (by simp) h4 h5
theorem Znz {ss:List Spn} {td:Int} (h4:Z8a ss) (h5:0<=td/\td<=3652058):Z55 (Z0B [Zn,Z1p] ss td):=ZcM (by decide) (λf hf=>by
 have:f=Zn\/f=Z1p:=by simpa using hf
 rcases this with h|h
 rw [h];exact Zf4;rw [h];exact Zwf) (by decide +kernel) h4 h5
theorem Zb0 {ss:List Spn} {td:Int} (h4:ZfZ ss=0) (h5:0<=td/\td<=3652058):ZcJ (Z0B [Zn] ss td):=ZcN (by decide +kernel) (λf hf=>by
 have:f=Zn:=by simpa using hf
 rw [this];decide +kernel) h4 h5
theorem ZnA {ss:List Spn} {td:Int} (h4:ZfZ ss=0) (h5:0<=td/\td<=3652058):ZcJ (Z0B [Zn,Z1p] ss td):=ZcN (by decide +kernel) (λf hf=>by
 have:f=Zn\/f=Z1p:=by simpa using hf
 rcases this with h|h
 rw [h];decide +kernel;rw [h];decide +kernel) h4 h5
theorem sp0:Z8a []:=⟨by decide,by simp⟩
theorem sp1:Z8a [((739620,739621):Spn)]:=⟨by decide,λs hs=>by
 have:s=(739620,739621):=by simpa using hs
 rw [this];decide⟩
theorem Zwg:ZJ (.mk 2 1 [] [])=1:=by
 rw [ZJ];decide +kernel
theorem Zwh:ZJ (.mk 7 0 [100,97,121,115] [.mk 4 0 [100,97,121] [],.mk 1 20 [] []])=3:=by
 rw [ZJ,Xy,Xy,XR,ZJ,ZJ];decide +kernel
theorem ZcP (er:Value) (m:Int) (w) (hF:SlV [] w Z2m Ze) (cY:Z0A w) (lB:Z3h w) (eQ:w.cell? ⟨2,0,none⟩=some (.I m)) (eV:w.cell? ⟨8,0,none⟩=some er) (bR:er=.nilIface\/∃ te pe,er=.iface te pe) :
 CC 15 #[] w λr w'=>r=.B true/\Stp [] w w':=by
 refine cW0 58 Tryz.func15 ?_;refine W ?_;refine Z0 (Z4 rfl (ZN rfl) (Z8C [] Zf1 [Z3i] er m w (by simp) hF cY eQ eV bR (by decide +kernel) Znw Znn (by decide) (λr hr=>by
  have:r=Z3i:=by simpa using hr
  subst this;exact ⟨Ze2,by rw [show Z3i.cond=.mk 2 1 [] [] from rfl,Zwg];decide,by rw [show Z3i.due=.mk 7 0 [100,97,121,115] [.mk 4 0 [100,97,121] [],.mk 1 20 [] []] from rfl,Zwh];decide,ZwZ,Zx0⟩))) rfl ?_
 rintro _ w1 ⟨rv,rfl,bC,hS⟩;replace bC:SlV [] w1 rv [Z40]:=by simpa [ZnZ] using bC
 obtain ⟨pr,kr,rfl,-⟩:=id bC;refine QO ?_;refine Z7 rfl ZgL rfl ?_;refine Z0 Z2 rfl ?_;rintro _ w2 ⟨b3,rfl,d8,e3,hT⟩;refine SA (us:=Z3.enc Zn) e3 ?_;rintro _ w3 ⟨hU,e3⟩;replace hT:=hT.ow hU;replace bC:=bC.up hT;replace hS:=hS.trans hT;clear hT hU;refine QO ?_;refine Z0 (Z1 rfl (Zf3 Zn)) rfl ?_;rintro fv w4 hN;have fQ:SlV [] w4 fv [Zn]:=hN.slv (by simp) rfl (by simp) (by simp [maxLen]);have hT:=Z9.stp hN;clear hN;replace bC:=bC.up hT;replace e3:=e3.up hT;replace hS:=hS.trans hT;clear hT;obtain ⟨pf,kf,rfl,-⟩:=id fQ;refine QO ?_;refine Z7 rfl (Znx pf pr [Zn].length kf [Z40].length kr [Zn] 739630) rfl ?_;generalize (Value.slice pf [Zn].length kf)=fv at *;generalize (Value.slice pr [Z40].length kr)=rv at *;refine Z0 Z2 rfl ?_;rintro _ w5 ⟨b4,rfl,bD,e4,hT⟩;have dZ:=ZaY (ss:=[]) (sv:=Z23) (td:=739630) (cY.up hS) (lB.up hS) fQ bC (ZT _ _);refine SB (us:=Jw (Z0B [Zn] [] 739630) (exR fv rv Z23)) dZ.cell e4 ?_;rintro _ w6 ⟨hU,e4⟩;replace hT:=hT.ow hU;replace dZ:=dZ.up hT;replace fQ:=fQ.up hT;replace bC:=bC.up hT;replace e3:=e3.up hT;replace hS:=hS.trans hT;clear hT hU;refine QO ?_;refine Z0 Z2 rfl ?_;rintro _ w7 ⟨b5,rfl,ji,e5,hT⟩;refine SB (us:=Jw (Z0B [Zn] [] 739630) (exR fv rv Z23)) dZ.cell e5 ?_;rintro _ w8 ⟨hU,e5⟩;replace hT:=hT.ow hU;refine QO ?_;refine Z6 (Zb (u:=.I 739640) rfl rfl rfl rfl e5 (show (18:Nat)<19 by decide)) ?_;rintro _ w9 ⟨hU,e5⟩;replace e5:Blk w9 b5 37 (Jw (Z0B [Zn] [] 739640) (exR fv rv Z23)):=e5;replace hT:=hT.ow hU;have gu:Z1D w9 (Z0B [Zn] [] 739640) (exR fv rv Z23):=ZaY (cY.up (hS.trans hT)) (lB.up (hS.trans hT)) (fQ.up hT) (bC.up hT) (ZT _ _);replace dZ:=dZ.up hT;replace fQ:=fQ.up hT;replace bC:=bC.up hT;replace e3:=e3.up hT;replace e4:=e4.up hT;replace hS:=hS.trans hT;clear hT hU;refine QO ?_;refine Z0 Z2 rfl ?_;rintro _ wa ⟨b6,rfl,eB,e6,hT⟩;refine SB (us:=Jw (Z0B [Zn] [] 739640) (exR fv rv Z23)) gu.cell e6 ?_;rintro _ wb ⟨hU,e6⟩;replace hT:=hT.ow hU;replace e3:=e3.up hT;refine QO ?_;refine Z7 rfl ZgM rfl ?_;refine Z0 (Z1 rfl (Zny Zn Z1p)) rfl ?_;rintro fv2 wc hN;have jG:SlV [] wc fv2 [Zn,Z1p]:=hN.slv (by simp) rfl (by simp) (by simp [maxLen]);have l6:=e6.lt;have ke:SlV [b6] wc fv2 [Zn,Z1p]:=hN.slv (by simpa using l6) rfl (by simp) (by simp [maxLen]);have hU:=Z9.stp hN;clear hN;replace e6:=e6.up hU;replace e3:=e3.up hU;replace hT:=hT.trans hU;obtain ⟨p2,k2,rfl,-⟩:=id jG;refine QO ?_;refine Z6 (Zb (u:=.slice p2 [Zn,Z1p].length k2) rfl rfl rfl rfl e6 (show (0:Nat)<19 by decide)) ?_;rintro _ wd ⟨hU,e6⟩;replace jG:SlV [] wd (.slice p2 [Zn,Z1p].length k2) [Zn,Z1p]:=ke.ext hU (by simp) (by simp);generalize (Value.slice p2 [Zn,Z1p].length k2)=fv2 at *;replace e6:Blk wd b6 37 (Jw (Z0B [Zn,Z1p] [] 739640) (exR fv2 rv Z23)):=e6;replace hT:=hT.ow hU;have fq:Z1D wd (Z0B [Zn,Z1p] [] 739640) (exR fv2 rv Z23):=ZaY (cY.up (hS.trans hT)) (lB.up (hS.trans hT)) jG (bC.up hT) (ZT _ _);replace dZ:=dZ.up hT;replace gu:=gu.up hT;replace fQ:=fQ.up hT;replace bC:=bC.up hT;replace e4:=e4.up hT;replace e5:=e5.up hT;replace hS:=hS.trans hT;clear hT hU ke e3;refine QO ?_;refine Z0 Z2 rfl ?_;rintro _ we ⟨b7,rfl,fg,e7,hT⟩;refine SB (us:=Jw (Z0B [Zn] [] 739630) (exR fv rv Z23)) dZ.cell e7 ?_;rintro _ wf ⟨hU,e7⟩;replace hT:=hT.ow hU;refine QO ?_;refine Z7 (vs:=[(0,.I 739620),(1,.I 739621)]) rfl (Z8o _ _) rfl ?_;refine Z0 (Z1 rfl (Zgv (739620,739621))) rfl ?_;rintro sv wg hN;have l7:=e7.lt;have lC:SlV [b7] wg sv [((739620,739621):Spn)]:=hN.slv (by simpa using l7) rfl (by simp) (by simp [maxLen]);have hU:=Z9.stp hN;clear hN;replace e7:=e7.up hU;replace hT:=hT.trans hU;obtain ⟨p3,k3,rfl,-⟩:=id lC;refine QO ?_;refine Z6 (Zb (u:=.slice p3 [((739620,739621):Spn)].length k3) rfl rfl rfl rfl e7 (show (4:Nat)<19 by decide)) ?_;rintro _ wh ⟨hU,e7⟩;have iR:SlV [] wh (.slice p3 [((739620,739621):Spn)].length k3) [((739620,739621):Spn)]:=lC.ext hU (by simp) (by simp);generalize (Value.slice p3 [((739620,739621):Spn)].length k3)=sv at *;replace e7:Blk wh b7 37 (Jw (Z0B [Zn] [(739620,739621)] 739630) (exR fv rv sv)):=e7;replace hT:=hT.ow hU;have fV:Z1D wh (Z0B [Zn] [(739620,739621)] 739630) (exR fv rv sv):=ZaY (cY.up (hS.trans hT)) (lB.up (hS.trans hT)) (fQ.up hT) (bC.up hT) iR;replace dZ:=dZ.up hT;replace gu:=gu.up hT;replace fq:=fq.up hT;replace e4:=e4.up hT;replace e5:=e5.up hT;replace e6:=e6.up hT;replace hS:=hS.trans hT;clear hT hU lC;refine QO ?_;refine Z7 rfl ZgN rfl ?_;refine Z0 Z2 rfl ?_;rintro _ wi ⟨b8,rfl,fk,e8,hT⟩;refine SA (us:=Z3.enc Z4u) e8 ?_;rintro _ wj ⟨hU,e8⟩;replace hT:=hT.ow hU;replace dZ:=dZ.up hT;replace gu:=gu.up hT;replace fq:=fq.up hT;replace fV:=fV.up hT;replace e4:=e4.up hT;replace e5:=e5.up hT;replace e6:=e6.up hT;replace e7:=e7.up hT;replace hS:=hS.trans hT;clear hT hU fQ bC jG iR;refine QO ?_;refine CP (hv:=Zf9 rfl rfl rfl rfl rfl) hS (Z38 (Z0B [Zn] [] 739630) (exR fv rv Z23) 739636 0 Z23 Z23 [] [] _ m (hF.up hS) (hS.cell (by simp) eQ) dZ (ZaZ sp0 (by decide)) (Zb0 rfl (by decide)) (λY _=>Z5R _ _ _ _ _ _ Y) ZwV ZwR ⟨[],rfl⟩ (ZT _ _) (ZT _ _) (by decide)) λx1 hT hS=>?_
 replace gu:=gu.up hT;replace fq:=fq.up hT;replace fV:=fV.up hT;replace e5:=e5.up hT;replace e6:=e6.up hT;replace e7:=e7.up hT;replace e8:=e8.up hT;clear hT;refine QO ?_;refine Z0 (Z1 rfl (Zf3 Z4u)) rfl ?_;rintro lv x2 hN;have kE:SlV [] x2 lv [Z4u]:=hN.slv (by simp) rfl (by simp) (by simp [maxLen]);have hT:=Z9.stp hN;clear hN;replace hS:=hS.trans hT;refine W ?_;refine CP (hv:=Zf9 rfl rfl rfl rfl rfl) hS (Z38 (Z0B [Zn] [] 739640) (exR fv rv Z23) 739636 2 Z23 lv [] [Z4u] _ m (hF.up hS) (hS.cell (by simp) eQ) (gu.up hT) (ZaZ sp0 (by decide)) (Zb0 rfl (by decide)) (λY _=>Z5R _ _ _ _ _ _ Y) ZwW ZwS ⟨[],rfl⟩ (ZT _ _) kE (by decide)) λx3 hU hS=>?_
 replace hT:=hT.trans hU;replace fq:=fq.up hT;replace fV:=fV.up hT;replace e6:=e6.up hT;replace e7:=e7.up hT;clear hT hU;refine QO ?_;refine Z7 rfl (Z7l 6 7 739636) rfl ?_;refine Z0 (Z1 rfl (ZcO ⟨6,7,739636⟩)) rfl ?_;rintro mv x4 hN;have mo:SlV [] x4 mv [(⟨6,7,739636⟩:Rsn)]:=hN.slv (by simp) rfl (by simp) (by simp [maxLen]);have hT:=Z9.stp hN;clear hN;replace hS:=hS.trans hT;refine W ?_;refine CP (hv:=Zf9 rfl rfl rfl rfl rfl) hS (Z38 (Z0B [Zn,Z1p] [] 739640) (exR fv2 rv Z23) 739636 1 mv Z23 [⟨6,7,739636⟩] [] _ m (hF.up hS) (hS.cell (by simp) eQ) (fq.up hT) (Znz sp0 (by decide)) (ZnA rfl (by decide)) (λY _=>Z5R _ _ _ _ _ _ Y) ZwX ZwT ⟨[Z1p],rfl⟩ mo (ZT _ _) (by decide)) λx5 hU hS=>?_
 replace hT:=hT.trans hU;replace fV:=fV.up hT;replace e7:=e7.up hT;clear hT hU mo;refine QO ?_;refine Z7 rfl (Z7l 4 739638 739638) rfl ?_;refine W ?_;refine Z7 rfl (Z7l 5 739620 739621) rfl ?_;refine W ?_;refine Z0 (Z1 rfl (ZcL ⟨4,739638,739638⟩ ⟨5,739620,739621⟩)) rfl ?_;rintro mv x6 hN;have mo:SlV [] x6 mv [(⟨4,739638,739638⟩:Rsn),⟨5,739620,739621⟩]:=hN.slv (by simp) rfl (by simp) (by simp [maxLen]);have hT:=Z9.stp hN;clear hN;replace hS:=hS.trans hT;refine W ?_;refine CP (hv:=Zf9 rfl rfl rfl rfl rfl) hS (Z38 (Z0B [Zn] [(739620,739621)] 739630) (exR fv rv sv) 739638 0 mv Z23 [⟨4,739638,739638⟩,⟨5,739620,739621⟩] [] _ m (hF.up hS) (hS.cell (by simp) eQ) (fV.up hT) (ZaZ sp1 (by decide)) (Zb0 (by decide +kernel) (by decide)) (λY _=>Z5R _ _ _ _ _ _ Y) ZwY ZwU ⟨[],rfl⟩ mo (ZT _ _) (by decide)) λx7 hU hS=>?_
 refine RT ?_;exact ⟨rfl,hS⟩
theorem Z1D.facts {c:Cas} {R:Z0T} {w} (h:Z1D w c R) {fs:List Fct} {fv:Value} (hf:SlV [] w fv fs):Z1D w { c with fcts:=fs } { R with fv:=fv }:=⟨hf,h.rr,h.aa,h.cc,h.ss,h.cal,h.one⟩
theorem ZgO (c:Cas) (R:Z0T) (d:Dln) (dv:Value) (w) (hs:SlV [] w R.rv c.ruls) (hd:SlV [] w dv d.reas) :
 CC 22 #[.agg (Jw c R).toArray,.agg (dlC d dv).toArray] w λv w'=>v=.tuple #[.I (Z8y c d).1,.B (Z8y c d).2]/\Stp [] w w':=by
 have xA:=hd.max;have gF:=hs.max;unfold Z8y;refine cW2 34 Tryz.func22 ?_;refine W ?_;refine BX (Stp.refl [] w) λb2 w1 h2 e2 _ hS=>?_;replace e2:Blk w1 b2 37 (Jw c R):=e2;refine BX hS λb3 w2 h3 e3 hT hS=>?_;replace e3:Blk w2 b3 56 (dlC d dv):=e3;replace e2:=e2.up hT;have l2:=e2.lt;have l3:=e3.lt;replace hs:=hs.up hS;replace hd:=hd.up hS;by_cases hl:d.reas.length<2;refine RT ?_;exact ⟨by rw [if_pos (.inl hl)],hS⟩;have fe:1<d.reas.length:=by omega
 have hg:d.reas.getD 1 ZgC=d.reas[1]:=by simp [fe]
 rw [hg]
 (refine QP ?_ ?_<;>intro hc)
 refine RU ?_;exact ⟨by rw [if_pos (.inr (by assumption))],hS⟩
 . have hk:d.reas[1].kind=2:=Decidable.byContradiction (by assumption)
   repeat'(first|refine W1 ?_|omega|refine VG ?_ ?_<;>intro hg|refine VC ?_ ?_<;>intro hc)
   have hq:¬ (d.reas.length<2\/d.reas[1].kind≠2):=λh=>h.elim hl (λh=>h hk);rw [if_neg hq];clear hq;refine ZDr 12 [] [] [(0,0),(1,0),(2,0),(3,0),(4,0),(5,0),(6,1),(7,0),(8,0),(9,0),(10,0),(11,0)] (λw1 ae=>?_);replace e2:=e2.up ae;replace hS:=hS.trans ae;replace hs:=hs.up ae
   (refine QE ?_ ?_<;>intro hg)
   all_goals refine QO ?_
   all_goals refine WR ?_
   all_goals refine .mk ⟨?_,hS⟩
   all_goals congr 4
   congr 1;dsimp only;rw [decide_eq_decide];exact ⟨λh=>⟨hg,h⟩,λh=>h.2⟩;congr 1;exact (decide_eq_false (λh=>hg h.1)).symm
theorem Zkv {c:Cas} (h:Z55 c) {d:Dln} (hd:d∈Z0M c):0<=d.due/\d.due<=3652058/\0<=d.trig.day/\d.trig.day<=3652058:=by
 obtain ⟨f,hf,r,hr,h1,rfl⟩:=Z2F hd;have j6:Z0o f:=(Xh.1 hf).elim (h.fo f) (Z57 h f);obtain ⟨a,b,e⟩:=Z7j h.ok j6 h1;rw [a];exact ⟨b,e,j6.day.1,j6.day.2⟩
end Go.Proofs.YtipfkbkkndacjaaGreatDoor
namespace Go.EngB
open Go Go.Eng Go.RowKit Go.Proofs
structure StpB (S:Nat×List Nat) (w w':World):Prop where
 os:w'.os=w.os
 tape:w'.tape=w.tape
 output:w'.output=w.output
 size:w.heap.size<=w'.heap.size
 block:∀ b,b<S.1->b∉S.2->w'.heap[b]?=w.heap[b]?
theorem StpB.refl (S:Nat×List Nat) (w):StpB S w w:=⟨rfl,rfl,rfl,Xn _,λ_ _ _=>rfl⟩
theorem StpB.trans {S:Nat×List Nat} {a b c:World} (h:StpB S a b) (k:StpB S b c):StpB S a c:=
 ⟨k.os.trans h.os,k.tape.trans h.tape,k.output.trans h.output,Xg h.size k.size,λx hx hn=>(k.block x hx hn).trans (h.block x hx hn)⟩
theorem StpB.of {B:Nat} {S:List Nat} {w w':World} (h:Stp S w w') (hB:B<=w.heap.size) (hS:∀ b∈S,B<=b):StpB (B,[]) w w':=
 ⟨h.os,h.tape,h.output,h.size,λb hb _=>h.block b (Xa hb hB) (λhm=>by have:=hS b hm;omega)⟩
theorem StpB.blk {B b T:Nat} {cs:List Value} {w w':World} (h:StpB (B,[]) w w') (hb:Blk w b T cs) (hl:b<B):Blk w' b T cs:=by
 unfold Blk at *;rw [h.block b hl (by simp)];exact hb
instance:Rl (Nat×List Nat):=⟨StpB,StpB.refl,λh k=>h.trans k⟩
abbrev WD (P:Program) (n:Nat) (ops:Array Oper) (S:Nat×List Nat) (Lt:List Nat) (Q:Exit->Act->World->Prop) (ord:List (Nat×Nat)) (e:Env) (w:World):Prop:=WG P n ops S Lt Q ord e w
section
variable {P:Program} {n:Nat} {Q:Exit->Act->World->Prop} {e:Env} {w:World} {ops:Array Oper} {Lt:List Nat} {rest:List (Nat×Nat)} {i d:Nat} {op:Op} {ty:TypeId} {pos:String} {af:Array Edge} {gd:Option (Nat×Bool)} {v:Value}
theorem WC_drawn {id:Nat} {l:List Oper} (m:Nat) (S:Nat×List Nat) (Lt:List Nat) (ord:List (Nat×Nat)) (cp:l.length=m) (hm:P.follows .mixedOrders=true) (hs:Region.noSelect l.toArray=true) (hl:Nat.beq (wt ord) l.length=true)
 (hB:ZY l.toArray Lt ord (Array.replicate m false)=true)
 (h:∀ w',Stp [] w w'->WD P n l.toArray S Lt Q ord e w'):WC P n (.region id l.toArray true) Q e w:=Z90 m S Lt ord cp hm hs hl hB h
theorem WD_read {S:Nat×List Nat} (hi:ops[i]?=some ⟨some d,op,ty,pos,af,gd⟩) (hg:JT ops e gd) (hp:∀ w',StpB S w w'->PR P n ⟨some d,op,ty,pos,af,gd⟩ e w' v) (aw:Nat.blt d n=true)
 (k:WD P n ops S Lt Q rest ((d,v) :: e) w):WD P n ops S Lt Q ((i,1) :: rest) e w:=Zef hi hg hp aw k
end
end Go.EngB
