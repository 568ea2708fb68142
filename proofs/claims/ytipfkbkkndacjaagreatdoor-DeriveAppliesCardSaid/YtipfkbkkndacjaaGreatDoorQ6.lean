/-
Contracts and plain laws, merged out of own texts.
-/
import Derived.Test.YtipfkbkkndacjaaGreatDoorQ5
import Derived.WideLaws
set_option linter.unusedVariables false
set_option linter.unusedSimpArgs false
set_option maxHeartbeats 4000000
set_option maxRecDepth 20000
namespace Go.Proofs.YtipfkbkkndacjaaGreatDoor
open Go Go.Eng Go.RowKit
def cL (b0 b5 b6:Bool) (hv cv zo zs hr:Value):List Value:=[.B b0,.B false,.B false,.B false,.B false,.B b5,.B b6,hv,cv,zo,zs,hr]
theorem ZnV (w):(Instr.buildSlice 23 4 #[(0,.I 1439),(1,.I 1020),(2,.I 0),(3,.I 720)]).run Tryz.prog w=.ok (.slice (some ⟨w.heap.size,0,none⟩) 4 4) (w.alloc (.cells #[.I 1439,.I 1020,.I 0,.I 720] 3)):=by kernel_rfl
theorem ZnW (h:Int) (w):(Instr.build 35 #[(4,.I h)]).run Tryz.prog w=.ok (.agg (cL false false false (.N) (.N) (.I 0) (.N) (.I h)).toArray) w:=by kernel_rfl
theorem Zts (a b c:Int) (w):(Instr.build 138 #[(0,.I a),(1,.I b),(7,.I 1),(8,.I 9999),(6,.I c)]).run Tryz.prog w=.ok (agg (⟨a,b,0,0,0,0,c,1,9999⟩:Hol)) w:=by kernel_rfl
theorem ZnX (h:Hol) (w):(Instr.buildSlice 29 1 #[(0,agg h)]).run Tryz.prog w=.ok (.slice (some ⟨w.heap.size,0,none⟩) 1 1) (w.alloc (.cells (Z3.enc h).toArray 138)):=by kernel_rfl
theorem Z7G (a b c:Int) (w):(Instr.build 73 #[(0,.I a),(1,.I b),(2,.I c)]).run Tryz.prog w=.ok (agg (⟨a,b,c⟩:Clo)) w:=by kernel_rfl
theorem ZnY (h:Clo) (w):(Instr.buildSlice 30 1 #[(0,agg h)]).run Tryz.prog w=.ok (.slice (some ⟨w.heap.size,0,none⟩) 1 1) (w.alloc (.cells (Z3.enc h).toArray 73)):=by kernel_rfl
def ZcW (x:Clo):Prop:=739616<=x.lo/\x.lo<739736/\x.lo<=x.hi/\x.hi<=x.lo+5/\739616<=x.known/\x.known<739746
structure ZoE (c:Cal):Prop where
 ok:ZjQ c
 wk:∃ b0 b5 b6:Bool,c.week=[b0,false,false,false,false,b5,b6]
 h3:c.hols.length<=3
 c3:c.clos.length<=3
 cl:∀ x∈c.clos,ZcW x
theorem Z8S (X:List Nat) (v:Value) (l:List Int) (w:World) (hX:∀ b∈X,b<w.heap.size) (hs:SlV [] w v l) (hl:∀ a∈l,I64 a) :
 CC 32 #[v] w λr w'=>∃ (c:Cal) (hv cv zo zs hr:Value),r=Z5Z c hv cv zo zs hr/\(zo.oneCell'=true/\zs.oneCell'=true/\hr.oneCell'=true)/\ZoE c/\SlV X w' hv c.hols/\SlV X w' cv c.clos/\Stp [] w w':=by
 have aS:=hs.max;refine cW1 160 Tryz.func32 ?_;refine W ?_;refine Z0 Z2 rfl ?_;rintro _ w1 ⟨b2,rfl,cu,k2,hS⟩;refine W ?_;refine Z0 (Z1 (vs:=[(0,.I 1439),(1,.I 1020),(2,.I 0),(3,.I 720)]) rfl (ZnV)) rfl ?_;rintro bv w2 hN;have aq:SlV [] w2 bv ([1439,1020,0,720]:List Int):=hN.slv (by simp) rfl rfl (by simp [maxLen]);have hT:=Z9.stp hN;clear hN;replace k2:=k2.up hT;replace hS:=hS.trans hT;clear hT;refine W ?_;refine CM (ZN rfl rfl rfl) (J3 [] _ l 0 4 _ (by decide) (by unfold I64;omega) (hs.up hS) hl) ?_;rintro _ wn ⟨q0,rfl,rT,hT⟩;replace aq:=aq.up hT;replace k2:=k2.up hT;replace hS:=hS.trans hT;clear hT;have xc:q0<([1439,1020,0,720]:List Int).length:=by simp only [Xe,Xg];omega
 refine W ?_;generalize ([1439,1020,0,720]:List Int)[q0]=hr;refine Z7 (vs:=[(4,.I hr)]) rfl (ZnW _) rfl ?_;have k2lt:=k2.lt;clear aq;refine Z0 Z2 rfl ?_;rintro _ w3 ⟨b3,rfl,dG,k3,hT⟩;replace k2:=k2.up hT;replace hS:=hS.trans hT;clear hT;refine W ?_;have n23:b2≠b3:=by omega
 refine SB (us:=cL false false false (.N) (.N) (.I 0) (.N) (.I hr)) (by simp [cL,Value.oneCell']) k3 ?_;rintro _ w4 ⟨hT,k3⟩;replace k2:=k2.ext hT (by simpa using n23);replace hS:=hS.ow hT;clear hT;have k3lt:=k3.lt;have k2lt':=k2.lt;have xd:w.heap.size<=b3:=by have:=k3lt;have:=hS.size;omega
 refine W ?_;refine CM (ZN rfl rfl rfl) (J3 [] _ l 1 8 _ (by decide) (by unfold I64;omega) (hs.up hS) hl) ?_;rintro _ wn ⟨q1,rfl,hq1,hT⟩;replace k3:=k3.up hT;replace k2:=k2.up hT;replace hS:=hS.trans hT;clear hT;refine W ?_;refine Z31 (len:=7) (i:=5) rfl rfl rfl (by decide) rfl ?_;refine Z6 (Zb (u:=.B (decide (¬ (q1:Int)=1))) rfl rfl rfl rfl k3 (by simp [cL])) ?_;rintro _ wn ⟨hT,k3⟩;replace k3:Blk wn b3 35 (cL false (decide (¬ (q1:Int)=1)) false (.N) (.N) (.I 0) (.N) (.I hr)):=k3;replace k2:=k2.ext hT (by simpa using n23);replace hS:=hS.ow hT;clear hT;refine W ?_;refine Z31 (len:=7) (i:=6) rfl rfl rfl (by decide) rfl ?_;refine Z6 (Zb (u:=.B (decide (¬ (q1:Int)=2))) rfl rfl rfl rfl k3 (by simp [cL])) ?_;rintro _ wn ⟨hT,k3⟩;replace k3:Blk wn b3 35 (cL false (decide (¬ (q1:Int)=1)) (decide (¬ (q1:Int)=2)) (.N) (.N) (.I 0) (.N) (.I hr)):=k3;replace k2:=k2.ext hT (by simpa using n23);replace hS:=hS.ow hT;clear hT;refine W ?_;refine Z6 (Zb (u:=.B (decide ((q1:Int)=3))) rfl rfl rfl rfl k3 (by simp [cL])) ?_;rintro _ w5 ⟨hT,k3⟩;replace k3:Blk w5 b3 35 (cL (decide ((q1:Int)=3)) (decide (¬ (q1:Int)=1)) (decide (¬ (q1:Int)=2)) (.N) (.N) (.I 0) (.N) (.I hr)):=k3;replace k2:=k2.ext hT (by simpa using n23);replace hS:=hS.ow hT;clear hT;refine W ?_;generalize decide ((q1:Int)=3)=b0 at k3 ⊢;generalize decide (¬ (q1:Int)=1)=b5 at k3 ⊢;generalize decide (¬ (q1:Int)=2)=b6 at k3 ⊢;replace k2:Blk w5 b2 35 ((.agg (cL false false false (.N) (.N) (.I 0) (.N) (.I 0)).toArray:Value).cells.toList):=k2;have xf:=hS.size;have k3lt5:=k3.lt;have k2lt5:=k2.lt;refine Z0j (σ:=Value×List Hol) (λq=>[(0,v),(2,pQ b2),(3,pQ b3)]) (λq w'=>q.2.length<=3/\Blk w' b2 35 ((.agg (cL false false false (.N) (.N) (.I 0) (.N) (.I 0)).toArray:Value).cells.toList)/\Blk w' b3 35 (cL b0 b5 b6 q.1 (.N) (.I 0) (.N) (.I hr))/\Row [] w' w5.heap.size 138 q.1 q.2/\(∀ x∈q.2,Z24 x)/\Stp [b3] w5 w') ?_ ?_
 refine Zu (σ:=Nat×Value×List Hol) (λq=>[(0,v),(2,pQ b2),(3,pQ b3),(5,.I (q.1:Int))]) (λq w'=>q.1<=3/\q.2.2.length<=q.1/\Blk w' b2 35 ((.agg (cL false false false (.N) (.N) (.I 0) (.N) (.I 0)).toArray:Value).cells.toList)/\Blk w' b3 35 (cL b0 b5 b6 q.2.1 (.N) (.I 0) (.N) (.I hr))/\Row [] w' w5.heap.size 138 q.2.1 q.2.2/\(∀ x∈q.2.2,Z24 x)/\Stp [b3] w5 w') (λq=>3 - q.1)
  (0,.N,[]) ⟨rfl,rfl,rfl,rfl,trivial⟩ ⟨by decide,by decide,k2,k3,Row.nil,by simp,Stp.refl _ _⟩ ?_
 rintro ⟨j,hv,hols⟩ w6 ⟨rW,ai,k2,k3,ab,fO,aK⟩;dsimp only at rW ai k3 ab fO ⊢;have cP:=hs.up (hS.ow aK);have rX:=ab.ob_le;refine W ?_;refine CM (ZN rfl rfl rfl) (J3 [] _ l 2 4 _ (by decide) (by unfold I64;omega) cP hl) ?_;rintro _ wn ⟨q,rfl,hq,hT⟩;replace k3:=k3.up hT;replace k2:=k2.up hT;replace ab:=ab.up hT;replace cP:=cP.up hT;replace aK:=aK.trans hT.mn;clear hT;by_cases hlt:(j:Int)<(q:Int);refine QO ?_;refine CM (ZN rfl rfl rfl) (J3 [] _ l (3+2 * (j:Int)) 1000000 _ (by decide) (by unfold I64;omega) cP hl) ?_;rintro _ wn ⟨x,rfl,hx,hT⟩;replace k3:=k3.up hT;replace k2:=k2.up hT;replace ab:=ab.up hT;replace cP:=cP.up hT;replace aK:=aK.trans hT.mn;clear hT;refine W ?_;refine CM (ZN rfl rfl rfl) (J3 [] _ l (4+2 * (j:Int)) 1000000 _ (by decide) (by unfold I64;omega) cP hl) ?_;rintro _ wn ⟨y,rfl,hy,hT⟩;replace k3:=k3.up hT;replace k2:=k2.up hT;replace ab:=ab.up hT;replace cP:=cP.up hT;replace aK:=aK.trans hT.mn;clear hT;refine W ?_;refine Z7 (vs:=[(0,.I (1+(x:Int) % 4)),(1,.I (1+(x:Int) / 4 % 4)),(7,.I 1),(8,.I 9999),(6,.I ((y:Int) % 3))]) rfl (Zts _ _ _) rfl ?_;have xg:=k3.lt;have xh:=k2.lt;have nU:=ab.ob_le;have xi:=aK.size;refine Z0 Z2 rfl ?_;rintro _ wn ⟨b8,rfl,eO,k8,hT⟩;replace k3:=k3.up hT;replace k2:=k2.up hT;replace ab:=ab.up hT;replace cP:=cP.up hT;replace aK:=aK.trans hT.mn;clear hT;refine W ?_;have iW:b8≠b2/\b8≠b3/\b8∉ob hv:=⟨by omega,by omega,λh=>by have:=(nU _ h).2;omega⟩
 have cK:w5.heap.size<=b8:=by omega
 generalize ig:1+(x:Int) % 4=m1;generalize eW:1+(x:Int) / 4 % 4=m2;generalize pi:(y:Int) % 3=m3;refine SA (us:=Z3.enc (⟨m1,m2,0,0,0,0,m3,1,9999⟩:Hol)) k8 ?_;rintro _ wn ⟨hT,k8⟩;replace k3:=k3.ext hT (by simp;omega);replace k2:=k2.ext hT (by simp;omega);replace ab:=ab.keep hT (by simp;exact iW.2.2);replace aK:=aK.ow hT;clear hT;replace k8:Blk wn b8 138 [.I m1,.I m2,.I 0,.I 0,.I 0,.I 0,.I m3,.I 1,.I 9999]:=k8;clear cP;refine W ?_
 refine Z0j (σ:=Hol) (λ_=>[(0,v),(2,pQ b2),(3,pQ b3),(5,.I (j:Int)),(8,pQ b8)])
  (λh w'=>Z24 h/\Blk w' b8 138 [.I h.kind,.I h.month,.I h.day,.I h.wd,.I h.nth,.I h.off,.I h.move,.I h.first,.I h.last]/\Blk w' b2 35 ((.agg (cL false false false (.N) (.N) (.I 0) (.N) (.I 0)).toArray:Value).cells.toList)/\Blk w' b3 35 (cL b0 b5 b6 hv (.N) (.I 0) (.N) (.I hr))/\Row [] w' w5.heap.size 138 hv hols/\Stp [b3] w5 w') ?_ ?_
 have hk:m1=1\/m1=2\/m1=3\/m1=4:=by omega
 rcases hk with rfl|rfl|rfl|rfl
 refine W ?_;refine S1 (u:=.I (1+(y:Int) / 3 % 31)) k8 ?_;rintro _ wn ⟨hT,k8⟩;replace k8:Blk wn b8 138 [.I (1),.I (m2),.I (1+(y:Int) / 3 % 31),.I (0),.I (0),.I (0),.I (m3),.I (1),.I (9999)]:=k8;replace k3:=k3.ext hT (by simp;omega);replace k2:=k2.ext hT (by simp;omega);replace ab:=ab.keep hT (by simp;exact iW.2.2);replace aK:=aK.ow hT;clear hT;refine W ?_;have gG:Z24 (⟨1,m2,1+(y:Int) / 3 % 31,0,0,0,m3,1,9999⟩:Hol):=by constructor<;>dsimp only<;>omega
 exact Zy (⟨1,m2,1+(y:Int) / 3 % 31,0,0,0,m3,1,9999⟩:Hol) ⟨rfl,rfl,rfl,rfl,rfl,trivial⟩ ⟨gG,k8,k2,k3,ab,aK⟩;refine W ?_;refine S1 (u:=.I ((y:Int) / 3 % 7)) k8 ?_;rintro _ wn ⟨hT,k8⟩;replace k8:Blk wn b8 138 [.I (2),.I (m2),.I (0),.I ((y:Int) / 3 % 7),.I (0),.I (0),.I (m3),.I (1),.I (9999)]:=k8;replace k3:=k3.ext hT (by simp;omega);replace k2:=k2.ext hT (by simp;omega);replace ab:=ab.keep hT (by simp;exact iW.2.2);replace aK:=aK.ow hT;clear hT;refine W ?_;refine S1 (u:=.I (1+(y:Int) / 21 % 5)) k8 ?_;rintro _ wn ⟨hT,k8⟩;replace k8:Blk wn b8 138 [.I (2),.I (m2),.I (0),.I ((y:Int) / 3 % 7),.I (1+(y:Int) / 21 % 5),.I (0),.I (m3),.I (1),.I (9999)]:=k8;replace k3:=k3.ext hT (by simp;omega);replace k2:=k2.ext hT (by simp;omega);replace ab:=ab.keep hT (by simp;exact iW.2.2);replace aK:=aK.ow hT;clear hT;refine W ?_;refine S1 (u:=.I (0)) k8 ?_;rintro _ wn ⟨hT,k8⟩;replace k8:Blk wn b8 138 [.I (2),.I (m2),.I (0),.I ((y:Int) / 3 % 7),.I (1+(y:Int) / 21 % 5),.I (0),.I (0),.I (1),.I (9999)]:=k8;replace k3:=k3.ext hT (by simp;omega);replace k2:=k2.ext hT (by simp;omega);replace ab:=ab.keep hT (by simp;exact iW.2.2);replace aK:=aK.ow hT;clear hT;refine W ?_;have gG:Z24 (⟨2,m2,0,(y:Int) / 3 % 7,1+(y:Int) / 21 % 5,0,0,1,9999⟩:Hol):=by constructor<;>dsimp only<;>omega
 exact Zy (⟨2,m2,0,(y:Int) / 3 % 7,1+(y:Int) / 21 % 5,0,0,1,9999⟩:Hol) ⟨rfl,rfl,rfl,rfl,rfl,trivial⟩ ⟨gG,k8,k2,k3,ab,aK⟩;refine W ?_;refine S1 (u:=.I ((y:Int) / 3 % 7)) k8 ?_;rintro _ wn ⟨hT,k8⟩;replace k8:Blk wn b8 138 [.I (3),.I (m2),.I (0),.I ((y:Int) / 3 % 7),.I (0),.I (0),.I (m3),.I (1),.I (9999)]:=k8;replace k3:=k3.ext hT (by simp;omega);replace k2:=k2.ext hT (by simp;omega);replace ab:=ab.keep hT (by simp;exact iW.2.2);replace aK:=aK.ow hT;clear hT;refine W ?_;refine S1 (u:=.I (0)) k8 ?_;rintro _ wn ⟨hT,k8⟩;replace k8:Blk wn b8 138 [.I (3),.I (m2),.I (0),.I ((y:Int) / 3 % 7),.I (0),.I (0),.I (0),.I (1),.I (9999)]:=k8;replace k3:=k3.ext hT (by simp;omega);replace k2:=k2.ext hT (by simp;omega);replace ab:=ab.keep hT (by simp;exact iW.2.2);replace aK:=aK.ow hT;clear hT;refine W ?_;have gG:Z24 (⟨3,m2,0,(y:Int) / 3 % 7,0,0,0,1,9999⟩:Hol):=by constructor<;>dsimp only<;>omega
 exact Zy (⟨3,m2,0,(y:Int) / 3 % 7,0,0,0,1,9999⟩:Hol) ⟨rfl,rfl,rfl,rfl,rfl,trivial⟩ ⟨gG,k8,k2,k3,ab,aK⟩;refine W ?_;refine S1 (u:=.I ((y:Int) / 3 % 61 - 10)) k8 ?_;rintro _ wn ⟨hT,k8⟩;replace k8:Blk wn b8 138 [.I (4),.I (m2),.I (0),.I (0),.I (0),.I ((y:Int) / 3 % 61 - 10),.I (m3),.I (1),.I (9999)]:=k8;replace k3:=k3.ext hT (by simp;omega);replace k2:=k2.ext hT (by simp;omega);replace ab:=ab.keep hT (by simp;exact iW.2.2);replace aK:=aK.ow hT;clear hT;refine W ?_;refine S1 (u:=.I (0)) k8 ?_;rintro _ wn ⟨hT,k8⟩;replace k8:Blk wn b8 138 [.I (4),.I (0),.I (0),.I (0),.I (0),.I ((y:Int) / 3 % 61 - 10),.I (m3),.I (1),.I (9999)]:=k8;replace k3:=k3.ext hT (by simp;omega);replace k2:=k2.ext hT (by simp;omega);replace ab:=ab.keep hT (by simp;exact iW.2.2);replace aK:=aK.ow hT;clear hT;refine W ?_;have gG:Z24 (⟨4,0,0,0,0,(y:Int) / 3 % 61 - 10,m3,1,9999⟩:Hol):=by constructor<;>dsimp only<;>omega
 exact Zy (⟨4,0,0,0,0,(y:Int) / 3 % 61 - 10,m3,1,9999⟩:Hol) ⟨rfl,rfl,rfl,rfl,rfl,trivial⟩ ⟨gG,k8,k2,k3,ab,aK⟩;rintro hh wq ⟨gG,k8,k2,k3,ab,aK⟩;refine W ?_;refine Z0 (Z1 (vs:=[(0,agg hh)]) rfl (ZnX _)) rfl ?_;rintro bw wn hN;have eP:SlV (ob hv++[]) wn bw [hh]:=hN.slv (λb hb=>(ab.ob_le b (by simpa using hb)).2) rfl rfl (by simp [maxLen]);have hT:=Z9.stp hN;clear hN;replace k3:=k3.up hT;replace k2:=k2.up hT;replace ab:=ab.up hT;replace aK:=aK.trans hT.mn;clear hT;have br:=ab.ob_le;have aZ:=aK.size;refine Z0 (ZF (X:=[]) (base:=w5.heap.size) rfl (by decide) rfl rfl ab eP (by simp only [Xe,Xg];omega) (by simp only [Xe,Xg,maxLen];omega) aZ) rfl ?_;rintro rY wn ⟨ab,hT,gX⟩;replace k2:=k2.ext hT (λh=>by have:=(br _ h).1;omega);replace k3:=k3.ext hT (λh=>by have:=(br _ h).1;omega);replace aK:Stp [b3] w5 wn:=aK.own hT (λc hc=>.inr (br c hc).1);clear hT;have bJ:=ab.ob_le;refine W ?_;refine Z6 (Zb (u:=rY) rfl rfl (Row.slv (X:=[]) ab (by simp)).cells (Row.slv (X:=[]) ab (by simp)).one k3 (by simp [cL])) ?_;rintro _ wn ⟨hT,k3⟩;replace k3:Blk wn b3 35 (cL b0 b5 b6 rY (.N) (.I 0) (.N) (.I hr)):=k3;replace k2:=k2.ext hT (by simpa using n23);replace ab:=ab.keep hT (λb hb h=>by have:=bJ _ h;simp at hb;omega);replace aK:=aK.trans hT;clear hT;refine W ?_;refine QL (j+1,rY,hols++[hh]) ⟨by dsimp only;omega,by dsimp only;rw [Xc];simp only [Xe,Xg];omega,k2,k3,ab,?_,aK⟩ (by dsimp only;omega);intro z hz;rcases Xf.1 hz with h|h
 exact fO z h;rw [Xi.1 h];exact gG
 . refine QO ?_
   all_goals exact QT (hv,hols) ⟨(by dsimp only;omega),k2,k3,ab,fO,aK⟩
 rintro ⟨hv,hols⟩ w6 ⟨iw,k2,k3,ab,fO,aK⟩;dsimp only at iw k3 ab fO ⊢;have fa:SlV (b2 :: b3 :: X) w6 hv hols:=Row.slv (X:=b2 :: b3 :: X) ab (λb hb=>by
  rcases Xb.1 hb with rfl|hb
  omega;rcases Xb.1 hb with rfl|hb
  omega;have:=hX b hb;omega)
 replace hS:=hS.ow aK;clear ab aK;have xj:=hS.size;have k3lt6:=k3.lt;have k2lt6:=k2.lt;refine W ?_;refine Z0j (σ:=Value×List Clo) (λq=>[(0,v),(2,pQ b2),(3,pQ b3)]) (λq w'=>q.2.length<=3/\(∀ x∈q.2,ZcW x)/\Blk w' b2 35 ((.agg (cL false false false (.N) (.N) (.I 0) (.N) (.I 0)).toArray:Value).cells.toList)/\Blk w' b3 35 (cL b0 b5 b6 hv q.1 (.I 0) (.N) (.I hr))/\Row [] w' w6.heap.size 73 q.1 q.2/\Stp [b3] w6 w') ?_ ?_
 refine Zu (σ:=Nat×Value×List Clo) (λq=>[(0,v),(2,pQ b2),(3,pQ b3),(9,.I (q.1:Int))]) (λq w'=>q.1<=3/\q.2.2.length<=q.1/\(∀ x∈q.2.2,ZcW x)/\Blk w' b2 35 ((.agg (cL false false false (.N) (.N) (.I 0) (.N) (.I 0)).toArray:Value).cells.toList)/\Blk w' b3 35 (cL b0 b5 b6 hv q.2.1 (.I 0) (.N) (.I hr))/\Row [] w' w6.heap.size 73 q.2.1 q.2.2/\Stp [b3] w6 w') (λq=>3 - q.1)
  (0,.N,[]) ⟨rfl,rfl,rfl,rfl,trivial⟩ ⟨by decide,by decide,(by simp),k2,k3,Row.nil,Stp.refl _ _⟩ ?_
 rintro ⟨j,cv,clos⟩ w7 ⟨rW,ai,gP,k2,k3,ab,aK⟩;dsimp only at rW ai k3 ab ⊢;have cP:=hs.up (hS.ow aK);have rX:=ab.ob_le;refine W ?_;refine CM (ZN rfl rfl rfl) (J3 [] _ l 9 4 _ (by decide) (by unfold I64;omega) cP hl) ?_;rintro _ wn ⟨q,rfl,hq,hT⟩;replace k3:=k3.up hT;replace k2:=k2.up hT;replace ab:=ab.up hT;replace cP:=cP.up hT;replace aK:=aK.trans hT.mn;clear hT;by_cases hlt:(j:Int)<(q:Int);refine QO ?_;refine CM (ZN rfl rfl rfl) (J3 [] _ l (10+(j:Int)) 1000000 _ (by decide) (by unfold I64;omega) cP hl) ?_;rintro _ wn ⟨x,rfl,hx,hT⟩;replace k3:=k3.up hT;replace k2:=k2.up hT;replace ab:=ab.up hT;replace cP:=cP.up hT;replace aK:=aK.trans hT.mn;clear hT;refine W ?_;refine Z7 (vs:=[(0,.I (739616+(x:Int) % 120)),(1,.I (739616+(x:Int) % 120+(x:Int) / 120 % 6)),(2,.I (739616+(x:Int) / 720 % 130))]) rfl (Z7G _ _ _) rfl ?_;have px:ZcW ⟨739616+(x:Int) % 120,739616+(x:Int) % 120+(x:Int) / 120 % 6,739616+(x:Int) / 720 % 130⟩:=by unfold ZcW;dsimp only;omega
 generalize 739616+(x:Int) % 120=lo at px ⊢;generalize lo+(x:Int) / 120 % 6=hi at px ⊢;generalize 739616+(x:Int) / 720 % 130=kn at px ⊢;refine Z0 (Z1 (vs:=[(0,agg (⟨lo,hi,kn⟩:Clo))]) rfl (ZnY _)) rfl ?_;rintro bw wn hN;have eP:SlV (ob cv++[]) wn bw [(⟨lo,hi,kn⟩:Clo)]:=hN.slv (λb hb=>(ab.ob_le b (by simpa using hb)).2) rfl rfl (by simp [maxLen]);have hT:=Z9.stp hN;clear hN;replace k3:=k3.up hT;replace k2:=k2.up hT;replace ab:=ab.up hT;replace aK:=aK.trans hT.mn;clear hT;have br:=ab.ob_le;have aZ:=aK.size;refine Z0 (ZF (X:=[]) (base:=w6.heap.size) rfl (by decide) rfl rfl ab eP (by simp only [Xe,Xg];omega) (by simp only [Xe,Xg,maxLen];omega) aZ) rfl ?_;rintro cv' wn ⟨ab,hT,gX⟩;replace k2:=k2.ext hT (λh=>by have:=(br _ h).1;omega);replace k3:=k3.ext hT (λh=>by have:=(br _ h).1;omega);replace aK:Stp [b3] w6 wn:=aK.own hT (λc hc=>.inr (br c hc).1);clear hT;have bJ:=ab.ob_le;refine W ?_;refine Z6 (Zb (u:=cv') rfl rfl (Row.slv (X:=[]) ab (by simp)).cells (Row.slv (X:=[]) ab (by simp)).one k3 (by simp [cL])) ?_;rintro _ wn ⟨hT,k3⟩;replace k3:Blk wn b3 35 (cL b0 b5 b6 hv cv' (.I 0) (.N) (.I hr)):=k3;replace k2:=k2.ext hT (by simpa using n23);replace ab:=ab.keep hT (λb hb h=>by have:=bJ _ h;simp at hb;omega);replace aK:=aK.trans hT;clear hT;refine W ?_;refine Zx (j+1,cv',clos++[(⟨lo,hi,kn⟩:Clo)]) ⟨rfl,rfl,rfl,rfl,trivial⟩ ⟨by dsimp only;omega,by dsimp only;rw [Xc];simp only [Xe,Xg];omega,(λy hy=>by rcases Xf.1 hy with h|h;exact gP y h;rw [Xi.1 h];exact px),k2,k3,ab,aK⟩ (by dsimp only;omega)
 . refine QO ?_
   all_goals exact QT (cv,clos) ⟨(by dsimp only;omega),gP,k2,k3,ab,aK⟩
 rintro ⟨cv,clos⟩ w7 ⟨nV,gP,k2,k3,ab,aK⟩;dsimp only at k3 ab ⊢;have ca:SlV (b2 :: b3 :: X) w7 cv clos:=Row.slv (X:=b2 :: b3 :: X) ab (λb hb=>by
  rcases Xb.1 hb with rfl|hb
  omega;rcases Xb.1 hb with rfl|hb
  omega;have:=hX b hb;omega)
 replace fa:SlV (b2 :: b3 :: X) w7 hv hols:=fa.ext aK (by simp) (λ_ h=>.inl h);replace hS:=hS.ow aK;clear ab aK;have cP:=hs.up hS;have xl:=hS.size;have k3lt7:=k3.lt;have k2lt7:=k2.lt;by_cases cD:13<l.length;refine QO ?_;have ga:=cP.slc (l:=13) (r:=l.length) (by omega) (Xn _);rw [Xp] at ga;refine Z58 (l:=13) rfl cP rfl (by simp) (by omega) rfl ?_;refine W ?_;refine CL (Z8R _ (l.drop 13) _ ga (λa ha=>hl a (YaJ ha))) ?_;rintro _ w8 ⟨zo,zs,xs,rfl,je,jH,hz⟩;have br:=hz.ob_le;have hT:=hz.2;replace k3:=k3.up hT;replace k2:=k2.up hT;have de:=hz.1;replace fa:SlV (b2 :: b3 :: (ob zs++X)) w8 hv hols:=fa.ext hT (by simp) (λb hb=>by
  simp at hb;rcases hb with rfl|rfl|hb|hb
  exact .inl (by simp);exact .inl (by simp);exact .inr (br b hb).1;exact .inl (by simp [hb]))
 replace ca:SlV (b2 :: b3 :: (ob zs++X)) w8 cv clos:=ca.ext hT (by simp) (λb hb=>by
  simp at hb;rcases hb with rfl|rfl|hb|hb
  exact .inl (by simp);exact .inl (by simp);exact .inr (br b hb).1;exact .inl (by simp [hb]))
 replace hS:=hS.trans hT;have eT:b3∉ob zs:=λh=>by have:=(br _ h).1;omega
 have mg:b2∉ob zs:=λh=>by have:=(br _ h).1;omega
 clear hT hz hs cP;refine W ?_;refine Z6 (Z18 (o:=9) (us:=[.I zo,zs]) rfl rfl rfl rfl (by intro u hu;simp at hu;rcases hu with rfl|rfl;exact rfl;exact (Row.slv (X:=[]) de (by simp)).one) k3 (by simp [cL])) ?_;rintro _ w9 ⟨hT,k3⟩;replace k3:Blk w9 b3 35 (cL b0 b5 b6 hv cv (.I zo) zs (.I hr)):=k3;replace k2:=k2.ext hT (by simpa using n23);replace de:=de.keep hT (λb hb h=>by simp at hb;subst hb;exact eT h);replace fa:=fa.ext (X':=b2 :: b3 :: (ob zs++X)) hT (by simp) (λ_ h=>.inl h);replace ca:=ca.ext (X':=b2 :: b3 :: (ob zs++X)) hT (by simp) (λ_ h=>.inl h);replace hS:=hS.ow hT;clear hT;refine W ?_;refine Z0j (σ:=Unit) (λq=>[(2,pQ b2),(3,pQ b3)]) (λq w'=>Stp (ob zs) w9 w') ?_ ?_
 refine Zu (σ:=Nat×List Spn) (λq=>[(2,pQ b2),(3,pQ b3),(13,.I (q.1:Int))]) (λq w'=>q.1<=xs.length/\q.2.length=xs.length/\(∀ i (hi:i<q.2.length),q.1<=i->ZcV q.2[i])/\Row [] w' w7.heap.size 141 zs q.2/\Stp (ob zs) w9 w') (λq=>xs.length - q.1)
  (0,xs) ⟨rfl,rfl,rfl,trivial⟩ ⟨by dsimp only;omega,rfl,(λi hi _=>je _ (Xd hi)),de,Stp.refl _ _⟩ ?_
 rintro ⟨j,ys⟩ wa ⟨hj,fC,cF,de,aK⟩;dsimp only at hj fC cF de ⊢;have k3:=k3.ext aK eT;have dT:SlV [] wa zs ys:=Row.slv (X:=[]) de (by simp);rw [<- fC] at hj;by_cases hlt:j<ys.length;refine QO ?_;have dw:=(cF j hlt (Xn _))
 unfold ZcV at dw;refine ZDr 15 [] [14] [(0,0),(1,0),(2,1),(3,0),(4,0),(5,0),(6,1),(7,0),(8,0),(9,0),(10,1),(11,0),(12,0),(13,0),(14,2)] (λw1 ae=>?_);replace k3:=k3.up ae;replace de:=de.up ae;replace dT:=dT.up ae;replace aK:=aK.trans ae.mn;clear ae;refine D ?_;refine ZO rfl trivial (Z4j (β:=Spn) (i:=j) (y':=((ys[j].1+1065047040,ys[j].2):Spn)) rfl rfl rfl rfl rfl de hlt (by decide) rfl) rfl ?_;rintro _ wb ⟨de,hT⟩;replace aK:=aK.trans hT;refine D ?_;refine W ?_;refine Zx (j+1,ys.set j ((ys[j].1+1065047040,ys[j].2):Spn)) ⟨rfl,rfl,rfl,trivial⟩ ⟨by dsimp only;omega,by dsimp only;rw [X8];exact fC,?_,de,aK⟩ (by dsimp only;omega);intro i hi cT;dsimp only at hi cT ⊢;rw [YaL (by omega)];exact cF i (by rw [X8] at hi;exact hi) (by omega)
 . refine QO ?_
   all_goals exact QT () aK
 rintro _ wa aK;have k3:=k3.ext aK eT;have k2:=k2.ext aK mg;have fa:=fa.ext (X':=b2 :: b3 :: X) aK (λb h=>by simp [h]) (λb h=>.inl (by simp at h;rcases h with rfl|rfl|h<;>simp [*]));have ca:=ca.ext (X':=b2 :: b3 :: X) aK (λb h=>by simp [h]) (λb h=>.inl (by simp at h;rcases h with rfl|rfl|h<;>simp [*]));replace hS:=hS.own aK (λc hc=>.inr (by have:=(br _ hc).1;omega));have nW:zs.oneCell'=true:=(Row.slv (X:=[]) de (by simp)).one;clear aK;refine W ?_;refine SB (us:=cL b0 b5 b6 hv cv (.I zo) zs (.I hr)) (by intro u hu;simp [cL] at hu;rcases hu with rfl|rfl|rfl|rfl|rfl|rfl|rfl|rfl|rfl|rfl|rfl<;>first|exact rfl|exact nW|exact fa.one|exact ca.one) k2 ?_;rintro _ wb ⟨hT,k2⟩;refine W ?_;refine J6 rfl rfl rfl k2 rfl ?_;exact .mk ⟨⟨[b0,false,false,false,false,b5,b6],hols,clos⟩,hv,cv,.I zo,zs,.I hr,rfl,⟨rfl,nW,rfl⟩,⟨⟨rfl,fO,by dsimp only;omega⟩,⟨b0,b5,b6,rfl⟩,iw,nV,gP⟩,fa.ext hT (by simp) (λb h=>.inl (by simp [h])),ca.ext hT (by simp) (λb h=>.inl (by simp [h])),hS.ow hT⟩;refine QO ?_;refine CM (ZR rfl) (Z8R _ [] _ (Row.slv (X:=[]) (Row.nil (base:=0) (T:=0)) (by simp)) (by simp)) ?_;rintro _ w8 ⟨zo,zs,xs,rfl,je,jH,hz⟩;have br:=hz.ob_le;have hT:=hz.2;replace k3:=k3.up hT;replace k2:=k2.up hT;have de:=hz.1;replace fa:SlV (b2 :: b3 :: (ob zs++X)) w8 hv hols:=fa.ext hT (by simp) (λb hb=>by
  simp at hb;rcases hb with rfl|rfl|hb|hb
  exact .inl (by simp);exact .inl (by simp);exact .inr (br b hb).1;exact .inl (by simp [hb]))
 replace ca:SlV (b2 :: b3 :: (ob zs++X)) w8 cv clos:=ca.ext hT (by simp) (λb hb=>by
  simp at hb;rcases hb with rfl|rfl|hb|hb
  exact .inl (by simp);exact .inl (by simp);exact .inr (br b hb).1;exact .inl (by simp [hb]))
 replace hS:=hS.trans hT;have eT:b3∉ob zs:=λh=>by have:=(br _ h).1;omega
 have mg:b2∉ob zs:=λh=>by have:=(br _ h).1;omega
 clear hT hz hs cP;refine W ?_;refine Z6 (Z18 (o:=9) (us:=[.I zo,zs]) rfl rfl rfl rfl (by intro u hu;simp at hu;rcases hu with rfl|rfl;exact rfl;exact (Row.slv (X:=[]) de (by simp)).one) k3 (by simp [cL])) ?_;rintro _ w9 ⟨hT,k3⟩;replace k3:Blk w9 b3 35 (cL b0 b5 b6 hv cv (.I zo) zs (.I hr)):=k3;replace k2:=k2.ext hT (by simpa using n23);replace de:=de.keep hT (λb hb h=>by simp at hb;subst hb;exact eT h);replace fa:=fa.ext (X':=b2 :: b3 :: (ob zs++X)) hT (by simp) (λ_ h=>.inl h);replace ca:=ca.ext (X':=b2 :: b3 :: (ob zs++X)) hT (by simp) (λ_ h=>.inl h);replace hS:=hS.ow hT;clear hT;refine W ?_;refine Z0j (σ:=Unit) (λq=>[(2,pQ b2),(3,pQ b3)]) (λq w'=>Stp (ob zs) w9 w') ?_ ?_
 refine Zu (σ:=Nat×List Spn) (λq=>[(2,pQ b2),(3,pQ b3),(13,.I (q.1:Int))]) (λq w'=>q.1<=xs.length/\q.2.length=xs.length/\(∀ i (hi:i<q.2.length),q.1<=i->ZcV q.2[i])/\Row [] w' w7.heap.size 141 zs q.2/\Stp (ob zs) w9 w') (λq=>xs.length - q.1)
  (0,xs) ⟨rfl,rfl,rfl,trivial⟩ ⟨by dsimp only;omega,rfl,(λi hi _=>je _ (Xd hi)),de,Stp.refl _ _⟩ ?_
 rintro ⟨j,ys⟩ wa ⟨hj,fC,cF,de,aK⟩;dsimp only at hj fC cF de ⊢;have k3:=k3.ext aK eT;have dT:SlV [] wa zs ys:=Row.slv (X:=[]) de (by simp);rw [<- fC] at hj;by_cases hlt:j<ys.length;refine QO ?_;have dw:=(cF j hlt (Xn _))
 unfold ZcV at dw;refine ZDr 15 [] [14] [(0,0),(1,0),(2,1),(3,0),(4,0),(5,0),(6,1),(7,0),(8,0),(9,0),(10,1),(11,0),(12,0),(13,0),(14,2)] (λw1 ae=>?_);replace k3:=k3.up ae;replace de:=de.up ae;replace dT:=dT.up ae;replace aK:=aK.trans ae.mn;clear ae;refine D ?_;refine ZO rfl trivial (Z4j (β:=Spn) (i:=j) (y':=((ys[j].1+1065047040,ys[j].2):Spn)) rfl rfl rfl rfl rfl de hlt (by decide) rfl) rfl ?_;rintro _ wb ⟨de,hT⟩;replace aK:=aK.trans hT;refine D ?_;refine W ?_;refine Zx (j+1,ys.set j ((ys[j].1+1065047040,ys[j].2):Spn)) ⟨rfl,rfl,rfl,trivial⟩ ⟨by dsimp only;omega,by dsimp only;rw [X8];exact fC,?_,de,aK⟩ (by dsimp only;omega);intro i hi cT;dsimp only at hi cT ⊢;rw [YaL (by omega)];exact cF i (by rw [X8] at hi;exact hi) (by omega)
 . refine QO ?_
   all_goals exact QT () aK
 rintro _ wa aK;have k3:=k3.ext aK eT;have k2:=k2.ext aK mg;have fa:=fa.ext (X':=b2 :: b3 :: X) aK (λb h=>by simp [h]) (λb h=>.inl (by simp at h;rcases h with rfl|rfl|h<;>simp [*]));have ca:=ca.ext (X':=b2 :: b3 :: X) aK (λb h=>by simp [h]) (λb h=>.inl (by simp at h;rcases h with rfl|rfl|h<;>simp [*]));replace hS:=hS.own aK (λc hc=>.inr (by have:=(br _ hc).1;omega));have nW:zs.oneCell'=true:=(Row.slv (X:=[]) de (by simp)).one;clear aK;refine W ?_;refine SB (us:=cL b0 b5 b6 hv cv (.I zo) zs (.I hr)) (by intro u hu;simp [cL] at hu;rcases hu with rfl|rfl|rfl|rfl|rfl|rfl|rfl|rfl|rfl|rfl|rfl<;>first|exact rfl|exact nW|exact fa.one|exact ca.one) k2 ?_;rintro _ wb ⟨hT,k2⟩;refine W ?_;refine J6 rfl rfl rfl k2 rfl ?_;exact .mk ⟨⟨[b0,false,false,false,false,b5,b6],hols,clos⟩,hv,cv,.I zo,zs,.I hr,rfl,⟨rfl,nW,rfl⟩,⟨⟨rfl,fO,by dsimp only;omega⟩,⟨b0,b5,b6,rfl⟩,iw,nV,gP⟩,fa.ext hT (by simp) (λb h=>.inl (by simp [h])),ca.ext hT (by simp) (λb h=>.inl (by simp [h])),hS.ow hT⟩
end Go.Proofs.YtipfkbkkndacjaaGreatDoor
namespace Go.Eng
open Go Go.RowKit Go.Proofs
theorem Z7h:∀ {e:Env} {t:Nat} {v:Value},look e t=some v->(t,v)∈e
 | (k, u) :: r, t, v, h => by
   rw [JZ] at h;by_cases hk:k=t;subst hk;simp at h;subst h;simp;rw [if_neg hk] at h;exact XI _ (Z7h h)
theorem Has.of {n:Nat} {e:Env} {a:Act} (h1:a.defers=[]) (h2:a.tmps.size=n) (h3:∀ p∈e,a.tmps.getD p.1 undef=p.2):Has n e a:=⟨h1,h2,λt v h=>h3 (t,v) (Z7h h)⟩
section
variable {P:Program} {n:Nat} {Q:Exit->Act->World->Prop} {e:Env} {w:World} {ops:Array Oper} {rest:List Oper} {ty:TypeId} {pos:String} {af:Array Edge} {ds:List Deferred}
theorem Za4 {fn:Func} {gY:Frame} {cs:List Frame} {u':FrameMode} {R:Ending->FrameMode->World->Prop} {c:Code} {a:Act} (ha:Has n e a) (h:WC P n c (bodyPost P fn (λx w=>R x u' w)) e w) :
 c.wpS P (bodyPostS P fn gY cs R) a ({ gY with mode:=u' } :: cs) w:=by
 refine wpS_of_wp (wp_mono (h.h a ha) λex a' w' hq=>?_);cases ex with
 | normal=>obtain ⟨hd,v,hr,hR⟩:=hq;exact ⟨hd,u',rfl,v,hr,hR⟩
 | ret=>obtain ⟨hd,v,hr,hR⟩:=hq;exact ⟨hd,u',rfl,v,hr,hR⟩
 | panic ch=>obtain ⟨hd,hR⟩:=hq;exact ⟨hd,u',rfl,hR⟩
 | exit i=>exact hq.elim
 | goto l=>exact hq.elim
 | outgrown=>exact ⟨u',hq⟩
theorem Zbg {f:FuncId} {fn:Func} {c:Code} {args:Array Value} {w} {R:Ending->World->Prop} {n:Nat} (hf:P.funcs[f]?=some fn) (hb:fn.body=some c)
 (hn:fn.ntmps=n) (hs:Nat.ble args.size n=true) (h:WC P n c (bodyPostD P fn R) (Z54 args.toList 0) w):Calls P f args w R:=by
 refine calls_of_wp_defers hf hb (h.h _ ?_);rw [hn];have cT:args.size<=n:=XX hs;refine ⟨rfl,by simp;omega,λt v hv=>?_⟩;obtain ⟨_,h2⟩:=Z3y _ _ _ _ hv;simp only [Nat.sub_zero] at h2;have hlt:t<args.size:=by
  have:=(Xu.1 h2).1;simpa using this
 have:args[t]?=some v:=by simpa using h2
 have h3:(args++Array.replicate (n - args.size) undef)[t]?=some v:=by
  rw [XW hlt];exact this
 simp [XB,h3]
theorem Z9e {f:FuncId} {fn:Func} {c:Code} {a0 a1:Value} {w} {R:Ending->World->Prop} {n:Nat} (hf:P.funcs[f]?=some fn) (hb:fn.body=some c)
 (hn:fn.ntmps=n) (hs:Nat.ble 2 n=true) (h:WC P n c (bodyPostD P fn R) [(0,a0),(1,a1)] w):Calls P f #[a0,a1] w R:=Zbg hf hb hn hs h
theorem ZkJ {y:Code} {t:Operand} {fv:Fn} {cap:Array Value} (hc:ev e t=some (.func fv #[] cap)) {ts:Array TypeId}
 (h:WCD [{ target:=.fn fv cap,args:=#[] }] P n y Q e w) :
 WL P n ops (Exit.then (λa w=>y.wp P Q a w) Q) [⟨none,.defer { callee:=.value t,args:=#[],argTypes:=ts },ty,pos,af,none⟩] e w:=by
 refine ⟨λa ha=>?_⟩;refine wpList_plain rfl (λK hK=>?_);unfold Oper.wp;have he:(execOp a.eval ⟨none,.defer { callee:=.value t,args:=#[],argTypes:=ts },ty,pos,af,none⟩).run P w=.ok (.defer { target:=.fn fv cap,args:=#[] }) w:=by
  simp [execOp,resolve,ha.ev hc,Deferred.ofValue]
 rw [he];simp only [Oper.upon];refine hK _ _ ?_;have hd:({ a with defers:={ target:=.fn fv cap,args:=#[] } :: a.defers }:Act)=Z1r [{ target:=.fn fv cap,args:=#[] }] a:=by
  unfold Z1r;rw [ha.defers];rfl
 show wpList P ops _ [] (Act.put { a with defers:=_ } none undef) w;rw [hd];exact wpList_nil (h.h a ha)
theorem Zh0 {d:Nat} {f:Nat} {fn:Func} {xs:Array Operand} {ts:Array TypeId} {vs:Array Value} {c:Operand} {ch:List PanicEntry} {F:World->Prop} [hf:Fun P f fn]
 (hc:ev e c=some (.func (.func f) #[] #[])) (hv:∀ a,Has n e a->xs.map a.eval=vs) (h:Calls P f vs w (λe w'=>e=.panicked ch/\F w')) (hd:Nat.blt d n=true) (k:∀ w',F w'->WQ n Q (.panic ch) e w') :
 WL P n ops Q (⟨some d,.call { callee:=.value c,args:=xs,argTypes:=ts },ty,pos,af,none⟩ :: rest) e w:=
 ZaC (G:=λ_ _=>False) (F:=λch' w'=>ch'=ch/\F w') (Z81 hc hv (h.mono λe w' ⟨h1,h2⟩=>by rw [h1];exact .pan ⟨rfl,h2⟩)) hd (λch' w' ⟨h1,h2⟩=>by subst h1;exact k w' h2) (λ_ _ h=>h.elim)
theorem Z6M {t b T:Nat} {D:TypeDesc} {v:Value} [hu:Und P t D] (hA:Z0R D=false) (hb:Blk w b T [v]):(loadVar t ⟨b,0,none⟩).run P w=.ok v w:=by
 have:=hb.cell (j:=0) rfl;simp [loadVar,Und.isAgg,hA,this]
theorem Z6N {fn:Func} {a:Act} {t1 t2 t3 T1 T2 T3 b1 b2 b3 S1 S2 S3:Nat} {D1 D2 D3:TypeDesc} {v1 v2 v3:Value} (hr:fn.results=#[.cell t1 T1,.cell t2 T2,.cell t3 T3]) [tj:Und P T1 D1] [qV:Und P T2 D2] [yB:Und P T3 D3] (mu:Z0R D1=false) (dl:Z0R D2=false) (xm:Z0R D3=false)
 (h1:a.tmps.getD t1 undef=pQ b1) (h2:a.tmps.getD t2 undef=pQ b2) (h3:a.tmps.getD t3 undef=pQ b3)
 (e1:Blk w b1 S1 [v1]) (e2:Blk w b2 S2 [v2]) (e3:Blk w b3 S3 [v3]):(results fn a.tmps).run P w=.ok (.tuple #[v1,v2,v3]) w:=by
 rw [XB] at h1 h2 h3;simp [results,hr,h1,h2,h3,asAddr,Z6M mu e1,Z6M dl e2,Z6M xm e3]
theorem Z8T {fn fn':Func} {tmps:Array Value} {R:Ending->World->Prop} {f:FuncId} {cap:Array Value} {u:FrameMode} (hu:u≠.run) [hf:Fun P f fn'] {G:Value->FrameMode->World->Prop}
 (h:CallsD P f cap u w λe u' w'=>∃ v,e=.returned v/\G v u' w') (hk:∀ v u' w',G v u' w'->settle u'=.returning/\∃ r,(results fn tmps).run P w'=.ok r w'/\R (.returned r) w') :
 Leaves P fn tmps R [{ target:=.fn (.func f) cap,args:=#[] }] u w:=by
 refine leaves_cons (f:=f) (args:=cap) hu ?_ (h.mono λe u' w' ⟨v,h1,h2⟩=>?_);simp [invoke];exact hf.enters cap w;subst h1;obtain ⟨h3,r,h4,h5⟩:=hk v u' w' h2;show Leaves P fn tmps R [] (settle u') w';rw [h3];exact ⟨r,h4,h5⟩
theorem Z52 {d:Option Nat} {g:Option (Nat×Bool)} {x:Operand} {t s:TypeId} {u v:Value} (hx:ev e x=some u) (hb:∀ w,(Instr.typeAssert u t s true).run P w=.ok v w):PR P n ⟨d,.typeAssert x t s true,ty,pos,af,g⟩ e w v:=
 ⟨λa ha=>by simp [execOp,ha.ev hx,hb]⟩
theorem Zbh {d:Option Nat} {g:Option (Nat×Bool)} {f:Nat} {x y z r:Operand} {v u s q:Value} (hx:ev e x=some v) (hy:ev e y=some u) (hz:ev e z=some s) (hr:ev e r=some q):PR P n ⟨d,.makeFunc (.func f) #[] #[x,y,z,r],ty,pos,af,g⟩ e w (.func (.func f) #[] #[v,u,s,q]):=
 ⟨λa ha=>by simp [execOp,Instr.makeFunc,ha.ev hx,ha.ev hy,ha.ev hz,ha.ev hr]⟩
end
theorem Z0d {α β:Type} {x:Out α} {k:α->Nat->Nat->Out β} {y:β} {i o:Nat} (h:x.bind k=.ok y i o):∃ a i1 o1,x=.ok a i1 o1/\k a i1 o1=.ok y i o:=by
 cases x with
 | err a c=>simp [Out.bind] at h
 | ok a i1 o1=>exact ⟨a,i1,o1,rfl,h⟩
theorem Z6b {l:List Tkn} {i o:Nat} {s:Str} {i' o':Nat} (h:Z2m l i o=.ok s i' o'):i<i':=by
 unfold Z2m at h;split at h;simp [Z1f] at h;obtain ⟨a,i1,o1,h1,h2⟩:=Z0d h;have:=Z1o h1;simp only [Out.ok.injEq] at h2;omega
theorem Za5 {l:List Tkn} {i o:Nat} {x:Nd} {i' o':Nat} (h:Z1X l i o=.ok x i' o'):i<i':=by
 have h1:=Z9w l i o;rw [h] at h1;have:=Z1Y l _ _ _ _ _ _ _ h1;simp only [Call.lo] at this;omega
theorem Z4b {α:Type} {l:List Tkn} {wd:Str} {z:α} {rd:Nat->Nat->Out α} {i o:Nat} {x:α} {i' o':Nat} (hr:∀ i o x i' o',rd i o=.ok x i' o'->i<i') (h:Z1B l wd z rd i o=.ok x i' o'):i<=i':=by
 unfold Z1B at h;split at h;obtain ⟨a,i1,o1,h1,h2⟩:=Z0d h;obtain ⟨a2,i2,o2,h3,h4⟩:=Z0d h2;have:=hr _ _ _ _ _ h1;have:=(Z2n h3).1;simp only [Out.ok.injEq] at h4;omega;simp only [Out.ok.injEq] at h;omega
theorem ZcX {l:List Tkn} {i o:Nat} {r:RuleM} {i' o':Nat} (h:Z9u l i o=.ok r i' o'):i<i':=by
 unfold Z9u at h;obtain ⟨a1,i1,o1,h1,h⟩:=Z0d h;obtain ⟨a2,i2,o2,h2,h⟩:=Z0d h;obtain ⟨a3,i3,o3,h3,h⟩:=Z0d h;obtain ⟨a4,i4,o4,h4,h⟩:=Z0d h;obtain ⟨a5,i5,o5,h5,h⟩:=Z0d h;split at h;obtain ⟨a6,i6,o6,h6,h⟩:=Z0d h;obtain ⟨a7,i7,o7,h7,h⟩:=Z0d h;split at h;obtain ⟨a8,i8,o8,h8,h⟩:=Z0d h;obtain ⟨a9,i9,o9,h9,h⟩:=Z0d h;obtain ⟨a10,i10,o10,gN,h⟩:=Z0d h;obtain ⟨a11,i11,o11,me,h⟩:=Z0d h;have:=(Z2n h1).1;have:=Z6b h2;have:=(Z2n h3).1;have:=(Z1o h4).2.1;have:=(Z2n h5).1;have:=Z4b (λ_ _ _ _ _ h=>Z6b h) h6;have:=Z4b (λ_ _ _ _ _ h=>Za5 h) h7;have:=Z4b (λ_ _ _ _ _ h=>Za5 h) h8;have:=Z4b (λ_ _ _ _ _ h=>Z6b h) h9;have:=Z4b (λ_ _ _ _ _ h=>Z6b h) gN;have:=(Z2n me).1;simp only [Out.ok.injEq] at h;omega;simp [Z1f] at h;simp [Z1f] at h
end Go.Eng
namespace Go.Proofs.YtipfkbkkndacjaaGreatDoor
open Go Go.Eng Go.RowKit Go.Proofs
theorem ZcY (r:Rul) (p:Option Addr) (a c:Nat) (p':Option Addr) (a' c':Nat) (w):(Instr.buildSlice 90 1 #[(0,.agg (rlC r (.slice p a c) (.slice p' a' c')).toArray)]).run Tryz.prog w=.ok (.slice (some ⟨w.heap.size,0,none⟩) 1 1) (w.alloc (.cells (rlC r (.slice p a c) (.slice p' a' c')).toArray 99)):=by kernel_rfl
theorem ZkK {X:List Nat} {w} {r:Rul} {cs:List Value} (h:Z5.rep X w r cs):∀ i (hi:i < [r].length) (cA:i < [cs].length),Z5.rep X w [r][i] [cs][i]
 | 0,_,_=>h
theorem Zep (X:List Nat) (b:Nat) (tv:Value) (l:List Tkn) (hL:Z3P l) (m:Int) (i o f:Nat) (w:World) (aY:b≠2) (bT:b∈X) (hX:∀ c∈X,c<w.heap.size) (hm:w.cell? ⟨2,0,none⟩=some (.I m)) (hp:Pd w b tv l i o) (hf:l.length<=i+f) :
 Calls Tryz.prog 90 #[pQ b] w (PC b w tv l (Z2B l f [] i o) (λrs v w'=>SlV X w' v (rs.map RuleM.rul))):=by
 have aX:=hp.2.1;have j0:=hm;have eP:=hp.lt;have j6:=hp.2.2.2.1;generalize hR:Z2B l f [] i o=R;refine cW1 22 Tryz.func90 ?_;refine W ?_
 refine Zu (σ:=Nat×List RuleM×Value×Nat×Nat) (λq=>[(0,pQ b),(3,q.2.2.1)])
  (λq w'=>Z2B l q.1 q.2.1 q.2.2.2.1 q.2.2.2.2=R/\l.length<=q.2.2.2.1+q.1/\q.2.1.length<=q.2.2.2.1/\Pd w' b tv l q.2.2.2.1 q.2.2.2.2/\Row X w' w.heap.size 99 q.2.2.1 (q.2.1.map RuleM.rul)/\w'.cell? ⟨2,0,none⟩=some (.I m)/\Stp [b] w w')
  (λq=>q.1) (f,[],.N,i,o) ⟨rfl,rfl,trivial⟩ ⟨hR,hf,Xq _,hp,Row.nil,hm,Stp.refl _ _⟩ ?_
 clear hR hp hm hf;rintro ⟨f1,rs,rv,i1,o1⟩ w1 ⟨hR,hf,iZ,hp,ab,hm,hS⟩;dsimp only at hR hf iZ hp ab ⊢;have bO:=hp.i_lt;obtain ⟨f1,rfl⟩:∃ f',f1=f'+1:=⟨f1 - 1,by omega⟩
 simp only [Z2B] at hR;refine W ?_;refine ZDr 12 [] [] [(0,0),(1,0),(2,0),(3,1),(4,0),(5,0),(6,0),(7,1),(8,0),(9,0),(10,1),(11,0)] (λw1 ae=>?_);replace jl:=ae;replace hp:=hp.up ae;replace ab:=ab.up ae;replace hm:=ae.cell (by simp) hm;replace hS:=hS.trans ae.mn;clear ae jl;obtain ⟨dj,bP,gR,cr,ft⟩:=id hp;have jx:=Z6x gR;refine D ?_;by_cases hk:(cur l i1).kind=0;rw [if_pos hk] at hR;subst hR;rw [jx] at hk;refine QO ?_;refine WR ?_;refine PC.ok ?_ hp hS;exact ab.slv hX;rw [if_neg hk] at hR;rw [jx] at hk;refine QO ?_;have lC:∀ c∈ob rv++X,c<w1.heap.size:=λc hc=>by
  rcases Xf.1 hc with h|h
  exact (ab.ob_le c h).2;exact Xa (hX c h) hS.size
 have bu:=ZjD (ob rv++X) b tv l hL m i1 o1 _ aY (by simp [bT]) lC hm hp;rcases hU:Z9u l i1 o1 with ⟨a,c⟩|⟨r,i2,o2⟩
 rw [hU] at hR;simp only [Out.bind] at hR;subst hR;refine ZX rfl (ZR rfl) (PC.falls bu hU hS) rfl ?_;intro wz bV;focus repeat'(first|refine Zi ?_|refine Zg ?_)
 refine ZH ?_;exact PC.err bV;rw [hU] at hR;simp only [Out.bind] at hR;have hlt:=ZcX hU;refine CL (PC.goes bu hU) ?_;rintro _ w3 ⟨⟨ki,kd,rfl,gJ,ej⟩,fT,hT⟩;replace ab:=ab.ext (X':=X) hT (λc hc=>by
  simp only [Xi] at hc;subst hc;exact ⟨bT,λh=>by have:=(ab.ob_le c h).1;omega⟩) (λc hc=>.inl hc)
 replace hm:=Jy hm aY hT;replace hS:=hS.trans hT;have rZ:∀ c∈ob rv++X,c<w3.heap.size:=λc hc=>Xa (lC c hc) hT.size;clear hT hp lC bu dj bP;obtain ⟨p1,c1,rfl,-⟩:=id gJ;obtain ⟨p2,c2,rfl,-⟩:=id ej;refine Z0 (Z1 (vs:=[(0,.agg (rlC r.rul (.slice p1 r.rul.cnd.kids.length c1) (.slice p2 r.rul.due.kids.length c2)).toArray)]) rfl (ZcY _ _ _ _ _ _ _)) rfl ?_;intro bv w4 hN;have aq:SlV (ob rv++X) w4 bv [r.rul]:=hN.slvG (css:=[rlC r.rul _ _]) rZ rfl rfl (by simp) (ZkK ⟨_,_,rfl,gJ,ej⟩) (by simp [maxLen]);have hT:=Z9.stp hN;replace fT:=fT.up hT;replace ab:=ab.up hT;replace hm:=hT.cell (by simp) hm;replace hS:=hS.trans hT.mn;clear hT hN gJ ej;have oQ:=hS.size;refine Z0 (ZF (X:=X) (base:=w.heap.size) rfl (by decide) rfl rfl ab aq (by simp only [Xe,Xg,Xt];omega) (by simp only [Xe,Xg,Xt,maxLen];omega) oQ) rfl ?_;rintro rv' w5 ⟨aC,hT,cb⟩;have eG:∀ c∈ob rv,w.heap.size<=c:=λc hc=>(ab.ob_le c hc).1;have oW:(2:Nat)∉ob rv:=λh=>by have:=eG _ h;have:=block_lt_of_cell j0;simp at this;omega
 replace hm:=hT.cell oW hm;replace hS:=hS.own hT (λc hc=>.inr (eG c hc));replace fT:Pd w5 b tv l i2 o2:=by
  obtain ⟨g1,g2,g3,g4,g5⟩:=fT;exact ⟨g1.ext hT (λh=>by have:=eG b h;omega),aX.ext hS (λc hc=>hc) (λc hc=>.inl hc),g3,g4,g5⟩
 clear hT;refine W ?_;refine QL (f1,rs++[r],rv',i2,o2) ⟨hR,by dsimp only;omega,by simp;omega,fT,?_,hm,hS⟩ (by dsimp only;omega);rw [XP];exact aC
theorem Zeq (X:List Nat) (v:Value) (l:List Int) (m:Nat) (w) (hs:SlV X w v l) (hl:∀ a∈l,I64 a) (hm:m<=100000):CC 65 #[v,.I (m:Int)] w λr w'=>ZI 3 w w' r (l.take m):=by
 have aS:=hs.max;refine cW2 14 Tryz.func65 ?_;refine W ?_;have kF:min (l.length:Int) (m:Int)=((min l.length m:Nat):Int):=by omega
 refine Z8 (Z1U (r:=min l.length m) rfl hs rfl (by omega) (Nat.min_le_left _ _)) rfl ?_;have ax:SlV X w _ (l.take (min l.length m)):=hs.slc (Xq (min l.length m)) (Nat.min_le_left _ _);refine Z0 (JD rfl (by decide) rfl rfl (ZI.nil (w:=w)) (ys:=l.take (min l.length m)) (ax.wk (by simp [ob])) (by simp;omega) (by simp [maxLen];omega)) rfl ?_;rintro v' w1 ⟨ab,-,-⟩;refine W ?_;refine WR ?_;refine .mk ?_;have e:l.take (min l.length m)=l.take m:=by rw [Nat.min_comm,<- YaE,Xp]
 rw [XJ,e] at ab;exact ab
theorem ZkL (p:Option Addr) (l c:Nat) (w):(Instr.build 146 #[(0,.slice p l c)]).run Tryz.prog w=.ok (.agg #[.slice p l c,.I 0]) w:=by kernel_rfl
theorem Zh1 (X:List Nat) (lv:Value) (l:List Int) (w:World) (hX:∀ b∈X,b<w.heap.size) (hs:SlV [] w lv l) (hl:∀ a∈l,I64 a):CC 36 #[lv] w λr w'=>∃ rs:List RuleM,rs.length<=4/\(∀ x∈rs,Z8l x)/\SlV X w' r (rs.map RuleM.rul)/\Stp [] w w':=by
 refine cW1 24 Tryz.func36 ?_;refine W ?_;refine CM (Zd rfl rfl) (Zeq [] lv l 120 _ hs hl (by decide)) ?_;rintro v w1 dq;have ax:=dq.slv (X:=[]) (by simp);have hS:=dq.2;have dX:∀ a∈l.take 120,I64 a:=λa ha=>hl a (Yau ha);clear dq;generalize l.take 120=l' at *;obtain ⟨p,c,rfl,-⟩:=id ax;refine W ?_;apply Z7 (vs:=[(0,.slice p l'.length c)]) rfl (ZkL _ _ _) rfl;refine Z0 (Zr rfl) rfl ?_;rintro _ w2 ⟨bm,rfl,kZ,ay,hT⟩;replace ay:Mk3 w2 bm (.slice p l'.length c) 0:=ay;replace ax:SlV [bm] w2 (.slice p l'.length c) l':=ax.ext hT (by simp) (λb h=>.inr (by simp at h;omega));have eP:w.heap.size<=bm:=Xh hS.size kZ;replace hS:=hS.trans hT;clear hT kZ;refine W ?_;refine CM (Zd rfl rfl) (Z0g bm _ l' _ 5 _ (by decide) (by omega) ay ax dX) ?_;rintro _ w3 ⟨k,rfl,hk,ay,hT⟩;replace ax:=ax.ext hT (λ_ h=>h) (λ_ h=>.inl h);have hlt:=ay.lt;refine W ?_
 refine Zu (σ:=Nat×List RuleM×Value×Nat) (λq=>[(3,pQ bm),(4,q.2.2.1),(5,.I (k:Int)),(6,.I (q.1:Int))])
  (λq w'=>q.1<=k/\q.2.1.length=q.1/\(∀ x∈q.2.1,Z8l x)/\q.2.2.2<=1+300 * q.1/\Mk3 w' bm (.slice p l'.length c) q.2.2.2/\Row (bm :: X) w' w3.heap.size 99 q.2.2.1 (q.2.1.map RuleM.rul)/\Stp [bm] w3 w')
  (λq=>k - q.1) (0,[],.N,1) ⟨rfl,rfl,rfl,rfl,trivial⟩ ⟨Xq _,rfl,by simp,by simp,ay,Row.nil,Stp.refl _ _⟩ ?_
 have ak:=hS.ow hT;have r8:=ax;clear ay ax hS hT;rintro ⟨i,rs,v,at_⟩ w4 ⟨hi,ai,aB,gh,ay,ab,hS⟩;dsimp only at hi ai aB gh ay ab ⊢;have bG:=hS.size;by_cases gA:i<k;refine QO ?_;have lC:∀ b∈ob v++bm :: X,b<w4.heap.size:=λb hb=>by
  rcases Xf.1 hb with h|h
  exact (ab.ob_le b h).2;rcases Xb.1 h with rfl|h
  omega;have:=hX b h;have:=ak.size;omega
 refine CM (ZR rfl) (Zgg (ob v++bm :: X) bm _ l' _ _ ay (r8.ext hS (λ_ h=>h) (λ_ h=>.inl h)) dX (by omega) lC) ?_;rintro _ w5 ⟨r,i',⟨ki,kd,rfl,gJ,ej⟩,hr,ay,cA,hT⟩;replace ab:=ab.ext (X':=bm :: X) hT (λb hb=>by
  simp only [Xi] at hb;subst hb;exact ⟨by simp,λh=>by have:=(ab.ob_le b h).1;omega⟩) (λb hb=>.inl hb)
 have r9:∀ b∈ob v++bm :: X,b<w5.heap.size:=λb hb=>Xa (lC b hb) hT.size;replace hS:=hS.trans hT;clear hT lC;obtain ⟨p1,c1,rfl,-⟩:=id gJ;obtain ⟨p2,c2,rfl,-⟩:=id ej;refine Z0 (Z1 (vs:=[(0,.agg (rlC r.rul (.slice p1 r.rul.cnd.kids.length c1) (.slice p2 r.rul.due.kids.length c2)).toArray)]) rfl (ZcY _ _ _ _ _ _ _)) rfl ?_;intro bv w6 hN;have aq:SlV (ob v++bm :: X) w6 bv [r.rul]:=hN.slvG (css:=[rlC r.rul _ _]) r9 rfl rfl (by simp) (ZkK ⟨_,_,rfl,gJ,ej⟩) (by simp [maxLen]);have hT:=Z9.stp hN;replace ay:=ay.up hT;replace ab:=ab.up hT;replace hS:=hS.trans hT.mn;clear hT hN gJ ej;have oQ:=hS.size;have iZ:(rs.map RuleM.rul).length=i:=by rw [Xt,ai]
 refine Z0 (ZF (X:=bm :: X) (base:=w3.heap.size) rfl (by decide) rfl rfl ab aq (by simp only [Xe,Xg,Xt];omega) (by simp only [Xe,Xg,Xt,maxLen];omega) oQ) rfl ?_;rintro rv' w7 ⟨aC,hT,cb⟩;have eG:∀ c∈ob v,w3.heap.size<=c:=λc hc=>(ab.ob_le c hc).1;replace ay:=ay.ext hT (λh=>by have:=eG _ h;omega);replace hS:=hS.own hT (λc hc=>.inr (eG c hc));clear hT;refine W ?_;refine QL (i+1,rs++[r],rv',i') ⟨gA,by simp [ai],?_,Xh cA (Xh (Ybl gh 300) (Nat.le_of_eq (by rw [Nat.mul_add,Yat]))),ay,?_,hS⟩ (by dsimp only;omega);intro x hx;rcases Xf.1 hx with h|h
 exact aB x h;simp at h;subst h;exact hr;rw [XP];exact aC;refine QO ?_;refine WR ?_;refine .mk ⟨rs,by omega,aB,(ab.slv (λb hb=>by
  rcases Xb.1 hb with rfl|h
  exact hlt;have:=hX b h;have:=ak.size;omega)).wk (by simp;exact λ_ h=>.inr h),ak.ow hS⟩
abbrev rlN (s:Str):Rul:=⟨s,0,s,.mk 2 0 [] [],.mk 3 0 [] [],[],[]⟩
theorem ckN (s:Str):decide (Z0V (rlN s)=0)=ZE s:=by
 have m1:Z20 (.mk 2 0 [] []) 2=0:=by
  unfold Z20;rw [show ZA (.mk 2 0 [] [])=1 by simp only [Z0J,Nd.kids,XU];rfl,show Zf (.mk 2 0 [] [])=2 by simp only [Z0I,Nd.kids,Nd.kind,Nd.num,Nd.word,XU];rfl];decide
 have m2:Z20 (.mk 3 0 [] []) 3=0:=by
  unfold Z20;rw [show ZA (.mk 3 0 [] [])=1 by simp only [Z0J,Nd.kids,XU];rfl,show Zf (.mk 3 0 [] [])=3 by simp only [Z0I,Nd.kids,Nd.kind,Nd.num,Nd.word,XU];rfl];decide
 have hn:Jk (rlN s)=ZE s:=by simp [Jk]
 unfold Z0V;rw [hn,m1,m2];cases ZE s<;>simp
theorem ZcZ (k:Int) (w):(Instr.build 97 #[(0,.I k)]).run Tryz.prog w=.ok (.agg #[.I k,.I 0,str [],.N]) w:=by kernel_rfl
theorem Z2c (s:Str) (m:Int) (w) (hF:SlV [] w Z2e Ze) (hm:w.cell? ⟨2,0,none⟩=some (.I m)) :
 CC 191 #[str s] w λr w'=>r=.B (ZE s)/\Stp [] w w':=by
 refine cW1 12 Tryz.func191 ?_;refine W ?_;apply Z7 (vs:=[(0,.I 2)]) rfl (ZcZ _) rfl;apply Z7 (vs:=[(0,.I 3)]) rfl (ZcZ _) rfl;apply Z7 (vs:=[(0,str s),(2,str s),(3,.agg #[.I 2,.I 0,str [],.N]),(4,.agg #[.I 3,.I 0,str [],.N])]) rfl (ZjO _ _ _ _ _ _ _ _ _ _ _ _ _ _) rfl;refine Z0 Z2 rfl ?_;rintro _ w1 ⟨b,rfl,hb,e0,hT⟩;refine SB (us:=rlC (rlN s) Jo Jo) (ZaO (rlN s) (Zn (α:=Nd) [] w) (Zn (α:=Nd) [] w)) e0 ?_;rintro _ w2 ⟨ar,e1⟩;have hS:=hT.ow ar;clear hT ar e0;refine W ?_;refine CM (ZR rfl) (Z74 _ (rlN s) m _ ⟨Jo,Jo,rfl,Zn _ _,Zn _ _⟩ (hF.up hS) (hS.cell (by simp) hm)) ?_;rintro _ w3 ⟨rfl,hT⟩;replace hS:=hS.trans hT;refine RT ?_;exact ⟨by rw [<- ckN s],hS⟩
def Z0y (q:Cr):Bool:=decide ((Z21 q.cnd).2≠0) || decide ((Z21 q.due).2≠0) || decide ((Z21 q.cnd).1≠2) || decide ((Z21 q.due).1≠3) || decide (q.frm<0) || decide (q.frm > 3652058) || !ZE q.name || !ZE q.on || (decide (q.unl≠[]) && !ZE q.unl) || (decide (q.els≠[]) && !ZE q.els)
def Zd0 (q:Cr):Int:=if Z0y q then 22 else 0
theorem Zes (v:Value) (q:Cr) (w) (m:Int) (hF:SlV [] w Z2e Ze) (hm:w.cell? ⟨2,0,none⟩=some (.I m)) (hv:CrV [] w v q) (eM:∀ x∈q.cnd++q.due,opP x.op) :
 CC 110 #[v] w λr w'=>r=.I (Zd0 q)/\Stp [] w w':=by
 obtain ⟨kc,kd,rfl,bR,cQ⟩:=hv;refine cW1 60 Tryz.func110 ?_;refine W ?_;refine Z0 (Zr rfl) rfl ?_;rintro _ w1 ⟨b,rfl,hb,e1,hS⟩;replace e1:Blk w1 b 62 (crC q kc kd):=e1;replace bR:=bR.up hS;replace cQ:=cQ.up hS;clear hb;refine W ?_;refine CL (Z8n _ q.cnd _ bR (λx hx=>eM x (Xf.2 (.inl hx)))) ?_;rintro _ w2 ⟨rfl,hT⟩;replace e1:=e1.up hT;replace bR:=bR.up hT;replace cQ:=cQ.up hT;replace hS:=hS.trans hT;clear hT;refine W ?_;refine CL (Z8n _ q.due _ cQ (λx hx=>eM x (Xf.2 (.inr hx)))) ?_;rintro _ w2 ⟨rfl,hT⟩;replace e1:=e1.up hT;replace bR:=bR.up hT;replace cQ:=cQ.up hT;replace hS:=hS.trans hT;clear hT;refine W ?_;refine Ju (σ:=Bool) (λu=>[(1,pQ b),(2,.I 0),(19,.B u)]) (λu w'=>Blk w' b 62 (crC q kc kd)/\Stp [] w w'/\u=Z0y q) ?_ ?_
 . repeat'(first|refine W1 ?_|omega|refine VG ?_ ?_<;>intro hg|refine VC ?_ ?_<;>intro hc)
   all_goals try (first|exact Zy true ⟨rfl,rfl,rfl,trivial⟩ ⟨e1,hS,by simp [Z0y, *]⟩|exact Zy false ⟨rfl,rfl,rfl,trivial⟩ ⟨e1,hS,by simp [Z0y, *]⟩|exact Zy _ ⟨rfl,rfl,rfl,trivial⟩ ⟨e1,hS,by simp [Z0y, *]⟩)
   refine W ?_;refine CM (ZR rfl) (Z2c q.name m _ (hF.up hS) (hS.cell (by simp) hm)) ?_;rintro _ w3 ⟨rfl,hT⟩;replace e1:=e1.up hT;replace bR:=bR.up hT;replace cQ:=cQ.up hT;replace hS:=hS.trans hT;clear hT;cases hn_name:ZE q.name with
   | false=>
     repeat'(first|refine W1 ?_|omega|refine VG ?_ ?_<;>intro hg|refine VC ?_ ?_<;>intro hc)
     all_goals (first|exact Zy true ⟨rfl,rfl,rfl,trivial⟩ ⟨e1,hS,by simp [Z0y, *]⟩|exact Zy false ⟨rfl,rfl,rfl,trivial⟩ ⟨e1,hS,by simp [Z0y, *]⟩|exact Zy _ ⟨rfl,rfl,rfl,trivial⟩ ⟨e1,hS,by simp [Z0y, *]⟩)
   | true=>
     repeat'(first|refine W1 ?_|omega|refine VG ?_ ?_<;>intro hg|refine VC ?_ ?_<;>intro hc)
     refine W ?_;refine CM (ZR rfl) (Z2c q.on m _ (hF.up hS) (hS.cell (by simp) hm)) ?_;rintro _ w3 ⟨rfl,hT⟩;replace e1:=e1.up hT;replace bR:=bR.up hT;replace cQ:=cQ.up hT;replace hS:=hS.trans hT;clear hT;cases hn_on:ZE q.on with
     | false=>
       repeat'(first|refine W1 ?_|omega|refine VG ?_ ?_<;>intro hg|refine VC ?_ ?_<;>intro hc)
       all_goals (first|exact Zy true ⟨rfl,rfl,rfl,trivial⟩ ⟨e1,hS,by simp [Z0y, *]⟩|exact Zy false ⟨rfl,rfl,rfl,trivial⟩ ⟨e1,hS,by simp [Z0y, *]⟩|exact Zy _ ⟨rfl,rfl,rfl,trivial⟩ ⟨e1,hS,by simp [Z0y, *]⟩)
     | true=>
       repeat'(first|refine W1 ?_|omega|refine VG ?_ ?_<;>intro hg|refine VC ?_ ?_<;>intro hc)
       . refine W ?_
         refine CM (ZR rfl) (Z2c q.unl m _ (hF.up hS) (hS.cell (by simp) hm)) ?_;rintro _ w3 ⟨rfl,hT⟩;replace e1:=e1.up hT;replace bR:=bR.up hT;replace cQ:=cQ.up hT;replace hS:=hS.trans hT;clear hT;cases hn_unl:ZE q.unl with
         | false=>
           repeat'(first|refine W1 ?_|omega|refine VG ?_ ?_<;>intro hg|refine VC ?_ ?_<;>intro hc)
           all_goals (first|exact Zy true ⟨rfl,rfl,rfl,trivial⟩ ⟨e1,hS,by simp [Z0y, *]⟩|exact Zy false ⟨rfl,rfl,rfl,trivial⟩ ⟨e1,hS,by simp [Z0y, *]⟩|exact Zy _ ⟨rfl,rfl,rfl,trivial⟩ ⟨e1,hS,by simp [Z0y, *]⟩)
         | true=>
           repeat'(first|refine W1 ?_|omega|refine VG ?_ ?_<;>intro hg|refine VC ?_ ?_<;>intro hc)
           . refine W ?_
             refine CM (ZR rfl) (Z2c q.els m _ (hF.up hS) (hS.cell (by simp) hm)) ?_;rintro _ w3 ⟨rfl,hT⟩;replace e1:=e1.up hT;replace bR:=bR.up hT;replace cQ:=cQ.up hT;replace hS:=hS.trans hT;clear hT;cases hn_els:ZE q.els with
             | false=>
               repeat'(first|refine W1 ?_|omega|refine VG ?_ ?_<;>intro hg|refine VC ?_ ?_<;>intro hc)
               all_goals (first|exact Zy true ⟨rfl,rfl,rfl,trivial⟩ ⟨e1,hS,by simp [Z0y, *]⟩|exact Zy false ⟨rfl,rfl,rfl,trivial⟩ ⟨e1,hS,by simp [Z0y, *]⟩|exact Zy _ ⟨rfl,rfl,rfl,trivial⟩ ⟨e1,hS,by simp [Z0y, *]⟩)
             | true=>
               repeat'(first|refine W1 ?_|omega|refine VG ?_ ?_<;>intro hg|refine VC ?_ ?_<;>intro hc)
               all_goals (first|exact Zy true ⟨rfl,rfl,rfl,trivial⟩ ⟨e1,hS,by simp [Z0y, *]⟩|exact Zy false ⟨rfl,rfl,rfl,trivial⟩ ⟨e1,hS,by simp [Z0y, *]⟩|exact Zy _ ⟨rfl,rfl,rfl,trivial⟩ ⟨e1,hS,by simp [Z0y, *]⟩)
           all_goals (first|exact Zy true ⟨rfl,rfl,rfl,trivial⟩ ⟨e1,hS,by simp [Z0y, *]⟩|exact Zy false ⟨rfl,rfl,rfl,trivial⟩ ⟨e1,hS,by simp [Z0y, *]⟩|exact Zy _ ⟨rfl,rfl,rfl,trivial⟩ ⟨e1,hS,by simp [Z0y, *]⟩)
       . refine W ?_
         refine CM (ZR rfl) (Z2c q.els m _ (hF.up hS) (hS.cell (by simp) hm)) ?_;rintro _ w3 ⟨rfl,hT⟩;replace e1:=e1.up hT;replace bR:=bR.up hT;replace cQ:=cQ.up hT;replace hS:=hS.trans hT;clear hT;cases hn_els:ZE q.els with
         | false=>
           repeat'(first|refine W1 ?_|omega|refine VG ?_ ?_<;>intro hg|refine VC ?_ ?_<;>intro hc)
           all_goals (first|exact Zy true ⟨rfl,rfl,rfl,trivial⟩ ⟨e1,hS,by simp [Z0y, *]⟩|exact Zy false ⟨rfl,rfl,rfl,trivial⟩ ⟨e1,hS,by simp [Z0y, *]⟩|exact Zy _ ⟨rfl,rfl,rfl,trivial⟩ ⟨e1,hS,by simp [Z0y, *]⟩)
         | true=>
           repeat'(first|refine W1 ?_|omega|refine VG ?_ ?_<;>intro hg|refine VC ?_ ?_<;>intro hc)
           all_goals (first|exact Zy true ⟨rfl,rfl,rfl,trivial⟩ ⟨e1,hS,by simp [Z0y, *]⟩|exact Zy false ⟨rfl,rfl,rfl,trivial⟩ ⟨e1,hS,by simp [Z0y, *]⟩|exact Zy _ ⟨rfl,rfl,rfl,trivial⟩ ⟨e1,hS,by simp [Z0y, *]⟩)
       all_goals (first|exact Zy true ⟨rfl,rfl,rfl,trivial⟩ ⟨e1,hS,by simp [Z0y, *]⟩|exact Zy false ⟨rfl,rfl,rfl,trivial⟩ ⟨e1,hS,by simp [Z0y, *]⟩|exact Zy _ ⟨rfl,rfl,rfl,trivial⟩ ⟨e1,hS,by simp [Z0y, *]⟩)
 rintro u w4 ⟨e1,hS,hu⟩
 try dsimp only at hu ⊢
 unfold Zd0;rw [<- hu];cases u with
 | true=>
   repeat'(first|refine W1 ?_|omega|refine VG ?_ ?_<;>intro hg|refine VC ?_ ?_<;>intro hc)
   refine RU ?_;exact ⟨rfl,hS⟩
 | false=>
   repeat'(first|refine W1 ?_|omega|refine VG ?_ ?_<;>intro hg|refine VC ?_ ?_<;>intro hc)
   refine RU ?_;exact ⟨rfl,hS⟩
structure ZwS (q:Cr):Prop where
 frm:I64 q.frm
 cnd:∀ x∈q.cnd,I64 x.op/\I64 x.n
 due:∀ x∈q.due,I64 x.op/\I64 x.n
 lcnd:q.cnd.length<=200
 ldue:q.due.length<=200
 lname:q.name.length<=12
 lon:q.on.length<=12
 lunl:q.unl.length<=12
 lels:q.els.length<=12
def Z4Q (m:Nat) (z:Ins):Prop:=0<=z.op/\z.op<=24/\0<=z.n/\z.n<=2147483647+(m:Int)
theorem Z4Q.le {m k:Nat} {z:Ins} (h:Z4Q m z) (hk:m<=k):Z4Q k z:=⟨h.1,h.2.1,h.2.2.1,by have:=h.2.2.2;omega⟩
theorem ZkM:∀ (l:List Nd) (p m:Nat),(∀ y∈l,∀ p,∀ z∈Zc y p,Z4Q (p+(Zc y p).length) z)->p+(Jq (l.map Zc) p).length<=m->∀ z∈Jq (l.map Zc) p,Z4Q m z
 | [],p,m,_,_,z,hz=>by simp [Jq] at hz
 | y :: l, p, m, h, hm, z, hz => by
   simp only [Xz,Jq,Xf,Xc] at hz hm;rcases hz with hz|hz
   exact (h y (by simp) p z hz).le (by omega);exact ZkM l _ m (λy hy=>h y (by simp [hy])) (by omega) z hz
theorem ZwT (s:Str):∀ o∈opF s,0<=o/\o<=24:=by
 intro o ho;unfold opF at ho;cases h:Z7V.find? (λp=>decide (p.1=s)) with
 | none=>rw [h] at ho;cases ho
 | some p=>
   rw [h] at ho;have aB:∀ q∈Z7V,∀ o∈q.2,0<=o/\o<=24:=by decide +kernel
   exact aB p (X5 h) o ho
theorem ZkN (k:Int) (s:Str) (m:Nat):∀ z∈Z3X k s,Z4Q m z:=by
 intro z hz;unfold Z3X Z2g at hz;simp only [Xf,XG] at hz;rcases hz with hz|⟨o,ho,rfl⟩
 split at hz;simp only [Xb,Xj,or_false] at hz;subst hz;exact ⟨by decide,by decide,by decide,by simp only;omega⟩;cases hz;obtain ⟨h1,h2⟩:=ZwT s o ho;exact ⟨h1,h2,by simp,by simp only;omega⟩
theorem ZkO (c y n:Cf) (p m:Nat) (hc:∀ p,∀ z∈c p,Z4Q (p+(c p).length) z) (hy:∀ p,∀ z∈y p,Z4Q (p+(y p).length) z) (hn:∀ p,∀ z∈n p,Z4Q (p+(n p).length) z) (hm:p+(chC c y n p).length<=m):∀ z∈chC c y n p,Z4Q m z:=by
 intro z hz;unfold chC at hz hm;simp only [Xf,Xb,Xj,or_false,Xc,Xe,Xg] at hz hm;rcases hz with (((hz|rfl)|hz)|rfl)|hz
 exact (hc p z hz).le (by omega);exact ⟨by simp,by simp,by simp only;omega,by simp only;omega⟩;exact (hy _ z hz).le (by omega);exact ⟨by simp,by simp,by simp only;omega,by simp only;omega⟩;exact (hn _ z hz).le (by omega)
theorem ZnZ (k n:Int) (s:Str) (m:Nat) (h:Z14 k n s≠0):Z4Q m (Z15 k n s):=by
 unfold Z14 at h;unfold Z15;by_cases k4:k=4
 . subst k4
   rw [if_pos rfl] at h;have hf:(ZT s).2.2=true:=by
    cases hb:(ZT s).2.2 with
    | true=>rfl
    | false=>rw [Z6k hb] at h;simp at h
   obtain ⟨i,hi,_,he⟩:=(Z8o s (ZT s).1).1 ⟨hf,rfl⟩;rw [if_neg (by decide),if_neg (by decide),if_neg (by decide)];exact ⟨by simp,by simp,by simp only;omega,by simp only;omega⟩
 rw [if_neg k4] at h;split at h;exact absurd rfl h;by_cases k1:k=1;rw [if_pos k1] at h ⊢;split at h;exact ⟨by simp,by simp,by simp only;omega,by simp only;omega⟩;exact absurd rfl h;rw [if_neg k1] at h ⊢;by_cases k2:k=2;rw [if_pos k2] at h ⊢;split at h;exact ⟨by simp,by simp,by simp only;omega,by simp only;omega⟩;exact absurd rfl h;rw [if_neg k2] at h ⊢;by_cases k3:k=3;rw [if_pos k3] at h ⊢;split at h;exact ⟨by simp,by simp,by simp only;omega,by simp only;omega⟩;exact absurd rfl h;rw [if_neg k3] at h;exact absurd rfl h
theorem Ztt (x:Nd):Zf x≠0->∀ p,∀ z∈Zc x p,Z4Q (p+(Zc x p).length) z:=by
 induction x using Nd.ind with
 | h k n s l ih=>
 intro ht p;have hk:∀ y∈l,Zf y≠0:=λy hy=>Z6z (x:=.mk k n s l) ht hy;have ih':∀ y∈l,∀ p,∀ z∈Zc y p,Z4Q (p+(Zc y p).length) z:=λy hy=>ih y hy (hk y hy);have ld:Zf (.mk k n s l)=JF k n s (l.map Zf):=Z0I _;rw [ld] at ht;have hplain:∀ m,p+(Z0D k s (l.map Zc) p).length<=m->∀ z∈Z0D k s (l.map Zc) p,Z4Q m z:=λm hm z hz=>by
  rw [Z2O] at hz hm;rw [Xc] at hm;rcases Xf.1 hz with hz|hz
  exact ZkM l p m ih' (by omega) z hz;exact ZkN k s m z hz
 have cG:∀ i,∀ p,∀ z∈(l.map Zc).getD i Z5b p,Z4Q (p+((l.map Zc).getD i Z5b p).length) z:=λi p z hz=>by
  by_cases hi:i<l.length;have e:(l.map Zc).getD i Z5b=Zc l[i]:=by rw [Xv,XD (by simpa using hi)];simp
  rw [e] at hz ⊢;exact ih' _ (Xd hi) p z hz;have e:(l.map Zc).getD i Z5b=Z5b:=by rw [Xv,YaV (by simpa using hi)];rfl
  rw [e] at hz;cases hz
 have kB:∀ b:Int,(b=0\/b=1)->∀ p:Nat,∀ z∈[(⟨2,b⟩:Ins)],Z4Q (p+[(⟨2,b⟩:Ins)].length) z:=λb hb p z hz=>by
  simp only [Xb,Xj,or_false] at hz;subst hz;exact ⟨by simp,by simp,by simp only;omega,by simp only;omega⟩
 have cT:∀ c:List Ins,p+c.length<=p+c.length:=λc=>Xn _;rw [Zc];rcases Z77 ht with ⟨he,hc⟩|⟨h0,h3,mh,hc⟩
 have hl:l=[]:=by simpa using he
 subst hl;unfold Z1e;rw [if_pos (show (List.map Zc ([]:List Nd)).length=0 from rfl)];intro z hz;simp only [Xb,Xj,or_false] at hz;subst hz;exact ZnZ k n s _ (by rw [<- hc];exact ht);have hl:l≠[]:=λh=>mh (by rw [h];rfl)
 have dN:¬ (l.map Zc).length=0:=by simpa using hl
 unfold Z1e;rw [if_neg dN];split;exact ZkO _ _ _ p _ (cG 0) (cG 1) (cG 2) (Xn _);split;exact ZkO _ _ _ p _ (cG 0) (cG 1) (kB 0 (.inl rfl)) (Xn _);split;exact ZkO _ _ _ p _ (cG 0) (kB 1 (.inr rfl)) (cG 1) (Xn _);split;intro z hz;rcases Xf.1 hz with hz|hz
 exact hplain _ (by simp) z hz;simp only [Xb,Xj,or_false] at hz;subst hz;exact ⟨by simp,by simp,by simp only;omega,by simp only;omega⟩;exact hplain _ (Xn _)
theorem Za6 (x:Nd) (ht:Zf x≠0) (hl:(J2 x).length<=200):∀ z∈J2 x,I64 z.op/\I64 z.n:=by
 intro z hz;unfold J2 at hz hl;rw [Xc] at hl;rcases Xf.1 hz with hz|hz
 obtain ⟨h1,h2,h3,h4⟩:=Ztt x ht 0 z hz;unfold I64;constructor<;>omega;simp only [Xb,Xj,or_false] at hz;subst hz;unfold I64;simp
theorem Z4E {s:Str} (h:ZE s=true):s.length<=12:=by
 unfold ZE Z3U at h;simp only [Xm,decide_eq_true_eq] at h;have:=h.1;omega
theorem Zd1 (r:Rul) (h:Z0A r=0):ZwS (crF r)/\Zd0 (crF r)=0:=by
 unfold crF;rw [if_pos h];unfold Z0A at h;split at h
 contradiction;rename_i jc;have gf:Z0V r=0:=by omega
 unfold Z0V at gf;split at gf;simp at gf;rename_i fK;split at gf;simp at gf;rename_i kJ;split at gf
 contradiction;rename_i ig;have se:Z20 r.cnd 2=0:=by omega
 split at h
 contradiction;rename_i yC;have sf:Z0E r.cnd=0:=by omega
 have key:∀ (x:Nd) (t:Int),t≠0->Z20 x t=0->Z0E x=0->ZA x<=12/\Zf x=t/\(J2 x).length<=200:=λx t mw hm he=>by
  unfold Z20 at hm;unfold Z0E at he;split at hm;rename_i hn;rw [if_pos hn] at he;split at hm;simp at hm;rename_i h0;rw [if_neg h0] at he;split at hm;rename_i xn;split at he;simp at he;exact ⟨hn,xn,by omega⟩;simp at hm;simp at hm
 obtain ⟨n1,t1,l1⟩:=key r.cnd 2 (by decide) se sf;obtain ⟨n2,t2,l2⟩:=key r.due 3 (by decide) gf h;have v1:=Z9J r.cnd (by omega) n1 l1;have v2:=Z9J r.due (by omega) n2 l2;have lD:Jk r=true:=by simpa using fK
 unfold Jk at lD;simp only [Xm,Yax,decide_eq_true_eq] at lD;obtain ⟨⟨⟨a1,a2⟩,a3⟩,a4⟩:=lD;refine ⟨⟨show I64 r.frm by unfold I64;omega,Za6 _ (by omega) l1,Za6 _ (by omega) l2,l1,l2,Z4E a1,Z4E a2,?_,?_⟩,?_⟩;rcases a3 with h|h
 rw [show (⟨r.name,r.frm,r.on,J2 r.cnd,J2 r.due,r.unl,r.els⟩:Cr).unl=r.unl from rfl,h];simp;exact Z4E h;rcases a4 with h|h
 rw [show (⟨r.name,r.frm,r.on,J2 r.cnd,J2 r.due,r.unl,r.els⟩:Cr).els=r.els from rfl,h];simp;exact Z4E h;unfold Zd0 Z0y;simp only [v1,v2,t1,t2,a1,a2];rcases a3 with h3|h3<;>rcases a4 with h4|h4<;>simp [h3,h4]<;>omega
structure ZkP (n:Nat) (a:Atp):Prop where
 entry:0<=a.entry/\a.entry<=15
 party:0<=a.party/\a.party<=2
 crr:0<=a.crr/\a.crr<n
 sent:739616<=a.sent/\a.sent<=739655
 len:a.rets.length<=3
 rets:∀ x∈a.rets,Zfr n x
def Za7 (l:List Fct):Prop:=∀ k (h:k<l.length),2 * (k:Int)<=l[k].entry/\l[k].entry<=2 * (k:Int)+1
structure Z9f (c:Cas):Prop where
 fl:c.fcts.length<=8
 fo:∀ f∈c.fcts,Z9Z f
 en:Za7 c.fcts
 rl:c.ruls.length<=4
 ro:∀ q∈c.ruls,∃ r:RuleM,Z8l r/\Z0A r.rul=0/\q=crF r.rul
 al:c.atts.length<=4
 ao:∀ a∈c.atts,ZkP c.crrs.length a
 cl:1<=c.crrs.length/\c.crrs.length<=4
 co:∀ x∈c.crrs,Za1 x
 sl:c.stys.length<=2
 so:∀ x∈c.stys,Zfq x
 cal:ZoE c.cal
 court:0<=c.court/\c.court<=2
 today:739616<=c.today/\c.today<=739705
structure Z9g (X:List Nat) (lv:Value) (l:List Int) (c:Cas) (R:Z0X) (w:World):Prop where
 li:SlV X w lv l
 ff:SlV X w R.fv c.fcts
 rr:SlV X w R.rv c.ruls
 aa:SlV X w R.av c.atts
 cc:SlV X w R.cv c.crrs
 ss:SlV X w R.sv c.stys
 ho:SlV X w R.hv c.cal.hols
 clo:SlV X w R.lv c.cal.clos
 one:R.zo.oneCell'=true/\R.zs.oneCell'=true/\R.hr.oneCell'=true
theorem Z9g.ext {X:List Nat} {lv:Value} {l:List Int} {c:Cas} {R:Z0X} {w w':World} (h:Z9g X lv l c R w) (hS:Stp X w w'):Z9g X lv l c R w':=
 ⟨h.li.ext hS (λ_ h=>h) (λ_ h=>.inl h),h.ff.ext hS (λ_ h=>h) (λ_ h=>.inl h),h.rr.ext hS (λ_ h=>h) (λ_ h=>.inl h),h.aa.ext hS (λ_ h=>h) (λ_ h=>.inl h),h.cc.ext hS (λ_ h=>h) (λ_ h=>.inl h),h.ss.ext hS (λ_ h=>h) (λ_ h=>.inl h),h.ho.ext hS (λ_ h=>h) (λ_ h=>.inl h),h.clo.ext hS (λ_ h=>h) (λ_ h=>.inl h),h.one⟩
theorem Z9g.cell {X:List Nat} {lv:Value} {l:List Int} {c:Cas} {R:Z0X} {w} (h:Z9g X lv l c R w):∀ u∈Jl c R,u.oneCell'=true:=by
 have h1:=h.ff.one;have h2:=h.rr.one;have h3:=h.aa.one;have h4:=h.cc.one;have h5:=h.ss.one;have h6:=h.ho.one;have h7:=h.clo.one;obtain ⟨h8,h9,gN⟩:=h.one;intro u hu;simp only [Jl,Z06,Xb,Xj,or_false,XV,XJ] at hu;rcases hu with rfl|rfl|rfl|rfl|rfl|rfl|rfl|rfl|rfl|rfl|rfl|rfl|rfl|rfl|rfl|rfl|rfl|rfl|rfl<;>first|assumption|rfl
theorem Zh2 (c:Cal) (hv lv zo zs hr:Value) (p:Option Addr) (n k:Nat) (cs:List Crr) (ct td:Int) (w):(Instr.build 37 #[(5,Z5Z c hv lv zo zs hr),(3,.slice p n k),(6,.I ct),(7,.I td)]).run Tryz.prog w=.ok (.agg (Jl ⟨[],[],[],cs,[],c,ct,td⟩ ⟨.N,.N,.N,.slice p n k,.N,hv,lv,zo,zs,hr⟩).toArray) w:=by kernel_rfl
theorem Zh3 (f:Fct) (w):(Instr.buildSlice 24 1 #[(0,aG f)]).run Tryz.prog w=.ok (.slice (some ⟨w.heap.size,0,none⟩) 1 1) (w.alloc (.cells (Z3.enc f).toArray 45)):=by kernel_rfl
theorem ZkQ (a b c d:Int) (w):(Instr.build 78 #[(0,.I a),(1,.I b),(2,.I c),(3,.I d)]).run Tryz.prog w=.ok (.agg (atC ⟨a,b,c,d,[]⟩ (.N)).toArray) w:=by kernel_rfl
theorem Zfu {a:Atp} {v:Value} (h:v.oneCell'=true):∀ u∈atC a v,u.oneCell'=true:=by
 intro u hu;simp only [Xb,Xj,or_false] at hu;rcases hu with rfl|rfl|rfl|rfl|rfl<;>first|assumption|rfl
theorem Z8U (lv:Value) (l:List Int) (w) (hs:SlV [] w lv l) (hl:∀ a∈l,I64 a) (hL:Z0x w) (hM:Z3g w) :
 CC 10 #[lv] w λr w'=>∃ (c:Cas) (R:Z0X),r=.agg (Jl c R).toArray/\Z2k w' c R/\Z9f c/\Stp [] w w':=by
 have dX:∀ k,∀ a∈l.drop k,I64 a:=λk a h=>hl a (YaJ h);refine cW1 137 Tryz.func10 ?_;refine W ?_;refine Z0 Z2 rfl ?_;rintro _ w1 ⟨b2,rfl,cu,e2,hS⟩;refine W ?_;refine CL (Z1h lv l 40 _ (hs.up hS)) ?_;rintro v1 w2 ⟨h1,rfl⟩;have b2w:=e2.lt;refine W ?_;refine CM (ZR rfl) (Z8S [b2] v1 _ _ (by simpa using b2w) h1 (dX 40)) ?_;rintro _ w3 ⟨cal,hv,cv,zo,zs,hr,rfl,aF,dB,fO,bZ,hT⟩;replace e2:=e2.up hT;replace hS:=hS.trans hT;clear hT h1;refine W ?_;refine CL (Z1h lv l 60 _ (hs.up hS)) ?_;rintro v1 w4 ⟨h1,rfl⟩;refine W ?_;refine CL (Zbf v1 _ _ h1 (dX 60)) ?_;rintro crv w5 ⟨cs,bR,fq,iX,nM⟩;have cX:SlV [b2] w5 crv cs:=nM.slv (by simpa using e2.lt);have hT:=nM.2;replace e2:=e2.up hT;replace fO:=fO.up hT;replace bZ:=bZ.up hT;replace hS:=hS.trans hT;clear hT h1 nM;refine W ?_;refine CM (ZN rfl rfl rfl) (J3 [] _ l 0 3 _ (by decide) (by unfold I64;omega) (hs.up hS) hl) ?_;rintro _ w6 ⟨ct,rfl,nX,hT⟩;replace e2:=e2.up hT;replace fO:=fO.up hT;replace bZ:=bZ.up hT;replace cX:=cX.up hT;replace hS:=hS.trans hT;clear hT;refine W ?_;refine CM (ZN rfl rfl rfl) (J3 [] _ l 1 90 _ (by decide) (by unfold I64;omega) (hs.up hS) hl) ?_;rintro _ w7 ⟨td,rfl,sg,hT⟩;replace e2:=e2.up hT;replace fO:=fO.up hT;replace bZ:=bZ.up hT;replace cX:=cX.up hT;replace hS:=hS.trans hT;clear hT;obtain ⟨p,k,rfl,-⟩:=id cX;refine W ?_;refine Z7 rfl (Zh2 cal hv cv zo zs hr p cs.length k cs (ct:Int) (739616+(td:Int))) rfl ?_;generalize (.slice p cs.length k:Value)=crv at cX ⊢;refine Z0 Z2 rfl ?_;rintro _ w8 ⟨b3,rfl,dG,e3,hT⟩;have b2w7:=e2.lt;have n23:b2≠b3:=by omega
 replace e2:=e2.up hT;have nc:∀ b∈[b2,b3],b∈[b2]\/w7.heap.size<=b:=λb hb=>by simp at hb ⊢;omega
 obtain ⟨ud,nY,nZ,oa⟩:SlV [b2,b3] w8 lv l/\SlV [b2,b3] w8 hv cal.hols/\SlV [b2,b3] w8 cv cal.clos/\SlV [b2,b3] w8 crv cs:=⟨by
  have h:=hs.ext (X':=[b2,b3]) (hS.trans hT) (by simp) (λb hb=>.inr (by have:=hS.size;simp at hb;omega));exact h,fO.ext hT (by simp) nc,bZ.ext hT (by simp) nc,cX.ext hT (by simp) nc⟩
 replace hS:=hS.trans hT;clear hT fO bZ cX nc;have jm:Z9g [b2,b3] lv l ⟨[],[],[],cs,[],cal,(ct:Int),739616+(td:Int)⟩ ⟨.N,.N,.N,crv,.N,hv,cv,zo,zs,hr⟩ w8:=⟨ud,J0 _ _,J0 _ _,J0 _ _,oa,J0 _ _,nY,nZ,aF⟩
 have ay:Z9f ⟨[],[],[],cs,[],cal,(ct:Int),739616+(td:Int)⟩:=⟨Xq _,by simp,λk h=>by simp at h,Xq _,by simp,Xq _,by simp,⟨bR,fq⟩,iX,Xq _,by simp,dB,by dsimp only;omega,by dsimp only;omega⟩
 clear ud nY nZ oa aF;generalize pA:(⟨[],[],[],cs,[],cal,(ct:Int),739616+(td:Int)⟩:Cas)=C at *;generalize pB:(⟨.N,.N,.N,crv,.N,hv,cv,zo,zs,hr⟩:Z0X)=R at *;refine SB (us:=Jl C R) jm.cell e3 ?_;rintro _ w9 ⟨hT,e3⟩;replace jm:=jm.ext hT.mn;replace e2:=e2.ext hT (by simpa using n23);have g3:w.heap.size<=b3:=by have:=hS.size;have:=e3.lt;omega
 replace hS:=hS.ow hT;clear hT;have l2:=e2.lt;have l3:=e3.lt;have xo:C.fcts=[]:=by rw [<- pA]
 have si:C.ruls=[]:=by rw [<- pA]
 have mx:C.atts=[]:=by rw [<- pA]
 clear pA;have jY:R.fv=.N:=by rw [<- pB]
 have pC:R.rv=.N:=by rw [<- pB]
 have lE:R.av=.N:=by rw [<- pB]
 clear pB;refine W ?_
 refine Zu (σ:=Nat×Value×List Fct) (λq=>[(0,lv),(2,pQ b2),(3,pQ b3),(4,.I (q.1:Int))])
  (λq W=>q.1<=8/\q.2.2.length=q.1/\(∀ f∈q.2.2,Z9Z f)/\Za7 q.2.2/\Row [b2,b3] W w9.heap.size 45 q.2.1 q.2.2/\Blk W b3 37 (Jl C { R with fv:=q.2.1 })/\Stp [b3] w9 W) (λq=>9 - q.1) (0,.N,[])
  ⟨rfl,rfl,rfl,rfl,trivial⟩ ⟨by decide,rfl,by simp,λk h=>by simp at h,Row.nil,by rw [<- jY];exact e3,Stp.refl _ _⟩ ?_
 clear e3;rintro ⟨j,fv,fs⟩ y1 ⟨hj,ai,aO,pD,ab,e3,hT⟩;dsimp only at hj ai aO pD ab e3 ⊢;have my:=jm.ext hT.mn;have cx:SlV [] y1 lv l:=my.li.wk (by simp);have br:=λb hb=>ab.ob_le b hb;refine W ?_;refine CM (ZN rfl rfl rfl) (J3 [] _ l 2 9 _ (by decide) (by unfold I64;omega) cx hl) ?_;rintro _ y2 ⟨q,rfl,hq,hU⟩;replace ab:=ab.up hU;replace e3:=e3.up hU;replace cx:=cx.up hU;replace hT:=hT.trans hU.mn;clear hU my;by_cases hlt:(j:Int)<(q:Int);refine QO ?_;refine ZDr 16 [] [13,15] [(0,0),(1,1),(2,0),(3,0),(4,0),(7,0),(8,0),(9,0),(5,2),(6,0),(10,2),(11,2),(12,2),(13,2),(14,0),(15,2)] (λw1 ae=>?_);replace ab:=ab.up ae;replace e3:=e3.up ae;replace cx:=cx.up ae;replace hT:=hT.trans ae.mn;clear ae;refine QD ?_;refine Za rfl trivial (Z4 rfl (ZN rfl rfl rfl) (J3 [] _ l 3 2 _ (by decide) (by unfold I64;omega) cx hl)) (λ_ _ h=>h.choose_spec.2.2) rfl ?_;rintro _ y3 ⟨q3,rfl,oX,hU⟩;replace ab:=ab.up hU;replace e3:=e3.up hU;replace cx:=cx.up hU;replace hT:=hT.trans hU.mn;clear hU;refine QD ?_;refine Za rfl trivial (Z4 rfl (ZN rfl rfl rfl) (J3 [] _ l (4+(j:Int)) 100000000 _ (by decide) (by unfold I64;omega) cx hl)) (λ_ _ h=>h.choose_spec.2.2) rfl ?_;rintro _ y4 ⟨q4,rfl,mc,hU⟩;replace ab:=ab.up hU;replace e3:=e3.up hU;replace hT:=hT.trans hU.mn;clear hU cx;focus repeat'(first|refine D1 ?_|omega|refine Zk rfl rfl rfl rfl (λhg=>?_) (λhg=>?_)|(refine Zh rfl rfl rfl rfl (λhg=>?_) (λhg=>?_)<;>refine D1 ?_)|fail)
 refine Za rfl trivial (Z4 rfl (Zd rfl rfl) (Za0 (2 * (j:Int)+(q3:Int)) (q4:Int) _ (by unfold I64;omega))) (λ_ _ h=>h.choose_spec.2.2.2) rfl ?_;rintro _ y5 ⟨f,rfl,yD,hf,hU⟩;replace ab:=ab.up hU;replace e3:=e3.up hU;replace hT:=hT.trans hU.mn;clear hU;focus repeat'(first|refine D1 ?_|omega|refine Zk rfl rfl rfl rfl (λhg=>?_) (λhg=>?_)|(refine Zh rfl rfl rfl rfl (λhg=>?_) (λhg=>?_)<;>refine D1 ?_)|fail)
 refine Za rfl trivial (Z1 rfl (Zh3 f)) (λ_ _ h=>Z9.stp h) rfl ?_;rintro vs y6 hN;have dE:SlV (ob fv++[b2,b3]) y6 vs [f]:=hN.slv (λb hb=>by
  have:=hT.size;rcases Xf.1 hb with h|h
  exact (ab.ob_le b h).2;simp at h;omega) rfl (by simp) (by simp [maxLen])
 have hU:=Z9.stp hN;clear hN;replace ab:=ab.up hU;replace e3:=e3.up hU;replace hT:=hT.trans hU.mn;clear hU;focus repeat'(first|refine D1 ?_|omega|refine Zk rfl rfl rfl rfl (λhg=>?_) (λhg=>?_)|(refine Zh rfl rfl rfl rfl (λhg=>?_) (λhg=>?_)<;>refine D1 ?_)|fail)
 refine ZmA rfl trivial (ZF (α:=Fct) (X:=[b2,b3]) (base:=w9.heap.size) rfl (by decide) rfl rfl ab dE (Xh (Xo _ (show fs.length+[f].length<=10 by simp;omega)) (by decide)) (by simp [maxLen];omega) (by have:=hT.size;omega)) rfl rfl ?_;rintro fv' y7 ⟨aC,hU,gX⟩;have bJ:=λb hb=>ab.ob_le b hb;replace e3:=e3.ext hU (λh=>by have:=bJ _ h;omega);replace hT:=hT.own hU (λb hb=>.inr (bJ b hb).1);clear hU;obtain ⟨pv,kv,rfl,-⟩:=id (Row.slv (X:=[b2,b3]) aC (λb hb=>by simp at hb;omega));refine QD ?_;refine ZO rfl trivial (Zb (u:=.slice pv (fs++[f]).length kv) rfl rfl rfl rfl e3 (show (0:Nat)<19 by decide)) rfl ?_;rintro _ y8 ⟨hU,e3⟩;replace e3:Blk y8 b3 37 (Jl C { R with fv:=.slice pv (fs++[f]).length kv }):=e3;replace hT:=hT.own hU (λb hb=>.inl hb);replace aC:=aC.keep hU (λb hb h=>by simp only [Xi] at hb;subst hb;have:=(aC.ob_le _ h).1;omega);clear hU;refine QD ?_;refine QO ?_;exact Zx (j+1,.slice pv (fs++[f]).length kv,fs++[f]) ⟨rfl,rfl,rfl,rfl,trivial⟩ ⟨by dsimp only;omega,by simp [ai],λz hz=>by
  rcases Xf.1 hz with h|h
  exact aO z h;simp only [Xi] at h;subst h;exact hf,λk hk=>by
  dsimp only at hk ⊢;rw [List.getElem_append];split;exact pD k _;have:k=j:=by simp at hk;omega
  subst this;simp only [List.getElem_singleton];omega,aC,e3,hT⟩ (by dsimp only;omega)
 . as_aux_lemma=>
   have ue:Z9g [b2,b3] lv l { C with fcts:=fs } { R with fv:=fv } y2:={ jm.ext hT.mn with ff:=Row.slv (X:=[b2,b3]) ab (λb hb=>by simp at hb;omega) }
   have gZ:Z9f { C with fcts:=fs }:=⟨by dsimp only;omega,aO,pD,ay.rl,ay.ro,ay.al,ay.ao,ay.cl,ay.co,ay.sl,ay.so,ay.cal,ay.court,ay.today⟩
   replace e2:=e2.ext hT (by simp;omega);replace hS:=hS.ow hT;replace l2:=e2.lt;replace l3:=e3.lt;replace si:({ C with fcts:=fs }:Cas).ruls=[]:=si;replace mx:({ C with fcts:=fs }:Cas).atts=[]:=mx;replace pC:({ R with fv:=fv }:Z0X).rv=.N:=pC;replace lE:({ R with fv:=fv }:Z0X).av=.N:=lE;clear jm ay hT ab br aO pD xo jY ai;replace e3:Blk y2 b3 37 (Jl { C with fcts:=fs } { R with fv:=fv }):=e3;generalize ({ C with fcts:=fs }:Cas)=C at *;generalize ({ R with fv:=fv }:Z0X)=R at *;refine QO ?_;refine CL (Z1h lv l 80 _ cx) ?_;rintro v1 z1 ⟨h1,rfl⟩;repeat'(first|refine W1 ?_|omega|refine VG ?_ ?_<;>intro hg|refine VC ?_ ?_<;>intro hc)
   refine CM (ZR rfl) (Zh1 [b2,b3] v1 _ _ (λb hb=>by simp at hb;omega) h1 (dX 80)) ?_;rintro gv z2 ⟨rs,h4,aB,mz,hT⟩;have uf:=ue.ext hT.mn;replace e2:=e2.up hT;replace e3:=e3.up hT;replace hS:=hS.trans hT;replace l2:=e2.lt;replace l3:=e3.lt;clear ue hT h1 cx;have pP:(rs.map RuleM.rul).length=rs.length:=Xt ..;have mQ:=mz.max;refine QO ?_
   refine Zu (σ:=Nat×Value×List Cr) (λq=>[(0,lv),(2,pQ b2),(3,pQ b3),(5,gv),(6,.I (q.1:Int))])
    (λq W=>q.1<=rs.length/\q.2.2.length<=q.1/\(∀ x∈q.2.2,∃ r:RuleM,Z8l r/\Z0A r.rul=0/\x=crF r.rul)/\Row [b2,b3] W z2.heap.size 62 q.2.1 q.2.2/\Blk W b3 37 (Jl C { R with rv:=q.2.1 })/\Stp [b3] z2 W) (λq=>rs.length - q.1) (0,.N,[])
    ⟨rfl,rfl,rfl,rfl,rfl,trivial⟩ ⟨by omega,Xn _,by simp,Row.nil,by rw [<- pC];exact e3,Stp.refl _ _⟩ ?_
   clear e3;rintro ⟨j,rv,qs⟩ y1 ⟨hj,ai,aO,ab,e3,hT⟩;dsimp only at hj ai aO ab e3 ⊢;have br:=λb hb=>ab.ob_le b hb;have fz:SlV [b2,b3] y1 gv (rs.map RuleM.rul):=mz.ext hT (by simp) (λ_ h=>.inl h);by_cases hlt:j<rs.length;have cx:j<(rs.map RuleM.rul).length:=by omega
   have hG:=aB _ (Xd hlt);have oc:(rs.map RuleM.rul)[j]=rs[j].rul:=by simp
   obtain ⟨ka,kb,lF,jE,iQ⟩:=ZjE fz cx;rw [oc] at lF jE;have fR:ZP rs[j].cond<=1000:=Xh hG.cond.size (by decide);have jC:ZP rs[j].due<=1000:=Xh hG.due.size (by decide);refine QO ?_;refine Z8 (Z8k rfl rfl fz cx iQ) rfl ?_;rw [oc];refine CM (ZR rfl) (Zgh _ rs[j].rul _ ⟨ka,kb,rfl,lF.wk (by simp),jE.wk (by simp)⟩ fR jC) ?_;rintro _ y2 ⟨cv,rfl,ca,hU⟩;obtain ⟨k1,d1,rfl,bH,cQ⟩:=ca (ob rv++[b2,b3]) (λb hb=>by
    have:=hT.size;rcases Xf.1 hb with h|h
    exact (br b h).2;simp at h;omega)
   clear ca fz lF jE iQ;replace ab:=ab.up hU;replace e3:=e3.up hU;replace hT:=hT.trans hU.mn;clear hU;refine W ?_;have yE:=hT.size;refine Z0 Z2 rfl ?_;rintro _ y3 ⟨b7,rfl,fk,e7,hU⟩;have n37:b3≠b7:=by have:=e3.lt;omega
   have bJ:=λb hb=>ab.ob_le b hb;replace ab:=ab.ext (X':=[b2,b3,b7]) hU (by simp) (λb hb=>by simp at hb ⊢;omega);replace e3:=e3.up hU;have nb7:∀ b∈b7 :: (ob rv++[b2,b3]),b∈ob rv++[b2,b3]\/y2.heap.size<=b:=λb hb=>by
    rcases Xb.1 hb with rfl|h
    exact .inr fk;exact .inl h
   replace bH:=bH.ext hU (by simp) nb7;replace cQ:=cQ.ext hU (by simp) nb7;replace hT:=hT.trans hU.mn;clear hU;refine SB (us:=crC (crF rs[j].rul) k1 d1) (Z0k bH cQ) e7 ?_;rintro _ y4 ⟨hU,e7⟩;replace ab:=ab.ext (X':=[b2,b3]) hU (λb hb=>by
    simp only [Xi] at hb;subst hb;exact ⟨by simp,λh=>by have:=(bJ _ h).2;omega⟩) (λb hb=>.inl (by simp at hb ⊢;omega))
   replace e3:=e3.ext hU (by simpa using n37);replace bH:=bH.ext (X':=ob rv++[b2,b3]) hU (by simp) (λb hb=>.inl (XI _ hb));replace cQ:=cQ.ext (X':=ob rv++[b2,b3]) hU (by simp) (λb hb=>.inl (XI _ hb));replace hT:=hT.ow hU;clear hU;by_cases he:Z0A rs[j].rul=0;refine QO ?_;have zT:=hT.size;refine APG (X:=[b2,b3]) (base:=z2.heap.size) (crF rs[j].rul) ab (λb hb=>by simp at hb;omega) (by omega) ⟨k1,d1,rfl,bH,cQ⟩ (Xh (Xo _ (show qs.length+1<=10 by omega)) (by decide)) (by simp only [maxLen];omega) λv1 rv' y5 aC hU gX=>?_
   replace e3:=e3.ext hU (λh=>by have:=(bJ _ h).1;omega);replace hT:=hT.own hU (λb hb=>.inr (bJ b hb).1);clear hU;obtain ⟨pv,kv,rfl,-⟩:=id (Row.slv (X:=[b2,b3]) aC (λb hb=>by simp at hb;omega));refine QO ?_;refine Z6 (Zb (u:=.slice pv (qs++[crF rs[j].rul]).length kv) rfl rfl rfl rfl e3 (show (1:Nat)<19 by decide)) ?_;rintro _ y6 ⟨hU,e3⟩;replace e3:Blk y6 b3 37 (Jl C { R with rv:=.slice pv (qs++[crF rs[j].rul]).length kv }):=e3;replace hT:=hT.own hU (λb hb=>.inl hb);replace aC:=aC.ext (X':=[b2,b3]) hU (λb hb=>by
    simp only [Xi] at hb;subst hb;exact ⟨by simp,λh=>by have:=(aC.ob_le _ h).1;omega⟩) (λb hb=>.inl hb)
   clear hU;refine QO ?_;exact Zx (j+1,.slice pv (qs++[crF rs[j].rul]).length kv,qs++[crF rs[j].rul]) ⟨rfl,rfl,rfl,rfl,rfl,trivial⟩ ⟨by dsimp only;omega,by simp;omega,λz hz=>by
    rcases Xf.1 hz with h|h
    exact aO z h;simp only [Xi] at h;subst h;exact ⟨rs[j],hG,he,rfl⟩,aC,e3,hT⟩ (by dsimp only;omega)
   refine QO ?_;exact QL (j+1,rv,qs) ⟨by dsimp only;omega,by dsimp only;omega,aO,ab,e3,hT⟩ (by dsimp only;omega)
   . as_aux_lemma=>
     refine QO ?_;have od:Z9g [b2,b3] lv l { C with ruls:=qs } { R with rv:=rv } y1:={ uf.ext hT.mn with rr:=Row.slv (X:=[b2,b3]) ab (λb hb=>by simp at hb;omega) }
     have ia:Z9f { C with ruls:=qs }:=⟨gZ.fl,gZ.fo,gZ.en,by dsimp only;omega,aO,gZ.al,gZ.ao,gZ.cl,gZ.co,gZ.sl,gZ.so,gZ.cal,gZ.court,gZ.today⟩
     replace e2:=e2.ext hT (by simp;omega);replace hS:=hS.ow hT;replace l2:=e2.lt;replace l3:=e3.lt;replace mx:({ C with ruls:=qs }:Cas).atts=[]:=mx;replace lE:({ R with rv:=rv }:Z0X).av=.N:=lE;replace e3:Blk y1 b3 37 (Jl { C with ruls:=qs } { R with rv:=rv }):=e3;clear uf gZ hT ab br aO si pC ai fz mz;generalize ({ C with ruls:=qs }:Cas)=C at *;generalize ({ R with rv:=rv }:Z0X)=R at *;have cx:SlV [] y1 lv l:=od.li.wk (by simp);refine CL (Z1h lv l 30 _ cx) ?_;rintro v3 u1 ⟨h3,rfl⟩;refine QO ?_;refine CL (Z1h lv l 30 _ cx) ?_;rintro v4 u2 ⟨oZ,rfl⟩;have pi:=h3.max;have xp:=oZ.max;refine QO ?_;refine Z8 (Z1U (r:=min 4 (l.drop 30).length) rfl h3 rfl (by omega) (by omega)) rfl ?_;have h5:=h3.slc (l:=0) (r:=min 4 (l.drop 30).length) (by omega) (by omega);have pE:∀ a∈((l.drop 30).take (min 4 (l.drop 30).length)).drop 0,I64 a:=λa h=>dX 30 a (Yau (YaJ h));have ug:(((l.drop 30).take (min 4 (l.drop 30).length)).drop 0).length<=4:=by simp only [Yaq,Xx];omega
     refine CL (ZcT _ _ _ h5 pE ug) ?_;rintro sv u3 ⟨xs,io,lG,mH⟩;have kw:SlV [b2,b3] u3 sv xs:=mH.slv (λb hb=>by simp at hb;omega);have hT:=mH.2;replace od:=od.ext hT.mn;replace e2:=e2.up hT;replace e3:=e3.up hT;replace hS:=hS.trans hT;clear hT h3 oZ h5 pE ug mH pi xp cx;obtain ⟨ps,ks,rfl,-⟩:=id kw;refine QO ?_;refine Z6 (Zb (u:=.slice ps xs.length ks) rfl rfl rfl rfl e3 (show (4:Nat)<19 by decide)) ?_;rintro _ u4 ⟨hT,e3⟩;replace e3:Blk u4 b3 37 (Jl { C with stys:=xs } { R with sv:=.slice ps xs.length ks }):=e3;have uh:Z9g [b2,b3] lv l { C with stys:=xs } { R with sv:=.slice ps xs.length ks } u4:={ od.ext hT.mn with ss:=kw.ext hT (by simp) (λ_ h=>.inl h) }
     have ib:Z9f { C with stys:=xs }:=⟨ia.fl,ia.fo,ia.en,ia.rl,ia.ro,ia.al,ia.ao,ia.cl,ia.co,io,lG,ia.cal,ia.court,ia.today⟩
     replace e2:=e2.ext hT (by simp;omega);replace hS:=hS.ow hT;replace l2:=e2.lt;replace l3:=e3.lt;replace mx:({ C with stys:=xs }:Cas).atts=[]:=mx;replace lE:({ R with sv:=.slice ps xs.length ks }:Z0X).av=.N:=lE;clear od ia hT kw io lG;generalize ({ C with stys:=xs }:Cas)=C at *;generalize ({ R with sv:=.slice ps xs.length ks }:Z0X)=R at *;refine QO ?_
     refine Zu (σ:=Nat×Value×List Atp) (λq=>[(0,lv),(2,pQ b2),(3,pQ b3),(9,.I (q.1:Int))])
      (λq W=>q.1<=4/\q.2.2.length=q.1/\(∀ x∈q.2.2,ZkP C.crrs.length x)/\Row [b2,b3] W u4.heap.size 78 q.2.1 q.2.2/\Blk W b3 37 (Jl C { R with av:=q.2.1 })/\Stp [b3] u4 W) (λq=>5 - q.1) (0,.N,[])
      ⟨rfl,rfl,rfl,rfl,trivial⟩ ⟨by decide,rfl,by simp,Row.nil,by rw [<- lE];exact e3,Stp.refl _ _⟩ ?_
     clear e3;rintro ⟨j,av,as_⟩ y1 ⟨hj,ai,aO,ab,e3,hT⟩;dsimp only at hj ai aO ab e3 ⊢;have br:=λb hb=>ab.ob_le b hb;have my:=uh.ext hT.mn;have cx:SlV [] y1 lv l:=my.li.wk (by simp);have cX:=my.cc;have bZ:=ib.cl;have sj:=cX.max;refine QO ?_;refine CM (ZN rfl rfl rfl) (J3 [] _ l 12 5 _ (by decide) (by unfold I64;omega) cx hl) ?_;rintro _ y2 ⟨q,rfl,hq,hU⟩;replace ab:=ab.up hU;replace e3:=e3.up hU;replace cx:=cx.up hU;replace cX:=cX.up hU;replace hT:=hT.trans hU.mn;clear hU my;obtain ⟨pc,kc,ca,-⟩:=id cX;by_cases hlt:(j:Int)<(q:Int)
     . as_aux_lemma=>
       have xq:j+1<=4:=by omega
       have lH:5 - (j+1)<5 - j:=by omega
       refine QO ?_;refine CM (ZN rfl rfl rfl) (J3 [] _ l (13+(j:Int)) 1000000 _ (by decide) (by unfold I64;omega) cx hl) ?_;rintro _ y3 ⟨n,rfl,hn,hU⟩;replace ab:=ab.up hU;replace e3:=e3.up hU;replace cx:=cx.up hU;replace cX:=cX.up hU;replace hT:=hT.trans hU.mn;clear hU;refine QO ?_;have r1:0<=(n:Int) % 16/\(n:Int) % 16<=15:=by omega
       have r2:0<=(n:Int) / 16 % 3/\(n:Int) / 16 % 3<=2:=by omega
       have r3:0<=(n:Int) / 48 % (C.crrs.length:Int)/\(n:Int) / 48 % (C.crrs.length:Int)<C.crrs.length:=⟨Ya8 _ (by omega),YaR _ (by omega)⟩
       have r4:739616<=739616+(n:Int) / 768 % 40/\739616+(n:Int) / 768 % 40<=739655:=by omega
       generalize (n:Int) % 16=a1 at r1 ⊢;generalize (n:Int) / 16 % 3=a2 at r2 ⊢;generalize (n:Int) / 48 % (C.crrs.length:Int)=a3 at r3 ⊢;generalize 739616+(n:Int) / 768 % 40=a4 at r4 ⊢;refine Z7 rfl (ZkQ a1 a2 a3 a4) rfl ?_;have zT:=hT.size;refine Z0 Z2 rfl ?_;rintro _ y4 ⟨b,rfl,hb,e4,hU⟩;have n3:b3≠b:=by have:=e3.lt;omega
       have bJ:=λb hb=>ab.ob_le b hb;replace ab:=ab.ext (X':=[b2,b3,b]) hU (by simp) (λc hc=>by simp at hc ⊢;omega);replace e3:=e3.up hU;replace cx:=cx.ext (X':=[b]) hU (by simp) (λc hc=>.inr (by simp at hc;omega));replace cX:=cX.ext (X':=[b]) hU (by simp) (λc hc=>.inr (by simp at hc;omega));replace hT:=hT.trans hU.mn;clear hU;refine SB (us:=atC ⟨a1,a2,a3,a4,[]⟩ (.N)) (Zfu (by rfl)) e4 ?_;rintro _ y5 ⟨hU,e4⟩;replace e3:=e3.ext hU (by simpa using n3);replace ab:=ab.ext (X':=[b2,b3,b]) hU (λc hc=>by
        simp only [Xi] at hc;subst hc;exact ⟨by simp,λh=>by have:=(bJ _ h).2;omega⟩) (λc hc=>.inl hc)
       replace cx:=cx.ext (X':=[b]) hU (by simp) (λc hc=>.inl hc);replace cX:=cX.ext (X':=[b]) hU (by simp) (λc hc=>.inl hc);replace hT:=hT.ow hU;clear hU;refine QO ?_
       refine Ju (σ:=Value×List Rtn) (λq=>[(0,lv),(2,pQ b2),(3,pQ b3),(9,.I (j:Int)),(11,pQ b)])
        (λq W=>(q.2.length<=3/\∀ x∈q.2,Zfr C.crrs.length x)/\Blk W b 78 (atC ⟨a1,a2,a3,a4,q.2⟩ q.1)/\Row [b2,b3] W u4.heap.size 78 av as_/\SlV (ob av++[b2,b3]) W q.1 q.2/\Blk W b3 37 (Jl C { R with av:=av })/\Stp [b3] u4 W) ?_ ?_
       . as_aux_lemma=>
         refine ZDr 20 [] [19] [(0,0),(1,0),(2,0),(3,0),(5,0),(6,0),(7,0),(8,0),(13,0),(14,1),(15,0),(16,1),(4,2),(9,2),(10,0),(11,0),(12,0),(17,2),(18,0),(19,2)] (λw1 ae=>?_);replace ab:=ab.up ae;replace e3:=e3.up ae;replace e4:=e4.up ae;replace cx:=cx.up ae;replace cX:=cX.up ae;replace hT:=hT.trans ae.mn;clear ae;have sm:=cx.wk (X':=[]) (by simp);have pF:=Z1h lv l (18+3 * j) _ sm;have rt:((18+3 * j:Nat):Int)=18+3 * (j:Int):=by omega
         rw [rt] at pF;refine QD ?_;refine DC pF (λ_ _ h=>by rw [h.2];exact Stp.refl _ _) ?_;rintro v5 u5 ⟨h5,rfl⟩;repeat'(first|refine D1 ?_|omega|refine Zk rfl rfl rfl rfl (λhg=>?_) (λhg=>?_)|(refine Zh rfl rfl rfl rfl (λhg=>?_) (λhg=>?_)<;>refine D1 ?_)|fail)
         refine DC pF (λ_ _ h=>by rw [h.2];exact Stp.refl _ _) ?_;rintro v6 u6 ⟨h6,rfl⟩;clear pF;have uc:=h5.max;refine QD ?_;refine ZS rfl trivial (λ_=>Z1U (r:=min 3 (l.drop (18+3 * j)).length) rfl h5 rfl (by omega) (by omega)) rfl ?_;have h7:=h5.slc (l:=0) (r:=min 3 (l.drop (18+3 * j)).length) (by omega) (by omega);have ui:∀ a∈((l.drop (18+3 * j)).take (min 3 (l.drop (18+3 * j)).length)).drop 0,I64 a:=λa h=>dX _ a (Yau (YaJ h));have uj:(((l.drop (18+3 * j)).take (min 3 (l.drop (18+3 * j)).length)).drop 0).length<=3:=by simp only [Yaq,Xx];omega
         repeat'(first|refine D1 ?_|omega|refine Zk rfl rfl rfl rfl (λhg=>?_) (λhg=>?_)|(refine Zh rfl rfl rfl rfl (λhg=>?_) (λhg=>?_)<;>refine D1 ?_)|fail)
         refine Za rfl trivial (Z4 rfl (ZN rfl rfl rfl) (ZcU _ R.cv _ C.crrs a4 _ h7 ui uj (cX.wk (by simp)) bZ r4)) (λ_ _ h=>h.choose_spec.2.2.2) rfl ?_;rintro rv u7 ⟨rs7,dA,lq,eE⟩;have hU:=eE.2;have ax:SlV (b :: (ob av++[b2,b3])) u7 rv rs7:=eE.slv (λc hc=>by
          have:=hT.size;have:=e4.lt;rcases Xb.1 hc with rfl|hc
          omega;rcases Xf.1 hc with h|h
          have:=ab.ob_le c h;omega;simp at h;omega)
         replace ab:=ab.up hU;replace e3:=e3.up hU;replace e4:=e4.up hU;replace hT:=hT.trans hU.mn;clear hU eE h7 ui uj h5 h6;obtain ⟨pr,kr,rfl,-⟩:=id ax;refine QD ?_;refine ZO rfl trivial (Zb (u:=.slice pr rs7.length kr) rfl rfl rfl rfl e4 (show (4:Nat)<5 by decide)) rfl ?_;rintro _ u8 ⟨hU,e4⟩;replace e4:Blk u8 b 78 (atC ⟨a1,a2,a3,a4,rs7⟩ (.slice pr rs7.length kr)):=e4;replace e3:=e3.ext hU (by simpa using n3);have eo:=λb hb=>ab.ob_le b hb;replace ab:=ab.ext (X':=[b2,b3]) hU (λc hc=>by
          simp only [Xi] at hc;subst hc;exact ⟨by simp,λh=>by have:=(bJ _ h).2;omega⟩) (λc hc=>.inl (by simp at hc ⊢;omega))
         replace hT:=hT.ow hU;refine QD ?_;exact QT (.slice pr rs7.length kr,rs7) ⟨⟨dA,lq⟩,e4,ab,ax.ext hU (by simp) (λc hc=>.inl (XI _ hc)),e3,hT⟩
       . clear ab e3 e4 hT cx cX
         as_aux_lemma=>
         rintro ⟨rv,rs7⟩ u8 ⟨⟨dA,lq⟩,e4,ab,ax,e3,hT⟩;dsimp only at dA lq e4 ax;have sq:ZkP C.crrs.length (⟨a1,a2,a3,a4,rs7⟩:Atp):=⟨r1,r2,r3,r4,dA,lq⟩
         clear r1 r2 r3 r4 dA lq hn sj bZ;have eo:=λb hb=>ab.ob_le b hb;have zT8:=hT.size;have kl:=ax.max;refine QO ?_;refine APG (X:=[b2,b3]) (base:=u4.heap.size) (⟨a1,a2,a3,a4,rs7⟩:Atp) ab (λb hb=>by simp at hb;omega) (by omega) ⟨rv,rfl,ax⟩ (Xh (Xo _ (show as_.length+1<=10 by omega)) (by decide)) (by simp only [maxLen];omega) λv1 av' u9 aC hU gX=>?_
         replace e3:=e3.ext hU (λh=>by have:=(eo _ h).1;omega);replace hT:=hT.own hU (λb hb=>.inr (eo b hb).1);clear hU;obtain ⟨pv,kv,rfl,-⟩:=id (Row.slv (X:=[b2,b3]) aC (λb hb=>by simp at hb;omega));refine QO ?_;refine Z6 (Zb (u:=.slice pv (as_++[(⟨a1,a2,a3,a4,rs7⟩:Atp)]).length kv) rfl rfl rfl rfl e3 (show (2:Nat)<19 by decide)) ?_;rintro _ x1 ⟨hU,e3⟩;replace e3:Blk x1 b3 37 (Jl C { R with av:=.slice pv (as_++[(⟨a1,a2,a3,a4,rs7⟩:Atp)]).length kv }):=e3;replace hT:=hT.own hU (λb hb=>.inl hb);replace aC:=aC.ext (X':=[b2,b3]) hU (λc hc=>by
          simp only [Xi] at hc;subst hc;exact ⟨by simp,λh=>by have:=(aC.ob_le _ h).1;omega⟩) (λc hc=>.inl hc)
         clear hU;refine QO ?_;exact Zx (j+1,.slice pv (as_++[(⟨a1,a2,a3,a4,rs7⟩:Atp)]).length kv,as_++[(⟨a1,a2,a3,a4,rs7⟩:Atp)]) ⟨rfl,rfl,rfl,rfl,trivial⟩ ⟨xq,by simp [ai],λz hz=>by
          rcases Xf.1 hz with h|h
          exact aO z h;simp only [Xi] at h;subst h;exact sq,aC,e3,hT⟩ lH
     . as_aux_lemma=>
       have uk:Z9g [b2,b3] lv l { C with atts:=as_ } { R with av:=av } y2:={ uh.ext hT.mn with aa:=Row.slv (X:=[b2,b3]) ab (λb hb=>by simp at hb;omega) }
       have ul:Z9f { C with atts:=as_ }:=⟨ib.fl,ib.fo,ib.en,ib.rl,ib.ro,by dsimp only;omega,aO,ib.cl,ib.co,ib.sl,ib.so,ib.cal,ib.court,ib.today⟩
       replace e3:Blk y2 b3 37 (Jl { C with atts:=as_ } { R with av:=av }):=e3;replace e2:=e2.ext hT (by simp;omega);replace hS:=hS.ow hT;generalize ({ C with atts:=as_ }:Cas)=D at *;generalize ({ R with av:=av }:Z0X)=Q at *;refine QO ?_;refine SB (us:=Jl D Q) uk.cell e2 ?_;rintro _ x2 ⟨hU,e2⟩;have kC:=uk.ext hU.mn;have ah:=hS.ow hU;refine W ?_;refine J6 rfl rfl rfl e2 rfl ?_;exact .mk ⟨D,Q,rfl,⟨kC.ff.wk (by simp),kC.rr.wk (by simp),kC.aa.wk (by simp),kC.cc.wk (by simp),kC.ss.wk (by simp),⟨kC.ho.wk (by simp),kC.clo.wk (by simp),hL.up ah,hM.up ah,ul.cal.ok⟩,kC.one⟩,ul,ah⟩
theorem Z2k.own {w w0 W:World} {B:List Nat} {c:Cas} {R:Z0X} (hv:Z2k w c R) (h0:Stp [] w w0) (hB:∀ b∈B,w.heap.size<=b) (hS:Stp B w0 W):Z2k W c R:=hv.up (h0.own hS (λb hb=>.inr (hB b hb)))
theorem Row.low {α:Type} [Z5 α] {X:List Nat} {w} {a b T:Nat} {v:Value} {xs:List α} (h:Row X w b T v xs) (cU:a<=b):Row [] w a T v xs:=(h.lower cU).ext (Stp.refl [] w) (by simp) (by simp)
theorem Za8 (c:Cas) (R:Z0X) (w) (hv:Z2k w c R) (hs:Z6a c) :
 CC 19 #[.agg (Jl c R).toArray] w λv w'=>ZI 45 w w' v (Z1g c):=by
 have dW:=hs.fl;refine cW1 43 Tryz.func19 ?_;refine W ?_;refine BX (Stp.refl [] w) λb1 w1 h1 e1 _ hS=>?_;replace e1:Blk w1 b1 37 (Jl c R):=e1;have l1:=e1.lt;refine W ?_;refine Z0 (Z0T Z7t) rfl ?_;rintro _ w2 ⟨r,rfl,hr,hm,hT⟩;have gr:w.heap.size<=r:=Xh hS.size hr;have lr:=hm.lt;have z2:=hT.size;replace e1:=e1.up hT;replace hS:=hS.trans hT;clear hT;refine Z0 Z2 rfl ?_;rintro _ w3 ⟨b3,rfl,dG,e3,hT⟩;have z3:=hT.size;replace e1:=e1.up hT;replace hm:=hm.up hT;replace hS:=hS.trans hT;clear hT;replace e3:Blk w3 b3 108 [.map none]:=e3;refine S1 (u:=.map (some r)) e3 ?_;rintro _ w4 ⟨hT,e3⟩;have z4:=hT.size;replace e3:Blk w4 b3 108 [.map (some r)]:=e3;replace e1:=e1.ext hT (by simp;omega);replace hm:=hm.ext hT (by simp;omega);replace hS:=hS.ow hT;have l3:=e3.lt;clear hT;refine W ?_;have oY:=(hv.up hS).ff;refine W ?_
 refine Zu (σ:=Nat) (λk=>[(1,pQ b1),(3,pQ b3),(12,R.fv),(13,.I c.fcts.length),(14,.I k)])
  (λk W=>k<=c.fcts.length/\JL Z7t W r ((c.fcts.take k).map (λf=>(f,.B true)))/\Stp [r] w4 W) (λk=>c.fcts.length - k) 0 ⟨rfl,rfl,rfl,rfl,rfl,trivial⟩ ⟨by omega,by simpa using hm,Stp.refl _ _⟩ ?_
 clear hm oY;rintro k w5 ⟨hk,hm,hT⟩;have um:=hv.own hS (B:=[r]) (by simpa using gr) hT;by_cases hlt:k<c.fcts.length;have eH:=um.ff;have e3':=e3.ext hT (by simp;omega);have hfresh:∀ x∈c.fcts.take k,x≠c.fcts[k]:=by
  have h:=hs.nd.sublist (List.take_sublist (k+1) c.fcts);rw [Xk hlt,List.nodup_append] at h;exact λx hx=>h.2.2 x hx _ (by simp)
 refine QO ?_;refine Z0 Z2 rfl ?_;rintro _ w6 ⟨b5,rfl,jt,e5,hA⟩;refine SA (us:=Z3.enc c.fcts[k]) e5 ?_;rintro _ w7 ⟨dl,e5⟩;replace hA:=hA.ow dl;replace e3':=e3'.up hA;replace hm:=hm.up hA;refine QO ?_;refine Z6 (Z1M (a:=c.fcts[k]) rfl rfl rfl hm (λp hp=>by
  obtain ⟨x,hx,rfl⟩:=XG.1 hp;exact hfresh x hx)) ?_
 rintro _ w8 ⟨jw,xr⟩;refine QO ?_;exact QL (k+1) ⟨hlt,by rw [Xk hlt,XP];exact jw,(hT.trans hA.mn).trans xr⟩ (by omega);obtain rfl:k=c.fcts.length:=by omega
 rw [Xp] at hm;have e1':=e1.ext hT (by simp;omega);refine QO ?_;have uo:SlV [r] w5 R.fv c.fcts:=hv.ff.ext (hS.ow hT) (by simp) (λb hb=>.inr (by simp at hb;omega))
 refine Zu (σ:=Nat×Value×Value) (λq=>[(1,pQ b1),(3,pQ b3),(6,q.2.2),(7,q.2.1),(8,.I q.1)])
  (λq W=>q.1<=16/\JL Z7t W r ((J4 c q.1).1.map (λf=>(f,.B true)))/\Stp [r] w4 W/\SlV [r] W q.2.1 (J4 c q.1).2.1/\Row [r] W w4.heap.size 45 q.2.2 (J4 c q.1).2.2) (λq=>16 - q.1) (0,R.fv,.N) ⟨rfl,rfl,rfl,rfl,rfl,trivial⟩
  ⟨by omega,hm,hT,uo,Row.nil⟩ ?_
 clear hm hT um e1' uo;rintro ⟨k,nowv,ov⟩ Y ⟨hk,hm,hT,jL,ab⟩;dsimp only at hk hm hT jL ab ⊢;obtain ⟨q1,q2⟩:=Z8N hs hk;have q3:=(Z5o hs k).1;have hstop:=Z7g c (k:=k);have dO:J4 c (k+1)=(((Z1J c (J4 c k).2.1).foldl (Z0O c) ((J4 c k).1,[])).1,((Z1J c (J4 c k).2.1).foldl (Z0O c) ((J4 c k).1,[])).2,(J4 c k).2.2++((Z1J c (J4 c k).2.1).foldl (Z0O c) ((J4 c k).1,[])).2):=rfl;generalize uq:J4 c k=S at *;obtain ⟨kn,now,out⟩:=S;dsimp only at *;have eD:=λb hb=>ab.ob_le b hb;have zT:=hT.size;have ur:=jL.max;by_cases gA:k<16/\0<now.length;obtain ⟨g1,g2⟩:=gA;have oe:SlV [] Y nowv now:=jL.ext (Stp.refl [] Y) (by simp) (by simp);have f1:=e1.ext hT (by simp;omega);have f3:=e3.ext hT (by simp;omega);refine QO ?_;refine Z0 Z2 rfl ?_;rintro _ wA ⟨b9,rfl,iI,e9,hA⟩;replace e9:Blk wA b9 24 [.N]:=e9;have zA:=hA.size;have l9:=e9.lt;replace f1:=f1.up hA;replace f3:=f3.up hA;replace hm:=hm.up hA;have ut:=hT.trans hA.mn;have xt:Stp [] w wA:=hS.ow ut;have uu:SlV [r,b9] wA nowv now:=jL.ext hA (by simp) (λb hb=>by
  simp only [Xb,Xj,or_false] at hb;rcases hb with rfl|rfl
  exact .inl (by simp);exact .inr iI)
 have xu:Row [r,b9] wA w4.heap.size 45 ov out:=ab.ext hA (by simp) (λb hb=>by
  simp only [Xb,Xj,or_false] at hb;rcases hb with rfl|rfl
  exact .inl (by simp);exact .inr iI)
 clear oe hA;refine QO ?_;have ca:∀ Y',Stp [r,b9] wA Y'->Z2k Y' c R:=λY' h=>hv.own xt (B:=[r,b9]) (by simp;omega) h
 have hK:ZoD ⟨c,R,wA,b1,b3,r,b9,kn⟩:=⟨⟨by dsimp only;omega,by dsimp only;omega⟩,⟨by dsimp only;omega,by dsimp only;omega⟩,by dsimp only;omega,by dsimp only;omega,by dsimp only;omega,by dsimp only;omega,l9,f1,f3,λY' h=>(ca Y' h).rr⟩
 have it:=ZcO (Zem _ hK) c R nowv now [r,b9] wA hs.ok ca (λY' h=>uu.ext h (λb hb=>hb) (by simp)) q3 (λj hj i hi ht=>⟨hi,by
  obtain ⟨o1,o2,o3⟩:=Zbe hs.ok (q3 _ (Xd hj)) ht;have:=(q3 _ (Xd hj)).day;rw [o1];omega,by
  have a1:=Z69 c (now.take j);have a2:=Z68 c now[j] i;have a3:=hs.rl;have a4:=Ybg (show (now.take j).length<=70000000000 by rw [Xx];omega) a3;rw [Xc];omega⟩) ⟨⟨.N,rfl,e9,Row.nil⟩,hm,Stp.refl _ _⟩
 refine CL it ?_;rintro _ W2 ⟨F,⟨⟨nv,rfl,e9,su⟩,hm,pG⟩,-,-⟩;dsimp only at su hm e9 pG;clear it hK ca uu;have yF:=Z9Y c hs.rl now kn;generalize (Z1J c now).foldl (Z0O c) (kn,[])=T at *;have iK:=λb hb=>su.ob_le b hb;have zS:=pG.size;have xw:Row [r] W2 w4.heap.size 45 ov out:=xu.ext pG (λb hb=>⟨hb,λh=>by have:=eD b h;simp at hb;omega⟩) (λb hb=>.inl (by simp at hb;simp [hb]));have sw:Row (ob ov++[r]) W2 wA.heap.size 45 nv T.2:=Z26 su;have eY:SlV (ob ov++[r]) W2 nv T.2:=sw.slv (λb hb=>by
  rcases Xf.1 hb with h|h
  have:=eD b h;omega;simp at h;omega)
 refine QO ?_;refine Z0 (ZF (α:=Fct) (X:=[r]) (base:=w4.heap.size) rfl (by decide) rfl rfl xw eY (Xh (Xo _ (show out.length+T.2.length<=600000000000 by omega)) (by decide)) (by simp only [maxLen];omega) (by omega)) rfl ?_;rintro ov' W3 ⟨dA,cE,eo⟩;replace e9:=e9.ext cE (λh=>by have:=eD _ h;omega);refine QO ?_;refine QL (k+1,nv,ov') ⟨by dsimp only;omega,?_,?_,?_,?_⟩ (by dsimp only;omega);rw [dO];exact hm.ext cE (λh=>by have:=eD _ h;omega);exact (ut.own pG (λb hb=>by
  simp only [Xb,Xj,or_false] at hb;rcases hb with rfl|rfl
  exact .inl (by simp);exact .inr (by omega))).own cE (λb hb=>.inr (eD b hb).1)
 rw [dO];exact eY.ext cE (λb hb=>by simp [hb]) (λb hb=>.inl (by simp at hb;simp [hb]));rw [dO];exact dA
 . have sz:out=(J4 c 16).2.2:=by
    by_cases gC:k=16;rw [gC] at uq;rw [uq];have hn:now=[]:=Xw.1 (by omega);have:=(hstop hn (16 - k)).1;rw [show k+(16 - k)=16 by omega] at this;exact this.symm
   have nH:out.length<=400000000000:=by omega
   clear hstop dO;repeat'(first|refine W1 ?_|omega|refine VG ?_ ?_<;>intro hg|refine VC ?_ ?_<;>intro hc)
   all_goals
    refine CL (Z7f ab nH) ?_;rintro _ W2 ⟨rfl,dg,ar⟩;refine W ?_;refine WR ?_;refine .mk ?_;rw [sz] at dg;exact ⟨Row.low dg (by have:=hS.size;omega),(hS.ow hT).own ar (λb hb=>.inr (by have:=eD b hb;have:=hS.size;omega))⟩
end Go.Proofs.YtipfkbkkndacjaaGreatDoor
namespace Go.Eng
open Go Go.RowKit
variable {P:Program} {n:Nat} {e:Env} {w:World} {d:Option Nat} {ty:TypeId} {pos:String} {af:Array Edge} {g:Option (Nat×Bool)}
theorem ZkR {t tn T bytes k m:Nat} {kn:IntKind} {x y:Operand} {z:Value} [ht:Und P t (.slice T)] [hn:Und P tn (.int kn)] [hk:Siz P T m] [hb:Byt P T bytes] [hz:Zer P T z] (fR:z.cells.size=m) (hm:0<m)
 (hx:ev e x=some (.N)) (hy:ev e y=some (.I (k:Int))) (h0:0<k) (gQ:k<=maxLen) (hbytes:k * bytes<=140737488355328) :
 OE P n ⟨d,.call { callee:=.builtin .append,args:=#[x,y],argTypes:=#[t,tn] },ty,pos,af,g⟩ e w
  (λv w'=>∃ c,v=.slice (some ⟨w.heap.size,0,none⟩) k c/\w'.ownsRow w.heap.size T m (.slice (some ⟨w.heap.size,0,none⟩) 0 c) 0 []/\Stp [] w w'):=by
 obtain ⟨i,hi,bO,cn,fB⟩:∃ i,P.info? T=some i/\i.size=m/\i.bytes=bytes/\i.zero=some z:=by
  have a1:=hk.h;have a2:=hb.h;have a3:=hz.h;cases hi:P.info? T with
  | none=>simp [hi] at a1
  | some i=>exact ⟨i,rfl,by simpa [hi] using a1,by simpa [hi] using a2,by simpa [hi] using a3⟩
 have bj:=Go.Lib.run_append_nil_zeros (P:=P) w t tn ty T i z .i64 kn ht.h hn.h hi fB k h0 (by omega) (by simp [maxLen] at gQ;omega) (by rw [cn];omega);have ke:=grownCap_ge w k 0 T;have bG:(Builtin.zeroCells z.cells k++Builtin.zeroCells z.cells (grownCap w k 0 T - k)).size=grownCap w k 0 T * m:=by
  rw [Array.size_append,size_zeroCells,size_zeroCells,fR,<- Nat.add_mul];congr 1;omega
 refine Jf (v:=.slice (some ⟨w.heap.size,0,none⟩) k (grownCap w k 0 T)) (w':=w.drew.alloc (.cells (Builtin.zeroCells z.cells k++Builtin.zeroCells z.cells (grownCap w k 0 T - k)) T)) (λa ha=>?_) ⟨_,rfl,World.ownsRow_made w.drew _ _ (Xn _) (grownCap_le_maxLen w k 0 T gQ) bG,(Stp.drew [] w).trans (Stp.alloc [] _ _)⟩;simp [execOp,resolve,invoke,builtin,ha.ev hx,ha.ev hy,bj]
end Go.Eng
namespace Go.Proofs.YtipfkbkkndacjaaGreatDoor
open Go Go.Eng Go.RowKit
theorem Zh4 (k:Nat) (w) (hk:k<=1000000000000):CC 71 #[.N,.I (k:Int)] w λr w'=>ZI 45 w w' r ([]:List Fct):=by
 refine cW2 27 Tryz.func71 ?_;refine W ?_;have h0:SlV (α:=Fct) [] w (.N) []:=Zn _ _;have cB:([]:List Fct).length=0:=rfl;repeat'(first|refine W1 ?_|omega|refine VG ?_ ?_<;>intro hg|refine VC ?_ ?_<;>intro hc)
 apply Z8 (ZaG rfl) rfl;by_cases fp:k=0;subst fp;refine QO ?_;refine WR ?_;exact .mk ZI.nil;refine QO ?_;apply Z8 (ZaG rfl) rfl;apply Z8 (Z88 rfl rfl) rfl;refine W ?_;refine Z0 (ZkR (m:=6) (k:=k) rfl (by decide) rfl rfl (by omega) (by simp [maxLen];omega) (by omega)) rfl ?_;rintro _ w1 ⟨c,rfl,cb,hS⟩;replace h0:=h0.up hS;have hr:ZI 45 w w1 (.slice (some ⟨w.heap.size,0,none⟩) 0 c) ([]:List Fct):=⟨⟨[],rfl,λi h=>absurd h (Xs _),cb⟩,hS⟩
 refine W ?_;apply Z8 (Z9A rfl rfl) rfl;refine W ?_;refine WR ?_;exact .mk hr
theorem Zd2 (v:Value) (xss:List (Sl Fct)) (w) (hs:SlV [] w v xss) (hl:xss.length<=1000) (ai:(xss.flatMap Sl.l).length<=1000000000000):CC 41 #[v] w λr w'=>ZI 45 w w' r (xss.flatMap Sl.l):=by
 have cw:∀ j,((xss.take j).flatMap Sl.l).length<=(xss.flatMap Sl.l).length:=λj=>by
  rw [<- XK j xss,Yan,Xc];simp only [XK];have:(xss.take j).flatMap Sl.l=((xss.take j++xss.drop j).take j).flatMap Sl.l:=by rw [XK]
  omega
 have hstep:∀ j (h:j<xss.length),(xss.take (j+1)).flatMap Sl.l=(xss.take j).flatMap Sl.l++xss[j].l:=λj h=>by
  rw [Xk h,Yan];simp
 refine cW1 36 Tryz.func41 ?_;refine W ?_;refine Z0j (σ:=Unit) (λ_=>[(0,v),(3,.I ((xss.flatMap Sl.l).length:Int))]) (λ_ w'=>w'=w) ?_ ?_;refine LP (σ:=Nat) (λj=>[(0,v),(9,v),(10,.I (xss.length:Int)),(3,.I (((xss.take j).flatMap Sl.l).length:Int)),(11,.I (j:Int))]) (λj w'=>j<=xss.length/\w'=w) (λj=>xss.length - j) 0 ⟨Xq _,rfl⟩ ?_;rintro j w2 ⟨hj,rfl⟩;by_cases hlt:j<xss.length;obtain ⟨u,an,fF⟩:=hs.sub hlt;have oJ:=fF.max;have h1:=cw j;have h2:=cw (j+1);have h3:=hstep j hlt;have h4:((xss.take (j+1)).flatMap Sl.l).length=((xss.take j).flatMap Sl.l).length+xss[j].l.length:=by rw [h3,Xc]
 refine QO ?_;apply Z8 (JI rfl rfl an) rfl;refine QO ?_;refine Zx (j+1) ⟨rfl,rfl,rfl,by rw [h4,Ybp];rfl,rfl,trivial⟩ ⟨hlt,rfl⟩ (by omega);have ea:j=xss.length:=by omega
 subst ea;rw [Xp];refine QO ?_;exact QT () rfl;rintro _ w2 rfl;refine W ?_;refine CM (Zd rfl rfl) (Zh4 _ _ (by omega)) ?_;rintro g w3 hr;refine W ?_;have eA:=hs.up hr.2;refine W ?_;refine LP (σ:=Nat×Value) (λq=>[(6,q.2),(25,v),(26,.I (xss.length:Int)),(27,.I (q.1:Int))]) (λq w'=>q.1<=xss.length/\ZI 45 w2 w' q.2 ((xss.take q.1).flatMap Sl.l)) (λq=>xss.length - q.1) (0,g) ⟨Xq _,by simpa using hr⟩ ?_;clear hr eA;rintro ⟨j,g⟩ w4 ⟨hj,hr⟩;dsimp only at hj hr ⊢;by_cases hlt:j<xss.length;have dM:SlV (ob g) w4 v xss:=hs.ext hr.2 (by simp) (λb hb=>.inr (hr.ob_le b hb).1);obtain ⟨u,an,fF⟩:=dM.sub hlt;have h1:=cw j;have h2:=cw (j+1);have h3:=hstep j hlt;have h4:((xss.take (j+1)).flatMap Sl.l).length=((xss.take j).flatMap Sl.l).length+xss[j].l.length:=by rw [h3,Xc]
 refine QO ?_;apply Z8 (JI rfl rfl an) rfl;refine QO ?_;refine Z0 (JD rfl (by decide) rfl rfl hr fF (by omega) (by simp only [maxLen];omega)) rfl ?_;rintro g' w5 ⟨bN,-,-⟩;refine W ?_;exact QL (j+1,g') ⟨hlt,by dsimp only;rw [h3];exact bN⟩ (by dsimp only;omega);have ea:j=xss.length:=by omega
 subst ea;rw [Xp] at hr;refine QO ?_;refine WR ?_;exact .mk hr
def Z1t (c:Cas):List Dln:=(Z1J c (Z7d (c.fcts++Z1g c))).map Prod.fst
structure DlJ (w0:World) (b:Nat) (pre:List DI) (F:List Nat) (W:World):Prop where
 ex:∃ nv,F=b :: ob nv/\Blk W b 47 [nv]/\Row [b] W w0.heap.size 56 nv (pre.map Prod.fst)
 stp:Stp [b] w0 W
 lt:b<w0.heap.size
theorem Zh5 (w0:World) (b:Nat) (lX:b<w0.heap.size):Yld (.func (.func 45) #[] #[pQ b]) 45 #[pQ b] (DlJ w0 b) (λpre d i=>pre.length<=900000000000):=by
 refine ⟨rfl,?_,?_,?_⟩;rintro pre F Y ⟨⟨nv,rfl,e,ab⟩,hS,hb⟩ x hx;have:=hS.size;simp only [Xb] at hx;rcases hx with rfl|hx
 omega;exact (ab.ob_le x hx).2;rintro pre F Y Y' ⟨⟨nv,rfl,e,ab⟩,hS,hb⟩ hT;exact ⟨⟨nv,rfl,e.up hT,ab.up hT⟩,hS.trans hT.mn,hb⟩;rintro pre F d dv i Y ⟨⟨nv,rfl,e,ab⟩,hS,hb⟩ ax cr;have eD:=λx hx=>ab.ob_le x hx;have zS:=hS.size;have bD:=ax.one;refine cW3 9 Tryz.func45 ?_;refine W ?_;refine BX (Stp.refl [] Y) λb3 w1 h3 e3 hT _=>?_;replace e3:Blk w1 b3 56 (dlC d dv):=e3;replace e:=e.up hT;replace ab:=ab.up hT;have zT:=hT.size;have jJ:SlV (ob nv++[b]) w1 dv d.reas:=ax.ext hT (by simp) (λx hx=>by
  rcases Xf.1 hx with h|h
  exact .inl (by simp [h]);exact .inl (by simp at h;simp [h]))
 refine W ?_;refine APG (X:=[b]) (base:=w0.heap.size) (cs:=dlC d dv) d ab (λx hx=>by simp at hx;omega) (by omega) ⟨dv,rfl,jJ⟩ (by rw [Xt];exact Xh (Xo _ (show pre.length+1<=900000000001 by omega)) (by decide)) (by rw [Xt];simp only [maxLen];omega) λv1 nv' w2 dg ar br=>?_
 have eb:b<w1.heap.size:=e.lt;replace e:=e.ext ar (λh=>by have:=eD _ h;omega);refine W ?_;have og:SlV [b] w2 nv' (pre.map Prod.fst++[d]):=dg.slv (λx hx=>by simp at hx;omega);refine Z6 (Zb (u:=nv') rfl rfl og.cells og.one e (by simp)) ?_;rintro _ w3 ⟨cE,e⟩;refine W ?_;refine WR ?_;have iK:=λx hx=>dg.ob_le x hx;have oh:Stp (b :: ob nv) w1 w3:=(ar.mono (λx hx=>by simp [hx])).trans cE.mn;refine .mk ⟨b :: ob nv',⟨⟨nv',rfl,e,?_⟩,?_,hb⟩,hT.mn.trans oh,λx hx=>?_⟩;rw [XP];exact dg.ext cE (λx hx=>⟨hx,λh=>by have:=iK x h;simp at hx;omega⟩) (λx hx=>.inl hx);exact (hS.trans hT.mn).own oh (λx hx=>by
  rcases Xb.1 hx with rfl|hx
  exact .inl (by simp);exact .inr (eD x hx).1)
 rcases Xb.1 hx with rfl|hx
 exact .inl (by simp);rcases br x hx with h|h
 exact .inl (by simp [h]);exact .inr (by omega)
theorem Zet {c:Cas} (h:Z6a c):(Z1g c).length<=92000000000:=by
 unfold Z1g;rw [(Z0Z _).length_eq];exact (Z8N h (Xn _)).2
theorem Z8V {c:Cas} (h:Z6a c):∀ f∈Z1g c,Z0C f:=λf hf=>(Z5o h 16).2 f ((Z0Z _).mem_iff.1 hf)
theorem Zo0 (p q:Option Addr) (l m c d:Nat) (w):(Instr.buildSlice 153 2 #[(0,.slice p l c),(1,.slice q m d)]).run Tryz.prog w=.ok (.slice (some ⟨w.heap.size,0,none⟩) 2 2) (w.alloc (.cells #[.slice p l c,.slice q m d] 24)):=by kernel_rfl
theorem Zd3 {α:Type} [Z5 α] {X:List Nat} {w} {v:Value} {xs:List α} (h:SlV X w v xs):∃ p c,v=.slice p xs.length c:=by
 obtain ⟨p,c,h,_⟩:=h;exact ⟨p,c,h⟩
theorem Z53 (c:Cas) (R:Z0X) (w) (hv:Z2k w c R) (hs:Z6a c) :
 CC 17 #[.agg (Jl c R).toArray] w λv w'=>Row [] w' w.heap.size 56 v (Z1t c)/\Stp [] w w':=by
 have dW:=hs.fl;have bI:=Zet hs;refine cW1 18 Tryz.func17 ?_;refine W ?_;refine BX (Stp.refl [] w) λb1 w1 h1 e1 _ hS=>?_;replace e1:Blk w1 b1 37 (Jl c R):=e1;refine W ?_;refine ZDr 7 [] [] [(0,0),(1,1),(2,1),(3,2),(4,2),(5,2),(6,0)] (λw1 ae=>?_);replace e1:=e1.up ae;replace hS:=hS.trans ae;clear ae;refine D ?_;refine DC (Za8 c R _ (hv.up hS) hs) (λ_ _ h=>h.2) ?_;rintro fv w2 hr;have eU:Z1t c=(Z1J c (Z7d (c.fcts++Z1g c))).map Prod.fst:=rfl;have rE:=Z8V hs;generalize Z1g c=G at *;have ah:=hS.trans hr.2;replace e1:=e1.up hr.2;have eH:=(hv.up ah).ff;have pH:SlV [] w2 fv (G):=hr.slv (by simp);obtain ⟨p1,c1,fL⟩:=Zd3 eH;obtain ⟨p2,c2,ij⟩:=Zd3 pH;rw [fL,ij];rw [fL] at eH;rw [ij] at pH;refine Za rfl trivial (Z1 (vs:=[(0,.slice p1 c.fcts.length c1),(1,.slice p2 (G).length c2)]) rfl (Zo0 _ _ _ _ _ _)) (λ_ _ h=>Z9.stp h) rfl ?_;rintro v3 w3 hN;have kw:SlV [] w3 v3 [(⟨c.fcts⟩:Sl Fct),⟨G⟩]:=hN.slvS (by simp) rfl rfl (λi hi cA=>by
  match i,hi with
  | 0,_=>exact eH
  | 1,_=>exact pH) (by simp [maxLen])
 have hT:=Z9.stp hN;replace e1:=e1.up hT;have z13:=e1.lt;replace ah:=ah.trans hT;have cX:=Zd2 v3 _ w3 kw (by simp) (by simp;omega);rw [show [(⟨c.fcts⟩:Sl Fct),⟨G⟩].flatMap Sl.l=c.fcts++G by simp] at cX;refine DC cX (λ_ _ h=>h.2) ?_;rintro lv w4 hl;refine D ?_;replace e1:=e1.up hl.2;have z1:=e1.lt;replace ah:=ah.trans hl.2;have lZ:=λb hb=>hl.ob_le b hb;have z3:=(hS.trans hr.2).size;have z3':=hT.size;clear eH pH hN hT kw cX hr hS;refine W ?_;refine CM (Zd rfl rfl) (Z7f hl.1 (by rw [Xc];omega)) ?_;rintro _ w5 ⟨rfl,pE,dY⟩;have qI:b1∉ob lv:=λh=>by have:=lZ _ h;omega
 replace e1:=e1.ext dY qI;have aD:Stp [] w w5:=ah.own dY (λb hb=>.inr (by have:=lZ b hb;omega));generalize hL:Z7d (c.fcts++G)=L at *;have yG:L.length<=92000000016:=by rw [<- hL,(Z0Z _).length_eq,Xc];omega
 have xx:∀ f∈L,Z0C f:=λf hf=>by
  rw [<- hL,(Z0Z _).mem_iff] at hf;rcases Xf.1 hf with h|h
  exact hs.fo f h;exact rE f h
 refine W ?_;refine Z0 Z2 rfl ?_;rintro _ w6 ⟨b4,rfl,bE,e4,jI⟩;replace e4:Blk w6 b4 47 [.N]:=e4;have z4:=e4.lt;replace e1:=e1.up jI;have di:=aD.trans jI;have ax:SlV [b4] w6 lv L:=SlV.ext (X:=[]) (pE.slv (by simp)) jI (by simp) (λx hx=>.inr (by simp at hx;omega));have g4:w.heap.size<=b4:=by have:=aD.size;omega
 refine W ?_;have it:=ZcO (Zh5 w6 b4 z4) c R lv L [b4] w6 hs.ok (λY hY=>hv.own di (B:=[b4]) (by simpa using g4) hY) (λY hY=>ax.ext hY (λx hx=>hx) (by simp)) xx (λj hj i hi ht=>by
  have a1:=Z69 c (L.take j);have a2:=Z68 c L[j] i;have a3:=hs.rl;have a4:=Ybg (show (L.take j).length<=220000000000 by rw [Xx];omega) a3;rw [Xc];omega) ⟨⟨.N,rfl,e4,Row.nil⟩,Stp.refl _ _,z4⟩
 refine CL it ?_;rintro _ w7 ⟨F,⟨⟨nv,rfl,e4',ab⟩,aQ,-⟩,-,-⟩;refine W ?_;refine WR ?_;refine .mk ⟨?_,di.ow aQ⟩;rw [eU];exact Row.low ab (by have:=di.size;omega)
open Go Go.Eng Go.RowKit Go.Proofs
theorem Zd4 {q:Cr} (h:Zd0 q=0):Z21 q.cnd=(2,0)/\Z21 q.due=(3,0):=by
 unfold Zd0 at h;split at h;cases h;rename_i hb;unfold Z0y at hb;simp only [Yax,decide_eq_true_eq,not_or,Decidable.not_not] at hb;obtain ⟨⟨⟨⟨⟨⟨⟨⟨⟨a1,a2⟩,a3⟩,a4⟩,-⟩,-⟩,-⟩,-⟩,-⟩,-⟩:=hb;exact ⟨Prod.ext a3 a1,Prod.ext a4 a2⟩
theorem Za7.lt {l:List Fct} (h:Za7 l) {i j:Nat} (hi:i<j) (hj:j<l.length):(l[i]'(by omega)).entry<l[j].entry:=by
 have h1:=h i (by omega);have h2:=h j hj;omega
theorem Za7.nodup {l:List Fct} (h:Za7 l):l.Nodup:=by
 unfold List.Nodup;rw [Yap];intro i j hi hj dC e;have:=h.lt dC hj;rw [e] at this;omega
theorem Z9f.att {c:Cas} (h:Z9f c):Znv c.atts c.crrs:=by
 have it:=h.al;refine ⟨by omega,λa ha=>?_,λa ha=>(h.ao a ha).crr,λa ha=>?_⟩;have hx:=h.ao a ha;have hl:=hx.len;exact ⟨by omega,λr hr=>(hx.rets r hr).crr,λx hx=>(h.co x hx).tol,λr hr=>⟨(hx.rets r hr).lo.1,(hx.rets r hr).lo.2,(hx.rets r hr).hi.1,(hx.rets r hr).hi.2⟩⟩;have:=(h.ao a ha).sent;omega
theorem Z9f.cas {c:Cas} (h:Z9f c):Z6a c:=by
 have dW:=h.fl;have iZ:=h.rl;have ax:=h.sl;have nX:=h.court;have sg:=h.today;have hv:∀ q∈c.ruls,Z21 q.cnd=(2,0)/\Z21 q.due=(3,0):=λq hq=>by
  obtain ⟨r,-,hr,rfl⟩:=h.ro q hq;exact Zd4 (Zd1 r.rul hr).2
 refine ⟨⟨by omega,by omega,λq hq=>(hv q hq).1,λq hq=>(hv q hq).2,h.att,λx hx=>(h.co x hx).ext,⟨by omega,λs hs=>⟨(h.so s hs).lo,(h.so s hs).le,(h.so s hs).hi⟩⟩,by omega,by omega⟩,by omega,iZ,λf hf=>(h.fo f hf).ok,h.en.nodup⟩
def Zh6:Rsn:=⟨0,0,0⟩
def Z7i (c:Cas) (d:Dln):Int×Bool:=
 if d.reas.length<2\/(d.reas.getD 1 Zh6).kind≠2 then (0,false) else
  ((d.reas.getD 1 Zh6).a,decide (0<=(d.reas.getD 1 Zh6).a/\(d.reas.getD 1 Zh6).a<c.ruls.length))
theorem Zd5 (c:Cas) (f:Fct) (r:Nat) (q:Cr) (day due:Int) (sp:List Spn) (hr:r<c.ruls.length):Z7i c (mkD c f r q day due sp)=((r:Int),true):=by
 have e:∀ (l:List Rsn),¬ (([⟨1,f.entry,f.day⟩,⟨2,(r:Int),0⟩]:List Rsn)++l).length<2:=λl=>by simp
 unfold Z7i mkD;dsimp only;simp only [Xy];rw [if_neg (by
  rintro (h|h);exact e _ h;exact h rfl)]
 have h2:∀ (l:List Rsn),(([⟨1,f.entry,f.day⟩,⟨2,(r:Int),0⟩]:List Rsn)++l).getD 1 Zh6=⟨2,(r:Int),0⟩:=λl=>rfl;rw [h2];dsimp only;rw [decide_eq_true (by omega)]
def Z6O (c:Cas) (f:Fct) (r:Int):Option (Int×Int×List Spn):=
 if ¬ (0<=r/\r<=(c.ruls.length:Int) - 1) then none else
 let q:=c.ruls.getD r.toNat crZ
 if q.on≠f.kind\/ZaU c.ruls q.name f.day≠r then none else
 let x:=Je (opn c) (evL c f) q.cnd
 if x.2.2≠0\/x.1=0 then none else
 let y:=Je (opn c) (evL c f) q.due
 if y.2.2≠0 then none else
 let z:=Z27 f.day y.1 c.stys
 if z.2≠0 then none else
 if z.1=y.1 then some (y.1,y.1,x.2.1++y.2.1) else
 let n:=ZQ (opn c) 1 z.1
 if n.2≠0 then none else some (y.1,n.1,x.2.1++y.2.1++[(z.1,n.1)])
theorem ZkS (c:Cas) (f:Fct) (r:Int):Z0F c f r=(Z6O c f r).elim noD (λp=>(mkD c f r (c.ruls.getD r.toNat crZ) p.1 p.2.1 p.2.2,true)):=by
 unfold Z0F Z6O;dsimp only;split;rfl;split;rfl;split;rfl;split;rfl;split;rfl;split;rfl;split<;>rfl
theorem Zd6 {c:Cas} {f:Fct} {r:Int} {p:Int×Int×List Spn} (h:Z6O c f r=some p):0<=r/\r<c.ruls.length:=by
 unfold Z6O at h;split at h;cases h;omega
theorem ZkT {c:Cas} {f:Fct} {r:Int} (h:(Z0F c f r).2=true):0<=r/\r<c.ruls.length/\∃ day due sp,Z6O c f r=some (day,due,sp)/\(Z0F c f r).1=mkD c f r (c.ruls.getD r.toNat crZ) day due sp:=by
 rw [ZkS] at h ⊢;cases hk:Z6O c f r with
 | none=>rw [hk] at h;cases h
 | some p=>exact ⟨(Zd6 hk).1,(Zd6 hk).2,p.1,p.2.1,p.2.2,rfl,rfl⟩
theorem Za9 {c:Cas} {f:Fct} {r:Nat} (h:(Z0F c f (r:Nat)).2=true):r<c.ruls.length/\∃ day due sp,Z6O c f (r:Nat)=some (day,due,sp)/\(Z0F c f (r:Nat)).1=mkD c f r (c.ruls.getD r crZ) day due sp:=by
 obtain ⟨_,h2,day,due,sp,h3,h4⟩:=ZkT h;exact ⟨by omega,day,due,sp,h3,h4⟩
theorem Z6P {c:Cas} {d:Dln} (hd:d∈Z1t c):∃ f∈c.fcts++Z1g c,∃ r,r<c.ruls.length/\(Z0F c f (r:Nat)).2=true/\d=(Z0F c f r).1:=by
 unfold Z1t at hd;obtain ⟨p,hp,rfl⟩:=XG.1 hd;obtain ⟨f,hf,hr,he,ht⟩:=ZcQ hp;rw [(Z0Z _).mem_iff] at hf;exact ⟨f,hf,p.2,hr,ht,he⟩
theorem Zh7 {c:Cas} {d:Dln} (hd:d∈Z1t c):∃ r:Nat,r<c.ruls.length/\Z7i c d=((r:Int),true):=by
 obtain ⟨f,hf,r,hr,h1,rfl⟩:=Z6P hd;obtain ⟨_,day,due,sp,_,hd⟩:=Za9 h1;exact ⟨r,hr,by rw [hd];exact Zd5 c f r _ day due sp hr⟩
theorem ZkU (fs:List Fct) (g f:Fct) (unl:Str) (due:Int):Z5S (fs++[g]) f unl due=Z5S fs f unl due++if Z8u f unl due g=true then [g] else []:=by
 unfold Z5S;rw [YaT];congr 1;rw [YbF];rfl
def ltr (i:Nat) (c:Int):Prop:=(97<=c/\c<=122)\/(48<=c/\c<=57/\i≠0)
instance (i:Nat) (c:Int):Decidable (ltr i c):=by unfold ltr;infer_instance
def Zaa (s:Str):Bool:=decide ((∀ i,i<s.length->ltr i (Jg s i))/\s≠[]/\s.length<=12)
theorem ZkV (s:Str) (w) (hm:(s.length:Int)<=maxLen):CC 356 #[str s] w λr w'=>r=.B (Zaa s)/\Stp [] w w':=by
 simp only [maxLen] at hm;refine cW1 49 Tryz.func356 ?_;refine W ?_;refine LP (σ:=Nat) (λi=>[(0,str s),(7,.I (s.length:Int)),(8,.I (i:Int))]) (λi w'=>i<=s.length/\Stp [] w w'/\∀ j,j<i->ltr j (Jg s j)) (λi=>s.length - i) 0 ⟨Xq _,Stp.refl _ _,λj h=>absurd h (Xs _)⟩ ?_;rintro i w2 ⟨hi,hS,aB⟩
 try dsimp only at hi aB ⊢
 by_cases pO:¬ s.length<=i
 . have aW:¬ ltr i (Jg s i)->Zaa s=false:=λh=>decide_eq_false (λk=>h (k.1 i (by omega)))
   have dH:ltr i (Jg s i)->∀ j,j<i+1->ltr j (Jg s j):=λh j hj=>by
    by_cases e:j=i;subst e;exact h;exact aB j (by omega)
   generalize gI:Jg s i=b at aW dH;have fj:(97<=b/\b<=122)->ltr i b:=.inl;have dV:(48<=b/\b<=57/\i≠0)->ltr i b:=.inr;have iw:¬ (97<=b/\b<=122)->¬ (48<=b/\b<=57/\i≠0)->¬ ltr i b:=λh1 h2 h=>h.elim h1 h2;subst gI;by_cases c1:97<=Jg s i;all_goals by_cases c2:Jg s i<=122
   all_goals by_cases c3:48<=Jg s i
   all_goals by_cases c4:Jg s i<=57
   all_goals by_cases c5:(i:Int)=0
   all_goals try omega
   all_goals
    refine QO ?_;refine ZDr 22 [] [] [(0,0),(1,0),(2,0),(3,0),(4,0),(5,0),(6,0),(7,0),(8,0),(9,0),(10,0),(11,0),(12,0),(13,0),(14,0),(15,0),(16,0),(17,0),(18,0),(19,0),(20,0),(21,0)] (λw1 ae=>?_);have aN:=hS.trans ae;refine QD ?_;refine QO ?_
   all_goals first
    | exact QL (i+1) ⟨by omega,aN,dH (by first|exact fj ⟨c1,c2⟩|exact dV ⟨c3,c4,by omega⟩)⟩ (by omega)
    | (refine RU ?_
       exact ⟨by rw [aW (iw (by omega) (by omega))],aN⟩)
 obtain rfl:i=s.length:=by omega
 by_cases h0:s=[]
 subst h0;refine RT ?_;exact ⟨rfl,hS⟩;by_cases mm:s.length<=12
 . (refine QP ?_ ?_<;>intro hg)
   all_goals try contradiction
   all_goals
    refine RU ?_;exact ⟨by rw [show Zaa s=true from decide_eq_true ⟨aB,h0,mm⟩,decide_eq_true (by omega)],hS⟩
 . (refine QP ?_ ?_<;>intro hg)
   all_goals try contradiction
   all_goals
    refine RU ?_;exact ⟨by rw [show Zaa s=false from decide_eq_false (λh=>mm h.2.2),decide_eq_false (by omega)],hS⟩
theorem Zbi (n m:Int) (w):CC 333 #[.I n,.I m] w λr w'=>r=.B (decide (0<=n/\n<m))/\Stp [] w w':=by
 refine cW2 12 Tryz.func333 ?_
 (refine QP ?_ ?_<;>intro hg)
 refine RU ?_;exact ⟨by congr 1;rw [decide_eq_decide];exact ⟨λh=>⟨by omega,h⟩,λh=>h.2⟩,Stp.refl _ _⟩;refine RU ?_;exact ⟨by congr 1;symm;exact decide_eq_false (λh=>by omega),Stp.refl _ _⟩
def VOk (f:Fct):Prop:=(0<=f.entry/\f.entry<65536)/\Zaa f.kind=true/\(0<=f.day/\f.day<3652059)/\(0<=f.by_/\f.by_<64)/\(0<=f.to_/\f.to_<64)/\-2147483647<=f.amt/\f.amt<=2147483647
instance (f:Fct):Decidable (VOk f):=by unfold VOk;infer_instance
theorem Zh8 (f:Fct) (w) (hm:(f.kind.length:Int)<=maxLen):CC 334 #[aG f] w λr w'=>r=.B (decide (VOk f))/\Stp [] w w':=by
 refine cW1 36 Tryz.func334 ?_;refine W ?_;refine BX (Stp.refl [] w) λb1 w1 h1 e1 _ hS=>?_;replace e1:Blk w1 b1 45 (Z3.enc f):=e1;refine QO ?_;refine CP hS (Zbi f.entry 65536 _) λw3 hT hS=>?_;replace e1:=e1.up hT;clear hT;by_cases h0:(0<=f.entry/\f.entry<65536)
 rotate_left
 rw [decide_eq_false h0];refine RT ?_;exact ⟨by rw [decide_eq_false (λh=>h0 (h.1))],hS⟩;rw [decide_eq_true h0];refine QO ?_;refine CP hS (ZkV f.kind _ hm) λw4 hT hS=>?_;replace e1:=e1.up hT;clear hT;by_cases h1:(Zaa f.kind=true)
 rotate_left
 rw [YaZ.2 h1];refine RT ?_;exact ⟨by rw [decide_eq_false (λh=>h1 (h.2.1))],hS⟩;rw [h1];refine QO ?_;refine CP hS (Zbi f.day 3652059 _) λw5 hT hS=>?_;replace e1:=e1.up hT;clear hT;by_cases h2:(0<=f.day/\f.day<3652059)
 rotate_left
 rw [decide_eq_false h2];refine RT ?_;exact ⟨by rw [decide_eq_false (λh=>h2 (h.2.2.1))],hS⟩;rw [decide_eq_true h2];refine QO ?_;refine CP hS (Zbi f.by_ 64 _) λw6 hT hS=>?_;replace e1:=e1.up hT;clear hT;by_cases h3:(0<=f.by_/\f.by_<64)
 rotate_left
 rw [decide_eq_false h3];refine RT ?_;exact ⟨by rw [decide_eq_false (λh=>h3 (h.2.2.2.1))],hS⟩;rw [decide_eq_true h3];refine QO ?_;refine CP hS (Zbi f.to_ 64 _) λw7 hT hS=>?_;replace e1:=e1.up hT;clear hT;by_cases h4:(0<=f.to_/\f.to_<64)
 rotate_left
 rw [decide_eq_false h4];refine RT ?_;exact ⟨by rw [decide_eq_false (λh=>h4 (h.2.2.2.2.1))],hS⟩;rw [decide_eq_true h4]
 (refine QP ?_ ?_<;>intro hg)
 all_goals
  refine RU ?_;exact ⟨by
   congr 1;symm
   first
    | (rw [decide_eq_decide];exact ⟨λh=>by have:=h.2.2.2.2.2;omega,λh=>⟨h0,h1,h2,h3,h4,by omega,by omega⟩⟩)
    | exact decide_eq_false (λh=>by have:=h.2.2.2.2.2;omega),hS⟩
abbrev mkI (a:Int):Value:=.I a
structure Vr0 where
 f:Fct
instance:Z3 Vr0 where
 k:=8
 enc:=λx=>.I 0 :: .B false :: Z3.enc x.f
 len:=λ_=>rfl
 one:=by
  intro x u hu;rcases Xb.1 hu with rfl|hu
  rfl;rcases Xb.1 hu with rfl|hu
  rfl;exact Z3.one x.f u hu
abbrev Zeu (f:Fct):Int:=if VOk f then 0 else 5
theorem ZkW (r:Nat) (f:Fct) (w) (hm:(f.kind.length:Int)<=maxLen) (hr:JL mkI w r []) :
 CC 296 #[.map (some r),aG (⟨f⟩:Vr0),.I 0] w λv w'=>v=.I (Zeu f)/\Stp [r] w w':=by
 have lr:=hr.lt;refine cW3 50 Tryz.func296 ?_;refine W ?_;refine BX (Stp.refl [] w) λb1 w1 h1 e1 _ hS=>?_;replace e1:Blk w1 b1 262 (Z3.enc (⟨f⟩:Vr0)):=e1;replace hr:=hr.up hS;refine QO ?_;refine Z8 (Zl rfl rfl e1 (us:=Z3.enc f) rfl rfl) rfl ?_;refine W ?_;refine CP hS (Zh8 f _ hm) λw2 hT hS=>?_;replace e1:=e1.up hT;replace hr:=hr.up hT;clear hT;unfold Zeu;by_cases hv:VOk f
 rotate_left
 rw [decide_eq_false hv,if_neg hv];refine RT ?_;exact ⟨rfl,hS.mn⟩;rw [decide_eq_true hv,if_pos hv];refine QO ?_;refine Z6 (Z1M (a:=f.entry) rfl rfl rfl hr (by simp)) ?_;rintro _ w3 ⟨pi,hT⟩;refine RT ?_;exact ⟨rfl,hS.mn.trans hT⟩
theorem Zo1 (v:Value) (f:Fct) (w) (hm:(f.kind.length:Int)<=maxLen) (hs:SlV [] w v [(⟨f⟩:Vr0)]) :
 CC 249 #[v] w λr w'=>∃ p q,r=.tuple #[p,q,.I (Zeu f)]/\Stp [] w w':=by
 refine cW1 29 Tryz.func249 ?_;refine W ?_;refine Z0 (Z0T mkI) rfl ?_;rintro _ w1 ⟨r,rfl,gr,ig,hS⟩;replace hs:=hs.up hS;refine W ?_;have cB:0 < [(⟨f⟩:Vr0)].length:=by simp
 refine Zu (σ:=Nat) (λk=>[(0,v),(5,.map (some r)),(6,.I 0),(11,v),(12,.I 1),(13,.I (k:Int))])
  (λk W=>k<=1/\(k=0->W=w1)/\(k=1->VOk f)/\Stp [] w W) (λk=>1 - k) 0 ⟨rfl,rfl,rfl,rfl,rfl,rfl,trivial⟩ ⟨by decide,λ_=>rfl,by simp,hS⟩ ?_
 rintro k w2 ⟨hk,fp,bH,ah⟩;have ey:k=0\/k=1:=by omega
 rcases ey with rfl|rfl
 obtain rfl:=fp rfl;clear fp bH ah;have lr:=ig.lt;refine QO ?_;refine Z0 Z2 rfl ?_;rintro _ w3 ⟨b8,rfl,eO,e8,hT⟩;refine SA (us:=Z3.enc (⟨f⟩:Vr0)) e8 ?_;rintro _ w4 ⟨hU,e8⟩;replace hT:=hT.ow hU;replace ig:=ig.up hT;have aJ:=hS.trans hT;have l8:=e8.lt;have n8:b8≠r:=by omega
 clear hU;refine QO ?_;refine CL (ZkW r f _ hm ig) ?_;rintro _ w5 ⟨rfl,hU⟩;replace e8:=e8.ext hU (by simpa using n8);have aD:Stp [] w w5:=aJ.ow hU;unfold Zeu;by_cases hv:VOk f;rw [if_pos hv];refine QO ?_;exact QL 1 ⟨Xn _,by simp,λ_=>hv,aD⟩ (by decide);rw [if_neg hv];refine RT ?_;exact ⟨_,_,rfl,aD⟩;have hv:=bH rfl;refine RT ?_;exact ⟨_,_,by rw [show Zeu f=0 from if_pos hv],ah⟩
theorem Zev (v:Value) (f:Fct) (w) (hm:(f.kind.length:Int)<=maxLen) (hs:SlV [] w v [(⟨f⟩:Vr0)]) :
 CC 189 #[v] w λr w'=>r=.I (Zeu f)/\Stp [] w w':=by
 refine cW1 13 Tryz.func189 ?_;refine W ?_;refine CL (Zo1 v f _ hm hs) ?_;rintro _ w1 ⟨p,q,rfl,hS⟩;refine RT ?_;exact ⟨rfl,hS⟩
def Zd7:List Int->List Fct->Int
 | _,[]=>0
 | kn,f :: l=>if ¬ VOk f then 5 else if f.entry∈kn then 4 else Zd7 (kn++[f.entry]) l
theorem Zh9 (kn:List Int) (f:Fct) (l:List Fct):Zd7 kn (f :: l)=if ¬ VOk f then 5 else if f.entry∈kn then 4 else Zd7 (kn++[f.entry]) l:=rfl
theorem ZkX {κ:Type} [DecidableEq κ] (l:List Fct) (g:Fct->κ) (a:κ):Z3E (l.map (λx=>(g x,Value.bool true))) a (.B false)=.B (decide (a∈l.map g)):=by
 have:=Zfo (l.map g) a;rw [YbH] at this;exact this
theorem Zo2 (f:Fct) (w):(Instr.build 262 #[(2,aG f)]).run Tryz.prog w=.ok (aG (⟨f⟩:Vr0)) w:=by kernel_rfl
theorem Zo3 (f:Fct) (w):(Instr.buildSlice 263 1 #[(0,aG (⟨f⟩:Vr0))]).run Tryz.prog w=.ok (.slice (some ⟨w.heap.size,0,none⟩) 1 1) (w.alloc (.cells (Z3.enc (⟨f⟩:Vr0)).toArray 262)):=by kernel_rfl
theorem Z8W (v:Value) (l:List Fct) (w) (hm:∀ f∈l,(f.kind.length:Int)<=maxLen) (hs:SlV [] w v l) :
 CC 109 #[v] w λr w'=>r=.I (Zd7 [] l)/\Stp [] w w':=by
 have kl:=hs.max;refine cW1 26 Tryz.func109 ?_;refine W ?_;refine Z0 (Z0T mkI) rfl ?_;rintro _ w1 ⟨r,rfl,gr,ig,hS⟩;have cm:=hs.ext (X':=[r]) hS (by simp) (λb hb=>.inr (by simp at hb;omega));have lr:=ig.lt;refine QO ?_
 refine Zu (σ:=Nat) (λk=>[(3,.map (some r)),(7,v),(8,.I (l.length:Int)),(9,.I (k:Int))])
  (λk W=>k<=l.length/\JL mkI W r ((l.take k).map (λf=>(f.entry,.B true)))/\Zd7 [] l=Zd7 ((l.take k).map Fct.entry) (l.drop k)/\Stp [r] w1 W) (λk=>l.length - k) 0 ⟨rfl,rfl,rfl,rfl,trivial⟩ ⟨Xq _,by simpa using ig,by simp,Stp.refl _ _⟩ ?_
 clear ig;rintro k w2 ⟨hk,eW,cg,hT⟩;have bq:=cm.ext (X':=[r]) hT (by simp) (λb hb=>.inl hb);have yH:=hT.size;by_cases hlt:k<l.length
 . have hd:l.drop k=l[k] :: l.drop (k+1):=X6 hlt
   have fI:l.take (k+1)=l.take k++[l[k]]:=Xk hlt;have ay:=hm _ (Xd hlt);rw [hd,Zh9] at cg;refine QO ?_;refine Z0 Z2 rfl ?_;rintro _ w3 ⟨b5,rfl,jt,e5,hU⟩;refine SA (us:=Z3.enc l[k]) e5 ?_;rintro _ w4 ⟨ip,e5⟩;replace hU:=hU.ow ip;replace eW:=eW.up hU;have fM:=hT.trans hU.mn;have l5:=e5.lt;clear ip hU;refine QO ?_;refine Z7 rfl (Zo2 l[k]) rfl ?_;refine Z0 (Z1 rfl (Zo3 l[k])) rfl ?_;rintro vs w5 hN;have dE:SlV [] w5 vs [(⟨l[k]⟩:Vr0)]:=hN.slv (by simp) rfl (by simp) (by simp [maxLen]);have hU:=Z9.stp hN;clear hN;replace eW:=eW.up hU;replace e5:=e5.up hU;replace fM:=fM.trans hU.mn;clear hU;refine CP (Stp.refl [] w5) (Zev vs l[k] _ ay dE) λw6 hU _=>?_;replace eW:=eW.up hU;replace e5:=e5.up hU;replace fM:=fM.trans hU.mn;clear hU;unfold Zeu;have dy:∀ W,Stp [r] w1 W->Stp [] w W:=λW h=>hS.ow h;by_cases hv:VOk l[k]
   rotate_left
   rw [if_neg hv];rw [if_pos hv] at cg;refine RT ?_;exact ⟨by rw [cg],dy _ fM⟩;rw [if_pos hv];rw [if_neg (by simpa using hv)] at cg;refine QO ?_;refine Z8 (Z1N (a:=l[k].entry) rfl rfl eW) rfl ?_;rw [ZkX];by_cases bM:l[k].entry∈(l.take k).map Fct.entry;rw [if_pos bM] at cg;rw [decide_eq_true bM];refine RT ?_;exact ⟨by rw [cg],dy _ fM⟩;rw [if_neg bM] at cg;rw [decide_eq_false bM];refine QO ?_;refine Z6 (Z1M (a:=l[k].entry) rfl rfl rfl eW (λp hp=>by
    obtain ⟨x,hx,rfl⟩:=XG.1 hp;exact λh=>bM (XG.2 ⟨x,hx,h⟩))) ?_
   rintro _ w7 ⟨pT,hU⟩;refine QO ?_;exact QL (k+1) ⟨hlt,by rw [fI,XP];exact pT,by rw [cg,fI,XP];rfl,fM.trans hU⟩ (by omega)
 obtain rfl:k=l.length:=by omega
 rw [Ya0] at cg;refine RT ?_;exact ⟨by rw [cg];rfl,hS.ow hT⟩
def Z7u (n:Nat) (r:Rtn):Prop:=(0<=r.crr/\r.crr<n)/\((r.kind=1/\(0<=r.lo/\r.lo<=3652058)/\(0<=r.hi/\r.hi<=3652058)/\r.lo<=r.hi)\/(r.kind=2/\r.lo=0/\(0<=r.hi/\r.hi<=3652058))\/(r.kind=3/\r.lo=0/\r.hi=0))
instance (n:Nat) (r:Rtn):Decidable (Z7u n r):=by unfold Z7u;infer_instance
def Ztu (n:Nat) (l:List Rtn):Int:=if 32<l.length then 2 else if ∀ r∈l,Z7u n r then 0 else 5
theorem Z1u (d:Int) (w):CC 301 #[.I d] w λr w'=>r=.B (decide (0<=d/\d<=3652058))/\Stp [] w w':=by
 refine cW1 9 Tryz.func301 ?_
 (refine QP ?_ ?_<;>intro hg)
 refine RU ?_;exact ⟨by congr 1;rw [decide_eq_decide];exact ⟨λh=>⟨by omega,h⟩,λh=>h.2⟩,Stp.refl _ _⟩;refine RU ?_;exact ⟨by congr 1;symm;exact decide_eq_false (λh=>by omega),Stp.refl _ _⟩
theorem Zbj (v cv:Value) (l:List Rtn) (cs:List Crr) (w) (hs:SlV [] w v l) (ca:SlV [] w cv cs) :
 CC 251 #[v,cv] w λr w'=>r=.I (Ztu cs.length l)/\Stp [] w w':=by
 have kl:=hs.max;have bU:=ca.max;unfold Ztu;refine cW2 78 Tryz.func251 ?_;by_cases mZ:32<l.length;rw [if_pos mZ];refine RT ?_;exact ⟨rfl,Stp.refl _ _⟩;rw [if_neg mZ];refine QO ?_
 refine Zu (σ:=Nat) (λk=>[(0,v),(1,cv),(11,v),(12,.I (l.length:Int)),(13,.I (k:Int))])
  (λk W=>k<=l.length/\(∀ i (h:i<l.length),i<k->Z7u cs.length l[i])/\Stp [] w W) (λk=>l.length - k) 0 ⟨rfl,rfl,rfl,rfl,rfl,trivial⟩ ⟨Xq _,λi _ h=>absurd h (Xs _),Stp.refl _ _⟩ ?_
 rintro k w2 ⟨hk,aB,hS⟩;have bq:=hs.up hS;have cq:=ca.up hS;by_cases hlt:k<l.length;refine QO ?_;refine Z0 Z2 rfl ?_;rintro _ w3 ⟨b6,rfl,eh,e6,hU⟩;refine SA (us:=Z3.enc l[k]) e6 ?_;rintro _ w4 ⟨ip,e6⟩;replace hU:=hU.ow ip;replace cq:=cq.up hU;replace hS:=hS.trans hU;clear hU ip bq;have dH:Z7u cs.length l[k]->∀ i (h:i<l.length),i<k+1->Z7u cs.length l[i]:=λhv i h yI=>by
  by_cases e:i=k;subst e;exact hv;exact aB i h (by omega)
 have aW:¬ Z7u cs.length l[k]->(if ∀ r∈l,Z7u cs.length r then (0:Int) else 5)=5:=λh=>if_neg (λg=>h (g _ (Xd hlt)));generalize l[k]=y at *;clear aB;by_cases hv:Z7u cs.length y;replace dH:=dH hv;clear aW;unfold Z7u at hv;obtain ⟨⟨g1,g2⟩,⟨k1,g3,g4,g5⟩|⟨k1,g3,g4⟩|⟨k1,g3,g4⟩⟩:=hv;refine QO ?_;refine CP hS (Z1u _ _) λw5 hT hS=>?_;replace e6:=e6.up hT;rw [decide_eq_true g3];refine QO ?_;refine CP hS (Z1u _ _) λw6 hT hS=>?_;replace e6:=e6.up hT;rw [decide_eq_true g4];refine QO ?_;exact QL (k+1) ⟨hlt,dH,hS⟩ (XA hlt (XE k));refine QO ?_;refine CP hS (Z1u _ _) λw5 hT hS=>?_;replace e6:=e6.up hT;rw [decide_eq_true g4];refine QO ?_;exact QL (k+1) ⟨hlt,dH,hS⟩ (XA hlt (XE k));refine QO ?_;exact QL (k+1) ⟨hlt,dH,hS⟩ (XA hlt (XE k))
 . replace aW:=aW hv
   clear dH;rw [aW];unfold Z7u at hv;repeat'(first|refine W1 ?_|omega|refine VG ?_ ?_<;>intro hg|refine VC ?_ ?_<;>intro hc)
   all_goals try
    refine CP hS (Z1u _ _) λw5 hT hS=>?_;replace e6:=e6.up hT;repeat'(first|refine W1 ?_|omega|refine VG ?_ ?_<;>intro hg|refine VC ?_ ?_<;>intro hc)
   all_goals try
    refine CP hS (Z1u _ _) λw6 hT hS=>?_;replace e6:=e6.up hT;repeat'(first|refine W1 ?_|omega|refine VG ?_ ?_<;>intro hg|refine VC ?_ ?_<;>intro hc)
   all_goals
    refine RU ?_;exact ⟨rfl,hS⟩
 obtain rfl:k=l.length:=by omega
 have hf:(if ∀ r∈l,Z7u cs.length r then (0:Int) else 5)=0:=if_pos (λr hr=>by
  obtain ⟨i,hi,rfl⟩:=Xr hr;exact aB i hi hi)
 rw [hf];refine RT ?_;exact ⟨rfl,hS⟩
def Zha (n:Nat) (a:Atp):Prop:=(0<=a.entry/\a.entry<65536)/\(0<=a.party/\a.party<64)/\(0<=a.crr/\a.crr<n)/\(0<=a.sent/\a.sent<=3652058)
instance (n:Nat) (a:Atp):Decidable (Zha n a):=by unfold Zha;infer_instance
def Zd8 (n:Nat) (a:Atp):Int:=if Zha n a then Ztu n a.rets else 5
def Zew (n:Nat):List Atp->Int
 | []=>0
 | a :: l=>if Zd8 n a≠0 then Zd8 n a else Zew n l
theorem Zbk (rv cv:Value) (a:Atp) (cs:List Crr) (w) (hs:SlV [] w rv a.rets) (ca:SlV [] w cv cs) :
 CC 192 #[.agg (atC a rv).toArray,cv] w λr w'=>r=.I (Zd8 cs.length a)/\Stp [] w w':=by
 have bU:=ca.max;unfold Zd8;refine cW2 36 Tryz.func192 ?_;refine W ?_;refine BX (Stp.refl [] w) λb1 w1 h1 e1 _ hS=>?_;replace e1:Blk w1 b1 78 (atC a rv):=e1;have cq:=ca.up hS;have bq:=hs.up hS;by_cases hv:Zha cs.length a;rw [if_pos hv];unfold Zha at hv;obtain ⟨g1,g2,g3,g4⟩:=hv;refine QO ?_;refine CP hS (Zbj rv cv a.rets cs _ bq cq) λw5 hT hS=>?_;refine RT ?_;exact ⟨rfl,hS⟩
 . rw [if_neg hv]
   unfold Zha at hv;repeat'(first|refine W1 ?_|omega|refine VG ?_ ?_<;>intro hg|refine VC ?_ ?_<;>intro hc)
   all_goals
    refine RU ?_;exact ⟨rfl,hS⟩
theorem Zbl (v cv:Value) (l:List Atp) (cs:List Crr) (w) (hl:l.length<=65536) (hs:SlV [] w v l) (ca:SlV [] w cv cs) :
 CC 112 #[v,cv] w λr w'=>r=.I (Zew cs.length l)/\Stp [] w w':=by
 have kl:=hs.max;refine cW2 24 Tryz.func112 ?_;refine QO ?_
 refine Zu (σ:=Nat) (λk=>[(0,v),(1,cv),(11,v),(12,.I (l.length:Int)),(13,.I (k:Int))])
  (λk W=>k<=l.length/\Zew cs.length l=Zew cs.length (l.drop k)/\Stp [] w W) (λk=>l.length - k) 0 ⟨rfl,rfl,rfl,rfl,rfl,trivial⟩ ⟨Xq _,rfl,Stp.refl _ _⟩ ?_
 rintro k w2 ⟨hk,cg,hS⟩;have bq:=hs.up hS;have cq:=ca.up hS;by_cases hlt:k<l.length;have hd:l.drop k=l[k] :: l.drop (k+1):=X6 hlt;rw [hd] at cg;have re:Zew cs.length (l[k] :: l.drop (k+1))=if Zd8 cs.length l[k]≠0 then Zd8 cs.length l[k] else Zew cs.length (l.drop (k+1)):=rfl
 rw [re] at cg;obtain ⟨cs0,⟨rv,rfl,bD⟩,an⟩:=bq.cell hlt;refine QO ?_;refine Z8 (Z25 rfl rfl bq hlt ⟨rv,rfl,bD⟩ an) rfl ?_;refine Z0 Z2 rfl ?_;rintro _ w3 ⟨b6,rfl,eh,e6,hU⟩;refine SB (us:=atC l[k] rv) (Zfu bD.one) e6 ?_;rintro _ w4 ⟨ip,e6⟩;replace hU:=hU.ow ip;replace cq:=cq.up hU;replace bD:=bD.up hU;replace hS:=hS.trans hU;clear hU ip an bq;refine QO ?_;refine CP hS (Zbk rv cv l[k] cs _ bD cq) λw5 hT hS=>?_;by_cases he:Zd8 cs.length l[k]=0;rw [he] at cg ⊢;refine QO ?_;exact QL (k+1) ⟨hlt,cg,hS⟩ (XA hlt (XE k));rw [if_pos he] at cg;generalize Zd8 cs.length l[k]=z at *;refine RT ?_;exact ⟨by rw [cg],hS⟩;obtain rfl:k=l.length:=by omega
 rw [Ya0] at cg;refine RT ?_;exact ⟨by rw [cg];rfl,hS⟩
theorem Zo4 (v:Value) (l:List Int) (w) (hs:SlV [] w v l):CC 111 #[v] w λr w'=>r=.I (orL l)/\Stp [] w w':=by
 have aS:=hs.max;refine cW1 18 Tryz.func111 ?_;refine W ?_;refine LP (σ:=Nat) (λk=>[(3,.I 0),(6,v),(7,.I l.length),(8,.I k)]) (λk w'=>k<=l.length/\Stp [] w w'/\∀ j (h:j<l.length),j<k->l[j]=0) (λk=>l.length - k) 0 ⟨Xq _,Stp.refl _ _,λj _ h=>absurd h (Xs _)⟩ ?_;have aX:=hs;clear hs;rintro k w1 ⟨hk,hS,hz⟩;have hs:=aX.up hS;by_cases hlt:k<l.length;by_cases h0:l[k]=0;refine QO ?_;exact QL (k+1) ⟨by omega,hS,λj h hj=>by
  by_cases e:j=k;subst e;exact h0;exact hz j h (by omega)⟩ (by omega)
 refine RT ?_;exact ⟨by rw [Ze4 hlt hz h0],hS⟩;refine RT ?_;exact ⟨by rw [Z8t (λj h=>hz j h (by omega))],hS⟩
theorem Z9h (w):CC 194 #[.N] w λr w'=>r=.I 0/\Stp [] w w':=by
 refine cW1 55 Tryz.func194 ?_;refine QO ?_;refine CL (Z9S _) ?_;rintro _ w1 ⟨rfl,hS⟩;repeat'(first|refine W1 ?_|omega|refine VG ?_ ?_<;>intro hg|refine VC ?_ ?_<;>intro hc)
 refine Z0 Z2 rfl ?_;rintro _ w2 ⟨b,rfl,hb,e6,hT⟩;refine SB (us:=Z5n) (by intro u hu;simp [Z5n] at hu;rcases hu with rfl|rfl|rfl|rfl|rfl|rfl|rfl|rfl<;>rfl) e6 ?_;rintro _ w3 ⟨hU,e6⟩;replace hS:=(hS.trans hT).own hU (λc hc=>.inr (by have:=hS.size;simp at hc;omega));refine QO ?_;refine LP (σ:=Nat) (λk=>[(11,.I 0),(12,.I (k:Int))]) (λk w'=>k=0/\w'=w3) (λk=>k) 0 ⟨rfl,rfl⟩ ?_;rintro k w4 ⟨rfl,rfl⟩;refine RT ?_;exact ⟨rfl,hS⟩
theorem Z9i (w):CC 195 #[.agg #[.I 0,.N]] w λr w'=>r=.I 0/\Stp [] w w':=by
 have gG:∀ W:World,CC 254 #[.I 0] W λr w'=>r=.B true/\Stp [] W w':=λW=>by
  refine cW1 9 Tryz.func254 ?_;refine RT ?_;exact ⟨rfl,Stp.refl _ _⟩
 refine cW1 51 Tryz.func195 ?_;refine W ?_;refine BX (Stp.refl [] w) λb1 w1 h1 e1 _ hS=>?_;replace e1:Blk w1 b1 33 [.I 0,.N]:=e1;refine QO ?_;refine CP hS (gG _) λw2 hT hS=>?_;replace e1:=e1.up hT;refine QO ?_;refine LP (σ:=Nat) (λk=>[(17,.I 0),(18,.I (k:Int))]) (λk w'=>k=0/\w'=w2) (λk=>k) 0 ⟨rfl,rfl⟩ ?_;rintro k w4 ⟨rfl,rfl⟩;refine RT ?_;exact ⟨rfl,hS⟩
theorem ZkY (v:Value) (l:List Bool) (x:Bool) (w) (hs:SlV [] w v l):CC 252 #[v,.B x] w λr w'=>(∃ z:Int,r=.I z/\(0<=z↔x∈l))/\Stp [] w w':=by
 have aS:=hs.max;refine cW2 19 Tryz.func252 ?_;refine W ?_;refine LP (σ:=Nat) (λk=>[(0,v),(1,.B x),(6,v),(7,.I l.length),(8,.I k)]) (λk w'=>k<=l.length/\Stp [] w w'/\∀ j (h:j<l.length),j<k->l[j]≠x) (λk=>l.length - k) 0 ⟨Xq _,Stp.refl _ _,λj _ h=>absurd h (Xs _)⟩ ?_;rintro k w2 ⟨hk,hT,hz⟩;have bq:=hs.up hT;by_cases hlt:k<l.length
 (refine QP ?_ ?_<;>intro hc)
 refine RU ?_;exact ⟨⟨_,rfl,⟨λ_=>hc ▸ Xd hlt,λ_=>Int.natCast_nonneg _⟩⟩,hT⟩;exact QL (k+1) ⟨hlt,hT,λj h hj=>by
  by_cases e:j=k;subst e;exact λh=>hc h.symm;exact hz j h (by omega)⟩ (by omega)
 have aW:¬ x∈l:=λh=>by
  obtain ⟨j,hj,e⟩:=Xr h;exact hz j hj (by omega) e
 refine RT ?_;exact ⟨⟨_,rfl,⟨λh=>absurd h (by decide),λh=>absurd h aW⟩⟩,hT⟩
theorem ZkZ (v:Value) (l:List Bool) (x:Bool) (w) (hs:SlV [] w v l):CC 193 #[v,.B x] w λr w'=>r=.B (decide (x∈l))/\Stp [] w w':=by
 refine cW2 9 Tryz.func193 ?_;refine W ?_;refine CG (ZkY v l x _ hs) ?_;rintro _ w2 ⟨⟨z,rfl,hz⟩,hT⟩;refine RT ?_;exact ⟨congrArg Value.bool (decide_eq_decide.2 hz),hT⟩
def ZoF:List Value:=[.B false,.B false,.B false,.B false,.B false,.B false,.B false,.N,.N,.I 0,.N,.I 0]
theorem Z9j (w):CC 114 #[.agg ZoF.toArray] w λr w'=>r=.I 0/\Stp [] w w':=by
 refine cW1 66 Tryz.func114 ?_;refine W ?_;refine BX (Stp.refl [] w) λb1 w1 h1 e1 _ hS=>?_;replace e1:Blk w1 b1 35 ZoF:=e1;have pj:SlV [] w1 (.slice (some ⟨b1,0,none⟩) 7 7) [false,false,false,false,false,false,false]:=by
  refine ⟨some ⟨b1,0,none⟩,7,rfl,Xn _,by simp [maxLen],λh=>by simp at h,λi hi=>⟨b1,0,[.B false],rfl,e1.lt,by simp,?_,λj u hu=>?_⟩⟩;have:i=0\/i=1\/i=2\/i=3\/i=4\/i=5\/i=6:=by simp at hi;omega
  rcases this with rfl|rfl|rfl|rfl|rfl|rfl|rfl<;>rfl
  have hj:j=0:=by
   have:=(Xu.1 hu).1;simp at this;exact this
  subst hj;refine e1.cell ?_;have:i=0\/i=1\/i=2\/i=3\/i=4\/i=5\/i=6:=by simp at hi;omega
  rcases this with rfl|rfl|rfl|rfl|rfl|rfl|rfl<;>exact hu
 refine W ?_;refine Z8 (Z6i (b:=b1) rfl) rfl ?_;refine W ?_;refine CP hS (ZkZ _ _ false _ pj) λw2 hT hS=>?_;replace e1:=e1.up hT;clear pj hT;rw [decide_eq_true (by simp)];refine QO ?_;refine CP hS (Z9h _) λw3 hT hS=>?_;replace e1:=e1.up hT;refine QO ?_;refine LP (σ:=Nat) (λk=>[(1,pQ b1),(23,.I 0),(24,.I (k:Int))]) (λk w'=>k=0/\w'=w3) (λk=>k) 0 ⟨rfl,rfl⟩ ?_;rintro k w4 ⟨rfl,rfl⟩;refine QO ?_;refine Z8 (Zl rfl rfl e1 (us:=[.I 0,.N]) rfl rfl) rfl ?_;refine W ?_;refine CP hS (Z9i _) λw5 hT hS=>?_;replace e1:=e1.up hT;refine RT ?_;exact ⟨rfl,hS⟩
structure Zd9 (c:Cas):Prop where
 ops:∀ q∈c.ruls,∀ x∈q.cnd++q.due,opP x.op
 fil:Zd7 [] c.fcts=0
 fm:∀ f∈c.fcts,(f.kind.length:Int)<=maxLen
 cl:c.crrs.length<=16
 co:∀ x∈c.crrs,Za1 x
 rl:c.ruls.length<=1024
 ro:∀ q∈c.ruls,Zd0 q=0
 al:c.atts.length<=65536
 ao:Zew c.crrs.length c.atts=0
 so:Zgv c.stys=0
 court:0<=c.court/\c.court<=15
 today:0<=c.today/\c.today<=3652058
theorem Zo5 (a b d:Int) (w):(Instr.buildSlice 265 3 #[(0,.I a),(1,.I b),(2,.I d)]).run Tryz.prog w=.ok (.slice (some ⟨w.heap.size,0,none⟩) 3 3) (w.alloc (.cells #[.I a,.I b,.I d] 92)):=by kernel_rfl
theorem Zbm (c:Cas) (R:Z0X) (w) (m:Int) (hF:SlV [] w Z2e Ze) (eC:w.cell? ⟨2,0,none⟩=some (.I m)) (hv:Z2k w c R) (ho:Zd9 c)
 (dB:∀ Y,Stp [] w Y->CC 114 #[.agg (Z06 c.cal R.hv R.lv R.zo R.zs R.hr).toArray] Y λr w'=>r=.I 0/\Stp [] Y w') :
 CC 70 #[.agg (Jl c R).toArray] w λr w'=>r=.I 0/\Stp [] w w':=by
 have bZ:=ho.cl;have iZ:=ho.rl;have nX:=ho.court;have sg:=ho.today;have xy:=hv.cc.max;have xz:=hv.rr.max;refine cW1 78 Tryz.func70 ?_;refine W ?_;refine BX (Stp.refl [] w) λb1 w1 h1 e1 _ hS=>?_;replace e1:Blk w1 b1 37 (Jl c R):=e1;refine QO ?_;refine CP hS (Z8W R.fv c.fcts _ ho.fm (hv.ff.up hS)) λw2 hT hS=>?_;replace e1:=e1.up hT;rw [ho.fil];have fw:=(hv.up hS).cc;refine QO ?_;refine LP (σ:=Nat) (λk=>[(1,pQ b1),(20,R.cv),(21,.I (c.crrs.length:Int)),(22,.I (k:Int))]) (λk w'=>k<=c.crrs.length/\Stp [] w2 w') (λk=>c.crrs.length - k) 0 ⟨Xq _,Stp.refl _ _⟩ ?_;rintro k y1 ⟨hk,d7⟩;have e1':=e1.up d7;have ae:=hS.trans d7;have sA:=fw.up d7;by_cases hlt:k<c.crrs.length;have lG:=ho.co _ (Xd hlt);have x1:=lG.ext;have x2:=lG.tol;refine QO ?_;refine Z0 Z2 rfl ?_;rintro _ w3 ⟨b6,rfl,eh,e6,hU⟩;refine SA (us:=Z3.enc c.crrs[k]) e6 ?_;rintro _ w4 ⟨ip,e6⟩;replace hU:=hU.ow ip;replace d7:=d7.trans hU;generalize c.crrs[k]=x at *;refine QO ?_;refine CP d7 (Z1s _ _ _ _) λw5 hT d7=>?_;replace e6:=e6.up hT;rw [decide_eq_true x1];refine QO ?_;refine CP d7 (Z1s _ _ _ _) λw6 hT d7=>?_;rw [decide_eq_true x2];refine QO ?_;exact QL (k+1) ⟨hlt,d7⟩ (XA hlt (XE k));replace e1:=e1';replace hS:=ae;clear e1' ae sA fw d7 hT;have oP:=(hv.up hS).rr;refine QO ?_;refine LP (σ:=Nat) (λk=>[(1,pQ b1),(42,R.rv),(43,.I (c.ruls.length:Int)),(44,.I (k:Int))]) (λk w'=>k<=c.ruls.length/\Stp [] y1 w') (λk=>c.ruls.length - k) 0 ⟨Xq _,Stp.refl _ _⟩ ?_;rintro k y2 ⟨hk,d7⟩;have e1':=e1.up d7;have ae:=hS.trans d7;have lI:=oP.up d7;by_cases hlt:k<c.ruls.length;have lG:=ho.ro _ (Xd hlt);obtain ⟨cs0,⟨kc,kd,rfl,sB,ej⟩,an⟩:=lI.cell hlt;refine QO ?_;refine Z8 (Z25 rfl rfl lI hlt ⟨kc,kd,rfl,sB,ej⟩ an) rfl ?_;refine Z0 Z2 rfl ?_;rintro _ w3 ⟨b6,rfl,eh,e6,hU⟩;refine SB (us:=crC c.ruls[k] kc kd) (Z0k sB ej) e6 ?_;rintro _ w4 ⟨ip,e6⟩;replace hU:=hU.ow ip;replace d7:=d7.trans hU;have dy:=hS.trans d7;refine QO ?_;refine CP d7 (Zes _ c.ruls[k] _ m (hF.up dy) (dy.cell (by simp) eC) ⟨kc,kd,rfl,sB.up hU,ej.up hU⟩ (ho.ops _ (Xd (by assumption)))) λw5 hT d7=>?_
 rw [lG];refine QO ?_;exact QL (k+1) ⟨hlt,d7⟩ (XA hlt (XE k));replace e1:=e1';replace hS:=ae;clear e1' ae lI oP d7;have jM:=hv.up hS;refine QO ?_;refine ZDr 14 [] [] [(0,0),(1,1),(2,0),(3,1),(5,0),(6,1),(8,0),(9,1),(4,2),(7,2),(10,2),(11,2),(12,2),(13,0)] (λw1 ae=>?_);replace e1:=e1.up ae;replace hS:=hS.trans ae;replace jM:=jM.up ae;refine QD ?_;refine WD_read rfl trivial (λw' aN=>Zl rfl rfl (e1.up aN) (us:=Z06 c.cal R.hv R.lv R.zo R.zs R.hr) rfl rfl) rfl ?_;repeat'(first|refine D1 ?_|omega|refine Zk rfl rfl rfl rfl (λhg=>?_) (λhg=>?_)|(refine Zh rfl rfl rfl rfl (λhg=>?_) (λhg=>?_)<;>refine D1 ?_)|fail)
 refine DP hS (Zbl R.av R.cv c.atts c.crrs _ ho.al jM.aa jM.cc) λw5 hT hS=>?_;replace e1:=e1.up hT;replace jM:=jM.up hT;rw [ho.ao];repeat'(first|refine D1 ?_|omega|refine Zk rfl rfl rfl rfl (λhg=>?_) (λhg=>?_)|(refine Zh rfl rfl rfl rfl (λhg=>?_) (λhg=>?_)<;>refine D1 ?_)|fail)
 refine DP hS (ZaX R.sv c.stys _ jM.ss) λw6 hT hS=>?_;replace e1:=e1.up hT;replace jM:=jM.up hT;rw [ho.so];repeat'(first|refine D1 ?_|omega|refine Zk rfl rfl rfl rfl (λhg=>?_) (λhg=>?_)|(refine Zh rfl rfl rfl rfl (λhg=>?_) (λhg=>?_)<;>refine D1 ?_)|fail)
 refine DP hS (dB _ hS) λw7 hT hS=>?_;replace e1:=e1.up hT;repeat'(first|refine D1 ?_|omega|refine Zk rfl rfl rfl rfl (λhg=>?_) (λhg=>?_)|(refine Zh rfl rfl rfl rfl (λhg=>?_) (λhg=>?_)<;>refine D1 ?_)|fail)
 refine Za rfl trivial (Z1 rfl (Zo5 0 0 0)) (λ_ _ h=>Z9.stp h) rfl ?_;rintro vs w8 hN;have dE:SlV [] w8 vs ([0,0,0]:List Int):=hN.slv (by simp) rfl rfl (by simp [maxLen]);have hU:=Z9.stp hN;clear hN;replace e1:=e1.up hU;replace hS:=hS.trans hU;repeat'(first|refine D1 ?_|omega|refine Zk rfl rfl rfl rfl (λhg=>?_) (λhg=>?_)|(refine Zh rfl rfl rfl rfl (λhg=>?_) (λhg=>?_)<;>refine D1 ?_)|fail)
 refine DP hS (Zo4 vs [0,0,0] _ dE) λw9 hT hS=>?_;replace e1:=e1.up hT;rw [show orL [0,0,0]=0 from rfl];refine QD ?_;refine QO ?_;refine CP hS (Z1s _ _ _ _) λw10 hT hS=>?_;replace e1:=e1.up hT;rw [decide_eq_true nX];refine QO ?_;refine CP hS (Z1s _ _ _ _) λw11 hT hS=>?_;rw [decide_eq_true sg];refine RT ?_;exact ⟨rfl,hS⟩
theorem Zfv (op:BinOp) (x y:Operand) (a b:Fct) (w):(eqGuard op 45 x y (agg a) (agg b)).run Tryz.prog w=.ok () w:=by
 cases op<;>kernel_rfl
theorem ZoG (a b:Fct) (w):(binOp .neq 45 (agg a) (agg b)).run Tryz.prog w=.ok (.B (decide (¬ a=b))) w:=by
 have h1:Program.stoodInHeld Tryz.prog 45=false:=by kernel_rfl
 obtain ⟨i,hi⟩:∃ i,Tryz.prog.info? 3=some i:=by
  have:=(inferInstance:Siz Tryz.prog 3 1).h;cases h:Tryz.prog.info? 3 with
  | none=>rw [h] at this;cases this
  | some i=>exact ⟨i,rfl⟩
 obtain ⟨a1,a2,a3,a4,a5,a6⟩:=a;obtain ⟨b1,b2,b3,b4,b5,b6⟩:=b;simp [agg,Z3.enc,run_neq_struct,run_equalIn_struct,h1,Program.fieldsOf,Tryz.underlying45,Op.eqFields,part,Und.isAgg,Siz.run,Z0R,run_equalIn_int w _ _ .i64 .i64 _ _ Tryz.underlying3,run_equalIn_string w _ _ _ _ Tryz.underlying9];repeat' split
 all_goals simp_all
theorem Z9k (va vb:Value) (xs ys:List Fct) (w) (ha:SlV [] w va xs) (hb:SlV [] w vb ys) :
 CC 18 #[va,vb] w λr w'=>r=.B (decide (xs=ys))/\Stp [] w w':=by
 have tA:=ha.max;have tr:=hb.max;refine cW2 26 Tryz.func18 ?_;refine W ?_;by_cases hl:xs.length=ys.length
 case neg=>
  refine RT ?_;exact ⟨by congr 1;rw [eq_comm,decide_eq_false_iff_not];exact λh=>hl (by rw [h]),Stp.refl _ _⟩
 refine QO ?_;refine LP (σ:=Nat) (λj=>[(0,va),(1,vb),(4,.B false),(5,.I (j:Int))]) (λj w'=>j<=xs.length/\Stp [] w w'/\∀ i (h:i<xs.length),i<j->xs[i]=ys[i]'(by omega)) (λj=>xs.length - j) 0 ⟨Xq _,Stp.refl _ _,λi _ h=>absurd h (Xs _)⟩ ?_;rintro j w2 ⟨hj,hS,cZ⟩
 try dsimp only at hj cZ ⊢
 replace ha:=ha.up hS;replace hb:=hb.up hS;by_cases hlt:j<xs.length;have eJ:j<ys.length:=by omega
 refine QO ?_;refine ZDr 9 [] [] [(0,0),(1,0),(2,0),(3,1),(4,0),(5,0),(6,0),(7,1),(8,0)] (λw1 ae=>?_);replace ha:=ha.up ae;replace hb:=hb.up ae;replace hS:=hS.trans ae;refine D ?_;apply Z2H;exact rfl;refine ZeQ (c:=xs[j]=ys[j]) trivial rfl rfl (λw=>Zfv _ _ _ xs[j] ys[j] w) (by intro w;exact ZoG xs[j] ys[j] w) rfl ?_;refine D ?_
 (refine QP ?_ ?_<;>intro hc)
 refine RU ?_;exact ⟨by congr 1;rw [eq_comm,decide_eq_false_iff_not];exact λh=>hc (by simp [h]),hS⟩;have he:xs[j]=ys[j]:=Decidable.byContradiction hc;have hk:∀ i (h:i<xs.length),i<j+1->xs[i]=ys[i]'(by omega):=λi h hi=>by
  by_cases dC:i=j;subst dC;exact he;exact cZ i h (by omega)
 exact QL (j+1) ⟨hlt,hS,hk⟩ (XA hlt (XE j));have ea:j=xs.length:=by omega
 subst ea;refine RT ?_;exact ⟨by congr 1;rw [eq_comm,decide_eq_true_eq];exact YaD hl (λi h h'=>cZ i h h),hS⟩
theorem Zo6 (op:BinOp) (x y:Operand) (a b:Rsn) (w):(eqGuard op 67 x y (agg a) (agg b)).run Tryz.prog w=.ok () w:=by
 cases op<;>kernel_rfl
theorem ZwU (a b:Rsn) (w):(binOp .neq 67 (agg a) (agg b)).run Tryz.prog w=.ok (.B (decide (¬ a=b))) w:=by
 have h1:Program.stoodInHeld Tryz.prog 67=false:=by kernel_rfl
 obtain ⟨i,hi⟩:∃ i,Tryz.prog.info? 3=some i:=by
  have:=(inferInstance:Siz Tryz.prog 3 1).h;cases h:Tryz.prog.info? 3 with
  | none=>rw [h] at this;cases this
  | some i=>exact ⟨i,rfl⟩
 obtain ⟨a1,a2,a3⟩:=a;obtain ⟨b1,b2,b3⟩:=b;simp [agg,Z3.enc,run_neq_struct,run_equalIn_struct,h1,Program.fieldsOf,Tryz.underlying67,Op.eqFields,part,Und.isAgg,Siz.run,Z0R,run_equalIn_int w _ _ .i64 .i64 _ _ Tryz.underlying3];repeat' split
 all_goals simp_all
theorem Z7j (d:Dln) (ra rb:Value) (w) (ha:SlV [] w ra d.reas) (hb:SlV [] w rb d.reas) :
 CC 25 #[.agg (dlC d ra).toArray,.agg (dlC d rb).toArray] w λr w'=>r=.B true/\Stp [] w w':=by
 have tA:=ha.max;refine cW2 66 Tryz.func25 ?_;refine W ?_;refine BX (Stp.refl [] w) λb2 w1 h2 e2 _ hS=>?_;refine BX hS λb3 w2 h3 e3 hT hS=>?_;replace e2:=e2.up hT;replace e2:Blk w2 b2 56 (dlC d ra):=e2;replace e3:Blk w2 b3 56 (dlC d rb):=e3
 (refine QP ?_ ?_<;>intro hg)
 exact absurd rfl hg;refine Z8 (Zl rfl rfl e2 (us:=Z3.enc d.trig) rfl rfl) rfl ?_;refine W ?_;refine Z8 (Zl rfl rfl e3 (us:=Z3.enc d.trig) rfl rfl) rfl ?_;refine W ?_;refine ZmE (c:=d.trig=d.trig) rfl rfl (λw=>Zfv _ _ _ d.trig d.trig w) (λw=>ZoG d.trig d.trig w) rfl ?_;rw [decide_eq_false (λh=>h rfl)];refine QO ?_;refine LP (σ:=Nat) (λj=>[(2,pQ b2),(3,pQ b3),(4,.B false),(5,.I (j:Int))]) (λj w'=>j<=d.reas.length/\Stp [] w2 w') (λj=>d.reas.length - j) 0 ⟨Xq _,Stp.refl _ _⟩ ?_;rintro j y ⟨hj,hT⟩;replace e2:=e2.up hT;replace e3:=e3.up hT;have ah:=hS.trans hT;have uw:=ha.up ah;have cu:=hb.up ah;by_cases hlt:j<d.reas.length;refine QO ?_;refine ZDr 11 [] [] [(0,0),(1,1),(2,0),(3,0),(4,1),(5,0),(6,1),(7,0),(8,0),(9,1),(10,0)] (λw1 ae=>?_);replace uw:=uw.up ae;replace cu:=cu.up ae;replace e2:=e2.up ae;replace e3:=e3.up ae;refine QD ?_;apply Z2H;exact rfl;refine ZeQ (c:=d.reas[j]=d.reas[j]) trivial rfl rfl (λw=>Zo6 _ _ _ d.reas[j] d.reas[j] w) (by intro w;exact ZwU d.reas[j] d.reas[j] w) rfl ?_;rw [decide_eq_false (λh=>h rfl)];refine D ?_;refine QO ?_;exact QL (j+1) ⟨hlt,hT.trans ae⟩ (XA hlt (XE j));refine RT ?_;exact ⟨rfl,ah⟩
def Zfw:Str:=[114,117,108,101,32,114,32,102,114,111,109,32,64,50,48,50,54,45,48,49,45,48,49,32,123,32,111,110,32,99,108,97,105,109,59,32,100,117,101,32,100,97,121,32,43,32,50,48,32,100,97,121,115,59,32,117,110,108,101,115,115,32,97,110,115,119,101,114,59,32,101,108,115,101,32,108,97,112,115,101,59,32,125]
def Z3x:RuleM:=⟨[114],739616,[99,108,97,105,109],.mk 2 1 [] [],.mk 7 0 [100,97,121,115] [.mk 4 0 [100,97,121] [],.mk 1 20 [] []],[97,110,115,119,101,114],[108,97,112,115,101]⟩
theorem Zo7:Z3c Zfw=.ok [Z3x]:=by kernel_rfl
def Z4c:Cr:=⟨[114],739616,[99,108,97,105,109],[⟨2,1⟩,⟨24,0⟩],[⟨4,0⟩,⟨1,20⟩,⟨15,0⟩,⟨24,0⟩],[97,110,115,119,101,114],[108,97,112,115,101]⟩
def z22:Cal:=⟨[false,false,false,false,false,false,false],[],[]⟩
def Zq:Fct:=⟨4,[99,108,97,105,109],739616,1,2,50⟩
def ZwV:Cas:=⟨[Zq],[Z4c],[],[],[],z22,0,739630⟩
def ZwW:Cas:=⟨[Zq],[Z4c],[],[],[],z22,0,739640⟩
def ZwX:Cas:=⟨[Zq,⟨7,[97,110,115,119,101,114],739636,2,0,0⟩],[Z4c],[],[],[],z22,0,739640⟩
def ZwY:Cas:=⟨[Zq],[Z4c],[],[],[(739620,739621)],z22,0,739630⟩
def Z4F:Fct:=⟨4,[108,97,112,115,101],739637,2,1,50⟩
def Z10 (due st:Int) (more:List Rsn):Dln:=⟨[114],Zq,2,due,st,[⟨1,4,739616⟩,⟨2,0,0⟩]++more⟩
theorem ZxI:Z1g ZwV=[]:=by decide +kernel
theorem ZxJ:Z1g ZwW=[Z4F]:=by decide +kernel
theorem ZxK:Z1g ZwX=[]:=by decide +kernel
theorem ZxL:Z1g ZwY=[]:=by decide +kernel
theorem ZxM:Z1t ZwV=[Z10 739636 0 []]:=by kernel_rfl
theorem ZxN:Z1t ZwW=[Z10 739636 2 []]:=by kernel_rfl
theorem ZxO:Z1t ZwX=[Z10 739636 1 [⟨6,7,739636⟩]]:=by kernel_rfl
theorem ZxP:Z1t ZwY=[Z10 739638 0 [⟨4,739638,739638⟩,⟨5,739620,739621⟩]]:=by kernel_rfl
theorem ZwZ:Zf (.mk 2 1 [] [])=2:=by
 rw [Zf];decide +kernel
theorem Zx0:Zf (.mk 7 0 [100,97,121,115] [.mk 4 0 [100,97,121] [],.mk 1 20 [] []])=3:=by
 rw [Zf,Xz,Xz,XU,Zf,Zf];decide +kernel
theorem Zx1:ZA (.mk 2 1 [] [])=1:=by
 rw [ZA];decide +kernel
theorem Zx2:ZA (.mk 7 0 [100,97,121,115] [.mk 4 0 [100,97,121] [],.mk 1 20 [] []])=2:=by
 rw [ZA,Xz,Xz,XU,ZA,ZA];decide +kernel
theorem ZoH:J2 (.mk 2 1 [] [])=[⟨2,1⟩,⟨24,0⟩]:=by
 rw [J2,Zc];decide +kernel
theorem Zl0 (k n:Int) (s:Str) (l:List Nd):Zc (.mk k n s l)=Z1e k n s (l.map Zc):=by rw [Zc]
theorem ZoI:J2 (.mk 7 0 [100,97,121,115] [.mk 4 0 [100,97,121] [],.mk 1 20 [] []])=[⟨4,0⟩,⟨1,20⟩,⟨15,0⟩,⟨24,0⟩]:=by
 rw [J2,Zc,Xz,Xz,XU];simp only [Zl0];decide +kernel
theorem Zex:Z0A Z3x.rul=0:=by
 have c1:Z3x.rul.cnd=.mk 2 1 [] []:=rfl;have c2:Z3x.rul.due=.mk 7 0 [100,97,121,115] [.mk 4 0 [100,97,121] [],.mk 1 20 [] []]:=rfl;have c3:Jk Z3x.rul=true:=by decide +kernel
 have c4:¬ (Z3x.rul.frm<0\/Z3x.rul.frm > 3652058):=by decide +kernel
 unfold Z0A Z0V;rw [c1,c2,c3];simp only [Z20,Z0E,ZwZ,Zx0,Zx1,Zx2,ZoH,ZoI,if_neg c4];decide +kernel
theorem ZoJ:crF Z3x.rul=Z4c:=by
 unfold crF;rw [if_pos Zex];have c1:Z3x.rul.cnd=.mk 2 1 [] []:=rfl;have c2:Z3x.rul.due=.mk 7 0 [100,97,121,115] [.mk 4 0 [100,97,121] [],.mk 1 20 [] []]:=rfl;rw [c1,c2,ZoH,ZoI];rfl
theorem ZoK:Zd0 Z4c=0:=ZoJ ▸ (Zd1 Z3x.rul Zex).2
def lxV:Lx->Value
 | .err c=>.tuple #[aG (⟨0,0,[],0⟩:Tkn),.I c]
 | .ok t=>.tuple #[aG t,.I 0]
theorem tk0 (w):(Instr.build 183 #[]).run Tryz.prog w=.ok (aG (⟨0,0,[],0⟩:Tkn)) w:=by kernel_rfl
theorem tk2 (k:Int) (s:Str) (w):(Instr.build 183 #[(0,.I k),(2,str s)]).run Tryz.prog w=.ok (aG (⟨k,0,s,0⟩:Tkn)) w:=by kernel_rfl
theorem tk3 (k n:Int) (s:Str) (w):(Instr.build 183 #[(0,.I k),(2,str s),(3,.I n)]).run Tryz.prog w=.ok (aG (⟨k,0,s,n⟩:Tkn)) w:=by kernel_rfl
theorem tk1 (k n:Int) (w):(Instr.build 183 #[(0,.I k),(1,.I n)]).run Tryz.prog w=.ok (aG (⟨k,n,[],0⟩:Tkn)) w:=by kernel_rfl
theorem Ztv {s:Str} {a b:UInt8} (h:s.take 2=[a,b]):2<=s.length:=by
 have:=congrArg List.length h;simp at this;omega
theorem Z8X (s:Str) (w) (aU:s≠[]):CC 215 #[str s] w λr w'=>r=lxV (Z0b s)/\Stp [] w w':=by
 have hl:s.length≠0:=λh=>aU (Xw.1 h);have cG:Jg s 0=((s.getD 0 0).toNat:Int):=rfl;refine cW1 22 Tryz.func215 ?_;refine W ?_;refine Z0 Z2 rfl ?_;rintro _ w1 ⟨b2,rfl,cu,e2,hS⟩;refine W ?_;refine CL (Z2C s 60 61 _) ?_;rintro _ wv ⟨rfl,js⟩;subst wv;by_cases a1:s.take 2=[60,61]
 have h2:=Ztv a1;have hv:Z0b s=.ok ⟨4,0,s.take 2,0⟩:=by unfold Z0b;rw [if_pos (.inl a1)]
 rw [decide_eq_true a1];refine W ?_;refine Z0p (r:=2) rfl rfl rfl (by omega) rfl ?_;refine Z7 (vs:=[(0,.I 4),(2,str (s.take 2))]) rfl (tk2 _ _) rfl ?_;refine SA (us:=Z3.enc (⟨4,0,s.take 2,0⟩:Tkn)) e2 ?_;rintro _ wz ⟨hT,e2'⟩;refine W ?_;refine Zm rfl rfl rfl e2' rfl rfl ?_;exact .mk ⟨by rw [hv];rfl,hS.ow hT⟩;rw [decide_eq_false a1];refine W ?_;refine CL (Z2C s 33 61 _) ?_;rintro _ wv ⟨rfl,js⟩;subst wv;by_cases a2:s.take 2=[33,61]
 have h2:=Ztv a2;have hv:Z0b s=.ok ⟨4,0,s.take 2,0⟩:=by unfold Z0b;rw [if_pos (.inr (.inl a2))]
 rw [decide_eq_true a2];refine W ?_;refine Z0p (r:=2) rfl rfl rfl (by omega) rfl ?_;refine Z7 (vs:=[(0,.I 4),(2,str (s.take 2))]) rfl (tk2 _ _) rfl ?_;refine SA (us:=Z3.enc (⟨4,0,s.take 2,0⟩:Tkn)) e2 ?_;rintro _ wz ⟨hT,e2'⟩;refine W ?_;refine Zm rfl rfl rfl e2' rfl rfl ?_;exact .mk ⟨by rw [hv];rfl,hS.ow hT⟩;rw [decide_eq_false a2];refine W ?_;refine CL (Z2C s 62 61 _) ?_;rintro _ wv ⟨rfl,js⟩;subst wv;by_cases a3:s.take 2=[62,61]
 have h2:=Ztv a3;have hv:Z0b s=.ok ⟨4,0,s.take 2,0⟩:=by unfold Z0b;rw [if_pos (.inr (.inr a3))]
 rw [decide_eq_true a3];refine W ?_;refine Z0p (r:=2) rfl rfl rfl (by omega) rfl ?_;refine Z7 (vs:=[(0,.I 4),(2,str (s.take 2))]) rfl (tk2 _ _) rfl ?_;refine SA (us:=Z3.enc (⟨4,0,s.take 2,0⟩:Tkn)) e2 ?_;rintro _ wz ⟨hT,e2'⟩;refine W ?_;refine Zm rfl rfl rfl e2' rfl rfl ?_;exact .mk ⟨by rw [hv];rfl,hS.ow hT⟩;rw [decide_eq_false a3];have aW:¬ (s.take 2=[60,61]\/s.take 2=[33,61]\/s.take 2=[62,61]):=by
  rintro (h|h|h);exact a1 h;exact a2 h;exact a3 h
 refine QO ?_;refine Jb (i:=0) rfl rfl rfl (by omega) rfl ?_;repeat'(first|refine W1 ?_|omega|refine VG ?_ ?_<;>intro hg|refine VC ?_ ?_<;>intro hc)
 rw [cG];refine CL (Z73 ZbZ (s.getD 0 0) _) ?_;rintro _ wv ⟨rfl,js⟩;subst wv;have sC:=Z8h ZbZ (s.getD 0 0);rw [decide_eq_decide] at sC;by_cases a4:s.getD 0 0∈ZbZ;have hv:Z0b s=.ok ⟨4,0,s.take 1,0⟩:=by unfold Z0b;rw [if_neg aW,if_pos a4]
 have h0:=sC.2 a4;refine QO ?_;refine W ?_;refine Z0p (r:=1) rfl rfl rfl (by omega) rfl ?_;refine Z7 (vs:=[(0,.I 4),(2,str (s.take 1))]) rfl (tk2 _ _) rfl ?_;refine SA (us:=Z3.enc (⟨4,0,s.take 1,0⟩:Tkn)) e2 ?_;rintro _ wz ⟨hT,e2'⟩;refine W ?_;refine Zm rfl rfl rfl e2' rfl rfl ?_;exact .mk ⟨by rw [hv];rfl,hS.ow hT⟩;have hv:Z0b s=.err 20:=by unfold Z0b;rw [if_neg aW,if_neg a4]
 have h0:¬ 0<=Lib.indexByte ZbZ (s.getD 0 0):=λh=>a4 (sC.1 h);refine QO ?_;refine Z7 (vs:=[]) rfl tk0 rfl ?_;refine SA (us:=Z3.enc (⟨0,0,[],0⟩:Tkn)) e2 ?_;rintro _ wz ⟨hT,e2'⟩;refine W ?_;refine Zm rfl rfl rfl e2' rfl rfl ?_;exact .mk ⟨by rw [hv];rfl,hS.ow hT⟩
theorem Zab (s:Str) (w) (hl:s.length<=1000000):CC 220 #[str s] w λr w'=>r=lxV (Z5C s)/\Stp [] w w':=by
 have cT:(s.takeWhile ldB).length<=s.length:=by
  have:=congrArg List.length (Z04 (p:=ldB) s);simp at this;omega
 refine cW1 14 Tryz.func220 ?_;refine W ?_;refine Z0 Z2 rfl ?_;rintro _ w1 ⟨b2,rfl,cu,e2,hS⟩;refine W ?_;refine CL (Z6s (λn=>ZaE n || Z6r n) Zt6 s _ hl) ?_;rintro _ w2 ⟨rfl,hT⟩;rw [Zjl];replace e2:=e2.up hT;replace hS:=hS.trans hT;clear hT;by_cases mm:12<(s.takeWhile ldB).length;have hv:Z5C s=.err 2:=by unfold Z5C;simp only;rw [if_pos mm]
 refine QO ?_;refine Z7 (vs:=[]) rfl tk0 rfl ?_;refine SA (us:=Z3.enc (⟨0,0,[],0⟩:Tkn)) e2 ?_;rintro _ wz ⟨hT,e2'⟩;refine W ?_;refine Zm rfl rfl rfl e2' rfl rfl ?_;exact .mk ⟨by rw [hv];rfl,hS.ow hT⟩;have hv:Z5C s=.ok ⟨1,0,s.take (s.takeWhile ldB).length,0⟩:=by unfold Z5C;simp only;rw [if_neg mm]
 generalize (s.takeWhile ldB).length=q at *;refine QO ?_;refine Z0p (r:=q) rfl rfl rfl cT rfl ?_;refine Z7 (vs:=[(0,.I 1),(2,str (s.take q))]) rfl (tk2 _ _) rfl ?_;refine SA (us:=Z3.enc (⟨1,0,s.take q,0⟩:Tkn)) e2 ?_;rintro _ wz ⟨hT,e2'⟩;refine W ?_;refine Zm rfl rfl rfl e2' rfl rfl ?_;exact .mk ⟨by rw [hv];rfl,hS.ow hT⟩
theorem Zx3 {P:Program} {n:Nat} {Q:Exit->Act->World->Prop} {e:Env} {w} {ops:Array Oper} {rest:List Oper} {am:Nat} {ty:TypeId} {pos:String} {af:Array Edge} {t u p:Nat} {x y:Operand} {v:Value} {ds:TypeDesc} [hu:Und P t ds] (sD:∃ l,ds=.interface l) (hx:ev e x=some (.iface p v)) (hy:ev e y=some .nilIface) (aw:Nat.blt am n=true) (kk:WL P n ops Q rest ((am,.B true) :: e) w) :
 WL P n ops Q (⟨some am,.binOp .neq t x y u,ty,pos,af,none⟩ :: rest) e w:=by
 refine Z8 (v:=.B true) ⟨λa ha=>?_⟩ aw kk;obtain ⟨l,rfl⟩:=sD;simp only [execOp,ha.ev hx,ha.ev hy];have:=run_equal_held_nil (P:=P) (w:=w) t p v (by rw [hu.h,Program.methodsAt,hu.h]);simp [go_sem,binOp,this]
theorem ZoL {P:Program} {n:Nat} {Q:Exit->Act->World->Prop} {e:Env} {w} {ops:Array Oper} {rest:List Oper} {am:Nat} {ty:TypeId} {pos:String} {af:Array Edge} {t u:Nat} {x:Operand} {ds:TypeDesc} [hu:Und P t ds] (sD:∃ l,ds=.interface l) (hx:ev e x=some .nilIface) (aw:Nat.blt am n=true) (kk:WL P n ops Q rest ((am,.B false) :: e) w) :
 WL P n ops Q (⟨some am,.binOp .neq t x (.const .nilIface) u,ty,pos,af,none⟩ :: rest) e w:=by
 refine Z8 (v:=.B false) ⟨λa ha=>?_⟩ aw kk;obtain ⟨l,rfl⟩:=sD;have hy:a.eval (.const .nilIface)=.nilIface:=rfl;simp only [execOp,ha.ev hx,hy];have:=run_equal_nil_nil (P:=P) (w:=w) t (by rw [hu.h,Program.methodsAt,hu.h]);simp [go_sem,binOp,eqGuard,this]
theorem Zhb (w) (el:TypeId) (t:ByteArray):Stp [] w (Lib.bytesWorld w el t):=by
 refine ⟨rfl,rfl,rfl,?_,λb hb _=>Lib.bytesWorld_at_old w el _ b hb⟩;rw [Lib.bytesWorld_size];omega
theorem Zhc (t:Str) (ev:Value) (w:World) (ht:t.all J9=true) (aU:t≠[]) (hl:t.length<=1000000) (eF:w.cell? ⟨8,0,none⟩=some ev) (bF:ev=.nilIface\/∃ te pe,ev=.iface te pe) :
 CC 276 #[str t] w λr w'=>(if Z1G t<=9223372036854775807 then r=.tuple #[.I (Z1G t:Int),.nilIface] else ∃ z p v,r=.tuple #[.I z,.iface p v])/\Stp [] w w':=by
 have ha:=Zc3 aU ht;by_cases h:Z1G t<=9223372036854775807;rw [if_pos h] at ha;refine (Tryz.strconv_Atoi_ok ⟨t.toArray⟩ (by rw [Z0o];omega) (Z1G t:Int) (by simpa using ha) w).mono ?_;rintro e w' ⟨rfl,hw⟩;refine .mk ⟨by rw [if_pos h],?_⟩;rcases hw with rfl|⟨x,rfl⟩
 exact Stp.refl _ _;exact Zhb _ _ _;rw [if_neg h] at ha;refine (Tryz.strconv_Atoi_range ⟨t.toArray⟩ (by rw [Z0o];omega) (by simpa using ha) ev w eF bF).mono ?_;rintro e w' ⟨N,rfl,_,_,hw⟩;exact .mk ⟨by rw [if_neg h];exact ⟨_,_,_,rfl⟩,Stp.of_below hw⟩
theorem Z7k (s:Str) (ev:Value) (w:World) (hl:s.length<=1000000) (hd:J9 (s.getD 0 0)=true) (aU:s≠[]) (eF:w.cell? ⟨8,0,none⟩=some ev) (bF:ev=.nilIface\/∃ te pe,ev=.iface te pe):CC 222 #[str s] w λr w'=>r=lxV (Z4p s)/\Stp [] w w':=by
 have cT:(s.takeWhile J9).length<=s.length:=by
  have:=congrArg List.length (Z04 (p:=J9) s);simp at this;omega
 have aB:(s.takeWhile J9).all J9=true:=X0.2 λc hc=>Z0L hc;have fI:=Z04 (p:=J9) s;have aV:s.takeWhile J9≠[]:=by
  cases s with
  | nil=>exact absurd rfl aU
  | cons a r=>simp only [XZ] at hd;simp [hd]
 have rc:(s.takeWhile J9).length≠0:=λh=>aV (Xw.1 h);have oe:Z4p s=if 1<(s.takeWhile J9).length/\(s.takeWhile J9).getD 0 0=48 then .err 20 else if 2147483647<Z1G (s.takeWhile J9) then .err 5 else .ok ⟨2,0,s.takeWhile J9,Z1G (s.takeWhile J9)⟩:=rfl
 rw [oe];have gM:=ZfY s;refine cW1 35 Tryz.func222 ?_;refine W ?_;refine Z0 Z2 rfl ?_;rintro _ w1 ⟨b2,rfl,cu,e2,hS⟩;refine W ?_;refine CL (Z6s Z6r Z4q s _ hl) ?_;rintro _ w2 ⟨rfl,hT⟩;rw [gM];replace e2:=e2.up hT;replace hS:=hS.trans hT;clear hT;refine Z0p (r:=(s.takeWhile J9).length) rfl rfl rfl cT rfl ?_;rw [fI];have dV:(s.takeWhile J9).length<=1000000:=Xh cT hl;clear oe fI cT gM;generalize s.takeWhile J9=t at *;have cG:Jg t 0=((t.getD 0 0).toNat:Int):=rfl;have sE:Jg t 0=48↔t.getD 0 0=48:=by
  rw [cG];constructor;intro h;have sE:(48:UInt8).toNat=48:=rfl;exact UInt8.toNat_inj.1 (by omega);intro h;rw [h];rfl
 by_cases hz:1<t.length/\t.getD 0 0=48;rw [if_pos hz];have fR:=hz.1;have jC:=sE.2 hz.2;refine QO ?_;refine Jb (i:=0) rfl rfl rfl (by omega) rfl ?_;refine QO ?_;refine Z7 (vs:=[]) rfl tk0 rfl ?_;refine SA (us:=Z3.enc (⟨0,0,[],0⟩:Tkn)) e2 ?_;rintro _ wz ⟨hT,e2'⟩;refine W ?_;refine Zm rfl rfl rfl e2' rfl rfl ?_;exact .mk ⟨rfl,hS.ow hT⟩;rw [if_neg hz];refine W ?_;refine WL_cutQ (σ:=Unit) (λ_=>[(0,str s),(2,pQ b2),(4,str t),(18,.B false)]) (λ_ w'=>w'=w2) ?_ ?_;by_cases h1:1<t.length;have h0:¬ Jg t 0=48:=λh=>hz ⟨h1,sE.1 h⟩;refine QO ?_;refine Jb (i:=0) rfl rfl rfl (by omega) rfl ?_;refine QO ?_;rw [decide_eq_false h0];exact QT () rfl;refine QO ?_;exact QT () rfl;rintro _ wv js;subst wv;refine W ?_;refine CM (ZR rfl) (Zhc t ev _ aB aV dV (hS.cell (by simp) eF) bF) ?_;rintro _ w3 ⟨hr,hT⟩;replace e2:=e2.up hT;replace hS:=hS.trans hT;clear hT;by_cases aS:Z1G t<=9223372036854775807;rw [if_pos aS] at hr;subst hr;refine W ?_;refine ZoL ⟨_,rfl⟩ rfl rfl ?_;by_cases ol:2147483647<Z1G t;rw [if_pos ol];refine QO ?_;refine Z7 (vs:=[]) rfl tk0 rfl ?_;refine SA (us:=Z3.enc (⟨0,0,[],0⟩:Tkn)) e2 ?_;rintro _ wz ⟨hT,e2'⟩;refine W ?_;refine Zm rfl rfl rfl e2' rfl rfl ?_;exact .mk ⟨rfl,hS.ow hT⟩;rw [if_neg ol];refine QO ?_;refine Z7 (vs:=[(0,.I 2),(2,str t),(3,.I (Z1G t:Int))]) rfl (tk3 _ _ _) rfl ?_;refine SA (us:=Z3.enc (⟨2,0,t,Z1G t⟩:Tkn)) e2 ?_;rintro _ wz ⟨hT,e2'⟩;refine W ?_;refine Zm rfl rfl rfl e2' rfl rfl ?_;exact .mk ⟨rfl,hS.ow hT⟩;rw [if_neg aS] at hr;obtain ⟨z,p,v,rfl⟩:=hr;rw [if_pos (by omega)];refine W ?_;refine Zx3 ⟨_,rfl⟩ rfl rfl rfl ?_;refine QO ?_;refine Z7 (vs:=[]) rfl tk0 rfl ?_;refine SA (us:=Z3.enc (⟨0,0,[],0⟩:Tkn)) e2 ?_;rintro _ wz ⟨hT,e2'⟩;refine W ?_;refine Zm rfl rfl rfl e2' rfl rfl ?_;exact .mk ⟨rfl,hS.ow hT⟩
theorem Z7l {z:Int} (h0:0<=z) (h1:z<2147483648):IntKind.i32.wrap z=z:=by
 rw [IntKind.wrap_i32];omega
theorem Zo8:∀ i,i<Ji.length->(Ji.getD i 0).toNat<128:=by decide
theorem Zo9 {s:Str} (h:11<=s.length) (hf:∀ j,j<11->Z5D (Ji.getD j 0) (s.getD j 0)=true):((Ji.zip s).all λp=>Z5D p.1 p.2)=true:=by
 rw [X0];intro p hp;obtain ⟨i,hi,rfl⟩:=Xr hp;have h1:i<11:=by
  have:Ji.length=11:=rfl;simp at hi;omega
 have:=hf i h1;rw [List.getElem_zip];have e1:Ji.getD i 0=Ji[i]'(by show i<11;omega):=by
  have:i<Ji.length:=h1;simp [List.getD,this]
 have e2:s.getD i 0=s[i]'(by omega):=by
  have:i<s.length:=by omega
  simp [List.getD,this]
 rw [e1,e2] at this;exact this
theorem Zac {s:Str} {j:Nat} (h:11<=s.length) (hj:j<11) (hf:Z5D (Ji.getD j 0) (s.getD j 0)=false):((Ji.zip s).all λp=>Z5D p.1 p.2)=false:=by
 cases hb:((Ji.zip s).all λp=>Z5D p.1 p.2) with
 | false=>rfl
 | true=>
   rw [X0] at hb;have hl:j<(Ji.zip s).length:=by
    have:Ji.length=11:=rfl;simp;omega
   have:=hb _ (Xd hl);rw [List.getElem_zip] at this;have e1:Ji.getD j 0=Ji[j]'(by show j<11;omega):=by
    have:j<Ji.length:=hj;simp [List.getD,this]
   have e2:s.getD j 0=s[j]'(by omega):=by
    have:j<s.length:=by omega
    simp [List.getD,this]
   rw [e1,e2] at hf;rw [hf] at this;cases this
theorem Zfx (s:Str) (w) (cS:Z0x w) (hl:s.length<=1000000):CC 223 #[str s] w λr w'=>r=lxV (ZaD s)/\Stp [] w w':=by
 have yJ:3<w.heap.size:=by have:=block_lt_of_cell (cS 0 0 rfl);simpa using this
 refine cW1 52 Tryz.func223 ?_;refine W ?_;refine Z0 Z2 rfl ?_;rintro _ w1 ⟨b2,rfl,cu,e2,hS⟩;by_cases me:s.length<11;have hv:ZaD s=.err 20:=by unfold ZaD;rw [if_pos me]
 rw [hv];refine QO ?_;refine Z7 (vs:=[]) rfl tk0 rfl ?_;refine SA (us:=Z3.enc (⟨0,0,[],0⟩:Tkn)) e2 ?_;rintro _ wz ⟨hT,e2'⟩;refine W ?_;refine Zm rfl rfl rfl e2' rfl rfl ?_;exact .mk ⟨rfl,hS.ow hT⟩
 . have lJ:ZaD s=if ((Ji.zip s).all λp=>Z5D p.1 p.2) then (let d:=Z1C ((s.take 11).drop 1);if d.2=0 then .ok ⟨3,0,s.take 11,d.1⟩ else .err 5) else .err 20:=by unfold ZaD;rw [if_neg me]
   rw [lJ];replace cS:=cS.up hS;refine QO ?_;refine Z0 (ZbX (s:=Ji) rfl) rfl ?_;rintro _ w2 ⟨bi,rfl,oR,hI,hT⟩;have xA:w.heap.size<=bi:=Xh hS.size oR;have ni2:b2≠bi:=by have:=e2.lt;omega
   have xB:(3:Nat)≠bi:=by omega
   replace e2:=e2.up hT;replace cS:=cS.up hT;replace hS:=hS.trans hT;clear hT;refine W ?_
   refine Zu (σ:=Nat) (λq=>[(0,str s),(2,pQ b2),(13,pQ bi)])
    (λq w'=>q<=11/\Itr w' bi Ji q/\(∀ j,j<q->Z5D (Ji.getD j 0) (s.getD j 0)=true)/\(∃ cs:List Value,cs.length=4/\Blk w' b2 183 cs)/\Z0x w'/\Stp [] w w')
    (λq=>11 - q) 0 ⟨rfl,rfl,rfl,trivial⟩ ⟨Xq _,hI,λj h=>absurd h (Xs _),⟨_,rfl,e2⟩,cS,hS⟩ ?_
   clear hI e2 cS hS;rintro q w3 ⟨hq,hI,db,⟨cs2,cq,e2⟩,cS,hS⟩
   match cs2,cq with
   | [q0,q1,q2,q3],_=>
   have dW:Ji.length=11:=rfl;by_cases hlt:q<11;have hqf:q<Ji.length:=by omega
   have nH:=Zo8 q hqf;have lH:dec Ji q=((Ji.getD q 0).toNat,1):=by
    have e1:Ji.getD q 0=Ji[q]'hqf:=by simp [List.getD,hqf]
    rw [e1] at nH ⊢;exact Z4o hqf nH
   refine W ?_;refine Z0 (ZeX rfl hI hqf) rfl ?_;rintro _ w4 ⟨rfl,pJ,hT⟩;rw [lH] at pJ ⊢;dsimp only at pJ ⊢;replace e2:=e2.ext hT (by simpa using ni2);replace cS:=cS.ext hT (by simpa using xB);replace hS:=hS.ow hT;clear hT hI;have lU:=Z7P s q;refine QO ?_;refine Z8 (Z4s (b:=Jg s q) rfl (Z7l lU.1 (by omega))) rfl ?_;have lR:Jg s q=((s.getD q 0).toNat:Int):=rfl;by_cases gH:Ji.getD q 0=100;rw [gH];have jp:(((100:UInt8).toNat:Nat):Int)=100:=rfl;rw [jp];have om:Z5D (Ji.getD q 0) (s.getD q 0)=J9 (s.getD q 0):=by unfold Z5D;rw [if_pos gH]
   refine QO ?_;rw [lR];refine Z0 (Z4 rfl (ZR rfl) (Z4q (s.getD q 0).toNat _)) rfl ?_;rintro _ wv ⟨rfl,js⟩;subst wv;have iY:Z6r (s.getD q 0).toNat=J9 (s.getD q 0):=rfl;rw [iY];cases hd:J9 (s.getD q 0);have hz:=Zac (s:=s) (by omega) hlt (by rw [om];exact hd);rw [if_neg (by rw [hz];decide)];refine QO ?_;refine Z7 (vs:=[]) rfl tk0 rfl ?_;refine SA (us:=Z3.enc (⟨0,0,[],0⟩:Tkn)) e2 ?_;rintro _ wz ⟨hT,e2'⟩;refine W ?_;refine Zm rfl rfl rfl e2' rfl rfl ?_;exact .mk ⟨rfl,hS.ow hT⟩;refine QO ?_;refine QL (q+1) ⟨hlt,pJ,λj hj=>?_,⟨_,rfl,e2⟩,cS,hS⟩ (by omega);rcases Yay j q with h|h
   exact db j h;obtain rfl:j=q:=by omega
   rw [om];exact hd;have aU:¬ ((Ji.getD q 0).toNat:Int)=100:=λh=>gH (by
    have jp:(100:UInt8).toNat=100:=rfl;exact UInt8.toNat_inj.1 (by omega))
   have om:Z5D (Ji.getD q 0) (s.getD q 0)=decide (s.getD q 0=Ji.getD q 0):=by unfold Z5D;rw [if_neg gH]
   have cZ:Jg s q=((Ji.getD q 0).toNat:Int)↔s.getD q 0=Ji.getD q 0:=by
    rw [lR];constructor;intro h;exact UInt8.toNat_inj.1 (by omega);intro h;rw [h]
   by_cases hx:Jg s q=((Ji.getD q 0).toNat:Int)
   refine QO ?_;refine QL (q+1) ⟨hlt,pJ,λj hj=>?_,⟨_,rfl,e2⟩,cS,hS⟩ (by omega);rcases Yay j q with h|h
   exact db j h;obtain rfl:j=q:=by omega
   rw [om];exact decide_eq_true (cZ.1 hx);have hz:=Zac (s:=s) (by omega) hlt (by rw [om];exact decide_eq_false (λh=>hx (cZ.2 h)));rw [if_neg (by rw [hz];decide)];refine QO ?_;refine Z7 (vs:=[]) rfl tk0 rfl ?_;refine SA (us:=Z3.enc (⟨0,0,[],0⟩:Tkn)) e2 ?_;rintro _ wz ⟨hT,e2'⟩;refine W ?_;refine Zm rfl rfl rfl e2' rfl rfl ?_;exact .mk ⟨rfl,hS.ow hT⟩;have sF:q=11:=by omega
   subst sF;have hz:=Zo9 (s:=s) (by omega) db;rw [if_pos hz];refine W ?_;refine Z0 (Z85 rfl hI (by omega)) rfl ?_;rintro _ wv ⟨rfl,js⟩;subst wv;refine W ?_;refine Z5t (l:=1) (r:=11) rfl rfl rfl rfl rfl (by omega) (by omega) rfl ?_;refine Z0 (Z4 rfl (ZR rfl) (ZdW _ _ cS (by simp;omega))) rfl ?_;rintro _ w5 ⟨rfl,hT⟩;replace e2:=e2.up hT;replace hS:=hS.trans hT;clear hT;dsimp only;by_cases h0:(Z1C ((s.take 11).drop 1)).2=0;rw [if_pos h0];refine QO ?_;refine Z0p (r:=11) rfl rfl rfl (by omega) rfl ?_;refine W ?_;refine Z7 (vs:=[(0,.I 3),(2,str (s.take 11)),(3,.I (Z1C ((s.take 11).drop 1)).1)]) rfl (tk3 _ _ _) rfl ?_;refine Z6 (Zj (us:=Z3.enc (⟨3,0,s.take 11,(Z1C ((s.take 11).drop 1)).1⟩:Tkn)) rfl rfl rfl rfl (Z3.one _) e2 rfl) ?_;rintro _ wz ⟨hT,e2'⟩;refine W ?_;refine Zm rfl rfl rfl e2' rfl rfl ?_;exact .mk ⟨rfl,hS.ow hT⟩;rw [if_neg h0];refine QO ?_;refine Z7 (vs:=[]) rfl tk0 rfl ?_;refine SA (us:=Z3.enc (⟨0,0,[],0⟩:Tkn)) e2 ?_;rintro _ wz ⟨hT,e2'⟩;refine W ?_;refine Zm rfl rfl rfl e2' rfl rfl ?_;exact .mk ⟨rfl,hS.ow hT⟩
end Go.Proofs.YtipfkbkkndacjaaGreatDoor
namespace Go.Eng
open Go Go.RowKit Go.Proofs
theorem Z2T {s:Str} {e:Int} (h:Z1b s=.err e):e≠0:=by
 unfold Z1b at h;simp only at h;split at h;unfold Z5C at h;simp only at h;split at h<;>simp at h;omega;split at h;unfold Z4p at h;simp only at h;split at h;simp at h;omega;split at h<;>simp at h;omega;split at h;unfold ZaD at h;split at h;simp at h;omega;split at h;simp only at h;split at h<;>simp at h;omega;simp at h;omega;unfold Z0b at h;split at h;simp at h;split at h<;>simp at h;omega
theorem Zoa {s:Str} (h:s.getD 0 0=35):1<=nlM s:=by
 cases s with
 | nil=>simp at h
 | cons a r=>
   simp only [XZ] at h;subst h;unfold nlM;have h0:0<(35 :: r:Str).length:=by simp
   have hl:(35 :: r:Str).length=r.length+1:=by simp
   rw [hl];unfold JV;rw [if_pos h0,Z4o h0 (by show (35:UInt8).toNat<128;decide)];simp only;have hn:Z86 ((35 :: r:Str)[0]).toNat=true:=by show Z86 (35:UInt8).toNat=true;decide
   rw [if_pos hn];exact Z9y _ _ _ _ (by simp)
end Go.Eng
namespace Go.Proofs.YtipfkbkkndacjaaGreatDoor
open Go Go.Eng Go.RowKit Go.Proofs
theorem Z4d (t:Tkn) (w):(Instr.buildSlice 184 1 #[(0,aG t)]).run Tryz.prog w=.ok (.slice (some ⟨w.heap.size,0,none⟩) 1 1) (w.alloc (.cells (Z3.enc t).toArray 183)):=by kernel_rfl
def TkV (w w':World) (r:Value):Tks->Prop
 | .err a c=>r=.tuple #[.N,.I a,.I c]
 | .ok l=>∃ tv,r=.tuple #[tv,.I 0,.I 0]/\ZI 183 w w' tv l
theorem Zey (s:Str) (ev:Value) (w) (cS:Z0x w) (eF:w.cell? ⟨8,0,none⟩=some ev) (bF:ev=.nilIface\/∃ te pe,ev=.iface te pe) (hl:s.length<=1000000) :
 CC 157 #[str s] w λr w'=>TkV w w' r (Z0w s)/\Stp [] w w':=by
 unfold Z0w;refine cW1 72 Tryz.func157 ?_;refine W ?_;refine Z8f ?_;by_cases h4:4000<s.length
 . rw [if_pos h4]
   refine QO ?_
   repeat (first|refine JW ?_|refine W1 ?_)
   refine RU ?_;exact ⟨rfl,Stp.refl _ _⟩
 rw [if_neg h4];generalize hR:Z0v nlM s (s.length+1) 0 []=R;refine QO ?_;refine Zjx ?_;refine QO ?_
 refine Zu (σ:=Nat×Nat×List Tkn×Value) (λq=>[(0,str s),(5,q.2.2.2),(6,.I (q.2.1:Int))])
  (λq w'=>Z0v nlM s q.1 q.2.1 q.2.2.1=R/\s.length<q.2.1+q.1/\q.2.1<=s.length/\q.2.2.1.length<=q.2.1/\ZI 183 w w' q.2.2.2 q.2.2.1)
  (λq=>q.1) (s.length+1,0,[],.N) ⟨rfl,rfl,rfl,trivial⟩ ⟨hR,by dsimp only;omega,Xq _,Xn _,ZI.nil⟩ ?_
 clear hR;rintro ⟨f,q,l,lv⟩ w1 ⟨hR,hf,hq,j6,ab⟩;dsimp only at hR hf hq j6 ab ⊢;have dq:=ab;cases f with
 | zero=>omega
 | succ f=>
 simp only [Z0v] at hR;by_cases hlt:q<s.length
 rotate_left
 . rw [if_neg hlt] at hR
   subst hR;refine QO ?_;refine Z7 (vs:=[(0,.I 0),(1,.I (q:Int))]) rfl (tk1 _ _) rfl ?_;refine Z0 (Z1 (vs:=[(0,.agg (Z3.enc (⟨0,(q:Int),[],0⟩:Tkn)).toArray)]) rfl (Z4d _)) rfl ?_;intro bv w3 hN;have aq:SlV (ob lv) w3 bv [(⟨0,(q:Int),[],0⟩:Tkn)]:=hN.slv (λb hb=>(ab.ob_le b hb).2) rfl rfl (by simp [maxLen]);replace ab:=ab.up (Z9.stp hN);clear hN;refine Z0 (JD rfl (by decide) rfl rfl ab aq (by simp only [Xe,Xg];omega) (by simp only [Xe,Xg,maxLen];omega)) rfl ?_;rintro lv' w4 ⟨aC,hT,cb⟩;refine QO ?_
   repeat (first|refine JW ?_|refine W1 ?_)
   refine RU ?_;exact ⟨⟨lv',rfl,aC⟩,aC.2⟩
 rw [if_pos hlt] at hR;have aU:s.drop q≠[]:=λh=>by have:=congrArg List.length h;simp at this;omega
 have jW:(s.drop q).length≠0:=λh=>aU (Xw.1 h);have gg:(s.drop q).length<=1000000:=by simp;omega
 have jN:=cS.up ab.2;have jO:=ab.2.cell (by simp) eF;refine QO ?_;refine ZbB (l:=q) rfl rfl rfl (by omega) rfl ?_;refine QO ?_;have lR:Jg (s.drop q) 0=(((s.drop q).getD 0 0).toNat:Int):=rfl;have lU:=Z7P (s.drop q) 0;refine Jb (i:=0) rfl rfl rfl (by omega) rfl ?_;refine Z8 (Z4s (b:=Jg (s.drop q) 0) rfl (Z7l lU.1 (by omega))) rfl ?_;rw [lR];refine QO ?_;refine CL (ZaI ((s.drop q).getD 0 0) _) ?_;rintro _ w2 ⟨rfl,hT⟩;replace ab:=ab.up hT;replace jN:=jN.up hT;replace jO:=hT.cell (by simp) jO;have dq:=ab;clear hT;cases bt:Z6q ((s.drop q).getD 0 0)
 rotate_left
 . rw [if_pos bt] at hR
   refine QO ?_
   repeat (first|refine Z05 ?_|refine W1 ?_)
   exact QL (f,q+1,l,lv) ⟨hR,by dsimp only;omega,by dsimp only;omega,by dsimp only;omega,ab⟩ (by dsimp only;omega)
 rw [if_neg (by rw [bt];decide)] at hR;have pK:(s.drop q).getD 0 0≠32:=λh=>by rw [h] at bt;exact absurd bt (by decide)
 by_cases oq:(s.drop q).getD 0 0=35
 . rw [if_pos oq] at hR
   have yK:=Zoa oq;have oe:nlM (s.drop q)<=(s.drop q).length:=Z9x _ _ _ _;have xC:(s.drop q).length=s.length - q:=by simp
   rw [oq];have ot:(((35:UInt8).toNat:Nat):Int)=35:=rfl;rw [ot];refine QO ?_;refine CL (Z6s Z86 Zt5 (s.drop q) _ gg) ?_;rintro _ w3 ⟨rfl,hT⟩;replace ab:=ab.up hT;have sG:JV (s.drop q) Z86 (s.drop q).length 0=nlM (s.drop q):=rfl;rw [sG];refine QO ?_
   repeat (first|refine Z05 ?_|refine W1 ?_)
   exact Zx (f,q+nlM (s.drop q),l,lv) ⟨rfl,rfl,rfl,trivial⟩ ⟨hR,by dsimp only;omega,by dsimp only;omega,by dsimp only;omega,ab⟩ (by dsimp only;omega)
 rw [if_neg oq] at hR;have xD:¬ ((((s.drop q).getD 0 0).toNat:Nat):Int)=35:=λh=>oq (by
  have ot:(35:UInt8).toNat=35:=rfl;exact UInt8.toNat_inj.1 (by omega))
 refine QO ?_;refine CL (Z87 ((s.drop q).getD 0 0).toNat _) ?_;rintro _ wv ⟨rfl,js⟩;subst wv;have oM:ZaE ((s.drop q).getD 0 0).toNat=ZfX ((s.drop q).getD 0 0):=rfl;rw [oM];cases jP:ZfX ((s.drop q).getD 0 0)
 rotate_left
 . have fb:Z1b (s.drop q)=Z5C (s.drop q):=by unfold Z1b;simp only [jP,if_true]
   refine QO ?_;cases hr:Z1b (s.drop q) with
   | err e=>
     rw [hr] at hR;subst hR;have he:=Z2T hr;refine CL (Zab (s.drop q) _ gg) ?_;rintro _ w4 ⟨rfl,hT⟩;rw [<- fb,hr];simp only [lxV];refine QO ?_;refine Z0 Z2 rfl ?_;rintro _ w5 ⟨b10,rfl,dL,e10,ar⟩;refine SA (us:=Z3.enc (⟨0,0,[],0⟩:Tkn)) e10 ?_;rintro _ w6 ⟨cE,e10'⟩;have lK:=(ab.2.trans hT).trans (ar.ow cE);refine QO ?_
     repeat (first|refine JW ?_|refine W1 ?_)
     refine RU ?_;exact ⟨rfl,lK⟩
   | ok t=>
     rw [hr] at hR;simp only at hR;have dS:=Z3Q aU pK hr;have iR:t.text.length≠0:=λh=>dS.1.text (Xw.1 h);have lL:t.text.length<=s.length - q:=by have:=dS.2.1;simpa using this
     refine CL (Zab (s.drop q) _ gg) ?_;rintro _ w4 ⟨rfl,hT⟩;rw [<- fb,hr];simp only [lxV];replace ab:=ab.up hT;clear hT;refine QO ?_;refine Z0 Z2 rfl ?_;rintro _ w5 ⟨b10,rfl,dL,e10,hT⟩;refine SA (us:=Z3.enc t) e10 ?_;rintro _ w6 ⟨ar,e10'⟩;have ja:=hT.ow ar;have eR:b10∉ob lv:=λh=>by have:=(ab.ob_le b10 h).2;omega
     clear hT ar e10;refine QO ?_;refine Z6 (Zb (u:=.I (q:Int)) rfl rfl rfl rfl e10' (by simp [Z3.enc])) ?_;rintro _ w7 ⟨hT,e11⟩;replace e11:Blk w7 b10 183 (Z3.enc ({ t with pos:=(q:Int) }:Tkn)):=e11;replace ab:ZI 183 w w7 lv l:=ab.up (ja.ow hT);clear hT e10';refine QO ?_;refine Z0 (Z1 (vs:=[(0,.agg (Z3.enc ({ t with pos:=(q:Int) }:Tkn)).toArray)]) rfl (Z4d _)) rfl ?_;intro bv w8 hN;have aq:SlV (ob lv) w8 bv [({ t with pos:=(q:Int) }:Tkn)]:=hN.slv (λb hb=>(ab.ob_le b hb).2) rfl rfl (by simp [maxLen]);replace ab:=ab.up (Z9.stp hN);replace e11:=e11.up (Z9.stp hN);clear hN;refine Z0 (JD rfl (by decide) rfl rfl ab aq (by simp only [Xe,Xg];omega) (by simp only [Xe,Xg,maxLen];omega)) rfl ?_;rintro lv' w9 ⟨aC,hT,cb⟩;replace e11:=e11.ext hT eR;clear hT;have lm:({ t with pos:=(q:Int) }:Tkn).text.length=t.text.length:=rfl;refine QO ?_
     repeat (first|refine Z05 ?_|refine W1 ?_)
     exact Zx (f,q+t.text.length,l++[{ t with pos:=(q:Int) }],lv') ⟨rfl,rfl,rfl,trivial⟩ ⟨hR,by dsimp only;omega,by dsimp only;omega,by simp;omega,aC⟩ (by dsimp only;omega)
 refine QO ?_;refine CL (Z4q ((s.drop q).getD 0 0).toNat _) ?_;rintro _ wv ⟨rfl,js⟩;subst wv;have xE:Z6r ((s.drop q).getD 0 0).toNat=J9 ((s.drop q).getD 0 0):=rfl;rw [xE];cases iY:J9 ((s.drop q).getD 0 0)
 rotate_left
 . have fb:Z1b (s.drop q)=Z4p (s.drop q):=by unfold Z1b;simp only [jP,iY,if_true,XS,if_false]
   refine QO ?_;cases hr:Z1b (s.drop q) with
   | err e=>
     rw [hr] at hR;subst hR;have he:=Z2T hr;refine CL (Z7k (s.drop q) ev _ gg iY aU jO bF) ?_;rintro _ w4 ⟨rfl,hT⟩;rw [<- fb,hr];simp only [lxV];refine QO ?_;refine Z0 Z2 rfl ?_;rintro _ w5 ⟨b10,rfl,dL,e10,ar⟩;refine SA (us:=Z3.enc (⟨0,0,[],0⟩:Tkn)) e10 ?_;rintro _ w6 ⟨cE,e10'⟩;have lK:=(ab.2.trans hT).trans (ar.ow cE);refine QO ?_
     repeat (first|refine JW ?_|refine W1 ?_)
     refine RU ?_;exact ⟨rfl,lK⟩
   | ok t=>
     rw [hr] at hR;simp only at hR;have dS:=Z3Q aU pK hr;have iR:t.text.length≠0:=λh=>dS.1.text (Xw.1 h);have lL:t.text.length<=s.length - q:=by have:=dS.2.1;simpa using this
     refine CL (Z7k (s.drop q) ev _ gg iY aU jO bF) ?_;rintro _ w4 ⟨rfl,hT⟩;rw [<- fb,hr];simp only [lxV];replace ab:=ab.up hT;clear hT;refine QO ?_;refine Z0 Z2 rfl ?_;rintro _ w5 ⟨b10,rfl,dL,e10,hT⟩;refine SA (us:=Z3.enc t) e10 ?_;rintro _ w6 ⟨ar,e10'⟩;have ja:=hT.ow ar;have eR:b10∉ob lv:=λh=>by have:=(ab.ob_le b10 h).2;omega
     clear hT ar e10;refine QO ?_;refine Z6 (Zb (u:=.I (q:Int)) rfl rfl rfl rfl e10' (by simp [Z3.enc])) ?_;rintro _ w7 ⟨hT,e11⟩;replace e11:Blk w7 b10 183 (Z3.enc ({ t with pos:=(q:Int) }:Tkn)):=e11;replace ab:ZI 183 w w7 lv l:=ab.up (ja.ow hT);clear hT e10';refine QO ?_;refine Z0 (Z1 (vs:=[(0,.agg (Z3.enc ({ t with pos:=(q:Int) }:Tkn)).toArray)]) rfl (Z4d _)) rfl ?_;intro bv w8 hN;have aq:SlV (ob lv) w8 bv [({ t with pos:=(q:Int) }:Tkn)]:=hN.slv (λb hb=>(ab.ob_le b hb).2) rfl rfl (by simp [maxLen]);replace ab:=ab.up (Z9.stp hN);replace e11:=e11.up (Z9.stp hN);clear hN;refine Z0 (JD rfl (by decide) rfl rfl ab aq (by simp only [Xe,Xg];omega) (by simp only [Xe,Xg,maxLen];omega)) rfl ?_;rintro lv' w9 ⟨aC,hT,cb⟩;replace e11:=e11.ext hT eR;clear hT;have lm:({ t with pos:=(q:Int) }:Tkn).text.length=t.text.length:=rfl;refine QO ?_
     repeat (first|refine Z05 ?_|refine W1 ?_)
     exact Zx (f,q+t.text.length,l++[{ t with pos:=(q:Int) }],lv') ⟨rfl,rfl,rfl,trivial⟩ ⟨hR,by dsimp only;omega,by dsimp only;omega,by simp;omega,aC⟩ (by dsimp only;omega)
 by_cases j9:(s.drop q).getD 0 0=64
 . have fb:Z1b (s.drop q)=ZaD (s.drop q):=by
    unfold Z1b;simp only [jP,iY,XS,if_false];rw [if_pos j9]
   rw [j9];have ou:(((64:UInt8).toNat:Nat):Int)=64:=rfl;rw [ou];refine QO ?_;cases hr:Z1b (s.drop q) with
   | err e=>
     rw [hr] at hR;subst hR;have he:=Z2T hr;refine CL (Zfx (s.drop q) _ jN gg) ?_;rintro _ w4 ⟨rfl,hT⟩;rw [<- fb,hr];simp only [lxV];refine QO ?_;refine Z0 Z2 rfl ?_;rintro _ w5 ⟨b10,rfl,dL,e10,ar⟩;refine SA (us:=Z3.enc (⟨0,0,[],0⟩:Tkn)) e10 ?_;rintro _ w6 ⟨cE,e10'⟩;have lK:=(ab.2.trans hT).trans (ar.ow cE);refine QO ?_
     repeat (first|refine JW ?_|refine W1 ?_)
     refine RU ?_;exact ⟨rfl,lK⟩
   | ok t=>
     rw [hr] at hR;simp only at hR;have dS:=Z3Q aU pK hr;have iR:t.text.length≠0:=λh=>dS.1.text (Xw.1 h);have lL:t.text.length<=s.length - q:=by have:=dS.2.1;simpa using this
     refine CL (Zfx (s.drop q) _ jN gg) ?_;rintro _ w4 ⟨rfl,hT⟩;rw [<- fb,hr];simp only [lxV];replace ab:=ab.up hT;clear hT;refine QO ?_;refine Z0 Z2 rfl ?_;rintro _ w5 ⟨b10,rfl,dL,e10,hT⟩;refine SA (us:=Z3.enc t) e10 ?_;rintro _ w6 ⟨ar,e10'⟩;have ja:=hT.ow ar;have eR:b10∉ob lv:=λh=>by have:=(ab.ob_le b10 h).2;omega
     clear hT ar e10;refine QO ?_;refine Z6 (Zb (u:=.I (q:Int)) rfl rfl rfl rfl e10' (by simp [Z3.enc])) ?_;rintro _ w7 ⟨hT,e11⟩;replace e11:Blk w7 b10 183 (Z3.enc ({ t with pos:=(q:Int) }:Tkn)):=e11;replace ab:ZI 183 w w7 lv l:=ab.up (ja.ow hT);clear hT e10';refine QO ?_;refine Z0 (Z1 (vs:=[(0,.agg (Z3.enc ({ t with pos:=(q:Int) }:Tkn)).toArray)]) rfl (Z4d _)) rfl ?_;intro bv w8 hN;have aq:SlV (ob lv) w8 bv [({ t with pos:=(q:Int) }:Tkn)]:=hN.slv (λb hb=>(ab.ob_le b hb).2) rfl rfl (by simp [maxLen]);replace ab:=ab.up (Z9.stp hN);replace e11:=e11.up (Z9.stp hN);clear hN;refine Z0 (JD rfl (by decide) rfl rfl ab aq (by simp only [Xe,Xg];omega) (by simp only [Xe,Xg,maxLen];omega)) rfl ?_;rintro lv' w9 ⟨aC,hT,cb⟩;replace e11:=e11.ext hT eR;clear hT;have lm:({ t with pos:=(q:Int) }:Tkn).text.length=t.text.length:=rfl;refine QO ?_
     repeat (first|refine Z05 ?_|refine W1 ?_)
     exact Zx (f,q+t.text.length,l++[{ t with pos:=(q:Int) }],lv') ⟨rfl,rfl,rfl,trivial⟩ ⟨hR,by dsimp only;omega,by dsimp only;omega,by simp;omega,aC⟩ (by dsimp only;omega)
 have fb:Z1b (s.drop q)=Z0b (s.drop q):=by
  unfold Z1b;simp only [jP,iY,XS,if_false];rw [if_neg j9]
 have xF:¬ ((((s.drop q).getD 0 0).toNat:Nat):Int)=64:=λh=>j9 (by
  have ou:(64:UInt8).toNat=64:=rfl;exact UInt8.toNat_inj.1 (by omega))
 refine QO ?_;cases hr:Z1b (s.drop q) with
 | err e=>
   rw [hr] at hR;subst hR;have he:=Z2T hr;refine CL (Z8X (s.drop q) _ aU) ?_;rintro _ w4 ⟨rfl,hT⟩;rw [<- fb,hr];simp only [lxV];refine QO ?_;refine Z0 Z2 rfl ?_;rintro _ w5 ⟨b10,rfl,dL,e10,ar⟩;refine SA (us:=Z3.enc (⟨0,0,[],0⟩:Tkn)) e10 ?_;rintro _ w6 ⟨cE,e10'⟩;have lK:=(ab.2.trans hT).trans (ar.ow cE);refine QO ?_
   repeat (first|refine JW ?_|refine W1 ?_)
   refine RU ?_;exact ⟨rfl,lK⟩
 | ok t=>
   rw [hr] at hR;simp only at hR;have dS:=Z3Q aU pK hr;have iR:t.text.length≠0:=λh=>dS.1.text (Xw.1 h);have lL:t.text.length<=s.length - q:=by have:=dS.2.1;simpa using this
   refine CL (Z8X (s.drop q) _ aU) ?_;rintro _ w4 ⟨rfl,hT⟩;rw [<- fb,hr];simp only [lxV];replace ab:=ab.up hT;clear hT;refine QO ?_;refine Z0 Z2 rfl ?_;rintro _ w5 ⟨b10,rfl,dL,e10,hT⟩;refine SA (us:=Z3.enc t) e10 ?_;rintro _ w6 ⟨ar,e10'⟩;have ja:=hT.ow ar;have eR:b10∉ob lv:=λh=>by have:=(ab.ob_le b10 h).2;omega
   clear hT ar e10;refine QO ?_;refine Z6 (Zb (u:=.I (q:Int)) rfl rfl rfl rfl e10' (by simp [Z3.enc])) ?_;rintro _ w7 ⟨hT,e11⟩;replace e11:Blk w7 b10 183 (Z3.enc ({ t with pos:=(q:Int) }:Tkn)):=e11;replace ab:ZI 183 w w7 lv l:=ab.up (ja.ow hT);clear hT e10';refine QO ?_;refine Z0 (Z1 (vs:=[(0,.agg (Z3.enc ({ t with pos:=(q:Int) }:Tkn)).toArray)]) rfl (Z4d _)) rfl ?_;intro bv w8 hN;have aq:SlV (ob lv) w8 bv [({ t with pos:=(q:Int) }:Tkn)]:=hN.slv (λb hb=>(ab.ob_le b hb).2) rfl rfl (by simp [maxLen]);replace ab:=ab.up (Z9.stp hN);replace e11:=e11.up (Z9.stp hN);clear hN;refine Z0 (JD rfl (by decide) rfl rfl ab aq (by simp only [Xe,Xg];omega) (by simp only [Xe,Xg,maxLen];omega)) rfl ?_;rintro lv' w9 ⟨aC,hT,cb⟩;replace e11:=e11.ext hT eR;clear hT;have lm:({ t with pos:=(q:Int) }:Tkn).text.length=t.text.length:=rfl;refine QO ?_
   repeat (first|refine Z05 ?_|refine W1 ?_)
   exact Zx (f,q+t.text.length,l++[{ t with pos:=(q:Int) }],lv') ⟨rfl,rfl,rfl,trivial⟩ ⟨hR,by dsimp only;omega,by dsimp only;omega,by simp;omega,aC⟩ (by dsimp only;omega)
end Go.Proofs.YtipfkbkkndacjaaGreatDoor
namespace Go.Eng
open Go Go.RowKit Go.Proofs
theorem Z2x {nl:Str->Nat} {s:Str}:∀ (f at_:Nat) (l:List Tkn) (a c:Int),Z0v nl s f at_ l=.err a c->c≠0
 | 0,at_,l,a,c,h=>by simp [Z0v] at h
 | f + 1, at_, l, a, c, h => by
   simp only [Z0v] at h;split at h;split at h;exact Z2x f _ _ _ _ h;split at h;exact Z2x f _ _ _ _ h
   . cases hr:Z1b (s.drop at_) with
     | err e=>
       rw [hr] at h;simp only [Tks.err.injEq] at h;obtain ⟨_,rfl⟩:=h;exact Z2T hr
     | ok t=>
       rw [hr] at h;exact Z2x f _ _ _ _ h
   simp at h
theorem Zda {s:Str} {a c:Int} (h:Z0w s=.err a c):c≠0:=by
 unfold Z0w at h;split at h;simp only [Tks.err.injEq] at h;omega;exact Z2x _ _ _ _ _ h
theorem Zbn {s:Str} {l:List Tkn} (h:Z0w s=.ok l) (cr:∀ t∈l,t.text∉Z95):Z3P l/\∃ l1 p,l=l1++[⟨0,p,[],0⟩]/\∀ t∈l1,Zjj t:=by
 unfold Z0w at h;split at h;cases h;rename_i hl;obtain ⟨l1,p,rfl,h1,h2,h3⟩:=Z3a (nl:=nlM) (s:=s) (by omega) (s.length+1) 0 [] l (by simp) (by simp) (by simp) (by simp) h;exact ⟨ZmW h1 h2 (by omega) (λt ht=>cr t (by simp [ht])),l1,p,rfl,h1⟩
theorem Z8Y {l:List Tkn}:∀ (f:Nat) (rs:List RuleM) (i o:Nat) (rs':List RuleM) (i' o':Nat),Z2B l f rs i o=.ok rs' i' o'->l.length<=i+f->i'<l.length->(cur l i').kind=0
 | 0,rs,i,o,rs',i',o',h,h1,h2=>by simp only [Z2B,Out.ok.injEq] at h;omega
 | f + 1, rs, i, o, rs', i', o', h, h1, h2 => by
   simp only [Z2B] at h;split at h;rename_i hk;simp only [Out.ok.injEq] at h;obtain ⟨_,rfl,_⟩:=h;exact hk;obtain ⟨r,i1,o1,h3,h4⟩:=Z0d h;have:=ZcX h3;exact Z8Y f _ _ _ _ _ _ h4 (by omega) h2
end Go.Eng
namespace Go.Proofs.YtipfkbkkndacjaaGreatDoor
open Go Go.Eng Go.RowKit Go.Proofs
theorem Zob (a c:Int) (w):(Instr.typeAssert (Z4W a c) 20 235 true).run Tryz.prog w=.ok (.tuple #[.agg #[.I a,.I c],.B true]) w:=by kernel_rfl
theorem Zoc (w):(Instr.typeAssert .nilIface 20 235 true).run Tryz.prog w=.ok (.tuple #[.agg #[.I 0,.I 0],.B false]) w:=by kernel_rfl
theorem Zez (a c:Int) (b7 b4 b5 b6:Nat) (z7 v4 v5 v6:Value) (w) (e7:Blk w b7 90 [z7]) (e4:Blk w b4 90 [v4]) (e5:Blk w b5 3 [v5]) (e6:Blk w b6 92 [v6])
 (hz:z7.cells.toList=[z7]) (fR:z7.oneCell'=true) (n74:b7≠b4) (n75:b7≠b5) (n76:b7≠b6) (n45:b4≠b5) (n46:b4≠b6) (n56:b5≠b6) :
 CallsD Tryz.prog 158 #[pQ b7,pQ b4,pQ b5,pQ b6] (.panicking [⟨Z4W a c,false,false⟩]) w
  (λe u' w'=>∃ v,e=.returned v/\(u'=.panicking [⟨Z4W a c,true,false⟩]/\Blk w' b4 90 [z7]/\Blk w' b5 3 [.I a]/\Blk w' b6 92 [.I c]/\Stp [b4,b5,b6] w w')):=by
 refine callsD_of_wpS Tryz.func158 rfl λgY cs hu=>?_;apply wpS_seq;apply wpS_region;simp [wpOpsS,go_sem,recoverD,hu,Tryz.ntmps158,Exit.thenS];refine Za4 (n:=22) (e:=[(0,pQ b7),(1,pQ b4),(2,pQ b5),(3,pQ b6),(4,Z4W a c)]) (Has.of rfl (by simp) (by
  intro p hp;simp only [Xb,Xj,or_false] at hp;rcases hp with rfl|rfl|rfl|rfl|rfl<;>kernel_rfl)) ?_
 refine W ?_;refine Z8 (Z52 rfl (Zob a c)) rfl ?_;refine W ?_;refine Z0 Z2 rfl ?_;rintro _ w1 ⟨bf,rfl,xG,ef,hT⟩;refine SB (us:=[.I a,.I c]) (by intro u hu;simp at hu;rcases hu with rfl|rfl<;>rfl) ef ?_;rintro _ w2 ⟨ar,ef'⟩;have nf7:=e7.lt;have nf4:=e4.lt;have nf5:=e5.lt;have nf6:=e6.lt;have hS:=hT.ow ar;clear hT ar ef;replace e7:=e7.up hS;replace e4:=e4.up hS;replace e5:=e5.up hS;replace e6:=e6.up hS;refine W ?_;refine ZDr 8 ([b4,b5,b6]) [] [(0,1),(1,0),(2,1),(3,0),(4,1),(5,2),(6,2),(7,2)] (λw1 ae=>?_);replace e7:=e7.up ae;replace e4:=e4.up ae;replace e5:=e5.up ae;replace e6:=e6.up ae;replace ef':=ef'.up ae;replace hS:=hS.trans ae;clear ae;have m7:b7∉[b4,b5,b6]:=by simp;exact ⟨n74,n75,n76⟩
 have mf:bf∉[b4,b5,b6]:=by simp;omega
 refine Z0n rfl trivial rfl rfl e7 m7 rfl rfl ?_;refine Z5s rfl trivial rfl rfl ?_;refine Z0n rfl trivial rfl rfl ef' mf rfl rfl ?_;refine Z5s rfl trivial rfl rfl ?_;refine Z0n rfl trivial rfl rfl ef' mf rfl rfl ?_;refine Z0s rfl trivial (Zj (us:=[z7]) rfl rfl hz rfl (by simpa using fR) e4 rfl) (λ_ _ h=>h.1.mn) ?_;rintro _ w3 ⟨hT,e4'⟩;replace e5:=e5.ext hT (by simpa using n45.symm);replace e6:=e6.ext hT (by simpa using n46.symm);replace hS:=(hS.mono (S':=[b4,b5,b6]) (by simp)).trans hT.mn;clear hT;refine Z0s rfl trivial (Zj (us:=[.I a]) rfl rfl rfl rfl (by simp;rfl) e5 rfl) (λ_ _ h=>h.1.mn) ?_;rintro _ w4 ⟨hT,e5'⟩;replace e4':=e4'.ext hT (by simpa using n45);replace e6:=e6.ext hT (by simpa using n56.symm);replace hS:=hS.trans hT.mn;clear hT;refine Z0s rfl trivial (Zj (us:=[.I c]) rfl rfl rfl rfl (by simp;rfl) e6 rfl) (λ_ _ h=>h.1.mn) ?_;rintro _ w5 ⟨hT,e6'⟩;replace e4':=e4'.ext hT (by simpa using n46);replace e5':=e5'.ext hT (by simpa using n56);replace hS:=hS.trans hT.mn;refine Z55 ?_;refine W ?_;first|refine Zag rfl ?_|refine Zah rfl ?_
 exact ⟨⟨_,rfl⟩,rfl,e4',e5',e6',hS⟩
theorem ZeA (b7 b4 b5 b6:Nat) (w) :
 CallsD Tryz.prog 158 #[pQ b7,pQ b4,pQ b5,pQ b6] .returning w
  (λe u' w'=>∃ v,e=.returned v/\(u'=.returning/\Stp [] w w')):=by
 refine callsD_of_wpS Tryz.func158 rfl λgY cs hu=>?_;have hc:gY={ gY with mode:=.returning }:=by rw [<- hu]
 apply wpS_seq;apply wpS_region;simp [wpOpsS,go_sem,recoverD,hu,Tryz.ntmps158,Exit.thenS];rw [hc];refine Za4 (n:=22) (e:=[(0,pQ b7),(1,pQ b4),(2,pQ b5),(3,pQ b6),(4,.nilIface)]) (Has.of rfl (by simp) (by
  intro p hp;simp only [Xb,Xj,or_false] at hp;rcases hp with rfl|rfl|rfl|rfl|rfl<;>kernel_rfl)) ?_
 refine W ?_;refine Z8 (Z52 rfl Zoc) rfl ?_;refine W ?_;refine Z0 Z2 rfl ?_;rintro _ w1 ⟨bf,rfl,xG,ef,hT⟩;refine SB (us:=[.I 0,.I 0]) (by intro u hu;simp at hu;rcases hu with rfl|rfl<;>rfl) ef ?_;rintro _ w2 ⟨ar,ef'⟩;have hS:=hT.ow ar;refine W ?_;refine ZoL ⟨_,rfl⟩ rfl rfl ?_;refine W ?_;first|refine Zag rfl ?_|refine Zah rfl ?_
 exact ⟨⟨_,rfl⟩,rfl,hS⟩
def PsV (X:List Nat) (w':World) (r:Value):Ps->Prop
 | .err a c=>r=.tuple #[.N,.I a,.I c]
 | .ok rs=>∃ rv,r=.tuple #[rv,.I 0,.I 0]/\SlV X w' rv (rs.map RuleM.rul)
theorem Z4e {w w':World} {b T:Nat} {cs:List Value} (hS:Stp [b] w w') (h:Blk w b T cs) (h':Blk w' b T cs):Stp [] w w':=
 ⟨hS.os, hS.tape, hS.output, hS.size, λk hk _ => by
   by_cases hb:k=b;subst hb;rw [h,h'];exact hS.block k hk (by simpa using hb)⟩
theorem Zod (p:Option Addr) (l c:Nat) (w):(Instr.build 186 #[(0,.slice p l c)]).run Tryz.prog w=.ok (.agg #[.slice p l c,.I 0,.I 0]) w:=by kernel_rfl
theorem Zhd (X:List Nat) (s:Str) (er:Value) (m:Int) (w:World) (hX:∀ c∈X,c<w.heap.size) (cS:Z0x w) (hm:w.cell? ⟨2,0,none⟩=some (.I m)) (eF:w.cell? ⟨8,0,none⟩=some er) (bF:er=.nilIface\/∃ te pe,er=.iface te pe) (hl:s.length<=1000000) (cr:∀ l,Z0w s=.ok l->∀ t∈l,t.text∉Z95) :
 CC 89 #[str s,.func (.func 90) #[] #[]] w λr w'=>PsV X w' r (Z3c s)/\Stp [] w w':=by
 have yL:2<w.heap.size:=by have:=block_lt_of_cell hm;simpa using this
 refine Z9e (n:=43) Tryz.func89 rfl rfl rfl ?_;refine W ?_;refine Z0 Z2 rfl ?_;rintro _ w1 ⟨b4,rfl,bE,e4,hS⟩;refine W ?_;refine Z0 Z2 rfl ?_;rintro _ w2 ⟨b5,rfl,jt,e5,hT⟩;have n45:b4≠b5:=by have:=e4.lt;omega
 have g5:w.heap.size<=b5:=Xh hS.size jt;replace e4:=e4.up hT;replace hS:=hS.trans hT;refine W ?_;refine Z0 Z2 rfl ?_;rintro _ w3 ⟨b6,rfl,eh,e6,hT⟩;have n46:b4≠b6:=by have:=e4.lt;omega
 have n56:b5≠b6:=by have:=e5.lt;omega
 have g6:w.heap.size<=b6:=Xh hS.size eh;replace e4:=e4.up hT;replace e5:=e5.up hT;replace hS:=hS.trans hT;refine W ?_;refine Z0 Z2 rfl ?_;rintro _ w4 ⟨b7,rfl,fk,e7,hT⟩;have n74:b7≠b4:=by have:=e4.lt;omega
 have n75:b7≠b5:=by have:=e5.lt;omega
 have n76:b7≠b6:=by have:=e6.lt;omega
 replace e4:=e4.up hT;replace e5:=e5.up hT;replace e6:=e6.up hT;replace hS:=hS.trans hT;clear hT;have g4:w.heap.size<=b4:=bE;have sH:∀ c∈[b4,b5,b6,b7],c<w4.heap.size:=λc hc=>by
  simp only [Xb,Xj,or_false] at hc;rcases hc with rfl|rfl|rfl|rfl
  exact e4.lt;exact e5.lt;exact e6.lt;exact e7.lt
 refine W ?_;refine CM (ZR rfl) (Zey s er _ (cS.up hS) (hS.cell (by simp) eF) bF hl) ?_;rintro r w5 ⟨hr,hT⟩;replace e4:=e4.up hT;replace e5:=e5.up hT;replace e6:=e6.up hT;replace e7:=e7.up hT;have yM:=hS;replace hS:=hS.trans hT;clear hT;have own3:∀ {S:List Nat},(∀ c∈S,c=b4\/c=b5\/c=b6)->∀ c∈S,c∈([]:List Nat)\/w.heap.size<=c:=λh c hc=>by
  rcases h c hc with rfl|rfl|rfl
  exact .inr g4;exact .inr g5;exact .inr g6
 cases hK:Z0w s with
 | err a c=>
   rw [hK] at hr;have bN:r=.tuple #[.N,.I a,.I c]:=hr;subst bN;have gI:=Zda hK;refine W ?_;refine SB (us:=[.I a]) (by simp;rfl) e5 ?_;rintro _ w6 ⟨hT,e5'⟩;replace e4:=e4.ext hT (by simpa using n45);replace e6:=e6.ext hT (by simpa using n56.symm);replace e7:=e7.ext hT (by simpa using n75);replace hS:=hS.own hT (own3 (by simp));refine W ?_;refine SB (us:=[.I c]) (by simp;rfl) e6 ?_;rintro _ w7 ⟨ar,e6'⟩;replace e4:=e4.ext ar (by simpa using n46);replace e5':=e5'.ext ar (by simpa using n56);replace e7:=e7.ext ar (by simpa using n76);replace hS:=hS.own ar (own3 (by simp));clear hT ar e5 e6;refine QO ?_;refine ZDr 6 ([b4]) [] [(0,1),(1,1),(2,1),(3,2),(4,2),(5,2)] (λw8 ae=>?_);replace e7:=e7.up ae;replace e4:=e4.up ae;replace e5':=e5'.up ae;replace e6':=e6'.up ae;replace hS:=hS.trans ae;clear ae;refine Z0n rfl trivial rfl rfl e7 (by simpa using n74) rfl rfl ?_;refine Z0n rfl trivial rfl rfl e5' (by simpa using n45.symm) rfl rfl ?_;refine Z0n rfl trivial rfl rfl e6' (by simpa using n46.symm) rfl rfl ?_;refine Z0s rfl trivial (Zj (us:=[.N]) rfl rfl rfl rfl (by simp;rfl) e4 rfl) (λ_ _ h=>h.1) ?_;rintro _ w9 ⟨hT,e4'⟩;replace e5':=e5'.ext hT (by simpa using n45.symm);replace e6':=e6'.ext hT (by simpa using n46.symm);replace hS:=hS.own hT (own3 (by simp));clear hT e4 e7;refine Z0s (G:=λ_ w'=>Stp [] w9 w') rfl trivial ((Zj (us:=[.I a]) rfl rfl rfl rfl (by simp;rfl) e5' rfl).mono (λ_ _ h=>Z4e h.1 e5' h.2)) (λ_ _ h=>h.mn) ?_;intro _ w10 hT;replace e4':=e4'.up hT;replace e5':=e5'.up hT;replace e6':=e6'.up hT;replace hS:=hS.trans hT;clear hT;refine Z0s (G:=λ_ w'=>Stp [] w10 w') rfl trivial ((Zj (us:=[.I c]) rfl rfl rfl rfl (by simp;rfl) e6' rfl).mono (λ_ _ h=>Z4e h.1 e6' h.2)) (λ_ _ h=>h.mn) ?_;intro _ w11 hT;replace e4':=e4'.up hT;replace e5':=e5'.up hT;replace e6':=e6'.up hT;replace hS:=hS.trans hT;clear hT;refine Z55 ?_;refine W ?_;refine ⟨λact ha=>?_⟩;show Leaves _ _ act.tmps _ act.defers .returning _;rw [ha.defers];refine ⟨_,Z6N rfl rfl rfl rfl (ha.vals 4 _ rfl) (ha.vals 5 _ rfl) (ha.vals 6 _ rfl) e4' e5' e6',?_⟩;refine .mk ⟨?_,hS⟩;unfold Z3c;rw [hK];rfl
 | ok l=>
   rw [hK] at hr;obtain ⟨tv,rfl,ab⟩:∃ tv,r=.tuple #[tv,.I 0,.I 0]/\ZI 183 w4 w5 tv l:=hr;obtain ⟨hL,-⟩:=Zbn hK (cr _ hK);have ce:SlV (α:=Tkn) [b4,b5,b6,b7] w5 tv l:=ab.slv sH;have gB:=hL.pos;have j6:l.length<=1000000:=by have:=hL.len;omega
   refine W ?_;refine SB (us:=[.I 0]) (by simp;rfl) e5 ?_;rintro _ w6 ⟨hT,e5'⟩;replace e4:=e4.ext hT (by simpa using n45);replace e6:=e6.ext hT (by simpa using n56.symm);replace e7:=e7.ext hT (by simpa using n75);replace ce:=ce.ext (X':=[b4,b5,b6,b7]) hT (by simp) (λ_ h=>.inl h);replace hS:=hS.own hT (own3 (by simp));refine W ?_;refine SB (us:=[.I 0]) (by simp;rfl) e6 ?_;rintro _ w7 ⟨ar,e6'⟩;replace e4:=e4.ext ar (by simpa using n46);replace e5':=e5'.ext ar (by simpa using n56);replace e7:=e7.ext ar (by simpa using n76);replace ce:=ce.ext (X':=[b4,b5,b6,b7]) ar (by simp) (λ_ h=>.inl h);replace hS:=hS.own ar (own3 (by simp));clear hT ar e5 e6;refine QO ?_;refine Z8 (Zbh rfl rfl rfl rfl) rfl ?_;refine ZkJ rfl ?_;refine Z4A (Z5m ?_);refine W ?_;obtain ⟨tp,tc,ux⟩:=ce.len;refine Z8 (JC (vs:=[(0,tv)]) rfl (by rw [ux];exact λw=>Zod _ _ _ w)) rfl ?_;refine Z0 (Zr rfl) rfl ?_;rintro _ w8 ⟨bp,rfl,uy,ep,hT⟩;have l4:=e4.lt;have l5:=e5'.lt;have l6:=e6'.lt;have l7:=e7.lt;have oL:∀ c∈bp :: b4 :: b5 :: b6 :: b7 :: X,c<w8.heap.size:=λc hc=>by
    have h8:=hT.size;have hp:=ep.lt;have h0:=hS.size;simp only [Xb] at hc;rcases hc with rfl|rfl|rfl|rfl|rfl|hc
    exact hp;omega;omega;omega;omega;have:=hX c hc;omega
   have xH:Pd w8 bp tv l 0 0:=⟨by rw [ux];exact ep,ce.ext hT (by simp) (λc hc=>by simp at hc;subst hc;exact .inr uy),gB,j6,by omega⟩
   replace ce:=ce.ext (X':=[bp,b4,b5,b6,b7]) hT (by simp) (λc hc=>by
    rcases Xb.1 hc with rfl|hc
    exact .inr uy;exact .inl hc)
   replace e4:=e4.up hT;replace e5':=e5'.up hT;replace e6':=e6'.up hT;replace e7:=e7.up hT;replace hS:=hS.trans hT;have gp:w.heap.size<=bp:=by have:=hS.size;omega
   have np4:b4≠bp:=by omega
   have np5:b5≠bp:=by omega
   have np6:b6≠bp:=by omega
   have np7:b7≠bp:=by omega
   clear hT;refine Z8 (Z6f rfl) rfl ?_;refine Z2V ?_;refine Z6F (Z29 ?_);refine Z4A (Z5m ?_);refine Z8 (ZZ rfl) rfl ?_;refine Z8 (ZZ rfl) rfl ?_;have hP:=Zep (bp :: b4 :: b5 :: b6 :: b7 :: X) bp tv l hL m 0 0 (l.length+1) w8 (by omega) (by simp) oL (hS.cell (by simp) hm) xH (by omega);cases hR:Z2B l (l.length+1) [] 0 0 with
   | err a c=>
     rw [hR] at hP;refine Zh0 rfl (ZR rfl) hP rfl ?_;intro w9 hT;replace e4:=e4.ext hT (by simpa using np4);replace e5':=e5'.ext hT (by simpa using np5);replace e6':=e6'.ext hT (by simpa using np6);replace e7:=e7.ext hT (by simpa using np7);replace hS:=hS.ow hT;refine Z6F (Z8A ?_);refine ⟨λact ha=>?_⟩;show Leaves _ _ act.tmps _ (act.defers++_) (.panicking _) _;rw [ha.defers];refine Z8T (f:=158) (by simp) (Zez a c b7 b4 b5 b6 _ _ _ _ w9 e7 e4 e5' e6' rfl rfl n74 n75 n76 n45 n46 n56) ?_;rintro v u' w10 ⟨rfl,e4',e5'',e6'',hT⟩;refine ⟨rfl,_,Z6N rfl rfl rfl rfl (ha.vals 4 _ rfl) (ha.vals 5 _ rfl) (ha.vals 6 _ rfl) e4' e5'' e6'',?_⟩;refine .mk ⟨?_,hS.own hT (own3 (by simp))⟩;unfold Z3c;rw [hK];simp only [hR];rfl
   | ok rs i' o'=>
     rw [hR] at hP;refine CL hP ?_;rintro rv w9 ⟨bD,sI,hT⟩;replace e4:=e4.ext hT (by simpa using np4);replace e5':=e5'.ext hT (by simpa using np5);replace e6':=e6'.ext hT (by simpa using np6);replace e7:=e7.ext hT (by simpa using np7);replace ce:=ce.ext (X':=[bp,b4,b5,b6,b7]) hT (by simp) (λ_ h=>.inl h);replace hS:=hS.ow hT;obtain ⟨ep',-,kN,-,-⟩:=sI;have fp:=Z8Y _ _ _ _ _ _ _ hR (by omega) kN;refine Z6 (Zj (us:=[rv]) rfl rfl bD.cells rfl (by simpa using bD.one) e4 rfl) ?_;rintro _ w10 ⟨hT,e4'⟩;replace ep':=ep'.ext hT (by simpa using np4.symm);replace e5':=e5'.ext hT (by simpa using n45.symm);replace e6':=e6'.ext hT (by simpa using n46.symm);replace ce:=ce.ext (X':=[bp,b4,b5,b6,b7]) hT (by simp) (λ_ h=>.inl h);replace bD:=bD.ext (X':=bp :: b4 :: b5 :: b6 :: b7 :: X) hT (by simp) (λ_ h=>.inl h);replace hS:=hS.own hT (own3 (by simp));clear hT;refine Z2V ?_;refine Z6F (Z29 ?_);refine Z4A (Z4A ?_);refine Z9O 12 [] [] [(0,0),(1,0),(2,0),(3,1),(4,0),(5,0),(6,0),(7,1),(8,0),(9,0),(10,1),(11,0)] rfl mixed (by kernel_rfl) (by kernel_rfl) (by kernel_rfl) (λw1 ae=>?_);replace e4':=e4'.up ae;replace e5':=e5'.up ae;replace e6':=e6'.up ae;replace ep':=ep'.up ae;replace ce:=ce.up ae;replace bD:=bD.up ae;replace hS:=hS.trans ae;clear ae;refine D ?_;refine W ?_;refine Z6F (Z29 ?_);rw [Z6x kN] at fp;refine Z8B (by simp [ev,fp];rfl) (Zk2 (Z29 (Z4A ?_)));refine Z5m ?_;refine Z8 (J1 rfl rfl e4' rfl) rfl ?_;refine Z6 (G:=λ_ w'=>Stp [] w1 w') ((Zj (us:=[rv]) rfl rfl bD.cells rfl (by simpa using bD.one) e4' rfl).mono (λ_ _ h=>Z4e h.1 e4' h.2)) ?_;intro _ w12 hT;replace e4':=e4'.up hT;replace e5':=e5'.up hT;replace e6':=e6'.up hT;replace bD:=bD.up hT;replace hS:=hS.trans hT;clear hT;refine Z6 (G:=λ_ w'=>Stp [] w12 w') ((Zj (us:=[.I 0]) rfl rfl rfl rfl (by simp;rfl) e5' rfl).mono (λ_ _ h=>Z4e h.1 e5' h.2)) ?_;intro _ w13 hT;replace e4':=e4'.up hT;replace e5':=e5'.up hT;replace e6':=e6'.up hT;replace bD:=bD.up hT;replace hS:=hS.trans hT;clear hT;refine Z6 (G:=λ_ w'=>Stp [] w13 w') ((Zj (us:=[.I 0]) rfl rfl rfl rfl (by simp;rfl) e6' rfl).mono (λ_ _ h=>Z4e h.1 e6' h.2)) ?_;intro _ w14 hT;replace e4':=e4'.up hT;replace e5':=e5'.up hT;replace e6':=e6'.up hT;replace bD:=bD.up hT;replace hS:=hS.trans hT;clear hT;refine Z2V ?_;refine Z6F (Z29 (Zf7 ?_));refine ⟨λact ha=>?_⟩;show Leaves _ _ act.tmps _ (act.defers++_) .returning _;rw [ha.defers];refine Z8T (f:=158) (by simp) (ZeA b7 b4 b5 b6 w14) ?_;rintro v u' w15 ⟨rfl,hT⟩;refine ⟨rfl,_,Z6N rfl rfl rfl rfl (ha.vals 4 _ rfl) (ha.vals 5 _ rfl) (ha.vals 6 _ rfl) (e4'.up hT) (e5'.up hT) (e6'.up hT),?_⟩;have hM:Z3c s=.ok rs:=by
      unfold Z3c;rw [hK];simp only [hR]
     rw [hM];exact .mk ⟨⟨rv,rfl,(bD.up hT).ext (Stp.refl [] _) (by simp) (λc hc=>.inl (by simp [hc]))⟩,hS.trans hT⟩
theorem Zhe (X:List Nat) (s:Str) (er:Value) (m:Int) (w:World) (hX:∀ c∈X,c<w.heap.size) (cS:Z0x w) (hm:w.cell? ⟨2,0,none⟩=some (.I m)) (eF:w.cell? ⟨8,0,none⟩=some er) (bF:er=.nilIface\/∃ te pe,er=.iface te pe) (hl:s.length<=1000000) (cr:∀ l,Z0w s=.ok l->∀ t∈l,t.text∉Z95) :
 CC 58 #[str s] w λr w'=>PsV X w' r (Z3c s)/\Stp [] w w':=by
 refine cW1 10 Tryz.func58 ?_;refine W ?_;refine CL (Zhd X s er m w hX cS hm eF bF hl cr) ?_;rintro r w1 ⟨hr,hS⟩;cases hK:Z3c s with
 | err a c=>
   rw [hK] at hr;have bN:r=.tuple #[.N,.I a,.I c]:=hr;subst bN;refine RT ?_;exact ⟨rfl,hS⟩
 | ok rs=>
   rw [hK] at hr;obtain ⟨rv,rfl,bD⟩:=hr;refine RT ?_;exact ⟨⟨rv,rfl,bD⟩,hS⟩
theorem Z8Z (X:List Nat) (s:Str) (rs:List RuleM) (er:Value) (m:Int) (w:World) (hX:∀ b∈X,b<w.heap.size) (hF:SlV [] w Z2e Ze) (cS:Z0x w) (eC:w.cell? ⟨2,0,none⟩=some (.I m)) (eF:w.cell? ⟨8,0,none⟩=some er) (bF:er=.nilIface\/∃ te pe,er=.iface te pe) (hl:s.length<=1000000) (cr:∀ l,Z0w s=.ok l->∀ t∈l,t.text∉Z95)
 (hp:Z3c s=.ok rs) (h4:rs.length<=100) (kX:∀ r∈rs,Z0A r.rul=0/\ZP r.cond<=1000/\ZP r.due<=1000/\Smp r.cond/\Smp r.due) :
 CC 29 #[str s] w λr w'=>∃ v,r=.tuple #[v,.B true]/\SlV X w' v (rs.map (λr=>crF r.rul))/\Stp [] w w':=by
 refine cW1 40 Tryz.func29 ?_;refine W ?_;refine CL (Zhe X s er m w hX cS eC eF bF hl cr) ?_;rintro rv w1 ⟨hr,hS⟩;rw [hp] at hr;obtain ⟨gv,rfl,mz⟩:=hr;have mQ:=mz.max;have pP:(rs.map RuleM.rul).length=rs.length:=Xt ..;have ik:∀ b∈X,b<w1.heap.size:=λb hb=>Xa (hX b hb) hS.size;refine QO ?_;refine LP (σ:=Nat×Value) (λq=>[(0,str s),(4,gv),(7,q.2),(8,.I (q.1:Int))]) (λq W=>q.1<=rs.length/\Row X W w1.heap.size 62 q.2 ((rs.take q.1).map (λr=>crF r.rul))/\Stp [] w1 W) (λq=>rs.length - q.1) (0,.N) ⟨Xq _,Row.nil,Stp.refl _ _⟩ ?_;rintro ⟨j,ov⟩ y1 ⟨hj,ab,hT⟩;dsimp only at hj ab ⊢;have br:=λb hb=>ab.ob_le b hb;have fz:SlV X y1 gv (rs.map RuleM.rul):=mz.up hT;by_cases hlt:j<rs.length;have cx:j<(rs.map RuleM.rul).length:=by omega
 obtain ⟨hG,fR,jC,cm,bq⟩:=kX _ (Xd hlt);have oc:(rs.map RuleM.rul)[j]=rs[j].rul:=by simp
 have fI:(rs.take (j+1)).map (λr=>crF r.rul)=(rs.take j).map (λr=>crF r.rul)++[crF rs[j].rul]:=by
  rw [Xk hlt,XP];rfl
 have ai:((rs.take j).map (λr=>crF r.rul)).length<=100:=by rw [Xt,Xx];omega
 obtain ⟨ka,kb,lF,jE,iQ⟩:=ZjE fz cx;rw [oc] at lF jE;have uz:=hS.trans hT;refine QO ?_;refine Z8 (Z8k rfl rfl fz cx iQ) rfl ?_;rw [oc];refine CM (ZR rfl) (ZjG _ rs[j].rul _ ⟨ka,kb,rfl,lF.wk (by simp),jE.wk (by simp)⟩ cm bq fR jC (hF.up uz) m (uz.cell (by simp) eC)) ?_;rintro _ y2 ⟨cv,rfl,ca,hU⟩;obtain ⟨k1,d1,rfl,bH,cQ⟩:=ca (ob ov++X) (λb hb=>by
  have:=hT.size;rcases Xf.1 hb with h|h
  exact (br b h).2;have:=ik b h;omega)
 clear ca fz lF jE iQ;rw [hG];replace ab:=ab.up hU;replace hT:=hT.trans hU;clear hU;refine W ?_;refine Z0 Z2 rfl ?_;rintro _ y3 ⟨b7,rfl,fk,e7,hU⟩;have bJ:=λb hb=>ab.ob_le b hb;replace ab:=ab.ext (X':=b7 :: X) hU (by simp) (λb hb=>by
  rcases Xb.1 hb with rfl|h
  exact .inr fk;exact .inl h)
 have nb7:∀ b∈b7 :: (ob ov++X),b∈ob ov++X\/y2.heap.size<=b:=λb hb=>by
  rcases Xb.1 hb with rfl|h
  exact .inr fk;exact .inl h
 replace bH:=bH.ext hU (by simp) nb7;replace cQ:=cQ.ext hU (by simp) nb7;have zT:=hT.size;replace hT:=hT.trans hU;clear hU;refine SB (us:=crC (crF rs[j].rul) k1 d1) (Z0k bH cQ) e7 ?_;rintro _ y4 ⟨hU,e7⟩;replace ab:=ab.ext (X':=X) hU (λb hb=>by
  simp only [Xi] at hb;subst hb;exact ⟨by simp,λh=>by have:=(bJ _ h).2;omega⟩) (λb hb=>.inl (XI _ hb))
 replace bH:=bH.ext (X':=ob ov++X) hU (by simp) (λb hb=>.inl (XI _ hb));replace cQ:=cQ.ext (X':=ob ov++X) hU (by simp) (λb hb=>.inl (XI _ hb));replace hT:=hT.ow hU;clear hU;have zT4:=hT.size;refine QO ?_;refine APG (X:=X) (base:=w1.heap.size) (crF rs[j].rul) ab (λb hb=>by have:=ik b hb;omega) (by omega) ⟨k1,d1,rfl,bH,cQ⟩ (Xh (Xo _ (Nat.succ_le_succ ai)) (by decide)) (by simp only [maxLen];omega) λv1 rv' y5 aC hU gX=>?_
 replace hT:=hT.own hU (λb hb=>.inr (bJ b hb).1);refine QO ?_;exact QL (j+1,rv') ⟨hlt,by dsimp only;rw [fI];exact aC,hT⟩ (by dsimp only;omega);obtain rfl:j=rs.length:=by omega
 rw [Xp] at ab;refine RT ?_;exact ⟨ov,rfl,ab.slv ik,hS.trans hT⟩
theorem Zoe (rl:Str) (f:Fct) (p d s:Int) (w):(Instr.build 56 #[(0,str rl),(1,aG f),(2,.I p),(3,.I d),(4,.I s)]).run Tryz.prog w=.ok (.agg (dlC ⟨rl,f,p,d,s,[]⟩ (.N)).toArray) w:=by kernel_rfl
theorem Z7H (a b c:Int) (w):(Instr.build 67 #[(0,.I a),(1,.I b),(2,.I c)]).run Tryz.prog w=.ok (aG (⟨a,b,c⟩:Rsn)) w:=by kernel_rfl
theorem Zof (a:Int) (w):(Instr.build 67 #[(0,.I a)]).run Tryz.prog w=.ok (aG (⟨a,0,0⟩:Rsn)) w:=by kernel_rfl
theorem Zdb (x y:Rsn) (w):(Instr.buildSlice 54 2 #[(0,aG x),(1,aG y)]).run Tryz.prog w=.ok (.slice (some ⟨w.heap.size,0,none⟩) 2 2) (w.alloc (.cells (Z3.enc x++Z3.enc y).toArray 67)):=by kernel_rfl
theorem Z3o (c:Cas) (R:Z0X) (due st:Int) (mv ev:Value) (more:List Rsn) (evs:List Fct) (w) (m:Int) (hF:SlV [] w Z2e Ze) (eC:w.cell? ⟨2,0,none⟩=some (.I m))
 (hv:Z2k w c R) (hs:Z6a c) (ho:Zd9 c) (dB:∀ Y,Stp [] w Y->CC 114 #[.agg (Z06 c.cal R.hv R.lv R.zo R.zs R.hr).toArray] Y λr w'=>r=.I 0/\Stp [] Y w')
 (hd:Z1t c=[Z10 due st more]) (hf:Z1g c=evs) (h0:∃ l,c.fcts=Zq :: l) (mA:SlV [] w mv more) (sJ:SlV [] w ev evs) (bI:more.length<=10) :
 CC 40 #[.agg (Jl c R).toArray,.I due,.I st,mv,ev] w λr w'=>r=.B true/\Stp [] w w':=by
 obtain ⟨l0,cB⟩:=h0;refine cW5 48 Tryz.func40 ?_;refine W ?_;refine BX (Stp.refl [] w) λb5 w1 h5 e5 _ hS=>?_;replace e5:Blk w1 b5 37 (Jl c R):=e5;refine QO ?_;refine CL (Z53 c R _ (hv.up hS) hs) ?_;rintro dv w2 ⟨fb,hT⟩;rw [hd] at fb;have ga:SlV [] w2 dv [Z10 due st more]:=Row.slv (X:=[]) fb (by simp);have jW:0 < [Z10 due st more].length:=by simp
 replace e5:=e5.up hT;replace hS:=hS.trans hT;clear fb hT;refine QO ?_;refine CP hS (Zbm c R _ m (hF.up hS) (hS.cell (by simp) eC) (hv.up hS) ho (λY h=>dB Y (hS.trans h))) λw3 hT hS=>?_
 replace e5:=e5.up hT;replace ga:=ga.up hT;clear hT;refine QO ?_;refine CL (Za8 c R _ (hv.up hS) hs) ?_;rintro fv w4 ku;rw [hf] at ku;have uA:SlV [] w4 fv evs:=ku.slv (by simp);have hT:=ku.2;replace e5:=e5.up hT;replace ga:=ga.up hT;replace hS:=hS.trans hT;clear ku hT;refine QO ?_;refine CP hS (Z9k fv ev evs evs _ uA (sJ.up hS)) λw5 hT hS=>?_;rw [decide_eq_true rfl];replace e5:=e5.up hT;replace ga:=ga.up hT;clear hT uA;have eH:SlV [] w5 R.fv c.fcts:=(hv.up hS).ff;rw [cB] at eH;have dW:0<(Zq :: l0).length:=by simp
 refine QO ?_;refine Z7 rfl (Zoe [114] Zq 2 due st) rfl ?_;refine Z0 Z2 rfl ?_;rintro _ w6 ⟨b,rfl,hb,e6,hT⟩;have zS:=hS.size;have n5:b5≠b:=by have:=e5.lt;omega
 replace e5:=e5.up hT;have jQ:SlV [b] w6 dv [Z10 due st more]:=ga.ext hT (by simp) (λc hc=>.inr (by simp at hc;omega));have lW:SlV [b] w6 mv more:=mA.ext (hS.trans hT) (by simp) (λc hc=>.inr (by simp at hc;omega));replace hS:=hS.trans hT;clear hT ga eH;refine Z6 (Zj (us:=dlC ⟨[114],Zq,2,due,st,[]⟩ (.N)) rfl rfl rfl rfl (λu hu=>by
  simp only [Xb,Xj,or_false] at hu;rcases hu with rfl|rfl|rfl|rfl|rfl|rfl|rfl|rfl|rfl|rfl|rfl<;>rfl) e6 rfl) ?_
 rintro _ w7 ⟨hT,e6⟩;replace e5:=e5.ext hT (by simpa using n5);replace jQ:=jQ.ext (X':=[b]) hT (by simp) (λc hc=>.inl hc);replace lW:=lW.ext (X':=[b]) hT (by simp) (λc hc=>.inl hc);replace hS:=hS.ow hT;clear hT;have l6:=e6.lt;have l57:=e5.lt;refine QO ?_;refine Z7 rfl (Z7H 1 4 739616) rfl ?_;refine W ?_;refine Z7 rfl (Zof 2) rfl ?_;refine Z0 (Z1 rfl (Zdb ⟨1,4,739616⟩ ⟨2,0,0⟩)) rfl ?_;rintro tv w8 hN;have ab:Row [b] w8 w7.heap.size 67 tv [(⟨1,4,739616⟩:Rsn),⟨2,0,0⟩]:=Z26 (X:=[]) (hN.row (Xn _) rfl (by simp) (by simp [maxLen]));have br:=λc hc=>ab.ob_le c hc;have hT:=Z9.stp hN;have jw:SlV (ob tv++[b]) w8 mv more:=lW.ext hT (by simp) (λc hc=>by
  rcases Xf.1 hc with h|h
  exact .inr (br c h).1;exact .inl h)
 replace e5:=e5.up hT;replace e6:=e6.up hT;have ox:SlV (ob tv++[b]) w8 dv [Z10 due st more]:=jQ.ext hT (by simp) (λc hc=>by
  rcases Xf.1 hc with h|h
  exact .inr (br c h).1;exact .inl h)
 have zS7:=hS.size;replace hS:=hS.trans hT;have zT:=hT.size;clear hT hN lW;refine W ?_;refine Z0 (ZF (α:=Rsn) (X:=[b]) (base:=w7.heap.size) rfl (by decide) rfl rfl ab jw (Xh (Xo _ (show [(⟨1,4,739616⟩:Rsn),⟨2,0,0⟩].length+more.length<=20 by simp;omega)) (by decide)) (by simp [maxLen];omega) (by omega)) rfl ?_;rintro qv w9 ⟨iS,hT,xI⟩;replace e5:=e5.ext hT (λh=>by have:=br _ h;omega);replace e6:=e6.ext hT (λh=>by have:=br _ h;omega);have oy:SlV [b] w9 dv [Z10 due st more]:=ox.ext hT (λc hc=>by simp [hc]) (λc hc=>.inl (by simp at hc;simp [hc]));replace hS:=hS.own hT (λc hc=>.inr (by have:=br c hc;omega));clear hT ox jw jQ ab;obtain ⟨pq,kq,rfl,-⟩:=id (Row.slv (X:=[b]) iS (by simpa using l6));refine QO ?_;refine Z6 (Zb (u:=.slice pq ([(⟨1,4,739616⟩:Rsn),⟨2,0,0⟩]++more).length kq) rfl rfl rfl rfl e6 (show (10:Nat)<11 by decide)) ?_;rintro _ wA ⟨hT,e6⟩;replace e6:Blk wA b 56 (dlC (Z10 due st more) (.slice pq ([(⟨1,4,739616⟩:Rsn),⟨2,0,0⟩]++more).length kq)):=e6;have jR:SlV [] wA dv [Z10 due st more]:=oy.ext hT (by simp) (by simp);have sK:SlV [] wA (.slice pq ([(⟨1,4,739616⟩:Rsn),⟨2,0,0⟩]++more).length kq) (Z10 due st more).reas:=(Row.slv (X:=[b]) iS (by simpa using l6)).ext hT (by simp) (by simp);replace hS:=hS.ow hT;generalize (Value.slice pq ([(⟨1,4,739616⟩:Rsn),⟨2,0,0⟩]++more).length kq)=qv at *;clear hT oy iS e5;refine QO ?_;refine ZDr 6 [] [] [(0,0),(1,0),(2,1),(3,1),(4,2),(5,0)] (λw1 ae=>?_);replace jR:=jR.up ae;replace sK:=sK.up ae;replace e6:=e6.up ae;replace hS:=hS.trans ae;clear ae;obtain ⟨csa,⟨ra,rfl,dI⟩,iQ⟩:=jR.cell jW;refine QD ?_;refine WD_read rfl trivial (λw' aN=>Z25 rfl rfl (jR.up aN) jW ⟨ra,rfl,dI.up aN⟩ (λj u hu=>aN.cell0 (iQ j u hu))) rfl ?_;refine QD ?_
 try refine WD_read rfl trivial (λw' aN=>Zl rfl rfl (e6.up aN) (us:=dlC (Z10 due st more) qv) rfl rfl) rfl ?_
 repeat'(first|refine D1 ?_|omega|refine Zk rfl rfl rfl rfl (λhg=>?_) (λhg=>?_)|(refine Zh rfl rfl rfl rfl (λhg=>?_) (λhg=>?_)<;>refine D1 ?_)|fail)
 refine DP hS (Z7j (Z10 due st more) ra qv _ dI sK) λw5 hT hS=>?_;refine QD ?_;refine RT ?_;exact ⟨rfl,hS⟩
theorem Zx4:∀ x∈Z4c.cnd++Z4c.due,opP x.op:=by unfold opP;decide +kernel
theorem ZxQ:Smp Z3x.cond:=.mk (by decide) (by decide) (λy hy=>by cases hy)
theorem ZxR:Smp Z3x.due:=.mk (by decide) (by decide) (λy hy=>by
 have:y=.mk 4 0 [100,97,121] []\/y=.mk 1 20 [] []:=by simpa [Z3x,Nd.kids] using hy
 rcases this with rfl|rfl<;>exact .mk (by decide) (by decide) (λy hy=>by cases hy))
theorem Zl1:(match Z0w Zfw with|.ok l=>l.all (λt=>!(Z95.contains t.text))|_=>true)=true:=by kernel_rfl
theorem Zog:∀ l,Z0w Zfw=.ok l->∀ t∈l,t.text∉Z95:=λl hl t ht hb=>by
 have h:=Zl1;rw [hl] at h;have h2:=X0.1 h t ht;rw [List.contains_iff_mem.2 hb] at h2;cases h2
theorem Z2k.cell {c:Cas} {R:Z0X} {w} (h:Z2k w c R):∀ u∈Jl c R,u.oneCell'=true:=by
 have h1:=h.ff.one;have h2:=h.rr.one;have h3:=h.aa.one;have h4:=h.cc.one;have h5:=h.ss.one;have h6:=h.cal.hols.one;have h7:=h.cal.clos.one;obtain ⟨h8,h9,gN⟩:=h.one;intro u hu;simp only [Jl,Z06,Xb,Xj,or_false,XV,XJ] at hu;rcases hu with rfl|rfl|rfl|rfl|rfl|rfl|rfl|rfl|rfl|rfl|rfl|rfl|rfl|rfl|rfl|rfl|rfl|rfl|rfl<;>first|assumption|rfl
def Z0G (fs:List Fct) (ss:List Spn) (td:Int):Cas:=⟨fs,[Z4c],[],[],ss,z22,0,td⟩
abbrev Z2d:Value:=.N
def exR (fv rv sv:Value):Z0X:=⟨fv,rv,Z2d,Z2d,sv,Z2d,Z2d,.I 0,Z2d,.I 0⟩
theorem Zdc {fs:List Fct} {ss:List Spn} {td:Int} (h1:fs.length<=16) (h2:∀ f∈fs,Z0C f) (h3:fs.Nodup) (h4:Z8y ss) (h5:0<=td/\td<=3652058):Z6a (Z0G fs ss td):=by
 obtain ⟨v1,v2⟩:=Zd4 ZoK;refine ⟨⟨by show fs.length<=100000;omega,by show 1<=1024;decide,λq hq=>?_,λq hq=>?_,⟨by show 0<=65536;decide,λa ha=>absurd ha (by simp [Z0G]),λa ha=>absurd ha (by simp [Z0G]),λa ha=>absurd ha (by simp [Z0G])⟩,λx hx=>absurd hx (by simp [Z0G]),h4,⟨by show (0:Int)<=0;decide,by show (0:Int)<=15;decide⟩,h5⟩,h1,by show 1<=4;decide,h2,h3⟩;have:q=Z4c:=by simpa [Z0G] using hq
 rw [this];exact v1;have:q=Z4c:=by simpa [Z0G] using hq
 rw [this];exact v2
theorem Zdd {fs:List Fct} {ss:List Spn} {td:Int} (h1:Zd7 [] fs=0) (h2:∀ f∈fs,(f.kind.length:Int)<=maxLen) (h3:Zgv ss=0) (h5:0<=td/\td<=3652058):Zd9 (Z0G fs ss td):=
 ⟨λq hq => by
   have:q=Z4c:=by simpa [Z0G] using hq
   rw [this];exact Zx4,h1,h2,by show 0<=16;decide,λx hx=>absurd hx (by simp [Z0G]),by show 1<=1024;decide,λq hq=>by
   have:q=Z4c:=by simpa [Z0G] using hq
   rw [this];exact ZoK,by show 0<=65536;decide,rfl,h3,⟨by show (0:Int)<=0;decide,by show (0:Int)<=15;decide⟩,h5⟩
theorem Zbo {fs:List Fct} {ss:List Spn} {td:Int} {fv rv sv:Value} {w} (hL:Z0x w) (hM:Z3g w) (h1:SlV [] w fv fs) (h2:SlV [] w rv [Z4c]) (h3:SlV [] w sv ss):Z2k w (Z0G fs ss td) (exR fv rv sv):=
 ⟨h1,h2,J0 _ _,J0 _ _,h3,⟨J0 _ _,J0 _ _,hL,hM,⟨rfl,λh hh=>absurd hh (by simp [Z0G,z22]),by show 0<=6;decide⟩⟩,rfl,rfl,rfl⟩
theorem Z6c (fs:List Fct) (ss:List Spn) (td:Int) (fv rv sv:Value) (Y:World):CC 114 #[.agg (Z06 (Z0G fs ss td).cal (exR fv rv sv).hv (exR fv rv sv).lv (exR fv rv sv).zo (exR fv rv sv).zs (exR fv rv sv).hr).toArray] Y λr w'=>r=.I 0/\Stp [] Y w':=Z9j Y
theorem Zoh (p q:Option Addr) (a b c d:Nat) (fs:List Fct) (td:Int) (w):(Instr.build 37 #[(0,.slice p a b),(1,.slice q c d),(7,.I td)]).run Tryz.prog w=.ok (.agg (Jl (Z0G fs [] td) (exR (.slice p a b) (.slice q c d) Z2d)).toArray) w:=by kernel_rfl
theorem Zfy (f:Fct) (w):(Instr.buildSlice 24 1 #[(0,aG f)]).run Tryz.prog w=.ok (.slice (some ⟨w.heap.size,0,none⟩) 1 1) (w.alloc (.cells (Z3.enc f).toArray 45)):=by kernel_rfl
theorem Zoi (f g:Fct) (w):(Instr.buildSlice 24 2 #[(0,aG f),(1,aG g)]).run Tryz.prog w=.ok (.slice (some ⟨w.heap.size,0,none⟩) 2 2) (w.alloc (.cells (Z3.enc f++Z3.enc g).toArray 45)):=by kernel_rfl
theorem Zhf (w):(Instr.build 45 #[(0,.I 4),(1,str [99,108,97,105,109]),(2,.I 739616),(3,.I 1),(4,.I 2),(5,.I 50)]).run Tryz.prog w=.ok (aG Zq) w:=by kernel_rfl
def Z1v:Fct:=⟨7,[97,110,115,119,101,114],739636,2,0,0⟩
theorem Zhg (w):(Instr.build 45 #[(0,.I 7),(1,str [97,110,115,119,101,114]),(2,.I 739636),(3,.I 2)]).run Tryz.prog w=.ok (aG Z1v) w:=by kernel_rfl
theorem Zhh (w):(Instr.build 45 #[(0,.I 4),(1,str [108,97,112,115,101]),(2,.I 739637),(3,.I 2),(4,.I 1),(5,.I 50)]).run Tryz.prog w=.ok (aG Z4F) w:=by kernel_rfl
theorem Zl2 (x:Rsn) (w):(Instr.buildSlice 54 1 #[(0,aG x)]).run Tryz.prog w=.ok (.slice (some ⟨w.heap.size,0,none⟩) 1 1) (w.alloc (.cells (Z3.enc x).toArray 67)):=by kernel_rfl
theorem Zfz:Z0C Zq:=⟨by decide,by decide,by decide,by decide⟩
theorem Zx5:Z0C Z1v:=⟨by decide,by decide,by decide,by decide⟩
theorem Zbp {ss:List Spn} {td:Int} (h4:Z8y ss) (h5:0<=td/\td<=3652058):Z6a (Z0G [Zq] ss td):=Zdc (by decide) (λf hf=>by
 have:f=Zq:=by simpa using hf
 rw [this];exact Zfz) (by simp) h4 h5
theorem Zoj {ss:List Spn} {td:Int} (h4:Z8y ss) (h5:0<=td/\td<=3652058):Z6a (Z0G [Zq,Z1v] ss td):=Zdc (by decide) (λf hf=>by
 have:f=Zq\/f=Z1v:=by simpa using hf
 rcases this with h|h
 rw [h];exact Zfz;rw [h];exact Zx5) (by decide +kernel) h4 h5
theorem Zbq {ss:List Spn} {td:Int} (h4:Zgv ss=0) (h5:0<=td/\td<=3652058):Zd9 (Z0G [Zq] ss td):=Zdd (by decide +kernel) (λf hf=>by
 have:f=Zq:=by simpa using hf
 rw [this];decide +kernel) h4 h5
theorem Zok {ss:List Spn} {td:Int} (h4:Zgv ss=0) (h5:0<=td/\td<=3652058):Zd9 (Z0G [Zq,Z1v] ss td):=Zdd (by decide +kernel) (λf hf=>by
 have:f=Zq\/f=Z1v:=by simpa using hf
 rcases this with h|h
 rw [h];decide +kernel;rw [h];decide +kernel) h4 h5
theorem sp0:Z8y []:=⟨by decide,by simp⟩
theorem sp1:Z8y [((739620,739621):Spn)]:=⟨by decide,λs hs=>by
 have:s=(739620,739621):=by simpa using hs
 rw [this];decide⟩
theorem Zx6:ZP (.mk 2 1 [] [])=1:=by
 rw [ZP];decide +kernel
theorem Zx7:ZP (.mk 7 0 [100,97,121,115] [.mk 4 0 [100,97,121] [],.mk 1 20 [] []])=3:=by
 rw [ZP,Xz,Xz,XU,ZP,ZP];decide +kernel
theorem Z7m (er:Value) (m:Int) (w) (hF:SlV [] w Z2e Ze) (cS:Z0x w) (jf:Z3g w) (eC:w.cell? ⟨2,0,none⟩=some (.I m)) (eF:w.cell? ⟨8,0,none⟩=some er) (bF:er=.nilIface\/∃ te pe,er=.iface te pe) :
 CC 15 #[] w λr w'=>r=.B true/\Stp [] w w':=by
 refine cW0 58 Tryz.func15 ?_;refine W ?_;refine Z0 (Z4 rfl (ZR rfl) (Z8Z [] Zfw [Z3x] er m w (by simp) hF cS eC eF bF (by decide +kernel) Zog Zo7 (by decide) (λr hr=>by
  have:r=Z3x:=by simpa using hr
  subst this;exact ⟨Zex,by rw [show Z3x.cond=.mk 2 1 [] [] from rfl,Zx6];decide,by rw [show Z3x.due=.mk 7 0 [100,97,121,115] [.mk 4 0 [100,97,121] [],.mk 1 20 [] []] from rfl,Zx7];decide,ZxQ,ZxR⟩))) rfl ?_
 rintro _ w1 ⟨rv,rfl,bD,hS⟩;replace bD:SlV [] w1 rv [Z4c]:=by simpa [ZoJ] using bD
 obtain ⟨pr,kr,rfl,-⟩:=id bD;refine QO ?_;refine Z7 rfl Zhf rfl ?_;refine Z0 Z2 rfl ?_;rintro _ w2 ⟨b3,rfl,dG,e3,hT⟩;refine SA (us:=Z3.enc Zq) e3 ?_;rintro _ w3 ⟨hU,e3⟩;replace hT:=hT.ow hU;replace bD:=bD.up hT;replace hS:=hS.trans hT;clear hT hU;refine QO ?_;refine Z0 (Z1 rfl (Zfy Zq)) rfl ?_;rintro fv w4 hN;have fX:SlV [] w4 fv [Zq]:=hN.slv (by simp) rfl (by simp) (by simp [maxLen]);have hT:=Z9.stp hN;clear hN;replace bD:=bD.up hT;replace e3:=e3.up hT;replace hS:=hS.trans hT;clear hT;obtain ⟨pf,kf,rfl,-⟩:=id fX;refine QO ?_;refine Z7 rfl (Zoh pf pr [Zq].length kf [Z4c].length kr [Zq] 739630) rfl ?_;generalize (Value.slice pf [Zq].length kf)=fv at *;generalize (Value.slice pr [Z4c].length kr)=rv at *;refine Z0 Z2 rfl ?_;rintro _ w5 ⟨b4,rfl,bE,e4,hT⟩;have d6:=Zbo (ss:=[]) (sv:=Z2d) (td:=739630) (cS.up hS) (jf.up hS) fX bD (J0 _ _);refine SB (us:=Jl (Z0G [Zq] [] 739630) (exR fv rv Z2d)) d6.cell e4 ?_;rintro _ w6 ⟨hU,e4⟩;replace hT:=hT.ow hU;replace d6:=d6.up hT;replace fX:=fX.up hT;replace bD:=bD.up hT;replace e3:=e3.up hT;replace hS:=hS.trans hT;clear hT hU;refine QO ?_;refine Z0 Z2 rfl ?_;rintro _ w7 ⟨b5,rfl,jt,e5,hT⟩;refine SB (us:=Jl (Z0G [Zq] [] 739630) (exR fv rv Z2d)) d6.cell e5 ?_;rintro _ w8 ⟨hU,e5⟩;replace hT:=hT.ow hU;refine QO ?_;refine Z6 (Zb (u:=.I 739640) rfl rfl rfl rfl e5 (show (18:Nat)<19 by decide)) ?_;rintro _ w9 ⟨hU,e5⟩;replace e5:Blk w9 b5 37 (Jl (Z0G [Zq] [] 739640) (exR fv rv Z2d)):=e5;replace hT:=hT.ow hU;have gF:Z2k w9 (Z0G [Zq] [] 739640) (exR fv rv Z2d):=Zbo (cS.up (hS.trans hT)) (jf.up (hS.trans hT)) (fX.up hT) (bD.up hT) (J0 _ _);replace d6:=d6.up hT;replace fX:=fX.up hT;replace bD:=bD.up hT;replace e3:=e3.up hT;replace e4:=e4.up hT;replace hS:=hS.trans hT;clear hT hU;refine QO ?_;refine Z0 Z2 rfl ?_;rintro _ wa ⟨b6,rfl,eh,e6,hT⟩;refine SB (us:=Jl (Z0G [Zq] [] 739640) (exR fv rv Z2d)) gF.cell e6 ?_;rintro _ wb ⟨hU,e6⟩;replace hT:=hT.ow hU;replace e3:=e3.up hT;refine QO ?_;refine Z7 rfl Zhg rfl ?_;refine Z0 (Z1 rfl (Zoi Zq Z1v)) rfl ?_;rintro fv2 wc hN;have jS:SlV [] wc fv2 [Zq,Z1v]:=hN.slv (by simp) rfl (by simp) (by simp [maxLen]);have l6:=e6.lt;have kD:SlV [b6] wc fv2 [Zq,Z1v]:=hN.slv (by simpa using l6) rfl (by simp) (by simp [maxLen]);have hU:=Z9.stp hN;clear hN;replace e6:=e6.up hU;replace e3:=e3.up hU;replace hT:=hT.trans hU;obtain ⟨p2,k2,rfl,-⟩:=id jS;refine QO ?_;refine Z6 (Zb (u:=.slice p2 [Zq,Z1v].length k2) rfl rfl rfl rfl e6 (show (0:Nat)<19 by decide)) ?_;rintro _ wd ⟨hU,e6⟩;replace jS:SlV [] wd (.slice p2 [Zq,Z1v].length k2) [Zq,Z1v]:=kD.ext hU (by simp) (by simp);generalize (Value.slice p2 [Zq,Z1v].length k2)=fv2 at *;replace e6:Blk wd b6 37 (Jl (Z0G [Zq,Z1v] [] 739640) (exR fv2 rv Z2d)):=e6;replace hT:=hT.ow hU;have fw:Z2k wd (Z0G [Zq,Z1v] [] 739640) (exR fv2 rv Z2d):=Zbo (cS.up (hS.trans hT)) (jf.up (hS.trans hT)) jS (bD.up hT) (J0 _ _);replace d6:=d6.up hT;replace gF:=gF.up hT;replace fX:=fX.up hT;replace bD:=bD.up hT;replace e4:=e4.up hT;replace e5:=e5.up hT;replace hS:=hS.trans hT;clear hT hU kD e3;refine QO ?_;refine Z0 Z2 rfl ?_;rintro _ we ⟨b7,rfl,fk,e7,hT⟩;refine SB (us:=Jl (Z0G [Zq] [] 739630) (exR fv rv Z2d)) d6.cell e7 ?_;rintro _ wf ⟨hU,e7⟩;replace hT:=hT.ow hU;refine QO ?_;refine Z7 (vs:=[(0,.I 739620),(1,.I 739621)]) rfl (Z65 _ _) rfl ?_;refine Z0 (Z1 rfl (ZgZ (739620,739621))) rfl ?_;rintro sv wg hN;have l7:=e7.lt;have lM:SlV [b7] wg sv [((739620,739621):Spn)]:=hN.slv (by simpa using l7) rfl (by simp) (by simp [maxLen]);have hU:=Z9.stp hN;clear hN;replace e7:=e7.up hU;replace hT:=hT.trans hU;obtain ⟨p3,k3,rfl,-⟩:=id lM;refine QO ?_;refine Z6 (Zb (u:=.slice p3 [((739620,739621):Spn)].length k3) rfl rfl rfl rfl e7 (show (4:Nat)<19 by decide)) ?_;rintro _ wh ⟨hU,e7⟩;have iG:SlV [] wh (.slice p3 [((739620,739621):Spn)].length k3) [((739620,739621):Spn)]:=lM.ext hU (by simp) (by simp);generalize (Value.slice p3 [((739620,739621):Spn)].length k3)=sv at *;replace e7:Blk wh b7 37 (Jl (Z0G [Zq] [(739620,739621)] 739630) (exR fv rv sv)):=e7;replace hT:=hT.ow hU;have ge:Z2k wh (Z0G [Zq] [(739620,739621)] 739630) (exR fv rv sv):=Zbo (cS.up (hS.trans hT)) (jf.up (hS.trans hT)) (fX.up hT) (bD.up hT) iG;replace d6:=d6.up hT;replace gF:=gF.up hT;replace fw:=fw.up hT;replace e4:=e4.up hT;replace e5:=e5.up hT;replace e6:=e6.up hT;replace hS:=hS.trans hT;clear hT hU lM;refine QO ?_;refine Z7 rfl Zhh rfl ?_;refine Z0 Z2 rfl ?_;rintro _ wi ⟨b8,rfl,eO,e8,hT⟩;refine SA (us:=Z3.enc Z4F) e8 ?_;rintro _ wj ⟨hU,e8⟩;replace hT:=hT.ow hU;replace d6:=d6.up hT;replace gF:=gF.up hT;replace fw:=fw.up hT;replace ge:=ge.up hT;replace e4:=e4.up hT;replace e5:=e5.up hT;replace e6:=e6.up hT;replace e7:=e7.up hT;replace hS:=hS.trans hT;clear hT hU fX bD jS iG;refine QO ?_;refine CP (hv:=ZfH rfl rfl rfl rfl rfl) hS (Z3o (Z0G [Zq] [] 739630) (exR fv rv Z2d) 739636 0 Z2d Z2d [] [] _ m (hF.up hS) (hS.cell (by simp) eC) d6 (Zbp sp0 (by decide)) (Zbq rfl (by decide)) (λY _=>Z6c _ _ _ _ _ _ Y) ZxM ZxI ⟨[],rfl⟩ (J0 _ _) (J0 _ _) (by decide)) λx1 hT hS=>?_
 replace gF:=gF.up hT;replace fw:=fw.up hT;replace ge:=ge.up hT;replace e5:=e5.up hT;replace e6:=e6.up hT;replace e7:=e7.up hT;replace e8:=e8.up hT;clear hT;refine QO ?_;refine Z0 (Z1 rfl (Zfy Z4F)) rfl ?_;rintro lv x2 hN;have kR:SlV [] x2 lv [Z4F]:=hN.slv (by simp) rfl (by simp) (by simp [maxLen]);have hT:=Z9.stp hN;clear hN;replace hS:=hS.trans hT;refine W ?_;refine CP (hv:=ZfH rfl rfl rfl rfl rfl) hS (Z3o (Z0G [Zq] [] 739640) (exR fv rv Z2d) 739636 2 Z2d lv [] [Z4F] _ m (hF.up hS) (hS.cell (by simp) eC) (gF.up hT) (Zbp sp0 (by decide)) (Zbq rfl (by decide)) (λY _=>Z6c _ _ _ _ _ _ Y) ZxN ZxJ ⟨[],rfl⟩ (J0 _ _) kR (by decide)) λx3 hU hS=>?_
 replace hT:=hT.trans hU;replace fw:=fw.up hT;replace ge:=ge.up hT;replace e6:=e6.up hT;replace e7:=e7.up hT;clear hT hU;refine QO ?_;refine Z7 rfl (Z7H 6 7 739636) rfl ?_;refine Z0 (Z1 rfl (Zl2 ⟨6,7,739636⟩)) rfl ?_;rintro mv x4 hN;have mA:SlV [] x4 mv [(⟨6,7,739636⟩:Rsn)]:=hN.slv (by simp) rfl (by simp) (by simp [maxLen]);have hT:=Z9.stp hN;clear hN;replace hS:=hS.trans hT;refine W ?_;refine CP (hv:=ZfH rfl rfl rfl rfl rfl) hS (Z3o (Z0G [Zq,Z1v] [] 739640) (exR fv2 rv Z2d) 739636 1 mv Z2d [⟨6,7,739636⟩] [] _ m (hF.up hS) (hS.cell (by simp) eC) (fw.up hT) (Zoj sp0 (by decide)) (Zok rfl (by decide)) (λY _=>Z6c _ _ _ _ _ _ Y) ZxO ZxK ⟨[Z1v],rfl⟩ mA (J0 _ _) (by decide)) λx5 hU hS=>?_
 replace hT:=hT.trans hU;replace ge:=ge.up hT;replace e7:=e7.up hT;clear hT hU mA;refine QO ?_;refine Z7 rfl (Z7H 4 739638 739638) rfl ?_;refine W ?_;refine Z7 rfl (Z7H 5 739620 739621) rfl ?_;refine W ?_;refine Z0 (Z1 rfl (Zdb ⟨4,739638,739638⟩ ⟨5,739620,739621⟩)) rfl ?_;rintro mv x6 hN;have mA:SlV [] x6 mv [(⟨4,739638,739638⟩:Rsn),⟨5,739620,739621⟩]:=hN.slv (by simp) rfl (by simp) (by simp [maxLen]);have hT:=Z9.stp hN;clear hN;replace hS:=hS.trans hT;refine W ?_;refine CP (hv:=ZfH rfl rfl rfl rfl rfl) hS (Z3o (Z0G [Zq] [(739620,739621)] 739630) (exR fv rv sv) 739638 0 mv Z2d [⟨4,739638,739638⟩,⟨5,739620,739621⟩] [] _ m (hF.up hS) (hS.cell (by simp) eC) (ge.up hT) (Zbp sp1 (by decide)) (Zbq (by decide +kernel) (by decide)) (λY _=>Z6c _ _ _ _ _ _ Y) ZxP ZxL ⟨[],rfl⟩ mA (J0 _ _) (by decide)) λx7 hU hS=>?_
 refine RT ?_;exact ⟨rfl,hS⟩
theorem Zhi (c:Cas) (R:Z0X) (d:Dln) (dv:Value) (w) (hs:SlV [] w R.rv c.ruls) (hd:SlV [] w dv d.reas) :
 CC 22 #[.agg (Jl c R).toArray,.agg (dlC d dv).toArray] w λv w'=>v=.tuple #[.I (Z7i c d).1,.B (Z7i c d).2]/\Stp [] w w':=by
 have uB:=hd.max;have gP:=hs.max;unfold Z7i;refine cW2 34 Tryz.func22 ?_;refine W ?_;refine BX (Stp.refl [] w) λb2 w1 h2 e2 _ hS=>?_;replace e2:Blk w1 b2 37 (Jl c R):=e2;refine BX hS λb3 w2 h3 e3 hT hS=>?_;replace e3:Blk w2 b3 56 (dlC d dv):=e3;replace e2:=e2.up hT;have l2:=e2.lt;have l3:=e3.lt;replace hs:=hs.up hS;replace hd:=hd.up hS;by_cases hl:d.reas.length<2;refine RT ?_;exact ⟨by rw [if_pos (.inl hl)],hS⟩;have fj:1<d.reas.length:=by omega
 have hg:d.reas.getD 1 Zh6=d.reas[1]:=by simp [fj]
 rw [hg]
 (refine QP ?_ ?_<;>intro hc)
 refine RU ?_;exact ⟨by rw [if_pos (.inr (by assumption))],hS⟩
 . have hk:d.reas[1].kind=2:=Decidable.byContradiction (by assumption)
   repeat'(first|refine W1 ?_|omega|refine VG ?_ ?_<;>intro hg|refine VC ?_ ?_<;>intro hc)
   have hq:¬ (d.reas.length<2\/d.reas[1].kind≠2):=λh=>h.elim hl (λh=>h hk);rw [if_neg hq];clear hq;refine ZDr 12 [] [] [(0,0),(1,0),(2,0),(3,0),(4,0),(5,0),(6,1),(7,0),(8,0),(9,0),(10,0),(11,0)] (λw1 ae=>?_);replace e2:=e2.up ae;replace hS:=hS.trans ae;replace hs:=hs.up ae
   (refine QE ?_ ?_<;>intro hg)
   all_goals refine QO ?_
   all_goals refine WR ?_
   all_goals refine .mk ⟨?_,hS⟩
   all_goals congr 4
   congr 1;dsimp only;rw [decide_eq_decide];exact ⟨λh=>⟨hg,h⟩,λh=>h.2⟩;congr 1;exact (decide_eq_false (λh=>hg h.1)).symm
end Go.Proofs.YtipfkbkkndacjaaGreatDoor
namespace Go.EngB
open Go Go.Eng Go.RowKit Go.Proofs
structure Z1K (S:Nat×List Nat) (w w':World):Prop where
 os:w'.os=w.os
 tape:w'.tape=w.tape
 output:w'.output=w.output
 size:w.heap.size<=w'.heap.size
 block:∀ b,b<S.1->b∉S.2->w'.heap[b]?=w.heap[b]?
theorem Z1K.refl (S:Nat×List Nat) (w):Z1K S w w:=⟨rfl,rfl,rfl,Xn _,λ_ _ _=>rfl⟩
theorem Z1K.trans {S:Nat×List Nat} {a b c:World} (h:Z1K S a b) (k:Z1K S b c):Z1K S a c:=
 ⟨k.os.trans h.os,k.tape.trans h.tape,k.output.trans h.output,Xh h.size k.size,λx hx hn=>(k.block x hx hn).trans (h.block x hx hn)⟩
theorem Z1K.of {B:Nat} {S:List Nat} {w w':World} (h:Stp S w w') (hB:B<=w.heap.size) (hS:∀ b∈S,B<=b):Z1K (B,[]) w w':=
 ⟨h.os,h.tape,h.output,h.size,λb hb _=>h.block b (Xa hb hB) (λhm=>by have:=hS b hm;omega)⟩
theorem Z1K.blk {B b T:Nat} {cs:List Value} {w w':World} (h:Z1K (B,[]) w w') (hb:Blk w b T cs) (hl:b<B):Blk w' b T cs:=by
 unfold Blk at *;rw [h.block b hl (by simp)];exact hb
instance:Rl (Nat×List Nat):=⟨Z1K,Z1K.refl,λh k=>h.trans k⟩
abbrev WD (P:Program) (n:Nat) (ops:Array Oper) (S:Nat×List Nat) (Lt:List Nat) (Q:Exit->Act->World->Prop) (ord:List (Nat×Nat)) (e:Env) (w:World):Prop:=WG P n ops S Lt Q ord e w
section
variable {P:Program} {n:Nat} {Q:Exit->Act->World->Prop} {e:Env} {w:World} {ops:Array Oper} {Lt:List Nat} {rest:List (Nat×Nat)} {i d:Nat} {op:Op} {ty:TypeId} {pos:String} {af:Array Edge} {gd:Option (Nat×Bool)} {v:Value}
theorem WC_drawn {id:Nat} {l:List Oper} (m:Nat) (S:Nat×List Nat) (Lt:List Nat) (ord:List (Nat×Nat)) (cp:l.length=m) (hm:P.follows .mixedOrders=true) (hs:Region.noSelect l.toArray=true) (hl:Nat.beq (wt ord) l.length=true)
 (hB:J5 l.toArray Lt ord (Array.replicate m false)=true)
 (h:∀ w',Stp [] w w'->WD P n l.toArray S Lt Q ord e w'):WC P n (.region id l.toArray true) Q e w:=Z9l m S Lt ord cp hm hs hl hB h
theorem WD_read {S:Nat×List Nat} (hi:ops[i]?=some ⟨some d,op,ty,pos,af,gd⟩) (hg:Z02 ops e gd) (hp:∀ w',Z1K S w w'->PR P n ⟨some d,op,ty,pos,af,gd⟩ e w' v) (aw:Nat.blt d n=true)
 (k:WD P n ops S Lt Q rest ((d,v) :: e) w):WD P n ops S Lt Q ((i,1) :: rest) e w:=ZeN hi hg hp aw k
end
end Go.EngB
