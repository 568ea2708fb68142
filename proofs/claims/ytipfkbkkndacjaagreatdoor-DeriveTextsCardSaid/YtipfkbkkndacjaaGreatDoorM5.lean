/-
Contracts and plain laws, merged out of own texts.
-/
import Derived.Test.YtipfkbkkndacjaaGreatDoorM4
import Derived.RangeFuncBox
import Derived.RangeFuncLeaves
import Derived.RangeFuncNested
import Derived.RangeFuncBound
import Derived.RangeFuncCalls
import Derived.Shelf.Abstract
import Derived.Shelf.RegionOpen
import Derived.BigRegionIn
import Derived.WalkKit
import Derived.OwnWalkIn
import Derived.TacticsInMore
import Derived.LoopNIn
import Derived.LoopIn
import Derived.ChangeKeysEq
set_option linter.unusedVariables false
set_option linter.unusedSimpArgs false
set_option maxHeartbeats 4000000
set_option maxRecDepth 20000
namespace Go.Proofs.YtipfkbkkndacjaaGreatDoor
open Go Go.Eng Go.RowKit
theorem ZaX {P:Program} {f:FuncId} {fn:Func} {c:Code} {args:Array Value} {w} {R:Ending->World->Prop} {n:Nat} (hf:P.funcs[f]?=some fn) (hb:fn.body=some c)
 (hn:fn.ntmps=n) (hs:Nat.ble args.size n=true) (h:WC P n c (bodyPostM Fence.wide 5 P fn R) (Z51 args.toList 0) w):Calls P f args w R:=by
 refine (callsIn_wide (n:=5)).1 (callsIn_of_wp_marks hf hb trivial ((wpIn_wide (n:=5)).2 (h.h _ ?_)));rw [hn];have cO:args.size<=n:=XY hs;refine ⟨rfl,by simp;omega,λt v hv=>?_⟩;obtain ⟨_,h2⟩:=Z3A _ _ _ _ hv;simp only [Nat.sub_zero] at h2;have ag:t<args.size:=by
  have:=(Xx.1 h2).1;simpa using this
 have:args[t]?=some v:=by simpa using h2
 have h3:(args++Array.replicate (n - args.size) undef)[t]?=some v:=by
  rw [XX ag];exact this
 simp [XB,h3]
theorem Zgy {P:Program} {n:Nat} {fn:Func} {R:Ending->World->Prop} {e:Env} {w:World} {D t u:Nat} {v x:Value} (hr:fn.results=#[.tmp t,.tmp u]) (ht:Eng.look e t=some v) (hu:Eng.look e u=some x) (hd:w.heap[D]?=some (.deferred (some [])))
 (h:R (.returned (.tuple #[v,x])) (w.putObj D (.deferred none))):WQD [{ target:=.collected D,args:=#[] }] n (bodyPostM Fence.wide 5 P fn R) .ret e w:=by
 refine ⟨λa ha=>?_⟩;show LeavesInM Fence.wide 5 P fn (Z1x _ a).tmps R (Z1x _ a).defers .returning w;have vA:(Z1x [{ target:=.collected D,args:=#[] }] a).defers=[{ target:=.collected D,args:=#[] }]:=by unfold Z1x;rw [ha.defers];rfl
 rw [vA];refine ⟨by simp,.inl ⟨D,_,rfl,run_takeDeferred hd,?_⟩⟩;refine ⟨.tuple #[v,x],?_,h⟩;have h1:=ha.vals t v ht;have h2:=ha.vals u x hu;have h3:(Z1x [{ target:=.collected D,args:=#[] }] a).tmps=a.tmps:=rfl;rw [XB] at h1 h2;rw [h3];simp [results,hr,h1,h2]
theorem ZaY (lv:Value) (l:List Rtn) (sent:Int) (w) (hl:SlV [] w lv l):CC 202 #[lv,.I sent] w λr w'=>∃ bL bS,r=.func (.func 258) #[] #[pQ bS,pQ bL]/\
 Blk w' bS 3 [.I sent]/\Blk w' bL 76 [lv]/\w.heap.size<=bL/\w.heap.size<=bS/\Stp [] w w':=by
 refine cW2 6 Tryz.func202 ?_;refine W ?_;refine Z1 (Zaj rfl hl) rfl ?_;rintro _ w1 ⟨bL,rfl,hL,kL,hS⟩;have z1:=hS.size;refine BX hS λbS w2 ah kS hT hS=>?_;replace kS:Blk w2 bS 3 [.I sent]:=kS;replace kL:=kL.up hT;refine RT ?_;exact ⟨bL,bS,rfl,kS,kL,hL,by omega,hS⟩
theorem Zk6 {l:List Rtn} {sent:Int} (h:l.length<=32):(Z4M l sent).length<=66:=by
 have oH:Z4M l sent=Z3r (Z6D l sent):=rfl;have h2:=Z8A l sent;have h1:(Z4M l sent).length<=(Z6D l sent).length:=by
  rw [oH];unfold Z3r Lib.compact Lib.compactUpTo;rw [Xt];refine Xg (XZ _ _) ?_;simp
 omega
theorem Zk7 {l:List Rtn} {sent:Int} (h:l.length<=32):(Z99 l sent).length<=66:=by
 have:=Zk6 (sent:=sent) h;unfold Z99;rw [Xt,List.length_zip];omega
theorem Zgz (l:List Rtn) (crrs:List Crr) (s:AlS) (x:Spn):(Z0G l crrs s x).out.length<=s.out.length+1:=by
 unfold Z0G;dsimp only;split;omega;have ht:(if Z1F l crrs x.1<s.least then (⟨Z1F l crrs x.1,false,[]⟩:AlS) else s).out.length<=s.out.length:=by
  split<;>simp
 generalize (if Z1F l crrs x.1<s.least then (⟨Z1F l crrs x.1,false,[]⟩:AlS) else s)=t at *;split;split<;>simp<;>omega
 simp;omega
theorem Z9P (l:List Rtn) (crrs:List Crr):∀ (L:List Spn) (s:AlS),(L.foldl (Z0G l crrs) s).out.length<=s.out.length+L.length
 | [],s=>by simp
 | x :: L, s => by
   have h1:=Z9P l crrs L (Z0G l crrs s x);have h2:=Zgz l crrs s x;rw [X2,Xe];omega
theorem Zk8 (l:List Rtn) (crrs:List Crr) (s:AlS) (x:Spn) (h:¬ s.least<Z1F l crrs x.1) {t:AlS} (ht:t=if Z1F l crrs x.1<s.least then ⟨Z1F l crrs x.1,false,[]⟩ else s) :
 (t.out=[]->Z0G l crrs s x={ t with out:=[x] })/\(∀ M u,t.out=M++[u]->Z0G l crrs s x={ t with out:=if u.2=x.1 - 1 then M++[(u.1,x.2)] else M++[u]++[x] }):=by
 unfold Z0G;dsimp only;rw [if_neg h,<- ht];clear ht;constructor;intro h0;rw [h0];rfl;intro M u h0;rw [h0];simp only [List.getLast?_append,List.getLast?_singleton,Option.some_or];split<;>simp
structure AlJ (w0:World) (l:List Rtn) (crrs:List Crr) (b8 b9 b10:Nat) (pre:List Spn) (F:List Nat) (W:World):Prop where
 ex:∃ ov,F=b8 :: b9 :: b10 :: ob ov/\Blk W b10 27 [ov]/\Row [] W w0.heap.size 75 ov (pre.foldl (Z0G l crrs) ⟨Z1F l crrs (-1),true,[]⟩).out
 k8:Blk W b8 3 [.I (pre.foldl (Z0G l crrs) ⟨Z1F l crrs (-1),true,[]⟩).least]
 k9:Blk W b9 4 [.B (pre.foldl (Z0G l crrs) ⟨Z1F l crrs (-1),true,[]⟩).never]
 stp:Stp [b8,b9,b10] w0 W
theorem ZaZ {β:Type} [Z3 β] {X S:List Nat} {w w':World} {base T:Nat} {v:Value} {xs:List β} (h:Row X w base T v xs) (hS:Stp S w w') (hn:∀ b∈S,b∉ob v):Row X w' base T v xs:=
 Z29 (Row.ext (Z29 (X':=S) h) hS (λb hb=>⟨hb,hn b hb⟩) (λb hb=>.inl hb))
theorem AlJ.stay {w0 W W':World} {l:List Rtn} {crrs:List Crr} {b8 b9 b10:Nat} {pre:List Spn} {F S:List Nat} (h:AlJ w0 l crrs b8 b9 b10 pre F W) (hS:Stp S W W') (hd:∀ b∈S,w0.heap.size<=b/\b∉F):AlJ w0 l crrs b8 b9 b10 pre F W':=by
 obtain ⟨⟨ov,rfl,k10,hr⟩,k8,k9,ay⟩:=h;exact ⟨⟨ov,rfl,k10.ext hS (λh=>(hd _ h).2 (by simp)),ZaZ hr hS (λb hb h=>(hd b hb).2 (by simp [h]))⟩,k8.ext hS (λh=>(hd _ h).2 (by simp)),k9.ext hS (λh=>(hd _ h).2 (by simp)),ay.own hS (λb hb=>.inr (hd b hb).1)⟩
theorem ZcE (lv cv:Value) (l:List Rtn) (crrs:List Crr) (sent:Int) (w) (hl:SlV [] w lv l) (hc:SlV [] w cv crrs) (ho:Zn1 l crrs) (eP:0<=sent/\sent<=3652058) :
 CC 127 #[lv,cv,.I sent] w λv w'=>∃ ov,v=.tuple #[ov,.B (Zgw l crrs sent).never]/\SlV [] w' ov (Zgw l crrs sent).out/\Stp [] w w':=by
 refine ZaX (n:=62) Tryz.func127 rfl rfl rfl ?_;refine W ?_;refine Z1 (Zaj rfl hl) rfl ?_;rintro _ w1 ⟨b3,rfl,h3,e3,hS⟩;refine Z1 (Zaj rfl hc) rfl ?_;rintro _ w2 ⟨b4,rfl,h4,e4,hT⟩;replace e3:=e3.up hT;replace hS:=hS.trans hT;clear hT;refine W ?_;refine CP hS (Z8y lv cv l crrs (-1) _ (hl.up hS) (hc.up hS) ho.len ho.crr ho.tol) λw3 hT hS=>?_;replace e3:=e3.up hT;replace e4:=e4.up hT;clear hT;refine Z1 Z2 rfl ?_;rintro _ w4 ⟨b8,rfl,fC,e8,hT⟩;replace e8:Blk w4 b8 3 [.I 0]:=e8;refine S1 e8 ?_;rintro _ w5 ⟨aq,e8⟩;replace hT:=hT.ow aq;have l3:=e3.lt;have l4:=e4.lt;replace e3:=e3.up hT;replace e4:=e4.up hT;have g8:w.heap.size<=b8:=Xg hS.size fC;replace hS:=hS.trans hT;clear hT aq;refine W ?_;refine Z1 Z2 rfl ?_;rintro _ w6 ⟨b9,rfl,iu,e9,hT⟩;replace e9:Blk w6 b9 4 [.B false]:=e9;refine S1 e9 ?_;rintro _ w7 ⟨aq,e9⟩;replace hT:=hT.ow aq;have l8:=e8.lt;replace e3:=e3.up hT;replace e4:=e4.up hT;replace e8:=e8.up hT;replace hS:=hS.trans hT;clear hT aq;refine W ?_;refine Z1 Z2 rfl ?_;rintro _ w8 ⟨b10,rfl,ea,e10,hT⟩;have l9:=e9.lt;replace e3:=e3.up hT;replace e4:=e4.up hT;replace e8:=e8.up hT;replace e9:=e9.up hT;replace hS:=hS.trans hT;clear hT;refine W ?_;refine CG (ZaY lv l sent _ (hl.up hS)) ?_;rintro _ w9 ⟨bL,bS,rfl,kS,kL,gL,gS,hT⟩;have l10:=e10.lt;have z8:=hS.size;replace e3:=e3.up hT;replace e4:=e4.up hT;replace e8:=e8.up hT;replace e9:=e9.up hT;replace e10:=e10.up hT;replace hS:=hS.trans hT;clear hT;refine W ?_;replace e10:Blk w9 b10 27 [.N]:=e10;have q8:=e8.lt;have q9:=e9.lt;have q10:=e10.lt;refine Zl1 [(3,pQ b3),(4,pQ b4),(8,pQ b8),(9,pQ b9),(10,pQ b10),(19,.func (.func 258) #[] #[pQ bS,pQ bL])] ⟨rfl,rfl,rfl,rfl,rfl,rfl,trivial⟩ ?_;refine ZjZ (α:=Spn) (E:=λx b=>[(3,pQ b3),(4,pQ b4),(8,pQ b8),(9,pQ b9),(10,pQ b10),(11,pQ b)]) (T:=75) (cs:=Z3.enc) (λx=>aG x) rfl rfl (Z99 l sent) (AlJ w9 l crrs b8 b9 b10) [b8,b9,b10] ?_ ?_ ?_ ?_ ?_ ?_ ?_;rintro pre F W ⟨⟨ov,rfl,k10,hr⟩,k8,k9,ay⟩ b hb;simp only [Xb] at hb;rcases hb with rfl|rfl|rfl|hb
 exact k8.lt;exact k9.lt;exact k10.lt;exact (hr.ob_le b hb).2;exact λpre F W W' S h hS hd=>h.stay hS hd;exact ⟨⟨.N,rfl,e10,Row.nil⟩,e8,e9,Stp.refl _ _⟩;intro l' Y kR dW xU;have zY:=kR.size;have zw:=hS.size;have kSl:=kS.lt;have kLl:=kL.lt;refine ZaW l' _ Y bS bL lv l sent crrs ho eP (kS.up kR) (kL.up kR) (hl.ext (hS.trans kR) (by simp) (λb hb=>.inr (by
  simp only [Xb,Xj,or_false] at hb;omega))) (λb hb=>by
  simp only [Xb,Xj,or_false] at hb;omega) (by simp only [Xb,Xj,or_false];omega) (by simp only [Xb,Xj,or_false];omega)
 intro l' x Y Z eF hk;refine ZT rfl (λa w h=>eF a w h) ?_;refine Z1 Z2 rfl ?_;rintro _ Ya ⟨b,rfl,hb,kb,hT⟩;refine SA (us:=Z3.enc x) kb ?_;rintro _ Yb ⟨aq,kb⟩;refine W ?_;exact Zl2 [(3,pQ b3),(4,pQ b4),(8,pQ b8),(9,pQ b9),(10,pQ b10),(11,pQ b)] ⟨rfl,rfl,rfl,rfl,rfl,rfl,trivial⟩ (hk b Yb hb kb (hT.ow aq));intro l' pre x b11 F Y Z hJ cu k11 oI kN eF hZ;obtain ⟨⟨ov,rfl,k10,hr⟩,k8,k9,ay⟩:=hJ;have vB:x∈Z99 l sent:=cu.subset (by simp);have xV:=Z8z eP vB;have cq:pre.length<=66:=by
  have h1:=cu.length_le;have h2:=Zk7 (sent:=sent) ho.len;rw [Xc] at h1;omega
 have lK:=Z9P l crrs pre ⟨Z1F l crrs (-1),true,[]⟩;have gY:(pre++[x]).foldl (Z0G l crrs) ⟨Z1F l crrs (-1),true,[]⟩=Z0G l crrs (pre.foldl (Z0G l crrs) ⟨Z1F l crrs (-1),true,[]⟩) x:=by simp
 have kR:Stp [] w Y:=hS.own ay (λb hb=>by simp at hb;rcases hb with rfl|rfl|rfl<;>exact .inr (by omega));have f3:=e3.ext ay (by simp;omega);have f4:=e4.ext ay (by simp;omega);have ey:=λb hb=>hr.ob_le b hb;have zst:=ay.size;simp only [Xf] at lK;generalize pre.foldl (Z0G l crrs) ⟨Z1F l crrs (-1),true,[]⟩=s at *;obtain ⟨least,never,out⟩:=s;dsimp only at k8 k9 hr lK;have l8y:=k8.lt;have l9y:=k9.lt;have l10y:=k10.lt;focus repeat'(first|refine W1 ?_|refine Jt ?_|refine JR ?_|refine Ja ?_|refine ZT rfl (λa w h=>eF a w h) ?_|refine Ju ?_|refine Jv ?_|refine Jk rfl ?_|refine J5 rfl ?_|refine ZB ?_|refine Zw ?_|refine ZJ rfl ?_|refine Jj ?_)
 refine CP (Stp.refl [] Y) (Z8y lv cv l crrs x.1 _ (hl.up kR) (hc.up kR) ho.len ho.crr ho.tol) λY1 hT _=>?_;replace k8:=k8.up hT;replace k9:=k9.up hT;replace k10:=k10.up hT;replace k11:=k11.up hT;replace f3:=f3.up hT;replace f4:=f4.up hT;replace hr:=hr.up hT;have kT:=ay.trans hT.mn;have aj:=λh=>@Zk8 l crrs ⟨least,never,out⟩ x h _ rfl;have ix:least<Z1F l crrs x.1->Z0G l crrs ⟨least,never,out⟩ x=⟨least,never,out⟩:=λh=>by unfold Z0G;dsimp only;rw [if_pos h]
 dsimp only at aj ix;generalize Z1F l crrs x.1=E at *;by_cases h1:least<E;rw [ix h1] at gY;focus repeat'(first|refine W1 ?_|refine Jt ?_|refine JR ?_|refine Ja ?_|refine ZT rfl (λa w h=>eF a w h) ?_|refine Ju ?_|refine Jv ?_|refine Jk rfl ?_|refine J5 rfl ?_|refine ZB ?_|refine Zw ?_|refine ZJ rfl ?_|refine Jj ?_|omega|(refine Z44 rfl ?_ ?_<;>intro hc))
 exact ⟨λa ha=>hZ a _ Y1 ⟨⟨ov,rfl,k10,by rw [gY];exact hr⟩,by rw [gY];exact k8,by rw [gY];exact k9,kT⟩ hT.mn (λb hb=>.inl hb)⟩;have aj:=aj h1;clear ix f3 f4;generalize cU:Z0G l crrs ⟨least,never,out⟩ x=s' at *;generalize ht:(if E<least then (⟨E,false,[]⟩:AlS) else ⟨least,never,out⟩)=t at *;have oB:t.out.length<=66:=by rw [<- ht];split<;>simp<;>omega
 focus repeat'(first|refine W1 ?_|refine Jt ?_|refine JR ?_|refine Ja ?_|refine ZT rfl (λa w h=>eF a w h) ?_|refine Ju ?_|refine Jv ?_|refine Jk rfl ?_|refine J5 rfl ?_|refine ZB ?_|refine Zw ?_|refine ZJ rfl ?_|refine Jj ?_)
 refine Z44 rfl (λhc=>absurd hc h1) (λhc=>?_);focus repeat'(first|refine W1 ?_|refine Jt ?_|refine JR ?_|refine Ja ?_|refine ZT rfl (λa w h=>eF a w h) ?_|refine Ju ?_|refine Jv ?_|refine Jk rfl ?_|refine J5 rfl ?_|refine ZB ?_|refine Zw ?_|refine ZJ rfl ?_|refine Jj ?_)
 refine ZjY (σ:=Value) (λ_=>[(10,pQ b10),(11,pQ b11)]) (λov' W'=>Blk W' b8 3 [.I t.least]/\Blk W' b9 4 [.B t.never]/\Blk W' b10 27 [ov']/\Row [] W' w9.heap.size 75 ov' t.out/\Blk W' b11 75 (Z3.enc x)/\Stp [b8,b9,b10] Y1 W'/\∀ b∈ob ov',b∈ob ov) ?_ ?_;by_cases h2:E<least;rw [if_pos h2] at ht;subst ht;focus repeat'(first|refine W1 ?_|refine Jt ?_|refine JR ?_|refine Ja ?_|refine ZT rfl (λa w h=>eF a w h) ?_|refine Ju ?_|refine Jv ?_|refine Jk rfl ?_|refine J5 rfl ?_|refine ZB ?_|refine Zw ?_|refine ZJ rfl ?_|refine Jj ?_|omega|(refine Z44 rfl ?_ ?_<;>intro hc))
 refine S1 (u:=.I E) k8 ?_;rintro _ Y2 ⟨hA,k8⟩;replace k9:=k9.ext hA (by simp;omega);replace k10:=k10.ext hA (by simp;omega);replace k11:=k11.ext hA (λh=>oI (by simp at h;subst h;simp));refine S1 (u:=.B false) k9 ?_;rintro _ Y3 ⟨hB,k9⟩;replace k8:=k8.ext hB (by simp;omega);replace k10:=k10.ext hB (by simp;omega);replace k11:=k11.ext hB (λh=>oI (by simp at h;subst h;simp));refine S1 (u:=.N) k10 ?_;rintro _ Y4 ⟨hC,k10⟩;replace k8:=k8.ext hC (by simp;omega);replace k9:=k9.ext hC (by simp;omega);replace k11:=k11.ext hC (λh=>oI (by simp at h;subst h;simp));focus repeat'(first|refine W1 ?_|refine Jt ?_|refine JR ?_|refine Ja ?_|refine ZT rfl (λa w h=>eF a w h) ?_|refine Ju ?_|refine Jv ?_|refine Jk rfl ?_|refine J5 rfl ?_|refine ZB ?_|refine Zw ?_|refine ZJ rfl ?_|refine Jj ?_)
 exact QT (.N) ⟨k8,k9,k10,Row.nil,k11,(hA.mn.trans hB.mn).trans hC.mn,by simp [ob]⟩;rw [if_neg h2] at ht;subst ht;focus repeat'(first|refine W1 ?_|refine Jt ?_|refine JR ?_|refine Ja ?_|refine ZT rfl (λa w h=>eF a w h) ?_|refine Ju ?_|refine Jv ?_|refine Jk rfl ?_|refine J5 rfl ?_|refine ZB ?_|refine Zw ?_|refine ZJ rfl ?_|refine Jj ?_|omega|(refine Z44 rfl ?_ ?_<;>intro hc))
 exact QT ov ⟨k8,k9,k10,hr,k11,Stp.refl _ _,λb hb=>hb⟩;clear k8 k9 k10 k11 hr ht;rintro ov' Y2 ⟨k8,k9,k10,hr,k11,hA,oJ⟩;have zA:=hA.size;have zT:=hT.size;have iy:=λb hb=>hr.ob_le b hb;have eQ:SlV [] Y2 ov' t.out:=hr.slv (by simp);obtain ⟨gU,ip⟩:=aj;obtain ⟨tl,tn,oo⟩:=t;dsimp only at k8 k9 hr eQ iy gU ip oB;have nu:b8∉ob ov':=λh=>by have:=iy _ h;omega
 have nw:b9∉ob ov':=λh=>by have:=iy _ h;omega
 have gu:b10∉ob ov':=λh=>by have:=iy _ h;omega
 have tj:b11∉ob ov':=λh=>oI (by have:=oJ _ h;simp [this])
 have fin:∀ (nv:Value) (W':World),Blk W' b8 3 [.I s'.least]->Blk W' b9 4 [.B s'.never]->Blk W' b10 27 [nv]->Row [] W' w9.heap.size 75 nv s'.out->Stp (b10 :: ob ov') Y2 W'->(∀ b∈ob nv,b∈ob ov'\/Y2.heap.size<=b)->∀ a,Z .normal a W':=λnv W' g8 g9 g10 gr gs gn a=>
  hZ a (b8 :: b9 :: b10 :: ob nv) W' ⟨⟨nv,rfl,g10,by rw [gY];exact gr⟩,by rw [gY];exact g8,by rw [gY];exact g9,(kT.trans hA).own gs (λb hb=>by
   rcases Xb.1 hb with rfl|hb
   exact .inl (by simp);exact .inr (iy b hb).1)⟩ ((((hT.mono (S':=b8 :: b9 :: b10 :: ob ov) (by simp)).trans hA.mn).trans (gs.mono (λb hb=>by
   rcases Xb.1 hb with rfl|hb
   simp;simp [oJ b hb])))) (λb hb=>by
   simp only [Xb] at hb ⊢;rcases hb with rfl|rfl|rfl|hb
   exact .inl (.inl rfl);exact .inl (.inr (.inl rfl));exact .inl (.inr (.inr (.inl rfl)));rcases gn b hb with h|h
   exact .inl (.inr (.inr (.inr (oJ b h))));exact .inr (by omega))
 clear hA oJ ey kT;have app:∀ (Y3:World),Stp [] Y2 Y3->s'=⟨tl,tn,oo++[x]⟩->∀ (nv:Value) (Y4 Y5:World),Row [] Y4 w9.heap.size 75 nv (oo++[x])->Stp (ob ov') Y3 Y4->(∀ b∈ob nv,b∈ob ov'\/Y3.heap.size<=b)->Stp [b10] Y4 Y5->Blk Y5 b10 27 [nv]->∀ a,Z .normal a Y5:=λY3 g1 gs nv Y4 Y5 g2 g3 g4 g5 g6 a=>by
  subst gs;have q8:=(((k8.up g1).ext g3 nu).ext g5 (by simp;omega))
  have q9:=(((k9.up g1).ext g3 nw).ext g5 (by simp;omega))
  have eG:b10∉ob nv:=λh=>by
   rcases g4 _ h with h|h
   exact gu h;have:=g1.size;omega
  exact fin nv Y5 q8 q9 g6 (ZaZ g2 g5 (λb hb h=>eG (by simp at hb;subst hb;exact h))) ((g1.mn.trans (g3.mono (λb hb=>by simp [hb]))).trans g5.mn) (λb hb=>(g4 b hb).imp id (λh=>by have:=g1.size;omega)) a
 focus repeat'(first|refine W1 ?_|refine Jt ?_|refine JR ?_|refine Ja ?_|refine ZT rfl (λa w h=>eF a w h) ?_|refine Ju ?_|refine Jv ?_|refine Jk rfl ?_|refine J5 rfl ?_|refine ZB ?_|refine Zw ?_|refine ZJ rfl ?_|refine Jj ?_)
 rcases Yan oo with rfl|⟨M,u,rfl⟩
 have bu:=gU rfl;refine Z9O 14 [] [] [(0,0),(1,0),(2,0),(3,1),(4,0),(5,0),(6,0),(7,0),(8,1),(9,0),(10,1),(11,0),(12,0),(13,0)] rfl mixed (by kernel_rfl) (by kernel_rfl) (by kernel_rfl) rfl (λw1 ae=>?_);replace k10:=k10.up ae;replace k11:=k11.up ae;replace hr:=hr.up ae;refine D ?_;focus repeat'(first|refine W1 ?_|refine Jt ?_|refine JR ?_|refine Ja ?_|refine ZT rfl (λa w h=>eF a w h) ?_|refine Ju ?_|refine Jv ?_|refine Jk rfl ?_|refine J5 rfl ?_|refine ZB ?_|refine Zw ?_|refine ZJ rfl ?_|refine Jj ?_)
 refine APG (X:=[]) (base:=w9.heap.size) x hr (by simp) (by have:=ae.size;omega) rfl (by simp) (by simp [maxLen]) λv1 nv Y4 iv fD jn=>?_
 replace k10:=k10.ext fD gu;focus repeat'(first|refine W1 ?_|refine Jt ?_|refine JR ?_|refine Ja ?_|refine ZT rfl (λa w h=>eF a w h) ?_|refine Ju ?_|refine Jv ?_|refine Jk rfl ?_|refine J5 rfl ?_|refine ZB ?_|refine Zw ?_|refine ZJ rfl ?_|refine Jj ?_)
 have eh:SlV [] Y4 nv ([]++[x]):=iv.slv (by simp);refine Z4 (Zc (u:=nv) rfl rfl eh.cells eh.one k10 (by simp)) ?_;rintro _ Y5 ⟨dX,k10⟩;focus repeat'(first|refine W1 ?_|refine Jt ?_|refine JR ?_|refine Ja ?_|refine ZT rfl (λa w h=>eF a w h) ?_|refine Ju ?_|refine Jv ?_|refine Jk rfl ?_|refine J5 rfl ?_|refine ZB ?_|refine Zw ?_|refine ZJ rfl ?_|refine Jj ?_)
 exact ⟨λa ha=>app w1 ae bu nv Y4 Y5 iv fD jn dX k10 a⟩;rw [Yao] at *;have bu:=ip M u rfl;have kD:((M++[u]).length:Int) - 1=(M.length:Nat):=by simp
 have lV:M.length<(M++[u]).length:=by simp
 have dw:(M++[u])[M.length]=u:=by simp
 have gf:0<((M++[u]).length:Int):=by simp
 refine Z9O 14 [] [] [(0,0),(1,0),(2,0),(3,1),(4,0),(5,0),(6,0),(7,0),(8,1),(9,0),(10,1),(11,0),(12,0),(13,0)] rfl mixed (by kernel_rfl) (by kernel_rfl) (by kernel_rfl) rfl (λw1 ae=>?_);replace k10:=k10.up ae;replace k11:=k11.up ae;replace hr:=hr.up ae;replace eQ:=eQ.up ae;refine QD ?_;rw [dw];focus repeat'(first|refine W1 ?_|refine Jt ?_|refine JR ?_|refine Ja ?_|refine ZT rfl (λa w h=>eF a w h) ?_|refine Ju ?_|refine Jv ?_|refine Jk rfl ?_|refine J5 rfl ?_|refine ZB ?_|refine Zw ?_|refine ZJ rfl ?_|refine Jj ?_)
 refine Z44 rfl (λhc=>?_) (λhc=>?_);rw [if_pos hc] at bu;focus repeat'(first|refine W1 ?_|refine Jt ?_|refine JR ?_|refine Ja ?_|refine ZT rfl (λa w h=>eF a w h) ?_|refine Ju ?_|refine Jv ?_|refine Jk rfl ?_|refine J5 rfl ?_|refine ZB ?_|refine Zw ?_|refine ZJ rfl ?_|refine Jj ?_)
 refine Z4 (Z4j (i:=M.length) (y':=(u.1,x.2)) (u:=.I x.2) rfl rfl rfl rfl rfl hr lV (by decide) (by rw [dw];rfl)) ?_;rintro _ Y5 ⟨tk,dX⟩;focus repeat'(first|refine W1 ?_|refine Jt ?_|refine JR ?_|refine Ja ?_|refine ZT rfl (λa w h=>eF a w h) ?_|refine Ju ?_|refine Jv ?_|refine Jk rfl ?_|refine J5 rfl ?_|refine ZB ?_|refine Zw ?_|refine ZJ rfl ?_|refine Jj ?_)
 rw [show (M++[u]).set M.length (u.1,x.2)=M++[(u.1,x.2)] by simp] at tk;have vC:=(k8.up ae).ext dX nu;have vD:=(k9.up ae).ext dX nw;have qQ:=k10.ext dX gu;refine ⟨λa ha=>fin ov' Y5 (by rw [bu];exact vC) (by rw [bu];exact vD) qQ (by rw [bu];exact tk) (ae.mn.trans (dX.mono (λb hb=>by simp [hb]))) (λb hb=>.inl hb) a⟩;rw [if_neg hc] at bu;focus repeat'(first|refine W1 ?_|refine Jt ?_|refine JR ?_|refine Ja ?_|refine ZT rfl (λa w h=>eF a w h) ?_|refine Ju ?_|refine Jv ?_|refine Jk rfl ?_|refine J5 rfl ?_|refine ZB ?_|refine Zw ?_|refine ZJ rfl ?_|refine Jj ?_)
 refine APG (X:=[]) (base:=w9.heap.size) x hr (by simp) (by have:=ae.size;omega) rfl (Xg (Xp _ (show (M++[u]).length+1<=1000 by omega)) (by decide)) (by simp only [maxLen];omega) λv1 nv Y4 iv fD jn=>?_
 replace k10:=k10.ext fD gu;focus repeat'(first|refine W1 ?_|refine Jt ?_|refine JR ?_|refine Ja ?_|refine ZT rfl (λa w h=>eF a w h) ?_|refine Ju ?_|refine Jv ?_|refine Jk rfl ?_|refine J5 rfl ?_|refine ZB ?_|refine Zw ?_|refine ZJ rfl ?_|refine Jj ?_)
 have eh:SlV [] Y4 nv (M++[u]++[x]):=iv.slv (by simp);refine Z4 (Zc (u:=nv) rfl rfl eh.cells eh.one k10 (by simp)) ?_;rintro _ Y5 ⟨dX,k10⟩;focus repeat'(first|refine W1 ?_|refine Jt ?_|refine JR ?_|refine Ja ?_|refine ZT rfl (λa w h=>eF a w h) ?_|refine Ju ?_|refine Jv ?_|refine Jk rfl ?_|refine J5 rfl ?_|refine ZB ?_|refine Zw ?_|refine ZJ rfl ?_|refine Jj ?_)
 exact ⟨λa ha=>app w1 ae bu nv Y4 Y5 iv fD jn dX k10 a⟩;rintro D F Y ⟨⟨ov,rfl,k10,hr⟩,k8,k9,ay⟩ hD vE fT hF -;have vF:=hS.own ay (λb hb=>by simp at hb;rcases hb with rfl|rfl|rfl<;>exact .inr (by omega));have iG:(Z99 l sent).foldl (Z0G l crrs) ⟨Z1F l crrs (-1),true,[]⟩=Zgw l crrs sent:=rfl;rw [iG] at hr k9;refine ⟨λa ha=>(Z2b (ds:=[{ target:=.collected D,args:=#[] }]) (Z4B ?_)).h a ha⟩;refine Z9N 4 [] [] [(0,1),(1,1),(2,0),(3,0)] rfl mixed (by kernel_rfl) (by kernel_rfl) (by kernel_rfl) (λw1 ae=>?_);replace k10:=k10.up ae;replace k9:=k9.up ae;replace hr:=hr.up ae;refine QD ?_;refine Z6A (Z2b (Zf3 ?_));have ny:=(ae.block D (Xm.1 fT).1 (by simp)).trans fT;refine Zgy (D:=D) rfl rfl rfl ny (.mk ⟨ov,rfl,?_,?_⟩);exact (Row.slv (X:=[]) (ZaZ hr (Z2c w1 D (.deferred none)) (λb hb h=>vE (by simp at hb;subst hb;simp [h]))) (by simp));exact ((vF.trans ae)).own (Z2c w1 D (.deferred none)) (λb hb=>.inr (by simp at hb;subst hb;have:=hS.size;omega))
theorem Ze6 (lv cv:Value) (l:List Rtn) (crrs:List Crr) (sent:Int) (w) (hl:SlV [] w lv l) (hc:SlV [] w cv crrs) (ho:Zn1 l crrs) (hs:0<=sent/\sent<=3652058) :
 CC 77 #[lv,cv,.I sent] w λv w'=>v=.tuple #[.I (ZaV l crrs sent).1,.B (ZaV l crrs sent).2]/\Stp [] w w':=by
 unfold ZaV;refine cW3 30 Tryz.func77 ?_;refine W ?_;refine CG (ZcE lv cv l crrs sent w hl hc ho hs) ?_;rintro _ w1 ⟨ov,rfl,ax,hS⟩;generalize Zgw l crrs sent=s at *;obtain ⟨least,never,out⟩:=s;dsimp only at ax ⊢;have aT:=ax.max;cases never with
 | true=>
   refine RT ?_;exact ⟨rfl,hS⟩
 | false=>
   rcases Yan out with rfl|⟨M,u,rfl⟩
   refine RT ?_;exact ⟨rfl,hS⟩;rw [Yao] at *;have kD:((M++[u]).length:Int) - 1=(M.length:Nat):=by simp
   have lV:M.length<(M++[u]).length:=by simp
   have dw:(M++[u])[M.length]=u:=by simp
   have gf:0<((M++[u]).length:Int):=by simp
   have vG:(M++[u]).getLast?=some u:=by simp
   rw [vG];refine QO ?_;rw [dw];refine RU ?_;exact ⟨rfl,hS⟩
theorem Zn3 (a b:Svc) (w):CC 79 #[aG a,aG b] w λr w'=>r=.I (cmI a.day b.day)/\Stp [] w w':=by
 refine cW2 10 Tryz.func79 ?_;refine W ?_;refine BX (Stp.refl [] w) λb2 w1 h2 e2 _ hS=>?_;replace e2:Blk w1 b2 115 (Z3.enc a):=e2;refine BX hS λb3 w2 h3 e3 hT hS=>?_;replace e2:=e2.up hT;replace e3:Blk w2 b3 115 (Z3.enc b):=e3;refine W ?_;refine CP hS (Z4z _ _ _) λw3 _ hS=>?_;refine RT ?_;exact ⟨rfl,hS⟩
def Z2o (l:List Svc):Nat->Svc
 | 0=>l.getD 0 ⟨0,0,0⟩
 | k+1=>if (l.getD (k+1) ⟨0,0,0⟩).day<(Z2o l k).day then l.getD (k+1) ⟨0,0,0⟩ else Z2o l k
def Z4X (l:List Svc):Svc×Bool:=if l=[] then (⟨0,0,0⟩,false) else (Z2o l (l.length - 1),true)
theorem Zk9 (v:Value) (l:List Svc) (w) (hs:SlV [] w v l):CC 78 #[v,.func (.func 79) #[] #[]] w λr w'=>r=.tuple #[.agg (Z3.enc (Z4X l).1).toArray,.B (Z4X l).2]/\Stp [] w w':=by
 have aT:=hs.max;unfold Z4X;refine cW2 31 Tryz.func78 ?_;refine W ?_;refine Z1 Z2 rfl ?_;rintro _ w1 ⟨b4,rfl,bC,e4,hS⟩;refine W ?_;refine Z1 Z2 rfl ?_;rintro _ w2 ⟨b6,rfl,ew,e6,hT⟩;have l4:=e4.lt;replace e4:=e4.up hT;have g6:w.heap.size<=b6:=Xg hS.size ew;replace hS:=hS.trans hT;clear hT;have n46:b4≠b6:=by omega
 replace e4:Blk w2 b4 115 (Z3.enc (⟨0,0,0⟩:Svc)):=e4;replace e6:Blk w2 b6 115 (Z3.enc (⟨0,0,0⟩:Svc)):=e6;have bu:=hs.up hS;have hz:((l.length:Int)=0)↔l=[]:=by simp
 (refine QP ?_ ?_<;>intro hc)
 obtain rfl:l=[]:=hz.1 (by assumption);refine SA (us:=Z3.enc (⟨0,0,0⟩:Svc)) e4 ?_;rintro _ w3 ⟨hT,e4⟩;refine W ?_;refine Zl rfl rfl rfl e4 rfl rfl ?_;exact .mk ⟨rfl,hS.ow hT⟩;have hn:l≠[]:=λh=>absurd (hz.2 h) (by assumption)
 have br:0<l.length:=XW.2 hn;rw [if_neg hn];refine QO ?_;refine SA (us:=Z3.enc l[0]) e6 ?_;rintro _ w3 ⟨hT,e6⟩;replace e4:=e4.ext hT (by simpa using n46);replace hS:=hS.ow hT;clear hT bu;have eN:=hs.up hS;refine QO ?_;have fU:=eN.slc (l:=1) (r:=l.length) br (Xn _);rw [Xo] at fU;refine Z9 (Z54 (l:=1) rfl eN rfl rfl br) rfl ?_;clear eN;obtain ⟨dv,qR⟩:∃ dv,dv=Eng.slc v 1 l.length 3:=⟨_,rfl⟩
 rw [<- qR];have vH:SlV [] w3 dv (l.drop 1):=qR ▸ fU;clear fU;have jD:(l.drop 1).length=l.length - 1:=by simp
 refine W ?_;have bz:=hS;refine LP (σ:=Nat) (λk=>[(1,.func (.func 79) #[] #[]),(4,pQ b4),(6,pQ b6),(17,dv),(18,.I (l.drop 1).length),(19,.I k)]) (λk w'=>k<=l.length - 1/\Stp [b6] w3 w'/\Stp [] w w'/\Blk w' b6 115 (Z3.enc (Z2o l k))/\Blk w' b4 115 (Z3.enc (⟨0,0,0⟩:Svc))) (λk=>l.length - 1 - k) 0 ⟨by omega,Stp.refl _ _,hS,by rw [Z2o,show l.getD 0 ⟨0,0,0⟩=l[0] by simp [br]];exact e6,e4⟩ ?_;clear e4 e6 hS;rintro k w4 ⟨hk,hT,hS,e6,e4⟩;by_cases ag:k<(l.drop 1).length;have ec:SlV [] w4 dv (l.drop 1):=by
  have h:=(hs.up hS).slc (l:=1) (r:=l.length) br (Xn _);rw [Xo] at h;rw [qR];exact h
 have bF:k+1<l.length:=by omega
 have dw:(l.drop 1)[k]=l[k+1]:=by simp
 have aj:Z2o l (k+1)=if l[k+1].day<(Z2o l k).day then l[k+1] else Z2o l k:=by rw [Z2o,show l.getD (k+1) ⟨0,0,0⟩=l[k+1] by simp [bF]]
 generalize Z2o l k=m at *;refine QO ?_;rw [dw];refine Z1 Z2 rfl ?_;rintro _ w5 ⟨b8,rfl,fC,e8,hA⟩;refine SA (us:=Z3.enc l[k+1]) e8 ?_;rintro _ w6 ⟨dp,e8⟩;replace hA:=hA.ow dp;replace e4:=e4.up hA;replace e6:=e6.up hA;replace hS:=hS.trans hA;replace hT:=hT.trans hA.mn;clear hA dp ec;refine W ?_;refine CP hS (Zn3 l[k+1] m _) λw7 hA hS=>?_;replace e4:=e4.up hA;replace e6:=e6.up hA;replace e8:=e8.up hA;replace hT:=hT.trans hA.mn;clear hA;have bR:cmI l[k+1].day m.day<0↔l[k+1].day<m.day:=by unfold cmI;split<;>(try split)<;>omega
 by_cases hc:l[k+1].day<m.day;rw [if_pos hc] at aj;have oK:=bR.2 hc;refine QO ?_;refine SA (us:=Z3.enc l[k+1]) e6 ?_;rintro _ w8 ⟨hA,e6⟩;replace e4:=e4.ext hA (by simpa using n46);refine QO ?_;exact QL (k+1) ⟨by omega,hT.trans hA,hS.ow hA,by rw [aj];exact e6,e4⟩ (by omega);rw [if_neg hc] at aj;have oK:=λh=>hc (bR.1 h);refine QO ?_;exact QL (k+1) ⟨by omega,hT,hS,by rw [aj];exact e6,e4⟩ (by omega);obtain rfl:k=l.length - 1:=by omega
 refine QO ?_;refine SA (us:=Z3.enc (Z2o l (l.length - 1))) e4 ?_;rintro _ w8 ⟨hA,e4⟩;refine QO ?_;refine Zl rfl rfl rfl e4 rfl rfl ?_;exact .mk ⟨rfl,hS.ow hA⟩
structure Zn4 (l:List Atp) (crrs:List Crr):Prop where
 len:l.length<=65536
 ret:∀ a∈l,Zn1 a.rets crrs
 crr:∀ a∈l,0<=a.crr/\a.crr<crrs.length
 sent:∀ a∈l,0<=a.sent/\a.sent<=3652058
def svB (crrs:List Crr) (en pa:Int) (a:Atp):Bool:=decide (a.entry=en/\a.party=pa) && (ZaV a.rets crrs a.sent).2
def ofE (crrs:List Crr) (a:Atp) (k:Nat):Svc:=⟨(ZaV a.rets crrs a.sent).1,(crrs.getD a.crr.toNat ⟨0,0⟩).extra,k⟩
def ofG (l:List Atp) (crrs:List Crr) (en pa:Int):Nat->List Svc
 | 0=>[]
 | k+1=>ofG l crrs en pa k++if svB crrs en pa (l.getD k default)=true then [ofE crrs (l.getD k default) k] else []
def Z8B (l:List Atp) (crrs:List Crr) (en pa:Int):Svc×Bool:=Z4X (ofG l crrs en pa l.length)
theorem Zfb (l:List Atp) (crrs:List Crr) (en pa:Int):∀ k,(ofG l crrs en pa k).length<=k
 | 0=>by simp [ofG]
 | k + 1 => by
   have:=Zfb l crrs en pa k;simp only [ofG,Xc];split<;>simp<;>omega
theorem Zka (a b c:Int) (w):(Instr.build 115 #[(0,.I a),(1,.I b),(2,.I c)]).run Tryz.prog w=.ok (aG (⟨a,b,c⟩:Svc)) w:=by kernel_rfl
theorem ZsQ (lv cv:Value) (l:List Atp) (crrs:List Crr) (en pa:Int) (w) (hl:SlV [] w lv l) (nz:SlV [] w cv crrs) (ho:Zn4 l crrs) :
 CC 49 #[lv,.I en,.I pa,cv] w λr w'=>r=.tuple #[.agg (Z3.enc (Z8B l crrs en pa).1).toArray,.B (Z8B l crrs en pa).2]/\Stp [] w w':=by
 have ai:=ho.len;refine cW4 59 Tryz.func49 ?_;refine W ?_;refine Z1 Z2 rfl ?_;rintro _ w1 ⟨b8,rfl,fC,e8,hS⟩;replace e8:Blk w1 b8 115 (Z3.enc (⟨0,0,0⟩:Svc)):=e8;have fI:=hl.up hS;refine W ?_;refine LP (σ:=Nat×Value) (λq=>[(1,.I en),(2,.I pa),(3,cv),(8,pQ b8),(10,q.2),(15,lv),(16,.I l.length),(17,.I q.1)]) (λq w'=>q.1<=l.length/\ZI 115 w1 w' q.2 (ofG l crrs en pa q.1)) (λq=>l.length - q.1) (0,.N) ⟨by omega,ZI.nil⟩ ?_;rintro ⟨k,rv⟩ w2 ⟨hk,hr⟩;dsimp only at hk hr ⊢;by_cases ag:k<l.length
 . have dS:=fI.up hr.2
   obtain ⟨cs,⟨tv,rfl,ht⟩,au⟩:=dS.cell ag;have aj:ofG l crrs en pa (k+1)=ofG l crrs en pa k++if svB crrs en pa l[k]=true then [ofE crrs l[k] k] else []:=by rw [ofG,show l.getD k default=l[k] by simp [ag]]
   have cO:=Zfb l crrs en pa k;have kU:=ho.ret _ (Xd ag);have iK:=ho.crr _ (Xd ag);have d9:=ho.sent _ (Xd ag);refine QO ?_;refine Z9 (Z28 rfl rfl dS ag ⟨tv,rfl,ht⟩ au) rfl ?_;refine Z1 Z2 rfl ?_;rintro _ w3 ⟨b12,rfl,qI,e12,hA⟩;refine W ?_;refine SB (us:=atC l[k] tv) (Z7.one (x:=l[k]) (w:=w2) (X:=[]) ⟨tv,rfl,ht⟩) e12 ?_;rintro _ w4 ⟨dp,e12⟩;replace hA:=hA.ow dp;replace hr:=hr.up hA;replace ht:=ht.up hA;clear hA dp dS au;have fg:SlV [] w4 cv crrs:=(nz.up hS).up hr.2;have skip:svB crrs en pa l[k]=false->ofG l crrs en pa (k+1)=ofG l crrs en pa k:=λh=>by rw [aj,h,if_neg (by simp),XD]
   repeat'(first|refine W1 ?_|omega|refine VG ?_ ?_<;>intro hg|refine VC ?_ ?_<;>intro hc)
   all_goals try exact QL (k+1,rv) ⟨ag,by rw [skip (by simp only [svB,Bool.and_eq_false_iff,decide_eq_false_iff_not];exact .inl (λh=>by omega))];exact hr⟩ (by dsimp only;omega)
   refine CP (Stp.refl [] w4) (Ze6 tv cv l[k].rets crrs l[k].sent _ ht fg kU d9) λw5 hA _=>?_;replace hr:=hr.up hA;replace e12:=e12.up hA;replace fg:=fg.up hA;clear hA ht;unfold svB at aj skip;unfold ofE at aj;generalize ZaV l[k].rets crrs l[k].sent=sv at *;obtain ⟨d,ok⟩:=sv;cases ok with
   | false=>
     dsimp only at skip ⊢;refine QO ?_;exact QL (k+1,rv) ⟨ag,by rw [skip (by simp)];exact hr⟩ (by dsimp only;omega)
   | true=>
     rw [if_pos (by simp only [Ya2,decide_eq_true_eq];constructor<;>omega)] at aj;obtain ⟨j,hj⟩:∃ j:Nat,l[k].crr=j:=⟨l[k].crr.toNat,by omega⟩
     have ft:j<crrs.length:=by omega
     rw [hj,show crrs.getD ((j:Int).toNat) ⟨0,0⟩=crrs[j] by simp [ft]] at aj;dsimp only at aj ⊢;refine QO ?_;refine Z8 (vs:=[(0,.I d),(1,.I crrs[j].extra),(2,.I k)]) rfl (Zka _ _ _) rfl ?_;refine AP1 (⟨d,crrs[j].extra,k⟩:Svc) hr (by omega) λv1 v' w' bH _=>?_
     refine QO ?_;exact QL (k+1,v') ⟨ag,by rw [aj];exact bH⟩ (by dsimp only;omega)
 obtain rfl:k=l.length:=by omega
 have eQ:SlV [] w2 rv (ofG l crrs en pa l.length):=hr.slv (by simp);replace e8:=e8.up hr.2;replace hS:=hS.trans hr.2;clear hr;unfold Z8B;refine QO ?_;refine CP hS (Zk9 rv _ _ eQ) λw3 hT hS=>?_;replace e8:=e8.up hT;refine W ?_;refine SA (us:=Z3.enc (Z4X (ofG l crrs en pa l.length)).1) e8 ?_;rintro _ w4 ⟨hA,e8⟩;refine W ?_;refine Zl rfl rfl rfl e8 rfl rfl ?_;exact .mk ⟨rfl,hS.ow hA⟩
theorem Zkb (a b c:Int) (w):(Instr.build 67 #[(0,.I a),(1,.I b),(2,.I c)]).run Tryz.prog w=.ok (aG (⟨a,b,c⟩:Rsn)) w:=by kernel_rfl
structure Nte (w0:World) (bd:Nat) (w:World) (d:Dln) (rv:Value):Prop where
 blk:Blk w bd 56 (dlC d rv)
 row:Row [bd] w w0.heap.size 67 rv d.reas
 stp:Stp [bd] w0 w
 lt:bd<w0.heap.size
 len:d.reas.length<=100000
theorem Z2Q (w0:World) (bd:Nat) (d:Dln) (rv:Value) (k a b:Int) (w) (h:Nte w0 bd w d rv) (hl:d.reas.length+1<=100000) :
 CC 53 #[.I k,.I a,.I b,pQ bd] w λr w'=>∃ rv',Nte w0 bd w' { d with reas:=d.reas++[⟨k,a,b⟩] } rv'/\Stp (bd :: ob rv) w w'/\∀ b∈ob rv',b∈ob rv\/w.heap.size<=b:=by
 obtain ⟨e3,hr,hS,ag,ai⟩:=h;refine cW4 16 Tryz.func53 ?_;refine W ?_;refine Z8 (vs:=[(0,.I k),(1,.I a),(2,.I b)]) rfl (Zkb _ _ _) rfl ?_;refine APR (X:=[bd]) (base:=w0.heap.size) (⟨k,a,b⟩:Rsn) hr (λc hc=>by have:=hS.size;simp at hc;omega) hS.size (by omega) λv1 v' w1 bH hT bq=>?_
 have e3':Blk w1 bd 56 (dlC d rv):=e3.ext hT (λhb=>by have:=(hr.ob_le bd hb).1;omega);refine W ?_;have ax:SlV [bd] w1 v' (d.reas++[⟨k,a,b⟩]):=bH.slv (λc hc=>by simp at hc;omega);refine Z4 (Zc (u:=v') rfl rfl ax.cells ax.one e3' (by simp)) ?_;rintro _ w2 ⟨aq,e3''⟩;refine W ?_;refine WR ?_;refine .mk ⟨v',⟨e3'',bH.ext aq (λc hc=>?_) (λc hc=>.inl hc),?_,ag,by simp;omega⟩,(hT.mono (λc hc=>by simp [hc])).trans aq.mn,bq⟩;simp only [Xk] at hc;subst hc;exact ⟨by simp,λh=>by have:=(bH.ob_le c h).1;omega⟩;refine (hS.own hT (λc hc=>.inr (hr.ob_le c hc).1)).trans aq
def ZgA (els:Str) (d:Dln):Fct:=⟨d.trig.entry,els,max d.due d.trig.day+1,d.trig.to_,d.trig.by_,d.trig.amt⟩
def Z9a (c:Cas) (d:Dln) (r:Nat):Fct×Bool:=(ZgA (c.ruls.getD r crZ).els d,decide (d.stat=2/\(c.ruls.getD r crZ).els≠[]/\max d.due d.trig.day+1<=c.today))
theorem Zkc (a:Int) (s:Str) (b c d e:Int) (w):(Instr.build 45 #[(0,.I a),(1,str s),(2,.I b),(3,.I c),(4,.I d),(5,.I e)]).run Tryz.prog w=.ok (aG (⟨a,s,b,c,d,e⟩:Fct)) w:=by kernel_rfl
theorem ZcF (c:Cas) (R:Z1e) (d:Dln) (dv:Value) (r:Nat) (w) (hs:SlV [] w R.rv c.ruls) (hd:SlV [] w dv d.reas) (hr:r<c.ruls.length) (hb:-1000000000<=d.due/\d.due<=1000000000/\-1000000000<=d.trig.day/\d.trig.day<=1000000000) :
 CC 47 #[.agg (JG c R).toArray,.agg (dlC d dv).toArray,.I r] w λv w'=>v=.tuple #[.agg (Z3.enc (Z9a c d r).1).toArray,.B (Z9a c d r).2]/\Stp [] w w':=by
 unfold Z9a;rw [show c.ruls.getD r crZ=c.ruls[r] by simp [hr]];refine cW3 49 Tryz.func47 ?_;refine W ?_;refine BX (Stp.refl [] w) λb3 w1 h3 e3 _ hS=>?_;replace e3:Blk w1 b3 37 (JG c R):=e3;refine BX hS λb4 w2 h4 e4 hT hS=>?_;replace e4:Blk w2 b4 56 (dlC d dv):=e4;replace e3:=e3.up hT;have l3:=e3.lt;have l4:=e4.lt;refine W ?_;refine Z1 Z2 rfl ?_;rintro _ w3 ⟨b6,rfl,ew,e6,hT⟩;have n36:b3≠b6:=by omega
 have n46:b4≠b6:=by omega
 have g6:w.heap.size<=b6:=Xg hS.size ew;replace e3:=e3.up hT;replace e4:=e4.up hT;replace hS:=hS.trans hT;clear hT;refine W ?_;refine Z9 (Zn (us:=Z3.enc d.trig) rfl rfl e4 rfl rfl) rfl ?_;refine Z1 Z2 rfl ?_;rintro _ w4 ⟨b8,rfl,fC,e8,hT⟩;refine SA (us:=Z3.enc d.trig) e8 ?_;rintro _ w5 ⟨aq,e8⟩;replace hT:=hT.ow aq;replace e3:=e3.up hT;replace e4:=e4.up hT;have l6:=e6.lt;replace e6:=e6.up hT;replace hS:=hS.trans hT;have n68:b6≠b8:=λh=>by subst h;exact absurd l6 (Nat.not_lt.2 fC)
 clear hT aq;refine W ?_;refine ZDr 23 [] [22] [(0,0),(1,1),(2,0),(3,1),(4,0),(5,0),(6,0),(7,1),(8,0),(9,1),(10,0),(11,1),(12,0),(13,0),(14,0),(15,1),(16,0),(17,1),(18,0),(19,1),(20,0),(21,2),(22,2)] (λw1 ae=>?_);replace e3:=e3.up ae;replace e4:=e4.up ae;replace e6:=e6.up ae;replace e8:=e8.up ae;replace hS:=hS.trans ae;clear ae;have eQ:=hs.up hS;obtain ⟨cs,⟨kc,kd,rfl,-,-⟩,au⟩:=eQ.cell hr;have hf:w1.cell? (ZM R.rv r 7 6)=some (str c.ruls[r].els):=au 6 _ rfl;repeat'(first|refine D1 ?_|omega|refine Z1f rfl (by first|exact trivial|exact rfl) rfl rfl (by assumption) rfl ?_|refine Zy rfl rfl rfl rfl (λhg=>?_) (λhg=>?_)|(refine Zq rfl rfl rfl rfl (λhg=>?_) (λhg=>?_)<;>refine D1 ?_)|fail)
 refine Z2D rfl trivial (vs:=[(0,.I d.trig.entry),(1,str c.ruls[r].els),(2,.I (max d.due d.trig.day+1)),(3,.I d.trig.to_),(4,.I d.trig.by_),(5,.I d.trig.amt)]) rfl (Zkc _ _ _ _ _ _) rfl ?_;refine Za rfl trivial Z2 (λ_ _ h=>h.choose_spec.2.2.2) rfl ?_;rintro _ w6 ⟨b9,rfl,iu,e9,hT⟩;refine JA rfl trivial (Zb (us:=Z3.enc (ZgA c.ruls[r].els d)) rfl rfl rfl rfl (Z3.one _) e9 rfl) rfl ?_;rintro _ w7 ⟨aq,e9⟩;replace hT:=hT.ow aq;have l6':=e6.lt;have n69:b6≠b9:=by omega
 replace e3:=e3.up hT;replace e4:=e4.up hT;replace e6:=e6.up hT;replace hS:=hS.trans hT;clear hT aq eQ au hf e8;refine D ?_;refine W ?_;replace e9:Blk w7 b9 45 (Z3.enc (ZgA c.ruls[r].els d)):=e9;have bM:(ZgA c.ruls[r].els d).kind=c.ruls[r].els/\(ZgA c.ruls[r].els d).day=max d.due d.trig.day+1:=⟨rfl,rfl⟩
 obtain ⟨v1,v2⟩:=bM;generalize ZgA c.ruls[r].els d=F at *;rw [<- v1,<- v2];clear v1 v2;refine JJ (σ:=Unit) (λ_=>[(6,pQ b6),(7,.B (decide (d.stat=2/\F.kind≠[]/\F.day<=c.today)))]) (λ_ w'=>Stp [] w w'/\Blk w' b6 45 (Z3.enc F)) ?_ ?_
 . refine ZDr 18 ([b6]) [] [(0,1),(1,0),(2,1),(3,0),(4,0),(5,0),(6,1),(7,0),(8,0),(9,0),(10,0),(11,1),(12,0),(13,1),(14,0),(15,0),(16,2),(17,0)] (λw1 ae=>?_)
   replace e3:=e3.up ae;replace e4:=e4.up ae;replace e6:=e6.up ae;replace e9:=e9.up ae;replace hS:=hS.trans ae;clear ae;repeat'(first|refine D1 ?_|omega|refine Zy rfl rfl rfl rfl (λhg=>?_) (λhg=>?_)|(refine Zq rfl rfl rfl rfl (λhg=>?_) (λhg=>?_)<;>refine D1 ?_)|fail)
   all_goals
    refine ZF rfl trivial (Zb (us:=Z3.enc F) rfl rfl rfl rfl (Z3.one _) e6 rfl) (λ_ _ h=>h.1) ?_;rintro _ wz ⟨hT,e6⟩;refine D ?_;refine ZD () ⟨rfl,?_,trivial⟩ ⟨hS.ow hT,e6⟩;show some (Value.bool _)=some (Value.bool _);congr 2
    first
     | (symm;exact decide_eq_false (λh=>by first|exact absurd h.1 (by assumption)|exact absurd h.2.1 (by assumption)))
     | (rw [decide_eq_decide];exact ⟨λh=>⟨by assumption,by assumption,h⟩,λh=>h.2.2⟩)
 rintro _ w8 ⟨hS,e6⟩;refine W ?_;refine Zl rfl rfl rfl e6 rfl rfl ?_;exact .mk ⟨rfl,hS⟩
def Res (K:MK) (w:World) (st:List Int) (sp:List Spn) (at_:Int) (r:Int×Int):Prop:=
 ∃ sv pv st2 sp2,Mch K w sv pv st2 sp2 at_ r.2 (decide (¬ r.2=0))/\(r.2=0->st2=st++[r.1]/\sp2=sp)
section
variable {K:MK} {w w':World} {sv pv:Value} {st:List Int} {sp:List Spn} {at_ er:Int} {dn:Bool}
abbrev mP (K:MK):Value:=.pointer (some ⟨K.bm,0,none⟩)
theorem ZcG (hK:KOk K) {v:Int} (h:Mch K w sv pv (st++[v]) sp at_ er dn) :
 CC 82 #[mP K] w λr w'=>r=.I v/\(∃ sv',Mch K w' sv' pv st sp at_ er dn)/\Stp [K.bm] w w':=by
 have ac:=h.blk;have ab:=h.row;unfold Z5N at ac;have hs:=ab.slv (X:=[]) (by simp);have hz:((st++[v]).length:Int) - 1=(st.length:Int):=by simp
 have hi:st.length<(st++[v]).length:=by simp
 have hm:=hs.max;refine cW1 28 Tryz.func82 ?_;refine W ?_;refine Z9 (Z1W rfl hs rfl hz (by omega)) rfl ?_;refine W ?_;have hc:=ab.cut (r:=st.length) (by omega);rw [YbH rfl] at hc;have h1:=hc.slv (X:=[]) (by simp);refine Z4 (Zc (u:=slc sv 0 st.length 1) rfl rfl h1.cells h1.one ac (by simp [evC,Z0h])) ?_;rintro _ w1 ⟨ae,ck⟩;refine RT ?_;exact ⟨by simp,⟨slc sv 0 st.length 1,h.stack hK (Stp.refl _ _) hc (λb hb=>.inl (by rw [<- ZiE sv st.length 1];exact hb)) ae ck⟩,ae⟩
theorem Z3k (hK:KOk K) {v:Int} (h:Mch K w sv pv (st++[v]) sp at_ er dn) :
 CC 82 #[mP K] w λr w'=>r=.I v/\∃ sv',Mch K w' sv' pv st sp at_ er dn:=
 Go.Eng.Calls.ret (ZcG hK h) (λ_ _ h=>⟨h.1,h.2.1⟩)
theorem Z07 (hK:KOk K) {a b:Int} (h:Mch K w sv pv (st++[a,b]) sp at_ er dn) :
 CC 204 #[mP K] w λr w'=>r=.tuple #[.I a,.I b]/\∃ sv',Mch K w' sv' pv st sp at_ er dn:=by
 refine cW1 10 Tryz.func204 ?_;refine W ?_;refine CM (ZP rfl) (Z3k (st:=st++[a]) (v:=b) hK (by simpa using h)) ?_;rintro _ w1 ⟨rfl,sv1,h1⟩;refine W ?_;refine CL (Z3k hK h1) ?_;rintro _ w2 ⟨rfl,sv2,h2⟩;refine RT ?_;exact ⟨rfl,sv2,h2⟩
theorem Z0s (hK:KOk K) (h:Mch K w sv pv st sp at_ 0 false) (hl:st.length<=100000) (n e:Int) :
 CC 203 #[mP K,.I n,.I e] w λr w'=>r=.tuple #[]/\Res K w' st sp at_ (n,e):=by
 refine Go.Eng.Calls.ret (ZjN hK h n e hl) ?_;rintro v w' ⟨rfl,sv',h1⟩;refine ⟨rfl,sv',pv,if e=0 then st++[n] else st,sp,?_,λhe=>⟨if_pos he,rfl⟩⟩;by_cases he:e=0;subst he;simpa using h1;simpa [he] using h1
theorem Zfc (hK:KOk K) (h:Mch K w sv pv st sp at_ 0 false) (hl:st.length<=100000) (n a b:Int) :
 CC 261 #[mP K,.I n,.I a,.I b] w λr w'=>r=.tuple #[]/\Res K w' st sp at_ (if n<a\/b<n then (0,5) else (n,0)):=by
 refine cW4 21 Tryz.func261 ?_;by_cases hc:n<a\/b<n
 . rw [if_pos hc]
   repeat'(first|refine W1 ?_|omega|refine VG ?_ ?_<;>intro hg|refine VC ?_ ?_<;>intro hc)
   all_goals
    refine CL (Z0s hK h hl 0 5) ?_;rintro _ w1 ⟨rfl,h1⟩;refine RT ?_;exact ⟨rfl,h1⟩
 rw [if_neg hc];refine QO ?_;refine CL (Z0s hK h hl n 0) ?_;rintro _ w1 ⟨rfl,h1⟩;refine RT ?_;exact ⟨rfl,h1⟩
theorem Z5S (hK:KOk K) (h:Mch K w sv pv st sp at_ 0 false) (hl:st.length<=100000) (n:Int) :
 CC 205 #[mP K,.I n] w λr w'=>r=.tuple #[]/\Res K w' st sp at_ (Z4K n):=by
 refine cW2 7 Tryz.func205 ?_;refine W ?_;refine CL (Zfc hK h hl n _ _) ?_;rintro _ w1 ⟨rfl,h1⟩;refine RT ?_;exact ⟨rfl,h1⟩
theorem Zwf (hK:KOk K) (h:Mch K w sv pv st sp at_ 0 false) (hl:st.length<=100000) (n:Int) :
 CC 207 #[mP K,.I n] w λr w'=>r=.tuple #[]/\Res K w' st sp at_ (Z6s n):=by
 refine cW2 7 Tryz.func207 ?_;refine W ?_;refine CL (Zfc hK h hl n _ _) ?_;rintro _ w1 ⟨rfl,h1⟩;refine RT ?_;exact ⟨rfl,h1⟩
theorem Zb0 (hK:KOk K) (h:Mch K w sv pv st sp at_ 0 false) (hl:st.length<=100000) (b:Bool) :
 CC 206 #[mP K,.B b] w λr w'=>r=.tuple #[]/\Res K w' st sp at_ (Z40 b,0):=by
 refine cW2 9 Tryz.func206 ?_;cases b;refine W ?_;refine CL (Z0s hK h hl 0 0) ?_;rintro _ w1 ⟨rfl,h1⟩;refine RT ?_;exact ⟨rfl,h1⟩;refine W ?_;refine CL (Z0s hK h hl 1 0) ?_;rintro _ w1 ⟨rfl,h1⟩;refine RT ?_;exact ⟨rfl,h1⟩
theorem ZsR (hK:KOk K) (h:Mch K w sv pv st sp at_ 0 false) (hl:st.length<=100000) (n:Int) :
 CC 128 #[mP K,.I n] w λr w'=>r=.tuple #[]/\Res K w' st sp at_ (n,0):=by
 refine cW2 7 Tryz.func128 ?_;refine W ?_;refine CL (Z0s hK h hl n 0) ?_;rintro _ w1 ⟨rfl,h1⟩;refine RT ?_;exact ⟨rfl,h1⟩
theorem Zxe (hK:KOk K) {a b:Int} (h:Mch K w sv pv (st++[a,b]) sp at_ 0 false) (hl:st.length<=100000) (n:Int) (hr:I64 (a+b)) :
 CC 130 #[mP K,.I n] w λr w'=>r=.tuple #[]/\Res K w' st sp at_ (Z4K (a+b)):=by
 try unfold I64 at hr
 refine cW2 16 Tryz.func130 ?_;refine W ?_;refine CL (Z07 hK h) ?_;rintro _ w1 ⟨rfl,sv1,h1⟩;refine W ?_;refine CL (Z5S hK h1 hl _) ?_;rintro _ w2 ⟨rfl,h2⟩;refine RT ?_;exact ⟨rfl,h2⟩
theorem Zxf (hK:KOk K) {a b:Int} (h:Mch K w sv pv (st++[a,b]) sp at_ 0 false) (hl:st.length<=100000) (n:Int) (hr:I64 (a - b)) :
 CC 131 #[mP K,.I n] w λr w'=>r=.tuple #[]/\Res K w' st sp at_ (Z4K (a - b)):=by
 try unfold I64 at hr
 refine cW2 16 Tryz.func131 ?_;refine W ?_;refine CL (Z07 hK h) ?_;rintro _ w1 ⟨rfl,sv1,h1⟩;refine W ?_;refine CL (Z5S hK h1 hl _) ?_;rintro _ w2 ⟨rfl,h2⟩;refine RT ?_;exact ⟨rfl,h2⟩
theorem Zxg (hK:KOk K) {a b:Int} (h:Mch K w sv pv (st++[a,b]) sp at_ 0 false) (hl:st.length<=100000) (n:Int) (hr:I64 (a * b)) :
 CC 132 #[mP K,.I n] w λr w'=>r=.tuple #[]/\Res K w' st sp at_ (Z4K (a * b)):=by
 try unfold I64 at hr
 refine cW2 16 Tryz.func132 ?_;refine W ?_;refine CL (Z07 hK h) ?_;rintro _ w1 ⟨rfl,sv1,h1⟩;refine W ?_;refine CL (Z5S hK h1 hl _) ?_;rintro _ w2 ⟨rfl,h2⟩;refine RT ?_;exact ⟨rfl,h2⟩
theorem ltV (hK:KOk K) {a b:Int} (h:Mch K w sv pv (st++[a,b]) sp at_ 0 false) (hl:st.length<=100000) (n:Int) (hr:True) :
 CC 134 #[mP K,.I n] w λr w'=>r=.tuple #[]/\Res K w' st sp at_ ((Z40 (decide (a<b)),0)):=by
 try unfold I64 at hr
 refine cW2 16 Tryz.func134 ?_;refine W ?_;refine CL (Z07 hK h) ?_;rintro _ w1 ⟨rfl,sv1,h1⟩;refine W ?_;refine CL (Zb0 hK h1 hl _) ?_;rintro _ w2 ⟨rfl,h2⟩;refine RT ?_;exact ⟨rfl,h2⟩
theorem leV (hK:KOk K) {a b:Int} (h:Mch K w sv pv (st++[a,b]) sp at_ 0 false) (hl:st.length<=100000) (n:Int) (hr:True) :
 CC 135 #[mP K,.I n] w λr w'=>r=.tuple #[]/\Res K w' st sp at_ ((Z40 (decide (a<=b)),0)):=by
 try unfold I64 at hr
 refine cW2 16 Tryz.func135 ?_;refine W ?_;refine CL (Z07 hK h) ?_;rintro _ w1 ⟨rfl,sv1,h1⟩;refine W ?_;refine CL (Zb0 hK h1 hl _) ?_;rintro _ w2 ⟨rfl,h2⟩;refine RT ?_;exact ⟨rfl,h2⟩
theorem eqV (hK:KOk K) {a b:Int} (h:Mch K w sv pv (st++[a,b]) sp at_ 0 false) (hl:st.length<=100000) (n:Int) (hr:True) :
 CC 136 #[mP K,.I n] w λr w'=>r=.tuple #[]/\Res K w' st sp at_ ((Z40 (decide (a=b)),0)):=by
 try unfold I64 at hr
 refine cW2 16 Tryz.func136 ?_;refine W ?_;refine CL (Z07 hK h) ?_;rintro _ w1 ⟨rfl,sv1,h1⟩;refine W ?_;refine CL (Zb0 hK h1 hl _) ?_;rintro _ w2 ⟨rfl,h2⟩;refine RT ?_;exact ⟨rfl,h2⟩
theorem Zwg (hK:KOk K) {a b:Int} (h:Mch K w sv pv (st++[a,b]) sp at_ 0 false) (hl:st.length<=100000) (n:Int) (hr:I64 (a+b)) :
 CC 140 #[mP K,.I n] w λr w'=>r=.tuple #[]/\Res K w' st sp at_ (Z6s (a+b)):=by
 try unfold I64 at hr
 refine cW2 16 Tryz.func140 ?_;refine W ?_;refine CL (Z07 hK h) ?_;rintro _ w1 ⟨rfl,sv1,h1⟩;refine W ?_;refine CL (Zwf hK h1 hl _) ?_;rintro _ w2 ⟨rfl,h2⟩;refine RT ?_;exact ⟨rfl,h2⟩
theorem ZsS (hK:KOk K) {a b:Int} (h:Mch K w sv pv (st++[a,b]) sp at_ 0 false) (hl:st.length<=100000) (n:Int) (hr:I64 (7 * b)/\I64 (a+7 * b)) :
 CC 141 #[mP K,.I n] w λr w'=>r=.tuple #[]/\Res K w' st sp at_ (Z6s (a+7 * b)):=by
 try unfold I64 at hr
 refine cW2 17 Tryz.func141 ?_;refine W ?_;refine CL (Z07 hK h) ?_;rintro _ w1 ⟨rfl,sv1,h1⟩;refine W ?_;refine CL (Zwf hK h1 hl _) ?_;rintro _ w2 ⟨rfl,h2⟩;refine RT ?_;exact ⟨rfl,h2⟩
theorem ZsT (hK:KOk K) {a b:Int} (h:Mch K w sv pv (st++[a,b]) sp at_ 0 false) (hl:st.length<=100000) (n:Int) (hr:True) :
 CC 146 #[mP K,.I n] w λr w'=>r=.tuple #[]/\Res K w' st sp at_ ((max a b,0)):=by
 try unfold I64 at hr
 refine cW2 16 Tryz.func146 ?_;refine W ?_;refine CL (Z07 hK h) ?_;rintro _ w1 ⟨rfl,sv1,h1⟩;refine W ?_;refine CL (Z0s hK h1 hl _ 0) ?_;rintro _ w2 ⟨rfl,h2⟩;refine RT ?_;exact ⟨rfl,h2⟩
theorem Zkd (hK:KOk K) {a b:Int} (h:Mch K w sv pv (st++[a,b]) sp at_ 0 false) (hl:st.length<=100000) (n:Int) (hr:True) :
 CC 147 #[mP K,.I n] w λr w'=>r=.tuple #[]/\Res K w' st sp at_ ((min a b,0)):=by
 try unfold I64 at hr
 refine cW2 16 Tryz.func147 ?_;refine W ?_;refine CL (Z07 hK h) ?_;rintro _ w1 ⟨rfl,sv1,h1⟩;refine W ?_;refine CL (Z0s hK h1 hl _ 0) ?_;rintro _ w2 ⟨rfl,h2⟩;refine RT ?_;exact ⟨rfl,h2⟩
theorem Zke (hK:KOk K) {a b:Int} (h:Mch K w sv pv (st++[a,b]) sp at_ 0 false) (hl:st.length<=100000) (n:Int) (hr:I64 (b - a)) :
 CC 148 #[mP K,.I n] w λr w'=>r=.tuple #[]/\Res K w' st sp at_ (Z4K (b - a)):=by
 try unfold I64 at hr
 refine cW2 16 Tryz.func148 ?_;refine W ?_;refine CL (Z07 hK h) ?_;rintro _ w1 ⟨rfl,sv1,h1⟩;refine W ?_;refine CL (Z5S hK h1 hl _) ?_;rintro _ w2 ⟨rfl,h2⟩;refine RT ?_;exact ⟨rfl,h2⟩
end
section
variable {K:MK} {w w':World} {sv pv:Value} {st:List Int} {sp:List Spn} {at_ er:Int} {dn:Bool}
theorem Zxh (hK:KOk K) {b:Int} (h:Mch K w sv pv (st++[b]) sp at_ 0 false) (hl:st.length<=100000) (n:Int) (hr:I64 (-b)) :
 CC 133 #[mP K,.I n] w λr w'=>r=.tuple #[]/\Res K w' st sp at_ (Z4K (-b)):=by
 unfold I64 at hr;refine cW2 9 Tryz.func133 ?_;refine W ?_;refine CL (Z3k hK h) ?_;rintro _ w1 ⟨rfl,sv1,h1⟩;refine W ?_;refine CL (Z5S hK h1 hl _) ?_;rintro _ w2 ⟨rfl,h2⟩;refine RT ?_;exact ⟨rfl,h2⟩
theorem Zxi (hK:KOk K) {b:Int} (h:Mch K w sv pv (st++[b]) sp at_ 0 false) (hl:st.length<=100000) (n:Int) :
 CC 137 #[mP K,.I n] w λr w'=>r=.tuple #[]/\Res K w' st sp at_ (Z40 (decide (b=0)),0):=by
 refine cW2 9 Tryz.func137 ?_;refine W ?_;refine CL (Z3k hK h) ?_;rintro _ w1 ⟨rfl,sv1,h1⟩;refine W ?_;refine CL (Zb0 hK h1 hl _) ?_;rintro _ w2 ⟨rfl,h2⟩;refine RT ?_;exact ⟨rfl,h2⟩
theorem Zwh (hK:KOk K) (h:Mch K w sv pv st sp at_ er dn) (n:Int) :
 CC 138 #[mP K,.I n] w λr w'=>r=.tuple #[]/\Mch K w' sv pv st sp n er dn:=by
 have ac:=h.blk;unfold Z5N at ac;refine cW2 8 Tryz.func138 ?_;refine W ?_;refine Z4 (Zc (u:=.I n) rfl rfl rfl rfl ac (by simp [evC,Z0h])) ?_;rintro _ w1 ⟨ae,ck⟩;refine RT ?_;exact ⟨rfl,h.put hK ae ck⟩
theorem Zwi (hK:KOk K) (h:Mch K w sv pv st sp at_ er dn) (n:Int) :
 CC 149 #[mP K,.I n] w λr w'=>r=.tuple #[]/\Mch K w' sv pv st sp at_ er true:=by
 have ac:=h.blk;unfold Z5N at ac;refine cW2 7 Tryz.func149 ?_;refine W ?_;refine Z4 (Zc (u:=.B true) rfl rfl rfl rfl ac (by simp [evC,Z0h])) ?_;rintro _ w1 ⟨ae,ck⟩;refine RT ?_;exact ⟨rfl,h.put hK ae ck⟩
theorem Zn5 (hK:KOk K) {b:Int} (h:Mch K w sv pv (st++[b]) sp at_ er dn) (n:Int) :
 CC 139 #[mP K,.I n] w λr w'=>r=.tuple #[]/\∃ sv',Mch K w' sv' pv st sp (if b=0 then n else at_) er dn:=by
 refine cW2 11 Tryz.func139 ?_;refine W ?_;refine CL (Z3k hK h) ?_;rintro _ w1 ⟨rfl,sv1,h1⟩;have ac:=h1.blk;unfold Z5N at ac;by_cases hb:b=0;rw [if_pos hb];refine QO ?_;refine Z4 (Zc (u:=.I n) rfl rfl rfl rfl ac (by simp [evC,Z0h])) ?_;rintro _ w2 ⟨ae,ck⟩;refine RT ?_;exact ⟨rfl,sv1,h1.put hK ae ck⟩;rw [if_neg hb];refine RT ?_;exact ⟨rfl,sv1,h1⟩
theorem Zn6 (a b c d e f g:Int) (w):(Instr.build 282 #[(0,.I a),(1,.I b),(2,.I c),(3,.I d),(4,.I e),(5,.I f),(6,.I g)]).run Tryz.prog w=.ok (.agg #[.I a,.I b,.I c,.I d,.I e,.I f,.I g]) w:=by kernel_rfl
theorem ZsU (hK:KOk K) (h:Mch K w sv pv st sp at_ 0 false) (hl:st.length<=100000) (n:Int) (h0:0<=n) (h7:n<7) :
 CC 129 #[mP K,.I n] w λr w'=>r=.tuple #[]/\Res K w' st sp at_ (Zck K.ev n):=by
 have ac:=h.blk;unfold Z5N evC Z0h at ac;have pB:=hK.bml;have bM:=hK.ev.served;refine cW2 56 Tryz.func129 ?_;refine W ?_;refine ZDr 38 [] [37] [(0,0),(1,0),(2,0),(3,0),(4,1),(5,0),(6,0),(7,0),(8,0),(9,1),(10,0),(11,0),(12,0),(13,0),(14,1),(15,0),(16,0),(17,0),(18,0),(19,1),(20,0),(21,0),(22,0),(23,0),(24,1),(25,0),(26,0),(27,0),(28,0),(29,1),(30,0),(31,0),(32,0),(33,0),(34,1),(35,0),(36,2),(37,2)] (λw1 ae=>?_);replace h:=h.up ae;replace ac:=ac.up ae;refine D ?_;refine Z2D rfl trivial rfl (Zn6 _ _ _ _ _ _ _) rfl ?_;refine Za rfl trivial Z2 (λ_ _ ⟨_,_,_,_,h⟩=>h) rfl ?_;rintro _ w2 ⟨b2,rfl,cr,e2,ah⟩;refine JA rfl trivial (Zb (us:=evC K.ev) rfl rfl rfl rfl (by intro u hu;simp [evC] at hu;rcases hu with rfl|rfl|rfl|rfl|rfl|rfl|rfl<;>rfl) e2 rfl) rfl ?_;rintro _ w3 ⟨hT,e3⟩;have am:=ah.ow hT;replace h:=h.up am;unfold evC at e3;refine D ?_;clear ac ae e2 hT ah am;have fin:∀ (v e:Int),(v,e)=Zck K.ev n->∀ w',Res K w' st sp at_ (v,e)->Ret (λr w'=>r=.tuple #[]/\Res K w' st sp at_ (Zck K.ev n)) (.returned (.tuple #[])) w':=by
  intro v e he w' hr;rw [<- he];exact .mk ⟨rfl,hr⟩
 have hn:n=0\/n=1\/n=2\/n=3\/n=4\/n=5\/n=6:=by omega
 rcases hn with rfl|rfl|rfl|rfl|rfl|rfl|rfl
 case inr.inl=>
  by_cases hs:K.ev.getD 1 0<0;refine QO ?_;focus repeat'(first|refine W1 ?_|omega|refine VG ?_ ?_<;>intro hg|refine VC ?_ ?_<;>intro hc)
  refine CL (Z0s hK h hl 0 32) ?_;rintro _ w4 ⟨rfl,h1⟩;refine W ?_;refine WR ?_;refine fin _ _ ?_ _ h1;unfold Zck;rw [if_pos ⟨rfl,by omega⟩];refine QO ?_;focus repeat'(first|refine W1 ?_|omega|refine VG ?_ ?_<;>intro hg|refine VC ?_ ?_<;>intro hc)
  focus repeat'(first|refine W1 ?_|omega|refine VG ?_ ?_<;>intro hg|refine VC ?_ ?_<;>intro hc)
  refine CL (Z0s hK h hl _ 0) ?_;rintro _ w4 ⟨rfl,h1⟩;refine W ?_;refine WR ?_;refine fin _ _ ?_ _ h1;unfold Zck;rw [if_neg (by rintro ⟨-,h⟩;omega)];rfl
 case inl=>
  refine QO ?_;repeat'(first|refine W1 ?_|omega|refine VG ?_ ?_<;>intro hg|refine VC ?_ ?_<;>intro hc)
  refine CL (Z0s hK h hl _ 0) ?_;rintro _ w4 ⟨rfl,h1⟩;refine W ?_;refine WR ?_;exact fin _ _ rfl _ h1
 case inr.inr.inl=>
  refine QO ?_;repeat'(first|refine W1 ?_|omega|refine VG ?_ ?_<;>intro hg|refine VC ?_ ?_<;>intro hc)
  refine CL (Z0s hK h hl _ 0) ?_;rintro _ w4 ⟨rfl,h1⟩;refine W ?_;refine WR ?_;exact fin _ _ rfl _ h1
 case inr.inr.inr.inl=>
  refine QO ?_;refine Z2Z (len:=7) (i:=3) rfl rfl rfl (by decide) rfl ?_;refine QO ?_;refine CL (Z0s hK h hl _ 0) ?_;rintro _ w4 ⟨rfl,h1⟩;refine W ?_;refine WR ?_;exact fin _ _ rfl _ h1
 case inr.inr.inr.inr.inl=>
  refine QO ?_;refine Z2Z (len:=7) (i:=4) rfl rfl rfl (by decide) rfl ?_;refine QO ?_;refine CL (Z0s hK h hl _ 0) ?_;rintro _ w4 ⟨rfl,h1⟩;refine W ?_;refine WR ?_;exact fin _ _ rfl _ h1
 case inr.inr.inr.inr.inr.inl=>
  refine QO ?_;refine Z2Z (len:=7) (i:=5) rfl rfl rfl (by decide) rfl ?_;refine QO ?_;refine CL (Z0s hK h hl _ 0) ?_;rintro _ w4 ⟨rfl,h1⟩;refine W ?_;refine WR ?_;exact fin _ _ rfl _ h1
 case inr.inr.inr.inr.inr.inr=>
  refine QO ?_;refine Z2Z (len:=7) (i:=6) rfl rfl rfl (by decide) rfl ?_;refine QO ?_;refine CL (Z0s hK h hl _ 0) ?_;rintro _ w4 ⟨rfl,h1⟩;refine W ?_;refine WR ?_;exact fin _ _ rfl _ h1
end
def Zn7 {α:Type} [Z3 α] (P:Program) (S:List Nat) (g:Nat) (lb:Array Value) (c:α->α->Int) (w:World):Prop:=
 ∀ (x y:α) (w':World),Stp S w w'->Calls P g (#[agg x,agg y]++lb) w' (Ret λv w''=>v=.I (c x y)/\Stp [] w' w'')
theorem Zfd (x:Int) (w):CC 125 #[.I x] w λv w'=>v=.B false/\Stp [] w w':=by
 refine cW1 6 Tryz.func125 ?_;repeat'(first|(apply Z4k;exact rfl;exact rfl)|apply Z2U|(apply Z7r;exact rfl;exact rfl)|(apply Zsw;exact rfl;exact rfl;exact rfl)|(apply Zma;exact rfl;exact rfl;exact rfl)|apply Z7C|apply Z2C|apply Z7D|refine Z4g ?_|refine Z1r ?_)
 refine RU ?_;exact ⟨by simp,Stp.refl _ _⟩
def Zkf (x y:Int):Int:=if x<y then -1 else if x > y then 1 else 0
theorem ZcH (x y:Int) (w):CC 75 #[.I x,.I y] w λv w'=>v=.I (Zkf x y)/\Stp [] w w':=by
 refine cW2 20 Tryz.func75 ?_;repeat'(first|(apply Z4k;exact rfl;exact rfl)|apply Z2U|(apply Z7r;exact rfl;exact rfl)|(apply Zdk;exact rfl;exact rfl;exact rfl)|(apply Zdl;exact rfl;exact rfl;exact rfl)|apply Z7C|apply Z2C|apply Z7p|apply Z7D|(apply Z1I;exact rfl)|(apply Z1n;exact rfl)|refine Z4g ?_|refine Z1r ?_)
 refine CL (Zfd _ _) ?_;rintro _ w1 ⟨rfl,hS⟩;repeat'(first|(apply Z4k;exact rfl;exact rfl)|apply Z2U|(apply Z7r;exact rfl;exact rfl)|(apply Zdk;exact rfl;exact rfl;exact rfl)|(apply Zdl;exact rfl;exact rfl;exact rfl)|apply Z7C|apply Z2C|apply Z7p|apply Z7D|(apply Z1I;exact rfl)|(apply Z1n;exact rfl)|refine Z4g ?_|refine Z1r ?_)
 refine CL (Zfd _ _) ?_;rintro _ w2 ⟨rfl,ah⟩;replace hS:=hS.trans ah;repeat'(first|(apply Z4k;exact rfl;exact rfl)|apply Z2U|(apply Z7r;exact rfl;exact rfl)|(apply Zdk;exact rfl;exact rfl;exact rfl)|(apply Zdl;exact rfl;exact rfl;exact rfl)|apply Z7C|apply Z2C|apply Z7p|apply Z7D|(apply Z1I;exact rfl)|(apply Z1n;exact rfl)|refine Z4g ?_|refine Z1r ?_|refine Zab rfl (λhc=>?_) (λhc=>?_)|refine Zbn rfl (λhc=>?_) (λhc=>?_))
 all_goals (refine WR ?_)
 all_goals exact .mk ⟨by unfold Zkf;(first|(simp_all;done)|(rw [if_neg (by omega),if_neg (by omega)])),hS⟩
def put {α:Type} (pre rest:List α) (x:α) (j:Nat):List α:=pre.take j++x :: pre.drop j++rest
theorem Zkg {α:Type} {pre rest:List α} {x:α} {j:Nat} (hj:j<pre.length):((put pre rest x (j+1)).set (j+1) pre[j]).set j x=put pre rest x j:=by
 have h1:pre.take (j+1)=pre.take j++[pre[j]]:=Xh hj;have h2:pre.drop j=pre[j] :: pre.drop (j+1):=Yac hj;have hl:(pre.take j).length=j:=by simp;omega
 unfold put;rw [h1,h2];simp only [Xy,XA,XT];rw [YbF,if_neg (by omega),hl,show j+1 - j=1 by omega];rw [YbF,if_neg (by omega),hl,Nat.sub_self];rfl
theorem ZsV {α:Type} {pre rest:List α} {x:α} {j:Nat} (hj:j<=pre.length) (h:j<(put pre rest x j).length):(put pre rest x j)[j]=x:=by
 rw [List.getElem_eq_iff];unfold put;rw [Yaa (by simp;omega),YaF (by simp;omega)];simp [Yae hj]
theorem Ze7 {α:Type} {pre rest:List α} {x:α} {j:Nat} (hj:j<pre.length) (h:j<(put pre rest x (j+1)).length):(put pre rest x (j+1))[j]=pre[j]:=by
 rw [List.getElem_eq_iff];unfold put;rw [Yaa (by simp;omega),Yaa (by simp;omega)];simp [hj]
theorem Zb1 {α:Type} {pre rest:List α} {x:α} {j:Nat}:(put pre rest x j).length=pre.length+1+rest.length:=by
 have:=congrArg List.length (XM j pre);simp only [Xc] at this;simp only [put,Xc,Xe];omega
def Z9Q {α:Type} (c:α->α->Int) (xs ys:List α):Prop:=ys.Perm xs/\ys.Pairwise (λa b=>¬ c b a<0)
structure Ord {α:Type} (c:α->α->Int):Prop where
 asym:∀ a b,c a b<0->¬ c b a<0
 trans:∀ a b d,¬ c b a<0->¬ c d b<0->¬ c d a<0
theorem Ze8 {α:Type} {c:α->α->Int} (ho:Ord c) {pre:List α} {x:α} {j:Nat} (hj:j<=pre.length) (hp:pre.Pairwise (λa b=>¬ c b a<0))
 (h1:∀ q (h:q<pre.length),j<=q->c x pre[q]<0) (h2:∀ h:j - 1<pre.length,0<j->¬ c x pre[j - 1]<0):(pre.take j++x :: pre.drop j).Pairwise (λa b=>¬ c b a<0):=by
 rw [Ybh];have hd:∀ a∈pre.drop j,c x a<0:=by
  intro a ha;obtain ⟨m,hm,rfl⟩:=Xr ha;simp only [List.getElem_drop];simp at hm;exact h1 _ _ (by omega)
 have ht:∀ a∈pre.take j,¬ c x a<0:=by
  intro a ha;obtain ⟨m,hm,rfl⟩:=Xr ha;simp only [Xv] at hm;simp only [List.getElem_take];by_cases e:m=j - 1;subst e;exact h2 (by omega) (by omega);exact ho.trans _ _ _ (Yam.1 hp m (j - 1) (by omega) (by omega) (by omega)) (h2 (by omega) (by omega))
 refine ⟨hp.sublist (List.take_sublist _ _),?_,?_⟩;rw [X3];exact ⟨λa ha=>ho.asym _ _ (hd a ha),hp.sublist (List.drop_sublist _ _)⟩;intro a ha b hb;rcases Xb.1 hb with rfl|hb
 exact ht a ha;exact λh=>by
  have h3:=hd b hb;exact ho.trans a x b (ht a ha) (ho.asym _ _ h3) h
theorem Z5T (x y:Int):Zkf x y<0↔x<y:=by unfold Zkf;split<;>(try split)<;>omega
def Z2p (y:Nat):Nat:=
 let a:=y % 19
 let b:=y / 100
 let c:=y % 100
 let g:=(b - (b+8) / 25+1) / 3
 let h:=(19 * a+b - b / 4 - g+15) % 30
 let l:=(32+2 * (b % 4)+2 * (c / 4) - h - c % 4) % 7
 h+l+114 - 7 * ((a+11 * h+22 * l) / 451)
def Zwj (y:Nat):Nat:=(11 * (y % 19+1)+20+((8 * (y / 100+1)+5) / 25 - 5)+60 - (3 * (y / 100+1) / 4 - 12)) % 30
def Zwk (e g:Nat):Nat:=bif Nat.beq e 24 || (Nat.beq e 25 && Nat.blt 11 g) then e+1 else e
def Zwl (e d:Nat):Nat:=let n:=(bif Nat.blt (44 - e) 21 then 44 - e+30 else 44 - e);n+7 - (d+n) % 7
def Zkh (y:Nat):Nat:=Zwl (Zwk (Zwj y) (y % 19+1)) (5 * y / 4 - (3 * (y / 100+1) / 4 - 12) - 10)
def Zfe (y:Nat):Bool:=Nat.beq (Z2p y) (Zkh y+92) && (Nat.ble 114 (Z2p y) && Nat.ble (Z2p y) 148)
def ZgB:Nat->Nat->Bool
 | 0,lo=>Zfe lo
 | k+1,lo=>ZgB k lo && ZgB k (lo+2 ^ k)
theorem Z4D:∀ (k lo d:Nat),ZgB k lo=true->lo<=d->d<lo+2 ^ k->Zfe d=true
 | 0, lo, d, h, h1, h2 => by
   have:d=lo:=by simp at h2;omega
   subst this;exact h
 | k + 1, lo, d, h, h1, h2 => by
   simp only [ZgB,Xl] at h;rcases Yaz d (lo+2 ^ k) with h3|h3
   exact Z4D k lo d h.1 h1 h3;exact Z4D k _ d h.2 h3 (by rw [Ybo] at h2;omega)
theorem ZgC:ZgB 13 1583=true:=by kernel_rfl
theorem ZgD:ZgB 8 9775=true:=by kernel_rfl
theorem Zn8 {y:Nat} (h1:1583<=y) (h2:y<=9999):Z2p y=Zkh y+92/\114<=Z2p y/\Z2p y<=148:=by
 have h:Zfe y=true:=by
  rcases Yaz y 9775 with h3|h3
  exact Z4D 13 1583 y ZgC h1 (by omega);exact Z4D 8 9775 y ZgD h3 (by omega)
 unfold Zfe at h;simp only [Xl] at h;exact ⟨XR h.1,XY h.2.1,XY h.2.2⟩
theorem ZgE {y:Nat} (h1:1583<=y) (h2:y<=9999):Z3s (y:Int)=(Z2p y:Int):=by
 unfold Z3s Z2p;dsimp only;have e1:(y:Int) % 19=((y % 19:Nat):Int):=by omega
 have e2:(y:Int) / 100=((y / 100:Nat):Int):=by omega
 have e3:(y:Int) % 100=((y % 100:Nat):Int):=by omega
 rw [e1,e2,e3];have ha:y % 19<=18:=by omega
 have hb:15<=y / 100/\y / 100<=99:=by omega
 have hc:y % 100<=99:=by omega
 generalize y % 19=a at *;generalize y / 100=b at *;generalize y % 100=c at *;have e4:((b:Int) - ((b:Int)+8) / 25+1) / 3=(((b - (b+8) / 25+1) / 3:Nat):Int):=by omega
 have hg:(b - (b+8) / 25+1) / 3+b / 4<=b:=by omega
 rw [e4];generalize (b - (b+8) / 25+1) / 3=g at *;have e5:(19 * (a:Int)+(b:Int) - (b:Int) / 4 - (g:Int)+15) % 30=(((19 * a+b - b / 4 - g+15) % 30:Nat):Int):=by omega
 rw [e5];have hh:(19 * a+b - b / 4 - g+15) % 30<=29:=by omega
 generalize (19 * a+b - b / 4 - g+15) % 30=h at *;have e6:(32+2 * ((b:Int) % 4)+2 * ((c:Int) / 4) - (h:Int) - (c:Int) % 4) % 7=(((32+2 * (b % 4)+2 * (c / 4) - h - c % 4) % 7:Nat):Int):=by omega
 rw [e6];have hl:(32+2 * (b % 4)+2 * (c / 4) - h - c % 4) % 7<=6:=by omega
 generalize (32+2 * (b % 4)+2 * (c / 4) - h - c % 4) % 7=l at *;omega
theorem Z79 {y:Int} (h1:1583<=y) (h2:y<=9999):114<=Z3s y/\Z3s y<=148:=by
 obtain ⟨k,rfl⟩:∃ k:Nat,y=(k:Int):=⟨y.toNat,by omega⟩
 have:=Zn8 (y:=k) (by omega) (by omega);rw [ZgE (by omega) (by omega)];omega
theorem Ze9 (y d:Int):Z0a y 3 d=Z0a y 3 1+d - 1/\Z0a y 4 d=Z0a y 3 1+31+d - 1:=by
 constructor;rw [show (3:Int)=((2:Nat):Int)+1 by rfl,Z2K y d 2 (by omega),Z2K y 1 2 (by omega)];omega;rw [show (4:Int)=((3:Nat):Int)+1 by rfl,show (3:Int)=((2:Nat):Int)+1 by rfl,Z2K y d 3 (by omega),Z2K y 1 2 (by omega)];have:Z2i y 3=Z2i y 2+31:=by
  have:Z2i y 3=Z2i y 2+ZK y 3:=by simp [Z2i]
  rw [this];rfl
 omega
theorem Z2q (n a b:Int) (w):CC 213 #[.I n,.I a,.I b] w λr w'=>r=.B (decide (a<=n/\n<=b))/\w'=w:=by
 refine cW3 15 Tryz.func213 ?_;by_cases h1:n>=a;by_cases h2:n<=b;rw [decide_eq_true ⟨h1,h2⟩];refine RT ?_;exact ⟨by simp [h2],rfl⟩;rw [decide_eq_false (λh=>h2 h.2)];refine RT ?_;exact ⟨by simp [h2],rfl⟩;rw [decide_eq_false (λh=>h1 h.1)];refine RT ?_;exact ⟨rfl,rfl⟩
theorem Z45 (d:Int) (w) (h0:0<=d) (h1:d<=9000000000):CC 155 #[.I d] w λr w'=>r=.I (d % 7)/\w'=w:=by
 refine cW1 7 Tryz.func155 ?_;refine RT ?_;exact ⟨by congr 1;omega,rfl⟩
theorem Zea (y:Int) (w):CC 312 #[.I y] w λr w'=>r=.tuple #[.I (if y<1583\/9999<y then 0 else Z5M y),.I (if y<1583\/9999<y then 5 else 0)]/\Stp [] w w':=by
 refine cW1 77 Tryz.func312 ?_;by_cases hy:y<1583\/9999<y
 . rw [if_pos hy,if_pos hy]
   repeat'(first|refine W1 ?_|omega|refine VG ?_ ?_<;>intro hg|refine VC ?_ ?_<;>intro hc)
   all_goals refine WR ?_
   all_goals exact .mk ⟨rfl,Stp.refl _ _⟩
 rw [if_neg hy,if_neg hy];have hb:=Z79 (y:=y) (by omega) (by omega)
 have he:Z30 (Z3s y=(19 * (y % 19)+y / 100 - y / 100 / 4 - (y / 100 - (y / 100+8) / 25+1) / 3+15) % 30 +
  (32+2 * (y / 100 % 4)+2 * (y % 100 / 4) - (19 * (y % 19)+y / 100 - y / 100 / 4 - (y / 100 - (y / 100+8) / 25+1) / 3+15) % 30 - y % 100 % 4) % 7 -
  7 * ((y % 19+11 * ((19 * (y % 19)+y / 100 - y / 100 / 4 - (y / 100 - (y / 100+8) / 25+1) / 3+15) % 30)+22 * ((32+2 * (y / 100 % 4)+2 * (y % 100 / 4) - (19 * (y % 19)+y / 100 - y / 100 / 4 - (y / 100 - (y / 100+8) / 25+1) / 3+15) % 30 - y % 100 % 4) % 7)) / 451)+114):=⟨rfl⟩
 have g1:0<=y % 19/\y % 19<=18:=by omega
 have g2:15<=y / 100/\y / 100<=99:=by omega
 have g3:0<=y % 100/\y % 100<=99:=by omega
 refine QO ?_;have g4:0<=(19 * (y % 19)+y / 100 - y / 100 / 4 - (y / 100 - (y / 100+8) / 25+1) / 3+15) % 30/\(19 * (y % 19)+y / 100 - y / 100 / 4 - (y / 100 - (y / 100+8) / 25+1) / 3+15) % 30<=29:=by omega
 generalize (19 * (y % 19)+y / 100 - y / 100 / 4 - (y / 100 - (y / 100+8) / 25+1) / 3+15) % 30=H at he g4 ⊢;have g5:0<=(32+2 * (y / 100 % 4)+2 * (y % 100 / 4) - H - y % 100 % 4) % 7/\(32+2 * (y / 100 % 4)+2 * (y % 100 / 4) - H - y % 100 % 4) % 7<=6:=by omega
 refine W ?_;generalize (32+2 * (y / 100 % 4)+2 * (y % 100 / 4) - H - y % 100 % 4) % 7=L at he g5 ⊢;rw [<- he.h];refine Z8 (vs:=[(0,.I y),(1,.I (Z3s y / 31)),(2,.I (Z3s y % 31+1))]) rfl (Z5E _ _ _) rfl ?_;refine Z1 (Z6 rfl (ZP rfl) (Z5g y _ _ _ (by omega) (by omega) (by omega) (by omega) (by omega) (by omega) (by omega))) rfl ?_;rintro _ w1 ⟨rfl,hS⟩;refine RT ?_;exact ⟨rfl,hS⟩
theorem Z2R {y m:Int} (hy:1<=y) (eq:y<=9999) (hm:1<=m) (eM:m<=12):¬ Z23 y m 1/\0<=Z0a y m 1/\Z0a y m 1<=3652058/\28<=ZK y m/\ZK y m<=31:=by
 have hl:=Z2m (y:=y) (k:=(m - 1).toNat) (by omega);rw [show (((m - 1).toNat:Int))+1=m by omega] at hl;have pW:=Z1k y m;have:=dayM_range hy eq hm eM (d:=1) (by omega) (by omega);exact ⟨by unfold Z23;omega,this.1,this.2,hl,pW⟩
theorem Z8C (h:Hol) (y:Int) (w) (hL:Z0I w) (hy:1<=y) (eq:y<=9999) (hm:1<=h.month) (eM:h.month<=12) (hw:0<=h.wd) (jH:h.wd<=6) :
 CC 307 #[agg h,.I y] w λr w'=>r=.tuple #[.I (Z0a y h.month 1),.I (Z3X y h.month h.wd)]/\Stp [] w w':=by
 obtain ⟨f1,f2,f3,f4,f5⟩:=Z2R hy eq hm eM;refine cW2 26 Tryz.func307 ?_;refine W ?_;refine Z1 (Zp rfl) rfl ?_;rintro _ w1 ⟨b,rfl,hb,ac,hS⟩;replace ac:Blk w1 b 138 (Z3.enc h):=ac;replace hL:=hL.up hS;refine W ?_;refine Z8 (vs:=[(0,.I y),(1,.I h.month),(2,.I 1)]) rfl (Z5E _ _ _) rfl ?_;refine CL (Z85 y _ _ _ hL) ?_;rintro _ w2 ⟨rfl,hT⟩;rw [if_neg f1,if_neg f1];replace ac:=ac.up hT;replace hS:=hS.trans hT;clear hT;refine W ?_;refine ZDr 12 [] [] [(0,0),(1,0),(2,0),(3,1),(4,0),(5,2),(6,0),(7,0),(8,0),(9,0),(10,0),(11,0)] (λw1 ae=>?_);replace ac:=ac.up ae;replace hS:=hS.trans ae;clear ae;refine D ?_;refine Za rfl trivial (Z6 rfl (ZP rfl) (Z45 _ _ f2 (by omega))) (λ_ _ h=>by rw [h.2];exact Stp.refl _ _) rfl ?_;rintro _ w3 ⟨rfl,rfl⟩;refine D ?_;refine W ?_;refine WR ?_;refine .mk ⟨?_,hS⟩;unfold Z3X;rfl
def Z1N (h:Hol) (y:Int):Int×Bool:=
 if h.kind=1 then (if Z23 y h.month h.day then 0 else Z0a y h.month h.day,!decide (Z23 y h.month h.day))
 else if h.kind=2 then (Z3X y h.month h.wd+7 * (h.nth - 1),decide (Z3X y h.month h.wd+7 * (h.nth - 1)<Z0a y h.month 1+ZK y h.month))
 else if h.kind=3 then (Z3X y h.month h.wd+(Z0a y h.month 1+ZK y h.month - 1 - Z3X y h.month h.wd) / 7 * 7,true)
 else ((if y<1583\/9999<y then 0 else Z5M y)+h.off,!decide (y<1583\/9999<y))
theorem ZsW {h:Hol} {y:Int} (h1:h.first<=y) (h2:y<=h.last):ZmR h y=if (Z1N h y).2=true then some (Z1N h y).1 else none:=by
 unfold ZmR Z1N;rw [if_neg (by omega)];by_cases k1:h.kind=1;rw [if_pos k1,if_pos k1];by_cases hb:Z23 y h.month h.day;simp [hb];simp [hb];rw [if_neg k1,if_neg k1];by_cases k2:h.kind=2;rw [if_pos k2,if_pos k2];simp;rw [if_neg k2,if_neg k2];by_cases k3:h.kind=3;rw [if_pos k3,if_pos k3];rfl;rw [if_neg k3,if_neg k3];by_cases hy:y<1583\/9999<y;simp [hy];simp [hy]
abbrev ZcI (h:Hol) (y:Int):Value:=.tuple #[.I (Z1N h y).1,.B (Z1N h y).2]
theorem Z7a {y:Int} (h1:1583<=y) (h2:y<=9999):1000<=Z5M y/\Z5M y<=3652058:=by
 have hb:=Z79 h1 h2;have e3:ZK y 3=31:=rfl;have e4:ZK y 4=30:=rfl;have hs:=Z3R h1;have cn:500000<=Z1d 1583:=by decide
 have oL:=Ze9 y (Z3s y % 31+1);have oM:Z0a y 3 1=Z1d y+Z2i y 2:=by
  have:=Z2K y 1 2 (by omega);rw [show ((2:Nat):Int)+1=3 by rfl] at this;omega
 have hc:0<=Z2i y 2:=by
  have:=Z4r (y:=y) (Xq 2) (by omega);simpa [Z2i] using this
 unfold Z5M;have hm:Z3s y / 31=3\/Z3s y / 31=4:=by omega
 rcases hm with hm|hm
 rw [hm];exact ⟨by omega,(dayM_range (by omega) h2 (by omega) (by omega) (by omega) (by omega)).2⟩;rw [hm];exact ⟨by omega,(dayM_range (by omega) h2 (by omega) (by omega) (by omega) (by omega)).2⟩
theorem Z3l {y m wd:Int} (hy:1<=y) (eq:y<=9999) (hm:1<=m) (eM:m<=12):Z0a y m 1<=Z3X y m wd/\Z3X y m wd<=Z0a y m 1+6:=by
 unfold Z3X;omega
theorem Zeb {h:Hol} {y:Int} (ho:Z27 h) (h1:h.first<=y) (h2:y<=h.last) (hp:(Z1N h y).2=true):0<=(Z1N h y).1/\(Z1N h y).1<=3653000:=by
 have hy:=ho.f1;have eq:=ho.l1;have bF:=ho.k1;have de:=ho.k2;unfold Z1N at hp ⊢;by_cases k1:h.kind=1;rw [if_pos k1] at hp ⊢;obtain ⟨m1,m2⟩:=ho.month (by omega);by_cases hb:Z23 y h.month h.day;simp [hb] at hp;dsimp only;rw [if_neg hb];unfold Z23 at hb;have:=dayM_range (y:=y) (m:=h.month) (d:=h.day) (by omega) (by omega) (by omega) (by omega) (by omega) (by omega);omega;rw [if_neg k1] at hp ⊢;by_cases k2:h.kind=2;rw [if_pos k2] at hp ⊢;obtain ⟨m1,m2⟩:=ho.month (by omega);obtain ⟨n1,n2⟩:=ho.nth k2;obtain ⟨f1,f2,f3,f4,f5⟩:=Z2R (y:=y) (by omega) (by omega) m1 m2;obtain ⟨f6,f7⟩:=Z3l (y:=y) (wd:=h.wd) (by omega) (by omega) m1 m2;dsimp only;omega;rw [if_neg k2] at hp ⊢;by_cases k3:h.kind=3;rw [if_pos k3] at hp ⊢;obtain ⟨m1,m2⟩:=ho.month (by omega);obtain ⟨f1,f2,f3,f4,f5⟩:=Z2R (y:=y) (by omega) (by omega) m1 m2;obtain ⟨f6,f7⟩:=Z3l (y:=y) (wd:=h.wd) (by omega) (by omega) m1 m2;dsimp only;omega;rw [if_neg k3] at hp ⊢;obtain ⟨o1,o2⟩:=ho.off (by omega);by_cases hy:y<1583\/9999<y;simp [hy] at hp;dsimp only;rw [if_neg hy];have:=Z7a (y:=y) (by omega) (by omega);omega
theorem ZgF (h:Hol) (y:Int) (w) (hL:Z0I w) (hk:h.kind=1) :
 CC 303 #[agg h,.I y] w λr w'=>r=ZcI h y/\Stp [] w w':=by
 have e:Z1N h y=(if Z23 y h.month h.day then 0 else Z0a y h.month h.day,!decide (Z23 y h.month h.day)):=by unfold Z1N;rw [if_pos hk]
 unfold ZcI;rw [e];refine cW2 21 Tryz.func303 ?_;refine W ?_;refine Z1 (Zp rfl) rfl ?_;rintro _ w1 ⟨b,rfl,hb,ac,hS⟩;replace ac:Blk w1 b 138 (Z3.enc h):=ac;replace hL:=hL.up hS;refine W ?_;refine Z8 (vs:=[(0,.I y),(1,.I h.month),(2,.I h.day)]) rfl (Z5E _ _ _) rfl ?_;refine CL (Z85 y _ _ _ hL) ?_;rintro _ w2 ⟨rfl,hT⟩;refine W ?_;refine WR ?_;refine .mk ⟨?_,hS.trans hT⟩;by_cases hb:Z23 y h.month h.day<;>simp [hb]
theorem ZgG (h:Hol) (y:Int) (w) (hL:Z0I w) (hy:1<=y) (eq:y<=9999) (hk:h.kind=2) (ho:Z27 h) :
 CC 306 #[agg h,.I y] w λr w'=>r=ZcI h y/\Stp [] w w':=by
 have e:Z1N h y=(Z3X y h.month h.wd+7 * (h.nth - 1),decide (Z3X y h.month h.wd+7 * (h.nth - 1)<Z0a y h.month 1+ZK y h.month)):=by unfold Z1N;rw [if_neg (by omega),if_pos hk]
 obtain ⟨m1,m2⟩:=ho.month (by omega);obtain ⟨d1,d2⟩:=ho.wd (.inl hk);obtain ⟨n1,n2⟩:=ho.nth hk;obtain ⟨f1,f2,f3,f4,f5⟩:=Z2R hy eq m1 m2;obtain ⟨f6,f7⟩:=Z3l (wd:=h.wd) hy eq m1 m2;unfold ZcI;rw [e];refine cW2 29 Tryz.func306 ?_;refine W ?_;refine Z1 (Zp rfl) rfl ?_;rintro _ w1 ⟨b,rfl,hb,ac,hS⟩;replace ac:Blk w1 b 138 (Z3.enc h):=ac;replace hL:=hL.up hS;refine W ?_;refine CL (Z8C h y _ hL hy eq m1 m2 d1 d2) ?_;rintro _ w2 ⟨rfl,hT⟩;replace ac:=ac.up hT;replace hL:=hL.up hT;replace hS:=hS.trans hT;refine W ?_;refine CM (Zg rfl rfl) (Z3d y _ _ hL (by omega) (by omega)) ?_;rintro _ _ ⟨rfl,rfl⟩;refine RT ?_;exact ⟨rfl,hS⟩
theorem ZgH (h:Hol) (y:Int) (w) (hL:Z0I w) (hy:1<=y) (eq:y<=9999) (hk:h.kind=3) (ho:Z27 h) :
 CC 309 #[agg h,.I y] w λr w'=>r=ZcI h y/\Stp [] w w':=by
 have e:Z1N h y=(Z3X y h.month h.wd+(Z0a y h.month 1+ZK y h.month - 1 - Z3X y h.month h.wd) / 7 * 7,true):=by unfold Z1N;rw [if_neg (by omega),if_neg (by omega),if_pos hk]
 obtain ⟨m1,m2⟩:=ho.month (by omega);obtain ⟨d1,d2⟩:=ho.wd (.inr hk);obtain ⟨f1,f2,f3,f4,f5⟩:=Z2R hy eq m1 m2;obtain ⟨f6,f7⟩:=Z3l (wd:=h.wd) hy eq m1 m2;unfold ZcI;rw [e];refine cW2 29 Tryz.func309 ?_;refine W ?_;refine Z1 (Zp rfl) rfl ?_;rintro _ w1 ⟨b,rfl,hb,ac,hS⟩;replace ac:Blk w1 b 138 (Z3.enc h):=ac;replace hL:=hL.up hS;refine W ?_;refine CL (Z8C h y _ hL hy eq m1 m2 d1 d2) ?_;rintro _ w2 ⟨rfl,hT⟩;replace ac:=ac.up hT;replace hL:=hL.up hT;replace hS:=hS.trans hT;refine W ?_;refine CM (Zg rfl rfl) (Z3d y _ _ hL (by omega) (by omega)) ?_;rintro _ _ ⟨rfl,rfl⟩;refine RT ?_;exact ⟨rfl,hS⟩
theorem ZgI (h:Hol) (y:Int) (w) (hk:h.kind=4) (ho:Z27 h) :
 CC 311 #[agg h,.I y] w λr w'=>r=ZcI h y/\Stp [] w w':=by
 have e:Z1N h y=((if y<1583\/9999<y then 0 else Z5M y)+h.off,!decide (y<1583\/9999<y)):=by unfold Z1N;rw [if_neg (by omega),if_neg (by omega),if_neg (by omega)]
 obtain ⟨o1,o2⟩:=ho.off hk;have hr:0<=(if y<1583\/9999<y then 0 else Z5M y)/\(if y<1583\/9999<y then 0 else Z5M y)<=3652058:=by
  split;omega;have:=Z7a (y:=y) (by omega) (by omega);omega
 unfold ZcI;rw [e];refine cW2 19 Tryz.func311 ?_;refine W ?_;refine Z1 (Zp rfl) rfl ?_;rintro _ w1 ⟨b,rfl,hb,ac,hS⟩;replace ac:Blk w1 b 138 (Z3.enc h):=ac;refine W ?_;refine CL (Zea y _) ?_;rintro _ w2 ⟨rfl,hT⟩;replace ac:=ac.up hT;replace hS:=hS.trans hT;refine W ?_;refine WR ?_;refine .mk ⟨?_,hS⟩;by_cases hy:y<1583\/9999<y<;>simp [hy]
theorem Zec (g:Nat) (fn:Func) [Fun Tryz.prog g fn] (lb:Array Value) (c:Spn->Spn->Int) (ho:Ord c) (X:List Nat) (base:Nat) (v:Value) (xs:List Spn) (w:World) (hX:∀ b∈X,b<base) (aX:base<=w.heap.size) (ab:Row X w base 345 v xs) (hp:Zn7 Tryz.prog (ob v) g lb c w) (ai:xs.length<=1000) :
 CC 360 #[v,.I 0,.I xs.length,.func (.func g) #[] lb] w λr w'=>∃ ys,Z9Q c xs ys/\Row X w' base 345 v ys/\Stp (ob v) w w':=by
 refine cW4 53 Tryz.func360 ?_;refine W ?_
 refine Zt (σ:=Nat) (λi=>[(0,v),(1,.I 0),(2,.I xs.length),(3,.func (.func g) #[] lb),(8,.I (i+1))])
  (λi w'=>Stp (ob v) w w'/\∃ ys,ys.Perm xs/\Row X w' base 345 v ys/\(ys.take (i+1)).Pairwise (λa b=>¬ c b a<0)) (λi=>xs.length - i) 0 ⟨rfl,rfl,rfl,rfl,rfl,trivial⟩
  ⟨Stp.refl _ _,xs,YaH _,ab,?_⟩ ?_
 . cases xs with
   | nil=>simp
   | cons x r=>simp
 rintro i w1 ⟨hS,ys,iz,ab,jU⟩;have fG:=iz.length_eq;by_cases oD:i+1<xs.length
 . repeat'(first|refine W1 ?_|refine VG ?_ ?_<;>intro hg|refine VC ?_ ?_<;>intro hc)
   rotate_left
   omega;obtain ⟨pre,x,rest,cq,rfl⟩:∃ pre x rest,pre.length=i+1/\ys=put pre rest x pre.length:=by
    refine ⟨ys.take (i+1),ys[i+1],ys.drop (i+2),by simp;omega,?_⟩;unfold put;have hl:(ys.take (i+1)).length=i+1:=by simp;omega
    rw [hl,YaG,Nat.min_self,YaA (by omega)]
    conv=>lhs;rw [<- XM (i+1) ys,Yac (by omega)]
    simp
   have cu:pre.Pairwise (λa b=>¬ c b a<0):=by
    have:(put pre rest x pre.length).take (i+1)=pre:=by
     unfold put;rw [Xo,YaZ,Xy,<- cq,YbH];rfl
    rwa [this] at jU
   have vI:pre.length+1+rest.length=xs.length:=by rw [<- fG,Zb1]
   have fin:∀ j (w':World),j<=pre.length->Stp (ob v) w w'->Row X w' base 345 v (put pre rest x j)->(∀ q (h:q<pre.length),j<=q->c x pre[q]<0)->(∀ h:j - 1<pre.length,0<j->¬ c x pre[j - 1]<0)->
    Stp (ob v) w w'/\∃ ys,ys.Perm xs/\Row X w' base 345 v ys/\(ys.take (i+1+1)).Pairwise (λa b=>¬ c b a<0):=by
    intro j w' hj hS ab h1 h2;refine ⟨hS,put pre rest x j,?_,ab,?_⟩;refine List.Perm.trans ?_ iz;unfold put;rw [Xo,YaZ];refine List.Perm.append_right _ ?_;refine List.Perm.trans List.perm_middle ?_;rw [XM];exact (List.perm_append_singleton x pre).symm;have e:(put pre rest x j).take (i+1+1)=pre.take j++x :: pre.drop j:=by
     have hl:(pre.take j++x :: pre.drop j).length=i+1+1:=by
      have:=congrArg List.length (XM j pre);simp only [Xc] at this;simp only [Xc,Xe];omega
     unfold put;rw [<- hl,YbH];rfl
    rw [e];exact Ze8 ho hj cu h1 h2
   refine Zt (σ:=Nat) (λj=>[(0,v),(1,.I 0),(2,.I xs.length),(3,.func (.func g) #[] lb),(8,.I (i+1)),(9,.I (j:Int))])
    (λj w'=>j<=pre.length/\Stp (ob v) w w'/\Row X w' base 345 v (put pre rest x j)/\(∀ q (h:q<pre.length),j<=q->c x pre[q]<0)) (λj=>j) (i+1) ⟨rfl,rfl,rfl,rfl,rfl,rfl,trivial⟩
    ⟨by omega,hS,by rw [cq] at ab;exact ab,λq h hq=>by omega⟩ ?_
   clear ab hS;rintro j w2 ⟨hj,hS,ab,ag⟩;have hs:=ab.slv hX;cases j with
   | zero=>
     refine W ?_;refine ZDr 17 [] [] [(0,0),(1,0),(2,0),(3,0),(4,0),(5,0),(6,0),(7,0),(8,1),(9,0),(10,0),(11,0),(12,0),(13,1),(14,2),(15,0),(16,0)] (λw1 ae=>?_);replace hS:=hS.trans ae.mn;replace ab:=ab.up ae;replace hs:=hs.up ae;refine D ?_;refine W ?_;exact QL (i+1) (fin 0 _ (Xq _) hS ab ag (λ_ h=>absurd h (Nat.lt_irrefl _))) (by omega)
   | succ j=>
     have hz:((j+1:Nat):Int) - 1=(j:Int):=by omega
     have bJ:j+1<(put pre rest x (j+1)).length:=by rw [Zb1];omega
     have fx:j<(put pre rest x (j+1)).length:=by rw [Zb1];omega
     have a1:=ZsV (rest:=rest) (x:=x) hj bJ;have a0:=Ze7 (rest:=rest) (x:=x) (Nat.lt_of_succ_le hj) fx;refine W ?_;refine ZDr 17 [] [] [(0,0),(1,0),(2,0),(3,0),(4,0),(5,0),(6,0),(7,0),(8,1),(9,0),(10,0),(11,0),(12,0),(13,1),(14,2),(15,0),(16,0)] (λw1 ae=>?_);replace hS:=hS.trans ae.mn;replace ab:=ab.up ae;replace hs:=hs.up ae;refine QD ?_;refine Za rfl (by first|exact trivial|exact rfl) (Z0k (f:=g) rfl (Zg rfl rfl) rfl (hp _ _ _ hS)) (λ_ _ h=>h.2) rfl ?_;rintro _ w3 ⟨rfl,am⟩;rw [a1,a0];replace hS:=hS.trans am.mn;replace ab:=ab.up am;replace hs:=hs.up am;refine D ?_
     (refine QP ?_ ?_<;>intro hc)
     rename_i hc;refine ZDr 18 [] [15,17] [(0,0),(1,0),(2,0),(3,0),(4,0),(5,0),(6,0),(7,0),(8,0),(9,1),(10,0),(11,0),(12,0),(13,1),(14,0),(15,2),(16,0),(17,2)] (λw1 ae=>?_);replace hS:=hS.trans ae.mn;replace ab:=ab.up ae;replace hs:=hs.up ae;refine D ?_;rw [a1,a0];refine JA rfl trivial (Z7I (i:=j+1) (y':=pre[j]) rfl rfl rfl rfl ab hX bJ) rfl ?_;rintro _ w4 ⟨ab,aI⟩;replace hS:=hS.trans aI;refine D ?_;refine JA rfl trivial (Z7I (i:=j) (y':=x) rfl rfl rfl rfl ab hX (by rw [X6];exact fx)) rfl ?_;rintro _ w5 ⟨ab,aD⟩;replace hS:=hS.trans aD;rw [Zkg (Nat.lt_of_succ_le hj)] at ab;refine D ?_;refine W ?_;refine Zx j ⟨rfl,rfl,rfl,rfl,rfl,(by rw [<- hz];rfl),trivial⟩ ⟨by omega,hS,ab,λq h hq=>?_⟩ (by omega);by_cases e:q=j;subst e;exact hc;exact ag q h (by omega);exact QL (i+1) (fin (j+1) _ hj hS ab ag (λ_ _=>by assumption)) (by omega)
 focus repeat'(first|refine W1 ?_|refine VG ?_ ?_<;>intro hg|refine VC ?_ ?_<;>intro hc)
 omega;refine WR ?_;refine .mk ⟨ys,⟨iz,?_⟩,ab,hS⟩
 rwa [XH (by omega)] at jU
theorem Zn9 (g:Nat) (fn:Func) [Fun Tryz.prog g fn] (lb:Array Value) (c:Spn->Spn->Int) (ho:Ord c) (X:List Nat) (base:Nat) (v:Value) (xs:List Spn) (w:World) (hX:∀ b∈X,b<base) (aX:base<=w.heap.size) (ab:Row X w base 345 v xs) (hp:Zn7 Tryz.prog (ob v) g lb c w) (ai:xs.length<20) :
 CC 347 #[v,.I xs.length,.func (.func g) #[] lb] w λr w'=>∃ ys,Z9Q c xs ys/\Row X w' base 345 v ys/\Stp (ob v) w w':=by
 have nl:¬ ((20:Int)<=xs.length):=by omega
 have nl2:¬ ((20:Int)<xs.length):=by omega
 refine cW3 63 Tryz.func347 ?_;refine W ?_;refine Zt (σ:=Unit) (λ_=>[(0,v),(1,.I xs.length),(2,.func (.func g) #[] lb),(6,.I 20),(7,.I 0),(8,.I 20)]) (λ_ w'=>w'=w) (λ_=>0) () ⟨rfl,rfl,rfl,rfl,rfl,rfl,trivial⟩ rfl ?_;rintro _ w' rfl;repeat'(first|refine W1 ?_|refine VG ?_ ?_<;>intro hg|refine VC ?_ ?_<;>intro hc)
 exact absurd (by assumption) nl;refine CM (Z7j rfl rfl rfl rfl) (Zec g fn lb c ho X base v xs _ hX aX ab hp (by omega)) ?_;rintro r w2 az;refine W ?_;refine Zt (σ:=Unit) (λ_=>[(1,.I xs.length),(6,.I 20)]) (λ_ w'=>w'=w2) (λ_=>0) () ⟨rfl,rfl,trivial⟩ rfl ?_;rintro _ w' rfl;repeat'(first|refine W1 ?_|refine VG ?_ ?_<;>intro hg|refine VC ?_ ?_<;>intro hc)
 exact absurd (by assumption) nl2;refine WR ?_;exact .mk az
theorem ZcJ (g:Nat) (fn:Func) [Fun Tryz.prog g fn] (lb:Array Value) (c:Spn->Spn->Int) (ho:Ord c) (X:List Nat) (base:Nat) (v:Value) (xs:List Spn) (w:World) (hX:∀ b∈X,b<base) (aX:base<=w.heap.size) (ab:Row X w base 345 v xs) (hp:Zn7 Tryz.prog (ob v) g lb c w) (ai:xs.length<20) :
 CC 318 #[v,.func (.func g) #[] lb] w λr w'=>∃ ys,Z9Q c xs ys/\Row X w' base 345 v ys/\Stp (ob v) w w':=by
 have hs:=ab.slv hX;refine cW2 9 Tryz.func318 ?_;refine W ?_;refine CL (Zn9 g fn lb c ho X base v xs _ hX aX ab hp ai) ?_;rintro r w2 az;refine W ?_;refine WR ?_;exact .mk az
def ZcK (x y:Spn):Int:=Zkf x.1 y.1
theorem Zxj:Ord ZcK where
 asym:=λa b=>by unfold ZcK;rw [Z5T,Z5T];omega
 trans:=λa b d=>by unfold ZcK;rw [Z5T,Z5T,Z5T];omega
theorem Zwm (S:List Nat) (w):Zn7 Tryz.prog S 319 #[] ZcK w:=by
 intro x y w1 hS;show Calls _ _ #[agg x,agg y] _ _;refine cW2 10 Tryz.func319 ?_;refine W ?_;refine Z1 (Zp rfl) rfl ?_;rintro _ w2 ⟨c,rfl,hc,ac,ah⟩;replace ac:Blk w2 c _ (Z3.enc x):=ac;refine Z1 (Zp rfl) rfl ?_;rintro _ w3 ⟨c2,rfl,ce,aP,am⟩;replace aP:Blk w3 c2 _ (Z3.enc y):=aP;replace ac:=ac.up am;replace ah:=ah.trans am;refine W ?_;refine CL (ZcH _ _ _) ?_;rintro _ w4 ⟨rfl,aI⟩;refine RT ?_;exact ⟨rfl,ah.trans aI⟩
def ofH (y:Int) (h:Hol) (i:Int):List Spn:=match Z2n h y with|some d=>[(d,i)]|none=>[]
def ofK (y:Int):List Hol->Int->List Spn
 | [],_=>[]
 | h :: r,i=>ofH y h i++ofK y r (i+1)
theorem Zff (y:Int):∀ (a b:List Hol) (i:Int),ofK y (a++b) i=ofK y a i++ofK y b (i+a.length)
 | [],b,i=>by simp [ofK]
 | h :: a, b, i => by
   simp only [XA,ofK,Zff y a b (i+1),Xy,Xe];congr 3;omega
theorem Zfg (y d:Int):∀ (l:List Hol) (i:Int),(∃ r,(d,r)∈ofK y l i)↔∃ h∈l,Z2n h y=some d
 | [],i=>by simp [ofK]
 | h :: l, i => by
   simp only [ofK,Xi,Xb,exists_or,exists_eq_or_imp];have ih:=Zfg y d l (i+1);constructor;rintro (⟨r,hr⟩|hr)
   . left
     unfold ofH at hr;cases hk:Z2n h y with
     | none=>rw [hk] at hr;simp at hr
     | some d'=>rw [hk] at hr;simp at hr;rw [hr.1]
   right;exact ih.1 hr;rintro (hk|hk)
   left;exact ⟨i,by unfold ofH;rw [hk];simp⟩
   right;exact ih.2 hk
theorem Z7y (y:Int):∀ (l:List Hol) (i:Int),(ofK y l i).length<=l.length
 | [],i=>by simp [ofK]
 | h :: l, i => by
   have:=Z7y y l (i+1);simp only [ofK,Xc,Xe];unfold ofH;cases Z2n h y<;>simp<;>omega
abbrev fnV (f:Nat):Value:=.func (.func f) #[] #[]
abbrev Z5m:List Value:=[fnV 302,fnV 303,fnV 305,fnV 306,fnV 308,fnV 309,fnV 310,fnV 311]
theorem Zb2 (f g:Nat) (w):(Instr.build 324 #[(0,fnV f),(1,fnV g)]).run Tryz.prog w=.ok (.agg #[fnV f,fnV g]) w:=by kernel_rfl
theorem Zna (a b c d e f g h:Nat) (w):(Instr.build 325 #[(0,.agg #[fnV a,fnV b]),(1,.agg #[fnV c,fnV d]),(2,.agg #[fnV e,fnV f]),(3,.agg #[fnV g,fnV h])]).run Tryz.prog w=.ok (.agg #[fnV a,fnV b,fnV c,fnV d,fnV e,fnV f,fnV g,fnV h]) w:=by kernel_rfl
theorem Z9R (w):CC 253 #[] w λr w'=>r=.agg Z5m.toArray/\Stp [] w w':=by
 refine cW0 6 Tryz.func253 ?_;refine W ?_;refine Z1 Z2 rfl ?_;rintro _ w1 ⟨b,rfl,hb,ac,hS⟩;refine W ?_;refine Z8 (vs:=[(0,fnV 302),(1,fnV 303)]) rfl (Zb2 _ _) rfl ?_;refine Z8 (vs:=[(0,fnV 305),(1,fnV 306)]) rfl (Zb2 _ _) rfl ?_;refine Z8 (vs:=[(0,fnV 308),(1,fnV 309)]) rfl (Zb2 _ _) rfl ?_;refine Z8 (vs:=[(0,fnV 310),(1,fnV 311)]) rfl (Zb2 _ _) rfl ?_;refine Z8 (vs:=[(0,.agg #[fnV 302,fnV 303]),(1,.agg #[fnV 305,fnV 306]),(2,.agg #[fnV 308,fnV 309]),(3,.agg #[fnV 310,fnV 311])]) rfl (Zna _ _ _ _ _ _ _ _) rfl ?_;refine SB (us:=Z5m) (by intro u hu;simp [Z5m] at hu;rcases hu with rfl|rfl|rfl|rfl|rfl|rfl|rfl|rfl<;>rfl) ac ?_;rintro _ w2 ⟨hT,aP⟩;refine W ?_;refine Zk rfl rfl rfl aP rfl ?_;exact .mk ⟨rfl,hS.ow hT⟩
theorem Znb {m d:Int} (h0:0<=m) (h2:m<=2) (hd:0<=d):Z6u[0+m.toNat * 7+(d % 7).toNat * 1]?=some (Z3Y m d - d):=by
 have hm:m=0\/m=1\/m=2:=by omega
 have hw:d % 7=0\/d % 7=1\/d % 7=2\/d % 7=3\/d % 7=4\/d % 7=5\/d % 7=6:=by omega
 unfold Z3Y;rcases hm with rfl|rfl|rfl<;>rcases hw with h|h|h|h|h|h|h<;>rw [h]<;>simp [Z6u]<;>omega
theorem ZgJ (m d:Int):d - 1<=Z3Y m d/\Z3Y m d<=d+2:=by
 unfold Z3Y;repeat' split
 all_goals omega
theorem Znc (a b:Int) (w):(Instr.build 345 #[(0,.I a),(1,.I b)]).run Tryz.prog w=.ok (agg ((a,b):Spn)) w:=by kernel_rfl
theorem Zki (d:Spn) (w):(Instr.buildSlice 342 1 #[(0,agg d)]).run Tryz.prog w=.ok (.slice (some ⟨w.heap.size,0,none⟩) 1 1) (w.alloc (.cells (Z3.enc d).toArray 345)):=by kernel_rfl
theorem Znd (v:Value) (l:List Hol) (y:Int) (w) (hs:SlV [] w v l) (hL:Z0I w) (hM:Z3y w) (ho:∀ h∈l,Z27 h) (hl:l.length<20) :
 CC 272 #[v,.I y] w λr w'=>∃ ys,Z9Q ZcK (ofK y l 0) ys/\ZI 345 w w' r ys:=by
 refine cW2 61 Tryz.func272 ?_;refine W ?_;refine CL (Z9R _) ?_;rintro _ w1 ⟨rfl,hS⟩;refine Z1 Z2 rfl ?_;rintro _ w2 ⟨b6,rfl,ew,e6,ah⟩;refine W ?_;refine SB (us:=Z5m) (by intro u hu;simp [Z5m] at hu;rcases hu with rfl|rfl|rfl|rfl|rfl|rfl|rfl|rfl<;>rfl) e6 ?_;rintro _ w3 ⟨hT,k6⟩;replace hS:=hS.trans (ah.ow hT);clear e6 ah hT;replace hs:=hs.up hS;replace hL:=hL.up hS;replace hM:=hM.up hS;refine W ?_
 refine Zt (σ:=Nat×Value) (λq=>[(0,v),(1,.I y),(5,q.2),(6,pQ b6),(12,v),(13,.I (l.length:Int)),(14,.I (q.1:Int))])
  (λq w'=>q.1<=l.length/\ZI 345 w3 w' q.2 (ofK y (l.take q.1) 0)) (λq=>l.length - q.1) (0,.N) ⟨rfl,rfl,rfl,rfl,rfl,rfl,rfl,trivial⟩ ⟨Xq _,ZI.nil⟩ ?_
 rintro ⟨k,ov⟩ w4 ⟨hk,hr⟩;dsimp only at hk hr ⊢;have aI:=hr.2;replace hs:=hs.up aI;replace hL:=hL.up aI;replace hM:=hM.up aI;replace k6:=k6.up aI;by_cases ag:k<l.length;have ht:l.take (k+1)=l.take k++[l[k]]:=Xh ag;have tm:ofK y (l.take (k+1)) 0=ofK y (l.take k) 0++ofH y l[k] (k:Int):=by
  rw [ht,Zff];simp only [ofK,XD,Xv,Yae hk];simp
 have aO:=ho l[k] (Xd ag);refine QO ?_;refine Z1 Z2 rfl ?_;rintro _ w5 ⟨b8,rfl,fC,e8,aD⟩;refine W ?_;refine SA (us:=Z3.enc l[k]) e8 ?_;rintro _ w6 ⟨hT,k8⟩;replace aD:=aD.ow hT;clear e8 hT;replace hr:=hr.up aD;replace hs:=hs.up aD;replace hL:=hL.up aD;replace hM:=hM.up aD;replace k6:=k6.up aD;clear aD;refine W ?_;refine CL (Z2q y l[k].first l[k].last _) ?_;rintro _ w6 ⟨rfl,rfl⟩;have again:∀ (w':World),Z2n l[k] y=none->Stp [] w6 w'->ZI 345 w3 w' ov (ofK y (l.take (k+1)) 0):=by
  intro w' hn dx;rw [tm];unfold ofH;rw [hn,XD];exact hr.up dx
 by_cases bG:l[k].first<=y/\y<=l[k].last;rw [decide_eq_true bG];have fA:=ZsW bG.1 bG.2;have qS:=aO.f1;have eq:=aO.l1;refine W ?_
 refine JJ (σ:=Unit) (λ_=>[(0,v),(1,.I y),(5,ov),(6,pQ b6),(7,.I (k:Int)),(8,pQ b8),(9,.I (Z1N l[k] y).1),(10,.B (Z1N l[k] y).2),(12,v),(13,.I (l.length:Int)),(14,.I (k:Int))])
  (λ_ w'=>Stp [] w6 w') ?_ ?_
 have dT:l[k].kind=1\/l[k].kind=2\/l[k].kind=3\/l[k].kind=4:=by have:=aO.k1;have:=aO.k2;omega
 rcases dT with dT|dT|dT|dT
 refine ZDr 14 [] [] [(0,0),(1,1),(2,0),(3,0),(4,0),(5,1),(6,1),(7,0),(8,2),(9,0),(10,0),(11,0),(12,0),(13,0)] (λw1 ae=>?_);replace k6:=k6.up ae;replace k8:=k8.up ae;replace hL:=hL.up ae;have hz:l[k].kind - 1=((0:Nat):Int):=by omega
 refine D ?_;refine Z2E rfl (Z4n (len:=4) (i:=0) trivial rfl rfl hz (by decide) rfl ?_);refine D ?_;refine Za rfl trivial (Z6 rfl (Zg rfl rfl) (ZgF _ _ _ hL dT)) (λ_ _ h=>h.2) rfl ?_;rintro _ w7 ⟨rfl,aQ⟩;refine D ?_;exact QT () (ae.trans aQ);refine ZDr 14 [] [] [(0,0),(1,1),(2,0),(3,0),(4,0),(5,1),(6,1),(7,0),(8,2),(9,0),(10,0),(11,0),(12,0),(13,0)] (λw1 ae=>?_);replace k6:=k6.up ae;replace k8:=k8.up ae;replace hL:=hL.up ae;have hz:l[k].kind - 1=((1:Nat):Int):=by omega
 refine D ?_;refine Z2E rfl (Z4n (len:=4) (i:=1) trivial rfl rfl hz (by decide) rfl ?_);refine D ?_;refine Za rfl trivial (Z6 rfl (Zg rfl rfl) (ZgG _ _ _ hL (by omega) (by omega) dT aO)) (λ_ _ h=>h.2) rfl ?_;rintro _ w7 ⟨rfl,aQ⟩;refine D ?_;exact QT () (ae.trans aQ);refine ZDr 14 [] [] [(0,0),(1,1),(2,0),(3,0),(4,0),(5,1),(6,1),(7,0),(8,2),(9,0),(10,0),(11,0),(12,0),(13,0)] (λw1 ae=>?_);replace k6:=k6.up ae;replace k8:=k8.up ae;replace hL:=hL.up ae;have hz:l[k].kind - 1=((2:Nat):Int):=by omega
 refine D ?_;refine Z2E rfl (Z4n (len:=4) (i:=2) trivial rfl rfl hz (by decide) rfl ?_);refine D ?_;refine Za rfl trivial (Z6 rfl (Zg rfl rfl) (ZgH _ _ _ hL (by omega) (by omega) dT aO)) (λ_ _ h=>h.2) rfl ?_;rintro _ w7 ⟨rfl,aQ⟩;refine D ?_;exact QT () (ae.trans aQ);refine ZDr 14 [] [] [(0,0),(1,1),(2,0),(3,0),(4,0),(5,1),(6,1),(7,0),(8,2),(9,0),(10,0),(11,0),(12,0),(13,0)] (λw1 ae=>?_);replace k6:=k6.up ae;replace k8:=k8.up ae;replace hL:=hL.up ae;have hz:l[k].kind - 1=((3:Nat):Int):=by omega
 refine D ?_;refine Z2E rfl (Z4n (len:=4) (i:=3) trivial rfl rfl hz (by decide) rfl ?_);refine D ?_;refine Za rfl trivial (Z6 rfl (Zg rfl rfl) (ZgI _ _ _ dT aO)) (λ_ _ h=>h.2) rfl ?_;rintro _ w7 ⟨rfl,aQ⟩;refine D ?_;exact QT () (ae.trans aQ)
 . rintro _ w7 aQ
   clear k6;replace k8:=k8.up aQ;replace hM:=hM.up aQ;cases hp:(Z1N l[k] y).2 with
   | false=>
     rw [hp] at fA;refine W ?_;exact QL (k+1,ov) ⟨ag,again _ (by unfold Z2n;rw [fA];rfl) aQ⟩ (by dsimp only;omega)
   | true=>
     rw [hp] at fA;obtain ⟨n1,n2⟩:=Zeb aO bG.1 bG.2 hp;have qT:=aO.m1;have qU:=aO.m2;have kC:=Znb qT qU n1;have tq:=ZgJ l[k].move (Z1N l[k] y).1;have dP:Z2n l[k] y=if ZN (Z3Y l[k].move (Z1N l[k] y).1)=true then some (Z3Y l[k].move (Z1N l[k] y).1) else none:=by
      unfold Z2n;rw [fA];rfl
     generalize (Z1N l[k] y).1=d at *;refine W ?_;refine ZDr 10 [] [] [(0,0),(1,0),(2,1),(3,0),(5,0),(4,2),(6,0),(7,1),(8,0),(9,0)] (λw1 ae=>?_);replace k8:=k8.up ae;replace hM:=hM.up ae;replace aQ:=aQ.trans ae;clear ae;refine D ?_;refine Z2E rfl (Z4n (len:=3) (i:=l[k].move.toNat) trivial rfl rfl (by omega) (by omega) rfl ?_);refine D ?_;refine Za rfl trivial (Z6 rfl (ZP rfl) (Z45 _ _ n1 (by omega))) (λ_ _ h=>by rw [h.2];exact Stp.refl _ _) rfl ?_;rintro _ w8 ⟨rfl,rfl⟩;refine D ?_;refine Z2E rfl (Z4n (len:=7) (i:=(d % 7).toNat) trivial rfl rfl (by omega) (by omega) rfl ?_);refine D ?_;refine J7 rfl trivial (λw' aU=>JH rfl rfl (hM.up aU _ _ kC)) rfl ?_;refine D ?_;have ed:d+(Z3Y l[k].move d - d)=Z3Y l[k].move d:=by omega
     rw [ed];refine W ?_;refine CL (Z2q (Z3Y l[k].move d) 0 3652058 _) ?_;rintro _ _ ⟨rfl,rfl⟩;by_cases h2:0<=Z3Y l[k].move d/\Z3Y l[k].move d<=3652058;rw [decide_eq_true h2];rw [if_pos (ZO.2 h2)] at dP;have ul:=Z7y y (l.take k) 0;have vJ:(l.take k).length<=l.length:=by rw [Xv];omega
     replace hr:=hr.up aQ;refine W ?_;refine Z8 (vs:=[(0,.I (Z3Y l[k].move d)),(1,.I (k:Int))]) rfl (Znc _ _) rfl ?_;refine Z1 (Z0 (vs:=[(0,agg ((Z3Y l[k].move d,(k:Int)):Spn))]) rfl (Zki _)) rfl ?_;rintro bv w9 hN;have gg:=Z5.stp hN;have an:SlV (ob ov) w9 bv [((Z3Y l[k].move d,(k:Int)):Spn)]:=hN.slv (λb hb=>(hr.1.ob_le b hb).2) rfl rfl (by simp [maxLen]);replace hr:=hr.up gg;refine Z1 (JD rfl (by decide) rfl rfl hr an (by simp only [Xe,Xf];omega) (by simp only [Xe,Xf,maxLen];omega)) rfl ?_;rintro ov' w10 ⟨dh,d7,vK⟩;refine W ?_;refine QL (k+1,ov') ⟨ag,?_⟩ (by dsimp only;omega);dsimp only;rw [tm];unfold ofH;rw [dP];exact dh;rw [decide_eq_false h2];rw [if_neg (λh=>h2 (ZO.1 h))] at dP;refine W ?_;exact QL (k+1,ov) ⟨ag,again _ dP aQ⟩ (by dsimp only;omega)
 rw [decide_eq_false bG];refine W ?_;exact QL (k+1,ov) ⟨ag,again _ (by unfold Z2n ZmR;rw [if_pos (by omega)];rfl) (Stp.refl _ _)⟩ (by dsimp only;omega);have de:k=l.length:=by omega
 subst de;rw [Xo] at hr;have ai:=Z7y y l 0;refine QO ?_;refine CM (Zg rfl rfl) (ZcJ 319 _ #[] ZcK Zxj [] w3.heap.size ov _ _ (by simp) hr.2.size hr.1 (Zwm _ _) (by omega)) ?_;rintro _ w7 ⟨ys,d9,iA,aQ⟩;refine RT ?_;exact ⟨ys,d9,iA.lower hS.size,(hS.trans hr.2).own aQ (λc hc=>.inr (Xg hS.size (hr.1.ob_le c hc).1))⟩
end Go.Proofs.YtipfkbkkndacjaaGreatDoor
namespace Go.Eng
open Go Go.RowKit Go.Proofs
variable {P:Program} {n:Nat} {Q:Exit->Act->World->Prop} {e:Env} {w:World}
theorem Z5U {i:Nat} {A B:Exit->Act->World->Prop} (h:∀ ex a w,A ex a w->B ex a w):∀ ex a w,Exit.inBlock i A ex a w->Exit.inBlock i B ex a w:=by
 intro ex a w hq;cases ex with
 | exit j=>
   simp only [Exit.inBlock] at hq ⊢;split;rename_i hj;rw [if_pos hj] at hq;exact h _ _ _ hq;rename_i hj;rw [if_neg hj] at hq;exact h _ _ _ hq
 | normal=>exact h _ _ _ hq
 | ret=>exact h _ _ _ hq
 | goto t=>exact h _ _ _ hq
 | panic c=>exact h _ _ _ hq
 | outgrown=>exact h _ _ _ hq
theorem Zkj {x y:Code} {σ:Type} {i j:Nat} (env:σ->Env) (I:σ->World->Prop)
 (h:WC P n x (Exit.inBlock i (Exit.inBlock j (Exit.then (λa w=>∃ s,Has n (env s) a/\I s w) Q))) e w) (k:∀ s w,I s w->WC P n y Q (env s) w):WC P n x (Exit.inBlock i (Exit.inBlock j (Exit.then (λa w=>y.wp P Q a w) Q))) e w:=
 ⟨λa ha => wp_mono (h.h a ha) (Z5U (Z5U (λex a w hq => by
   cases ex with
   | normal=>obtain ⟨s,h1,h2⟩:=hq;exact (k s w h2).h a h1
   | _=>exact hq)))⟩
end Go.Eng
namespace Go.Proofs.YtipfkbkkndacjaaGreatDoor
open Go Go.Eng Go.RowKit
def inR (a b:Int) (zs:List Int):List Int:=zs.filter λd=>decide (a<=d/\d<=b)
theorem Zne (a b:Int) (x y:List Int):inR a b (x++y)=inR a b x++inR a b y:=by unfold inR;rw [Ya7]
theorem Zkk {y:Int} {l:List Hol} {ys:List Spn} (h:Z9Q ZcK (ofK y l 0) ys) (d:Int):d∈ys.map Prod.fst↔∃ h∈l,Z2n h y=some d:=by
 rw [<- Zfg y d l 0,XK];constructor;rintro ⟨⟨a,r⟩,h1,rfl⟩;exact ⟨r,h.1.mem_iff.1 h1⟩;rintro ⟨r,hr⟩;exact ⟨(d,r),h.1.mem_iff.2 hr,rfl⟩
theorem Zkl {y:Int} {l:List Hol} {ys:List Spn} (h:Z9Q ZcK (ofK y l 0) ys):ys.length<=l.length:=by
 rw [h.1.length_eq];exact Z7y y l 0
theorem ZcL (v:Value) (l:List Hol) (a b:Int) (w) (hs:SlV [] w v l) (hL:Z0I w) (hM:Z3y w) (ho:∀ h∈l,Z27 h) (hl:l.length<20) (ha:0<=a) (cP:a<=b) (hb:b<=3652058) (xW:(ofM a).y<=(ofM b).y) :
 CC 214 #[v,.I a,.I b] w λr w'=>∃ zs:List Int,(∀ d,d∈zs↔a<=d/\d<=b/\∃ y,(ofM a).y - 1<=y/\y<=(ofM b).y+1/\∃ h∈l,Z2n h y=some d)/\ZI 3 w w' r (Z3r zs):=by
 obtain ⟨ya1,ya2,-⟩:=Z5f ha (by omega);obtain ⟨yb1,yb2,-⟩:=Z5f (n:=b) (by omega) hb;have kE:max a 0=a:=by omega
 have vL:min b 3652058=b:=by omega
 refine cW3 65 Tryz.func214 ?_;refine W ?_;rw [kE,vL];refine QO ?_;refine CM (ZP rfl) (Z7w a _ ha (by omega)) ?_;rintro _ w1 ⟨rfl,hS⟩;refine W ?_;refine Z1 Z2 rfl ?_;rintro _ w2 ⟨b7,rfl,fb,e7,ah⟩;refine W ?_;refine SB (us:=[.I (ofM a).y,.I (ofM a).m,.I (ofM a).d]) (by intro u hu;simp at hu;rcases hu with rfl|rfl|rfl<;>rfl) e7 ?_;rintro _ w3 ⟨hT,k7⟩;replace hS:=hS.trans (ah.ow hT);clear e7 ah hT;refine W ?_;refine CM (ZP rfl) (Z7w b _ (by omega) hb) ?_;rintro _ w4 ⟨rfl,aI⟩;replace k7:=k7.up aI;replace hS:=hS.trans aI;refine W ?_;refine Z1 Z2 rfl ?_;rintro _ w5 ⟨b9,rfl,iu,e9,aD⟩;have n79:b7≠b9:=by have:=k7.lt;omega
 refine W ?_;refine SB (us:=[.I (ofM b).y,.I (ofM b).m,.I (ofM b).d]) (by intro u hu;simp at hu;rcases hu with rfl|rfl|rfl<;>rfl) e9 ?_;rintro _ w6 ⟨hT,k9⟩;replace aD:=aD.ow hT;replace k7:=k7.up aD;replace hS:=hS.trans aD;clear e9 hT aI aD;replace hs:=hs.up hS;replace hL:=hL.up hS;replace hM:=hM.up hS;refine W ?_
 refine Zt (σ:=Nat×Value×List Int) (λq=>[(0,v),(1,.I a),(2,.I b),(7,pQ b7),(9,pQ b9),(11,q.2.1),(12,.I ((ofM a).y - 1+(q.1:Int)))])
  (λq w'=>(ofM a).y - 1+(q.1:Int)<=(ofM b).y+2/\q.2.2.length<=q.1 * 20/\(∀ d,d∈q.2.2↔a<=d/\d<=b/\∃ y,(ofM a).y - 1<=y/\y<(ofM a).y - 1+(q.1:Int)/\∃ h∈l,Z2n h y=some d)/\ZI 3 w6 w' q.2.1 q.2.2)
  (λq=>20000 - q.1) (0,.N,[]) ⟨rfl,rfl,rfl,rfl,rfl,rfl,(by simp [Z1O]),trivial⟩ ⟨by dsimp only;omega,Xq _,λd=>by simp;intros;omega,ZI.nil⟩ ?_
 rintro ⟨k,ov,zs⟩ w7 ⟨hk,tf,hz,hr⟩;dsimp only at hk tf hz hr ⊢;have aQ:=hr.2;replace k7:=k7.up aQ;replace k9:=k9.up aQ;replace hs:=hs.up aQ;replace hL:=hL.up aQ;replace hM:=hM.up aQ;by_cases ag:(ofM a).y - 1+(k:Int)<=(ofM b).y+1;refine QO ?_;refine CL (Znd v l _ _ hs hL hM ho hl) ?_;rintro rv w8 ⟨ys,d9,gK⟩;have fG:=Zkl d9;have qV:=Zkk d9;have cG:=gK.2;have cJ:=gK.slv (X:=ob ov) (λb hb=>(hr.1.ob_le b hb).2);have qW:=gK.slv (X:=[]) (by simp);replace hr:=hr.up cG;replace k9:=k9.up cG;replace hs:=hs.up cG;replace hL:=hL.up cG;replace hM:=hM.up cG;refine W ?_
 refine Zkj (σ:=Value×List Int) (λq=>[(0,v),(1,.I a),(2,.I b),(7,pQ b7),(9,pQ b9),(11,q.1),(12,.I ((ofM a).y - 1+(k:Int)))])
  (λq w'=>q.2=zs++inR a b (ys.map Prod.fst)/\ZI 3 w6 w' q.1 q.2) ?_ ?_
 refine Zt (σ:=Nat×Value) (λq=>[(0,v),(1,.I a),(2,.I b),(7,pQ b7),(9,pQ b9),(11,q.2),(12,.I ((ofM a).y - 1+(k:Int))),(44,rv),(45,.I (ys.length:Int)),(46,.I (q.1:Int))])
  (λq w'=>q.1<=ys.length/\ZI 3 w6 w' q.2 (zs++inR a b ((ys.take q.1).map Prod.fst))/\SlV (ob q.2) w' rv ys) (λq=>ys.length - q.1) (0,ov) ⟨rfl,rfl,rfl,rfl,rfl,rfl,rfl,rfl,rfl,rfl,trivial⟩ ⟨Xq _,by simpa [inR] using hr,cJ⟩ ?_
 clear hr cJ qW hs hL hM k7 k9;rintro ⟨j,ov'⟩ w9 ⟨hj,hr,cJ⟩;dsimp only at hj hr cJ ⊢;by_cases ft:j<ys.length;have fz:inR a b ((ys.take (j+1)).map Prod.fst)=inR a b ((ys.take j).map Prod.fst)++inR a b [ys[j].1]:=by
  rw [Xh ft,XQ,Zne];rfl
 refine QO ?_;refine Z1 Z2 rfl ?_;rintro _ w10 ⟨b14,rfl,vM,e14,d7⟩;refine W ?_;refine SA (us:=Z3.enc ys[j]) e14 ?_;rintro _ w11 ⟨hT,k14⟩;replace d7:=d7.ow hT;clear e14 hT;replace hr:=hr.up d7;replace cJ:=cJ.up d7;refine W ?_;refine CL (Z2q ys[j].1 a b _) ?_;rintro _ _ ⟨rfl,rfl⟩;by_cases bG:a<=ys[j].1/\ys[j].1<=b;rw [decide_eq_true bG];have ai:(zs++inR a b ((ys.take j).map Prod.fst)).length<=300000:=by
  have h1:(inR a b ((ys.take j).map Prod.fst)).length<=((ys.take j).map Prod.fst).length:=XZ _ _;rw [Xc];simp only [Xt,Xv] at h1;omega
 have e1:inR a b [ys[j].1]=[ys[j].1]:=by unfold inR;simp [bG]
 rw [e1] at fz;refine W ?_;refine Z1 (Z0 (vs:=[(0,.I ys[j].1)]) rfl (Zs _)) rfl ?_;rintro bv w12 hN;have iU:=Z5.stp hN;have an:SlV (ob ov') w12 bv [ys[j].1]:=hN.slv (λb hb=>(hr.1.ob_le b hb).2) rfl rfl (by simp [maxLen]);replace hr:=hr.up iU;replace cJ:=cJ.up iU;refine Z1 (JD rfl (by decide) rfl rfl hr an (by simp only [Xe,Xf];omega) (by simp only [Xe,Xf,maxLen];omega)) rfl ?_;rintro ov2 w13 ⟨dh,cM,qX⟩;refine W ?_;refine QL (j+1,ov2) ⟨ft,?_,cJ.ext cM (λ_ h=>h) qX⟩ (by dsimp only;omega);dsimp only;rw [fz,<- Xy];exact dh;rw [decide_eq_false bG];have e1:inR a b [ys[j].1]=[]:=by unfold inR;simp only [List.filter_cons,decide_eq_false bG,List.filter_nil];rfl
 rw [e1,XD] at fz;refine W ?_;refine QL (j+1,ov') ⟨ft,?_,cJ⟩ (by dsimp only;omega);dsimp only;rw [fz];exact hr;have qY:j=ys.length:=by omega
 subst qY;rw [Xo] at hr;refine QO ?_;exact ZD (ov',zs++inR a b (ys.map Prod.fst)) ⟨rfl,rfl,rfl,rfl,rfl,rfl,rfl,trivial⟩ ⟨rfl,hr⟩;rintro ⟨ov',zs'⟩ w9 ⟨tr,hr⟩;dsimp only at tr hr ⊢;subst tr;have e1:(ofM a).y - 1+(k:Int)+1=(ofM a).y - 1+((k+1:Nat):Int):=by omega
 refine W ?_;rw [e1];refine Zx (k+1,ov',zs++inR a b (ys.map Prod.fst)) ⟨rfl,rfl,rfl,rfl,rfl,rfl,rfl,trivial⟩ ⟨by dsimp only;omega,?_,λd=>?_,hr⟩ (by dsimp only;omega);have h1:(inR a b (ys.map Prod.fst)).length<=(ys.map Prod.fst).length:=XZ _ _;dsimp only;rw [Xc];simp only [Xt] at h1;omega;dsimp only;rw [Xi,hz,inR,Ybm,qV];constructor;rintro (⟨p1,p2,y,p3,p4,p5⟩|⟨p5,p6⟩);exact ⟨p1,p2,y,p3,by omega,p5⟩;have p6:=of_decide_eq_true p6;exact ⟨p6.1,p6.2,_,by omega,by omega,p5⟩;rintro ⟨p1,p2,y,p3,p4,p5⟩;by_cases hy:y<(ofM a).y - 1+(k:Int)
 exact .inl ⟨p1,p2,y,p3,hy,p5⟩;obtain rfl:y=(ofM a).y - 1+(k:Int):=by omega
 exact .inr ⟨p5,decide_eq_true ⟨p1,p2⟩⟩;refine QO ?_;refine CM (ZP rfl) (Zcf _ hr.1 (by omega)) ?_;rintro _ w8 ⟨rfl,fa,cG⟩;refine W ?_;refine CM (ZP rfl) (Z73 _ fa (by rw [Ybf];omega)) ?_;rintro rv w9 ⟨gh,gg,bq⟩;refine W ?_;refine WR ?_;refine .mk ⟨zs,λd=>?_,gh.lower hS.size,((hS.trans hr.2).own cG (λc hc=>.inr (Xg hS.size (hr.1.ob_le c hc).1))).own gg (λc hc=>.inr (Xg hS.size (hr.1.ob_le c hc).1))⟩;rw [hz];constructor;rintro ⟨p1,p2,y,p3,p4,p5⟩;exact ⟨p1,p2,y,p3,by omega,p5⟩;rintro ⟨p1,p2,y,p3,p4,p5⟩;exact ⟨p1,p2,y,p3,by omega,p5⟩
theorem Zed {l:List Hol} {d:Int} (h0:0<=d) (h1:d<=3652058) {zs:List Int} (hz:∀ x,x∈zs↔d<=x/\x<=d/\∃ y,(ofM d).y - 1<=y/\y<=(ofM d).y+1/\∃ h∈l,Z2n h y=some x) :
 decide (((Z3r zs).length:Int) > 0)=Z8j l d:=by
 have hm:=(Z3f zs).2;have bG:ZN d=true:=ZO.2 ⟨h0,h1⟩;rw [Yad];unfold Z8j;rw [bG,Bool.true_and,decide_eq_true_eq,YaO];constructor;intro hl;obtain ⟨x,hx⟩:=List.exists_mem_of_length_pos (l:=Z3r zs) (by omega);obtain ⟨p1,p2,y,p3,p4,h,hh,hk⟩:=(hz x).1 ((hm x).1 hx);obtain rfl:x=d:=by omega
 refine ⟨y,?_,YaO.2 ⟨h,hh,decide_eq_true hk⟩⟩;have:y=(ofM x).y - 1\/y=(ofM x).y\/y=(ofM x).y+1:=by omega
 rcases this with rfl|rfl|rfl<;>simp
 rintro ⟨y,hy,hh⟩;obtain ⟨h,hh,hk⟩:=YaO.1 hh;have eq:(ofM d).y - 1<=y/\y<=(ofM d).y+1:=by simp at hy;omega
 have:d∈Z3r zs:=(hm d).2 ((hz d).2 ⟨YaY _,YaY _,y,eq.1,eq.2,h,hh,of_decide_eq_true hk⟩);have:=List.length_pos_of_mem this;omega
theorem ZsX (v:Value) (l:List Hol) (d:Int) (w) (hs:SlV [] w v l) (hL:Z0I w) (hM:Z3y w) (ho:∀ h∈l,Z27 h) (hl:l.length<20) :
 CC 156 #[v,.I d] w λr w'=>r=.B (Z8j l d)/\Stp [] w w':=by
 refine cW2 15 Tryz.func156 ?_;refine W ?_;refine CL (Z2q d 0 3652058 _) ?_;rintro _ _ ⟨rfl,rfl⟩;by_cases hd:0<=d/\d<=3652058;rw [decide_eq_true hd];refine W ?_;refine CL (ZcL v l d d _ hs hL hM ho hl hd.1 (YaY _) hd.2 (YaY _)) ?_;rintro rv w1 ⟨zs,hz,hr⟩;have eE:=hr.slv (X:=[]) (by simp);refine RT ?_;exact ⟨by rw [Zed hd.1 hd.2 hz],hr.2⟩;rw [decide_eq_false hd];refine W ?_;refine WR ?_;refine .mk ⟨?_,Stp.refl _ _⟩;have:ZN d=false:=by unfold ZN;exact decide_eq_false hd
 unfold Z8j;rw [this];rfl
structure Z6E (w:World) (c:Cal) (hv cv zo zs hr:Value):Prop where
 hols:SlV [] w hv c.hols
 clos:SlV [] w cv c.clos
 len:Z0I w
 mov:Z3y w
 ok:ZjM c
abbrev Z6F (c:Cal) (hv cv zo zs hr:Value):Value:=.agg (Z0h c hv cv zo zs hr).toArray
theorem Z6E.up {w w':World} {c:Cal} {hv cv zo zs hr:Value} (h:Z6E w c hv cv zo zs hr) (hS:Stp [] w w'):Z6E w' c hv cv zo zs hr:=⟨h.hols.up hS,h.clos.up hS,h.len.up hS,h.mov.up hS,h.ok⟩
theorem Znf (c:Cal) (hv cv zo zs hr:Value) {i:Nat} (hi:i<7):(Z0h c hv cv zo zs hr)[0+i * 1]?=some (.B (c.week.getD i false)):=by
 have:i=0\/i=1\/i=2\/i=3\/i=4\/i=5\/i=6:=by omega
 rcases this with rfl|rfl|rfl|rfl|rfl|rfl|rfl<;>rfl
theorem Z46 (d:Int) (w):CC 87 #[.I d] w λr w'=>r=.B (ZN d)/\w'=w:=by
 refine cW1 9 Tryz.func87 ?_;unfold ZN;by_cases h1:d>=0;by_cases h2:d<=3652058;rw [decide_eq_true ⟨h1,h2⟩];refine RT ?_;exact ⟨by simp [h2],rfl⟩;rw [decide_eq_false (λh=>h2 h.2)];refine RT ?_;exact ⟨by simp [h2],rfl⟩;rw [decide_eq_false (λh=>h1 h.1)];refine RT ?_;exact ⟨rfl,rfl⟩
theorem ZgK (d kn:Int) (bc bk:Nat) (c:Cal) (hv cv zo zs hr:Value) (w) (h:Z6E w c hv cv zo zs hr) (kc:Blk w bc 35 (Z0h c hv cv zo zs hr)) (kk:Blk w bk 3 [.I kn]) (h0:0<=d) (h1:d<=3652058) :
 CC 154 #[.I d,pQ bc,pQ bk] w λr w'=>r=.B (ZeX c kn d)/\Stp [] w w':=by
 have qZ:(d % 7).toNat<7:=by omega
 have oN:=Znf c hv cv zo zs hr qZ;have bR:=h.clos.max;have vN:=h.clos;refine cW3 40 Tryz.func154 ?_;refine W ?_;refine CM (ZP rfl) (Z45 d _ h0 (by omega)) ?_;rintro _ w ⟨rfl,rfl⟩;refine W ?_;refine Z2Z (len:=7) (i:=(d % 7).toNat) rfl rfl (by omega) qZ rfl ?_;refine Zbt rfl rfl kc oN rfl ?_;unfold ZeX;cases hw:c.week.getD (d % 7).toNat false with
 | true=>
   refine RT ?_;exact ⟨by simp,Stp.refl _ _⟩
 | false=>
   rw [Ybx];refine W ?_;refine Z0o (σ:=Unit) (λ_=>[(0,.I d),(1,pQ bc)]) (λ_ w'=>Zci c.clos kn d=false/\Stp [] w w') ?_ ?_
   refine Zt (σ:=Nat) (λk=>[(0,.I d),(1,pQ bc),(2,pQ bk),(13,cv),(14,.I (c.clos.length:Int)),(15,.I (k:Int))])
    (λk w'=>k<=c.clos.length/\Zci (c.clos.take k) kn d=false/\Stp [] w w') (λk=>c.clos.length - k) 0 ⟨rfl,rfl,rfl,rfl,rfl,rfl,trivial⟩ ⟨Xq _,rfl,Stp.refl _ _⟩ ?_
   rintro k w1 ⟨hk,hn,hS⟩;have kk:=kk.up hS;have aL:=h.clos.up hS;by_cases ag:k<c.clos.length;have ht:Zci (c.clos.take (k+1)) kn d=(Zci (c.clos.take k) kn d || decide (c.clos[k].known<=kn/\c.clos[k].lo<=d/\d<=c.clos[k].hi)):=by
    unfold Zci;rw [Xh ag,List.any_append];simp
   rw [hn,Ybx] at ht;refine QO ?_;refine Z1 Z2 rfl ?_;rintro _ w2 ⟨b6,rfl,ew,e6,ah⟩;refine W ?_;refine SA (us:=Z3.enc c.clos[k]) e6 ?_;rintro _ w3 ⟨hT,k6⟩;replace ah:=ah.ow hT;clear e6 hT;replace kk:=kk.up ah;replace aL:=aL.up ah;replace hS:=hS.trans ah;by_cases hx:c.clos[k].known<=kn/\c.clos[k].lo<=d/\d<=c.clos[k].hi;refine QO ?_;refine WR ?_;refine .mk ⟨?_,hS⟩;have:Zci c.clos kn d=true:=by
    unfold Zci;exact YaO.2 ⟨c.clos[k],Xd ag,decide_eq_true hx⟩
   rw [this];rfl
   . rw [decide_eq_false hx] at ht
     repeat'(first|refine W1 ?_|omega|refine VG ?_ ?_<;>intro hg|refine VC ?_ ?_<;>intro hc)
     all_goals exact QL (k+1) ⟨ag,ht,hS⟩ (by omega)
   obtain rfl:k=c.clos.length:=by omega
   rw [Xo] at hn;refine QO ?_;exact QT () ⟨hn,hS⟩;rintro _ w1 ⟨hn,hS⟩;have kc:=kc.up hS;have h:=h.up hS;rw [hn,Ybx];refine W ?_;refine CM (Zg rfl rfl) (ZsX hv c.hols d _ h.hols h.len h.mov h.ok.hols (by have:=h.ok.few;omega)) ?_;rintro _ w2 ⟨rfl,ah⟩;refine RT ?_;exact ⟨rfl,hS.trans ah⟩
def Zwn (w:World) (f:Value) (c:Cal) (hv cv zo zs hr:Value) (kn:Int):Prop:=∃ b2 b3,f=.func (.func 154) #[] #[pQ b2,pQ b3]/\Blk w b2 35 (Z0h c hv cv zo zs hr)/\Blk w b3 3 [.I kn]
theorem Zkm (kn:Int) (c:Cal) (hv cv zo zs hr:Value) (w):CC 88 #[Z6F c hv cv zo zs hr,.I kn] w λr w'=>Zwn w' r c hv cv zo zs hr kn/\Stp [] w w':=by
 refine cW2 6 Tryz.func88 ?_;refine W ?_;refine Z1 (Zp rfl) rfl ?_;rintro _ w1 ⟨b2,rfl,cr,ac,hS⟩;replace ac:Blk w1 b2 35 (Z0h c hv cv zo zs hr):=ac;refine Z1 (Zp rfl) rfl ?_;rintro _ w2 ⟨b3,rfl,dV,aK,ah⟩;replace aK:Blk w2 b3 3 [.I kn]:=aK;replace ac:=ac.up ah;refine RT ?_;exact ⟨⟨b2,b3,rfl,ac,aK⟩,hS.trans ah⟩
open Go Go.Eng Go.RowKit Go.Proofs Go.Shelf
attribute [local go_sem] Oper.semAt_some
theorem Zkn (n:Nat) (hn:2<=n) (l bd bs:Nat) (d0 st:Int) (ay:st=1\/st=-1) (oO:0<=d0) (gX:d0<=3652058) (J:Nat->World->Prop) (Jx:World->Prop)
 (vO:∀ k W,J k W->W.cell? ⟨bd,0,none⟩=some (.I (d0+st * k))/\W.cell? ⟨bs,0,none⟩=some (.I st))
 (hY : ∀ (k : Nat) W, J k W -> k <= 1000 -> ZN (d0 + st * k) = true -> YieldAt Fence.wide (n - 1) Tryz.prog l #[.I (d0 + st * k)] W λe W'=>
   (e=.returned (.B true)/\W'.cell? ⟨bd,0,none⟩=some (.I (d0+st * k))/\W'.frozen? ⟨bd,0,none⟩=false/\W'.cell? ⟨bs,0,none⟩=some (.I st)/\J (k+1) (W'.setCell ⟨bd,0,none⟩ (.I (d0+st * k+st))))\/(e=.returned (.B false)/\Jx W'))
 (W:World) (h0:J 0 W) :
 CallsIn Fence.wide n Tryz.prog 212 #[.func (.yield l) #[] #[],pQ bd,pQ bs] W λe W'=>(∃ v,e=.returned v)/\
  ((∃ k:Nat,(1000<k\/ZN (d0+st * k)=false)/\J k W')\/Jx W'):=by
 refine callsIn_of_wp Tryz.func212 rfl trivial ?_ rfl;simp only [Tryz.ntmps212,Yat,Xe,Xf,Nat.reduceAdd,Nat.reduceSub,Array.replicate_succ,Array.replicate_zero,List.push_toArray,List.append_toArray,XT,XA]
 gi_wp2
 gi_loopw [4] (λi wr=>∃ k:Nat,k<=1001/\i=.I (k:Int)/\J k wr) (λi _=>1002 - (intOf i).toNat)
 case atStart=>exact ⟨0,Xq _,rfl,h0⟩
 case round=>
  obtain ⟨k,hk,rfl,oP⟩:=vP;obtain ⟨c1,c2⟩:=vO k _ oP;have jk:-1001<=st * (k:Int)/\st * (k:Int)<=1001:=by rcases ay with rfl|rfl<;>omega
  by_cases ag:k<=1000
  . have cO:(k:Int)<=1000:=by omega
    gi_wp2
    refine ⟨trivial,(λh=>by cases h),?_⟩;refine (callsIn_wide.2 (Z46 _ _)).mono ?_;rintro e w' ⟨v,rfl,rfl,rfl⟩;cases bG:ZN (d0+st * k) with
    | false=>
      gi_wp2
      go_end0
      exact ⟨⟨_,rfl⟩,.inl ⟨k,.inr bG,oP⟩⟩
    | true=>
      obtain ⟨fn,tmps,assign,body,hy,hR⟩:=hY k _ oP ag bG
      gi_wp2
      refine ⟨(λh=>by cases h),hR.mono ?_⟩;rintro e W3 (⟨rfl,a1,a2,a3,a4⟩|⟨rfl,hx⟩);have vQ:=ZO.1 bG
      gi_wp2
      exact ⟨⟨k+1,by omega,rfl,a4⟩,by simp [intOf];omega⟩
      gi_wp2
      refine bodyPost_ret (results_none rfl _ _ _) rfl ?_;exact ⟨⟨_,rfl⟩,.inr hx⟩
  have iW:¬ (k:Int)<=1000:=by omega
  gi_wp2
  refine ⟨trivial,?_⟩
  gi_wp2
  go_end0
  exact ⟨⟨_,rfl⟩,.inl ⟨k,.inl (by omega),oP⟩⟩
theorem Zee {g:Operand} {ps:Array Tmp} {assign body:Code} {Q:Exit->Act->World->Prop} {a:Act} {w:World} {n:Nat} (hn:3<=n) (bK:ps.size=1) {bd bs:Nat} {d0 st:Int}
 (hg:a.eval g=.func (.func 212) #[] #[pQ bd,pQ bs]) (ay:st=1\/st=-1) (oO:0<=d0) (gX:d0<=3652058) (jQ:bd<w.heap.size)
 (I I':Nat->World->Prop) (Ix:World->Prop)
 (hI:∀ k W W',I k W->Below w.heap.size W W'->I k W') (tt:∀ k W W',I' k W->Below w.heap.size W W'->I' k W') (rc:∀ W W',Ix W->Below w.heap.size W W'->Ix W')
 (hc:∀ (k:Nat) W,I k W->W.cell? ⟨bd,0,none⟩=some (.I (d0+st * k))/\W.cell? ⟨bs,0,none⟩=some (.I st))
 (oK:∀ (k:Nat) W,I' k W->W.cell? ⟨bd,0,none⟩=some (.I (d0+st * k))/\W.frozen? ⟨bd,0,none⟩=false/\W.cell? ⟨bs,0,none⟩=some (.I st))
 (aj:∀ (k:Nat) W,I' k W->I (k+1) (W.setCell ⟨bd,0,none⟩ (.I (d0+st * k+st)))) (h0:I 0 w) (a₁:Int->Act)
 (hassign : ∀ (l : Nat) (X : Int) (W : World) (K : Act -> World -> Prop), K (a₁ X) W->
   assign.wpIn (Fence.wide.inRound l) (n - 1 - 1) Tryz.prog (Exit.then K (λ_ _ _=>False)) { tmps:=(ps.zip #[Value.int .i64 X]).foldl (λt (p,v)=>t.setIfInBounds p v) a.tmps,defers:=[] } W)
 (gt : ∀ (l : Nat) (k : Nat) (W : World), I k W -> k <= 1000 -> ZN (d0 + st * k) = true -> body.wpIn (Fence.wide.inRound l) (n - 1 - 1) Tryz.prog
   (λe _ W'=>(∀ b,w.heap.size<=b->b<W.heap.size->W'.heap[b]?=W.heap[b]?)/\match e with|.normal=>I' k W'|.ret=>Ix W'|_=>False) (a₁ (d0+st * k)) W)
 (dO:∀ (D k:Nat) (W:World),w.heap.size<=D->(1000<k\/ZN (d0+st * k)=false)->I k W->W.heap[D]?=some (.deferred (some []))->Q .normal { a with defers:={ target:=.collected D,args:=#[] } :: a.defers } W)
 (dQ:∀ (D:Nat) (W:World),w.heap.size<=D->Ix W->W.heap[D]?=some (.deferred (some []))->Q .ret { a with defers:={ target:=.collected D,args:=#[] } :: a.defers } W) :
 (Code.rangeFunc g ps assign body).wpIn Fence.wide n Tryz.prog Q a w:=by
 refine wpIn_rangeFunc ?_;intro fn qf;obtain ⟨rec,bt⟩:∃ rec:LoopState->Option Code->Loop,rec=λst pe=>{ state:=st,pending:=pe,fn,tmps:=a.tmps,params:=ps,assign,body,defers:=w.heap.size }:=⟨_,rfl⟩
 obtain ⟨W1,fS⟩:∃ W1,(w.alloc (.deferred (some []))).alloc (.loop (rec .ready none))=W1:=⟨_,rfl⟩
 have kO:W1.heap[w.heap.size+1]?=some (.loop (rec .ready none)):=by
  rw [<- fS];have:=World.alloc_heap_new (w.alloc (.deferred (some []))) (.loop (rec .ready none));rwa [World.size_alloc] at this
 have qM:W1.heap[w.heap.size]?=some (.deferred (some [])):=by
  rw [<- fS];exact (Below.heap_alloc _ _ _ (by simp)).trans (World.alloc_heap_new w _)
 have aW:Below w.heap.size w W1:=by
  rw [<- fS];exact ((Below.refl _ w).alloc (Xn _) _).alloc (by simp) _
 have bput:∀ (W:World) (l:Nat) (o:Obj),w.heap.size<=l->Below w.heap.size W (W.putObj l o):=λW l o hl=>
  ⟨rfl,rfl,rfl,by simp,λk hk=>World.putObj_heap_other (by omega)⟩
 refine ⟨w.heap.size+1,[{ target:=.collected w.heap.size,args:=#[] }],W1,{ target:=.fn (.func 212) #[pQ bd,pQ bs],args:=#[.func (.yield (w.heap.size+1)) #[] #[]] },W1,212,
  #[.func (.yield (w.heap.size+1)) #[] #[]]++#[pQ bd,pQ bs],W1,?_,?_,?_,?_,λh=>(by cases h),?_⟩
 rw [<- fS,bt];exact run_enterLoop_outer _ _ _ _ _;simp only [resolve,hg];simp [go_sem];intro f' sW;trivial;have eg:=enters_of Tryz.func212 (by kernel_rfl) rfl;simp [invoke,go_sem,eg]
 refine (Zkn (n - 1) (by omega) (w.heap.size+1) bd bs d0 st ay oO gX
  (λk W=>I k W/\W.heap[w.heap.size+1]?=some (.loop (rec .ready none))/\W.heap[w.heap.size]?=some (.deferred (some [])))
  (λW=>Ix W/\W.heap[w.heap.size+1]?=some (.loop (rec .done (some .ret)))/\W.heap[w.heap.size]?=some (.deferred (some [])))
  (λk W h=>hc k W h.1) ?_ W1 ⟨hI _ _ _ h0 aW,kO,qM⟩).mono ?_
 . rintro k W ⟨hi,hl,hk⟩ im bG
   have ag:w.heap.size+1<W.heap.size:=(Xm.1 hl).1;have hy:=run_yield (P:=Tryz.prog) (args:=#[Value.int .i64 (d0+st * k)]) hl (by rw [bt];simp [bK]);rw [bt] at hy;refine ⟨fn,_,assign,body,hy,roundIn_of_wpIn qf (hassign _ _ W _ ⟨_,run_beginRound hl (by rw [bt]),?_⟩)⟩;have dS:(W.putObj (w.heap.size+1) (.loop { rec .ready none with state:=.busy })).heap[w.heap.size+1]?=some (.loop { rec .ready none with state:=.busy }):=World.putObj_heap_same ag;have de:(W.putObj (w.heap.size+1) (.loop { rec .ready none with state:=.busy })).heap[w.heap.size]?=some (.deferred (some [])):=(World.putObj_heap_other (by omega)).trans hk;refine wpIn_mono (gt _ k _ (hI _ _ _ hi (bput _ _ _ (by omega))) im bG) ?_
   have fin:∀ (jump:Option Code) (W3:World),(∀ b,w.heap.size<=b->b<(W.putObj (w.heap.size+1) (.loop { rec .ready none with state:=.busy })).heap.size->W3.heap[b]?=(W.putObj (w.heap.size+1) (.loop { rec .ready none with state:=.busy })).heap[b]?)->
    (Instr.endRound (w.heap.size+1) jump).run Tryz.prog W3=.ok (.B jump.isNone) (W3.putObj (w.heap.size+1) (.loop (rec (if jump.isNone then .ready else .done) jump)))/\
    (W3.putObj (w.heap.size+1) (.loop (rec (if jump.isNone then .ready else .done) jump))).heap[w.heap.size+1]?=some (.loop (rec (if jump.isNone then .ready else .done) jump))/\
    (W3.putObj (w.heap.size+1) (.loop (rec (if jump.isNone then .ready else .done) jump))).heap[w.heap.size]?=some (.deferred (some [])):=λjump W3 jJ=>by
    have ii:=(jJ (w.heap.size+1) (by omega) (by simp;omega)).trans dS;have nA:=(jJ w.heap.size (by omega) (by simp;omega)).trans de;have:=run_endRound (P:=Tryz.prog) jump ii;rw [bt] at this ⊢;exact ⟨this,World.putObj_heap_same (Xm.1 ii).1,(World.putObj_heap_other (by omega)).trans nA⟩
   rintro e a3 W3 ⟨jJ,hp⟩;cases e with
   | normal=>
     obtain ⟨hr,re,nA⟩:=fin none W3 jJ;have tu:=tt _ _ _ hp (bput W3 (w.heap.size+1) (.loop (rec .ready none)) (by omega));obtain ⟨p1,p2,p3⟩:=oK _ _ tu;refine ⟨_,_,hr,.inl ⟨rfl,p1,p2,p3,aj _ _ tu,?_,?_⟩⟩;exact (Below.heap_setCell _ ⟨bd,0,none⟩ _ _ (by show w.heap.size+1≠bd;omega)).trans re;exact (Below.heap_setCell _ ⟨bd,0,none⟩ _ _ (by show w.heap.size≠bd;omega)).trans nA
   | ret=>
     obtain ⟨hr,re,nA⟩:=fin (some .ret) W3 jJ;exact ⟨_,_,hr,.inr ⟨rfl,rc _ _ hp (bput W3 (w.heap.size+1) _ (by omega)),re,nA⟩⟩
   | exit id=>exact hp.elim
   | goto t=>exact hp.elim
   | panic ch=>exact hp.elim
   | outgrown=>exact hp.elim
 rintro e W2 ⟨⟨v,rfl⟩,(⟨k,eA,hi,hl,hk⟩|⟨hi,hl,hk⟩)⟩;exact ⟨none,_,by have:=run_endLoop (P:=Tryz.prog) hl (by rw [bt];simp);rw [bt] at this;exact this,dO _ k _ (Xn _) eA (hI _ _ _ hi (bput _ _ _ (by omega))) ((World.putObj_heap_other (by omega)).trans hk)⟩;refine ⟨some .ret,_,by have:=run_endLoop (P:=Tryz.prog) hl (by rw [bt];simp);rw [bt] at this;exact this,?_⟩;exact wpIn_ret (dQ _ _ (Xn _) (rc _ _ hi (bput _ _ _ (by omega))) ((World.putObj_heap_other (by omega)).trans hk))
theorem Zko (d st:Int) (w):CC 152 #[.I d,.I st] w λr w'=>∃ b2 b3,r=.func (.func 212) #[] #[pQ b2,pQ b3]/\w.heap.size<=b2/\b2<b3/\Blk w' b2 3 [.I d]/\Blk w' b3 3 [.I st]/\Stp [] w w':=by
 refine cW2 6 Tryz.func152 ?_;refine W ?_;refine Z1 (Zp rfl) rfl ?_;rintro _ w1 ⟨b2,rfl,cr,k2,hS⟩;replace k2:Blk w1 b2 3 [.I d]:=k2;refine Z1 (Zp rfl) rfl ?_;rintro _ w2 ⟨b3,rfl,dV,k3,ah⟩;replace k3:Blk w2 b3 3 [.I st]:=k3;have:=k2.lt;replace k2:=k2.up ah;refine RT ?_;exact ⟨b2,b3,rfl,cr,by omega,k2,k3,hS.trans ah⟩
theorem Z7b {P:Program} {t b:Nat} {D:TypeDesc} {u:Value} {w:World} [hu:Und P t D] (hA:Z0V D=false) (hc:w.cell? ⟨b,0,none⟩=some u):(loadVar t ⟨b,0,none⟩).run P w=.ok u w:=by
 simp [loadVar,Und.isAgg,hA,hc]
theorem Zb3 (b:Nat) (v:Value) (w):Stp [b] w (w.setCell ⟨b,0,none⟩ v):=⟨rfl,rfl,rfl,(KeepsOthers.setCell w ⟨b,0,none⟩ v).size,λk hk hn=>Below.heap_setCell w ⟨b,0,none⟩ v k (λe=>hn (by simp [e]))⟩
theorem Z5V (opn:Int->Bool) (st:Int):∀ (m:Nat) (d:Int) (k:Nat),(∀ j:Nat,j<k->opn (d+st * j)=false)->(m<=k\/ZN (d+st * k)=false)->Z3Z opn st m d=(0,31)
 | 0,d,k,_,_=>rfl
 | m + 1, d, k, h, hk => by
   unfold Z3Z;cases hd:ZN d with
   | false=>rfl
   | true=>
     rw [if_pos rfl];cases k with
     | zero=>
       rcases hk with hk|hk
       omega;rw [show d+st * ((0:Nat):Int)=d by simp,hd] at hk;cases hk
     | succ k=>
       have h0:=h 0 (by omega);rw [show d+st * ((0:Nat):Int)=d by simp] at h0;rw [if_neg (by rw [h0];simp)];have es:∀ j:Nat,d+st+st * (j:Int)=d+st * ((j+1:Nat):Int):=λj=>by
        rw [Ybl,Int.mul_add];simp;omega
       exact Z5V opn st m (d+st) k (λj hj=>by rw [es];exact h (j+1) (by omega)) (hk.imp (λh=>by omega) (λh=>by rw [es];exact h))
theorem Z8D (opn:Int->Bool) (st:Int):∀ (m:Nat) (d:Int) (k:Nat),k<m->(∀ j:Nat,j<=k->ZN (d+st * j)=true)->(∀ j:Nat,j<k->opn (d+st * j)=false)->opn (d+st * k)=true->Z3Z opn st m d=(d+st * k,0)
 | 0,d,k,h,_,_,_=>absurd h (Xu _)
 | m + 1, d, k, gE, hi, h, ho => by
   have hd:=hi 0 (Xq _);rw [show d+st * ((0:Nat):Int)=d by simp] at hd;unfold Z3Z;rw [hd,if_pos rfl];cases k with
   | zero=>
     rw [show d+st * ((0:Nat):Int)=d by simp] at ho ⊢;rw [if_pos ho]
   | succ k=>
     have h0:=h 0 (by omega);rw [show d+st * ((0:Nat):Int)=d by simp] at h0;rw [if_neg (by rw [h0];simp)];have es:∀ j:Nat,d+st+st * (j:Int)=d+st * ((j+1:Nat):Int):=λj=>by
      rw [Ybl,Int.mul_add];simp;omega
     rw [<- es];exact Z8D opn st m (d+st) k (by omega) (λj hj=>by rw [es];exact hi (j+1) (by omega)) (λj hj=>by rw [es];exact h (j+1) (by omega)) (by rw [es];exact ho)
theorem Zfh {W:World} {b8 b9:Nat} {u v:Value} (c8:W.cell? ⟨b8,0,none⟩=some u) (c9:W.cell? ⟨b9,0,none⟩=some v) (n:b8≠b9) (x y:Value) :
 ((W.setCell ⟨b8,0,none⟩ x).setCell ⟨b9,0,none⟩ y).cell? ⟨b8,0,none⟩=some x/\((W.setCell ⟨b8,0,none⟩ x).setCell ⟨b9,0,none⟩ y).cell? ⟨b9,0,none⟩=some y:=by
 have h1:(W.setCell ⟨b8,0,none⟩ x).cell? ⟨b8,0,none⟩=some x:=World.cell?_setCell_same _ _ _ c8;have h2:(W.setCell ⟨b8,0,none⟩ x).cell? ⟨b9,0,none⟩=some v:=(World.cell?_setCell_other _ _ _ _ (λh=>n (by injection h))).trans c9;exact ⟨(World.cell?_setCell_other _ _ _ _ (λh=>n (by injection h with h;exact h.symm))).trans h1,World.cell?_setCell_same _ _ _ h2⟩
theorem Z5W (b8 b9:Nat) (x y:Value) (w):Stp [b8,b9] w ((w.setCell ⟨b8,0,none⟩ x).setCell ⟨b9,0,none⟩ y):=((Zb3 b8 x w).mono (S':=[b8,b9]) (by simp)).trans ((Zb3 b9 y _).mn)
theorem Zef {tmps:Array Value} {W:World} {b8 b9:Nat} {x y:Value} (h8:tmps.getD 8 undef=pQ b8) (h9:tmps.getD 9 undef=pQ b9) (c8:W.cell? ⟨b8,0,none⟩=some x) (c9:W.cell? ⟨b9,0,none⟩=some y) :
 (results Tryz.f84 tmps).run Tryz.prog W=.ok (.tuple #[x,y]) W:=by
 rw [XB] at h8 h9;have l8:=Z7b (P:=Tryz.prog) (t:=3) (hu:=(inferInstance:Und Tryz.prog 3 (.int .i64))) rfl c8;have l9:=Z7b (P:=Tryz.prog) (t:=92) (hu:=(inferInstance:Und Tryz.prog 92 (.int .i64))) rfl c9;simp [results,h8,h9,asAddr,l8,l9]
theorem Zkp (d kn st:Int) (ay:st=1\/st=-1) (c:Cal) (hv cv zo zs hr:Value) (w) (h:Z6E w c hv cv zo zs hr) :
 CallsIn Fence.wide 5 Tryz.prog 84 #[Z6F c hv cv zo zs hr,.I d,.I kn,.I st] w λe W'=>e=.returned (.tuple #[.I (JC (ZA c kn) st d).1,.I (JC (ZA c kn) st d).2])/\Stp [] w W':=by
 refine callsIn_of_wp_marks Tryz.func84 rfl trivial ?_ rfl;simp only [Tryz.ntmps84,Yat,Xe,Xf,Nat.reduceAdd,Nat.reduceSub,Array.replicate_succ,Array.replicate_zero,List.push_toArray,List.append_toArray,XT,XA]
 gi_wp2
 obtain ⟨W1,fS⟩:∃ W1,W1=((w.alloc (.cells (Z0h c hv cv zo zs hr).toArray 35)).alloc (.cells #[.I 0] 3)).alloc (.cells #[.I 0] 92):=⟨_,rfl⟩
 rw [<- fS];have kc:Blk W1 w.heap.size 35 (Z0h c hv cv zo zs hr):=by
  rw [fS];exact (Blk.up (World.alloc_heap_new w _) (Stp.alloc _ _ _)).up (Stp.alloc _ _ _)
 have k8:Blk W1 (w.heap.size+1) 3 [.I 0]:=by
  rw [fS];have:=World.alloc_heap_new (w.alloc (.cells (Z0h c hv cv zo zs hr).toArray 35)) (.cells #[.I 0] 3);rw [World.size_alloc] at this;exact Blk.up this (Stp.alloc _ _ _)
 have k9:Blk W1 (w.heap.size+1+1) 92 [.I 0]:=by
  rw [fS];have:=World.alloc_heap_new ((w.alloc (.cells (Z0h c hv cv zo zs hr).toArray 35)).alloc (.cells #[.I 0] 3)) (.cells #[.I 0] 92);rw [World.size_alloc,World.size_alloc] at this;exact this
 have ae:Stp [] w W1:=by
  rw [fS];exact ((Stp.alloc _ _ _).trans (Stp.alloc _ _ _)).trans (Stp.alloc _ _ _)
 have xX:w.heap.size<=w.heap.size+1:=by omega
 have xY:w.heap.size<=w.heap.size+1+1:=by omega
 generalize iu:w.heap.size+1+1=b9 at *;generalize fC:w.heap.size+1=b8 at *;generalize bC:w.heap.size=b4 at *;clear fS;have n89:b8≠b9:=by omega
 have c8:=Boxed.cell (show Boxed W1 b8 3 (.I 0) from k8);have f8:=Boxed.frozen (show Boxed W1 b8 3 (.I 0) from k8);have c9:=Boxed.cell (show Boxed W1 b9 92 (.I 0) from k9);have f9:=Boxed.frozen (show Boxed W1 b9 92 (.I 0) from k9);refine ⟨trivial,?_⟩;refine (callsIn_wide.2 (Z46 d W1)).mono ?_;rintro e w' ⟨v,rfl,rfl,rfl⟩;cases hd:ZN d with
 | false=>
   gi_wp2
   have gC:JC (ZA c kn) st d=(0,5):=by unfold JC;rw [hd];rfl
   obtain ⟨g8,g9⟩:=Zfh c8 c9 n89 (.I 0) (.I 5);refine ⟨_,Zef rfl rfl g8 g9,?_,?_⟩;rw [gC];exact ae.own (Z5W b8 b9 _ _ _) (λx hx=>by simp at hx;omega)
 | true=>
   have q:=λ(j:Nat) (u:Value) (hu:(Z0h c hv cv zo zs hr)[j]?=some u)=>kc.cell hu;have q0:=q 0 _ rfl;have q1:=q 1 _ rfl;have q2:=q 2 _ rfl;have q3:=q 3 _ rfl;have q4:=q 4 _ rfl;have q5:=q 5 _ rfl;have q6:=q 6 _ rfl;have q7:=q 7 _ rfl;have q8:=q 8 _ rfl;have q9:=q 9 _ rfl;have q10:=q 10 _ rfl;have q11:=q 11 _ rfl
   gi_wp2
   refine ⟨trivial,?_⟩;refine (callsIn_wide.2 (Zkm kn c hv cv zo zs hr w')).mono ?_;rintro e W2 ⟨v,rfl,⟨b2,b3,rfl,k2,k3⟩,ah⟩;have f8':=Boxed.frozen (show Boxed W2 b8 3 (.I 0) from k8.up ah);have f9':=Boxed.frozen (show Boxed W2 b9 92 (.I 0) from k9.up ah);have c8':=Boxed.cell (show Boxed W2 b8 3 (.I 0) from k8.up ah);have c9':=Boxed.cell (show Boxed W2 b9 92 (.I 0) from k9.up ah);have cN:=Boxed.cell (Boxed.new W2 178 .nilFunc);have fN:=Boxed.frozen (Boxed.new W2 178 .nilFunc);have vR:(store ⟨W2.heap.size,0,none⟩ (.func (.func 154) #[] #[pQ b2,pQ b3])).run Tryz.prog (W2.alloc (.cells #[.nilFunc] 178))=.ok () ((W2.alloc (.cells #[.nilFunc] 178)).setCell ⟨W2.heap.size,0,none⟩ (.func (.func 154) #[] #[pQ b2,pQ b3])):=by
    rw [run_store _ _ _ _ _ rfl];simp [cN,fN]
   gi_wp2
   refine ⟨trivial,?_⟩;refine (callsIn_wide.2 (Zko d st _)).mono ?_;rintro e W3 ⟨v,rfl,bd,bs,rfl,jQ,dD,kd,ks,am⟩;have aL:W3.cell? ⟨W2.heap.size,0,none⟩=some (.func (.func 154) #[] #[pQ b2,pQ b3]):=am.cell (by simp) (Boxed.cell (Boxed.new W2 178 _));have cE:Stp [] W2 W3:=(Stp.alloc [] W2 _).trans am
   gi_wp2
   have dx:Stp [] w' W3:=ah.trans cE;have h3:=(h.up ae).up dx;have vS:=(k2.up cE).lt;have k2':=k2.up cE;have k3':=k3.up cE;have k8':=k8.up dx;have k9':=k9.up dx;have vT:=cE.size;have xZ:W2.heap.size<W3.heap.size:=by have:=block_lt_of_cell aL;simpa using this
   have vU:W2.heap.size<bd:=by simp at jQ;omega
   have k8l:=(k8.up ah).lt;have k9l:=(k9.up ah).lt;have k2l:=k2.lt;have k3l:=k3.lt;have oO:=(ZO.1 hd).1;have gX:=(ZO.1 hd).2;have vV:w.heap.size<=bd:=by have:=ae.size;have:=dx.size;have:=ah.size;omega
   have g1:3<w.heap.size:=by have:=block_lt_of_cell (h.len 0 0 rfl);simpa using this
   have g2:4<w.heap.size:=by have:=block_lt_of_cell (h.mov 0 0 rfl);simpa using this
   have vW:=h.hols.ext (X':=[bd]) (ae.trans dx) (by simp) (λb hb=>.inr (by simp at hb;omega));have vX:=h.clos.ext (X':=[bd]) (ae.trans dx) (by simp) (λb hb=>.inr (by simp at hb;omega));have x8:=(ae.trans dx).size;have cal:∀ W,Stp [bd] W3 W->Z6E W c hv cv zo zs hr:=λW hS=>⟨vW.ext (X':=[]) hS (λb hb=>hb) (by simp),vX.ext (X':=[]) hS (λb hb=>hb) (by simp),h3.len.ext hS (by simp;omega),h3.mov.ext hS (by simp;omega),h.ok⟩
   have sb:∀ {S:List Nat} {W W':World},Stp S W3 W->Below W3.heap.size W W'->Stp S W3 W':=λhS hB=>⟨hB.os.trans hS.os,hB.tape.trans hS.tape,hB.output.trans hS.output,Xg hS.size hB.size,λi hi hn=>(hB.block i hi).trans (hS.block i hi hn)⟩
   have dP:=kd.lt;have x9:=ks.lt
   refine Zee (by omega) rfl rfl ay oO gX kd.lt
    (λk W=>Stp [bd] W3 W/\Boxed W bd 3 (.I (d+st * k))/\∀ j:Nat,j<k->ZA c kn (d+st * j)=false)
    (λk W=>(Stp [bd] W3 W/\Boxed W bd 3 (.I (d+st * k))/\∀ j:Nat,j<k->ZA c kn (d+st * j)=false)/\ZA c kn (d+st * k)=false)
    (λW=>Stp [bd,b8,b9] W3 W/\∃ k:Nat,k<=1000/\ZN (d+st * k)=true/\(∀ j:Nat,j<k->ZA c kn (d+st * j)=false)/\ZA c kn (d+st * k)=true/\W.cell? ⟨b8,0,none⟩=some (.I (d+st * k))/\W.cell? ⟨b9,0,none⟩=some (.I 0))
    ?hI ?hI' ?hIx ?hc ?hc' ?hstep ?h0 (λX=>{ tmps:=#[Z6F c hv cv zo zs hr,.I d,.I kn,.I st,pQ b4,undef,undef,undef,pQ b8,pQ b9,.pointer (some ⟨W2.heap.size,0,none⟩),.I X,.I d,.B true,.B false,Z6F c hv cv zo zs hr,.I kn,.func (.func 154) #[] #[pQ b2,pQ b3],.I d,.I st,.func (.func 212) #[] #[pQ bd,pQ bs],.I X,undef,undef,undef,undef,undef],defers:=[] }) ?hassign ?hbody ?hdone ?hstop
   case hI=>exact λk W W' ⟨a,b,e⟩ hB=>⟨sb a hB,(hB.block bd dP).trans b,e⟩
   case tt=>exact λk W W' ⟨⟨a,b,e⟩,f⟩ hB=>⟨⟨sb a hB,(hB.block bd dP).trans b,e⟩,f⟩
   case rc=>exact λW W' ⟨a,k,p1,p2,p3,p4,p5,p6⟩ hB=>⟨sb a hB,k,p1,p2,p3,p4,(World.cell?_of_block (hB.block b8 (by omega))).trans p5,(World.cell?_of_block (hB.block b9 (by omega))).trans p6⟩
   case hc=>exact λk W ⟨a,b,e⟩=>⟨b.cell,a.cell (by simp;omega) (ks.cell rfl)⟩
   case oK=>exact λk W ⟨⟨a,b,e⟩,f⟩=>⟨b.cell,b.frozen,a.cell (by simp;omega) (ks.cell rfl)⟩
   case aj=>
    rintro k W ⟨⟨a,b,e⟩,f⟩;have e1:d+st * ((k+1:Nat):Int)=d+st * k+st:=by rcases ay with rfl|rfl<;>omega
    refine ⟨a.trans (Zb3 bd _ _),by rw [e1];exact b.set _,λj hj=>?_⟩;by_cases ib:j=k;subst ib;exact f;exact e j (by omega)
   case h0=>exact ⟨Stp.refl _ _,by rw [show d+st * ((0:Nat):Int)=d by simp];exact kd,λj hj=>absurd hj (Xu _)⟩
   case hassign=>
    intro l X W K hK
    gi_wp2
    exact hK
   case gt=>
    rintro l k W ⟨a,bx,e⟩ im bG;have vY:=a.cell (b:=W2.heap.size) (o:=0) (by simp;omega) aL;obtain ⟨x0,x1⟩:=ZO.1 bG
    gi_wp2
    refine ⟨trivial,(CallsIn.inRound l (callsIn_wide.2 (ZgK (d+st * k) kn b2 b3 c hv cv zo zs hr W (cal W a) (k2'.ext a (by simp;omega)) (k3'.ext a (by simp;omega)) x0 x1))).mono ?_⟩;rintro e5 W5 ⟨v,rfl,rfl,aD⟩;have a5:=a.trans aD.mn;cases dI:ZeX c kn (d+st * k) with
    | true=>
      gi_wp2
      exact ⟨λb h1 h2=>aD.block b h2 (by simp),⟨Blk.up (show Blk W bd 3 [.I (d+st * k)] from bx) aD,e⟩,by unfold ZA;rw [bG,dI];rfl⟩
    | false=>
      have f8:=Boxed.frozen (show Boxed W5 b8 3 (.I 0) from k8'.ext a5 (by simp;omega));have f9:=Boxed.frozen (show Boxed W5 b9 92 (.I 0) from k9'.ext a5 (by simp;omega));have c8:=Boxed.cell (show Boxed W5 b8 3 (.I 0) from k8'.ext a5 (by simp;omega));have c9:=Boxed.cell (show Boxed W5 b9 92 (.I 0) from k9'.ext a5 (by simp;omega))
      gi_wp2
      exact ⟨λb h1 h2=>((Z5W b8 b9 _ _ W5).block b (Xa h2 aD.size) (by simp;omega)).trans (aD.block b h2 (by simp)),a5.mn.trans ((Z5W b8 b9 _ _ W5).mn),k,im,bG,e,by unfold ZA;rw [bG,dI];rfl,rfl⟩
   case dO=>
    rintro D k W hD eA ⟨a,bx,e⟩ fT;have f8:=Boxed.frozen (show Boxed W b8 3 (.I 0) from k8'.ext a (by simp;omega));have f9:=Boxed.frozen (show Boxed W b9 92 (.I 0) from k9'.ext a (by simp;omega));have c8:=Boxed.cell (show Boxed W b8 3 (.I 0) from k8'.ext a (by simp;omega));have c9:=Boxed.cell (show Boxed W b9 92 (.I 0) from k9'.ext a (by simp;omega))
    gi_wp2
    obtain ⟨y8,y9⟩:=Zfh c8 c9 n89 (.I 0) (.I 31);have vZ:D<W.heap.size:=(Xm.1 fT).1;have nB:=((Z5W b8 b9 (.I 0) (.I 31) W).block D vZ (by simp;omega)).trans fT;have gC:JC (ZA c kn) st d=(0,31):=by
     unfold JC;rw [hd,if_pos rfl];exact Z5V _ _ _ _ k e (eA.imp (λh=>by omega) id)
    refine ⟨by simp,.inl ⟨_,_,rfl,run_takeDeferred nB,_,Zef rfl rfl ((World.cell?_of_block (World.putObj_heap_other (by show b8≠D;omega))).trans y8) ((World.cell?_of_block (World.putObj_heap_other (by show b9≠D;omega))).trans y9),?_,?_⟩⟩;rw [gC];have t1:=((ae.trans dx).ow a).own (Z5W b8 b9 (.I 0) (.I 31) W) (λx hx=>.inr (by simp at hx;omega));refine ⟨t1.os,t1.tape,t1.output,by simpa using t1.size,λq hq hn=>(World.putObj_heap_other (by omega)).trans (t1.block q hq hn)⟩
   case dQ=>
    rintro D W hD ⟨a,k,p1,p2,p3,p4,p5,p6⟩ fT
    gi_wp2
    obtain ⟨x0,x1⟩:=ZO.1 p2;have gC:JC (ZA c kn) st d=(d+st * k,0):=by
     unfold JC;rw [hd,if_pos rfl];refine Z8D _ _ _ _ k (by omega) (λj hj=>ZO.2 ?_) p3 p4;rcases ay with rfl|rfl<;>omega
    refine ⟨by simp,.inl ⟨_,_,rfl,run_takeDeferred fT,_,Zef rfl rfl ((World.cell?_of_block (World.putObj_heap_other (by show b8≠D;omega))).trans p5) ((World.cell?_of_block (World.putObj_heap_other (by show b9≠D;omega))).trans p6),?_,?_⟩⟩;rw [gC];have t1:=(ae.trans dx).ow a;exact ⟨t1.os,t1.tape,t1.output,by simpa using t1.size,λq hq hn=>(World.putObj_heap_other (by omega)).trans (t1.block q hq hn)⟩
theorem Z3m (d kn st:Int) (c:Cal) (hv cv zo zs hr:Value) (w) (h:Z6E w c hv cv zo zs hr) (ay:st=1\/st=-1) :
 CC 84 #[Z6F c hv cv zo zs hr,.I d,.I kn,.I st] w λr w'=>r=.tuple #[.I (JC (ZA c kn) st d).1,.I (JC (ZA c kn) st d).2]/\Stp [] w w':=by
 refine Calls.mono (callsIn_wide.1 (Zkp d kn st ay c hv cv zo zs hr w h)) ?_;rintro e W' ⟨rfl,hS⟩;exact .mk ⟨rfl,hS⟩
theorem Z9S (d kn:Int) (c:Cal) (hv cv zo zs hr:Value) (w) (h:Z6E w c hv cv zo zs hr) :
 CC 52 #[Z6F c hv cv zo zs hr,.I d,.I kn] w λr w'=>r=.tuple #[.I (JC (ZA c kn) (1) d).1,.I (JC (ZA c kn) (1) d).2]/\Stp [] w w':=by
 refine cW3 14 Tryz.func52 ?_;refine W ?_;refine Z1 (Zp rfl) rfl ?_;rintro _ w1 ⟨b3,rfl,dV,ac,hS⟩;replace ac:Blk w1 b3 35 (Z0h c hv cv zo zs hr):=ac;replace h:=h.up hS;refine W ?_;refine CM (Z7j rfl rfl rfl rfl) (Z3m d kn (1) c hv cv zo zs hr _ h (by omega)) ?_;rintro _ w2 ⟨rfl,ah⟩;refine RT ?_;exact ⟨rfl,hS.trans ah⟩
theorem Z9b (d kn:Int) (c:Cal) (hv cv zo zs hr:Value) (w) (h:Z6E w c hv cv zo zs hr) :
 CC 210 #[Z6F c hv cv zo zs hr,.I d,.I kn] w λr w'=>r=.tuple #[.I (JC (ZA c kn) (-1) d).1,.I (JC (ZA c kn) (-1) d).2]/\Stp [] w w':=by
 refine cW3 14 Tryz.func210 ?_;refine W ?_;refine Z1 (Zp rfl) rfl ?_;rintro _ w1 ⟨b3,rfl,dV,ac,hS⟩;replace ac:Blk w1 b3 35 (Z0h c hv cv zo zs hr):=ac;replace h:=h.up hS;refine W ?_;refine CM (Z7j rfl rfl rfl rfl) (Z3m d kn (-1) c hv cv zo zs hr _ h (by omega)) ?_;rintro _ w2 ⟨rfl,ah⟩;refine RT ?_;exact ⟨rfl,hS.trans ah⟩
theorem Zng (d n kn:Int) (c:Cal) (hv cv zo zs hr:Value) (w) (h:Z6E w c hv cv zo zs hr) :
 CC 209 #[Z6F c hv cv zo zs hr,.I d,.I n,.I kn] w λr w'=>r=.tuple #[.I (Z6r (ZA c kn) d n).1,.I (Z6r (ZA c kn) d n).2]/\Stp [] w w':=by
 refine cW4 46 Tryz.func209 ?_;refine W ?_;refine Z1 (Zp rfl) rfl ?_;rintro _ w1 ⟨b4,rfl,bC,ac,hS⟩;replace ac:Blk w1 b4 35 (Z0h c hv cv zo zs hr):=ac;replace h:=h.up hS;refine W ?_;refine CL (Z46 d _) ?_;rintro _ w1 ⟨rfl,rfl⟩;unfold Z6r;cases hd:ZN d with
 | false=>
   rw [if_neg (by simp)];refine RT ?_;exact ⟨rfl,hS⟩
 | true=>
   rw [if_pos rfl];by_cases hn:n < -1000\/1000<n
   . rw [if_pos hn]
     repeat'(first|refine W1 ?_|omega|refine VG ?_ ?_<;>intro hg|refine VC ?_ ?_<;>intro hc)
     all_goals refine WR ?_
     all_goals exact .mk ⟨rfl,hS⟩
   rw [if_neg hn];by_cases gD:n<0;have qG:(n.natAbs:Int)=(-n):=by omega
   have rf:(if n<0 then (-1:Int) else 1)=-1:=by split<;>omega
   rw [rf];refine QO ?_
   refine Zt (σ:=Nat×Int) (λq=>[(1,.I q.2),(3,.I kn),(4,pQ b4),(10,.I (-1)),(28,.I (-n)),(29,.I (q.1:Int))])
    (λq w'=>q.1<=n.natAbs/\ZN q.2=true/\Z6q (ZA c kn) (-1) (n.natAbs - q.1) q.2=Z6q (ZA c kn) (-1) n.natAbs d/\Stp [] w1 w') (λq=>n.natAbs - q.1) (0,d) ⟨rfl,rfl,rfl,rfl,rfl,rfl,trivial⟩ ⟨Xq _,hd,rfl,Stp.refl _ _⟩ ?_
   rintro ⟨k,q⟩ w2 ⟨hk,hq,fk,ah⟩;dsimp only at hk hq fk ⊢;have aP:=ac.up ah;have h2:=h.up ah;have v8:=ZO.1 hq;by_cases ag:k<n.natAbs;have e1:n.natAbs - k=(n.natAbs - (k+1))+1:=by omega
   rw [e1,Z6q] at fk;refine QO ?_;refine CM (Z7j rfl rfl rfl rfl) (Z3m (q+(-1)) kn (-1) c hv cv zo zs hr _ h2 (by omega)) ?_;rintro _ w3 ⟨rfl,am⟩;by_cases he:(JC (ZA c kn) (-1) (q+(-1))).2=0;rw [if_pos he] at fk;rw [he];refine W ?_;exact Zx (k+1,(JC (ZA c kn) (-1) (q+(-1))).1) ⟨rfl,rfl,rfl,rfl,rfl,rfl,trivial⟩ ⟨by dsimp only;omega,(Z41 he).1,fk,ah.trans am⟩ (by dsimp only;omega);rw [if_neg he] at fk;refine QO ?_;refine WR ?_;rw [<- fk];exact .mk ⟨rfl,(hS.trans ah).trans am⟩;have e1:n.natAbs - k=0:=by omega
   rw [e1,Z6q] at fk;refine QO ?_;refine WR ?_;rw [<- fk];exact .mk ⟨rfl,hS.trans ah⟩;have qG:(n.natAbs:Int)=n:=by omega
   have rf:(if n<0 then (-1:Int) else 1)=1:=by split<;>omega
   rw [rf];refine QO ?_
   refine Zt (σ:=Nat×Int) (λq=>[(1,.I q.2),(3,.I kn),(4,pQ b4),(10,.I (1)),(28,.I n),(29,.I (q.1:Int))])
    (λq w'=>q.1<=n.natAbs/\ZN q.2=true/\Z6q (ZA c kn) (1) (n.natAbs - q.1) q.2=Z6q (ZA c kn) (1) n.natAbs d/\Stp [] w1 w') (λq=>n.natAbs - q.1) (0,d) ⟨rfl,rfl,rfl,rfl,rfl,rfl,trivial⟩ ⟨Xq _,hd,rfl,Stp.refl _ _⟩ ?_
   rintro ⟨k,q⟩ w2 ⟨hk,hq,fk,ah⟩;dsimp only at hk hq fk ⊢;have aP:=ac.up ah;have h2:=h.up ah;have v8:=ZO.1 hq;by_cases ag:k<n.natAbs;have e1:n.natAbs - k=(n.natAbs - (k+1))+1:=by omega
   rw [e1,Z6q] at fk;refine QO ?_;refine CM (Z7j rfl rfl rfl rfl) (Z3m (q+(1)) kn (1) c hv cv zo zs hr _ h2 (by omega)) ?_;rintro _ w3 ⟨rfl,am⟩;by_cases he:(JC (ZA c kn) (1) (q+(1))).2=0;rw [if_pos he] at fk;rw [he];refine W ?_;exact Zx (k+1,(JC (ZA c kn) (1) (q+(1))).1) ⟨rfl,rfl,rfl,rfl,rfl,rfl,trivial⟩ ⟨by dsimp only;omega,(Z41 he).1,fk,ah.trans am⟩ (by dsimp only;omega);rw [if_neg he] at fk;refine QO ?_;refine WR ?_;rw [<- fk];exact .mk ⟨rfl,(hS.trans ah).trans am⟩;have e1:n.natAbs - k=0:=by omega
   rw [e1,Z6q] at fk;refine QO ?_;refine WR ?_;rw [<- fk];exact .mk ⟨rfl,hS.trans ah⟩
theorem Z9c (d n:Int) (w) (hL:Z0I w) (h0:0<=d) (h1:d<=3652058) :
 CC 208 #[.I d,.I n] w λr w'=>r=.tuple #[.I (Zcj d n).1,.I (Zcj d n).2]/\Stp [] w w':=by
 obtain ⟨y1,y2,m1,m2,d1,d2,jc⟩:=Z5f h0 h1;have bG:ZN d=true:=ZO.2 ⟨h0,h1⟩;have g1:3<w.heap.size:=by have:=block_lt_of_cell (hL 0 0 rfl);simpa using this
 unfold Zcj;refine cW2 56 Tryz.func208 ?_;by_cases hn:n < -200000\/200000<n
 . rw [if_pos hn]
   repeat'(first|refine W1 ?_|omega|refine VG ?_ ?_<;>intro hg|refine VC ?_ ?_<;>intro hc)
   all_goals refine WR ?_
   all_goals exact .mk ⟨rfl,Stp.refl _ _⟩
 rw [if_neg hn,if_pos bG];refine QO ?_;refine CL (Z7w d _ h0 h1) ?_;rintro _ w1 ⟨rfl,hS⟩;replace hL:=hL.up hS;refine W ?_;refine Z1 Z2 rfl ?_;rintro _ w2 ⟨b6,rfl,ew,e6,ah⟩;refine W ?_;refine SB (us:=[.I (ofM d).y,.I (ofM d).m,.I (ofM d).d]) (by intro u hu;simp at hu;rcases hu with rfl|rfl|rfl<;>rfl) e6 ?_;rintro _ w3 ⟨hT,k6⟩;have kF:w.heap.size<=b6:=by have:=hS.size;omega
 replace hS:=hS.trans (ah.ow hT);replace hL:=hL.up (ah.ow hT);clear e6 hT ah;generalize hM:12 * (ofM d).y+(ofM d).m - 1+n=M;by_cases hr:M<12\/120000<=M
 . rw [if_pos hr]
   refine W ?_;rw [hM];repeat'(first|refine W1 ?_|omega|refine VG ?_ ?_<;>intro hg|refine VC ?_ ?_<;>intro hc)
   all_goals refine WR ?_
   all_goals exact .mk ⟨rfl,hS⟩
 rw [if_neg hr];have fI:=Z1k (M / 12) (M % 12+1);have cR:=Z2m (y:=M / 12) (k:=(M % 12).toNat) (by omega);rw [show (((M % 12).toNat:Int))=M % 12 by omega] at cR;refine W ?_;rw [hM];refine QO ?_;refine S1 (u:=.I (M / 12)) k6 ?_;rintro _ w4 ⟨aI,k6⟩;refine W ?_;refine S1 (u:=.I (M % 12+1)) k6 ?_;rintro _ w5 ⟨aD,k6⟩;replace hL:=(hL.ext aI (by simp;omega)).ext aD (by simp;omega);replace hS:=(hS.ow aI).ow aD;clear aI aD;refine W ?_;refine ZDr 10 [] [9] [(0,0),(1,1),(2,0),(3,1),(4,0),(5,1),(6,2),(7,0),(8,0),(9,2)] (λw1 ae=>?_);replace hL:=hL.up ae;replace k6:=k6.up ae;replace hS:=hS.trans ae;clear ae;refine D ?_;refine Za rfl trivial (Z6 rfl (Zg rfl rfl) (Z3d (M / 12) (M % 12+1) _ hL (by omega) (by omega))) (λ_ _ h=>by rw [h.2];exact Stp.refl _ _) rfl ?_;rintro _ _ ⟨rfl,rfl⟩;refine D ?_;refine JA rfl trivial (Zc (u:=.I (min (ofM d).d (ZK (M / 12) (M % 12+1)))) rfl rfl rfl rfl k6 (by simp)) rfl ?_;rintro _ w6 ⟨dj,k6⟩;replace hS:=hS.ow dj;refine D ?_;refine W ?_;refine CM (ZP rfl) (Z5g (M / 12) (M % 12+1) (min (ofM d).d (ZK (M / 12) (M % 12+1))) _ (by omega) (by omega) (by omega) (by omega) (by omega) (by omega) (by omega)) ?_;rintro _ w7 ⟨rfl,aQ⟩;refine RT ?_;exact ⟨rfl,hS.trans aQ⟩
theorem Znh (a b:Int) (w):(Instr.build 75 #[(0,.I a),(1,.I b)]).run Tryz.prog w=.ok (agg ((a,b):Spn)) w:=by kernel_rfl
theorem Zkq (d:Spn) (w):(Instr.buildSlice 27 1 #[(0,agg d)]).run Tryz.prog w=.ok (.slice (some ⟨w.heap.size,0,none⟩) 1 1) (w.alloc (.cells (Z3.enc d).toArray 75)):=by kernel_rfl
section
variable {K:MK} {w w':World} {sv pv:Value} {st:List Int} {sp:List Spn} {at_ er:Int} {dn:Bool}
theorem Mch.cal (hK:KOk K) (h:Mch K w sv pv st sp at_ er dn):Z6E w K.c K.hv K.cv K.zo K.zs K.hr:=
 ⟨(h.hols hK).ext (Stp.refl [] w) (by simp) (by simp),(h.clos hK).ext (Stp.refl [] w) (by simp) (by simp),h.len hK,h.mov hK,hK.cal⟩
theorem Mch.spans (hK:KOk K) (h:Mch K w sv pv st sp at_ er dn) {bs:Nat} (hk:K.nk=some bs) {pv':Value} {sp':List Spn} {w2:World} (hS:Stp (ob pv) w w') (hr:Row [] w' K.w0.heap.size 75 pv' sp') (ho:∀ b∈ob pv',b∈ob pv\/w.heap.size<=b)
 (ah:Stp [bs] w' w2) (hb:Blk w2 bs 27 [pv']):Mch K w2 sv pv' st sp' at_ er dn:=by
 have kG:=hK.bml;have hn:=hK.nkl bs hk;obtain ⟨h1,h2⟩:=h.nt bs hk;have kA:=λb hb=>(hr.ob_le b hb).1;have fQ:=λb hb=>(h2.ob_le b hb).1;have rg:=λb hb=>(h.row.ob_le b hb).1;have ri:=λb hb=>(h.row.ob_le b hb).2;refine ⟨(h.blk.ext hS (λhx=>by have:=fQ _ hx;omega)).ext ah (by have:=hn.2;simp;exact λe=>this e.symm),(h.row.keep hS (λb hb hp=>h.ap b hp hb)).keep ah (λb hb hx=>by have:=rg _ hx;simp at hb;omega),λbs' dD=>?_,(λh0=>by rw [hk] at h0;cases h0),λb hb hp=>?_,?_,λp hp=>?_⟩;have dD:bs'=bs:=by rw [hk] at dD;exact (X1 dD).symm
 subst dD;exact ⟨hb,hr.keep ah (λb hb hx=>by have:=kA _ hx;simp at hb;omega)⟩;rcases ho b hp with h3|h3
 exact h.ap b hb h3;have:=ri b hb;omega;exact (h.stp.own (S':=ob pv) hS (λb hb=>.inr (fQ b hb))).trans (ah.mono (by simp [MK.own,hk]));obtain ⟨a,b,c,d⟩:=h.prot p hp;have ag:=(Xm.1 a).1;have a2:=(hS.block p.1 ag d).trans a;have a3:=(ah.block p.1 (Xm.1 a2).1 (λe=>b (by simp at e;rw [e];simp [MK.own,hk]))).trans a2;exact ⟨a3,b,c,λh3=>(ho _ h3).elim d (λh4=>by omega)⟩
theorem ZgL (hK:KOk K) (h:Mch K w sv pv st sp at_ er dn) {bs:Nat} (hk:K.nk=some bs) (a b:Int) (hl:sp.length<=100000) :
 CC 80 #[.I a,.I b,pQ bs] w λr w'=>r=.tuple #[]/\∃ pv',Mch K w' sv pv' st (sp++[(a,b)]) at_ er dn:=by
 obtain ⟨ac,ab⟩:=h.nt bs hk;have hn:=hK.nkl bs hk;have fQ:=λb hb=>(ab.ob_le b hb).1;refine cW3 11 Tryz.func80 ?_;refine W ?_;refine Z8 (vs:=[(0,.I a),(1,.I b)]) rfl (Znh _ _) rfl ?_;refine Z1 (Z0 (vs:=[(0,agg ((a,b):Spn))]) rfl (Zkq _)) rfl ?_;rintro bv w1 hN;have ae:=Z5.stp hN;have an:SlV (ob pv++[]) w1 bv [((a,b):Spn)]:=hN.slv (λb hb=>by simp at hb;exact (ab.ob_le b hb).2) rfl rfl (by simp [maxLen]);replace h:=h.up ae;replace ab:=ab.up ae;replace ac:=ac.up ae;refine Z1 (J4 rfl (by decide) rfl rfl ab an (by simp;omega) (by simp [maxLen];omega) (h.stp.size)) rfl ?_;rintro pv' w2 ⟨dh,ah,ho⟩;have aP:=ac.ext ah (λhx=>by have:=fQ _ hx;omega);refine W ?_;have h1:=dh.slv (X:=[]) (by simp);refine Z4 (Zc (u:=pv') rfl rfl h1.cells h1.one aP (by simp)) ?_;rintro _ w3 ⟨am,aK⟩;refine RT ?_;exact ⟨rfl,pv',h.spans hK hk ah dh ho am aK⟩
theorem Z7z {P:Nat} {e:Env} {d:Option Nat} {ty:TypeId} {pos:String} {af:Array Edge} {g:Option (Nat×Bool)} {x y z:Operand} {ts:Array TypeId} (hK:KOk K) (h:Mch K w sv pv st sp at_ er dn) {a b:Int} (hl:sp.length<=100000)
 (hx:ev e x=some (Zob K.nk)) (hy:ev e y=some (.I a)) (hz:ev e z=some (.I b)) :
 OE Tryz.prog P ⟨d,.call { callee:=.value x,args:=#[y,z],argTypes:=ts },ty,pos,af,g⟩ e w (λv w'=>v=.tuple #[]/\∃ pv',Mch K w' sv pv' st (sp++[(a,b)]) at_ er dn):=by
 cases hk:K.nk with
 | none=>
   exact absurd hk hK.nks
 | some bs=>
   rw [hk] at hx;exact Z0k (f:=80) hx (Zg hy hz) rfl (ZgL hK h hk a b hl)
theorem Res.err {r:Int×Int} {st':List Int} {sp':List Spn} (h:Res K w st sp at_ r) (he:¬ r.2=0):Res K w st' sp' at_ r:=by
 obtain ⟨a,b,c,d,h1,h2⟩:=h;exact ⟨a,b,c,d,h1,λh0=>absurd h0 he⟩
theorem Zni (hK:KOk K) {a b:Int} (h:Mch K w sv pv (st++[a,b]) sp at_ 0 false) (hl:st.length<=100000) (n:Int) (hr:ZN a=true) :
 CC 142 #[mP K,.I n] w λr w'=>r=.tuple #[]/\Res K w' st sp at_ (Zcj a b):=by
 obtain ⟨d0,d1⟩:=ZO.1 hr;refine cW2 18 Tryz.func142 ?_;refine W ?_;refine CL (Z07 hK h) ?_;rintro _ w1 ⟨rfl,sv1,h1⟩;refine W ?_;refine CL (Z9c a b _ (h1.len hK) d0 d1) ?_;rintro _ w2 ⟨rfl,hS⟩;replace h1:=h1.up hS;refine W ?_;refine CL (Z0s hK h1 hl _ _) ?_;rintro _ w3 ⟨rfl,h2⟩;refine RT ?_;exact ⟨rfl,h2⟩
theorem Zwo (hK:KOk K) {b:Int} (h:Mch K w sv pv (st++[b]) sp at_ 0 false) (hl:st.length<=100000) (go:sp.length<=100000) (n:Int) :
 CC 144 #[mP K,.I n] w λr w'=>r=.tuple #[]/\Res K w' st (sp++[(b,(JC (ZA K.c K.kn) 1 b).1)]) at_ (JC (ZA K.c K.kn) (1) b):=by
 refine cW2 35 Tryz.func144 ?_;refine W ?_;refine CL (Z3k hK h) ?_;rintro _ w1 ⟨rfl,sv1,h1⟩;refine W ?_;refine ZDr 15 [] [] [(0,0),(1,0),(2,0),(3,1),(4,0),(5,0),(6,0),(7,0),(8,1),(9,2),(10,0),(11,0),(12,0),(13,0),(14,0)] (λw1 ae=>?_);replace h1:=h1.up ae;have ac:=h1.blk;unfold Z5N at ac;refine D ?_;refine J7 rfl trivial (λw' aU=>Zn (us:=Z0h K.c K.hv K.cv K.zo K.zs K.hr) rfl rfl (ac.up aU) rfl rfl) rfl ?_;refine D ?_;refine DC (Z9S b K.kn K.c K.hv K.cv K.zo K.zs K.hr _ (h1.cal hK)) (λ_ _ h=>h.2) ?_;rintro _ w2 ⟨rfl,ah⟩;replace h1:=h1.up ah;replace ac:=ac.up ah;refine D ?_;by_cases he:(JC (ZA K.c K.kn) (1) b).2=0;refine QO ?_;refine Z1 (Z7z hK h1 go rfl rfl rfl) rfl ?_;rintro _ w3 ⟨rfl,pv1,h2⟩;refine W ?_;refine CL (Z0s hK h2 hl _ _) ?_;rintro _ w4 ⟨rfl,h3⟩;refine RT ?_;exact ⟨rfl,h3⟩;refine QO ?_;refine CL (Z0s hK h1 hl _ _) ?_;rintro _ w4 ⟨rfl,h3⟩;refine RT ?_;exact ⟨rfl,h3.err he⟩
theorem Zwp (hK:KOk K) {b:Int} (h:Mch K w sv pv (st++[b]) sp at_ 0 false) (hl:st.length<=100000) (go:sp.length<=100000) (n:Int) :
 CC 145 #[mP K,.I n] w λr w'=>r=.tuple #[]/\Res K w' st (sp++[((JC (ZA K.c K.kn) (-1) b).1,b)]) at_ (JC (ZA K.c K.kn) (-1) b):=by
 refine cW2 35 Tryz.func145 ?_;refine W ?_;refine CL (Z3k hK h) ?_;rintro _ w1 ⟨rfl,sv1,h1⟩;refine W ?_;refine ZDr 15 [] [] [(0,0),(1,0),(2,0),(3,1),(4,0),(5,0),(6,0),(7,0),(8,1),(9,2),(10,0),(11,0),(12,0),(13,0),(14,0)] (λw1 ae=>?_);replace h1:=h1.up ae;have ac:=h1.blk;unfold Z5N at ac;refine D ?_;refine J7 rfl trivial (λw' aU=>Zn (us:=Z0h K.c K.hv K.cv K.zo K.zs K.hr) rfl rfl (ac.up aU) rfl rfl) rfl ?_;refine D ?_;refine DC (Z9b b K.kn K.c K.hv K.cv K.zo K.zs K.hr _ (h1.cal hK)) (λ_ _ h=>h.2) ?_;rintro _ w2 ⟨rfl,ah⟩;replace h1:=h1.up ah;replace ac:=ac.up ah;refine D ?_;by_cases he:(JC (ZA K.c K.kn) (-1) b).2=0;refine QO ?_;refine Z1 (Z7z hK h1 go rfl rfl rfl) rfl ?_;rintro _ w3 ⟨rfl,pv1,h2⟩;refine W ?_;refine CL (Z0s hK h2 hl _ _) ?_;rintro _ w4 ⟨rfl,h3⟩;refine RT ?_;exact ⟨rfl,h3⟩;refine QO ?_;refine CL (Z0s hK h1 hl _ _) ?_;rintro _ w4 ⟨rfl,h3⟩;refine RT ?_;exact ⟨rfl,h3.err he⟩
theorem ZsY (hK:KOk K) {a b:Int} (h:Mch K w sv pv (st++[a,b]) sp at_ 0 false) (hl:st.length<=100000) (go:sp.length<=100000) (n:Int) (hr:ZN a=true) :
 CC 143 #[mP K,.I n] w λr w'=>r=.tuple #[]/\Res K w' st (sp++JX 18 a b (Z6r (ZA K.c K.kn) a b).1) at_ (Z6r (ZA K.c K.kn) a b):=by
 obtain ⟨d0,d1⟩:=ZO.1 hr;refine cW2 57 Tryz.func143 ?_;refine W ?_;refine CL (Z07 hK h) ?_;rintro _ w1 ⟨rfl,sv1,h1⟩;refine W ?_;refine ZDr 16 [] [] [(0,0),(1,0),(2,0),(3,1),(4,0),(5,0),(6,0),(7,0),(8,0),(9,1),(10,2),(11,0),(12,0),(13,0),(14,0),(15,0)] (λw1 ae=>?_);replace h1:=h1.up ae;have ac:=h1.blk;unfold Z5N at ac;refine D ?_;refine J7 rfl trivial (λw' aU=>Zn (us:=Z0h K.c K.hv K.cv K.zo K.zs K.hr) rfl rfl (ac.up aU) rfl rfl) rfl ?_;refine D ?_;refine DC (Zng a b K.kn K.c K.hv K.cv K.zo K.zs K.hr _ (h1.cal hK)) (λ_ _ h=>h.2) ?_;rintro _ w2 ⟨rfl,ah⟩;replace h1:=h1.up ah;replace ac:=ac.up ah;refine D ?_;have bD:JX 18 a b (Z6r (ZA K.c K.kn) a b).1=if 0<b then [(a+1,(Z6r (ZA K.c K.kn) a b).1)] else if b<0 then [((Z6r (ZA K.c K.kn) a b).1,a - 1)] else []:=rfl
 rw [bD];by_cases he:(Z6r (ZA K.c K.kn) a b).2=0;by_cases lI:b=0;rw [if_neg (by omega),if_neg (by omega),XD];refine QO ?_;refine CL (Z0s hK h1 hl _ _) ?_;rintro _ w4 ⟨rfl,h3⟩;refine RT ?_;exact ⟨rfl,h3⟩;by_cases aW:0<b;rw [if_pos aW];refine QO ?_;refine Z1 (Z7z hK h1 go rfl rfl rfl) rfl ?_;rintro _ w3 ⟨rfl,pv1,h2⟩;refine W ?_;refine CL (Z0s hK h2 hl _ _) ?_;rintro _ w4 ⟨rfl,h3⟩;refine RT ?_;exact ⟨rfl,h3⟩;rw [if_neg aW,if_pos (by omega)];refine QO ?_;refine Z1 (Z7z hK h1 go rfl rfl rfl) rfl ?_;rintro _ w3 ⟨rfl,pv1,h2⟩;refine W ?_;refine CL (Z0s hK h2 hl _ _) ?_;rintro _ w4 ⟨rfl,h3⟩;refine RT ?_;exact ⟨rfl,h3⟩;refine QO ?_;refine CL (Z0s hK h1 hl _ _) ?_;rintro _ w4 ⟨rfl,h3⟩;refine RT ?_;exact ⟨rfl,h3.err he⟩
end
structure ZcM (code:List Ins) (st:List (Option Shp)) (i:Nat) (s nx:Shp):Prop where
 at_:st.getD i none=some s
 next:Ji (code.getD i ⟨0,0⟩) s=some nx
 stop:(code.getD i ⟨0,0⟩).op=24->i+1=st.length/\s.length=1
 jump:(code.getD i ⟨0,0⟩).op=13\/(code.getD i ⟨0,0⟩).op=14->(i:Int)<(code.getD i ⟨0,0⟩).n/\(code.getD i ⟨0,0⟩).n<st.length/\st.getD (code.getD i ⟨0,0⟩).n.toNat none=some nx
 on:(code.getD i ⟨0,0⟩).op≠24->(code.getD i ⟨0,0⟩).op≠13->i+1<st.length/\st.getD (i+1) none=some nx
theorem Z2r {st st':List (Option Shp)} {t:Int} {nx:Shp} (h:JE st t nx=some st'):(∀ i s,st.getD i none=some s->st'.getD i none=some s)/\0<=t/\t<st.length/\st'.getD t.toNat none=some nx:=by
 unfold JE at h;split at h;rename_i hr;split at h;rename_i s0 ba;split at h;rename_i he;subst he;cases h;exact ⟨λi s h=>h,hr.1,hr.2,ba⟩;cases h;rename_i hn;cases h;refine ⟨λi s h=>?_,hr.1,hr.2,?_⟩;by_cases hi:t.toNat=i;subst hi;rw [hn] at h;cases h;have:(st.set t.toNat (some nx)).getD i none=st.getD i none:=by
  simp [List.getD,hi]
 rw [this];exact h;have:t.toNat<st.length:=by omega
 simp [List.getD,this];cases h
theorem ZcM.keeps {code:List Ins} {st st':List (Option Shp)} {i:Nat} {s nx:Shp} (h:ZcM code st i s nx) (hk:∀ i s,st.getD i none=some s->st'.getD i none=some s) (hl:st'.length=st.length):ZcM code st' i s nx:=
 ⟨hk _ _ h.at_,h.next,λh1=>by rw [hl];exact h.stop h1,λh1=>by rw [hl];exact ⟨(h.jump h1).1,(h.jump h1).2.1,hk _ _ (h.jump h1).2.2⟩,λh1 h2=>by rw [hl];exact ⟨(h.on h1 h2).1,hk _ _ (h.on h1 h2).2⟩⟩
theorem ZgM {code:List Ins} {st st':List (Option Shp)} {i:Nat} (h:JM st i (code.getD i ⟨0,0⟩)=some st'):(∀ i s,st.getD i none=some s->st'.getD i none=some s)/\st'.length=st.length/\∃ s nx,ZcM code st' i s nx:=by
 unfold JM at h;cases hs:st.getD i none with
 | none=>rw [hs] at h;cases h
 | some s=>
   rw [hs] at h;dsimp only at h;cases hn:Ji (code.getD i ⟨0,0⟩) s with
   | none=>rw [hn] at h;cases h
   | some nx=>
     rw [hn] at h;dsimp only at h;by_cases cX:(code.getD i ⟨0,0⟩).op=24;rw [if_pos cX] at h;split at h;rename_i hc;cases h;exact ⟨λ_ _ h=>h,rfl,s,nx,hs,hn,λ_=>hc,λh=>by omega,λh=>absurd cX h⟩;cases h;rw [if_neg cX] at h;by_cases cT:(code.getD i ⟨0,0⟩).op=13;rw [if_pos cT] at h;split at h;rename_i hc;obtain ⟨k1,k2,k3,k4⟩:=Z2r h;have hl:=Jz h;exact ⟨k1,hl,s,nx,k1 _ _ hs,hn,λh=>absurd h cX,λ_=>⟨hc,by omega,k4⟩,λ_ h=>absurd cT h⟩;cases h;rw [if_neg cT] at h;by_cases dY:(code.getD i ⟨0,0⟩).op=14;rw [if_pos dY] at h;split at h;rename_i hc;obtain ⟨s1,r1,r2⟩:=X0.1 h;obtain ⟨k1,k2,k3,k4⟩:=Z2r r1;obtain ⟨m1,m2,m3,m4⟩:=Z2r r2;have hl:=Jz r1;have dS:=Jz r2;exact ⟨λi s h=>m1 _ _ (k1 _ _ h),by omega,s,nx,m1 _ _ (k1 _ _ hs),hn,λh=>absurd h cX,λ_=>⟨hc,by omega,m1 _ _ k4⟩,λ_ _=>⟨by omega,m4⟩⟩;cases h;rw [if_neg dY] at h;obtain ⟨k1,k2,k3,k4⟩:=Z2r h;have hl:=Jz h;exact ⟨k1,hl,s,nx,k1 _ _ hs,hn,λh=>absurd h cX,λh=>absurd h (not_or.2 ⟨cT,dY⟩),λ_ _=>⟨by omega,k4⟩⟩
theorem ZcN {code:List Ins} {st0:List (Option Shp)}:∀ (k:Nat) (st:List (Option Shp)),Z3w code k st0=some st->(∀ i s,st0.getD i none=some s->st.getD i none=some s)/\st.length=st0.length/\∀ i,i<k->∃ s nx,ZcM code st i s nx
 | 0,st,h=>by cases h;exact ⟨λ_ _ h=>h,rfl,λi hi=>by omega⟩
 | k + 1, st, h => by
   obtain ⟨s1,h1,h2⟩:=X0.1 h;obtain ⟨a1,a2,a3⟩:=ZcN k s1 h1;obtain ⟨b1,b2,b3⟩:=ZgM h2;refine ⟨λi s h=>b1 _ _ (a1 _ _ h),by omega,λi hi=>?_⟩;by_cases hk:i=k;subst hk;exact b3;obtain ⟨s,nx,hg⟩:=a3 i (by omega);exact ⟨s,nx,hg.keeps b1 b2⟩
theorem Z8E {code:List Ins} {t:Int} (h:Z24 code=(t,0)):0<code.length/\code.length<=200/\∃ st:List (Option Shp),st.length=code.length/\Zcd st/\(∀ s,some s∈st->s.length<=16)/\st.getD 0 none=some []/\st.getD (code.length - 1) none=some [t]/\∀ i,i<code.length->∃ s nx,ZcM code st i s nx:=by
 unfold Z24 at h;by_cases hl:code.length=0\/code.length > 200;rw [if_pos hl] at h;cases h;rw [if_neg hl] at h;cases hr:Z3w code code.length (some [] :: List.replicate (code.length - 1) none) with
 | none=>rw [hr] at h;cases h
 | some st=>
   rw [hr] at h;dsimp only at h;obtain ⟨a1,a2,a3⟩:=ZcN _ _ hr;have h0:Zcd ((some []) :: List.replicate (code.length - 1) none):=by
    intro s hs;simp at hs;subst hs;intro k hk;cases hk
   have ai:st.length=code.length:=by rw [a2];simp;omega
   have gq:∀ (k:Nat) (st:List (Option Shp)),Z3w code k (some [] :: List.replicate (code.length - 1) none)=some st->∀ s,some s∈st->s.length<=16:=by
    intro k
    induction k with
    | zero=>
      intro st h s hs;cases h;simp at hs;subst hs;simp
    | succ k ih=>
      intro st h;obtain ⟨s1,h1,h2⟩:=X0.1 h;exact ZjI (ih s1 h1) h2
   refine ⟨by omega,by omega,st,ai,(ZjF h0 _ _ hr).1,gq _ _ hr,a1 0 [] rfl,?_,a3⟩;obtain ⟨s,nx,hg⟩:=a3 (code.length - 1) (by omega);have iR:=hg.at_;rw [iR] at h ⊢;by_cases cX:(code.getD (code.length - 1) ⟨0,0⟩).op=24;have:=(hg.stop cX).2;obtain ⟨k,rfl⟩:=Ybb.1 this;simp at h;rw [h];by_cases cT:(code.getD (code.length - 1) ⟨0,0⟩).op=13;have:=hg.jump (.inl cT);omega;have:=hg.on cX cT;omega
abbrev Zkr:List (Int×Value):=[(1,fnV 128),(2,fnV 128),(3,fnV 128),(4,fnV 129),
 (5,fnV 130),(6,fnV 131),(7,fnV 132),(8,fnV 133),
 (9,fnV 134),(10,fnV 135),(11,fnV 136),(12,fnV 137),
 (13,fnV 138),(14,fnV 139),(15,fnV 140),(16,fnV 141),
 (17,fnV 142),(18,fnV 143),(19,fnV 144),(20,fnV 145),
 (21,fnV 146),(22,fnV 147),(23,fnV 148),(24,fnV 149)]
abbrev Zwq (z:Int):Value:=.I z
theorem ZgN (w):CC 81 #[] w λr w'=>∃ m,r=.map (some m)/\w.heap.size<=m/\JL Zwq w' m Zkr/\Stp [] w w':=by
 refine cW0 3 Tryz.func81 ?_;refine W ?_;refine Z1 (Z0X Zwq) rfl ?_;rintro _ w1 ⟨m,rfl,hm,ar,hS⟩;refine Z4 (Zu (a:=(1:Int)) rfl rfl rfl ar (by decide)) ?_;clear ar;rintro _ w2 ⟨ar,hT⟩;replace hS:=hS.ow hT;clear hT;refine Z4 (Zu (a:=(2:Int)) rfl rfl rfl ar (by decide)) ?_;clear ar;rintro _ w2 ⟨ar,hT⟩;replace hS:=hS.ow hT;clear hT;refine Z4 (Zu (a:=(3:Int)) rfl rfl rfl ar (by decide)) ?_;clear ar;rintro _ w2 ⟨ar,hT⟩;replace hS:=hS.ow hT;clear hT;refine Z4 (Zu (a:=(4:Int)) rfl rfl rfl ar (by decide)) ?_;clear ar;rintro _ w2 ⟨ar,hT⟩;replace hS:=hS.ow hT;clear hT;refine Z4 (Zu (a:=(5:Int)) rfl rfl rfl ar (by decide)) ?_;clear ar;rintro _ w2 ⟨ar,hT⟩;replace hS:=hS.ow hT;clear hT;refine Z4 (Zu (a:=(6:Int)) rfl rfl rfl ar (by decide)) ?_;clear ar;rintro _ w2 ⟨ar,hT⟩;replace hS:=hS.ow hT;clear hT;refine Z4 (Zu (a:=(7:Int)) rfl rfl rfl ar (by decide)) ?_;clear ar;rintro _ w2 ⟨ar,hT⟩;replace hS:=hS.ow hT;clear hT;refine Z4 (Zu (a:=(8:Int)) rfl rfl rfl ar (by decide)) ?_;clear ar;rintro _ w2 ⟨ar,hT⟩;replace hS:=hS.ow hT;clear hT;refine Z4 (Zu (a:=(9:Int)) rfl rfl rfl ar (by decide)) ?_;clear ar;rintro _ w2 ⟨ar,hT⟩;replace hS:=hS.ow hT;clear hT;refine Z4 (Zu (a:=(10:Int)) rfl rfl rfl ar (by decide)) ?_;clear ar;rintro _ w2 ⟨ar,hT⟩;replace hS:=hS.ow hT;clear hT;refine Z4 (Zu (a:=(11:Int)) rfl rfl rfl ar (by decide)) ?_;clear ar;rintro _ w2 ⟨ar,hT⟩;replace hS:=hS.ow hT;clear hT;refine Z4 (Zu (a:=(12:Int)) rfl rfl rfl ar (by decide)) ?_;clear ar;rintro _ w2 ⟨ar,hT⟩;replace hS:=hS.ow hT;clear hT;refine Z4 (Zu (a:=(13:Int)) rfl rfl rfl ar (by decide)) ?_;clear ar;rintro _ w2 ⟨ar,hT⟩;replace hS:=hS.ow hT;clear hT;refine Z4 (Zu (a:=(14:Int)) rfl rfl rfl ar (by decide)) ?_;clear ar;rintro _ w2 ⟨ar,hT⟩;replace hS:=hS.ow hT;clear hT;refine Z4 (Zu (a:=(15:Int)) rfl rfl rfl ar (by decide)) ?_;clear ar;rintro _ w2 ⟨ar,hT⟩;replace hS:=hS.ow hT;clear hT;refine Z4 (Zu (a:=(16:Int)) rfl rfl rfl ar (by decide)) ?_;clear ar;rintro _ w2 ⟨ar,hT⟩;replace hS:=hS.ow hT;clear hT;refine Z4 (Zu (a:=(17:Int)) rfl rfl rfl ar (by decide)) ?_;clear ar;rintro _ w2 ⟨ar,hT⟩;replace hS:=hS.ow hT;clear hT;refine Z4 (Zu (a:=(18:Int)) rfl rfl rfl ar (by decide)) ?_;clear ar;rintro _ w2 ⟨ar,hT⟩;replace hS:=hS.ow hT;clear hT;refine Z4 (Zu (a:=(19:Int)) rfl rfl rfl ar (by decide)) ?_;clear ar;rintro _ w2 ⟨ar,hT⟩;replace hS:=hS.ow hT;clear hT;refine Z4 (Zu (a:=(20:Int)) rfl rfl rfl ar (by decide)) ?_;clear ar;rintro _ w2 ⟨ar,hT⟩;replace hS:=hS.ow hT;clear hT;refine Z4 (Zu (a:=(21:Int)) rfl rfl rfl ar (by decide)) ?_;clear ar;rintro _ w2 ⟨ar,hT⟩;replace hS:=hS.ow hT;clear hT;refine Z4 (Zu (a:=(22:Int)) rfl rfl rfl ar (by decide)) ?_;clear ar;rintro _ w2 ⟨ar,hT⟩;replace hS:=hS.ow hT;clear hT;refine Z4 (Zu (a:=(23:Int)) rfl rfl rfl ar (by decide)) ?_;clear ar;rintro _ w2 ⟨ar,hT⟩;replace hS:=hS.ow hT;clear hT;refine Z4 (Zu (a:=(24:Int)) rfl rfl rfl ar (by decide)) ?_;clear ar;rintro _ w2 ⟨ar,hT⟩;replace hS:=hS.ow hT;clear hT;refine RT ?_;exact ⟨m,rfl,hm,ar,hS⟩
theorem Zeg {x:Ins} {s nx:Shp} {st:List Int} (hn:Ji x s=some nx) (hs:Z0n s st):(ZC x).2.2.2=true/\∃ st0 vs ts,st=st0++vs/\(ts=(ZC x).1\/(ZC x).2.1≠[]/\ts=(ZC x).2.1)/\Z0n ts vs:=by
 unfold Ji at hn;dsimp only at hn;split at hn;rename_i hc;obtain ⟨c1,c2,c3,c4⟩:=hc;exact ⟨c1,st.take (s.length - (ZC x).1.length),st.drop (s.length - (ZC x).1.length),_,(XM _ _).symm,c3,hs.drop _⟩;cases hn
def Z0m (K:MK) (w:World) (x:Ins) (st:List Int) (sp:List Spn) (sv pv:Value) (at_:Int):Prop:=
 if x.op=24 then Mch K w sv pv st sp at_ 0 true
 else if x.op=13 then Mch K w sv pv st sp x.n 0 false
 else if x.op=14 then ∃ sv',Mch K w sv' pv st.dropLast sp (if Z05 st 0=0 then x.n else at_) 0 false
 else Res K w (st.take (st.length - arM x.op)) (sp++JX x.op (Z05 st 1) (Z05 st 0) (Z0b (ZA K.c K.kn) K.ev x (Z05 st 1) (Z05 st 0)).1) at_ (Z0b (ZA K.c K.kn) K.ev x (Z05 st 1) (Z05 st 0))
theorem Z5X {t v:Int} (h:vOk t v):-2147483647<=v/\v<=2147483647:=by unfold vOk at h;omega
theorem Zxk {t u a b:Int} (ha:vOk t a) (hb:vOk u b):I64 (a * b):=by
 have h1:=Z5X ha;have h2:=Z5X hb;have h3:(a * b).natAbs<=2147483647 * 2147483647:=by rw [Int.natAbs_mul];exact Ybd (by omega) (by omega)
 unfold I64;omega
section
variable {K:MK} {w w':World} {sv pv:Value} {st:List Int} {sp:List Spn} {at_ er:Int} {dn:Bool}
theorem Znj {P:Nat} {e:Env} {d:Option Nat} {ty:TypeId} {pos:String} {af:Array Edge} {g:Option (Nat×Bool)} {y1 y2 y3:Operand} {ts:Array TypeId} (hK:KOk K) {x:Ins} {s nx:Shp}
 (h:Mch K w sv pv st sp at_ 0 false) (hn:Ji x s=some nx) (hs:Z0n s st) (hl:st.length<=100000) (go:sp.length<=100000)
 (hx:ev e y1=some (Z3E Zkr x.op .nilFunc)) (hy:ev e y2=some (mP K)) (hz:ev e y3=some (.I x.n)) :
 OE Tryz.prog P ⟨d,.call { callee:=.value y1,args:=#[y2,y3],argTypes:=ts },ty,pos,af,g⟩ e w (λv w'=>v=.tuple #[]/\Z0m K w' x st sp sv pv at_):=by
 obtain ⟨jR,st0,vs,ts',rfl,cg,dF⟩:=Zeg hn hs;have hr:=Z8k jR;obtain ⟨op,n⟩:=x;dsimp only at *;have cR:st0.length<=100000:=by rw [Xc] at hl;omega
 have fy:op=1\/op=2\/op=3\/op=4\/op=5\/op=6\/op=7\/op=8\/op=9\/op=10\/op=11\/op=12\/op=13\/op=14\/op=15\/op=16\/op=17\/op=18\/op=19\/op=20\/op=21\/op=22\/op=23\/op=24:=by omega
 rcases fy with rfl|rfl|rfl|rfl|rfl|rfl|rfl|rfl|rfl|rfl|rfl|rfl|rfl|rfl|rfl|rfl|rfl|rfl|rfl|rfl|rfl|rfl|rfl|rfl
 all_goals (simp [ZC] at jR cg)
 all_goals (try subst cg)
 case inl|inr.inl|inr.inr.inl=>
  refine (Z6 (f:=128) hx (Zg hy hz) (ZsR hK h hl n)).mono ?_;rintro v w' ⟨rfl,az⟩;refine ⟨rfl,?_⟩;unfold Z0m;have et:List.take (st0.length+vs.length) (st0++vs)=st0++vs:=XH (by simp);simpa [arM,JX,Z0b,et] using az
 case inr.inr.inr.inl=>
  refine (Z6 (f:=129) hx (Zg hy hz) (ZsU hK h hl n (by omega) (by omega))).mono ?_;rintro v w' ⟨rfl,az⟩;refine ⟨rfl,?_⟩;unfold Z0m;have et:List.take (st0.length+vs.length) (st0++vs)=st0++vs:=XH (by simp);simpa [arM,JX,Z0b,et] using az
 case inr.inr.inr.inr.inl=>
  obtain ⟨a,b,rfl,ha,hb⟩:=dF.two_inv;refine (Z6 (f:=130) hx (Zg hy hz) (Zxe hK h cR n (by have:=Z5X ha;have:=Z5X hb;unfold I64;omega))).mono ?_;rintro v w' ⟨rfl,az⟩;refine ⟨rfl,?_⟩;unfold Z0m;simpa [arM,JX,Z0b,Z3x,Jn] using az
 case inr.inr.inr.inr.inr.inl=>
  obtain ⟨a,b,rfl,ha,hb⟩:=dF.two_inv;refine (Z6 (f:=131) hx (Zg hy hz) (Zxf hK h cR n (by have:=Z5X ha;have:=Z5X hb;unfold I64;omega))).mono ?_;rintro v w' ⟨rfl,az⟩;refine ⟨rfl,?_⟩;unfold Z0m;simpa [arM,JX,Z0b,Z3x,Jn] using az
 case inr.inr.inr.inr.inr.inr.inl=>
  obtain ⟨a,b,rfl,ha,hb⟩:=dF.two_inv;refine (Z6 (f:=132) hx (Zg hy hz) (Zxg hK h cR n (Zxk ha hb))).mono ?_;rintro v w' ⟨rfl,az⟩;refine ⟨rfl,?_⟩;unfold Z0m;simpa [arM,JX,Z0b,Z3x,Jn] using az
 case inr.inr.inr.inr.inr.inr.inr.inr.inl=>
  obtain ⟨a,b,rfl⟩:∃ a b,vs=[a,b]:=by
   rcases cg with rfl|rfl
   all_goals
    obtain ⟨a,b,h1,-⟩:=dF.two_inv;exact ⟨a,b,h1⟩
  refine (Z6 (f:=134) hx (Zg hy hz) (ltV hK h cR n trivial)).mono ?_;rintro v w' ⟨rfl,az⟩;refine ⟨rfl,?_⟩;unfold Z0m;simpa [arM,JX,Z0b,Z3x,Jn] using az
 case inr.inr.inr.inr.inr.inr.inr.inr.inr.inl=>
  obtain ⟨a,b,rfl⟩:∃ a b,vs=[a,b]:=by
   rcases cg with rfl|rfl
   all_goals
    obtain ⟨a,b,h1,-⟩:=dF.two_inv;exact ⟨a,b,h1⟩
  refine (Z6 (f:=135) hx (Zg hy hz) (leV hK h cR n trivial)).mono ?_;rintro v w' ⟨rfl,az⟩;refine ⟨rfl,?_⟩;unfold Z0m;simpa [arM,JX,Z0b,Z3x,Jn] using az
 case inr.inr.inr.inr.inr.inr.inr.inr.inr.inr.inl=>
  obtain ⟨a,b,rfl⟩:∃ a b,vs=[a,b]:=by
   rcases cg with rfl|rfl
   all_goals
    obtain ⟨a,b,h1,-⟩:=dF.two_inv;exact ⟨a,b,h1⟩
  refine (Z6 (f:=136) hx (Zg hy hz) (eqV hK h cR n trivial)).mono ?_;rintro v w' ⟨rfl,az⟩;refine ⟨rfl,?_⟩;unfold Z0m;simpa [arM,JX,Z0b,Z3x,Jn] using az
 case inr.inr.inr.inr.inr.inr.inr.inr.inr.inr.inr.inr.inr.inr.inl=>
  obtain ⟨a,b,rfl,ha,hb⟩:=dF.two_inv;refine (Z6 (f:=140) hx (Zg hy hz) (Zwg hK h cR n (by have:=Z5X ha;have:=Z5X hb;unfold I64;omega))).mono ?_;rintro v w' ⟨rfl,az⟩;refine ⟨rfl,?_⟩;unfold Z0m;simpa [arM,JX,Z0b,Z3x,Jn] using az
 case inr.inr.inr.inr.inr.inr.inr.inr.inr.inr.inr.inr.inr.inr.inr.inl=>
  obtain ⟨a,b,rfl,ha,hb⟩:=dF.two_inv;refine (Z6 (f:=141) hx (Zg hy hz) (ZsS hK h cR n (by have:=Z5X ha;have:=Z5X hb;unfold I64;omega))).mono ?_;rintro v w' ⟨rfl,az⟩;refine ⟨rfl,?_⟩;unfold Z0m;simpa [arM,JX,Z0b,Z3x,Jn] using az
 case inr.inr.inr.inr.inr.inr.inr.inr.inr.inr.inr.inr.inr.inr.inr.inr.inl=>
  obtain ⟨a,b,rfl,ha,hb⟩:=dF.two_inv;refine (Z6 (f:=142) hx (Zg hy hz) (Zni hK h cR n (ZO.2 ha.d))).mono ?_;rintro v w' ⟨rfl,az⟩;refine ⟨rfl,?_⟩;unfold Z0m;simpa [arM,JX,Z0b,Z3x,Jn] using az
 case inr.inr.inr.inr.inr.inr.inr.inr.inr.inr.inr.inr.inr.inr.inr.inr.inr.inl=>
  obtain ⟨a,b,rfl,ha,hb⟩:=dF.two_inv;refine (Z6 (f:=143) hx (Zg hy hz) (ZsY hK h cR go n (ZO.2 ha.d))).mono ?_;rintro v w' ⟨rfl,az⟩;refine ⟨rfl,?_⟩;unfold Z0m;simpa [arM,JX,Z0b,Z3x,Jn] using az
 case inr.inr.inr.inr.inr.inr.inr.inr.inr.inr.inr.inr.inr.inr.inr.inr.inr.inr.inr.inr.inl=>
  obtain ⟨a,b,rfl,ha,hb⟩:=dF.two_inv;refine (Z6 (f:=146) hx (Zg hy hz) (ZsT hK h cR n trivial)).mono ?_;rintro v w' ⟨rfl,az⟩;refine ⟨rfl,?_⟩;unfold Z0m;simpa [arM,JX,Z0b,Z3x,Jn] using az
 case inr.inr.inr.inr.inr.inr.inr.inr.inr.inr.inr.inr.inr.inr.inr.inr.inr.inr.inr.inr.inr.inl=>
  obtain ⟨a,b,rfl,ha,hb⟩:=dF.two_inv;refine (Z6 (f:=147) hx (Zg hy hz) (Zkd hK h cR n trivial)).mono ?_;rintro v w' ⟨rfl,az⟩;refine ⟨rfl,?_⟩;unfold Z0m;simpa [arM,JX,Z0b,Z3x,Jn] using az
 case inr.inr.inr.inr.inr.inr.inr.inr.inr.inr.inr.inr.inr.inr.inr.inr.inr.inr.inr.inr.inr.inr.inl=>
  obtain ⟨a,b,rfl,ha,hb⟩:=dF.two_inv;refine (Z6 (f:=148) hx (Zg hy hz) (Zke hK h cR n (by have:=Z5X ha;have:=Z5X hb;unfold I64;omega))).mono ?_;rintro v w' ⟨rfl,az⟩;refine ⟨rfl,?_⟩;unfold Z0m;have e:Z4K (b - a)=(b - a,0):=by
   have:=ha.d;have:=hb.d;unfold Z4K;rw [if_neg (by omega)]
  rw [e] at az;simpa [arM,JX,Z0b,Z3x,Jn] using az
 case inr.inr.inr.inr.inr.inr.inr.inl=>
  obtain ⟨b,rfl,hb⟩:=dF.one_inv;refine (Z6 (f:=133) hx (Zg hy hz) (Zxh hK h cR n (by have:=Z5X hb;unfold I64;omega))).mono ?_;rintro v w' ⟨rfl,az⟩;refine ⟨rfl,?_⟩;unfold Z0m;have e:Z4K (-b)=(-b,0):=by
   have:=Z5X hb;unfold Z4K;rw [if_neg (by omega)]
  rw [e] at az;simpa [arM,JX,Z0b,Zcl,Z1S] using az
 case inr.inr.inr.inr.inr.inr.inr.inr.inr.inr.inr.inl=>
  obtain ⟨b,rfl,hb⟩:=dF.one_inv;refine (Z6 (f:=137) hx (Zg hy hz) (Zxi hK h cR n)).mono ?_;rintro v w' ⟨rfl,az⟩;refine ⟨rfl,?_⟩;unfold Z0m;have e:Z40 (decide (b=0))=1 - b:=by
   rcases hb.b with rfl|rfl<;>rfl
  rw [e] at az;simpa [arM,JX,Z0b,Zcl,Z1S] using az
 case inr.inr.inr.inr.inr.inr.inr.inr.inr.inr.inr.inr.inr.inr.inr.inr.inr.inr.inl=>
  obtain ⟨b,rfl,hb⟩:=dF.one_inv;refine (Z6 (f:=144) hx (Zg hy hz) (Zwo hK h cR go n)).mono ?_;rintro v w' ⟨rfl,az⟩;refine ⟨rfl,?_⟩;unfold Z0m;simpa [arM,JX,Z0b,Zcl,Z1S] using az
 case inr.inr.inr.inr.inr.inr.inr.inr.inr.inr.inr.inr.inr.inr.inr.inr.inr.inr.inr.inl=>
  obtain ⟨b,rfl,hb⟩:=dF.one_inv;refine (Z6 (f:=145) hx (Zg hy hz) (Zwp hK h cR go n)).mono ?_;rintro v w' ⟨rfl,az⟩;refine ⟨rfl,?_⟩;unfold Z0m;simpa [arM,JX,Z0b,Zcl,Z1S] using az
 case inr.inr.inr.inr.inr.inr.inr.inr.inr.inr.inr.inr.inl=>
  refine (Z6 (f:=138) hx (Zg hy hz) (Zwh hK h n)).mono ?_;rintro v w' ⟨rfl,az⟩;refine ⟨rfl,?_⟩;unfold Z0m;simpa using az
 case inr.inr.inr.inr.inr.inr.inr.inr.inr.inr.inr.inr.inr.inl=>
  obtain ⟨b,rfl,hb⟩:=dF.one_inv;refine (Z6 (f:=139) hx (Zg hy hz) (Zn5 hK h n)).mono ?_;rintro v w' ⟨rfl,az⟩;refine ⟨rfl,?_⟩;unfold Z0m;simpa [Z1S] using az
 case inr.inr.inr.inr.inr.inr.inr.inr.inr.inr.inr.inr.inr.inr.inr.inr.inr.inr.inr.inr.inr.inr.inr=>
  refine (Z6 (f:=149) hx (Zg hy hz) (Zwi hK h n)).mono ?_;rintro v w' ⟨rfl,az⟩;refine ⟨rfl,?_⟩;unfold Z0m;simpa using az
end
abbrev Znk (ev:List Int):Value:=.agg (evC ev).toArray
theorem Znl (ev:List Int) (c:Cal) (hv cv zo zs hr:Value) (kn:Int) (b:Addr) (w) :
 (Instr.build 167 #[(0, Znk ev), (1, Z6F c hv cv zo zs hr), (2, .I kn), (7, .func (.func 80) #[] #[.pointer (some b)])]).run Tryz.prog w
   = .ok (.agg (evC ev++Z0h c hv cv zo zs hr++([.I kn,.N,.I 0,.I 0,.B false,.func (.func 80) #[] #[.pointer (some b)]]:List Value)).toArray) w:=by kernel_rfl
theorem Zks {x:Ins} {s nx:Shp} (hx:x.op=13) (hn:Ji x s=some nx):nx=s:=by
 obtain ⟨op,n⟩:=x;dsimp only at hx;subst hx;simp [Ji,ZC] at hn;exact hn.2.symm
theorem Zkt {x:Ins} {s nx:Shp} (hx:x.op=14) (hn:Ji x s=some nx):nx=s.dropLast:=by
 obtain ⟨op,n⟩:=x;dsimp only at hx;subst hx;simp [Ji,ZC] at hn;rw [YaJ];exact hn.2.symm
def Znm (K:MK) (code:List Ins) (sh:List (Option Shp)) (q:Nat×Bool) (w:World):Prop:=
 ∃ sv pv st sp at_ er, Mch K w sv pv st sp at_ er q.2/\
   (q.2=false->er=0/\at_=(q.1:Int)/\q.1<code.length/\sp.length<=q.1/\(∃ s,sh.getD q.1 none=some s/\Z0n s st)/\∃ f,code.length<=f+q.1/\Z6t (ZA K.c K.kn) K.ev code f q.1 st sp=Js (ZA K.c K.kn) K.ev code)/\
   (q.2=true->(er=0/\∃ x,st=[x]/\Js (ZA K.c K.kn) K.ev code=(x,sp,0))\/(er≠0/\Js (ZA K.c K.kn) K.ev code=(0,[],er)))
theorem Znm.step {K:MK} {code:List Ins} {sh:List (Option Shp)} {i:Nat} {x:Ins} {s nx:Shp} {st:List Int} {sp:List Spn} {w} {sv pv:Value} {f:Nat} (hK:KOk K) (hi:i<code.length) (hx:code.getD i ⟨0,0⟩=x) (ai:sh.length=code.length)
 (hg:ZcM code sh i s nx) (gq:∀ s,some s∈sh->s.length<=16) (ay:Z0n s st) (bD:sp.length<=i) (hf:code.length<=f+i) (hr:Z6t (ZA K.c K.kn) K.ev code f i st sp=Js (ZA K.c K.kn) K.ev code)
 (h:Z0m K w x st sp sv pv ((i+1:Nat):Int)):∃ q:Nat×Bool,Znm K code sh q w/\(if q.2=true then 0 else code.length+1 - q.1)<code.length+1 - i:=by
 obtain ⟨f,rfl⟩:∃ f',f=f'+1:=⟨f - 1,by omega⟩
 rw [Z6t] at hr;rw [hx] at hr;have hn:=hg.next;rw [hx] at hn;unfold Z0m at h;by_cases cX:x.op=24;rw [if_pos cX] at h hr;obtain ⟨cn,bu⟩:=hg.stop (by rw [hx];exact cX);have fI:st.length=1:=by rw [<- ay.1];exact bu
 obtain ⟨a,rfl⟩:=Ybb.1 fI;refine ⟨(i,true),⟨sv,pv,[a],sp,_,0,h,(λhq=>by cases hq),λ_=>.inl ⟨rfl,a,rfl,?_⟩⟩,by simp;omega⟩;rw [<- hr];rfl;rw [if_neg cX] at h hr;by_cases cT:x.op=13;rw [if_pos cT] at h hr;obtain ⟨j1,j2,j3⟩:=hg.jump (.inl (by rw [hx];exact cT));rw [hx] at j1 j2 j3;have di:=Zks cT hn;subst di;refine ⟨(x.n.toNat,false),⟨sv,pv,st,sp,_,0,h,λ_=>⟨rfl,by omega,by omega,by dsimp only;omega,⟨_,j3,ay⟩,f,by dsimp only;omega,hr⟩,λhq=>by cases hq⟩,by simp;omega⟩;rw [if_neg cT] at h hr;by_cases dY:x.op=14;rw [if_pos dY] at h hr;obtain ⟨j1,j2,j3⟩:=hg.jump (.inr (by rw [hx];exact dY));obtain ⟨o1,o2⟩:=hg.on (by rw [hx];exact cX) (by rw [hx];exact cT);rw [hx] at j1 j2 j3;have di:=Zkt dY hn;have iB:Z0n nx st.dropLast:=by
  rw [di,YaJ,YaJ,<- ay.1];exact ay.take _
 obtain ⟨sv',h⟩:=h;by_cases hb:Z05 st 0=0;rw [if_pos hb] at h hr;exact ⟨(x.n.toNat,false),⟨sv',pv,st.dropLast,sp,_,0,h,λ_=>⟨rfl,by omega,by omega,by dsimp only;omega,⟨_,j3,iB⟩,f,by dsimp only;omega,hr⟩,λhq=>by cases hq⟩,by simp;omega⟩;rw [if_neg hb] at h hr;exact ⟨(i+1,false),⟨sv',pv,st.dropLast,sp,_,0,h,λ_=>⟨rfl,rfl,by omega,by dsimp only;omega,⟨_,o2,iB⟩,f,by dsimp only;omega,hr⟩,λhq=>by cases hq⟩,by simp;omega⟩;rw [if_neg dY] at h hr;obtain ⟨o1,o2⟩:=hg.on (by rw [hx];exact cX) (by rw [hx];exact cT);obtain ⟨sv',pv',st',sp',hM,aO⟩:=h;by_cases he:(Z0b (ZA K.c K.kn) K.ev x (Z05 st 1) (Z05 st 0)).2=0
 . rw [if_pos he] at hr
   obtain ⟨e1,e2⟩:=aO he;subst e1 e2;rw [he] at hM;have ax:(JX x.op (Z05 st 1) (Z05 st 0) (Z0b (ZA K.c K.kn) K.ev x (Z05 st 1) (Z05 st 0)).1).length<=1:=by
    unfold JX;repeat' split
    all_goals simp
   refine ⟨(i+1,false),⟨sv',pv',_,_,_,0,hM,λ_=>⟨rfl,rfl,by omega,by dsimp only;rw [Xc];omega,⟨_,o2,Zcn hK.ev hn cX cT dY ay he⟩,f,by dsimp only;omega,hr⟩,λhq=>by cases hq⟩,by simp;omega⟩
 rw [if_neg he] at hr;have hd:decide (¬ (Z0b (ZA K.c K.kn) K.ev x (Z05 st 1) (Z05 st 0)).2=0)=true:=decide_eq_true he;rw [hd] at hM;exact ⟨(i,true),⟨sv',pv',_,_,_,_,hM,(λhq=>by cases hq),λ_=>.inr ⟨he,hr.symm⟩⟩,by simp;omega⟩
theorem ZcO (v:Value) (code:List Ins) (t kn:Int) (ev:List Int) (c:Cal) (hv cv zo zs hr:Value) (w) (hs:SlV [] w v code) (rj:Z24 code=(t,0)) (dB:Z6E w c hv cv zo zs hr) (bM:ZdX ev) (ho:zo.oneCell'=true/\zs.oneCell'=true/\hr.oneCell'=true) :
 CC 50 #[v,Znk ev,Z6F c hv cv zo zs hr,.I kn] w λr w'=>∃ pv,r=.tuple #[.I (Js (ZA c kn) ev code).1,pv,.I (Js (ZA c kn) ev code).2.2]/\ZI 75 w w' pv (Js (ZA c kn) ev code).2.1:=by
 obtain ⟨cR,tx,sh,ai,aO,gq,kV,nC,dg⟩:=Z8E rj;refine cW4 63 Tryz.func50 ?_;refine W ?_;refine Z1 (Zp rfl) rfl ?_;rintro _ w1 ⟨b5,rfl,jS,k5,hS⟩;replace k5:Blk w1 b5 113 (evC ev):=k5;refine Z1 (Zp rfl) rfl ?_;rintro _ w2 ⟨b6,rfl,ew,k6,ah⟩;replace k6:Blk w2 b6 35 (Z0h c hv cv zo zs hr):=k6;replace k5:=k5.up ah;replace hS:=hS.trans ah;refine W ?_;refine Z1 Z2 rfl ?_;rintro _ w3 ⟨bs,rfl,dD,ks,am⟩;replace k5:=k5.up am;replace k6:=k6.up am;have wl:w.heap.size<=bs:=Xg hS.size dD;replace hS:=hS.trans am;refine W ?_;refine Z8 (vs:=[(0,Znk ev),(1,Z6F c hv cv zo zs hr),(2,.I kn),(7,.func (.func 80) #[] #[pQ bs])]) rfl (Znl ev c hv cv zo zs hr kn _) rfl ?_;refine Z1 (Zp rfl) rfl ?_;rintro _ w4 ⟨bm,rfl,kG,km,aI⟩;replace km:Blk w4 bm 167 (evC ev++Z0h c hv cv zo zs hr++[.I kn,.N,.I 0,.I 0,.B false,.func (.func 80) #[] #[pQ bs]]):=km;have wm:w.heap.size<=bm:=Xg hS.size kG;have rk:bm≠bs:=by have:=ks.lt;omega
 replace ks:=ks.up aI;replace hS:=hS.trans aI;clear k5 k6 ah am aI;refine W ?_;refine CL (ZgN _) ?_;rintro _ w5 ⟨m,rfl,hm,ar,aD⟩;obtain ⟨K,e1,e2,hk,e4,e5,e6,e7,e8,e9,e10,e11,e12⟩:∃ K:MK,K.w0=w5/\K.bm=bm/\K.nk=some bs/\K.ev=ev/\K.c=c/\K.kn=kn/\K.hv=hv/\K.cv=cv/\K.zo=zo/\K.zs=zs/\K.hr=hr/\K.pr=[]:=⟨⟨w5,bm,some bs,ev,c,kn,hv,cv,zo,zs,hr,[]⟩,rfl,rfl,rfl,rfl,rfl,rfl,rfl,rfl,rfl,rfl,rfl,rfl⟩
 subst e1 e2 e4 e5 e6 e7 e8 e9 e10 e11;have lW:=hS.trans aD;have own_ge:∀ b∈K.own,w.heap.size<=b:=λb hb=>by simp [MK.own,hk] at hb;omega
 have rm:m∉K.own:=λhb=>by
  have:=km.lt;have:=ks.lt;simp [MK.own,hk] at hb;omega
 have rn:=dB.up lW;have g1:3<w.heap.size:=by have:=block_lt_of_cell (dB.len 0 0 rfl);simpa using this
 have g2:4<w.heap.size:=by have:=block_lt_of_cell (dB.mov 0 0 rfl);simpa using this
 have hK:KOk K:=
  { hols := dB.hols.ext lW (by simp) (λb hb => .inr (own_ge b hb))
    clos:=dB.clos.ext lW (by simp) (λb hb=>.inr (own_ge b hb))
    ozo:=ho.1,ozs:=ho.2.1,ohr:=ho.2.2
    len:=rn.len,mov:=rn.mov
    bml:=(km.up aD).lt
    nkl:=λb hb=>by rw [hk] at hb;cases hb;exact ⟨(ks.up aD).lt,λh=>rk h.symm⟩
    gl:=λb hb=>by have:=own_ge b hb;omega
    cal:=dB.ok
    ev:=bM,nks:=by rw [hk];simp }
 have hM:Mch K K.w0 (.N) (.N) [] [] 0 0 false:=
  { blk := by unfold Z5N; rw [hk]; exact km.up aD
    row:=Row.nil
    nt:=λb hb=>by rw [hk] at hb;cases hb;exact ⟨ks.up aD,Row.nil⟩
    nt0:=λ_=>rfl
    ap:=by simp [ob]
    stp:=Stp.refl _ _
    prot:=λp hp=>by rw [e12] at hp;cases hp }
 have ba:SlV K.own K.w0 v code:=hs.ext lW (by simp) (λb hb=>.inr (own_ge b hb));clear hs km ks rn;refine W ?_
 refine Zt (σ:=Nat×Bool) (λ_=>[(0,v),(11,pQ bs),(13,mP K),(14,.map (some m))])
  (λq w'=>Znm K code sh q w') (λq=>if q.2=true then 0 else code.length+1 - q.1) (0,false) ⟨rfl,rfl,rfl,rfl,trivial⟩ ⟨_,_,[],[],0,0,hM,λ_=>⟨rfl,rfl,cR,Xn _,⟨[],kV,Z0n.nil⟩,code.length,Xn _,rfl⟩,λh=>by cases h⟩ ?_
 clear hM;rintro ⟨i,dn⟩ w6 ⟨sv,pv,st,sp,at_,er,hM,bh,dO⟩;dsimp only at hM bh dO ⊢;have ac:=hM.blk;unfold Z5N at ac;cases dn with
 | false=>
   obtain ⟨rfl,rfl,hi,bD,⟨s,jo,ay⟩,f,hf,hr⟩:=bh rfl;obtain ⟨s',nx,hg⟩:=dg i hi;have jV:s'=s:=by have:=hg.at_;rw [jo] at this;exact (X1 this).symm
   subst jV;have ax:=ba.ext (X':=[]) hM.stp (λb hb=>hb) (by simp);have hx:code.getD i ⟨0,0⟩=code[i]:=by simp [List.getD,hi]
   have hn:=hg.next;rw [hx] at hn;have wo:s'.length<=16:=gq _ (by
    have j9:i<sh.length:=by omega
    rw [XC,XU j9] at jo;simp only [YaD] at jo;rw [<- jo];exact Xd j9)
   refine W ?_;refine Z1 Z2 rfl ?_;rintro _ w7 ⟨b15,rfl,wu,e15,aQ⟩;have lJ:=ac.lt;refine W ?_;refine SA (us:=Z3.enc code[i]) e15 ?_;rintro _ w8 ⟨hT,k15⟩;replace aQ:=aQ.ow hT;clear e15 hT;replace hM:=hM.up aQ;replace ac:=ac.up aQ;refine W ?_;refine Z4 (Zc (u:=.I ((i:Int)+1)) rfl rfl rfl rfl ac (by simp [evC,Z0h])) ?_;rintro _ w9 ⟨gg,nD⟩;replace hM:=hM.put hK (at':=((i+1:Nat):Int)) (er':=0) (dn':=false) gg nD;replace k15:=k15.ext gg (by simp;omega);have aM:=ar.ext hM.stp rm;refine W ?_;refine Z9 (Z1Q rfl rfl aM) rfl ?_;refine W ?_;refine Z1 (Znj hK hM hn ay (by rw [<- ay.1];omega) (by omega) rfl rfl rfl) rfl ?_;rintro _ w10 ⟨rfl,az⟩;obtain ⟨q,hq,ag⟩:=Znm.step hK hi hx ai hg gq ay bD hf hr az;refine W ?_;exact QL q hq (by simpa using ag)
 | true=>
   have fin:∀ w' pv',Stp K.own K.w0 w'->Row [] w' K.w0.heap.size 75 pv' (Js (ZA K.c K.kn) K.ev code).2.1->ZI 75 w w' pv' (Js (ZA K.c K.kn) K.ev code).2.1:=λw' pv' h1 h2=>
    ⟨h2.lower lW.size,lW.own h1 (λb hb=>.inr (own_ge b hb))⟩
   rcases dO rfl with ⟨rfl,x,rfl,hR⟩|⟨he,hR⟩
   obtain ⟨ks,ab⟩:=hM.nt bs hk;refine W ?_;refine ZDr 6 ([K.bm]) [] [(0,0),(2,1),(1,2),(3,0),(4,0),(5,0)] (λw1 ae=>?_);replace hM:=hM.up ae;replace ks:=ks.up ae;replace ab:=ab.up ae;refine D ?_;refine DC (ZcG (st:=[]) hK hM) (λ_ _ h=>h.2.2) ?_;rintro _ w7 ⟨rfl,⟨sv',tz⟩,aQ⟩;obtain ⟨ks7,iA⟩:=tz.nt bs hk;refine D ?_;refine W ?_;refine WR ?_;refine .mk ⟨pv,by rw [hR],fin _ _ tz.stp ?_⟩;rw [hR];exact iA;refine QO ?_;refine ZDr 7 [] [] [(0,0),(1,0),(2,0),(3,1),(4,0),(5,0),(6,0)] (λw1 ae=>?_);replace hM:=hM.up ae;replace ac:=ac.up ae;refine D ?_;refine W ?_;refine WR ?_;refine .mk ⟨.N,by rw [hR],fin _ _ hM.stp ?_⟩;rw [hR];exact Row.nil
theorem Z1y (n a b:Int) (w):CC 48 #[.I n,.I a,.I b] w λr w'=>r=.B (decide (a<=n/\n<=b))/\Stp [] w w':=by
 refine cW3 15 Tryz.func48 ?_
 (refine QP ?_ ?_<;>intro hg)
 refine RU ?_;exact ⟨by congr 1;rw [decide_eq_decide];exact ⟨λh=>⟨by omega,h⟩,λh=>h.2⟩,Stp.refl _ _⟩;refine RU ?_;exact ⟨by congr 1;symm;exact decide_eq_false (λh=>by omega),Stp.refl _ _⟩
theorem ZgO (a b c d e:Int) (w):(Instr.build 113 #[(0,.I a),(1,.I (-1)),(3,.I b),(4,.I c),(5,.I d),(6,.I e)]).run Tryz.prog w=.ok (Znk [a,-1,0,b,c,d,e]) w:=by kernel_rfl
theorem ZgP (op a b r:Int):(JX op a b r).length<=1:=by
 unfold JX;repeat' split
 all_goals first|exact Xn _|exact Xq _
theorem Z5Y (o:Int->Bool) (ev:List Int) (C:List Ins):∀ (f i:Nat) (st:List Int) (sp:List Spn),(Z6t o ev C f i st sp).2.1.length<=sp.length+f
 | 0,_,_,_=>by simp [Z6t]
 | f + 1, i, st, sp => by
   rw [Z6t];split;simp;split;have:=Z5Y o ev C f (C.getD i ⟨0,0⟩).n.toNat st sp;omega;split;have:=Z5Y o ev C f (if Z05 st 0=0 then (C.getD i ⟨0,0⟩).n.toNat else i+1) st.dropLast sp;omega;split;refine Xg (Z5Y o ev C f _ _ _) ?_;have:=ZgP (C.getD i ⟨0,0⟩).op (Z05 st 1) (Z05 st 0) (Z0b o ev (C.getD i ⟨0,0⟩) (Z05 st 1) (Z05 st 0)).1;rw [Xc];omega;simp
def evL (c:Cas) (f:Fct):List Int:=
 let s:=Z8B c.atts c.crrs f.entry f.to_
 [f.day,if s.2=true then s.1.day else -1,if s.2=true then s.1.extra else 0,f.by_,f.to_,c.court,f.amt]
def opn (c:Cas):Int->Bool:=ZA c.cal c.today
def noD:Dln×Bool:=(default,false)
def mkD (c:Cas) (f:Fct) (r:Int) (q:Cr) (day due:Int) (sp:List Spn):Dln:=
 let s:=Z8B c.atts c.crrs f.entry f.to_
 let a:=ZdZ c.fcts f q.unl due
 { rule := q.name, trig := f, party := f.to_, due := due, stat := if a.2 = true then 1 else if due < c.today then 2 else 0,
   reas:=[⟨1,f.entry,f.day⟩,⟨2,r,0⟩]++(if s.2=true/\(Z2P q.cnd=true\/Z2P q.due=true) then [⟨3,s.1.att,s.1.day⟩] else [])
    ++ sp.map (λx=>⟨4,x.1,x.2⟩)++(Z77 f.day day c.stys).map (λx=>⟨5,x.1,x.2⟩)++(if a.2=true then [⟨6,a.1.entry,a.1.day⟩] else []) }
def Z1l (c:Cas) (f:Fct) (r:Int):Dln×Bool:=
 if ¬ (0<=r/\r<=(c.ruls.length:Int) - 1) then noD else
 let q:=c.ruls.getD r.toNat crZ
 if q.on≠f.kind\/Zgi c.ruls q.name f.day≠r then noD else
 let x:=Js (opn c) (evL c f) q.cnd
 if x.2.2≠0\/x.1=0 then noD else
 let y:=Js (opn c) (evL c f) q.due
 if y.2.2≠0 then noD else
 let z:=Z8t f.day y.1 c.stys
 if z.2≠0 then noD else
 if z.1=y.1 then (mkD c f r q y.1 y.1 (x.2.1++y.2.1),true) else
 let n:=JC (opn c) 1 z.1
 if n.2≠0 then noD else (mkD c f r q y.1 n.1 (x.2.1++y.2.1++[(z.1,n.1)]),true)
structure Z7c (c:Cas):Prop where
 fl:c.fcts.length<=100000
 rl:c.ruls.length<=1024
 cnd:∀ q∈c.ruls,Z24 q.cnd=(2,0)
 due:∀ q∈c.ruls,Z24 q.due=(3,0)
 att:Zn4 c.atts c.crrs
 ext:∀ x∈c.crrs,0<=x.extra/\x.extra<=1000
 sty:Z8r c.stys
 court:0<=c.court/\c.court<=15
 today:0<=c.today/\c.today<=3652058
structure Z17 (f:Fct):Prop where
 day:0<=f.day/\f.day<=3652058
 by_:0<=f.by_/\f.by_<=63
 to_:0<=f.to_/\f.to_<=63
 amt:-2147483647<=f.amt/\f.amt<=2147483647
structure Z2B (w:World) (c:Cas) (R:Z1e):Prop where
 ff:SlV [] w R.fv c.fcts
 rr:SlV [] w R.rv c.ruls
 aa:SlV [] w R.av c.atts
 cc:SlV [] w R.cv c.crrs
 ss:SlV [] w R.sv c.stys
 cal:Z6E w c.cal R.hv R.lv R.zo R.zs R.hr
 one:R.zo.oneCell'=true/\R.zs.oneCell'=true/\R.hr.oneCell'=true
theorem Z2B.up {w w':World} {c:Cas} {R:Z1e} (h:Z2B w c R) (hS:Stp [] w w'):Z2B w' c R:=⟨h.ff.up hS,h.rr.up hS,h.aa.up hS,h.cc.up hS,h.ss.up hS,h.cal.up hS,h.one⟩
theorem Z47 {o:Int->Bool} {ev:List Int} {C:List Ins} {t:Int} (bM:ZdX ev) {sh:List (Option Shp)} (ai:sh.length=C.length) (dg:∀ i,i<C.length->∃ s nx,ZcM C sh i s nx) (dN:sh.getD (C.length - 1) none=some [t]) :
 ∀ (f i:Nat) (s:Shp) (st:List Int) (sp sp':List Spn) (v:Int),i<C.length->sh.getD i none=some s->Z0n s st->C.length<=f+i->Z6t o ev C f i st sp=(v,sp',0)->vOk t v
 | 0,i,s,st,sp,sp',v,hi,hs,ay,hf,hr=>by omega
 | f + 1, i, s, st, sp, sp', v, hi, hs, ay, hf, hr => by
   obtain ⟨s',nx,hg⟩:=dg i hi;obtain rfl:s'=s:=by have:=hg.at_;rw [hs] at this;simpa using this.symm
   rw [Z6t] at hr;have hn:=hg.next;have dQ:=hg.stop;have jW:=hg.jump;have ji:=hg.on;generalize C.getD i ⟨0,0⟩=x at *
   try dsimp only at hr
   by_cases cX:x.op=24;rw [if_pos cX] at hr;obtain ⟨a1,a2⟩:=dQ cX;rw [show i=C.length - 1 by omega,dN] at hs;obtain rfl:[t]=s':=by simpa using hs
   obtain ⟨u,rfl,hu⟩:=ay.one_inv;simp [Z05] at hr;rw [<- hr.1];exact hu;rw [if_neg cX] at hr;by_cases cT:x.op=13;rw [if_pos cT] at hr;obtain ⟨j1,j2,j3⟩:=jW (.inl cT);have di:=Zks cT hn;subst di;exact Z47 bM ai dg dN f x.n.toNat _ st sp sp' v (by omega) j3 ay (by omega) hr;rw [if_neg cT] at hr;by_cases dY:x.op=14;rw [if_pos dY] at hr;obtain ⟨j1,j2,j3⟩:=jW (.inr dY);obtain ⟨o1,o2⟩:=ji cX cT;have di:=Zkt dY hn;have iB:Z0n nx st.dropLast:=by
    rw [di,YaJ,YaJ,<- ay.1];exact ay.take _
   by_cases hb:Z05 st 0=0;rw [if_pos hb] at hr;exact Z47 bM ai dg dN f _ _ _ sp sp' v (by omega) j3 iB (by omega) hr;rw [if_neg hb] at hr;exact Z47 bM ai dg dN f _ _ _ sp sp' v (by omega) o2 iB (by omega) hr;rw [if_neg dY] at hr;obtain ⟨o1,o2⟩:=ji cX cT;by_cases he:(Z0b o ev x (Z05 st 1) (Z05 st 0)).2=0;rw [if_pos he] at hr;exact Z47 bM ai dg dN f _ _ _ _ sp' v (by omega) o2 (Zcn bM hn cX cT dY ay he) (by omega) hr;rw [if_neg he] at hr;simp only [Prod.mk.injEq] at hr;exact absurd hr.2.2 he
theorem Z8F {o:Int->Bool} {ev:List Int} {C:List Ins} {t:Int} (bM:ZdX ev) (hv:Z24 C=(t,0)) (h:(Js o ev C).2.2=0):vOk t (Js o ev C).1:=by
 obtain ⟨h0,rp,sh,ai,aO,gq,kV,nC,dg⟩:=Z8E hv;exact Z47 bM ai dg nC C.length 0 [] [] [] _ _ h0 kV Z0n.nil (by omega) (show Js o ev C=((Js o ev C).1,(Js o ev C).2.1,0) by rw [<- h])
theorem Z8G {o:Int->Bool} {ev:List Int} {C:List Ins} {t:Int} (hv:Z24 C=(t,0)):(Js o ev C).2.1.length<=200:=by
 obtain ⟨h0,rp,_⟩:=Z8E hv;have:=Z5Y o ev C C.length 0 [] [];unfold Js;simp only [Xf] at this;omega
def Z9T (s:AlS):Prop:=∀ y∈s.out,-1<=y.2/\y.2<=3652058
theorem Zku {l:List Rtn} {crrs:List Crr} {s:AlS} {x:Spn} (h:Z9T s) (hx:-1<=x.2/\x.2<=3652058):Z9T (Z0G l crrs s x):=by
 unfold Z0G;dsimp only;split;exact h;have ht:Z9T (if Z1F l crrs x.1<s.least then (⟨Z1F l crrs x.1,false,[]⟩:AlS) else s):=by
  split;intro y hy;cases hy;exact h
 generalize (if Z1F l crrs x.1<s.least then (⟨Z1F l crrs x.1,false,[]⟩:AlS) else s)=t at *;split;rename_i y hy;split;intro z hz;rcases Xi.1 hz with hz|hz
 exact ht z (List.dropLast_subset _ hz);simp only [Xk] at hz;subst hz;exact hx;intro z hz;rcases Xi.1 hz with hz|hz
 exact ht z hz;simp only [Xk] at hz;subst hz;exact hx;intro z hz;rcases Xi.1 hz with hz|hz
 exact ht z hz;simp only [Xk] at hz;subst hz;exact hx
theorem ZcP {l:List Rtn} {crrs:List Crr}:∀ (L:List Spn) (s:AlS),Z9T s->(∀ x∈L,-1<=x.2/\x.2<=3652058)->Z9T (L.foldl (Z0G l crrs) s)
 | [],_,h,_=>h
 | x :: L,s,h,hL=>ZcP L _ (Zku h (hL x (by simp))) (λy hy=>hL y (by simp [hy]))
theorem Zkv (l:List Rtn) (crrs:List Crr) {sent:Int} (hs:0<=sent/\sent<=3652058):-1<=(ZaV l crrs sent).1/\(ZaV l crrs sent).1<=3652058:=by
 unfold ZaV;have ho:Z9T (Zgw l crrs sent):=ZcP _ _ (λy hy=>by cases hy) (λx hx=>⟨(Z8z hs hx).2.2.1,(Z8z hs hx).2.2.2⟩);dsimp only;split;simp;split;rename_i y hy;exact ho y (List.mem_of_getLast? hy);simp
theorem Zfi (l:List Atp) (crrs:List Crr) (en pa:Int):∀ (k:Nat),k<=l.length->∀ s∈ofG l crrs en pa k,∃ j,∃ h:j<l.length,s=ofE crrs l[j] j
 | 0,_,s,h=>by simp [ofG] at h
 | k + 1, hk, s, h => by
   rw [ofG] at h;rcases Xi.1 h with h|h
   exact Zfi l crrs en pa k (by omega) s h;split at h;simp only [Xk] at h;exact ⟨k,by omega,by rw [h];simp [show k<l.length by omega]⟩;cases h
theorem Z9U (l:List Svc):∀ k,k<l.length->Z2o l k∈l
 | 0,h=>by simp [Z2o,h]
 | k + 1, h => by
   rw [Z2o];split;simp [h];exact Z9U l k (by omega)
theorem Znn {l:List Atp} {crrs:List Crr} (en pa:Int) (ho:Zn4 l crrs) (hx:∀ x∈crrs,0<=x.extra/\x.extra<=1000) :
 -1<=(Z8B l crrs en pa).1.day/\(Z8B l crrs en pa).1.day<=3652058/\0<=(Z8B l crrs en pa).1.extra/\(Z8B l crrs en pa).1.extra<=1000:=by
 have hm:=Zfi l crrs en pa l.length (Xn _);show -1<=(Z4X (ofG l crrs en pa l.length)).1.day/\(Z4X (ofG l crrs en pa l.length)).1.day<=3652058/\0<=(Z4X (ofG l crrs en pa l.length)).1.extra/\(Z4X (ofG l crrs en pa l.length)).1.extra<=1000;generalize ofG l crrs en pa l.length=L at *;unfold Z4X;split;simp;rename_i aR;obtain ⟨j,hj,e⟩:=hm _ (Z9U L (L.length - 1) (by have:=XW.2 aR;omega));dsimp only;rw [e];have hs:=Zkv l[j].rets crrs (ho.sent _ (Xd hj));have hc:=ho.crr _ (Xd hj);obtain ⟨m,hm⟩:∃ m:Nat,l[j].crr=m:=⟨l[j].crr.toNat,by omega⟩
 have bP:m<crrs.length:=by omega
 have lU:=hx _ (Xd bP);simp only [ofE,hm];rw [show crrs.getD ((m:Int).toNat) ⟨0,0⟩=crrs[m] by simp [bP]];omega
theorem Zkw {c:Cas} {f:Fct} (ho:Z7c c) (hf:Z17 f):ZdX (evL c f):=by
 have h:=Znn f.entry f.to_ ho.att ho.ext;have h1:=hf.day;have h2:=hf.by_;have h3:=hf.to_;have h4:=hf.amt;have h5:=ho.court;unfold evL;dsimp only;generalize Z8B c.atts c.crrs f.entry f.to_=s at *;refine ⟨rfl,h1,?_,?_⟩;show -1<=(if s.2=true then s.1.day else -1)/\(if s.2=true then s.1.day else -1)<=3652058;split<;>omega
 intro i cp qZ;obtain rfl|rfl|rfl|rfl|rfl:i=2\/i=3\/i=4\/i=5\/i=6:=by omega
 show -2147483647<=(if s.2=true then s.1.extra else 0)/\(if s.2=true then s.1.extra else 0)<=2147483647;split<;>omega
 show -2147483647<=f.by_/\f.by_<=2147483647;omega;show -2147483647<=f.to_/\f.to_<=2147483647;omega;show -2147483647<=c.court/\c.court<=2147483647;omega;exact h4
theorem Z2s (w):(Instr.build 56 #[]).run Tryz.prog w=.ok (.agg (dlC (default:Dln) Jl).toArray) w:=by kernel_rfl
theorem Z2t:∀ u∈dlC (default:Dln) Jl,u.oneCell'=true:=by decide
theorem Zno (ev:List Int):∀ u∈evC ev,u.oneCell'=true:=by
 intro u hu;unfold evC at hu;simp only [Xb,Xj,or_false] at hu;rcases hu with rfl|rfl|rfl|rfl|rfl|rfl|rfl<;>rfl
theorem Znp (s:Str) (f:Fct) (a b:Int) (w):(Instr.build 56 #[(0,str s),(1,aG f),(2,.I a),(3,.I b)]).run Tryz.prog w=.ok (.agg (dlC (⟨s,f,a,b,0,[]⟩:Dln) Jl).toArray) w:=by kernel_rfl
theorem Z8H (a b:Int) (w):(Instr.build 75 #[(0,.I a),(1,.I b)]).run Tryz.prog w=.ok (.agg (Z3.enc ((a,b):Spn)).toArray) w:=by kernel_rfl
theorem Zb4 (d:Dln) {rv:Value} (h:rv.oneCell'=true):∀ u∈dlC d rv,u.oneCell'=true:=by
 intro u hu;simp only [dlC,Xb,Xj,or_false] at hu;rcases hu with rfl|rfl|rfl|rfl|rfl|rfl|rfl|rfl|rfl|rfl|rfl<;>first|rfl|assumption
theorem Nte.up {w0 w w':World} {bd:Nat} {d:Dln} {rv:Value} (h:Nte w0 bd w d rv) (hT:Stp [] w w'):Nte w0 bd w' d rv:=⟨h.blk.up hT,h.row.up hT,h.stp.trans hT.mn,h.lt,h.len⟩
theorem Nte.stat {w0 w w':World} {bd:Nat} {d d':Dln} {rv:Value} (h:Nte w0 bd w d rv) (hT:Stp [bd] w w') (hb:Blk w' bd 56 (dlC d' rv)) (he:d'.reas=d.reas):Nte w0 bd w' d' rv:=
 ⟨hb,by rw [he];exact h.row.ext hT (λb dz=>⟨dz,λh2=>by have:=(h.row.ob_le b h2).1;have:=h.lt;simp at dz;omega⟩) (λb hb=>.inl hb),h.stp.trans hT,h.lt,by rw [he];exact h.len⟩
abbrev dU (q:Cr) (f:Fct) (due st:Int) (l:List Rsn):Dln:=⟨q.name,f,f.to_,due,st,l⟩
theorem Znq (c:Cas) (R:Z1e) (f:Fct) (r:Int) (w) (hv:Z2B w c R) (ho:Z7c c) (hf:Z17 f) (hr:I64 r) :
 CC 24 #[.agg (JG c R).toArray,aG f,.I r] w λv w'=>∃ rv,v=.tuple #[.agg (dlC (Z1l c f r).1 rv).toArray,.B (Z1l c f r).2]/\ZI 67 w w' rv (Z1l c f r).1.reas:=by
 generalize aN:Z1l c f r=o;have iM:=ho.rl;refine cW3 246 Tryz.func24 ?_;refine W ?_;refine BX (Stp.refl [] w) λb3 w1 h3 e3 _ hS=>?_;replace e3:Blk w1 b3 37 (JG c R):=e3;refine BX hS λb4 w2 h4 e4 hT hS=>?_;replace e4:Blk w2 b4 45 (Z3.enc f):=e4;replace e3:=e3.up hT;refine W ?_;refine Z1 Z2 rfl ?_;rintro _ w3 ⟨b6,rfl,ew,e6,hT⟩;have g6:w.heap.size<=b6:=Xg hS.size ew;replace e6:Blk w3 b6 56 (dlC (default:Dln) Jl):=e6;replace e3:=e3.up hT;replace e4:=e4.up hT;replace hS:=hS.trans hT;clear hT;have tA:=hv.up hS;have fV:=tA.rr;refine W ?_;refine CP hS (Z1y _ _ _ _) λw4 hT hS=>?_;replace e3:=e3.up hT;replace e4:=e4.up hT;replace e6:=e6.up hT;clear hT tA fV;by_cases hw:0<=r/\r<=(c.ruls.length:Int) - 1
 rotate_left
 rw [Z1l,if_pos hw] at aN;rw [decide_eq_false hw];refine QO ?_;refine Z8 (vs:=[]) rfl Z2s rfl ?_;refine SB (us:=dlC (default:Dln) Jl) Z2t e6 ?_;rintro _ wz ⟨hT,e6⟩;refine W ?_;refine Zl rfl rfl rfl e6 rfl rfl ?_;subst aN;exact .mk ⟨Jl,rfl,ZI.nil.up (hS.ow hT)⟩;rw [Z1l,if_neg (not_not_intro hw)] at aN;rw [decide_eq_true hw];obtain ⟨i,rfl⟩:∃ i:Nat,r=i:=⟨r.toNat,by omega⟩
 have hi:i<c.ruls.length:=by omega
 rw [show c.ruls.getD ((i:Int).toNat) crZ=c.ruls[i] by simp [hi]] at aN;dsimp only at aN;have fj:=(ho.cnd _ (Xd hi))
 have fW:=(ho.due _ (Xd hi))
 have eH:=hv.up hS;have fV:=eH.rr;obtain ⟨cs,⟨kc,kd,rfl,gc,gd⟩,au⟩:=hv.rr.cell hi;refine QO ?_;refine Z9 (Z28 rfl rfl fV hi ⟨kc,kd,rfl,gc.up hS,gd.up hS⟩ (λj u hu=>hS.cell0 (au j u hu))) rfl ?_;refine Z1 Z2 rfl ?_;rintro _ w5 ⟨b8,rfl,fC,e8,hT⟩;refine SB (us:=crC c.ruls[i] kc kd) (Z0q gc gd) e8 ?_;rintro _ w6 ⟨aq,e8⟩;replace hT:=hT.ow aq;replace e3:=e3.up hT;replace e4:=e4.up hT;replace e6:=e6.up hT;replace hS:=hS.trans hT;clear hT aq au fV eH;generalize hq:c.ruls[i]=q at *;have fV:=(hv.up hS).rr;have l8:=e8.lt
 (refine QP ?_ ?_<;>intro hg)
 rw [if_pos (.inl (by assumption))] at aN;refine Z8 (vs:=[]) rfl Z2s rfl ?_;refine SB (us:=dlC (default:Dln) Jl) Z2t e6 ?_;rintro _ wz ⟨hT,e6⟩;refine W ?_;refine Zl rfl rfl rfl e6 rfl rfl ?_;subst aN;exact .mk ⟨Jl,rfl,ZI.nil.up (hS.ow hT)⟩;refine CP hS (Zco R.rv c.ruls q.name f.day _ fV) λw7 hT hS=>?_;replace e3:=e3.up hT;replace e4:=e4.up hT;replace e6:=e6.up hT;replace e8:=e8.up hT;clear fV;by_cases ha:Zgi c.ruls q.name f.day=i
 rotate_left
 rw [if_pos (.inr ha)] at aN;refine QO ?_;refine Z8 (vs:=[]) rfl Z2s rfl ?_;refine SB (us:=dlC (default:Dln) Jl) Z2t e6 ?_;rintro _ wz ⟨hT,e6⟩;refine W ?_;refine Zl rfl rfl rfl e6 rfl rfl ?_;subst aN;exact .mk ⟨Jl,rfl,ZI.nil.up (hS.ow hT)⟩;rw [if_neg (λh=>h.elim (λh=>absurd h (by assumption)) (λh=>h ha))] at aN;refine QO ?_;refine Z8 (vs:=[(0,.I f.day),(1,.I (-1)),(3,.I f.by_),(4,.I f.to_),(5,.I c.court),(6,.I f.amt)]) rfl (ZgO _ _ _ _ _) rfl ?_;refine Z1 Z2 rfl ?_;have l3:=e3.lt;have l4:=e4.lt;have l6:=e6.lt;have l8':=e8.lt;rintro _ w8 ⟨b9,rfl,iu,e9,hT⟩;have g9:w.heap.size<=b9:=Xg hS.size iu;refine SB (us:=evC [f.day,-1,0,f.by_,f.to_,c.court,f.amt]) (Zno _) e9 ?_;rintro _ w9 ⟨aq,e9⟩;replace hT:=hT.ow aq;replace e3:=e3.up hT;replace e4:=e4.up hT;replace e6:=e6.up hT;replace e8:=e8.up hT;replace hS:=hS.trans hT;clear hT aq;have rq:=hv.up hS;refine QO ?_;refine CP hS (ZsQ R.av R.cv c.atts c.crrs f.entry f.to_ _ rq.aa rq.cc ho.att) λw10 hT hS=>?_;replace e3:=e3.up hT;replace e4:=e4.up hT;replace e6:=e6.up hT;replace e8:=e8.up hT;replace e9:=e9.up hT;clear hT rq;have l9:=e9.lt;generalize ba:Z8B c.atts c.crrs f.entry f.to_=s at *;obtain ⟨s,ok⟩:=s;refine QO ?_;refine Z1 Z2 rfl ?_;rintro _ w11 ⟨b10,rfl,ea,e10,hT⟩;refine SA (us:=Z3.enc s) e10 ?_;rintro _ w12 ⟨aq,e10⟩;replace hT:=hT.ow aq;replace e3:=e3.up hT;replace e4:=e4.up hT;replace e6:=e6.up hT;replace e8:=e8.up hT;replace e9:=e9.up hT;replace hS:=hS.trans hT;clear hT aq;refine W ?_;have e9':=e9
 refine JJ (σ:=Unit) (λ_=>[(2,.I (i:Int)),(3,pQ b3),(4,pQ b4),(6,pQ b6),(8,pQ b8),(9,pQ b9),(10,pQ b10),(11,.B ok)])
  (λ_ w'=>Stp [b9] w12 w'/\Blk w' b9 113 (evC (evL c f))) ?_ ?_
 have rt:evL c f=[f.day,if ok=true then s.day else -1,if ok=true then s.extra else 0,f.by_,f.to_,c.court,f.amt]:=by
  unfold evL;rw [ba]
 rw [rt]
 (refine QP ?_ ?_<;>intro hc)
 refine ZDr 8 [b9] [] [(0,0),(1,1),(2,0),(3,1),(4,0),(5,2),(6,0),(7,2)] (λw1 ae=>?_);replace e9:=e9.up ae;replace e10:=e10.up ae;have c10:_=some (Value.int .i64 s.day):=e10.cell (j:=0) rfl;have c11:_=some (Value.int .i64 s.extra):=e10.cell (j:=1) rfl;focus repeat'(first|refine D1 ?_|omega|refine Z1f rfl (by first|exact trivial|exact rfl) rfl rfl (by assumption) rfl ?_|refine Zy rfl rfl rfl rfl (λhg=>?_) (λhg=>?_)|(refine Zq rfl rfl rfl rfl (λhg=>?_) (λhg=>?_)<;>refine D1 ?_)|fail)
 refine ZF rfl trivial (Zc rfl rfl rfl rfl e9 (by simp [evC])) (λ_ _ h=>h.1) ?_;rintro _ w13 ⟨hT,e9⟩;focus repeat'(first|refine D1 ?_|omega|refine Z1f rfl (by first|exact trivial|exact rfl) rfl rfl (by assumption) rfl ?_|refine Zy rfl rfl rfl rfl (λhg=>?_) (λhg=>?_)|(refine Zq rfl rfl rfl rfl (λhg=>?_) (λhg=>?_)<;>refine D1 ?_)|fail)
 refine ZF rfl trivial (Zc rfl rfl rfl rfl e9 (by simp [evC])) (λ_ _ h=>h.1) ?_;rintro _ w14 ⟨aq,e9⟩;focus repeat'(first|refine D1 ?_|omega|refine Z1f rfl (by first|exact trivial|exact rfl) rfl rfl (by assumption) rfl ?_|refine Zy rfl rfl rfl rfl (λhg=>?_) (λhg=>?_)|(refine Zq rfl rfl rfl rfl (λhg=>?_) (λhg=>?_)<;>refine D1 ?_)|fail)
 exact QT () ⟨(ae.mn.own hT (λc hc=>.inl hc)).own aq (λc hc=>.inl hc),by rw [show ok=true by assumption];exact e9⟩;rw [show ok=false by simpa using ‹_›];exact QT () ⟨Stp.refl _ _,e9⟩;rintro _ w13 ⟨hT,e9⟩;replace e3:=e3.ext hT (by simp;omega);replace e4:=e4.ext hT (by simp;omega);replace e6:=e6.ext hT (by simp;omega);replace e8:=e8.ext hT (by simp;omega);replace e10:=e10.ext hT (by simp;omega);replace hS:=hS.ow hT;clear hT;have bM:=Zkw ho hf;have gM:=hv.up hS;have l3:=e3.lt;have l4:=e4.lt;have l6:=e6.lt;have l8:=e8.lt;have l10:=e10.lt;rw [show opn c=ZA c.cal c.today from rfl] at aN;have cM:=hS;have f3:=e3;have f4:=e4;have f6:=e6;have f8:=e8;have f10:=e10;refine W ?_;refine Z9 (Zn rfl rfl e3 (us:=Z0h c.cal R.hv R.lv R.zo R.zs R.hr) rfl rfl) rfl ?_;refine W ?_;refine CL (ZcO kc q.cnd 2 c.today (evL c f) c.cal R.hv R.lv R.zo R.zs R.hr _ (gc.up hS) fj gM.cal bM gM.one) ?_;rintro _ w14 ⟨pv,rfl,fu⟩;have kW:=Z8G (o:=ZA c.cal c.today) (ev:=evL c f) fj;generalize Js (ZA c.cal c.today) (evL c f) q.cnd=x at *;obtain ⟨x1,xs,xe⟩:=x;dsimp only at aN fu kW ⊢;have hT:=fu.2;replace e3:=e3.up hT;replace e4:=e4.up hT;replace e6:=e6.up hT;replace e8:=e8.up hT;replace e9:=e9.up hT;replace e10:=e10.up hT;replace hS:=hS.trans hT;clear hT gM;by_cases iH:xe=0
 rotate_left
 rw [if_pos (.inl iH)] at aN;refine QO ?_;refine Z8 (vs:=[]) rfl Z2s rfl ?_;refine SB (us:=dlC (default:Dln) Jl) Z2t e6 ?_;rintro _ wz ⟨hT,e6⟩;refine W ?_;refine Zl rfl rfl rfl e6 rfl rfl ?_;subst aN;exact .mk ⟨Jl,rfl,ZI.nil.up (hS.ow hT)⟩;by_cases pE:x1=0;rw [if_pos (.inr pE)] at aN;refine QO ?_;refine Z8 (vs:=[]) rfl Z2s rfl ?_;refine SB (us:=dlC (default:Dln) Jl) Z2t e6 ?_;rintro _ wz ⟨hT,e6⟩;refine W ?_;refine Zl rfl rfl rfl e6 rfl rfl ?_;subst aN;exact .mk ⟨Jl,rfl,ZI.nil.up (hS.ow hT)⟩;rw [if_neg (λh=>h.elim (λh=>h iH) (λh=>pE h))] at aN;have gM:=hv.up hS;refine QO ?_;refine Z9 (Zn rfl rfl e3 (us:=Z0h c.cal R.hv R.lv R.zo R.zs R.hr) rfl rfl) rfl ?_;refine W ?_;refine CL (ZcO kd q.due 3 c.today (evL c f) c.cal R.hv R.lv R.zo R.zs R.hr _ (gd.up hS) fW gM.cal bM gM.one) ?_;rintro _ w15 ⟨pw,rfl,dh⟩;have fG:=Z8G (o:=ZA c.cal c.today) (ev:=evL c f) fW;have oQ:=Z8F (o:=ZA c.cal c.today) bM fW;generalize Js (ZA c.cal c.today) (evL c f) q.due=y at *;obtain ⟨y1,ys,ye⟩:=y;dsimp only at aN dh fG oQ ⊢;have cJ:SlV (ob pv) w15 pw ys:=dh.slv (λb hb=>(fu.ob_le b hb).2);have hT:=dh.2;replace e3:=e3.up hT;replace e4:=e4.up hT;replace e6:=e6.up hT;replace e8:=e8.up hT;replace e9:=e9.up hT;replace e10:=e10.up hT;replace fu:=fu.up hT;replace hS:=hS.trans hT;clear hT gM dh;by_cases ru:ye=0
 rotate_left
 rw [if_pos ru] at aN;refine QO ?_;refine Z8 (vs:=[]) rfl Z2s rfl ?_;refine SB (us:=dlC (default:Dln) Jl) Z2t e6 ?_;rintro _ wz ⟨hT,e6⟩;refine W ?_;refine Zl rfl rfl rfl e6 rfl rfl ?_;subst aN;exact .mk ⟨Jl,rfl,ZI.nil.up (hS.ow hT)⟩;rw [if_neg (not_not_intro ru)] at aN;have qS:0<=y1/\y1<=3652058:=by
  rcases oQ ru with h|h|h
  omega;omega;exact h.2
 have gM:=hv.up hS;have gC:=hf.day;refine QO ?_;refine CP hS (Z8u f.day y1 R.sv c.stys _ gM.ss ho.sty (by omega) (by omega)) λw16 hT hS=>?_
 replace e3:=e3.up hT;replace e4:=e4.up hT;replace e6:=e6.up hT;replace e8:=e8.up hT;replace e9:=e9.up hT;replace e10:=e10.up hT;replace fu:=fu.up hT;replace cJ:=cJ.up hT;clear hT gM;generalize Z8t f.day y1 c.stys=z at *;obtain ⟨z1,ze⟩:=z;dsimp only at aN ⊢;by_cases tB:ze=0
 rotate_left
 rw [if_pos tB] at aN;refine QO ?_;refine Z8 (vs:=[]) rfl Z2s rfl ?_;refine SB (us:=dlC (default:Dln) Jl) Z2t e6 ?_;rintro _ wz ⟨hT,e6⟩;refine W ?_;refine Zl rfl rfl rfl e6 rfl rfl ?_;subst aN;exact .mk ⟨Jl,rfl,ZI.nil.up (hS.ow hT)⟩;rw [if_neg (not_not_intro tB)] at aN;refine QO ?_;refine Z1 (JD (β:=Spn) rfl (by decide) rfl rfl fu cJ (Xg (Xp _ (show xs.length+ys.length<=400 by omega)) (by decide)) (by simp only [maxLen];omega)) rfl ?_;rintro pu w17 ⟨hr,-,-⟩;clear fu cJ e3 e4 e6 e8 e9 e10 hS;have oR:(xs++ys).length<=400:=by rw [Xc];omega
 refine W ?_
 refine JJ (σ:=Int×Value×List Spn) (λq=>[(2,.I (i:Int)),(3,pQ b3),(4,pQ b4),(6,pQ b6),(8,pQ b8),(10,pQ b10),(11,.B ok),(13,q.2.1),(15,.I y1),(17,.I q.1)])
  (λp w'=>ZI 75 w13 w' p.2.1 p.2.2/\p.2.2.length<=1000/\(mkD c f i q y1 p.1 p.2.2,true)=o) ?_ ?_
 by_cases rx:z1=y1;rw [if_pos rx] at aN;refine QO ?_;exact QT (z1,pu,xs++ys) ⟨hr,by dsimp only;omega,by rw [rx];exact aN⟩
 . rw [if_neg rx] at aN
   have e3:=f3.up hr.2;have e6:=f6.up hr.2;have hS:=cM.trans hr.2;have gM:=hv.up hS;refine QO ?_;refine Z9 (Zn rfl rfl e3 (us:=Z0h c.cal R.hv R.lv R.zo R.zs R.hr) rfl rfl) rfl ?_;refine W ?_;refine CP hS (Z9S z1 c.today c.cal R.hv R.lv R.zo R.zs R.hr _ gM.cal) λw18 hT hS=>?_;replace e3:=e3.up hT;replace e6:=e6.up hT;replace hr:=hr.up hT;clear hT gM;generalize JC (ZA c.cal c.today) 1 z1=nn at *;obtain ⟨n1,ne⟩:=nn;dsimp only at aN ⊢;by_cases aR:ne=0
   rotate_left
   rw [if_pos aR] at aN;refine QO ?_;refine Z8 (vs:=[]) rfl Z2s rfl ?_;refine SB (us:=dlC (default:Dln) Jl) Z2t e6 ?_;rintro _ wz ⟨hT,e6⟩;refine W ?_;refine Zl rfl rfl rfl e6 rfl rfl ?_;subst aN;exact .mk ⟨Jl,rfl,ZI.nil.up (hS.ow hT)⟩;rw [if_neg (not_not_intro aR)] at aN;refine QO ?_;refine Z8 (vs:=[(0,.I z1),(1,.I n1)]) rfl (Z8H _ _) rfl ?_;refine AP1 ((z1,n1):Spn) hr (by omega) λv1 v' w' bH _=>?_
   refine W ?_;exact ZD (n1,v',xs++ys++[(z1,n1)]) ⟨rfl,rfl,rfl,rfl,rfl,rfl,rfl,rfl,rfl,rfl,trivial⟩ ⟨bH,by simp only [Xc,Xe,Xf] at oR ⊢;omega,aN⟩
 clear aN hr oR;rintro ⟨due,sv,sp⟩ w18 ⟨hr,bD,aN⟩;dsimp only at hr bD aN ⊢;subst aN;have e3:=f3.up hr.2;have e4:=f4.up hr.2;have e6:=f6.up hr.2;have e8:=f8.up hr.2;have e10:=f10.up hr.2;have hS:=cM.trans hr.2;have eE:SlV [] w18 sv sp:=hr.slv (by simp);clear hr f3 f4 f6 f8 f10 cM;refine W ?_;refine Z8 (vs:=[(0,str q.name),(1,aG f),(2,.I f.to_),(3,.I due)]) rfl (Znp _ _ _ _) rfl ?_;refine Z1 Z2 rfl ?_;rintro _ w19 ⟨b19,rfl,nE,e19,hT⟩;refine SB (us:=dlC (⟨q.name,f,f.to_,due,0,[]⟩:Dln) Jl) (Zb4 _ rfl) e19 ?_;rintro _ w20 ⟨aq,e19⟩;replace hT:=hT.ow aq;have l3:=e3.lt;have l4:=e4.lt;have l6:=e6.lt;have l8:=e8.lt;have l10:=e10.lt;replace e3:=e3.up hT;replace e4:=e4.up hT;replace e6:=e6.up hT;replace e8:=e8.up hT;replace e10:=e10.up hT;replace eE:SlV [b19] w20 sv sp:=eE.ext hT (by simp) (λb hb=>.inr (by simp at hb;omega));have g19:w.heap.size<=b19:=Xg hS.size nE;replace hS:=hS.trans hT;clear hT aq;have hN:Nte w20 b19 w20 ⟨q.name,f,f.to_,due,0,[]⟩ Jl:=⟨e19,Row.nil,Stp.refl _ _,e19.lt,by simp⟩
 clear e19;refine W ?_;refine Z1 (Z0k rfl (ZY rfl rfl rfl) rfl (Z2Q w20 b19 _ _ 1 f.entry f.day _ hN (by simp))) rfl ?_;rintro _ w21 ⟨r1,hN,-,-⟩;have f4:=e4.ext hN.stp (by simp;omega);refine W ?_;refine Z1 (Z0k rfl (ZY rfl rfl rfl) rfl (Z2Q w20 b19 _ _ 2 i 0 _ hN (by simp))) rfl ?_;rintro _ w22 ⟨r2,hN,-,-⟩;clear f4;have f8:=e8.ext hN.stp (by simp;omega);have kX:Stp [] w w22:=hS.own hN.stp (λc hc=>.inr (by simp at hc;omega));have bF:=gc.up kX;have de:=gd.up kX;refine W ?_;refine Z5C (σ:=Unit) (λ_=>[(2,.I (i:Int)),(3,pQ b3),(4,pQ b4),(6,pQ b6),(8,pQ b8),(15,.I y1),(17,.I due),(19,pQ b19),(20,.func (.func 53) #[] #[pQ b19]),(10,pQ b10),(13,sv),(185,.B (ok && (Z2P q.cnd || Z2P q.due)))]) (λ_ w'=>Stp [] w22 w') ?_ ?_
 . cases ok with
   | false=>
     refine QO ?_;exact QT () (Stp.refl _ _)
   | true=>
     refine QO ?_;refine CP (Stp.refl [] w22) (Zcs kc q.cnd _ bF) λw23 hT hS=>?_;replace f8:=f8.up hT;replace de:=de.up hT;cases h1:Z2P q.cnd with
     | true=>
       refine QO ?_;exact QT () hS
     | false=>
       refine QO ?_;refine CP hS (Zcs kd q.due _ de) λw24 hT hS=>?_;cases h2:Z2P q.due
       all_goals
        refine QO ?_;exact QT () hS
 rintro _ w23 hT;replace hN:=hN.up hT;clear bF de f8 kX hT;generalize lJ:(ok && (Z2P q.cnd || Z2P q.due))=bb at *;refine W ?_;refine JJ (σ:=Value) (λ_=>[(2,.I (i:Int)),(3,pQ b3),(4,pQ b4),(6,pQ b6),(8,pQ b8),(15,.I y1),(17,.I due),(19,pQ b19),(20,.func (.func 53) #[] #[pQ b19]),(13,sv)]) (λrv w'=>Nte w20 b19 w' (dU q f due 0 ([⟨1,f.entry,f.day⟩,⟨2,i,0⟩]++if bb=true then [⟨3,s.att,s.day⟩] else [])) rv) ?_ ?_
 . cases bb with
   | false=>
     refine QO ?_;exact QT r2 hN
   | true=>
     have f10:=e10.ext hN.stp (by simp;omega);refine QO ?_;refine Z1 (Z0k rfl (ZY rfl rfl rfl) rfl (Z2Q w20 b19 _ _ 3 s.att s.day _ hN (by simp))) rfl ?_;rintro _ w24 ⟨r3,hN,-,-⟩;refine W ?_;exact QT r3 hN
 clear hN;rintro r3 w24 hN;generalize kO:([⟨1,f.entry,f.day⟩,⟨2,i,0⟩]++if bb=true then [⟨3,s.att,s.day⟩] else []:List Rsn)=L1 at *;have ww:L1.length<=3:=by rw [<- kO];split<;>simp
 have gT:=eE.max;refine W ?_;refine LP (σ:=Nat×Value) (λp=>[(2,.I (i:Int)),(3,pQ b3),(4,pQ b4),(6,pQ b6),(8,pQ b8),(15,.I y1),(17,.I due),(19,pQ b19),(20,.func (.func 53) #[] #[pQ b19]),(192,sv),(193,.I sp.length),(194,.I p.1)]) (λp w'=>p.1<=sp.length/\Nte w20 b19 w' (dU q f due 0 (L1++(sp.take p.1).map (λx=>(⟨4,x.1,x.2⟩:Rsn)))) p.2) (λp=>sp.length - p.1) (0,r3) ⟨by omega,by simpa using hN⟩ ?_;clear hN;rintro ⟨k,r4⟩ w25 ⟨hk,hN⟩;dsimp only at hk hN ⊢;by_cases ag:k<sp.length;have tC:SlV [] w25 sv sp:=eE.ext hN.stp (λb hb=>hb) (by simp);have ay:(sp.take (k+1)).map (λx=>(⟨4,x.1,x.2⟩:Rsn))=(sp.take k).map (λx=>(⟨4,x.1,x.2⟩:Rsn))++[⟨4,sp[k].1,sp[k].2⟩]:=by rw [Xh ag,XQ];rfl
 refine QO ?_;refine Z1 Z2 rfl ?_;rintro _ w26 ⟨b22,rfl,wx,e22,hA⟩;refine SA (us:=Z3.enc sp[k]) e22 ?_;rintro _ w27 ⟨dp,e22⟩;replace hA:=hA.ow dp;replace hN:=hN.up hA;refine QO ?_;refine Z1 (Z0k rfl (ZY rfl rfl rfl) rfl (Z2Q w20 b19 _ _ 4 sp[k].1 sp[k].2 _ hN (by simp only [Xc,Xt,Xv];omega))) rfl ?_;rintro _ w28 ⟨r5,hN,-,-⟩;refine QO ?_;exact QL (k+1,r5) ⟨ag,by rw [ay,<- Xy];exact hN⟩ (by dsimp only;omega);obtain rfl:k=sp.length:=by omega
 rw [Xo] at hN;have dx:=hS.own hN.stp (λc hc=>.inr (by simp at hc;omega));have f3:=e3.ext hN.stp (by simp;omega);have f4:=e4.ext hN.stp (by simp;omega);have gC:=hf.day;refine QO ?_;refine CG (ZjU f.day y1 R.sv c.stys _ (hv.up dx).ss ho.sty (by omega) (by omega)) ?_;intro uv w26 hu;have eo:(Z77 f.day y1 c.stys).length<=1000:=by
  have:=ho.sty.len;unfold Z77;split;simp;exact Xg (XZ _ _) this
 generalize hU:Z77 f.day y1 c.stys=us at *;have d6:SlV (b19 :: ob r4) w26 uv us:=hu.slv (λb hb=>by
  rcases Xb.1 hb with rfl|hb
  exact hN.blk.lt;exact (hN.row.ob_le b hb).2)
 replace hN:=hN.up hu.2;clear f3 f4 hu dx eE;have ol:=d6.max;refine QO ?_;generalize tD:L1++sp.map (λx=>(⟨4,x.1,x.2⟩:Rsn))=L2 at *;have wB:L2.length<=1003:=by rw [<- tD,Xc,Xt];omega
 refine LP (σ:=Nat×Value) (λp=>[(2,.I (i:Int)),(3,pQ b3),(4,pQ b4),(6,pQ b6),(8,pQ b8),(15,.I y1),(17,.I due),(19,pQ b19),(20,.func (.func 53) #[] #[pQ b19]),(210,uv),(211,.I us.length),(212,.I p.1)]) (λp w'=>p.1<=us.length/\Nte w20 b19 w' (dU q f due 0 (L2++(us.take p.1).map (λx=>(⟨5,x.1,x.2⟩:Rsn)))) p.2/\SlV (b19 :: ob p.2) w' uv us) (λp=>us.length - p.1) (0,r4) ⟨by omega,by simpa using hN,d6⟩ ?_;clear hN d6;rintro ⟨k,r5⟩ w27 ⟨hk,hN,d6⟩;dsimp only at hk hN ⊢;by_cases ag:k<us.length;have tE:SlV [] w27 uv us:=d6.ext (Stp.refl [] w27) (by simp) (by simp);have ay:(us.take (k+1)).map (λx=>(⟨5,x.1,x.2⟩:Rsn))=(us.take k).map (λx=>(⟨5,x.1,x.2⟩:Rsn))++[⟨5,us[k].1,us[k].2⟩]:=by rw [Xh ag,XQ];rfl
 refine QO ?_;refine Z1 Z2 rfl ?_;rintro _ w28 ⟨b24,rfl,wC,e24,hA⟩;refine SA (us:=Z3.enc us[k]) e24 ?_;rintro _ w29 ⟨dp,e24⟩;replace hA:=hA.ow dp;replace hN:=hN.up hA;refine QO ?_;refine Z1 (Z0k rfl (ZY rfl rfl rfl) rfl (Z2Q w20 b19 _ _ 5 us[k].1 us[k].2 _ hN (by simp only [Xc,Xt,Xv];omega))) rfl ?_;rintro _ w30 ⟨r6,mJ,jp,ry⟩;refine QO ?_;exact QL (k+1,r6) ⟨ag,by rw [ay,<- Xy];exact mJ,(d6.up hA).ext jp (λb hb=>hb) (λb hb=>by
  rcases Xb.1 hb with rfl|hb
  exact .inl (by simp);exact (ry b hb).imp (λh=>by simp [h]) id)⟩ (by dsimp only;omega)
 obtain rfl:k=us.length:=by omega
 rw [Xo] at hN;generalize tF:L2++us.map (λx=>(⟨5,x.1,x.2⟩:Rsn))=L3 at *;have wD:L3.length<=2003:=by rw [<- tF,Xc,Xt];omega
 clear d6 ol;have dx:=hS.own hN.stp (λc hc=>.inr (by simp at hc;omega));have f3:=e3.ext hN.stp (by simp;omega);have f4:=e4.ext hN.stp (by simp;omega);have f8:=e8.ext hN.stp (by simp;omega);refine QO ?_;refine CP dx (Ze0 c R f q.unl due _ (hv.up dx).ff (by have:=ho.fl;omega)) λw28 hT _=>?_
 replace hN:=hN.up hT;clear f3 f4 f8 hT dx;generalize hA:ZdZ c.fcts f q.unl due=a at *;obtain ⟨g,met⟩:=a;refine QO ?_;refine Z1 Z2 rfl ?_;rintro _ w29 ⟨b25,rfl,wF,e25,lX⟩;refine SA (us:=Z3.enc g) e25 ?_;rintro _ w30 ⟨dp,e25⟩;replace lX:=lX.ow dp;have rz:b25≠b19:=by have:=hN.blk.lt;omega
 replace hN:=hN.up lX;clear lX dp;refine W ?_;refine JJ (σ:=Value) (λ_=>[(6,pQ b6),(19,pQ b19)]) (λrv w'=>Nte w20 b19 w' (mkD c f i q y1 due sp) rv) ?_ ?_
 . have aA:mkD c f i q y1 due sp=dU q f due (if met=true then 1 else if due<c.today then 2 else 0) (L3++if met=true then [⟨6,g.entry,g.day⟩] else []):=by
    unfold mkD;rw [hA,ba,hU];dsimp only;rw [<- tF,<- tD,<- kO,<- lJ];simp only [Xl,Yav]
   rw [aA];cases met with
   | true=>
     refine QO ?_;refine Z4 (Zc (u:=.I 1) rfl rfl rfl rfl hN.blk (by simp)) ?_;rintro _ w31 ⟨hT,e19⟩;replace e25:=e25.ext hT (by simpa using rz);replace hN:=hN.stat (d':=dU q f due 1 L3) hT e19 rfl;refine QO ?_;refine Z1 (Z0k rfl (ZY rfl rfl rfl) rfl (Z2Q w20 b19 _ _ 6 g.entry g.day _ hN (by dsimp only;omega))) rfl ?_;rintro _ w32 ⟨r7,hN,-,-⟩;refine W ?_;exact QT r7 hN
   | false=>
     have f3:=e3.ext hN.stp (by simp;omega);by_cases lA:due<c.today;refine QO ?_;refine Z4 (Zc (u:=.I 2) rfl rfl rfl rfl hN.blk (by simp)) ?_;rintro _ w31 ⟨hT,e19⟩;replace hN:=hN.stat (d':=dU q f due 2 L3) hT e19 rfl;refine QO ?_;exact QT r5 (by simpa [lA] using hN);refine QO ?_;exact QT r5 (by simpa [lA] using hN)
 clear hN e25;rintro rv w31 hN;have f6:=e6.ext hN.stp (by simp;omega);have nF:rv.oneCell'=true:=(hN.row.slv (X:=[]) (by simp)).one;have hk:=hN.blk;refine W ?_;refine SB (us:=dlC (mkD c f i q y1 due sp) rv) (Zb4 _ nF) f6 ?_;rintro _ w32 ⟨hT,f6⟩;refine W ?_;refine Zl rfl rfl rfl f6 rfl rfl ?_;have dx:=hS.own hN.stp (λc hc=>.inr (by simp at hc;omega));have bq:=λb hb=>(hN.row.ob_le b hb).1;refine .mk ⟨rv,rfl,?_,dx.ow hT⟩;exact Z29 (Row.ext (Z29 (X':=[b6]) (Row.lower hN.row (by have:=hS.size;omega))) hT (λb hb=>⟨hb,λh=>by have:=bq b h;have:=hN.lt;simp at hb;omega⟩) (λb hb=>.inl hb))
abbrev DI:=Dln×Nat
structure Yld (fv:Value) (g:Nat) (cap:Array Value) (J:List DI->List Nat->World->Prop) (Pd:List DI->Dln->Nat->Prop):Prop where
 fv:fv=.func (.func g) #[] cap
 lt:∀ pre F W,J pre F W->∀ b∈F,b<W.heap.size
 up:∀ pre F W W',J pre F W->Stp [] W W'->J pre F W'
 call:∀ pre F d dv i W,J pre F W->SlV F W dv d.reas->Pd pre d i->CC g (#[.agg (dlC d dv).toArray,.I (i:Nat)]++cap) W λr W'=>∃ F',J (pre++[(d,i)]) F' W'/\Stp F W W'/\∀ b∈F',b∈F\/W.heap.size<=b
def Z4N (c:Cas) (f:Fct):Nat->List DI
 | 0=>[]
 | i+1=>Z4N c f i++if (Z1l c f i).2=true then [((Z1l c f i).1,i)] else []
def Z1z (c:Cas) (fs:List Fct):List DI:=fs.flatMap (λf=>Z4N c f c.ruls.length)
theorem ZgQ (c:Cas) (fs:List Fct) (k:Nat) (h:k<fs.length):Z1z c (fs.take (k+1))=Z1z c (fs.take k)++Z4N c fs[k] c.ruls.length:=by
 unfold Z1z;rw [Xh h,Yak];simp
theorem ZcQ {fv:Value} {g:Nat} {fn:Func} {cap:Array Value} {J:List DI->List Nat->World->Prop} {Pd:List DI->Dln->Nat->Prop} [hf:Fun Tryz.prog g fn] (hy:Yld fv g cap J Pd)
 (c:Cas) (R:Z1e) (lv:Value) (fs:List Fct) (F0:List Nat) (w) (ho:Z7c c) (ca:∀ W,Stp F0 w W->Z2B W c R) (hl:∀ W,Stp F0 w W->SlV [] W lv fs) (gY:∀ f∈fs,Z17 f)
 (hP:∀ k (hk:k<fs.length) (i:Nat),i<c.ruls.length->(Z1l c fs[k] i).2=true->Pd (Z1z c (fs.take k)++Z4N c fs[k] i) (Z1l c fs[k] i).1 i) (h0:J [] F0 w) :
 CC 44 #[.agg (JG c R).toArray,lv,fv] w λr W=>∃ F,J (Z1z c fs) F W/\Stp F0 w W/\∀ b∈F,b∈F0\/w.heap.size<=b:=by
 have aT:=(hl w (Stp.refl _ _)).max;have iM:=ho.rl;have fR:=hy.fv;subst fR;refine cW3 37 Tryz.func44 ?_;refine W ?_;refine BX (Stp.refl [] w) λb3 w1 h3 e3 _ hS=>?_;replace e3:Blk w1 b3 37 (JG c R):=e3;have fI:=hl w1 hS.mn;refine W ?_
 refine Zt (σ:=Nat×List Nat) (λq=>[(2,.func (.func g) #[] cap),(3,pQ b3),(11,lv),(12,.I fs.length),(13,.I q.1)])
  (λq W=>q.1<=fs.length/\J (Z1z c (fs.take q.1)) q.2 W/\Stp F0 w W/\Blk W b3 37 (JG c R)/\b3∉q.2/\∀ b∈q.2,b∈F0\/w.heap.size<=b) (λq=>fs.length - q.1) (0,F0) ⟨rfl,rfl,rfl,rfl,rfl,trivial⟩
  ⟨by omega,by simpa [Z1z] using hy.up _ _ _ _ h0 hS,hS.mn,e3,λh=>by have:=hy.lt _ _ _ h0 _ h;omega,λb hb=>.inl hb⟩ ?_
 clear e3 fI hS;rintro ⟨k,F⟩ w2 ⟨hk,hJ,hS,e3,eI,iP⟩;dsimp only at hk hJ eI iP ⊢;have dS:=hl w2 hS;by_cases ag:k<fs.length;have wG:=gY _ (Xd ag);have aj:=ZgQ c fs k ag;refine QO ?_;refine Z1 Z2 rfl ?_;rintro _ w3 ⟨b7,rfl,fb,e7,hA⟩;refine SA (us:=Z3.enc fs[k]) e7 ?_;rintro _ w4 ⟨dp,e7⟩;replace hA:=hA.ow dp;have kY:b7∉F:=λh=>by have:=hy.lt _ _ _ hJ _ h;omega
 replace e3:=e3.up hA;replace hJ:=hy.up _ _ _ _ hJ hA;replace hS:=hS.trans hA.mn;clear hA dp dS;have fV:=(ca w4 hS).rr;refine QO ?_
 refine Zt (σ:=Nat×List Nat) (λq=>[(2,.func (.func g) #[] cap),(3,pQ b3),(7,pQ b7),(11,lv),(12,.I fs.length),(13,.I k),(19,.I c.ruls.length),(20,.I q.1)])
  (λq W=>q.1<=c.ruls.length/\J (Z1z c (fs.take k)++Z4N c fs[k] q.1) q.2 W/\Stp F0 w W/\Blk W b3 37 (JG c R)/\Blk W b7 45 (Z3.enc fs[k])/\b3∉q.2/\b7∉q.2/\∀ b∈q.2,b∈F0\/w.heap.size<=b) (λq=>c.ruls.length - q.1) (0,F) ⟨rfl,rfl,rfl,rfl,rfl,rfl,rfl,rfl,trivial⟩
  ⟨by omega,by simpa [Z4N] using hJ,hS,e3,e7,eI,kY,iP⟩ ?_
 clear hJ hS e3 e7 eI kY iP fV;rintro ⟨i,F⟩ w5 ⟨hi,hJ,hS,e3,e7,eI,kY,iP⟩;dsimp only at hi hJ eI kY iP ⊢;by_cases kZ:i<c.ruls.length
 . have cV:=ca w5 hS
   have ay:Z4N c fs[k] (i+1)=Z4N c fs[k] i++if (Z1l c fs[k] i).2=true then [((Z1l c fs[k] i).1,i)] else []:=rfl
   have tG:=hP k ag i kZ;refine QO ?_;refine CM (ZY rfl rfl rfl) (Znq c R fs[k] i w5 cV ho wG (by unfold I64;omega)) ?_;rintro _ w6 ⟨rv,rfl,ab⟩;have hA:=ab.2;have ax:SlV F w6 rv (Z1l c fs[k] i).1.reas:=ab.slv (λb hb=>hy.lt _ _ _ hJ b hb);replace e3:=e3.up hA;replace e7:=e7.up hA;replace hJ:=hy.up _ _ _ _ hJ hA;replace hS:=hS.trans hA.mn;clear hA ab cV;generalize Z1l c fs[k] i=o at *;obtain ⟨d,ok⟩:=o;dsimp only at ay tG ax;have bN:=ax.one;refine QO ?_;refine Z1 Z2 rfl ?_;rintro _ w7 ⟨b9,rfl,iu,e9,hA⟩;refine SB (us:=dlC d rv) (Zb4 _ bN) e9 ?_;rintro _ w8 ⟨dp,e9⟩;replace hA:=hA.ow dp;have ya:b9∉F:=λh=>by have:=hy.lt _ _ _ hJ _ h;omega
   replace e3:=e3.up hA;replace e7:=e7.up hA;replace hJ:=hy.up _ _ _ _ hJ hA;replace hS:=hS.trans hA.mn;replace ax:=ax.up hA;clear hA dp;cases ok with
   | false=>
     refine QO ?_;exact QL (i+1,F) ⟨kZ,by rw [ay,if_neg (by simp),XD];exact hJ,hS,e3,e7,eI,kY,iP⟩ (by dsimp only;omega)
   | true=>
     refine QO ?_;refine Z1 (Z0k rfl (Zg rfl rfl) rfl (hy.call _ F d rv i w8 hJ ax (tG rfl))) rfl ?_;rintro _ w9 ⟨F',mq,hA,la⟩;refine QO ?_;have z3:=e3.lt;have z7:=e7.lt;refine QL (i+1,F') ⟨kZ,by rw [ay,if_pos rfl,<- Xy];exact mq,hS.own hA iP,e3.ext hA eI,e7.ext hA kY,λh=>?_,λh=>?_,λb hb=>?_⟩ (by dsimp only;omega);rcases la _ h with h|h
     exact eI h;omega;rcases la _ h with h|h
     exact kY h;omega;rcases la _ hb with h|h
     exact iP _ h;exact .inr (by have:=hS.size;omega)
 obtain rfl:i=c.ruls.length:=by omega
 refine QO ?_;exact QL (k+1,F) ⟨ag,by rw [aj];exact hJ,hS,e3,eI,iP⟩ (by dsimp only;omega);obtain rfl:k=fs.length:=by omega
 rw [Xo] at hJ;refine RT ?_;exact ⟨F,hJ,hS,iP⟩
abbrev Z7n (x:Fct):Value:=aG x
theorem ZsZ (x y:Fct) (w):(Op.equal 45 (Z7n x) (Z7n y)).run Tryz.prog w=.ok (decide (x=y)) w:=by
 have h1:Program.stoodInHeld Tryz.prog 45=false:=by kernel_rfl
 obtain ⟨i,hi⟩:∃ i,Tryz.prog.info? 3=some i:=by
  have:=(inferInstance:Siz Tryz.prog 3 1).h;cases h:Tryz.prog.info? 3 with
  | none=>rw [h] at this;cases this
  | some i=>exact ⟨i,rfl⟩
 obtain ⟨a,b,c,d,e,f⟩:=x;obtain ⟨a',b',c',d',e',f'⟩:=y;simp [Z7n,Z3.enc,Op.equal,Op.maxDepth,run_equalIn_struct,h1,Program.fieldsOf,Tryz.underlying45,Op.eqFields,part,Und.isAgg,Siz.run,Z0V,run_equalIn_int w _ _ .i64 .i64 _ _ Tryz.underlying3,run_equalIn_string w _ _ _ _ Tryz.underlying9];repeat' split
 all_goals simp_all
theorem Znr (em:Bool) (x:Fct) (w):(Instr.checkKey em 10000 45 (Z7n x)).run Tryz.prog w=.ok () w:=by kernel_rfl
instance:Zby Tryz.prog 45 Fct where
 enc:=Z7n
 chk:=Znr
 find:=λa es l w hk=>by
  have h2:=run_findKey_eq (P:=Tryz.prog) (k:=45) w (by kernel_rfl) (Z7n a) es;have h3:=Z2w Z7n ZsZ a w es l 0 hk;simp only [XN] at h3;exact h2.trans h3
theorem Zfj {κ:Type} [DecidableEq κ] (l:List κ) (a:κ):Z3E (l.map (λx=>(x,Value.bool true))) a (.B false)=.B (decide (a∈l)):=by
 unfold Z3E;cases h:(l.map (λx=>(x,Value.bool true))).find? (λp=>decide (p.1=a)) with
 | none=>
   rw [Yaq] at h;rw [decide_eq_false (λha=>absurd (h (a,.B true) (XK.2 ⟨a,ha,rfl⟩)) (by simp))]
 | some p=>
   have h1:=X5 h;have h2:=Ybk h;obtain ⟨x,hx,rfl⟩:=XK.1 h1;have:x=a:=by simpa using h2
   subst this;simp [hx]
def Z0t (c:Cas) (s:List Fct×List Fct) (p:DI):List Fct×List Fct:=
 let f:=Z9a c p.1 p.2
 if f.2=true/\f.1∉s.1 then (s.1++[f.1],s.2++[f.1]) else s
theorem ZgR (c:Cas) (s:List Fct×List Fct) (p:DI):(Z0t c s p).2.length<=s.2.length+1:=by
 unfold Z0t;dsimp only;split<;>simp
theorem Z6G (c:Cas):∀ (l:List DI) (s:List Fct×List Fct),(l.foldl (Z0t c) s).2.length<=s.2.length+l.length
 | [],s=>by simp
 | p :: l, s => by
   have h1:=Z6G c l (Z0t c s p);have h2:=ZgR c s p;rw [X2,Xe];omega
structure FcK where
 c:Cas
 R:Z1e
 w0:World
 b1:Nat
 b3:Nat
 r:Nat
 b9:Nat
 known:List Fct
structure Zod (K:FcK):Prop where
 d1:K.b1≠K.r/\K.b1≠K.b9
 d2:K.b3≠K.r/\K.b3≠K.b9
 d3:K.r≠K.b9
 l1:K.b1<K.w0.heap.size
 l3:K.b3<K.w0.heap.size
 lr:K.r<K.w0.heap.size
 l9:K.b9<K.w0.heap.size
 e1:Blk K.w0 K.b1 37 (JG K.c K.R)
 e3:Blk K.w0 K.b3 108 [.map (some K.r)]
 rr:∀ W,Stp [K.r,K.b9] K.w0 W->SlV [] W K.R.rv K.c.ruls
structure FcJ (K:FcK) (pre:List DI) (F:List Nat) (W:World):Prop where
 ex:∃ nv,F=K.r :: K.b9 :: ob nv/\Blk W K.b9 24 [nv]/\Row [K.r,K.b9] W K.w0.heap.size 45 nv (pre.foldl (Z0t K.c) (K.known,[])).2
 map:JL Z7n W K.r ((pre.foldl (Z0t K.c) (K.known,[])).1.map (λf=>(f,.B true)))
 stp:Stp [K.r,K.b9] K.w0 W
theorem Zeh (K:FcK) (hK:Zod K):Yld (.func (.func 46) #[] #[.pointer (some ⟨K.b1,0,none⟩),.pointer (some ⟨K.b3,0,none⟩),.pointer (some ⟨K.b9,0,none⟩)]) 46 #[.pointer (some ⟨K.b1,0,none⟩),.pointer (some ⟨K.b3,0,none⟩),.pointer (some ⟨K.b9,0,none⟩)] (FcJ K)
 (λpre d i=>i<K.c.ruls.length/\(-1000000000<=d.due/\d.due<=1000000000/\-1000000000<=d.trig.day/\d.trig.day<=1000000000)/\pre.length<=300000000000):=by
 obtain ⟨⟨d1,d1'⟩,⟨d2,d2'⟩,d3,l1,l3,lr,l9,E1,E3,fV⟩:=hK;refine ⟨rfl,?_,?_,?_⟩;rintro pre F Y ⟨⟨nv,rfl,e9,ab⟩,hm,hS⟩ b hb;have:=hS.size;simp only [Xb] at hb;rcases hb with rfl|rfl|hb
 omega;omega;exact (ab.ob_le b hb).2;rintro pre F Y Y' ⟨⟨nv,rfl,e9,ab⟩,hm,hS⟩ hT;exact ⟨⟨nv,rfl,e9.up hT,ab.up hT⟩,hm.up hT,hS.trans hT.mn⟩
 . rintro pre F d dv i Y ⟨⟨nv,rfl,e9,ab⟩,hm,hS⟩ ax ⟨hi,hb,cq⟩
   have dE:=Z6G K.c pre (K.known,[]);simp only [Xf,XN] at dE;have ay:∀ p:DI,(pre++[p]).foldl (Z0t K.c) (K.known,[])=Z0t K.c (pre.foldl (Z0t K.c) (K.known,[])) p:=λp=>by simp
   have ay:=ay (d,i);have bN:=ax.one;have hW:=hS.size;have ey:=λb hb=>(ab.ob_le b hb)
   generalize pre.foldl (Z0t K.c) (K.known,[])=s at *;refine cW5 29 Tryz.func46 ?_;refine W ?_;refine BX (Stp.refl [] Y) λb5 w1 h5 e5 hT _=>?_;replace e5:Blk w1 b5 56 (dlC d dv):=e5;have e1:=E1.ext (hS.trans hT.mn) (by simp [d1,d1']);have e3:=E3.ext (hS.trans hT.mn) (by simp [d2,d2']);have fu:=fV w1 (hS.trans hT.mn);replace e9:=e9.up hT;replace ab:=ab.up hT;replace hm:=hm.up hT;have jq:SlV [] w1 dv d.reas:=ax.ext hT (by simp) (by simp);have dK:=hT;clear hT;refine W ?_;refine CP (Stp.refl [] w1) (ZcF K.c K.R d dv i w1 fu jq hi hb) λw2 hT _=>?_;have g2:Y.heap.size<=w2.heap.size:=Xg dK.size hT.size;generalize oS:Z9a K.c d i=fo at *;obtain ⟨f,ok⟩:=fo;refine W ?_;refine Z1 Z2 rfl ?_;rintro _ w3 ⟨b7,rfl,fb,e7,aq⟩;refine SA (us:=Z3.enc f) e7 ?_;rintro _ w4 ⟨cA,e7⟩;replace hT:=hT.trans (aq.ow cA);clear aq cA;replace e1:=e1.up hT;replace e3:=e3.up hT;replace e9:=e9.up hT;replace ab:=ab.up hT;replace hm:=hm.up hT;replace dK:=dK.trans hT;clear hT e5 fu jq;have g7:Y.heap.size<=b7:=by omega
   have nG:Z0t K.c s (d,i)=if ok=true/\f∉s.1 then (s.1++[f],s.2++[f]) else s:=by unfold Z0t;rw [oS]
   rw [nG] at ay;clear nG;have skip:(¬ (ok=true/\f∉s.1))->∀ w',Stp [] w4 w'->∃ F',FcJ K (pre++[(d,i)]) F' w'/\Stp (K.r :: K.b9 :: ob nv) Y w'/\∀ b∈F',b∈K.r :: K.b9 :: ob nv\/Y.heap.size<=b:=λhn w' hT=>by
    rw [if_neg hn] at ay;exact ⟨_,⟨⟨nv,rfl,e9.up hT,by rw [ay];exact ab.up hT⟩,by rw [ay];exact hm.up hT,hS.trans ((dK.trans hT).mn)⟩,(dK.trans hT).mn,λb hb=>.inl hb⟩
   cases ok with
   | false=>
     refine QO ?_;refine WR ?_;exact .mk (skip (by simp) _ (Stp.refl _ _))
   | true=>
     refine QO ?_;refine Z9 (Z1Q (a:=f) rfl rfl hm) rfl ?_;rw [Zfj];by_cases bG:f∈s.1;rw [decide_eq_true bG];refine QO ?_;refine WR ?_;exact .mk (skip (by simp [bG]) _ (Stp.refl _ _));rw [if_pos ⟨rfl,bG⟩] at ay;rw [decide_eq_false bG];clear skip;refine QO ?_;refine Z4 (Z1P (a:=f) rfl rfl rfl hm (λp hp=>by
      obtain ⟨x,hx,rfl⟩:=XK.1 hp;exact λh=>bG (h ▸ hx))) ?_
     rintro _ w5 ⟨tH,dX⟩;have z9:K.b9<w4.heap.size:=e9.lt;replace e9:=e9.ext dX (by simp;omega);replace e7:=e7.ext dX (by simp;omega);replace ab:=ab.ext (X':=[K.r,K.b9]) dX (λb hb=>⟨by simp at hb;simp [hb],λh=>by simp at hb;have:=(ey b h).1;omega⟩) (λb hb=>.inl hb);refine QO ?_;refine APG (X:=[K.r,K.b9]) (base:=K.w0.heap.size) f ab (λb hb=>by have:=dX.size;have:=dK.size;simp at hb;omega) (by have:=dX.size;have:=dK.size;omega) rfl (by omega) (by simp only [maxLen];omega) λv1 nv' w6 rA jp bq=>?_
     replace e9:=e9.ext jp (λh=>by have:=(ey _ h).1;omega);focus repeat'(first|refine W1 ?_|omega|refine VG ?_ ?_<;>intro hg|refine VC ?_ ?_<;>intro hc)
     have nH:SlV [K.r,K.b9] w6 nv' (s.2++[f]):=rA.slv (λb hb=>by simp at hb;omega);refine Z4 (Zc (u:=nv') rfl rfl nH.cells nH.one e9 (by simp)) ?_;rintro _ w7 ⟨rB,e9⟩;refine QO ?_;refine WR ?_;have rC:=λb hb=>rA.ob_le b hb;have nI:Stp (K.r :: K.b9 :: ob nv) w4 w7:=(dX.mn.trans (jp.mono (λb hb=>by simp [hb]))).trans rB.mn;refine .mk ⟨K.r :: K.b9 :: ob nv',⟨⟨nv',rfl,e9,?_⟩,?_,?_⟩,dK.mn.trans nI,λb hb=>?_⟩;rw [ay];exact rA.ext rB (λb hb=>⟨by simp at hb;simp [hb],λh=>by simp at hb;have:=(rC b h).1;omega⟩) (λb hb=>.inl hb);rw [ay];have wH:JL Z7n w7 K.r (s.1.map (λf=>(f,Value.bool true))++[(f,Value.bool true)]):=(tH.ext jp (λh=>by have:=(ey _ h).1;omega)).ext rB (by simp;omega);rw [XQ];exact wH;exact (hS.trans dK.mn).own nI (λb hb=>by
      simp only [Xb] at hb;rcases hb with rfl|rfl|hb
      exact .inl (by simp);exact .inl (by simp);exact .inr (ey b hb).1)
     simp only [Xb] at hb ⊢;rcases hb with rfl|rfl|hb
     exact .inl (.inl rfl);exact .inl (.inr (.inl rfl));rcases bq b hb with h|h
     exact .inl (.inr (.inr h));exact .inr (by have:=dX.size;have:=dK.size;omega)
open Go Go.Eng Go.RowKit Go.Shelf Go.Sort
structure Z4Y {α:Type} (cf:α->α->Int):Prop where
 anti:∀ x y,cf x y<0↔0<cf y x
 trans:∀ x y z,cf x y<=0->cf y z<=0->cf x z<=0
theorem Z4Y.swo {α:Type} {cf:α->α->Int} (h:Z4Y cf):SWO (ltOf cf):=by
 have e:∀ x y,ltOf cf x y=decide (cf x y<0):=λ_ _=>rfl;refine ⟨λx=>?_,λx y z h1 h2=>?_,λx y z h1 h2=>?_⟩;have:=h.anti x x;rw [e];simp;omega;rw [e] at *;simp only [decide_eq_true_eq] at *;have a1:=h.anti x y;have a2:=h.anti x z;by_cases hz:cf x z<0;exact hz;have:=h.trans y z x (by omega) (by omega);omega;rw [e] at *;simp only [decide_eq_false_iff_not] at *;have a1:=h.anti x y;have a2:=h.anti y z;have a3:=h.anti x z;have:=h.trans z y x (by omega) (by omega);omega
theorem Z2S {α:Type} (f:α->Int):Z4Y (λx y:α=>cmI (f x) (f y)):=by
 have key:∀ a b:Int,(cmI a b<0↔a<b)/\(0<cmI a b↔b<a):=by
  intro a b;unfold cmI;by_cases h1:a<b;simp [h1];omega;by_cases h2:b<a;simp [h1,h2];simp [h1,h2]
 refine ⟨λx y=>?_,λx y z h1 h2=>?_⟩;rw [(key _ _).1,(key _ _).2];have a1:=key (f x) (f y);have a2:=key (f y) (f z);have a3:=key (f x) (f z)
 try dsimp only at *
 by_cases h:0<cmI (f x) (f z);have:=a3.2.1 h;have:¬ f y<f x:=λhh=>by have:=a1.2.2 hh;omega
 have:¬ f z<f y:=λhh=>by have:=a2.2.2 hh;omega
 omega;omega
theorem Z6H:∀ a:Str,ltS a a=false
 | []=>rfl
 | x :: a => by
   show (decide (x<x) || (x == x && ltS a a))=false;rw [Z6H a];simp
theorem Zb5:∀ a b:Str,ltS a b=true\/a=b\/ltS b a=true
 | [],[]=>.inr (.inl rfl)
 | [],_ :: _=>.inl rfl
 | _ :: _,[]=>.inr (.inr rfl)
 | x :: a, y :: b => by
   have e1:ltS (x :: a) (y :: b)=(decide (x<y) || (x == y && ltS a b)):=rfl;have e2:ltS (y :: b) (x :: a)=(decide (y<x) || (y == x && ltS b a)):=rfl;rw [e1,e2];rcases Nat.lt_trichotomy x.toNat y.toNat with h|h|h
   exact .inl (by simp [UInt8.lt_iff_toNat_lt,h]);obtain rfl:x=y:=UInt8.toNat_inj.1 h;rcases Zb5 a b with h|h|h
   exact .inl (by simp [h]);exact .inr (.inl (by rw [h]));exact .inr (.inr (by simp [h]));exact .inr (.inr (by simp [UInt8.lt_iff_toNat_lt,h]))
theorem Z8I:∀ a b c:Str,ltS a b=true->ltS b c=true->ltS a c=true
 | [],[],_,h,_=>by cases h
 | [],_ :: _,[],_,h=>by cases h
 | [],_ :: _,_ :: _,_,_=>rfl
 | _ :: _,[],_,h,_=>by cases h
 | _ :: _,_ :: _,[],_,h=>by cases h
 | x :: a, y :: b, z :: c, h1, h2 => by
   have e1:ltS (x :: a) (y :: b)=(decide (x<y) || (x == y && ltS a b)):=rfl;have e2:ltS (y :: b) (z :: c)=(decide (y<z) || (y == z && ltS b c)):=rfl;have e3:ltS (x :: a) (z :: c)=(decide (x<z) || (x == z && ltS a c)):=rfl;rw [e1] at h1;rw [e2] at h2;rw [e3];simp only [Yav,decide_eq_true_eq,Xl,beq_iff_eq,UInt8.lt_iff_toNat_lt] at *;rcases h1 with h1|⟨rfl,h1⟩
   rcases h2 with h2|⟨rfl,h2⟩
   exact .inl (by omega);exact .inl h1;rcases h2 with h2|⟨rfl,h2⟩
   exact .inl h2;exact .inr ⟨rfl,Z8I a b c h1 h2⟩
theorem Z2d (a b:Str):(Z42 a b<0↔ltS a b=true)/\(0<Z42 a b↔ltS b a=true):=by
 unfold Z42;cases h1:ltS a b with
 | true=>
   have h2:ltS b a=false:=by
    cases h:ltS b a with
    | false=>rfl
    | true=>have:=Z8I a b a h1 h;rw [Z6H] at this;cases this
   simp [h2]
 | false=>
   rcases Zb5 a b with h|rfl|h
   rw [h1] at h;cases h;simp [h1];have aR:a≠b:=λe=>by subst e;rw [Z6H] at h;cases h
   simp [h,aR]
theorem ZgS {α:Type} (f:α->Str):Z4Y (λx y:α=>Z42 (f x) (f y)):=by
 refine ⟨λx y=>?_,λx y z h1 h2=>?_⟩;rw [(Z2d _ _).1,(Z2d _ _).2]
 try dsimp only at *
 by_cases h:0<Z42 (f x) (f z)
 . exfalso
   have g:=(Z2d _ _).2.1 h;have n1:ltS (f y) (f x)=false:=by
    cases hh:ltS (f y) (f x) with
    | false=>rfl
    | true=>have:=(Z2d (f x) (f y)).2.2 hh;omega
   have n2:ltS (f z) (f y)=false:=by
    cases hh:ltS (f z) (f y) with
    | false=>rfl
    | true=>have:=(Z2d (f y) (f z)).2.2 hh;omega
   rcases Zb5 (f x) (f y) with a|a|a
   have:=Z8I _ _ _ g a;rw [n2] at this;cases this;rw [a] at g;rw [n2] at g;cases g;rw [n1] at a;cases a
 omega
def lx (a b:Int):Int:=if a≠0 then a else b
theorem Z4Y.lx {α:Type} {c1 c2:α->α->Int} (h1:Z4Y c1) (h2:Z4Y c2):Z4Y (λx y=>lx (c1 x y) (c2 x y)):=by
 refine ⟨λx y=>?_,λx y z a b=>?_⟩;have:=h1.anti x y;have:=h1.anti y x;have:=h2.anti x y;unfold YtipfkbkkndacjaaGreatDoor.lx
 try dsimp only
 split<;>split<;>omega
 unfold YtipfkbkkndacjaaGreatDoor.lx at *
 try dsimp only at *
 have a1:=h1.anti x y;have a1':=h1.anti y x;have a2:=h1.anti y z;have a2':=h1.anti z y;have a3:=h1.anti x z;have a3':=h1.anti z x;have t1:=h1.trans x y z;have t2:=h1.trans y z x;have t3:=h1.trans z x y;have t4:=h2.trans x y z;split at a<;>split at b<;>split<;>omega
theorem Zkx (a:Int) (l:List Int):orL (a :: l)=lx a (orL l):=by
 unfold orL lx;by_cases h:a=0<;>simp [h]
theorem Zfk (f g:Fct):Z4L f g=lx (cmI f.day g.day) (lx (cmI f.entry g.entry) (lx (Z42 f.kind g.kind) (lx (cmI f.by_ g.by_) (lx (cmI f.to_ g.to_) (cmI f.amt g.amt))))):=by
 unfold Z4L;simp only [Zkx];congr 5;unfold lx orL;by_cases h:cmI f.amt g.amt=0<;>simp [h]
theorem Z4E:Z4Y Z4L:=by
 have:Z4L=λf g:Fct=>lx (cmI f.day g.day) (lx (cmI f.entry g.entry) (lx (Z42 f.kind g.kind) (lx (cmI f.by_ g.by_) (lx (cmI f.to_ g.to_) (cmI f.amt g.amt))))):=by
  funext f g;exact Zfk f g
 rw [this];exact (Z2S _).lx ((Z2S _).lx ((ZgS _).lx ((Z2S _).lx ((Z2S _).lx (Z2S _)))))
theorem Z5Z {a b:Int} (h:lx a b=0):a=0/\b=0:=by
 unfold lx at h;split at h<;>omega
theorem Z48 {a b:Int} (h:cmI a b=0):a=b:=by
 unfold cmI at h;split at h;omega;split at h<;>omega
theorem ZgT {a b:Str} (h:Z42 a b=0):a=b:=by
 rcases Zb5 a b with g|g|g
 have:=(Z2d a b).1.2 g;omega;exact g;have:=(Z2d a b).2.2 g;omega
theorem ZgU {f g:Fct} (h:Z4L f g=0):f=g:=by
 rw [Zfk] at h;obtain ⟨h1,h⟩:=Z5Z h;obtain ⟨h2,h⟩:=Z5Z h;obtain ⟨h3,h⟩:=Z5Z h;obtain ⟨h4,h⟩:=Z5Z h;obtain ⟨h5,h6⟩:=Z5Z h;obtain ⟨a,b,c,d,e,k⟩:=f;obtain ⟨a',b',c',d',e',k'⟩:=g
 try dsimp only at *
 rw [Z48 h1,Z48 h2,ZgT h3,Z48 h4,Z48 h5,Z48 h6]
theorem Z9V {α:Type} {cf:α->α->Int} (h:Z4Y cf) (h0:∀ x y,cf x y=0->x=y):∀ {l m:List α},l.Perm m->l.Pairwise (λa b=>¬ cf b a<0)->m.Pairwise (λa b=>¬ cf b a<0)->l=m
 | [],m,hp,_,_=>(List.nil_perm.1 hp).symm
 | x :: l,[],hp,_,_=>by have:=hp.length_eq;simp at this
 | x :: l, y :: m, hp, h1, h2 => by
   rw [X3] at h1 h2;have oR:x=y:=by
    rcases Xb.1 (hp.mem_iff.1 (YaS)) with e|e
    exact e;rcases Xb.1 (hp.symm.mem_iff.1 (YaS)) with e'|e'
    exact e'.symm;have a1:=h2.1 x e;have a2:=h1.1 y e';have b1:=h.anti x y;have b2:=h.anti y x;exact h0 x y (by omega)
   subst oR;rw [Z9V h h0 hp.cons_inv h1.2 h2.2]
def Zei (s:Fct):List Fct->List Fct
 | []=>[s]
 | x :: l=>if Z4L s x<=0 then s :: x :: l else x :: Zei s l
def Z49 (l:List Fct):List Fct:=l.foldr Zei []
theorem Z6I (s:Fct):∀ l,(Zei s l).Perm (s :: l)
 | []=>YaH _
 | x :: l => by
   rw [Zei];split;exact YaH _
   . exact ((Z6I s l).cons x).trans (List.Perm.swap _ _ _)
theorem Z7d (s:Fct):∀ l:List Fct,l.Pairwise (λa b=>¬ Z4L b a<0)->(Zei s l).Pairwise (λa b=>¬ Z4L b a<0)
 | [],_=>by simp [Zei]
 | x :: l, h => by
   rw [Zei];rw [X3] at h;split;rename_i ag;refine X3.2 ⟨λy hy=>?_,X3.2 h⟩;rcases Xb.1 hy with rfl|hy
   have:=Z4E.anti y s;omega;have a1:=h.1 y hy;have a2:=Z4E.anti y x;have a3:=Z4E.anti y s;have:=Z4E.trans s x y ag (by omega);omega;rename_i ag;refine X3.2 ⟨λy hy=>?_,Z7d s l h.2⟩;rcases Xb.1 ((Z6I s l).mem_iff.1 hy) with rfl|hy
   omega;exact h.1 y hy
theorem Z0i:∀ l,(Z49 l).Perm l
 | []=>YaH _
 | x :: l=>(Z6I x _).trans ((Z0i l).cons x)
theorem Z60:∀ l,(Z49 l).Pairwise (λa b=>¬ Z4L b a<0)
 | []=>List.Pairwise.nil
 | x :: l=>Z7d x _ (Z60 l)
theorem Zky {l m:List Fct} (hp:m.Perm l) (hs:m.Pairwise (λa b=>¬ Z4L b a<0)):m=Z49 l:=Z9V Z4E (λ_ _=>ZgU) (hp.trans (Z0i l).symm) hs (Z60 l)
theorem Z7e {X:List Nat} {base:Nat} {v:Value} {zs:List Fct} {w} (h:Row X w base 45 v zs) (bI:zs.length<=400000000000) :
 CC 42 #[v,.func (.func 43) #[] #[]] w λr w'=>r=.tuple #[]/\Row X w' base 45 v (Z49 zs)/\Stp (ob v) w w':=by
 refine Calls.ret (Z9K (β:=Fct) (by decide) Tryz.sortFct Tryz.isAgg45 Tryz.sizeOf45 Z4L Z4E.swo 43 (λx y w=>Zwd x y w) h (by omega)) ?_;rintro _ w' ⟨rfl,zs',hp,hs,hr,hS⟩;rw [<- Zky hp (Yam.2 λi j hi hj dC=>hs i j hi hj dC)];exact ⟨rfl,hr,hS⟩
def ZX (c:Cas):Nat->List Fct×List Fct×List Fct
 | 0=>(c.fcts,c.fcts,[])
 | k+1=>let s:=ZX c k;let r:=(Z1z c s.2.1).foldl (Z0t c) (s.1,[]);(r.1,r.2,s.2.2++r.2)
def Z1g (c:Cas):List Fct:=Z49 (ZX c 16).2.2
theorem Z7f (c:Cas) {k:Nat} (h:(ZX c k).2.1=[]):∀ j,(ZX c (k+j)).2.2=(ZX c k).2.2/\(ZX c (k+j)).2.1=[]
 | 0=>⟨rfl,h⟩
 | j + 1 => by
   obtain ⟨h1,h2⟩:=Z7f c h j;rw [<- YaB,ZX];dsimp only;rw [h2];simp [Z1z,h1]
theorem Z61 (c:Cas) (f:Fct):∀ i,(Z4N c f i).length<=i
 | 0=>Xn _
 | i + 1 => by
   rw [Z4N,Xc];have:=Z61 c f i;split<;>simp<;>omega
theorem Z62 (c:Cas):∀ fs:List Fct,(Z1z c fs).length<=fs.length * c.ruls.length
 | []=>by simp [Z1z]
 | f :: fs => by
   have h1:=Z62 c fs;have h2:=Z61 c f c.ruls.length;unfold Z1z at h1 ⊢;rw [YaX,Xc,Xe,X9];omega
theorem ZcR {c:Cas} {f:Fct} {p:DI}:∀ i,p∈Z4N c f i->p.2<i/\p.1=(Z1l c f p.2).1/\(Z1l c f p.2).2=true
 | 0,h=>by cases h
 | i + 1, h => by
   rw [Z4N] at h;rcases Xi.1 h with h|h
   obtain ⟨h1,h2⟩:=ZcR i h;exact ⟨by omega,h2⟩;split at h;rename_i ht;simp only [Xk] at h;subst h;exact ⟨by dsimp only;omega,rfl,ht⟩;cases h
theorem ZcS {c:Cas} {fs:List Fct} {p:DI} (h:p∈Z1z c fs):∃ f∈fs,p.2<c.ruls.length/\p.1=(Z1l c f p.2).1/\(Z1l c f p.2).2=true:=by
 unfold Z1z at h;obtain ⟨f,hf,hp⟩:=YbC.1 h;exact ⟨f,hf,ZcR _ hp⟩
theorem Zfl {c:Cas} {f:Fct} {r:Int} (ho:Z7c c) (hf:Z17 f) (h:(Z1l c f r).2=true):(Z1l c f r).1.trig=f/\0<=(Z1l c f r).1.due/\(Z1l c f r).1.due<=3652058:=by
 have bM:=Zkw ho hf;have no:∀ {P:Prop},(noD.2=true)->P:=λh=>by cases h
 unfold Z1l at h ⊢;by_cases hr:¬ (0<=r/\r<=(c.ruls.length:Int) - 1);rw [if_pos hr] at h;exact no h;rw [if_neg hr] at h ⊢;have hq:c.ruls.getD r.toNat crZ∈c.ruls:=by
  have hl:r.toNat<c.ruls.length:=by omega
  simp [hl]
 have fW:=ho.due _ hq;generalize c.ruls.getD r.toNat crZ=q at *;dsimp only at h ⊢;have oQ:=Z8F (o:=opn c) bM fW;generalize Js (opn c) (evL c f) q.due=y at *;generalize Js (opn c) (evL c f) q.cnd=x at *;split at h;exact no h;split at h;exact no h;split at h;exact no h;rename_i g1 g2 g3;rw [if_neg g1,if_neg g2,if_neg g3];have hy:0<=y.1/\y.1<=3652058:=by
  rcases oQ (Decidable.not_not.1 g3) with h|h|h
  omega;omega;exact h.2
 generalize Z8t f.day y.1 c.stys=z at *;split at h;exact no h;rename_i g4;rw [if_neg g4];split at h;rename_i g5;rw [if_pos g5];exact ⟨rfl,hy⟩;rename_i g5;rw [if_neg g5];split at h;exact no h;rename_i g6;rw [if_neg g6];have:=ZO.1 (Z41 (Decidable.not_not.1 g6)).1;exact ⟨rfl,this⟩
theorem Zt0 {c:Cas} {d:Dln} {i:Nat} (ho:Z7c c) (hf:Z17 d.trig) (h:(Z9a c d i).2=true):Z17 (Z9a c d i).1:=by
 have h1:=hf.day;have h2:=ho.today;unfold Z9a at h;simp only [decide_eq_true_eq] at h;refine ⟨?_,hf.to_,hf.by_,hf.amt⟩;show 0<=max d.due d.trig.day+1/\max d.due d.trig.day+1<=3652058;omega
theorem ZcT {c:Cas} (ho:Z7c c):∀ (l:List DI) (s:List Fct×List Fct),(∀ p∈l,Z17 p.1.trig)->(∀ f∈s.2,Z17 f)->∀ f∈(l.foldl (Z0t c) s).2,Z17 f
 | [],s,_,hs=>hs
 | p :: l, s, hl, hs => by
   rw [X2];refine ZcT ho l _ (λq hq=>hl q (by simp [hq])) ?_;unfold Z0t;dsimp only;split;rename_i hc;intro f hf;rcases Xi.1 hf with h|h
   exact hs f h;simp only [Xk] at h;subst h;exact Zt0 ho (hl p (by simp)) hc.1;exact hs
theorem Zkz {c:Cas} (ho:Z7c c) {fs:List Fct} (gY:∀ f∈fs,Z17 f) (known:List Fct):∀ f∈((Z1z c fs).foldl (Z0t c) (known,[])).2,Z17 f:=
 ZcT ho _ _ (λp hp=>by
  obtain ⟨f,hf,_,he,ht⟩:=ZcS hp;rw [he,(Zfl ho (gY f hf) ht).1];exact gY f hf) (by simp)
theorem Z9W (c:Cas) (hr:c.ruls.length<=4) (fs known:List Fct):((Z1z c fs).foldl (Z0t c) (known,[])).2.length<=fs.length * 4:=by
 have h1:=Z6G c (Z1z c fs) (known,[]);have h2:=Z62 c fs;have h3:=Nat.mul_le_mul_left fs.length hr;simp only [Xf] at h1;omega
structure Z6J (c:Cas):Prop where
 ok:Z7c c
 fl:c.fcts.length<=16
 rl:c.ruls.length<=4
 fo:∀ f∈c.fcts,Z17 f
 nd:c.fcts.Nodup
theorem Z8J {c:Cas} (h:Z6J c):∀ k,(ZX c k).2.1.length<=16 * 4 ^ k/\3 * (ZX c k).2.2.length<=16 * 4 ^ (k+1)
 | 0=>⟨by simpa [ZX] using h.fl,by simp [ZX]⟩
 | k + 1 => by
   obtain ⟨h1,h2⟩:=Z8J h k;have h3:=Z9W c h.rl (ZX c k).2.1 (ZX c k).1;rw [ZX];dsimp only;rw [Xc];have e1:4 ^ (k+1)=4 ^ k * 4:=Ybo 4 k;have e2:4 ^ (k+2)=4 ^ (k+1) * 4:=Ybo 4 (k+1);constructor<;>omega
theorem Z8K {c:Cas} (h:Z6J c) {k:Nat} (hk:k<=16):(ZX c k).2.1.length<=70000000000/\(ZX c k).2.2.length<=92000000000:=by
 obtain ⟨h1,h2⟩:=Z8J h k;have e1:4 ^ k<=4 ^ 16:=Nat.pow_le_pow_right (by decide) hk;have e2:4 ^ (k+1)<=4 ^ 17:=Nat.pow_le_pow_right (by decide) (by omega);have n1:4 ^ 16=4294967296:=by decide
 have n2:4 ^ 17=17179869184:=by decide
 constructor<;>omega
theorem Z5n {c:Cas} (h:Z6J c):∀ k,(∀ f∈(ZX c k).2.1,Z17 f)/\(∀ f∈(ZX c k).2.2,Z17 f)
 | 0=>⟨h.fo,by simp [ZX]⟩
 | k + 1 => by
   obtain ⟨h1,h2⟩:=Z5n h k;have h3:=Zkz h.ok h1 (ZX c k).1;rw [ZX];dsimp only;exact ⟨h3,λf hf=>(Xi.1 hf).elim (h2 f) (h3 f)⟩
end Go.Proofs.YtipfkbkkndacjaaGreatDoor
