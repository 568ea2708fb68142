/-
Contracts and plain laws, merged out of own texts.
-/
import Derived.Test.YtipfkbkkndacjaaGreatDoorM4
import Derived.RangeFuncBox
import Derived.RangeFuncLeaves
import Derived.RangeFuncNested
import Derived.RangeFuncBound
import Derived.RangeFuncCalls
import Derived.Shelf.Abstract
import Derived.Shelf.RegionOpen
import Derived.BigRegionIn
import Derived.WalkKit
import Derived.OwnWalkIn
import Derived.TacticsInMore
import Derived.LoopNIn
import Derived.LoopIn
import Derived.ChangeKeysEq
set_option linter.unusedVariables false
set_option linter.unusedSimpArgs false
set_option maxHeartbeats 4000000
set_option maxRecDepth 20000
namespace Go.Eng
open Go Go.RowKit Go.Proofs
variable {P:Program} {n:Nat} {Q:Exit→Act→World→Prop} {e:Env} {w w0:World} {rest:List Oper} {ops:Array Oper} {ty ty':TypeId} {pos pos':String} {af af':Array Edge}
theorem Z6.slv1 {α:Type} [Z7 α] {X:List Nat} {T:Nat} {cs:List Value} {v:Value} {w':World} {y:α} (h:Z6 w T 1 cs v w') (hX:∀ b∈X,b<w.heap.size) (hr:Z7.rep X w y cs):SlV X w' v [y]:=by
 obtain ⟨b,rfl,hb,hk,hT⟩:=h;refine ⟨some ⟨b,0,none⟩,1,rfl,Xn _,by simp [maxLen],by simp,fun i hi=>?_⟩;obtain rfl:i=0:=by simpa using hi
 refine ⟨b,0,cs,rfl,hk.lt,fun hb'=>by have:=hX b hb';omega,Z7.ext hr hT (by simp) (fun c hc=>.inl hc),fun j u hu=>?_⟩;simpa using hk.cell hu
theorem APG {α:Type} [Z7 α] {X:List Nat} {T t bytes d1 d2 base:Nat} {x y:Operand} {v z0 u:Value} {cs:List Value} {xs:List α} [ht:Und P t (.slice T)] [hk:Siz P T (Z7.k α)] [hb:Byt P T bytes] [hz:Zer P T z0] (z:α) (hr:Row X w base T v xs) (hX:∀ b∈X,b<w.heap.size) (hbs:base≤w.heap.size)
 (hrep:Z7.rep (ob v++X) w z cs) (hl:(xs.length+1) * bytes≤140737488355328) (hml:xs.length+1≤maxLen)
 (k:∀ v1 v' w',Row X w' base T v' (xs++[z])→Stp (ob v) w w'→(∀ b∈ob v',b∈ob v∨w.heap.size≤b)→WL P n ops Q rest ((d2,v') :: (d1,v1) :: e) w')
 (hx:ev e x=some v:=by exact rfl) (hy:Z0m e [(0,y)]=some [(0,u)]:=by exact rfl) (hrun:∀ w:World,(Instr.buildSlice t 1 #[(0,u)]).run P w=.ok (.slice (some ⟨w.heap.size,0,none⟩) 1 1) (w.alloc (.cells cs.toArray T)):=by intro w;kernel_rfl)
 (hx':∀ v1,ev ((d1,v1) :: e) x=some v:=by intro _;exact rfl) (hy':∀ v1,ev ((d1,v1) :: e) (.tmp d1)=some v1:=by intro _;exact rfl)
 (hzs:z0.cells.size=Z7.k α:=by exact rfl) (hpos:0<Z7.k α:=by decide) (h1:Nat.blt d1 n=true:=by exact rfl) (h2:Nat.blt d2 n=true:=by exact rfl) :
 WL P n ops Q (⟨some d1,.buildSlice t 1 #[(0,y)],ty,pos,af,none⟩ :: ⟨some d2,.call { callee:=.builtin .append,args:=#[x,.tmp d1],argTypes:=#[t,t] },ty',pos',af',none⟩ :: rest) e w:=by
 refine Z1 (Z0 (l:=[(0,y)]) (vs:=[(0,u)]) hy hrun) h1 ?_;intro v1 w1 hN;have hT:Stp [] w w1:=hN.choose_spec.2.2.2;have hbv:SlV (ob v++X) w1 v1 [z]:=hN.slv1 (fun b hb=>by
  rcases Xh.1 hb with h|h
  exact (hr.ob_le b h).2;exact hX b h) hrep
 refine Z1 (ZW (X:=X) (base:=base) hzs hpos (hx' v1) (hy' v1) (hr.up hT) hbv (by simpa using hl) (by simpa using hml) (Xg hbs hT.size)) h2 ?_;rintro v' w2 ⟨g1,g2,g3⟩;exact k v1 v' w2 g1 (hT.mn.trans g2) (fun b hb=>(g3 b hb).imp id (Xg hT.size))
end Go.Eng
namespace Go.Proofs.YtipfkbkkndacjaaGreatDoor
open Go Go.Eng Go.RowKit
theorem ZaP {P:Program} {f:FuncId} {fn:Func} {c:Code} {args:Array Value} {w} {R:Ending→World→Prop} {n:Nat} (hf:P.funcs[f]?=some fn) (hb:fn.body=some c)
 (hn:fn.ntmps=n) (hs:Nat.ble args.size n=true) (h:WC P n c (bodyPostM Fence.wide 5 P fn R) (Z4L args.toList 0) w):Calls P f args w R:=by
 refine (callsIn_wide (n:=5)).1 (callsIn_of_wp_marks hf hb trivial ((wpIn_wide (n:=5)).2 (h.h _ ?_)));rw [hn];have hle:args.size≤n:=XU hs;refine ⟨rfl,by simp;omega,fun t v hv=>?_⟩;obtain ⟨_,h2⟩:=Z3p _ _ _ _ hv;simp only [Nat.sub_zero] at h2;have hlt:t<args.size:=by
  have:=(Xw.1 h2).1;simpa using this
 have:args[t]?=some v:=by simpa using h2
 have h3:(args++Array.replicate (n - args.size) undef)[t]?=some v:=by
  rw [XT hlt];exact this
 simp [Xz,h3]
theorem Zgo {P:Program} {n:Nat} {fn:Func} {R:Ending→World→Prop} {e:Env} {w:World} {D t u:Nat} {v x:Value} (hr:fn.results=#[.tmp t,.tmp u]) (ht:Eng.look e t=some v) (hu:Eng.look e u=some x) (hd:w.heap[D]?=some (.deferred (some [])))
 (h:R (.returned (.tuple #[v,x])) (w.putObj D (.deferred none))):WQD [{ target:=.collected D,args:=#[] }] n (bodyPostM Fence.wide 5 P fn R) .ret e w:=by
 refine ⟨fun a ha=>?_⟩;show LeavesInM Fence.wide 5 P fn (Z1q _ a).tmps R (Z1q _ a).defers .returning w;have hdd:(Z1q [{ target:=.collected D,args:=#[] }] a).defers=[{ target:=.collected D,args:=#[] }]:=by unfold Z1q;rw [ha.defers];rfl
 rw [hdd];refine ⟨by simp,.inl ⟨D,_,rfl,run_takeDeferred hd,?_⟩⟩;refine ⟨.tuple #[v,x],?_,h⟩;have h1:=ha.vals t v ht;have h2:=ha.vals u x hu;have h3:(Z1q [{ target:=.collected D,args:=#[] }] a).tmps=a.tmps:=rfl;rw [Xz] at h1 h2;rw [h3];simp [results,hr,h1,h2]
theorem ZaQ (lv:Value) (l:List Rtn) (sent:Int) (w) (hl:SlV [] w lv l):CC 202 #[lv,.I sent] w fun r w'=>∃ bL bS,r=.func (.func 258) #[] #[pQ bS,pQ bL]∧
 Blk w' bS 3 [.I sent]∧Blk w' bL 76 [lv]∧w.heap.size≤bL∧w.heap.size≤bS∧Stp [] w w':=by
 refine cW2 6 Tryz.func202 ?_;refine W ?_;refine Z1 (Z9Y rfl hl) rfl ?_;rintro _ w1 ⟨bL,rfl,hL,kL,hS⟩;have z1:=hS.size;refine BX hS fun bS w2 hS2 kS hT hS=>?_;replace kS:Blk w2 bS 3 [.I sent]:=kS;replace kL:=kL.up hT;refine RT ?_;exact ⟨bL,bS,rfl,kS,kL,hL,by omega,hS⟩
theorem Zka {l:List Rtn} {sent:Int} (h:l.length≤32):(Z4y l sent).length≤66:=by
 have hdX:Z4y l sent=Z3i (Z6m l sent):=rfl;have h2:=Z8b l sent;have h1:(Z4y l sent).length≤(Z6m l sent).length:=by
  rw [hdX];unfold Z3i Lib.compact Lib.compactUpTo;rw [Xs];refine Xg (X0 _ _) ?_;simp
 omega
theorem Zkb {l:List Rtn} {sent:Int} (h:l.length≤32):(Z8M l sent).length≤66:=by
 have:=Zka (sent:=sent) h;unfold Z8M;rw [Xs,List.length_zip];omega
theorem Zgp (l:List Rtn) (crrs:List Crr) (s:AlS) (x:Spn):(Z0A l crrs s x).out.length≤s.out.length+1:=by
 unfold Z0A;dsimp only;split;omega;have ht:(if Z1w l crrs x.1<s.least then (⟨Z1w l crrs x.1,false,[]⟩:AlS) else s).out.length≤s.out.length:=by
  split<;>simp
 generalize (if Z1w l crrs x.1<s.least then (⟨Z1w l crrs x.1,false,[]⟩:AlS) else s)=t at *;split;split<;>simp<;>omega
 simp;omega
theorem Z9s (l:List Rtn) (crrs:List Crr):∀ (L:List Spn) (s:AlS),(L.foldl (Z0A l crrs) s).out.length≤s.out.length+L.length
 | [],s=>by simp
 | x :: L, s => by
   have h1:=Z9s l crrs L (Z0A l crrs s x);have h2:=Zgp l crrs s x;rw [X1,Xe];omega
theorem Zkc (l:List Rtn) (crrs:List Crr) (s:AlS) (x:Spn) (h:¬ s.least<Z1w l crrs x.1) {t:AlS} (ht:t=if Z1w l crrs x.1<s.least then ⟨Z1w l crrs x.1,false,[]⟩ else s) :
 (t.out=[]→Z0A l crrs s x={ t with out:=[x] })∧(∀ M u,t.out=M++[u]→Z0A l crrs s x={ t with out:=if u.2=x.1 - 1 then M++[(u.1,x.2)] else M++[u]++[x] }):=by
 unfold Z0A;dsimp only;rw [if_neg h,← ht];clear ht;constructor;intro h0;rw [h0];rfl;intro M u h0;rw [h0];simp only [List.getLast?_append,List.getLast?_singleton,Option.some_or];split<;>simp
structure AlJ (w0:World) (l:List Rtn) (crrs:List Crr) (b8 b9 b10:Nat) (pre:List Spn) (F:List Nat) (W:World):Prop where
 ex:∃ ov,F=b8 :: b9 :: b10 :: ob ov∧Blk W b10 27 [ov]∧Row [] W w0.heap.size 75 ov (pre.foldl (Z0A l crrs) ⟨Z1w l crrs (-1),true,[]⟩).out
 k8:Blk W b8 3 [.I (pre.foldl (Z0A l crrs) ⟨Z1w l crrs (-1),true,[]⟩).least]
 k9:Blk W b9 4 [.B (pre.foldl (Z0A l crrs) ⟨Z1w l crrs (-1),true,[]⟩).never]
 stp:Stp [b8,b9,b10] w0 W
theorem ZaR {β:Type} [Z3 β] {X S:List Nat} {w w':World} {base T:Nat} {v:Value} {xs:List β} (h:Row X w base T v xs) (hS:Stp S w w') (hn:∀ b∈S,b∉ob v):Row X w' base T v xs:=
 Z20 (Row.ext (Z20 (X':=S) h) hS (fun b hb=>⟨hb,hn b hb⟩) (fun b hb=>.inl hb))
theorem AlJ.stay {w0 W W':World} {l:List Rtn} {crrs:List Crr} {b8 b9 b10:Nat} {pre:List Spn} {F S:List Nat} (h:AlJ w0 l crrs b8 b9 b10 pre F W) (hS:Stp S W W') (hd:∀ b∈S,w0.heap.size≤b∧b∉F):AlJ w0 l crrs b8 b9 b10 pre F W':=by
 obtain ⟨⟨ov,rfl,k10,hr⟩,k8,k9,hst⟩:=h;exact ⟨⟨ov,rfl,k10.ext hS (fun h=>(hd _ h).2 (by simp)),ZaR hr hS (fun b hb h=>(hd b hb).2 (by simp [h]))⟩,k8.ext hS (fun h=>(hd _ h).2 (by simp)),k9.ext hS (fun h=>(hd _ h).2 (by simp)),hst.own hS (fun b hb=>.inr (hd b hb).1)⟩
theorem Zcr (lv cv:Value) (l:List Rtn) (crrs:List Crr) (sent:Int) (w) (hl:SlV [] w lv l) (hc:SlV [] w cv crrs) (ho:Znm l crrs) (hsn:0≤sent∧sent≤3652058) :
 CC 127 #[lv,cv,.I sent] w fun v w'=>∃ ov,v=.tuple #[ov,.B (Zgm l crrs sent).never]∧SlV [] w' ov (Zgm l crrs sent).out∧Stp [] w w':=by
 refine ZaP (n:=62) Tryz.func127 rfl rfl rfl ?_;refine W ?_;refine Z1 (Z9Y rfl hl) rfl ?_;rintro _ w1 ⟨b3,rfl,h3,e3,hS⟩;refine Z1 (Z9Y rfl hc) rfl ?_;rintro _ w2 ⟨b4,rfl,h4,e4,hT⟩;replace e3:=e3.up hT;replace hS:=hS.trans hT;clear hT;refine W ?_;refine CP hS (Z89 lv cv l crrs (-1) _ (hl.up hS) (hc.up hS) ho.len ho.crr ho.tol) fun w3 hT hS=>?_;replace e3:=e3.up hT;replace e4:=e4.up hT;clear hT;refine Z1 Z2 rfl ?_;rintro _ w4 ⟨b8,rfl,hb8,e8,hT⟩;replace e8:Blk w4 b8 3 [.I 0]:=e8;refine S1 e8 ?_;rintro _ w5 ⟨hT2,e8⟩;replace hT:=hT.ow hT2;have l3:=e3.lt;have l4:=e4.lt;replace e3:=e3.up hT;replace e4:=e4.up hT;have g8:w.heap.size≤b8:=Xg hS.size hb8;replace hS:=hS.trans hT;clear hT hT2;refine W ?_;refine Z1 Z2 rfl ?_;rintro _ w6 ⟨b9,rfl,hb9,e9,hT⟩;replace e9:Blk w6 b9 4 [.B false]:=e9;refine S1 e9 ?_;rintro _ w7 ⟨hT2,e9⟩;replace hT:=hT.ow hT2;have l8:=e8.lt;replace e3:=e3.up hT;replace e4:=e4.up hT;replace e8:=e8.up hT;replace hS:=hS.trans hT;clear hT hT2;refine W ?_;refine Z1 Z2 rfl ?_;rintro _ w8 ⟨b10,rfl,hb10,e10,hT⟩;have l9:=e9.lt;replace e3:=e3.up hT;replace e4:=e4.up hT;replace e8:=e8.up hT;replace e9:=e9.up hT;replace hS:=hS.trans hT;clear hT;refine W ?_;refine CG (ZaQ lv l sent _ (hl.up hS)) ?_;rintro _ w9 ⟨bL,bS,rfl,kS,kL,gL,gS,hT⟩;have l10:=e10.lt;have z8:=hS.size;replace e3:=e3.up hT;replace e4:=e4.up hT;replace e8:=e8.up hT;replace e9:=e9.up hT;replace e10:=e10.up hT;replace hS:=hS.trans hT;clear hT;refine W ?_;replace e10:Blk w9 b10 27 [.N]:=e10;have q8:=e8.lt;have q9:=e9.lt;have q10:=e10.lt;refine Zl2 [(3,pQ b3),(4,pQ b4),(8,pQ b8),(9,pQ b9),(10,pQ b10),(19,.func (.func 258) #[] #[pQ bS,pQ bL])] ⟨rfl,rfl,rfl,rfl,rfl,rfl,trivial⟩ ?_;refine Zk3 (α:=Spn) (E:=fun x b=>[(3,pQ b3),(4,pQ b4),(8,pQ b8),(9,pQ b9),(10,pQ b10),(11,pQ b)]) (T:=75) (cs:=Z3.enc) (fun x=>aG x) rfl rfl (Z8M l sent) (AlJ w9 l crrs b8 b9 b10) [b8,b9,b10] ?_ ?_ ?_ ?_ ?_ ?_ ?_;rintro pre F W ⟨⟨ov,rfl,k10,hr⟩,k8,k9,hst⟩ b hb;simp only [Xb] at hb;rcases hb with rfl|rfl|rfl|hb
 exact k8.lt;exact k9.lt;exact k10.lt;exact (hr.ob_le b hb).2;exact fun pre F W W' S h hS hd=>h.stay hS hd;exact ⟨⟨.N,rfl,e10,Row.nil⟩,e8,e9,Stp.refl _ _⟩;intro l' Y hSY hl' hly;have zY:=hSY.size;have zw:=hS.size;have kSl:=kS.lt;have kLl:=kL.lt;refine ZaO l' _ Y bS bL lv l sent crrs ho hsn (kS.up hSY) (kL.up hSY) (hl.ext (hS.trans hSY) (by simp) (fun b hb=>.inr (by
  simp only [Xb,Xj,or_false] at hb;omega))) (fun b hb=>by
  simp only [Xb,Xj,or_false] at hb;omega) (by simp only [Xb,Xj,or_false];omega) (by simp only [Xb,Xj,or_false];omega)
 intro l' x Y Z hZo hk;refine ZT rfl (fun a w h=>hZo a w h) ?_;refine Z1 Z2 rfl ?_;rintro _ Ya ⟨b,rfl,hb,kb,hT⟩;refine SA (us:=Z3.enc x) kb ?_;rintro _ Yb ⟨hT2,kb⟩;refine W ?_;exact Zl3 [(3,pQ b3),(4,pQ b4),(8,pQ b8),(9,pQ b9),(10,pQ b10),(11,pQ b)] ⟨rfl,rfl,rfl,rfl,rfl,rfl,trivial⟩ (hk b Yb hb kb (hT.ow hT2));intro l' pre x b11 F Y Z hJ hpre k11 hbF hbw hZo hZ;obtain ⟨⟨ov,rfl,k10,hr⟩,k8,k9,hst⟩:=hJ;have hxm:x∈Z8M l sent:=hpre.subset (by simp);have hxr:=Z8a hsn hxm;have hpl:pre.length≤66:=by
  have h1:=hpre.length_le;have h2:=Zkb (sent:=sent) ho.len;rw [Xc] at h1;omega
 have hol:=Z9s l crrs pre ⟨Z1w l crrs (-1),true,[]⟩;have hfs:(pre++[x]).foldl (Z0A l crrs) ⟨Z1w l crrs (-1),true,[]⟩=Z0A l crrs (pre.foldl (Z0A l crrs) ⟨Z1w l crrs (-1),true,[]⟩) x:=by simp
 have hSY:Stp [] w Y:=hS.own hst (fun b hb=>by simp at hb;rcases hb with rfl|rfl|rfl<;>exact .inr (by omega));have f3:=e3.ext hst (by simp;omega);have f4:=e4.ext hst (by simp;omega);have hor:=fun b hb=>hr.ob_le b hb;have zst:=hst.size;simp only [Xf] at hol;generalize pre.foldl (Z0A l crrs) ⟨Z1w l crrs (-1),true,[]⟩=s at *;obtain ⟨least,never,out⟩:=s;dsimp only at k8 k9 hr hol;have l8y:=k8.lt;have l9y:=k9.lt;have l10y:=k10.lt;focus repeat'(first|refine W1 ?_|refine Jp ?_|refine JP ?_|refine Ja ?_|refine ZT rfl (fun a w h=>hZo a w h) ?_|refine Jq ?_|refine Jr ?_|refine Jj rfl ?_|refine J6 rfl ?_|refine ZC ?_|refine Zx ?_|refine ZK rfl ?_|refine Ji ?_)
 refine CP (Stp.refl [] Y) (Z89 lv cv l crrs x.1 _ (hl.up hSY) (hc.up hSY) ho.len ho.crr ho.tol) fun Y1 hT _=>?_;replace k8:=k8.up hT;replace k9:=k9.up hT;replace k10:=k10.up hT;replace k11:=k11.up hT;replace f3:=f3.up hT;replace f4:=f4.up hT;replace hr:=hr.up hT;have hstT:=hst.trans hT.mn;have hstep:=fun h=>@Zkc l crrs ⟨least,never,out⟩ x h _ rfl;have hsame:least<Z1w l crrs x.1→Z0A l crrs ⟨least,never,out⟩ x=⟨least,never,out⟩:=fun h=>by unfold Z0A;dsimp only;rw [if_pos h]
 dsimp only at hstep hsame;generalize Z1w l crrs x.1=E at *;by_cases h1:least<E;rw [hsame h1] at hfs;focus repeat'(first|refine W1 ?_|refine Jp ?_|refine JP ?_|refine Ja ?_|refine ZT rfl (fun a w h=>hZo a w h) ?_|refine Jq ?_|refine Jr ?_|refine Jj rfl ?_|refine J6 rfl ?_|refine ZC ?_|refine Zx ?_|refine ZK rfl ?_|refine Ji ?_|omega|(refine Z3V rfl ?_ ?_<;>intro hc))
 exact ⟨fun a ha=>hZ a _ Y1 ⟨⟨ov,rfl,k10,by rw [hfs];exact hr⟩,by rw [hfs];exact k8,by rw [hfs];exact k9,hstT⟩ hT.mn (fun b hb=>.inl hb)⟩;have hstep:=hstep h1;clear hsame f3 f4;generalize hs':Z0A l crrs ⟨least,never,out⟩ x=s' at *;generalize ht:(if E<least then (⟨E,false,[]⟩:AlS) else ⟨least,never,out⟩)=t at *;have htl:t.out.length≤66:=by rw [← ht];split<;>simp<;>omega
 focus repeat'(first|refine W1 ?_|refine Jp ?_|refine JP ?_|refine Ja ?_|refine ZT rfl (fun a w h=>hZo a w h) ?_|refine Jq ?_|refine Jr ?_|refine Jj rfl ?_|refine J6 rfl ?_|refine ZC ?_|refine Zx ?_|refine ZK rfl ?_|refine Ji ?_)
 refine Z3V rfl (fun hc=>absurd hc h1) (fun hc=>?_);focus repeat'(first|refine W1 ?_|refine Jp ?_|refine JP ?_|refine Ja ?_|refine ZT rfl (fun a w h=>hZo a w h) ?_|refine Jq ?_|refine Jr ?_|refine Jj rfl ?_|refine J6 rfl ?_|refine ZC ?_|refine Zx ?_|refine ZK rfl ?_|refine Ji ?_)
 refine Zk2 (σ:=Value) (fun _=>[(10,pQ b10),(11,pQ b11)]) (fun ov' W'=>Blk W' b8 3 [.I t.least]∧Blk W' b9 4 [.B t.never]∧Blk W' b10 27 [ov']∧Row [] W' w9.heap.size 75 ov' t.out∧Blk W' b11 75 (Z3.enc x)∧Stp [b8,b9,b10] Y1 W'∧∀ b∈ob ov',b∈ob ov) ?_ ?_;by_cases h2:E<least;rw [if_pos h2] at ht;subst ht;focus repeat'(first|refine W1 ?_|refine Jp ?_|refine JP ?_|refine Ja ?_|refine ZT rfl (fun a w h=>hZo a w h) ?_|refine Jq ?_|refine Jr ?_|refine Jj rfl ?_|refine J6 rfl ?_|refine ZC ?_|refine Zx ?_|refine ZK rfl ?_|refine Ji ?_|omega|(refine Z3V rfl ?_ ?_<;>intro hc))
 refine S1 (u:=.I E) k8 ?_;rintro _ Y2 ⟨hA,k8⟩;replace k9:=k9.ext hA (by simp;omega);replace k10:=k10.ext hA (by simp;omega);replace k11:=k11.ext hA (fun h=>hbF (by simp at h;subst h;simp));refine S1 (u:=.B false) k9 ?_;rintro _ Y3 ⟨hB,k9⟩;replace k8:=k8.ext hB (by simp;omega);replace k10:=k10.ext hB (by simp;omega);replace k11:=k11.ext hB (fun h=>hbF (by simp at h;subst h;simp));refine S1 (u:=.N) k10 ?_;rintro _ Y4 ⟨hC,k10⟩;replace k8:=k8.ext hC (by simp;omega);replace k9:=k9.ext hC (by simp;omega);replace k11:=k11.ext hC (fun h=>hbF (by simp at h;subst h;simp));focus repeat'(first|refine W1 ?_|refine Jp ?_|refine JP ?_|refine Ja ?_|refine ZT rfl (fun a w h=>hZo a w h) ?_|refine Jq ?_|refine Jr ?_|refine Jj rfl ?_|refine J6 rfl ?_|refine ZC ?_|refine Zx ?_|refine ZK rfl ?_|refine Ji ?_)
 exact QT (.N) ⟨k8,k9,k10,Row.nil,k11,(hA.mn.trans hB.mn).trans hC.mn,by simp [ob]⟩;rw [if_neg h2] at ht;subst ht;focus repeat'(first|refine W1 ?_|refine Jp ?_|refine JP ?_|refine Ja ?_|refine ZT rfl (fun a w h=>hZo a w h) ?_|refine Jq ?_|refine Jr ?_|refine Jj rfl ?_|refine J6 rfl ?_|refine ZC ?_|refine Zx ?_|refine ZK rfl ?_|refine Ji ?_|omega|(refine Z3V rfl ?_ ?_<;>intro hc))
 exact QT ov ⟨k8,k9,k10,hr,k11,Stp.refl _ _,fun b hb=>hb⟩;clear k8 k9 k10 k11 hr ht;rintro ov' Y2 ⟨k8,k9,k10,hr,k11,hA,hov⟩;have zA:=hA.size;have zT:=hT.size;have hor':=fun b hb=>hr.ob_le b hb;have hsr:SlV [] Y2 ov' t.out:=hr.slv (by simp);obtain ⟨hq1,hq2⟩:=hstep;obtain ⟨tl,tn,oo⟩:=t;dsimp only at k8 k9 hr hsr hor' hq1 hq2 htl;have hb8n:b8∉ob ov':=fun h=>by have:=hor' _ h;omega
 have hb9n:b9∉ob ov':=fun h=>by have:=hor' _ h;omega
 have hb10n:b10∉ob ov':=fun h=>by have:=hor' _ h;omega
 have hb11n:b11∉ob ov':=fun h=>hbF (by have:=hov _ h;simp [this])
 have fin:∀ (nv:Value) (W':World),Blk W' b8 3 [.I s'.least]→Blk W' b9 4 [.B s'.never]→Blk W' b10 27 [nv]→Row [] W' w9.heap.size 75 nv s'.out→Stp (b10 :: ob ov') Y2 W'→(∀ b∈ob nv,b∈ob ov'∨Y2.heap.size≤b)→∀ a,Z .normal a W':=fun nv W' g8 g9 g10 gr gs gn a=>
  hZ a (b8 :: b9 :: b10 :: ob nv) W' ⟨⟨nv,rfl,g10,by rw [hfs];exact gr⟩,by rw [hfs];exact g8,by rw [hfs];exact g9,(hstT.trans hA).own gs (fun b hb=>by
   rcases Xb.1 hb with rfl|hb
   exact .inl (by simp);exact .inr (hor' b hb).1)⟩ ((((hT.mono (S':=b8 :: b9 :: b10 :: ob ov) (by simp)).trans hA.mn).trans (gs.mono (fun b hb=>by
   rcases Xb.1 hb with rfl|hb
   simp;simp [hov b hb])))) (fun b hb=>by
   simp only [Xb] at hb ⊢;rcases hb with rfl|rfl|rfl|hb
   exact .inl (.inl rfl);exact .inl (.inr (.inl rfl));exact .inl (.inr (.inr (.inl rfl)));rcases gn b hb with h|h
   exact .inl (.inr (.inr (.inr (hov b h))));exact .inr (by omega))
 clear hA hov hor hstT;have app:∀ (Y3:World),Stp [] Y2 Y3→s'=⟨tl,tn,oo++[x]⟩→∀ (nv:Value) (Y4 Y5:World),Row [] Y4 w9.heap.size 75 nv (oo++[x])→Stp (ob ov') Y3 Y4→(∀ b∈ob nv,b∈ob ov'∨Y3.heap.size≤b)→Stp [b10] Y4 Y5→Blk Y5 b10 27 [nv]→∀ a,Z .normal a Y5:=fun Y3 g1 gs nv Y4 Y5 g2 g3 g4 g5 g6 a=>by
  subst gs;have q8:=(((k8.up g1).ext g3 hb8n).ext g5 (by simp;omega))
  have q9:=(((k9.up g1).ext g3 hb9n).ext g5 (by simp;omega))
  have hn10:b10∉ob nv:=fun h=>by
   rcases g4 _ h with h|h
   exact hb10n h;have:=g1.size;omega
  exact fin nv Y5 q8 q9 g6 (ZaR g2 g5 (fun b hb h=>hn10 (by simp at hb;subst hb;exact h))) ((g1.mn.trans (g3.mono (fun b hb=>by simp [hb]))).trans g5.mn) (fun b hb=>(g4 b hb).imp id (fun h=>by have:=g1.size;omega)) a
 focus repeat'(first|refine W1 ?_|refine Jp ?_|refine JP ?_|refine Ja ?_|refine ZT rfl (fun a w h=>hZo a w h) ?_|refine Jq ?_|refine Jr ?_|refine Jj rfl ?_|refine J6 rfl ?_|refine ZC ?_|refine Zx ?_|refine ZK rfl ?_|refine Ji ?_)
 rcases Yam oo with rfl|⟨M,u,rfl⟩
 have hs2:=hq1 rfl;refine Z9r 14 [] [] [(0,0),(1,0),(2,0),(3,1),(4,0),(5,0),(6,0),(7,0),(8,1),(9,0),(10,1),(11,0),(12,0),(13,0)] rfl mixed (by kernel_rfl) (by kernel_rfl) (by kernel_rfl) rfl (fun w1 hS1=>?_);replace k10:=k10.up hS1;replace k11:=k11.up hS1;replace hr:=hr.up hS1;refine D ?_;focus repeat'(first|refine W1 ?_|refine Jp ?_|refine JP ?_|refine Ja ?_|refine ZT rfl (fun a w h=>hZo a w h) ?_|refine Jq ?_|refine Jr ?_|refine Jj rfl ?_|refine J6 rfl ?_|refine ZC ?_|refine Zx ?_|refine ZK rfl ?_|refine Ji ?_)
 refine APG (X:=[]) (base:=w9.heap.size) x hr (by simp) (by have:=hS1.size;omega) rfl (by simp) (by simp [maxLen]) fun v1 nv Y4 hr4 hT4 hob4=>?_
 replace k10:=k10.ext hT4 hb10n;focus repeat'(first|refine W1 ?_|refine Jp ?_|refine JP ?_|refine Ja ?_|refine ZT rfl (fun a w h=>hZo a w h) ?_|refine Jq ?_|refine Jr ?_|refine Jj rfl ?_|refine J6 rfl ?_|refine ZC ?_|refine Zx ?_|refine ZK rfl ?_|refine Ji ?_)
 have hsl4:SlV [] Y4 nv ([]++[x]):=hr4.slv (by simp);refine Z5 (Za (u:=nv) rfl rfl hsl4.cells hsl4.one k10 (by simp)) ?_;rintro _ Y5 ⟨hT5,k10⟩;focus repeat'(first|refine W1 ?_|refine Jp ?_|refine JP ?_|refine Ja ?_|refine ZT rfl (fun a w h=>hZo a w h) ?_|refine Jq ?_|refine Jr ?_|refine Jj rfl ?_|refine J6 rfl ?_|refine ZC ?_|refine Zx ?_|refine ZK rfl ?_|refine Ji ?_)
 exact ⟨fun a ha=>app w1 hS1 hs2 nv Y4 Y5 hr4 hT4 hob4 hT5 k10 a⟩;rw [Yan] at *;have hs2:=hq2 M u rfl;have hidx:((M++[u]).length:Int) - 1=(M.length:Nat):=by simp
 have hib:M.length<(M++[u]).length:=by simp
 have hel:(M++[u])[M.length]=u:=by simp
 have hlen2:0<((M++[u]).length:Int):=by simp
 refine Z9r 14 [] [] [(0,0),(1,0),(2,0),(3,1),(4,0),(5,0),(6,0),(7,0),(8,1),(9,0),(10,1),(11,0),(12,0),(13,0)] rfl mixed (by kernel_rfl) (by kernel_rfl) (by kernel_rfl) rfl (fun w1 hS1=>?_);replace k10:=k10.up hS1;replace k11:=k11.up hS1;replace hr:=hr.up hS1;replace hsr:=hsr.up hS1;refine QD ?_;rw [hel];focus repeat'(first|refine W1 ?_|refine Jp ?_|refine JP ?_|refine Ja ?_|refine ZT rfl (fun a w h=>hZo a w h) ?_|refine Jq ?_|refine Jr ?_|refine Jj rfl ?_|refine J6 rfl ?_|refine ZC ?_|refine Zx ?_|refine ZK rfl ?_|refine Ji ?_)
 refine Z3V rfl (fun hc=>?_) (fun hc=>?_);rw [if_pos hc] at hs2;focus repeat'(first|refine W1 ?_|refine Jp ?_|refine JP ?_|refine Ja ?_|refine ZT rfl (fun a w h=>hZo a w h) ?_|refine Jq ?_|refine Jr ?_|refine Jj rfl ?_|refine J6 rfl ?_|refine ZC ?_|refine Zx ?_|refine ZK rfl ?_|refine Ji ?_)
 refine Z5 (Z49 (i:=M.length) (y':=(u.1,x.2)) (u:=.I x.2) rfl rfl rfl rfl rfl hr hib (by decide) (by rw [hel];rfl)) ?_;rintro _ Y5 ⟨hr5,hT5⟩;focus repeat'(first|refine W1 ?_|refine Jp ?_|refine JP ?_|refine Ja ?_|refine ZT rfl (fun a w h=>hZo a w h) ?_|refine Jq ?_|refine Jr ?_|refine Jj rfl ?_|refine J6 rfl ?_|refine ZC ?_|refine Zx ?_|refine ZK rfl ?_|refine Ji ?_)
 rw [show (M++[u]).set M.length (u.1,x.2)=M++[(u.1,x.2)] by simp] at hr5;have hz8:=(k8.up hS1).ext hT5 hb8n;have hz9:=(k9.up hS1).ext hT5 hb9n;have hz10:=k10.ext hT5 hb10n;refine ⟨fun a ha=>fin ov' Y5 (by rw [hs2];exact hz8) (by rw [hs2];exact hz9) hz10 (by rw [hs2];exact hr5) (hS1.mn.trans (hT5.mono (fun b hb=>by simp [hb]))) (fun b hb=>.inl hb) a⟩;rw [if_neg hc] at hs2;focus repeat'(first|refine W1 ?_|refine Jp ?_|refine JP ?_|refine Ja ?_|refine ZT rfl (fun a w h=>hZo a w h) ?_|refine Jq ?_|refine Jr ?_|refine Jj rfl ?_|refine J6 rfl ?_|refine ZC ?_|refine Zx ?_|refine ZK rfl ?_|refine Ji ?_)
 refine APG (X:=[]) (base:=w9.heap.size) x hr (by simp) (by have:=hS1.size;omega) rfl (Xg (Xp _ (show (M++[u]).length+1≤1000 by omega)) (by decide)) (by simp only [maxLen];omega) fun v1 nv Y4 hr4 hT4 hob4=>?_
 replace k10:=k10.ext hT4 hb10n;focus repeat'(first|refine W1 ?_|refine Jp ?_|refine JP ?_|refine Ja ?_|refine ZT rfl (fun a w h=>hZo a w h) ?_|refine Jq ?_|refine Jr ?_|refine Jj rfl ?_|refine J6 rfl ?_|refine ZC ?_|refine Zx ?_|refine ZK rfl ?_|refine Ji ?_)
 have hsl4:SlV [] Y4 nv (M++[u]++[x]):=hr4.slv (by simp);refine Z5 (Za (u:=nv) rfl rfl hsl4.cells hsl4.one k10 (by simp)) ?_;rintro _ Y5 ⟨hT5,k10⟩;focus repeat'(first|refine W1 ?_|refine Jp ?_|refine JP ?_|refine Ja ?_|refine ZT rfl (fun a w h=>hZo a w h) ?_|refine Jq ?_|refine Jr ?_|refine Jj rfl ?_|refine J6 rfl ?_|refine ZC ?_|refine Zx ?_|refine ZK rfl ?_|refine Ji ?_)
 exact ⟨fun a ha=>app w1 hS1 hs2 nv Y4 Y5 hr4 hT4 hob4 hT5 k10 a⟩;rintro D F Y ⟨⟨ov,rfl,k10,hr⟩,k8,k9,hst⟩ hD hDF hdef hF -;have hsY:=hS.own hst (fun b hb=>by simp at hb;rcases hb with rfl|rfl|rfl<;>exact .inr (by omega));have hal:(Z8M l sent).foldl (Z0A l crrs) ⟨Z1w l crrs (-1),true,[]⟩=Zgm l crrs sent:=rfl;rw [hal] at hr k9;refine ⟨fun a ha=>(Z22 (ds:=[{ target:=.collected D,args:=#[] }]) (Z4o ?_)).h a ha⟩;refine Z9q 4 [] [] [(0,1),(1,1),(2,0),(3,0)] rfl mixed (by kernel_rfl) (by kernel_rfl) (by kernel_rfl) (fun w1 hS1=>?_);replace k10:=k10.up hS1;replace k9:=k9.up hS1;replace hr:=hr.up hS1;refine QD ?_;refine Z6j (Z22 (ZeS ?_));have hdef1:=(hS1.block D (Xk.1 hdef).1 (by simp)).trans hdef;refine Zgo (D:=D) rfl rfl rfl hdef1 (.mk ⟨ov,rfl,?_,?_⟩);exact (Row.slv (X:=[]) (ZaR hr (Z23 w1 D (.deferred none)) (fun b hb h=>hDF (by simp at hb;subst hb;simp [h]))) (by simp));exact ((hsY.trans hS1)).own (Z23 w1 D (.deferred none)) (fun b hb=>.inr (by simp at hb;subst hb;have:=hS.size;omega))
theorem ZdW (lv cv:Value) (l:List Rtn) (crrs:List Crr) (sent:Int) (w) (hl:SlV [] w lv l) (hc:SlV [] w cv crrs) (ho:Znm l crrs) (hs:0≤sent∧sent≤3652058) :
 CC 77 #[lv,cv,.I sent] w fun v w'=>v=.tuple #[.I (ZaN l crrs sent).1,.B (ZaN l crrs sent).2]∧Stp [] w w':=by
 unfold ZaN;refine cW3 30 Tryz.func77 ?_;refine W ?_;refine CG (Zcr lv cv l crrs sent w hl hc ho hs) ?_;rintro _ w1 ⟨ov,rfl,hsl,hS⟩;generalize Zgm l crrs sent=s at *;obtain ⟨least,never,out⟩:=s;dsimp only at hsl ⊢;have hmax:=hsl.max;cases never with
 | true=>
   refine RT ?_;exact ⟨rfl,hS⟩
 | false=>
   rcases Yam out with rfl|⟨M,u,rfl⟩
   refine RT ?_;exact ⟨rfl,hS⟩;rw [Yan] at *;have hidx:((M++[u]).length:Int) - 1=(M.length:Nat):=by simp
   have hib:M.length<(M++[u]).length:=by simp
   have hel:(M++[u])[M.length]=u:=by simp
   have hlen2:0<((M++[u]).length:Int):=by simp
   have hgl:(M++[u]).getLast?=some u:=by simp
   rw [hgl];refine QO ?_;rw [hel];refine RU ?_;exact ⟨rfl,hS⟩
theorem Zno (a b:Svc) (w):CC 79 #[aG a,aG b] w fun r w'=>r=.I (cmI a.day b.day)∧Stp [] w w':=by
 refine cW2 10 Tryz.func79 ?_;refine W ?_;refine BX (Stp.refl [] w) fun b2 w1 h2 e2 _ hS=>?_;replace e2:Blk w1 b2 115 (Z3.enc a):=e2;refine BX hS fun b3 w2 h3 e3 hT hS=>?_;replace e2:=e2.up hT;replace e3:Blk w2 b3 115 (Z3.enc b):=e3;refine W ?_;refine CP hS (Z4m _ _ _) fun w3 _ hS=>?_;refine RT ?_;exact ⟨rfl,hS⟩
def Z2i (l:List Svc):Nat→Svc
 | 0=>l.getD 0 ⟨0,0,0⟩
 | k+1=>if (l.getD (k+1) ⟨0,0,0⟩).day<(Z2i l k).day then l.getD (k+1) ⟨0,0,0⟩ else Z2i l k
def Z4H (l:List Svc):Svc×Bool:=if l=[] then (⟨0,0,0⟩,false) else (Z2i l (l.length - 1),true)
theorem Zkd (v:Value) (l:List Svc) (w) (hs:SlV [] w v l):CC 78 #[v,.func (.func 79) #[] #[]] w fun r w'=>r=.tuple #[.agg (Z3.enc (Z4H l).1).toArray,.B (Z4H l).2]∧Stp [] w w':=by
 have hmax:=hs.max;unfold Z4H;refine cW2 31 Tryz.func78 ?_;refine W ?_;refine Z1 Z2 rfl ?_;rintro _ w1 ⟨b4,rfl,hb4,e4,hS⟩;refine W ?_;refine Z1 Z2 rfl ?_;rintro _ w2 ⟨b6,rfl,hb6,e6,hT⟩;have l4:=e4.lt;replace e4:=e4.up hT;have g6:w.heap.size≤b6:=Xg hS.size hb6;replace hS:=hS.trans hT;clear hT;have n46:b4≠b6:=by omega
 replace e4:Blk w2 b4 115 (Z3.enc (⟨0,0,0⟩:Svc)):=e4;replace e6:Blk w2 b6 115 (Z3.enc (⟨0,0,0⟩:Svc)):=e6;have hs2:=hs.up hS;have hz:((l.length:Int)=0)↔l=[]:=by simp
 (refine QP ?_ ?_<;>intro hc)
 obtain rfl:l=[]:=hz.1 (by assumption);refine SA (us:=Z3.enc (⟨0,0,0⟩:Svc)) e4 ?_;rintro _ w3 ⟨hT,e4⟩;refine W ?_;refine Zl rfl rfl rfl e4 rfl rfl ?_;exact .mk ⟨rfl,hS.ow hT⟩;have hn:l≠[]:=fun h=>absurd (hz.2 h) (by assumption)
 have hpos:0<l.length:=X7.2 hn;rw [if_neg hn];refine QO ?_;refine SA (us:=Z3.enc l[0]) e6 ?_;rintro _ w3 ⟨hT,e6⟩;replace e4:=e4.ext hT (by simpa using n46);replace hS:=hS.ow hT;clear hT hs2;have hs3:=hs.up hS;refine QO ?_;have hsd:=hs3.slc (l:=1) (r:=l.length) hpos (Xn _);rw [Xo] at hsd;refine Z4 (Z2N (l:=1) rfl hs3 rfl rfl hpos) rfl ?_;clear hs3;obtain ⟨dv,hdv⟩:∃ dv,dv=Eng.slc v 1 l.length 3:=⟨_,rfl⟩
 rw [← hdv];have hsd':SlV [] w3 dv (l.drop 1):=hdv ▸ hsd;clear hsd;have hdl:(l.drop 1).length=l.length - 1:=by simp
 refine W ?_;have hS0:=hS;refine LP (σ:=Nat) (fun k=>[(1,.func (.func 79) #[] #[]),(4,pQ b4),(6,pQ b6),(17,dv),(18,.I (l.drop 1).length),(19,.I k)]) (fun k w'=>k≤l.length - 1∧Stp [b6] w3 w'∧Stp [] w w'∧Blk w' b6 115 (Z3.enc (Z2i l k))∧Blk w' b4 115 (Z3.enc (⟨0,0,0⟩:Svc))) (fun k=>l.length - 1 - k) 0 ⟨by omega,Stp.refl _ _,hS,by rw [Z2i,show l.getD 0 ⟨0,0,0⟩=l[0] by simp [hpos]];exact e6,e4⟩ ?_;clear e4 e6 hS;rintro k w4 ⟨hk,hT,hS,e6,e4⟩;by_cases hlt:k<(l.drop 1).length;have hs4:SlV [] w4 dv (l.drop 1):=by
  have h:=(hs.up hS).slc (l:=1) (r:=l.length) hpos (Xn _);rw [Xo] at h;rw [hdv];exact h
 have hk1:k+1<l.length:=by omega
 have hel:(l.drop 1)[k]=l[k+1]:=by simp
 have hstep:Z2i l (k+1)=if l[k+1].day<(Z2i l k).day then l[k+1] else Z2i l k:=by rw [Z2i,show l.getD (k+1) ⟨0,0,0⟩=l[k+1] by simp [hk1]]
 generalize Z2i l k=m at *;refine QO ?_;rw [hel];refine Z1 Z2 rfl ?_;rintro _ w5 ⟨b8,rfl,hb8,e8,hA⟩;refine SA (us:=Z3.enc l[k+1]) e8 ?_;rintro _ w6 ⟨hA2,e8⟩;replace hA:=hA.ow hA2;replace e4:=e4.up hA;replace e6:=e6.up hA;replace hS:=hS.trans hA;replace hT:=hT.trans hA.mn;clear hA hA2 hs4;refine W ?_;refine CP hS (Zno l[k+1] m _) fun w7 hA hS=>?_;replace e4:=e4.up hA;replace e6:=e6.up hA;replace e8:=e8.up hA;replace hT:=hT.trans hA.mn;clear hA;have hcm:cmI l[k+1].day m.day<0↔l[k+1].day<m.day:=by unfold cmI;split<;>(try split)<;>omega
 by_cases hc:l[k+1].day<m.day;rw [if_pos hc] at hstep;have hc':=hcm.2 hc;refine QO ?_;refine SA (us:=Z3.enc l[k+1]) e6 ?_;rintro _ w8 ⟨hA,e6⟩;replace e4:=e4.ext hA (by simpa using n46);refine QO ?_;exact QL (k+1) ⟨by omega,hT.trans hA,hS.ow hA,by rw [hstep];exact e6,e4⟩ (by omega);rw [if_neg hc] at hstep;have hc':=fun h=>hc (hcm.1 h);refine QO ?_;exact QL (k+1) ⟨by omega,hT,hS,by rw [hstep];exact e6,e4⟩ (by omega);obtain rfl:k=l.length - 1:=by omega
 refine QO ?_;refine SA (us:=Z3.enc (Z2i l (l.length - 1))) e4 ?_;rintro _ w8 ⟨hA,e4⟩;refine QO ?_;refine Zl rfl rfl rfl e4 rfl rfl ?_;exact .mk ⟨rfl,hS.ow hA⟩
structure Znp (l:List Atp) (crrs:List Crr):Prop where
 len:l.length≤65536
 ret:∀ a∈l,Znm a.rets crrs
 crr:∀ a∈l,0≤a.crr∧a.crr<crrs.length
 sent:∀ a∈l,0≤a.sent∧a.sent≤3652058
def svB (crrs:List Crr) (en pa:Int) (a:Atp):Bool:=decide (a.entry=en∧a.party=pa) && (ZaN a.rets crrs a.sent).2
def ofE (crrs:List Crr) (a:Atp) (k:Nat):Svc:=⟨(ZaN a.rets crrs a.sent).1,(crrs.getD a.crr.toNat ⟨0,0⟩).extra,k⟩
def ofG (l:List Atp) (crrs:List Crr) (en pa:Int):Nat→List Svc
 | 0=>[]
 | k+1=>ofG l crrs en pa k++if svB crrs en pa (l.getD k default)=true then [ofE crrs (l.getD k default) k] else []
def ofA (l:List Atp) (crrs:List Crr) (en pa:Int):Svc×Bool:=Z4H (ofG l crrs en pa l.length)
theorem Zf0 (l:List Atp) (crrs:List Crr) (en pa:Int):∀ k,(ofG l crrs en pa k).length≤k
 | 0=>by simp [ofG]
 | k + 1 => by
   have:=Zf0 l crrs en pa k;simp only [ofG,Xc];split<;>simp<;>omega
theorem Zke (a b c:Int) (w):(Instr.build 115 #[(0,.I a),(1,.I b),(2,.I c)]).run Tryz.prog w=.ok (aG (⟨a,b,c⟩:Svc)) w:=by kernel_rfl
theorem ZtF (lv cv:Value) (l:List Atp) (crrs:List Crr) (en pa:Int) (w) (hl:SlV [] w lv l) (hcr:SlV [] w cv crrs) (ho:Znp l crrs) :
 CC 49 #[lv,.I en,.I pa,cv] w fun r w'=>r=.tuple #[.agg (Z3.enc (ofA l crrs en pa).1).toArray,.B (ofA l crrs en pa).2]∧Stp [] w w':=by
 have hlen:=ho.len;refine cW4 59 Tryz.func49 ?_;refine W ?_;refine Z1 Z2 rfl ?_;rintro _ w1 ⟨b8,rfl,hb8,e8,hS⟩;replace e8:Blk w1 b8 115 (Z3.enc (⟨0,0,0⟩:Svc)):=e8;have hl1:=hl.up hS;refine W ?_;refine LP (σ:=Nat×Value) (fun q=>[(1,.I en),(2,.I pa),(3,cv),(8,pQ b8),(10,q.2),(15,lv),(16,.I l.length),(17,.I q.1)]) (fun q w'=>q.1≤l.length∧ZI 115 w1 w' q.2 (ofG l crrs en pa q.1)) (fun q=>l.length - q.1) (0,.N) ⟨by omega,ZI.nil⟩ ?_;rintro ⟨k,rv⟩ w2 ⟨hk,hr⟩;dsimp only at hk hr ⊢;by_cases hlt:k<l.length
 · have hl2:=hl1.up hr.2
   obtain ⟨cs,⟨tv,rfl,ht⟩,hcell⟩:=hl2.cell hlt;have hstep:ofG l crrs en pa (k+1)=ofG l crrs en pa k++if svB crrs en pa l[k]=true then [ofE crrs l[k] k] else []:=by rw [ofG,show l.getD k default=l[k] by simp [hlt]]
   have hle:=Zf0 l crrs en pa k;have hro:=ho.ret _ (Xd hlt);have hco:=ho.crr _ (Xd hlt);have hso:=ho.sent _ (Xd hlt);refine QO ?_;refine Z4 (Z2F rfl rfl hl2 hlt ⟨tv,rfl,ht⟩ hcell) rfl ?_;refine Z1 Z2 rfl ?_;rintro _ w3 ⟨b12,rfl,hb12,e12,hA⟩;refine W ?_;refine SB (us:=atC l[k] tv) (Z7.one (x:=l[k]) (w:=w2) (X:=[]) ⟨tv,rfl,ht⟩) e12 ?_;rintro _ w4 ⟨hA2,e12⟩;replace hA:=hA.ow hA2;replace hr:=hr.up hA;replace ht:=ht.up hA;clear hA hA2 hl2 hcell;have hc4:SlV [] w4 cv crrs:=(hcr.up hS).up hr.2;have skip:svB crrs en pa l[k]=false→ofG l crrs en pa (k+1)=ofG l crrs en pa k:=fun h=>by rw [hstep,h,if_neg (by simp),XG]
   repeat'(first|refine W1 ?_|omega|refine VG ?_ ?_<;>intro hg|refine VC ?_ ?_<;>intro hc)
   all_goals try exact QL (k+1,rv) ⟨hlt,by rw [skip (by simp only [svB,Bool.and_eq_false_iff,decide_eq_false_iff_not];exact .inl (fun h=>by omega))];exact hr⟩ (by dsimp only;omega)
   refine CP (Stp.refl [] w4) (ZdW tv cv l[k].rets crrs l[k].sent _ ht hc4 hro hso) fun w5 hA _=>?_;replace hr:=hr.up hA;replace e12:=e12.up hA;replace hc4:=hc4.up hA;clear hA ht;unfold svB at hstep skip;unfold ofE at hstep;generalize ZaN l[k].rets crrs l[k].sent=sv at *;obtain ⟨d,ok⟩:=sv;cases ok with
   | false=>
     dsimp only at skip ⊢;refine QO ?_;exact QL (k+1,rv) ⟨hlt,by rw [skip (by simp)];exact hr⟩ (by dsimp only;omega)
   | true=>
     rw [if_pos (by simp only [Ybc,decide_eq_true_eq];constructor<;>omega)] at hstep;obtain ⟨j,hj⟩:∃ j:Nat,l[k].crr=j:=⟨l[k].crr.toNat,by omega⟩
     have hjl:j<crrs.length:=by omega
     rw [hj,show crrs.getD ((j:Int).toNat) ⟨0,0⟩=crrs[j] by simp [hjl]] at hstep;dsimp only at hstep ⊢;refine QO ?_;refine Z8 (vs:=[(0,.I d),(1,.I crrs[j].extra),(2,.I k)]) rfl (Zke _ _ _) rfl ?_;refine AP1 (⟨d,crrs[j].extra,k⟩:Svc) hr (by omega) fun v1 v' w' hr' _=>?_
     refine QO ?_;exact QL (k+1,v') ⟨hlt,by rw [hstep];exact hr'⟩ (by dsimp only;omega)
 obtain rfl:k=l.length:=by omega
 have hsr:SlV [] w2 rv (ofG l crrs en pa l.length):=hr.slv (by simp);replace e8:=e8.up hr.2;replace hS:=hS.trans hr.2;clear hr;unfold ofA;refine QO ?_;refine CP hS (Zkd rv _ _ hsr) fun w3 hT hS=>?_;replace e8:=e8.up hT;refine W ?_;refine SA (us:=Z3.enc (Z4H (ofG l crrs en pa l.length)).1) e8 ?_;rintro _ w4 ⟨hA,e8⟩;refine W ?_;refine Zl rfl rfl rfl e8 rfl rfl ?_;exact .mk ⟨rfl,hS.ow hA⟩
theorem Zkf (a b c:Int) (w):(Instr.build 67 #[(0,.I a),(1,.I b),(2,.I c)]).run Tryz.prog w=.ok (aG (⟨a,b,c⟩:Rsn)) w:=by kernel_rfl
structure Nte (w0:World) (bd:Nat) (w:World) (d:Dln) (rv:Value):Prop where
 blk:Blk w bd 56 (dlC d rv)
 row:Row [bd] w w0.heap.size 67 rv d.reas
 stp:Stp [bd] w0 w
 lt:bd<w0.heap.size
 len:d.reas.length≤100000
theorem Z2G (w0:World) (bd:Nat) (d:Dln) (rv:Value) (k a b:Int) (w) (h:Nte w0 bd w d rv) (hl:d.reas.length+1≤100000) :
 CC 53 #[.I k,.I a,.I b,pQ bd] w fun r w'=>∃ rv',Nte w0 bd w' { d with reas:=d.reas++[⟨k,a,b⟩] } rv'∧Stp (bd :: ob rv) w w'∧∀ b∈ob rv',b∈ob rv∨w.heap.size≤b:=by
 obtain ⟨e3,hr,hS,hlt,hlen⟩:=h;refine cW4 16 Tryz.func53 ?_;refine W ?_;refine Z8 (vs:=[(0,.I k),(1,.I a),(2,.I b)]) rfl (Zkf _ _ _) rfl ?_;refine APR (X:=[bd]) (base:=w0.heap.size) (⟨k,a,b⟩:Rsn) hr (fun c hc=>by have:=hS.size;simp at hc;omega) hS.size (by omega) fun v1 v' w1 hr' hT hob=>?_
 have e3':Blk w1 bd 56 (dlC d rv):=e3.ext hT (fun hb=>by have:=(hr.ob_le bd hb).1;omega);refine W ?_;have hsl:SlV [bd] w1 v' (d.reas++[⟨k,a,b⟩]):=hr'.slv (fun c hc=>by simp at hc;omega);refine Z5 (Za (u:=v') rfl rfl hsl.cells hsl.one e3' (by simp)) ?_;rintro _ w2 ⟨hT2,e3''⟩;refine W ?_;refine WR ?_;refine .mk ⟨v',⟨e3'',hr'.ext hT2 (fun c hc=>?_) (fun c hc=>.inl hc),?_,hlt,by simp;omega⟩,(hT.mono (fun c hc=>by simp [hc])).trans hT2.mn,hob⟩;simp only [Xl] at hc;subst hc;exact ⟨by simp,fun h=>by have:=(hr'.ob_le c h).1;omega⟩;refine (hS.own hT (fun c hc=>.inr (hr.ob_le c hc).1)).trans hT2
def Zgq (els:Str) (d:Dln):Fct:=⟨d.trig.entry,els,max d.due d.trig.day+1,d.trig.to_,d.trig.by_,d.trig.amt⟩
def Zcs (c:Cas) (d:Dln) (r:Nat):Fct×Bool:=(Zgq (c.ruls.getD r crZ).els d,decide (d.stat=2∧(c.ruls.getD r crZ).els≠[]∧max d.due d.trig.day+1≤c.today))
theorem Zkg (a:Int) (s:Str) (b c d e:Int) (w):(Instr.build 45 #[(0,.I a),(1,str s),(2,.I b),(3,.I c),(4,.I d),(5,.I e)]).run Tryz.prog w=.ok (aG (⟨a,s,b,c,d,e⟩:Fct)) w:=by kernel_rfl
theorem Zct (c:Cas) (R:Z11) (d:Dln) (dv:Value) (r:Nat) (w) (hs:SlV [] w R.rv c.ruls) (hd:SlV [] w dv d.reas) (hr:r<c.ruls.length) (hb:-1000000000≤d.due∧d.due≤1000000000∧-1000000000≤d.trig.day∧d.trig.day≤1000000000) :
 CC 47 #[.agg (JE c R).toArray,.agg (dlC d dv).toArray,.I r] w fun v w'=>v=.tuple #[.agg (Z3.enc (Zcs c d r).1).toArray,.B (Zcs c d r).2]∧Stp [] w w':=by
 unfold Zcs;rw [show c.ruls.getD r crZ=c.ruls[r] by simp [hr]];refine cW3 49 Tryz.func47 ?_;refine W ?_;refine BX (Stp.refl [] w) fun b3 w1 h3 e3 _ hS=>?_;replace e3:Blk w1 b3 37 (JE c R):=e3;refine BX hS fun b4 w2 h4 e4 hT hS=>?_;replace e4:Blk w2 b4 56 (dlC d dv):=e4;replace e3:=e3.up hT;have l3:=e3.lt;have l4:=e4.lt;refine W ?_;refine Z1 Z2 rfl ?_;rintro _ w3 ⟨b6,rfl,hb6,e6,hT⟩;have n36:b3≠b6:=by omega
 have n46:b4≠b6:=by omega
 have g6:w.heap.size≤b6:=Xg hS.size hb6;replace e3:=e3.up hT;replace e4:=e4.up hT;replace hS:=hS.trans hT;clear hT;refine W ?_;refine Z4 (Zn (us:=Z3.enc d.trig) rfl rfl e4 rfl rfl) rfl ?_;refine Z1 Z2 rfl ?_;rintro _ w4 ⟨b8,rfl,hb8,e8,hT⟩;refine SA (us:=Z3.enc d.trig) e8 ?_;rintro _ w5 ⟨hT2,e8⟩;replace hT:=hT.ow hT2;replace e3:=e3.up hT;replace e4:=e4.up hT;have l6:=e6.lt;replace e6:=e6.up hT;replace hS:=hS.trans hT;have n68:b6≠b8:=fun h=>by subst h;exact absurd l6 (Nat.not_lt.2 hb8)
 clear hT hT2;refine W ?_;refine ZDr 23 [] [22] [(0,0),(1,1),(2,0),(3,1),(4,0),(5,0),(6,0),(7,1),(8,0),(9,1),(10,0),(11,1),(12,0),(13,0),(14,0),(15,1),(16,0),(17,1),(18,0),(19,1),(20,0),(21,2),(22,2)] (fun w1 hS1=>?_);replace e3:=e3.up hS1;replace e4:=e4.up hS1;replace e6:=e6.up hS1;replace e8:=e8.up hS1;replace hS:=hS.trans hS1;clear hS1;have hsr:=hs.up hS;obtain ⟨cs,⟨kc,kd,rfl,-,-⟩,hcell⟩:=hsr.cell hr;have hf:w1.cell? (Zp R.rv r 7 6)=some (str c.ruls[r].els):=hcell 6 _ rfl;repeat'(first|refine D1 ?_|omega|refine Z1a rfl (by first|exact trivial|exact rfl) rfl rfl (by assumption) rfl ?_|refine Zy rfl rfl rfl rfl (fun hg=>?_) (fun hg=>?_)|(refine Zr rfl rfl rfl rfl (fun hg=>?_) (fun hg=>?_)<;>refine D1 ?_)|fail)
 refine Z2w rfl trivial (vs:=[(0,.I d.trig.entry),(1,str c.ruls[r].els),(2,.I (max d.due d.trig.day+1)),(3,.I d.trig.to_),(4,.I d.trig.by_),(5,.I d.trig.amt)]) rfl (Zkg _ _ _ _ _ _) rfl ?_;refine Zc rfl trivial Z2 (fun _ _ h=>h.choose_spec.2.2.2) rfl ?_;rintro _ w6 ⟨b9,rfl,hb9,e9,hT⟩;refine Jy rfl trivial (Z9 (us:=Z3.enc (Zgq c.ruls[r].els d)) rfl rfl rfl rfl (Z3.one _) e9 rfl) rfl ?_;rintro _ w7 ⟨hT2,e9⟩;replace hT:=hT.ow hT2;have l6':=e6.lt;have n69:b6≠b9:=by omega
 replace e3:=e3.up hT;replace e4:=e4.up hT;replace e6:=e6.up hT;replace hS:=hS.trans hT;clear hT hT2 hsr hcell hf e8;refine D ?_;refine W ?_;replace e9:Blk w7 b9 45 (Z3.enc (Zgq c.ruls[r].els d)):=e9;have hev:(Zgq c.ruls[r].els d).kind=c.ruls[r].els∧(Zgq c.ruls[r].els d).day=max d.due d.trig.day+1:=⟨rfl,rfl⟩
 obtain ⟨v1,v2⟩:=hev;generalize Zgq c.ruls[r].els d=F at *;rw [← v1,← v2];clear v1 v2;refine JA (σ:=Unit) (fun _=>[(6,pQ b6),(7,.B (decide (d.stat=2∧F.kind≠[]∧F.day≤c.today)))]) (fun _ w'=>Stp [] w w'∧Blk w' b6 45 (Z3.enc F)) ?_ ?_
 · refine ZDr 18 ([b6]) [] [(0,1),(1,0),(2,1),(3,0),(4,0),(5,0),(6,1),(7,0),(8,0),(9,0),(10,0),(11,1),(12,0),(13,1),(14,0),(15,0),(16,2),(17,0)] (fun w1 hS1=>?_)
   replace e3:=e3.up hS1;replace e4:=e4.up hS1;replace e6:=e6.up hS1;replace e9:=e9.up hS1;replace hS:=hS.trans hS1;clear hS1;repeat'(first|refine D1 ?_|omega|refine Zy rfl rfl rfl rfl (fun hg=>?_) (fun hg=>?_)|(refine Zr rfl rfl rfl rfl (fun hg=>?_) (fun hg=>?_)<;>refine D1 ?_)|fail)
   all_goals
    refine ZH rfl trivial (Z9 (us:=Z3.enc F) rfl rfl rfl rfl (Z3.one _) e6 rfl) (fun _ _ h=>h.1) ?_;rintro _ wz ⟨hT,e6⟩;refine D ?_;refine ZN () ⟨rfl,?_,trivial⟩ ⟨hS.ow hT,e6⟩;show some (Value.bool _)=some (Value.bool _);congr 2
    first
     | (symm;exact decide_eq_false (fun h=>by first|exact absurd h.1 (by assumption)|exact absurd h.2.1 (by assumption)))
     | (rw [decide_eq_decide];exact ⟨fun h=>⟨by assumption,by assumption,h⟩,fun h=>h.2.2⟩)
 rintro _ w8 ⟨hS,e6⟩;refine W ?_;refine Zl rfl rfl rfl e6 rfl rfl ?_;exact .mk ⟨rfl,hS⟩
def Res (K:MK) (w:World) (st:List Int) (sp:List Spn) (at_:Int) (r:Int×Int):Prop:=
 ∃ sv pv st2 sp2,Mch K w sv pv st2 sp2 at_ r.2 (decide (¬ r.2=0))∧(r.2=0→st2=st++[r.1]∧sp2=sp)
section
variable {K:MK} {w w':World} {sv pv:Value} {st:List Int} {sp:List Spn} {at_ er:Int} {dn:Bool}
abbrev mP (K:MK):Value:=.pointer (some ⟨K.bm,0,none⟩)
theorem Zcu (hK:KOk K) {v:Int} (h:Mch K w sv pv (st++[v]) sp at_ er dn) :
 CC 82 #[mP K] w fun r w'=>r=.I v∧(∃ sv',Mch K w' sv' pv st sp at_ er dn)∧Stp [K.bm] w w':=by
 have hblk:=h.blk;have hrow:=h.row;unfold Z5v at hblk;have hs:=hrow.slv (X:=[]) (by simp);have hz:((st++[v]).length:Int) - 1=(st.length:Int):=by simp
 have hi:st.length<(st++[v]).length:=by simp
 have hm:=hs.max;refine cW1 28 Tryz.func82 ?_;refine W ?_;refine Z4 (Z1d rfl hs rfl hz (by omega)) rfl ?_;refine W ?_;have hc:=hrow.cut (r:=st.length) (by omega);rw [YbF rfl] at hc;have h1:=hc.slv (X:=[]) (by simp);refine Z5 (Za (u:=slc sv 0 st.length 1) rfl rfl h1.cells h1.one hblk (by simp [evC,Z0e])) ?_;rintro _ w1 ⟨hS1,hblk1⟩;refine RT ?_;exact ⟨by simp,⟨slc sv 0 st.length 1,h.stack hK (Stp.refl _ _) hc (fun b hb=>.inl (by rw [← Ziz sv st.length 1];exact hb)) hS1 hblk1⟩,hS1⟩
theorem Z39 (hK:KOk K) {v:Int} (h:Mch K w sv pv (st++[v]) sp at_ er dn) :
 CC 82 #[mP K] w fun r w'=>r=.I v∧∃ sv',Mch K w' sv' pv st sp at_ er dn:=
 Go.Eng.Calls.ret (Zcu hK h) (fun _ _ h=>⟨h.1,h.2.1⟩)
theorem Z02 (hK:KOk K) {a b:Int} (h:Mch K w sv pv (st++[a,b]) sp at_ er dn) :
 CC 204 #[mP K] w fun r w'=>r=.tuple #[.I a,.I b]∧∃ sv',Mch K w' sv' pv st sp at_ er dn:=by
 refine cW1 10 Tryz.func204 ?_;refine W ?_;refine CM (ZX rfl) (Z39 (st:=st++[a]) (v:=b) hK (by simpa using h)) ?_;rintro _ w1 ⟨rfl,sv1,h1⟩;refine W ?_;refine CL (Z39 hK h1) ?_;rintro _ w2 ⟨rfl,sv2,h2⟩;refine RT ?_;exact ⟨rfl,sv2,h2⟩
theorem Z0o (hK:KOk K) (h:Mch K w sv pv st sp at_ 0 false) (hl:st.length≤100000) (n e:Int) :
 CC 203 #[mP K,.I n,.I e] w fun r w'=>r=.tuple #[]∧Res K w' st sp at_ (n,e):=by
 refine Go.Eng.Calls.ret (ZjQ hK h n e hl) ?_;rintro v w' ⟨rfl,sv',h1⟩;refine ⟨rfl,sv',pv,if e=0 then st++[n] else st,sp,?_,fun he=>⟨if_pos he,rfl⟩⟩;by_cases he:e=0;subst he;simpa using h1;simpa [he] using h1
theorem Zf1 (hK:KOk K) (h:Mch K w sv pv st sp at_ 0 false) (hl:st.length≤100000) (n a b:Int) :
 CC 261 #[mP K,.I n,.I a,.I b] w fun r w'=>r=.tuple #[]∧Res K w' st sp at_ (if n<a∨b<n then (0,5) else (n,0)):=by
 refine cW4 21 Tryz.func261 ?_;by_cases hc:n<a∨b<n
 · rw [if_pos hc]
   repeat'(first|refine W1 ?_|omega|refine VG ?_ ?_<;>intro hg|refine VC ?_ ?_<;>intro hc)
   all_goals
    refine CL (Z0o hK h hl 0 5) ?_;rintro _ w1 ⟨rfl,h1⟩;refine RT ?_;exact ⟨rfl,h1⟩
 rw [if_neg hc];refine QO ?_;refine CL (Z0o hK h hl n 0) ?_;rintro _ w1 ⟨rfl,h1⟩;refine RT ?_;exact ⟨rfl,h1⟩
theorem Z5A (hK:KOk K) (h:Mch K w sv pv st sp at_ 0 false) (hl:st.length≤100000) (n:Int) :
 CC 205 #[mP K,.I n] w fun r w'=>r=.tuple #[]∧Res K w' st sp at_ (Z4w n):=by
 refine cW2 7 Tryz.func205 ?_;refine W ?_;refine CL (Zf1 hK h hl n _ _) ?_;rintro _ w1 ⟨rfl,h1⟩;refine RT ?_;exact ⟨rfl,h1⟩
theorem ZwZ (hK:KOk K) (h:Mch K w sv pv st sp at_ 0 false) (hl:st.length≤100000) (n:Int) :
 CC 207 #[mP K,.I n] w fun r w'=>r=.tuple #[]∧Res K w' st sp at_ (Zc7 n):=by
 refine cW2 7 Tryz.func207 ?_;refine W ?_;refine CL (Zf1 hK h hl n _ _) ?_;rintro _ w1 ⟨rfl,h1⟩;refine RT ?_;exact ⟨rfl,h1⟩
theorem ZaS (hK:KOk K) (h:Mch K w sv pv st sp at_ 0 false) (hl:st.length≤100000) (b:Bool) :
 CC 206 #[mP K,.B b] w fun r w'=>r=.tuple #[]∧Res K w' st sp at_ (Z3P b,0):=by
 refine cW2 9 Tryz.func206 ?_;cases b;refine W ?_;refine CL (Z0o hK h hl 0 0) ?_;rintro _ w1 ⟨rfl,h1⟩;refine RT ?_;exact ⟨rfl,h1⟩;refine W ?_;refine CL (Z0o hK h hl 1 0) ?_;rintro _ w1 ⟨rfl,h1⟩;refine RT ?_;exact ⟨rfl,h1⟩
theorem ZtG (hK:KOk K) (h:Mch K w sv pv st sp at_ 0 false) (hl:st.length≤100000) (n:Int) :
 CC 128 #[mP K,.I n] w fun r w'=>r=.tuple #[]∧Res K w' st sp at_ (n,0):=by
 refine cW2 7 Tryz.func128 ?_;refine W ?_;refine CL (Z0o hK h hl n 0) ?_;rintro _ w1 ⟨rfl,h1⟩;refine RT ?_;exact ⟨rfl,h1⟩
theorem ZxS (hK:KOk K) {a b:Int} (h:Mch K w sv pv (st++[a,b]) sp at_ 0 false) (hl:st.length≤100000) (n:Int) (hr:I64 (a+b)) :
 CC 130 #[mP K,.I n] w fun r w'=>r=.tuple #[]∧Res K w' st sp at_ (Z4w (a+b)):=by
 try unfold I64 at hr
 refine cW2 16 Tryz.func130 ?_;refine W ?_;refine CL (Z02 hK h) ?_;rintro _ w1 ⟨rfl,sv1,h1⟩;refine W ?_;refine CL (Z5A hK h1 hl _) ?_;rintro _ w2 ⟨rfl,h2⟩;refine RT ?_;exact ⟨rfl,h2⟩
theorem ZxT (hK:KOk K) {a b:Int} (h:Mch K w sv pv (st++[a,b]) sp at_ 0 false) (hl:st.length≤100000) (n:Int) (hr:I64 (a - b)) :
 CC 131 #[mP K,.I n] w fun r w'=>r=.tuple #[]∧Res K w' st sp at_ (Z4w (a - b)):=by
 try unfold I64 at hr
 refine cW2 16 Tryz.func131 ?_;refine W ?_;refine CL (Z02 hK h) ?_;rintro _ w1 ⟨rfl,sv1,h1⟩;refine W ?_;refine CL (Z5A hK h1 hl _) ?_;rintro _ w2 ⟨rfl,h2⟩;refine RT ?_;exact ⟨rfl,h2⟩
theorem ZxU (hK:KOk K) {a b:Int} (h:Mch K w sv pv (st++[a,b]) sp at_ 0 false) (hl:st.length≤100000) (n:Int) (hr:I64 (a * b)) :
 CC 132 #[mP K,.I n] w fun r w'=>r=.tuple #[]∧Res K w' st sp at_ (Z4w (a * b)):=by
 try unfold I64 at hr
 refine cW2 16 Tryz.func132 ?_;refine W ?_;refine CL (Z02 hK h) ?_;rintro _ w1 ⟨rfl,sv1,h1⟩;refine W ?_;refine CL (Z5A hK h1 hl _) ?_;rintro _ w2 ⟨rfl,h2⟩;refine RT ?_;exact ⟨rfl,h2⟩
theorem ltV (hK:KOk K) {a b:Int} (h:Mch K w sv pv (st++[a,b]) sp at_ 0 false) (hl:st.length≤100000) (n:Int) (hr:True) :
 CC 134 #[mP K,.I n] w fun r w'=>r=.tuple #[]∧Res K w' st sp at_ ((Z3P (decide (a<b)),0)):=by
 try unfold I64 at hr
 refine cW2 16 Tryz.func134 ?_;refine W ?_;refine CL (Z02 hK h) ?_;rintro _ w1 ⟨rfl,sv1,h1⟩;refine W ?_;refine CL (ZaS hK h1 hl _) ?_;rintro _ w2 ⟨rfl,h2⟩;refine RT ?_;exact ⟨rfl,h2⟩
theorem leV (hK:KOk K) {a b:Int} (h:Mch K w sv pv (st++[a,b]) sp at_ 0 false) (hl:st.length≤100000) (n:Int) (hr:True) :
 CC 135 #[mP K,.I n] w fun r w'=>r=.tuple #[]∧Res K w' st sp at_ ((Z3P (decide (a≤b)),0)):=by
 try unfold I64 at hr
 refine cW2 16 Tryz.func135 ?_;refine W ?_;refine CL (Z02 hK h) ?_;rintro _ w1 ⟨rfl,sv1,h1⟩;refine W ?_;refine CL (ZaS hK h1 hl _) ?_;rintro _ w2 ⟨rfl,h2⟩;refine RT ?_;exact ⟨rfl,h2⟩
theorem eqV (hK:KOk K) {a b:Int} (h:Mch K w sv pv (st++[a,b]) sp at_ 0 false) (hl:st.length≤100000) (n:Int) (hr:True) :
 CC 136 #[mP K,.I n] w fun r w'=>r=.tuple #[]∧Res K w' st sp at_ ((Z3P (decide (a=b)),0)):=by
 try unfold I64 at hr
 refine cW2 16 Tryz.func136 ?_;refine W ?_;refine CL (Z02 hK h) ?_;rintro _ w1 ⟨rfl,sv1,h1⟩;refine W ?_;refine CL (ZaS hK h1 hl _) ?_;rintro _ w2 ⟨rfl,h2⟩;refine RT ?_;exact ⟨rfl,h2⟩
theorem Zx0 (hK:KOk K) {a b:Int} (h:Mch K w sv pv (st++[a,b]) sp at_ 0 false) (hl:st.length≤100000) (n:Int) (hr:I64 (a+b)) :
 CC 140 #[mP K,.I n] w fun r w'=>r=.tuple #[]∧Res K w' st sp at_ (Zc7 (a+b)):=by
 try unfold I64 at hr
 refine cW2 16 Tryz.func140 ?_;refine W ?_;refine CL (Z02 hK h) ?_;rintro _ w1 ⟨rfl,sv1,h1⟩;refine W ?_;refine CL (ZwZ hK h1 hl _) ?_;rintro _ w2 ⟨rfl,h2⟩;refine RT ?_;exact ⟨rfl,h2⟩
theorem ZtH (hK:KOk K) {a b:Int} (h:Mch K w sv pv (st++[a,b]) sp at_ 0 false) (hl:st.length≤100000) (n:Int) (hr:I64 (7 * b)∧I64 (a+7 * b)) :
 CC 141 #[mP K,.I n] w fun r w'=>r=.tuple #[]∧Res K w' st sp at_ (Zc7 (a+7 * b)):=by
 try unfold I64 at hr
 refine cW2 17 Tryz.func141 ?_;refine W ?_;refine CL (Z02 hK h) ?_;rintro _ w1 ⟨rfl,sv1,h1⟩;refine W ?_;refine CL (ZwZ hK h1 hl _) ?_;rintro _ w2 ⟨rfl,h2⟩;refine RT ?_;exact ⟨rfl,h2⟩
theorem ZtI (hK:KOk K) {a b:Int} (h:Mch K w sv pv (st++[a,b]) sp at_ 0 false) (hl:st.length≤100000) (n:Int) (hr:True) :
 CC 146 #[mP K,.I n] w fun r w'=>r=.tuple #[]∧Res K w' st sp at_ ((max a b,0)):=by
 try unfold I64 at hr
 refine cW2 16 Tryz.func146 ?_;refine W ?_;refine CL (Z02 hK h) ?_;rintro _ w1 ⟨rfl,sv1,h1⟩;refine W ?_;refine CL (Z0o hK h1 hl _ 0) ?_;rintro _ w2 ⟨rfl,h2⟩;refine RT ?_;exact ⟨rfl,h2⟩
theorem Zkh (hK:KOk K) {a b:Int} (h:Mch K w sv pv (st++[a,b]) sp at_ 0 false) (hl:st.length≤100000) (n:Int) (hr:True) :
 CC 147 #[mP K,.I n] w fun r w'=>r=.tuple #[]∧Res K w' st sp at_ ((min a b,0)):=by
 try unfold I64 at hr
 refine cW2 16 Tryz.func147 ?_;refine W ?_;refine CL (Z02 hK h) ?_;rintro _ w1 ⟨rfl,sv1,h1⟩;refine W ?_;refine CL (Z0o hK h1 hl _ 0) ?_;rintro _ w2 ⟨rfl,h2⟩;refine RT ?_;exact ⟨rfl,h2⟩
theorem Zki (hK:KOk K) {a b:Int} (h:Mch K w sv pv (st++[a,b]) sp at_ 0 false) (hl:st.length≤100000) (n:Int) (hr:I64 (b - a)) :
 CC 148 #[mP K,.I n] w fun r w'=>r=.tuple #[]∧Res K w' st sp at_ (Z4w (b - a)):=by
 try unfold I64 at hr
 refine cW2 16 Tryz.func148 ?_;refine W ?_;refine CL (Z02 hK h) ?_;rintro _ w1 ⟨rfl,sv1,h1⟩;refine W ?_;refine CL (Z5A hK h1 hl _) ?_;rintro _ w2 ⟨rfl,h2⟩;refine RT ?_;exact ⟨rfl,h2⟩
end
section
variable {K:MK} {w w':World} {sv pv:Value} {st:List Int} {sp:List Spn} {at_ er:Int} {dn:Bool}
theorem ZxV (hK:KOk K) {b:Int} (h:Mch K w sv pv (st++[b]) sp at_ 0 false) (hl:st.length≤100000) (n:Int) (hr:I64 (-b)) :
 CC 133 #[mP K,.I n] w fun r w'=>r=.tuple #[]∧Res K w' st sp at_ (Z4w (-b)):=by
 unfold I64 at hr;refine cW2 9 Tryz.func133 ?_;refine W ?_;refine CL (Z39 hK h) ?_;rintro _ w1 ⟨rfl,sv1,h1⟩;refine W ?_;refine CL (Z5A hK h1 hl _) ?_;rintro _ w2 ⟨rfl,h2⟩;refine RT ?_;exact ⟨rfl,h2⟩
theorem ZxW (hK:KOk K) {b:Int} (h:Mch K w sv pv (st++[b]) sp at_ 0 false) (hl:st.length≤100000) (n:Int) :
 CC 137 #[mP K,.I n] w fun r w'=>r=.tuple #[]∧Res K w' st sp at_ (Z3P (decide (b=0)),0):=by
 refine cW2 9 Tryz.func137 ?_;refine W ?_;refine CL (Z39 hK h) ?_;rintro _ w1 ⟨rfl,sv1,h1⟩;refine W ?_;refine CL (ZaS hK h1 hl _) ?_;rintro _ w2 ⟨rfl,h2⟩;refine RT ?_;exact ⟨rfl,h2⟩
theorem Zx1 (hK:KOk K) (h:Mch K w sv pv st sp at_ er dn) (n:Int) :
 CC 138 #[mP K,.I n] w fun r w'=>r=.tuple #[]∧Mch K w' sv pv st sp n er dn:=by
 have hblk:=h.blk;unfold Z5v at hblk;refine cW2 8 Tryz.func138 ?_;refine W ?_;refine Z5 (Za (u:=.I n) rfl rfl rfl rfl hblk (by simp [evC,Z0e])) ?_;rintro _ w1 ⟨hS1,hblk1⟩;refine RT ?_;exact ⟨rfl,h.put hK hS1 hblk1⟩
theorem Zx2 (hK:KOk K) (h:Mch K w sv pv st sp at_ er dn) (n:Int) :
 CC 149 #[mP K,.I n] w fun r w'=>r=.tuple #[]∧Mch K w' sv pv st sp at_ er true:=by
 have hblk:=h.blk;unfold Z5v at hblk;refine cW2 7 Tryz.func149 ?_;refine W ?_;refine Z5 (Za (u:=.B true) rfl rfl rfl rfl hblk (by simp [evC,Z0e])) ?_;rintro _ w1 ⟨hS1,hblk1⟩;refine RT ?_;exact ⟨rfl,h.put hK hS1 hblk1⟩
theorem Znq (hK:KOk K) {b:Int} (h:Mch K w sv pv (st++[b]) sp at_ er dn) (n:Int) :
 CC 139 #[mP K,.I n] w fun r w'=>r=.tuple #[]∧∃ sv',Mch K w' sv' pv st sp (if b=0 then n else at_) er dn:=by
 refine cW2 11 Tryz.func139 ?_;refine W ?_;refine CL (Z39 hK h) ?_;rintro _ w1 ⟨rfl,sv1,h1⟩;have hblk:=h1.blk;unfold Z5v at hblk;by_cases hb:b=0;rw [if_pos hb];refine QO ?_;refine Z5 (Za (u:=.I n) rfl rfl rfl rfl hblk (by simp [evC,Z0e])) ?_;rintro _ w2 ⟨hS1,hblk1⟩;refine RT ?_;exact ⟨rfl,sv1,h1.put hK hS1 hblk1⟩;rw [if_neg hb];refine RT ?_;exact ⟨rfl,sv1,h1⟩
theorem Znr (a b c d e f g:Int) (w):(Instr.build 282 #[(0,.I a),(1,.I b),(2,.I c),(3,.I d),(4,.I e),(5,.I f),(6,.I g)]).run Tryz.prog w=.ok (.agg #[.I a,.I b,.I c,.I d,.I e,.I f,.I g]) w:=by kernel_rfl
theorem ZtJ (hK:KOk K) (h:Mch K w sv pv st sp at_ 0 false) (hl:st.length≤100000) (n:Int) (h0:0≤n) (h7:n<7) :
 CC 129 #[mP K,.I n] w fun r w'=>r=.tuple #[]∧Res K w' st sp at_ (ZdN K.ev n):=by
 have hblk:=h.blk;unfold Z5v evC Z0e at hblk;have hbl:=hK.bml;have hev:=hK.ev.served;refine cW2 56 Tryz.func129 ?_;refine W ?_;refine ZDr 38 [] [37] [(0,0),(1,0),(2,0),(3,0),(4,1),(5,0),(6,0),(7,0),(8,0),(9,1),(10,0),(11,0),(12,0),(13,0),(14,1),(15,0),(16,0),(17,0),(18,0),(19,1),(20,0),(21,0),(22,0),(23,0),(24,1),(25,0),(26,0),(27,0),(28,0),(29,1),(30,0),(31,0),(32,0),(33,0),(34,1),(35,0),(36,2),(37,2)] (fun w1 hS1=>?_);replace h:=h.up hS1;replace hblk:=hblk.up hS1;refine D ?_;refine Z2w rfl trivial rfl (Znr _ _ _ _ _ _ _) rfl ?_;refine Zc rfl trivial Z2 (fun _ _ ⟨_,_,_,_,h⟩=>h) rfl ?_;rintro _ w2 ⟨b2,rfl,hb2,e2,hS2⟩;refine Jy rfl trivial (Z9 (us:=evC K.ev) rfl rfl rfl rfl (by intro u hu;simp [evC] at hu;rcases hu with rfl|rfl|rfl|rfl|rfl|rfl|rfl<;>rfl) e2 rfl) rfl ?_;rintro _ w3 ⟨hT,e3⟩;have hS3:=hS2.ow hT;replace h:=h.up hS3;unfold evC at e3;refine D ?_;clear hblk hS1 e2 hT hS2 hS3;have fin:∀ (v e:Int),(v,e)=ZdN K.ev n→∀ w',Res K w' st sp at_ (v,e)→Ret (fun r w'=>r=.tuple #[]∧Res K w' st sp at_ (ZdN K.ev n)) (.returned (.tuple #[])) w':=by
  intro v e he w' hr;rw [← he];exact .mk ⟨rfl,hr⟩
 have hn:n=0∨n=1∨n=2∨n=3∨n=4∨n=5∨n=6:=by omega
 rcases hn with rfl|rfl|rfl|rfl|rfl|rfl|rfl
 case inr.inl=>
  by_cases hs:K.ev.getD 1 0<0;refine QO ?_;focus repeat'(first|refine W1 ?_|omega|refine VG ?_ ?_<;>intro hg|refine VC ?_ ?_<;>intro hc)
  refine CL (Z0o hK h hl 0 32) ?_;rintro _ w4 ⟨rfl,h1⟩;refine W ?_;refine WR ?_;refine fin _ _ ?_ _ h1;unfold ZdN;rw [if_pos ⟨rfl,by omega⟩];refine QO ?_;focus repeat'(first|refine W1 ?_|omega|refine VG ?_ ?_<;>intro hg|refine VC ?_ ?_<;>intro hc)
  focus repeat'(first|refine W1 ?_|omega|refine VG ?_ ?_<;>intro hg|refine VC ?_ ?_<;>intro hc)
  refine CL (Z0o hK h hl _ 0) ?_;rintro _ w4 ⟨rfl,h1⟩;refine W ?_;refine WR ?_;refine fin _ _ ?_ _ h1;unfold ZdN;rw [if_neg (by rintro ⟨-,h⟩;omega)];rfl
 case inl=>
  refine QO ?_;repeat'(first|refine W1 ?_|omega|refine VG ?_ ?_<;>intro hg|refine VC ?_ ?_<;>intro hc)
  refine CL (Z0o hK h hl _ 0) ?_;rintro _ w4 ⟨rfl,h1⟩;refine W ?_;refine WR ?_;exact fin _ _ rfl _ h1
 case inr.inr.inl=>
  refine QO ?_;repeat'(first|refine W1 ?_|omega|refine VG ?_ ?_<;>intro hg|refine VC ?_ ?_<;>intro hc)
  refine CL (Z0o hK h hl _ 0) ?_;rintro _ w4 ⟨rfl,h1⟩;refine W ?_;refine WR ?_;exact fin _ _ rfl _ h1
 case inr.inr.inr.inl=>
  refine QO ?_;refine Z13 (len:=7) (i:=3) rfl rfl rfl (by decide) rfl ?_;refine QO ?_;refine CL (Z0o hK h hl _ 0) ?_;rintro _ w4 ⟨rfl,h1⟩;refine W ?_;refine WR ?_;exact fin _ _ rfl _ h1
 case inr.inr.inr.inr.inl=>
  refine QO ?_;refine Z13 (len:=7) (i:=4) rfl rfl rfl (by decide) rfl ?_;refine QO ?_;refine CL (Z0o hK h hl _ 0) ?_;rintro _ w4 ⟨rfl,h1⟩;refine W ?_;refine WR ?_;exact fin _ _ rfl _ h1
 case inr.inr.inr.inr.inr.inl=>
  refine QO ?_;refine Z13 (len:=7) (i:=5) rfl rfl rfl (by decide) rfl ?_;refine QO ?_;refine CL (Z0o hK h hl _ 0) ?_;rintro _ w4 ⟨rfl,h1⟩;refine W ?_;refine WR ?_;exact fin _ _ rfl _ h1
 case inr.inr.inr.inr.inr.inr=>
  refine QO ?_;refine Z13 (len:=7) (i:=6) rfl rfl rfl (by decide) rfl ?_;refine QO ?_;refine CL (Z0o hK h hl _ 0) ?_;rintro _ w4 ⟨rfl,h1⟩;refine W ?_;refine WR ?_;exact fin _ _ rfl _ h1
end
def Zns {α:Type} [Z3 α] (P:Program) (S:List Nat) (g:Nat) (lb:Array Value) (c:α→α→Int) (w:World):Prop:=
 ∀ (x y:α) (w':World),Stp S w w'→Calls P g (#[agg x,agg y]++lb) w' (Ret fun v w''=>v=.I (c x y)∧Stp [] w' w'')
theorem Zf2 (x:Int) (w):CC 125 #[.I x] w fun v w'=>v=.B false∧Stp [] w w':=by
 refine cW1 6 Tryz.func125 ?_;repeat'(first|(apply Z2v;exact rfl;exact rfl)|apply Z2K|(apply Z57;exact rfl;exact rfl)|(apply ZiC;exact rfl;exact rfl;exact rfl)|(apply Zev;exact rfl;exact rfl;exact rfl)|apply Z7h|apply Z2u|apply Z7i|refine Z46 ?_|refine Z1k ?_)
 refine RU ?_;exact ⟨by simp,Stp.refl _ _⟩
def Zkj (x y:Int):Int:=if x<y then -1 else if x > y then 1 else 0
theorem Zcv (x y:Int) (w):CC 75 #[.I x,.I y] w fun v w'=>v=.I (Zkj x y)∧Stp [] w w':=by
 refine cW2 20 Tryz.func75 ?_;repeat'(first|(apply Z2v;exact rfl;exact rfl)|apply Z2K|(apply Z57;exact rfl;exact rfl)|(apply Za0;exact rfl;exact rfl;exact rfl)|(apply Za1;exact rfl;exact rfl;exact rfl)|apply Z7h|apply Z2u|apply Z75|apply Z7i|(apply Z1A;exact rfl)|(apply Z1f;exact rfl)|refine Z46 ?_|refine Z1k ?_)
 refine CL (Zf2 _ _) ?_;rintro _ w1 ⟨rfl,hS⟩;repeat'(first|(apply Z2v;exact rfl;exact rfl)|apply Z2K|(apply Z57;exact rfl;exact rfl)|(apply Za0;exact rfl;exact rfl;exact rfl)|(apply Za1;exact rfl;exact rfl;exact rfl)|apply Z7h|apply Z2u|apply Z75|apply Z7i|(apply Z1A;exact rfl)|(apply Z1f;exact rfl)|refine Z46 ?_|refine Z1k ?_)
 refine CL (Zf2 _ _) ?_;rintro _ w2 ⟨rfl,hS2⟩;replace hS:=hS.trans hS2;repeat'(first|(apply Z2v;exact rfl;exact rfl)|apply Z2K|(apply Z57;exact rfl;exact rfl)|(apply Za0;exact rfl;exact rfl;exact rfl)|(apply Za1;exact rfl;exact rfl;exact rfl)|apply Z7h|apply Z2u|apply Z75|apply Z7i|(apply Z1A;exact rfl)|(apply Z1f;exact rfl)|refine Z46 ?_|refine Z1k ?_|refine Z9O rfl (fun hc=>?_) (fun hc=>?_)|refine Zba rfl (fun hc=>?_) (fun hc=>?_))
 all_goals (refine WR ?_)
 all_goals exact .mk ⟨by unfold Zkj;(first|(simp_all;done)|(rw [if_neg (by omega),if_neg (by omega)])),hS⟩
def put {α:Type} (pre rest:List α) (x:α) (j:Nat):List α:=pre.take j++x :: pre.drop j++rest
theorem Zkk {α:Type} {pre rest:List α} {x:α} {j:Nat} (hj:j<pre.length):((put pre rest x (j+1)).set (j+1) pre[j]).set j x=put pre rest x j:=by
 have h1:pre.take (j+1)=pre.take j++[pre[j]]:=Xi hj;have h2:pre.drop j=pre[j] :: pre.drop (j+1):=Yab hj;have hl:(pre.take j).length=j:=by simp;omega
 unfold put;rw [h1,h2];simp only [Xx,XR,XL];rw [YbD,if_neg (by omega),hl,show j+1 - j=1 by omega];rw [YbD,if_neg (by omega),hl,Nat.sub_self];rfl
theorem ZtK {α:Type} {pre rest:List α} {x:α} {j:Nat} (hj:j≤pre.length) (h:j<(put pre rest x j).length):(put pre rest x j)[j]=x:=by
 rw [List.getElem_eq_iff];unfold put;rw [X9 (by simp;omega),Yaz (by simp;omega)];simp [Yad hj]
theorem ZdX {α:Type} {pre rest:List α} {x:α} {j:Nat} (hj:j<pre.length) (h:j<(put pre rest x (j+1)).length):(put pre rest x (j+1))[j]=pre[j]:=by
 rw [List.getElem_eq_iff];unfold put;rw [X9 (by simp;omega),X9 (by simp;omega)];simp [hj]
theorem ZaT {α:Type} {pre rest:List α} {x:α} {j:Nat}:(put pre rest x j).length=pre.length+1+rest.length:=by
 have:=congrArg List.length (XB j pre);simp only [Xc] at this;simp only [put,Xc,Xe];omega
def Z9t {α:Type} (c:α→α→Int) (xs ys:List α):Prop:=ys.Perm xs∧ys.Pairwise (fun a b=>¬ c b a<0)
structure Ord {α:Type} (c:α→α→Int):Prop where
 asym:∀ a b,c a b<0→¬ c b a<0
 trans:∀ a b d,¬ c b a<0→¬ c d b<0→¬ c d a<0
theorem ZdY {α:Type} {c:α→α→Int} (ho:Ord c) {pre:List α} {x:α} {j:Nat} (hj:j≤pre.length) (hp:pre.Pairwise (fun a b=>¬ c b a<0))
 (h1:∀ q (h:q<pre.length),j≤q→c x pre[q]<0) (h2:∀ h:j - 1<pre.length,0<j→¬ c x pre[j - 1]<0):(pre.take j++x :: pre.drop j).Pairwise (fun a b=>¬ c b a<0):=by
 rw [Ybd];have hd:∀ a∈pre.drop j,c x a<0:=by
  intro a ha;obtain ⟨m,hm,rfl⟩:=Xr ha;simp only [List.getElem_drop];simp at hm;exact h1 _ _ (by omega)
 have ht:∀ a∈pre.take j,¬ c x a<0:=by
  intro a ha;obtain ⟨m,hm,rfl⟩:=Xr ha;simp only [Xt] at hm;simp only [List.getElem_take];by_cases e:m=j - 1;subst e;exact h2 (by omega) (by omega);exact ho.trans _ _ _ (Yal.1 hp m (j - 1) (by omega) (by omega) (by omega)) (h2 (by omega) (by omega))
 refine ⟨hp.sublist (List.take_sublist _ _),?_,?_⟩;rw [XZ];exact ⟨fun a ha=>ho.asym _ _ (hd a ha),hp.sublist (List.drop_sublist _ _)⟩;intro a ha b hb;rcases Xb.1 hb with rfl|hb
 exact ht a ha;exact fun h=>by
  have h3:=hd b hb;exact ho.trans a x b (ht a ha) (ho.asym _ _ h3) h
theorem Z5B (x y:Int):Zkj x y<0↔x<y:=by unfold Zkj;split<;>(try split)<;>omega
def Z2j (y:Nat):Nat:=
 let a:=y % 19
 let b:=y / 100
 let c:=y % 100
 let g:=(b - (b+8) / 25+1) / 3
 let h:=(19 * a+b - b / 4 - g+15) % 30
 let l:=(32+2 * (b % 4)+2 * (c / 4) - h - c % 4) % 7
 h+l+114 - 7 * ((a+11 * h+22 * l) / 451)
def Zx3 (y:Nat):Nat:=(11 * (y % 19+1)+20+((8 * (y / 100+1)+5) / 25 - 5)+60 - (3 * (y / 100+1) / 4 - 12)) % 30
def Zx4 (e g:Nat):Nat:=bif Nat.beq e 24 || (Nat.beq e 25 && Nat.blt 11 g) then e+1 else e
def Zx5 (e d:Nat):Nat:=let n:=(bif Nat.blt (44 - e) 21 then 44 - e+30 else 44 - e);n+7 - (d+n) % 7
def Zkl (y:Nat):Nat:=Zx5 (Zx4 (Zx3 y) (y % 19+1)) (5 * y / 4 - (3 * (y / 100+1) / 4 - 12) - 10)
def Zf3 (y:Nat):Bool:=Nat.beq (Z2j y) (Zkl y+92) && (Nat.ble 114 (Z2j y) && Nat.ble (Z2j y) 148)
def Zgr:Nat→Nat→Bool
 | 0,lo=>Zf3 lo
 | k+1,lo=>Zgr k lo && Zgr k (lo+2 ^ k)
theorem Z4q:∀ (k lo d:Nat),Zgr k lo=true→lo≤d→d<lo+2 ^ k→Zf3 d=true
 | 0, lo, d, h, h1, h2 => by
   have:d=lo:=by simp at h2;omega
   subst this;exact h
 | k + 1, lo, d, h, h1, h2 => by
   simp only [Zgr,Xm] at h;rcases Yas d (lo+2 ^ k) with h3|h3
   exact Z4q k lo d h.1 h1 h3;exact Z4q k _ d h.2 h3 (by rw [Ybl] at h2;omega)
theorem Zgs:Zgr 13 1583=true:=by kernel_rfl
theorem Zgt:Zgr 8 9775=true:=by kernel_rfl
theorem Znt {y:Nat} (h1:1583≤y) (h2:y≤9999):Z2j y=Zkl y+92∧114≤Z2j y∧Z2j y≤148:=by
 have h:Zf3 y=true:=by
  rcases Yas y 9775 with h3|h3
  exact Z4q 13 1583 y Zgs h1 (by omega);exact Z4q 8 9775 y Zgt h3 (by omega)
 unfold Zf3 at h;simp only [Xm] at h;exact ⟨XK h.1,XU h.2.1,XU h.2.2⟩
theorem Zgu {y:Nat} (h1:1583≤y) (h2:y≤9999):Z3j (y:Int)=(Z2j y:Int):=by
 unfold Z3j Z2j;dsimp only;have e1:(y:Int) % 19=((y % 19:Nat):Int):=by omega
 have e2:(y:Int) / 100=((y / 100:Nat):Int):=by omega
 have e3:(y:Int) % 100=((y % 100:Nat):Int):=by omega
 rw [e1,e2,e3];have ha:y % 19≤18:=by omega
 have hb:15≤y / 100∧y / 100≤99:=by omega
 have hc:y % 100≤99:=by omega
 generalize y % 19=a at *;generalize y / 100=b at *;generalize y % 100=c at *;have e4:((b:Int) - ((b:Int)+8) / 25+1) / 3=(((b - (b+8) / 25+1) / 3:Nat):Int):=by omega
 have hg:(b - (b+8) / 25+1) / 3+b / 4≤b:=by omega
 rw [e4];generalize (b - (b+8) / 25+1) / 3=g at *;have e5:(19 * (a:Int)+(b:Int) - (b:Int) / 4 - (g:Int)+15) % 30=(((19 * a+b - b / 4 - g+15) % 30:Nat):Int):=by omega
 rw [e5];have hh:(19 * a+b - b / 4 - g+15) % 30≤29:=by omega
 generalize (19 * a+b - b / 4 - g+15) % 30=h at *;have e6:(32+2 * ((b:Int) % 4)+2 * ((c:Int) / 4) - (h:Int) - (c:Int) % 4) % 7=(((32+2 * (b % 4)+2 * (c / 4) - h - c % 4) % 7:Nat):Int):=by omega
 rw [e6];have hl:(32+2 * (b % 4)+2 * (c / 4) - h - c % 4) % 7≤6:=by omega
 generalize (32+2 * (b % 4)+2 * (c / 4) - h - c % 4) % 7=l at *;omega
theorem Z6P {y:Int} (h1:1583≤y) (h2:y≤9999):114≤Z3j y∧Z3j y≤148:=by
 obtain ⟨k,rfl⟩:∃ k:Nat,y=(k:Int):=⟨y.toNat,by omega⟩
 have:=Znt (y:=k) (by omega) (by omega);rw [Zgu (by omega) (by omega)];omega
theorem ZdZ (y d:Int):Z04 y 3 d=Z04 y 3 1+d - 1∧Z04 y 4 d=Z04 y 3 1+31+d - 1:=by
 constructor;rw [show (3:Int)=((2:Nat):Int)+1 by rfl,Z2A y d 2 (by omega),Z2A y 1 2 (by omega)];omega;rw [show (4:Int)=((3:Nat):Int)+1 by rfl,show (3:Int)=((2:Nat):Int)+1 by rfl,Z2A y d 3 (by omega),Z2A y 1 2 (by omega)];have:Z2a y 3=Z2a y 2+31:=by
  have:Z2a y 3=Z2a y 2+ZL y 3:=by simp [Z2a]
  rw [this];rfl
 omega
theorem Z2k (n a b:Int) (w):CC 213 #[.I n,.I a,.I b] w fun r w'=>r=.B (decide (a≤n∧n≤b))∧w'=w:=by
 refine cW3 15 Tryz.func213 ?_;by_cases h1:n≥a;by_cases h2:n≤b;rw [decide_eq_true ⟨h1,h2⟩];refine RT ?_;exact ⟨by simp [h2],rfl⟩;rw [decide_eq_false (fun h=>h2 h.2)];refine RT ?_;exact ⟨by simp [h2],rfl⟩;rw [decide_eq_false (fun h=>h1 h.1)];refine RT ?_;exact ⟨rfl,rfl⟩
theorem Z3W (d:Int) (w) (h0:0≤d) (h1:d≤9000000000):CC 155 #[.I d] w fun r w'=>r=.I (d % 7)∧w'=w:=by
 refine cW1 7 Tryz.func155 ?_;refine RT ?_;exact ⟨by congr 1;omega,rfl⟩
theorem Ze0 (y:Int) (w):CC 312 #[.I y] w fun r w'=>r=.tuple #[.I (if y<1583∨9999<y then 0 else Z5u y),.I (if y<1583∨9999<y then 5 else 0)]∧Stp [] w w':=by
 refine cW1 77 Tryz.func312 ?_;by_cases hy:y<1583∨9999<y
 · rw [if_pos hy,if_pos hy]
   repeat'(first|refine W1 ?_|omega|refine VG ?_ ?_<;>intro hg|refine VC ?_ ?_<;>intro hc)
   all_goals refine WR ?_
   all_goals exact .mk ⟨rfl,Stp.refl _ _⟩
 rw [if_neg hy,if_neg hy];have hb:=Z6P (y:=y) (by omega) (by omega)
 have he:Z2R (Z3j y=(19 * (y % 19)+y / 100 - y / 100 / 4 - (y / 100 - (y / 100+8) / 25+1) / 3+15) % 30 +
  (32+2 * (y / 100 % 4)+2 * (y % 100 / 4) - (19 * (y % 19)+y / 100 - y / 100 / 4 - (y / 100 - (y / 100+8) / 25+1) / 3+15) % 30 - y % 100 % 4) % 7 -
  7 * ((y % 19+11 * ((19 * (y % 19)+y / 100 - y / 100 / 4 - (y / 100 - (y / 100+8) / 25+1) / 3+15) % 30)+22 * ((32+2 * (y / 100 % 4)+2 * (y % 100 / 4) - (19 * (y % 19)+y / 100 - y / 100 / 4 - (y / 100 - (y / 100+8) / 25+1) / 3+15) % 30 - y % 100 % 4) % 7)) / 451)+114):=⟨rfl⟩
 have g1:0≤y % 19∧y % 19≤18:=by omega
 have g2:15≤y / 100∧y / 100≤99:=by omega
 have g3:0≤y % 100∧y % 100≤99:=by omega
 refine QO ?_;have g4:0≤(19 * (y % 19)+y / 100 - y / 100 / 4 - (y / 100 - (y / 100+8) / 25+1) / 3+15) % 30∧(19 * (y % 19)+y / 100 - y / 100 / 4 - (y / 100 - (y / 100+8) / 25+1) / 3+15) % 30≤29:=by omega
 generalize (19 * (y % 19)+y / 100 - y / 100 / 4 - (y / 100 - (y / 100+8) / 25+1) / 3+15) % 30=H at he g4 ⊢;have g5:0≤(32+2 * (y / 100 % 4)+2 * (y % 100 / 4) - H - y % 100 % 4) % 7∧(32+2 * (y / 100 % 4)+2 * (y % 100 / 4) - H - y % 100 % 4) % 7≤6:=by omega
 refine W ?_;generalize (32+2 * (y / 100 % 4)+2 * (y % 100 / 4) - H - y % 100 % 4) % 7=L at he g5 ⊢;rw [← he.h];refine Z8 (vs:=[(0,.I y),(1,.I (Z3j y / 31)),(2,.I (Z3j y % 31+1))]) rfl (Z5m _ _ _) rfl ?_;refine CM (ZX rfl) (Z4Y y _ _ _ (by omega) (by omega) (by omega) (by omega) (by omega) (by omega) (by omega)) ?_;rintro _ w1 ⟨rfl,hS⟩;refine RT ?_;exact ⟨rfl,hS⟩
theorem Z2H {y m:Int} (hy:1≤y) (hy2:y≤9999) (hm:1≤m) (hm2:m≤12):¬ Z1U y m 1∧0≤Z04 y m 1∧Z04 y m 1≤3652058∧28≤ZL y m∧ZL y m≤31:=by
 have hl:=Z2g (y:=y) (k:=(m - 1).toNat) (by omega);rw [show (((m - 1).toNat:Int))+1=m by omega] at hl;have h31:=Z2Y y m;have:=dayM_range hy hy2 hm hm2 (d:=1) (by omega) (by omega);exact ⟨by unfold Z1U;omega,this.1,this.2,hl,h31⟩
theorem Z8c (h:Hol) (y:Int) (w) (hL:Z0E w) (hy:1≤y) (hy2:y≤9999) (hm:1≤h.month) (hm2:h.month≤12) (hw:0≤h.wd) (hw2:h.wd≤6) :
 CC 307 #[agg h,.I y] w fun r w'=>r=.tuple #[.I (Z04 y h.month 1),.I (Z3M y h.month h.wd)]∧Stp [] w w':=by
 obtain ⟨f1,f2,f3,f4,f5⟩:=Z2H hy hy2 hm hm2;refine cW2 26 Tryz.func307 ?_;refine W ?_;refine Z1 (Zq rfl) rfl ?_;rintro _ w1 ⟨b,rfl,hb,hblk,hS⟩;replace hblk:Blk w1 b 138 (Z3.enc h):=hblk;replace hL:=hL.up hS;refine W ?_;refine Z8 (vs:=[(0,.I y),(1,.I h.month),(2,.I 1)]) rfl (Z5m _ _ _) rfl ?_;refine CL (Z7J y _ _ _ hL) ?_;rintro _ w2 ⟨rfl,hT⟩;rw [if_neg f1,if_neg f1];replace hblk:=hblk.up hT;replace hS:=hS.trans hT;clear hT;refine W ?_;refine ZDr 12 [] [] [(0,0),(1,0),(2,0),(3,1),(4,0),(5,2),(6,0),(7,0),(8,0),(9,0),(10,0),(11,0)] (fun w1 hS1=>?_);replace hblk:=hblk.up hS1;replace hS:=hS.trans hS1;clear hS1;refine D ?_;refine Zc rfl trivial (Zd rfl (ZX rfl) (Z3W _ _ f2 (by omega))) (fun _ _ h=>by rw [h.2];exact Stp.refl _ _) rfl ?_;rintro _ w3 ⟨rfl,rfl⟩;refine D ?_;refine W ?_;refine WR ?_;refine .mk ⟨?_,hS⟩;unfold Z3M;rfl
def Z1G (h:Hol) (y:Int):Int×Bool:=
 if h.kind=1 then (if Z1U y h.month h.day then 0 else Z04 y h.month h.day,!decide (Z1U y h.month h.day))
 else if h.kind=2 then (Z3M y h.month h.wd+7 * (h.nth - 1),decide (Z3M y h.month h.wd+7 * (h.nth - 1)<Z04 y h.month 1+ZL y h.month))
 else if h.kind=3 then (Z3M y h.month h.wd+(Z04 y h.month 1+ZL y h.month - 1 - Z3M y h.month h.wd) / 7 * 7,true)
 else ((if y<1583∨9999<y then 0 else Z5u y)+h.off,!decide (y<1583∨9999<y))
theorem ZtL {h:Hol} {y:Int} (h1:h.first≤y) (h2:y≤h.last):Znb h y=if (Z1G h y).2=true then some (Z1G h y).1 else none:=by
 unfold Znb Z1G;rw [if_neg (by omega)];by_cases k1:h.kind=1;rw [if_pos k1,if_pos k1];by_cases hb:Z1U y h.month h.day;simp [hb];simp [hb];rw [if_neg k1,if_neg k1];by_cases k2:h.kind=2;rw [if_pos k2,if_pos k2];simp;rw [if_neg k2,if_neg k2];by_cases k3:h.kind=3;rw [if_pos k3,if_pos k3];rfl;rw [if_neg k3,if_neg k3];by_cases hy:y<1583∨9999<y;simp [hy];simp [hy]
abbrev Zcw (h:Hol) (y:Int):Value:=.tuple #[.I (Z1G h y).1,.B (Z1G h y).2]
theorem Z6Q {y:Int} (h1:1583≤y) (h2:y≤9999):1000≤Z5u y∧Z5u y≤3652058:=by
 have hb:=Z6P h1 h2;have e3:ZL y 3=31:=rfl;have e4:ZL y 4=30:=rfl;have hs:=Z3G h1;have hs1:500000≤Z19 1583:=by decide
 have hm3:=ZdZ y (Z3j y % 31+1);have hd3:Z04 y 3 1=Z19 y+Z2a y 2:=by
  have:=Z2A y 1 2 (by omega);rw [show ((2:Nat):Int)+1=3 by rfl] at this;omega
 have hc:0≤Z2a y 2:=by
  have:=Z4e (y:=y) (Xq 2) (by omega);simpa [Z2a] using this
 unfold Z5u;have hm:Z3j y / 31=3∨Z3j y / 31=4:=by omega
 rcases hm with hm|hm
 rw [hm];exact ⟨by omega,(dayM_range (by omega) h2 (by omega) (by omega) (by omega) (by omega)).2⟩;rw [hm];exact ⟨by omega,(dayM_range (by omega) h2 (by omega) (by omega) (by omega) (by omega)).2⟩
theorem Z3a {y m wd:Int} (hy:1≤y) (hy2:y≤9999) (hm:1≤m) (hm2:m≤12):Z04 y m 1≤Z3M y m wd∧Z3M y m wd≤Z04 y m 1+6:=by
 unfold Z3M;omega
theorem Ze1 {h:Hol} {y:Int} (ho:Z1Z h) (h1:h.first≤y) (h2:y≤h.last) (hp:(Z1G h y).2=true):0≤(Z1G h y).1∧(Z1G h y).1≤3653000:=by
 have hy:=ho.f1;have hy2:=ho.l1;have hk1:=ho.k1;have hk2:=ho.k2;unfold Z1G at hp ⊢;by_cases k1:h.kind=1;rw [if_pos k1] at hp ⊢;obtain ⟨m1,m2⟩:=ho.month (by omega);by_cases hb:Z1U y h.month h.day;simp [hb] at hp;dsimp only;rw [if_neg hb];unfold Z1U at hb;have:=dayM_range (y:=y) (m:=h.month) (d:=h.day) (by omega) (by omega) (by omega) (by omega) (by omega) (by omega);omega;rw [if_neg k1] at hp ⊢;by_cases k2:h.kind=2;rw [if_pos k2] at hp ⊢;obtain ⟨m1,m2⟩:=ho.month (by omega);obtain ⟨n1,n2⟩:=ho.nth k2;obtain ⟨f1,f2,f3,f4,f5⟩:=Z2H (y:=y) (by omega) (by omega) m1 m2;obtain ⟨f6,f7⟩:=Z3a (y:=y) (wd:=h.wd) (by omega) (by omega) m1 m2;dsimp only;omega;rw [if_neg k2] at hp ⊢;by_cases k3:h.kind=3;rw [if_pos k3] at hp ⊢;obtain ⟨m1,m2⟩:=ho.month (by omega);obtain ⟨f1,f2,f3,f4,f5⟩:=Z2H (y:=y) (by omega) (by omega) m1 m2;obtain ⟨f6,f7⟩:=Z3a (y:=y) (wd:=h.wd) (by omega) (by omega) m1 m2;dsimp only;omega;rw [if_neg k3] at hp ⊢;obtain ⟨o1,o2⟩:=ho.off (by omega);by_cases hy:y<1583∨9999<y;simp [hy] at hp;dsimp only;rw [if_neg hy];have:=Z6Q (y:=y) (by omega) (by omega);omega
theorem Zgv (h:Hol) (y:Int) (w) (hL:Z0E w) (hk:h.kind=1) :
 CC 303 #[agg h,.I y] w fun r w'=>r=Zcw h y∧Stp [] w w':=by
 have e:Z1G h y=(if Z1U y h.month h.day then 0 else Z04 y h.month h.day,!decide (Z1U y h.month h.day)):=by unfold Z1G;rw [if_pos hk]
 unfold Zcw;rw [e];refine cW2 21 Tryz.func303 ?_;refine W ?_;refine Z1 (Zq rfl) rfl ?_;rintro _ w1 ⟨b,rfl,hb,hblk,hS⟩;replace hblk:Blk w1 b 138 (Z3.enc h):=hblk;replace hL:=hL.up hS;refine W ?_;refine Z8 (vs:=[(0,.I y),(1,.I h.month),(2,.I h.day)]) rfl (Z5m _ _ _) rfl ?_;refine CL (Z7J y _ _ _ hL) ?_;rintro _ w2 ⟨rfl,hT⟩;refine W ?_;refine WR ?_;refine .mk ⟨?_,hS.trans hT⟩;by_cases hb:Z1U y h.month h.day<;>simp [hb]
theorem Zgw (h:Hol) (y:Int) (w) (hL:Z0E w) (hy:1≤y) (hy2:y≤9999) (hk:h.kind=2) (ho:Z1Z h) :
 CC 306 #[agg h,.I y] w fun r w'=>r=Zcw h y∧Stp [] w w':=by
 have e:Z1G h y=(Z3M y h.month h.wd+7 * (h.nth - 1),decide (Z3M y h.month h.wd+7 * (h.nth - 1)<Z04 y h.month 1+ZL y h.month)):=by unfold Z1G;rw [if_neg (by omega),if_pos hk]
 obtain ⟨m1,m2⟩:=ho.month (by omega);obtain ⟨d1,d2⟩:=ho.wd (.inl hk);obtain ⟨n1,n2⟩:=ho.nth hk;obtain ⟨f1,f2,f3,f4,f5⟩:=Z2H hy hy2 m1 m2;obtain ⟨f6,f7⟩:=Z3a (wd:=h.wd) hy hy2 m1 m2;unfold Zcw;rw [e];refine cW2 29 Tryz.func306 ?_;refine W ?_;refine Z1 (Zq rfl) rfl ?_;rintro _ w1 ⟨b,rfl,hb,hblk,hS⟩;replace hblk:Blk w1 b 138 (Z3.enc h):=hblk;replace hL:=hL.up hS;refine W ?_;refine CL (Z8c h y _ hL hy hy2 m1 m2 d1 d2) ?_;rintro _ w2 ⟨rfl,hT⟩;replace hblk:=hblk.up hT;replace hL:=hL.up hT;replace hS:=hS.trans hT;refine W ?_;refine CM (Zh rfl rfl) (Z33 y _ _ hL (by omega) (by omega)) ?_;rintro _ _ ⟨rfl,rfl⟩;refine RT ?_;exact ⟨rfl,hS⟩
theorem Zgx (h:Hol) (y:Int) (w) (hL:Z0E w) (hy:1≤y) (hy2:y≤9999) (hk:h.kind=3) (ho:Z1Z h) :
 CC 309 #[agg h,.I y] w fun r w'=>r=Zcw h y∧Stp [] w w':=by
 have e:Z1G h y=(Z3M y h.month h.wd+(Z04 y h.month 1+ZL y h.month - 1 - Z3M y h.month h.wd) / 7 * 7,true):=by unfold Z1G;rw [if_neg (by omega),if_neg (by omega),if_pos hk]
 obtain ⟨m1,m2⟩:=ho.month (by omega);obtain ⟨d1,d2⟩:=ho.wd (.inr hk);obtain ⟨f1,f2,f3,f4,f5⟩:=Z2H hy hy2 m1 m2;obtain ⟨f6,f7⟩:=Z3a (wd:=h.wd) hy hy2 m1 m2;unfold Zcw;rw [e];refine cW2 29 Tryz.func309 ?_;refine W ?_;refine Z1 (Zq rfl) rfl ?_;rintro _ w1 ⟨b,rfl,hb,hblk,hS⟩;replace hblk:Blk w1 b 138 (Z3.enc h):=hblk;replace hL:=hL.up hS;refine W ?_;refine CL (Z8c h y _ hL hy hy2 m1 m2 d1 d2) ?_;rintro _ w2 ⟨rfl,hT⟩;replace hblk:=hblk.up hT;replace hL:=hL.up hT;replace hS:=hS.trans hT;refine W ?_;refine CM (Zh rfl rfl) (Z33 y _ _ hL (by omega) (by omega)) ?_;rintro _ _ ⟨rfl,rfl⟩;refine RT ?_;exact ⟨rfl,hS⟩
theorem Zgy (h:Hol) (y:Int) (w) (hk:h.kind=4) (ho:Z1Z h) :
 CC 311 #[agg h,.I y] w fun r w'=>r=Zcw h y∧Stp [] w w':=by
 have e:Z1G h y=((if y<1583∨9999<y then 0 else Z5u y)+h.off,!decide (y<1583∨9999<y)):=by unfold Z1G;rw [if_neg (by omega),if_neg (by omega),if_neg (by omega)]
 obtain ⟨o1,o2⟩:=ho.off hk;have hr:0≤(if y<1583∨9999<y then 0 else Z5u y)∧(if y<1583∨9999<y then 0 else Z5u y)≤3652058:=by
  split;omega;have:=Z6Q (y:=y) (by omega) (by omega);omega
 unfold Zcw;rw [e];refine cW2 19 Tryz.func311 ?_;refine W ?_;refine Z1 (Zq rfl) rfl ?_;rintro _ w1 ⟨b,rfl,hb,hblk,hS⟩;replace hblk:Blk w1 b 138 (Z3.enc h):=hblk;refine W ?_;refine CL (Ze0 y _) ?_;rintro _ w2 ⟨rfl,hT⟩;replace hblk:=hblk.up hT;replace hS:=hS.trans hT;refine W ?_;refine WR ?_;refine .mk ⟨?_,hS⟩;by_cases hy:y<1583∨9999<y<;>simp [hy]
theorem Ze2 (g:Nat) (fn:Func) [Fun Tryz.prog g fn] (lb:Array Value) (c:Spn→Spn→Int) (ho:Ord c) (X:List Nat) (base:Nat) (v:Value) (xs:List Spn) (w:World) (hX:∀ b∈X,b<base) (hbase:base≤w.heap.size) (hrow:Row X w base 345 v xs) (hp:Zns Tryz.prog (ob v) g lb c w) (hlen:xs.length≤1000) :
 CC 360 #[v,.I 0,.I xs.length,.func (.func g) #[] lb] w fun r w'=>∃ ys,Z9t c xs ys∧Row X w' base 345 v ys∧Stp (ob v) w w':=by
 refine cW4 53 Tryz.func360 ?_;refine W ?_
 refine Zu (σ:=Nat) (fun i=>[(0,v),(1,.I 0),(2,.I xs.length),(3,.func (.func g) #[] lb),(8,.I (i+1))])
  (fun i w'=>Stp (ob v) w w'∧∃ ys,ys.Perm xs∧Row X w' base 345 v ys∧(ys.take (i+1)).Pairwise (fun a b=>¬ c b a<0)) (fun i=>xs.length - i) 0 ⟨rfl,rfl,rfl,rfl,rfl,trivial⟩
  ⟨Stp.refl _ _,xs,YaB _,hrow,?_⟩ ?_
 · cases xs with
   | nil=>simp
   | cons x r=>simp
 rintro i w1 ⟨hS,ys,hperm,hrow,hsort⟩;have hyl:=hperm.length_eq;by_cases hit:i+1<xs.length
 · repeat'(first|refine W1 ?_|refine VG ?_ ?_<;>intro hg|refine VC ?_ ?_<;>intro hc)
   rotate_left
   omega;obtain ⟨pre,x,rest,hpl,rfl⟩:∃ pre x rest,pre.length=i+1∧ys=put pre rest x pre.length:=by
    refine ⟨ys.take (i+1),ys[i+1],ys.drop (i+2),by simp;omega,?_⟩;unfold put;have hl:(ys.take (i+1)).length=i+1:=by simp;omega
    rw [hl,YaA,Nat.min_self,Yau (by omega)]
    conv=>lhs;rw [← XB (i+1) ys,Yab (by omega)]
    simp
   have hpre:pre.Pairwise (fun a b=>¬ c b a<0):=by
    have:(put pre rest x pre.length).take (i+1)=pre:=by
     unfold put;rw [Xo,YaU,Xx,← hpl,YbF];rfl
    rwa [this] at hsort
   have hpl2:pre.length+1+rest.length=xs.length:=by rw [← hyl,ZaT]
   have fin:∀ j (w':World),j≤pre.length→Stp (ob v) w w'→Row X w' base 345 v (put pre rest x j)→(∀ q (h:q<pre.length),j≤q→c x pre[q]<0)→(∀ h:j - 1<pre.length,0<j→¬ c x pre[j - 1]<0)→
    Stp (ob v) w w'∧∃ ys,ys.Perm xs∧Row X w' base 345 v ys∧(ys.take (i+1+1)).Pairwise (fun a b=>¬ c b a<0):=by
    intro j w' hj hS hrow h1 h2;refine ⟨hS,put pre rest x j,?_,hrow,?_⟩;refine List.Perm.trans ?_ hperm;unfold put;rw [Xo,YaU];refine List.Perm.append_right _ ?_;refine List.Perm.trans List.perm_middle ?_;rw [XB];exact (List.perm_append_singleton x pre).symm;have e:(put pre rest x j).take (i+1+1)=pre.take j++x :: pre.drop j:=by
     have hl:(pre.take j++x :: pre.drop j).length=i+1+1:=by
      have:=congrArg List.length (XB j pre);simp only [Xc] at this;simp only [Xc,Xe];omega
     unfold put;rw [← hl,YbF];rfl
    rw [e];exact ZdY ho hj hpre h1 h2
   refine Zu (σ:=Nat) (fun j=>[(0,v),(1,.I 0),(2,.I xs.length),(3,.func (.func g) #[] lb),(8,.I (i+1)),(9,.I (j:Int))])
    (fun j w'=>j≤pre.length∧Stp (ob v) w w'∧Row X w' base 345 v (put pre rest x j)∧(∀ q (h:q<pre.length),j≤q→c x pre[q]<0)) (fun j=>j) (i+1) ⟨rfl,rfl,rfl,rfl,rfl,rfl,trivial⟩
    ⟨by omega,hS,by rw [hpl] at hrow;exact hrow,fun q h hq=>by omega⟩ ?_
   clear hrow hS;rintro j w2 ⟨hj,hS,hrow,hlt⟩;have hs:=hrow.slv hX;cases j with
   | zero=>
     refine W ?_;refine ZDr 17 [] [] [(0,0),(1,0),(2,0),(3,0),(4,0),(5,0),(6,0),(7,0),(8,1),(9,0),(10,0),(11,0),(12,0),(13,1),(14,2),(15,0),(16,0)] (fun w1 hS1=>?_);replace hS:=hS.trans hS1.mn;replace hrow:=hrow.up hS1;replace hs:=hs.up hS1;refine D ?_;refine W ?_;exact QL (i+1) (fin 0 _ (Xq _) hS hrow hlt (fun _ h=>absurd h (Nat.lt_irrefl _))) (by omega)
   | succ j=>
     have hz:((j+1:Nat):Int) - 1=(j:Int):=by omega
     have hi1:j+1<(put pre rest x (j+1)).length:=by rw [ZaT];omega
     have hi0:j<(put pre rest x (j+1)).length:=by rw [ZaT];omega
     have a1:=ZtK (rest:=rest) (x:=x) hj hi1;have a0:=ZdX (rest:=rest) (x:=x) (Nat.lt_of_succ_le hj) hi0;refine W ?_;refine ZDr 17 [] [] [(0,0),(1,0),(2,0),(3,0),(4,0),(5,0),(6,0),(7,0),(8,1),(9,0),(10,0),(11,0),(12,0),(13,1),(14,2),(15,0),(16,0)] (fun w1 hS1=>?_);replace hS:=hS.trans hS1.mn;replace hrow:=hrow.up hS1;replace hs:=hs.up hS1;refine QD ?_;refine Zc rfl (by first|exact trivial|exact rfl) (Z0h (f:=g) rfl (Zh rfl rfl) rfl (hp _ _ _ hS)) (fun _ _ h=>h.2) rfl ?_;rintro _ w3 ⟨rfl,hS3⟩;rw [a1,a0];replace hS:=hS.trans hS3.mn;replace hrow:=hrow.up hS3;replace hs:=hs.up hS3;refine D ?_
     (refine QP ?_ ?_<;>intro hc)
     rename_i hc;refine ZDr 18 [] [15,17] [(0,0),(1,0),(2,0),(3,0),(4,0),(5,0),(6,0),(7,0),(8,0),(9,1),(10,0),(11,0),(12,0),(13,1),(14,0),(15,2),(16,0),(17,2)] (fun w1 hS1=>?_);replace hS:=hS.trans hS1.mn;replace hrow:=hrow.up hS1;replace hs:=hs.up hS1;refine D ?_;rw [a1,a0];refine Jy rfl trivial (Z7p (i:=j+1) (y':=pre[j]) rfl rfl rfl rfl hrow hX hi1) rfl ?_;rintro _ w4 ⟨hrow,hS4⟩;replace hS:=hS.trans hS4;refine D ?_;refine Jy rfl trivial (Z7p (i:=j) (y':=x) rfl rfl rfl rfl hrow hX (by rw [X4];exact hi0)) rfl ?_;rintro _ w5 ⟨hrow,hS5⟩;replace hS:=hS.trans hS5;rw [Zkk (Nat.lt_of_succ_le hj)] at hrow;refine D ?_;refine W ?_;refine ZD j ⟨rfl,rfl,rfl,rfl,rfl,(by rw [← hz];rfl),trivial⟩ ⟨by omega,hS,hrow,fun q h hq=>?_⟩ (by omega);by_cases e:q=j;subst e;exact hc;exact hlt q h (by omega);exact QL (i+1) (fin (j+1) _ hj hS hrow hlt (fun _ _=>by assumption)) (by omega)
 focus repeat'(first|refine W1 ?_|refine VG ?_ ?_<;>intro hg|refine VC ?_ ?_<;>intro hc)
 omega;refine WR ?_;refine .mk ⟨ys,⟨hperm,?_⟩,hrow,hS⟩
 rwa [XH (by omega)] at hsort
theorem Znu (g:Nat) (fn:Func) [Fun Tryz.prog g fn] (lb:Array Value) (c:Spn→Spn→Int) (ho:Ord c) (X:List Nat) (base:Nat) (v:Value) (xs:List Spn) (w:World) (hX:∀ b∈X,b<base) (hbase:base≤w.heap.size) (hrow:Row X w base 345 v xs) (hp:Zns Tryz.prog (ob v) g lb c w) (hlen:xs.length<20) :
 CC 347 #[v,.I xs.length,.func (.func g) #[] lb] w fun r w'=>∃ ys,Z9t c xs ys∧Row X w' base 345 v ys∧Stp (ob v) w w':=by
 have nl:¬ ((20:Int)≤xs.length):=by omega
 have nl2:¬ ((20:Int)<xs.length):=by omega
 refine cW3 63 Tryz.func347 ?_;refine W ?_;refine Zu (σ:=Unit) (fun _=>[(0,v),(1,.I xs.length),(2,.func (.func g) #[] lb),(6,.I 20),(7,.I 0),(8,.I 20)]) (fun _ w'=>w'=w) (fun _=>0) () ⟨rfl,rfl,rfl,rfl,rfl,rfl,trivial⟩ rfl ?_;rintro _ w' rfl;repeat'(first|refine W1 ?_|refine VG ?_ ?_<;>intro hg|refine VC ?_ ?_<;>intro hc)
 exact absurd (by assumption) nl;refine CM (Z6Y rfl rfl rfl rfl) (Ze2 g fn lb c ho X base v xs _ hX hbase hrow hp (by omega)) ?_;rintro r w2 hres;refine W ?_;refine Zu (σ:=Unit) (fun _=>[(1,.I xs.length),(6,.I 20)]) (fun _ w'=>w'=w2) (fun _=>0) () ⟨rfl,rfl,trivial⟩ rfl ?_;rintro _ w' rfl;repeat'(first|refine W1 ?_|refine VG ?_ ?_<;>intro hg|refine VC ?_ ?_<;>intro hc)
 exact absurd (by assumption) nl2;refine WR ?_;exact .mk hres
theorem Zcx (g:Nat) (fn:Func) [Fun Tryz.prog g fn] (lb:Array Value) (c:Spn→Spn→Int) (ho:Ord c) (X:List Nat) (base:Nat) (v:Value) (xs:List Spn) (w:World) (hX:∀ b∈X,b<base) (hbase:base≤w.heap.size) (hrow:Row X w base 345 v xs) (hp:Zns Tryz.prog (ob v) g lb c w) (hlen:xs.length<20) :
 CC 318 #[v,.func (.func g) #[] lb] w fun r w'=>∃ ys,Z9t c xs ys∧Row X w' base 345 v ys∧Stp (ob v) w w':=by
 have hs:=hrow.slv hX;refine cW2 9 Tryz.func318 ?_;refine W ?_;refine CL (Znu g fn lb c ho X base v xs _ hX hbase hrow hp hlen) ?_;rintro r w2 hres;refine W ?_;refine WR ?_;exact .mk hres
def Zcy (x y:Spn):Int:=Zkj x.1 y.1
theorem ZxX:Ord Zcy where
 asym:=fun a b=>by unfold Zcy;rw [Z5B,Z5B];omega
 trans:=fun a b d=>by unfold Zcy;rw [Z5B,Z5B,Z5B];omega
theorem Zx6 (S:List Nat) (w):Zns Tryz.prog S 319 #[] Zcy w:=by
 intro x y w1 hS;show Calls _ _ #[agg x,agg y] _ _;refine cW2 10 Tryz.func319 ?_;refine W ?_;refine Z1 (Zq rfl) rfl ?_;rintro _ w2 ⟨c,rfl,hc,hblk,hS2⟩;replace hblk:Blk w2 c _ (Z3.enc x):=hblk;refine Z1 (Zq rfl) rfl ?_;rintro _ w3 ⟨c2,rfl,hc2,hblk2,hS3⟩;replace hblk2:Blk w3 c2 _ (Z3.enc y):=hblk2;replace hblk:=hblk.up hS3;replace hS2:=hS2.trans hS3;refine W ?_;refine CL (Zcv _ _ _) ?_;rintro _ w4 ⟨rfl,hS4⟩;refine RT ?_;exact ⟨rfl,hS2.trans hS4⟩
def ofH (y:Int) (h:Hol) (i:Int):List Spn:=match Z2h h y with|some d=>[(d,i)]|none=>[]
def ofK (y:Int):List Hol→Int→List Spn
 | [],_=>[]
 | h :: r,i=>ofH y h i++ofK y r (i+1)
theorem Zf4 (y:Int):∀ (a b:List Hol) (i:Int),ofK y (a++b) i=ofK y a i++ofK y b (i+a.length)
 | [],b,i=>by simp [ofK]
 | h :: a, b, i => by
   simp only [XR,ofK,Zf4 y a b (i+1),Xx,Xe];congr 3;omega
theorem Zf5 (y d:Int):∀ (l:List Hol) (i:Int),(∃ r,(d,r)∈ofK y l i)↔∃ h∈l,Z2h h y=some d
 | [],i=>by simp [ofK]
 | h :: l, i => by
   simp only [ofK,Xh,Xb,exists_or,exists_eq_or_imp];have ih:=Zf5 y d l (i+1);constructor;rintro (⟨r,hr⟩|hr)
   · left
     unfold ofH at hr;cases hk:Z2h h y with
     | none=>rw [hk] at hr;simp at hr
     | some d'=>rw [hk] at hr;simp at hr;rw [hr.1]
   right;exact ih.1 hr;rintro (hk|hk)
   left;exact ⟨i,by unfold ofH;rw [hk];simp⟩
   right;exact ih.2 hk
theorem Z7c (y:Int):∀ (l:List Hol) (i:Int),(ofK y l i).length≤l.length
 | [],i=>by simp [ofK]
 | h :: l, i => by
   have:=Z7c y l (i+1);simp only [ofK,Xc,Xe];unfold ofH;cases Z2h h y<;>simp<;>omega
abbrev fnV (f:Nat):Value:=.func (.func f) #[] #[]
abbrev Z54:List Value:=[fnV 302,fnV 303,fnV 305,fnV 306,fnV 308,fnV 309,fnV 310,fnV 311]
theorem ZaU (f g:Nat) (w):(Instr.build 324 #[(0,fnV f),(1,fnV g)]).run Tryz.prog w=.ok (.agg #[fnV f,fnV g]) w:=by kernel_rfl
theorem Znv (a b c d e f g h:Nat) (w):(Instr.build 325 #[(0,.agg #[fnV a,fnV b]),(1,.agg #[fnV c,fnV d]),(2,.agg #[fnV e,fnV f]),(3,.agg #[fnV g,fnV h])]).run Tryz.prog w=.ok (.agg #[fnV a,fnV b,fnV c,fnV d,fnV e,fnV f,fnV g,fnV h]) w:=by kernel_rfl
theorem Z9u (w):CC 253 #[] w fun r w'=>r=.agg Z54.toArray∧Stp [] w w':=by
 refine cW0 6 Tryz.func253 ?_;refine W ?_;refine Z1 Z2 rfl ?_;rintro _ w1 ⟨b,rfl,hb,hblk,hS⟩;refine W ?_;refine Z8 (vs:=[(0,fnV 302),(1,fnV 303)]) rfl (ZaU _ _) rfl ?_;refine Z8 (vs:=[(0,fnV 305),(1,fnV 306)]) rfl (ZaU _ _) rfl ?_;refine Z8 (vs:=[(0,fnV 308),(1,fnV 309)]) rfl (ZaU _ _) rfl ?_;refine Z8 (vs:=[(0,fnV 310),(1,fnV 311)]) rfl (ZaU _ _) rfl ?_;refine Z8 (vs:=[(0,.agg #[fnV 302,fnV 303]),(1,.agg #[fnV 305,fnV 306]),(2,.agg #[fnV 308,fnV 309]),(3,.agg #[fnV 310,fnV 311])]) rfl (Znv _ _ _ _ _ _ _ _) rfl ?_;refine SB (us:=Z54) (by intro u hu;simp [Z54] at hu;rcases hu with rfl|rfl|rfl|rfl|rfl|rfl|rfl|rfl<;>rfl) hblk ?_;rintro _ w2 ⟨hT,hblk2⟩;refine W ?_;refine Zk rfl rfl rfl hblk2 rfl ?_;exact .mk ⟨rfl,hS.ow hT⟩
theorem Znw {m d:Int} (h0:0≤m) (h2:m≤2) (hd:0≤d):Z6d[0+m.toNat * 7+(d % 7).toNat * 1]?=some (Z3N m d - d):=by
 have hm:m=0∨m=1∨m=2:=by omega
 have hw:d % 7=0∨d % 7=1∨d % 7=2∨d % 7=3∨d % 7=4∨d % 7=5∨d % 7=6:=by omega
 unfold Z3N;rcases hm with rfl|rfl|rfl<;>rcases hw with h|h|h|h|h|h|h<;>rw [h]<;>simp [Z6d]<;>omega
theorem Zgz (m d:Int):d - 1≤Z3N m d∧Z3N m d≤d+2:=by
 unfold Z3N;repeat' split
 all_goals omega
theorem Znx (a b:Int) (w):(Instr.build 345 #[(0,.I a),(1,.I b)]).run Tryz.prog w=.ok (agg ((a,b):Spn)) w:=by kernel_rfl
theorem Zkm (d:Spn) (w):(Instr.buildSlice 342 1 #[(0,agg d)]).run Tryz.prog w=.ok (.slice (some ⟨w.heap.size,0,none⟩) 1 1) (w.alloc (.cells (Z3.enc d).toArray 345)):=by kernel_rfl
theorem Zny (v:Value) (l:List Hol) (y:Int) (w) (hs:SlV [] w v l) (hL:Z0E w) (hM:Z3n w) (ho:∀ h∈l,Z1Z h) (hl:l.length<20) :
 CC 272 #[v,.I y] w fun r w'=>∃ ys,Z9t Zcy (ofK y l 0) ys∧ZI 345 w w' r ys:=by
 refine cW2 61 Tryz.func272 ?_;refine W ?_;refine CL (Z9u _) ?_;rintro _ w1 ⟨rfl,hS⟩;refine Z1 Z2 rfl ?_;rintro _ w2 ⟨b6,rfl,hb6,e6,hS2⟩;refine W ?_;refine SB (us:=Z54) (by intro u hu;simp [Z54] at hu;rcases hu with rfl|rfl|rfl|rfl|rfl|rfl|rfl|rfl<;>rfl) e6 ?_;rintro _ w3 ⟨hT,k6⟩;replace hS:=hS.trans (hS2.ow hT);clear e6 hS2 hT;replace hs:=hs.up hS;replace hL:=hL.up hS;replace hM:=hM.up hS;refine W ?_
 refine Zu (σ:=Nat×Value) (fun q=>[(0,v),(1,.I y),(5,q.2),(6,pQ b6),(12,v),(13,.I (l.length:Int)),(14,.I (q.1:Int))])
  (fun q w'=>q.1≤l.length∧ZI 345 w3 w' q.2 (ofK y (l.take q.1) 0)) (fun q=>l.length - q.1) (0,.N) ⟨rfl,rfl,rfl,rfl,rfl,rfl,rfl,trivial⟩ ⟨Xq _,ZI.nil⟩ ?_
 rintro ⟨k,ov⟩ w4 ⟨hk,hr⟩;dsimp only at hk hr ⊢;have hS4:=hr.2;replace hs:=hs.up hS4;replace hL:=hL.up hS4;replace hM:=hM.up hS4;replace k6:=k6.up hS4;by_cases hlt:k<l.length;have ht:l.take (k+1)=l.take k++[l[k]]:=Xi hlt;have hko:ofK y (l.take (k+1)) 0=ofK y (l.take k) 0++ofH y l[k] (k:Int):=by
  rw [ht,Zf4];simp only [ofK,XG,Xt,Yad hk];simp
 have hok:=ho l[k] (Xd hlt);refine QO ?_;refine Z1 Z2 rfl ?_;rintro _ w5 ⟨b8,rfl,hb8,e8,hS5⟩;refine W ?_;refine SA (us:=Z3.enc l[k]) e8 ?_;rintro _ w6 ⟨hT,k8⟩;replace hS5:=hS5.ow hT;clear e8 hT;replace hr:=hr.up hS5;replace hs:=hs.up hS5;replace hL:=hL.up hS5;replace hM:=hM.up hS5;replace k6:=k6.up hS5;clear hS5;refine W ?_;refine CL (Z2k y l[k].first l[k].last _) ?_;rintro _ w6 ⟨rfl,rfl⟩;have again:∀ (w':World),Z2h l[k] y=none→Stp [] w6 w'→ZI 345 w3 w' ov (ofK y (l.take (k+1)) 0):=by
  intro w' hn hSw;rw [hko];unfold ofH;rw [hn,XG];exact hr.up hSw
 by_cases hin:l[k].first≤y∧y≤l[k].last;rw [decide_eq_true hin];have hnm:=ZtL hin.1 hin.2;have hy1:=hok.f1;have hy2:=hok.l1;refine W ?_
 refine JA (σ:=Unit) (fun _=>[(0,v),(1,.I y),(5,ov),(6,pQ b6),(7,.I (k:Int)),(8,pQ b8),(9,.I (Z1G l[k] y).1),(10,.B (Z1G l[k] y).2),(12,v),(13,.I (l.length:Int)),(14,.I (k:Int))])
  (fun _ w'=>Stp [] w6 w') ?_ ?_
 have hkk:l[k].kind=1∨l[k].kind=2∨l[k].kind=3∨l[k].kind=4:=by have:=hok.k1;have:=hok.k2;omega
 rcases hkk with hkk|hkk|hkk|hkk
 refine ZDr 14 [] [] [(0,0),(1,1),(2,0),(3,0),(4,0),(5,1),(6,1),(7,0),(8,2),(9,0),(10,0),(11,0),(12,0),(13,0)] (fun w1 hS1=>?_);replace k6:=k6.up hS1;replace k8:=k8.up hS1;replace hL:=hL.up hS1;have hz:l[k].kind - 1=((0:Nat):Int):=by omega
 refine D ?_;refine Z2c rfl (Z1g (len:=4) (i:=0) trivial rfl rfl hz (by decide) rfl ?_);refine D ?_;refine DC (Zgv _ _ _ hL hkk) (fun _ _ h=>h.2) ?_;rintro _ w7 ⟨rfl,hS7⟩;refine D ?_;exact QT () (hS1.trans hS7);refine ZDr 14 [] [] [(0,0),(1,1),(2,0),(3,0),(4,0),(5,1),(6,1),(7,0),(8,2),(9,0),(10,0),(11,0),(12,0),(13,0)] (fun w1 hS1=>?_);replace k6:=k6.up hS1;replace k8:=k8.up hS1;replace hL:=hL.up hS1;have hz:l[k].kind - 1=((1:Nat):Int):=by omega
 refine D ?_;refine Z2c rfl (Z1g (len:=4) (i:=1) trivial rfl rfl hz (by decide) rfl ?_);refine D ?_;refine Zc rfl trivial (Zd rfl (Zh rfl rfl) (Zgw _ _ _ hL (by omega) (by omega) hkk hok)) (fun _ _ h=>h.2) rfl ?_;rintro _ w7 ⟨rfl,hS7⟩;refine D ?_;exact QT () (hS1.trans hS7);refine ZDr 14 [] [] [(0,0),(1,1),(2,0),(3,0),(4,0),(5,1),(6,1),(7,0),(8,2),(9,0),(10,0),(11,0),(12,0),(13,0)] (fun w1 hS1=>?_);replace k6:=k6.up hS1;replace k8:=k8.up hS1;replace hL:=hL.up hS1;have hz:l[k].kind - 1=((2:Nat):Int):=by omega
 refine D ?_;refine Z2c rfl (Z1g (len:=4) (i:=2) trivial rfl rfl hz (by decide) rfl ?_);refine D ?_;refine Zc rfl trivial (Zd rfl (Zh rfl rfl) (Zgx _ _ _ hL (by omega) (by omega) hkk hok)) (fun _ _ h=>h.2) rfl ?_;rintro _ w7 ⟨rfl,hS7⟩;refine D ?_;exact QT () (hS1.trans hS7);refine ZDr 14 [] [] [(0,0),(1,1),(2,0),(3,0),(4,0),(5,1),(6,1),(7,0),(8,2),(9,0),(10,0),(11,0),(12,0),(13,0)] (fun w1 hS1=>?_);replace k6:=k6.up hS1;replace k8:=k8.up hS1;replace hL:=hL.up hS1;have hz:l[k].kind - 1=((3:Nat):Int):=by omega
 refine D ?_;refine Z2c rfl (Z1g (len:=4) (i:=3) trivial rfl rfl hz (by decide) rfl ?_);refine D ?_;refine DC (Zgy _ _ _ hkk hok) (fun _ _ h=>h.2) ?_;rintro _ w7 ⟨rfl,hS7⟩;refine D ?_;exact QT () (hS1.trans hS7)
 · rintro _ w7 hS7
   clear k6;replace k8:=k8.up hS7;replace hM:=hM.up hS7;cases hp:(Z1G l[k] y).2 with
   | false=>
     rw [hp] at hnm;refine W ?_;exact QL (k+1,ov) ⟨hlt,again _ (by unfold Z2h;rw [hnm];rfl) hS7⟩ (by dsimp only;omega)
   | true=>
     rw [hp] at hnm;obtain ⟨n1,n2⟩:=Ze1 hok hin.1 hin.2 hp;have hmv1:=hok.m1;have hmv2:=hok.m2;have htab:=Znw hmv1 hmv2 n1;have hnear:=Zgz l[k].move (Z1G l[k] y).1;have hkd:Z2h l[k] y=if ZO (Z3N l[k].move (Z1G l[k] y).1)=true then some (Z3N l[k].move (Z1G l[k] y).1) else none:=by
      unfold Z2h;rw [hnm];rfl
     generalize (Z1G l[k] y).1=d at *;refine W ?_;refine ZDr 10 [] [] [(0,0),(1,0),(2,1),(3,0),(5,0),(4,2),(6,0),(7,1),(8,0),(9,0)] (fun w1 hS1=>?_);replace k8:=k8.up hS1;replace hM:=hM.up hS1;replace hS7:=hS7.trans hS1;clear hS1;refine D ?_;refine Z2c rfl (Z1g (len:=3) (i:=l[k].move.toNat) trivial rfl rfl (by omega) (by omega) rfl ?_);refine D ?_;refine Zc rfl trivial (Zd rfl (ZX rfl) (Z3W _ _ n1 (by omega))) (fun _ _ h=>by rw [h.2];exact Stp.refl _ _) rfl ?_;rintro _ w8 ⟨rfl,rfl⟩;refine D ?_;refine Z2c rfl (Z1g (len:=7) (i:=(d % 7).toNat) trivial rfl rfl (by omega) (by omega) rfl ?_);refine D ?_;refine J3 rfl trivial (fun w' hS'=>Jw rfl rfl (hM.up hS' _ _ htab)) rfl ?_;refine D ?_;have ed:d+(Z3N l[k].move d - d)=Z3N l[k].move d:=by omega
     rw [ed];refine W ?_;refine CL (Z2k (Z3N l[k].move d) 0 3652058 _) ?_;rintro _ _ ⟨rfl,rfl⟩;by_cases h2:0≤Z3N l[k].move d∧Z3N l[k].move d≤3652058;rw [decide_eq_true h2];rw [if_pos (ZP.2 h2)] at hkd;have hlk:=Z7c y (l.take k) 0;have hlk2:(l.take k).length≤l.length:=by rw [Xt];omega
     replace hr:=hr.up hS7;refine W ?_;refine Z8 (vs:=[(0,.I (Z3N l[k].move d)),(1,.I (k:Int))]) rfl (Znx _ _) rfl ?_;refine Z1 (Z0 (vs:=[(0,agg ((Z3N l[k].move d,(k:Int)):Spn))]) rfl (Zkm _)) rfl ?_;rintro bv w9 hN;have hS9:=Z6.stp hN;have hbv:SlV (ob ov) w9 bv [((Z3N l[k].move d,(k:Int)):Spn)]:=hN.slv (fun b hb=>(hr.1.ob_le b hb).2) rfl rfl (by simp [maxLen]);replace hr:=hr.up hS9;refine Z1 (JB rfl (by decide) rfl rfl hr hbv (by simp only [Xe,Xf];omega) (by simp only [Xe,Xf,maxLen];omega)) rfl ?_;rintro ov' w10 ⟨hr2,hS10,ho10⟩;refine W ?_;refine QL (k+1,ov') ⟨hlt,?_⟩ (by dsimp only;omega);dsimp only;rw [hko];unfold ofH;rw [hkd];exact hr2;rw [decide_eq_false h2];rw [if_neg (fun h=>h2 (ZP.1 h))] at hkd;refine W ?_;exact QL (k+1,ov) ⟨hlt,again _ hkd hS7⟩ (by dsimp only;omega)
 rw [decide_eq_false hin];refine W ?_;exact QL (k+1,ov) ⟨hlt,again _ (by unfold Z2h Znb;rw [if_pos (by omega)];rfl) (Stp.refl _ _)⟩ (by dsimp only;omega);have hk2:k=l.length:=by omega
 subst hk2;rw [Xo] at hr;have hlen:=Z7c y l 0;refine QO ?_;refine CM (Zh rfl rfl) (Zcx 319 _ #[] Zcy ZxX [] w3.heap.size ov _ _ (by simp) hr.2.size hr.1 (Zx6 _ _) (by omega)) ?_;rintro _ w7 ⟨ys,hso,hrow7,hS7⟩;refine RT ?_;exact ⟨ys,hso,hrow7.lower hS.size,(hS.trans hr.2).own hS7 (fun c hc=>.inr (Xg hS.size (hr.1.ob_le c hc).1))⟩
end Go.Proofs.YtipfkbkkndacjaaGreatDoor
namespace Go.Eng
open Go Go.RowKit Go.Proofs
variable {P:Program} {n:Nat} {Q:Exit→Act→World→Prop} {e:Env} {w:World}
theorem Z5C {i:Nat} {A B:Exit→Act→World→Prop} (h:∀ ex a w,A ex a w→B ex a w):∀ ex a w,Exit.inBlock i A ex a w→Exit.inBlock i B ex a w:=by
 intro ex a w hq;cases ex with
 | exit j=>
   simp only [Exit.inBlock] at hq ⊢;split;rename_i hj;rw [if_pos hj] at hq;exact h _ _ _ hq;rename_i hj;rw [if_neg hj] at hq;exact h _ _ _ hq
 | normal=>exact h _ _ _ hq
 | ret=>exact h _ _ _ hq
 | goto t=>exact h _ _ _ hq
 | panic c=>exact h _ _ _ hq
 | outgrown=>exact h _ _ _ hq
theorem Zkn {x y:Code} {σ:Type} {i j:Nat} (env:σ→Env) (I:σ→World→Prop)
 (h:WC P n x (Exit.inBlock i (Exit.inBlock j (Exit.then (fun a w=>∃ s,Has n (env s) a∧I s w) Q))) e w) (k:∀ s w,I s w→WC P n y Q (env s) w):WC P n x (Exit.inBlock i (Exit.inBlock j (Exit.then (fun a w=>y.wp P Q a w) Q))) e w:=
 ⟨fun a ha => wp_mono (h.h a ha) (Z5C (Z5C (fun ex a w hq => by
   cases ex with
   | normal=>obtain ⟨s,h1,h2⟩:=hq;exact (k s w h2).h a h1
   | _=>exact hq)))⟩
end Go.Eng
namespace Go.Proofs.YtipfkbkkndacjaaGreatDoor
open Go Go.Eng Go.RowKit
def inR (a b:Int) (zs:List Int):List Int:=zs.filter fun d=>decide (a≤d∧d≤b)
theorem Znz (a b:Int) (x y:List Int):inR a b (x++y)=inR a b x++inR a b y:=by unfold inR;rw [Ybp]
theorem Zko {y:Int} {l:List Hol} {ys:List Spn} (h:Z9t Zcy (ofK y l 0) ys) (d:Int):d∈ys.map Prod.fst↔∃ h∈l,Z2h h y=some d:=by
 rw [← Zf5 y d l 0,XC];constructor;rintro ⟨⟨a,r⟩,h1,rfl⟩;exact ⟨r,h.1.mem_iff.1 h1⟩;rintro ⟨r,hr⟩;exact ⟨(d,r),h.1.mem_iff.2 hr,rfl⟩
theorem Zkp {y:Int} {l:List Hol} {ys:List Spn} (h:Z9t Zcy (ofK y l 0) ys):ys.length≤l.length:=by
 rw [h.1.length_eq];exact Z7c y l 0
theorem Zcz (v:Value) (l:List Hol) (a b:Int) (w) (hs:SlV [] w v l) (hL:Z0E w) (hM:Z3n w) (ho:∀ h∈l,Z1Z h) (hl:l.length<20) (ha:0≤a) (hab:a≤b) (hb:b≤3652058) (hyy:(ofM a).y≤(ofM b).y) :
 CC 214 #[v,.I a,.I b] w fun r w'=>∃ zs:List Int,(∀ d,d∈zs↔a≤d∧d≤b∧∃ y,(ofM a).y - 1≤y∧y≤(ofM b).y+1∧∃ h∈l,Z2h h y=some d)∧ZI 3 w w' r (Z3i zs):=by
 obtain ⟨ya1,ya2,-⟩:=Zaq ha (by omega);obtain ⟨yb1,yb2,-⟩:=Zaq (n:=b) (by omega) hb;have hmx:max a 0=a:=by omega
 have hmn:min b 3652058=b:=by omega
 refine cW3 65 Tryz.func214 ?_;refine W ?_;rw [hmx,hmn];refine QO ?_;refine CM (ZX rfl) (Zaw a _ ha (by omega)) ?_;rintro _ w1 ⟨rfl,hS⟩;refine W ?_;refine Z1 Z2 rfl ?_;rintro _ w2 ⟨b7,rfl,hb7,e7,hS2⟩;refine W ?_;refine SB (us:=[.I (ofM a).y,.I (ofM a).m,.I (ofM a).d]) (by intro u hu;simp at hu;rcases hu with rfl|rfl|rfl<;>rfl) e7 ?_;rintro _ w3 ⟨hT,k7⟩;replace hS:=hS.trans (hS2.ow hT);clear e7 hS2 hT;refine W ?_;refine CM (ZX rfl) (Zaw b _ (by omega) hb) ?_;rintro _ w4 ⟨rfl,hS4⟩;replace k7:=k7.up hS4;replace hS:=hS.trans hS4;refine W ?_;refine Z1 Z2 rfl ?_;rintro _ w5 ⟨b9,rfl,hb9,e9,hS5⟩;have n79:b7≠b9:=by have:=k7.lt;omega
 refine W ?_;refine SB (us:=[.I (ofM b).y,.I (ofM b).m,.I (ofM b).d]) (by intro u hu;simp at hu;rcases hu with rfl|rfl|rfl<;>rfl) e9 ?_;rintro _ w6 ⟨hT,k9⟩;replace hS5:=hS5.ow hT;replace k7:=k7.up hS5;replace hS:=hS.trans hS5;clear e9 hT hS4 hS5;replace hs:=hs.up hS;replace hL:=hL.up hS;replace hM:=hM.up hS;refine W ?_
 refine Zu (σ:=Nat×Value×List Int) (fun q=>[(0,v),(1,.I a),(2,.I b),(7,pQ b7),(9,pQ b9),(11,q.2.1),(12,.I ((ofM a).y - 1+(q.1:Int)))])
  (fun q w'=>(ofM a).y - 1+(q.1:Int)≤(ofM b).y+2∧q.2.2.length≤q.1 * 20∧(∀ d,d∈q.2.2↔a≤d∧d≤b∧∃ y,(ofM a).y - 1≤y∧y<(ofM a).y - 1+(q.1:Int)∧∃ h∈l,Z2h h y=some d)∧ZI 3 w6 w' q.2.1 q.2.2)
  (fun q=>20000 - q.1) (0,.N,[]) ⟨rfl,rfl,rfl,rfl,rfl,rfl,(by simp [Z1I]),trivial⟩ ⟨by dsimp only;omega,Xq _,fun d=>by simp;intros;omega,ZI.nil⟩ ?_
 rintro ⟨k,ov,zs⟩ w7 ⟨hk,hzl,hz,hr⟩;dsimp only at hk hzl hz hr ⊢;have hS7:=hr.2;replace k7:=k7.up hS7;replace k9:=k9.up hS7;replace hs:=hs.up hS7;replace hL:=hL.up hS7;replace hM:=hM.up hS7;by_cases hlt:(ofM a).y - 1+(k:Int)≤(ofM b).y+1;refine QO ?_;refine CL (Zny v l _ _ hs hL hM ho hl) ?_;rintro rv w8 ⟨ys,hso,hrf⟩;have hyl:=Zkp hso;have hmem:=Zko hso;have hS8:=hrf.2;have hys:=hrf.slv (X:=ob ov) (fun b hb=>(hr.1.ob_le b hb).2);have hys0:=hrf.slv (X:=[]) (by simp);replace hr:=hr.up hS8;replace k9:=k9.up hS8;replace hs:=hs.up hS8;replace hL:=hL.up hS8;replace hM:=hM.up hS8;refine W ?_
 refine Zkn (σ:=Value×List Int) (fun q=>[(0,v),(1,.I a),(2,.I b),(7,pQ b7),(9,pQ b9),(11,q.1),(12,.I ((ofM a).y - 1+(k:Int)))])
  (fun q w'=>q.2=zs++inR a b (ys.map Prod.fst)∧ZI 3 w6 w' q.1 q.2) ?_ ?_
 refine Zu (σ:=Nat×Value) (fun q=>[(0,v),(1,.I a),(2,.I b),(7,pQ b7),(9,pQ b9),(11,q.2),(12,.I ((ofM a).y - 1+(k:Int))),(44,rv),(45,.I (ys.length:Int)),(46,.I (q.1:Int))])
  (fun q w'=>q.1≤ys.length∧ZI 3 w6 w' q.2 (zs++inR a b ((ys.take q.1).map Prod.fst))∧SlV (ob q.2) w' rv ys) (fun q=>ys.length - q.1) (0,ov) ⟨rfl,rfl,rfl,rfl,rfl,rfl,rfl,rfl,rfl,rfl,trivial⟩ ⟨Xq _,by simpa [inR] using hr,hys⟩ ?_
 clear hr hys hys0 hs hL hM k7 k9;rintro ⟨j,ov'⟩ w9 ⟨hj,hr,hys⟩;dsimp only at hj hr hys ⊢;by_cases hjl:j<ys.length;have htk:inR a b ((ys.take (j+1)).map Prod.fst)=inR a b ((ys.take j).map Prod.fst)++inR a b [ys[j].1]:=by
  rw [Xi hjl,XI,Znz];rfl
 refine QO ?_;refine Z1 Z2 rfl ?_;rintro _ w10 ⟨b14,rfl,hb14,e14,hS10⟩;refine W ?_;refine SA (us:=Z3.enc ys[j]) e14 ?_;rintro _ w11 ⟨hT,k14⟩;replace hS10:=hS10.ow hT;clear e14 hT;replace hr:=hr.up hS10;replace hys:=hys.up hS10;refine W ?_;refine CL (Z2k ys[j].1 a b _) ?_;rintro _ _ ⟨rfl,rfl⟩;by_cases hin:a≤ys[j].1∧ys[j].1≤b;rw [decide_eq_true hin];have hlen:(zs++inR a b ((ys.take j).map Prod.fst)).length≤300000:=by
  have h1:(inR a b ((ys.take j).map Prod.fst)).length≤((ys.take j).map Prod.fst).length:=X0 _ _;rw [Xc];simp only [Xs,Xt] at h1;omega
 have e1:inR a b [ys[j].1]=[ys[j].1]:=by unfold inR;simp [hin]
 rw [e1] at htk;refine W ?_;refine Z1 (Z0 (vs:=[(0,.I ys[j].1)]) rfl (Zt _)) rfl ?_;rintro bv w12 hN;have hS12:=Z6.stp hN;have hbv:SlV (ob ov') w12 bv [ys[j].1]:=hN.slv (fun b hb=>(hr.1.ob_le b hb).2) rfl rfl (by simp [maxLen]);replace hr:=hr.up hS12;replace hys:=hys.up hS12;refine Z1 (JB rfl (by decide) rfl rfl hr hbv (by simp only [Xe,Xf];omega) (by simp only [Xe,Xf,maxLen];omega)) rfl ?_;rintro ov2 w13 ⟨hr2,hS13,ho13⟩;refine W ?_;refine QL (j+1,ov2) ⟨hjl,?_,hys.ext hS13 (fun _ h=>h) ho13⟩ (by dsimp only;omega);dsimp only;rw [htk,← Xx];exact hr2;rw [decide_eq_false hin];have e1:inR a b [ys[j].1]=[]:=by unfold inR;simp only [List.filter_cons,decide_eq_false hin,List.filter_nil];rfl
 rw [e1,XG] at htk;refine W ?_;refine QL (j+1,ov') ⟨hjl,?_,hys⟩ (by dsimp only;omega);dsimp only;rw [htk];exact hr;have hjj:j=ys.length:=by omega
 subst hjj;rw [Xo] at hr;refine QO ?_;exact ZN (ov',zs++inR a b (ys.map Prod.fst)) ⟨rfl,rfl,rfl,rfl,rfl,rfl,rfl,trivial⟩ ⟨rfl,hr⟩;rintro ⟨ov',zs'⟩ w9 ⟨hzz,hr⟩;dsimp only at hzz hr ⊢;subst hzz;have e1:(ofM a).y - 1+(k:Int)+1=(ofM a).y - 1+((k+1:Nat):Int):=by omega
 refine W ?_;rw [e1];refine ZD (k+1,ov',zs++inR a b (ys.map Prod.fst)) ⟨rfl,rfl,rfl,rfl,rfl,rfl,rfl,trivial⟩ ⟨by dsimp only;omega,?_,fun d=>?_,hr⟩ (by dsimp only;omega);have h1:(inR a b (ys.map Prod.fst)).length≤(ys.map Prod.fst).length:=X0 _ _;dsimp only;rw [Xc];simp only [Xs] at h1;omega;dsimp only;rw [Xh,hz,inR,YbE,hmem];constructor;rintro (⟨p1,p2,y,p3,p4,p5⟩|⟨p5,p6⟩);exact ⟨p1,p2,y,p3,by omega,p5⟩;have p6:=of_decide_eq_true p6;exact ⟨p6.1,p6.2,_,by omega,by omega,p5⟩;rintro ⟨p1,p2,y,p3,p4,p5⟩;by_cases hy:y<(ofM a).y - 1+(k:Int)
 exact .inl ⟨p1,p2,y,p3,hy,p5⟩;obtain rfl:y=(ofM a).y - 1+(k:Int):=by omega
 exact .inr ⟨p5,decide_eq_true ⟨p1,p2⟩⟩;refine QO ?_;refine CM (ZX rfl) (Zc2 _ hr.1 (by omega)) ?_;rintro _ w8 ⟨rfl,hrow2,hS8⟩;refine W ?_;refine CM (ZX rfl) (Z6K _ hrow2 (by rw [Yba];omega)) ?_;rintro rv w9 ⟨hrow3,hS9,hob⟩;refine W ?_;refine WR ?_;refine .mk ⟨zs,fun d=>?_,hrow3.lower hS.size,((hS.trans hr.2).own hS8 (fun c hc=>.inr (Xg hS.size (hr.1.ob_le c hc).1))).own hS9 (fun c hc=>.inr (Xg hS.size (hr.1.ob_le c hc).1))⟩;rw [hz];constructor;rintro ⟨p1,p2,y,p3,p4,p5⟩;exact ⟨p1,p2,y,p3,by omega,p5⟩;rintro ⟨p1,p2,y,p3,p4,p5⟩;exact ⟨p1,p2,y,p3,by omega,p5⟩
theorem Ze3 {l:List Hol} {d:Int} (h0:0≤d) (h1:d≤3652058) {zs:List Int} (hz:∀ x,x∈zs↔d≤x∧x≤d∧∃ y,(ofM d).y - 1≤y∧y≤(ofM d).y+1∧∃ h∈l,Z2h h y=some x) :
 decide (((Z3i zs).length:Int) > 0)=Z7X l d:=by
 have hm:=(Z35 zs).2;have hin:ZO d=true:=ZP.2 ⟨h0,h1⟩;rw [Yac];unfold Z7X;rw [hin,Bool.true_and,decide_eq_true_eq,YaK];constructor;intro hl;obtain ⟨x,hx⟩:=List.exists_mem_of_length_pos (l:=Z3i zs) (by omega);obtain ⟨p1,p2,y,p3,p4,h,hh,hk⟩:=(hz x).1 ((hm x).1 hx);obtain rfl:x=d:=by omega
 refine ⟨y,?_,YaK.2 ⟨h,hh,decide_eq_true hk⟩⟩;have:y=(ofM x).y - 1∨y=(ofM x).y∨y=(ofM x).y+1:=by omega
 rcases this with rfl|rfl|rfl<;>simp
 rintro ⟨y,hy,hh⟩;obtain ⟨h,hh,hk⟩:=YaK.1 hh;have hy2:(ofM d).y - 1≤y∧y≤(ofM d).y+1:=by simp at hy;omega
 have:d∈Z3i zs:=(hm d).2 ((hz d).2 ⟨YaT _,YaT _,y,hy2.1,hy2.2,h,hh,of_decide_eq_true hk⟩);have:=List.length_pos_of_mem this;omega
theorem ZtM (v:Value) (l:List Hol) (d:Int) (w) (hs:SlV [] w v l) (hL:Z0E w) (hM:Z3n w) (ho:∀ h∈l,Z1Z h) (hl:l.length<20) :
 CC 156 #[v,.I d] w fun r w'=>r=.B (Z7X l d)∧Stp [] w w':=by
 refine cW2 15 Tryz.func156 ?_;refine W ?_;refine CL (Z2k d 0 3652058 _) ?_;rintro _ _ ⟨rfl,rfl⟩;by_cases hd:0≤d∧d≤3652058;rw [decide_eq_true hd];refine W ?_;refine CL (Zcz v l d d _ hs hL hM ho hl hd.1 (YaT _) hd.2 (YaT _)) ?_;rintro rv w1 ⟨zs,hz,hr⟩;have hsv:=hr.slv (X:=[]) (by simp);refine RT ?_;exact ⟨by rw [Ze3 hd.1 hd.2 hz],hr.2⟩;rw [decide_eq_false hd];refine W ?_;refine WR ?_;refine .mk ⟨?_,Stp.refl _ _⟩;have:ZO d=false:=by unfold ZO;exact decide_eq_false hd
 unfold Z7X;rw [this];rfl
structure Z6n (w:World) (c:Cal) (hv cv zo zs hr:Value):Prop where
 hols:SlV [] w hv c.hols
 clos:SlV [] w cv c.clos
 len:Z0E w
 mov:Z3n w
 ok:ZjP c
abbrev Z6o (c:Cal) (hv cv zo zs hr:Value):Value:=.agg (Z0e c hv cv zo zs hr).toArray
theorem Z6n.up {w w':World} {c:Cal} {hv cv zo zs hr:Value} (h:Z6n w c hv cv zo zs hr) (hS:Stp [] w w'):Z6n w' c hv cv zo zs hr:=⟨h.hols.up hS,h.clos.up hS,h.len.up hS,h.mov.up hS,h.ok⟩
theorem ZnA (c:Cal) (hv cv zo zs hr:Value) {i:Nat} (hi:i<7):(Z0e c hv cv zo zs hr)[0+i * 1]?=some (.B (c.week.getD i false)):=by
 have:i=0∨i=1∨i=2∨i=3∨i=4∨i=5∨i=6:=by omega
 rcases this with rfl|rfl|rfl|rfl|rfl|rfl|rfl<;>rfl
theorem Z3X (d:Int) (w):CC 87 #[.I d] w fun r w'=>r=.B (ZO d)∧w'=w:=by
 refine cW1 9 Tryz.func87 ?_;unfold ZO;by_cases h1:d≥0;by_cases h2:d≤3652058;rw [decide_eq_true ⟨h1,h2⟩];refine RT ?_;exact ⟨by simp [h2],rfl⟩;rw [decide_eq_false (fun h=>h2 h.2)];refine RT ?_;exact ⟨by simp [h2],rfl⟩;rw [decide_eq_false (fun h=>h1 h.1)];refine RT ?_;exact ⟨rfl,rfl⟩
theorem ZgA (d kn:Int) (bc bk:Nat) (c:Cal) (hv cv zo zs hr:Value) (w) (h:Z6n w c hv cv zo zs hr) (kc:Blk w bc 35 (Z0e c hv cv zo zs hr)) (kk:Blk w bk 3 [.I kn]) (h0:0≤d) (h1:d≤3652058) :
 CC 154 #[.I d,pQ bc,pQ bk] w fun r w'=>r=.B (ZeM c kn d)∧Stp [] w w':=by
 have hi7:(d % 7).toNat<7:=by omega
 have hwk:=ZnA c hv cv zo zs hr hi7;have hcm:=h.clos.max;have hcl0:=h.clos;refine cW3 40 Tryz.func154 ?_;refine W ?_;refine CM (ZX rfl) (Z3W d _ h0 (by omega)) ?_;rintro _ w ⟨rfl,rfl⟩;refine W ?_;refine Z13 (len:=7) (i:=(d % 7).toNat) rfl rfl (by omega) hi7 rfl ?_;refine Z6z rfl rfl kc hwk rfl ?_;unfold ZeM;cases hw:c.week.getD (d % 7).toNat false with
 | true=>
   refine RT ?_;exact ⟨by simp,Stp.refl _ _⟩
 | false=>
   rw [Ybv];refine W ?_;refine Z0l (σ:=Unit) (fun _=>[(0,.I d),(1,pQ bc)]) (fun _ w'=>Zc5 c.clos kn d=false∧Stp [] w w') ?_ ?_
   refine Zu (σ:=Nat) (fun k=>[(0,.I d),(1,pQ bc),(2,pQ bk),(13,cv),(14,.I (c.clos.length:Int)),(15,.I (k:Int))])
    (fun k w'=>k≤c.clos.length∧Zc5 (c.clos.take k) kn d=false∧Stp [] w w') (fun k=>c.clos.length - k) 0 ⟨rfl,rfl,rfl,rfl,rfl,rfl,trivial⟩ ⟨Xq _,rfl,Stp.refl _ _⟩ ?_
   rintro k w1 ⟨hk,hn,hS⟩;have kk:=kk.up hS;have hcl:=h.clos.up hS;by_cases hlt:k<c.clos.length;have ht:Zc5 (c.clos.take (k+1)) kn d=(Zc5 (c.clos.take k) kn d || decide (c.clos[k].known≤kn∧c.clos[k].lo≤d∧d≤c.clos[k].hi)):=by
    unfold Zc5;rw [Xi hlt,List.any_append];simp
   rw [hn,Ybv] at ht;refine QO ?_;refine Z1 Z2 rfl ?_;rintro _ w2 ⟨b6,rfl,hb6,e6,hS2⟩;refine W ?_;refine SA (us:=Z3.enc c.clos[k]) e6 ?_;rintro _ w3 ⟨hT,k6⟩;replace hS2:=hS2.ow hT;clear e6 hT;replace kk:=kk.up hS2;replace hcl:=hcl.up hS2;replace hS:=hS.trans hS2;by_cases hx:c.clos[k].known≤kn∧c.clos[k].lo≤d∧d≤c.clos[k].hi;refine QO ?_;refine WR ?_;refine .mk ⟨?_,hS⟩;have:Zc5 c.clos kn d=true:=by
    unfold Zc5;exact YaK.2 ⟨c.clos[k],Xd hlt,decide_eq_true hx⟩
   rw [this];rfl
   · rw [decide_eq_false hx] at ht
     repeat'(first|refine W1 ?_|omega|refine VG ?_ ?_<;>intro hg|refine VC ?_ ?_<;>intro hc)
     all_goals exact QL (k+1) ⟨hlt,ht,hS⟩ (by omega)
   obtain rfl:k=c.clos.length:=by omega
   rw [Xo] at hn;refine QO ?_;exact QT () ⟨hn,hS⟩;rintro _ w1 ⟨hn,hS⟩;have kc:=kc.up hS;have h:=h.up hS;rw [hn,Ybv];refine W ?_;refine CM (Zh rfl rfl) (ZtM hv c.hols d _ h.hols h.len h.mov h.ok.hols (by have:=h.ok.few;omega)) ?_;rintro _ w2 ⟨rfl,hS2⟩;refine RT ?_;exact ⟨rfl,hS.trans hS2⟩
def Zx7 (w:World) (f:Value) (c:Cal) (hv cv zo zs hr:Value) (kn:Int):Prop:=∃ b2 b3,f=.func (.func 154) #[] #[pQ b2,pQ b3]∧Blk w b2 35 (Z0e c hv cv zo zs hr)∧Blk w b3 3 [.I kn]
theorem Zkq (kn:Int) (c:Cal) (hv cv zo zs hr:Value) (w):CC 88 #[Z6o c hv cv zo zs hr,.I kn] w fun r w'=>Zx7 w' r c hv cv zo zs hr kn∧Stp [] w w':=by
 refine cW2 6 Tryz.func88 ?_;refine W ?_;refine Z1 (Zq rfl) rfl ?_;rintro _ w1 ⟨b2,rfl,hb2,hblk,hS⟩;replace hblk:Blk w1 b2 35 (Z0e c hv cv zo zs hr):=hblk;refine Z1 (Zq rfl) rfl ?_;rintro _ w2 ⟨b3,rfl,hb3,hblk3,hS2⟩;replace hblk3:Blk w2 b3 3 [.I kn]:=hblk3;replace hblk:=hblk.up hS2;refine RT ?_;exact ⟨⟨b2,b3,rfl,hblk,hblk3⟩,hS.trans hS2⟩
open Go Go.Eng Go.RowKit Go.Proofs Go.Shelf
attribute [local go_sem] Oper.semAt_some
theorem Zkr (n:Nat) (hn:2≤n) (l bd bs:Nat) (d0 st:Int) (hst:st=1∨st=-1) (h00:0≤d0) (h01:d0≤3652058) (J:Nat→World→Prop) (Jx:World→Prop)
 (hJc:∀ k W,J k W→W.cell? ⟨bd,0,none⟩=some (.I (d0+st * k))∧W.cell? ⟨bs,0,none⟩=some (.I st))
 (hY : ∀ (k : Nat) W, J k W → k ≤ 1000 → ZO (d0 + st * k) = true → YieldAt Fence.wide (n - 1) Tryz.prog l #[.I (d0 + st * k)] W fun e W'=>
   (e=.returned (.B true)∧W'.cell? ⟨bd,0,none⟩=some (.I (d0+st * k))∧W'.frozen? ⟨bd,0,none⟩=false∧W'.cell? ⟨bs,0,none⟩=some (.I st)∧J (k+1) (W'.setCell ⟨bd,0,none⟩ (.I (d0+st * k+st))))∨(e=.returned (.B false)∧Jx W'))
 (W:World) (h0:J 0 W) :
 CallsIn Fence.wide n Tryz.prog 212 #[.func (.yield l) #[] #[],pQ bd,pQ bs] W fun e W'=>(∃ v,e=.returned v)∧
  ((∃ k:Nat,(1000<k∨ZO (d0+st * k)=false)∧J k W')∨Jx W'):=by
 refine callsIn_of_wp Tryz.func212 rfl trivial ?_ rfl;simp only [Tryz.ntmps212,Yar,Xe,Xf,Nat.reduceAdd,Nat.reduceSub,Array.replicate_succ,Array.replicate_zero,List.push_toArray,List.append_toArray,XL,XR]
 gi_wp2
 gi_loopw [4] (fun i wr=>∃ k:Nat,k≤1001∧i=.I (k:Int)∧J k wr) (fun i _=>1002 - (intOf i).toNat)
 case atStart=>exact ⟨0,Xq _,rfl,h0⟩
 case round=>
  obtain ⟨k,hk,rfl,hJk⟩:=hrel;obtain ⟨c1,c2⟩:=hJc k _ hJk;have hsk:-1001≤st * (k:Int)∧st * (k:Int)≤1001:=by rcases hst with rfl|rfl<;>omega
  by_cases hlt:k≤1000
  · have hle:(k:Int)≤1000:=by omega
    gi_wp2
    refine ⟨trivial,(fun h=>by cases h),?_⟩;refine (callsIn_wide.2 (Z3X _ _)).mono ?_;rintro e w' ⟨v,rfl,rfl,rfl⟩;cases hin:ZO (d0+st * k) with
    | false=>
      gi_wp2
      go_end0
      exact ⟨⟨_,rfl⟩,.inl ⟨k,.inr hin,hJk⟩⟩
    | true=>
      obtain ⟨fn,tmps,assign,body,hy,hR⟩:=hY k _ hJk hlt hin
      gi_wp2
      refine ⟨(fun h=>by cases h),hR.mono ?_⟩;rintro e W3 (⟨rfl,a1,a2,a3,a4⟩|⟨rfl,hx⟩);have hin2:=ZP.1 hin
      gi_wp2
      exact ⟨⟨k+1,by omega,rfl,a4⟩,by simp [intOf];omega⟩
      gi_wp2
      refine bodyPost_ret (results_none rfl _ _ _) rfl ?_;exact ⟨⟨_,rfl⟩,.inr hx⟩
  have hgt:¬ (k:Int)≤1000:=by omega
  gi_wp2
  refine ⟨trivial,?_⟩
  gi_wp2
  go_end0
  exact ⟨⟨_,rfl⟩,.inl ⟨k,.inl (by omega),hJk⟩⟩
theorem Ze4 {g:Operand} {ps:Array Tmp} {assign body:Code} {Q:Exit→Act→World→Prop} {a:Act} {w:World} {n:Nat} (hn:3≤n) (hps:ps.size=1) {bd bs:Nat} {d0 st:Int}
 (hg:a.eval g=.func (.func 212) #[] #[pQ bd,pQ bs]) (hst:st=1∨st=-1) (h00:0≤d0) (h01:d0≤3652058) (hbd:bd<w.heap.size)
 (I I':Nat→World→Prop) (Ix:World→Prop)
 (hI:∀ k W W',I k W→Below w.heap.size W W'→I k W') (hI':∀ k W W',I' k W→Below w.heap.size W W'→I' k W') (hIx:∀ W W',Ix W→Below w.heap.size W W'→Ix W')
 (hc:∀ (k:Nat) W,I k W→W.cell? ⟨bd,0,none⟩=some (.I (d0+st * k))∧W.cell? ⟨bs,0,none⟩=some (.I st))
 (hc':∀ (k:Nat) W,I' k W→W.cell? ⟨bd,0,none⟩=some (.I (d0+st * k))∧W.frozen? ⟨bd,0,none⟩=false∧W.cell? ⟨bs,0,none⟩=some (.I st))
 (hstep:∀ (k:Nat) W,I' k W→I (k+1) (W.setCell ⟨bd,0,none⟩ (.I (d0+st * k+st)))) (h0:I 0 w) (a₁:Int→Act)
 (hassign : ∀ (l : Nat) (X : Int) (W : World) (K : Act → World → Prop), K (a₁ X) W→
   assign.wpIn (Fence.wide.inRound l) (n - 1 - 1) Tryz.prog (Exit.then K (fun _ _ _=>False)) { tmps:=(ps.zip #[Value.int .i64 X]).foldl (fun t (p,v)=>t.setIfInBounds p v) a.tmps,defers:=[] } W)
 (hbody : ∀ (l : Nat) (k : Nat) (W : World), I k W → k ≤ 1000 → ZO (d0 + st * k) = true → body.wpIn (Fence.wide.inRound l) (n - 1 - 1) Tryz.prog
   (fun e _ W'=>(∀ b,w.heap.size≤b→b<W.heap.size→W'.heap[b]?=W.heap[b]?)∧match e with|.normal=>I' k W'|.ret=>Ix W'|_=>False) (a₁ (d0+st * k)) W)
 (hdone:∀ (D k:Nat) (W:World),w.heap.size≤D→(1000<k∨ZO (d0+st * k)=false)→I k W→W.heap[D]?=some (.deferred (some []))→Q .normal { a with defers:={ target:=.collected D,args:=#[] } :: a.defers } W)
 (hstop:∀ (D:Nat) (W:World),w.heap.size≤D→Ix W→W.heap[D]?=some (.deferred (some []))→Q .ret { a with defers:={ target:=.collected D,args:=#[] } :: a.defers } W) :
 (Code.rangeFunc g ps assign body).wpIn Fence.wide n Tryz.prog Q a w:=by
 refine wpIn_rangeFunc ?_;intro fn hfn;obtain ⟨rec,hrec⟩:∃ rec:LoopState→Option Code→Loop,rec=fun st pe=>{ state:=st,pending:=pe,fn,tmps:=a.tmps,params:=ps,assign,body,defers:=w.heap.size }:=⟨_,rfl⟩
 obtain ⟨W1,hW1⟩:∃ W1,(w.alloc (.deferred (some []))).alloc (.loop (rec .ready none))=W1:=⟨_,rfl⟩
 have hL1:W1.heap[w.heap.size+1]?=some (.loop (rec .ready none)):=by
  rw [← hW1];have:=World.alloc_heap_new (w.alloc (.deferred (some []))) (.loop (rec .ready none));rwa [World.size_alloc] at this
 have hK1:W1.heap[w.heap.size]?=some (.deferred (some [])):=by
  rw [← hW1];exact (Below.heap_alloc _ _ _ (by simp)).trans (World.alloc_heap_new w _)
 have hb1:Below w.heap.size w W1:=by
  rw [← hW1];exact ((Below.refl _ w).alloc (Xn _) _).alloc (by simp) _
 have bput:∀ (W:World) (l:Nat) (o:Obj),w.heap.size≤l→Below w.heap.size W (W.putObj l o):=fun W l o hl=>
  ⟨rfl,rfl,rfl,by simp,fun k hk=>World.putObj_heap_other (by omega)⟩
 refine ⟨w.heap.size+1,[{ target:=.collected w.heap.size,args:=#[] }],W1,{ target:=.fn (.func 212) #[pQ bd,pQ bs],args:=#[.func (.yield (w.heap.size+1)) #[] #[]] },W1,212,
  #[.func (.yield (w.heap.size+1)) #[] #[]]++#[pQ bd,pQ bs],W1,?_,?_,?_,?_,fun h=>(by cases h),?_⟩
 rw [← hW1,hrec];exact run_enterLoop_outer _ _ _ _ _;simp only [resolve,hg];simp [go_sem];intro f' hf';trivial;have eg:=enters_of Tryz.func212 (by kernel_rfl) rfl;simp [invoke,go_sem,eg]
 refine (Zkr (n - 1) (by omega) (w.heap.size+1) bd bs d0 st hst h00 h01
  (fun k W=>I k W∧W.heap[w.heap.size+1]?=some (.loop (rec .ready none))∧W.heap[w.heap.size]?=some (.deferred (some [])))
  (fun W=>Ix W∧W.heap[w.heap.size+1]?=some (.loop (rec .done (some .ret)))∧W.heap[w.heap.size]?=some (.deferred (some [])))
  (fun k W h=>hc k W h.1) ?_ W1 ⟨hI _ _ _ h0 hb1,hL1,hK1⟩).mono ?_
 · rintro k W ⟨hi,hl,hk⟩ hkl hin
   have hlt:w.heap.size+1<W.heap.size:=(Xk.1 hl).1;have hy:=run_yield (P:=Tryz.prog) (args:=#[Value.int .i64 (d0+st * k)]) hl (by rw [hrec];simp [hps]);rw [hrec] at hy;refine ⟨fn,_,assign,body,hy,roundIn_of_wpIn hfn (hassign _ _ W _ ⟨_,run_beginRound hl (by rw [hrec]),?_⟩)⟩;have hl2:(W.putObj (w.heap.size+1) (.loop { rec .ready none with state:=.busy })).heap[w.heap.size+1]?=some (.loop { rec .ready none with state:=.busy }):=World.putObj_heap_same hlt;have hk2:(W.putObj (w.heap.size+1) (.loop { rec .ready none with state:=.busy })).heap[w.heap.size]?=some (.deferred (some [])):=(World.putObj_heap_other (by omega)).trans hk;refine wpIn_mono (hbody _ k _ (hI _ _ _ hi (bput _ _ _ (by omega))) hkl hin) ?_
   have fin:∀ (jump:Option Code) (W3:World),(∀ b,w.heap.size≤b→b<(W.putObj (w.heap.size+1) (.loop { rec .ready none with state:=.busy })).heap.size→W3.heap[b]?=(W.putObj (w.heap.size+1) (.loop { rec .ready none with state:=.busy })).heap[b]?)→
    (Instr.endRound (w.heap.size+1) jump).run Tryz.prog W3=.ok (.B jump.isNone) (W3.putObj (w.heap.size+1) (.loop (rec (if jump.isNone then .ready else .done) jump)))∧
    (W3.putObj (w.heap.size+1) (.loop (rec (if jump.isNone then .ready else .done) jump))).heap[w.heap.size+1]?=some (.loop (rec (if jump.isNone then .ready else .done) jump))∧
    (W3.putObj (w.heap.size+1) (.loop (rec (if jump.isNone then .ready else .done) jump))).heap[w.heap.size]?=some (.deferred (some [])):=fun jump W3 hk3=>by
    have hl3:=(hk3 (w.heap.size+1) (by omega) (by simp;omega)).trans hl2;have hk4:=(hk3 w.heap.size (by omega) (by simp;omega)).trans hk2;have:=run_endRound (P:=Tryz.prog) jump hl3;rw [hrec] at this ⊢;exact ⟨this,World.putObj_heap_same (Xk.1 hl3).1,(World.putObj_heap_other (by omega)).trans hk4⟩
   rintro e a3 W3 ⟨hk3,hp⟩;cases e with
   | normal=>
     obtain ⟨hr,hl4,hk4⟩:=fin none W3 hk3;have hi4:=hI' _ _ _ hp (bput W3 (w.heap.size+1) (.loop (rec .ready none)) (by omega));obtain ⟨p1,p2,p3⟩:=hc' _ _ hi4;refine ⟨_,_,hr,.inl ⟨rfl,p1,p2,p3,hstep _ _ hi4,?_,?_⟩⟩;exact (Below.heap_setCell _ ⟨bd,0,none⟩ _ _ (by show w.heap.size+1≠bd;omega)).trans hl4;exact (Below.heap_setCell _ ⟨bd,0,none⟩ _ _ (by show w.heap.size≠bd;omega)).trans hk4
   | ret=>
     obtain ⟨hr,hl4,hk4⟩:=fin (some .ret) W3 hk3;exact ⟨_,_,hr,.inr ⟨rfl,hIx _ _ hp (bput W3 (w.heap.size+1) _ (by omega)),hl4,hk4⟩⟩
   | exit id=>exact hp.elim
   | goto t=>exact hp.elim
   | panic ch=>exact hp.elim
   | outgrown=>exact hp.elim
 rintro e W2 ⟨⟨v,rfl⟩,(⟨k,hke,hi,hl,hk⟩|⟨hi,hl,hk⟩)⟩;exact ⟨none,_,by have:=run_endLoop (P:=Tryz.prog) hl (by rw [hrec];simp);rw [hrec] at this;exact this,hdone _ k _ (Xn _) hke (hI _ _ _ hi (bput _ _ _ (by omega))) ((World.putObj_heap_other (by omega)).trans hk)⟩;refine ⟨some .ret,_,by have:=run_endLoop (P:=Tryz.prog) hl (by rw [hrec];simp);rw [hrec] at this;exact this,?_⟩;exact wpIn_ret (hstop _ _ (Xn _) (hIx _ _ hi (bput _ _ _ (by omega))) ((World.putObj_heap_other (by omega)).trans hk))
theorem Zks (d st:Int) (w):CC 152 #[.I d,.I st] w fun r w'=>∃ b2 b3,r=.func (.func 212) #[] #[pQ b2,pQ b3]∧w.heap.size≤b2∧b2<b3∧Blk w' b2 3 [.I d]∧Blk w' b3 3 [.I st]∧Stp [] w w':=by
 refine cW2 6 Tryz.func152 ?_;refine W ?_;refine Z1 (Zq rfl) rfl ?_;rintro _ w1 ⟨b2,rfl,hb2,k2,hS⟩;replace k2:Blk w1 b2 3 [.I d]:=k2;refine Z1 (Zq rfl) rfl ?_;rintro _ w2 ⟨b3,rfl,hb3,k3,hS2⟩;replace k3:Blk w2 b3 3 [.I st]:=k3;have:=k2.lt;replace k2:=k2.up hS2;refine RT ?_;exact ⟨b2,b3,rfl,hb2,by omega,k2,k3,hS.trans hS2⟩
theorem Z6R {P:Program} {t b:Nat} {D:TypeDesc} {u:Value} {w:World} [hu:Und P t D] (hA:JV D=false) (hc:w.cell? ⟨b,0,none⟩=some u):(loadVar t ⟨b,0,none⟩).run P w=.ok u w:=by
 simp [loadVar,Und.isAgg,hA,hc]
theorem ZaV (b:Nat) (v:Value) (w):Stp [b] w (w.setCell ⟨b,0,none⟩ v):=⟨rfl,rfl,rfl,(KeepsOthers.setCell w ⟨b,0,none⟩ v).size,fun k hk hn=>Below.heap_setCell w ⟨b,0,none⟩ v k (fun e=>hn (by simp [e]))⟩
theorem Z5D (opn:Int→Bool) (st:Int):∀ (m:Nat) (d:Int) (k:Nat),(∀ j:Nat,j<k→opn (d+st * j)=false)→(m≤k∨ZO (d+st * k)=false)→Z3O opn st m d=(0,31)
 | 0,d,k,_,_=>rfl
 | m + 1, d, k, h, hk => by
   unfold Z3O;cases hd:ZO d with
   | false=>rfl
   | true=>
     rw [if_pos rfl];cases k with
     | zero=>
       rcases hk with hk|hk
       omega;rw [show d+st * ((0:Nat):Int)=d by simp,hd] at hk;cases hk
     | succ k=>
       have h0:=h 0 (by omega);rw [show d+st * ((0:Nat):Int)=d by simp] at h0;rw [if_neg (by rw [h0];simp)];have es:∀ j:Nat,d+st+st * (j:Int)=d+st * ((j+1:Nat):Int):=fun j=>by
        rw [Ybi,Int.mul_add];simp;omega
       exact Z5D opn st m (d+st) k (fun j hj=>by rw [es];exact h (j+1) (by omega)) (hk.imp (fun h=>by omega) (fun h=>by rw [es];exact h))
theorem Z8d (opn:Int→Bool) (st:Int):∀ (m:Nat) (d:Int) (k:Nat),k<m→(∀ j:Nat,j≤k→ZO (d+st * j)=true)→(∀ j:Nat,j<k→opn (d+st * j)=false)→opn (d+st * k)=true→Z3O opn st m d=(d+st * k,0)
 | 0,d,k,h,_,_,_=>absurd h (Xu _)
 | m + 1, d, k, hkm, hi, h, ho => by
   have hd:=hi 0 (Xq _);rw [show d+st * ((0:Nat):Int)=d by simp] at hd;unfold Z3O;rw [hd,if_pos rfl];cases k with
   | zero=>
     rw [show d+st * ((0:Nat):Int)=d by simp] at ho ⊢;rw [if_pos ho]
   | succ k=>
     have h0:=h 0 (by omega);rw [show d+st * ((0:Nat):Int)=d by simp] at h0;rw [if_neg (by rw [h0];simp)];have es:∀ j:Nat,d+st+st * (j:Int)=d+st * ((j+1:Nat):Int):=fun j=>by
      rw [Ybi,Int.mul_add];simp;omega
     rw [← es];exact Z8d opn st m (d+st) k (by omega) (fun j hj=>by rw [es];exact hi (j+1) (by omega)) (fun j hj=>by rw [es];exact h (j+1) (by omega)) (by rw [es];exact ho)
theorem Zf6 {W:World} {b8 b9:Nat} {u v:Value} (c8:W.cell? ⟨b8,0,none⟩=some u) (c9:W.cell? ⟨b9,0,none⟩=some v) (n:b8≠b9) (x y:Value) :
 ((W.setCell ⟨b8,0,none⟩ x).setCell ⟨b9,0,none⟩ y).cell? ⟨b8,0,none⟩=some x∧((W.setCell ⟨b8,0,none⟩ x).setCell ⟨b9,0,none⟩ y).cell? ⟨b9,0,none⟩=some y:=by
 have h1:(W.setCell ⟨b8,0,none⟩ x).cell? ⟨b8,0,none⟩=some x:=World.cell?_setCell_same _ _ _ c8;have h2:(W.setCell ⟨b8,0,none⟩ x).cell? ⟨b9,0,none⟩=some v:=(World.cell?_setCell_other _ _ _ _ (fun h=>n (by injection h))).trans c9;exact ⟨(World.cell?_setCell_other _ _ _ _ (fun h=>n (by injection h with h;exact h.symm))).trans h1,World.cell?_setCell_same _ _ _ h2⟩
theorem Z5E (b8 b9:Nat) (x y:Value) (w):Stp [b8,b9] w ((w.setCell ⟨b8,0,none⟩ x).setCell ⟨b9,0,none⟩ y):=((ZaV b8 x w).mono (S':=[b8,b9]) (by simp)).trans ((ZaV b9 y _).mn)
theorem Ze5 {tmps:Array Value} {W:World} {b8 b9:Nat} {x y:Value} (h8:tmps.getD 8 undef=pQ b8) (h9:tmps.getD 9 undef=pQ b9) (c8:W.cell? ⟨b8,0,none⟩=some x) (c9:W.cell? ⟨b9,0,none⟩=some y) :
 (results Tryz.f84 tmps).run Tryz.prog W=.ok (.tuple #[x,y]) W:=by
 rw [Xz] at h8 h9;have l8:=Z6R (P:=Tryz.prog) (t:=3) (hu:=(inferInstance:Und Tryz.prog 3 (.int .i64))) rfl c8;have l9:=Z6R (P:=Tryz.prog) (t:=92) (hu:=(inferInstance:Und Tryz.prog 92 (.int .i64))) rfl c9;simp [results,h8,h9,asAddr,l8,l9]
theorem Zkt (d kn st:Int) (hst:st=1∨st=-1) (c:Cal) (hv cv zo zs hr:Value) (w) (h:Z6n w c hv cv zo zs hr) :
 CallsIn Fence.wide 5 Tryz.prog 84 #[Z6o c hv cv zo zs hr,.I d,.I kn,.I st] w fun e W'=>e=.returned (.tuple #[.I (Jz (ZB c kn) st d).1,.I (Jz (ZB c kn) st d).2])∧Stp [] w W':=by
 refine callsIn_of_wp_marks Tryz.func84 rfl trivial ?_ rfl;simp only [Tryz.ntmps84,Yar,Xe,Xf,Nat.reduceAdd,Nat.reduceSub,Array.replicate_succ,Array.replicate_zero,List.push_toArray,List.append_toArray,XL,XR]
 gi_wp2
 obtain ⟨W1,hW1⟩:∃ W1,W1=((w.alloc (.cells (Z0e c hv cv zo zs hr).toArray 35)).alloc (.cells #[.I 0] 3)).alloc (.cells #[.I 0] 92):=⟨_,rfl⟩
 rw [← hW1];have kc:Blk W1 w.heap.size 35 (Z0e c hv cv zo zs hr):=by
  rw [hW1];exact (Blk.up (World.alloc_heap_new w _) (Stp.alloc _ _ _)).up (Stp.alloc _ _ _)
 have k8:Blk W1 (w.heap.size+1) 3 [.I 0]:=by
  rw [hW1];have:=World.alloc_heap_new (w.alloc (.cells (Z0e c hv cv zo zs hr).toArray 35)) (.cells #[.I 0] 3);rw [World.size_alloc] at this;exact Blk.up this (Stp.alloc _ _ _)
 have k9:Blk W1 (w.heap.size+1+1) 92 [.I 0]:=by
  rw [hW1];have:=World.alloc_heap_new ((w.alloc (.cells (Z0e c hv cv zo zs hr).toArray 35)).alloc (.cells #[.I 0] 3)) (.cells #[.I 0] 92);rw [World.size_alloc,World.size_alloc] at this;exact this
 have hS1:Stp [] w W1:=by
  rw [hW1];exact ((Stp.alloc _ _ _).trans (Stp.alloc _ _ _)).trans (Stp.alloc _ _ _)
 have hB8:w.heap.size≤w.heap.size+1:=by omega
 have hB9:w.heap.size≤w.heap.size+1+1:=by omega
 generalize hb9:w.heap.size+1+1=b9 at *;generalize hb8:w.heap.size+1=b8 at *;generalize hb4:w.heap.size=b4 at *;clear hW1;have n89:b8≠b9:=by omega
 have c8:=Boxed.cell (show Boxed W1 b8 3 (.I 0) from k8);have f8:=Boxed.frozen (show Boxed W1 b8 3 (.I 0) from k8);have c9:=Boxed.cell (show Boxed W1 b9 92 (.I 0) from k9);have f9:=Boxed.frozen (show Boxed W1 b9 92 (.I 0) from k9);refine ⟨trivial,?_⟩;refine (callsIn_wide.2 (Z3X d W1)).mono ?_;rintro e w' ⟨v,rfl,rfl,rfl⟩;cases hd:ZO d with
 | false=>
   gi_wp2
   have hfd:Jz (ZB c kn) st d=(0,5):=by unfold Jz;rw [hd];rfl
   obtain ⟨g8,g9⟩:=Zf6 c8 c9 n89 (.I 0) (.I 5);refine ⟨_,Ze5 rfl rfl g8 g9,?_,?_⟩;rw [hfd];exact hS1.own (Z5E b8 b9 _ _ _) (fun x hx=>by simp at hx;omega)
 | true=>
   have q:=fun (j:Nat) (u:Value) (hu:(Z0e c hv cv zo zs hr)[j]?=some u)=>kc.cell hu;have q0:=q 0 _ rfl;have q1:=q 1 _ rfl;have q2:=q 2 _ rfl;have q3:=q 3 _ rfl;have q4:=q 4 _ rfl;have q5:=q 5 _ rfl;have q6:=q 6 _ rfl;have q7:=q 7 _ rfl;have q8:=q 8 _ rfl;have q9:=q 9 _ rfl;have q10:=q 10 _ rfl;have q11:=q 11 _ rfl
   gi_wp2
   refine ⟨trivial,?_⟩;refine (callsIn_wide.2 (Zkq kn c hv cv zo zs hr w')).mono ?_;rintro e W2 ⟨v,rfl,⟨b2,b3,rfl,k2,k3⟩,hS2⟩;have f8':=Boxed.frozen (show Boxed W2 b8 3 (.I 0) from k8.up hS2);have f9':=Boxed.frozen (show Boxed W2 b9 92 (.I 0) from k9.up hS2);have c8':=Boxed.cell (show Boxed W2 b8 3 (.I 0) from k8.up hS2);have c9':=Boxed.cell (show Boxed W2 b9 92 (.I 0) from k9.up hS2);have cN:=Boxed.cell (Boxed.new W2 178 .nilFunc);have fN:=Boxed.frozen (Boxed.new W2 178 .nilFunc);have hstr:(store ⟨W2.heap.size,0,none⟩ (.func (.func 154) #[] #[pQ b2,pQ b3])).run Tryz.prog (W2.alloc (.cells #[.nilFunc] 178))=.ok () ((W2.alloc (.cells #[.nilFunc] 178)).setCell ⟨W2.heap.size,0,none⟩ (.func (.func 154) #[] #[pQ b2,pQ b3])):=by
    rw [run_store _ _ _ _ _ rfl];simp [cN,fN]
   gi_wp2
   refine ⟨trivial,?_⟩;refine (callsIn_wide.2 (Zks d st _)).mono ?_;rintro e W3 ⟨v,rfl,bd,bs,rfl,hbd,hbs,kd,ks,hS3⟩;have hcl:W3.cell? ⟨W2.heap.size,0,none⟩=some (.func (.func 154) #[] #[pQ b2,pQ b3]):=hS3.cell (by simp) (Boxed.cell (Boxed.new W2 178 _));have hSx:Stp [] W2 W3:=(Stp.alloc [] W2 _).trans hS3
   gi_wp2
   have hSw:Stp [] w' W3:=hS2.trans hSx;have h3:=(h.up hS1).up hSw;have hb2l:=(k2.up hSx).lt;have k2':=k2.up hSx;have k3':=k3.up hSx;have k8':=k8.up hSw;have k9':=k9.up hSw;have hW2z:=hSx.size;have hcz:W2.heap.size<W3.heap.size:=by have:=block_lt_of_cell hcl;simpa using this
   have hbdz:W2.heap.size<bd:=by simp at hbd;omega
   have k8l:=(k8.up hS2).lt;have k9l:=(k9.up hS2).lt;have k2l:=k2.lt;have k3l:=k3.lt;have h00:=(ZP.1 hd).1;have h01:=(ZP.1 hd).2;have hbdw:w.heap.size≤bd:=by have:=hS1.size;have:=hSw.size;have:=hS2.size;omega
   have g1:3<w.heap.size:=by have:=block_lt_of_cell (h.len 0 0 rfl);simpa using this
   have g2:4<w.heap.size:=by have:=block_lt_of_cell (h.mov 0 0 rfl);simpa using this
   have hhx:=h.hols.ext (X':=[bd]) (hS1.trans hSw) (by simp) (fun b hb=>.inr (by simp at hb;omega));have hcx:=h.clos.ext (X':=[bd]) (hS1.trans hSw) (by simp) (fun b hb=>.inr (by simp at hb;omega));have hzw:=(hS1.trans hSw).size;have cal:∀ W,Stp [bd] W3 W→Z6n W c hv cv zo zs hr:=fun W hS=>⟨hhx.ext (X':=[]) hS (fun b hb=>hb) (by simp),hcx.ext (X':=[]) hS (fun b hb=>hb) (by simp),h3.len.ext hS (by simp;omega),h3.mov.ext hS (by simp;omega),h.ok⟩
   have sb:∀ {S:List Nat} {W W':World},Stp S W3 W→Below W3.heap.size W W'→Stp S W3 W':=fun hS hB=>⟨hB.os.trans hS.os,hB.tape.trans hS.tape,hB.output.trans hS.output,Xg hS.size hB.size,fun i hi hn=>(hB.block i hi).trans (hS.block i hi hn)⟩
   have hkd:=kd.lt;have hks:=ks.lt
   refine Ze4 (by omega) rfl rfl hst h00 h01 kd.lt
    (fun k W=>Stp [bd] W3 W∧Boxed W bd 3 (.I (d+st * k))∧∀ j:Nat,j<k→ZB c kn (d+st * j)=false)
    (fun k W=>(Stp [bd] W3 W∧Boxed W bd 3 (.I (d+st * k))∧∀ j:Nat,j<k→ZB c kn (d+st * j)=false)∧ZB c kn (d+st * k)=false)
    (fun W=>Stp [bd,b8,b9] W3 W∧∃ k:Nat,k≤1000∧ZO (d+st * k)=true∧(∀ j:Nat,j<k→ZB c kn (d+st * j)=false)∧ZB c kn (d+st * k)=true∧W.cell? ⟨b8,0,none⟩=some (.I (d+st * k))∧W.cell? ⟨b9,0,none⟩=some (.I 0))
    ?hI ?hI' ?hIx ?hc ?hc' ?hstep ?h0 (fun X=>{ tmps:=#[Z6o c hv cv zo zs hr,.I d,.I kn,.I st,pQ b4,undef,undef,undef,pQ b8,pQ b9,.pointer (some ⟨W2.heap.size,0,none⟩),.I X,.I d,.B true,.B false,Z6o c hv cv zo zs hr,.I kn,.func (.func 154) #[] #[pQ b2,pQ b3],.I d,.I st,.func (.func 212) #[] #[pQ bd,pQ bs],.I X,undef,undef,undef,undef,undef],defers:=[] }) ?hassign ?hbody ?hdone ?hstop
   case hI=>exact fun k W W' ⟨a,b,e⟩ hB=>⟨sb a hB,(hB.block bd hkd).trans b,e⟩
   case hI'=>exact fun k W W' ⟨⟨a,b,e⟩,f⟩ hB=>⟨⟨sb a hB,(hB.block bd hkd).trans b,e⟩,f⟩
   case hIx=>exact fun W W' ⟨a,k,p1,p2,p3,p4,p5,p6⟩ hB=>⟨sb a hB,k,p1,p2,p3,p4,(World.cell?_of_block (hB.block b8 (by omega))).trans p5,(World.cell?_of_block (hB.block b9 (by omega))).trans p6⟩
   case hc=>exact fun k W ⟨a,b,e⟩=>⟨b.cell,a.cell (by simp;omega) (ks.cell rfl)⟩
   case hc'=>exact fun k W ⟨⟨a,b,e⟩,f⟩=>⟨b.cell,b.frozen,a.cell (by simp;omega) (ks.cell rfl)⟩
   case hstep=>
    rintro k W ⟨⟨a,b,e⟩,f⟩;have e1:d+st * ((k+1:Nat):Int)=d+st * k+st:=by rcases hst with rfl|rfl<;>omega
    refine ⟨a.trans (ZaV bd _ _),by rw [e1];exact b.set _,fun j hj=>?_⟩;by_cases hjk:j=k;subst hjk;exact f;exact e j (by omega)
   case h0=>exact ⟨Stp.refl _ _,by rw [show d+st * ((0:Nat):Int)=d by simp];exact kd,fun j hj=>absurd hj (Xu _)⟩
   case hassign=>
    intro l X W K hK
    gi_wp2
    exact hK
   case hbody=>
    rintro l k W ⟨a,bx,e⟩ hkl hin;have hclw:=a.cell (b:=W2.heap.size) (o:=0) (by simp;omega) hcl;obtain ⟨x0,x1⟩:=ZP.1 hin
    gi_wp2
    refine ⟨trivial,(CallsIn.inRound l (callsIn_wide.2 (ZgA (d+st * k) kn b2 b3 c hv cv zo zs hr W (cal W a) (k2'.ext a (by simp;omega)) (k3'.ext a (by simp;omega)) x0 x1))).mono ?_⟩;rintro e5 W5 ⟨v,rfl,rfl,hS5⟩;have a5:=a.trans hS5.mn;cases hsh:ZeM c kn (d+st * k) with
    | true=>
      gi_wp2
      exact ⟨fun b h1 h2=>hS5.block b h2 (by simp),⟨Blk.up (show Blk W bd 3 [.I (d+st * k)] from bx) hS5,e⟩,by unfold ZB;rw [hin,hsh];rfl⟩
    | false=>
      have f8:=Boxed.frozen (show Boxed W5 b8 3 (.I 0) from k8'.ext a5 (by simp;omega));have f9:=Boxed.frozen (show Boxed W5 b9 92 (.I 0) from k9'.ext a5 (by simp;omega));have c8:=Boxed.cell (show Boxed W5 b8 3 (.I 0) from k8'.ext a5 (by simp;omega));have c9:=Boxed.cell (show Boxed W5 b9 92 (.I 0) from k9'.ext a5 (by simp;omega))
      gi_wp2
      exact ⟨fun b h1 h2=>((Z5E b8 b9 _ _ W5).block b (Xa h2 hS5.size) (by simp;omega)).trans (hS5.block b h2 (by simp)),a5.mn.trans ((Z5E b8 b9 _ _ W5).mn),k,hkl,hin,e,by unfold ZB;rw [hin,hsh];rfl,rfl⟩
   case hdone=>
    rintro D k W hD hke ⟨a,bx,e⟩ hdef;have f8:=Boxed.frozen (show Boxed W b8 3 (.I 0) from k8'.ext a (by simp;omega));have f9:=Boxed.frozen (show Boxed W b9 92 (.I 0) from k9'.ext a (by simp;omega));have c8:=Boxed.cell (show Boxed W b8 3 (.I 0) from k8'.ext a (by simp;omega));have c9:=Boxed.cell (show Boxed W b9 92 (.I 0) from k9'.ext a (by simp;omega))
    gi_wp2
    obtain ⟨y8,y9⟩:=Zf6 c8 c9 n89 (.I 0) (.I 31);have hdz:D<W.heap.size:=(Xk.1 hdef).1;have hdef2:=((Z5E b8 b9 (.I 0) (.I 31) W).block D hdz (by simp;omega)).trans hdef;have hfd:Jz (ZB c kn) st d=(0,31):=by
     unfold Jz;rw [hd,if_pos rfl];exact Z5D _ _ _ _ k e (hke.imp (fun h=>by omega) id)
    refine ⟨by simp,.inl ⟨_,_,rfl,run_takeDeferred hdef2,_,Ze5 rfl rfl ((World.cell?_of_block (World.putObj_heap_other (by show b8≠D;omega))).trans y8) ((World.cell?_of_block (World.putObj_heap_other (by show b9≠D;omega))).trans y9),?_,?_⟩⟩;rw [hfd];have t1:=((hS1.trans hSw).ow a).own (Z5E b8 b9 (.I 0) (.I 31) W) (fun x hx=>.inr (by simp at hx;omega));refine ⟨t1.os,t1.tape,t1.output,by simpa using t1.size,fun q hq hn=>(World.putObj_heap_other (by omega)).trans (t1.block q hq hn)⟩
   case hstop=>
    rintro D W hD ⟨a,k,p1,p2,p3,p4,p5,p6⟩ hdef
    gi_wp2
    obtain ⟨x0,x1⟩:=ZP.1 p2;have hfd:Jz (ZB c kn) st d=(d+st * k,0):=by
     unfold Jz;rw [hd,if_pos rfl];refine Z8d _ _ _ _ k (by omega) (fun j hj=>ZP.2 ?_) p3 p4;rcases hst with rfl|rfl<;>omega
    refine ⟨by simp,.inl ⟨_,_,rfl,run_takeDeferred hdef,_,Ze5 rfl rfl ((World.cell?_of_block (World.putObj_heap_other (by show b8≠D;omega))).trans p5) ((World.cell?_of_block (World.putObj_heap_other (by show b9≠D;omega))).trans p6),?_,?_⟩⟩;rw [hfd];have t1:=(hS1.trans hSw).ow a;exact ⟨t1.os,t1.tape,t1.output,by simpa using t1.size,fun q hq hn=>(World.putObj_heap_other (by omega)).trans (t1.block q hq hn)⟩
theorem Z3b (d kn st:Int) (c:Cal) (hv cv zo zs hr:Value) (w) (h:Z6n w c hv cv zo zs hr) (hst:st=1∨st=-1) :
 CC 84 #[Z6o c hv cv zo zs hr,.I d,.I kn,.I st] w fun r w'=>r=.tuple #[.I (Jz (ZB c kn) st d).1,.I (Jz (ZB c kn) st d).2]∧Stp [] w w':=by
 refine Calls.mono (callsIn_wide.1 (Zkt d kn st hst c hv cv zo zs hr w h)) ?_;rintro e W' ⟨rfl,hS⟩;exact .mk ⟨rfl,hS⟩
theorem Z9v (d kn:Int) (c:Cal) (hv cv zo zs hr:Value) (w) (h:Z6n w c hv cv zo zs hr) :
 CC 52 #[Z6o c hv cv zo zs hr,.I d,.I kn] w fun r w'=>r=.tuple #[.I (Jz (ZB c kn) (1) d).1,.I (Jz (ZB c kn) (1) d).2]∧Stp [] w w':=by
 refine cW3 14 Tryz.func52 ?_;refine W ?_;refine Z1 (Zq rfl) rfl ?_;rintro _ w1 ⟨b3,rfl,hb3,hblk,hS⟩;replace hblk:Blk w1 b3 35 (Z0e c hv cv zo zs hr):=hblk;replace h:=h.up hS;refine W ?_;refine CM (Z6Y rfl rfl rfl rfl) (Z3b d kn (1) c hv cv zo zs hr _ h (by omega)) ?_;rintro _ w2 ⟨rfl,hS2⟩;refine RT ?_;exact ⟨rfl,hS.trans hS2⟩
theorem Z8N (d kn:Int) (c:Cal) (hv cv zo zs hr:Value) (w) (h:Z6n w c hv cv zo zs hr) :
 CC 210 #[Z6o c hv cv zo zs hr,.I d,.I kn] w fun r w'=>r=.tuple #[.I (Jz (ZB c kn) (-1) d).1,.I (Jz (ZB c kn) (-1) d).2]∧Stp [] w w':=by
 refine cW3 14 Tryz.func210 ?_;refine W ?_;refine Z1 (Zq rfl) rfl ?_;rintro _ w1 ⟨b3,rfl,hb3,hblk,hS⟩;replace hblk:Blk w1 b3 35 (Z0e c hv cv zo zs hr):=hblk;replace h:=h.up hS;refine W ?_;refine CM (Z6Y rfl rfl rfl rfl) (Z3b d kn (-1) c hv cv zo zs hr _ h (by omega)) ?_;rintro _ w2 ⟨rfl,hS2⟩;refine RT ?_;exact ⟨rfl,hS.trans hS2⟩
theorem ZnB (d n kn:Int) (c:Cal) (hv cv zo zs hr:Value) (w) (h:Z6n w c hv cv zo zs hr) :
 CC 209 #[Z6o c hv cv zo zs hr,.I d,.I n,.I kn] w fun r w'=>r=.tuple #[.I (Z6c (ZB c kn) d n).1,.I (Z6c (ZB c kn) d n).2]∧Stp [] w w':=by
 refine cW4 46 Tryz.func209 ?_;refine W ?_;refine Z1 (Zq rfl) rfl ?_;rintro _ w1 ⟨b4,rfl,hb4,hblk,hS⟩;replace hblk:Blk w1 b4 35 (Z0e c hv cv zo zs hr):=hblk;replace h:=h.up hS;refine W ?_;refine CL (Z3X d _) ?_;rintro _ w1 ⟨rfl,rfl⟩;unfold Z6c;cases hd:ZO d with
 | false=>
   rw [if_neg (by simp)];refine RT ?_;exact ⟨rfl,hS⟩
 | true=>
   rw [if_pos rfl];by_cases hn:n < -1000∨1000<n
   · rw [if_pos hn]
     repeat'(first|refine W1 ?_|omega|refine VG ?_ ?_<;>intro hg|refine VC ?_ ?_<;>intro hc)
     all_goals refine WR ?_
     all_goals exact .mk ⟨rfl,hS⟩
   rw [if_neg hn];by_cases hneg:n<0;have hna:(n.natAbs:Int)=(-n):=by omega
   have hif:(if n<0 then (-1:Int) else 1)=-1:=by split<;>omega
   rw [hif];refine QO ?_
   refine Zu (σ:=Nat×Int) (fun q=>[(1,.I q.2),(3,.I kn),(4,pQ b4),(10,.I (-1)),(28,.I (-n)),(29,.I (q.1:Int))])
    (fun q w'=>q.1≤n.natAbs∧ZO q.2=true∧Z6b (ZB c kn) (-1) (n.natAbs - q.1) q.2=Z6b (ZB c kn) (-1) n.natAbs d∧Stp [] w1 w') (fun q=>n.natAbs - q.1) (0,d) ⟨rfl,rfl,rfl,rfl,rfl,rfl,trivial⟩ ⟨Xq _,hd,rfl,Stp.refl _ _⟩ ?_
   rintro ⟨k,q⟩ w2 ⟨hk,hq,hfg,hS2⟩;dsimp only at hk hq hfg ⊢;have hblk2:=hblk.up hS2;have h2:=h.up hS2;have hqr:=ZP.1 hq;by_cases hlt:k<n.natAbs;have e1:n.natAbs - k=(n.natAbs - (k+1))+1:=by omega
   rw [e1,Z6b] at hfg;refine QO ?_;refine CM (Z6Y rfl rfl rfl rfl) (Z3b (q+(-1)) kn (-1) c hv cv zo zs hr _ h2 (by omega)) ?_;rintro _ w3 ⟨rfl,hS3⟩;by_cases he:(Jz (ZB c kn) (-1) (q+(-1))).2=0;rw [if_pos he] at hfg;rw [he];refine W ?_;exact ZD (k+1,(Jz (ZB c kn) (-1) (q+(-1))).1) ⟨rfl,rfl,rfl,rfl,rfl,rfl,trivial⟩ ⟨by dsimp only;omega,(Z3R he).1,hfg,hS2.trans hS3⟩ (by dsimp only;omega);rw [if_neg he] at hfg;refine QO ?_;refine WR ?_;rw [← hfg];exact .mk ⟨rfl,(hS.trans hS2).trans hS3⟩;have e1:n.natAbs - k=0:=by omega
   rw [e1,Z6b] at hfg;refine QO ?_;refine WR ?_;rw [← hfg];exact .mk ⟨rfl,hS.trans hS2⟩;have hna:(n.natAbs:Int)=n:=by omega
   have hif:(if n<0 then (-1:Int) else 1)=1:=by split<;>omega
   rw [hif];refine QO ?_
   refine Zu (σ:=Nat×Int) (fun q=>[(1,.I q.2),(3,.I kn),(4,pQ b4),(10,.I (1)),(28,.I n),(29,.I (q.1:Int))])
    (fun q w'=>q.1≤n.natAbs∧ZO q.2=true∧Z6b (ZB c kn) (1) (n.natAbs - q.1) q.2=Z6b (ZB c kn) (1) n.natAbs d∧Stp [] w1 w') (fun q=>n.natAbs - q.1) (0,d) ⟨rfl,rfl,rfl,rfl,rfl,rfl,trivial⟩ ⟨Xq _,hd,rfl,Stp.refl _ _⟩ ?_
   rintro ⟨k,q⟩ w2 ⟨hk,hq,hfg,hS2⟩;dsimp only at hk hq hfg ⊢;have hblk2:=hblk.up hS2;have h2:=h.up hS2;have hqr:=ZP.1 hq;by_cases hlt:k<n.natAbs;have e1:n.natAbs - k=(n.natAbs - (k+1))+1:=by omega
   rw [e1,Z6b] at hfg;refine QO ?_;refine CM (Z6Y rfl rfl rfl rfl) (Z3b (q+(1)) kn (1) c hv cv zo zs hr _ h2 (by omega)) ?_;rintro _ w3 ⟨rfl,hS3⟩;by_cases he:(Jz (ZB c kn) (1) (q+(1))).2=0;rw [if_pos he] at hfg;rw [he];refine W ?_;exact ZD (k+1,(Jz (ZB c kn) (1) (q+(1))).1) ⟨rfl,rfl,rfl,rfl,rfl,rfl,trivial⟩ ⟨by dsimp only;omega,(Z3R he).1,hfg,hS2.trans hS3⟩ (by dsimp only;omega);rw [if_neg he] at hfg;refine QO ?_;refine WR ?_;rw [← hfg];exact .mk ⟨rfl,(hS.trans hS2).trans hS3⟩;have e1:n.natAbs - k=0:=by omega
   rw [e1,Z6b] at hfg;refine QO ?_;refine WR ?_;rw [← hfg];exact .mk ⟨rfl,hS.trans hS2⟩
theorem Z8O (d n:Int) (w) (hL:Z0E w) (h0:0≤d) (h1:d≤3652058) :
 CC 208 #[.I d,.I n] w fun r w'=>r=.tuple #[.I (Zc6 d n).1,.I (Zc6 d n).2]∧Stp [] w w':=by
 obtain ⟨y1,y2,m1,m2,d1,d2,hday⟩:=Zaq h0 h1;have hin:ZO d=true:=ZP.2 ⟨h0,h1⟩;have g1:3<w.heap.size:=by have:=block_lt_of_cell (hL 0 0 rfl);simpa using this
 unfold Zc6;refine cW2 56 Tryz.func208 ?_;by_cases hn:n < -200000∨200000<n
 · rw [if_pos hn]
   repeat'(first|refine W1 ?_|omega|refine VG ?_ ?_<;>intro hg|refine VC ?_ ?_<;>intro hc)
   all_goals refine WR ?_
   all_goals exact .mk ⟨rfl,Stp.refl _ _⟩
 rw [if_neg hn,if_pos hin];refine QO ?_;refine CL (Zaw d _ h0 h1) ?_;rintro _ w1 ⟨rfl,hS⟩;replace hL:=hL.up hS;refine W ?_;refine Z1 Z2 rfl ?_;rintro _ w2 ⟨b6,rfl,hb6,e6,hS2⟩;refine W ?_;refine SB (us:=[.I (ofM d).y,.I (ofM d).m,.I (ofM d).d]) (by intro u hu;simp at hu;rcases hu with rfl|rfl|rfl<;>rfl) e6 ?_;rintro _ w3 ⟨hT,k6⟩;have hb6w:w.heap.size≤b6:=by have:=hS.size;omega
 replace hS:=hS.trans (hS2.ow hT);replace hL:=hL.up (hS2.ow hT);clear e6 hT hS2;generalize hM:12 * (ofM d).y+(ofM d).m - 1+n=M;by_cases hr:M<12∨120000≤M
 · rw [if_pos hr]
   refine W ?_;rw [hM];repeat'(first|refine W1 ?_|omega|refine VG ?_ ?_<;>intro hg|refine VC ?_ ?_<;>intro hc)
   all_goals refine WR ?_
   all_goals exact .mk ⟨rfl,hS⟩
 rw [if_neg hr];have hl1:=Z2Y (M / 12) (M % 12+1);have hl0:=Z2g (y:=M / 12) (k:=(M % 12).toNat) (by omega);rw [show (((M % 12).toNat:Int))=M % 12 by omega] at hl0;refine W ?_;rw [hM];refine QO ?_;refine S1 (u:=.I (M / 12)) k6 ?_;rintro _ w4 ⟨hS4,k6⟩;refine W ?_;refine S1 (u:=.I (M % 12+1)) k6 ?_;rintro _ w5 ⟨hS5,k6⟩;replace hL:=(hL.ext hS4 (by simp;omega)).ext hS5 (by simp;omega);replace hS:=(hS.ow hS4).ow hS5;clear hS4 hS5;refine W ?_;refine ZDr 10 [] [9] [(0,0),(1,1),(2,0),(3,1),(4,0),(5,1),(6,2),(7,0),(8,0),(9,2)] (fun w1 hS1=>?_);replace hL:=hL.up hS1;replace k6:=k6.up hS1;replace hS:=hS.trans hS1;clear hS1;refine D ?_;refine Zc rfl trivial (Zd rfl (Zh rfl rfl) (Z33 (M / 12) (M % 12+1) _ hL (by omega) (by omega))) (fun _ _ h=>by rw [h.2];exact Stp.refl _ _) rfl ?_;rintro _ _ ⟨rfl,rfl⟩;refine D ?_;refine Jy rfl trivial (Za (u:=.I (min (ofM d).d (ZL (M / 12) (M % 12+1)))) rfl rfl rfl rfl k6 (by simp)) rfl ?_;rintro _ w6 ⟨hS6,k6⟩;replace hS:=hS.ow hS6;refine D ?_;refine W ?_;refine CM (ZX rfl) (Z4Y (M / 12) (M % 12+1) (min (ofM d).d (ZL (M / 12) (M % 12+1))) _ (by omega) (by omega) (by omega) (by omega) (by omega) (by omega) (by omega)) ?_;rintro _ w7 ⟨rfl,hS7⟩;refine RT ?_;exact ⟨rfl,hS.trans hS7⟩
theorem ZnC (a b:Int) (w):(Instr.build 75 #[(0,.I a),(1,.I b)]).run Tryz.prog w=.ok (agg ((a,b):Spn)) w:=by kernel_rfl
theorem Zku (d:Spn) (w):(Instr.buildSlice 27 1 #[(0,agg d)]).run Tryz.prog w=.ok (.slice (some ⟨w.heap.size,0,none⟩) 1 1) (w.alloc (.cells (Z3.enc d).toArray 75)):=by kernel_rfl
section
variable {K:MK} {w w':World} {sv pv:Value} {st:List Int} {sp:List Spn} {at_ er:Int} {dn:Bool}
theorem Mch.cal (hK:KOk K) (h:Mch K w sv pv st sp at_ er dn):Z6n w K.c K.hv K.cv K.zo K.zs K.hr:=
 ⟨(h.hols hK).ext (Stp.refl [] w) (by simp) (by simp),(h.clos hK).ext (Stp.refl [] w) (by simp) (by simp),h.len hK,h.mov hK,hK.cal⟩
theorem Mch.spans (hK:KOk K) (h:Mch K w sv pv st sp at_ er dn) {bs:Nat} (hk:K.nk=some bs) {pv':Value} {sp':List Spn} {w2:World} (hS:Stp (ob pv) w w') (hr:Row [] w' K.w0.heap.size 75 pv' sp') (ho:∀ b∈ob pv',b∈ob pv∨w.heap.size≤b)
 (hS2:Stp [bs] w' w2) (hb:Blk w2 bs 27 [pv']):Mch K w2 sv pv' st sp' at_ er dn:=by
 have hbm:=hK.bml;have hn:=hK.nkl bs hk;obtain ⟨h1,h2⟩:=h.nt bs hk;have hge:=fun b hb=>(hr.ob_le b hb).1;have hge0:=fun b hb=>(h2.ob_le b hb).1;have hges:=fun b hb=>(h.row.ob_le b hb).1;have hlts:=fun b hb=>(h.row.ob_le b hb).2;refine ⟨(h.blk.ext hS (fun hx=>by have:=hge0 _ hx;omega)).ext hS2 (by have:=hn.2;simp;exact fun e=>this e.symm),(h.row.keep hS (fun b hb hp=>h.ap b hp hb)).keep hS2 (fun b hb hx=>by have:=hges _ hx;simp at hb;omega),fun bs' hbs=>?_,(fun h0=>by rw [hk] at h0;cases h0),fun b hb hp=>?_,?_,fun p hp=>?_⟩;have hbs:bs'=bs:=by rw [hk] at hbs;exact (XX hbs).symm
 subst hbs;exact ⟨hb,hr.keep hS2 (fun b hb hx=>by have:=hge _ hx;simp at hb;omega)⟩;rcases ho b hp with h3|h3
 exact h.ap b hb h3;have:=hlts b hb;omega;exact (h.stp.own (S':=ob pv) hS (fun b hb=>.inr (hge0 b hb))).trans (hS2.mono (by simp [MK.own,hk]));obtain ⟨a,b,c,d⟩:=h.prot p hp;have hlt:=(Xk.1 a).1;have a2:=(hS.block p.1 hlt d).trans a;have a3:=(hS2.block p.1 (Xk.1 a2).1 (fun e=>b (by simp at e;rw [e];simp [MK.own,hk]))).trans a2;exact ⟨a3,b,c,fun h3=>(ho _ h3).elim d (fun h4=>by omega)⟩
theorem ZgB (hK:KOk K) (h:Mch K w sv pv st sp at_ er dn) {bs:Nat} (hk:K.nk=some bs) (a b:Int) (hl:sp.length≤100000) :
 CC 80 #[.I a,.I b,pQ bs] w fun r w'=>r=.tuple #[]∧∃ pv',Mch K w' sv pv' st (sp++[(a,b)]) at_ er dn:=by
 obtain ⟨hblk,hrow⟩:=h.nt bs hk;have hn:=hK.nkl bs hk;have hge0:=fun b hb=>(hrow.ob_le b hb).1;refine cW3 11 Tryz.func80 ?_;refine W ?_;refine Z8 (vs:=[(0,.I a),(1,.I b)]) rfl (ZnC _ _) rfl ?_;refine Z1 (Z0 (vs:=[(0,agg ((a,b):Spn))]) rfl (Zku _)) rfl ?_;rintro bv w1 hN;have hS1:=Z6.stp hN;have hbv:SlV (ob pv++[]) w1 bv [((a,b):Spn)]:=hN.slv (fun b hb=>by simp at hb;exact (hrow.ob_le b hb).2) rfl rfl (by simp [maxLen]);replace h:=h.up hS1;replace hrow:=hrow.up hS1;replace hblk:=hblk.up hS1;refine Z1 (ZW rfl (by decide) rfl rfl hrow hbv (by simp;omega) (by simp [maxLen];omega) (h.stp.size)) rfl ?_;rintro pv' w2 ⟨hr2,hS2,ho⟩;have hblk2:=hblk.ext hS2 (fun hx=>by have:=hge0 _ hx;omega);refine W ?_;have h1:=hr2.slv (X:=[]) (by simp);refine Z5 (Za (u:=pv') rfl rfl h1.cells h1.one hblk2 (by simp)) ?_;rintro _ w3 ⟨hS3,hblk3⟩;refine RT ?_;exact ⟨rfl,pv',h.spans hK hk hS2 hr2 ho hS3 hblk3⟩
theorem Z7d {P:Nat} {e:Env} {d:Option Nat} {ty:TypeId} {pos:String} {af:Array Edge} {g:Option (Nat×Bool)} {x y z:Operand} {ts:Array TypeId} (hK:KOk K) (h:Mch K w sv pv st sp at_ er dn) {a b:Int} (hl:sp.length≤100000)
 (hx:ev e x=some (Zow K.nk)) (hy:ev e y=some (.I a)) (hz:ev e z=some (.I b)) :
 OE Tryz.prog P ⟨d,.call { callee:=.value x,args:=#[y,z],argTypes:=ts },ty,pos,af,g⟩ e w (fun v w'=>v=.tuple #[]∧∃ pv',Mch K w' sv pv' st (sp++[(a,b)]) at_ er dn):=by
 cases hk:K.nk with
 | none=>
   exact absurd hk hK.nks
 | some bs=>
   rw [hk] at hx;exact Z0h (f:=80) hx (Zh hy hz) rfl (ZgB hK h hk a b hl)
theorem Res.err {r:Int×Int} {st':List Int} {sp':List Spn} (h:Res K w st sp at_ r) (he:¬ r.2=0):Res K w st' sp' at_ r:=by
 obtain ⟨a,b,c,d,h1,h2⟩:=h;exact ⟨a,b,c,d,h1,fun h0=>absurd h0 he⟩
theorem ZnD (hK:KOk K) {a b:Int} (h:Mch K w sv pv (st++[a,b]) sp at_ 0 false) (hl:st.length≤100000) (n:Int) (hr:ZO a=true) :
 CC 142 #[mP K,.I n] w fun r w'=>r=.tuple #[]∧Res K w' st sp at_ (Zc6 a b):=by
 obtain ⟨d0,d1⟩:=ZP.1 hr;refine cW2 18 Tryz.func142 ?_;refine W ?_;refine CL (Z02 hK h) ?_;rintro _ w1 ⟨rfl,sv1,h1⟩;refine W ?_;refine CL (Z8O a b _ (h1.len hK) d0 d1) ?_;rintro _ w2 ⟨rfl,hS⟩;replace h1:=h1.up hS;refine W ?_;refine CL (Z0o hK h1 hl _ _) ?_;rintro _ w3 ⟨rfl,h2⟩;refine RT ?_;exact ⟨rfl,h2⟩
theorem Zx8 (hK:KOk K) {b:Int} (h:Mch K w sv pv (st++[b]) sp at_ 0 false) (hl:st.length≤100000) (hlp:sp.length≤100000) (n:Int) :
 CC 144 #[mP K,.I n] w fun r w'=>r=.tuple #[]∧Res K w' st (sp++[(b,(Jz (ZB K.c K.kn) 1 b).1)]) at_ (Jz (ZB K.c K.kn) (1) b):=by
 refine cW2 35 Tryz.func144 ?_;refine W ?_;refine CL (Z39 hK h) ?_;rintro _ w1 ⟨rfl,sv1,h1⟩;refine W ?_;refine ZDr 15 [] [] [(0,0),(1,0),(2,0),(3,1),(4,0),(5,0),(6,0),(7,0),(8,1),(9,2),(10,0),(11,0),(12,0),(13,0),(14,0)] (fun w1 hS1=>?_);replace h1:=h1.up hS1;have hblk:=h1.blk;unfold Z5v at hblk;refine D ?_;refine J3 rfl trivial (fun w' hS'=>Zn (us:=Z0e K.c K.hv K.cv K.zo K.zs K.hr) rfl rfl (hblk.up hS') rfl rfl) rfl ?_;refine D ?_;refine DC (Z9v b K.kn K.c K.hv K.cv K.zo K.zs K.hr _ (h1.cal hK)) (fun _ _ h=>h.2) ?_;rintro _ w2 ⟨rfl,hS2⟩;replace h1:=h1.up hS2;replace hblk:=hblk.up hS2;refine D ?_;by_cases he:(Jz (ZB K.c K.kn) (1) b).2=0;refine QO ?_;refine Z1 (Z7d hK h1 hlp rfl rfl rfl) rfl ?_;rintro _ w3 ⟨rfl,pv1,h2⟩;refine W ?_;refine CL (Z0o hK h2 hl _ _) ?_;rintro _ w4 ⟨rfl,h3⟩;refine RT ?_;exact ⟨rfl,h3⟩;refine QO ?_;refine CL (Z0o hK h1 hl _ _) ?_;rintro _ w4 ⟨rfl,h3⟩;refine RT ?_;exact ⟨rfl,h3.err he⟩
theorem Zx9 (hK:KOk K) {b:Int} (h:Mch K w sv pv (st++[b]) sp at_ 0 false) (hl:st.length≤100000) (hlp:sp.length≤100000) (n:Int) :
 CC 145 #[mP K,.I n] w fun r w'=>r=.tuple #[]∧Res K w' st (sp++[((Jz (ZB K.c K.kn) (-1) b).1,b)]) at_ (Jz (ZB K.c K.kn) (-1) b):=by
 refine cW2 35 Tryz.func145 ?_;refine W ?_;refine CL (Z39 hK h) ?_;rintro _ w1 ⟨rfl,sv1,h1⟩;refine W ?_;refine ZDr 15 [] [] [(0,0),(1,0),(2,0),(3,1),(4,0),(5,0),(6,0),(7,0),(8,1),(9,2),(10,0),(11,0),(12,0),(13,0),(14,0)] (fun w1 hS1=>?_);replace h1:=h1.up hS1;have hblk:=h1.blk;unfold Z5v at hblk;refine D ?_;refine J3 rfl trivial (fun w' hS'=>Zn (us:=Z0e K.c K.hv K.cv K.zo K.zs K.hr) rfl rfl (hblk.up hS') rfl rfl) rfl ?_;refine D ?_;refine DC (Z8N b K.kn K.c K.hv K.cv K.zo K.zs K.hr _ (h1.cal hK)) (fun _ _ h=>h.2) ?_;rintro _ w2 ⟨rfl,hS2⟩;replace h1:=h1.up hS2;replace hblk:=hblk.up hS2;refine D ?_;by_cases he:(Jz (ZB K.c K.kn) (-1) b).2=0;refine QO ?_;refine Z1 (Z7d hK h1 hlp rfl rfl rfl) rfl ?_;rintro _ w3 ⟨rfl,pv1,h2⟩;refine W ?_;refine CL (Z0o hK h2 hl _ _) ?_;rintro _ w4 ⟨rfl,h3⟩;refine RT ?_;exact ⟨rfl,h3⟩;refine QO ?_;refine CL (Z0o hK h1 hl _ _) ?_;rintro _ w4 ⟨rfl,h3⟩;refine RT ?_;exact ⟨rfl,h3.err he⟩
theorem ZtN (hK:KOk K) {a b:Int} (h:Mch K w sv pv (st++[a,b]) sp at_ 0 false) (hl:st.length≤100000) (hlp:sp.length≤100000) (n:Int) (hr:ZO a=true) :
 CC 143 #[mP K,.I n] w fun r w'=>r=.tuple #[]∧Res K w' st (sp++Z00 18 a b (Z6c (ZB K.c K.kn) a b).1) at_ (Z6c (ZB K.c K.kn) a b):=by
 obtain ⟨d0,d1⟩:=ZP.1 hr;refine cW2 57 Tryz.func143 ?_;refine W ?_;refine CL (Z02 hK h) ?_;rintro _ w1 ⟨rfl,sv1,h1⟩;refine W ?_;refine ZDr 16 [] [] [(0,0),(1,0),(2,0),(3,1),(4,0),(5,0),(6,0),(7,0),(8,0),(9,1),(10,2),(11,0),(12,0),(13,0),(14,0),(15,0)] (fun w1 hS1=>?_);replace h1:=h1.up hS1;have hblk:=h1.blk;unfold Z5v at hblk;refine D ?_;refine J3 rfl trivial (fun w' hS'=>Zn (us:=Z0e K.c K.hv K.cv K.zo K.zs K.hr) rfl rfl (hblk.up hS') rfl rfl) rfl ?_;refine D ?_;refine DC (ZnB a b K.kn K.c K.hv K.cv K.zo K.zs K.hr _ (h1.cal hK)) (fun _ _ h=>h.2) ?_;rintro _ w2 ⟨rfl,hS2⟩;replace h1:=h1.up hS2;replace hblk:=hblk.up hS2;refine D ?_;have hsp:Z00 18 a b (Z6c (ZB K.c K.kn) a b).1=if 0<b then [(a+1,(Z6c (ZB K.c K.kn) a b).1)] else if b<0 then [((Z6c (ZB K.c K.kn) a b).1,a - 1)] else []:=rfl
 rw [hsp];by_cases he:(Z6c (ZB K.c K.kn) a b).2=0;by_cases hb0:b=0;rw [if_neg (by omega),if_neg (by omega),XG];refine QO ?_;refine CL (Z0o hK h1 hl _ _) ?_;rintro _ w4 ⟨rfl,h3⟩;refine RT ?_;exact ⟨rfl,h3⟩;by_cases hb1:0<b;rw [if_pos hb1];refine QO ?_;refine Z1 (Z7d hK h1 hlp rfl rfl rfl) rfl ?_;rintro _ w3 ⟨rfl,pv1,h2⟩;refine W ?_;refine CL (Z0o hK h2 hl _ _) ?_;rintro _ w4 ⟨rfl,h3⟩;refine RT ?_;exact ⟨rfl,h3⟩;rw [if_neg hb1,if_pos (by omega)];refine QO ?_;refine Z1 (Z7d hK h1 hlp rfl rfl rfl) rfl ?_;rintro _ w3 ⟨rfl,pv1,h2⟩;refine W ?_;refine CL (Z0o hK h2 hl _ _) ?_;rintro _ w4 ⟨rfl,h3⟩;refine RT ?_;exact ⟨rfl,h3⟩;refine QO ?_;refine CL (Z0o hK h1 hl _ _) ?_;rintro _ w4 ⟨rfl,h3⟩;refine RT ?_;exact ⟨rfl,h3.err he⟩
end
structure ZcA (code:List Ins) (st:List (Option Shp)) (i:Nat) (s nx:Shp):Prop where
 at_:st.getD i none=some s
 next:Jg (code.getD i ⟨0,0⟩) s=some nx
 stop:(code.getD i ⟨0,0⟩).op=24→i+1=st.length∧s.length=1
 jump:(code.getD i ⟨0,0⟩).op=13∨(code.getD i ⟨0,0⟩).op=14→(i:Int)<(code.getD i ⟨0,0⟩).n∧(code.getD i ⟨0,0⟩).n<st.length∧st.getD (code.getD i ⟨0,0⟩).n.toNat none=some nx
 on:(code.getD i ⟨0,0⟩).op≠24→(code.getD i ⟨0,0⟩).op≠13→i+1<st.length∧st.getD (i+1) none=some nx
theorem Z2l {st st':List (Option Shp)} {t:Int} {nx:Shp} (h:JD st t nx=some st'):(∀ i s,st.getD i none=some s→st'.getD i none=some s)∧0≤t∧t<st.length∧st'.getD t.toNat none=some nx:=by
 unfold JD at h;split at h;rename_i hr;split at h;rename_i s0 hs0;split at h;rename_i he;subst he;cases h;exact ⟨fun i s h=>h,hr.1,hr.2,hs0⟩;cases h;rename_i hn;cases h;refine ⟨fun i s h=>?_,hr.1,hr.2,?_⟩;by_cases hi:t.toNat=i;subst hi;rw [hn] at h;cases h;have:(st.set t.toNat (some nx)).getD i none=st.getD i none:=by
  simp [List.getD,hi]
 rw [this];exact h;have:t.toNat<st.length:=by omega
 simp [List.getD,this];cases h
theorem ZcA.keeps {code:List Ins} {st st':List (Option Shp)} {i:Nat} {s nx:Shp} (h:ZcA code st i s nx) (hk:∀ i s,st.getD i none=some s→st'.getD i none=some s) (hl:st'.length=st.length):ZcA code st' i s nx:=
 ⟨hk _ _ h.at_,h.next,fun h1=>by rw [hl];exact h.stop h1,fun h1=>by rw [hl];exact ⟨(h.jump h1).1,(h.jump h1).2.1,hk _ _ (h.jump h1).2.2⟩,fun h1 h2=>by rw [hl];exact ⟨(h.on h1 h2).1,hk _ _ (h.on h1 h2).2⟩⟩
theorem ZgC {code:List Ins} {st st':List (Option Shp)} {i:Nat} (h:JJ st i (code.getD i ⟨0,0⟩)=some st'):(∀ i s,st.getD i none=some s→st'.getD i none=some s)∧st'.length=st.length∧∃ s nx,ZcA code st' i s nx:=by
 unfold JJ at h;cases hs:st.getD i none with
 | none=>rw [hs] at h;cases h
 | some s=>
   rw [hs] at h;dsimp only at h;cases hn:Jg (code.getD i ⟨0,0⟩) s with
   | none=>rw [hn] at h;cases h
   | some nx=>
     rw [hn] at h;dsimp only at h;by_cases h24:(code.getD i ⟨0,0⟩).op=24;rw [if_pos h24] at h;split at h;rename_i hc;cases h;exact ⟨fun _ _ h=>h,rfl,s,nx,hs,hn,fun _=>hc,fun h=>by omega,fun h=>absurd h24 h⟩;cases h;rw [if_neg h24] at h;by_cases h13:(code.getD i ⟨0,0⟩).op=13;rw [if_pos h13] at h;split at h;rename_i hc;obtain ⟨k1,k2,k3,k4⟩:=Z2l h;have hl:=Jv h;exact ⟨k1,hl,s,nx,k1 _ _ hs,hn,fun h=>absurd h h24,fun _=>⟨hc,by omega,k4⟩,fun _ h=>absurd h13 h⟩;cases h;rw [if_neg h13] at h;by_cases h14:(code.getD i ⟨0,0⟩).op=14;rw [if_pos h14] at h;split at h;rename_i hc;obtain ⟨s1,r1,r2⟩:=XV.1 h;obtain ⟨k1,k2,k3,k4⟩:=Z2l r1;obtain ⟨m1,m2,m3,m4⟩:=Z2l r2;have hl:=Jv r1;have hl2:=Jv r2;exact ⟨fun i s h=>m1 _ _ (k1 _ _ h),by omega,s,nx,m1 _ _ (k1 _ _ hs),hn,fun h=>absurd h h24,fun _=>⟨hc,by omega,m1 _ _ k4⟩,fun _ _=>⟨by omega,m4⟩⟩;cases h;rw [if_neg h14] at h;obtain ⟨k1,k2,k3,k4⟩:=Z2l h;have hl:=Jv h;exact ⟨k1,hl,s,nx,k1 _ _ hs,hn,fun h=>absurd h h24,fun h=>absurd h (not_or.2 ⟨h13,h14⟩),fun _ _=>⟨by omega,k4⟩⟩
theorem ZcB {code:List Ins} {st0:List (Option Shp)}:∀ (k:Nat) (st:List (Option Shp)),Z3m code k st0=some st→(∀ i s,st0.getD i none=some s→st.getD i none=some s)∧st.length=st0.length∧∀ i,i<k→∃ s nx,ZcA code st i s nx
 | 0,st,h=>by cases h;exact ⟨fun _ _ h=>h,rfl,fun i hi=>by omega⟩
 | k + 1, st, h => by
   obtain ⟨s1,h1,h2⟩:=XV.1 h;obtain ⟨a1,a2,a3⟩:=ZcB k s1 h1;obtain ⟨b1,b2,b3⟩:=ZgC h2;refine ⟨fun i s h=>b1 _ _ (a1 _ _ h),by omega,fun i hi=>?_⟩;by_cases hk:i=k;subst hk;exact b3;obtain ⟨s,nx,hg⟩:=a3 i (by omega);exact ⟨s,nx,hg.keeps b1 b2⟩
theorem Z8e {code:List Ins} {t:Int} (h:Z1W code=(t,0)):0<code.length∧code.length≤200∧∃ st:List (Option Shp),st.length=code.length∧Zc0 st∧(∀ s,some s∈st→s.length≤16)∧st.getD 0 none=some []∧st.getD (code.length - 1) none=some [t]∧∀ i,i<code.length→∃ s nx,ZcA code st i s nx:=by
 unfold Z1W at h;by_cases hl:code.length=0∨code.length > 200;rw [if_pos hl] at h;cases h;rw [if_neg hl] at h;cases hr:Z3m code code.length (some [] :: List.replicate (code.length - 1) none) with
 | none=>rw [hr] at h;cases h
 | some st=>
   rw [hr] at h;dsimp only at h;obtain ⟨a1,a2,a3⟩:=ZcB _ _ hr;have h0:Zc0 ((some []) :: List.replicate (code.length - 1) none):=by
    intro s hs;simp at hs;subst hs;intro k hk;cases hk
   have hlen:st.length=code.length:=by rw [a2];simp;omega
   have h16:∀ (k:Nat) (st:List (Option Shp)),Z3m code k (some [] :: List.replicate (code.length - 1) none)=some st→∀ s,some s∈st→s.length≤16:=by
    intro k
    induction k with
    | zero=>
      intro st h s hs;cases h;simp at hs;subst hs;simp
    | succ k ih=>
      intro st h;obtain ⟨s1,h1,h2⟩:=XV.1 h;exact ZjL (ih s1 h1) h2
   refine ⟨by omega,by omega,st,hlen,(ZjI h0 _ _ hr).1,h16 _ _ hr,a1 0 [] rfl,?_,a3⟩;obtain ⟨s,nx,hg⟩:=a3 (code.length - 1) (by omega);have hat:=hg.at_;rw [hat] at h ⊢;by_cases h24:(code.getD (code.length - 1) ⟨0,0⟩).op=24;have:=(hg.stop h24).2;obtain ⟨k,rfl⟩:=Ya6.1 this;simp at h;rw [h];by_cases h13:(code.getD (code.length - 1) ⟨0,0⟩).op=13;have:=hg.jump (.inl h13);omega;have:=hg.on h24 h13;omega
abbrev Zkv:List (Int×Value):=[(1,fnV 128),(2,fnV 128),(3,fnV 128),(4,fnV 129),
 (5,fnV 130),(6,fnV 131),(7,fnV 132),(8,fnV 133),
 (9,fnV 134),(10,fnV 135),(11,fnV 136),(12,fnV 137),
 (13,fnV 138),(14,fnV 139),(15,fnV 140),(16,fnV 141),
 (17,fnV 142),(18,fnV 143),(19,fnV 144),(20,fnV 145),
 (21,fnV 146),(22,fnV 147),(23,fnV 148),(24,fnV 149)]
abbrev Zxa (z:Int):Value:=.I z
theorem ZgD (w):CC 81 #[] w fun r w'=>∃ m,r=.map (some m)∧w.heap.size≤m∧JI Zxa w' m Zkv∧Stp [] w w':=by
 refine cW0 3 Tryz.func81 ?_;refine W ?_;refine Z1 (Z0R Zxa) rfl ?_;rintro _ w1 ⟨m,rfl,hm,hmap,hS⟩;refine Z5 (Zv (a:=(1:Int)) rfl rfl rfl hmap (by decide)) ?_;clear hmap;rintro _ w2 ⟨hmap,hT⟩;replace hS:=hS.ow hT;clear hT;refine Z5 (Zv (a:=(2:Int)) rfl rfl rfl hmap (by decide)) ?_;clear hmap;rintro _ w2 ⟨hmap,hT⟩;replace hS:=hS.ow hT;clear hT;refine Z5 (Zv (a:=(3:Int)) rfl rfl rfl hmap (by decide)) ?_;clear hmap;rintro _ w2 ⟨hmap,hT⟩;replace hS:=hS.ow hT;clear hT;refine Z5 (Zv (a:=(4:Int)) rfl rfl rfl hmap (by decide)) ?_;clear hmap;rintro _ w2 ⟨hmap,hT⟩;replace hS:=hS.ow hT;clear hT;refine Z5 (Zv (a:=(5:Int)) rfl rfl rfl hmap (by decide)) ?_;clear hmap;rintro _ w2 ⟨hmap,hT⟩;replace hS:=hS.ow hT;clear hT;refine Z5 (Zv (a:=(6:Int)) rfl rfl rfl hmap (by decide)) ?_;clear hmap;rintro _ w2 ⟨hmap,hT⟩;replace hS:=hS.ow hT;clear hT;refine Z5 (Zv (a:=(7:Int)) rfl rfl rfl hmap (by decide)) ?_;clear hmap;rintro _ w2 ⟨hmap,hT⟩;replace hS:=hS.ow hT;clear hT;refine Z5 (Zv (a:=(8:Int)) rfl rfl rfl hmap (by decide)) ?_;clear hmap;rintro _ w2 ⟨hmap,hT⟩;replace hS:=hS.ow hT;clear hT;refine Z5 (Zv (a:=(9:Int)) rfl rfl rfl hmap (by decide)) ?_;clear hmap;rintro _ w2 ⟨hmap,hT⟩;replace hS:=hS.ow hT;clear hT;refine Z5 (Zv (a:=(10:Int)) rfl rfl rfl hmap (by decide)) ?_;clear hmap;rintro _ w2 ⟨hmap,hT⟩;replace hS:=hS.ow hT;clear hT;refine Z5 (Zv (a:=(11:Int)) rfl rfl rfl hmap (by decide)) ?_;clear hmap;rintro _ w2 ⟨hmap,hT⟩;replace hS:=hS.ow hT;clear hT;refine Z5 (Zv (a:=(12:Int)) rfl rfl rfl hmap (by decide)) ?_;clear hmap;rintro _ w2 ⟨hmap,hT⟩;replace hS:=hS.ow hT;clear hT;refine Z5 (Zv (a:=(13:Int)) rfl rfl rfl hmap (by decide)) ?_;clear hmap;rintro _ w2 ⟨hmap,hT⟩;replace hS:=hS.ow hT;clear hT;refine Z5 (Zv (a:=(14:Int)) rfl rfl rfl hmap (by decide)) ?_;clear hmap;rintro _ w2 ⟨hmap,hT⟩;replace hS:=hS.ow hT;clear hT;refine Z5 (Zv (a:=(15:Int)) rfl rfl rfl hmap (by decide)) ?_;clear hmap;rintro _ w2 ⟨hmap,hT⟩;replace hS:=hS.ow hT;clear hT;refine Z5 (Zv (a:=(16:Int)) rfl rfl rfl hmap (by decide)) ?_;clear hmap;rintro _ w2 ⟨hmap,hT⟩;replace hS:=hS.ow hT;clear hT;refine Z5 (Zv (a:=(17:Int)) rfl rfl rfl hmap (by decide)) ?_;clear hmap;rintro _ w2 ⟨hmap,hT⟩;replace hS:=hS.ow hT;clear hT;refine Z5 (Zv (a:=(18:Int)) rfl rfl rfl hmap (by decide)) ?_;clear hmap;rintro _ w2 ⟨hmap,hT⟩;replace hS:=hS.ow hT;clear hT;refine Z5 (Zv (a:=(19:Int)) rfl rfl rfl hmap (by decide)) ?_;clear hmap;rintro _ w2 ⟨hmap,hT⟩;replace hS:=hS.ow hT;clear hT;refine Z5 (Zv (a:=(20:Int)) rfl rfl rfl hmap (by decide)) ?_;clear hmap;rintro _ w2 ⟨hmap,hT⟩;replace hS:=hS.ow hT;clear hT;refine Z5 (Zv (a:=(21:Int)) rfl rfl rfl hmap (by decide)) ?_;clear hmap;rintro _ w2 ⟨hmap,hT⟩;replace hS:=hS.ow hT;clear hT;refine Z5 (Zv (a:=(22:Int)) rfl rfl rfl hmap (by decide)) ?_;clear hmap;rintro _ w2 ⟨hmap,hT⟩;replace hS:=hS.ow hT;clear hT;refine Z5 (Zv (a:=(23:Int)) rfl rfl rfl hmap (by decide)) ?_;clear hmap;rintro _ w2 ⟨hmap,hT⟩;replace hS:=hS.ow hT;clear hT;refine Z5 (Zv (a:=(24:Int)) rfl rfl rfl hmap (by decide)) ?_;clear hmap;rintro _ w2 ⟨hmap,hT⟩;replace hS:=hS.ow hT;clear hT;refine RT ?_;exact ⟨m,rfl,hm,hmap,hS⟩
theorem Ze6 {x:Ins} {s nx:Shp} {st:List Int} (hn:Jg x s=some nx) (hs:Z0k s st):(ZF x).2.2.2=true∧∃ st0 vs ts,st=st0++vs∧(ts=(ZF x).1∨(ZF x).2.1≠[]∧ts=(ZF x).2.1)∧Z0k ts vs:=by
 unfold Jg at hn;dsimp only at hn;split at hn;rename_i hc;obtain ⟨c1,c2,c3,c4⟩:=hc;exact ⟨c1,st.take (s.length - (ZF x).1.length),st.drop (s.length - (ZF x).1.length),_,(XB _ _).symm,c3,hs.drop _⟩;cases hn
def Z0j (K:MK) (w:World) (x:Ins) (st:List Int) (sp:List Spn) (sv pv:Value) (at_:Int):Prop:=
 if x.op=24 then Mch K w sv pv st sp at_ 0 true
 else if x.op=13 then Mch K w sv pv st sp x.n 0 false
 else if x.op=14 then ∃ sv',Mch K w sv' pv st.dropLast sp (if Z05 st 0=0 then x.n else at_) 0 false
 else Res K w (st.take (st.length - arM x.op)) (sp++Z00 x.op (Z05 st 1) (Z05 st 0) (Z0d (ZB K.c K.kn) K.ev x (Z05 st 1) (Z05 st 0)).1) at_ (Z0d (ZB K.c K.kn) K.ev x (Z05 st 1) (Z05 st 0))
theorem Z5F {t v:Int} (h:vOk t v):-2147483647≤v∧v≤2147483647:=by unfold vOk at h;omega
theorem ZxY {t u a b:Int} (ha:vOk t a) (hb:vOk u b):I64 (a * b):=by
 have h1:=Z5F ha;have h2:=Z5F hb;have h3:(a * b).natAbs≤2147483647 * 2147483647:=by rw [Int.natAbs_mul];exact Ya8 (by omega) (by omega)
 unfold I64;omega
section
variable {K:MK} {w w':World} {sv pv:Value} {st:List Int} {sp:List Spn} {at_ er:Int} {dn:Bool}
theorem ZnE {P:Nat} {e:Env} {d:Option Nat} {ty:TypeId} {pos:String} {af:Array Edge} {g:Option (Nat×Bool)} {y1 y2 y3:Operand} {ts:Array TypeId} (hK:KOk K) {x:Ins} {s nx:Shp}
 (h:Mch K w sv pv st sp at_ 0 false) (hn:Jg x s=some nx) (hs:Z0k s st) (hl:st.length≤100000) (hlp:sp.length≤100000)
 (hx:ev e y1=some (Z3t Zkv x.op .nilFunc)) (hy:ev e y2=some (mP K)) (hz:ev e y3=some (.I x.n)) :
 OE Tryz.prog P ⟨d,.call { callee:=.value y1,args:=#[y2,y3],argTypes:=ts },ty,pos,af,g⟩ e w (fun v w'=>v=.tuple #[]∧Z0j K w' x st sp sv pv at_):=by
 obtain ⟨hx1,st0,vs,ts',rfl,hts,hvs⟩:=Ze6 hn hs;have hr:=Z7Y hx1;obtain ⟨op,n⟩:=x;dsimp only at *;have hl0:st0.length≤100000:=by rw [Xc] at hl;omega
 have hop:op=1∨op=2∨op=3∨op=4∨op=5∨op=6∨op=7∨op=8∨op=9∨op=10∨op=11∨op=12∨op=13∨op=14∨op=15∨op=16∨op=17∨op=18∨op=19∨op=20∨op=21∨op=22∨op=23∨op=24:=by omega
 rcases hop with rfl|rfl|rfl|rfl|rfl|rfl|rfl|rfl|rfl|rfl|rfl|rfl|rfl|rfl|rfl|rfl|rfl|rfl|rfl|rfl|rfl|rfl|rfl|rfl
 all_goals (simp [ZF] at hx1 hts)
 all_goals (try subst hts)
 case inl|inr.inl|inr.inr.inl=>
  refine (Zd (f:=128) hx (Zh hy hz) (ZtG hK h hl n)).mono ?_;rintro v w' ⟨rfl,hres⟩;refine ⟨rfl,?_⟩;unfold Z0j;have et:List.take (st0.length+vs.length) (st0++vs)=st0++vs:=XH (by simp);simpa [arM,Z00,Z0d,et] using hres
 case inr.inr.inr.inl=>
  refine (Zd (f:=129) hx (Zh hy hz) (ZtJ hK h hl n (by omega) (by omega))).mono ?_;rintro v w' ⟨rfl,hres⟩;refine ⟨rfl,?_⟩;unfold Z0j;have et:List.take (st0.length+vs.length) (st0++vs)=st0++vs:=XH (by simp);simpa [arM,Z00,Z0d,et] using hres
 case inr.inr.inr.inr.inl=>
  obtain ⟨a,b,rfl,ha,hb⟩:=hvs.two_inv;refine (Zd (f:=130) hx (Zh hy hz) (ZxS hK h hl0 n (by have:=Z5F ha;have:=Z5F hb;unfold I64;omega))).mono ?_;rintro v w' ⟨rfl,hres⟩;refine ⟨rfl,?_⟩;unfold Z0j;simpa [arM,Z00,Z0d,Z3Q,Jl] using hres
 case inr.inr.inr.inr.inr.inl=>
  obtain ⟨a,b,rfl,ha,hb⟩:=hvs.two_inv;refine (Zd (f:=131) hx (Zh hy hz) (ZxT hK h hl0 n (by have:=Z5F ha;have:=Z5F hb;unfold I64;omega))).mono ?_;rintro v w' ⟨rfl,hres⟩;refine ⟨rfl,?_⟩;unfold Z0j;simpa [arM,Z00,Z0d,Z3Q,Jl] using hres
 case inr.inr.inr.inr.inr.inr.inl=>
  obtain ⟨a,b,rfl,ha,hb⟩:=hvs.two_inv;refine (Zd (f:=132) hx (Zh hy hz) (ZxU hK h hl0 n (ZxY ha hb))).mono ?_;rintro v w' ⟨rfl,hres⟩;refine ⟨rfl,?_⟩;unfold Z0j;simpa [arM,Z00,Z0d,Z3Q,Jl] using hres
 case inr.inr.inr.inr.inr.inr.inr.inr.inl=>
  obtain ⟨a,b,rfl⟩:∃ a b,vs=[a,b]:=by
   rcases hts with rfl|rfl
   all_goals
    obtain ⟨a,b,h1,-⟩:=hvs.two_inv;exact ⟨a,b,h1⟩
  refine (Zd (f:=134) hx (Zh hy hz) (ltV hK h hl0 n trivial)).mono ?_;rintro v w' ⟨rfl,hres⟩;refine ⟨rfl,?_⟩;unfold Z0j;simpa [arM,Z00,Z0d,Z3Q,Jl] using hres
 case inr.inr.inr.inr.inr.inr.inr.inr.inr.inl=>
  obtain ⟨a,b,rfl⟩:∃ a b,vs=[a,b]:=by
   rcases hts with rfl|rfl
   all_goals
    obtain ⟨a,b,h1,-⟩:=hvs.two_inv;exact ⟨a,b,h1⟩
  refine (Zd (f:=135) hx (Zh hy hz) (leV hK h hl0 n trivial)).mono ?_;rintro v w' ⟨rfl,hres⟩;refine ⟨rfl,?_⟩;unfold Z0j;simpa [arM,Z00,Z0d,Z3Q,Jl] using hres
 case inr.inr.inr.inr.inr.inr.inr.inr.inr.inr.inl=>
  obtain ⟨a,b,rfl⟩:∃ a b,vs=[a,b]:=by
   rcases hts with rfl|rfl
   all_goals
    obtain ⟨a,b,h1,-⟩:=hvs.two_inv;exact ⟨a,b,h1⟩
  refine (Zd (f:=136) hx (Zh hy hz) (eqV hK h hl0 n trivial)).mono ?_;rintro v w' ⟨rfl,hres⟩;refine ⟨rfl,?_⟩;unfold Z0j;simpa [arM,Z00,Z0d,Z3Q,Jl] using hres
 case inr.inr.inr.inr.inr.inr.inr.inr.inr.inr.inr.inr.inr.inr.inl=>
  obtain ⟨a,b,rfl,ha,hb⟩:=hvs.two_inv;refine (Zd (f:=140) hx (Zh hy hz) (Zx0 hK h hl0 n (by have:=Z5F ha;have:=Z5F hb;unfold I64;omega))).mono ?_;rintro v w' ⟨rfl,hres⟩;refine ⟨rfl,?_⟩;unfold Z0j;simpa [arM,Z00,Z0d,Z3Q,Jl] using hres
 case inr.inr.inr.inr.inr.inr.inr.inr.inr.inr.inr.inr.inr.inr.inr.inl=>
  obtain ⟨a,b,rfl,ha,hb⟩:=hvs.two_inv;refine (Zd (f:=141) hx (Zh hy hz) (ZtH hK h hl0 n (by have:=Z5F ha;have:=Z5F hb;unfold I64;omega))).mono ?_;rintro v w' ⟨rfl,hres⟩;refine ⟨rfl,?_⟩;unfold Z0j;simpa [arM,Z00,Z0d,Z3Q,Jl] using hres
 case inr.inr.inr.inr.inr.inr.inr.inr.inr.inr.inr.inr.inr.inr.inr.inr.inl=>
  obtain ⟨a,b,rfl,ha,hb⟩:=hvs.two_inv;refine (Zd (f:=142) hx (Zh hy hz) (ZnD hK h hl0 n (ZP.2 ha.d))).mono ?_;rintro v w' ⟨rfl,hres⟩;refine ⟨rfl,?_⟩;unfold Z0j;simpa [arM,Z00,Z0d,Z3Q,Jl] using hres
 case inr.inr.inr.inr.inr.inr.inr.inr.inr.inr.inr.inr.inr.inr.inr.inr.inr.inl=>
  obtain ⟨a,b,rfl,ha,hb⟩:=hvs.two_inv;refine (Zd (f:=143) hx (Zh hy hz) (ZtN hK h hl0 hlp n (ZP.2 ha.d))).mono ?_;rintro v w' ⟨rfl,hres⟩;refine ⟨rfl,?_⟩;unfold Z0j;simpa [arM,Z00,Z0d,Z3Q,Jl] using hres
 case inr.inr.inr.inr.inr.inr.inr.inr.inr.inr.inr.inr.inr.inr.inr.inr.inr.inr.inr.inr.inl=>
  obtain ⟨a,b,rfl,ha,hb⟩:=hvs.two_inv;refine (Zd (f:=146) hx (Zh hy hz) (ZtI hK h hl0 n trivial)).mono ?_;rintro v w' ⟨rfl,hres⟩;refine ⟨rfl,?_⟩;unfold Z0j;simpa [arM,Z00,Z0d,Z3Q,Jl] using hres
 case inr.inr.inr.inr.inr.inr.inr.inr.inr.inr.inr.inr.inr.inr.inr.inr.inr.inr.inr.inr.inr.inl=>
  obtain ⟨a,b,rfl,ha,hb⟩:=hvs.two_inv;refine (Zd (f:=147) hx (Zh hy hz) (Zkh hK h hl0 n trivial)).mono ?_;rintro v w' ⟨rfl,hres⟩;refine ⟨rfl,?_⟩;unfold Z0j;simpa [arM,Z00,Z0d,Z3Q,Jl] using hres
 case inr.inr.inr.inr.inr.inr.inr.inr.inr.inr.inr.inr.inr.inr.inr.inr.inr.inr.inr.inr.inr.inr.inl=>
  obtain ⟨a,b,rfl,ha,hb⟩:=hvs.two_inv;refine (Zd (f:=148) hx (Zh hy hz) (Zki hK h hl0 n (by have:=Z5F ha;have:=Z5F hb;unfold I64;omega))).mono ?_;rintro v w' ⟨rfl,hres⟩;refine ⟨rfl,?_⟩;unfold Z0j;have e:Z4w (b - a)=(b - a,0):=by
   have:=ha.d;have:=hb.d;unfold Z4w;rw [if_neg (by omega)]
  rw [e] at hres;simpa [arM,Z00,Z0d,Z3Q,Jl] using hres
 case inr.inr.inr.inr.inr.inr.inr.inl=>
  obtain ⟨b,rfl,hb⟩:=hvs.one_inv;refine (Zd (f:=133) hx (Zh hy hz) (ZxV hK h hl0 n (by have:=Z5F hb;unfold I64;omega))).mono ?_;rintro v w' ⟨rfl,hres⟩;refine ⟨rfl,?_⟩;unfold Z0j;have e:Z4w (-b)=(-b,0):=by
   have:=Z5F hb;unfold Z4w;rw [if_neg (by omega)]
  rw [e] at hres;simpa [arM,Z00,Z0d,Zc8,Z1M] using hres
 case inr.inr.inr.inr.inr.inr.inr.inr.inr.inr.inr.inl=>
  obtain ⟨b,rfl,hb⟩:=hvs.one_inv;refine (Zd (f:=137) hx (Zh hy hz) (ZxW hK h hl0 n)).mono ?_;rintro v w' ⟨rfl,hres⟩;refine ⟨rfl,?_⟩;unfold Z0j;have e:Z3P (decide (b=0))=1 - b:=by
   rcases hb.b with rfl|rfl<;>rfl
  rw [e] at hres;simpa [arM,Z00,Z0d,Zc8,Z1M] using hres
 case inr.inr.inr.inr.inr.inr.inr.inr.inr.inr.inr.inr.inr.inr.inr.inr.inr.inr.inl=>
  obtain ⟨b,rfl,hb⟩:=hvs.one_inv;refine (Zd (f:=144) hx (Zh hy hz) (Zx8 hK h hl0 hlp n)).mono ?_;rintro v w' ⟨rfl,hres⟩;refine ⟨rfl,?_⟩;unfold Z0j;simpa [arM,Z00,Z0d,Zc8,Z1M] using hres
 case inr.inr.inr.inr.inr.inr.inr.inr.inr.inr.inr.inr.inr.inr.inr.inr.inr.inr.inr.inl=>
  obtain ⟨b,rfl,hb⟩:=hvs.one_inv;refine (Zd (f:=145) hx (Zh hy hz) (Zx9 hK h hl0 hlp n)).mono ?_;rintro v w' ⟨rfl,hres⟩;refine ⟨rfl,?_⟩;unfold Z0j;simpa [arM,Z00,Z0d,Zc8,Z1M] using hres
 case inr.inr.inr.inr.inr.inr.inr.inr.inr.inr.inr.inr.inl=>
  refine (Zd (f:=138) hx (Zh hy hz) (Zx1 hK h n)).mono ?_;rintro v w' ⟨rfl,hres⟩;refine ⟨rfl,?_⟩;unfold Z0j;simpa using hres
 case inr.inr.inr.inr.inr.inr.inr.inr.inr.inr.inr.inr.inr.inl=>
  obtain ⟨b,rfl,hb⟩:=hvs.one_inv;refine (Zd (f:=139) hx (Zh hy hz) (Znq hK h n)).mono ?_;rintro v w' ⟨rfl,hres⟩;refine ⟨rfl,?_⟩;unfold Z0j;simpa [Z1M] using hres
 case inr.inr.inr.inr.inr.inr.inr.inr.inr.inr.inr.inr.inr.inr.inr.inr.inr.inr.inr.inr.inr.inr.inr=>
  refine (Zd (f:=149) hx (Zh hy hz) (Zx2 hK h n)).mono ?_;rintro v w' ⟨rfl,hres⟩;refine ⟨rfl,?_⟩;unfold Z0j;simpa using hres
end
abbrev ZnF (ev:List Int):Value:=.agg (evC ev).toArray
theorem ZnG (ev:List Int) (c:Cal) (hv cv zo zs hr:Value) (kn:Int) (b:Addr) (w) :
 (Instr.build 167 #[(0, ZnF ev), (1, Z6o c hv cv zo zs hr), (2, .I kn), (7, .func (.func 80) #[] #[.pointer (some b)])]).run Tryz.prog w
   = .ok (.agg (evC ev++Z0e c hv cv zo zs hr++([.I kn,.N,.I 0,.I 0,.B false,.func (.func 80) #[] #[.pointer (some b)]]:List Value)).toArray) w:=by kernel_rfl
theorem Zkw {x:Ins} {s nx:Shp} (hx:x.op=13) (hn:Jg x s=some nx):nx=s:=by
 obtain ⟨op,n⟩:=x;dsimp only at hx;subst hx;simp [Jg,ZF] at hn;exact hn.2.symm
theorem Zkx {x:Ins} {s nx:Shp} (hx:x.op=14) (hn:Jg x s=some nx):nx=s.dropLast:=by
 obtain ⟨op,n⟩:=x;dsimp only at hx;subst hx;simp [Jg,ZF] at hn;rw [YaD];exact hn.2.symm
def ZnH (K:MK) (code:List Ins) (sh:List (Option Shp)) (q:Nat×Bool) (w:World):Prop:=
 ∃ sv pv st sp at_ er, Mch K w sv pv st sp at_ er q.2∧
   (q.2=false→er=0∧at_=(q.1:Int)∧q.1<code.length∧sp.length≤q.1∧(∃ s,sh.getD q.1 none=some s∧Z0k s st)∧∃ f,code.length≤f+q.1∧Z71 (ZB K.c K.kn) K.ev code f q.1 st sp=JK (ZB K.c K.kn) K.ev code)∧
   (q.2=true→(er=0∧∃ x,st=[x]∧JK (ZB K.c K.kn) K.ev code=(x,sp,0))∨(er≠0∧JK (ZB K.c K.kn) K.ev code=(0,[],er)))
theorem ZnH.step {K:MK} {code:List Ins} {sh:List (Option Shp)} {i:Nat} {x:Ins} {s nx:Shp} {st:List Int} {sp:List Spn} {w} {sv pv:Value} {f:Nat} (hK:KOk K) (hi:i<code.length) (hx:code.getD i ⟨0,0⟩=x) (hlen:sh.length=code.length)
 (hg:ZcA code sh i s nx) (h16:∀ s,some s∈sh→s.length≤16) (hst:Z0k s st) (hsp:sp.length≤i) (hf:code.length≤f+i) (hr:Z71 (ZB K.c K.kn) K.ev code f i st sp=JK (ZB K.c K.kn) K.ev code)
 (h:Z0j K w x st sp sv pv ((i+1:Nat):Int)):∃ q:Nat×Bool,ZnH K code sh q w∧(if q.2=true then 0 else code.length+1 - q.1)<code.length+1 - i:=by
 obtain ⟨f,rfl⟩:∃ f',f=f'+1:=⟨f - 1,by omega⟩
 rw [Z71] at hr;rw [hx] at hr;have hn:=hg.next;rw [hx] at hn;unfold Z0j at h;by_cases h24:x.op=24;rw [if_pos h24] at h hr;obtain ⟨hs1,hs2⟩:=hg.stop (by rw [hx];exact h24);have hl1:st.length=1:=by rw [← hst.1];exact hs2
 obtain ⟨a,rfl⟩:=Ya6.1 hl1;refine ⟨(i,true),⟨sv,pv,[a],sp,_,0,h,(fun hq=>by cases hq),fun _=>.inl ⟨rfl,a,rfl,?_⟩⟩,by simp;omega⟩;rw [← hr];rfl;rw [if_neg h24] at h hr;by_cases h13:x.op=13;rw [if_pos h13] at h hr;obtain ⟨j1,j2,j3⟩:=hg.jump (.inl (by rw [hx];exact h13));rw [hx] at j1 j2 j3;have hnx:=Zkw h13 hn;subst hnx;refine ⟨(x.n.toNat,false),⟨sv,pv,st,sp,_,0,h,fun _=>⟨rfl,by omega,by omega,by dsimp only;omega,⟨_,j3,hst⟩,f,by dsimp only;omega,hr⟩,fun hq=>by cases hq⟩,by simp;omega⟩;rw [if_neg h13] at h hr;by_cases h14:x.op=14;rw [if_pos h14] at h hr;obtain ⟨j1,j2,j3⟩:=hg.jump (.inr (by rw [hx];exact h14));obtain ⟨o1,o2⟩:=hg.on (by rw [hx];exact h24) (by rw [hx];exact h13);rw [hx] at j1 j2 j3;have hnx:=Zkx h14 hn;have hst2:Z0k nx st.dropLast:=by
  rw [hnx,YaD,YaD,← hst.1];exact hst.take _
 obtain ⟨sv',h⟩:=h;by_cases hb:Z05 st 0=0;rw [if_pos hb] at h hr;exact ⟨(x.n.toNat,false),⟨sv',pv,st.dropLast,sp,_,0,h,fun _=>⟨rfl,by omega,by omega,by dsimp only;omega,⟨_,j3,hst2⟩,f,by dsimp only;omega,hr⟩,fun hq=>by cases hq⟩,by simp;omega⟩;rw [if_neg hb] at h hr;exact ⟨(i+1,false),⟨sv',pv,st.dropLast,sp,_,0,h,fun _=>⟨rfl,rfl,by omega,by dsimp only;omega,⟨_,o2,hst2⟩,f,by dsimp only;omega,hr⟩,fun hq=>by cases hq⟩,by simp;omega⟩;rw [if_neg h14] at h hr;obtain ⟨o1,o2⟩:=hg.on (by rw [hx];exact h24) (by rw [hx];exact h13);obtain ⟨sv',pv',st',sp',hM,hok⟩:=h;by_cases he:(Z0d (ZB K.c K.kn) K.ev x (Z05 st 1) (Z05 st 0)).2=0
 · rw [if_pos he] at hr
   obtain ⟨e1,e2⟩:=hok he;subst e1 e2;rw [he] at hM;have hsl:(Z00 x.op (Z05 st 1) (Z05 st 0) (Z0d (ZB K.c K.kn) K.ev x (Z05 st 1) (Z05 st 0)).1).length≤1:=by
    unfold Z00;repeat' split
    all_goals simp
   refine ⟨(i+1,false),⟨sv',pv',_,_,_,0,hM,fun _=>⟨rfl,rfl,by omega,by dsimp only;rw [Xc];omega,⟨_,o2,Zca hK.ev hn h24 h13 h14 hst he⟩,f,by dsimp only;omega,hr⟩,fun hq=>by cases hq⟩,by simp;omega⟩
 rw [if_neg he] at hr;have hd:decide (¬ (Z0d (ZB K.c K.kn) K.ev x (Z05 st 1) (Z05 st 0)).2=0)=true:=decide_eq_true he;rw [hd] at hM;exact ⟨(i,true),⟨sv',pv',_,_,_,_,hM,(fun hq=>by cases hq),fun _=>.inr ⟨he,hr.symm⟩⟩,by simp;omega⟩
theorem ZcC (v:Value) (code:List Ins) (t kn:Int) (ev:List Int) (c:Cal) (hv cv zo zs hr:Value) (w) (hs:SlV [] w v code) (hver:Z1W code=(t,0)) (hcal:Z6n w c hv cv zo zs hr) (hev:ZdO ev) (ho:zo.oneCell'=true∧zs.oneCell'=true∧hr.oneCell'=true) :
 CC 50 #[v,ZnF ev,Z6o c hv cv zo zs hr,.I kn] w fun r w'=>∃ pv,r=.tuple #[.I (JK (ZB c kn) ev code).1,pv,.I (JK (ZB c kn) ev code).2.2]∧ZI 75 w w' pv (JK (ZB c kn) ev code).2.1:=by
 obtain ⟨hl0,hl200,sh,hlen,hok,h16,hsh0,hshn,hgood⟩:=Z8e hver;refine cW4 63 Tryz.func50 ?_;refine W ?_;refine Z1 (Zq rfl) rfl ?_;rintro _ w1 ⟨b5,rfl,hb5,k5,hS⟩;replace k5:Blk w1 b5 113 (evC ev):=k5;refine Z1 (Zq rfl) rfl ?_;rintro _ w2 ⟨b6,rfl,hb6,k6,hS2⟩;replace k6:Blk w2 b6 35 (Z0e c hv cv zo zs hr):=k6;replace k5:=k5.up hS2;replace hS:=hS.trans hS2;refine W ?_;refine Z1 Z2 rfl ?_;rintro _ w3 ⟨bs,rfl,hbs,ks,hS3⟩;replace k5:=k5.up hS3;replace k6:=k6.up hS3;have hbsw:w.heap.size≤bs:=Xg hS.size hbs;replace hS:=hS.trans hS3;refine W ?_;refine Z8 (vs:=[(0,ZnF ev),(1,Z6o c hv cv zo zs hr),(2,.I kn),(7,.func (.func 80) #[] #[pQ bs])]) rfl (ZnG ev c hv cv zo zs hr kn _) rfl ?_;refine Z1 (Zq rfl) rfl ?_;rintro _ w4 ⟨bm,rfl,hbm,km,hS4⟩;replace km:Blk w4 bm 167 (evC ev++Z0e c hv cv zo zs hr++[.I kn,.N,.I 0,.I 0,.B false,.func (.func 80) #[] #[pQ bs]]):=km;have hbmw:w.heap.size≤bm:=Xg hS.size hbm;have hbms:bm≠bs:=by have:=ks.lt;omega
 replace ks:=ks.up hS4;replace hS:=hS.trans hS4;clear k5 k6 hS2 hS3 hS4;refine W ?_;refine CL (ZgD _) ?_;rintro _ w5 ⟨m,rfl,hm,hmap,hS5⟩;obtain ⟨K,e1,e2,hk,e4,e5,e6,e7,e8,e9,e10,e11,e12⟩:∃ K:MK,K.w0=w5∧K.bm=bm∧K.nk=some bs∧K.ev=ev∧K.c=c∧K.kn=kn∧K.hv=hv∧K.cv=cv∧K.zo=zo∧K.zs=zs∧K.hr=hr∧K.pr=[]:=⟨⟨w5,bm,some bs,ev,c,kn,hv,cv,zo,zs,hr,[]⟩,rfl,rfl,rfl,rfl,rfl,rfl,rfl,rfl,rfl,rfl,rfl,rfl⟩
 subst e1 e2 e4 e5 e6 e7 e8 e9 e10 e11;have hSn:=hS.trans hS5;have own_ge:∀ b∈K.own,w.heap.size≤b:=fun b hb=>by simp [MK.own,hk] at hb;omega
 have hmo:m∉K.own:=fun hb=>by
  have:=km.lt;have:=ks.lt;simp [MK.own,hk] at hb;omega
 have hcw:=hcal.up hSn;have g1:3<w.heap.size:=by have:=block_lt_of_cell (hcal.len 0 0 rfl);simpa using this
 have g2:4<w.heap.size:=by have:=block_lt_of_cell (hcal.mov 0 0 rfl);simpa using this
 have hK:KOk K:=
  { hols := hcal.hols.ext hSn (by simp) (fun b hb => .inr (own_ge b hb))
    clos:=hcal.clos.ext hSn (by simp) (fun b hb=>.inr (own_ge b hb))
    ozo:=ho.1,ozs:=ho.2.1,ohr:=ho.2.2
    len:=hcw.len,mov:=hcw.mov
    bml:=(km.up hS5).lt
    nkl:=fun b hb=>by rw [hk] at hb;cases hb;exact ⟨(ks.up hS5).lt,fun h=>hbms h.symm⟩
    gl:=fun b hb=>by have:=own_ge b hb;omega
    cal:=hcal.ok
    ev:=hev,nks:=by rw [hk];simp }
 have hM:Mch K K.w0 (.N) (.N) [] [] 0 0 false:=
  { blk := by unfold Z5v; rw [hk]; exact km.up hS5
    row:=Row.nil
    nt:=fun b hb=>by rw [hk] at hb;cases hb;exact ⟨ks.up hS5,Row.nil⟩
    nt0:=fun _=>rfl
    ap:=by simp [ob]
    stp:=Stp.refl _ _
    prot:=fun p hp=>by rw [e12] at hp;cases hp }
 have hs0:SlV K.own K.w0 v code:=hs.ext hSn (by simp) (fun b hb=>.inr (own_ge b hb));clear hs km ks hcw;refine W ?_
 refine Zu (σ:=Nat×Bool) (fun _=>[(0,v),(11,pQ bs),(13,mP K),(14,.map (some m))])
  (fun q w'=>ZnH K code sh q w') (fun q=>if q.2=true then 0 else code.length+1 - q.1) (0,false) ⟨rfl,rfl,rfl,rfl,trivial⟩ ⟨_,_,[],[],0,0,hM,fun _=>⟨rfl,rfl,hl0,Xn _,⟨[],hsh0,Z0k.nil⟩,code.length,Xn _,rfl⟩,fun h=>by cases h⟩ ?_
 clear hM;rintro ⟨i,dn⟩ w6 ⟨sv,pv,st,sp,at_,er,hM,hrun,hdone⟩;dsimp only at hM hrun hdone ⊢;have hblk:=hM.blk;unfold Z5v at hblk;cases dn with
 | false=>
   obtain ⟨rfl,rfl,hi,hsp,⟨s,hshs,hst⟩,f,hf,hr⟩:=hrun rfl;obtain ⟨s',nx,hg⟩:=hgood i hi;have hss:s'=s:=by have:=hg.at_;rw [hshs] at this;exact (XX this).symm
   subst hss;have hsl:=hs0.ext (X':=[]) hM.stp (fun b hb=>hb) (by simp);have hx:code.getD i ⟨0,0⟩=code[i]:=by simp [List.getD,hi]
   have hn:=hg.next;rw [hx] at hn;have h16':s'.length≤16:=h16 _ (by
    have hil:i<sh.length:=by omega
    rw [XA,XN hil] at hshs;simp only [Yax] at hshs;rw [← hshs];exact Xd hil)
   refine W ?_;refine Z1 Z2 rfl ?_;rintro _ w7 ⟨b15,rfl,hb15,e15,hS7⟩;have hbb:=hblk.lt;refine W ?_;refine SA (us:=Z3.enc code[i]) e15 ?_;rintro _ w8 ⟨hT,k15⟩;replace hS7:=hS7.ow hT;clear e15 hT;replace hM:=hM.up hS7;replace hblk:=hblk.up hS7;refine W ?_;refine Z5 (Za (u:=.I ((i:Int)+1)) rfl rfl rfl rfl hblk (by simp [evC,Z0e])) ?_;rintro _ w9 ⟨hS9,hblk9⟩;replace hM:=hM.put hK (at':=((i+1:Nat):Int)) (er':=0) (dn':=false) hS9 hblk9;replace k15:=k15.ext hS9 (by simp;omega);have hmp:=hmap.ext hM.stp hmo;refine W ?_;refine Z4 (Z1K rfl rfl hmp) rfl ?_;refine W ?_;refine Z1 (ZnE hK hM hn hst (by rw [← hst.1];omega) (by omega) rfl rfl rfl) rfl ?_;rintro _ w10 ⟨rfl,hres⟩;obtain ⟨q,hq,hlt⟩:=ZnH.step hK hi hx hlen hg h16 hst hsp hf hr hres;refine W ?_;exact QL q hq (by simpa using hlt)
 | true=>
   have fin:∀ w' pv',Stp K.own K.w0 w'→Row [] w' K.w0.heap.size 75 pv' (JK (ZB K.c K.kn) K.ev code).2.1→ZI 75 w w' pv' (JK (ZB K.c K.kn) K.ev code).2.1:=fun w' pv' h1 h2=>
    ⟨h2.lower hSn.size,hSn.own h1 (fun b hb=>.inr (own_ge b hb))⟩
   rcases hdone rfl with ⟨rfl,x,rfl,hR⟩|⟨he,hR⟩
   obtain ⟨ks,hrow⟩:=hM.nt bs hk;refine W ?_;refine ZDr 6 ([K.bm]) [] [(0,0),(2,1),(1,2),(3,0),(4,0),(5,0)] (fun w1 hS1=>?_);replace hM:=hM.up hS1;replace ks:=ks.up hS1;replace hrow:=hrow.up hS1;refine D ?_;refine DC (Zcu (st:=[]) hK hM) (fun _ _ h=>h.2.2) ?_;rintro _ w7 ⟨rfl,⟨sv',hM7⟩,hS7⟩;obtain ⟨ks7,hrow7⟩:=hM7.nt bs hk;refine D ?_;refine W ?_;refine WR ?_;refine .mk ⟨pv,by rw [hR],fin _ _ hM7.stp ?_⟩;rw [hR];exact hrow7;refine QO ?_;refine ZDr 7 [] [] [(0,0),(1,0),(2,0),(3,1),(4,0),(5,0),(6,0)] (fun w1 hS1=>?_);replace hM:=hM.up hS1;replace hblk:=hblk.up hS1;refine D ?_;refine W ?_;refine WR ?_;refine .mk ⟨.N,by rw [hR],fin _ _ hM.stp ?_⟩;rw [hR];exact Row.nil
theorem Z1r (n a b:Int) (w):CC 48 #[.I n,.I a,.I b] w fun r w'=>r=.B (decide (a≤n∧n≤b))∧Stp [] w w':=by
 refine cW3 15 Tryz.func48 ?_
 (refine QP ?_ ?_<;>intro hg)
 refine RU ?_;exact ⟨by congr 1;rw [decide_eq_decide];exact ⟨fun h=>⟨by omega,h⟩,fun h=>h.2⟩,Stp.refl _ _⟩;refine RU ?_;exact ⟨by congr 1;symm;exact decide_eq_false (fun h=>by omega),Stp.refl _ _⟩
theorem ZgE (a b c d e:Int) (w):(Instr.build 113 #[(0,.I a),(1,.I (-1)),(3,.I b),(4,.I c),(5,.I d),(6,.I e)]).run Tryz.prog w=.ok (ZnF [a,-1,0,b,c,d,e]) w:=by kernel_rfl
theorem ZgF (op a b r:Int):(Z00 op a b r).length≤1:=by
 unfold Z00;repeat' split
 all_goals first|exact Xn _|exact Xq _
theorem Z5G (o:Int→Bool) (ev:List Int) (C:List Ins):∀ (f i:Nat) (st:List Int) (sp:List Spn),(Z71 o ev C f i st sp).2.1.length≤sp.length+f
 | 0,_,_,_=>by simp [Z71]
 | f + 1, i, st, sp => by
   rw [Z71];split;simp;split;have:=Z5G o ev C f (C.getD i ⟨0,0⟩).n.toNat st sp;omega;split;have:=Z5G o ev C f (if Z05 st 0=0 then (C.getD i ⟨0,0⟩).n.toNat else i+1) st.dropLast sp;omega;split;refine Xg (Z5G o ev C f _ _ _) ?_;have:=ZgF (C.getD i ⟨0,0⟩).op (Z05 st 1) (Z05 st 0) (Z0d o ev (C.getD i ⟨0,0⟩) (Z05 st 1) (Z05 st 0)).1;rw [Xc];omega;simp
def evL (c:Cas) (f:Fct):List Int:=
 let s:=ofA c.atts c.crrs f.entry f.to_
 [f.day,if s.2=true then s.1.day else -1,if s.2=true then s.1.extra else 0,f.by_,f.to_,c.court,f.amt]
def opn (c:Cas):Int→Bool:=ZB c.cal c.today
def noD:Dln×Bool:=(default,false)
def mkD (c:Cas) (f:Fct) (r:Int) (q:Cr) (day due:Int) (sp:List Spn):Dln:=
 let s:=ofA c.atts c.crrs f.entry f.to_
 let a:=ZjU c.fcts f q.unl due
 { rule := q.name, trig := f, party := f.to_, due := due, stat := if a.2 = true then 1 else if due < c.today then 2 else 0,
   reas:=[⟨1,f.entry,f.day⟩,⟨2,r,0⟩]++(if s.2=true∧(Z4G q.cnd=true∨Z4G q.due=true) then [⟨3,s.1.att,s.1.day⟩] else [])
    ++ sp.map (fun x=>⟨4,x.1,x.2⟩)++(Z9o f.day day c.stys).map (fun x=>⟨5,x.1,x.2⟩)++(if a.2=true then [⟨6,a.1.entry,a.1.day⟩] else []) }
def Z24 (c:Cas) (f:Fct) (r:Int):Dln×Bool:=
 if ¬ (0≤r∧r≤(c.ruls.length:Int) - 1) then noD else
 let q:=c.ruls.getD r.toNat crZ
 if q.on≠f.kind∨ZtE c.ruls q.name f.day≠r then noD else
 let x:=JK (opn c) (evL c f) q.cnd
 if x.2.2≠0∨x.1=0 then noD else
 let y:=JK (opn c) (evL c f) q.due
 if y.2.2≠0 then noD else
 let z:=ZaG f.day y.1 c.stys
 if z.2≠0 then noD else
 if z.1=y.1 then (mkD c f r q y.1 y.1 (x.2.1++y.2.1),true) else
 let n:=Jz (opn c) 1 z.1
 if n.2≠0 then noD else (mkD c f r q y.1 n.1 (x.2.1++y.2.1++[(z.1,n.1)]),true)
structure Z5H (c:Cas):Prop where
 fl:c.fcts.length≤100000
 rl:c.ruls.length≤1024
 cnd:∀ q∈c.ruls,Z1W q.cnd=(2,0)
 due:∀ q∈c.ruls,Z1W q.due=(3,0)
 att:Znp c.atts c.crrs
 ext:∀ x∈c.crrs,0≤x.extra∧x.extra≤1000
 sty:Z84 c.stys
 court:0≤c.court∧c.court≤15
 today:0≤c.today∧c.today≤3652058
structure Z0B (f:Fct):Prop where
 day:0≤f.day∧f.day≤3652058
 by_:0≤f.by_∧f.by_≤63
 to_:0≤f.to_∧f.to_≤63
 amt:-2147483647≤f.amt∧f.amt≤2147483647
structure Z1H (w:World) (c:Cas) (R:Z11):Prop where
 ff:SlV [] w R.fv c.fcts
 rr:SlV [] w R.rv c.ruls
 aa:SlV [] w R.av c.atts
 cc:SlV [] w R.cv c.crrs
 ss:SlV [] w R.sv c.stys
 cal:Z6n w c.cal R.hv R.lv R.zo R.zs R.hr
 one:R.zo.oneCell'=true∧R.zs.oneCell'=true∧R.hr.oneCell'=true
theorem Z1H.up {w w':World} {c:Cas} {R:Z11} (h:Z1H w c R) (hS:Stp [] w w'):Z1H w' c R:=⟨h.ff.up hS,h.rr.up hS,h.aa.up hS,h.cc.up hS,h.ss.up hS,h.cal.up hS,h.one⟩
theorem Z3Y {o:Int→Bool} {ev:List Int} {C:List Ins} {t:Int} (hev:ZdO ev) {sh:List (Option Shp)} (hlen:sh.length=C.length) (hgood:∀ i,i<C.length→∃ s nx,ZcA C sh i s nx) (hlast:sh.getD (C.length - 1) none=some [t]) :
 ∀ (f i:Nat) (s:Shp) (st:List Int) (sp sp':List Spn) (v:Int),i<C.length→sh.getD i none=some s→Z0k s st→C.length≤f+i→Z71 o ev C f i st sp=(v,sp',0)→vOk t v
 | 0,i,s,st,sp,sp',v,hi,hs,hst,hf,hr=>by omega
 | f + 1, i, s, st, sp, sp', v, hi, hs, hst, hf, hr => by
   obtain ⟨s',nx,hg⟩:=hgood i hi;obtain rfl:s'=s:=by have:=hg.at_;rw [hs] at this;simpa using this.symm
   rw [Z71] at hr;have hn:=hg.next;have hstop:=hg.stop;have hjump:=hg.jump;have hon:=hg.on;generalize C.getD i ⟨0,0⟩=x at *
   try dsimp only at hr
   by_cases h24:x.op=24;rw [if_pos h24] at hr;obtain ⟨a1,a2⟩:=hstop h24;rw [show i=C.length - 1 by omega,hlast] at hs;obtain rfl:[t]=s':=by simpa using hs
   obtain ⟨u,rfl,hu⟩:=hst.one_inv;simp [Z05] at hr;rw [← hr.1];exact hu;rw [if_neg h24] at hr;by_cases h13:x.op=13;rw [if_pos h13] at hr;obtain ⟨j1,j2,j3⟩:=hjump (.inl h13);have hnx:=Zkw h13 hn;subst hnx;exact Z3Y hev hlen hgood hlast f x.n.toNat _ st sp sp' v (by omega) j3 hst (by omega) hr;rw [if_neg h13] at hr;by_cases h14:x.op=14;rw [if_pos h14] at hr;obtain ⟨j1,j2,j3⟩:=hjump (.inr h14);obtain ⟨o1,o2⟩:=hon h24 h13;have hnx:=Zkx h14 hn;have hst2:Z0k nx st.dropLast:=by
    rw [hnx,YaD,YaD,← hst.1];exact hst.take _
   by_cases hb:Z05 st 0=0;rw [if_pos hb] at hr;exact Z3Y hev hlen hgood hlast f _ _ _ sp sp' v (by omega) j3 hst2 (by omega) hr;rw [if_neg hb] at hr;exact Z3Y hev hlen hgood hlast f _ _ _ sp sp' v (by omega) o2 hst2 (by omega) hr;rw [if_neg h14] at hr;obtain ⟨o1,o2⟩:=hon h24 h13;by_cases he:(Z0d o ev x (Z05 st 1) (Z05 st 0)).2=0;rw [if_pos he] at hr;exact Z3Y hev hlen hgood hlast f _ _ _ _ sp' v (by omega) o2 (Zca hev hn h24 h13 h14 hst he) (by omega) hr;rw [if_neg he] at hr;simp only [Prod.mk.injEq] at hr;exact absurd hr.2.2 he
theorem Z8f {o:Int→Bool} {ev:List Int} {C:List Ins} {t:Int} (hev:ZdO ev) (hv:Z1W C=(t,0)) (h:(JK o ev C).2.2=0):vOk t (JK o ev C).1:=by
 obtain ⟨h0,h200,sh,hlen,hok,h16,hsh0,hshn,hgood⟩:=Z8e hv;exact Z3Y hev hlen hgood hshn C.length 0 [] [] [] _ _ h0 hsh0 Z0k.nil (by omega) (show JK o ev C=((JK o ev C).1,(JK o ev C).2.1,0) by rw [← h])
theorem Z8g {o:Int→Bool} {ev:List Int} {C:List Ins} {t:Int} (hv:Z1W C=(t,0)):(JK o ev C).2.1.length≤200:=by
 obtain ⟨h0,h200,_⟩:=Z8e hv;have:=Z5G o ev C C.length 0 [] [];unfold JK;simp only [Xf] at this;omega
def Z9w (s:AlS):Prop:=∀ y∈s.out,-1≤y.2∧y.2≤3652058
theorem Zky {l:List Rtn} {crrs:List Crr} {s:AlS} {x:Spn} (h:Z9w s) (hx:-1≤x.2∧x.2≤3652058):Z9w (Z0A l crrs s x):=by
 unfold Z0A;dsimp only;split;exact h;have ht:Z9w (if Z1w l crrs x.1<s.least then (⟨Z1w l crrs x.1,false,[]⟩:AlS) else s):=by
  split;intro y hy;cases hy;exact h
 generalize (if Z1w l crrs x.1<s.least then (⟨Z1w l crrs x.1,false,[]⟩:AlS) else s)=t at *;split;rename_i y hy;split;intro z hz;rcases Xh.1 hz with hz|hz
 exact ht z (List.dropLast_subset _ hz);simp only [Xl] at hz;subst hz;exact hx;intro z hz;rcases Xh.1 hz with hz|hz
 exact ht z hz;simp only [Xl] at hz;subst hz;exact hx;intro z hz;rcases Xh.1 hz with hz|hz
 exact ht z hz;simp only [Xl] at hz;subst hz;exact hx
theorem ZcD {l:List Rtn} {crrs:List Crr}:∀ (L:List Spn) (s:AlS),Z9w s→(∀ x∈L,-1≤x.2∧x.2≤3652058)→Z9w (L.foldl (Z0A l crrs) s)
 | [],_,h,_=>h
 | x :: L,s,h,hL=>ZcD L _ (Zky h (hL x (by simp))) (fun y hy=>hL y (by simp [hy]))
theorem Zkz (l:List Rtn) (crrs:List Crr) {sent:Int} (hs:0≤sent∧sent≤3652058):-1≤(ZaN l crrs sent).1∧(ZaN l crrs sent).1≤3652058:=by
 unfold ZaN;have ho:Z9w (Zgm l crrs sent):=ZcD _ _ (fun y hy=>by cases hy) (fun x hx=>⟨(Z8a hs hx).2.2.1,(Z8a hs hx).2.2.2⟩);dsimp only;split;simp;split;rename_i y hy;exact ho y (List.mem_of_getLast? hy);simp
theorem Zf7 (l:List Atp) (crrs:List Crr) (en pa:Int):∀ (k:Nat),k≤l.length→∀ s∈ofG l crrs en pa k,∃ j,∃ h:j<l.length,s=ofE crrs l[j] j
 | 0,_,s,h=>by simp [ofG] at h
 | k + 1, hk, s, h => by
   rw [ofG] at h;rcases Xh.1 h with h|h
   exact Zf7 l crrs en pa k (by omega) s h;split at h;simp only [Xl] at h;exact ⟨k,by omega,by rw [h];simp [show k<l.length by omega]⟩;cases h
theorem Z9x (l:List Svc):∀ k,k<l.length→Z2i l k∈l
 | 0,h=>by simp [Z2i,h]
 | k + 1, h => by
   rw [Z2i];split;simp [h];exact Z9x l k (by omega)
theorem ZnI {l:List Atp} {crrs:List Crr} (en pa:Int) (ho:Znp l crrs) (hx:∀ x∈crrs,0≤x.extra∧x.extra≤1000) :
 -1≤(ofA l crrs en pa).1.day∧(ofA l crrs en pa).1.day≤3652058∧0≤(ofA l crrs en pa).1.extra∧(ofA l crrs en pa).1.extra≤1000:=by
 have hm:=Zf7 l crrs en pa l.length (Xn _);show -1≤(Z4H (ofG l crrs en pa l.length)).1.day∧(Z4H (ofG l crrs en pa l.length)).1.day≤3652058∧0≤(Z4H (ofG l crrs en pa l.length)).1.extra∧(Z4H (ofG l crrs en pa l.length)).1.extra≤1000;generalize ofG l crrs en pa l.length=L at *;unfold Z4H;split;simp;rename_i hne;obtain ⟨j,hj,e⟩:=hm _ (Z9x L (L.length - 1) (by have:=X7.2 hne;omega));dsimp only;rw [e];have hs:=Zkz l[j].rets crrs (ho.sent _ (Xd hj));have hc:=ho.crr _ (Xd hj);obtain ⟨m,hm⟩:∃ m:Nat,l[j].crr=m:=⟨l[j].crr.toNat,by omega⟩
 have hml:m<crrs.length:=by omega
 have hx':=hx _ (Xd hml);simp only [ofE,hm];rw [show crrs.getD ((m:Int).toNat) ⟨0,0⟩=crrs[m] by simp [hml]];omega
theorem ZkA {c:Cas} {f:Fct} (ho:Z5H c) (hf:Z0B f):ZdO (evL c f):=by
 have h:=ZnI f.entry f.to_ ho.att ho.ext;have h1:=hf.day;have h2:=hf.by_;have h3:=hf.to_;have h4:=hf.amt;have h5:=ho.court;unfold evL;dsimp only;generalize ofA c.atts c.crrs f.entry f.to_=s at *;refine ⟨rfl,h1,?_,?_⟩;show -1≤(if s.2=true then s.1.day else -1)∧(if s.2=true then s.1.day else -1)≤3652058;split<;>omega
 intro i hi2 hi7;obtain rfl|rfl|rfl|rfl|rfl:i=2∨i=3∨i=4∨i=5∨i=6:=by omega
 show -2147483647≤(if s.2=true then s.1.extra else 0)∧(if s.2=true then s.1.extra else 0)≤2147483647;split<;>omega
 show -2147483647≤f.by_∧f.by_≤2147483647;omega;show -2147483647≤f.to_∧f.to_≤2147483647;omega;show -2147483647≤c.court∧c.court≤2147483647;omega;exact h4
theorem Z2m (w):(Instr.build 56 #[]).run Tryz.prog w=.ok (.agg (dlC (default:Dln) Jk).toArray) w:=by kernel_rfl
theorem Z2n:∀ u∈dlC (default:Dln) Jk,u.oneCell'=true:=by decide
theorem ZnJ (ev:List Int):∀ u∈evC ev,u.oneCell'=true:=by
 intro u hu;unfold evC at hu;simp only [Xb,Xj,or_false] at hu;rcases hu with rfl|rfl|rfl|rfl|rfl|rfl|rfl<;>rfl
theorem ZnK (s:Str) (f:Fct) (a b:Int) (w):(Instr.build 56 #[(0,str s),(1,aG f),(2,.I a),(3,.I b)]).run Tryz.prog w=.ok (.agg (dlC (⟨s,f,a,b,0,[]⟩:Dln) Jk).toArray) w:=by kernel_rfl
theorem Z8h (a b:Int) (w):(Instr.build 75 #[(0,.I a),(1,.I b)]).run Tryz.prog w=.ok (.agg (Z3.enc ((a,b):Spn)).toArray) w:=by kernel_rfl
theorem ZaW (d:Dln) {rv:Value} (h:rv.oneCell'=true):∀ u∈dlC d rv,u.oneCell'=true:=by
 intro u hu;simp only [dlC,Xb,Xj,or_false] at hu;rcases hu with rfl|rfl|rfl|rfl|rfl|rfl|rfl|rfl|rfl|rfl|rfl<;>first|rfl|assumption
theorem Nte.up {w0 w w':World} {bd:Nat} {d:Dln} {rv:Value} (h:Nte w0 bd w d rv) (hT:Stp [] w w'):Nte w0 bd w' d rv:=⟨h.blk.up hT,h.row.up hT,h.stp.trans hT.mn,h.lt,h.len⟩
theorem Nte.stat {w0 w w':World} {bd:Nat} {d d':Dln} {rv:Value} (h:Nte w0 bd w d rv) (hT:Stp [bd] w w') (hb:Blk w' bd 56 (dlC d' rv)) (he:d'.reas=d.reas):Nte w0 bd w' d' rv:=
 ⟨hb,by rw [he];exact h.row.ext hT (fun b hb'=>⟨hb',fun h2=>by have:=(h.row.ob_le b h2).1;have:=h.lt;simp at hb';omega⟩) (fun b hb=>.inl hb),h.stp.trans hT,h.lt,by rw [he];exact h.len⟩
abbrev dU (q:Cr) (f:Fct) (due st:Int) (l:List Rsn):Dln:=⟨q.name,f,f.to_,due,st,l⟩
theorem ZnL (c:Cas) (R:Z11) (f:Fct) (r:Int) (w) (hv:Z1H w c R) (ho:Z5H c) (hf:Z0B f) (hr:I64 r) :
 CC 24 #[.agg (JE c R).toArray,aG f,.I r] w fun v w'=>∃ rv,v=.tuple #[.agg (dlC (Z24 c f r).1 rv).toArray,.B (Z24 c f r).2]∧ZI 67 w w' rv (Z24 c f r).1.reas:=by
 generalize hone:Z24 c f r=o;have hrl:=ho.rl;refine cW3 246 Tryz.func24 ?_;refine W ?_;refine BX (Stp.refl [] w) fun b3 w1 h3 e3 _ hS=>?_;replace e3:Blk w1 b3 37 (JE c R):=e3;refine BX hS fun b4 w2 h4 e4 hT hS=>?_;replace e4:Blk w2 b4 45 (Z3.enc f):=e4;replace e3:=e3.up hT;refine W ?_;refine Z1 Z2 rfl ?_;rintro _ w3 ⟨b6,rfl,hb6,e6,hT⟩;have g6:w.heap.size≤b6:=Xg hS.size hb6;replace e6:Blk w3 b6 56 (dlC (default:Dln) Jk):=e6;replace e3:=e3.up hT;replace e4:=e4.up hT;replace hS:=hS.trans hT;clear hT;have hv3:=hv.up hS;have hrr:=hv3.rr;refine W ?_;refine CP hS (Z1r _ _ _ _) fun w4 hT hS=>?_;replace e3:=e3.up hT;replace e4:=e4.up hT;replace e6:=e6.up hT;clear hT hv3 hrr;by_cases hw:0≤r∧r≤(c.ruls.length:Int) - 1
 rotate_left
 rw [Z24,if_pos hw] at hone;rw [decide_eq_false hw];refine QO ?_;refine Z8 (vs:=[]) rfl Z2m rfl ?_;refine SB (us:=dlC (default:Dln) Jk) Z2n e6 ?_;rintro _ wz ⟨hT,e6⟩;refine W ?_;refine Zl rfl rfl rfl e6 rfl rfl ?_;subst hone;exact .mk ⟨Jk,rfl,ZI.nil.up (hS.ow hT)⟩;rw [Z24,if_neg (not_not_intro hw)] at hone;rw [decide_eq_true hw];obtain ⟨i,rfl⟩:∃ i:Nat,r=i:=⟨r.toNat,by omega⟩
 have hi:i<c.ruls.length:=by omega
 rw [show c.ruls.getD ((i:Int).toNat) crZ=c.ruls[i] by simp [hi]] at hone;dsimp only at hone;have hvc:=(ho.cnd _ (Xd hi))
 have hvd:=(ho.due _ (Xd hi))
 have hv4:=hv.up hS;have hrr:=hv4.rr;obtain ⟨cs,⟨kc,kd,rfl,gc,gd⟩,hcell⟩:=hv.rr.cell hi;refine QO ?_;refine Z4 (Z2F rfl rfl hrr hi ⟨kc,kd,rfl,gc.up hS,gd.up hS⟩ (fun j u hu=>hS.cell0 (hcell j u hu))) rfl ?_;refine Z1 Z2 rfl ?_;rintro _ w5 ⟨b8,rfl,hb8,e8,hT⟩;refine SB (us:=crC c.ruls[i] kc kd) (Z0n gc gd) e8 ?_;rintro _ w6 ⟨hT2,e8⟩;replace hT:=hT.ow hT2;replace e3:=e3.up hT;replace e4:=e4.up hT;replace e6:=e6.up hT;replace hS:=hS.trans hT;clear hT hT2 hcell hrr hv4;generalize hq:c.ruls[i]=q at *;have hrr:=(hv.up hS).rr;have l8:=e8.lt
 (refine QP ?_ ?_<;>intro hg)
 rw [if_pos (.inl (by assumption))] at hone;refine Z8 (vs:=[]) rfl Z2m rfl ?_;refine SB (us:=dlC (default:Dln) Jk) Z2n e6 ?_;rintro _ wz ⟨hT,e6⟩;refine W ?_;refine Zl rfl rfl rfl e6 rfl rfl ?_;subst hone;exact .mk ⟨Jk,rfl,ZI.nil.up (hS.ow hT)⟩;refine CP hS (Zcb R.rv c.ruls q.name f.day _ hrr) fun w7 hT hS=>?_;replace e3:=e3.up hT;replace e4:=e4.up hT;replace e6:=e6.up hT;replace e8:=e8.up hT;clear hrr;by_cases ha:ZtE c.ruls q.name f.day=i
 rotate_left
 rw [if_pos (.inr ha)] at hone;refine QO ?_;refine Z8 (vs:=[]) rfl Z2m rfl ?_;refine SB (us:=dlC (default:Dln) Jk) Z2n e6 ?_;rintro _ wz ⟨hT,e6⟩;refine W ?_;refine Zl rfl rfl rfl e6 rfl rfl ?_;subst hone;exact .mk ⟨Jk,rfl,ZI.nil.up (hS.ow hT)⟩;rw [if_neg (fun h=>h.elim (fun h=>absurd h (by assumption)) (fun h=>h ha))] at hone;refine QO ?_;refine Z8 (vs:=[(0,.I f.day),(1,.I (-1)),(3,.I f.by_),(4,.I f.to_),(5,.I c.court),(6,.I f.amt)]) rfl (ZgE _ _ _ _ _) rfl ?_;refine Z1 Z2 rfl ?_;have l3:=e3.lt;have l4:=e4.lt;have l6:=e6.lt;have l8':=e8.lt;rintro _ w8 ⟨b9,rfl,hb9,e9,hT⟩;have g9:w.heap.size≤b9:=Xg hS.size hb9;refine SB (us:=evC [f.day,-1,0,f.by_,f.to_,c.court,f.amt]) (ZnJ _) e9 ?_;rintro _ w9 ⟨hT2,e9⟩;replace hT:=hT.ow hT2;replace e3:=e3.up hT;replace e4:=e4.up hT;replace e6:=e6.up hT;replace e8:=e8.up hT;replace hS:=hS.trans hT;clear hT hT2;have hv9:=hv.up hS;refine QO ?_;refine CP hS (ZtF R.av R.cv c.atts c.crrs f.entry f.to_ _ hv9.aa hv9.cc ho.att) fun w10 hT hS=>?_;replace e3:=e3.up hT;replace e4:=e4.up hT;replace e6:=e6.up hT;replace e8:=e8.up hT;replace e9:=e9.up hT;clear hT hv9;have l9:=e9.lt;generalize hs0:ofA c.atts c.crrs f.entry f.to_=s at *;obtain ⟨s,ok⟩:=s;refine QO ?_;refine Z1 Z2 rfl ?_;rintro _ w11 ⟨b10,rfl,hb10,e10,hT⟩;refine SA (us:=Z3.enc s) e10 ?_;rintro _ w12 ⟨hT2,e10⟩;replace hT:=hT.ow hT2;replace e3:=e3.up hT;replace e4:=e4.up hT;replace e6:=e6.up hT;replace e8:=e8.up hT;replace e9:=e9.up hT;replace hS:=hS.trans hT;clear hT hT2;refine W ?_;have e9':=e9
 refine JA (σ:=Unit) (fun _=>[(2,.I (i:Int)),(3,pQ b3),(4,pQ b4),(6,pQ b6),(8,pQ b8),(9,pQ b9),(10,pQ b10),(11,.B ok)])
  (fun _ w'=>Stp [b9] w12 w'∧Blk w' b9 113 (evC (evL c f))) ?_ ?_
 have hevl:evL c f=[f.day,if ok=true then s.day else -1,if ok=true then s.extra else 0,f.by_,f.to_,c.court,f.amt]:=by
  unfold evL;rw [hs0]
 rw [hevl]
 (refine QP ?_ ?_<;>intro hc)
 refine ZDr 8 [b9] [] [(0,0),(1,1),(2,0),(3,1),(4,0),(5,2),(6,0),(7,2)] (fun w1 hS1=>?_);replace e9:=e9.up hS1;replace e10:=e10.up hS1;have c10:_=some (Value.int .i64 s.day):=e10.cell (j:=0) rfl;have c11:_=some (Value.int .i64 s.extra):=e10.cell (j:=1) rfl;focus repeat'(first|refine D1 ?_|omega|refine Z1a rfl (by first|exact trivial|exact rfl) rfl rfl (by assumption) rfl ?_|refine Zy rfl rfl rfl rfl (fun hg=>?_) (fun hg=>?_)|(refine Zr rfl rfl rfl rfl (fun hg=>?_) (fun hg=>?_)<;>refine D1 ?_)|fail)
 refine ZH rfl trivial (Za rfl rfl rfl rfl e9 (by simp [evC])) (fun _ _ h=>h.1) ?_;rintro _ w13 ⟨hT,e9⟩;focus repeat'(first|refine D1 ?_|omega|refine Z1a rfl (by first|exact trivial|exact rfl) rfl rfl (by assumption) rfl ?_|refine Zy rfl rfl rfl rfl (fun hg=>?_) (fun hg=>?_)|(refine Zr rfl rfl rfl rfl (fun hg=>?_) (fun hg=>?_)<;>refine D1 ?_)|fail)
 refine ZH rfl trivial (Za rfl rfl rfl rfl e9 (by simp [evC])) (fun _ _ h=>h.1) ?_;rintro _ w14 ⟨hT2,e9⟩;focus repeat'(first|refine D1 ?_|omega|refine Z1a rfl (by first|exact trivial|exact rfl) rfl rfl (by assumption) rfl ?_|refine Zy rfl rfl rfl rfl (fun hg=>?_) (fun hg=>?_)|(refine Zr rfl rfl rfl rfl (fun hg=>?_) (fun hg=>?_)<;>refine D1 ?_)|fail)
 exact QT () ⟨(hS1.mn.own hT (fun c hc=>.inl hc)).own hT2 (fun c hc=>.inl hc),by rw [show ok=true by assumption];exact e9⟩;rw [show ok=false by simpa using ‹_›];exact QT () ⟨Stp.refl _ _,e9⟩;rintro _ w13 ⟨hT,e9⟩;replace e3:=e3.ext hT (by simp;omega);replace e4:=e4.ext hT (by simp;omega);replace e6:=e6.ext hT (by simp;omega);replace e8:=e8.ext hT (by simp;omega);replace e10:=e10.ext hT (by simp;omega);replace hS:=hS.ow hT;clear hT;have hev:=ZkA ho hf;have hvx:=hv.up hS;have l3:=e3.lt;have l4:=e4.lt;have l6:=e6.lt;have l8:=e8.lt;have l10:=e10.lt;rw [show opn c=ZB c.cal c.today from rfl] at hone;have hS13:=hS;have f3:=e3;have f4:=e4;have f6:=e6;have f8:=e8;have f10:=e10;refine W ?_;refine Z4 (Zn rfl rfl e3 (us:=Z0e c.cal R.hv R.lv R.zo R.zs R.hr) rfl rfl) rfl ?_;refine W ?_;refine CL (ZcC kc q.cnd 2 c.today (evL c f) c.cal R.hv R.lv R.zo R.zs R.hr _ (gc.up hS) hvc hvx.cal hev hvx.one) ?_;rintro _ w14 ⟨pv,rfl,hr1⟩;have hxl:=Z8g (o:=ZB c.cal c.today) (ev:=evL c f) hvc;generalize JK (ZB c.cal c.today) (evL c f) q.cnd=x at *;obtain ⟨x1,xs,xe⟩:=x;dsimp only at hone hr1 hxl ⊢;have hT:=hr1.2;replace e3:=e3.up hT;replace e4:=e4.up hT;replace e6:=e6.up hT;replace e8:=e8.up hT;replace e9:=e9.up hT;replace e10:=e10.up hT;replace hS:=hS.trans hT;clear hT hvx;by_cases hxe:xe=0
 rotate_left
 rw [if_pos (.inl hxe)] at hone;refine QO ?_;refine Z8 (vs:=[]) rfl Z2m rfl ?_;refine SB (us:=dlC (default:Dln) Jk) Z2n e6 ?_;rintro _ wz ⟨hT,e6⟩;refine W ?_;refine Zl rfl rfl rfl e6 rfl rfl ?_;subst hone;exact .mk ⟨Jk,rfl,ZI.nil.up (hS.ow hT)⟩;by_cases hx0:x1=0;rw [if_pos (.inr hx0)] at hone;refine QO ?_;refine Z8 (vs:=[]) rfl Z2m rfl ?_;refine SB (us:=dlC (default:Dln) Jk) Z2n e6 ?_;rintro _ wz ⟨hT,e6⟩;refine W ?_;refine Zl rfl rfl rfl e6 rfl rfl ?_;subst hone;exact .mk ⟨Jk,rfl,ZI.nil.up (hS.ow hT)⟩;rw [if_neg (fun h=>h.elim (fun h=>h hxe) (fun h=>hx0 h))] at hone;have hvx:=hv.up hS;refine QO ?_;refine Z4 (Zn rfl rfl e3 (us:=Z0e c.cal R.hv R.lv R.zo R.zs R.hr) rfl rfl) rfl ?_;refine W ?_;refine CL (ZcC kd q.due 3 c.today (evL c f) c.cal R.hv R.lv R.zo R.zs R.hr _ (gd.up hS) hvd hvx.cal hev hvx.one) ?_;rintro _ w15 ⟨pw,rfl,hr2⟩;have hyl:=Z8g (o:=ZB c.cal c.today) (ev:=evL c f) hvd;have hyv:=Z8f (o:=ZB c.cal c.today) hev hvd;generalize JK (ZB c.cal c.today) (evL c f) q.due=y at *;obtain ⟨y1,ys,ye⟩:=y;dsimp only at hone hr2 hyl hyv ⊢;have hys:SlV (ob pv) w15 pw ys:=hr2.slv (fun b hb=>(hr1.ob_le b hb).2);have hT:=hr2.2;replace e3:=e3.up hT;replace e4:=e4.up hT;replace e6:=e6.up hT;replace e8:=e8.up hT;replace e9:=e9.up hT;replace e10:=e10.up hT;replace hr1:=hr1.up hT;replace hS:=hS.trans hT;clear hT hvx hr2;by_cases hye:ye=0
 rotate_left
 rw [if_pos hye] at hone;refine QO ?_;refine Z8 (vs:=[]) rfl Z2m rfl ?_;refine SB (us:=dlC (default:Dln) Jk) Z2n e6 ?_;rintro _ wz ⟨hT,e6⟩;refine W ?_;refine Zl rfl rfl rfl e6 rfl rfl ?_;subst hone;exact .mk ⟨Jk,rfl,ZI.nil.up (hS.ow hT)⟩;rw [if_neg (not_not_intro hye)] at hone;have hy1:0≤y1∧y1≤3652058:=by
  rcases hyv hye with h|h|h
  omega;omega;exact h.2
 have hvx:=hv.up hS;have hfd:=hf.day;refine QO ?_;refine CP hS (Z85 f.day y1 R.sv c.stys _ hvx.ss ho.sty (by omega) (by omega)) fun w16 hT hS=>?_
 replace e3:=e3.up hT;replace e4:=e4.up hT;replace e6:=e6.up hT;replace e8:=e8.up hT;replace e9:=e9.up hT;replace e10:=e10.up hT;replace hr1:=hr1.up hT;replace hys:=hys.up hT;clear hT hvx;generalize ZaG f.day y1 c.stys=z at *;obtain ⟨z1,ze⟩:=z;dsimp only at hone ⊢;by_cases hze:ze=0
 rotate_left
 rw [if_pos hze] at hone;refine QO ?_;refine Z8 (vs:=[]) rfl Z2m rfl ?_;refine SB (us:=dlC (default:Dln) Jk) Z2n e6 ?_;rintro _ wz ⟨hT,e6⟩;refine W ?_;refine Zl rfl rfl rfl e6 rfl rfl ?_;subst hone;exact .mk ⟨Jk,rfl,ZI.nil.up (hS.ow hT)⟩;rw [if_neg (not_not_intro hze)] at hone;refine QO ?_;refine Z1 (JB (β:=Spn) rfl (by decide) rfl rfl hr1 hys (Xg (Xp _ (show xs.length+ys.length≤400 by omega)) (by decide)) (by simp only [maxLen];omega)) rfl ?_;rintro pu w17 ⟨hr,-,-⟩;clear hr1 hys e3 e4 e6 e8 e9 e10 hS;have hxy:(xs++ys).length≤400:=by rw [Xc];omega
 refine W ?_
 refine JA (σ:=Int×Value×List Spn) (fun q=>[(2,.I (i:Int)),(3,pQ b3),(4,pQ b4),(6,pQ b6),(8,pQ b8),(10,pQ b10),(11,.B ok),(13,q.2.1),(15,.I y1),(17,.I q.1)])
  (fun p w'=>ZI 75 w13 w' p.2.1 p.2.2∧p.2.2.length≤1000∧(mkD c f i q y1 p.1 p.2.2,true)=o) ?_ ?_
 by_cases hzy:z1=y1;rw [if_pos hzy] at hone;refine QO ?_;exact QT (z1,pu,xs++ys) ⟨hr,by dsimp only;omega,by rw [hzy];exact hone⟩
 · rw [if_neg hzy] at hone
   have e3:=f3.up hr.2;have e6:=f6.up hr.2;have hS:=hS13.trans hr.2;have hvx:=hv.up hS;refine QO ?_;refine Z4 (Zn rfl rfl e3 (us:=Z0e c.cal R.hv R.lv R.zo R.zs R.hr) rfl rfl) rfl ?_;refine W ?_;refine CP hS (Z9v z1 c.today c.cal R.hv R.lv R.zo R.zs R.hr _ hvx.cal) fun w18 hT hS=>?_;replace e3:=e3.up hT;replace e6:=e6.up hT;replace hr:=hr.up hT;clear hT hvx;generalize Jz (ZB c.cal c.today) 1 z1=nn at *;obtain ⟨n1,ne⟩:=nn;dsimp only at hone ⊢;by_cases hne:ne=0
   rotate_left
   rw [if_pos hne] at hone;refine QO ?_;refine Z8 (vs:=[]) rfl Z2m rfl ?_;refine SB (us:=dlC (default:Dln) Jk) Z2n e6 ?_;rintro _ wz ⟨hT,e6⟩;refine W ?_;refine Zl rfl rfl rfl e6 rfl rfl ?_;subst hone;exact .mk ⟨Jk,rfl,ZI.nil.up (hS.ow hT)⟩;rw [if_neg (not_not_intro hne)] at hone;refine QO ?_;refine Z8 (vs:=[(0,.I z1),(1,.I n1)]) rfl (Z8h _ _) rfl ?_;refine AP1 ((z1,n1):Spn) hr (by omega) fun v1 v' w' hr' _=>?_
   refine W ?_;exact ZN (n1,v',xs++ys++[(z1,n1)]) ⟨rfl,rfl,rfl,rfl,rfl,rfl,rfl,rfl,rfl,rfl,trivial⟩ ⟨hr',by simp only [Xc,Xe,Xf] at hxy ⊢;omega,hone⟩
 clear hone hr hxy;rintro ⟨due,sv,sp⟩ w18 ⟨hr,hsp,hone⟩;dsimp only at hr hsp hone ⊢;subst hone;have e3:=f3.up hr.2;have e4:=f4.up hr.2;have e6:=f6.up hr.2;have e8:=f8.up hr.2;have e10:=f10.up hr.2;have hS:=hS13.trans hr.2;have hsv:SlV [] w18 sv sp:=hr.slv (by simp);clear hr f3 f4 f6 f8 f10 hS13;refine W ?_;refine Z8 (vs:=[(0,str q.name),(1,aG f),(2,.I f.to_),(3,.I due)]) rfl (ZnK _ _ _ _) rfl ?_;refine Z1 Z2 rfl ?_;rintro _ w19 ⟨b19,rfl,hb19,e19,hT⟩;refine SB (us:=dlC (⟨q.name,f,f.to_,due,0,[]⟩:Dln) Jk) (ZaW _ rfl) e19 ?_;rintro _ w20 ⟨hT2,e19⟩;replace hT:=hT.ow hT2;have l3:=e3.lt;have l4:=e4.lt;have l6:=e6.lt;have l8:=e8.lt;have l10:=e10.lt;replace e3:=e3.up hT;replace e4:=e4.up hT;replace e6:=e6.up hT;replace e8:=e8.up hT;replace e10:=e10.up hT;replace hsv:SlV [b19] w20 sv sp:=hsv.ext hT (by simp) (fun b hb=>.inr (by simp at hb;omega));have g19:w.heap.size≤b19:=Xg hS.size hb19;replace hS:=hS.trans hT;clear hT hT2;have hN:Nte w20 b19 w20 ⟨q.name,f,f.to_,due,0,[]⟩ Jk:=⟨e19,Row.nil,Stp.refl _ _,e19.lt,by simp⟩
 clear e19;refine W ?_;refine Z1 (Z0h rfl (Js rfl rfl rfl) rfl (Z2G w20 b19 _ _ 1 f.entry f.day _ hN (by simp))) rfl ?_;rintro _ w21 ⟨r1,hN,-,-⟩;have f4:=e4.ext hN.stp (by simp;omega);refine W ?_;refine Z1 (Z0h rfl (Js rfl rfl rfl) rfl (Z2G w20 b19 _ _ 2 i 0 _ hN (by simp))) rfl ?_;rintro _ w22 ⟨r2,hN,-,-⟩;clear f4;have f8:=e8.ext hN.stp (by simp;omega);have hS22:Stp [] w w22:=hS.own hN.stp (fun c hc=>.inr (by simp at hc;omega));have hk1:=gc.up hS22;have hk2:=gd.up hS22;refine W ?_;refine Z5k (σ:=Unit) (fun _=>[(2,.I (i:Int)),(3,pQ b3),(4,pQ b4),(6,pQ b6),(8,pQ b8),(15,.I y1),(17,.I due),(19,pQ b19),(20,.func (.func 53) #[] #[pQ b19]),(10,pQ b10),(13,sv),(185,.B (ok && (Z4G q.cnd || Z4G q.due)))]) (fun _ w'=>Stp [] w22 w') ?_ ?_
 · cases ok with
   | false=>
     refine QO ?_;exact QT () (Stp.refl _ _)
   | true=>
     refine QO ?_;refine CP (Stp.refl [] w22) (Zcf kc q.cnd _ hk1) fun w23 hT hS=>?_;replace f8:=f8.up hT;replace hk2:=hk2.up hT;cases h1:Z4G q.cnd with
     | true=>
       refine QO ?_;exact QT () hS
     | false=>
       refine QO ?_;refine CP hS (Zcf kd q.due _ hk2) fun w24 hT hS=>?_;cases h2:Z4G q.due
       all_goals
        refine QO ?_;exact QT () hS
 rintro _ w23 hT;replace hN:=hN.up hT;clear hk1 hk2 f8 hS22 hT;generalize hbb:(ok && (Z4G q.cnd || Z4G q.due))=bb at *;refine W ?_;refine JA (σ:=Value) (fun _=>[(2,.I (i:Int)),(3,pQ b3),(4,pQ b4),(6,pQ b6),(8,pQ b8),(15,.I y1),(17,.I due),(19,pQ b19),(20,.func (.func 53) #[] #[pQ b19]),(13,sv)]) (fun rv w'=>Nte w20 b19 w' (dU q f due 0 ([⟨1,f.entry,f.day⟩,⟨2,i,0⟩]++if bb=true then [⟨3,s.att,s.day⟩] else [])) rv) ?_ ?_
 · cases bb with
   | false=>
     refine QO ?_;exact QT r2 hN
   | true=>
     have f10:=e10.ext hN.stp (by simp;omega);refine QO ?_;refine Z1 (Z0h rfl (Js rfl rfl rfl) rfl (Z2G w20 b19 _ _ 3 s.att s.day _ hN (by simp))) rfl ?_;rintro _ w24 ⟨r3,hN,-,-⟩;refine W ?_;exact QT r3 hN
 clear hN;rintro r3 w24 hN;generalize hL1:([⟨1,f.entry,f.day⟩,⟨2,i,0⟩]++if bb=true then [⟨3,s.att,s.day⟩] else []:List Rsn)=L1 at *;have hL1l:L1.length≤3:=by rw [← hL1];split<;>simp
 have hsm:=hsv.max;refine W ?_;refine LP (σ:=Nat×Value) (fun p=>[(2,.I (i:Int)),(3,pQ b3),(4,pQ b4),(6,pQ b6),(8,pQ b8),(15,.I y1),(17,.I due),(19,pQ b19),(20,.func (.func 53) #[] #[pQ b19]),(192,sv),(193,.I sp.length),(194,.I p.1)]) (fun p w'=>p.1≤sp.length∧Nte w20 b19 w' (dU q f due 0 (L1++(sp.take p.1).map (fun x=>(⟨4,x.1,x.2⟩:Rsn)))) p.2) (fun p=>sp.length - p.1) (0,r3) ⟨by omega,by simpa using hN⟩ ?_;clear hN;rintro ⟨k,r4⟩ w25 ⟨hk,hN⟩;dsimp only at hk hN ⊢;by_cases hlt:k<sp.length;have hsp25:SlV [] w25 sv sp:=hsv.ext hN.stp (fun b hb=>hb) (by simp);have hst:(sp.take (k+1)).map (fun x=>(⟨4,x.1,x.2⟩:Rsn))=(sp.take k).map (fun x=>(⟨4,x.1,x.2⟩:Rsn))++[⟨4,sp[k].1,sp[k].2⟩]:=by rw [Xi hlt,XI];rfl
 refine QO ?_;refine Z1 Z2 rfl ?_;rintro _ w26 ⟨b22,rfl,hb22,e22,hA⟩;refine SA (us:=Z3.enc sp[k]) e22 ?_;rintro _ w27 ⟨hA2,e22⟩;replace hA:=hA.ow hA2;replace hN:=hN.up hA;refine QO ?_;refine Z1 (Z0h rfl (Js rfl rfl rfl) rfl (Z2G w20 b19 _ _ 4 sp[k].1 sp[k].2 _ hN (by simp only [Xc,Xs,Xt];omega))) rfl ?_;rintro _ w28 ⟨r5,hN,-,-⟩;refine QO ?_;exact QL (k+1,r5) ⟨hlt,by rw [hst,← Xx];exact hN⟩ (by dsimp only;omega);obtain rfl:k=sp.length:=by omega
 rw [Xo] at hN;have hSw:=hS.own hN.stp (fun c hc=>.inr (by simp at hc;omega));have f3:=e3.ext hN.stp (by simp;omega);have f4:=e4.ext hN.stp (by simp;omega);have hfd:=hf.day;refine QO ?_;refine CG (ZjY f.day y1 R.sv c.stys _ (hv.up hSw).ss ho.sty (by omega) (by omega)) ?_;intro uv w26 hu;have hul:(Z9o f.day y1 c.stys).length≤1000:=by
  have:=ho.sty.len;unfold Z9o;split;simp;exact Xg (X0 _ _) this
 generalize hU:Z9o f.day y1 c.stys=us at *;have hus:SlV (b19 :: ob r4) w26 uv us:=hu.slv (fun b hb=>by
  rcases Xb.1 hb with rfl|hb
  exact hN.blk.lt;exact (hN.row.ob_le b hb).2)
 replace hN:=hN.up hu.2;clear f3 f4 hu hSw hsv;have hum:=hus.max;refine QO ?_;generalize hL2:L1++sp.map (fun x=>(⟨4,x.1,x.2⟩:Rsn))=L2 at *;have hL2l:L2.length≤1003:=by rw [← hL2,Xc,Xs];omega
 refine LP (σ:=Nat×Value) (fun p=>[(2,.I (i:Int)),(3,pQ b3),(4,pQ b4),(6,pQ b6),(8,pQ b8),(15,.I y1),(17,.I due),(19,pQ b19),(20,.func (.func 53) #[] #[pQ b19]),(210,uv),(211,.I us.length),(212,.I p.1)]) (fun p w'=>p.1≤us.length∧Nte w20 b19 w' (dU q f due 0 (L2++(us.take p.1).map (fun x=>(⟨5,x.1,x.2⟩:Rsn)))) p.2∧SlV (b19 :: ob p.2) w' uv us) (fun p=>us.length - p.1) (0,r4) ⟨by omega,by simpa using hN,hus⟩ ?_;clear hN hus;rintro ⟨k,r5⟩ w27 ⟨hk,hN,hus⟩;dsimp only at hk hN ⊢;by_cases hlt:k<us.length;have hus27:SlV [] w27 uv us:=hus.ext (Stp.refl [] w27) (by simp) (by simp);have hst:(us.take (k+1)).map (fun x=>(⟨5,x.1,x.2⟩:Rsn))=(us.take k).map (fun x=>(⟨5,x.1,x.2⟩:Rsn))++[⟨5,us[k].1,us[k].2⟩]:=by rw [Xi hlt,XI];rfl
 refine QO ?_;refine Z1 Z2 rfl ?_;rintro _ w28 ⟨b24,rfl,hb24,e24,hA⟩;refine SA (us:=Z3.enc us[k]) e24 ?_;rintro _ w29 ⟨hA2,e24⟩;replace hA:=hA.ow hA2;replace hN:=hN.up hA;refine QO ?_;refine Z1 (Z0h rfl (Js rfl rfl rfl) rfl (Z2G w20 b19 _ _ 5 us[k].1 us[k].2 _ hN (by simp only [Xc,Xs,Xt];omega))) rfl ?_;rintro _ w30 ⟨r6,hN6,hT6,hob6⟩;refine QO ?_;exact QL (k+1,r6) ⟨hlt,by rw [hst,← Xx];exact hN6,(hus.up hA).ext hT6 (fun b hb=>hb) (fun b hb=>by
  rcases Xb.1 hb with rfl|hb
  exact .inl (by simp);exact (hob6 b hb).imp (fun h=>by simp [h]) id)⟩ (by dsimp only;omega)
 obtain rfl:k=us.length:=by omega
 rw [Xo] at hN;generalize hL3:L2++us.map (fun x=>(⟨5,x.1,x.2⟩:Rsn))=L3 at *;have hL3l:L3.length≤2003:=by rw [← hL3,Xc,Xs];omega
 clear hus hum;have hSw:=hS.own hN.stp (fun c hc=>.inr (by simp at hc;omega));have f3:=e3.ext hN.stp (by simp;omega);have f4:=e4.ext hN.stp (by simp;omega);have f8:=e8.ext hN.stp (by simp;omega);refine QO ?_;refine CP hSw (ZdQ c R f q.unl due _ (hv.up hSw).ff (by have:=ho.fl;omega)) fun w28 hT _=>?_
 replace hN:=hN.up hT;clear f3 f4 f8 hT hSw;generalize hA:ZjU c.fcts f q.unl due=a at *;obtain ⟨g,met⟩:=a;refine QO ?_;refine Z1 Z2 rfl ?_;rintro _ w29 ⟨b25,rfl,hb25,e25,hA1⟩;refine SA (us:=Z3.enc g) e25 ?_;rintro _ w30 ⟨hA2,e25⟩;replace hA1:=hA1.ow hA2;have hn25:b25≠b19:=by have:=hN.blk.lt;omega
 replace hN:=hN.up hA1;clear hA1 hA2;refine W ?_;refine JA (σ:=Value) (fun _=>[(6,pQ b6),(19,pQ b19)]) (fun rv w'=>Nte w20 b19 w' (mkD c f i q y1 due sp) rv) ?_ ?_
 · have hmk:mkD c f i q y1 due sp=dU q f due (if met=true then 1 else if due<c.today then 2 else 0) (L3++if met=true then [⟨6,g.entry,g.day⟩] else []):=by
    unfold mkD;rw [hA,hs0,hU];dsimp only;rw [← hL3,← hL2,← hL1,← hbb];simp only [Xm,YaE]
   rw [hmk];cases met with
   | true=>
     refine QO ?_;refine Z5 (Za (u:=.I 1) rfl rfl rfl rfl hN.blk (by simp)) ?_;rintro _ w31 ⟨hT,e19⟩;replace e25:=e25.ext hT (by simpa using hn25);replace hN:=hN.stat (d':=dU q f due 1 L3) hT e19 rfl;refine QO ?_;refine Z1 (Z0h rfl (Js rfl rfl rfl) rfl (Z2G w20 b19 _ _ 6 g.entry g.day _ hN (by dsimp only;omega))) rfl ?_;rintro _ w32 ⟨r7,hN,-,-⟩;refine W ?_;exact QT r7 hN
   | false=>
     have f3:=e3.ext hN.stp (by simp;omega);by_cases hdt:due<c.today;refine QO ?_;refine Z5 (Za (u:=.I 2) rfl rfl rfl rfl hN.blk (by simp)) ?_;rintro _ w31 ⟨hT,e19⟩;replace hN:=hN.stat (d':=dU q f due 2 L3) hT e19 rfl;refine QO ?_;exact QT r5 (by simpa [hdt] using hN);refine QO ?_;exact QT r5 (by simpa [hdt] using hN)
 clear hN e25;rintro rv w31 hN;have f6:=e6.ext hN.stp (by simp;omega);have hone':rv.oneCell'=true:=(hN.row.slv (X:=[]) (by simp)).one;have hk:=hN.blk;refine W ?_;refine SB (us:=dlC (mkD c f i q y1 due sp) rv) (ZaW _ hone') f6 ?_;rintro _ w32 ⟨hT,f6⟩;refine W ?_;refine Zl rfl rfl rfl f6 rfl rfl ?_;have hSw:=hS.own hN.stp (fun c hc=>.inr (by simp at hc;omega));have hob:=fun b hb=>(hN.row.ob_le b hb).1;refine .mk ⟨rv,rfl,?_,hSw.ow hT⟩;exact Z20 (Row.ext (Z20 (X':=[b6]) (Row.lower hN.row (by have:=hS.size;omega))) hT (fun b hb=>⟨hb,fun h=>by have:=hob b h;have:=hN.lt;simp at hb;omega⟩) (fun b hb=>.inl hb))
abbrev DI:=Dln×Nat
structure Yld (fv:Value) (g:Nat) (cap:Array Value) (J:List DI→List Nat→World→Prop) (Pd:List DI→Dln→Nat→Prop):Prop where
 fv:fv=.func (.func g) #[] cap
 lt:∀ pre F W,J pre F W→∀ b∈F,b<W.heap.size
 up:∀ pre F W W',J pre F W→Stp [] W W'→J pre F W'
 call:∀ pre F d dv i W,J pre F W→SlV F W dv d.reas→Pd pre d i→CC g (#[.agg (dlC d dv).toArray,.I (i:Nat)]++cap) W fun r W'=>∃ F',J (pre++[(d,i)]) F' W'∧Stp F W W'∧∀ b∈F',b∈F∨W.heap.size≤b
def Z72 (c:Cas) (f:Fct):Nat→List DI
 | 0=>[]
 | i+1=>Z72 c f i++if (Z24 c f i).2=true then [((Z24 c f i).1,i)] else []
def Z1x (c:Cas) (fs:List Fct):List DI:=fs.flatMap (fun f=>Z72 c f c.ruls.length)
theorem ZgG (c:Cas) (fs:List Fct) (k:Nat) (h:k<fs.length):Z1x c (fs.take (k+1))=Z1x c (fs.take k)++Z72 c fs[k] c.ruls.length:=by
 unfold Z1x;rw [Xi h,Yaj];simp
theorem ZcE {fv:Value} {g:Nat} {fn:Func} {cap:Array Value} {J:List DI→List Nat→World→Prop} {Pd:List DI→Dln→Nat→Prop} [hf:Fun Tryz.prog g fn] (hy:Yld fv g cap J Pd)
 (c:Cas) (R:Z11) (lv:Value) (fs:List Fct) (F0:List Nat) (w) (ho:Z5H c) (hcv:∀ W,Stp F0 w W→Z1H W c R) (hl:∀ W,Stp F0 w W→SlV [] W lv fs) (hfs:∀ f∈fs,Z0B f)
 (hP:∀ k (hk:k<fs.length) (i:Nat),i<c.ruls.length→(Z24 c fs[k] i).2=true→Pd (Z1x c (fs.take k)++Z72 c fs[k] i) (Z24 c fs[k] i).1 i) (h0:J [] F0 w) :
 CC 44 #[.agg (JE c R).toArray,lv,fv] w fun r W=>∃ F,J (Z1x c fs) F W∧Stp F0 w W∧∀ b∈F,b∈F0∨w.heap.size≤b:=by
 have hmax:=(hl w (Stp.refl _ _)).max;have hrl:=ho.rl;have hfv:=hy.fv;subst hfv;refine cW3 37 Tryz.func44 ?_;refine W ?_;refine BX (Stp.refl [] w) fun b3 w1 h3 e3 _ hS=>?_;replace e3:Blk w1 b3 37 (JE c R):=e3;have hl1:=hl w1 hS.mn;refine W ?_
 refine Zu (σ:=Nat×List Nat) (fun q=>[(2,.func (.func g) #[] cap),(3,pQ b3),(11,lv),(12,.I fs.length),(13,.I q.1)])
  (fun q W=>q.1≤fs.length∧J (Z1x c (fs.take q.1)) q.2 W∧Stp F0 w W∧Blk W b3 37 (JE c R)∧b3∉q.2∧∀ b∈q.2,b∈F0∨w.heap.size≤b) (fun q=>fs.length - q.1) (0,F0) ⟨rfl,rfl,rfl,rfl,rfl,trivial⟩
  ⟨by omega,by simpa [Z1x] using hy.up _ _ _ _ h0 hS,hS.mn,e3,fun h=>by have:=hy.lt _ _ _ h0 _ h;omega,fun b hb=>.inl hb⟩ ?_
 clear e3 hl1 hS;rintro ⟨k,F⟩ w2 ⟨hk,hJ,hS,e3,hn3,hfp⟩;dsimp only at hk hJ hn3 hfp ⊢;have hl2:=hl w2 hS;by_cases hlt:k<fs.length;have hfk:=hfs _ (Xd hlt);have hstep:=ZgG c fs k hlt;refine QO ?_;refine Z1 Z2 rfl ?_;rintro _ w3 ⟨b7,rfl,hb7,e7,hA⟩;refine SA (us:=Z3.enc fs[k]) e7 ?_;rintro _ w4 ⟨hA2,e7⟩;replace hA:=hA.ow hA2;have hn7:b7∉F:=fun h=>by have:=hy.lt _ _ _ hJ _ h;omega
 replace e3:=e3.up hA;replace hJ:=hy.up _ _ _ _ hJ hA;replace hS:=hS.trans hA.mn;clear hA hA2 hl2;have hrr:=(hcv w4 hS).rr;refine QO ?_
 refine Zu (σ:=Nat×List Nat) (fun q=>[(2,.func (.func g) #[] cap),(3,pQ b3),(7,pQ b7),(11,lv),(12,.I fs.length),(13,.I k),(19,.I c.ruls.length),(20,.I q.1)])
  (fun q W=>q.1≤c.ruls.length∧J (Z1x c (fs.take k)++Z72 c fs[k] q.1) q.2 W∧Stp F0 w W∧Blk W b3 37 (JE c R)∧Blk W b7 45 (Z3.enc fs[k])∧b3∉q.2∧b7∉q.2∧∀ b∈q.2,b∈F0∨w.heap.size≤b) (fun q=>c.ruls.length - q.1) (0,F) ⟨rfl,rfl,rfl,rfl,rfl,rfl,rfl,rfl,trivial⟩
  ⟨by omega,by simpa [Z72] using hJ,hS,e3,e7,hn3,hn7,hfp⟩ ?_
 clear hJ hS e3 e7 hn3 hn7 hfp hrr;rintro ⟨i,F⟩ w5 ⟨hi,hJ,hS,e3,e7,hn3,hn7,hfp⟩;dsimp only at hi hJ hn3 hn7 hfp ⊢;by_cases hilt:i<c.ruls.length
 · have hcc:=hcv w5 hS
   have hst:Z72 c fs[k] (i+1)=Z72 c fs[k] i++if (Z24 c fs[k] i).2=true then [((Z24 c fs[k] i).1,i)] else []:=rfl
   have hPi:=hP k hlt i hilt;refine QO ?_;refine CM (Js rfl rfl rfl) (ZnL c R fs[k] i w5 hcc ho hfk (by unfold I64;omega)) ?_;rintro _ w6 ⟨rv,rfl,hrow⟩;have hA:=hrow.2;have hsl:SlV F w6 rv (Z24 c fs[k] i).1.reas:=hrow.slv (fun b hb=>hy.lt _ _ _ hJ b hb);replace e3:=e3.up hA;replace e7:=e7.up hA;replace hJ:=hy.up _ _ _ _ hJ hA;replace hS:=hS.trans hA.mn;clear hA hrow hcc;generalize Z24 c fs[k] i=o at *;obtain ⟨d,ok⟩:=o;dsimp only at hst hPi hsl;have hrv:=hsl.one;refine QO ?_;refine Z1 Z2 rfl ?_;rintro _ w7 ⟨b9,rfl,hb9,e9,hA⟩;refine SB (us:=dlC d rv) (ZaW _ hrv) e9 ?_;rintro _ w8 ⟨hA2,e9⟩;replace hA:=hA.ow hA2;have hn9:b9∉F:=fun h=>by have:=hy.lt _ _ _ hJ _ h;omega
   replace e3:=e3.up hA;replace e7:=e7.up hA;replace hJ:=hy.up _ _ _ _ hJ hA;replace hS:=hS.trans hA.mn;replace hsl:=hsl.up hA;clear hA hA2;cases ok with
   | false=>
     refine QO ?_;exact QL (i+1,F) ⟨hilt,by rw [hst,if_neg (by simp),XG];exact hJ,hS,e3,e7,hn3,hn7,hfp⟩ (by dsimp only;omega)
   | true=>
     refine QO ?_;refine Z1 (Z0h rfl (Zh rfl rfl) rfl (hy.call _ F d rv i w8 hJ hsl (hPi rfl))) rfl ?_;rintro _ w9 ⟨F',hJ',hA,hfp'⟩;refine QO ?_;have z3:=e3.lt;have z7:=e7.lt;refine QL (i+1,F') ⟨hilt,by rw [hst,if_pos rfl,← Xx];exact hJ',hS.own hA hfp,e3.ext hA hn3,e7.ext hA hn7,fun h=>?_,fun h=>?_,fun b hb=>?_⟩ (by dsimp only;omega);rcases hfp' _ h with h|h
     exact hn3 h;omega;rcases hfp' _ h with h|h
     exact hn7 h;omega;rcases hfp' _ hb with h|h
     exact hfp _ h;exact .inr (by have:=hS.size;omega)
 obtain rfl:i=c.ruls.length:=by omega
 refine QO ?_;exact QL (k+1,F) ⟨hlt,by rw [hstep];exact hJ,hS,e3,hn3,hfp⟩ (by dsimp only;omega);obtain rfl:k=fs.length:=by omega
 rw [Xo] at hJ;refine RT ?_;exact ⟨F,hJ,hS,hfp⟩
abbrev Z73 (x:Fct):Value:=aG x
theorem ZtO (x y:Fct) (w):(Op.equal 45 (Z73 x) (Z73 y)).run Tryz.prog w=.ok (decide (x=y)) w:=by
 have h1:Program.stoodInHeld Tryz.prog 45=false:=by kernel_rfl
 obtain ⟨i,hi⟩:∃ i,Tryz.prog.info? 3=some i:=by
  have:=(inferInstance:Siz Tryz.prog 3 1).h;cases h:Tryz.prog.info? 3 with
  | none=>rw [h] at this;cases this
  | some i=>exact ⟨i,rfl⟩
 obtain ⟨a,b,c,d,e,f⟩:=x;obtain ⟨a',b',c',d',e',f'⟩:=y;simp [Z73,Z3.enc,Op.equal,Op.maxDepth,run_equalIn_struct,h1,Program.fieldsOf,Tryz.underlying45,Op.eqFields,part,Und.isAgg,Siz.run,JV,run_equalIn_int w _ _ .i64 .i64 _ _ Tryz.underlying3,run_equalIn_string w _ _ _ _ Tryz.underlying9];repeat' split
 all_goals simp_all
theorem ZnM (em:Bool) (x:Fct) (w):(Instr.checkKey em 10000 45 (Z73 x)).run Tryz.prog w=.ok () w:=by kernel_rfl
instance:Zbr Tryz.prog 45 Fct where
 enc:=Z73
 chk:=ZnM
 find:=fun a es l w hk=>by
  have h2:=run_findKey_eq (P:=Tryz.prog) (k:=45) w (by kernel_rfl) (Z73 a) es;have h3:=Z2p Z73 ZtO a w es l 0 hk;simp only [XJ] at h3;exact h2.trans h3
theorem Zf8 {κ:Type} [DecidableEq κ] (l:List κ) (a:κ):Z3t (l.map (fun x=>(x,Value.bool true))) a (.B false)=.B (decide (a∈l)):=by
 unfold Z3t;cases h:(l.map (fun x=>(x,Value.bool true))).find? (fun p=>decide (p.1=a)) with
 | none=>
   rw [Yao] at h;rw [decide_eq_false (fun ha=>absurd (h (a,.B true) (XC.2 ⟨a,ha,rfl⟩)) (by simp))]
 | some p=>
   have h1:=X3 h;have h2:=Ybh h;obtain ⟨x,hx,rfl⟩:=XC.1 h1;have:x=a:=by simpa using h2
   subst this;simp [hx]
def Z0p (c:Cas) (s:List Fct×List Fct) (p:DI):List Fct×List Fct:=
 let f:=Zcs c p.1 p.2
 if f.2=true∧f.1∉s.1 then (s.1++[f.1],s.2++[f.1]) else s
theorem ZgH (c:Cas) (s:List Fct×List Fct) (p:DI):(Z0p c s p).2.length≤s.2.length+1:=by
 unfold Z0p;dsimp only;split<;>simp
theorem Z6p (c:Cas):∀ (l:List DI) (s:List Fct×List Fct),(l.foldl (Z0p c) s).2.length≤s.2.length+l.length
 | [],s=>by simp
 | p :: l, s => by
   have h1:=Z6p c l (Z0p c s p);have h2:=ZgH c s p;rw [X1,Xe];omega
structure FcK where
 c:Cas
 R:Z11
 w0:World
 b1:Nat
 b3:Nat
 r:Nat
 b9:Nat
 known:List Fct
structure Zoy (K:FcK):Prop where
 d1:K.b1≠K.r∧K.b1≠K.b9
 d2:K.b3≠K.r∧K.b3≠K.b9
 d3:K.r≠K.b9
 l1:K.b1<K.w0.heap.size
 l3:K.b3<K.w0.heap.size
 lr:K.r<K.w0.heap.size
 l9:K.b9<K.w0.heap.size
 e1:Blk K.w0 K.b1 37 (JE K.c K.R)
 e3:Blk K.w0 K.b3 108 [.map (some K.r)]
 rr:∀ W,Stp [K.r,K.b9] K.w0 W→SlV [] W K.R.rv K.c.ruls
structure FcJ (K:FcK) (pre:List DI) (F:List Nat) (W:World):Prop where
 ex:∃ nv,F=K.r :: K.b9 :: ob nv∧Blk W K.b9 24 [nv]∧Row [K.r,K.b9] W K.w0.heap.size 45 nv (pre.foldl (Z0p K.c) (K.known,[])).2
 map:JI Z73 W K.r ((pre.foldl (Z0p K.c) (K.known,[])).1.map (fun f=>(f,.B true)))
 stp:Stp [K.r,K.b9] K.w0 W
theorem Ze7 (K:FcK) (hK:Zoy K):Yld (.func (.func 46) #[] #[.pointer (some ⟨K.b1,0,none⟩),.pointer (some ⟨K.b3,0,none⟩),.pointer (some ⟨K.b9,0,none⟩)]) 46 #[.pointer (some ⟨K.b1,0,none⟩),.pointer (some ⟨K.b3,0,none⟩),.pointer (some ⟨K.b9,0,none⟩)] (FcJ K)
 (fun pre d i=>i<K.c.ruls.length∧(-1000000000≤d.due∧d.due≤1000000000∧-1000000000≤d.trig.day∧d.trig.day≤1000000000)∧pre.length≤300000000000):=by
 obtain ⟨⟨d1,d1'⟩,⟨d2,d2'⟩,d3,l1,l3,lr,l9,E1,E3,hrr⟩:=hK;refine ⟨rfl,?_,?_,?_⟩;rintro pre F Y ⟨⟨nv,rfl,e9,hrow⟩,hm,hS⟩ b hb;have:=hS.size;simp only [Xb] at hb;rcases hb with rfl|rfl|hb
 omega;omega;exact (hrow.ob_le b hb).2;rintro pre F Y Y' ⟨⟨nv,rfl,e9,hrow⟩,hm,hS⟩ hT;exact ⟨⟨nv,rfl,e9.up hT,hrow.up hT⟩,hm.up hT,hS.trans hT.mn⟩
 · rintro pre F d dv i Y ⟨⟨nv,rfl,e9,hrow⟩,hm,hS⟩ hsl ⟨hi,hb,hpl⟩
   have hfl:=Z6p K.c pre (K.known,[]);simp only [Xf,XJ] at hfl;have hst:∀ p:DI,(pre++[p]).foldl (Z0p K.c) (K.known,[])=Z0p K.c (pre.foldl (Z0p K.c) (K.known,[])) p:=fun p=>by simp
   have hst:=hst (d,i);have hrv:=hsl.one;have hW:=hS.size;have hor:=fun b hb=>(hrow.ob_le b hb)
   generalize pre.foldl (Z0p K.c) (K.known,[])=s at *;refine cW5 29 Tryz.func46 ?_;refine W ?_;refine BX (Stp.refl [] Y) fun b5 w1 h5 e5 hT _=>?_;replace e5:Blk w1 b5 56 (dlC d dv):=e5;have e1:=E1.ext (hS.trans hT.mn) (by simp [d1,d1']);have e3:=E3.ext (hS.trans hT.mn) (by simp [d2,d2']);have hr1:=hrr w1 (hS.trans hT.mn);replace e9:=e9.up hT;replace hrow:=hrow.up hT;replace hm:=hm.up hT;have hsl1:SlV [] w1 dv d.reas:=hsl.ext hT (by simp) (by simp);have hT0:=hT;clear hT;refine W ?_;refine CP (Stp.refl [] w1) (Zct K.c K.R d dv i w1 hr1 hsl1 hi hb) fun w2 hT _=>?_;have g2:Y.heap.size≤w2.heap.size:=Xg hT0.size hT.size;generalize hfo:Zcs K.c d i=fo at *;obtain ⟨f,ok⟩:=fo;refine W ?_;refine Z1 Z2 rfl ?_;rintro _ w3 ⟨b7,rfl,hb7,e7,hT2⟩;refine SA (us:=Z3.enc f) e7 ?_;rintro _ w4 ⟨hT3,e7⟩;replace hT:=hT.trans (hT2.ow hT3);clear hT2 hT3;replace e1:=e1.up hT;replace e3:=e3.up hT;replace e9:=e9.up hT;replace hrow:=hrow.up hT;replace hm:=hm.up hT;replace hT0:=hT0.trans hT;clear hT e5 hr1 hsl1;have g7:Y.heap.size≤b7:=by omega
   have hstf:Z0p K.c s (d,i)=if ok=true∧f∉s.1 then (s.1++[f],s.2++[f]) else s:=by unfold Z0p;rw [hfo]
   rw [hstf] at hst;clear hstf;have skip:(¬ (ok=true∧f∉s.1))→∀ w',Stp [] w4 w'→∃ F',FcJ K (pre++[(d,i)]) F' w'∧Stp (K.r :: K.b9 :: ob nv) Y w'∧∀ b∈F',b∈K.r :: K.b9 :: ob nv∨Y.heap.size≤b:=fun hn w' hT=>by
    rw [if_neg hn] at hst;exact ⟨_,⟨⟨nv,rfl,e9.up hT,by rw [hst];exact hrow.up hT⟩,by rw [hst];exact hm.up hT,hS.trans ((hT0.trans hT).mn)⟩,(hT0.trans hT).mn,fun b hb=>.inl hb⟩
   cases ok with
   | false=>
     refine QO ?_;refine WR ?_;exact .mk (skip (by simp) _ (Stp.refl _ _))
   | true=>
     refine QO ?_;refine Z4 (Z1K (a:=f) rfl rfl hm) rfl ?_;rw [Zf8];by_cases hin:f∈s.1;rw [decide_eq_true hin];refine QO ?_;refine WR ?_;exact .mk (skip (by simp [hin]) _ (Stp.refl _ _));rw [if_pos ⟨rfl,hin⟩] at hst;rw [decide_eq_false hin];clear skip;refine QO ?_;refine Z5 (Z1J (a:=f) rfl rfl rfl hm (fun p hp=>by
      obtain ⟨x,hx,rfl⟩:=XC.1 hp;exact fun h=>hin (h ▸ hx))) ?_
     rintro _ w5 ⟨hm5,hT5⟩;have z9:K.b9<w4.heap.size:=e9.lt;replace e9:=e9.ext hT5 (by simp;omega);replace e7:=e7.ext hT5 (by simp;omega);replace hrow:=hrow.ext (X':=[K.r,K.b9]) hT5 (fun b hb=>⟨by simp at hb;simp [hb],fun h=>by simp at hb;have:=(hor b h).1;omega⟩) (fun b hb=>.inl hb);refine QO ?_;refine APG (X:=[K.r,K.b9]) (base:=K.w0.heap.size) f hrow (fun b hb=>by have:=hT5.size;have:=hT0.size;simp at hb;omega) (by have:=hT5.size;have:=hT0.size;omega) rfl (by omega) (by simp only [maxLen];omega) fun v1 nv' w6 hr6 hT6 hob=>?_
     replace e9:=e9.ext hT6 (fun h=>by have:=(hor _ h).1;omega);focus repeat'(first|refine W1 ?_|omega|refine VG ?_ ?_<;>intro hg|refine VC ?_ ?_<;>intro hc)
     have hsl6:SlV [K.r,K.b9] w6 nv' (s.2++[f]):=hr6.slv (fun b hb=>by simp at hb;omega);refine Z5 (Za (u:=nv') rfl rfl hsl6.cells hsl6.one e9 (by simp)) ?_;rintro _ w7 ⟨hT7,e9⟩;refine QO ?_;refine WR ?_;have hor6:=fun b hb=>hr6.ob_le b hb;have hT57:Stp (K.r :: K.b9 :: ob nv) w4 w7:=(hT5.mn.trans (hT6.mono (fun b hb=>by simp [hb]))).trans hT7.mn;refine .mk ⟨K.r :: K.b9 :: ob nv',⟨⟨nv',rfl,e9,?_⟩,?_,?_⟩,hT0.mn.trans hT57,fun b hb=>?_⟩;rw [hst];exact hr6.ext hT7 (fun b hb=>⟨by simp at hb;simp [hb],fun h=>by simp at hb;have:=(hor6 b h).1;omega⟩) (fun b hb=>.inl hb);rw [hst];have hmz:JI Z73 w7 K.r (s.1.map (fun f=>(f,Value.bool true))++[(f,Value.bool true)]):=(hm5.ext hT6 (fun h=>by have:=(hor _ h).1;omega)).ext hT7 (by simp;omega);rw [XI];exact hmz;exact (hS.trans hT0.mn).own hT57 (fun b hb=>by
      simp only [Xb] at hb;rcases hb with rfl|rfl|hb
      exact .inl (by simp);exact .inl (by simp);exact .inr (hor b hb).1)
     simp only [Xb] at hb ⊢;rcases hb with rfl|rfl|hb
     exact .inl (.inl rfl);exact .inl (.inr (.inl rfl));rcases hob b hb with h|h
     exact .inl (.inr (.inr h));exact .inr (by have:=hT5.size;have:=hT0.size;omega)
open Go Go.Eng Go.RowKit Go.Shelf Go.Sort
structure Z4I {α:Type} (cf:α→α→Int):Prop where
 anti:∀ x y,cf x y<0↔0<cf y x
 trans:∀ x y z,cf x y≤0→cf y z≤0→cf x z≤0
theorem Z4I.swo {α:Type} {cf:α→α→Int} (h:Z4I cf):SWO (ltOf cf):=by
 have e:∀ x y,ltOf cf x y=decide (cf x y<0):=fun _ _=>rfl;refine ⟨fun x=>?_,fun x y z h1 h2=>?_,fun x y z h1 h2=>?_⟩;have:=h.anti x x;rw [e];simp;omega;rw [e] at *;simp only [decide_eq_true_eq] at *;have a1:=h.anti x y;have a2:=h.anti x z;by_cases hz:cf x z<0;exact hz;have:=h.trans y z x (by omega) (by omega);omega;rw [e] at *;simp only [decide_eq_false_iff_not] at *;have a1:=h.anti x y;have a2:=h.anti y z;have a3:=h.anti x z;have:=h.trans z y x (by omega) (by omega);omega
theorem Z2I {α:Type} (f:α→Int):Z4I (fun x y:α=>cmI (f x) (f y)):=by
 have key:∀ a b:Int,(cmI a b<0↔a<b)∧(0<cmI a b↔b<a):=by
  intro a b;unfold cmI;by_cases h1:a<b;simp [h1];omega;by_cases h2:b<a;simp [h1,h2];simp [h1,h2]
 refine ⟨fun x y=>?_,fun x y z h1 h2=>?_⟩;rw [(key _ _).1,(key _ _).2];have a1:=key (f x) (f y);have a2:=key (f y) (f z);have a3:=key (f x) (f z)
 try dsimp only at *
 by_cases h:0<cmI (f x) (f z);have:=a3.2.1 h;have:¬ f y<f x:=fun hh=>by have:=a1.2.2 hh;omega
 have:¬ f z<f y:=fun hh=>by have:=a2.2.2 hh;omega
 omega;omega
theorem Z6q:∀ a:Str,ltS a a=false
 | []=>rfl
 | x :: a => by
   show (decide (x<x) || (x == x && ltS a a))=false;rw [Z6q a];simp
theorem ZaX:∀ a b:Str,ltS a b=true∨a=b∨ltS b a=true
 | [],[]=>.inr (.inl rfl)
 | [],_ :: _=>.inl rfl
 | _ :: _,[]=>.inr (.inr rfl)
 | x :: a, y :: b => by
   have e1:ltS (x :: a) (y :: b)=(decide (x<y) || (x == y && ltS a b)):=rfl;have e2:ltS (y :: b) (x :: a)=(decide (y<x) || (y == x && ltS b a)):=rfl;rw [e1,e2];rcases Nat.lt_trichotomy x.toNat y.toNat with h|h|h
   exact .inl (by simp [UInt8.lt_iff_toNat_lt,h]);obtain rfl:x=y:=UInt8.toNat_inj.1 h;rcases ZaX a b with h|h|h
   exact .inl (by simp [h]);exact .inr (.inl (by rw [h]));exact .inr (.inr (by simp [h]));exact .inr (.inr (by simp [UInt8.lt_iff_toNat_lt,h]))
theorem Z8i:∀ a b c:Str,ltS a b=true→ltS b c=true→ltS a c=true
 | [],[],_,h,_=>by cases h
 | [],_ :: _,[],_,h=>by cases h
 | [],_ :: _,_ :: _,_,_=>rfl
 | _ :: _,[],_,h,_=>by cases h
 | _ :: _,_ :: _,[],_,h=>by cases h
 | x :: a, y :: b, z :: c, h1, h2 => by
   have e1:ltS (x :: a) (y :: b)=(decide (x<y) || (x == y && ltS a b)):=rfl;have e2:ltS (y :: b) (z :: c)=(decide (y<z) || (y == z && ltS b c)):=rfl;have e3:ltS (x :: a) (z :: c)=(decide (x<z) || (x == z && ltS a c)):=rfl;rw [e1] at h1;rw [e2] at h2;rw [e3];simp only [YaE,decide_eq_true_eq,Xm,beq_iff_eq,UInt8.lt_iff_toNat_lt] at *;rcases h1 with h1|⟨rfl,h1⟩
   rcases h2 with h2|⟨rfl,h2⟩
   exact .inl (by omega);exact .inl h1;rcases h2 with h2|⟨rfl,h2⟩
   exact .inl h2;exact .inr ⟨rfl,Z8i a b c h1 h2⟩
theorem Z25 (a b:Str):(Z3S a b<0↔ltS a b=true)∧(0<Z3S a b↔ltS b a=true):=by
 unfold Z3S;cases h1:ltS a b with
 | true=>
   have h2:ltS b a=false:=by
    cases h:ltS b a with
    | false=>rfl
    | true=>have:=Z8i a b a h1 h;rw [Z6q] at this;cases this
   simp [h2]
 | false=>
   rcases ZaX a b with h|rfl|h
   rw [h1] at h;cases h;simp [h1];have hne:a≠b:=fun e=>by subst e;rw [Z6q] at h;cases h
   simp [h,hne]
theorem ZgI {α:Type} (f:α→Str):Z4I (fun x y:α=>Z3S (f x) (f y)):=by
 refine ⟨fun x y=>?_,fun x y z h1 h2=>?_⟩;rw [(Z25 _ _).1,(Z25 _ _).2]
 try dsimp only at *
 by_cases h:0<Z3S (f x) (f z)
 · exfalso
   have g:=(Z25 _ _).2.1 h;have n1:ltS (f y) (f x)=false:=by
    cases hh:ltS (f y) (f x) with
    | false=>rfl
    | true=>have:=(Z25 (f x) (f y)).2.2 hh;omega
   have n2:ltS (f z) (f y)=false:=by
    cases hh:ltS (f z) (f y) with
    | false=>rfl
    | true=>have:=(Z25 (f y) (f z)).2.2 hh;omega
   rcases ZaX (f x) (f y) with a|a|a
   have:=Z8i _ _ _ g a;rw [n2] at this;cases this;rw [a] at g;rw [n2] at g;cases g;rw [n1] at a;cases a
 omega
def lx (a b:Int):Int:=if a≠0 then a else b
theorem Z4I.lx {α:Type} {c1 c2:α→α→Int} (h1:Z4I c1) (h2:Z4I c2):Z4I (fun x y=>lx (c1 x y) (c2 x y)):=by
 refine ⟨fun x y=>?_,fun x y z a b=>?_⟩;have:=h1.anti x y;have:=h1.anti y x;have:=h2.anti x y;unfold YtipfkbkkndacjaaGreatDoor.lx
 try dsimp only
 split<;>split<;>omega
 unfold YtipfkbkkndacjaaGreatDoor.lx at *
 try dsimp only at *
 have a1:=h1.anti x y;have a1':=h1.anti y x;have a2:=h1.anti y z;have a2':=h1.anti z y;have a3:=h1.anti x z;have a3':=h1.anti z x;have t1:=h1.trans x y z;have t2:=h1.trans y z x;have t3:=h1.trans z x y;have t4:=h2.trans x y z;split at a<;>split at b<;>split<;>omega
theorem ZkB (a:Int) (l:List Int):orL (a :: l)=lx a (orL l):=by
 unfold orL lx;by_cases h:a=0<;>simp [h]
theorem Zf9 (f g:Fct):Z4x f g=lx (cmI f.day g.day) (lx (cmI f.entry g.entry) (lx (Z3S f.kind g.kind) (lx (cmI f.by_ g.by_) (lx (cmI f.to_ g.to_) (cmI f.amt g.amt))))):=by
 unfold Z4x;simp only [ZkB];congr 5;unfold lx orL;by_cases h:cmI f.amt g.amt=0<;>simp [h]
theorem Z4r:Z4I Z4x:=by
 have:Z4x=fun f g:Fct=>lx (cmI f.day g.day) (lx (cmI f.entry g.entry) (lx (Z3S f.kind g.kind) (lx (cmI f.by_ g.by_) (lx (cmI f.to_ g.to_) (cmI f.amt g.amt))))):=by
  funext f g;exact Zf9 f g
 rw [this];exact (Z2I _).lx ((Z2I _).lx ((ZgI _).lx ((Z2I _).lx ((Z2I _).lx (Z2I _)))))
theorem Z5I {a b:Int} (h:lx a b=0):a=0∧b=0:=by
 unfold lx at h;split at h<;>omega
theorem Z3Z {a b:Int} (h:cmI a b=0):a=b:=by
 unfold cmI at h;split at h;omega;split at h<;>omega
theorem ZgJ {a b:Str} (h:Z3S a b=0):a=b:=by
 rcases ZaX a b with g|g|g
 have:=(Z25 a b).1.2 g;omega;exact g;have:=(Z25 a b).2.2 g;omega
theorem ZgK {f g:Fct} (h:Z4x f g=0):f=g:=by
 rw [Zf9] at h;obtain ⟨h1,h⟩:=Z5I h;obtain ⟨h2,h⟩:=Z5I h;obtain ⟨h3,h⟩:=Z5I h;obtain ⟨h4,h⟩:=Z5I h;obtain ⟨h5,h6⟩:=Z5I h;obtain ⟨a,b,c,d,e,k⟩:=f;obtain ⟨a',b',c',d',e',k'⟩:=g
 try dsimp only at *
 rw [Z3Z h1,Z3Z h2,ZgJ h3,Z3Z h4,Z3Z h5,Z3Z h6]
theorem Z9y {α:Type} {cf:α→α→Int} (h:Z4I cf) (h0:∀ x y,cf x y=0→x=y):∀ {l m:List α},l.Perm m→l.Pairwise (fun a b=>¬ cf b a<0)→m.Pairwise (fun a b=>¬ cf b a<0)→l=m
 | [],m,hp,_,_=>(List.nil_perm.1 hp).symm
 | x :: l,[],hp,_,_=>by have:=hp.length_eq;simp at this
 | x :: l, y :: m, hp, h1, h2 => by
   rw [XZ] at h1 h2;have hxy:x=y:=by
    rcases Xb.1 (hp.mem_iff.1 (YaO)) with e|e
    exact e;rcases Xb.1 (hp.symm.mem_iff.1 (YaO)) with e'|e'
    exact e'.symm;have a1:=h2.1 x e;have a2:=h1.1 y e';have b1:=h.anti x y;have b2:=h.anti y x;exact h0 x y (by omega)
   subst hxy;rw [Z9y h h0 hp.cons_inv h1.2 h2.2]
def Ze8 (s:Fct):List Fct→List Fct
 | []=>[s]
 | x :: l=>if Z4x s x≤0 then s :: x :: l else x :: Ze8 s l
def Z5J (l:List Fct):List Fct:=l.foldr Ze8 []
theorem Z6r (s:Fct):∀ l,(Ze8 s l).Perm (s :: l)
 | []=>YaB _
 | x :: l => by
   rw [Ze8];split;exact YaB _
   · exact ((Z6r s l).cons x).trans (List.Perm.swap _ _ _)
theorem Z6S (s:Fct):∀ l:List Fct,l.Pairwise (fun a b=>¬ Z4x b a<0)→(Ze8 s l).Pairwise (fun a b=>¬ Z4x b a<0)
 | [],_=>by simp [Ze8]
 | x :: l, h => by
   rw [Ze8];rw [XZ] at h;split;rename_i hlt;refine XZ.2 ⟨fun y hy=>?_,XZ.2 h⟩;rcases Xb.1 hy with rfl|hy
   have:=Z4r.anti y s;omega;have a1:=h.1 y hy;have a2:=Z4r.anti y x;have a3:=Z4r.anti y s;have:=Z4r.trans s x y hlt (by omega);omega;rename_i hlt;refine XZ.2 ⟨fun y hy=>?_,Z6S s l h.2⟩;rcases Xb.1 ((Z6r s l).mem_iff.1 hy) with rfl|hy
   omega;exact h.1 y hy
theorem Z0f:∀ l,(Z5J l).Perm l
 | []=>YaB _
 | x :: l=>(Z6r x _).trans ((Z0f l).cons x)
theorem Z5K:∀ l,(Z5J l).Pairwise (fun a b=>¬ Z4x b a<0)
 | []=>List.Pairwise.nil
 | x :: l=>Z6S x _ (Z5K l)
theorem ZkC {l m:List Fct} (hp:m.Perm l) (hs:m.Pairwise (fun a b=>¬ Z4x b a<0)):m=Z5J l:=Z9y Z4r (fun _ _=>ZgK) (hp.trans (Z0f l).symm) hs (Z5K l)
theorem Z6T {X:List Nat} {base:Nat} {v:Value} {zs:List Fct} {w} (h:Row X w base 45 v zs) (hsz:zs.length≤400000000000) :
 CC 42 #[v,.func (.func 43) #[] #[]] w fun r w'=>r=.tuple #[]∧Row X w' base 45 v (Z5J zs)∧Stp (ob v) w w':=by
 refine Calls.ret (Z9m (β:=Fct) (by decide) Tryz.sortFct Tryz.isAgg45 Tryz.sizeOf45 Z4x Z4r.swo 43 (fun x y w=>ZwX x y w) h (by omega)) ?_;rintro _ w' ⟨rfl,zs',hp,hs,hr,hS⟩;rw [← ZkC hp (Yal.2 fun i j hi hj hij=>hs i j hi hj hij)];exact ⟨rfl,hr,hS⟩
def ZQ (c:Cas):Nat→List Fct×List Fct×List Fct
 | 0=>(c.fcts,c.fcts,[])
 | k+1=>let s:=ZQ c k;let r:=(Z1x c s.2.1).foldl (Z0p c) (s.1,[]);(r.1,r.2,s.2.2++r.2)
def Z0F (c:Cas):List Fct:=Z5J (ZQ c 16).2.2
theorem Z6U (c:Cas) {k:Nat} (h:(ZQ c k).2.1=[]):∀ j,(ZQ c (k+j)).2.2=(ZQ c k).2.2∧(ZQ c (k+j)).2.1=[]
 | 0=>⟨rfl,h⟩
 | j + 1 => by
   obtain ⟨h1,h2⟩:=Z6U c h j;rw [← Yav,ZQ];dsimp only;rw [h2];simp [Z1x,h1]
theorem Z5L (c:Cas) (f:Fct):∀ i,(Z72 c f i).length≤i
 | 0=>Xn _
 | i + 1 => by
   rw [Z72,Xc];have:=Z5L c f i;split<;>simp<;>omega
theorem Z5M (c:Cas):∀ fs:List Fct,(Z1x c fs).length≤fs.length * c.ruls.length
 | []=>by simp [Z1x]
 | f :: fs => by
   have h1:=Z5M c fs;have h2:=Z5L c f c.ruls.length;unfold Z1x at h1 ⊢;rw [YaS,Xc,Xe,X8];omega
theorem ZcF {c:Cas} {f:Fct} {p:DI}:∀ i,p∈Z72 c f i→p.2<i∧p.1=(Z24 c f p.2).1∧(Z24 c f p.2).2=true
 | 0,h=>by cases h
 | i + 1, h => by
   rw [Z72] at h;rcases Xh.1 h with h|h
   obtain ⟨h1,h2⟩:=ZcF i h;exact ⟨by omega,h2⟩;split at h;rename_i ht;simp only [Xl] at h;subst h;exact ⟨by dsimp only;omega,rfl,ht⟩;cases h
theorem Z8j {c:Cas} {fs:List Fct} {p:DI} (h:p∈Z1x c fs):∃ f∈fs,p.2<c.ruls.length∧p.1=(Z24 c f p.2).1∧(Z24 c f p.2).2=true:=by
 unfold Z1x at h;obtain ⟨f,hf,hp⟩:=YbA.1 h;exact ⟨f,hf,ZcF _ hp⟩
theorem Z7e {c:Cas} {f:Fct} {r:Int} (ho:Z5H c) (hf:Z0B f) (h:(Z24 c f r).2=true):(Z24 c f r).1.trig=f∧0≤(Z24 c f r).1.due∧(Z24 c f r).1.due≤3652058:=by
 have hev:=ZkA ho hf;have no:∀ {P:Prop},(noD.2=true)→P:=fun h=>by cases h
 unfold Z24 at h ⊢;by_cases hr:¬ (0≤r∧r≤(c.ruls.length:Int) - 1);rw [if_pos hr] at h;exact no h;rw [if_neg hr] at h ⊢;have hq:c.ruls.getD r.toNat crZ∈c.ruls:=by
  have hl:r.toNat<c.ruls.length:=by omega
  simp [hl]
 have hvd:=ho.due _ hq;generalize c.ruls.getD r.toNat crZ=q at *;dsimp only at h ⊢;have hyv:=Z8f (o:=opn c) hev hvd;generalize JK (opn c) (evL c f) q.due=y at *;generalize JK (opn c) (evL c f) q.cnd=x at *;split at h;exact no h;split at h;exact no h;split at h;exact no h;rename_i g1 g2 g3;rw [if_neg g1,if_neg g2,if_neg g3];have hy:0≤y.1∧y.1≤3652058:=by
  rcases hyv (Decidable.not_not.1 g3) with h|h|h
  omega;omega;exact h.2
 generalize ZaG f.day y.1 c.stys=z at *;split at h;exact no h;rename_i g4;rw [if_neg g4];split at h;rename_i g5;rw [if_pos g5];exact ⟨rfl,hy⟩;rename_i g5;rw [if_neg g5];split at h;exact no h;rename_i g6;rw [if_neg g6];have:=ZP.1 (Z3R (Decidable.not_not.1 g6)).1;exact ⟨rfl,this⟩
theorem ZtP {c:Cas} {d:Dln} {i:Nat} (ho:Z5H c) (hf:Z0B d.trig) (h:(Zcs c d i).2=true):Z0B (Zcs c d i).1:=by
 have h1:=hf.day;have h2:=ho.today;unfold Zcs at h;simp only [decide_eq_true_eq] at h;refine ⟨?_,hf.to_,hf.by_,hf.amt⟩;show 0≤max d.due d.trig.day+1∧max d.due d.trig.day+1≤3652058;omega
theorem ZcG {c:Cas} (ho:Z5H c):∀ (l:List DI) (s:List Fct×List Fct),(∀ p∈l,Z0B p.1.trig)→(∀ f∈s.2,Z0B f)→∀ f∈(l.foldl (Z0p c) s).2,Z0B f
 | [],s,_,hs=>hs
 | p :: l, s, hl, hs => by
   rw [X1];refine ZcG ho l _ (fun q hq=>hl q (by simp [hq])) ?_;unfold Z0p;dsimp only;split;rename_i hc;intro f hf;rcases Xh.1 hf with h|h
   exact hs f h;simp only [Xl] at h;subst h;exact ZtP ho (hl p (by simp)) hc.1;exact hs
theorem ZkD {c:Cas} (ho:Z5H c) {fs:List Fct} (hfs:∀ f∈fs,Z0B f) (known:List Fct):∀ f∈((Z1x c fs).foldl (Z0p c) (known,[])).2,Z0B f:=
 ZcG ho _ _ (fun p hp=>by
  obtain ⟨f,hf,_,he,ht⟩:=Z8j hp;rw [he,(Z7e ho (hfs f hf) ht).1];exact hfs f hf) (by simp)
theorem Z9z (c:Cas) (hr:c.ruls.length≤4) (fs known:List Fct):((Z1x c fs).foldl (Z0p c) (known,[])).2.length≤fs.length * 4:=by
 have h1:=Z6p c (Z1x c fs) (known,[]);have h2:=Z5M c fs;have h3:=Nat.mul_le_mul_left fs.length hr;simp only [Xf] at h1;omega
structure Z3c (c:Cas):Prop where
 ok:Z5H c
 fl:c.fcts.length≤16
 rl:c.ruls.length≤4
 fo:∀ f∈c.fcts,Z0B f
 nd:c.fcts.Nodup
theorem Z8k {c:Cas} (h:Z3c c):∀ k,(ZQ c k).2.1.length≤16 * 4 ^ k∧3 * (ZQ c k).2.2.length≤16 * 4 ^ (k+1)
 | 0=>⟨by simpa [ZQ] using h.fl,by simp [ZQ]⟩
 | k + 1 => by
   obtain ⟨h1,h2⟩:=Z8k h k;have h3:=Z9z c h.rl (ZQ c k).2.1 (ZQ c k).1;rw [ZQ];dsimp only;rw [Xc];have e1:4 ^ (k+1)=4 ^ k * 4:=Ybl 4 k;have e2:4 ^ (k+2)=4 ^ (k+1) * 4:=Ybl 4 (k+1);constructor<;>omega
theorem Z8l {c:Cas} (h:Z3c c) {k:Nat} (hk:k≤16):(ZQ c k).2.1.length≤70000000000∧(ZQ c k).2.2.length≤92000000000:=by
 obtain ⟨h1,h2⟩:=Z8k h k;have e1:4 ^ k≤4 ^ 16:=Nat.pow_le_pow_right (by decide) hk;have e2:4 ^ (k+1)≤4 ^ 17:=Nat.pow_le_pow_right (by decide) (by omega);have n1:4 ^ 16=4294967296:=by decide
 have n2:4 ^ 17=17179869184:=by decide
 constructor<;>omega
theorem Z3d {c:Cas} (h:Z3c c):∀ k,(∀ f∈(ZQ c k).2.1,Z0B f)∧(∀ f∈(ZQ c k).2.2,Z0B f)
 | 0=>⟨h.fo,by simp [ZQ]⟩
 | k + 1 => by
   obtain ⟨h1,h2⟩:=Z3d h k;have h3:=ZkD h.ok h1 (ZQ c k).1;rw [ZQ];dsimp only;exact ⟨h3,fun f hf=>(Xh.1 hf).elim (h2 f) (h3 f)⟩
end Go.Proofs.YtipfkbkkndacjaaGreatDoor
