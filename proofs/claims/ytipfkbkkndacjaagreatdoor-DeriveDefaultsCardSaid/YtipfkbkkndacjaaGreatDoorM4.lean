/-
Contracts and plain laws, merged out of own texts.
-/
import Derived.Test.YtipfkbkkndacjaaGreatDoorM3
import Derived.Test.YtipfkbkkndacjaaGreatDoorRows
import Derived.Test.YtipfkbkkndacjaaGreatDoorTie
import Derived.Test.YtipfkbkkndacjaaGreatDoorCards
import Derived.Shelf.SlSortCmp.NoneTotal
import Derived.Laws.CopyRow
import Derived.Test.YtipfkbkkndacjaaGreatDoorShl3
import Derived.Recover
import Derived.RangeFuncLeaves
import Derived.RangeFuncCalls
import Derived.RangeFuncSeq
import Derived.OrdersIn
set_option linter.unusedVariables false
set_option linter.unusedSimpArgs false
set_option maxHeartbeats 4000000
set_option maxRecDepth 20000
namespace Go.Proofs.YtipfkbkkndacjaaGreatDoor
open Go Go.Eng Go.RowKit
theorem Zkg (p q:Option Addr) (l m c d:Nat) (w):(Instr.buildSlice 312 2 #[(0,.slice p l c),(1,.slice q m d)]).run Tryz.prog w=.ok (.slice (some ⟨w.heap.size,0,none⟩) 2 2) (w.alloc (.cells #[.slice p l c,.slice q m d] 23)):=by kernel_rfl
theorem Vf.shps {w} {bv base:Nat} {cv hv sv:Value} {code:List Ins} {st:List (Option Shp)} (h:Vf w bv base cv hv sv code st):SlV (bv :: ob sv) w hv (Z15 st):=
 h.shp.slvX (λb hb=>by
  rcases Xb.1 hb with rfl|hb
  exact h.nh;exact λdF=>h.apart b dF hb)
theorem Vf.bounds {w} {bv base:Nat} {cv hv sv:Value} {code:List Ins} {st:List (Option Shp)} (h:Vf w bv base cv hv sv code st):∀ b∈bv :: (ob hv++ob sv),b<w.heap.size:=λb hb=>by
 have:=h.blk.lt;simp only [Xb,Xg] at hb;rcases hb with rfl|hb|hb
 omega;exact (h.shp.ob_le b hb).2;exact (h.seen.ob_le b hb).2
theorem Zno (x:Ins):(Zz x).1.length<=2/\(Zz x).2.1.length<=2/\(Zz x).2.2.1.length<=1:=by
 obtain ⟨op,n⟩:=x;by_cases hr:1<=op/\op<=24;have hn:op=1\/op=2\/op=3\/op=4\/op=5\/op=6\/op=7\/op=8\/op=9\/op=10\/op=11\/op=12\/op=13\/op=14\/op=15\/op=16\/op=17\/op=18\/op=19\/op=20\/op=21\/op=22\/op=23\/op=24:=by omega
 rcases hn with rfl|rfl|rfl|rfl|rfl|rfl|rfl|rfl|rfl|rfl|rfl|rfl|rfl|rfl|rfl|rfl|rfl|rfl|rfl|rfl|rfl|rfl|rfl|rfl<;>simp [Zz]
 rw [Zke hr];simp
theorem Zkh (bv base:Nat) (cv hv sv:Value) (code:List Ins) (st:List (Option Shp)) (i:Nat) (w) (h:Vf w bv base cv hv sv code st) (hi:i<code.length) (hn:code.length<=1000) (gG:∀ s,some s∈st->s.length<=16) (fI:opP code[i].op) :
 CC 250 #[pQ bv,.I (i:Int)] w λr w'=>Stp (bv :: (ob hv++ob sv)) w w'/\r=.B (JN st i code[i]).isSome/\∀ st',JN st i code[i]=some st'->Vf w' bv base cv hv sv code st':=by
 have ai:=h.len;have bG:i<(Z15 st).length:=by simp [Z15];omega
 have dg:i<(JY st).length:=by simp [JY];omega
 have nD:i<st.length:=by omega
 refine cW2 140 Tryz.func250 ?_;refine W ?_;refine Zgs 17 ([w.heap.size]) [] [(0,0),(1,0),(2,0),(3,1),(4,0),(5,0),(6,1),(7,0),(8,0),(9,0),(10,1),(11,0),(12,0),(13,1),(14,2),(15,2),(16,0)] rfl mixed (by kernel_rfl) (by kernel_rfl) (by kernel_rfl) (λw1 ae fW=>?_);replace h:=h.up ae;have ko:=h.bounds;have hX:∀ b∈bv :: (ob hv++ob sv),b∉[w.heap.size]:=λb hb dF=>by
  have:=ko b hb;simp at dF;omega
 obtain ⟨cbl,iJ,bC⟩:Blk w1 bv 318 [cv,hv,sv]/\SlV [w.heap.size] w1 cv code/\SlV [w.heap.size] w1 hv (Z15 st):=⟨h.blk,h.cod.ext (Stp.refl [] _) (by simp) (λb hb=>.inr (by simp at hb;omega)),h.shps.ext (Stp.refl [] _) (by simp) (λb hb=>.inr (by simp at hb;omega))⟩
 have nb:bv∉[w.heap.size]:=hX bv (by simp);obtain ⟨u,aq,fH⟩:=bC.sub bG;refine D ?_;refine ZP rfl trivial (λw' aN=>JC rfl rfl (Z2q bC bG aN aq)) rfl ?_;refine D ?_;refine Za rfl trivial Zgt (λ_ _ h=>h.2.2.mn) rfl ?_;rintro _ w2 ⟨rfl,ac,ah⟩;rw [fW] at ac ⊢;refine Z0B rfl trivial (Zm (us:=Z3.enc code[i]) rfl rfl rfl rfl (Z3.one _) ac rfl) (λ_ _ h=>h.1) ?_;rintro _ w3 ⟨am,aK⟩;have cS:Stp [] w1 w3:=ah.ow am;replace h:=h.up cS;replace hS:=ae.trans cS;replace iJ:=h.cod;replace cbl:=h.blk;replace bC:=h.shps;have fc:=h.seen.slv0;replace ko:=h.bounds;have nE:SlV [w.heap.size] w3 u (Z15 st)[i].l:=fH.ext (ah.mn.trans am) (by simp) (λ_ h=>.inl h);clear ac ae cS ah am fH aq;refine D ?_;refine W ?_;refine CM (ZN rfl) (Zet (w.heap.size :: bv :: (ob hv++ob sv)) code[i] _ (λb hb=>by rcases Xb.1 hb with rfl|hb;exact aK.lt;exact ko b hb) fI) ?_;rintro _ w4 ⟨va,vb,vc,rfl,sa,sb,sc,aI⟩;have eA:=nE.up aI;replace aK:=aK.up aI;replace h:=h.up aI;replace fc:=fc.up aI;replace hS:=hS.trans aI;replace cbl:=cbl.up aI;clear aI nE;have hM:JN st i code[i]=JN st i code[i]:=rfl
 conv at hM=>rhs;unfold JN Jj
 have lY:st.getD i none=st[i]:=by simp [List.getD,nD]
 have dQ:(Z15 st)[i].l=(st[i]).getD []:=by simp [Z15]
 have jI:(JY st)[i]=(st[i]).isSome:=by simp [JY]
 rw [lY] at hM;have qX:(Z15 st)[i].l.length<=16:=by
  rw [dQ];cases ax:st[i] with
  | none=>simp
  | some s=>exact gG s (by rw [<- ax];exact Xc nD)
 obtain ⟨el1,el2,el3⟩:=Zno code[i];generalize Zz code[i]=E at *;obtain ⟨ta,al,gi,ok⟩:=E;dsimp only at sa sb sc el1 el2 el3 hM;generalize eR:(Z15 st)[i].l=s at *;refine W ?_
 refine Z5K (σ:=Bool) (λq=>[(0,pQ bv),(1,.I (i:Int)),(4,.B false),(5,.pointer (some ⟨w.heap.size,0,none⟩)),(6,u),(9,vc),(11,.I ((s.length:Int) - (ta.length:Int))),(75,.B q)])
  (λq w'=>Stp [] w4 w'/\q=! (decide (st[i].isSome=true/\ok=true/\ta.length<=s.length/\(s.drop (s.length - ta.length)=ta\/al≠[]/\s.drop (s.length - ta.length)=al)))) ?_ ?_
 . cases ok with
   | false=>
     refine QO ?_;exact QT true ⟨Stp.refl _ _,by simp⟩
   | true=>
     cases ax:st[i].isSome with
     | false=>
       rw [ax] at jI;repeat'(first|refine W1 ?_|omega|refine VG ?_ ?_<;>intro hg|refine VC ?_ ?_<;>intro hc)
       exact QT true ⟨Stp.refl _ _,by simp⟩;exact QT true ⟨Stp.refl _ _,by simp⟩;exact absurd (show (!(JY st)[i])=false by assumption) (by rw [jI];decide)
     | true=>
       rw [ax] at jI;by_cases hk:ta.length<=s.length
       case neg=>
        (refine QP ?_ ?_<;>intro hg)
        exact absurd (show (!(JY st)[i])=true by assumption) (by rw [jI];decide);exact QT true ⟨Stp.refl _ _,by simp [hk]⟩
       have d9:(s.length:Int) - (ta.length:Int)=((s.length - ta.length:Nat):Int):=by omega
       have sd:SlV [w.heap.size] w4 (slc u (s.length - ta.length) s.length 1) (s.drop (s.length - ta.length)):=by
        have:=eA.slc (l:=s.length - ta.length) (r:=s.length) (by omega) (by omega);rw [Xo] at this;exact this
       (refine QP ?_ ?_<;>intro hg)
       exact absurd (show (!(JY st)[i])=true by assumption) (by rw [jI];decide);refine Z5d rfl eA rfl d9 (by omega) rfl ?_;refine W ?_;refine CM (Zf rfl rfl) (Z5p _ _ _ _ _ (sd.wk (by simp)) (sa.wk (by simp))) ?_;rintro _ w5 ⟨rfl,aD⟩;replace sb:=sb.up aD;replace eA:=eA.up aD;replace sd:=sd.up aD;repeat'(first|refine W1 ?_|omega|refine VG ?_ ?_<;>intro hg|refine VC ?_ ?_<;>intro hc)
       have h1:¬ s.drop (s.length - ta.length)=ta:=by assumption
       have h2:(al.length:Int)=0:=by assumption
       have h3:al=[]:=Xy.1 (by omega);exact QT true ⟨aD,by simp [h1,h3]⟩;have h1:¬ s.drop (s.length - ta.length)=ta:=by assumption
       have h2:¬ (al.length:Int)=0:=by assumption
       have h3:al≠[]:=λh=>h2 (by simp [h])
       refine Z5d rfl eA rfl d9 (by omega) rfl ?_;refine W ?_;refine CM (Zf rfl rfl) (Z5p _ _ _ _ _ (sd.wk (by simp)) (sb.wk (by simp))) ?_;rintro _ w6 ⟨rfl,dp⟩;refine W ?_;refine QT _ ⟨aD.trans dp,?_⟩;by_cases h4:s.drop (s.length - ta.length)=al<;>simp [h1,h3,h4,hk];have h1:s.drop (s.length - ta.length)=ta:=Classical.not_not.1 (by assumption);exact QT false ⟨aD,by simp [h1,hk]⟩
 rintro q w5 ⟨aD,hq⟩
 try dsimp only at hq ⊢
 replace eA:=eA.up aD;replace sc:=sc.up aD;replace aK:=aK.up aD;replace h:=h.up aD;replace cbl:=cbl.up aD;replace hS:=hS.trans aD;clear aD;by_cases hC:st[i].isSome=true/\ok=true/\ta.length<=s.length/\(s.drop (s.length - ta.length)=ta\/al≠[]/\s.drop (s.length - ta.length)=al)
 case neg=>
  obtain rfl:q=true:=by rw [hq,decide_eq_false hC];rfl
  have fA:JN st i code[i]=none:=by
   rw [hM];cases ax:st[i] with
   | none=>rfl
   | some s0=>
     obtain rfl:s=s0:=by rw [dQ,ax];rfl
     dsimp only;rw [if_neg (λh=>hC ⟨by rw [ax];rfl,h.1,h.2.1,h.2.2.1⟩)]
  refine RT ?_;exact ⟨hS.mn,by rw [fA];rfl,λst' h=>by rw [fA] at h;cases h⟩
 obtain rfl:q=false:=by rw [hq,decide_eq_true hC];rfl
 obtain ⟨nF,aP,hk,vp⟩:=hC;have ax:st[i]=some s:=by
  cases ax:st[i] with
  | none=>rw [ax] at nF;cases nF
  | some s0=>rw [dQ,ax];rfl
 rw [ax] at hM;dsimp only at hM;have d9:(s.length:Int) - (ta.length:Int)=((s.length - ta.length:Nat):Int):=by omega
 have sk:SlV [w.heap.size] w5 (slc u 0 (s.length - ta.length) 1) (s.take (s.length - ta.length)):=by
  have:=eA.slc (l:=0) (r:=s.length - ta.length) (by omega) (by omega);rw [Ybr] at this;exact this
 obtain ⟨p2,c2,fZ⟩:=sk.len;obtain ⟨p3,c3,rfl⟩:=sc.len;refine W ?_;refine ZdS rfl eA rfl d9 (by omega) rfl ?_;rw [fZ] at sk ⊢;refine W ?_;refine Z0 (Z1 (vs:=[(0,.slice p2 (s.take (s.length - ta.length)).length c2),(1,.slice p3 gi.length c3)]) rfl (Zkg _ _ _ _ _ _)) rfl ?_;rintro bl w6 hN;have sbl:SlV [] w6 bl [(⟨s.take (s.length - ta.length)⟩:Sl Int),⟨gi⟩]:=hN.slvS (X:=[]) (by simp) rfl rfl (λi hi cH=>match i,hi with|0,_=>sk.wk (by simp)|1,_=>sc.wk (by simp)) (by simp [maxLen]);have hT:=Z9.stp hN;clear hN;replace eA:=eA.up hT;replace aK:=aK.up hT;replace h:=h.up hT;replace cbl:=cbl.up hT;replace hS:=hS.trans hT;clear hT;refine CM (ZN rfl) (ZcD _ _ _ sbl (by simp) (by simp;omega)) ?_;rintro rv w7 ab;have qY:[(⟨s.take (s.length - ta.length)⟩:Sl Int),⟨gi⟩].flatMap Sl.l=s.take (s.length - ta.length)++gi:=by simp
 rw [qY] at ab;have aR:=ab.2;have sr:=ab.slv h.bounds;replace eA:=eA.up aR;replace aK:=aK.up aR;replace h:=h.up aR;replace cbl:=cbl.up aR;replace hS:=hS.trans aR;clear aR ab;by_cases nG:(s.take (s.length - ta.length)++gi).length<=16
 case neg=>
  have fA:JN st i code[i]=none:=by
   rw [hM,if_neg (λh=>nG h.2.2.2)]
  refine RT ?_;exact ⟨hS.mn,by rw [fA];rfl,λst' h=>by rw [fA] at h;cases h⟩
 rw [if_pos ⟨aP,hk,vp,nG⟩] at hM;dsimp only at hM;generalize s.take (s.length - ta.length)++gi=nx at *;have kR:=h.cod;by_cases de:code[i].op=24;rw [if_pos de] at hM
 (refine QP ?_ ?_<;>intro hg)
 refine WR ?_;by_cases ft:s.length=1;have hn:JN st i code[i]=some st:=by rw [hM,if_pos ⟨by omega,ft⟩]
 exact .mk ⟨hS.mn,by rw [hn];congr 1;exact decide_eq_true (by omega),λst' h'=>by rw [hn] at h';cases h';exact h⟩;have hn:JN st i code[i]=none:=by rw [hM,if_neg (λh=>ft h.2)]
 exact .mk ⟨hS.mn,by rw [hn];congr 1;exact decide_eq_false (by omega),λst' h'=>by rw [hn] at h';cases h'⟩;refine WR ?_;have hn:JN st i code[i]=none:=by rw [hM,if_neg (λh=>by omega)]
 exact .mk ⟨hS.mn,by rw [hn];rfl,λst' h=>by rw [hn] at h;cases h⟩;rw [if_neg de] at hM;by_cases cX:code[i].op=13;rw [if_pos cX] at hM;by_cases fU:code[i].n > (i:Int);rw [if_pos fU] at hM;refine QO ?_;refine CM (ZK rfl rfl rfl) (Z4G bv base cv hv sv _ code st code[i].n nx _ h (by omega) sr) ?_;rintro _ w8 ⟨cK,rfl,hV⟩;refine W ?_;refine WR ?_;rw [<- hM] at hV;exact .mk ⟨hS.mn.trans cK,by rw [hM],hV⟩;rw [if_neg fU] at hM;refine RT ?_;exact ⟨hS.mn,by rw [hM];rfl,λst' h=>by rw [hM] at h;cases h⟩;rw [if_neg cX] at hM;by_cases eh:code[i].op=14;rw [if_pos eh] at hM;by_cases fU:code[i].n > (i:Int)
 . rw [if_pos fU] at hM
   refine QO ?_;refine CM (ZK rfl rfl rfl) (Z4G bv base cv hv sv _ code st code[i].n nx _ h (by omega) sr) ?_;rintro _ w8 ⟨cK,rfl,hV⟩;have sr8:=sr.ext (X':=bv :: (ob hv++ob sv)) cK (λ_ h=>h) (λ_ h=>.inl h);cases hr:JF st code[i].n nx with
   | none=>
     rw [hr] at hM;refine RT ?_;exact ⟨hS.mn.trans cK,by rw [hM];rfl,λst' h=>by rw [hM] at h;cases h⟩
   | some st1=>
     rw [hr] at hM;have h8:=hV st1 hr;refine W ?_;refine CM (ZK rfl rfl rfl) (Z4G bv base cv hv sv _ code st1 ((i:Int)+1) nx _ h8 (by omega) sr8) ?_;rintro _ w9 ⟨gC,rfl,vq⟩;refine RT ?_;exact ⟨(hS.mn.trans cK).trans gC,by rw [hM];rfl,λst' h=>vq st' (by rw [hM] at h;exact h)⟩
 rw [if_neg fU] at hM;refine RT ?_;exact ⟨hS.mn,by rw [hM];rfl,λst' h=>by rw [hM] at h;cases h⟩;rw [if_neg eh] at hM;refine QO ?_;refine CM (ZK rfl rfl rfl) (Z4G bv base cv hv sv _ code st ((i:Int)+1) nx _ h (by omega) sr) ?_;rintro _ w8 ⟨cK,rfl,hV⟩;refine W ?_;refine WR ?_;rw [<- hM] at hV;exact .mk ⟨hS.mn.trans cK,by rw [hM],hV⟩
theorem Zfs (p q r:Option Addr) (l m k c d f:Nat) (w):(Instr.build 318 #[(0,.slice p l c),(1,.slice q m d),(2,.slice r k f)]).run Tryz.prog w=.ok (.agg #[.slice p l c,.slice q m d,.slice r k f]) w:=by kernel_rfl
theorem Zki {st st':List (Option Shp)} {i:Nat} {x:Ins} (h0:∀ s,some s∈st->s.length<=16) (h:JN st i x=some st'):∀ s,some s∈st'->s.length<=16:=by
 have hr:∀ {st st':List (Option Shp)} {t:Int} {nx:Shp},(∀ s,some s∈st->s.length<=16)->nx.length<=16->JF st t nx=some st'->∀ s,some s∈st'->s.length<=16:=by
  intro st st' t nx ax hn h;unfold JF at h;split at h;split at h;split at h;cases h;exact ax;cases h;cases h;intro s hs;rcases List.mem_or_eq_of_mem_set hs with h|h
  exact ax s h;cases h;exact hn;cases h
 have hn:∀ {s nx:Shp},Jj x s=some nx->nx.length<=16:=by
  intro s nx h;unfold Jj at h;dsimp only at h;split at h;rename_i hc;cases h;exact hc.2.2.2;cases h
 unfold JN at h;split at h;cases h;split at h;cases h;rename_i nx qb;have cu:=hn qb;split at h;split at h;cases h;exact h0;cases h;split at h;split at h;exact hr h0 cu h;cases h;split at h;split at h;obtain ⟨s1,h1,h2⟩:=X1.1 h;exact hr (hr h0 cu h1) cu h2;cases h;exact hr h0 cu h
theorem Z9V {code:List Ins} {st0:List (Option Shp)} {k:Nat} (h:Z3F code k st0=none):∀ m,k<=m->Z3F code m st0=none
 | 0, hm => by
   obtain rfl:k=0:=by omega
   exact h
 | m + 1, hm => by
   by_cases hk:k=m+1;subst hk;exact h;rw [Z3F,Z9V h m (by omega)];rfl
theorem Z8u {code:List Ins} {st0:List (Option Shp)}:∀ {k:Nat} {st:List (Option Shp)},Z3F code k st0=some st->st.length=st0.length
 | 0,st,h=>by cases h;rfl
 | k + 1, st, h => by
   obtain ⟨s1,h1,h2⟩:=X1.1 h;have e1:=Z8u h1;have e2:st.length=s1.length:=by
    unfold JN at h2;split at h2;cases h2;split at h2;cases h2;split at h2;split at h2;cases h2;rfl;cases h2;split at h2;split at h2;exact JA h2;cases h2;split at h2;split at h2;obtain ⟨s2,h3,h4⟩:=X1.1 h2;rw [JA h4,JA h3];cases h2;exact JA h2
   omega
theorem ZgJ {st st':List (Option Shp)} {i:Nat} {x:Ins} (hi:i+1=st.length) (h:JN st i x=some st'):st'=st/\∃ k,st.getD i none=some [k]:=by
 unfold JN at h;cases hs:st.getD i none with
 | none=>rw [hs] at h;cases h
 | some s=>
   rw [hs] at h;dsimp only at h;split at h;cases h;rename_i nx hn;split at h;split at h;rename_i hc;cases h;obtain ⟨k,hk⟩:=Ybd.1 hc.2;exact ⟨rfl,k,by rw [hk]⟩;cases h;split at h;split at h;rw [Z5q (by omega)] at h;cases h;cases h;split at h;split at h;rw [Z5q (by omega)] at h;cases h;cases h;rw [Z5q (by omega)] at h;cases h
theorem Z8v (v:Value) (code:List Ins) (w) (hs:SlV [] w v code) (fI:∀ x∈code,opP x.op) :
 CC 190 #[v] w λr w'=>r=.tuple #[.I (Z29 code).1,.I (Z29 code).2]/\Stp [] w w':=by
 have aU:=hs.max;obtain ⟨p,c,rfl,-⟩:=id hs;refine cW1 49 Tryz.func190 ?_;refine W ?_;by_cases h0:code.length=0\/code.length > 200
 . have hM:Z29 code=(0,22):=if_pos h0
   repeat'(first|refine W1 ?_|omega|refine VG ?_ ?_<;>intro hg|refine VC ?_ ?_<;>intro hc)
   all_goals
    refine RU ?_;exact ⟨by rw [hM],Stp.refl _ _⟩
 refine QO ?_;have mo:0<code.length:=by omega
 have tD:code.length<=200:=by omega
 refine JK (σ:=Nat×Value×Value) (λq=>[(0,.slice p code.length c),(4,.pointer (some ⟨q.1,0,none⟩))]) (λq w'=>Vf w' q.1 w.heap.size (.slice p code.length c) q.2.1 q.2.2 code (List.replicate code.length none)/\w.heap.size<=q.1/\Stp [] w w') ?_ ?_;refine ZDr 10 [] [] [(0,0),(1,0),(2,0),(4,0),(5,0),(3,9),(6,2),(7,0),(8,2),(9,0)] (λw1 ae=>?_);have fW:=ae.size;refine D ?_;apply Zj7;rfl;refine Z4q rfl trivial (Z1q (α:=Sl Int) (k:=code.length) (a0:=⟨[]⟩) rfl rfl (λX w=>⟨_,rfl,Zo _ _⟩) rfl rfl (by simp [maxLen];omega) (by omega)) (λ_ _ h=>h.2) rfl ?_;rintro hv w2 ⟨rh,ah⟩;refine D ?_;refine Za rfl trivial (Z1q (α:=Bool) (k:=code.length) (a0:=false) rfl rfl (λX w=>rfl) rfl rfl (by simp [maxLen];omega) (by omega)) (λ_ _ h=>h.2) rfl ?_;rintro sv w3 ⟨rs,am⟩;refine D ?_;obtain ⟨ph,ch,qZ⟩:∃ p c,hv=.slice p code.length c:=by
  have:=((rh []).slv0).len;simpa using this
 obtain ⟨ps,cs,bA⟩:∃ p c,sv=.slice p code.length c:=by
  have:=((rs []).slv0).len;simpa using this
 have hap:∀ b∈ob hv,b∉ob sv:=λb h1 h2=>by
  have:=(rh []).ob_le b h1;have:=(rs []).ob_le b h2;omega
 subst qZ bA;refine Z1Z rfl trivial (vs:=[(0,.slice p code.length c),(1,.slice ph code.length ch),(2,.slice ps code.length cs)]) rfl (Zfs _ _ _ _ _ _ _ _ _) rfl ?_;refine Za rfl trivial (Zq rfl) (λ_ _ h=>h.choose_spec.2.2.2) rfl ?_;rintro _ w4 ⟨bv,rfl,mm,ac,aI⟩;have hS:=(ae.trans ah).trans (am.trans aI);have lp:=ah.size;have vr:=am.size;refine D ?_;refine QT (bv,.slice ph code.length ch,.slice ps code.length cs) ⟨?_,by omega,hS⟩;have b1:∀ b∈ob (.slice ph code.length ch),w.heap.size<=b/\b<w3.heap.size:=λb h=>by have:=(rh []).ob_le b h;omega
 have b2:∀ b∈ob (.slice ps code.length cs),w.heap.size<=b/\b<w3.heap.size:=λb h=>by have:=(rs []).ob_le b h;omega
 have e1:Z15 (List.replicate code.length none)=List.replicate code.length ⟨[]⟩:=by simp [Z15]
 have e2:JY (List.replicate code.length none)=List.replicate code.length false:=by simp [JY]
 refine ⟨ac,hs.ext hS (by simp) (λb hb=>.inr ?_),by rw [e1];exact ((rh _).lower ae.size).up (am.trans aI),by rw [e2];exact ((rs _).lower (Xh ae.size ah.size)).up aI,λh=>by have:=b1 bv h;omega,λh=>by have:=b2 bv h;omega,hS.size,hap,by simp⟩;simp only [Xb,Xg] at hb;rcases hb with rfl|h|h
 omega;exact (b1 b h).1;exact (b2 b h).1;refine Z4q rfl trivial (Z1q (α:=Bool) (k:=code.length) (a0:=false) rfl rfl (λX w=>rfl) rfl rfl (by simp [maxLen];omega) (by omega)) (λ_ _ h=>h.2) rfl ?_;rintro sv w2 ⟨rs,ah⟩;refine Za rfl trivial (Z1q (α:=Sl Int) (k:=code.length) (a0:=⟨[]⟩) rfl rfl (λX w=>⟨_,rfl,Zo _ _⟩) rfl rfl (by simp [maxLen];omega) (by omega)) (λ_ _ h=>h.2) rfl ?_;rintro hv w3 ⟨rh,am⟩;refine D ?_;obtain ⟨ph,ch,qZ⟩:∃ p c,hv=.slice p code.length c:=by
  have:=((rh []).slv0).len;simpa using this
 obtain ⟨ps,cs,bA⟩:∃ p c,sv=.slice p code.length c:=by
  have:=((rs []).slv0).len;simpa using this
 have hap:∀ b∈ob hv,b∉ob sv:=λb h1 h2=>by
  have:=(rh []).ob_le b h1;have:=(rs []).ob_le b h2;omega
 subst qZ bA;refine Z1Z rfl trivial (vs:=[(0,.slice p code.length c),(1,.slice ph code.length ch),(2,.slice ps code.length cs)]) rfl (Zfs _ _ _ _ _ _ _ _ _) rfl ?_;refine Za rfl trivial (Zq rfl) (λ_ _ h=>h.choose_spec.2.2.2) rfl ?_;rintro _ w4 ⟨bv,rfl,mm,ac,aI⟩;have hS:=(ae.trans ah).trans (am.trans aI);have lp:=ah.size;have vr:=am.size;refine D ?_;refine QT (bv,.slice ph code.length ch,.slice ps code.length cs) ⟨?_,by omega,hS⟩;have b1:∀ b∈ob (.slice ph code.length ch),w.heap.size<=b/\b<w3.heap.size:=λb h=>by have:=(rh []).ob_le b h;omega
 have b2:∀ b∈ob (.slice ps code.length cs),w.heap.size<=b/\b<w3.heap.size:=λb h=>by have:=(rs []).ob_le b h;omega
 have e1:Z15 (List.replicate code.length none)=List.replicate code.length ⟨[]⟩:=by simp [Z15]
 have e2:JY (List.replicate code.length none)=List.replicate code.length false:=by simp [JY]
 refine ⟨ac,hs.ext hS (by simp) (λb hb=>.inr ?_),by rw [e1];exact ((rh _).lower (Xh ae.size ah.size)).up aI,by rw [e2];exact ((rs _).lower ae.size).up (am.trans aI),λh=>by have:=b1 bv h;omega,λh=>by have:=b2 bv h;omega,hS.size,hap,by simp⟩;simp only [Xb,Xg] at hb;rcases hb with rfl|h|h
 omega;exact (b1 b h).1;exact (b2 b h).1;rintro ⟨bv,hv,sv⟩ w2 ⟨h,mm,hS⟩;dsimp only at h mm ⊢;have ac:=h.blk;have fc:=h.seen.slv0;have cV:(JY (List.replicate code.length none)).length=code.length:=by simp [JY]
 have fw:0<(JY (List.replicate code.length none)).length:=by omega
 refine W ?_;refine Z5 (Z40 (α:=Bool) (y':=true) (u:=.B true) rfl rfl rfl rfl h.seen fw) ?_;rintro _ w3 ⟨rs3,am⟩;have cS:Stp (bv :: (ob hv++ob sv)) w2 w3:=am.mono (λb hb=>by simp [hb]);generalize iP:(some [] :: List.replicate (code.length - 1) none:List (Option Shp))=st0 at *;have dT:st0.length=code.length:=by rw [<- iP];simp;omega
 obtain ⟨m,hm⟩:∃ m,code.length=m+1:=⟨code.length - 1,by omega⟩
 have e1:Z15 st0=Z15 (List.replicate code.length none):=by rw [<- iP,hm];simp [Z15,YaB]
 have e2:JY st0=(JY (List.replicate code.length none)).set 0 true:=by rw [<- iP,hm];simp [JY,YaB]
 have h3:Vf w3 bv w.heap.size (.slice p code.length c) hv sv code st0:=by
  refine ⟨h.blk.ext am h.ns,h.cod.ext cS (λ_ h=>h) (λ_ h=>.inl h),?_,?_,h.nh,h.ns,Xh h.hi am.size,h.apart,dT⟩;rw [e1];exact h.shp.ext (X':=bv :: ob sv) am (λb hb=>⟨XL _ hb,λdF=>h.apart b dF hb⟩) (λ_ h=>.inl h);rw [e2];exact rs3
 have hB:∀ b∈bv :: (ob hv++ob sv),w.heap.size<=b:=λb hb=>by
  simp only [Xb,Xg] at hb;rcases hb with rfl|hb|hb
  exact mm;exact (h.shp.ob_le b hb).1;exact (h.seen.ob_le b hb).1
 have aN:=hS.own cS (λb hb=>.inr (hB b hb));have rc:∀ s,some s∈st0->s.length<=16:=by
  intro s hs;rw [<- iP] at hs;simp at hs;rw [hs];simp
 have ku:Z29 code=match Z3F code code.length st0 with
  | none=>(0,22)
  | some st=>(((st.getD (code.length - 1) none).getD []).headD 0,0):=by
  rw [<- iP];exact if_neg h0
 clear fc ac h e1 e2 am cS rs3 hS;refine W ?_
 refine Zt (σ:=Nat×List (Option Shp)) (λq=>[(0,.slice p code.length c),(4,pQ bv),(29,.I (code.length:Int)),(30,.I (q.1:Int))])
  (λq w'=>q.1<=code.length/\Z3F code q.1 st0=some q.2/\Vf w' bv w.heap.size (.slice p code.length c) hv sv code q.2/\(∀ s,some s∈q.2->s.length<=16)/\Stp [] w w') (λq=>code.length - q.1) (0,st0) ⟨rfl,rfl,rfl,rfl,trivial⟩ ⟨Xp _,rfl,h3,rc,aN⟩ ?_
 rintro ⟨k,st⟩ w4 ⟨hk,bh,h4,gG,aI⟩
 try dsimp only at hk bh h4 gG ⊢
 by_cases hlt:k<code.length
 . refine QO ?_
   refine CM (Zf rfl rfl) (Zkh bv w.heap.size _ hv sv code st k _ h4 hlt (by omega) gG (fI _ (Xc hlt))) ?_;rintro _ w5 ⟨aD,rfl,hV⟩;replace aD:=aI.own aD (λb hb=>.inr (hB b hb));have vt:code.getD k ⟨0,0⟩=code[k]:=by simp [List.getD,hlt]
   have dV:Z3F code (k+1) st0=JN st k code[k]:=by rw [Z3F,bh,XT,vt]
   cases ax:JN st k code[k] with
   | none=>
     have hn:Z29 code=(0,22):=by rw [ku,Z9V (dV.trans ax) code.length hlt]
     refine RT ?_;exact ⟨by rw [hn],aD⟩
   | some st1=>
     refine W ?_;exact QL (k+1,st1) ⟨hlt,dV.trans ax,hV st1 ax,Zki gG ax,aD⟩ (Xs hlt (Xv k))
 obtain rfl:k=code.length:=by omega
 have vu:=Z8u bh;have dW:∃ a,st.getD (code.length - 1) none=some [a]:=by
  rw [hm,Z3F] at bh;obtain ⟨s1,r1,r2⟩:=X1.1 bh;have ft:=Z8u r1;obtain ⟨rfl,a,ha⟩:=ZgJ (by omega) r2;exact ⟨a,by rw [hm];exact ha⟩
 obtain ⟨a,ha⟩:=dW;have vw:Z29 code=(a,0):=by rw [ku,bh];dsimp only;rw [ha];rfl
 have ac:=h4.blk;have jH:=h4.shps;have vx:(Z15 st).length=code.length:=by simp [Z15];omega
 have gT:m<(Z15 st).length:=by omega
 have d9:(code.length:Int) - 1=(m:Int):=by omega
 obtain ⟨u,aq,fH⟩:=jH.sub gT;have eF:(Z15 st)[m].l=[a]:=by
  have:st.getD m none=some [a]:=by rw [<- ha,hm];rfl
  have h2:st.getD m none=st[m]'(by omega):=by simp [List.getD,show m<st.length by omega]
  have h5:(Z15 st)[m]=⟨(st[m]'(by omega)).getD []⟩:=by simp [Z15]
  rw [h5,<- h2,this];rfl
 rw [eF] at fH;refine QO ?_;apply Z8 (JC rfl rfl aq) rfl;have iq:0 < [a].length:=by simp
 refine RT ?_;exact ⟨by rw [vw];rfl,aI⟩
open Go Go.Eng Go.RowKit Go.Proofs Go.ChangeShapes Go.WideShapes Go.Deep
theorem ZxE:ownKnob Tryz.prog.godebug=none:=by kernel_rfl
theorem ZwV:laidOutB Tryz.prog=true:=by kernel_rfl
section
variable {H:Type} {enc:TypeId×Value->H} {w:World} {base:Nat} {spare:Nat->Bool} {gU:Bool}
theorem ZwW {r:Reach} {b0:Nat} {v:Value} {d:DataW H} {p:List MemPlace} (hv:Value.okWide Tryz.prog w r b0 3 v) (h:DataW.Trod enc Tryz.prog w base spare gU 3 v d p):∃ z:Int,v=.I z/\I64 z:=by
 obtain ⟨z,rfl,_,_,hw⟩:=open_int Tryz.underlying3 hv h;exact ⟨z,rfl,by simpa [I64,Lit.wf,IntKind.min,IntKind.max,IntKind.signed,IntKind.bits] using hw⟩
theorem ZtR {r:Reach} {b0:Nat} {v:Value} {d:DataW H} {p:List MemPlace} (hv:Value.okWide Tryz.prog w r b0 23 v) (h:DataW.Trod enc Tryz.prog w base spare gU 23 v d p) :
 ∃ l:List Int,SlV [] w v l/\(∀ x∈l,I64 x)/\Znb d=l.length:=by
 obtain ⟨fuel,h⟩:=h;obtain ⟨u,l,hu,hs,aP,fV⟩:=ZjY Tryz.underlying23 (by kernel_rfl) Tryz.underlying3 h;obtain ⟨a,m,c,rfl⟩:=okWide_slice Tryz.underlying23 hv;have vy:Value.slice a m c=u:=by simpa [Value.cells] using hu
 subst vy;exact ⟨l,hs,aP,fV⟩
end
end Go.Proofs.YtipfkbkkndacjaaGreatDoor
namespace Go.Eng
open Go Go.RowKit
variable {X:List Nat} {w w':World} {base T:Nat} {v:Value} {zs ys:List Int}
def Zkj (w:World) (base T:Nat) (v:Value) (zs:List Int):Prop:=(v=.N/\zs=[])\/∃ g cap cur,v=.slice (some ⟨g,0,none⟩) zs.length cap/\base<=g/\w.heap[g]?=some (.cells cur T (0,0))/\zs.length<=cap/\cap<=maxLen/\cur.size=cap/\cur.toList.take zs.length=zs.map (Value.int .i64)
theorem Row.toI (h:Row X w base T v zs):Zkj w base T v zs:=by
 obtain ⟨css,hl,hr,hx,ho⟩:=h;have hc:css=zs.map (λx=>[Value.int .i64 x]):=by
  apply YaG (by simpa using hl);intro i h1 h2;have:css[i]=[Value.int .i64 zs[i]]:=hr i (by omega) h1;simp [this]
 rcases ho with ⟨rfl,hn⟩|⟨g,cap,cur,rfl,hb,hg,cO,bQ,aO,ht⟩
 exact .inl ⟨rfl,Xy.1 hn⟩
 . refine .inr ⟨g,cap,cur,rfl,hb,hg,cO,bQ,by simpa [Z6.k,Z3.k] using aO,?_⟩
   have h2:cur.toList.take (zs.length * 1)=css.flatten:=ht;rw [YaQ] at h2;rw [h2,hc];clear h2 ht hx hr hl hc cO hg aO
   induction zs with
   | nil=>rfl
   | cons a l ih=>simp at ih ⊢;exact ih
theorem Zkj.toRow (h:Zkj w base T v zs):Row X w base T v zs:=by
 rcases h with ⟨rfl,rfl⟩|⟨g,cap,cur,rfl,hb,hg,cO,bQ,aO,ht⟩
 exact Row.nil
 . refine ⟨zs.map (λx=>[Value.int .i64 x]),by simp,λi h1 h2=>by simp;rfl,?_⟩
   have hf:(zs.map (λx=>[Value.int .i64 x])).flatten=zs.map (Value.int .i64):=by
    clear ht cO
    induction zs with
    | nil=>rfl
    | cons a l ih=>simp at ih ⊢;exact ih
   rw [hf];refine ⟨by simp [Z6.k,Z3.k],.inr ⟨g,cap,cur,rfl,hb,hg,cO,bQ,by simpa [Z6.k,Z3.k] using aO,by simpa [Z6.k,Z3.k] using ht⟩⟩
theorem Zb8 {zs:List Int} (hs:zs.Pairwise (·<=·)):(Lib.compact zs).Pairwise (· < ·)/\∀ y,y∈Lib.compact zs↔y∈zs:=by
 have hd:∀ i j,i<=j->j<zs.length->zs.toArray[i]!<=zs.toArray[j]!:=by
  intro i j dJ hj;rcases Nat.lt_or_eq_of_le dJ with h|rfl
  have:=Yao.1 hs i j (by omega) hj h;simpa [getElem!_pos,hj,show i<zs.length by omega] using this;exact YaY _
 have key:∀ m,m<=zs.length->(Lib.compactUpTo zs.toArray m).Pairwise (· < ·)/\∀ y,y∈Lib.compactUpTo zs.toArray m↔∃ i,i<m/\y=zs.toArray[i]!:=by
  intro m
  induction m with
  | zero=>intro _;refine ⟨by simp [Lib.compactUpTo],λy=>by simp [Lib.compactUpTo]⟩
  | succ m ih=>
    intro hm;obtain ⟨i1,i2⟩:=ih (by omega);rw [Lib.compactUpTo_succ];by_cases hk:Lib.keeps zs.toArray m=true;rw [if_pos hk];refine ⟨Ybj.2 ⟨i1,List.pairwise_singleton _ _,λa ha b hb=>?_⟩,λy=>?_⟩;obtain ⟨i,hi,rfl⟩:=(i2 a).1 ha;rw [Xk.1 hb];have pm:m=0\/zs.toArray[m]!≠zs.toArray[m - 1]!:=by simpa [Lib.keeps] using hk
    have h1:=hd i (m - 1) (by omega) (by omega);have h2:=hd (m - 1) m (by omega) (by omega);have h3:=pm.resolve_left (by omega);omega;rw [Xg,i2,Xk];constructor;rintro (⟨i,hi,rfl⟩|rfl);exact ⟨i,by omega,rfl⟩;exact ⟨m,by omega,rfl⟩;rintro ⟨i,hi,rfl⟩;by_cases cH:i<m;exact .inl ⟨i,cH,rfl⟩;exact .inr (by rw [show i=m by omega]);rw [if_neg hk,XG];have pm:¬ (m=0\/zs.toArray[m]!≠zs.toArray[m - 1]!):=by simpa [Lib.keeps] using hk
    have oR:m≠0:=λh=>pm (.inl h);have he:zs.toArray[m]! = zs.toArray[m - 1]!:=Decidable.byContradiction λh=>pm (.inr h);refine ⟨i1,λy=>?_⟩;rw [i2];constructor;rintro ⟨i,hi,rfl⟩;exact ⟨i,by omega,rfl⟩;rintro ⟨i,hi,rfl⟩;by_cases cH:i<m;exact ⟨i,cH,rfl⟩;exact ⟨m - 1,by omega,by rw [show i=m by omega,he]⟩
 obtain ⟨h1,h2⟩:=key zs.length (Xn _);refine ⟨h1,λy=>?_⟩;show y∈Lib.compactUpTo zs.toArray zs.length↔_;rw [h2];constructor;rintro ⟨i,hi,rfl⟩;simp [getElem!_pos,hi];intro h;obtain ⟨i,hi,rfl⟩:=Xr h;exact ⟨i,hi,by simp [getElem!_pos,hi]⟩
def Z3A (zs:List Int):List Int:=Lib.compact (zs.mergeSort λx y=>decide (x<=y))
theorem Z3m (zs:List Int):(Z3A zs).Pairwise (· < ·)/\∀ y,y∈Z3A zs↔y∈zs:=by
 have hp:(zs.mergeSort λx y=>decide (x<=y)).Pairwise (·<=·):=by
  have:=List.pairwise_mergeSort (le:=λ(x y:Int)=>decide (x<=y)) (λa b c h1 h2=>by simp at *;omega) (λa b=>by simp;omega) zs;exact this.imp (λh=>by simpa using h)
 obtain ⟨h1,h2⟩:=Zb8 hp;exact ⟨h1,λy=>by unfold Z3A;rw [h2];exact (List.mergeSort_perm zs _).mem_iff⟩
theorem ZcF {g q:Nat} {cur:Array Value} (os:Array Obj) (h:w.heap[g]?=some (.cells cur T (0,0))) (hl:ys.length<=cur.size) :
 Stp [g] w (Go.Sort.grow (Go.Sort.putRow (Value.int .i64) (Go.Sort.ahead w q) g 0 ys.toArray) os)/\
 ∃ cur',(Go.Sort.grow (Go.Sort.putRow (Value.int .i64) (Go.Sort.ahead w q) g 0 ys.toArray) os).heap[g]?=some (.cells cur' T (0,0))/\cur'.size=cur.size/\cur'.toList.take ys.length=ys.map (Value.int .i64):=by
 have hlt:g<w.heap.size:=(Xm.1 h).1;have hh:(Go.Sort.grow (Go.Sort.putRow (Value.int .i64) (Go.Sort.ahead w q) g 0 ys.toArray) os).heap=w.heap.modify g (Go.Sort.onCells (Go.Sort.putCells (Value.int .i64) 0 ys.toArray))++os:=rfl;refine ⟨⟨rfl,rfl,rfl,by rw [hh];simp,λb hb hn=>?_⟩,Go.Sort.putCells (Value.int .i64) 0 ys.toArray cur,?_,by simp [Go.Sort.putCells],?_⟩;rw [hh,XY (by simpa using hb),YaV,if_neg (by simp at hn;exact λe=>hn e.symm)];rw [hh,XY (by simpa using hlt),YaV,if_pos rfl,h];rfl;apply YaG;simp [Go.Sort.putCells];omega;intro i h1 h2;have hi:i<ys.length:=by simpa using h2
 simp [Go.Sort.putCells,hi]
theorem Z9W {g:Nat} {cur:Array Value} (h:w.heap[g]?=some (.cells cur T (0,0))) (ht:cur.toList.take zs.length=zs.map (Value.int .i64)):Go.Sort.Holds (Value.int .i64) w g 0 zs.toArray:=by
 intro j hj;have gz:j<zs.length:=by simpa using hj
 have hc:cur[j]?=some (.I zs[j]):=by
  have h1:(cur.toList.take zs.length)[j]?=some (.I zs[j]):=by rw [ht];simp [gz]
  rw [Yaf,if_pos gz] at h1;simpa using h1
 constructor;simp [World.cell?,h,hc,gz];simp [World.frozen?,h]
end Go.Eng
namespace Go.Proofs.YtipfkbkkndacjaaGreatDoor
open Go Go.Eng Go.RowKit
theorem ZcG {X:List Nat} {base T:Nat} {v:Value} {zs:List Int} (w) (h:Row X w base T v zs) (bH:zs.length<4611686018427387904) :
 CC 259 #[v] w λr w'=>r=.tuple #[]/\Row X w' base T v (zs.mergeSort λx y=>decide (x<=y))/\Stp (ob v) w w':=by
 rcases h.toI with ⟨rfl,rfl⟩|⟨g,cap,cur,rfl,hb,hg,cO,bQ,aO,ht⟩
 refine (Tryz.slices_Sort_int_none none 0 w).mono ?_;rintro _ _ ⟨rfl,rfl⟩;exact .mk ⟨rfl,by simpa using Row.nil,Stp.refl _ _⟩;have hlt:g<w.heap.size:=(Xm.1 hg).1;refine (Tryz.slices_Sort_int g 0 cap zs w (Z9W hg ht) hlt bH).mono ?_;rintro _ _ ⟨rfl,q,os,rfl⟩;have hl:(zs.mergeSort λx y=>decide (x<=y)).length=zs.length:=Ybh zs;obtain ⟨hS,cur',h1,h2,h3⟩:=ZcF (q:=q) os hg (ys:=zs.mergeSort λx y=>decide (x<=y)) (by omega);refine .mk ⟨rfl,Zkj.toRow (.inr ⟨g,cap,cur',by rw [hl],hb,h1,by omega,bQ,by omega,h3⟩),hS⟩
theorem Z7c {X:List Nat} {base T:Nat} {v:Value} {zs:List Int} (w) (h:Row X w base T v zs) (bH:zs.length<=9223372036854775807) :
 CC 260 #[v] w λr w'=>Row X w' base T r (Lib.compact zs)/\Stp (ob v) w w'/\ob r=ob v:=by
 rcases h.toI with ⟨rfl,rfl⟩|⟨g,cap,cur,rfl,hb,hg,cO,bQ,aO,ht⟩
 refine (Tryz.slices_Compact_int_empty none 0 w).mono ?_;rintro _ _ ⟨rfl,rfl⟩;exact .mk ⟨by rw [show Lib.compact ([]:List Int)=[] from rfl];exact Row.nil,Stp.refl _ _,rfl⟩;refine (Tryz.slices_Compact_int g 0 cap zs w (Z9W hg ht) bH cO).mono ?_;rintro _ _ ⟨rfl,q,rfl⟩;have cE:(Lib.compact zs).length<=zs.length:=by
  unfold Lib.compact Lib.compactUpTo;rw [Xu];exact Xh (X0 _ _) (by simp)
 have e:∀ W:World,W=Go.Sort.grow W #[]:=λW=>by simp [Go.Sort.grow]
 rw [e (Go.Sort.putRow _ _ _ _ _)];obtain ⟨hS,cur',h1,h2,h3⟩:=ZcF (q:=q) #[] hg (ys:=Lib.compact zs++List.replicate (zs.length - (Lib.compact zs).length) 0) (by simp;omega);refine .mk ⟨Zkj.toRow (.inr ⟨g,cap,cur',rfl,hb,h1,by omega,bQ,by omega,?_⟩),hS,rfl⟩;have h4:=congrArg (List.take (Lib.compact zs).length) h3;rw [YaI,Yae (by simp)] at h4;rw [h4];simp
theorem Z8w (s:Str) (y:Int):((ZR s).2.2=true/\y=(ZR s).1)↔∃ i,i<7/\s=Ze.getD i []/\y=(i:Int):=by
 by_cases h0:s=[100,97,121]
 subst h0;have e:ZR [100,97,121]=(0,3,true):=by decide +kernel
 have u:∀ i,i<7->[100,97,121]=Ze.getD i []->i=0:=by decide +kernel
 rw [e];constructor;rintro ⟨-,rfl⟩;exact ⟨0,by decide,by decide +kernel,rfl⟩;rintro ⟨i,hi,he,rfl⟩;rw [u i hi he];exact ⟨rfl,rfl⟩;by_cases h1:s=[115,101,114,118,101,100]
 subst h1;have e:ZR [115,101,114,118,101,100]=(1,3,true):=by decide +kernel
 have u:∀ i,i<7->[115,101,114,118,101,100]=Ze.getD i []->i=1:=by decide +kernel
 rw [e];constructor;rintro ⟨-,rfl⟩;exact ⟨1,by decide,by decide +kernel,rfl⟩;rintro ⟨i,hi,he,rfl⟩;rw [u i hi he];exact ⟨rfl,rfl⟩;by_cases h2:s=[101,120,116,114,97]
 subst h2;have e:ZR [101,120,116,114,97]=(2,1,true):=by decide +kernel
 have u:∀ i,i<7->[101,120,116,114,97]=Ze.getD i []->i=2:=by decide +kernel
 rw [e];constructor;rintro ⟨-,rfl⟩;exact ⟨2,by decide,by decide +kernel,rfl⟩;rintro ⟨i,hi,he,rfl⟩;rw [u i hi he];exact ⟨rfl,rfl⟩;by_cases h3:s=[98,121]
 subst h3;have e:ZR [98,121]=(3,1,true):=by decide +kernel
 have u:∀ i,i<7->[98,121]=Ze.getD i []->i=3:=by decide +kernel
 rw [e];constructor;rintro ⟨-,rfl⟩;exact ⟨3,by decide,by decide +kernel,rfl⟩;rintro ⟨i,hi,he,rfl⟩;rw [u i hi he];exact ⟨rfl,rfl⟩;by_cases h4:s=[116,111]
 subst h4;have e:ZR [116,111]=(4,1,true):=by decide +kernel
 have u:∀ i,i<7->[116,111]=Ze.getD i []->i=4:=by decide +kernel
 rw [e];constructor;rintro ⟨-,rfl⟩;exact ⟨4,by decide,by decide +kernel,rfl⟩;rintro ⟨i,hi,he,rfl⟩;rw [u i hi he];exact ⟨rfl,rfl⟩;by_cases h5:s=[99,111,117,114,116]
 subst h5;have e:ZR [99,111,117,114,116]=(5,1,true):=by decide +kernel
 have u:∀ i,i<7->[99,111,117,114,116]=Ze.getD i []->i=5:=by decide +kernel
 rw [e];constructor;rintro ⟨-,rfl⟩;exact ⟨5,by decide,by decide +kernel,rfl⟩;rintro ⟨i,hi,he,rfl⟩;rw [u i hi he];exact ⟨rfl,rfl⟩;by_cases h6:s=[97,109,111,117,110,116]
 subst h6;have e:ZR [97,109,111,117,110,116]=(6,1,true):=by decide +kernel
 have u:∀ i,i<7->[97,109,111,117,110,116]=Ze.getD i []->i=6:=by decide +kernel
 rw [e];constructor;rintro ⟨-,rfl⟩;exact ⟨6,by decide,by decide +kernel,rfl⟩;rintro ⟨i,hi,he,rfl⟩;rw [u i hi he];exact ⟨rfl,rfl⟩;constructor;rintro ⟨h,-⟩;exfalso;have hn:Ze.findIdx? (isS s)=none:=Yab.2 λx hx=>by
  simp only [Ze,Xb,Xj,or_false] at hx;rcases hx with rfl|rfl|rfl|rfl|rfl|rfl|rfl<;>simp only [isS,decide_eq_false_iff_not]<;>intro e<;>first|exact (absurd e h0)|exact (absurd e.symm h0)|exact (absurd e h1)|exact (absurd e.symm h1)|exact (absurd e h2)|exact (absurd e.symm h2)|exact (absurd e h3)|exact (absurd e.symm h3)|exact (absurd e h4)|exact (absurd e.symm h4)|exact (absurd e h5)|exact (absurd e.symm h5)|exact (absurd e h6)|exact (absurd e.symm h6)|skip
 simp [ZR,idx,hn] at h
 . rintro ⟨i,hi,he,-⟩
   exfalso
   match i,hi with
   | 0,_=>exact h0 he
   | 1,_=>exact h1 he
   | 2,_=>exact h2 he
   | 3,_=>exact h3 he
   | 4,_=>exact h4 he
   | 5,_=>exact h5 he
   | 6,_=>exact h6 he
theorem Zkk (a o:Str) (k n:Int) (s:Str) (p:Option Addr) (l c:Nat) (k' n':Int) (s':Str) (p':Option Addr) (l' c':Nat) (w):(Instr.build 99 #[(0,str a),(2,str o),(3,.agg #[.I k,.I n,str s,.slice p l c]),(4,.agg #[.I k',.I n',str s',.slice p' l' c'])]).run Tryz.prog w=.ok (.agg #[str a,.I 0,str o,.I k,.I n,str s,.slice p l c,.I k',.I n',str s',.slice p' l' c',str [],str []]) w:=by kernel_rfl
theorem Z6y {x y:Nd} (h:Zd x≠0) (hy:y∈x.kids):Zd y≠0:=by
 intro h0;apply h;rw [Z0S];unfold JD;split;rfl;rw [if_pos (by rw [<- h0];exact Yal hy)]
def Seg (C:List Ins) (p:Nat) (c:List Ins):Prop:=∃ A B,C=A++c++B/\A.length=p
theorem Seg.left {C a b:List Ins} {p:Nat} (h:Seg C p (a++b)):Seg C p a:=by
 obtain ⟨A,B,rfl,hp⟩:=h;exact ⟨A,b++B,by simp,hp⟩
theorem Seg.right {C a b:List Ins} {p:Nat} (h:Seg C p (a++b)):Seg C (p+a.length) b:=by
 obtain ⟨A,B,rfl,hp⟩:=h;exact ⟨A++a,B,by simp,by simp [hp]⟩
theorem Seg.at {C r:List Ins} {x:Ins} {p:Nat} (h:Seg C p (x :: r)):C.getD p ⟨0,0⟩=x:=by
 obtain ⟨A,B,rfl,hp⟩:=h;subst hp;simp
def Z5R (C:List Ins):Nat->Nat->List (Option Shp)->Option (List (Option Shp))
 | _,0,st=>some st
 | p,k+1,st=>(JN st p (C.getD p ⟨0,0⟩)).bind (Z5R C (p+1) k)
theorem Z1w (C:List Ins) (b:Nat):∀ (a p:Nat) (st:List (Option Shp)),Z5R C p (a+b) st=(Z5R C p a st).bind (Z5R C (p+a) b)
 | 0,p,st=>by simp [Z5R]
 | a + 1, p, st => by
   rw [show a+1+b=(a+b)+1 by omega,Z5R,Z5R];cases h:JN st p (C.getD p ⟨0,0⟩) with
   | none=>rfl
   | some st'=>
     simp only [XT];rw [Z1w C b a (p+1) st',show p+1+a=p+(a+1) by omega]
theorem Z43 (C:List Ins) (p:Nat) (st:List (Option Shp)):Z5R C p 1 st=JN st p (C.getD p ⟨0,0⟩):=by
 rw [Z5R];cases JN st p (C.getD p ⟨0,0⟩)<;>rfl
theorem Z9X (C:List Ins) (st:List (Option Shp)):∀ k:Nat,Z3F C k st=Z5R C 0 k st
 | 0=>rfl
 | k + 1 => by
   rw [Z3F,Z1w,Z9X C st k];cases Z5R C 0 k st with
   | none=>rfl
   | some st'=>simp only [XT,XP];rw [Z43]
def Z2P (C:List Ins) (p:Nat) (c:List Ins) (s s':Shp):Prop:=
 ∀ st : List (Option Shp), st.length = C.length -> p + c.length < C.length -> st[p]? = some (some s) -> (∀ i, p < i -> i < p + c.length -> st[i]? = some none)->
   (st[p+c.length]?=some none\/st[p+c.length]?=some (some s'))->
   ∃ st',Z5R C p c.length st=some st'/\st'.length=C.length/\st'[p+c.length]?=some (some s')/\∀ i,p+c.length<i->st'[i]?=st[i]?
theorem Zb9 {st:List (Option Shp)} {t:Nat} {sh:Shp} (h:t<st.length) (h2:st[t]?=some none\/st[t]?=some (some sh)) :
 ∃ st',JF st (t:Int) sh=some st'/\st'.length=st.length/\st'[t]?=some (some sh)/\∀ i,i≠t->st'[i]?=st[i]?:=by
 unfold JF;rw [if_pos (by omega),Ybx,XE];rcases h2 with h2|h2
 rw [h2];exact ⟨_,rfl,by simp,by simp [h],λi hi=>List.getElem?_set_ne (λe=>hi e.symm)⟩;rw [h2];simp only [YaF,if_pos];exact ⟨_,rfl,rfl,h2,λ_ _=>rfl⟩
theorem Z2P.app {C a b:List Ins} {p:Nat} {s s1 s2:Shp} (ha:Z2P C p a s s1) (hb:Z2P C (p+a.length) b s1 s2) (h1:a≠[]) (h2:b≠[]):Z2P C p (a++b) s s2:=by
 intro st hl hlt h0 hn hq;have l1:=XU.2 h1;have l2:=XU.2 h2;simp only [Xd] at hlt hn hq ⊢;obtain ⟨st1,r1,e1,e2,e3⟩:=ha st hl (by omega) h0 (λi hi cg=>hn i hi (by omega)) (.inl (hn _ (by omega) (by omega)));obtain ⟨st2,r2,g1,g2,g3⟩:=hb st1 e1 (by omega) e2 (λi hi cg=>by rw [e3 i hi];exact hn i (by omega) (by omega)) (by rw [e3 _ (by omega),Yau];exact hq);refine ⟨st2,by rw [Z1w,r1];exact r2,g1,by rw [<- Yau];exact g2,λi hi=>by rw [g3 i (by omega),e3 i (by omega)]⟩
theorem Z5S {C:List Ins} {p:Nat} {x:Ins} {s s':Shp} (hs:Seg C p [x]) (h1:x.op≠24) (h2:x.op≠13) (h3:x.op≠14) (hx:Jj x s=some s'):Z2P C p [x] s s':=by
 intro st hl hlt h0 hn hq;simp only [Xe,Xf,XP] at hlt hq ⊢;obtain ⟨st',r1,r2,r3,r4⟩:=Zb9 (st:=st) (t:=p+1) (sh:=s') (by omega) hq;refine ⟨st',?_,by omega,r3,λi hi=>r4 i (by omega)⟩;rw [Z43,hs.at];unfold JN;rw [XE,h0];simp only [YaF,hx];rw [if_neg h1,if_neg h2,if_neg h3];exact r1
def Z7d (b:Nat):List Ins->Shp->Option Shp
 | [],s=>some s
 | x :: r, s => match Jj x s with
   | none=>none
   | some s'=>if s'.length<=b then Z7d b r s' else none
theorem Z2a {x:Ins} {ts r s:Shp} (h:Jj x ts=some r) (hl:s.length+r.length<=16):Jj x (s++ts)=some (s++r):=by
 unfold Jj at h ⊢;dsimp only at h ⊢;split at h;rename_i hc;obtain ⟨c1,c2,c3,c4⟩:=hc;simp only [XK] at h;have e1:(s++ts).length - (Zz x).1.length=s.length+(ts.length - (Zz x).1.length):=by rw [Xd];omega
 have e2:(s++ts).drop (s.length+(ts.length - (Zz x).1.length))=ts.drop (ts.length - (Zz x).1.length):=by
  rw [List.drop_append,List.drop_of_length_le (by omega),XN];congr 1;omega
 have e3:(s++ts).take (s.length+(ts.length - (Zz x).1.length))=s++ts.take (ts.length - (Zz x).1.length):=by
  rw [YaE,XJ (by omega),show s.length+(ts.length - (Zz x).1.length) - s.length=ts.length - (Zz x).1.length by omega]
 rw [e1,e2,e3];have e4:s++ts.take (ts.length - (Zz x).1.length)++(Zz x).2.2.1=s++r:=by rw [XA,h]
 rw [e4,if_pos ⟨c1,by rw [Xd];omega,c3,by rw [Xd];omega⟩];cases h
theorem Z9Y {C:List Ins} (b:Nat):∀ (L:List Ins) (p:Nat) (s ts r:Shp),L≠[]->Seg C p L->(∀ x∈L,x.op≠24/\x.op≠13/\x.op≠14)->Z7d b L ts=some r->s.length+b<=16->Z2P C p L (s++ts) (s++r)
 | [],_,_,_,_,h,_,_,_,_=>absurd rfl h
 | [x], p, s, ts, r, _, hs, ho, hf, hb => by
   obtain ⟨o1,o2,o3⟩:=ho x (by simp);unfold Z7d at hf;cases hx:Jj x ts with
   | none=>rw [hx] at hf;cases hf
   | some s1=>
     rw [hx] at hf;simp only at hf;split at hf;rename_i hl;simp only [Z7d,XK] at hf;subst hf;exact Z5S hs o1 o2 o3 (Z2a hx (by omega));cases hf
 | x :: y :: L, p, s, ts, r, _, hs, ho, hf, hb => by
   obtain ⟨o1,o2,o3⟩:=ho x (by simp);rw [Z7d] at hf;cases hx:Jj x ts with
   | none=>rw [hx] at hf;cases hf
   | some s1=>
     rw [hx] at hf;simp only at hf;split at hf;rename_i hl;have cr:Seg C p ([x]++(y :: L)):=hs;exact Z2P.app (a:=[x]) (Z5S cr.left o1 o2 o3 (Z2a hx (by omega))) (Z9Y b (y :: L) _ s s1 r (by simp) cr.right (λz hz=>ho z (by simp [hz])) hf hb) (by simp) (by simp);cases hf
theorem Zba {C Lc Ly Ln:List Ins} {p:Nat} {s s':Shp} (t1 t2:Int)
 (hs:Seg C p (Lc++[⟨14,t1⟩]++Ly++[⟨13,t2⟩]++Ln)) (re:t1=((p+Lc.length+1+Ly.length+1:Nat):Int)) (mq:t2=((p+Lc.length+1+Ly.length+1+Ln.length:Nat):Int))
 (hc:Z2P C p Lc s (s++[2])) (hy:Z2P C (p+Lc.length+1) Ly s s') (hn:Z2P C (p+Lc.length+1+Ly.length+1) Ln s s') (h1:Lc≠[]) (h2:Ly≠[]) (h3:Ln≠[]) (hl:s.length<=16) (ea:s'.length<=16) :
 Z2P C p (Lc++[⟨14,t1⟩]++Ly++[⟨13,t2⟩]++Ln) s s':=by
 intro st ai hlt h0 bg hq;have l1:=XU.2 h1;have l2:=XU.2 h2;have l3:=XU.2 h3;have dT:(Lc++[(⟨14,t1⟩:Ins)]++Ly++[(⟨13,t2⟩:Ins)]++Ln).length=Lc.length+(1+(Ly.length+(1+Ln.length))):=by simp only [Xd,Xe,Xf];omega
 rw [dT] at hlt bg hq ⊢;have g14:C.getD (p+Lc.length) ⟨0,0⟩=⟨14,t1⟩:=(show Seg C (p+Lc.length) (⟨14,t1⟩ :: (Ly++[⟨13,t2⟩]++Ln)) from (show Seg C p (Lc++(⟨14,t1⟩ :: (Ly++[⟨13,t2⟩]++Ln))) by simpa using hs).right).at;have g13:C.getD (p+Lc.length+1+Ly.length) ⟨0,0⟩=⟨13,t2⟩:=by
  have h:=(show Seg C p ((Lc++[⟨14,t1⟩]++Ly)++(⟨13,t2⟩ :: Ln)) by simpa using hs).right.at;rw [<- h];congr 1;simp only [Xd,Xe,Xf];omega
 obtain ⟨st1,r1,e1,e2,e3⟩:=hc st ai (by omega) h0 (λi hi cg=>bg i hi (by omega)) (.inl (bg _ (by omega) (by omega)));have n14:Jj ⟨14,t1⟩ (s++[2])=some s:=by
  have:=Z2a (x:=⟨14,t1⟩) (ts:=[2]) (r:=[]) (s:=s) (by simp [Jj,Zz]) (by simpa using hl);simpa using this
 obtain ⟨st2,q1,q2,q3,q4⟩:=Zb9 (st:=st1) (t:=p+Lc.length+1+Ly.length+1) (sh:=s) (by omega) (.inl (by rw [e3 _ (by omega)];exact bg _ (by omega) (by omega)));obtain ⟨st3,u1,u2,u3,u4⟩:=Zb9 (st:=st2) (t:=p+Lc.length+1) (sh:=s) (by omega) (.inl (by rw [q4 _ (by omega),e3 _ (by omega)];exact bg _ (by omega) (by omega)));have s14:Z5R C (p+Lc.length) 1 st1=some st3:=by
  rw [Z43,g14];unfold JN;rw [XE,e2];simp only [YaF,n14];rw [if_neg (by simp),if_neg (by simp),if_pos trivial,if_pos (by omega),re,q1];simp only [XT];rw [<- u1];congr 1
 obtain ⟨st4,v1,v2,v3,v4⟩:=hy st3 (by omega) (by omega) u3 (λi hi cg=>by rw [u4 i (by omega),q4 i (by omega),e3 i (by omega)];exact bg i (by omega) (by omega)) (.inl (by rw [u4 _ (by omega),q4 _ (by omega),e3 _ (by omega)];exact bg _ (by omega) (by omega)));have n13:Jj ⟨13,t2⟩ s'=some s':=by
  simp [Jj,Zz,ea]
 have oW:st4[p+Lc.length+1+Ly.length+1+Ln.length]?=st[p+(Lc.length+(1+(Ly.length+(1+Ln.length))))]?:=by
  rw [v4 _ (by omega),u4 _ (by omega),q4 _ (by omega),e3 _ (by omega)];congr 1;omega
 obtain ⟨st5,w1,w2,w3,w4⟩:=Zb9 (st:=st4) (t:=p+Lc.length+1+Ly.length+1+Ln.length) (sh:=s') (by omega) (by rw [oW];exact hq);have s13:Z5R C (p+Lc.length+1+Ly.length) 1 st4=some st5:=by
  rw [Z43,g13];unfold JN;rw [XE,v3];simp only [YaF,n13];rw [if_neg (by simp),if_pos trivial,if_pos (by omega),mq,w1]
 obtain ⟨st6,x1,x2,x3,x4⟩:=hn st5 (by omega) (by omega) (by rw [w4 _ (by omega),v4 _ (by omega),u4 _ (by omega)];exact q3) (λi hi cg=>by rw [w4 i (by omega),v4 i (by omega),u4 i (by omega),q4 i (by omega),e3 i (by omega)];exact bg i (by omega) (by omega)) (.inr w3);refine ⟨st6,?_,x2,?_,λi hi=>by rw [x4 i (by omega),w4 i (by omega),v4 i (by omega),u4 i (by omega),q4 i (by omega),e3 i (by omega)]⟩;rw [Z1w,r1,XT,Z1w,s14,XT,Z1w,v1,XT,Z1w,s13,XT];exact x1;rw [<- x3];congr 1;omega
theorem Znp {x:Sig} (h:Z3Q x≠0):(x,Value.int .i64 (Z3Q x))∈Z3P:=by
 have hs:=Zc1 x;unfold Z3Q Zgb Z3M at *;cases hf:Z3P.find? (λp=>decide (p.1=x)) with
 | none=>rw [hf] at h;simp at h
 | some p=>
   have h1:=X6 hf;have h2:=Ybm hf;simp only [decide_eq_true_eq] at h2;rw [hf] at hs;simp only at hs ⊢;exact (congrArg (·∈Z3P) (Prod.ext h2 hs:p=(x,_))).mp h1
theorem ZgK {x:Sig} (h:Z3Q x≠0):∃ e∈Z3P,x=e.1/\e.2=.I (Z3Q x):=⟨_,Znp h,rfl,rfl⟩
theorem ZoN {ts:List Int} (h0:(0:Int)∉ts) (h3:ts.length<=3) (hn:ts≠[]) (h2:ts.getD 2 0=0):(ts.getD 1 0=0/\ts=[ts.getD 0 0])\/(ts.getD 1 0≠0/\ts=[ts.getD 0 0,ts.getD 1 0]):=by
 match ts,h3 with
 | [],_=>exact absurd rfl hn
 | [a],_=>left;exact ⟨rfl,rfl⟩
 | [a,b],_=>right;refine ⟨λhb=>h0 ?_,rfl⟩;simp at hb;simp [hb]
 | [a,b,c],_=>exact absurd (by simp at h2;simp [h2]) h0
theorem Z7e {k n:Int} {s:Str} {ts:List Int} (h:JD k n s ts≠0) :
 (ts=[]/\JD k n s ts=Z0Q k n s)\/
 ((0:Int)∉ts/\ts.length<=3/\ts≠[]/\((k=9/\ts=[2,JD k n s ts,JD k n s ts])\/(k=6/\ts.getD 2 0=0/\JD k n s ts=Z23 s (ts.getD 0 0) (ts.getD 1 0))\/(JD k n s ts=Z3Q ⟨k,s,ts.getD 0 0,ts.getD 1 0,ts.getD 2 0⟩))):=by
 unfold JD at h ⊢;split at h;exact absurd rfl h;rename_i h3;split at h;exact absurd rfl h;rename_i h0;rw [if_neg h3,if_neg h0];split at h;rename_i he
 left;exact ⟨he,by rw [if_pos he]⟩;rename_i he
 right;rw [if_neg he];refine ⟨h0,by omega,he,?_⟩;split at h;exact absurd rfl h;rename_i hn;rw [if_neg hn];split at h
 . rename_i h9
   left;rw [if_pos h9];refine ⟨h9.1,?_⟩;obtain ⟨_,_,e2,e3⟩:=h9
   match ts,h3 with
   | [],_=>exact absurd rfl he
   | [a],_=>simp at e2 e3 h
   | [a,b],_=>simp at e2 e3 h;exact absurd e3 h
   | [a,b,c],_=>simp at e2 e3 ⊢;exact ⟨e2,e3.symm⟩
   | a :: b :: c :: d :: r,h3=>simp at h3
 rename_i h9;rw [if_neg h9];split at h;rename_i h6
 right;left;rw [if_pos h6];exact ⟨h6.1,h6.2,rfl⟩;rename_i h6
 right;right;rw [if_neg h6]
theorem Znq {α:Type} {l:List α} (h:l.length=2):∃ a b,l=[a,b]:=by
 match l,h with
 | [a,b],_=>exact ⟨a,b,rfl⟩
theorem Znr {α:Type} {l:List α} (h:l.length=3):∃ a b c,l=[a,b,c]:=by
 match l,h with
 | [a,b,c],_=>exact ⟨a,b,c,rfl⟩
theorem ZcH (x:Nd):Zd x≠0->∀ p,Zc x p≠[]:=by
 induction x using Nd.ind with
 | h k n s l ih=>
 intro ht p;have hk:∀ y∈l,Zd y≠0:=λy hy=>Z6y (x:=.mk k n s l) ht hy;rw [Zc];unfold Z1i;have hp:∀ p,l≠[]->Z0L k s (l.map Zc) p≠[]:=by
  intro p hl;unfold Z0L;cases l with
  | nil=>exact absurd rfl hl
  | cons y r=>
    have:=ih y (by simp) (hk y (by simp)) p;simp only [Xt,Js];intro h;simp only [Ybe] at h;exact this h.1.1.1
 split;simp;rename_i hl;have ea:l≠[]:=λh=>hl (by rw [h];rfl)
 split;unfold chC;simp;split;unfold chC;simp;split;unfold chC;simp;split;simp;exact hp p ea
theorem ZcI {C:List Ins}:∀ (l:List Nd),(∀ y∈l,∀ p s,Seg C p (Zc y p)->s.length+Zw y<=16->Z2P C p (Zc y p) s (s++[Zd y]))->(∀ y∈l,∀ p,Zc y p≠[])->
 ∀ p s,l≠[]->Seg C p (Js (l.map Zc) p)->(∀ y∈l,s.length+(l.length - 1)+Zw y<=16)->Z2P C p (Js (l.map Zc) p) s (s++l.map Zd)
 | [],_,_,_,_,h,_,_=>absurd rfl h
 | [y], hr, aS, p, s, _, hs, hb => by
   have e:Js ([y].map Zc) p=Zc y p:=by simp [Js]
   rw [e] at hs ⊢;exact hr y (by simp) p s hs (by have:=hb y (by simp);simpa using this)
 | y :: z :: l, hr, aS, p, s, _, hs, hb => by
   have e:Js ((y :: z :: l).map Zc) p=Zc y p++Js ((z :: l).map Zc) (p+(Zc y p).length):=by simp [Js]
   rw [e] at hs ⊢;have h1:=hr y (by simp) p s hs.left (by have:=hb y (by simp);omega);have h2:=ZcI (z :: l) (λy hy=>hr y (by simp [hy])) (λy hy=>aS y (by simp [hy])) (p+(Zc y p).length) (s++[Zd y]) (by simp) hs.right (λw hw=>by
    have:=hb w (by simp [hw]);simp only [Xd,Xe,Xf] at this ⊢;omega)
   have h3:Js ((z :: l).map Zc) (p+(Zc y p).length)≠[]:=by
    simp only [Xt,Js];intro h;simp only [Ybe] at h;exact aS z (by simp) _ h.1
   have:=Z2P.app h1 h2 (aS y (by simp) p) h3;simpa using this
theorem Z2b {C:List Ins} {l:List Nd} {L:List Ins} {p:Nat} {s ts r:Shp} (hr:∀ y∈l,∀ p s,Seg C p (Zc y p)->s.length+Zw y<=16->Z2P C p (Zc y p) s (s++[Zd y])) (aS:∀ y∈l,∀ p,Zc y p≠[])
 (cj:l.map Zd=ts) (hl:l≠[]) (hL:L≠[]) (hs:Seg C p (Js (l.map Zc) p++L)) (hb:∀ y∈l,s.length+(l.length - 1)+Zw y<=16) (ho:∀ x∈L,x.op≠24/\x.op≠13/\x.op≠14) (hf:Z7d 2 L ts=some r) (h2:s.length+2<=16) :
 Z2P C p (Js (l.map Zc) p++L) s (s++r):=by
 have h1:=ZcI l hr aS p s hl hs.left hb;rw [cj] at h1;have h3:Js (l.map Zc) p≠[]:=by
  cases l with
  | nil=>exact absurd rfl hl
  | cons y l=>
    simp only [Xt,Js];intro h;simp only [Ybe] at h;exact aS y (by simp) _ h.1
 exact Z2P.app h1 (Z9Y 2 L _ s ts r hL hs.right ho hf h2) h3 hL
def Z44 (k:Int) (s:Str):List Ins:=(if k=8\/k=5/\s=[45] then [⟨8,0⟩] else [])++Z2l (opF s)
theorem Z2Q (k:Int) (s:Str) (cs:List Cf) (p:Nat):Z0L k s cs p=Js cs p++Z44 k s:=by unfold Z0L Z44;rw [XA]
def okL (L:List Ins) (ts:List Int) (t:Int):Bool:=decide (L≠[]) && L.all (λx=>decide (x.op≠24/\x.op≠13/\x.op≠14)) && decide (Z7d 2 L ts=some [t])
theorem Z5T {L:List Ins} {ts:List Int} {t:Int} (h:okL L ts t=true):L≠[]/\(∀ x∈L,x.op≠24/\x.op≠13/\x.op≠14)/\Z7d 2 L ts=some [t]:=by
 unfold okL at h;simp only [Xl,decide_eq_true_eq,XW] at h;exact ⟨h.1.1,h.1.2,h.2⟩
def ZoO (e:Zjj):Bool:=
 match e.2 with
 | .I t=>decide (e.1.kind≠9) && decide (e.1.kind≠6) && decide (e.1.c=0) && okL (Z44 e.1.kind e.1.s) (if e.1.b=0 then [e.1.a] else [e.1.a,e.1.b]) t
 | _=>false
theorem Zns:Z3P.all ZoO=true:=by decide +kernel
theorem Zkl:Z14.all (λs=>okL (Z44 6 s++(if s=[45] then [⟨6,0⟩] else [])) [1,1] 1 && !decide (s=[97,110,100]) && !decide (s=[111,114]))=true:=by decide +kernel
theorem Znt:Z2k.all (λs=>okL (Z44 6 s) [1,1] 2 && okL (Z44 6 s) [3,3] 2 && !decide (s=[97,110,100]) && !decide (s=[111,114]) && !decide (s=[45]))=true:=by decide +kernel
theorem ZgL (C:List Ins) (x:Nd):Zd x≠0->∀ p s,Seg C p (Zc x p)->s.length+Zw x<=16->Z2P C p (Zc x p) s (s++[Zd x]):=by
 induction x using Nd.ind with
 | h k n s l ih=>
 intro ht p sh hs hb;have hk:∀ y∈l,Zd y≠0:=λy hy=>Z6y (x:=.mk k n s l) ht hy;have hr:∀ y∈l,∀ p s,Seg C p (Zc y p)->s.length+Zw y<=16->Z2P C p (Zc y p) s (s++[Zd y]):=λy hy=>ih y hy (hk y hy);have aS:∀ y∈l,∀ p,Zc y p≠[]:=λy hy=>ZcH y (hk y hy);have cW:∀ y∈l,Zw y+1<=Zw (.mk k n s l):=λy hy=>by have:=Zc6 (x:=.mk k n s l) hy;omega
 have hrange:=Z3R (.mk k n s l);have lq:Zd (.mk k n s l)=JD k n s (l.map Zd):=Z0S _;rw [Zc] at hs ⊢;rw [lq] at ht hrange ⊢;rcases Z7e ht with ⟨he,hc⟩|⟨h0,h3,mo,hc⟩
 ·
   have hl:l=[]:=by simpa using he
   subst hl;unfold Z1i at hs ⊢;rw [if_pos (show (List.map Zc ([]:List Nd)).length=0 from rfl)] at hs ⊢;rw [hc] at ht ⊢;have ai:sh.length+1<=16:=by
    have:1<=Zw (.mk k n s []):=by rw [Z0T];omega
    omega
   refine Z5S hs ?_ ?_ ?_ ?_;unfold Z1b;split<;>(try split)<;>(try split)<;>simp;unfold Z1b;split<;>(try split)<;>(try split)<;>simp;unfold Z1b;split<;>(try split)<;>(try split)<;>simp;have cu:Jj (Z1b k n s) []=some [Z0Q k n s]:=by
    unfold Z0Q at ht ⊢;unfold Z1b;by_cases k4:k=4;subst k4;rw [if_pos rfl] at ht ⊢;split at ht
    . rename_i hn
      rw [if_pos hn];have hf:((ZR s).2.1=3/\((ZR s).1=0\/(ZR s).1=1))\/((ZR s).2.1=1/\2<=(ZR s).1/\(ZR s).1<7):=by
       have h1:(ZR s).2.2=true:=by
        cases hb:(ZR s).2.2 with
        | true=>rfl
        | false=>exact absurd (Z6j hb) ht
       obtain ⟨i,hi,fc,_⟩:=(Z8w s (ZR s).1).1 ⟨h1,rfl⟩;subst fc
       match i,hi with
       | 0,_=>decide +kernel
       | 1,_=>decide +kernel
       | 2,_=>decide +kernel
       | 3,_=>decide +kernel
       | 4,_=>decide +kernel
       | 5,_=>decide +kernel
       | 6,_=>decide +kernel
      rw [if_neg (by decide),if_neg (by decide),if_neg (by decide)];rcases hf with ⟨e1,e2⟩|⟨e1,e2,e3⟩
      simp [Jj,Zz,e1,e2];omega;simp [Jj,Zz,e1];omega
    exact absurd rfl ht;rw [if_neg k4] at ht ⊢;split at ht;exact absurd rfl ht;rename_i ba;rw [if_neg ba];by_cases k1:k=1;rw [if_pos k1] at ht ⊢;rw [if_pos k1];split at ht;rename_i h;rw [if_pos h];simp [Jj,Zz];omega;exact absurd rfl ht;rw [if_neg k1] at ht ⊢;rw [if_neg k1];by_cases k2:k=2;rw [if_pos k2] at ht ⊢;rw [if_pos k2];split at ht;rename_i h;rw [if_pos h];simp [Jj,Zz];omega;exact absurd rfl ht;rw [if_neg k2] at ht ⊢;rw [if_neg k2];by_cases k3:k=3;rw [if_pos k3] at ht ⊢;rw [if_pos k3];split at ht;rename_i h;rw [if_pos h];simp [Jj,Zz];omega;exact absurd rfl ht;rw [if_neg k3] at ht;exact absurd rfl ht
   have:=Z2a (s:=sh) cu (by simpa using ai);simpa using this
 . have hl:l≠[]:=λh=>mo (by rw [h];rfl)
   have ai:l.length<=3:=by simpa using h3
   have dT:¬ (l.map Zc).length=0:=by simpa using hl
   unfold Z1i at hs ⊢;rw [if_neg dT] at hs ⊢;rcases hc with ⟨h9,cj⟩|⟨h6,mr,ej⟩|tE
   ·
     rw [if_pos h9] at hs ⊢;generalize JD k n s (l.map Zd)=t at *;have iG:l.length=3:=by have:=congrArg List.length cj;simpa using this
     obtain ⟨a,b,c,rfl⟩:=Znr iG;simp only [Xt,XM,Ya5,and_true] at cj;obtain ⟨ta,tb,tc⟩:=cj;simp only [Xt,XM,XB,Yan] at hs ⊢;unfold chC at hs ⊢;have na:=cW a (by simp);have nb:=cW b (by simp);have nc:=cW c (by simp);refine Zba _ _ hs rfl rfl ?_ ?_ ?_ (aS a (by simp) _) (aS b (by simp) _) (aS c (by simp) _) (by omega) (by simp only [Xd,Xe,Xf];omega);rw [<- ta];exact hr a (by simp) p sh (by have:=hs.left.left.left.left;exact this) (by omega);rw [<- tb];have h2:=hs.left.left.right;simp only [Xd,Xe,Xf] at h2;exact hr b (by simp) _ sh h2 (by omega);rw [<- tc];have h2:=hs.right;simp only [Xd,Xe,Xf] at h2;have e:p+((Zc a p).length+(0+1)+(Zc b (p+(Zc a p).length+1)).length+(0+1))=p+(Zc a p).length+1+(Zc b (p+(Zc a p).length+1)).length+1:=by omega
     rw [e] at h2;exact hr c (by simp) _ sh h2 (by omega)
   ·
     subst h6;rw [if_neg (by decide)] at hs ⊢;rcases ZoN h0 h3 mo mr with ⟨mc,cj⟩|⟨mc,cj⟩
     exfalso;apply ht;rw [ej,mc];have nH:(l.map Zd).getD 0 0≠0:=λh=>h0 (by rw [cj,h];simp)
     unfold Z23;split;rw [if_neg (by omega)];split;rw [if_neg (by omega)];split;rw [if_neg (by omega)];rfl;have d8:l.length=2:=by have:=congrArg List.length cj;simpa using this
     obtain ⟨a,b,rfl⟩:=Znq d8;simp only [Xt,XM,XB,Yan] at ej;have na:=cW a (by simp);have nb:=cW b (by simp);have ra:=Z3R a;have jJ:∀ y∈[a,b],sh.length+([a,b].length - 1)+Zw y<=16:=λy hy=>by
      have:=cW y hy;simp only [Xe,Xf];omega
     have h2:sh.length+2<=16:=by
      have:1<=Zw a:=by rw [Z0T];omega
      omega
     by_cases hA:s∈Z14;have aP:=XW.1 Zkl s hA;simp only [Xl,Bool.not_eq_true',decide_eq_false_iff_not] at aP;obtain ⟨⟨aP,ls⟩,eJ⟩:=aP;obtain ⟨o1,o2,o3⟩:=Z5T aP;have cU:Zd a=Zd b/\Zd a=1:=by
      unfold Z23 at ej;rw [if_pos hA] at ej;split at ej;assumption;exact absurd ej ht
     have re:JD 6 n s ([a,b].map Zd)=1:=by
      show JD 6 n s [Zd a,Zd b]=1;rw [ej];unfold Z23;rw [if_pos hA,if_pos cU]
     rw [re];rw [if_neg (by intro h;exact ls h.2),if_neg (by intro h;exact eJ h.2)] at hs ⊢;split at hs;rename_i hm;rw [if_pos hm];rw [Z2Q,XA] at hs ⊢;rw [if_pos hm.2] at o1 o2 o3;exact Z2b hr aS (ts:=[1,1]) (by simp [cU.2,<- cU.1]) (by simp) o1 hs jJ o2 o3 h2;rename_i hm;rw [if_neg hm];have kK:¬ s=[45]:=λh=>hm ⟨rfl,h⟩;rw [if_neg kK,XG] at o1 o2 o3;rw [Z2Q] at hs ⊢;exact Z2b hr aS (ts:=[1,1]) (by simp [cU.2,<- cU.1]) (by simp) o1 hs jJ o2 o3 h2;by_cases hC:s∈Z2k;have aP:=XW.1 Znt s hC;simp only [Xl,Bool.not_eq_true',decide_eq_false_iff_not] at aP;obtain ⟨⟨⟨⟨rf,rg⟩,ls⟩,eJ⟩,vz⟩:=aP;have cU:Zd a=Zd b/\¬ Zd a=2:=by
      unfold Z23 at ej;rw [if_neg hA,if_pos hC] at ej;split at ej;assumption;exact absurd ej ht
     have mq:JD 6 n s ([a,b].map Zd)=2:=by
      show JD 6 n s [Zd a,Zd b]=2;rw [ej];unfold Z23;rw [if_neg hA,if_pos hC,if_pos cU]
     rw [mq];rw [if_neg (by intro h;exact ls h.2),if_neg (by intro h;exact eJ h.2),if_neg (by intro h;exact vz h.2),Z2Q] at hs ⊢;have ka:=hk a (by simp);have cX:Zd a=1\/Zd a=3:=by omega
     rcases cX with h|h
     obtain ⟨o1,o2,o3⟩:=Z5T rf;exact Z2b hr aS (ts:=[1,1]) (by simp [h,<- cU.1]) (by simp) o1 hs jJ o2 o3 h2;obtain ⟨o1,o2,o3⟩:=Z5T rg;exact Z2b hr aS (ts:=[3,3]) (by simp [h,<- cU.1]) (by simp) o1 hs jJ o2 o3 h2;have hL:s∈Z0R:=by
      by_cases hL:s∈Z0R;exact hL;exfalso;apply ht;show JD 6 n s [Zd a,Zd b]=0;rw [ej];unfold Z23;rw [if_neg hA,if_neg hC,if_neg hL]
     have cU:Zd a=Zd b/\Zd a=2:=by
      unfold Z23 at ej;rw [if_neg hA,if_neg hC,if_pos hL] at ej;split at ej;assumption;exact absurd ej ht
     have mq:JD 6 n s ([a,b].map Zd)=2:=by
      show JD 6 n s [Zd a,Zd b]=2;rw [ej];unfold Z23;rw [if_neg hA,if_neg hC,if_pos hL,if_pos cU]
     rw [mq];have hconst:∀ (z:Int) (q:Nat),(z=0\/z=1)->Seg C q [⟨2,z⟩]->Z2P C q [⟨2,z⟩] sh (sh++[2]):=λz q hz vA=>by
      have cu:Jj ⟨2,z⟩ []=some [2]:=by simp [Jj,Zz,hz]
      have:=Z2a (s:=sh) cu (by simp only [Xe,Xf];omega);rw [XG] at this;exact Z5S vA (by simp) (by simp) (by simp) this
     simp only [Z0R,Xb,Xj,or_false] at hL;rcases hL with hL|hL
     rw [if_pos ⟨rfl,hL⟩] at hs ⊢;simp only [Xt,XM,XB,Yan] at hs ⊢;unfold chC at hs ⊢;refine Zba _ _ hs rfl rfl ?_ ?_ ?_ (aS a (by simp) _) (aS b (by simp) _) (by simp) (by omega) (by simp only [Xd,Xe,Xf];omega);have h1:=hr a (by simp) p sh hs.left.left.left.left (by omega);rw [cU.2] at h1;exact h1;have h2:=hs.left.left.right;simp only [Xd,Xe,Xf] at h2;have h1:=hr b (by simp) _ sh h2 (by omega);rw [<- cU.1,cU.2] at h1;exact h1;have h2:=hs.right;simp only [Xd,Xe,Xf] at h2;have e:p+((Zc a p).length+(0+1)+(Zc b (p+(Zc a p).length+1)).length+(0+1))=p+(Zc a p).length+1+(Zc b (p+(Zc a p).length+1)).length+1:=by omega
     rw [e] at h2;exact hconst 0 _ (.inl rfl) h2;have ri:¬ ((6:Int)=6/\s=[97,110,100]):=by rintro ⟨_,h⟩;rw [hL] at h;exact absurd h (by decide)
     rw [if_neg ri,if_pos ⟨rfl,hL⟩] at hs ⊢;simp only [Xt,XM,XB,Yan] at hs ⊢;unfold chC at hs ⊢;refine Zba _ _ hs rfl rfl ?_ ?_ ?_ (aS a (by simp) _) (by simp) (aS b (by simp) _) (by omega) (by simp only [Xd,Xe,Xf];omega);have h1:=hr a (by simp) p sh hs.left.left.left.left (by omega);rw [cU.2] at h1;exact h1;have h2:=hs.left.left.right;simp only [Xd,Xe,Xf] at h2;exact hconst 1 _ (.inr rfl) h2;have h2:=hs.right;simp only [Xd,Xe,Xf] at h2;have e:p+((Zc a p).length+(0+1)+(0+1)+(0+1))=p+(Zc a p).length+1+(0+1)+1:=by omega
     rw [e] at h2;have h1:=hr b (by simp) _ sh h2 (by omega);rw [<- cU.1,cU.2] at h1;exact h1
   ·
     obtain ⟨e,he,jf,bD⟩:=ZgK (by rw [<- tE];exact ht);have aP:=XW.1 Zns e he;unfold ZoO at aP;rw [bD] at aP;simp only [Xl,decide_eq_true_eq] at aP;obtain ⟨⟨⟨k9,k6⟩,iA⟩,lu⟩:=aP;rw [<- jf] at k9 k6 iA lu;simp only at k9 k6 iA lu;obtain ⟨o1,o2,o3⟩:=Z5T lu;rw [if_neg k9,if_neg (by intro h;exact k6 h.1),if_neg (by intro h;exact k6 h.1),if_neg (by intro h;exact k6 h.1),Z2Q] at hs ⊢;rw [tE];have cj:l.map Zd=(if (l.map Zd).getD 1 0=0 then [(l.map Zd).getD 0 0] else [(l.map Zd).getD 0 0,(l.map Zd).getD 1 0]):=by
      rcases ZoN h0 h3 mo iA with ⟨h1,h2⟩|⟨h1,h2⟩
      rw [if_pos h1];exact h2;rw [if_neg h1];exact h2
     have d8:l.length<=2:=by
      have:=congrArg List.length cj;rw [Xu] at this;split at this<;>simp only [Xe,Xf] at this<;>omega
     have h2:sh.length+2<=16:=by
      cases l with
      | nil=>exact absurd rfl hl
      | cons y r=>
        have:=cW y (by simp);have:1<=Zw y:=by rw [Z0T];omega
        omega
     exact Z2b hr aS cj hl o1 hs (λy hy=>by have:=cW y hy;omega) o2 o3 h2
theorem Z9Z (y:Nd) (ht:Zd y≠0) (hn:Zw y<=12) (hl:(ZU y).length<=200):Z29 (ZU y)=(Zd y,0):=by
 have aS:=ZcH y ht 0;have bj:=XU.2 aS;unfold ZU at hl ⊢;have ai:(Zc y 0++[(⟨24,0⟩:Ins)]).length=(Zc y 0).length+1:=by simp
 have hr:=ZgL (Zc y 0++[⟨24,0⟩]) y ht 0 [] ⟨[],[⟨24,0⟩],by simp,rfl⟩ (by simp only [Xf];omega);obtain ⟨st,r1,r2,r3,_⟩:=hr ((some []) :: List.replicate ((Zc y 0++[(⟨24,0⟩:Ins)]).length - 1) none) (by simp) (by rw [ai];omega) (by simp) (λi hi cg=>by
  cases i with
  | zero=>omega
  | succ i=>
    rw [YaO,Ya9,if_pos (by rw [ai];omega)]) (.inl (by
  rw [XP];obtain ⟨m,hm⟩:∃ m,(Zc y 0).length=m+1:=⟨(Zc y 0).length - 1,by omega⟩
  rw [hm,YaO,Ya9,if_pos (by rw [ai];omega)]))
 rw [XP] at r3;rw [XN] at r3;unfold Z29;rw [if_neg (by rw [ai] at hl ⊢;omega)];have bh:Z3F (Zc y 0++[⟨24,0⟩]) (Zc y 0++[(⟨24,0⟩:Ins)]).length ((some []) :: List.replicate ((Zc y 0++[(⟨24,0⟩:Ins)]).length - 1) none)=some st:=by
  rw [Z9X]
  conv=>lhs;arg 3;rw [ai]
  rw [Z1w,r1,XT,XP,Z43];have hg:(Zc y 0++[(⟨24,0⟩:Ins)]).getD (Zc y 0).length ⟨0,0⟩=⟨24,0⟩:=by simp
  rw [hg];unfold JN;rw [XE,r3];have cu:Jj ⟨24,0⟩ [Zd y]=some [Zd y]:=by simp [Jj,Zz]
  simp only [YaF,cu];rw [if_pos trivial,if_pos (by constructor<;>simp [r2])]
 rw [bh];have e:(Zc y 0++[(⟨24,0⟩:Ins)]).length - 1=(Zc y 0).length:=by rw [ai];omega
 simp only [e];rw [XE,r3];rfl
structure Hol where
 kind:Int
 month:Int
 day:Int
 wd:Int
 nth:Int
 off:Int
 move:Int
 first:Int
 last:Int
structure Clo where
 lo:Int
 hi:Int
 known:Int
structure Cal where
 week:List Bool
 hols:List Hol
 clos:List Clo
def ZL (d:Int):Bool:=decide (0<=d/\d<=3652058)
def Z3B (y:Int):Int:=
 let a:=y % 19
 let b:=y / 100
 let c:=y % 100
 let g:=(b - (b+8) / 25+1) / 3
 let h:=(19 * a+b - b / 4 - g+15) % 30
 let l:=(32+2 * (b % 4)+2 * (c / 4) - h - c % 4) % 7
 h+l - 7 * ((a+11 * h+22 * l) / 451)+114
def Z5U (y:Int):Int:=Z0c y (Z3B y / 31) (Z3B y % 31+1)
def Z45 (y m wd:Int):Int:=Z0c y m 1+(wd - Z0c y m 1 % 7+7) % 7
def Znu (h:Hol) (y:Int):Option Int:=
 if y<h.first\/h.last<y then none
 else if h.kind=1 then (if Z28 y h.month h.day then none else some (Z0c y h.month h.day))
 else if h.kind=2 then (if Z45 y h.month h.wd+7 * (h.nth - 1)<Z0c y h.month 1+ZI y h.month then some (Z45 y h.month h.wd+7 * (h.nth - 1)) else none)
 else if h.kind=3 then some (Z45 y h.month h.wd+(Z0c y h.month 1+ZI y h.month - 1 - Z45 y h.month h.wd) / 7 * 7)
 else if y<1583\/9999<y then none else some (Z5U y+h.off)
def Z46 (m d:Int):Int:=if m=1/\d % 7=5 then d+2 else if m=2/\d % 7=5 then d - 1 else if (m=1\/m=2)/\d % 7=6 then d+1 else d
def Z2u (h:Hol) (y:Int):Option Int:=(Znu h y).bind λd=>if ZL (Z46 h.move d) then some (Z46 h.move d) else none
structure Z2c (h:Hol):Prop where
 k1:1<=h.kind
 k2:h.kind<=4
 m1:0<=h.move
 m2:h.move<=2
 f1:1<=h.first
 l1:h.last<=9999
 month:h.kind≠4->1<=h.month/\h.month<=12
 day:h.kind=1->1<=h.day/\h.day<=31
 wd:h.kind=2\/h.kind=3->0<=h.wd/\h.wd<=6
 nth:h.kind=2->1<=h.nth/\h.nth<=5
 off:h.kind=4->-100<=h.off/\h.off<=100
def Z8x (l:List Hol) (d:Int):Bool:=
 ZL d && [(ofM d).y - 1,(ofM d).y,(ofM d).y+1].any λy=>l.any λh=>decide (Z2u h y=some d)
def ZcJ (l:List Clo) (known d:Int):Bool:=l.any λx=>decide (x.known<=known/\x.lo<=d/\d<=x.hi)
def Zft (c:Cal) (known d:Int):Bool:=c.week.getD (d % 7).toNat false || ZcJ c.clos known d || Z8x c.hols d
def Zx (c:Cal) (known d:Int):Bool:=ZL d && !Zft c known d
structure Zkm (c:Cal):Prop where
 week:c.week.length=7
 hols:∀ h∈c.hols,Z2c h
 few:c.hols.length<=6
def Z47 (opn:Int->Bool) (step:Int):Nat->Int->Int×Int
 | 0,_=>(0,31)
 | k+1,d=>if ZL d=true then (if opn d=true then (d,0) else Z47 opn step k (d+step)) else (0,31)
def Jz (opn:Int->Bool) (step d:Int):Int×Int:=if ZL d=true then Z47 opn step 1001 d else (0,5)
def Z6z (opn:Int->Bool) (step:Int):Nat->Int->Int×Int
 | 0,d=>(d,0)
 | k+1,d=>if (Jz opn step (d+step)).2=0 then Z6z opn step k (Jz opn step (d+step)).1 else (0,31)
def Z6A (opn:Int->Bool) (d n:Int):Int×Int:=
 if ZL d=true then (if n < -1000\/1000<n then (0,2) else Z6z opn (if n<0 then -1 else 1) n.natAbs d) else (0,5)
def ZcK (d n:Int):Int×Int:=
 if n < -200000\/200000<n then (0,2) else if ZL d=true then
  (let m:=12 * (ofM d).y+(ofM d).m - 1+n
   if m<12\/120000<=m then (0,5) else (Z0c (m / 12) (m % 12+1) (min (ofM d).d (ZI (m / 12) (m % 12+1))),0))
 else (0,5)
def Z48 (b:Bool):Int:=if b=true then 1 else 0
def Z4R (n:Int):Int×Int:=if n < -2147483647\/2147483647<n then (0,5) else (n,0)
def Z6B (n:Int):Int×Int:=if n<0\/3652058<n then (0,5) else (n,0)
def ZcL (ev:List Int) (n:Int):Int×Int:=if n=1/\ev.getD 1 0=-1 then (0,32) else (ev.getD n.toNat 0,0)
def ZcM (opn:Int->Bool) (op b:Int):Int×Int:=
 if op=8 then (-b,0) else if op=19 then Jz opn 1 b else if op=20 then Jz opn (-1) b else (1 - b,0)
def Z3G (opn:Int->Bool) (op a b:Int):Int×Int:=
 if op=5 then Z4R (a+b) else if op=6 then Z4R (a - b) else if op=7 then Z4R (a * b)
 else if op=9 then (Z48 (decide (a<b)),0) else if op=10 then (Z48 (decide (a<=b)),0) else if op=11 then (Z48 (decide (a=b)),0)
 else if op=15 then Z6B (a+b) else if op=16 then Z6B (a+7 * b) else if op=17 then ZcK a b else if op=18 then Z6A opn a b
 else if op=21 then (max a b,0) else if op=22 then (min a b,0) else (b - a,0)
def arM (op:Int):Nat:=if op=1\/op=2\/op=3\/op=4 then 0 else if op=8\/op=12\/op=19\/op=20 then 1 else 2
def Z0d (opn:Int->Bool) (ev:List Int) (x:Ins) (a b:Int):Int×Int:=
 if x.op=4 then ZcL ev x.n else if arM x.op=0 then (x.n,0) else if arM x.op=1 then ZcM opn x.op b else Z3G opn x.op a b
abbrev Spn:=Int×Int
def JZ (op a b r:Int):List Spn:=
 if op=19 then [(b,r)] else if op=20 then [(r,b)] else if op=18 then (if 0<b then [(a+1,r)] else if b<0 then [(r,a - 1)] else []) else []
def Z07 (st:List Int) (k:Nat):Int:=if k<st.length then st.getD (st.length - 1 - k) 0 else 0
def Z6C (opn:Int->Bool) (ev:List Int) (C:List Ins):Nat->Nat->List Int->List Spn->Int×List Spn×Int
 | 0,_,_,_=>(0,[],22)
 | f + 1, i, st, sp=>
   let x:=C.getD i ⟨0,0⟩
   let b:=Z07 st 0
   let a:=Z07 st 1
   if x.op=24 then (b,sp,0)
   else if x.op=13 then Z6C opn ev C f x.n.toNat st sp
   else if x.op=14 then Z6C opn ev C f (if b=0 then x.n.toNat else i+1) st.dropLast sp
   else if (Z0d opn ev x a b).2=0 then Z6C opn ev C f (i+1) (st.take (st.length - arM x.op)++[(Z0d opn ev x a b).1]) (sp++JZ x.op a b (Z0d opn ev x a b).1)
   else (0,[],(Z0d opn ev x a b).2)
def Jk (opn:Int->Bool) (ev:List Int) (C:List Ins):Int×List Spn×Int:=Z6C opn ev C C.length 0 [] []
def vOk (t v:Int):Prop:=(t=1/\-2147483647<=v/\v<=2147483647)\/(t=2/\(v=0\/v=1))\/(t=3/\0<=v/\v<=3652058)
structure Zeu (ev:List Int):Prop where
 len:ev.length=7
 day:0<=ev.getD 0 0/\ev.getD 0 0<=3652058
 served:-1<=ev.getD 1 0/\ev.getD 1 0<=3652058
 rest:∀ i,2<=i->i<7->-2147483647<=ev.getD i 0/\ev.getD i 0<=2147483647
def Z0q (s:Shp) (st:List Int):Prop:=s.length=st.length/\∀ i (h:i<s.length) (h':i<st.length),vOk s[i] st[i]
theorem ZM {d:Int}:ZL d=true↔0<=d/\d<=3652058:=by unfold ZL;simp
theorem ZcN (opn:Int->Bool) (step:Int):∀ (k:Nat) (d:Int),(Z47 opn step k d).2=0->ZL (Z47 opn step k d).1=true/\opn (Z47 opn step k d).1=true
 | 0,d,h=>by simp [Z47] at h
 | k + 1, d, h => by
   unfold Z47 at h ⊢;split at h;rename_i h1;rw [if_pos h1];split at h;rename_i h2;rw [if_pos h2];exact ⟨h1,h2⟩;rename_i h2;rw [if_neg h2];exact ZcN opn step k _ h;simp at h
theorem Z49 {opn:Int->Bool} {step d:Int} (h:(Jz opn step d).2=0):ZL (Jz opn step d).1=true/\ZL d=true:=by
 unfold Jz at h ⊢;split at h;rename_i h1;rw [if_pos h1];exact ⟨(ZcN _ _ _ _ h).1,h1⟩;simp at h
theorem Zfu (opn:Int->Bool) (step:Int):∀ (k:Nat) (d:Int),ZL d=true->(Z6z opn step k d).2=0->ZL (Z6z opn step k d).1=true
 | 0,d,hd,h=>hd
 | k + 1, d, hd, h => by
   unfold Z6z at h ⊢;split at h;rename_i h1;rw [if_pos h1];exact Zfu opn step k _ (Z49 h1).1 h;simp at h
theorem Znv {opn:Int->Bool} {d n:Int} (h:(Z6A opn d n).2=0):ZL (Z6A opn d n).1=true:=by
 unfold Z6A at h ⊢;split at h;rename_i h1;rw [if_pos h1];split at h;simp at h;rename_i h2;rw [if_neg h2];exact Zfu _ _ _ _ h1 h;simp at h
theorem dayM_range {y m d:Int} (hy:1<=y) (eH:y<=9999) (hm:1<=m) (eG:m<=12) (hd:1<=d) (dw:d<=ZI y m):0<=Z0c y m d/\Z0c y m d<=3652058:=by
 obtain ⟨k,hk⟩:∃ k:Nat,m=(k:Int)+1:=⟨(m - 1).toNat,by omega⟩
 subst hk;have hk:k<=11:=by omega
 rw [Z2M y d k hk];have h0:Z1h 1=0:=by decide
 have h1:=Z3Z hy;have h2:=Z3Z (show y+1<=10000 by omega);have h3:Z1h 10000=3652059:=by decide
 have iA:0<=Z2n y k:=by
  have:=Z4z (y:=y) (Xp k) (by omega);simpa [Z2n] using this
 have hc:Z2n y (k+1)=Z2n y k+ZI y ((k:Int)+1):=by simp [Z2n]
 have vB:=Z4z (y:=y) (show k+1<=12 by omega) (Xn _);have hs:=Z77 y;have mu:=ZwO y;omega
theorem Znw {d n:Int} (h:(ZcK d n).2=0):ZL (ZcK d n).1=true:=by
 unfold ZcK at h ⊢;split at h;simp at h;rename_i h0;rw [if_neg h0];split at h;rename_i h1;rw [if_pos h1];dsimp only at h ⊢;split at h;simp at h;rename_i h2;rw [if_neg h2];rw [ZM] at h1 ⊢;obtain ⟨a1,a2,a3,a4,a5,a6,a7⟩:=Z5m h1.1 h1.2;generalize 12 * (ofM d).y+(ofM d).m - 1+n=m at h2;have hk:(m % 12).toNat<12:=by omega
 have hl:=Z2t (y:=m / 12) hk;rw [show (((m % 12).toNat:Int))=m % 12 by omega] at hl;dsimp only;exact dayM_range (by omega) (by omega) (by omega) (by omega) (by omega) (by omega);simp at h
theorem Z0q.nil:Z0q [] []:=⟨rfl,λi h=>absurd h (Xw _)⟩
theorem Z0q.one {t v:Int} (h:vOk t v):Z0q [t] [v]:=⟨rfl,λi hi _=>by
 have:i=0:=by simpa using hi
 subst this;exact h⟩
theorem Z0q.app {s1 s2:Shp} {l1 l2:List Int} (h1:Z0q s1 l1) (h2:Z0q s2 l2):Z0q (s1++s2) (l1++l2):=by
 refine ⟨by simp [h1.1,h2.1],λi h h'=>?_⟩;by_cases hi:i<s1.length;rw [X8 hi,X8 (by rw [<- h1.1];exact hi)];exact h1.2 i hi _;have e:=h1.1;rw [X5 (by omega),X5 (by omega)];have:=h2.2 (i - s1.length) (by simp at h;omega) (by simp at h';omega);simpa [e] using this
theorem Z0q.take {s:Shp} {l:List Int} (h:Z0q s l) (k:Nat):Z0q (s.take k) (l.take k):=
 ⟨by simp [h.1],λi hi cH=>by simp at hi cH ⊢;exact h.2 i _ _⟩
theorem Z0q.drop {s:Shp} {l:List Int} (h:Z0q s l) (k:Nat):Z0q (s.drop k) (l.drop k):=
 ⟨by simp [h.1],λi hi cH=>by simp at hi cH ⊢;exact h.2 _ _ _⟩
theorem Z0q.one_inv {t:Int} {l:List Int} (h:Z0q [t] l):∃ v,l=[v]/\vOk t v:=by
 match l,h with
 | [v],h=>exact ⟨v,rfl,h.2 0 (by simp) (by simp)⟩
 | [],h=>exact absurd h.1 (by simp)
 | _ :: _ :: _,h=>exact absurd h.1 (by simp)
theorem Z0q.two_inv {t u:Int} {l:List Int} (h:Z0q [t,u] l):∃ a b,l=[a,b]/\vOk t a/\vOk u b:=by
 match l,h with
 | [a,b],h=>exact ⟨a,b,rfl,h.2 0 (by simp) (by simp),h.2 1 (by simp) (by simp)⟩
 | [],h=>exact absurd h.1 (by simp)
 | [_],h=>exact absurd h.1 (by simp)
 | _ :: _ :: _ :: _,h=>exact absurd h.1 (by simp)
theorem Z1T (l:List Int) (v:Int):Z07 (l++[v]) 0=v:=by
 unfold Z07;simp
theorem Jp (l:List Int) (a b:Int):Z07 (l++[a,b]) 0=b/\Z07 (l++[a,b]) 1=a:=by
 unfold Z07;constructor<;>simp [XE,YaH]
theorem Znx {n:Int} (h:(Z4R n).2=0):vOk 1 (Z4R n).1:=by
 unfold Z4R at h ⊢;split at h;simp at h;rename_i h1;rw [if_neg h1];left;refine ⟨rfl,?_,?_⟩<;>dsimp only<;>omega
theorem Zny {n:Int} (h:(Z6B n).2=0):vOk 3 (Z6B n).1:=by
 unfold Z6B at h ⊢;split at h;simp at h;rename_i h1;rw [if_neg h1];right;right;refine ⟨rfl,?_,?_⟩<;>dsimp only<;>omega
theorem Ztu (b:Bool):vOk 2 (Z48 b):=by
 right;left;refine ⟨rfl,?_⟩;unfold Z48;cases b<;>simp
theorem vOk.days {v:Int} (h:ZL v=true):vOk 3 v:=.inr (.inr ⟨rfl,ZM.1 h⟩)
theorem vOk.n {v:Int} (h:vOk 1 v):-2147483647<=v/\v<=2147483647:=by unfold vOk at h;omega
theorem vOk.b {v:Int} (h:vOk 2 v):v=0\/v=1:=by unfold vOk at h;omega
theorem vOk.d {v:Int} (h:vOk 3 v):0<=v/\v<=3652058:=by unfold vOk at h;omega
theorem Z8y {x:Ins} (h:(Zz x).2.2.2=true):1<=x.op/\x.op<=24:=by
 by_cases h1:1<=x.op/\x.op<=24;exact h1
 . exfalso
   have:Zz x=([],[],[],false):=by
    unfold Zz
    repeat rw [if_neg (by omega)]
   rw [this] at h;simp at h
theorem Ztv {opn:Int->Bool} {ev:List Int} (bD:Zeu ev) {x:Ins} {ts vs:List Int} (hx:(Zz x).2.2.2=true) (de:x.op≠24) (cX:x.op≠13) (eh:x.op≠14)
 (ht:ts=(Zz x).1\/(Zz x).2.1≠[]/\ts=(Zz x).2.1) (hs:Z0q ts vs) :
 ts.length=arM x.op/\(Zz x).1.length=arM x.op/\∀ st,((Z0d opn ev x (Z07 (st++vs) 1) (Z07 (st++vs) 0)).2=0->Z0q (Zz x).2.2.1 [(Z0d opn ev x (Z07 (st++vs) 1) (Z07 (st++vs) 0)).1]):=by
 have hr:=Z8y hx;obtain ⟨op,n⟩:=x;dsimp only at *;have fI:op=1\/op=2\/op=3\/op=4\/op=5\/op=6\/op=7\/op=8\/op=9\/op=10\/op=11\/op=12\/op=15\/op=16\/op=17\/op=18\/op=19\/op=20\/op=21\/op=22\/op=23:=by omega
 rcases fI with rfl|rfl|rfl|rfl|rfl|rfl|rfl|rfl|rfl|rfl|rfl|rfl|rfl|rfl|rfl|rfl|rfl|rfl|rfl|rfl|rfl
 case inl|inr.inl|inr.inr.inl=>
  simp [Zz] at hx ht ⊢;subst ht;refine ⟨rfl,rfl,λst _=>Z0q.one ?_⟩;simp [Z0d,arM,vOk];omega
 case inr.inr.inr.inl=>
  simp [Zz] at hx ht ⊢;subst ht;refine ⟨rfl,rfl,λst h=>Z0q.one ?_⟩;simp only [Z0d,if_true] at h ⊢;unfold ZcL at h ⊢;split at h;simp at h;rename_i h1;rw [if_neg h1];dsimp only;have h0:=bD.day;have cr:=bD.served;by_cases iq:n=0\/n=1;rw [if_pos iq]
  right;right;rcases iq with rfl|rfl
  exact ⟨rfl,h0.1,h0.2⟩;refine ⟨rfl,?_,cr.2⟩;have:¬ ev.getD 1 0=-1:=λh=>h1 ⟨rfl,h⟩;show 0<=ev.getD 1 0;omega;rw [if_neg iq]
  left;exact ⟨rfl,bD.rest n.toNat (by omega) (by omega)⟩
 all_goals
  simp [Zz] at hx ht ⊢
  try subst hx
 all_goals
  first
  | (subst ht
     obtain ⟨b,rfl,hb⟩:=hs.one_inv;refine ⟨rfl,rfl,λst h=>Z0q.one ?_⟩;simp only [Z1T] at h ⊢;simp [Z0d,arM,ZcM,Z3G] at h ⊢;first
     | exact .days (Z49 h).1
     | (have:=hb.n;unfold vOk;omega)
     | (have:=hb.b;unfold vOk;omega))
  | (rcases ht with rfl | rfl <;>
     (obtain ⟨a,b,rfl,ha,hb⟩:=hs.two_inv
      refine ⟨rfl,rfl,λst h=>Z0q.one ?_⟩;simp only [Jp] at h ⊢;simp [Z0d,arM,ZcM,Z3G] at h ⊢;exact Ztu _))
  | (subst ht
     obtain ⟨a,b,rfl,ha,hb⟩:=hs.two_inv;refine ⟨rfl,rfl,λst h=>Z0q.one ?_⟩;simp only [Jp] at h ⊢;simp [Z0d,arM,ZcM,Z3G] at h ⊢;first
     | exact Znx h
     | exact Zny h
     | exact .days (Znw h)
     | exact .days (Znv h)
     | (have:=ha.d;have:=hb.d;unfold vOk;omega))
theorem ZcO {opn:Int->Bool} {ev:List Int} (bD:Zeu ev) {x:Ins} {s nx:Shp} {st:List Int} (hn:Jj x s=some nx) (de:x.op≠24) (cX:x.op≠13) (eh:x.op≠14) (hs:Z0q s st)
 (he:(Z0d opn ev x (Z07 st 1) (Z07 st 0)).2=0):Z0q nx (st.take (st.length - arM x.op)++[(Z0d opn ev x (Z07 st 1) (Z07 st 0)).1]):=by
 unfold Jj at hn;dsimp only at hn;split at hn;rename_i hc;obtain ⟨c1,c2,c3,c4⟩:=hc;simp only [XK] at hn;subst hn;have bC:st=st.take (s.length - (Zz x).1.length)++st.drop (s.length - (Zz x).1.length):=(XO _ _).symm;obtain ⟨v1,v2,v3⟩:=Ztv (opn:=opn) bD c1 de cX eh c3 (hs.drop _);have v4:=v3 (st.take (s.length - (Zz x).1.length));rw [<- bC] at v4;rw [<- v2,<- hs.1];exact (hs.take _).app (v4 he);cases hn
end Go.Proofs.YtipfkbkkndacjaaGreatDoor
namespace Go.Eng
open Go Go.RowKit Go.Proofs
end Go.Eng
namespace Go.Proofs.YtipfkbkkndacjaaGreatDoor
open Go Go.Eng Go.RowKit
instance:Z3 Hol where
 k:=9
 enc:=λh=>[.I h.kind,.I h.month,.I h.day,.I h.wd,.I h.nth,.I h.off,.I h.move,.I h.first,.I h.last]
 len:=λ_=>rfl
 one:=by intro x u hu;simp at hu;rcases hu with rfl|rfl|rfl|rfl|rfl|rfl|rfl|rfl|rfl<;>rfl
instance:Z3 Clo where
 k:=3
 enc:=λh=>[.I h.lo,.I h.hi,.I h.known]
 len:=λ_=>rfl
 one:=by intro x u hu;simp at hu;rcases hu with rfl|rfl|rfl<;>rfl
instance:Z3 Spn where
 k:=2
 enc:=λh=>[.I h.1,.I h.2]
 len:=λ_=>rfl
 one:=by intro x u hu;simp at hu;rcases hu with rfl|rfl<;>rfl
def Z6D:List Int:=[0,0,0,0,0,0,0,0,0,0,0,0,2,1,0,0,0,0,0,-1,1]
def Z2R (w:World):Prop:=∀ i u,Z6D[i]?=some u->w.cell? ⟨4,i,none⟩=some (.I u)
theorem Z2R.ext {S:List Nat} {w w':World} (h:Z2R w) (hS:Stp S w w') (hb:4∉S):Z2R w':=λi u hu=>hS.cell hb (h i u hu)
theorem Z2R.up {w w':World} (h:Z2R w) (hS:Stp [] w w'):Z2R w':=h.ext hS (by simp)
structure MK where
 w0:World
 bm:Nat
 nk:Option Nat
 ev:List Int
 c:Cal
 kn:Int
 hv:Value
 cv:Value
 zo:Value
 zs:Value
 hr:Value
 pr:List (Nat×Obj)
def Z0j (c:Cal) (hv cv zo zs hr:Value):List Value:=
 [.B (c.week.getD 0 false),.B (c.week.getD 1 false),.B (c.week.getD 2 false),.B (c.week.getD 3 false),.B (c.week.getD 4 false),.B (c.week.getD 5 false),.B (c.week.getD 6 false),hv,cv,zo,zs,hr]
def evC (ev:List Int):List Value:=[.I (ev.getD 0 0),.I (ev.getD 1 0),.I (ev.getD 2 0),.I (ev.getD 3 0),.I (ev.getD 4 0),.I (ev.getD 5 0),.I (ev.getD 6 0)]
def ZoP (nk:Option Nat):Value:=match nk with|none=>.nilIface|some bs=>.func (.func 80) #[] #[pQ bs]
def Z5V (K:MK) (sv:Value) (at_ er:Int) (dn:Bool):List Value:=
 evC K.ev++Z0j K.c K.hv K.cv K.zo K.zs K.hr++[.I K.kn,sv,.I at_,.I er,.B dn,ZoP K.nk]
def MK.own (K:MK):List Nat:=K.bm :: K.nk.toList
structure KOk (K:MK):Prop where
 hols:SlV K.own K.w0 K.hv K.c.hols
 clos:SlV K.own K.w0 K.cv K.c.clos
 ozo:K.zo.oneCell'=true
 ozs:K.zs.oneCell'=true
 ohr:K.hr.oneCell'=true
 len:Z0z K.w0
 mov:Z2R K.w0
 bml:K.bm<K.w0.heap.size
 nkl:∀ b,K.nk=some b->b<K.w0.heap.size/\b≠K.bm
 gl:∀ b∈K.own,b≠3/\b≠4
 cal:Zkm K.c
 ev:Zeu K.ev
 nks:K.nk≠none
structure Mch (K:MK) (w:World) (sv pv:Value) (st:List Int) (sp:List Spn) (at_ er:Int) (dn:Bool):Prop where
 blk:Blk w K.bm 167 (Z5V K sv at_ er dn)
 row:Row [] w K.w0.heap.size 3 sv st
 nt:∀ bs,K.nk=some bs->Blk w bs 27 [pv]/\Row [] w K.w0.heap.size 75 pv sp
 nt0:K.nk=none->pv=.N
 ap:∀ b∈ob sv,b∉ob pv
 stp:Stp K.own K.w0 w
 prot:∀ p∈K.pr,w.heap[p.1]?=some p.2/\p.1∉K.own/\p.1∉ob sv/\p.1∉ob pv
section
variable {K:MK} {w w':World} {sv pv:Value} {st:List Int} {sp:List Spn} {at_ er:Int} {dn:Bool}
theorem Mch.up (h:Mch K w sv pv st sp at_ er dn) (hS:Stp [] w w'):Mch K w' sv pv st sp at_ er dn:=
 ⟨h.blk.up hS,h.row.up hS,λbs hb=>⟨(h.nt bs hb).1.up hS,(h.nt bs hb).2.up hS⟩,h.nt0,h.ap,h.stp.trans hS.mn,λp hp=>let ⟨a,b,c,d⟩:=h.prot p hp;⟨(hS.block p.1 (Xm.1 a).1 (by simp)).trans a,b,c,d⟩⟩
theorem Mch.hols (hK:KOk K) (h:Mch K w sv pv st sp at_ er dn):SlV K.own w K.hv K.c.hols:=hK.hols.ext h.stp (λb hb=>hb) (λb hb=>.inl hb)
theorem Mch.clos (hK:KOk K) (h:Mch K w sv pv st sp at_ er dn):SlV K.own w K.cv K.c.clos:=hK.clos.ext h.stp (λb hb=>hb) (λb hb=>.inl hb)
theorem Mch.len (hK:KOk K) (h:Mch K w sv pv st sp at_ er dn):Z0z w:=hK.len.ext h.stp (λhb=>(hK.gl _ hb).1 rfl)
theorem Mch.mov (hK:KOk K) (h:Mch K w sv pv st sp at_ er dn):Z2R w:=hK.mov.ext h.stp (λhb=>(hK.gl _ hb).2 rfl)
theorem Mch.put (hK:KOk K) (h:Mch K w sv pv st sp at_ er dn) {at' er':Int} {dn':Bool} (hS:Stp [K.bm] w w') (hb:Blk w' K.bm 167 (Z5V K sv at' er' dn')):Mch K w' sv pv st sp at' er' dn':=by
 have hl:∀ v,(∀ b∈ob v,K.w0.heap.size<=b)->∀ b∈[K.bm],b∉ob v:=λv hv b hb h2=>by
  have:=hK.bml;have:=hv b h2;simp at hb;omega
 refine ⟨hb,h.row.keep hS (hl _ (λb hb=>(h.row.ob_le b hb).1)),λbs dK=>?_,h.nt0,h.ap,h.stp.trans (hS.mono (by simp [MK.own])),λp hp=>let ⟨a,b,c,d⟩:=h.prot p hp;⟨(hS.block p.1 (Xm.1 a).1 (λe=>b (by simp at e;rw [e];exact YaS))).trans a,b,c,d⟩⟩;obtain ⟨h1,h2⟩:=h.nt bs dK;exact ⟨h1.ext hS (by have:=(hK.nkl bs dK).2;simpa using this),h2.keep hS (hl _ (λb hb=>(h2.ob_le b hb).1))⟩
theorem Mch.stack (hK:KOk K) (h:Mch K w sv pv st sp at_ er dn) {sv':Value} {st':List Int} {w2:World} (hS:Stp (ob sv) w w') (hr:Row [] w' K.w0.heap.size 3 sv' st') (ho:∀ b∈ob sv',b∈ob sv\/w.heap.size<=b)
 (ah:Stp [K.bm] w' w2) (hb:Blk w2 K.bm 167 (Z5V K sv' at_ er dn)):Mch K w2 sv' pv st' sp at_ er dn:=by
 have lk:=hK.bml;have kY:=λb hb=>(hr.ob_le b hb).1;have gf:=λb hb=>(h.row.ob_le b hb).1;have hl:=h.stp.size;refine ⟨hb,hr.keep ah (λb hb h2=>by have:=kY b h2;simp at hb;omega),λbs dK=>?_,h.nt0,λb hb hp=>?_,?_,λp hp=>?_⟩;obtain ⟨h1,h2⟩:=h.nt bs dK;have hn:=hK.nkl bs dK;have rj:=λb hb=>(h2.ob_le b hb).1;refine ⟨(h1.ext hS (λhx=>by have:=gf _ hx;omega)).ext ah (by simpa using hn.2),(h2.keep hS (λb hb=>h.ap b hb)).keep ah (λb hb hx=>by have:=rj _ hx;simp at hb;omega)⟩
 . cases hk:K.nk with
   | none=>rw [h.nt0 hk] at hp;simp [ob] at hp
   | some bs=>
     obtain ⟨h1,h2⟩:=h.nt bs hk;rcases ho b hb with h3|h3
     exact h.ap b h3 hp;have:=(h2.ob_le b hp).2;omega
 refine (h.stp.own (S':=ob sv) hS (λb hb=>.inr (gf b hb))).trans (ah.mono (by simp [MK.own]));obtain ⟨a,b,c,d⟩:=h.prot p hp;have hlt:=(Xm.1 a).1;have a2:=(hS.block p.1 hlt c).trans a;have a3:=(ah.block p.1 (Xm.1 a2).1 (λe=>b (by simp at e;rw [e];exact YaS))).trans a2;exact ⟨a3,b,λh3=>(ho _ h3).elim c (λh4=>by omega),d⟩
theorem Zkn (hK:KOk K) (h:Mch K w sv pv st sp at_ er dn) (n e:Int) (hl:st.length<=100000) :
 CC 203 #[.pointer (some ⟨K.bm,0,none⟩),.I n,.I e] w λr w'=>r=.tuple #[]/\∃ sv',Mch K w' sv' pv (if e=0 then st++[n] else st) sp at_ (if e=0 then er else e) (if e=0 then dn else true):=by
 have ac:=h.blk;have ab:=h.row;unfold Z5V at ac;refine cW3 25 Tryz.func203 ?_;by_cases he:e=0;subst he;rw [if_pos rfl,if_pos rfl,if_pos rfl];refine QO ?_;refine Z0 (Z1 (vs:=[(0,.I n)]) rfl (Zr _)) rfl ?_;rintro bv w1 hN;have ae:=Z9.stp hN;have an:SlV (ob sv++[]) w1 bv [n]:=hN.slv (λb hb=>by simp at hb;exact (ab.ob_le b hb).2) rfl rfl (by simp [maxLen]);replace h:=h.up ae;replace ab:=ab.up ae;replace ac:=ac.up ae;refine Z0 (ZQ rfl (by decide) rfl rfl ab an (by simp;omega) (by simp [maxLen];omega) (h.stp.size)) rfl ?_;rintro sv' w2 ⟨dm,ah,ho⟩;have aQ:=ac.ext ah (λhx=>by have:=(ab.ob_le _ hx).1;have:=hK.bml;omega);refine W ?_;have h1:=dm.slv (X:=[]) (by simp);refine Z5 (Zb (u:=sv') rfl rfl h1.cells h1.one aQ (by simp [evC,Z0j])) ?_;rintro _ w3 ⟨am,aK⟩;refine W ?_;refine WR ?_;refine .mk ⟨rfl,sv',h.stack hK ah dm ho am aK⟩;rw [if_neg he,if_neg he,if_neg he];refine QO ?_;refine Z5 (Zb (u:=.I e) rfl rfl rfl rfl ac (by simp [evC,Z0j])) ?_;rintro _ w1 ⟨ae,cp⟩;refine W ?_;refine Z5 (Zb (u:=.B true) rfl rfl rfl rfl cp (by simp [evC,Z0j])) ?_;rintro _ w2 ⟨ah,aQ⟩;refine RT ?_;exact ⟨rfl,sv,h.put hK (ae.trans ah) aQ⟩
end
end Go.Proofs.YtipfkbkkndacjaaGreatDoor
namespace Go.Eng
open Go Go.RowKit Go.Proofs
section
variable {P:Program} {n:Nat} {e:Env} {w:World} {d:Option Nat} {ty:TypeId} {pos:String} {af:Array Edge} {g:Option (Nat×Bool)} {rest:List Oper} {ops:Array Oper} {Q:Exit->Act->World->Prop}
theorem Z0n {α:Type} [Z6 α] {X:List Nat} {v:Value} {xs:List α} {i:Nat} {cs:List Value} {x:Operand} {t:TypeId} {D:TypeDesc} [hu:Und P t D] (hA:Z0K D=true) [bH:Siz P t (Z6.k α)] (hx:ev e x=some (.pointer (some (ZH v i (Z6.k α) 0)))) (hs:SlV X w v xs) (hi:i<xs.length)
 (hr:Z6.rep X w xs[i] cs) (hc:∀ j u,cs[j]?=some u->w.cell? (ZH v i (Z6.k α) j)=some u):PR P n ⟨d,.load t x,ty,pos,af,g⟩ e w (.agg cs.toArray):=by
 obtain ⟨p,l',c,rfl⟩:=hs.isSome hi;refine Z3J (cs:=cs) hA hx (Z6.len hr) (λj u hu=>?_);have:=hc j u hu;simpa [ZH] using this
end
structure Fct where
 entry:Int
 kind:Str
 day:Int
 by_:Int
 to_:Int
 amt:Int
deriving DecidableEq
instance:Inhabited Fct:=⟨⟨0,[],0,0,0,0⟩⟩
instance:Z3 Fct where
 k:=6
 enc:=λx=>[.I x.entry,str x.kind,.I x.day,.I x.by_,.I x.to_,.I x.amt]
 len:=λ_=>rfl
 one:=by intro x u hu;simp at hu;rcases hu with rfl|rfl|rfl|rfl|rfl|rfl<;>rfl
structure Rsn where
 kind:Int
 a:Int
 b:Int
deriving DecidableEq
instance:Z3 Rsn where
 k:=3
 enc:=λx=>[.I x.kind,.I x.a,.I x.b]
 len:=λ_=>rfl
 one:=by intro x u hu;simp at hu;rcases hu with rfl|rfl|rfl<;>rfl
structure Rtn where
 crr:Int
 kind:Int
 lo:Int
 hi:Int
deriving DecidableEq
instance:Z3 Rtn where
 k:=4
 enc:=λx=>[.I x.crr,.I x.kind,.I x.lo,.I x.hi]
 len:=λ_=>rfl
 one:=by intro x u hu;simp at hu;rcases hu with rfl|rfl|rfl|rfl<;>rfl
structure Crr where
 extra:Int
 tol:Int
deriving DecidableEq
instance:Z3 Crr where
 k:=2
 enc:=λx=>[.I x.extra,.I x.tol]
 len:=λ_=>rfl
 one:=by intro x u hu;simp at hu;rcases hu with rfl|rfl<;>rfl
structure Svc where
 day:Int
 extra:Int
 att:Int
deriving DecidableEq
instance:Z3 Svc where
 k:=3
 enc:=λx=>[.I x.day,.I x.extra,.I x.att]
 len:=λ_=>rfl
 one:=by intro x u hu;simp at hu;rcases hu with rfl|rfl|rfl<;>rfl
structure Atp where
 entry:Int
 party:Int
 crr:Int
 sent:Int
 rets:List Rtn
instance:Inhabited Atp:=⟨⟨0,0,0,0,[]⟩⟩
abbrev atC (a:Atp) (rv:Value):List Value:=[.I a.entry,.I a.party,.I a.crr,.I a.sent,rv]
instance:Z6 Atp where
 k:=5
 rep:=λX w a cs=>∃ rv,cs=atC a rv/\SlV X w rv a.rets
 len:=λ⟨_,h,_⟩=>h ▸ rfl
 one:=by
  rintro X w a cs ⟨rv,rfl,h⟩ u hu;have:=h.one;simp only [Xb,Xj,or_false] at hu;rcases hu with rfl|rfl|rfl|rfl|rfl<;>first|rfl|assumption
 ext:=λ⟨rv,h,hs⟩ hS h1 h2=>⟨rv,h,hs.ext hS h1 h2⟩
structure Dln where
 rule:Str
 trig:Fct
 party:Int
 due:Int
 stat:Int
 reas:List Rsn
instance:Inhabited Dln:=⟨⟨[],default,0,0,0,[]⟩⟩
abbrev dlC (a:Dln) (rv:Value):List Value:=[str a.rule,.I a.trig.entry,str a.trig.kind,.I a.trig.day,.I a.trig.by_,.I a.trig.to_,.I a.trig.amt,.I a.party,.I a.due,.I a.stat,rv]
instance:Z6 Dln where
 k:=11
 rep:=λX w a cs=>∃ rv,cs=dlC a rv/\SlV X w rv a.reas
 len:=λ⟨_,h,_⟩=>h ▸ rfl
 one:=by
  rintro X w a cs ⟨rv,rfl,h⟩ u hu;have:=h.one;simp only [Xb,Xj,or_false] at hu;rcases hu with rfl|rfl|rfl|rfl|rfl|rfl|rfl|rfl|rfl|rfl|rfl<;>first|rfl|assumption
 ext:=λ⟨rv,h,hs⟩ hS h1 h2=>⟨rv,h,hs.ext hS h1 h2⟩
end Go.Eng
namespace Go.Proofs.YtipfkbkkndacjaaGreatDoor
open Go Go.Eng Go.RowKit
instance:Z6 Cr where
 k:=7
 rep:=λX w q cs=>∃ kc kd,cs=crC q kc kd/\SlV X w kc q.cnd/\SlV X w kd q.due
 len:=λ⟨_,_,h,_⟩=>h ▸ rfl
 one:=λ⟨_,_,h,h1,h2⟩=>h ▸ Z0r h1 h2
 ext:=λ⟨kc,kd,h,h1,h2⟩ hS g1 g2=>⟨kc,kd,h,h1.ext hS g1 g2,h2.ext hS g1 g2⟩
structure Cas where
 fcts:List Fct
 ruls:List Cr
 atts:List Atp
 crrs:List Crr
 stys:List Spn
 cal:Cal
 court:Int
 today:Int
structure Z0N where
 fv:Value
 rv:Value
 av:Value
 cv:Value
 sv:Value
 hv:Value
 lv:Value
 zo:Value
 zs:Value
 hr:Value
abbrev Jh (c:Cas) (R:Z0N):List Value:=[R.fv,R.rv,R.av,R.cv,R.sv]++Z0j c.cal R.hv R.lv R.zo R.zs R.hr++[.I c.court,.I c.today]
end Go.Proofs.YtipfkbkkndacjaaGreatDoor
namespace Go.Eng
open Go Go.RowKit Go.Proofs
variable {P:Program} {n:Nat} {Q:Exit->Act->World->Prop} {e:Env} {w w0:World} {rest:List Oper} {ops:Array Oper} {ty:TypeId} {pos:String} {af:Array Edge}
theorem Stp.cell0 {w w':World} {ad:Addr} {u:Value} (h:Stp [] w w') (hc:w.cell? ad=some u):w'.cell? ad=some u:=by
 have hlt:ad.block<w.heap.size:=block_lt_of_cell hc;rw [<- hc];exact World.cell?_of_block (w:=w) (h.block ad.block hlt (by simp))
theorem CP {S:List Nat} {f d:Nat} {fn:Func} {xs:Array Operand} {ts:Array TypeId} {vs:Array Value} {r:Value} {c:Operand} [hf:Fun P f fn] (hS:Stp S w0 w) (h:Calls P f vs w (Ret λv w'=>v=r/\Stp [] w w')) (k:∀ w',Stp [] w w'->Stp S w0 w'->WL P n ops Q rest ((d,r) :: e) w')
 (hc:ev e c=some (.func (.func f) #[] #[]):=by exact rfl) (hv:∀ a,Has n e a->xs.map a.eval=vs:=by first|exact ZN rfl|exact Zf rfl rfl|exact ZK rfl rfl rfl|exact Z7v rfl rfl rfl rfl|exact Z6g) (hd:Nat.blt d n=true:=by exact rfl) :
 WL P n ops Q (⟨some d,.call { callee:=.value c,args:=xs,argTypes:=ts },ty,pos,af,none⟩ :: rest) e w:=
 Z0 (Z4 hc hv h) hd (by rintro _ w' ⟨rfl,hT⟩;exact k w' hT (hS.trans hT.mn))
theorem CG {f d:Nat} {fn:Func} {xs:Array Operand} {ts:Array TypeId} {vs:Array Value} {G:Value->World->Prop} {c:Operand} [hf:Fun P f fn] (h:Calls P f vs w (Ret G)) (k:∀ v w',G v w'->WL P n ops Q rest ((d,v) :: e) w')
 (hc:ev e c=some (.func (.func f) #[] #[]):=by exact rfl) (hv:∀ a,Has n e a->xs.map a.eval=vs:=by first|exact ZN rfl|exact Zf rfl rfl|exact ZK rfl rfl rfl|exact Z7v rfl rfl rfl rfl|exact Z6g) (hd:Nat.blt d n=true:=by exact rfl) :
 WL P n ops Q (⟨some d,.call { callee:=.value c,args:=xs,argTypes:=ts },ty,pos,af,none⟩ :: rest) e w:=
 Z0 (Z4 hc hv h) hd k
theorem BX {S:List Nat} {d:Nat} {t:TypeId} {x:Operand} {v:Value} (hS:Stp S w0 w) (k:∀ b w',w.heap.size<=b->Blk w' b t v.cells.toList->Stp [] w w'->Stp S w0 w'->WL P n ops Q rest ((d,pQ b) :: e) w')
 (hx:ev e x=some v:=by exact rfl) (hd:Nat.blt d n=true:=by exact rfl):WL P n ops Q (⟨some d,.box t x,ty,pos,af,none⟩ :: rest) e w:=
 Z0 (Zq hx) hd (by rintro _ w' ⟨b,rfl,hb,hk,hT⟩;exact k b w' hb hk hT (hS.trans hT.mn))
theorem Zbb {x:Operand} {t:TypeId} {D:TypeDesc} {ad:Addr} {v:Value} {d:Nat} [hu:Und P t D] (hA:Z0K D=false) (hx:ev e x=some (.pointer (some ad))) (hc:w.cell? ad=some v) (hd:Nat.blt d n=true) (k:WL P n ops Q rest ((d,v) :: e) w) :
 WL P n ops Q (⟨some d,.load t x,ty,pos,af,none⟩ :: rest) e w:=Z8 (JC hA hx hc) hd k
theorem Z0G {Lt:List Nat} {ord:List (Nat×Nat)} {i d:Nat} {gd:Option (Nat×Bool)} {x:Operand} {t:TypeId} {D:TypeDesc} {ad:Addr} {v:Value} [hu:Und P t D] (hi:ops[i]?=some ⟨some d,.load t x,ty,pos,af,gd⟩) (hg:Z0b ops e gd) (hA:Z0K D=false) (hx:ev e x=some (.pointer (some ad))) (hc:w.cell? ad=some v) (hd:Nat.blt d n=true)
 (k:WD P n ops [] Lt Q ord ((d,v) :: e) w):WD P n ops [] Lt Q ((i,1) :: ord) e w:=ZP hi hg (λ_ hS=>JC hA hx (hS.cell0 hc)) hd k
theorem DP {S S0:List Nat} {Lt:List Nat} {ord:List (Nat×Nat)} {i f d:Nat} {fn:Func} {gd:Option (Nat×Bool)} {xs:Array Operand} {ts:Array TypeId} {vs:Array Value} {r:Value} {c:Operand} [hf:Fun P f fn] (hS:Stp S0 w0 w) (h:Calls P f vs w (Ret λv w'=>v=r/\Stp [] w w')) (k:∀ w',Stp [] w w'->Stp S0 w0 w'->WD P n ops S Lt Q ord ((d,r) :: e) w')
 (hi:ops[i]?=some ⟨some d,.call { callee:=.value c,args:=xs,argTypes:=ts },ty,pos,af,gd⟩:=by exact rfl) (hg:Z0b ops e gd:=by first|exact trivial|exact rfl)
 (hc:ev e c=some (.func (.func f) #[] #[]):=by exact rfl) (hv:∀ a,Has n e a->xs.map a.eval=vs:=by first|exact ZN rfl|exact Zf rfl rfl|exact ZK rfl rfl rfl|exact Z7v rfl rfl rfl rfl|exact Z6g) (hd:Nat.blt d n=true:=by exact rfl) :
 WD P n ops S Lt Q ((i,2) :: ord) e w:=
 Za hi hg (Z4 hc hv h) (λ_ _ h=>h.2.mn) hd (by rintro _ w' ⟨rfl,hT⟩;exact k w' hT (hS.trans hT.mn))
end Go.Eng
namespace Go.Proofs.YtipfkbkkndacjaaGreatDoor
open Go Go.Eng Go.RowKit
def ZgM (l:List Cr) (nm:Str) (day b:Int) (i:Nat):Prop:=(l.getD i crZ).name=nm/\(l.getD i crZ).frm<=day/\(b<0\/(l.getD b.toNat crZ).frm<=(l.getD i crZ).frm)
instance (l:List Cr) (nm:Str) (day b:Int) (i:Nat):Decidable (ZgM l nm day b i):=by unfold ZgM;infer_instance
def Z5W (l:List Cr) (nm:Str) (day:Int):Nat->Int
 | 0=>-1
 | k+1=>if ZgM l nm day (Z5W l nm day k) k then k else Z5W l nm day k
def Zev (l:List Cr) (nm:Str) (day:Int):Int:=Z5W l nm day l.length
theorem Zfv (l:List Cr) (nm:Str) (day:Int):∀ k,-1<=Z5W l nm day k/\Z5W l nm day k<k
 | 0=>by simp [Z5W]
 | k + 1 => by
   have:=Zfv l nm day k;simp only [Z5W];split<;>omega
theorem ZgN {A B C:Prop} [Decidable (A/\B/\C)] {x k b z:Int} {e:Eng.Env} {i:Nat} (h:x=if A/\B/\C then k else b) (he:Eng.look e i=some (.I z)) (hz:(A/\B/\C/\z=k)\/(¬ (B/\C)/\z=b)\/(¬ A/\z=b)):Eng.look e i=some (.I x):=by
 rw [he,h];rcases hz with ⟨a,b,c,rfl⟩|⟨a,rfl⟩|⟨a,rfl⟩
 rw [if_pos ⟨a,b,c⟩];rw [if_neg (λh=>a h.2)];rw [if_neg (λh=>a h.1)]
theorem ZcP (v:Value) (l:List Cr) (nm:Str) (day:Int) (w) (hs:SlV [] w v l):CC 13 #[v,str nm,.I day] w λr w'=>r=.I (Zev l nm day)/\Stp [] w w':=by
 have aU:=hs.max;refine cW3 44 Tryz.func13 ?_;refine W ?_;refine LP (σ:=Nat) (λk=>[(0,v),(1,str nm),(2,.I day),(7,.I (Z5W l nm day k)),(10,v),(11,.I l.length),(12,.I k)]) (λk w'=>k<=l.length/\Stp [] w w') (λk=>l.length - k) 0 ⟨by omega,Stp.refl _ _⟩ ?_;have ba:=hs;clear hs;rintro k w1 ⟨hk,hS⟩;have hs:=ba.up hS;by_cases hlt:k<l.length;obtain ⟨cs,⟨kc,kd,rfl,g1,g2⟩,aq⟩:=hs.cell hlt;have hb:=Zfv l nm day k;have hstep:Z5W l nm day (k+1)=if l[k].name=nm/\l[k].frm<=day/\(Z5W l nm day k<0\/(l.getD (Z5W l nm day k).toNat crZ).frm<=l[k].frm) then (k:Int) else Z5W l nm day k:=by
  rw [Z5W];simp only [ZgM,show l.getD k crZ=l[k] by simp [hlt]]
 generalize Z5W l nm day k=bb at *;refine QO ?_;refine Z8 (Z0n rfl rfl hs hlt ⟨kc,kd,rfl,g1,g2⟩ aq) rfl ?_;refine Z0 Z2 rfl ?_;rintro _ w2 ⟨b,rfl,lw,e9,hT⟩;refine W ?_;refine SB (us:=crC l[k] kc kd) (Z0r g1 g2) e9 ?_;rintro _ w3 ⟨ar,e9⟩;replace hS:=hS.trans (hT.ow ar);clear hT ar hs aq g1 g2;refine W ?_;refine ZDr 24 [] [] [(0,0),(1,1),(2,0),(3,0),(4,0),(5,0),(6,1),(7,0),(8,0),(9,0),(10,0),(11,0),(12,0),(13,0),(14,0),(15,1),(16,0),(17,0),(18,0),(19,0),(20,1),(21,0),(22,0),(23,0)] (λw1 ae=>?_);replace e9:=e9.up ae;replace hS:=hS.trans ae;clear ae;have hs:=ba.up hS;by_cases h0:bb<0
 . repeat'(first|refine D1 ?_|omega|refine Zk rfl rfl rfl rfl (λhg=>?_) (λhg=>?_)|(refine Zi rfl rfl rfl rfl (λhg=>?_) (λhg=>?_)<;>refine D1 ?_)|fail)
   all_goals refine QO ?_
   all_goals
    refine Zs (k+1) ⟨rfl,rfl,rfl,?_,rfl,rfl,rfl,trivial⟩ ⟨by omega,hS⟩ (by omega);first|exact ZgN hstep rfl (.inl ⟨by assumption,by omega,by omega,rfl⟩)|exact ZgN hstep rfl (.inr (.inl ⟨by omega,rfl⟩))|exact ZgN hstep rfl (.inr (.inr ⟨by assumption,rfl⟩))
 . obtain ⟨j,rfl⟩:∃ j:Nat,bb=j:=⟨bb.toNat,by omega⟩
   have hj:j<l.length:=by omega
   obtain ⟨cs,⟨kc2,kd2,rfl,-,-⟩,aq⟩:=hs.cell hj;have hf:w1.cell? (ZH v j 7 1)=some (.I l[j].frm):=aq 1 _ rfl;rw [show (j:Int).toNat=j by simp,show l.getD j crZ=l[j] by simp [hj]] at hstep;repeat'(first|refine D1 ?_|omega|refine Z0G rfl (by first|exact trivial|exact rfl) rfl rfl (by assumption) rfl ?_|refine Zk rfl rfl rfl rfl (λhg=>?_) (λhg=>?_)|(refine Zi rfl rfl rfl rfl (λhg=>?_) (λhg=>?_)<;>refine D1 ?_)|fail)
   all_goals repeat'(first|refine W1 ?_|omega|refine VG ?_ ?_<;>intro hg|refine VC ?_ ?_<;>intro hc)
   all_goals
    refine Zs (k+1) ⟨rfl,rfl,rfl,?_,rfl,rfl,rfl,trivial⟩ ⟨by omega,hS⟩ (by omega);first|exact ZgN hstep rfl (.inl ⟨by assumption,by omega,by omega,rfl⟩)|exact ZgN hstep rfl (.inr (.inl ⟨by omega,rfl⟩))|exact ZgN hstep rfl (.inr (.inr ⟨by assumption,rfl⟩))
 refine QO ?_;refine WR ?_;rw [show k=l.length by omega];exact .mk ⟨rfl,hS⟩
end Go.Proofs.YtipfkbkkndacjaaGreatDoor
namespace Go.Eng
open Go Go.RowKit Go.Proofs
variable {P:Program} {n:Nat} {Q:Exit->Act->World->Prop} {e:Env} {w w0:World} {rest:List Oper} {ops:Array Oper} {ty:TypeId} {pos:String} {af:Array Edge} {d:Option Nat} {g:Option (Nat×Bool)}
abbrev ltS (a b:Str):Bool:=Op.bytesLess a b
theorem Z7L {t u:TypeId} {x y:Operand} {a b:Str} {c:Bool} [hu:Und P t .string] (hx:ev e x=some (str a)) (hy:ev e y=some (str b)) (hc:ltS a b=c):PR P n ⟨d,.binOp .lss t x y u,ty,pos,af,g⟩ e w (.B c):=
 ⟨λ_ ha=>by simp only [execOp,ha.ev hx,ha.ev hy];subst hc;simp [go_sem,binOp,Op.stringOp]⟩
theorem Zfw {t u:TypeId} {x y:Operand} {a b:Str} {c:Bool} [hu:Und P t .string] (hx:ev e x=some (str a)) (hy:ev e y=some (str b)) (hc:(!(ltS a b || a == b))=c):PR P n ⟨d,.binOp .gtr t x y u,ty,pos,af,g⟩ e w (.B c):=
 ⟨λ_ ha=>by simp only [execOp,ha.ev hx,ha.ev hy];subst hc;simp [go_sem,binOp,Op.stringOp]⟩
end Go.Eng
namespace Go.Proofs.YtipfkbkkndacjaaGreatDoor
open Go Go.Eng Go.RowKit
def Z4a (a b:Str):Int:=if ltS a b=true then -1 else if (!(ltS a b || a == b))=true then 1 else 0
def cmI (x y:Int):Int:=if x<y then -1 else if y<x then 1 else 0
theorem Z4H (x y:Int) (w):CC 75 #[.I x,.I y] w λr w'=>r=.I (cmI x y)/\Stp [] w w':=
 (Tryz.cmp_Compare_int x y w).mono (by
   rintro e w' ⟨rfl,rfl⟩;exact .mk ⟨rfl,Stp.refl _ _⟩)
theorem Z8z (a:Str) (w):CC 126 #[str a] w λr w'=>r=.B false/\Stp [] w w':=by
 refine cW1 6 Tryz.func126 ?_;refine RT ?_;exact ⟨by simp,Stp.refl _ _⟩
theorem Zko (a b:Str) (w):CC 76 #[str a,str b] w λr w'=>r=.I (Z4a a b)/\Stp [] w w':=by
 refine cW2 20 Tryz.func76 ?_;refine W ?_;refine CP (Stp.refl [] w) (Z8z a _) λw1 _ hS=>?_;refine W ?_;refine CP hS (Z8z b _) λw2 _ hS=>?_;refine W ?_;cases h1:ltS a b
 . refine Z8 (Z7L rfl rfl h1) rfl ?_
   refine W ?_;cases h2:(!(ltS a b || a == b))
   all_goals
    refine Z8 (Zfw rfl rfl h2) rfl ?_;refine RT ?_;exact ⟨by rw [Z4a,if_neg (by simp [h1]),h2];rfl,hS⟩
 refine Z8 (Z7L rfl rfl h1) rfl ?_;refine RT ?_;exact ⟨by rw [Z4a,h1];rfl,hS⟩
def orL (l:List Int):Int:=(l.find? (λx=>decide (x≠0))).getD 0
theorem Zew {l:List Int} {k:Nat} (hk:k<l.length) (h:∀ j (h:j<l.length),j<k->l[j]=0) (h0:l[k]≠0):orL l=l[k]:=by
 have:l.find? (λx=>decide (x≠0))=some l[k]:=by
  rw [Yat];exact ⟨by simpa using h0,k,hk,rfl,λj hj=>by simp [h j (by omega) hj]⟩
 rw [orL,this];rfl
theorem Z8A {l:List Int} (h:∀ j (h:j<l.length),l[j]=0):orL l=0:=by
 have:l.find? (λx=>decide (x≠0))=none:=by
  rw [Yas];intro x hx;obtain ⟨j,hj,rfl⟩:=Xr hx;simp [h j hj]
 rw [orL,this];rfl
theorem Znz (v:Value) (l:List Int) (w) (hs:SlV [] w v l):CC 74 #[v] w λr w'=>r=.I (orL l)/\Stp [] w w':=by
 have aU:=hs.max;refine cW1 18 Tryz.func74 ?_;refine W ?_;refine LP (σ:=Nat) (λk=>[(3,.I 0),(6,v),(7,.I l.length),(8,.I k)]) (λk w'=>k<=l.length/\Stp [] w w'/\∀ j (h:j<l.length),j<k->l[j]=0) (λk=>l.length - k) 0 ⟨by omega,Stp.refl _ _,by omega⟩ ?_;have ba:=hs;clear hs;rintro k w1 ⟨hk,hS,hz⟩;have hs:=ba.up hS;by_cases hlt:k<l.length;by_cases h0:l[k]=0;refine QO ?_;exact QL (k+1) ⟨by omega,hS,λj h hj=>by
  by_cases e:j=k;subst e;exact h0;exact hz j h (by omega)⟩ (by omega)
 refine RT ?_;exact ⟨by rw [Zew hlt hz h0],hS⟩;refine RT ?_;exact ⟨by rw [Z8A (λj h=>hz j h (by omega))],hS⟩
def Z3n (f g:Fct):Int:=orL [cmI f.day g.day,cmI f.entry g.entry,Z4a f.kind g.kind,cmI f.by_ g.by_,cmI f.to_ g.to_,cmI f.amt g.amt]
theorem ZcQ (a b c d e f:Int) (w):(Instr.buildSlice 23 6 #[(0,.I a),(1,.I b),(2,.I c),(3,.I d),(4,.I e),(5,.I f)]).run Tryz.prog w=.ok (.slice (some ⟨w.heap.size,0,none⟩) 6 6) (w.alloc (.cells #[.I a,.I b,.I c,.I d,.I e,.I f] 3)):=by kernel_rfl
theorem Zkp (f g:Fct) (w):CC 43 #[aG f,aG g] w λr w'=>r=.I (Z3n f g)/\Stp [] w w':=by
 refine cW2 37 Tryz.func43 ?_;refine W ?_;refine BX (Stp.refl [] w) λb2 w1 h2 e2 _ hS=>?_;refine BX hS λb3 w2 h3 e3 hT hS=>?_;replace e2:=e2.up hT;replace e2:Blk w2 b2 45 (Z3.enc f):=e2;replace e3:Blk w2 b3 45 (Z3.enc g):=e3;refine W ?_;refine ZDr 33 [] [] [(0,0),(1,1),(2,0),(3,1),(5,0),(6,1),(7,0),(8,1),(10,0),(11,1),(12,0),(13,1),(15,0),(16,1),(17,0),(18,1),(20,0),(21,1),(22,0),(23,1),(25,0),(26,1),(27,0),(28,1),(4,2),(9,2),(14,2),(19,2),(24,2),(29,2),(30,2),(31,2),(32,0)] (λw1 ae=>?_);replace e2:=e2.up ae;replace e3:=e3.up ae;replace hS:=hS.trans ae;refine D ?_;clear ae e2 e3;refine DP hS (Z4H _ _ _) λ_ _ hS=>?_;refine DP hS (Z4H _ _ _) λ_ _ hS=>?_;refine DP hS (Zko _ _ _) λ_ _ hS=>?_;refine DP hS (Z4H _ _ _) λ_ _ hS=>?_;refine DP hS (Z4H _ _ _) λ_ _ hS=>?_;refine DP hS (Z4H _ _ _) λ_ _ hS=>?_;refine Za rfl trivial (Z1 rfl (ZcQ _ _ _ _ _ _)) (λ_ _ h=>Z9.stp h) rfl ?_;rintro bv wb hN;have an:=hN.slv (X:=[]) (ys:=[cmI f.day g.day,cmI f.entry g.entry,Z4a f.kind g.kind,cmI f.by_ g.by_,cmI f.to_ g.to_,cmI f.amt g.amt]) (by simp) rfl rfl (by simp [maxLen]);replace hS:=hS.trans (Z9.stp hN);refine DP hS (Znz bv _ _ an) λ_ _ hS=>?_;refine D ?_;refine RT ?_;exact ⟨rfl,hS⟩
end Go.Proofs.YtipfkbkkndacjaaGreatDoor
namespace Go.Eng
open Go Go.RowKit Go.Proofs
variable {P:Program} {n:Nat} {Q:Exit->Act->World->Prop} {e:Env} {w w0:World} {rest:List Oper} {ops:Array Oper} {ty ty':TypeId} {pos pos':String} {af af':Array Edge}
theorem AP1 {β:Type} [Z3 β] {T t bytes d1 d2:Nat} {x y:Operand} {v z0 u:Value} {xs:List β} [ht:Und P t (.slice T)] [hk:Siz P T (Z6.k β)] [hb:Byt P T bytes] [hz:Zer P T z0] (z:β) (hr:ZF T w0 w v xs) (hl:xs.length<=100000000)
 (k:∀ v1 v' w',ZF T w0 w' v' (xs++[z])->Stp (ob v) w w'->WL P n ops Q rest ((d2,v') :: (d1,v1) :: e) w')
 (hx:ev e x=some v:=by exact rfl) (hy:JQ e [(0,y)]=some [(0,u)]:=by exact rfl) (bh:∀ w:World,(Instr.buildSlice t 1 #[(0,u)]).run P w=.ok (.slice (some ⟨w.heap.size,0,none⟩) 1 1) (w.alloc (.cells (Z3.enc z).toArray T)):=by intro w;kernel_rfl)
 (mw:∀ v1,ev ((d1,v1) :: e) x=some v:=by intro _;exact rfl) (iD:∀ v1,ev ((d1,v1) :: e) (.tmp d1)=some v1:=by intro _;exact rfl)
 (fQ:z0.cells.size=Z6.k β:=by exact rfl) (bj:0<Z6.k β:=by decide) (ej:bytes<=1000:=by decide) (h1:Nat.blt d1 n=true:=by exact rfl) (h2:Nat.blt d2 n=true:=by exact rfl) :
 WL P n ops Q (⟨some d1,.buildSlice t 1 #[(0,y)],ty,pos,af,none⟩ :: ⟨some d2,.call { callee:=.builtin .append,args:=#[x,.tmp d1],argTypes:=#[t,t] },ty',pos',af',none⟩ :: rest) e w:=by
 refine Z0 (Z1 (l:=[(0,y)]) (vs:=[(0,u)]) hy bh) h1 ?_;intro v1 w1 hN;have hT:Stp [] w w1:=hN.choose_spec.2.2.2;have an:SlV (ob v) w1 v1 [z]:=hN.slv (λb hb=>(hr.ob_le b hb).2) rfl (by simp) (by simp [maxLen]);refine Z0 (JE fQ bj (mw v1) (iD v1) (hr.up hT) an (by
  simp only [Xe,Xf];exact Xh (Ybf (Ybk hl 1) ej) (by omega)) (by simp only [Xe,Xf,maxLen];omega)) h2 ?_
 rintro v' w2 ⟨g1,g2,-⟩;exact k v1 v' w2 g1 (hT.mn.trans g2)
theorem APR {β:Type} [Z3 β] {X:List Nat} {T t bytes d1 d2 base:Nat} {x y:Operand} {v z0 u:Value} {xs:List β} [ht:Und P t (.slice T)] [hk:Siz P T (Z6.k β)] [hb:Byt P T bytes] [hz:Zer P T z0] (z:β) (hr:Row X w base T v xs) (hX:∀ b∈X,b<w.heap.size) (dK:base<=w.heap.size) (hl:xs.length<=100000000)
 (k:∀ v1 v' w',Row X w' base T v' (xs++[z])->Stp (ob v) w w'->(∀ b∈ob v',b∈ob v\/w.heap.size<=b)->WL P n ops Q rest ((d2,v') :: (d1,v1) :: e) w')
 (hx:ev e x=some v:=by exact rfl) (hy:JQ e [(0,y)]=some [(0,u)]:=by exact rfl) (bh:∀ w:World,(Instr.buildSlice t 1 #[(0,u)]).run P w=.ok (.slice (some ⟨w.heap.size,0,none⟩) 1 1) (w.alloc (.cells (Z3.enc z).toArray T)):=by intro w;kernel_rfl)
 (mw:∀ v1,ev ((d1,v1) :: e) x=some v:=by intro _;exact rfl) (iD:∀ v1,ev ((d1,v1) :: e) (.tmp d1)=some v1:=by intro _;exact rfl)
 (fQ:z0.cells.size=Z6.k β:=by exact rfl) (bj:0<Z6.k β:=by decide) (ej:bytes<=1000:=by decide) (h1:Nat.blt d1 n=true:=by exact rfl) (h2:Nat.blt d2 n=true:=by exact rfl) :
 WL P n ops Q (⟨some d1,.buildSlice t 1 #[(0,y)],ty,pos,af,none⟩ :: ⟨some d2,.call { callee:=.builtin .append,args:=#[x,.tmp d1],argTypes:=#[t,t] },ty',pos',af',none⟩ :: rest) e w:=by
 refine Z0 (Z1 (l:=[(0,y)]) (vs:=[(0,u)]) hy bh) h1 ?_;intro v1 w1 hN;have hT:Stp [] w w1:=hN.choose_spec.2.2.2;have an:SlV (ob v++X) w1 v1 [z]:=hN.slv (λb hb=>by
  rcases Xg.1 hb with h|h
  exact (hr.ob_le b h).2;exact hX b h) rfl (by simp) (by simp [maxLen])
 refine Z0 (ZQ (X:=X) (base:=base) fQ bj (mw v1) (iD v1) (hr.up hT) an (by
  simp only [Xe,Xf];exact Xh (Ybf (Ybk hl 1) ej) (by omega)) (by simp only [Xe,Xf,maxLen];omega) (Xh dK hT.size)) h2 ?_
 rintro v' w2 ⟨g1,g2,g3⟩;exact k v1 v' w2 g1 (hT.mn.trans g2) (λb hb=>(g3 b hb).imp id (Xh hT.size))
end Go.Eng
namespace Go.Proofs.YtipfkbkkndacjaaGreatDoor
open Go Go.Eng Go.RowKit
def Z2o (l:List Fct):Nat->Fct
 | 0=>l.getD 0 default
 | k+1=>if Z3n (l.getD (k+1) default) (Z2o l k)<0 then l.getD (k+1) default else Z2o l k
theorem Zkq (v:Value) (l:List Fct) (w) (hs:SlV [] w v l) (hn:l≠[]):CC 86 #[v,.func (.func 43) #[] #[]] w λr w'=>r=.agg (Z3.enc (Z2o l (l.length - 1))).toArray/\Stp [] w w':=by
 have aU:=hs.max;have bj:0<l.length:=XU.2 hn;refine cW2 33 Tryz.func86 ?_;refine W ?_;refine Z0 Z2 rfl ?_;rintro _ w1 ⟨b4,rfl,bz,e4,hS⟩;have cr:=hs.up hS;refine QO ?_;refine Z0 Z2 rfl ?_;rintro _ w2 ⟨b5,rfl,jA,e5,hT⟩;have l4:=e4.lt;replace e4:=e4.up hT;refine SA (us:=Z3.enc l[0]) e5 ?_;rintro _ w3 ⟨ar,e5⟩;replace e4:=e4.ext ar (by simp;omega);replace hS:=hS.trans (hT.ow ar);clear hT ar cr;have l5:=e5.lt;have g4:b4≠b5:=by omega
 have g5:w.heap.size<=b5:=by have:=hS.size;omega
 refine W ?_;refine LP (σ:=Nat) (λk=>[(0,v),(1,.func (.func 43) #[] #[]),(4,pQ b4),(5,pQ b5),(6,.I ((k:Int)+1))]) (λk w'=>k<l.length/\Stp [] w w'/\Blk w' b5 45 (Z3.enc (Z2o l k))/\(∃ cs,Blk w' b4 45 cs/\cs.length=6)) (λk=>l.length - k) 0 ⟨bj,hS,by rw [Z2o,show l.getD 0 default=l[0] by simp [bj]];exact e5,_,e4,rfl⟩ ?_;clear e4 e5 hS;rintro k w4 ⟨hk,hS,e5,cs4,e4,fy⟩;have cr:=hs.up hS;by_cases hlt:k+1<l.length;have hstep:Z2o l (k+1)=if Z3n l[k+1] (Z2o l k)<0 then l[k+1] else Z2o l k:=by rw [Z2o,show l.getD (k+1) default=l[k+1] by simp [hlt]]
 generalize Z2o l k=m at *;refine QO ?_;refine ZDr 8 [] [] [(0,0),(1,0),(2,0),(3,0),(4,1),(5,1),(6,2),(7,0)] (λw1 ae=>?_);replace cr:=cr.up ae;replace e5:=e5.up ae;replace e4:=e4.up ae;replace hS:=hS.trans ae;clear ae;refine D ?_;refine DP hS (Zkp l[k+1] m _) λw5 hT hS=>?_;replace cr:=cr.up hT;replace e5:=e5.up hT;replace e4:=e4.up hT;refine D ?_;by_cases hc:Z3n l[k+1] m<0;rw [if_pos hc] at hstep;refine QO ?_;refine SA (us:=Z3.enc l[k+1]) e5 ?_;rintro _ w6 ⟨ar,e5⟩;replace e4:=e4.ext ar (by simp;omega);replace hS:=hS.ow ar;refine QO ?_;exact QL (k+1) ⟨hlt,hS,by rw [hstep];exact e5,_,e4,fy⟩ (by omega);rw [if_neg hc] at hstep;refine QO ?_;exact QL (k+1) ⟨hlt,hS,by rw [hstep];exact e5,_,e4,fy⟩ (by omega);refine QO ?_;refine Z5 (Zm (us:=Z3.enc (Z2o l k)) rfl rfl rfl rfl (Z3.one _) e4 fy.symm) ?_;rintro _ w6 ⟨ar,e4⟩;refine QO ?_;refine J3 rfl rfl rfl e4 rfl ?_;rw [show l.length - 1=k by omega];exact .mk ⟨rfl,hS.ow ar⟩
theorem ZnA (w):(Instr.build 45 #[]).run Tryz.prog w=.ok (aG (default:Fct)) w:=by kernel_rfl
def ZcR (f:Fct) (unl:Str) (due:Int) (g:Fct):Bool:=decide (unl≠[]/\g.kind=unl/\g.by_=f.to_/\g.day<=due/\(f.day<=g.day\/due<f.day))
def Z2S (fs:List Fct) (f:Fct) (unl:Str) (due:Int):List Fct:=fs.filter (ZcR f unl due)
def Z9o (fs:List Fct) (f:Fct) (unl:Str) (due:Int):Fct×Bool:=if Z2S fs f unl due=[] then (default,false) else (Z2o (Z2S fs f unl due) ((Z2S fs f unl due).length - 1),true)
theorem ZgO (fs:List Fct) (f:Fct) (unl:Str) (due:Int) (k:Nat) (h:k<fs.length):Z2S (fs.take (k+1)) f unl due=Z2S (fs.take k) f unl due++if ZcR f unl due fs[k]=true then [fs[k]] else []:=by
 unfold Z2S;rw [Xi h,Ya8];congr 1;cases hc:ZcR f unl due fs[k]<;>simp [hc]
theorem Zex (c:Cas) (R:Z0N) (f:Fct) (unl:Str) (due:Int) (w) (hs:SlV [] w R.fv c.fcts) (hl:c.fcts.length<=10000000):CC 56 #[.agg (Jh c R).toArray,aG f,str unl,.I due] w λr w'=>r=.tuple #[.agg (Z3.enc (Z9o c.fcts f unl due).1).toArray,.B (Z9o c.fcts f unl due).2]/\Stp [] w w':=by
 refine cW4 65 Tryz.func56 ?_;refine W ?_;refine BX (Stp.refl [] w) λb4 w1 h4 e4 _ hS=>?_;replace e4:Blk w1 b4 37 (Jh c R):=e4;refine BX hS λb5 w2 h5 e5 hT hS=>?_;replace e5:Blk w2 b5 45 (Z3.enc f):=e5;replace e4:=e4.up hT;refine W ?_;refine Z0 Z2 rfl ?_;rintro _ w3 ⟨b8,rfl,fL,e8,hT⟩;have g8:w.heap.size<=b8:=Xh hS.size fL;replace e4:=e4.up hT;replace e5:=e5.up hT;replace hS:=hS.trans hT;have eZ:=hs.up hS;refine W ?_;refine LP (σ:=Nat×Value) (λq=>[(2,str unl),(3,.I due),(4,pQ b4),(5,pQ b5),(8,pQ b8),(9,.B false),(10,q.2),(14,R.fv),(15,.I c.fcts.length),(16,.I q.1)]) (λq w'=>q.1<=c.fcts.length/\ZF 45 w3 w' q.2 (Z2S (c.fcts.take q.1) f unl due)) (λq=>c.fcts.length - q.1) (0,.N) ⟨by omega,ZF.nil⟩ ?_;rintro ⟨k,rv⟩ w4 ⟨hk,hr⟩;dsimp only at hk hr ⊢;have e4':=e4.up hr.2;have e5':=e5.up hr.2;have eA:=eZ.up hr.2;by_cases hlt:k<c.fcts.length
 . have hstep:=ZgO c.fcts f unl due k hlt
   refine QO ?_;refine Z0 Z2 rfl ?_;rintro _ w5 ⟨b12,rfl,rk,e12,hT⟩;refine SA (us:=Z3.enc c.fcts[k]) e12 ?_;rintro _ w6 ⟨ar,e12⟩;replace hT:=hT.ow ar;replace e4':=e4'.up hT;replace e5':=e5'.up hT;replace hr:=hr.up hT;clear hT ar eA;repeat'(first|refine W1 ?_|omega|refine VG ?_ ?_<;>intro hg|refine VC ?_ ?_<;>intro hc)
   all_goals first
    | exact QL (k + 1, rv) ⟨hlt, by
       rw [hstep,if_neg,XG];exact hr;simp only [ZcR,decide_eq_true_eq];rintro ⟨a,b,c,d,e⟩;first|contradiction|omega⟩ (by dsimp only;omega)
    | refine AP1 c.fcts[k] hr (Xh (X0 _ _) (by simp; omega)) λv1 v' w' bE _ => ?_
      refine QO ?_;exact QL (k+1,v') ⟨hlt,by
       rw [hstep,if_pos (show ZcR f unl due c.fcts[k]=true from decide_eq_true ⟨by assumption,by assumption,by omega,by omega,by omega⟩)];exact bE⟩ (by dsimp only;omega)
 have eK:SlV [] w4 rv (Z2S (c.fcts.take k) f unl due):=hr.slv (by simp);obtain rfl:k=c.fcts.length:=by omega
 rw [Xo] at eK;have e8':=e8.up hr.2;replace hS:=hS.trans hr.2;clear hr;unfold Z9o;generalize Z2S c.fcts f unl due=L at *;have hz:((L.length:Int)=0)↔L=[]:=by simp
 (refine QP ?_ ?_<;>intro hc)
 obtain rfl:L=[]:=hz.1 (by assumption);refine Z7 (vs:=[]) rfl ZnA rfl ?_;refine Z5 (Zm (us:=Z3.enc (default:Fct)) rfl rfl rfl rfl (Z3.one _) e8' rfl) ?_;rintro _ w6 ⟨ar,e8''⟩;refine W ?_;refine Zn rfl rfl rfl e8'' rfl rfl ?_;exact .mk ⟨rfl,hS.ow ar⟩;have hL:L≠[]:=λh=>absurd (hz.2 h) (by assumption)
 rw [if_neg hL];refine CP hS (Zkq rv L w4 eK hL) λw5 hT hS=>?_;replace e8':=e8'.up hT;refine Z5 (Zm (us:=Z3.enc (Z2o L (L.length - 1))) rfl rfl rfl rfl (Z3.one _) e8' rfl) ?_;rintro _ w6 ⟨ar,e8''⟩;refine W ?_;refine Zn rfl rfl rfl e8'' rfl rfl ?_;exact .mk ⟨rfl,hS.ow ar⟩
theorem ZwX (a b:Ins) (w):(binOp .eql 171 (agg a) (agg b)).run Tryz.prog w=.ok (.B (decide (a=b))) w:=by
 have h1:Program.stoodInHeld Tryz.prog 171=false:=by kernel_rfl
 obtain ⟨a1,a2⟩:=a;obtain ⟨b1,b2⟩:=b;simp [agg,Z3.enc,run_eql_struct,run_equalIn_struct,h1,Program.fieldsOf,Tryz.underlying171,Op.eqFields,part,Und.isAgg,Z0K,run_equalIn_int w _ _ .i64 .i64 _ _ Tryz.underlying3];repeat' split
 all_goals simp_all
theorem Zey (v:Value) (l:List Ins) (x:Ins) (w) (hs:SlV [] w v l):CC 153 #[v,agg x] w λr w'=>(∃ z:Int,r=.I z/\(0<=z↔x∈l))/\Stp [] w w':=by
 have aU:=hs.max;refine cW2 19 Tryz.func153 ?_;refine W ?_;refine BX (Stp.refl [] w) λb3 w1 h3 e3 _ hS=>?_;replace e3:Blk w1 b3 171 (Z3.enc x):=e3;have cr:=hs.up hS;refine W ?_;refine LP (σ:=Nat) (λk=>[(0,v),(3,pQ b3),(6,v),(7,.I l.length),(8,.I k)]) (λk w'=>k<=l.length/\Stp [] w1 w'/\∀ j (h:j<l.length),j<k->l[j]≠x) (λk=>l.length - k) 0 ⟨by omega,Stp.refl _ _,by omega⟩ ?_;rintro k w2 ⟨hk,hT,hz⟩;have bq:=cr.up hT;have e3':=e3.up hT;by_cases hlt:k<l.length;refine QO ?_;refine ZDr 6 [] [] [(0,1),(1,0),(2,0),(3,0),(4,1),(5,0)] (λw1 ae=>?_);replace bq:=bq.up ae;replace e3':=e3'.up ae;replace hT:=hT.trans ae;refine D ?_;apply Z20;exact rfl;refine ZaI (c:=x=l[k]) trivial rfl rfl (λw=>Zth _ _ _ x l[k] w) (by intro w;exact ZwX x l[k] w) rfl ?_;refine D ?_
 (refine QP ?_ ?_<;>intro hc)
 refine RU ?_;exact ⟨⟨_,rfl,by constructor<;>intro _<;>first|omega|(rw [hc];exact Xc hlt)⟩,hS.trans hT⟩;exact QL (k+1) ⟨hlt,hT,λj h hj=>by
  by_cases e:j=k;subst e;exact λh=>hc h.symm;exact hz j h (by omega)⟩ (by omega)
 refine RT ?_;exact ⟨⟨_,rfl,by
  constructor;intro h;omega;intro h;obtain ⟨j,hj,e⟩:=Xr h;exact absurd e (hz j hj (by omega))⟩,hS.trans hT⟩
theorem Z8B (v:Value) (l:List Ins) (x:Ins) (w) (hs:SlV [] w v l):CC 85 #[v,agg x] w λr w'=>r=.B (decide (x∈l))/\Stp [] w w':=by
 refine cW2 9 Tryz.func85 ?_;refine W ?_;refine BX (Stp.refl [] w) λb3 w1 h3 e3 _ hS=>?_;replace e3:Blk w1 b3 171 (Z3.enc x):=e3;refine W ?_;refine CG (Zey v l x _ (hs.up hS)) ?_;rintro _ w2 ⟨⟨z,rfl,hz⟩,hT⟩;refine RT ?_;exact ⟨congrArg Value.bool (decide_eq_decide.2 hz),hS.trans hT⟩
def Z2T (l:List Ins):Bool:=decide ((⟨4,1⟩:Ins)∈l) || decide ((⟨4,2⟩:Ins)∈l)
theorem ZcS (a b:Int) (w):(Instr.build 171 #[(0,.I a),(1,.I b)]).run Tryz.prog w=.ok (agg (⟨a,b⟩:Ins)) w:=by kernel_rfl
theorem ZcT (v:Value) (l:List Ins) (w) (hs:SlV [] w v l):CC 54 #[v] w λr w'=>r=.B (Z2T l)/\Stp [] w w':=by
 refine cW1 11 Tryz.func54 ?_;refine W ?_;refine Z7 (vs:=[(0,.I 4),(1,.I 1)]) rfl (ZcS _ _) rfl ?_;refine CP (Stp.refl [] w) (Z8B v l _ w hs) λw1 _ hS=>?_;unfold Z2T;by_cases h1:(⟨4,1⟩:Ins)∈l;rw [decide_eq_true h1];refine RT ?_;exact ⟨rfl,hS⟩;rw [decide_eq_false h1];refine QO ?_;refine Z7 (vs:=[(0,.I 4),(1,.I 2)]) rfl (ZcS _ _) rfl ?_;refine W ?_;refine CP hS (Z8B v l _ _ (hs.up hS)) λw2 _ hS=>?_;refine RT ?_;exact ⟨by simp,hS⟩
end Go.Proofs.YtipfkbkkndacjaaGreatDoor
namespace Go.Eng
open Go Go.RowKit Go.Proofs
section
variable {P:Program} {n:Nat} {Q:Exit->Act->World->Prop} {e:Env} {w w0 w':World} {rest:List Oper} {ops:Array Oper} {ty:TypeId} {pos:String} {af:Array Edge} {dd:Option Nat} {g:Option (Nat×Bool)}
structure StD (w w':World):Prop where
 s:Stp [] w w'
 d:w.drawn<=w'.drawn
theorem StD.refl (w):StD w w:=⟨Stp.refl _ _,Xn _⟩
theorem StD.trans {a b c:World} (h:StD a b) (k:StD b c):StD a c:=⟨h.s.trans k.s,Xh h.d k.d⟩
theorem StD.grown {w w':World} (h:StD w w'):∃ q os',w'=Go.Sort.grow (w.drewN q) os':=by
 refine ⟨w'.drawn - w.drawn,w'.heap.extract w.heap.size w'.heap.size,?_⟩;obtain ⟨⟨h1,h2,h3,h4,h5⟩,h6⟩:=h;have hh:w'.heap=w.heap++w'.heap.extract w.heap.size w'.heap.size:=by
  apply Array.ext_getElem?;intro i;by_cases hi:i<w.heap.size;rw [h5 i hi (by simp),XY hi];rw [Array.getElem?_append_right (by omega),Array.getElem?_extract];by_cases cg:i<w'.heap.size;rw [if_pos (by omega)];congr 1;omega;rw [if_neg (by omega),Yai (by omega)]
 cases w';cases w;simp only [Go.Sort.grow,World.drewN] at *;subst h1 h2 h3;simp only [World.mk.injEq,true_and,and_true];exact ⟨hh,by omega⟩
theorem ZgP {id:Nat} {l:List Oper} (m:Nat) (S:List Nat) (Lt:List Nat) (ord:List (Nat×Nat)) (cI:l.length=m) (hm:P.follows .mixedOrders=true) (hs:Region.noSelect l.toArray=true) (hl:Nat.beq (wt ord) l.length=true)
 (hB:J6 l.toArray Lt ord (Array.replicate m false)=true)
 (h:∀ w',StD w w'->WD P n l.toArray S Lt Q ord e w'):WC P n (.region id l.toArray true) Q e w:=by
 subst cI;refine ⟨λa ha=>wp_region_any hm ?_⟩;have h1:=(h { w with drawn:=w.drawn+1 } ⟨Stp.drew [] w,Nat.le_succ _⟩).h _ hs hB a ha;have h2:=Z12 (Q:=Q) (λa w hz=>hz) _ _ _ _ h1;rw [XS hl] at h2;simpa using h2
theorem BXD {d:Nat} {t:TypeId} {x:Operand} {v:Value} (hS:StD w0 w) (k:∀ b w',w.heap.size<=b->Blk w' b t v.cells.toList->StD w w'->StD w0 w'->WL P n ops Q rest ((d,pQ b) :: e) w')
 (hx:ev e x=some v:=by exact rfl) (hd:Nat.blt d n=true:=by exact rfl):WL P n ops Q (⟨some d,.box t x,ty,pos,af,none⟩ :: rest) e w:=by
 have ho:OE P n ⟨some d,.box t x,ty,pos,af,none⟩ e w (λu w'=>Z7U w t v.cells.toList u w'/\w'.drawn=w.drawn):=
  Jd (v:=.pointer (some ⟨w.heap.size,0,none⟩)) (w':=w.alloc (.cells v.cells t)) (λa ha=>by
   simp [execOp,Instr.box,ha.ev hx,newVar,newRow,newObj];rfl) ⟨by simpa using ZaE w t v.cells.toList,rfl⟩
 refine Z0 ho hd ?_;rintro _ w' ⟨⟨b,rfl,hb,hk,hT⟩,he⟩;have h1:StD w w':=⟨hT,Nat.le_of_eq he.symm⟩
 exact k b w' hb hk h1 (hS.trans h1)
theorem Z8C {t T len:Nat} {l:List (Nat×Operand)} {vs:List (Nat×Value)} {cs:List Value} (hv:JQ e l=some vs)
 (hb:∀ w:World,(Instr.buildSlice t len vs.toArray).run P w=.ok (.slice (some ⟨w.heap.size,0,none⟩) len len) (w.alloc (.cells cs.toArray T))) :
 OE P n ⟨dd,.buildSlice t len l.toArray,ty,pos,af,g⟩ e w (λv w'=>Z9 w T len cs v w'/\StD w w'):=
 Jd (v:=.slice (some ⟨w.heap.size,0,none⟩) len len) (w':=w.alloc (.cells cs.toArray T)) (λa ha=>by
  have h1:=ha.parts hv;have h2:l.toArray.map (λ(x:Nat×Operand)=>match x with|(i,x)=>(i,a.eval x))=vs.toArray:=by
   rw [YbC];exact congrArg List.toArray h1
  simp only [execOp];rw [h2];simp [hb w]) ⟨⟨w.heap.size,rfl,Xn _,heap_alloc_new w _,Stp.alloc _ _ _⟩,⟨Stp.alloc _ _ _,Xn _⟩⟩
theorem CPD {f d:Nat} {fn:Func} {xs:Array Operand} {ts:Array TypeId} {vs:Array Value} {r:Value} {c:Operand} [hf:Fun P f fn] (hS:StD w0 w) (h:Calls P f vs w (Ret λv w'=>v=r/\StD w w')) (k:∀ w',StD w w'->StD w0 w'->WL P n ops Q rest ((d,r) :: e) w')
 (hc:ev e c=some (.func (.func f) #[] #[]):=by exact rfl) (hv:∀ a,Has n e a->xs.map a.eval=vs:=by first|exact ZN rfl|exact Zf rfl rfl|exact ZK rfl rfl rfl|exact Z7v rfl rfl rfl rfl|exact Z6g) (hd:Nat.blt d n=true:=by exact rfl) :
 WL P n ops Q (⟨some d,.call { callee:=.value c,args:=xs,argTypes:=ts },ty,pos,af,none⟩ :: rest) e w:=
 Z0 (Z4 hc hv h) hd (by rintro _ w' ⟨rfl,hT⟩;exact k w' hT (hS.trans hT))
theorem DPD {Lt:List Nat} {ord:List (Nat×Nat)} {i f d:Nat} {fn:Func} {gd:Option (Nat×Bool)} {xs:Array Operand} {ts:Array TypeId} {vs:Array Value} {r:Value} {c:Operand} {S:List Nat} [hf:Fun P f fn] (hS:StD w0 w) (h:Calls P f vs w (Ret λv w'=>v=r/\StD w w')) (k:∀ w',StD w w'->StD w0 w'->WD P n ops S Lt Q ord ((d,r) :: e) w')
 (hi:ops[i]?=some ⟨some d,.call { callee:=.value c,args:=xs,argTypes:=ts },ty,pos,af,gd⟩:=by exact rfl) (hg:Z0b ops e gd:=by first|exact trivial|exact rfl)
 (hc:ev e c=some (.func (.func f) #[] #[]):=by exact rfl) (hv:∀ a,Has n e a->xs.map a.eval=vs:=by first|exact ZN rfl|exact Zf rfl rfl|exact ZK rfl rfl rfl|exact Z7v rfl rfl rfl rfl|exact Z6g) (hd:Nat.blt d n=true:=by exact rfl) :
 WD P n ops S Lt Q ((i,2) :: ord) e w:=
 Za hi hg (Z4 hc hv h) (λ_ _ h=>h.2.s.mn) hd (by rintro _ w' ⟨rfl,hT⟩;exact k w' hT (hS.trans hT))
end
section
variable {w:World} {T:Nat}
theorem ZgQ {g q:Nat} {cur F:Array Value} (os:Array Obj) (h:w.heap[g]?=some (.cells cur T (0,0))) (hl:F.size<=cur.size) :
 Stp [g] w (Go.Sort.grow (Go.Sort.putRow id (Go.Sort.ahead w q) g 0 F) os)/\
 ∃ cur',(Go.Sort.grow (Go.Sort.putRow id (Go.Sort.ahead w q) g 0 F) os).heap[g]?=some (.cells cur' T (0,0))/\cur'.size=cur.size/\cur'.toList.take F.size=F.toList:=by
 have hlt:g<w.heap.size:=(Xm.1 h).1;have hh:(Go.Sort.grow (Go.Sort.putRow id (Go.Sort.ahead w q) g 0 F) os).heap=w.heap.modify g (Go.Sort.onCells (Go.Sort.putCells id 0 F))++os:=rfl;refine ⟨⟨rfl,rfl,rfl,by rw [hh];simp,λb hb hn=>?_⟩,Go.Sort.putCells id 0 F cur,?_,by simp [Go.Sort.putCells],?_⟩;rw [hh,XY (by simpa using hb),YaV,if_neg (by simp at hn;exact λe=>hn e.symm)];rw [hh,XY (by simpa using hlt),YaV,if_pos rfl,h];rfl;apply YaG;simp [Go.Sort.putCells];omega;intro i h1 h2;have hi:i<F.size:=by simpa using h2
 simp [Go.Sort.putCells,hi]
theorem Zez {g:Nat} {cur F:Array Value} (h:w.heap[g]?=some (.cells cur T (0,0))) (ht:cur.toList.take F.size=F.toList):Go.Sort.Holds id w g 0 F:=by
 intro j hj;have hc:cur[j]?=some F[j]:=by
  have h1:(cur.toList.take F.size)[j]?=some F[j]:=by rw [ht];simp [hj]
  rw [Yaf,if_pos hj] at h1;simpa using h1
 constructor;simp [World.cell?,h,hc,hj];simp [World.frozen?,h]
theorem Z8D {β:Type} [Z3 β] [Inhabited β] (hk:0<Z3.k β) (xs:List β):(Go.Sort.flatK Z3.enc (Z3.k β) xs.toArray).toList=(xs.map Z3.enc).flatten:=by
 have ai:((xs.map Z3.enc).flatten:List Value).length=xs.length * Z3.k β:=by
  rw [Z19 (k:=Z3.k β) _ (by intro c hc;obtain ⟨x,_,rfl⟩:=XH.1 hc;exact Z3.len x),Xu]
 apply List.ext_getElem?;intro t;by_cases ht:t<xs.length * Z3.k β;have hq:t / Z3.k β<xs.length:=Nat.div_lt_of_lt_mul (by rwa [Yba] at ht);have hr:t % Z3.k β<Z3.k β:=YbE _ hk;have h1:=Z0v (k:=Z3.k β) (xs.map Z3.enc) (by intro c hc;obtain ⟨x,_,rfl⟩:=XH.1 hc;exact Z3.len x) (t / Z3.k β) (by simpa using hq) (t % Z3.k β) ((Z3.enc xs[t / Z3.k β])[t % Z3.k β]'(by rw [Z3.len];exact hr)) (by simp [Z3.len,hr]);rw [Yba,Ybl] at h1;rw [h1];have h2:=Go.Sort.get_flatK Z3.enc (Z3.k β) xs.toArray t (by simpa using ht);have hs:t<(Go.Sort.flatK Z3.enc (Z3.k β) xs.toArray).size:=by simpa using ht
 rw [getElem!_pos _ t hs] at h2;rw [YaW,Array.getElem?_eq_getElem hs,h2];congr 1;rw [getElem!_pos xs.toArray _ (by simpa using hq),getElem!_pos _ _ (by rw [Z3.len];exact hr)];simp;rw [YaU (by simpa using YbA ht),YaU (by rw [ai];omega)]
theorem Row.toK {β:Type} [Z3 β] {X:List Nat} {base:Nat} {v:Value} {zs:List β} (h:Row X w base T v zs) :
 (v=.N/\zs=[])\/∃ g cap cur,v=.slice (some ⟨g,0,none⟩) zs.length cap/\base<=g/\w.heap[g]?=some (.cells cur T (0,0))/\zs.length<=cap/\cap<=maxLen/\cur.size=cap * Z3.k β/\cur.toList.take (zs.length * Z3.k β)=(zs.map Z3.enc).flatten:=by
 obtain ⟨css,hl,hr,hx,ho⟩:=h;have hc:css=zs.map Z3.enc:=by
  apply YaG (by simpa using hl);intro i h1 h2;have:css[i]=Z3.enc zs[i]:=hr i (by omega) h1;simp [this]
 subst hc;rcases ho with ⟨rfl,hn⟩|⟨g,cap,cur,rfl,hb,hg,cO,bQ,aO,ht⟩
 exact .inl ⟨rfl,Xy.1 hn⟩;exact .inr ⟨g,cap,cur,rfl,hb,hg,cO,bQ,aO,ht⟩
theorem Row.ofK {β:Type} [Z3 β] {X:List Nat} {base g cap:Nat} {cur:Array Value} {zs:List β} (hb:base<=g) (hg:w.heap[g]?=some (.cells cur T (0,0))) (cO:zs.length<=cap) (bQ:cap<=maxLen) (aO:cur.size=cap * Z3.k β)
 (ht:cur.toList.take (zs.length * Z3.k β)=(zs.map Z3.enc).flatten):Row X w base T (.slice (some ⟨g,0,none⟩) zs.length cap) zs:=
 ⟨zs.map Z3.enc, by simp, λi h1 h2 => by simp; rfl, by
   rw [Z19 (k:=Z3.k β) _ (by intro c hc;obtain ⟨x,_,rfl⟩:=XH.1 hc;exact Z3.len x),Xu];rfl,
   .inr ⟨g,cap,cur,rfl,hb,hg,cO,bQ,aO,ht⟩⟩
theorem Z2d {β:Type} [Z3 β] {X X':List Nat} {base:Nat} {v:Value} {zs:List β} (h:Row X w base T v zs):Row X' w base T v zs:=by
 rcases h.toK with ⟨rfl,rfl⟩|⟨g,cap,cur,rfl,hb,hg,cO,bQ,aO,ht⟩
 exact Row.nil;exact Row.ofK hb hg cO bQ aO ht
open Go.Shelf Go.Sort in
theorem Za0 {β:Type} [Z3 β] [Inhabited β] {P:Program} {ρ:Ren} (fw:0<Z3.k β) (L:SlLaysF0.n6 P ρ) (aE:∀ w,(isAgg (ρ.t 24)).run P w=.ok true w) (zE:∀ w,(Go.sizeOf (ρ.t 24)).run P w=.ok (Z3.k β) w) (cf:β->β->Int) (hO:SWO (ltOf cf)) (g:Nat) {fn:Func} [hf:Fun P g fn]
 (rm:∀ (x y:β) (w),Calls P g #[aG x,aG y] w (Ret λr w'=>r=.I (cf x y)/\StD w w'))
 {X:List Nat} {base:Nat} {v:Value} {zs:List β} (h:Row X w base T v zs) (bH:zs.length<4611686018427387904) :
 Calls P (ρ.f 6) #[v,.func (.func g) #[] #[]] w (Ret λr w'=>r=.tuple #[]/\∃ zs':List β,zs'.Perm zs/\(∀ i j (hi:i<zs'.length) (hj:j<zs'.length),i<j->¬ cf zs'[j] zs'[i]<0)/\Row X w' base T v zs'/\Stp (ob v) w w'):=by
 rcases h.toK with ⟨rfl,rfl⟩|⟨gb,cap,cur,rfl,hb,hg,cO,bQ,aO,ht⟩
 refine (AnyF.slices_SortFunc_none L none 0 _ w).mono ?_;rintro _ _ ⟨rfl,rfl⟩;exact .mk ⟨rfl,[],Yaj _,λi j hi=>absurd hi (Xw _),Row.nil,Stp.refl _ _⟩;have hlt:gb<w.heap.size:=(Xm.1 hg).1;have hC:CmpLays P g #[] Z3.enc (Z3.k β) cf gb 0 zs.toArray.size w:=λm os dk hs x y=>by
  refine (rm x y _).mono ?_;rintro _ _ ⟨_,rfl,rfl,hD⟩;exact ⟨rfl,hD.grown⟩
 have hH:HoldsK Z3.enc (Z3.k β) w gb 0 zs.toArray:=Zez hg (by rw [size_flatK,Z8D fw];simpa using ht);have hS:=AnyQ.slices_SortFunc L (Z3.k β) aE zE Z3.enc Z3.len Z3.one cf hO g #[] gb 0 cap zs.toArray w (λargs w=>hf.enters args w) hC hH hlt (by simpa using bH);rw [show zs.toArray.size=zs.length by simp] at hS;refine hS.mono ?_;rintro _ _ ⟨rfl,d',q,os,⟨p1,p2,p3⟩,ew,rfl⟩;have hl:d'.size=zs.length:=by simpa using p1
 have hp:d'.toList.Perm zs:=by
  have e1:d'.extract 0 zs.length=d':=by rw [<- hl];simp
  have e2:zs.toArray.extract 0 zs.length=zs.toArray:=by simp
  rw [e1,e2] at p3;simpa using p3
 obtain ⟨h1,cur',h2,h3,h4⟩:=ZgQ (q:=q) (F:=flatK Z3.enc (Z3.k β) d') os hg (by rw [size_flatK,hl,aO];exact Xq _ cO);refine .mk ⟨rfl,d'.toList,hp,λi j hi hj dJ=>?_,?_,h1⟩;have:=ew i j (Xp _) dJ (by simpa [hl] using hj);simp only [ltOf,decide_eq_false_iff_not] at this;rw [getElem!_pos d' j (by simpa using hj),getElem!_pos d' i (by simpa using hi)] at this;simpa using this;have hz:zs.length=d'.toList.length:=by simp [hl]
 rw [hz];refine Row.ofK hb h2 (by rw [<- hz];exact cO) bQ (by rw [h3,aO]) ?_;rw [<- hz,<- hl,<- size_flatK Z3.enc (Z3.k β) d',h4];have:=Z8D fw d'.toList;simpa using this
end
variable {P:Program} {n:Nat} {e:Env} {w:World} {d:Option Nat} {ty:TypeId} {pos:String} {af:Array Edge} {g:Option (Nat×Bool)}
theorem Zfx {T k bytes:Nat} {z:Value} [hk:Siz P T k] [hb:Byt P T bytes] [hz:Zer P T z]:∃ i,P.info? T=some i/\i.size=k/\i.bytes=bytes/\i.zero=some z:=by
 have a1:=hk.h;have a2:=hb.h;have a3:=hz.h;cases hi:P.info? T with
 | none=>simp [hi] at a1
 | some i=>exact ⟨i,rfl,by simpa [hi] using a1,by simpa [hi] using a2,by simpa [hi] using a3⟩
def ZxZ (T k m:Nat) (w:World) (v:Value) (w':World):Prop:=∃ b cur,v=.slice (some ⟨b,0,none⟩) m m/\w.heap.size<=b/\w'.heap[b]?=some (.cells cur T (0,0))/\cur.size=m * k/\m<=maxLen/\Stp [] w w'
theorem Z9p {t T bytes k m:Nat} {x y:Operand} {z:Value} [ht:Und P t (.slice T)] [hk:Siz P T k] [hb:Byt P T bytes] [hz:Zer P T z]
 (hx:ev e x=some (.I (m:Int))) (hy:ev e y=some (.I (m:Int))) (gT:m<=maxLen) (hbytes:bytes * m<=281474976710656) :
 OE P n ⟨d,.makeSlice t x y,ty,pos,af,g⟩ e w (ZxZ T k m w):=by
 obtain ⟨i,hi,bM,cg,fE⟩:=Zfx (P:=P) (T:=T) (k:=k) (bytes:=bytes) (z:=z);obtain ⟨w',bh,ce,qC⟩:=run_make_full (P:=P) w w.heap.size t T i z k ht.h hi fE bM .i64 .i64 m (by rw [cg];exact hbytes) gT (Xn _);refine Jd (v:=.slice (some ⟨w.heap.size,0,none⟩) m m) (w':=w') (λa ha=>?_) ?_;simp [execOp,ha.ev hx,ha.ev hy,bh];rcases ce.2 with ⟨h,_⟩|⟨gb,cap,cur,h,bV,hg,hn,hm,aO,mq⟩
 cases h;cases h;exact ⟨_,cur,rfl,Xn _,hg,aO,gT,Stp.of_grown qC⟩
theorem Zkr {β:Type} [Z3 β] {t T bytes b:Nat} {x y:Operand} {z u:Value} {zs:List β} {cur:Array Value} {base:Nat} [ht:Und P t (.slice T)] [hk:Siz P T (Z6.k β)] [hb:Byt P T bytes] [hz:Zer P T z]
 (hx:ev e x=some (.slice (some ⟨b,0,none⟩) zs.length zs.length)) (hy:ev e y=some u) (hs:SlV [] w u zs) (hg:w.heap[b]?=some (.cells cur T (0,0))) (aO:cur.size=zs.length * Z6.k β) (aX:base<=b) (hm:zs.length<=maxLen) :
 OE P n ⟨d,.call { callee:=.builtin .copy,args:=#[x,y],argTypes:=#[t,t] },ty,pos,af,g⟩ e w (λ_ w'=>(∀ X,Row X w' base T (.slice (some ⟨b,0,none⟩) zs.length zs.length) zs)/\Stp [b] w w'):=by
 obtain ⟨i,hi,bM,cg,fE⟩:=Zfx (P:=P) (T:=T) (k:=Z6.k β) (bytes:=bytes) (z:=z);have dC:((zs.map Z3.enc).flatten:List Value).length=zs.length * Z6.k β:=by
  rw [Z19 (k:=Z3.k β) _ (by intro c hc;obtain ⟨x,_,rfl⟩:=XH.1 hc;exact Z3.len x),Xu];rfl
 have aM:∀ v∈(zs.map Z3.enc).flatten,v.oneCell'=true:=by
  intro v hv;obtain ⟨c,hc,fB⟩:=List.mem_flatten.1 hv;obtain ⟨x,_,rfl⟩:=XH.1 hc;exact Z3.one x v fB
 have ax:=run_storeCells_at (P:=P) b 0 T (zs.map Z3.enc).flatten 0 cur w hg (by rw [dC,aO];omega) aM;obtain ⟨p,c,rfl,yh,bQ,cM,aq⟩:=hs;have qx:(Builtin.firstCells (Z6.k β) zs.length (.slice p zs.length c)).run P w=.ok (zs.map Z3.enc).flatten.toArray w:=by
  cases p with
  | none=>
    have h0:zs.length=0:=by have:=cM rfl;omega
    obtain rfl:=Xy.1 h0;simp [Builtin.firstCells]
  | some a=>
    have:=run_loadCells_list (P:=P) (w:=w) a (zs.map Z3.enc).flatten (λj v hj=>by
     have fF:j<zs.length * Z3.k β:=by
      have h1:=(Xz.1 hj).1;rw [dC] at h1;exact h1
     have vC:0<Z3.k β:=by
      rcases Nat.eq_zero_or_pos (Z3.k β) with h|h
      rw [h] at fF;omega;exact h
     have hq:j / Z3.k β<zs.length:=Nat.div_lt_of_lt_mul (by rwa [Yba] at fF);have hr:j % Z3.k β<Z3.k β:=YbE _ vC;obtain ⟨b',o,cs,h1,h2,h3,h4,h5⟩:=aq _ hq;cases h1;have pn:cs=Z3.enc zs[j / Z3.k β]:=h4;have h6:=Z0v (k:=Z3.k β) (zs.map Z3.enc) (by intro c hc;obtain ⟨x,_,rfl⟩:=XH.1 hc;exact Z3.len x) (j / Z3.k β) (by simpa using hq) (j % Z3.k β) ((Z3.enc zs[j / Z3.k β])[j % Z3.k β]'(by rw [Z3.len];exact hr)) (by simp [Z3.len,hr]);rw [Yba,Ybl] at h6;rw [h6] at hj;have h7:=h5 (j % Z3.k β) _ (by rw [pn];exact XV (by rw [Z3.len];exact hr));rw [X2 hj] at h7;have h8:o+j / Z3.k β * Z3.k β+j % Z3.k β=o+j:=by
      have:=Ybl j (Z3.k β);rw [Yba] at this;omega
     have h9:(⟨b',o,none⟩:Addr).add j=⟨b',o+j,none⟩:=by unfold Addr.add;split<;>simp_all
     rw [h9,<- h8];exact h7)
    rw [dC] at this;simpa [Builtin.firstCells] using this
 refine Jd (v:=goInt zs.length) (w':=w.setRow b ((zs.map Z3.enc).flatten++cur.toList.drop ((zs.map Z3.enc).flatten.length)).toArray) (λa ha=>?_) ⟨λX=>?_,Z1W _ _ _⟩;have hr:(Builtin.copy_ #[t,t] ty #[.slice (some ⟨b,0,none⟩) zs.length zs.length,.slice p zs.length c]).run P w=.ok (goInt zs.length) (w.setRow b ((zs.map Z3.enc).flatten++cur.toList.drop ((zs.map Z3.enc).flatten.length)).toArray):=by
  simp only [Ybp,XP,Ybu,XN] at ax;simp [Builtin.copy_,run_underlying ht.h,Builtin.lenOf,sizeOf,typeInfo,hi,bM,qx,ax]
 generalize w.setRow b ((zs.map Z3.enc).flatten++cur.toList.drop ((zs.map Z3.enc).flatten.length)).toArray=W' at hr ⊢;simp [execOp,resolve,invoke,builtin,ha.ev hx,ha.ev hy,hr];have oZ:b<w.heap.size:=(Xm.1 hg).1;refine Row.ofK (cur:=((zs.map Z3.enc).flatten++cur.toList.drop ((zs.map Z3.enc).flatten.length)).toArray) aX (setRow_heap w b cur _ T (0,0) hg) (Xn _) hm ?_ ?_;have:Z3.k β=Z6.k β:=rfl;rw [this];simp only [Yaw,Xd,Yar,Yak,dC,aO];omega;have:Z3.k β=Z6.k β:=rfl;rw [this];simp only [List.take_append_of_le_length (Nat.le_of_eq dC.symm)];rw [<- dC,Xo]
end Go.Eng
namespace Go.Proofs.YtipfkbkkndacjaaGreatDoor
open Go Go.Eng Go.RowKit
theorem ZgR (x y:Int) (w):CC 75 #[.I x,.I y] w λr w'=>r=.I (cmI x y)/\StD w w':=
 (Tryz.cmp_Compare_int x y w).mono (by
   rintro e w' ⟨rfl,rfl⟩;exact .mk ⟨rfl,StD.refl _⟩)
theorem Zks (a:Str) (w):CC 126 #[str a] w λr w'=>r=.B false/\StD w w':=by
 refine cW1 6 Tryz.func126 ?_;refine RT ?_;exact ⟨by simp,StD.refl _⟩
theorem ZwY (a b:Str) (w):CC 76 #[str a,str b] w λr w'=>r=.I (Z4a a b)/\StD w w':=by
 refine cW2 20 Tryz.func76 ?_;refine W ?_;refine CPD (StD.refl w) (Zks a _) λw1 _ hS=>?_;refine W ?_;refine CPD hS (Zks b _) λw2 _ hS=>?_;refine W ?_;cases h1:ltS a b
 . refine Z8 (Z7L rfl rfl h1) rfl ?_
   refine W ?_;cases h2:(!(ltS a b || a == b))
   all_goals
    refine Z8 (Zfw rfl rfl h2) rfl ?_;refine RT ?_;exact ⟨by rw [Z4a,if_neg (by simp [h1]),h2];rfl,hS⟩
 refine Z8 (Z7L rfl rfl h1) rfl ?_;refine RT ?_;exact ⟨by rw [Z4a,h1];rfl,hS⟩
theorem Zy0 (v:Value) (l:List Int) (w) (hs:SlV [] w v l):CC 74 #[v] w λr w'=>r=.I (orL l)/\StD w w':=by
 have aU:=hs.max;refine cW1 18 Tryz.func74 ?_;refine W ?_;refine LP (σ:=Nat) (λk=>[(3,.I 0),(6,v),(7,.I l.length),(8,.I k)]) (λk w'=>k<=l.length/\StD w w'/\∀ j (h:j<l.length),j<k->l[j]=0) (λk=>l.length - k) 0 ⟨by omega,StD.refl _,by omega⟩ ?_;have ba:=hs;clear hs;rintro k w1 ⟨hk,hS,hz⟩;have hs:=ba.up hS.s;by_cases hlt:k<l.length;by_cases h0:l[k]=0;refine QO ?_;exact QL (k+1) ⟨by omega,hS,λj h hj=>by
  by_cases e:j=k;subst e;exact h0;exact hz j h (by omega)⟩ (by omega)
 refine RT ?_;exact ⟨by rw [Zew hlt hz h0],hS⟩;refine RT ?_;exact ⟨by rw [Z8A (λj h=>hz j h (by omega))],hS⟩
theorem ZwZ (f g:Fct) (w):CC 43 #[aG f,aG g] w λr w'=>r=.I (Z3n f g)/\StD w w':=by
 refine cW2 37 Tryz.func43 ?_;refine W ?_;refine BXD (StD.refl w) λb2 w1 h2 e2 _ hS=>?_;refine BXD hS λb3 w2 h3 e3 hT hS=>?_;replace e2:=e2.up hT.s;replace e2:Blk w2 b2 45 (Z3.enc f):=e2;replace e3:Blk w2 b3 45 (Z3.enc g):=e3;refine W ?_;refine ZgP 33 [] [] [(0,0),(1,1),(2,0),(3,1),(5,0),(6,1),(7,0),(8,1),(10,0),(11,1),(12,0),(13,1),(15,0),(16,1),(17,0),(18,1),(20,0),(21,1),(22,0),(23,1),(25,0),(26,1),(27,0),(28,1),(4,2),(9,2),(14,2),(19,2),(24,2),(29,2),(30,2),(31,2),(32,0)] rfl mixed (by kernel_rfl) (by kernel_rfl) (by kernel_rfl) (λw1 ae=>?_);replace e2:=e2.up ae.s;replace e3:=e3.up ae.s;replace hS:=hS.trans ae;refine D ?_;clear ae e2 e3;refine DPD hS (ZgR _ _ _) λ_ _ hS=>?_;refine DPD hS (ZgR _ _ _) λ_ _ hS=>?_;refine DPD hS (ZwY _ _ _) λ_ _ hS=>?_;refine DPD hS (ZgR _ _ _) λ_ _ hS=>?_;refine DPD hS (ZgR _ _ _) λ_ _ hS=>?_;refine DPD hS (ZgR _ _ _) λ_ _ hS=>?_;refine Za rfl trivial (Z8C rfl (ZcQ _ _ _ _ _ _)) (λ_ _ h=>Z9.stp h.1) rfl ?_;rintro bv wb ⟨hN,hT⟩;have an:=hN.slv (X:=[]) (ys:=[cmI f.day g.day,cmI f.entry g.entry,Z4a f.kind g.kind,cmI f.by_ g.by_,cmI f.to_ g.to_,cmI f.amt g.amt]) (by simp) rfl rfl (by simp [maxLen]);replace hS:=hS.trans hT;refine DPD hS (Zy0 bv _ _ an) λ_ _ hS=>?_;refine D ?_;refine RT ?_;exact ⟨rfl,hS⟩
theorem Zx0 (a b:Spn) (w):CC 151 #[aG a,aG b] w λr w'=>r=.I (cmI a.1 b.1)/\StD w w':=by
 refine cW2 10 Tryz.func151 ?_;refine W ?_;refine BXD (StD.refl w) λb2 w1 h2 e2 _ hS=>?_;refine BXD hS λb3 w2 h3 e3 hT hS=>?_;replace e2:=e2.up hT.s;replace e2:Blk w2 b2 75 (Z3.enc a):=e2;replace e3:Blk w2 b3 75 (Z3.enc b):=e3;refine W ?_;refine CPD hS (ZgR _ _ _) λw3 _ hS=>?_;refine RT ?_;exact ⟨rfl,hS⟩
def ZeA (s:Spn):List Spn->List Spn
 | []=>[s]
 | x :: l=>if s.1<x.1 then s :: x :: l else x :: ZeA s l
def Zfy (l:List Spn):List Spn:=l.foldr ZeA []
def Z0g (acc:List Spn) (s:Spn):List Spn:=
 match acc.getLast? with
 | none=>[s]
 | some t=>if s.1<=t.2+1 then acc.dropLast++[(t.1,max t.2 s.2)] else acc++[s]
def Z3o (l:List Spn):List Spn:=(Zfy l).foldl Z0g []
structure Z8E (l:List Spn):Prop where
 len:l.length<=1000
 rng:∀ s∈l,0<=s.1/\s.1<=s.2/\s.2<=3652058
theorem Z4I (s:Spn):Z0g [] s=[s]:=rfl
theorem Z08 (L:List Spn) (u s:Spn):Z0g (L++[u]) s=if s.1<=u.2+1 then L++[(u.1,max u.2 s.2)] else L++[u]++[s]:=by
 simp [Z0g]
theorem Z6E (s:Spn):∀ l,(ZeA s l).Perm (s :: l)
 | []=>Yaj _
 | x :: l => by
   rw [ZeA];split;exact Yaj _
   . exact ((Z6E s l).cons x).trans (List.Perm.swap _ _ _)
theorem Z7f (s:Spn):∀ l:List Spn,l.Pairwise (λa b=>a.1<=b.1)->(ZeA s l).Pairwise (λa b=>a.1<=b.1)
 | [],_=>by simp [ZeA]
 | x :: l, h => by
   rw [ZeA];rw [X3] at h;split;rename_i hlt;refine X3.2 ⟨λy hy=>?_,X3.2 h⟩;rcases Xb.1 hy with rfl|hy
   omega;have:=h.1 y hy;omega;rename_i hlt;refine X3.2 ⟨λy hy=>?_,Z7f s l h.2⟩;rcases Xb.1 ((Z6E s l).mem_iff.1 hy) with rfl|hy
   omega;exact h.1 y hy
theorem Z3p:∀ l,(Zfy l).Perm l
 | []=>Yaj _
 | x :: l=>(Z6E x _).trans ((Z3p l).cons x)
theorem Z5X:∀ l,(Zfy l).Pairwise (λa b=>a.1<=b.1)
 | []=>List.Pairwise.nil
 | x :: l=>Z7f x _ (Z5X l)
theorem ZeB {acc:List Spn} {s t:Spn} (h:s.1=t.1) (hs:s.1<=s.2) (ht:t.1<=t.2):Z0g (Z0g acc s) t=Z0g (Z0g acc t) s:=by
 obtain ⟨s1,s2⟩:=s;obtain ⟨t1,t2⟩:=t;dsimp only at h hs ht;subst h;rcases Yap acc with rfl|⟨L,u,rfl⟩
 rw [Z4I,Z4I];have e1:=Z08 [] (s1,s2) (s1,t2);have e2:=Z08 [] (s1,t2) (s1,s2);rw [XN] at e1 e2;rw [e1,e2,if_pos (by dsimp only;omega),if_pos (by dsimp only;omega)];dsimp only;rw [Int.max_comm];obtain ⟨u1,u2⟩:=u;rw [Yaq,Z08,Z08];dsimp only;by_cases hc:s1<=u2+1;rw [if_pos hc,if_pos hc,Z08,Z08,if_pos (by dsimp only;omega),if_pos (by dsimp only;omega)];dsimp only;congr 3;omega;rw [if_neg hc,if_neg hc,Z08,Z08,if_pos (by dsimp only;omega),if_pos (by dsimp only;omega)];dsimp only;rw [Int.max_comm]
theorem Za1 {x:Spn} (hx:x.1<=x.2):∀ (A:List Spn) (acc:List Spn),(∀ a∈A,a.1=x.1/\a.1<=a.2)->Z0g (A.foldl Z0g acc) x=A.foldl Z0g (Z0g acc x)
 | [],_,_=>rfl
 | a :: A, acc, h => by
   rw [XX,XX,Za1 hx A _ (λb hb=>h b (by simp [hb])),ZeB (h a (by simp)).1 (h a (by simp)).2 hx]
theorem ZcU:∀ (L1 L2 acc:List Spn),L1.Perm L2->L1.Pairwise (λa b=>a.1<=b.1)->L2.Pairwise (λa b=>a.1<=b.1)->(∀ s∈L1,s.1<=s.2)->L1.foldl Z0g acc=L2.foldl Z0g acc
 | [],L2,acc,hp,_,_,_=>by rw [List.nil_perm.1 hp]
 | x :: l, L2, acc, hp, h1, h2, hv => by
   obtain ⟨A,B,rfl⟩:=List.append_of_mem (hp.mem_iff.1 (YaS));have hq:l.Perm (A++B):=(hp.trans List.perm_middle).cons_inv;rw [X3] at h1;have kI:=Ybj.1 h2;rw [XX,Yax,XX,Za1 (hv x (by simp)) A acc (λa ha=>?_),<- Yax];refine ZcU l (A++B) _ hq h1.2 ?_ (λs hs=>hv s (by simp [hs]));exact h2.sublist (List.Sublist.append_left (List.sublist_cons_self _ _) _);have eY:a∈l:=hq.mem_iff.2 (by simp [ha]);have g1:=h1.1 a eY;have g2:=kI.2.2 a ha x (by simp);exact ⟨by omega,hv a (by simp [eY])⟩
theorem ZgS {l L:List Spn} (hp:L.Perm l) (hs:L.Pairwise (λa b=>a.1<=b.1)) (hv:∀ s∈l,s.1<=s.2):Z3o l=L.foldl Z0g []:=
 ZcU _ _ _ ((Z3p l).trans hp.symm) (Z5X l) hs (λs h=>hv s ((Z3p l).mem_iff.1 h))
theorem ZgT (acc:List Spn) (s:Spn):(Z0g acc s).length<=acc.length+1:=by
 rcases Yap acc with rfl|⟨L,u,rfl⟩
 simp [Z0g];rw [Yaq,Z08];split<;>simp
theorem Z6F:∀ (L acc:List Spn),(L.foldl Z0g acc).length<=acc.length+L.length
 | [],acc=>by simp
 | x :: L, acc => by
   rw [XX];have h1:=Z6F L (Z0g acc x);have h2:=ZgT acc x;rw [Xe];omega
def SpV (s:Spn):Prop:=0<=s.1/\s.1<=s.2/\s.2<=3652058
theorem ZnB {acc:List Spn} {s:Spn} (ha:∀ x∈acc,SpV x) (hs:SpV s):∀ x∈Z0g acc s,SpV x:=by
 rcases Yap acc with rfl|⟨L,u,rfl⟩
 rw [Z4I];intro x hx;simp only [Xk] at hx;subst hx;exact hs;rw [Yaq] at ha ⊢;rw [Z08];have hu:=ha u (by simp);intro x hx;unfold SpV at *;split at hx;rcases Xg.1 hx with h|h
 exact ha x (by simp [h]);simp only [Xk] at h;subst h;dsimp only;omega;rcases Xg.1 hx with h|h
 exact ha x h;simp only [Xk] at h;subst h;exact hs
theorem Zbc:∀ (L acc:List Spn),(∀ x∈acc,SpV x)->(∀ x∈L,SpV x)->∀ x∈L.foldl Z0g acc,SpV x
 | [],acc,h,_=>h
 | y :: L,acc,h,hL=>Zbc L _ (ZnB h (hL y (by simp))) (λx hx=>hL x (by simp [hx]))
theorem Zkt {l:List Spn} (h:Z8E l):Z8E (Z3o l):=by
 have hp:=Z3p l;refine ⟨?_,Zbc _ _ (by simp) (λx hx=>h.rng x (hp.mem_iff.1 hx))⟩;have:=Z6F (Zfy l) [];rw [hp.length_eq] at this;have:=h.len;unfold Z3o;simp at *;omega
open Go Go.Eng Go.RowKit Go.Shelf Go.Sort
theorem Zy1 {α:Type} (f:α->Int):SWO (ltOf λx y:α=>cmI (f x) (f y)):=by
 have h:∀ x y,ltOf (λx y:α=>cmI (f x) (f y)) x y=decide (f x<f y):=by
  intro x y;unfold ltOf cmI;by_cases h1:f x<f y;simp [h1];by_cases h2:f y<f x<;>simp [h1,h2]
 refine ⟨λx=>by rw [h];simp,λx y z h1 h2=>?_,λx y z h1 h2=>?_⟩;rw [h] at *;simp at *;omega;rw [h] at *;simp at *;omega
instance:Inhabited Spn:=⟨(0,0)⟩
theorem ZcV {X:List Nat} {base:Nat} {v:Value} {zs:List Spn} {w} (h:Row X w base 75 v zs) (bH:zs.length<=1000) :
 CC 150 #[v,.func (.func 151) #[] #[]] w λr w'=>r=.tuple #[]/\∃ zs':List Spn,zs'.Perm zs/\(∀ i j (hi:i<zs'.length) (hj:j<zs'.length),i<j->¬ cmI zs'[j].1 zs'[i].1<0)/\Row X w' base 75 v zs'/\Stp (ob v) w w':=
 Za0 (β:=Spn) (by decide) Tryz.sortSpn Tryz.isAgg75 Tryz.sizeOf75 (λx y=>cmI x.1 y.1) (Zy1 Prod.fst) 151 (λx y w=>Zx0 x y w) h (by omega)
theorem ZgU (v:Value) (l:List Spn) (w) (hs:SlV [] w v l) (ho:Z8E l):CC 83 #[v] w λr w'=>ZF 75 w w' r (Z3o l):=by
 have ai:=ho.len;refine cW1 58 Tryz.func83 ?_;refine W ?_;refine Z0 (Z9p (m:=l.length) rfl rfl (by simp only [maxLen];omega) (Xh (Nat.mul_le_mul_left _ ai) (by decide))) rfl ?_;rintro _ w1 ⟨b,cur,rfl,hb,hg,aO,hm,hT⟩;have cr:=hs.up hT;refine W ?_;refine Z0 (Zkr (base:=w.heap.size) rfl rfl cr hg aO hb hm) rfl ?_;rintro _ w2 ⟨hr,ar⟩;replace hT:=hT.ow ar;refine W ?_;refine CL (ZcV (hr []) ai) ?_;rintro _ w3 ⟨rfl,L,hp,ew,dh,cB⟩;have hS:Stp [] w w3:=hT.own cB (λc hc=>.inr (by simp [ob] at hc;omega));have vD:L.Pairwise (λa b=>a.1<=b.1):=Yao.2 (λi j hi hj dJ=>by
  have:=ew i j hi hj dJ;unfold cmI at this;by_cases h1:L[j].1<L[i].1;rw [if_pos h1] at this;omega;omega)
 rw [ZgS hp vD (λs h=>(ho.rng s h).2.1)];have hv:∀ s∈L,SpV s:=λs h=>ho.rng s (hp.mem_iff.1 h);have j9:L.length=l.length:=hp.length_eq;have hL:L.length<=1000:=by rw [j9];exact ai
 have ay:SlV [] w3 (.slice (some ⟨b,0,none⟩) l.length l.length) L:=dh.slv (by simp);rw [<- j9] at *;clear hr dh cr hT ar cB hg aO ew hp;generalize yi:Value.slice (some ⟨b,0,none⟩) L.length L.length=vv at *;refine W ?_;refine LP (σ:=Nat×Value) (λq=>[(4,q.2),(16,vv),(17,.I L.length),(18,.I q.1)]) (λq w'=>q.1<=L.length/\ZF 75 w3 w' q.2 ((L.take q.1).foldl Z0g [])) (λq=>L.length - q.1) (0,.N) ⟨by omega,ZF.nil⟩ ?_;rintro ⟨k,rv⟩ w4 ⟨hk,hr⟩;dsimp only at hk hr ⊢;by_cases hlt:k<L.length;have eB:=ay.up hr.2;have hstep:(L.take (k+1)).foldl Z0g []=Z0g ((L.take k).foldl Z0g []) L[k]:=by rw [Xi hlt,Yax];rfl
 have dC:=Z6F (L.take k) [];have gg:=Zbc (L.take k) [] (by simp) (λx hx=>hv x (Yav hx));have vE:=hv _ (Xc hlt);rw [Xx,Xf] at dC;generalize (L.take k).foldl Z0g []=acc at *;refine QO ?_;refine Z0 Z2 rfl ?_;rintro _ w5 ⟨b6,rfl,ez,e6,hA⟩;refine SA (us:=Z3.enc L[k]) e6 ?_;rintro _ w6 ⟨dr,e6⟩;replace hA:=hA.ow dr;replace hr:=hr.up hA;clear hA dr eB;have eK:SlV [] w6 rv acc:=hr.slv (by simp);refine W ?_;rcases Yap acc with rfl|⟨M,u,rfl⟩
 refine ZDr 14 [] [] [(0,0),(1,0),(2,0),(3,0),(4,1),(5,0),(6,0),(7,0),(8,0),(9,0),(10,1),(11,0),(12,0),(13,0)] (λw1 ae=>?_);replace hr:=hr.up ae;replace e6:=e6.up ae;refine D ?_;refine W ?_;refine AP1 L[k] hr (by simp) λv1 v' w' bE _=>?_
 refine W ?_;exact QL (k+1,v') ⟨hlt,by rw [hstep,Z4I];exact bE⟩ (by dsimp only;omega);rw [Yaq] at *;rw [Z08] at hstep;have lc:((M++[u]).length:Int) - 1=(M.length:Nat):=by simp
 have mx:M.length<(M++[u]).length:=by simp
 have dB:(M++[u])[M.length]=u:=by simp
 have hu:=gg u (by simp);unfold SpV at hu vE;have vF:0<=(M++[u])[M.length].2/\(M++[u])[M.length].2<=3652058:=by rw [dB];omega
 have gB:0<((M++[u]).length:Int):=by simp
 refine ZDr 14 [] [] [(0,0),(1,0),(2,0),(3,0),(4,1),(5,0),(6,0),(7,0),(8,0),(9,0),(10,1),(11,0),(12,0),(13,0)] (λw1 ae=>?_);replace hr:=hr.up ae;replace eK:=eK.up ae;replace e6:=e6.up ae;refine QD ?_;rw [dB];refine W ?_;refine VC ?_ ?_<;>intro hc;rw [if_pos hc] at hstep;refine W ?_;refine ZDr 15 [] [14] [(0,0),(1,0),(2,0),(3,0),(4,0),(5,0),(6,0),(7,0),(8,1),(9,0),(10,1),(11,0),(12,0),(13,0),(14,2)] (λw1 ae=>?_);replace hr:=hr.up ae;replace eK:=eK.up ae;replace e6:=e6.up ae;refine QD ?_;rw [dB];refine Jr rfl trivial (ZaQ (y':=(u.1,max u.2 L[k].2)) (u:=.I (max u.2 L[k].2)) rfl rfl rfl rfl rfl hr mx (by decide) (by rw [dB];rfl)) rfl ?_;rintro _ w8 ⟨tF,-⟩;refine D ?_;refine W ?_;rw [show (M++[u]).set M.length (u.1,max u.2 L[k].2)=M++[(u.1,max u.2 L[k].2)] by simp] at tF;exact QL (k+1,rv) ⟨hlt,by rw [hstep];exact tF⟩ (by dsimp only;omega);rw [if_neg hc] at hstep;refine W ?_;refine AP1 L[k] hr (by omega) λv1 v' w' bE _=>?_
 refine W ?_;exact QL (k+1,v') ⟨hlt,by rw [hstep];exact bE⟩ (by dsimp only;omega);obtain rfl:k=L.length:=by omega
 rw [Xo] at hr;refine QO ?_;refine WR ?_;exact .mk (hr.pre hS)
def Z8F (start:Int):List Spn->Int->Int
 | [],d=>d
 | s :: l,d=>if d<s.1 then d else Z8F start l (d+max 0 (s.2 - max s.1 (start+1)+1))
def Z7z (start due:Int) (l:List Spn):Int×Int:=if due<=start then (due,0) else if 3652058<Z8F start (Z3o l) due then (0,31) else (Z8F start (Z3o l) due,0)
theorem ZgV (start:Int) (L:List Spn) (d:Int) (k:Nat) (h:k<L.length):Z8F start (L.drop k) d=if d<L[k].1 then d else Z8F start (L.drop (k+1)) (d+max 0 (L[k].2 - max L[k].1 (start+1)+1)):=by
 rw [Yac h,Z8F]
theorem Z8G (start due:Int) (v:Value) (l:List Spn) (w) (hs:SlV [] w v l) (ho:Z8E l) (h1:-1000000000<=start/\start<=1000000000) (h2:-1000000000<=due/\due<=1000000000):CC 51 #[.I start,.I due,v] w λr w'=>r=.tuple #[.I (Z7z start due l).1,.I (Z7z start due l).2]/\Stp [] w w':=by
 have hm:=Zkt ho;unfold Z7z;refine cW3 41 Tryz.func51 ?_;by_cases hd:due<=start;rw [if_pos hd];refine RT ?_;exact ⟨rfl,Stp.refl _ _⟩;rw [if_neg hd];refine QO ?_;refine CG (ZgU v l w hs ho) ?_;intro rv w1 hr;have hS:=hr.2;have eK:SlV [] w1 rv (Z3o l):=hr.slv (by simp);clear hr;generalize Z3o l=L at *;refine W ?_;refine Z0h (σ:=Int) (λd=>[(0,.I start),(1,.I d)]) (λd w'=>Stp [] w w'/\d=Z8F start L due/\-1000000000<=d/\d<=9000000000000) ?_ ?_;refine LP (σ:=Nat×Int) (λq=>[(0,.I start),(1,.I q.2),(15,rv),(16,.I L.length),(17,.I q.1)]) (λq w'=>q.1<=L.length/\Stp [] w1 w'/\Z8F start (L.drop q.1) q.2=Z8F start L due/\-1000000000<=q.2/\q.2<=1000000000+q.1 * 4000000000) (λq=>L.length - q.1) (0,due) ⟨by omega,Stp.refl _ _,rfl,h2.1,by dsimp only;omega⟩ ?_;rintro ⟨k,d⟩ w2 ⟨hk,hT,he,g1,g2⟩;dsimp only at hk he g1 g2 ⊢;have ai:=hm.len;have rn:=eK.up hT;by_cases hlt:k<L.length;obtain ⟨r1,r2,r3⟩:=hm.rng _ (Xc hlt);have hstep:=ZgV start L d k hlt;rw [he] at hstep;refine QO ?_;refine Z0 Z2 rfl ?_;rintro _ w3 ⟨b9,rfl,ir,e9,am⟩;refine SA (us:=Z3.enc L[k]) e9 ?_;rintro _ w4 ⟨aI,e9⟩;replace hT:=hT.trans (am.ow aI);clear am aI rn;simp only [Z3.enc] at e9;by_cases hb:d<L[k].1;rw [if_pos hb] at hstep;refine QO ?_;exact QT d ⟨hS.trans hT,hstep.symm,g1,by omega⟩;rw [if_neg hb] at hstep;refine QO ?_;exact Zs (k+1,d+max 0 (L[k].2 - max L[k].1 (start+1)+1)) ⟨rfl,rfl,rfl,rfl,rfl,trivial⟩ ⟨hlt,hT,hstep.symm,by dsimp only;omega,by dsimp only;omega⟩ (by dsimp only;omega);refine QO ?_;rw [YaD (by omega)] at he;exact QT d ⟨hS.trans hT,he,g1,by omega⟩;rintro d w2 ⟨ah,rfl,g1,g2⟩;generalize Z8F start L due=d at *;by_cases hc:3652058<d;rw [if_pos hc];refine RT ?_;exact ⟨rfl,ah⟩;rw [if_neg hc];refine RT ?_;exact ⟨rfl,ah⟩
def ZoQ (start due:Int) (l:List Spn):Int:=if (Z7z start due l).2≠0 then 3652058 else (Z7z start due l).1
def Z6G (start e:Int) (s:Spn):Bool:=decide (start<s.2/\s.1<=e)
def Z7g (start due:Int) (l:List Spn):List Spn:=if due<=start then [] else l.filter (Z6G start (ZoQ start due l))
theorem ZcW {α:Type} (p:α->Bool) (l:List α) (k:Nat) (h:k<l.length):(l.take (k+1)).filter p=(l.take k).filter p++if p l[k]=true then [l[k]] else []:=by
 rw [Xi h,Ya8];congr 1;cases hc:p l[k]<;>simp [hc]
theorem Zku (start due:Int) (v:Value) (l:List Spn) (w) (hs:SlV [] w v l) (ho:Z8E l) (h1:-1000000000<=start/\start<=1000000000) (h2:-1000000000<=due/\due<=1000000000):CC 55 #[.I start,.I due,v] w λr w'=>ZF 75 w w' r (Z7g start due l):=by
 have ai:=ho.len;unfold Z7g;refine cW3 46 Tryz.func55 ?_;by_cases hd:due<=start;rw [if_pos hd];refine QO ?_;refine WR ?_;exact .mk ZF.nil;rw [if_neg hd];refine QO ?_;refine CP (Stp.refl [] w) (Z8G start due v l w hs ho h1 h2) λw1 _ hS=>?_;refine W ?_;unfold ZoQ;generalize Z7z start due l=p;obtain ⟨d,c⟩:=p;dsimp only;refine JK (σ:=Unit) (λ_=>[(0,.I start),(2,v),(7,.I (if c≠0 then 3652058 else d))]) (λ_ w'=>Stp [] w w') ?_ ?_;by_cases hc:c=0;rw [if_neg (by simpa using hc)];refine QO ?_;exact QT () hS;rw [if_pos hc];refine QO ?_;exact QT () hS;rintro _ w2 hS;generalize (if c≠0 then (3652058:Int) else d)=E;have bq:=hs.up hS;refine W ?_;refine LP (σ:=Nat×Value) (λq=>[(0,.I start),(7,.I E),(9,q.2),(24,v),(25,.I l.length),(26,.I q.1)]) (λq w'=>q.1<=l.length/\ZF 75 w w' q.2 ((l.take q.1).filter (Z6G start E))) (λq=>l.length - q.1) (0,.N) ⟨by omega,ZF.pre hS ZF.nil⟩ ?_;rintro ⟨k,rv⟩ w3 ⟨hk,hr⟩;dsimp only at hk hr ⊢;have eZ:=hs.up hr.2;by_cases hlt:k<l.length
 . have hstep:=ZcW (Z6G start E) l k hlt
   refine QO ?_;refine Z0 Z2 rfl ?_;rintro _ w4 ⟨b11,rfl,rp,e11,am⟩;refine SA (us:=Z3.enc l[k]) e11 ?_;rintro _ w5 ⟨aI,e11⟩;replace hr:=hr.up (am.ow aI);clear am aI eZ;repeat'(first|refine W1 ?_|omega|refine VG ?_ ?_<;>intro hg|refine VC ?_ ?_<;>intro hc)
   all_goals first
    | exact QL (k + 1, rv) ⟨hlt, by
       rw [hstep,if_neg (show ¬ Z6G start E l[k]=true by simp only [Z6G,decide_eq_true_eq];omega),XG];exact hr⟩ (by dsimp only;omega)
    | refine AP1 l[k] hr (Xh (X0 _ _) (by simp; omega)) λv1 v' w' bE _ => ?_
      refine QO ?_;exact QL (k+1,v') ⟨hlt,by
       rw [hstep,if_pos (show Z6G start E l[k]=true from decide_eq_true ⟨by omega,by omega⟩)];exact bE⟩ (by dsimp only;omega)
 obtain rfl:k=l.length:=by omega
 rw [Xo] at hr;refine QO ?_;refine WR ?_;exact .mk hr
def ZgW (l:List Spn):Int:=if 64<l.length then 2 else if l.any (λs=>decide (s.1<0\/s.2<s.1\/3652058<s.2)) then 5 else 0
theorem Zbd (v:Value) (l:List Spn) (w) (hs:SlV [] w v l):CC 113 #[v] w λr w'=>r=.I (ZgW l)/\Stp [] w w':=by
 have aU:=hs.max;unfold ZgW;refine cW1 33 Tryz.func113 ?_;by_cases kg:64<l.length;rw [if_pos kg];refine RT ?_;exact ⟨rfl,Stp.refl _ _⟩;rw [if_neg kg];refine QO ?_;refine LP (σ:=Nat) (λk=>[(0,v),(9,.I l.length),(10,.I k)]) (λk w'=>k<=l.length/\Stp [] w w'/\∀ j (h:j<l.length),j<k->¬ (l[j].1<0\/l[j].2<l[j].1\/3652058<l[j].2)) (λk=>l.length - k) 0 ⟨by omega,Stp.refl _ _,by omega⟩ ?_;rintro k w2 ⟨hk,hS,hz⟩;have bq:=hs.up hS;by_cases hlt:k<l.length
 . refine QO ?_
   refine Z0 Z2 rfl ?_;rintro _ w4 ⟨b4,rfl,bz,e4,am⟩;refine SA (us:=Z3.enc l[k]) e4 ?_;rintro _ w5 ⟨aI,e4⟩;replace hS:=hS.trans (am.ow aI);clear am aI;repeat'(first|refine W1 ?_|omega|refine VG ?_ ?_<;>intro hg|refine VC ?_ ?_<;>intro hc)
   all_goals first
    | exact QL (k + 1) ⟨hlt, hS, λj h hj => by
       by_cases e:j=k;subst e;omega;exact hz j h (by omega)⟩ (by omega)
    | refine WR ?_
      rw [if_pos (Yag.2 ⟨l[k],Xc hlt,by simp only [decide_eq_true_eq];omega⟩)];exact .mk ⟨rfl,hS⟩
 refine QO ?_;refine WR ?_;rw [if_neg];exact .mk ⟨rfl,hS⟩;intro h;obtain ⟨s,h1,h2⟩:=Yag.1 h;obtain ⟨j,hj,rfl⟩:=Xr h1;exact hz j hj (by omega) (by simpa using h2)
end Go.Proofs.YtipfkbkkndacjaaGreatDoor
namespace Go.Eng
open Go Go.RowKit Go.Proofs
def Z1x (ds:List Deferred) (a:Act):Act:={ a with defers:=a.defers++ds }
def Zbe (ds:List Deferred) (Q:Exit->Act->World->Prop):Exit->Act->World->Prop:=λx a w=>Q x (Z1x ds a) w
theorem Z2e (ds:List Deferred) (a:Act) (d:Option Nat) (v:Value):Z1x ds (a.put d v)=(Z1x ds a).put d v:=by cases d<;>rfl
theorem Z6H (ds:List Deferred) (a:Act):(Z1x ds a).eval=a.eval:=by funext x;cases x<;>rfl
theorem Z4b {ds:List Deferred} {Q:Exit->Act->World->Prop} (h:LetsOut (Zbe ds Q)):LetsOut Q:=let ⟨a,w,h⟩:=h;⟨_,w,h⟩
theorem ZcX {P:Program} {ds:List Deferred} {Q:Exit->Act->World->Prop} {o:Oper} {a:Act} {w} {K K':Act->World->Prop} (hK:∀ a w,K' a w->K (Z1x ds a) w) (h:o.wp P a w K' (Zbe ds Q)):o.wp P (Z1x ds a) w K Q:=by
 unfold Oper.wp at *;rw [Z6H];generalize (execOp a.eval o).run P w=r at *;cases r with
 | ok x w'=>
   cases x<;>simp only [Oper.upon] at h ⊢
   case value v=>have:=hK _ _ h;rw [Z2e] at this;exact this
   case skip=>have:=hK _ _ h;rw [Z2e] at this;exact this
   case defer d=>have:=hK _ _ h;rw [Z2e] at this;exact this
   case enter f args=>
    refine Calls.mono h λe w'' he=>?_;cases e with
    | returned v=>have:=hK _ _ he;rw [Z2e] at this;exact this
    | panicked c=>exact he
    | outgrown=>exact Z4b he
   case row row args=>exact Rows.mono h λv w'' he=>by have:=hK _ _ he;rw [Z2e] at this;exact this
 | halt x w'=>cases x<;>simp only [Oper.upon] at h ⊢;exact h
theorem ZcY {P:Program} {ds:List Deferred} {o:Oper} {a:Act} {w} (h:o.asks P a w):o.asks P (Z1x ds a) w:=by
 unfold Oper.asks at *;rw [Z6H];exact h
theorem Z5r {P:Program} {ds:List Deferred} {Q:Exit->Act->World->Prop} {ops:Array Oper}:∀ (l:List Oper) (a:Act) (w),wpList P ops (Zbe ds Q) l a w->wpList P ops Q l (Z1x ds a) w
 | [],a,w,h=>h
 | o :: rest, a, w, h => by
   unfold wpList at *;split at h;rename_i hw;rw [if_pos (show Region.wanted o (yielded ops (Z1x ds a).tmps)=true from hw)];rcases h with h|⟨h1,h2⟩
   exact .inl (ZcX (λa w h=>Z5r rest a w h) h);exact .inr ⟨ZcY h1,Z4b h2⟩;rename_i hw;rw [if_neg (show ¬ Region.wanted o (yielded ops (Z1x ds a).tmps)=true from hw)];rw [<- Z2e];exact Z5r rest _ w h
theorem Zkv {P:Program} {ds:List Deferred} {Q:Exit->Act->World->Prop} {ops:Array Oper} {i:Nat} {a:Act} {w} {K K':Act->World->Prop} (hK:∀ a w,K' a w->K (Z1x ds a) w) (h:wpOp P ops (Zbe ds Q) i K' a w):wpOp P ops Q i K (Z1x ds a) w:=by
 unfold wpOp at *;cases ho:ops[i]? with
 | none=>simp only [ho] at h ⊢;exact hK _ _ h
 | some o=>
   simp only [ho] at h ⊢;split at h;rename_i hw;rw [if_pos (show Region.wanted o (yielded ops (Z1x ds a).tmps)=true from hw)];rcases h with h|⟨h1,h2⟩
   exact .inl (ZcX hK h);exact .inr ⟨ZcY h1,Z4b h2⟩;rename_i hw;rw [if_neg (show ¬ Region.wanted o (yielded ops (Z1x ds a).tmps)=true from hw)];rw [<- Z2e];exact hK _ _ h
theorem Za2 {P:Program} {ds:List Deferred} {Q:Exit->Act->World->Prop} {ops:Array Oper} {md:Region.Mode}:∀ (fuel:Nat) (listed:Array Bool) (a:Act) (w),wpAny P md ops (Zbe ds Q) fuel listed a w->wpAny P md ops Q fuel listed (Z1x ds a) w
 | 0,_,_,_,h=>h
 | fuel+1,_,_,_,h=>⟨h.1,λi hi=>Zkv (λa w h=>Za2 fuel _ a w h) (h.2 i hi)⟩
structure WQD (ds:List Deferred) (n:Nat) (Q:Exit->Act->World->Prop) (x:Exit) (e:Env) (w):Prop where
 h:∀ a,Has n e a->Q x (Z1x ds a) w
structure WCD (ds:List Deferred) (P:Program) (n:Nat) (c:Code) (Q:Exit->Act->World->Prop) (e:Env) (w):Prop where
 h:∀ a,Has n e a->c.wp P Q (Z1x ds a) w
section rules
variable {P:Program} {n:Nat} {ds:List Deferred} {Q:Exit->Act->World->Prop} {e:Env} {w}
theorem Z6I {x:Exit} (h:WQD ds n Q x e w):WQ n (Zbe ds Q) x e w:=⟨λa ha=>h.h a ha⟩
theorem Z4J {x y:Code} (h:WCD ds P n x (Exit.then (λa w=>y.wp P Q a w) Q) e w):WCD ds P n (x.seq y) Q e w:=⟨λa ha=>wp_seq (h.h a ha)⟩
theorem Z2f {y:Code} (h:WCD ds P n y Q e w):WQD ds n (Exit.then (λa w=>y.wp P Q a w) Q) .normal e w:=⟨λa ha=>h.h a ha⟩
theorem Z8H {N:Act->World->Prop} {ch:List PanicEntry} (h:WQD ds n Q (.panic ch) e w):WQD ds n (Exit.then N Q) (.panic ch) e w:=⟨λa ha=>h.h a ha⟩
theorem Zkw (h:WQD ds n Q .normal e w):WCD ds P n .skip Q e w:=⟨λa ha=>wp_skip (h.h a ha)⟩
theorem Zfz (h:WQD ds n Q .ret e w):WCD ds P n .ret Q e w:=⟨λa ha=>wp_ret (h.h a ha)⟩
theorem HasD.ev {a:Act} (ha:Has n e a) {x:Operand} {v:Value} (hx:ev e x=some v):(Z1x ds a).eval x=v:=by rw [Z6H];exact ha.ev hx
theorem Z8I {c:Operand} {x y:Code} (hc:ev e c=some (.B false)) (h:WCD ds P n y Q e w):WCD ds P n (.cond c x y) Q e w:=⟨λa ha=>wp_cond_false (HasD.ev ha hc) (h.h a ha)⟩
theorem Z5s {id:Nat} {l:List Oper} (h:WL P n l.toArray (Zbe ds Q) l e w):WCD ds P n (.region id l.toArray false) Q e w:=⟨λa ha=>wp_region_lit (Z5r _ _ _ (h.h a ha))⟩
theorem Za3 {id:Nat} {l:List Oper} (m:Nat) (S:List Nat) (Lt:List Nat) (ord:List (Nat×Nat)) (cI:l.length=m) (hm:P.follows .mixedOrders=true) (hs:Region.noSelect l.toArray=true) (hl:Nat.beq (wt ord) l.length=true)
 (hB:J6 l.toArray Lt ord (Array.replicate m false)=true)
 (h:∀ w',Stp [] w w'->WD P n l.toArray S Lt (Zbe ds Q) ord e w'):WCD ds P n (.region id l.toArray true) Q e w:=by
 subst cI;refine ⟨λa ha=>wp_region_any hm (Za2 _ _ _ _ ?_)⟩;have h1:=(h { w with drawn:=w.drawn+1 } (Stp.drew [] w)).h _ hs hB a ha;have h2:=Z12 (Q:=Zbe ds Q) (λa w hz=>hz) _ _ _ _ h1;rw [XS hl] at h2;simpa using h2
end rules
abbrev FR (l:Nat):Fence:=Fence.wide.inRound l
section
variable {P:Program} {n m l:Nat} {Q Q':Exit->Act->World->Prop} {e:Env} {w:World} {ops:Array Oper}
theorem ZfA {o:Oper} {a:Act} {K K':Act->World->Prop} (gA:∀ c,o.op≠.defer c) (hQ:∀ x a w,Q x a w->Q' x a w) (hK:∀ a w,K a w->K' a w) (h:o.wp P a w K Q):o.wpIn (FR l) m P a w K' Q':=by
 unfold Oper.wp at h;refine ⟨λ_ _=>trivial,?_⟩;rw [Oper.semAt_eq _ _ _ gA];generalize (execOp a.eval o).run P w=r at *;cases r with
 | ok x w'=>
   cases x<;>simp only [Oper.upon] at h<;>simp only [Oper.uponIn]
   case value v=>exact hK _ _ h
   case skip=>exact hK _ _ h
   case defer d=>exact hK _ _ h
   case enter f args=>
    refine ⟨(λh=>by cases h),CallsIn.inRound l (callsIn_wide.2 (Calls.mono h λen w'' he=>?_))⟩;cases en with
    | returned v=>exact hK _ _ he
    | panicked c=>exact hQ _ _ _ he
    | outgrown=>
      obtain ⟨a',w3,h3⟩:=he;exact ⟨a',w3,hQ _ _ _ h3⟩
   case row row args=>
    exact ⟨(λh=>by cases h),λc cs _=>let ⟨v,w'',r,s⟩:=h c cs;⟨v,w'',hK _ _ r,stepsIn_wide.2 s⟩⟩
 | halt x w'=>
   cases x<;>simp only [Oper.upon] at h<;>simp only [Oper.uponIn];exact hQ _ _ _ h
theorem Zbf (gA:∀ (i:Nat) (o:Oper),ops[i]?=some o->∀ c,o.op≠.defer c) (hQ:∀ a w,¬ Q .outgrown a w):∀ (L:List Nat) (a:Act) (w),wpOps P ops Q L a w->wpOpsIn (FR l) m P ops Q L a w
 | [],a,w,h=>h
 | i :: rest, a, w, h => by
   unfold wpOps at h;unfold wpOpsIn;cases ho:ops[i]? with
   | none=>simp only [ho] at h ⊢;exact Zbf gA hQ rest a w h
   | some o=>
     simp only [ho] at h ⊢;split at h;rename_i hw;rw [if_pos hw];rcases h with h|⟨_,a',w',h⟩
     exact ZfA (gA i o ho) (λ_ _ _ h=>h) (λa w h=>Zbf gA hQ rest a w h) h;exact absurd h (hQ a' w');rename_i hw;rw [if_neg hw];exact ⟨λ_ _=>trivial,Zbf gA hQ rest _ w h⟩
def Zkx (L:List Oper):Bool:=L.all λo=>match o.op with|.defer _=>false|_=>true
theorem Z8J {L:List Oper} (h:Zkx L=true):∀ (i:Nat) (o:Oper),L.toArray[i]?=some o->∀ c,o.op≠.defer c:=by
 intro i o ho c hc;have hm:o∈L:=by
  have:L[i]?=some o:=by simpa using ho
  exact List.mem_of_getElem? this
 have:=XW.1 h o hm;rw [hc] at this;cases this
theorem Zbg {md:Region.Mode} {S:List Nat} {Lt:Nat->Bool} {Z:Act->World->Prop} (gA:∀ (i:Nat) (o:Oper),ops[i]?=some o->∀ c,o.op≠.defer c) (hZ:∀ a w,Z a w->Q .normal a w):∀ (fuel:Nat) (listed:Array Bool) (a:Act) (w),
 ZaH P md ops S Lt Z fuel listed a w->wpAnyIn (FR l) m P md ops Q fuel listed a w
 | 0,_,_,_,h=>⟨h.1,hZ _ _ h.2⟩
 | fuel + 1, listed, a, w, h => ⟨λh0 => hZ _ _ (h.1 h0), λi hi => by
   have h1:=h.2 i hi;unfold wpOp at h1;unfold wpOpIn;cases ho:ops[i]? with
   | none=>simp only [ho] at h1 ⊢;exact Zbg gA hZ fuel _ a w h1.2
   | some o=>
     simp only [ho] at h1 ⊢;split at h1;rename_i hw;rw [if_pos hw];rcases h1 with h1|⟨_,_,_,hf⟩
     exact ZfA (gA i o ho) (λ_ _ _ h=>h.elim) (λa w h=>Zbg gA hZ fuel _ a w h.2) h1;exact hf.elim;rename_i hw;rw [if_neg hw];exact ⟨λ_ _=>trivial,Zbg gA hZ fuel _ _ w h1.2⟩⟩
structure WCR (l m:Nat) (P:Program) (n:Nat) (c:Code) (Q:Exit->Act->World->Prop) (e:Env) (w:World):Prop where
 h:∀ a,Has n e a->c.wpIn (FR l) m P Q a w
variable {x y:Code}
theorem JT (h:WCR l m P n x (Exit.then (λa w=>y.wpIn (FR l) m P Q a w) Q) e w):WCR l m P n (x.seq y) Q e w:=⟨λa ha=>wpIn_seq (h.h a ha)⟩
theorem Jt (h:WCR l m P n y Q e w):WQ n (Exit.then (λa w=>y.wpIn (FR l) m P Q a w) Q) .normal e w:=⟨λa ha=>h.h a ha⟩
theorem Ju (h:WQ n Q .normal e w):WCR l m P n .skip Q e w:=⟨λa ha=>wpIn_skip (h.h a ha)⟩
theorem Jv {i:Nat} (h:WQ n Q (.exit i) e w):WCR l m P n (.exit i) Q e w:=⟨λa ha=>wpIn_exit (h.h a ha)⟩
theorem Ja {i:Nat} {c:Code} (h:WCR l m P n c (Exit.inBlock i Q) e w):WCR l m P n (.block i c) Q e w:=⟨λa ha=>wpIn_block (h.h a ha)⟩
theorem Jm {c:Operand} (hc:ev e c=some (.B true)) (h:WCR l m P n x Q e w):WCR l m P n (.cond c x y) Q e w:=⟨λa ha=>wpIn_cond_true (ha.ev hc) (h.h a ha)⟩
theorem J5 {c:Operand} (hc:ev e c=some (.B false)) (h:WCR l m P n y Q e w):WCR l m P n (.cond c x y) Q e w:=⟨λa ha=>wpIn_cond_false (ha.ev hc) (h.h a ha)⟩
theorem Z4c {c:Operand} {p:Prop} [Decidable p] (hc:ev e c=some (.B (decide p))) (ht:p->WCR l m P n x Q e w) (hf:¬ p->WCR l m P n y Q e w):WCR l m P n (.cond c x y) Q e w:=by
 by_cases h:p;rw [decide_eq_true h] at hc;exact Jm hc (ht h);rw [decide_eq_false h] at hc;exact J5 hc (hf h)
theorem ZT {id:Nat} {L:List Oper} (hd:Zkx L=true) (hQ:∀ a w,¬ Q .outgrown a w) (h:WL P n L.toArray Q L e w):WCR l m P n (.region id L.toArray false) Q e w:=
 ⟨λa ha => wpIn_region (by
   have h1:=h.h a ha;rw [List.range_eq_range',<- Yak];exact Zbf (Z8J hd) hQ _ _ _ (by rw [wpOps_eq_wpList L.toArray.toList 0 (by simp)];simpa using h1))⟩
theorem Za4 {id:Nat} {L:List Oper} (k:Nat) (S:List Nat) (Lt:List Nat) (ord:List (Nat×Nat)) (cI:L.length=k) (hm:P.follows .mixedOrders=true) (hs:Region.noSelect L.toArray=true) (hl:Nat.beq (wt ord) L.length=true)
 (hB:J6 L.toArray Lt ord (Array.replicate k false)=true) (hd:Zkx L=true)
 (h:∀ w',Stp [] w w'->WD P n L.toArray S Lt Q ord e w'):WCR l m P n (.region id L.toArray true) Q e w:=by
 subst cI;refine ⟨λa ha=>wpIn_region_any hm ?_⟩;have h1:=(h { w with drawn:=w.drawn+1 } (Stp.drew [] w)).h _ hs hB a ha;have h2:=Zbg (l:=l) (m:=m) (Q:=Q) (Z8J hd) (λa w hz=>hz) _ _ _ _ h1;rw [XS hl] at h2;simpa using h2
theorem Zky {σ:Type} (env:σ->Env) (I:σ->World->Prop)
 (h:WCR l m P n x (Exit.then (λa w=>∃ s,Has n (env s) a/\I s w) Q) e w) (k:∀ s w,I s w->WCR l m P n y Q (env s) w):WCR l m P n x (Exit.then (λa w=>y.wpIn (FR l) m P Q a w) Q) e w:=
 ⟨λa ha => wpIn_mono (h.h a ha) (λex a w hq => by
   cases ex with
   | normal=>obtain ⟨s,h1,h2⟩:=hq;exact (k s w h2).h a h1
   | _=>exact hq)⟩
end
theorem Z2g (W:World) (b:Nat) (o:Obj):Stp [b] W (W.putObj b o):=⟨rfl,rfl,rfl,by simp,λk hk hn=>World.putObj_heap_other (by simpa using hn)⟩
def ZfB {α:Type} (P:Program) (f:Nat) (cap:Array Value) (encs:α->Value) (L:List α) (l:Nat) (F:List Nat) (W:World):Prop:=
 ∀ (J : List α -> List Nat -> World -> Prop), (∀ pre F W, J pre F W -> ∀ b ∈ F, b < W.heap.size) -> (∀ pre F W W', J pre F W -> Stp [] W W' -> J pre F W')->
   (∀ pre x F W,J pre F W->pre++[x] <+: L->YieldAt Fence.wide 4 P l #[encs x] W λen W'=>en=.returned (.B true)/\∃ F',J (pre++[x]) F' W'/\Stp F W W'/\∀ b∈F',b∈F\/W.heap.size<=b)->
   J [] F W->Calls P f (#[.func (.yield l) #[] #[]]++cap) W (Ret λ_ W'=>∃ F',J L F' W'/\Stp F W W'/\∀ b∈F',b∈F\/W.heap.size<=b)
section
variable {P:Program} {n:Nat} {Q:Exit->Act->World->Prop} {e:Env} {w:World}
theorem Zkz {α:Type} {f p:Nat} {fn:Func} {cap:Array Value} {g:Operand} {assign body:Code} [hf:Fun P f fn] {E:α->Nat->Env} {T:Nat} {cs:α->List Value} (encs:α->Value) (hg:ev e g=some (.func (.func f) #[] cap)) (hp:Nat.blt p n=true)
 (L:List α) (I:List α->List Nat->World->Prop) (F0:List Nat) (hlt:∀ pre F W,I pre F W->∀ b∈F,b<W.heap.size)
 (hI:∀ pre F W W' S,I pre F W->Stp S W W'->(∀ b∈S,w.heap.size<=b/\b∉F)->I pre F W') (h0:I [] F0 w)
 (pl:∀ (l:Nat) (W:World),Stp [] w W->w.heap.size<=l->l<W.heap.size->ZfB P f cap encs L l (l :: F0) W)
 (hassign:∀ (l:Nat) (x:α) (W:World) (Z:Exit->Act->World->Prop),(∀ a w,¬ Z .outgrown a w)->(∀ b W1,W.heap.size<=b->Blk W1 b T (cs x)->Stp [] W W1->WQ n Z .normal (E x b) W1)->WCR l 4 P n assign Z ((p,encs x) :: e) W)
 (hbody : ∀ (l : Nat) (pre : List α) (x : α) (b : Nat) (F : List Nat) (W : World) (Z : Exit -> Act -> World -> Prop), I pre F W -> pre ++ [x] <+: L -> Blk W b T (cs x) -> b ∉ F -> w.heap.size <= b -> (∀ a w, ¬ Z .outgrown a w)->
   (∀ a F' W',I (pre++[x]) F' W'->Stp F W W'->(∀ b∈F',b∈F\/W.heap.size<=b)->Z .normal a W')->WCR l 4 P n body Z (E x b) W)
 (hdone:∀ (D:Nat) (F:List Nat) (W:World),I L F W->w.heap.size<=D->D∉F->W.heap[D]?=some (.deferred (some []))->(∀ b∈F,b∈F0\/w.heap.size<=b)->Stp F0 w W->WQD [{ target:=.collected D,args:=#[] }] n Q .normal e W) :
 WC P n (.rangeFunc g #[p] assign body) Q e w:=by
 refine ⟨λa ha=>(wpIn_wide (n:=5)).1 (wpIn_rangeFunc ?_)⟩;intro fnid _;obtain ⟨rec,bo⟩:∃ rec:LoopState->Option Code->Loop,rec=λst pe=>{ state:=st,pending:=pe,fn:=fnid,tmps:=a.tmps,params:=#[p],assign,body,defers:=w.heap.size }:=⟨_,rfl⟩
 obtain ⟨W1,gh⟩:∃ W1,(w.alloc (.deferred (some []))).alloc (.loop (rec .ready none))=W1:=⟨_,rfl⟩
 have lz:W1.heap[w.heap.size+1]?=some (.loop (rec .ready none)):=by
  rw [<- gh];have:=World.alloc_heap_new (w.alloc (.deferred (some []))) (.loop (rec .ready none));rwa [World.size_alloc] at this
 have br:Stp [] w (w.alloc (.deferred (some []))):=Stp.alloc [] _ _;have nI:Stp [] (w.alloc (.deferred (some []))) W1:=by rw [<- gh];exact Stp.alloc [] _ _
 have rq:W1.heap[w.heap.size]?=some (.deferred (some [])):=by
  rw [nI.block w.heap.size (by simp) (by simp)];exact World.alloc_heap_new w _
 have ae:Stp [] w W1:=br.trans nI;have oS:=hlt _ _ _ h0
 refine ⟨w.heap.size+1,[{ target:=.collected w.heap.size,args:=#[] }],W1,{ target:=.fn (.func f) cap,args:=#[.func (.yield (w.heap.size+1)) #[] #[]] },W1,f,
  #[.func (.yield (w.heap.size+1)) #[] #[]]++cap,W1,?_,?_,?_,?_,λh=>(by cases h),?_⟩
 rw [<- gh,bo];exact run_enterLoop_outer _ _ _ _ _;simp only [resolve,ha.ev hg];simp [go_sem];intro f' tz;trivial;have eg:=hf.enters;simp [invoke,go_sem];exact eg _ _;generalize hl:w.heap.size+1=l at *
 have fR:=pl l W1 ae (by omega) (Xm.1 lz).1 (λpre F W=>∃ G,F=l :: G/\I pre G W/\W.heap[l]?=some (.loop (rec .ready none))/\W.heap[w.heap.size]?=some (.deferred (some []))/\l∉G/\w.heap.size∉G)
  (by
    rintro pre F W ⟨G,rfl,hi,h1,h2,h3,h4⟩ b hb;rcases Xb.1 hb with rfl|hb
    exact (Xm.1 h1).1;exact hlt _ _ _ hi b hb)
  (by
    rintro pre F W W' ⟨G,rfl,hi,h1,h2,h3,h4⟩ hS;exact ⟨G,rfl,hI _ _ _ _ _ hi hS (by simp),(hS.block l (Xm.1 h1).1 (by simp)).trans h1,(hS.block _ (Xm.1 h2).1 (by simp)).trans h2,h3,h4⟩)
  (by
    rintro pre x F W ⟨G,rfl,hi,h1,h2,h3,h4⟩ cw;have nJ:l<W.heap.size:=(Xm.1 h1).1;have rt:w.heap.size<W.heap.size:=(Xm.1 h2).1;have hG:=hlt _ _ _ hi;have hy:=run_yield (P:=P) (args:=#[encs x]) h1 (by rw [bo];rfl);rw [bo] at hy;refine ⟨fnid,_,assign,body,hy,roundIn_of_wpIn trivial ((hassign l x W _ (λ_ _ h=>h) ?_).h _ ?_)⟩;intro b Wa hb hk nK;have vG:=(nK.block l nJ (by simp)).trans h1;have vH:=(nK.block _ rt (by simp)).trans h2;have yj:=nK.size;refine ⟨λa1 ru=>⟨_,run_beginRound vG (by rw [bo]),?_⟩⟩;have fa:=Z2g Wa l (.loop { rec .ready none with state:=.busy });have vI:=hI _ _ _ _ _ hi nK (by simp);have mx:=hI _ _ _ _ _ vI fa (by intro b hb;simp at hb;subst hb;exact ⟨by omega,h3⟩);have vJ:(Wa.putObj l (.loop { rec .ready none with state:=.busy })).heap[l]?=some (.loop { rec .ready none with state:=.busy }):=World.putObj_heap_same (by omega);have vK:=(fa.block w.heap.size (by omega) (by simp;omega)).trans vH;have it:=hk.ext fa (by simp;omega);have yl:=fa.size;refine (hbody l pre x b G _ _ mx cw it (λh=>by have:=hG b h;omega) (by omega) (λ_ _ h=>h) ?_).h a1 ru;intro a2 G' W' cH aN jw;have vL:=(aN.block l (by omega) h3).trans vJ;have vM:=(aN.block w.heap.size (by omega) h4).trans vK;have ym:=aN.size;have vN:=run_endRound (P:=P) none vL;have fZ:=Z2g W' l (.loop (rec .ready none));have nL:l∉G':=λh=>by
     rcases jw l h with h|h
     exact h3 h;omega
    refine ⟨_,_,vN,rfl,l :: G',⟨G',rfl,?_,?_,?_,nL,λh=>?_⟩,?_,λb hb=>?_⟩;have:=hI _ _ _ _ _ cH fZ (by intro b hb;simp at hb;subst hb;exact ⟨by omega,nL⟩);rw [bo] at this ⊢;exact this;rw [bo];exact World.putObj_heap_same (by omega);rw [bo];exact (World.putObj_heap_other (by omega)).trans vM;rcases jw _ h with h|h
    exact h4 h;omega;rw [bo] at fZ aN ⊢;exact ((((nK.mono (S':=l :: G) (by simp)).trans ((by rw [bo] at fa;exact fa:Stp [l] _ _).mn)).trans (aN.mono (λb hb=>by simp [hb]))).trans fZ.mn);rcases Xb.1 hb with rfl|hb
    exact .inl (by simp);rcases jw b hb with h|h
    exact .inl (by simp [h]);exact .inr (by omega);have:=ha.put (v:=encs x) hp;have e2:(a.put (some p) (encs x))={ tmps:=((#[p]:Array Nat).zip #[encs x]).foldl (λt (p,v)=>t.setIfInBounds p v) a.tmps,defers:=[] }:=by
     simp [Act.put,ha.defers]
    rw [e2] at this;exact this)
  ⟨F0,rfl,hI _ _ _ _ _ h0 ae (by simp),lz,rq,λh=>by have:=oS l h;omega,λh=>by have:=oS _ h;omega⟩
 refine (callsIn_wide (n:=4)).2 (fR.mono ?_);rintro _ W2 ⟨v,rfl,F',⟨G,rfl,hi,h1,h2,h3,h4⟩,ah,vO⟩;have lp:=ah.size;have fW:=ae.size;have nJ:l<W2.heap.size:=(Xm.1 h1).1;refine ⟨none,_,by have:=run_endLoop (P:=P) h1 (by rw [bo];simp);rw [bo] at this;exact this,?_⟩;have hp:=Z2g W2 l (.loop { rec .ready none with state:=.exhausted });rw [bo] at hp;have hd:=hdone w.heap.size G _ (hI _ _ _ _ _ hi hp (by intro b hb;simp at hb;subst hb;exact ⟨by omega,h3⟩)) (Xn _) h4 ((hp.block w.heap.size (by omega) (by simp;omega)).trans h2) (λb hb=>by
  rcases vO b (by simp [hb]) with h|h
  rcases Xb.1 h with rfl|h
  exact .inr (by omega);exact .inl h;exact .inr (by omega))
  ((((ae.mono (S' := F0) (by simp)).own ah (λb hb => by
    rcases Xb.1 hb with rfl|hb
    exact .inr (by omega);exact .inl hb))).own hp (λb hb=>by simp at hb;subst hb;exact .inr (by omega)))
 have:=hd.h a ha;unfold Z1x at this;rw [ha.defers,XN] at this;rw [ha.defers,XG];exact this
end
section
variable {P:Program} {ops:Array Oper} {md:Region.Mode} {S:List Nat} {Lt:Nat->Bool} {kk:Nat}
theorem ZeC {o:Oper} {a:Act} {w} {K K':Act->World->Prop} {Q:Exit->Act->World->Prop} (hK:∀ a w,K a w->K' a w) (h:o.wpIn Fence.wide kk P a w K (λ_ _ _=>False)):o.wpIn Fence.wide kk P a w K' Q:=by
 unfold Oper.wpIn at *;refine ⟨h.1,?_⟩;replace h:=h.2;generalize (o.semAt Fence.wide.round a.eval).run P w=r at *;cases r with
 | ok x w'=>
   cases x<;>simp only [Oper.uponIn] at h ⊢
   case value v=>exact hK _ _ h
   case skip=>exact hK _ _ h
   case defer d=>exact hK _ _ h
   case enter f args=>
    exact ⟨h.1,CallsIn.mono h.2 λe w'' he=>by
     cases e with
     | returned v=>exact hK _ _ he
     | panicked c=>exact he.elim
     | outgrown=>obtain ⟨_,_,hf⟩:=he;exact hf.elim⟩
   case row row args=>exact ⟨h.1,RowsIn.mono h.2 λu w'' he=>hK _ _ he⟩
   case round l f tmps assign body=>
    exact ⟨h.1,RoundIn.mono h.2 λe w'' he=>by
     cases e with
     | returned v=>exact hK _ _ he
     | panicked c=>exact he.elim
     | outgrown=>obtain ⟨_,_,hf⟩:=he;exact hf.elim⟩
 | halt x w'=>cases x<;>simp only [Oper.uponIn] at h ⊢
def Z3q (kk:Nat) (P:Program) (md:Region.Mode) (ops:Array Oper) (S:List Nat) (Lt:Nat->Bool) (Z:Act->World->Prop):Nat->Array Bool->Act->World->Prop
 | 0,listed,a,w=>Region.ready md ops listed=[]/\Z a w
 | fuel + 1, listed, a, w=>
   (Region.ready md ops listed=[]->Z a w)/\
   ∀ i∈Region.ready md ops listed,wpOpIn Fence.wide kk P ops (λ_ _ _=>False) i (λa' w'=>(Stp S w w'\/Lt i=true)/\Z3q kk P md ops S Lt Z fuel (listed.setIfInBounds i true) a' w') a w
theorem Z1M {Z:Act->World->Prop} {Q:Exit->Act->World->Prop} (hZ:∀ a w,Z a w->Q .normal a w):∀ (fuel:Nat) (listed:Array Bool) (a:Act) (w),
 Z3q kk P md ops S Lt Z fuel listed a w->wpAnyIn Fence.wide kk P md ops Q fuel listed a w
 | 0,_,_,_,h=>⟨h.1,hZ _ _ h.2⟩
 | fuel + 1, listed, a, w, h => ⟨λh0 => hZ _ _ (h.1 h0), λi hi => by
   have h1:=h.2 i hi;unfold wpOpIn at h1 ⊢;cases ho:ops[i]? with
   | none=>simp only [ho] at h1 ⊢;exact Z1M hZ fuel _ a w h1.2
   | some o=>
     simp only [ho] at h1 ⊢;split at h1;rename_i hw;rw [if_pos hw];exact ZeC (λa w h=>Z1M hZ fuel _ a w h.2) h1;rename_i hw;rw [if_neg hw];exact ⟨λ_ _=>trivial,Z1M hZ fuel _ _ w h1.2.2⟩⟩
theorem ZfC {Z:Act->World->Prop} {R:World->World->Prop} (j4:∀ w,R w w) (mI:∀ a b c,R a b->R b c->R a c) {i:Nat} {oi:Oper} {v:Value} (hi:ops[i]?=some oi)
 (mJ:∀ j oj,ops[j]?=some oj->(∀ e∈oj.after,Region.binds md e=true->e.on≠i)->j≠i->∀ w w',(Stp S w w'\/Lt j=true)->R w w')
 (fi:∀ (j:Nat) (o:Oper) cs b,ops[j]?=some o->o.op≠.select cs b) :
 ∀ (fuel : Nat) (listed : Array Bool) (a : Act) (w),
   (∀ j oj,ops[j]?=some oj->j≠i->listed.getD j true=false->(∀ e∈oj.after,Region.binds md e=true->e.on≠i)->oi.apart ops oj=true)->
   (Stp S w w\/Lt i=true->True)->i∈Region.ready md ops listed->YE P ops R oi v a w->
   Z3q kk P md ops S Lt Z fuel (listed.setIfInBounds i true) (a.put oi.dst v) w->Z3q kk P md ops S Lt Z (fuel+1) listed a w:=by
 have now:∀ (fuel:Nat) (listed:Array Bool) (a:Act) (w:World),YE P ops R oi v a w->Z3q kk P md ops S Lt Z fuel (listed.setIfInBounds i true) (a.put oi.dst v) w->
  wpOpIn Fence.wide kk P ops (λ_ _ _=>False) i (λa' w'=>(Stp S w w'\/Lt i=true)/\Z3q kk P md ops S Lt Z fuel (listed.setIfInBounds i true) a' w') a w:=by
  intro fuel listed a w hy H;unfold wpOpIn;simp only [hi];rcases hy with ⟨hw,hv⟩|⟨hw,rfl⟩
  simp only [hw,if_true];refine ⟨λ_ _=>trivial,?_⟩;rw [show Fence.wide.round=none from rfl,Oper.semAt_none,hv w (j4 w)];exact ⟨.inl (Stp.refl _ _),H⟩;simp only [hw,XQ,if_false];exact ⟨λ_ _=>trivial,.inl (Stp.refl _ _),H⟩
 intro fuel
 induction fuel with
 | zero=>
   intro listed a w _ _ hr hy H;refine ⟨λh=>(by rw [h] at hr;cases hr),λj hj=>?_⟩;by_cases cn:j=i;subst cn;exact now _ _ _ _ hy H;have:=ready_mono hj cn;rw [H.1] at this;cases this
 | succ fuel ih=>
   intro listed a w dA hx hr hy H;refine ⟨λh=>(by rw [h] at hr;cases hr),λj hj=>?_⟩;by_cases cn:j=i;subst cn;exact now _ _ _ _ hy H;have h1:=H.2 j (ready_mono hj cn);obtain ⟨fj,oj,gw,aB⟩:=mem_ready.1 hj;have fk:∀ e∈oj.after,Region.binds md e=true->e.on≠i:=λe he hb df=>by
    have h1:=aB e he hb;have h0:=(mem_ready.1 hr).1;rw [df] at h1;rcases YaC i listed.size with h'|h'
    simp [h'] at h0 h1;rw [h0] at h1;cases h1;simp [Yai h'] at h1
   have hap:=dA j oj gw cn fj fk;obtain ⟨p1,p2,p3⟩:=Oper.apart_spec hap;have keep:∀ (a:Act),YE P ops R oi v a w->∀ u,YE P ops R oi v (a.put oj.dst u) w:=λa hy u=>
    hy.same (execOp_put oi (λcs b=>fi i oi cs b hi) a oj.dst u p3) (wanted_put oi a oj.dst u p3)
   have keepD:∀ (a:Act) d,YE P ops R oi v a w->YE P ops R oi v { a with defers:=d :: a.defers } w:=λa d hy=>hy.same rfl rfl;have later:∀ (a:Act) w',(Stp S w w'\/Lt j=true)->YE P ops R oi v a w->YE P ops R oi v a w':=λa w' hs hy=>by
    rcases hy with ⟨hw,hv⟩|hw
    exact .inl ⟨hw,λw'' h''=>hv w'' (mI _ _ _ (mJ j oj gw fk cn w w' hs) h'')⟩;exact .inr hw
   have dM:∀ k ok,ops[k]?=some ok->k≠i->(listed.setIfInBounds j true).getD k true=false->
    (∀ e∈ok.after,Region.binds md e=true->e.on≠i)->oi.apart ops ok=true:=λk ok hk gM j5 bg=>by
    refine dA k ok hk gM ?_ bg;by_cases iC:j=k;subst iC;exact fj;rw [getD_set_ne true iC] at j5;exact j5
   have fin:∀ a' w',YE P ops R oi v a' w->(Stp S w w'\/Lt j=true)/\Z3q kk P md ops S Lt Z fuel ((listed.setIfInBounds i true).setIfInBounds j true) (a'.put oi.dst v) w'->
    (Stp S w w'\/Lt j=true)/\Z3q kk P md ops S Lt Z (fuel+1) (listed.setIfInBounds j true) a' w':=by
    rintro a' w' iD ⟨hs,hk⟩;refine ⟨hs,ih _ a' w' dM (λ_=>trivial) (ready_mono hr (Ne.symm cn)) (later a' w' hs iD) ?_⟩;rw [Ya2 _ _ cn];exact hk
   have mK:∀ cs b,oj.op≠.select cs b:=λcs b=>fi j oj cs b gw;unfold wpOpIn at *;simp only [gw] at *;rw [wanted_put oj a oi.dst v p1] at h1;split
   . rename_i hw
     simp only [hw,if_true] at h1;refine ⟨λ_ _=>trivial,?_⟩;replace h1:=h1.2;rw [show Fence.wide.round=none from rfl,Oper.semAt_none] at h1 ⊢;rw [execOp_put oj mK a oi.dst v p1] at h1;generalize (execOp a.eval oj).run P w=r at *;cases r with
     | ok n w'=>
       cases n<;>simp only [Oper.uponIn] at h1 ⊢
       case value u=>exact fin _ _ (keep a hy u) (by rw [<- Act.put_comm a v u p2];exact h1)
       case skip=>exact fin _ _ (keep a hy _) (by rw [<- Act.put_comm a v undef p2];exact h1)
       case defer d=>
        refine fin _ _ (keep _ (keepD a d hy) _) ?_;rw [<- Act.put_comm _ v undef p2,<- Act.put_defers];exact h1
       case enter f args=>
        refine ⟨h1.1,CallsIn.mono h1.2 λe w'' he=>?_⟩;cases e with
        | returned u=>exact fin _ _ (keep a hy u) (by rw [<- Act.put_comm a v u p2];exact he)
        | panicked c=>exact he
        | outgrown=>exact he
       case row row args=>exact ⟨h1.1,RowsIn.mono h1.2 λu w'' he=>fin _ _ (keep a hy u) (by rw [<- Act.put_comm a v u p2];exact he)⟩
       case round l f tmps assign body=>
        refine ⟨h1.1,RoundIn.mono h1.2 λe w'' he=>?_⟩;cases e with
        | returned u=>exact fin _ _ (keep a hy u) (by rw [<- Act.put_comm a v u p2];exact he)
        | panicked c=>exact he
        | outgrown=>exact he
     | halt x w'=>
       cases x<;>simp only [Oper.uponIn] at h1
   rename_i hw;simp only [hw] at h1;exact ⟨λ_ _=>trivial,fin _ _ (keep a hy _) (by rw [<- Act.put_comm a v undef p2];exact h1.2)⟩
end
structure WDI (kk:Nat) (P:Program) (n:Nat) (ops:Array Oper) (S:List Nat) (Q:Exit->Act->World->Prop) (ord:List (Nat×Nat)) (e:Env) (w:World):Prop where
 h:∀ listed:Array Bool,Region.noSelect ops=true->J6 ops [] ord listed=true->∀ a,Has n e a->Z3q kk P .any ops S (λj=>([]:List Nat).contains j) (λa w=>Q .normal a w) (wt ord) listed a w
section
variable {P:Program} {n kk:Nat} {Q:Exit->Act->World->Prop} {e:Env} {w:World} {ops:Array Oper} {S:List Nat} {rest:List (Nat×Nat)}
variable {i d:Nat} {op:Op} {ty:TypeId} {pos:String} {af:Array Edge} {v:Value}
theorem ZgX {id:Nat} {L:List Oper} (kk:Nat) (m:Nat) (S:List Nat) (ord:List (Nat×Nat)) (cI:L.length=m) (hm:P.follows .mixedOrders=true) (hs:Region.noSelect L.toArray=true) (hl:Nat.beq (wt ord) L.length=true)
 (hB:J6 L.toArray [] ord (Array.replicate m false)=true)
 (h:∀ w',Stp [] w w'->WDI kk P n L.toArray S Q ord e w'):WC P n (.region id L.toArray true) Q e w:=by
 subst cI;refine ⟨λa ha=>(wpIn_wide (n:=kk)).1 (wpIn_region_any hm ?_)⟩;have h1:=(h { w with drawn:=w.drawn+1 } (Stp.drew [] w)).h _ hs hB a ha;have h2:=Z1M (Q:=Q) (λa w hz=>hz) _ _ _ _ h1;rw [XS hl] at h2;simpa using h2
theorem ZnC (h:WQ n Q .normal e w):WDI kk P n ops S Q [] e w:=
 ⟨λ_ _ hB a ha=>⟨by simpa [J6,ZW] using hB,h.h a ha⟩⟩
theorem Z0A (hi:ops[i]?=some ⟨some d,op,ty,pos,af,none⟩) (hp:∀ w',PR P n ⟨some d,op,ty,pos,af,none⟩ e w' v) (aw:Nat.blt d n=true)
 (k:WDI kk P n ops S Q rest ((d,v) :: e) w):WDI kk P n ops S Q ((i,0) :: rest) e w:=by
 refine ⟨λlisted hs hB a ha=>?_⟩;simp only [J6,ZW,Xl] at hB;obtain ⟨⟨h1,h2⟩,h3⟩:=hB;have hk:=k.h _ hs h3 _ (ha.put (v:=v) aw);rw [Z03 (by decide)];exact ZfC (R:=λ_ _=>True) (λ_=>trivial) (λ_ _ _ _ _=>trivial) hi (λ_ _ _ _ _ _ _ _=>trivial) (Region.noSelect_spec hs) _ _ _ _ (Region.free_spec hi h2) (λ_=>trivial) (by simpa using h1) (.inl ⟨Jw (e:=e) (n:=n) ha trivial,λw' _=>(hp w').h a ha⟩) hk
theorem ZcZ (hi:ops[i]?=some ⟨some d,op,ty,pos,af,none⟩) (hp:∀ w',Stp S w w'->PR P n ⟨some d,op,ty,pos,af,none⟩ e w' v) (aw:Nat.blt d n=true)
 (k:WDI kk P n ops S Q rest ((d,v) :: e) w):WDI kk P n ops S Q ((i,1) :: rest) e w:=by
 refine ⟨λlisted hs hB a ha=>?_⟩;simp only [J6,ZW,Xl] at hB;obtain ⟨⟨⟨h1,h2⟩,hb⟩,h3⟩:=hB;have hk:=k.h _ hs h3 _ (ha.put (v:=v) aw);rw [Z03 (by decide)];refine ZfC (R:=Stp S) (λw=>Stp.refl _ w) (λ_ _ _ h k=>h.trans k) hi (λj oj hj hn cn w w' hs=>?_) (Region.noSelect_spec hs) _ _ _ _ (Region.free_spec hi h2) (λ_=>trivial) (by simpa using h1) (.inl ⟨Jw (e:=e) (n:=n) ha trivial,λw' hw=>(hp w' hw).h a ha⟩) hk;rcases hs with hs|hs
 exact hs;cases hs
theorem ZgY {l:Nat} {x c:Operand} {ts:Array TypeId} {u r:Value} {G:World->Prop} (hi:ops[i]?=some ⟨some d,.call { callee:=.value c,args:=#[x],argTypes:=ts },ty,pos,af,none⟩) (hc:ev e c=some (.func (.yield l) #[] #[])) (hx:ev e x=some u)
 (hY:YieldAt Fence.wide (kk - 1) P l #[u] w (λen W'=>en=.returned r/\G W')) (hS:∀ W',G W'->Stp S w W') (aw:Nat.blt d n=true)
 (k:∀ W',G W'->WDI kk P n ops S Q rest ((d,r) :: e) W'):WDI kk P n ops S Q ((i,2) :: rest) e w:=by
 refine ⟨λlisted hs hB a ha=>?_⟩;simp only [J6,ZW] at hB;rw [if_neg (by simp)] at hB;simp only [Xl,beq_iff_eq] at hB;obtain ⟨h1,h3⟩:=hB;rw [Z03 (by decide)];refine ⟨λh0=>absurd (h1 ▸ h0) (by simp),λj hj=>?_⟩;rw [h1] at hj;obtain rfl:j=i:=by simpa using hj
 obtain ⟨fn,tmps,assign,body,hy,hR⟩:=hY;unfold wpOpIn;simp only [hi];rw [if_pos (show Region.wanted (⟨some d,.call { callee:=.value c,args:=#[x],argTypes:=ts },ty,pos,af,none⟩:Oper) _=true from rfl)];refine ⟨λ_ _=>trivial,?_⟩;have he:(execOp a.eval ⟨some d,.call { callee:=.value c,args:=#[x],argTypes:=ts },ty,pos,af,none⟩).run P w=.ok (.round l fn tmps assign body) w:=by
  simp only [execOp,resolve,ha.ev hc,Deferred.ofValue];simp [invoke,ha.ev hx,hy]
 rw [show Fence.wide.round=none from rfl,Oper.semAt_none,he];refine ⟨λh=>(by cases h),RoundIn.mono hR ?_⟩;rintro en W' ⟨rfl,hG⟩;exact ⟨.inl (hS W' hG),(k W' hG).h _ hs h3 _ (ha.put aw)⟩
end
variable {P:Program} {n:Nat} {e:Env} {w:World} {d:Option Nat} {ty:TypeId} {pos:String} {af:Array Edge} {g:Option (Nat×Bool)}
theorem Z7h {t el len k:Nat} {x hi:Operand} {b r:Nat} {z:Int} [hu:Und P t (.array len el)] [hk:Siz P el k] (hx:ev e x=some (pQ b)) (hz:ev e hi=some (.I z)) (di:z=(r:Int)) (hr:r<=len) :
 PR P n ⟨d,.slice t x none (some hi) none,ty,pos,af,g⟩ e w (.slice (some ⟨b,0,none⟩) r len):=
 ⟨λa ha => by
   subst di;simp [execOp,ha.ev hx,ha.ev hz,Instr.sliceAt,Instr.sureAddr,run_underlying hu.h,Instr.sliceBounds,Instr.sliceBound,asIntOf,Siz.run,Addr.add,show r<=len by omega]⟩
theorem ZfD {X:List Nat} {w} {b T len n:Nat} {cs:List Value} {xs:List Int} (hn:xs.length=n) (hb:Blk w b T cs) (hX:b∉X) (hl:cs.length=len) (hm:len<=maxLen) (hx:xs.length<=len) (hc:∀ i (h:i<xs.length),cs[i]?=some (.I xs[i])):SlV X w (.slice (some ⟨b,0,none⟩) n len) xs:=by
 subst hn;refine ⟨some ⟨b,0,none⟩,len,rfl,hx,hm,λh=>by simp at h,λi hi=>⟨b,0,[.I xs[i]],rfl,hb.lt,hX,rfl,λj u hu=>?_⟩⟩;have hj:j=0:=by
  have:=(Xz.1 hu).1;simp at this;exact this
 subst hj;simp at hu;subst hu;refine hb.cell ?_;simpa [Z6.k,Z3.k] using hc i hi
end Go.Eng
namespace Go.Proofs.YtipfkbkkndacjaaGreatDoor
open Go Go.Eng Go.RowKit
def Zbh (r:Rtn) (day:Int):Bool:=if r.kind=1 then decide (day<r.lo\/r.hi<day) else if r.kind=2 then decide (0<=day/\day<=r.hi) else decide (0<=day)
theorem ZgZ (r:Rtn) (day:Int) (w):CC 256 #[aG r,.I day] w λv w'=>v=.B (Zbh r day)/\Stp [] w w':=by
 unfold Zbh;refine cW2 31 Tryz.func256 ?_;refine W ?_;refine BX (Stp.refl [] w) λb2 w1 h2 e2 _ hS=>?_;replace e2:Blk w1 b2 80 (Z3.enc r):=e2;simp only [Z3.enc] at e2;by_cases h1:r.kind=1
 . rw [if_pos h1]
   (refine QP ?_ ?_<;>intro hg)
   all_goals
    refine RU ?_;exact ⟨by congr 1;first|(rw [decide_eq_true (by omega)];done)|(symm;rw [decide_eq_decide];constructor<;>intro _<;>omega)|(symm;exact decide_eq_true (by omega))|(symm;exact decide_eq_false (by omega)),hS⟩
 rw [if_neg h1];by_cases h2:r.kind=2
 . rw [if_pos h2]
   (refine QP ?_ ?_<;>intro hg)
   all_goals
    refine RU ?_;exact ⟨by congr 1;first|(symm;rw [decide_eq_decide];constructor<;>intro _<;>omega)|(symm;exact decide_eq_true (by omega))|(symm;exact decide_eq_false (by omega)),hS⟩
 rw [if_neg h2];refine RT ?_;exact ⟨rfl,hS⟩
theorem ZkA (v:Value) (l:List Int) (x:Int) (w) (hs:SlV [] w v l):CC 257 #[v,.I x] w λr w'=>(∃ z:Int,r=.I z/\((z=-1/\x∉l)\/∃ (k:Nat) (h:k<l.length),z=k/\l[k]=x/\∀ j (h:j<l.length),j<k->l[j]≠x))/\Stp [] w w':=by
 have aU:=hs.max;refine cW2 19 Tryz.func257 ?_;refine W ?_;refine LP (σ:=Nat) (λk=>[(0,v),(1,.I x),(6,v),(7,.I l.length),(8,.I k)]) (λk w'=>k<=l.length/\Stp [] w w'/\∀ j (h:j<l.length),j<k->l[j]≠x) (λk=>l.length - k) 0 ⟨by omega,Stp.refl _ _,by omega⟩ ?_;rintro k w2 ⟨hk,hT,hz⟩;have bq:=hs.up hT;by_cases hlt:k<l.length
 (refine QP ?_ ?_<;>intro hc)
 refine RU ?_;exact ⟨⟨_,rfl,.inr ⟨k,hlt,rfl,hc.symm,hz⟩⟩,hT⟩;exact QL (k+1) ⟨hlt,hT,λj h hj=>by
  by_cases e:j=k;subst e;exact λh=>hc h.symm;exact hz j h (by omega)⟩ (by omega)
 refine RT ?_;exact ⟨⟨_,rfl,.inl ⟨rfl,λh=>by
  obtain ⟨j,hj,e⟩:=Xr h;exact hz j hj (by omega) e⟩⟩,hT⟩
def Z6J (c:Int):List (Int×Int)->List (Int×Int)
 | []=>[(c,1)]
 | p :: l=>if p.1=c then (c,p.2+1) :: l else p :: Z6J c l
def Zd0 (day:Int) (st:List (Int×Int)) (r:Rtn):List (Int×Int):=if Zbh r day=true then Z6J r.crr st else st
def Z3r (l:List Rtn) (day:Int):List (Int×Int):=l.foldl (Zd0 day) []
def Z9q (crrs:List Crr) (p:Int×Int):Int:=max 0 (p.2 - (crrs.getD p.1.toNat ⟨0,0⟩).tol)
def Z1F (l:List Rtn) (crrs:List Crr) (day:Int):Int:=((Z3r l day).map (Z9q crrs)).sum
theorem Zd1 (c:Int):∀ (st:List (Int×Int)),c∉st.map (·.1)->Z6J c st=st++[(c,1)]
 | [],_=>rfl
 | p :: l, h => by
   simp only [Xt,Xb,not_or] at h;rw [Z6J,if_neg (λe=>h.1 e.symm),Zd1 c l h.2];rfl
theorem Zd2 (c:Int):∀ (st:List (Int×Int)) (k:Nat) (hk:k<st.length),st[k].1=c->(∀ j (h:j<st.length),j<k->st[j].1≠c)->Z6J c st=st.set k (c,st[k].2+1)
 | p :: l, 0, hk, h, _ => by
   simp only [Ybc] at h;rw [Z6J,if_pos h];rfl
 | p :: l, k + 1, hk, h, hz => by
   have h0:=hz 0 (by simp) (by omega);simp only [Ybc] at h0;rw [Z6J,if_neg h0,Zd2 c l k (by simpa using hk) (by simpa using h) (λj hj iC=>by
    have h2:=hz (j+1) (by simpa using hj) (by omega)
    rwa [List.getElem_cons_succ] at h2)]
   simp
theorem ZkB (c:Int) (st:List (Int×Int)):(Z6J c st).length<=st.length+1:=by
 induction st with
 | nil=>simp [Z6J]
 | cons p l ih=>
   rw [Z6J];split<;>simp<;>omega
theorem Z6K (l:List Rtn) (day:Int) (k:Nat) (h:k<l.length):Z3r (l.take (k+1)) day=Zd0 day (Z3r (l.take k) day) l[k]:=by
 unfold Z3r;rw [Xi h,Yax];rfl
theorem Zd3 (l:List Rtn) (day:Int) (k:Nat) (h:k<=l.length):(Z3r (l.take k) day).length<=k:=by
 induction k with
 | zero=>simp [Z3r]
 | succ k ih=>
   rw [Z6K l day k (by omega),Zd0];have:=ih (by omega);split;have:=ZkB l[k].crr (Z3r (l.take k) day);omega;omega
def arX (f:Int×Int->Int) (st:List (Int×Int)):List Value:=st.map (λp=>.I (f p))++List.replicate (32 - st.length) (.I 0)
theorem Z5Y (f:Int×Int->Int) {st:List (Int×Int)} (h:st.length<=32):(arX f st).length=32:=by simp [arX];omega
theorem Z5Z (f:Int×Int->Int) {st:List (Int×Int)} {k:Nat} (h:k<st.length):(arX f st)[k]?=some (.I (f st[k])):=by
 rw [arX,Yaa (by simpa using h)];simp [h]
theorem ZnD (f:Int×Int->Int) {st:List (Int×Int)} (h:st.length<32):(arX f st)[st.length]?=some (.I 0):=by
 rw [arX,YaH (by simp)];simp [Ya9];omega
theorem ZfE (f:Int×Int->Int) {st:List (Int×Int)} (p:Int×Int) (h:st.length<32):(arX f st).set st.length (.I (f p))=arX f (st++[p]):=by
 unfold arX;rw [List.set_append_right _ _ (by simp)];obtain ⟨m,hm⟩:∃ m,32 - st.length=m+1:=⟨31 - st.length,by omega⟩
 rw [hm];simp only [Xu,Nat.sub_self,YaB,List.set_cons_zero,XR,Xt,XM,XA,XC,XN,Xd,List.length_singleton];rw [show 32 - (st.length+1)=m by omega]
theorem ZfF (f:Int×Int->Int) {st:List (Int×Int)} {k:Nat} (p:Int×Int) (h:k<st.length):(arX f st).set k (.I (f p))=arX f (st.set k p):=by
 unfold arX;rw [List.set_append_left _ _ (by simpa using h),X4,List.map_set]
theorem ZfG {c:Int} {m:Int} {p:Int×Int}:∀ {st:List (Int×Int)},(∀ q∈st,0<=q.2/\q.2<=m)->0<=m->p∈Z6J c st->(p.1=c\/p.1∈st.map (·.1))/\0<=p.2/\p.2<=m+1
 | [], _, hm, h => by
   simp only [Z6J,Xk] at h;subst h;exact ⟨.inl rfl,by dsimp only;omega,by dsimp only;omega⟩
 | q :: l, hq, hm, h => by
   have h0:=hq q (by simp);rw [Z6J] at h;split at h;rcases Xb.1 h with rfl|h
   exact ⟨.inl rfl,by dsimp only;omega,by dsimp only;omega⟩;have:=hq p (by simp [h]);exact ⟨.inr (XH.2 ⟨p,by simp [h],rfl⟩),by omega,by omega⟩;rcases Xb.1 h with rfl|h
   exact ⟨.inr (by simp),by omega,by omega⟩;obtain ⟨a,b⟩:=ZfG (λx hx=>hq x (by simp [hx])) hm h;exact ⟨a.imp id (λh=>by simp [h]),b⟩
theorem Zbi {l:List Rtn} {day:Int} {N:Int} (hr:∀ r∈l,0<=r.crr/\r.crr<N):∀ k,k<=l.length->∀ p∈Z3r (l.take k) day,(0<=p.1/\p.1<N)/\0<=p.2/\p.2<=k
 | 0,_,p,hp=>by simp [Z3r] at hp
 | k + 1, hk, p, hp => by
   have ih:=Zbi (day:=day) hr k (by omega);rw [Z6K l day k (by omega),Zd0] at hp;split at hp;obtain ⟨a,b,c⟩:=ZfG (m:=k) (λq hq=>(ih q hq).2) (by omega) hp;refine ⟨?_,b,by omega⟩;rcases a with a|a
   rw [a];exact hr _ (Xc _);obtain ⟨q,hq,e⟩:=XH.1 a;rw [<- e];exact (ih q hq).1;have:=ih p hp;exact ⟨this.1,this.2.1,by omega⟩
theorem Z8K (lv cv:Value) (l:List Rtn) (crrs:List Crr) (day:Int) (w) (hl:SlV [] w lv l) (hc:SlV [] w cv crrs) (kW:l.length<=32) (hr:∀ r∈l,0<=r.crr/\r.crr<crrs.length) (ht:∀ c∈crrs,0<=c.tol/\c.tol<=1000) :
 CC 201 #[lv,cv,.I day] w λv w'=>v=.I (Z1F l crrs day)/\Stp [] w w':=by
 refine cW3 68 Tryz.func201 ?_;refine W ?_;refine Z0 Z2 rfl ?_;rintro _ w1 ⟨b7,rfl,fu,e7,hS⟩;refine W ?_;refine Z0 Z2 rfl ?_;rintro _ w2 ⟨b8,rfl,fL,e8,hT⟩;have l7:=e7.lt;replace e7:=e7.up hT;have n78:b7≠b8:=by omega
 have g8:w.heap.size<=b8:=Xh hS.size fL;replace hS:=hS.trans hT;replace e7:Blk w2 b7 329 (arX (·.2) (Z3r (l.take 0) day)):=e7;replace e8:Blk w2 b8 329 (arX (·.1) (Z3r (l.take 0) day)):=e8;clear hT;refine W ?_;refine Z0h (σ:=Unit) (λ_=>[(1,cv),(7,pQ b7),(8,pQ b8),(9,.I (Z3r l day).length)]) (λ_ w'=>Stp [] w w'/\Blk w' b7 329 (arX (·.2) (Z3r l day))/\Blk w' b8 329 (arX (·.1) (Z3r l day))) ?_ ?_;refine LP (σ:=Nat) (λk=>[(1,cv),(2,.I day),(7,pQ b7),(8,pQ b8),(9,.I (Z3r (l.take k) day).length),(16,lv),(17,.I l.length),(18,.I k)]) (λk w'=>k<=l.length/\Stp [] w w'/\Blk w' b7 329 (arX (·.2) (Z3r (l.take k) day))/\Blk w' b8 329 (arX (·.1) (Z3r (l.take k) day))) (λk=>l.length - k) 0 ⟨by omega,hS,e7,e8⟩ ?_;clear e7 e8 hS;rintro k w3 ⟨hk,hS,e7,e8⟩;by_cases hlt:k<l.length;have eZ:=hl.up hS;have hstep:=Z6K l day k hlt;have fV:=Zd3 l day k hk;have aP:=Zbi (day:=day) hr k hk;generalize Z3r (l.take k) day=st at *;refine QO ?_;refine Z0 Z2 rfl ?_;rintro _ w4 ⟨b11,rfl,rp,e11,hT⟩;refine SA (us:=Z3.enc l[k]) e11 ?_;rintro _ w5 ⟨ar,e11⟩;replace hT:=hT.ow ar;replace hS:=hS.trans hT;replace e7:=e7.up hT;replace e8:=e8.up hT;clear hT ar eZ;refine W ?_;refine CP hS (ZgZ l[k] day _) λw6 hT hS=>?_;replace e7:=e7.up hT;replace e8:=e8.up hT;replace e11:=e11.up hT;clear hT;rw [Zd0] at hstep;cases hw:Zbh l[k] day;rw [hw,if_neg (by simp)] at hstep;refine QO ?_;exact Zs (k+1) ⟨rfl,rfl,rfl,rfl,by rw [hstep];rfl,rfl,rfl,rfl,trivial⟩ ⟨hlt,hS,by rw [hstep];exact e7,by rw [hstep];exact e8⟩ (by omega);rw [hw,if_pos rfl] at hstep;refine QO ?_;refine ZDr 6 [] [] [(0,0),(1,0),(2,0),(3,1),(4,2),(5,0)] (λw1 ae=>?_);replace e7:=e7.up ae;replace e8:=e8.up ae;replace e11:=e11.up ae;replace hS:=hS.trans ae;clear ae;refine D ?_;refine JL rfl trivial (λ_=>Z7h (r:=st.length) rfl rfl rfl (by omega)) rfl ?_;refine D ?_;have fc:SlV [] w1 (.slice (some ⟨b8,0,none⟩) st.length 32) (st.map (·.1)):=ZfD (by simp) e8 (by simp) (Z5Y _ (by omega)) (by decide) (by simp;omega) (λi h=>by
  have:=Z5Z (·.1) (st:=st) (k:=i) (by simpa using h);simpa using this)
 refine DC (ZkA _ _ l[k].crr _ fc) (λ_ _ h=>h.2) ?_;rintro _ w7 ⟨⟨z,rfl,hz⟩,hT⟩;replace e7:=e7.up hT;replace e8:=e8.up hT;replace e11:=e11.up hT;replace hS:=hS.trans hT;clear hT fc;have own:∀ b,b=b7\/b=b8->∀ c∈[b],c∈([]:List Nat)\/w.heap.size<=c:=λb hb c hc=>.inr (by simp at hc;omega)
 rcases hz with ⟨rfl,hn⟩|⟨j,hj,rfl,du,vP⟩
 rw [Zd1 _ _ hn] at hstep;have h0:=ZnD (·.2) (st:=st) (by omega);refine D ?_;refine QO ?_;refine Z5 (Zb (o:=0+st.length * 1) (u:=.I l[k].crr) rfl rfl rfl rfl e8 (by rw [Z5Y _ (by omega)];omega)) ?_;rintro _ w8 ⟨hT,e8⟩;replace e7:=e7.ext hT (by simpa using n78);replace hS:=hS.own hT (own _ (.inr rfl));rw [XP,YaQ,ZfE (·.1) (l[k].crr,1) (by omega)] at e8;refine QO ?_;refine Z8 (Jq rfl rfl e7 (by rw [XP,YaQ];exact h0)) rfl ?_;refine QO ?_;refine Z5 (Zb (o:=0+st.length * 1) (u:=.I (0+1)) rfl rfl rfl rfl e7 (by rw [Z5Y _ (by omega)];omega)) ?_;rintro _ w9 ⟨hT,e7⟩;replace e8:=e8.ext hT (by simpa using n78.symm);replace hS:=hS.own hT (own _ (.inl rfl));rw [XP,YaQ] at e7;replace e7:Blk w9 b7 329 (arX (·.2) (st++[(l[k].crr,1)])):=by rw [<- ZfE (·.2) (l[k].crr,1) (by omega)];exact e7
 refine QO ?_;exact Zs (k+1) ⟨rfl,rfl,rfl,rfl,by rw [hstep,Xd];rfl,rfl,rfl,rfl,trivial⟩ ⟨hlt,hS,by rw [hstep];exact e7,by rw [hstep];exact e8⟩ (by omega);rw [Xu] at hj;have nM:st[j].1=l[k].crr:=by simpa using du
 rw [Zd2 _ _ j hj nM (λi h hi=>by have:=vP i (by simpa using h) hi;simpa using this)] at hstep;have h0:=Z5Z (·.2) (st:=st) hj;have yn:=(aP _ (Xc hj)).2;refine D ?_;refine QO ?_;refine Z8 (Jq rfl rfl e7 (by rw [XP,YaQ];exact h0)) rfl ?_;refine QO ?_;refine Z5 (Zb (o:=0+j * 1) (u:=.I (st[j].2+1)) rfl rfl rfl rfl e7 (by rw [Z5Y _ (by omega)];omega)) ?_;rintro _ w9 ⟨hT,e7⟩;replace e8:=e8.ext hT (by simpa using n78.symm);replace hS:=hS.own hT (own _ (.inl rfl));rw [XP,YaQ] at e7;replace e7:Blk w9 b7 329 (arX (·.2) (st.set j (l[k].crr,st[j].2+1))):=by rw [<- ZfF (·.2) (l[k].crr,st[j].2+1) hj];exact e7
 have e8':Blk w9 b8 329 (arX (·.1) (st.set j (l[k].crr,st[j].2+1))):=by
  rw [<- ZfF (·.1) (l[k].crr,st[j].2+1) hj];have h1:=Z5Z (·.1) (st:=st) hj;rw [nM] at h1;obtain ⟨hh,h2⟩:=Xz.1 h1;have:(arX (·.1) st).set j (.I l[k].crr)=arX (·.1) st:=by rw [<- h2];exact List.set_getElem_self hh
  rw [this];exact e8
 refine QO ?_;exact Zs (k+1) ⟨rfl,rfl,rfl,rfl,by rw [hstep,X4];rfl,rfl,rfl,rfl,trivial⟩ ⟨hlt,hS,by rw [hstep];exact e7,by rw [hstep];exact e8'⟩ (by omega);obtain rfl:k=l.length:=by omega
 rw [Xo] at e7 e8;have eZ:=hl.up hS;refine QO ?_;exact ZA () ⟨rfl,rfl,rfl,by simp only [Xo];rfl,trivial⟩ ⟨hS,e7,e8⟩;clear e7 e8 hS;rintro _ w3 ⟨hS,e7,e8⟩;have fV:=Zd3 l day l.length (Xn _);have aP:=Zbi (day:=day) hr l.length (Xn _);rw [Xo] at fV aP;unfold Z1F;generalize Z3r l day=st at *;have fc:SlV [] w3 (.slice (some ⟨b8,0,none⟩) st.length 32) (st.map (·.1)):=ZfD (by simp) e8 (by simp) (Z5Y _ (by omega)) (by decide) (by simp;omega) (λi h=>by
  have:=Z5Z (·.1) (st:=st) (k:=i) (by simpa using h);simpa using this)
 refine QO ?_;refine Z8 (Z7h (r:=st.length) rfl rfl rfl (by omega)) rfl ?_;refine QO ?_;refine Zt (σ:=Nat) (λk=>[(1,cv),(7,pQ b7),(13,.I ((st.take k).map (Z9q crrs)).sum),(47,.slice (some ⟨b8,0,none⟩) st.length 32),(48,.I st.length),(49,.I k)]) (λk w'=>k<=st.length/\Stp [] w3 w'/\0<=((st.take k).map (Z9q crrs)).sum/\((st.take k).map (Z9q crrs)).sum<=40 * k) (λk=>st.length - k) 0 ⟨rfl,rfl,rfl,rfl,by simp only [Xu];rfl,rfl,trivial⟩ ⟨by omega,Stp.refl _ _,by simp,by simp⟩ ?_;rintro k w4 ⟨hk,hT,g1,g2⟩;have e7':=e7.up hT;have vQ:=fc.up hT;have fy:=hc.up (hS.trans hT);by_cases hlt:k<st.length;obtain ⟨⟨a1,a2⟩,a3,a4⟩:=aP _ (Xc hlt);have lA:((st.take (k+1)).map (Z9q crrs)).sum=((st.take k).map (Z9q crrs)).sum+Z9q crrs st[k]:=by
  rw [Xi hlt,XR,List.sum_append];simp
 obtain ⟨j,hj⟩:∃ j:Nat,st[k].1=j:=⟨st[k].1.toNat,by omega⟩
 have fF:j<crrs.length:=by omega
 have yo:=ht _ (Xc fF);have cI:k<(st.map (·.1)).length:=by simpa using hlt
 have az:(st.map (·.1))[k]=(j:Int):=by simpa using hj
 have h0:=Z5Z (·.2) (st:=st) hlt;have lB:Z9q crrs st[k]=max 0 (st[k].2 - crrs[j].tol):=by
  unfold Z9q;rw [hj];simp [fF]
 generalize ((st.take k).map (Z9q crrs)).sum=s at *;refine QO ?_;refine ZDr 13 [] [] [(0,0),(1,0),(2,0),(3,1),(4,0),(5,0),(6,0),(7,0),(8,1),(9,0),(10,0),(11,0),(12,0)] (λw1 ae=>?_);replace e7':=e7'.up ae;replace fy:=fy.up ae;replace hT:=hT.trans ae;clear ae;refine D ?_;refine Z0w rfl trivial rfl rfl e7' (by simp) (by rw [XP,YaQ];exact h0) rfl ?_;refine D ?_;refine QO ?_;exact Zs (k+1) ⟨rfl,rfl,by rw [lA,lB];rfl,rfl,rfl,rfl,trivial⟩ ⟨hlt,hT,by rw [lA,lB];omega,by rw [lA,lB];omega⟩ (by omega);obtain rfl:k=st.length:=by omega
 refine QO ?_;refine WR ?_;rw [Xo];exact .mk ⟨rfl,hS.trans hT⟩
def Z4S (l:List Rtn) (sent:Int):List Int:=Z3A ([sent,3652059]++l.flatMap (λr=>[r.lo,r.hi+1].filter (λd=>decide (sent<d/\d<=3652058))))
def Z9r (l:List Rtn) (sent:Int):List Spn:=((Z4S l sent).zip (Z4S l sent).tail).map (λp=>(p.1,p.2 - 1))
structure AlS where
 least:Int
 never:Bool
 out:List Spn
def Z0J (l:List Rtn) (crrs:List Crr) (s:AlS) (x:Spn):AlS:=
 let e:=Z1F l crrs x.1
 if s.least<e then s else
  let t:AlS:=if e<s.least then ⟨e,false,[]⟩ else s
  match t.out.getLast? with
  | some y=>if y.2=x.1 - 1 then { t with out:=t.out.dropLast++[(y.1,x.2)] } else { t with out:=t.out++[x] }
  | none=>{ t with out:=t.out++[x] }
def Zh0 (l:List Rtn) (crrs:List Crr) (sent:Int):AlS:=(Z9r l sent).foldl (Z0J l crrs) ⟨Z1F l crrs (-1),true,[]⟩
def Zbj (l:List Rtn) (crrs:List Crr) (sent:Int):Int×Bool:=
 let s:=Zh0 l crrs sent
 if s.never=true then (0,false) else match s.out.getLast? with|some y=>(y.2,true)|none=>(0,false)
structure ZnE (l:List Rtn) (crrs:List Crr):Prop where
 len:l.length<=32
 crr:∀ r∈l,0<=r.crr/\r.crr<crrs.length
 tol:∀ c∈crrs,0<=c.tol/\c.tol<=1000
 day:∀ r∈l,0<=r.lo/\r.lo<=3652058/\0<=r.hi/\r.hi<=3652058
theorem Zd4 {l:List Rtn} {sent x:Int} (hs:0<=sent/\sent<=3652058) (h:x∈Z4S l sent):sent<=x/\x<=3652059:=by
 have:=((Z3m _).2 x).1 h;simp only [Xg,Xb,Xj,or_false,YaZ,Ybo,decide_eq_true_eq] at this;rcases this with (rfl|rfl)|⟨r,hr,h1,h2⟩<;>omega
theorem Z8L {l:List Rtn} {sent:Int} {s:Spn} (hs:0<=sent/\sent<=3652058) (h:s∈Z9r l sent):sent<=s.1/\s.1<=3652059/\-1<=s.2/\s.2<=3652058:=by
 unfold Z9r at h;obtain ⟨p,hp,rfl⟩:=XH.1 h;have h1:=Zd4 hs (List.of_mem_zip hp).1;have h2:=Zd4 hs (List.mem_of_mem_tail (List.of_mem_zip hp).2);dsimp only;omega
def inX (sent d:Int):Bool:=decide (sent<d/\d<=3652058)
def Z6L (l:List Rtn) (sent:Int):List Int:=[sent,3652059]++l.flatMap (λr=>[r.lo,r.hi+1].filter (inX sent))
theorem Z8M (l:List Rtn) (sent:Int):(Z6L l sent).length<=2+2 * l.length:=by
 unfold Z6L;rw [Xd]
 induction l with
 | nil=>simp
 | cons r l ih=>
   have h:=X0 (inX sent) [r.lo,r.hi+1];simp only [YaX,Xd,Xe,Xf] at *;omega
theorem Z4K {P:Program} {n:Nat} {e:Env} {w} {d:Option Nat} {ty:TypeId} {pos:String} {af:Array Edge} {g:Option (Nat×Bool)} {x y:Operand} {t:TypeId} {u i v:Value} (hx:ev e x=some u) (hy:ev e y=some i) (hb:∀ w,(Instr.index t u i).run P w=.ok v w):PR P n ⟨d,.index t x y,ty,pos,af,g⟩ e w v:=
 ⟨λa ha=>by simp [execOp,ha.ev hx,ha.ev hy,hb]⟩
theorem ZkC (a b:Int) (w):(Instr.index 333 (.agg #[.I a,.I b]) (.I ((0:Nat):Int))).run Tryz.prog w=.ok (.I a) w:=by kernel_rfl
theorem ZkD (a b:Int) (w):(Instr.index 333 (.agg #[.I a,.I b]) (.I ((1:Nat):Int))).run Tryz.prog w=.ok (.I b) w:=by kernel_rfl
theorem Zh1 (l:List Rtn) (sent:Int) (k:Nat) (h:k<l.length):Z6L (l.take (k+1)) sent=Z6L (l.take k) sent++[l[k].lo,l[k].hi+1].filter (inX sent):=by
 unfold Z6L;rw [Xi h,Yam];simp
theorem ZkE (a b:Int) (w):(Instr.build 75 #[(0,.I a),(1,.I b)]).run Tryz.prog w=.ok (.agg (Z3.enc ((a,b):Spn)).toArray) w:=by kernel_rfl
theorem ZnF (a b:Int) (w):(Instr.buildSlice 23 2 #[(0,.I a),(1,.I b)]).run Tryz.prog w=.ok (.slice (some ⟨w.heap.size,0,none⟩) 2 2) (w.alloc (.cells #[.I a,.I b] 3)):=by kernel_rfl
theorem ZkF (a b:Int) (w):(Instr.build 333 #[(0,.I a),(1,.I b)]).run Tryz.prog w=.ok (.agg #[.I a,.I b]) w:=by kernel_rfl
theorem Zbk (l:Nat) (F:List Nat) (w) (bS bL:Nat) (lv:Value) (rets:List Rtn) (sent:Int) (crrs:List Crr) (ho:ZnE rets crrs) (fc:0<=sent/\sent<=3652058)
 (eS:Blk w bS 3 [.I sent]) (eL:Blk w bL 76 [lv]) (hl:SlV F w lv rets) (hF:∀ b∈F,b<w.heap.size) (hS:bS∉F) (hL:bL∉F) :
 ZfB Tryz.prog 258 #[pQ bS,pQ bL] (λx:Spn=>aG x) (Z9r rets sent) l F w:=by
 intro J hlt tG hY h0;have jk:=ho.len;have lf:=hl.max;refine cW3 65 Tryz.func258 ?_;refine W ?_;refine Z0 (Z1 rfl (ZnF _ _)) rfl ?_;intro dv0 w1 hN;have lg:ZF 3 w w1 dv0 [sent,3652059]:=ZF.one hN rfl rfl (by simp [maxLen]);have hN:=Z9.stp hN;have eL1:=eL.up hN;have eS1:=eS.up hN;refine W ?_;have rx:Z6L (rets.take 0) sent=[sent,3652059]:=by simp [Z6L]
 refine LP (σ:=Nat×Value) (λq=>[(0,.func (.yield l) #[] #[]),(1,pQ bS),(2,pQ bL),(4,q.2),(12,lv),(13,.I rets.length),(14,.I q.1)]) (λq w'=>q.1<=rets.length/\ZF 3 w w' q.2 (Z6L (rets.take q.1) sent)) (λq=>rets.length - q.1) (0,dv0) ⟨by omega,by rw [rx];exact lg⟩ ?_;clear lg rx hN eS1 eL1;rintro ⟨k,dv⟩ w2 ⟨hk,hr⟩;dsimp only at hk hr ⊢;by_cases eO:k<rets.length;obtain ⟨r1,r2,r3,r4⟩:=ho.day _ (Xc eO);have bZ:=Z8M (rets.take k) sent;rw [Xx] at bZ;have ax:=Zh1 rets sent k eO;generalize Z6L (rets.take k) sent=pk at *;have d8:SlV [] w2 lv rets:=hl.ext hr.2 (by simp) (by simp);have eS2:=eS.up hr.2;refine QO ?_;refine Z0 Z2 rfl ?_;rintro _ w3 ⟨b6,rfl,ez,e6,hA⟩;refine SA (us:=Z3.enc rets[k]) e6 ?_;rintro _ w4 ⟨dr,e6⟩;replace hA:=hA.ow dr;replace hr:=hr.up hA;refine QO ?_;refine Z7 (vs:=[(0,.I rets[k].lo),(1,.I (rets[k].hi+1))]) rfl (ZkF _ _) rfl ?_;refine QO ?_;generalize nN:rets[k].lo=lo at *;generalize yp:rets[k].hi+1=hi at *;have lC:[lo,hi].filter (inX sent)=(if inX sent lo=true then [lo] else [])++(if inX sent hi=true then [hi] else []):=by
  cases h1:inX sent lo<;>cases h2:inX sent hi<;>simp [h1,h2]
 clear e6 hA dr d8 eS2
 refine Zt (σ:=Nat×Value) (λq=>[(0,.func (.yield l) #[] #[]),(1,pQ bS),(2,pQ bL),(4,q.2),(12,lv),(13,.I rets.length),(14,.I k),(23,.agg #[.I lo,.I hi]),(24,.I q.1)])
  (λq w'=>q.1<=2/\ZF 3 w w' q.2 (pk++(if 0<q.1/\inX sent lo=true then [lo] else [])++(if 1<q.1/\inX sent hi=true then [hi] else []))) (λq=>2 - q.1) (0,dv) ⟨rfl,rfl,rfl,rfl,rfl,rfl,rfl,rfl,rfl,trivial⟩ ⟨by omega,by simpa using hr⟩ ?_
 clear hr;rintro ⟨j,dv⟩ w5 ⟨hj,hr⟩;dsimp only at hj hr ⊢;have eS5:=eS.up hr.2;have yq:pk.length<=70:=by omega
 have hz:∀ (p:Prop) [Decidable p] (d:Int),(if p then [d] else []).length<=1:=λp _ d=>by split<;>simp
 obtain rfl|rfl|rfl:j=0\/j=1\/j=2:=by omega
 by_cases bJ:sent<lo/\lo<=3652058;refine QO ?_;refine Z8 (Z4K rfl rfl (ZkC _ _)) rfl ?_;refine QO ?_;refine AP1 lo hr (by simp;omega) λv1 v' w' bE _=>?_
 refine QO ?_;exact QL (1,v') ⟨by dsimp only;omega,by simpa [inX,bJ] using bE⟩ (by dsimp only;omega)
 . refine QO ?_
   refine Z8 (Z4K rfl rfl (ZkC _ _)) rfl ?_;refine QO ?_;all_goals exact QL (1,dv) ⟨by dsimp only;omega,by simpa [inX,bJ] using hr⟩ (by dsimp only;omega)
 have fW:=hz (0<1/\inX sent lo=true) lo;by_cases bJ:sent<hi/\hi<=3652058;refine QO ?_;refine Z8 (Z4K rfl rfl (ZkD _ _)) rfl ?_;refine QO ?_;refine AP1 hi hr (by simp only [Xd];simp;split<;>simp<;>omega) λv1 v' w' bE _=>?_
 refine QO ?_;exact QL (2,v') ⟨by dsimp only;omega,by simpa [inX,bJ] using bE⟩ (by dsimp only;omega)
 . refine QO ?_
   refine Z8 (Z4K rfl rfl (ZkD _ _)) rfl ?_;repeat'(first|refine W1 ?_|omega|refine VG ?_ ?_<;>intro hg|refine VC ?_ ?_<;>intro hc)
   all_goals exact QL (2,dv) ⟨by dsimp only;omega,by simpa [inX,bJ] using hr⟩ (by dsimp only;omega)
 refine QO ?_;exact QL (k+1,dv) ⟨by dsimp only;omega,by rw [ax,lC,<- XA];simpa using hr⟩ (by dsimp only;omega);obtain rfl:k=rets.length:=by omega
 rw [Xo] at hr;have bZ:=Z8M rets sent;have po:Z4S rets sent=Z3A (Z6L rets sent):=rfl;refine QO ?_;refine CM (ZN rfl) (ZcG w2 hr.1 (by omega)) ?_;rintro _ w3 ⟨rfl,dh,cB⟩;refine QO ?_;refine CM (ZN rfl) (Z7c w3 dh (by rw [Ybh];omega)) ?_;rintro dv4 w4 ⟨iQ,fM,jK⟩;have iR:=λb hb=>hr.ob_le b hb;have aI:Stp [] w w4:=(hr.2.own cB (λb hb=>.inr (iR b hb).1)).own fM (λb hb=>.inr (iR b hb).1);replace iQ:Row [] w4 w.heap.size 3 dv4 (Z4S rets sent):=iQ;have jZ:(Z4S rets sent).length<=100:=by
  have h1:(Z4S rets sent).length<=(Z6L rets sent).length:=by
   rw [po];unfold Z3A Lib.compact Lib.compactUpTo;rw [Xu];refine Xh (X0 _ _) ?_;simp
  omega
 have yr:0<(Z4S rets sent).length:=by
  have:sent∈Z4S rets sent:=((Z3m _).2 sent).2 (by simp);exact List.length_pos_of_mem this
 have tH:∀ d∈Z4S rets sent,sent<=d/\d<=3652059:=λd hd=>by
  have:=((Z3m _).2 d).1 hd;simp only [Xg,Xb,Xj,or_false,YaZ,Ybo,decide_eq_true_eq] at this;rcases this with (rfl|rfl)|⟨r,hr,h1,h2⟩<;>omega
 have nO:Z9r rets sent=((Z4S rets sent).zip (Z4S rets sent).tail).map (λp=>(p.1,p.2 - 1)):=rfl;rw [nO] at hY ⊢;clear nO po hr dh cB fM bZ;generalize Z4S rets sent=D at *;have eB:SlV [] w4 dv4 D:=iQ.slv (by simp);have yt:=eB.max;have tI:((D.zip D.tail).map (λp=>(p.1,p.2 - 1))).length=D.length - 1:=by simp
 have vR:∀ b∈ob dv4,w.heap.size<=b:=λb hb=>(iQ.ob_le b hb).1;refine QO ?_
 refine Zt (σ:=Nat×List Nat) (λq=>[(0,.func (.yield l) #[] #[]),(4,dv4),(46,.I ((D.length:Int) - 1)),(47,.I q.1)])
  (λq w'=>q.1<=D.length - 1/\J (((D.zip D.tail).map (λp=>(p.1,p.2 - 1))).take q.1) q.2 w'/\SlV q.2 w' dv4 D/\Stp F w w'/\∀ b∈q.2,b∈F\/w.heap.size<=b) (λq=>D.length - q.1) (0,F) ⟨rfl,rfl,rfl,rfl,trivial⟩
  ⟨by omega,by simpa using tG _ _ _ _ h0 aI,Row.slv (Z2d (X':=F) iQ) hF,aI.mn,λb hb=>.inl hb⟩ ?_
 clear eB aI;rintro ⟨k,G⟩ w5 ⟨hk,hJ,ay,hS,hG⟩;dsimp only at hk hJ ay hG ⊢;generalize hZ:(D.zip D.tail).map (λp=>(p.1,p.2 - 1))=Z at *;by_cases eO:k<D.length - 1;have tJ:k<Z.length:=by omega
 have bG:k<D.length:=by omega
 have dg:k+1<D.length:=by omega
 have tK:Z[k]=(D[k],D[k+1] - 1):=by subst hZ;simp
 obtain ⟨d1,d2⟩:=tH _ (Xc bG);obtain ⟨d3,d4⟩:=tH _ (Xc dg);refine QO ?_;refine ZgX 5 14 (G) [(0,0),(1,0),(2,0),(3,0),(4,1),(5,0),(6,0),(7,0),(8,0),(9,1),(10,0),(11,0),(12,2),(13,0)] rfl mixed (by kernel_rfl) (by kernel_rfl) (by kernel_rfl) (λw1 ae=>?_);replace hJ:=tG _ _ _ _ hJ ae;replace ay:=ay.up ae;replace hS:=hS.trans ae.mn;refine Z0A rfl (λw'=>ZX rfl) rfl ?_;refine Z0A rfl (λw'=>ZX rfl) rfl ?_;refine Z0A rfl (λw'=>ZX rfl) rfl ?_;refine Z0A rfl (λw'=>Z32 (i:=k) rfl ay rfl rfl bG) rfl ?_;refine ZcZ rfl (λw' hS=>Z1V rfl rfl (ay.ext hS (λb hb=>hb) (λ_ h=>.inl h)) bG rfl rfl) rfl ?_;refine Z0A rfl (λw'=>ZX rfl) rfl ?_;refine Z0A rfl (λw'=>ZX rfl) rfl ?_;refine Z0A rfl (λw'=>ZdN rfl rfl (by unfold I64;omega)) rfl ?_;refine Z0A rfl (λw'=>Z32 (i:=k+1) rfl ay rfl (by omega) dg) rfl ?_;refine ZcZ rfl (λw' hS=>Z1V rfl rfl (ay.ext hS (λb hb=>hb) (λ_ h=>.inl h)) dg rfl rfl) rfl ?_;refine Z0A rfl (λw'=>Z6f rfl rfl (by unfold I64;omega)) rfl ?_;refine Z0A rfl (λw'=>Z0P (vs:=[(0,.I D[k]),(1,.I (D[k+1] - 1))]) rfl (ZkE _ _)) rfl ?_;have tL:=hY (Z.take k) Z[k] G w1 hJ (by rw [<- Xi tJ];exact List.take_prefix _ _);rw [tK] at tL;refine ZgY rfl rfl rfl tL (λW' h=>h.choose_spec.2.1) rfl ?_;rintro W' ⟨G',mM,ny,jw⟩;refine Z0A rfl (λw'=>Zi2 rfl) rfl ?_;refine ZnC ?_;refine QO ?_;refine QL (k+1,G') ⟨by dsimp only;omega,by rw [Xi tJ,tK];exact mM,?_,hS.own ny hG,λb hb=>?_⟩ (by dsimp only;omega);exact ay.ext ny (λb hb=>hb) jw;rcases jw b hb with h|h
 exact hG b h;exact .inr (by have:=hS.size;omega);refine QO ?_;refine WR ?_;have dY:k=Z.length:=by omega
 rw [dY,Xo] at hJ;exact .mk ⟨G,hJ,hS,hG⟩
end Go.Proofs.YtipfkbkkndacjaaGreatDoor
namespace Go.Eng
open Go Go.RowKit Go.Proofs
variable {P:Program} {n:Nat} {Q:Exit->Act->World->Prop} {e:Env} {w w0:World} {rest:List Oper} {ops:Array Oper} {ty ty':TypeId} {pos pos':String} {af af':Array Edge}
theorem Z9.slv1 {α:Type} [Z6 α] {X:List Nat} {T:Nat} {cs:List Value} {v:Value} {w':World} {y:α} (h:Z9 w T 1 cs v w') (hX:∀ b∈X,b<w.heap.size) (hr:Z6.rep X w y cs):SlV X w' v [y]:=by
 obtain ⟨b,rfl,hb,hk,hT⟩:=h;refine ⟨some ⟨b,0,none⟩,1,rfl,Xn _,by simp [maxLen],by simp,λi hi=>?_⟩;obtain rfl:i=0:=by simpa using hi
 refine ⟨b,0,cs,rfl,hk.lt,λdF=>by have:=hX b dF;omega,Z6.ext hr hT (by simp) (λc hc=>.inl hc),λj u hu=>?_⟩;simpa using hk.cell hu
theorem APG {α:Type} [Z6 α] {X:List Nat} {T t bytes d1 d2 base:Nat} {x y:Operand} {v z0 u:Value} {cs:List Value} {xs:List α} [ht:Und P t (.slice T)] [hk:Siz P T (Z6.k α)] [hb:Byt P T bytes] [hz:Zer P T z0] (z:α) (hr:Row X w base T v xs) (hX:∀ b∈X,b<w.heap.size) (dK:base<=w.heap.size)
 (fp:Z6.rep (ob v++X) w z cs) (hl:(xs.length+1) * bytes<=140737488355328) (bI:xs.length+1<=maxLen)
 (k:∀ v1 v' w',Row X w' base T v' (xs++[z])->Stp (ob v) w w'->(∀ b∈ob v',b∈ob v\/w.heap.size<=b)->WL P n ops Q rest ((d2,v') :: (d1,v1) :: e) w')
 (hx:ev e x=some v:=by exact rfl) (hy:JQ e [(0,y)]=some [(0,u)]:=by exact rfl) (bh:∀ w:World,(Instr.buildSlice t 1 #[(0,u)]).run P w=.ok (.slice (some ⟨w.heap.size,0,none⟩) 1 1) (w.alloc (.cells cs.toArray T)):=by intro w;kernel_rfl)
 (mw:∀ v1,ev ((d1,v1) :: e) x=some v:=by intro _;exact rfl) (iD:∀ v1,ev ((d1,v1) :: e) (.tmp d1)=some v1:=by intro _;exact rfl)
 (fQ:z0.cells.size=Z6.k α:=by exact rfl) (bj:0<Z6.k α:=by decide) (h1:Nat.blt d1 n=true:=by exact rfl) (h2:Nat.blt d2 n=true:=by exact rfl) :
 WL P n ops Q (⟨some d1,.buildSlice t 1 #[(0,y)],ty,pos,af,none⟩ :: ⟨some d2,.call { callee:=.builtin .append,args:=#[x,.tmp d1],argTypes:=#[t,t] },ty',pos',af',none⟩ :: rest) e w:=by
 refine Z0 (Z1 (l:=[(0,y)]) (vs:=[(0,u)]) hy bh) h1 ?_;intro v1 w1 hN;have hT:Stp [] w w1:=hN.choose_spec.2.2.2;have an:SlV (ob v++X) w1 v1 [z]:=hN.slv1 (λb hb=>by
  rcases Xg.1 hb with h|h
  exact (hr.ob_le b h).2;exact hX b h) fp
 refine Z0 (ZQ (X:=X) (base:=base) fQ bj (mw v1) (iD v1) (hr.up hT) an (by simpa using hl) (by simpa using bI) (Xh dK hT.size)) h2 ?_;rintro v' w2 ⟨g1,g2,g3⟩;exact k v1 v' w2 g1 (hT.mn.trans g2) (λb hb=>(g3 b hb).imp id (Xh hT.size))
end Go.Eng
namespace Go.Proofs.YtipfkbkkndacjaaGreatDoor
open Go Go.Eng Go.RowKit
theorem Zbl {P:Program} {f:FuncId} {fn:Func} {c:Code} {args:Array Value} {w} {R:Ending->World->Prop} {n:Nat} (hf:P.funcs[f]?=some fn) (hb:fn.body=some c)
 (hn:fn.ntmps=n) (hs:Nat.ble args.size n=true) (h:WC P n c (bodyPostM Fence.wide 5 P fn R) (Z59 args.toList 0) w):Calls P f args w R:=by
 refine (callsIn_wide (n:=5)).1 (callsIn_of_wp_marks hf hb trivial ((wpIn_wide (n:=5)).2 (h.h _ ?_)));rw [hn];have cT:args.size<=n:=XZ hs;refine ⟨rfl,by simp;omega,λt v hv=>?_⟩;obtain ⟨_,h2⟩:=Z3I _ _ _ _ hv;simp only [Nat.sub_zero] at h2;have hlt:t<args.size:=by
  have:=(Xz.1 h2).1;simpa using this
 have:args[t]?=some v:=by simpa using h2
 have h3:(args++Array.replicate (n - args.size) undef)[t]?=some v:=by
  rw [XY hlt];exact this
 simp [XD,h3]
theorem Zh2 {P:Program} {n:Nat} {fn:Func} {R:Ending->World->Prop} {e:Env} {w:World} {D t u:Nat} {v x:Value} (hr:fn.results=#[.tmp t,.tmp u]) (ht:Eng.look e t=some v) (hu:Eng.look e u=some x) (hd:w.heap[D]?=some (.deferred (some [])))
 (h:R (.returned (.tuple #[v,x])) (w.putObj D (.deferred none))):WQD [{ target:=.collected D,args:=#[] }] n (bodyPostM Fence.wide 5 P fn R) .ret e w:=by
 refine ⟨λa ha=>?_⟩;show LeavesInM Fence.wide 5 P fn (Z1x _ a).tmps R (Z1x _ a).defers .returning w;have vS:(Z1x [{ target:=.collected D,args:=#[] }] a).defers=[{ target:=.collected D,args:=#[] }]:=by unfold Z1x;rw [ha.defers];rfl
 rw [vS];refine ⟨by simp,.inl ⟨D,_,rfl,run_takeDeferred hd,?_⟩⟩;refine ⟨.tuple #[v,x],?_,h⟩;have h1:=ha.vals t v ht;have h2:=ha.vals u x hu;have h3:(Z1x [{ target:=.collected D,args:=#[] }] a).tmps=a.tmps:=rfl;rw [XD] at h1 h2;rw [h3];simp [results,hr,h1,h2]
theorem Zbm (lv:Value) (l:List Rtn) (sent:Int) (w) (hl:SlV [] w lv l):CC 202 #[lv,.I sent] w λr w'=>∃ bL bS,r=.func (.func 258) #[] #[pQ bS,pQ bL]/\
 Blk w' bS 3 [.I sent]/\Blk w' bL 76 [lv]/\w.heap.size<=bL/\w.heap.size<=bS/\Stp [] w w':=by
 refine cW2 6 Tryz.func202 ?_;refine W ?_;refine Z0 (ZaF rfl hl) rfl ?_;rintro _ w1 ⟨bL,rfl,hL,kL,hS⟩;have z1:=hS.size;refine BX hS λbS w2 ah kS hT hS=>?_;replace kS:Blk w2 bS 3 [.I sent]:=kS;replace kL:=kL.up hT;refine RT ?_;exact ⟨bL,bS,rfl,kS,kL,hL,by omega,hS⟩
theorem ZkG {l:List Rtn} {sent:Int} (h:l.length<=32):(Z4S l sent).length<=66:=by
 have po:Z4S l sent=Z3A (Z6L l sent):=rfl;have h2:=Z8M l sent;have h1:(Z4S l sent).length<=(Z6L l sent).length:=by
  rw [po];unfold Z3A Lib.compact Lib.compactUpTo;rw [Xu];refine Xh (X0 _ _) ?_;simp
 omega
theorem ZkH {l:List Rtn} {sent:Int} (h:l.length<=32):(Z9r l sent).length<=66:=by
 have:=ZkG (sent:=sent) h;unfold Z9r;rw [Xu,List.length_zip];omega
theorem Zh3 (l:List Rtn) (crrs:List Crr) (s:AlS) (x:Spn):(Z0J l crrs s x).out.length<=s.out.length+1:=by
 unfold Z0J;dsimp only;split;omega;have ht:(if Z1F l crrs x.1<s.least then (⟨Z1F l crrs x.1,false,[]⟩:AlS) else s).out.length<=s.out.length:=by
  split<;>simp
 generalize (if Z1F l crrs x.1<s.least then (⟨Z1F l crrs x.1,false,[]⟩:AlS) else s)=t at *;split;split<;>simp<;>omega
 simp;omega
theorem Za5 (l:List Rtn) (crrs:List Crr):∀ (L:List Spn) (s:AlS),(L.foldl (Z0J l crrs) s).out.length<=s.out.length+L.length
 | [],s=>by simp
 | x :: L, s => by
   have h1:=Za5 l crrs L (Z0J l crrs s x);have h2:=Zh3 l crrs s x;rw [XX,Xe];omega
theorem ZkI (l:List Rtn) (crrs:List Crr) (s:AlS) (x:Spn) (h:¬ s.least<Z1F l crrs x.1) {t:AlS} (ht:t=if Z1F l crrs x.1<s.least then ⟨Z1F l crrs x.1,false,[]⟩ else s) :
 (t.out=[]->Z0J l crrs s x={ t with out:=[x] })/\(∀ M u,t.out=M++[u]->Z0J l crrs s x={ t with out:=if u.2=x.1 - 1 then M++[(u.1,x.2)] else M++[u]++[x] }):=by
 unfold Z0J;dsimp only;rw [if_neg h,<- ht];clear ht;constructor;intro h0;rw [h0];rfl;intro M u h0;rw [h0];simp only [List.getLast?_append,List.getLast?_singleton,Option.some_or];split<;>simp
structure AlJ (w0:World) (l:List Rtn) (crrs:List Crr) (b8 b9 b10:Nat) (pre:List Spn) (F:List Nat) (W:World):Prop where
 ex:∃ ov,F=b8 :: b9 :: b10 :: ob ov/\Blk W b10 27 [ov]/\Row [] W w0.heap.size 75 ov (pre.foldl (Z0J l crrs) ⟨Z1F l crrs (-1),true,[]⟩).out
 k8:Blk W b8 3 [.I (pre.foldl (Z0J l crrs) ⟨Z1F l crrs (-1),true,[]⟩).least]
 k9:Blk W b9 4 [.B (pre.foldl (Z0J l crrs) ⟨Z1F l crrs (-1),true,[]⟩).never]
 stp:Stp [b8,b9,b10] w0 W
theorem Zbn {β:Type} [Z3 β] {X S:List Nat} {w w':World} {base T:Nat} {v:Value} {xs:List β} (h:Row X w base T v xs) (hS:Stp S w w') (hn:∀ b∈S,b∉ob v):Row X w' base T v xs:=
 Z2d (Row.ext (Z2d (X':=S) h) hS (λb hb=>⟨hb,hn b hb⟩) (λb hb=>.inl hb))
theorem AlJ.stay {w0 W W':World} {l:List Rtn} {crrs:List Crr} {b8 b9 b10:Nat} {pre:List Spn} {F S:List Nat} (h:AlJ w0 l crrs b8 b9 b10 pre F W) (hS:Stp S W W') (hd:∀ b∈S,w0.heap.size<=b/\b∉F):AlJ w0 l crrs b8 b9 b10 pre F W':=by
 obtain ⟨⟨ov,rfl,k10,hr⟩,k8,k9,ax⟩:=h;exact ⟨⟨ov,rfl,k10.ext hS (λh=>(hd _ h).2 (by simp)),Zbn hr hS (λb hb h=>(hd b hb).2 (by simp [h]))⟩,k8.ext hS (λh=>(hd _ h).2 (by simp)),k9.ext hS (λh=>(hd _ h).2 (by simp)),ax.own hS (λb hb=>.inr (hd b hb).1)⟩
theorem Zd5 (lv cv:Value) (l:List Rtn) (crrs:List Crr) (sent:Int) (w) (hl:SlV [] w lv l) (hc:SlV [] w cv crrs) (ho:ZnE l crrs) (fc:0<=sent/\sent<=3652058) :
 CC 127 #[lv,cv,.I sent] w λv w'=>∃ ov,v=.tuple #[ov,.B (Zh0 l crrs sent).never]/\SlV [] w' ov (Zh0 l crrs sent).out/\Stp [] w w':=by
 refine Zbl (n:=62) Tryz.func127 rfl rfl rfl ?_;refine W ?_;refine Z0 (ZaF rfl hl) rfl ?_;rintro _ w1 ⟨b3,rfl,h3,e3,hS⟩;refine Z0 (ZaF rfl hc) rfl ?_;rintro _ w2 ⟨b4,rfl,h4,e4,hT⟩;replace e3:=e3.up hT;replace hS:=hS.trans hT;clear hT;refine W ?_;refine CP hS (Z8K lv cv l crrs (-1) _ (hl.up hS) (hc.up hS) ho.len ho.crr ho.tol) λw3 hT hS=>?_;replace e3:=e3.up hT;replace e4:=e4.up hT;clear hT;refine Z0 Z2 rfl ?_;rintro _ w4 ⟨b8,rfl,fL,e8,hT⟩;replace e8:Blk w4 b8 3 [.I 0]:=e8;refine S1 e8 ?_;rintro _ w5 ⟨ar,e8⟩;replace hT:=hT.ow ar;have l3:=e3.lt;have l4:=e4.lt;replace e3:=e3.up hT;replace e4:=e4.up hT;have g8:w.heap.size<=b8:=Xh hS.size fL;replace hS:=hS.trans hT;clear hT ar;refine W ?_;refine Z0 Z2 rfl ?_;rintro _ w6 ⟨b9,rfl,ir,e9,hT⟩;replace e9:Blk w6 b9 4 [.B false]:=e9;refine S1 e9 ?_;rintro _ w7 ⟨ar,e9⟩;replace hT:=hT.ow ar;have l8:=e8.lt;replace e3:=e3.up hT;replace e4:=e4.up hT;replace e8:=e8.up hT;replace hS:=hS.trans hT;clear hT ar;refine W ?_;refine Z0 Z2 rfl ?_;rintro _ w8 ⟨b10,rfl,dG,e10,hT⟩;have l9:=e9.lt;replace e3:=e3.up hT;replace e4:=e4.up hT;replace e8:=e8.up hT;replace e9:=e9.up hT;replace hS:=hS.trans hT;clear hT;refine W ?_;refine CG (Zbm lv l sent _ (hl.up hS)) ?_;rintro _ w9 ⟨bL,bS,rfl,kS,kL,gL,gS,hT⟩;have l10:=e10.lt;have z8:=hS.size;replace e3:=e3.up hT;replace e4:=e4.up hT;replace e8:=e8.up hT;replace e9:=e9.up hT;replace e10:=e10.up hT;replace hS:=hS.trans hT;clear hT;refine W ?_;replace e10:Blk w9 b10 27 [.N]:=e10;have q8:=e8.lt;have q9:=e9.lt;have q10:=e10.lt;refine ZlD [(3,pQ b3),(4,pQ b4),(8,pQ b8),(9,pQ b9),(10,pQ b10),(19,.func (.func 258) #[] #[pQ bS,pQ bL])] ⟨rfl,rfl,rfl,rfl,rfl,rfl,trivial⟩ ?_;refine Zkz (α:=Spn) (E:=λx b=>[(3,pQ b3),(4,pQ b4),(8,pQ b8),(9,pQ b9),(10,pQ b10),(11,pQ b)]) (T:=75) (cs:=Z3.enc) (λx=>aG x) rfl rfl (Z9r l sent) (AlJ w9 l crrs b8 b9 b10) [b8,b9,b10] ?_ ?_ ?_ ?_ ?_ ?_ ?_;rintro pre F W ⟨⟨ov,rfl,k10,hr⟩,k8,k9,ax⟩ b hb;simp only [Xb] at hb;rcases hb with rfl|rfl|rfl|hb
 exact k8.lt;exact k9.lt;exact k10.lt;exact (hr.ob_le b hb).2;exact λpre F W W' S h hS hd=>h.stay hS hd;exact ⟨⟨.N,rfl,e10,Row.nil⟩,e8,e9,Stp.refl _ _⟩;intro l' Y iu ea yu;have zY:=iu.size;have zw:=hS.size;have kSl:=kS.lt;have kLl:=kL.lt;refine Zbk l' _ Y bS bL lv l sent crrs ho fc (kS.up iu) (kL.up iu) (hl.ext (hS.trans iu) (by simp) (λb hb=>.inr (by
  simp only [Xb,Xj,or_false] at hb;omega))) (λb hb=>by
  simp only [Xb,Xj,or_false] at hb;omega) (by simp only [Xb,Xj,or_false];omega) (by simp only [Xb,Xj,or_false];omega)
 intro l' x Y Z eT hk;refine ZT rfl (λa w h=>eT a w h) ?_;refine Z0 Z2 rfl ?_;rintro _ Ya ⟨b,rfl,hb,kb,hT⟩;refine SA (us:=Z3.enc x) kb ?_;rintro _ Yb ⟨ar,kb⟩;refine W ?_;exact ZlE [(3,pQ b3),(4,pQ b4),(8,pQ b8),(9,pQ b9),(10,pQ b10),(11,pQ b)] ⟨rfl,rfl,rfl,rfl,rfl,rfl,trivial⟩ (hk b Yb hb kb (hT.ow ar));intro l' pre x b11 F Y Z hJ cw k11 pp lw eT hZ;obtain ⟨⟨ov,rfl,k10,hr⟩,k8,k9,ax⟩:=hJ;have vT:x∈Z9r l sent:=cw.subset (by simp);have yw:=Z8L fc vT;have bZ:pre.length<=66:=by
  have h1:=cw.length_le;have h2:=ZkH (sent:=sent) ho.len;rw [Xd] at h1;omega
 have mh:=Za5 l crrs pre ⟨Z1F l crrs (-1),true,[]⟩;have iv:(pre++[x]).foldl (Z0J l crrs) ⟨Z1F l crrs (-1),true,[]⟩=Z0J l crrs (pre.foldl (Z0J l crrs) ⟨Z1F l crrs (-1),true,[]⟩) x:=by simp
 have iu:Stp [] w Y:=hS.own ax (λb hb=>by simp at hb;rcases hb with rfl|rfl|rfl<;>exact .inr (by omega));have f3:=e3.ext ax (by simp;omega);have f4:=e4.ext ax (by simp;omega);have eJ:=λb hb=>hr.ob_le b hb;have zst:=ax.size;simp only [Xf] at mh;generalize pre.foldl (Z0J l crrs) ⟨Z1F l crrs (-1),true,[]⟩=s at *;obtain ⟨least,never,out⟩:=s;dsimp only at k8 k9 hr mh;have l8y:=k8.lt;have l9y:=k9.lt;have l10y:=k10.lt;focus repeat'(first|refine W1 ?_|refine Jt ?_|refine JT ?_|refine Ja ?_|refine ZT rfl (λa w h=>eT a w h) ?_|refine Ju ?_|refine Jv ?_|refine Jm rfl ?_|refine J5 rfl ?_|refine Zy ?_|refine Zv ?_|refine ZG rfl ?_|refine Jl ?_)
 refine CP (Stp.refl [] Y) (Z8K lv cv l crrs x.1 _ (hl.up iu) (hc.up iu) ho.len ho.crr ho.tol) λY1 hT _=>?_;replace k8:=k8.up hT;replace k9:=k9.up hT;replace k10:=k10.up hT;replace k11:=k11.up hT;replace f3:=f3.up hT;replace f4:=f4.up hT;replace hr:=hr.up hT;have lD:=ax.trans hT.mn;have hstep:=λh=>@ZkI l crrs ⟨least,never,out⟩ x h _ rfl;have iS:least<Z1F l crrs x.1->Z0J l crrs ⟨least,never,out⟩ x=⟨least,never,out⟩:=λh=>by unfold Z0J;dsimp only;rw [if_pos h]
 dsimp only at hstep iS;generalize Z1F l crrs x.1=E at *;by_cases h1:least<E;rw [iS h1] at iv;focus repeat'(first|refine W1 ?_|refine Jt ?_|refine JT ?_|refine Ja ?_|refine ZT rfl (λa w h=>eT a w h) ?_|refine Ju ?_|refine Jv ?_|refine Jm rfl ?_|refine J5 rfl ?_|refine Zy ?_|refine Zv ?_|refine ZG rfl ?_|refine Jl ?_|omega|(refine Z4c rfl ?_ ?_<;>intro hc))
 exact ⟨λa ha=>hZ a _ Y1 ⟨⟨ov,rfl,k10,by rw [iv];exact hr⟩,by rw [iv];exact k8,by rw [iv];exact k9,lD⟩ hT.mn (λb hb=>.inl hb)⟩;have hstep:=hstep h1;clear iS f3 f4;generalize cJ:Z0J l crrs ⟨least,never,out⟩ x=s' at *;generalize ht:(if E<least then (⟨E,false,[]⟩:AlS) else ⟨least,never,out⟩)=t at *;have pj:t.out.length<=66:=by rw [<- ht];split<;>simp<;>omega
 focus repeat'(first|refine W1 ?_|refine Jt ?_|refine JT ?_|refine Ja ?_|refine ZT rfl (λa w h=>eT a w h) ?_|refine Ju ?_|refine Jv ?_|refine Jm rfl ?_|refine J5 rfl ?_|refine Zy ?_|refine Zv ?_|refine ZG rfl ?_|refine Jl ?_)
 refine Z4c rfl (λhc=>absurd hc h1) (λhc=>?_);focus repeat'(first|refine W1 ?_|refine Jt ?_|refine JT ?_|refine Ja ?_|refine ZT rfl (λa w h=>eT a w h) ?_|refine Ju ?_|refine Jv ?_|refine Jm rfl ?_|refine J5 rfl ?_|refine Zy ?_|refine Zv ?_|refine ZG rfl ?_|refine Jl ?_)
 refine Zky (σ:=Value) (λ_=>[(10,pQ b10),(11,pQ b11)]) (λov' W'=>Blk W' b8 3 [.I t.least]/\Blk W' b9 4 [.B t.never]/\Blk W' b10 27 [ov']/\Row [] W' w9.heap.size 75 ov' t.out/\Blk W' b11 75 (Z3.enc x)/\Stp [b8,b9,b10] Y1 W'/\∀ b∈ob ov',b∈ob ov) ?_ ?_;by_cases h2:E<least;rw [if_pos h2] at ht;subst ht;focus repeat'(first|refine W1 ?_|refine Jt ?_|refine JT ?_|refine Ja ?_|refine ZT rfl (λa w h=>eT a w h) ?_|refine Ju ?_|refine Jv ?_|refine Jm rfl ?_|refine J5 rfl ?_|refine Zy ?_|refine Zv ?_|refine ZG rfl ?_|refine Jl ?_|omega|(refine Z4c rfl ?_ ?_<;>intro hc))
 refine S1 (u:=.I E) k8 ?_;rintro _ Y2 ⟨hA,k8⟩;replace k9:=k9.ext hA (by simp;omega);replace k10:=k10.ext hA (by simp;omega);replace k11:=k11.ext hA (λh=>pp (by simp at h;subst h;simp));refine S1 (u:=.B false) k9 ?_;rintro _ Y3 ⟨hB,k9⟩;replace k8:=k8.ext hB (by simp;omega);replace k10:=k10.ext hB (by simp;omega);replace k11:=k11.ext hB (λh=>pp (by simp at h;subst h;simp));refine S1 (u:=.N) k10 ?_;rintro _ Y4 ⟨hC,k10⟩;replace k8:=k8.ext hC (by simp;omega);replace k9:=k9.ext hC (by simp;omega);replace k11:=k11.ext hC (λh=>pp (by simp at h;subst h;simp));focus repeat'(first|refine W1 ?_|refine Jt ?_|refine JT ?_|refine Ja ?_|refine ZT rfl (λa w h=>eT a w h) ?_|refine Ju ?_|refine Jv ?_|refine Jm rfl ?_|refine J5 rfl ?_|refine Zy ?_|refine Zv ?_|refine ZG rfl ?_|refine Jl ?_)
 exact QT (.N) ⟨k8,k9,k10,Row.nil,k11,(hA.mn.trans hB.mn).trans hC.mn,by simp [ob]⟩;rw [if_neg h2] at ht;subst ht;focus repeat'(first|refine W1 ?_|refine Jt ?_|refine JT ?_|refine Ja ?_|refine ZT rfl (λa w h=>eT a w h) ?_|refine Ju ?_|refine Jv ?_|refine Jm rfl ?_|refine J5 rfl ?_|refine Zy ?_|refine Zv ?_|refine ZG rfl ?_|refine Jl ?_|omega|(refine Z4c rfl ?_ ?_<;>intro hc))
 exact QT ov ⟨k8,k9,k10,hr,k11,Stp.refl _ _,λb hb=>hb⟩;clear k8 k9 k10 k11 hr ht;rintro ov' Y2 ⟨k8,k9,k10,hr,k11,hA,px⟩;have zA:=hA.size;have zT:=hT.size;have iT:=λb hb=>hr.ob_le b hb;have eK:SlV [] Y2 ov' t.out:=hr.slv (by simp);obtain ⟨hq1,hq2⟩:=hstep;obtain ⟨tl,tn,oo⟩:=t;dsimp only at k8 k9 hr eK iT hq1 hq2 pj;have nP:b8∉ob ov':=λh=>by have:=iT _ h;omega
 have nQ:b9∉ob ov':=λh=>by have:=iT _ h;omega
 have gI:b10∉ob ov':=λh=>by have:=iT _ h;omega
 have tM:b11∉ob ov':=λh=>pp (by have:=px _ h;simp [this])
 have fin:∀ (nv:Value) (W':World),Blk W' b8 3 [.I s'.least]->Blk W' b9 4 [.B s'.never]->Blk W' b10 27 [nv]->Row [] W' w9.heap.size 75 nv s'.out->Stp (b10 :: ob ov') Y2 W'->(∀ b∈ob nv,b∈ob ov'\/Y2.heap.size<=b)->∀ a,Z .normal a W':=λnv W' g8 g9 g10 gr gs gn a=>
  hZ a (b8 :: b9 :: b10 :: ob nv) W' ⟨⟨nv,rfl,g10,by rw [iv];exact gr⟩,by rw [iv];exact g8,by rw [iv];exact g9,(lD.trans hA).own gs (λb hb=>by
   rcases Xb.1 hb with rfl|hb
   exact .inl (by simp);exact .inr (iT b hb).1)⟩ ((((hT.mono (S':=b8 :: b9 :: b10 :: ob ov) (by simp)).trans hA.mn).trans (gs.mono (λb hb=>by
   rcases Xb.1 hb with rfl|hb
   simp;simp [px b hb])))) (λb hb=>by
   simp only [Xb] at hb ⊢;rcases hb with rfl|rfl|rfl|hb
   exact .inl (.inl rfl);exact .inl (.inr (.inl rfl));exact .inl (.inr (.inr (.inl rfl)));rcases gn b hb with h|h
   exact .inl (.inr (.inr (.inr (px b h))));exact .inr (by omega))
 clear hA px eJ lD;have app:∀ (Y3:World),Stp [] Y2 Y3->s'=⟨tl,tn,oo++[x]⟩->∀ (nv:Value) (Y4 Y5:World),Row [] Y4 w9.heap.size 75 nv (oo++[x])->Stp (ob ov') Y3 Y4->(∀ b∈ob nv,b∈ob ov'\/Y3.heap.size<=b)->Stp [b10] Y4 Y5->Blk Y5 b10 27 [nv]->∀ a,Z .normal a Y5:=λY3 g1 gs nv Y4 Y5 g2 g3 g4 g5 g6 a=>by
  subst gs;have q8:=(((k8.up g1).ext g3 nP).ext g5 (by simp;omega))
  have q9:=(((k9.up g1).ext g3 nQ).ext g5 (by simp;omega))
  have eU:b10∉ob nv:=λh=>by
   rcases g4 _ h with h|h
   exact gI h;have:=g1.size;omega
  exact fin nv Y5 q8 q9 g6 (Zbn g2 g5 (λb hb h=>eU (by simp at hb;subst hb;exact h))) ((g1.mn.trans (g3.mono (λb hb=>by simp [hb]))).trans g5.mn) (λb hb=>(g4 b hb).imp id (λh=>by have:=g1.size;omega)) a
 focus repeat'(first|refine W1 ?_|refine Jt ?_|refine JT ?_|refine Ja ?_|refine ZT rfl (λa w h=>eT a w h) ?_|refine Ju ?_|refine Jv ?_|refine Jm rfl ?_|refine J5 rfl ?_|refine Zy ?_|refine Zv ?_|refine ZG rfl ?_|refine Jl ?_)
 rcases Yap oo with rfl|⟨M,u,rfl⟩
 have bq:=hq1 rfl;refine Za4 14 [] [] [(0,0),(1,0),(2,0),(3,1),(4,0),(5,0),(6,0),(7,0),(8,1),(9,0),(10,1),(11,0),(12,0),(13,0)] rfl mixed (by kernel_rfl) (by kernel_rfl) (by kernel_rfl) rfl (λw1 ae=>?_);replace k10:=k10.up ae;replace k11:=k11.up ae;replace hr:=hr.up ae;refine D ?_;focus repeat'(first|refine W1 ?_|refine Jt ?_|refine JT ?_|refine Ja ?_|refine ZT rfl (λa w h=>eT a w h) ?_|refine Ju ?_|refine Jv ?_|refine Jm rfl ?_|refine J5 rfl ?_|refine Zy ?_|refine Zv ?_|refine ZG rfl ?_|refine Jl ?_)
 refine APG (X:=[]) (base:=w9.heap.size) x hr (by simp) (by have:=ae.size;omega) rfl (by simp) (by simp [maxLen]) λv1 nv Y4 iQ fM jK=>?_
 replace k10:=k10.ext fM gI;focus repeat'(first|refine W1 ?_|refine Jt ?_|refine JT ?_|refine Ja ?_|refine ZT rfl (λa w h=>eT a w h) ?_|refine Ju ?_|refine Jv ?_|refine Jm rfl ?_|refine J5 rfl ?_|refine Zy ?_|refine Zv ?_|refine ZG rfl ?_|refine Jl ?_)
 have eB:SlV [] Y4 nv ([]++[x]):=iQ.slv (by simp);refine Z5 (Zb (u:=nv) rfl rfl eB.cells eB.one k10 (by simp)) ?_;rintro _ Y5 ⟨ec,k10⟩;focus repeat'(first|refine W1 ?_|refine Jt ?_|refine JT ?_|refine Ja ?_|refine ZT rfl (λa w h=>eT a w h) ?_|refine Ju ?_|refine Jv ?_|refine Jm rfl ?_|refine J5 rfl ?_|refine Zy ?_|refine Zv ?_|refine ZG rfl ?_|refine Jl ?_)
 exact ⟨λa ha=>app w1 ae bq nv Y4 Y5 iQ fM jK ec k10 a⟩;rw [Yaq] at *;have bq:=hq2 M u rfl;have lc:((M++[u]).length:Int) - 1=(M.length:Nat):=by simp
 have mx:M.length<(M++[u]).length:=by simp
 have dB:(M++[u])[M.length]=u:=by simp
 have gB:0<((M++[u]).length:Int):=by simp
 refine Za4 14 [] [] [(0,0),(1,0),(2,0),(3,1),(4,0),(5,0),(6,0),(7,0),(8,1),(9,0),(10,1),(11,0),(12,0),(13,0)] rfl mixed (by kernel_rfl) (by kernel_rfl) (by kernel_rfl) rfl (λw1 ae=>?_);replace k10:=k10.up ae;replace k11:=k11.up ae;replace hr:=hr.up ae;replace eK:=eK.up ae;refine QD ?_;rw [dB];focus repeat'(first|refine W1 ?_|refine Jt ?_|refine JT ?_|refine Ja ?_|refine ZT rfl (λa w h=>eT a w h) ?_|refine Ju ?_|refine Jv ?_|refine Jm rfl ?_|refine J5 rfl ?_|refine Zy ?_|refine Zv ?_|refine ZG rfl ?_|refine Jl ?_)
 refine Z4c rfl (λhc=>?_) (λhc=>?_);rw [if_pos hc] at bq;focus repeat'(first|refine W1 ?_|refine Jt ?_|refine JT ?_|refine Ja ?_|refine ZT rfl (λa w h=>eT a w h) ?_|refine Ju ?_|refine Jv ?_|refine Jm rfl ?_|refine J5 rfl ?_|refine Zy ?_|refine Zv ?_|refine ZG rfl ?_|refine Jl ?_)
 refine Z5 (Z4r (i:=M.length) (y':=(u.1,x.2)) (u:=.I x.2) rfl rfl rfl rfl rfl hr mx (by decide) (by rw [dB];rfl)) ?_;rintro _ Y5 ⟨tN,ec⟩;focus repeat'(first|refine W1 ?_|refine Jt ?_|refine JT ?_|refine Ja ?_|refine ZT rfl (λa w h=>eT a w h) ?_|refine Ju ?_|refine Jv ?_|refine Jm rfl ?_|refine J5 rfl ?_|refine Zy ?_|refine Zv ?_|refine ZG rfl ?_|refine Jl ?_)
 rw [show (M++[u]).set M.length (u.1,x.2)=M++[(u.1,x.2)] by simp] at tN;have vU:=(k8.up ae).ext ec nP;have vV:=(k9.up ae).ext ec nQ;have ry:=k10.ext ec gI;refine ⟨λa ha=>fin ov' Y5 (by rw [bq];exact vU) (by rw [bq];exact vV) ry (by rw [bq];exact tN) (ae.mn.trans (ec.mono (λb hb=>by simp [hb]))) (λb hb=>.inl hb) a⟩;rw [if_neg hc] at bq;focus repeat'(first|refine W1 ?_|refine Jt ?_|refine JT ?_|refine Ja ?_|refine ZT rfl (λa w h=>eT a w h) ?_|refine Ju ?_|refine Jv ?_|refine Jm rfl ?_|refine J5 rfl ?_|refine Zy ?_|refine Zv ?_|refine ZG rfl ?_|refine Jl ?_)
 refine APG (X:=[]) (base:=w9.heap.size) x hr (by simp) (by have:=ae.size;omega) rfl (Xh (Xq _ (show (M++[u]).length+1<=1000 by omega)) (by decide)) (by simp only [maxLen];omega) λv1 nv Y4 iQ fM jK=>?_
 replace k10:=k10.ext fM gI;focus repeat'(first|refine W1 ?_|refine Jt ?_|refine JT ?_|refine Ja ?_|refine ZT rfl (λa w h=>eT a w h) ?_|refine Ju ?_|refine Jv ?_|refine Jm rfl ?_|refine J5 rfl ?_|refine Zy ?_|refine Zv ?_|refine ZG rfl ?_|refine Jl ?_)
 have eB:SlV [] Y4 nv (M++[u]++[x]):=iQ.slv (by simp);refine Z5 (Zb (u:=nv) rfl rfl eB.cells eB.one k10 (by simp)) ?_;rintro _ Y5 ⟨ec,k10⟩;focus repeat'(first|refine W1 ?_|refine Jt ?_|refine JT ?_|refine Ja ?_|refine ZT rfl (λa w h=>eT a w h) ?_|refine Ju ?_|refine Jv ?_|refine Jm rfl ?_|refine J5 rfl ?_|refine Zy ?_|refine Zv ?_|refine ZG rfl ?_|refine Jl ?_)
 exact ⟨λa ha=>app w1 ae bq nv Y4 Y5 iQ fM jK ec k10 a⟩;rintro D F Y ⟨⟨ov,rfl,k10,hr⟩,k8,k9,ax⟩ hD vW gj hF -;have vX:=hS.own ax (λb hb=>by simp at hb;rcases hb with rfl|rfl|rfl<;>exact .inr (by omega));have je:(Z9r l sent).foldl (Z0J l crrs) ⟨Z1F l crrs (-1),true,[]⟩=Zh0 l crrs sent:=rfl;rw [je] at hr k9;refine ⟨λa ha=>(Z2f (ds:=[{ target:=.collected D,args:=#[] }]) (Z4J ?_)).h a ha⟩;refine Za3 4 [] [] [(0,1),(1,1),(2,0),(3,0)] rfl mixed (by kernel_rfl) (by kernel_rfl) (by kernel_rfl) (λw1 ae=>?_);replace k10:=k10.up ae;replace k9:=k9.up ae;replace hr:=hr.up ae;refine QD ?_;refine Z6I (Z2f (Zfz ?_));have nR:=(ae.block D (Xm.1 gj).1 (by simp)).trans gj;refine Zh2 (D:=D) rfl rfl rfl nR (.mk ⟨ov,rfl,?_,?_⟩);exact (Row.slv (X:=[]) (Zbn hr (Z2g w1 D (.deferred none)) (λb hb h=>vW (by simp at hb;subst hb;simp [h]))) (by simp));exact ((vX.trans ae)).own (Z2g w1 D (.deferred none)) (λb hb=>.inr (by simp at hb;subst hb;have:=hS.size;omega))
end Go.Proofs.YtipfkbkkndacjaaGreatDoor
