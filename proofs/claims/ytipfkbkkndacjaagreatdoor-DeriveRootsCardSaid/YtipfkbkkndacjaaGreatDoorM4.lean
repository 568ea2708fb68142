/-
Contracts and plain laws, merged out of own texts.
-/
import Derived.Test.YtipfkbkkndacjaaGreatDoorM3
import Derived.Test.YtipfkbkkndacjaaGreatDoorRows
import Derived.Test.YtipfkbkkndacjaaGreatDoorTie
import Derived.Test.YtipfkbkkndacjaaGreatDoorCards
import Derived.Shelf.SlSortCmp.NoneTotal
import Derived.Laws.CopyRow
import Derived.Test.YtipfkbkkndacjaaGreatDoorShl3
import Derived.Recover
import Derived.RangeFuncLeaves
import Derived.RangeFuncCalls
import Derived.RangeFuncSeq
import Derived.OrdersIn
set_option linter.unusedVariables false
set_option linter.unusedSimpArgs false
set_option maxHeartbeats 4000000
set_option maxRecDepth 20000
namespace Go.Proofs.YtipfkbkkndacjaaGreatDoor
open Go Go.Eng Go.RowKit
abbrev RwZ (w w':World) (v:Value) (xs:List Int):Prop:=ZI 3 w w' v xs
theorem Zg4 (k:Nat) (w) (hk:k≤1000000):CC 335 #[.N,.I (k:Int)] w fun r w'=>RwZ w w' r []:=by
 refine cW2 27 Tryz.func335 ?_;refine W ?_;have h0:SlV (α:=Int) [] w (.N) []:=Zm _ _;have hl0:([]:List Int).length=0:=rfl;repeat'(first|refine W1 ?_|omega|refine VG ?_ ?_<;>intro hg|refine VC ?_ ?_<;>intro hc)
 apply Z4 (Zar rfl) rfl;by_cases hk0:k=0;subst hk0;refine QO ?_;refine WR ?_;exact .mk ZI.nil;refine QO ?_;apply Z4 (Zar rfl) rfl;apply Z4 (Z7I rfl rfl) rfl;refine W ?_;refine Z1 (ZmQ (k:=k) rfl rfl rfl (by omega) (by simp [maxLen];omega) (by omega)) rfl ?_;rintro _ w1 ⟨c,rfl,hown,hS⟩;replace h0:=h0.up hS;have hr:RwZ w w1 (.slice (some ⟨w.heap.size,0,none⟩) 0 c) []:=⟨⟨[],rfl,fun i h=>absurd h (Xu _),hown⟩,hS⟩
 refine W ?_;apply Z4 (Z9d rfl rfl) rfl;refine W ?_;refine WR ?_;exact .mk hr
theorem ZbZ (v:Value) (xss:List (Sl Int)) (w) (hs:SlV [] w v xss) (hl:xss.length≤1000) (hlen:(xss.flatMap Sl.l).length≤100000):CC 299 #[v] w fun r w'=>RwZ w w' r (xss.flatMap Sl.l):=by
 have hpre:∀ j,((xss.take j).flatMap Sl.l).length≤(xss.flatMap Sl.l).length:=fun j=>by
  rw [← XB j xss,Yaj,Xc];simp only [XB];have:(xss.take j).flatMap Sl.l=((xss.take j++xss.drop j).take j).flatMap Sl.l:=by rw [XB]
  omega
 have hstep:∀ j (h:j<xss.length),(xss.take (j+1)).flatMap Sl.l=(xss.take j).flatMap Sl.l++xss[j].l:=fun j h=>by
  rw [Xi h,Yaj];simp
 refine cW1 36 Tryz.func299 ?_;refine W ?_;refine Z0l (σ:=Unit) (fun _=>[(0,v),(3,.I ((xss.flatMap Sl.l).length:Int))]) (fun _ w'=>w'=w) ?_ ?_;refine LP (σ:=Nat) (fun j=>[(0,v),(9,v),(10,.I (xss.length:Int)),(3,.I (((xss.take j).flatMap Sl.l).length:Int)),(11,.I (j:Int))]) (fun j w'=>j≤xss.length∧w'=w) (fun j=>xss.length - j) 0 ⟨Xq _,rfl⟩ ?_;rintro j w2 ⟨hj,rfl⟩;by_cases hlt:j<xss.length;obtain ⟨u,hcell,hsu⟩:=hs.sub hlt;have hum:=hsu.max;have h1:=hpre j;have h2:=hpre (j+1);have h3:=hstep j hlt;have h4:((xss.take (j+1)).flatMap Sl.l).length=((xss.take j).flatMap Sl.l).length+xss[j].l.length:=by rw [h3,Xc]
 refine QO ?_;apply Z4 (Jw rfl rfl hcell) rfl;refine QO ?_;refine ZD (j+1) ⟨rfl,rfl,rfl,by rw [h4,Ybi];rfl,rfl,trivial⟩ ⟨hlt,rfl⟩ (by omega);have hje:j=xss.length:=by omega
 subst hje;rw [Xo];refine QO ?_;exact QT () rfl;rintro _ w2 rfl;refine W ?_;refine CM (Zh rfl rfl) (Zg4 _ _ (by omega)) ?_;rintro g w3 hr;refine W ?_;have hs3:=hs.up hr.2;refine W ?_;refine LP (σ:=Nat×Value) (fun q=>[(6,q.2),(25,v),(26,.I (xss.length:Int)),(27,.I (q.1:Int))]) (fun q w'=>q.1≤xss.length∧RwZ w2 w' q.2 ((xss.take q.1).flatMap Sl.l)) (fun q=>xss.length - q.1) (0,g) ⟨Xq _,by simpa using hr⟩ ?_;clear hr hs3;rintro ⟨j,g⟩ w4 ⟨hj,hr⟩;dsimp only at hj hr ⊢;by_cases hlt:j<xss.length;have hs4:SlV (ob g) w4 v xss:=hs.ext hr.2 (by simp) (fun b hb=>.inr (hr.ob_le b hb).1);obtain ⟨u,hcell,hsu⟩:=hs4.sub hlt;have h1:=hpre j;have h2:=hpre (j+1);have h3:=hstep j hlt;have h4:((xss.take (j+1)).flatMap Sl.l).length=((xss.take j).flatMap Sl.l).length+xss[j].l.length:=by rw [h3,Xc]
 refine QO ?_;apply Z4 (Jw rfl rfl hcell) rfl;refine QO ?_;refine Z1 (JB rfl (by decide) rfl rfl hr hsu (by omega) (by simp only [maxLen];omega)) rfl ?_;rintro g' w5 ⟨hr',-,-⟩;refine W ?_;exact QL (j+1,g') ⟨hlt,by dsimp only;rw [h3];exact hr'⟩ (by dsimp only;omega);have hje:j=xss.length:=by omega
 subst hje;rw [Xo] at hr;refine QO ?_;refine WR ?_;exact .mk hr
end Go.Proofs.YtipfkbkkndacjaaGreatDoor
namespace Go.Eng
open Go
theorem Z4j {P:Program} {n:Nat} {fn:Func} {R:Ending→World→Prop} {e:Env} {w} {t u s q:Nat} {v x y z:Value} (hr:fn.results=#[.tmp t,.tmp u,.tmp s,.tmp q]) (ht:look e t=some v) (hu:look e u=some x) (hs:look e s=some y) (hq:look e q=some z) (h:R (.returned (.tuple #[v,x,y,z])) w):WQ n (bodyPost P fn R) .ret e w:=
 ⟨fun a ha=>⟨ha.defers,.tuple #[v,x,y,z],by simp [results,hr];simpa [Xz] using And.intro (ha.vals t v ht) (And.intro (ha.vals u x hu) (And.intro (ha.vals s y hs) (ha.vals q z hq))),h⟩⟩
end Go.Eng
namespace Go.Proofs.YtipfkbkkndacjaaGreatDoor
open Go Go.Eng Go.RowKit
def opP (k:Int):Prop:=k=1∨k=2∨k=4∨k=15∨k=24
def ZF (x:Ins):List Int×List Int×List Int×Bool:=
 if x.op=1 then ([],[],[1],decide (-2147483647≤x.n∧x.n≤2147483647))
 else if x.op=2 then ([],[],[2],decide (x.n=0∨x.n=1))
 else if x.op=3 then ([],[],[3],decide (0≤x.n∧x.n≤3652058))
 else if x.op=4 then ([],[],[if x.n=0∨x.n=1 then 3 else 1],decide (0≤x.n∧x.n<7))
 else if x.op=13 then ([],[],[],true)
 else if x.op=14 then ([2],[],[],true)
 else if x.op=5∨x.op=6∨x.op=7 then ([1,1],[],[1],decide (x.n=0))
 else if x.op=8 then ([1],[],[1],decide (x.n=0))
 else if x.op=9∨x.op=10∨x.op=11 then ([1,1],[3,3],[2],decide (x.n=0))
 else if x.op=12 then ([2],[],[2],decide (x.n=0))
 else if x.op=15∨x.op=16∨x.op=17∨x.op=18 then ([3,1],[],[3],decide (x.n=0))
 else if x.op=19∨x.op=20 then ([3],[],[3],decide (x.n=0))
 else if x.op=21∨x.op=22 then ([3,3],[],[3],decide (x.n=0))
 else if x.op=23 then ([3,3],[],[1],decide (x.n=0))
 else if x.op=24 then ([],[],[],decide (x.n=0))
 else ([],[],[],false)
def ZwS (X:List Nat) (w:World) (x:Ins) (r:Value) (w':World):Prop:=∃ a b c,r=.tuple #[a,b,c,.B (ZF x).2.2.2]∧SlV X w' a (ZF x).1∧SlV X w' b (ZF x).2.1∧SlV X w' c (ZF x).2.2.1∧Stp [] w w'
theorem Z4k {X:List Nat} {w w':World} {x:Ins} {a b c:Value} {p ok:Bool} {ta al gi:List Int} (heq:ZF x=(ta,al,gi,ok)) (hp:p=ok) (ha:SlV X w' a ta) (hb:SlV X w' b al) (hc:SlV X w' c gi) (hS:Stp [] w w'):Ret (ZwS X w x) (.returned (.tuple #[a,b,c,.B p])) w':=by
 refine .mk ⟨a,b,c,?_,?_,?_,?_,hS⟩<;>rw [heq];rw [hp];exact ha;exact hb;exact hc
theorem ZdM (X:List Nat) (x:Ins) (w:World) (hX0:∀ b∈X,b<w.heap.size) (hop:opP x.op) :
 Calls Tryz.prog 297 #[agg x] w (Ret (ZwS X w x)):=by
 refine cW1 117 Tryz.func297 ?_;refine W ?_;refine Z1 (Zq rfl) rfl ?_;rintro _ w0 ⟨b,rfl,hb,hblk,hS⟩;replace hblk:Blk w0 b _ [.I x.op,.I x.n]:=hblk;have hX:∀ b∈X,b<w0.heap.size:=fun b hb=>Xa (hX0 b hb) hS.size;refine W ?_;by_cases h1:x.op=1
 · have heq:ZF x=([],[],[1],decide (-2147483647≤x.n∧x.n≤2147483647)):=by simp [ZF,h1]
   refine QO ?_;refine ZDr 13 [] [] [(1,0),(2,1),(3,0),(4,0),(5,0),(6,1),(7,0),(8,0),(9,0),(10,0),(0,2),(11,0),(12,0)] (fun w1 hS1=>?_);replace hblk:=hblk.up hS1;replace hS:=hS.trans hS1;replace hX:=fun b hb=>Xa (hX b hb) hS1.size
   (refine QE ?_ ?_<;>intro hg)
   all_goals
    refine Zc rfl trivial (Z0 (vs:=[(0,.I 1)]) rfl (Zt _)) (fun _ _ h=>Z6.stp h) rfl ?_;rintro g wq hN;have s_g:SlV X wq g [(1:Int)]:=hN.slv hX rfl rfl (by simp [maxLen]);have hT:=Z6.stp hN;clear hN;replace hblk:=hblk.up hT;replace hS:=hS.trans hT;clear hT;refine D ?_;refine W ?_;refine Z4j rfl rfl rfl rfl rfl ?_;refine Z4k heq ?_ (Zm _ _) (Zm _ _) (s_g) hS;first|rfl|(simp only [decide_eq_decide];omega)|(symm;simp only [decide_eq_true_eq,decide_eq_false_iff_not];omega)|(simp only [decide_eq_true_eq,decide_eq_false_iff_not];omega)
 by_cases h2:x.op=2
 · have heq:ZF x=([],[],[2],decide (x.n=0∨x.n=1)):=by simp [ZF,h2]
   refine QO ?_;refine ZDr 13 [] [] [(1,0),(2,1),(3,0),(4,0),(5,0),(6,1),(7,0),(8,0),(9,0),(10,0),(0,2),(11,0),(12,0)] (fun w1 hS1=>?_);replace hblk:=hblk.up hS1;replace hS:=hS.trans hS1;replace hX:=fun b hb=>Xa (hX b hb) hS1.size
   (refine QE ?_ ?_<;>intro hg)
   all_goals
    refine Zc rfl trivial (Z0 (vs:=[(0,.I 2)]) rfl (Zt _)) (fun _ _ h=>Z6.stp h) rfl ?_;rintro g wq hN;have s_g:SlV X wq g [(2:Int)]:=hN.slv hX rfl rfl (by simp [maxLen]);have hT:=Z6.stp hN;clear hN;replace hblk:=hblk.up hT;replace hS:=hS.trans hT;clear hT;refine D ?_;refine W ?_;refine Z4j rfl rfl rfl rfl rfl ?_;refine Z4k heq ?_ (Zm _ _) (Zm _ _) (s_g) hS;first|rfl|(simp only [decide_eq_decide];omega)|(symm;simp only [decide_eq_true_eq,decide_eq_false_iff_not];omega)|(simp only [decide_eq_true_eq,decide_eq_false_iff_not];omega)
 by_cases h4:x.op=4;by_cases h01:x.n=0∨x.n=1
 · have heq:ZF x=([],[],[3],decide (0≤x.n∧x.n<7)):=by simp [ZF,h4,h01]
   repeat'(first|refine W1 ?_|omega|refine VG ?_ ?_<;>intro hg|refine VC ?_ ?_<;>intro hc)
   all_goals
    refine ZDr 14 [] [] [(0,0),(2,0),(3,1),(4,0),(5,0),(6,0),(7,1),(8,0),(9,0),(10,0),(11,0),(1,2),(12,0),(13,0)] (fun w1 hS1=>?_);replace hblk:=hblk.up hS1;replace hS:=hS.trans hS1;replace hX:=fun b hb=>Xa (hX b hb) hS1.size;refine QD ?_
    all_goals
     refine Zc rfl trivial (Z0 (vs:=[(0,.I 3)]) rfl (Zt _)) (fun _ _ h=>Z6.stp h) rfl ?_;rintro g wq hN;have s_g:SlV X wq g [(3:Int)]:=hN.slv hX rfl rfl (by simp [maxLen]);have hT:=Z6.stp hN;clear hN;replace hblk:=hblk.up hT;replace hS:=hS.trans hT;clear hT;refine D ?_;refine W ?_;refine Z4j rfl rfl rfl rfl rfl ?_;refine Z4k heq ?_ (Zm _ _) (Zm _ _) (s_g) hS;first|rfl|(simp only [decide_eq_decide];omega)|(symm;simp only [decide_eq_true_eq,decide_eq_false_iff_not];omega)|(simp only [decide_eq_true_eq,decide_eq_false_iff_not];omega)
 · have heq:ZF x=([],[],[1],decide (0≤x.n∧x.n<7)):=by simp [ZF,h4,h01]
   refine QO ?_
   all_goals
    refine ZDr 14 [] [] [(0,0),(2,0),(3,1),(4,0),(5,0),(6,0),(7,1),(8,0),(9,0),(10,0),(11,0),(1,2),(12,0),(13,0)] (fun w1 hS1=>?_);replace hblk:=hblk.up hS1;replace hS:=hS.trans hS1;replace hX:=fun b hb=>Xa (hX b hb) hS1.size
    (refine QE ?_ ?_<;>intro hg)
    all_goals
     refine Zc rfl trivial (Z0 (vs:=[(0,.I 1)]) rfl (Zt _)) (fun _ _ h=>Z6.stp h) rfl ?_;rintro g wq hN;have s_g:SlV X wq g [(1:Int)]:=hN.slv hX rfl rfl (by simp [maxLen]);have hT:=Z6.stp hN;clear hN;replace hblk:=hblk.up hT;replace hS:=hS.trans hT;clear hT;refine D ?_;refine W ?_;refine Z4j rfl rfl rfl rfl rfl ?_;refine Z4k heq ?_ (Zm _ _) (Zm _ _) (s_g) hS;first|rfl|(simp only [decide_eq_decide];omega)|(symm;simp only [decide_eq_true_eq,decide_eq_false_iff_not];omega)|(simp only [decide_eq_true_eq,decide_eq_false_iff_not];omega)
 by_cases h15:x.op=15
 · have heq:ZF x=([3,1],[],[3],decide (x.n=0)):=by simp [ZF,h15]
   refine QO ?_
   all_goals
    refine Z1 (Z0 (vs:=[(0,.I 3),(1,.I 1)]) rfl (JX _ _)) rfl ?_;rintro t wq hN;have s_t:SlV X wq t [(3:Int),(1:Int)]:=hN.slv hX rfl rfl (by simp [maxLen]);have hT:=Z6.stp hN;clear hN;replace hblk:=hblk.up hT;replace hS:=hS.trans hT;replace hX:=fun b hb=>Xa (hX b hb) hT.size;clear hT;refine Z1 (Z0 (vs:=[(0,.I 3)]) rfl (Zt _)) rfl ?_;rintro g wq hN;have s_g:SlV X wq g [(3:Int)]:=hN.slv hX rfl rfl (by simp [maxLen]);have hT:=Z6.stp hN;clear hN;replace hblk:=hblk.up hT;replace hS:=hS.trans hT;replace hX:=fun b hb=>Xa (hX b hb) hT.size;replace s_t:=s_t.up hT;clear hT;refine W ?_;refine ZDr 10 [] [] [(0,0),(1,0),(2,0),(3,0),(4,1),(5,0),(6,0),(7,0),(8,0),(9,0)] (fun w1 hS1=>?_);replace hblk:=hblk.up hS1;replace hS:=hS.trans hS1;replace s_t:=s_t.up hS1;replace s_g:=s_g.up hS1;refine D ?_;refine W ?_;refine Z4j rfl rfl rfl rfl rfl ?_;refine Z4k heq ?_ (s_t) (Zm _ _) (s_g) hS;first|rfl|(simp only [decide_eq_decide];omega)|(symm;simp only [decide_eq_true_eq,decide_eq_false_iff_not];omega)|(simp only [decide_eq_true_eq,decide_eq_false_iff_not];omega)
 by_cases h24:x.op=24;have heq:ZF x=([],[],[],decide (x.n=0)):=by simp [ZF,h24]
 refine QO ?_;refine ZDr 10 [] [] [(0,0),(1,0),(2,0),(3,0),(4,1),(5,0),(6,0),(7,0),(8,0),(9,0)] (fun w1 hS1=>?_);replace hblk:=hblk.up hS1;replace hS:=hS.trans hS1;refine D ?_;refine W ?_;refine Z4j rfl rfl rfl rfl rfl ?_;refine Z4k heq ?_ (Zm _ _) (Zm _ _) (Zm _ _) hS;first|rfl|(simp only [decide_eq_decide];omega)|(symm;simp only [decide_eq_true_eq,decide_eq_false_iff_not];omega)|(simp only [decide_eq_true_eq,decide_eq_false_iff_not];omega)
 exfalso;unfold opP at hop;omega
abbrev Shp:=List Int
def Jg (x:Ins) (s:Shp):Option Shp:=
 let e:=ZF x
 let k:=s.length - e.1.length
 if e.2.2.2=true∧e.1.length≤s.length∧(s.drop k=e.1∨e.2.1≠[]∧s.drop k=e.2.1)∧(s.take k++e.2.2.1).length≤16 then some (s.take k++e.2.2.1) else none
def JD (st:List (Option Shp)) (t:Int) (sh:Shp):Option (List (Option Shp)):=
 if 0≤t∧t<st.length then
  match st.getD t.toNat none with
  | some s=>if s=sh then some st else none
  | none=>some (st.set t.toNat (some sh))
 else none
def JJ (st:List (Option Shp)) (i:Nat) (x:Ins):Option (List (Option Shp)):=
 match st.getD i none with
 | none=>none
 | some s=>
   match Jg x s with
   | none=>none
   | some nx=>
     if x.op=24 then (if i+1=st.length∧s.length=1 then some st else none)
     else if x.op=13 then (if x.n > i then JD st x.n nx else none)
     else if x.op=14 then (if x.n > i then (JD st x.n nx).bind (fun st'=>JD st' ((i:Int)+1) nx) else none)
     else JD st ((i:Int)+1) nx
def Z3m (code:List Ins):Nat→List (Option Shp)→Option (List (Option Shp))
 | 0,st=>some st
 | k+1,st=>(Z3m code k st).bind (fun st'=>JJ st' k (code.getD k ⟨0,0⟩))
def Z1W (code:List Ins):Int×Int:=
 if code.length=0∨code.length > 200 then (0,22) else
  match Z3m code code.length ((some []) :: List.replicate (code.length - 1) none) with
  | none=>(0,22)
  | some st=>(((st.getD (code.length - 1) none).getD []).headD 0,0)
theorem Jv {st st':List (Option Shp)} {t:Int} {sh:Shp} (h:JD st t sh=some st'):st'.length=st.length:=by
 unfold JD at h;split at h;split at h;split at h;cases h;rfl;cases h;cases h;simp;cases h
end Go.Proofs.YtipfkbkkndacjaaGreatDoor
namespace Go.Eng
open Go Go.RowKit Go.Proofs
theorem Row.slvX {α:Type} [Z7 α] {X:List Nat} {w} {base T:Nat} {v:Value} {xs:List α} (h:Row X w base T v xs) (hX:∀ b∈X,b∉ob v):SlV X w v xs:=by
 obtain ⟨css,hl,hr,ho⟩:=h;have hk:∀ c∈css,c.length=Z7.k α:=by
  intro c hc;obtain ⟨i,hi,rfl⟩:=Xr hc;exact Z7.len (hr i (by omega) hi)
 rcases ho.2 with ⟨rfl,hn⟩|⟨q,cap,cur,rfl,hb,hg,hnc,hcm,hcs,ht⟩
 exact ⟨none,0,by rw [hn],by omega,by simp [maxLen],fun _=>rfl,fun i hi=>by omega⟩;refine ⟨some ⟨q,0,none⟩,cap,rfl,hnc,hcm,fun h=>by simp at h,fun i hi=>?_⟩;refine ⟨q,0,css[i]'(by omega),rfl,(Xk.1 hg).1,fun hx=>hX q hx (by simp [ob]),?_,fun j u hu=>?_⟩;exact Z7.ext (hr i hi (by omega)) (Stp.refl [] w) (by simp) (fun b hb=>.inl (by simp [hb]));have h1:=Z0q css hk i (by omega) j u hu;rw [← ht,Yae] at h1;split at h1;have h2:cur[i * Z7.k α+j]?=some u:=by simpa using h1
 rw [XJ,cell_of_row w q _ cur T (0,0) hg];exact h2;cases h1
end Go.Eng
namespace Go.Proofs.YtipfkbkkndacjaaGreatDoor
open Go Go.Eng Go.RowKit
abbrev Z0T (st:List (Option Shp)):List (Sl Int):=st.map (fun o=>⟨o.getD []⟩)
abbrev JT (st:List (Option Shp)):List Bool:=st.map Option.isSome
structure Vf (w:World) (bv base:Nat) (cv hv sv:Value) (code:List Ins) (st:List (Option Shp)):Prop where
 blk:Blk w bv 318 [cv,hv,sv]
 cod:SlV (bv :: (ob hv++ob sv)) w cv code
 shp:Row (bv :: ob sv) w base 23 hv (Z0T st)
 seen:Row [] w base 4 sv (JT st)
 nh:bv∉ob hv
 ns:bv∉ob sv
 hi:base≤w.heap.size
 apart:∀ b∈ob hv,b∉ob sv
 len:st.length=code.length
theorem Vf.up {w w':World} {bv base:Nat} {cv hv sv:Value} {code:List Ins} {st:List (Option Shp)} (h:Vf w bv base cv hv sv code st) (hS:Stp [] w w'):Vf w' bv base cv hv sv code st:=
 ⟨h.blk.up hS,h.cod.up hS,h.shp.up hS,h.seen.up hS,h.nh,h.ns,Xg h.hi hS.size,h.apart,h.len⟩
theorem Z4l (bv base:Nat) (cv hv sv uv:Value) (code:List Ins) (st:List (Option Shp)) (t:Int) (s:Shp) (w) (h:Vf w bv base cv hv sv code st) (ht:0≤t) (hs:SlV (bv :: (ob hv++ob sv)) w uv s) :
 CC 300 #[pQ bv,.I t,uv] w fun r w'=>Stp (bv :: (ob hv++ob sv)) w w'∧r=.B (JD st t s).isSome∧∀ st',JD st t s=some st'→Vf w' bv base cv hv sv code st':=by
 have hblk:=h.blk;have hcode:=h.cod;have hmax:=hcode.max;have hlen:=h.len;have hbh:=h.nh;have hbs:=h.ns;have hshp:=h.shp.slvX (fun b hb=>by
  rcases Xb.1 hb with rfl|hb
  exact hbh;exact fun hb'=>h.apart b hb' hb)
 have hseen:=h.seen.slv0;have hl1:(Z0T st).length=st.length:=by simp [Z0T]
 have hl2:(JT st).length=st.length:=by simp [JT]
 refine cW3 45 Tryz.func300 ?_;refine W ?_;by_cases hlt:t<code.length
 case neg=>
  have hr:JD st t s=none:=by rw [JD,if_neg (by omega)]
  refine RT ?_;exact ⟨Stp.refl _ _,by rw [hr];rfl,fun st' h=>by rw [hr] at h;cases h⟩
 obtain ⟨k,rfl⟩:∃ k:Nat,t=(k:Int):=⟨t.toNat,by omega⟩
 have hk:k<st.length:=by omega
 have hk1:k<(Z0T st).length:=by omega
 have hk2:k<(JT st).length:=by omega
 have hsk:(JT st)[k]=(st[k]).isSome:=by simp [JT]
 have hgd:st.getD ((k:Int)).toNat none=st[k]:=by simp [List.getD,hk]
 cases hst:st[k] with
 | some s0=>
   have hb1:(JT st)[k]=true:=by rw [hsk,hst];rfl
   have hrM:JD st (k:Int) s=if s0=s then some st else none:=by
    rw [JD,if_pos (by omega),hgd,hst]
   (refine QP ?_ ?_<;>intro hc)
   obtain ⟨u,hcell,hsu⟩:=hshp.sub hk1;have hu0:(Z0T st)[k].l=s0:=by simp [Z0T,hst]
   apply Z4 (Jw rfl rfl hcell) rfl;refine W ?_;refine CM (Zh rfl rfl) (Z50 _ _ _ _ _ (hsu.wk (by simp)) (hs.wk (by simp))) ?_;rintro _ w2 ⟨rfl,hS⟩;refine W ?_;refine WR ?_;rw [hu0];refine .mk ⟨hS.mn,?_,fun st' h'=>?_⟩;rw [hrM];by_cases he:s0=s<;>simp [he];rw [hrM] at h';split at h';cases h';exact h.up hS;cases h';rw [hb1] at hc;exact absurd hc (by simp)
 | none=>
   have hb1:(JT st)[k]=false:=by rw [hsk,hst];rfl
   have hrM:JD st (k:Int) s=some (st.set k (some s)):=by
    rw [JD,if_pos (by omega),hgd,hst];simp
   (refine QP ?_ ?_<;>intro hc)
   rw [hb1] at hc;exact absurd hc (by simp);refine Z7n 15 (ob hv++ob sv) [] [(0,0),(1,0),(2,0),(3,1),(4,0),(5,0),(6,0),(7,0),(8,1),(9,0),(10,0),(11,0),(12,2),(13,0),(14,2)] rfl mixed (by kernel_rfl) (by kernel_rfl) (by kernel_rfl) (fun w1 hS1=>?_);have nb:bv∉ob hv++ob sv:=fun hb=>(Xh.1 hb).elim hbh hbs;replace hblk:=hblk.up hS1;have hseen1:=hseen.up hS1;have hshp1:=hshp.up hS1;have rs:=h.seen.up hS1;have rh:=h.shp.up hS1;refine D ?_
   try (refine J3 rfl trivial (fun w' hS'=>JN rfl rfl (hblk.ext hS' nb) rfl) rfl ?_)
   refine D ?_
   try (refine J3 rfl trivial (fun w' hS'=>JN rfl rfl (hblk.ext hS' nb) rfl) rfl ?_)
   refine D ?_;refine ZH rfl trivial (Z3H (α:=Bool) (y':=true) (u:=.B true) rfl rfl rfl rfl rs hk2) (fun _ _ h=>h.2.mono (by simp_all)) ?_;rintro _ w3 ⟨rs3,hS3⟩;replace rh:=rh.ext (X':=bv :: ob sv) hS3 (fun b hb=>⟨XE _ hb,fun hb'=>h.apart b hb' hb⟩) (fun _ h=>.inl h);have hshp3:=rh.slvX (fun b hb=>by
    rcases Xb.1 hb with rfl|hb
    exact hbh;exact fun hb'=>h.apart b hb' hb)
   have hS13:Stp (bv :: (ob hv++ob sv)) w w3:=hS1.mn.trans (hS3.mono (fun b hb=>by simp [hb]));have hs3:=hs.ext hS13 (fun _ h=>h) (fun _ h=>.inl h);refine D ?_;refine ZH rfl trivial (Z3H (α:=Sl Int) (y':=⟨s⟩) (u:=uv) rfl rfl rfl ⟨uv,hs3.cells,hs3.wk (fun b hb=>by simp at hb;rcases hb with h|h|h<;>simp [h])⟩ rh hk1) (fun _ _ h=>h.2.mono (by simp_all)) ?_;rintro _ w4 ⟨rh4,hS4⟩;refine D ?_;refine W ?_;refine WR ?_;have hS14:Stp (bv :: (ob hv++ob sv)) w w4:=hS13.trans (hS4.mono (fun b hb=>by simp [hb]));refine .mk ⟨hS14,by rw [hrM];rfl,fun st' h'=>?_⟩;rw [hrM] at h';cases h';have rs4:=rs3.keep hS4 (fun b hb=>h.apart b hb);refine ⟨(hblk.ext hS3 hbs).ext hS4 hbh,h.cod.ext hS14 (fun _ h=>h) (fun _ h=>.inl h),?_,?_,hbh,hbs,Xg h.hi hS14.size,h.apart,by simpa using h.len⟩;have e:Z0T (st.set k (some s))=(Z0T st).set k ⟨s⟩:=by simp [Z0T,List.map_set]
   rw [e];exact rh4;have e:JT (st.set k (some s))=(JT st).set k true:=by simp [JT,List.map_set]
   rw [e];exact rs4
def okS (s:Shp):Prop:=∀ k∈s,k=1∨k=2∨k=3
theorem ZjG {s:Shp} (h:okS s) (k:Nat):okS (s.take k):=fun a ha=>h a (Yaq ha)
theorem Zn2 {s t:Shp} (h:okS s) (h':okS t):okS (s++t):=fun a ha=>(Xh.1 ha).elim (h a) (h' a)
theorem ZjH {op n:Int} (h:¬ (1≤op∧op≤24)):ZF ⟨op,n⟩=([],[],[],false):=by
 have h1:∀ k:Int,1≤k→k≤24→¬ op=k:=fun k h1 h2 e=>h (by omega)
 simp only [ZF];rw [if_neg (h1 1 (by decide) (by decide))];rw [if_neg (h1 2 (by decide) (by decide))];rw [if_neg (h1 3 (by decide) (by decide))];rw [if_neg (h1 4 (by decide) (by decide))];rw [if_neg (h1 13 (by decide) (by decide))];rw [if_neg (h1 14 (by decide) (by decide))];rw [if_neg (not_or.2 ⟨h1 5 (by decide) (by decide),(not_or.2 ⟨h1 6 (by decide) (by decide),(h1 7 (by decide) (by decide))⟩)⟩)];rw [if_neg (h1 8 (by decide) (by decide))];rw [if_neg (not_or.2 ⟨h1 9 (by decide) (by decide),(not_or.2 ⟨h1 10 (by decide) (by decide),(h1 11 (by decide) (by decide))⟩)⟩)];rw [if_neg (h1 12 (by decide) (by decide))];rw [if_neg (not_or.2 ⟨h1 15 (by decide) (by decide),(not_or.2 ⟨h1 16 (by decide) (by decide),(not_or.2 ⟨h1 17 (by decide) (by decide),(h1 18 (by decide) (by decide))⟩)⟩)⟩)];rw [if_neg (not_or.2 ⟨h1 19 (by decide) (by decide),(h1 20 (by decide) (by decide))⟩)];rw [if_neg (not_or.2 ⟨h1 21 (by decide) (by decide),(h1 22 (by decide) (by decide))⟩)];rw [if_neg (h1 23 (by decide) (by decide))];rw [if_neg (h1 24 (by decide) (by decide))]
def Zc0 (st:List (Option Shp)):Prop:=∀ s,some s∈st→okS s
theorem Zg5 (x:Ins):okS (ZF x).2.2.1:=by
 obtain ⟨op,n⟩:=x;by_cases hr:1≤op∧op≤24;have hn:op=1∨op=2∨op=3∨op=4∨op=5∨op=6∨op=7∨op=8∨op=9∨op=10∨op=11∨op=12∨op=13∨op=14∨op=15∨op=16∨op=17∨op=18∨op=19∨op=20∨op=21∨op=22∨op=23∨op=24:=by omega
 rcases hn with rfl|rfl|rfl|rfl|rfl|rfl|rfl|rfl|rfl|rfl|rfl|rfl|rfl|rfl|rfl|rfl|rfl|rfl|rfl|rfl|rfl|rfl|rfl|rfl
 intro k hk;simp [ZF] at hk;omega;intro k hk;simp [ZF] at hk;omega;intro k hk;simp [ZF] at hk;omega;show okS [if n=0∨n=1 then 3 else 1];intro k hk;simp at hk;subst hk;split<;>simp;intro k hk;simp [ZF] at hk;omega;intro k hk;simp [ZF] at hk;omega;intro k hk;simp [ZF] at hk;omega;intro k hk;simp [ZF] at hk;omega;intro k hk;simp [ZF] at hk;omega;intro k hk;simp [ZF] at hk;omega;intro k hk;simp [ZF] at hk;omega;intro k hk;simp [ZF] at hk;omega;intro k hk;simp [ZF] at hk;intro k hk;simp [ZF] at hk;intro k hk;simp [ZF] at hk;omega;intro k hk;simp [ZF] at hk;omega;intro k hk;simp [ZF] at hk;omega;intro k hk;simp [ZF] at hk;omega;intro k hk;simp [ZF] at hk;omega;intro k hk;simp [ZF] at hk;omega;intro k hk;simp [ZF] at hk;omega;intro k hk;simp [ZF] at hk;omega;intro k hk;simp [ZF] at hk;omega;intro k hk;simp [ZF] at hk;rw [ZjH hr];intro k hk;simp at hk
theorem Zn3 {x:Ins} {s nx:Shp} (hs:okS s) (h:Jg x s=some nx):okS nx:=by
 unfold Jg at h;dsimp only at h;split at h;cases h;exact Zn2 (ZjG hs _) (Zg5 x);cases h
theorem Z5q {st st':List (Option Shp)} {t:Int} {nx:Shp} (hst:Zc0 st) (hn:okS nx) (h:JD st t nx=some st'):Zc0 st':=by
 unfold JD at h;split at h;split at h;split at h;cases h;exact hst;cases h;cases h;intro s hs;rcases List.mem_or_eq_of_mem_set hs with h|h
 exact hst s h;cases h;exact hn;cases h
theorem Zn4 {st st':List (Option Shp)} {i:Nat} {x:Ins} (hst:Zc0 st) (h:JJ st i x=some st'):Zc0 st'∧st'.length=st.length:=by
 unfold JJ at h;split at h;cases h;rename_i s hs;have hs0:okS s:=by
  refine hst s ?_;have hi:i<st.length:=Nat.lt_of_not_le fun hle=>by simp [List.getD,Nat.not_lt.2 hle] at hs
  have:st.getD i none=st[i]:=by simp [List.getD,hi]
  rw [← hs,this];exact Xd hi
 split at h;cases h;rename_i nx hn;have hnx:=Zn3 hs0 hn;split at h;split at h;cases h;exact ⟨hst,rfl⟩;cases h;split at h;split at h;exact ⟨Z5q hst hnx h,Jv h⟩;cases h;split at h;split at h;obtain ⟨s1,h1,h2⟩:=XV.1 h;exact ⟨Z5q (Z5q hst hnx h1) hnx h2,by rw [Jv h2,Jv h1]⟩;cases h;exact ⟨Z5q hst hnx h,Jv h⟩
theorem Z51 {st:List (Option Shp)} {t:Int} {nx:Shp} (h:¬ t<st.length):JD st t nx=none:=if_neg (fun h'=>h h'.2)
theorem ZjI {code:List Ins} {st0:List (Option Shp)} (h0:Zc0 st0):∀ k st,Z3m code k st0=some st→Zc0 st∧st.length=st0.length
 | 0,st,h=>by cases h;exact ⟨h0,rfl⟩
 | k + 1, st, h => by
   obtain ⟨s1,h1,h2⟩:=XV.1 h;obtain ⟨a,b⟩:=ZjI h0 k s1 h1;obtain ⟨c,d⟩:=Zn4 a h2;exact ⟨c,by omega⟩
theorem ZjJ (p q:Option Addr) (l m c d:Nat) (w):(Instr.buildSlice 312 2 #[(0,.slice p l c),(1,.slice q m d)]).run Tryz.prog w=.ok (.slice (some ⟨w.heap.size,0,none⟩) 2 2) (w.alloc (.cells #[.slice p l c,.slice q m d] 23)):=by kernel_rfl
theorem Vf.shps {w} {bv base:Nat} {cv hv sv:Value} {code:List Ins} {st:List (Option Shp)} (h:Vf w bv base cv hv sv code st):SlV (bv :: ob sv) w hv (Z0T st):=
 h.shp.slvX (fun b hb=>by
  rcases Xb.1 hb with rfl|hb
  exact h.nh;exact fun hb'=>h.apart b hb' hb)
theorem Vf.bounds {w} {bv base:Nat} {cv hv sv:Value} {code:List Ins} {st:List (Option Shp)} (h:Vf w bv base cv hv sv code st):∀ b∈bv :: (ob hv++ob sv),b<w.heap.size:=fun b hb=>by
 have:=h.blk.lt;simp only [Xb,Xh] at hb;rcases hb with rfl|hb|hb
 omega;exact (h.shp.ob_le b hb).2;exact (h.seen.ob_le b hb).2
theorem Zn5 (x:Ins):(ZF x).1.length≤2∧(ZF x).2.1.length≤2∧(ZF x).2.2.1.length≤1:=by
 obtain ⟨op,n⟩:=x;by_cases hr:1≤op∧op≤24;have hn:op=1∨op=2∨op=3∨op=4∨op=5∨op=6∨op=7∨op=8∨op=9∨op=10∨op=11∨op=12∨op=13∨op=14∨op=15∨op=16∨op=17∨op=18∨op=19∨op=20∨op=21∨op=22∨op=23∨op=24:=by omega
 rcases hn with rfl|rfl|rfl|rfl|rfl|rfl|rfl|rfl|rfl|rfl|rfl|rfl|rfl|rfl|rfl|rfl|rfl|rfl|rfl|rfl|rfl|rfl|rfl|rfl<;>simp [ZF]
 rw [ZjH hr];simp
theorem ZjK (bv base:Nat) (cv hv sv:Value) (code:List Ins) (st:List (Option Shp)) (i:Nat) (w) (h:Vf w bv base cv hv sv code st) (hi:i<code.length) (hn:code.length≤1000) (h16:∀ s,some s∈st→s.length≤16) (hop:opP code[i].op) :
 CC 250 #[pQ bv,.I (i:Int)] w fun r w'=>Stp (bv :: (ob hv++ob sv)) w w'∧r=.B (JJ st i code[i]).isSome∧∀ st',JJ st i code[i]=some st'→Vf w' bv base cv hv sv code st':=by
 have hlen:=h.len;have hk1:i<(Z0T st).length:=by simp [Z0T];omega
 have hk2:i<(JT st).length:=by simp [JT];omega
 have hist:i<st.length:=by omega
 refine cW2 140 Tryz.func250 ?_;refine W ?_;refine ZfP 17 ([w.heap.size]) [] [(0,0),(1,0),(2,0),(3,1),(4,0),(5,0),(6,1),(7,0),(8,0),(9,0),(10,1),(11,0),(12,0),(13,1),(14,2),(15,2),(16,0)] rfl mixed (by kernel_rfl) (by kernel_rfl) (by kernel_rfl) (fun w1 hS1 hz1=>?_);replace h:=h.up hS1;have hbd:=h.bounds;have hX:∀ b∈bv :: (ob hv++ob sv),b∉[w.heap.size]:=fun b hb hb'=>by
  have:=hbd b hb;simp at hb';omega
 obtain ⟨cbl,hcd,hsp⟩:Blk w1 bv 318 [cv,hv,sv]∧SlV [w.heap.size] w1 cv code∧SlV [w.heap.size] w1 hv (Z0T st):=⟨h.blk,h.cod.ext (Stp.refl [] _) (by simp) (fun b hb=>.inr (by simp at hb;omega)),h.shps.ext (Stp.refl [] _) (by simp) (fun b hb=>.inr (by simp at hb;omega))⟩
 have nb:bv∉[w.heap.size]:=hX bv (by simp);obtain ⟨u,hcell,hsu⟩:=hsp.sub hk1;refine D ?_;refine J3 rfl trivial (fun w' hS'=>Jw rfl rfl (Z2d hsp hk1 hS' hcell)) rfl ?_;refine D ?_;refine Zc rfl trivial ZfQ (fun _ _ h=>h.2.2.mn) rfl ?_;rintro _ w2 ⟨rfl,hblk,hS2⟩;rw [hz1] at hblk ⊢;refine ZH rfl trivial (Z9 (us:=Z3.enc code[i]) rfl rfl rfl rfl (Z3.one _) hblk rfl) (fun _ _ h=>h.1) ?_;rintro _ w3 ⟨hS3,hblk3⟩;have hS13:Stp [] w1 w3:=hS2.ow hS3;replace h:=h.up hS13;replace hS:=hS1.trans hS13;replace hcd:=h.cod;replace cbl:=h.blk;replace hsp:=h.shps;have hsn:=h.seen.slv0;replace hbd:=h.bounds;have hsu3:SlV [w.heap.size] w3 u (Z0T st)[i].l:=hsu.ext (hS2.mn.trans hS3) (by simp) (fun _ h=>.inl h);clear hblk hS1 hS13 hS2 hS3 hsu hcell;refine D ?_;refine W ?_;refine CM (ZX rfl) (ZdM (w.heap.size :: bv :: (ob hv++ob sv)) code[i] _ (fun b hb=>by rcases Xb.1 hb with rfl|hb;exact hblk3.lt;exact hbd b hb) hop) ?_;rintro _ w4 ⟨va,vb,vc,rfl,sa,sb,sc,hS4⟩;have hs4:=hsu3.up hS4;replace hblk3:=hblk3.up hS4;replace h:=h.up hS4;replace hsn:=hsn.up hS4;replace hS:=hS.trans hS4;replace cbl:=cbl.up hS4;clear hS4 hsu3;have hM:JJ st i code[i]=JJ st i code[i]:=rfl
 conv at hM=>rhs;unfold JJ Jg
 have hgd:st.getD i none=st[i]:=by simp [List.getD,hist]
 have hsh:(Z0T st)[i].l=(st[i]).getD []:=by simp [Z0T]
 have hsk:(JT st)[i]=(st[i]).isSome:=by simp [JT]
 rw [hgd] at hM;have hlen16:(Z0T st)[i].l.length≤16:=by
  rw [hsh];cases hst:st[i] with
  | none=>simp
  | some s=>exact h16 s (by rw [← hst];exact Xd hist)
 obtain ⟨el1,el2,el3⟩:=Zn5 code[i];generalize ZF code[i]=E at *;obtain ⟨ta,al,gi,ok⟩:=E;dsimp only at sa sb sc el1 el2 el3 hM;generalize hsv:(Z0T st)[i].l=s at *;refine W ?_
 refine Z5k (σ:=Bool) (fun q=>[(0,pQ bv),(1,.I (i:Int)),(4,.B false),(5,.pointer (some ⟨w.heap.size,0,none⟩)),(6,u),(9,vc),(11,.I ((s.length:Int) - (ta.length:Int))),(75,.B q)])
  (fun q w'=>Stp [] w4 w'∧q=! (decide (st[i].isSome=true∧ok=true∧ta.length≤s.length∧(s.drop (s.length - ta.length)=ta∨al≠[]∧s.drop (s.length - ta.length)=al)))) ?_ ?_
 · cases ok with
   | false=>
     refine QO ?_;exact QT true ⟨Stp.refl _ _,by simp⟩
   | true=>
     cases hst:st[i].isSome with
     | false=>
       rw [hst] at hsk;repeat'(first|refine W1 ?_|omega|refine VG ?_ ?_<;>intro hg|refine VC ?_ ?_<;>intro hc)
       exact QT true ⟨Stp.refl _ _,by simp⟩;exact QT true ⟨Stp.refl _ _,by simp⟩;exact absurd (show (!(JT st)[i])=false by assumption) (by rw [hsk];decide)
     | true=>
       rw [hst] at hsk;by_cases hk:ta.length≤s.length
       case neg=>
        (refine QP ?_ ?_<;>intro hg)
        exact absurd (show (!(JT st)[i])=true by assumption) (by rw [hsk];decide);exact QT true ⟨Stp.refl _ _,by simp [hk]⟩
       have hkk:(s.length:Int) - (ta.length:Int)=((s.length - ta.length:Nat):Int):=by omega
       have sd:SlV [w.heap.size] w4 (slc u (s.length - ta.length) s.length 1) (s.drop (s.length - ta.length)):=by
        have:=hs4.slc (l:=s.length - ta.length) (r:=s.length) (by omega) (by omega);rw [Xo] at this;exact this
       (refine QP ?_ ?_<;>intro hg)
       exact absurd (show (!(JT st)[i])=true by assumption) (by rw [hsk];decide);refine Z4P rfl hs4 rfl hkk (by omega) rfl ?_;refine W ?_;refine CM (Zh rfl rfl) (Z50 _ _ _ _ _ (sd.wk (by simp)) (sa.wk (by simp))) ?_;rintro _ w5 ⟨rfl,hS5⟩;replace sb:=sb.up hS5;replace hs4:=hs4.up hS5;replace sd:=sd.up hS5;repeat'(first|refine W1 ?_|omega|refine VG ?_ ?_<;>intro hg|refine VC ?_ ?_<;>intro hc)
       have h1:¬ s.drop (s.length - ta.length)=ta:=by assumption
       have h2:(al.length:Int)=0:=by assumption
       have h3:al=[]:=Xv.1 (by omega);exact QT true ⟨hS5,by simp [h1,h3]⟩;have h1:¬ s.drop (s.length - ta.length)=ta:=by assumption
       have h2:¬ (al.length:Int)=0:=by assumption
       have h3:al≠[]:=fun h=>h2 (by simp [h])
       refine Z4P rfl hs4 rfl hkk (by omega) rfl ?_;refine W ?_;refine CM (Zh rfl rfl) (Z50 _ _ _ _ _ (sd.wk (by simp)) (sb.wk (by simp))) ?_;rintro _ w6 ⟨rfl,hS6⟩;refine W ?_;refine QT _ ⟨hS5.trans hS6,?_⟩;by_cases h4:s.drop (s.length - ta.length)=al<;>simp [h1,h3,h4,hk];have h1:s.drop (s.length - ta.length)=ta:=Classical.not_not.1 (by assumption);exact QT false ⟨hS5,by simp [h1,hk]⟩
 rintro q w5 ⟨hS5,hq⟩
 try dsimp only at hq ⊢
 replace hs4:=hs4.up hS5;replace sc:=sc.up hS5;replace hblk3:=hblk3.up hS5;replace h:=h.up hS5;replace cbl:=cbl.up hS5;replace hS:=hS.trans hS5;clear hS5;by_cases hC:st[i].isSome=true∧ok=true∧ta.length≤s.length∧(s.drop (s.length - ta.length)=ta∨al≠[]∧s.drop (s.length - ta.length)=al)
 case neg=>
  obtain rfl:q=true:=by rw [hq,decide_eq_false hC];rfl
  have hnone:JJ st i code[i]=none:=by
   rw [hM];cases hst:st[i] with
   | none=>rfl
   | some s0=>
     obtain rfl:s=s0:=by rw [hsh,hst];rfl
     dsimp only;rw [if_neg (fun h=>hC ⟨by rw [hst];rfl,h.1,h.2.1,h.2.2.1⟩)]
  refine RT ?_;exact ⟨hS.mn,by rw [hnone];rfl,fun st' h=>by rw [hnone] at h;cases h⟩
 obtain rfl:q=false:=by rw [hq,decide_eq_true hC];rfl
 obtain ⟨hst',hok,hk,hC4⟩:=hC;have hst:st[i]=some s:=by
  cases hst:st[i] with
  | none=>rw [hst] at hst';cases hst'
  | some s0=>rw [hsh,hst];rfl
 rw [hst] at hM;dsimp only at hM;have hkk:(s.length:Int) - (ta.length:Int)=((s.length - ta.length:Nat):Int):=by omega
 have sk:SlV [w.heap.size] w5 (slc u 0 (s.length - ta.length) 1) (s.take (s.length - ta.length)):=by
  have:=hs4.slc (l:=0) (r:=s.length - ta.length) (by omega) (by omega);rw [Ybm] at this;exact this
 obtain ⟨p2,c2,hp2⟩:=sk.len;obtain ⟨p3,c3,rfl⟩:=sc.len;refine W ?_;refine Zdb rfl hs4 rfl hkk (by omega) rfl ?_;rw [hp2] at sk ⊢;refine W ?_;refine Z1 (Z0 (vs:=[(0,.slice p2 (s.take (s.length - ta.length)).length c2),(1,.slice p3 gi.length c3)]) rfl (ZjJ _ _ _ _ _ _)) rfl ?_;rintro bl w6 hN;have sbl:SlV [] w6 bl [(⟨s.take (s.length - ta.length)⟩:Sl Int),⟨gi⟩]:=hN.slvS (X:=[]) (by simp) rfl rfl (fun i hi hi'=>match i,hi with|0,_=>sk.wk (by simp)|1,_=>sc.wk (by simp)) (by simp [maxLen]);have hT:=Z6.stp hN;clear hN;replace hs4:=hs4.up hT;replace hblk3:=hblk3.up hT;replace h:=h.up hT;replace cbl:=cbl.up hT;replace hS:=hS.trans hT;clear hT;refine CM (ZX rfl) (ZbZ _ _ _ sbl (by simp) (by simp;omega)) ?_;rintro rv w7 hrow;have hcat:[(⟨s.take (s.length - ta.length)⟩:Sl Int),⟨gi⟩].flatMap Sl.l=s.take (s.length - ta.length)++gi:=by simp
 rw [hcat] at hrow;have hS7:=hrow.2;have sr:=hrow.slv h.bounds;replace hs4:=hs4.up hS7;replace hblk3:=hblk3.up hS7;replace h:=h.up hS7;replace cbl:=cbl.up hS7;replace hS:=hS.trans hS7;clear hS7 hrow;by_cases h16n:(s.take (s.length - ta.length)++gi).length≤16
 case neg=>
  have hnone:JJ st i code[i]=none:=by
   rw [hM,if_neg (fun h=>h16n h.2.2.2)]
  refine RT ?_;exact ⟨hS.mn,by rw [hnone];rfl,fun st' h=>by rw [hnone] at h;cases h⟩
 rw [if_pos ⟨hok,hk,hC4,h16n⟩] at hM;dsimp only at hM;generalize s.take (s.length - ta.length)++gi=nx at *;have hcod:=h.cod;by_cases h24:code[i].op=24;rw [if_pos h24] at hM
 (refine QP ?_ ?_<;>intro hg)
 refine WR ?_;by_cases hl1:s.length=1;have hn:JJ st i code[i]=some st:=by rw [hM,if_pos ⟨by omega,hl1⟩]
 exact .mk ⟨hS.mn,by rw [hn];congr 1;exact decide_eq_true (by omega),fun st' h'=>by rw [hn] at h';cases h';exact h⟩;have hn:JJ st i code[i]=none:=by rw [hM,if_neg (fun h=>hl1 h.2)]
 exact .mk ⟨hS.mn,by rw [hn];congr 1;exact decide_eq_false (by omega),fun st' h'=>by rw [hn] at h';cases h'⟩;refine WR ?_;have hn:JJ st i code[i]=none:=by rw [hM,if_neg (fun h=>by omega)]
 exact .mk ⟨hS.mn,by rw [hn];rfl,fun st' h=>by rw [hn] at h;cases h⟩;rw [if_neg h24] at hM;by_cases h13:code[i].op=13;rw [if_pos h13] at hM;by_cases hgt:code[i].n > (i:Int);rw [if_pos hgt] at hM;refine QO ?_;refine CM (Js rfl rfl rfl) (Z4l bv base cv hv sv _ code st code[i].n nx _ h (by omega) sr) ?_;rintro _ w8 ⟨hS8,rfl,hV⟩;refine W ?_;refine WR ?_;rw [← hM] at hV;exact .mk ⟨hS.mn.trans hS8,by rw [hM],hV⟩;rw [if_neg hgt] at hM;refine RT ?_;exact ⟨hS.mn,by rw [hM];rfl,fun st' h=>by rw [hM] at h;cases h⟩;rw [if_neg h13] at hM;by_cases h14:code[i].op=14;rw [if_pos h14] at hM;by_cases hgt:code[i].n > (i:Int)
 · rw [if_pos hgt] at hM
   refine QO ?_;refine CM (Js rfl rfl rfl) (Z4l bv base cv hv sv _ code st code[i].n nx _ h (by omega) sr) ?_;rintro _ w8 ⟨hS8,rfl,hV⟩;have sr8:=sr.ext (X':=bv :: (ob hv++ob sv)) hS8 (fun _ h=>h) (fun _ h=>.inl h);cases hr:JD st code[i].n nx with
   | none=>
     rw [hr] at hM;refine RT ?_;exact ⟨hS.mn.trans hS8,by rw [hM];rfl,fun st' h=>by rw [hM] at h;cases h⟩
   | some st1=>
     rw [hr] at hM;have h8:=hV st1 hr;refine W ?_;refine CM (Js rfl rfl rfl) (Z4l bv base cv hv sv _ code st1 ((i:Int)+1) nx _ h8 (by omega) sr8) ?_;rintro _ w9 ⟨hS9,rfl,hV9⟩;refine RT ?_;exact ⟨(hS.mn.trans hS8).trans hS9,by rw [hM];rfl,fun st' h=>hV9 st' (by rw [hM] at h;exact h)⟩
 rw [if_neg hgt] at hM;refine RT ?_;exact ⟨hS.mn,by rw [hM];rfl,fun st' h=>by rw [hM] at h;cases h⟩;rw [if_neg h14] at hM;refine QO ?_;refine CM (Js rfl rfl rfl) (Z4l bv base cv hv sv _ code st ((i:Int)+1) nx _ h (by omega) sr) ?_;rintro _ w8 ⟨hS8,rfl,hV⟩;refine W ?_;refine WR ?_;rw [← hM] at hV;exact .mk ⟨hS.mn.trans hS8,by rw [hM],hV⟩
theorem ZeL (p q r:Option Addr) (l m k c d f:Nat) (w):(Instr.build 318 #[(0,.slice p l c),(1,.slice q m d),(2,.slice r k f)]).run Tryz.prog w=.ok (.agg #[.slice p l c,.slice q m d,.slice r k f]) w:=by kernel_rfl
theorem ZjL {st st':List (Option Shp)} {i:Nat} {x:Ins} (h0:∀ s,some s∈st→s.length≤16) (h:JJ st i x=some st'):∀ s,some s∈st'→s.length≤16:=by
 have hr:∀ {st st':List (Option Shp)} {t:Int} {nx:Shp},(∀ s,some s∈st→s.length≤16)→nx.length≤16→JD st t nx=some st'→∀ s,some s∈st'→s.length≤16:=by
  intro st st' t nx hst hn h;unfold JD at h;split at h;split at h;split at h;cases h;exact hst;cases h;cases h;intro s hs;rcases List.mem_or_eq_of_mem_set hs with h|h
  exact hst s h;cases h;exact hn;cases h
 have hn:∀ {s nx:Shp},Jg x s=some nx→nx.length≤16:=by
  intro s nx h;unfold Jg at h;dsimp only at h;split at h;rename_i hc;cases h;exact hc.2.2.2;cases h
 unfold JJ at h;split at h;cases h;split at h;cases h;rename_i nx hn';have hnx:=hn hn';split at h;split at h;cases h;exact h0;cases h;split at h;split at h;exact hr h0 hnx h;cases h;split at h;split at h;obtain ⟨s1,h1,h2⟩:=XV.1 h;exact hr (hr h0 hnx h1) hnx h2;cases h;exact hr h0 hnx h
theorem Z9h {code:List Ins} {st0:List (Option Shp)} {k:Nat} (h:Z3m code k st0=none):∀ m,k≤m→Z3m code m st0=none
 | 0, hm => by
   obtain rfl:k=0:=by omega
   exact h
 | m + 1, hm => by
   by_cases hk:k=m+1;subst hk;exact h;rw [Z3m,Z9h h m (by omega)];rfl
theorem Z7U {code:List Ins} {st0:List (Option Shp)}:∀ {k:Nat} {st:List (Option Shp)},Z3m code k st0=some st→st.length=st0.length
 | 0,st,h=>by cases h;rfl
 | k + 1, st, h => by
   obtain ⟨s1,h1,h2⟩:=XV.1 h;have e1:=Z7U h1;have e2:st.length=s1.length:=by
    unfold JJ at h2;split at h2;cases h2;split at h2;cases h2;split at h2;split at h2;cases h2;rfl;cases h2;split at h2;split at h2;exact Jv h2;cases h2;split at h2;split at h2;obtain ⟨s2,h3,h4⟩:=XV.1 h2;rw [Jv h4,Jv h3];cases h2;exact Jv h2
   omega
theorem Zg6 {st st':List (Option Shp)} {i:Nat} {x:Ins} (hi:i+1=st.length) (h:JJ st i x=some st'):st'=st∧∃ k,st.getD i none=some [k]:=by
 unfold JJ at h;cases hs:st.getD i none with
 | none=>rw [hs] at h;cases h
 | some s=>
   rw [hs] at h;dsimp only at h;split at h;cases h;rename_i nx hn;split at h;split at h;rename_i hc;cases h;obtain ⟨k,hk⟩:=Ya6.1 hc.2;exact ⟨rfl,k,by rw [hk]⟩;cases h;split at h;split at h;rw [Z51 (by omega)] at h;cases h;cases h;split at h;split at h;rw [Z51 (by omega)] at h;cases h;cases h;rw [Z51 (by omega)] at h;cases h
theorem Z7V (v:Value) (code:List Ins) (w) (hs:SlV [] w v code) (hop:∀ x∈code,opP x.op) :
 CC 190 #[v] w fun r w'=>r=.tuple #[.I (Z1W code).1,.I (Z1W code).2]∧Stp [] w w':=by
 have hmax:=hs.max;obtain ⟨p,c,rfl,-⟩:=id hs;refine cW1 49 Tryz.func190 ?_;refine W ?_;by_cases h0:code.length=0∨code.length > 200
 · have hM:Z1W code=(0,22):=if_pos h0
   repeat'(first|refine W1 ?_|omega|refine VG ?_ ?_<;>intro hg|refine VC ?_ ?_<;>intro hc)
   all_goals
    refine RU ?_;exact ⟨by rw [hM],Stp.refl _ _⟩
 refine QO ?_;have hn0:0<code.length:=by omega
 have hn200:code.length≤200:=by omega
 refine JA (σ:=Nat×Value×Value) (fun q=>[(0,.slice p code.length c),(4,.pointer (some ⟨q.1,0,none⟩))]) (fun q w'=>Vf w' q.1 w.heap.size (.slice p code.length c) q.2.1 q.2.2 code (List.replicate code.length none)∧w.heap.size≤q.1∧Stp [] w w') ?_ ?_;refine ZDr 10 [] [] [(0,0),(1,0),(2,0),(4,0),(5,0),(3,9),(6,2),(7,0),(8,2),(9,0)] (fun w1 hS1=>?_);have hz1:=hS1.size;refine D ?_;apply Ziv;rfl;refine Z48 rfl trivial (Z1j (α:=Sl Int) (k:=code.length) (a0:=⟨[]⟩) rfl rfl (fun X w=>⟨_,rfl,Zm _ _⟩) rfl rfl (by simp [maxLen];omega) (by omega)) (fun _ _ h=>h.2) rfl ?_;rintro hv w2 ⟨rh,hS2⟩;refine D ?_;refine Zc rfl trivial (Z1j (α:=Bool) (k:=code.length) (a0:=false) rfl rfl (fun X w=>rfl) rfl rfl (by simp [maxLen];omega) (by omega)) (fun _ _ h=>h.2) rfl ?_;rintro sv w3 ⟨rs,hS3⟩;refine D ?_;obtain ⟨ph,ch,hph⟩:∃ p c,hv=.slice p code.length c:=by
  have:=((rh []).slv0).len;simpa using this
 obtain ⟨ps,cs,hps⟩:∃ p c,sv=.slice p code.length c:=by
  have:=((rs []).slv0).len;simpa using this
 have hap:∀ b∈ob hv,b∉ob sv:=fun b h1 h2=>by
  have:=(rh []).ob_le b h1;have:=(rs []).ob_le b h2;omega
 subst hph hps;refine Z2w rfl trivial (vs:=[(0,.slice p code.length c),(1,.slice ph code.length ch),(2,.slice ps code.length cs)]) rfl (ZeL _ _ _ _ _ _ _ _ _) rfl ?_;refine Zc rfl trivial (Zq rfl) (fun _ _ h=>h.choose_spec.2.2.2) rfl ?_;rintro _ w4 ⟨bv,rfl,hbn,hblk,hS4⟩;have hS:=(hS1.trans hS2).trans (hS3.trans hS4);have hz2:=hS2.size;have hz3:=hS3.size;refine D ?_;refine QT (bv,.slice ph code.length ch,.slice ps code.length cs) ⟨?_,by omega,hS⟩;have b1:∀ b∈ob (.slice ph code.length ch),w.heap.size≤b∧b<w3.heap.size:=fun b h=>by have:=(rh []).ob_le b h;omega
 have b2:∀ b∈ob (.slice ps code.length cs),w.heap.size≤b∧b<w3.heap.size:=fun b h=>by have:=(rs []).ob_le b h;omega
 have e1:Z0T (List.replicate code.length none)=List.replicate code.length ⟨[]⟩:=by simp [Z0T]
 have e2:JT (List.replicate code.length none)=List.replicate code.length false:=by simp [JT]
 refine ⟨hblk,hs.ext hS (by simp) (fun b hb=>.inr ?_),by rw [e1];exact ((rh _).lower hS1.size).up (hS3.trans hS4),by rw [e2];exact ((rs _).lower (Xg hS1.size hS2.size)).up hS4,fun h=>by have:=b1 bv h;omega,fun h=>by have:=b2 bv h;omega,hS.size,hap,by simp⟩;simp only [Xb,Xh] at hb;rcases hb with rfl|h|h
 omega;exact (b1 b h).1;exact (b2 b h).1;refine Z48 rfl trivial (Z1j (α:=Bool) (k:=code.length) (a0:=false) rfl rfl (fun X w=>rfl) rfl rfl (by simp [maxLen];omega) (by omega)) (fun _ _ h=>h.2) rfl ?_;rintro sv w2 ⟨rs,hS2⟩;refine Zc rfl trivial (Z1j (α:=Sl Int) (k:=code.length) (a0:=⟨[]⟩) rfl rfl (fun X w=>⟨_,rfl,Zm _ _⟩) rfl rfl (by simp [maxLen];omega) (by omega)) (fun _ _ h=>h.2) rfl ?_;rintro hv w3 ⟨rh,hS3⟩;refine D ?_;obtain ⟨ph,ch,hph⟩:∃ p c,hv=.slice p code.length c:=by
  have:=((rh []).slv0).len;simpa using this
 obtain ⟨ps,cs,hps⟩:∃ p c,sv=.slice p code.length c:=by
  have:=((rs []).slv0).len;simpa using this
 have hap:∀ b∈ob hv,b∉ob sv:=fun b h1 h2=>by
  have:=(rh []).ob_le b h1;have:=(rs []).ob_le b h2;omega
 subst hph hps;refine Z2w rfl trivial (vs:=[(0,.slice p code.length c),(1,.slice ph code.length ch),(2,.slice ps code.length cs)]) rfl (ZeL _ _ _ _ _ _ _ _ _) rfl ?_;refine Zc rfl trivial (Zq rfl) (fun _ _ h=>h.choose_spec.2.2.2) rfl ?_;rintro _ w4 ⟨bv,rfl,hbn,hblk,hS4⟩;have hS:=(hS1.trans hS2).trans (hS3.trans hS4);have hz2:=hS2.size;have hz3:=hS3.size;refine D ?_;refine QT (bv,.slice ph code.length ch,.slice ps code.length cs) ⟨?_,by omega,hS⟩;have b1:∀ b∈ob (.slice ph code.length ch),w.heap.size≤b∧b<w3.heap.size:=fun b h=>by have:=(rh []).ob_le b h;omega
 have b2:∀ b∈ob (.slice ps code.length cs),w.heap.size≤b∧b<w3.heap.size:=fun b h=>by have:=(rs []).ob_le b h;omega
 have e1:Z0T (List.replicate code.length none)=List.replicate code.length ⟨[]⟩:=by simp [Z0T]
 have e2:JT (List.replicate code.length none)=List.replicate code.length false:=by simp [JT]
 refine ⟨hblk,hs.ext hS (by simp) (fun b hb=>.inr ?_),by rw [e1];exact ((rh _).lower (Xg hS1.size hS2.size)).up hS4,by rw [e2];exact ((rs _).lower hS1.size).up (hS3.trans hS4),fun h=>by have:=b1 bv h;omega,fun h=>by have:=b2 bv h;omega,hS.size,hap,by simp⟩;simp only [Xb,Xh] at hb;rcases hb with rfl|h|h
 omega;exact (b1 b h).1;exact (b2 b h).1;rintro ⟨bv,hv,sv⟩ w2 ⟨h,hbn,hS⟩;dsimp only at h hbn ⊢;have hblk:=h.blk;have hsn:=h.seen.slv0;have hl0:(JT (List.replicate code.length none)).length=code.length:=by simp [JT]
 have hk0:0<(JT (List.replicate code.length none)).length:=by omega
 refine W ?_;refine Z5 (Z3H (α:=Bool) (y':=true) (u:=.B true) rfl rfl rfl rfl h.seen hk0) ?_;rintro _ w3 ⟨rs3,hS3⟩;have hS13:Stp (bv :: (ob hv++ob sv)) w2 w3:=hS3.mono (fun b hb=>by simp [hb]);generalize hst0:(some [] :: List.replicate (code.length - 1) none:List (Option Shp))=st0 at *;have hlen0:st0.length=code.length:=by rw [← hst0];simp;omega
 obtain ⟨m,hm⟩:∃ m,code.length=m+1:=⟨code.length - 1,by omega⟩
 have e1:Z0T st0=Z0T (List.replicate code.length none):=by rw [← hst0,hm];simp [Z0T,YaX]
 have e2:JT st0=(JT (List.replicate code.length none)).set 0 true:=by rw [← hst0,hm];simp [JT,YaX]
 have h3:Vf w3 bv w.heap.size (.slice p code.length c) hv sv code st0:=by
  refine ⟨h.blk.ext hS3 h.ns,h.cod.ext hS13 (fun _ h=>h) (fun _ h=>.inl h),?_,?_,h.nh,h.ns,Xg h.hi hS3.size,h.apart,hlen0⟩;rw [e1];exact h.shp.ext (X':=bv :: ob sv) hS3 (fun b hb=>⟨XE _ hb,fun hb'=>h.apart b hb' hb⟩) (fun _ h=>.inl h);rw [e2];exact rs3
 have hB:∀ b∈bv :: (ob hv++ob sv),w.heap.size≤b:=fun b hb=>by
  simp only [Xb,Xh] at hb;rcases hb with rfl|hb|hb
  exact hbn;exact (h.shp.ob_le b hb).1;exact (h.seen.ob_le b hb).1
 have hS':=hS.own hS13 (fun b hb=>.inr (hB b hb));have h160:∀ s,some s∈st0→s.length≤16:=by
  intro s hs;rw [← hst0] at hs;simp at hs;rw [hs];simp
 have hverM:Z1W code=match Z3m code code.length st0 with
  | none=>(0,22)
  | some st=>(((st.getD (code.length - 1) none).getD []).headD 0,0):=by
  rw [← hst0];exact if_neg h0
 clear hsn hblk h e1 e2 hS3 hS13 rs3 hS;refine W ?_
 refine Zu (σ:=Nat×List (Option Shp)) (fun q=>[(0,.slice p code.length c),(4,pQ bv),(29,.I (code.length:Int)),(30,.I (q.1:Int))])
  (fun q w'=>q.1≤code.length∧Z3m code q.1 st0=some q.2∧Vf w' bv w.heap.size (.slice p code.length c) hv sv code q.2∧(∀ s,some s∈q.2→s.length≤16)∧Stp [] w w') (fun q=>code.length - q.1) (0,st0) ⟨rfl,rfl,rfl,rfl,trivial⟩ ⟨Xq _,rfl,h3,h160,hS'⟩ ?_
 rintro ⟨k,st⟩ w4 ⟨hk,hrun,h4,h16,hS4⟩
 try dsimp only at hk hrun h4 h16 ⊢
 by_cases hlt:k<code.length
 · refine QO ?_
   refine CM (Zh rfl rfl) (ZjK bv w.heap.size _ hv sv code st k _ h4 hlt (by omega) h16 (hop _ (Xd hlt))) ?_;rintro _ w5 ⟨hS5,rfl,hV⟩;replace hS5:=hS4.own hS5 (fun b hb=>.inr (hB b hb));have hcg:code.getD k ⟨0,0⟩=code[k]:=by simp [List.getD,hlt]
   have hnext:Z3m code (k+1) st0=JJ st k code[k]:=by rw [Z3m,hrun,XO,hcg]
   cases hst:JJ st k code[k] with
   | none=>
     have hn:Z1W code=(0,22):=by rw [hverM,Z9h (hnext.trans hst) code.length hlt]
     refine RT ?_;exact ⟨by rw [hn],hS5⟩
   | some st1=>
     refine W ?_;exact QL (k+1,st1) ⟨hlt,hnext.trans hst,hV st1 hst,ZjL h16 hst,hS5⟩ (XM hlt (XS k))
 obtain rfl:k=code.length:=by omega
 have hlst:=Z7U hrun;have hlast:∃ a,st.getD (code.length - 1) none=some [a]:=by
  rw [hm,Z3m] at hrun;obtain ⟨s1,r1,r2⟩:=XV.1 hrun;have hl1:=Z7U r1;obtain ⟨rfl,a,ha⟩:=Zg6 (by omega) r2;exact ⟨a,by rw [hm];exact ha⟩
 obtain ⟨a,ha⟩:=hlast;have hve:Z1W code=(a,0):=by rw [hverM,hrun];dsimp only;rw [ha];rfl
 have hblk:=h4.blk;have hshp:=h4.shps;have hshl:(Z0T st).length=code.length:=by simp [Z0T];omega
 have hkm:m<(Z0T st).length:=by omega
 have hkk:(code.length:Int) - 1=(m:Int):=by omega
 obtain ⟨u,hcell,hsu⟩:=hshp.sub hkm;have hul:(Z0T st)[m].l=[a]:=by
  have:st.getD m none=some [a]:=by rw [← ha,hm];rfl
  have h2:st.getD m none=st[m]'(by omega):=by simp [List.getD,show m<st.length by omega]
  have h5:(Z0T st)[m]=⟨(st[m]'(by omega)).getD []⟩:=by simp [Z0T]
  rw [h5,← h2,this];rfl
 rw [hul] at hsu;refine QO ?_;apply Z4 (Jw rfl rfl hcell) rfl;have h01:0 < [a].length:=by simp
 refine RT ?_;exact ⟨by rw [hve];rfl,hS4⟩
open Go Go.Eng Go.RowKit Go.Proofs Go.ChangeShapes Go.WideShapes Go.Deep
theorem Zxu:ownKnob Tryz.prog.godebug=none:=by kernel_rfl
theorem ZwT:laidOutB Tryz.prog=true:=by kernel_rfl
section
variable {H:Type} {enc:TypeId×Value→H} {w:World} {base:Nat} {spare:Nat→Bool} {held:Bool}
theorem ZwU {r:Reach} {b0:Nat} {v:Value} {d:DataW H} {p:List MemPlace} (hv:Value.okWide Tryz.prog w r b0 3 v) (h:DataW.Trod enc Tryz.prog w base spare held 3 v d p):∃ z:Int,v=.I z∧I64 z:=by
 obtain ⟨z,rfl,_,_,hw⟩:=open_int Tryz.underlying3 hv h;exact ⟨z,rfl,by simpa [I64,Lit.wf,IntKind.min,IntKind.max,IntKind.signed,IntKind.bits] using hw⟩
theorem ZtW {r:Reach} {b0:Nat} {v:Value} {d:DataW H} {p:List MemPlace} (hv:Value.okWide Tryz.prog w r b0 23 v) (h:DataW.Trod enc Tryz.prog w base spare held 23 v d p) :
 ∃ l:List Int,SlV [] w v l∧(∀ x∈l,I64 x)∧ZmS d=l.length:=by
 obtain ⟨fuel,h⟩:=h;obtain ⟨u,l,hu,hs,hok,hln⟩:=Zjs Tryz.underlying23 (by kernel_rfl) Tryz.underlying3 h;obtain ⟨a,m,c,rfl⟩:=okWide_slice Tryz.underlying23 hv;have hu':Value.slice a m c=u:=by simpa [Value.cells] using hu
 subst hu';exact ⟨l,hs,hok,hln⟩
end
end Go.Proofs.YtipfkbkkndacjaaGreatDoor
namespace Go.Eng
open Go Go.RowKit
variable {X:List Nat} {w w':World} {base T:Nat} {v:Value} {zs ys:List Int}
def ZjM (w:World) (base T:Nat) (v:Value) (zs:List Int):Prop:=(v=.N∧zs=[])∨∃ g cap cur,v=.slice (some ⟨g,0,none⟩) zs.length cap∧base≤g∧w.heap[g]?=some (.cells cur T (0,0))∧zs.length≤cap∧cap≤maxLen∧cur.size=cap∧cur.toList.take zs.length=zs.map (Value.int .i64)
theorem Row.toI (h:Row X w base T v zs):ZjM w base T v zs:=by
 obtain ⟨css,hl,hr,hx,ho⟩:=h;have hc:css=zs.map (fun x=>[Value.int .i64 x]):=by
  apply Yay (by simpa using hl);intro i h1 h2;have:css[i]=[Value.int .i64 zs[i]]:=hr i (by omega) h1;simp [this]
 rcases ho with ⟨rfl,hn⟩|⟨g,cap,cur,rfl,hb,hg,hnc,hcm,hcs,ht⟩
 exact .inl ⟨rfl,Xv.1 hn⟩
 · refine .inr ⟨g,cap,cur,rfl,hb,hg,hnc,hcm,by simpa [Z7.k,Z3.k] using hcs,?_⟩
   have h2:cur.toList.take (zs.length * 1)=css.flatten:=ht;rw [YaM] at h2;rw [h2,hc];clear h2 ht hx hr hl hc hnc hg hcs
   induction zs with
   | nil=>rfl
   | cons a l ih=>simp at ih ⊢;exact ih
theorem ZjM.toRow (h:ZjM w base T v zs):Row X w base T v zs:=by
 rcases h with ⟨rfl,rfl⟩|⟨g,cap,cur,rfl,hb,hg,hnc,hcm,hcs,ht⟩
 exact Row.nil
 · refine ⟨zs.map (fun x=>[Value.int .i64 x]),by simp,fun i h1 h2=>by simp;rfl,?_⟩
   have hf:(zs.map (fun x=>[Value.int .i64 x])).flatten=zs.map (Value.int .i64):=by
    clear ht hnc
    induction zs with
    | nil=>rfl
    | cons a l ih=>simp at ih ⊢;exact ih
   rw [hf];refine ⟨by simp [Z7.k,Z3.k],.inr ⟨g,cap,cur,rfl,hb,hg,hnc,hcm,by simpa [Z7.k,Z3.k] using hcs,by simpa [Z7.k,Z3.k] using ht⟩⟩
theorem ZaA {zs:List Int} (hs:zs.Pairwise (·≤·)):(Lib.compact zs).Pairwise (· < ·)∧∀ y,y∈Lib.compact zs↔y∈zs:=by
 have hd:∀ i j,i≤j→j<zs.length→zs.toArray[i]!≤zs.toArray[j]!:=by
  intro i j hij hj;rcases Nat.lt_or_eq_of_le hij with h|rfl
  have:=Yal.1 hs i j (by omega) hj h;simpa [getElem!_pos,hj,show i<zs.length by omega] using this;exact YaT _
 have key:∀ m,m≤zs.length→(Lib.compactUpTo zs.toArray m).Pairwise (· < ·)∧∀ y,y∈Lib.compactUpTo zs.toArray m↔∃ i,i<m∧y=zs.toArray[i]!:=by
  intro m
  induction m with
  | zero=>intro _;refine ⟨by simp [Lib.compactUpTo],fun y=>by simp [Lib.compactUpTo]⟩
  | succ m ih=>
    intro hm;obtain ⟨i1,i2⟩:=ih (by omega);rw [Lib.compactUpTo_succ];by_cases hk:Lib.keeps zs.toArray m=true;rw [if_pos hk];refine ⟨Ybd.2 ⟨i1,List.pairwise_singleton _ _,fun a ha b hb=>?_⟩,fun y=>?_⟩;obtain ⟨i,hi,rfl⟩:=(i2 a).1 ha;rw [Xl.1 hb];have hk':m=0∨zs.toArray[m]!≠zs.toArray[m - 1]!:=by simpa [Lib.keeps] using hk
    have h1:=hd i (m - 1) (by omega) (by omega);have h2:=hd (m - 1) m (by omega) (by omega);have h3:=hk'.resolve_left (by omega);omega;rw [Xh,i2,Xl];constructor;rintro (⟨i,hi,rfl⟩|rfl);exact ⟨i,by omega,rfl⟩;exact ⟨m,by omega,rfl⟩;rintro ⟨i,hi,rfl⟩;by_cases hi':i<m;exact .inl ⟨i,hi',rfl⟩;exact .inr (by rw [show i=m by omega]);rw [if_neg hk,XG];have hk':¬ (m=0∨zs.toArray[m]!≠zs.toArray[m - 1]!):=by simpa [Lib.keeps] using hk
    have hm0:m≠0:=fun h=>hk' (.inl h);have he:zs.toArray[m]! = zs.toArray[m - 1]!:=Decidable.byContradiction fun h=>hk' (.inr h);refine ⟨i1,fun y=>?_⟩;rw [i2];constructor;rintro ⟨i,hi,rfl⟩;exact ⟨i,by omega,rfl⟩;rintro ⟨i,hi,rfl⟩;by_cases hi':i<m;exact ⟨i,hi',rfl⟩;exact ⟨m - 1,by omega,by rw [show i=m by omega,he]⟩
 obtain ⟨h1,h2⟩:=key zs.length (Xn _);refine ⟨h1,fun y=>?_⟩;show y∈Lib.compactUpTo zs.toArray zs.length↔_;rw [h2];constructor;rintro ⟨i,hi,rfl⟩;simp [getElem!_pos,hi];intro h;obtain ⟨i,hi,rfl⟩:=Xr h;exact ⟨i,hi,by simp [getElem!_pos,hi]⟩
def Z3i (zs:List Int):List Int:=Lib.compact (zs.mergeSort fun x y=>decide (x≤y))
theorem Z35 (zs:List Int):(Z3i zs).Pairwise (· < ·)∧∀ y,y∈Z3i zs↔y∈zs:=by
 have hp:(zs.mergeSort fun x y=>decide (x≤y)).Pairwise (·≤·):=by
  have:=List.pairwise_mergeSort (le:=fun (x y:Int)=>decide (x≤y)) (fun a b c h1 h2=>by simp at *;omega) (fun a b=>by simp;omega) zs;exact this.imp (fun h=>by simpa using h)
 obtain ⟨h1,h2⟩:=ZaA hp;exact ⟨h1,fun y=>by unfold Z3i;rw [h2];exact (List.mergeSort_perm zs _).mem_iff⟩
theorem Zc1 {g q:Nat} {cur:Array Value} (os:Array Obj) (h:w.heap[g]?=some (.cells cur T (0,0))) (hl:ys.length≤cur.size) :
 Stp [g] w (Go.Sort.grow (Go.Sort.putRow (Value.int .i64) (Go.Sort.ahead w q) g 0 ys.toArray) os)∧
 ∃ cur',(Go.Sort.grow (Go.Sort.putRow (Value.int .i64) (Go.Sort.ahead w q) g 0 ys.toArray) os).heap[g]?=some (.cells cur' T (0,0))∧cur'.size=cur.size∧cur'.toList.take ys.length=ys.map (Value.int .i64):=by
 have hlt:g<w.heap.size:=(Xk.1 h).1;have hh:(Go.Sort.grow (Go.Sort.putRow (Value.int .i64) (Go.Sort.ahead w q) g 0 ys.toArray) os).heap=w.heap.modify g (Go.Sort.onCells (Go.Sort.putCells (Value.int .i64) 0 ys.toArray))++os:=rfl;refine ⟨⟨rfl,rfl,rfl,by rw [hh];simp,fun b hb hn=>?_⟩,Go.Sort.putCells (Value.int .i64) 0 ys.toArray cur,?_,by simp [Go.Sort.putCells],?_⟩;rw [hh,XT (by simpa using hb),YaQ,if_neg (by simp at hn;exact fun e=>hn e.symm)];rw [hh,XT (by simpa using hlt),YaQ,if_pos rfl,h];rfl;apply Yay;simp [Go.Sort.putCells];omega;intro i h1 h2;have hi:i<ys.length:=by simpa using h2
 simp [Go.Sort.putCells,hi]
theorem Z9i {g:Nat} {cur:Array Value} (h:w.heap[g]?=some (.cells cur T (0,0))) (ht:cur.toList.take zs.length=zs.map (Value.int .i64)):Go.Sort.Holds (Value.int .i64) w g 0 zs.toArray:=by
 intro j hj;have hj':j<zs.length:=by simpa using hj
 have hc:cur[j]?=some (.I zs[j]):=by
  have h1:(cur.toList.take zs.length)[j]?=some (.I zs[j]):=by rw [ht];simp [hj']
  rw [Yae,if_pos hj'] at h1;simpa using h1
 constructor;simp [World.cell?,h,hc,hj'];simp [World.frozen?,h]
end Go.Eng
namespace Go.Proofs.YtipfkbkkndacjaaGreatDoor
open Go Go.Eng Go.RowKit
theorem Zc2 {X:List Nat} {base T:Nat} {v:Value} {zs:List Int} (w) (h:Row X w base T v zs) (hsz:zs.length<4611686018427387904) :
 CC 259 #[v] w fun r w'=>r=.tuple #[]∧Row X w' base T v (zs.mergeSort fun x y=>decide (x≤y))∧Stp (ob v) w w':=by
 rcases h.toI with ⟨rfl,rfl⟩|⟨g,cap,cur,rfl,hb,hg,hnc,hcm,hcs,ht⟩
 refine (Tryz.slices_Sort_int_none none 0 w).mono ?_;rintro _ _ ⟨rfl,rfl⟩;exact .mk ⟨rfl,by simpa using Row.nil,Stp.refl _ _⟩;have hlt:g<w.heap.size:=(Xk.1 hg).1;refine (Tryz.slices_Sort_int g 0 cap zs w (Z9i hg ht) hlt hsz).mono ?_;rintro _ _ ⟨rfl,q,os,rfl⟩;have hl:(zs.mergeSort fun x y=>decide (x≤y)).length=zs.length:=Yba zs;obtain ⟨hS,cur',h1,h2,h3⟩:=Zc1 (q:=q) os hg (ys:=zs.mergeSort fun x y=>decide (x≤y)) (by omega);refine .mk ⟨rfl,ZjM.toRow (.inr ⟨g,cap,cur',by rw [hl],hb,h1,by omega,hcm,by omega,h3⟩),hS⟩
theorem Z6K {X:List Nat} {base T:Nat} {v:Value} {zs:List Int} (w) (h:Row X w base T v zs) (hsz:zs.length≤9223372036854775807) :
 CC 260 #[v] w fun r w'=>Row X w' base T r (Lib.compact zs)∧Stp (ob v) w w'∧ob r=ob v:=by
 rcases h.toI with ⟨rfl,rfl⟩|⟨g,cap,cur,rfl,hb,hg,hnc,hcm,hcs,ht⟩
 refine (Tryz.slices_Compact_int_empty none 0 w).mono ?_;rintro _ _ ⟨rfl,rfl⟩;exact .mk ⟨by rw [show Lib.compact ([]:List Int)=[] from rfl];exact Row.nil,Stp.refl _ _,rfl⟩;refine (Tryz.slices_Compact_int g 0 cap zs w (Z9i hg ht) hsz hnc).mono ?_;rintro _ _ ⟨rfl,q,rfl⟩;have hcl:(Lib.compact zs).length≤zs.length:=by
  unfold Lib.compact Lib.compactUpTo;rw [Xs];exact Xg (X0 _ _) (by simp)
 have e:∀ W:World,W=Go.Sort.grow W #[]:=fun W=>by simp [Go.Sort.grow]
 rw [e (Go.Sort.putRow _ _ _ _ _)];obtain ⟨hS,cur',h1,h2,h3⟩:=Zc1 (q:=q) #[] hg (ys:=Lib.compact zs++List.replicate (zs.length - (Lib.compact zs).length) 0) (by simp;omega);refine .mk ⟨ZjM.toRow (.inr ⟨g,cap,cur',rfl,hb,h1,by omega,hcm,by omega,?_⟩),hS,rfl⟩;have h4:=congrArg (List.take (Lib.compact zs).length) h3;rw [YaA,Yad (by simp)] at h4;rw [h4];simp
theorem Z7W (s:Str) (y:Int):((ZR s).2.2=true∧y=(ZR s).1)↔∃ i,i<7∧s=Zf.getD i []∧y=(i:Int):=by
 by_cases h0:s=[100,97,121]
 subst h0;have e:ZR [100,97,121]=(0,3,true):=by decide +kernel
 have u:∀ i,i<7→[100,97,121]=Zf.getD i []→i=0:=by decide +kernel
 rw [e];constructor;rintro ⟨-,rfl⟩;exact ⟨0,by decide,by decide +kernel,rfl⟩;rintro ⟨i,hi,he,rfl⟩;rw [u i hi he];exact ⟨rfl,rfl⟩;by_cases h1:s=[115,101,114,118,101,100]
 subst h1;have e:ZR [115,101,114,118,101,100]=(1,3,true):=by decide +kernel
 have u:∀ i,i<7→[115,101,114,118,101,100]=Zf.getD i []→i=1:=by decide +kernel
 rw [e];constructor;rintro ⟨-,rfl⟩;exact ⟨1,by decide,by decide +kernel,rfl⟩;rintro ⟨i,hi,he,rfl⟩;rw [u i hi he];exact ⟨rfl,rfl⟩;by_cases h2:s=[101,120,116,114,97]
 subst h2;have e:ZR [101,120,116,114,97]=(2,1,true):=by decide +kernel
 have u:∀ i,i<7→[101,120,116,114,97]=Zf.getD i []→i=2:=by decide +kernel
 rw [e];constructor;rintro ⟨-,rfl⟩;exact ⟨2,by decide,by decide +kernel,rfl⟩;rintro ⟨i,hi,he,rfl⟩;rw [u i hi he];exact ⟨rfl,rfl⟩;by_cases h3:s=[98,121]
 subst h3;have e:ZR [98,121]=(3,1,true):=by decide +kernel
 have u:∀ i,i<7→[98,121]=Zf.getD i []→i=3:=by decide +kernel
 rw [e];constructor;rintro ⟨-,rfl⟩;exact ⟨3,by decide,by decide +kernel,rfl⟩;rintro ⟨i,hi,he,rfl⟩;rw [u i hi he];exact ⟨rfl,rfl⟩;by_cases h4:s=[116,111]
 subst h4;have e:ZR [116,111]=(4,1,true):=by decide +kernel
 have u:∀ i,i<7→[116,111]=Zf.getD i []→i=4:=by decide +kernel
 rw [e];constructor;rintro ⟨-,rfl⟩;exact ⟨4,by decide,by decide +kernel,rfl⟩;rintro ⟨i,hi,he,rfl⟩;rw [u i hi he];exact ⟨rfl,rfl⟩;by_cases h5:s=[99,111,117,114,116]
 subst h5;have e:ZR [99,111,117,114,116]=(5,1,true):=by decide +kernel
 have u:∀ i,i<7→[99,111,117,114,116]=Zf.getD i []→i=5:=by decide +kernel
 rw [e];constructor;rintro ⟨-,rfl⟩;exact ⟨5,by decide,by decide +kernel,rfl⟩;rintro ⟨i,hi,he,rfl⟩;rw [u i hi he];exact ⟨rfl,rfl⟩;by_cases h6:s=[97,109,111,117,110,116]
 subst h6;have e:ZR [97,109,111,117,110,116]=(6,1,true):=by decide +kernel
 have u:∀ i,i<7→[97,109,111,117,110,116]=Zf.getD i []→i=6:=by decide +kernel
 rw [e];constructor;rintro ⟨-,rfl⟩;exact ⟨6,by decide,by decide +kernel,rfl⟩;rintro ⟨i,hi,he,rfl⟩;rw [u i hi he];exact ⟨rfl,rfl⟩;constructor;rintro ⟨h,-⟩;exfalso;have hn:Zf.findIdx? (isS s)=none:=Yaa.2 fun x hx=>by
  simp only [Zf,Xb,Xj,or_false] at hx;rcases hx with rfl|rfl|rfl|rfl|rfl|rfl|rfl<;>simp only [isS,decide_eq_false_iff_not]<;>intro e<;>first|exact (absurd e h0)|exact (absurd e.symm h0)|exact (absurd e h1)|exact (absurd e.symm h1)|exact (absurd e h2)|exact (absurd e.symm h2)|exact (absurd e h3)|exact (absurd e.symm h3)|exact (absurd e h4)|exact (absurd e.symm h4)|exact (absurd e h5)|exact (absurd e.symm h5)|exact (absurd e h6)|exact (absurd e.symm h6)|skip
 simp [ZR,idx,hn] at h
 · rintro ⟨i,hi,he,-⟩
   exfalso
   match i,hi with
   | 0,_=>exact h0 he
   | 1,_=>exact h1 he
   | 2,_=>exact h2 he
   | 3,_=>exact h3 he
   | 4,_=>exact h4 he
   | 5,_=>exact h5 he
   | 6,_=>exact h6 he
theorem ZjN (a o:Str) (k n:Int) (s:Str) (p:Option Addr) (l c:Nat) (k' n':Int) (s':Str) (p':Option Addr) (l' c':Nat) (w):(Instr.build 99 #[(0,str a),(2,str o),(3,.agg #[.I k,.I n,str s,.slice p l c]),(4,.agg #[.I k',.I n',str s',.slice p' l' c'])]).run Tryz.prog w=.ok (.agg #[str a,.I 0,str o,.I k,.I n,str s,.slice p l c,.I k',.I n',str s',.slice p' l' c',str [],str []]) w:=by kernel_rfl
theorem Z6a {x y:Nd} (h:Ze x≠0) (hy:y∈x.kids):Ze y≠0:=by
 intro h0;apply h;rw [Z0I];unfold JF;split;rfl;rw [if_pos (by rw [← h0];exact Yai hy)]
def Seg (C:List Ins) (p:Nat) (c:List Ins):Prop:=∃ A B,C=A++c++B∧A.length=p
theorem Seg.left {C a b:List Ins} {p:Nat} (h:Seg C p (a++b)):Seg C p a:=by
 obtain ⟨A,B,rfl,hp⟩:=h;exact ⟨A,b++B,by simp,hp⟩
theorem Seg.right {C a b:List Ins} {p:Nat} (h:Seg C p (a++b)):Seg C (p+a.length) b:=by
 obtain ⟨A,B,rfl,hp⟩:=h;exact ⟨A++a,B,by simp,by simp [hp]⟩
theorem Seg.at {C r:List Ins} {x:Ins} {p:Nat} (h:Seg C p (x :: r)):C.getD p ⟨0,0⟩=x:=by
 obtain ⟨A,B,rfl,hp⟩:=h;subst hp;simp
def Z5r (C:List Ins):Nat→Nat→List (Option Shp)→Option (List (Option Shp))
 | _,0,st=>some st
 | p,k+1,st=>(JJ st p (C.getD p ⟨0,0⟩)).bind (Z5r C (p+1) k)
theorem Z1p (C:List Ins) (b:Nat):∀ (a p:Nat) (st:List (Option Shp)),Z5r C p (a+b) st=(Z5r C p a st).bind (Z5r C (p+a) b)
 | 0,p,st=>by simp [Z5r]
 | a + 1, p, st => by
   rw [show a+1+b=(a+b)+1 by omega,Z5r,Z5r];cases h:JJ st p (C.getD p ⟨0,0⟩) with
   | none=>rfl
   | some st'=>
     simp only [XO];rw [Z1p C b a (p+1) st',show p+1+a=p+(a+1) by omega]
theorem Z3K (C:List Ins) (p:Nat) (st:List (Option Shp)):Z5r C p 1 st=JJ st p (C.getD p ⟨0,0⟩):=by
 rw [Z5r];cases JJ st p (C.getD p ⟨0,0⟩)<;>rfl
theorem Z9j (C:List Ins) (st:List (Option Shp)):∀ k:Nat,Z3m C k st=Z5r C 0 k st
 | 0=>rfl
 | k + 1 => by
   rw [Z3m,Z1p,Z9j C st k];cases Z5r C 0 k st with
   | none=>rfl
   | some st'=>simp only [XO,XJ];rw [Z3K]
def Z2D (C:List Ins) (p:Nat) (c:List Ins) (s s':Shp):Prop:=
 ∀ st : List (Option Shp), st.length = C.length → p + c.length < C.length → st[p]? = some (some s) → (∀ i, p < i → i < p + c.length → st[i]? = some none)→
   (st[p+c.length]?=some none∨st[p+c.length]?=some (some s'))→
   ∃ st',Z5r C p c.length st=some st'∧st'.length=C.length∧st'[p+c.length]?=some (some s')∧∀ i,p+c.length<i→st'[i]?=st[i]?
theorem ZaB {st:List (Option Shp)} {t:Nat} {sh:Shp} (h:t<st.length) (h2:st[t]?=some none∨st[t]?=some (some sh)) :
 ∃ st',JD st (t:Int) sh=some st'∧st'.length=st.length∧st'[t]?=some (some sh)∧∀ i,i≠t→st'[i]?=st[i]?:=by
 unfold JD;rw [if_pos (by omega),Ybt,XA];rcases h2 with h2|h2
 rw [h2];exact ⟨_,rfl,by simp,by simp [h],fun i hi=>List.getElem?_set_ne (fun e=>hi e.symm)⟩;rw [h2];simp only [Yax,if_pos];exact ⟨_,rfl,rfl,h2,fun _ _=>rfl⟩
theorem Z2D.app {C a b:List Ins} {p:Nat} {s s1 s2:Shp} (ha:Z2D C p a s s1) (hb:Z2D C (p+a.length) b s1 s2) (h1:a≠[]) (h2:b≠[]):Z2D C p (a++b) s s2:=by
 intro st hl hlt h0 hn hq;have l1:=X7.2 h1;have l2:=X7.2 h2;simp only [Xc] at hlt hn hq ⊢;obtain ⟨st1,r1,e1,e2,e3⟩:=ha st hl (by omega) h0 (fun i hi hi2=>hn i hi (by omega)) (.inl (hn _ (by omega) (by omega)));obtain ⟨st2,r2,g1,g2,g3⟩:=hb st1 e1 (by omega) e2 (fun i hi hi2=>by rw [e3 i hi];exact hn i (by omega) (by omega)) (by rw [e3 _ (by omega),Yav];exact hq);refine ⟨st2,by rw [Z1p,r1];exact r2,g1,by rw [← Yav];exact g2,fun i hi=>by rw [g3 i (by omega),e3 i (by omega)]⟩
theorem Z5s {C:List Ins} {p:Nat} {x:Ins} {s s':Shp} (hs:Seg C p [x]) (h1:x.op≠24) (h2:x.op≠13) (h3:x.op≠14) (hx:Jg x s=some s'):Z2D C p [x] s s':=by
 intro st hl hlt h0 hn hq;simp only [Xe,Xf,XJ] at hlt hq ⊢;obtain ⟨st',r1,r2,r3,r4⟩:=ZaB (st:=st) (t:=p+1) (sh:=s') (by omega) hq;refine ⟨st',?_,by omega,r3,fun i hi=>r4 i (by omega)⟩;rw [Z3K,hs.at];unfold JJ;rw [XA,h0];simp only [Yax,hx];rw [if_neg h1,if_neg h2,if_neg h3];exact r1
def Z6L (b:Nat):List Ins→Shp→Option Shp
 | [],s=>some s
 | x :: r, s => match Jg x s with
   | none=>none
   | some s'=>if s'.length≤b then Z6L b r s' else none
theorem Z1X {x:Ins} {ts r s:Shp} (h:Jg x ts=some r) (hl:s.length+r.length≤16):Jg x (s++ts)=some (s++r):=by
 unfold Jg at h ⊢;dsimp only at h ⊢;split at h;rename_i hc;obtain ⟨c1,c2,c3,c4⟩:=hc;simp only [XD] at h;have e1:(s++ts).length - (ZF x).1.length=s.length+(ts.length - (ZF x).1.length):=by rw [Xc];omega
 have e2:(s++ts).drop (s.length+(ts.length - (ZF x).1.length))=ts.drop (ts.length - (ZF x).1.length):=by
  rw [List.drop_append,List.drop_of_length_le (by omega),XL];congr 1;omega
 have e3:(s++ts).take (s.length+(ts.length - (ZF x).1.length))=s++ts.take (ts.length - (ZF x).1.length):=by
  rw [Yaw,XH (by omega),show s.length+(ts.length - (ZF x).1.length) - s.length=ts.length - (ZF x).1.length by omega]
 rw [e1,e2,e3];have e4:s++ts.take (ts.length - (ZF x).1.length)++(ZF x).2.2.1=s++r:=by rw [Xx,h]
 rw [e4,if_pos ⟨c1,by rw [Xc];omega,c3,by rw [Xc];omega⟩];cases h
theorem Z9k {C:List Ins} (b:Nat):∀ (L:List Ins) (p:Nat) (s ts r:Shp),L≠[]→Seg C p L→(∀ x∈L,x.op≠24∧x.op≠13∧x.op≠14)→Z6L b L ts=some r→s.length+b≤16→Z2D C p L (s++ts) (s++r)
 | [],_,_,_,_,h,_,_,_,_=>absurd rfl h
 | [x], p, s, ts, r, _, hs, ho, hf, hb => by
   obtain ⟨o1,o2,o3⟩:=ho x (by simp);unfold Z6L at hf;cases hx:Jg x ts with
   | none=>rw [hx] at hf;cases hf
   | some s1=>
     rw [hx] at hf;simp only at hf;split at hf;rename_i hl;simp only [Z6L,XD] at hf;subst hf;exact Z5s hs o1 o2 o3 (Z1X hx (by omega));cases hf
 | x :: y :: L, p, s, ts, r, _, hs, ho, hf, hb => by
   obtain ⟨o1,o2,o3⟩:=ho x (by simp);rw [Z6L] at hf;cases hx:Jg x ts with
   | none=>rw [hx] at hf;cases hf
   | some s1=>
     rw [hx] at hf;simp only at hf;split at hf;rename_i hl;have hs1:Seg C p ([x]++(y :: L)):=hs;exact Z2D.app (a:=[x]) (Z5s hs1.left o1 o2 o3 (Z1X hx (by omega))) (Z9k b (y :: L) _ s s1 r (by simp) hs1.right (fun z hz=>ho z (by simp [hz])) hf hb) (by simp) (by simp);cases hf
theorem ZaC {C Lc Ly Ln:List Ins} {p:Nat} {s s':Shp} (t1 t2:Int)
 (hs:Seg C p (Lc++[⟨14,t1⟩]++Ly++[⟨13,t2⟩]++Ln)) (ht1:t1=((p+Lc.length+1+Ly.length+1:Nat):Int)) (ht2:t2=((p+Lc.length+1+Ly.length+1+Ln.length:Nat):Int))
 (hc:Z2D C p Lc s (s++[2])) (hy:Z2D C (p+Lc.length+1) Ly s s') (hn:Z2D C (p+Lc.length+1+Ly.length+1) Ln s s') (h1:Lc≠[]) (h2:Ly≠[]) (h3:Ln≠[]) (hl:s.length≤16) (hl':s'.length≤16) :
 Z2D C p (Lc++[⟨14,t1⟩]++Ly++[⟨13,t2⟩]++Ln) s s':=by
 intro st hlen hlt h0 hno hq;have l1:=X7.2 h1;have l2:=X7.2 h2;have l3:=X7.2 h3;have hlen0:(Lc++[(⟨14,t1⟩:Ins)]++Ly++[(⟨13,t2⟩:Ins)]++Ln).length=Lc.length+(1+(Ly.length+(1+Ln.length))):=by simp only [Xc,Xe,Xf];omega
 rw [hlen0] at hlt hno hq ⊢;have g14:C.getD (p+Lc.length) ⟨0,0⟩=⟨14,t1⟩:=(show Seg C (p+Lc.length) (⟨14,t1⟩ :: (Ly++[⟨13,t2⟩]++Ln)) from (show Seg C p (Lc++(⟨14,t1⟩ :: (Ly++[⟨13,t2⟩]++Ln))) by simpa using hs).right).at;have g13:C.getD (p+Lc.length+1+Ly.length) ⟨0,0⟩=⟨13,t2⟩:=by
  have h:=(show Seg C p ((Lc++[⟨14,t1⟩]++Ly)++(⟨13,t2⟩ :: Ln)) by simpa using hs).right.at;rw [← h];congr 1;simp only [Xc,Xe,Xf];omega
 obtain ⟨st1,r1,e1,e2,e3⟩:=hc st hlen (by omega) h0 (fun i hi hi2=>hno i hi (by omega)) (.inl (hno _ (by omega) (by omega)));have n14:Jg ⟨14,t1⟩ (s++[2])=some s:=by
  have:=Z1X (x:=⟨14,t1⟩) (ts:=[2]) (r:=[]) (s:=s) (by simp [Jg,ZF]) (by simpa using hl);simpa using this
 obtain ⟨st2,q1,q2,q3,q4⟩:=ZaB (st:=st1) (t:=p+Lc.length+1+Ly.length+1) (sh:=s) (by omega) (.inl (by rw [e3 _ (by omega)];exact hno _ (by omega) (by omega)));obtain ⟨st3,u1,u2,u3,u4⟩:=ZaB (st:=st2) (t:=p+Lc.length+1) (sh:=s) (by omega) (.inl (by rw [q4 _ (by omega),e3 _ (by omega)];exact hno _ (by omega) (by omega)));have s14:Z5r C (p+Lc.length) 1 st1=some st3:=by
  rw [Z3K,g14];unfold JJ;rw [XA,e2];simp only [Yax,n14];rw [if_neg (by simp),if_neg (by simp),if_pos trivial,if_pos (by omega),ht1,q1];simp only [XO];rw [← u1];congr 1
 obtain ⟨st4,v1,v2,v3,v4⟩:=hy st3 (by omega) (by omega) u3 (fun i hi hi2=>by rw [u4 i (by omega),q4 i (by omega),e3 i (by omega)];exact hno i (by omega) (by omega)) (.inl (by rw [u4 _ (by omega),q4 _ (by omega),e3 _ (by omega)];exact hno _ (by omega) (by omega)));have n13:Jg ⟨13,t2⟩ s'=some s':=by
  simp [Jg,ZF,hl']
 have hq4:st4[p+Lc.length+1+Ly.length+1+Ln.length]?=st[p+(Lc.length+(1+(Ly.length+(1+Ln.length))))]?:=by
  rw [v4 _ (by omega),u4 _ (by omega),q4 _ (by omega),e3 _ (by omega)];congr 1;omega
 obtain ⟨st5,w1,w2,w3,w4⟩:=ZaB (st:=st4) (t:=p+Lc.length+1+Ly.length+1+Ln.length) (sh:=s') (by omega) (by rw [hq4];exact hq);have s13:Z5r C (p+Lc.length+1+Ly.length) 1 st4=some st5:=by
  rw [Z3K,g13];unfold JJ;rw [XA,v3];simp only [Yax,n13];rw [if_neg (by simp),if_pos trivial,if_pos (by omega),ht2,w1]
 obtain ⟨st6,x1,x2,x3,x4⟩:=hn st5 (by omega) (by omega) (by rw [w4 _ (by omega),v4 _ (by omega),u4 _ (by omega)];exact q3) (fun i hi hi2=>by rw [w4 i (by omega),v4 i (by omega),u4 i (by omega),q4 i (by omega),e3 i (by omega)];exact hno i (by omega) (by omega)) (.inr w3);refine ⟨st6,?_,x2,?_,fun i hi=>by rw [x4 i (by omega),w4 i (by omega),v4 i (by omega),u4 i (by omega),q4 i (by omega),e3 i (by omega)]⟩;rw [Z1p,r1,XO,Z1p,s14,XO,Z1p,v1,XO,Z1p,s13,XO];exact x1;rw [← x3];congr 1;omega
theorem Zn6 {x:Sig} (h:Z3x x≠0):(x,Value.int .i64 (Z3x x))∈Z3w:=by
 have hs:=Zbu x;unfold Z3x ZfA Z3t at *;cases hf:Z3w.find? (fun p=>decide (p.1=x)) with
 | none=>rw [hf] at h;simp at h
 | some p=>
   have h1:=X3 hf;have h2:=Ybh hf;simp only [decide_eq_true_eq] at h2;rw [hf] at hs;simp only at hs ⊢;exact (congrArg (·∈Z3w) (Prod.ext h2 hs:p=(x,_))).mp h1
theorem Zg7 {x:Sig} (h:Z3x x≠0):∃ e∈Z3w,x=e.1∧e.2=.I (Z3x x):=⟨_,Zn6 h,rfl,rfl⟩
theorem Zou {ts:List Int} (h0:(0:Int)∉ts) (h3:ts.length≤3) (hn:ts≠[]) (h2:ts.getD 2 0=0):(ts.getD 1 0=0∧ts=[ts.getD 0 0])∨(ts.getD 1 0≠0∧ts=[ts.getD 0 0,ts.getD 1 0]):=by
 match ts,h3 with
 | [],_=>exact absurd rfl hn
 | [a],_=>left;exact ⟨rfl,rfl⟩
 | [a,b],_=>right;refine ⟨fun hb=>h0 ?_,rfl⟩;simp at hb;simp [hb]
 | [a,b,c],_=>exact absurd (by simp at h2;simp [h2]) h0
theorem Z6M {k n:Int} {s:Str} {ts:List Int} (h:JF k n s ts≠0) :
 (ts=[]∧JF k n s ts=Z0Y k n s)∨
 ((0:Int)∉ts∧ts.length≤3∧ts≠[]∧((k=9∧ts=[2,JF k n s ts,JF k n s ts])∨(k=6∧ts.getD 2 0=0∧JF k n s ts=Z1R s (ts.getD 0 0) (ts.getD 1 0))∨(JF k n s ts=Z3x ⟨k,s,ts.getD 0 0,ts.getD 1 0,ts.getD 2 0⟩))):=by
 unfold JF at h ⊢;split at h;exact absurd rfl h;rename_i h3;split at h;exact absurd rfl h;rename_i h0;rw [if_neg h3,if_neg h0];split at h;rename_i he
 left;exact ⟨he,by rw [if_pos he]⟩;rename_i he
 right;rw [if_neg he];refine ⟨h0,by omega,he,?_⟩;split at h;exact absurd rfl h;rename_i hn;rw [if_neg hn];split at h
 · rename_i h9
   left;rw [if_pos h9];refine ⟨h9.1,?_⟩;obtain ⟨_,_,e2,e3⟩:=h9
   match ts,h3 with
   | [],_=>exact absurd rfl he
   | [a],_=>simp at e2 e3 h
   | [a,b],_=>simp at e2 e3 h;exact absurd e3 h
   | [a,b,c],_=>simp at e2 e3 ⊢;exact ⟨e2,e3.symm⟩
   | a :: b :: c :: d :: r,h3=>simp at h3
 rename_i h9;rw [if_neg h9];split at h;rename_i h6
 right;left;rw [if_pos h6];exact ⟨h6.1,h6.2,rfl⟩;rename_i h6
 right;right;rw [if_neg h6]
theorem Zn7 {α:Type} {l:List α} (h:l.length=2):∃ a b,l=[a,b]:=by
 match l,h with
 | [a,b],_=>exact ⟨a,b,rfl⟩
theorem Zn8 {α:Type} {l:List α} (h:l.length=3):∃ a b c,l=[a,b,c]:=by
 match l,h with
 | [a,b,c],_=>exact ⟨a,b,c,rfl⟩
theorem Zc3 (x:Nd):Ze x≠0→∀ p,Zb x p≠[]:=by
 induction x using Nd.ind with
 | h k n s l ih=>
 intro ht p;have hk:∀ y∈l,Ze y≠0:=fun y hy=>Z6a (x:=.mk k n s l) ht hy;rw [Zb];unfold Z1b;have hp:∀ p,l≠[]→Z0C k s (l.map Zb) p≠[]:=by
  intro p hl;unfold Z0C;cases l with
  | nil=>exact absurd rfl hl
  | cons y r=>
    have:=ih y (by simp) (hk y (by simp)) p;simp only [Xy,Jn];intro h;simp only [Ya7] at h;exact this h.1.1.1
 split;simp;rename_i hl;have hl':l≠[]:=fun h=>hl (by rw [h];rfl)
 split;unfold chC;simp;split;unfold chC;simp;split;unfold chC;simp;split;simp;exact hp p hl'
theorem Zc4 {C:List Ins}:∀ (l:List Nd),(∀ y∈l,∀ p s,Seg C p (Zb y p)→s.length+ZE y≤16→Z2D C p (Zb y p) s (s++[Ze y]))→(∀ y∈l,∀ p,Zb y p≠[])→
 ∀ p s,l≠[]→Seg C p (Jn (l.map Zb) p)→(∀ y∈l,s.length+(l.length - 1)+ZE y≤16)→Z2D C p (Jn (l.map Zb) p) s (s++l.map Ze)
 | [],_,_,_,_,h,_,_=>absurd rfl h
 | [y], hr, hne, p, s, _, hs, hb => by
   have e:Jn ([y].map Zb) p=Zb y p:=by simp [Jn]
   rw [e] at hs ⊢;exact hr y (by simp) p s hs (by have:=hb y (by simp);simpa using this)
 | y :: z :: l, hr, hne, p, s, _, hs, hb => by
   have e:Jn ((y :: z :: l).map Zb) p=Zb y p++Jn ((z :: l).map Zb) (p+(Zb y p).length):=by simp [Jn]
   rw [e] at hs ⊢;have h1:=hr y (by simp) p s hs.left (by have:=hb y (by simp);omega);have h2:=Zc4 (z :: l) (fun y hy=>hr y (by simp [hy])) (fun y hy=>hne y (by simp [hy])) (p+(Zb y p).length) (s++[Ze y]) (by simp) hs.right (fun w hw=>by
    have:=hb w (by simp [hw]);simp only [Xc,Xe,Xf] at this ⊢;omega)
   have h3:Jn ((z :: l).map Zb) (p+(Zb y p).length)≠[]:=by
    simp only [Xy,Jn];intro h;simp only [Ya7] at h;exact hne z (by simp) _ h.1
   have:=Z2D.app h1 h2 (hne y (by simp) p) h3;simpa using this
theorem Z1Y {C:List Ins} {l:List Nd} {L:List Ins} {p:Nat} {s ts r:Shp} (hr:∀ y∈l,∀ p s,Seg C p (Zb y p)→s.length+ZE y≤16→Z2D C p (Zb y p) s (s++[Ze y])) (hne:∀ y∈l,∀ p,Zb y p≠[])
 (hts:l.map Ze=ts) (hl:l≠[]) (hL:L≠[]) (hs:Seg C p (Jn (l.map Zb) p++L)) (hb:∀ y∈l,s.length+(l.length - 1)+ZE y≤16) (ho:∀ x∈L,x.op≠24∧x.op≠13∧x.op≠14) (hf:Z6L 2 L ts=some r) (h2:s.length+2≤16) :
 Z2D C p (Jn (l.map Zb) p++L) s (s++r):=by
 have h1:=Zc4 l hr hne p s hl hs.left hb;rw [hts] at h1;have h3:Jn (l.map Zb) p≠[]:=by
  cases l with
  | nil=>exact absurd rfl hl
  | cons y l=>
    simp only [Xy,Jn];intro h;simp only [Ya7] at h;exact hne y (by simp) _ h.1
 exact Z2D.app h1 (Z9k 2 L _ s ts r hL hs.right ho hf h2) h3 hL
def Z3L (k:Int) (s:Str):List Ins:=(if k=8∨k=5∧s=[45] then [⟨8,0⟩] else [])++Z29 (opF s)
theorem Z2E (k:Int) (s:Str) (cs:List Cf) (p:Nat):Z0C k s cs p=Jn cs p++Z3L k s:=by unfold Z0C Z3L;rw [Xx]
def okL (L:List Ins) (ts:List Int) (t:Int):Bool:=decide (L≠[]) && L.all (fun x=>decide (x.op≠24∧x.op≠13∧x.op≠14)) && decide (Z6L 2 L ts=some [t])
theorem Z5t {L:List Ins} {ts:List Int} {t:Int} (h:okL L ts t=true):L≠[]∧(∀ x∈L,x.op≠24∧x.op≠13∧x.op≠14)∧Z6L 2 L ts=some [t]:=by
 unfold okL at h;simp only [Xm,decide_eq_true_eq,XY] at h;exact ⟨h.1.1,h.1.2,h.2⟩
def Zov (e:ZiT):Bool:=
 match e.2 with
 | .I t=>decide (e.1.kind≠9) && decide (e.1.kind≠6) && decide (e.1.c=0) && okL (Z3L e.1.kind e.1.s) (if e.1.b=0 then [e.1.a] else [e.1.a,e.1.b]) t
 | _=>false
theorem Zn9:Z3w.all Zov=true:=by decide +kernel
theorem ZjO:Z0a.all (fun s=>okL (Z3L 6 s++(if s=[45] then [⟨6,0⟩] else [])) [1,1] 1 && !decide (s=[97,110,100]) && !decide (s=[111,114]))=true:=by decide +kernel
theorem Zna:Z28.all (fun s=>okL (Z3L 6 s) [1,1] 2 && okL (Z3L 6 s) [3,3] 2 && !decide (s=[97,110,100]) && !decide (s=[111,114]) && !decide (s=[45]))=true:=by decide +kernel
theorem Zg8 (C:List Ins) (x:Nd):Ze x≠0→∀ p s,Seg C p (Zb x p)→s.length+ZE x≤16→Z2D C p (Zb x p) s (s++[Ze x]):=by
 induction x using Nd.ind with
 | h k n s l ih=>
 intro ht p sh hs hb;have hk:∀ y∈l,Ze y≠0:=fun y hy=>Z6a (x:=.mk k n s l) ht hy;have hr:∀ y∈l,∀ p s,Seg C p (Zb y p)→s.length+ZE y≤16→Z2D C p (Zb y p) s (s++[Ze y]):=fun y hy=>ih y hy (hk y hy);have hne:∀ y∈l,∀ p,Zb y p≠[]:=fun y hy=>Zc3 y (hk y hy);have hnest:∀ y∈l,ZE y+1≤ZE (.mk k n s l):=fun y hy=>by have:=Zbz (x:=.mk k n s l) hy;omega
 have hrange:=Z3y (.mk k n s l);have hteq:Ze (.mk k n s l)=JF k n s (l.map Ze):=Z0I _;rw [Zb] at hs ⊢;rw [hteq] at ht hrange ⊢;rcases Z6M ht with ⟨he,hc⟩|⟨h0,h3,hn0,hc⟩
 ·
   have hl:l=[]:=by simpa using he
   subst hl;unfold Z1b at hs ⊢;rw [if_pos (show (List.map Zb ([]:List Nd)).length=0 from rfl)] at hs ⊢;rw [hc] at ht ⊢;have hlen:sh.length+1≤16:=by
    have:1≤ZE (.mk k n s []):=by rw [Z0J];omega
    omega
   refine Z5s hs ?_ ?_ ?_ ?_;unfold Z0Z;split<;>(try split)<;>(try split)<;>simp;unfold Z0Z;split<;>(try split)<;>(try split)<;>simp;unfold Z0Z;split<;>(try split)<;>(try split)<;>simp;have hnx:Jg (Z0Z k n s) []=some [Z0Y k n s]:=by
    unfold Z0Y at ht ⊢;unfold Z0Z;by_cases k4:k=4;subst k4;rw [if_pos rfl] at ht ⊢;split at ht
    · rename_i hn
      rw [if_pos hn];have hf:((ZR s).2.1=3∧((ZR s).1=0∨(ZR s).1=1))∨((ZR s).2.1=1∧2≤(ZR s).1∧(ZR s).1<7):=by
       have h1:(ZR s).2.2=true:=by
        cases hb:(ZR s).2.2 with
        | true=>rfl
        | false=>exact absurd (Z5V hb) ht
       obtain ⟨i,hi,hsn,_⟩:=(Z7W s (ZR s).1).1 ⟨h1,rfl⟩;subst hsn
       match i,hi with
       | 0,_=>decide +kernel
       | 1,_=>decide +kernel
       | 2,_=>decide +kernel
       | 3,_=>decide +kernel
       | 4,_=>decide +kernel
       | 5,_=>decide +kernel
       | 6,_=>decide +kernel
      rw [if_neg (by decide),if_neg (by decide),if_neg (by decide)];rcases hf with ⟨e1,e2⟩|⟨e1,e2,e3⟩
      simp [Jg,ZF,e1,e2];omega;simp [Jg,ZF,e1];omega
    exact absurd rfl ht;rw [if_neg k4] at ht ⊢;split at ht;exact absurd rfl ht;rename_i hs0;rw [if_neg hs0];by_cases k1:k=1;rw [if_pos k1] at ht ⊢;rw [if_pos k1];split at ht;rename_i h;rw [if_pos h];simp [Jg,ZF];omega;exact absurd rfl ht;rw [if_neg k1] at ht ⊢;rw [if_neg k1];by_cases k2:k=2;rw [if_pos k2] at ht ⊢;rw [if_pos k2];split at ht;rename_i h;rw [if_pos h];simp [Jg,ZF];omega;exact absurd rfl ht;rw [if_neg k2] at ht ⊢;rw [if_neg k2];by_cases k3:k=3;rw [if_pos k3] at ht ⊢;rw [if_pos k3];split at ht;rename_i h;rw [if_pos h];simp [Jg,ZF];omega;exact absurd rfl ht;rw [if_neg k3] at ht;exact absurd rfl ht
   have:=Z1X (s:=sh) hnx (by simpa using hlen);simpa using this
 · have hl:l≠[]:=fun h=>hn0 (by rw [h];rfl)
   have hlen:l.length≤3:=by simpa using h3
   have hlen0:¬ (l.map Zb).length=0:=by simpa using hl
   unfold Z1b at hs ⊢;rw [if_neg hlen0] at hs ⊢;rcases hc with ⟨h9,hts⟩|⟨h6,hg2,hbt⟩|hsg
   ·
     rw [if_pos h9] at hs ⊢;generalize JF k n s (l.map Ze)=t at *;have hl3:l.length=3:=by have:=congrArg List.length hts;simpa using this
     obtain ⟨a,b,c,rfl⟩:=Zn8 hl3;simp only [Xy,XQ,Ybg,and_true] at hts;obtain ⟨ta,tb,tc⟩:=hts;simp only [Xy,XQ,XW,Yak] at hs ⊢;unfold chC at hs ⊢;have na:=hnest a (by simp);have nb:=hnest b (by simp);have nc:=hnest c (by simp);refine ZaC _ _ hs rfl rfl ?_ ?_ ?_ (hne a (by simp) _) (hne b (by simp) _) (hne c (by simp) _) (by omega) (by simp only [Xc,Xe,Xf];omega);rw [← ta];exact hr a (by simp) p sh (by have:=hs.left.left.left.left;exact this) (by omega);rw [← tb];have h2:=hs.left.left.right;simp only [Xc,Xe,Xf] at h2;exact hr b (by simp) _ sh h2 (by omega);rw [← tc];have h2:=hs.right;simp only [Xc,Xe,Xf] at h2;have e:p+((Zb a p).length+(0+1)+(Zb b (p+(Zb a p).length+1)).length+(0+1))=p+(Zb a p).length+1+(Zb b (p+(Zb a p).length+1)).length+1:=by omega
     rw [e] at h2;exact hr c (by simp) _ sh h2 (by omega)
   ·
     subst h6;rw [if_neg (by decide)] at hs ⊢;rcases Zou h0 h3 hn0 hg2 with ⟨hb0,hts⟩|⟨hb0,hts⟩
     exfalso;apply ht;rw [hbt,hb0];have ha0:(l.map Ze).getD 0 0≠0:=fun h=>h0 (by rw [hts,h];simp)
     unfold Z1R;split;rw [if_neg (by omega)];split;rw [if_neg (by omega)];split;rw [if_neg (by omega)];rfl;have hl2:l.length=2:=by have:=congrArg List.length hts;simpa using this
     obtain ⟨a,b,rfl⟩:=Zn7 hl2;simp only [Xy,XQ,XW,Yak] at hbt;have na:=hnest a (by simp);have nb:=hnest b (by simp);have ra:=Z3y a;have hbnd:∀ y∈[a,b],sh.length+([a,b].length - 1)+ZE y≤16:=fun y hy=>by
      have:=hnest y hy;simp only [Xe,Xf];omega
     have h2:sh.length+2≤16:=by
      have:1≤ZE a:=by rw [Z0J];omega
      omega
     by_cases hA:s∈Z0a;have hok:=XY.1 ZjO s hA;simp only [Xm,Bool.not_eq_true',decide_eq_false_iff_not] at hok;obtain ⟨⟨hok,hand⟩,hor⟩:=hok;obtain ⟨o1,o2,o3⟩:=Z5t hok;have hab:Ze a=Ze b∧Ze a=1:=by
      unfold Z1R at hbt;rw [if_pos hA] at hbt;split at hbt;assumption;exact absurd hbt ht
     have ht1:JF 6 n s ([a,b].map Ze)=1:=by
      show JF 6 n s [Ze a,Ze b]=1;rw [hbt];unfold Z1R;rw [if_pos hA,if_pos hab]
     rw [ht1];rw [if_neg (by intro h;exact hand h.2),if_neg (by intro h;exact hor h.2)] at hs ⊢;split at hs;rename_i hm;rw [if_pos hm];rw [Z2E,Xx] at hs ⊢;rw [if_pos hm.2] at o1 o2 o3;exact Z1Y hr hne (ts:=[1,1]) (by simp [hab.2,← hab.1]) (by simp) o1 hs hbnd o2 o3 h2;rename_i hm;rw [if_neg hm];have hm':¬ s=[45]:=fun h=>hm ⟨rfl,h⟩;rw [if_neg hm',XG] at o1 o2 o3;rw [Z2E] at hs ⊢;exact Z1Y hr hne (ts:=[1,1]) (by simp [hab.2,← hab.1]) (by simp) o1 hs hbnd o2 o3 h2;by_cases hC:s∈Z28;have hok:=XY.1 Zna s hC;simp only [Xm,Bool.not_eq_true',decide_eq_false_iff_not] at hok;obtain ⟨⟨⟨⟨hok1,hok3⟩,hand⟩,hor⟩,hmi⟩:=hok;have hab:Ze a=Ze b∧¬ Ze a=2:=by
      unfold Z1R at hbt;rw [if_neg hA,if_pos hC] at hbt;split at hbt;assumption;exact absurd hbt ht
     have ht2:JF 6 n s ([a,b].map Ze)=2:=by
      show JF 6 n s [Ze a,Ze b]=2;rw [hbt];unfold Z1R;rw [if_neg hA,if_pos hC,if_pos hab]
     rw [ht2];rw [if_neg (by intro h;exact hand h.2),if_neg (by intro h;exact hor h.2),if_neg (by intro h;exact hmi h.2),Z2E] at hs ⊢;have ka:=hk a (by simp);have h13:Ze a=1∨Ze a=3:=by omega
     rcases h13 with h|h
     obtain ⟨o1,o2,o3⟩:=Z5t hok1;exact Z1Y hr hne (ts:=[1,1]) (by simp [h,← hab.1]) (by simp) o1 hs hbnd o2 o3 h2;obtain ⟨o1,o2,o3⟩:=Z5t hok3;exact Z1Y hr hne (ts:=[3,3]) (by simp [h,← hab.1]) (by simp) o1 hs hbnd o2 o3 h2;have hL:s∈Z03:=by
      by_cases hL:s∈Z03;exact hL;exfalso;apply ht;show JF 6 n s [Ze a,Ze b]=0;rw [hbt];unfold Z1R;rw [if_neg hA,if_neg hC,if_neg hL]
     have hab:Ze a=Ze b∧Ze a=2:=by
      unfold Z1R at hbt;rw [if_neg hA,if_neg hC,if_pos hL] at hbt;split at hbt;assumption;exact absurd hbt ht
     have ht2:JF 6 n s ([a,b].map Ze)=2:=by
      show JF 6 n s [Ze a,Ze b]=2;rw [hbt];unfold Z1R;rw [if_neg hA,if_neg hC,if_pos hL,if_pos hab]
     rw [ht2];have hconst:∀ (z:Int) (q:Nat),(z=0∨z=1)→Seg C q [⟨2,z⟩]→Z2D C q [⟨2,z⟩] sh (sh++[2]):=fun z q hz hsq=>by
      have hnx:Jg ⟨2,z⟩ []=some [2]:=by simp [Jg,ZF,hz]
      have:=Z1X (s:=sh) hnx (by simp only [Xe,Xf];omega);rw [XG] at this;exact Z5s hsq (by simp) (by simp) (by simp) this
     simp only [Z03,Xb,Xj,or_false] at hL;rcases hL with hL|hL
     rw [if_pos ⟨rfl,hL⟩] at hs ⊢;simp only [Xy,XQ,XW,Yak] at hs ⊢;unfold chC at hs ⊢;refine ZaC _ _ hs rfl rfl ?_ ?_ ?_ (hne a (by simp) _) (hne b (by simp) _) (by simp) (by omega) (by simp only [Xc,Xe,Xf];omega);have h1:=hr a (by simp) p sh hs.left.left.left.left (by omega);rw [hab.2] at h1;exact h1;have h2:=hs.left.left.right;simp only [Xc,Xe,Xf] at h2;have h1:=hr b (by simp) _ sh h2 (by omega);rw [← hab.1,hab.2] at h1;exact h1;have h2:=hs.right;simp only [Xc,Xe,Xf] at h2;have e:p+((Zb a p).length+(0+1)+(Zb b (p+(Zb a p).length+1)).length+(0+1))=p+(Zb a p).length+1+(Zb b (p+(Zb a p).length+1)).length+1:=by omega
     rw [e] at h2;exact hconst 0 _ (.inl rfl) h2;have hna:¬ ((6:Int)=6∧s=[97,110,100]):=by rintro ⟨_,h⟩;rw [hL] at h;exact absurd h (by decide)
     rw [if_neg hna,if_pos ⟨rfl,hL⟩] at hs ⊢;simp only [Xy,XQ,XW,Yak] at hs ⊢;unfold chC at hs ⊢;refine ZaC _ _ hs rfl rfl ?_ ?_ ?_ (hne a (by simp) _) (by simp) (hne b (by simp) _) (by omega) (by simp only [Xc,Xe,Xf];omega);have h1:=hr a (by simp) p sh hs.left.left.left.left (by omega);rw [hab.2] at h1;exact h1;have h2:=hs.left.left.right;simp only [Xc,Xe,Xf] at h2;exact hconst 1 _ (.inr rfl) h2;have h2:=hs.right;simp only [Xc,Xe,Xf] at h2;have e:p+((Zb a p).length+(0+1)+(0+1)+(0+1))=p+(Zb a p).length+1+(0+1)+1:=by omega
     rw [e] at h2;have h1:=hr b (by simp) _ sh h2 (by omega);rw [← hab.1,hab.2] at h1;exact h1
   ·
     obtain ⟨e,he,hxe,hev⟩:=Zg7 (by rw [← hsg];exact ht);have hok:=XY.1 Zn9 e he;unfold Zov at hok;rw [hev] at hok;simp only [Xm,decide_eq_true_eq] at hok;obtain ⟨⟨⟨k9,k6⟩,hc0⟩,hokl⟩:=hok;rw [← hxe] at k9 k6 hc0 hokl;simp only at k9 k6 hc0 hokl;obtain ⟨o1,o2,o3⟩:=Z5t hokl;rw [if_neg k9,if_neg (by intro h;exact k6 h.1),if_neg (by intro h;exact k6 h.1),if_neg (by intro h;exact k6 h.1),Z2E] at hs ⊢;rw [hsg];have hts:l.map Ze=(if (l.map Ze).getD 1 0=0 then [(l.map Ze).getD 0 0] else [(l.map Ze).getD 0 0,(l.map Ze).getD 1 0]):=by
      rcases Zou h0 h3 hn0 hc0 with ⟨h1,h2⟩|⟨h1,h2⟩
      rw [if_pos h1];exact h2;rw [if_neg h1];exact h2
     have hl2:l.length≤2:=by
      have:=congrArg List.length hts;rw [Xs] at this;split at this<;>simp only [Xe,Xf] at this<;>omega
     have h2:sh.length+2≤16:=by
      cases l with
      | nil=>exact absurd rfl hl
      | cons y r=>
        have:=hnest y (by simp);have:1≤ZE y:=by rw [Z0J];omega
        omega
     exact Z1Y hr hne hts hl o1 hs (fun y hy=>by have:=hnest y hy;omega) o2 o3 h2
theorem Z9l (y:Nd) (ht:Ze y≠0) (hn:ZE y≤12) (hl:(J0 y).length≤200):Z1W (J0 y)=(Ze y,0):=by
 have hne:=Zc3 y ht 0;have hpos:=X7.2 hne;unfold J0 at hl ⊢;have hlen:(Zb y 0++[(⟨24,0⟩:Ins)]).length=(Zb y 0).length+1:=by simp
 have hr:=Zg8 (Zb y 0++[⟨24,0⟩]) y ht 0 [] ⟨[],[⟨24,0⟩],by simp,rfl⟩ (by simp only [Xf];omega);obtain ⟨st,r1,r2,r3,_⟩:=hr ((some []) :: List.replicate ((Zb y 0++[(⟨24,0⟩:Ins)]).length - 1) none) (by simp) (by rw [hlen];omega) (by simp) (fun i hi hi2=>by
  cases i with
  | zero=>omega
  | succ i=>
    rw [YaJ,Ya3,if_pos (by rw [hlen];omega)]) (.inl (by
  rw [XJ];obtain ⟨m,hm⟩:∃ m,(Zb y 0).length=m+1:=⟨(Zb y 0).length - 1,by omega⟩
  rw [hm,YaJ,Ya3,if_pos (by rw [hlen];omega)]))
 rw [XJ] at r3;rw [XL] at r3;unfold Z1W;rw [if_neg (by rw [hlen] at hl ⊢;omega)];have hrun:Z3m (Zb y 0++[⟨24,0⟩]) (Zb y 0++[(⟨24,0⟩:Ins)]).length ((some []) :: List.replicate ((Zb y 0++[(⟨24,0⟩:Ins)]).length - 1) none)=some st:=by
  rw [Z9j]
  conv=>lhs;arg 3;rw [hlen]
  rw [Z1p,r1,XO,XJ,Z3K];have hg:(Zb y 0++[(⟨24,0⟩:Ins)]).getD (Zb y 0).length ⟨0,0⟩=⟨24,0⟩:=by simp
  rw [hg];unfold JJ;rw [XA,r3];have hnx:Jg ⟨24,0⟩ [Ze y]=some [Ze y]:=by simp [Jg,ZF]
  simp only [Yax,hnx];rw [if_pos trivial,if_pos (by constructor<;>simp [r2])]
 rw [hrun];have e:(Zb y 0++[(⟨24,0⟩:Ins)]).length - 1=(Zb y 0).length:=by rw [hlen];omega
 simp only [e];rw [XA,r3];rfl
structure Hol where
 kind:Int
 month:Int
 day:Int
 wd:Int
 nth:Int
 off:Int
 move:Int
 first:Int
 last:Int
structure Clo where
 lo:Int
 hi:Int
 known:Int
structure Cal where
 week:List Bool
 hols:List Hol
 clos:List Clo
def ZO (d:Int):Bool:=decide (0≤d∧d≤3652058)
def Z3j (y:Int):Int:=
 let a:=y % 19
 let b:=y / 100
 let c:=y % 100
 let g:=(b - (b+8) / 25+1) / 3
 let h:=(19 * a+b - b / 4 - g+15) % 30
 let l:=(32+2 * (b % 4)+2 * (c / 4) - h - c % 4) % 7
 h+l - 7 * ((a+11 * h+22 * l) / 451)+114
def Z5u (y:Int):Int:=Z04 y (Z3j y / 31) (Z3j y % 31+1)
def Z3M (y m wd:Int):Int:=Z04 y m 1+(wd - Z04 y m 1 % 7+7) % 7
def Znb (h:Hol) (y:Int):Option Int:=
 if y<h.first∨h.last<y then none
 else if h.kind=1 then (if Z1U y h.month h.day then none else some (Z04 y h.month h.day))
 else if h.kind=2 then (if Z3M y h.month h.wd+7 * (h.nth - 1)<Z04 y h.month 1+ZL y h.month then some (Z3M y h.month h.wd+7 * (h.nth - 1)) else none)
 else if h.kind=3 then some (Z3M y h.month h.wd+(Z04 y h.month 1+ZL y h.month - 1 - Z3M y h.month h.wd) / 7 * 7)
 else if y<1583∨9999<y then none else some (Z5u y+h.off)
def Z3N (m d:Int):Int:=if m=1∧d % 7=5 then d+2 else if m=2∧d % 7=5 then d - 1 else if (m=1∨m=2)∧d % 7=6 then d+1 else d
def Z2h (h:Hol) (y:Int):Option Int:=(Znb h y).bind fun d=>if ZO (Z3N h.move d) then some (Z3N h.move d) else none
structure Z1Z (h:Hol):Prop where
 k1:1≤h.kind
 k2:h.kind≤4
 m1:0≤h.move
 m2:h.move≤2
 f1:1≤h.first
 l1:h.last≤9999
 month:h.kind≠4→1≤h.month∧h.month≤12
 day:h.kind=1→1≤h.day∧h.day≤31
 wd:h.kind=2∨h.kind=3→0≤h.wd∧h.wd≤6
 nth:h.kind=2→1≤h.nth∧h.nth≤5
 off:h.kind=4→-100≤h.off∧h.off≤100
def Z7X (l:List Hol) (d:Int):Bool:=
 ZO d && [(ofM d).y - 1,(ofM d).y,(ofM d).y+1].any fun y=>l.any fun h=>decide (Z2h h y=some d)
def Zc5 (l:List Clo) (known d:Int):Bool:=l.any fun x=>decide (x.known≤known∧x.lo≤d∧d≤x.hi)
def ZeM (c:Cal) (known d:Int):Bool:=c.week.getD (d % 7).toNat false || Zc5 c.clos known d || Z7X c.hols d
def ZB (c:Cal) (known d:Int):Bool:=ZO d && !ZeM c known d
structure ZjP (c:Cal):Prop where
 week:c.week.length=7
 hols:∀ h∈c.hols,Z1Z h
 few:c.hols.length≤6
def Z3O (opn:Int→Bool) (step:Int):Nat→Int→Int×Int
 | 0,_=>(0,31)
 | k+1,d=>if ZO d=true then (if opn d=true then (d,0) else Z3O opn step k (d+step)) else (0,31)
def Jz (opn:Int→Bool) (step d:Int):Int×Int:=if ZO d=true then Z3O opn step 1001 d else (0,5)
def Z6b (opn:Int→Bool) (step:Int):Nat→Int→Int×Int
 | 0,d=>(d,0)
 | k+1,d=>if (Jz opn step (d+step)).2=0 then Z6b opn step k (Jz opn step (d+step)).1 else (0,31)
def Z6c (opn:Int→Bool) (d n:Int):Int×Int:=
 if ZO d=true then (if n < -1000∨1000<n then (0,2) else Z6b opn (if n<0 then -1 else 1) n.natAbs d) else (0,5)
def Zc6 (d n:Int):Int×Int:=
 if n < -200000∨200000<n then (0,2) else if ZO d=true then
  (let m:=12 * (ofM d).y+(ofM d).m - 1+n
   if m<12∨120000≤m then (0,5) else (Z04 (m / 12) (m % 12+1) (min (ofM d).d (ZL (m / 12) (m % 12+1))),0))
 else (0,5)
def Z3P (b:Bool):Int:=if b=true then 1 else 0
def Z4w (n:Int):Int×Int:=if n < -2147483647∨2147483647<n then (0,5) else (n,0)
def Zc7 (n:Int):Int×Int:=if n<0∨3652058<n then (0,5) else (n,0)
def ZdN (ev:List Int) (n:Int):Int×Int:=if n=1∧ev.getD 1 0=-1 then (0,32) else (ev.getD n.toNat 0,0)
def Zc8 (opn:Int→Bool) (op b:Int):Int×Int:=
 if op=8 then (-b,0) else if op=19 then Jz opn 1 b else if op=20 then Jz opn (-1) b else (1 - b,0)
def Z3Q (opn:Int→Bool) (op a b:Int):Int×Int:=
 if op=5 then Z4w (a+b) else if op=6 then Z4w (a - b) else if op=7 then Z4w (a * b)
 else if op=9 then (Z3P (decide (a<b)),0) else if op=10 then (Z3P (decide (a≤b)),0) else if op=11 then (Z3P (decide (a=b)),0)
 else if op=15 then Zc7 (a+b) else if op=16 then Zc7 (a+7 * b) else if op=17 then Zc6 a b else if op=18 then Z6c opn a b
 else if op=21 then (max a b,0) else if op=22 then (min a b,0) else (b - a,0)
def arM (op:Int):Nat:=if op=1∨op=2∨op=3∨op=4 then 0 else if op=8∨op=12∨op=19∨op=20 then 1 else 2
def Z0d (opn:Int→Bool) (ev:List Int) (x:Ins) (a b:Int):Int×Int:=
 if x.op=4 then ZdN ev x.n else if arM x.op=0 then (x.n,0) else if arM x.op=1 then Zc8 opn x.op b else Z3Q opn x.op a b
abbrev Spn:=Int×Int
def Z00 (op a b r:Int):List Spn:=
 if op=19 then [(b,r)] else if op=20 then [(r,b)] else if op=18 then (if 0<b then [(a+1,r)] else if b<0 then [(r,a - 1)] else []) else []
def Z05 (st:List Int) (k:Nat):Int:=if k<st.length then st.getD (st.length - 1 - k) 0 else 0
def Z71 (opn:Int→Bool) (ev:List Int) (C:List Ins):Nat→Nat→List Int→List Spn→Int×List Spn×Int
 | 0,_,_,_=>(0,[],22)
 | f + 1, i, st, sp=>
   let x:=C.getD i ⟨0,0⟩
   let b:=Z05 st 0
   let a:=Z05 st 1
   if x.op=24 then (b,sp,0)
   else if x.op=13 then Z71 opn ev C f x.n.toNat st sp
   else if x.op=14 then Z71 opn ev C f (if b=0 then x.n.toNat else i+1) st.dropLast sp
   else if (Z0d opn ev x a b).2=0 then Z71 opn ev C f (i+1) (st.take (st.length - arM x.op)++[(Z0d opn ev x a b).1]) (sp++Z00 x.op a b (Z0d opn ev x a b).1)
   else (0,[],(Z0d opn ev x a b).2)
def JK (opn:Int→Bool) (ev:List Int) (C:List Ins):Int×List Spn×Int:=Z71 opn ev C C.length 0 [] []
def vOk (t v:Int):Prop:=(t=1∧-2147483647≤v∧v≤2147483647)∨(t=2∧(v=0∨v=1))∨(t=3∧0≤v∧v≤3652058)
structure ZdO (ev:List Int):Prop where
 len:ev.length=7
 day:0≤ev.getD 0 0∧ev.getD 0 0≤3652058
 served:-1≤ev.getD 1 0∧ev.getD 1 0≤3652058
 rest:∀ i,2≤i→i<7→-2147483647≤ev.getD i 0∧ev.getD i 0≤2147483647
def Z0k (s:Shp) (st:List Int):Prop:=s.length=st.length∧∀ i (h:i<s.length) (h':i<st.length),vOk s[i] st[i]
theorem ZP {d:Int}:ZO d=true↔0≤d∧d≤3652058:=by unfold ZO;simp
theorem Zc9 (opn:Int→Bool) (step:Int):∀ (k:Nat) (d:Int),(Z3O opn step k d).2=0→ZO (Z3O opn step k d).1=true∧opn (Z3O opn step k d).1=true
 | 0,d,h=>by simp [Z3O] at h
 | k + 1, d, h => by
   unfold Z3O at h ⊢;split at h;rename_i h1;rw [if_pos h1];split at h;rename_i h2;rw [if_pos h2];exact ⟨h1,h2⟩;rename_i h2;rw [if_neg h2];exact Zc9 opn step k _ h;simp at h
theorem Z3R {opn:Int→Bool} {step d:Int} (h:(Jz opn step d).2=0):ZO (Jz opn step d).1=true∧ZO d=true:=by
 unfold Jz at h ⊢;split at h;rename_i h1;rw [if_pos h1];exact ⟨(Zc9 _ _ _ _ h).1,h1⟩;simp at h
theorem ZeN (opn:Int→Bool) (step:Int):∀ (k:Nat) (d:Int),ZO d=true→(Z6b opn step k d).2=0→ZO (Z6b opn step k d).1=true
 | 0,d,hd,h=>hd
 | k + 1, d, hd, h => by
   unfold Z6b at h ⊢;split at h;rename_i h1;rw [if_pos h1];exact ZeN opn step k _ (Z3R h1).1 h;simp at h
theorem Znc {opn:Int→Bool} {d n:Int} (h:(Z6c opn d n).2=0):ZO (Z6c opn d n).1=true:=by
 unfold Z6c at h ⊢;split at h;rename_i h1;rw [if_pos h1];split at h;simp at h;rename_i h2;rw [if_neg h2];exact ZeN _ _ _ _ h1 h;simp at h
theorem dayM_range {y m d:Int} (hy:1≤y) (hy2:y≤9999) (hm:1≤m) (hm2:m≤12) (hd:1≤d) (hd2:d≤ZL y m):0≤Z04 y m d∧Z04 y m d≤3652058:=by
 obtain ⟨k,hk⟩:∃ k:Nat,m=(k:Int)+1:=⟨(m - 1).toNat,by omega⟩
 subst hk;have hk:k≤11:=by omega
 rw [Z2A y d k hk];have h0:Z19 1=0:=by decide
 have h1:=Z3G hy;have h2:=Z3G (show y+1≤10000 by omega);have h3:Z19 10000=3652059:=by decide
 have hc0:0≤Z2a y k:=by
  have:=Z4e (y:=y) (Xq k) (by omega);simpa [Z2a] using this
 have hc:Z2a y (k+1)=Z2a y k+ZL y ((k:Int)+1):=by simp [Z2a]
 have hc12:=Z4e (y:=y) (show k+1≤12 by omega) (Xn _);have hs:=Z6G y;have h12:=ZwM y;omega
theorem Znd {d n:Int} (h:(Zc6 d n).2=0):ZO (Zc6 d n).1=true:=by
 unfold Zc6 at h ⊢;split at h;simp at h;rename_i h0;rw [if_neg h0];split at h;rename_i h1;rw [if_pos h1];dsimp only at h ⊢;split at h;simp at h;rename_i h2;rw [if_neg h2];rw [ZP] at h1 ⊢;obtain ⟨a1,a2,a3,a4,a5,a6,a7⟩:=Zaq h1.1 h1.2;generalize 12 * (ofM d).y+(ofM d).m - 1+n=m at h2;have hk:(m % 12).toNat<12:=by omega
 have hl:=Z2g (y:=m / 12) hk;rw [show (((m % 12).toNat:Int))=m % 12 by omega] at hl;dsimp only;exact dayM_range (by omega) (by omega) (by omega) (by omega) (by omega) (by omega);simp at h
theorem Z0k.nil:Z0k [] []:=⟨rfl,fun i h=>absurd h (Xu _)⟩
theorem Z0k.one {t v:Int} (h:vOk t v):Z0k [t] [v]:=⟨rfl,fun i hi _=>by
 have:i=0:=by simpa using hi
 subst this;exact h⟩
theorem Z0k.app {s1 s2:Shp} {l1 l2:List Int} (h1:Z0k s1 l1) (h2:Z0k s2 l2):Z0k (s1++s2) (l1++l2):=by
 refine ⟨by simp [h1.1,h2.1],fun i h h'=>?_⟩;by_cases hi:i<s1.length;rw [X6 hi,X6 (by rw [← h1.1];exact hi)];exact h1.2 i hi _;have e:=h1.1;rw [X2 (by omega),X2 (by omega)];have:=h2.2 (i - s1.length) (by simp at h;omega) (by simp at h';omega);simpa [e] using this
theorem Z0k.take {s:Shp} {l:List Int} (h:Z0k s l) (k:Nat):Z0k (s.take k) (l.take k):=
 ⟨by simp [h.1],fun i hi hi'=>by simp at hi hi' ⊢;exact h.2 i _ _⟩
theorem Z0k.drop {s:Shp} {l:List Int} (h:Z0k s l) (k:Nat):Z0k (s.drop k) (l.drop k):=
 ⟨by simp [h.1],fun i hi hi'=>by simp at hi hi' ⊢;exact h.2 _ _ _⟩
theorem Z0k.one_inv {t:Int} {l:List Int} (h:Z0k [t] l):∃ v,l=[v]∧vOk t v:=by
 match l,h with
 | [v],h=>exact ⟨v,rfl,h.2 0 (by simp) (by simp)⟩
 | [],h=>exact absurd h.1 (by simp)
 | _ :: _ :: _,h=>exact absurd h.1 (by simp)
theorem Z0k.two_inv {t u:Int} {l:List Int} (h:Z0k [t,u] l):∃ a b,l=[a,b]∧vOk t a∧vOk u b:=by
 match l,h with
 | [a,b],h=>exact ⟨a,b,rfl,h.2 0 (by simp) (by simp),h.2 1 (by simp) (by simp)⟩
 | [],h=>exact absurd h.1 (by simp)
 | [_],h=>exact absurd h.1 (by simp)
 | _ :: _ :: _ :: _,h=>exact absurd h.1 (by simp)
theorem Z1M (l:List Int) (v:Int):Z05 (l++[v]) 0=v:=by
 unfold Z05;simp
theorem Jl (l:List Int) (a b:Int):Z05 (l++[a,b]) 0=b∧Z05 (l++[a,b]) 1=a:=by
 unfold Z05;constructor<;>simp [XA,Yaz]
theorem Zne {n:Int} (h:(Z4w n).2=0):vOk 1 (Z4w n).1:=by
 unfold Z4w at h ⊢;split at h;simp at h;rename_i h1;rw [if_neg h1];left;refine ⟨rfl,?_,?_⟩<;>dsimp only<;>omega
theorem Znf {n:Int} (h:(Zc7 n).2=0):vOk 3 (Zc7 n).1:=by
 unfold Zc7 at h ⊢;split at h;simp at h;rename_i h1;rw [if_neg h1];right;right;refine ⟨rfl,?_,?_⟩<;>dsimp only<;>omega
theorem ZtC (b:Bool):vOk 2 (Z3P b):=by
 right;left;refine ⟨rfl,?_⟩;unfold Z3P;cases b<;>simp
theorem vOk.days {v:Int} (h:ZO v=true):vOk 3 v:=.inr (.inr ⟨rfl,ZP.1 h⟩)
theorem vOk.n {v:Int} (h:vOk 1 v):-2147483647≤v∧v≤2147483647:=by unfold vOk at h;omega
theorem vOk.b {v:Int} (h:vOk 2 v):v=0∨v=1:=by unfold vOk at h;omega
theorem vOk.d {v:Int} (h:vOk 3 v):0≤v∧v≤3652058:=by unfold vOk at h;omega
theorem Z7Y {x:Ins} (h:(ZF x).2.2.2=true):1≤x.op∧x.op≤24:=by
 by_cases h1:1≤x.op∧x.op≤24;exact h1
 · exfalso
   have:ZF x=([],[],[],false):=by
    unfold ZF
    repeat rw [if_neg (by omega)]
   rw [this] at h;simp at h
theorem ZtD {opn:Int→Bool} {ev:List Int} (hev:ZdO ev) {x:Ins} {ts vs:List Int} (hx:(ZF x).2.2.2=true) (h24:x.op≠24) (h13:x.op≠13) (h14:x.op≠14)
 (ht:ts=(ZF x).1∨(ZF x).2.1≠[]∧ts=(ZF x).2.1) (hs:Z0k ts vs) :
 ts.length=arM x.op∧(ZF x).1.length=arM x.op∧∀ st,((Z0d opn ev x (Z05 (st++vs) 1) (Z05 (st++vs) 0)).2=0→Z0k (ZF x).2.2.1 [(Z0d opn ev x (Z05 (st++vs) 1) (Z05 (st++vs) 0)).1]):=by
 have hr:=Z7Y hx;obtain ⟨op,n⟩:=x;dsimp only at *;have hop:op=1∨op=2∨op=3∨op=4∨op=5∨op=6∨op=7∨op=8∨op=9∨op=10∨op=11∨op=12∨op=15∨op=16∨op=17∨op=18∨op=19∨op=20∨op=21∨op=22∨op=23:=by omega
 rcases hop with rfl|rfl|rfl|rfl|rfl|rfl|rfl|rfl|rfl|rfl|rfl|rfl|rfl|rfl|rfl|rfl|rfl|rfl|rfl|rfl|rfl
 case inl|inr.inl|inr.inr.inl=>
  simp [ZF] at hx ht ⊢;subst ht;refine ⟨rfl,rfl,fun st _=>Z0k.one ?_⟩;simp [Z0d,arM,vOk];omega
 case inr.inr.inr.inl=>
  simp [ZF] at hx ht ⊢;subst ht;refine ⟨rfl,rfl,fun st h=>Z0k.one ?_⟩;simp only [Z0d,if_true] at h ⊢;unfold ZdN at h ⊢;split at h;simp at h;rename_i h1;rw [if_neg h1];dsimp only;have h0:=hev.day;have hs1:=hev.served;by_cases h01:n=0∨n=1;rw [if_pos h01]
  right;right;rcases h01 with rfl|rfl
  exact ⟨rfl,h0.1,h0.2⟩;refine ⟨rfl,?_,hs1.2⟩;have:¬ ev.getD 1 0=-1:=fun h=>h1 ⟨rfl,h⟩;show 0≤ev.getD 1 0;omega;rw [if_neg h01]
  left;exact ⟨rfl,hev.rest n.toNat (by omega) (by omega)⟩
 all_goals
  simp [ZF] at hx ht ⊢
  try subst hx
 all_goals
  first
  | (subst ht
     obtain ⟨b,rfl,hb⟩:=hs.one_inv;refine ⟨rfl,rfl,fun st h=>Z0k.one ?_⟩;simp only [Z1M] at h ⊢;simp [Z0d,arM,Zc8,Z3Q] at h ⊢;first
     | exact .days (Z3R h).1
     | (have:=hb.n;unfold vOk;omega)
     | (have:=hb.b;unfold vOk;omega))
  | (rcases ht with rfl | rfl <;>
     (obtain ⟨a,b,rfl,ha,hb⟩:=hs.two_inv
      refine ⟨rfl,rfl,fun st h=>Z0k.one ?_⟩;simp only [Jl] at h ⊢;simp [Z0d,arM,Zc8,Z3Q] at h ⊢;exact ZtC _))
  | (subst ht
     obtain ⟨a,b,rfl,ha,hb⟩:=hs.two_inv;refine ⟨rfl,rfl,fun st h=>Z0k.one ?_⟩;simp only [Jl] at h ⊢;simp [Z0d,arM,Zc8,Z3Q] at h ⊢;first
     | exact Zne h
     | exact Znf h
     | exact .days (Znd h)
     | exact .days (Znc h)
     | (have:=ha.d;have:=hb.d;unfold vOk;omega))
theorem Zca {opn:Int→Bool} {ev:List Int} (hev:ZdO ev) {x:Ins} {s nx:Shp} {st:List Int} (hn:Jg x s=some nx) (h24:x.op≠24) (h13:x.op≠13) (h14:x.op≠14) (hs:Z0k s st)
 (he:(Z0d opn ev x (Z05 st 1) (Z05 st 0)).2=0):Z0k nx (st.take (st.length - arM x.op)++[(Z0d opn ev x (Z05 st 1) (Z05 st 0)).1]):=by
 unfold Jg at hn;dsimp only at hn;split at hn;rename_i hc;obtain ⟨c1,c2,c3,c4⟩:=hc;simp only [XD] at hn;subst hn;have hsp:st=st.take (s.length - (ZF x).1.length)++st.drop (s.length - (ZF x).1.length):=(XB _ _).symm;obtain ⟨v1,v2,v3⟩:=ZtD (opn:=opn) hev c1 h24 h13 h14 c3 (hs.drop _);have v4:=v3 (st.take (s.length - (ZF x).1.length));rw [← hsp] at v4;rw [← v2,← hs.1];exact (hs.take _).app (v4 he);cases hn
end Go.Proofs.YtipfkbkkndacjaaGreatDoor
namespace Go.Eng
open Go Go.RowKit Go.Proofs
end Go.Eng
namespace Go.Proofs.YtipfkbkkndacjaaGreatDoor
open Go Go.Eng Go.RowKit
instance:Z3 Hol where
 k:=9
 enc:=fun h=>[.I h.kind,.I h.month,.I h.day,.I h.wd,.I h.nth,.I h.off,.I h.move,.I h.first,.I h.last]
 len:=fun _=>rfl
 one:=by intro x u hu;simp at hu;rcases hu with rfl|rfl|rfl|rfl|rfl|rfl|rfl|rfl|rfl<;>rfl
instance:Z3 Clo where
 k:=3
 enc:=fun h=>[.I h.lo,.I h.hi,.I h.known]
 len:=fun _=>rfl
 one:=by intro x u hu;simp at hu;rcases hu with rfl|rfl|rfl<;>rfl
instance:Z3 Spn where
 k:=2
 enc:=fun h=>[.I h.1,.I h.2]
 len:=fun _=>rfl
 one:=by intro x u hu;simp at hu;rcases hu with rfl|rfl<;>rfl
def Z6d:List Int:=[0,0,0,0,0,0,0,0,0,0,0,0,2,1,0,0,0,0,0,-1,1]
def Z3n (w:World):Prop:=∀ i u,Z6d[i]?=some u→w.cell? ⟨4,i,none⟩=some (.I u)
theorem Z3n.ext {S:List Nat} {w w':World} (h:Z3n w) (hS:Stp S w w') (hb:4∉S):Z3n w':=fun i u hu=>hS.cell hb (h i u hu)
theorem Z3n.up {w w':World} (h:Z3n w) (hS:Stp [] w w'):Z3n w':=h.ext hS (by simp)
structure MK where
 w0:World
 bm:Nat
 nk:Option Nat
 ev:List Int
 c:Cal
 kn:Int
 hv:Value
 cv:Value
 zo:Value
 zs:Value
 hr:Value
 pr:List (Nat×Obj)
def Z0e (c:Cal) (hv cv zo zs hr:Value):List Value:=
 [.B (c.week.getD 0 false),.B (c.week.getD 1 false),.B (c.week.getD 2 false),.B (c.week.getD 3 false),.B (c.week.getD 4 false),.B (c.week.getD 5 false),.B (c.week.getD 6 false),hv,cv,zo,zs,hr]
def evC (ev:List Int):List Value:=[.I (ev.getD 0 0),.I (ev.getD 1 0),.I (ev.getD 2 0),.I (ev.getD 3 0),.I (ev.getD 4 0),.I (ev.getD 5 0),.I (ev.getD 6 0)]
def Zow (nk:Option Nat):Value:=match nk with|none=>.nilIface|some bs=>.func (.func 80) #[] #[pQ bs]
def Z5v (K:MK) (sv:Value) (at_ er:Int) (dn:Bool):List Value:=
 evC K.ev++Z0e K.c K.hv K.cv K.zo K.zs K.hr++[.I K.kn,sv,.I at_,.I er,.B dn,Zow K.nk]
def MK.own (K:MK):List Nat:=K.bm :: K.nk.toList
structure KOk (K:MK):Prop where
 hols:SlV K.own K.w0 K.hv K.c.hols
 clos:SlV K.own K.w0 K.cv K.c.clos
 ozo:K.zo.oneCell'=true
 ozs:K.zs.oneCell'=true
 ohr:K.hr.oneCell'=true
 len:Z0E K.w0
 mov:Z3n K.w0
 bml:K.bm<K.w0.heap.size
 nkl:∀ b,K.nk=some b→b<K.w0.heap.size∧b≠K.bm
 gl:∀ b∈K.own,b≠3∧b≠4
 cal:ZjP K.c
 ev:ZdO K.ev
 nks:K.nk≠none
structure Mch (K:MK) (w:World) (sv pv:Value) (st:List Int) (sp:List Spn) (at_ er:Int) (dn:Bool):Prop where
 blk:Blk w K.bm 167 (Z5v K sv at_ er dn)
 row:Row [] w K.w0.heap.size 3 sv st
 nt:∀ bs,K.nk=some bs→Blk w bs 27 [pv]∧Row [] w K.w0.heap.size 75 pv sp
 nt0:K.nk=none→pv=.N
 ap:∀ b∈ob sv,b∉ob pv
 stp:Stp K.own K.w0 w
 prot:∀ p∈K.pr,w.heap[p.1]?=some p.2∧p.1∉K.own∧p.1∉ob sv∧p.1∉ob pv
section
variable {K:MK} {w w':World} {sv pv:Value} {st:List Int} {sp:List Spn} {at_ er:Int} {dn:Bool}
theorem Mch.up (h:Mch K w sv pv st sp at_ er dn) (hS:Stp [] w w'):Mch K w' sv pv st sp at_ er dn:=
 ⟨h.blk.up hS,h.row.up hS,fun bs hb=>⟨(h.nt bs hb).1.up hS,(h.nt bs hb).2.up hS⟩,h.nt0,h.ap,h.stp.trans hS.mn,fun p hp=>let ⟨a,b,c,d⟩:=h.prot p hp;⟨(hS.block p.1 (Xk.1 a).1 (by simp)).trans a,b,c,d⟩⟩
theorem Mch.hols (hK:KOk K) (h:Mch K w sv pv st sp at_ er dn):SlV K.own w K.hv K.c.hols:=hK.hols.ext h.stp (fun b hb=>hb) (fun b hb=>.inl hb)
theorem Mch.clos (hK:KOk K) (h:Mch K w sv pv st sp at_ er dn):SlV K.own w K.cv K.c.clos:=hK.clos.ext h.stp (fun b hb=>hb) (fun b hb=>.inl hb)
theorem Mch.len (hK:KOk K) (h:Mch K w sv pv st sp at_ er dn):Z0E w:=hK.len.ext h.stp (fun hb=>(hK.gl _ hb).1 rfl)
theorem Mch.mov (hK:KOk K) (h:Mch K w sv pv st sp at_ er dn):Z3n w:=hK.mov.ext h.stp (fun hb=>(hK.gl _ hb).2 rfl)
theorem Mch.put (hK:KOk K) (h:Mch K w sv pv st sp at_ er dn) {at' er':Int} {dn':Bool} (hS:Stp [K.bm] w w') (hb:Blk w' K.bm 167 (Z5v K sv at' er' dn')):Mch K w' sv pv st sp at' er' dn':=by
 have hl:∀ v,(∀ b∈ob v,K.w0.heap.size≤b)→∀ b∈[K.bm],b∉ob v:=fun v hv b hb h2=>by
  have:=hK.bml;have:=hv b h2;simp at hb;omega
 refine ⟨hb,h.row.keep hS (hl _ (fun b hb=>(h.row.ob_le b hb).1)),fun bs hbs=>?_,h.nt0,h.ap,h.stp.trans (hS.mono (by simp [MK.own])),fun p hp=>let ⟨a,b,c,d⟩:=h.prot p hp;⟨(hS.block p.1 (Xk.1 a).1 (fun e=>b (by simp at e;rw [e];exact YaO))).trans a,b,c,d⟩⟩;obtain ⟨h1,h2⟩:=h.nt bs hbs;exact ⟨h1.ext hS (by have:=(hK.nkl bs hbs).2;simpa using this),h2.keep hS (hl _ (fun b hb=>(h2.ob_le b hb).1))⟩
theorem Mch.stack (hK:KOk K) (h:Mch K w sv pv st sp at_ er dn) {sv':Value} {st':List Int} {w2:World} (hS:Stp (ob sv) w w') (hr:Row [] w' K.w0.heap.size 3 sv' st') (ho:∀ b∈ob sv',b∈ob sv∨w.heap.size≤b)
 (hS2:Stp [K.bm] w' w2) (hb:Blk w2 K.bm 167 (Z5v K sv' at_ er dn)):Mch K w2 sv' pv st' sp at_ er dn:=by
 have hbm:=hK.bml;have hge:=fun b hb=>(hr.ob_le b hb).1;have hge0:=fun b hb=>(h.row.ob_le b hb).1;have hl:=h.stp.size;refine ⟨hb,hr.keep hS2 (fun b hb h2=>by have:=hge b h2;simp at hb;omega),fun bs hbs=>?_,h.nt0,fun b hb hp=>?_,?_,fun p hp=>?_⟩;obtain ⟨h1,h2⟩:=h.nt bs hbs;have hn:=hK.nkl bs hbs;have hge1:=fun b hb=>(h2.ob_le b hb).1;refine ⟨(h1.ext hS (fun hx=>by have:=hge0 _ hx;omega)).ext hS2 (by simpa using hn.2),(h2.keep hS (fun b hb=>h.ap b hb)).keep hS2 (fun b hb hx=>by have:=hge1 _ hx;simp at hb;omega)⟩
 · cases hk:K.nk with
   | none=>rw [h.nt0 hk] at hp;simp [ob] at hp
   | some bs=>
     obtain ⟨h1,h2⟩:=h.nt bs hk;rcases ho b hb with h3|h3
     exact h.ap b h3 hp;have:=(h2.ob_le b hp).2;omega
 refine (h.stp.own (S':=ob sv) hS (fun b hb=>.inr (hge0 b hb))).trans (hS2.mono (by simp [MK.own]));obtain ⟨a,b,c,d⟩:=h.prot p hp;have hlt:=(Xk.1 a).1;have a2:=(hS.block p.1 hlt c).trans a;have a3:=(hS2.block p.1 (Xk.1 a2).1 (fun e=>b (by simp at e;rw [e];exact YaO))).trans a2;exact ⟨a3,b,fun h3=>(ho _ h3).elim c (fun h4=>by omega),d⟩
theorem ZjQ (hK:KOk K) (h:Mch K w sv pv st sp at_ er dn) (n e:Int) (hl:st.length≤100000) :
 CC 203 #[.pointer (some ⟨K.bm,0,none⟩),.I n,.I e] w fun r w'=>r=.tuple #[]∧∃ sv',Mch K w' sv' pv (if e=0 then st++[n] else st) sp at_ (if e=0 then er else e) (if e=0 then dn else true):=by
 have hblk:=h.blk;have hrow:=h.row;unfold Z5v at hblk;refine cW3 25 Tryz.func203 ?_;by_cases he:e=0;subst he;rw [if_pos rfl,if_pos rfl,if_pos rfl];refine QO ?_;refine Z1 (Z0 (vs:=[(0,.I n)]) rfl (Zt _)) rfl ?_;rintro bv w1 hN;have hS1:=Z6.stp hN;have hbv:SlV (ob sv++[]) w1 bv [n]:=hN.slv (fun b hb=>by simp at hb;exact (hrow.ob_le b hb).2) rfl rfl (by simp [maxLen]);replace h:=h.up hS1;replace hrow:=hrow.up hS1;replace hblk:=hblk.up hS1;refine Z1 (ZW rfl (by decide) rfl rfl hrow hbv (by simp;omega) (by simp [maxLen];omega) (h.stp.size)) rfl ?_;rintro sv' w2 ⟨hr2,hS2,ho⟩;have hblk2:=hblk.ext hS2 (fun hx=>by have:=(hrow.ob_le _ hx).1;have:=hK.bml;omega);refine W ?_;have h1:=hr2.slv (X:=[]) (by simp);refine Z5 (Za (u:=sv') rfl rfl h1.cells h1.one hblk2 (by simp [evC,Z0e])) ?_;rintro _ w3 ⟨hS3,hblk3⟩;refine W ?_;refine WR ?_;refine .mk ⟨rfl,sv',h.stack hK hS2 hr2 ho hS3 hblk3⟩;rw [if_neg he,if_neg he,if_neg he];refine QO ?_;refine Z5 (Za (u:=.I e) rfl rfl rfl rfl hblk (by simp [evC,Z0e])) ?_;rintro _ w1 ⟨hS1,hblk1⟩;refine W ?_;refine Z5 (Za (u:=.B true) rfl rfl rfl rfl hblk1 (by simp [evC,Z0e])) ?_;rintro _ w2 ⟨hS2,hblk2⟩;refine RT ?_;exact ⟨rfl,sv,h.put hK (hS1.trans hS2) hblk2⟩
end
end Go.Proofs.YtipfkbkkndacjaaGreatDoor
namespace Go.Eng
open Go Go.RowKit Go.Proofs
section
variable {P:Program} {n:Nat} {e:Env} {w:World} {d:Option Nat} {ty:TypeId} {pos:String} {af:Array Edge} {g:Option (Nat×Bool)} {rest:List Oper} {ops:Array Oper} {Q:Exit→Act→World→Prop}
theorem Z2F {α:Type} [Z7 α] {X:List Nat} {v:Value} {xs:List α} {i:Nat} {cs:List Value} {x:Operand} {t:TypeId} {D:TypeDesc} [hu:Und P t D] (hA:JV D=true) [hsz:Siz P t (Z7.k α)] (hx:ev e x=some (.pointer (some (Zp v i (Z7.k α) 0)))) (hs:SlV X w v xs) (hi:i<xs.length)
 (hr:Z7.rep X w xs[i] cs) (hc:∀ j u,cs[j]?=some u→w.cell? (Zp v i (Z7.k α) j)=some u):PR P n ⟨d,.load t x,ty,pos,af,g⟩ e w (.agg cs.toArray):=by
 obtain ⟨p,l',c,rfl⟩:=hs.isSome hi;refine Z3q (cs:=cs) hA hx (Z7.len hr) (fun j u hu=>?_);have:=hc j u hu;simpa [Zp] using this
end
structure Fct where
 entry:Int
 kind:Str
 day:Int
 by_:Int
 to_:Int
 amt:Int
deriving DecidableEq
instance:Inhabited Fct:=⟨⟨0,[],0,0,0,0⟩⟩
instance:Z3 Fct where
 k:=6
 enc:=fun x=>[.I x.entry,str x.kind,.I x.day,.I x.by_,.I x.to_,.I x.amt]
 len:=fun _=>rfl
 one:=by intro x u hu;simp at hu;rcases hu with rfl|rfl|rfl|rfl|rfl|rfl<;>rfl
structure Rsn where
 kind:Int
 a:Int
 b:Int
deriving DecidableEq
instance:Z3 Rsn where
 k:=3
 enc:=fun x=>[.I x.kind,.I x.a,.I x.b]
 len:=fun _=>rfl
 one:=by intro x u hu;simp at hu;rcases hu with rfl|rfl|rfl<;>rfl
structure Rtn where
 crr:Int
 kind:Int
 lo:Int
 hi:Int
deriving DecidableEq
instance:Z3 Rtn where
 k:=4
 enc:=fun x=>[.I x.crr,.I x.kind,.I x.lo,.I x.hi]
 len:=fun _=>rfl
 one:=by intro x u hu;simp at hu;rcases hu with rfl|rfl|rfl|rfl<;>rfl
structure Crr where
 extra:Int
 tol:Int
deriving DecidableEq
instance:Z3 Crr where
 k:=2
 enc:=fun x=>[.I x.extra,.I x.tol]
 len:=fun _=>rfl
 one:=by intro x u hu;simp at hu;rcases hu with rfl|rfl<;>rfl
structure Svc where
 day:Int
 extra:Int
 att:Int
deriving DecidableEq
instance:Z3 Svc where
 k:=3
 enc:=fun x=>[.I x.day,.I x.extra,.I x.att]
 len:=fun _=>rfl
 one:=by intro x u hu;simp at hu;rcases hu with rfl|rfl|rfl<;>rfl
structure Atp where
 entry:Int
 party:Int
 crr:Int
 sent:Int
 rets:List Rtn
instance:Inhabited Atp:=⟨⟨0,0,0,0,[]⟩⟩
abbrev atC (a:Atp) (rv:Value):List Value:=[.I a.entry,.I a.party,.I a.crr,.I a.sent,rv]
instance:Z7 Atp where
 k:=5
 rep:=fun X w a cs=>∃ rv,cs=atC a rv∧SlV X w rv a.rets
 len:=fun ⟨_,h,_⟩=>h ▸ rfl
 one:=by
  rintro X w a cs ⟨rv,rfl,h⟩ u hu;have:=h.one;simp only [Xb,Xj,or_false] at hu;rcases hu with rfl|rfl|rfl|rfl|rfl<;>first|rfl|assumption
 ext:=fun ⟨rv,h,hs⟩ hS h1 h2=>⟨rv,h,hs.ext hS h1 h2⟩
structure Dln where
 rule:Str
 trig:Fct
 party:Int
 due:Int
 stat:Int
 reas:List Rsn
instance:Inhabited Dln:=⟨⟨[],default,0,0,0,[]⟩⟩
abbrev dlC (a:Dln) (rv:Value):List Value:=[str a.rule,.I a.trig.entry,str a.trig.kind,.I a.trig.day,.I a.trig.by_,.I a.trig.to_,.I a.trig.amt,.I a.party,.I a.due,.I a.stat,rv]
instance:Z7 Dln where
 k:=11
 rep:=fun X w a cs=>∃ rv,cs=dlC a rv∧SlV X w rv a.reas
 len:=fun ⟨_,h,_⟩=>h ▸ rfl
 one:=by
  rintro X w a cs ⟨rv,rfl,h⟩ u hu;have:=h.one;simp only [Xb,Xj,or_false] at hu;rcases hu with rfl|rfl|rfl|rfl|rfl|rfl|rfl|rfl|rfl|rfl|rfl<;>first|rfl|assumption
 ext:=fun ⟨rv,h,hs⟩ hS h1 h2=>⟨rv,h,hs.ext hS h1 h2⟩
end Go.Eng
namespace Go.Proofs.YtipfkbkkndacjaaGreatDoor
open Go Go.Eng Go.RowKit
instance:Z7 Cr where
 k:=7
 rep:=fun X w q cs=>∃ kc kd,cs=crC q kc kd∧SlV X w kc q.cnd∧SlV X w kd q.due
 len:=fun ⟨_,_,h,_⟩=>h ▸ rfl
 one:=fun ⟨_,_,h,h1,h2⟩=>h ▸ Z0n h1 h2
 ext:=fun ⟨kc,kd,h,h1,h2⟩ hS g1 g2=>⟨kc,kd,h,h1.ext hS g1 g2,h2.ext hS g1 g2⟩
structure Cas where
 fcts:List Fct
 ruls:List Cr
 atts:List Atp
 crrs:List Crr
 stys:List Spn
 cal:Cal
 court:Int
 today:Int
structure Z11 where
 fv:Value
 rv:Value
 av:Value
 cv:Value
 sv:Value
 hv:Value
 lv:Value
 zo:Value
 zs:Value
 hr:Value
abbrev JE (c:Cas) (R:Z11):List Value:=[R.fv,R.rv,R.av,R.cv,R.sv]++Z0e c.cal R.hv R.lv R.zo R.zs R.hr++[.I c.court,.I c.today]
end Go.Proofs.YtipfkbkkndacjaaGreatDoor
namespace Go.Eng
open Go Go.RowKit Go.Proofs
variable {P:Program} {n:Nat} {Q:Exit→Act→World→Prop} {e:Env} {w w0:World} {rest:List Oper} {ops:Array Oper} {ty:TypeId} {pos:String} {af:Array Edge}
theorem Stp.cell0 {w w':World} {ad:Addr} {u:Value} (h:Stp [] w w') (hc:w.cell? ad=some u):w'.cell? ad=some u:=by
 have hlt:ad.block<w.heap.size:=block_lt_of_cell hc;rw [← hc];exact World.cell?_of_block (w:=w) (h.block ad.block hlt (by simp))
theorem CP {S:List Nat} {f d:Nat} {fn:Func} {xs:Array Operand} {ts:Array TypeId} {vs:Array Value} {r:Value} {c:Operand} [hf:Fun P f fn] (hS:Stp S w0 w) (h:Calls P f vs w (Ret fun v w'=>v=r∧Stp [] w w')) (k:∀ w',Stp [] w w'→Stp S w0 w'→WL P n ops Q rest ((d,r) :: e) w')
 (hc:ev e c=some (.func (.func f) #[] #[]):=by exact rfl) (hv:∀ a,Has n e a→xs.map a.eval=vs:=by first|exact ZX rfl|exact Zh rfl rfl|exact Js rfl rfl rfl|exact Z6Y rfl rfl rfl rfl|exact Z5Q) (hd:Nat.blt d n=true:=by exact rfl) :
 WL P n ops Q (⟨some d,.call { callee:=.value c,args:=xs,argTypes:=ts },ty,pos,af,none⟩ :: rest) e w:=
 Z1 (Zd hc hv h) hd (by rintro _ w' ⟨rfl,hT⟩;exact k w' hT (hS.trans hT.mn))
theorem CG {f d:Nat} {fn:Func} {xs:Array Operand} {ts:Array TypeId} {vs:Array Value} {G:Value→World→Prop} {c:Operand} [hf:Fun P f fn] (h:Calls P f vs w (Ret G)) (k:∀ v w',G v w'→WL P n ops Q rest ((d,v) :: e) w')
 (hc:ev e c=some (.func (.func f) #[] #[]):=by exact rfl) (hv:∀ a,Has n e a→xs.map a.eval=vs:=by first|exact ZX rfl|exact Zh rfl rfl|exact Js rfl rfl rfl|exact Z6Y rfl rfl rfl rfl|exact Z5Q) (hd:Nat.blt d n=true:=by exact rfl) :
 WL P n ops Q (⟨some d,.call { callee:=.value c,args:=xs,argTypes:=ts },ty,pos,af,none⟩ :: rest) e w:=
 Z1 (Zd hc hv h) hd k
theorem BX {S:List Nat} {d:Nat} {t:TypeId} {x:Operand} {v:Value} (hS:Stp S w0 w) (k:∀ b w',w.heap.size≤b→Blk w' b t v.cells.toList→Stp [] w w'→Stp S w0 w'→WL P n ops Q rest ((d,pQ b) :: e) w')
 (hx:ev e x=some v:=by exact rfl) (hd:Nat.blt d n=true:=by exact rfl):WL P n ops Q (⟨some d,.box t x,ty,pos,af,none⟩ :: rest) e w:=
 Z1 (Zq hx) hd (by rintro _ w' ⟨b,rfl,hb,hk,hT⟩;exact k b w' hb hk hT (hS.trans hT.mn))
theorem ZaD {x:Operand} {t:TypeId} {D:TypeDesc} {ad:Addr} {v:Value} {d:Nat} [hu:Und P t D] (hA:JV D=false) (hx:ev e x=some (.pointer (some ad))) (hc:w.cell? ad=some v) (hd:Nat.blt d n=true) (k:WL P n ops Q rest ((d,v) :: e) w) :
 WL P n ops Q (⟨some d,.load t x,ty,pos,af,none⟩ :: rest) e w:=Z4 (Jw hA hx hc) hd k
theorem Z1a {Lt:List Nat} {ord:List (Nat×Nat)} {i d:Nat} {gd:Option (Nat×Bool)} {x:Operand} {t:TypeId} {D:TypeDesc} {ad:Addr} {v:Value} [hu:Und P t D] (hi:ops[i]?=some ⟨some d,.load t x,ty,pos,af,gd⟩) (hg:Zz ops e gd) (hA:JV D=false) (hx:ev e x=some (.pointer (some ad))) (hc:w.cell? ad=some v) (hd:Nat.blt d n=true)
 (k:WD P n ops [] Lt Q ord ((d,v) :: e) w):WD P n ops [] Lt Q ((i,1) :: ord) e w:=J3 hi hg (fun _ hS=>Jw hA hx (hS.cell0 hc)) hd k
theorem DP {S S0:List Nat} {Lt:List Nat} {ord:List (Nat×Nat)} {i f d:Nat} {fn:Func} {gd:Option (Nat×Bool)} {xs:Array Operand} {ts:Array TypeId} {vs:Array Value} {r:Value} {c:Operand} [hf:Fun P f fn] (hS:Stp S0 w0 w) (h:Calls P f vs w (Ret fun v w'=>v=r∧Stp [] w w')) (k:∀ w',Stp [] w w'→Stp S0 w0 w'→WD P n ops S Lt Q ord ((d,r) :: e) w')
 (hi:ops[i]?=some ⟨some d,.call { callee:=.value c,args:=xs,argTypes:=ts },ty,pos,af,gd⟩:=by exact rfl) (hg:Zz ops e gd:=by first|exact trivial|exact rfl)
 (hc:ev e c=some (.func (.func f) #[] #[]):=by exact rfl) (hv:∀ a,Has n e a→xs.map a.eval=vs:=by first|exact ZX rfl|exact Zh rfl rfl|exact Js rfl rfl rfl|exact Z6Y rfl rfl rfl rfl|exact Z5Q) (hd:Nat.blt d n=true:=by exact rfl) :
 WD P n ops S Lt Q ((i,2) :: ord) e w:=
 Zc hi hg (Zd hc hv h) (fun _ _ h=>h.2.mn) hd (by rintro _ w' ⟨rfl,hT⟩;exact k w' hT (hS.trans hT.mn))
end Go.Eng
namespace Go.Proofs.YtipfkbkkndacjaaGreatDoor
open Go Go.Eng Go.RowKit
def Zng (l:List Cr) (nm:Str) (day b:Int) (i:Nat):Prop:=(l.getD i crZ).name=nm∧(l.getD i crZ).frm≤day∧(b<0∨(l.getD b.toNat crZ).frm≤(l.getD i crZ).frm)
instance (l:List Cr) (nm:Str) (day b:Int) (i:Nat):Decidable (Zng l nm day b i):=by unfold Zng;infer_instance
def Z5w (l:List Cr) (nm:Str) (day:Int):Nat→Int
 | 0=>-1
 | k+1=>if Zng l nm day (Z5w l nm day k) k then k else Z5w l nm day k
def ZtE (l:List Cr) (nm:Str) (day:Int):Int:=Z5w l nm day l.length
theorem ZeO (l:List Cr) (nm:Str) (day:Int):∀ k,-1≤Z5w l nm day k∧Z5w l nm day k<k
 | 0=>by simp [Z5w]
 | k + 1 => by
   have:=ZeO l nm day k;simp only [Z5w];split<;>omega
theorem Zg9 {A B C:Prop} [Decidable (A∧B∧C)] {x k b z:Int} {e:Eng.Env} {i:Nat} (h:x=if A∧B∧C then k else b) (he:Eng.look e i=some (.I z)) (hz:(A∧B∧C∧z=k)∨(¬ (B∧C)∧z=b)∨(¬ A∧z=b)):Eng.look e i=some (.I x):=by
 rw [he,h];rcases hz with ⟨a,b,c,rfl⟩|⟨a,rfl⟩|⟨a,rfl⟩
 rw [if_pos ⟨a,b,c⟩];rw [if_neg (fun h=>a h.2)];rw [if_neg (fun h=>a h.1)]
theorem Zcb (v:Value) (l:List Cr) (nm:Str) (day:Int) (w) (hs:SlV [] w v l):CC 13 #[v,str nm,.I day] w fun r w'=>r=.I (ZtE l nm day)∧Stp [] w w':=by
 have hmax:=hs.max;refine cW3 44 Tryz.func13 ?_;refine W ?_;refine LP (σ:=Nat) (fun k=>[(0,v),(1,str nm),(2,.I day),(7,.I (Z5w l nm day k)),(10,v),(11,.I l.length),(12,.I k)]) (fun k w'=>k≤l.length∧Stp [] w w') (fun k=>l.length - k) 0 ⟨by omega,Stp.refl _ _⟩ ?_;have hs0:=hs;clear hs;rintro k w1 ⟨hk,hS⟩;have hs:=hs0.up hS;by_cases hlt:k<l.length;obtain ⟨cs,⟨kc,kd,rfl,g1,g2⟩,hcell⟩:=hs.cell hlt;have hb:=ZeO l nm day k;have hstep:Z5w l nm day (k+1)=if l[k].name=nm∧l[k].frm≤day∧(Z5w l nm day k<0∨(l.getD (Z5w l nm day k).toNat crZ).frm≤l[k].frm) then (k:Int) else Z5w l nm day k:=by
  rw [Z5w];simp only [Zng,show l.getD k crZ=l[k] by simp [hlt]]
 generalize Z5w l nm day k=bb at *;refine QO ?_;refine Z4 (Z2F rfl rfl hs hlt ⟨kc,kd,rfl,g1,g2⟩ hcell) rfl ?_;refine Z1 Z2 rfl ?_;rintro _ w2 ⟨b,rfl,hbw,e9,hT⟩;refine W ?_;refine SB (us:=crC l[k] kc kd) (Z0n g1 g2) e9 ?_;rintro _ w3 ⟨hT2,e9⟩;replace hS:=hS.trans (hT.ow hT2);clear hT hT2 hs hcell g1 g2;refine W ?_;refine ZDr 24 [] [] [(0,0),(1,1),(2,0),(3,0),(4,0),(5,0),(6,1),(7,0),(8,0),(9,0),(10,0),(11,0),(12,0),(13,0),(14,0),(15,1),(16,0),(17,0),(18,0),(19,0),(20,1),(21,0),(22,0),(23,0)] (fun w1 hS1=>?_);replace e9:=e9.up hS1;replace hS:=hS.trans hS1;clear hS1;have hs:=hs0.up hS;by_cases h0:bb<0
 · repeat'(first|refine D1 ?_|omega|refine Zy rfl rfl rfl rfl (fun hg=>?_) (fun hg=>?_)|(refine Zr rfl rfl rfl rfl (fun hg=>?_) (fun hg=>?_)<;>refine D1 ?_)|fail)
   all_goals refine QO ?_
   all_goals
    refine ZD (k+1) ⟨rfl,rfl,rfl,?_,rfl,rfl,rfl,trivial⟩ ⟨by omega,hS⟩ (by omega);first|exact Zg9 hstep rfl (.inl ⟨by assumption,by omega,by omega,rfl⟩)|exact Zg9 hstep rfl (.inr (.inl ⟨by omega,rfl⟩))|exact Zg9 hstep rfl (.inr (.inr ⟨by assumption,rfl⟩))
 · obtain ⟨j,rfl⟩:∃ j:Nat,bb=j:=⟨bb.toNat,by omega⟩
   have hj:j<l.length:=by omega
   obtain ⟨cs,⟨kc2,kd2,rfl,-,-⟩,hcell⟩:=hs.cell hj;have hf:w1.cell? (Zp v j 7 1)=some (.I l[j].frm):=hcell 1 _ rfl;rw [show (j:Int).toNat=j by simp,show l.getD j crZ=l[j] by simp [hj]] at hstep;repeat'(first|refine D1 ?_|omega|refine Z1a rfl (by first|exact trivial|exact rfl) rfl rfl (by assumption) rfl ?_|refine Zy rfl rfl rfl rfl (fun hg=>?_) (fun hg=>?_)|(refine Zr rfl rfl rfl rfl (fun hg=>?_) (fun hg=>?_)<;>refine D1 ?_)|fail)
   all_goals repeat'(first|refine W1 ?_|omega|refine VG ?_ ?_<;>intro hg|refine VC ?_ ?_<;>intro hc)
   all_goals
    refine ZD (k+1) ⟨rfl,rfl,rfl,?_,rfl,rfl,rfl,trivial⟩ ⟨by omega,hS⟩ (by omega);first|exact Zg9 hstep rfl (.inl ⟨by assumption,by omega,by omega,rfl⟩)|exact Zg9 hstep rfl (.inr (.inl ⟨by omega,rfl⟩))|exact Zg9 hstep rfl (.inr (.inr ⟨by assumption,rfl⟩))
 refine QO ?_;refine WR ?_;rw [show k=l.length by omega];exact .mk ⟨rfl,hS⟩
end Go.Proofs.YtipfkbkkndacjaaGreatDoor
namespace Go.Eng
open Go Go.RowKit Go.Proofs
variable {P:Program} {n:Nat} {Q:Exit→Act→World→Prop} {e:Env} {w w0:World} {rest:List Oper} {ops:Array Oper} {ty:TypeId} {pos:String} {af:Array Edge} {d:Option Nat} {g:Option (Nat×Bool)}
abbrev ltS (a b:Str):Bool:=Op.bytesLess a b
theorem Z7b {t u:TypeId} {x y:Operand} {a b:Str} {c:Bool} [hu:Und P t .string] (hx:ev e x=some (str a)) (hy:ev e y=some (str b)) (hc:ltS a b=c):PR P n ⟨d,.binOp .lss t x y u,ty,pos,af,g⟩ e w (.B c):=
 ⟨fun _ ha=>by simp only [execOp,ha.ev hx,ha.ev hy];subst hc;simp [go_sem,binOp,Op.stringOp]⟩
theorem ZeP {t u:TypeId} {x y:Operand} {a b:Str} {c:Bool} [hu:Und P t .string] (hx:ev e x=some (str a)) (hy:ev e y=some (str b)) (hc:(!(ltS a b || a == b))=c):PR P n ⟨d,.binOp .gtr t x y u,ty,pos,af,g⟩ e w (.B c):=
 ⟨fun _ ha=>by simp only [execOp,ha.ev hx,ha.ev hy];subst hc;simp [go_sem,binOp,Op.stringOp]⟩
end Go.Eng
namespace Go.Proofs.YtipfkbkkndacjaaGreatDoor
open Go Go.Eng Go.RowKit
def Z3S (a b:Str):Int:=if ltS a b=true then -1 else if (!(ltS a b || a == b))=true then 1 else 0
def cmI (x y:Int):Int:=if x<y then -1 else if y<x then 1 else 0
theorem Z4m (x y:Int) (w):CC 75 #[.I x,.I y] w fun r w'=>r=.I (cmI x y)∧Stp [] w w':=
 (Tryz.cmp_Compare_int x y w).mono (by
   rintro e w' ⟨rfl,rfl⟩;exact .mk ⟨rfl,Stp.refl _ _⟩)
theorem Z7Z (a:Str) (w):CC 126 #[str a] w fun r w'=>r=.B false∧Stp [] w w':=by
 refine cW1 6 Tryz.func126 ?_;refine RT ?_;exact ⟨by simp,Stp.refl _ _⟩
theorem ZjR (a b:Str) (w):CC 76 #[str a,str b] w fun r w'=>r=.I (Z3S a b)∧Stp [] w w':=by
 refine cW2 20 Tryz.func76 ?_;refine W ?_;refine CP (Stp.refl [] w) (Z7Z a _) fun w1 _ hS=>?_;refine W ?_;refine CP hS (Z7Z b _) fun w2 _ hS=>?_;refine W ?_;cases h1:ltS a b
 · refine Z4 (Z7b rfl rfl h1) rfl ?_
   refine W ?_;cases h2:(!(ltS a b || a == b))
   all_goals
    refine Z4 (ZeP rfl rfl h2) rfl ?_;refine RT ?_;exact ⟨by rw [Z3S,if_neg (by simp [h1]),h2];rfl,hS⟩
 refine Z4 (Z7b rfl rfl h1) rfl ?_;refine RT ?_;exact ⟨by rw [Z3S,h1];rfl,hS⟩
def orL (l:List Int):Int:=(l.find? (fun x=>decide (x≠0))).getD 0
theorem ZdP {l:List Int} {k:Nat} (hk:k<l.length) (h:∀ j (h:j<l.length),j<k→l[j]=0) (h0:l[k]≠0):orL l=l[k]:=by
 have:l.find? (fun x=>decide (x≠0))=some l[k]:=by
  rw [Yap];exact ⟨by simpa using h0,k,hk,rfl,fun j hj=>by simp [h j (by omega) hj]⟩
 rw [orL,this];rfl
theorem Z80 {l:List Int} (h:∀ j (h:j<l.length),l[j]=0):orL l=0:=by
 have:l.find? (fun x=>decide (x≠0))=none:=by
  rw [Yao];intro x hx;obtain ⟨j,hj,rfl⟩:=Xr hx;simp [h j hj]
 rw [orL,this];rfl
theorem Znh (v:Value) (l:List Int) (w) (hs:SlV [] w v l):CC 74 #[v] w fun r w'=>r=.I (orL l)∧Stp [] w w':=by
 have hmax:=hs.max;refine cW1 18 Tryz.func74 ?_;refine W ?_;refine LP (σ:=Nat) (fun k=>[(3,.I 0),(6,v),(7,.I l.length),(8,.I k)]) (fun k w'=>k≤l.length∧Stp [] w w'∧∀ j (h:j<l.length),j<k→l[j]=0) (fun k=>l.length - k) 0 ⟨by omega,Stp.refl _ _,by omega⟩ ?_;have hs0:=hs;clear hs;rintro k w1 ⟨hk,hS,hz⟩;have hs:=hs0.up hS;by_cases hlt:k<l.length;by_cases h0:l[k]=0;refine QO ?_;exact QL (k+1) ⟨by omega,hS,fun j h hj=>by
  by_cases e:j=k;subst e;exact h0;exact hz j h (by omega)⟩ (by omega)
 refine RT ?_;exact ⟨by rw [ZdP hlt hz h0],hS⟩;refine RT ?_;exact ⟨by rw [Z80 (fun j h=>hz j h (by omega))],hS⟩
def Z4x (f g:Fct):Int:=orL [cmI f.day g.day,cmI f.entry g.entry,Z3S f.kind g.kind,cmI f.by_ g.by_,cmI f.to_ g.to_,cmI f.amt g.amt]
theorem Zcc (a b c d e f:Int) (w):(Instr.buildSlice 23 6 #[(0,.I a),(1,.I b),(2,.I c),(3,.I d),(4,.I e),(5,.I f)]).run Tryz.prog w=.ok (.slice (some ⟨w.heap.size,0,none⟩) 6 6) (w.alloc (.cells #[.I a,.I b,.I c,.I d,.I e,.I f] 3)):=by kernel_rfl
theorem ZjS (f g:Fct) (w):CC 43 #[aG f,aG g] w fun r w'=>r=.I (Z4x f g)∧Stp [] w w':=by
 refine cW2 37 Tryz.func43 ?_;refine W ?_;refine BX (Stp.refl [] w) fun b2 w1 h2 e2 _ hS=>?_;refine BX hS fun b3 w2 h3 e3 hT hS=>?_;replace e2:=e2.up hT;replace e2:Blk w2 b2 45 (Z3.enc f):=e2;replace e3:Blk w2 b3 45 (Z3.enc g):=e3;refine W ?_;refine ZDr 33 [] [] [(0,0),(1,1),(2,0),(3,1),(5,0),(6,1),(7,0),(8,1),(10,0),(11,1),(12,0),(13,1),(15,0),(16,1),(17,0),(18,1),(20,0),(21,1),(22,0),(23,1),(25,0),(26,1),(27,0),(28,1),(4,2),(9,2),(14,2),(19,2),(24,2),(29,2),(30,2),(31,2),(32,0)] (fun w1 hS1=>?_);replace e2:=e2.up hS1;replace e3:=e3.up hS1;replace hS:=hS.trans hS1;refine D ?_;clear hS1 e2 e3;refine DP hS (Z4m _ _ _) fun _ _ hS=>?_;refine DP hS (Z4m _ _ _) fun _ _ hS=>?_;refine DP hS (ZjR _ _ _) fun _ _ hS=>?_;refine DP hS (Z4m _ _ _) fun _ _ hS=>?_;refine DP hS (Z4m _ _ _) fun _ _ hS=>?_;refine DP hS (Z4m _ _ _) fun _ _ hS=>?_;refine Zc rfl trivial (Z0 rfl (Zcc _ _ _ _ _ _)) (fun _ _ h=>Z6.stp h) rfl ?_;rintro bv wb hN;have hbv:=hN.slv (X:=[]) (ys:=[cmI f.day g.day,cmI f.entry g.entry,Z3S f.kind g.kind,cmI f.by_ g.by_,cmI f.to_ g.to_,cmI f.amt g.amt]) (by simp) rfl rfl (by simp [maxLen]);replace hS:=hS.trans (Z6.stp hN);refine DP hS (Znh bv _ _ hbv) fun _ _ hS=>?_;refine D ?_;refine RT ?_;exact ⟨rfl,hS⟩
end Go.Proofs.YtipfkbkkndacjaaGreatDoor
namespace Go.Eng
open Go Go.RowKit Go.Proofs
variable {P:Program} {n:Nat} {Q:Exit→Act→World→Prop} {e:Env} {w w0:World} {rest:List Oper} {ops:Array Oper} {ty ty':TypeId} {pos pos':String} {af af':Array Edge}
theorem AP1 {β:Type} [Z3 β] {T t bytes d1 d2:Nat} {x y:Operand} {v z0 u:Value} {xs:List β} [ht:Und P t (.slice T)] [hk:Siz P T (Z7.k β)] [hb:Byt P T bytes] [hz:Zer P T z0] (z:β) (hr:ZI T w0 w v xs) (hl:xs.length≤100000000)
 (k:∀ v1 v' w',ZI T w0 w' v' (xs++[z])→Stp (ob v) w w'→WL P n ops Q rest ((d2,v') :: (d1,v1) :: e) w')
 (hx:ev e x=some v:=by exact rfl) (hy:Z0m e [(0,y)]=some [(0,u)]:=by exact rfl) (hrun:∀ w:World,(Instr.buildSlice t 1 #[(0,u)]).run P w=.ok (.slice (some ⟨w.heap.size,0,none⟩) 1 1) (w.alloc (.cells (Z3.enc z).toArray T)):=by intro w;kernel_rfl)
 (hx':∀ v1,ev ((d1,v1) :: e) x=some v:=by intro _;exact rfl) (hy':∀ v1,ev ((d1,v1) :: e) (.tmp d1)=some v1:=by intro _;exact rfl)
 (hzs:z0.cells.size=Z7.k β:=by exact rfl) (hpos:0<Z7.k β:=by decide) (hbt:bytes≤1000:=by decide) (h1:Nat.blt d1 n=true:=by exact rfl) (h2:Nat.blt d2 n=true:=by exact rfl) :
 WL P n ops Q (⟨some d1,.buildSlice t 1 #[(0,y)],ty,pos,af,none⟩ :: ⟨some d2,.call { callee:=.builtin .append,args:=#[x,.tmp d1],argTypes:=#[t,t] },ty',pos',af',none⟩ :: rest) e w:=by
 refine Z1 (Z0 (l:=[(0,y)]) (vs:=[(0,u)]) hy hrun) h1 ?_;intro v1 w1 hN;have hT:Stp [] w w1:=hN.choose_spec.2.2.2;have hbv:SlV (ob v) w1 v1 [z]:=hN.slv (fun b hb=>(hr.ob_le b hb).2) rfl (by simp) (by simp [maxLen]);refine Z1 (JB hzs hpos (hx' v1) (hy' v1) (hr.up hT) hbv (by
  simp only [Xe,Xf];exact Xg (Ya8 (Ybe hl 1) hbt) (by omega)) (by simp only [Xe,Xf,maxLen];omega)) h2 ?_
 rintro v' w2 ⟨g1,g2,-⟩;exact k v1 v' w2 g1 (hT.mn.trans g2)
theorem APR {β:Type} [Z3 β] {X:List Nat} {T t bytes d1 d2 base:Nat} {x y:Operand} {v z0 u:Value} {xs:List β} [ht:Und P t (.slice T)] [hk:Siz P T (Z7.k β)] [hb:Byt P T bytes] [hz:Zer P T z0] (z:β) (hr:Row X w base T v xs) (hX:∀ b∈X,b<w.heap.size) (hbs:base≤w.heap.size) (hl:xs.length≤100000000)
 (k:∀ v1 v' w',Row X w' base T v' (xs++[z])→Stp (ob v) w w'→(∀ b∈ob v',b∈ob v∨w.heap.size≤b)→WL P n ops Q rest ((d2,v') :: (d1,v1) :: e) w')
 (hx:ev e x=some v:=by exact rfl) (hy:Z0m e [(0,y)]=some [(0,u)]:=by exact rfl) (hrun:∀ w:World,(Instr.buildSlice t 1 #[(0,u)]).run P w=.ok (.slice (some ⟨w.heap.size,0,none⟩) 1 1) (w.alloc (.cells (Z3.enc z).toArray T)):=by intro w;kernel_rfl)
 (hx':∀ v1,ev ((d1,v1) :: e) x=some v:=by intro _;exact rfl) (hy':∀ v1,ev ((d1,v1) :: e) (.tmp d1)=some v1:=by intro _;exact rfl)
 (hzs:z0.cells.size=Z7.k β:=by exact rfl) (hpos:0<Z7.k β:=by decide) (hbt:bytes≤1000:=by decide) (h1:Nat.blt d1 n=true:=by exact rfl) (h2:Nat.blt d2 n=true:=by exact rfl) :
 WL P n ops Q (⟨some d1,.buildSlice t 1 #[(0,y)],ty,pos,af,none⟩ :: ⟨some d2,.call { callee:=.builtin .append,args:=#[x,.tmp d1],argTypes:=#[t,t] },ty',pos',af',none⟩ :: rest) e w:=by
 refine Z1 (Z0 (l:=[(0,y)]) (vs:=[(0,u)]) hy hrun) h1 ?_;intro v1 w1 hN;have hT:Stp [] w w1:=hN.choose_spec.2.2.2;have hbv:SlV (ob v++X) w1 v1 [z]:=hN.slv (fun b hb=>by
  rcases Xh.1 hb with h|h
  exact (hr.ob_le b h).2;exact hX b h) rfl (by simp) (by simp [maxLen])
 refine Z1 (ZW (X:=X) (base:=base) hzs hpos (hx' v1) (hy' v1) (hr.up hT) hbv (by
  simp only [Xe,Xf];exact Xg (Ya8 (Ybe hl 1) hbt) (by omega)) (by simp only [Xe,Xf,maxLen];omega) (Xg hbs hT.size)) h2 ?_
 rintro v' w2 ⟨g1,g2,g3⟩;exact k v1 v' w2 g1 (hT.mn.trans g2) (fun b hb=>(g3 b hb).imp id (Xg hT.size))
end Go.Eng
namespace Go.Proofs.YtipfkbkkndacjaaGreatDoor
open Go Go.Eng Go.RowKit
def Z6e (l:List Fct):Nat→Fct
 | 0=>l.getD 0 default
 | k+1=>if Z4x (l.getD (k+1) default) (Z6e l k)<0 then l.getD (k+1) default else Z6e l k
theorem ZjT (v:Value) (l:List Fct) (w) (hs:SlV [] w v l) (hn:l≠[]):CC 86 #[v,.func (.func 43) #[] #[]] w fun r w'=>r=.agg (Z3.enc (Z6e l (l.length - 1))).toArray∧Stp [] w w':=by
 have hmax:=hs.max;have hpos:0<l.length:=X7.2 hn;refine cW2 33 Tryz.func86 ?_;refine W ?_;refine Z1 Z2 rfl ?_;rintro _ w1 ⟨b4,rfl,hb4,e4,hS⟩;have hs1:=hs.up hS;refine QO ?_;refine Z1 Z2 rfl ?_;rintro _ w2 ⟨b5,rfl,hb5,e5,hT⟩;have l4:=e4.lt;replace e4:=e4.up hT;refine SA (us:=Z3.enc l[0]) e5 ?_;rintro _ w3 ⟨hT2,e5⟩;replace e4:=e4.ext hT2 (by simp;omega);replace hS:=hS.trans (hT.ow hT2);clear hT hT2 hs1;have l5:=e5.lt;have g4:b4≠b5:=by omega
 have g5:w.heap.size≤b5:=by have:=hS.size;omega
 refine W ?_;refine LP (σ:=Nat) (fun k=>[(0,v),(1,.func (.func 43) #[] #[]),(4,pQ b4),(5,pQ b5),(6,.I ((k:Int)+1))]) (fun k w'=>k<l.length∧Stp [] w w'∧Blk w' b5 45 (Z3.enc (Z6e l k))∧(∃ cs,Blk w' b4 45 cs∧cs.length=6)) (fun k=>l.length - k) 0 ⟨hpos,hS,by rw [Z6e,show l.getD 0 default=l[0] by simp [hpos]];exact e5,_,e4,rfl⟩ ?_;clear e4 e5 hS;rintro k w4 ⟨hk,hS,e5,cs4,e4,hc4⟩;have hs1:=hs.up hS;by_cases hlt:k+1<l.length;have hstep:Z6e l (k+1)=if Z4x l[k+1] (Z6e l k)<0 then l[k+1] else Z6e l k:=by rw [Z6e,show l.getD (k+1) default=l[k+1] by simp [hlt]]
 generalize Z6e l k=m at *;refine QO ?_;refine ZDr 8 [] [] [(0,0),(1,0),(2,0),(3,0),(4,1),(5,1),(6,2),(7,0)] (fun w1 hS1=>?_);replace hs1:=hs1.up hS1;replace e5:=e5.up hS1;replace e4:=e4.up hS1;replace hS:=hS.trans hS1;clear hS1;refine D ?_;refine DP hS (ZjS l[k+1] m _) fun w5 hT hS=>?_;replace hs1:=hs1.up hT;replace e5:=e5.up hT;replace e4:=e4.up hT;refine D ?_;by_cases hc:Z4x l[k+1] m<0;rw [if_pos hc] at hstep;refine QO ?_;refine SA (us:=Z3.enc l[k+1]) e5 ?_;rintro _ w6 ⟨hT2,e5⟩;replace e4:=e4.ext hT2 (by simp;omega);replace hS:=hS.ow hT2;refine QO ?_;exact QL (k+1) ⟨hlt,hS,by rw [hstep];exact e5,_,e4,hc4⟩ (by omega);rw [if_neg hc] at hstep;refine QO ?_;exact QL (k+1) ⟨hlt,hS,by rw [hstep];exact e5,_,e4,hc4⟩ (by omega);refine QO ?_;refine Z5 (Z9 (us:=Z3.enc (Z6e l k)) rfl rfl rfl rfl (Z3.one _) e4 hc4.symm) ?_;rintro _ w6 ⟨hT2,e4⟩;refine QO ?_;refine Zk rfl rfl rfl e4 rfl ?_;rw [show l.length - 1=k by omega];exact .mk ⟨rfl,hS.ow hT2⟩
theorem Zni (w):(Instr.build 45 #[]).run Tryz.prog w=.ok (aG (default:Fct)) w:=by kernel_rfl
def Zcd (f:Fct) (unl:Str) (due:Int) (g:Fct):Bool:=decide (unl≠[]∧g.kind=unl∧g.by_=f.to_∧g.day≤due∧(f.day≤g.day∨due<f.day))
def ZaE (fs:List Fct) (f:Fct) (unl:Str) (due:Int):List Fct:=fs.filter (Zcd f unl due)
def ZjU (fs:List Fct) (f:Fct) (unl:Str) (due:Int):Fct×Bool:=if ZaE fs f unl due=[] then (default,false) else (Z6e (ZaE fs f unl due) ((ZaE fs f unl due).length - 1),true)
theorem Zga (fs:List Fct) (f:Fct) (unl:Str) (due:Int) (k:Nat) (h:k<fs.length):ZaE (fs.take (k+1)) f unl due=ZaE (fs.take k) f unl due++if Zcd f unl due fs[k]=true then [fs[k]] else []:=by
 unfold ZaE;rw [Xi h,Ybp];congr 1;cases hc:Zcd f unl due fs[k]<;>simp [hc]
theorem ZdQ (c:Cas) (R:Z11) (f:Fct) (unl:Str) (due:Int) (w) (hs:SlV [] w R.fv c.fcts) (hl:c.fcts.length≤10000000):CC 56 #[.agg (JE c R).toArray,aG f,str unl,.I due] w fun r w'=>r=.tuple #[.agg (Z3.enc (ZjU c.fcts f unl due).1).toArray,.B (ZjU c.fcts f unl due).2]∧Stp [] w w':=by
 refine cW4 65 Tryz.func56 ?_;refine W ?_;refine BX (Stp.refl [] w) fun b4 w1 h4 e4 _ hS=>?_;replace e4:Blk w1 b4 37 (JE c R):=e4;refine BX hS fun b5 w2 h5 e5 hT hS=>?_;replace e5:Blk w2 b5 45 (Z3.enc f):=e5;replace e4:=e4.up hT;refine W ?_;refine Z1 Z2 rfl ?_;rintro _ w3 ⟨b8,rfl,hb8,e8,hT⟩;have g8:w.heap.size≤b8:=Xg hS.size hb8;replace e4:=e4.up hT;replace e5:=e5.up hT;replace hS:=hS.trans hT;have hs3:=hs.up hS;refine W ?_;refine LP (σ:=Nat×Value) (fun q=>[(2,str unl),(3,.I due),(4,pQ b4),(5,pQ b5),(8,pQ b8),(9,.B false),(10,q.2),(14,R.fv),(15,.I c.fcts.length),(16,.I q.1)]) (fun q w'=>q.1≤c.fcts.length∧ZI 45 w3 w' q.2 (ZaE (c.fcts.take q.1) f unl due)) (fun q=>c.fcts.length - q.1) (0,.N) ⟨by omega,ZI.nil⟩ ?_;rintro ⟨k,rv⟩ w4 ⟨hk,hr⟩;dsimp only at hk hr ⊢;have e4':=e4.up hr.2;have e5':=e5.up hr.2;have hs4:=hs3.up hr.2;by_cases hlt:k<c.fcts.length
 · have hstep:=Zga c.fcts f unl due k hlt
   refine QO ?_;refine Z1 Z2 rfl ?_;rintro _ w5 ⟨b12,rfl,hb12,e12,hT⟩;refine SA (us:=Z3.enc c.fcts[k]) e12 ?_;rintro _ w6 ⟨hT2,e12⟩;replace hT:=hT.ow hT2;replace e4':=e4'.up hT;replace e5':=e5'.up hT;replace hr:=hr.up hT;clear hT hT2 hs4;repeat'(first|refine W1 ?_|omega|refine VG ?_ ?_<;>intro hg|refine VC ?_ ?_<;>intro hc)
   all_goals first
    | exact QL (k + 1, rv) ⟨hlt, by
       rw [hstep,if_neg,XG];exact hr;simp only [Zcd,decide_eq_true_eq];rintro ⟨a,b,c,d,e⟩;first|contradiction|omega⟩ (by dsimp only;omega)
    | refine AP1 c.fcts[k] hr (Xg (X0 _ _) (by simp; omega)) fun v1 v' w' hr' _ => ?_
      refine QO ?_;exact QL (k+1,v') ⟨hlt,by
       rw [hstep,if_pos (show Zcd f unl due c.fcts[k]=true from decide_eq_true ⟨by assumption,by assumption,by omega,by omega,by omega⟩)];exact hr'⟩ (by dsimp only;omega)
 have hsr:SlV [] w4 rv (ZaE (c.fcts.take k) f unl due):=hr.slv (by simp);obtain rfl:k=c.fcts.length:=by omega
 rw [Xo] at hsr;have e8':=e8.up hr.2;replace hS:=hS.trans hr.2;clear hr;unfold ZjU;generalize ZaE c.fcts f unl due=L at *;have hz:((L.length:Int)=0)↔L=[]:=by simp
 (refine QP ?_ ?_<;>intro hc)
 obtain rfl:L=[]:=hz.1 (by assumption);refine Z8 (vs:=[]) rfl Zni rfl ?_;refine Z5 (Z9 (us:=Z3.enc (default:Fct)) rfl rfl rfl rfl (Z3.one _) e8' rfl) ?_;rintro _ w6 ⟨hT2,e8''⟩;refine W ?_;refine Zl rfl rfl rfl e8'' rfl rfl ?_;exact .mk ⟨rfl,hS.ow hT2⟩;have hL:L≠[]:=fun h=>absurd (hz.2 h) (by assumption)
 rw [if_neg hL];refine CP hS (ZjT rv L w4 hsr hL) fun w5 hT hS=>?_;replace e8':=e8'.up hT;refine Z5 (Z9 (us:=Z3.enc (Z6e L (L.length - 1))) rfl rfl rfl rfl (Z3.one _) e8' rfl) ?_;rintro _ w6 ⟨hT2,e8''⟩;refine W ?_;refine Zl rfl rfl rfl e8'' rfl rfl ?_;exact .mk ⟨rfl,hS.ow hT2⟩
theorem ZwV (a b:Ins) (w):(binOp .eql 171 (agg a) (agg b)).run Tryz.prog w=.ok (.B (decide (a=b))) w:=by
 have h1:Program.stoodInHeld Tryz.prog 171=false:=by kernel_rfl
 obtain ⟨a1,a2⟩:=a;obtain ⟨b1,b2⟩:=b;simp [agg,Z3.enc,run_eql_struct,run_equalIn_struct,h1,Program.fieldsOf,Tryz.underlying171,Op.eqFields,part,Und.isAgg,JV,run_equalIn_int w _ _ .i64 .i64 _ _ Tryz.underlying3];repeat' split
 all_goals simp_all
theorem ZdR (v:Value) (l:List Ins) (x:Ins) (w) (hs:SlV [] w v l):CC 153 #[v,agg x] w fun r w'=>(∃ z:Int,r=.I z∧(0≤z↔x∈l))∧Stp [] w w':=by
 have hmax:=hs.max;refine cW2 19 Tryz.func153 ?_;refine W ?_;refine BX (Stp.refl [] w) fun b3 w1 h3 e3 _ hS=>?_;replace e3:Blk w1 b3 171 (Z3.enc x):=e3;have hs1:=hs.up hS;refine W ?_;refine LP (σ:=Nat) (fun k=>[(0,v),(3,pQ b3),(6,v),(7,.I l.length),(8,.I k)]) (fun k w'=>k≤l.length∧Stp [] w1 w'∧∀ j (h:j<l.length),j<k→l[j]≠x) (fun k=>l.length - k) 0 ⟨by omega,Stp.refl _ _,by omega⟩ ?_;rintro k w2 ⟨hk,hT,hz⟩;have hs2:=hs1.up hT;have e3':=e3.up hT;by_cases hlt:k<l.length;refine QO ?_;refine ZDr 6 [] [] [(0,1),(1,0),(2,0),(3,0),(4,1),(5,0)] (fun w1 hS1=>?_);replace hs2:=hs2.up hS1;replace e3':=e3'.up hS1;replace hT:=hT.trans hS1;refine D ?_;apply Z2c;exact rfl;refine Zmz (c:=x=l[k]) trivial rfl rfl (fun w=>Ztp _ _ _ x l[k] w) (by intro w;exact ZwV x l[k] w) rfl ?_;refine D ?_
 (refine QP ?_ ?_<;>intro hc)
 refine RU ?_;exact ⟨⟨_,rfl,by constructor<;>intro _<;>first|omega|(rw [hc];exact Xd hlt)⟩,hS.trans hT⟩;exact QL (k+1) ⟨hlt,hT,fun j h hj=>by
  by_cases e:j=k;subst e;exact fun h=>hc h.symm;exact hz j h (by omega)⟩ (by omega)
 refine RT ?_;exact ⟨⟨_,rfl,by
  constructor;intro h;omega;intro h;obtain ⟨j,hj,e⟩:=Xr h;exact absurd e (hz j hj (by omega))⟩,hS.trans hT⟩
theorem Z81 (v:Value) (l:List Ins) (x:Ins) (w) (hs:SlV [] w v l):CC 85 #[v,agg x] w fun r w'=>r=.B (decide (x∈l))∧Stp [] w w':=by
 refine cW2 9 Tryz.func85 ?_;refine W ?_;refine BX (Stp.refl [] w) fun b3 w1 h3 e3 _ hS=>?_;replace e3:Blk w1 b3 171 (Z3.enc x):=e3;refine W ?_;refine CG (ZdR v l x _ (hs.up hS)) ?_;rintro _ w2 ⟨⟨z,rfl,hz⟩,hT⟩;refine RT ?_;exact ⟨congrArg Value.bool (decide_eq_decide.2 hz),hS.trans hT⟩
def Z4G (l:List Ins):Bool:=decide ((⟨4,1⟩:Ins)∈l) || decide ((⟨4,2⟩:Ins)∈l)
theorem Zce (a b:Int) (w):(Instr.build 171 #[(0,.I a),(1,.I b)]).run Tryz.prog w=.ok (agg (⟨a,b⟩:Ins)) w:=by kernel_rfl
theorem Zcf (v:Value) (l:List Ins) (w) (hs:SlV [] w v l):CC 54 #[v] w fun r w'=>r=.B (Z4G l)∧Stp [] w w':=by
 refine cW1 11 Tryz.func54 ?_;refine W ?_;refine Z8 (vs:=[(0,.I 4),(1,.I 1)]) rfl (Zce _ _) rfl ?_;refine CP (Stp.refl [] w) (Z81 v l _ w hs) fun w1 _ hS=>?_;unfold Z4G;by_cases h1:(⟨4,1⟩:Ins)∈l;rw [decide_eq_true h1];refine RT ?_;exact ⟨rfl,hS⟩;rw [decide_eq_false h1];refine QO ?_;refine Z8 (vs:=[(0,.I 4),(1,.I 2)]) rfl (Zce _ _) rfl ?_;refine W ?_;refine CP hS (Z81 v l _ _ (hs.up hS)) fun w2 _ hS=>?_;refine RT ?_;exact ⟨by simp,hS⟩
end Go.Proofs.YtipfkbkkndacjaaGreatDoor
namespace Go.Eng
open Go Go.RowKit Go.Proofs
section
variable {P:Program} {n:Nat} {Q:Exit→Act→World→Prop} {e:Env} {w w0 w':World} {rest:List Oper} {ops:Array Oper} {ty:TypeId} {pos:String} {af:Array Edge} {dd:Option Nat} {g:Option (Nat×Bool)}
structure StD (w w':World):Prop where
 s:Stp [] w w'
 d:w.drawn≤w'.drawn
theorem StD.refl (w):StD w w:=⟨Stp.refl _ _,Xn _⟩
theorem StD.trans {a b c:World} (h:StD a b) (k:StD b c):StD a c:=⟨h.s.trans k.s,Xg h.d k.d⟩
theorem StD.grown {w w':World} (h:StD w w'):∃ q os',w'=Go.Sort.grow (w.drewN q) os':=by
 refine ⟨w'.drawn - w.drawn,w'.heap.extract w.heap.size w'.heap.size,?_⟩;obtain ⟨⟨h1,h2,h3,h4,h5⟩,h6⟩:=h;have hh:w'.heap=w.heap++w'.heap.extract w.heap.size w'.heap.size:=by
  apply Array.ext_getElem?;intro i;by_cases hi:i<w.heap.size;rw [h5 i hi (by simp),XT hi];rw [Array.getElem?_append_right (by omega),Array.getElem?_extract];by_cases hi2:i<w'.heap.size;rw [if_pos (by omega)];congr 1;omega;rw [if_neg (by omega),Yat (by omega)]
 cases w';cases w;simp only [Go.Sort.grow,World.drewN] at *;subst h1 h2 h3;simp only [World.mk.injEq,true_and,and_true];exact ⟨hh,by omega⟩
theorem Zgb {id:Nat} {l:List Oper} (m:Nat) (S:List Nat) (Lt:List Nat) (ord:List (Nat×Nat)) (hlm:l.length=m) (hm:P.follows .mixedOrders=true) (hs:Region.noSelect l.toArray=true) (hl:Nat.beq (wt ord) l.length=true)
 (hB:J9 l.toArray Lt ord (Array.replicate m false)=true)
 (h:∀ w',StD w w'→WD P n l.toArray S Lt Q ord e w'):WC P n (.region id l.toArray true) Q e w:=by
 subst hlm;refine ⟨fun a ha=>wp_region_any hm ?_⟩;have h1:=(h { w with drawn:=w.drawn+1 } ⟨Stp.drew [] w,Nat.le_succ _⟩).h _ hs hB a ha;have h2:=Z0Q (Q:=Q) (fun a w hz=>hz) _ _ _ _ h1;rw [XK hl] at h2;simpa using h2
theorem BXD {d:Nat} {t:TypeId} {x:Operand} {v:Value} (hS:StD w0 w) (k:∀ b w',w.heap.size≤b→Blk w' b t v.cells.toList→StD w w'→StD w0 w'→WL P n ops Q rest ((d,pQ b) :: e) w')
 (hx:ev e x=some v:=by exact rfl) (hd:Nat.blt d n=true:=by exact rfl):WL P n ops Q (⟨some d,.box t x,ty,pos,af,none⟩ :: rest) e w:=by
 have ho:OE P n ⟨some d,.box t x,ty,pos,af,none⟩ e w (fun u w'=>Z7m w t v.cells.toList u w'∧w'.drawn=w.drawn):=
  Jd (v:=.pointer (some ⟨w.heap.size,0,none⟩)) (w':=w.alloc (.cells v.cells t)) (fun a ha=>by
   simp [execOp,Instr.box,ha.ev hx,newVar,newRow,newObj];rfl) ⟨by simpa using Z9X w t v.cells.toList,rfl⟩
 refine Z1 ho hd ?_;rintro _ w' ⟨⟨b,rfl,hb,hk,hT⟩,he⟩;have h1:StD w w':=⟨hT,Nat.le_of_eq he.symm⟩
 exact k b w' hb hk h1 (hS.trans h1)
theorem Z82 {t T len:Nat} {l:List (Nat×Operand)} {vs:List (Nat×Value)} {cs:List Value} (hv:Z0m e l=some vs)
 (hb:∀ w:World,(Instr.buildSlice t len vs.toArray).run P w=.ok (.slice (some ⟨w.heap.size,0,none⟩) len len) (w.alloc (.cells cs.toArray T))) :
 OE P n ⟨dd,.buildSlice t len l.toArray,ty,pos,af,g⟩ e w (fun v w'=>Z6 w T len cs v w'∧StD w w'):=
 Jd (v:=.slice (some ⟨w.heap.size,0,none⟩) len len) (w':=w.alloc (.cells cs.toArray T)) (fun a ha=>by
  have h1:=ha.parts hv;have h2:l.toArray.map (fun (x:Nat×Operand)=>match x with|(i,x)=>(i,a.eval x))=vs.toArray:=by
   rw [Yby];exact congrArg List.toArray h1
  simp only [execOp];rw [h2];simp [hb w]) ⟨⟨w.heap.size,rfl,Xn _,heap_alloc_new w _,Stp.alloc _ _ _⟩,⟨Stp.alloc _ _ _,Xn _⟩⟩
theorem CPD {f d:Nat} {fn:Func} {xs:Array Operand} {ts:Array TypeId} {vs:Array Value} {r:Value} {c:Operand} [hf:Fun P f fn] (hS:StD w0 w) (h:Calls P f vs w (Ret fun v w'=>v=r∧StD w w')) (k:∀ w',StD w w'→StD w0 w'→WL P n ops Q rest ((d,r) :: e) w')
 (hc:ev e c=some (.func (.func f) #[] #[]):=by exact rfl) (hv:∀ a,Has n e a→xs.map a.eval=vs:=by first|exact ZX rfl|exact Zh rfl rfl|exact Js rfl rfl rfl|exact Z6Y rfl rfl rfl rfl|exact Z5Q) (hd:Nat.blt d n=true:=by exact rfl) :
 WL P n ops Q (⟨some d,.call { callee:=.value c,args:=xs,argTypes:=ts },ty,pos,af,none⟩ :: rest) e w:=
 Z1 (Zd hc hv h) hd (by rintro _ w' ⟨rfl,hT⟩;exact k w' hT (hS.trans hT))
theorem DPD {Lt:List Nat} {ord:List (Nat×Nat)} {i f d:Nat} {fn:Func} {gd:Option (Nat×Bool)} {xs:Array Operand} {ts:Array TypeId} {vs:Array Value} {r:Value} {c:Operand} {S:List Nat} [hf:Fun P f fn] (hS:StD w0 w) (h:Calls P f vs w (Ret fun v w'=>v=r∧StD w w')) (k:∀ w',StD w w'→StD w0 w'→WD P n ops S Lt Q ord ((d,r) :: e) w')
 (hi:ops[i]?=some ⟨some d,.call { callee:=.value c,args:=xs,argTypes:=ts },ty,pos,af,gd⟩:=by exact rfl) (hg:Zz ops e gd:=by first|exact trivial|exact rfl)
 (hc:ev e c=some (.func (.func f) #[] #[]):=by exact rfl) (hv:∀ a,Has n e a→xs.map a.eval=vs:=by first|exact ZX rfl|exact Zh rfl rfl|exact Js rfl rfl rfl|exact Z6Y rfl rfl rfl rfl|exact Z5Q) (hd:Nat.blt d n=true:=by exact rfl) :
 WD P n ops S Lt Q ((i,2) :: ord) e w:=
 Zc hi hg (Zd hc hv h) (fun _ _ h=>h.2.s.mn) hd (by rintro _ w' ⟨rfl,hT⟩;exact k w' hT (hS.trans hT))
end
section
variable {w:World} {T:Nat}
theorem Zgc {g q:Nat} {cur F:Array Value} (os:Array Obj) (h:w.heap[g]?=some (.cells cur T (0,0))) (hl:F.size≤cur.size) :
 Stp [g] w (Go.Sort.grow (Go.Sort.putRow id (Go.Sort.ahead w q) g 0 F) os)∧
 ∃ cur',(Go.Sort.grow (Go.Sort.putRow id (Go.Sort.ahead w q) g 0 F) os).heap[g]?=some (.cells cur' T (0,0))∧cur'.size=cur.size∧cur'.toList.take F.size=F.toList:=by
 have hlt:g<w.heap.size:=(Xk.1 h).1;have hh:(Go.Sort.grow (Go.Sort.putRow id (Go.Sort.ahead w q) g 0 F) os).heap=w.heap.modify g (Go.Sort.onCells (Go.Sort.putCells id 0 F))++os:=rfl;refine ⟨⟨rfl,rfl,rfl,by rw [hh];simp,fun b hb hn=>?_⟩,Go.Sort.putCells id 0 F cur,?_,by simp [Go.Sort.putCells],?_⟩;rw [hh,XT (by simpa using hb),YaQ,if_neg (by simp at hn;exact fun e=>hn e.symm)];rw [hh,XT (by simpa using hlt),YaQ,if_pos rfl,h];rfl;apply Yay;simp [Go.Sort.putCells];omega;intro i h1 h2;have hi:i<F.size:=by simpa using h2
 simp [Go.Sort.putCells,hi]
theorem ZdS {g:Nat} {cur F:Array Value} (h:w.heap[g]?=some (.cells cur T (0,0))) (ht:cur.toList.take F.size=F.toList):Go.Sort.Holds id w g 0 F:=by
 intro j hj;have hc:cur[j]?=some F[j]:=by
  have h1:(cur.toList.take F.size)[j]?=some F[j]:=by rw [ht];simp [hj]
  rw [Yae,if_pos hj] at h1;simpa using h1
 constructor;simp [World.cell?,h,hc,hj];simp [World.frozen?,h]
theorem Z83 {β:Type} [Z3 β] [Inhabited β] (hk:0<Z3.k β) (xs:List β):(Go.Sort.flatK Z3.enc (Z3.k β) xs.toArray).toList=(xs.map Z3.enc).flatten:=by
 have hlen:((xs.map Z3.enc).flatten:List Value).length=xs.length * Z3.k β:=by
  rw [Z0W (k:=Z3.k β) _ (by intro c hc;obtain ⟨x,_,rfl⟩:=XC.1 hc;exact Z3.len x),Xs]
 apply List.ext_getElem?;intro t;by_cases ht:t<xs.length * Z3.k β;have hq:t / Z3.k β<xs.length:=Nat.div_lt_of_lt_mul (by rwa [Ya4] at ht);have hr:t % Z3.k β<Z3.k β:=YbB _ hk;have h1:=Z0q (k:=Z3.k β) (xs.map Z3.enc) (by intro c hc;obtain ⟨x,_,rfl⟩:=XC.1 hc;exact Z3.len x) (t / Z3.k β) (by simpa using hq) (t % Z3.k β) ((Z3.enc xs[t / Z3.k β])[t % Z3.k β]'(by rw [Z3.len];exact hr)) (by simp [Z3.len,hr]);rw [Ya4,Ybf] at h1;rw [h1];have h2:=Go.Sort.get_flatK Z3.enc (Z3.k β) xs.toArray t (by simpa using ht);have hs:t<(Go.Sort.flatK Z3.enc (Z3.k β) xs.toArray).size:=by simpa using ht
 rw [getElem!_pos _ t hs] at h2;rw [YaR,Array.getElem?_eq_getElem hs,h2];congr 1;rw [getElem!_pos xs.toArray _ (by simpa using hq),getElem!_pos _ _ (by rw [Z3.len];exact hr)];simp;rw [YaP (by simpa using Ybw ht),YaP (by rw [hlen];omega)]
theorem Row.toK {β:Type} [Z3 β] {X:List Nat} {base:Nat} {v:Value} {zs:List β} (h:Row X w base T v zs) :
 (v=.N∧zs=[])∨∃ g cap cur,v=.slice (some ⟨g,0,none⟩) zs.length cap∧base≤g∧w.heap[g]?=some (.cells cur T (0,0))∧zs.length≤cap∧cap≤maxLen∧cur.size=cap * Z3.k β∧cur.toList.take (zs.length * Z3.k β)=(zs.map Z3.enc).flatten:=by
 obtain ⟨css,hl,hr,hx,ho⟩:=h;have hc:css=zs.map Z3.enc:=by
  apply Yay (by simpa using hl);intro i h1 h2;have:css[i]=Z3.enc zs[i]:=hr i (by omega) h1;simp [this]
 subst hc;rcases ho with ⟨rfl,hn⟩|⟨g,cap,cur,rfl,hb,hg,hnc,hcm,hcs,ht⟩
 exact .inl ⟨rfl,Xv.1 hn⟩;exact .inr ⟨g,cap,cur,rfl,hb,hg,hnc,hcm,hcs,ht⟩
theorem Row.ofK {β:Type} [Z3 β] {X:List Nat} {base g cap:Nat} {cur:Array Value} {zs:List β} (hb:base≤g) (hg:w.heap[g]?=some (.cells cur T (0,0))) (hnc:zs.length≤cap) (hcm:cap≤maxLen) (hcs:cur.size=cap * Z3.k β)
 (ht:cur.toList.take (zs.length * Z3.k β)=(zs.map Z3.enc).flatten):Row X w base T (.slice (some ⟨g,0,none⟩) zs.length cap) zs:=
 ⟨zs.map Z3.enc, by simp, fun i h1 h2 => by simp; rfl, by
   rw [Z0W (k:=Z3.k β) _ (by intro c hc;obtain ⟨x,_,rfl⟩:=XC.1 hc;exact Z3.len x),Xs];rfl,
   .inr ⟨g,cap,cur,rfl,hb,hg,hnc,hcm,hcs,ht⟩⟩
theorem Z20 {β:Type} [Z3 β] {X X':List Nat} {base:Nat} {v:Value} {zs:List β} (h:Row X w base T v zs):Row X' w base T v zs:=by
 rcases h.toK with ⟨rfl,rfl⟩|⟨g,cap,cur,rfl,hb,hg,hnc,hcm,hcs,ht⟩
 exact Row.nil;exact Row.ofK hb hg hnc hcm hcs ht
open Go.Shelf Go.Sort in
theorem Z9m {β:Type} [Z3 β] [Inhabited β] {P:Program} {ρ:Ren} (hk0:0<Z3.k β) (L:SlLaysF0.n6 P ρ) (aE:∀ w,(isAgg (ρ.t 24)).run P w=.ok true w) (zE:∀ w,(Go.sizeOf (ρ.t 24)).run P w=.ok (Z3.k β) w) (cf:β→β→Int) (hO:SWO (ltOf cf)) (g:Nat) {fn:Func} [hf:Fun P g fn]
 (hcmp:∀ (x y:β) (w),Calls P g #[aG x,aG y] w (Ret fun r w'=>r=.I (cf x y)∧StD w w'))
 {X:List Nat} {base:Nat} {v:Value} {zs:List β} (h:Row X w base T v zs) (hsz:zs.length<4611686018427387904) :
 Calls P (ρ.f 6) #[v,.func (.func g) #[] #[]] w (Ret fun r w'=>r=.tuple #[]∧∃ zs':List β,zs'.Perm zs∧(∀ i j (hi:i<zs'.length) (hj:j<zs'.length),i<j→¬ cf zs'[j] zs'[i]<0)∧Row X w' base T v zs'∧Stp (ob v) w w'):=by
 rcases h.toK with ⟨rfl,rfl⟩|⟨gb,cap,cur,rfl,hb,hg,hnc,hcm,hcs,ht⟩
 refine (AnyF.slices_SortFunc_none L none 0 _ w).mono ?_;rintro _ _ ⟨rfl,rfl⟩;exact .mk ⟨rfl,[],YaB _,fun i j hi=>absurd hi (Xu _),Row.nil,Stp.refl _ _⟩;have hlt:gb<w.heap.size:=(Xk.1 hg).1;have hC:CmpLays P g #[] Z3.enc (Z3.k β) cf gb 0 zs.toArray.size w:=fun m os dk hs x y=>by
  refine (hcmp x y _).mono ?_;rintro _ _ ⟨_,rfl,rfl,hD⟩;exact ⟨rfl,hD.grown⟩
 have hH:HoldsK Z3.enc (Z3.k β) w gb 0 zs.toArray:=ZdS hg (by rw [size_flatK,Z83 hk0];simpa using ht);have hS:=AnyQ.slices_SortFunc L (Z3.k β) aE zE Z3.enc Z3.len Z3.one cf hO g #[] gb 0 cap zs.toArray w (fun args w=>hf.enters args w) hC hH hlt (by simpa using hsz);rw [show zs.toArray.size=zs.length by simp] at hS;refine hS.mono ?_;rintro _ _ ⟨rfl,d',q,os,⟨p1,p2,p3⟩,hso,rfl⟩;have hl:d'.size=zs.length:=by simpa using p1
 have hp:d'.toList.Perm zs:=by
  have e1:d'.extract 0 zs.length=d':=by rw [← hl];simp
  have e2:zs.toArray.extract 0 zs.length=zs.toArray:=by simp
  rw [e1,e2] at p3;simpa using p3
 obtain ⟨h1,cur',h2,h3,h4⟩:=Zgc (q:=q) (F:=flatK Z3.enc (Z3.k β) d') os hg (by rw [size_flatK,hl,hcs];exact Xp _ hnc);refine .mk ⟨rfl,d'.toList,hp,fun i j hi hj hij=>?_,?_,h1⟩;have:=hso i j (Xq _) hij (by simpa [hl] using hj);simp only [ltOf,decide_eq_false_iff_not] at this;rw [getElem!_pos d' j (by simpa using hj),getElem!_pos d' i (by simpa using hi)] at this;simpa using this;have hz:zs.length=d'.toList.length:=by simp [hl]
 rw [hz];refine Row.ofK hb h2 (by rw [← hz];exact hnc) hcm (by rw [h3,hcs]) ?_;rw [← hz,← hl,← size_flatK Z3.enc (Z3.k β) d',h4];have:=Z83 hk0 d'.toList;simpa using this
end
variable {P:Program} {n:Nat} {e:Env} {w:World} {d:Option Nat} {ty:TypeId} {pos:String} {af:Array Edge} {g:Option (Nat×Bool)}
theorem ZeQ {T k bytes:Nat} {z:Value} [hk:Siz P T k] [hb:Byt P T bytes] [hz:Zer P T z]:∃ i,P.info? T=some i∧i.size=k∧i.bytes=bytes∧i.zero=some z:=by
 have a1:=hk.h;have a2:=hb.h;have a3:=hz.h;cases hi:P.info? T with
 | none=>simp [hi] at a1
 | some i=>exact ⟨i,rfl,by simpa [hi] using a1,by simpa [hi] using a2,by simpa [hi] using a3⟩
def ZxP (T k m:Nat) (w:World) (v:Value) (w':World):Prop:=∃ b cur,v=.slice (some ⟨b,0,none⟩) m m∧w.heap.size≤b∧w'.heap[b]?=some (.cells cur T (0,0))∧cur.size=m * k∧m≤maxLen∧Stp [] w w'
theorem Z8J {t T bytes k m:Nat} {x y:Operand} {z:Value} [ht:Und P t (.slice T)] [hk:Siz P T k] [hb:Byt P T bytes] [hz:Zer P T z]
 (hx:ev e x=some (.I (m:Int))) (hy:ev e y=some (.I (m:Int))) (hkm:m≤maxLen) (hbytes:bytes * m≤281474976710656) :
 OE P n ⟨d,.makeSlice t x y,ty,pos,af,g⟩ e w (ZxP T k m w):=by
 obtain ⟨i,hi,hi1,hi2,hi3⟩:=ZeQ (P:=P) (T:=T) (k:=k) (bytes:=bytes) (z:=z);obtain ⟨w',hrun,hown,hgr⟩:=run_make_full (P:=P) w w.heap.size t T i z k ht.h hi hi3 hi1 .i64 .i64 m (by rw [hi2];exact hbytes) hkm (Xn _);refine Jd (v:=.slice (some ⟨w.heap.size,0,none⟩) m m) (w':=w') (fun a ha=>?_) ?_;simp [execOp,ha.ev hx,ha.ev hy,hrun];rcases hown.2 with ⟨h,_⟩|⟨gb,cap,cur,h,hb2,hg,hn,hm,hcs,ht2⟩
 cases h;cases h;exact ⟨_,cur,rfl,Xn _,hg,hcs,hkm,Stp.of_grown hgr⟩
theorem ZjV {β:Type} [Z3 β] {t T bytes b:Nat} {x y:Operand} {z u:Value} {zs:List β} {cur:Array Value} {base:Nat} [ht:Und P t (.slice T)] [hk:Siz P T (Z7.k β)] [hb:Byt P T bytes] [hz:Zer P T z]
 (hx:ev e x=some (.slice (some ⟨b,0,none⟩) zs.length zs.length)) (hy:ev e y=some u) (hs:SlV [] w u zs) (hg:w.heap[b]?=some (.cells cur T (0,0))) (hcs:cur.size=zs.length * Z7.k β) (hbase:base≤b) (hm:zs.length≤maxLen) :
 OE P n ⟨d,.call { callee:=.builtin .copy,args:=#[x,y],argTypes:=#[t,t] },ty,pos,af,g⟩ e w (fun _ w'=>(∀ X,Row X w' base T (.slice (some ⟨b,0,none⟩) zs.length zs.length) zs)∧Stp [b] w w'):=by
 obtain ⟨i,hi,hi1,hi2,hi3⟩:=ZeQ (P:=P) (T:=T) (k:=Z7.k β) (bytes:=bytes) (z:=z);have hfl:((zs.map Z3.enc).flatten:List Value).length=zs.length * Z7.k β:=by
  rw [Z0W (k:=Z3.k β) _ (by intro c hc;obtain ⟨x,_,rfl⟩:=XC.1 hc;exact Z3.len x),Xs];rfl
 have hone:∀ v∈(zs.map Z3.enc).flatten,v.oneCell'=true:=by
  intro v hv;obtain ⟨c,hc,hvc⟩:=List.mem_flatten.1 hv;obtain ⟨x,_,rfl⟩:=XC.1 hc;exact Z3.one x v hvc
 have hst:=run_storeCells_at (P:=P) b 0 T (zs.map Z3.enc).flatten 0 cur w hg (by rw [hfl,hcs];omega) hone;obtain ⟨p,c,rfl,hlc,hcm,hpn,hcell⟩:=hs;have hld:(Builtin.firstCells (Z7.k β) zs.length (.slice p zs.length c)).run P w=.ok (zs.map Z3.enc).flatten.toArray w:=by
  cases p with
  | none=>
    have h0:zs.length=0:=by have:=hpn rfl;omega
    obtain rfl:=Xv.1 h0;simp [Builtin.firstCells]
  | some a=>
    have:=run_loadCells_list (P:=P) (w:=w) a (zs.map Z3.enc).flatten (fun j v hj=>by
     have hjl:j<zs.length * Z3.k β:=by
      have h1:=(Xw.1 hj).1;rw [hfl] at h1;exact h1
     have hkp:0<Z3.k β:=by
      rcases Nat.eq_zero_or_pos (Z3.k β) with h|h
      rw [h] at hjl;omega;exact h
     have hq:j / Z3.k β<zs.length:=Nat.div_lt_of_lt_mul (by rwa [Ya4] at hjl);have hr:j % Z3.k β<Z3.k β:=YbB _ hkp;obtain ⟨b',o,cs,h1,h2,h3,h4,h5⟩:=hcell _ hq;cases h1;have h4':cs=Z3.enc zs[j / Z3.k β]:=h4;have h6:=Z0q (k:=Z3.k β) (zs.map Z3.enc) (by intro c hc;obtain ⟨x,_,rfl⟩:=XC.1 hc;exact Z3.len x) (j / Z3.k β) (by simpa using hq) (j % Z3.k β) ((Z3.enc zs[j / Z3.k β])[j % Z3.k β]'(by rw [Z3.len];exact hr)) (by simp [Z3.len,hr]);rw [Ya4,Ybf] at h6;rw [h6] at hj;have h7:=h5 (j % Z3.k β) _ (by rw [h4'];exact XN (by rw [Z3.len];exact hr));rw [XX hj] at h7;have h8:o+j / Z3.k β * Z3.k β+j % Z3.k β=o+j:=by
      have:=Ybf j (Z3.k β);rw [Ya4] at this;omega
     have h9:(⟨b',o,none⟩:Addr).add j=⟨b',o+j,none⟩:=by unfold Addr.add;split<;>simp_all
     rw [h9,← h8];exact h7)
    rw [hfl] at this;simpa [Builtin.firstCells] using this
 refine Jd (v:=goInt zs.length) (w':=w.setRow b ((zs.map Z3.enc).flatten++cur.toList.drop ((zs.map Z3.enc).flatten.length)).toArray) (fun a ha=>?_) ⟨fun X=>?_,Z1O _ _ _⟩;have hr:(Builtin.copy_ #[t,t] ty #[.slice (some ⟨b,0,none⟩) zs.length zs.length,.slice p zs.length c]).run P w=.ok (goInt zs.length) (w.setRow b ((zs.map Z3.enc).flatten++cur.toList.drop ((zs.map Z3.enc).flatten.length)).toArray):=by
  simp only [Ybk,XJ,YbG,XL] at hst;simp [Builtin.copy_,run_underlying ht.h,Builtin.lenOf,sizeOf,typeInfo,hi,hi1,hld,hst]
 generalize w.setRow b ((zs.map Z3.enc).flatten++cur.toList.drop ((zs.map Z3.enc).flatten.length)).toArray=W' at hr ⊢;simp [execOp,resolve,invoke,builtin,ha.ev hx,ha.ev hy,hr];have hlb:b<w.heap.size:=(Xk.1 hg).1;refine Row.ofK (cur:=((zs.map Z3.enc).flatten++cur.toList.drop ((zs.map Z3.enc).flatten.length)).toArray) hbase (setRow_heap w b cur _ T (0,0) hg) (Xn _) hm ?_ ?_;have:Z3.k β=Z7.k β:=rfl;rw [this];simp only [Yar,Xc,Yaf,Yah,hfl,hcs];omega;have:Z3.k β=Z7.k β:=rfl;rw [this];simp only [List.take_append_of_le_length (Nat.le_of_eq hfl.symm)];rw [← hfl,Xo]
end Go.Eng
namespace Go.Proofs.YtipfkbkkndacjaaGreatDoor
open Go Go.Eng Go.RowKit
theorem Zgd (x y:Int) (w):CC 75 #[.I x,.I y] w fun r w'=>r=.I (cmI x y)∧StD w w':=
 (Tryz.cmp_Compare_int x y w).mono (by
   rintro e w' ⟨rfl,rfl⟩;exact .mk ⟨rfl,StD.refl _⟩)
theorem ZjW (a:Str) (w):CC 126 #[str a] w fun r w'=>r=.B false∧StD w w':=by
 refine cW1 6 Tryz.func126 ?_;refine RT ?_;exact ⟨by simp,StD.refl _⟩
theorem ZwW (a b:Str) (w):CC 76 #[str a,str b] w fun r w'=>r=.I (Z3S a b)∧StD w w':=by
 refine cW2 20 Tryz.func76 ?_;refine W ?_;refine CPD (StD.refl w) (ZjW a _) fun w1 _ hS=>?_;refine W ?_;refine CPD hS (ZjW b _) fun w2 _ hS=>?_;refine W ?_;cases h1:ltS a b
 · refine Z4 (Z7b rfl rfl h1) rfl ?_
   refine W ?_;cases h2:(!(ltS a b || a == b))
   all_goals
    refine Z4 (ZeP rfl rfl h2) rfl ?_;refine RT ?_;exact ⟨by rw [Z3S,if_neg (by simp [h1]),h2];rfl,hS⟩
 refine Z4 (Z7b rfl rfl h1) rfl ?_;refine RT ?_;exact ⟨by rw [Z3S,h1];rfl,hS⟩
theorem ZxQ (v:Value) (l:List Int) (w) (hs:SlV [] w v l):CC 74 #[v] w fun r w'=>r=.I (orL l)∧StD w w':=by
 have hmax:=hs.max;refine cW1 18 Tryz.func74 ?_;refine W ?_;refine LP (σ:=Nat) (fun k=>[(3,.I 0),(6,v),(7,.I l.length),(8,.I k)]) (fun k w'=>k≤l.length∧StD w w'∧∀ j (h:j<l.length),j<k→l[j]=0) (fun k=>l.length - k) 0 ⟨by omega,StD.refl _,by omega⟩ ?_;have hs0:=hs;clear hs;rintro k w1 ⟨hk,hS,hz⟩;have hs:=hs0.up hS.s;by_cases hlt:k<l.length;by_cases h0:l[k]=0;refine QO ?_;exact QL (k+1) ⟨by omega,hS,fun j h hj=>by
  by_cases e:j=k;subst e;exact h0;exact hz j h (by omega)⟩ (by omega)
 refine RT ?_;exact ⟨by rw [ZdP hlt hz h0],hS⟩;refine RT ?_;exact ⟨by rw [Z80 (fun j h=>hz j h (by omega))],hS⟩
theorem ZwX (f g:Fct) (w):CC 43 #[aG f,aG g] w fun r w'=>r=.I (Z4x f g)∧StD w w':=by
 refine cW2 37 Tryz.func43 ?_;refine W ?_;refine BXD (StD.refl w) fun b2 w1 h2 e2 _ hS=>?_;refine BXD hS fun b3 w2 h3 e3 hT hS=>?_;replace e2:=e2.up hT.s;replace e2:Blk w2 b2 45 (Z3.enc f):=e2;replace e3:Blk w2 b3 45 (Z3.enc g):=e3;refine W ?_;refine Zgb 33 [] [] [(0,0),(1,1),(2,0),(3,1),(5,0),(6,1),(7,0),(8,1),(10,0),(11,1),(12,0),(13,1),(15,0),(16,1),(17,0),(18,1),(20,0),(21,1),(22,0),(23,1),(25,0),(26,1),(27,0),(28,1),(4,2),(9,2),(14,2),(19,2),(24,2),(29,2),(30,2),(31,2),(32,0)] rfl mixed (by kernel_rfl) (by kernel_rfl) (by kernel_rfl) (fun w1 hS1=>?_);replace e2:=e2.up hS1.s;replace e3:=e3.up hS1.s;replace hS:=hS.trans hS1;refine D ?_;clear hS1 e2 e3;refine DPD hS (Zgd _ _ _) fun _ _ hS=>?_;refine DPD hS (Zgd _ _ _) fun _ _ hS=>?_;refine DPD hS (ZwW _ _ _) fun _ _ hS=>?_;refine DPD hS (Zgd _ _ _) fun _ _ hS=>?_;refine DPD hS (Zgd _ _ _) fun _ _ hS=>?_;refine DPD hS (Zgd _ _ _) fun _ _ hS=>?_;refine Zc rfl trivial (Z82 rfl (Zcc _ _ _ _ _ _)) (fun _ _ h=>Z6.stp h.1) rfl ?_;rintro bv wb ⟨hN,hT⟩;have hbv:=hN.slv (X:=[]) (ys:=[cmI f.day g.day,cmI f.entry g.entry,Z3S f.kind g.kind,cmI f.by_ g.by_,cmI f.to_ g.to_,cmI f.amt g.amt]) (by simp) rfl rfl (by simp [maxLen]);replace hS:=hS.trans hT;refine DPD hS (ZxQ bv _ _ hbv) fun _ _ hS=>?_;refine D ?_;refine RT ?_;exact ⟨rfl,hS⟩
theorem ZwY (a b:Spn) (w):CC 151 #[aG a,aG b] w fun r w'=>r=.I (cmI a.1 b.1)∧StD w w':=by
 refine cW2 10 Tryz.func151 ?_;refine W ?_;refine BXD (StD.refl w) fun b2 w1 h2 e2 _ hS=>?_;refine BXD hS fun b3 w2 h3 e3 hT hS=>?_;replace e2:=e2.up hT.s;replace e2:Blk w2 b2 75 (Z3.enc a):=e2;replace e3:Blk w2 b3 75 (Z3.enc b):=e3;refine W ?_;refine CPD hS (Zgd _ _ _) fun w3 _ hS=>?_;refine RT ?_;exact ⟨rfl,hS⟩
def ZdT (s:Spn):List Spn→List Spn
 | []=>[s]
 | x :: l=>if s.1<x.1 then s :: x :: l else x :: ZdT s l
def ZeR (l:List Spn):List Spn:=l.foldr ZdT []
def Z09 (acc:List Spn) (s:Spn):List Spn:=
 match acc.getLast? with
 | none=>[s]
 | some t=>if s.1≤t.2+1 then acc.dropLast++[(t.1,max t.2 s.2)] else acc++[s]
def Z3T (l:List Spn):List Spn:=(ZeR l).foldl Z09 []
structure Z84 (l:List Spn):Prop where
 len:l.length≤1000
 rng:∀ s∈l,0≤s.1∧s.1≤s.2∧s.2≤3652058
theorem Z4n (s:Spn):Z09 [] s=[s]:=rfl
theorem Z01 (L:List Spn) (u s:Spn):Z09 (L++[u]) s=if s.1≤u.2+1 then L++[(u.1,max u.2 s.2)] else L++[u]++[s]:=by
 simp [Z09]
theorem Z6f (s:Spn):∀ l,(ZdT s l).Perm (s :: l)
 | []=>YaB _
 | x :: l => by
   rw [ZdT];split;exact YaB _
   · exact ((Z6f s l).cons x).trans (List.Perm.swap _ _ _)
theorem Z6N (s:Spn):∀ l:List Spn,l.Pairwise (fun a b=>a.1≤b.1)→(ZdT s l).Pairwise (fun a b=>a.1≤b.1)
 | [],_=>by simp [ZdT]
 | x :: l, h => by
   rw [ZdT];rw [XZ] at h;split;rename_i hlt;refine XZ.2 ⟨fun y hy=>?_,XZ.2 h⟩;rcases Xb.1 hy with rfl|hy
   omega;have:=h.1 y hy;omega;rename_i hlt;refine XZ.2 ⟨fun y hy=>?_,Z6N s l h.2⟩;rcases Xb.1 ((Z6f s l).mem_iff.1 hy) with rfl|hy
   omega;exact h.1 y hy
theorem Z36:∀ l,(ZeR l).Perm l
 | []=>YaB _
 | x :: l=>(Z6f x _).trans ((Z36 l).cons x)
theorem Z5x:∀ l,(ZeR l).Pairwise (fun a b=>a.1≤b.1)
 | []=>List.Pairwise.nil
 | x :: l=>Z6N x _ (Z5x l)
theorem ZdU {acc:List Spn} {s t:Spn} (h:s.1=t.1) (hs:s.1≤s.2) (ht:t.1≤t.2):Z09 (Z09 acc s) t=Z09 (Z09 acc t) s:=by
 obtain ⟨s1,s2⟩:=s;obtain ⟨t1,t2⟩:=t;dsimp only at h hs ht;subst h;rcases Yam acc with rfl|⟨L,u,rfl⟩
 rw [Z4n,Z4n];have e1:=Z01 [] (s1,s2) (s1,t2);have e2:=Z01 [] (s1,t2) (s1,s2);rw [XL] at e1 e2;rw [e1,e2,if_pos (by dsimp only;omega),if_pos (by dsimp only;omega)];dsimp only;rw [Int.max_comm];obtain ⟨u1,u2⟩:=u;rw [Yan,Z01,Z01];dsimp only;by_cases hc:s1≤u2+1;rw [if_pos hc,if_pos hc,Z01,Z01,if_pos (by dsimp only;omega),if_pos (by dsimp only;omega)];dsimp only;congr 3;omega;rw [if_neg hc,if_neg hc,Z01,Z01,if_pos (by dsimp only;omega),if_pos (by dsimp only;omega)];dsimp only;rw [Int.max_comm]
theorem Z9n {x:Spn} (hx:x.1≤x.2):∀ (A:List Spn) (acc:List Spn),(∀ a∈A,a.1=x.1∧a.1≤a.2)→Z09 (A.foldl Z09 acc) x=A.foldl Z09 (Z09 acc x)
 | [],_,_=>rfl
 | a :: A, acc, h => by
   rw [X1,X1,Z9n hx A _ (fun b hb=>h b (by simp [hb])),ZdU (h a (by simp)).1 (h a (by simp)).2 hx]
theorem Zcg:∀ (L1 L2 acc:List Spn),L1.Perm L2→L1.Pairwise (fun a b=>a.1≤b.1)→L2.Pairwise (fun a b=>a.1≤b.1)→(∀ s∈L1,s.1≤s.2)→L1.foldl Z09 acc=L2.foldl Z09 acc
 | [],L2,acc,hp,_,_,_=>by rw [List.nil_perm.1 hp]
 | x :: l, L2, acc, hp, h1, h2, hv => by
   obtain ⟨A,B,rfl⟩:=List.append_of_mem (hp.mem_iff.1 (YaO));have hq:l.Perm (A++B):=(hp.trans List.perm_middle).cons_inv;rw [XZ] at h1;have h2':=Ybd.1 h2;rw [X1,YaF,X1,Z9n (hv x (by simp)) A acc (fun a ha=>?_),← YaF];refine Zcg l (A++B) _ hq h1.2 ?_ (fun s hs=>hv s (by simp [hs]));exact h2.sublist (List.Sublist.append_left (List.sublist_cons_self _ _) _);have ha':a∈l:=hq.mem_iff.2 (by simp [ha]);have g1:=h1.1 a ha';have g2:=h2'.2.2 a ha x (by simp);exact ⟨by omega,hv a (by simp [ha'])⟩
theorem Zge {l L:List Spn} (hp:L.Perm l) (hs:L.Pairwise (fun a b=>a.1≤b.1)) (hv:∀ s∈l,s.1≤s.2):Z3T l=L.foldl Z09 []:=
 Zcg _ _ _ ((Z36 l).trans hp.symm) (Z5x l) hs (fun s h=>hv s ((Z36 l).mem_iff.1 h))
theorem Zgf (acc:List Spn) (s:Spn):(Z09 acc s).length≤acc.length+1:=by
 rcases Yam acc with rfl|⟨L,u,rfl⟩
 simp [Z09];rw [Yan,Z01];split<;>simp
theorem Z6g:∀ (L acc:List Spn),(L.foldl Z09 acc).length≤acc.length+L.length
 | [],acc=>by simp
 | x :: L, acc => by
   rw [X1];have h1:=Z6g L (Z09 acc x);have h2:=Zgf acc x;rw [Xe];omega
def SpV (s:Spn):Prop:=0≤s.1∧s.1≤s.2∧s.2≤3652058
theorem Znj {acc:List Spn} {s:Spn} (ha:∀ x∈acc,SpV x) (hs:SpV s):∀ x∈Z09 acc s,SpV x:=by
 rcases Yam acc with rfl|⟨L,u,rfl⟩
 rw [Z4n];intro x hx;simp only [Xl] at hx;subst hx;exact hs;rw [Yan] at ha ⊢;rw [Z01];have hu:=ha u (by simp);intro x hx;unfold SpV at *;split at hx;rcases Xh.1 hx with h|h
 exact ha x (by simp [h]);simp only [Xl] at h;subst h;dsimp only;omega;rcases Xh.1 hx with h|h
 exact ha x h;simp only [Xl] at h;subst h;exact hs
theorem ZaF:∀ (L acc:List Spn),(∀ x∈acc,SpV x)→(∀ x∈L,SpV x)→∀ x∈L.foldl Z09 acc,SpV x
 | [],acc,h,_=>h
 | y :: L,acc,h,hL=>ZaF L _ (Znj h (hL y (by simp))) (fun x hx=>hL x (by simp [hx]))
theorem ZjX {l:List Spn} (h:Z84 l):Z84 (Z3T l):=by
 have hp:=Z36 l;refine ⟨?_,ZaF _ _ (by simp) (fun x hx=>h.rng x (hp.mem_iff.1 hx))⟩;have:=Z6g (ZeR l) [];rw [hp.length_eq] at this;have:=h.len;unfold Z3T;simp at *;omega
open Go Go.Eng Go.RowKit Go.Shelf Go.Sort
theorem ZxR {α:Type} (f:α→Int):SWO (ltOf fun x y:α=>cmI (f x) (f y)):=by
 have h:∀ x y,ltOf (fun x y:α=>cmI (f x) (f y)) x y=decide (f x<f y):=by
  intro x y;unfold ltOf cmI;by_cases h1:f x<f y;simp [h1];by_cases h2:f y<f x<;>simp [h1,h2]
 refine ⟨fun x=>by rw [h];simp,fun x y z h1 h2=>?_,fun x y z h1 h2=>?_⟩;rw [h] at *;simp at *;omega;rw [h] at *;simp at *;omega
instance:Inhabited Spn:=⟨(0,0)⟩
theorem Zch {X:List Nat} {base:Nat} {v:Value} {zs:List Spn} {w} (h:Row X w base 75 v zs) (hsz:zs.length≤1000) :
 CC 150 #[v,.func (.func 151) #[] #[]] w fun r w'=>r=.tuple #[]∧∃ zs':List Spn,zs'.Perm zs∧(∀ i j (hi:i<zs'.length) (hj:j<zs'.length),i<j→¬ cmI zs'[j].1 zs'[i].1<0)∧Row X w' base 75 v zs'∧Stp (ob v) w w':=
 Z9m (β:=Spn) (by decide) Tryz.sortSpn Tryz.isAgg75 Tryz.sizeOf75 (fun x y=>cmI x.1 y.1) (ZxR Prod.fst) 151 (fun x y w=>ZwY x y w) h (by omega)
theorem Zgg (v:Value) (l:List Spn) (w) (hs:SlV [] w v l) (ho:Z84 l):CC 83 #[v] w fun r w'=>ZI 75 w w' r (Z3T l):=by
 have hlen:=ho.len;refine cW1 58 Tryz.func83 ?_;refine W ?_;refine Z1 (Z8J (m:=l.length) rfl rfl (by simp only [maxLen];omega) (Xg (Nat.mul_le_mul_left _ hlen) (by decide))) rfl ?_;rintro _ w1 ⟨b,cur,rfl,hb,hg,hcs,hm,hT⟩;have hs1:=hs.up hT;refine W ?_;refine Z1 (ZjV (base:=w.heap.size) rfl rfl hs1 hg hcs hb hm) rfl ?_;rintro _ w2 ⟨hr,hT2⟩;replace hT:=hT.ow hT2;refine W ?_;refine CL (Zch (hr []) hlen) ?_;rintro _ w3 ⟨rfl,L,hp,hso,hr3,hT3⟩;have hS:Stp [] w w3:=hT.own hT3 (fun c hc=>.inr (by simp [ob] at hc;omega));have hpw:L.Pairwise (fun a b=>a.1≤b.1):=Yal.2 (fun i j hi hj hij=>by
  have:=hso i j hi hj hij;unfold cmI at this;by_cases h1:L[j].1<L[i].1;rw [if_pos h1] at this;omega;omega)
 rw [Zge hp hpw (fun s h=>(ho.rng s h).2.1)];have hv:∀ s∈L,SpV s:=fun s h=>ho.rng s (hp.mem_iff.1 h);have hll:L.length=l.length:=hp.length_eq;have hL:L.length≤1000:=by rw [hll];exact hlen
 have hsl:SlV [] w3 (.slice (some ⟨b,0,none⟩) l.length l.length) L:=hr3.slv (by simp);rw [← hll] at *;clear hr hr3 hs1 hT hT2 hT3 hg hcs hso hp;generalize hvv:Value.slice (some ⟨b,0,none⟩) L.length L.length=vv at *;refine W ?_;refine LP (σ:=Nat×Value) (fun q=>[(4,q.2),(16,vv),(17,.I L.length),(18,.I q.1)]) (fun q w'=>q.1≤L.length∧ZI 75 w3 w' q.2 ((L.take q.1).foldl Z09 [])) (fun q=>L.length - q.1) (0,.N) ⟨by omega,ZI.nil⟩ ?_;rintro ⟨k,rv⟩ w4 ⟨hk,hr⟩;dsimp only at hk hr ⊢;by_cases hlt:k<L.length;have hsl4:=hsl.up hr.2;have hstep:(L.take (k+1)).foldl Z09 []=Z09 ((L.take k).foldl Z09 []) L[k]:=by rw [Xi hlt,YaF];rfl
 have hfl:=Z6g (L.take k) [];have hfv:=ZaF (L.take k) [] (by simp) (fun x hx=>hv x (Yaq hx));have hvk:=hv _ (Xd hlt);rw [Xt,Xf] at hfl;generalize (L.take k).foldl Z09 []=acc at *;refine QO ?_;refine Z1 Z2 rfl ?_;rintro _ w5 ⟨b6,rfl,hb6,e6,hA⟩;refine SA (us:=Z3.enc L[k]) e6 ?_;rintro _ w6 ⟨hA2,e6⟩;replace hA:=hA.ow hA2;replace hr:=hr.up hA;clear hA hA2 hsl4;have hsr:SlV [] w6 rv acc:=hr.slv (by simp);refine W ?_;rcases Yam acc with rfl|⟨M,u,rfl⟩
 refine ZDr 14 [] [] [(0,0),(1,0),(2,0),(3,0),(4,1),(5,0),(6,0),(7,0),(8,0),(9,0),(10,1),(11,0),(12,0),(13,0)] (fun w1 hS1=>?_);replace hr:=hr.up hS1;replace e6:=e6.up hS1;refine D ?_;refine W ?_;refine AP1 L[k] hr (by simp) fun v1 v' w' hr' _=>?_
 refine W ?_;exact QL (k+1,v') ⟨hlt,by rw [hstep,Z4n];exact hr'⟩ (by dsimp only;omega);rw [Yan] at *;rw [Z01] at hstep;have hidx:((M++[u]).length:Int) - 1=(M.length:Nat):=by simp
 have hib:M.length<(M++[u]).length:=by simp
 have hel:(M++[u])[M.length]=u:=by simp
 have hu:=hfv u (by simp);unfold SpV at hu hvk;have hu2:0≤(M++[u])[M.length].2∧(M++[u])[M.length].2≤3652058:=by rw [hel];omega
 have hlen2:0<((M++[u]).length:Int):=by simp
 refine ZDr 14 [] [] [(0,0),(1,0),(2,0),(3,0),(4,1),(5,0),(6,0),(7,0),(8,0),(9,0),(10,1),(11,0),(12,0),(13,0)] (fun w1 hS1=>?_);replace hr:=hr.up hS1;replace hsr:=hsr.up hS1;replace e6:=e6.up hS1;refine QD ?_;rw [hel];refine W ?_;refine VC ?_ ?_<;>intro hc;rw [if_pos hc] at hstep;refine W ?_;refine ZDr 15 [] [14] [(0,0),(1,0),(2,0),(3,0),(4,0),(5,0),(6,0),(7,0),(8,1),(9,0),(10,1),(11,0),(12,0),(13,0),(14,2)] (fun w1 hS1=>?_);replace hr:=hr.up hS1;replace hsr:=hsr.up hS1;replace e6:=e6.up hS1;refine QD ?_;rw [hel];refine Jy rfl trivial (Zai (y':=(u.1,max u.2 L[k].2)) (u:=.I (max u.2 L[k].2)) rfl rfl rfl rfl rfl hr hib (by decide) (by rw [hel];rfl)) rfl ?_;rintro _ w8 ⟨hr8,-⟩;refine D ?_;refine W ?_;rw [show (M++[u]).set M.length (u.1,max u.2 L[k].2)=M++[(u.1,max u.2 L[k].2)] by simp] at hr8;exact QL (k+1,rv) ⟨hlt,by rw [hstep];exact hr8⟩ (by dsimp only;omega);rw [if_neg hc] at hstep;refine W ?_;refine AP1 L[k] hr (by omega) fun v1 v' w' hr' _=>?_
 refine W ?_;exact QL (k+1,v') ⟨hlt,by rw [hstep];exact hr'⟩ (by dsimp only;omega);obtain rfl:k=L.length:=by omega
 rw [Xo] at hr;refine QO ?_;refine WR ?_;exact .mk (hr.pre hS)
def Z8K (start:Int):List Spn→Int→Int
 | [],d=>d
 | s :: l,d=>if d<s.1 then d else Z8K start l (d+max 0 (s.2 - max s.1 (start+1)+1))
def ZaG (start due:Int) (l:List Spn):Int×Int:=if due≤start then (due,0) else if 3652058<Z8K start (Z3T l) due then (0,31) else (Z8K start (Z3T l) due,0)
theorem Zgh (start:Int) (L:List Spn) (d:Int) (k:Nat) (h:k<L.length):Z8K start (L.drop k) d=if d<L[k].1 then d else Z8K start (L.drop (k+1)) (d+max 0 (L[k].2 - max L[k].1 (start+1)+1)):=by
 rw [Yab h,Z8K]
theorem Z85 (start due:Int) (v:Value) (l:List Spn) (w) (hs:SlV [] w v l) (ho:Z84 l) (h1:-1000000000≤start∧start≤1000000000) (h2:-1000000000≤due∧due≤1000000000):CC 51 #[.I start,.I due,v] w fun r w'=>r=.tuple #[.I (ZaG start due l).1,.I (ZaG start due l).2]∧Stp [] w w':=by
 have hm:=ZjX ho;unfold ZaG;refine cW3 41 Tryz.func51 ?_;by_cases hd:due≤start;rw [if_pos hd];refine RT ?_;exact ⟨rfl,Stp.refl _ _⟩;rw [if_neg hd];refine QO ?_;refine CG (Zgg v l w hs ho) ?_;intro rv w1 hr;have hS:=hr.2;have hsr:SlV [] w1 rv (Z3T l):=hr.slv (by simp);clear hr;generalize Z3T l=L at *;refine W ?_;refine Z0l (σ:=Int) (fun d=>[(0,.I start),(1,.I d)]) (fun d w'=>Stp [] w w'∧d=Z8K start L due∧-1000000000≤d∧d≤9000000000000) ?_ ?_;refine LP (σ:=Nat×Int) (fun q=>[(0,.I start),(1,.I q.2),(15,rv),(16,.I L.length),(17,.I q.1)]) (fun q w'=>q.1≤L.length∧Stp [] w1 w'∧Z8K start (L.drop q.1) q.2=Z8K start L due∧-1000000000≤q.2∧q.2≤1000000000+q.1 * 4000000000) (fun q=>L.length - q.1) (0,due) ⟨by omega,Stp.refl _ _,rfl,h2.1,by dsimp only;omega⟩ ?_;rintro ⟨k,d⟩ w2 ⟨hk,hT,he,g1,g2⟩;dsimp only at hk he g1 g2 ⊢;have hlen:=hm.len;have hsr2:=hsr.up hT;by_cases hlt:k<L.length;obtain ⟨r1,r2,r3⟩:=hm.rng _ (Xd hlt);have hstep:=Zgh start L d k hlt;rw [he] at hstep;refine QO ?_;refine Z1 Z2 rfl ?_;rintro _ w3 ⟨b9,rfl,hb9,e9,hS3⟩;refine SA (us:=Z3.enc L[k]) e9 ?_;rintro _ w4 ⟨hS4,e9⟩;replace hT:=hT.trans (hS3.ow hS4);clear hS3 hS4 hsr2;simp only [Z3.enc] at e9;by_cases hb:d<L[k].1;rw [if_pos hb] at hstep;refine QO ?_;exact QT d ⟨hS.trans hT,hstep.symm,g1,by omega⟩;rw [if_neg hb] at hstep;refine QO ?_;exact ZD (k+1,d+max 0 (L[k].2 - max L[k].1 (start+1)+1)) ⟨rfl,rfl,rfl,rfl,rfl,trivial⟩ ⟨hlt,hT,hstep.symm,by dsimp only;omega,by dsimp only;omega⟩ (by dsimp only;omega);refine QO ?_;rw [Yau (by omega)] at he;exact QT d ⟨hS.trans hT,he,g1,by omega⟩;rintro d w2 ⟨hS2,rfl,g1,g2⟩;generalize Z8K start L due=d at *;by_cases hc:3652058<d;rw [if_pos hc];refine RT ?_;exact ⟨rfl,hS2⟩;rw [if_neg hc];refine RT ?_;exact ⟨rfl,hS2⟩
def Zox (start due:Int) (l:List Spn):Int:=if (ZaG start due l).2≠0 then 3652058 else (ZaG start due l).1
def Z6h (start e:Int) (s:Spn):Bool:=decide (start<s.2∧s.1≤e)
def Z9o (start due:Int) (l:List Spn):List Spn:=if due≤start then [] else l.filter (Z6h start (Zox start due l))
theorem Zci {α:Type} (p:α→Bool) (l:List α) (k:Nat) (h:k<l.length):(l.take (k+1)).filter p=(l.take k).filter p++if p l[k]=true then [l[k]] else []:=by
 rw [Xi h,Ybp];congr 1;cases hc:p l[k]<;>simp [hc]
theorem ZjY (start due:Int) (v:Value) (l:List Spn) (w) (hs:SlV [] w v l) (ho:Z84 l) (h1:-1000000000≤start∧start≤1000000000) (h2:-1000000000≤due∧due≤1000000000):CC 55 #[.I start,.I due,v] w fun r w'=>ZI 75 w w' r (Z9o start due l):=by
 have hlen:=ho.len;unfold Z9o;refine cW3 46 Tryz.func55 ?_;by_cases hd:due≤start;rw [if_pos hd];refine QO ?_;refine WR ?_;exact .mk ZI.nil;rw [if_neg hd];refine QO ?_;refine CP (Stp.refl [] w) (Z85 start due v l w hs ho h1 h2) fun w1 _ hS=>?_;refine W ?_;unfold Zox;generalize ZaG start due l=p;obtain ⟨d,c⟩:=p;dsimp only;refine JA (σ:=Unit) (fun _=>[(0,.I start),(2,v),(7,.I (if c≠0 then 3652058 else d))]) (fun _ w'=>Stp [] w w') ?_ ?_;by_cases hc:c=0;rw [if_neg (by simpa using hc)];refine QO ?_;exact QT () hS;rw [if_pos hc];refine QO ?_;exact QT () hS;rintro _ w2 hS;generalize (if c≠0 then (3652058:Int) else d)=E;have hs2:=hs.up hS;refine W ?_;refine LP (σ:=Nat×Value) (fun q=>[(0,.I start),(7,.I E),(9,q.2),(24,v),(25,.I l.length),(26,.I q.1)]) (fun q w'=>q.1≤l.length∧ZI 75 w w' q.2 ((l.take q.1).filter (Z6h start E))) (fun q=>l.length - q.1) (0,.N) ⟨by omega,ZI.pre hS ZI.nil⟩ ?_;rintro ⟨k,rv⟩ w3 ⟨hk,hr⟩;dsimp only at hk hr ⊢;have hs3:=hs.up hr.2;by_cases hlt:k<l.length
 · have hstep:=Zci (Z6h start E) l k hlt
   refine QO ?_;refine Z1 Z2 rfl ?_;rintro _ w4 ⟨b11,rfl,hb11,e11,hS3⟩;refine SA (us:=Z3.enc l[k]) e11 ?_;rintro _ w5 ⟨hS4,e11⟩;replace hr:=hr.up (hS3.ow hS4);clear hS3 hS4 hs3;repeat'(first|refine W1 ?_|omega|refine VG ?_ ?_<;>intro hg|refine VC ?_ ?_<;>intro hc)
   all_goals first
    | exact QL (k + 1, rv) ⟨hlt, by
       rw [hstep,if_neg (show ¬ Z6h start E l[k]=true by simp only [Z6h,decide_eq_true_eq];omega),XG];exact hr⟩ (by dsimp only;omega)
    | refine AP1 l[k] hr (Xg (X0 _ _) (by simp; omega)) fun v1 v' w' hr' _ => ?_
      refine QO ?_;exact QL (k+1,v') ⟨hlt,by
       rw [hstep,if_pos (show Z6h start E l[k]=true from decide_eq_true ⟨by omega,by omega⟩)];exact hr'⟩ (by dsimp only;omega)
 obtain rfl:k=l.length:=by omega
 rw [Xo] at hr;refine QO ?_;refine WR ?_;exact .mk hr
def Zgi (l:List Spn):Int:=if 64<l.length then 2 else if l.any (fun s=>decide (s.1<0∨s.2<s.1∨3652058<s.2)) then 5 else 0
theorem ZaH (v:Value) (l:List Spn) (w) (hs:SlV [] w v l):CC 113 #[v] w fun r w'=>r=.I (Zgi l)∧Stp [] w w':=by
 have hmax:=hs.max;unfold Zgi;refine cW1 33 Tryz.func113 ?_;by_cases h64:64<l.length;rw [if_pos h64];refine RT ?_;exact ⟨rfl,Stp.refl _ _⟩;rw [if_neg h64];refine QO ?_;refine LP (σ:=Nat) (fun k=>[(0,v),(9,.I l.length),(10,.I k)]) (fun k w'=>k≤l.length∧Stp [] w w'∧∀ j (h:j<l.length),j<k→¬ (l[j].1<0∨l[j].2<l[j].1∨3652058<l[j].2)) (fun k=>l.length - k) 0 ⟨by omega,Stp.refl _ _,by omega⟩ ?_;rintro k w2 ⟨hk,hS,hz⟩;have hs2:=hs.up hS;by_cases hlt:k<l.length
 · refine QO ?_
   refine Z1 Z2 rfl ?_;rintro _ w4 ⟨b4,rfl,hb4,e4,hS3⟩;refine SA (us:=Z3.enc l[k]) e4 ?_;rintro _ w5 ⟨hS4,e4⟩;replace hS:=hS.trans (hS3.ow hS4);clear hS3 hS4;repeat'(first|refine W1 ?_|omega|refine VG ?_ ?_<;>intro hg|refine VC ?_ ?_<;>intro hc)
   all_goals first
    | exact QL (k + 1) ⟨hlt, hS, fun j h hj => by
       by_cases e:j=k;subst e;omega;exact hz j h (by omega)⟩ (by omega)
    | refine WR ?_
      rw [if_pos (YaK.2 ⟨l[k],Xd hlt,by simp only [decide_eq_true_eq];omega⟩)];exact .mk ⟨rfl,hS⟩
 refine QO ?_;refine WR ?_;rw [if_neg];exact .mk ⟨rfl,hS⟩;intro h;obtain ⟨s,h1,h2⟩:=YaK.1 h;obtain ⟨j,hj,rfl⟩:=Xr h1;exact hz j hj (by omega) (by simpa using h2)
end Go.Proofs.YtipfkbkkndacjaaGreatDoor
namespace Go.Eng
open Go Go.RowKit Go.Proofs
def Z1q (ds:List Deferred) (a:Act):Act:={ a with defers:=a.defers++ds }
def ZaI (ds:List Deferred) (Q:Exit→Act→World→Prop):Exit→Act→World→Prop:=fun x a w=>Q x (Z1q ds a) w
theorem Z21 (ds:List Deferred) (a:Act) (d:Option Nat) (v:Value):Z1q ds (a.put d v)=(Z1q ds a).put d v:=by cases d<;>rfl
theorem Z6i (ds:List Deferred) (a:Act):(Z1q ds a).eval=a.eval:=by funext x;cases x<;>rfl
theorem Z3U {ds:List Deferred} {Q:Exit→Act→World→Prop} (h:LetsOut (ZaI ds Q)):LetsOut Q:=let ⟨a,w,h⟩:=h;⟨_,w,h⟩
theorem Zcj {P:Program} {ds:List Deferred} {Q:Exit→Act→World→Prop} {o:Oper} {a:Act} {w} {K K':Act→World→Prop} (hK:∀ a w,K' a w→K (Z1q ds a) w) (h:o.wp P a w K' (ZaI ds Q)):o.wp P (Z1q ds a) w K Q:=by
 unfold Oper.wp at *;rw [Z6i];generalize (execOp a.eval o).run P w=r at *;cases r with
 | ok x w'=>
   cases x<;>simp only [Oper.upon] at h ⊢
   case value v=>have:=hK _ _ h;rw [Z21] at this;exact this
   case skip=>have:=hK _ _ h;rw [Z21] at this;exact this
   case defer d=>have:=hK _ _ h;rw [Z21] at this;exact this
   case enter f args=>
    refine Calls.mono h fun e w'' he=>?_;cases e with
    | returned v=>have:=hK _ _ he;rw [Z21] at this;exact this
    | panicked c=>exact he
    | outgrown=>exact Z3U he
   case row row args=>exact Rows.mono h fun v w'' he=>by have:=hK _ _ he;rw [Z21] at this;exact this
 | halt x w'=>cases x<;>simp only [Oper.upon] at h ⊢;exact h
theorem Zck {P:Program} {ds:List Deferred} {o:Oper} {a:Act} {w} (h:o.asks P a w):o.asks P (Z1q ds a) w:=by
 unfold Oper.asks at *;rw [Z6i];exact h
theorem Z52 {P:Program} {ds:List Deferred} {Q:Exit→Act→World→Prop} {ops:Array Oper}:∀ (l:List Oper) (a:Act) (w),wpList P ops (ZaI ds Q) l a w→wpList P ops Q l (Z1q ds a) w
 | [],a,w,h=>h
 | o :: rest, a, w, h => by
   unfold wpList at *;split at h;rename_i hw;rw [if_pos (show Region.wanted o (yielded ops (Z1q ds a).tmps)=true from hw)];rcases h with h|⟨h1,h2⟩
   exact .inl (Zcj (fun a w h=>Z52 rest a w h) h);exact .inr ⟨Zck h1,Z3U h2⟩;rename_i hw;rw [if_neg (show ¬ Region.wanted o (yielded ops (Z1q ds a).tmps)=true from hw)];rw [← Z21];exact Z52 rest _ w h
theorem ZjZ {P:Program} {ds:List Deferred} {Q:Exit→Act→World→Prop} {ops:Array Oper} {i:Nat} {a:Act} {w} {K K':Act→World→Prop} (hK:∀ a w,K' a w→K (Z1q ds a) w) (h:wpOp P ops (ZaI ds Q) i K' a w):wpOp P ops Q i K (Z1q ds a) w:=by
 unfold wpOp at *;cases ho:ops[i]? with
 | none=>simp only [ho] at h ⊢;exact hK _ _ h
 | some o=>
   simp only [ho] at h ⊢;split at h;rename_i hw;rw [if_pos (show Region.wanted o (yielded ops (Z1q ds a).tmps)=true from hw)];rcases h with h|⟨h1,h2⟩
   exact .inl (Zcj hK h);exact .inr ⟨Zck h1,Z3U h2⟩;rename_i hw;rw [if_neg (show ¬ Region.wanted o (yielded ops (Z1q ds a).tmps)=true from hw)];rw [← Z21];exact hK _ _ h
theorem Z9p {P:Program} {ds:List Deferred} {Q:Exit→Act→World→Prop} {ops:Array Oper} {md:Region.Mode}:∀ (fuel:Nat) (listed:Array Bool) (a:Act) (w),wpAny P md ops (ZaI ds Q) fuel listed a w→wpAny P md ops Q fuel listed (Z1q ds a) w
 | 0,_,_,_,h=>h
 | fuel+1,_,_,_,h=>⟨h.1,fun i hi=>ZjZ (fun a w h=>Z9p fuel _ a w h) (h.2 i hi)⟩
structure WQD (ds:List Deferred) (n:Nat) (Q:Exit→Act→World→Prop) (x:Exit) (e:Env) (w):Prop where
 h:∀ a,Has n e a→Q x (Z1q ds a) w
structure WCD (ds:List Deferred) (P:Program) (n:Nat) (c:Code) (Q:Exit→Act→World→Prop) (e:Env) (w):Prop where
 h:∀ a,Has n e a→c.wp P Q (Z1q ds a) w
section rules
variable {P:Program} {n:Nat} {ds:List Deferred} {Q:Exit→Act→World→Prop} {e:Env} {w}
theorem Z6j {x:Exit} (h:WQD ds n Q x e w):WQ n (ZaI ds Q) x e w:=⟨fun a ha=>h.h a ha⟩
theorem Z4o {x y:Code} (h:WCD ds P n x (Exit.then (fun a w=>y.wp P Q a w) Q) e w):WCD ds P n (x.seq y) Q e w:=⟨fun a ha=>wp_seq (h.h a ha)⟩
theorem Z22 {y:Code} (h:WCD ds P n y Q e w):WQD ds n (Exit.then (fun a w=>y.wp P Q a w) Q) .normal e w:=⟨fun a ha=>h.h a ha⟩
theorem Z86 {N:Act→World→Prop} {ch:List PanicEntry} (h:WQD ds n Q (.panic ch) e w):WQD ds n (Exit.then N Q) (.panic ch) e w:=⟨fun a ha=>h.h a ha⟩
theorem Zk0 (h:WQD ds n Q .normal e w):WCD ds P n .skip Q e w:=⟨fun a ha=>wp_skip (h.h a ha)⟩
theorem ZeS (h:WQD ds n Q .ret e w):WCD ds P n .ret Q e w:=⟨fun a ha=>wp_ret (h.h a ha)⟩
theorem HasD.ev {a:Act} (ha:Has n e a) {x:Operand} {v:Value} (hx:ev e x=some v):(Z1q ds a).eval x=v:=by rw [Z6i];exact ha.ev hx
theorem Z87 {c:Operand} {x y:Code} (hc:ev e c=some (.B false)) (h:WCD ds P n y Q e w):WCD ds P n (.cond c x y) Q e w:=⟨fun a ha=>wp_cond_false (HasD.ev ha hc) (h.h a ha)⟩
theorem Z53 {id:Nat} {l:List Oper} (h:WL P n l.toArray (ZaI ds Q) l e w):WCD ds P n (.region id l.toArray false) Q e w:=⟨fun a ha=>wp_region_lit (Z52 _ _ _ (h.h a ha))⟩
theorem Z9q {id:Nat} {l:List Oper} (m:Nat) (S:List Nat) (Lt:List Nat) (ord:List (Nat×Nat)) (hlm:l.length=m) (hm:P.follows .mixedOrders=true) (hs:Region.noSelect l.toArray=true) (hl:Nat.beq (wt ord) l.length=true)
 (hB:J9 l.toArray Lt ord (Array.replicate m false)=true)
 (h:∀ w',Stp [] w w'→WD P n l.toArray S Lt (ZaI ds Q) ord e w'):WCD ds P n (.region id l.toArray true) Q e w:=by
 subst hlm;refine ⟨fun a ha=>wp_region_any hm (Z9p _ _ _ _ ?_)⟩;have h1:=(h { w with drawn:=w.drawn+1 } (Stp.drew [] w)).h _ hs hB a ha;have h2:=Z0Q (Q:=ZaI ds Q) (fun a w hz=>hz) _ _ _ _ h1;rw [XK hl] at h2;simpa using h2
end rules
abbrev FR (l:Nat):Fence:=Fence.wide.inRound l
section
variable {P:Program} {n m l:Nat} {Q Q':Exit→Act→World→Prop} {e:Env} {w:World} {ops:Array Oper}
theorem ZeT {o:Oper} {a:Act} {K K':Act→World→Prop} (hnd:∀ c,o.op≠.defer c) (hQ:∀ x a w,Q x a w→Q' x a w) (hK:∀ a w,K a w→K' a w) (h:o.wp P a w K Q):o.wpIn (FR l) m P a w K' Q':=by
 unfold Oper.wp at h;refine ⟨fun _ _=>trivial,?_⟩;rw [Oper.semAt_eq _ _ _ hnd];generalize (execOp a.eval o).run P w=r at *;cases r with
 | ok x w'=>
   cases x<;>simp only [Oper.upon] at h<;>simp only [Oper.uponIn]
   case value v=>exact hK _ _ h
   case skip=>exact hK _ _ h
   case defer d=>exact hK _ _ h
   case enter f args=>
    refine ⟨(fun h=>by cases h),CallsIn.inRound l (callsIn_wide.2 (Calls.mono h fun en w'' he=>?_))⟩;cases en with
    | returned v=>exact hK _ _ he
    | panicked c=>exact hQ _ _ _ he
    | outgrown=>
      obtain ⟨a',w3,h3⟩:=he;exact ⟨a',w3,hQ _ _ _ h3⟩
   case row row args=>
    exact ⟨(fun h=>by cases h),fun c cs _=>let ⟨v,w'',r,s⟩:=h c cs;⟨v,w'',hK _ _ r,stepsIn_wide.2 s⟩⟩
 | halt x w'=>
   cases x<;>simp only [Oper.upon] at h<;>simp only [Oper.uponIn];exact hQ _ _ _ h
theorem ZaJ (hnd:∀ (i:Nat) (o:Oper),ops[i]?=some o→∀ c,o.op≠.defer c) (hQ:∀ a w,¬ Q .outgrown a w):∀ (L:List Nat) (a:Act) (w),wpOps P ops Q L a w→wpOpsIn (FR l) m P ops Q L a w
 | [],a,w,h=>h
 | i :: rest, a, w, h => by
   unfold wpOps at h;unfold wpOpsIn;cases ho:ops[i]? with
   | none=>simp only [ho] at h ⊢;exact ZaJ hnd hQ rest a w h
   | some o=>
     simp only [ho] at h ⊢;split at h;rename_i hw;rw [if_pos hw];rcases h with h|⟨_,a',w',h⟩
     exact ZeT (hnd i o ho) (fun _ _ _ h=>h) (fun a w h=>ZaJ hnd hQ rest a w h) h;exact absurd h (hQ a' w');rename_i hw;rw [if_neg hw];exact ⟨fun _ _=>trivial,ZaJ hnd hQ rest _ w h⟩
def Zk1 (L:List Oper):Bool:=L.all fun o=>match o.op with|.defer _=>false|_=>true
theorem Z88 {L:List Oper} (h:Zk1 L=true):∀ (i:Nat) (o:Oper),L.toArray[i]?=some o→∀ c,o.op≠.defer c:=by
 intro i o ho c hc;have hm:o∈L:=by
  have:L[i]?=some o:=by simpa using ho
  exact List.mem_of_getElem? this
 have:=XY.1 h o hm;rw [hc] at this;cases this
theorem ZaK {md:Region.Mode} {S:List Nat} {Lt:Nat→Bool} {Z:Act→World→Prop} (hnd:∀ (i:Nat) (o:Oper),ops[i]?=some o→∀ c,o.op≠.defer c) (hZ:∀ a w,Z a w→Q .normal a w):∀ (fuel:Nat) (listed:Array Bool) (a:Act) (w),
 Z0P P md ops S Lt Z fuel listed a w→wpAnyIn (FR l) m P md ops Q fuel listed a w
 | 0,_,_,_,h=>⟨h.1,hZ _ _ h.2⟩
 | fuel + 1, listed, a, w, h => ⟨fun h0 => hZ _ _ (h.1 h0), fun i hi => by
   have h1:=h.2 i hi;unfold wpOp at h1;unfold wpOpIn;cases ho:ops[i]? with
   | none=>simp only [ho] at h1 ⊢;exact ZaK hnd hZ fuel _ a w h1.2
   | some o=>
     simp only [ho] at h1 ⊢;split at h1;rename_i hw;rw [if_pos hw];rcases h1 with h1|⟨_,_,_,hf⟩
     exact ZeT (hnd i o ho) (fun _ _ _ h=>h.elim) (fun a w h=>ZaK hnd hZ fuel _ a w h.2) h1;exact hf.elim;rename_i hw;rw [if_neg hw];exact ⟨fun _ _=>trivial,ZaK hnd hZ fuel _ _ w h1.2⟩⟩
structure WCR (l m:Nat) (P:Program) (n:Nat) (c:Code) (Q:Exit→Act→World→Prop) (e:Env) (w:World):Prop where
 h:∀ a,Has n e a→c.wpIn (FR l) m P Q a w
variable {x y:Code}
theorem JP (h:WCR l m P n x (Exit.then (fun a w=>y.wpIn (FR l) m P Q a w) Q) e w):WCR l m P n (x.seq y) Q e w:=⟨fun a ha=>wpIn_seq (h.h a ha)⟩
theorem Jp (h:WCR l m P n y Q e w):WQ n (Exit.then (fun a w=>y.wpIn (FR l) m P Q a w) Q) .normal e w:=⟨fun a ha=>h.h a ha⟩
theorem Jq (h:WQ n Q .normal e w):WCR l m P n .skip Q e w:=⟨fun a ha=>wpIn_skip (h.h a ha)⟩
theorem Jr {i:Nat} (h:WQ n Q (.exit i) e w):WCR l m P n (.exit i) Q e w:=⟨fun a ha=>wpIn_exit (h.h a ha)⟩
theorem Ja {i:Nat} {c:Code} (h:WCR l m P n c (Exit.inBlock i Q) e w):WCR l m P n (.block i c) Q e w:=⟨fun a ha=>wpIn_block (h.h a ha)⟩
theorem Jj {c:Operand} (hc:ev e c=some (.B true)) (h:WCR l m P n x Q e w):WCR l m P n (.cond c x y) Q e w:=⟨fun a ha=>wpIn_cond_true (ha.ev hc) (h.h a ha)⟩
theorem J6 {c:Operand} (hc:ev e c=some (.B false)) (h:WCR l m P n y Q e w):WCR l m P n (.cond c x y) Q e w:=⟨fun a ha=>wpIn_cond_false (ha.ev hc) (h.h a ha)⟩
theorem Z3V {c:Operand} {p:Prop} [Decidable p] (hc:ev e c=some (.B (decide p))) (ht:p→WCR l m P n x Q e w) (hf:¬ p→WCR l m P n y Q e w):WCR l m P n (.cond c x y) Q e w:=by
 by_cases h:p;rw [decide_eq_true h] at hc;exact Jj hc (ht h);rw [decide_eq_false h] at hc;exact J6 hc (hf h)
theorem ZT {id:Nat} {L:List Oper} (hd:Zk1 L=true) (hQ:∀ a w,¬ Q .outgrown a w) (h:WL P n L.toArray Q L e w):WCR l m P n (.region id L.toArray false) Q e w:=
 ⟨fun a ha => wpIn_region (by
   have h1:=h.h a ha;rw [List.range_eq_range',← Yah];exact ZaJ (Z88 hd) hQ _ _ _ (by rw [wpOps_eq_wpList L.toArray.toList 0 (by simp)];simpa using h1))⟩
theorem Z9r {id:Nat} {L:List Oper} (k:Nat) (S:List Nat) (Lt:List Nat) (ord:List (Nat×Nat)) (hlm:L.length=k) (hm:P.follows .mixedOrders=true) (hs:Region.noSelect L.toArray=true) (hl:Nat.beq (wt ord) L.length=true)
 (hB:J9 L.toArray Lt ord (Array.replicate k false)=true) (hd:Zk1 L=true)
 (h:∀ w',Stp [] w w'→WD P n L.toArray S Lt Q ord e w'):WCR l m P n (.region id L.toArray true) Q e w:=by
 subst hlm;refine ⟨fun a ha=>wpIn_region_any hm ?_⟩;have h1:=(h { w with drawn:=w.drawn+1 } (Stp.drew [] w)).h _ hs hB a ha;have h2:=ZaK (l:=l) (m:=m) (Q:=Q) (Z88 hd) (fun a w hz=>hz) _ _ _ _ h1;rw [XK hl] at h2;simpa using h2
theorem Zk2 {σ:Type} (env:σ→Env) (I:σ→World→Prop)
 (h:WCR l m P n x (Exit.then (fun a w=>∃ s,Has n (env s) a∧I s w) Q) e w) (k:∀ s w,I s w→WCR l m P n y Q (env s) w):WCR l m P n x (Exit.then (fun a w=>y.wpIn (FR l) m P Q a w) Q) e w:=
 ⟨fun a ha => wpIn_mono (h.h a ha) (fun ex a w hq => by
   cases ex with
   | normal=>obtain ⟨s,h1,h2⟩:=hq;exact (k s w h2).h a h1
   | _=>exact hq)⟩
end
theorem Z23 (W:World) (b:Nat) (o:Obj):Stp [b] W (W.putObj b o):=⟨rfl,rfl,rfl,by simp,fun k hk hn=>World.putObj_heap_other (by simpa using hn)⟩
def ZeU {α:Type} (P:Program) (f:Nat) (cap:Array Value) (encs:α→Value) (L:List α) (l:Nat) (F:List Nat) (W:World):Prop:=
 ∀ (J : List α → List Nat → World → Prop), (∀ pre F W, J pre F W → ∀ b ∈ F, b < W.heap.size) → (∀ pre F W W', J pre F W → Stp [] W W' → J pre F W')→
   (∀ pre x F W,J pre F W→pre++[x] <+: L→YieldAt Fence.wide 4 P l #[encs x] W fun en W'=>en=.returned (.B true)∧∃ F',J (pre++[x]) F' W'∧Stp F W W'∧∀ b∈F',b∈F∨W.heap.size≤b)→
   J [] F W→Calls P f (#[.func (.yield l) #[] #[]]++cap) W (Ret fun _ W'=>∃ F',J L F' W'∧Stp F W W'∧∀ b∈F',b∈F∨W.heap.size≤b)
section
variable {P:Program} {n:Nat} {Q:Exit→Act→World→Prop} {e:Env} {w:World}
theorem Zk3 {α:Type} {f p:Nat} {fn:Func} {cap:Array Value} {g:Operand} {assign body:Code} [hf:Fun P f fn] {E:α→Nat→Env} {T:Nat} {cs:α→List Value} (encs:α→Value) (hg:ev e g=some (.func (.func f) #[] cap)) (hp:Nat.blt p n=true)
 (L:List α) (I:List α→List Nat→World→Prop) (F0:List Nat) (hlt:∀ pre F W,I pre F W→∀ b∈F,b<W.heap.size)
 (hI:∀ pre F W W' S,I pre F W→Stp S W W'→(∀ b∈S,w.heap.size≤b∧b∉F)→I pre F W') (h0:I [] F0 w)
 (hit:∀ (l:Nat) (W:World),Stp [] w W→w.heap.size≤l→l<W.heap.size→ZeU P f cap encs L l (l :: F0) W)
 (hassign:∀ (l:Nat) (x:α) (W:World) (Z:Exit→Act→World→Prop),(∀ a w,¬ Z .outgrown a w)→(∀ b W1,W.heap.size≤b→Blk W1 b T (cs x)→Stp [] W W1→WQ n Z .normal (E x b) W1)→WCR l 4 P n assign Z ((p,encs x) :: e) W)
 (hbody : ∀ (l : Nat) (pre : List α) (x : α) (b : Nat) (F : List Nat) (W : World) (Z : Exit → Act → World → Prop), I pre F W → pre ++ [x] <+: L → Blk W b T (cs x) → b ∉ F → w.heap.size ≤ b → (∀ a w, ¬ Z .outgrown a w)→
   (∀ a F' W',I (pre++[x]) F' W'→Stp F W W'→(∀ b∈F',b∈F∨W.heap.size≤b)→Z .normal a W')→WCR l 4 P n body Z (E x b) W)
 (hdone:∀ (D:Nat) (F:List Nat) (W:World),I L F W→w.heap.size≤D→D∉F→W.heap[D]?=some (.deferred (some []))→(∀ b∈F,b∈F0∨w.heap.size≤b)→Stp F0 w W→WQD [{ target:=.collected D,args:=#[] }] n Q .normal e W) :
 WC P n (.rangeFunc g #[p] assign body) Q e w:=by
 refine ⟨fun a ha=>(wpIn_wide (n:=5)).1 (wpIn_rangeFunc ?_)⟩;intro fnid _;obtain ⟨rec,hrec⟩:∃ rec:LoopState→Option Code→Loop,rec=fun st pe=>{ state:=st,pending:=pe,fn:=fnid,tmps:=a.tmps,params:=#[p],assign,body,defers:=w.heap.size }:=⟨_,rfl⟩
 obtain ⟨W1,hW1⟩:∃ W1,(w.alloc (.deferred (some []))).alloc (.loop (rec .ready none))=W1:=⟨_,rfl⟩
 have hL1:W1.heap[w.heap.size+1]?=some (.loop (rec .ready none)):=by
  rw [← hW1];have:=World.alloc_heap_new (w.alloc (.deferred (some []))) (.loop (rec .ready none));rwa [World.size_alloc] at this
 have hS0:Stp [] w (w.alloc (.deferred (some []))):=Stp.alloc [] _ _;have hS01:Stp [] (w.alloc (.deferred (some []))) W1:=by rw [← hW1];exact Stp.alloc [] _ _
 have hK1:W1.heap[w.heap.size]?=some (.deferred (some [])):=by
  rw [hS01.block w.heap.size (by simp) (by simp)];exact World.alloc_heap_new w _
 have hS1:Stp [] w W1:=hS0.trans hS01;have hF0:=hlt _ _ _ h0
 refine ⟨w.heap.size+1,[{ target:=.collected w.heap.size,args:=#[] }],W1,{ target:=.fn (.func f) cap,args:=#[.func (.yield (w.heap.size+1)) #[] #[]] },W1,f,
  #[.func (.yield (w.heap.size+1)) #[] #[]]++cap,W1,?_,?_,?_,?_,fun h=>(by cases h),?_⟩
 rw [← hW1,hrec];exact run_enterLoop_outer _ _ _ _ _;simp only [resolve,ha.ev hg];simp [go_sem];intro f' hf';trivial;have eg:=hf.enters;simp [invoke,go_sem];exact eg _ _;generalize hl:w.heap.size+1=l at *
 have hyl:=hit l W1 hS1 (by omega) (Xk.1 hL1).1 (fun pre F W=>∃ G,F=l :: G∧I pre G W∧W.heap[l]?=some (.loop (rec .ready none))∧W.heap[w.heap.size]?=some (.deferred (some []))∧l∉G∧w.heap.size∉G)
  (by
    rintro pre F W ⟨G,rfl,hi,h1,h2,h3,h4⟩ b hb;rcases Xb.1 hb with rfl|hb
    exact (Xk.1 h1).1;exact hlt _ _ _ hi b hb)
  (by
    rintro pre F W W' ⟨G,rfl,hi,h1,h2,h3,h4⟩ hS;exact ⟨G,rfl,hI _ _ _ _ _ hi hS (by simp),(hS.block l (Xk.1 h1).1 (by simp)).trans h1,(hS.block _ (Xk.1 h2).1 (by simp)).trans h2,h3,h4⟩)
  (by
    rintro pre x F W ⟨G,rfl,hi,h1,h2,h3,h4⟩ hpre;have hltl:l<W.heap.size:=(Xk.1 h1).1;have hltd:w.heap.size<W.heap.size:=(Xk.1 h2).1;have hG:=hlt _ _ _ hi;have hy:=run_yield (P:=P) (args:=#[encs x]) h1 (by rw [hrec];rfl);rw [hrec] at hy;refine ⟨fnid,_,assign,body,hy,roundIn_of_wpIn trivial ((hassign l x W _ (fun _ _ h=>h) ?_).h _ ?_)⟩;intro b Wa hb hk hSa;have h1a:=(hSa.block l hltl (by simp)).trans h1;have h2a:=(hSa.block _ hltd (by simp)).trans h2;have hza:=hSa.size;refine ⟨fun a1 ha1=>⟨_,run_beginRound h1a (by rw [hrec]),?_⟩⟩;have hp1:=Z23 Wa l (.loop { rec .ready none with state:=.busy });have hia:=hI _ _ _ _ _ hi hSa (by simp);have hib:=hI _ _ _ _ _ hia hp1 (by intro b hb;simp at hb;subst hb;exact ⟨by omega,h3⟩);have h1b:(Wa.putObj l (.loop { rec .ready none with state:=.busy })).heap[l]?=some (.loop { rec .ready none with state:=.busy }):=World.putObj_heap_same (by omega);have h2b:=(hp1.block w.heap.size (by omega) (by simp;omega)).trans h2a;have hkb:=hk.ext hp1 (by simp;omega);have hzb:=hp1.size;refine (hbody l pre x b G _ _ hib hpre hkb (fun h=>by have:=hG b h;omega) (by omega) (fun _ _ h=>h) ?_).h a1 ha1;intro a2 G' W' hi' hS' hG';have h1c:=(hS'.block l (by omega) h3).trans h1b;have h2c:=(hS'.block w.heap.size (by omega) h4).trans h2b;have hzc:=hS'.size;have hrE:=run_endRound (P:=P) none h1c;have hp2:=Z23 W' l (.loop (rec .ready none));have hlG':l∉G':=fun h=>by
     rcases hG' l h with h|h
     exact h3 h;omega
    refine ⟨_,_,hrE,rfl,l :: G',⟨G',rfl,?_,?_,?_,hlG',fun h=>?_⟩,?_,fun b hb=>?_⟩;have:=hI _ _ _ _ _ hi' hp2 (by intro b hb;simp at hb;subst hb;exact ⟨by omega,hlG'⟩);rw [hrec] at this ⊢;exact this;rw [hrec];exact World.putObj_heap_same (by omega);rw [hrec];exact (World.putObj_heap_other (by omega)).trans h2c;rcases hG' _ h with h|h
    exact h4 h;omega;rw [hrec] at hp2 hS' ⊢;exact ((((hSa.mono (S':=l :: G) (by simp)).trans ((by rw [hrec] at hp1;exact hp1:Stp [l] _ _).mn)).trans (hS'.mono (fun b hb=>by simp [hb]))).trans hp2.mn);rcases Xb.1 hb with rfl|hb
    exact .inl (by simp);rcases hG' b hb with h|h
    exact .inl (by simp [h]);exact .inr (by omega);have:=ha.put (v:=encs x) hp;have e2:(a.put (some p) (encs x))={ tmps:=((#[p]:Array Nat).zip #[encs x]).foldl (fun t (p,v)=>t.setIfInBounds p v) a.tmps,defers:=[] }:=by
     simp [Act.put,ha.defers]
    rw [e2] at this;exact this)
  ⟨F0,rfl,hI _ _ _ _ _ h0 hS1 (by simp),hL1,hK1,fun h=>by have:=hF0 l h;omega,fun h=>by have:=hF0 _ h;omega⟩
 refine (callsIn_wide (n:=4)).2 (hyl.mono ?_);rintro _ W2 ⟨v,rfl,F',⟨G,rfl,hi,h1,h2,h3,h4⟩,hS2,hF'⟩;have hz2:=hS2.size;have hz1:=hS1.size;have hltl:l<W2.heap.size:=(Xk.1 h1).1;refine ⟨none,_,by have:=run_endLoop (P:=P) h1 (by rw [hrec];simp);rw [hrec] at this;exact this,?_⟩;have hp:=Z23 W2 l (.loop { rec .ready none with state:=.exhausted });rw [hrec] at hp;have hd:=hdone w.heap.size G _ (hI _ _ _ _ _ hi hp (by intro b hb;simp at hb;subst hb;exact ⟨by omega,h3⟩)) (Xn _) h4 ((hp.block w.heap.size (by omega) (by simp;omega)).trans h2) (fun b hb=>by
  rcases hF' b (by simp [hb]) with h|h
  rcases Xb.1 h with rfl|h
  exact .inr (by omega);exact .inl h;exact .inr (by omega))
  ((((hS1.mono (S' := F0) (by simp)).own hS2 (fun b hb => by
    rcases Xb.1 hb with rfl|hb
    exact .inr (by omega);exact .inl hb))).own hp (fun b hb=>by simp at hb;subst hb;exact .inr (by omega)))
 have:=hd.h a ha;unfold Z1q at this;rw [ha.defers,XL] at this;rw [ha.defers,XG];exact this
end
section
variable {P:Program} {ops:Array Oper} {md:Region.Mode} {S:List Nat} {Lt:Nat→Bool} {kk:Nat}
theorem ZdV {o:Oper} {a:Act} {w} {K K':Act→World→Prop} {Q:Exit→Act→World→Prop} (hK:∀ a w,K a w→K' a w) (h:o.wpIn Fence.wide kk P a w K (fun _ _ _=>False)):o.wpIn Fence.wide kk P a w K' Q:=by
 unfold Oper.wpIn at *;refine ⟨h.1,?_⟩;replace h:=h.2;generalize (o.semAt Fence.wide.round a.eval).run P w=r at *;cases r with
 | ok x w'=>
   cases x<;>simp only [Oper.uponIn] at h ⊢
   case value v=>exact hK _ _ h
   case skip=>exact hK _ _ h
   case defer d=>exact hK _ _ h
   case enter f args=>
    exact ⟨h.1,CallsIn.mono h.2 fun e w'' he=>by
     cases e with
     | returned v=>exact hK _ _ he
     | panicked c=>exact he.elim
     | outgrown=>obtain ⟨_,_,hf⟩:=he;exact hf.elim⟩
   case row row args=>exact ⟨h.1,RowsIn.mono h.2 fun u w'' he=>hK _ _ he⟩
   case round l f tmps assign body=>
    exact ⟨h.1,RoundIn.mono h.2 fun e w'' he=>by
     cases e with
     | returned v=>exact hK _ _ he
     | panicked c=>exact he.elim
     | outgrown=>obtain ⟨_,_,hf⟩:=he;exact hf.elim⟩
 | halt x w'=>cases x<;>simp only [Oper.uponIn] at h ⊢
def Z37 (kk:Nat) (P:Program) (md:Region.Mode) (ops:Array Oper) (S:List Nat) (Lt:Nat→Bool) (Z:Act→World→Prop):Nat→Array Bool→Act→World→Prop
 | 0,listed,a,w=>Region.ready md ops listed=[]∧Z a w
 | fuel + 1, listed, a, w=>
   (Region.ready md ops listed=[]→Z a w)∧
   ∀ i∈Region.ready md ops listed,wpOpIn Fence.wide kk P ops (fun _ _ _=>False) i (fun a' w'=>(Stp S w w'∨Lt i=true)∧Z37 kk P md ops S Lt Z fuel (listed.setIfInBounds i true) a' w') a w
theorem Z1F {Z:Act→World→Prop} {Q:Exit→Act→World→Prop} (hZ:∀ a w,Z a w→Q .normal a w):∀ (fuel:Nat) (listed:Array Bool) (a:Act) (w),
 Z37 kk P md ops S Lt Z fuel listed a w→wpAnyIn Fence.wide kk P md ops Q fuel listed a w
 | 0,_,_,_,h=>⟨h.1,hZ _ _ h.2⟩
 | fuel + 1, listed, a, w, h => ⟨fun h0 => hZ _ _ (h.1 h0), fun i hi => by
   have h1:=h.2 i hi;unfold wpOpIn at h1 ⊢;cases ho:ops[i]? with
   | none=>simp only [ho] at h1 ⊢;exact Z1F hZ fuel _ a w h1.2
   | some o=>
     simp only [ho] at h1 ⊢;split at h1;rename_i hw;rw [if_pos hw];exact ZdV (fun a w h=>Z1F hZ fuel _ a w h.2) h1;rename_i hw;rw [if_neg hw];exact ⟨fun _ _=>trivial,Z1F hZ fuel _ _ w h1.2.2⟩⟩
theorem ZeV {Z:Act→World→Prop} {R:World→World→Prop} (hR0:∀ w,R w w) (hRt:∀ a b c,R a b→R b c→R a c) {i:Nat} {oi:Oper} {v:Value} (hi:ops[i]?=some oi)
 (hRs:∀ j oj,ops[j]?=some oj→(∀ e∈oj.after,Region.binds md e=true→e.on≠i)→j≠i→∀ w w',(Stp S w w'∨Lt j=true)→R w w')
 (hsel:∀ (j:Nat) (o:Oper) cs b,ops[j]?=some o→o.op≠.select cs b) :
 ∀ (fuel : Nat) (listed : Array Bool) (a : Act) (w),
   (∀ j oj,ops[j]?=some oj→j≠i→listed.getD j true=false→(∀ e∈oj.after,Region.binds md e=true→e.on≠i)→oi.apart ops oj=true)→
   (Stp S w w∨Lt i=true→True)→i∈Region.ready md ops listed→YE P ops R oi v a w→
   Z37 kk P md ops S Lt Z fuel (listed.setIfInBounds i true) (a.put oi.dst v) w→Z37 kk P md ops S Lt Z (fuel+1) listed a w:=by
 have now:∀ (fuel:Nat) (listed:Array Bool) (a:Act) (w:World),YE P ops R oi v a w→Z37 kk P md ops S Lt Z fuel (listed.setIfInBounds i true) (a.put oi.dst v) w→
  wpOpIn Fence.wide kk P ops (fun _ _ _=>False) i (fun a' w'=>(Stp S w w'∨Lt i=true)∧Z37 kk P md ops S Lt Z fuel (listed.setIfInBounds i true) a' w') a w:=by
  intro fuel listed a w hy H;unfold wpOpIn;simp only [hi];rcases hy with ⟨hw,hv⟩|⟨hw,rfl⟩
  simp only [hw,if_true];refine ⟨fun _ _=>trivial,?_⟩;rw [show Fence.wide.round=none from rfl,Oper.semAt_none,hv w (hR0 w)];exact ⟨.inl (Stp.refl _ _),H⟩;simp only [hw,XP,if_false];exact ⟨fun _ _=>trivial,.inl (Stp.refl _ _),H⟩
 intro fuel
 induction fuel with
 | zero=>
   intro listed a w _ _ hr hy H;refine ⟨fun h=>(by rw [h] at hr;cases hr),fun j hj=>?_⟩;by_cases hji:j=i;subst hji;exact now _ _ _ _ hy H;have:=ready_mono hj hji;rw [H.1] at this;cases this
 | succ fuel ih=>
   intro listed a w hfree hx hr hy H;refine ⟨fun h=>(by rw [h] at hr;cases hr),fun j hj=>?_⟩;by_cases hji:j=i;subst hji;exact now _ _ _ _ hy H;have h1:=H.2 j (ready_mono hj hji);obtain ⟨hjun,oj,hoj,hall⟩:=mem_ready.1 hj;have hnot:∀ e∈oj.after,Region.binds md e=true→e.on≠i:=fun e he hb heq=>by
    have h1:=hall e he hb;have h0:=(mem_ready.1 hr).1;rw [heq] at h1;rcases Yas i listed.size with h'|h'
    simp [h'] at h0 h1;rw [h0] at h1;cases h1;simp [Yat h'] at h1
   have hap:=hfree j oj hoj hji hjun hnot;obtain ⟨p1,p2,p3⟩:=Oper.apart_spec hap;have keep:∀ (a:Act),YE P ops R oi v a w→∀ u,YE P ops R oi v (a.put oj.dst u) w:=fun a hy u=>
    hy.same (execOp_put oi (fun cs b=>hsel i oi cs b hi) a oj.dst u p3) (wanted_put oi a oj.dst u p3)
   have keepD:∀ (a:Act) d,YE P ops R oi v a w→YE P ops R oi v { a with defers:=d :: a.defers } w:=fun a d hy=>hy.same rfl rfl;have later:∀ (a:Act) w',(Stp S w w'∨Lt j=true)→YE P ops R oi v a w→YE P ops R oi v a w':=fun a w' hs hy=>by
    rcases hy with ⟨hw,hv⟩|hw
    exact .inl ⟨hw,fun w'' h''=>hv w'' (hRt _ _ _ (hRs j oj hoj hnot hji w w' hs) h'')⟩;exact .inr hw
   have hfree':∀ k ok,ops[k]?=some ok→k≠i→(listed.setIfInBounds j true).getD k true=false→
    (∀ e∈ok.after,Region.binds md e=true→e.on≠i)→oi.apart ops ok=true:=fun k ok hk hki hun hno=>by
    refine hfree k ok hk hki ?_ hno;by_cases hjk:j=k;subst hjk;exact hjun;rw [getD_set_ne true hjk] at hun;exact hun
   have fin:∀ a' w',YE P ops R oi v a' w→(Stp S w w'∨Lt j=true)∧Z37 kk P md ops S Lt Z fuel ((listed.setIfInBounds i true).setIfInBounds j true) (a'.put oi.dst v) w'→
    (Stp S w w'∨Lt j=true)∧Z37 kk P md ops S Lt Z (fuel+1) (listed.setIfInBounds j true) a' w':=by
    rintro a' w' hy' ⟨hs,hk⟩;refine ⟨hs,ih _ a' w' hfree' (fun _=>trivial) (ready_mono hr (Ne.symm hji)) (later a' w' hs hy') ?_⟩;rw [YaY _ _ hji];exact hk
   have hsj:∀ cs b,oj.op≠.select cs b:=fun cs b=>hsel j oj cs b hoj;unfold wpOpIn at *;simp only [hoj] at *;rw [wanted_put oj a oi.dst v p1] at h1;split
   · rename_i hw
     simp only [hw,if_true] at h1;refine ⟨fun _ _=>trivial,?_⟩;replace h1:=h1.2;rw [show Fence.wide.round=none from rfl,Oper.semAt_none] at h1 ⊢;rw [execOp_put oj hsj a oi.dst v p1] at h1;generalize (execOp a.eval oj).run P w=r at *;cases r with
     | ok n w'=>
       cases n<;>simp only [Oper.uponIn] at h1 ⊢
       case value u=>exact fin _ _ (keep a hy u) (by rw [← Act.put_comm a v u p2];exact h1)
       case skip=>exact fin _ _ (keep a hy _) (by rw [← Act.put_comm a v undef p2];exact h1)
       case defer d=>
        refine fin _ _ (keep _ (keepD a d hy) _) ?_;rw [← Act.put_comm _ v undef p2,← Act.put_defers];exact h1
       case enter f args=>
        refine ⟨h1.1,CallsIn.mono h1.2 fun e w'' he=>?_⟩;cases e with
        | returned u=>exact fin _ _ (keep a hy u) (by rw [← Act.put_comm a v u p2];exact he)
        | panicked c=>exact he
        | outgrown=>exact he
       case row row args=>exact ⟨h1.1,RowsIn.mono h1.2 fun u w'' he=>fin _ _ (keep a hy u) (by rw [← Act.put_comm a v u p2];exact he)⟩
       case round l f tmps assign body=>
        refine ⟨h1.1,RoundIn.mono h1.2 fun e w'' he=>?_⟩;cases e with
        | returned u=>exact fin _ _ (keep a hy u) (by rw [← Act.put_comm a v u p2];exact he)
        | panicked c=>exact he
        | outgrown=>exact he
     | halt x w'=>
       cases x<;>simp only [Oper.uponIn] at h1
   rename_i hw;simp only [hw] at h1;exact ⟨fun _ _=>trivial,fin _ _ (keep a hy _) (by rw [← Act.put_comm a v undef p2];exact h1.2)⟩
end
structure WDI (kk:Nat) (P:Program) (n:Nat) (ops:Array Oper) (S:List Nat) (Q:Exit→Act→World→Prop) (ord:List (Nat×Nat)) (e:Env) (w:World):Prop where
 h:∀ listed:Array Bool,Region.noSelect ops=true→J9 ops [] ord listed=true→∀ a,Has n e a→Z37 kk P .any ops S (fun j=>([]:List Nat).contains j) (fun a w=>Q .normal a w) (wt ord) listed a w
section
variable {P:Program} {n kk:Nat} {Q:Exit→Act→World→Prop} {e:Env} {w:World} {ops:Array Oper} {S:List Nat} {rest:List (Nat×Nat)}
variable {i d:Nat} {op:Op} {ty:TypeId} {pos:String} {af:Array Edge} {v:Value}
theorem Zgj {id:Nat} {L:List Oper} (kk:Nat) (m:Nat) (S:List Nat) (ord:List (Nat×Nat)) (hlm:L.length=m) (hm:P.follows .mixedOrders=true) (hs:Region.noSelect L.toArray=true) (hl:Nat.beq (wt ord) L.length=true)
 (hB:J9 L.toArray [] ord (Array.replicate m false)=true)
 (h:∀ w',Stp [] w w'→WDI kk P n L.toArray S Q ord e w'):WC P n (.region id L.toArray true) Q e w:=by
 subst hlm;refine ⟨fun a ha=>(wpIn_wide (n:=kk)).1 (wpIn_region_any hm ?_)⟩;have h1:=(h { w with drawn:=w.drawn+1 } (Stp.drew [] w)).h _ hs hB a ha;have h2:=Z1F (Q:=Q) (fun a w hz=>hz) _ _ _ _ h1;rw [XK hl] at h2;simpa using h2
theorem Znk (h:WQ n Q .normal e w):WDI kk P n ops S Q [] e w:=
 ⟨fun _ _ hB a ha=>⟨by simpa [J9,ZV] using hB,h.h a ha⟩⟩
theorem Z0t (hi:ops[i]?=some ⟨some d,op,ty,pos,af,none⟩) (hp:∀ w',PR P n ⟨some d,op,ty,pos,af,none⟩ e w' v) (hdn:Nat.blt d n=true)
 (k:WDI kk P n ops S Q rest ((d,v) :: e) w):WDI kk P n ops S Q ((i,0) :: rest) e w:=by
 refine ⟨fun listed hs hB a ha=>?_⟩;simp only [J9,ZV,Xm] at hB;obtain ⟨⟨h1,h2⟩,h3⟩:=hB;have hk:=k.h _ hs h3 _ (ha.put (v:=v) hdn);rw [JW (by decide)];exact ZeV (R:=fun _ _=>True) (fun _=>trivial) (fun _ _ _ _ _=>trivial) hi (fun _ _ _ _ _ _ _ _=>trivial) (Region.noSelect_spec hs) _ _ _ _ (Region.free_spec hi h2) (fun _=>trivial) (by simpa using h1) (.inl ⟨Jt (e:=e) (n:=n) ha trivial,fun w' _=>(hp w').h a ha⟩) hk
theorem Zcl (hi:ops[i]?=some ⟨some d,op,ty,pos,af,none⟩) (hp:∀ w',Stp S w w'→PR P n ⟨some d,op,ty,pos,af,none⟩ e w' v) (hdn:Nat.blt d n=true)
 (k:WDI kk P n ops S Q rest ((d,v) :: e) w):WDI kk P n ops S Q ((i,1) :: rest) e w:=by
 refine ⟨fun listed hs hB a ha=>?_⟩;simp only [J9,ZV,Xm] at hB;obtain ⟨⟨⟨h1,h2⟩,hb⟩,h3⟩:=hB;have hk:=k.h _ hs h3 _ (ha.put (v:=v) hdn);rw [JW (by decide)];refine ZeV (R:=Stp S) (fun w=>Stp.refl _ w) (fun _ _ _ h k=>h.trans k) hi (fun j oj hj hn hji w w' hs=>?_) (Region.noSelect_spec hs) _ _ _ _ (Region.free_spec hi h2) (fun _=>trivial) (by simpa using h1) (.inl ⟨Jt (e:=e) (n:=n) ha trivial,fun w' hw=>(hp w' hw).h a ha⟩) hk;rcases hs with hs|hs
 exact hs;cases hs
theorem Zgk {l:Nat} {x c:Operand} {ts:Array TypeId} {u r:Value} {G:World→Prop} (hi:ops[i]?=some ⟨some d,.call { callee:=.value c,args:=#[x],argTypes:=ts },ty,pos,af,none⟩) (hc:ev e c=some (.func (.yield l) #[] #[])) (hx:ev e x=some u)
 (hY:YieldAt Fence.wide (kk - 1) P l #[u] w (fun en W'=>en=.returned r∧G W')) (hS:∀ W',G W'→Stp S w W') (hdn:Nat.blt d n=true)
 (k:∀ W',G W'→WDI kk P n ops S Q rest ((d,r) :: e) W'):WDI kk P n ops S Q ((i,2) :: rest) e w:=by
 refine ⟨fun listed hs hB a ha=>?_⟩;simp only [J9,ZV] at hB;rw [if_neg (by simp)] at hB;simp only [Xm,beq_iff_eq] at hB;obtain ⟨h1,h3⟩:=hB;rw [JW (by decide)];refine ⟨fun h0=>absurd (h1 ▸ h0) (by simp),fun j hj=>?_⟩;rw [h1] at hj;obtain rfl:j=i:=by simpa using hj
 obtain ⟨fn,tmps,assign,body,hy,hR⟩:=hY;unfold wpOpIn;simp only [hi];rw [if_pos (show Region.wanted (⟨some d,.call { callee:=.value c,args:=#[x],argTypes:=ts },ty,pos,af,none⟩:Oper) _=true from rfl)];refine ⟨fun _ _=>trivial,?_⟩;have he:(execOp a.eval ⟨some d,.call { callee:=.value c,args:=#[x],argTypes:=ts },ty,pos,af,none⟩).run P w=.ok (.round l fn tmps assign body) w:=by
  simp only [execOp,resolve,ha.ev hc,Deferred.ofValue];simp [invoke,ha.ev hx,hy]
 rw [show Fence.wide.round=none from rfl,Oper.semAt_none,he];refine ⟨fun h=>(by cases h),RoundIn.mono hR ?_⟩;rintro en W' ⟨rfl,hG⟩;exact ⟨.inl (hS W' hG),(k W' hG).h _ hs h3 _ (ha.put hdn)⟩
end
variable {P:Program} {n:Nat} {e:Env} {w:World} {d:Option Nat} {ty:TypeId} {pos:String} {af:Array Edge} {g:Option (Nat×Bool)}
theorem Z6O {t el len k:Nat} {x hi:Operand} {b r:Nat} {z:Int} [hu:Und P t (.array len el)] [hk:Siz P el k] (hx:ev e x=some (pQ b)) (hz:ev e hi=some (.I z)) (hzr:z=(r:Int)) (hr:r≤len) :
 PR P n ⟨d,.slice t x none (some hi) none,ty,pos,af,g⟩ e w (.slice (some ⟨b,0,none⟩) r len):=
 ⟨fun a ha => by
   subst hzr;simp [execOp,ha.ev hx,ha.ev hz,Instr.sliceAt,Instr.sureAddr,run_underlying hu.h,Instr.sliceBounds,Instr.sliceBound,asIntOf,Siz.run,Addr.add,show r≤len by omega]⟩
theorem ZeW {X:List Nat} {w} {b T len n:Nat} {cs:List Value} {xs:List Int} (hn:xs.length=n) (hb:Blk w b T cs) (hX:b∉X) (hl:cs.length=len) (hm:len≤maxLen) (hx:xs.length≤len) (hc:∀ i (h:i<xs.length),cs[i]?=some (.I xs[i])):SlV X w (.slice (some ⟨b,0,none⟩) n len) xs:=by
 subst hn;refine ⟨some ⟨b,0,none⟩,len,rfl,hx,hm,fun h=>by simp at h,fun i hi=>⟨b,0,[.I xs[i]],rfl,hb.lt,hX,rfl,fun j u hu=>?_⟩⟩;have hj:j=0:=by
  have:=(Xw.1 hu).1;simp at this;exact this
 subst hj;simp at hu;subst hu;refine hb.cell ?_;simpa [Z7.k,Z3.k] using hc i hi
end Go.Eng
namespace Go.Proofs.YtipfkbkkndacjaaGreatDoor
open Go Go.Eng Go.RowKit
def ZaL (r:Rtn) (day:Int):Bool:=if r.kind=1 then decide (day<r.lo∨r.hi<day) else if r.kind=2 then decide (0≤day∧day≤r.hi) else decide (0≤day)
theorem Zgl (r:Rtn) (day:Int) (w):CC 256 #[aG r,.I day] w fun v w'=>v=.B (ZaL r day)∧Stp [] w w':=by
 unfold ZaL;refine cW2 31 Tryz.func256 ?_;refine W ?_;refine BX (Stp.refl [] w) fun b2 w1 h2 e2 _ hS=>?_;replace e2:Blk w1 b2 80 (Z3.enc r):=e2;simp only [Z3.enc] at e2;by_cases h1:r.kind=1
 · rw [if_pos h1]
   (refine QP ?_ ?_<;>intro hg)
   all_goals
    refine RU ?_;exact ⟨by congr 1;first|(rw [decide_eq_true (by omega)];done)|(symm;rw [decide_eq_decide];constructor<;>intro _<;>omega)|(symm;exact decide_eq_true (by omega))|(symm;exact decide_eq_false (by omega)),hS⟩
 rw [if_neg h1];by_cases h2:r.kind=2
 · rw [if_pos h2]
   (refine QP ?_ ?_<;>intro hg)
   all_goals
    refine RU ?_;exact ⟨by congr 1;first|(symm;rw [decide_eq_decide];constructor<;>intro _<;>omega)|(symm;exact decide_eq_true (by omega))|(symm;exact decide_eq_false (by omega)),hS⟩
 rw [if_neg h2];refine RT ?_;exact ⟨rfl,hS⟩
theorem Zk4 (v:Value) (l:List Int) (x:Int) (w) (hs:SlV [] w v l):CC 257 #[v,.I x] w fun r w'=>(∃ z:Int,r=.I z∧((z=-1∧x∉l)∨∃ (k:Nat) (h:k<l.length),z=k∧l[k]=x∧∀ j (h:j<l.length),j<k→l[j]≠x))∧Stp [] w w':=by
 have hmax:=hs.max;refine cW2 19 Tryz.func257 ?_;refine W ?_;refine LP (σ:=Nat) (fun k=>[(0,v),(1,.I x),(6,v),(7,.I l.length),(8,.I k)]) (fun k w'=>k≤l.length∧Stp [] w w'∧∀ j (h:j<l.length),j<k→l[j]≠x) (fun k=>l.length - k) 0 ⟨by omega,Stp.refl _ _,by omega⟩ ?_;rintro k w2 ⟨hk,hT,hz⟩;have hs2:=hs.up hT;by_cases hlt:k<l.length
 (refine QP ?_ ?_<;>intro hc)
 refine RU ?_;exact ⟨⟨_,rfl,.inr ⟨k,hlt,rfl,hc.symm,hz⟩⟩,hT⟩;exact QL (k+1) ⟨hlt,hT,fun j h hj=>by
  by_cases e:j=k;subst e;exact fun h=>hc h.symm;exact hz j h (by omega)⟩ (by omega)
 refine RT ?_;exact ⟨⟨_,rfl,.inl ⟨rfl,fun h=>by
  obtain ⟨j,hj,e⟩:=Xr h;exact hz j hj (by omega) e⟩⟩,hT⟩
def Z6k (c:Int):List (Int×Int)→List (Int×Int)
 | []=>[(c,1)]
 | p :: l=>if p.1=c then (c,p.2+1) :: l else p :: Z6k c l
def Zcm (day:Int) (st:List (Int×Int)) (r:Rtn):List (Int×Int):=if ZaL r day=true then Z6k r.crr st else st
def Z38 (l:List Rtn) (day:Int):List (Int×Int):=l.foldl (Zcm day) []
def Z8L (crrs:List Crr) (p:Int×Int):Int:=max 0 (p.2 - (crrs.getD p.1.toNat ⟨0,0⟩).tol)
def Z1w (l:List Rtn) (crrs:List Crr) (day:Int):Int:=((Z38 l day).map (Z8L crrs)).sum
theorem Zcn (c:Int):∀ (st:List (Int×Int)),c∉st.map (·.1)→Z6k c st=st++[(c,1)]
 | [],_=>rfl
 | p :: l, h => by
   simp only [Xy,Xb,not_or] at h;rw [Z6k,if_neg (fun e=>h.1 e.symm),Zcn c l h.2];rfl
theorem Zco (c:Int):∀ (st:List (Int×Int)) (k:Nat) (hk:k<st.length),st[k].1=c→(∀ j (h:j<st.length),j<k→st[j].1≠c)→Z6k c st=st.set k (c,st[k].2+1)
 | p :: l, 0, hk, h, _ => by
   simp only [Ya5] at h;rw [Z6k,if_pos h];rfl
 | p :: l, k + 1, hk, h, hz => by
   have h0:=hz 0 (by simp) (by omega);simp only [Ya5] at h0;rw [Z6k,if_neg h0,Zco c l k (by simpa using hk) (by simpa using h) (fun j hj hjk=>by
    have h2:=hz (j+1) (by simpa using hj) (by omega)
    rwa [List.getElem_cons_succ] at h2)]
   simp
theorem Zk5 (c:Int) (st:List (Int×Int)):(Z6k c st).length≤st.length+1:=by
 induction st with
 | nil=>simp [Z6k]
 | cons p l ih=>
   rw [Z6k];split<;>simp<;>omega
theorem Z6l (l:List Rtn) (day:Int) (k:Nat) (h:k<l.length):Z38 (l.take (k+1)) day=Zcm day (Z38 (l.take k) day) l[k]:=by
 unfold Z38;rw [Xi h,YaF];rfl
theorem Zcp (l:List Rtn) (day:Int) (k:Nat) (h:k≤l.length):(Z38 (l.take k) day).length≤k:=by
 induction k with
 | zero=>simp [Z38]
 | succ k ih=>
   rw [Z6l l day k (by omega),Zcm];have:=ih (by omega);split;have:=Zk5 l[k].crr (Z38 (l.take k) day);omega;omega
def arX (f:Int×Int→Int) (st:List (Int×Int)):List Value:=st.map (fun p=>.I (f p))++List.replicate (32 - st.length) (.I 0)
theorem Z5y (f:Int×Int→Int) {st:List (Int×Int)} (h:st.length≤32):(arX f st).length=32:=by simp [arX];omega
theorem Z5z (f:Int×Int→Int) {st:List (Int×Int)} {k:Nat} (h:k<st.length):(arX f st)[k]?=some (.I (f st[k])):=by
 rw [arX,X9 (by simpa using h)];simp [h]
theorem Znl (f:Int×Int→Int) {st:List (Int×Int)} (h:st.length<32):(arX f st)[st.length]?=some (.I 0):=by
 rw [arX,Yaz (by simp)];simp [Ya3];omega
theorem ZeX (f:Int×Int→Int) {st:List (Int×Int)} (p:Int×Int) (h:st.length<32):(arX f st).set st.length (.I (f p))=arX f (st++[p]):=by
 unfold arX;rw [List.set_append_right _ _ (by simp)];obtain ⟨m,hm⟩:∃ m,32 - st.length=m+1:=⟨31 - st.length,by omega⟩
 rw [hm];simp only [Xs,Nat.sub_self,YaX,List.set_cons_zero,XI,Xy,XQ,Xx,XR,XL,Xc,List.length_singleton];rw [show 32 - (st.length+1)=m by omega]
theorem ZeY (f:Int×Int→Int) {st:List (Int×Int)} {k:Nat} (p:Int×Int) (h:k<st.length):(arX f st).set k (.I (f p))=arX f (st.set k p):=by
 unfold arX;rw [List.set_append_left _ _ (by simpa using h),X4,List.map_set]
theorem ZeZ {c:Int} {m:Int} {p:Int×Int}:∀ {st:List (Int×Int)},(∀ q∈st,0≤q.2∧q.2≤m)→0≤m→p∈Z6k c st→(p.1=c∨p.1∈st.map (·.1))∧0≤p.2∧p.2≤m+1
 | [], _, hm, h => by
   simp only [Z6k,Xl] at h;subst h;exact ⟨.inl rfl,by dsimp only;omega,by dsimp only;omega⟩
 | q :: l, hq, hm, h => by
   have h0:=hq q (by simp);rw [Z6k] at h;split at h;rcases Xb.1 h with rfl|h
   exact ⟨.inl rfl,by dsimp only;omega,by dsimp only;omega⟩;have:=hq p (by simp [h]);exact ⟨.inr (XC.2 ⟨p,by simp [h],rfl⟩),by omega,by omega⟩;rcases Xb.1 h with rfl|h
   exact ⟨.inr (by simp),by omega,by omega⟩;obtain ⟨a,b⟩:=ZeZ (fun x hx=>hq x (by simp [hx])) hm h;exact ⟨a.imp id (fun h=>by simp [h]),b⟩
theorem ZaM {l:List Rtn} {day:Int} {N:Int} (hr:∀ r∈l,0≤r.crr∧r.crr<N):∀ k,k≤l.length→∀ p∈Z38 (l.take k) day,(0≤p.1∧p.1<N)∧0≤p.2∧p.2≤k
 | 0,_,p,hp=>by simp [Z38] at hp
 | k + 1, hk, p, hp => by
   have ih:=ZaM (day:=day) hr k (by omega);rw [Z6l l day k (by omega),Zcm] at hp;split at hp;obtain ⟨a,b,c⟩:=ZeZ (m:=k) (fun q hq=>(ih q hq).2) (by omega) hp;refine ⟨?_,b,by omega⟩;rcases a with a|a
   rw [a];exact hr _ (Xd _);obtain ⟨q,hq,e⟩:=XC.1 a;rw [← e];exact (ih q hq).1;have:=ih p hp;exact ⟨this.1,this.2.1,by omega⟩
theorem Z89 (lv cv:Value) (l:List Rtn) (crrs:List Crr) (day:Int) (w) (hl:SlV [] w lv l) (hc:SlV [] w cv crrs) (h32:l.length≤32) (hr:∀ r∈l,0≤r.crr∧r.crr<crrs.length) (ht:∀ c∈crrs,0≤c.tol∧c.tol≤1000) :
 CC 201 #[lv,cv,.I day] w fun v w'=>v=.I (Z1w l crrs day)∧Stp [] w w':=by
 refine cW3 68 Tryz.func201 ?_;refine W ?_;refine Z1 Z2 rfl ?_;rintro _ w1 ⟨b7,rfl,hb7,e7,hS⟩;refine W ?_;refine Z1 Z2 rfl ?_;rintro _ w2 ⟨b8,rfl,hb8,e8,hT⟩;have l7:=e7.lt;replace e7:=e7.up hT;have n78:b7≠b8:=by omega
 have g8:w.heap.size≤b8:=Xg hS.size hb8;replace hS:=hS.trans hT;replace e7:Blk w2 b7 329 (arX (·.2) (Z38 (l.take 0) day)):=e7;replace e8:Blk w2 b8 329 (arX (·.1) (Z38 (l.take 0) day)):=e8;clear hT;refine W ?_;refine Z0l (σ:=Unit) (fun _=>[(1,cv),(7,pQ b7),(8,pQ b8),(9,.I (Z38 l day).length)]) (fun _ w'=>Stp [] w w'∧Blk w' b7 329 (arX (·.2) (Z38 l day))∧Blk w' b8 329 (arX (·.1) (Z38 l day))) ?_ ?_;refine LP (σ:=Nat) (fun k=>[(1,cv),(2,.I day),(7,pQ b7),(8,pQ b8),(9,.I (Z38 (l.take k) day).length),(16,lv),(17,.I l.length),(18,.I k)]) (fun k w'=>k≤l.length∧Stp [] w w'∧Blk w' b7 329 (arX (·.2) (Z38 (l.take k) day))∧Blk w' b8 329 (arX (·.1) (Z38 (l.take k) day))) (fun k=>l.length - k) 0 ⟨by omega,hS,e7,e8⟩ ?_;clear e7 e8 hS;rintro k w3 ⟨hk,hS,e7,e8⟩;by_cases hlt:k<l.length;have hs3:=hl.up hS;have hstep:=Z6l l day k hlt;have hln:=Zcp l day k hk;have hok:=ZaM (day:=day) hr k hk;generalize Z38 (l.take k) day=st at *;refine QO ?_;refine Z1 Z2 rfl ?_;rintro _ w4 ⟨b11,rfl,hb11,e11,hT⟩;refine SA (us:=Z3.enc l[k]) e11 ?_;rintro _ w5 ⟨hT2,e11⟩;replace hT:=hT.ow hT2;replace hS:=hS.trans hT;replace e7:=e7.up hT;replace e8:=e8.up hT;clear hT hT2 hs3;refine W ?_;refine CP hS (Zgl l[k] day _) fun w6 hT hS=>?_;replace e7:=e7.up hT;replace e8:=e8.up hT;replace e11:=e11.up hT;clear hT;rw [Zcm] at hstep;cases hw:ZaL l[k] day;rw [hw,if_neg (by simp)] at hstep;refine QO ?_;exact ZD (k+1) ⟨rfl,rfl,rfl,rfl,by rw [hstep];rfl,rfl,rfl,rfl,trivial⟩ ⟨hlt,hS,by rw [hstep];exact e7,by rw [hstep];exact e8⟩ (by omega);rw [hw,if_pos rfl] at hstep;refine QO ?_;refine ZDr 6 [] [] [(0,0),(1,0),(2,0),(3,1),(4,2),(5,0)] (fun w1 hS1=>?_);replace e7:=e7.up hS1;replace e8:=e8.up hS1;replace e11:=e11.up hS1;replace hS:=hS.trans hS1;clear hS1;refine D ?_;refine ZA rfl trivial (fun _=>Z6O (r:=st.length) rfl rfl rfl (by omega)) rfl ?_;refine D ?_;have hsn:SlV [] w1 (.slice (some ⟨b8,0,none⟩) st.length 32) (st.map (·.1)):=ZeW (by simp) e8 (by simp) (Z5y _ (by omega)) (by decide) (by simp;omega) (fun i h=>by
  have:=Z5z (·.1) (st:=st) (k:=i) (by simpa using h);simpa using this)
 refine DC (Zk4 _ _ l[k].crr _ hsn) (fun _ _ h=>h.2) ?_;rintro _ w7 ⟨⟨z,rfl,hz⟩,hT⟩;replace e7:=e7.up hT;replace e8:=e8.up hT;replace e11:=e11.up hT;replace hS:=hS.trans hT;clear hT hsn;have own:∀ b,b=b7∨b=b8→∀ c∈[b],c∈([]:List Nat)∨w.heap.size≤c:=fun b hb c hc=>.inr (by simp at hc;omega)
 rcases hz with ⟨rfl,hn⟩|⟨j,hj,rfl,hje,hjz⟩
 rw [Zcn _ _ hn] at hstep;have h0:=Znl (·.2) (st:=st) (by omega);refine D ?_;refine QO ?_;refine Z5 (Za (o:=0+st.length * 1) (u:=.I l[k].crr) rfl rfl rfl rfl e8 (by rw [Z5y _ (by omega)];omega)) ?_;rintro _ w8 ⟨hT,e8⟩;replace e7:=e7.ext hT (by simpa using n78);replace hS:=hS.own hT (own _ (.inr rfl));rw [XJ,YaM,ZeX (·.1) (l[k].crr,1) (by omega)] at e8;refine QO ?_;refine Z4 (JN rfl rfl e7 (by rw [XJ,YaM];exact h0)) rfl ?_;refine QO ?_;refine Z5 (Za (o:=0+st.length * 1) (u:=.I (0+1)) rfl rfl rfl rfl e7 (by rw [Z5y _ (by omega)];omega)) ?_;rintro _ w9 ⟨hT,e7⟩;replace e8:=e8.ext hT (by simpa using n78.symm);replace hS:=hS.own hT (own _ (.inl rfl));rw [XJ,YaM] at e7;replace e7:Blk w9 b7 329 (arX (·.2) (st++[(l[k].crr,1)])):=by rw [← ZeX (·.2) (l[k].crr,1) (by omega)];exact e7
 refine QO ?_;exact ZD (k+1) ⟨rfl,rfl,rfl,rfl,by rw [hstep,Xc];rfl,rfl,rfl,rfl,trivial⟩ ⟨hlt,hS,by rw [hstep];exact e7,by rw [hstep];exact e8⟩ (by omega);rw [Xs] at hj;have hje':st[j].1=l[k].crr:=by simpa using hje
 rw [Zco _ _ j hj hje' (fun i h hi=>by have:=hjz i (by simpa using h) hi;simpa using this)] at hstep;have h0:=Z5z (·.2) (st:=st) hj;have hcn:=(hok _ (Xd hj)).2;refine D ?_;refine QO ?_;refine Z4 (JN rfl rfl e7 (by rw [XJ,YaM];exact h0)) rfl ?_;refine QO ?_;refine Z5 (Za (o:=0+j * 1) (u:=.I (st[j].2+1)) rfl rfl rfl rfl e7 (by rw [Z5y _ (by omega)];omega)) ?_;rintro _ w9 ⟨hT,e7⟩;replace e8:=e8.ext hT (by simpa using n78.symm);replace hS:=hS.own hT (own _ (.inl rfl));rw [XJ,YaM] at e7;replace e7:Blk w9 b7 329 (arX (·.2) (st.set j (l[k].crr,st[j].2+1))):=by rw [← ZeY (·.2) (l[k].crr,st[j].2+1) hj];exact e7
 have e8':Blk w9 b8 329 (arX (·.1) (st.set j (l[k].crr,st[j].2+1))):=by
  rw [← ZeY (·.1) (l[k].crr,st[j].2+1) hj];have h1:=Z5z (·.1) (st:=st) hj;rw [hje'] at h1;obtain ⟨hh,h2⟩:=Xw.1 h1;have:(arX (·.1) st).set j (.I l[k].crr)=arX (·.1) st:=by rw [← h2];exact List.set_getElem_self hh
  rw [this];exact e8
 refine QO ?_;exact ZD (k+1) ⟨rfl,rfl,rfl,rfl,by rw [hstep,X4];rfl,rfl,rfl,rfl,trivial⟩ ⟨hlt,hS,by rw [hstep];exact e7,by rw [hstep];exact e8'⟩ (by omega);obtain rfl:k=l.length:=by omega
 rw [Xo] at e7 e8;have hs3:=hl.up hS;refine QO ?_;exact ZN () ⟨rfl,rfl,rfl,by simp only [Xo];rfl,trivial⟩ ⟨hS,e7,e8⟩;clear e7 e8 hS;rintro _ w3 ⟨hS,e7,e8⟩;have hln:=Zcp l day l.length (Xn _);have hok:=ZaM (day:=day) hr l.length (Xn _);rw [Xo] at hln hok;unfold Z1w;generalize Z38 l day=st at *;have hsn:SlV [] w3 (.slice (some ⟨b8,0,none⟩) st.length 32) (st.map (·.1)):=ZeW (by simp) e8 (by simp) (Z5y _ (by omega)) (by decide) (by simp;omega) (fun i h=>by
  have:=Z5z (·.1) (st:=st) (k:=i) (by simpa using h);simpa using this)
 refine QO ?_;refine Z4 (Z6O (r:=st.length) rfl rfl rfl (by omega)) rfl ?_;refine QO ?_;refine Zu (σ:=Nat) (fun k=>[(1,cv),(7,pQ b7),(13,.I ((st.take k).map (Z8L crrs)).sum),(47,.slice (some ⟨b8,0,none⟩) st.length 32),(48,.I st.length),(49,.I k)]) (fun k w'=>k≤st.length∧Stp [] w3 w'∧0≤((st.take k).map (Z8L crrs)).sum∧((st.take k).map (Z8L crrs)).sum≤40 * k) (fun k=>st.length - k) 0 ⟨rfl,rfl,rfl,rfl,by simp only [Xs];rfl,rfl,trivial⟩ ⟨by omega,Stp.refl _ _,by simp,by simp⟩ ?_;rintro k w4 ⟨hk,hT,g1,g2⟩;have e7':=e7.up hT;have hsn':=hsn.up hT;have hc4:=hc.up (hS.trans hT);by_cases hlt:k<st.length;obtain ⟨⟨a1,a2⟩,a3,a4⟩:=hok _ (Xd hlt);have hsum:((st.take (k+1)).map (Z8L crrs)).sum=((st.take k).map (Z8L crrs)).sum+Z8L crrs st[k]:=by
  rw [Xi hlt,XI,List.sum_append];simp
 obtain ⟨j,hj⟩:∃ j:Nat,st[k].1=j:=⟨st[k].1.toNat,by omega⟩
 have hjl:j<crrs.length:=by omega
 have htj:=ht _ (Xd hjl);have hlm:k<(st.map (·.1)).length:=by simpa using hlt
 have hmk:(st.map (·.1))[k]=(j:Int):=by simpa using hj
 have h0:=Z5z (·.2) (st:=st) hlt;have htx:Z8L crrs st[k]=max 0 (st[k].2 - crrs[j].tol):=by
  unfold Z8L;rw [hj];simp [hjl]
 generalize ((st.take k).map (Z8L crrs)).sum=s at *;refine QO ?_;refine ZDr 13 [] [] [(0,0),(1,0),(2,0),(3,1),(4,0),(5,0),(6,0),(7,0),(8,1),(9,0),(10,0),(11,0),(12,0)] (fun w1 hS1=>?_);replace e7':=e7'.up hS1;replace hc4:=hc4.up hS1;replace hT:=hT.trans hS1;clear hS1;refine D ?_;refine Z07 rfl trivial rfl rfl e7' (by simp) (by rw [XJ,YaM];exact h0) rfl ?_;refine D ?_;refine QO ?_;exact ZD (k+1) ⟨rfl,rfl,by rw [hsum,htx];rfl,rfl,rfl,rfl,trivial⟩ ⟨hlt,hT,by rw [hsum,htx];omega,by rw [hsum,htx];omega⟩ (by omega);obtain rfl:k=st.length:=by omega
 refine QO ?_;refine WR ?_;rw [Xo];exact .mk ⟨rfl,hS.trans hT⟩
def Z4y (l:List Rtn) (sent:Int):List Int:=Z3i ([sent,3652059]++l.flatMap (fun r=>[r.lo,r.hi+1].filter (fun d=>decide (sent<d∧d≤3652058))))
def Z8M (l:List Rtn) (sent:Int):List Spn:=((Z4y l sent).zip (Z4y l sent).tail).map (fun p=>(p.1,p.2 - 1))
structure AlS where
 least:Int
 never:Bool
 out:List Spn
def Z0A (l:List Rtn) (crrs:List Crr) (s:AlS) (x:Spn):AlS:=
 let e:=Z1w l crrs x.1
 if s.least<e then s else
  let t:AlS:=if e<s.least then ⟨e,false,[]⟩ else s
  match t.out.getLast? with
  | some y=>if y.2=x.1 - 1 then { t with out:=t.out.dropLast++[(y.1,x.2)] } else { t with out:=t.out++[x] }
  | none=>{ t with out:=t.out++[x] }
def Zgm (l:List Rtn) (crrs:List Crr) (sent:Int):AlS:=(Z8M l sent).foldl (Z0A l crrs) ⟨Z1w l crrs (-1),true,[]⟩
def ZaN (l:List Rtn) (crrs:List Crr) (sent:Int):Int×Bool:=
 let s:=Zgm l crrs sent
 if s.never=true then (0,false) else match s.out.getLast? with|some y=>(y.2,true)|none=>(0,false)
structure Znm (l:List Rtn) (crrs:List Crr):Prop where
 len:l.length≤32
 crr:∀ r∈l,0≤r.crr∧r.crr<crrs.length
 tol:∀ c∈crrs,0≤c.tol∧c.tol≤1000
 day:∀ r∈l,0≤r.lo∧r.lo≤3652058∧0≤r.hi∧r.hi≤3652058
theorem Zcq {l:List Rtn} {sent x:Int} (hs:0≤sent∧sent≤3652058) (h:x∈Z4y l sent):sent≤x∧x≤3652059:=by
 have:=((Z35 _).2 x).1 h;simp only [Xh,Xb,Xj,or_false,YbA,YbE,decide_eq_true_eq] at this;rcases this with (rfl|rfl)|⟨r,hr,h1,h2⟩<;>omega
theorem Z8a {l:List Rtn} {sent:Int} {s:Spn} (hs:0≤sent∧sent≤3652058) (h:s∈Z8M l sent):sent≤s.1∧s.1≤3652059∧-1≤s.2∧s.2≤3652058:=by
 unfold Z8M at h;obtain ⟨p,hp,rfl⟩:=XC.1 h;have h1:=Zcq hs (List.of_mem_zip hp).1;have h2:=Zcq hs (List.mem_of_mem_tail (List.of_mem_zip hp).2);dsimp only;omega
def inX (sent d:Int):Bool:=decide (sent<d∧d≤3652058)
def Z6m (l:List Rtn) (sent:Int):List Int:=[sent,3652059]++l.flatMap (fun r=>[r.lo,r.hi+1].filter (inX sent))
theorem Z8b (l:List Rtn) (sent:Int):(Z6m l sent).length≤2+2 * l.length:=by
 unfold Z6m;rw [Xc]
 induction l with
 | nil=>simp
 | cons r l ih=>
   have h:=X0 (inX sent) [r.lo,r.hi+1];simp only [YaS,Xc,Xe,Xf] at *;omega
theorem Z4p {P:Program} {n:Nat} {e:Env} {w} {d:Option Nat} {ty:TypeId} {pos:String} {af:Array Edge} {g:Option (Nat×Bool)} {x y:Operand} {t:TypeId} {u i v:Value} (hx:ev e x=some u) (hy:ev e y=some i) (hb:∀ w,(Instr.index t u i).run P w=.ok v w):PR P n ⟨d,.index t x y,ty,pos,af,g⟩ e w v:=
 ⟨fun a ha=>by simp [execOp,ha.ev hx,ha.ev hy,hb]⟩
theorem Zk6 (a b:Int) (w):(Instr.index 333 (.agg #[.I a,.I b]) (.I ((0:Nat):Int))).run Tryz.prog w=.ok (.I a) w:=by kernel_rfl
theorem Zk7 (a b:Int) (w):(Instr.index 333 (.agg #[.I a,.I b]) (.I ((1:Nat):Int))).run Tryz.prog w=.ok (.I b) w:=by kernel_rfl
theorem Zgn (l:List Rtn) (sent:Int) (k:Nat) (h:k<l.length):Z6m (l.take (k+1)) sent=Z6m (l.take k) sent++[l[k].lo,l[k].hi+1].filter (inX sent):=by
 unfold Z6m;rw [Xi h,Yaj];simp
theorem Zk8 (a b:Int) (w):(Instr.build 75 #[(0,.I a),(1,.I b)]).run Tryz.prog w=.ok (.agg (Z3.enc ((a,b):Spn)).toArray) w:=by kernel_rfl
theorem Znn (a b:Int) (w):(Instr.buildSlice 23 2 #[(0,.I a),(1,.I b)]).run Tryz.prog w=.ok (.slice (some ⟨w.heap.size,0,none⟩) 2 2) (w.alloc (.cells #[.I a,.I b] 3)):=by kernel_rfl
theorem Zk9 (a b:Int) (w):(Instr.build 333 #[(0,.I a),(1,.I b)]).run Tryz.prog w=.ok (.agg #[.I a,.I b]) w:=by kernel_rfl
theorem ZaO (l:Nat) (F:List Nat) (w) (bS bL:Nat) (lv:Value) (rets:List Rtn) (sent:Int) (crrs:List Crr) (ho:Znm rets crrs) (hsn:0≤sent∧sent≤3652058)
 (eS:Blk w bS 3 [.I sent]) (eL:Blk w bL 76 [lv]) (hl:SlV F w lv rets) (hF:∀ b∈F,b<w.heap.size) (hS:bS∉F) (hL:bL∉F) :
 ZeU Tryz.prog 258 #[pQ bS,pQ bL] (fun x:Spn=>aG x) (Z8M rets sent) l F w:=by
 intro J hlt hup hY h0;have hrl:=ho.len;have hmx:=hl.max;refine cW3 65 Tryz.func258 ?_;refine W ?_;refine Z1 (Z0 rfl (Znn _ _)) rfl ?_;intro dv0 w1 hN;have hr0:ZI 3 w w1 dv0 [sent,3652059]:=ZI.one hN rfl rfl (by simp [maxLen]);have hN:=Z6.stp hN;have eL1:=eL.up hN;have eS1:=eS.up hN;refine W ?_;have hp0:Z6m (rets.take 0) sent=[sent,3652059]:=by simp [Z6m]
 refine LP (σ:=Nat×Value) (fun q=>[(0,.func (.yield l) #[] #[]),(1,pQ bS),(2,pQ bL),(4,q.2),(12,lv),(13,.I rets.length),(14,.I q.1)]) (fun q w'=>q.1≤rets.length∧ZI 3 w w' q.2 (Z6m (rets.take q.1) sent)) (fun q=>rets.length - q.1) (0,dv0) ⟨by omega,by rw [hp0];exact hr0⟩ ?_;clear hr0 hp0 hN eS1 eL1;rintro ⟨k,dv⟩ w2 ⟨hk,hr⟩;dsimp only at hk hr ⊢;by_cases hlt':k<rets.length;obtain ⟨r1,r2,r3,r4⟩:=ho.day _ (Xd hlt');have hpl:=Z8b (rets.take k) sent;rw [Xt] at hpl;have hst:=Zgn rets sent k hlt';generalize Z6m (rets.take k) sent=pk at *;have hl2:SlV [] w2 lv rets:=hl.ext hr.2 (by simp) (by simp);have eS2:=eS.up hr.2;refine QO ?_;refine Z1 Z2 rfl ?_;rintro _ w3 ⟨b6,rfl,hb6,e6,hA⟩;refine SA (us:=Z3.enc rets[k]) e6 ?_;rintro _ w4 ⟨hA2,e6⟩;replace hA:=hA.ow hA2;replace hr:=hr.up hA;refine QO ?_;refine Z8 (vs:=[(0,.I rets[k].lo),(1,.I (rets[k].hi+1))]) rfl (Zk9 _ _) rfl ?_;refine QO ?_;generalize hlo:rets[k].lo=lo at *;generalize hhi:rets[k].hi+1=hi at *;have hf2:[lo,hi].filter (inX sent)=(if inX sent lo=true then [lo] else [])++(if inX sent hi=true then [hi] else []):=by
  cases h1:inX sent lo<;>cases h2:inX sent hi<;>simp [h1,h2]
 clear e6 hA hA2 hl2 eS2
 refine Zu (σ:=Nat×Value) (fun q=>[(0,.func (.yield l) #[] #[]),(1,pQ bS),(2,pQ bL),(4,q.2),(12,lv),(13,.I rets.length),(14,.I k),(23,.agg #[.I lo,.I hi]),(24,.I q.1)])
  (fun q w'=>q.1≤2∧ZI 3 w w' q.2 (pk++(if 0<q.1∧inX sent lo=true then [lo] else [])++(if 1<q.1∧inX sent hi=true then [hi] else []))) (fun q=>2 - q.1) (0,dv) ⟨rfl,rfl,rfl,rfl,rfl,rfl,rfl,rfl,rfl,trivial⟩ ⟨by omega,by simpa using hr⟩ ?_
 clear hr;rintro ⟨j,dv⟩ w5 ⟨hj,hr⟩;dsimp only at hj hr ⊢;have eS5:=eS.up hr.2;have hpk:pk.length≤70:=by omega
 have hz:∀ (p:Prop) [Decidable p] (d:Int),(if p then [d] else []).length≤1:=fun p _ d=>by split<;>simp
 obtain rfl|rfl|rfl:j=0∨j=1∨j=2:=by omega
 by_cases hin:sent<lo∧lo≤3652058;refine QO ?_;refine Z4 (Z4p rfl rfl (Zk6 _ _)) rfl ?_;refine QO ?_;refine AP1 lo hr (by simp;omega) fun v1 v' w' hr' _=>?_
 refine QO ?_;exact QL (1,v') ⟨by dsimp only;omega,by simpa [inX,hin] using hr'⟩ (by dsimp only;omega)
 · refine QO ?_
   refine Z4 (Z4p rfl rfl (Zk6 _ _)) rfl ?_;refine QO ?_;all_goals exact QL (1,dv) ⟨by dsimp only;omega,by simpa [inX,hin] using hr⟩ (by dsimp only;omega)
 have hz1:=hz (0<1∧inX sent lo=true) lo;by_cases hin:sent<hi∧hi≤3652058;refine QO ?_;refine Z4 (Z4p rfl rfl (Zk7 _ _)) rfl ?_;refine QO ?_;refine AP1 hi hr (by simp only [Xc];simp;split<;>simp<;>omega) fun v1 v' w' hr' _=>?_
 refine QO ?_;exact QL (2,v') ⟨by dsimp only;omega,by simpa [inX,hin] using hr'⟩ (by dsimp only;omega)
 · refine QO ?_
   refine Z4 (Z4p rfl rfl (Zk7 _ _)) rfl ?_;repeat'(first|refine W1 ?_|omega|refine VG ?_ ?_<;>intro hg|refine VC ?_ ?_<;>intro hc)
   all_goals exact QL (2,dv) ⟨by dsimp only;omega,by simpa [inX,hin] using hr⟩ (by dsimp only;omega)
 refine QO ?_;exact QL (k+1,dv) ⟨by dsimp only;omega,by rw [hst,hf2,← Xx];simpa using hr⟩ (by dsimp only;omega);obtain rfl:k=rets.length:=by omega
 rw [Xo] at hr;have hpl:=Z8b rets sent;have hdX:Z4y rets sent=Z3i (Z6m rets sent):=rfl;refine QO ?_;refine CM (ZX rfl) (Zc2 w2 hr.1 (by omega)) ?_;rintro _ w3 ⟨rfl,hr3,hT3⟩;refine QO ?_;refine CM (ZX rfl) (Z6K w3 hr3 (by rw [Yba];omega)) ?_;rintro dv4 w4 ⟨hr4,hT4,hob4⟩;have hor2:=fun b hb=>hr.ob_le b hb;have hS4:Stp [] w w4:=(hr.2.own hT3 (fun b hb=>.inr (hor2 b hb).1)).own hT4 (fun b hb=>.inr (hor2 b hb).1);replace hr4:Row [] w4 w.heap.size 3 dv4 (Z4y rets sent):=hr4;have hdl:(Z4y rets sent).length≤100:=by
  have h1:(Z4y rets sent).length≤(Z6m rets sent).length:=by
   rw [hdX];unfold Z3i Lib.compact Lib.compactUpTo;rw [Xs];refine Xg (X0 _ _) ?_;simp
  omega
 have hdp:0<(Z4y rets sent).length:=by
  have:sent∈Z4y rets sent:=((Z35 _).2 sent).2 (by simp);exact List.length_pos_of_mem this
 have hdr:∀ d∈Z4y rets sent,sent≤d∧d≤3652059:=fun d hd=>by
  have:=((Z35 _).2 d).1 hd;simp only [Xh,Xb,Xj,or_false,YbA,YbE,decide_eq_true_eq] at this;rcases this with (rfl|rfl)|⟨r,hr,h1,h2⟩<;>omega
 have hseg:Z8M rets sent=((Z4y rets sent).zip (Z4y rets sent).tail).map (fun p=>(p.1,p.2 - 1)):=rfl;rw [hseg] at hY ⊢;clear hseg hdX hr hr3 hT3 hT4 hpl;generalize Z4y rets sent=D at *;have hsl4:SlV [] w4 dv4 D:=hr4.slv (by simp);have hDm:=hsl4.max;have hzl:((D.zip D.tail).map (fun p=>(p.1,p.2 - 1))).length=D.length - 1:=by simp
 have hob0:∀ b∈ob dv4,w.heap.size≤b:=fun b hb=>(hr4.ob_le b hb).1;refine QO ?_
 refine Zu (σ:=Nat×List Nat) (fun q=>[(0,.func (.yield l) #[] #[]),(4,dv4),(46,.I ((D.length:Int) - 1)),(47,.I q.1)])
  (fun q w'=>q.1≤D.length - 1∧J (((D.zip D.tail).map (fun p=>(p.1,p.2 - 1))).take q.1) q.2 w'∧SlV q.2 w' dv4 D∧Stp F w w'∧∀ b∈q.2,b∈F∨w.heap.size≤b) (fun q=>D.length - q.1) (0,F) ⟨rfl,rfl,rfl,rfl,trivial⟩
  ⟨by omega,by simpa using hup _ _ _ _ h0 hS4,Row.slv (Z20 (X':=F) hr4) hF,hS4.mn,fun b hb=>.inl hb⟩ ?_
 clear hsl4 hS4;rintro ⟨k,G⟩ w5 ⟨hk,hJ,hsl,hS,hG⟩;dsimp only at hk hJ hsl hG ⊢;generalize hZ:(D.zip D.tail).map (fun p=>(p.1,p.2 - 1))=Z at *;by_cases hlt':k<D.length - 1;have hkz:k<Z.length:=by omega
 have hk1:k<D.length:=by omega
 have hk2:k+1<D.length:=by omega
 have hzk:Z[k]=(D[k],D[k+1] - 1):=by subst hZ;simp
 obtain ⟨d1,d2⟩:=hdr _ (Xd hk1);obtain ⟨d3,d4⟩:=hdr _ (Xd hk2);refine QO ?_;refine Zgj 5 14 (G) [(0,0),(1,0),(2,0),(3,0),(4,1),(5,0),(6,0),(7,0),(8,0),(9,1),(10,0),(11,0),(12,2),(13,0)] rfl mixed (by kernel_rfl) (by kernel_rfl) (by kernel_rfl) (fun w1 hS1=>?_);replace hJ:=hup _ _ _ _ hJ hS1;replace hsl:=hsl.up hS1;replace hS:=hS.trans hS1.mn;refine Z0t rfl (fun w'=>ZY rfl) rfl ?_;refine Z0t rfl (fun w'=>ZY rfl) rfl ?_;refine Z0t rfl (fun w'=>ZY rfl) rfl ?_;refine Z0t rfl (fun w'=>Z7l (i:=k) rfl hsl rfl rfl hk1) rfl ?_;refine Zcl rfl (fun w' hS=>Z1N rfl rfl (hsl.ext hS (fun b hb=>hb) (fun _ h=>.inl h)) hk1 rfl rfl) rfl ?_;refine Z0t rfl (fun w'=>ZY rfl) rfl ?_;refine Z0t rfl (fun w'=>ZY rfl) rfl ?_;refine Z0t rfl (fun w'=>Z9R rfl rfl (by unfold I64;omega)) rfl ?_;refine Z0t rfl (fun w'=>Z7l (i:=k+1) rfl hsl rfl (by omega) hk2) rfl ?_;refine Zcl rfl (fun w' hS=>Z1N rfl rfl (hsl.ext hS (fun b hb=>hb) (fun _ h=>.inl h)) hk2 rfl rfl) rfl ?_;refine Z0t rfl (fun w'=>Z4M rfl rfl (by unfold I64;omega)) rfl ?_;refine Z0t rfl (fun w'=>Z0H (vs:=[(0,.I D[k]),(1,.I (D[k+1] - 1))]) rfl (Zk8 _ _)) rfl ?_;have hYk:=hY (Z.take k) Z[k] G w1 hJ (by rw [← Xi hkz];exact List.take_prefix _ _);rw [hzk] at hYk;refine Zgk rfl rfl rfl hYk (fun W' h=>h.choose_spec.2.1) rfl ?_;rintro W' ⟨G',hJ',hT',hG'⟩;refine Z0t rfl (fun w'=>Zhm rfl) rfl ?_;refine Znk ?_;refine QO ?_;refine QL (k+1,G') ⟨by dsimp only;omega,by rw [Xi hkz,hzk];exact hJ',?_,hS.own hT' hG,fun b hb=>?_⟩ (by dsimp only;omega);exact hsl.ext hT' (fun b hb=>hb) hG';rcases hG' b hb with h|h
 exact hG b h;exact .inr (by have:=hS.size;omega);refine QO ?_;refine WR ?_;have hkd:k=Z.length:=by omega
 rw [hkd,Xo] at hJ;exact .mk ⟨G,hJ,hS,hG⟩
end Go.Proofs.YtipfkbkkndacjaaGreatDoor
