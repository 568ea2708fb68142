/-
Contracts and plain laws, merged out of own texts.
-/
import Derived.Test.YtipfkbkkndacjaaGreatDoorM3
import Derived.Test.YtipfkbkkndacjaaGreatDoorRows
import Derived.Test.YtipfkbkkndacjaaGreatDoorTie
import Derived.Test.YtipfkbkkndacjaaGreatDoorCards
import Derived.Shelf.SlSortCmp.NoneTotal
import Derived.Laws.CopyRow
import Derived.Test.YtipfkbkkndacjaaGreatDoorShl3
import Derived.Recover
import Derived.RangeFuncLeaves
import Derived.RangeFuncCalls
import Derived.RangeFuncSeq
import Derived.OrdersIn
set_option linter.unusedVariables false
set_option linter.unusedSimpArgs false
set_option maxHeartbeats 4000000
set_option maxRecDepth 20000
namespace Go.Eng
open Go
theorem Z4w {P:Program} {n:Nat} {fn:Func} {R:Ending->World->Prop} {e:Env} {w} {t u s q:Nat} {v x y z:Value} (hr:fn.results=#[.tmp t,.tmp u,.tmp s,.tmp q]) (ht:look e t=some v) (hu:look e u=some x) (hs:look e s=some y) (hq:look e q=some z) (h:R (.returned (.tuple #[v,x,y,z])) w):WQ n (bodyPost P fn R) .ret e w:=
 ⟨λa ha=>⟨ha.defers,.tuple #[v,x,y,z],by simp [results,hr];simpa [XB] using And.intro (ha.vals t v ht) (And.intro (ha.vals u x hu) (And.intro (ha.vals s y hs) (ha.vals q z hq))),h⟩⟩
end Go.Eng
namespace Go.Proofs.YtipfkbkkndacjaaGreatDoor
open Go Go.Eng Go.RowKit
def opP (k:Int):Prop:=k=1\/k=2\/k=4\/k=15\/k=24
def ZC (x:Ins):List Int×List Int×List Int×Bool:=
 if x.op=1 then ([],[],[1],decide (-2147483647<=x.n/\x.n<=2147483647))
 else if x.op=2 then ([],[],[2],decide (x.n=0\/x.n=1))
 else if x.op=3 then ([],[],[3],decide (0<=x.n/\x.n<=3652058))
 else if x.op=4 then ([],[],[if x.n=0\/x.n=1 then 3 else 1],decide (0<=x.n/\x.n<7))
 else if x.op=13 then ([],[],[],true)
 else if x.op=14 then ([2],[],[],true)
 else if x.op=5\/x.op=6\/x.op=7 then ([1,1],[],[1],decide (x.n=0))
 else if x.op=8 then ([1],[],[1],decide (x.n=0))
 else if x.op=9\/x.op=10\/x.op=11 then ([1,1],[3,3],[2],decide (x.n=0))
 else if x.op=12 then ([2],[],[2],decide (x.n=0))
 else if x.op=15\/x.op=16\/x.op=17\/x.op=18 then ([3,1],[],[3],decide (x.n=0))
 else if x.op=19\/x.op=20 then ([3],[],[3],decide (x.n=0))
 else if x.op=21\/x.op=22 then ([3,3],[],[3],decide (x.n=0))
 else if x.op=23 then ([3,3],[],[1],decide (x.n=0))
 else if x.op=24 then ([],[],[],decide (x.n=0))
 else ([],[],[],false)
def Zw8 (X:List Nat) (w:World) (x:Ins) (r:Value) (w':World):Prop:=∃ a b c,r=.tuple #[a,b,c,.B (ZC x).2.2.2]/\SlV X w' a (ZC x).1/\SlV X w' b (ZC x).2.1/\SlV X w' c (ZC x).2.2.1/\Stp [] w w'
theorem Z4x {X:List Nat} {w w':World} {x:Ins} {a b c:Value} {p ok:Bool} {ta al gi:List Int} (cZ:ZC x=(ta,al,gi,ok)) (hp:p=ok) (ha:SlV X w' a ta) (hb:SlV X w' b al) (hc:SlV X w' c gi) (hS:Stp [] w w'):Ret (Zw8 X w x) (.returned (.tuple #[a,b,c,.B p])) w':=by
 refine .mk ⟨a,b,c,?_,?_,?_,?_,hS⟩<;>rw [cZ];rw [hp];exact ha;exact hb;exact hc
theorem ZdW (X:List Nat) (x:Ins) (w:World) (gk:∀ b∈X,b<w.heap.size) (fy:opP x.op) :
 Calls Tryz.prog 297 #[agg x] w (Ret (Zw8 X w x)):=by
 refine cW1 117 Tryz.func297 ?_;refine W ?_;refine Z1 (Zp rfl) rfl ?_;rintro _ w0 ⟨b,rfl,hb,ac,hS⟩;replace ac:Blk w0 b _ [.I x.op,.I x.n]:=ac;have hX:∀ b∈X,b<w0.heap.size:=λb hb=>Xa (gk b hb) hS.size;refine W ?_;by_cases h1:x.op=1
 . have cZ:ZC x=([],[],[1],decide (-2147483647<=x.n/\x.n<=2147483647)):=by simp [ZC,h1]
   refine QO ?_;refine ZDr 13 [] [] [(1,0),(2,1),(3,0),(4,0),(5,0),(6,1),(7,0),(8,0),(9,0),(10,0),(0,2),(11,0),(12,0)] (λw1 ae=>?_);replace ac:=ac.up ae;replace hS:=hS.trans ae;replace hX:=λb hb=>Xa (hX b hb) ae.size
   (refine QE ?_ ?_<;>intro hg)
   all_goals
    refine Za rfl trivial (Z0 (vs:=[(0,.I 1)]) rfl (Zs _)) (λ_ _ h=>Z5.stp h) rfl ?_;rintro g wq hN;have s_g:SlV X wq g [(1:Int)]:=hN.slv hX rfl rfl (by simp [maxLen]);have hT:=Z5.stp hN;clear hN;replace ac:=ac.up hT;replace hS:=hS.trans hT;clear hT;refine D ?_;refine W ?_;refine Z4w rfl rfl rfl rfl rfl ?_;refine Z4x cZ ?_ (Zm _ _) (Zm _ _) (s_g) hS;first|rfl|(simp only [decide_eq_decide];omega)|(symm;simp only [decide_eq_true_eq,decide_eq_false_iff_not];omega)|(simp only [decide_eq_true_eq,decide_eq_false_iff_not];omega)
 by_cases h2:x.op=2
 . have cZ:ZC x=([],[],[2],decide (x.n=0\/x.n=1)):=by simp [ZC,h2]
   refine QO ?_;refine ZDr 13 [] [] [(1,0),(2,1),(3,0),(4,0),(5,0),(6,1),(7,0),(8,0),(9,0),(10,0),(0,2),(11,0),(12,0)] (λw1 ae=>?_);replace ac:=ac.up ae;replace hS:=hS.trans ae;replace hX:=λb hb=>Xa (hX b hb) ae.size
   (refine QE ?_ ?_<;>intro hg)
   all_goals
    refine Za rfl trivial (Z0 (vs:=[(0,.I 2)]) rfl (Zs _)) (λ_ _ h=>Z5.stp h) rfl ?_;rintro g wq hN;have s_g:SlV X wq g [(2:Int)]:=hN.slv hX rfl rfl (by simp [maxLen]);have hT:=Z5.stp hN;clear hN;replace ac:=ac.up hT;replace hS:=hS.trans hT;clear hT;refine D ?_;refine W ?_;refine Z4w rfl rfl rfl rfl rfl ?_;refine Z4x cZ ?_ (Zm _ _) (Zm _ _) (s_g) hS;first|rfl|(simp only [decide_eq_decide];omega)|(symm;simp only [decide_eq_true_eq,decide_eq_false_iff_not];omega)|(simp only [decide_eq_true_eq,decide_eq_false_iff_not];omega)
 by_cases h4:x.op=4;by_cases gX:x.n=0\/x.n=1
 . have cZ:ZC x=([],[],[3],decide (0<=x.n/\x.n<7)):=by simp [ZC,h4,gX]
   repeat'(first|refine W1 ?_|omega|refine VG ?_ ?_<;>intro hg|refine VC ?_ ?_<;>intro hc)
   all_goals
    refine ZDr 14 [] [] [(0,0),(2,0),(3,1),(4,0),(5,0),(6,0),(7,1),(8,0),(9,0),(10,0),(11,0),(1,2),(12,0),(13,0)] (λw1 ae=>?_);replace ac:=ac.up ae;replace hS:=hS.trans ae;replace hX:=λb hb=>Xa (hX b hb) ae.size;refine QD ?_
    all_goals
     refine Za rfl trivial (Z0 (vs:=[(0,.I 3)]) rfl (Zs _)) (λ_ _ h=>Z5.stp h) rfl ?_;rintro g wq hN;have s_g:SlV X wq g [(3:Int)]:=hN.slv hX rfl rfl (by simp [maxLen]);have hT:=Z5.stp hN;clear hN;replace ac:=ac.up hT;replace hS:=hS.trans hT;clear hT;refine D ?_;refine W ?_;refine Z4w rfl rfl rfl rfl rfl ?_;refine Z4x cZ ?_ (Zm _ _) (Zm _ _) (s_g) hS;first|rfl|(simp only [decide_eq_decide];omega)|(symm;simp only [decide_eq_true_eq,decide_eq_false_iff_not];omega)|(simp only [decide_eq_true_eq,decide_eq_false_iff_not];omega)
 . have cZ:ZC x=([],[],[1],decide (0<=x.n/\x.n<7)):=by simp [ZC,h4,gX]
   refine QO ?_
   all_goals
    refine ZDr 14 [] [] [(0,0),(2,0),(3,1),(4,0),(5,0),(6,0),(7,1),(8,0),(9,0),(10,0),(11,0),(1,2),(12,0),(13,0)] (λw1 ae=>?_);replace ac:=ac.up ae;replace hS:=hS.trans ae;replace hX:=λb hb=>Xa (hX b hb) ae.size
    (refine QE ?_ ?_<;>intro hg)
    all_goals
     refine Za rfl trivial (Z0 (vs:=[(0,.I 1)]) rfl (Zs _)) (λ_ _ h=>Z5.stp h) rfl ?_;rintro g wq hN;have s_g:SlV X wq g [(1:Int)]:=hN.slv hX rfl rfl (by simp [maxLen]);have hT:=Z5.stp hN;clear hN;replace ac:=ac.up hT;replace hS:=hS.trans hT;clear hT;refine D ?_;refine W ?_;refine Z4w rfl rfl rfl rfl rfl ?_;refine Z4x cZ ?_ (Zm _ _) (Zm _ _) (s_g) hS;first|rfl|(simp only [decide_eq_decide];omega)|(symm;simp only [decide_eq_true_eq,decide_eq_false_iff_not];omega)|(simp only [decide_eq_true_eq,decide_eq_false_iff_not];omega)
 by_cases qx:x.op=15
 . have cZ:ZC x=([3,1],[],[3],decide (x.n=0)):=by simp [ZC,qx]
   refine QO ?_
   all_goals
    refine Z1 (Z0 (vs:=[(0,.I 3),(1,.I 1)]) rfl (Z02 _ _)) rfl ?_;rintro t wq hN;have s_t:SlV X wq t [(3:Int),(1:Int)]:=hN.slv hX rfl rfl (by simp [maxLen]);have hT:=Z5.stp hN;clear hN;replace ac:=ac.up hT;replace hS:=hS.trans hT;replace hX:=λb hb=>Xa (hX b hb) hT.size;clear hT;refine Z1 (Z0 (vs:=[(0,.I 3)]) rfl (Zs _)) rfl ?_;rintro g wq hN;have s_g:SlV X wq g [(3:Int)]:=hN.slv hX rfl rfl (by simp [maxLen]);have hT:=Z5.stp hN;clear hN;replace ac:=ac.up hT;replace hS:=hS.trans hT;replace hX:=λb hb=>Xa (hX b hb) hT.size;replace s_t:=s_t.up hT;clear hT;refine W ?_;refine ZDr 10 [] [] [(0,0),(1,0),(2,0),(3,0),(4,1),(5,0),(6,0),(7,0),(8,0),(9,0)] (λw1 ae=>?_);replace ac:=ac.up ae;replace hS:=hS.trans ae;replace s_t:=s_t.up ae;replace s_g:=s_g.up ae;refine D ?_;refine W ?_;refine Z4w rfl rfl rfl rfl rfl ?_;refine Z4x cZ ?_ (s_t) (Zm _ _) (s_g) hS;first|rfl|(simp only [decide_eq_decide];omega)|(symm;simp only [decide_eq_true_eq,decide_eq_false_iff_not];omega)|(simp only [decide_eq_true_eq,decide_eq_false_iff_not];omega)
 by_cases cX:x.op=24;have cZ:ZC x=([],[],[],decide (x.n=0)):=by simp [ZC,cX]
 refine QO ?_;refine ZDr 10 [] [] [(0,0),(1,0),(2,0),(3,0),(4,1),(5,0),(6,0),(7,0),(8,0),(9,0)] (λw1 ae=>?_);replace ac:=ac.up ae;replace hS:=hS.trans ae;refine D ?_;refine W ?_;refine Z4w rfl rfl rfl rfl rfl ?_;refine Z4x cZ ?_ (Zm _ _) (Zm _ _) (Zm _ _) hS;first|rfl|(simp only [decide_eq_decide];omega)|(symm;simp only [decide_eq_true_eq,decide_eq_false_iff_not];omega)|(simp only [decide_eq_true_eq,decide_eq_false_iff_not];omega)
 exfalso;unfold opP at fy;omega
abbrev Shp:=List Int
def Ji (x:Ins) (s:Shp):Option Shp:=
 let e:=ZC x
 let k:=s.length - e.1.length
 if e.2.2.2=true/\e.1.length<=s.length/\(s.drop k=e.1\/e.2.1≠[]/\s.drop k=e.2.1)/\(s.take k++e.2.2.1).length<=16 then some (s.take k++e.2.2.1) else none
def JE (st:List (Option Shp)) (t:Int) (sh:Shp):Option (List (Option Shp)):=
 if 0<=t/\t<st.length then
  match st.getD t.toNat none with
  | some s=>if s=sh then some st else none
  | none=>some (st.set t.toNat (some sh))
 else none
def JM (st:List (Option Shp)) (i:Nat) (x:Ins):Option (List (Option Shp)):=
 match st.getD i none with
 | none=>none
 | some s=>
   match Ji x s with
   | none=>none
   | some nx=>
     if x.op=24 then (if i+1=st.length/\s.length=1 then some st else none)
     else if x.op=13 then (if x.n > i then JE st x.n nx else none)
     else if x.op=14 then (if x.n > i then (JE st x.n nx).bind (λst'=>JE st' ((i:Int)+1) nx) else none)
     else JE st ((i:Int)+1) nx
def Z3w (code:List Ins):Nat->List (Option Shp)->Option (List (Option Shp))
 | 0,st=>some st
 | k+1,st=>(Z3w code k st).bind (λst'=>JM st' k (code.getD k ⟨0,0⟩))
def Z24 (code:List Ins):Int×Int:=
 if code.length=0\/code.length > 200 then (0,22) else
  match Z3w code code.length ((some []) :: List.replicate (code.length - 1) none) with
  | none=>(0,22)
  | some st=>(((st.getD (code.length - 1) none).getD []).headD 0,0)
theorem Jz {st st':List (Option Shp)} {t:Int} {sh:Shp} (h:JE st t sh=some st'):st'.length=st.length:=by
 unfold JE at h;split at h;split at h;split at h;cases h;rfl;cases h;cases h;simp;cases h
end Go.Proofs.YtipfkbkkndacjaaGreatDoor
namespace Go.Eng
open Go Go.RowKit Go.Proofs
theorem Row.slvX {α:Type} [Z7 α] {X:List Nat} {w} {base T:Nat} {v:Value} {xs:List α} (h:Row X w base T v xs) (hX:∀ b∈X,b∉ob v):SlV X w v xs:=by
 obtain ⟨css,hl,hr,ho⟩:=h;have hk:∀ c∈css,c.length=Z7.k α:=by
  intro c hc;obtain ⟨i,hi,rfl⟩:=Xr hc;exact Z7.len (hr i (by omega) hi)
 rcases ho.2 with ⟨rfl,hn⟩|⟨q,cap,cur,rfl,hb,hg,cI,bR,bo,ht⟩
 exact ⟨none,0,by rw [hn],by omega,by simp [maxLen],λ_=>rfl,λi hi=>by omega⟩;refine ⟨some ⟨q,0,none⟩,cap,rfl,cI,bR,λh=>by simp at h,λi hi=>?_⟩;refine ⟨q,0,css[i]'(by omega),rfl,(Xm.1 hg).1,λhx=>hX q hx (by simp [ob]),?_,λj u hu=>?_⟩;exact Z7.ext (hr i hi (by omega)) (Stp.refl [] w) (by simp) (λb hb=>.inl (by simp [hb]));have h1:=Z0v css hk i (by omega) j u hu;rw [<- ht,Yaf] at h1;split at h1;have h2:cur[i * Z7.k α+j]?=some u:=by simpa using h1
 rw [XN,cell_of_row w q _ cur T (0,0) hg];exact h2;cases h1
end Go.Eng
namespace Go.Proofs.YtipfkbkkndacjaaGreatDoor
open Go Go.Eng Go.RowKit
abbrev Z0Y (st:List (Option Shp)):List (Sl Int):=st.map (λo=>⟨o.getD []⟩)
abbrev JW (st:List (Option Shp)):List Bool:=st.map Option.isSome
structure Vf (w:World) (bv base:Nat) (cv hv sv:Value) (code:List Ins) (st:List (Option Shp)):Prop where
 blk:Blk w bv 318 [cv,hv,sv]
 cod:SlV (bv :: (ob hv++ob sv)) w cv code
 shp:Row (bv :: ob sv) w base 23 hv (Z0Y st)
 seen:Row [] w base 4 sv (JW st)
 nh:bv∉ob hv
 ns:bv∉ob sv
 hi:base<=w.heap.size
 apart:∀ b∈ob hv,b∉ob sv
 len:st.length=code.length
theorem Vf.up {w w':World} {bv base:Nat} {cv hv sv:Value} {code:List Ins} {st:List (Option Shp)} (h:Vf w bv base cv hv sv code st) (hS:Stp [] w w'):Vf w' bv base cv hv sv code st:=
 ⟨h.blk.up hS,h.cod.up hS,h.shp.up hS,h.seen.up hS,h.nh,h.ns,Xg h.hi hS.size,h.apart,h.len⟩
theorem Z4y (bv base:Nat) (cv hv sv uv:Value) (code:List Ins) (st:List (Option Shp)) (t:Int) (s:Shp) (w) (h:Vf w bv base cv hv sv code st) (ht:0<=t) (hs:SlV (bv :: (ob hv++ob sv)) w uv s) :
 CC 300 #[pQ bv,.I t,uv] w λr w'=>Stp (bv :: (ob hv++ob sv)) w w'/\r=.B (JE st t s).isSome/\∀ st',JE st t s=some st'->Vf w' bv base cv hv sv code st':=by
 have ac:=h.blk;have mW:=h.cod;have aT:=mW.max;have ai:=h.len;have mX:=h.nh;have dD:=h.ns;have jj:=h.shp.slvX (λb hb=>by
  rcases Xb.1 hb with rfl|hb
  exact mX;exact λdz=>h.apart b dz hb)
 have ig:=h.seen.slv0;have fI:(Z0Y st).length=st.length:=by simp [Z0Y]
 have dS:(JW st).length=st.length:=by simp [JW]
 refine cW3 45 Tryz.func300 ?_;refine W ?_;by_cases ag:t<code.length
 case neg=>
  have hr:JE st t s=none:=by rw [JE,if_neg (by omega)]
  refine RT ?_;exact ⟨Stp.refl _ _,by rw [hr];rfl,λst' h=>by rw [hr] at h;cases h⟩
 obtain ⟨k,rfl⟩:∃ k:Nat,t=(k:Int):=⟨t.toNat,by omega⟩
 have hk:k<st.length:=by omega
 have bF:k<(Z0Y st).length:=by omega
 have de:k<(JW st).length:=by omega
 have jk:(JW st)[k]=(st[k]).isSome:=by simp [JW]
 have lD:st.getD ((k:Int)).toNat none=st[k]:=by simp [List.getD,hk]
 cases ay:st[k] with
 | some s0=>
   have aW:(JW st)[k]=true:=by rw [jk,ay];rfl
   have mY:JE st (k:Int) s=if s0=s then some st else none:=by
    rw [JE,if_pos (by omega),lD,ay]
   (refine QP ?_ ?_<;>intro hc)
   obtain ⟨u,au,fw⟩:=jj.sub bF;have qd:(Z0Y st)[k].l=s0:=by simp [Z0Y,ay]
   apply Z9 (JH rfl rfl au) rfl;refine W ?_;refine CM (Zg rfl rfl) (Z5i _ _ _ _ _ (fw.wk (by simp)) (hs.wk (by simp))) ?_;rintro _ w2 ⟨rfl,hS⟩;refine W ?_;refine WR ?_;rw [qd];refine .mk ⟨hS.mn,?_,λst' h'=>?_⟩;rw [mY];by_cases he:s0=s<;>simp [he];rw [mY] at h';split at h';cases h';exact h.up hS;cases h';rw [aW] at hc;exact absurd hc (by simp)
 | none=>
   have aW:(JW st)[k]=false:=by rw [jk,ay];rfl
   have mY:JE st (k:Int) s=some (st.set k (some s)):=by
    rw [JE,if_pos (by omega),lD,ay];simp
   (refine QP ?_ ?_<;>intro hc)
   rw [aW] at hc;exact absurd hc (by simp);refine Z7H 15 (ob hv++ob sv) [] [(0,0),(1,0),(2,0),(3,1),(4,0),(5,0),(6,0),(7,0),(8,1),(9,0),(10,0),(11,0),(12,2),(13,0),(14,2)] rfl mixed (by kernel_rfl) (by kernel_rfl) (by kernel_rfl) (λw1 ae=>?_);have nb:bv∉ob hv++ob sv:=λhb=>(Xi.1 hb).elim mX dD;replace ac:=ac.up ae;have qy:=ig.up ae;have sZ:=jj.up ae;have rs:=h.seen.up ae;have rh:=h.shp.up ae;refine D ?_
   try (refine J7 rfl trivial (λw' aU=>Jp rfl rfl (ac.ext aU nb) rfl) rfl ?_)
   refine D ?_
   try (refine J7 rfl trivial (λw' aU=>Jp rfl rfl (ac.ext aU nb) rfl) rfl ?_)
   refine D ?_;refine ZF rfl trivial (Z3S (α:=Bool) (y':=true) (u:=.B true) rfl rfl rfl rfl rs de) (λ_ _ h=>h.2.mono (by simp_all)) ?_;rintro _ w3 ⟨rs3,am⟩;replace rh:=rh.ext (X':=bv :: ob sv) am (λb hb=>⟨XJ _ hb,λdz=>h.apart b dz hb⟩) (λ_ h=>.inl h);have s4:=rh.slvX (λb hb=>by
    rcases Xb.1 hb with rfl|hb
    exact mX;exact λdz=>h.apart b dz hb)
   have cM:Stp (bv :: (ob hv++ob sv)) w w3:=ae.mn.trans (am.mono (λb hb=>by simp [hb]));have eN:=hs.ext cM (λ_ h=>h) (λ_ h=>.inl h);refine D ?_;refine ZF rfl trivial (Z3S (α:=Sl Int) (y':=⟨s⟩) (u:=uv) rfl rfl rfl ⟨uv,eN.cells,eN.wk (λb hb=>by simp at hb;rcases hb with h|h|h<;>simp [h])⟩ rh bF) (λ_ _ h=>h.2.mono (by simp_all)) ?_;rintro _ w4 ⟨rh4,aI⟩;refine D ?_;refine W ?_;refine WR ?_;have kH:Stp (bv :: (ob hv++ob sv)) w w4:=cM.trans (aI.mono (λb hb=>by simp [hb]));refine .mk ⟨kH,by rw [mY];rfl,λst' h'=>?_⟩;rw [mY] at h';cases h';have rs4:=rs3.keep aI (λb hb=>h.apart b hb);refine ⟨(ac.ext am dD).ext aI mX,h.cod.ext kH (λ_ h=>h) (λ_ h=>.inl h),?_,?_,mX,dD,Xg h.hi kH.size,h.apart,by simpa using h.len⟩;have e:Z0Y (st.set k (some s))=(Z0Y st).set k ⟨s⟩:=by simp [Z0Y,List.map_set]
   rw [e];exact rh4;have e:JW (st.set k (some s))=(JW st).set k true:=by simp [JW,List.map_set]
   rw [e];exact rs4
def okS (s:Shp):Prop:=∀ k∈s,k=1\/k=2\/k=3
theorem ZjD {s:Shp} (h:okS s) (k:Nat):okS (s.take k):=λa ha=>h a (Yas ha)
theorem ZmI {s t:Shp} (h:okS s) (h':okS t):okS (s++t):=λa ha=>(Xi.1 ha).elim (h a) (h' a)
theorem ZjE {op n:Int} (h:¬ (1<=op/\op<=24)):ZC ⟨op,n⟩=([],[],[],false):=by
 have h1:∀ k:Int,1<=k->k<=24->¬ op=k:=λk h1 h2 e=>h (by omega)
 simp only [ZC];rw [if_neg (h1 1 (by decide) (by decide))];rw [if_neg (h1 2 (by decide) (by decide))];rw [if_neg (h1 3 (by decide) (by decide))];rw [if_neg (h1 4 (by decide) (by decide))];rw [if_neg (h1 13 (by decide) (by decide))];rw [if_neg (h1 14 (by decide) (by decide))];rw [if_neg (not_or.2 ⟨h1 5 (by decide) (by decide),(not_or.2 ⟨h1 6 (by decide) (by decide),(h1 7 (by decide) (by decide))⟩)⟩)];rw [if_neg (h1 8 (by decide) (by decide))];rw [if_neg (not_or.2 ⟨h1 9 (by decide) (by decide),(not_or.2 ⟨h1 10 (by decide) (by decide),(h1 11 (by decide) (by decide))⟩)⟩)];rw [if_neg (h1 12 (by decide) (by decide))];rw [if_neg (not_or.2 ⟨h1 15 (by decide) (by decide),(not_or.2 ⟨h1 16 (by decide) (by decide),(not_or.2 ⟨h1 17 (by decide) (by decide),(h1 18 (by decide) (by decide))⟩)⟩)⟩)];rw [if_neg (not_or.2 ⟨h1 19 (by decide) (by decide),(h1 20 (by decide) (by decide))⟩)];rw [if_neg (not_or.2 ⟨h1 21 (by decide) (by decide),(h1 22 (by decide) (by decide))⟩)];rw [if_neg (h1 23 (by decide) (by decide))];rw [if_neg (h1 24 (by decide) (by decide))]
def Zcd (st:List (Option Shp)):Prop:=∀ s,some s∈st->okS s
theorem Zgd (x:Ins):okS (ZC x).2.2.1:=by
 obtain ⟨op,n⟩:=x;by_cases hr:1<=op/\op<=24;have hn:op=1\/op=2\/op=3\/op=4\/op=5\/op=6\/op=7\/op=8\/op=9\/op=10\/op=11\/op=12\/op=13\/op=14\/op=15\/op=16\/op=17\/op=18\/op=19\/op=20\/op=21\/op=22\/op=23\/op=24:=by omega
 rcases hn with rfl|rfl|rfl|rfl|rfl|rfl|rfl|rfl|rfl|rfl|rfl|rfl|rfl|rfl|rfl|rfl|rfl|rfl|rfl|rfl|rfl|rfl|rfl|rfl
 intro k hk;simp [ZC] at hk;omega;intro k hk;simp [ZC] at hk;omega;intro k hk;simp [ZC] at hk;omega;show okS [if n=0\/n=1 then 3 else 1];intro k hk;simp at hk;subst hk;split<;>simp;intro k hk;simp [ZC] at hk;omega;intro k hk;simp [ZC] at hk;omega;intro k hk;simp [ZC] at hk;omega;intro k hk;simp [ZC] at hk;omega;intro k hk;simp [ZC] at hk;omega;intro k hk;simp [ZC] at hk;omega;intro k hk;simp [ZC] at hk;omega;intro k hk;simp [ZC] at hk;omega;intro k hk;simp [ZC] at hk;intro k hk;simp [ZC] at hk;intro k hk;simp [ZC] at hk;omega;intro k hk;simp [ZC] at hk;omega;intro k hk;simp [ZC] at hk;omega;intro k hk;simp [ZC] at hk;omega;intro k hk;simp [ZC] at hk;omega;intro k hk;simp [ZC] at hk;omega;intro k hk;simp [ZC] at hk;omega;intro k hk;simp [ZC] at hk;omega;intro k hk;simp [ZC] at hk;omega;intro k hk;simp [ZC] at hk;rw [ZjE hr];intro k hk;simp at hk
theorem ZmJ {x:Ins} {s nx:Shp} (hs:okS s) (h:Ji x s=some nx):okS nx:=by
 unfold Ji at h;dsimp only at h;split at h;cases h;exact ZmI (ZjD hs _) (Zgd x);cases h
theorem Z5I {st st':List (Option Shp)} {t:Int} {nx:Shp} (ay:Zcd st) (hn:okS nx) (h:JE st t nx=some st'):Zcd st':=by
 unfold JE at h;split at h;split at h;split at h;cases h;exact ay;cases h;cases h;intro s hs;rcases List.mem_or_eq_of_mem_set hs with h|h
 exact ay s h;cases h;exact hn;cases h
theorem ZmK {st st':List (Option Shp)} {i:Nat} {x:Ins} (ay:Zcd st) (h:JM st i x=some st'):Zcd st'/\st'.length=st.length:=by
 unfold JM at h;split at h;cases h;rename_i s hs;have ba:okS s:=by
  refine ay s ?_;have hi:i<st.length:=Nat.lt_of_not_le λcO=>by simp [List.getD,Nat.not_lt.2 cO] at hs
  have:st.getD i none=st[i]:=by simp [List.getD,hi]
  rw [<- hs,this];exact Xd hi
 split at h;cases h;rename_i nx hn;have di:=ZmJ ba hn;split at h;split at h;cases h;exact ⟨ay,rfl⟩;cases h;split at h;split at h;exact ⟨Z5I ay di h,Jz h⟩;cases h;split at h;split at h;obtain ⟨s1,h1,h2⟩:=X0.1 h;exact ⟨Z5I (Z5I ay di h1) di h2,by rw [Jz h2,Jz h1]⟩;cases h;exact ⟨Z5I ay di h,Jz h⟩
theorem Z5j {st:List (Option Shp)} {t:Int} {nx:Shp} (h:¬ t<st.length):JE st t nx=none:=if_neg (λh'=>h h'.2)
theorem ZjF {code:List Ins} {st0:List (Option Shp)} (h0:Zcd st0):∀ k st,Z3w code k st0=some st->Zcd st/\st.length=st0.length
 | 0,st,h=>by cases h;exact ⟨h0,rfl⟩
 | k + 1, st, h => by
   obtain ⟨s1,h1,h2⟩:=X0.1 h;obtain ⟨a,b⟩:=ZjF h0 k s1 h1;obtain ⟨c,d⟩:=ZmK a h2;exact ⟨c,by omega⟩
theorem ZjG (p q:Option Addr) (l m c d:Nat) (w):(Instr.buildSlice 312 2 #[(0,.slice p l c),(1,.slice q m d)]).run Tryz.prog w=.ok (.slice (some ⟨w.heap.size,0,none⟩) 2 2) (w.alloc (.cells #[.slice p l c,.slice q m d] 23)):=by kernel_rfl
theorem Vf.shps {w} {bv base:Nat} {cv hv sv:Value} {code:List Ins} {st:List (Option Shp)} (h:Vf w bv base cv hv sv code st):SlV (bv :: ob sv) w hv (Z0Y st):=
 h.shp.slvX (λb hb=>by
  rcases Xb.1 hb with rfl|hb
  exact h.nh;exact λdz=>h.apart b dz hb)
theorem Vf.bounds {w} {bv base:Nat} {cv hv sv:Value} {code:List Ins} {st:List (Option Shp)} (h:Vf w bv base cv hv sv code st):∀ b∈bv :: (ob hv++ob sv),b<w.heap.size:=λb hb=>by
 have:=h.blk.lt;simp only [Xb,Xi] at hb;rcases hb with rfl|hb|hb
 omega;exact (h.shp.ob_le b hb).2;exact (h.seen.ob_le b hb).2
theorem ZmL (x:Ins):(ZC x).1.length<=2/\(ZC x).2.1.length<=2/\(ZC x).2.2.1.length<=1:=by
 obtain ⟨op,n⟩:=x;by_cases hr:1<=op/\op<=24;have hn:op=1\/op=2\/op=3\/op=4\/op=5\/op=6\/op=7\/op=8\/op=9\/op=10\/op=11\/op=12\/op=13\/op=14\/op=15\/op=16\/op=17\/op=18\/op=19\/op=20\/op=21\/op=22\/op=23\/op=24:=by omega
 rcases hn with rfl|rfl|rfl|rfl|rfl|rfl|rfl|rfl|rfl|rfl|rfl|rfl|rfl|rfl|rfl|rfl|rfl|rfl|rfl|rfl|rfl|rfl|rfl|rfl<;>simp [ZC]
 rw [ZjE hr];simp
theorem ZjH (bv base:Nat) (cv hv sv:Value) (code:List Ins) (st:List (Option Shp)) (i:Nat) (w) (h:Vf w bv base cv hv sv code st) (hi:i<code.length) (hn:code.length<=1000) (gq:∀ s,some s∈st->s.length<=16) (fy:opP code[i].op) :
 CC 250 #[pQ bv,.I (i:Int)] w λr w'=>Stp (bv :: (ob hv++ob sv)) w w'/\r=.B (JM st i code[i]).isSome/\∀ st',JM st i code[i]=some st'->Vf w' bv base cv hv sv code st':=by
 have ai:=h.len;have bF:i<(Z0Y st).length:=by simp [Z0Y];omega
 have de:i<(JW st).length:=by simp [JW];omega
 have mZ:i<st.length:=by omega
 refine cW2 140 Tryz.func250 ?_;refine W ?_;refine ZfX 17 ([w.heap.size]) [] [(0,0),(1,0),(2,0),(3,1),(4,0),(5,0),(6,1),(7,0),(8,0),(9,0),(10,1),(11,0),(12,0),(13,1),(14,2),(15,2),(16,0)] rfl mixed (by kernel_rfl) (by kernel_rfl) (by kernel_rfl) (λw1 ae fK=>?_);replace h:=h.up ae;have jQ:=h.bounds;have hX:∀ b∈bv :: (ob hv++ob sv),b∉[w.heap.size]:=λb hb dz=>by
  have:=jQ b hb;simp at dz;omega
 obtain ⟨cbl,io,bD⟩:Blk w1 bv 318 [cv,hv,sv]/\SlV [w.heap.size] w1 cv code/\SlV [w.heap.size] w1 hv (Z0Y st):=⟨h.blk,h.cod.ext (Stp.refl [] _) (by simp) (λb hb=>.inr (by simp at hb;omega)),h.shps.ext (Stp.refl [] _) (by simp) (λb hb=>.inr (by simp at hb;omega))⟩
 have nb:bv∉[w.heap.size]:=hX bv (by simp);obtain ⟨u,au,fw⟩:=bD.sub bF;refine D ?_;refine J7 rfl trivial (λw' aU=>JH rfl rfl (Z2j bD bF aU au)) rfl ?_;refine D ?_;refine Za rfl trivial ZfY (λ_ _ h=>h.2.2.mn) rfl ?_;rintro _ w2 ⟨rfl,ac,ah⟩;rw [fK] at ac ⊢;refine ZF rfl trivial (Zb (us:=Z3.enc code[i]) rfl rfl rfl rfl (Z3.one _) ac rfl) (λ_ _ h=>h.1) ?_;rintro _ w3 ⟨am,aK⟩;have cM:Stp [] w1 w3:=ah.ow am;replace h:=h.up cM;replace hS:=ae.trans cM;replace io:=h.cod;replace cbl:=h.blk;replace bD:=h.shps;have eP:=h.seen.slv0;replace jQ:=h.bounds;have m0:SlV [w.heap.size] w3 u (Z0Y st)[i].l:=fw.ext (ah.mn.trans am) (by simp) (λ_ h=>.inl h);clear ac ae cM ah am fw au;refine D ?_;refine W ?_;refine CM (ZP rfl) (ZdW (w.heap.size :: bv :: (ob hv++ob sv)) code[i] _ (λb hb=>by rcases Xb.1 hb with rfl|hb;exact aK.lt;exact jQ b hb) fy) ?_;rintro _ w4 ⟨va,vb,vc,rfl,sa,sb,sc,aI⟩;have ec:=m0.up aI;replace aK:=aK.up aI;replace h:=h.up aI;replace eP:=eP.up aI;replace hS:=hS.trans aI;replace cbl:=cbl.up aI;clear aI m0;have hM:JM st i code[i]=JM st i code[i]:=rfl
 conv at hM=>rhs;unfold JM Ji
 have lD:st.getD i none=st[i]:=by simp [List.getD,mZ]
 have dI:(Z0Y st)[i].l=(st[i]).getD []:=by simp [Z0Y]
 have jk:(JW st)[i]=(st[i]).isSome:=by simp [JW]
 rw [lD] at hM;have qz:(Z0Y st)[i].l.length<=16:=by
  rw [dI];cases ay:st[i] with
  | none=>simp
  | some s=>exact gq s (by rw [<- ay];exact Xd mZ)
 obtain ⟨el1,el2,el3⟩:=ZmL code[i];generalize ZC code[i]=E at *;obtain ⟨ta,al,gi,ok⟩:=E;dsimp only at sa sb sc el1 el2 el3 hM;generalize eE:(Z0Y st)[i].l=s at *;refine W ?_
 refine Z5C (σ:=Bool) (λq=>[(0,pQ bv),(1,.I (i:Int)),(4,.B false),(5,.pointer (some ⟨w.heap.size,0,none⟩)),(6,u),(9,vc),(11,.I ((s.length:Int) - (ta.length:Int))),(75,.B q)])
  (λq w'=>Stp [] w4 w'/\q=! (decide (st[i].isSome=true/\ok=true/\ta.length<=s.length/\(s.drop (s.length - ta.length)=ta\/al≠[]/\s.drop (s.length - ta.length)=al)))) ?_ ?_
 . cases ok with
   | false=>
     refine QO ?_;exact QT true ⟨Stp.refl _ _,by simp⟩
   | true=>
     cases ay:st[i].isSome with
     | false=>
       rw [ay] at jk;repeat'(first|refine W1 ?_|omega|refine VG ?_ ?_<;>intro hg|refine VC ?_ ?_<;>intro hc)
       exact QT true ⟨Stp.refl _ _,by simp⟩;exact QT true ⟨Stp.refl _ _,by simp⟩;exact absurd (show (!(JW st)[i])=false by assumption) (by rw [jk];decide)
     | true=>
       rw [ay] at jk;by_cases hk:ta.length<=s.length
       case neg=>
        (refine QP ?_ ?_<;>intro hg)
        exact absurd (show (!(JW st)[i])=true by assumption) (by rw [jk];decide);exact QT true ⟨Stp.refl _ _,by simp [hk]⟩
       have dT:(s.length:Int) - (ta.length:Int)=((s.length - ta.length:Nat):Int):=by omega
       have sd:SlV [w.heap.size] w4 (slc u (s.length - ta.length) s.length 1) (s.drop (s.length - ta.length)):=by
        have:=ec.slc (l:=s.length - ta.length) (r:=s.length) (by omega) (by omega);rw [Xo] at this;exact this
       (refine QP ?_ ?_<;>intro hg)
       exact absurd (show (!(JW st)[i])=true by assumption) (by rw [jk];decide);refine Z55 rfl ec rfl dT (by omega) rfl ?_;refine W ?_;refine CM (Zg rfl rfl) (Z5i _ _ _ _ _ (sd.wk (by simp)) (sa.wk (by simp))) ?_;rintro _ w5 ⟨rfl,aD⟩;replace sb:=sb.up aD;replace ec:=ec.up aD;replace sd:=sd.up aD;repeat'(first|refine W1 ?_|omega|refine VG ?_ ?_<;>intro hg|refine VC ?_ ?_<;>intro hc)
       have h1:¬ s.drop (s.length - ta.length)=ta:=by assumption
       have h2:(al.length:Int)=0:=by assumption
       have h3:al=[]:=Xw.1 (by omega);exact QT true ⟨aD,by simp [h1,h3]⟩;have h1:¬ s.drop (s.length - ta.length)=ta:=by assumption
       have h2:¬ (al.length:Int)=0:=by assumption
       have h3:al≠[]:=λh=>h2 (by simp [h])
       refine Z55 rfl ec rfl dT (by omega) rfl ?_;refine W ?_;refine CM (Zg rfl rfl) (Z5i _ _ _ _ _ (sd.wk (by simp)) (sb.wk (by simp))) ?_;rintro _ w6 ⟨rfl,dj⟩;refine W ?_;refine QT _ ⟨aD.trans dj,?_⟩;by_cases h4:s.drop (s.length - ta.length)=al<;>simp [h1,h3,h4,hk];have h1:s.drop (s.length - ta.length)=ta:=Classical.not_not.1 (by assumption);exact QT false ⟨aD,by simp [h1,hk]⟩
 rintro q w5 ⟨aD,hq⟩
 try dsimp only at hq ⊢
 replace ec:=ec.up aD;replace sc:=sc.up aD;replace aK:=aK.up aD;replace h:=h.up aD;replace cbl:=cbl.up aD;replace hS:=hS.trans aD;clear aD;by_cases hC:st[i].isSome=true/\ok=true/\ta.length<=s.length/\(s.drop (s.length - ta.length)=ta\/al≠[]/\s.drop (s.length - ta.length)=al)
 case neg=>
  obtain rfl:q=true:=by rw [hq,decide_eq_false hC];rfl
  have fi:JM st i code[i]=none:=by
   rw [hM];cases ay:st[i] with
   | none=>rfl
   | some s0=>
     obtain rfl:s=s0:=by rw [dI,ay];rfl
     dsimp only;rw [if_neg (λh=>hC ⟨by rw [ay];rfl,h.1,h.2.1,h.2.2.1⟩)]
  refine RT ?_;exact ⟨hS.mn,by rw [fi];rfl,λst' h=>by rw [fi] at h;cases h⟩
 obtain rfl:q=false:=by rw [hq,decide_eq_true hC];rfl
 obtain ⟨m5,aO,hk,uT⟩:=hC;have ay:st[i]=some s:=by
  cases ay:st[i] with
  | none=>rw [ay] at m5;cases m5
  | some s0=>rw [dI,ay];rfl
 rw [ay] at hM;dsimp only at hM;have dT:(s.length:Int) - (ta.length:Int)=((s.length - ta.length:Nat):Int):=by omega
 have sk:SlV [w.heap.size] w5 (slc u 0 (s.length - ta.length) 1) (s.take (s.length - ta.length)):=by
  have:=ec.slc (l:=0) (r:=s.length - ta.length) (by omega) (by omega);rw [Ybp] at this;exact this
 obtain ⟨p2,c2,gV⟩:=sk.len;obtain ⟨p3,c3,rfl⟩:=sc.len;refine W ?_;refine Zdm rfl ec rfl dT (by omega) rfl ?_;rw [gV] at sk ⊢;refine W ?_;refine Z1 (Z0 (vs:=[(0,.slice p2 (s.take (s.length - ta.length)).length c2),(1,.slice p3 gi.length c3)]) rfl (ZjG _ _ _ _ _ _)) rfl ?_;rintro bl w6 hN;have sbl:SlV [] w6 bl [(⟨s.take (s.length - ta.length)⟩:Sl Int),⟨gi⟩]:=hN.slvS (X:=[]) (by simp) rfl rfl (λi hi cQ=>match i,hi with|0,_=>sk.wk (by simp)|1,_=>sc.wk (by simp)) (by simp [maxLen]);have hT:=Z5.stp hN;clear hN;replace ec:=ec.up hT;replace aK:=aK.up hT;replace h:=h.up hT;replace cbl:=cbl.up hT;replace hS:=hS.trans hT;clear hT;refine CM (ZP rfl) (Zcc _ _ _ sbl (by simp) (by simp;omega)) ?_;rintro rv w7 ab;have qA:[(⟨s.take (s.length - ta.length)⟩:Sl Int),⟨gi⟩].flatMap Sl.l=s.take (s.length - ta.length)++gi:=by simp
 rw [qA] at ab;have aQ:=ab.2;have sr:=ab.slv h.bounds;replace ec:=ec.up aQ;replace aK:=aK.up aQ;replace h:=h.up aQ;replace cbl:=cbl.up aQ;replace hS:=hS.trans aQ;clear aQ ab;by_cases m6:(s.take (s.length - ta.length)++gi).length<=16
 case neg=>
  have fi:JM st i code[i]=none:=by
   rw [hM,if_neg (λh=>m6 h.2.2.2)]
  refine RT ?_;exact ⟨hS.mn,by rw [fi];rfl,λst' h=>by rw [fi] at h;cases h⟩
 rw [if_pos ⟨aO,hk,uT,m6⟩] at hM;dsimp only at hM;generalize s.take (s.length - ta.length)++gi=nx at *;have kg:=h.cod;by_cases cX:code[i].op=24;rw [if_pos cX] at hM
 (refine QP ?_ ?_<;>intro hg)
 refine WR ?_;by_cases fI:s.length=1;have hn:JM st i code[i]=some st:=by rw [hM,if_pos ⟨by omega,fI⟩]
 exact .mk ⟨hS.mn,by rw [hn];congr 1;exact decide_eq_true (by omega),λst' h'=>by rw [hn] at h';cases h';exact h⟩;have hn:JM st i code[i]=none:=by rw [hM,if_neg (λh=>fI h.2)]
 exact .mk ⟨hS.mn,by rw [hn];congr 1;exact decide_eq_false (by omega),λst' h'=>by rw [hn] at h';cases h'⟩;refine WR ?_;have hn:JM st i code[i]=none:=by rw [hM,if_neg (λh=>by omega)]
 exact .mk ⟨hS.mn,by rw [hn];rfl,λst' h=>by rw [hn] at h;cases h⟩;rw [if_neg cX] at hM;by_cases cT:code[i].op=13;rw [if_pos cT] at hM;by_cases iW:code[i].n > (i:Int);rw [if_pos iW] at hM;refine QO ?_;refine CM (ZY rfl rfl rfl) (Z4y bv base cv hv sv _ code st code[i].n nx _ h (by omega) sr) ?_;rintro _ w8 ⟨cG,rfl,hV⟩;refine W ?_;refine WR ?_;rw [<- hM] at hV;exact .mk ⟨hS.mn.trans cG,by rw [hM],hV⟩;rw [if_neg iW] at hM;refine RT ?_;exact ⟨hS.mn,by rw [hM];rfl,λst' h=>by rw [hM] at h;cases h⟩;rw [if_neg cT] at hM;by_cases dY:code[i].op=14;rw [if_pos dY] at hM;by_cases iW:code[i].n > (i:Int)
 . rw [if_pos iW] at hM
   refine QO ?_;refine CM (ZY rfl rfl rfl) (Z4y bv base cv hv sv _ code st code[i].n nx _ h (by omega) sr) ?_;rintro _ w8 ⟨cG,rfl,hV⟩;have sr8:=sr.ext (X':=bv :: (ob hv++ob sv)) cG (λ_ h=>h) (λ_ h=>.inl h);cases hr:JE st code[i].n nx with
   | none=>
     rw [hr] at hM;refine RT ?_;exact ⟨hS.mn.trans cG,by rw [hM];rfl,λst' h=>by rw [hM] at h;cases h⟩
   | some st1=>
     rw [hr] at hM;have h8:=hV st1 hr;refine W ?_;refine CM (ZY rfl rfl rfl) (Z4y bv base cv hv sv _ code st1 ((i:Int)+1) nx _ h8 (by omega) sr8) ?_;rintro _ w9 ⟨gg,rfl,uU⟩;refine RT ?_;exact ⟨(hS.mn.trans cG).trans gg,by rw [hM];rfl,λst' h=>uU st' (by rw [hM] at h;exact h)⟩
 rw [if_neg iW] at hM;refine RT ?_;exact ⟨hS.mn,by rw [hM];rfl,λst' h=>by rw [hM] at h;cases h⟩;rw [if_neg dY] at hM;refine QO ?_;refine CM (ZY rfl rfl rfl) (Z4y bv base cv hv sv _ code st ((i:Int)+1) nx _ h (by omega) sr) ?_;rintro _ w8 ⟨cG,rfl,hV⟩;refine W ?_;refine WR ?_;rw [<- hM] at hV;exact .mk ⟨hS.mn.trans cG,by rw [hM],hV⟩
theorem ZeW (p q r:Option Addr) (l m k c d f:Nat) (w):(Instr.build 318 #[(0,.slice p l c),(1,.slice q m d),(2,.slice r k f)]).run Tryz.prog w=.ok (.agg #[.slice p l c,.slice q m d,.slice r k f]) w:=by kernel_rfl
theorem ZjI {st st':List (Option Shp)} {i:Nat} {x:Ins} (h0:∀ s,some s∈st->s.length<=16) (h:JM st i x=some st'):∀ s,some s∈st'->s.length<=16:=by
 have hr:∀ {st st':List (Option Shp)} {t:Int} {nx:Shp},(∀ s,some s∈st->s.length<=16)->nx.length<=16->JE st t nx=some st'->∀ s,some s∈st'->s.length<=16:=by
  intro st st' t nx ay hn h;unfold JE at h;split at h;split at h;split at h;cases h;exact ay;cases h;cases h;intro s hs;rcases List.mem_or_eq_of_mem_set hs with h|h
  exact ay s h;cases h;exact hn;cases h
 have hn:∀ {s nx:Shp},Ji x s=some nx->nx.length<=16:=by
  intro s nx h;unfold Ji at h;dsimp only at h;split at h;rename_i hc;cases h;exact hc.2.2.2;cases h
 unfold JM at h;split at h;cases h;split at h;cases h;rename_i nx pC;have di:=hn pC;split at h;split at h;cases h;exact h0;cases h;split at h;split at h;exact hr h0 di h;cases h;split at h;split at h;obtain ⟨s1,h1,h2⟩:=X0.1 h;exact hr (hr h0 di h1) di h2;cases h;exact hr h0 di h
theorem Z9F {code:List Ins} {st0:List (Option Shp)} {k:Nat} (h:Z3w code k st0=none):∀ m,k<=m->Z3w code m st0=none
 | 0, hm => by
   obtain rfl:k=0:=by omega
   exact h
 | m + 1, hm => by
   by_cases hk:k=m+1;subst hk;exact h;rw [Z3w,Z9F h m (by omega)];rfl
theorem Z8g {code:List Ins} {st0:List (Option Shp)}:∀ {k:Nat} {st:List (Option Shp)},Z3w code k st0=some st->st.length=st0.length
 | 0,st,h=>by cases h;rfl
 | k + 1, st, h => by
   obtain ⟨s1,h1,h2⟩:=X0.1 h;have e1:=Z8g h1;have e2:st.length=s1.length:=by
    unfold JM at h2;split at h2;cases h2;split at h2;cases h2;split at h2;split at h2;cases h2;rfl;cases h2;split at h2;split at h2;exact Jz h2;cases h2;split at h2;split at h2;obtain ⟨s2,h3,h4⟩:=X0.1 h2;rw [Jz h4,Jz h3];cases h2;exact Jz h2
   omega
theorem Zge {st st':List (Option Shp)} {i:Nat} {x:Ins} (hi:i+1=st.length) (h:JM st i x=some st'):st'=st/\∃ k,st.getD i none=some [k]:=by
 unfold JM at h;cases hs:st.getD i none with
 | none=>rw [hs] at h;cases h
 | some s=>
   rw [hs] at h;dsimp only at h;split at h;cases h;rename_i nx hn;split at h;split at h;rename_i hc;cases h;obtain ⟨k,hk⟩:=Ybb.1 hc.2;exact ⟨rfl,k,by rw [hk]⟩;cases h;split at h;split at h;rw [Z5j (by omega)] at h;cases h;cases h;split at h;split at h;rw [Z5j (by omega)] at h;cases h;cases h;rw [Z5j (by omega)] at h;cases h
theorem Z8h (v:Value) (code:List Ins) (w) (hs:SlV [] w v code) (fy:∀ x∈code,opP x.op) :
 CC 190 #[v] w λr w'=>r=.tuple #[.I (Z24 code).1,.I (Z24 code).2]/\Stp [] w w':=by
 have aT:=hs.max;obtain ⟨p,c,rfl,-⟩:=id hs;refine cW1 49 Tryz.func190 ?_;refine W ?_;by_cases h0:code.length=0\/code.length > 200
 . have hM:Z24 code=(0,22):=if_pos h0
   repeat'(first|refine W1 ?_|omega|refine VG ?_ ?_<;>intro hg|refine VC ?_ ?_<;>intro hc)
   all_goals
    refine RU ?_;exact ⟨by rw [hM],Stp.refl _ _⟩
 refine QO ?_;have lR:0<code.length:=by omega
 have s5:code.length<=200:=by omega
 refine JJ (σ:=Nat×Value×Value) (λq=>[(0,.slice p code.length c),(4,.pointer (some ⟨q.1,0,none⟩))]) (λq w'=>Vf w' q.1 w.heap.size (.slice p code.length c) q.2.1 q.2.2 code (List.replicate code.length none)/\w.heap.size<=q.1/\Stp [] w w') ?_ ?_;refine ZDr 10 [] [] [(0,0),(1,0),(2,0),(4,0),(5,0),(3,9),(6,2),(7,0),(8,2),(9,0)] (λw1 ae=>?_);have fK:=ae.size;refine D ?_;apply ZiA;rfl;refine Z4i rfl trivial (Z1q (α:=Sl Int) (k:=code.length) (a0:=⟨[]⟩) rfl rfl (λX w=>⟨_,rfl,Zm _ _⟩) rfl rfl (by simp [maxLen];omega) (by omega)) (λ_ _ h=>h.2) rfl ?_;rintro hv w2 ⟨rh,ah⟩;refine D ?_;refine Za rfl trivial (Z1q (α:=Bool) (k:=code.length) (a0:=false) rfl rfl (λX w=>rfl) rfl rfl (by simp [maxLen];omega) (by omega)) (λ_ _ h=>h.2) rfl ?_;rintro sv w3 ⟨rs,am⟩;refine D ?_;obtain ⟨ph,ch,qB⟩:∃ p c,hv=.slice p code.length c:=by
  have:=((rh []).slv0).len;simpa using this
 obtain ⟨ps,cs,bK⟩:∃ p c,sv=.slice p code.length c:=by
  have:=((rs []).slv0).len;simpa using this
 have hap:∀ b∈ob hv,b∉ob sv:=λb h1 h2=>by
  have:=(rh []).ob_le b h1;have:=(rs []).ob_le b h2;omega
 subst qB bK;refine Z2D rfl trivial (vs:=[(0,.slice p code.length c),(1,.slice ph code.length ch),(2,.slice ps code.length cs)]) rfl (ZeW _ _ _ _ _ _ _ _ _) rfl ?_;refine Za rfl trivial (Zp rfl) (λ_ _ h=>h.choose_spec.2.2.2) rfl ?_;rintro _ w4 ⟨bv,rfl,lO,ac,aI⟩;have hS:=(ae.trans ah).trans (am.trans aI);have kI:=ah.size;have uV:=am.size;refine D ?_;refine QT (bv,.slice ph code.length ch,.slice ps code.length cs) ⟨?_,by omega,hS⟩;have b1:∀ b∈ob (.slice ph code.length ch),w.heap.size<=b/\b<w3.heap.size:=λb h=>by have:=(rh []).ob_le b h;omega
 have b2:∀ b∈ob (.slice ps code.length cs),w.heap.size<=b/\b<w3.heap.size:=λb h=>by have:=(rs []).ob_le b h;omega
 have e1:Z0Y (List.replicate code.length none)=List.replicate code.length ⟨[]⟩:=by simp [Z0Y]
 have e2:JW (List.replicate code.length none)=List.replicate code.length false:=by simp [JW]
 refine ⟨ac,hs.ext hS (by simp) (λb hb=>.inr ?_),by rw [e1];exact ((rh _).lower ae.size).up (am.trans aI),by rw [e2];exact ((rs _).lower (Xg ae.size ah.size)).up aI,λh=>by have:=b1 bv h;omega,λh=>by have:=b2 bv h;omega,hS.size,hap,by simp⟩;simp only [Xb,Xi] at hb;rcases hb with rfl|h|h
 omega;exact (b1 b h).1;exact (b2 b h).1;refine Z4i rfl trivial (Z1q (α:=Bool) (k:=code.length) (a0:=false) rfl rfl (λX w=>rfl) rfl rfl (by simp [maxLen];omega) (by omega)) (λ_ _ h=>h.2) rfl ?_;rintro sv w2 ⟨rs,ah⟩;refine Za rfl trivial (Z1q (α:=Sl Int) (k:=code.length) (a0:=⟨[]⟩) rfl rfl (λX w=>⟨_,rfl,Zm _ _⟩) rfl rfl (by simp [maxLen];omega) (by omega)) (λ_ _ h=>h.2) rfl ?_;rintro hv w3 ⟨rh,am⟩;refine D ?_;obtain ⟨ph,ch,qB⟩:∃ p c,hv=.slice p code.length c:=by
  have:=((rh []).slv0).len;simpa using this
 obtain ⟨ps,cs,bK⟩:∃ p c,sv=.slice p code.length c:=by
  have:=((rs []).slv0).len;simpa using this
 have hap:∀ b∈ob hv,b∉ob sv:=λb h1 h2=>by
  have:=(rh []).ob_le b h1;have:=(rs []).ob_le b h2;omega
 subst qB bK;refine Z2D rfl trivial (vs:=[(0,.slice p code.length c),(1,.slice ph code.length ch),(2,.slice ps code.length cs)]) rfl (ZeW _ _ _ _ _ _ _ _ _) rfl ?_;refine Za rfl trivial (Zp rfl) (λ_ _ h=>h.choose_spec.2.2.2) rfl ?_;rintro _ w4 ⟨bv,rfl,lO,ac,aI⟩;have hS:=(ae.trans ah).trans (am.trans aI);have kI:=ah.size;have uV:=am.size;refine D ?_;refine QT (bv,.slice ph code.length ch,.slice ps code.length cs) ⟨?_,by omega,hS⟩;have b1:∀ b∈ob (.slice ph code.length ch),w.heap.size<=b/\b<w3.heap.size:=λb h=>by have:=(rh []).ob_le b h;omega
 have b2:∀ b∈ob (.slice ps code.length cs),w.heap.size<=b/\b<w3.heap.size:=λb h=>by have:=(rs []).ob_le b h;omega
 have e1:Z0Y (List.replicate code.length none)=List.replicate code.length ⟨[]⟩:=by simp [Z0Y]
 have e2:JW (List.replicate code.length none)=List.replicate code.length false:=by simp [JW]
 refine ⟨ac,hs.ext hS (by simp) (λb hb=>.inr ?_),by rw [e1];exact ((rh _).lower (Xg ae.size ah.size)).up aI,by rw [e2];exact ((rs _).lower ae.size).up (am.trans aI),λh=>by have:=b1 bv h;omega,λh=>by have:=b2 bv h;omega,hS.size,hap,by simp⟩;simp only [Xb,Xi] at hb;rcases hb with rfl|h|h
 omega;exact (b1 b h).1;exact (b2 b h).1;rintro ⟨bv,hv,sv⟩ w2 ⟨h,lO,hS⟩;dsimp only at h lO ⊢;have ac:=h.blk;have eP:=h.seen.slv0;have cR:(JW (List.replicate code.length none)).length=code.length:=by simp [JW]
 have fc:0<(JW (List.replicate code.length none)).length:=by omega
 refine W ?_;refine Z4 (Z3S (α:=Bool) (y':=true) (u:=.B true) rfl rfl rfl rfl h.seen fc) ?_;rintro _ w3 ⟨rs3,am⟩;have cM:Stp (bv :: (ob hv++ob sv)) w2 w3:=am.mono (λb hb=>by simp [hb]);generalize it:(some [] :: List.replicate (code.length - 1) none:List (Option Shp))=st0 at *;have dL:st0.length=code.length:=by rw [<- it];simp;omega
 obtain ⟨m,hm⟩:∃ m,code.length=m+1:=⟨code.length - 1,by omega⟩
 have e1:Z0Y st0=Z0Y (List.replicate code.length none):=by rw [<- it,hm];simp [Z0Y,Yay]
 have e2:JW st0=(JW (List.replicate code.length none)).set 0 true:=by rw [<- it,hm];simp [JW,Yay]
 have h3:Vf w3 bv w.heap.size (.slice p code.length c) hv sv code st0:=by
  refine ⟨h.blk.ext am h.ns,h.cod.ext cM (λ_ h=>h) (λ_ h=>.inl h),?_,?_,h.nh,h.ns,Xg h.hi am.size,h.apart,dL⟩;rw [e1];exact h.shp.ext (X':=bv :: ob sv) am (λb hb=>⟨XJ _ hb,λdz=>h.apart b dz hb⟩) (λ_ h=>.inl h);rw [e2];exact rs3
 have hB:∀ b∈bv :: (ob hv++ob sv),w.heap.size<=b:=λb hb=>by
  simp only [Xb,Xi] at hb;rcases hb with rfl|hb|hb
  exact lO;exact (h.shp.ob_le b hb).1;exact (h.seen.ob_le b hb).1
 have aU:=hS.own cM (λb hb=>.inr (hB b hb));have qC:∀ s,some s∈st0->s.length<=16:=by
  intro s hs;rw [<- it] at hs;simp at hs;rw [hs];simp
 have jT:Z24 code=match Z3w code code.length st0 with
  | none=>(0,22)
  | some st=>(((st.getD (code.length - 1) none).getD []).headD 0,0):=by
  rw [<- it];exact if_neg h0
 clear eP ac h e1 e2 am cM rs3 hS;refine W ?_
 refine Zt (σ:=Nat×List (Option Shp)) (λq=>[(0,.slice p code.length c),(4,pQ bv),(29,.I (code.length:Int)),(30,.I (q.1:Int))])
  (λq w'=>q.1<=code.length/\Z3w code q.1 st0=some q.2/\Vf w' bv w.heap.size (.slice p code.length c) hv sv code q.2/\(∀ s,some s∈q.2->s.length<=16)/\Stp [] w w') (λq=>code.length - q.1) (0,st0) ⟨rfl,rfl,rfl,rfl,trivial⟩ ⟨Xq _,rfl,h3,qC,aU⟩ ?_
 rintro ⟨k,st⟩ w4 ⟨hk,bh,h4,gq,aI⟩
 try dsimp only at hk bh h4 gq ⊢
 by_cases ag:k<code.length
 . refine QO ?_
   refine CM (Zg rfl rfl) (ZjH bv w.heap.size _ hv sv code st k _ h4 ag (by omega) gq (fy _ (Xd ag))) ?_;rintro _ w5 ⟨aD,rfl,hV⟩;replace aD:=aI.own aD (λb hb=>.inr (hB b hb));have uW:code.getD k ⟨0,0⟩=code[k]:=by simp [List.getD,ag]
   have dM:Z3w code (k+1) st0=JM st k code[k]:=by rw [Z3w,bh,XS,uW]
   cases ay:JM st k code[k] with
   | none=>
     have hn:Z24 code=(0,22):=by rw [jT,Z9F (dM.trans ay) code.length ag]
     refine RT ?_;exact ⟨by rw [hn],aD⟩
   | some st1=>
     refine W ?_;exact QL (k+1,st1) ⟨ag,dM.trans ay,hV st1 ay,ZjI gq ay,aD⟩ (XE ag (XP k))
 obtain rfl:k=code.length:=by omega
 have uX:=Z8g bh;have dN:∃ a,st.getD (code.length - 1) none=some [a]:=by
  rw [hm,Z3w] at bh;obtain ⟨s1,r1,r2⟩:=X0.1 bh;have fI:=Z8g r1;obtain ⟨rfl,a,ha⟩:=Zge (by omega) r2;exact ⟨a,by rw [hm];exact ha⟩
 obtain ⟨a,ha⟩:=dN;have uY:Z24 code=(a,0):=by rw [jT,bh];dsimp only;rw [ha];rfl
 have ac:=h4.blk;have jj:=h4.shps;have uZ:(Z0Y st).length=code.length:=by simp [Z0Y];omega
 have gE:m<(Z0Y st).length:=by omega
 have dT:(code.length:Int) - 1=(m:Int):=by omega
 obtain ⟨u,au,fw⟩:=jj.sub gE;have eo:(Z0Y st)[m].l=[a]:=by
  have:st.getD m none=some [a]:=by rw [<- ha,hm];rfl
  have h2:st.getD m none=st[m]'(by omega):=by simp [List.getD,show m<st.length by omega]
  have h5:(Z0Y st)[m]=⟨(st[m]'(by omega)).getD []⟩:=by simp [Z0Y]
  rw [h5,<- h2,this];rfl
 rw [eo] at fw;refine QO ?_;apply Z9 (JH rfl rfl au) rfl;have gX:0 < [a].length:=by simp
 refine RT ?_;exact ⟨by rw [uY];rfl,aI⟩
open Go Go.Eng Go.RowKit Go.Proofs Go.ChangeShapes Go.WideShapes Go.Deep
theorem ZwQ:ownKnob Tryz.prog.godebug=none:=by kernel_rfl
theorem Zw9:laidOutB Tryz.prog=true:=by kernel_rfl
section
variable {H:Type} {enc:TypeId×Value->H} {w:World} {base:Nat} {spare:Nat->Bool} {gF:Bool}
theorem Zwa {r:Reach} {b0:Nat} {v:Value} {d:DataW H} {p:List MemPlace} (hv:Value.okWide Tryz.prog w r b0 3 v) (h:DataW.Trod enc Tryz.prog w base spare gF 3 v d p):∃ z:Int,v=.I z/\I64 z:=by
 obtain ⟨z,rfl,_,_,hw⟩:=open_int Tryz.underlying3 hv h;exact ⟨z,rfl,by simpa [I64,Lit.wf,IntKind.min,IntKind.max,IntKind.signed,IntKind.bits] using hw⟩
theorem Zta {r:Reach} {b0:Nat} {v:Value} {d:DataW H} {p:List MemPlace} (hv:Value.okWide Tryz.prog w r b0 23 v) (h:DataW.Trod enc Tryz.prog w base spare gF 23 v d p) :
 ∃ l:List Int,SlV [] w v l/\(∀ x∈l,I64 x)/\Zmy d=l.length:=by
 obtain ⟨fuel,h⟩:=h;obtain ⟨u,l,hu,hs,aO,fJ⟩:=Zjo Tryz.underlying23 (by kernel_rfl) Tryz.underlying3 h;obtain ⟨a,m,c,rfl⟩:=okWide_slice Tryz.underlying23 hv;have vd:Value.slice a m c=u:=by simpa [Value.cells] using hu
 subst vd;exact ⟨l,hs,aO,fJ⟩
end
end Go.Proofs.YtipfkbkkndacjaaGreatDoor
namespace Go.Eng
open Go Go.RowKit
variable {X:List Nat} {w w':World} {base T:Nat} {v:Value} {zs ys:List Int}
def ZjJ (w:World) (base T:Nat) (v:Value) (zs:List Int):Prop:=(v=.N/\zs=[])\/∃ g cap cur,v=.slice (some ⟨g,0,none⟩) zs.length cap/\base<=g/\w.heap[g]?=some (.cells cur T (0,0))/\zs.length<=cap/\cap<=maxLen/\cur.size=cap/\cur.toList.take zs.length=zs.map (Value.int .i64)
theorem Row.toI (h:Row X w base T v zs):ZjJ w base T v zs:=by
 obtain ⟨css,hl,hr,hx,ho⟩:=h;have hc:css=zs.map (λx=>[Value.int .i64 x]):=by
  apply YaE (by simpa using hl);intro i h1 h2;have:css[i]=[Value.int .i64 zs[i]]:=hr i (by omega) h1;simp [this]
 rcases ho with ⟨rfl,hn⟩|⟨g,cap,cur,rfl,hb,hg,cI,bR,bo,ht⟩
 exact .inl ⟨rfl,Xw.1 hn⟩
 . refine .inr ⟨g,cap,cur,rfl,hb,hg,cI,bR,by simpa [Z7.k,Z3.k] using bo,?_⟩
   have h2:cur.toList.take (zs.length * 1)=css.flatten:=ht;rw [YaQ] at h2;rw [h2,hc];clear h2 ht hx hr hl hc cI hg bo
   induction zs with
   | nil=>rfl
   | cons a l ih=>simp at ih ⊢;exact ih
theorem ZjJ.toRow (h:ZjJ w base T v zs):Row X w base T v zs:=by
 rcases h with ⟨rfl,rfl⟩|⟨g,cap,cur,rfl,hb,hg,cI,bR,bo,ht⟩
 exact Row.nil
 . refine ⟨zs.map (λx=>[Value.int .i64 x]),by simp,λi h1 h2=>by simp;rfl,?_⟩
   have hf:(zs.map (λx=>[Value.int .i64 x])).flatten=zs.map (Value.int .i64):=by
    clear ht cI
    induction zs with
    | nil=>rfl
    | cons a l ih=>simp at ih ⊢;exact ih
   rw [hf];refine ⟨by simp [Z7.k,Z3.k],.inr ⟨g,cap,cur,rfl,hb,hg,cI,bR,by simpa [Z7.k,Z3.k] using bo,by simpa [Z7.k,Z3.k] using ht⟩⟩
theorem ZaL {zs:List Int} (hs:zs.Pairwise (·<=·)):(Lib.compact zs).Pairwise (· < ·)/\∀ y,y∈Lib.compact zs↔y∈zs:=by
 have hd:∀ i j,i<=j->j<zs.length->zs.toArray[i]!<=zs.toArray[j]!:=by
  intro i j dC hj;rcases Nat.lt_or_eq_of_le dC with h|rfl
  have:=Yam.1 hs i j (by omega) hj h;simpa [getElem!_pos,hj,show i<zs.length by omega] using this;exact YaY _
 have key:∀ m,m<=zs.length->(Lib.compactUpTo zs.toArray m).Pairwise (· < ·)/\∀ y,y∈Lib.compactUpTo zs.toArray m↔∃ i,i<m/\y=zs.toArray[i]!:=by
  intro m
  induction m with
  | zero=>intro _;refine ⟨by simp [Lib.compactUpTo],λy=>by simp [Lib.compactUpTo]⟩
  | succ m ih=>
    intro hm;obtain ⟨i1,i2⟩:=ih (by omega);rw [Lib.compactUpTo_succ];by_cases hk:Lib.keeps zs.toArray m=true;rw [if_pos hk];refine ⟨Ybh.2 ⟨i1,List.pairwise_singleton _ _,λa ha b hb=>?_⟩,λy=>?_⟩;obtain ⟨i,hi,rfl⟩:=(i2 a).1 ha;rw [Xk.1 hb];have oF:m=0\/zs.toArray[m]!≠zs.toArray[m - 1]!:=by simpa [Lib.keeps] using hk
    have h1:=hd i (m - 1) (by omega) (by omega);have h2:=hd (m - 1) m (by omega) (by omega);have h3:=oF.resolve_left (by omega);omega;rw [Xi,i2,Xk];constructor;rintro (⟨i,hi,rfl⟩|rfl);exact ⟨i,by omega,rfl⟩;exact ⟨m,by omega,rfl⟩;rintro ⟨i,hi,rfl⟩;by_cases cQ:i<m;exact .inl ⟨i,cQ,rfl⟩;exact .inr (by rw [show i=m by omega]);rw [if_neg hk,XD];have oF:¬ (m=0\/zs.toArray[m]!≠zs.toArray[m - 1]!):=by simpa [Lib.keeps] using hk
    have og:m≠0:=λh=>oF (.inl h);have he:zs.toArray[m]! = zs.toArray[m - 1]!:=Decidable.byContradiction λh=>oF (.inr h);refine ⟨i1,λy=>?_⟩;rw [i2];constructor;rintro ⟨i,hi,rfl⟩;exact ⟨i,by omega,rfl⟩;rintro ⟨i,hi,rfl⟩;by_cases cQ:i<m;exact ⟨i,cQ,rfl⟩;exact ⟨m - 1,by omega,by rw [show i=m by omega,he]⟩
 obtain ⟨h1,h2⟩:=key zs.length (Xn _);refine ⟨h1,λy=>?_⟩;show y∈Lib.compactUpTo zs.toArray zs.length↔_;rw [h2];constructor;rintro ⟨i,hi,rfl⟩;simp [getElem!_pos,hi];intro h;obtain ⟨i,hi,rfl⟩:=Xr h;exact ⟨i,hi,by simp [getElem!_pos,hi]⟩
def Z3r (zs:List Int):List Int:=Lib.compact (zs.mergeSort λx y=>decide (x<=y))
theorem Z3f (zs:List Int):(Z3r zs).Pairwise (· < ·)/\∀ y,y∈Z3r zs↔y∈zs:=by
 have hp:(zs.mergeSort λx y=>decide (x<=y)).Pairwise (·<=·):=by
  have:=List.pairwise_mergeSort (le:=λ(x y:Int)=>decide (x<=y)) (λa b c h1 h2=>by simp at *;omega) (λa b=>by simp;omega) zs;exact this.imp (λh=>by simpa using h)
 obtain ⟨h1,h2⟩:=ZaL hp;exact ⟨h1,λy=>by unfold Z3r;rw [h2];exact (List.mergeSort_perm zs _).mem_iff⟩
theorem Zce {g q:Nat} {cur:Array Value} (os:Array Obj) (h:w.heap[g]?=some (.cells cur T (0,0))) (hl:ys.length<=cur.size) :
 Stp [g] w (Go.Sort.grow (Go.Sort.putRow (Value.int .i64) (Go.Sort.ahead w q) g 0 ys.toArray) os)/\
 ∃ cur',(Go.Sort.grow (Go.Sort.putRow (Value.int .i64) (Go.Sort.ahead w q) g 0 ys.toArray) os).heap[g]?=some (.cells cur' T (0,0))/\cur'.size=cur.size/\cur'.toList.take ys.length=ys.map (Value.int .i64):=by
 have ag:g<w.heap.size:=(Xm.1 h).1;have hh:(Go.Sort.grow (Go.Sort.putRow (Value.int .i64) (Go.Sort.ahead w q) g 0 ys.toArray) os).heap=w.heap.modify g (Go.Sort.onCells (Go.Sort.putCells (Value.int .i64) 0 ys.toArray))++os:=rfl;refine ⟨⟨rfl,rfl,rfl,by rw [hh];simp,λb hb hn=>?_⟩,Go.Sort.putCells (Value.int .i64) 0 ys.toArray cur,?_,by simp [Go.Sort.putCells],?_⟩;rw [hh,XX (by simpa using hb),YaV,if_neg (by simp at hn;exact λe=>hn e.symm)];rw [hh,XX (by simpa using ag),YaV,if_pos rfl,h];rfl;apply YaE;simp [Go.Sort.putCells];omega;intro i h1 h2;have hi:i<ys.length:=by simpa using h2
 simp [Go.Sort.putCells,hi]
theorem Z9G {g:Nat} {cur:Array Value} (h:w.heap[g]?=some (.cells cur T (0,0))) (ht:cur.toList.take zs.length=zs.map (Value.int .i64)):Go.Sort.Holds (Value.int .i64) w g 0 zs.toArray:=by
 intro j hj;have ga:j<zs.length:=by simpa using hj
 have hc:cur[j]?=some (.I zs[j]):=by
  have h1:(cur.toList.take zs.length)[j]?=some (.I zs[j]):=by rw [ht];simp [ga]
  rw [Yaf,if_pos ga] at h1;simpa using h1
 constructor;simp [World.cell?,h,hc,ga];simp [World.frozen?,h]
end Go.Eng
namespace Go.Proofs.YtipfkbkkndacjaaGreatDoor
open Go Go.Eng Go.RowKit
theorem Zcf {X:List Nat} {base T:Nat} {v:Value} {zs:List Int} (w) (h:Row X w base T v zs) (bI:zs.length<4611686018427387904) :
 CC 259 #[v] w λr w'=>r=.tuple #[]/\Row X w' base T v (zs.mergeSort λx y=>decide (x<=y))/\Stp (ob v) w w':=by
 rcases h.toI with ⟨rfl,rfl⟩|⟨g,cap,cur,rfl,hb,hg,cI,bR,bo,ht⟩
 refine (Tryz.slices_Sort_int_none none 0 w).mono ?_;rintro _ _ ⟨rfl,rfl⟩;exact .mk ⟨rfl,by simpa using Row.nil,Stp.refl _ _⟩;have ag:g<w.heap.size:=(Xm.1 hg).1;refine (Tryz.slices_Sort_int g 0 cap zs w (Z9G hg ht) ag bI).mono ?_;rintro _ _ ⟨rfl,q,os,rfl⟩;have hl:(zs.mergeSort λx y=>decide (x<=y)).length=zs.length:=Ybf zs;obtain ⟨hS,cur',h1,h2,h3⟩:=Zce (q:=q) os hg (ys:=zs.mergeSort λx y=>decide (x<=y)) (by omega);refine .mk ⟨rfl,ZjJ.toRow (.inr ⟨g,cap,cur',by rw [hl],hb,h1,by omega,bR,by omega,h3⟩),hS⟩
theorem Z73 {X:List Nat} {base T:Nat} {v:Value} {zs:List Int} (w) (h:Row X w base T v zs) (bI:zs.length<=9223372036854775807) :
 CC 260 #[v] w λr w'=>Row X w' base T r (Lib.compact zs)/\Stp (ob v) w w'/\ob r=ob v:=by
 rcases h.toI with ⟨rfl,rfl⟩|⟨g,cap,cur,rfl,hb,hg,cI,bR,bo,ht⟩
 refine (Tryz.slices_Compact_int_empty none 0 w).mono ?_;rintro _ _ ⟨rfl,rfl⟩;exact .mk ⟨by rw [show Lib.compact ([]:List Int)=[] from rfl];exact Row.nil,Stp.refl _ _,rfl⟩;refine (Tryz.slices_Compact_int g 0 cap zs w (Z9G hg ht) bI cI).mono ?_;rintro _ _ ⟨rfl,q,rfl⟩;have aL:(Lib.compact zs).length<=zs.length:=by
  unfold Lib.compact Lib.compactUpTo;rw [Xt];exact Xg (XZ _ _) (by simp)
 have e:∀ W:World,W=Go.Sort.grow W #[]:=λW=>by simp [Go.Sort.grow]
 rw [e (Go.Sort.putRow _ _ _ _ _)];obtain ⟨hS,cur',h1,h2,h3⟩:=Zce (q:=q) #[] hg (ys:=Lib.compact zs++List.replicate (zs.length - (Lib.compact zs).length) 0) (by simp;omega);refine .mk ⟨ZjJ.toRow (.inr ⟨g,cap,cur',rfl,hb,h1,by omega,bR,by omega,?_⟩),hS,rfl⟩;have h4:=congrArg (List.take (Lib.compact zs).length) h3;rw [YaG,Yae (by simp)] at h4;rw [h4];simp
theorem Z8i (s:Str) (y:Int):((ZR s).2.2=true/\y=(ZR s).1)↔∃ i,i<7/\s=Zf.getD i []/\y=(i:Int):=by
 by_cases h0:s=[100,97,121]
 subst h0;have e:ZR [100,97,121]=(0,3,true):=by decide +kernel
 have u:∀ i,i<7->[100,97,121]=Zf.getD i []->i=0:=by decide +kernel
 rw [e];constructor;rintro ⟨-,rfl⟩;exact ⟨0,by decide,by decide +kernel,rfl⟩;rintro ⟨i,hi,he,rfl⟩;rw [u i hi he];exact ⟨rfl,rfl⟩;by_cases h1:s=[115,101,114,118,101,100]
 subst h1;have e:ZR [115,101,114,118,101,100]=(1,3,true):=by decide +kernel
 have u:∀ i,i<7->[115,101,114,118,101,100]=Zf.getD i []->i=1:=by decide +kernel
 rw [e];constructor;rintro ⟨-,rfl⟩;exact ⟨1,by decide,by decide +kernel,rfl⟩;rintro ⟨i,hi,he,rfl⟩;rw [u i hi he];exact ⟨rfl,rfl⟩;by_cases h2:s=[101,120,116,114,97]
 subst h2;have e:ZR [101,120,116,114,97]=(2,1,true):=by decide +kernel
 have u:∀ i,i<7->[101,120,116,114,97]=Zf.getD i []->i=2:=by decide +kernel
 rw [e];constructor;rintro ⟨-,rfl⟩;exact ⟨2,by decide,by decide +kernel,rfl⟩;rintro ⟨i,hi,he,rfl⟩;rw [u i hi he];exact ⟨rfl,rfl⟩;by_cases h3:s=[98,121]
 subst h3;have e:ZR [98,121]=(3,1,true):=by decide +kernel
 have u:∀ i,i<7->[98,121]=Zf.getD i []->i=3:=by decide +kernel
 rw [e];constructor;rintro ⟨-,rfl⟩;exact ⟨3,by decide,by decide +kernel,rfl⟩;rintro ⟨i,hi,he,rfl⟩;rw [u i hi he];exact ⟨rfl,rfl⟩;by_cases h4:s=[116,111]
 subst h4;have e:ZR [116,111]=(4,1,true):=by decide +kernel
 have u:∀ i,i<7->[116,111]=Zf.getD i []->i=4:=by decide +kernel
 rw [e];constructor;rintro ⟨-,rfl⟩;exact ⟨4,by decide,by decide +kernel,rfl⟩;rintro ⟨i,hi,he,rfl⟩;rw [u i hi he];exact ⟨rfl,rfl⟩;by_cases h5:s=[99,111,117,114,116]
 subst h5;have e:ZR [99,111,117,114,116]=(5,1,true):=by decide +kernel
 have u:∀ i,i<7->[99,111,117,114,116]=Zf.getD i []->i=5:=by decide +kernel
 rw [e];constructor;rintro ⟨-,rfl⟩;exact ⟨5,by decide,by decide +kernel,rfl⟩;rintro ⟨i,hi,he,rfl⟩;rw [u i hi he];exact ⟨rfl,rfl⟩;by_cases h6:s=[97,109,111,117,110,116]
 subst h6;have e:ZR [97,109,111,117,110,116]=(6,1,true):=by decide +kernel
 have u:∀ i,i<7->[97,109,111,117,110,116]=Zf.getD i []->i=6:=by decide +kernel
 rw [e];constructor;rintro ⟨-,rfl⟩;exact ⟨6,by decide,by decide +kernel,rfl⟩;rintro ⟨i,hi,he,rfl⟩;rw [u i hi he];exact ⟨rfl,rfl⟩;constructor;rintro ⟨h,-⟩;exfalso;have hn:Zf.findIdx? (isS s)=none:=Yab.2 λx hx=>by
  simp only [Zf,Xb,Xj,or_false] at hx;rcases hx with rfl|rfl|rfl|rfl|rfl|rfl|rfl<;>simp only [isS,decide_eq_false_iff_not]<;>intro e<;>first|exact (absurd e h0)|exact (absurd e.symm h0)|exact (absurd e h1)|exact (absurd e.symm h1)|exact (absurd e h2)|exact (absurd e.symm h2)|exact (absurd e h3)|exact (absurd e.symm h3)|exact (absurd e h4)|exact (absurd e.symm h4)|exact (absurd e h5)|exact (absurd e.symm h5)|exact (absurd e h6)|exact (absurd e.symm h6)|skip
 simp [ZR,idx,hn] at h
 . rintro ⟨i,hi,he,-⟩
   exfalso
   match i,hi with
   | 0,_=>exact h0 he
   | 1,_=>exact h1 he
   | 2,_=>exact h2 he
   | 3,_=>exact h3 he
   | 4,_=>exact h4 he
   | 5,_=>exact h5 he
   | 6,_=>exact h6 he
theorem ZjK (a o:Str) (k n:Int) (s:Str) (p:Option Addr) (l c:Nat) (k' n':Int) (s':Str) (p':Option Addr) (l' c':Nat) (w):(Instr.build 99 #[(0,str a),(2,str o),(3,.agg #[.I k,.I n,str s,.slice p l c]),(4,.agg #[.I k',.I n',str s',.slice p' l' c'])]).run Tryz.prog w=.ok (.agg #[str a,.I 0,str o,.I k,.I n,str s,.slice p l c,.I k',.I n',str s',.slice p' l' c',str [],str []]) w:=by kernel_rfl
theorem Z6p {x y:Nd} (h:Ze x≠0) (hy:y∈x.kids):Ze y≠0:=by
 intro h0;apply h;rw [Z0N];unfold JB;split;rfl;rw [if_pos (by rw [<- h0];exact Yaj hy)]
def Seg (C:List Ins) (p:Nat) (c:List Ins):Prop:=∃ A B,C=A++c++B/\A.length=p
theorem Seg.left {C a b:List Ins} {p:Nat} (h:Seg C p (a++b)):Seg C p a:=by
 obtain ⟨A,B,rfl,hp⟩:=h;exact ⟨A,b++B,by simp,hp⟩
theorem Seg.right {C a b:List Ins} {p:Nat} (h:Seg C p (a++b)):Seg C (p+a.length) b:=by
 obtain ⟨A,B,rfl,hp⟩:=h;exact ⟨A++a,B,by simp,by simp [hp]⟩
theorem Seg.at {C r:List Ins} {x:Ins} {p:Nat} (h:Seg C p (x :: r)):C.getD p ⟨0,0⟩=x:=by
 obtain ⟨A,B,rfl,hp⟩:=h;subst hp;simp
def Z5J (C:List Ins):Nat->Nat->List (Option Shp)->Option (List (Option Shp))
 | _,0,st=>some st
 | p,k+1,st=>(JM st p (C.getD p ⟨0,0⟩)).bind (Z5J C (p+1) k)
theorem Z1w (C:List Ins) (b:Nat):∀ (a p:Nat) (st:List (Option Shp)),Z5J C p (a+b) st=(Z5J C p a st).bind (Z5J C (p+a) b)
 | 0,p,st=>by simp [Z5J]
 | a + 1, p, st => by
   rw [show a+1+b=(a+b)+1 by omega,Z5J,Z5J];cases h:JM st p (C.getD p ⟨0,0⟩) with
   | none=>rfl
   | some st'=>
     simp only [XS];rw [Z1w C b a (p+1) st',show p+1+a=p+(a+1) by omega]
theorem Z3V (C:List Ins) (p:Nat) (st:List (Option Shp)):Z5J C p 1 st=JM st p (C.getD p ⟨0,0⟩):=by
 rw [Z5J];cases JM st p (C.getD p ⟨0,0⟩)<;>rfl
theorem Z9H (C:List Ins) (st:List (Option Shp)):∀ k:Nat,Z3w C k st=Z5J C 0 k st
 | 0=>rfl
 | k + 1 => by
   rw [Z3w,Z1w,Z9H C st k];cases Z5J C 0 k st with
   | none=>rfl
   | some st'=>simp only [XS,XN];rw [Z3V]
def Z2N (C:List Ins) (p:Nat) (c:List Ins) (s s':Shp):Prop:=
 ∀ st : List (Option Shp), st.length = C.length -> p + c.length < C.length -> st[p]? = some (some s) -> (∀ i, p < i -> i < p + c.length -> st[i]? = some none)->
   (st[p+c.length]?=some none\/st[p+c.length]?=some (some s'))->
   ∃ st',Z5J C p c.length st=some st'/\st'.length=C.length/\st'[p+c.length]?=some (some s')/\∀ i,p+c.length<i->st'[i]?=st[i]?
theorem ZaM {st:List (Option Shp)} {t:Nat} {sh:Shp} (h:t<st.length) (h2:st[t]?=some none\/st[t]?=some (some sh)) :
 ∃ st',JE st (t:Int) sh=some st'/\st'.length=st.length/\st'[t]?=some (some sh)/\∀ i,i≠t->st'[i]?=st[i]?:=by
 unfold JE;rw [if_pos (by omega),Ybv,XC];rcases h2 with h2|h2
 rw [h2];exact ⟨_,rfl,by simp,by simp [h],λi hi=>List.getElem?_set_ne (λe=>hi e.symm)⟩;rw [h2];simp only [YaD,if_pos];exact ⟨_,rfl,rfl,h2,λ_ _=>rfl⟩
theorem Z2N.app {C a b:List Ins} {p:Nat} {s s1 s2:Shp} (ha:Z2N C p a s s1) (hb:Z2N C (p+a.length) b s1 s2) (h1:a≠[]) (h2:b≠[]):Z2N C p (a++b) s s2:=by
 intro st hl ag h0 hn hq;have l1:=XW.2 h1;have l2:=XW.2 h2;simp only [Xc] at ag hn hq ⊢;obtain ⟨st1,r1,e1,e2,e3⟩:=ha st hl (by omega) h0 (λi hi cp=>hn i hi (by omega)) (.inl (hn _ (by omega) (by omega)));obtain ⟨st2,r2,g1,g2,g3⟩:=hb st1 e1 (by omega) e2 (λi hi cp=>by rw [e3 i hi];exact hn i (by omega) (by omega)) (by rw [e3 _ (by omega),YaB];exact hq);refine ⟨st2,by rw [Z1w,r1];exact r2,g1,by rw [<- YaB];exact g2,λi hi=>by rw [g3 i (by omega),e3 i (by omega)]⟩
theorem Z5K {C:List Ins} {p:Nat} {x:Ins} {s s':Shp} (hs:Seg C p [x]) (h1:x.op≠24) (h2:x.op≠13) (h3:x.op≠14) (hx:Ji x s=some s'):Z2N C p [x] s s':=by
 intro st hl ag h0 hn hq;simp only [Xe,Xf,XN] at ag hq ⊢;obtain ⟨st',r1,r2,r3,r4⟩:=ZaM (st:=st) (t:=p+1) (sh:=s') (by omega) hq;refine ⟨st',?_,by omega,r3,λi hi=>r4 i (by omega)⟩;rw [Z3V,hs.at];unfold JM;rw [XC,h0];simp only [YaD,hx];rw [if_neg h1,if_neg h2,if_neg h3];exact r1
def Z74 (b:Nat):List Ins->Shp->Option Shp
 | [],s=>some s
 | x :: r, s => match Ji x s with
   | none=>none
   | some s'=>if s'.length<=b then Z74 b r s' else none
theorem Z25 {x:Ins} {ts r s:Shp} (h:Ji x ts=some r) (hl:s.length+r.length<=16):Ji x (s++ts)=some (s++r):=by
 unfold Ji at h ⊢;dsimp only at h ⊢;split at h;rename_i hc;obtain ⟨c1,c2,c3,c4⟩:=hc;simp only [XI] at h;have e1:(s++ts).length - (ZC x).1.length=s.length+(ts.length - (ZC x).1.length):=by rw [Xc];omega
 have e2:(s++ts).drop (s.length+(ts.length - (ZC x).1.length))=ts.drop (ts.length - (ZC x).1.length):=by
  rw [List.drop_append,List.drop_of_length_le (by omega),XT];congr 1;omega
 have e3:(s++ts).take (s.length+(ts.length - (ZC x).1.length))=s++ts.take (ts.length - (ZC x).1.length):=by
  rw [YaC,XH (by omega),show s.length+(ts.length - (ZC x).1.length) - s.length=ts.length - (ZC x).1.length by omega]
 rw [e1,e2,e3];have e4:s++ts.take (ts.length - (ZC x).1.length)++(ZC x).2.2.1=s++r:=by rw [Xy,h]
 rw [e4,if_pos ⟨c1,by rw [Xc];omega,c3,by rw [Xc];omega⟩];cases h
theorem Z9I {C:List Ins} (b:Nat):∀ (L:List Ins) (p:Nat) (s ts r:Shp),L≠[]->Seg C p L->(∀ x∈L,x.op≠24/\x.op≠13/\x.op≠14)->Z74 b L ts=some r->s.length+b<=16->Z2N C p L (s++ts) (s++r)
 | [],_,_,_,_,h,_,_,_,_=>absurd rfl h
 | [x], p, s, ts, r, _, hs, ho, hf, hb => by
   obtain ⟨o1,o2,o3⟩:=ho x (by simp);unfold Z74 at hf;cases hx:Ji x ts with
   | none=>rw [hx] at hf;cases hf
   | some s1=>
     rw [hx] at hf;simp only at hf;split at hf;rename_i hl;simp only [Z74,XI] at hf;subst hf;exact Z5K hs o1 o2 o3 (Z25 hx (by omega));cases hf
 | x :: y :: L, p, s, ts, r, _, hs, ho, hf, hb => by
   obtain ⟨o1,o2,o3⟩:=ho x (by simp);rw [Z74] at hf;cases hx:Ji x ts with
   | none=>rw [hx] at hf;cases hf
   | some s1=>
     rw [hx] at hf;simp only at hf;split at hf;rename_i hl;have cn:Seg C p ([x]++(y :: L)):=hs;exact Z2N.app (a:=[x]) (Z5K cn.left o1 o2 o3 (Z25 hx (by omega))) (Z9I b (y :: L) _ s s1 r (by simp) cn.right (λz hz=>ho z (by simp [hz])) hf hb) (by simp) (by simp);cases hf
theorem ZaN {C Lc Ly Ln:List Ins} {p:Nat} {s s':Shp} (t1 t2:Int)
 (hs:Seg C p (Lc++[⟨14,t1⟩]++Ly++[⟨13,t2⟩]++Ln)) (qD:t1=((p+Lc.length+1+Ly.length+1:Nat):Int)) (lS:t2=((p+Lc.length+1+Ly.length+1+Ln.length:Nat):Int))
 (hc:Z2N C p Lc s (s++[2])) (hy:Z2N C (p+Lc.length+1) Ly s s') (hn:Z2N C (p+Lc.length+1+Ly.length+1) Ln s s') (h1:Lc≠[]) (h2:Ly≠[]) (h3:Ln≠[]) (hl:s.length<=16) (dW:s'.length<=16) :
 Z2N C p (Lc++[⟨14,t1⟩]++Ly++[⟨13,t2⟩]++Ln) s s':=by
 intro st ai ag h0 bg hq;have l1:=XW.2 h1;have l2:=XW.2 h2;have l3:=XW.2 h3;have dL:(Lc++[(⟨14,t1⟩:Ins)]++Ly++[(⟨13,t2⟩:Ins)]++Ln).length=Lc.length+(1+(Ly.length+(1+Ln.length))):=by simp only [Xc,Xe,Xf];omega
 rw [dL] at ag bg hq ⊢;have g14:C.getD (p+Lc.length) ⟨0,0⟩=⟨14,t1⟩:=(show Seg C (p+Lc.length) (⟨14,t1⟩ :: (Ly++[⟨13,t2⟩]++Ln)) from (show Seg C p (Lc++(⟨14,t1⟩ :: (Ly++[⟨13,t2⟩]++Ln))) by simpa using hs).right).at;have g13:C.getD (p+Lc.length+1+Ly.length) ⟨0,0⟩=⟨13,t2⟩:=by
  have h:=(show Seg C p ((Lc++[⟨14,t1⟩]++Ly)++(⟨13,t2⟩ :: Ln)) by simpa using hs).right.at;rw [<- h];congr 1;simp only [Xc,Xe,Xf];omega
 obtain ⟨st1,r1,e1,e2,e3⟩:=hc st ai (by omega) h0 (λi hi cp=>bg i hi (by omega)) (.inl (bg _ (by omega) (by omega)));have n14:Ji ⟨14,t1⟩ (s++[2])=some s:=by
  have:=Z25 (x:=⟨14,t1⟩) (ts:=[2]) (r:=[]) (s:=s) (by simp [Ji,ZC]) (by simpa using hl);simpa using this
 obtain ⟨st2,q1,q2,q3,q4⟩:=ZaM (st:=st1) (t:=p+Lc.length+1+Ly.length+1) (sh:=s) (by omega) (.inl (by rw [e3 _ (by omega)];exact bg _ (by omega) (by omega)));obtain ⟨st3,u1,u2,u3,u4⟩:=ZaM (st:=st2) (t:=p+Lc.length+1) (sh:=s) (by omega) (.inl (by rw [q4 _ (by omega),e3 _ (by omega)];exact bg _ (by omega) (by omega)));have s14:Z5J C (p+Lc.length) 1 st1=some st3:=by
  rw [Z3V,g14];unfold JM;rw [XC,e2];simp only [YaD,n14];rw [if_neg (by simp),if_neg (by simp),if_pos trivial,if_pos (by omega),qD,q1];simp only [XS];rw [<- u1];congr 1
 obtain ⟨st4,v1,v2,v3,v4⟩:=hy st3 (by omega) (by omega) u3 (λi hi cp=>by rw [u4 i (by omega),q4 i (by omega),e3 i (by omega)];exact bg i (by omega) (by omega)) (.inl (by rw [u4 _ (by omega),q4 _ (by omega),e3 _ (by omega)];exact bg _ (by omega) (by omega)));have n13:Ji ⟨13,t2⟩ s'=some s':=by
  simp [Ji,ZC,dW]
 have oq:st4[p+Lc.length+1+Ly.length+1+Ln.length]?=st[p+(Lc.length+(1+(Ly.length+(1+Ln.length))))]?:=by
  rw [v4 _ (by omega),u4 _ (by omega),q4 _ (by omega),e3 _ (by omega)];congr 1;omega
 obtain ⟨st5,w1,w2,w3,w4⟩:=ZaM (st:=st4) (t:=p+Lc.length+1+Ly.length+1+Ln.length) (sh:=s') (by omega) (by rw [oq];exact hq);have s13:Z5J C (p+Lc.length+1+Ly.length) 1 st4=some st5:=by
  rw [Z3V,g13];unfold JM;rw [XC,v3];simp only [YaD,n13];rw [if_neg (by simp),if_pos trivial,if_pos (by omega),lS,w1]
 obtain ⟨st6,x1,x2,x3,x4⟩:=hn st5 (by omega) (by omega) (by rw [w4 _ (by omega),v4 _ (by omega),u4 _ (by omega)];exact q3) (λi hi cp=>by rw [w4 i (by omega),v4 i (by omega),u4 i (by omega),q4 i (by omega),e3 i (by omega)];exact bg i (by omega) (by omega)) (.inr w3);refine ⟨st6,?_,x2,?_,λi hi=>by rw [x4 i (by omega),w4 i (by omega),v4 i (by omega),u4 i (by omega),q4 i (by omega),e3 i (by omega)]⟩;rw [Z1w,r1,XS,Z1w,s14,XS,Z1w,v1,XS,Z1w,s13,XS];exact x1;rw [<- x3];congr 1;omega
theorem ZmM {x:Sig} (h:Z3I x≠0):(x,Value.int .i64 (Z3I x))∈Z3H:=by
 have hs:=ZbB x;unfold Z3I ZfG Z3E at *;cases hf:Z3H.find? (λp=>decide (p.1=x)) with
 | none=>rw [hf] at h;simp at h
 | some p=>
   have h1:=X5 hf;have h2:=Ybk hf;simp only [decide_eq_true_eq] at h2;rw [hf] at hs;simp only at hs ⊢;exact (congrArg (·∈Z3H) (Prod.ext h2 hs:p=(x,_))).mp h1
theorem Zgf {x:Sig} (h:Z3I x≠0):∃ e∈Z3H,x=e.1/\e.2=.I (Z3I x):=⟨_,ZmM h,rfl,rfl⟩
theorem Zo9 {ts:List Int} (h0:(0:Int)∉ts) (h3:ts.length<=3) (hn:ts≠[]) (h2:ts.getD 2 0=0):(ts.getD 1 0=0/\ts=[ts.getD 0 0])\/(ts.getD 1 0≠0/\ts=[ts.getD 0 0,ts.getD 1 0]):=by
 match ts,h3 with
 | [],_=>exact absurd rfl hn
 | [a],_=>left;exact ⟨rfl,rfl⟩
 | [a,b],_=>right;refine ⟨λhb=>h0 ?_,rfl⟩;simp at hb;simp [hb]
 | [a,b,c],_=>exact absurd (by simp at h2;simp [h2]) h0
theorem Z75 {k n:Int} {s:Str} {ts:List Int} (h:JB k n s ts≠0) :
 (ts=[]/\JB k n s ts=Z0M k n s)\/
 ((0:Int)∉ts/\ts.length<=3/\ts≠[]/\((k=9/\ts=[2,JB k n s ts,JB k n s ts])\/(k=6/\ts.getD 2 0=0/\JB k n s ts=Z1Y s (ts.getD 0 0) (ts.getD 1 0))\/(JB k n s ts=Z3I ⟨k,s,ts.getD 0 0,ts.getD 1 0,ts.getD 2 0⟩))):=by
 unfold JB at h ⊢;split at h;exact absurd rfl h;rename_i h3;split at h;exact absurd rfl h;rename_i h0;rw [if_neg h3,if_neg h0];split at h;rename_i he
 left;exact ⟨he,by rw [if_pos he]⟩;rename_i he
 right;rw [if_neg he];refine ⟨h0,by omega,he,?_⟩;split at h;exact absurd rfl h;rename_i hn;rw [if_neg hn];split at h
 . rename_i h9
   left;rw [if_pos h9];refine ⟨h9.1,?_⟩;obtain ⟨_,_,e2,e3⟩:=h9
   match ts,h3 with
   | [],_=>exact absurd rfl he
   | [a],_=>simp at e2 e3 h
   | [a,b],_=>simp at e2 e3 h;exact absurd e3 h
   | [a,b,c],_=>simp at e2 e3 ⊢;exact ⟨e2,e3.symm⟩
   | a :: b :: c :: d :: r,h3=>simp at h3
 rename_i h9;rw [if_neg h9];split at h;rename_i h6
 right;left;rw [if_pos h6];exact ⟨h6.1,h6.2,rfl⟩;rename_i h6
 right;right;rw [if_neg h6]
theorem ZmN {α:Type} {l:List α} (h:l.length=2):∃ a b,l=[a,b]:=by
 match l,h with
 | [a,b],_=>exact ⟨a,b,rfl⟩
theorem ZmO {α:Type} {l:List α} (h:l.length=3):∃ a b c,l=[a,b,c]:=by
 match l,h with
 | [a,b,c],_=>exact ⟨a,b,c,rfl⟩
theorem Zcg (x:Nd):Ze x≠0->∀ p,Zd x p≠[]:=by
 induction x using Nd.ind with
 | h k n s l ih=>
 intro ht p;have hk:∀ y∈l,Ze y≠0:=λy hy=>Z6p (x:=.mk k n s l) ht hy;rw [Zd];unfold Z1h;have hp:∀ p,l≠[]->Z0H k s (l.map Zd) p≠[]:=by
  intro p hl;unfold Z0H;cases l with
  | nil=>exact absurd rfl hl
  | cons y r=>
    have:=ih y (by simp) (hk y (by simp)) p;simp only [Xs,Jq];intro h;simp only [Ybc] at h;exact this h.1.1.1
 split;simp;rename_i hl;have dW:l≠[]:=λh=>hl (by rw [h];rfl)
 split;unfold chC;simp;split;unfold chC;simp;split;unfold chC;simp;split;simp;exact hp p dW
theorem Zch {C:List Ins}:∀ (l:List Nd),(∀ y∈l,∀ p s,Seg C p (Zd y p)->s.length+Zz y<=16->Z2N C p (Zd y p) s (s++[Ze y]))->(∀ y∈l,∀ p,Zd y p≠[])->
 ∀ p s,l≠[]->Seg C p (Jq (l.map Zd) p)->(∀ y∈l,s.length+(l.length - 1)+Zz y<=16)->Z2N C p (Jq (l.map Zd) p) s (s++l.map Ze)
 | [],_,_,_,_,h,_,_=>absurd rfl h
 | [y], hr, aR, p, s, _, hs, hb => by
   have e:Jq ([y].map Zd) p=Zd y p:=by simp [Jq]
   rw [e] at hs ⊢;exact hr y (by simp) p s hs (by have:=hb y (by simp);simpa using this)
 | y :: z :: l, hr, aR, p, s, _, hs, hb => by
   have e:Jq ((y :: z :: l).map Zd) p=Zd y p++Jq ((z :: l).map Zd) (p+(Zd y p).length):=by simp [Jq]
   rw [e] at hs ⊢;have h1:=hr y (by simp) p s hs.left (by have:=hb y (by simp);omega);have h2:=Zch (z :: l) (λy hy=>hr y (by simp [hy])) (λy hy=>aR y (by simp [hy])) (p+(Zd y p).length) (s++[Ze y]) (by simp) hs.right (λw hw=>by
    have:=hb w (by simp [hw]);simp only [Xc,Xe,Xf] at this ⊢;omega)
   have h3:Jq ((z :: l).map Zd) (p+(Zd y p).length)≠[]:=by
    simp only [Xs,Jq];intro h;simp only [Ybc] at h;exact aR z (by simp) _ h.1
   have:=Z2N.app h1 h2 (aR y (by simp) p) h3;simpa using this
theorem Z26 {C:List Ins} {l:List Nd} {L:List Ins} {p:Nat} {s ts r:Shp} (hr:∀ y∈l,∀ p s,Seg C p (Zd y p)->s.length+Zz y<=16->Z2N C p (Zd y p) s (s++[Ze y])) (aR:∀ y∈l,∀ p,Zd y p≠[])
 (cg:l.map Ze=ts) (hl:l≠[]) (hL:L≠[]) (hs:Seg C p (Jq (l.map Zd) p++L)) (hb:∀ y∈l,s.length+(l.length - 1)+Zz y<=16) (ho:∀ x∈L,x.op≠24/\x.op≠13/\x.op≠14) (hf:Z74 2 L ts=some r) (h2:s.length+2<=16) :
 Z2N C p (Jq (l.map Zd) p++L) s (s++r):=by
 have h1:=Zch l hr aR p s hl hs.left hb;rw [cg] at h1;have h3:Jq (l.map Zd) p≠[]:=by
  cases l with
  | nil=>exact absurd rfl hl
  | cons y l=>
    simp only [Xs,Jq];intro h;simp only [Ybc] at h;exact aR y (by simp) _ h.1
 exact Z2N.app h1 (Z9I 2 L _ s ts r hL hs.right ho hf h2) h3 hL
def Z3W (k:Int) (s:Str):List Ins:=(if k=8\/k=5/\s=[45] then [⟨8,0⟩] else [])++Z2h (opF s)
theorem Z2O (k:Int) (s:Str) (cs:List Cf) (p:Nat):Z0H k s cs p=Jq cs p++Z3W k s:=by unfold Z0H Z3W;rw [Xy]
def okL (L:List Ins) (ts:List Int) (t:Int):Bool:=decide (L≠[]) && L.all (λx=>decide (x.op≠24/\x.op≠13/\x.op≠14)) && decide (Z74 2 L ts=some [t])
theorem Z5L {L:List Ins} {ts:List Int} {t:Int} (h:okL L ts t=true):L≠[]/\(∀ x∈L,x.op≠24/\x.op≠13/\x.op≠14)/\Z74 2 L ts=some [t]:=by
 unfold okL at h;simp only [Xl,decide_eq_true_eq,XV] at h;exact ⟨h.1.1,h.1.2,h.2⟩
def Zoa (e:ZiM):Bool:=
 match e.2 with
 | .I t=>decide (e.1.kind≠9) && decide (e.1.kind≠6) && decide (e.1.c=0) && okL (Z3W e.1.kind e.1.s) (if e.1.b=0 then [e.1.a] else [e.1.a,e.1.b]) t
 | _=>false
theorem ZmP:Z3H.all Zoa=true:=by decide +kernel
theorem ZjL:Z0f.all (λs=>okL (Z3W 6 s++(if s=[45] then [⟨6,0⟩] else [])) [1,1] 1 && !decide (s=[97,110,100]) && !decide (s=[111,114]))=true:=by decide +kernel
theorem ZmQ:Z2g.all (λs=>okL (Z3W 6 s) [1,1] 2 && okL (Z3W 6 s) [3,3] 2 && !decide (s=[97,110,100]) && !decide (s=[111,114]) && !decide (s=[45]))=true:=by decide +kernel
theorem Zgg (C:List Ins) (x:Nd):Ze x≠0->∀ p s,Seg C p (Zd x p)->s.length+Zz x<=16->Z2N C p (Zd x p) s (s++[Ze x]):=by
 induction x using Nd.ind with
 | h k n s l ih=>
 intro ht p sh hs hb;have hk:∀ y∈l,Ze y≠0:=λy hy=>Z6p (x:=.mk k n s l) ht hy;have hr:∀ y∈l,∀ p s,Seg C p (Zd y p)->s.length+Zz y<=16->Z2N C p (Zd y p) s (s++[Ze y]):=λy hy=>ih y hy (hk y hy);have aR:∀ y∈l,∀ p,Zd y p≠[]:=λy hy=>Zcg y (hk y hy);have cS:∀ y∈l,Zz y+1<=Zz (.mk k n s l):=λy hy=>by have:=ZbG (x:=.mk k n s l) hy;omega
 have hrange:=Z3J (.mk k n s l);have kJ:Ze (.mk k n s l)=JB k n s (l.map Ze):=Z0N _;rw [Zd] at hs ⊢;rw [kJ] at ht hrange ⊢;rcases Z75 ht with ⟨he,hc⟩|⟨h0,h3,lR,hc⟩
 ·
   have hl:l=[]:=by simpa using he
   subst hl;unfold Z1h at hs ⊢;rw [if_pos (show (List.map Zd ([]:List Nd)).length=0 from rfl)] at hs ⊢;rw [hc] at ht ⊢;have ai:sh.length+1<=16:=by
    have:1<=Zz (.mk k n s []):=by rw [Z0O];omega
    omega
   refine Z5K hs ?_ ?_ ?_ ?_;unfold Z14;split<;>(try split)<;>(try split)<;>simp;unfold Z14;split<;>(try split)<;>(try split)<;>simp;unfold Z14;split<;>(try split)<;>(try split)<;>simp;have di:Ji (Z14 k n s) []=some [Z0M k n s]:=by
    unfold Z0M at ht ⊢;unfold Z14;by_cases k4:k=4;subst k4;rw [if_pos rfl] at ht ⊢;split at ht
    . rename_i hn
      rw [if_pos hn];have hf:((ZR s).2.1=3/\((ZR s).1=0\/(ZR s).1=1))\/((ZR s).2.1=1/\2<=(ZR s).1/\(ZR s).1<7):=by
       have h1:(ZR s).2.2=true:=by
        cases hb:(ZR s).2.2 with
        | true=>rfl
        | false=>exact absurd (Z6a hb) ht
       obtain ⟨i,hi,eP,_⟩:=(Z8i s (ZR s).1).1 ⟨h1,rfl⟩;subst eP
       match i,hi with
       | 0,_=>decide +kernel
       | 1,_=>decide +kernel
       | 2,_=>decide +kernel
       | 3,_=>decide +kernel
       | 4,_=>decide +kernel
       | 5,_=>decide +kernel
       | 6,_=>decide +kernel
      rw [if_neg (by decide),if_neg (by decide),if_neg (by decide)];rcases hf with ⟨e1,e2⟩|⟨e1,e2,e3⟩
      simp [Ji,ZC,e1,e2];omega;simp [Ji,ZC,e1];omega
    exact absurd rfl ht;rw [if_neg k4] at ht ⊢;split at ht;exact absurd rfl ht;rename_i ba;rw [if_neg ba];by_cases k1:k=1;rw [if_pos k1] at ht ⊢;rw [if_pos k1];split at ht;rename_i h;rw [if_pos h];simp [Ji,ZC];omega;exact absurd rfl ht;rw [if_neg k1] at ht ⊢;rw [if_neg k1];by_cases k2:k=2;rw [if_pos k2] at ht ⊢;rw [if_pos k2];split at ht;rename_i h;rw [if_pos h];simp [Ji,ZC];omega;exact absurd rfl ht;rw [if_neg k2] at ht ⊢;rw [if_neg k2];by_cases k3:k=3;rw [if_pos k3] at ht ⊢;rw [if_pos k3];split at ht;rename_i h;rw [if_pos h];simp [Ji,ZC];omega;exact absurd rfl ht;rw [if_neg k3] at ht;exact absurd rfl ht
   have:=Z25 (s:=sh) di (by simpa using ai);simpa using this
 . have hl:l≠[]:=λh=>lR (by rw [h];rfl)
   have ai:l.length<=3:=by simpa using h3
   have dL:¬ (l.map Zd).length=0:=by simpa using hl
   unfold Z1h at hs ⊢;rw [if_neg dL] at hs ⊢;rcases hc with ⟨h9,cg⟩|⟨h6,ve,dZ⟩|s6
   ·
     rw [if_pos h9] at hs ⊢;generalize JB k n s (l.map Ze)=t at *;have ii:l.length=3:=by have:=congrArg List.length cg;simpa using this
     obtain ⟨a,b,c,rfl⟩:=ZmO ii;simp only [Xs,XL,Ya4,and_true] at cg;obtain ⟨ta,tb,tc⟩:=cg;simp only [Xs,XL,Xz,Yal] at hs ⊢;unfold chC at hs ⊢;have na:=cS a (by simp);have nb:=cS b (by simp);have nc:=cS c (by simp);refine ZaN _ _ hs rfl rfl ?_ ?_ ?_ (aR a (by simp) _) (aR b (by simp) _) (aR c (by simp) _) (by omega) (by simp only [Xc,Xe,Xf];omega);rw [<- ta];exact hr a (by simp) p sh (by have:=hs.left.left.left.left;exact this) (by omega);rw [<- tb];have h2:=hs.left.left.right;simp only [Xc,Xe,Xf] at h2;exact hr b (by simp) _ sh h2 (by omega);rw [<- tc];have h2:=hs.right;simp only [Xc,Xe,Xf] at h2;have e:p+((Zd a p).length+(0+1)+(Zd b (p+(Zd a p).length+1)).length+(0+1))=p+(Zd a p).length+1+(Zd b (p+(Zd a p).length+1)).length+1:=by omega
     rw [e] at h2;exact hr c (by simp) _ sh h2 (by omega)
   ·
     subst h6;rw [if_neg (by decide)] at hs ⊢;rcases Zo9 h0 h3 lR ve with ⟨lI,cg⟩|⟨lI,cg⟩
     exfalso;apply ht;rw [dZ,lI];have m8:(l.map Ze).getD 0 0≠0:=λh=>h0 (by rw [cg,h];simp)
     unfold Z1Y;split;rw [if_neg (by omega)];split;rw [if_neg (by omega)];split;rw [if_neg (by omega)];rfl;have dS:l.length=2:=by have:=congrArg List.length cg;simpa using this
     obtain ⟨a,b,rfl⟩:=ZmN dS;simp only [Xs,XL,Xz,Yal] at dZ;have na:=cS a (by simp);have nb:=cS b (by simp);have ra:=Z3J a;have jl:∀ y∈[a,b],sh.length+([a,b].length - 1)+Zz y<=16:=λy hy=>by
      have:=cS y hy;simp only [Xe,Xf];omega
     have h2:sh.length+2<=16:=by
      have:1<=Zz a:=by rw [Z0O];omega
      omega
     by_cases hA:s∈Z0f;have aO:=XV.1 ZjL s hA;simp only [Xl,Bool.not_eq_true',decide_eq_false_iff_not] at aO;obtain ⟨⟨aO,kK⟩,ey⟩:=aO;obtain ⟨o1,o2,o3⟩:=Z5L aO;have cP:Ze a=Ze b/\Ze a=1:=by
      unfold Z1Y at dZ;rw [if_pos hA] at dZ;split at dZ;assumption;exact absurd dZ ht
     have qD:JB 6 n s ([a,b].map Ze)=1:=by
      show JB 6 n s [Ze a,Ze b]=1;rw [dZ];unfold Z1Y;rw [if_pos hA,if_pos cP]
     rw [qD];rw [if_neg (by intro h;exact kK h.2),if_neg (by intro h;exact ey h.2)] at hs ⊢;split at hs;rename_i hm;rw [if_pos hm];rw [Z2O,Xy] at hs ⊢;rw [if_pos hm.2] at o1 o2 o3;exact Z26 hr aR (ts:=[1,1]) (by simp [cP.2,<- cP.1]) (by simp) o1 hs jl o2 o3 h2;rename_i hm;rw [if_neg hm];have j6:¬ s=[45]:=λh=>hm ⟨rfl,h⟩;rw [if_neg j6,XD] at o1 o2 o3;rw [Z2O] at hs ⊢;exact Z26 hr aR (ts:=[1,1]) (by simp [cP.2,<- cP.1]) (by simp) o1 hs jl o2 o3 h2;by_cases hC:s∈Z2g;have aO:=XV.1 ZmQ s hC;simp only [Xl,Bool.not_eq_true',decide_eq_false_iff_not] at aO;obtain ⟨⟨⟨⟨qE,qF⟩,kK⟩,ey⟩,vf⟩:=aO;have cP:Ze a=Ze b/\¬ Ze a=2:=by
      unfold Z1Y at dZ;rw [if_neg hA,if_pos hC] at dZ;split at dZ;assumption;exact absurd dZ ht
     have lS:JB 6 n s ([a,b].map Ze)=2:=by
      show JB 6 n s [Ze a,Ze b]=2;rw [dZ];unfold Z1Y;rw [if_neg hA,if_pos hC,if_pos cP]
     rw [lS];rw [if_neg (by intro h;exact kK h.2),if_neg (by intro h;exact ey h.2),if_neg (by intro h;exact vf h.2),Z2O] at hs ⊢;have ka:=hk a (by simp);have cT:Ze a=1\/Ze a=3:=by omega
     rcases cT with h|h
     obtain ⟨o1,o2,o3⟩:=Z5L qE;exact Z26 hr aR (ts:=[1,1]) (by simp [h,<- cP.1]) (by simp) o1 hs jl o2 o3 h2;obtain ⟨o1,o2,o3⟩:=Z5L qF;exact Z26 hr aR (ts:=[3,3]) (by simp [h,<- cP.1]) (by simp) o1 hs jl o2 o3 h2;have hL:s∈Z09:=by
      by_cases hL:s∈Z09;exact hL;exfalso;apply ht;show JB 6 n s [Ze a,Ze b]=0;rw [dZ];unfold Z1Y;rw [if_neg hA,if_neg hC,if_neg hL]
     have cP:Ze a=Ze b/\Ze a=2:=by
      unfold Z1Y at dZ;rw [if_neg hA,if_neg hC,if_pos hL] at dZ;split at dZ;assumption;exact absurd dZ ht
     have lS:JB 6 n s ([a,b].map Ze)=2:=by
      show JB 6 n s [Ze a,Ze b]=2;rw [dZ];unfold Z1Y;rw [if_neg hA,if_neg hC,if_pos hL,if_pos cP]
     rw [lS];have hconst:∀ (z:Int) (q:Nat),(z=0\/z=1)->Seg C q [⟨2,z⟩]->Z2N C q [⟨2,z⟩] sh (sh++[2]):=λz q hz vg=>by
      have di:Ji ⟨2,z⟩ []=some [2]:=by simp [Ji,ZC,hz]
      have:=Z25 (s:=sh) di (by simp only [Xe,Xf];omega);rw [XD] at this;exact Z5K vg (by simp) (by simp) (by simp) this
     simp only [Z09,Xb,Xj,or_false] at hL;rcases hL with hL|hL
     rw [if_pos ⟨rfl,hL⟩] at hs ⊢;simp only [Xs,XL,Xz,Yal] at hs ⊢;unfold chC at hs ⊢;refine ZaN _ _ hs rfl rfl ?_ ?_ ?_ (aR a (by simp) _) (aR b (by simp) _) (by simp) (by omega) (by simp only [Xc,Xe,Xf];omega);have h1:=hr a (by simp) p sh hs.left.left.left.left (by omega);rw [cP.2] at h1;exact h1;have h2:=hs.left.left.right;simp only [Xc,Xe,Xf] at h2;have h1:=hr b (by simp) _ sh h2 (by omega);rw [<- cP.1,cP.2] at h1;exact h1;have h2:=hs.right;simp only [Xc,Xe,Xf] at h2;have e:p+((Zd a p).length+(0+1)+(Zd b (p+(Zd a p).length+1)).length+(0+1))=p+(Zd a p).length+1+(Zd b (p+(Zd a p).length+1)).length+1:=by omega
     rw [e] at h2;exact hconst 0 _ (.inl rfl) h2;have qG:¬ ((6:Int)=6/\s=[97,110,100]):=by rintro ⟨_,h⟩;rw [hL] at h;exact absurd h (by decide)
     rw [if_neg qG,if_pos ⟨rfl,hL⟩] at hs ⊢;simp only [Xs,XL,Xz,Yal] at hs ⊢;unfold chC at hs ⊢;refine ZaN _ _ hs rfl rfl ?_ ?_ ?_ (aR a (by simp) _) (by simp) (aR b (by simp) _) (by omega) (by simp only [Xc,Xe,Xf];omega);have h1:=hr a (by simp) p sh hs.left.left.left.left (by omega);rw [cP.2] at h1;exact h1;have h2:=hs.left.left.right;simp only [Xc,Xe,Xf] at h2;exact hconst 1 _ (.inr rfl) h2;have h2:=hs.right;simp only [Xc,Xe,Xf] at h2;have e:p+((Zd a p).length+(0+1)+(0+1)+(0+1))=p+(Zd a p).length+1+(0+1)+1:=by omega
     rw [e] at h2;have h1:=hr b (by simp) _ sh h2 (by omega);rw [<- cP.1,cP.2] at h1;exact h1
   ·
     obtain ⟨e,he,iH,bM⟩:=Zgf (by rw [<- s6];exact ht);have aO:=XV.1 ZmP e he;unfold Zoa at aO;rw [bM] at aO;simp only [Xl,decide_eq_true_eq] at aO;obtain ⟨⟨⟨k9,k6⟩,ia⟩,kM⟩:=aO;rw [<- iH] at k9 k6 ia kM;simp only at k9 k6 ia kM;obtain ⟨o1,o2,o3⟩:=Z5L kM;rw [if_neg k9,if_neg (by intro h;exact k6 h.1),if_neg (by intro h;exact k6 h.1),if_neg (by intro h;exact k6 h.1),Z2O] at hs ⊢;rw [s6];have cg:l.map Ze=(if (l.map Ze).getD 1 0=0 then [(l.map Ze).getD 0 0] else [(l.map Ze).getD 0 0,(l.map Ze).getD 1 0]):=by
      rcases Zo9 h0 h3 lR ia with ⟨h1,h2⟩|⟨h1,h2⟩
      rw [if_pos h1];exact h2;rw [if_neg h1];exact h2
     have dS:l.length<=2:=by
      have:=congrArg List.length cg;rw [Xt] at this;split at this<;>simp only [Xe,Xf] at this<;>omega
     have h2:sh.length+2<=16:=by
      cases l with
      | nil=>exact absurd rfl hl
      | cons y r=>
        have:=cS y (by simp);have:1<=Zz y:=by rw [Z0O];omega
        omega
     exact Z26 hr aR cg hl o1 hs (λy hy=>by have:=cS y hy;omega) o2 o3 h2
theorem Z9J (y:Nd) (ht:Ze y≠0) (hn:Zz y<=12) (hl:(ZU y).length<=200):Z24 (ZU y)=(Ze y,0):=by
 have aR:=Zcg y ht 0;have br:=XW.2 aR;unfold ZU at hl ⊢;have ai:(Zd y 0++[(⟨24,0⟩:Ins)]).length=(Zd y 0).length+1:=by simp
 have hr:=Zgg (Zd y 0++[⟨24,0⟩]) y ht 0 [] ⟨[],[⟨24,0⟩],by simp,rfl⟩ (by simp only [Xf];omega);obtain ⟨st,r1,r2,r3,_⟩:=hr ((some []) :: List.replicate ((Zd y 0++[(⟨24,0⟩:Ins)]).length - 1) none) (by simp) (by rw [ai];omega) (by simp) (λi hi cp=>by
  cases i with
  | zero=>omega
  | succ i=>
    rw [YaN,Ya8,if_pos (by rw [ai];omega)]) (.inl (by
  rw [XN];obtain ⟨m,hm⟩:∃ m,(Zd y 0).length=m+1:=⟨(Zd y 0).length - 1,by omega⟩
  rw [hm,YaN,Ya8,if_pos (by rw [ai];omega)]))
 rw [XN] at r3;rw [XT] at r3;unfold Z24;rw [if_neg (by rw [ai] at hl ⊢;omega)];have bh:Z3w (Zd y 0++[⟨24,0⟩]) (Zd y 0++[(⟨24,0⟩:Ins)]).length ((some []) :: List.replicate ((Zd y 0++[(⟨24,0⟩:Ins)]).length - 1) none)=some st:=by
  rw [Z9H]
  conv=>lhs;arg 3;rw [ai]
  rw [Z1w,r1,XS,XN,Z3V];have hg:(Zd y 0++[(⟨24,0⟩:Ins)]).getD (Zd y 0).length ⟨0,0⟩=⟨24,0⟩:=by simp
  rw [hg];unfold JM;rw [XC,r3];have di:Ji ⟨24,0⟩ [Ze y]=some [Ze y]:=by simp [Ji,ZC]
  simp only [YaD,di];rw [if_pos trivial,if_pos (by constructor<;>simp [r2])]
 rw [bh];have e:(Zd y 0++[(⟨24,0⟩:Ins)]).length - 1=(Zd y 0).length:=by rw [ai];omega
 simp only [e];rw [XC,r3];rfl
structure Hol where
 kind:Int
 month:Int
 day:Int
 wd:Int
 nth:Int
 off:Int
 move:Int
 first:Int
 last:Int
structure Clo where
 lo:Int
 hi:Int
 known:Int
structure Cal where
 week:List Bool
 hols:List Hol
 clos:List Clo
def ZN (d:Int):Bool:=decide (0<=d/\d<=3652058)
def Z3s (y:Int):Int:=
 let a:=y % 19
 let b:=y / 100
 let c:=y % 100
 let g:=(b - (b+8) / 25+1) / 3
 let h:=(19 * a+b - b / 4 - g+15) % 30
 let l:=(32+2 * (b % 4)+2 * (c / 4) - h - c % 4) % 7
 h+l - 7 * ((a+11 * h+22 * l) / 451)+114
def Z5M (y:Int):Int:=Z0a y (Z3s y / 31) (Z3s y % 31+1)
def Z3X (y m wd:Int):Int:=Z0a y m 1+(wd - Z0a y m 1 % 7+7) % 7
def ZmR (h:Hol) (y:Int):Option Int:=
 if y<h.first\/h.last<y then none
 else if h.kind=1 then (if Z23 y h.month h.day then none else some (Z0a y h.month h.day))
 else if h.kind=2 then (if Z3X y h.month h.wd+7 * (h.nth - 1)<Z0a y h.month 1+ZK y h.month then some (Z3X y h.month h.wd+7 * (h.nth - 1)) else none)
 else if h.kind=3 then some (Z3X y h.month h.wd+(Z0a y h.month 1+ZK y h.month - 1 - Z3X y h.month h.wd) / 7 * 7)
 else if y<1583\/9999<y then none else some (Z5M y+h.off)
def Z3Y (m d:Int):Int:=if m=1/\d % 7=5 then d+2 else if m=2/\d % 7=5 then d - 1 else if (m=1\/m=2)/\d % 7=6 then d+1 else d
def Z2n (h:Hol) (y:Int):Option Int:=(ZmR h y).bind λd=>if ZN (Z3Y h.move d) then some (Z3Y h.move d) else none
structure Z27 (h:Hol):Prop where
 k1:1<=h.kind
 k2:h.kind<=4
 m1:0<=h.move
 m2:h.move<=2
 f1:1<=h.first
 l1:h.last<=9999
 month:h.kind≠4->1<=h.month/\h.month<=12
 day:h.kind=1->1<=h.day/\h.day<=31
 wd:h.kind=2\/h.kind=3->0<=h.wd/\h.wd<=6
 nth:h.kind=2->1<=h.nth/\h.nth<=5
 off:h.kind=4->-100<=h.off/\h.off<=100
def Z8j (l:List Hol) (d:Int):Bool:=
 ZN d && [(ofM d).y - 1,(ofM d).y,(ofM d).y+1].any λy=>l.any λh=>decide (Z2n h y=some d)
def Zci (l:List Clo) (known d:Int):Bool:=l.any λx=>decide (x.known<=known/\x.lo<=d/\d<=x.hi)
def ZeX (c:Cal) (known d:Int):Bool:=c.week.getD (d % 7).toNat false || Zci c.clos known d || Z8j c.hols d
def ZA (c:Cal) (known d:Int):Bool:=ZN d && !ZeX c known d
structure ZjM (c:Cal):Prop where
 week:c.week.length=7
 hols:∀ h∈c.hols,Z27 h
 few:c.hols.length<=6
def Z3Z (opn:Int->Bool) (step:Int):Nat->Int->Int×Int
 | 0,_=>(0,31)
 | k+1,d=>if ZN d=true then (if opn d=true then (d,0) else Z3Z opn step k (d+step)) else (0,31)
def JC (opn:Int->Bool) (step d:Int):Int×Int:=if ZN d=true then Z3Z opn step 1001 d else (0,5)
def Z6q (opn:Int->Bool) (step:Int):Nat->Int->Int×Int
 | 0,d=>(d,0)
 | k+1,d=>if (JC opn step (d+step)).2=0 then Z6q opn step k (JC opn step (d+step)).1 else (0,31)
def Z6r (opn:Int->Bool) (d n:Int):Int×Int:=
 if ZN d=true then (if n < -1000\/1000<n then (0,2) else Z6q opn (if n<0 then -1 else 1) n.natAbs d) else (0,5)
def Zcj (d n:Int):Int×Int:=
 if n < -200000\/200000<n then (0,2) else if ZN d=true then
  (let m:=12 * (ofM d).y+(ofM d).m - 1+n
   if m<12\/120000<=m then (0,5) else (Z0a (m / 12) (m % 12+1) (min (ofM d).d (ZK (m / 12) (m % 12+1))),0))
 else (0,5)
def Z40 (b:Bool):Int:=if b=true then 1 else 0
def Z4K (n:Int):Int×Int:=if n < -2147483647\/2147483647<n then (0,5) else (n,0)
def Z6s (n:Int):Int×Int:=if n<0\/3652058<n then (0,5) else (n,0)
def Zck (ev:List Int) (n:Int):Int×Int:=if n=1/\ev.getD 1 0=-1 then (0,32) else (ev.getD n.toNat 0,0)
def Zcl (opn:Int->Bool) (op b:Int):Int×Int:=
 if op=8 then (-b,0) else if op=19 then JC opn 1 b else if op=20 then JC opn (-1) b else (1 - b,0)
def Z3x (opn:Int->Bool) (op a b:Int):Int×Int:=
 if op=5 then Z4K (a+b) else if op=6 then Z4K (a - b) else if op=7 then Z4K (a * b)
 else if op=9 then (Z40 (decide (a<b)),0) else if op=10 then (Z40 (decide (a<=b)),0) else if op=11 then (Z40 (decide (a=b)),0)
 else if op=15 then Z6s (a+b) else if op=16 then Z6s (a+7 * b) else if op=17 then Zcj a b else if op=18 then Z6r opn a b
 else if op=21 then (max a b,0) else if op=22 then (min a b,0) else (b - a,0)
def arM (op:Int):Nat:=if op=1\/op=2\/op=3\/op=4 then 0 else if op=8\/op=12\/op=19\/op=20 then 1 else 2
def Z0b (opn:Int->Bool) (ev:List Int) (x:Ins) (a b:Int):Int×Int:=
 if x.op=4 then Zck ev x.n else if arM x.op=0 then (x.n,0) else if arM x.op=1 then Zcl opn x.op b else Z3x opn x.op a b
abbrev Spn:=Int×Int
def JX (op a b r:Int):List Spn:=
 if op=19 then [(b,r)] else if op=20 then [(r,b)] else if op=18 then (if 0<b then [(a+1,r)] else if b<0 then [(r,a - 1)] else []) else []
def Z05 (st:List Int) (k:Nat):Int:=if k<st.length then st.getD (st.length - 1 - k) 0 else 0
def Z6t (opn:Int->Bool) (ev:List Int) (C:List Ins):Nat->Nat->List Int->List Spn->Int×List Spn×Int
 | 0,_,_,_=>(0,[],22)
 | f + 1, i, st, sp=>
   let x:=C.getD i ⟨0,0⟩
   let b:=Z05 st 0
   let a:=Z05 st 1
   if x.op=24 then (b,sp,0)
   else if x.op=13 then Z6t opn ev C f x.n.toNat st sp
   else if x.op=14 then Z6t opn ev C f (if b=0 then x.n.toNat else i+1) st.dropLast sp
   else if (Z0b opn ev x a b).2=0 then Z6t opn ev C f (i+1) (st.take (st.length - arM x.op)++[(Z0b opn ev x a b).1]) (sp++JX x.op a b (Z0b opn ev x a b).1)
   else (0,[],(Z0b opn ev x a b).2)
def Js (opn:Int->Bool) (ev:List Int) (C:List Ins):Int×List Spn×Int:=Z6t opn ev C C.length 0 [] []
def vOk (t v:Int):Prop:=(t=1/\-2147483647<=v/\v<=2147483647)\/(t=2/\(v=0\/v=1))\/(t=3/\0<=v/\v<=3652058)
structure ZdX (ev:List Int):Prop where
 len:ev.length=7
 day:0<=ev.getD 0 0/\ev.getD 0 0<=3652058
 served:-1<=ev.getD 1 0/\ev.getD 1 0<=3652058
 rest:∀ i,2<=i->i<7->-2147483647<=ev.getD i 0/\ev.getD i 0<=2147483647
def Z0n (s:Shp) (st:List Int):Prop:=s.length=st.length/\∀ i (h:i<s.length) (h':i<st.length),vOk s[i] st[i]
theorem ZO {d:Int}:ZN d=true↔0<=d/\d<=3652058:=by unfold ZN;simp
theorem Zcm (opn:Int->Bool) (step:Int):∀ (k:Nat) (d:Int),(Z3Z opn step k d).2=0->ZN (Z3Z opn step k d).1=true/\opn (Z3Z opn step k d).1=true
 | 0,d,h=>by simp [Z3Z] at h
 | k + 1, d, h => by
   unfold Z3Z at h ⊢;split at h;rename_i h1;rw [if_pos h1];split at h;rename_i h2;rw [if_pos h2];exact ⟨h1,h2⟩;rename_i h2;rw [if_neg h2];exact Zcm opn step k _ h;simp at h
theorem Z41 {opn:Int->Bool} {step d:Int} (h:(JC opn step d).2=0):ZN (JC opn step d).1=true/\ZN d=true:=by
 unfold JC at h ⊢;split at h;rename_i h1;rw [if_pos h1];exact ⟨(Zcm _ _ _ _ h).1,h1⟩;simp at h
theorem ZeY (opn:Int->Bool) (step:Int):∀ (k:Nat) (d:Int),ZN d=true->(Z6q opn step k d).2=0->ZN (Z6q opn step k d).1=true
 | 0,d,hd,h=>hd
 | k + 1, d, hd, h => by
   unfold Z6q at h ⊢;split at h;rename_i h1;rw [if_pos h1];exact ZeY opn step k _ (Z41 h1).1 h;simp at h
theorem ZmS {opn:Int->Bool} {d n:Int} (h:(Z6r opn d n).2=0):ZN (Z6r opn d n).1=true:=by
 unfold Z6r at h ⊢;split at h;rename_i h1;rw [if_pos h1];split at h;simp at h;rename_i h2;rw [if_neg h2];exact ZeY _ _ _ _ h1 h;simp at h
theorem dayM_range {y m d:Int} (hy:1<=y) (eq:y<=9999) (hm:1<=m) (eM:m<=12) (hd:1<=d) (kp:d<=ZK y m):0<=Z0a y m d/\Z0a y m d<=3652058:=by
 obtain ⟨k,hk⟩:∃ k:Nat,m=(k:Int)+1:=⟨(m - 1).toNat,by omega⟩
 subst hk;have hk:k<=11:=by omega
 rw [Z2K y d k hk];have h0:Z1d 1=0:=by decide
 have h1:=Z3R hy;have h2:=Z3R (show y+1<=10000 by omega);have h3:Z1d 10000=3652059:=by decide
 have ia:0<=Z2i y k:=by
  have:=Z4r (y:=y) (Xq k) (by omega);simpa [Z2i] using this
 have hc:Z2i y (k+1)=Z2i y k+ZK y ((k:Int)+1):=by simp [Z2i]
 have vh:=Z4r (y:=y) (show k+1<=12 by omega) (Xn _);have hs:=Z6Y y;have lT:=Zw2 y;omega
theorem ZmT {d n:Int} (h:(Zcj d n).2=0):ZN (Zcj d n).1=true:=by
 unfold Zcj at h ⊢;split at h;simp at h;rename_i h0;rw [if_neg h0];split at h;rename_i h1;rw [if_pos h1];dsimp only at h ⊢;split at h;simp at h;rename_i h2;rw [if_neg h2];rw [ZO] at h1 ⊢;obtain ⟨a1,a2,a3,a4,a5,a6,a7⟩:=Z5f h1.1 h1.2;generalize 12 * (ofM d).y+(ofM d).m - 1+n=m at h2;have hk:(m % 12).toNat<12:=by omega
 have hl:=Z2m (y:=m / 12) hk;rw [show (((m % 12).toNat:Int))=m % 12 by omega] at hl;dsimp only;exact dayM_range (by omega) (by omega) (by omega) (by omega) (by omega) (by omega);simp at h
theorem Z0n.nil:Z0n [] []:=⟨rfl,λi h=>absurd h (Xu _)⟩
theorem Z0n.one {t v:Int} (h:vOk t v):Z0n [t] [v]:=⟨rfl,λi hi _=>by
 have:i=0:=by simpa using hi
 subst this;exact h⟩
theorem Z0n.app {s1 s2:Shp} {l1 l2:List Int} (h1:Z0n s1 l1) (h2:Z0n s2 l2):Z0n (s1++s2) (l1++l2):=by
 refine ⟨by simp [h1.1,h2.1],λi h h'=>?_⟩;by_cases hi:i<s1.length;rw [X8 hi,X8 (by rw [<- h1.1];exact hi)];exact h1.2 i hi _;have e:=h1.1;rw [X4 (by omega),X4 (by omega)];have:=h2.2 (i - s1.length) (by simp at h;omega) (by simp at h';omega);simpa [e] using this
theorem Z0n.take {s:Shp} {l:List Int} (h:Z0n s l) (k:Nat):Z0n (s.take k) (l.take k):=
 ⟨by simp [h.1],λi hi cQ=>by simp at hi cQ ⊢;exact h.2 i _ _⟩
theorem Z0n.drop {s:Shp} {l:List Int} (h:Z0n s l) (k:Nat):Z0n (s.drop k) (l.drop k):=
 ⟨by simp [h.1],λi hi cQ=>by simp at hi cQ ⊢;exact h.2 _ _ _⟩
theorem Z0n.one_inv {t:Int} {l:List Int} (h:Z0n [t] l):∃ v,l=[v]/\vOk t v:=by
 match l,h with
 | [v],h=>exact ⟨v,rfl,h.2 0 (by simp) (by simp)⟩
 | [],h=>exact absurd h.1 (by simp)
 | _ :: _ :: _,h=>exact absurd h.1 (by simp)
theorem Z0n.two_inv {t u:Int} {l:List Int} (h:Z0n [t,u] l):∃ a b,l=[a,b]/\vOk t a/\vOk u b:=by
 match l,h with
 | [a,b],h=>exact ⟨a,b,rfl,h.2 0 (by simp) (by simp),h.2 1 (by simp) (by simp)⟩
 | [],h=>exact absurd h.1 (by simp)
 | [_],h=>exact absurd h.1 (by simp)
 | _ :: _ :: _ :: _,h=>exact absurd h.1 (by simp)
theorem Z1S (l:List Int) (v:Int):Z05 (l++[v]) 0=v:=by
 unfold Z05;simp
theorem Jn (l:List Int) (a b:Int):Z05 (l++[a,b]) 0=b/\Z05 (l++[a,b]) 1=a:=by
 unfold Z05;constructor<;>simp [XC,YaF]
theorem ZmU {n:Int} (h:(Z4K n).2=0):vOk 1 (Z4K n).1:=by
 unfold Z4K at h ⊢;split at h;simp at h;rename_i h1;rw [if_neg h1];left;refine ⟨rfl,?_,?_⟩<;>dsimp only<;>omega
theorem ZmV {n:Int} (h:(Z6s n).2=0):vOk 3 (Z6s n).1:=by
 unfold Z6s at h ⊢;split at h;simp at h;rename_i h1;rw [if_neg h1];right;right;refine ⟨rfl,?_,?_⟩<;>dsimp only<;>omega
theorem ZsO (b:Bool):vOk 2 (Z40 b):=by
 right;left;refine ⟨rfl,?_⟩;unfold Z40;cases b<;>simp
theorem vOk.days {v:Int} (h:ZN v=true):vOk 3 v:=.inr (.inr ⟨rfl,ZO.1 h⟩)
theorem vOk.n {v:Int} (h:vOk 1 v):-2147483647<=v/\v<=2147483647:=by unfold vOk at h;omega
theorem vOk.b {v:Int} (h:vOk 2 v):v=0\/v=1:=by unfold vOk at h;omega
theorem vOk.d {v:Int} (h:vOk 3 v):0<=v/\v<=3652058:=by unfold vOk at h;omega
theorem Z8k {x:Ins} (h:(ZC x).2.2.2=true):1<=x.op/\x.op<=24:=by
 by_cases h1:1<=x.op/\x.op<=24;exact h1
 . exfalso
   have:ZC x=([],[],[],false):=by
    unfold ZC
    repeat rw [if_neg (by omega)]
   rw [this] at h;simp at h
theorem ZsP {opn:Int->Bool} {ev:List Int} (bM:ZdX ev) {x:Ins} {ts vs:List Int} (hx:(ZC x).2.2.2=true) (cX:x.op≠24) (cT:x.op≠13) (dY:x.op≠14)
 (ht:ts=(ZC x).1\/(ZC x).2.1≠[]/\ts=(ZC x).2.1) (hs:Z0n ts vs) :
 ts.length=arM x.op/\(ZC x).1.length=arM x.op/\∀ st,((Z0b opn ev x (Z05 (st++vs) 1) (Z05 (st++vs) 0)).2=0->Z0n (ZC x).2.2.1 [(Z0b opn ev x (Z05 (st++vs) 1) (Z05 (st++vs) 0)).1]):=by
 have hr:=Z8k hx;obtain ⟨op,n⟩:=x;dsimp only at *;have fy:op=1\/op=2\/op=3\/op=4\/op=5\/op=6\/op=7\/op=8\/op=9\/op=10\/op=11\/op=12\/op=15\/op=16\/op=17\/op=18\/op=19\/op=20\/op=21\/op=22\/op=23:=by omega
 rcases fy with rfl|rfl|rfl|rfl|rfl|rfl|rfl|rfl|rfl|rfl|rfl|rfl|rfl|rfl|rfl|rfl|rfl|rfl|rfl|rfl|rfl
 case inl|inr.inl|inr.inr.inl=>
  simp [ZC] at hx ht ⊢;subst ht;refine ⟨rfl,rfl,λst _=>Z0n.one ?_⟩;simp [Z0b,arM,vOk];omega
 case inr.inr.inr.inl=>
  simp [ZC] at hx ht ⊢;subst ht;refine ⟨rfl,rfl,λst h=>Z0n.one ?_⟩;simp only [Z0b,if_true] at h ⊢;unfold Zck at h ⊢;split at h;simp at h;rename_i h1;rw [if_neg h1];dsimp only;have h0:=bM.day;have cn:=bM.served;by_cases gX:n=0\/n=1;rw [if_pos gX]
  right;right;rcases gX with rfl|rfl
  exact ⟨rfl,h0.1,h0.2⟩;refine ⟨rfl,?_,cn.2⟩;have:¬ ev.getD 1 0=-1:=λh=>h1 ⟨rfl,h⟩;show 0<=ev.getD 1 0;omega;rw [if_neg gX]
  left;exact ⟨rfl,bM.rest n.toNat (by omega) (by omega)⟩
 all_goals
  simp [ZC] at hx ht ⊢
  try subst hx
 all_goals
  first
  | (subst ht
     obtain ⟨b,rfl,hb⟩:=hs.one_inv;refine ⟨rfl,rfl,λst h=>Z0n.one ?_⟩;simp only [Z1S] at h ⊢;simp [Z0b,arM,Zcl,Z3x] at h ⊢;first
     | exact .days (Z41 h).1
     | (have:=hb.n;unfold vOk;omega)
     | (have:=hb.b;unfold vOk;omega))
  | (rcases ht with rfl | rfl <;>
     (obtain ⟨a,b,rfl,ha,hb⟩:=hs.two_inv
      refine ⟨rfl,rfl,λst h=>Z0n.one ?_⟩;simp only [Jn] at h ⊢;simp [Z0b,arM,Zcl,Z3x] at h ⊢;exact ZsO _))
  | (subst ht
     obtain ⟨a,b,rfl,ha,hb⟩:=hs.two_inv;refine ⟨rfl,rfl,λst h=>Z0n.one ?_⟩;simp only [Jn] at h ⊢;simp [Z0b,arM,Zcl,Z3x] at h ⊢;first
     | exact ZmU h
     | exact ZmV h
     | exact .days (ZmT h)
     | exact .days (ZmS h)
     | (have:=ha.d;have:=hb.d;unfold vOk;omega))
theorem Zcn {opn:Int->Bool} {ev:List Int} (bM:ZdX ev) {x:Ins} {s nx:Shp} {st:List Int} (hn:Ji x s=some nx) (cX:x.op≠24) (cT:x.op≠13) (dY:x.op≠14) (hs:Z0n s st)
 (he:(Z0b opn ev x (Z05 st 1) (Z05 st 0)).2=0):Z0n nx (st.take (st.length - arM x.op)++[(Z0b opn ev x (Z05 st 1) (Z05 st 0)).1]):=by
 unfold Ji at hn;dsimp only at hn;split at hn;rename_i hc;obtain ⟨c1,c2,c3,c4⟩:=hc;simp only [XI] at hn;subst hn;have bD:st=st.take (s.length - (ZC x).1.length)++st.drop (s.length - (ZC x).1.length):=(XM _ _).symm;obtain ⟨v1,v2,v3⟩:=ZsP (opn:=opn) bM c1 cX cT dY c3 (hs.drop _);have v4:=v3 (st.take (s.length - (ZC x).1.length));rw [<- bD] at v4;rw [<- v2,<- hs.1];exact (hs.take _).app (v4 he);cases hn
end Go.Proofs.YtipfkbkkndacjaaGreatDoor
namespace Go.Eng
open Go Go.RowKit Go.Proofs
end Go.Eng
namespace Go.Proofs.YtipfkbkkndacjaaGreatDoor
open Go Go.Eng Go.RowKit
instance:Z3 Hol where
 k:=9
 enc:=λh=>[.I h.kind,.I h.month,.I h.day,.I h.wd,.I h.nth,.I h.off,.I h.move,.I h.first,.I h.last]
 len:=λ_=>rfl
 one:=by intro x u hu;simp at hu;rcases hu with rfl|rfl|rfl|rfl|rfl|rfl|rfl|rfl|rfl<;>rfl
instance:Z3 Clo where
 k:=3
 enc:=λh=>[.I h.lo,.I h.hi,.I h.known]
 len:=λ_=>rfl
 one:=by intro x u hu;simp at hu;rcases hu with rfl|rfl|rfl<;>rfl
instance:Z3 Spn where
 k:=2
 enc:=λh=>[.I h.1,.I h.2]
 len:=λ_=>rfl
 one:=by intro x u hu;simp at hu;rcases hu with rfl|rfl<;>rfl
def Z6u:List Int:=[0,0,0,0,0,0,0,0,0,0,0,0,2,1,0,0,0,0,0,-1,1]
def Z3y (w:World):Prop:=∀ i u,Z6u[i]?=some u->w.cell? ⟨4,i,none⟩=some (.I u)
theorem Z3y.ext {S:List Nat} {w w':World} (h:Z3y w) (hS:Stp S w w') (hb:4∉S):Z3y w':=λi u hu=>hS.cell hb (h i u hu)
theorem Z3y.up {w w':World} (h:Z3y w) (hS:Stp [] w w'):Z3y w':=h.ext hS (by simp)
structure MK where
 w0:World
 bm:Nat
 nk:Option Nat
 ev:List Int
 c:Cal
 kn:Int
 hv:Value
 cv:Value
 zo:Value
 zs:Value
 hr:Value
 pr:List (Nat×Obj)
def Z0h (c:Cal) (hv cv zo zs hr:Value):List Value:=
 [.B (c.week.getD 0 false),.B (c.week.getD 1 false),.B (c.week.getD 2 false),.B (c.week.getD 3 false),.B (c.week.getD 4 false),.B (c.week.getD 5 false),.B (c.week.getD 6 false),hv,cv,zo,zs,hr]
def evC (ev:List Int):List Value:=[.I (ev.getD 0 0),.I (ev.getD 1 0),.I (ev.getD 2 0),.I (ev.getD 3 0),.I (ev.getD 4 0),.I (ev.getD 5 0),.I (ev.getD 6 0)]
def Zob (nk:Option Nat):Value:=match nk with|none=>.nilIface|some bs=>.func (.func 80) #[] #[pQ bs]
def Z5N (K:MK) (sv:Value) (at_ er:Int) (dn:Bool):List Value:=
 evC K.ev++Z0h K.c K.hv K.cv K.zo K.zs K.hr++[.I K.kn,sv,.I at_,.I er,.B dn,Zob K.nk]
def MK.own (K:MK):List Nat:=K.bm :: K.nk.toList
structure KOk (K:MK):Prop where
 hols:SlV K.own K.w0 K.hv K.c.hols
 clos:SlV K.own K.w0 K.cv K.c.clos
 ozo:K.zo.oneCell'=true
 ozs:K.zs.oneCell'=true
 ohr:K.hr.oneCell'=true
 len:Z0I K.w0
 mov:Z3y K.w0
 bml:K.bm<K.w0.heap.size
 nkl:∀ b,K.nk=some b->b<K.w0.heap.size/\b≠K.bm
 gl:∀ b∈K.own,b≠3/\b≠4
 cal:ZjM K.c
 ev:ZdX K.ev
 nks:K.nk≠none
structure Mch (K:MK) (w:World) (sv pv:Value) (st:List Int) (sp:List Spn) (at_ er:Int) (dn:Bool):Prop where
 blk:Blk w K.bm 167 (Z5N K sv at_ er dn)
 row:Row [] w K.w0.heap.size 3 sv st
 nt:∀ bs,K.nk=some bs->Blk w bs 27 [pv]/\Row [] w K.w0.heap.size 75 pv sp
 nt0:K.nk=none->pv=.N
 ap:∀ b∈ob sv,b∉ob pv
 stp:Stp K.own K.w0 w
 prot:∀ p∈K.pr,w.heap[p.1]?=some p.2/\p.1∉K.own/\p.1∉ob sv/\p.1∉ob pv
section
variable {K:MK} {w w':World} {sv pv:Value} {st:List Int} {sp:List Spn} {at_ er:Int} {dn:Bool}
theorem Mch.up (h:Mch K w sv pv st sp at_ er dn) (hS:Stp [] w w'):Mch K w' sv pv st sp at_ er dn:=
 ⟨h.blk.up hS,h.row.up hS,λbs hb=>⟨(h.nt bs hb).1.up hS,(h.nt bs hb).2.up hS⟩,h.nt0,h.ap,h.stp.trans hS.mn,λp hp=>let ⟨a,b,c,d⟩:=h.prot p hp;⟨(hS.block p.1 (Xm.1 a).1 (by simp)).trans a,b,c,d⟩⟩
theorem Mch.hols (hK:KOk K) (h:Mch K w sv pv st sp at_ er dn):SlV K.own w K.hv K.c.hols:=hK.hols.ext h.stp (λb hb=>hb) (λb hb=>.inl hb)
theorem Mch.clos (hK:KOk K) (h:Mch K w sv pv st sp at_ er dn):SlV K.own w K.cv K.c.clos:=hK.clos.ext h.stp (λb hb=>hb) (λb hb=>.inl hb)
theorem Mch.len (hK:KOk K) (h:Mch K w sv pv st sp at_ er dn):Z0I w:=hK.len.ext h.stp (λhb=>(hK.gl _ hb).1 rfl)
theorem Mch.mov (hK:KOk K) (h:Mch K w sv pv st sp at_ er dn):Z3y w:=hK.mov.ext h.stp (λhb=>(hK.gl _ hb).2 rfl)
theorem Mch.put (hK:KOk K) (h:Mch K w sv pv st sp at_ er dn) {at' er':Int} {dn':Bool} (hS:Stp [K.bm] w w') (hb:Blk w' K.bm 167 (Z5N K sv at' er' dn')):Mch K w' sv pv st sp at' er' dn':=by
 have hl:∀ v,(∀ b∈ob v,K.w0.heap.size<=b)->∀ b∈[K.bm],b∉ob v:=λv hv b hb h2=>by
  have:=hK.bml;have:=hv b h2;simp at hb;omega
 refine ⟨hb,h.row.keep hS (hl _ (λb hb=>(h.row.ob_le b hb).1)),λbs dD=>?_,h.nt0,h.ap,h.stp.trans (hS.mono (by simp [MK.own])),λp hp=>let ⟨a,b,c,d⟩:=h.prot p hp;⟨(hS.block p.1 (Xm.1 a).1 (λe=>b (by simp at e;rw [e];exact YaS))).trans a,b,c,d⟩⟩;obtain ⟨h1,h2⟩:=h.nt bs dD;exact ⟨h1.ext hS (by have:=(hK.nkl bs dD).2;simpa using this),h2.keep hS (hl _ (λb hb=>(h2.ob_le b hb).1))⟩
theorem Mch.stack (hK:KOk K) (h:Mch K w sv pv st sp at_ er dn) {sv':Value} {st':List Int} {w2:World} (hS:Stp (ob sv) w w') (hr:Row [] w' K.w0.heap.size 3 sv' st') (ho:∀ b∈ob sv',b∈ob sv\/w.heap.size<=b)
 (ah:Stp [K.bm] w' w2) (hb:Blk w2 K.bm 167 (Z5N K sv' at_ er dn)):Mch K w2 sv' pv st' sp at_ er dn:=by
 have kG:=hK.bml;have kA:=λb hb=>(hr.ob_le b hb).1;have fQ:=λb hb=>(h.row.ob_le b hb).1;have hl:=h.stp.size;refine ⟨hb,hr.keep ah (λb hb h2=>by have:=kA b h2;simp at hb;omega),λbs dD=>?_,h.nt0,λb hb hp=>?_,?_,λp hp=>?_⟩;obtain ⟨h1,h2⟩:=h.nt bs dD;have hn:=hK.nkl bs dD;have qH:=λb hb=>(h2.ob_le b hb).1;refine ⟨(h1.ext hS (λhx=>by have:=fQ _ hx;omega)).ext ah (by simpa using hn.2),(h2.keep hS (λb hb=>h.ap b hb)).keep ah (λb hb hx=>by have:=qH _ hx;simp at hb;omega)⟩
 . cases hk:K.nk with
   | none=>rw [h.nt0 hk] at hp;simp [ob] at hp
   | some bs=>
     obtain ⟨h1,h2⟩:=h.nt bs hk;rcases ho b hb with h3|h3
     exact h.ap b h3 hp;have:=(h2.ob_le b hp).2;omega
 refine (h.stp.own (S':=ob sv) hS (λb hb=>.inr (fQ b hb))).trans (ah.mono (by simp [MK.own]));obtain ⟨a,b,c,d⟩:=h.prot p hp;have ag:=(Xm.1 a).1;have a2:=(hS.block p.1 ag c).trans a;have a3:=(ah.block p.1 (Xm.1 a2).1 (λe=>b (by simp at e;rw [e];exact YaS))).trans a2;exact ⟨a3,b,λh3=>(ho _ h3).elim c (λh4=>by omega),d⟩
theorem ZjN (hK:KOk K) (h:Mch K w sv pv st sp at_ er dn) (n e:Int) (hl:st.length<=100000) :
 CC 203 #[.pointer (some ⟨K.bm,0,none⟩),.I n,.I e] w λr w'=>r=.tuple #[]/\∃ sv',Mch K w' sv' pv (if e=0 then st++[n] else st) sp at_ (if e=0 then er else e) (if e=0 then dn else true):=by
 have ac:=h.blk;have ab:=h.row;unfold Z5N at ac;refine cW3 25 Tryz.func203 ?_;by_cases he:e=0;subst he;rw [if_pos rfl,if_pos rfl,if_pos rfl];refine QO ?_;refine Z1 (Z0 (vs:=[(0,.I n)]) rfl (Zs _)) rfl ?_;rintro bv w1 hN;have ae:=Z5.stp hN;have an:SlV (ob sv++[]) w1 bv [n]:=hN.slv (λb hb=>by simp at hb;exact (ab.ob_le b hb).2) rfl rfl (by simp [maxLen]);replace h:=h.up ae;replace ab:=ab.up ae;replace ac:=ac.up ae;refine Z1 (J4 rfl (by decide) rfl rfl ab an (by simp;omega) (by simp [maxLen];omega) (h.stp.size)) rfl ?_;rintro sv' w2 ⟨dh,ah,ho⟩;have aP:=ac.ext ah (λhx=>by have:=(ab.ob_le _ hx).1;have:=hK.bml;omega);refine W ?_;have h1:=dh.slv (X:=[]) (by simp);refine Z4 (Zc (u:=sv') rfl rfl h1.cells h1.one aP (by simp [evC,Z0h])) ?_;rintro _ w3 ⟨am,aK⟩;refine W ?_;refine WR ?_;refine .mk ⟨rfl,sv',h.stack hK ah dh ho am aK⟩;rw [if_neg he,if_neg he,if_neg he];refine QO ?_;refine Z4 (Zc (u:=.I e) rfl rfl rfl rfl ac (by simp [evC,Z0h])) ?_;rintro _ w1 ⟨ae,ck⟩;refine W ?_;refine Z4 (Zc (u:=.B true) rfl rfl rfl rfl ck (by simp [evC,Z0h])) ?_;rintro _ w2 ⟨ah,aP⟩;refine RT ?_;exact ⟨rfl,sv,h.put hK (ae.trans ah) aP⟩
end
end Go.Proofs.YtipfkbkkndacjaaGreatDoor
namespace Go.Eng
open Go Go.RowKit Go.Proofs
section
variable {P:Program} {n:Nat} {e:Env} {w:World} {d:Option Nat} {ty:TypeId} {pos:String} {af:Array Edge} {g:Option (Nat×Bool)} {rest:List Oper} {ops:Array Oper} {Q:Exit->Act->World->Prop}
theorem Z28 {α:Type} [Z7 α] {X:List Nat} {v:Value} {xs:List α} {i:Nat} {cs:List Value} {x:Operand} {t:TypeId} {D:TypeDesc} [hu:Und P t D] (hA:Z0V D=true) [bI:Siz P t (Z7.k α)] (hx:ev e x=some (.pointer (some (ZM v i (Z7.k α) 0)))) (hs:SlV X w v xs) (hi:i<xs.length)
 (hr:Z7.rep X w xs[i] cs) (hc:∀ j u,cs[j]?=some u->w.cell? (ZM v i (Z7.k α) j)=some u):PR P n ⟨d,.load t x,ty,pos,af,g⟩ e w (.agg cs.toArray):=by
 obtain ⟨p,l',c,rfl⟩:=hs.isSome hi;refine Z3B (cs:=cs) hA hx (Z7.len hr) (λj u hu=>?_);have:=hc j u hu;simpa [ZM] using this
end
structure Fct where
 entry:Int
 kind:Str
 day:Int
 by_:Int
 to_:Int
 amt:Int
deriving DecidableEq
instance:Inhabited Fct:=⟨⟨0,[],0,0,0,0⟩⟩
instance:Z3 Fct where
 k:=6
 enc:=λx=>[.I x.entry,str x.kind,.I x.day,.I x.by_,.I x.to_,.I x.amt]
 len:=λ_=>rfl
 one:=by intro x u hu;simp at hu;rcases hu with rfl|rfl|rfl|rfl|rfl|rfl<;>rfl
structure Rsn where
 kind:Int
 a:Int
 b:Int
deriving DecidableEq
instance:Z3 Rsn where
 k:=3
 enc:=λx=>[.I x.kind,.I x.a,.I x.b]
 len:=λ_=>rfl
 one:=by intro x u hu;simp at hu;rcases hu with rfl|rfl|rfl<;>rfl
structure Rtn where
 crr:Int
 kind:Int
 lo:Int
 hi:Int
deriving DecidableEq
instance:Z3 Rtn where
 k:=4
 enc:=λx=>[.I x.crr,.I x.kind,.I x.lo,.I x.hi]
 len:=λ_=>rfl
 one:=by intro x u hu;simp at hu;rcases hu with rfl|rfl|rfl|rfl<;>rfl
structure Crr where
 extra:Int
 tol:Int
deriving DecidableEq
instance:Z3 Crr where
 k:=2
 enc:=λx=>[.I x.extra,.I x.tol]
 len:=λ_=>rfl
 one:=by intro x u hu;simp at hu;rcases hu with rfl|rfl<;>rfl
structure Svc where
 day:Int
 extra:Int
 att:Int
deriving DecidableEq
instance:Z3 Svc where
 k:=3
 enc:=λx=>[.I x.day,.I x.extra,.I x.att]
 len:=λ_=>rfl
 one:=by intro x u hu;simp at hu;rcases hu with rfl|rfl|rfl<;>rfl
structure Atp where
 entry:Int
 party:Int
 crr:Int
 sent:Int
 rets:List Rtn
instance:Inhabited Atp:=⟨⟨0,0,0,0,[]⟩⟩
abbrev atC (a:Atp) (rv:Value):List Value:=[.I a.entry,.I a.party,.I a.crr,.I a.sent,rv]
instance:Z7 Atp where
 k:=5
 rep:=λX w a cs=>∃ rv,cs=atC a rv/\SlV X w rv a.rets
 len:=λ⟨_,h,_⟩=>h ▸ rfl
 one:=by
  rintro X w a cs ⟨rv,rfl,h⟩ u hu;have:=h.one;simp only [Xb,Xj,or_false] at hu;rcases hu with rfl|rfl|rfl|rfl|rfl<;>first|rfl|assumption
 ext:=λ⟨rv,h,hs⟩ hS h1 h2=>⟨rv,h,hs.ext hS h1 h2⟩
structure Dln where
 rule:Str
 trig:Fct
 party:Int
 due:Int
 stat:Int
 reas:List Rsn
instance:Inhabited Dln:=⟨⟨[],default,0,0,0,[]⟩⟩
abbrev dlC (a:Dln) (rv:Value):List Value:=[str a.rule,.I a.trig.entry,str a.trig.kind,.I a.trig.day,.I a.trig.by_,.I a.trig.to_,.I a.trig.amt,.I a.party,.I a.due,.I a.stat,rv]
instance:Z7 Dln where
 k:=11
 rep:=λX w a cs=>∃ rv,cs=dlC a rv/\SlV X w rv a.reas
 len:=λ⟨_,h,_⟩=>h ▸ rfl
 one:=by
  rintro X w a cs ⟨rv,rfl,h⟩ u hu;have:=h.one;simp only [Xb,Xj,or_false] at hu;rcases hu with rfl|rfl|rfl|rfl|rfl|rfl|rfl|rfl|rfl|rfl|rfl<;>first|rfl|assumption
 ext:=λ⟨rv,h,hs⟩ hS h1 h2=>⟨rv,h,hs.ext hS h1 h2⟩
end Go.Eng
namespace Go.Proofs.YtipfkbkkndacjaaGreatDoor
open Go Go.Eng Go.RowKit
instance:Z7 Cr where
 k:=7
 rep:=λX w q cs=>∃ kc kd,cs=crC q kc kd/\SlV X w kc q.cnd/\SlV X w kd q.due
 len:=λ⟨_,_,h,_⟩=>h ▸ rfl
 one:=λ⟨_,_,h,h1,h2⟩=>h ▸ Z0q h1 h2
 ext:=λ⟨kc,kd,h,h1,h2⟩ hS g1 g2=>⟨kc,kd,h,h1.ext hS g1 g2,h2.ext hS g1 g2⟩
structure Cas where
 fcts:List Fct
 ruls:List Cr
 atts:List Atp
 crrs:List Crr
 stys:List Spn
 cal:Cal
 court:Int
 today:Int
structure Z1e where
 fv:Value
 rv:Value
 av:Value
 cv:Value
 sv:Value
 hv:Value
 lv:Value
 zo:Value
 zs:Value
 hr:Value
abbrev JG (c:Cas) (R:Z1e):List Value:=[R.fv,R.rv,R.av,R.cv,R.sv]++Z0h c.cal R.hv R.lv R.zo R.zs R.hr++[.I c.court,.I c.today]
end Go.Proofs.YtipfkbkkndacjaaGreatDoor
namespace Go.Eng
open Go Go.RowKit Go.Proofs
variable {P:Program} {n:Nat} {Q:Exit->Act->World->Prop} {e:Env} {w w0:World} {rest:List Oper} {ops:Array Oper} {ty:TypeId} {pos:String} {af:Array Edge}
theorem Stp.cell0 {w w':World} {ad:Addr} {u:Value} (h:Stp [] w w') (hc:w.cell? ad=some u):w'.cell? ad=some u:=by
 have ag:ad.block<w.heap.size:=block_lt_of_cell hc;rw [<- hc];exact World.cell?_of_block (w:=w) (h.block ad.block ag (by simp))
theorem CP {S:List Nat} {f d:Nat} {fn:Func} {xs:Array Operand} {ts:Array TypeId} {vs:Array Value} {r:Value} {c:Operand} [hf:Fun P f fn] (hS:Stp S w0 w) (h:Calls P f vs w (Ret λv w'=>v=r/\Stp [] w w')) (k:∀ w',Stp [] w w'->Stp S w0 w'->WL P n ops Q rest ((d,r) :: e) w')
 (hc:ev e c=some (.func (.func f) #[] #[]):=by exact rfl) (hv:∀ a,Has n e a->xs.map a.eval=vs:=by first|exact ZP rfl|exact Zg rfl rfl|exact ZY rfl rfl rfl|exact Z7j rfl rfl rfl rfl|exact Z67) (hd:Nat.blt d n=true:=by exact rfl) :
 WL P n ops Q (⟨some d,.call { callee:=.value c,args:=xs,argTypes:=ts },ty,pos,af,none⟩ :: rest) e w:=
 Z1 (Z6 hc hv h) hd (by rintro _ w' ⟨rfl,hT⟩;exact k w' hT (hS.trans hT.mn))
theorem CG {f d:Nat} {fn:Func} {xs:Array Operand} {ts:Array TypeId} {vs:Array Value} {G:Value->World->Prop} {c:Operand} [hf:Fun P f fn] (h:Calls P f vs w (Ret G)) (k:∀ v w',G v w'->WL P n ops Q rest ((d,v) :: e) w')
 (hc:ev e c=some (.func (.func f) #[] #[]):=by exact rfl) (hv:∀ a,Has n e a->xs.map a.eval=vs:=by first|exact ZP rfl|exact Zg rfl rfl|exact ZY rfl rfl rfl|exact Z7j rfl rfl rfl rfl|exact Z67) (hd:Nat.blt d n=true:=by exact rfl) :
 WL P n ops Q (⟨some d,.call { callee:=.value c,args:=xs,argTypes:=ts },ty,pos,af,none⟩ :: rest) e w:=
 Z1 (Z6 hc hv h) hd k
theorem BX {S:List Nat} {d:Nat} {t:TypeId} {x:Operand} {v:Value} (hS:Stp S w0 w) (k:∀ b w',w.heap.size<=b->Blk w' b t v.cells.toList->Stp [] w w'->Stp S w0 w'->WL P n ops Q rest ((d,pQ b) :: e) w')
 (hx:ev e x=some v:=by exact rfl) (hd:Nat.blt d n=true:=by exact rfl):WL P n ops Q (⟨some d,.box t x,ty,pos,af,none⟩ :: rest) e w:=
 Z1 (Zp hx) hd (by rintro _ w' ⟨b,rfl,hb,hk,hT⟩;exact k b w' hb hk hT (hS.trans hT.mn))
theorem Z1f {Lt:List Nat} {ord:List (Nat×Nat)} {i d:Nat} {gd:Option (Nat×Bool)} {x:Operand} {t:TypeId} {D:TypeDesc} {ad:Addr} {v:Value} [hu:Und P t D] (hi:ops[i]?=some ⟨some d,.load t x,ty,pos,af,gd⟩) (hg:Z08 ops e gd) (hA:Z0V D=false) (hx:ev e x=some (.pointer (some ad))) (hc:w.cell? ad=some v) (hd:Nat.blt d n=true)
 (k:WD P n ops [] Lt Q ord ((d,v) :: e) w):WD P n ops [] Lt Q ((i,1) :: ord) e w:=J7 hi hg (λ_ hS=>JH hA hx (hS.cell0 hc)) hd k
theorem DP {S S0:List Nat} {Lt:List Nat} {ord:List (Nat×Nat)} {i f d:Nat} {fn:Func} {gd:Option (Nat×Bool)} {xs:Array Operand} {ts:Array TypeId} {vs:Array Value} {r:Value} {c:Operand} [hf:Fun P f fn] (hS:Stp S0 w0 w) (h:Calls P f vs w (Ret λv w'=>v=r/\Stp [] w w')) (k:∀ w',Stp [] w w'->Stp S0 w0 w'->WD P n ops S Lt Q ord ((d,r) :: e) w')
 (hi:ops[i]?=some ⟨some d,.call { callee:=.value c,args:=xs,argTypes:=ts },ty,pos,af,gd⟩:=by exact rfl) (hg:Z08 ops e gd:=by first|exact trivial|exact rfl)
 (hc:ev e c=some (.func (.func f) #[] #[]):=by exact rfl) (hv:∀ a,Has n e a->xs.map a.eval=vs:=by first|exact ZP rfl|exact Zg rfl rfl|exact ZY rfl rfl rfl|exact Z7j rfl rfl rfl rfl|exact Z67) (hd:Nat.blt d n=true:=by exact rfl) :
 WD P n ops S Lt Q ((i,2) :: ord) e w:=
 Za hi hg (Z6 hc hv h) (λ_ _ h=>h.2.mn) hd (by rintro _ w' ⟨rfl,hT⟩;exact k w' hT (hS.trans hT.mn))
end Go.Eng
namespace Go.Proofs.YtipfkbkkndacjaaGreatDoor
open Go Go.Eng Go.RowKit
def Zgh (l:List Cr) (nm:Str) (day b:Int) (i:Nat):Prop:=(l.getD i crZ).name=nm/\(l.getD i crZ).frm<=day/\(b<0\/(l.getD b.toNat crZ).frm<=(l.getD i crZ).frm)
instance (l:List Cr) (nm:Str) (day b:Int) (i:Nat):Decidable (Zgh l nm day b i):=by unfold Zgh;infer_instance
def Z5O (l:List Cr) (nm:Str) (day:Int):Nat->Int
 | 0=>-1
 | k+1=>if Zgh l nm day (Z5O l nm day k) k then k else Z5O l nm day k
def Zgi (l:List Cr) (nm:Str) (day:Int):Int:=Z5O l nm day l.length
theorem ZeZ (l:List Cr) (nm:Str) (day:Int):∀ k,-1<=Z5O l nm day k/\Z5O l nm day k<k
 | 0=>by simp [Z5O]
 | k + 1 => by
   have:=ZeZ l nm day k;simp only [Z5O];split<;>omega
theorem Zgj {A B C:Prop} [Decidable (A/\B/\C)] {x k b z:Int} {e:Eng.Env} {i:Nat} (h:x=if A/\B/\C then k else b) (he:Eng.look e i=some (.I z)) (hz:(A/\B/\C/\z=k)\/(¬ (B/\C)/\z=b)\/(¬ A/\z=b)):Eng.look e i=some (.I x):=by
 rw [he,h];rcases hz with ⟨a,b,c,rfl⟩|⟨a,rfl⟩|⟨a,rfl⟩
 rw [if_pos ⟨a,b,c⟩];rw [if_neg (λh=>a h.2)];rw [if_neg (λh=>a h.1)]
theorem Zco (v:Value) (l:List Cr) (nm:Str) (day:Int) (w) (hs:SlV [] w v l):CC 13 #[v,str nm,.I day] w λr w'=>r=.I (Zgi l nm day)/\Stp [] w w':=by
 have aT:=hs.max;refine cW3 44 Tryz.func13 ?_;refine W ?_;refine LP (σ:=Nat) (λk=>[(0,v),(1,str nm),(2,.I day),(7,.I (Z5O l nm day k)),(10,v),(11,.I l.length),(12,.I k)]) (λk w'=>k<=l.length/\Stp [] w w') (λk=>l.length - k) 0 ⟨by omega,Stp.refl _ _⟩ ?_;have ba:=hs;clear hs;rintro k w1 ⟨hk,hS⟩;have hs:=ba.up hS;by_cases ag:k<l.length;obtain ⟨cs,⟨kc,kd,rfl,g1,g2⟩,au⟩:=hs.cell ag;have hb:=ZeZ l nm day k;have aj:Z5O l nm day (k+1)=if l[k].name=nm/\l[k].frm<=day/\(Z5O l nm day k<0\/(l.getD (Z5O l nm day k).toNat crZ).frm<=l[k].frm) then (k:Int) else Z5O l nm day k:=by
  rw [Z5O];simp only [Zgh,show l.getD k crZ=l[k] by simp [ag]]
 generalize Z5O l nm day k=bb at *;refine QO ?_;refine Z9 (Z28 rfl rfl hs ag ⟨kc,kd,rfl,g1,g2⟩ au) rfl ?_;refine Z1 Z2 rfl ?_;rintro _ w2 ⟨b,rfl,kN,e9,hT⟩;refine W ?_;refine SB (us:=crC l[k] kc kd) (Z0q g1 g2) e9 ?_;rintro _ w3 ⟨aq,e9⟩;replace hS:=hS.trans (hT.ow aq);clear hT aq hs au g1 g2;refine W ?_;refine ZDr 24 [] [] [(0,0),(1,1),(2,0),(3,0),(4,0),(5,0),(6,1),(7,0),(8,0),(9,0),(10,0),(11,0),(12,0),(13,0),(14,0),(15,1),(16,0),(17,0),(18,0),(19,0),(20,1),(21,0),(22,0),(23,0)] (λw1 ae=>?_);replace e9:=e9.up ae;replace hS:=hS.trans ae;clear ae;have hs:=ba.up hS;by_cases h0:bb<0
 . repeat'(first|refine D1 ?_|omega|refine Zy rfl rfl rfl rfl (λhg=>?_) (λhg=>?_)|(refine Zq rfl rfl rfl rfl (λhg=>?_) (λhg=>?_)<;>refine D1 ?_)|fail)
   all_goals refine QO ?_
   all_goals
    refine Zx (k+1) ⟨rfl,rfl,rfl,?_,rfl,rfl,rfl,trivial⟩ ⟨by omega,hS⟩ (by omega);first|exact Zgj aj rfl (.inl ⟨by assumption,by omega,by omega,rfl⟩)|exact Zgj aj rfl (.inr (.inl ⟨by omega,rfl⟩))|exact Zgj aj rfl (.inr (.inr ⟨by assumption,rfl⟩))
 . obtain ⟨j,rfl⟩:∃ j:Nat,bb=j:=⟨bb.toNat,by omega⟩
   have hj:j<l.length:=by omega
   obtain ⟨cs,⟨kc2,kd2,rfl,-,-⟩,au⟩:=hs.cell hj;have hf:w1.cell? (ZM v j 7 1)=some (.I l[j].frm):=au 1 _ rfl;rw [show (j:Int).toNat=j by simp,show l.getD j crZ=l[j] by simp [hj]] at aj;repeat'(first|refine D1 ?_|omega|refine Z1f rfl (by first|exact trivial|exact rfl) rfl rfl (by assumption) rfl ?_|refine Zy rfl rfl rfl rfl (λhg=>?_) (λhg=>?_)|(refine Zq rfl rfl rfl rfl (λhg=>?_) (λhg=>?_)<;>refine D1 ?_)|fail)
   all_goals repeat'(first|refine W1 ?_|omega|refine VG ?_ ?_<;>intro hg|refine VC ?_ ?_<;>intro hc)
   all_goals
    refine Zx (k+1) ⟨rfl,rfl,rfl,?_,rfl,rfl,rfl,trivial⟩ ⟨by omega,hS⟩ (by omega);first|exact Zgj aj rfl (.inl ⟨by assumption,by omega,by omega,rfl⟩)|exact Zgj aj rfl (.inr (.inl ⟨by omega,rfl⟩))|exact Zgj aj rfl (.inr (.inr ⟨by assumption,rfl⟩))
 refine QO ?_;refine WR ?_;rw [show k=l.length by omega];exact .mk ⟨rfl,hS⟩
end Go.Proofs.YtipfkbkkndacjaaGreatDoor
namespace Go.Eng
open Go Go.RowKit Go.Proofs
variable {P:Program} {n:Nat} {Q:Exit->Act->World->Prop} {e:Env} {w w0:World} {rest:List Oper} {ops:Array Oper} {ty:TypeId} {pos:String} {af:Array Edge} {d:Option Nat} {g:Option (Nat×Bool)}
abbrev ltS (a b:Str):Bool:=Op.bytesLess a b
theorem Z7x {t u:TypeId} {x y:Operand} {a b:Str} {c:Bool} [hu:Und P t .string] (hx:ev e x=some (str a)) (hy:ev e y=some (str b)) (hc:ltS a b=c):PR P n ⟨d,.binOp .lss t x y u,ty,pos,af,g⟩ e w (.B c):=
 ⟨λ_ ha=>by simp only [execOp,ha.ev hx,ha.ev hy];subst hc;simp [go_sem,binOp,Op.stringOp]⟩
theorem Zf0 {t u:TypeId} {x y:Operand} {a b:Str} {c:Bool} [hu:Und P t .string] (hx:ev e x=some (str a)) (hy:ev e y=some (str b)) (hc:(!(ltS a b || a == b))=c):PR P n ⟨d,.binOp .gtr t x y u,ty,pos,af,g⟩ e w (.B c):=
 ⟨λ_ ha=>by simp only [execOp,ha.ev hx,ha.ev hy];subst hc;simp [go_sem,binOp,Op.stringOp]⟩
end Go.Eng
namespace Go.Proofs.YtipfkbkkndacjaaGreatDoor
open Go Go.Eng Go.RowKit
def Z42 (a b:Str):Int:=if ltS a b=true then -1 else if (!(ltS a b || a == b))=true then 1 else 0
def cmI (x y:Int):Int:=if x<y then -1 else if y<x then 1 else 0
theorem Z4z (x y:Int) (w):CC 75 #[.I x,.I y] w λr w'=>r=.I (cmI x y)/\Stp [] w w':=
 (Tryz.cmp_Compare_int x y w).mono (by
   rintro e w' ⟨rfl,rfl⟩;exact .mk ⟨rfl,Stp.refl _ _⟩)
theorem Z8l (a:Str) (w):CC 126 #[str a] w λr w'=>r=.B false/\Stp [] w w':=by
 refine cW1 6 Tryz.func126 ?_;refine RT ?_;exact ⟨by simp,Stp.refl _ _⟩
theorem ZjO (a b:Str) (w):CC 76 #[str a,str b] w λr w'=>r=.I (Z42 a b)/\Stp [] w w':=by
 refine cW2 20 Tryz.func76 ?_;refine W ?_;refine CP (Stp.refl [] w) (Z8l a _) λw1 _ hS=>?_;refine W ?_;refine CP hS (Z8l b _) λw2 _ hS=>?_;refine W ?_;cases h1:ltS a b
 . refine Z9 (Z7x rfl rfl h1) rfl ?_
   refine W ?_;cases h2:(!(ltS a b || a == b))
   all_goals
    refine Z9 (Zf0 rfl rfl h2) rfl ?_;refine RT ?_;exact ⟨by rw [Z42,if_neg (by simp [h1]),h2];rfl,hS⟩
 refine Z9 (Z7x rfl rfl h1) rfl ?_;refine RT ?_;exact ⟨by rw [Z42,h1];rfl,hS⟩
def orL (l:List Int):Int:=(l.find? (λx=>decide (x≠0))).getD 0
theorem ZdY {l:List Int} {k:Nat} (hk:k<l.length) (h:∀ j (h:j<l.length),j<k->l[j]=0) (h0:l[k]≠0):orL l=l[k]:=by
 have:l.find? (λx=>decide (x≠0))=some l[k]:=by
  rw [Yar];exact ⟨by simpa using h0,k,hk,rfl,λj hj=>by simp [h j (by omega) hj]⟩
 rw [orL,this];rfl
theorem Z8m {l:List Int} (h:∀ j (h:j<l.length),l[j]=0):orL l=0:=by
 have:l.find? (λx=>decide (x≠0))=none:=by
  rw [Yaq];intro x hx;obtain ⟨j,hj,rfl⟩:=Xr hx;simp [h j hj]
 rw [orL,this];rfl
theorem ZmW (v:Value) (l:List Int) (w) (hs:SlV [] w v l):CC 74 #[v] w λr w'=>r=.I (orL l)/\Stp [] w w':=by
 have aT:=hs.max;refine cW1 18 Tryz.func74 ?_;refine W ?_;refine LP (σ:=Nat) (λk=>[(3,.I 0),(6,v),(7,.I l.length),(8,.I k)]) (λk w'=>k<=l.length/\Stp [] w w'/\∀ j (h:j<l.length),j<k->l[j]=0) (λk=>l.length - k) 0 ⟨by omega,Stp.refl _ _,by omega⟩ ?_;have ba:=hs;clear hs;rintro k w1 ⟨hk,hS,hz⟩;have hs:=ba.up hS;by_cases ag:k<l.length;by_cases h0:l[k]=0;refine QO ?_;exact QL (k+1) ⟨by omega,hS,λj h hj=>by
  by_cases e:j=k;subst e;exact h0;exact hz j h (by omega)⟩ (by omega)
 refine RT ?_;exact ⟨by rw [ZdY ag hz h0],hS⟩;refine RT ?_;exact ⟨by rw [Z8m (λj h=>hz j h (by omega))],hS⟩
def Z4L (f g:Fct):Int:=orL [cmI f.day g.day,cmI f.entry g.entry,Z42 f.kind g.kind,cmI f.by_ g.by_,cmI f.to_ g.to_,cmI f.amt g.amt]
theorem Zcp (a b c d e f:Int) (w):(Instr.buildSlice 23 6 #[(0,.I a),(1,.I b),(2,.I c),(3,.I d),(4,.I e),(5,.I f)]).run Tryz.prog w=.ok (.slice (some ⟨w.heap.size,0,none⟩) 6 6) (w.alloc (.cells #[.I a,.I b,.I c,.I d,.I e,.I f] 3)):=by kernel_rfl
theorem ZjP (f g:Fct) (w):CC 43 #[aG f,aG g] w λr w'=>r=.I (Z4L f g)/\Stp [] w w':=by
 refine cW2 37 Tryz.func43 ?_;refine W ?_;refine BX (Stp.refl [] w) λb2 w1 h2 e2 _ hS=>?_;refine BX hS λb3 w2 h3 e3 hT hS=>?_;replace e2:=e2.up hT;replace e2:Blk w2 b2 45 (Z3.enc f):=e2;replace e3:Blk w2 b3 45 (Z3.enc g):=e3;refine W ?_;refine ZDr 33 [] [] [(0,0),(1,1),(2,0),(3,1),(5,0),(6,1),(7,0),(8,1),(10,0),(11,1),(12,0),(13,1),(15,0),(16,1),(17,0),(18,1),(20,0),(21,1),(22,0),(23,1),(25,0),(26,1),(27,0),(28,1),(4,2),(9,2),(14,2),(19,2),(24,2),(29,2),(30,2),(31,2),(32,0)] (λw1 ae=>?_);replace e2:=e2.up ae;replace e3:=e3.up ae;replace hS:=hS.trans ae;refine D ?_;clear ae e2 e3;refine DP hS (Z4z _ _ _) λ_ _ hS=>?_;refine DP hS (Z4z _ _ _) λ_ _ hS=>?_;refine DP hS (ZjO _ _ _) λ_ _ hS=>?_;refine DP hS (Z4z _ _ _) λ_ _ hS=>?_;refine DP hS (Z4z _ _ _) λ_ _ hS=>?_;refine DP hS (Z4z _ _ _) λ_ _ hS=>?_;refine Za rfl trivial (Z0 rfl (Zcp _ _ _ _ _ _)) (λ_ _ h=>Z5.stp h) rfl ?_;rintro bv wb hN;have an:=hN.slv (X:=[]) (ys:=[cmI f.day g.day,cmI f.entry g.entry,Z42 f.kind g.kind,cmI f.by_ g.by_,cmI f.to_ g.to_,cmI f.amt g.amt]) (by simp) rfl rfl (by simp [maxLen]);replace hS:=hS.trans (Z5.stp hN);refine DP hS (ZmW bv _ _ an) λ_ _ hS=>?_;refine D ?_;refine RT ?_;exact ⟨rfl,hS⟩
end Go.Proofs.YtipfkbkkndacjaaGreatDoor
namespace Go.Eng
open Go Go.RowKit Go.Proofs
variable {P:Program} {n:Nat} {Q:Exit->Act->World->Prop} {e:Env} {w w0:World} {rest:List Oper} {ops:Array Oper} {ty ty':TypeId} {pos pos':String} {af af':Array Edge}
theorem AP1 {β:Type} [Z3 β] {T t bytes d1 d2:Nat} {x y:Operand} {v z0 u:Value} {xs:List β} [ht:Und P t (.slice T)] [hk:Siz P T (Z7.k β)] [hb:Byt P T bytes] [hz:Zer P T z0] (z:β) (hr:ZI T w0 w v xs) (hl:xs.length<=100000000)
 (k:∀ v1 v' w',ZI T w0 w' v' (xs++[z])->Stp (ob v) w w'->WL P n ops Q rest ((d2,v') :: (d1,v1) :: e) w')
 (hx:ev e x=some v:=by exact rfl) (hy:Z0p e [(0,y)]=some [(0,u)]:=by exact rfl) (bh:∀ w:World,(Instr.buildSlice t 1 #[(0,u)]).run P w=.ok (.slice (some ⟨w.heap.size,0,none⟩) 1 1) (w.alloc (.cells (Z3.enc z).toArray T)):=by intro w;kernel_rfl)
 (lU:∀ v1,ev ((d1,v1) :: e) x=some v:=by intro _;exact rfl) (ic:∀ v1,ev ((d1,v1) :: e) (.tmp d1)=some v1:=by intro _;exact rfl)
 (fF:z0.cells.size=Z7.k β:=by exact rfl) (br:0<Z7.k β:=by decide) (dZ:bytes<=1000:=by decide) (h1:Nat.blt d1 n=true:=by exact rfl) (h2:Nat.blt d2 n=true:=by exact rfl) :
 WL P n ops Q (⟨some d1,.buildSlice t 1 #[(0,y)],ty,pos,af,none⟩ :: ⟨some d2,.call { callee:=.builtin .append,args:=#[x,.tmp d1],argTypes:=#[t,t] },ty',pos',af',none⟩ :: rest) e w:=by
 refine Z1 (Z0 (l:=[(0,y)]) (vs:=[(0,u)]) hy bh) h1 ?_;intro v1 w1 hN;have hT:Stp [] w w1:=hN.choose_spec.2.2.2;have an:SlV (ob v) w1 v1 [z]:=hN.slv (λb hb=>(hr.ob_le b hb).2) rfl (by simp) (by simp [maxLen]);refine Z1 (JD fF br (lU v1) (ic v1) (hr.up hT) an (by
  simp only [Xe,Xf];exact Xg (Ybd (Ybi hl 1) dZ) (by omega)) (by simp only [Xe,Xf,maxLen];omega)) h2 ?_
 rintro v' w2 ⟨g1,g2,-⟩;exact k v1 v' w2 g1 (hT.mn.trans g2)
theorem APR {β:Type} [Z3 β] {X:List Nat} {T t bytes d1 d2 base:Nat} {x y:Operand} {v z0 u:Value} {xs:List β} [ht:Und P t (.slice T)] [hk:Siz P T (Z7.k β)] [hb:Byt P T bytes] [hz:Zer P T z0] (z:β) (hr:Row X w base T v xs) (hX:∀ b∈X,b<w.heap.size) (dD:base<=w.heap.size) (hl:xs.length<=100000000)
 (k:∀ v1 v' w',Row X w' base T v' (xs++[z])->Stp (ob v) w w'->(∀ b∈ob v',b∈ob v\/w.heap.size<=b)->WL P n ops Q rest ((d2,v') :: (d1,v1) :: e) w')
 (hx:ev e x=some v:=by exact rfl) (hy:Z0p e [(0,y)]=some [(0,u)]:=by exact rfl) (bh:∀ w:World,(Instr.buildSlice t 1 #[(0,u)]).run P w=.ok (.slice (some ⟨w.heap.size,0,none⟩) 1 1) (w.alloc (.cells (Z3.enc z).toArray T)):=by intro w;kernel_rfl)
 (lU:∀ v1,ev ((d1,v1) :: e) x=some v:=by intro _;exact rfl) (ic:∀ v1,ev ((d1,v1) :: e) (.tmp d1)=some v1:=by intro _;exact rfl)
 (fF:z0.cells.size=Z7.k β:=by exact rfl) (br:0<Z7.k β:=by decide) (dZ:bytes<=1000:=by decide) (h1:Nat.blt d1 n=true:=by exact rfl) (h2:Nat.blt d2 n=true:=by exact rfl) :
 WL P n ops Q (⟨some d1,.buildSlice t 1 #[(0,y)],ty,pos,af,none⟩ :: ⟨some d2,.call { callee:=.builtin .append,args:=#[x,.tmp d1],argTypes:=#[t,t] },ty',pos',af',none⟩ :: rest) e w:=by
 refine Z1 (Z0 (l:=[(0,y)]) (vs:=[(0,u)]) hy bh) h1 ?_;intro v1 w1 hN;have hT:Stp [] w w1:=hN.choose_spec.2.2.2;have an:SlV (ob v++X) w1 v1 [z]:=hN.slv (λb hb=>by
  rcases Xi.1 hb with h|h
  exact (hr.ob_le b h).2;exact hX b h) rfl (by simp) (by simp [maxLen])
 refine Z1 (J4 (X:=X) (base:=base) fF br (lU v1) (ic v1) (hr.up hT) an (by
  simp only [Xe,Xf];exact Xg (Ybd (Ybi hl 1) dZ) (by omega)) (by simp only [Xe,Xf,maxLen];omega) (Xg dD hT.size)) h2 ?_
 rintro v' w2 ⟨g1,g2,g3⟩;exact k v1 v' w2 g1 (hT.mn.trans g2) (λb hb=>(g3 b hb).imp id (Xg hT.size))
end Go.Eng
namespace Go.Proofs.YtipfkbkkndacjaaGreatDoor
open Go Go.Eng Go.RowKit
def Z6v (l:List Fct):Nat->Fct
 | 0=>l.getD 0 default
 | k+1=>if Z4L (l.getD (k+1) default) (Z6v l k)<0 then l.getD (k+1) default else Z6v l k
theorem ZjQ (v:Value) (l:List Fct) (w) (hs:SlV [] w v l) (hn:l≠[]):CC 86 #[v,.func (.func 43) #[] #[]] w λr w'=>r=.agg (Z3.enc (Z6v l (l.length - 1))).toArray/\Stp [] w w':=by
 have aT:=hs.max;have br:0<l.length:=XW.2 hn;refine cW2 33 Tryz.func86 ?_;refine W ?_;refine Z1 Z2 rfl ?_;rintro _ w1 ⟨b4,rfl,bC,e4,hS⟩;have cn:=hs.up hS;refine QO ?_;refine Z1 Z2 rfl ?_;rintro _ w2 ⟨b5,rfl,jS,e5,hT⟩;have l4:=e4.lt;replace e4:=e4.up hT;refine SA (us:=Z3.enc l[0]) e5 ?_;rintro _ w3 ⟨aq,e5⟩;replace e4:=e4.ext aq (by simp;omega);replace hS:=hS.trans (hT.ow aq);clear hT aq cn;have l5:=e5.lt;have g4:b4≠b5:=by omega
 have g5:w.heap.size<=b5:=by have:=hS.size;omega
 refine W ?_;refine LP (σ:=Nat) (λk=>[(0,v),(1,.func (.func 43) #[] #[]),(4,pQ b4),(5,pQ b5),(6,.I ((k:Int)+1))]) (λk w'=>k<l.length/\Stp [] w w'/\Blk w' b5 45 (Z3.enc (Z6v l k))/\(∃ cs,Blk w' b4 45 cs/\cs.length=6)) (λk=>l.length - k) 0 ⟨br,hS,by rw [Z6v,show l.getD 0 default=l[0] by simp [br]];exact e5,_,e4,rfl⟩ ?_;clear e4 e5 hS;rintro k w4 ⟨hk,hS,e5,cs4,e4,fg⟩;have cn:=hs.up hS;by_cases ag:k+1<l.length;have aj:Z6v l (k+1)=if Z4L l[k+1] (Z6v l k)<0 then l[k+1] else Z6v l k:=by rw [Z6v,show l.getD (k+1) default=l[k+1] by simp [ag]]
 generalize Z6v l k=m at *;refine QO ?_;refine ZDr 8 [] [] [(0,0),(1,0),(2,0),(3,0),(4,1),(5,1),(6,2),(7,0)] (λw1 ae=>?_);replace cn:=cn.up ae;replace e5:=e5.up ae;replace e4:=e4.up ae;replace hS:=hS.trans ae;clear ae;refine D ?_;refine DP hS (ZjP l[k+1] m _) λw5 hT hS=>?_;replace cn:=cn.up hT;replace e5:=e5.up hT;replace e4:=e4.up hT;refine D ?_;by_cases hc:Z4L l[k+1] m<0;rw [if_pos hc] at aj;refine QO ?_;refine SA (us:=Z3.enc l[k+1]) e5 ?_;rintro _ w6 ⟨aq,e5⟩;replace e4:=e4.ext aq (by simp;omega);replace hS:=hS.ow aq;refine QO ?_;exact QL (k+1) ⟨ag,hS,by rw [aj];exact e5,_,e4,fg⟩ (by omega);rw [if_neg hc] at aj;refine QO ?_;exact QL (k+1) ⟨ag,hS,by rw [aj];exact e5,_,e4,fg⟩ (by omega);refine QO ?_;refine Z4 (Zb (us:=Z3.enc (Z6v l k)) rfl rfl rfl rfl (Z3.one _) e4 fg.symm) ?_;rintro _ w6 ⟨aq,e4⟩;refine QO ?_;refine Zk rfl rfl rfl e4 rfl ?_;rw [show l.length - 1=k by omega];exact .mk ⟨rfl,hS.ow aq⟩
theorem ZmX (w):(Instr.build 45 #[]).run Tryz.prog w=.ok (aG (default:Fct)) w:=by kernel_rfl
def Zcq (f:Fct) (unl:Str) (due:Int) (g:Fct):Bool:=decide (unl≠[]/\g.kind=unl/\g.by_=f.to_/\g.day<=due/\(f.day<=g.day\/due<f.day))
def Z8n (fs:List Fct) (f:Fct) (unl:Str) (due:Int):List Fct:=fs.filter (Zcq f unl due)
def ZdZ (fs:List Fct) (f:Fct) (unl:Str) (due:Int):Fct×Bool:=if Z8n fs f unl due=[] then (default,false) else (Z6v (Z8n fs f unl due) ((Z8n fs f unl due).length - 1),true)
theorem Zgk (fs:List Fct) (f:Fct) (unl:Str) (due:Int) (k:Nat) (h:k<fs.length):Z8n (fs.take (k+1)) f unl due=Z8n (fs.take k) f unl due++if Zcq f unl due fs[k]=true then [fs[k]] else []:=by
 unfold Z8n;rw [Xh h,Ya7];congr 1;cases hc:Zcq f unl due fs[k]<;>simp [hc]
theorem Ze0 (c:Cas) (R:Z1e) (f:Fct) (unl:Str) (due:Int) (w) (hs:SlV [] w R.fv c.fcts) (hl:c.fcts.length<=10000000):CC 56 #[.agg (JG c R).toArray,aG f,str unl,.I due] w λr w'=>r=.tuple #[.agg (Z3.enc (ZdZ c.fcts f unl due).1).toArray,.B (ZdZ c.fcts f unl due).2]/\Stp [] w w':=by
 refine cW4 65 Tryz.func56 ?_;refine W ?_;refine BX (Stp.refl [] w) λb4 w1 h4 e4 _ hS=>?_;replace e4:Blk w1 b4 37 (JG c R):=e4;refine BX hS λb5 w2 h5 e5 hT hS=>?_;replace e5:Blk w2 b5 45 (Z3.enc f):=e5;replace e4:=e4.up hT;refine W ?_;refine Z1 Z2 rfl ?_;rintro _ w3 ⟨b8,rfl,fC,e8,hT⟩;have g8:w.heap.size<=b8:=Xg hS.size fC;replace e4:=e4.up hT;replace e5:=e5.up hT;replace hS:=hS.trans hT;have eN:=hs.up hS;refine W ?_;refine LP (σ:=Nat×Value) (λq=>[(2,str unl),(3,.I due),(4,pQ b4),(5,pQ b5),(8,pQ b8),(9,.B false),(10,q.2),(14,R.fv),(15,.I c.fcts.length),(16,.I q.1)]) (λq w'=>q.1<=c.fcts.length/\ZI 45 w3 w' q.2 (Z8n (c.fcts.take q.1) f unl due)) (λq=>c.fcts.length - q.1) (0,.N) ⟨by omega,ZI.nil⟩ ?_;rintro ⟨k,rv⟩ w4 ⟨hk,hr⟩;dsimp only at hk hr ⊢;have e4':=e4.up hr.2;have e5':=e5.up hr.2;have ec:=eN.up hr.2;by_cases ag:k<c.fcts.length
 . have aj:=Zgk c.fcts f unl due k ag
   refine QO ?_;refine Z1 Z2 rfl ?_;rintro _ w5 ⟨b12,rfl,qI,e12,hT⟩;refine SA (us:=Z3.enc c.fcts[k]) e12 ?_;rintro _ w6 ⟨aq,e12⟩;replace hT:=hT.ow aq;replace e4':=e4'.up hT;replace e5':=e5'.up hT;replace hr:=hr.up hT;clear hT aq ec;repeat'(first|refine W1 ?_|omega|refine VG ?_ ?_<;>intro hg|refine VC ?_ ?_<;>intro hc)
   all_goals first
    | exact QL (k + 1, rv) ⟨ag, by
       rw [aj,if_neg,XD];exact hr;simp only [Zcq,decide_eq_true_eq];rintro ⟨a,b,c,d,e⟩;first|contradiction|omega⟩ (by dsimp only;omega)
    | refine AP1 c.fcts[k] hr (Xg (XZ _ _) (by simp; omega)) λv1 v' w' bH _ => ?_
      refine QO ?_;exact QL (k+1,v') ⟨ag,by
       rw [aj,if_pos (show Zcq f unl due c.fcts[k]=true from decide_eq_true ⟨by assumption,by assumption,by omega,by omega,by omega⟩)];exact bH⟩ (by dsimp only;omega)
 have eQ:SlV [] w4 rv (Z8n (c.fcts.take k) f unl due):=hr.slv (by simp);obtain rfl:k=c.fcts.length:=by omega
 rw [Xo] at eQ;have e8':=e8.up hr.2;replace hS:=hS.trans hr.2;clear hr;unfold ZdZ;generalize Z8n c.fcts f unl due=L at *;have hz:((L.length:Int)=0)↔L=[]:=by simp
 (refine QP ?_ ?_<;>intro hc)
 obtain rfl:L=[]:=hz.1 (by assumption);refine Z8 (vs:=[]) rfl ZmX rfl ?_;refine Z4 (Zb (us:=Z3.enc (default:Fct)) rfl rfl rfl rfl (Z3.one _) e8' rfl) ?_;rintro _ w6 ⟨aq,e8''⟩;refine W ?_;refine Zl rfl rfl rfl e8'' rfl rfl ?_;exact .mk ⟨rfl,hS.ow aq⟩;have hL:L≠[]:=λh=>absurd (hz.2 h) (by assumption)
 rw [if_neg hL];refine CP hS (ZjQ rv L w4 eQ hL) λw5 hT hS=>?_;replace e8':=e8'.up hT;refine Z4 (Zb (us:=Z3.enc (Z6v L (L.length - 1))) rfl rfl rfl rfl (Z3.one _) e8' rfl) ?_;rintro _ w6 ⟨aq,e8''⟩;refine W ?_;refine Zl rfl rfl rfl e8'' rfl rfl ?_;exact .mk ⟨rfl,hS.ow aq⟩
theorem Zwb (a b:Ins) (w):(binOp .eql 171 (agg a) (agg b)).run Tryz.prog w=.ok (.B (decide (a=b))) w:=by
 have h1:Program.stoodInHeld Tryz.prog 171=false:=by kernel_rfl
 obtain ⟨a1,a2⟩:=a;obtain ⟨b1,b2⟩:=b;simp [agg,Z3.enc,run_eql_struct,run_equalIn_struct,h1,Program.fieldsOf,Tryz.underlying171,Op.eqFields,part,Und.isAgg,Z0V,run_equalIn_int w _ _ .i64 .i64 _ _ Tryz.underlying3];repeat' split
 all_goals simp_all
theorem Ze1 (v:Value) (l:List Ins) (x:Ins) (w) (hs:SlV [] w v l):CC 153 #[v,agg x] w λr w'=>(∃ z:Int,r=.I z/\(0<=z↔x∈l))/\Stp [] w w':=by
 have aT:=hs.max;refine cW2 19 Tryz.func153 ?_;refine W ?_;refine BX (Stp.refl [] w) λb3 w1 h3 e3 _ hS=>?_;replace e3:Blk w1 b3 171 (Z3.enc x):=e3;have cn:=hs.up hS;refine W ?_;refine LP (σ:=Nat) (λk=>[(0,v),(3,pQ b3),(6,v),(7,.I l.length),(8,.I k)]) (λk w'=>k<=l.length/\Stp [] w1 w'/\∀ j (h:j<l.length),j<k->l[j]≠x) (λk=>l.length - k) 0 ⟨by omega,Stp.refl _ _,by omega⟩ ?_;rintro k w2 ⟨hk,hT,hz⟩;have bu:=cn.up hT;have e3':=e3.up hT;by_cases ag:k<l.length;refine QO ?_;refine ZDr 6 [] [] [(0,1),(1,0),(2,0),(3,0),(4,1),(5,0)] (λw1 ae=>?_);replace bu:=bu.up ae;replace e3':=e3'.up ae;replace hT:=hT.trans ae;refine D ?_;apply Z2E;exact rfl;refine Zmj (c:=x=l[k]) trivial rfl rfl (λw=>ZsB _ _ _ x l[k] w) (by intro w;exact Zwb x l[k] w) rfl ?_;refine D ?_
 (refine QP ?_ ?_<;>intro hc)
 refine RU ?_;exact ⟨⟨_,rfl,by constructor<;>intro _<;>first|omega|(rw [hc];exact Xd ag)⟩,hS.trans hT⟩;exact QL (k+1) ⟨ag,hT,λj h hj=>by
  by_cases e:j=k;subst e;exact λh=>hc h.symm;exact hz j h (by omega)⟩ (by omega)
 refine RT ?_;exact ⟨⟨_,rfl,by
  constructor;intro h;omega;intro h;obtain ⟨j,hj,e⟩:=Xr h;exact absurd e (hz j hj (by omega))⟩,hS.trans hT⟩
theorem Z8o (v:Value) (l:List Ins) (x:Ins) (w) (hs:SlV [] w v l):CC 85 #[v,agg x] w λr w'=>r=.B (decide (x∈l))/\Stp [] w w':=by
 refine cW2 9 Tryz.func85 ?_;refine W ?_;refine BX (Stp.refl [] w) λb3 w1 h3 e3 _ hS=>?_;replace e3:Blk w1 b3 171 (Z3.enc x):=e3;refine W ?_;refine CG (Ze1 v l x _ (hs.up hS)) ?_;rintro _ w2 ⟨⟨z,rfl,hz⟩,hT⟩;refine RT ?_;exact ⟨congrArg Value.bool (decide_eq_decide.2 hz),hS.trans hT⟩
def Z2P (l:List Ins):Bool:=decide ((⟨4,1⟩:Ins)∈l) || decide ((⟨4,2⟩:Ins)∈l)
theorem Zcr (a b:Int) (w):(Instr.build 171 #[(0,.I a),(1,.I b)]).run Tryz.prog w=.ok (agg (⟨a,b⟩:Ins)) w:=by kernel_rfl
theorem Zcs (v:Value) (l:List Ins) (w) (hs:SlV [] w v l):CC 54 #[v] w λr w'=>r=.B (Z2P l)/\Stp [] w w':=by
 refine cW1 11 Tryz.func54 ?_;refine W ?_;refine Z8 (vs:=[(0,.I 4),(1,.I 1)]) rfl (Zcr _ _) rfl ?_;refine CP (Stp.refl [] w) (Z8o v l _ w hs) λw1 _ hS=>?_;unfold Z2P;by_cases h1:(⟨4,1⟩:Ins)∈l;rw [decide_eq_true h1];refine RT ?_;exact ⟨rfl,hS⟩;rw [decide_eq_false h1];refine QO ?_;refine Z8 (vs:=[(0,.I 4),(1,.I 2)]) rfl (Zcr _ _) rfl ?_;refine W ?_;refine CP hS (Z8o v l _ _ (hs.up hS)) λw2 _ hS=>?_;refine RT ?_;exact ⟨by simp,hS⟩
end Go.Proofs.YtipfkbkkndacjaaGreatDoor
namespace Go.Eng
open Go Go.RowKit Go.Proofs
section
variable {P:Program} {n:Nat} {Q:Exit->Act->World->Prop} {e:Env} {w w0 w':World} {rest:List Oper} {ops:Array Oper} {ty:TypeId} {pos:String} {af:Array Edge} {dd:Option Nat} {g:Option (Nat×Bool)}
structure StD (w w':World):Prop where
 s:Stp [] w w'
 d:w.drawn<=w'.drawn
theorem StD.refl (w):StD w w:=⟨Stp.refl _ _,Xn _⟩
theorem StD.trans {a b c:World} (h:StD a b) (k:StD b c):StD a c:=⟨h.s.trans k.s,Xg h.d k.d⟩
theorem StD.grown {w w':World} (h:StD w w'):∃ q os',w'=Go.Sort.grow (w.drewN q) os':=by
 refine ⟨w'.drawn - w.drawn,w'.heap.extract w.heap.size w'.heap.size,?_⟩;obtain ⟨⟨h1,h2,h3,h4,h5⟩,h6⟩:=h;have hh:w'.heap=w.heap++w'.heap.extract w.heap.size w'.heap.size:=by
  apply Array.ext_getElem?;intro i;by_cases hi:i<w.heap.size;rw [h5 i hi (by simp),XX hi];rw [Array.getElem?_append_right (by omega),Array.getElem?_extract];by_cases cp:i<w'.heap.size;rw [if_pos (by omega)];congr 1;omega;rw [if_neg (by omega),Yah (by omega)]
 cases w';cases w;simp only [Go.Sort.grow,World.drewN] at *;subst h1 h2 h3;simp only [World.mk.injEq,true_and,and_true];exact ⟨hh,by omega⟩
theorem Zgl {id:Nat} {l:List Oper} (m:Nat) (S:List Nat) (Lt:List Nat) (ord:List (Nat×Nat)) (cF:l.length=m) (hm:P.follows .mixedOrders=true) (hs:Region.noSelect l.toArray=true) (hl:Nat.beq (wt ord) l.length=true)
 (hB:J6 l.toArray Lt ord (Array.replicate m false)=true)
 (h:∀ w',StD w w'->WD P n l.toArray S Lt Q ord e w'):WC P n (.region id l.toArray true) Q e w:=by
 subst cF;refine ⟨λa ha=>wp_region_any hm ?_⟩;have h1:=(h { w with drawn:=w.drawn+1 } ⟨Stp.drew [] w,Nat.le_succ _⟩).h _ hs hB a ha;have h2:=Z0W (Q:=Q) (λa w hz=>hz) _ _ _ _ h1;rw [XR hl] at h2;simpa using h2
theorem BXD {d:Nat} {t:TypeId} {x:Operand} {v:Value} (hS:StD w0 w) (k:∀ b w',w.heap.size<=b->Blk w' b t v.cells.toList->StD w w'->StD w0 w'->WL P n ops Q rest ((d,pQ b) :: e) w')
 (hx:ev e x=some v:=by exact rfl) (hd:Nat.blt d n=true:=by exact rfl):WL P n ops Q (⟨some d,.box t x,ty,pos,af,none⟩ :: rest) e w:=by
 have ho:OE P n ⟨some d,.box t x,ty,pos,af,none⟩ e w (λu w'=>Z7F w t v.cells.toList u w'/\w'.drawn=w.drawn):=
  Jd (v:=.pointer (some ⟨w.heap.size,0,none⟩)) (w':=w.alloc (.cells v.cells t)) (λa ha=>by
   simp [execOp,Instr.box,ha.ev hx,newVar,newRow,newObj];rfl) ⟨by simpa using Zai w t v.cells.toList,rfl⟩
 refine Z1 ho hd ?_;rintro _ w' ⟨⟨b,rfl,hb,hk,hT⟩,he⟩;have h1:StD w w':=⟨hT,Nat.le_of_eq he.symm⟩
 exact k b w' hb hk h1 (hS.trans h1)
theorem Z8p {t T len:Nat} {l:List (Nat×Operand)} {vs:List (Nat×Value)} {cs:List Value} (hv:Z0p e l=some vs)
 (hb:∀ w:World,(Instr.buildSlice t len vs.toArray).run P w=.ok (.slice (some ⟨w.heap.size,0,none⟩) len len) (w.alloc (.cells cs.toArray T))) :
 OE P n ⟨dd,.buildSlice t len l.toArray,ty,pos,af,g⟩ e w (λv w'=>Z5 w T len cs v w'/\StD w w'):=
 Jd (v:=.slice (some ⟨w.heap.size,0,none⟩) len len) (w':=w.alloc (.cells cs.toArray T)) (λa ha=>by
  have h1:=ha.parts hv;have h2:l.toArray.map (λ(x:Nat×Operand)=>match x with|(i,x)=>(i,a.eval x))=vs.toArray:=by
   rw [YbA];exact congrArg List.toArray h1
  simp only [execOp];rw [h2];simp [hb w]) ⟨⟨w.heap.size,rfl,Xn _,heap_alloc_new w _,Stp.alloc _ _ _⟩,⟨Stp.alloc _ _ _,Xn _⟩⟩
theorem CPD {f d:Nat} {fn:Func} {xs:Array Operand} {ts:Array TypeId} {vs:Array Value} {r:Value} {c:Operand} [hf:Fun P f fn] (hS:StD w0 w) (h:Calls P f vs w (Ret λv w'=>v=r/\StD w w')) (k:∀ w',StD w w'->StD w0 w'->WL P n ops Q rest ((d,r) :: e) w')
 (hc:ev e c=some (.func (.func f) #[] #[]):=by exact rfl) (hv:∀ a,Has n e a->xs.map a.eval=vs:=by first|exact ZP rfl|exact Zg rfl rfl|exact ZY rfl rfl rfl|exact Z7j rfl rfl rfl rfl|exact Z67) (hd:Nat.blt d n=true:=by exact rfl) :
 WL P n ops Q (⟨some d,.call { callee:=.value c,args:=xs,argTypes:=ts },ty,pos,af,none⟩ :: rest) e w:=
 Z1 (Z6 hc hv h) hd (by rintro _ w' ⟨rfl,hT⟩;exact k w' hT (hS.trans hT))
theorem DPD {Lt:List Nat} {ord:List (Nat×Nat)} {i f d:Nat} {fn:Func} {gd:Option (Nat×Bool)} {xs:Array Operand} {ts:Array TypeId} {vs:Array Value} {r:Value} {c:Operand} {S:List Nat} [hf:Fun P f fn] (hS:StD w0 w) (h:Calls P f vs w (Ret λv w'=>v=r/\StD w w')) (k:∀ w',StD w w'->StD w0 w'->WD P n ops S Lt Q ord ((d,r) :: e) w')
 (hi:ops[i]?=some ⟨some d,.call { callee:=.value c,args:=xs,argTypes:=ts },ty,pos,af,gd⟩:=by exact rfl) (hg:Z08 ops e gd:=by first|exact trivial|exact rfl)
 (hc:ev e c=some (.func (.func f) #[] #[]):=by exact rfl) (hv:∀ a,Has n e a->xs.map a.eval=vs:=by first|exact ZP rfl|exact Zg rfl rfl|exact ZY rfl rfl rfl|exact Z7j rfl rfl rfl rfl|exact Z67) (hd:Nat.blt d n=true:=by exact rfl) :
 WD P n ops S Lt Q ((i,2) :: ord) e w:=
 Za hi hg (Z6 hc hv h) (λ_ _ h=>h.2.s.mn) hd (by rintro _ w' ⟨rfl,hT⟩;exact k w' hT (hS.trans hT))
end
section
variable {w:World} {T:Nat}
theorem Zgm {g q:Nat} {cur F:Array Value} (os:Array Obj) (h:w.heap[g]?=some (.cells cur T (0,0))) (hl:F.size<=cur.size) :
 Stp [g] w (Go.Sort.grow (Go.Sort.putRow id (Go.Sort.ahead w q) g 0 F) os)/\
 ∃ cur',(Go.Sort.grow (Go.Sort.putRow id (Go.Sort.ahead w q) g 0 F) os).heap[g]?=some (.cells cur' T (0,0))/\cur'.size=cur.size/\cur'.toList.take F.size=F.toList:=by
 have ag:g<w.heap.size:=(Xm.1 h).1;have hh:(Go.Sort.grow (Go.Sort.putRow id (Go.Sort.ahead w q) g 0 F) os).heap=w.heap.modify g (Go.Sort.onCells (Go.Sort.putCells id 0 F))++os:=rfl;refine ⟨⟨rfl,rfl,rfl,by rw [hh];simp,λb hb hn=>?_⟩,Go.Sort.putCells id 0 F cur,?_,by simp [Go.Sort.putCells],?_⟩;rw [hh,XX (by simpa using hb),YaV,if_neg (by simp at hn;exact λe=>hn e.symm)];rw [hh,XX (by simpa using ag),YaV,if_pos rfl,h];rfl;apply YaE;simp [Go.Sort.putCells];omega;intro i h1 h2;have hi:i<F.size:=by simpa using h2
 simp [Go.Sort.putCells,hi]
theorem Ze2 {g:Nat} {cur F:Array Value} (h:w.heap[g]?=some (.cells cur T (0,0))) (ht:cur.toList.take F.size=F.toList):Go.Sort.Holds id w g 0 F:=by
 intro j hj;have hc:cur[j]?=some F[j]:=by
  have h1:(cur.toList.take F.size)[j]?=some F[j]:=by rw [ht];simp [hj]
  rw [Yaf,if_pos hj] at h1;simpa using h1
 constructor;simp [World.cell?,h,hc,hj];simp [World.frozen?,h]
theorem Z8q {β:Type} [Z3 β] [Inhabited β] (hk:0<Z3.k β) (xs:List β):(Go.Sort.flatK Z3.enc (Z3.k β) xs.toArray).toList=(xs.map Z3.enc).flatten:=by
 have ai:((xs.map Z3.enc).flatten:List Value).length=xs.length * Z3.k β:=by
  rw [Z12 (k:=Z3.k β) _ (by intro c hc;obtain ⟨x,_,rfl⟩:=XK.1 hc;exact Z3.len x),Xt]
 apply List.ext_getElem?;intro t;by_cases ht:t<xs.length * Z3.k β;have hq:t / Z3.k β<xs.length:=Nat.div_lt_of_lt_mul (by rwa [Ya9] at ht);have hr:t % Z3.k β<Z3.k β:=YbD _ hk;have h1:=Z0v (k:=Z3.k β) (xs.map Z3.enc) (by intro c hc;obtain ⟨x,_,rfl⟩:=XK.1 hc;exact Z3.len x) (t / Z3.k β) (by simpa using hq) (t % Z3.k β) ((Z3.enc xs[t / Z3.k β])[t % Z3.k β]'(by rw [Z3.len];exact hr)) (by simp [Z3.len,hr]);rw [Ya9,Ybj] at h1;rw [h1];have h2:=Go.Sort.get_flatK Z3.enc (Z3.k β) xs.toArray t (by simpa using ht);have hs:t<(Go.Sort.flatK Z3.enc (Z3.k β) xs.toArray).size:=by simpa using ht
 rw [getElem!_pos _ t hs] at h2;rw [YaW,Array.getElem?_eq_getElem hs,h2];congr 1;rw [getElem!_pos xs.toArray _ (by simpa using hq),getElem!_pos _ _ (by rw [Z3.len];exact hr)];simp;rw [YaU (by simpa using Yby ht),YaU (by rw [ai];omega)]
theorem Row.toK {β:Type} [Z3 β] {X:List Nat} {base:Nat} {v:Value} {zs:List β} (h:Row X w base T v zs) :
 (v=.N/\zs=[])\/∃ g cap cur,v=.slice (some ⟨g,0,none⟩) zs.length cap/\base<=g/\w.heap[g]?=some (.cells cur T (0,0))/\zs.length<=cap/\cap<=maxLen/\cur.size=cap * Z3.k β/\cur.toList.take (zs.length * Z3.k β)=(zs.map Z3.enc).flatten:=by
 obtain ⟨css,hl,hr,hx,ho⟩:=h;have hc:css=zs.map Z3.enc:=by
  apply YaE (by simpa using hl);intro i h1 h2;have:css[i]=Z3.enc zs[i]:=hr i (by omega) h1;simp [this]
 subst hc;rcases ho with ⟨rfl,hn⟩|⟨g,cap,cur,rfl,hb,hg,cI,bR,bo,ht⟩
 exact .inl ⟨rfl,Xw.1 hn⟩;exact .inr ⟨g,cap,cur,rfl,hb,hg,cI,bR,bo,ht⟩
theorem Row.ofK {β:Type} [Z3 β] {X:List Nat} {base g cap:Nat} {cur:Array Value} {zs:List β} (hb:base<=g) (hg:w.heap[g]?=some (.cells cur T (0,0))) (cI:zs.length<=cap) (bR:cap<=maxLen) (bo:cur.size=cap * Z3.k β)
 (ht:cur.toList.take (zs.length * Z3.k β)=(zs.map Z3.enc).flatten):Row X w base T (.slice (some ⟨g,0,none⟩) zs.length cap) zs:=
 ⟨zs.map Z3.enc, by simp, λi h1 h2 => by simp; rfl, by
   rw [Z12 (k:=Z3.k β) _ (by intro c hc;obtain ⟨x,_,rfl⟩:=XK.1 hc;exact Z3.len x),Xt];rfl,
   .inr ⟨g,cap,cur,rfl,hb,hg,cI,bR,bo,ht⟩⟩
theorem Z29 {β:Type} [Z3 β] {X X':List Nat} {base:Nat} {v:Value} {zs:List β} (h:Row X w base T v zs):Row X' w base T v zs:=by
 rcases h.toK with ⟨rfl,rfl⟩|⟨g,cap,cur,rfl,hb,hg,cI,bR,bo,ht⟩
 exact Row.nil;exact Row.ofK hb hg cI bR bo ht
open Go.Shelf Go.Sort in
theorem Z9K {β:Type} [Z3 β] [Inhabited β] {P:Program} {ρ:Ren} (fc:0<Z3.k β) (L:SlLaysF0.n6 P ρ) (aE:∀ w,(isAgg (ρ.t 24)).run P w=.ok true w) (zE:∀ w,(Go.sizeOf (ρ.t 24)).run P w=.ok (Z3.k β) w) (cf:β->β->Int) (hO:SWO (ltOf cf)) (g:Nat) {fn:Func} [hf:Fun P g fn]
 (qJ:∀ (x y:β) (w),Calls P g #[aG x,aG y] w (Ret λr w'=>r=.I (cf x y)/\StD w w'))
 {X:List Nat} {base:Nat} {v:Value} {zs:List β} (h:Row X w base T v zs) (bI:zs.length<4611686018427387904) :
 Calls P (ρ.f 6) #[v,.func (.func g) #[] #[]] w (Ret λr w'=>r=.tuple #[]/\∃ zs':List β,zs'.Perm zs/\(∀ i j (hi:i<zs'.length) (hj:j<zs'.length),i<j->¬ cf zs'[j] zs'[i]<0)/\Row X w' base T v zs'/\Stp (ob v) w w'):=by
 rcases h.toK with ⟨rfl,rfl⟩|⟨gb,cap,cur,rfl,hb,hg,cI,bR,bo,ht⟩
 refine (AnyF.slices_SortFunc_none L none 0 _ w).mono ?_;rintro _ _ ⟨rfl,rfl⟩;exact .mk ⟨rfl,[],YaH _,λi j hi=>absurd hi (Xu _),Row.nil,Stp.refl _ _⟩;have ag:gb<w.heap.size:=(Xm.1 hg).1;have hC:CmpLays P g #[] Z3.enc (Z3.k β) cf gb 0 zs.toArray.size w:=λm os dk hs x y=>by
  refine (qJ x y _).mono ?_;rintro _ _ ⟨_,rfl,rfl,hD⟩;exact ⟨rfl,hD.grown⟩
 have hH:HoldsK Z3.enc (Z3.k β) w gb 0 zs.toArray:=Ze2 hg (by rw [size_flatK,Z8q fc];simpa using ht);have hS:=AnyQ.slices_SortFunc L (Z3.k β) aE zE Z3.enc Z3.len Z3.one cf hO g #[] gb 0 cap zs.toArray w (λargs w=>hf.enters args w) hC hH ag (by simpa using bI);rw [show zs.toArray.size=zs.length by simp] at hS;refine hS.mono ?_;rintro _ _ ⟨rfl,d',q,os,⟨p1,p2,p3⟩,d9,rfl⟩;have hl:d'.size=zs.length:=by simpa using p1
 have hp:d'.toList.Perm zs:=by
  have e1:d'.extract 0 zs.length=d':=by rw [<- hl];simp
  have e2:zs.toArray.extract 0 zs.length=zs.toArray:=by simp
  rw [e1,e2] at p3;simpa using p3
 obtain ⟨h1,cur',h2,h3,h4⟩:=Zgm (q:=q) (F:=flatK Z3.enc (Z3.k β) d') os hg (by rw [size_flatK,hl,bo];exact Xp _ cI);refine .mk ⟨rfl,d'.toList,hp,λi j hi hj dC=>?_,?_,h1⟩;have:=d9 i j (Xq _) dC (by simpa [hl] using hj);simp only [ltOf,decide_eq_false_iff_not] at this;rw [getElem!_pos d' j (by simpa using hj),getElem!_pos d' i (by simpa using hi)] at this;simpa using this;have hz:zs.length=d'.toList.length:=by simp [hl]
 rw [hz];refine Row.ofK hb h2 (by rw [<- hz];exact cI) bR (by rw [h3,bo]) ?_;rw [<- hz,<- hl,<- size_flatK Z3.enc (Z3.k β) d',h4];have:=Z8q fc d'.toList;simpa using this
end
variable {P:Program} {n:Nat} {e:Env} {w:World} {d:Option Nat} {ty:TypeId} {pos:String} {af:Array Edge} {g:Option (Nat×Bool)}
theorem Zf1 {T k bytes:Nat} {z:Value} [hk:Siz P T k] [hb:Byt P T bytes] [hz:Zer P T z]:∃ i,P.info? T=some i/\i.size=k/\i.bytes=bytes/\i.zero=some z:=by
 have a1:=hk.h;have a2:=hb.h;have a3:=hz.h;cases hi:P.info? T with
 | none=>simp [hi] at a1
 | some i=>exact ⟨i,rfl,by simpa [hi] using a1,by simpa [hi] using a2,by simpa [hi] using a3⟩
def Zxb (T k m:Nat) (w:World) (v:Value) (w':World):Prop:=∃ b cur,v=.slice (some ⟨b,0,none⟩) m m/\w.heap.size<=b/\w'.heap[b]?=some (.cells cur T (0,0))/\cur.size=m * k/\m<=maxLen/\Stp [] w w'
theorem Z97 {t T bytes k m:Nat} {x y:Operand} {z:Value} [ht:Und P t (.slice T)] [hk:Siz P T k] [hb:Byt P T bytes] [hz:Zer P T z]
 (hx:ev e x=some (.I (m:Int))) (hy:ev e y=some (.I (m:Int))) (gE:m<=maxLen) (hbytes:bytes * m<=281474976710656) :
 OE P n ⟨d,.makeSlice t x y,ty,pos,af,g⟩ e w (Zxb T k m w):=by
 obtain ⟨i,hi,bJ,cp,fq⟩:=Zf1 (P:=P) (T:=T) (k:=k) (bytes:=bytes) (z:=z);obtain ⟨w',bh,cb,qc⟩:=run_make_full (P:=P) w w.heap.size t T i z k ht.h hi fq bJ .i64 .i64 m (by rw [cp];exact hbytes) gE (Xn _);refine Jd (v:=.slice (some ⟨w.heap.size,0,none⟩) m m) (w':=w') (λa ha=>?_) ?_;simp [execOp,ha.ev hx,ha.ev hy,bh];rcases cb.2 with ⟨h,_⟩|⟨gb,cap,cur,h,cr,hg,hn,hm,bo,lS⟩
 cases h;cases h;exact ⟨_,cur,rfl,Xn _,hg,bo,gE,Stp.of_grown qc⟩
theorem ZjR {β:Type} [Z3 β] {t T bytes b:Nat} {x y:Operand} {z u:Value} {zs:List β} {cur:Array Value} {base:Nat} [ht:Und P t (.slice T)] [hk:Siz P T (Z7.k β)] [hb:Byt P T bytes] [hz:Zer P T z]
 (hx:ev e x=some (.slice (some ⟨b,0,none⟩) zs.length zs.length)) (hy:ev e y=some u) (hs:SlV [] w u zs) (hg:w.heap[b]?=some (.cells cur T (0,0))) (bo:cur.size=zs.length * Z7.k β) (aX:base<=b) (hm:zs.length<=maxLen) :
 OE P n ⟨d,.call { callee:=.builtin .copy,args:=#[x,y],argTypes:=#[t,t] },ty,pos,af,g⟩ e w (λ_ w'=>(∀ X,Row X w' base T (.slice (some ⟨b,0,none⟩) zs.length zs.length) zs)/\Stp [b] w w'):=by
 obtain ⟨i,hi,bJ,cp,fq⟩:=Zf1 (P:=P) (T:=T) (k:=Z7.k β) (bytes:=bytes) (z:=z);have dE:((zs.map Z3.enc).flatten:List Value).length=zs.length * Z7.k β:=by
  rw [Z12 (k:=Z3.k β) _ (by intro c hc;obtain ⟨x,_,rfl⟩:=XK.1 hc;exact Z3.len x),Xt];rfl
 have aN:∀ v∈(zs.map Z3.enc).flatten,v.oneCell'=true:=by
  intro v hv;obtain ⟨c,hc,fj⟩:=List.mem_flatten.1 hv;obtain ⟨x,_,rfl⟩:=XK.1 hc;exact Z3.one x v fj
 have ay:=run_storeCells_at (P:=P) b 0 T (zs.map Z3.enc).flatten 0 cur w hg (by rw [dE,bo];omega) aN;obtain ⟨p,c,rfl,xJ,bR,cH,au⟩:=hs;have pX:(Builtin.firstCells (Z7.k β) zs.length (.slice p zs.length c)).run P w=.ok (zs.map Z3.enc).flatten.toArray w:=by
  cases p with
  | none=>
    have h0:zs.length=0:=by have:=cH rfl;omega
    obtain rfl:=Xw.1 h0;simp [Builtin.firstCells]
  | some a=>
    have:=run_loadCells_list (P:=P) (w:=w) a (zs.map Z3.enc).flatten (λj v hj=>by
     have ft:j<zs.length * Z3.k β:=by
      have h1:=(Xx.1 hj).1;rw [dE] at h1;exact h1
     have vi:0<Z3.k β:=by
      rcases Nat.eq_zero_or_pos (Z3.k β) with h|h
      rw [h] at ft;omega;exact h
     have hq:j / Z3.k β<zs.length:=Nat.div_lt_of_lt_mul (by rwa [Ya9] at ft);have hr:j % Z3.k β<Z3.k β:=YbD _ vi;obtain ⟨b',o,cs,h1,h2,h3,h4,h5⟩:=au _ hq;cases h1;have oG:cs=Z3.enc zs[j / Z3.k β]:=h4;have h6:=Z0v (k:=Z3.k β) (zs.map Z3.enc) (by intro c hc;obtain ⟨x,_,rfl⟩:=XK.1 hc;exact Z3.len x) (j / Z3.k β) (by simpa using hq) (j % Z3.k β) ((Z3.enc zs[j / Z3.k β])[j % Z3.k β]'(by rw [Z3.len];exact hr)) (by simp [Z3.len,hr]);rw [Ya9,Ybj] at h6;rw [h6] at hj;have h7:=h5 (j % Z3.k β) _ (by rw [oG];exact XU (by rw [Z3.len];exact hr));rw [X1 hj] at h7;have h8:o+j / Z3.k β * Z3.k β+j % Z3.k β=o+j:=by
      have:=Ybj j (Z3.k β);rw [Ya9] at this;omega
     have h9:(⟨b',o,none⟩:Addr).add j=⟨b',o+j,none⟩:=by unfold Addr.add;split<;>simp_all
     rw [h9,<- h8];exact h7)
    rw [dE] at this;simpa [Builtin.firstCells] using this
 refine Jd (v:=goInt zs.length) (w':=w.setRow b ((zs.map Z3.enc).flatten++cur.toList.drop ((zs.map Z3.enc).flatten.length)).toArray) (λa ha=>?_) ⟨λX=>?_,Z1U _ _ _⟩;have hr:(Builtin.copy_ #[t,t] ty #[.slice (some ⟨b,0,none⟩) zs.length zs.length,.slice p zs.length c]).run P w=.ok (goInt zs.length) (w.setRow b ((zs.map Z3.enc).flatten++cur.toList.drop ((zs.map Z3.enc).flatten.length)).toArray):=by
  simp only [Ybn,XN,Ybs,XT] at ay;simp [Builtin.copy_,run_underlying ht.h,Builtin.lenOf,sizeOf,typeInfo,hi,bJ,pX,ay]
 generalize w.setRow b ((zs.map Z3.enc).flatten++cur.toList.drop ((zs.map Z3.enc).flatten.length)).toArray=W' at hr ⊢;simp [execOp,resolve,invoke,builtin,ha.ev hx,ha.ev hy,hr];have ou:b<w.heap.size:=(Xm.1 hg).1;refine Row.ofK (cur:=((zs.map Z3.enc).flatten++cur.toList.drop ((zs.map Z3.enc).flatten.length)).toArray) aX (setRow_heap w b cur _ T (0,0) hg) (Xn _) hm ?_ ?_;have:Z3.k β=Z7.k β:=rfl;rw [this];simp only [Yat,Xc,Yap,Yai,dE,bo];omega;have:Z3.k β=Z7.k β:=rfl;rw [this];simp only [List.take_append_of_le_length (Nat.le_of_eq dE.symm)];rw [<- dE,Xo]
end Go.Eng
namespace Go.Proofs.YtipfkbkkndacjaaGreatDoor
open Go Go.Eng Go.RowKit
theorem Zgn (x y:Int) (w):CC 75 #[.I x,.I y] w λr w'=>r=.I (cmI x y)/\StD w w':=
 (Tryz.cmp_Compare_int x y w).mono (by
   rintro e w' ⟨rfl,rfl⟩;exact .mk ⟨rfl,StD.refl _⟩)
theorem ZjS (a:Str) (w):CC 126 #[str a] w λr w'=>r=.B false/\StD w w':=by
 refine cW1 6 Tryz.func126 ?_;refine RT ?_;exact ⟨by simp,StD.refl _⟩
theorem Zwc (a b:Str) (w):CC 76 #[str a,str b] w λr w'=>r=.I (Z42 a b)/\StD w w':=by
 refine cW2 20 Tryz.func76 ?_;refine W ?_;refine CPD (StD.refl w) (ZjS a _) λw1 _ hS=>?_;refine W ?_;refine CPD hS (ZjS b _) λw2 _ hS=>?_;refine W ?_;cases h1:ltS a b
 . refine Z9 (Z7x rfl rfl h1) rfl ?_
   refine W ?_;cases h2:(!(ltS a b || a == b))
   all_goals
    refine Z9 (Zf0 rfl rfl h2) rfl ?_;refine RT ?_;exact ⟨by rw [Z42,if_neg (by simp [h1]),h2];rfl,hS⟩
 refine Z9 (Z7x rfl rfl h1) rfl ?_;refine RT ?_;exact ⟨by rw [Z42,h1];rfl,hS⟩
theorem Zxc (v:Value) (l:List Int) (w) (hs:SlV [] w v l):CC 74 #[v] w λr w'=>r=.I (orL l)/\StD w w':=by
 have aT:=hs.max;refine cW1 18 Tryz.func74 ?_;refine W ?_;refine LP (σ:=Nat) (λk=>[(3,.I 0),(6,v),(7,.I l.length),(8,.I k)]) (λk w'=>k<=l.length/\StD w w'/\∀ j (h:j<l.length),j<k->l[j]=0) (λk=>l.length - k) 0 ⟨by omega,StD.refl _,by omega⟩ ?_;have ba:=hs;clear hs;rintro k w1 ⟨hk,hS,hz⟩;have hs:=ba.up hS.s;by_cases ag:k<l.length;by_cases h0:l[k]=0;refine QO ?_;exact QL (k+1) ⟨by omega,hS,λj h hj=>by
  by_cases e:j=k;subst e;exact h0;exact hz j h (by omega)⟩ (by omega)
 refine RT ?_;exact ⟨by rw [ZdY ag hz h0],hS⟩;refine RT ?_;exact ⟨by rw [Z8m (λj h=>hz j h (by omega))],hS⟩
theorem Zwd (f g:Fct) (w):CC 43 #[aG f,aG g] w λr w'=>r=.I (Z4L f g)/\StD w w':=by
 refine cW2 37 Tryz.func43 ?_;refine W ?_;refine BXD (StD.refl w) λb2 w1 h2 e2 _ hS=>?_;refine BXD hS λb3 w2 h3 e3 hT hS=>?_;replace e2:=e2.up hT.s;replace e2:Blk w2 b2 45 (Z3.enc f):=e2;replace e3:Blk w2 b3 45 (Z3.enc g):=e3;refine W ?_;refine Zgl 33 [] [] [(0,0),(1,1),(2,0),(3,1),(5,0),(6,1),(7,0),(8,1),(10,0),(11,1),(12,0),(13,1),(15,0),(16,1),(17,0),(18,1),(20,0),(21,1),(22,0),(23,1),(25,0),(26,1),(27,0),(28,1),(4,2),(9,2),(14,2),(19,2),(24,2),(29,2),(30,2),(31,2),(32,0)] rfl mixed (by kernel_rfl) (by kernel_rfl) (by kernel_rfl) (λw1 ae=>?_);replace e2:=e2.up ae.s;replace e3:=e3.up ae.s;replace hS:=hS.trans ae;refine D ?_;clear ae e2 e3;refine DPD hS (Zgn _ _ _) λ_ _ hS=>?_;refine DPD hS (Zgn _ _ _) λ_ _ hS=>?_;refine DPD hS (Zwc _ _ _) λ_ _ hS=>?_;refine DPD hS (Zgn _ _ _) λ_ _ hS=>?_;refine DPD hS (Zgn _ _ _) λ_ _ hS=>?_;refine DPD hS (Zgn _ _ _) λ_ _ hS=>?_;refine Za rfl trivial (Z8p rfl (Zcp _ _ _ _ _ _)) (λ_ _ h=>Z5.stp h.1) rfl ?_;rintro bv wb ⟨hN,hT⟩;have an:=hN.slv (X:=[]) (ys:=[cmI f.day g.day,cmI f.entry g.entry,Z42 f.kind g.kind,cmI f.by_ g.by_,cmI f.to_ g.to_,cmI f.amt g.amt]) (by simp) rfl rfl (by simp [maxLen]);replace hS:=hS.trans hT;refine DPD hS (Zxc bv _ _ an) λ_ _ hS=>?_;refine D ?_;refine RT ?_;exact ⟨rfl,hS⟩
theorem Zwe (a b:Spn) (w):CC 151 #[aG a,aG b] w λr w'=>r=.I (cmI a.1 b.1)/\StD w w':=by
 refine cW2 10 Tryz.func151 ?_;refine W ?_;refine BXD (StD.refl w) λb2 w1 h2 e2 _ hS=>?_;refine BXD hS λb3 w2 h3 e3 hT hS=>?_;replace e2:=e2.up hT.s;replace e2:Blk w2 b2 75 (Z3.enc a):=e2;replace e3:Blk w2 b3 75 (Z3.enc b):=e3;refine W ?_;refine CPD hS (Zgn _ _ _) λw3 _ hS=>?_;refine RT ?_;exact ⟨rfl,hS⟩
def Ze3 (s:Spn):List Spn->List Spn
 | []=>[s]
 | x :: l=>if s.1<x.1 then s :: x :: l else x :: Ze3 s l
def Zf2 (l:List Spn):List Spn:=l.foldr Ze3 []
def Z0e (acc:List Spn) (s:Spn):List Spn:=
 match acc.getLast? with
 | none=>[s]
 | some t=>if s.1<=t.2+1 then acc.dropLast++[(t.1,max t.2 s.2)] else acc++[s]
def Z3g (l:List Spn):List Spn:=(Zf2 l).foldl Z0e []
structure Z8r (l:List Spn):Prop where
 len:l.length<=1000
 rng:∀ s∈l,0<=s.1/\s.1<=s.2/\s.2<=3652058
theorem Z4A (s:Spn):Z0e [] s=[s]:=rfl
theorem Z06 (L:List Spn) (u s:Spn):Z0e (L++[u]) s=if s.1<=u.2+1 then L++[(u.1,max u.2 s.2)] else L++[u]++[s]:=by
 simp [Z0e]
theorem Z6w (s:Spn):∀ l,(Ze3 s l).Perm (s :: l)
 | []=>YaH _
 | x :: l => by
   rw [Ze3];split;exact YaH _
   . exact ((Z6w s l).cons x).trans (List.Perm.swap _ _ _)
theorem Z76 (s:Spn):∀ l:List Spn,l.Pairwise (λa b=>a.1<=b.1)->(Ze3 s l).Pairwise (λa b=>a.1<=b.1)
 | [],_=>by simp [Ze3]
 | x :: l, h => by
   rw [Ze3];rw [X3] at h;split;rename_i ag;refine X3.2 ⟨λy hy=>?_,X3.2 h⟩;rcases Xb.1 hy with rfl|hy
   omega;have:=h.1 y hy;omega;rename_i ag;refine X3.2 ⟨λy hy=>?_,Z76 s l h.2⟩;rcases Xb.1 ((Z6w s l).mem_iff.1 hy) with rfl|hy
   omega;exact h.1 y hy
theorem Z3h:∀ l,(Zf2 l).Perm l
 | []=>YaH _
 | x :: l=>(Z6w x _).trans ((Z3h l).cons x)
theorem Z5P:∀ l,(Zf2 l).Pairwise (λa b=>a.1<=b.1)
 | []=>List.Pairwise.nil
 | x :: l=>Z76 x _ (Z5P l)
theorem Ze4 {acc:List Spn} {s t:Spn} (h:s.1=t.1) (hs:s.1<=s.2) (ht:t.1<=t.2):Z0e (Z0e acc s) t=Z0e (Z0e acc t) s:=by
 obtain ⟨s1,s2⟩:=s;obtain ⟨t1,t2⟩:=t;dsimp only at h hs ht;subst h;rcases Yan acc with rfl|⟨L,u,rfl⟩
 rw [Z4A,Z4A];have e1:=Z06 [] (s1,s2) (s1,t2);have e2:=Z06 [] (s1,t2) (s1,s2);rw [XT] at e1 e2;rw [e1,e2,if_pos (by dsimp only;omega),if_pos (by dsimp only;omega)];dsimp only;rw [Int.max_comm];obtain ⟨u1,u2⟩:=u;rw [Yao,Z06,Z06];dsimp only;by_cases hc:s1<=u2+1;rw [if_pos hc,if_pos hc,Z06,Z06,if_pos (by dsimp only;omega),if_pos (by dsimp only;omega)];dsimp only;congr 3;omega;rw [if_neg hc,if_neg hc,Z06,Z06,if_pos (by dsimp only;omega),if_pos (by dsimp only;omega)];dsimp only;rw [Int.max_comm]
theorem Z9L {x:Spn} (hx:x.1<=x.2):∀ (A:List Spn) (acc:List Spn),(∀ a∈A,a.1=x.1/\a.1<=a.2)->Z0e (A.foldl Z0e acc) x=A.foldl Z0e (Z0e acc x)
 | [],_,_=>rfl
 | a :: A, acc, h => by
   rw [X2,X2,Z9L hx A _ (λb hb=>h b (by simp [hb])),Ze4 (h a (by simp)).1 (h a (by simp)).2 hx]
theorem Zct:∀ (L1 L2 acc:List Spn),L1.Perm L2->L1.Pairwise (λa b=>a.1<=b.1)->L2.Pairwise (λa b=>a.1<=b.1)->(∀ s∈L1,s.1<=s.2)->L1.foldl Z0e acc=L2.foldl Z0e acc
 | [],L2,acc,hp,_,_,_=>by rw [List.nil_perm.1 hp]
 | x :: l, L2, acc, hp, h1, h2, hv => by
   obtain ⟨A,B,rfl⟩:=List.append_of_mem (hp.mem_iff.1 (YaS));have hq:l.Perm (A++B):=(hp.trans List.perm_middle).cons_inv;rw [X3] at h1;have j4:=Ybh.1 h2;rw [X2,Yau,X2,Z9L (hv x (by simp)) A acc (λa ha=>?_),<- Yau];refine Zct l (A++B) _ hq h1.2 ?_ (λs hs=>hv s (by simp [hs]));exact h2.sublist (List.Sublist.append_left (List.sublist_cons_self _ _) _);have eK:a∈l:=hq.mem_iff.2 (by simp [ha]);have g1:=h1.1 a eK;have g2:=j4.2.2 a ha x (by simp);exact ⟨by omega,hv a (by simp [eK])⟩
theorem Zgo {l L:List Spn} (hp:L.Perm l) (hs:L.Pairwise (λa b=>a.1<=b.1)) (hv:∀ s∈l,s.1<=s.2):Z3g l=L.foldl Z0e []:=
 Zct _ _ _ ((Z3h l).trans hp.symm) (Z5P l) hs (λs h=>hv s ((Z3h l).mem_iff.1 h))
theorem Zgp (acc:List Spn) (s:Spn):(Z0e acc s).length<=acc.length+1:=by
 rcases Yan acc with rfl|⟨L,u,rfl⟩
 simp [Z0e];rw [Yao,Z06];split<;>simp
theorem Z6x:∀ (L acc:List Spn),(L.foldl Z0e acc).length<=acc.length+L.length
 | [],acc=>by simp
 | x :: L, acc => by
   rw [X2];have h1:=Z6x L (Z0e acc x);have h2:=Zgp acc x;rw [Xe];omega
def SpV (s:Spn):Prop:=0<=s.1/\s.1<=s.2/\s.2<=3652058
theorem ZmY {acc:List Spn} {s:Spn} (ha:∀ x∈acc,SpV x) (hs:SpV s):∀ x∈Z0e acc s,SpV x:=by
 rcases Yan acc with rfl|⟨L,u,rfl⟩
 rw [Z4A];intro x hx;simp only [Xk] at hx;subst hx;exact hs;rw [Yao] at ha ⊢;rw [Z06];have hu:=ha u (by simp);intro x hx;unfold SpV at *;split at hx;rcases Xi.1 hx with h|h
 exact ha x (by simp [h]);simp only [Xk] at h;subst h;dsimp only;omega;rcases Xi.1 hx with h|h
 exact ha x h;simp only [Xk] at h;subst h;exact hs
theorem ZaO:∀ (L acc:List Spn),(∀ x∈acc,SpV x)->(∀ x∈L,SpV x)->∀ x∈L.foldl Z0e acc,SpV x
 | [],acc,h,_=>h
 | y :: L,acc,h,hL=>ZaO L _ (ZmY h (hL y (by simp))) (λx hx=>hL x (by simp [hx]))
theorem ZjT {l:List Spn} (h:Z8r l):Z8r (Z3g l):=by
 have hp:=Z3h l;refine ⟨?_,ZaO _ _ (by simp) (λx hx=>h.rng x (hp.mem_iff.1 hx))⟩;have:=Z6x (Zf2 l) [];rw [hp.length_eq] at this;have:=h.len;unfold Z3g;simp at *;omega
open Go Go.Eng Go.RowKit Go.Shelf Go.Sort
theorem Zxd {α:Type} (f:α->Int):SWO (ltOf λx y:α=>cmI (f x) (f y)):=by
 have h:∀ x y,ltOf (λx y:α=>cmI (f x) (f y)) x y=decide (f x<f y):=by
  intro x y;unfold ltOf cmI;by_cases h1:f x<f y;simp [h1];by_cases h2:f y<f x<;>simp [h1,h2]
 refine ⟨λx=>by rw [h];simp,λx y z h1 h2=>?_,λx y z h1 h2=>?_⟩;rw [h] at *;simp at *;omega;rw [h] at *;simp at *;omega
instance:Inhabited Spn:=⟨(0,0)⟩
theorem Zcu {X:List Nat} {base:Nat} {v:Value} {zs:List Spn} {w} (h:Row X w base 75 v zs) (bI:zs.length<=1000) :
 CC 150 #[v,.func (.func 151) #[] #[]] w λr w'=>r=.tuple #[]/\∃ zs':List Spn,zs'.Perm zs/\(∀ i j (hi:i<zs'.length) (hj:j<zs'.length),i<j->¬ cmI zs'[j].1 zs'[i].1<0)/\Row X w' base 75 v zs'/\Stp (ob v) w w':=
 Z9K (β:=Spn) (by decide) Tryz.sortSpn Tryz.isAgg75 Tryz.sizeOf75 (λx y=>cmI x.1 y.1) (Zxd Prod.fst) 151 (λx y w=>Zwe x y w) h (by omega)
theorem Zgq (v:Value) (l:List Spn) (w) (hs:SlV [] w v l) (ho:Z8r l):CC 83 #[v] w λr w'=>ZI 75 w w' r (Z3g l):=by
 have ai:=ho.len;refine cW1 58 Tryz.func83 ?_;refine W ?_;refine Z1 (Z97 (m:=l.length) rfl rfl (by simp only [maxLen];omega) (Xg (Nat.mul_le_mul_left _ ai) (by decide))) rfl ?_;rintro _ w1 ⟨b,cur,rfl,hb,hg,bo,hm,hT⟩;have cn:=hs.up hT;refine W ?_;refine Z1 (ZjR (base:=w.heap.size) rfl rfl cn hg bo hb hm) rfl ?_;rintro _ w2 ⟨hr,aq⟩;replace hT:=hT.ow aq;refine W ?_;refine CL (Zcu (hr []) ai) ?_;rintro _ w3 ⟨rfl,L,hp,d9,dA,cA⟩;have hS:Stp [] w w3:=hT.own cA (λc hc=>.inr (by simp [ob] at hc;omega));have vj:L.Pairwise (λa b=>a.1<=b.1):=Yam.2 (λi j hi hj dC=>by
  have:=d9 i j hi hj dC;unfold cmI at this;by_cases h1:L[j].1<L[i].1;rw [if_pos h1] at this;omega;omega)
 rw [Zgo hp vj (λs h=>(ho.rng s h).2.1)];have hv:∀ s∈L,SpV s:=λs h=>ho.rng s (hp.mem_iff.1 h);have jK:L.length=l.length:=hp.length_eq;have hL:L.length<=1000:=by rw [jK];exact ai
 have ax:SlV [] w3 (.slice (some ⟨b,0,none⟩) l.length l.length) L:=dA.slv (by simp);rw [<- jK] at *;clear hr dA cn hT aq cA hg bo d9 hp;generalize xK:Value.slice (some ⟨b,0,none⟩) L.length L.length=vv at *;refine W ?_;refine LP (σ:=Nat×Value) (λq=>[(4,q.2),(16,vv),(17,.I L.length),(18,.I q.1)]) (λq w'=>q.1<=L.length/\ZI 75 w3 w' q.2 ((L.take q.1).foldl Z0e [])) (λq=>L.length - q.1) (0,.N) ⟨by omega,ZI.nil⟩ ?_;rintro ⟨k,rv⟩ w4 ⟨hk,hr⟩;dsimp only at hk hr ⊢;by_cases ag:k<L.length;have eh:=ax.up hr.2;have aj:(L.take (k+1)).foldl Z0e []=Z0e ((L.take k).foldl Z0e []) L[k]:=by rw [Xh ag,Yau];rfl
 have dE:=Z6x (L.take k) [];have fR:=ZaO (L.take k) [] (by simp) (λx hx=>hv x (Yas hx));have vk:=hv _ (Xd ag);rw [Xv,Xf] at dE;generalize (L.take k).foldl Z0e []=acc at *;refine QO ?_;refine Z1 Z2 rfl ?_;rintro _ w5 ⟨b6,rfl,ew,e6,hA⟩;refine SA (us:=Z3.enc L[k]) e6 ?_;rintro _ w6 ⟨dp,e6⟩;replace hA:=hA.ow dp;replace hr:=hr.up hA;clear hA dp eh;have eQ:SlV [] w6 rv acc:=hr.slv (by simp);refine W ?_;rcases Yan acc with rfl|⟨M,u,rfl⟩
 refine ZDr 14 [] [] [(0,0),(1,0),(2,0),(3,0),(4,1),(5,0),(6,0),(7,0),(8,0),(9,0),(10,1),(11,0),(12,0),(13,0)] (λw1 ae=>?_);replace hr:=hr.up ae;replace e6:=e6.up ae;refine D ?_;refine W ?_;refine AP1 L[k] hr (by simp) λv1 v' w' bH _=>?_
 refine W ?_;exact QL (k+1,v') ⟨ag,by rw [aj,Z4A];exact bH⟩ (by dsimp only;omega);rw [Yao] at *;rw [Z06] at aj;have kD:((M++[u]).length:Int) - 1=(M.length:Nat):=by simp
 have lV:M.length<(M++[u]).length:=by simp
 have dw:(M++[u])[M.length]=u:=by simp
 have hu:=fR u (by simp);unfold SpV at hu vk;have vl:0<=(M++[u])[M.length].2/\(M++[u])[M.length].2<=3652058:=by rw [dw];omega
 have gf:0<((M++[u]).length:Int):=by simp
 refine ZDr 14 [] [] [(0,0),(1,0),(2,0),(3,0),(4,1),(5,0),(6,0),(7,0),(8,0),(9,0),(10,1),(11,0),(12,0),(13,0)] (λw1 ae=>?_);replace hr:=hr.up ae;replace eQ:=eQ.up ae;replace e6:=e6.up ae;refine QD ?_;rw [dw];refine W ?_;refine VC ?_ ?_<;>intro hc;rw [if_pos hc] at aj;refine W ?_;refine ZDr 15 [] [14] [(0,0),(1,0),(2,0),(3,0),(4,0),(5,0),(6,0),(7,0),(8,1),(9,0),(10,1),(11,0),(12,0),(13,0),(14,2)] (λw1 ae=>?_);replace hr:=hr.up ae;replace eQ:=eQ.up ae;replace e6:=e6.up ae;refine QD ?_;rw [dw];refine JA rfl trivial (Zat (y':=(u.1,max u.2 L[k].2)) (u:=.I (max u.2 L[k].2)) rfl rfl rfl rfl rfl hr lV (by decide) (by rw [dw];rfl)) rfl ?_;rintro _ w8 ⟨s7,-⟩;refine D ?_;refine W ?_;rw [show (M++[u]).set M.length (u.1,max u.2 L[k].2)=M++[(u.1,max u.2 L[k].2)] by simp] at s7;exact QL (k+1,rv) ⟨ag,by rw [aj];exact s7⟩ (by dsimp only;omega);rw [if_neg hc] at aj;refine W ?_;refine AP1 L[k] hr (by omega) λv1 v' w' bH _=>?_
 refine W ?_;exact QL (k+1,v') ⟨ag,by rw [aj];exact bH⟩ (by dsimp only;omega);obtain rfl:k=L.length:=by omega
 rw [Xo] at hr;refine QO ?_;refine WR ?_;exact .mk (hr.pre hS)
def Z8s (start:Int):List Spn->Int->Int
 | [],d=>d
 | s :: l,d=>if d<s.1 then d else Z8s start l (d+max 0 (s.2 - max s.1 (start+1)+1))
def Z8t (start due:Int) (l:List Spn):Int×Int:=if due<=start then (due,0) else if 3652058<Z8s start (Z3g l) due then (0,31) else (Z8s start (Z3g l) due,0)
theorem Zgr (start:Int) (L:List Spn) (d:Int) (k:Nat) (h:k<L.length):Z8s start (L.drop k) d=if d<L[k].1 then d else Z8s start (L.drop (k+1)) (d+max 0 (L[k].2 - max L[k].1 (start+1)+1)):=by
 rw [Yac h,Z8s]
theorem Z8u (start due:Int) (v:Value) (l:List Spn) (w) (hs:SlV [] w v l) (ho:Z8r l) (h1:-1000000000<=start/\start<=1000000000) (h2:-1000000000<=due/\due<=1000000000):CC 51 #[.I start,.I due,v] w λr w'=>r=.tuple #[.I (Z8t start due l).1,.I (Z8t start due l).2]/\Stp [] w w':=by
 have hm:=ZjT ho;unfold Z8t;refine cW3 41 Tryz.func51 ?_;by_cases hd:due<=start;rw [if_pos hd];refine RT ?_;exact ⟨rfl,Stp.refl _ _⟩;rw [if_neg hd];refine QO ?_;refine CG (Zgq v l w hs ho) ?_;intro rv w1 hr;have hS:=hr.2;have eQ:SlV [] w1 rv (Z3g l):=hr.slv (by simp);clear hr;generalize Z3g l=L at *;refine W ?_;refine Z0o (σ:=Int) (λd=>[(0,.I start),(1,.I d)]) (λd w'=>Stp [] w w'/\d=Z8s start L due/\-1000000000<=d/\d<=9000000000000) ?_ ?_;refine LP (σ:=Nat×Int) (λq=>[(0,.I start),(1,.I q.2),(15,rv),(16,.I L.length),(17,.I q.1)]) (λq w'=>q.1<=L.length/\Stp [] w1 w'/\Z8s start (L.drop q.1) q.2=Z8s start L due/\-1000000000<=q.2/\q.2<=1000000000+q.1 * 4000000000) (λq=>L.length - q.1) (0,due) ⟨by omega,Stp.refl _ _,rfl,h2.1,by dsimp only;omega⟩ ?_;rintro ⟨k,d⟩ w2 ⟨hk,hT,he,g1,g2⟩;dsimp only at hk he g1 g2 ⊢;have ai:=hm.len;have qK:=eQ.up hT;by_cases ag:k<L.length;obtain ⟨r1,r2,r3⟩:=hm.rng _ (Xd ag);have aj:=Zgr start L d k ag;rw [he] at aj;refine QO ?_;refine Z1 Z2 rfl ?_;rintro _ w3 ⟨b9,rfl,iu,e9,am⟩;refine SA (us:=Z3.enc L[k]) e9 ?_;rintro _ w4 ⟨aI,e9⟩;replace hT:=hT.trans (am.ow aI);clear am aI qK;simp only [Z3.enc] at e9;by_cases hb:d<L[k].1;rw [if_pos hb] at aj;refine QO ?_;exact QT d ⟨hS.trans hT,aj.symm,g1,by omega⟩;rw [if_neg hb] at aj;refine QO ?_;exact Zx (k+1,d+max 0 (L[k].2 - max L[k].1 (start+1)+1)) ⟨rfl,rfl,rfl,rfl,rfl,trivial⟩ ⟨ag,hT,aj.symm,by dsimp only;omega,by dsimp only;omega⟩ (by dsimp only;omega);refine QO ?_;rw [YaA (by omega)] at he;exact QT d ⟨hS.trans hT,he,g1,by omega⟩;rintro d w2 ⟨ah,rfl,g1,g2⟩;generalize Z8s start L due=d at *;by_cases hc:3652058<d;rw [if_pos hc];refine RT ?_;exact ⟨rfl,ah⟩;rw [if_neg hc];refine RT ?_;exact ⟨rfl,ah⟩
def Zoc (start due:Int) (l:List Spn):Int:=if (Z8t start due l).2≠0 then 3652058 else (Z8t start due l).1
def Z6y (start e:Int) (s:Spn):Bool:=decide (start<s.2/\s.1<=e)
def Z77 (start due:Int) (l:List Spn):List Spn:=if due<=start then [] else l.filter (Z6y start (Zoc start due l))
theorem Zcv {α:Type} (p:α->Bool) (l:List α) (k:Nat) (h:k<l.length):(l.take (k+1)).filter p=(l.take k).filter p++if p l[k]=true then [l[k]] else []:=by
 rw [Xh h,Ya7];congr 1;cases hc:p l[k]<;>simp [hc]
theorem ZjU (start due:Int) (v:Value) (l:List Spn) (w) (hs:SlV [] w v l) (ho:Z8r l) (h1:-1000000000<=start/\start<=1000000000) (h2:-1000000000<=due/\due<=1000000000):CC 55 #[.I start,.I due,v] w λr w'=>ZI 75 w w' r (Z77 start due l):=by
 have ai:=ho.len;unfold Z77;refine cW3 46 Tryz.func55 ?_;by_cases hd:due<=start;rw [if_pos hd];refine QO ?_;refine WR ?_;exact .mk ZI.nil;rw [if_neg hd];refine QO ?_;refine CP (Stp.refl [] w) (Z8u start due v l w hs ho h1 h2) λw1 _ hS=>?_;refine W ?_;unfold Zoc;generalize Z8t start due l=p;obtain ⟨d,c⟩:=p;dsimp only;refine JJ (σ:=Unit) (λ_=>[(0,.I start),(2,v),(7,.I (if c≠0 then 3652058 else d))]) (λ_ w'=>Stp [] w w') ?_ ?_;by_cases hc:c=0;rw [if_neg (by simpa using hc)];refine QO ?_;exact QT () hS;rw [if_pos hc];refine QO ?_;exact QT () hS;rintro _ w2 hS;generalize (if c≠0 then (3652058:Int) else d)=E;have bu:=hs.up hS;refine W ?_;refine LP (σ:=Nat×Value) (λq=>[(0,.I start),(7,.I E),(9,q.2),(24,v),(25,.I l.length),(26,.I q.1)]) (λq w'=>q.1<=l.length/\ZI 75 w w' q.2 ((l.take q.1).filter (Z6y start E))) (λq=>l.length - q.1) (0,.N) ⟨by omega,ZI.pre hS ZI.nil⟩ ?_;rintro ⟨k,rv⟩ w3 ⟨hk,hr⟩;dsimp only at hk hr ⊢;have eN:=hs.up hr.2;by_cases ag:k<l.length
 . have aj:=Zcv (Z6y start E) l k ag
   refine QO ?_;refine Z1 Z2 rfl ?_;rintro _ w4 ⟨b11,rfl,qL,e11,am⟩;refine SA (us:=Z3.enc l[k]) e11 ?_;rintro _ w5 ⟨aI,e11⟩;replace hr:=hr.up (am.ow aI);clear am aI eN;repeat'(first|refine W1 ?_|omega|refine VG ?_ ?_<;>intro hg|refine VC ?_ ?_<;>intro hc)
   all_goals first
    | exact QL (k + 1, rv) ⟨ag, by
       rw [aj,if_neg (show ¬ Z6y start E l[k]=true by simp only [Z6y,decide_eq_true_eq];omega),XD];exact hr⟩ (by dsimp only;omega)
    | refine AP1 l[k] hr (Xg (XZ _ _) (by simp; omega)) λv1 v' w' bH _ => ?_
      refine QO ?_;exact QL (k+1,v') ⟨ag,by
       rw [aj,if_pos (show Z6y start E l[k]=true from decide_eq_true ⟨by omega,by omega⟩)];exact bH⟩ (by dsimp only;omega)
 obtain rfl:k=l.length:=by omega
 rw [Xo] at hr;refine QO ?_;refine WR ?_;exact .mk hr
def Zgs (l:List Spn):Int:=if 64<l.length then 2 else if l.any (λs=>decide (s.1<0\/s.2<s.1\/3652058<s.2)) then 5 else 0
theorem ZaP (v:Value) (l:List Spn) (w) (hs:SlV [] w v l):CC 113 #[v] w λr w'=>r=.I (Zgs l)/\Stp [] w w':=by
 have aT:=hs.max;unfold Zgs;refine cW1 33 Tryz.func113 ?_;by_cases jN:64<l.length;rw [if_pos jN];refine RT ?_;exact ⟨rfl,Stp.refl _ _⟩;rw [if_neg jN];refine QO ?_;refine LP (σ:=Nat) (λk=>[(0,v),(9,.I l.length),(10,.I k)]) (λk w'=>k<=l.length/\Stp [] w w'/\∀ j (h:j<l.length),j<k->¬ (l[j].1<0\/l[j].2<l[j].1\/3652058<l[j].2)) (λk=>l.length - k) 0 ⟨by omega,Stp.refl _ _,by omega⟩ ?_;rintro k w2 ⟨hk,hS,hz⟩;have bu:=hs.up hS;by_cases ag:k<l.length
 . refine QO ?_
   refine Z1 Z2 rfl ?_;rintro _ w4 ⟨b4,rfl,bC,e4,am⟩;refine SA (us:=Z3.enc l[k]) e4 ?_;rintro _ w5 ⟨aI,e4⟩;replace hS:=hS.trans (am.ow aI);clear am aI;repeat'(first|refine W1 ?_|omega|refine VG ?_ ?_<;>intro hg|refine VC ?_ ?_<;>intro hc)
   all_goals first
    | exact QL (k + 1) ⟨ag, hS, λj h hj => by
       by_cases e:j=k;subst e;omega;exact hz j h (by omega)⟩ (by omega)
    | refine WR ?_
      rw [if_pos (YaO.2 ⟨l[k],Xd ag,by simp only [decide_eq_true_eq];omega⟩)];exact .mk ⟨rfl,hS⟩
 refine QO ?_;refine WR ?_;rw [if_neg];exact .mk ⟨rfl,hS⟩;intro h;obtain ⟨s,h1,h2⟩:=YaO.1 h;obtain ⟨j,hj,rfl⟩:=Xr h1;exact hz j hj (by omega) (by simpa using h2)
end Go.Proofs.YtipfkbkkndacjaaGreatDoor
namespace Go.Eng
open Go Go.RowKit Go.Proofs
def Z1x (ds:List Deferred) (a:Act):Act:={ a with defers:=a.defers++ds }
def ZaQ (ds:List Deferred) (Q:Exit->Act->World->Prop):Exit->Act->World->Prop:=λx a w=>Q x (Z1x ds a) w
theorem Z2a (ds:List Deferred) (a:Act) (d:Option Nat) (v:Value):Z1x ds (a.put d v)=(Z1x ds a).put d v:=by cases d<;>rfl
theorem Z6z (ds:List Deferred) (a:Act):(Z1x ds a).eval=a.eval:=by funext x;cases x<;>rfl
theorem Z43 {ds:List Deferred} {Q:Exit->Act->World->Prop} (h:LetsOut (ZaQ ds Q)):LetsOut Q:=let ⟨a,w,h⟩:=h;⟨_,w,h⟩
theorem Zcw {P:Program} {ds:List Deferred} {Q:Exit->Act->World->Prop} {o:Oper} {a:Act} {w} {K K':Act->World->Prop} (hK:∀ a w,K' a w->K (Z1x ds a) w) (h:o.wp P a w K' (ZaQ ds Q)):o.wp P (Z1x ds a) w K Q:=by
 unfold Oper.wp at *;rw [Z6z];generalize (execOp a.eval o).run P w=r at *;cases r with
 | ok x w'=>
   cases x<;>simp only [Oper.upon] at h ⊢
   case value v=>have:=hK _ _ h;rw [Z2a] at this;exact this
   case skip=>have:=hK _ _ h;rw [Z2a] at this;exact this
   case defer d=>have:=hK _ _ h;rw [Z2a] at this;exact this
   case enter f args=>
    refine Calls.mono h λe w'' he=>?_;cases e with
    | returned v=>have:=hK _ _ he;rw [Z2a] at this;exact this
    | panicked c=>exact he
    | outgrown=>exact Z43 he
   case row row args=>exact Rows.mono h λv w'' he=>by have:=hK _ _ he;rw [Z2a] at this;exact this
 | halt x w'=>cases x<;>simp only [Oper.upon] at h ⊢;exact h
theorem Zcx {P:Program} {ds:List Deferred} {o:Oper} {a:Act} {w} (h:o.asks P a w):o.asks P (Z1x ds a) w:=by
 unfold Oper.asks at *;rw [Z6z];exact h
theorem Z5k {P:Program} {ds:List Deferred} {Q:Exit->Act->World->Prop} {ops:Array Oper}:∀ (l:List Oper) (a:Act) (w),wpList P ops (ZaQ ds Q) l a w->wpList P ops Q l (Z1x ds a) w
 | [],a,w,h=>h
 | o :: rest, a, w, h => by
   unfold wpList at *;split at h;rename_i hw;rw [if_pos (show Region.wanted o (yielded ops (Z1x ds a).tmps)=true from hw)];rcases h with h|⟨h1,h2⟩
   exact .inl (Zcw (λa w h=>Z5k rest a w h) h);exact .inr ⟨Zcx h1,Z43 h2⟩;rename_i hw;rw [if_neg (show ¬ Region.wanted o (yielded ops (Z1x ds a).tmps)=true from hw)];rw [<- Z2a];exact Z5k rest _ w h
theorem ZjV {P:Program} {ds:List Deferred} {Q:Exit->Act->World->Prop} {ops:Array Oper} {i:Nat} {a:Act} {w} {K K':Act->World->Prop} (hK:∀ a w,K' a w->K (Z1x ds a) w) (h:wpOp P ops (ZaQ ds Q) i K' a w):wpOp P ops Q i K (Z1x ds a) w:=by
 unfold wpOp at *;cases ho:ops[i]? with
 | none=>simp only [ho] at h ⊢;exact hK _ _ h
 | some o=>
   simp only [ho] at h ⊢;split at h;rename_i hw;rw [if_pos (show Region.wanted o (yielded ops (Z1x ds a).tmps)=true from hw)];rcases h with h|⟨h1,h2⟩
   exact .inl (Zcw hK h);exact .inr ⟨Zcx h1,Z43 h2⟩;rename_i hw;rw [if_neg (show ¬ Region.wanted o (yielded ops (Z1x ds a).tmps)=true from hw)];rw [<- Z2a];exact hK _ _ h
theorem Z9M {P:Program} {ds:List Deferred} {Q:Exit->Act->World->Prop} {ops:Array Oper} {md:Region.Mode}:∀ (fuel:Nat) (listed:Array Bool) (a:Act) (w),wpAny P md ops (ZaQ ds Q) fuel listed a w->wpAny P md ops Q fuel listed (Z1x ds a) w
 | 0,_,_,_,h=>h
 | fuel+1,_,_,_,h=>⟨h.1,λi hi=>ZjV (λa w h=>Z9M fuel _ a w h) (h.2 i hi)⟩
structure WQD (ds:List Deferred) (n:Nat) (Q:Exit->Act->World->Prop) (x:Exit) (e:Env) (w):Prop where
 h:∀ a,Has n e a->Q x (Z1x ds a) w
structure WCD (ds:List Deferred) (P:Program) (n:Nat) (c:Code) (Q:Exit->Act->World->Prop) (e:Env) (w):Prop where
 h:∀ a,Has n e a->c.wp P Q (Z1x ds a) w
section rules
variable {P:Program} {n:Nat} {ds:List Deferred} {Q:Exit->Act->World->Prop} {e:Env} {w}
theorem Z6A {x:Exit} (h:WQD ds n Q x e w):WQ n (ZaQ ds Q) x e w:=⟨λa ha=>h.h a ha⟩
theorem Z4B {x y:Code} (h:WCD ds P n x (Exit.then (λa w=>y.wp P Q a w) Q) e w):WCD ds P n (x.seq y) Q e w:=⟨λa ha=>wp_seq (h.h a ha)⟩
theorem Z2b {y:Code} (h:WCD ds P n y Q e w):WQD ds n (Exit.then (λa w=>y.wp P Q a w) Q) .normal e w:=⟨λa ha=>h.h a ha⟩
theorem Z8v {N:Act->World->Prop} {ch:List PanicEntry} (h:WQD ds n Q (.panic ch) e w):WQD ds n (Exit.then N Q) (.panic ch) e w:=⟨λa ha=>h.h a ha⟩
theorem ZjW (h:WQD ds n Q .normal e w):WCD ds P n .skip Q e w:=⟨λa ha=>wp_skip (h.h a ha)⟩
theorem Zf3 (h:WQD ds n Q .ret e w):WCD ds P n .ret Q e w:=⟨λa ha=>wp_ret (h.h a ha)⟩
theorem HasD.ev {a:Act} (ha:Has n e a) {x:Operand} {v:Value} (hx:ev e x=some v):(Z1x ds a).eval x=v:=by rw [Z6z];exact ha.ev hx
theorem Z8w {c:Operand} {x y:Code} (hc:ev e c=some (.B false)) (h:WCD ds P n y Q e w):WCD ds P n (.cond c x y) Q e w:=⟨λa ha=>wp_cond_false (HasD.ev ha hc) (h.h a ha)⟩
theorem Z5l {id:Nat} {l:List Oper} (h:WL P n l.toArray (ZaQ ds Q) l e w):WCD ds P n (.region id l.toArray false) Q e w:=⟨λa ha=>wp_region_lit (Z5k _ _ _ (h.h a ha))⟩
theorem Z9N {id:Nat} {l:List Oper} (m:Nat) (S:List Nat) (Lt:List Nat) (ord:List (Nat×Nat)) (cF:l.length=m) (hm:P.follows .mixedOrders=true) (hs:Region.noSelect l.toArray=true) (hl:Nat.beq (wt ord) l.length=true)
 (hB:J6 l.toArray Lt ord (Array.replicate m false)=true)
 (h:∀ w',Stp [] w w'->WD P n l.toArray S Lt (ZaQ ds Q) ord e w'):WCD ds P n (.region id l.toArray true) Q e w:=by
 subst cF;refine ⟨λa ha=>wp_region_any hm (Z9M _ _ _ _ ?_)⟩;have h1:=(h { w with drawn:=w.drawn+1 } (Stp.drew [] w)).h _ hs hB a ha;have h2:=Z0W (Q:=ZaQ ds Q) (λa w hz=>hz) _ _ _ _ h1;rw [XR hl] at h2;simpa using h2
end rules
abbrev FR (l:Nat):Fence:=Fence.wide.inRound l
section
variable {P:Program} {n m l:Nat} {Q Q':Exit->Act->World->Prop} {e:Env} {w:World} {ops:Array Oper}
theorem Zf4 {o:Oper} {a:Act} {K K':Act->World->Prop} (ge:∀ c,o.op≠.defer c) (hQ:∀ x a w,Q x a w->Q' x a w) (hK:∀ a w,K a w->K' a w) (h:o.wp P a w K Q):o.wpIn (FR l) m P a w K' Q':=by
 unfold Oper.wp at h;refine ⟨λ_ _=>trivial,?_⟩;rw [Oper.semAt_eq _ _ _ ge];generalize (execOp a.eval o).run P w=r at *;cases r with
 | ok x w'=>
   cases x<;>simp only [Oper.upon] at h<;>simp only [Oper.uponIn]
   case value v=>exact hK _ _ h
   case skip=>exact hK _ _ h
   case defer d=>exact hK _ _ h
   case enter f args=>
    refine ⟨(λh=>by cases h),CallsIn.inRound l (callsIn_wide.2 (Calls.mono h λen w'' he=>?_))⟩;cases en with
    | returned v=>exact hK _ _ he
    | panicked c=>exact hQ _ _ _ he
    | outgrown=>
      obtain ⟨a',w3,h3⟩:=he;exact ⟨a',w3,hQ _ _ _ h3⟩
   case row row args=>
    exact ⟨(λh=>by cases h),λc cs _=>let ⟨v,w'',r,s⟩:=h c cs;⟨v,w'',hK _ _ r,stepsIn_wide.2 s⟩⟩
 | halt x w'=>
   cases x<;>simp only [Oper.upon] at h<;>simp only [Oper.uponIn];exact hQ _ _ _ h
theorem ZaR (ge:∀ (i:Nat) (o:Oper),ops[i]?=some o->∀ c,o.op≠.defer c) (hQ:∀ a w,¬ Q .outgrown a w):∀ (L:List Nat) (a:Act) (w),wpOps P ops Q L a w->wpOpsIn (FR l) m P ops Q L a w
 | [],a,w,h=>h
 | i :: rest, a, w, h => by
   unfold wpOps at h;unfold wpOpsIn;cases ho:ops[i]? with
   | none=>simp only [ho] at h ⊢;exact ZaR ge hQ rest a w h
   | some o=>
     simp only [ho] at h ⊢;split at h;rename_i hw;rw [if_pos hw];rcases h with h|⟨_,a',w',h⟩
     exact Zf4 (ge i o ho) (λ_ _ _ h=>h) (λa w h=>ZaR ge hQ rest a w h) h;exact absurd h (hQ a' w');rename_i hw;rw [if_neg hw];exact ⟨λ_ _=>trivial,ZaR ge hQ rest _ w h⟩
def ZjX (L:List Oper):Bool:=L.all λo=>match o.op with|.defer _=>false|_=>true
theorem Z8x {L:List Oper} (h:ZjX L=true):∀ (i:Nat) (o:Oper),L.toArray[i]?=some o->∀ c,o.op≠.defer c:=by
 intro i o ho c hc;have hm:o∈L:=by
  have:L[i]?=some o:=by simpa using ho
  exact List.mem_of_getElem? this
 have:=XV.1 h o hm;rw [hc] at this;cases this
theorem ZaS {md:Region.Mode} {S:List Nat} {Lt:Nat->Bool} {Z:Act->World->Prop} (ge:∀ (i:Nat) (o:Oper),ops[i]?=some o->∀ c,o.op≠.defer c) (hZ:∀ a w,Z a w->Q .normal a w):∀ (fuel:Nat) (listed:Array Bool) (a:Act) (w),
 Zal P md ops S Lt Z fuel listed a w->wpAnyIn (FR l) m P md ops Q fuel listed a w
 | 0,_,_,_,h=>⟨h.1,hZ _ _ h.2⟩
 | fuel + 1, listed, a, w, h => ⟨λh0 => hZ _ _ (h.1 h0), λi hi => by
   have h1:=h.2 i hi;unfold wpOp at h1;unfold wpOpIn;cases ho:ops[i]? with
   | none=>simp only [ho] at h1 ⊢;exact ZaS ge hZ fuel _ a w h1.2
   | some o=>
     simp only [ho] at h1 ⊢;split at h1;rename_i hw;rw [if_pos hw];rcases h1 with h1|⟨_,_,_,hf⟩
     exact Zf4 (ge i o ho) (λ_ _ _ h=>h.elim) (λa w h=>ZaS ge hZ fuel _ a w h.2) h1;exact hf.elim;rename_i hw;rw [if_neg hw];exact ⟨λ_ _=>trivial,ZaS ge hZ fuel _ _ w h1.2⟩⟩
structure WCR (l m:Nat) (P:Program) (n:Nat) (c:Code) (Q:Exit->Act->World->Prop) (e:Env) (w:World):Prop where
 h:∀ a,Has n e a->c.wpIn (FR l) m P Q a w
variable {x y:Code}
theorem JR (h:WCR l m P n x (Exit.then (λa w=>y.wpIn (FR l) m P Q a w) Q) e w):WCR l m P n (x.seq y) Q e w:=⟨λa ha=>wpIn_seq (h.h a ha)⟩
theorem Jt (h:WCR l m P n y Q e w):WQ n (Exit.then (λa w=>y.wpIn (FR l) m P Q a w) Q) .normal e w:=⟨λa ha=>h.h a ha⟩
theorem Ju (h:WQ n Q .normal e w):WCR l m P n .skip Q e w:=⟨λa ha=>wpIn_skip (h.h a ha)⟩
theorem Jv {i:Nat} (h:WQ n Q (.exit i) e w):WCR l m P n (.exit i) Q e w:=⟨λa ha=>wpIn_exit (h.h a ha)⟩
theorem Ja {i:Nat} {c:Code} (h:WCR l m P n c (Exit.inBlock i Q) e w):WCR l m P n (.block i c) Q e w:=⟨λa ha=>wpIn_block (h.h a ha)⟩
theorem Jk {c:Operand} (hc:ev e c=some (.B true)) (h:WCR l m P n x Q e w):WCR l m P n (.cond c x y) Q e w:=⟨λa ha=>wpIn_cond_true (ha.ev hc) (h.h a ha)⟩
theorem J5 {c:Operand} (hc:ev e c=some (.B false)) (h:WCR l m P n y Q e w):WCR l m P n (.cond c x y) Q e w:=⟨λa ha=>wpIn_cond_false (ha.ev hc) (h.h a ha)⟩
theorem Z44 {c:Operand} {p:Prop} [Decidable p] (hc:ev e c=some (.B (decide p))) (ht:p->WCR l m P n x Q e w) (hf:¬ p->WCR l m P n y Q e w):WCR l m P n (.cond c x y) Q e w:=by
 by_cases h:p;rw [decide_eq_true h] at hc;exact Jk hc (ht h);rw [decide_eq_false h] at hc;exact J5 hc (hf h)
theorem ZT {id:Nat} {L:List Oper} (hd:ZjX L=true) (hQ:∀ a w,¬ Q .outgrown a w) (h:WL P n L.toArray Q L e w):WCR l m P n (.region id L.toArray false) Q e w:=
 ⟨λa ha => wpIn_region (by
   have h1:=h.h a ha;rw [List.range_eq_range',<- Yai];exact ZaR (Z8x hd) hQ _ _ _ (by rw [wpOps_eq_wpList L.toArray.toList 0 (by simp)];simpa using h1))⟩
theorem Z9O {id:Nat} {L:List Oper} (k:Nat) (S:List Nat) (Lt:List Nat) (ord:List (Nat×Nat)) (cF:L.length=k) (hm:P.follows .mixedOrders=true) (hs:Region.noSelect L.toArray=true) (hl:Nat.beq (wt ord) L.length=true)
 (hB:J6 L.toArray Lt ord (Array.replicate k false)=true) (hd:ZjX L=true)
 (h:∀ w',Stp [] w w'->WD P n L.toArray S Lt Q ord e w'):WCR l m P n (.region id L.toArray true) Q e w:=by
 subst cF;refine ⟨λa ha=>wpIn_region_any hm ?_⟩;have h1:=(h { w with drawn:=w.drawn+1 } (Stp.drew [] w)).h _ hs hB a ha;have h2:=ZaS (l:=l) (m:=m) (Q:=Q) (Z8x hd) (λa w hz=>hz) _ _ _ _ h1;rw [XR hl] at h2;simpa using h2
theorem ZjY {σ:Type} (env:σ->Env) (I:σ->World->Prop)
 (h:WCR l m P n x (Exit.then (λa w=>∃ s,Has n (env s) a/\I s w) Q) e w) (k:∀ s w,I s w->WCR l m P n y Q (env s) w):WCR l m P n x (Exit.then (λa w=>y.wpIn (FR l) m P Q a w) Q) e w:=
 ⟨λa ha => wpIn_mono (h.h a ha) (λex a w hq => by
   cases ex with
   | normal=>obtain ⟨s,h1,h2⟩:=hq;exact (k s w h2).h a h1
   | _=>exact hq)⟩
end
theorem Z2c (W:World) (b:Nat) (o:Obj):Stp [b] W (W.putObj b o):=⟨rfl,rfl,rfl,by simp,λk hk hn=>World.putObj_heap_other (by simpa using hn)⟩
def Zf5 {α:Type} (P:Program) (f:Nat) (cap:Array Value) (encs:α->Value) (L:List α) (l:Nat) (F:List Nat) (W:World):Prop:=
 ∀ (J : List α -> List Nat -> World -> Prop), (∀ pre F W, J pre F W -> ∀ b ∈ F, b < W.heap.size) -> (∀ pre F W W', J pre F W -> Stp [] W W' -> J pre F W')->
   (∀ pre x F W,J pre F W->pre++[x] <+: L->YieldAt Fence.wide 4 P l #[encs x] W λen W'=>en=.returned (.B true)/\∃ F',J (pre++[x]) F' W'/\Stp F W W'/\∀ b∈F',b∈F\/W.heap.size<=b)->
   J [] F W->Calls P f (#[.func (.yield l) #[] #[]]++cap) W (Ret λ_ W'=>∃ F',J L F' W'/\Stp F W W'/\∀ b∈F',b∈F\/W.heap.size<=b)
section
variable {P:Program} {n:Nat} {Q:Exit->Act->World->Prop} {e:Env} {w:World}
theorem ZjZ {α:Type} {f p:Nat} {fn:Func} {cap:Array Value} {g:Operand} {assign body:Code} [hf:Fun P f fn] {E:α->Nat->Env} {T:Nat} {cs:α->List Value} (encs:α->Value) (hg:ev e g=some (.func (.func f) #[] cap)) (hp:Nat.blt p n=true)
 (L:List α) (I:List α->List Nat->World->Prop) (F0:List Nat) (ag:∀ pre F W,I pre F W->∀ b∈F,b<W.heap.size)
 (hI:∀ pre F W W' S,I pre F W->Stp S W W'->(∀ b∈S,w.heap.size<=b/\b∉F)->I pre F W') (h0:I [] F0 w)
 (oD:∀ (l:Nat) (W:World),Stp [] w W->w.heap.size<=l->l<W.heap.size->Zf5 P f cap encs L l (l :: F0) W)
 (hassign:∀ (l:Nat) (x:α) (W:World) (Z:Exit->Act->World->Prop),(∀ a w,¬ Z .outgrown a w)->(∀ b W1,W.heap.size<=b->Blk W1 b T (cs x)->Stp [] W W1->WQ n Z .normal (E x b) W1)->WCR l 4 P n assign Z ((p,encs x) :: e) W)
 (gt : ∀ (l : Nat) (pre : List α) (x : α) (b : Nat) (F : List Nat) (W : World) (Z : Exit -> Act -> World -> Prop), I pre F W -> pre ++ [x] <+: L -> Blk W b T (cs x) -> b ∉ F -> w.heap.size <= b -> (∀ a w, ¬ Z .outgrown a w)->
   (∀ a F' W',I (pre++[x]) F' W'->Stp F W W'->(∀ b∈F',b∈F\/W.heap.size<=b)->Z .normal a W')->WCR l 4 P n body Z (E x b) W)
 (dO:∀ (D:Nat) (F:List Nat) (W:World),I L F W->w.heap.size<=D->D∉F->W.heap[D]?=some (.deferred (some []))->(∀ b∈F,b∈F0\/w.heap.size<=b)->Stp F0 w W->WQD [{ target:=.collected D,args:=#[] }] n Q .normal e W) :
 WC P n (.rangeFunc g #[p] assign body) Q e w:=by
 refine ⟨λa ha=>(wpIn_wide (n:=5)).1 (wpIn_rangeFunc ?_)⟩;intro fnid _;obtain ⟨rec,bt⟩:∃ rec:LoopState->Option Code->Loop,rec=λst pe=>{ state:=st,pending:=pe,fn:=fnid,tmps:=a.tmps,params:=#[p],assign,body,defers:=w.heap.size }:=⟨_,rfl⟩
 obtain ⟨W1,fS⟩:∃ W1,(w.alloc (.deferred (some []))).alloc (.loop (rec .ready none))=W1:=⟨_,rfl⟩
 have kO:W1.heap[w.heap.size+1]?=some (.loop (rec .ready none)):=by
  rw [<- fS];have:=World.alloc_heap_new (w.alloc (.deferred (some []))) (.loop (rec .ready none));rwa [World.size_alloc] at this
 have bz:Stp [] w (w.alloc (.deferred (some []))):=Stp.alloc [] _ _;have m9:Stp [] (w.alloc (.deferred (some []))) W1:=by rw [<- fS];exact Stp.alloc [] _ _
 have qM:W1.heap[w.heap.size]?=some (.deferred (some [])):=by
  rw [m9.block w.heap.size (by simp) (by simp)];exact World.alloc_heap_new w _
 have ae:Stp [] w W1:=bz.trans m9;have oh:=ag _ _ _ h0
 refine ⟨w.heap.size+1,[{ target:=.collected w.heap.size,args:=#[] }],W1,{ target:=.fn (.func f) cap,args:=#[.func (.yield (w.heap.size+1)) #[] #[]] },W1,f,
  #[.func (.yield (w.heap.size+1)) #[] #[]]++cap,W1,?_,?_,?_,?_,λh=>(by cases h),?_⟩
 rw [<- fS,bt];exact run_enterLoop_outer _ _ _ _ _;simp only [resolve,ha.ev hg];simp [go_sem];intro f' sW;trivial;have eg:=hf.enters;simp [invoke,go_sem];exact eg _ _;generalize hl:w.heap.size+1=l at *
 have fG:=oD l W1 ae (by omega) (Xm.1 kO).1 (λpre F W=>∃ G,F=l :: G/\I pre G W/\W.heap[l]?=some (.loop (rec .ready none))/\W.heap[w.heap.size]?=some (.deferred (some []))/\l∉G/\w.heap.size∉G)
  (by
    rintro pre F W ⟨G,rfl,hi,h1,h2,h3,h4⟩ b hb;rcases Xb.1 hb with rfl|hb
    exact (Xm.1 h1).1;exact ag _ _ _ hi b hb)
  (by
    rintro pre F W W' ⟨G,rfl,hi,h1,h2,h3,h4⟩ hS;exact ⟨G,rfl,hI _ _ _ _ _ hi hS (by simp),(hS.block l (Xm.1 h1).1 (by simp)).trans h1,(hS.block _ (Xm.1 h2).1 (by simp)).trans h2,h3,h4⟩)
  (by
    rintro pre x F W ⟨G,rfl,hi,h1,h2,h3,h4⟩ cu;have nf:l<W.heap.size:=(Xm.1 h1).1;have qN:w.heap.size<W.heap.size:=(Xm.1 h2).1;have hG:=ag _ _ _ hi;have hy:=run_yield (P:=P) (args:=#[encs x]) h1 (by rw [bt];rfl);rw [bt] at hy;refine ⟨fnid,_,assign,body,hy,roundIn_of_wpIn trivial ((hassign l x W _ (λ_ _ h=>h) ?_).h _ ?_)⟩;intro b Wa hb hk ng;have vm:=(ng.block l nf (by simp)).trans h1;have vn:=(ng.block _ qN (by simp)).trans h2;have xL:=ng.size;refine ⟨λa1 qO=>⟨_,run_beginRound vm (by rw [bt]),?_⟩⟩;have fB:=Z2c Wa l (.loop { rec .ready none with state:=.busy });have vo:=hI _ _ _ _ _ hi ng (by simp);have lV:=hI _ _ _ _ _ vo fB (by intro b hb;simp at hb;subst hb;exact ⟨by omega,h3⟩);have vp:(Wa.putObj l (.loop { rec .ready none with state:=.busy })).heap[l]?=some (.loop { rec .ready none with state:=.busy }):=World.putObj_heap_same (by omega);have vq:=(fB.block w.heap.size (by omega) (by simp;omega)).trans vn;have jm:=hk.ext fB (by simp;omega);have xM:=fB.size;refine (gt l pre x b G _ _ lV cu jm (λh=>by have:=hG b h;omega) (by omega) (λ_ _ h=>h) ?_).h a1 qO;intro a2 G' W' cQ aU iZ;have vr:=(aU.block l (by omega) h3).trans vp;have vt:=(aU.block w.heap.size (by omega) h4).trans vq;have xN:=aU.size;have vu:=run_endRound (P:=P) none vr;have gV:=Z2c W' l (.loop (rec .ready none));have ni:l∉G':=λh=>by
     rcases iZ l h with h|h
     exact h3 h;omega
    refine ⟨_,_,vu,rfl,l :: G',⟨G',rfl,?_,?_,?_,ni,λh=>?_⟩,?_,λb hb=>?_⟩;have:=hI _ _ _ _ _ cQ gV (by intro b hb;simp at hb;subst hb;exact ⟨by omega,ni⟩);rw [bt] at this ⊢;exact this;rw [bt];exact World.putObj_heap_same (by omega);rw [bt];exact (World.putObj_heap_other (by omega)).trans vt;rcases iZ _ h with h|h
    exact h4 h;omega;rw [bt] at gV aU ⊢;exact ((((ng.mono (S':=l :: G) (by simp)).trans ((by rw [bt] at fB;exact fB:Stp [l] _ _).mn)).trans (aU.mono (λb hb=>by simp [hb]))).trans gV.mn);rcases Xb.1 hb with rfl|hb
    exact .inl (by simp);rcases iZ b hb with h|h
    exact .inl (by simp [h]);exact .inr (by omega);have:=ha.put (v:=encs x) hp;have e2:(a.put (some p) (encs x))={ tmps:=((#[p]:Array Nat).zip #[encs x]).foldl (λt (p,v)=>t.setIfInBounds p v) a.tmps,defers:=[] }:=by
     simp [Act.put,ha.defers]
    rw [e2] at this;exact this)
  ⟨F0,rfl,hI _ _ _ _ _ h0 ae (by simp),kO,qM,λh=>by have:=oh l h;omega,λh=>by have:=oh _ h;omega⟩
 refine (callsIn_wide (n:=4)).2 (fG.mono ?_);rintro _ W2 ⟨v,rfl,F',⟨G,rfl,hi,h1,h2,h3,h4⟩,ah,vw⟩;have kI:=ah.size;have fK:=ae.size;have nf:l<W2.heap.size:=(Xm.1 h1).1;refine ⟨none,_,by have:=run_endLoop (P:=P) h1 (by rw [bt];simp);rw [bt] at this;exact this,?_⟩;have hp:=Z2c W2 l (.loop { rec .ready none with state:=.exhausted });rw [bt] at hp;have hd:=dO w.heap.size G _ (hI _ _ _ _ _ hi hp (by intro b hb;simp at hb;subst hb;exact ⟨by omega,h3⟩)) (Xn _) h4 ((hp.block w.heap.size (by omega) (by simp;omega)).trans h2) (λb hb=>by
  rcases vw b (by simp [hb]) with h|h
  rcases Xb.1 h with rfl|h
  exact .inr (by omega);exact .inl h;exact .inr (by omega))
  ((((ae.mono (S' := F0) (by simp)).own ah (λb hb => by
    rcases Xb.1 hb with rfl|hb
    exact .inr (by omega);exact .inl hb))).own hp (λb hb=>by simp at hb;subst hb;exact .inr (by omega)))
 have:=hd.h a ha;unfold Z1x at this;rw [ha.defers,XT] at this;rw [ha.defers,XD];exact this
end
section
variable {P:Program} {ops:Array Oper} {md:Region.Mode} {S:List Nat} {Lt:Nat->Bool} {kk:Nat}
theorem Ze5 {o:Oper} {a:Act} {w} {K K':Act->World->Prop} {Q:Exit->Act->World->Prop} (hK:∀ a w,K a w->K' a w) (h:o.wpIn Fence.wide kk P a w K (λ_ _ _=>False)):o.wpIn Fence.wide kk P a w K' Q:=by
 unfold Oper.wpIn at *;refine ⟨h.1,?_⟩;replace h:=h.2;generalize (o.semAt Fence.wide.round a.eval).run P w=r at *;cases r with
 | ok x w'=>
   cases x<;>simp only [Oper.uponIn] at h ⊢
   case value v=>exact hK _ _ h
   case skip=>exact hK _ _ h
   case defer d=>exact hK _ _ h
   case enter f args=>
    exact ⟨h.1,CallsIn.mono h.2 λe w'' he=>by
     cases e with
     | returned v=>exact hK _ _ he
     | panicked c=>exact he.elim
     | outgrown=>obtain ⟨_,_,hf⟩:=he;exact hf.elim⟩
   case row row args=>exact ⟨h.1,RowsIn.mono h.2 λu w'' he=>hK _ _ he⟩
   case round l f tmps assign body=>
    exact ⟨h.1,RoundIn.mono h.2 λe w'' he=>by
     cases e with
     | returned v=>exact hK _ _ he
     | panicked c=>exact he.elim
     | outgrown=>obtain ⟨_,_,hf⟩:=he;exact hf.elim⟩
 | halt x w'=>cases x<;>simp only [Oper.uponIn] at h ⊢
def Z3i (kk:Nat) (P:Program) (md:Region.Mode) (ops:Array Oper) (S:List Nat) (Lt:Nat->Bool) (Z:Act->World->Prop):Nat->Array Bool->Act->World->Prop
 | 0,listed,a,w=>Region.ready md ops listed=[]/\Z a w
 | fuel + 1, listed, a, w=>
   (Region.ready md ops listed=[]->Z a w)/\
   ∀ i∈Region.ready md ops listed,wpOpIn Fence.wide kk P ops (λ_ _ _=>False) i (λa' w'=>(Stp S w w'\/Lt i=true)/\Z3i kk P md ops S Lt Z fuel (listed.setIfInBounds i true) a' w') a w
theorem Z1M {Z:Act->World->Prop} {Q:Exit->Act->World->Prop} (hZ:∀ a w,Z a w->Q .normal a w):∀ (fuel:Nat) (listed:Array Bool) (a:Act) (w),
 Z3i kk P md ops S Lt Z fuel listed a w->wpAnyIn Fence.wide kk P md ops Q fuel listed a w
 | 0,_,_,_,h=>⟨h.1,hZ _ _ h.2⟩
 | fuel + 1, listed, a, w, h => ⟨λh0 => hZ _ _ (h.1 h0), λi hi => by
   have h1:=h.2 i hi;unfold wpOpIn at h1 ⊢;cases ho:ops[i]? with
   | none=>simp only [ho] at h1 ⊢;exact Z1M hZ fuel _ a w h1.2
   | some o=>
     simp only [ho] at h1 ⊢;split at h1;rename_i hw;rw [if_pos hw];exact Ze5 (λa w h=>Z1M hZ fuel _ a w h.2) h1;rename_i hw;rw [if_neg hw];exact ⟨λ_ _=>trivial,Z1M hZ fuel _ _ w h1.2.2⟩⟩
theorem Zf6 {Z:Act->World->Prop} {R:World->World->Prop} (jF:∀ w,R w w) (mj:∀ a b c,R a b->R b c->R a c) {i:Nat} {oi:Oper} {v:Value} (hi:ops[i]?=some oi)
 (ml:∀ j oj,ops[j]?=some oj->(∀ e∈oj.after,Region.binds md e=true->e.on≠i)->j≠i->∀ w w',(Stp S w w'\/Lt j=true)->R w w')
 (eV:∀ (j:Nat) (o:Oper) cs b,ops[j]?=some o->o.op≠.select cs b) :
 ∀ (fuel : Nat) (listed : Array Bool) (a : Act) (w),
   (∀ j oj,ops[j]?=some oj->j≠i->listed.getD j true=false->(∀ e∈oj.after,Region.binds md e=true->e.on≠i)->oi.apart ops oj=true)->
   (Stp S w w\/Lt i=true->True)->i∈Region.ready md ops listed->YE P ops R oi v a w->
   Z3i kk P md ops S Lt Z fuel (listed.setIfInBounds i true) (a.put oi.dst v) w->Z3i kk P md ops S Lt Z (fuel+1) listed a w:=by
 have now:∀ (fuel:Nat) (listed:Array Bool) (a:Act) (w:World),YE P ops R oi v a w->Z3i kk P md ops S Lt Z fuel (listed.setIfInBounds i true) (a.put oi.dst v) w->
  wpOpIn Fence.wide kk P ops (λ_ _ _=>False) i (λa' w'=>(Stp S w w'\/Lt i=true)/\Z3i kk P md ops S Lt Z fuel (listed.setIfInBounds i true) a' w') a w:=by
  intro fuel listed a w hy H;unfold wpOpIn;simp only [hi];rcases hy with ⟨hw,hv⟩|⟨hw,rfl⟩
  simp only [hw,if_true];refine ⟨λ_ _=>trivial,?_⟩;rw [show Fence.wide.round=none from rfl,Oper.semAt_none,hv w (jF w)];exact ⟨.inl (Stp.refl _ _),H⟩;simp only [hw,XO,if_false];exact ⟨λ_ _=>trivial,.inl (Stp.refl _ _),H⟩
 intro fuel
 induction fuel with
 | zero=>
   intro listed a w _ _ hr hy H;refine ⟨λh=>(by rw [h] at hr;cases hr),λj hj=>?_⟩;by_cases cj:j=i;subst cj;exact now _ _ _ _ hy H;have:=ready_mono hj cj;rw [H.1] at this;cases this
 | succ fuel ih=>
   intro listed a w du hx hr hy H;refine ⟨λh=>(by rw [h] at hr;cases hr),λj hj=>?_⟩;by_cases cj:j=i;subst cj;exact now _ _ _ _ hy H;have h1:=H.2 j (ready_mono hj cj);obtain ⟨eW,oj,fZ,aB⟩:=mem_ready.1 hj;have eX:∀ e∈oj.after,Region.binds md e=true->e.on≠i:=λe he hb cZ=>by
    have h1:=aB e he hb;have h0:=(mem_ready.1 hr).1;rw [cZ] at h1;rcases Yaz i listed.size with h'|h'
    simp [h'] at h0 h1;rw [h0] at h1;cases h1;simp [Yah h'] at h1
   have hap:=du j oj fZ cj eW eX;obtain ⟨p1,p2,p3⟩:=Oper.apart_spec hap;have keep:∀ (a:Act),YE P ops R oi v a w->∀ u,YE P ops R oi v (a.put oj.dst u) w:=λa hy u=>
    hy.same (execOp_put oi (λcs b=>eV i oi cs b hi) a oj.dst u p3) (wanted_put oi a oj.dst u p3)
   have keepD:∀ (a:Act) d,YE P ops R oi v a w->YE P ops R oi v { a with defers:=d :: a.defers } w:=λa d hy=>hy.same rfl rfl;have later:∀ (a:Act) w',(Stp S w w'\/Lt j=true)->YE P ops R oi v a w->YE P ops R oi v a w':=λa w' hs hy=>by
    rcases hy with ⟨hw,hv⟩|hw
    exact .inl ⟨hw,λw'' h''=>hv w'' (mj _ _ _ (ml j oj fZ eX cj w w' hs) h'')⟩;exact .inr hw
   have dG:∀ k ok,ops[k]?=some ok->k≠i->(listed.setIfInBounds j true).getD k true=false->
    (∀ e∈ok.after,Region.binds md e=true->e.on≠i)->oi.apart ops ok=true:=λk ok hk gA jG bg=>by
    refine du k ok hk gA ?_ bg;by_cases ib:j=k;subst ib;exact eW;rw [getD_set_ne true ib] at jG;exact jG
   have fin:∀ a' w',YE P ops R oi v a' w->(Stp S w w'\/Lt j=true)/\Z3i kk P md ops S Lt Z fuel ((listed.setIfInBounds i true).setIfInBounds j true) (a'.put oi.dst v) w'->
    (Stp S w w'\/Lt j=true)/\Z3i kk P md ops S Lt Z (fuel+1) (listed.setIfInBounds j true) a' w':=by
    rintro a' w' ic ⟨hs,hk⟩;refine ⟨hs,ih _ a' w' dG (λ_=>trivial) (ready_mono hr (Ne.symm cj)) (later a' w' hs ic) ?_⟩;rw [Ya1 _ _ cj];exact hk
   have mm:∀ cs b,oj.op≠.select cs b:=λcs b=>eV j oj cs b fZ;unfold wpOpIn at *;simp only [fZ] at *;rw [wanted_put oj a oi.dst v p1] at h1;split
   . rename_i hw
     simp only [hw,if_true] at h1;refine ⟨λ_ _=>trivial,?_⟩;replace h1:=h1.2;rw [show Fence.wide.round=none from rfl,Oper.semAt_none] at h1 ⊢;rw [execOp_put oj mm a oi.dst v p1] at h1;generalize (execOp a.eval oj).run P w=r at *;cases r with
     | ok n w'=>
       cases n<;>simp only [Oper.uponIn] at h1 ⊢
       case value u=>exact fin _ _ (keep a hy u) (by rw [<- Act.put_comm a v u p2];exact h1)
       case skip=>exact fin _ _ (keep a hy _) (by rw [<- Act.put_comm a v undef p2];exact h1)
       case defer d=>
        refine fin _ _ (keep _ (keepD a d hy) _) ?_;rw [<- Act.put_comm _ v undef p2,<- Act.put_defers];exact h1
       case enter f args=>
        refine ⟨h1.1,CallsIn.mono h1.2 λe w'' he=>?_⟩;cases e with
        | returned u=>exact fin _ _ (keep a hy u) (by rw [<- Act.put_comm a v u p2];exact he)
        | panicked c=>exact he
        | outgrown=>exact he
       case row row args=>exact ⟨h1.1,RowsIn.mono h1.2 λu w'' he=>fin _ _ (keep a hy u) (by rw [<- Act.put_comm a v u p2];exact he)⟩
       case round l f tmps assign body=>
        refine ⟨h1.1,RoundIn.mono h1.2 λe w'' he=>?_⟩;cases e with
        | returned u=>exact fin _ _ (keep a hy u) (by rw [<- Act.put_comm a v u p2];exact he)
        | panicked c=>exact he
        | outgrown=>exact he
     | halt x w'=>
       cases x<;>simp only [Oper.uponIn] at h1
   rename_i hw;simp only [hw] at h1;exact ⟨λ_ _=>trivial,fin _ _ (keep a hy _) (by rw [<- Act.put_comm a v undef p2];exact h1.2)⟩
end
structure WDI (kk:Nat) (P:Program) (n:Nat) (ops:Array Oper) (S:List Nat) (Q:Exit->Act->World->Prop) (ord:List (Nat×Nat)) (e:Env) (w:World):Prop where
 h:∀ listed:Array Bool,Region.noSelect ops=true->J6 ops [] ord listed=true->∀ a,Has n e a->Z3i kk P .any ops S (λj=>([]:List Nat).contains j) (λa w=>Q .normal a w) (wt ord) listed a w
section
variable {P:Program} {n kk:Nat} {Q:Exit->Act->World->Prop} {e:Env} {w:World} {ops:Array Oper} {S:List Nat} {rest:List (Nat×Nat)}
variable {i d:Nat} {op:Op} {ty:TypeId} {pos:String} {af:Array Edge} {v:Value}
theorem Zgt {id:Nat} {L:List Oper} (kk:Nat) (m:Nat) (S:List Nat) (ord:List (Nat×Nat)) (cF:L.length=m) (hm:P.follows .mixedOrders=true) (hs:Region.noSelect L.toArray=true) (hl:Nat.beq (wt ord) L.length=true)
 (hB:J6 L.toArray [] ord (Array.replicate m false)=true)
 (h:∀ w',Stp [] w w'->WDI kk P n L.toArray S Q ord e w'):WC P n (.region id L.toArray true) Q e w:=by
 subst cF;refine ⟨λa ha=>(wpIn_wide (n:=kk)).1 (wpIn_region_any hm ?_)⟩;have h1:=(h { w with drawn:=w.drawn+1 } (Stp.drew [] w)).h _ hs hB a ha;have h2:=Z1M (Q:=Q) (λa w hz=>hz) _ _ _ _ h1;rw [XR hl] at h2;simpa using h2
theorem ZmZ (h:WQ n Q .normal e w):WDI kk P n ops S Q [] e w:=
 ⟨λ_ _ hB a ha=>⟨by simpa [J6,ZW] using hB,h.h a ha⟩⟩
theorem Z0z (hi:ops[i]?=some ⟨some d,op,ty,pos,af,none⟩) (hp:∀ w',PR P n ⟨some d,op,ty,pos,af,none⟩ e w' v) (aw:Nat.blt d n=true)
 (k:WDI kk P n ops S Q rest ((d,v) :: e) w):WDI kk P n ops S Q ((i,0) :: rest) e w:=by
 refine ⟨λlisted hs hB a ha=>?_⟩;simp only [J6,ZW,Xl] at hB;obtain ⟨⟨h1,h2⟩,h3⟩:=hB;have hk:=k.h _ hs h3 _ (ha.put (v:=v) aw);rw [Z01 (by decide)];exact Zf6 (R:=λ_ _=>True) (λ_=>trivial) (λ_ _ _ _ _=>trivial) hi (λ_ _ _ _ _ _ _ _=>trivial) (Region.noSelect_spec hs) _ _ _ _ (Region.free_spec hi h2) (λ_=>trivial) (by simpa using h1) (.inl ⟨Jw (e:=e) (n:=n) ha trivial,λw' _=>(hp w').h a ha⟩) hk
theorem Zcy (hi:ops[i]?=some ⟨some d,op,ty,pos,af,none⟩) (hp:∀ w',Stp S w w'->PR P n ⟨some d,op,ty,pos,af,none⟩ e w' v) (aw:Nat.blt d n=true)
 (k:WDI kk P n ops S Q rest ((d,v) :: e) w):WDI kk P n ops S Q ((i,1) :: rest) e w:=by
 refine ⟨λlisted hs hB a ha=>?_⟩;simp only [J6,ZW,Xl] at hB;obtain ⟨⟨⟨h1,h2⟩,hb⟩,h3⟩:=hB;have hk:=k.h _ hs h3 _ (ha.put (v:=v) aw);rw [Z01 (by decide)];refine Zf6 (R:=Stp S) (λw=>Stp.refl _ w) (λ_ _ _ h k=>h.trans k) hi (λj oj hj hn cj w w' hs=>?_) (Region.noSelect_spec hs) _ _ _ _ (Region.free_spec hi h2) (λ_=>trivial) (by simpa using h1) (.inl ⟨Jw (e:=e) (n:=n) ha trivial,λw' hw=>(hp w' hw).h a ha⟩) hk;rcases hs with hs|hs
 exact hs;cases hs
theorem Zgu {l:Nat} {x c:Operand} {ts:Array TypeId} {u r:Value} {G:World->Prop} (hi:ops[i]?=some ⟨some d,.call { callee:=.value c,args:=#[x],argTypes:=ts },ty,pos,af,none⟩) (hc:ev e c=some (.func (.yield l) #[] #[])) (hx:ev e x=some u)
 (hY:YieldAt Fence.wide (kk - 1) P l #[u] w (λen W'=>en=.returned r/\G W')) (hS:∀ W',G W'->Stp S w W') (aw:Nat.blt d n=true)
 (k:∀ W',G W'->WDI kk P n ops S Q rest ((d,r) :: e) W'):WDI kk P n ops S Q ((i,2) :: rest) e w:=by
 refine ⟨λlisted hs hB a ha=>?_⟩;simp only [J6,ZW] at hB;rw [if_neg (by simp)] at hB;simp only [Xl,beq_iff_eq] at hB;obtain ⟨h1,h3⟩:=hB;rw [Z01 (by decide)];refine ⟨λh0=>absurd (h1 ▸ h0) (by simp),λj hj=>?_⟩;rw [h1] at hj;obtain rfl:j=i:=by simpa using hj
 obtain ⟨fn,tmps,assign,body,hy,hR⟩:=hY;unfold wpOpIn;simp only [hi];rw [if_pos (show Region.wanted (⟨some d,.call { callee:=.value c,args:=#[x],argTypes:=ts },ty,pos,af,none⟩:Oper) _=true from rfl)];refine ⟨λ_ _=>trivial,?_⟩;have he:(execOp a.eval ⟨some d,.call { callee:=.value c,args:=#[x],argTypes:=ts },ty,pos,af,none⟩).run P w=.ok (.round l fn tmps assign body) w:=by
  simp only [execOp,resolve,ha.ev hc,Deferred.ofValue];simp [invoke,ha.ev hx,hy]
 rw [show Fence.wide.round=none from rfl,Oper.semAt_none,he];refine ⟨λh=>(by cases h),RoundIn.mono hR ?_⟩;rintro en W' ⟨rfl,hG⟩;exact ⟨.inl (hS W' hG),(k W' hG).h _ hs h3 _ (ha.put aw)⟩
end
variable {P:Program} {n:Nat} {e:Env} {w:World} {d:Option Nat} {ty:TypeId} {pos:String} {af:Array Edge} {g:Option (Nat×Bool)}
theorem Z78 {t el len k:Nat} {x hi:Operand} {b r:Nat} {z:Int} [hu:Und P t (.array len el)] [hk:Siz P el k] (hx:ev e x=some (pQ b)) (hz:ev e hi=some (.I z)) (df:z=(r:Int)) (hr:r<=len) :
 PR P n ⟨d,.slice t x none (some hi) none,ty,pos,af,g⟩ e w (.slice (some ⟨b,0,none⟩) r len):=
 ⟨λa ha => by
   subst df;simp [execOp,ha.ev hx,ha.ev hz,Instr.sliceAt,Instr.sureAddr,run_underlying hu.h,Instr.sliceBounds,Instr.sliceBound,asIntOf,Siz.run,Addr.add,show r<=len by omega]⟩
theorem Zf7 {X:List Nat} {w} {b T len n:Nat} {cs:List Value} {xs:List Int} (hn:xs.length=n) (hb:Blk w b T cs) (hX:b∉X) (hl:cs.length=len) (hm:len<=maxLen) (hx:xs.length<=len) (hc:∀ i (h:i<xs.length),cs[i]?=some (.I xs[i])):SlV X w (.slice (some ⟨b,0,none⟩) n len) xs:=by
 subst hn;refine ⟨some ⟨b,0,none⟩,len,rfl,hx,hm,λh=>by simp at h,λi hi=>⟨b,0,[.I xs[i]],rfl,hb.lt,hX,rfl,λj u hu=>?_⟩⟩;have hj:j=0:=by
  have:=(Xx.1 hu).1;simp at this;exact this
 subst hj;simp at hu;subst hu;refine hb.cell ?_;simpa [Z7.k,Z3.k] using hc i hi
end Go.Eng
namespace Go.Proofs.YtipfkbkkndacjaaGreatDoor
open Go Go.Eng Go.RowKit
def ZaT (r:Rtn) (day:Int):Bool:=if r.kind=1 then decide (day<r.lo\/r.hi<day) else if r.kind=2 then decide (0<=day/\day<=r.hi) else decide (0<=day)
theorem Zgv (r:Rtn) (day:Int) (w):CC 256 #[aG r,.I day] w λv w'=>v=.B (ZaT r day)/\Stp [] w w':=by
 unfold ZaT;refine cW2 31 Tryz.func256 ?_;refine W ?_;refine BX (Stp.refl [] w) λb2 w1 h2 e2 _ hS=>?_;replace e2:Blk w1 b2 80 (Z3.enc r):=e2;simp only [Z3.enc] at e2;by_cases h1:r.kind=1
 . rw [if_pos h1]
   (refine QP ?_ ?_<;>intro hg)
   all_goals
    refine RU ?_;exact ⟨by congr 1;first|(rw [decide_eq_true (by omega)];done)|(symm;rw [decide_eq_decide];constructor<;>intro _<;>omega)|(symm;exact decide_eq_true (by omega))|(symm;exact decide_eq_false (by omega)),hS⟩
 rw [if_neg h1];by_cases h2:r.kind=2
 . rw [if_pos h2]
   (refine QP ?_ ?_<;>intro hg)
   all_goals
    refine RU ?_;exact ⟨by congr 1;first|(symm;rw [decide_eq_decide];constructor<;>intro _<;>omega)|(symm;exact decide_eq_true (by omega))|(symm;exact decide_eq_false (by omega)),hS⟩
 rw [if_neg h2];refine RT ?_;exact ⟨rfl,hS⟩
theorem Zk0 (v:Value) (l:List Int) (x:Int) (w) (hs:SlV [] w v l):CC 257 #[v,.I x] w λr w'=>(∃ z:Int,r=.I z/\((z=-1/\x∉l)\/∃ (k:Nat) (h:k<l.length),z=k/\l[k]=x/\∀ j (h:j<l.length),j<k->l[j]≠x))/\Stp [] w w':=by
 have aT:=hs.max;refine cW2 19 Tryz.func257 ?_;refine W ?_;refine LP (σ:=Nat) (λk=>[(0,v),(1,.I x),(6,v),(7,.I l.length),(8,.I k)]) (λk w'=>k<=l.length/\Stp [] w w'/\∀ j (h:j<l.length),j<k->l[j]≠x) (λk=>l.length - k) 0 ⟨by omega,Stp.refl _ _,by omega⟩ ?_;rintro k w2 ⟨hk,hT,hz⟩;have bu:=hs.up hT;by_cases ag:k<l.length
 (refine QP ?_ ?_<;>intro hc)
 refine RU ?_;exact ⟨⟨_,rfl,.inr ⟨k,ag,rfl,hc.symm,hz⟩⟩,hT⟩;exact QL (k+1) ⟨ag,hT,λj h hj=>by
  by_cases e:j=k;subst e;exact λh=>hc h.symm;exact hz j h (by omega)⟩ (by omega)
 refine RT ?_;exact ⟨⟨_,rfl,.inl ⟨rfl,λh=>by
  obtain ⟨j,hj,e⟩:=Xr h;exact hz j hj (by omega) e⟩⟩,hT⟩
def Z6B (c:Int):List (Int×Int)->List (Int×Int)
 | []=>[(c,1)]
 | p :: l=>if p.1=c then (c,p.2+1) :: l else p :: Z6B c l
def Zcz (day:Int) (st:List (Int×Int)) (r:Rtn):List (Int×Int):=if ZaT r day=true then Z6B r.crr st else st
def Z3j (l:List Rtn) (day:Int):List (Int×Int):=l.foldl (Zcz day) []
def Z98 (crrs:List Crr) (p:Int×Int):Int:=max 0 (p.2 - (crrs.getD p.1.toNat ⟨0,0⟩).tol)
def Z1F (l:List Rtn) (crrs:List Crr) (day:Int):Int:=((Z3j l day).map (Z98 crrs)).sum
theorem ZcA (c:Int):∀ (st:List (Int×Int)),c∉st.map (·.1)->Z6B c st=st++[(c,1)]
 | [],_=>rfl
 | p :: l, h => by
   simp only [Xs,Xb,not_or] at h;rw [Z6B,if_neg (λe=>h.1 e.symm),ZcA c l h.2];rfl
theorem ZcB (c:Int):∀ (st:List (Int×Int)) (k:Nat) (hk:k<st.length),st[k].1=c->(∀ j (h:j<st.length),j<k->st[j].1≠c)->Z6B c st=st.set k (c,st[k].2+1)
 | p :: l, 0, hk, h, _ => by
   simp only [Yba] at h;rw [Z6B,if_pos h];rfl
 | p :: l, k + 1, hk, h, hz => by
   have h0:=hz 0 (by simp) (by omega);simp only [Yba] at h0;rw [Z6B,if_neg h0,ZcB c l k (by simpa using hk) (by simpa using h) (λj hj ib=>by
    have h2:=hz (j+1) (by simpa using hj) (by omega)
    rwa [List.getElem_cons_succ] at h2)]
   simp
theorem Zk1 (c:Int) (st:List (Int×Int)):(Z6B c st).length<=st.length+1:=by
 induction st with
 | nil=>simp [Z6B]
 | cons p l ih=>
   rw [Z6B];split<;>simp<;>omega
theorem Z6C (l:List Rtn) (day:Int) (k:Nat) (h:k<l.length):Z3j (l.take (k+1)) day=Zcz day (Z3j (l.take k) day) l[k]:=by
 unfold Z3j;rw [Xh h,Yau];rfl
theorem ZcC (l:List Rtn) (day:Int) (k:Nat) (h:k<=l.length):(Z3j (l.take k) day).length<=k:=by
 induction k with
 | zero=>simp [Z3j]
 | succ k ih=>
   rw [Z6C l day k (by omega),Zcz];have:=ih (by omega);split;have:=Zk1 l[k].crr (Z3j (l.take k) day);omega;omega
def arX (f:Int×Int->Int) (st:List (Int×Int)):List Value:=st.map (λp=>.I (f p))++List.replicate (32 - st.length) (.I 0)
theorem Z5Q (f:Int×Int->Int) {st:List (Int×Int)} (h:st.length<=32):(arX f st).length=32:=by simp [arX];omega
theorem Z5R (f:Int×Int->Int) {st:List (Int×Int)} {k:Nat} (h:k<st.length):(arX f st)[k]?=some (.I (f st[k])):=by
 rw [arX,Yaa (by simpa using h)];simp [h]
theorem Zn0 (f:Int×Int->Int) {st:List (Int×Int)} (h:st.length<32):(arX f st)[st.length]?=some (.I 0):=by
 rw [arX,YaF (by simp)];simp [Ya8];omega
theorem Zf8 (f:Int×Int->Int) {st:List (Int×Int)} (p:Int×Int) (h:st.length<32):(arX f st).set st.length (.I (f p))=arX f (st++[p]):=by
 unfold arX;rw [List.set_append_right _ _ (by simp)];obtain ⟨m,hm⟩:∃ m,32 - st.length=m+1:=⟨31 - st.length,by omega⟩
 rw [hm];simp only [Xt,Nat.sub_self,Yay,List.set_cons_zero,XQ,Xs,XL,Xy,XA,XT,Xc,List.length_singleton];rw [show 32 - (st.length+1)=m by omega]
theorem Zf9 (f:Int×Int->Int) {st:List (Int×Int)} {k:Nat} (p:Int×Int) (h:k<st.length):(arX f st).set k (.I (f p))=arX f (st.set k p):=by
 unfold arX;rw [List.set_append_left _ _ (by simpa using h),X6,List.map_set]
theorem Zfa {c:Int} {m:Int} {p:Int×Int}:∀ {st:List (Int×Int)},(∀ q∈st,0<=q.2/\q.2<=m)->0<=m->p∈Z6B c st->(p.1=c\/p.1∈st.map (·.1))/\0<=p.2/\p.2<=m+1
 | [], _, hm, h => by
   simp only [Z6B,Xk] at h;subst h;exact ⟨.inl rfl,by dsimp only;omega,by dsimp only;omega⟩
 | q :: l, hq, hm, h => by
   have h0:=hq q (by simp);rw [Z6B] at h;split at h;rcases Xb.1 h with rfl|h
   exact ⟨.inl rfl,by dsimp only;omega,by dsimp only;omega⟩;have:=hq p (by simp [h]);exact ⟨.inr (XK.2 ⟨p,by simp [h],rfl⟩),by omega,by omega⟩;rcases Xb.1 h with rfl|h
   exact ⟨.inr (by simp),by omega,by omega⟩;obtain ⟨a,b⟩:=Zfa (λx hx=>hq x (by simp [hx])) hm h;exact ⟨a.imp id (λh=>by simp [h]),b⟩
theorem ZaU {l:List Rtn} {day:Int} {N:Int} (hr:∀ r∈l,0<=r.crr/\r.crr<N):∀ k,k<=l.length->∀ p∈Z3j (l.take k) day,(0<=p.1/\p.1<N)/\0<=p.2/\p.2<=k
 | 0,_,p,hp=>by simp [Z3j] at hp
 | k + 1, hk, p, hp => by
   have ih:=ZaU (day:=day) hr k (by omega);rw [Z6C l day k (by omega),Zcz] at hp;split at hp;obtain ⟨a,b,c⟩:=Zfa (m:=k) (λq hq=>(ih q hq).2) (by omega) hp;refine ⟨?_,b,by omega⟩;rcases a with a|a
   rw [a];exact hr _ (Xd _);obtain ⟨q,hq,e⟩:=XK.1 a;rw [<- e];exact (ih q hq).1;have:=ih p hp;exact ⟨this.1,this.2.1,by omega⟩
theorem Z8y (lv cv:Value) (l:List Rtn) (crrs:List Crr) (day:Int) (w) (hl:SlV [] w lv l) (hc:SlV [] w cv crrs) (ku:l.length<=32) (hr:∀ r∈l,0<=r.crr/\r.crr<crrs.length) (ht:∀ c∈crrs,0<=c.tol/\c.tol<=1000) :
 CC 201 #[lv,cv,.I day] w λv w'=>v=.I (Z1F l crrs day)/\Stp [] w w':=by
 refine cW3 68 Tryz.func201 ?_;refine W ?_;refine Z1 Z2 rfl ?_;rintro _ w1 ⟨b7,rfl,fb,e7,hS⟩;refine W ?_;refine Z1 Z2 rfl ?_;rintro _ w2 ⟨b8,rfl,fC,e8,hT⟩;have l7:=e7.lt;replace e7:=e7.up hT;have n78:b7≠b8:=by omega
 have g8:w.heap.size<=b8:=Xg hS.size fC;replace hS:=hS.trans hT;replace e7:Blk w2 b7 329 (arX (·.2) (Z3j (l.take 0) day)):=e7;replace e8:Blk w2 b8 329 (arX (·.1) (Z3j (l.take 0) day)):=e8;clear hT;refine W ?_;refine Z0o (σ:=Unit) (λ_=>[(1,cv),(7,pQ b7),(8,pQ b8),(9,.I (Z3j l day).length)]) (λ_ w'=>Stp [] w w'/\Blk w' b7 329 (arX (·.2) (Z3j l day))/\Blk w' b8 329 (arX (·.1) (Z3j l day))) ?_ ?_;refine LP (σ:=Nat) (λk=>[(1,cv),(2,.I day),(7,pQ b7),(8,pQ b8),(9,.I (Z3j (l.take k) day).length),(16,lv),(17,.I l.length),(18,.I k)]) (λk w'=>k<=l.length/\Stp [] w w'/\Blk w' b7 329 (arX (·.2) (Z3j (l.take k) day))/\Blk w' b8 329 (arX (·.1) (Z3j (l.take k) day))) (λk=>l.length - k) 0 ⟨by omega,hS,e7,e8⟩ ?_;clear e7 e8 hS;rintro k w3 ⟨hk,hS,e7,e8⟩;by_cases ag:k<l.length;have eN:=hl.up hS;have aj:=Z6C l day k ag;have fJ:=ZcC l day k hk;have aO:=ZaU (day:=day) hr k hk;generalize Z3j (l.take k) day=st at *;refine QO ?_;refine Z1 Z2 rfl ?_;rintro _ w4 ⟨b11,rfl,qL,e11,hT⟩;refine SA (us:=Z3.enc l[k]) e11 ?_;rintro _ w5 ⟨aq,e11⟩;replace hT:=hT.ow aq;replace hS:=hS.trans hT;replace e7:=e7.up hT;replace e8:=e8.up hT;clear hT aq eN;refine W ?_;refine CP hS (Zgv l[k] day _) λw6 hT hS=>?_;replace e7:=e7.up hT;replace e8:=e8.up hT;replace e11:=e11.up hT;clear hT;rw [Zcz] at aj;cases hw:ZaT l[k] day;rw [hw,if_neg (by simp)] at aj;refine QO ?_;exact Zx (k+1) ⟨rfl,rfl,rfl,rfl,by rw [aj];rfl,rfl,rfl,rfl,trivial⟩ ⟨ag,hS,by rw [aj];exact e7,by rw [aj];exact e8⟩ (by omega);rw [hw,if_pos rfl] at aj;refine QO ?_;refine ZDr 6 [] [] [(0,0),(1,0),(2,0),(3,1),(4,2),(5,0)] (λw1 ae=>?_);replace e7:=e7.up ae;replace e8:=e8.up ae;replace e11:=e11.up ae;replace hS:=hS.trans ae;clear ae;refine D ?_;refine JK rfl trivial (λ_=>Z78 (r:=st.length) rfl rfl rfl (by omega)) rfl ?_;refine D ?_;have eP:SlV [] w1 (.slice (some ⟨b8,0,none⟩) st.length 32) (st.map (·.1)):=Zf7 (by simp) e8 (by simp) (Z5Q _ (by omega)) (by decide) (by simp;omega) (λi h=>by
  have:=Z5R (·.1) (st:=st) (k:=i) (by simpa using h);simpa using this)
 refine DC (Zk0 _ _ l[k].crr _ eP) (λ_ _ h=>h.2) ?_;rintro _ w7 ⟨⟨z,rfl,hz⟩,hT⟩;replace e7:=e7.up hT;replace e8:=e8.up hT;replace e11:=e11.up hT;replace hS:=hS.trans hT;clear hT eP;have own:∀ b,b=b7\/b=b8->∀ c∈[b],c∈([]:List Nat)\/w.heap.size<=c:=λb hb c hc=>.inr (by simp at hc;omega)
 rcases hz with ⟨rfl,hn⟩|⟨j,hj,rfl,d8,vx⟩
 rw [ZcA _ _ hn] at aj;have h0:=Zn0 (·.2) (st:=st) (by omega);refine D ?_;refine QO ?_;refine Z4 (Zc (o:=0+st.length * 1) (u:=.I l[k].crr) rfl rfl rfl rfl e8 (by rw [Z5Q _ (by omega)];omega)) ?_;rintro _ w8 ⟨hT,e8⟩;replace e7:=e7.ext hT (by simpa using n78);replace hS:=hS.own hT (own _ (.inr rfl));rw [XN,YaQ,Zf8 (·.1) (l[k].crr,1) (by omega)] at e8;refine QO ?_;refine Z9 (Jp rfl rfl e7 (by rw [XN,YaQ];exact h0)) rfl ?_;refine QO ?_;refine Z4 (Zc (o:=0+st.length * 1) (u:=.I (0+1)) rfl rfl rfl rfl e7 (by rw [Z5Q _ (by omega)];omega)) ?_;rintro _ w9 ⟨hT,e7⟩;replace e8:=e8.ext hT (by simpa using n78.symm);replace hS:=hS.own hT (own _ (.inl rfl));rw [XN,YaQ] at e7;replace e7:Blk w9 b7 329 (arX (·.2) (st++[(l[k].crr,1)])):=by rw [<- Zf8 (·.2) (l[k].crr,1) (by omega)];exact e7
 refine QO ?_;exact Zx (k+1) ⟨rfl,rfl,rfl,rfl,by rw [aj,Xc];rfl,rfl,rfl,rfl,trivial⟩ ⟨ag,hS,by rw [aj];exact e7,by rw [aj];exact e8⟩ (by omega);rw [Xt] at hj;have nj:st[j].1=l[k].crr:=by simpa using d8
 rw [ZcB _ _ j hj nj (λi h hi=>by have:=vx i (by simpa using h) hi;simpa using this)] at aj;have h0:=Z5R (·.2) (st:=st) hj;have xO:=(aO _ (Xd hj)).2;refine D ?_;refine QO ?_;refine Z9 (Jp rfl rfl e7 (by rw [XN,YaQ];exact h0)) rfl ?_;refine QO ?_;refine Z4 (Zc (o:=0+j * 1) (u:=.I (st[j].2+1)) rfl rfl rfl rfl e7 (by rw [Z5Q _ (by omega)];omega)) ?_;rintro _ w9 ⟨hT,e7⟩;replace e8:=e8.ext hT (by simpa using n78.symm);replace hS:=hS.own hT (own _ (.inl rfl));rw [XN,YaQ] at e7;replace e7:Blk w9 b7 329 (arX (·.2) (st.set j (l[k].crr,st[j].2+1))):=by rw [<- Zf9 (·.2) (l[k].crr,st[j].2+1) hj];exact e7
 have e8':Blk w9 b8 329 (arX (·.1) (st.set j (l[k].crr,st[j].2+1))):=by
  rw [<- Zf9 (·.1) (l[k].crr,st[j].2+1) hj];have h1:=Z5R (·.1) (st:=st) hj;rw [nj] at h1;obtain ⟨hh,h2⟩:=Xx.1 h1;have:(arX (·.1) st).set j (.I l[k].crr)=arX (·.1) st:=by rw [<- h2];exact List.set_getElem_self hh
  rw [this];exact e8
 refine QO ?_;exact Zx (k+1) ⟨rfl,rfl,rfl,rfl,by rw [aj,X6];rfl,rfl,rfl,rfl,trivial⟩ ⟨ag,hS,by rw [aj];exact e7,by rw [aj];exact e8'⟩ (by omega);obtain rfl:k=l.length:=by omega
 rw [Xo] at e7 e8;have eN:=hl.up hS;refine QO ?_;exact ZD () ⟨rfl,rfl,rfl,by simp only [Xo];rfl,trivial⟩ ⟨hS,e7,e8⟩;clear e7 e8 hS;rintro _ w3 ⟨hS,e7,e8⟩;have fJ:=ZcC l day l.length (Xn _);have aO:=ZaU (day:=day) hr l.length (Xn _);rw [Xo] at fJ aO;unfold Z1F;generalize Z3j l day=st at *;have eP:SlV [] w3 (.slice (some ⟨b8,0,none⟩) st.length 32) (st.map (·.1)):=Zf7 (by simp) e8 (by simp) (Z5Q _ (by omega)) (by decide) (by simp;omega) (λi h=>by
  have:=Z5R (·.1) (st:=st) (k:=i) (by simpa using h);simpa using this)
 refine QO ?_;refine Z9 (Z78 (r:=st.length) rfl rfl rfl (by omega)) rfl ?_;refine QO ?_;refine Zt (σ:=Nat) (λk=>[(1,cv),(7,pQ b7),(13,.I ((st.take k).map (Z98 crrs)).sum),(47,.slice (some ⟨b8,0,none⟩) st.length 32),(48,.I st.length),(49,.I k)]) (λk w'=>k<=st.length/\Stp [] w3 w'/\0<=((st.take k).map (Z98 crrs)).sum/\((st.take k).map (Z98 crrs)).sum<=40 * k) (λk=>st.length - k) 0 ⟨rfl,rfl,rfl,rfl,by simp only [Xt];rfl,rfl,trivial⟩ ⟨by omega,Stp.refl _ _,by simp,by simp⟩ ?_;rintro k w4 ⟨hk,hT,g1,g2⟩;have e7':=e7.up hT;have vy:=eP.up hT;have fg:=hc.up (hS.trans hT);by_cases ag:k<st.length;obtain ⟨⟨a1,a2⟩,a3,a4⟩:=aO _ (Xd ag);have kP:((st.take (k+1)).map (Z98 crrs)).sum=((st.take k).map (Z98 crrs)).sum+Z98 crrs st[k]:=by
  rw [Xh ag,XQ,List.sum_append];simp
 obtain ⟨j,hj⟩:∃ j:Nat,st[k].1=j:=⟨st[k].1.toNat,by omega⟩
 have ft:j<crrs.length:=by omega
 have xP:=ht _ (Xd ft);have cF:k<(st.map (·.1)).length:=by simpa using ag
 have aA:(st.map (·.1))[k]=(j:Int):=by simpa using hj
 have h0:=Z5R (·.2) (st:=st) ag;have kQ:Z98 crrs st[k]=max 0 (st[k].2 - crrs[j].tol):=by
  unfold Z98;rw [hj];simp [ft]
 generalize ((st.take k).map (Z98 crrs)).sum=s at *;refine QO ?_;refine ZDr 13 [] [] [(0,0),(1,0),(2,0),(3,1),(4,0),(5,0),(6,0),(7,0),(8,1),(9,0),(10,0),(11,0),(12,0)] (λw1 ae=>?_);replace e7':=e7'.up ae;replace fg:=fg.up ae;replace hT:=hT.trans ae;clear ae;refine D ?_;refine Z0w rfl trivial rfl rfl e7' (by simp) (by rw [XN,YaQ];exact h0) rfl ?_;refine D ?_;refine QO ?_;exact Zx (k+1) ⟨rfl,rfl,by rw [kP,kQ];rfl,rfl,rfl,rfl,trivial⟩ ⟨ag,hT,by rw [kP,kQ];omega,by rw [kP,kQ];omega⟩ (by omega);obtain rfl:k=st.length:=by omega
 refine QO ?_;refine WR ?_;rw [Xo];exact .mk ⟨rfl,hS.trans hT⟩
def Z4M (l:List Rtn) (sent:Int):List Int:=Z3r ([sent,3652059]++l.flatMap (λr=>[r.lo,r.hi+1].filter (λd=>decide (sent<d/\d<=3652058))))
def Z99 (l:List Rtn) (sent:Int):List Spn:=((Z4M l sent).zip (Z4M l sent).tail).map (λp=>(p.1,p.2 - 1))
structure AlS where
 least:Int
 never:Bool
 out:List Spn
def Z0G (l:List Rtn) (crrs:List Crr) (s:AlS) (x:Spn):AlS:=
 let e:=Z1F l crrs x.1
 if s.least<e then s else
  let t:AlS:=if e<s.least then ⟨e,false,[]⟩ else s
  match t.out.getLast? with
  | some y=>if y.2=x.1 - 1 then { t with out:=t.out.dropLast++[(y.1,x.2)] } else { t with out:=t.out++[x] }
  | none=>{ t with out:=t.out++[x] }
def Zgw (l:List Rtn) (crrs:List Crr) (sent:Int):AlS:=(Z99 l sent).foldl (Z0G l crrs) ⟨Z1F l crrs (-1),true,[]⟩
def ZaV (l:List Rtn) (crrs:List Crr) (sent:Int):Int×Bool:=
 let s:=Zgw l crrs sent
 if s.never=true then (0,false) else match s.out.getLast? with|some y=>(y.2,true)|none=>(0,false)
structure Zn1 (l:List Rtn) (crrs:List Crr):Prop where
 len:l.length<=32
 crr:∀ r∈l,0<=r.crr/\r.crr<crrs.length
 tol:∀ c∈crrs,0<=c.tol/\c.tol<=1000
 day:∀ r∈l,0<=r.lo/\r.lo<=3652058/\0<=r.hi/\r.hi<=3652058
theorem ZcD {l:List Rtn} {sent x:Int} (hs:0<=sent/\sent<=3652058) (h:x∈Z4M l sent):sent<=x/\x<=3652059:=by
 have:=((Z3f _).2 x).1 h;simp only [Xi,Xb,Xj,or_false,YbC,Ybm,decide_eq_true_eq] at this;rcases this with (rfl|rfl)|⟨r,hr,h1,h2⟩<;>omega
theorem Z8z {l:List Rtn} {sent:Int} {s:Spn} (hs:0<=sent/\sent<=3652058) (h:s∈Z99 l sent):sent<=s.1/\s.1<=3652059/\-1<=s.2/\s.2<=3652058:=by
 unfold Z99 at h;obtain ⟨p,hp,rfl⟩:=XK.1 h;have h1:=ZcD hs (List.of_mem_zip hp).1;have h2:=ZcD hs (List.mem_of_mem_tail (List.of_mem_zip hp).2);dsimp only;omega
def inX (sent d:Int):Bool:=decide (sent<d/\d<=3652058)
def Z6D (l:List Rtn) (sent:Int):List Int:=[sent,3652059]++l.flatMap (λr=>[r.lo,r.hi+1].filter (inX sent))
theorem Z8A (l:List Rtn) (sent:Int):(Z6D l sent).length<=2+2 * l.length:=by
 unfold Z6D;rw [Xc]
 induction l with
 | nil=>simp
 | cons r l ih=>
   have h:=XZ (inX sent) [r.lo,r.hi+1];simp only [YaX,Xc,Xe,Xf] at *;omega
theorem Z4C {P:Program} {n:Nat} {e:Env} {w} {d:Option Nat} {ty:TypeId} {pos:String} {af:Array Edge} {g:Option (Nat×Bool)} {x y:Operand} {t:TypeId} {u i v:Value} (hx:ev e x=some u) (hy:ev e y=some i) (hb:∀ w,(Instr.index t u i).run P w=.ok v w):PR P n ⟨d,.index t x y,ty,pos,af,g⟩ e w v:=
 ⟨λa ha=>by simp [execOp,ha.ev hx,ha.ev hy,hb]⟩
theorem Zk2 (a b:Int) (w):(Instr.index 333 (.agg #[.I a,.I b]) (.I ((0:Nat):Int))).run Tryz.prog w=.ok (.I a) w:=by kernel_rfl
theorem Zk3 (a b:Int) (w):(Instr.index 333 (.agg #[.I a,.I b]) (.I ((1:Nat):Int))).run Tryz.prog w=.ok (.I b) w:=by kernel_rfl
theorem Zgx (l:List Rtn) (sent:Int) (k:Nat) (h:k<l.length):Z6D (l.take (k+1)) sent=Z6D (l.take k) sent++[l[k].lo,l[k].hi+1].filter (inX sent):=by
 unfold Z6D;rw [Xh h,Yak];simp
theorem Zk4 (a b:Int) (w):(Instr.build 75 #[(0,.I a),(1,.I b)]).run Tryz.prog w=.ok (.agg (Z3.enc ((a,b):Spn)).toArray) w:=by kernel_rfl
theorem Zn2 (a b:Int) (w):(Instr.buildSlice 23 2 #[(0,.I a),(1,.I b)]).run Tryz.prog w=.ok (.slice (some ⟨w.heap.size,0,none⟩) 2 2) (w.alloc (.cells #[.I a,.I b] 3)):=by kernel_rfl
theorem Zk5 (a b:Int) (w):(Instr.build 333 #[(0,.I a),(1,.I b)]).run Tryz.prog w=.ok (.agg #[.I a,.I b]) w:=by kernel_rfl
theorem ZaW (l:Nat) (F:List Nat) (w) (bS bL:Nat) (lv:Value) (rets:List Rtn) (sent:Int) (crrs:List Crr) (ho:Zn1 rets crrs) (eP:0<=sent/\sent<=3652058)
 (eS:Blk w bS 3 [.I sent]) (eL:Blk w bL 76 [lv]) (hl:SlV F w lv rets) (hF:∀ b∈F,b<w.heap.size) (hS:bS∉F) (hL:bL∉F) :
 Zf5 Tryz.prog 258 #[pQ bS,pQ bL] (λx:Spn=>aG x) (Z99 rets sent) l F w:=by
 intro J ag s8 hY h0;have iM:=ho.len;have kE:=hl.max;refine cW3 65 Tryz.func258 ?_;refine W ?_;refine Z1 (Z0 rfl (Zn2 _ _)) rfl ?_;intro dv0 w1 hN;have lP:ZI 3 w w1 dv0 [sent,3652059]:=ZI.one hN rfl rfl (by simp [maxLen]);have hN:=Z5.stp hN;have eL1:=eL.up hN;have eS1:=eS.up hN;refine W ?_;have qP:Z6D (rets.take 0) sent=[sent,3652059]:=by simp [Z6D]
 refine LP (σ:=Nat×Value) (λq=>[(0,.func (.yield l) #[] #[]),(1,pQ bS),(2,pQ bL),(4,q.2),(12,lv),(13,.I rets.length),(14,.I q.1)]) (λq w'=>q.1<=rets.length/\ZI 3 w w' q.2 (Z6D (rets.take q.1) sent)) (λq=>rets.length - q.1) (0,dv0) ⟨by omega,by rw [qP];exact lP⟩ ?_;clear lP qP hN eS1 eL1;rintro ⟨k,dv⟩ w2 ⟨hk,hr⟩;dsimp only at hk hr ⊢;by_cases eB:k<rets.length;obtain ⟨r1,r2,r3,r4⟩:=ho.day _ (Xd eB);have cq:=Z8A (rets.take k) sent;rw [Xv] at cq;have ay:=Zgx rets sent k eB;generalize Z6D (rets.take k) sent=pk at *;have dS:SlV [] w2 lv rets:=hl.ext hr.2 (by simp) (by simp);have eS2:=eS.up hr.2;refine QO ?_;refine Z1 Z2 rfl ?_;rintro _ w3 ⟨b6,rfl,ew,e6,hA⟩;refine SA (us:=Z3.enc rets[k]) e6 ?_;rintro _ w4 ⟨dp,e6⟩;replace hA:=hA.ow dp;replace hr:=hr.up hA;refine QO ?_;refine Z8 (vs:=[(0,.I rets[k].lo),(1,.I (rets[k].hi+1))]) rfl (Zk5 _ _) rfl ?_;refine QO ?_;generalize np:rets[k].lo=lo at *;generalize xQ:rets[k].hi+1=hi at *;have nq:[lo,hi].filter (inX sent)=(if inX sent lo=true then [lo] else [])++(if inX sent hi=true then [hi] else []):=by
  cases h1:inX sent lo<;>cases h2:inX sent hi<;>simp [h1,h2]
 clear e6 hA dp dS eS2
 refine Zt (σ:=Nat×Value) (λq=>[(0,.func (.yield l) #[] #[]),(1,pQ bS),(2,pQ bL),(4,q.2),(12,lv),(13,.I rets.length),(14,.I k),(23,.agg #[.I lo,.I hi]),(24,.I q.1)])
  (λq w'=>q.1<=2/\ZI 3 w w' q.2 (pk++(if 0<q.1/\inX sent lo=true then [lo] else [])++(if 1<q.1/\inX sent hi=true then [hi] else []))) (λq=>2 - q.1) (0,dv) ⟨rfl,rfl,rfl,rfl,rfl,rfl,rfl,rfl,rfl,trivial⟩ ⟨by omega,by simpa using hr⟩ ?_
 clear hr;rintro ⟨j,dv⟩ w5 ⟨hj,hr⟩;dsimp only at hj hr ⊢;have eS5:=eS.up hr.2;have xR:pk.length<=70:=by omega
 have hz:∀ (p:Prop) [Decidable p] (d:Int),(if p then [d] else []).length<=1:=λp _ d=>by split<;>simp
 obtain rfl|rfl|rfl:j=0\/j=1\/j=2:=by omega
 by_cases bG:sent<lo/\lo<=3652058;refine QO ?_;refine Z9 (Z4C rfl rfl (Zk2 _ _)) rfl ?_;refine QO ?_;refine AP1 lo hr (by simp;omega) λv1 v' w' bH _=>?_
 refine QO ?_;exact QL (1,v') ⟨by dsimp only;omega,by simpa [inX,bG] using bH⟩ (by dsimp only;omega)
 . refine QO ?_
   refine Z9 (Z4C rfl rfl (Zk2 _ _)) rfl ?_;refine QO ?_;all_goals exact QL (1,dv) ⟨by dsimp only;omega,by simpa [inX,bG] using hr⟩ (by dsimp only;omega)
 have fK:=hz (0<1/\inX sent lo=true) lo;by_cases bG:sent<hi/\hi<=3652058;refine QO ?_;refine Z9 (Z4C rfl rfl (Zk3 _ _)) rfl ?_;refine QO ?_;refine AP1 hi hr (by simp only [Xc];simp;split<;>simp<;>omega) λv1 v' w' bH _=>?_
 refine QO ?_;exact QL (2,v') ⟨by dsimp only;omega,by simpa [inX,bG] using bH⟩ (by dsimp only;omega)
 . refine QO ?_
   refine Z9 (Z4C rfl rfl (Zk3 _ _)) rfl ?_;repeat'(first|refine W1 ?_|omega|refine VG ?_ ?_<;>intro hg|refine VC ?_ ?_<;>intro hc)
   all_goals exact QL (2,dv) ⟨by dsimp only;omega,by simpa [inX,bG] using hr⟩ (by dsimp only;omega)
 refine QO ?_;exact QL (k+1,dv) ⟨by dsimp only;omega,by rw [ay,nq,<- Xy];simpa using hr⟩ (by dsimp only;omega);obtain rfl:k=rets.length:=by omega
 rw [Xo] at hr;have cq:=Z8A rets sent;have oH:Z4M rets sent=Z3r (Z6D rets sent):=rfl;refine QO ?_;refine CM (ZP rfl) (Zcf w2 hr.1 (by omega)) ?_;rintro _ w3 ⟨rfl,dA,cA⟩;refine QO ?_;refine CM (ZP rfl) (Z73 w3 dA (by rw [Ybf];omega)) ?_;rintro dv4 w4 ⟨iv,fD,jn⟩;have iw:=λb hb=>hr.ob_le b hb;have aI:Stp [] w w4:=(hr.2.own cA (λb hb=>.inr (iw b hb).1)).own fD (λb hb=>.inr (iw b hb).1);replace iv:Row [] w4 w.heap.size 3 dv4 (Z4M rets sent):=iv;have jD:(Z4M rets sent).length<=100:=by
  have h1:(Z4M rets sent).length<=(Z6D rets sent).length:=by
   rw [oH];unfold Z3r Lib.compact Lib.compactUpTo;rw [Xt];refine Xg (XZ _ _) ?_;simp
  omega
 have xS:0<(Z4M rets sent).length:=by
  have:sent∈Z4M rets sent:=((Z3f _).2 sent).2 (by simp);exact List.length_pos_of_mem this
 have s9:∀ d∈Z4M rets sent,sent<=d/\d<=3652059:=λd hd=>by
  have:=((Z3f _).2 d).1 hd;simp only [Xi,Xb,Xj,or_false,YbC,Ybm,decide_eq_true_eq] at this;rcases this with (rfl|rfl)|⟨r,hr,h1,h2⟩<;>omega
 have nr:Z99 rets sent=((Z4M rets sent).zip (Z4M rets sent).tail).map (λp=>(p.1,p.2 - 1)):=rfl;rw [nr] at hY ⊢;clear nr oH hr dA cA fD cq;generalize Z4M rets sent=D at *;have eh:SlV [] w4 dv4 D:=iv.slv (by simp);have xT:=eh.max;have tf:((D.zip D.tail).map (λp=>(p.1,p.2 - 1))).length=D.length - 1:=by simp
 have vz:∀ b∈ob dv4,w.heap.size<=b:=λb hb=>(iv.ob_le b hb).1;refine QO ?_
 refine Zt (σ:=Nat×List Nat) (λq=>[(0,.func (.yield l) #[] #[]),(4,dv4),(46,.I ((D.length:Int) - 1)),(47,.I q.1)])
  (λq w'=>q.1<=D.length - 1/\J (((D.zip D.tail).map (λp=>(p.1,p.2 - 1))).take q.1) q.2 w'/\SlV q.2 w' dv4 D/\Stp F w w'/\∀ b∈q.2,b∈F\/w.heap.size<=b) (λq=>D.length - q.1) (0,F) ⟨rfl,rfl,rfl,rfl,trivial⟩
  ⟨by omega,by simpa using s8 _ _ _ _ h0 aI,Row.slv (Z29 (X':=F) iv) hF,aI.mn,λb hb=>.inl hb⟩ ?_
 clear eh aI;rintro ⟨k,G⟩ w5 ⟨hk,hJ,ax,hS,hG⟩;dsimp only at hk hJ ax hG ⊢;generalize hZ:(D.zip D.tail).map (λp=>(p.1,p.2 - 1))=Z at *;by_cases eB:k<D.length - 1;have tg:k<Z.length:=by omega
 have bF:k<D.length:=by omega
 have de:k+1<D.length:=by omega
 have th:Z[k]=(D[k],D[k+1] - 1):=by subst hZ;simp
 obtain ⟨d1,d2⟩:=s9 _ (Xd bF);obtain ⟨d3,d4⟩:=s9 _ (Xd de);refine QO ?_;refine Zgt 5 14 (G) [(0,0),(1,0),(2,0),(3,0),(4,1),(5,0),(6,0),(7,0),(8,0),(9,1),(10,0),(11,0),(12,2),(13,0)] rfl mixed (by kernel_rfl) (by kernel_rfl) (by kernel_rfl) (λw1 ae=>?_);replace hJ:=s8 _ _ _ _ hJ ae;replace ax:=ax.up ae;replace hS:=hS.trans ae.mn;refine Z0z rfl (λw'=>ZZ rfl) rfl ?_;refine Z0z rfl (λw'=>ZZ rfl) rfl ?_;refine Z0z rfl (λw'=>ZZ rfl) rfl ?_;refine Z0z rfl (λw'=>Z2W (i:=k) rfl ax rfl rfl bF) rfl ?_;refine Zcy rfl (λw' hS=>Z1T rfl rfl (ax.ext hS (λb hb=>hb) (λ_ h=>.inl h)) bF rfl rfl) rfl ?_;refine Z0z rfl (λw'=>ZZ rfl) rfl ?_;refine Z0z rfl (λw'=>ZZ rfl) rfl ?_;refine Z0z rfl (λw'=>Zdh rfl rfl (by unfold I64;omega)) rfl ?_;refine Z0z rfl (λw'=>Z2W (i:=k+1) rfl ax rfl (by omega) de) rfl ?_;refine Zcy rfl (λw' hS=>Z1T rfl rfl (ax.ext hS (λb hb=>hb) (λ_ h=>.inl h)) de rfl rfl) rfl ?_;refine Z0z rfl (λw'=>Z66 rfl rfl (by unfold I64;omega)) rfl ?_;refine Z0z rfl (λw'=>Z0L (vs:=[(0,.I D[k]),(1,.I (D[k+1] - 1))]) rfl (Zk4 _ _)) rfl ?_;have ti:=hY (Z.take k) Z[k] G w1 hJ (by rw [<- Xh tg];exact List.take_prefix _ _);rw [th] at ti;refine Zgu rfl rfl rfl ti (λW' h=>h.choose_spec.2.1) rfl ?_;rintro W' ⟨G',mq,mU,iZ⟩;refine Z0z rfl (λw'=>Zhv rfl) rfl ?_;refine ZmZ ?_;refine QO ?_;refine QL (k+1,G') ⟨by dsimp only;omega,by rw [Xh tg,th];exact mq,?_,hS.own mU hG,λb hb=>?_⟩ (by dsimp only;omega);exact ax.ext mU (λb hb=>hb) iZ;rcases iZ b hb with h|h
 exact hG b h;exact .inr (by have:=hS.size;omega);refine QO ?_;refine WR ?_;have dP:k=Z.length:=by omega
 rw [dP,Xo] at hJ;exact .mk ⟨G,hJ,hS,hG⟩
end Go.Proofs.YtipfkbkkndacjaaGreatDoor
namespace Go.Eng
open Go Go.RowKit Go.Proofs
variable {P:Program} {n:Nat} {Q:Exit->Act->World->Prop} {e:Env} {w w0:World} {rest:List Oper} {ops:Array Oper} {ty ty':TypeId} {pos pos':String} {af af':Array Edge}
theorem Z5.slv1 {α:Type} [Z7 α] {X:List Nat} {T:Nat} {cs:List Value} {v:Value} {w':World} {y:α} (h:Z5 w T 1 cs v w') (hX:∀ b∈X,b<w.heap.size) (hr:Z7.rep X w y cs):SlV X w' v [y]:=by
 obtain ⟨b,rfl,hb,hk,hT⟩:=h;refine ⟨some ⟨b,0,none⟩,1,rfl,Xn _,by simp [maxLen],by simp,λi hi=>?_⟩;obtain rfl:i=0:=by simpa using hi
 refine ⟨b,0,cs,rfl,hk.lt,λdz=>by have:=hX b dz;omega,Z7.ext hr hT (by simp) (λc hc=>.inl hc),λj u hu=>?_⟩;simpa using hk.cell hu
theorem APG {α:Type} [Z7 α] {X:List Nat} {T t bytes d1 d2 base:Nat} {x y:Operand} {v z0 u:Value} {cs:List Value} {xs:List α} [ht:Und P t (.slice T)] [hk:Siz P T (Z7.k α)] [hb:Byt P T bytes] [hz:Zer P T z0] (z:α) (hr:Row X w base T v xs) (hX:∀ b∈X,b<w.heap.size) (dD:base<=w.heap.size)
 (eY:Z7.rep (ob v++X) w z cs) (hl:(xs.length+1) * bytes<=140737488355328) (bP:xs.length+1<=maxLen)
 (k:∀ v1 v' w',Row X w' base T v' (xs++[z])->Stp (ob v) w w'->(∀ b∈ob v',b∈ob v\/w.heap.size<=b)->WL P n ops Q rest ((d2,v') :: (d1,v1) :: e) w')
 (hx:ev e x=some v:=by exact rfl) (hy:Z0p e [(0,y)]=some [(0,u)]:=by exact rfl) (bh:∀ w:World,(Instr.buildSlice t 1 #[(0,u)]).run P w=.ok (.slice (some ⟨w.heap.size,0,none⟩) 1 1) (w.alloc (.cells cs.toArray T)):=by intro w;kernel_rfl)
 (lU:∀ v1,ev ((d1,v1) :: e) x=some v:=by intro _;exact rfl) (ic:∀ v1,ev ((d1,v1) :: e) (.tmp d1)=some v1:=by intro _;exact rfl)
 (fF:z0.cells.size=Z7.k α:=by exact rfl) (br:0<Z7.k α:=by decide) (h1:Nat.blt d1 n=true:=by exact rfl) (h2:Nat.blt d2 n=true:=by exact rfl) :
 WL P n ops Q (⟨some d1,.buildSlice t 1 #[(0,y)],ty,pos,af,none⟩ :: ⟨some d2,.call { callee:=.builtin .append,args:=#[x,.tmp d1],argTypes:=#[t,t] },ty',pos',af',none⟩ :: rest) e w:=by
 refine Z1 (Z0 (l:=[(0,y)]) (vs:=[(0,u)]) hy bh) h1 ?_;intro v1 w1 hN;have hT:Stp [] w w1:=hN.choose_spec.2.2.2;have an:SlV (ob v++X) w1 v1 [z]:=hN.slv1 (λb hb=>by
  rcases Xi.1 hb with h|h
  exact (hr.ob_le b h).2;exact hX b h) eY
 refine Z1 (J4 (X:=X) (base:=base) fF br (lU v1) (ic v1) (hr.up hT) an (by simpa using hl) (by simpa using bP) (Xg dD hT.size)) h2 ?_;rintro v' w2 ⟨g1,g2,g3⟩;exact k v1 v' w2 g1 (hT.mn.trans g2) (λb hb=>(g3 b hb).imp id (Xg hT.size))
end Go.Eng
