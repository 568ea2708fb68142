/-
Contracts and plain laws, merged out of own texts.
-/
import Derived.Test.YteibicnbkggiiaaGreatDoorM1
import Derived.Lib.ItoaNum
import Derived.Laws.RangeString
import Derived.Laws.RangeAny
import Derived.Lib.AppendZeros
import Derived.Laws.OwnMore
import Derived.Deep.Slices
import Derived.Deep.Fields
import Derived.ChangeSame
import Derived.Below
import Derived.Carry
import Derived.ChangeOld
import Derived.ProofKit
import Derived.OpenShut
import Derived.SizedLaws
import Derived.HandedShaped
import Derived.LaidMore
import Derived.Stop.Joined
import Derived.SevenTiedAt
import Derived.MakeChecks
import Derived.Lib.ConvBytes
import Derived.Laws.AppendOwn
import Derived.Laws.BitsAllLaws
import Derived.Laws.Bits64
import Derived.Lib.SlBytesRow
import Derived.Lib.AppendStr
import Derived.Laws.BytesArg
import Derived.Laws.Cover3
import Derived.Shelf.Small.Utf8
import Derived.Shelf.Small.Bits
import Derived.Shelf.Small.Strs
import Derived.Shelf.Small.Wraps
import Derived.Shelf.Strconv.Atoi
import Derived.Shelf.Strconv.Itoa0
import Derived.Shelf.Strconv.Itoa1
import Derived.Shelf.LaysM
import Derived.Shelf.Strconv.Itoa2
import Derived.Shelf.Strconv.Itoa3
import Derived.Shelf.Strconv.AtoiErrFast
import Derived.Shelf.Strconv.ParseIntEmpty
import Derived.Shelf.Strconv.AtoiFail
import Derived.Shelf.Strconv.Clone
import Derived.Shelf.Strconv.SyntaxError
import Derived.Shelf.LaysC
import Derived.Shelf.Strconv.ToError
import Derived.Shelf.Strconv.Lower
import Derived.Shelf.Strconv.ParseUint10
import Derived.Shelf.Strconv.ParseUint10Empty
import Derived.Shelf.Strconv.ParseUint10Any
import Derived.Shelf.Strconv.ParseInt10
import Derived.Shelf.Strconv.AtoiLong
import Derived.Shelf.Strconv.AtoiInnerAll
import Derived.Shelf.Strconv.RangeError
import Derived.Shelf.Strconv.ToErrorRange
import Derived.Shelf.Strconv.AtoiAll
import Derived.Shelf.Strconv.ErrVarAll
import Derived.Shelf.Strings.Search1
import Derived.Shelf.Strings.Search2
import Derived.Shelf.Strings.Search3
import Derived.Shelf.Strings.Shaped
import Derived.Shelf.Sort.Plain
import Derived.Shelf.Strings.Prefix
import Derived.Shelf.Strings.Runes
import Derived.Shelf.Slices.Turned
import Derived.Ground.Names2Prog
import Derived.Shelf.Slices.CompactI
import Derived.Shelf.Slices.SearchI
import Derived.Shelf.Slices.Cells
import Derived.Shelf.Slices.In.SortNone
import Derived.Test.YteibicnbkggiiaaGreatDoorProg
set_option linter.unusedVariables false
set_option linter.unusedSimpArgs false
set_option maxHeartbeats 4000000
set_option maxRecDepth 20000
namespace Go.Proofs.YteibicnbkggiiaaGreatDoor
open Go Go.Eng Go.RowKit
theorem Z7t (k n:Int) (s:Str):0<=JV k n s/\JV k n s<=3:=by
 have h:0<=(ZA s).2.1/\(ZA s).2.1<=3:=by
  unfold ZA;dsimp only;split;simp;split<;>simp
 unfold JV
 grind
theorem Z7u (k n:Int) (s:Str) (ts:List Int) (hr:∀ t∈ts,0<=t/\t<=3):0<=J4 k n s ts/\J4 k n s ts<=3:=by
 unfold J4;split;omega;split;omega;split;exact Z7t _ _ _;split;omega;have hg:∀ i,0<=ts.getD i 0/\ts.getD i 0<=3:=by
  intro i;by_cases hi:i<ts.length;have:=hr ts[i] (Xb hi);simpa [List.getD,hi] using this;simp [List.getD,List.getElem?_eq_none (YaQ hi)]
 split;exact hg 1;split;unfold Z0F;split;split<;>omega
 split;split<;>omega
 split;split<;>omega
 omega;rw [Z4r];unfold Z8W
 grind
theorem Z1Z (x:Nd):0<=Ze x/\Ze x<=3:=by
 induction x using Nd.ind with
 | h k n s l ih=>
 rw [JW];refine Z7u _ _ _ _ (λt ht=>?_);obtain ⟨y,hy,rfl⟩:=XO.1 ht;exact ih y hy
theorem Zak (x:Nd):Ze x=Z2I x.kind x.num x.word (x.kids.map Ze):=by
 rw [JW,Zd9];intro t ht;obtain ⟨y,hy,rfl⟩:=XO.1 ht;exact Z1Z y
def Zx:Nd->Nat
 | .mk k n s l=>1+(l.map Zx).foldl max 0
theorem JG (x:Nd):Zx x=1+(x.kids.map Zx).foldl max 0:=by
 cases x;rw [Zx];rfl
theorem Z34 (l:List Nat):∀ (m b:Nat),l.foldl max m<=b↔m<=b/\∀ x∈l,x<=b:=by
 induction l with
 | nil=>intro m b;simp
 | cons y r ih=>
   intro m b;rw [Ya7,ih];simp only [Xg,forall_eq_or_imp];constructor;rintro ⟨h1,h2⟩;exact ⟨by omega,by omega,h2⟩;rintro ⟨h1,h2,h3⟩;exact ⟨by omega,h3⟩
theorem Z8X (m:Nat):∀ x:Nd,JU m x=decide (Zx x<=m):=by
 induction m with
 | zero=>
   intro x;rw [JG];simp [JU]
 | succ m ih=>
   intro x;rw [JG];have e:(1+(x.kids.map Zx).foldl max 0<=m+1)↔∀ y∈x.kids,Zx y<=m:=by
    rw [show (1+(x.kids.map Zx).foldl max 0<=m+1)↔(x.kids.map Zx).foldl max 0<=m by omega,Z34];simp
   rw [YaX,decide_eq_true_iff,e];simp only [JU,Xy];exact ⟨λh y hy=>by have:=h y hy;rw [ih] at this;simpa using this,λh y hy=>by rw [ih];simpa using h y hy⟩
theorem Z7v {x y:Nd} (h:y∈x.kids):Zx y<Zx x:=by
 rw [JG x];have:=(Z34 (x.kids.map Zx) 0 ((x.kids.map Zx).foldl max 0)).1 (Xq _);have:=this.2 (Zx y) (Yaj h);omega
theorem Z7w (x:Nd):∀ (X:List Nat) (v:Value) (w),Zx x<=1000000->NdV X w v x->
 CC 147 #[v] w λr w'=>r=.I (Zx x:Int)/\Stp [] w w':=by
 induction x using Nd.ind with
 | h k n s l ih=>
 intro X v w hb hx;generalize gP:Nd.mk k n s l=x at *;have ih':∀ y∈x.kids,∀ (X:List Nat) (v:Value) (w:World),Zx y<=1000000->NdV X w v y->CC 147 #[v] w λr w'=>r=.I (Zx y:Int)/\Stp [] w w':=by
  subst gP;exact ih
 clear ih gP k n s l;obtain ⟨kv,rfl,hs⟩:=hx;have aW:=hs.max;refine cW1 22 Tryz.func147 ?_;refine W ?_;refine Z1 (Zp rfl) rfl ?_;rintro _ w1 ⟨b,rfl,kX,ab,hS⟩;replace ab:Blk w1 b _ (ndC x kv):=ab;replace hs:=hs.up hS;refine W ?_;have bU:=hs;have eD:=ab;refine LP (σ:=Nat) (λk=>[(1,pQ b),(3,.I ((((x.kids.take k).map Zx).foldl max 0:Nat):Int)),(4,.I k)]) (λk w'=>k<=x.kids.length/\Stp [] w1 w') (λk=>x.kids.length - k) 0 ⟨Xo _,Stp.refl _ _⟩ ?_;clear hs ab;rintro k w2 ⟨hk,ak⟩;have hs:=bU.up ak;have ab:=eD.up ak;by_cases hlt:k<x.kids.length;obtain ⟨kv2,aJ,bz⟩:=hs.nd hlt;have oR:=Z7v (Xb hlt);refine QO ?_;apply Zf (J9 rfl rfl hs hlt bz) rfl;refine CM (ZN rfl) (ih' x.kids[k] (Xb hlt) X _ _ (by omega) ⟨kv2,rfl,aJ⟩) ?_;rintro _ w3 ⟨rfl,aq⟩;refine W ?_;refine Jj (k+1) ⟨rfl,?_,rfl,trivial⟩ ⟨hlt,ak.trans aq⟩ (by omega);rw [Xw hlt,XR,List.foldl_append];show some _=some _;congr 2;simp only [Xz,X6,Ya7,List.foldl_nil];omega;have cM:k=x.kids.length:=by omega
 subst cM;have hn:=JG x;rw [XG];refine QO ?_;refine WR ?_;refine .mk ⟨?_,hS.trans ak⟩;rw [hn];congr 1
theorem Zki (X XF:List Nat) (v:Value) (x:Nd) (w) (hx:NdV X w v x) (hF:SlV XF w Z1R Zb) :
 CC 187 #[v] w λr w'=>r=.tuple #[.I (if Zx x<=12 then Ze x else 0),.I (if Zx x<=12 then (if Ze x=0 then 21 else 0) else 2)]/\Stp [] w w':=by
 obtain ⟨kv,rfl,hs⟩:=hx;refine cW1 13 Tryz.func187 ?_;refine W ?_;refine Z1 (Zp rfl) rfl ?_;rintro _ w1 ⟨b,rfl,kX,ab,hS⟩;replace ab:Blk w1 b _ (ndC x kv):=ab;replace hs:=hs.up hS;replace hF:=hF.up hS;refine W ?_;refine CM (Zj rfl rfl) (Z8J 12 X _ x 12 _ rfl (by omega) ⟨kv,rfl,hs⟩) ?_;rintro _ w2 ⟨rfl,ak⟩;replace hs:=hs.up ak;replace hF:=hF.up ak;replace ab:=ab.up ak;replace hS:=hS.trans ak;rw [Z8X];by_cases hn:Zx x<=12;rw [decide_eq_true hn,if_pos hn,if_pos hn];refine W ?_;refine CL (Zkh x X XF _ _ ⟨kv,rfl,hs⟩ hF) ?_;rintro _ w3 ⟨rfl,aq⟩;replace hS:=hS.trans aq
 (refine QP ?_ ?_<;>intro hc)
 refine RU ?_;exact ⟨by rw [if_neg hc],hS⟩;refine WR ?_;have h0:Ze x=0:=by omega
 exact .mk ⟨by rw [if_pos h0,h0],hS⟩;rw [decide_eq_false hn,if_neg hn,if_neg hn];refine RT ?_;exact ⟨rfl,hS⟩
theorem Z8Y (X:List Nat) (s:Str) (u:Value) (l:List Int) (w) (hl:SlV X w u l) :
 CC 210 #[str s,u] w λr w'=>r=.I (Z41 s l)/\Stp [] w w':=by
 refine cW2 33 Tryz.func210 ?_;refine W ?_;refine Z1 (Z0 (vs:=[(0,.I 3),(1,.I 3)]) rfl (J3 _ _)) rfl ?_;rintro a3 w3 hN;have ha:=hN.slv (X:=[]) (ys:=[(3:Int),3]) (by simp) rfl rfl (by simp [maxLen]);have hS:=Z5.stp hN;clear hN;replace hl:=hl.up hS;refine CL (Z0u _ _ _ _ _ _ _ hl ha) ?_;rintro _ w4 ⟨rfl,aA⟩;replace hl:=hl.up aA;replace hS:=hS.trans aA;clear ha;unfold Z41;generalize Ju l [3,3]=p3;refine W ?_;refine CM (ZN rfl) (JP [] [110,101,120,116,32,112,114,101,118] _ (by simp) (by decide)) ?_;rintro _ w5 ⟨hr,ay⟩;rw [Z8U] at hr;replace hl:=hl.up ay;replace hS:=hS.trans ay;refine W ?_;refine CL (Jr [] _ _ s _ hr.slv0) ?_;rintro _ w6 ⟨rfl,cx⟩;replace hl:=hl.up cx;replace hS:=hS.trans cx;generalize idx (isS s) Z17=i1;clear hr;have rest:∀ (w:World) (Q:Exit->Act->World->Prop),True:=λ_ _=>trivial;by_cases hi:0<=i1;all_goals (refine QO ?_)
 all_goals first
  | (refine Z1 (Z0 (vs := [(0, .I 3)]) rfl (Zk _)) rfl ?_
     rintro a1 w7 hN;have ha:=hN.slv (X:=[]) (ys:=[(3:Int)]) (by simp) rfl rfl (by simp [maxLen]);have aM:=Z5.stp hN;clear hN;replace hl:=hl.up aM;replace hS:=hS.trans aM;refine W ?_;refine CL (Z0u _ _ _ _ _ _ _ hl ha) ?_;rintro _ w8 ⟨rfl,bI⟩;replace hl:=hl.up bI;replace hS:=hS.trans bI;generalize Ju l [3]=p1;cases p1)
  | generalize Ju l [3]=p1
 all_goals (repeat'(first|refine W1 ?_|omega|refine VG ?_ ?_<;>intro hg|refine VC ?_ ?_<;>intro hc))
 all_goals first
  | (refine RU ?_
     exact ⟨by simp [hi],hS⟩)
  | (refine CM (ZN rfl) (JP [] [108, 97, 116, 101, 114, 32, 101, 97, 114, 108, 105, 101, 114] _ (by simp) (by decide)) ?_
     rintro _ w9 ⟨hr,dN⟩;rw [Z8V] at hr;replace hl:=hl.up dN;replace hS:=hS.trans dN;refine W ?_;refine CL (Jr [] _ _ s _ hr.slv0) ?_;rintro _ w10 ⟨rfl,cz⟩;replace hS:=hS.trans cz;generalize idx (isS s) Z18=i2;clear hr)
 all_goals by_cases bN:0<=i2
 all_goals cases p3
 all_goals by_cases hs:s=[98,101,116,119,101,101,110]
 all_goals (repeat'(first|refine W1 ?_|omega|refine VG ?_ ?_<;>intro hg|refine VC ?_ ?_<;>intro hc))
 all_goals try contradiction
 all_goals (refine WR ?_)
 all_goals exact .mk ⟨by simp [hi,bN,hs],hS⟩
def okN:Nd->Bool
 | .mk k n s l=>decide (l.length<=1000) && (l.map okN).all id
theorem Zal (x:Nd):okN x=true↔x.kids.length<=1000/\∀ y∈x.kids,okN y=true:=by
 cases x;rw [okN];simp [Nd.kids]
abbrev ndL (k n:Int) (s:Str) (kv:Value):List Value:=[.I k,.I n,str s,kv]
theorem Zb0 (x:Nd):∀ (X:List Nat) (v:Value) (w),okN x=true->NdV X w v x->
 CC 148 #[v] w λr w'=>r=.I (Ze x)/\Stp [] w w':=by
 induction x using Nd.ind with
 | h k n s l ih=>
 intro X v w aF hx;obtain ⟨bj,dG⟩:=(Zal _).1 aF;replace bj:l.length<=1000:=bj;replace dG:∀ y∈l,okN y=true:=dG;obtain ⟨kv,rfl,hs⟩:=hx;replace hs:SlV X w kv l:=hs;rw [Zak];show Calls _ _ _ _ (Ret λr w'=>r=.I (Z2I k n s (l.map Ze))/\Stp [] w w');refine cW1 104 Tryz.func148 ?_;refine W ?_;refine Z1 (Zp rfl) rfl ?_;rintro _ w1 ⟨b,rfl,kX,ab,hS⟩;replace ab:Blk w1 b _ (ndL k n s kv):=ab;replace hs:=hs.up hS
 (refine QP ?_ ?_<;>intro hc)
 refine CL (Z8M X _ (.mk k n s l) _ ⟨kv,rfl,hs⟩) ?_;rintro _ w2 ⟨rfl,ak⟩;refine W ?_;refine WR ?_;have eA:l=[]:=X7.1 (by omega);subst eA;exact .mk ⟨by simp [Z2I];rfl,hS.trans ak⟩;have aZ:¬ l.map Ze=[]:=by
  intro h;have:=congrArg List.length h;simp at this;subst this;simp at hc
 have ai:(l.map Ze).length=l.length:=by simp
 have aX:∀ i (h:i<l.length) (h':i<(l.map Ze).length),(l.map Ze)[i]=Ze l[i]:=by intro i h h';simp
 generalize cY:l.map Ze=ts at *;refine Z0b (σ:=Value) (λu=>[(1,pQ b),(3,u)]) (λu w'=>SlV [] w' u ts/\Stp [] w1 w') ?_ ?_;have bU:=hs;have eD:=ab;have ru:w1.heap.size<=w1.heap.size:=Xq _;refine LP (σ:=Nat×Value) (λq=>[(1,pQ b),(3,q.2),(4,.I (q.1:Int))]) (λq w'=>q.1<=l.length/\Row [] w' w1.heap.size 3 q.2 (ts.take q.1)/\Stp [] w1 w') (λq=>l.length - q.1) (0,.N) ⟨Xo _,Row.nil,Stp.refl _ _⟩ ?_;clear hs ab;rintro ⟨j,u⟩ w2 ⟨hj,ac,ak⟩;dsimp only at hj ac ⊢;have hs:=bU.up ak;have ab:=eD.up ak;by_cases hlt:j<l.length;obtain ⟨kv2,aJ,bz⟩:=hs.nd hlt;refine QO ?_;apply Zf (J9 rfl rfl hs hlt bz) rfl;refine CL (ih l[j] (Xb hlt) X _ _ (dG _ (Xb hlt)) ⟨kv2,rfl,aJ⟩) ?_;rintro _ w3 ⟨rfl,aq⟩;replace ac:=ac.up aq;replace ak:=ak.trans aq;refine W ?_;refine Z1 (Z0 (vs:=[(0,.I (Ze l[j]))]) rfl (Zk _)) rfl ?_;rintro bv w4 hN;have aH:SlV (ob u++[]) w4 bv [Ze l[j]]:=hN.slv (λb hb=>(ac.ob_le b (by simpa using hb)).2) rfl rfl (by simp [maxLen]);have aA:=Z5.stp hN;clear hN;replace ac:=ac.up aA;replace ak:=ak.trans aA;have aP:=ak.size;have dF:(ts.take j).length<=1000:=by rw [XA];omega
 refine Z1 (ZI (X:=[]) (base:=w1.heap.size) rfl (by decide) rfl rfl ac aH (by simp only [Xh,Xj];omega) (by simp only [Xh,Xj,maxLen];omega) aP) rfl ?_;rintro u' w5 ⟨aK,ay,_⟩;refine W ?_;refine QL (j+1,u') ⟨by dsimp only;omega,?_,ak.own ay (λc hc=>.inr (ac.ob_le c hc).1)⟩ (by dsimp only;omega);dsimp only;rw [Xw (by omega),aX j hlt];exact aK;have fy:j=l.length:=by omega
 subst fy;rw [<- ai,XG] at ac;refine QO ?_;exact QT u ⟨ac.slv0,ak⟩;rintro u w2 ⟨hu,ak⟩;replace ab:=ab.up ak;replace hS:=hS.trans ak;have jd:1<=ts.length:=by
  cases ts with
  | nil=>exact absurd rfl aZ
  | cons=>simp
 clear aX cY hs;have h0:∀ (h:0<ts.length),ts.getD 0 0=ts[0]:=λh=>by simp [List.getD,h]
 have h1:∀ (h:1<ts.length),ts.getD 1 0=ts[1]:=λh=>by simp [List.getD,h]
 unfold Z2I;rw [if_neg aZ];refine W ?_;by_cases hn:¬ n=0;rw [if_pos hn];refine RT ?_;exact ⟨rfl,hS⟩;rw [if_neg hn];by_cases k5:k=5;subst k5;rw [if_pos rfl];have eA:0<ts.length:=by omega
 by_cases hm:s=[45]\/s=[110,111,116]
 have fin:∀ (z:Int) (p:Bool),(s=[45]/\z=1\/s=[110,111,116]/\z=2)->Ju ts [z]=p->(if s=[45]/\Ju ts [1]=true\/s=[110,111,116]/\Ju ts [2]=true then ts.getD 0 0 else 0)=if p then ts.getD 0 0 else 0:=by
  rintro z p (⟨rfl,rfl⟩|⟨rfl,rfl⟩) hp<;>simp [hp]
 rcases hm with rfl|rfl
 . refine QO ?_
   refine Z1 (Z0 (vs:=[(0,.I 1)]) rfl (Zk _)) rfl ?_;rintro a1 w7 hN;have ha:=hN.slv (X:=[]) (ys:=[(1:Int)]) (by simp) rfl rfl (by simp [maxLen]);have aM:=Z5.stp hN;clear hN;replace hu:=hu.up aM;replace ab:=ab.up aM;replace hS:=hS.trans aM;refine W ?_;refine CL (Z0u _ _ _ _ _ _ _ hu ha) ?_;rintro _ w8 ⟨rfl,bI⟩;replace hu:=hu.up bI;replace ab:=ab.up bI;replace hS:=hS.trans bI;rw [fin 1 _ (.inl ⟨rfl,rfl⟩) rfl];cases Ju ts [1] with
   | true=>
     refine QO ?_;refine WR ?_;refine .mk ⟨?_,hS⟩;rw [if_pos rfl,h0 jd]
   | false=>
     refine RT ?_;exact ⟨rfl,hS⟩
 . refine QO ?_
   refine Z1 (Z0 (vs:=[(0,.I 2)]) rfl (Zk _)) rfl ?_;rintro a1 w7 hN;have ha:=hN.slv (X:=[]) (ys:=[(2:Int)]) (by simp) rfl rfl (by simp [maxLen]);have aM:=Z5.stp hN;clear hN;replace hu:=hu.up aM;replace ab:=ab.up aM;replace hS:=hS.trans aM;refine W ?_;refine CL (Z0u _ _ _ _ _ _ _ hu ha) ?_;rintro _ w8 ⟨rfl,bI⟩;replace hu:=hu.up bI;replace hS:=hS.trans bI;rw [fin 2 _ (.inr ⟨rfl,rfl⟩) rfl];cases Ju ts [2] with
   | true=>
     refine QO ?_;refine WR ?_;refine .mk ⟨?_,hS⟩;rw [if_pos rfl,h0 jd]
   | false=>
     refine RT ?_;exact ⟨rfl,hS⟩
 . have eE:¬ s=[45]:=λh=>hm (.inl h)
   have dk:¬ s=[110,111,116]:=λh=>hm (.inr h);rw [if_neg (by rintro (⟨h,_⟩|⟨h,_⟩)<;>contradiction)];repeat'(first|refine W1 ?_|omega|refine VG ?_ ?_<;>intro hg|refine VC ?_ ?_<;>intro hc)
   all_goals try contradiction
   refine RU ?_;exact ⟨rfl,hS⟩
 rw [if_neg k5];by_cases k6:k=6;subst k6;rw [if_pos rfl];refine QO ?_;refine CL (Z6v [] s u ts _ hu) ?_;rintro _ w3 ⟨rfl,aq⟩;refine RT ?_;exact ⟨rfl,hS.trans aq⟩;rw [if_neg k6];by_cases k78:k=7\/k=8
 . rw [if_pos k78]
   have n9:¬ k=9:=by omega
   have n10:¬ k=10:=by omega
   (refine QP ?_ ?_<;>intro hc)
   all_goals
    refine ZDr 10 [] [] [(1,0),(2,1),(0,2),(3,2),(4,0),(5,0),(6,0),(7,2),(8,2),(9,0)] (λw1 ae=>?_);replace hu:=hu.up ae;replace ab:=ab.up ae;replace hS:=hS.trans ae;refine D ?_;refine Z7 rfl trivial (Z4 rfl (ZN rfl) (JP [] [100,97,121,115,32,119,101,101,107,115,32,109,111,110,116,104,115,32,99,111,117,114,116,100,97,121,115] _ (by simp) (by decide))) (λ_ _ h=>h.2) rfl ?_;rintro _ w5 ⟨hr,ay⟩;rw [Z7r] at hr;replace hu:=hu.up ay;replace hS:=hS.trans ay;refine DC (Jr [] _ _ s _ hr.slv0) (λ_ _ h=>h.2) ?_;rintro _ w6 ⟨rfl,cx⟩;replace hu:=hu.up cx;replace hS:=hS.trans cx;generalize idx (isS s) ZE=i1;by_cases hi:0<=i1;refine QD ?_;refine Z7 rfl rfl (Z0 (vs:=[(0,.I 3),(1,.I 1)]) rfl (J3 _ _)) (λ_ _ h=>Z5.stp h) rfl ?_;rintro a1 w7 hN;have ha:=hN.slv (X:=[]) (ys:=[(3:Int),1]) (by simp) rfl rfl (by simp [maxLen]);have aM:=Z5.stp hN;clear hN;replace hu:=hu.up aM;replace hS:=hS.trans aM;refine DC (Z0u _ _ _ _ _ _ _ hu ha) (λ_ _ h=>h.2) ?_;rintro _ w8 ⟨rfl,bI⟩;replace hS:=hS.trans bI;generalize Ju ts [3,1]=p;cases p;refine D ?_;refine RT ?_;exact ⟨by simp,hS⟩;refine D ?_;refine RT ?_;exact ⟨by simp [hi],hS⟩;refine QD ?_;refine RT ?_;exact ⟨by simp [hi],hS⟩
 rw [if_neg k78];by_cases k9:k=9;subst k9;rw [if_pos rfl];refine QO ?_;refine ZDr 19 [] [] [(0,0),(1,1),(2,0),(3,0),(4,0),(5,0),(6,0),(7,0),(8,0),(9,0),(10,0),(11,0),(12,1),(13,0),(14,0),(15,1),(16,2),(17,2),(18,0)] (λw1 ae=>?_);replace hu:=hu.up ae;replace ab:=ab.up ae;replace hS:=hS.trans ae;have oS:=hu.max;by_cases hs:s=[]
 subst hs;by_cases h3:ts.length=3;have fY:1<ts.length:=by omega
 have gI:=h1 fY;refine QD ?_;refine Z7 rfl rfl (Z0 (vs:=[(0,.I 2),(1,.I _),(2,.I _)]) rfl (Zd3 _ _ _)) (λ_ _ h=>Z5.stp h) rfl ?_;rintro a1 w7 hN;have ha:=hN.slv (X:=[]) (ys:=[(2:Int),ts[1],ts[1]]) (by simp) rfl rfl (by simp [maxLen]);have aM:=Z5.stp hN;clear hN;replace hu:=hu.up aM;replace hS:=hS.trans aM;refine DC (Z0u _ _ _ _ _ _ _ hu ha) (λ_ _ h=>h.2) ?_;rintro _ w8 ⟨rfl,bI⟩;replace hu:=hu.up bI;replace hS:=hS.trans bI;rw [gI];cases hp:Ju ts [2,ts[1],ts[1]];refine D ?_;refine RT ?_;exact ⟨by simp,hS⟩;refine D ?_;refine RT ?_;exact ⟨by simp [h3],hS⟩;refine QD ?_;refine RT ?_;exact ⟨by simp [h3],hS⟩
 . repeat'(first|refine D1 ?_|omega|refine Z6 rfl rfl rfl rfl (λhg=>?_) (λhg=>?_)|(refine Z2 rfl rfl rfl rfl (λhg=>?_) (λhg=>?_)<;>refine D1 ?_)|fail)
   all_goals try contradiction
   refine RT ?_;exact ⟨by simp [hs],hS⟩
 rw [if_neg k9];by_cases k10:k=10;subst k10;rw [if_pos rfl];refine QO ?_;refine CL (Z8Y [] s u ts _ hu) ?_;rintro _ w3 ⟨rfl,aq⟩;refine RT ?_;exact ⟨rfl,hS.trans aq⟩;rw [if_neg k10];refine RT ?_;exact ⟨rfl,hS⟩
def ZH:Nd->Nat
 | .mk k n s l=>1+(l.map ZH).sum
theorem JX (x:Nd):ZH x=1+(x.kids.map ZH).sum:=by
 cases x;rw [ZH];rfl
theorem Z5z {l:List Nat} {a:Nat} (h:a∈l):a<=l.sum:=by
 induction l with
 | nil=>cases h
 | cons x r ih=>
   rw [List.sum_cons];rcases Xg.1 h with rfl|h
   omega;have:=ih h;omega
theorem Zda {x y:Nd} (h:y∈x.kids):ZH y<ZH x:=by
 rw [JX x];have:=Z5z (Yaj (f:=ZH) h);omega
theorem Zdb (x:Nd):1<=ZH x:=by rw [JX];omega
theorem Z8Z (l:List Nd):l.length<=(l.map ZH).sum:=by
 induction l with
 | nil=>simp
 | cons x r ih=>
   have:=Zdb x;simp;omega
theorem Z20 (x:Nd):ZH x<=1000->okN x=true:=by
 induction x using Nd.ind with
 | h k n s l ih=>
 intro h;rw [Zal];have h1:=JX (.mk k n s l);have h2:=Z8Z l;refine ⟨?_,λy hy=>ih y hy ?_⟩;show l.length<=1000;have:ZH (.mk k n s l)=1+(l.map ZH).sum:=h1;omega;have:=Zda (x:=.mk k n s l) (y:=y) hy;omega
theorem Z4M (X:List Nat) (v:Value) (x:Nd) (w) (aF:okN x=true) (hn:Zx x<=1000000) (hx:NdV X w v x) :
 CC 100 #[v] w λr w'=>r=.tuple #[.I (if Zx x<=12 then Ze x else 0),.I (if Zx x<=12 then (if Ze x=0 then 21 else 0) else 2)]/\Stp [] w w':=by
 obtain ⟨kv,rfl,hs⟩:=hx;refine cW1 13 Tryz.func100 ?_;refine W ?_;refine Z1 (Zp rfl) rfl ?_;rintro _ w1 ⟨b,rfl,kX,ab,hS⟩;replace ab:Blk w1 b _ (ndC x kv):=ab;replace hs:=hs.up hS;refine W ?_;refine CL (Z7w x X _ _ hn ⟨kv,rfl,hs⟩) ?_;rintro _ w2 ⟨rfl,ak⟩;replace hs:=hs.up ak;replace ab:=ab.up ak;replace hS:=hS.trans ak;by_cases hn:Zx x<=12;rw [if_pos hn,if_pos hn];refine QO ?_;refine CL (Zb0 x X _ _ aF ⟨kv,rfl,hs⟩) ?_;rintro _ w3 ⟨rfl,aq⟩;replace hS:=hS.trans aq
 (refine QP ?_ ?_<;>intro hc)
 refine RU ?_;exact ⟨by rw [if_pos hc,hc],hS⟩;refine RU ?_;exact ⟨by rw [if_neg hc],hS⟩;rw [if_neg hn,if_neg hn];refine RT ?_;exact ⟨rfl,hS⟩
theorem Z4N {x:Nd} (h:Ze x≠0):x.kids.length<=3/\∀ y∈x.kids,Ze y≠0:=by
 rw [JW] at h;unfold J4 at h;refine ⟨?_,λy hy e=>?_⟩;by_cases hl:(x.kids.map Ze).length > 3;rw [if_pos hl] at h;exact absurd rfl h;simpa using hl;by_cases hl:(x.kids.map Ze).length > 3;rw [if_pos hl] at h;exact absurd rfl h;rw [if_neg hl,if_pos (by rw [<- e];exact Yaj hy)] at h;exact absurd rfl h
def Z4O:List Str:=[[110,101,120,116],[112,114,101,118],[108,97,116,101,114],[101,97,114,108,105,101,114],[98,101,116,119,101,101,110]]
inductive Zhx (k:Int) (s:Str) (m:Nat):Prop
 | neg (h:k=5) (hs:s=[45]\/s=[110,111,116]) (hm:m=1)
 | bin (h:k=6) (hs:s∈JK\/s∈Z0Q\/s∈JF) (hm:m=2)
 | unit (h:k=7\/k=8) (hs:s∈ZE) (hm:m=2)
 | cond (h:k=9) (hm:m=3)
 | call (h:k=10) (hs:s∈Z4O) (hm:1<=m/\m<=2)
theorem Z7x {x:Nd} (h:Ze x≠0) (hk:x.kids≠[]):x.num=0/\Zhx x.kind x.word x.kids.length:=by
 have hl:=(Z4N h).1;rw [Zak] at h;have ai:(x.kids.map Ze).length=x.kids.length:=by simp
 have aZ:¬ x.kids.map Ze=[]:=by simpa using hk
 generalize x.kids.map Ze=ts at *;rw [<- ai];unfold Z2I at h;rw [if_neg aZ] at h;have hn:x.num=0:=Decidable.byContradiction (λhn=>by rw [if_pos hn] at h;exact absurd rfl h);refine ⟨hn,?_⟩;rw [if_neg (by simpa using hn)] at h;have cf:∀ m:List Int,Ju ts m=true->ts.length=m.length:=λm hm=>by rw [(Z7s.1 hm).1]
 by_cases k5:x.kind=5;rw [if_pos k5] at h;split at h;rename_i hh;rcases hh with ⟨h1,h2⟩|⟨h1,h2⟩
 exact .neg k5 (.inl h1) (cf _ h2);exact .neg k5 (.inr h1) (cf _ h2);exact absurd rfl h;rw [if_neg k5] at h;by_cases k6:x.kind=6;rw [if_pos k6] at h;unfold Z6u at h;simp only [Z1A] at h;split at h;rename_i hh;exact .bin k6 (.inl hh.1) (cf _ hh.2);split at h;rename_i hh;rcases hh.2 with h2|h2
 exact .bin k6 (.inr (.inl hh.1)) (cf _ h2);exact .bin k6 (.inr (.inl hh.1)) (cf _ h2);split at h;rename_i hh;exact .bin k6 (.inr (.inr hh.1)) (cf _ hh.2);exact absurd rfl h;rw [if_neg k6] at h;by_cases k78:x.kind=7\/x.kind=8;rw [if_pos k78] at h;simp only [Z1A] at h;split at h;rename_i hh;exact .unit k78 hh.1 (cf _ hh.2);exact absurd rfl h;rw [if_neg k78] at h;by_cases k9:x.kind=9;rw [if_pos k9] at h;split at h;rename_i hh;exact .cond k9 hh.2.1;exact absurd rfl h;rw [if_neg k9] at h;by_cases k10:x.kind=10;rw [if_pos k10] at h;unfold Z41 at h;simp only [Z1A] at h;split at h;rename_i hh;refine .call k10 ?_ (by have:=cf _ hh.2;simp at this;omega);have:=hh.1;simp only [Z17,Z4O,Xg,Xm,or_false] at this ⊢;rcases this with h|h<;>simp [h]
 split at h;rename_i hh;refine .call k10 ?_ (by have:=cf _ hh.2;simp at this;omega);have:=hh.1;simp only [Z18,Z4O,Xg,Xm,or_false] at this ⊢;rcases this with h|h<;>simp [h]
 split at h;rename_i hh;refine .call k10 ?_ (by have:=cf _ hh.2;simp at this;omega);simp [Z4O,hh.1];exact absurd rfl h;rw [if_neg k10] at h;exact absurd rfl h
end Go.Proofs.YteibicnbkggiiaaGreatDoor
namespace Go.Eng
open Go
structure Ins where
 op:Int
 n:Int
 deriving DecidableEq,Inhabited
instance:Z8 Ins where
 k:=2
 enc:=λx=>[.I x.op,.I x.n]
 len:=λ_=>rfl
 one:=by intro x u hu;simp at hu;rcases hu with rfl|rfl<;>rfl
def agg {α:Type} [Z8 α] (x:α):Value:=aG x
theorem Row.keep {β:Type} [Z8 β] {X S:List Nat} {w w':World} {base T:Nat} {v:Value} {xs:List β} (h:Row X w base T v xs) (hS:Stp S w w') (hd:∀ b∈S,b∉ob v):Row X w' base T v xs:=by
 have h':Row S w base T v xs:=h;have:=h'.ext (X':=X) hS (λb hb=>⟨hb,hd b hb⟩);obtain ⟨css,h1,h2,h3⟩:=h;refine ⟨css,h1,h2,?_⟩;have h4:Row S w base T v xs:=⟨css,h1,h2,h3⟩
 obtain ⟨ho,hr⟩:=h3;refine ⟨ho,?_⟩;rcases hr with hn|⟨q,cap,cur,rfl,hb,hg,rest⟩
 exact .inl hn;refine .inr ⟨q,cap,cur,rfl,hb,?_,rest⟩;rw [hS.block q (Xx.1 hg).1 (λhq=>hd q hq (by simp [ob]))];exact hg
end Go.Eng
namespace Go.Proofs.YteibicnbkggiiaaGreatDoor
open Go Go.Eng Go.RowKit
theorem Z6y (a b:Int) (w):(Instr.build 174 #[(0,.I a),(1,.I b)]).run Tryz.prog w=.ok (agg (Ins.mk a b)) w:=by kernel_rfl
theorem Z4s (a:Int) (w):(Instr.build 174 #[(0,.I a)]).run Tryz.prog w=.ok (agg (Ins.mk a 0)) w:=by kernel_rfl
theorem Z2r (d:Ins) (w):(Instr.buildSlice 25 1 #[(0,agg d)]).run Tryz.prog w=.ok (.slice (some ⟨w.heap.size,0,none⟩) 1 1) (w.alloc (.cells (Z8.enc d).toArray 174)):=by kernel_rfl
abbrev Cf:=Nat->List Ins
def chC (c y n:Cf) (p0:Nat):List Ins:=
 c p0 ++ [⟨14, ((p0 + (c p0).length + 1 + (y (p0 + (c p0).length + 1)).length + 1 : Nat) : Int)⟩] ++ y (p0 + (c p0).length + 1) ++
   [⟨13,((p0+(c p0).length+1+(y (p0+(c p0).length+1)).length+1+(n (p0+(c p0).length+1+(y (p0+(c p0).length+1)).length+1)).length:Nat):Int)⟩]++n (p0+(c p0).length+1+(y (p0+(c p0).length+1)).length+1)
def Zdc:List (Str×List Int):=[([43],[5]),([42],[7]),([110,111,116],[12]),([60],[9]),([60,61],[10]),([61],[11]),([62],[10,12]),([62,61],[9,12]),([33,61],[11,12]),([100,97,121,115],[15]),([119,101,101,107,115],[16]),([109,111,110,116,104,115],[17]),([99,111,117,114,116,100,97,121,115],[18]),([110,101,120,116],[19]),([112,114,101,118],[20]),([108,97,116,101,114],[21]),([101,97,114,108,105,101,114],[22]),([98,101,116,119,101,101,110],[23])]
def opF (s:Str):List Int:=match Zdc.find? (λp=>decide (p.1=s)) with|some p=>p.2|none=>[]
theorem Zg8 (s:Str):(opF s).length<=2:=by
 unfold opF;cases h:Zdc.find? (λp=>decide (p.1=s)) with
 | none=>simp
 | some p=>
   have hp:=XZ h;have:∀ p∈Zdc,p.2.length<=2:=by decide
   exact this p hp
def J5:List Cf->Nat->List Ins
 | [],_=>[]
 | c :: r,p=>c p++J5 r (p+(c p).length)
theorem Z42 (a b:List Cf) (p:Nat):J5 (a++b) p=J5 a p++J5 b (p+(J5 a p).length):=by
 induction a generalizing p with
 | nil=>simp [J5]
 | cons c r ih=>
   simp only [XU,J5,ih,Xf,XM];rw [YaA]
theorem Zb1 (cs:List Cf) (p i:Nat) (h:i<cs.length):J5 (cs.take (i+1)) p=J5 (cs.take i) p++cs[i] (p+(J5 (cs.take i) p).length):=by
 rw [Xw h,Z42];simp [J5]
theorem Zam (cs:List Cf) (p i:Nat):(J5 (cs.take i) p).length<=(J5 cs p).length:=by
 have:J5 cs p=J5 (cs.take i) p++J5 (cs.drop i) (p+(J5 (cs.take i) p).length):=by rw [<- Z42,XY]
 rw [this,Xf];omega
def Z2D (l:List Int):List Ins:=l.map (λo=>⟨o,0⟩)
def Z0G (k:Int) (s:Str) (cs:List Cf) (p:Nat):List Ins:=J5 cs p++(if k=8\/k=5/\s=[45] then [⟨8,0⟩] else [])++Z2D (opF s)
def Z0r (k n:Int) (s:Str):Ins:=if k=1 then ⟨1,n⟩ else if k=2 then ⟨2,n⟩ else if k=3 then ⟨3,n⟩ else ⟨4,(ZA s).1⟩
def Z2U:Cf:=λ_=>[]
def Z0H (k n:Int) (s:Str) (cs:List Cf) (p:Nat):List Ins:=
 if cs.length=0 then [Z0r k n s]
 else if k=9 then chC (cs.getD 0 Z2U) (cs.getD 1 Z2U) (cs.getD 2 Z2U) p
 else if k=6/\s=[97,110,100] then chC (cs.getD 0 Z2U) (cs.getD 1 Z2U) (λ_=>[⟨2,0⟩]) p
 else if k=6/\s=[111,114] then chC (cs.getD 0 Z2U) (λ_=>[⟨2,1⟩]) (cs.getD 1 Z2U) p
 else if k=6/\s=[45] then Z0G k s cs p++[⟨6,0⟩]
 else Z0G k s cs p
def Zd:Nd->Nat->List Ins
 | .mk k n s l=>Z0H k n s (l.map Zd)
theorem Z4P (x:Nd):Zd x=Z0H x.kind x.num x.word (x.kids.map Zd):=by
 cases x;rw [Zd];rfl
theorem Zdd (w):(Instr.build 82 #[(0,.I 2)]).run Tryz.prog w=.ok (.agg #[.I 2,.I 0,str [],.N]) w:=by kernel_rfl
theorem Zde (w):(Instr.build 82 #[(0,.I 2),(1,.I 1)]).run Tryz.prog w=.ok (.agg #[.I 2,.I 1,str [],.N]) w:=by kernel_rfl
theorem Zg {α:Type} [Z3 α] (X:List Nat) (w:World):SlV (α:=α) X w (.N) []:=⟨none,0,rfl,Xq _,by simp [maxLen],λ_=>rfl,λi h=>absurd h (Xs _)⟩
theorem Z0X {α:Type} [Z3 α] {X:List Nat} {w w':World} {v u:Value} {l:List α} {i k j:Nat} (hs:SlV X w v l) (hi:i<l.length) (hS:Stp X w w') (h:w.cell? (Zz v i k j)=some u):w'.cell? (Zz v i k j)=some u:=by
 obtain ⟨p,c,rfl,_,_,_,hc⟩:=hs;obtain ⟨b,o,cs,rfl,_,hx,_⟩:=hc i hi;exact hS.cell hx h
theorem Z90 {x:Nd} (h:x.kids=[]) (p:Nat):Zd x p=[Z0r x.kind x.num x.word]:=by
 rw [Z4P,h];simp [Z0H]
theorem Z91 {x:Nd} {i:Nat} (h:i<x.kids.length):(x.kids.map Zd).getD i Z2U=Zd x.kids[i]:=by simp [List.getD,h]
theorem Zdf (l:List Nd) (h:∀ y∈l,∀ p,(Zd y p).length<=8 * ZH y) (p:Nat):(J5 (l.map Zd) p).length<=8 * (l.map ZH).sum:=by
 induction l generalizing p with
 | nil=>simp [J5]
 | cons x r ih=>
   simp only [Xz,J5,Xf,List.sum_cons];have h1:=h x (by simp) p;have h2:=ih (λy hy=>h y (by simp [hy])) (p+(Zd x p).length);omega
theorem Z7y (l:List Int):(Z2D l).length=l.length:=by simp [Z2D]
theorem Zdg {l:List Nd} (h:∀ y∈l,∀ p,(Zd y p).length<=8 * ZH y) (i p:Nat):((l.map Zd).getD i Z2U p).length<=8 * (l.map ZH).getD i 0:=by
 by_cases hi:i<l.length;simp [List.getD,hi];exact h _ (Xb hi) p;simp [List.getD,hi,Z2U]
theorem Zdh (l:List Nat):l.getD 0 0+l.getD 1 0+l.getD 2 0<=l.sum:=by
 rcases l with _|⟨a,_|⟨b,_|⟨c,r⟩⟩⟩<;>simp<;>omega
theorem Z6z (c y n:Cf) (A B C:Nat) (hc:∀ p,(c p).length<=A) (hy:∀ p,(y p).length<=B) (hn:∀ p,(n p).length<=C) (p:Nat):(chC c y n p).length<=A+B+C+2:=by
 unfold chC;simp only [Xf,Xh,Xj];have h1:=hc p;have h2:=hy (p+(c p).length+1);have h3:=hn (p+(c p).length+1+(y (p+(c p).length+1)).length+1);omega
theorem Zb2 (x:Nd):∀ p,(Zd x p).length<=8 * ZH x:=by
 induction x using Nd.ind with
 | h k n s l ih=>
 intro p;rw [Z4P,JX];show (Z0H k n s (l.map Zd) p).length<=8 * (1+(l.map ZH).sum);have hs:=Zdh (l.map ZH);have g:=Zdg ih;have hp:(Z0G k s (l.map Zd) p).length<=8 * (l.map ZH).sum+3:=by
  unfold Z0G;simp only [Xf,Z7y];have h1:=Zdf l ih p;have h2:=Zg8 s;have h3:(if k=8\/k=5/\s=[45] then [(⟨8,0⟩:Ins)] else []).length<=1:=by split<;>simp
  omega
 unfold Z0H;split;simp;omega;split;refine Xl (Z6z _ _ _ _ _ _ (g 0) (g 1) (g 2) p) (by omega);split;refine Xl (Z6z _ _ _ _ _ 1 (g 0) (g 1) (λ_=>by simp) p) (by omega);split;refine Xl (Z6z _ _ _ _ 1 _ (g 0) (λ_=>by simp) (g 1) p) (by omega);split;simp only [Xf,Xh,Xj];omega;omega
def Jd (x:Nd):List Ins:=Zd x 0++[⟨24,0⟩]
def Z1l (x:Nd):Int:=if Zx x<=12 then (if Ze x=0 then 21 else if (Jd x).length > 200 then 2 else 0) else 2
def Znl (w:World) (x:Nd) (r:Value) (w':World):Prop:=∃ cv,r=.tuple #[cv,.I (Z1l x)]/\(∀ X:List Nat,(∀ b∈X,b<w.heap.size)->SlV X w' cv (if Z1l x=0 then Jd x else []))/\Stp [] w w'
end Go.Proofs.YteibicnbkggiiaaGreatDoor
namespace Go.Eng
open Go Go.RowKit Go.Proofs
def J7 {β:Type} [Z8 β] (T:Nat) (w w':World) (v:Value) (xs:List β):Prop:=Row [] w' w.heap.size T v xs/\Stp [] w w'
section
variable {β:Type} [Z8 β] {T:Nat} {w w' w'':World} {v:Value} {xs ys:List β}
theorem Row.lower {α:Type} [Z3 α] {X:List Nat} {a b:Nat} {xs:List α} (h:Row X w b T v xs) (bE:a<=b):Row X w a T v xs:=by
 obtain ⟨css,h1,h2,h3,h4⟩:=h;refine ⟨css,h1,h2,h3,h4.imp id ?_⟩;rintro ⟨g,cap,cur,e1,e2,rest⟩;exact ⟨g,cap,cur,e1,Xl bE e2,rest⟩
theorem J7.nil:J7 (β:=β) T w w (.N) []:=⟨Row.nil,Stp.refl _ _⟩
theorem J7.up (h:J7 T w w' v xs) (hS:Stp [] w' w''):J7 T w w'' v xs:=⟨h.1.up hS,h.2.trans hS⟩
theorem J7.pre (hS:Stp [] w w') (h:J7 T w' w'' v xs):J7 T w w'' v xs:=⟨h.1.lower hS.size,hS.trans h.2⟩
theorem J7.one {cs:List Value} {len:Nat} (h:Z5 w T len cs v w') (hl:len=xs.length) (hc:cs=xs.flatMap Z8.enc) (hm:xs.length<=maxLen):J7 T w w' v xs:=⟨h.row (Xq _) hl hc hm,h.choose_spec.2.2.2⟩
theorem J7.slv (h:J7 T w w' v xs) {X:List Nat} (hX:∀ b∈X,b<w.heap.size):SlV X w' v xs:=Row.slv (X:=X) h.1 hX
theorem J7.ob_le (h:J7 T w w' v xs):∀ b∈ob v,w.heap.size<=b/\b<w'.heap.size:=h.1.ob_le
theorem J7.step {S:List Nat} (h:J7 T w w' v xs) (hS:Stp S w' w'') (ho:∀ b∈S,b∈ob v):Stp [] w w'':=h.2.own hS (λb hb=>.inr (h.ob_le b (ho b hb)).1)
section
variable {P:Program} {n:Nat} {e:Env} {d:Option Nat} {ty:TypeId} {pos:String} {af:Array Edge} {g:Option (Nat×Bool)}
theorem Jy {x y:Operand} {t bytes:Nat} {u:Value} {z:Value} [ht:Und P t (.slice T)] [hk:Siz P T (Z3.k β)] [hb:Byt P T bytes] [hz:Zer P T z] (cn:z.cells.size=Z3.k β) (ba:0<Z3.k β)
 (hx:ev e x=some v) (hy:ev e y=some u) (h:J7 T w w' v xs) (bR:SlV (ob v) w' u ys) (hbytes:(xs.length+ys.length) * bytes<=140737488355328) (ai:xs.length+ys.length<=maxLen) :
 OE P n ⟨d,.call { callee:=.builtin .append,args:=#[x,y],argTypes:=#[t,t] },ty,pos,af,g⟩ e w' (λv' w''=>J7 T w w'' v' (xs++ys)/\Stp (ob v) w' w''/\∀ b∈ob v',b∈ob v\/w'.heap.size<=b):=by
 refine (ZI (X:=[]) (base:=w.heap.size) cn ba hx hy h.1 (by rw [XE];exact bR) hbytes ai h.2.size).mono ?_;rintro v' w2 ⟨h1,h2,h3⟩;exact ⟨⟨h1,h.step h2 (λ_ hb=>hb)⟩,h2,h3⟩
theorem Zan {i j k:Nat} {t:TypeId} {x y:Operand} {u:Value} {y':β} [br:Siz P t 1] (hx:ev e x=some (.pointer (some (Zz v i k j)))) (hy:ev e y=some u) (hk:k=Z8.k β)
 (hu:u.cells.toList=[u]) (h1:u.oneCell'=true) (h:J7 T w w' v xs) (hi:i<xs.length) (hj:j<Z8.k β) (bW:Z8.enc y'=(Z8.enc xs[i]).set j u) :
 OE P n ⟨d,.store t x y,ty,pos,af,g⟩ e w' (λ_ w''=>J7 T w w'' v (xs.set i y')/\Stp (ob v) w' w''):=by
 refine (Z3z (β:=β) hx hy hk hu h1 h.1 hi hj bW).mono ?_;rintro _ w2 ⟨h2,h3⟩;exact ⟨⟨h2,h.step h3 (λ_ hb=>hb)⟩,h3⟩
end
end
structure Sl (α:Type) where
 l:List α
instance {α:Type} [Z3 α]:Z3 (Sl α) where
 k:=1
 rep:=λX w x cs=>∃ v,cs=[v]/\SlV X w v x.l
 len:=by rintro X w x cs ⟨v,rfl,_⟩;rfl
 one:=by
  rintro X w x cs ⟨v,rfl,p,c,rfl,_⟩ u hu;simp at hu;subst hu;rfl
 ext:=by
  rintro X S X' w w' x cs ⟨v,rfl,h⟩ hS h1 h2;exact ⟨v,rfl,h.ext hS h1 h2⟩
theorem Z5.slvS {α:Type} [Z3 α] {w w':World} {X:List Nat} {T len:Nat} {vs:List Value} {v:Value} {xss:List (Sl α)} (h:Z5 w T len vs v w') (hX:∀ b∈X,b<w.heap.size) (hl:len=xss.length) (rx:vs.length=xss.length)
 (hr:∀ i (hi:i<xss.length) (bh:i<vs.length),SlV X w vs[i] xss[i].l) (hm:xss.length<=maxLen):SlV X w' v xss:=by
 obtain ⟨b,rfl,hb,ab,hS⟩:=h;subst hl;refine ⟨some ⟨b,0,none⟩,xss.length,rfl,Xq _,hm,λh=>by simp at h,λi hi=>⟨b,0,[vs[i]'(by omega)],rfl,ab.lt,λhx=>by have:=hX b hx;omega,⟨_,rfl,(hr i hi (by omega)).up hS⟩,λj u hu=>?_⟩⟩;refine ab.cell ?_;have:j=0:=by
  have:=(Xu.1 hu).1;simp at this;exact this
 subst this;simp at hu;subst hu;simp [Z3.k]
theorem SlV.sub {α:Type} [Z3 α] {w} {X:List Nat} {v:Value} {xss:List (Sl α)} {i:Nat} (h:SlV X w v xss) (hi:i<xss.length):∃ u,w.cell? (Zz v i 1 0)=some u/\SlV X w u xss[i].l:=by
 obtain ⟨cs,⟨u,rfl,hu⟩,hc⟩:=h.cell hi;exact ⟨u,hc 0 u rfl,hu⟩
end Go.Eng
namespace Go.Proofs.YteibicnbkggiiaaGreatDoor
open Go Go.Eng Go.RowKit
theorem Z5U (v:Value) (x:Nd) (w) (hx:NdV [] w v x):CC 149 #[v] w λr w'=>r=agg (Z0r x.kind x.num x.word)/\Stp [] w w':=by
 obtain ⟨kv,rfl,hs⟩:=hx;refine cW1 32 Tryz.func149 ?_;refine W ?_;refine Z1 (Zp rfl) rfl ?_;rintro _ w1 ⟨b,rfl,hb,ab,hS⟩;replace ab:Blk w1 b _ (ndC x kv):=ab;have br:=hS.size;refine Z1 Z9 rfl ?_;rintro _ w2 ⟨b2,rfl,dx,aY,ak⟩;replace ab:=ab.up ak;replace hS:=hS.trans ak;repeat'(first|refine W1 ?_|omega|refine VG ?_ ?_<;>intro hg|refine VC ?_ ?_<;>intro hc)
 apply Za (vs:=[(0,.I 1),(1,.I _)]) rfl (Z6y _ _) rfl;refine SA (us:=Z8.enc (Ins.mk 1 x.num)) aY ?_;rintro _ w3 ⟨aq,aL⟩;refine W ?_;refine ZP rfl rfl rfl aL rfl ?_;refine .mk ⟨by rw [Z0r,if_pos (by assumption)];rfl,hS.ow aq⟩;apply Za (vs:=[(0,.I 2),(1,.I _)]) rfl (Z6y _ _) rfl;refine SA (us:=Z8.enc (Ins.mk 2 x.num)) aY ?_;rintro _ w3 ⟨aq,aL⟩;refine W ?_;refine ZP rfl rfl rfl aL rfl ?_;refine .mk ⟨by rw [Z0r,if_neg (by assumption),if_pos (by assumption)];rfl,hS.ow aq⟩;apply Za (vs:=[(0,.I 3),(1,.I _)]) rfl (Z6y _ _) rfl;refine SA (us:=Z8.enc (Ins.mk 3 x.num)) aY ?_;rintro _ w3 ⟨aq,aL⟩;refine W ?_;refine ZP rfl rfl rfl aL rfl ?_;refine .mk ⟨by rw [Z0r,if_neg (by assumption),if_neg (by assumption),if_pos (by assumption)];rfl,hS.ow aq⟩;refine CL (Z40 x.word _) ?_;rintro _ w3 ⟨rfl,aq⟩;replace aY:=aY.up aq;replace hS:=hS.trans aq;refine W ?_;apply Za (vs:=[(0,.I 4),(1,.I _)]) rfl (Z6y _ _) rfl;refine SA (us:=Z8.enc (Ins.mk 4 (ZA x.word).1)) aY ?_;rintro _ w4 ⟨aA,aV⟩;refine W ?_;refine ZP rfl rfl rfl aV rfl ?_;refine .mk ⟨by rw [Z0r,if_neg (by assumption),if_neg (by assumption),if_neg (by assumption)];rfl,hS.ow aA⟩
def Z21 (k:Int) (s:Str):List Int:=(if k=8\/k=5/\s=[45] then [8] else [])++opF s++(if k=6/\s=[45] then [6] else [])
def Z6A:List Str:=[[43],[45],[42],[60],[60,61],[61],[62],[62,61],[33,61]]
def Z6B:List (Sl Int):=[⟨[5]⟩,⟨[6]⟩,⟨[7]⟩,⟨[9]⟩,⟨[10]⟩,⟨[11]⟩,⟨[10,12]⟩,⟨[9,12]⟩,⟨[11,12]⟩]
theorem Zdi (a b c d:Int) (w):(Instr.buildSlice 22 4 #[(0,.I a),(1,.I b),(2,.I c),(3,.I d)]).run Tryz.prog w=.ok (.slice (some ⟨w.heap.size,0,none⟩) 4 4) (w.alloc (.cells #[.I a,.I b,.I c,.I d] 3)):=by kernel_rfl
theorem Zdj (a b c d e:Int) (w):(Instr.buildSlice 22 5 #[(0,.I a),(1,.I b),(2,.I c),(3,.I d),(4,.I e)]).run Tryz.prog w=.ok (.slice (some ⟨w.heap.size,0,none⟩) 5 5) (w.alloc (.cells #[.I a,.I b,.I c,.I d,.I e] 3)):=by kernel_rfl
theorem Zdk (a b c d e:Str) (w):(Instr.buildSlice 168 5 #[(0,str a),(1,str b),(2,str c),(3,str d),(4,str e)]).run Tryz.prog w=.ok (.slice (some ⟨w.heap.size,0,none⟩) 5 5) (w.alloc (.cells #[str a,str b,str c,str d,str e] 9)):=by kernel_rfl
theorem Zdl (a b c d e f g h i:Str) (w):(Instr.buildSlice 168 9 #[(0,str a),(1,str b),(2,str c),(3,str d),(4,str e),(5,str f),(6,str g),(7,str h),(8,str i)]).run Tryz.prog w=.ok (.slice (some ⟨w.heap.size,0,none⟩) 9 9) (w.alloc (.cells #[str a,str b,str c,str d,str e,str f,str g,str h,str i] 9)):=by kernel_rfl
theorem Zdm (p0 p1 p2 p3 p4 p5 p6 p7 p8:Option Addr) (l0 l1 l2 l3 l4 l5 l6 l7 l8 c0 c1 c2 c3 c4 c5 c6 c7 c8:Nat) (w):(Instr.buildSlice 176 9 #[(0,.slice p0 l0 c0),(1,.slice p1 l1 c1),(2,.slice p2 l2 c2),(3,.slice p3 l3 c3),(4,.slice p4 l4 c4),(5,.slice p5 l5 c5),(6,.slice p6 l6 c6),(7,.slice p7 l7 c7),(8,.slice p8 l8 c8)]).run Tryz.prog w=.ok (.slice (some ⟨w.heap.size,0,none⟩) 9 9) (w.alloc (.cells #[.slice p0 l0 c0,.slice p1 l1 c1,.slice p2 l2 c2,.slice p3 l3 c3,.slice p4 l4 c4,.slice p5 l5 c5,.slice p6 l6 c6,.slice p7 l7 c7,.slice p8 l8 c8] 22)):=by kernel_rfl
theorem o6 {s:Str} (h:s∈JK\/s∈Z0Q\/s∈JF) (ha:¬ s=[97,110,100]) (ho:¬ s=[111,114]):∃ i,∃ h:i<Z6B.length,idx (isS s) Z6A=(i:Int)/\Z6B[i].l=Z21 6 s:=by
 simp only [JK,Z0Q,JF,Xg,Xm,or_false] at h;rcases h with (h|h|h)|(h|h|h|h|h|h)|(h|h)<;>subst h
 exact ⟨0,by decide,by decide,by decide⟩;exact ⟨1,by decide,by decide,by decide⟩;exact ⟨2,by decide,by decide,by decide⟩;exact ⟨3,by decide,by decide,by decide⟩;exact ⟨4,by decide,by decide,by decide⟩;exact ⟨5,by decide,by decide,by decide⟩;exact ⟨8,by decide,by decide,by decide⟩;exact ⟨6,by decide,by decide,by decide⟩;exact ⟨7,by decide,by decide,by decide⟩;exact absurd rfl ha;exact absurd rfl ho
theorem oU {s:Str} (h:s∈ZE):∃ i,∃ h:i < [(15:Int),16,17,18].length,idx (isS s) ZE=(i:Int)/\Z21 7 s=[[(15:Int),16,17,18][i]]/\Z21 8 s=[8,[(15:Int),16,17,18][i]]:=by
 simp only [ZE,Xg,Xm,or_false] at h;rcases h with h|h|h|h<;>subst h
 exact ⟨0,by decide,by decide,by decide,by decide⟩;exact ⟨1,by decide,by decide,by decide,by decide⟩;exact ⟨2,by decide,by decide,by decide,by decide⟩;exact ⟨3,by decide,by decide,by decide,by decide⟩
theorem oC {s:Str} (h:s∈Z4O):∃ i,∃ h:i < [(19:Int),20,21,22,23].length,idx (isS s) Z4O=(i:Int)/\Z21 10 s=[[(19:Int),20,21,22,23][i]]:=by
 simp only [Z4O,Xg,Xm,or_false] at h;rcases h with h|h|h|h|h<;>subst h
 exact ⟨0,by decide,by decide,by decide⟩;exact ⟨1,by decide,by decide,by decide⟩;exact ⟨2,by decide,by decide,by decide⟩;exact ⟨3,by decide,by decide,by decide⟩;exact ⟨4,by decide,by decide,by decide⟩
theorem Z92 (X:List Nat) (v:Value) (x:Nd) (w:World) (je:∀ b∈X,b<w.heap.size) (cE:Zhx x.kind x.word x.kids.length) (h9:¬ x.kind=9) (ha:¬ (x.kind=6/\x.word=[97,110,100])) (ho:¬ (x.kind=6/\x.word=[111,114])) (hx:NdV [] w v x) :
 CC 151 #[v] w λr w'=>SlV X w' r (Z21 x.kind x.word)/\Stp [] w w':=by
 obtain ⟨kv,rfl,hs⟩:=hx;refine cW1 63 Tryz.func151 ?_;refine W ?_;refine Z1 (Zp rfl) rfl ?_;rintro _ w0 ⟨b,rfl,hb,ab,hS⟩;replace ab:Blk w0 b _ (ndC x kv):=ab;have hX:∀ b∈X,b<w0.heap.size:=λb hb=>Xc (je b hb) hS.size;refine W ?_;refine Z1 (Z0 (vs:=[(0,.I 5)]) rfl (Zk _)) rfl ?_;rintro a0 u0 hN;have s_a0:SlV X u0 a0 [(5:Int)]:=hN.slv hX rfl rfl (by simp [maxLen]);have hT:=Z5.stp hN;clear hN;replace ab:=ab.up hT;replace hS:=hS.trans hT;replace hX:=λb hb=>Xc (hX b hb) hT.size;clear hT;refine Z1 (Z0 (vs:=[(0,.I 6)]) rfl (Zk _)) rfl ?_;rintro a1 u1 hN;have s_a1:SlV X u1 a1 [(6:Int)]:=hN.slv hX rfl rfl (by simp [maxLen]);have hT:=Z5.stp hN;clear hN;replace ab:=ab.up hT;replace hS:=hS.trans hT;replace hX:=λb hb=>Xc (hX b hb) hT.size;replace s_a0:=s_a0.up hT;clear hT;refine Z1 (Z0 (vs:=[(0,.I 7)]) rfl (Zk _)) rfl ?_;rintro a2 u2 hN;have s_a2:SlV X u2 a2 [(7:Int)]:=hN.slv hX rfl rfl (by simp [maxLen]);have hT:=Z5.stp hN;clear hN;replace ab:=ab.up hT;replace hS:=hS.trans hT;replace hX:=λb hb=>Xc (hX b hb) hT.size;replace s_a0:=s_a0.up hT;replace s_a1:=s_a1.up hT;clear hT;refine Z1 (Z0 (vs:=[(0,.I 9)]) rfl (Zk _)) rfl ?_;rintro a3 u3 hN;have s_a3:SlV X u3 a3 [(9:Int)]:=hN.slv hX rfl rfl (by simp [maxLen]);have hT:=Z5.stp hN;clear hN;replace ab:=ab.up hT;replace hS:=hS.trans hT;replace hX:=λb hb=>Xc (hX b hb) hT.size;replace s_a0:=s_a0.up hT;replace s_a1:=s_a1.up hT;replace s_a2:=s_a2.up hT;clear hT;refine Z1 (Z0 (vs:=[(0,.I 10)]) rfl (Zk _)) rfl ?_;rintro a4 u4 hN;have s_a4:SlV X u4 a4 [(10:Int)]:=hN.slv hX rfl rfl (by simp [maxLen]);have hT:=Z5.stp hN;clear hN;replace ab:=ab.up hT;replace hS:=hS.trans hT;replace hX:=λb hb=>Xc (hX b hb) hT.size;replace s_a0:=s_a0.up hT;replace s_a1:=s_a1.up hT;replace s_a2:=s_a2.up hT;replace s_a3:=s_a3.up hT;clear hT;refine Z1 (Z0 (vs:=[(0,.I 11)]) rfl (Zk _)) rfl ?_;rintro a5 u5 hN;have s_a5:SlV X u5 a5 [(11:Int)]:=hN.slv hX rfl rfl (by simp [maxLen]);have hT:=Z5.stp hN;clear hN;replace ab:=ab.up hT;replace hS:=hS.trans hT;replace hX:=λb hb=>Xc (hX b hb) hT.size;replace s_a0:=s_a0.up hT;replace s_a1:=s_a1.up hT;replace s_a2:=s_a2.up hT;replace s_a3:=s_a3.up hT;replace s_a4:=s_a4.up hT;clear hT;refine Z1 (Z0 (vs:=[(0,.I 10),(1,.I 12)]) rfl (J3 _ _)) rfl ?_;rintro a6 u6 hN;have s_a6:SlV X u6 a6 [(10:Int),(12:Int)]:=hN.slv hX rfl rfl (by simp [maxLen]);have hT:=Z5.stp hN;clear hN;replace ab:=ab.up hT;replace hS:=hS.trans hT;replace hX:=λb hb=>Xc (hX b hb) hT.size;replace s_a0:=s_a0.up hT;replace s_a1:=s_a1.up hT;replace s_a2:=s_a2.up hT;replace s_a3:=s_a3.up hT;replace s_a4:=s_a4.up hT;replace s_a5:=s_a5.up hT;clear hT;refine Z1 (Z0 (vs:=[(0,.I 9),(1,.I 12)]) rfl (J3 _ _)) rfl ?_;rintro a7 u7 hN;have s_a7:SlV X u7 a7 [(9:Int),(12:Int)]:=hN.slv hX rfl rfl (by simp [maxLen]);have hT:=Z5.stp hN;clear hN;replace ab:=ab.up hT;replace hS:=hS.trans hT;replace hX:=λb hb=>Xc (hX b hb) hT.size;replace s_a0:=s_a0.up hT;replace s_a1:=s_a1.up hT;replace s_a2:=s_a2.up hT;replace s_a3:=s_a3.up hT;replace s_a4:=s_a4.up hT;replace s_a5:=s_a5.up hT;replace s_a6:=s_a6.up hT;clear hT;refine Z1 (Z0 (vs:=[(0,.I 11),(1,.I 12)]) rfl (J3 _ _)) rfl ?_;rintro a8 u8 hN;have s_a8:SlV X u8 a8 [(11:Int),(12:Int)]:=hN.slv hX rfl rfl (by simp [maxLen]);have hT:=Z5.stp hN;clear hN;replace ab:=ab.up hT;replace hS:=hS.trans hT;replace hX:=λb hb=>Xc (hX b hb) hT.size;replace s_a0:=s_a0.up hT;replace s_a1:=s_a1.up hT;replace s_a2:=s_a2.up hT;replace s_a3:=s_a3.up hT;replace s_a4:=s_a4.up hT;replace s_a5:=s_a5.up hT;replace s_a6:=s_a6.up hT;replace s_a7:=s_a7.up hT;clear hT;obtain ⟨p0,c0,rfl,_⟩:=id s_a0;obtain ⟨p1,c1,rfl,_⟩:=id s_a1;obtain ⟨p2,c2,rfl,_⟩:=id s_a2;obtain ⟨p3,c3,rfl,_⟩:=id s_a3;obtain ⟨p4,c4,rfl,_⟩:=id s_a4;obtain ⟨p5,c5,rfl,_⟩:=id s_a5;obtain ⟨p6,c6,rfl,_⟩:=id s_a6;obtain ⟨p7,c7,rfl,_⟩:=id s_a7;obtain ⟨p8,c8,rfl,_⟩:=id s_a8;refine Z1 (Z0 (vs:=[(0,.slice p0 _ c0),(1,.slice p1 _ c1),(2,.slice p2 _ c2),(3,.slice p3 _ c3),(4,.slice p4 _ c4),(5,.slice p5 _ c5),(6,.slice p6 _ c6),(7,.slice p7 _ c7),(8,.slice p8 _ c8)]) rfl (Zdm _ _ _ _ _ _ _ _ _ _ _ _ _ _ _ _ _ _ _ _ _ _ _ _ _ _ _)) rfl ?_;rintro tw u9 hN;have s_tw:SlV X u9 tw Z6B:=hN.slvS (xss:=Z6B) hX rfl rfl (λi hi bh=>match i,hi with|0,_=>s_a0|1,_=>s_a1|2,_=>s_a2|3,_=>s_a3|4,_=>s_a4|5,_=>s_a5|6,_=>s_a6|7,_=>s_a7|8,_=>s_a8) (by decide);have hT:=Z5.stp hN;clear hN;replace ab:=ab.up hT;replace hS:=hS.trans hT;replace hX:=λb hb=>Xc (hX b hb) hT.size;replace s_a0:=s_a0.up hT;replace s_a1:=s_a1.up hT;replace s_a2:=s_a2.up hT;replace s_a3:=s_a3.up hT;replace s_a4:=s_a4.up hT;replace s_a5:=s_a5.up hT;replace s_a6:=s_a6.up hT;replace s_a7:=s_a7.up hT;replace s_a8:=s_a8.up hT;clear hT;clear s_a0 s_a1 s_a2 s_a3 s_a4 s_a5 s_a6 s_a7 s_a8;refine W ?_;refine Z1 (Z0 (vs:=[(0,.I 19),(1,.I 20),(2,.I 21),(3,.I 22),(4,.I 23)]) rfl (Zdj _ _ _ _ _)) rfl ?_;rintro cl u10 hN;have s_cl:SlV X u10 cl [(19:Int),20,21,22,23]:=hN.slv hX rfl rfl (by simp [maxLen]);have hT:=Z5.stp hN;clear hN;replace ab:=ab.up hT;replace hS:=hS.trans hT;replace hX:=λb hb=>Xc (hX b hb) hT.size;replace s_tw:=s_tw.up hT;clear hT;refine W ?_;refine Z1 (Z0 (vs:=[(0,.I 15),(1,.I 16),(2,.I 17),(3,.I 18)]) rfl (Zdi _ _ _ _)) rfl ?_;rintro un u11 hN;have s_un:SlV X u11 un [(15:Int),16,17,18]:=hN.slv hX rfl rfl (by simp [maxLen]);have hT:=Z5.stp hN;clear hN;replace ab:=ab.up hT;replace hS:=hS.trans hT;replace hX:=λb hb=>Xc (hX b hb) hT.size;replace s_tw:=s_tw.up hT;replace s_cl:=s_cl.up hT;clear hT;refine W ?_;refine Z1 (Z0 (vs:=[(0,str [100,97,121,115]),(1,str [119,101,101,107,115]),(2,str [109,111,110,116,104,115]),(3,str [99,111,117,114,116,100,97,121,115])]) rfl (Z7p _ _ _ _)) rfl ?_;rintro us u12 hN;have s_us:SlV X u12 us ZE:=hN.slv hX rfl rfl (by simp [ZE,maxLen]);have hT:=Z5.stp hN;clear hN;replace ab:=ab.up hT;replace hS:=hS.trans hT;replace hX:=λb hb=>Xc (hX b hb) hT.size;replace s_tw:=s_tw.up hT;replace s_cl:=s_cl.up hT;replace s_un:=s_un.up hT;clear hT;refine W ?_;refine CL (Z0W X _ ZE x.word _ s_us) ?_;rintro _ w2 ⟨rfl,hT⟩;replace ab:=ab.up hT;replace s_tw:=s_tw.up hT;replace s_cl:=s_cl.up hT;replace s_un:=s_un.up hT;replace hS:=hS.trans hT;replace hX:=λb hb=>Xc (hX b hb) hT.size;clear hT s_us;have m7:x.kind=7\/x.kind=8->x.word∈ZE:=λhk=>by
  rcases cE with ⟨h,_,_⟩|⟨h,_,_⟩|⟨h,hu,_⟩|⟨h,_⟩|⟨h,_,_⟩<;>first|exact hu|omega
 have oT:x.kind=6->x.word∈JK\/x.word∈Z0Q\/x.word∈JF:=λhk=>by
  rcases cE with ⟨h,_,_⟩|⟨h,hu,_⟩|⟨h,_,_⟩|⟨h,_⟩|⟨h,_,_⟩<;>first|exact hu|omega
 have oV:x.kind=5->x.word=[45]\/x.word=[110,111,116]:=λhk=>by
  rcases cE with ⟨h,hu,_⟩|⟨h,_,_⟩|⟨h,_,_⟩|⟨h,_⟩|⟨h,_,_⟩<;>first|exact hu|omega
 have kY:¬ x.kind=5->¬ x.kind=6->¬ x.kind=7->¬ x.kind=8->x.kind=10/\x.word∈Z4O:=λ_ _ _ _=>by
  rcases cE with ⟨h,_,_⟩|⟨h,_,_⟩|⟨h,_,_⟩|⟨h,_⟩|⟨h,hu,_⟩<;>first|exact ⟨h,hu⟩|omega
 refine W ?_;by_cases k5:x.kind=5;have oW:=oV k5
 (refine QP ?_ ?_<;>intro hc)
 refine Z1 (Z0 (vs:=[(0,.I 8)]) rfl (Zk _)) rfl ?_;rintro r w3 hN;have hr:SlV X w3 r [(8:Int)]:=hN.slv hX rfl rfl (by simp [maxLen]);have hT:=Z5.stp hN;refine W ?_;refine WR ?_;have hw:x.word=[45]:=by assumption
 exact .mk ⟨by rw [k5,hw];exact hr,hS.trans hT⟩;refine Z1 (Z0 (vs:=[(0,.I 12)]) rfl (Zk _)) rfl ?_;rintro r w3 hN;have hr:SlV X w3 r [(12:Int)]:=hN.slv hX rfl rfl (by simp [maxLen]);have hT:=Z5.stp hN;refine W ?_;refine WR ?_;have hw:x.word=[110,111,116]:=oW.resolve_left (by assumption);exact .mk ⟨by rw [k5,hw];exact hr,hS.trans hT⟩;by_cases k6:x.kind=6;have oX:=oT k6;obtain ⟨i,hi,gR,fz⟩:=o6 oX (λh=>ha ⟨k6,h⟩) (λh=>ho ⟨k6,h⟩);refine QO ?_;refine Z1 (Z0 (vs:=[(0,str [43]),(1,str [45]),(2,str [42]),(3,str [60]),(4,str [60,61]),(5,str [61]),(6,str [62]),(7,str [62,61]),(8,str [33,61])]) rfl (Zdl _ _ _ _ _ _ _ _ _)) rfl ?_;rintro nv w3 hN;have s_n:SlV X w3 nv Z6A:=hN.slv hX rfl rfl (by simp [Z6A,maxLen]);have hT:=Z5.stp hN;replace ab:=ab.up hT;replace s_tw:=s_tw.up hT;replace hS:=hS.trans hT;clear hT hN;refine W ?_;refine CL (Z0W X _ Z6A x.word _ s_n) ?_;rintro _ w4 ⟨rfl,hT⟩;replace ab:=ab.up hT;replace s_tw:=s_tw.up hT;replace hS:=hS.trans hT;rw [gR];obtain ⟨u,an,ee⟩:=s_tw.sub hi;refine W ?_;apply Zf (Jo rfl rfl an) rfl;refine RT ?_;exact ⟨by rw [k6,<- fz];exact ee,hS⟩;by_cases k7:x.kind=7;obtain ⟨i,hi,gR,fz,_⟩:=oU (m7 (.inl k7));rw [gR];refine QO ?_;refine Z1 (Z0 (vs:=[(0,.I _)]) rfl (Zk _)) rfl ?_;rintro r w3 hN;have hr:SlV X w3 r [[(15:Int),16,17,18][i]]:=hN.slv hX rfl rfl (by simp [maxLen]);have hT:=Z5.stp hN;refine RT ?_;exact ⟨by rw [k7,fz];exact hr,hS.trans hT⟩;by_cases k8:x.kind=8;obtain ⟨i,hi,gR,_,fz⟩:=oU (m7 (.inr k8));rw [gR];refine QO ?_;refine Z1 (Z0 (vs:=[(0,.I 8),(1,.I _)]) rfl (J3 _ _)) rfl ?_;rintro r w3 hN;have hr:SlV X w3 r [8,[(15:Int),16,17,18][i]]:=hN.slv hX rfl rfl (by simp [maxLen]);have hT:=Z5.stp hN;refine RT ?_;exact ⟨by rw [k8,fz];exact hr,hS.trans hT⟩;obtain ⟨k10,kZ⟩:=kY k5 k6 k7 k8;obtain ⟨i,hi,gR,fz⟩:=oC kZ;refine QO ?_;refine Z1 (Z0 (vs:=[(0,str [110,101,120,116]),(1,str [112,114,101,118]),(2,str [108,97,116,101,114]),(3,str [101,97,114,108,105,101,114]),(4,str [98,101,116,119,101,101,110])]) rfl (Zdk _ _ _ _ _)) rfl ?_;rintro nv w3 hN;have s_n:SlV X w3 nv Z4O:=hN.slv hX rfl rfl (by simp [Z4O,maxLen]);have hT:=Z5.stp hN;replace ab:=ab.up hT;replace s_cl:=s_cl.up hT;replace hS:=hS.trans hT;replace hX:=λb hb=>Xc (hX b hb) hT.size;clear hT hN;refine W ?_;refine CL (Z0W X _ Z4O x.word _ s_n) ?_;rintro _ w4 ⟨rfl,hT⟩;replace ab:=ab.up hT;replace s_cl:=s_cl.up hT;replace hS:=hS.trans hT;replace hX:=λb hb=>Xc (hX b hb) hT.size;rw [gR];refine W ?_;refine Z1 (Z0 (vs:=[(0,.I _)]) rfl (Zk _)) rfl ?_;rintro r w5 hN;have hr:SlV X w5 r [[(19:Int),20,21,22,23][i]]:=hN.slv hX rfl rfl (by simp [maxLen]);have hT:=Z5.stp hN;refine RT ?_;exact ⟨by rw [k10,fz];exact hr,hS.trans hT⟩
abbrev RwI (w w':World) (v:Value) (xs:List Ins):Prop:=J7 174 w w' v xs
def Z3D (x:Nd) (f:Cf):Prop:=∀ (w:World) (nv:Value) (p:Nat) (z:Int),z=(p:Int)->NdV [] w nv x->p+(f p).length<=100000->
 CC 101 #[nv,.I z] w λr w'=>RwI w w' r (f p)
theorem Z22 {x y n:Nd} {f g h:Cf} (hx:Z3D x f) (hy:Z3D y g) (hn:Z3D n h) (w) (xv yv nv:Value) (p0:Nat) (z0:Int) (hz:z0=(p0:Int))
 (gx:NdV [] w xv x) (gy:NdV [] w yv y) (gn:NdV [] w nv n) (hl:p0+(chC f g h p0).length<=100000) :
 CC 150 #[xv,yv,nv,.I z0] w λr w'=>RwI w w' r (chC f g h p0):=by
 have da:=hl;unfold chC at da;simp only [Xf,Xh,Xj] at da;obtain ⟨xk,rfl,sx⟩:=gx;obtain ⟨yk,rfl,sy⟩:=gy;obtain ⟨nk,rfl,sn⟩:=gn;subst hz;refine cW4 60 Tryz.func150 ?_;refine W ?_;refine Z1 (Zp rfl) rfl ?_;rintro _ w1 ⟨b1,rfl,dO,k1,ae⟩;replace k1:Blk w1 b1 _ (ndC x xk):=k1;refine Z1 (Zp rfl) rfl ?_;rintro _ w2 ⟨b2,rfl,dx,k2,ak⟩;replace k2:Blk w2 b2 _ (ndC y yk):=k2;refine Z1 (Zp rfl) rfl ?_;rintro _ w3 ⟨b3,rfl,dY,k3,aq⟩;replace k3:Blk w3 b3 _ (ndC n nk):=k3;have hS:=(ae.trans ak).trans aq;replace k1:=(k1.up ak).up aq;replace k2:=k2.up aq;replace sx:=sx.up hS;replace sy:=sy.up hS;replace sn:=sn.up hS;clear ae ak aq;have oY:=chC.eq_1 f g h p0;generalize hA:f p0=A at *;generalize hp:p0+A.length+1=p at *;generalize hB:g p=B at *;generalize ry:p+B.length+1=q at *;generalize hD:h q=D at *;rw [oY];have e1:(A++[(⟨14,0⟩:Ins)]).length=A.length+1:=by simp
 have e2:(A++[(⟨14,0⟩:Ins)]++B).length=A.length+1+B.length:=by simp;omega
 have e3:(A++[(⟨14,0⟩:Ins)]++B++[(⟨13,0⟩:Ins)]).length=A.length+1+B.length+1:=by simp;omega
 have e4:∀ z,(A++[(⟨14,z⟩:Ins)]++B++[(⟨13,0⟩:Ins)]).length=A.length+1+B.length+1:=by simp;omega
 have e5:∀ z,(A++[(⟨14,z⟩:Ins)]++B++[(⟨13,0⟩:Ins)]++D).length=A.length+1+B.length+1+D.length:=by simp;omega
 refine W ?_;refine Z1 (Z4 rfl (Zj rfl rfl) (hx _ _ p0 _ rfl ⟨xk,rfl,sx⟩ (by rw [hA];omega))) rfl ?_;rintro v w4 hr;rw [hA] at hr;have au:=hr.slv (X:=[]) (by simp);refine W ?_;apply Za (vs:=[(0,.I 14)]) rfl (Z4s _) rfl;refine Z1 (Z0 (vs:=[(0,agg (Ins.mk 14 0))]) rfl (Z2r _)) rfl ?_;rintro u wb hN;have hu:SlV (ob v) wb u [Ins.mk 14 0]:=hN.slv (λb hb=>(hr.ob_le b hb).2) rfl rfl (by simp [maxLen]);have hT:=Z5.stp hN;clear hN;replace hr:=hr.up hT;clear hT au;refine Z1 (Jy rfl (by decide) rfl rfl hr hu (by simp only [Xh,Xj];omega) (by simp only [Xh,Xj,maxLen];omega)) rfl ?_;clear hu hr;rintro v wc ⟨hr,-,-⟩;have au:=hr.slv (X:=[]) (by simp);have kk:=k2.up hr.2;refine W ?_;refine Z1 (Z4 rfl (Zj rfl rfl) (hy _ _ p _ (by omega) ⟨yk,rfl,sy.up hr.2⟩ (by rw [hB];omega))) rfl ?_;rintro u wd hu;rw [hB] at hu;have dW:=hu.slv (X:=ob v) (λb hb=>(hr.ob_le b hb).2);replace hr:=hr.up hu.2;clear hu au kk;refine Z1 (Jy rfl (by decide) rfl rfl hr dW (by rw [e1];omega) (by rw [e1];simp only [maxLen];omega)) rfl ?_;clear dW hr;rintro v we ⟨hr,-,-⟩;have au:=hr.slv (X:=[]) (by simp);refine W ?_;apply Za (vs:=[(0,.I 13)]) rfl (Z4s _) rfl;refine Z1 (Z0 (vs:=[(0,agg (Ins.mk 13 0))]) rfl (Z2r _)) rfl ?_;rintro u wb hN;have hu:SlV (ob v) wb u [Ins.mk 13 0]:=hN.slv (λb hb=>(hr.ob_le b hb).2) rfl rfl (by simp [maxLen]);have hT:=Z5.stp hN;clear hN;replace hr:=hr.up hT;clear hT au;refine Z1 (Jy rfl (by decide) rfl rfl hr hu (by simp only [e2,Xh,Xj];omega) (by simp only [e2,Xh,Xj,maxLen];omega)) rfl ?_;clear hu hr;rintro v wc ⟨hr,-,-⟩;have au:=hr.slv (X:=[]) (by simp);have bX:A.length<(A++[(⟨14,0⟩:Ins)]++B++[(⟨13,0⟩:Ins)]).length:=by rw [e3];omega
 refine W ?_;have la:(A++[(⟨14,0⟩:Ins)]++B++[(⟨13,0⟩:Ins)])[A.length]=⟨14,0⟩:=by simp
 have hq1:(p0:Int)+((A++[(⟨14,0⟩:Ins)]++B++[(⟨13,0⟩:Ins)]).length:Int)=(q:Int):=by rw [e3];omega
 refine Zi (Zan (i:=A.length) (j:=1) (u:=.I ((p0:Int)+((A++[(⟨14,0⟩:Ins)]++B++[(⟨13,0⟩:Ins)]).length:Int))) (y':=⟨14,(q:Int)⟩) rfl rfl rfl rfl rfl hr bX (by decide) (by rw [la,<- hq1];rfl)) ?_;have jf:(A++[(⟨14,0⟩:Ins)]++B++[(⟨13,0⟩:Ins)]).set A.length ⟨14,(q:Int)⟩=A++[(⟨14,(q:Int)⟩:Ins)]++B++[(⟨13,0⟩:Ins)]:=by simp
 rw [jf];clear hr au;rintro _ wf ⟨hr,-⟩;have au:=hr.slv (X:=[]) (by simp);have e4':=e4 (q:Int);have kk:=k3.up hr.2;refine W ?_;refine Z1 (Z4 rfl (Zj rfl rfl) (hn _ _ q _ (by omega) ⟨nk,rfl,sn.up hr.2⟩ (by rw [hD];omega))) rfl ?_;rintro u wd hu;rw [hD] at hu;have dW:=hu.slv (X:=ob v) (λb hb=>(hr.ob_le b hb).2);replace hr:=hr.up hu.2;clear hu au kk;refine Z1 (Jy rfl (by decide) rfl rfl hr dW (by rw [e4];omega) (by rw [e4];simp only [maxLen];omega)) rfl ?_;clear dW hr;rintro v we ⟨hr,-,-⟩;have au:=hr.slv (X:=[]) (by simp);have e5':=e5 (q:Int);have bN:A.length+1+B.length<(A++[(⟨14,(q:Int)⟩:Ins)]++B++[(⟨13,0⟩:Ins)]++D).length:=by rw [e5];omega
 refine W ?_;have e2':(A++[(⟨14,(q:Int)⟩:Ins)]++B).length=A.length+1+B.length:=by simp;omega
 have cF:A++[(⟨14,(q:Int)⟩:Ins)]++B++[(⟨13,0⟩:Ins)]++D=(A++[(⟨14,(q:Int)⟩:Ins)]++B)++(⟨13,0⟩:Ins) :: D:=by simp
 rw [e2];have lc:(A++[(⟨14,(q:Int)⟩:Ins)]++B++[(⟨13,0⟩:Ins)]++D)[A.length+1+B.length]=⟨13,0⟩:=by
  rw [YaV (by rw [e4];omega),YaS (by omega)];simp
 have hq2:(p0:Int)+((A++[(⟨14,(q:Int)⟩:Ins)]++B++[(⟨13,0⟩:Ins)]++D).length:Int)=((q+D.length:Nat):Int):=by rw [e5];omega
 refine Zi (Zan (i:=A.length+1+B.length) (j:=1) (u:=.I ((p0:Int)+((A++[(⟨14,(q:Int)⟩:Ins)]++B++[(⟨13,0⟩:Ins)]++D).length:Int))) (y':=⟨13,((q+D.length:Nat):Int)⟩) rfl rfl rfl rfl rfl hr bN (by decide) (by rw [lc,<- hq2];rfl)) ?_;have jh:(A++[(⟨14,(q:Int)⟩:Ins)]++B++[(⟨13,0⟩:Ins)]++D).set (A.length+1+B.length) ⟨13,((q+D.length:Nat):Int)⟩=A++[(⟨14,(q:Int)⟩:Ins)]++B++[(⟨13,((q+D.length:Nat):Int)⟩:Ins)]++D:=by
  rw [cF,List.set_append_right _ _ (by omega),e2'];simp
 rw [jh];clear hr au;rintro _ wg ⟨hr,-⟩;refine W ?_;refine WR ?_;exact .mk (hr.pre hS)
theorem Z7z (z:Int):Z3D (.mk 2 z [] []) (λ_=>[⟨2,z⟩]):=by
 intro w nv p z0 hz hx hl;have hN:=hx;obtain ⟨kv,rfl,hs⟩:=hx;refine cW2 107 Tryz.func101 ?_;refine W ?_;refine Z1 (Zp rfl) rfl ?_;rintro _ w1 ⟨b,rfl,hb,ab,hS⟩;replace ab:Blk w1 b _ (ndC (.mk 2 z [] []) kv):=ab;replace hs:=hs.up hS;replace hN:=hN.up hS;have fA:(Nd.mk 2 z [] []).kids.length=0:=rfl;refine QO ?_;refine Z1 (Z4 rfl (ZN rfl) (Z5U _ (.mk 2 z [] []) _ hN)) rfl ?_;rintro _ w2 ⟨rfl,ak⟩;refine Z1 (Z0 (vs:=[(0,agg (Ins.mk 2 z))]) rfl (Z2r _)) rfl ?_;rintro u w3 ji;have hr:RwI w2 w3 u [Ins.mk 2 z]:=J7.one ji rfl rfl (by simp [maxLen]);refine W ?_;refine WR ?_;exact .mk (hr.pre (hS.trans ak))
theorem Z6C {x:Nd} (cs:List Cf) (p:Nat) (aZ:¬ cs.length=0) (h9:¬ x.kind=9) (ha:¬ (x.kind=6/\x.word=[97,110,100])) (ho:¬ (x.kind=6/\x.word=[111,114])):Z0H x.kind x.num x.word cs p=J5 cs p++Z2D (Z21 x.kind x.word):=by
 unfold Z0H Z21 Z0G;rw [if_neg aZ,if_neg h9,if_neg ha,if_neg ho];by_cases hm:x.kind=6/\x.word=[45]
 rw [if_pos hm,if_pos hm,hm.1,hm.2];simp [Z2D];rw [if_neg hm,if_neg hm];by_cases h8:x.kind=8\/x.kind=5/\x.word=[45]
 rw [if_pos h8,if_pos h8];simp [Z2D];rw [if_neg h8,if_neg h8];simp [Z2D]
theorem Zg9 (x:Nd):Ze x≠0->Z3D x (Zd x):=by
 induction x using Nd.ind with
 | h k n s l ih=>
 intro kp;have iE:=(Z4N kp).2;have bu:∀ i (h:i<(Nd.mk k n s l).kids.length),Z3D (Nd.mk k n s l).kids[i] (Zd (Nd.mk k n s l).kids[i]):=by
  intro i h;exact ih _ (Xb h) (iE _ (Xb h))
 have cE:=Z7x kp;have kq:=Z4P (.mk k n s l);have oZ:=Z90 (x:=.mk k n s l);have gS:=λi=>Z91 (x:=.mk k n s l) (i:=i);generalize (Nd.mk k n s l)=x at *;clear ih;intro w nv p z0 hz hx hl;subst hz;have hN:=hx;obtain ⟨kv,rfl,hs⟩:=hx;have aW:=hs.max;refine cW2 107 Tryz.func101 ?_;refine W ?_;refine Z1 (Zp rfl) rfl ?_;rintro _ wA ⟨b,rfl,hb,ab,hS⟩;replace ab:Blk wA b _ (ndC x kv):=ab;replace hs:=hs.up hS;replace hN:=hN.up hS;by_cases h0:x.kids=[]
 have fA:x.kids.length=0:=by rw [h0];rfl
 rw [oZ h0];refine QO ?_;refine Z1 (Z4 rfl (ZN rfl) (Z5U _ x _ hN)) rfl ?_;rintro _ w2 ⟨rfl,ak⟩;refine Z1 (Z0 (vs:=[(0,agg (Z0r x.kind x.num x.word))]) rfl (Z2r _)) rfl ?_;rintro u w3 ji;have hr:RwI w2 w3 u [Z0r x.kind x.num x.word]:=J7.one ji rfl rfl (by simp [maxLen]);refine W ?_;refine WR ?_;exact .mk (hr.pre (hS.trans ak));have fZ:¬ x.kids.length=0:=λh=>h0 (YaI h);have bD:¬ (x.kids.map Zd).length=0:=by simpa using h0
 replace cE:=(cE h0).2;have m8:x.kind=6->x.kids.length=2:=λh6=>by
  rcases cE with ⟨h,_,_⟩|⟨h,_,hm⟩|⟨h,_,_⟩|⟨h,_⟩|⟨h,_,_⟩<;>omega
 have o0:x.kind=9->x.kids.length=3:=λh6=>by
  rcases cE with ⟨h,_,_⟩|⟨h,_,hm⟩|⟨h,_,_⟩|⟨h,hm⟩|⟨h,_,_⟩<;>omega
 by_cases h9:x.kind=9;have h3:=o0 h9;have h0:0<x.kids.length:=by omega
 have h1:1<x.kids.length:=by omega
 have h2:2<x.kids.length:=by omega
 have e9:Zd x=chC (Zd x.kids[0]) (Zd x.kids[1]) (Zd x.kids[2]):=by
  funext p;rw [kq,Z0H,if_neg bD,if_pos h9,gS 0 h0,gS 1 h1,gS 2 h2]
 rw [e9] at hl ⊢;refine QO ?_;refine ZDr 15 [] [] [(0,0),(1,1),(2,0),(3,1),(4,0),(5,1),(6,0),(7,1),(8,0),(9,1),(10,0),(11,1),(12,0),(13,2),(14,0)] (λw1 ae=>?_);replace hs:=hs.up ae;replace ab:=ab.up ae;replace hS:=hS.trans ae;obtain ⟨u0,s0,d0⟩:=hs.nd h0;obtain ⟨u1,s1,d1⟩:=hs.nd h1;obtain ⟨u2,s2,d2⟩:=hs.nd h2;refine D ?_;refine WD_read rfl trivial (λw' aE=>J9 rfl rfl (hs.on aE (λ_ h=>h)) h0 (λj u hj=>Z0X hs h0 aE (d0 j u hj))) rfl ?_;refine D ?_;refine WD_read rfl trivial (λw' aE=>J9 rfl rfl (hs.on aE (λ_ h=>h)) h1 (λj u hj=>Z0X hs h1 aE (d1 j u hj))) rfl ?_;refine D ?_;refine WD_read rfl trivial (λw' aE=>J9 rfl rfl (hs.on aE (λ_ h=>h)) h2 (λj u hj=>Z0X hs h2 aE (d2 j u hj))) rfl ?_;refine D ?_;refine DC (Z22 (bu 0 h0) (bu 1 h1) (bu 2 h2) _ _ _ _ p _ rfl ⟨u0,rfl,s0⟩ ⟨u1,rfl,s1⟩ ⟨u2,rfl,s2⟩ hl) (λ_ _ h=>h.2) ?_;rintro _ w5 hq;refine D ?_;refine W ?_;refine WR ?_;exact .mk (hq.pre hS);by_cases ha:x.kind=6/\x.word=[97,110,100]
 . obtain ⟨h6,hw⟩:=ha
   have h2:=m8 h6;have h0:0<x.kids.length:=by omega
   have h1:1<x.kids.length:=by omega
   have e9:Zd x=chC (Zd x.kids[0]) (Zd x.kids[1]) (λ_=>[⟨2,0⟩]):=by
    funext p;rw [kq,Z0H,if_neg bD,if_neg h9,if_pos ⟨h6,hw⟩,gS 0 h0,gS 1 h1]
   rw [e9] at hl ⊢;repeat'(first|refine W1 ?_|omega|refine VG ?_ ?_<;>intro hg|refine VC ?_ ?_<;>intro hc)
   all_goals first
    | (exfalso;contradiction)
    | skip
   refine ZDr 12 [] [] [(0,0),(1,1),(2,0),(3,1),(4,0),(5,1),(6,0),(7,1),(8,0),(9,0),(10,2),(11,0)] (λw1 ae=>?_);replace hs:=hs.up ae;replace ab:=ab.up ae;replace hS:=hS.trans ae;obtain ⟨u0,s0,d0⟩:=hs.nd h0;obtain ⟨u1,s1,d1⟩:=hs.nd h1;refine D ?_;refine WD_read rfl trivial (λw' aE=>J9 rfl rfl (hs.on aE (λ_ h=>h)) h0 (λj u hj=>Z0X hs h0 aE (d0 j u hj))) rfl ?_;refine D ?_;refine WD_read rfl trivial (λw' aE=>J9 rfl rfl (hs.on aE (λ_ h=>h)) h1 (λj u hj=>Z0X hs h1 aE (d1 j u hj))) rfl ?_;refine D ?_;apply Z0V;exact rfl;apply Z1g (vs:=[(0,.I 2)]);exact trivial;exact rfl;exact Zdd;exact rfl;refine D ?_;refine DC (Z22 (bu 0 h0) (bu 1 h1) (Z7z 0) _ _ _ _ p _ rfl ⟨u0,rfl,s0⟩ ⟨u1,rfl,s1⟩ ⟨_,rfl,Zg _ _⟩ hl) (λ_ _ h=>h.2) ?_;rintro _ w5 hq;refine D ?_;refine W ?_;refine WR ?_;exact .mk (hq.pre hS)
 by_cases ho:x.kind=6/\x.word=[111,114]
 . obtain ⟨h6,hw⟩:=ho
   have h2:=m8 h6;have rz:¬ x.word=[97,110,100]:=λh=>ha ⟨h6,h⟩;have h0:0<x.kids.length:=by omega
   have h1:1<x.kids.length:=by omega
   have e9:Zd x=chC (Zd x.kids[0]) (λ_=>[⟨2,1⟩]) (Zd x.kids[1]):=by
    funext p;rw [kq,Z0H,if_neg bD,if_neg h9,if_neg ha,if_pos ⟨h6,hw⟩,gS 0 h0,gS 1 h1]
   rw [e9] at hl ⊢;repeat'(first|refine W1 ?_|omega|refine VG ?_ ?_<;>intro hg|refine VC ?_ ?_<;>intro hc)
   all_goals first
    | (exfalso;contradiction)
    | skip
   refine ZDr 12 [] [] [(0,0),(1,1),(2,0),(3,1),(4,0),(5,0),(6,1),(7,0),(8,1),(9,0),(10,2),(11,0)] (λw1 ae=>?_);replace hs:=hs.up ae;replace ab:=ab.up ae;replace hS:=hS.trans ae;obtain ⟨u0,s0,d0⟩:=hs.nd h0;obtain ⟨u1,s1,d1⟩:=hs.nd h1;refine D ?_;refine WD_read rfl trivial (λw' aE=>J9 rfl rfl (hs.on aE (λ_ h=>h)) h0 (λj u hj=>Z0X hs h0 aE (d0 j u hj))) rfl ?_;refine D ?_;apply Z0V;exact rfl;apply Z1g (vs:=[(0,.I 2),(1,.I 1)]);exact trivial;exact rfl;exact Zde;exact rfl;refine D ?_;refine WD_read rfl trivial (λw' aE=>J9 rfl rfl (hs.on aE (λ_ h=>h)) h1 (λj u hj=>Z0X hs h1 aE (d1 j u hj))) rfl ?_;refine D ?_;refine DC (Z22 (bu 0 h0) (Z7z 1) (bu 1 h1) _ _ _ _ p _ rfl ⟨u0,rfl,s0⟩ ⟨_,rfl,Zg _ _⟩ ⟨u1,rfl,s1⟩ hl) (λ_ _ h=>h.2) ?_;rintro _ w5 hq;refine D ?_;refine W ?_;refine WR ?_;exact .mk (hq.pre hS)
 have o4:=Z6C (x:=x) _ p bD h9 ha ho;rw [kq,o4] at hl ⊢;have bL:(x.kids.map Zd).length=x.kids.length:=by simp
 generalize hO:Z21 x.kind x.word=O at *;rw [Xf,Z7y] at hl;have main:∀ r w',RwI wA w' r (J5 (x.kids.map Zd) p++Z2D O)->RwI w w' r (J5 (x.kids.map Zd) p++Z2D O):=λr w' h=>h.pre hS;repeat'(first|refine W1 ?_|omega|refine VG ?_ ?_<;>intro hg|refine VC ?_ ?_<;>intro hc)
 all_goals first
  | (exfalso;first|exact ha ⟨by assumption,by assumption⟩|exact ho ⟨by assumption,by assumption⟩)
  | skip
 all_goals
  refine LP (σ:=Nat×Value) (λq=>[(1,.I (p:Int)),(2,pQ b),(5,q.2),(6,.I (q.1:Int))]) (λq w'=>q.1<=x.kids.length/\RwI wA w' q.2 (J5 ((x.kids.map Zd).take q.1) p)) (λq=>x.kids.length - q.1) (0,.N) ⟨Xo _,by simpa [J5] using J7.nil⟩ ?_;rintro ⟨j,v⟩ w2 ⟨hj,hr⟩;dsimp only at hj hr ⊢;have au:=hr.slv (X:=[]) (by simp);have aJ:=hs.up hr.2;have dx:=ab.up hr.2;by_cases hlt:j<x.kids.length;obtain ⟨kv2,dG,bz⟩:=aJ.nd hlt;have aB:=Zb1 (x.kids.map Zd) p j (by omega);have cV:=Zam (x.kids.map Zd) p (j+1);have o5:=Zam (x.kids.map Zd) p j;rw [aB,Xf] at cV;rw [List.getElem_map] at cV aB;refine QO ?_;apply Zf (J9 rfl rfl aJ hlt bz) rfl;refine W ?_;generalize hA:J5 ((x.kids.map Zd).take j) p=A at *;refine Z1 (Z4 rfl (Zj rfl rfl) (bu j hlt _ _ (p+A.length) _ (by omega) ⟨kv2,rfl,dG⟩ (by omega))) rfl ?_;rintro u w3 hu;have dW:=hu.slv (X:=ob v) (λb hb=>(hr.ob_le b hb).2);replace hr:=hr.up hu.2;clear hu;refine Z1 (Jy rfl (by decide) rfl rfl hr dW (by omega) (by simp only [maxLen];omega)) rfl ?_;rintro v' w4 ⟨bW,-,-⟩;refine W ?_;refine QL (j+1,v') ⟨by dsimp only;omega,?_⟩ (by dsimp only;omega);dsimp only;rw [aB];exact bW;have fy:j=(x.kids.map Zd).length:=by omega
  subst fy;rw [XG] at hr au;generalize J5 (x.kids.map Zd) p=A at *;refine QO ?_;refine Z1 (Z4 rfl (ZN rfl) (Z92 (ob v) _ x _ (λb hb=>(hr.ob_le b hb).2) cE h9 ha ho ⟨kv,rfl,aJ⟩)) rfl ?_;rintro ov w3 ⟨dl,hT⟩;rw [hO] at dl;replace hr:=hr.up hT;clear au aJ dx;have rA:=dl.max;refine W ?_;refine LP (σ:=Nat×Value) (λq=>[(5,q.2),(7,ov),(8,.I (q.1:Int))]) (λq w'=>q.1<=O.length/\RwI wA w' q.2 (A++Z2D (O.take q.1))/\SlV (ob q.2) w' ov O) (λq=>O.length - q.1) (0,v) ⟨Xo _,by simpa [Z2D] using hr,dl⟩ ?_;clear hr dl hT;rintro ⟨i,v5⟩ w5 ⟨hi,hr,dl⟩;dsimp only at hi hr dl ⊢;by_cases hlt:i<O.length;have ku:(A++Z2D (O.take i)).length=A.length+i:=by simp [Z2D];omega
  refine QO ?_;apply Za (vs:=[(0,.I _)]) rfl (Z4s _) rfl;refine Z1 (Z0 (vs:=[(0,agg (Ins.mk O[i] 0))]) rfl (Z2r _)) rfl ?_;rintro u w6 ld;have hu:SlV (ob v5) w6 u [Ins.mk O[i] 0]:=ld.slv (λb hb=>(hr.ob_le b hb).2) rfl rfl (by simp [maxLen]);have hT:=Z5.stp ld;clear ld;replace hr:=hr.up hT;replace dl:=dl.up hT;refine Z1 (Jy rfl (by decide) rfl rfl hr hu (by rw [ku];simp only [Xh,Xj];omega) (by rw [ku];simp only [Xh,Xj,maxLen];omega)) rfl ?_;rintro v7 w7 ⟨bW,aM,bp⟩;refine W ?_;refine QL (i+1,v7) ⟨by dsimp only;omega,?_,dl.ext aM (λ_ h=>h) bp⟩ (by dsimp only;omega);dsimp only;rw [Xw hlt];unfold Z2D at bW ⊢;rw [XR,<- XM];exact bW;have o7:i=O.length:=by omega
  subst o7;rw [XG] at hr;refine QO ?_;refine WR ?_;exact .mk (main _ _ hr)
theorem Z1L (v:Value) (x:Nd) (w) (br:ZH x<=1000) (bO:Zx x<=1000000) (hx:NdV [] w v x) :
 Calls Tryz.prog 64 #[v] w (Ret (Znl w x)):=by
 have hN:=hx;obtain ⟨kv,rfl,hs⟩:=hx;refine cW1 24 Tryz.func64 ?_;refine W ?_;refine Z1 (Zp rfl) rfl ?_;rintro _ w1 ⟨b,rfl,hb,ab,hS⟩;replace ab:Blk w1 b _ (ndC x kv):=ab;replace hs:=hs.up hS;replace hN:=hN.up hS;refine W ?_;refine CL (Z4M [] _ x _ (Z20 x br) bO hN) ?_;rintro _ w2 ⟨rfl,ak⟩;replace hs:=hs.up ak;replace hN:=hN.up ak;replace ab:=ab.up ak;replace hS:=hS.trans ak;by_cases hn:Zx x<=12
 case neg=>
  rw [if_neg hn,if_neg hn];have he:Z1l x=2:=by rw [Z1l,if_neg hn]
  refine QO ?_;refine WR ?_;refine .mk ⟨_,by rw [he];rfl,λX hX=>?_,hS⟩;rw [he,if_neg (by decide)];exact Zg _ _
 by_cases ht:Ze x=0;rw [if_pos hn,if_pos hn,if_pos ht];have he:Z1l x=21:=by rw [Z1l,if_pos hn,if_pos ht]
 refine QO ?_;refine WR ?_;refine .mk ⟨_,by rw [he];rfl,λX hX=>?_,hS⟩;rw [he,if_neg (by decide)];exact Zg _ _;rw [if_pos hn,if_pos hn,if_neg ht];have ai:=Zb2 x 0;refine QO ?_;refine CM (Zj rfl rfl) (Zg9 x ht _ _ 0 0 rfl hN (by omega)) ?_;rintro v3 w3 hr;apply Za (vs:=[(0,.I 24)]) rfl (Z4s _) rfl;refine Z1 (Z0 (vs:=[(0,agg (Ins.mk 24 0))]) rfl (Z2r _)) rfl ?_;rintro u w4 lf;have hu:SlV (ob v3) w4 u [Ins.mk 24 0]:=lf.slv (λb hb=>(hr.ob_le b hb).2) rfl rfl (by simp [maxLen]);have hT:=Z5.stp lf;clear lf;replace hr:=hr.up hT;refine Z1 (Jy rfl (by decide) rfl rfl hr hu (by simp only [Xh,Xj];omega) (by simp only [Xh,Xj,maxLen];omega)) rfl ?_;clear hu hr hT;rintro v5 w5 ⟨hr,-,-⟩;replace hr:=hr.pre hS;replace hr:RwI w w5 v5 (Jd x):=hr;have o8:=hr.slv (X:=[]) (by simp);by_cases hg:(Jd x).length > 200;have he:Z1l x=2:=by rw [Z1l,if_pos hn,if_neg ht,if_pos hg]
 refine QO ?_;refine WR ?_;refine .mk ⟨_,by rw [he],λX hX=>?_,hr.2⟩;rw [he,if_neg (by decide)];exact Zg _ _;have he:Z1l x=0:=by rw [Z1l,if_pos hn,if_neg ht,if_neg hg]
 refine QO ?_;refine WR ?_;refine .mk ⟨_,by rw [he],λX hX=>?_,hr.2⟩;rw [he,if_pos rfl];exact hr.slv hX
end Go.Proofs.YteibicnbkggiiaaGreatDoor
namespace Go.Eng
open Go Go.RowKit Go.Proofs
theorem Z5.slvG {α:Type} [Z3 α] {w w':World} {X:List Nat} {T len:Nat} {cs:List Value} {v:Value} {ys:List α} {css:List (List Value)} (h:Z5 w T len cs v w') (hX:∀ b∈X,b<w.heap.size) (hl:len=ys.length) (bD:css.length=ys.length)
 (hc:cs=css.flatten) (hr:∀ i (hi:i<ys.length) (bh:i<css.length),Z3.rep X w ys[i] css[i]) (hm:ys.length<=maxLen):SlV X w' v ys:=by
 obtain ⟨b,rfl,hb,ab,hS⟩:=h;subst hl;subst hc;have hk:∀ c∈css,c.length=Z3.k α:=by
  intro c hc;obtain ⟨i,hi,rfl⟩:=Xv hc;exact Z3.len (hr i (by omega) hi)
 refine ⟨some ⟨b,0,none⟩,ys.length,rfl,Xq _,hm,λh=>by simp at h,λi hi=>⟨b,0,css[i]'(by omega),rfl,ab.lt,λhx=>by have:=hX b hx;omega,Z3.ext (hr i hi (by omega)) hS (by simp) (λb hb=>.inl hb),λj u hu=>?_⟩⟩;refine ab.cell ?_;have:=Z04 css hk i (by omega) j u hu;rw [XL];exact this
theorem SlV.wk {α:Type} [Z3 α] {X X':List Nat} {w} {v:Value} {l:List α} (h:SlV X w v l) (hs:∀ b∈X',b∈X):SlV X' w v l:=h.ext (Stp.refl [] w) (by simp) (λb hb=>.inl (hs b hb))
end Go.Eng
namespace Go.Proofs.YteibicnbkggiiaaGreatDoor
open Go Go.Eng Go.RowKit
theorem Z0v (x:Nd):Zx x<=ZH x:=by
 induction x using Nd.ind with
 | h k n s l ih=>
 rw [JG,JX];show 1+(l.map Zx).foldl max 0<=1+(l.map ZH).sum;have:∀ (l:List Nd) (a:Nat),(∀ x∈l,Zx x<=ZH x)->(l.map Zx).foldl max a<=a+(l.map ZH).sum:=by
  intro l
  induction l with
  | nil=>intro a _;simp
  | cons y r ihr=>
    intro a h;simp only [Xz,Ya7,List.sum_cons];have h1:=ihr (max a (Zx y)) (λx hx=>h x (by simp [hx]));have h2:=h y (by simp);omega
 have:=this l 0 ih;omega
theorem Zdn (k n:Int) (s:Str) (p:Option Addr) (l c:Nat) (w):(Instr.buildSlice 80 1 #[(0,.agg #[.I k,.I n,str s,.slice p l c])]).run Tryz.prog w=.ok (.slice (some ⟨w.heap.size,0,none⟩) 1 1) (w.alloc (.cells #[.I k,.I n,str s,.slice p l c] 82)):=by kernel_rfl
theorem ZY (z:Int) (m:Int) (w) (hm:0<m) (hz:I64 z):CC 12 #[.I z,.I m] w λr w'=>r=.I ((if z<0 then -(z+1) else z) % m)/\Stp [] w w':=by
 unfold I64 at hz;refine cW2 13 Tryz.func12 ?_;by_cases h:z<0;refine RT ?_;exact ⟨by rw [if_pos h],Stp.refl _ _⟩;refine RT ?_;exact ⟨by rw [if_neg h],Stp.refl _ _⟩
theorem ZT (z m:Int) (hm:0<m):0<=z % m/\z % m<m:=⟨YaW _ (by omega),YaJ _ hm⟩
theorem ZB (X:List Nat) (v:Value) (l:List Int) (i m:Int) (w) (hm:0<m) (hi:I64 i) (hs:SlV X w v l) (hl:∀ a∈l,I64 a):CC 20 #[v,.I i,.I m] w λr w'=>∃ q:Nat,r=.I (q:Int)/\(q:Int)<m/\Stp [] w w':=by
 unfold I64 at hi;have aW:=hs.max;refine cW3 21 Tryz.func20 ?_;refine W ?_;by_cases gT:0<=i/\i<l.length;obtain ⟨h0,h1⟩:=gT;obtain ⟨k,rfl⟩:∃ k:Nat,i=(k:Int):=⟨i.toNat,by omega⟩
 have hk:k<l.length:=by omega
 refine QO ?_;refine CL (ZY _ m _ hm (hl _ (Xb hk))) ?_;rintro _ w2 ⟨rfl,hS⟩;refine W ?_;refine WR ?_;have:=ZT (if l[k]<0 then -(l[k]+1) else l[k]) m hm;exact .mk ⟨_,by rw [XS this.1],by rw [XS this.1];exact this.2,hS⟩
 . repeat'(first|refine W1 ?_|omega|refine VG ?_ ?_<;>intro hg|refine VC ?_ ?_<;>intro hc)
   all_goals first
    | (refine RU ?_
       exact ⟨0,rfl,by simpa using hm,Stp.refl _ _⟩)
theorem Zb3 (k:Int) (s:Str) (p:Option Addr) (l c:Nat) (w):(Instr.build 82 #[(0,.I k),(2,str s),(3,.slice p l c)]).run Tryz.prog w=.ok (.agg #[.I k,.I 0,str s,.slice p l c]) w:=by kernel_rfl
def szD:Nat->Nat
 | 0=>0
 | d+1=>1+3 * szD d
theorem Z93 {d:Nat} (h:1<=d):szD d=1+3 * szD (d - 1):=by
 cases d with
 | zero=>omega
 | succ d=>rfl
theorem Znm {X:List Nat} {w} {y0:Nd} {k0:Value} (s0:SlV X w k0 y0.kids):∀ i (hi:i < [y0].length) (bh:i < [ndC y0 k0].length),Z3.rep X w [y0][i] [ndC y0 k0][i]
 | 0,_,_=>(show Z2C X w y0 (ndC y0 k0) by rw [y0.eta];exact Z1h s0)
theorem Znn {X:List Nat} {w} {y0 y1:Nd} {k0 k1:Value} (s0:SlV X w k0 y0.kids) (s1:SlV X w k1 y1.kids):∀ i (hi:i < [y0,y1].length) (bh:i < [ndC y0 k0,ndC y1 k1].length),Z3.rep X w [y0,y1][i] [ndC y0 k0,ndC y1 k1][i]
 | 0,_,_=>(show Z2C X w y0 (ndC y0 k0) by rw [y0.eta];exact Z1h s0)
 | 1,_,_=>(show Z2C X w y1 (ndC y1 k1) by rw [y1.eta];exact Z1h s1)
theorem Zno {X:List Nat} {w} {y0 y1 y2:Nd} {k0 k1 k2:Value} (s0:SlV X w k0 y0.kids) (s1:SlV X w k1 y1.kids) (s2:SlV X w k2 y2.kids):∀ i (hi:i < [y0,y1,y2].length) (bh:i < [ndC y0 k0,ndC y1 k1,ndC y2 k2].length),Z3.rep X w [y0,y1,y2][i] [ndC y0 k0,ndC y1 k1,ndC y2 k2][i]
 | 0,_,_=>(show Z2C X w y0 (ndC y0 k0) by rw [y0.eta];exact Z1h s0)
 | 1,_,_=>(show Z2C X w y1 (ndC y1 k1) by rw [y1.eta];exact Z1h s1)
 | 2,_,_=>(show Z2C X w y2 (ndC y2 k2) by rw [y2.eta];exact Z1h s2)
theorem Z23 (k n:Int) (w):(Instr.build 82 #[(0,.I k),(1,.I n)]).run Tryz.prog w=.ok (.agg #[.I k,.I n,str [],.N]) w:=by kernel_rfl
theorem Zdo (k n:Int) (s:Str) (p:Option Addr) (l c:Nat) (k' n':Int) (s':Str) (p':Option Addr) (l' c':Nat) (w):(Instr.buildSlice 80 2 #[(0,.agg #[.I k,.I n,str s,.slice p l c]),(1,.agg #[.I k',.I n',str s',.slice p' l' c'])]).run Tryz.prog w=.ok (.slice (some ⟨w.heap.size,0,none⟩) 2 2) (w.alloc (.cells #[.I k,.I n,str s,.slice p l c,.I k',.I n',str s',.slice p' l' c'] 82)):=by kernel_rfl
theorem Zdp (k n:Int) (s:Str) (p:Option Addr) (l c:Nat) (k' n':Int) (s':Str) (p':Option Addr) (l' c':Nat) (k'' n'':Int) (s'':Str) (p'':Option Addr) (l'' c'':Nat) (w):(Instr.buildSlice 80 3 #[(0,.agg #[.I k,.I n,str s,.slice p l c]),(1,.agg #[.I k',.I n',str s',.slice p' l' c']),(2,.agg #[.I k'',.I n'',str s'',.slice p'' l'' c''])]).run Tryz.prog w=.ok (.slice (some ⟨w.heap.size,0,none⟩) 3 3) (w.alloc (.cells #[.I k,.I n,str s,.slice p l c,.I k',.I n',str s',.slice p' l' c',.I k'',.I n'',str s'',.slice p'' l'' c''] 82)):=by kernel_rfl
theorem Znp (k n:Int) (s:Str) (y0:Nd):ZH (.mk k n s [y0])=1+ZH y0:=by rw [JX];simp [Nd.kids]
theorem Znq (k n:Int) (s:Str) (y0 y1:Nd):ZH (.mk k n s [y0,y1])=1+ZH y0+ZH y1:=by rw [JX];simp [Nd.kids];omega
theorem Znr (k n:Int) (s:Str) (y0 y1 y2:Nd):ZH (.mk k n s [y0,y1,y2])=1+ZH y0+ZH y1+ZH y2:=by rw [JX];simp [Nd.kids];omega
theorem Zns (k n:Int) (s:Str):ZH (.mk k n s [])=1:=by rw [JX];simp [Nd.kids]
def Zdq:List Str:=[[101,120,116,114,97],[98,121],[116,111],[99,111,117,114,116],[97,109,111,117,110,116]]
def Z7A:List Str:=[[100,97,121],[115,101,114,118,101,100]]
inductive Gn:Int->Nat->Nd->Prop
 | num (d:Nat) (n:Int) (h:0<=n/\n<25):Gn 1 d (.mk 1 n [] [])
 | fldN (d:Nat) (s:Str) (h:s∈Zdq):Gn 1 d (.mk 4 0 s [])
 | fldD (d:Nat) (s:Str) (h:s∈Z7A):Gn 3 d (.mk 4 0 s [])
 | day (d:Nat) (n:Int) (h:739616<=n/\n<739676):Gn 3 d (.mk 3 n [] [])
 | bool (d:Nat) (n:Int) (h:n=0\/n=1):Gn 2 d (.mk 2 n [] [])
 | neg (d:Nat) (a:Nd):Gn 1 d a->Gn 1 (d+1) (.mk 5 0 [45] [a])
 | not (d:Nat) (a:Nd):Gn 2 d a->Gn 2 (d+1) (.mk 5 0 [110,111,116] [a])
 | btw (d:Nat) (a b:Nd):Gn 3 d a->Gn 3 d b->Gn 1 (d+1) (.mk 10 0 [98,101,116,119,101,101,110] [a,b])
 | cond (d:Nat) (t:Int) (c a b:Nd) (h:t=1\/t=3):Gn 2 d c->Gn t d a->Gn t d b->Gn t (d+1) (.mk 9 0 [] [c,a,b])
 | arith (d:Nat) (s:Str) (a b:Nd) (h:s∈JK):Gn 1 d a->Gn 1 d b->Gn 1 (d+1) (.mk 6 0 s [a,b])
 | adj (d:Nat) (s:Str) (a:Nd) (h:s∈Z17):Gn 3 d a->Gn 3 (d+1) (.mk 10 0 s [a])
 | two (d:Nat) (s:Str) (a b:Nd) (h:s∈Z18):Gn 3 d a->Gn 3 d b->Gn 3 (d+1) (.mk 10 0 s [a,b])
 | move (d:Nat) (k:Int) (s:Str) (a b:Nd) (hk:k=7\/k=8) (h:s∈ZE):Gn 3 d a->Gn 1 d b->Gn 3 (d+1) (.mk k 0 s [a,b])
 | logic (d:Nat) (s:Str) (a b:Nd) (h:s∈JF):Gn 2 d a->Gn 2 d b->Gn 2 (d+1) (.mk 6 0 s [a,b])
 | cmp (d:Nat) (t:Int) (s:Str) (a b:Nd) (ht:t=1\/t=3) (h:s∈Z0Q):Gn t d a->Gn t d b->Gn 2 (d+1) (.mk 6 0 s [a,b])
theorem Z0d (d:Nat):1<=szD (d+1):=by show 1<=1+3 * szD d;omega
theorem Gn.size {t:Int} {d:Nat} {x:Nd} (h:Gn t d x):ZH x<=szD (d+1):=by
 induction h with
 | num d|fldN d|fldD d|day d|bool d=>rw [Zns];exact Z0d d
 | neg d|not d|adj d=>rw [Znp,Z93 (by omega)];simp only [YaN];omega
 | btw d|arith d|two d|move d|logic d|cmp d=>rw [Znq,Z93 (by omega)];simp only [YaN];omega
 | cond d=>rw [Znr,Z93 (by omega)];simp only [YaN];omega
end Go.Proofs.YteibicnbkggiiaaGreatDoor
namespace Go.Eng
open Go Go.RowKit Go.Proofs
structure WT (P:Program) (n:Nat) (ops:Array Oper) (S:List Nat) (Lt:List Nat) (Q:Exit->Act->World->Prop) (listed:Array Bool) (fuel:Nat) (e:Env) (w:World):Prop where
 h:∀ a,Has n e a->Z8E P .any ops S (λj=>Lt.contains j) (λa w=>Q .normal a w) fuel listed a w
structure WT1 (P:Program) (n:Nat) (ops:Array Oper) (S:List Nat) (Lt:List Nat) (Q:Exit->Act->World->Prop) (i:Nat) (listed:Array Bool) (fuel:Nat) (e:Env) (w:World):Prop where
 h:∀ a,Has n e a->wpOp P ops (λ_ _ _=>False) i (λa' w'=>(Stp S w w'\/Lt.contains i=true)/\Z8E P .any ops S (λj=>Lt.contains j) (λa w=>Q .normal a w) fuel (listed.setIfInBounds i true) a' w') a w
section rules
variable {P:Program} {n:Nat} {Q:Exit->Act->World->Prop} {e:Env} {w:World} {ops:Array Oper} {S:List Nat} {Lt:List Nat} {listed:Array Bool} {fuel:Nat}
theorem Z2s {id:Nat} {l:List Oper} (m:Nat) (S:List Nat) (Lt:List Nat) (cf:l.length=m) (hm:P.follows .mixedOrders=true)
 (h:∀ w',Stp [] w w'->WT P n l.toArray S Lt Q (Array.replicate m false) m e w'):WC P n (.region id l.toArray true) Q e w:=by
 subst cf;refine ⟨λa ha=>wp_region_any hm ?_⟩;have h1:=(h { w with drawn:=w.drawn+1 } (Stp.drew [] w)).h a ha;have h2:=Z05 (Q:=Q) (λa w hz=>hz) _ _ _ _ h1;simpa using h2
theorem Z2E (ord:List (Nat×Nat)) (hs:Region.noSelect ops=true) (hB:Jp ops Lt ord listed=true) (hl:Nat.beq (wt ord) fuel=true) (h:WD P n ops S Lt Q ord e w):WT P n ops S Lt Q listed fuel e w:=by
 have:=Xk hl;subst this;exact ⟨λa ha=>h.h _ hs hB a ha⟩
theorem Z0n (i q:Nat) (hr:(Region.ready .any ops listed == [i,q])=true) (h1:WT1 P n ops S Lt Q i listed fuel e w) (h2:WT1 P n ops S Lt Q q listed fuel e w):WT P n ops S Lt Q listed (fuel+1) e w:=by
 have hr:=beq_iff_eq.1 hr;refine ⟨λa ha=>⟨λh0=>absurd (hr ▸ h0) (by simp),λj hj=>?_⟩⟩;rw [hr] at hj;have dM:j=i\/j=q:=by simpa using hj
 rcases dM with rfl|rfl
 exact h1.h a ha;exact h2.h a ha
variable {i d:Nat} {op:Op} {ty:TypeId} {pos:String} {af:Array Edge} {gd:Option (Nat×Bool)} {v:Value}
theorem Zkj {o:Oper} {dst:Option Nat} {G:Value->World->Prop} (hi:ops[i]?=some o) (dD:o.dst=dst) (hg:JS ops e o.guard) (hp:OE P n o e w (λv w'=>(Stp S w w'\/Lt.contains i=true)/\G v w'))
 (k:∀ v w' a',G v w'->∀ a,Has n e a->a'=a.put dst v->∃ e',Has n e' a'/\WT P n ops S Lt Q (listed.setIfInBounds i true) fuel e' w'):WT1 P n ops S Lt Q i listed fuel e w:=by
 refine ⟨λa ha=>?_⟩;unfold wpOp;simp only [hi];rw [if_pos (JO ha hg)];refine .inl (Oper.wp_mono ?_ (hp.h a ha _));rintro a' w' ⟨v,rfl,bS,hG⟩;obtain ⟨e',ft,hk⟩:=k v w' (a.put o.dst v) hG a ha (by rw [dD]);exact ⟨bS,hk.h _ ft⟩
theorem ZJ {G:Value->World->Prop} (hi:ops[i]?=some ⟨some d,op,ty,pos,af,gd⟩) (hg:JS ops e gd) (hp:OE P n ⟨some d,op,ty,pos,af,gd⟩ e w G) (hG:∀ v w',G v w'->Stp S w w') (aw:Nat.blt d n=true)
 (k:∀ v w',G v w'->WT P n ops S Lt Q (listed.setIfInBounds i true) fuel ((d,v) :: e) w'):WT1 P n ops S Lt Q i listed fuel e w:=
 Zkj (G:=G) hi rfl hg (hp.mono λv w' h=>⟨.inl (hG v w' h),h⟩) (λv w' a' h a ha e=>⟨_,by rw [e];exact ha.put aw,k v w' h⟩)
theorem Zdr (i:Nat) {o:Oper} (hi:ops[i]?=some o) (hd:o.dst=some d) (hY:∀ a,Has n e a->YE P ops (λ_ _=>True) o v a w) (aw:Nat.blt d n=true) (hs:Region.noSelect ops=true)
 (hB:((Region.ready .any ops listed).contains i && Region.free .any ops listed i)=true)
 (k:WT P n ops S Lt Q (listed.setIfInBounds i true) fuel ((d,v) :: e) w):WT P n ops S Lt Q listed (fuel+1) e w:=by
 refine ⟨λa ha=>?_⟩;simp only [Xa] at hB;have hk:=k.h _ (ha.put (v:=v) aw);rw [<- hd] at hk;exact Z32 (R:=λ_ _=>True) (λ_=>trivial) (λ_ _ _ _ _=>trivial) hi (λ_ _ _ _ _ _ _ _=>trivial) (Region.noSelect_spec hs) _ _ _ _ (Region.free_spec hi hB.2) (λ_=>trivial) (by simpa using hB.1) (hY a ha) hk
theorem Zds (i:Nat) {o:Oper} (hi:ops[i]?=some o) (hd:o.dst=some d) (hY:∀ a,Has n e a->YE P ops (Stp S) o v a w) (aw:Nat.blt d n=true) (hs:Region.noSelect ops=true)
 (hB:((Region.ready .any ops listed).contains i && Region.free .any ops listed i && Zad ops Lt i)=true)
 (k:WT P n ops S Lt Q (listed.setIfInBounds i true) fuel ((d,v) :: e) w):WT P n ops S Lt Q listed (fuel+1) e w:=by
 refine ⟨λa ha=>?_⟩;simp only [Xa] at hB;obtain ⟨⟨h1,h2⟩,hb⟩:=hB;have hk:=k.h _ (ha.put (v:=v) aw);rw [<- hd] at hk;refine Z32 (R:=Stp S) (λw=>Stp.refl _ w) (λ_ _ _ h k=>h.trans k) hi (λj oj hj hn dC w w' hs=>?_) (Region.noSelect_spec hs) _ _ _ _ (Region.free_spec hi h2) (λ_=>trivial) (by simpa using h1) (hY a ha) hk;rcases hs with hs|hs
 exact hs;rw [Z4D hb hj hn dC] at hs;cases hs
theorem Jl (i:Nat) (hi:ops[i]?=some ⟨some d,op,ty,pos,af,gd⟩) (hg:JS ops e gd) (hp:∀ w',PR P n ⟨some d,op,ty,pos,af,gd⟩ e w' v) (aw:Nat.blt d n=true) (hs:Region.noSelect ops=true)
 (hB:((Region.ready .any ops listed).contains i && Region.free .any ops listed i)=true)
 (k:WT P n ops S Lt Q (listed.setIfInBounds i true) fuel ((d,v) :: e) w):WT P n ops S Lt Q listed (fuel+1) e w:=
 Zdr i hi rfl (λa ha=>.inl ⟨JO ha hg,λw' _=>(hp w').h a ha⟩) aw hs hB k
theorem Z6D (i:Nat) (hi:ops[i]?=some ⟨some d,op,ty,pos,af,gd⟩) (hg:JS ops e gd) (hp:∀ w',Stp S w w'->PR P n ⟨some d,op,ty,pos,af,gd⟩ e w' v) (aw:Nat.blt d n=true) (hs:Region.noSelect ops=true)
 (hB:((Region.ready .any ops listed).contains i && Region.free .any ops listed i && Zad ops Lt i)=true)
 (k:WT P n ops S Lt Q (listed.setIfInBounds i true) fuel ((d,v) :: e) w):WT P n ops S Lt Q listed (fuel+1) e w:=
 Zds i hi rfl (λa ha=>.inl ⟨JO ha hg,λw' hw=>(hp w' hw).h a ha⟩) aw hs hB k
end rules
end Go.Eng
namespace Go.Proofs.YteibicnbkggiiaaGreatDoor
open Go Go.Eng Go.RowKit
theorem bS1 (a:Str) (w):(Instr.buildSlice 168 1 #[(0,str a)]).run Tryz.prog w=.ok (.slice (some ⟨w.heap.size,0,none⟩) 1 1) (w.alloc (.cells #[str a] 9)):=by kernel_rfl
theorem bS2 (a b:Str) (w):(Instr.buildSlice 168 2 #[(0,str a),(1,str b)]).run Tryz.prog w=.ok (.slice (some ⟨w.heap.size,0,none⟩) 2 2) (w.alloc (.cells #[str a,str b] 9)):=by kernel_rfl
theorem bS3 (a b c:Str) (w):(Instr.buildSlice 168 3 #[(0,str a),(1,str b),(2,str c)]).run Tryz.prog w=.ok (.slice (some ⟨w.heap.size,0,none⟩) 3 3) (w.alloc (.cells #[str a,str b,str c] 9)):=by kernel_rfl
theorem bS5 (a b c d e:Str) (w):(Instr.buildSlice 168 5 #[(0,str a),(1,str b),(2,str c),(3,str d),(4,str e)]).run Tryz.prog w=.ok (.slice (some ⟨w.heap.size,0,none⟩) 5 5) (w.alloc (.cells #[str a,str b,str c,str d,str e] 9)):=by kernel_rfl
theorem bS6 (a b c d e f:Str) (w):(Instr.buildSlice 168 6 #[(0,str a),(1,str b),(2,str c),(3,str d),(4,str e),(5,str f)]).run Tryz.prog w=.ok (.slice (some ⟨w.heap.size,0,none⟩) 6 6) (w.alloc (.cells #[str a,str b,str c,str d,str e,str f] 9)):=by kernel_rfl
abbrev Mk3 (w:World) (bm:Nat) (lv:Value) (i:Nat):Prop:=Blk w bm 131 [lv,.I (i:Int)]
theorem Jw (bm:Nat) (lv:Value) (l:List Int) (i:Nat) (n:Int) (w) (hn:0<n) (hi:i<=1000000) (hb:Mk3 w bm lv i) (hs:SlV [bm] w lv l) (hl:∀ a∈l,I64 a) :
 CC 61 #[pQ bm,.I n] w λr w'=>∃ q:Nat,r=.I (q:Int)/\(q:Int)<n/\Mk3 w' bm lv (i+1)/\Stp [bm] w w':=by
 refine cW2 23 Tryz.func61 ?_;refine W ?_;refine S1 (u:=.I ((i:Int)+1)) hb ?_;rintro _ w1 ⟨jj,dO⟩;replace dO:Mk3 w1 bm lv (i+1):=dO;replace hs:=hs.ext jj (λ_ h=>h) (λ_ h=>.inl h);replace hs:SlV [] w1 lv l:=hs.wk (by simp);refine W ?_;refine ZDr 12 [] [] [(0,0),(1,0),(2,0),(3,1),(4,0),(5,0),(6,0),(7,1),(8,0),(9,0),(10,2),(11,0)] (λw1 ae=>?_);replace dO:=dO.up ae;replace hs:=hs.up ae;refine D ?_;refine Z7 rfl trivial (Z4 rfl (ZQ rfl rfl rfl) (ZB [] _ l _ n _ hn (by unfold I64;omega) hs hl)) (λ_ _ h=>h.choose_spec.2.2) rfl ?_;rintro _ w3 ⟨q,rfl,hq,aq⟩;replace dO:=dO.up aq;refine D ?_;refine RT ?_;exact ⟨q,rfl,hq,dO,(jj.trans ae.mn).trans aq.mn⟩
theorem Z3E (bm:Nat) (lv:Value) (l:List Int) (i:Nat) (d:Nat) (z:Int) (w) (hz:z=(d:Int)) (hb:Mk3 w bm lv i) (hs:SlV [bm] w lv l) :
 CC 141 #[pQ bm,.I z] w λr w'=>∃ b:Bool,r=.B b/\(d=0->b=true)/\Stp [] w w':=by
 subst hz;refine cW2 19 Tryz.func141 ?_;refine W ?_;by_cases h0:d=0;refine ZDr 15 [] [] [(0,0),(1,0),(2,0),(3,0),(4,0),(5,0),(6,1),(7,0),(8,0),(9,0),(10,1),(11,0),(12,0),(13,0),(14,0)] (λw1 ae=>?_);refine D ?_;have e0:((d:Int)<=0):=by omega
 simp only [e0,decide_true];refine D ?_;refine RT ?_;exact ⟨true,rfl,λ_=>rfl,ae⟩;refine ZDr 15 [] [] [(0,0),(1,0),(2,0),(3,0),(4,0),(5,0),(6,1),(7,0),(8,0),(9,0),(10,1),(11,0),(12,0),(13,0),(14,0)] (λw1 ae=>?_);replace hb:=hb.up ae;replace hs:=hs.up ae;refine D ?_;have e0:¬ ((d:Int)<=0):=by omega
 simp only [e0,decide_false];refine D ?_;refine RT ?_;exact ⟨_,rfl,λh=>absurd h h0,ae⟩
theorem Z94 (X:List Nat) (k:Int) (s:Str) (kv:Value) (kids:List Nd) (w:World) (hX:∀ b∈X,b<w.heap.size) (hs:SlV X w kv kids):CC 142 #[.I k,str s,kv] w λr w'=>NdV X w' r (.mk k 0 s kids)/\Stp [] w w':=by
 obtain ⟨p,c,rfl,-⟩:=id hs;refine cW3 11 Tryz.func142 ?_;refine W ?_;refine Z1 Z9 rfl ?_;rintro _ w1 ⟨b,rfl,hb,ab,hS⟩;refine W ?_;apply Za (vs:=[(0,.I k),(2,str s),(3,.slice p kids.length c)]) rfl (Zb3 _ _ _ _ _) rfl;refine SB (us:=ndC (.mk k 0 s kids) (.slice p kids.length c)) (J6 hs) ab ?_;rintro _ w2 ⟨ak,aY⟩;have hT:=hS.ow ak;refine W ?_;refine ZP rfl rfl rfl aY rfl ?_;exact .mk ⟨⟨_,rfl,hs.up hT⟩,hT⟩
def Znt (k:Int):List Str:=if k=1 then [[111,114]] else if k=2 then [[97,110,100]] else if k=4 then Z0Q else if k=5 then [[43],[45]] else [[42]]
theorem Z4g (X:List Nat) (k:Int) (w:World) (hX:∀ b∈X,b<w.heap.size):CC 205 #[.I k] w λr w'=>SlV X w' r (Znt k)/\Stp [] w w':=by
 refine cW1 17 Tryz.func205 ?_;have key:∀ (n:Nat) (vs:List Value) (v:Value) (w':World) (ys:List Str),Z5 w n ys.length vs v w'->vs=ys.flatMap Z8.enc->ys.length<=maxLen->SlV X w' v ys:=λn vs v w' ys h e hm=>Z5.slv h hX rfl e hm;by_cases h1:k=1;subst h1;refine QO ?_;refine Z1 (Z0 (vs:=[(0,str [111,114])]) rfl (bS1 _)) rfl ?_;rintro v w1 hN;have hv:SlV X w1 v ([[111,114]]:List Str):=hN.slv hX rfl rfl (by decide);have hT:=Z5.stp hN;refine RT ?_;exact ⟨hv,hT⟩;by_cases h2:k=2;subst h2;refine QO ?_;refine Z1 (Z0 (vs:=[(0,str [97,110,100])]) rfl (bS1 _)) rfl ?_;rintro v w1 hN;have hv:SlV X w1 v ([[97,110,100]]:List Str):=hN.slv hX rfl rfl (by decide);have hT:=Z5.stp hN;refine RT ?_;exact ⟨hv,hT⟩;by_cases h4:k=4;subst h4;refine QO ?_;refine Z1 (Z0 (vs:=[(0,str [60]),(1,str [60,61]),(2,str [61]),(3,str [33,61]),(4,str [62]),(5,str [62,61])]) rfl (bS6 _ _ _ _ _ _)) rfl ?_;rintro v w1 hN;have hv:SlV X w1 v Z0Q:=hN.slv hX rfl rfl (by decide);have hT:=Z5.stp hN;refine RT ?_;exact ⟨hv,hT⟩;by_cases h5:k=5;subst h5;refine QO ?_;refine Z1 (Z0 (vs:=[(0,str [43]),(1,str [45])]) rfl (bS2 _ _)) rfl ?_;rintro v w1 hN;have hv:SlV X w1 v ([[43],[45]]:List Str):=hN.slv hX rfl rfl (by decide);have hT:=Z5.stp hN;refine RT ?_;exact ⟨hv,hT⟩;refine QO ?_;refine Z1 (Z0 (vs:=[(0,str [42])]) rfl (bS1 _)) rfl ?_;rintro v w1 hN;have hv:SlV X w1 v ([[42]]:List Str):=hN.slv hX rfl rfl (by decide);have hT:=Z5.stp hN;refine RT ?_;exact ⟨by unfold Znt;rw [if_neg h1,if_neg h2,if_neg h4,if_neg h5];exact hv,hT⟩
theorem Z35 (q:Nat) (w) (hq:q<6):CC 143 #[.I (q:Int)] w λr w'=>(∃ s∈Z0Q,r=str s)/\Stp [] w w':=by
 refine cW1 7 Tryz.func143 ?_;refine W ?_;refine CM (ZN rfl) (Z4g [] 4 _ (by simp)) ?_;rintro v w1 ⟨hv,hS⟩;replace hv:SlV [] w1 v Z0Q:=hv;have bH:q<Z0Q.length:=by show q<6;exact hq
 refine RT ?_;exact ⟨⟨_,Xb bH,rfl⟩,hS⟩
structure G3 (X:List Nat) (w0 w:World) (bm b4:Nat) (lv:Value) (l:List Int) (i:Nat):Prop where
 mkr:Mk3 w bm lv i
 sl:SlV [bm] w lv l
 stp:Stp [bm] w0 w
 blk:∃ cs:List Value,cs.length=4/\Blk w b4 82 cs
 ne:b4≠bm
 hX:∀ b∈X,b<w.heap.size
theorem G3.nxt {X:List Nat} {w0 w w':World} {bm b4:Nat} {lv:Value} {l:List Int} {i i':Nat} (h:G3 X w0 w bm b4 lv l i) (hm:Mk3 w' bm lv i') (hS:Stp [bm] w w'):G3 X w0 w' bm b4 lv l i':=
 ⟨hm,h.sl.ext hS (λ_ h=>h) (λ_ h=>.inl h),h.stp.trans hS,h.blk.imp (λcs hc=>⟨hc.1,hc.2.ext hS (by simpa using h.ne)⟩),h.ne,λb hb=>Xc (h.hX b hb) hS.size⟩
theorem G3.up {X:List Nat} {w0 w w':World} {bm b4:Nat} {lv:Value} {l:List Int} {i:Nat} (h:G3 X w0 w bm b4 lv l i) (hS:Stp [] w w'):G3 X w0 w' bm b4 lv l i:=
 h.nxt (h.mkr.up hS) hS.mn
theorem G3.fin {X:List Nat} {w0 w1 w w':World} {bm b4:Nat} {lv:Value} {l:List Int} {i:Nat} {y:Nd} {ky:Value} (h:G3 (b4 :: bm :: X) w1 w bm b4 lv l i) (hw:Stp [] w0 w1) (hb:w0.heap.size<=b4) (hy:SlV (b4 :: bm :: X) w ky y.kids) (hS:Stp [b4] w w') :
 NdV X w' (.agg (ndC y ky).toArray) y/\Mk3 w' bm lv i/\Stp [bm] w0 w':=
 ⟨⟨ky,rfl,(hy.ext (X':=b4 :: bm :: X) hS (by simp) (λ_ h=>.inl h)).wk (λc hc=>by simp [hc])⟩,h.mkr.ext hS (by simpa using h.ne.symm),(hw.mn.trans h.stp).ow hS⟩
def Z0R (f:Nat) (t:Int) (d:Nat):Prop:=∀ (X:List Nat) (w:World) (bm:Nat) (lv:Value) (l:List Int) (i:Nat) (z:Int),z=(d:Int)->Mk3 w bm lv i->SlV [bm] w lv l->(∀ a∈l,I64 a)->i+3 * szD (d+1)<=100000->(∀ b∈X,b<w.heap.size)->
 CC f #[pQ bm,.I z] w λr w'=>∃ y i',NdV X w' r y/\Gn t d y/\Mk3 w' bm lv i'/\i'<=i+3 * szD (d+1)/\Stp [bm] w w'
theorem Ja {w w1 w2:World} {b:Nat} (h:Stp [] w w1) (hb:w.heap.size<=b) (h2:Stp [b] w1 w2):Stp [] w w2:=h.ow h2
structure FnP (X:List Nat) (w0 w1 w:World) (bm b4:Nat) (lv:Value) (l:List Int) (i j:Nat) (y:Nd) (ky:Value) (g:Prop):Prop where
 gm:G3 (b4 :: bm :: X) w1 w bm b4 lv l i
 s0:Stp [] w0 w1
 b0:w0.heap.size<=b4
 hy:SlV (b4 :: bm :: X) w ky y.kids
 gn:g
 le:i<=j
 h1:∀ c∈ndC y ky,c.oneCell'=true
section
variable {P:Program} {n:Nat} {e:Env} {w:World} {d:Option Nat} {ty:TypeId} {pos:String} {af:Array Edge} {gd:Option (Nat×Bool)}
theorem stN {b T m t:Nat} {cs us:List Value} {x y:Operand} {u:Value} [br:Siz P t m] (h1:∀ c∈us,c.oneCell'=true) (hb:Blk w b T cs) (hl:us.length=cs.length) (hx:ev e x=some (pQ b)) (hy:ev e y=some u) (hu:u.cells.toList=us) (hm:us.length=m):OE P n ⟨d,.store t x y,ty,pos,af,gd⟩ e w (λ_ w'=>Stp [b] w w'/\Blk w' b T us):=J1 hx hy hu hm h1 hb hl
theorem FN {G:Prop} {X:List Nat} {w0 w1 w:World} {bm b4:Nat} {lv:Value} {l:List Int} {i:Nat} {ky:Value} {t:Int} (j d:Nat) (y:Nd) (gm:G3 (b4 :: bm :: X) w1 w bm b4 lv l i) (s0:Stp [] w0 w1) (b0:w0.heap.size<=b4) (hy:SlV (b4 :: bm :: X) w ky y.kids) (gn:Gn t d y) (le:i<=j+3 * szD (d+1))
 (h : FnP X w0 w1 w bm b4 lv l i (j + 3 * szD (d + 1)) y ky (Gn t d y) -> G := by
   intro r;obtain ⟨cs,bD,dZ⟩:=r.gm.blk;first
   | refine Z33 rfl trivial (stN r.h1 dZ bD.symm rfl rfl rfl rfl) (λ_ _ h=>h.1.mn) ?_
   | refine Zi (stN r.h1 dZ bD.symm rfl rfl rfl rfl) ?_
   rintro _ wz ⟨hz,o9⟩;first|refine D ?_|skip
   refine W ?_;refine ZP rfl rfl rfl o9 rfl ?_;have hf:=r.gm.fin r.s0 r.b0 r.hy hz;exact .mk ⟨_,_,hf.1,r.gn,hf.2.1,r.le,hf.2.2⟩):G:=h ⟨gm,s0,b0,hy,gn,le,J6 (x:=y) hy⟩
variable {X:List Nat} {w0:World} {bm b4:Nat} {lv:Value} {l:List Int} {i:Nat}
theorem G3.nx (h:G3 (b4 :: bm :: X) w0 w bm b4 lv l i) (n:Int) (hl:∀ a∈l,I64 a) (hn:0<n:=by decide) (hi:i<=1000000:=by omega):CC 61 #[pQ bm,.I n] w λr w'=>Stp [b4,bm] w w'/\Stp [bm] w w'/\∃ q:Nat,r=.I (q:Int)/\(q:Int)<n/\G3 (b4 :: bm :: X) w0 w' bm b4 lv l (i+1):=
 (Jw bm lv l i n w hn hi h.mkr h.sl hl).mono (by
   rintro _ w' ⟨_,rfl,q,rfl,hq,hm,hS⟩;exact .mk ⟨hS.mn,hS,q,rfl,hq,h.nxt hm hS⟩)
theorem G3.kd (h:G3 (b4 :: bm :: X) w0 w bm b4 lv l i) {f e:Nat} {t z:Int} (ih:Z0R f t e) (hl:∀ a∈l,I64 a) (hz:z=(e:Int):=by omega) (hi:i+3 * szD (e+1)<=100000:=by omega):CC f #[pQ bm,.I z] w λr w'=>Stp [b4,bm] w w'/\Stp [bm] w w'/\∃ y i' p c,r=.agg (ndC y (.slice p y.kids.length c)).toArray/\SlV (b4 :: bm :: X) w' (.slice p y.kids.length c) y.kids/\Gn t e y/\i'<=i+3 * szD (e+1)/\G3 (b4 :: bm :: X) w0 w' bm b4 lv l i':=
 (ih (b4 :: bm :: X) w bm lv l i z hz h.mkr h.sl hl hi h.hX).mono (by
   rintro _ w' ⟨_,rfl,y,i',⟨k,rfl,s⟩,g,hm,bh,hS⟩;obtain ⟨p,c,rfl,-⟩:=id s;exact .mk ⟨hS.mn,hS,y,i',p,c,rfl,s,g,bh,h.nxt hm hS⟩)
theorem G3.nd (h:G3 (b4 :: bm :: X) w0 w bm b4 lv l i) (k:Int) (s:Str) {kv:Value} {kids:List Nd} (hs:SlV (b4 :: bm :: X) w kv kids):CC 142 #[.I k,str s,kv] w λr w'=>Stp [b4,bm] w w'/\Stp [] w w'/\∃ ky,r=.agg (ndC (.mk k 0 s kids) ky).toArray/\SlV (b4 :: bm :: X) w' ky kids/\G3 (b4 :: bm :: X) w0 w' bm b4 lv l i:=
 (Z94 (b4 :: bm :: X) k s kv kids w h.hX hs).mono (by
   rintro _ w' ⟨_,rfl,⟨ky,rfl,hy⟩,hT⟩;exact .mk ⟨hT.mn,hT,ky,rfl,hy,h.up hT⟩)
abbrev ndB (y:Nd) (p:Option Addr) (c:Nat):Value:=.agg #[.I y.kind,.I y.num,str y.word,.slice p y.kids.length c]
theorem G3.b1 (h:G3 (b4 :: bm :: X) w0 w bm b4 lv l i) {y0:Nd} {p0:Option Addr} {c0:Nat} (s0:SlV (b4 :: bm :: X) w (.slice p0 y0.kids.length c0) y0.kids) {q:List (Nat×Operand)} (hv:ZX e q=some [(0,ndB y0 p0 c0)]) :
 OE Tryz.prog n ⟨d,.buildSlice 80 1 q.toArray,ty,pos,af,gd⟩ e w (λv w'=>Stp [b4,bm] w w'/\Stp [] w w'/\SlV (b4 :: bm :: X) w' v [y0]/\G3 (b4 :: bm :: X) w0 w' bm b4 lv l i):=
 (Z0 hv (Zdn _ _ _ _ _ _)).mono (λv w' hN=>⟨(Z5.stp hN).mn,Z5.stp hN,hN.slvG (css:=[ndC y0 _]) h.hX rfl rfl rfl (Znm s0) (by simp [maxLen]),h.up (Z5.stp hN)⟩)
theorem G3.b2 (h:G3 (b4 :: bm :: X) w0 w bm b4 lv l i) {y0 y1:Nd} {p0 p1:Option Addr} {c0 c1:Nat} (s0:SlV (b4 :: bm :: X) w (.slice p0 y0.kids.length c0) y0.kids) (s1:SlV (b4 :: bm :: X) w (.slice p1 y1.kids.length c1) y1.kids) {q:List (Nat×Operand)} (hv:ZX e q=some [(0,ndB y0 p0 c0),(1,ndB y1 p1 c1)]) :
 OE Tryz.prog n ⟨d,.buildSlice 80 2 q.toArray,ty,pos,af,gd⟩ e w (λv w'=>Stp [b4,bm] w w'/\Stp [] w w'/\SlV (b4 :: bm :: X) w' v [y0,y1]/\G3 (b4 :: bm :: X) w0 w' bm b4 lv l i):=
 (Z0 hv (Zdo _ _ _ _ _ _ _ _ _ _ _ _)).mono (λv w' hN=>⟨(Z5.stp hN).mn,Z5.stp hN,hN.slvG (css:=[ndC y0 _,ndC y1 _]) h.hX rfl rfl rfl (Znn s0 s1) (by simp [maxLen]),h.up (Z5.stp hN)⟩)
theorem G3.b3 (h:G3 (b4 :: bm :: X) w0 w bm b4 lv l i) {y0 y1 y2:Nd} {p0 p1 p2:Option Addr} {c0 c1 c2:Nat} (s0:SlV (b4 :: bm :: X) w (.slice p0 y0.kids.length c0) y0.kids) (s1:SlV (b4 :: bm :: X) w (.slice p1 y1.kids.length c1) y1.kids) (s2:SlV (b4 :: bm :: X) w (.slice p2 y2.kids.length c2) y2.kids) {q:List (Nat×Operand)} (hv:ZX e q=some [(0,ndB y0 p0 c0),(1,ndB y1 p1 c1),(2,ndB y2 p2 c2)]) :
 OE Tryz.prog n ⟨d,.buildSlice 80 3 q.toArray,ty,pos,af,gd⟩ e w (λv w'=>Stp [b4,bm] w w'/\Stp [] w w'/\SlV (b4 :: bm :: X) w' v [y0,y1,y2]/\G3 (b4 :: bm :: X) w0 w' bm b4 lv l i):=
 (Z0 hv (Zdp _ _ _ _ _ _ _ _ _ _ _ _ _ _ _ _ _ _)).mono (λv w' hN=>⟨(Z5.stp hN).mn,Z5.stp hN,hN.slvG (css:=[ndC y0 _,ndC y1 _,ndC y2 _]) h.hX rfl rfl rfl (Zno s0 s1 s2) (by simp [maxLen]),h.up (Z5.stp hN)⟩)
end
set_option maxHeartbeats 1000000
theorem Z36 (d:Nat) (m9:d<=6) (ih:∀ e,d=e+1->Z0R 144 1 e/\Z0R 97 2 e/\Z0R 98 3 e):Z0R 144 1 d:=by
 intro X w bm lv l i z hz ap au hl hi hX;subst hz;have br:szD (d+1)=1+3 * szD d:=rfl;refine cW2 88 Tryz.func144 ?_;refine W ?_;refine Z1 Z9 rfl ?_;rintro _ w1 ⟨b4,rfl,bA,aV,bq⟩;have gm:G3 (b4 :: bm :: X) w1 w1 bm b4 lv l i:=⟨ap.up bq,au.up bq,Stp.refl _ _,⟨_,rfl,aV⟩,λh=>by have:=ap.lt;omega,λc hc=>by
  simp only [Xg] at hc;have h1:=aV.lt;have h2:=ap.lt;have h3:=bq.size;rcases hc with rfl|rfl|hc
  exact h1;omega;have:=hX c hc;omega⟩
 clear aV hX au ap;refine W ?_;refine Z1 (Z4 rfl (Zj rfl rfl) (gm.nx 9 hl)) rfl ?_;rintro _ wq ⟨-,hS,q,rfl,hq,gm⟩;refine W ?_;refine Z1 (Z4 rfl (Zj rfl rfl) (Z3E bm lv l _ d _ _ rfl gm.mkr gm.sl)) rfl ?_;rintro _ wq ⟨dn,rfl,aw,hT⟩;replace gm:=gm.up hT;clear hT;refine W ?_;refine JI (σ:=Nat) (λk=>[(0,pQ bm),(1,.I (d:Int)),(4,pQ b4),(5,.I (k:Int))]) (λk w'=>w'=wq/\k<9/\(d=0->k<4)) ?_ ?_
 . cases dn with
   | true=>
     refine QO ?_;exact Zc (q % 4) ⟨rfl,rfl,rfl,rfl,trivial⟩ ⟨rfl,by omega,λ_=>by omega⟩
   | false=>
     refine QO ?_;exact Zc q ⟨rfl,rfl,rfl,rfl,trivial⟩ ⟨rfl,by omega,λh=>absurd (aw h) (by decide)⟩
 rintro k w3 ⟨rfl,eh,bj⟩;clear hq aw;by_cases k0:k<=2
 . repeat'(first|refine W1 ?_|omega|refine VG ?_ ?_<;>intro hg|refine VC ?_ ?_<;>intro hc)
   all_goals
    refine Z1 (Z4 rfl (Zj rfl rfl) (gm.nx 25 hl)) rfl ?_;rintro _ wq ⟨-,hS,q',rfl,dE,gm⟩;refine W ?_;apply Za (vs:=[(0,.I 1),(1,.I _)]) rfl (Z23 _ _) rfl;have hy:SlV (α:=Nd) (b4 :: bm :: X) _ (.N) []:=Zg _ wq;exact FN i d (.mk 1 (q':Int) [] []) gm bq bA hy (.num _ _ (by omega)) (by omega)
 by_cases k3:k=3;refine QO ?_;refine Z1 (Z0 (vs:=[(0,str [101,120,116,114,97]),(1,str [98,121]),(2,str [116,111]),(3,str [99,111,117,114,116]),(4,str [97,109,111,117,110,116])]) rfl (bS5 _ _ _ _ _)) rfl ?_;rintro wv wq hN;have aI:SlV [bm] wq wv Zdq:=hN.slv (λc hc=>gm.hX c (by simp at hc;subst hc;simp)) rfl rfl (by decide);have hT:=Z5.stp hN;clear hN;replace gm:=gm.up hT;clear hT;refine W ?_;refine Z1 (Z4 rfl (Zj rfl rfl) (gm.nx 5 hl)) rfl ?_;rintro _ wq ⟨-,hS,q',rfl,dE,gm⟩;replace aI:=aI.ext hS (by simp) (λ_ h=>.inl h);have bH:q'<Zdq.length:=by show q'<5;omega
 refine W ?_;refine Z1 (Z4 rfl (ZQ rfl rfl rfl) (gm.nd 4 Zdq[q'] (Zg _ _))) rfl ?_;rintro _ wq ⟨-,hT,ky,rfl,hy,gm⟩;exact FN i d (.mk 4 0 Zdq[q'] []) gm bq bA hy (.fldN _ _ (Xb bH)) (by omega);by_cases k4:k=4;obtain ⟨e,rfl⟩:∃ e,d=e+1:=⟨d - 1,by omega⟩
 replace ih:=ih e rfl;have cF:=Z0d e;refine QO ?_;refine W ?_;refine Z1 (Z4 rfl (Zj rfl rfl) (gm.kd ih.1 hl)) rfl ?_;rintro _ wq ⟨-,hS,y0,i0,p0,c0,rfl,s0,g0,dy,gm⟩;refine W ?_;refine Z1 (gm.b1 s0 rfl) rfl ?_;rintro bv wq ⟨-,hT,aH,gm⟩;refine W ?_;refine Z1 (Z4 rfl (ZQ rfl rfl rfl) (gm.nd 5 [45] aH)) rfl ?_;rintro _ wq ⟨-,hT,ky,rfl,hy,gm⟩;refine W ?_;exact FN i (e+1) (.mk 5 0 [45] [y0]) gm bq bA hy (.neg _ _ g0) (by omega);by_cases k5:k=5;obtain ⟨e,rfl⟩:∃ e,d=e+1:=⟨d - 1,by omega⟩
 replace ih:=ih e rfl;have cF:=Z0d e;refine QO ?_;refine W ?_;refine Z1 (Z4 rfl (Zj rfl rfl) (gm.kd ih.2.2 hl)) rfl ?_;rintro _ wq ⟨-,hS,y0,i0,p0,c0,rfl,s0,g0,dy,gm⟩;refine Z1 Z9 rfl ?_;rintro _ wq ⟨b0',rfl,aS,e0,hT⟩;refine SB (us:=ndC y0 _) (J6 s0) e0 ?_;rintro _ wq ⟨aQ,e0⟩;replace hT:=Ja hT aS aQ;clear aQ;have n0:b0'≠bm:=λh=>by have:=gm.mkr.lt;omega
 have n0':b0'≠b4:=λh=>by obtain ⟨_,_,hc⟩:=gm.blk;have:=hc.lt;omega
 replace gm:=gm.up hT;replace s0:=s0.up hT;clear hT aS;refine W ?_;refine ZDr 8 ([b4,bm]) [] [(0,1),(1,0),(2,0),(3,0),(4,2),(5,2),(6,2),(7,2)] (λw1 ae=>?_);have hT:=ae;replace gm:=gm.up hT;replace s0:=s0.up hT;replace e0:=e0.up hT;clear hT ae;refine WD_read rfl trivial (λw' aE=>ZK rfl rfl (e0.ext aE (by simp;exact ⟨n0',n0⟩)) rfl) rfl ?_;refine D ?_;refine Z7 rfl trivial (Z4 rfl (Zj rfl rfl) (gm.kd ih.2.2 hl)) (λ_ _ h=>h.1) rfl ?_;rintro _ wq ⟨-,hS,y1,i1,p1,c1,rfl,s1,g1,bX,gm⟩;replace s0:=s0.ext hS (by simp) (λ_ h=>.inl h);replace e0:=e0.ext hS (by simp;exact n0);refine D ?_;refine Z7 rfl trivial (gm.b2 s0 s1 rfl) (λ_ _ h=>h.1) rfl ?_;rintro bv wq ⟨-,hT,aH,gm⟩;refine D ?_;refine Z7 rfl trivial (Z4 rfl (ZQ rfl rfl rfl) (gm.nd 10 [98,101,116,119,101,101,110] aH)) (λ_ _ h=>h.1) rfl ?_;rintro _ wq ⟨-,hT,ky,rfl,hy,gm⟩;refine D ?_;exact FN i (e+1) (.mk 10 0 [98,101,116,119,101,101,110] [y0,y1]) gm bq bA hy (.btw _ _ _ g0 g1) (by omega);by_cases k6:k=6;obtain ⟨e,rfl⟩:∃ e,d=e+1:=⟨d - 1,by omega⟩
 replace ih:=ih e rfl;have cF:=Z0d e;refine QO ?_;refine W ?_;refine Z1 (Z4 rfl (Zj rfl rfl) (gm.kd ih.2.1 hl)) rfl ?_;rintro _ wq ⟨-,hS,y0,i0,p0,c0,rfl,s0,g0,dy,gm⟩;refine Z1 Z9 rfl ?_;rintro _ wq ⟨b0',rfl,aS,e0,hT⟩;refine SB (us:=ndC y0 _) (J6 s0) e0 ?_;rintro _ wq ⟨aQ,e0⟩;replace hT:=Ja hT aS aQ;clear aQ;have n0:b0'≠bm:=λh=>by have:=gm.mkr.lt;omega
 have n0':b0'≠b4:=λh=>by obtain ⟨_,_,hc⟩:=gm.blk;have:=hc.lt;omega
 replace gm:=gm.up hT;replace s0:=s0.up hT;clear hT aS;refine W ?_;refine Z1 (Z4 rfl (Zj rfl rfl) (gm.kd ih.1 hl)) rfl ?_;rintro _ wq ⟨-,hS,y1,i1,p1,c1,rfl,s1,g1,bX,gm⟩;replace s0:=s0.ext hS (by simp) (λ_ h=>.inl h);replace e0:=e0.ext hS (by simp;exact n0);refine Z1 Z9 rfl ?_;rintro _ wq ⟨b1',rfl,eG,e1,hT⟩;refine SB (us:=ndC y1 _) (J6 s1) e1 ?_;rintro _ wq ⟨aQ,e1⟩;replace hT:=Ja hT eG aQ;clear aQ;have n1:b1'≠bm:=λh=>by have:=gm.mkr.lt;omega
 have n1':b1'≠b4:=λh=>by obtain ⟨_,_,hc⟩:=gm.blk;have:=hc.lt;omega
 replace gm:=gm.up hT;replace s0:=s0.up hT;replace e0:=e0.up hT;replace s1:=s1.up hT;clear hT eG;refine W ?_;refine ZDr 9 ([b4,bm]) [] [(0,1),(1,1),(2,0),(3,0),(4,0),(5,2),(6,2),(7,2),(8,2)] (λw1 ae=>?_);have hT:=ae;replace gm:=gm.up hT;replace s0:=s0.up hT;replace e0:=e0.up hT;replace s1:=s1.up hT;replace e1:=e1.up hT;clear hT ae;refine WD_read rfl trivial (λw' aE=>ZK rfl rfl (e0.ext aE (by simp;exact ⟨n0',n0⟩)) rfl) rfl ?_;refine WD_read rfl trivial (λw' aE=>ZK rfl rfl (e1.ext aE (by simp;exact ⟨n1',n1⟩)) rfl) rfl ?_;refine D ?_;refine Z7 rfl trivial (Z4 rfl (Zj rfl rfl) (gm.kd ih.1 hl)) (λ_ _ h=>h.1) rfl ?_;rintro _ wq ⟨-,hS,y2,i2,p2,c2,rfl,s2,g2,bN,gm⟩;replace s0:=s0.ext hS (by simp) (λ_ h=>.inl h);replace e0:=e0.ext hS (by simp;exact n0);replace s1:=s1.ext hS (by simp) (λ_ h=>.inl h);replace e1:=e1.ext hS (by simp;exact n1);refine D ?_;refine Z7 rfl trivial (gm.b3 s0 s1 s2 rfl) (λ_ _ h=>h.1) rfl ?_;rintro bv wq ⟨-,hT,aH,gm⟩;refine D ?_;refine Z7 rfl trivial (Z4 rfl (ZQ rfl rfl rfl) (gm.nd 9 [] aH)) (λ_ _ h=>h.1) rfl ?_;rintro _ wq ⟨-,hT,ky,rfl,hy,gm⟩;refine D ?_;exact FN i (e+1) (.mk 9 0 [] [y0,y1,y2]) gm bq bA hy (.cond _ _ _ _ _ (by decide) g0 g1 g2) (by omega);obtain ⟨e,rfl⟩:∃ e,d=e+1:=⟨d - 1,by omega⟩
 replace ih:=ih e rfl;have cF:=Z0d e;refine QO ?_;refine W ?_;refine Z1 (Z4 rfl (Zj rfl rfl) (gm.kd ih.1 hl)) rfl ?_;rintro _ wq ⟨-,hS,y0,i0,p0,c0,rfl,s0,g0,dy,gm⟩;refine Z1 Z9 rfl ?_;rintro _ wq ⟨b0',rfl,aS,e0,hT⟩;refine SB (us:=ndC y0 _) (J6 s0) e0 ?_;rintro _ wq ⟨aQ,e0⟩;replace hT:=Ja hT aS aQ;clear aQ;have n0:b0'≠bm:=λh=>by have:=gm.mkr.lt;omega
 have n0':b0'≠b4:=λh=>by obtain ⟨_,_,hc⟩:=gm.blk;have:=hc.lt;omega
 replace gm:=gm.up hT;replace s0:=s0.up hT;clear hT aS;refine W ?_;refine Z2s 13 [b4,bm] [] rfl mixed (λw1 ae=>?_);have hT:=ae;replace gm:=gm.up hT;replace s0:=s0.up hT;replace e0:=e0.up hT;clear hT ae;refine Jl 1 rfl trivial (λw'=>Jk rfl) rfl (by kernel_rfl) (by kernel_rfl) ?_;refine Z6D 5 rfl trivial (λw' aE=>ZK rfl rfl (e0.ext aE (by simp;exact ⟨n0',n0⟩)) rfl) rfl (by kernel_rfl) (by kernel_rfl) ?_;refine Jl 6 rfl trivial (λw'=>Jk rfl) rfl (by kernel_rfl) (by kernel_rfl) ?_;refine Jl 7 rfl trivial (λw'=>Jk rfl) rfl (by kernel_rfl) (by kernel_rfl) ?_;refine Jl 8 rfl trivial (λw'=>Z4A rfl rfl (by unfold I64;omega)) rfl (by kernel_rfl) (by kernel_rfl) ?_;refine Z0n 0 2 (by kernel_rfl) ?_ ?_;refine ZJ rfl trivial (Z0 (vs:=[(0,str [43]),(1,str [45]),(2,str [42])]) rfl (bS3 _ _ _)) (λ_ _ h=>(Z5.stp h).mn) rfl ?_;rintro wv wq hN;have aI:SlV [b4,bm] wq wv JK:=hN.slv (λc hc=>gm.hX c (by simp at hc;rcases hc with rfl|rfl<;>simp)) rfl rfl (by decide);have hT:=Z5.stp hN;clear hN;replace gm:=gm.up hT;replace s0:=s0.up hT;replace e0:=e0.up hT;clear hT;refine Z2E [(2,2),(3,0),(4,1),(9,2),(10,2),(11,2),(12,2)] (by kernel_rfl) (by kernel_rfl) (by kernel_rfl) ?_;refine Z7 rfl trivial (Z4 rfl (Zj rfl rfl) (gm.nx 3 hl)) (λ_ _ h=>h.1) rfl ?_;rintro _ wq ⟨-,hS,q,rfl,hq,gm⟩;replace s0:=s0.ext hS (by simp) (λ_ h=>.inl h);replace e0:=e0.ext hS (by simp;exact n0);replace aI:=aI.ext hS (by simp) (λ_ h=>.inl h);have bH:q<JK.length:=by show q<3;omega
 refine D ?_;refine Z7 rfl trivial (Z4 rfl (Zj rfl rfl) (gm.kd ih.1 hl)) (λ_ _ h=>h.1) rfl ?_;rintro _ wq ⟨-,hS,y1,i1,p1,c1,rfl,s1,g1,bX,gm⟩;replace s0:=s0.ext hS (by simp) (λ_ h=>.inl h);replace e0:=e0.ext hS (by simp;exact n0);replace aI:=aI.ext hS (by simp) (λ_ h=>.inl h);refine D ?_;refine Z7 rfl trivial (gm.b2 s0 s1 rfl) (λ_ _ h=>h.1) rfl ?_;rintro bv wq ⟨-,hT,aH,gm⟩;replace aI:=aI.up hT;refine D ?_;refine Z7 rfl trivial (Z4 rfl (ZQ rfl rfl rfl) (gm.nd 6 JK[q] aH)) (λ_ _ h=>h.1) rfl ?_;rintro _ wq ⟨-,hT,ky,rfl,hy,gm⟩;refine D ?_;exact FN i (e+1) (.mk 6 0 JK[q] [y0,y1]) gm bq bA hy (.arith _ _ _ _ (Xb bH) g0 g1) (by omega);refine ZJ rfl trivial (Z4 rfl (Zj rfl rfl) (gm.nx 3 hl)) (λ_ _ h=>h.1) rfl ?_;rintro _ wq ⟨-,hS,q,rfl,hq,gm⟩;replace s0:=s0.ext hS (by simp) (λ_ h=>.inl h);replace e0:=e0.ext hS (by simp;exact n0);have bH:q<JK.length:=by show q<3;omega
 refine Z0n 0 9 (by kernel_rfl) ?_ ?_;refine ZJ rfl trivial (Z0 (vs:=[(0,str [43]),(1,str [45]),(2,str [42])]) rfl (bS3 _ _ _)) (λ_ _ h=>(Z5.stp h).mn) rfl ?_;rintro wv wq hN;have aI:SlV [b4,bm] wq wv JK:=hN.slv (λc hc=>gm.hX c (by simp at hc;rcases hc with rfl|rfl<;>simp)) rfl rfl (by decide);have hT:=Z5.stp hN;clear hN;replace gm:=gm.up hT;replace s0:=s0.up hT;replace e0:=e0.up hT;clear hT;refine Z2E [(3,0),(4,1),(9,2),(10,2),(11,2),(12,2)] (by kernel_rfl) (by kernel_rfl) (by kernel_rfl) ?_;refine D ?_;refine Z7 rfl trivial (Z4 rfl (Zj rfl rfl) (gm.kd ih.1 hl)) (λ_ _ h=>h.1) rfl ?_;rintro _ wq ⟨-,hS,y1,i1,p1,c1,rfl,s1,g1,bX,gm⟩;replace s0:=s0.ext hS (by simp) (λ_ h=>.inl h);replace e0:=e0.ext hS (by simp;exact n0);replace aI:=aI.ext hS (by simp) (λ_ h=>.inl h);refine D ?_;refine Z7 rfl trivial (gm.b2 s0 s1 rfl) (λ_ _ h=>h.1) rfl ?_;rintro bv wq ⟨-,hT,aH,gm⟩;replace aI:=aI.up hT;refine D ?_;refine Z7 rfl trivial (Z4 rfl (ZQ rfl rfl rfl) (gm.nd 6 JK[q] aH)) (λ_ _ h=>h.1) rfl ?_;rintro _ wq ⟨-,hT,ky,rfl,hy,gm⟩;refine D ?_;exact FN i (e+1) (.mk 6 0 JK[q] [y0,y1]) gm bq bA hy (.arith _ _ _ _ (Xb bH) g0 g1) (by omega);refine ZJ rfl trivial (Z4 rfl (Zj rfl rfl) (gm.kd ih.1 hl)) (λ_ _ h=>h.1) rfl ?_;rintro _ wq ⟨-,hS,y1,i1,p1,c1,rfl,s1,g1,bX,gm⟩;replace s0:=s0.ext hS (by simp) (λ_ h=>.inl h);replace e0:=e0.ext hS (by simp;exact n0);refine Z0n 0 10 (by kernel_rfl) ?_ ?_;refine ZJ rfl trivial (Z0 (vs:=[(0,str [43]),(1,str [45]),(2,str [42])]) rfl (bS3 _ _ _)) (λ_ _ h=>(Z5.stp h).mn) rfl ?_;rintro wv wq hN;have aI:SlV [b4,bm] wq wv JK:=hN.slv (λc hc=>gm.hX c (by simp at hc;rcases hc with rfl|rfl<;>simp)) rfl rfl (by decide);have hT:=Z5.stp hN;clear hN;replace gm:=gm.up hT;replace s0:=s0.up hT;replace e0:=e0.up hT;replace s1:=s1.up hT;clear hT;refine Z2E [(3,0),(4,1),(10,2),(11,2),(12,2)] (by kernel_rfl) (by kernel_rfl) (by kernel_rfl) ?_;refine D ?_;refine D ?_;refine Z7 rfl trivial (gm.b2 s0 s1 rfl) (λ_ _ h=>h.1) rfl ?_;rintro bv wq ⟨-,hT,aH,gm⟩;replace aI:=aI.up hT;refine D ?_;refine Z7 rfl trivial (Z4 rfl (ZQ rfl rfl rfl) (gm.nd 6 JK[q] aH)) (λ_ _ h=>h.1) rfl ?_;rintro _ wq ⟨-,hT,ky,rfl,hy,gm⟩;refine D ?_;exact FN i (e+1) (.mk 6 0 JK[q] [y0,y1]) gm bq bA hy (.arith _ _ _ _ (Xb bH) g0 g1) (by omega);refine ZJ rfl trivial (gm.b2 s0 s1 rfl) (λ_ _ h=>h.1) rfl ?_;rintro bv wq ⟨-,hT,aH,gm⟩;refine Z2E [(0,2),(3,0),(4,1),(11,2),(12,2)] (by kernel_rfl) (by kernel_rfl) (by kernel_rfl) ?_;refine Z7 rfl trivial (Z0 (vs:=[(0,str [43]),(1,str [45]),(2,str [42])]) rfl (bS3 _ _ _)) (λ_ _ h=>(Z5.stp h).mn) rfl ?_;rintro wv wq hN;have aI:SlV [b4,bm] wq wv JK:=hN.slv (λc hc=>gm.hX c (by simp at hc;rcases hc with rfl|rfl<;>simp)) rfl rfl (by decide);have hT:=Z5.stp hN;clear hN;replace gm:=gm.up hT;replace aH:=aH.up hT;clear hT;refine D ?_;refine D ?_;refine D ?_;refine Z7 rfl trivial (Z4 rfl (ZQ rfl rfl rfl) (gm.nd 6 JK[q] aH)) (λ_ _ h=>h.1) rfl ?_;rintro _ wq ⟨-,hT,ky,rfl,hy,gm⟩;refine D ?_;exact FN i (e+1) (.mk 6 0 JK[q] [y0,y1]) gm bq bA hy (.arith _ _ _ _ (Xb bH) g0 g1) (by omega)
set_option maxHeartbeats 1000000
theorem Z4Q (d:Nat) (m9:d<=6) (ih:∀ e,d=e+1->Z0R 144 1 e/\Z0R 97 2 e/\Z0R 98 3 e):Z0R 97 2 d:=by
 intro X w bm lv l i z hz ap au hl hi hX;subst hz;have br:szD (d+1)=1+3 * szD d:=rfl;refine cW2 80 Tryz.func97 ?_;refine W ?_;refine Z1 Z9 rfl ?_;rintro _ w1 ⟨b4,rfl,bA,aV,bq⟩;have gm:G3 (b4 :: bm :: X) w1 w1 bm b4 lv l i:=⟨ap.up bq,au.up bq,Stp.refl _ _,⟨_,rfl,aV⟩,λh=>by have:=ap.lt;omega,λc hc=>by
  simp only [Xg] at hc;have h1:=aV.lt;have h2:=ap.lt;have h3:=bq.size;rcases hc with rfl|rfl|hc
  exact h1;omega;have:=hX c hc;omega⟩
 clear aV hX au ap;refine W ?_;refine Z1 (Z4 rfl (Zj rfl rfl) (gm.nx 6 hl)) rfl ?_;rintro _ wq ⟨-,hS,q,rfl,hq,gm⟩;refine W ?_;refine Z1 (Z4 rfl (Zj rfl rfl) (Z3E bm lv l _ d _ _ rfl gm.mkr gm.sl)) rfl ?_;rintro _ wq ⟨dn,rfl,aw,hT⟩;replace gm:=gm.up hT;clear hT;cases dn with
 | true=>
   refine QO ?_;apply Za (vs:=[(0,.int .i64 2),(1,.int .i64 (1 - (q:Int) / 5))]) rfl (Z23 _ _) rfl;have hy:SlV (α:=Nd) (b4 :: bm :: X) _ (.slice none 0 0) []:=Zg _ wq;exact FN i d (.mk 2 (1 - (q:Int) / 5) [] []) gm bq bA hy (.bool _ _ (by omega)) (by omega)
 | false=>
   have bi:d≠0:=λh=>absurd (aw h) (by decide)
   obtain ⟨e,rfl⟩:∃ e,d=e+1:=⟨d - 1,by omega⟩
   replace ih:=ih e rfl;have cF:=Z0d e;clear bi aw;by_cases k0:q=0;refine QO ?_;refine Z1 (Z4 rfl (Zj rfl rfl) (gm.nx 2 hl)) rfl ?_;rintro _ wq ⟨-,hS,q',rfl,dE,gm⟩;refine W ?_;apply Za (vs:=[(0,.int .i64 2),(1,.int .i64 _)]) rfl (Z23 _ _) rfl;have hy:SlV (α:=Nd) (b4 :: bm :: X) _ (.slice none 0 0) []:=Zg _ wq;exact FN i (e+1) (.mk 2 (q':Int) [] []) gm bq bA hy (.bool _ _ (by omega)) (by omega);by_cases k1:q=1;refine QO ?_;refine W ?_;refine Z1 (Z4 rfl (Zj rfl rfl) (gm.kd ih.2.1 hl)) rfl ?_;rintro _ wq ⟨-,hS,y0,i0,p0,c0,rfl,s0,g0,dy,gm⟩;refine W ?_;refine Z1 (gm.b1 s0 rfl) rfl ?_;rintro bv wq ⟨-,hT,aH,gm⟩;refine W ?_;refine Z1 (Z4 rfl (ZQ rfl rfl rfl) (gm.nd 5 [110,111,116] aH)) rfl ?_;rintro _ wq ⟨-,hT,ky,rfl,hy,gm⟩;refine W ?_;exact FN i (e+1) (.mk 5 0 [110,111,116] [y0]) gm bq bA hy (.not _ _ g0) (by omega);by_cases k2:q=2;refine QO ?_;refine W ?_;refine Z1 (Z4 rfl (Zj rfl rfl) (gm.kd ih.2.1 hl)) rfl ?_;rintro _ wq ⟨-,hS,y0,i0,p0,c0,rfl,s0,g0,dy,gm⟩;refine Z1 Z9 rfl ?_;rintro _ wq ⟨b0',rfl,aS,e0,hT⟩;refine Zi (J1 (us:=ndC y0 _) rfl rfl rfl rfl (J6 s0) e0 rfl) ?_;rintro _ wq ⟨aQ,e0⟩;replace hT:=Ja hT aS aQ;clear aQ;have n0:b0'≠bm:=λh=>by have:=gm.mkr.lt;omega
   have n0':b0'≠b4:=λh=>by obtain ⟨_,_,hc⟩:=gm.blk;have:=hc.lt;omega
   replace gm:=gm.up hT;replace s0:=s0.up hT;clear hT aS;refine W ?_;refine Z2s 13 [b4,bm] [] rfl mixed (λw1 ae=>?_);have hT:=ae;replace gm:=gm.up hT;replace s0:=s0.up hT;replace e0:=e0.up hT;clear hT ae;refine Jl 1 rfl trivial (λw'=>Jk rfl) rfl (by kernel_rfl) (by kernel_rfl) ?_;refine Z6D 5 rfl trivial (λw' aE=>ZK rfl rfl (e0.ext aE (by simp;exact ⟨n0',n0⟩)) rfl) rfl (by kernel_rfl) (by kernel_rfl) ?_;refine Jl 6 rfl trivial (λw'=>Jk rfl) rfl (by kernel_rfl) (by kernel_rfl) ?_;refine Jl 7 rfl trivial (λw'=>Jk rfl) rfl (by kernel_rfl) (by kernel_rfl) ?_;refine Jl 8 rfl trivial (λw'=>Z4A rfl rfl (by unfold I64;omega)) rfl (by kernel_rfl) (by kernel_rfl) ?_;refine Z0n 0 2 (by kernel_rfl) ?_ ?_;refine ZJ rfl trivial (Z0 (vs:=[(0,str [97,110,100]),(1,str [111,114])]) rfl (bS2 _ _)) (λ_ _ h=>(Z5.stp h).mono (by simp)) rfl ?_;rintro wv wq hN;have aI:SlV [b4,bm] wq wv JF:=hN.slv (λc hc=>gm.hX c (by simp at hc;rcases hc with rfl|rfl<;>simp)) rfl rfl (by decide);have hT:=Z5.stp hN;clear hN;replace gm:=gm.up hT;replace s0:=s0.up hT;replace e0:=e0.up hT;clear hT;refine Z2E [(2,2),(3,0),(4,1),(9,2),(10,2),(11,2),(12,2)] (by kernel_rfl) (by kernel_rfl) (by kernel_rfl) ?_;refine Z7 rfl trivial (Z4 rfl (Zj rfl rfl) (gm.nx 2 hl)) (λ_ _ h=>h.1) rfl ?_;rintro _ wq ⟨-,hS,q,rfl,hq,gm⟩;replace s0:=s0.ext hS (by simp) (λ_ h=>.inl h);replace e0:=e0.ext hS (by simp;exact n0);replace aI:=aI.ext hS (by simp) (λ_ h=>.inl h);have bH:q<JF.length:=by show q<2;omega
   refine D ?_;refine Z7 rfl trivial (Z4 rfl (Zj rfl rfl) (gm.kd ih.2.1 hl)) (λ_ _ h=>h.1) rfl ?_;rintro _ wq ⟨-,hS,y1,i1,p1,c1,rfl,s1,g1,bX,gm⟩;replace s0:=s0.ext hS (by simp) (λ_ h=>.inl h);replace e0:=e0.ext hS (by simp;exact n0);replace aI:=aI.ext hS (by simp) (λ_ h=>.inl h);refine D ?_;refine Z7 rfl trivial (gm.b2 s0 s1 rfl) (λ_ _ h=>h.1) rfl ?_;rintro bv wq ⟨-,hT,aH,gm⟩;replace aI:=aI.up hT;refine D ?_;refine Z7 rfl trivial (Z4 rfl (ZQ rfl rfl rfl) (gm.nd 6 JF[q] aH)) (λ_ _ h=>h.1) rfl ?_;rintro _ wq ⟨-,hT,ky,rfl,hy,gm⟩;refine D ?_;exact FN i (e+1) (.mk 6 0 JF[q] [y0,y1]) gm bq bA hy (.logic _ _ _ _ (Xb bH) g0 g1) (by omega);refine ZJ rfl trivial (Z4 rfl (Zj rfl rfl) (gm.nx 2 hl)) (λ_ _ h=>h.1) rfl ?_;rintro _ wq ⟨-,hS,q,rfl,hq,gm⟩;replace s0:=s0.ext hS (by simp) (λ_ h=>.inl h);replace e0:=e0.ext hS (by simp;exact n0);have bH:q<JF.length:=by show q<2;omega
   refine Z0n 0 9 (by kernel_rfl) ?_ ?_;refine ZJ rfl trivial (Z0 (vs:=[(0,str [97,110,100]),(1,str [111,114])]) rfl (bS2 _ _)) (λ_ _ h=>(Z5.stp h).mono (by simp)) rfl ?_;rintro wv wq hN;have aI:SlV [b4,bm] wq wv JF:=hN.slv (λc hc=>gm.hX c (by simp at hc;rcases hc with rfl|rfl<;>simp)) rfl rfl (by decide);have hT:=Z5.stp hN;clear hN;replace gm:=gm.up hT;replace s0:=s0.up hT;replace e0:=e0.up hT;clear hT;refine Z2E [(3,0),(4,1),(9,2),(10,2),(11,2),(12,2)] (by kernel_rfl) (by kernel_rfl) (by kernel_rfl) ?_;refine D ?_;refine Z7 rfl trivial (Z4 rfl (Zj rfl rfl) (gm.kd ih.2.1 hl)) (λ_ _ h=>h.1) rfl ?_;rintro _ wq ⟨-,hS,y1,i1,p1,c1,rfl,s1,g1,bX,gm⟩;replace s0:=s0.ext hS (by simp) (λ_ h=>.inl h);replace e0:=e0.ext hS (by simp;exact n0);replace aI:=aI.ext hS (by simp) (λ_ h=>.inl h);refine D ?_;refine Z7 rfl trivial (gm.b2 s0 s1 rfl) (λ_ _ h=>h.1) rfl ?_;rintro bv wq ⟨-,hT,aH,gm⟩;replace aI:=aI.up hT;refine D ?_;refine Z7 rfl trivial (Z4 rfl (ZQ rfl rfl rfl) (gm.nd 6 JF[q] aH)) (λ_ _ h=>h.1) rfl ?_;rintro _ wq ⟨-,hT,ky,rfl,hy,gm⟩;refine D ?_;exact FN i (e+1) (.mk 6 0 JF[q] [y0,y1]) gm bq bA hy (.logic _ _ _ _ (Xb bH) g0 g1) (by omega);refine ZJ rfl trivial (Z4 rfl (Zj rfl rfl) (gm.kd ih.2.1 hl)) (λ_ _ h=>h.1) rfl ?_;rintro _ wq ⟨-,hS,y1,i1,p1,c1,rfl,s1,g1,bX,gm⟩;replace s0:=s0.ext hS (by simp) (λ_ h=>.inl h);replace e0:=e0.ext hS (by simp;exact n0);refine Z0n 0 10 (by kernel_rfl) ?_ ?_;refine ZJ rfl trivial (Z0 (vs:=[(0,str [97,110,100]),(1,str [111,114])]) rfl (bS2 _ _)) (λ_ _ h=>(Z5.stp h).mono (by simp)) rfl ?_;rintro wv wq hN;have aI:SlV [b4,bm] wq wv JF:=hN.slv (λc hc=>gm.hX c (by simp at hc;rcases hc with rfl|rfl<;>simp)) rfl rfl (by decide);have hT:=Z5.stp hN;clear hN;replace gm:=gm.up hT;replace s0:=s0.up hT;replace e0:=e0.up hT;replace s1:=s1.up hT;clear hT;refine Z2E [(3,0),(4,1),(10,2),(11,2),(12,2)] (by kernel_rfl) (by kernel_rfl) (by kernel_rfl) ?_;refine D ?_;refine D ?_;refine Z7 rfl trivial (gm.b2 s0 s1 rfl) (λ_ _ h=>h.1) rfl ?_;rintro bv wq ⟨-,hT,aH,gm⟩;replace aI:=aI.up hT;refine D ?_;refine Z7 rfl trivial (Z4 rfl (ZQ rfl rfl rfl) (gm.nd 6 JF[q] aH)) (λ_ _ h=>h.1) rfl ?_;rintro _ wq ⟨-,hT,ky,rfl,hy,gm⟩;refine D ?_;exact FN i (e+1) (.mk 6 0 JF[q] [y0,y1]) gm bq bA hy (.logic _ _ _ _ (Xb bH) g0 g1) (by omega);refine ZJ rfl trivial (gm.b2 s0 s1 rfl) (λ_ _ h=>h.1) rfl ?_;rintro bv wq ⟨-,hT,aH,gm⟩;refine Z2E [(0,2),(3,0),(4,1),(11,2),(12,2)] (by kernel_rfl) (by kernel_rfl) (by kernel_rfl) ?_;refine Z7 rfl trivial (Z0 (vs:=[(0,str [97,110,100]),(1,str [111,114])]) rfl (bS2 _ _)) (λ_ _ h=>(Z5.stp h).mono (by simp)) rfl ?_;rintro wv wq hN;have aI:SlV [b4,bm] wq wv JF:=hN.slv (λc hc=>gm.hX c (by simp at hc;rcases hc with rfl|rfl<;>simp)) rfl rfl (by decide);have hT:=Z5.stp hN;clear hN;replace gm:=gm.up hT;replace aH:=aH.up hT;clear hT;refine D ?_;refine D ?_;refine D ?_;refine Z7 rfl trivial (Z4 rfl (ZQ rfl rfl rfl) (gm.nd 6 JF[q] aH)) (λ_ _ h=>h.1) rfl ?_;rintro _ wq ⟨-,hT,ky,rfl,hy,gm⟩;refine D ?_;exact FN i (e+1) (.mk 6 0 JF[q] [y0,y1]) gm bq bA hy (.logic _ _ _ _ (Xb bH) g0 g1) (by omega);by_cases k3:q=3;refine QO ?_;refine W ?_;refine Z1 (Z4 rfl (Zj rfl rfl) (gm.kd ih.2.2 hl)) rfl ?_;rintro _ wq ⟨-,hS,y0,i0,p0,c0,rfl,s0,g0,dy,gm⟩;refine Z1 Z9 rfl ?_;rintro _ wq ⟨b0',rfl,aS,e0,hT⟩;refine Zi (J1 (us:=ndC y0 _) rfl rfl rfl rfl (J6 s0) e0 rfl) ?_;rintro _ wq ⟨aQ,e0⟩;replace hT:=Ja hT aS aQ;clear aQ;have n0:b0'≠bm:=λh=>by have:=gm.mkr.lt;omega
   have n0':b0'≠b4:=λh=>by obtain ⟨_,_,hc⟩:=gm.blk;have:=hc.lt;omega
   replace gm:=gm.up hT;replace s0:=s0.up hT;clear hT aS;refine W ?_;refine ZDr 11 ([b4,bm]) [] [(0,0),(3,1),(4,0),(5,0),(6,0),(1,2),(2,2),(7,2),(8,2),(9,2),(10,2)] (λw1 ae=>?_);have hT:=ae;replace gm:=gm.up hT;replace s0:=s0.up hT;replace e0:=e0.up hT;clear hT ae;refine D ?_;refine Z7 rfl trivial (Z4 rfl (Zj rfl rfl) (gm.nx 6 hl)) (λ_ _ h=>h.1) rfl ?_;rintro _ wq ⟨-,hS,q',rfl,dE,gm⟩;replace s0:=s0.ext hS (by simp) (λ_ h=>.inl h);replace e0:=e0.ext hS (by simp;exact n0);refine D ?_;refine Z7 rfl trivial (Z4 rfl (ZN rfl) (Z35 q' _ (by omega))) (λ_ _ h=>h.2.mono (by simp)) rfl ?_;rintro _ wq ⟨⟨op,lg,rfl⟩,hT⟩;replace gm:=gm.up hT;replace s0:=s0.up hT;replace e0:=e0.up hT;clear hT;refine D ?_;refine Z7 rfl trivial (Z4 rfl (Zj rfl rfl) (gm.kd ih.2.2 hl)) (λ_ _ h=>h.1) rfl ?_;rintro _ wq ⟨-,hS,y1,i1,p1,c1,rfl,s1,g1,bX,gm⟩;replace s0:=s0.ext hS (by simp) (λ_ h=>.inl h);replace e0:=e0.ext hS (by simp;exact n0);refine D ?_;refine Z7 rfl trivial (gm.b2 s0 s1 rfl) (λ_ _ h=>h.1) rfl ?_;rintro bv wq ⟨-,hT,aH,gm⟩;refine D ?_;refine Z7 rfl trivial (Z4 rfl (ZQ rfl rfl rfl) (gm.nd 6 op aH)) (λ_ _ h=>h.1) rfl ?_;rintro _ wq ⟨-,hT,ky,rfl,hy,gm⟩;refine D ?_;exact FN i (e+1) (.mk 6 0 op [y0,y1]) gm bq bA hy (.cmp _ 3 _ _ _ (by decide) lg g0 g1) (by omega);refine QO ?_;refine W ?_;refine Z1 (Z4 rfl (Zj rfl rfl) (gm.kd ih.1 hl)) rfl ?_;rintro _ wq ⟨-,hS,y0,i0,p0,c0,rfl,s0,g0,dy,gm⟩;refine Z1 Z9 rfl ?_;rintro _ wq ⟨b0',rfl,aS,e0,hT⟩;refine Zi (J1 (us:=ndC y0 _) rfl rfl rfl rfl (J6 s0) e0 rfl) ?_;rintro _ wq ⟨aQ,e0⟩;replace hT:=Ja hT aS aQ;clear aQ;have n0:b0'≠bm:=λh=>by have:=gm.mkr.lt;omega
   have n0':b0'≠b4:=λh=>by obtain ⟨_,_,hc⟩:=gm.blk;have:=hc.lt;omega
   replace gm:=gm.up hT;replace s0:=s0.up hT;clear hT aS;refine W ?_;refine ZDr 11 ([b4,bm]) [] [(0,0),(3,1),(4,0),(5,0),(6,0),(1,2),(2,2),(7,2),(8,2),(9,2),(10,2)] (λw1 ae=>?_);have hT:=ae;replace gm:=gm.up hT;replace s0:=s0.up hT;replace e0:=e0.up hT;clear hT ae;refine D ?_;refine Z7 rfl trivial (Z4 rfl (Zj rfl rfl) (gm.nx 6 hl)) (λ_ _ h=>h.1) rfl ?_;rintro _ wq ⟨-,hS,q',rfl,dE,gm⟩;replace s0:=s0.ext hS (by simp) (λ_ h=>.inl h);replace e0:=e0.ext hS (by simp;exact n0);refine D ?_;refine Z7 rfl trivial (Z4 rfl (ZN rfl) (Z35 q' _ (by omega))) (λ_ _ h=>h.2.mono (by simp)) rfl ?_;rintro _ wq ⟨⟨op,lg,rfl⟩,hT⟩;replace gm:=gm.up hT;replace s0:=s0.up hT;replace e0:=e0.up hT;clear hT;refine D ?_;refine Z7 rfl trivial (Z4 rfl (Zj rfl rfl) (gm.kd ih.1 hl)) (λ_ _ h=>h.1) rfl ?_;rintro _ wq ⟨-,hS,y1,i1,p1,c1,rfl,s1,g1,bX,gm⟩;replace s0:=s0.ext hS (by simp) (λ_ h=>.inl h);replace e0:=e0.ext hS (by simp;exact n0);refine D ?_;refine Z7 rfl trivial (gm.b2 s0 s1 rfl) (λ_ _ h=>h.1) rfl ?_;rintro bv wq ⟨-,hT,aH,gm⟩;refine D ?_;refine Z7 rfl trivial (Z4 rfl (ZQ rfl rfl rfl) (gm.nd 6 op aH)) (λ_ _ h=>h.1) rfl ?_;rintro _ wq ⟨-,hT,ky,rfl,hy,gm⟩;refine D ?_;exact FN i (e+1) (.mk 6 0 op [y0,y1]) gm bq bA hy (.cmp _ 1 _ _ _ (by decide) lg g0 g1) (by omega)
set_option maxHeartbeats 1000000
def Z4R:List Str:=[[100,97,121,115],[100,97,121,115],[99,111,117,114,116,100,97,121,115],[119,101,101,107,115],[109,111,110,116,104,115]]
theorem Z95:∀ s∈Z4R,s∈ZE:=by decide
theorem Z4S (d:Nat) (m9:d<=6) (ih:∀ e,d=e+1->Z0R 144 1 e/\Z0R 97 2 e/\Z0R 98 3 e):Z0R 98 3 d:=by
 intro X w bm lv l i z hz ap au hl hi hX;subst hz;have br:szD (d+1)=1+3 * szD d:=rfl;refine cW2 107 Tryz.func98 ?_;refine W ?_;refine Z1 Z9 rfl ?_;rintro _ w1 ⟨b4,rfl,bA,aV,bq⟩;have gm:G3 (b4 :: bm :: X) w1 w1 bm b4 lv l i:=⟨ap.up bq,au.up bq,Stp.refl _ _,⟨_,rfl,aV⟩,λh=>by have:=ap.lt;omega,λc hc=>by
  simp only [Xg] at hc;have h1:=aV.lt;have h2:=ap.lt;have h3:=bq.size;rcases hc with rfl|rfl|hc
  exact h1;omega;have:=hX c hc;omega⟩
 clear aV hX au ap;refine W ?_;refine Z1 (Z4 rfl (Zj rfl rfl) (gm.nx 10 hl)) rfl ?_;rintro _ wq ⟨-,hS,q,rfl,hq,gm⟩;refine W ?_;refine Z1 (Z4 rfl (Zj rfl rfl) (Z3E bm lv l _ d _ _ rfl gm.mkr gm.sl)) rfl ?_;rintro _ wq ⟨dn,rfl,aw,hT⟩;replace gm:=gm.up hT;clear hT;refine W ?_;refine JI (σ:=Nat) (λk=>[(0,pQ bm),(1,.I (d:Int)),(4,pQ b4),(5,.I (k:Int))]) (λk w'=>w'=wq/\k<10/\(d=0->k<4)) ?_ ?_
 . cases dn with
   | true=>
     refine QO ?_;exact Zc (q % 4) ⟨rfl,rfl,rfl,rfl,trivial⟩ ⟨rfl,by omega,λ_=>by omega⟩
   | false=>
     refine QO ?_;exact Zc q ⟨rfl,rfl,rfl,rfl,trivial⟩ ⟨rfl,by omega,λh=>absurd (aw h) (by decide)⟩
 rintro k w3 ⟨rfl,eh,bj⟩;clear hq aw;by_cases k0:k<=1
 . (refine QP ?_ ?_<;>intro hc)
   all_goals
    refine Z1 (Z4 rfl (ZQ rfl rfl rfl) (gm.nd 4 [100,97,121] (Zg _ _))) rfl ?_;rintro _ wq ⟨-,hT,ky,rfl,hy,gm⟩;exact FN i d (.mk 4 0 [100,97,121] []) gm bq bA hy (.fldD _ _ (by decide)) (by omega)
 by_cases k2:k=2;refine QO ?_;refine Z1 (Z0 (vs:=[(0,str [100,97,121]),(1,str [115,101,114,118,101,100])]) rfl (bS2 _ _)) rfl ?_;rintro wv wq hN;have aI:SlV [bm] wq wv Z7A:=hN.slv (λc hc=>gm.hX c (by simp at hc;subst hc;simp)) rfl rfl (by decide);have hT:=Z5.stp hN;clear hN;replace gm:=gm.up hT;clear hT;refine W ?_;refine Z1 (Z4 rfl (Zj rfl rfl) (gm.nx 2 hl)) rfl ?_;rintro _ wq ⟨-,hS,q',rfl,dE,gm⟩;replace aI:=aI.ext hS (by simp) (λ_ h=>.inl h);have bH:q'<Z7A.length:=by show q'<2;omega
 refine W ?_;refine Z1 (Z4 rfl (ZQ rfl rfl rfl) (gm.nd 4 Z7A[q'] (Zg _ _))) rfl ?_;rintro _ wq ⟨-,hT,ky,rfl,hy,gm⟩;exact FN i d (.mk 4 0 Z7A[q'] []) gm bq bA hy (.fldD _ _ (Xb bH)) (by omega);by_cases k3:k=3;refine QO ?_;refine Z1 (Z4 rfl (Zj rfl rfl) (gm.nx 60 hl)) rfl ?_;rintro _ wq ⟨-,hS,q',rfl,dE,gm⟩;refine W ?_;apply Za (vs:=[(0,.I 3),(1,.I _)]) rfl (Z23 _ _) rfl;have hy:SlV (α:=Nd) (b4 :: bm :: X) _ (.N) []:=Zg _ wq;exact FN i d (.mk 3 (739616+(q':Int)) [] []) gm bq bA hy (.day _ _ (by omega)) (by omega);by_cases k4:k=4;obtain ⟨e,rfl⟩:∃ e,d=e+1:=⟨d - 1,by omega⟩
 replace ih:=ih e rfl;have cF:=Z0d e;refine QO ?_;refine Z2s 12 [b4,bm] [] rfl mixed (λw1 ae=>?_);have hT:=ae;replace gm:=gm.up hT;clear hT ae;refine Jl 1 rfl trivial (λw'=>Jk rfl) rfl (by kernel_rfl) (by kernel_rfl) ?_;refine Jl 5 rfl trivial (λw'=>Jk rfl) rfl (by kernel_rfl) (by kernel_rfl) ?_;refine Jl 6 rfl trivial (λw'=>Jk rfl) rfl (by kernel_rfl) (by kernel_rfl) ?_;refine Jl 7 rfl trivial (λw'=>Z4A rfl rfl (by unfold I64;omega)) rfl (by kernel_rfl) (by kernel_rfl) ?_;refine Z0n 0 2 (by kernel_rfl) ?_ ?_;refine ZJ rfl trivial (Z0 (vs:=[(0,str [110,101,120,116]),(1,str [112,114,101,118])]) rfl (bS2 _ _)) (λ_ _ h=>(Z5.stp h).mn) rfl ?_;rintro wv wq hN;have aI:SlV [b4,bm] wq wv Z17:=hN.slv (λc hc=>gm.hX c (by simp at hc;rcases hc with rfl|rfl<;>simp)) rfl rfl (by decide);have hT:=Z5.stp hN;clear hN;replace gm:=gm.up hT;clear hT;refine Z2E [(2,2),(3,0),(4,1),(8,2),(9,2),(10,2),(11,2)] (by kernel_rfl) (by kernel_rfl) (by kernel_rfl) ?_;refine Z7 rfl trivial (Z4 rfl (Zj rfl rfl) (gm.nx 2 hl)) (λ_ _ h=>h.1) rfl ?_;rintro _ wq ⟨-,hS,q,rfl,hq,gm⟩;replace aI:=aI.ext hS (by simp) (λ_ h=>.inl h);have bH:q<Z17.length:=by show q<2;omega
 refine D ?_;refine Z7 rfl trivial (Z4 rfl (Zj rfl rfl) (gm.kd ih.2.2 hl)) (λ_ _ h=>h.1) rfl ?_;rintro _ wq ⟨-,hS,y0,i0,p0,c0,rfl,s0,g0,dy,gm⟩;replace aI:=aI.ext hS (by simp) (λ_ h=>.inl h);refine D ?_;refine Z7 rfl trivial (gm.b1 s0 rfl) (λ_ _ h=>h.1) rfl ?_;rintro bv wq ⟨-,hT,aH,gm⟩;replace aI:=aI.up hT;refine D ?_;refine Z7 rfl trivial (Z4 rfl (ZQ rfl rfl rfl) (gm.nd 10 Z17[q] aH)) (λ_ _ h=>h.1) rfl ?_;rintro _ wq ⟨-,hT,ky,rfl,hy,gm⟩;refine D ?_;exact FN i (e+1) (.mk 10 0 Z17[q] [y0]) gm bq bA hy (.adj _ _ _ (Xb bH) g0) (by omega);refine ZJ rfl trivial (Z4 rfl (Zj rfl rfl) (gm.nx 2 hl)) (λ_ _ h=>h.1) rfl ?_;rintro _ wq ⟨-,hS,q,rfl,hq,gm⟩;have bH:q<Z17.length:=by show q<2;omega
 refine Z0n 0 8 (by kernel_rfl) ?_ ?_;refine ZJ rfl trivial (Z0 (vs:=[(0,str [110,101,120,116]),(1,str [112,114,101,118])]) rfl (bS2 _ _)) (λ_ _ h=>(Z5.stp h).mn) rfl ?_;rintro wv wq hN;have aI:SlV [b4,bm] wq wv Z17:=hN.slv (λc hc=>gm.hX c (by simp at hc;rcases hc with rfl|rfl<;>simp)) rfl rfl (by decide);have hT:=Z5.stp hN;clear hN;replace gm:=gm.up hT;clear hT;refine Z2E [(3,0),(4,1),(8,2),(9,2),(10,2),(11,2)] (by kernel_rfl) (by kernel_rfl) (by kernel_rfl) ?_;refine D ?_;refine Z7 rfl trivial (Z4 rfl (Zj rfl rfl) (gm.kd ih.2.2 hl)) (λ_ _ h=>h.1) rfl ?_;rintro _ wq ⟨-,hS,y0,i0,p0,c0,rfl,s0,g0,dy,gm⟩;replace aI:=aI.ext hS (by simp) (λ_ h=>.inl h);refine D ?_;refine Z7 rfl trivial (gm.b1 s0 rfl) (λ_ _ h=>h.1) rfl ?_;rintro bv wq ⟨-,hT,aH,gm⟩;replace aI:=aI.up hT;refine D ?_;refine Z7 rfl trivial (Z4 rfl (ZQ rfl rfl rfl) (gm.nd 10 Z17[q] aH)) (λ_ _ h=>h.1) rfl ?_;rintro _ wq ⟨-,hT,ky,rfl,hy,gm⟩;refine D ?_;exact FN i (e+1) (.mk 10 0 Z17[q] [y0]) gm bq bA hy (.adj _ _ _ (Xb bH) g0) (by omega);refine ZJ rfl trivial (Z4 rfl (Zj rfl rfl) (gm.kd ih.2.2 hl)) (λ_ _ h=>h.1) rfl ?_;rintro _ wq ⟨-,hS,y0,i0,p0,c0,rfl,s0,g0,dy,gm⟩;refine Z0n 0 9 (by kernel_rfl) ?_ ?_;refine ZJ rfl trivial (Z0 (vs:=[(0,str [110,101,120,116]),(1,str [112,114,101,118])]) rfl (bS2 _ _)) (λ_ _ h=>(Z5.stp h).mn) rfl ?_;rintro wv wq hN;have aI:SlV [b4,bm] wq wv Z17:=hN.slv (λc hc=>gm.hX c (by simp at hc;rcases hc with rfl|rfl<;>simp)) rfl rfl (by decide);have hT:=Z5.stp hN;clear hN;replace gm:=gm.up hT;replace s0:=s0.up hT;clear hT;refine Z2E [(3,0),(4,1),(9,2),(10,2),(11,2)] (by kernel_rfl) (by kernel_rfl) (by kernel_rfl) ?_;refine D ?_;refine D ?_;refine Z7 rfl trivial (gm.b1 s0 rfl) (λ_ _ h=>h.1) rfl ?_;rintro bv wq ⟨-,hT,aH,gm⟩;replace aI:=aI.up hT;refine D ?_;refine Z7 rfl trivial (Z4 rfl (ZQ rfl rfl rfl) (gm.nd 10 Z17[q] aH)) (λ_ _ h=>h.1) rfl ?_;rintro _ wq ⟨-,hT,ky,rfl,hy,gm⟩;refine D ?_;exact FN i (e+1) (.mk 10 0 Z17[q] [y0]) gm bq bA hy (.adj _ _ _ (Xb bH) g0) (by omega);refine ZJ rfl trivial (gm.b1 s0 rfl) (λ_ _ h=>h.1) rfl ?_;rintro bv wq ⟨-,hT,aH,gm⟩;refine Z2E [(0,2),(3,0),(4,1),(10,2),(11,2)] (by kernel_rfl) (by kernel_rfl) (by kernel_rfl) ?_;refine Z7 rfl trivial (Z0 (vs:=[(0,str [110,101,120,116]),(1,str [112,114,101,118])]) rfl (bS2 _ _)) (λ_ _ h=>(Z5.stp h).mn) rfl ?_;rintro wv wq hN;have aI:SlV [b4,bm] wq wv Z17:=hN.slv (λc hc=>gm.hX c (by simp at hc;rcases hc with rfl|rfl<;>simp)) rfl rfl (by decide);have hT:=Z5.stp hN;clear hN;replace gm:=gm.up hT;replace aH:=aH.up hT;clear hT;refine D ?_;refine D ?_;refine D ?_;refine Z7 rfl trivial (Z4 rfl (ZQ rfl rfl rfl) (gm.nd 10 Z17[q] aH)) (λ_ _ h=>h.1) rfl ?_;rintro _ wq ⟨-,hT,ky,rfl,hy,gm⟩;refine D ?_;exact FN i (e+1) (.mk 10 0 Z17[q] [y0]) gm bq bA hy (.adj _ _ _ (Xb bH) g0) (by omega);by_cases k5:k=5;obtain ⟨e,rfl⟩:∃ e,d=e+1:=⟨d - 1,by omega⟩
 replace ih:=ih e rfl;have cF:=Z0d e;refine QO ?_;refine W ?_;refine Z1 (Z4 rfl (Zj rfl rfl) (gm.kd ih.2.2 hl)) rfl ?_;rintro _ wq ⟨-,hS,y0,i0,p0,c0,rfl,s0,g0,dy,gm⟩;refine Z1 Z9 rfl ?_;rintro _ wq ⟨b0',rfl,aS,e0,hT⟩;refine SB (us:=ndC y0 _) (J6 s0) e0 ?_;rintro _ wq ⟨aQ,e0⟩;replace hT:=Ja hT aS aQ;clear aQ;have n0:b0'≠bm:=λh=>by have:=gm.mkr.lt;omega
 have n0':b0'≠b4:=λh=>by obtain ⟨_,_,hc⟩:=gm.blk;have:=hc.lt;omega
 replace gm:=gm.up hT;replace s0:=s0.up hT;clear hT aS;refine W ?_;refine Z2s 13 [b4,bm] [] rfl mixed (λw1 ae=>?_);have hT:=ae;replace gm:=gm.up hT;replace s0:=s0.up hT;replace e0:=e0.up hT;clear hT ae;refine Jl 1 rfl trivial (λw'=>Jk rfl) rfl (by kernel_rfl) (by kernel_rfl) ?_;refine Z6D 5 rfl trivial (λw' aE=>ZK rfl rfl (e0.ext aE (by simp;exact ⟨n0',n0⟩)) rfl) rfl (by kernel_rfl) (by kernel_rfl) ?_;refine Jl 6 rfl trivial (λw'=>Jk rfl) rfl (by kernel_rfl) (by kernel_rfl) ?_;refine Jl 7 rfl trivial (λw'=>Jk rfl) rfl (by kernel_rfl) (by kernel_rfl) ?_;refine Jl 8 rfl trivial (λw'=>Z4A rfl rfl (by unfold I64;omega)) rfl (by kernel_rfl) (by kernel_rfl) ?_;refine Z0n 0 2 (by kernel_rfl) ?_ ?_;refine ZJ rfl trivial (Z0 (vs:=[(0,str [108,97,116,101,114]),(1,str [101,97,114,108,105,101,114])]) rfl (bS2 _ _)) (λ_ _ h=>(Z5.stp h).mn) rfl ?_;rintro wv wq hN;have aI:SlV [b4,bm] wq wv Z18:=hN.slv (λc hc=>gm.hX c (by simp at hc;rcases hc with rfl|rfl<;>simp)) rfl rfl (by decide);have hT:=Z5.stp hN;clear hN;replace gm:=gm.up hT;replace s0:=s0.up hT;replace e0:=e0.up hT;clear hT;refine Z2E [(2,2),(3,0),(4,1),(9,2),(10,2),(11,2),(12,2)] (by kernel_rfl) (by kernel_rfl) (by kernel_rfl) ?_;refine Z7 rfl trivial (Z4 rfl (Zj rfl rfl) (gm.nx 2 hl)) (λ_ _ h=>h.1) rfl ?_;rintro _ wq ⟨-,hS,q,rfl,hq,gm⟩;replace s0:=s0.ext hS (by simp) (λ_ h=>.inl h);replace e0:=e0.ext hS (by simp;exact n0);replace aI:=aI.ext hS (by simp) (λ_ h=>.inl h);have bH:q<Z18.length:=by show q<2;omega
 refine D ?_;refine Z7 rfl trivial (Z4 rfl (Zj rfl rfl) (gm.kd ih.2.2 hl)) (λ_ _ h=>h.1) rfl ?_;rintro _ wq ⟨-,hS,y1,i1,p1,c1,rfl,s1,g1,bX,gm⟩;replace s0:=s0.ext hS (by simp) (λ_ h=>.inl h);replace e0:=e0.ext hS (by simp;exact n0);replace aI:=aI.ext hS (by simp) (λ_ h=>.inl h);refine D ?_;refine Z7 rfl trivial (gm.b2 s0 s1 rfl) (λ_ _ h=>h.1) rfl ?_;rintro bv wq ⟨-,hT,aH,gm⟩;replace aI:=aI.up hT;refine D ?_;refine Z7 rfl trivial (Z4 rfl (ZQ rfl rfl rfl) (gm.nd 10 Z18[q] aH)) (λ_ _ h=>h.1) rfl ?_;rintro _ wq ⟨-,hT,ky,rfl,hy,gm⟩;refine D ?_;exact FN i (e+1) (.mk 10 0 Z18[q] [y0,y1]) gm bq bA hy (.two _ _ _ _ (Xb bH) g0 g1) (by omega);refine ZJ rfl trivial (Z4 rfl (Zj rfl rfl) (gm.nx 2 hl)) (λ_ _ h=>h.1) rfl ?_;rintro _ wq ⟨-,hS,q,rfl,hq,gm⟩;replace s0:=s0.ext hS (by simp) (λ_ h=>.inl h);replace e0:=e0.ext hS (by simp;exact n0);have bH:q<Z18.length:=by show q<2;omega
 refine Z0n 0 9 (by kernel_rfl) ?_ ?_;refine ZJ rfl trivial (Z0 (vs:=[(0,str [108,97,116,101,114]),(1,str [101,97,114,108,105,101,114])]) rfl (bS2 _ _)) (λ_ _ h=>(Z5.stp h).mn) rfl ?_;rintro wv wq hN;have aI:SlV [b4,bm] wq wv Z18:=hN.slv (λc hc=>gm.hX c (by simp at hc;rcases hc with rfl|rfl<;>simp)) rfl rfl (by decide);have hT:=Z5.stp hN;clear hN;replace gm:=gm.up hT;replace s0:=s0.up hT;replace e0:=e0.up hT;clear hT;refine Z2E [(3,0),(4,1),(9,2),(10,2),(11,2),(12,2)] (by kernel_rfl) (by kernel_rfl) (by kernel_rfl) ?_;refine D ?_;refine Z7 rfl trivial (Z4 rfl (Zj rfl rfl) (gm.kd ih.2.2 hl)) (λ_ _ h=>h.1) rfl ?_;rintro _ wq ⟨-,hS,y1,i1,p1,c1,rfl,s1,g1,bX,gm⟩;replace s0:=s0.ext hS (by simp) (λ_ h=>.inl h);replace e0:=e0.ext hS (by simp;exact n0);replace aI:=aI.ext hS (by simp) (λ_ h=>.inl h);refine D ?_;refine Z7 rfl trivial (gm.b2 s0 s1 rfl) (λ_ _ h=>h.1) rfl ?_;rintro bv wq ⟨-,hT,aH,gm⟩;replace aI:=aI.up hT;refine D ?_;refine Z7 rfl trivial (Z4 rfl (ZQ rfl rfl rfl) (gm.nd 10 Z18[q] aH)) (λ_ _ h=>h.1) rfl ?_;rintro _ wq ⟨-,hT,ky,rfl,hy,gm⟩;refine D ?_;exact FN i (e+1) (.mk 10 0 Z18[q] [y0,y1]) gm bq bA hy (.two _ _ _ _ (Xb bH) g0 g1) (by omega);refine ZJ rfl trivial (Z4 rfl (Zj rfl rfl) (gm.kd ih.2.2 hl)) (λ_ _ h=>h.1) rfl ?_;rintro _ wq ⟨-,hS,y1,i1,p1,c1,rfl,s1,g1,bX,gm⟩;replace s0:=s0.ext hS (by simp) (λ_ h=>.inl h);replace e0:=e0.ext hS (by simp;exact n0);refine Z0n 0 10 (by kernel_rfl) ?_ ?_;refine ZJ rfl trivial (Z0 (vs:=[(0,str [108,97,116,101,114]),(1,str [101,97,114,108,105,101,114])]) rfl (bS2 _ _)) (λ_ _ h=>(Z5.stp h).mn) rfl ?_;rintro wv wq hN;have aI:SlV [b4,bm] wq wv Z18:=hN.slv (λc hc=>gm.hX c (by simp at hc;rcases hc with rfl|rfl<;>simp)) rfl rfl (by decide);have hT:=Z5.stp hN;clear hN;replace gm:=gm.up hT;replace s0:=s0.up hT;replace e0:=e0.up hT;replace s1:=s1.up hT;clear hT;refine Z2E [(3,0),(4,1),(10,2),(11,2),(12,2)] (by kernel_rfl) (by kernel_rfl) (by kernel_rfl) ?_;refine D ?_;refine D ?_;refine Z7 rfl trivial (gm.b2 s0 s1 rfl) (λ_ _ h=>h.1) rfl ?_;rintro bv wq ⟨-,hT,aH,gm⟩;replace aI:=aI.up hT;refine D ?_;refine Z7 rfl trivial (Z4 rfl (ZQ rfl rfl rfl) (gm.nd 10 Z18[q] aH)) (λ_ _ h=>h.1) rfl ?_;rintro _ wq ⟨-,hT,ky,rfl,hy,gm⟩;refine D ?_;exact FN i (e+1) (.mk 10 0 Z18[q] [y0,y1]) gm bq bA hy (.two _ _ _ _ (Xb bH) g0 g1) (by omega);refine ZJ rfl trivial (gm.b2 s0 s1 rfl) (λ_ _ h=>h.1) rfl ?_;rintro bv wq ⟨-,hT,aH,gm⟩;refine Z2E [(0,2),(3,0),(4,1),(11,2),(12,2)] (by kernel_rfl) (by kernel_rfl) (by kernel_rfl) ?_;refine Z7 rfl trivial (Z0 (vs:=[(0,str [108,97,116,101,114]),(1,str [101,97,114,108,105,101,114])]) rfl (bS2 _ _)) (λ_ _ h=>(Z5.stp h).mn) rfl ?_;rintro wv wq hN;have aI:SlV [b4,bm] wq wv Z18:=hN.slv (λc hc=>gm.hX c (by simp at hc;rcases hc with rfl|rfl<;>simp)) rfl rfl (by decide);have hT:=Z5.stp hN;clear hN;replace gm:=gm.up hT;replace aH:=aH.up hT;clear hT;refine D ?_;refine D ?_;refine D ?_;refine Z7 rfl trivial (Z4 rfl (ZQ rfl rfl rfl) (gm.nd 10 Z18[q] aH)) (λ_ _ h=>h.1) rfl ?_;rintro _ wq ⟨-,hT,ky,rfl,hy,gm⟩;refine D ?_;exact FN i (e+1) (.mk 10 0 Z18[q] [y0,y1]) gm bq bA hy (.two _ _ _ _ (Xb bH) g0 g1) (by omega);by_cases k6:k=6;obtain ⟨e,rfl⟩:∃ e,d=e+1:=⟨d - 1,by omega⟩
 replace ih:=ih e rfl;have cF:=Z0d e;refine QO ?_;refine W ?_;refine Z1 (Z4 rfl (Zj rfl rfl) (gm.kd ih.2.1 hl)) rfl ?_;rintro _ wq ⟨-,hS,y0,i0,p0,c0,rfl,s0,g0,dy,gm⟩;refine Z1 Z9 rfl ?_;rintro _ wq ⟨b0',rfl,aS,e0,hT⟩;refine SB (us:=ndC y0 _) (J6 s0) e0 ?_;rintro _ wq ⟨aQ,e0⟩;replace hT:=Ja hT aS aQ;clear aQ;have n0:b0'≠bm:=λh=>by have:=gm.mkr.lt;omega
 have n0':b0'≠b4:=λh=>by obtain ⟨_,_,hc⟩:=gm.blk;have:=hc.lt;omega
 replace gm:=gm.up hT;replace s0:=s0.up hT;clear hT aS;refine W ?_;refine Z1 (Z4 rfl (Zj rfl rfl) (gm.kd ih.2.2 hl)) rfl ?_;rintro _ wq ⟨-,hS,y1,i1,p1,c1,rfl,s1,g1,bX,gm⟩;replace s0:=s0.ext hS (by simp) (λ_ h=>.inl h);replace e0:=e0.ext hS (by simp;exact n0);refine Z1 Z9 rfl ?_;rintro _ wq ⟨b1',rfl,eG,e1,hT⟩;refine SB (us:=ndC y1 _) (J6 s1) e1 ?_;rintro _ wq ⟨aQ,e1⟩;replace hT:=Ja hT eG aQ;clear aQ;have n1:b1'≠bm:=λh=>by have:=gm.mkr.lt;omega
 have n1':b1'≠b4:=λh=>by obtain ⟨_,_,hc⟩:=gm.blk;have:=hc.lt;omega
 replace gm:=gm.up hT;replace s0:=s0.up hT;replace e0:=e0.up hT;replace s1:=s1.up hT;clear hT eG;refine W ?_;refine ZDr 9 ([b4,bm]) [] [(0,1),(1,1),(2,0),(3,0),(4,0),(5,2),(6,2),(7,2),(8,2)] (λw1 ae=>?_);have hT:=ae;replace gm:=gm.up hT;replace s0:=s0.up hT;replace e0:=e0.up hT;replace s1:=s1.up hT;replace e1:=e1.up hT;clear hT ae;refine WD_read rfl trivial (λw' aE=>ZK rfl rfl (e0.ext aE (by simp;exact ⟨n0',n0⟩)) rfl) rfl ?_;refine WD_read rfl trivial (λw' aE=>ZK rfl rfl (e1.ext aE (by simp;exact ⟨n1',n1⟩)) rfl) rfl ?_;refine D ?_;refine Z7 rfl trivial (Z4 rfl (Zj rfl rfl) (gm.kd ih.2.2 hl)) (λ_ _ h=>h.1) rfl ?_;rintro _ wq ⟨-,hS,y2,i2,p2,c2,rfl,s2,g2,bN,gm⟩;replace s0:=s0.ext hS (by simp) (λ_ h=>.inl h);replace e0:=e0.ext hS (by simp;exact n0);replace s1:=s1.ext hS (by simp) (λ_ h=>.inl h);replace e1:=e1.ext hS (by simp;exact n1);refine D ?_;refine Z7 rfl trivial (gm.b3 s0 s1 s2 rfl) (λ_ _ h=>h.1) rfl ?_;rintro bv wq ⟨-,hT,aH,gm⟩;refine D ?_;refine Z7 rfl trivial (Z4 rfl (ZQ rfl rfl rfl) (gm.nd 9 [] aH)) (λ_ _ h=>h.1) rfl ?_;rintro _ wq ⟨-,hT,ky,rfl,hy,gm⟩;refine D ?_;exact FN i (e+1) (.mk 9 0 [] [y0,y1,y2]) gm bq bA hy (.cond _ _ _ _ _ (by decide) g0 g1 g2) (by omega);obtain ⟨e,rfl⟩:∃ e,d=e+1:=⟨d - 1,by omega⟩
 replace ih:=ih e rfl;have cF:=Z0d e;refine QO ?_;refine W ?_;refine Z1 (Z4 rfl (Zj rfl rfl) (gm.kd ih.2.2 hl)) rfl ?_;rintro _ wq ⟨-,hS,y0,i0,p0,c0,rfl,s0,g0,dy,gm⟩;refine Z1 Z9 rfl ?_;rintro _ wq ⟨b0',rfl,aS,e0,hT⟩;refine SB (us:=ndC y0 _) (J6 s0) e0 ?_;rintro _ wq ⟨aQ,e0⟩;replace hT:=Ja hT aS aQ;clear aQ;have n0:b0'≠bm:=λh=>by have:=gm.mkr.lt;omega
 have n0':b0'≠b4:=λh=>by obtain ⟨_,_,hc⟩:=gm.blk;have:=hc.lt;omega
 replace gm:=gm.up hT;replace s0:=s0.up hT;clear hT aS;refine W ?_;refine Z1 (Z0 (vs:=[(0,str [100,97,121,115]),(1,str [100,97,121,115]),(2,str [99,111,117,114,116,100,97,121,115]),(3,str [119,101,101,107,115]),(4,str [109,111,110,116,104,115])]) rfl (bS5 _ _ _ _ _)) rfl ?_;rintro wv wq hN;have aI:SlV [b4,bm] wq wv Z4R:=hN.slv (λc hc=>gm.hX c (by simp at hc;rcases hc with rfl|rfl<;>simp)) rfl rfl (by decide);have hT:=Z5.stp hN;clear hN;replace gm:=gm.up hT;replace s0:=s0.up hT;replace e0:=e0.up hT;clear hT;refine W ?_;refine Z1 (Z4 rfl (Zj rfl rfl) (gm.nx 5 hl)) rfl ?_;rintro _ wq ⟨-,hS,q',rfl,dE,gm⟩;replace s0:=s0.ext hS (by simp) (λ_ h=>.inl h);replace e0:=e0.ext hS (by simp;exact n0);replace aI:=aI.ext hS (by simp) (λ_ h=>.inl h);have bH:q'<Z4R.length:=by show q'<5;omega
 have hu:=Z95 _ (Xb bH);refine W ?_;clear aI;refine ZDr 13 ([b4,bm]) [] [(0,0),(4,0),(5,1),(6,0),(7,0),(8,0),(1,2),(2,0),(3,0),(9,2),(10,2),(11,2),(12,2)] (λw1 ae=>?_);have hT:=ae;replace gm:=gm.up hT;replace s0:=s0.up hT;replace e0:=e0.up hT;clear hT ae;refine D ?_;refine Z7 rfl trivial (Z4 rfl (Zj rfl rfl) (gm.nx 4 hl)) (λ_ _ h=>h.1) rfl ?_;rintro _ wq ⟨-,hS,q4,rfl,kw,gm⟩;replace s0:=s0.ext hS (by simp) (λ_ h=>.inl h);replace e0:=e0.ext hS (by simp;exact n0);refine D ?_;refine Z7 rfl trivial (Z4 rfl (Zj rfl rfl) (gm.kd ih.1 hl)) (λ_ _ h=>h.1) rfl ?_;rintro _ wq ⟨-,hS,y1,i1,p1,c1,rfl,s1,g1,bX,gm⟩;replace s0:=s0.ext hS (by simp) (λ_ h=>.inl h);replace e0:=e0.ext hS (by simp;exact n0);refine D ?_;refine Z7 rfl trivial (gm.b2 s0 s1 rfl) (λ_ _ h=>h.1) rfl ?_;rintro bv wq ⟨-,hT,aH,gm⟩;refine D ?_;refine Z7 rfl trivial (Z4 rfl (ZQ rfl rfl rfl) (gm.nd (7+(q4:Int) / 3) Z4R[q'] aH)) (λ_ _ h=>h.1) rfl ?_;rintro _ wq ⟨-,hT,ky,rfl,hy,gm⟩;refine D ?_;exact FN i (e+1) (.mk (7+(q4:Int) / 3) 0 Z4R[q'] [y0,y1]) gm bq bA hy (.move _ _ _ _ _ (by omega) hu g0 g1) (by omega)
end Go.Proofs.YteibicnbkggiiaaGreatDoor
namespace Go.Eng
open Go Go.RowKit Go.Proofs
structure RuleM where
 name:Str
 frm:Int
 on:Str
 cond:Nd
 due:Nd
 unl:Str
 els:Str
abbrev bts (s:Str):ByteArray:=⟨s.toArray⟩
def Itr (w:World) (b:Nat) (s:Str) (p:Nat):Prop:=w.heap[b]?=some (.stringIter (bts s) p)
theorem Itr.lt {w} {b p:Nat} {s:Str} (h:Itr w b s p):b<w.heap.size:=(Xx.1 h).1
def dec (s:Str) (p:Nat):Nat×Nat:=Utf8.decode (bts s) p
theorem Z4T (s:Str):(bts s).size=s.length:=by simp [ByteArray.size]
theorem Zb4 {s:Str} {p:Nat} (h:p<s.length) (ha:(s[p]).toNat<128):dec s p=((s[p]).toNat,1):=by
 have h1:p<(bts s).size:=by rw [Z4T];exact h
 have e:(bts s)[p]'h1=s[p]:=by simp [bts,ByteArray.getElem_eq_getElem_data]
 have:=decode_ascii (bts s) p h1 (by rw [e];exact ha);rw [e] at this;exact this
section
variable {P:Program} {n:Nat} {e:Env} {w:World} {d:Option Nat} {ty:TypeId} {pos:String} {af:Array Edge} {g:Option (Nat×Bool)}
theorem Zdt {x:Operand} {t:TypeId} {s:Str} [hu:Und P t .string] (hx:ev e x=some (str s)):OE P n ⟨d,.range t x,ty,pos,af,g⟩ e w (λv w'=>∃ b,v=pQ b/\w.heap.size<=b/\Itr w' b s 0/\Stp [] w w'):=
 ZF (v:=.pointer (some ⟨w.heap.size,0,none⟩)) (w':=w.iter (bts s) 0) (λa ha=>by
  have:=run_range_string (P:=P) w t (bts s) hu.h;simp [execOp,ha.ev hx,this]) ⟨w.heap.size,rfl,Xq _,World.iter_heap _ _ _,Stp.alloc _ _ _⟩
theorem Zga {x:Operand} {s:Str} {b p:Nat} (hx:ev e x=some (pQ b)) (hI:Itr w b s p) (hp:p<s.length) :
 OE P n ⟨d,.next x true,ty,pos,af,g⟩ e w (λv w'=>v=.tuple #[.B true,.I p,.int .i32 ((dec s p).1:Int)]/\Itr w' b s (p+(dec s p).2)/\Stp [b] w w'):=by
 have hlt:=hI.lt;have lh:p<(bts s).size:=by rw [Z4T];exact hp
 unfold Itr at hI;refine ZF (v:=.tuple #[.B true,.I p,.int .i32 ((dec s p).1:Int)]) (w':={ w with heap:=w.heap.setIfInBounds b (.stringIter (bts s) (p+(dec s p).2)) }) (λa ha=>?_) ⟨rfl,?_,⟨rfl,rfl,rfl,by simp,λk hk hn=>?_⟩⟩
 . simp [execOp,ha.ev hx,Instr.next,getObj,setObj,Sem.run,hI,lh,goInt,dec]
 show (w.heap.setIfInBounds b _)[b]?=_;simp [hlt];show (w.heap.setIfInBounds b _)[k]?=_;exact YaB (by simpa using λh=>hn (by simp [h]))
theorem Z96 {x:Operand} {s:Str} {b p:Nat} (hx:ev e x=some (pQ b)) (hI:Itr w b s p) (hp:¬ p<s.length) :
 OE P n ⟨d,.next x true,ty,pos,af,g⟩ e w (λv w'=>v=.tuple #[.B false]/\w'=w):=by
 have lh:¬ p<(bts s).size:=by rw [Z4T];exact hp
 unfold Itr at hI;refine ZF (v:=.tuple #[.B false]) (w':=w) (λa ha=>?_) ⟨rfl,rfl⟩;simp [execOp,ha.ev hx,Instr.next,getObj,Sem.run,hI,lh]
theorem Zdu {x:Operand} {t:TypeId} {i:Nat} {u v:Value} (hx:ev e x=some u) (hb:∀ w,(Instr.field t u i).run P w=.ok v w):PR P n ⟨d,.field t x i,ty,pos,af,g⟩ e w v:=
 ⟨λa ha=>by simp [execOp,ha.ev hx,hb]⟩
end
def JQ (y:Int):Bool:=decide (y % 4=0) && (decide (¬ y % 100=0) || decide (y % 400=0))
def ZD (y m:Int):Int:=
 if m<1\/12<m then 0 else if m=2 then (if JQ y then 29 else 28) else if m=4\/m=6\/m=9\/m=11 then 30 else 31
def JC (y m d:Int):Int:=
 let (y,m):=if m - 3<0 then (y - 1,m+9) else (y,m - 3)
 365 * y+y / 4 - y / 100+y / 400+(153 * m+2) / 5+d - 307
theorem Z4U (y m:Int):ZD y m<=31:=by
 unfold ZD;repeat' split
 all_goals omega
def Z37 (d:Nat):Nat:=(d - d / 1460+d / 36524 - d / 146096) / 365
def Z3F (y:Nat):Nat:=365 * y+y / 4 - y / 100
def Zdv (y:Nat):Bool:=Nat.beq (y % 4) 0 && (!(Nat.beq (y % 100) 0) || Nat.beq (y % 400) 0)
def Zkk (d:Nat):Bool:=Nat.ble 146097 d || (Nat.ble (Z3F (Z37 d)) d && (Nat.blt d (Z3F (Z37 d)+365) || (Nat.beq d (Z3F (Z37 d)+365) && Zdv (Z37 d+1))))
def Zdw:Nat->Nat->Bool
 | 0,lo=>Zkk lo
 | k+1,lo=>Zdw k lo && Zdw k (lo+2 ^ k)
theorem Z3G:∀ (k lo d:Nat),Zdw k lo=true->lo<=d->d<lo+2 ^ k->Zkk d=true
 | 0, lo, d, h, h1, h2 => by
   have:d=lo:=by simp at h2;omega
   subst this;exact h
 | k + 1, lo, d, h, h1, h2 => by
   simp only [Zdw,Xa] at h;rw [Nat.pow_succ] at h2;rcases Ybl d (lo+2 ^ k) with h3|h3
   exact Z3G k lo d h.1 h1 h3;exact Z3G k (lo+2 ^ k) d h.2 h3 (by omega)
theorem Zdx:Zdw 18 0=true:=by kernel_rfl
theorem Zdy (y:Nat):Zdv y=JQ (y:Int):=by
 unfold Zdv JQ;have h:∀ a b:Nat,Nat.beq (a % b) 0=decide ((a:Int) % (b:Int)=0):=λa b=>by
  rw [YaX];simp only [decide_eq_true_eq];rw [Nat.beq_eq];omega
 rw [show Nat.beq (y % 4) 0=decide ((y:Int) % 4=0) from h y 4,show Nat.beq (y % 100) 0=decide ((y:Int) % 100=0) from h y 100,show Nat.beq (y % 400) 0=decide ((y:Int) % 400=0) from h y 400];simp
structure Dat where
 y:Int
 m:Int
 d:Int
def ofM (day:Int):Dat:=
 let z:=day+306
 let era:=z / 146097
 let doe:=z % 146097
 let yoe:=(doe - doe / 1460+doe / 36524 - doe / 146096) / 365
 let doy:=doe - (365 * yoe+yoe / 4 - yoe / 100)
 let m:=(5 * doy+2) / 153
 if m>=10 then ⟨yoe+400 * era+1,m - 9,doy - (153 * m+2) / 5+1⟩ else ⟨yoe+400 * era,m+3,doy - (153 * m+2) / 5+1⟩
theorem Zdz:∀ q:Nat,q<366->(5 * q+2) / 153<=11/\(153 * ((5 * q+2) / 153)+2) / 5<=q/\
 q - (153 * ((5 * q+2) / 153)+2) / 5+1<=(if (5 * q+2) / 153=11 then (if q=365 then 29 else 28) else if (5 * q+2) / 153=1\/(5 * q+2) / 153=3\/(5 * q+2) / 153=6\/(5 * q+2) / 153=8 then 30 else 31):=by decide +kernel
theorem ZdA (doe:Int) (h0:0<=doe) (h1:doe<146097):∃ yoe doy:Nat,(doe - doe / 1460+doe / 36524 - doe / 146096) / 365=(yoe:Int)/\doe - (365 * (yoe:Int)+(yoe:Int) / 4 - (yoe:Int) / 100)=(doy:Int)/\yoe<=399/\doy<=365/\(doy=365->JQ ((yoe:Int)+1)=true):=by
 obtain ⟨d,rfl⟩:∃ d:Nat,doe=(d:Int):=⟨doe.toNat,by omega⟩
 have hd:d<146097:=by omega
 have h:=Z3G 18 0 d Zdx (by omega) (by omega);unfold Zkk at h;rw [show Nat.ble 146097 d=false by rw [Yab];simp;omega] at h;simp only [Ybe,Xa,Ya4,Nat.ble_eq,Nat.beq_eq] at h;obtain ⟨h2,h3⟩:=h;have hy:((d:Int) - (d:Int) / 1460+(d:Int) / 36524 - (d:Int) / 146096) / 365=((Z37 d:Nat):Int):=by unfold Z37;omega
 have lj:Z37 d<=399:=by unfold Z37;omega
 have aB:(Z3F (Z37 d):Int)=365 * (Z37 d:Int)+(Z37 d:Int) / 4 - (Z37 d:Int) / 100:=by unfold Z3F;omega
 refine ⟨Z37 d,d - Z3F (Z37 d),hy,by omega,lj,?_,λh4=>?_⟩;rcases h3 with h3|h3
 have:=Xe h3;omega;have:=h3.1;omega;rcases h3 with h3|h3
 have:=Xe h3;omega;have:=h3.2;rw [Zdy] at this;exact this
theorem Zb5 (y e:Int):JQ (y+400 * e)=JQ y:=by
 unfold JQ;have h4:(y+400 * e) % 4=y % 4:=by omega
 have cb:(y+400 * e) % 100=y % 100:=by omega
 have lm:(y+400 * e) % 400=y % 400:=by omega
 rw [h4,cb,lm]
theorem ZdB {n:Int} (h0:0<=n) (h1:n<=3652058):1<=(ofM n).y/\(ofM n).y<=9999/\1<=(ofM n).m/\(ofM n).m<=12/\1<=(ofM n).d/\(ofM n).d<=ZD (ofM n).y (ofM n).m/\JC (ofM n).y (ofM n).m (ofM n).d=n:=by
 obtain ⟨yoe,doy,e1,e2,hy,hd,hl⟩:=ZdA ((n+306) % 146097) (by omega) (by omega);obtain ⟨m1,m2,m3⟩:=Zdz doy (by omega);have pb:(n+306) / 146097 * 146097+(n+306) % 146097=n+306:=by omega
 unfold ofM;simp only;rw [e1,e2];have em:(5 * (doy:Int)+2) / 153=(((5 * doy+2) / 153:Nat):Int):=by omega
 rw [em];have ek:(153 * (((5 * doy+2) / 153:Nat):Int)+2) / 5=(((153 * ((5 * doy+2) / 153)+2) / 5:Nat):Int):=by omega
 rw [ek];generalize (n+306) / 146097=era at *;generalize (n+306) % 146097=doe at *;have nf:∀ m:Nat,m<=11->(153 * (m:Int)+2) / 5=(((153 * m+2) / 5:Nat):Int):=λm _=>by omega
 generalize hm:(5 * doy+2) / 153=m at *;have q4:((yoe:Int)+400 * era) / 4=(yoe:Int) / 4+100 * era:=by omega
 have q100:((yoe:Int)+400 * era) / 100=(yoe:Int) / 100+4 * era:=by omega
 have q400:((yoe:Int)+400 * era) / 400=era:=by omega
 by_cases ec:((m:Nat):Int)>=10;rw [if_pos ec];simp only;have gU:JC ((yoe:Int)+400 * era+1) ((m:Int) - 9) ((doy:Int) - (((153 * m+2) / 5:Nat):Int)+1)=n:=by
  unfold JC;rw [if_pos (by omega)];simp only;rw [show (yoe:Int)+400 * era+1 - 1=(yoe:Int)+400 * era by omega,show (m:Int) - 9+9=(m:Int) by omega,nf m m1,q4,q100,q400];omega
 refine ⟨?_,?_,by omega,by omega,by omega,?_,gU⟩;omega;omega;have iS:m=10\/m=11:=by omega
 rcases iS with rfl|rfl
 unfold ZD;rw [if_neg (by omega),if_neg (by omega),if_neg (by omega)];rw [if_neg (by omega),if_neg (by omega)] at m3;omega;unfold ZD;rw [if_neg (by omega),if_pos (by omega)];rw [if_pos rfl] at m3;by_cases gV:doy=365;rw [if_pos gV] at m3;have pd:JQ ((yoe:Int)+400 * era+1)=true:=by
  rw [show (yoe:Int)+400 * era+1=((yoe:Int)+1)+400 * era by omega,Zb5];exact hl gV
 rw [pd];simp only [if_true];omega;rw [if_neg gV] at m3;split<;>omega
 rw [if_neg ec];simp only;have gU:JC ((yoe:Int)+400 * era) ((m:Int)+3) ((doy:Int) - (((153 * m+2) / 5:Nat):Int)+1)=n:=by
  unfold JC;rw [if_neg (by omega)];simp only;rw [show (m:Int)+3 - 3=(m:Int) by omega,nf m m1,q4,q100,q400];omega
 refine ⟨?_,?_,by omega,by omega,by omega,?_,gU⟩;omega;omega;unfold ZD;rw [if_neg (by omega),if_neg (by omega)];rw [if_neg (by omega)] at m3;split at m3;rw [if_pos (by omega)];omega;rw [if_neg (by omega)];omega
theorem Z2J:∀ (k u:Nat),u<10 ^ (k+1)->(Lib.decDigits u).length<=k+1
 | 0,u,h=>by rw [Lib.decDigits,dif_pos (by simpa using h)];simp
 | k + 1, u, h => by
   rw [Lib.decDigits];split;simp;have:=Z2J k (u / 10) (by rw [Nat.pow_succ] at h;omega);simp;omega
def JY (y:Int):Int:=365 * (y - 1)+(y - 1) / 4 - (y - 1) / 100+(y - 1) / 400
def Z0S (y:Int):Nat->Int
 | 0=>0
 | k+1=>Z0S y k+ZD y ((k:Int)+1)
theorem Z5V (y:Int):JQ y=true↔(y % 4=0/\(¬ y % 100=0\/y % 400=0)):=by
 unfold JQ;simp
theorem Z43 (y:Int):JY (y+1)=JY y+(if JQ y=true then 366 else 365):=by
 unfold JY;have h:=Z5V y;by_cases hl:JQ y=true;rw [if_pos hl];have:=h.1 hl;omega;rw [if_neg hl];have:¬ (y % 4=0/\(¬ y % 100=0\/y % 400=0)):=λh'=>hl (h.2 h');omega
theorem Z24 {a b:Int} (h:a<=b):JY a<=JY b:=by
 unfold JY;omega
theorem Z44 {y:Int} {k:Nat} (hk:k<12):28<=ZD y ((k:Int)+1):=by
 unfold ZD;rw [if_neg (by omega)];repeat' split
 all_goals omega
theorem Zgb (y:Int):∀ k:Nat,k<=11->Z0S y k=(if k<2 then 31 * (k:Int) else (if JQ y=true then 1 else 0)+(153 * ((k:Int) - 2)+2) / 5+59):=by
 intro k hk;have:k=0\/k=1\/k=2\/k=3\/k=4\/k=5\/k=6\/k=7\/k=8\/k=9\/k=10\/k=11:=by omega
 rcases this with rfl|rfl|rfl|rfl|rfl|rfl|rfl|rfl|rfl|rfl|rfl|rfl<;>simp [Z0S,ZD]<;>cases JQ y<;>simp
theorem Znu (y:Int):Z0S y 12=if JQ y=true then 366 else 365:=by
 simp [Z0S,ZD];cases JQ y<;>simp
theorem Z1m (y d:Int) (k:Nat) (hk:k<=11):JC y ((k:Int)+1) d=JY y+Z0S y k+d - 1:=by
 rw [Zgb y k hk];unfold JC;by_cases h2:k<2;rw [if_pos h2,if_pos (by omega)];simp only;unfold JY;omega;rw [if_neg h2,if_neg (by omega)];simp only;have h:=Z43 y;have hl:=Z5V y;have e:(153 * ((k:Int)+1 - 3)+2) / 5=(153 * ((k:Int) - 2)+2) / 5:=by congr 2;omega
 rw [e];generalize (153 * ((k:Int) - 2)+2) / 5=z;have e2:JY (y+1)=365 * y+y / 4 - y / 100+y / 400:=by unfold JY;omega
 rw [e2] at h;by_cases da:JQ y=true;rw [if_pos da] at h ⊢;omega;rw [if_neg da] at h ⊢;omega
theorem Z2t {y:Int}:∀ {a b:Nat},a<=b->b<=12->Z0S y a<=Z0S y b
 | a, 0, h, _ => by obtain rfl : a = 0 := by omega
                    exact YaH _
 | a, b + 1, h, h2 => by
   by_cases e:a=b+1;subst e;exact YaH _;have:=Z2t (y:=y) (a:=a) (b:=b) (by omega) (by omega);have:=Z44 (y:=y) (k:=b) (by omega);simp only [Z0S];omega
theorem ZdC (k:Nat) (h:0<k):Lib.decDigits k=(if k / 10=0 then [] else Lib.decDigits (k / 10))++[UInt8.ofNat (48+k % 10)]:=by
 rw [Lib.decDigits];by_cases ec:k<10;rw [dif_pos ec,if_pos (by omega)];simp [Nat.mod_eq_of_lt ec];rw [dif_neg ec,if_neg (by omega)]
theorem Zb6 (d:Nat) (h:d<10):(([48,49,50,51,52,53,54,55,56,57]:Str).take (d+1)).drop d=[UInt8.ofNat (48+d)]:=by
 have:d=0\/d=1\/d=2\/d=3\/d=4\/d=5\/d=6\/d=7\/d=8\/d=9:=by omega
 rcases this with rfl|rfl|rfl|rfl|rfl|rfl|rfl|rfl|rfl|rfl<;>rfl
variable {P:Program} {n:Nat} {e:Env} {w:World} {d:Option Nat} {ty:TypeId} {pos:String} {af:Array Edge} {g:Option (Nat×Bool)}
theorem Z97 {x:Operand} {t:TypeId} {el:TypeId} [hu:Und P t (.slice el)] {p:Option Addr} {l c:Nat} (hx:ev e x=some (.slice p l c)) :
 PR P n ⟨d,.call { callee:=.builtin .cap,args:=#[x],argTypes:=#[t] },ty,pos,af,g⟩ e w (.I (c:Int)):=
 ⟨λa ha => by
   have:=run_cap_slice (P:=P) w t ty p l c (by rw [hu.h,Program.elem,hu.h]);simp [execOp,resolve,invoke,builtin,ha.ev hx,this,goInt]⟩
theorem Z98 {t el k:Nat} {x hi:Operand} {l c:Nat} [hu:Und P t (.slice el)] [hk:Siz P el k] (hx:ev e x=some (.slice none l c)) (hb:ev e hi=some (.I 0)) :
 PR P n ⟨d,.slice t x none (some hi) none,ty,pos,af,g⟩ e w (.slice none 0 c):=by
 refine ⟨λact ew=>?_⟩;simp [execOp,ew.ev hx,ew.ev hb,Instr.sliceAt,run_underlying hu.h,Instr.slice,Instr.sliceBounds,Instr.sliceBound,asIntOf,Siz.run]
theorem Zb7 {t el k:Nat} {x hi:Operand} {b o:Nat} {l c:Nat} [hu:Und P t (.slice el)] [hk:Siz P el k] (hx:ev e x=some (.slice (some ⟨b,o,none⟩) l c)) (hb:ev e hi=some (.I 0)) :
 PR P n ⟨d,.slice t x none (some hi) none,ty,pos,af,g⟩ e w (.slice (some ⟨b,o,none⟩) 0 c):=by
 refine ⟨λact ew=>?_⟩;simp [execOp,ew.ev hx,ew.ev hb,Instr.sliceAt,run_underlying hu.h,Instr.slice,Instr.sliceBounds,Instr.sliceBound,asIntOf,Siz.run,Addr.add_lit]
theorem Zgc {t tn T bytes k:Nat} {kn:IntKind} {x y:Operand} {z:Value} [ht:Und P t (.slice T)] [hn:Und P tn (.int kn)] [hk:Siz P T 1] [hb:Byt P T bytes] [hz:Zer P T z] (db:z.cells.size=1)
 (hx:ev e x=some (.N)) (hy:ev e y=some (.I (k:Int))) (h0:0<k) (gW:k<=maxLen) (hbytes:k * bytes<=140737488355328) :
 OE P n ⟨d,.call { callee:=.builtin .append,args:=#[x,y],argTypes:=#[t,tn] },ty,pos,af,g⟩ e w
  (λv w'=>∃ c,v=.slice (some ⟨w.heap.size,0,none⟩) k c/\w'.ownsRow w.heap.size T 1 (.slice (some ⟨w.heap.size,0,none⟩) 0 c) 0 []/\Stp [] w w'):=by
 obtain ⟨i,hi,bX,bN,fh⟩:∃ i,P.info? T=some i/\i.size=1/\i.bytes=bytes/\i.zero=some z:=by
  have a1:=hk.h;have a2:=hb.h;have a3:=hz.h;cases hi:P.info? T with
  | none=>simp [hi] at a1
  | some i=>exact ⟨i,rfl,by simpa [hi] using a1,by simpa [hi] using a2,by simpa [hi] using a3⟩
 have aO:=Go.Lib.run_append_nil_zeros (P:=P) w t tn ty T i z .i64 kn ht.h hn.h hi fh k h0 (by omega) (by simp [maxLen] at gW;omega) (by rw [bN];omega);have ng:=grownCap_ge w k 0 T;have br:(Builtin.zeroCells z.cells k++Builtin.zeroCells z.cells (grownCap w k 0 T - k)).size=grownCap w k 0 T * 1:=by
  rw [Array.size_append,size_zeroCells,size_zeroCells,db];omega
 refine ZF (v:=.slice (some ⟨w.heap.size,0,none⟩) k (grownCap w k 0 T)) (w':=w.drew.alloc (.cells (Builtin.zeroCells z.cells k++Builtin.zeroCells z.cells (grownCap w k 0 T - k)) T)) (λa ha=>?_) ⟨_,rfl,World.ownsRow_made w.drew _ _ (Xq _) (grownCap_le_maxLen w k 0 T gW) br,(Stp.drew [] w).trans (Stp.alloc [] _ _)⟩;simp [execOp,resolve,invoke,builtin,ha.ev hx,ha.ev hy,aO]
variable {P:Program} {n:Nat} {e:Env} {w:World} {d:Option Nat} {ty:TypeId} {pos:String} {af:Array Edge} {g:Option (Nat×Bool)}
theorem Z1S (k:Nat) (u:Value):(List.replicate k [u]).flatten=List.replicate k u:=by
 induction k with
 | zero=>rfl
 | succ k ih=>rw [Ya9,Yas,ih];rfl
theorem Z0e {α:Type} [Z3 α] {t T bytes k:Nat} {x y:Operand} {z u:Value} {a0:α} [ht:Und P t (.slice T)] [hk:Siz P T 1] [hb:Byt P T bytes] [hz:Zer P T z] (bj:Z3.k α=1) (pf:z.cells=#[u]) (eu:∀ (X:List Nat) (w),Z3.rep X w a0 [u])
 (hx:ev e x=some (.I (k:Int))) (hy:ev e y=some (.I (k:Int))) (gW:k<=maxLen) (hbytes:bytes * k<=281474976710656) :
 OE P n ⟨d,.makeSlice t x y,ty,pos,af,g⟩ e w (λv w'=>(∀ X,Row X w' w.heap.size T v (List.replicate k a0))/\Stp [] w w'):=by
 obtain ⟨i,hi,bX,bN,fh⟩:∃ i,P.info? T=some i/\i.size=1/\i.bytes=bytes/\i.zero=some z:=by
  have a1:=hk.h;have a2:=hb.h;have a3:=hz.h;cases hi:P.info? T with
  | none=>simp [hi] at a1
  | some i=>exact ⟨i,rfl,by simpa [hi] using a1,by simpa [hi] using a2,by simpa [hi] using a3⟩
 obtain ⟨w',aO,bM,ln⟩:=run_make_full (P:=P) w w.heap.size t T i z 1 ht.h hi fh bX .i64 .i64 k (by rw [bN];exact hbytes) gW (Xq _);rw [pf,Nat.mul_one,toList_madeCells_one] at bM;refine ZF (v:=.slice (some ⟨w.heap.size,0,none⟩) k k) (w':=w') (λa ha=>?_) ⟨λX=>⟨List.replicate k [u],by simp,λj hj dM=>?_,?_⟩,Stp.of_grown ln⟩;simp [execOp,ha.ev hx,ha.ev hy,aO];rw [List.getElem_replicate,List.getElem_replicate];exact eu _ _;rw [Z1S,bj,List.length_replicate];exact bM
section
variable {P:Program} {n:Nat} {e:Env} {d:Option Nat} {ty:TypeId} {pos:String} {af:Array Edge} {g:Option (Nat×Bool)}
variable {α:Type} [Z3 α] {X:List Nat} {w w':World} {base T:Nat} {v:Value} {xs:List α}
theorem Z0Y {i k:Nat} {t:TypeId} {x y:Operand} {u:Value} {y':α} [br:Siz P t k] (hx:ev e x=some (.pointer (some (Zz v i k 0)))) (hy:ev e y=some u) (hk:k=Z3.k α)
 (bW:Z3.rep (ob v++X) w y' u.cells.toList) (ac:Row X w base T v xs) (hi:i<xs.length) :
 OE P n ⟨d,.store t x y,ty,pos,af,g⟩ e w (λ_ w'=>Row X w' base T v (xs.set i y')/\Stp (ob v) w w'):=by
 have cD:=ac;obtain ⟨css,hl,hr,ho⟩:=ac;have ai:∀ c∈css,c.length=Z3.k α:=by
  intro c hc;obtain ⟨q,hq,rfl⟩:=Xv hc;exact Z3.len (hr q (by omega) hq)
 rcases ho.2 with ⟨rfl,hn⟩|⟨q,cap,cur,rfl,hb,hg,ca,bL,bu,ht⟩
 omega;subst hk;have cK:u.cells.toList.length=Z3.k α:=Z3.len bW;have cy:i * Z3.k α+u.cells.toList.length<=cur.size:=by
  rw [cK,bu,<- Yad];exact Xt _ (by omega)
 have aB:=run_storeCells_at P q (i * Z3.k α) T u.cells.toList 0 cur w hg (by simpa using cy) (Z3.one bW);simp only [Yba] at aB;have dW:u.cells.size=Z3.k α:=by simpa using cK
 have fu:Stp [q] w (w.setRow q (cur.toList.take (i * Z3.k α)++u.cells.toList++cur.toList.drop (i * Z3.k α+u.cells.toList.length)).toArray):=Z0A _ _ _;refine Z2o (w':=w.setRow q (cur.toList.take (i * Z3.k α)++u.cells.toList++cur.toList.drop (i * Z3.k α+u.cells.toList.length)).toArray) (λa ha=>?_) ⟨⟨css.set i u.cells.toList,by simp [hl],λj hj dM=>?_,?_,.inr ⟨q,cap,_,by simp,hb,setRow_heap w q cur _ T (0,0) hg,by simpa using ca,bL,?_,?_⟩⟩,fu⟩;have dX:Zz (.slice (some ⟨q,0,none⟩) xs.length cap) i (Z3.k α) 0=⟨q,i * Z3.k α,none⟩:=by simp [Zz]
 rw [dX] at hx;simp [execOp,ha.ev hx,ha.ev hy,Instr.storeAt,Instr.sureAddr,storeVar,Siz.run,dW,aB];have ae:∀ b∈[q],b∈ob (.slice (some ⟨q,0,none⟩) xs.length cap)++X:=by simp [ob]
 by_cases dw:i=j;subst dw;simp only [Yaw];exact Z3.ext bW fu ae (λb hb=>.inl hb);simp only [Yai dw];exact Z3.ext (hr j (by simpa using hj) (by simpa using dM)) fu ae (λb hb=>.inl hb);rw [Z0i css ai i (by omega)];have h1:=ho.1;simp only [Xf,XA,X4,X0,cK,h1];have:(i+1) * Z3.k α<=xs.length * Z3.k α:=Xt _ (by omega);rw [Yad] at this;omega;simp only [Yaa,Xf,XA,X4,X5,cK,bu];rw [cK,bu] at cy;omega;rw [Z0i css ai i (by omega),<- ht];have h2:(i+1) * Z3.k α<=xs.length * Z3.k α:=Xt _ (by omega);rw [Yad] at h2;have h3:i * Z3.k α<=cur.toList.length:=by simp [bu];exact Xl (by omega) (Xt _ ca)
 simp only [X0,cK];rw [YaC,YaC,YaD,YaD,Ybq];simp only [Xf,XA,cK];rw [Yan h3,XV (l:=u.cells.toList) (by rw [cK];omega)];rw [Ybi (by omega:i * Z3.k α<=xs.length * Z3.k α),Yan (by omega:i * Z3.k α<=xs.length * Z3.k α)]
end
section
variable {P:Program} {n:Nat} {Q:Exit->Act->World->Prop} {e:Env} {w:World}
theorem Zb8 {id:Nat} {l:List Oper} (m:Nat) (S:List Nat) (Lt:List Nat) (ord:List (Nat×Nat)) (cf:l.length=m) (hm:P.follows .mixedOrders=true) (hs:Region.noSelect l.toArray=true) (hl:Nat.beq (wt ord) l.length=true)
 (hB:Jp l.toArray Lt ord (Array.replicate m false)=true)
 (h:∀ w',Stp [] w w'->w'.heap.size=w.heap.size->WD P n l.toArray S Lt Q ord e w'):WC P n (.region id l.toArray true) Q e w:=by
 subst cf;refine ⟨λa ha=>wp_region_any hm ?_⟩;have h1:=(h { w with drawn:=w.drawn+1 } (Stp.drew [] w) rfl).h _ hs hB a ha;have h2:=Z05 (Q:=Q) (λa w hz=>hz) _ _ _ _ h1;rw [Xk hl] at h2;simpa using h2
def Zgd (w:World) (T:TypeId) (cs:List Value) (v:Value) (w':World):Prop:=v=.pointer (some ⟨w.heap.size,0,none⟩)/\Blk w' w.heap.size T cs/\Stp [] w w'
theorem Zb9 {d:Option Nat} {ty:TypeId} {pos:String} {af:Array Edge} {g:Option (Nat×Bool)} {t:TypeId} {z:Value} [hz:Zer P t z]:OE P n ⟨d,.alloc t,ty,pos,af,g⟩ e w (Zgd w t z.cells.toList):=by
 refine ZF (v:=.pointer (some ⟨w.heap.size,0,none⟩)) (w':=w.alloc (.cells z.cells t)) (λa ha=>?_) ?_;simp [execOp,Instr.alloc,Zer.run,newVar,newRow,newObj];rfl;have h:=Z8C w t z.cells.toList;obtain ⟨b,hb,dx,h1,h2⟩:=h;simp only [Value.pointer.injEq,Xi,Addr.mk.injEq] at hb;obtain ⟨rfl,-⟩:=hb;exact ⟨rfl,by simpa using h1,by simpa using h2⟩
theorem Z99 {o:Oper} {a:Act} {w} {K K':Act->World->Prop} {Q':Exit->Act->World->Prop} (h:∀ a w,K a w->K' a w) (hq:∀ ex a w,Q' ex a w->Q ex a w)
 (hh:o.wp P a w K Q'):o.wp P a w K' Q:=by
 unfold Oper.wp at *;generalize (execOp a.eval o).run P w=r at *;cases r with
 | ok n w'=>
   cases n<;>simp only [Oper.upon] at hh ⊢ <;>
    first
     | exact h _ _ hh
     | exact Calls.mono hh (λe w'' he=>by cases e<;>first|exact h _ _ he|exact hq _ _ _ he|exact he.elim (λa h=>h.elim (λw h=>⟨a,w,hq _ _ _ h⟩)))
     | exact Rows.mono hh (λ_ _ he=>h _ _ he)
 | halt x w'=>cases x<;>simp only [Oper.upon] at hh ⊢<;>first|exact hq _ _ _ hh|exact hh
theorem Z1B {ops:Array Oper} {Q':Exit->Act->World->Prop} (hq:∀ ex a w,Q' ex a w->Q ex a w):∀ (l:List Oper) (a:Act) (w),wpList P ops Q' l a w->wpList P ops Q l a w
 | [],a,w,h=>hq _ _ _ h
 | o :: rest, a, w, h => by
   unfold wpList at h ⊢;split;rename_i hw;rw [if_pos hw] at h;rcases h with h|⟨h1,a',w',h2⟩
   exact .inl (Z99 (λa w h=>Z1B hq rest a w h) hq h);exact .inr ⟨h1,a',w',hq _ _ _ h2⟩;rename_i hw;rw [if_neg hw] at h;exact Z1B hq rest _ _ h
theorem Z2u {y:Code} {σ:Type} {ops:Array Oper} {l:List Oper} (env:σ->Env) (I:σ->World->Prop)
 (h:WL P n ops (Exit.then (λa w=>∃ s,Has n (env s) a/\I s w) Q) l e w) (k:∀ s w,I s w->WC P n y Q (env s) w):WL P n ops (Exit.then (λa w=>y.wp P Q a w) Q) l e w:=
 ⟨λa ha => Z1B (λex a w hq => by
   cases ex with
   | normal=>obtain ⟨s,h1,h2⟩:=hq;exact (k s w h2).h a h1
   | _=>exact hq) l a w (h.h a ha)⟩
end
open Go Go.RowKit Go.Proofs Go.ChangeShapes Go.WideShapes Go.Deep
section
variable {H:Type} {enc:TypeId×Value->H} {P:Program} {w:World} {base:Nat} {spare:Nat->Bool} {aC:Bool}
theorem Z7B (b o n:Nat):(⟨b,o,none⟩:Addr).add n=⟨b,o+n,none⟩:=by
 unfold Addr.add;split;rename_i h;subst h;rfl;rfl
def Zge:DataW H->Nat
 | .slice els _=>els.length
 | _=>0
theorem Z0Z {α:Type} [Z8 α] {ok:α->Prop} {t e:TypeId} {fuel:Nat} {cs:List Value} {x:DataW H×List MemPlace} (ht:P.underlying t=some (.slice e)) (hC:P.cellsOf e=Z8.k α) (ba:0<Z8.k α)
 (jk:∀ n cs' y,cs'.length=Z8.k α->DataW.trod enc P w base spare aC n e cs'=some y->∃ a:α,cs'=Z8.enc a/\ok a)
 (h:DataW.trod enc P w base spare aC fuel t cs=some x):∃ (v:Value) (xs:List α),cs=[v]/\SlV [] w v xs/\(∀ a∈xs,ok a)/\Zge x.1=xs.length:=by
 rcases open_slice ht h with ⟨rfl,rfl⟩|⟨a,len,cap,m,n,D,Pl,rfl,hb,hl,hm,cA,hx,hi⟩
 exact ⟨_,[],rfl,⟨none,0,rfl,Xq _,by simp [maxLen],λ_=>rfl,λi h=>absurd h (Xs _)⟩,by simp,rfl⟩;have cf:len<=m:=by rw [cA];split<;>omega
 have aZ:∀ y:α,∃ u,(Z8.enc y)[0]?=some u:=λy=>⟨_,XP (by rw [Z8.len y];exact ba)⟩
 have ar:∀ i:Fin len,∃ y:α,ok y/\∀ j u,(Z8.enc y)[j]?=some u->w.cell? (a.add (i * Z8.k α+j))=some u:=by
  intro i;obtain ⟨cs',hc,pg⟩:=hi i (by omega);rw [hC] at hc;obtain ⟨_,bD,gK⟩:=World.cells?_some hc;obtain ⟨y,rfl,aF⟩:=jk n cs' _ bD pg;refine ⟨y,aF,λj u hu=>?_⟩;have hj:j<Z8.k α:=by
   have:=(Xu.1 hu).1;rw [Z8.len] at this;exact this
  have:=gK j hj;rw [hu] at this;rw [<- this,Go.Deep.add_add]
 let f:Fin len->α:=λi=>(ar i).choose
 have hf:∀ i:Fin len,ok (f i)/\∀ j u,(Z8.enc (f i))[j]?=some u->w.cell? (a.add (i * Z8.k α+j))=some u:=λi=>(ar i).choose_spec;refine ⟨_,List.ofFn f,rfl,⟨some a,cap,by simp,by simpa using hl,hm,by simp,λi bh=>?_⟩,λy hy=>?_,by rw [hx];simp [Zge]⟩;have gX:i<len:=by simpa using bh
 have ni:=(hf ⟨i,gX⟩).2;obtain ⟨u1,pj⟩:∃ u,(Z8.enc (f ⟨0,by omega⟩))[0]?=some u:=aZ _;have aU:=(hf ⟨0,by omega⟩).2 0 u1 pj;obtain ⟨u0,jl⟩:∃ u,(Z8.enc (f ⟨i,gX⟩))[0]?=some u:=aZ _;have dU:=ni 0 u0 jl;have cF:a.spot=none:=by
  have e0:a.add ((⟨0,by omega⟩:Fin len).val * Z8.k α+0)=a:=by simp [Addr.add]
  rw [e0] at aU;unfold World.cell? at aU;split at aU
  . cases hs:a.spot with
    | none=>rfl
    | some s=>simp [hs] at aU
  cases aU
 obtain ⟨b,o,sp⟩:=a;cases cF;refine ⟨b,o,Z8.enc (f ⟨i,gX⟩),rfl,?_,by simp,?_,λj u hu=>?_⟩;have:=block_lt_of_cell (a:=(⟨b,o,none⟩:Addr).add (i * Z8.k α+0)) dU;simpa [Z7B] using this;simp;rfl;have:=ni j u hu;rw [Z7B] at this;rw [show o+i * Z3.k α+j=o+(i * Z8.k α+j) from YaA _ _ _];exact this;obtain ⟨i,rfl⟩:=List.mem_ofFn.1 hy;exact (hf i).1
theorem Z4V {e:TypeId} {fs:Array Field} {fuel:Nat} {cs:List Value} {x:DataW H×List MemPlace} (he:P.underlying e=some (.struct fs)) (bP:oneCellFields P fs=true) (bD:cs.length=fs.size)
 (fB:∀ (j:Nat) (f:Field),fs[j]?=some f->P.underlying f.type=some (.int .i64)) (h:DataW.trod enc P w base spare aC fuel e cs=some x):∀ j (hj:j<cs.length),∃ z:Int,cs[j]=.I z/\I64 z:=by
 intro j hj;obtain ⟨ys,n',kh,hy,ai,dL,hf⟩:=DataW.trod_struct he h;have pk:j<fs.size:=by omega
 have lp:fs[j]?=some fs[j]:=Array.getElem?_eq_getElem pk;obtain ⟨ho,hk⟩:=hone_of bP j fs[j] lp;have h1:=hf j fs[j] lp;rw [ho,hk] at h1;have jm:(cs.drop j).take 1=[cs[j]]:=by
  rw [XI hj];rfl
 rw [jm] at h1;have bR:ys[j]?=some (ys[j]'(by omega)):=XP (by omega);rw [bR] at h1;obtain ⟨z,hz,_,hw⟩:=DataW.trod_int (fB j _ lp) h1;refine ⟨z,by simpa using hz,?_⟩;simpa [I64,Lit.wf,IntKind.min,IntKind.max,IntKind.signed,IntKind.bits] using hw
def Zkl:Option TypeDesc->Bool
 | some (.int .i64)=>true
 | _=>false
theorem Zba {d:Option TypeDesc} (h:Zkl d=true):d=some (.int .i64):=by
 unfold Zkl at h;split at h;rfl;cases h
def Z5W (P:Program) (e k:Nat):Bool:=
 match P.underlying e with
 | some (.struct fs)=>oneCellFields P fs && fs.size == k && fs.all (λf=>Zkl (P.underlying f.type))
 | _=>false
theorem Z0I {e k:Nat} {fuel:Nat} {cs:List Value} {x:DataW H×List MemPlace} (hs:Z5W P e k=true) (bD:cs.length=k) (h:DataW.trod enc P w base spare aC fuel e cs=some x) :
 ∃ zs:List Int,zs.length=k/\cs=zs.map (Value.int .i64)/\∀ z∈zs,I64 z:=by
 unfold Z5W at hs;split at hs
 . rename_i fs he
   simp only [Xa,beq_iff_eq] at hs;obtain ⟨⟨bP,hk⟩,ar⟩:=hs;have fB:∀ (j:Nat) (f:Field),fs[j]?=some f->P.underlying f.type=some (.int .i64):=by
    intro j f hj;obtain ⟨hlt,rfl⟩:=Xx.1 hj;exact Zba (Array.all_eq_true.1 ar j hlt)
   have hz:=Z4V he bP (by omega) fB h;clear h he bP fB ar;refine (?_:∀ (cs:List Value),(∀ j (hj:j<cs.length),∃ z:Int,cs[j]=.I z/\I64 z)->∃ zs:List Int,zs.length=cs.length/\cs=zs.map (Value.int .i64)/\∀ z∈zs,I64 z) cs hz |> λ⟨zs,h1,h2,h3⟩=>⟨zs,by omega,h2,h3⟩
   intro cs
   induction cs with
   | nil=>intro _;exact ⟨[],rfl,rfl,by simp⟩
   | cons c r ih=>
     intro hz;obtain ⟨z,e1,e2⟩:=hz 0 (by simp);obtain ⟨zs,h1,h2,h3⟩:=ih (λj hj=>by
      have:=hz (j+1) (by simpa using hj);simpa using this)
     exact ⟨z :: zs,by simp [h1],by simp at e1;simp [e1,<- h2],by
      intro y hy;rcases Xg.1 hy with rfl|hy
      exact e2;exact h3 y hy⟩
 cases hs
theorem ZdD {t e:TypeId} {fuel:Nat} {cs:List Value} {x:DataW H×List MemPlace} (ht:P.underlying t=some (.slice e)) (hC:P.cellsOf e=1) (he:P.underlying e=some (.int .i64))
 (h:DataW.trod enc P w base spare aC fuel t cs=some x):∃ (v:Value) (xs:List Int),cs=[v]/\SlV [] w v xs/\(∀ a∈xs,I64 a)/\Zge x.1=xs.length:=
 Z0Z (α:=Int) ht hC (by decide) (λn cs' y hl hy=>by
  obtain ⟨z,rfl,_,hw⟩:=DataW.trod_int he hy;exact ⟨z,rfl,by simpa [I64,Lit.wf,IntKind.min,IntKind.max,IntKind.signed,IntKind.bits] using hw⟩) h
end
section
variable {H:Type} {enc:TypeId×Value->H} {P:Program}
def Zao (P:Program) (ts:List TypeId):Bool:=ts.all λt=>P.readableRec t && decide (t<P.types.size)
theorem Z2K (hl:laidOutB P=true) {W W':World} (hb:Below W.heap.size W W') {sp:Nat->Bool}:∀ {ts:List TypeId} {vs:List Value} {ds:List (DataW H)} {ps:List MemPlace},Zao P ts=true->
 DataW.TrodAll enc P W 0 (λ_=>true) true ts vs ds ps->(∀ x∈ps,x.block<W.heap.size)->(∀ x∈ps,sp x.block=true)->DataW.TrodAll enc P W' 0 sp true ts vs ds ps
 | [],[],[],_,_,h,_,_=>h
 | t :: ts, v :: vs, d :: ds, ps, hr, h, hlt, hs => by
   obtain ⟨p,q,h1,h2,rfl⟩:=h;simp only [Zao,List.all_cons,Xa,decide_eq_true_eq] at hr;obtain ⟨⟨r1,r2⟩,r3⟩:=hr;exact ⟨p,q,WideElems.Trod_stays hl r1 r2 h1 (λx hx=>hb.same (hlt x (by simp [hx]))) (λx hx=>hs x (by simp [hx])),Z2K hl hb (by simpa [Zao] using r3) h2 (λx hx=>hlt x (by simp [hx])) (λx hx=>hs x (by simp [hx])),rfl⟩
 | [],_ :: _,_,_,_,h,_,_=>h.elim
 | [],[],_ :: _,_,_,h,_,_=>h.elim
 | _ :: _,[],_,_,_,h,_,_=>h.elim
 | _ :: _,_ :: _,[],_,_,h,_,_=>h.elim
section
variable {f:Func} {s:ChangeSpec} {apart fresh handsOn again:Bool} {W W':World} {args:Array Value} {v:Value} {ds gs:List (DataW H)} {before pa pv:List MemPlace}
theorem Z5A
 (hW:DataW.Whole enc P f.params.toList s.vars apart W args.toList ds gs before)
 (cq:∀ (b:Nat) (sp:Nat->Bool) (hd:Bool),DataW.TrodAll enc P W' b sp hd f.resultTypes.toList (v.resultList f.resultTypes.size) (s.fn H (ds++gs)).results [])
 (gf:∀ sp:Nat->Bool,(∀ p∈before,sp p.block=true)->DataW.TrodAll enc P W' 0 sp true f.params.toList args.toList (s.fn H (ds++gs)).args pa)
 (gg:∀ sp:Nat->Bool,(∀ p∈before,sp p.block=true)->DataW.TrodVars enc P W' sp s.vars (s.fn H (ds++gs)).vars pv)
 (eY:before=pa++pv) (hb:Below W.heap.size W W')
 (aF:∀ (j:Nat) (t:TypeId) (r:Value),f.resultTypes[j]?=some t->(v.resultList f.resultTypes.size)[j]?=some r->Value.okWide P W' .any 0 t r) :
 s.post enc P f apart fresh handsOn again W args v W':=by
 have hlt:∀ p∈before,p.block<W.heap.size:=λp hp=>hW.lt p hp;have eH:∀ p∈before,(λb=>decide (b<W.heap.size)) p.block=true:=λp hp=>by simpa using hlt p hp
 refine ⟨ds,gs,before,[],pa,pv,hW,cq _ _ _,gf _ eH,gg _ eH,World.keptBut_mono (λp hp=>⟨hp,?_⟩) (hb.frame (·∈before)),λ_=>?_⟩;rw [eY,Xd] at hp;exact Or.inr hp;obtain ⟨_,_,_,_,_,hz,hn⟩:=hW;refine ⟨aF,_,_,([]++pa)++pv,⟨[]++pa,pv,trodAll_append (gf _ (λ_ _=>rfl)) (cq _ _ _),gg _ (λ_ _=>rfl),rfl,?_,?_⟩,?_⟩;intro b off hp;have bB:MemPlace.cell b off∈before:=by rw [eY];simpa using hp
 rw [hb.frozen (hlt _ bB)];exact hz b off bB;intro ha;have:=hn ha;rw [eY] at this;simpa using this;intro p hp _;rw [eY];simpa using hp
end
def Zgf (s:ChangeSpec) (k:Nat):Prop:=s.vars=[]/\∀ (H:Type) (ds:List (DataW H)),ds.length=k->(s.fn H ds).results=[.lit (.bool true)]/\(s.fn H ds).args=ds/\(s.fn H ds).vars=[]
theorem Z45 {W:World} {base:Nat} {sp:Nat->Bool} {hd:Bool}:∀ {ts:List TypeId} {vs:List Value} {ds:List (DataW H)} {ps:List MemPlace},DataW.TrodAll enc P W base sp hd ts vs ds ps->ds.length=ts.length
 | [],[],[],_,_=>rfl
 | t :: ts, v :: vs, d :: ds, ps, h => by
   obtain ⟨p,q,h1,h2,rfl⟩:=h;simp [Z45 h2]
 | [],_ :: _,_,_,h=>h.elim
 | [],[],_ :: _,_,h=>h.elim
 | _ :: _,[],_,_,h=>h.elim
 | _ :: _,_ :: _,[],_,h=>h.elim
theorem Znv {fn:Func} {K tb:Nat} {s:ChangeSpec} {fresh handsOn again:Bool} {W:World} {args:Array Value} {ds gs:List (DataW H)} {before:List MemPlace} (hl:laidOutB P=true) (hr:Zao P fn.params.toList=true)
 (cq:fn.resultTypes=#[tb]) (hb:P.underlying tb=some .bool) (hs:Zgf s fn.params.size)
 (hW:DataW.Whole enc P fn.params.toList s.vars false W args.toList ds gs before) (hc:Calls P K args W (Ret λr w'=>r=.bool true/\Stp [] W w')) :
 Calls P K args W λe W'=>∃ v,e=.returned v/\s.post enc P fn false fresh handsOn again W args v W':=by
 refine hc.mono ?_;rintro _ w' ⟨_,rfl,rfl,hS⟩;refine ⟨_,rfl,?_⟩;have nj:=hW;obtain ⟨p,q,hA,hV,lq,rB,mV⟩:=hW;rw [hs.1] at hV;obtain ⟨rfl,rfl⟩:=trodVars_none hV;have ai:(ds++[]).length=fn.params.size:=by simpa using Z45 hA
 obtain ⟨s1,s2,s3⟩:=hs.2 H (ds++[]) ai;have hlt:∀ x∈before,x.block<W.heap.size:=λx hx=>nj.lt x hx;refine Z5A (pa:=p) (pv:=[]) nj (λb sp hd=>?_) (λsp cF=>?_) (λsp _=>?_) lq hS.below ?_;rw [s1,cq];exact trodAll_mk1 ⟨1,by simp [DataW.trod,Value.cells,hb]⟩;rw [s2];simp only [XE] at lq ⊢;subst lq;exact Z2K hl hS.below hr hA hlt cF;rw [s3,hs.1];rfl;exact ok_one cq rfl (by simp [Value.okWide,hb,Cell.okWide,Cell.ok])
end
section
variable {H:Type} {enc:TypeId×Value->H}
theorem ZdE {a:Assume} {C:Checked} {os:Os} {f:FuncId} {fn:Func} {s:ChangeSpec} {conds:List PathCond} {apart fresh handsOn again:Bool} {X:World->Array Value->Prop}
 (hX:∀ (w w':World) (args:Array Value),w.heap=w'.heap->X w args->X w' args)
 (own:ownKnob C.prog.godebug=none) (started:os.Started) (noInit:C.prog.inits.idxOf? f=none) (ls:C.prog.funcs[f]?=some fn)
 (witness : ∃ (w : World) (tape : Tape) (i : Input), w.os = os /\ (w.forCall tape i).Shaped C.prog /\ i.vars = [] /\ Input.okWide C.prog (w.forCall tape i) .any w.heap.size f i/\
   ((s.pre enc C.prog fn conds apart (w.forCall tape i).memory i.args/\X (w.forCall tape i).memory i.args)/\sizedMet enc C.prog fn (OpenSpec.ofChange s) apart (w.forCall tape i).memory i.args)/\a.holds C.prog (lone (Frame.enter C.prog f i.args .normal) [] (w.forCall tape i)))
 (contract : ∀ (W : World) (base : Nat) (args : Array Value) (ds gs : List (DataW H)) (before : List MemPlace),
   (∀ (j:Nat) t v,fn.params[j]?=some t->args[j]?=some v->Value.okWide C.prog W .any base t v)->
   DataW.Whole enc C.prog fn.params.toList s.vars apart W args.toList ds gs before->
   (DataW.weightsEach C.prog (fn.params.toList++s.plain.varTypes C.prog) (ds++gs)).all (·<=reachBytes)=true->X W args->W.ShapedOpen C.prog->
   Calls C.prog f args W λe W'=>∃ v,e=.returned v/\s.post enc C.prog fn apart fresh handsOn again W args v W') :
 ReturnsInHanded a C os f .any (λw args=>(s.pre enc C.prog fn conds apart w args/\X w args)/\sizedMet enc C.prog fn (OpenSpec.ofChange s) apart w args) (s.post enc C.prog fn apart fresh handsOn again):=by
 refine returnsInHanded_of_calls own started noInit witness ?_;intro w tape i _ cE _ aF dm hholds;obtain ⟨_,_,_,fn',lu,_,_,_,_,lw⟩:=aF;have e:fn'=fn:=XT (lu.symm.trans ls);subst e;obtain ⟨⟨⟨ds,gs,before,hw,hc⟩,hx⟩,hz⟩:=dm;have pm:=DataW.Whole.of_heap (w':=w.forCall tape i) (by rfl) hw;refine (contract (w.forCall tape i) w.heap.size i.args ds gs before lw pm (hz.weights hw) (hX _ _ _ (by rfl) hx) cE).mono λe W' ⟨v,he,hp⟩=>?_
 subst he;exact ChangeSpec.post_blind hp
end
instance:Z8 UInt8 where
 k:=1
 enc:=λb=>[.int .u8 (b.toNat:Int)]
 len:=λ_=>rfl
 one:=by intro x u hu;simp at hu;subst hu;rfl
section
variable {P:Program} {n:Nat} {e:Env} {w:World} {d:Option Nat} {ty:TypeId} {pos:String} {af:Array Edge} {g:Option (Nat×Bool)}
theorem ZdF {src dst el:TypeId} {x:Operand} {s:Str} [hs:Und P src .string] [hd:Und P dst (.slice el)] [he:Und P el (.int .u8)] (hx:ev e x=some (str s)) (hl:s.length<=1000000) :
 OE P n ⟨d,.convert src dst x,ty,pos,af,g⟩ e w (λv w'=>(∀ X:List Nat,(∀ b∈X,b<w.heap.size)->SlV X w' v s)/\Stp [] w w'):=by
 refine ZF (v:=.slice (some ⟨w.heap.size,0,none⟩) s.length (grownCap w s.length 0 el)) (w':=Go.Lib.bytesWorld w el ⟨s.toArray⟩) (λa ha=>?_) ⟨λX hX=>?_,?_⟩;have h:=Go.Lib.run_convert_string_bytes (P:=P) w src dst el ⟨s.toArray⟩ hs.h hd.h he.h;simp only [Jb] at h;simp [execOp,ha.ev hx,h];refine ⟨some ⟨w.heap.size,0,none⟩,_,rfl,grownCap_ge w _ _ _,grownCap_le_maxLen w _ _ _ (by simp [maxLen];omega),(λh=>by cases h),λi hi=>⟨w.heap.size,0,Z8.enc s[i],rfl,?_,λh=>by have:=hX _ h;omega,rfl,λj u hu=>?_⟩⟩;rw [Go.Lib.bytesWorld_size];omega;have hj:j=0:=by
  have:=(Xu.1 hu).1;simp [Z8.enc] at this;exact this
 subst hj;have hc:=Go.Lib.bytesWorld_cell w el ⟨s.toArray⟩ i (by rw [Jb];exact hi);simp only [Z8.enc,List.getElem?_cons_zero,Xi] at hu;subst hu;have e1:(0+i * Z3.k UInt8+0)=i:=by show 0+i * 1+0=i;omega
 rw [e1,hc];simp [List.getD,hi];refine ⟨rfl,rfl,rfl,?_,λb hb _=>Go.Lib.bytesWorld_at_old w el _ b hb⟩;rw [Go.Lib.bytesWorld_size];omega
end
section
variable {P:Program} {n:Nat} {e:Env} {w:World} {d:Option Nat} {ty:TypeId} {pos:String} {af:Array Edge} {g:Option (Nat×Bool)}
theorem Zgg {src dst:TypeId} {k k':IntKind} {x:Operand} {a:Int} {D:TypeDesc} [hs:Und P src D] [hd:Und P dst (.int k)] (hx:ev e x=some (.int k' a)) :
 PR P n ⟨d,.convert src dst x,ty,pos,af,g⟩ e w (.int k (k.wrap a)):=
 ⟨λc ha => by
   have hk:P.intKind dst=k:=by simp [Program.intKind,hd.h]
   have:=run_convert_int (P:=P) w src dst k' a (by rw [hs.h];rfl) (by rw [hk];exact hd.h);simp [execOp,ha.ev hx,this,hk]⟩
section
variable {x y:Operand} {t u:TypeId} {k:IntKind} {a b:Int}
theorem Zgh (hx:ev e x=some (.int k a)) (hy:ev e y=some (.int k b)) {r:Int} (hr:k.wrap (a+b)=r):PR P n ⟨d,.binOp .add t x y u,ty,pos,af,g⟩ e w (.int k r):=
 ⟨λc ha=>by simp only [execOp,ha.ev hx,ha.ev hy];simp [go_sem,Op.intArith,hr]⟩
theorem Zgi (hx:ev e x=some (.int k a)) (hy:ev e y=some (.int k b)) {r:Int} (hr:k.wrap (a - b)=r):PR P n ⟨d,.binOp .sub t x y u,ty,pos,af,g⟩ e w (.int k r):=
 ⟨λc ha=>by simp only [execOp,ha.ev hx,ha.ev hy];simp [go_sem,Op.intArith,hr]⟩
theorem Zgj (hx:ev e x=some (.int k a)) (hy:ev e y=some (.int k b)) {r:Int} (hr:k.wrap (a * b)=r):PR P n ⟨d,.binOp .mul t x y u,ty,pos,af,g⟩ e w (.int k r):=
 ⟨λc ha=>by simp only [execOp,ha.ev hx,ha.ev hy];simp [go_sem,Op.intArith,hr]⟩
theorem Zgk (hx:ev e x=some (.int k a)) (hy:ev e y=some (.int k b)) (hb:b≠0) {r:Int} (hr:a.tmod b=r):PR P n ⟨d,.binOp .rem t x y u,ty,pos,af,g⟩ e w (.int k r):=
 ⟨λc ha=>by simp only [execOp,ha.ev hx,ha.ev hy];simp [go_sem,Op.intDiv,hb];try rw [hr]⟩
theorem Zgl (hx:ev e x=some (.int k a)) (hy:ev e y=some (.int k b)) (hb:b≠0) {r:Int} (hr:k.wrap (a.tdiv b)=r):PR P n ⟨d,.binOp .quo t x y u,ty,pos,af,g⟩ e w (.int k r):=
 ⟨λc ha=>by simp only [execOp,ha.ev hx,ha.ev hy];simp [go_sem,Op.intDiv,hb];try rw [hr]⟩
end
end
end Go.Eng
namespace Go.Proofs.YteibicnbkggiiaaGreatDoor
open Go Go.Eng Go.RowKit Go.Proofs
def Z1n:List Int:=[0,31,28,31,30,31,30,31,31,30,31,30,31]
def Z0o (w:World):Prop:=∀ i u,Z1n[i]?=some u->w.cell? ⟨1,i,none⟩=some (.I u)
theorem Z0o.ext {S:List Nat} {w w':World} (h:Z0o w) (hS:Stp S w w') (hb:1∉S):Z0o w':=λi u hu=>hS.cell hb (h i u hu)
theorem Z0o.up {w w':World} (h:Z0o w) (hS:Stp [] w w'):Z0o w':=h.ext hS (by simp)
theorem ZdG (y:Int) (w) (h0:0<=y) (h1:y<=100000):CC 218 #[.I y] w λr w'=>r=.B (JQ y)/\w'=w:=by
 unfold JQ;refine cW1 16 Tryz.func218 ?_;repeat'(first|refine W1 ?_|omega|refine VG ?_ ?_<;>intro hg|refine VC ?_ ?_<;>intro hc)
 all_goals refine WR ?_
 all_goals refine .mk ⟨?_,rfl⟩
 all_goals congr 1
 all_goals (first|done|(rw [YaX];simp;omega)|(simp [*]))
theorem Z2V (y m:Int) (w) (hL:Z0o w) (h0:0<=y) (h1:y<=100000):CC 165 #[.I y,.I m] w λr w'=>r=.I (ZD y m)/\w'=w:=by
 unfold ZD;refine cW2 22 Tryz.func165 ?_;by_cases hm:m<1\/12<m
 . rw [if_pos hm]
   repeat'(first|refine W1 ?_|omega|refine VG ?_ ?_<;>intro hg|refine VC ?_ ?_<;>intro hc)
   all_goals refine WR ?_
   all_goals exact .mk ⟨rfl,rfl⟩
 rw [if_neg hm];obtain ⟨k,rfl⟩:∃ k:Nat,m=(k:Int):=⟨m.toNat,by omega⟩
 have hk:k<13:=by omega
 have an:w.cell? ⟨1,0+k * 1,none⟩=some (.I (Z1n.getD k 0)):=hL _ _ (by
  have:k<Z1n.length:=hk;simp [List.getD,this])
 by_cases h2:(k:Int)=2;rw [if_pos h2];refine QO ?_;refine CL (ZdG y _ h0 h1) ?_;rintro _ _ ⟨rfl,rfl⟩;cases hl:JQ y;refine W ?_;refine Zf (Jo rfl rfl an) rfl ?_;refine W ?_;refine WR ?_;obtain rfl:k=2:=by omega
 exact .mk ⟨rfl,rfl⟩;refine RT ?_;exact ⟨rfl,rfl⟩;rw [if_neg h2];refine QO ?_;refine Zf (Jo rfl rfl an) rfl ?_;refine W ?_;refine WR ?_;refine .mk ⟨?_,rfl⟩;congr 1;have:k=1\/k=3\/k=4\/k=5\/k=6\/k=7\/k=8\/k=9\/k=10\/k=11\/k=12:=by omega
 rcases this with rfl|rfl|rfl|rfl|rfl|rfl|rfl|rfl|rfl|rfl|rfl<;>rfl
abbrev ZdH (y m d:Int):Value:=.agg #[.I y,.I m,.I d]
def Z0T (y m d:Int):Prop:=y<1\/9999<y\/m<1\/12<m\/d<1\/ZD y m<d
instance (y m d:Int):Decidable (Z0T y m d):=by unfold Z0T;infer_instance
theorem Z9a (y m d:Int) (w) (hL:Z0o w):CC 215 #[ZdH y m d] w λr w'=>r=.I (if Z0T y m d then 5 else 0)/\Stp [] w w':=by
 refine cW1 36 Tryz.func215 ?_;refine W ?_;refine Z1 (Zp rfl) rfl ?_;rintro _ w1 ⟨b,rfl,hb,ab,hS⟩;replace ab:Blk w1 b 237 [.I y,.I m,.I d]:=ab;replace hL:=hL.up hS;refine W ?_;refine ZDr 33 [] [] [(0,0),(1,1),(2,0),(3,0),(4,0),(5,1),(6,0),(7,0),(8,0),(9,0),(10,1),(11,0),(12,0),(13,0),(14,0),(15,1),(16,0),(17,0),(18,0),(19,0),(20,1),(21,0),(22,0),(23,0),(24,0),(25,1),(26,0),(27,1),(28,0),(29,1),(30,2),(31,0),(32,0)] (λw1 ae=>?_);replace ab:=ab.up ae;replace hL:=hL.up ae;replace hS:=hS.trans ae;clear ae;by_cases hg:y<1\/9999<y\/m<1\/12<m\/d<1
 . have cd:Z0T y m d:=by unfold Z0T;omega
   rw [if_pos cd];repeat'(first|refine D1 ?_|omega|refine Z6 rfl rfl rfl rfl (λhg=>?_) (λhg=>?_)|(refine Z2 rfl rfl rfl rfl (λhg=>?_) (λhg=>?_)<;>refine D1 ?_)|fail)
   all_goals refine QO ?_
   all_goals refine WR ?_
   all_goals exact .mk ⟨rfl,hS⟩
 . refine QD ?_
   refine Z7 rfl rfl (Z4 rfl (Zj rfl rfl) (Z2V y m _ hL (by omega) (by omega))) (λ_ _ h=>by rw [h.2];exact Stp.refl _ _) rfl ?_;rintro _ w3 ⟨rfl,rfl⟩;refine QD ?_;all_goals (refine QP ?_ ?_<;>intro hc)
   refine RU ?_;exact ⟨by rw [if_pos (by unfold Z0T;omega)],hS⟩;refine RU ?_;exact ⟨by rw [if_neg (by unfold Z0T;omega)],hS⟩
theorem Z4W (y m d:Int) (w) (hy:0<=y) (cO:y<=100000) (hm:1<=m) (dk:m<=12) (hd:0<=d) (pn:d<=100000) (h1:m - 3<0->1<=y):CC 216 #[ZdH y m d] w λr w'=>r=.I (JC y m d)/\Stp [] w w':=by
 refine cW1 36 Tryz.func216 ?_;refine W ?_;refine Z1 (Zp rfl) rfl ?_;rintro _ w1 ⟨b,rfl,hb,ab,hS⟩;replace ab:Blk w1 b 237 [.I y,.I m,.I d]:=ab;refine W ?_;refine ZDr 7 [] [] [(0,0),(1,1),(2,0),(3,1),(4,0),(5,0),(6,0)] (λw1 ae=>?_);replace ab:=ab.up ae;replace hS:=hS.trans ae;clear ae;refine D ?_
 (refine QP ?_ ?_<;>intro hc)
 all_goals refine WR ?_
 all_goals refine .mk ⟨?_,hS⟩
 all_goals unfold JC
 rw [if_pos (by assumption)];congr 1;dsimp only;omega;rw [if_neg (by assumption)]
theorem Z7C (y m d:Int) (w) (hL:Z0o w):CC 161 #[ZdH y m d] w λr w'=>r=.tuple #[.I (if Z0T y m d then 0 else JC y m d),.I (if Z0T y m d then 5 else 0)]/\Stp [] w w':=by
 refine cW1 12 Tryz.func161 ?_;refine W ?_;refine Z1 (Zp rfl) rfl ?_;rintro _ w1 ⟨b,rfl,hb,ab,hS⟩;replace ab:Blk w1 b 237 [.I y,.I m,.I d]:=ab;replace hL:=hL.up hS;refine W ?_;refine CL (Z9a y m d _ hL) ?_;rintro _ w2 ⟨rfl,hT⟩;replace ab:=ab.up hT;replace hS:=hS.trans hT;clear hT;by_cases cd:Z0T y m d;rw [if_pos cd,if_pos cd];refine RT ?_;exact ⟨rfl,hS⟩;rw [if_neg cd,if_neg cd];refine W ?_;have np:=Z4U y m;unfold Z0T at cd;refine CM (ZN rfl) (Z4W y m d _ (by omega) (by omega) (by omega) (by omega) (by omega) (by omega) (by omega)) ?_;rintro _ w3 ⟨rfl,hT⟩;refine RT ?_;exact ⟨rfl,hS.trans hT⟩
end Go.Proofs.YteibicnbkggiiaaGreatDoor
namespace Go.Eng
open Go Go.RowKit Go.Proofs
end Go.Eng
namespace Go.Proofs.YteibicnbkggiiaaGreatDoor
open Go Go.Eng Go.RowKit Go.Proofs
theorem Z4t (y m d:Int) (w):(Instr.build 237 #[(0,.I y),(1,.I m),(2,.I d)]).run Tryz.prog w=.ok (ZdH y m d) w:=by kernel_rfl
end Go.Proofs.YteibicnbkggiiaaGreatDoor
namespace Go.Proofs
theorem fxT {P:Go.Program} {f:Nat} {a b:Go.Func} (h:P.funcs[f]?=some a) (e:a=b:=by kernel_rfl):P.funcs[f]?=some b:=h.trans (congrArg some e)
open Go.Shelf
def Tryz.lays137_ren:Go.Shelf.Ren:=⟨fun|137=>272|217=>304|266=>331|n=>n,fun|9=>9|5=>5|3=>3|n=>n,fun|n=>n⟩
theorem Tryz.lays137:Go.Proofs.Lays.n137 Tryz.prog Tryz.lays137_ren:={
 mixed:=by kernel_rfl
 f137:=fxT Tryz.func272
 f217:=fxT Tryz.func304
 f266:=fxT Tryz.func331
 t3:=Tryz.underlying3
 a3:=Tryz.isAgg3
 z3:=Tryz.sizeOf3
 v3:=Tryz.zeroValue3
 t5:=Tryz.underlying5
 a5:=Tryz.isAgg5
 z5:=Tryz.sizeOf5
 v5:=Tryz.zeroValue5
 t9:=Tryz.underlying9
 a9:=Tryz.isAgg9
 z9:=Tryz.sizeOf9
 v9:=Tryz.zeroValue9 }
open Go.RowKit in
theorem Tryz.strings_IndexByte (s:ByteArray) (c:Int) (w:World) :
 Calls Tryz.prog 272 #[.string s,.int .u8 c] w λe w'=>e=.returned (.int .i64 (Lib.indexByte s.data.toList c.toNat.toUInt8))/\w'=w:=Any.strings_IndexByte Tryz.lays137 s c w
def Tryz.lays172_ren:Go.Shelf.Ren:=⟨fun|172=>275|244=>308|245=>309|247=>332|279=>333|280=>334|281=>335|282=>336|287=>344|316=>345|171=>347|205=>346|321=>360|322=>361|243=>362|246=>367|283=>371|284=>372|285=>373|286=>374|129=>128|317=>376|318=>377|319=>378|320=>379|337=>381|338=>382|n=>n,fun|9=>9|3=>3|75=>321|76=>322|4=>4|5=>5|167=>363|37=>287|0=>0|85=>364|2=>2|168=>366|53=>206|175=>378|46=>157|210=>382|127=>394|145=>397|143=>395|21=>21|171=>405|173=>407|212=>410|51=>204|20=>20|213=>411|232=>412|233=>413|80=>252|n=>n,fun|15=>3|16=>4|17=>6|18=>7|19=>8|n=>n⟩
def Tryz.laysC172_ren:Go.Shelf.Ren:=⟨fun|172=>275|244=>308|245=>309|247=>332|279=>333|280=>334|281=>335|282=>336|287=>344|316=>345|171=>347|205=>346|321=>360|322=>361|243=>362|246=>367|283=>371|284=>372|285=>373|286=>374|129=>128|317=>376|318=>377|319=>378|320=>379|337=>381|338=>382|n=>n,fun|9=>9|3=>3|75=>321|76=>322|4=>4|5=>5|167=>363|37=>287|0=>0|85=>364|2=>2|168=>366|53=>206|175=>378|46=>157|210=>382|127=>394|145=>397|143=>395|21=>21|171=>405|173=>407|212=>410|51=>204|20=>20|213=>411|232=>412|233=>413|80=>252|n=>n,fun|15=>3|16=>4|17=>6|18=>7|19=>8|n=>n⟩
theorem Tryz.laysC172:Go.Proofs.LaysC.n172 Tryz.prog Tryz.laysC172_ren:={
 mixed:=by kernel_rfl
 f129:=fxT Tryz.func128
 f171:=fxT Tryz.func347
 f172:=fxT Tryz.func275
 f205:=fxT Tryz.func346
 f243:=fxT Tryz.func362
 f244:=fxT Tryz.func308
 f245:=fxT Tryz.func309
 f246:=fxT Tryz.func367
 f247:=fxT Tryz.func332
 f279:=fxT Tryz.func333
 f280:=fxT Tryz.func334
 f281:=fxT Tryz.func335
 f282:=fxT Tryz.func336
 f283:=fxT Tryz.func371
 f284:=fxT Tryz.func372
 f285:=fxT Tryz.func373
 f286:=fxT Tryz.func374
 f287:=fxT Tryz.func344
 f316:=fxT Tryz.func345
 f317:=fxT Tryz.func376
 f318:=fxT Tryz.func377
 f319:=fxT Tryz.func378
 f320:=fxT Tryz.func379
 f321:=fxT Tryz.func360
 f322:=fxT Tryz.func361
 f337:=fxT Tryz.func381
 f338:=fxT Tryz.func382
 t0:=Tryz.underlying0
 a0:=Tryz.isAgg0
 z0:=Tryz.sizeOf0
 v0:=Tryz.zeroValue0
 t2:=Tryz.underlying2
 a2:=Tryz.isAgg2
 z2:=Tryz.sizeOf2
 v2:=Tryz.zeroValue2
 t3:=Tryz.underlying3
 a3:=Tryz.isAgg3
 z3:=Tryz.sizeOf3
 v3:=Tryz.zeroValue3
 t4:=Tryz.underlying4
 a4:=Tryz.isAgg4
 z4:=Tryz.sizeOf4
 v4:=Tryz.zeroValue4
 t5:=Tryz.underlying5
 a5:=Tryz.isAgg5
 z5:=Tryz.sizeOf5
 v5:=Tryz.zeroValue5
 t9:=Tryz.underlying9
 a9:=Tryz.isAgg9
 z9:=Tryz.sizeOf9
 v9:=Tryz.zeroValue9
 t20:=Tryz.underlying20
 a20:=Tryz.isAgg20
 z20:=Tryz.sizeOf20
 v20:=Tryz.zeroValue20
 t21:=Tryz.underlying21
 a21:=Tryz.isAgg21
 z21:=Tryz.sizeOf21
 v21:=Tryz.zeroValue21
 t37:=Tryz.underlying287
 a37:=Tryz.isAgg287
 z37:=Tryz.sizeOf287
 v37:=Tryz.zeroValue287
 t46:=Tryz.underlying157
 a46:=Tryz.isAgg157
 z46:=Tryz.sizeOf157
 v46:=Tryz.zeroValue157
 t51:=Tryz.underlying204
 a51:=Tryz.isAgg204
 z51:=Tryz.sizeOf204
 v51:=Tryz.zeroValue204
 t53:=Tryz.underlying206
 a53:=Tryz.isAgg206
 z53:=Tryz.sizeOf206
 v53:=Tryz.zeroValue206
 t75:=Tryz.underlying321
 a75:=Tryz.isAgg321
 z75:=Tryz.sizeOf321
 v75:=Tryz.zeroValue321
 t76:=Tryz.underlying322
 a76:=Tryz.isAgg322
 z76:=Tryz.sizeOf322
 v76:=Tryz.zeroValue322
 t85:=Tryz.underlying364
 a85:=Tryz.isAgg364
 z85:=Tryz.sizeOf364
 v85:=Tryz.zeroValue364
 t127:=Tryz.underlying394
 a127:=Tryz.isAgg394
 z127:=Tryz.sizeOf394
 v127:=Tryz.zeroValue394
 t143:=Tryz.underlying395
 a143:=Tryz.isAgg395
 z143:=Tryz.sizeOf395
 v143:=Tryz.zeroValue395
 t145:=Tryz.underlying397
 a145:=Tryz.isAgg397
 z145:=Tryz.sizeOf397
 v145:=Tryz.zeroValue397
 t167:=Tryz.underlying363
 a167:=Tryz.isAgg363
 z167:=Tryz.sizeOf363
 v167:=Tryz.zeroValue363
 t168:=Tryz.underlying366
 a168:=Tryz.isAgg366
 z168:=Tryz.sizeOf366
 v168:=Tryz.zeroValue366
 t171:=Tryz.underlying405
 a171:=Tryz.isAgg405
 z171:=Tryz.sizeOf405
 v171:=Tryz.zeroValue405
 t173:=Tryz.underlying407
 a173:=Tryz.isAgg407
 z173:=Tryz.sizeOf407
 v173:=Tryz.zeroValue407
 t175:=Tryz.underlying378
 a175:=Tryz.isAgg378
 z175:=Tryz.sizeOf378
 v175:=Tryz.zeroValue378
 t210:=Tryz.underlying382
 a210:=Tryz.isAgg382
 z210:=Tryz.sizeOf382
 v210:=Tryz.zeroValue382
 t212:=Tryz.underlying410
 a212:=Tryz.isAgg410
 z212:=Tryz.sizeOf410
 v212:=Tryz.zeroValue410
 t213:=Tryz.underlying411
 a213:=Tryz.isAgg411
 z213:=Tryz.sizeOf411
 t232:=Tryz.underlying412
 a232:=Tryz.isAgg412
 z232:=Tryz.sizeOf412
 v232:=Tryz.zeroValue412
 t233:=Tryz.underlying413
 a233:=Tryz.isAgg413
 z233:=Tryz.sizeOf413
 v233:=Tryz.zeroValue413
 g15:=by kernel_rfl
 g16:=by kernel_rfl
 g17:=by kernel_rfl
 g18:=by kernel_rfl
 g19:=by kernel_rfl
 t80:=Tryz.underlying252
 a80:=Tryz.isAgg252
 z80:=Tryz.sizeOf252
 v80:=Tryz.zeroValue252
 i0:=by kernel_rfl
 i2:=by kernel_rfl
 i3:=by kernel_rfl
 i4:=by kernel_rfl
 i5:=by kernel_rfl
 i9:=by kernel_rfl
 i20:=by kernel_rfl
 i21:=by kernel_rfl
 i37:=by kernel_rfl
 i46:=by kernel_rfl
 i51:=by kernel_rfl
 i53:=by kernel_rfl
 i75:=by kernel_rfl
 i76:=by kernel_rfl
 i80:=by kernel_rfl
 i85:=by kernel_rfl
 i127:=by kernel_rfl
 i143:=by kernel_rfl
 i145:=by kernel_rfl
 i167:=by kernel_rfl
 i168:=by kernel_rfl
 i171:=by kernel_rfl
 i173:=by kernel_rfl
 i175:=by kernel_rfl
 i210:=by kernel_rfl
 i212:=by kernel_rfl
 i232:=by kernel_rfl
 i233:=by kernel_rfl
 m15:=by kernel_rfl
 m16:=by kernel_rfl
 m17:=by kernel_rfl
 m18:=by kernel_rfl
 m19:=by kernel_rfl
 c0:=by kernel_rfl
 c2:=by kernel_rfl
 c3:=by kernel_rfl
 c4:=by kernel_rfl
 c5:=by kernel_rfl
 c9:=by kernel_rfl
 c20:=by kernel_rfl
 c21:=by kernel_rfl
 c37:=by kernel_rfl
 c46:=by kernel_rfl
 c51:=by kernel_rfl
 c53:=by kernel_rfl
 c75:=by kernel_rfl
 c76:=by kernel_rfl
 c80:=by kernel_rfl
 c85:=by kernel_rfl
 c127:=by kernel_rfl
 c143:=by kernel_rfl
 c145:=by kernel_rfl
 c167:=by kernel_rfl
 c168:=by kernel_rfl
 c171:=by kernel_rfl
 c173:=by kernel_rfl
 c175:=by kernel_rfl
 c210:=by kernel_rfl
 c212:=by kernel_rfl
 c213:=by kernel_rfl
 c232:=by kernel_rfl
 c233:=by kernel_rfl }
open Go.RowKit in
theorem Tryz.strconv_Atoi_ok (s:ByteArray) (aW:s.size<=9223372036854775806) (v:Int) (h:Lib.atoiAll s.data.toList=.ok v) (w:World) :
 Calls Tryz.prog 275 #[.string s] w λe w'=>e=.returned (.tuple #[.int .i64 v,.nilIface])/\(w'=w\/∃ t,w'=Lib.bytesWorld w 5 t):=Any.strconv_Atoi_ok Tryz.laysC172 s aW v h w
def Tryz.lays219_ren:Go.Shelf.Ren:=⟨fun|219=>302|217=>304|225=>307|224=>306|267=>330|266=>331|314=>343|n=>n,fun|9=>9|3=>3|4=>4|5=>5|46=>157|146=>376|51=>204|n=>n,fun|1=>2|n=>n⟩
def Tryz.lays144_ren:Go.Shelf.Ren:=⟨fun|144=>213|143=>269|219=>302|217=>304|225=>307|224=>306|267=>330|266=>331|314=>343|n=>n,fun|9=>9|4=>4|3=>3|5=>5|46=>157|146=>376|51=>204|n=>n,fun|1=>2|n=>n⟩
theorem Tryz.lays144:Go.Proofs.Lays.n144 Tryz.prog Tryz.lays144_ren:={
 mixed:=by kernel_rfl
 f143:=fxT Tryz.func269
 f144:=fxT Tryz.func213
 f217:=fxT Tryz.func304
 f219:=fxT Tryz.func302
 f224:=fxT Tryz.func306
 f225:=fxT Tryz.func307
 f266:=fxT Tryz.func331
 f267:=fxT Tryz.func330
 f314:=fxT Tryz.func343
 t3:=Tryz.underlying3
 a3:=Tryz.isAgg3
 z3:=Tryz.sizeOf3
 v3:=Tryz.zeroValue3
 t4:=Tryz.underlying4
 a4:=Tryz.isAgg4
 z4:=Tryz.sizeOf4
 v4:=Tryz.zeroValue4
 t5:=Tryz.underlying5
 a5:=Tryz.isAgg5
 z5:=Tryz.sizeOf5
 v5:=Tryz.zeroValue5
 t9:=Tryz.underlying9
 a9:=Tryz.isAgg9
 z9:=Tryz.sizeOf9
 v9:=Tryz.zeroValue9
 t46:=Tryz.underlying157
 a46:=Tryz.isAgg157
 z46:=Tryz.sizeOf157
 v46:=Tryz.zeroValue157
 t51:=Tryz.underlying204
 a51:=Tryz.isAgg204
 z51:=Tryz.sizeOf204
 v51:=Tryz.zeroValue204
 t146:=Tryz.underlying376
 a146:=Tryz.isAgg376
 z146:=Tryz.sizeOf376
 v146:=Tryz.zeroValue376
 g1:=by kernel_rfl }
open Go.RowKit Go.Lib in
theorem Tryz.strings_Contains (s sub:ByteArray) (m:Int) (w:World) (hs:s.size<4294967281) (hm:w.cell? ⟨2,0,none⟩=some (.int .i64 m)) :
 Calls Tryz.prog 213 #[.string s,.string sub] w λe w'=>e=.returned (.bool (Lib.contains s.data.toList sub.data.toList))/\w'=w:=Any.strings_Contains Tryz.lays144 s sub m w hs hm
def Tryz.laysM144_ren:Go.Shelf.Ren:=⟨fun|144=>213|143=>269|219=>302|217=>304|225=>307|224=>306|267=>330|266=>331|314=>343|n=>n,fun|9=>9|4=>4|3=>3|5=>5|46=>157|146=>376|51=>204|n=>n,fun|1=>2|n=>n⟩
theorem Tryz.laysM144:Go.Proofs.LaysM.n144 Tryz.prog Tryz.laysM144_ren:={
 mixed:=by kernel_rfl
 f143:=fxT Tryz.func269
 f144:=fxT Tryz.func213
 f217:=fxT Tryz.func304
 f219:=fxT Tryz.func302
 f224:=fxT Tryz.func306
 f225:=fxT Tryz.func307
 f266:=fxT Tryz.func331
 f267:=fxT Tryz.func330
 f314:=fxT Tryz.func343
 t3:=Tryz.underlying3
 a3:=Tryz.isAgg3
 z3:=Tryz.sizeOf3
 v3:=Tryz.zeroValue3
 t4:=Tryz.underlying4
 a4:=Tryz.isAgg4
 z4:=Tryz.sizeOf4
 v4:=Tryz.zeroValue4
 t5:=Tryz.underlying5
 a5:=Tryz.isAgg5
 z5:=Tryz.sizeOf5
 v5:=Tryz.zeroValue5
 t9:=Tryz.underlying9
 a9:=Tryz.isAgg9
 z9:=Tryz.sizeOf9
 v9:=Tryz.zeroValue9
 t46:=Tryz.underlying157
 a46:=Tryz.isAgg157
 z46:=Tryz.sizeOf157
 v46:=Tryz.zeroValue157
 t51:=Tryz.underlying204
 a51:=Tryz.isAgg204
 z51:=Tryz.sizeOf204
 v51:=Tryz.zeroValue204
 t146:=Tryz.underlying376
 a146:=Tryz.isAgg376
 z146:=Tryz.sizeOf376
 v146:=Tryz.zeroValue376
 g1:=by kernel_rfl
 i3:=by kernel_rfl
 i4:=by kernel_rfl
 i5:=by kernel_rfl
 i9:=by kernel_rfl
 i46:=by kernel_rfl
 i51:=by kernel_rfl
 i146:=by kernel_rfl
 m1:=by kernel_rfl
 s1_3:=λw h=>Go.Proofs.cell_of_shapedOpen_int (zero:=#[.int .i64 0]) (t:=3) h (of_decide_eq_true (by kernel_rfl)) (by kernel_rfl) rfl (by kernel_rfl) (by kernel_rfl) Tryz.underlying3 }
def Tryz.lays189_ren:Go.Shelf.Ren:=⟨fun|189=>317|125=>85|257=>338|128=>127|129=>128|294=>348|295=>349|296=>350|297=>351|298=>352|299=>353|216=>354|300=>355|301=>356|328=>363|329=>191|330=>192|331=>364|332=>365|215=>86|343=>368|n=>n,fun|28=>22|3=>3|46=>157|0=>0|51=>204|53=>206|4=>4|183=>197|182=>196|131=>201|5=>5|9=>9|218=>259|222=>263|228=>306|229=>238|n=>n,fun|n=>n⟩
theorem Tryz.lays189:Go.Proofs.Lays.n189 Tryz.prog Tryz.lays189_ren:={
 mixed:=by kernel_rfl
 f125:=fxT Tryz.func85
 f128:=fxT Tryz.func127
 f129:=fxT Tryz.func128
 f189:=fxT Tryz.func317
 f215:=fxT Tryz.func86
 f216:=fxT Tryz.func354
 f257:=fxT Tryz.func338
 f294:=fxT Tryz.func348
 f295:=fxT Tryz.func349
 f296:=fxT Tryz.func350
 f297:=fxT Tryz.func351
 f298:=fxT Tryz.func352
 f299:=fxT Tryz.func353
 f300:=fxT Tryz.func355
 f301:=fxT Tryz.func356
 f328:=fxT Tryz.func363
 f329:=fxT Tryz.func191
 f330:=fxT Tryz.func192
 f331:=fxT Tryz.func364
 f332:=fxT Tryz.func365
 f343:=fxT Tryz.func368
 t0:=Tryz.underlying0
 a0:=Tryz.isAgg0
 z0:=Tryz.sizeOf0
 v0:=Tryz.zeroValue0
 t3:=Tryz.underlying3
 a3:=Tryz.isAgg3
 z3:=Tryz.sizeOf3
 v3:=Tryz.zeroValue3
 t4:=Tryz.underlying4
 a4:=Tryz.isAgg4
 z4:=Tryz.sizeOf4
 v4:=Tryz.zeroValue4
 t5:=Tryz.underlying5
 a5:=Tryz.isAgg5
 z5:=Tryz.sizeOf5
 v5:=Tryz.zeroValue5
 t9:=Tryz.underlying9
 a9:=Tryz.isAgg9
 z9:=Tryz.sizeOf9
 v9:=Tryz.zeroValue9
 t28:=Tryz.underlying22
 a28:=Tryz.isAgg22
 z28:=Tryz.sizeOf22
 v28:=Tryz.zeroValue22
 t46:=Tryz.underlying157
 a46:=Tryz.isAgg157
 z46:=Tryz.sizeOf157
 v46:=Tryz.zeroValue157
 t51:=Tryz.underlying204
 a51:=Tryz.isAgg204
 z51:=Tryz.sizeOf204
 v51:=Tryz.zeroValue204
 t53:=Tryz.underlying206
 a53:=Tryz.isAgg206
 z53:=Tryz.sizeOf206
 v53:=Tryz.zeroValue206
 t131:=Tryz.underlying201
 a131:=Tryz.isAgg201
 z131:=Tryz.sizeOf201
 v131:=Tryz.zeroValue201
 t182:=Tryz.underlying196
 a182:=Tryz.isAgg196
 z182:=Tryz.sizeOf196
 v182:=Tryz.zeroValue196
 t183:=Tryz.underlying197
 a183:=Tryz.isAgg197
 z183:=Tryz.sizeOf197
 v183:=Tryz.zeroValue197
 t218:=Tryz.underlying259
 a218:=Tryz.isAgg259
 z218:=Tryz.sizeOf259
 v218:=Tryz.zeroValue259
 t222:=Tryz.underlying263
 a222:=Tryz.isAgg263
 z222:=Tryz.sizeOf263
 v222:=Tryz.zeroValue263
 t228:=Tryz.underlying306
 a228:=Tryz.isAgg306
 z228:=Tryz.sizeOf306
 v228:=Tryz.zeroValue306
 t229:=Tryz.underlying238
 a229:=Tryz.isAgg238
 z229:=Tryz.sizeOf238
 v229:=Tryz.zeroValue238 }
open Go.Sort Go.RowKit in
theorem Tryz.slices_Sort_int (blk off cap:Nat) (zs:List Int) (w:World) (hH:Holds (Value.int .i64) w blk off zs.toArray) (ab:blk<w.heap.size) (br:zs.length<4611686018427387904) :
 Calls Tryz.prog 317 #[.slice (some ⟨blk,off,none⟩) zs.length cap] w λe w'=>
  e=.returned (.tuple #[])/\∃ n os,w'=grow (putRow (Value.int .i64) (Sort.ahead w n) blk off (zs.mergeSort λx y=>decide (x<=y)).toArray) os:=Any.slices_Sort_int Tryz.lays189 blk off cap zs w hH ab br
def Tryz.lays151_ren:Go.Shelf.Ren:=⟨fun|151=>222|152=>273|137=>272|119=>305|224=>306|225=>307|217=>304|266=>331|n=>n,fun|9=>9|21=>21|4=>4|3=>3|5=>5|0=>0|46=>157|n=>n,fun|n=>n⟩
theorem Tryz.lays151:Go.Proofs.Lays.n151 Tryz.prog Tryz.lays151_ren:={
 mixed:=by kernel_rfl
 f119:=fxT Tryz.func305
 f137:=fxT Tryz.func272
 f151:=fxT Tryz.func222
 f152:=fxT Tryz.func273
 f217:=fxT Tryz.func304
 f224:=fxT Tryz.func306
 f225:=fxT Tryz.func307
 f266:=fxT Tryz.func331
 t0:=Tryz.underlying0
 a0:=Tryz.isAgg0
 z0:=Tryz.sizeOf0
 v0:=Tryz.zeroValue0
 t3:=Tryz.underlying3
 a3:=Tryz.isAgg3
 z3:=Tryz.sizeOf3
 v3:=Tryz.zeroValue3
 t4:=Tryz.underlying4
 a4:=Tryz.isAgg4
 z4:=Tryz.sizeOf4
 v4:=Tryz.zeroValue4
 t5:=Tryz.underlying5
 a5:=Tryz.isAgg5
 z5:=Tryz.sizeOf5
 v5:=Tryz.zeroValue5
 t9:=Tryz.underlying9
 a9:=Tryz.isAgg9
 z9:=Tryz.sizeOf9
 v9:=Tryz.zeroValue9
 t21:=Tryz.underlying21
 a21:=Tryz.isAgg21
 z21:=Tryz.sizeOf21
 v21:=Tryz.zeroValue21
 t46:=Tryz.underlying157
 a46:=Tryz.isAgg157
 z46:=Tryz.sizeOf157
 v46:=Tryz.zeroValue157 }
open Go.RowKit Go.Lib in
theorem Tryz.strings_ContainsRune_ascii (s:ByteArray) (r:Int) (w:World) (h0:0<=r) (h1:r<128) :
 Calls Tryz.prog 222 #[.string s,.int .i32 r] w λe w'=>e=.returned (.bool (decide (0<=Lib.indexByte s.data.toList r.toNat.toUInt8)))/\w'=w:=Any.strings_ContainsRune_ascii Tryz.lays151 s r w h0 h1
def Tryz.laysNm220_ren:Go.Shelf.Ren:=⟨fun|20=>318|n=>n,fun|22=>22|3=>3|4=>4|0=>0|n=>n,fun|n=>n⟩
theorem Tryz.laysNm220:Go.Proofs.Lays2.n20 Tryz.prog Tryz.laysNm220_ren:={
 mixed:=by kernel_rfl
 f20:=fxT Tryz.func318
 t0:=Tryz.underlying0
 a0:=Tryz.isAgg0
 z0:=Tryz.sizeOf0
 v0:=Tryz.zeroValue0
 t3:=Tryz.underlying3
 a3:=Tryz.isAgg3
 z3:=Tryz.sizeOf3
 v3:=Tryz.zeroValue3
 t4:=Tryz.underlying4
 a4:=Tryz.isAgg4
 z4:=Tryz.sizeOf4
 v4:=Tryz.zeroValue4
 t22:=Tryz.underlying22
 a22:=Tryz.isAgg22
 z22:=Tryz.sizeOf22
 v22:=Tryz.zeroValue22
 i3:=by kernel_rfl }
open Go.RowKit Go.Lib Go.Sort in
theorem Tryz.slices_Compact_int (blk off cap:Nat) (zs:List Int) (w:World) (hH:Holds (Value.int .i64) w blk off zs.toArray) (br:zs.length<=9223372036854775807) (jn:zs.length<=cap) :
 Calls Tryz.prog 318 #[.slice (some ⟨blk,off,none⟩) zs.length cap] w λe w'=>e=.returned (.slice (some ⟨blk,off,none⟩) (Lib.compact zs).length cap)/\∃ q,w'=putRow (Value.int .i64) (Sort.ahead w q) blk off (Lib.compact zs++List.replicate (zs.length - (Lib.compact zs).length) 0).toArray:=Any.slices_Compact_int Tryz.laysNm220 blk off cap zs w hH br jn
open Go.RowKit Go.Lib Go.Sort in
theorem Tryz.slices_Compact_int_empty (a:Option Addr) (cap:Nat) (w:World) :
 Calls Tryz.prog 318 #[.slice a 0 cap] w λe w'=>e=.returned (.slice a 0 cap)/\w'=w:=Any.slices_Compact_int_empty Tryz.laysNm220 a cap w
open Go.RowKit Go.Sort in
theorem Tryz.slices_Sort_int_none (p:Option Addr) (cap:Nat) (w:World) :
 Calls Tryz.prog 317 #[.slice p 0 cap] w λe w'=>e=.returned (.tuple #[])/\w'=w:=Any.slices_Sort_int_none Tryz.lays189 p cap w
end Go.Proofs
namespace Go.Eng
open Go Go.RowKit Go.Proofs
structure Fl where
 i:Nat
 d:Nat
 T:Nat
 z:Value
end Go.Eng
namespace Go.Proofs.YteibicnbkggiiaaGreatDoor
open Go Go.Eng Go.RowKit
def Z4h:Str:=[32,114,117,108,101,32,102,114,111,109,32,111,110,32,105,102,32,100,117,101,32,117,110,108,101,115,115,32,101,108,115,101,32,111,114,32,97,110,100,32,110,111,116,32,116,114,117,101,32,102,97,108,115,101,32,116,104,101,110,32,101,110,100,32,100,97,121,115,32,119,101,101,107,115,32,109,111,110,116,104,115,32,99,111,117,114,116,100,97,121,115,32,110,101,120,116,32,112,114,101,118,32,108,97,116,101,114,32,101,97,114,108,105,101,114,32,98,101,116,119,101,101,110,32]
def Z6E:List Str:=[[114,117,108,101],[102,114,111,109],[111,110],[105,102],[100,117,101],[117,110,108,101,115,115],[101,108,115,101],[111,114],[97,110,100],[110,111,116],[116,114,117,101],[102,97,108,115,101],[116,104,101,110],[101,110,100],[100,97,121,115],[119,101,101,107,115],[109,111,110,116,104,115],[99,111,117,114,116,100,97,121,115],[110,101,120,116],[112,114,101,118],[108,97,116,101,114],[101,97,114,108,105,101,114],[98,101,116,119,101,101,110]]
theorem Z5X:∀ (s sub:List UInt8),0<=Lib.index s sub↔∃ i,i<=s.length/\sub.isPrefixOf (s.drop i)=true
 | [], sub => by
   unfold Lib.index;cases sub with
   | nil=>simp
   | cons a l=>simp
 | b :: l, sub => by
   have ih:=Z5X l sub;have ng:=Lib.index_ge l sub;unfold Lib.index;by_cases hp:sub.isPrefixOf (b :: l)=true;rw [if_pos hp];exact ⟨λ_=>⟨0,by omega,hp⟩,λ_=>by omega⟩;rw [if_neg hp];have e:(0:Int)<=(if (Lib.index l sub == -1)=true then -1 else Lib.index l sub+1)↔0<=Lib.index l sub:=by
    by_cases h1:Lib.index l sub=-1;rw [if_pos (by simpa using h1)];omega;rw [if_neg (by simpa using h1)];omega
   rw [e,ih];constructor;rintro ⟨i,hi,h⟩;exact ⟨i+1,by simpa using hi,h⟩
   . rintro ⟨i,hi,h⟩
     cases i with
     | zero=>exact absurd h hp
     | succ i=>exact ⟨i,by simpa using hi,h⟩
theorem Z5Y:∀ (t r:List UInt8),(∀ c∈t,c≠32)->(t++[32]).isPrefixOf r=true->r.takeWhile (λc=>decide (c≠32))=t
 | [], r, _, h => by
   cases r with
   | nil=>simp at h
   | cons a l=>
     simp [List.isPrefixOf] at h;subst h;rfl
 | c :: t, r, hc, h => by
   cases r with
   | nil=>simp at h
   | cons a l=>
     simp only [XU,List.isPrefixOf,Xa,beq_iff_eq] at h;obtain ⟨rfl,h⟩:=h;have h1:=hc c (by simp);rw [List.takeWhile_cons_of_pos (by simpa using h1),Z5Y t l (λx hx=>hc x (by simp [hx])) h]
theorem Zbb:∀ i∈List.range (Z4h.length+1),(Z4h.drop i).head?=some 32->(Z4h.drop (i+1)).takeWhile (λc=>decide (c≠32))∈Z6E\/(Z4h.drop (i+1)).takeWhile (λc=>decide (c≠32))=[]:=by decide +kernel
theorem Zgm:∀ t∈Z6E,Lib.contains Z4h (32 :: t++[32])=true:=by decide +kernel
theorem Zgn {t:Str} (h0:t≠[]) (hc:∀ c∈t,c≠32):Lib.contains Z4h (32 :: t++[32])=decide (t∈Z6E):=by
 by_cases ht:t∈Z6E;rw [Zgm t ht,decide_eq_true ht]
 . rw [decide_eq_false ht]
   unfold Lib.contains;rw [decide_eq_false_iff_not,Z5X];rintro ⟨i,hi,h⟩;cases hd:Z4h.drop i with
   | nil=>rw [hd] at h;simp at h
   | cons a l=>
     rw [hd] at h;simp only [XU,List.isPrefixOf,Xa,beq_iff_eq] at h;obtain ⟨rfl,h⟩:=h;have hl:Z4h.drop (i+1)=l:=by
      have:=congrArg List.tail hd;simpa [List.tail_drop] using this
     have hw:=Z5Y t l hc h;have:=Zbb i (List.mem_range.2 (by omega)) (by rw [hd];rfl);rw [hl,hw] at this;exact this.elim ht h0
end Go.Proofs.YteibicnbkggiiaaGreatDoor
