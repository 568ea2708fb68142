/-
Contracts and plain laws, merged out of own texts.
-/
import Derived.Test.YtgdicjnjhchooaaGreatDoorM1
import Derived.Lib.ItoaNum
import Derived.Laws.RangeString
import Derived.Laws.RangeAny
import Derived.Lib.AppendZeros
import Derived.Deep.Slices
import Derived.Deep.Fields
import Derived.ChangeSame
import Derived.Below
import Derived.Carry
import Derived.ChangeOld
import Derived.ProofKit
import Derived.OpenShut
import Derived.SizedLaws
import Derived.HandedShaped
import Derived.LaidMore
import Derived.Stop.Joined
import Derived.SevenTiedAt
import Derived.MakeChecks
import Derived.Laws.BitsAllLaws
import Derived.Laws.Bits64
import Derived.Lib.SlBytesRow
import Derived.Lib.AppendStr
import Derived.Laws.BytesArg
import Derived.Laws.Cover3
import Derived.Shelf.Small.Utf8
import Derived.Shelf.Small.Bits
import Derived.Shelf.Small.Strs
import Derived.Shelf.Small.Wraps
import Derived.Shelf.Strconv.Atoi
import Derived.Shelf.Strconv.Itoa0
import Derived.Shelf.Strconv.Itoa1
import Derived.Shelf.LaysM
import Derived.Shelf.Strconv.Itoa2
import Derived.Shelf.Strconv.Itoa3
import Derived.Shelf.Strconv.AtoiErrFast
import Derived.Shelf.Strconv.ParseIntEmpty
import Derived.Shelf.Strconv.AtoiFail
import Derived.Shelf.Strconv.Clone
import Derived.Shelf.Strconv.SyntaxError
import Derived.Shelf.LaysC
import Derived.Shelf.Strconv.ToError
import Derived.Shelf.Strconv.Lower
import Derived.Shelf.Strconv.ParseUint10
import Derived.Shelf.Strconv.ParseUint10Empty
import Derived.Shelf.Strconv.ParseUint10Any
import Derived.Shelf.Strconv.ParseInt10
import Derived.Shelf.Strconv.AtoiLong
import Derived.Shelf.Strconv.AtoiInnerAll
import Derived.Shelf.Strconv.RangeError
import Derived.Shelf.Strconv.ToErrorRange
import Derived.Shelf.Strconv.AtoiAll
import Derived.Shelf.Strconv.ErrVarAll
import Derived.Shelf.Strings.Search1
import Derived.Shelf.Strings.Search2
import Derived.Shelf.Strings.Search3
import Derived.Shelf.Strings.Shaped
import Derived.Shelf.Sort.Plain
import Derived.Shelf.Strings.Prefix
import Derived.Shelf.Strings.Runes
import Derived.Shelf.Slices.Turned
import Derived.Ground.Names2Prog
import Derived.Shelf.Slices.CompactI
import Derived.Shelf.Slices.SearchI
import Derived.Shelf.Slices.Cells
import Derived.Shelf.Slices.In.SortNone
import Derived.Test.YtgdicjnjhchooaaGreatDoorProg
set_option linter.unusedVariables false
set_option linter.unusedSimpArgs false
set_option maxHeartbeats 4000000
set_option maxRecDepth 20000
namespace Go.Proofs.YtgdicjnjhchooaaGreatDoor
open Go Go.Eng Go.RowKit
abbrev ndL (k n:Int) (s:Str) (kv:Value):List Value:=[.I k,.I n,str s,kv]
theorem Zez (x:Nd):∀ (X:List Nat) (v:Value) (w),okN x=true->NdV X w v x->
 CC 165 #[v] w λr w'=>r=.I (Zi x)/\Stp [] w w':=by
 induction x using Nd.ind with
 | h k n s l ih=>
 intro X v w aL hx;obtain ⟨bz,cA⟩:=(ZdB _).1 aL;replace bz:l.length<=1000:=bz;replace cA:∀ y∈l,okN y=true:=cA;obtain ⟨kv,rfl,hs⟩:=hx;replace hs:SlV X w kv l:=hs;rw [ZdA];show Calls _ _ _ _ (Ret λr w'=>r=.I (Z4b k n s (l.map Zi))/\Stp [] w w');refine cW1 104 Tryz.func165 ?_;refine W ?_;refine Z0 (Zp rfl) rfl ?_;rintro _ w1 ⟨b,rfl,jG,ab,hS⟩;replace ab:Blk w1 b _ (ndL k n s kv):=ab;replace hs:=hs.up hS
 (refine QP ?_ ?_<;>intro hc)
 refine CL (Zc6 X _ (.mk k n s l) _ ⟨kv,rfl,hs⟩) ?_;rintro _ w2 ⟨rfl,aj⟩;refine W ?_;refine WR ?_;have cn:l=[]:=XV.1 (by omega);subst cn;exact .mk ⟨by simp [Z4b];rfl,hS.trans aj⟩;have bi:¬ l.map Zi=[]:=by
  intro h;have:=congrArg List.length h;simp at this;subst this;simp at hc
 have ak:(l.map Zi).length=l.length:=by simp
 have bG:∀ i (h:i<l.length) (h':i<(l.map Zi).length),(l.map Zi)[i]=Zi l[i]:=by intro i h h';simp
 generalize da:l.map Zi=ts at *;refine Z0t (σ:=Value) (λu=>[(1,pQ b),(3,u)]) (λu w'=>SlV [] w' u ts/\Stp [] w1 w') ?_ ?_;have bQ:=hs;have gw:=ab;have wK:w1.heap.size<=w1.heap.size:=Xl _;refine LP (σ:=Nat×Value) (λq=>[(1,pQ b),(3,q.2),(4,.I (q.1:Int))]) (λq w'=>q.1<=l.length/\Row [] w' w1.heap.size 3 q.2 (ts.take q.1)/\Stp [] w1 w') (λq=>l.length - q.1) (0,.N) ⟨Xr _,Row.nil,Stp.refl _ _⟩ ?_;clear hs ab;rintro ⟨j,u⟩ w2 ⟨hj,ac,aj⟩;dsimp only at hj ac ⊢;have hs:=bQ.up aj;have ab:=gw.up aj;by_cases hlt:j<l.length;obtain ⟨kv2,aX,eC⟩:=hs.nd hlt;refine QO ?_;apply Z9 (Z02 rfl rfl hs hlt eC) rfl;refine CL (ih l[j] (Xb hlt) X _ _ (cA _ (Xb hlt)) ⟨kv2,rfl,aX⟩) ?_;rintro _ w3 ⟨rfl,aF⟩;replace ac:=ac.up aF;replace aj:=aj.trans aF;refine W ?_;refine Z0 (Z1 (vs:=[(0,.I (Zi l[j]))]) rfl (Jj _)) rfl ?_;rintro bv w4 hN;have aI:SlV (ob u++[]) w4 bv [Zi l[j]]:=hN.slv (λb hb=>(ac.ob_le b (by simpa using hb)).2) rfl rfl (by simp [maxLen]);have aU:=Za.stp hN;clear hN;replace ac:=ac.up aU;replace aj:=aj.trans aU;have aV:=aj.size;have d6:(ts.take j).length<=1000:=by rw [Xx];omega
 refine Z0 (ZC (X:=[]) (base:=w1.heap.size) rfl (by decide) rfl rfl ac aI (by simp only [Xe,Xi];omega) (by simp only [Xe,Xi,maxLen];omega) aV) rfl ?_;rintro u' w5 ⟨aN,aD,_⟩;refine W ?_;refine QL (j+1,u') ⟨by dsimp only;omega,?_,aj.own aD (λc hc=>.inr (ac.ob_le c hc).1)⟩ (by dsimp only;omega);dsimp only;rw [Xg (by omega),bG j hlt];exact aN;have gz:j=l.length:=by omega
 subst gz;rw [<- ak,Xs] at ac;refine QO ?_;exact QT u ⟨ac.slv0,aj⟩;rintro u w2 ⟨hu,aj⟩;replace ab:=ab.up aj;replace hS:=hS.trans aj;have lN:1<=ts.length:=by
  cases ts with
  | nil=>exact absurd rfl bi
  | cons=>simp
 clear bG da hs;have h0:∀ (h:0<ts.length),ts.getD 0 0=ts[0]:=λh=>by simp [List.getD,h]
 have h1:∀ (h:1<ts.length),ts.getD 1 0=ts[1]:=λh=>by simp [List.getD,h]
 unfold Z4b;rw [if_neg bi];refine W ?_;by_cases hn:¬ n=0;rw [if_pos hn];refine RT ?_;exact ⟨rfl,hS⟩;rw [if_neg hn];by_cases k5:k=5;subst k5;rw [if_pos rfl];have cn:0<ts.length:=by omega
 by_cases hm:s=[45]\/s=[110,111,116]
 have fin:∀ (z:Int) (p:Bool),(s=[45]/\z=1\/s=[110,111,116]/\z=2)->JW ts [z]=p->(if s=[45]/\JW ts [1]=true\/s=[110,111,116]/\JW ts [2]=true then ts.getD 0 0 else 0)=if p then ts.getD 0 0 else 0:=by
  rintro z p (⟨rfl,rfl⟩|⟨rfl,rfl⟩) hp<;>simp [hp]
 rcases hm with rfl|rfl
 . refine QO ?_
   refine Z0 (Z1 (vs:=[(0,.I 1)]) rfl (Jj _)) rfl ?_;rintro a1 w7 hN;have ha:=hN.slv (X:=[]) (ys:=[(1:Int)]) (by simp) rfl rfl (by simp [maxLen]);have aW:=Za.stp hN;clear hN;replace hu:=hu.up aW;replace ab:=ab.up aW;replace hS:=hS.trans aW;refine W ?_;refine CL (Z1q _ _ _ _ _ _ _ hu ha) ?_;rintro _ w8 ⟨rfl,cP⟩;replace hu:=hu.up cP;replace ab:=ab.up cP;replace hS:=hS.trans cP;rw [fin 1 _ (.inl ⟨rfl,rfl⟩) rfl];cases JW ts [1] with
   | true=>
     refine QO ?_;refine WR ?_;refine .mk ⟨?_,hS⟩;rw [if_pos rfl,h0 lN]
   | false=>
     refine RT ?_;exact ⟨rfl,hS⟩
 . refine QO ?_
   refine Z0 (Z1 (vs:=[(0,.I 2)]) rfl (Jj _)) rfl ?_;rintro a1 w7 hN;have ha:=hN.slv (X:=[]) (ys:=[(2:Int)]) (by simp) rfl rfl (by simp [maxLen]);have aW:=Za.stp hN;clear hN;replace hu:=hu.up aW;replace ab:=ab.up aW;replace hS:=hS.trans aW;refine W ?_;refine CL (Z1q _ _ _ _ _ _ _ hu ha) ?_;rintro _ w8 ⟨rfl,cP⟩;replace hu:=hu.up cP;replace hS:=hS.trans cP;rw [fin 2 _ (.inr ⟨rfl,rfl⟩) rfl];cases JW ts [2] with
   | true=>
     refine QO ?_;refine WR ?_;refine .mk ⟨?_,hS⟩;rw [if_pos rfl,h0 lN]
   | false=>
     refine RT ?_;exact ⟨rfl,hS⟩
 . have nB:¬ s=[45]:=λh=>hm (.inl h)
   have fe:¬ s=[110,111,116]:=λh=>hm (.inr h);rw [if_neg (by rintro (⟨h,_⟩|⟨h,_⟩)<;>contradiction)];repeat'(first|refine W1 ?_|omega|refine VG ?_ ?_<;>intro hg|refine VC ?_ ?_<;>intro hc)
   all_goals try contradiction
   refine RU ?_;exact ⟨rfl,hS⟩
 rw [if_neg k5];by_cases k6:k=6;subst k6;rw [if_pos rfl];refine QO ?_;refine CL (Z8W [] s u ts _ hu) ?_;rintro _ w3 ⟨rfl,aF⟩;refine RT ?_;exact ⟨rfl,hS.trans aF⟩;rw [if_neg k6];by_cases k78:k=7\/k=8
 . rw [if_pos k78]
   have n9:¬ k=9:=by omega
   have n10:¬ k=10:=by omega
   (refine QP ?_ ?_<;>intro hc)
   all_goals
    refine ZDr 10 [] [] [(1,0),(2,1),(0,2),(3,2),(4,0),(5,0),(6,0),(7,2),(8,2),(9,0)] (λw1 ae=>?_);replace hu:=hu.up ae;replace ab:=ab.up ae;replace hS:=hS.trans ae;refine D ?_;refine Z7 rfl trivial (Z3 rfl (ZS rfl) (Z0A [] [100,97,121,115,32,119,101,101,107,115,32,109,111,110,116,104,115,32,99,111,117,114,116,100,97,121,115] _ (by simp) (by decide))) (λ_ _ h=>h.2) rfl ?_;rintro _ w5 ⟨hr,aD⟩;rw [Zai] at hr;replace hu:=hu.up aD;replace hS:=hS.trans aD;refine DC (JR [] _ _ s _ hr.slv0) (λ_ _ h=>h.2) ?_;rintro _ w6 ⟨rfl,cz⟩;replace hu:=hu.up cz;replace hS:=hS.trans cz;generalize idx (isS s) ZO=i1;by_cases hi:0<=i1;refine QD ?_;refine Z7 rfl rfl (Z1 (vs:=[(0,.I 3),(1,.I 1)]) rfl (Z0H _ _)) (λ_ _ h=>Za.stp h) rfl ?_;rintro a1 w7 hN;have ha:=hN.slv (X:=[]) (ys:=[(3:Int),1]) (by simp) rfl rfl (by simp [maxLen]);have aW:=Za.stp hN;clear hN;replace hu:=hu.up aW;replace hS:=hS.trans aW;refine DC (Z1q _ _ _ _ _ _ _ hu ha) (λ_ _ h=>h.2) ?_;rintro _ w8 ⟨rfl,cP⟩;replace hS:=hS.trans cP;generalize JW ts [3,1]=p;cases p;refine D ?_;refine RT ?_;exact ⟨by simp,hS⟩;refine D ?_;refine RT ?_;exact ⟨by simp [hi],hS⟩;refine QD ?_;refine RT ?_;exact ⟨by simp [hi],hS⟩
 rw [if_neg k78];by_cases k9:k=9;subst k9;rw [if_pos rfl];refine QO ?_;refine ZDr 19 [] [] [(0,0),(1,1),(2,0),(3,0),(4,0),(5,0),(6,0),(7,0),(8,0),(9,0),(10,0),(11,0),(12,1),(13,0),(14,0),(15,1),(16,2),(17,2),(18,0)] (λw1 ae=>?_);replace hu:=hu.up ae;replace ab:=ab.up ae;replace hS:=hS.trans ae;have oB:=hu.max;by_cases hs:s=[]
 subst hs;by_cases h3:ts.length=3;have fV:1<ts.length:=by omega
 have jC:=h1 fV;refine QD ?_;refine Z7 rfl rfl (Z1 (vs:=[(0,.I 2),(1,.I _),(2,.I _)]) rfl (Zh3 _ _ _)) (λ_ _ h=>Za.stp h) rfl ?_;rintro a1 w7 hN;have ha:=hN.slv (X:=[]) (ys:=[(2:Int),ts[1],ts[1]]) (by simp) rfl rfl (by simp [maxLen]);have aW:=Za.stp hN;clear hN;replace hu:=hu.up aW;replace hS:=hS.trans aW;refine DC (Z1q _ _ _ _ _ _ _ hu ha) (λ_ _ h=>h.2) ?_;rintro _ w8 ⟨rfl,cP⟩;replace hu:=hu.up cP;replace hS:=hS.trans cP;rw [jC];cases hp:JW ts [2,ts[1],ts[1]];refine D ?_;refine RT ?_;exact ⟨by simp,hS⟩;refine D ?_;refine RT ?_;exact ⟨by simp [h3],hS⟩;refine QD ?_;refine RT ?_;exact ⟨by simp [h3],hS⟩
 . repeat'(first|refine D1 ?_|omega|refine Zl rfl rfl rfl rfl (λhg=>?_) (λhg=>?_)|(refine Zh rfl rfl rfl rfl (λhg=>?_) (λhg=>?_)<;>refine D1 ?_)|fail)
   all_goals try contradiction
   refine RT ?_;exact ⟨by simp [hs],hS⟩
 rw [if_neg k9];by_cases k10:k=10;subst k10;rw [if_pos rfl];refine QO ?_;refine CL (Zcd [] s u ts _ hu) ?_;rintro _ w3 ⟨rfl,aF⟩;refine RT ?_;exact ⟨rfl,hS.trans aF⟩;rw [if_neg k10];refine RT ?_;exact ⟨rfl,hS⟩
def ZT:Nd->Nat
 | .mk k n s l=>1+(l.map ZT).sum
theorem Z0J (x:Nd):ZT x=1+(x.kids.map ZT).sum:=by
 cases x;rw [ZT];rfl
theorem Z7G {l:List Nat} {a:Nat} (h:a∈l):a<=l.sum:=by
 induction l with
 | nil=>cases h
 | cons x r ih=>
   rw [Ybk];rcases Xc.1 h with rfl|h
   omega;have:=ih h;omega
theorem Zh9 {x y:Nd} (h:y∈x.kids):ZT y<ZT x:=by
 rw [Z0J x];have:=Z7G (YaJ (f:=ZT) h);omega
theorem Zha (x:Nd):1<=ZT x:=by rw [Z0J];omega
theorem Zce (l:List Nd):l.length<=(l.map ZT).sum:=by
 induction l with
 | nil=>simp
 | cons x r ih=>
   have:=Zha x;simp;omega
theorem Z3h (x:Nd):ZT x<=1000->okN x=true:=by
 induction x using Nd.ind with
 | h k n s l ih=>
 intro h;rw [ZdB];have h1:=Z0J (.mk k n s l);have h2:=Zce l;refine ⟨?_,λy hy=>ih y hy ?_⟩;show l.length<=1000;have:ZT (.mk k n s l)=1+(l.map ZT).sum:=h1;omega;have:=Zh9 (x:=.mk k n s l) (y:=y) hy;omega
theorem Z6C (X:List Nat) (v:Value) (x:Nd) (w) (aL:okN x=true) (hn:ZQ x<=1000000) (hx:NdV X w v x) :
 CC 97 #[v] w λr w'=>r=.tuple #[.I (if ZQ x<=12 then Zi x else 0),.I (if ZQ x<=12 then (if Zi x=0 then 21 else 0) else 2)]/\Stp [] w w':=by
 obtain ⟨kv,rfl,hs⟩:=hx;refine cW1 13 Tryz.func97 ?_;refine W ?_;refine Z0 (Zp rfl) rfl ?_;rintro _ w1 ⟨b,rfl,jG,ab,hS⟩;replace ab:Blk w1 b _ (ndC x kv):=ab;replace hs:=hs.up hS;refine W ?_;refine CL (Zan x X _ _ hn ⟨kv,rfl,hs⟩) ?_;rintro _ w2 ⟨rfl,aj⟩;replace hs:=hs.up aj;replace ab:=ab.up aj;replace hS:=hS.trans aj;by_cases hn:ZQ x<=12;rw [if_pos hn,if_pos hn];refine QO ?_;refine CL (Zez x X _ _ aL ⟨kv,rfl,hs⟩) ?_;rintro _ w3 ⟨rfl,aF⟩;replace hS:=hS.trans aF
 (refine QP ?_ ?_<;>intro hc)
 refine RU ?_;exact ⟨by rw [if_pos hc,hc],hS⟩;refine RU ?_;exact ⟨by rw [if_neg hc],hS⟩;rw [if_neg hn,if_neg hn];refine RT ?_;exact ⟨rfl,hS⟩
theorem Z6D {x:Nd} (h:Zi x≠0):x.kids.length<=3/\∀ y∈x.kids,Zi y≠0:=by
 rw [Z2j] at h;unfold JG at h;refine ⟨?_,λy hy e=>?_⟩;by_cases hl:(x.kids.map Zi).length > 3;rw [if_pos hl] at h;exact absurd rfl h;simpa using hl;by_cases hl:(x.kids.map Zi).length > 3;rw [if_pos hl] at h;exact absurd rfl h;rw [if_neg hl,if_pos (by rw [<- e];exact YaJ hy)] at h;exact absurd rfl h
def Z6E:List Str:=[[110,101,120,116],[112,114,101,118],[108,97,116,101,114],[101,97,114,108,105,101,114],[98,101,116,119,101,101,110]]
inductive Zmw (k:Int) (s:Str) (m:Nat):Prop
 | neg (h:k=5) (hs:s=[45]\/s=[110,111,116]) (hm:m=1)
 | bin (h:k=6) (hs:s∈Z0U\/s∈Z2G\/s∈Z0I) (hm:m=2)
 | unit (h:k=7\/k=8) (hs:s∈ZO) (hm:m=2)
 | cond (h:k=9) (hm:m=3)
 | call (h:k=10) (hs:s∈Z6E) (hm:1<=m/\m<=2)
theorem Zao {x:Nd} (h:Zi x≠0) (hk:x.kids≠[]):x.num=0/\Zmw x.kind x.word x.kids.length:=by
 have hl:=(Z6D h).1;rw [ZdA] at h;have ak:(x.kids.map Zi).length=x.kids.length:=by simp
 have bi:¬ x.kids.map Zi=[]:=by simpa using hk
 generalize x.kids.map Zi=ts at *;rw [<- ak];unfold Z4b at h;rw [if_neg bi] at h;have hn:x.num=0:=Decidable.byContradiction (λhn=>by rw [if_pos hn] at h;exact absurd rfl h);refine ⟨hn,?_⟩;rw [if_neg (by simpa using hn)] at h;have ce:∀ m:List Int,JW ts m=true->ts.length=m.length:=λm hm=>by rw [(Zaj.1 hm).1]
 by_cases k5:x.kind=5;rw [if_pos k5] at h;split at h;rename_i hh;rcases hh with ⟨h1,h2⟩|⟨h1,h2⟩
 exact .neg k5 (.inl h1) (ce _ h2);exact .neg k5 (.inr h1) (ce _ h2);exact absurd rfl h;rw [if_neg k5] at h;by_cases k6:x.kind=6;rw [if_pos k6] at h;unfold Z8V at h;simp only [Z2H] at h;split at h;rename_i hh;exact .bin k6 (.inl hh.1) (ce _ hh.2);split at h;rename_i hh;rcases hh.2 with h2|h2
 exact .bin k6 (.inr (.inl hh.1)) (ce _ h2);exact .bin k6 (.inr (.inl hh.1)) (ce _ h2);split at h;rename_i hh;exact .bin k6 (.inr (.inr hh.1)) (ce _ hh.2);exact absurd rfl h;rw [if_neg k6] at h;by_cases k78:x.kind=7\/x.kind=8;rw [if_pos k78] at h;simp only [Z2H] at h;split at h;rename_i hh;exact .unit k78 hh.1 (ce _ hh.2);exact absurd rfl h;rw [if_neg k78] at h;by_cases k9:x.kind=9;rw [if_pos k9] at h;split at h;rename_i hh;exact .cond k9 hh.2.1;exact absurd rfl h;rw [if_neg k9] at h;by_cases k10:x.kind=10;rw [if_pos k10] at h;unfold Z5R at h;simp only [Z2H] at h;split at h;rename_i hh;refine .call k10 ?_ (by have:=ce _ hh.2;simp at this;omega);have:=hh.1;simp only [Z29,Z6E,Xc,Xn,or_false] at this ⊢;rcases this with h|h<;>simp [h]
 split at h;rename_i hh;refine .call k10 ?_ (by have:=ce _ hh.2;simp at this;omega);have:=hh.1;simp only [Z2a,Z6E,Xc,Xn,or_false] at this ⊢;rcases this with h|h<;>simp [h]
 split at h;rename_i hh;refine .call k10 ?_ (by have:=ce _ hh.2;simp at this;omega);simp [Z6E,hh.1];exact absurd rfl h;rw [if_neg k10] at h;exact absurd rfl h
end Go.Proofs.YtgdicjnjhchooaaGreatDoor
namespace Go.Eng
open Go
structure Ins where
 op:Int
 n:Int
 deriving DecidableEq,Inhabited
instance:Z2 Ins where
 k:=2
 enc:=λx=>[.I x.op,.I x.n]
 len:=λ_=>rfl
 one:=by intro x u hu;simp at hu;rcases hu with rfl|rfl<;>rfl
def agg {α:Type} [Z2 α] (x:α):Value:=aG x
theorem Row.keep {β:Type} [Z2 β] {X S:List Nat} {w w':World} {base T:Nat} {v:Value} {xs:List β} (h:Row X w base T v xs) (hS:Stp S w w') (hd:∀ b∈S,b∉ob v):Row X w' base T v xs:=by
 have h':Row S w base T v xs:=h;have:=h'.ext (X':=X) hS (λb hb=>⟨hb,hd b hb⟩);obtain ⟨css,h1,h2,h3⟩:=h;refine ⟨css,h1,h2,?_⟩;have h4:Row S w base T v xs:=⟨css,h1,h2,h3⟩
 obtain ⟨ho,hr⟩:=h3;refine ⟨ho,?_⟩;rcases hr with hn|⟨q,cap,cur,rfl,hb,hg,rest⟩
 exact .inl hn;refine .inr ⟨q,cap,cur,rfl,hb,?_,rest⟩;rw [hS.block q (Xo.1 hg).1 (λhq=>hd q hq (by simp [ob]))];exact hg
end Go.Eng
namespace Go.Proofs.YtgdicjnjhchooaaGreatDoor
open Go Go.Eng Go.RowKit
theorem Z91 (a b:Int) (w):(Instr.build 151 #[(0,.I a),(1,.I b)]).run Tryz.prog w=.ok (agg (Ins.mk a b)) w:=by kernel_rfl
theorem Z6n (a:Int) (w):(Instr.build 151 #[(0,.I a)]).run Tryz.prog w=.ok (agg (Ins.mk a 0)) w:=by kernel_rfl
theorem Z3M (d:Ins) (w):(Instr.buildSlice 63 1 #[(0,agg d)]).run Tryz.prog w=.ok (.slice (some ⟨w.heap.size,0,none⟩) 1 1) (w.alloc (.cells (Z2.enc d).toArray 151)):=by kernel_rfl
abbrev Cf:=Nat->List Ins
def chC (c y n:Cf) (p0:Nat):List Ins:=
 c p0 ++ [⟨14, ((p0 + (c p0).length + 1 + (y (p0 + (c p0).length + 1)).length + 1 : Nat) : Int)⟩] ++ y (p0 + (c p0).length + 1) ++
   [⟨13,((p0+(c p0).length+1+(y (p0+(c p0).length+1)).length+1+(n (p0+(c p0).length+1+(y (p0+(c p0).length+1)).length+1)).length:Nat):Int)⟩]++n (p0+(c p0).length+1+(y (p0+(c p0).length+1)).length+1)
def Zhb:List (Str×List Int):=[([43],[5]),([42],[7]),([110,111,116],[12]),([60],[9]),([60,61],[10]),([61],[11]),([62],[10,12]),([62,61],[9,12]),([33,61],[11,12]),([100,97,121,115],[15]),([119,101,101,107,115],[16]),([109,111,110,116,104,115],[17]),([99,111,117,114,116,100,97,121,115],[18]),([110,101,120,116],[19]),([112,114,101,118],[20]),([108,97,116,101,114],[21]),([101,97,114,108,105,101,114],[22]),([98,101,116,119,101,101,110],[23])]
def opF (s:Str):List Int:=match Zhb.find? (λp=>decide (p.1=s)) with|some p=>p.2|none=>[]
theorem ZkW (s:Str):(opF s).length<=2:=by
 unfold opF;cases h:Zhb.find? (λp=>decide (p.1=s)) with
 | none=>simp
 | some p=>
   have hp:=YaA h;have:∀ p∈Zhb,p.2.length<=2:=by decide
   exact this p hp
def Jq:List Cf->Nat->List Ins
 | [],_=>[]
 | c :: r,p=>c p++Jq r (p+(c p).length)
theorem Z5S (a b:List Cf) (p:Nat):Jq (a++b) p=Jq a p++Jq b (p+(Jq a p).length):=by
 induction a generalizing p with
 | nil=>simp [Jq]
 | cons c r ih=>
   simp only [Yaa,Jq,ih,Xa,XC];rw [YaK]
theorem ZeA (cs:List Cf) (p i:Nat) (h:i<cs.length):Jq (cs.take (i+1)) p=Jq (cs.take i) p++cs[i] (p+(Jq (cs.take i) p).length):=by
 rw [Xg h,Z5S];simp [Jq]
theorem ZdC (cs:List Cf) (p i:Nat):(Jq (cs.take i) p).length<=(Jq cs p).length:=by
 have:Jq cs p=Jq (cs.take i) p++Jq (cs.drop i) (p+(Jq (cs.take i) p).length):=by rw [<- Z5S,XZ]
 rw [this,Xa];omega
def Z42 (l:List Int):List Ins:=l.map (λo=>⟨o,0⟩)
def Z1M (k:Int) (s:Str) (cs:List Cf) (p:Nat):List Ins:=Jq cs p++(if k=8\/k=5/\s=[45] then [⟨8,0⟩] else [])++Z42 (opF s)
def Z1n (k n:Int) (s:Str):Ins:=if k=1 then ⟨1,n⟩ else if k=2 then ⟨2,n⟩ else if k=3 then ⟨3,n⟩ else ⟨4,(ZK s).1⟩
def Z4l:Cf:=λ_=>[]
def Z1N (k n:Int) (s:Str) (cs:List Cf) (p:Nat):List Ins:=
 if cs.length=0 then [Z1n k n s]
 else if k=9 then chC (cs.getD 0 Z4l) (cs.getD 1 Z4l) (cs.getD 2 Z4l) p
 else if k=6/\s=[97,110,100] then chC (cs.getD 0 Z4l) (cs.getD 1 Z4l) (λ_=>[⟨2,0⟩]) p
 else if k=6/\s=[111,114] then chC (cs.getD 0 Z4l) (λ_=>[⟨2,1⟩]) (cs.getD 1 Z4l) p
 else if k=6/\s=[45] then Z1M k s cs p++[⟨6,0⟩]
 else Z1M k s cs p
def Zc:Nd->Nat->List Ins
 | .mk k n s l=>Z1N k n s (l.map Zc)
theorem Z6F (x:Nd):Zc x=Z1N x.kind x.num x.word (x.kids.map Zc):=by
 cases x;rw [Zc];rfl
theorem Zhc (w):(Instr.build 71 #[(0,.I 2)]).run Tryz.prog w=.ok (.agg #[.I 2,.I 0,str [],.N]) w:=by kernel_rfl
theorem Zhd (w):(Instr.build 71 #[(0,.I 2),(1,.I 1)]).run Tryz.prog w=.ok (.agg #[.I 2,.I 1,str [],.N]) w:=by kernel_rfl
theorem J6 {α:Type} [Z6 α] (X:List Nat) (w:World):SlV (α:=α) X w (.N) []:=⟨none,0,rfl,Xl _,by simp [maxLen],λ_=>rfl,λi h=>absurd h (XF _)⟩
theorem Z2I {α:Type} [Z6 α] {X:List Nat} {w w':World} {v u:Value} {l:List α} {i k j:Nat} (hs:SlV X w v l) (hi:i<l.length) (hS:Stp X w w') (h:w.cell? (Zx v i k j)=some u):w'.cell? (Zx v i k j)=some u:=by
 obtain ⟨p,c,rfl,_,_,_,hc⟩:=hs;obtain ⟨b,o,cs,rfl,_,hx,_⟩:=hc i hi;exact hS.cell hx h
theorem Zcf {x:Nd} (h:x.kids=[]) (p:Nat):Zc x p=[Z1n x.kind x.num x.word]:=by
 rw [Z6F,h];simp [Z1N]
theorem Zcg {x:Nd} {i:Nat} (h:i<x.kids.length):(x.kids.map Zc).getD i Z4l=Zc x.kids[i]:=by simp [List.getD,h]
theorem Zhe (l:List Nd) (h:∀ y∈l,∀ p,(Zc y p).length<=8 * ZT y) (p:Nat):(Jq (l.map Zc) p).length<=8 * (l.map ZT).sum:=by
 induction l generalizing p with
 | nil=>simp [Jq]
 | cons x r ih=>
   simp only [XE,Jq,Xa,Ybk];have h1:=h x (by simp) p;have h2:=ih (λy hy=>h y (by simp [hy])) (p+(Zc x p).length);omega
theorem Zap (l:List Int):(Z42 l).length=l.length:=by simp [Z42]
theorem Zhf {l:List Nd} (h:∀ y∈l,∀ p,(Zc y p).length<=8 * ZT y) (i p:Nat):((l.map Zc).getD i Z4l p).length<=8 * (l.map ZT).getD i 0:=by
 by_cases hi:i<l.length;simp [List.getD,hi];exact h _ (Xb hi) p;simp [List.getD,hi,Z4l]
theorem Zhg (l:List Nat):l.getD 0 0+l.getD 1 0+l.getD 2 0<=l.sum:=by
 rcases l with _|⟨a,_|⟨b,_|⟨c,r⟩⟩⟩<;>simp<;>omega
theorem Z92 (c y n:Cf) (A B C:Nat) (hc:∀ p,(c p).length<=A) (hy:∀ p,(y p).length<=B) (hn:∀ p,(n p).length<=C) (p:Nat):(chC c y n p).length<=A+B+C+2:=by
 unfold chC;simp only [Xa,Xe,Xi];have h1:=hc p;have h2:=hy (p+(c p).length+1);have h3:=hn (p+(c p).length+1+(y (p+(c p).length+1)).length+1);omega
theorem ZeB (x:Nd):∀ p,(Zc x p).length<=8 * ZT x:=by
 induction x using Nd.ind with
 | h k n s l ih=>
 intro p;rw [Z6F,Z0J];show (Z1N k n s (l.map Zc) p).length<=8 * (1+(l.map ZT).sum);have hs:=Zhg (l.map ZT);have g:=Zhf ih;have hp:(Z1M k s (l.map Zc) p).length<=8 * (l.map ZT).sum+3:=by
  unfold Z1M;simp only [Xa,Zap];have h1:=Zhe l ih p;have h2:=ZkW s;have h3:(if k=8\/k=5/\s=[45] then [(⟨8,0⟩:Ins)] else []).length<=1:=by split<;>simp
  omega
 unfold Z1N;split;simp;omega;split;refine Xh (Z92 _ _ _ _ _ _ (g 0) (g 1) (g 2) p) (by omega);split;refine Xh (Z92 _ _ _ _ _ 1 (g 0) (g 1) (λ_=>by simp) p) (by omega);split;refine Xh (Z92 _ _ _ _ 1 _ (g 0) (λ_=>by simp) (g 1) p) (by omega);split;simp only [Xa,Xe,Xi];omega;omega
def JB (x:Nd):List Ins:=Zc x 0++[⟨24,0⟩]
def Z2l (x:Nd):Int:=if ZQ x<=12 then (if Zi x=0 then 21 else if (JB x).length > 200 then 2 else 0) else 2
def ZtK (w:World) (x:Nd) (r:Value) (w':World):Prop:=∃ cv,r=.tuple #[cv,.I (Z2l x)]/\(∀ X:List Nat,(∀ b∈X,b<w.heap.size)->SlV X w' cv (if Z2l x=0 then JB x else []))/\Stp [] w w'
theorem Zq0 (op:BinOp) (x y:Operand) (a b:Ins) (w):(eqGuard op 151 x y (agg a) (agg b)).run Tryz.prog w=.ok () w:=by
 cases op<;>kernel_rfl
end Go.Proofs.YtgdicjnjhchooaaGreatDoor
namespace Go.Eng
open Go Go.RowKit Go.Proofs
def Zk {β:Type} [Z2 β] (T:Nat) (w w':World) (v:Value) (xs:List β):Prop:=Row [] w' w.heap.size T v xs/\Stp [] w w'
section
variable {β:Type} [Z2 β] {T:Nat} {w w' w'':World} {v:Value} {xs ys:List β}
theorem Row.lower {α:Type} [Z6 α] {X:List Nat} {a b:Nat} {xs:List α} (h:Row X w b T v xs) (bM:a<=b):Row X w a T v xs:=by
 obtain ⟨css,h1,h2,h3,h4⟩:=h;refine ⟨css,h1,h2,h3,h4.imp id ?_⟩;rintro ⟨g,cap,cur,e1,e2,rest⟩;exact ⟨g,cap,cur,e1,Xh bM e2,rest⟩
theorem Zk.nil:Zk (β:=β) T w w (.N) []:=⟨Row.nil,Stp.refl _ _⟩
theorem Zk.up (h:Zk T w w' v xs) (hS:Stp [] w' w''):Zk T w w'' v xs:=⟨h.1.up hS,h.2.trans hS⟩
theorem Zk.pre (hS:Stp [] w w') (h:Zk T w' w'' v xs):Zk T w w'' v xs:=⟨h.1.lower hS.size,hS.trans h.2⟩
theorem Zk.one {cs:List Value} {len:Nat} (h:Za w T len cs v w') (hl:len=xs.length) (hc:cs=xs.flatMap Z2.enc) (hm:xs.length<=maxLen):Zk T w w' v xs:=⟨h.row (Xl _) hl hc hm,h.choose_spec.2.2.2⟩
theorem Zk.slv (h:Zk T w w' v xs) {X:List Nat} (hX:∀ b∈X,b<w.heap.size):SlV X w' v xs:=Row.slv (X:=X) h.1 hX
theorem Zk.ob_le (h:Zk T w w' v xs):∀ b∈ob v,w.heap.size<=b/\b<w'.heap.size:=h.1.ob_le
theorem Zk.step {S:List Nat} (h:Zk T w w' v xs) (hS:Stp S w' w'') (ho:∀ b∈S,b∈ob v):Stp [] w w'':=h.2.own hS (λb hb=>.inr (h.ob_le b (ho b hb)).1)
section
variable {P:Program} {n:Nat} {e:Env} {d:Option Nat} {ty:TypeId} {pos:String} {af:Array Edge} {g:Option (Nat×Bool)}
theorem ZZ {x y:Operand} {t bytes:Nat} {u:Value} {z:Value} [ht:Und P t (.slice T)] [hk:Siz P T (Z6.k β)] [hb:Byt P T bytes] [hz:Zer P T z] (dW:z.cells.size=Z6.k β) (aZ:0<Z6.k β)
 (hx:ev e x=some v) (hy:ev e y=some u) (h:Zk T w w' v xs) (cb:SlV (ob v) w' u ys) (hbytes:(xs.length+ys.length) * bytes<=140737488355328) (ak:xs.length+ys.length<=maxLen) :
 OE P n ⟨d,.call { callee:=.builtin .append,args:=#[x,y],argTypes:=#[t,t] },ty,pos,af,g⟩ e w' (λv' w''=>Zk T w w'' v' (xs++ys)/\Stp (ob v) w' w''/\∀ b∈ob v',b∈ob v\/w'.heap.size<=b):=by
 refine (ZC (X:=[]) (base:=w.heap.size) dW aZ hx hy h.1 (by rw [Xz];exact cb) hbytes ak h.2.size).mono ?_;rintro v' w2 ⟨h1,h2,h3⟩;exact ⟨⟨h1,h.step h2 (λ_ hb=>hb)⟩,h2,h3⟩
theorem Z93 {i j k:Nat} {t:TypeId} {x y:Operand} {u:Value} {y':β} [bD:Siz P t 1] (hx:ev e x=some (.pointer (some (Zx v i k j)))) (hy:ev e y=some u) (hk:k=Z2.k β)
 (hu:u.cells.toList=[u]) (h1:u.oneCell'=true) (h:Zk T w w' v xs) (hi:i<xs.length) (hj:j<Z2.k β) (aO:Z2.enc y'=(Z2.enc xs[i]).set j u) :
 OE P n ⟨d,.store t x y,ty,pos,af,g⟩ e w' (λ_ w''=>Zk T w w'' v (xs.set i y')/\Stp (ob v) w' w''):=by
 refine (Z3I (β:=β) hx hy hk hu h1 h.1 hi hj aO).mono ?_;rintro _ w2 ⟨h2,h3⟩;exact ⟨⟨h2,h.step h3 (λ_ hb=>hb)⟩,h3⟩
end
end
structure Sl (α:Type) where
 l:List α
instance {α:Type} [Z6 α]:Z6 (Sl α) where
 k:=1
 rep:=λX w x cs=>∃ v,cs=[v]/\SlV X w v x.l
 len:=by rintro X w x cs ⟨v,rfl,_⟩;rfl
 one:=by
  rintro X w x cs ⟨v,rfl,p,c,rfl,_⟩ u hu;simp at hu;subst hu;rfl
 ext:=by
  rintro X S X' w w' x cs ⟨v,rfl,h⟩ hS h1 h2;exact ⟨v,rfl,h.ext hS h1 h2⟩
theorem Za.slvS {α:Type} [Z6 α] {w w':World} {X:List Nat} {T len:Nat} {vs:List Value} {v:Value} {xss:List (Sl α)} (h:Za w T len vs v w') (hX:∀ b∈X,b<w.heap.size) (hl:len=xss.length) (wM:vs.length=xss.length)
 (hr:∀ i (hi:i<xss.length) (ca:i<vs.length),SlV X w vs[i] xss[i].l) (hm:xss.length<=maxLen):SlV X w' v xss:=by
 obtain ⟨b,rfl,hb,ab,hS⟩:=h;subst hl;refine ⟨some ⟨b,0,none⟩,xss.length,rfl,Xl _,hm,λh=>by simp at h,λi hi=>⟨b,0,[vs[i]'(by omega)],rfl,ab.lt,λhx=>by have:=hX b hx;omega,⟨_,rfl,(hr i hi (by omega)).up hS⟩,λj u hu=>?_⟩⟩;refine ab.cell ?_;have:j=0:=by
  have:=(Xw.1 hu).1;simp at this;exact this
 subst this;simp at hu;subst hu;simp [Z6.k]
theorem SlV.sub {α:Type} [Z6 α] {w} {X:List Nat} {v:Value} {xss:List (Sl α)} {i:Nat} (h:SlV X w v xss) (hi:i<xss.length):∃ u,w.cell? (Zx v i 1 0)=some u/\SlV X w u xss[i].l:=by
 obtain ⟨cs,⟨u,rfl,hu⟩,hc⟩:=h.cell hi;exact ⟨u,hc 0 u rfl,hu⟩
end Go.Eng
namespace Go.Proofs.YtgdicjnjhchooaaGreatDoor
open Go Go.Eng Go.RowKit
theorem Z85 (v:Value) (x:Nd) (w) (hx:NdV [] w v x):CC 166 #[v] w λr w'=>r=agg (Z1n x.kind x.num x.word)/\Stp [] w w':=by
 obtain ⟨kv,rfl,hs⟩:=hx;refine cW1 32 Tryz.func166 ?_;refine W ?_;refine Z0 (Zp rfl) rfl ?_;rintro _ w1 ⟨b,rfl,hb,ab,hS⟩;replace ab:Blk w1 b _ (ndC x kv):=ab;have bD:=hS.size;refine Z0 Z4 rfl ?_;rintro _ w2 ⟨b2,rfl,cg,aK,aj⟩;replace ab:=ab.up aj;replace hS:=hS.trans aj;repeat'(first|refine W1 ?_|omega|refine VG ?_ ?_<;>intro hg|refine VC ?_ ?_<;>intro hc)
 apply Z5 (vs:=[(0,.I 1),(1,.I _)]) rfl (Z91 _ _) rfl;refine SA (us:=Z2.enc (Ins.mk 1 x.num)) aK ?_;rintro _ w3 ⟨aF,bH⟩;refine W ?_;refine JS rfl rfl rfl bH rfl ?_;refine .mk ⟨by rw [Z1n,if_pos (by assumption)];rfl,hS.ow aF⟩;apply Z5 (vs:=[(0,.I 2),(1,.I _)]) rfl (Z91 _ _) rfl;refine SA (us:=Z2.enc (Ins.mk 2 x.num)) aK ?_;rintro _ w3 ⟨aF,bH⟩;refine W ?_;refine JS rfl rfl rfl bH rfl ?_;refine .mk ⟨by rw [Z1n,if_neg (by assumption),if_pos (by assumption)];rfl,hS.ow aF⟩;apply Z5 (vs:=[(0,.I 3),(1,.I _)]) rfl (Z91 _ _) rfl;refine SA (us:=Z2.enc (Ins.mk 3 x.num)) aK ?_;rintro _ w3 ⟨aF,bH⟩;refine W ?_;refine JS rfl rfl rfl bH rfl ?_;refine .mk ⟨by rw [Z1n,if_neg (by assumption),if_neg (by assumption),if_pos (by assumption)];rfl,hS.ow aF⟩;refine CL (Z5Q x.word _) ?_;rintro _ w3 ⟨rfl,aF⟩;replace aK:=aK.up aF;replace hS:=hS.trans aF;refine W ?_;apply Z5 (vs:=[(0,.I 4),(1,.I _)]) rfl (Z91 _ _) rfl;refine SA (us:=Z2.enc (Ins.mk 4 (ZK x.word).1)) aK ?_;rintro _ w4 ⟨aU,bI⟩;refine W ?_;refine JS rfl rfl rfl bI rfl ?_;refine .mk ⟨by rw [Z1n,if_neg (by assumption),if_neg (by assumption),if_neg (by assumption)];rfl,hS.ow aU⟩
def Z3i (k:Int) (s:Str):List Int:=(if k=8\/k=5/\s=[45] then [8] else [])++opF s++(if k=6/\s=[45] then [6] else [])
def Z94:List Str:=[[43],[45],[42],[60],[60,61],[61],[62],[62,61],[33,61]]
def Z95:List (Sl Int):=[⟨[5]⟩,⟨[6]⟩,⟨[7]⟩,⟨[9]⟩,⟨[10]⟩,⟨[11]⟩,⟨[10,12]⟩,⟨[9,12]⟩,⟨[11,12]⟩]
theorem Zhh (a b c d:Int) (w):(Instr.buildSlice 22 4 #[(0,.I a),(1,.I b),(2,.I c),(3,.I d)]).run Tryz.prog w=.ok (.slice (some ⟨w.heap.size,0,none⟩) 4 4) (w.alloc (.cells #[.I a,.I b,.I c,.I d] 3)):=by kernel_rfl
theorem Zhi (a b c d e:Int) (w):(Instr.buildSlice 22 5 #[(0,.I a),(1,.I b),(2,.I c),(3,.I d),(4,.I e)]).run Tryz.prog w=.ok (.slice (some ⟨w.heap.size,0,none⟩) 5 5) (w.alloc (.cells #[.I a,.I b,.I c,.I d,.I e] 3)):=by kernel_rfl
theorem Zhj (a b c d e:Str) (w):(Instr.buildSlice 138 5 #[(0,str a),(1,str b),(2,str c),(3,str d),(4,str e)]).run Tryz.prog w=.ok (.slice (some ⟨w.heap.size,0,none⟩) 5 5) (w.alloc (.cells #[str a,str b,str c,str d,str e] 9)):=by kernel_rfl
theorem Zhk (a b c d e f g h i:Str) (w):(Instr.buildSlice 138 9 #[(0,str a),(1,str b),(2,str c),(3,str d),(4,str e),(5,str f),(6,str g),(7,str h),(8,str i)]).run Tryz.prog w=.ok (.slice (some ⟨w.heap.size,0,none⟩) 9 9) (w.alloc (.cells #[str a,str b,str c,str d,str e,str f,str g,str h,str i] 9)):=by kernel_rfl
theorem Zhl (p0 p1 p2 p3 p4 p5 p6 p7 p8:Option Addr) (l0 l1 l2 l3 l4 l5 l6 l7 l8 c0 c1 c2 c3 c4 c5 c6 c7 c8:Nat) (w):(Instr.buildSlice 280 9 #[(0,.slice p0 l0 c0),(1,.slice p1 l1 c1),(2,.slice p2 l2 c2),(3,.slice p3 l3 c3),(4,.slice p4 l4 c4),(5,.slice p5 l5 c5),(6,.slice p6 l6 c6),(7,.slice p7 l7 c7),(8,.slice p8 l8 c8)]).run Tryz.prog w=.ok (.slice (some ⟨w.heap.size,0,none⟩) 9 9) (w.alloc (.cells #[.slice p0 l0 c0,.slice p1 l1 c1,.slice p2 l2 c2,.slice p3 l3 c3,.slice p4 l4 c4,.slice p5 l5 c5,.slice p6 l6 c6,.slice p7 l7 c7,.slice p8 l8 c8] 22)):=by kernel_rfl
theorem o6 {s:Str} (h:s∈Z0U\/s∈Z2G\/s∈Z0I) (ha:¬ s=[97,110,100]) (ho:¬ s=[111,114]):∃ i,∃ h:i<Z95.length,idx (isS s) Z94=(i:Int)/\Z95[i].l=Z3i 6 s:=by
 simp only [Z0U,Z2G,Z0I,Xc,Xn,or_false] at h;rcases h with (h|h|h)|(h|h|h|h|h|h)|(h|h)<;>subst h
 exact ⟨0,by decide,by decide,by decide⟩;exact ⟨1,by decide,by decide,by decide⟩;exact ⟨2,by decide,by decide,by decide⟩;exact ⟨3,by decide,by decide,by decide⟩;exact ⟨4,by decide,by decide,by decide⟩;exact ⟨5,by decide,by decide,by decide⟩;exact ⟨8,by decide,by decide,by decide⟩;exact ⟨6,by decide,by decide,by decide⟩;exact ⟨7,by decide,by decide,by decide⟩;exact absurd rfl ha;exact absurd rfl ho
theorem oU {s:Str} (h:s∈ZO):∃ i,∃ h:i < [(15:Int),16,17,18].length,idx (isS s) ZO=(i:Int)/\Z3i 7 s=[[(15:Int),16,17,18][i]]/\Z3i 8 s=[8,[(15:Int),16,17,18][i]]:=by
 simp only [ZO,Xc,Xn,or_false] at h;rcases h with h|h|h|h<;>subst h
 exact ⟨0,by decide,by decide,by decide,by decide⟩;exact ⟨1,by decide,by decide,by decide,by decide⟩;exact ⟨2,by decide,by decide,by decide,by decide⟩;exact ⟨3,by decide,by decide,by decide,by decide⟩
theorem oC {s:Str} (h:s∈Z6E):∃ i,∃ h:i < [(19:Int),20,21,22,23].length,idx (isS s) Z6E=(i:Int)/\Z3i 10 s=[[(19:Int),20,21,22,23][i]]:=by
 simp only [Z6E,Xc,Xn,or_false] at h;rcases h with h|h|h|h|h<;>subst h
 exact ⟨0,by decide,by decide,by decide⟩;exact ⟨1,by decide,by decide,by decide⟩;exact ⟨2,by decide,by decide,by decide⟩;exact ⟨3,by decide,by decide,by decide⟩;exact ⟨4,by decide,by decide,by decide⟩
theorem Zch (X:List Nat) (v:Value) (x:Nd) (w:World) (th:∀ b∈X,b<w.heap.size) (eN:Zmw x.kind x.word x.kids.length) (h9:¬ x.kind=9) (ha:¬ (x.kind=6/\x.word=[97,110,100])) (ho:¬ (x.kind=6/\x.word=[111,114])) (hx:NdV [] w v x) :
 CC 168 #[v] w λr w'=>SlV X w' r (Z3i x.kind x.word)/\Stp [] w w':=by
 obtain ⟨kv,rfl,hs⟩:=hx;refine cW1 63 Tryz.func168 ?_;refine W ?_;refine Z0 (Zp rfl) rfl ?_;rintro _ w0 ⟨b,rfl,hb,ab,hS⟩;replace ab:Blk w0 b _ (ndC x kv):=ab;have hX:∀ b∈X,b<w0.heap.size:=λb hb=>Xv (th b hb) hS.size;refine W ?_;refine Z0 (Z1 (vs:=[(0,.I 5)]) rfl (Jj _)) rfl ?_;rintro a0 u0 hN;have s_a0:SlV X u0 a0 [(5:Int)]:=hN.slv hX rfl rfl (by simp [maxLen]);have hT:=Za.stp hN;clear hN;replace ab:=ab.up hT;replace hS:=hS.trans hT;replace hX:=λb hb=>Xv (hX b hb) hT.size;clear hT;refine Z0 (Z1 (vs:=[(0,.I 6)]) rfl (Jj _)) rfl ?_;rintro a1 u1 hN;have s_a1:SlV X u1 a1 [(6:Int)]:=hN.slv hX rfl rfl (by simp [maxLen]);have hT:=Za.stp hN;clear hN;replace ab:=ab.up hT;replace hS:=hS.trans hT;replace hX:=λb hb=>Xv (hX b hb) hT.size;replace s_a0:=s_a0.up hT;clear hT;refine Z0 (Z1 (vs:=[(0,.I 7)]) rfl (Jj _)) rfl ?_;rintro a2 u2 hN;have s_a2:SlV X u2 a2 [(7:Int)]:=hN.slv hX rfl rfl (by simp [maxLen]);have hT:=Za.stp hN;clear hN;replace ab:=ab.up hT;replace hS:=hS.trans hT;replace hX:=λb hb=>Xv (hX b hb) hT.size;replace s_a0:=s_a0.up hT;replace s_a1:=s_a1.up hT;clear hT;refine Z0 (Z1 (vs:=[(0,.I 9)]) rfl (Jj _)) rfl ?_;rintro a3 u3 hN;have s_a3:SlV X u3 a3 [(9:Int)]:=hN.slv hX rfl rfl (by simp [maxLen]);have hT:=Za.stp hN;clear hN;replace ab:=ab.up hT;replace hS:=hS.trans hT;replace hX:=λb hb=>Xv (hX b hb) hT.size;replace s_a0:=s_a0.up hT;replace s_a1:=s_a1.up hT;replace s_a2:=s_a2.up hT;clear hT;refine Z0 (Z1 (vs:=[(0,.I 10)]) rfl (Jj _)) rfl ?_;rintro a4 u4 hN;have s_a4:SlV X u4 a4 [(10:Int)]:=hN.slv hX rfl rfl (by simp [maxLen]);have hT:=Za.stp hN;clear hN;replace ab:=ab.up hT;replace hS:=hS.trans hT;replace hX:=λb hb=>Xv (hX b hb) hT.size;replace s_a0:=s_a0.up hT;replace s_a1:=s_a1.up hT;replace s_a2:=s_a2.up hT;replace s_a3:=s_a3.up hT;clear hT;refine Z0 (Z1 (vs:=[(0,.I 11)]) rfl (Jj _)) rfl ?_;rintro a5 u5 hN;have s_a5:SlV X u5 a5 [(11:Int)]:=hN.slv hX rfl rfl (by simp [maxLen]);have hT:=Za.stp hN;clear hN;replace ab:=ab.up hT;replace hS:=hS.trans hT;replace hX:=λb hb=>Xv (hX b hb) hT.size;replace s_a0:=s_a0.up hT;replace s_a1:=s_a1.up hT;replace s_a2:=s_a2.up hT;replace s_a3:=s_a3.up hT;replace s_a4:=s_a4.up hT;clear hT;refine Z0 (Z1 (vs:=[(0,.I 10),(1,.I 12)]) rfl (Z0H _ _)) rfl ?_;rintro a6 u6 hN;have s_a6:SlV X u6 a6 [(10:Int),(12:Int)]:=hN.slv hX rfl rfl (by simp [maxLen]);have hT:=Za.stp hN;clear hN;replace ab:=ab.up hT;replace hS:=hS.trans hT;replace hX:=λb hb=>Xv (hX b hb) hT.size;replace s_a0:=s_a0.up hT;replace s_a1:=s_a1.up hT;replace s_a2:=s_a2.up hT;replace s_a3:=s_a3.up hT;replace s_a4:=s_a4.up hT;replace s_a5:=s_a5.up hT;clear hT;refine Z0 (Z1 (vs:=[(0,.I 9),(1,.I 12)]) rfl (Z0H _ _)) rfl ?_;rintro a7 u7 hN;have s_a7:SlV X u7 a7 [(9:Int),(12:Int)]:=hN.slv hX rfl rfl (by simp [maxLen]);have hT:=Za.stp hN;clear hN;replace ab:=ab.up hT;replace hS:=hS.trans hT;replace hX:=λb hb=>Xv (hX b hb) hT.size;replace s_a0:=s_a0.up hT;replace s_a1:=s_a1.up hT;replace s_a2:=s_a2.up hT;replace s_a3:=s_a3.up hT;replace s_a4:=s_a4.up hT;replace s_a5:=s_a5.up hT;replace s_a6:=s_a6.up hT;clear hT;refine Z0 (Z1 (vs:=[(0,.I 11),(1,.I 12)]) rfl (Z0H _ _)) rfl ?_;rintro a8 u8 hN;have s_a8:SlV X u8 a8 [(11:Int),(12:Int)]:=hN.slv hX rfl rfl (by simp [maxLen]);have hT:=Za.stp hN;clear hN;replace ab:=ab.up hT;replace hS:=hS.trans hT;replace hX:=λb hb=>Xv (hX b hb) hT.size;replace s_a0:=s_a0.up hT;replace s_a1:=s_a1.up hT;replace s_a2:=s_a2.up hT;replace s_a3:=s_a3.up hT;replace s_a4:=s_a4.up hT;replace s_a5:=s_a5.up hT;replace s_a6:=s_a6.up hT;replace s_a7:=s_a7.up hT;clear hT;obtain ⟨p0,c0,rfl,_⟩:=id s_a0;obtain ⟨p1,c1,rfl,_⟩:=id s_a1;obtain ⟨p2,c2,rfl,_⟩:=id s_a2;obtain ⟨p3,c3,rfl,_⟩:=id s_a3;obtain ⟨p4,c4,rfl,_⟩:=id s_a4;obtain ⟨p5,c5,rfl,_⟩:=id s_a5;obtain ⟨p6,c6,rfl,_⟩:=id s_a6;obtain ⟨p7,c7,rfl,_⟩:=id s_a7;obtain ⟨p8,c8,rfl,_⟩:=id s_a8;refine Z0 (Z1 (vs:=[(0,.slice p0 _ c0),(1,.slice p1 _ c1),(2,.slice p2 _ c2),(3,.slice p3 _ c3),(4,.slice p4 _ c4),(5,.slice p5 _ c5),(6,.slice p6 _ c6),(7,.slice p7 _ c7),(8,.slice p8 _ c8)]) rfl (Zhl _ _ _ _ _ _ _ _ _ _ _ _ _ _ _ _ _ _ _ _ _ _ _ _ _ _ _)) rfl ?_;rintro tw u9 hN;have s_tw:SlV X u9 tw Z95:=hN.slvS (xss:=Z95) hX rfl rfl (λi hi ca=>match i,hi with|0,_=>s_a0|1,_=>s_a1|2,_=>s_a2|3,_=>s_a3|4,_=>s_a4|5,_=>s_a5|6,_=>s_a6|7,_=>s_a7|8,_=>s_a8) (by decide);have hT:=Za.stp hN;clear hN;replace ab:=ab.up hT;replace hS:=hS.trans hT;replace hX:=λb hb=>Xv (hX b hb) hT.size;replace s_a0:=s_a0.up hT;replace s_a1:=s_a1.up hT;replace s_a2:=s_a2.up hT;replace s_a3:=s_a3.up hT;replace s_a4:=s_a4.up hT;replace s_a5:=s_a5.up hT;replace s_a6:=s_a6.up hT;replace s_a7:=s_a7.up hT;replace s_a8:=s_a8.up hT;clear hT;clear s_a0 s_a1 s_a2 s_a3 s_a4 s_a5 s_a6 s_a7 s_a8;refine W ?_;refine Z0 (Z1 (vs:=[(0,.I 19),(1,.I 20),(2,.I 21),(3,.I 22),(4,.I 23)]) rfl (Zhi _ _ _ _ _)) rfl ?_;rintro cl u10 hN;have s_cl:SlV X u10 cl [(19:Int),20,21,22,23]:=hN.slv hX rfl rfl (by simp [maxLen]);have hT:=Za.stp hN;clear hN;replace ab:=ab.up hT;replace hS:=hS.trans hT;replace hX:=λb hb=>Xv (hX b hb) hT.size;replace s_tw:=s_tw.up hT;clear hT;refine W ?_;refine Z0 (Z1 (vs:=[(0,.I 15),(1,.I 16),(2,.I 17),(3,.I 18)]) rfl (Zhh _ _ _ _)) rfl ?_;rintro un u11 hN;have s_un:SlV X u11 un [(15:Int),16,17,18]:=hN.slv hX rfl rfl (by simp [maxLen]);have hT:=Za.stp hN;clear hN;replace ab:=ab.up hT;replace hS:=hS.trans hT;replace hX:=λb hb=>Xv (hX b hb) hT.size;replace s_tw:=s_tw.up hT;replace s_cl:=s_cl.up hT;clear hT;refine W ?_;refine Z0 (Z1 (vs:=[(0,str [100,97,121,115]),(1,str [119,101,101,107,115]),(2,str [109,111,110,116,104,115]),(3,str [99,111,117,114,116,100,97,121,115])]) rfl (Zah _ _ _ _)) rfl ?_;rintro us u12 hN;have s_us:SlV X u12 us ZO:=hN.slv hX rfl rfl (by simp [ZO,maxLen]);have hT:=Za.stp hN;clear hN;replace ab:=ab.up hT;replace hS:=hS.trans hT;replace hX:=λb hb=>Xv (hX b hb) hT.size;replace s_tw:=s_tw.up hT;replace s_cl:=s_cl.up hT;replace s_un:=s_un.up hT;clear hT;refine W ?_;refine CL (Z3f X _ ZO x.word _ s_us) ?_;rintro _ w2 ⟨rfl,hT⟩;replace ab:=ab.up hT;replace s_tw:=s_tw.up hT;replace s_cl:=s_cl.up hT;replace s_un:=s_un.up hT;replace hS:=hS.trans hT;replace hX:=λb hb=>Xv (hX b hb) hT.size;clear hT s_us;have rj:x.kind=7\/x.kind=8->x.word∈ZO:=λhk=>by
  rcases eN with ⟨h,_,_⟩|⟨h,_,_⟩|⟨h,hu,_⟩|⟨h,_⟩|⟨h,_,_⟩<;>first|exact hu|omega
 have ti:x.kind=6->x.word∈Z0U\/x.word∈Z2G\/x.word∈Z0I:=λhk=>by
  rcases eN with ⟨h,_,_⟩|⟨h,hu,_⟩|⟨h,_,_⟩|⟨h,_⟩|⟨h,_,_⟩<;>first|exact hu|omega
 have tj:x.kind=5->x.word=[45]\/x.word=[110,111,116]:=λhk=>by
  rcases eN with ⟨h,hu,_⟩|⟨h,_,_⟩|⟨h,_,_⟩|⟨h,_⟩|⟨h,_,_⟩<;>first|exact hu|omega
 have oD:¬ x.kind=5->¬ x.kind=6->¬ x.kind=7->¬ x.kind=8->x.kind=10/\x.word∈Z6E:=λ_ _ _ _=>by
  rcases eN with ⟨h,_,_⟩|⟨h,_,_⟩|⟨h,_,_⟩|⟨h,_⟩|⟨h,hu,_⟩<;>first|exact ⟨h,hu⟩|omega
 refine W ?_;by_cases k5:x.kind=5;have tk:=tj k5
 (refine QP ?_ ?_<;>intro hc)
 refine Z0 (Z1 (vs:=[(0,.I 8)]) rfl (Jj _)) rfl ?_;rintro r w3 hN;have hr:SlV X w3 r [(8:Int)]:=hN.slv hX rfl rfl (by simp [maxLen]);have hT:=Za.stp hN;refine W ?_;refine WR ?_;have hw:x.word=[45]:=by assumption
 exact .mk ⟨by rw [k5,hw];exact hr,hS.trans hT⟩;refine Z0 (Z1 (vs:=[(0,.I 12)]) rfl (Jj _)) rfl ?_;rintro r w3 hN;have hr:SlV X w3 r [(12:Int)]:=hN.slv hX rfl rfl (by simp [maxLen]);have hT:=Za.stp hN;refine W ?_;refine WR ?_;have hw:x.word=[110,111,116]:=tk.resolve_left (by assumption);exact .mk ⟨by rw [k5,hw];exact hr,hS.trans hT⟩;by_cases k6:x.kind=6;have tm:=ti k6;obtain ⟨i,hi,jH,fg⟩:=o6 tm (λh=>ha ⟨k6,h⟩) (λh=>ho ⟨k6,h⟩);refine QO ?_;refine Z0 (Z1 (vs:=[(0,str [43]),(1,str [45]),(2,str [42]),(3,str [60]),(4,str [60,61]),(5,str [61]),(6,str [62]),(7,str [62,61]),(8,str [33,61])]) rfl (Zhk _ _ _ _ _ _ _ _ _)) rfl ?_;rintro nv w3 hN;have s_n:SlV X w3 nv Z94:=hN.slv hX rfl rfl (by simp [Z94,maxLen]);have hT:=Za.stp hN;replace ab:=ab.up hT;replace s_tw:=s_tw.up hT;replace hS:=hS.trans hT;clear hT hN;refine W ?_;refine CL (Z3f X _ Z94 x.word _ s_n) ?_;rintro _ w4 ⟨rfl,hT⟩;replace ab:=ab.up hT;replace s_tw:=s_tw.up hT;replace hS:=hS.trans hT;rw [jH];obtain ⟨u,am,lO⟩:=s_tw.sub hi;refine W ?_;apply Z9 (Jp rfl rfl am) rfl;refine RT ?_;exact ⟨by rw [k6,<- fg];exact lO,hS⟩;by_cases k7:x.kind=7;obtain ⟨i,hi,jH,fg,_⟩:=oU (rj (.inl k7));rw [jH];refine QO ?_;refine Z0 (Z1 (vs:=[(0,.I _)]) rfl (Jj _)) rfl ?_;rintro r w3 hN;have hr:SlV X w3 r [[(15:Int),16,17,18][i]]:=hN.slv hX rfl rfl (by simp [maxLen]);have hT:=Za.stp hN;refine RT ?_;exact ⟨by rw [k7,fg];exact hr,hS.trans hT⟩;by_cases k8:x.kind=8;obtain ⟨i,hi,jH,_,fg⟩:=oU (rj (.inr k8));rw [jH];refine QO ?_;refine Z0 (Z1 (vs:=[(0,.I 8),(1,.I _)]) rfl (Z0H _ _)) rfl ?_;rintro r w3 hN;have hr:SlV X w3 r [8,[(15:Int),16,17,18][i]]:=hN.slv hX rfl rfl (by simp [maxLen]);have hT:=Za.stp hN;refine RT ?_;exact ⟨by rw [k8,fg];exact hr,hS.trans hT⟩;obtain ⟨k10,oE⟩:=oD k5 k6 k7 k8;obtain ⟨i,hi,jH,fg⟩:=oC oE;refine QO ?_;refine Z0 (Z1 (vs:=[(0,str [110,101,120,116]),(1,str [112,114,101,118]),(2,str [108,97,116,101,114]),(3,str [101,97,114,108,105,101,114]),(4,str [98,101,116,119,101,101,110])]) rfl (Zhj _ _ _ _ _)) rfl ?_;rintro nv w3 hN;have s_n:SlV X w3 nv Z6E:=hN.slv hX rfl rfl (by simp [Z6E,maxLen]);have hT:=Za.stp hN;replace ab:=ab.up hT;replace s_cl:=s_cl.up hT;replace hS:=hS.trans hT;replace hX:=λb hb=>Xv (hX b hb) hT.size;clear hT hN;refine W ?_;refine CL (Z3f X _ Z6E x.word _ s_n) ?_;rintro _ w4 ⟨rfl,hT⟩;replace ab:=ab.up hT;replace s_cl:=s_cl.up hT;replace hS:=hS.trans hT;replace hX:=λb hb=>Xv (hX b hb) hT.size;rw [jH];refine W ?_;refine Z0 (Z1 (vs:=[(0,.I _)]) rfl (Jj _)) rfl ?_;rintro r w5 hN;have hr:SlV X w5 r [[(19:Int),20,21,22,23][i]]:=hN.slv hX rfl rfl (by simp [maxLen]);have hT:=Za.stp hN;refine RT ?_;exact ⟨by rw [k10,fg];exact hr,hS.trans hT⟩
abbrev RwI (w w':World) (v:Value) (xs:List Ins):Prop:=Zk 151 w w' v xs
def Z5r (x:Nd) (f:Cf):Prop:=∀ (w:World) (nv:Value) (p:Nat) (z:Int),z=(p:Int)->NdV [] w nv x->p+(f p).length<=100000->
 CC 98 #[nv,.I z] w λr w'=>RwI w w' r (f p)
theorem Z3j {x y n:Nd} {f g h:Cf} (hx:Z5r x f) (hy:Z5r y g) (hn:Z5r n h) (w) (xv yv nv:Value) (p0:Nat) (z0:Int) (hz:z0=(p0:Int))
 (gx:NdV [] w xv x) (gy:NdV [] w yv y) (gn:NdV [] w nv n) (hl:p0+(chC f g h p0).length<=100000) :
 CC 167 #[xv,yv,nv,.I z0] w λr w'=>RwI w w' r (chC f g h p0):=by
 have dL:=hl;unfold chC at dL;simp only [Xa,Xe,Xi] at dL;obtain ⟨xk,rfl,sx⟩:=gx;obtain ⟨yk,rfl,sy⟩:=gy;obtain ⟨nk,rfl,sn⟩:=gn;subst hz;refine cW4 60 Tryz.func167 ?_;refine W ?_;refine Z0 (Zp rfl) rfl ?_;rintro _ w1 ⟨b1,rfl,fx,k1,ae⟩;replace k1:Blk w1 b1 _ (ndC x xk):=k1;refine Z0 (Zp rfl) rfl ?_;rintro _ w2 ⟨b2,rfl,cg,k2,aj⟩;replace k2:Blk w2 b2 _ (ndC y yk):=k2;refine Z0 (Zp rfl) rfl ?_;rintro _ w3 ⟨b3,rfl,dM,k3,aF⟩;replace k3:Blk w3 b3 _ (ndC n nk):=k3;have hS:=(ae.trans aj).trans aF;replace k1:=(k1.up aj).up aF;replace k2:=k2.up aF;replace sx:=sx.up hS;replace sy:=sy.up hS;replace sn:=sn.up hS;clear ae aj aF;have tp:=chC.eq_1 f g h p0;generalize hA:f p0=A at *;generalize hp:p0+A.length+1=p at *;generalize hB:g p=B at *;generalize wN:p+B.length+1=q at *;generalize hD:h q=D at *;rw [tp];have e1:(A++[(⟨14,0⟩:Ins)]).length=A.length+1:=by simp
 have e2:(A++[(⟨14,0⟩:Ins)]++B).length=A.length+1+B.length:=by simp;omega
 have e3:(A++[(⟨14,0⟩:Ins)]++B++[(⟨13,0⟩:Ins)]).length=A.length+1+B.length+1:=by simp;omega
 have e4:∀ z,(A++[(⟨14,z⟩:Ins)]++B++[(⟨13,0⟩:Ins)]).length=A.length+1+B.length+1:=by simp;omega
 have e5:∀ z,(A++[(⟨14,z⟩:Ins)]++B++[(⟨13,0⟩:Ins)]++D).length=A.length+1+B.length+1+D.length:=by simp;omega
 refine W ?_;refine Z0 (Z3 rfl (Zg rfl rfl) (hx _ _ p0 _ rfl ⟨xk,rfl,sx⟩ (by rw [hA];omega))) rfl ?_;rintro v w4 hr;rw [hA] at hr;have au:=hr.slv (X:=[]) (by simp);refine W ?_;apply Z5 (vs:=[(0,.I 14)]) rfl (Z6n _) rfl;refine Z0 (Z1 (vs:=[(0,agg (Ins.mk 14 0))]) rfl (Z3M _)) rfl ?_;rintro u wb hN;have hu:SlV (ob v) wb u [Ins.mk 14 0]:=hN.slv (λb hb=>(hr.ob_le b hb).2) rfl rfl (by simp [maxLen]);have hT:=Za.stp hN;clear hN;replace hr:=hr.up hT;clear hT au;refine Z0 (ZZ rfl (by decide) rfl rfl hr hu (by simp only [Xe,Xi];omega) (by simp only [Xe,Xi,maxLen];omega)) rfl ?_;clear hu hr;rintro v wc ⟨hr,-,-⟩;have au:=hr.slv (X:=[]) (by simp);have kk:=k2.up hr.2;refine W ?_;refine Z0 (Z3 rfl (Zg rfl rfl) (hy _ _ p _ (by omega) ⟨yk,rfl,sy.up hr.2⟩ (by rw [hB];omega))) rfl ?_;rintro u wd hu;rw [hB] at hu;have cY:=hu.slv (X:=ob v) (λb hb=>(hr.ob_le b hb).2);replace hr:=hr.up hu.2;clear hu au kk;refine Z0 (ZZ rfl (by decide) rfl rfl hr cY (by rw [e1];omega) (by rw [e1];simp only [maxLen];omega)) rfl ?_;clear cY hr;rintro v we ⟨hr,-,-⟩;have au:=hr.slv (X:=[]) (by simp);refine W ?_;apply Z5 (vs:=[(0,.I 13)]) rfl (Z6n _) rfl;refine Z0 (Z1 (vs:=[(0,agg (Ins.mk 13 0))]) rfl (Z3M _)) rfl ?_;rintro u wb hN;have hu:SlV (ob v) wb u [Ins.mk 13 0]:=hN.slv (λb hb=>(hr.ob_le b hb).2) rfl rfl (by simp [maxLen]);have hT:=Za.stp hN;clear hN;replace hr:=hr.up hT;clear hT au;refine Z0 (ZZ rfl (by decide) rfl rfl hr hu (by simp only [e2,Xe,Xi];omega) (by simp only [e2,Xe,Xi,maxLen];omega)) rfl ?_;clear hu hr;rintro v wc ⟨hr,-,-⟩;have au:=hr.slv (X:=[]) (by simp);have cu:A.length<(A++[(⟨14,0⟩:Ins)]++B++[(⟨13,0⟩:Ins)]).length:=by rw [e3];omega
 refine W ?_;have oF:(A++[(⟨14,0⟩:Ins)]++B++[(⟨13,0⟩:Ins)])[A.length]=⟨14,0⟩:=by simp
 have hq1:(p0:Int)+((A++[(⟨14,0⟩:Ins)]++B++[(⟨13,0⟩:Ins)]).length:Int)=(q:Int):=by rw [e3];omega
 refine Z8 (Z93 (i:=A.length) (j:=1) (u:=.I ((p0:Int)+((A++[(⟨14,0⟩:Ins)]++B++[(⟨13,0⟩:Ins)]).length:Int))) (y':=⟨14,(q:Int)⟩) rfl rfl rfl rfl rfl hr cu (by decide) (by rw [oF,<- hq1];rfl)) ?_;have lP:(A++[(⟨14,0⟩:Ins)]++B++[(⟨13,0⟩:Ins)]).set A.length ⟨14,(q:Int)⟩=A++[(⟨14,(q:Int)⟩:Ins)]++B++[(⟨13,0⟩:Ins)]:=by simp
 rw [lP];clear hr au;rintro _ wf ⟨hr,-⟩;have au:=hr.slv (X:=[]) (by simp);have e4':=e4 (q:Int);have kk:=k3.up hr.2;refine W ?_;refine Z0 (Z3 rfl (Zg rfl rfl) (hn _ _ q _ (by omega) ⟨nk,rfl,sn.up hr.2⟩ (by rw [hD];omega))) rfl ?_;rintro u wd hu;rw [hD] at hu;have cY:=hu.slv (X:=ob v) (λb hb=>(hr.ob_le b hb).2);replace hr:=hr.up hu.2;clear hu au kk;refine Z0 (ZZ rfl (by decide) rfl rfl hr cY (by rw [e4];omega) (by rw [e4];simp only [maxLen];omega)) rfl ?_;clear cY hr;rintro v we ⟨hr,-,-⟩;have au:=hr.slv (X:=[]) (by simp);have e5':=e5 (q:Int);have cy:A.length+1+B.length<(A++[(⟨14,(q:Int)⟩:Ins)]++B++[(⟨13,0⟩:Ins)]++D).length:=by rw [e5];omega
 refine W ?_;have e2':(A++[(⟨14,(q:Int)⟩:Ins)]++B).length=A.length+1+B.length:=by simp;omega
 have db:A++[(⟨14,(q:Int)⟩:Ins)]++B++[(⟨13,0⟩:Ins)]++D=(A++[(⟨14,(q:Int)⟩:Ins)]++B)++(⟨13,0⟩:Ins) :: D:=by simp
 rw [e2];have oG:(A++[(⟨14,(q:Int)⟩:Ins)]++B++[(⟨13,0⟩:Ins)]++D)[A.length+1+B.length]=⟨13,0⟩:=by
  rw [YaE (by rw [e4];omega),Yaz (by omega)];simp
 have hq2:(p0:Int)+((A++[(⟨14,(q:Int)⟩:Ins)]++B++[(⟨13,0⟩:Ins)]++D).length:Int)=((q+D.length:Nat):Int):=by rw [e5];omega
 refine Z8 (Z93 (i:=A.length+1+B.length) (j:=1) (u:=.I ((p0:Int)+((A++[(⟨14,(q:Int)⟩:Ins)]++B++[(⟨13,0⟩:Ins)]++D).length:Int))) (y':=⟨13,((q+D.length:Nat):Int)⟩) rfl rfl rfl rfl rfl hr cy (by decide) (by rw [oG,<- hq2];rfl)) ?_;have lQ:(A++[(⟨14,(q:Int)⟩:Ins)]++B++[(⟨13,0⟩:Ins)]++D).set (A.length+1+B.length) ⟨13,((q+D.length:Nat):Int)⟩=A++[(⟨14,(q:Int)⟩:Ins)]++B++[(⟨13,((q+D.length:Nat):Int)⟩:Ins)]++D:=by
  rw [db,List.set_append_right _ _ (by omega),e2'];simp
 rw [lQ];clear hr au;rintro _ wg ⟨hr,-⟩;refine W ?_;refine WR ?_;exact .mk (hr.pre hS)
theorem Zaq (z:Int):Z5r (.mk 2 z [] []) (λ_=>[⟨2,z⟩]):=by
 intro w nv p z0 hz hx hl;have hN:=hx;obtain ⟨kv,rfl,hs⟩:=hx;refine cW2 107 Tryz.func98 ?_;refine W ?_;refine Z0 (Zp rfl) rfl ?_;rintro _ w1 ⟨b,rfl,hb,ab,hS⟩;replace ab:Blk w1 b _ (ndC (.mk 2 z [] []) kv):=ab;replace hs:=hs.up hS;replace hN:=hN.up hS;have jI:(Nd.mk 2 z [] []).kids.length=0:=rfl;refine QO ?_;refine Z0 (Z3 rfl (ZS rfl) (Z85 _ (.mk 2 z [] []) _ hN)) rfl ?_;rintro _ w2 ⟨rfl,aj⟩;refine Z0 (Z1 (vs:=[(0,agg (Ins.mk 2 z))]) rfl (Z3M _)) rfl ?_;rintro u w3 lR;have hr:RwI w2 w3 u [Ins.mk 2 z]:=Zk.one lR rfl rfl (by simp [maxLen]);refine W ?_;refine WR ?_;exact .mk (hr.pre (hS.trans aj))
theorem Z96 {x:Nd} (cs:List Cf) (p:Nat) (bi:¬ cs.length=0) (h9:¬ x.kind=9) (ha:¬ (x.kind=6/\x.word=[97,110,100])) (ho:¬ (x.kind=6/\x.word=[111,114])):Z1N x.kind x.num x.word cs p=Jq cs p++Z42 (Z3i x.kind x.word):=by
 unfold Z1N Z3i Z1M;rw [if_neg bi,if_neg h9,if_neg ha,if_neg ho];by_cases hm:x.kind=6/\x.word=[45]
 rw [if_pos hm,if_pos hm,hm.1,hm.2];simp [Z42];rw [if_neg hm,if_neg hm];by_cases h8:x.kind=8\/x.kind=5/\x.word=[45]
 rw [if_pos h8,if_pos h8];simp [Z42];rw [if_neg h8,if_neg h8];simp [Z42]
theorem ZkX (x:Nd):Zi x≠0->Z5r x (Zc x):=by
 induction x using Nd.ind with
 | h k n s l ih=>
 intro nD;have tq:=(Z6D nD).2;have aR:∀ i (h:i<(Nd.mk k n s l).kids.length),Z5r (Nd.mk k n s l).kids[i] (Zc (Nd.mk k n s l).kids[i]):=by
  intro i h;exact ih _ (Xb h) (tq _ (Xb h))
 have eN:=Zao nD;have nE:=Z6F (.mk k n s l);have tr:=Zcf (x:=.mk k n s l);have jJ:=λi=>Zcg (x:=.mk k n s l) (i:=i);generalize (Nd.mk k n s l)=x at *;clear ih;intro w nv p z0 hz hx hl;subst hz;have hN:=hx;obtain ⟨kv,rfl,hs⟩:=hx;have bh:=hs.max;refine cW2 107 Tryz.func98 ?_;refine W ?_;refine Z0 (Zp rfl) rfl ?_;rintro _ wA ⟨b,rfl,hb,ab,hS⟩;replace ab:Blk wA b _ (ndC x kv):=ab;replace hs:=hs.up hS;replace hN:=hN.up hS;by_cases h0:x.kids=[]
 have jI:x.kids.length=0:=by rw [h0];rfl
 rw [tr h0];refine QO ?_;refine Z0 (Z3 rfl (ZS rfl) (Z85 _ x _ hN)) rfl ?_;rintro _ w2 ⟨rfl,aj⟩;refine Z0 (Z1 (vs:=[(0,agg (Z1n x.kind x.num x.word))]) rfl (Z3M _)) rfl ?_;rintro u w3 lR;have hr:RwI w2 w3 u [Z1n x.kind x.num x.word]:=Zk.one lR rfl rfl (by simp [maxLen]);refine W ?_;refine WR ?_;exact .mk (hr.pre (hS.trans aj));have jg:¬ x.kids.length=0:=λh=>h0 (Ya0 h);have bY:¬ (x.kids.map Zc).length=0:=by simpa using h0
 replace eN:=(eN h0).2;have rk:x.kind=6->x.kids.length=2:=λh6=>by
  rcases eN with ⟨h,_,_⟩|⟨h,_,hm⟩|⟨h,_,_⟩|⟨h,_⟩|⟨h,_,_⟩<;>omega
 have tt:x.kind=9->x.kids.length=3:=λh6=>by
  rcases eN with ⟨h,_,_⟩|⟨h,_,hm⟩|⟨h,_,_⟩|⟨h,hm⟩|⟨h,_,_⟩<;>omega
 by_cases h9:x.kind=9;have h3:=tt h9;have h0:0<x.kids.length:=by omega
 have h1:1<x.kids.length:=by omega
 have h2:2<x.kids.length:=by omega
 have e9:Zc x=chC (Zc x.kids[0]) (Zc x.kids[1]) (Zc x.kids[2]):=by
  funext p;rw [nE,Z1N,if_neg bY,if_pos h9,jJ 0 h0,jJ 1 h1,jJ 2 h2]
 rw [e9] at hl ⊢;refine QO ?_;refine ZDr 15 [] [] [(0,0),(1,1),(2,0),(3,1),(4,0),(5,1),(6,0),(7,1),(8,0),(9,1),(10,0),(11,1),(12,0),(13,2),(14,0)] (λw1 ae=>?_);replace hs:=hs.up ae;replace ab:=ab.up ae;replace hS:=hS.trans ae;obtain ⟨u0,s0,d0⟩:=hs.nd h0;obtain ⟨u1,s1,d1⟩:=hs.nd h1;obtain ⟨u2,s2,d2⟩:=hs.nd h2;refine D ?_;refine WD_read rfl trivial (λw' be=>Z02 rfl rfl (hs.on be (λ_ h=>h)) h0 (λj u hj=>Z2I hs h0 be (d0 j u hj))) rfl ?_;refine D ?_;refine WD_read rfl trivial (λw' be=>Z02 rfl rfl (hs.on be (λ_ h=>h)) h1 (λj u hj=>Z2I hs h1 be (d1 j u hj))) rfl ?_;refine D ?_;refine WD_read rfl trivial (λw' be=>Z02 rfl rfl (hs.on be (λ_ h=>h)) h2 (λj u hj=>Z2I hs h2 be (d2 j u hj))) rfl ?_;refine D ?_;refine DC (Z3j (aR 0 h0) (aR 1 h1) (aR 2 h2) _ _ _ _ p _ rfl ⟨u0,rfl,s0⟩ ⟨u1,rfl,s1⟩ ⟨u2,rfl,s2⟩ hl) (λ_ _ h=>h.2) ?_;rintro _ w5 hq;refine D ?_;refine W ?_;refine WR ?_;exact .mk (hq.pre hS);by_cases ha:x.kind=6/\x.word=[97,110,100]
 . obtain ⟨h6,hw⟩:=ha
   have h2:=rk h6;have h0:0<x.kids.length:=by omega
   have h1:1<x.kids.length:=by omega
   have e9:Zc x=chC (Zc x.kids[0]) (Zc x.kids[1]) (λ_=>[⟨2,0⟩]):=by
    funext p;rw [nE,Z1N,if_neg bY,if_neg h9,if_pos ⟨h6,hw⟩,jJ 0 h0,jJ 1 h1]
   rw [e9] at hl ⊢;repeat'(first|refine W1 ?_|omega|refine VG ?_ ?_<;>intro hg|refine VC ?_ ?_<;>intro hc)
   all_goals first
    | (exfalso;contradiction)
    | skip
   refine ZDr 12 [] [] [(0,0),(1,1),(2,0),(3,1),(4,0),(5,1),(6,0),(7,1),(8,0),(9,0),(10,2),(11,0)] (λw1 ae=>?_);replace hs:=hs.up ae;replace ab:=ab.up ae;replace hS:=hS.trans ae;obtain ⟨u0,s0,d0⟩:=hs.nd h0;obtain ⟨u1,s1,d1⟩:=hs.nd h1;refine D ?_;refine WD_read rfl trivial (λw' be=>Z02 rfl rfl (hs.on be (λ_ h=>h)) h0 (λj u hj=>Z2I hs h0 be (d0 j u hj))) rfl ?_;refine D ?_;refine WD_read rfl trivial (λw' be=>Z02 rfl rfl (hs.on be (λ_ h=>h)) h1 (λj u hj=>Z2I hs h1 be (d1 j u hj))) rfl ?_;refine D ?_;apply Z1I;exact rfl;apply Z1J (vs:=[(0,.I 2)]);exact trivial;exact rfl;exact Zhc;exact rfl;refine D ?_;refine DC (Z3j (aR 0 h0) (aR 1 h1) (Zaq 0) _ _ _ _ p _ rfl ⟨u0,rfl,s0⟩ ⟨u1,rfl,s1⟩ ⟨_,rfl,J6 _ _⟩ hl) (λ_ _ h=>h.2) ?_;rintro _ w5 hq;refine D ?_;refine W ?_;refine WR ?_;exact .mk (hq.pre hS)
 by_cases ho:x.kind=6/\x.word=[111,114]
 . obtain ⟨h6,hw⟩:=ho
   have h2:=rk h6;have wO:¬ x.word=[97,110,100]:=λh=>ha ⟨h6,h⟩;have h0:0<x.kids.length:=by omega
   have h1:1<x.kids.length:=by omega
   have e9:Zc x=chC (Zc x.kids[0]) (λ_=>[⟨2,1⟩]) (Zc x.kids[1]):=by
    funext p;rw [nE,Z1N,if_neg bY,if_neg h9,if_neg ha,if_pos ⟨h6,hw⟩,jJ 0 h0,jJ 1 h1]
   rw [e9] at hl ⊢;repeat'(first|refine W1 ?_|omega|refine VG ?_ ?_<;>intro hg|refine VC ?_ ?_<;>intro hc)
   all_goals first
    | (exfalso;contradiction)
    | skip
   refine ZDr 12 [] [] [(0,0),(1,1),(2,0),(3,1),(4,0),(5,0),(6,1),(7,0),(8,1),(9,0),(10,2),(11,0)] (λw1 ae=>?_);replace hs:=hs.up ae;replace ab:=ab.up ae;replace hS:=hS.trans ae;obtain ⟨u0,s0,d0⟩:=hs.nd h0;obtain ⟨u1,s1,d1⟩:=hs.nd h1;refine D ?_;refine WD_read rfl trivial (λw' be=>Z02 rfl rfl (hs.on be (λ_ h=>h)) h0 (λj u hj=>Z2I hs h0 be (d0 j u hj))) rfl ?_;refine D ?_;apply Z1I;exact rfl;apply Z1J (vs:=[(0,.I 2),(1,.I 1)]);exact trivial;exact rfl;exact Zhd;exact rfl;refine D ?_;refine WD_read rfl trivial (λw' be=>Z02 rfl rfl (hs.on be (λ_ h=>h)) h1 (λj u hj=>Z2I hs h1 be (d1 j u hj))) rfl ?_;refine D ?_;refine DC (Z3j (aR 0 h0) (Zaq 1) (aR 1 h1) _ _ _ _ p _ rfl ⟨u0,rfl,s0⟩ ⟨_,rfl,J6 _ _⟩ ⟨u1,rfl,s1⟩ hl) (λ_ _ h=>h.2) ?_;rintro _ w5 hq;refine D ?_;refine W ?_;refine WR ?_;exact .mk (hq.pre hS)
 have tu:=Z96 (x:=x) _ p bY h9 ha ho;rw [nE,tu] at hl ⊢;have bE:(x.kids.map Zc).length=x.kids.length:=by simp
 generalize hO:Z3i x.kind x.word=O at *;rw [Xa,Zap] at hl;have main:∀ r w',RwI wA w' r (Jq (x.kids.map Zc) p++Z42 O)->RwI w w' r (Jq (x.kids.map Zc) p++Z42 O):=λr w' h=>h.pre hS;repeat'(first|refine W1 ?_|omega|refine VG ?_ ?_<;>intro hg|refine VC ?_ ?_<;>intro hc)
 all_goals first
  | (exfalso;first|exact ha ⟨by assumption,by assumption⟩|exact ho ⟨by assumption,by assumption⟩)
  | skip
 all_goals
  refine LP (σ:=Nat×Value) (λq=>[(1,.I (p:Int)),(2,pQ b),(5,q.2),(6,.I (q.1:Int))]) (λq w'=>q.1<=x.kids.length/\RwI wA w' q.2 (Jq ((x.kids.map Zc).take q.1) p)) (λq=>x.kids.length - q.1) (0,.N) ⟨Xr _,by simpa [Jq] using Zk.nil⟩ ?_;rintro ⟨j,v⟩ w2 ⟨hj,hr⟩;dsimp only at hj hr ⊢;have au:=hr.slv (X:=[]) (by simp);have aX:=hs.up hr.2;have cg:=ab.up hr.2;by_cases hlt:j<x.kids.length;obtain ⟨kv2,cA,eC⟩:=aX.nd hlt;have ax:=ZeA (x.kids.map Zc) p j (by omega);have du:=ZdC (x.kids.map Zc) p (j+1);have tx:=ZdC (x.kids.map Zc) p j;rw [ax,Xa] at du;rw [List.getElem_map] at du ax;refine QO ?_;apply Z9 (Z02 rfl rfl aX hlt eC) rfl;refine W ?_;generalize hA:Jq ((x.kids.map Zc).take j) p=A at *;refine Z0 (Z3 rfl (Zg rfl rfl) (aR j hlt _ _ (p+A.length) _ (by omega) ⟨kv2,rfl,cA⟩ (by omega))) rfl ?_;rintro u w3 hu;have cY:=hu.slv (X:=ob v) (λb hb=>(hr.ob_le b hb).2);replace hr:=hr.up hu.2;clear hu;refine Z0 (ZZ rfl (by decide) rfl rfl hr cY (by omega) (by simp only [maxLen];omega)) rfl ?_;rintro v' w4 ⟨aO,-,-⟩;refine W ?_;refine QL (j+1,v') ⟨by dsimp only;omega,?_⟩ (by dsimp only;omega);dsimp only;rw [ax];exact aO;have gz:j=(x.kids.map Zc).length:=by omega
  subst gz;rw [Xs] at hr au;generalize Jq (x.kids.map Zc) p=A at *;refine QO ?_;refine Z0 (Z3 rfl (ZS rfl) (Zch (ob v) _ x _ (λb hb=>(hr.ob_le b hb).2) eN h9 ha ho ⟨kv,rfl,aX⟩)) rfl ?_;rintro ov w3 ⟨cp,hT⟩;rw [hO] at cp;replace hr:=hr.up hT;clear au aX cg;have wP:=cp.max;refine W ?_;refine LP (σ:=Nat×Value) (λq=>[(5,q.2),(7,ov),(8,.I (q.1:Int))]) (λq w'=>q.1<=O.length/\RwI wA w' q.2 (A++Z42 (O.take q.1))/\SlV (ob q.2) w' ov O) (λq=>O.length - q.1) (0,v) ⟨Xr _,by simpa [Z42] using hr,cp⟩ ?_;clear hr cp hT;rintro ⟨i,v5⟩ w5 ⟨hi,hr,cp⟩;dsimp only at hi hr cp ⊢;by_cases hlt:i<O.length;have eD:(A++Z42 (O.take i)).length=A.length+i:=by simp [Z42];omega
  refine QO ?_;apply Z5 (vs:=[(0,.I _)]) rfl (Z6n _) rfl;refine Z0 (Z1 (vs:=[(0,agg (Ins.mk O[i] 0))]) rfl (Z3M _)) rfl ?_;rintro u w6 lS;have hu:SlV (ob v5) w6 u [Ins.mk O[i] 0]:=lS.slv (λb hb=>(hr.ob_le b hb).2) rfl rfl (by simp [maxLen]);have hT:=Za.stp lS;clear lS;replace hr:=hr.up hT;replace cp:=cp.up hT;refine Z0 (ZZ rfl (by decide) rfl rfl hr hu (by rw [eD];simp only [Xe,Xi];omega) (by rw [eD];simp only [Xe,Xi,maxLen];omega)) rfl ?_;rintro v7 w7 ⟨aO,aW,aJ⟩;refine W ?_;refine QL (i+1,v7) ⟨by dsimp only;omega,?_,cp.ext aW (λ_ h=>h) aJ⟩ (by dsimp only;omega);dsimp only;rw [Xg hlt];unfold Z42 at aO ⊢;rw [XL,<- XC];exact aO;have tz:i=O.length:=by omega
  subst tz;rw [Xs] at hr;refine QO ?_;refine WR ?_;exact .mk (main _ _ hr)
theorem Z31 (v:Value) (x:Nd) (w) (bD:ZT x<=1000) (ci:ZQ x<=1000000) (hx:NdV [] w v x) :
 Calls Tryz.prog 62 #[v] w (Ret (ZtK w x)):=by
 have hN:=hx;obtain ⟨kv,rfl,hs⟩:=hx;refine cW1 24 Tryz.func62 ?_;refine W ?_;refine Z0 (Zp rfl) rfl ?_;rintro _ w1 ⟨b,rfl,hb,ab,hS⟩;replace ab:Blk w1 b _ (ndC x kv):=ab;replace hs:=hs.up hS;replace hN:=hN.up hS;refine W ?_;refine CL (Z6C [] _ x _ (Z3h x bD) ci hN) ?_;rintro _ w2 ⟨rfl,aj⟩;replace hs:=hs.up aj;replace hN:=hN.up aj;replace ab:=ab.up aj;replace hS:=hS.trans aj;by_cases hn:ZQ x<=12
 case neg=>
  rw [if_neg hn,if_neg hn];have he:Z2l x=2:=by rw [Z2l,if_neg hn]
  refine QO ?_;refine WR ?_;refine .mk ⟨_,by rw [he];rfl,λX hX=>?_,hS⟩;rw [he,if_neg (by decide)];exact J6 _ _
 by_cases ht:Zi x=0;rw [if_pos hn,if_pos hn,if_pos ht];have he:Z2l x=21:=by rw [Z2l,if_pos hn,if_pos ht]
 refine QO ?_;refine WR ?_;refine .mk ⟨_,by rw [he];rfl,λX hX=>?_,hS⟩;rw [he,if_neg (by decide)];exact J6 _ _;rw [if_pos hn,if_pos hn,if_neg ht];have ak:=ZeB x 0;refine QO ?_;refine CM (Zg rfl rfl) (ZkX x ht _ _ 0 0 rfl hN (by omega)) ?_;rintro v3 w3 hr;apply Z5 (vs:=[(0,.I 24)]) rfl (Z6n _) rfl;refine Z0 (Z1 (vs:=[(0,agg (Ins.mk 24 0))]) rfl (Z3M _)) rfl ?_;rintro u w4 oH;have hu:SlV (ob v3) w4 u [Ins.mk 24 0]:=oH.slv (λb hb=>(hr.ob_le b hb).2) rfl rfl (by simp [maxLen]);have hT:=Za.stp oH;clear oH;replace hr:=hr.up hT;refine Z0 (ZZ rfl (by decide) rfl rfl hr hu (by simp only [Xe,Xi];omega) (by simp only [Xe,Xi,maxLen];omega)) rfl ?_;clear hu hr hT;rintro v5 w5 ⟨hr,-,-⟩;replace hr:=hr.pre hS;replace hr:RwI w w5 v5 (JB x):=hr;have tB:=hr.slv (X:=[]) (by simp);by_cases hg:(JB x).length > 200;have he:Z2l x=2:=by rw [Z2l,if_pos hn,if_neg ht,if_pos hg]
 refine QO ?_;refine WR ?_;refine .mk ⟨_,by rw [he],λX hX=>?_,hr.2⟩;rw [he,if_neg (by decide)];exact J6 _ _;have he:Z2l x=0:=by rw [Z2l,if_pos hn,if_neg ht,if_neg hg]
 refine QO ?_;refine WR ?_;refine .mk ⟨_,by rw [he],λX hX=>?_,hr.2⟩;rw [he,if_pos rfl];exact hr.slv hX
end Go.Proofs.YtgdicjnjhchooaaGreatDoor
namespace Go.Eng
open Go Go.RowKit Go.Proofs
theorem Za.slvG {α:Type} [Z6 α] {w w':World} {X:List Nat} {T len:Nat} {cs:List Value} {v:Value} {ys:List α} {css:List (List Value)} (h:Za w T len cs v w') (hX:∀ b∈X,b<w.heap.size) (hl:len=ys.length) (bY:css.length=ys.length)
 (hc:cs=css.flatten) (hr:∀ i (hi:i<ys.length) (ca:i<css.length),Z6.rep X w ys[i] css[i]) (hm:ys.length<=maxLen):SlV X w' v ys:=by
 obtain ⟨b,rfl,hb,ab,hS⟩:=h;subst hl;subst hc;have hk:∀ c∈css,c.length=Z6.k α:=by
  intro c hc;obtain ⟨i,hi,rfl⟩:=XB hc;exact Z6.len (hr i (by omega) hi)
 refine ⟨some ⟨b,0,none⟩,ys.length,rfl,Xl _,hm,λh=>by simp at h,λi hi=>⟨b,0,css[i]'(by omega),rfl,ab.lt,λhx=>by have:=hX b hx;omega,Z6.ext (hr i hi (by omega)) hS (by simp) (λb hb=>.inl hb),λj u hu=>?_⟩⟩;refine ab.cell ?_;have:=Z07 css hk i (by omega) j u hu;rw [XJ];exact this
theorem SlV.wk {α:Type} [Z6 α] {X X':List Nat} {w} {v:Value} {l:List α} (h:SlV X w v l) (hs:∀ b∈X',b∈X):SlV X' w v l:=h.ext (Stp.refl [] w) (by simp) (λb hb=>.inl (hs b hb))
end Go.Eng
namespace Go.Proofs.YtgdicjnjhchooaaGreatDoor
open Go Go.Eng Go.RowKit
theorem Z1r (x:Nd):ZQ x<=ZT x:=by
 induction x using Nd.ind with
 | h k n s l ih=>
 rw [Z2k,Z0J];show 1+(l.map ZQ).foldl max 0<=1+(l.map ZT).sum;have:∀ (l:List Nd) (a:Nat),(∀ x∈l,ZQ x<=ZT x)->(l.map ZQ).foldl max a<=a+(l.map ZT).sum:=by
  intro l
  induction l with
  | nil=>intro a _;simp
  | cons y r ihr=>
    intro a h;simp only [XE,X5,Ybk];have h1:=ihr (max a (ZQ y)) (λx hx=>h x (by simp [hx]));have h2:=h y (by simp);omega
 have:=this l 0 ih;omega
theorem Zhm (k n:Int) (s:Str) (p:Option Addr) (l c:Nat) (w):(Instr.buildSlice 69 1 #[(0,.agg #[.I k,.I n,str s,.slice p l c])]).run Tryz.prog w=.ok (.slice (some ⟨w.heap.size,0,none⟩) 1 1) (w.alloc (.cells #[.I k,.I n,str s,.slice p l c] 71)):=by kernel_rfl
theorem ZD (z:Int) (m:Int) (w) (hm:0<m) (hz:I64 z):CC 7 #[.I z,.I m] w λr w'=>r=.I ((if z<0 then -(z+1) else z) % m)/\Stp [] w w':=by
 unfold I64 at hz;refine cW2 13 Tryz.func7 ?_;by_cases h:z<0;refine RT ?_;exact ⟨by rw [if_pos h],Stp.refl _ _⟩;refine RT ?_;exact ⟨by rw [if_neg h],Stp.refl _ _⟩
theorem Jb (z m:Int) (hm:0<m):0<=z % m/\z % m<m:=⟨Ybl _ (by omega),Ya2 _ hm⟩
theorem ZI (X:List Nat) (v:Value) (l:List Int) (i m:Int) (w) (hm:0<m) (hi:I64 i) (hs:SlV X w v l) (hl:∀ a∈l,I64 a):CC 21 #[v,.I i,.I m] w λr w'=>∃ q:Nat,r=.I (q:Int)/\(q:Int)<m/\Stp [] w w':=by
 unfold I64 at hi;have bh:=hs.max;refine cW3 21 Tryz.func21 ?_;refine W ?_;by_cases fj:0<=i/\i<l.length;obtain ⟨h0,h1⟩:=fj;obtain ⟨k,rfl⟩:∃ k:Nat,i=(k:Int):=⟨i.toNat,by omega⟩
 have hk:k<l.length:=by omega
 refine QO ?_;refine CL (ZD _ m _ hm (hl _ (Xb hk))) ?_;rintro _ w2 ⟨rfl,hS⟩;refine W ?_;refine WR ?_;have:=Jb (if l[k]<0 then -(l[k]+1) else l[k]) m hm;exact .mk ⟨_,by rw [X4 this.1],by rw [X4 this.1];exact this.2,hS⟩
 . repeat'(first|refine W1 ?_|omega|refine VG ?_ ?_<;>intro hg|refine VC ?_ ?_<;>intro hc)
   all_goals first
    | (refine RU ?_
       exact ⟨0,rfl,by simpa using hm,Stp.refl _ _⟩)
theorem ZeC (k:Int) (s:Str) (p:Option Addr) (l c:Nat) (w):(Instr.build 71 #[(0,.I k),(2,str s),(3,.slice p l c)]).run Tryz.prog w=.ok (.agg #[.I k,.I 0,str s,.slice p l c]) w:=by kernel_rfl
def szD:Nat->Nat
 | 0=>0
 | d+1=>1+3 * szD d
theorem Zci {d:Nat} (h:1<=d):szD d=1+3 * szD (d - 1):=by
 cases d with
 | zero=>omega
 | succ d=>rfl
theorem ZtL {X:List Nat} {w} {y0:Nd} {k0:Value} (s0:SlV X w k0 y0.kids):∀ i (hi:i < [y0].length) (ca:i < [ndC y0 k0].length),Z6.rep X w [y0][i] [ndC y0 k0][i]
 | 0,_,_=>(show Z41 X w y0 (ndC y0 k0) by rw [y0.eta];exact Z2h s0)
theorem ZtM {X:List Nat} {w} {y0 y1:Nd} {k0 k1:Value} (s0:SlV X w k0 y0.kids) (s1:SlV X w k1 y1.kids):∀ i (hi:i < [y0,y1].length) (ca:i < [ndC y0 k0,ndC y1 k1].length),Z6.rep X w [y0,y1][i] [ndC y0 k0,ndC y1 k1][i]
 | 0,_,_=>(show Z41 X w y0 (ndC y0 k0) by rw [y0.eta];exact Z2h s0)
 | 1,_,_=>(show Z41 X w y1 (ndC y1 k1) by rw [y1.eta];exact Z2h s1)
theorem ZtN {X:List Nat} {w} {y0 y1 y2:Nd} {k0 k1 k2:Value} (s0:SlV X w k0 y0.kids) (s1:SlV X w k1 y1.kids) (s2:SlV X w k2 y2.kids):∀ i (hi:i < [y0,y1,y2].length) (ca:i < [ndC y0 k0,ndC y1 k1,ndC y2 k2].length),Z6.rep X w [y0,y1,y2][i] [ndC y0 k0,ndC y1 k1,ndC y2 k2][i]
 | 0,_,_=>(show Z41 X w y0 (ndC y0 k0) by rw [y0.eta];exact Z2h s0)
 | 1,_,_=>(show Z41 X w y1 (ndC y1 k1) by rw [y1.eta];exact Z2h s1)
 | 2,_,_=>(show Z41 X w y2 (ndC y2 k2) by rw [y2.eta];exact Z2h s2)
theorem Z3k (k n:Int) (w):(Instr.build 71 #[(0,.I k),(1,.I n)]).run Tryz.prog w=.ok (.agg #[.I k,.I n,str [],.N]) w:=by kernel_rfl
theorem Zhn (k n:Int) (s:Str) (p:Option Addr) (l c:Nat) (k' n':Int) (s':Str) (p':Option Addr) (l' c':Nat) (w):(Instr.buildSlice 69 2 #[(0,.agg #[.I k,.I n,str s,.slice p l c]),(1,.agg #[.I k',.I n',str s',.slice p' l' c'])]).run Tryz.prog w=.ok (.slice (some ⟨w.heap.size,0,none⟩) 2 2) (w.alloc (.cells #[.I k,.I n,str s,.slice p l c,.I k',.I n',str s',.slice p' l' c'] 71)):=by kernel_rfl
theorem Zho (k n:Int) (s:Str) (p:Option Addr) (l c:Nat) (k' n':Int) (s':Str) (p':Option Addr) (l' c':Nat) (k'' n'':Int) (s'':Str) (p'':Option Addr) (l'' c'':Nat) (w):(Instr.buildSlice 69 3 #[(0,.agg #[.I k,.I n,str s,.slice p l c]),(1,.agg #[.I k',.I n',str s',.slice p' l' c']),(2,.agg #[.I k'',.I n'',str s'',.slice p'' l'' c''])]).run Tryz.prog w=.ok (.slice (some ⟨w.heap.size,0,none⟩) 3 3) (w.alloc (.cells #[.I k,.I n,str s,.slice p l c,.I k',.I n',str s',.slice p' l' c',.I k'',.I n'',str s'',.slice p'' l'' c''] 71)):=by kernel_rfl
theorem ZtO (k n:Int) (s:Str) (y0:Nd):ZT (.mk k n s [y0])=1+ZT y0:=by rw [Z0J];simp [Nd.kids]
theorem ZtP (k n:Int) (s:Str) (y0 y1:Nd):ZT (.mk k n s [y0,y1])=1+ZT y0+ZT y1:=by rw [Z0J];simp [Nd.kids];omega
theorem ZtQ (k n:Int) (s:Str) (y0 y1 y2:Nd):ZT (.mk k n s [y0,y1,y2])=1+ZT y0+ZT y1+ZT y2:=by rw [Z0J];simp [Nd.kids];omega
theorem ZtR (k n:Int) (s:Str):ZT (.mk k n s [])=1:=by rw [Z0J];simp [Nd.kids]
def Zhp:List Str:=[[101,120,116,114,97],[98,121],[116,111],[99,111,117,114,116],[97,109,111,117,110,116]]
def Zar:List Str:=[[100,97,121],[115,101,114,118,101,100]]
inductive Gn:Int->Nat->Nd->Prop
 | num (d:Nat) (n:Int) (h:0<=n/\n<25):Gn 1 d (.mk 1 n [] [])
 | fldN (d:Nat) (s:Str) (h:s∈Zhp):Gn 1 d (.mk 4 0 s [])
 | fldD (d:Nat) (s:Str) (h:s∈Zar):Gn 3 d (.mk 4 0 s [])
 | day (d:Nat) (n:Int) (h:739616<=n/\n<739676):Gn 3 d (.mk 3 n [] [])
 | bool (d:Nat) (n:Int) (h:n=0\/n=1):Gn 2 d (.mk 2 n [] [])
 | neg (d:Nat) (a:Nd):Gn 1 d a->Gn 1 (d+1) (.mk 5 0 [45] [a])
 | not (d:Nat) (a:Nd):Gn 2 d a->Gn 2 (d+1) (.mk 5 0 [110,111,116] [a])
 | btw (d:Nat) (a b:Nd):Gn 3 d a->Gn 3 d b->Gn 1 (d+1) (.mk 10 0 [98,101,116,119,101,101,110] [a,b])
 | cond (d:Nat) (t:Int) (c a b:Nd) (h:t=1\/t=3):Gn 2 d c->Gn t d a->Gn t d b->Gn t (d+1) (.mk 9 0 [] [c,a,b])
 | arith (d:Nat) (s:Str) (a b:Nd) (h:s∈Z0U):Gn 1 d a->Gn 1 d b->Gn 1 (d+1) (.mk 6 0 s [a,b])
 | adj (d:Nat) (s:Str) (a:Nd) (h:s∈Z29):Gn 3 d a->Gn 3 (d+1) (.mk 10 0 s [a])
 | two (d:Nat) (s:Str) (a b:Nd) (h:s∈Z2a):Gn 3 d a->Gn 3 d b->Gn 3 (d+1) (.mk 10 0 s [a,b])
 | move (d:Nat) (k:Int) (s:Str) (a b:Nd) (hk:k=7\/k=8) (h:s∈ZO):Gn 3 d a->Gn 1 d b->Gn 3 (d+1) (.mk k 0 s [a,b])
 | logic (d:Nat) (s:Str) (a b:Nd) (h:s∈Z0I):Gn 2 d a->Gn 2 d b->Gn 2 (d+1) (.mk 6 0 s [a,b])
 | cmp (d:Nat) (t:Int) (s:Str) (a b:Nd) (ht:t=1\/t=3) (h:s∈Z2G):Gn t d a->Gn t d b->Gn 2 (d+1) (.mk 6 0 s [a,b])
theorem Z18 (d:Nat):1<=szD (d+1):=by show 1<=1+3 * szD d;omega
theorem Gn.size {t:Int} {d:Nat} {x:Nd} (h:Gn t d x):ZT x<=szD (d+1):=by
 induction h with
 | num d|fldN d|fldD d|day d|bool d=>rw [ZtR];exact Z18 d
 | neg d|not d|adj d=>rw [ZtO,Zci (by omega)];simp only [YbE];omega
 | btw d|arith d|two d|move d|logic d|cmp d=>rw [ZtP,Zci (by omega)];simp only [YbE];omega
 | cond d=>rw [ZtQ,Zci (by omega)];simp only [YbE];omega
end Go.Proofs.YtgdicjnjhchooaaGreatDoor
namespace Go.Eng
open Go Go.RowKit Go.Proofs
structure WT (P:Program) (n:Nat) (ops:Array Oper) (S:List Nat) (Lt:List Nat) (Q:Exit->Act->World->Prop) (listed:Array Bool) (fuel:Nat) (e:Env) (w:World):Prop where
 h:∀ a,Has n e a->Z8Q P .any ops S (λj=>Lt.contains j) (λa w=>Q .normal a w) fuel listed a w
structure WT1 (P:Program) (n:Nat) (ops:Array Oper) (S:List Nat) (Lt:List Nat) (Q:Exit->Act->World->Prop) (i:Nat) (listed:Array Bool) (fuel:Nat) (e:Env) (w:World):Prop where
 h:∀ a,Has n e a->wpOp P ops (λ_ _ _=>False) i (λa' w'=>(Stp S w w'\/Lt.contains i=true)/\Z8Q P .any ops S (λj=>Lt.contains j) (λa w=>Q .normal a w) fuel (listed.setIfInBounds i true) a' w') a w
section rules
variable {P:Program} {n:Nat} {Q:Exit->Act->World->Prop} {e:Env} {w:World} {ops:Array Oper} {S:List Nat} {Lt:List Nat} {listed:Array Bool} {fuel:Nat}
theorem Z3N {id:Nat} {l:List Oper} (m:Nat) (S:List Nat) (Lt:List Nat) (ce:l.length=m) (hm:P.follows .mixedOrders=true)
 (h:∀ w',Stp [] w w'->WT P n l.toArray S Lt Q (Array.replicate m false) m e w'):WC P n (.region id l.toArray true) Q e w:=by
 subst ce;refine ⟨λa ha=>wp_region_any hm ?_⟩;have h1:=(h { w with drawn:=w.drawn+1 } (Stp.drew [] w)).h a ha;have h2:=Z0u (Q:=Q) (λa w hz=>hz) _ _ _ _ h1;simpa using h2
theorem Z43 (ord:List (Nat×Nat)) (hs:Region.noSelect ops=true) (hB:J5 ops Lt ord listed=true) (hl:Nat.beq (wt ord) fuel=true) (h:WD P n ops S Lt Q ord e w):WT P n ops S Lt Q listed fuel e w:=by
 have:=Xq hl;subst this;exact ⟨λa ha=>h.h _ hs hB a ha⟩
theorem Z1g (i q:Nat) (hr:(Region.ready .any ops listed == [i,q])=true) (h1:WT1 P n ops S Lt Q i listed fuel e w) (h2:WT1 P n ops S Lt Q q listed fuel e w):WT P n ops S Lt Q listed (fuel+1) e w:=by
 have hr:=beq_iff_eq.1 hr;refine ⟨λa ha=>⟨λh0=>absurd (hr ▸ h0) (by simp),λj hj=>?_⟩⟩;rw [hr] at hj;have gj:j=i\/j=q:=by simpa using hj
 rcases gj with rfl|rfl
 exact h1.h a ha;exact h2.h a ha
variable {i d:Nat} {op:Op} {ty:TypeId} {pos:String} {af:Array Edge} {gd:Option (Nat×Bool)} {v:Value}
theorem Zq1 {o:Oper} {dst:Option Nat} {G:Value->World->Prop} (hi:ops[i]?=some o) (eJ:o.dst=dst) (hg:Z08 ops e o.guard) (hp:OE P n o e w (λv w'=>(Stp S w w'\/Lt.contains i=true)/\G v w'))
 (k:∀ v w' a',G v w'->∀ a,Has n e a->a'=a.put dst v->∃ e',Has n e' a'/\WT P n ops S Lt Q (listed.setIfInBounds i true) fuel e' w'):WT1 P n ops S Lt Q i listed fuel e w:=by
 refine ⟨λa ha=>?_⟩;unfold wpOp;simp only [hi];rw [if_pos (Z01 ha hg)];refine .inl (Oper.wp_mono ?_ (hp.h a ha _));rintro a' w' ⟨v,rfl,bP,hG⟩;obtain ⟨e',ix,hk⟩:=k v w' (a.put o.dst v) hG a ha (by rw [eJ]);exact ⟨bP,hk.h _ ix⟩
theorem ZV {G:Value->World->Prop} (hi:ops[i]?=some ⟨some d,op,ty,pos,af,gd⟩) (hg:Z08 ops e gd) (hp:OE P n ⟨some d,op,ty,pos,af,gd⟩ e w G) (hG:∀ v w',G v w'->Stp S w w') (aB:Nat.blt d n=true)
 (k:∀ v w',G v w'->WT P n ops S Lt Q (listed.setIfInBounds i true) fuel ((d,v) :: e) w'):WT1 P n ops S Lt Q i listed fuel e w:=
 Zq1 (G:=G) hi rfl hg (hp.mono λv w' h=>⟨.inl (hG v w' h),h⟩) (λv w' a' h a ha e=>⟨_,by rw [e];exact ha.put aB,k v w' h⟩)
theorem Zhq (i:Nat) {o:Oper} (hi:ops[i]?=some o) (hd:o.dst=some d) (hY:∀ a,Has n e a->YE P ops (λ_ _=>True) o v a w) (aB:Nat.blt d n=true) (hs:Region.noSelect ops=true)
 (hB:((Region.ready .any ops listed).contains i && Region.free .any ops listed i)=true)
 (k:WT P n ops S Lt Q (listed.setIfInBounds i true) fuel ((d,v) :: e) w):WT P n ops S Lt Q listed (fuel+1) e w:=by
 refine ⟨λa ha=>?_⟩;simp only [Xf] at hB;have hk:=k.h _ (ha.put (v:=v) aB);rw [<- hd] at hk;exact Z4y (R:=λ_ _=>True) (λ_=>trivial) (λ_ _ _ _ _=>trivial) hi (λ_ _ _ _ _ _ _ _=>trivial) (Region.noSelect_spec hs) _ _ _ _ (Region.free_spec hi hB.2) (λ_=>trivial) (by simpa using hB.1) (hY a ha) hk
theorem Zhr (i:Nat) {o:Oper} (hi:ops[i]?=some o) (hd:o.dst=some d) (hY:∀ a,Has n e a->YE P ops (Stp S) o v a w) (aB:Nat.blt d n=true) (hs:Region.noSelect ops=true)
 (hB:((Region.ready .any ops listed).contains i && Region.free .any ops listed i && Zdq ops Lt i)=true)
 (k:WT P n ops S Lt Q (listed.setIfInBounds i true) fuel ((d,v) :: e) w):WT P n ops S Lt Q listed (fuel+1) e w:=by
 refine ⟨λa ha=>?_⟩;simp only [Xf] at hB;obtain ⟨⟨h1,h2⟩,hb⟩:=hB;have hk:=k.h _ (ha.put (v:=v) aB);rw [<- hd] at hk;refine Z4y (R:=Stp S) (λw=>Stp.refl _ w) (λ_ _ _ h k=>h.trans k) hi (λj oj hj hn cM w w' hs=>?_) (Region.noSelect_spec hs) _ _ _ _ (Region.free_spec hi h2) (λ_=>trivial) (by simpa using h1) (hY a ha) hk;rcases hs with hs|hs
 exact hs;rw [Z6x hb hj hn cM] at hs;cases hs
theorem JI (i:Nat) (hi:ops[i]?=some ⟨some d,op,ty,pos,af,gd⟩) (hg:Z08 ops e gd) (hp:∀ w',PR P n ⟨some d,op,ty,pos,af,gd⟩ e w' v) (aB:Nat.blt d n=true) (hs:Region.noSelect ops=true)
 (hB:((Region.ready .any ops listed).contains i && Region.free .any ops listed i)=true)
 (k:WT P n ops S Lt Q (listed.setIfInBounds i true) fuel ((d,v) :: e) w):WT P n ops S Lt Q listed (fuel+1) e w:=
 Zhq i hi rfl (λa ha=>.inl ⟨Z01 ha hg,λw' _=>(hp w').h a ha⟩) aB hs hB k
theorem Z97 (i:Nat) (hi:ops[i]?=some ⟨some d,op,ty,pos,af,gd⟩) (hg:Z08 ops e gd) (hp:∀ w',Stp S w w'->PR P n ⟨some d,op,ty,pos,af,gd⟩ e w' v) (aB:Nat.blt d n=true) (hs:Region.noSelect ops=true)
 (hB:((Region.ready .any ops listed).contains i && Region.free .any ops listed i && Zdq ops Lt i)=true)
 (k:WT P n ops S Lt Q (listed.setIfInBounds i true) fuel ((d,v) :: e) w):WT P n ops S Lt Q listed (fuel+1) e w:=
 Zhr i hi rfl (λa ha=>.inl ⟨Z01 ha hg,λw' hw=>(hp w' hw).h a ha⟩) aB hs hB k
end rules
end Go.Eng
namespace Go.Proofs.YtgdicjnjhchooaaGreatDoor
open Go Go.Eng Go.RowKit
theorem bS1 (a:Str) (w):(Instr.buildSlice 138 1 #[(0,str a)]).run Tryz.prog w=.ok (.slice (some ⟨w.heap.size,0,none⟩) 1 1) (w.alloc (.cells #[str a] 9)):=by kernel_rfl
theorem bS2 (a b:Str) (w):(Instr.buildSlice 138 2 #[(0,str a),(1,str b)]).run Tryz.prog w=.ok (.slice (some ⟨w.heap.size,0,none⟩) 2 2) (w.alloc (.cells #[str a,str b] 9)):=by kernel_rfl
theorem bS3 (a b c:Str) (w):(Instr.buildSlice 138 3 #[(0,str a),(1,str b),(2,str c)]).run Tryz.prog w=.ok (.slice (some ⟨w.heap.size,0,none⟩) 3 3) (w.alloc (.cells #[str a,str b,str c] 9)):=by kernel_rfl
theorem bS5 (a b c d e:Str) (w):(Instr.buildSlice 138 5 #[(0,str a),(1,str b),(2,str c),(3,str d),(4,str e)]).run Tryz.prog w=.ok (.slice (some ⟨w.heap.size,0,none⟩) 5 5) (w.alloc (.cells #[str a,str b,str c,str d,str e] 9)):=by kernel_rfl
theorem bS6 (a b c d e f:Str) (w):(Instr.buildSlice 138 6 #[(0,str a),(1,str b),(2,str c),(3,str d),(4,str e),(5,str f)]).run Tryz.prog w=.ok (.slice (some ⟨w.heap.size,0,none⟩) 6 6) (w.alloc (.cells #[str a,str b,str c,str d,str e,str f] 9)):=by kernel_rfl
abbrev Mk3 (w:World) (bm:Nat) (lv:Value) (i:Nat):Prop:=Blk w bm 130 [lv,.I (i:Int)]
theorem Z03 (bm:Nat) (lv:Value) (l:List Int) (i:Nat) (n:Int) (w) (hn:0<n) (hi:i<=1000000) (hb:Mk3 w bm lv i) (hs:SlV [bm] w lv l) (hl:∀ a∈l,I64 a) :
 CC 59 #[pQ bm,.I n] w λr w'=>∃ q:Nat,r=.I (q:Int)/\(q:Int)<n/\Mk3 w' bm lv (i+1)/\Stp [bm] w w':=by
 refine cW2 23 Tryz.func59 ?_;refine W ?_;refine S1 (u:=.I ((i:Int)+1)) hb ?_;rintro _ w1 ⟨lT,fx⟩;replace fx:Mk3 w1 bm lv (i+1):=fx;replace hs:=hs.ext lT (λ_ h=>h) (λ_ h=>.inl h);replace hs:SlV [] w1 lv l:=hs.wk (by simp);refine W ?_;refine ZDr 12 [] [] [(0,0),(1,0),(2,0),(3,1),(4,0),(5,0),(6,0),(7,1),(8,0),(9,0),(10,2),(11,0)] (λw1 ae=>?_);replace fx:=fx.up ae;replace hs:=hs.up ae;refine D ?_;refine Z7 rfl trivial (Z3 rfl (ZJ rfl rfl rfl) (ZI [] _ l _ n _ hn (by unfold I64;omega) hs hl)) (λ_ _ h=>h.choose_spec.2.2) rfl ?_;rintro _ w3 ⟨q,rfl,hq,aF⟩;replace fx:=fx.up aF;refine D ?_;refine RT ?_;exact ⟨q,rfl,hq,fx,(lT.trans ae.mn).trans aF.mn⟩
theorem Z5s (bm:Nat) (lv:Value) (l:List Int) (i:Nat) (d:Nat) (z:Int) (w) (hz:z=(d:Int)) (hb:Mk3 w bm lv i) (hs:SlV [bm] w lv l) :
 CC 158 #[pQ bm,.I z] w λr w'=>∃ b:Bool,r=.B b/\(d=0->b=true)/\Stp [] w w':=by
 subst hz;refine cW2 19 Tryz.func158 ?_;refine W ?_;by_cases h0:d=0;refine ZDr 15 [] [] [(0,0),(1,0),(2,0),(3,0),(4,0),(5,0),(6,1),(7,0),(8,0),(9,0),(10,1),(11,0),(12,0),(13,0),(14,0)] (λw1 ae=>?_);refine D ?_;have e0:((d:Int)<=0):=by omega
 simp only [e0,decide_true];refine D ?_;refine RT ?_;exact ⟨true,rfl,λ_=>rfl,ae⟩;refine ZDr 15 [] [] [(0,0),(1,0),(2,0),(3,0),(4,0),(5,0),(6,1),(7,0),(8,0),(9,0),(10,1),(11,0),(12,0),(13,0),(14,0)] (λw1 ae=>?_);replace hb:=hb.up ae;replace hs:=hs.up ae;refine D ?_;have e0:¬ ((d:Int)<=0):=by omega
 simp only [e0,decide_false];refine D ?_;refine RT ?_;exact ⟨_,rfl,λh=>absurd h h0,ae⟩
theorem Zcj (X:List Nat) (k:Int) (s:Str) (kv:Value) (kids:List Nd) (w:World) (hX:∀ b∈X,b<w.heap.size) (hs:SlV X w kv kids):CC 159 #[.I k,str s,kv] w λr w'=>NdV X w' r (.mk k 0 s kids)/\Stp [] w w':=by
 obtain ⟨p,c,rfl,-⟩:=id hs;refine cW3 11 Tryz.func159 ?_;refine W ?_;refine Z0 Z4 rfl ?_;rintro _ w1 ⟨b,rfl,hb,ab,hS⟩;refine W ?_;apply Z5 (vs:=[(0,.I k),(2,str s),(3,.slice p kids.length c)]) rfl (ZeC _ _ _ _ _) rfl;refine SB (us:=ndC (.mk k 0 s kids) (.slice p kids.length c)) (JH hs) ab ?_;rintro _ w2 ⟨aj,aK⟩;have hT:=hS.ow aj;refine W ?_;refine JS rfl rfl rfl aK rfl ?_;exact .mk ⟨⟨_,rfl,hs.up hT⟩,hT⟩
def ZtS (k:Int):List Str:=if k=1 then [[111,114]] else if k=2 then [[97,110,100]] else if k=4 then Z2G else if k=5 then [[43],[45]] else [[42]]
theorem Z6d (X:List Nat) (k:Int) (w:World) (hX:∀ b∈X,b<w.heap.size):CC 221 #[.I k] w λr w'=>SlV X w' r (ZtS k)/\Stp [] w w':=by
 refine cW1 17 Tryz.func221 ?_;have key:∀ (n:Nat) (vs:List Value) (v:Value) (w':World) (ys:List Str),Za w n ys.length vs v w'->vs=ys.flatMap Z2.enc->ys.length<=maxLen->SlV X w' v ys:=λn vs v w' ys h e hm=>Za.slv h hX rfl e hm;by_cases h1:k=1;subst h1;refine QO ?_;refine Z0 (Z1 (vs:=[(0,str [111,114])]) rfl (bS1 _)) rfl ?_;rintro v w1 hN;have hv:SlV X w1 v ([[111,114]]:List Str):=hN.slv hX rfl rfl (by decide);have hT:=Za.stp hN;refine RT ?_;exact ⟨hv,hT⟩;by_cases h2:k=2;subst h2;refine QO ?_;refine Z0 (Z1 (vs:=[(0,str [97,110,100])]) rfl (bS1 _)) rfl ?_;rintro v w1 hN;have hv:SlV X w1 v ([[97,110,100]]:List Str):=hN.slv hX rfl rfl (by decide);have hT:=Za.stp hN;refine RT ?_;exact ⟨hv,hT⟩;by_cases h4:k=4;subst h4;refine QO ?_;refine Z0 (Z1 (vs:=[(0,str [60]),(1,str [60,61]),(2,str [61]),(3,str [33,61]),(4,str [62]),(5,str [62,61])]) rfl (bS6 _ _ _ _ _ _)) rfl ?_;rintro v w1 hN;have hv:SlV X w1 v Z2G:=hN.slv hX rfl rfl (by decide);have hT:=Za.stp hN;refine RT ?_;exact ⟨hv,hT⟩;by_cases h5:k=5;subst h5;refine QO ?_;refine Z0 (Z1 (vs:=[(0,str [43]),(1,str [45])]) rfl (bS2 _ _)) rfl ?_;rintro v w1 hN;have hv:SlV X w1 v ([[43],[45]]:List Str):=hN.slv hX rfl rfl (by decide);have hT:=Za.stp hN;refine RT ?_;exact ⟨hv,hT⟩;refine QO ?_;refine Z0 (Z1 (vs:=[(0,str [42])]) rfl (bS1 _)) rfl ?_;rintro v w1 hN;have hv:SlV X w1 v ([[42]]:List Str):=hN.slv hX rfl rfl (by decide);have hT:=Za.stp hN;refine RT ?_;exact ⟨by unfold ZtS;rw [if_neg h1,if_neg h2,if_neg h4,if_neg h5];exact hv,hT⟩
theorem Z4C (q:Nat) (w) (hq:q<6):CC 160 #[.I (q:Int)] w λr w'=>(∃ s∈Z2G,r=str s)/\Stp [] w w':=by
 refine cW1 7 Tryz.func160 ?_;refine W ?_;refine CM (ZS rfl) (Z6d [] 4 _ (by simp)) ?_;rintro v w1 ⟨hv,hS⟩;replace hv:SlV [] w1 v Z2G:=hv;have bV:q<Z2G.length:=by show q<6;exact hq
 refine RT ?_;exact ⟨⟨_,Xb bV,rfl⟩,hS⟩
structure G3 (X:List Nat) (w0 w:World) (bm b4:Nat) (lv:Value) (l:List Int) (i:Nat):Prop where
 mkr:Mk3 w bm lv i
 sl:SlV [bm] w lv l
 stp:Stp [bm] w0 w
 blk:∃ cs:List Value,cs.length=4/\Blk w b4 71 cs
 ne:b4≠bm
 hX:∀ b∈X,b<w.heap.size
theorem G3.nxt {X:List Nat} {w0 w w':World} {bm b4:Nat} {lv:Value} {l:List Int} {i i':Nat} (h:G3 X w0 w bm b4 lv l i) (hm:Mk3 w' bm lv i') (hS:Stp [bm] w w'):G3 X w0 w' bm b4 lv l i':=
 ⟨hm,h.sl.ext hS (λ_ h=>h) (λ_ h=>.inl h),h.stp.trans hS,h.blk.imp (λcs hc=>⟨hc.1,hc.2.ext hS (by simpa using h.ne)⟩),h.ne,λb hb=>Xv (h.hX b hb) hS.size⟩
theorem G3.up {X:List Nat} {w0 w w':World} {bm b4:Nat} {lv:Value} {l:List Int} {i:Nat} (h:G3 X w0 w bm b4 lv l i) (hS:Stp [] w w'):G3 X w0 w' bm b4 lv l i:=
 h.nxt (h.mkr.up hS) hS.mn
theorem G3.fin {X:List Nat} {w0 w1 w w':World} {bm b4:Nat} {lv:Value} {l:List Int} {i:Nat} {y:Nd} {ky:Value} (h:G3 (b4 :: bm :: X) w1 w bm b4 lv l i) (hw:Stp [] w0 w1) (hb:w0.heap.size<=b4) (hy:SlV (b4 :: bm :: X) w ky y.kids) (hS:Stp [b4] w w') :
 NdV X w' (.agg (ndC y ky).toArray) y/\Mk3 w' bm lv i/\Stp [bm] w0 w':=
 ⟨⟨ky,rfl,(hy.ext (X':=b4 :: bm :: X) hS (by simp) (λ_ h=>.inl h)).wk (λc hc=>by simp [hc])⟩,h.mkr.ext hS (by simpa using h.ne.symm),(hw.mn.trans h.stp).ow hS⟩
def Z1Z (f:Nat) (t:Int) (d:Nat):Prop:=∀ (X:List Nat) (w:World) (bm:Nat) (lv:Value) (l:List Int) (i:Nat) (z:Int),z=(d:Int)->Mk3 w bm lv i->SlV [bm] w lv l->(∀ a∈l,I64 a)->i+3 * szD (d+1)<=100000->(∀ b∈X,b<w.heap.size)->
 CC f #[pQ bm,.I z] w λr w'=>∃ y i',NdV X w' r y/\Gn t d y/\Mk3 w' bm lv i'/\i'<=i+3 * szD (d+1)/\Stp [bm] w w'
theorem Jy {w w1 w2:World} {b:Nat} (h:Stp [] w w1) (hb:w.heap.size<=b) (h2:Stp [b] w1 w2):Stp [] w w2:=h.ow h2
structure FnP (X:List Nat) (w0 w1 w:World) (bm b4:Nat) (lv:Value) (l:List Int) (i j:Nat) (y:Nd) (ky:Value) (g:Prop):Prop where
 gm:G3 (b4 :: bm :: X) w1 w bm b4 lv l i
 s0:Stp [] w0 w1
 b0:w0.heap.size<=b4
 hy:SlV (b4 :: bm :: X) w ky y.kids
 gn:g
 le:i<=j
 h1:∀ c∈ndC y ky,c.oneCell'=true
section
variable {P:Program} {n:Nat} {e:Env} {w:World} {d:Option Nat} {ty:TypeId} {pos:String} {af:Array Edge} {gd:Option (Nat×Bool)}
theorem stN {b T m t:Nat} {cs us:List Value} {x y:Operand} {u:Value} [bD:Siz P t m] (h1:∀ c∈us,c.oneCell'=true) (hb:Blk w b T cs) (hl:us.length=cs.length) (hx:ev e x=some (pQ b)) (hy:ev e y=some u) (hu:u.cells.toList=us) (hm:us.length=m):OE P n ⟨d,.store t x y,ty,pos,af,gd⟩ e w (λ_ w'=>Stp [b] w w'/\Blk w' b T us):=Zw hx hy hu hm h1 hb hl
theorem FN {G:Prop} {X:List Nat} {w0 w1 w:World} {bm b4:Nat} {lv:Value} {l:List Int} {i:Nat} {ky:Value} {t:Int} (j d:Nat) (y:Nd) (gm:G3 (b4 :: bm :: X) w1 w bm b4 lv l i) (s0:Stp [] w0 w1) (b0:w0.heap.size<=b4) (hy:SlV (b4 :: bm :: X) w ky y.kids) (gn:Gn t d y) (le:i<=j+3 * szD (d+1))
 (h : FnP X w0 w1 w bm b4 lv l i (j + 3 * szD (d + 1)) y ky (Gn t d y) -> G := by
   intro r;obtain ⟨cs,bY,dP⟩:=r.gm.blk;first
   | refine Z17 rfl trivial (stN r.h1 dP bY.symm rfl rfl rfl rfl) (λ_ _ h=>h.1.mn) ?_
   | refine Z8 (stN r.h1 dP bY.symm rfl rfl rfl rfl) ?_
   rintro _ wz ⟨hz,tD⟩;first|refine D ?_|skip
   refine W ?_;refine JS rfl rfl rfl tD rfl ?_;have hf:=r.gm.fin r.s0 r.b0 r.hy hz;exact .mk ⟨_,_,hf.1,r.gn,hf.2.1,r.le,hf.2.2⟩):G:=h ⟨gm,s0,b0,hy,gn,le,JH (x:=y) hy⟩
variable {X:List Nat} {w0:World} {bm b4:Nat} {lv:Value} {l:List Int} {i:Nat}
theorem G3.nx (h:G3 (b4 :: bm :: X) w0 w bm b4 lv l i) (n:Int) (hl:∀ a∈l,I64 a) (hn:0<n:=by decide) (hi:i<=1000000:=by omega):CC 59 #[pQ bm,.I n] w λr w'=>Stp [b4,bm] w w'/\Stp [bm] w w'/\∃ q:Nat,r=.I (q:Int)/\(q:Int)<n/\G3 (b4 :: bm :: X) w0 w' bm b4 lv l (i+1):=
 (Z03 bm lv l i n w hn hi h.mkr h.sl hl).mono (by
   rintro _ w' ⟨_,rfl,q,rfl,hq,hm,hS⟩;exact .mk ⟨hS.mn,hS,q,rfl,hq,h.nxt hm hS⟩)
theorem G3.kd (h:G3 (b4 :: bm :: X) w0 w bm b4 lv l i) {f e:Nat} {t z:Int} (ih:Z1Z f t e) (hl:∀ a∈l,I64 a) (hz:z=(e:Int):=by omega) (hi:i+3 * szD (e+1)<=100000:=by omega):CC f #[pQ bm,.I z] w λr w'=>Stp [b4,bm] w w'/\Stp [bm] w w'/\∃ y i' p c,r=.agg (ndC y (.slice p y.kids.length c)).toArray/\SlV (b4 :: bm :: X) w' (.slice p y.kids.length c) y.kids/\Gn t e y/\i'<=i+3 * szD (e+1)/\G3 (b4 :: bm :: X) w0 w' bm b4 lv l i':=
 (ih (b4 :: bm :: X) w bm lv l i z hz h.mkr h.sl hl hi h.hX).mono (by
   rintro _ w' ⟨_,rfl,y,i',⟨k,rfl,s⟩,g,hm,ca,hS⟩;obtain ⟨p,c,rfl,-⟩:=id s;exact .mk ⟨hS.mn,hS,y,i',p,c,rfl,s,g,ca,h.nxt hm hS⟩)
theorem G3.nd (h:G3 (b4 :: bm :: X) w0 w bm b4 lv l i) (k:Int) (s:Str) {kv:Value} {kids:List Nd} (hs:SlV (b4 :: bm :: X) w kv kids):CC 159 #[.I k,str s,kv] w λr w'=>Stp [b4,bm] w w'/\Stp [] w w'/\∃ ky,r=.agg (ndC (.mk k 0 s kids) ky).toArray/\SlV (b4 :: bm :: X) w' ky kids/\G3 (b4 :: bm :: X) w0 w' bm b4 lv l i:=
 (Zcj (b4 :: bm :: X) k s kv kids w h.hX hs).mono (by
   rintro _ w' ⟨_,rfl,⟨ky,rfl,hy⟩,hT⟩;exact .mk ⟨hT.mn,hT,ky,rfl,hy,h.up hT⟩)
abbrev ndB (y:Nd) (p:Option Addr) (c:Nat):Value:=.agg #[.I y.kind,.I y.num,str y.word,.slice p y.kids.length c]
theorem G3.b1 (h:G3 (b4 :: bm :: X) w0 w bm b4 lv l i) {y0:Nd} {p0:Option Addr} {c0:Nat} (s0:SlV (b4 :: bm :: X) w (.slice p0 y0.kids.length c0) y0.kids) {q:List (Nat×Operand)} (hv:Jm e q=some [(0,ndB y0 p0 c0)]) :
 OE Tryz.prog n ⟨d,.buildSlice 69 1 q.toArray,ty,pos,af,gd⟩ e w (λv w'=>Stp [b4,bm] w w'/\Stp [] w w'/\SlV (b4 :: bm :: X) w' v [y0]/\G3 (b4 :: bm :: X) w0 w' bm b4 lv l i):=
 (Z1 hv (Zhm _ _ _ _ _ _)).mono (λv w' hN=>⟨(Za.stp hN).mn,Za.stp hN,hN.slvG (css:=[ndC y0 _]) h.hX rfl rfl rfl (ZtL s0) (by simp [maxLen]),h.up (Za.stp hN)⟩)
theorem G3.b2 (h:G3 (b4 :: bm :: X) w0 w bm b4 lv l i) {y0 y1:Nd} {p0 p1:Option Addr} {c0 c1:Nat} (s0:SlV (b4 :: bm :: X) w (.slice p0 y0.kids.length c0) y0.kids) (s1:SlV (b4 :: bm :: X) w (.slice p1 y1.kids.length c1) y1.kids) {q:List (Nat×Operand)} (hv:Jm e q=some [(0,ndB y0 p0 c0),(1,ndB y1 p1 c1)]) :
 OE Tryz.prog n ⟨d,.buildSlice 69 2 q.toArray,ty,pos,af,gd⟩ e w (λv w'=>Stp [b4,bm] w w'/\Stp [] w w'/\SlV (b4 :: bm :: X) w' v [y0,y1]/\G3 (b4 :: bm :: X) w0 w' bm b4 lv l i):=
 (Z1 hv (Zhn _ _ _ _ _ _ _ _ _ _ _ _)).mono (λv w' hN=>⟨(Za.stp hN).mn,Za.stp hN,hN.slvG (css:=[ndC y0 _,ndC y1 _]) h.hX rfl rfl rfl (ZtM s0 s1) (by simp [maxLen]),h.up (Za.stp hN)⟩)
theorem G3.b3 (h:G3 (b4 :: bm :: X) w0 w bm b4 lv l i) {y0 y1 y2:Nd} {p0 p1 p2:Option Addr} {c0 c1 c2:Nat} (s0:SlV (b4 :: bm :: X) w (.slice p0 y0.kids.length c0) y0.kids) (s1:SlV (b4 :: bm :: X) w (.slice p1 y1.kids.length c1) y1.kids) (s2:SlV (b4 :: bm :: X) w (.slice p2 y2.kids.length c2) y2.kids) {q:List (Nat×Operand)} (hv:Jm e q=some [(0,ndB y0 p0 c0),(1,ndB y1 p1 c1),(2,ndB y2 p2 c2)]) :
 OE Tryz.prog n ⟨d,.buildSlice 69 3 q.toArray,ty,pos,af,gd⟩ e w (λv w'=>Stp [b4,bm] w w'/\Stp [] w w'/\SlV (b4 :: bm :: X) w' v [y0,y1,y2]/\G3 (b4 :: bm :: X) w0 w' bm b4 lv l i):=
 (Z1 hv (Zho _ _ _ _ _ _ _ _ _ _ _ _ _ _ _ _ _ _)).mono (λv w' hN=>⟨(Za.stp hN).mn,Za.stp hN,hN.slvG (css:=[ndC y0 _,ndC y1 _,ndC y2 _]) h.hX rfl rfl rfl (ZtN s0 s1 s2) (by simp [maxLen]),h.up (Za.stp hN)⟩)
end
set_option maxHeartbeats 1000000
theorem Z4D (d:Nat) (rm:d<=6) (ih:∀ e,d=e+1->Z1Z 161 1 e/\Z1Z 94 2 e/\Z1Z 95 3 e):Z1Z 161 1 d:=by
 intro X w bm lv l i z hz ay au hl hi hX;subst hz;have bD:szD (d+1)=1+3 * szD d:=rfl;refine cW2 88 Tryz.func161 ?_;refine W ?_;refine Z0 Z4 rfl ?_;rintro _ w1 ⟨b4,rfl,br,bI,bA⟩;have gm:G3 (b4 :: bm :: X) w1 w1 bm b4 lv l i:=⟨ay.up bA,au.up bA,Stp.refl _ _,⟨_,rfl,bI⟩,λh=>by have:=ay.lt;omega,λc hc=>by
  simp only [Xc] at hc;have h1:=bI.lt;have h2:=ay.lt;have h3:=bA.size;rcases hc with rfl|rfl|hc
  exact h1;omega;have:=hX c hc;omega⟩
 clear bI hX au ay;refine W ?_;refine Z0 (Z3 rfl (Zg rfl rfl) (gm.nx 9 hl)) rfl ?_;rintro _ wq ⟨-,hS,q,rfl,hq,gm⟩;refine W ?_;refine Z0 (Z3 rfl (Zg rfl rfl) (Z5s bm lv l _ d _ _ rfl gm.mkr gm.sl)) rfl ?_;rintro _ wq ⟨dn,rfl,aB,hT⟩;replace gm:=gm.up hT;clear hT;refine W ?_;refine Js (σ:=Nat) (λk=>[(0,pQ bm),(1,.I (d:Int)),(4,pQ b4),(5,.I (k:Int))]) (λk w'=>w'=wq/\k<9/\(d=0->k<4)) ?_ ?_
 . cases dn with
   | true=>
     refine QO ?_;exact Z0E (q % 4) ⟨rfl,rfl,rfl,rfl,trivial⟩ ⟨rfl,by omega,λ_=>by omega⟩
   | false=>
     refine QO ?_;exact Z0E q ⟨rfl,rfl,rfl,rfl,trivial⟩ ⟨rfl,by omega,λh=>absurd (aB h) (by decide)⟩
 rintro k w3 ⟨rfl,fW,bz⟩;clear hq aB;by_cases k0:k<=2
 . repeat'(first|refine W1 ?_|omega|refine VG ?_ ?_<;>intro hg|refine VC ?_ ?_<;>intro hc)
   all_goals
    refine Z0 (Z3 rfl (Zg rfl rfl) (gm.nx 25 hl)) rfl ?_;rintro _ wq ⟨-,hS,q',rfl,eK,gm⟩;refine W ?_;apply Z5 (vs:=[(0,.I 1),(1,.I _)]) rfl (Z3k _ _) rfl;have hy:SlV (α:=Nd) (b4 :: bm :: X) _ (.N) []:=J6 _ wq;exact FN i d (.mk 1 (q':Int) [] []) gm bA br hy (.num _ _ (by omega)) (by omega)
 by_cases k3:k=3;refine QO ?_;refine Z0 (Z1 (vs:=[(0,str [101,120,116,114,97]),(1,str [98,121]),(2,str [116,111]),(3,str [99,111,117,114,116]),(4,str [97,109,111,117,110,116])]) rfl (bS5 _ _ _ _ _)) rfl ?_;rintro wv wq hN;have aM:SlV [bm] wq wv Zhp:=hN.slv (λc hc=>gm.hX c (by simp at hc;subst hc;simp)) rfl rfl (by decide);have hT:=Za.stp hN;clear hN;replace gm:=gm.up hT;clear hT;refine W ?_;refine Z0 (Z3 rfl (Zg rfl rfl) (gm.nx 5 hl)) rfl ?_;rintro _ wq ⟨-,hS,q',rfl,eK,gm⟩;replace aM:=aM.ext hS (by simp) (λ_ h=>.inl h);have bV:q'<Zhp.length:=by show q'<5;omega
 refine W ?_;refine Z0 (Z3 rfl (ZJ rfl rfl rfl) (gm.nd 4 Zhp[q'] (J6 _ _))) rfl ?_;rintro _ wq ⟨-,hT,ky,rfl,hy,gm⟩;exact FN i d (.mk 4 0 Zhp[q'] []) gm bA br hy (.fldN _ _ (Xb bV)) (by omega);by_cases k4:k=4;obtain ⟨e,rfl⟩:∃ e,d=e+1:=⟨d - 1,by omega⟩
 replace ih:=ih e rfl;have db:=Z18 e;refine QO ?_;refine W ?_;refine Z0 (Z3 rfl (Zg rfl rfl) (gm.kd ih.1 hl)) rfl ?_;rintro _ wq ⟨-,hS,y0,i0,p0,c0,rfl,s0,g0,ea,gm⟩;refine W ?_;refine Z0 (gm.b1 s0 rfl) rfl ?_;rintro bv wq ⟨-,hT,aI,gm⟩;refine W ?_;refine Z0 (Z3 rfl (ZJ rfl rfl rfl) (gm.nd 5 [45] aI)) rfl ?_;rintro _ wq ⟨-,hT,ky,rfl,hy,gm⟩;refine W ?_;exact FN i (e+1) (.mk 5 0 [45] [y0]) gm bA br hy (.neg _ _ g0) (by omega);by_cases k5:k=5;obtain ⟨e,rfl⟩:∃ e,d=e+1:=⟨d - 1,by omega⟩
 replace ih:=ih e rfl;have db:=Z18 e;refine QO ?_;refine W ?_;refine Z0 (Z3 rfl (Zg rfl rfl) (gm.kd ih.2.2 hl)) rfl ?_;rintro _ wq ⟨-,hS,y0,i0,p0,c0,rfl,s0,g0,ea,gm⟩;refine Z0 Z4 rfl ?_;rintro _ wq ⟨b0',rfl,bq,e0,hT⟩;refine SB (us:=ndC y0 _) (JH s0) e0 ?_;rintro _ wq ⟨an,e0⟩;replace hT:=Jy hT bq an;clear an;have n0:b0'≠bm:=λh=>by have:=gm.mkr.lt;omega
 have n0':b0'≠b4:=λh=>by obtain ⟨_,_,hc⟩:=gm.blk;have:=hc.lt;omega
 replace gm:=gm.up hT;replace s0:=s0.up hT;clear hT bq;refine W ?_;refine ZDr 8 ([b4,bm]) [] [(0,1),(1,0),(2,0),(3,0),(4,2),(5,2),(6,2),(7,2)] (λw1 ae=>?_);have hT:=ae;replace gm:=gm.up hT;replace s0:=s0.up hT;replace e0:=e0.up hT;clear hT ae;refine WD_read rfl trivial (λw' be=>ZY rfl rfl (e0.ext be (by simp;exact ⟨n0',n0⟩)) rfl) rfl ?_;refine D ?_;refine Z7 rfl trivial (Z3 rfl (Zg rfl rfl) (gm.kd ih.2.2 hl)) (λ_ _ h=>h.1) rfl ?_;rintro _ wq ⟨-,hS,y1,i1,p1,c1,rfl,s1,g1,cu,gm⟩;replace s0:=s0.ext hS (by simp) (λ_ h=>.inl h);replace e0:=e0.ext hS (by simp;exact n0);refine D ?_;refine Z7 rfl trivial (gm.b2 s0 s1 rfl) (λ_ _ h=>h.1) rfl ?_;rintro bv wq ⟨-,hT,aI,gm⟩;refine D ?_;refine Z7 rfl trivial (Z3 rfl (ZJ rfl rfl rfl) (gm.nd 10 [98,101,116,119,101,101,110] aI)) (λ_ _ h=>h.1) rfl ?_;rintro _ wq ⟨-,hT,ky,rfl,hy,gm⟩;refine D ?_;exact FN i (e+1) (.mk 10 0 [98,101,116,119,101,101,110] [y0,y1]) gm bA br hy (.btw _ _ _ g0 g1) (by omega);by_cases k6:k=6;obtain ⟨e,rfl⟩:∃ e,d=e+1:=⟨d - 1,by omega⟩
 replace ih:=ih e rfl;have db:=Z18 e;refine QO ?_;refine W ?_;refine Z0 (Z3 rfl (Zg rfl rfl) (gm.kd ih.2.1 hl)) rfl ?_;rintro _ wq ⟨-,hS,y0,i0,p0,c0,rfl,s0,g0,ea,gm⟩;refine Z0 Z4 rfl ?_;rintro _ wq ⟨b0',rfl,bq,e0,hT⟩;refine SB (us:=ndC y0 _) (JH s0) e0 ?_;rintro _ wq ⟨an,e0⟩;replace hT:=Jy hT bq an;clear an;have n0:b0'≠bm:=λh=>by have:=gm.mkr.lt;omega
 have n0':b0'≠b4:=λh=>by obtain ⟨_,_,hc⟩:=gm.blk;have:=hc.lt;omega
 replace gm:=gm.up hT;replace s0:=s0.up hT;clear hT bq;refine W ?_;refine Z0 (Z3 rfl (Zg rfl rfl) (gm.kd ih.1 hl)) rfl ?_;rintro _ wq ⟨-,hS,y1,i1,p1,c1,rfl,s1,g1,cu,gm⟩;replace s0:=s0.ext hS (by simp) (λ_ h=>.inl h);replace e0:=e0.ext hS (by simp;exact n0);refine Z0 Z4 rfl ?_;rintro _ wq ⟨b1',rfl,gA,e1,hT⟩;refine SB (us:=ndC y1 _) (JH s1) e1 ?_;rintro _ wq ⟨an,e1⟩;replace hT:=Jy hT gA an;clear an;have n1:b1'≠bm:=λh=>by have:=gm.mkr.lt;omega
 have n1':b1'≠b4:=λh=>by obtain ⟨_,_,hc⟩:=gm.blk;have:=hc.lt;omega
 replace gm:=gm.up hT;replace s0:=s0.up hT;replace e0:=e0.up hT;replace s1:=s1.up hT;clear hT gA;refine W ?_;refine ZDr 9 ([b4,bm]) [] [(0,1),(1,1),(2,0),(3,0),(4,0),(5,2),(6,2),(7,2),(8,2)] (λw1 ae=>?_);have hT:=ae;replace gm:=gm.up hT;replace s0:=s0.up hT;replace e0:=e0.up hT;replace s1:=s1.up hT;replace e1:=e1.up hT;clear hT ae;refine WD_read rfl trivial (λw' be=>ZY rfl rfl (e0.ext be (by simp;exact ⟨n0',n0⟩)) rfl) rfl ?_;refine WD_read rfl trivial (λw' be=>ZY rfl rfl (e1.ext be (by simp;exact ⟨n1',n1⟩)) rfl) rfl ?_;refine D ?_;refine Z7 rfl trivial (Z3 rfl (Zg rfl rfl) (gm.kd ih.1 hl)) (λ_ _ h=>h.1) rfl ?_;rintro _ wq ⟨-,hS,y2,i2,p2,c2,rfl,s2,g2,cy,gm⟩;replace s0:=s0.ext hS (by simp) (λ_ h=>.inl h);replace e0:=e0.ext hS (by simp;exact n0);replace s1:=s1.ext hS (by simp) (λ_ h=>.inl h);replace e1:=e1.ext hS (by simp;exact n1);refine D ?_;refine Z7 rfl trivial (gm.b3 s0 s1 s2 rfl) (λ_ _ h=>h.1) rfl ?_;rintro bv wq ⟨-,hT,aI,gm⟩;refine D ?_;refine Z7 rfl trivial (Z3 rfl (ZJ rfl rfl rfl) (gm.nd 9 [] aI)) (λ_ _ h=>h.1) rfl ?_;rintro _ wq ⟨-,hT,ky,rfl,hy,gm⟩;refine D ?_;exact FN i (e+1) (.mk 9 0 [] [y0,y1,y2]) gm bA br hy (.cond _ _ _ _ _ (by decide) g0 g1 g2) (by omega);obtain ⟨e,rfl⟩:∃ e,d=e+1:=⟨d - 1,by omega⟩
 replace ih:=ih e rfl;have db:=Z18 e;refine QO ?_;refine W ?_;refine Z0 (Z3 rfl (Zg rfl rfl) (gm.kd ih.1 hl)) rfl ?_;rintro _ wq ⟨-,hS,y0,i0,p0,c0,rfl,s0,g0,ea,gm⟩;refine Z0 Z4 rfl ?_;rintro _ wq ⟨b0',rfl,bq,e0,hT⟩;refine SB (us:=ndC y0 _) (JH s0) e0 ?_;rintro _ wq ⟨an,e0⟩;replace hT:=Jy hT bq an;clear an;have n0:b0'≠bm:=λh=>by have:=gm.mkr.lt;omega
 have n0':b0'≠b4:=λh=>by obtain ⟨_,_,hc⟩:=gm.blk;have:=hc.lt;omega
 replace gm:=gm.up hT;replace s0:=s0.up hT;clear hT bq;refine W ?_;refine Z3N 13 [b4,bm] [] rfl mixed (λw1 ae=>?_);have hT:=ae;replace gm:=gm.up hT;replace s0:=s0.up hT;replace e0:=e0.up hT;clear hT ae;refine JI 1 rfl trivial (λw'=>ZX rfl) rfl (by kernel_rfl) (by kernel_rfl) ?_;refine Z97 5 rfl trivial (λw' be=>ZY rfl rfl (e0.ext be (by simp;exact ⟨n0',n0⟩)) rfl) rfl (by kernel_rfl) (by kernel_rfl) ?_;refine JI 6 rfl trivial (λw'=>ZX rfl) rfl (by kernel_rfl) (by kernel_rfl) ?_;refine JI 7 rfl trivial (λw'=>ZX rfl) rfl (by kernel_rfl) (by kernel_rfl) ?_;refine JI 8 rfl trivial (λw'=>Z5m rfl rfl (by unfold I64;omega)) rfl (by kernel_rfl) (by kernel_rfl) ?_;refine Z1g 0 2 (by kernel_rfl) ?_ ?_;refine ZV rfl trivial (Z1 (vs:=[(0,str [43]),(1,str [45]),(2,str [42])]) rfl (bS3 _ _ _)) (λ_ _ h=>(Za.stp h).mn) rfl ?_;rintro wv wq hN;have aM:SlV [b4,bm] wq wv Z0U:=hN.slv (λc hc=>gm.hX c (by simp at hc;rcases hc with rfl|rfl<;>simp)) rfl rfl (by decide);have hT:=Za.stp hN;clear hN;replace gm:=gm.up hT;replace s0:=s0.up hT;replace e0:=e0.up hT;clear hT;refine Z43 [(2,2),(3,0),(4,1),(9,2),(10,2),(11,2),(12,2)] (by kernel_rfl) (by kernel_rfl) (by kernel_rfl) ?_;refine Z7 rfl trivial (Z3 rfl (Zg rfl rfl) (gm.nx 3 hl)) (λ_ _ h=>h.1) rfl ?_;rintro _ wq ⟨-,hS,q,rfl,hq,gm⟩;replace s0:=s0.ext hS (by simp) (λ_ h=>.inl h);replace e0:=e0.ext hS (by simp;exact n0);replace aM:=aM.ext hS (by simp) (λ_ h=>.inl h);have bV:q<Z0U.length:=by show q<3;omega
 refine D ?_;refine Z7 rfl trivial (Z3 rfl (Zg rfl rfl) (gm.kd ih.1 hl)) (λ_ _ h=>h.1) rfl ?_;rintro _ wq ⟨-,hS,y1,i1,p1,c1,rfl,s1,g1,cu,gm⟩;replace s0:=s0.ext hS (by simp) (λ_ h=>.inl h);replace e0:=e0.ext hS (by simp;exact n0);replace aM:=aM.ext hS (by simp) (λ_ h=>.inl h);refine D ?_;refine Z7 rfl trivial (gm.b2 s0 s1 rfl) (λ_ _ h=>h.1) rfl ?_;rintro bv wq ⟨-,hT,aI,gm⟩;replace aM:=aM.up hT;refine D ?_;refine Z7 rfl trivial (Z3 rfl (ZJ rfl rfl rfl) (gm.nd 6 Z0U[q] aI)) (λ_ _ h=>h.1) rfl ?_;rintro _ wq ⟨-,hT,ky,rfl,hy,gm⟩;refine D ?_;exact FN i (e+1) (.mk 6 0 Z0U[q] [y0,y1]) gm bA br hy (.arith _ _ _ _ (Xb bV) g0 g1) (by omega);refine ZV rfl trivial (Z3 rfl (Zg rfl rfl) (gm.nx 3 hl)) (λ_ _ h=>h.1) rfl ?_;rintro _ wq ⟨-,hS,q,rfl,hq,gm⟩;replace s0:=s0.ext hS (by simp) (λ_ h=>.inl h);replace e0:=e0.ext hS (by simp;exact n0);have bV:q<Z0U.length:=by show q<3;omega
 refine Z1g 0 9 (by kernel_rfl) ?_ ?_;refine ZV rfl trivial (Z1 (vs:=[(0,str [43]),(1,str [45]),(2,str [42])]) rfl (bS3 _ _ _)) (λ_ _ h=>(Za.stp h).mn) rfl ?_;rintro wv wq hN;have aM:SlV [b4,bm] wq wv Z0U:=hN.slv (λc hc=>gm.hX c (by simp at hc;rcases hc with rfl|rfl<;>simp)) rfl rfl (by decide);have hT:=Za.stp hN;clear hN;replace gm:=gm.up hT;replace s0:=s0.up hT;replace e0:=e0.up hT;clear hT;refine Z43 [(3,0),(4,1),(9,2),(10,2),(11,2),(12,2)] (by kernel_rfl) (by kernel_rfl) (by kernel_rfl) ?_;refine D ?_;refine Z7 rfl trivial (Z3 rfl (Zg rfl rfl) (gm.kd ih.1 hl)) (λ_ _ h=>h.1) rfl ?_;rintro _ wq ⟨-,hS,y1,i1,p1,c1,rfl,s1,g1,cu,gm⟩;replace s0:=s0.ext hS (by simp) (λ_ h=>.inl h);replace e0:=e0.ext hS (by simp;exact n0);replace aM:=aM.ext hS (by simp) (λ_ h=>.inl h);refine D ?_;refine Z7 rfl trivial (gm.b2 s0 s1 rfl) (λ_ _ h=>h.1) rfl ?_;rintro bv wq ⟨-,hT,aI,gm⟩;replace aM:=aM.up hT;refine D ?_;refine Z7 rfl trivial (Z3 rfl (ZJ rfl rfl rfl) (gm.nd 6 Z0U[q] aI)) (λ_ _ h=>h.1) rfl ?_;rintro _ wq ⟨-,hT,ky,rfl,hy,gm⟩;refine D ?_;exact FN i (e+1) (.mk 6 0 Z0U[q] [y0,y1]) gm bA br hy (.arith _ _ _ _ (Xb bV) g0 g1) (by omega);refine ZV rfl trivial (Z3 rfl (Zg rfl rfl) (gm.kd ih.1 hl)) (λ_ _ h=>h.1) rfl ?_;rintro _ wq ⟨-,hS,y1,i1,p1,c1,rfl,s1,g1,cu,gm⟩;replace s0:=s0.ext hS (by simp) (λ_ h=>.inl h);replace e0:=e0.ext hS (by simp;exact n0);refine Z1g 0 10 (by kernel_rfl) ?_ ?_;refine ZV rfl trivial (Z1 (vs:=[(0,str [43]),(1,str [45]),(2,str [42])]) rfl (bS3 _ _ _)) (λ_ _ h=>(Za.stp h).mn) rfl ?_;rintro wv wq hN;have aM:SlV [b4,bm] wq wv Z0U:=hN.slv (λc hc=>gm.hX c (by simp at hc;rcases hc with rfl|rfl<;>simp)) rfl rfl (by decide);have hT:=Za.stp hN;clear hN;replace gm:=gm.up hT;replace s0:=s0.up hT;replace e0:=e0.up hT;replace s1:=s1.up hT;clear hT;refine Z43 [(3,0),(4,1),(10,2),(11,2),(12,2)] (by kernel_rfl) (by kernel_rfl) (by kernel_rfl) ?_;refine D ?_;refine D ?_;refine Z7 rfl trivial (gm.b2 s0 s1 rfl) (λ_ _ h=>h.1) rfl ?_;rintro bv wq ⟨-,hT,aI,gm⟩;replace aM:=aM.up hT;refine D ?_;refine Z7 rfl trivial (Z3 rfl (ZJ rfl rfl rfl) (gm.nd 6 Z0U[q] aI)) (λ_ _ h=>h.1) rfl ?_;rintro _ wq ⟨-,hT,ky,rfl,hy,gm⟩;refine D ?_;exact FN i (e+1) (.mk 6 0 Z0U[q] [y0,y1]) gm bA br hy (.arith _ _ _ _ (Xb bV) g0 g1) (by omega);refine ZV rfl trivial (gm.b2 s0 s1 rfl) (λ_ _ h=>h.1) rfl ?_;rintro bv wq ⟨-,hT,aI,gm⟩;refine Z43 [(0,2),(3,0),(4,1),(11,2),(12,2)] (by kernel_rfl) (by kernel_rfl) (by kernel_rfl) ?_;refine Z7 rfl trivial (Z1 (vs:=[(0,str [43]),(1,str [45]),(2,str [42])]) rfl (bS3 _ _ _)) (λ_ _ h=>(Za.stp h).mn) rfl ?_;rintro wv wq hN;have aM:SlV [b4,bm] wq wv Z0U:=hN.slv (λc hc=>gm.hX c (by simp at hc;rcases hc with rfl|rfl<;>simp)) rfl rfl (by decide);have hT:=Za.stp hN;clear hN;replace gm:=gm.up hT;replace aI:=aI.up hT;clear hT;refine D ?_;refine D ?_;refine D ?_;refine Z7 rfl trivial (Z3 rfl (ZJ rfl rfl rfl) (gm.nd 6 Z0U[q] aI)) (λ_ _ h=>h.1) rfl ?_;rintro _ wq ⟨-,hT,ky,rfl,hy,gm⟩;refine D ?_;exact FN i (e+1) (.mk 6 0 Z0U[q] [y0,y1]) gm bA br hy (.arith _ _ _ _ (Xb bV) g0 g1) (by omega)
set_option maxHeartbeats 1000000
theorem Z6G (d:Nat) (rm:d<=6) (ih:∀ e,d=e+1->Z1Z 161 1 e/\Z1Z 94 2 e/\Z1Z 95 3 e):Z1Z 94 2 d:=by
 intro X w bm lv l i z hz ay au hl hi hX;subst hz;have bD:szD (d+1)=1+3 * szD d:=rfl;refine cW2 80 Tryz.func94 ?_;refine W ?_;refine Z0 Z4 rfl ?_;rintro _ w1 ⟨b4,rfl,br,bI,bA⟩;have gm:G3 (b4 :: bm :: X) w1 w1 bm b4 lv l i:=⟨ay.up bA,au.up bA,Stp.refl _ _,⟨_,rfl,bI⟩,λh=>by have:=ay.lt;omega,λc hc=>by
  simp only [Xc] at hc;have h1:=bI.lt;have h2:=ay.lt;have h3:=bA.size;rcases hc with rfl|rfl|hc
  exact h1;omega;have:=hX c hc;omega⟩
 clear bI hX au ay;refine W ?_;refine Z0 (Z3 rfl (Zg rfl rfl) (gm.nx 6 hl)) rfl ?_;rintro _ wq ⟨-,hS,q,rfl,hq,gm⟩;refine W ?_;refine Z0 (Z3 rfl (Zg rfl rfl) (Z5s bm lv l _ d _ _ rfl gm.mkr gm.sl)) rfl ?_;rintro _ wq ⟨dn,rfl,aB,hT⟩;replace gm:=gm.up hT;clear hT;cases dn with
 | true=>
   refine QO ?_;apply Z5 (vs:=[(0,.int .i64 2),(1,.int .i64 (1 - (q:Int) / 5))]) rfl (Z3k _ _) rfl;have hy:SlV (α:=Nd) (b4 :: bm :: X) _ (.slice none 0 0) []:=J6 _ wq;exact FN i d (.mk 2 (1 - (q:Int) / 5) [] []) gm bA br hy (.bool _ _ (by omega)) (by omega)
 | false=>
   have iz:d≠0:=λh=>absurd (aB h) (by decide)
   obtain ⟨e,rfl⟩:∃ e,d=e+1:=⟨d - 1,by omega⟩
   replace ih:=ih e rfl;have db:=Z18 e;clear iz aB;by_cases k0:q=0;refine QO ?_;refine Z0 (Z3 rfl (Zg rfl rfl) (gm.nx 2 hl)) rfl ?_;rintro _ wq ⟨-,hS,q',rfl,eK,gm⟩;refine W ?_;apply Z5 (vs:=[(0,.int .i64 2),(1,.int .i64 _)]) rfl (Z3k _ _) rfl;have hy:SlV (α:=Nd) (b4 :: bm :: X) _ (.slice none 0 0) []:=J6 _ wq;exact FN i (e+1) (.mk 2 (q':Int) [] []) gm bA br hy (.bool _ _ (by omega)) (by omega);by_cases k1:q=1;refine QO ?_;refine W ?_;refine Z0 (Z3 rfl (Zg rfl rfl) (gm.kd ih.2.1 hl)) rfl ?_;rintro _ wq ⟨-,hS,y0,i0,p0,c0,rfl,s0,g0,ea,gm⟩;refine W ?_;refine Z0 (gm.b1 s0 rfl) rfl ?_;rintro bv wq ⟨-,hT,aI,gm⟩;refine W ?_;refine Z0 (Z3 rfl (ZJ rfl rfl rfl) (gm.nd 5 [110,111,116] aI)) rfl ?_;rintro _ wq ⟨-,hT,ky,rfl,hy,gm⟩;refine W ?_;exact FN i (e+1) (.mk 5 0 [110,111,116] [y0]) gm bA br hy (.not _ _ g0) (by omega);by_cases k2:q=2;refine QO ?_;refine W ?_;refine Z0 (Z3 rfl (Zg rfl rfl) (gm.kd ih.2.1 hl)) rfl ?_;rintro _ wq ⟨-,hS,y0,i0,p0,c0,rfl,s0,g0,ea,gm⟩;refine Z0 Z4 rfl ?_;rintro _ wq ⟨b0',rfl,bq,e0,hT⟩;refine Z8 (Zw (us:=ndC y0 _) rfl rfl rfl rfl (JH s0) e0 rfl) ?_;rintro _ wq ⟨an,e0⟩;replace hT:=Jy hT bq an;clear an;have n0:b0'≠bm:=λh=>by have:=gm.mkr.lt;omega
   have n0':b0'≠b4:=λh=>by obtain ⟨_,_,hc⟩:=gm.blk;have:=hc.lt;omega
   replace gm:=gm.up hT;replace s0:=s0.up hT;clear hT bq;refine W ?_;refine Z3N 13 [b4,bm] [] rfl mixed (λw1 ae=>?_);have hT:=ae;replace gm:=gm.up hT;replace s0:=s0.up hT;replace e0:=e0.up hT;clear hT ae;refine JI 1 rfl trivial (λw'=>ZX rfl) rfl (by kernel_rfl) (by kernel_rfl) ?_;refine Z97 5 rfl trivial (λw' be=>ZY rfl rfl (e0.ext be (by simp;exact ⟨n0',n0⟩)) rfl) rfl (by kernel_rfl) (by kernel_rfl) ?_;refine JI 6 rfl trivial (λw'=>ZX rfl) rfl (by kernel_rfl) (by kernel_rfl) ?_;refine JI 7 rfl trivial (λw'=>ZX rfl) rfl (by kernel_rfl) (by kernel_rfl) ?_;refine JI 8 rfl trivial (λw'=>Z5m rfl rfl (by unfold I64;omega)) rfl (by kernel_rfl) (by kernel_rfl) ?_;refine Z1g 0 2 (by kernel_rfl) ?_ ?_;refine ZV rfl trivial (Z1 (vs:=[(0,str [97,110,100]),(1,str [111,114])]) rfl (bS2 _ _)) (λ_ _ h=>(Za.stp h).mono (by simp)) rfl ?_;rintro wv wq hN;have aM:SlV [b4,bm] wq wv Z0I:=hN.slv (λc hc=>gm.hX c (by simp at hc;rcases hc with rfl|rfl<;>simp)) rfl rfl (by decide);have hT:=Za.stp hN;clear hN;replace gm:=gm.up hT;replace s0:=s0.up hT;replace e0:=e0.up hT;clear hT;refine Z43 [(2,2),(3,0),(4,1),(9,2),(10,2),(11,2),(12,2)] (by kernel_rfl) (by kernel_rfl) (by kernel_rfl) ?_;refine Z7 rfl trivial (Z3 rfl (Zg rfl rfl) (gm.nx 2 hl)) (λ_ _ h=>h.1) rfl ?_;rintro _ wq ⟨-,hS,q,rfl,hq,gm⟩;replace s0:=s0.ext hS (by simp) (λ_ h=>.inl h);replace e0:=e0.ext hS (by simp;exact n0);replace aM:=aM.ext hS (by simp) (λ_ h=>.inl h);have bV:q<Z0I.length:=by show q<2;omega
   refine D ?_;refine Z7 rfl trivial (Z3 rfl (Zg rfl rfl) (gm.kd ih.2.1 hl)) (λ_ _ h=>h.1) rfl ?_;rintro _ wq ⟨-,hS,y1,i1,p1,c1,rfl,s1,g1,cu,gm⟩;replace s0:=s0.ext hS (by simp) (λ_ h=>.inl h);replace e0:=e0.ext hS (by simp;exact n0);replace aM:=aM.ext hS (by simp) (λ_ h=>.inl h);refine D ?_;refine Z7 rfl trivial (gm.b2 s0 s1 rfl) (λ_ _ h=>h.1) rfl ?_;rintro bv wq ⟨-,hT,aI,gm⟩;replace aM:=aM.up hT;refine D ?_;refine Z7 rfl trivial (Z3 rfl (ZJ rfl rfl rfl) (gm.nd 6 Z0I[q] aI)) (λ_ _ h=>h.1) rfl ?_;rintro _ wq ⟨-,hT,ky,rfl,hy,gm⟩;refine D ?_;exact FN i (e+1) (.mk 6 0 Z0I[q] [y0,y1]) gm bA br hy (.logic _ _ _ _ (Xb bV) g0 g1) (by omega);refine ZV rfl trivial (Z3 rfl (Zg rfl rfl) (gm.nx 2 hl)) (λ_ _ h=>h.1) rfl ?_;rintro _ wq ⟨-,hS,q,rfl,hq,gm⟩;replace s0:=s0.ext hS (by simp) (λ_ h=>.inl h);replace e0:=e0.ext hS (by simp;exact n0);have bV:q<Z0I.length:=by show q<2;omega
   refine Z1g 0 9 (by kernel_rfl) ?_ ?_;refine ZV rfl trivial (Z1 (vs:=[(0,str [97,110,100]),(1,str [111,114])]) rfl (bS2 _ _)) (λ_ _ h=>(Za.stp h).mono (by simp)) rfl ?_;rintro wv wq hN;have aM:SlV [b4,bm] wq wv Z0I:=hN.slv (λc hc=>gm.hX c (by simp at hc;rcases hc with rfl|rfl<;>simp)) rfl rfl (by decide);have hT:=Za.stp hN;clear hN;replace gm:=gm.up hT;replace s0:=s0.up hT;replace e0:=e0.up hT;clear hT;refine Z43 [(3,0),(4,1),(9,2),(10,2),(11,2),(12,2)] (by kernel_rfl) (by kernel_rfl) (by kernel_rfl) ?_;refine D ?_;refine Z7 rfl trivial (Z3 rfl (Zg rfl rfl) (gm.kd ih.2.1 hl)) (λ_ _ h=>h.1) rfl ?_;rintro _ wq ⟨-,hS,y1,i1,p1,c1,rfl,s1,g1,cu,gm⟩;replace s0:=s0.ext hS (by simp) (λ_ h=>.inl h);replace e0:=e0.ext hS (by simp;exact n0);replace aM:=aM.ext hS (by simp) (λ_ h=>.inl h);refine D ?_;refine Z7 rfl trivial (gm.b2 s0 s1 rfl) (λ_ _ h=>h.1) rfl ?_;rintro bv wq ⟨-,hT,aI,gm⟩;replace aM:=aM.up hT;refine D ?_;refine Z7 rfl trivial (Z3 rfl (ZJ rfl rfl rfl) (gm.nd 6 Z0I[q] aI)) (λ_ _ h=>h.1) rfl ?_;rintro _ wq ⟨-,hT,ky,rfl,hy,gm⟩;refine D ?_;exact FN i (e+1) (.mk 6 0 Z0I[q] [y0,y1]) gm bA br hy (.logic _ _ _ _ (Xb bV) g0 g1) (by omega);refine ZV rfl trivial (Z3 rfl (Zg rfl rfl) (gm.kd ih.2.1 hl)) (λ_ _ h=>h.1) rfl ?_;rintro _ wq ⟨-,hS,y1,i1,p1,c1,rfl,s1,g1,cu,gm⟩;replace s0:=s0.ext hS (by simp) (λ_ h=>.inl h);replace e0:=e0.ext hS (by simp;exact n0);refine Z1g 0 10 (by kernel_rfl) ?_ ?_;refine ZV rfl trivial (Z1 (vs:=[(0,str [97,110,100]),(1,str [111,114])]) rfl (bS2 _ _)) (λ_ _ h=>(Za.stp h).mono (by simp)) rfl ?_;rintro wv wq hN;have aM:SlV [b4,bm] wq wv Z0I:=hN.slv (λc hc=>gm.hX c (by simp at hc;rcases hc with rfl|rfl<;>simp)) rfl rfl (by decide);have hT:=Za.stp hN;clear hN;replace gm:=gm.up hT;replace s0:=s0.up hT;replace e0:=e0.up hT;replace s1:=s1.up hT;clear hT;refine Z43 [(3,0),(4,1),(10,2),(11,2),(12,2)] (by kernel_rfl) (by kernel_rfl) (by kernel_rfl) ?_;refine D ?_;refine D ?_;refine Z7 rfl trivial (gm.b2 s0 s1 rfl) (λ_ _ h=>h.1) rfl ?_;rintro bv wq ⟨-,hT,aI,gm⟩;replace aM:=aM.up hT;refine D ?_;refine Z7 rfl trivial (Z3 rfl (ZJ rfl rfl rfl) (gm.nd 6 Z0I[q] aI)) (λ_ _ h=>h.1) rfl ?_;rintro _ wq ⟨-,hT,ky,rfl,hy,gm⟩;refine D ?_;exact FN i (e+1) (.mk 6 0 Z0I[q] [y0,y1]) gm bA br hy (.logic _ _ _ _ (Xb bV) g0 g1) (by omega);refine ZV rfl trivial (gm.b2 s0 s1 rfl) (λ_ _ h=>h.1) rfl ?_;rintro bv wq ⟨-,hT,aI,gm⟩;refine Z43 [(0,2),(3,0),(4,1),(11,2),(12,2)] (by kernel_rfl) (by kernel_rfl) (by kernel_rfl) ?_;refine Z7 rfl trivial (Z1 (vs:=[(0,str [97,110,100]),(1,str [111,114])]) rfl (bS2 _ _)) (λ_ _ h=>(Za.stp h).mono (by simp)) rfl ?_;rintro wv wq hN;have aM:SlV [b4,bm] wq wv Z0I:=hN.slv (λc hc=>gm.hX c (by simp at hc;rcases hc with rfl|rfl<;>simp)) rfl rfl (by decide);have hT:=Za.stp hN;clear hN;replace gm:=gm.up hT;replace aI:=aI.up hT;clear hT;refine D ?_;refine D ?_;refine D ?_;refine Z7 rfl trivial (Z3 rfl (ZJ rfl rfl rfl) (gm.nd 6 Z0I[q] aI)) (λ_ _ h=>h.1) rfl ?_;rintro _ wq ⟨-,hT,ky,rfl,hy,gm⟩;refine D ?_;exact FN i (e+1) (.mk 6 0 Z0I[q] [y0,y1]) gm bA br hy (.logic _ _ _ _ (Xb bV) g0 g1) (by omega);by_cases k3:q=3;refine QO ?_;refine W ?_;refine Z0 (Z3 rfl (Zg rfl rfl) (gm.kd ih.2.2 hl)) rfl ?_;rintro _ wq ⟨-,hS,y0,i0,p0,c0,rfl,s0,g0,ea,gm⟩;refine Z0 Z4 rfl ?_;rintro _ wq ⟨b0',rfl,bq,e0,hT⟩;refine Z8 (Zw (us:=ndC y0 _) rfl rfl rfl rfl (JH s0) e0 rfl) ?_;rintro _ wq ⟨an,e0⟩;replace hT:=Jy hT bq an;clear an;have n0:b0'≠bm:=λh=>by have:=gm.mkr.lt;omega
   have n0':b0'≠b4:=λh=>by obtain ⟨_,_,hc⟩:=gm.blk;have:=hc.lt;omega
   replace gm:=gm.up hT;replace s0:=s0.up hT;clear hT bq;refine W ?_;refine ZDr 11 ([b4,bm]) [] [(0,0),(3,1),(4,0),(5,0),(6,0),(1,2),(2,2),(7,2),(8,2),(9,2),(10,2)] (λw1 ae=>?_);have hT:=ae;replace gm:=gm.up hT;replace s0:=s0.up hT;replace e0:=e0.up hT;clear hT ae;refine D ?_;refine Z7 rfl trivial (Z3 rfl (Zg rfl rfl) (gm.nx 6 hl)) (λ_ _ h=>h.1) rfl ?_;rintro _ wq ⟨-,hS,q',rfl,eK,gm⟩;replace s0:=s0.ext hS (by simp) (λ_ h=>.inl h);replace e0:=e0.ext hS (by simp;exact n0);refine D ?_;refine Z7 rfl trivial (Z3 rfl (ZS rfl) (Z4C q' _ (by omega))) (λ_ _ h=>h.2.mono (by simp)) rfl ?_;rintro _ wq ⟨⟨op,jK,rfl⟩,hT⟩;replace gm:=gm.up hT;replace s0:=s0.up hT;replace e0:=e0.up hT;clear hT;refine D ?_;refine Z7 rfl trivial (Z3 rfl (Zg rfl rfl) (gm.kd ih.2.2 hl)) (λ_ _ h=>h.1) rfl ?_;rintro _ wq ⟨-,hS,y1,i1,p1,c1,rfl,s1,g1,cu,gm⟩;replace s0:=s0.ext hS (by simp) (λ_ h=>.inl h);replace e0:=e0.ext hS (by simp;exact n0);refine D ?_;refine Z7 rfl trivial (gm.b2 s0 s1 rfl) (λ_ _ h=>h.1) rfl ?_;rintro bv wq ⟨-,hT,aI,gm⟩;refine D ?_;refine Z7 rfl trivial (Z3 rfl (ZJ rfl rfl rfl) (gm.nd 6 op aI)) (λ_ _ h=>h.1) rfl ?_;rintro _ wq ⟨-,hT,ky,rfl,hy,gm⟩;refine D ?_;exact FN i (e+1) (.mk 6 0 op [y0,y1]) gm bA br hy (.cmp _ 3 _ _ _ (by decide) jK g0 g1) (by omega);refine QO ?_;refine W ?_;refine Z0 (Z3 rfl (Zg rfl rfl) (gm.kd ih.1 hl)) rfl ?_;rintro _ wq ⟨-,hS,y0,i0,p0,c0,rfl,s0,g0,ea,gm⟩;refine Z0 Z4 rfl ?_;rintro _ wq ⟨b0',rfl,bq,e0,hT⟩;refine Z8 (Zw (us:=ndC y0 _) rfl rfl rfl rfl (JH s0) e0 rfl) ?_;rintro _ wq ⟨an,e0⟩;replace hT:=Jy hT bq an;clear an;have n0:b0'≠bm:=λh=>by have:=gm.mkr.lt;omega
   have n0':b0'≠b4:=λh=>by obtain ⟨_,_,hc⟩:=gm.blk;have:=hc.lt;omega
   replace gm:=gm.up hT;replace s0:=s0.up hT;clear hT bq;refine W ?_;refine ZDr 11 ([b4,bm]) [] [(0,0),(3,1),(4,0),(5,0),(6,0),(1,2),(2,2),(7,2),(8,2),(9,2),(10,2)] (λw1 ae=>?_);have hT:=ae;replace gm:=gm.up hT;replace s0:=s0.up hT;replace e0:=e0.up hT;clear hT ae;refine D ?_;refine Z7 rfl trivial (Z3 rfl (Zg rfl rfl) (gm.nx 6 hl)) (λ_ _ h=>h.1) rfl ?_;rintro _ wq ⟨-,hS,q',rfl,eK,gm⟩;replace s0:=s0.ext hS (by simp) (λ_ h=>.inl h);replace e0:=e0.ext hS (by simp;exact n0);refine D ?_;refine Z7 rfl trivial (Z3 rfl (ZS rfl) (Z4C q' _ (by omega))) (λ_ _ h=>h.2.mono (by simp)) rfl ?_;rintro _ wq ⟨⟨op,jK,rfl⟩,hT⟩;replace gm:=gm.up hT;replace s0:=s0.up hT;replace e0:=e0.up hT;clear hT;refine D ?_;refine Z7 rfl trivial (Z3 rfl (Zg rfl rfl) (gm.kd ih.1 hl)) (λ_ _ h=>h.1) rfl ?_;rintro _ wq ⟨-,hS,y1,i1,p1,c1,rfl,s1,g1,cu,gm⟩;replace s0:=s0.ext hS (by simp) (λ_ h=>.inl h);replace e0:=e0.ext hS (by simp;exact n0);refine D ?_;refine Z7 rfl trivial (gm.b2 s0 s1 rfl) (λ_ _ h=>h.1) rfl ?_;rintro bv wq ⟨-,hT,aI,gm⟩;refine D ?_;refine Z7 rfl trivial (Z3 rfl (ZJ rfl rfl rfl) (gm.nd 6 op aI)) (λ_ _ h=>h.1) rfl ?_;rintro _ wq ⟨-,hT,ky,rfl,hy,gm⟩;refine D ?_;exact FN i (e+1) (.mk 6 0 op [y0,y1]) gm bA br hy (.cmp _ 1 _ _ _ (by decide) jK g0 g1) (by omega)
set_option maxHeartbeats 1000000
def Z6H:List Str:=[[100,97,121,115],[100,97,121,115],[99,111,117,114,116,100,97,121,115],[119,101,101,107,115],[109,111,110,116,104,115]]
theorem Zck:∀ s∈Z6H,s∈ZO:=by decide
theorem Z6I (d:Nat) (rm:d<=6) (ih:∀ e,d=e+1->Z1Z 161 1 e/\Z1Z 94 2 e/\Z1Z 95 3 e):Z1Z 95 3 d:=by
 intro X w bm lv l i z hz ay au hl hi hX;subst hz;have bD:szD (d+1)=1+3 * szD d:=rfl;refine cW2 107 Tryz.func95 ?_;refine W ?_;refine Z0 Z4 rfl ?_;rintro _ w1 ⟨b4,rfl,br,bI,bA⟩;have gm:G3 (b4 :: bm :: X) w1 w1 bm b4 lv l i:=⟨ay.up bA,au.up bA,Stp.refl _ _,⟨_,rfl,bI⟩,λh=>by have:=ay.lt;omega,λc hc=>by
  simp only [Xc] at hc;have h1:=bI.lt;have h2:=ay.lt;have h3:=bA.size;rcases hc with rfl|rfl|hc
  exact h1;omega;have:=hX c hc;omega⟩
 clear bI hX au ay;refine W ?_;refine Z0 (Z3 rfl (Zg rfl rfl) (gm.nx 10 hl)) rfl ?_;rintro _ wq ⟨-,hS,q,rfl,hq,gm⟩;refine W ?_;refine Z0 (Z3 rfl (Zg rfl rfl) (Z5s bm lv l _ d _ _ rfl gm.mkr gm.sl)) rfl ?_;rintro _ wq ⟨dn,rfl,aB,hT⟩;replace gm:=gm.up hT;clear hT;refine W ?_;refine Js (σ:=Nat) (λk=>[(0,pQ bm),(1,.I (d:Int)),(4,pQ b4),(5,.I (k:Int))]) (λk w'=>w'=wq/\k<10/\(d=0->k<4)) ?_ ?_
 . cases dn with
   | true=>
     refine QO ?_;exact Z0E (q % 4) ⟨rfl,rfl,rfl,rfl,trivial⟩ ⟨rfl,by omega,λ_=>by omega⟩
   | false=>
     refine QO ?_;exact Z0E q ⟨rfl,rfl,rfl,rfl,trivial⟩ ⟨rfl,by omega,λh=>absurd (aB h) (by decide)⟩
 rintro k w3 ⟨rfl,fW,bz⟩;clear hq aB;by_cases k0:k<=1
 . (refine QP ?_ ?_<;>intro hc)
   all_goals
    refine Z0 (Z3 rfl (ZJ rfl rfl rfl) (gm.nd 4 [100,97,121] (J6 _ _))) rfl ?_;rintro _ wq ⟨-,hT,ky,rfl,hy,gm⟩;exact FN i d (.mk 4 0 [100,97,121] []) gm bA br hy (.fldD _ _ (by decide)) (by omega)
 by_cases k2:k=2;refine QO ?_;refine Z0 (Z1 (vs:=[(0,str [100,97,121]),(1,str [115,101,114,118,101,100])]) rfl (bS2 _ _)) rfl ?_;rintro wv wq hN;have aM:SlV [bm] wq wv Zar:=hN.slv (λc hc=>gm.hX c (by simp at hc;subst hc;simp)) rfl rfl (by decide);have hT:=Za.stp hN;clear hN;replace gm:=gm.up hT;clear hT;refine W ?_;refine Z0 (Z3 rfl (Zg rfl rfl) (gm.nx 2 hl)) rfl ?_;rintro _ wq ⟨-,hS,q',rfl,eK,gm⟩;replace aM:=aM.ext hS (by simp) (λ_ h=>.inl h);have bV:q'<Zar.length:=by show q'<2;omega
 refine W ?_;refine Z0 (Z3 rfl (ZJ rfl rfl rfl) (gm.nd 4 Zar[q'] (J6 _ _))) rfl ?_;rintro _ wq ⟨-,hT,ky,rfl,hy,gm⟩;exact FN i d (.mk 4 0 Zar[q'] []) gm bA br hy (.fldD _ _ (Xb bV)) (by omega);by_cases k3:k=3;refine QO ?_;refine Z0 (Z3 rfl (Zg rfl rfl) (gm.nx 60 hl)) rfl ?_;rintro _ wq ⟨-,hS,q',rfl,eK,gm⟩;refine W ?_;apply Z5 (vs:=[(0,.I 3),(1,.I _)]) rfl (Z3k _ _) rfl;have hy:SlV (α:=Nd) (b4 :: bm :: X) _ (.N) []:=J6 _ wq;exact FN i d (.mk 3 (739616+(q':Int)) [] []) gm bA br hy (.day _ _ (by omega)) (by omega);by_cases k4:k=4;obtain ⟨e,rfl⟩:∃ e,d=e+1:=⟨d - 1,by omega⟩
 replace ih:=ih e rfl;have db:=Z18 e;refine QO ?_;refine Z3N 12 [b4,bm] [] rfl mixed (λw1 ae=>?_);have hT:=ae;replace gm:=gm.up hT;clear hT ae;refine JI 1 rfl trivial (λw'=>ZX rfl) rfl (by kernel_rfl) (by kernel_rfl) ?_;refine JI 5 rfl trivial (λw'=>ZX rfl) rfl (by kernel_rfl) (by kernel_rfl) ?_;refine JI 6 rfl trivial (λw'=>ZX rfl) rfl (by kernel_rfl) (by kernel_rfl) ?_;refine JI 7 rfl trivial (λw'=>Z5m rfl rfl (by unfold I64;omega)) rfl (by kernel_rfl) (by kernel_rfl) ?_;refine Z1g 0 2 (by kernel_rfl) ?_ ?_;refine ZV rfl trivial (Z1 (vs:=[(0,str [110,101,120,116]),(1,str [112,114,101,118])]) rfl (bS2 _ _)) (λ_ _ h=>(Za.stp h).mn) rfl ?_;rintro wv wq hN;have aM:SlV [b4,bm] wq wv Z29:=hN.slv (λc hc=>gm.hX c (by simp at hc;rcases hc with rfl|rfl<;>simp)) rfl rfl (by decide);have hT:=Za.stp hN;clear hN;replace gm:=gm.up hT;clear hT;refine Z43 [(2,2),(3,0),(4,1),(8,2),(9,2),(10,2),(11,2)] (by kernel_rfl) (by kernel_rfl) (by kernel_rfl) ?_;refine Z7 rfl trivial (Z3 rfl (Zg rfl rfl) (gm.nx 2 hl)) (λ_ _ h=>h.1) rfl ?_;rintro _ wq ⟨-,hS,q,rfl,hq,gm⟩;replace aM:=aM.ext hS (by simp) (λ_ h=>.inl h);have bV:q<Z29.length:=by show q<2;omega
 refine D ?_;refine Z7 rfl trivial (Z3 rfl (Zg rfl rfl) (gm.kd ih.2.2 hl)) (λ_ _ h=>h.1) rfl ?_;rintro _ wq ⟨-,hS,y0,i0,p0,c0,rfl,s0,g0,ea,gm⟩;replace aM:=aM.ext hS (by simp) (λ_ h=>.inl h);refine D ?_;refine Z7 rfl trivial (gm.b1 s0 rfl) (λ_ _ h=>h.1) rfl ?_;rintro bv wq ⟨-,hT,aI,gm⟩;replace aM:=aM.up hT;refine D ?_;refine Z7 rfl trivial (Z3 rfl (ZJ rfl rfl rfl) (gm.nd 10 Z29[q] aI)) (λ_ _ h=>h.1) rfl ?_;rintro _ wq ⟨-,hT,ky,rfl,hy,gm⟩;refine D ?_;exact FN i (e+1) (.mk 10 0 Z29[q] [y0]) gm bA br hy (.adj _ _ _ (Xb bV) g0) (by omega);refine ZV rfl trivial (Z3 rfl (Zg rfl rfl) (gm.nx 2 hl)) (λ_ _ h=>h.1) rfl ?_;rintro _ wq ⟨-,hS,q,rfl,hq,gm⟩;have bV:q<Z29.length:=by show q<2;omega
 refine Z1g 0 8 (by kernel_rfl) ?_ ?_;refine ZV rfl trivial (Z1 (vs:=[(0,str [110,101,120,116]),(1,str [112,114,101,118])]) rfl (bS2 _ _)) (λ_ _ h=>(Za.stp h).mn) rfl ?_;rintro wv wq hN;have aM:SlV [b4,bm] wq wv Z29:=hN.slv (λc hc=>gm.hX c (by simp at hc;rcases hc with rfl|rfl<;>simp)) rfl rfl (by decide);have hT:=Za.stp hN;clear hN;replace gm:=gm.up hT;clear hT;refine Z43 [(3,0),(4,1),(8,2),(9,2),(10,2),(11,2)] (by kernel_rfl) (by kernel_rfl) (by kernel_rfl) ?_;refine D ?_;refine Z7 rfl trivial (Z3 rfl (Zg rfl rfl) (gm.kd ih.2.2 hl)) (λ_ _ h=>h.1) rfl ?_;rintro _ wq ⟨-,hS,y0,i0,p0,c0,rfl,s0,g0,ea,gm⟩;replace aM:=aM.ext hS (by simp) (λ_ h=>.inl h);refine D ?_;refine Z7 rfl trivial (gm.b1 s0 rfl) (λ_ _ h=>h.1) rfl ?_;rintro bv wq ⟨-,hT,aI,gm⟩;replace aM:=aM.up hT;refine D ?_;refine Z7 rfl trivial (Z3 rfl (ZJ rfl rfl rfl) (gm.nd 10 Z29[q] aI)) (λ_ _ h=>h.1) rfl ?_;rintro _ wq ⟨-,hT,ky,rfl,hy,gm⟩;refine D ?_;exact FN i (e+1) (.mk 10 0 Z29[q] [y0]) gm bA br hy (.adj _ _ _ (Xb bV) g0) (by omega);refine ZV rfl trivial (Z3 rfl (Zg rfl rfl) (gm.kd ih.2.2 hl)) (λ_ _ h=>h.1) rfl ?_;rintro _ wq ⟨-,hS,y0,i0,p0,c0,rfl,s0,g0,ea,gm⟩;refine Z1g 0 9 (by kernel_rfl) ?_ ?_;refine ZV rfl trivial (Z1 (vs:=[(0,str [110,101,120,116]),(1,str [112,114,101,118])]) rfl (bS2 _ _)) (λ_ _ h=>(Za.stp h).mn) rfl ?_;rintro wv wq hN;have aM:SlV [b4,bm] wq wv Z29:=hN.slv (λc hc=>gm.hX c (by simp at hc;rcases hc with rfl|rfl<;>simp)) rfl rfl (by decide);have hT:=Za.stp hN;clear hN;replace gm:=gm.up hT;replace s0:=s0.up hT;clear hT;refine Z43 [(3,0),(4,1),(9,2),(10,2),(11,2)] (by kernel_rfl) (by kernel_rfl) (by kernel_rfl) ?_;refine D ?_;refine D ?_;refine Z7 rfl trivial (gm.b1 s0 rfl) (λ_ _ h=>h.1) rfl ?_;rintro bv wq ⟨-,hT,aI,gm⟩;replace aM:=aM.up hT;refine D ?_;refine Z7 rfl trivial (Z3 rfl (ZJ rfl rfl rfl) (gm.nd 10 Z29[q] aI)) (λ_ _ h=>h.1) rfl ?_;rintro _ wq ⟨-,hT,ky,rfl,hy,gm⟩;refine D ?_;exact FN i (e+1) (.mk 10 0 Z29[q] [y0]) gm bA br hy (.adj _ _ _ (Xb bV) g0) (by omega);refine ZV rfl trivial (gm.b1 s0 rfl) (λ_ _ h=>h.1) rfl ?_;rintro bv wq ⟨-,hT,aI,gm⟩;refine Z43 [(0,2),(3,0),(4,1),(10,2),(11,2)] (by kernel_rfl) (by kernel_rfl) (by kernel_rfl) ?_;refine Z7 rfl trivial (Z1 (vs:=[(0,str [110,101,120,116]),(1,str [112,114,101,118])]) rfl (bS2 _ _)) (λ_ _ h=>(Za.stp h).mn) rfl ?_;rintro wv wq hN;have aM:SlV [b4,bm] wq wv Z29:=hN.slv (λc hc=>gm.hX c (by simp at hc;rcases hc with rfl|rfl<;>simp)) rfl rfl (by decide);have hT:=Za.stp hN;clear hN;replace gm:=gm.up hT;replace aI:=aI.up hT;clear hT;refine D ?_;refine D ?_;refine D ?_;refine Z7 rfl trivial (Z3 rfl (ZJ rfl rfl rfl) (gm.nd 10 Z29[q] aI)) (λ_ _ h=>h.1) rfl ?_;rintro _ wq ⟨-,hT,ky,rfl,hy,gm⟩;refine D ?_;exact FN i (e+1) (.mk 10 0 Z29[q] [y0]) gm bA br hy (.adj _ _ _ (Xb bV) g0) (by omega);by_cases k5:k=5;obtain ⟨e,rfl⟩:∃ e,d=e+1:=⟨d - 1,by omega⟩
 replace ih:=ih e rfl;have db:=Z18 e;refine QO ?_;refine W ?_;refine Z0 (Z3 rfl (Zg rfl rfl) (gm.kd ih.2.2 hl)) rfl ?_;rintro _ wq ⟨-,hS,y0,i0,p0,c0,rfl,s0,g0,ea,gm⟩;refine Z0 Z4 rfl ?_;rintro _ wq ⟨b0',rfl,bq,e0,hT⟩;refine SB (us:=ndC y0 _) (JH s0) e0 ?_;rintro _ wq ⟨an,e0⟩;replace hT:=Jy hT bq an;clear an;have n0:b0'≠bm:=λh=>by have:=gm.mkr.lt;omega
 have n0':b0'≠b4:=λh=>by obtain ⟨_,_,hc⟩:=gm.blk;have:=hc.lt;omega
 replace gm:=gm.up hT;replace s0:=s0.up hT;clear hT bq;refine W ?_;refine Z3N 13 [b4,bm] [] rfl mixed (λw1 ae=>?_);have hT:=ae;replace gm:=gm.up hT;replace s0:=s0.up hT;replace e0:=e0.up hT;clear hT ae;refine JI 1 rfl trivial (λw'=>ZX rfl) rfl (by kernel_rfl) (by kernel_rfl) ?_;refine Z97 5 rfl trivial (λw' be=>ZY rfl rfl (e0.ext be (by simp;exact ⟨n0',n0⟩)) rfl) rfl (by kernel_rfl) (by kernel_rfl) ?_;refine JI 6 rfl trivial (λw'=>ZX rfl) rfl (by kernel_rfl) (by kernel_rfl) ?_;refine JI 7 rfl trivial (λw'=>ZX rfl) rfl (by kernel_rfl) (by kernel_rfl) ?_;refine JI 8 rfl trivial (λw'=>Z5m rfl rfl (by unfold I64;omega)) rfl (by kernel_rfl) (by kernel_rfl) ?_;refine Z1g 0 2 (by kernel_rfl) ?_ ?_;refine ZV rfl trivial (Z1 (vs:=[(0,str [108,97,116,101,114]),(1,str [101,97,114,108,105,101,114])]) rfl (bS2 _ _)) (λ_ _ h=>(Za.stp h).mn) rfl ?_;rintro wv wq hN;have aM:SlV [b4,bm] wq wv Z2a:=hN.slv (λc hc=>gm.hX c (by simp at hc;rcases hc with rfl|rfl<;>simp)) rfl rfl (by decide);have hT:=Za.stp hN;clear hN;replace gm:=gm.up hT;replace s0:=s0.up hT;replace e0:=e0.up hT;clear hT;refine Z43 [(2,2),(3,0),(4,1),(9,2),(10,2),(11,2),(12,2)] (by kernel_rfl) (by kernel_rfl) (by kernel_rfl) ?_;refine Z7 rfl trivial (Z3 rfl (Zg rfl rfl) (gm.nx 2 hl)) (λ_ _ h=>h.1) rfl ?_;rintro _ wq ⟨-,hS,q,rfl,hq,gm⟩;replace s0:=s0.ext hS (by simp) (λ_ h=>.inl h);replace e0:=e0.ext hS (by simp;exact n0);replace aM:=aM.ext hS (by simp) (λ_ h=>.inl h);have bV:q<Z2a.length:=by show q<2;omega
 refine D ?_;refine Z7 rfl trivial (Z3 rfl (Zg rfl rfl) (gm.kd ih.2.2 hl)) (λ_ _ h=>h.1) rfl ?_;rintro _ wq ⟨-,hS,y1,i1,p1,c1,rfl,s1,g1,cu,gm⟩;replace s0:=s0.ext hS (by simp) (λ_ h=>.inl h);replace e0:=e0.ext hS (by simp;exact n0);replace aM:=aM.ext hS (by simp) (λ_ h=>.inl h);refine D ?_;refine Z7 rfl trivial (gm.b2 s0 s1 rfl) (λ_ _ h=>h.1) rfl ?_;rintro bv wq ⟨-,hT,aI,gm⟩;replace aM:=aM.up hT;refine D ?_;refine Z7 rfl trivial (Z3 rfl (ZJ rfl rfl rfl) (gm.nd 10 Z2a[q] aI)) (λ_ _ h=>h.1) rfl ?_;rintro _ wq ⟨-,hT,ky,rfl,hy,gm⟩;refine D ?_;exact FN i (e+1) (.mk 10 0 Z2a[q] [y0,y1]) gm bA br hy (.two _ _ _ _ (Xb bV) g0 g1) (by omega);refine ZV rfl trivial (Z3 rfl (Zg rfl rfl) (gm.nx 2 hl)) (λ_ _ h=>h.1) rfl ?_;rintro _ wq ⟨-,hS,q,rfl,hq,gm⟩;replace s0:=s0.ext hS (by simp) (λ_ h=>.inl h);replace e0:=e0.ext hS (by simp;exact n0);have bV:q<Z2a.length:=by show q<2;omega
 refine Z1g 0 9 (by kernel_rfl) ?_ ?_;refine ZV rfl trivial (Z1 (vs:=[(0,str [108,97,116,101,114]),(1,str [101,97,114,108,105,101,114])]) rfl (bS2 _ _)) (λ_ _ h=>(Za.stp h).mn) rfl ?_;rintro wv wq hN;have aM:SlV [b4,bm] wq wv Z2a:=hN.slv (λc hc=>gm.hX c (by simp at hc;rcases hc with rfl|rfl<;>simp)) rfl rfl (by decide);have hT:=Za.stp hN;clear hN;replace gm:=gm.up hT;replace s0:=s0.up hT;replace e0:=e0.up hT;clear hT;refine Z43 [(3,0),(4,1),(9,2),(10,2),(11,2),(12,2)] (by kernel_rfl) (by kernel_rfl) (by kernel_rfl) ?_;refine D ?_;refine Z7 rfl trivial (Z3 rfl (Zg rfl rfl) (gm.kd ih.2.2 hl)) (λ_ _ h=>h.1) rfl ?_;rintro _ wq ⟨-,hS,y1,i1,p1,c1,rfl,s1,g1,cu,gm⟩;replace s0:=s0.ext hS (by simp) (λ_ h=>.inl h);replace e0:=e0.ext hS (by simp;exact n0);replace aM:=aM.ext hS (by simp) (λ_ h=>.inl h);refine D ?_;refine Z7 rfl trivial (gm.b2 s0 s1 rfl) (λ_ _ h=>h.1) rfl ?_;rintro bv wq ⟨-,hT,aI,gm⟩;replace aM:=aM.up hT;refine D ?_;refine Z7 rfl trivial (Z3 rfl (ZJ rfl rfl rfl) (gm.nd 10 Z2a[q] aI)) (λ_ _ h=>h.1) rfl ?_;rintro _ wq ⟨-,hT,ky,rfl,hy,gm⟩;refine D ?_;exact FN i (e+1) (.mk 10 0 Z2a[q] [y0,y1]) gm bA br hy (.two _ _ _ _ (Xb bV) g0 g1) (by omega);refine ZV rfl trivial (Z3 rfl (Zg rfl rfl) (gm.kd ih.2.2 hl)) (λ_ _ h=>h.1) rfl ?_;rintro _ wq ⟨-,hS,y1,i1,p1,c1,rfl,s1,g1,cu,gm⟩;replace s0:=s0.ext hS (by simp) (λ_ h=>.inl h);replace e0:=e0.ext hS (by simp;exact n0);refine Z1g 0 10 (by kernel_rfl) ?_ ?_;refine ZV rfl trivial (Z1 (vs:=[(0,str [108,97,116,101,114]),(1,str [101,97,114,108,105,101,114])]) rfl (bS2 _ _)) (λ_ _ h=>(Za.stp h).mn) rfl ?_;rintro wv wq hN;have aM:SlV [b4,bm] wq wv Z2a:=hN.slv (λc hc=>gm.hX c (by simp at hc;rcases hc with rfl|rfl<;>simp)) rfl rfl (by decide);have hT:=Za.stp hN;clear hN;replace gm:=gm.up hT;replace s0:=s0.up hT;replace e0:=e0.up hT;replace s1:=s1.up hT;clear hT;refine Z43 [(3,0),(4,1),(10,2),(11,2),(12,2)] (by kernel_rfl) (by kernel_rfl) (by kernel_rfl) ?_;refine D ?_;refine D ?_;refine Z7 rfl trivial (gm.b2 s0 s1 rfl) (λ_ _ h=>h.1) rfl ?_;rintro bv wq ⟨-,hT,aI,gm⟩;replace aM:=aM.up hT;refine D ?_;refine Z7 rfl trivial (Z3 rfl (ZJ rfl rfl rfl) (gm.nd 10 Z2a[q] aI)) (λ_ _ h=>h.1) rfl ?_;rintro _ wq ⟨-,hT,ky,rfl,hy,gm⟩;refine D ?_;exact FN i (e+1) (.mk 10 0 Z2a[q] [y0,y1]) gm bA br hy (.two _ _ _ _ (Xb bV) g0 g1) (by omega);refine ZV rfl trivial (gm.b2 s0 s1 rfl) (λ_ _ h=>h.1) rfl ?_;rintro bv wq ⟨-,hT,aI,gm⟩;refine Z43 [(0,2),(3,0),(4,1),(11,2),(12,2)] (by kernel_rfl) (by kernel_rfl) (by kernel_rfl) ?_;refine Z7 rfl trivial (Z1 (vs:=[(0,str [108,97,116,101,114]),(1,str [101,97,114,108,105,101,114])]) rfl (bS2 _ _)) (λ_ _ h=>(Za.stp h).mn) rfl ?_;rintro wv wq hN;have aM:SlV [b4,bm] wq wv Z2a:=hN.slv (λc hc=>gm.hX c (by simp at hc;rcases hc with rfl|rfl<;>simp)) rfl rfl (by decide);have hT:=Za.stp hN;clear hN;replace gm:=gm.up hT;replace aI:=aI.up hT;clear hT;refine D ?_;refine D ?_;refine D ?_;refine Z7 rfl trivial (Z3 rfl (ZJ rfl rfl rfl) (gm.nd 10 Z2a[q] aI)) (λ_ _ h=>h.1) rfl ?_;rintro _ wq ⟨-,hT,ky,rfl,hy,gm⟩;refine D ?_;exact FN i (e+1) (.mk 10 0 Z2a[q] [y0,y1]) gm bA br hy (.two _ _ _ _ (Xb bV) g0 g1) (by omega);by_cases k6:k=6;obtain ⟨e,rfl⟩:∃ e,d=e+1:=⟨d - 1,by omega⟩
 replace ih:=ih e rfl;have db:=Z18 e;refine QO ?_;refine W ?_;refine Z0 (Z3 rfl (Zg rfl rfl) (gm.kd ih.2.1 hl)) rfl ?_;rintro _ wq ⟨-,hS,y0,i0,p0,c0,rfl,s0,g0,ea,gm⟩;refine Z0 Z4 rfl ?_;rintro _ wq ⟨b0',rfl,bq,e0,hT⟩;refine SB (us:=ndC y0 _) (JH s0) e0 ?_;rintro _ wq ⟨an,e0⟩;replace hT:=Jy hT bq an;clear an;have n0:b0'≠bm:=λh=>by have:=gm.mkr.lt;omega
 have n0':b0'≠b4:=λh=>by obtain ⟨_,_,hc⟩:=gm.blk;have:=hc.lt;omega
 replace gm:=gm.up hT;replace s0:=s0.up hT;clear hT bq;refine W ?_;refine Z0 (Z3 rfl (Zg rfl rfl) (gm.kd ih.2.2 hl)) rfl ?_;rintro _ wq ⟨-,hS,y1,i1,p1,c1,rfl,s1,g1,cu,gm⟩;replace s0:=s0.ext hS (by simp) (λ_ h=>.inl h);replace e0:=e0.ext hS (by simp;exact n0);refine Z0 Z4 rfl ?_;rintro _ wq ⟨b1',rfl,gA,e1,hT⟩;refine SB (us:=ndC y1 _) (JH s1) e1 ?_;rintro _ wq ⟨an,e1⟩;replace hT:=Jy hT gA an;clear an;have n1:b1'≠bm:=λh=>by have:=gm.mkr.lt;omega
 have n1':b1'≠b4:=λh=>by obtain ⟨_,_,hc⟩:=gm.blk;have:=hc.lt;omega
 replace gm:=gm.up hT;replace s0:=s0.up hT;replace e0:=e0.up hT;replace s1:=s1.up hT;clear hT gA;refine W ?_;refine ZDr 9 ([b4,bm]) [] [(0,1),(1,1),(2,0),(3,0),(4,0),(5,2),(6,2),(7,2),(8,2)] (λw1 ae=>?_);have hT:=ae;replace gm:=gm.up hT;replace s0:=s0.up hT;replace e0:=e0.up hT;replace s1:=s1.up hT;replace e1:=e1.up hT;clear hT ae;refine WD_read rfl trivial (λw' be=>ZY rfl rfl (e0.ext be (by simp;exact ⟨n0',n0⟩)) rfl) rfl ?_;refine WD_read rfl trivial (λw' be=>ZY rfl rfl (e1.ext be (by simp;exact ⟨n1',n1⟩)) rfl) rfl ?_;refine D ?_;refine Z7 rfl trivial (Z3 rfl (Zg rfl rfl) (gm.kd ih.2.2 hl)) (λ_ _ h=>h.1) rfl ?_;rintro _ wq ⟨-,hS,y2,i2,p2,c2,rfl,s2,g2,cy,gm⟩;replace s0:=s0.ext hS (by simp) (λ_ h=>.inl h);replace e0:=e0.ext hS (by simp;exact n0);replace s1:=s1.ext hS (by simp) (λ_ h=>.inl h);replace e1:=e1.ext hS (by simp;exact n1);refine D ?_;refine Z7 rfl trivial (gm.b3 s0 s1 s2 rfl) (λ_ _ h=>h.1) rfl ?_;rintro bv wq ⟨-,hT,aI,gm⟩;refine D ?_;refine Z7 rfl trivial (Z3 rfl (ZJ rfl rfl rfl) (gm.nd 9 [] aI)) (λ_ _ h=>h.1) rfl ?_;rintro _ wq ⟨-,hT,ky,rfl,hy,gm⟩;refine D ?_;exact FN i (e+1) (.mk 9 0 [] [y0,y1,y2]) gm bA br hy (.cond _ _ _ _ _ (by decide) g0 g1 g2) (by omega);obtain ⟨e,rfl⟩:∃ e,d=e+1:=⟨d - 1,by omega⟩
 replace ih:=ih e rfl;have db:=Z18 e;refine QO ?_;refine W ?_;refine Z0 (Z3 rfl (Zg rfl rfl) (gm.kd ih.2.2 hl)) rfl ?_;rintro _ wq ⟨-,hS,y0,i0,p0,c0,rfl,s0,g0,ea,gm⟩;refine Z0 Z4 rfl ?_;rintro _ wq ⟨b0',rfl,bq,e0,hT⟩;refine SB (us:=ndC y0 _) (JH s0) e0 ?_;rintro _ wq ⟨an,e0⟩;replace hT:=Jy hT bq an;clear an;have n0:b0'≠bm:=λh=>by have:=gm.mkr.lt;omega
 have n0':b0'≠b4:=λh=>by obtain ⟨_,_,hc⟩:=gm.blk;have:=hc.lt;omega
 replace gm:=gm.up hT;replace s0:=s0.up hT;clear hT bq;refine W ?_;refine Z0 (Z1 (vs:=[(0,str [100,97,121,115]),(1,str [100,97,121,115]),(2,str [99,111,117,114,116,100,97,121,115]),(3,str [119,101,101,107,115]),(4,str [109,111,110,116,104,115])]) rfl (bS5 _ _ _ _ _)) rfl ?_;rintro wv wq hN;have aM:SlV [b4,bm] wq wv Z6H:=hN.slv (λc hc=>gm.hX c (by simp at hc;rcases hc with rfl|rfl<;>simp)) rfl rfl (by decide);have hT:=Za.stp hN;clear hN;replace gm:=gm.up hT;replace s0:=s0.up hT;replace e0:=e0.up hT;clear hT;refine W ?_;refine Z0 (Z3 rfl (Zg rfl rfl) (gm.nx 5 hl)) rfl ?_;rintro _ wq ⟨-,hS,q',rfl,eK,gm⟩;replace s0:=s0.ext hS (by simp) (λ_ h=>.inl h);replace e0:=e0.ext hS (by simp;exact n0);replace aM:=aM.ext hS (by simp) (λ_ h=>.inl h);have bV:q'<Z6H.length:=by show q'<5;omega
 have hu:=Zck _ (Xb bV);refine W ?_;clear aM;refine ZDr 13 ([b4,bm]) [] [(0,0),(4,0),(5,1),(6,0),(7,0),(8,0),(1,2),(2,0),(3,0),(9,2),(10,2),(11,2),(12,2)] (λw1 ae=>?_);have hT:=ae;replace gm:=gm.up hT;replace s0:=s0.up hT;replace e0:=e0.up hT;clear hT ae;refine D ?_;refine Z7 rfl trivial (Z3 rfl (Zg rfl rfl) (gm.nx 4 hl)) (λ_ _ h=>h.1) rfl ?_;rintro _ wq ⟨-,hS,q4,rfl,nF,gm⟩;replace s0:=s0.ext hS (by simp) (λ_ h=>.inl h);replace e0:=e0.ext hS (by simp;exact n0);refine D ?_;refine Z7 rfl trivial (Z3 rfl (Zg rfl rfl) (gm.kd ih.1 hl)) (λ_ _ h=>h.1) rfl ?_;rintro _ wq ⟨-,hS,y1,i1,p1,c1,rfl,s1,g1,cu,gm⟩;replace s0:=s0.ext hS (by simp) (λ_ h=>.inl h);replace e0:=e0.ext hS (by simp;exact n0);refine D ?_;refine Z7 rfl trivial (gm.b2 s0 s1 rfl) (λ_ _ h=>h.1) rfl ?_;rintro bv wq ⟨-,hT,aI,gm⟩;refine D ?_;refine Z7 rfl trivial (Z3 rfl (ZJ rfl rfl rfl) (gm.nd (7+(q4:Int) / 3) Z6H[q'] aI)) (λ_ _ h=>h.1) rfl ?_;rintro _ wq ⟨-,hT,ky,rfl,hy,gm⟩;refine D ?_;exact FN i (e+1) (.mk (7+(q4:Int) / 3) 0 Z6H[q'] [y0,y1]) gm bA br hy (.move _ _ _ _ _ (by omega) hu g0 g1) (by omega)
end Go.Proofs.YtgdicjnjhchooaaGreatDoor
namespace Go.Eng
open Go Go.RowKit Go.Proofs
structure RuleM where
 name:Str
 frm:Int
 on:Str
 cond:Nd
 due:Nd
 unl:Str
 els:Str
abbrev bts (s:Str):ByteArray:=⟨s.toArray⟩
def Itr (w:World) (b:Nat) (s:Str) (p:Nat):Prop:=w.heap[b]?=some (.stringIter (bts s) p)
theorem Itr.lt {w} {b p:Nat} {s:Str} (h:Itr w b s p):b<w.heap.size:=(Xo.1 h).1
def dec (s:Str) (p:Nat):Nat×Nat:=Utf8.decode (bts s) p
theorem Z6J (s:Str):(bts s).size=s.length:=by simp [ByteArray.size]
theorem ZeD {s:Str} {p:Nat} (h:p<s.length) (ha:(s[p]).toNat<128):dec s p=((s[p]).toNat,1):=by
 have h1:p<(bts s).size:=by rw [Z6J];exact h
 have e:(bts s)[p]'h1=s[p]:=by simp [bts,ByteArray.getElem_eq_getElem_data]
 have:=decode_ascii (bts s) p h1 (by rw [e];exact ha);rw [e] at this;exact this
section
variable {P:Program} {n:Nat} {e:Env} {w:World} {d:Option Nat} {ty:TypeId} {pos:String} {af:Array Edge} {g:Option (Nat×Bool)}
theorem Zhs {x:Operand} {t:TypeId} {s:Str} [hu:Und P t .string] (hx:ev e x=some (str s)):OE P n ⟨d,.range t x,ty,pos,af,g⟩ e w (λv w'=>∃ b,v=pQ b/\w.heap.size<=b/\Itr w' b s 0/\Stp [] w w'):=
 ZL (v:=.pointer (some ⟨w.heap.size,0,none⟩)) (w':=w.iter (bts s) 0) (λa ha=>by
  have:=run_range_string (P:=P) w t (bts s) hu.h;simp [execOp,ha.ev hx,this]) ⟨w.heap.size,rfl,Xl _,World.iter_heap _ _ _,Stp.alloc _ _ _⟩
theorem ZkY {x:Operand} {s:Str} {b p:Nat} (hx:ev e x=some (pQ b)) (hI:Itr w b s p) (hp:p<s.length) :
 OE P n ⟨d,.next x true,ty,pos,af,g⟩ e w (λv w'=>v=.tuple #[.B true,.I p,.int .i32 ((dec s p).1:Int)]/\Itr w' b s (p+(dec s p).2)/\Stp [b] w w'):=by
 have hlt:=hI.lt;have oI:p<(bts s).size:=by rw [Z6J];exact hp
 unfold Itr at hI;refine ZL (v:=.tuple #[.B true,.I p,.int .i32 ((dec s p).1:Int)]) (w':={ w with heap:=w.heap.setIfInBounds b (.stringIter (bts s) (p+(dec s p).2)) }) (λa ha=>?_) ⟨rfl,?_,⟨rfl,rfl,rfl,by simp,λk hk hn=>?_⟩⟩
 . simp [execOp,ha.ev hx,Instr.next,getObj,setObj,Sem.run,hI,oI,goInt,dec]
 show (w.heap.setIfInBounds b _)[b]?=_;simp [hlt];show (w.heap.setIfInBounds b _)[k]?=_;exact YaU (by simpa using λh=>hn (by simp [h]))
theorem Zcl {x:Operand} {s:Str} {b p:Nat} (hx:ev e x=some (pQ b)) (hI:Itr w b s p) (hp:¬ p<s.length) :
 OE P n ⟨d,.next x true,ty,pos,af,g⟩ e w (λv w'=>v=.tuple #[.B false]/\w'=w):=by
 have oI:¬ p<(bts s).size:=by rw [Z6J];exact hp
 unfold Itr at hI;refine ZL (v:=.tuple #[.B false]) (w':=w) (λa ha=>?_) ⟨rfl,rfl⟩;simp [execOp,ha.ev hx,Instr.next,getObj,Sem.run,hI,oI]
theorem Zht {x:Operand} {t:TypeId} {i:Nat} {u v:Value} (hx:ev e x=some u) (hb:∀ w,(Instr.field t u i).run P w=.ok v w):PR P n ⟨d,.field t x i,ty,pos,af,g⟩ e w v:=
 ⟨λa ha=>by simp [execOp,ha.ev hx,hb]⟩
end
def Z0b (y:Int):Bool:=decide (y % 4=0) && (decide (¬ y % 100=0) || decide (y % 400=0))
def Zo (y m:Int):Int:=
 if m<1\/12<m then 0 else if m=2 then (if Z0b y then 29 else 28) else if m=4\/m=6\/m=9\/m=11 then 30 else 31
def Jt (y m d:Int):Int:=
 let (y,m):=if m - 3<0 then (y - 1,m+9) else (y,m - 3)
 365 * y+y / 4 - y / 100+y / 400+(153 * m+2) / 5+d - 307
theorem Z10 (y m:Int):Zo y m<=31:=by
 unfold Zo;repeat' split
 all_goals omega
def Z4E (d:Nat):Nat:=(d - d / 1460+d / 36524 - d / 146096) / 365
def Z5t (y:Nat):Nat:=365 * y+y / 4 - y / 100
def Zhu (y:Nat):Bool:=Nat.beq (y % 4) 0 && (!(Nat.beq (y % 100) 0) || Nat.beq (y % 400) 0)
def Zq2 (d:Nat):Bool:=Nat.ble 146097 d || (Nat.ble (Z5t (Z4E d)) d && (Nat.blt d (Z5t (Z4E d)+365) || (Nat.beq d (Z5t (Z4E d)+365) && Zhu (Z4E d+1))))
def Zhv:Nat->Nat->Bool
 | 0,lo=>Zq2 lo
 | k+1,lo=>Zhv k lo && Zhv k (lo+2 ^ k)
theorem Z5u:∀ (k lo d:Nat),Zhv k lo=true->lo<=d->d<lo+2 ^ k->Zq2 d=true
 | 0, lo, d, h, h1, h2 => by
   have:d=lo:=by simp at h2;omega
   subst this;exact h
 | k + 1, lo, d, h, h1, h2 => by
   simp only [Zhv,Xf] at h;rw [YbB] at h2;rcases Ybp d (lo+2 ^ k) with h3|h3
   exact Z5u k lo d h.1 h1 h3;exact Z5u k (lo+2 ^ k) d h.2 h3 (by omega)
theorem Zhw:Zhv 18 0=true:=by kernel_rfl
theorem Zhx (y:Nat):Zhu y=Z0b (y:Int):=by
 unfold Zhu Z0b;have h:∀ a b:Nat,Nat.beq (a % b) 0=decide ((a:Int) % (b:Int)=0):=λa b=>by
  rw [YaI];simp only [decide_eq_true_eq];rw [Nat.beq_eq];omega
 rw [show Nat.beq (y % 4) 0=decide ((y:Int) % 4=0) from h y 4,show Nat.beq (y % 100) 0=decide ((y:Int) % 100=0) from h y 100,show Nat.beq (y % 400) 0=decide ((y:Int) % 400=0) from h y 400];simp
structure Dat where
 y:Int
 m:Int
 d:Int
def ofM (day:Int):Dat:=
 let z:=day+306
 let era:=z / 146097
 let doe:=z % 146097
 let yoe:=(doe - doe / 1460+doe / 36524 - doe / 146096) / 365
 let doy:=doe - (365 * yoe+yoe / 4 - yoe / 100)
 let m:=(5 * doy+2) / 153
 if m>=10 then ⟨yoe+400 * era+1,m - 9,doy - (153 * m+2) / 5+1⟩ else ⟨yoe+400 * era,m+3,doy - (153 * m+2) / 5+1⟩
theorem Zhy:∀ q:Nat,q<366->(5 * q+2) / 153<=11/\(153 * ((5 * q+2) / 153)+2) / 5<=q/\
 q - (153 * ((5 * q+2) / 153)+2) / 5+1<=(if (5 * q+2) / 153=11 then (if q=365 then 29 else 28) else if (5 * q+2) / 153=1\/(5 * q+2) / 153=3\/(5 * q+2) / 153=6\/(5 * q+2) / 153=8 then 30 else 31):=by decide +kernel
theorem Zhz (doe:Int) (h0:0<=doe) (h1:doe<146097):∃ yoe doy:Nat,(doe - doe / 1460+doe / 36524 - doe / 146096) / 365=(yoe:Int)/\doe - (365 * (yoe:Int)+(yoe:Int) / 4 - (yoe:Int) / 100)=(doy:Int)/\yoe<=399/\doy<=365/\(doy=365->Z0b ((yoe:Int)+1)=true):=by
 obtain ⟨d,rfl⟩:∃ d:Nat,doe=(d:Int):=⟨doe.toNat,by omega⟩
 have hd:d<146097:=by omega
 have h:=Z5u 18 0 d Zhw (by omega) (by omega);unfold Zq2 at h;rw [show Nat.ble 146097 d=false by rw [YaH];simp;omega] at h;simp only [YaL,Xf,Yax,Nat.ble_eq,Nat.beq_eq] at h;obtain ⟨h2,h3⟩:=h;have hy:((d:Int) - (d:Int) / 1460+(d:Int) / 36524 - (d:Int) / 146096) / 365=((Z4E d:Nat):Int):=by unfold Z4E;omega
 have oJ:Z4E d<=399:=by unfold Z4E;omega
 have ax:(Z5t (Z4E d):Int)=365 * (Z4E d:Int)+(Z4E d:Int) / 4 - (Z4E d:Int) / 100:=by unfold Z5t;omega
 refine ⟨Z4E d,d - Z5t (Z4E d),hy,by omega,oJ,?_,λh4=>?_⟩;rcases h3 with h3|h3
 have:=Xj h3;omega;have:=h3.1;omega;rcases h3 with h3|h3
 have:=Xj h3;omega;have:=h3.2;rw [Zhx] at this;exact this
theorem ZeE (y e:Int):Z0b (y+400 * e)=Z0b y:=by
 unfold Z0b;have h4:(y+400 * e) % 4=y % 4:=by omega
 have oK:(y+400 * e) % 100=y % 100:=by omega
 have oL:(y+400 * e) % 400=y % 400:=by omega
 rw [h4,oK,oL]
theorem Z4m {n:Int} (h0:0<=n) (h1:n<=3652058):1<=(ofM n).y/\(ofM n).y<=9999/\1<=(ofM n).m/\(ofM n).m<=12/\1<=(ofM n).d/\(ofM n).d<=Zo (ofM n).y (ofM n).m/\Jt (ofM n).y (ofM n).m (ofM n).d=n:=by
 obtain ⟨yoe,doy,e1,e2,hy,hd,hl⟩:=Zhz ((n+306) % 146097) (by omega) (by omega);obtain ⟨m1,m2,m3⟩:=Zhy doy (by omega);have tE:(n+306) / 146097 * 146097+(n+306) % 146097=n+306:=by omega
 unfold ofM;simp only;rw [e1,e2];have em:(5 * (doy:Int)+2) / 153=(((5 * doy+2) / 153:Nat):Int):=by omega
 rw [em];have ek:(153 * (((5 * doy+2) / 153:Nat):Int)+2) / 5=(((153 * ((5 * doy+2) / 153)+2) / 5:Nat):Int):=by omega
 rw [ek];generalize (n+306) / 146097=era at *;generalize (n+306) % 146097=doe at *;have rp:∀ m:Nat,m<=11->(153 * (m:Int)+2) / 5=(((153 * m+2) / 5:Nat):Int):=λm _=>by omega
 generalize hm:(5 * doy+2) / 153=m at *;have q4:((yoe:Int)+400 * era) / 4=(yoe:Int) / 4+100 * era:=by omega
 have q100:((yoe:Int)+400 * era) / 100=(yoe:Int) / 100+4 * era:=by omega
 have q400:((yoe:Int)+400 * era) / 400=era:=by omega
 by_cases gt:((m:Nat):Int)>=10;rw [if_pos gt];simp only;have fy:Jt ((yoe:Int)+400 * era+1) ((m:Int) - 9) ((doy:Int) - (((153 * m+2) / 5:Nat):Int)+1)=n:=by
  unfold Jt;rw [if_pos (by omega)];simp only;rw [show (yoe:Int)+400 * era+1 - 1=(yoe:Int)+400 * era by omega,show (m:Int) - 9+9=(m:Int) by omega,rp m m1,q4,q100,q400];omega
 refine ⟨?_,?_,by omega,by omega,by omega,?_,fy⟩;omega;omega;have lG:m=10\/m=11:=by omega
 rcases lG with rfl|rfl
 unfold Zo;rw [if_neg (by omega),if_neg (by omega),if_neg (by omega)];rw [if_neg (by omega),if_neg (by omega)] at m3;omega;unfold Zo;rw [if_neg (by omega),if_pos (by omega)];rw [if_pos rfl] at m3;by_cases jL:doy=365;rw [if_pos jL] at m3;have fz:Z0b ((yoe:Int)+400 * era+1)=true:=by
  rw [show (yoe:Int)+400 * era+1=((yoe:Int)+1)+400 * era by omega,ZeE];exact hl jL
 rw [fz];simp only [if_true];omega;rw [if_neg jL] at m3;split<;>omega
 rw [if_neg gt];simp only;have fy:Jt ((yoe:Int)+400 * era) ((m:Int)+3) ((doy:Int) - (((153 * m+2) / 5:Nat):Int)+1)=n:=by
  unfold Jt;rw [if_neg (by omega)];simp only;rw [show (m:Int)+3 - 3=(m:Int) by omega,rp m m1,q4,q100,q400];omega
 refine ⟨?_,?_,by omega,by omega,by omega,?_,fy⟩;omega;omega;unfold Zo;rw [if_neg (by omega),if_neg (by omega)];rw [if_neg (by omega)] at m3;split at m3;rw [if_pos (by omega)];omega;rw [if_neg (by omega)];omega
theorem Z4c:∀ (k u:Nat),u<10 ^ (k+1)->(Lib.decDigits u).length<=k+1
 | 0,u,h=>by rw [Lib.decDigits,dif_pos (by simpa using h)];simp
 | k + 1, u, h => by
   rw [Lib.decDigits];split;simp;have:=Z4c k (u / 10) (by rw [YbB] at h;omega);simp;omega
def ZG (y:Int):Int:=365 * (y - 1)+(y - 1) / 4 - (y - 1) / 100+(y - 1) / 400
def Ju (y:Int):Nat->Int
 | 0=>0
 | k+1=>Ju y k+Zo y ((k:Int)+1)
theorem Z86 (y:Int):Z0b y=true↔(y % 4=0/\(¬ y % 100=0\/y % 400=0)):=by
 unfold Z0b;simp
theorem Z3l (y:Int):ZG (y+1)=ZG y+(if Z0b y=true then 366 else 365):=by
 unfold ZG;have h:=Z86 y;by_cases hl:Z0b y=true;rw [if_pos hl];have:=h.1 hl;omega;rw [if_neg hl];have:¬ (y % 4=0/\(¬ y % 100=0\/y % 400=0)):=λh'=>hl (h.2 h');omega
theorem Z0c {a b:Int} (h:a<=b):ZG a<=ZG b:=by
 unfold ZG;omega
theorem Z0d {y:Int} {k:Nat} (hk:k<12):28<=Zo y ((k:Int)+1):=by
 unfold Zo;rw [if_neg (by omega)];repeat' split
 all_goals omega
theorem ZkZ (y:Int):∀ k:Nat,k<=11->Ju y k=(if k<2 then 31 * (k:Int) else (if Z0b y=true then 1 else 0)+(153 * ((k:Int) - 2)+2) / 5+59):=by
 intro k hk;have:k=0\/k=1\/k=2\/k=3\/k=4\/k=5\/k=6\/k=7\/k=8\/k=9\/k=10\/k=11:=by omega
 rcases this with rfl|rfl|rfl|rfl|rfl|rfl|rfl|rfl|rfl|rfl|rfl|rfl<;>simp [Ju,Zo]<;>cases Z0b y<;>simp
theorem ZdD (y:Int):Ju y 12=if Z0b y=true then 366 else 365:=by
 simp [Ju,Zo];cases Z0b y<;>simp
theorem Z1c (y d:Int) (k:Nat) (hk:k<=11):Jt y ((k:Int)+1) d=ZG y+Ju y k+d - 1:=by
 rw [ZkZ y k hk];unfold Jt;by_cases h2:k<2;rw [if_pos h2,if_pos (by omega)];simp only;unfold ZG;omega;rw [if_neg h2,if_neg (by omega)];simp only;have h:=Z3l y;have hl:=Z86 y;have e:(153 * ((k:Int)+1 - 3)+2) / 5=(153 * ((k:Int) - 2)+2) / 5:=by congr 2;omega
 rw [e];generalize (153 * ((k:Int) - 2)+2) / 5=z;have e2:ZG (y+1)=365 * y+y / 4 - y / 100+y / 400:=by unfold ZG;omega
 rw [e2] at h;by_cases dL:Z0b y=true;rw [if_pos dL] at h ⊢;omega;rw [if_neg dL] at h ⊢;omega
theorem JM {y:Int}:∀ {a b:Nat},a<=b->b<=12->Ju y a<=Ju y b
 | a, 0, h, _ => by obtain rfl : a = 0 := by omega
                    exact XI _
 | a, b + 1, h, h2 => by
   by_cases e:a=b+1;subst e;exact XI _;have:=JM (y:=y) (a:=a) (b:=b) (by omega) (by omega);have:=Z0d (y:=y) (k:=b) (by omega);simp only [Ju];omega
theorem ZeF {n:Int} (h0:0<=n) (h1:n<=3652058):∃ k:Nat,k<=11/\(ofM n).m=(k:Int)+1/\1<=(ofM n).y/\(ofM n).y<=9999/\n=ZG (ofM n).y+Ju (ofM n).y k+(ofM n).d - 1/\1<=(ofM n).d/\(ofM n).d<=Zo (ofM n).y ((k:Int)+1)/\ZG (ofM n).y<=n/\n<ZG ((ofM n).y+1):=by
 obtain ⟨g1,g2,g3,g4,g5,g6,g7⟩:=Z4m h0 h1;obtain ⟨k,hk⟩:∃ k:Nat,(ofM n).m=(k:Int)+1:=⟨((ofM n).m - 1).toNat,by omega⟩
 have lU:k<=11:=by omega
 rw [hk] at g6 g7;rw [Z1c _ _ k lU] at g7;have c0:=JM (y:=(ofM n).y) (a:=0) (b:=k) (by omega) (by omega);have c1:=JM (y:=(ofM n).y) (a:=k+1) (b:=12) (by omega) (by omega);have c2:=ZdD (ofM n).y;have c3:=Z3l (ofM n).y;rw [c2,show Ju (ofM n).y (k+1)=Ju (ofM n).y k+Zo (ofM n).y ((k:Int)+1) from rfl] at c1;rw [show Ju (ofM n).y 0=0 from rfl] at c0;exact ⟨k,lU,hk,g1,g2,g7.symm,g5,g6,by omega,by omega⟩
theorem ZhA (k:Nat) (h:0<k):Lib.decDigits k=(if k / 10=0 then [] else Lib.decDigits (k / 10))++[UInt8.ofNat (48+k % 10)]:=by
 rw [Lib.decDigits];by_cases gt:k<10;rw [dif_pos gt,if_pos (by omega)];simp [Nat.mod_eq_of_lt gt];rw [dif_neg gt,if_neg (by omega)]
theorem ZeG (d:Nat) (h:d<10):(([48,49,50,51,52,53,54,55,56,57]:Str).take (d+1)).drop d=[UInt8.ofNat (48+d)]:=by
 have:d=0\/d=1\/d=2\/d=3\/d=4\/d=5\/d=6\/d=7\/d=8\/d=9:=by omega
 rcases this with rfl|rfl|rfl|rfl|rfl|rfl|rfl|rfl|rfl|rfl<;>rfl
variable {P:Program} {n:Nat} {e:Env} {w:World} {d:Option Nat} {ty:TypeId} {pos:String} {af:Array Edge} {g:Option (Nat×Bool)}
theorem Zcm {x:Operand} {t:TypeId} {el:TypeId} [hu:Und P t (.slice el)] {p:Option Addr} {l c:Nat} (hx:ev e x=some (.slice p l c)) :
 PR P n ⟨d,.call { callee:=.builtin .cap,args:=#[x],argTypes:=#[t] },ty,pos,af,g⟩ e w (.I (c:Int)):=
 ⟨λa ha => by
   have:=run_cap_slice (P:=P) w t ty p l c (by rw [hu.h,Program.elem,hu.h]);simp [execOp,resolve,invoke,builtin,ha.ev hx,this,goInt]⟩
theorem Zcn {t el k:Nat} {x hi:Operand} {l c:Nat} [hu:Und P t (.slice el)] [hk:Siz P el k] (hx:ev e x=some (.slice none l c)) (hb:ev e hi=some (.I 0)) :
 PR P n ⟨d,.slice t x none (some hi) none,ty,pos,af,g⟩ e w (.slice none 0 c):=by
 refine ⟨λact fc=>?_⟩;simp [execOp,fc.ev hx,fc.ev hb,Instr.sliceAt,run_underlying hu.h,Instr.slice,Instr.sliceBounds,Instr.sliceBound,asIntOf,Siz.run]
theorem ZeH {t el k:Nat} {x hi:Operand} {b o:Nat} {l c:Nat} [hu:Und P t (.slice el)] [hk:Siz P el k] (hx:ev e x=some (.slice (some ⟨b,o,none⟩) l c)) (hb:ev e hi=some (.I 0)) :
 PR P n ⟨d,.slice t x none (some hi) none,ty,pos,af,g⟩ e w (.slice (some ⟨b,o,none⟩) 0 c):=by
 refine ⟨λact fc=>?_⟩;simp [execOp,fc.ev hx,fc.ev hb,Instr.sliceAt,run_underlying hu.h,Instr.slice,Instr.sliceBounds,Instr.sliceBound,asIntOf,Siz.run,Addr.add_lit]
section
variable {P:Program} {n:Nat} {Q:Exit->Act->World->Prop} {e:Env} {w:World}
theorem Zco {o:Oper} {a:Act} {w} {K K':Act->World->Prop} {Q':Exit->Act->World->Prop} (h:∀ a w,K a w->K' a w) (hq:∀ ex a w,Q' ex a w->Q ex a w)
 (hh:o.wp P a w K Q'):o.wp P a w K' Q:=by
 unfold Oper.wp at *;generalize (execOp a.eval o).run P w=r at *;cases r with
 | ok n w'=>
   cases n<;>simp only [Oper.upon] at hh ⊢ <;>
    first
     | exact h _ _ hh
     | exact Calls.mono hh (λe w'' he=>by cases e<;>first|exact h _ _ he|exact hq _ _ _ he|exact he.elim (λa h=>h.elim (λw h=>⟨a,w,hq _ _ _ h⟩)))
     | exact Rows.mono hh (λ_ _ he=>h _ _ he)
 | halt x w'=>cases x<;>simp only [Oper.upon] at hh ⊢<;>first|exact hq _ _ _ hh|exact hh
theorem Z2J {ops:Array Oper} {Q':Exit->Act->World->Prop} (hq:∀ ex a w,Q' ex a w->Q ex a w):∀ (l:List Oper) (a:Act) (w),wpList P ops Q' l a w->wpList P ops Q l a w
 | [],a,w,h=>hq _ _ _ h
 | o :: rest, a, w, h => by
   unfold wpList at h ⊢;split;rename_i hw;rw [if_pos hw] at h;rcases h with h|⟨h1,a',w',h2⟩
   exact .inl (Zco (λa w h=>Z2J hq rest a w h) hq h);exact .inr ⟨h1,a',w',hq _ _ _ h2⟩;rename_i hw;rw [if_neg hw] at h;exact Z2J hq rest _ _ h
theorem Z98 {y:Code} {σ:Type} {ops:Array Oper} {l:List Oper} (env:σ->Env) (I:σ->World->Prop)
 (h:WL P n ops (Exit.then (λa w=>∃ s,Has n (env s) a/\I s w) Q) l e w) (k:∀ s w,I s w->WC P n y Q (env s) w):WL P n ops (Exit.then (λa w=>y.wp P Q a w) Q) l e w:=
 ⟨λa ha => Z2J (λex a w hq => by
   cases ex with
   | normal=>obtain ⟨s,h1,h2⟩:=hq;exact (k s w h2).h a h1
   | _=>exact hq) l a w (h.h a ha)⟩
end
open Go Go.RowKit Go.Proofs Go.ChangeShapes Go.WideShapes Go.Deep
section
variable {H:Type} {enc:TypeId×Value->H} {P:Program} {w:World} {base:Nat} {spare:Nat->Bool} {fA:Bool}
theorem Zas (b o n:Nat):(⟨b,o,none⟩:Addr).add n=⟨b,o+n,none⟩:=by
 unfold Addr.add;split;rename_i h;subst h;rfl;rfl
def Zl0:DataW H->Nat
 | .slice els _=>els.length
 | _=>0
theorem Zat {α:Type} [Z2 α] {ok:α->Prop} {t e:TypeId} {fuel:Nat} {cs:List Value} {x:DataW H×List MemPlace} (ht:P.underlying t=some (.slice e)) (hC:P.cellsOf e=Z2.k α) (aZ:0<Z2.k α)
 (lV:∀ n cs' y,cs'.length=Z2.k α->DataW.trod enc P w base spare fA n e cs'=some y->∃ a:α,cs'=Z2.enc a/\ok a)
 (h:DataW.trod enc P w base spare fA fuel t cs=some x):∃ (v:Value) (xs:List α),cs=[v]/\SlV [] w v xs/\(∀ a∈xs,ok a)/\Zl0 x.1=xs.length:=by
 rcases open_slice ht h with ⟨rfl,rfl⟩|⟨a,len,cap,m,n,D,Pl,rfl,hb,hl,hm,dQ,hx,hi⟩
 exact ⟨_,[],rfl,⟨none,0,rfl,Xl _,by simp [maxLen],λ_=>rfl,λi h=>absurd h (XF _)⟩,by simp,rfl⟩;have ce:len<=m:=by rw [dQ];split<;>omega
 have bi:∀ y:α,∃ u,(Z2.enc y)[0]?=some u:=λy=>⟨_,XR (by rw [Z2.len y];exact aZ)⟩
 have aP:∀ i:Fin len,∃ y:α,ok y/\∀ j u,(Z2.enc y)[j]?=some u->w.cell? (a.add (i * Z2.k α+j))=some u:=by
  intro i;obtain ⟨cs',hc,tF⟩:=hi i (by omega);rw [hC] at hc;obtain ⟨_,bY,ez⟩:=World.cells?_some hc;obtain ⟨y,rfl,aL⟩:=lV n cs' _ bY tF;refine ⟨y,aL,λj u hu=>?_⟩;have hj:j<Z2.k α:=by
   have:=(Xw.1 hu).1;rw [Z2.len] at this;exact this
  have:=ez j hj;rw [hu] at this;rw [<- this,Go.Deep.add_add]
 let f:Fin len->α:=λi=>(aP i).choose
 have hf:∀ i:Fin len,ok (f i)/\∀ j u,(Z2.enc (f i))[j]?=some u->w.cell? (a.add (i * Z2.k α+j))=some u:=λi=>(aP i).choose_spec;refine ⟨_,List.ofFn f,rfl,⟨some a,cap,by simp,by simpa using hl,hm,by simp,λi ca=>?_⟩,λy hy=>?_,by rw [hx];simp [Zl0]⟩;have jM:i<len:=by simpa using ca
 have jh:=(hf ⟨i,jM⟩).2;obtain ⟨u1,tG⟩:∃ u,(Z2.enc (f ⟨0,by omega⟩))[0]?=some u:=bi _;have dR:=(hf ⟨0,by omega⟩).2 0 u1 tG;obtain ⟨u0,tH⟩:∃ u,(Z2.enc (f ⟨i,jM⟩))[0]?=some u:=bi _;have gU:=jh 0 u0 tH;have db:a.spot=none:=by
  have e0:a.add ((⟨0,by omega⟩:Fin len).val * Z2.k α+0)=a:=by simp [Addr.add]
  rw [e0] at dR;unfold World.cell? at dR;split at dR
  . cases hs:a.spot with
    | none=>rfl
    | some s=>simp [hs] at dR
  cases dR
 obtain ⟨b,o,sp⟩:=a;cases db;refine ⟨b,o,Z2.enc (f ⟨i,jM⟩),rfl,?_,by simp,?_,λj u hu=>?_⟩;have:=block_lt_of_cell (a:=(⟨b,o,none⟩:Addr).add (i * Z2.k α+0)) gU;simpa [Zas] using this;simp;rfl;have:=jh j u hu;rw [Zas] at this;rw [show o+i * Z6.k α+j=o+(i * Z2.k α+j) from YaK _ _ _];exact this;obtain ⟨i,rfl⟩:=List.mem_ofFn.1 hy;exact (hf i).1
theorem ZhB {t e:TypeId} {fuel:Nat} {cs:List Value} {x:DataW H×List MemPlace} (ht:P.underlying t=some (.slice e)) (hC:P.cellsOf e=1) (he:P.underlying e=some (.int .i64))
 (h:DataW.trod enc P w base spare fA fuel t cs=some x):∃ (v:Value) (xs:List Int),cs=[v]/\SlV [] w v xs/\(∀ a∈xs,I64 a)/\Zl0 x.1=xs.length:=
 Zat (α:=Int) ht hC (by decide) (λn cs' y hl hy=>by
  obtain ⟨z,rfl,_,hw⟩:=DataW.trod_int he hy;exact ⟨z,rfl,by simpa [I64,Lit.wf,IntKind.min,IntKind.max,IntKind.signed,IntKind.bits] using hw⟩) h
end
section
variable {H:Type} {enc:TypeId×Value->H} {P:Program}
def ZdE (P:Program) (ts:List TypeId):Bool:=ts.all λt=>P.readableRec t && decide (t<P.types.size)
theorem Z4d (hl:laidOutB P=true) {W W':World} (hb:Below W.heap.size W W') {sp:Nat->Bool}:∀ {ts:List TypeId} {vs:List Value} {ds:List (DataW H)} {ps:List MemPlace},ZdE P ts=true->
 DataW.TrodAll enc P W 0 (λ_=>true) true ts vs ds ps->(∀ x∈ps,x.block<W.heap.size)->(∀ x∈ps,sp x.block=true)->DataW.TrodAll enc P W' 0 sp true ts vs ds ps
 | [],[],[],_,_,h,_,_=>h
 | t :: ts, v :: vs, d :: ds, ps, hr, h, hlt, hs => by
   obtain ⟨p,q,h1,h2,rfl⟩:=h;simp only [ZdE,List.all_cons,Xf,decide_eq_true_eq] at hr;obtain ⟨⟨r1,r2⟩,r3⟩:=hr;exact ⟨p,q,WideElems.Trod_stays hl r1 r2 h1 (λx hx=>hb.same (hlt x (by simp [hx]))) (λx hx=>hs x (by simp [hx])),Z4d hl hb (by simpa [ZdE] using r3) h2 (λx hx=>hlt x (by simp [hx])) (λx hx=>hs x (by simp [hx])),rfl⟩
 | [],_ :: _,_,_,_,h,_,_=>h.elim
 | [],[],_ :: _,_,_,h,_,_=>h.elim
 | _ :: _,[],_,_,_,h,_,_=>h.elim
 | _ :: _,_ :: _,[],_,_,h,_,_=>h.elim
section
variable {f:Func} {s:ChangeSpec} {apart fresh handsOn again:Bool} {W W':World} {args:Array Value} {v:Value} {ds gs:List (DataW H)} {before pa pv:List MemPlace}
theorem Z7H
 (hW:DataW.Whole enc P f.params.toList s.vars apart W args.toList ds gs before)
 (az:∀ (b:Nat) (sp:Nat->Bool) (hd:Bool),DataW.TrodAll enc P W' b sp hd f.resultTypes.toList (v.resultList f.resultTypes.size) (s.fn H (ds++gs)).results [])
 (ji:∀ sp:Nat->Bool,(∀ p∈before,sp p.block=true)->DataW.TrodAll enc P W' 0 sp true f.params.toList args.toList (s.fn H (ds++gs)).args pa)
 (jj:∀ sp:Nat->Bool,(∀ p∈before,sp p.block=true)->DataW.TrodVars enc P W' sp s.vars (s.fn H (ds++gs)).vars pv)
 (kP:before=pa++pv) (hb:Below W.heap.size W W')
 (aL:∀ (j:Nat) (t:TypeId) (r:Value),f.resultTypes[j]?=some t->(v.resultList f.resultTypes.size)[j]?=some r->Value.okWide P W' .any 0 t r) :
 s.post enc P f apart fresh handsOn again W args v W':=by
 have hlt:∀ p∈before,p.block<W.heap.size:=λp hp=>hW.lt p hp;have eO:∀ p∈before,(λb=>decide (b<W.heap.size)) p.block=true:=λp hp=>by simpa using hlt p hp
 refine ⟨ds,gs,before,[],pa,pv,hW,az _ _ _,ji _ eO,jj _ eO,World.keptBut_mono (λp hp=>⟨hp,?_⟩) (hb.frame (·∈before)),λ_=>?_⟩;rw [kP,Xd] at hp;exact Or.inr hp;obtain ⟨_,_,_,_,_,hz,hn⟩:=hW;refine ⟨aL,_,_,([]++pa)++pv,⟨[]++pa,pv,trodAll_append (ji _ (λ_ _=>rfl)) (az _ _ _),jj _ (λ_ _=>rfl),rfl,?_,?_⟩,?_⟩;intro b off hp;have aY:MemPlace.cell b off∈before:=by rw [kP];simpa using hp
 rw [hb.frozen (hlt _ aY)];exact hz b off aY;intro ha;have:=hn ha;rw [kP] at this;simpa using this;intro p hp _;rw [kP];simpa using hp
end
def Zl1 (s:ChangeSpec) (k:Nat):Prop:=s.vars=[]/\∀ (H:Type) (ds:List (DataW H)),ds.length=k->(s.fn H ds).results=[.lit (.bool true)]/\(s.fn H ds).args=ds/\(s.fn H ds).vars=[]
theorem Z5T {W:World} {base:Nat} {sp:Nat->Bool} {hd:Bool}:∀ {ts:List TypeId} {vs:List Value} {ds:List (DataW H)} {ps:List MemPlace},DataW.TrodAll enc P W base sp hd ts vs ds ps->ds.length=ts.length
 | [],[],[],_,_=>rfl
 | t :: ts, v :: vs, d :: ds, ps, h => by
   obtain ⟨p,q,h1,h2,rfl⟩:=h;simp [Z5T h2]
 | [],_ :: _,_,_,h=>h.elim
 | [],[],_ :: _,_,h=>h.elim
 | _ :: _,[],_,_,h=>h.elim
 | _ :: _,_ :: _,[],_,h=>h.elim
theorem ZtT {fn:Func} {K tb:Nat} {s:ChangeSpec} {fresh handsOn again:Bool} {W:World} {args:Array Value} {ds gs:List (DataW H)} {before:List MemPlace} (hl:laidOutB P=true) (hr:ZdE P fn.params.toList=true)
 (az:fn.resultTypes=#[tb]) (hb:P.underlying tb=some .bool) (hs:Zl1 s fn.params.size)
 (hW:DataW.Whole enc P fn.params.toList s.vars false W args.toList ds gs before) (hc:Calls P K args W (Ret λr w'=>r=.bool true/\Stp [] W w')) :
 Calls P K args W λe W'=>∃ v,e=.returned v/\s.post enc P fn false fresh handsOn again W args v W':=by
 refine hc.mono ?_;rintro _ w' ⟨_,rfl,rfl,hS⟩;refine ⟨_,rfl,?_⟩;have rq:=hW;obtain ⟨p,q,hA,hV,oM,wQ,d5⟩:=hW;rw [hs.1] at hV;obtain ⟨rfl,rfl⟩:=trodVars_none hV;have ak:(ds++[]).length=fn.params.size:=by simpa using Z5T hA
 obtain ⟨s1,s2,s3⟩:=hs.2 H (ds++[]) ak;have hlt:∀ x∈before,x.block<W.heap.size:=λx hx=>rq.lt x hx;refine Z7H (pa:=p) (pv:=[]) rq (λb sp hd=>?_) (λsp db=>?_) (λsp _=>?_) oM hS.below ?_;rw [s1,az];exact trodAll_mk1 ⟨1,by simp [DataW.trod,Value.cells,hb]⟩;rw [s2];simp only [Xz] at oM ⊢;subst oM;exact Z4d hl hS.below hr hA hlt db;rw [s3,hs.1];rfl;exact ok_one az rfl (by simp [Value.okWide,hb,Cell.okWide,Cell.ok])
end
section
variable {H:Type} {enc:TypeId×Value->H}
theorem ZhC {a:Assume} {C:Checked} {os:Os} {f:FuncId} {fn:Func} {s:ChangeSpec} {conds:List PathCond} {apart fresh handsOn again:Bool} {X:World->Array Value->Prop}
 (hX:∀ (w w':World) (args:Array Value),w.heap=w'.heap->X w args->X w' args)
 (own:ownKnob C.prog.godebug=none) (started:os.Started) (noInit:C.prog.inits.idxOf? f=none) (oN:C.prog.funcs[f]?=some fn)
 (witness : ∃ (w : World) (tape : Tape) (i : Input), w.os = os /\ (w.forCall tape i).Shaped C.prog /\ i.vars = [] /\ Input.okWide C.prog (w.forCall tape i) .any w.heap.size f i/\
   ((s.pre enc C.prog fn conds apart (w.forCall tape i).memory i.args/\X (w.forCall tape i).memory i.args)/\sizedMet enc C.prog fn (OpenSpec.ofChange s) apart (w.forCall tape i).memory i.args)/\a.holds C.prog (lone (Frame.enter C.prog f i.args .normal) [] (w.forCall tape i)))
 (contract : ∀ (W : World) (base : Nat) (args : Array Value) (ds gs : List (DataW H)) (before : List MemPlace),
   (∀ (j:Nat) t v,fn.params[j]?=some t->args[j]?=some v->Value.okWide C.prog W .any base t v)->
   DataW.Whole enc C.prog fn.params.toList s.vars apart W args.toList ds gs before->
   (DataW.weightsEach C.prog (fn.params.toList++s.plain.varTypes C.prog) (ds++gs)).all (·<=reachBytes)=true->X W args->W.ShapedOpen C.prog->
   Calls C.prog f args W λe W'=>∃ v,e=.returned v/\s.post enc C.prog fn apart fresh handsOn again W args v W') :
 ReturnsInHanded a C os f .any (λw args=>(s.pre enc C.prog fn conds apart w args/\X w args)/\sizedMet enc C.prog fn (OpenSpec.ofChange s) apart w args) (s.post enc C.prog fn apart fresh handsOn again):=by
 refine returnsInHanded_of_calls own started noInit witness ?_;intro w tape i _ eN _ aL cH hholds;obtain ⟨_,_,_,fn',oO,_,_,_,_,oP⟩:=aL;have e:fn'=fn:=XU (oO.symm.trans oN);subst e;obtain ⟨⟨⟨ds,gs,before,hw,hc⟩,hx⟩,hz⟩:=cH;have tI:=DataW.Whole.of_heap (w':=w.forCall tape i) (by rfl) hw;refine (contract (w.forCall tape i) w.heap.size i.args ds gs before oP tI (hz.weights hw) (hX _ _ _ (by rfl) hx) eN).mono λe W' ⟨v,he,hp⟩=>?_
 subst he;exact ChangeSpec.post_blind hp
end
section
variable {P:Program} {n:Nat} {e:Env} {w:World} {d:Option Nat} {ty:TypeId} {pos:String} {af:Array Edge} {g:Option (Nat×Bool)}
theorem Zl2 {src dst:TypeId} {k k':IntKind} {x:Operand} {a:Int} {D:TypeDesc} [hs:Und P src D] [hd:Und P dst (.int k)] (hx:ev e x=some (.int k' a)) :
 PR P n ⟨d,.convert src dst x,ty,pos,af,g⟩ e w (.int k (k.wrap a)):=
 ⟨λc ha => by
   have hk:P.intKind dst=k:=by simp [Program.intKind,hd.h]
   have:=run_convert_int (P:=P) w src dst k' a (by rw [hs.h];rfl) (by rw [hk];exact hd.h);simp [execOp,ha.ev hx,this,hk]⟩
section
variable {x y:Operand} {t u:TypeId} {k:IntKind} {a b:Int}
theorem Zl3 (hx:ev e x=some (.int k a)) (hy:ev e y=some (.int k b)) {r:Int} (hr:k.wrap (a+b)=r):PR P n ⟨d,.binOp .add t x y u,ty,pos,af,g⟩ e w (.int k r):=
 ⟨λc ha=>by simp only [execOp,ha.ev hx,ha.ev hy];simp [go_sem,Op.intArith,hr]⟩
theorem Zl4 (hx:ev e x=some (.int k a)) (hy:ev e y=some (.int k b)) {r:Int} (hr:k.wrap (a - b)=r):PR P n ⟨d,.binOp .sub t x y u,ty,pos,af,g⟩ e w (.int k r):=
 ⟨λc ha=>by simp only [execOp,ha.ev hx,ha.ev hy];simp [go_sem,Op.intArith,hr]⟩
theorem Zl5 (hx:ev e x=some (.int k a)) (hy:ev e y=some (.int k b)) {r:Int} (hr:k.wrap (a * b)=r):PR P n ⟨d,.binOp .mul t x y u,ty,pos,af,g⟩ e w (.int k r):=
 ⟨λc ha=>by simp only [execOp,ha.ev hx,ha.ev hy];simp [go_sem,Op.intArith,hr]⟩
theorem Zl6 (hx:ev e x=some (.int k a)) (hy:ev e y=some (.int k b)) (hb:b≠0) {r:Int} (hr:a.tmod b=r):PR P n ⟨d,.binOp .rem t x y u,ty,pos,af,g⟩ e w (.int k r):=
 ⟨λc ha=>by simp only [execOp,ha.ev hx,ha.ev hy];simp [go_sem,Op.intDiv,hb];try rw [hr]⟩
theorem Zl7 (hx:ev e x=some (.int k a)) (hy:ev e y=some (.int k b)) (hb:b≠0) {r:Int} (hr:k.wrap (a.tdiv b)=r):PR P n ⟨d,.binOp .quo t x y u,ty,pos,af,g⟩ e w (.int k r):=
 ⟨λc ha=>by simp only [execOp,ha.ev hx,ha.ev hy];simp [go_sem,Op.intDiv,hb];try rw [hr]⟩
end
end
end Go.Eng
namespace Go.Proofs.YtgdicjnjhchooaaGreatDoor
open Go Go.Eng Go.RowKit Go.Proofs
def Z2m:List Int:=[0,31,28,31,30,31,30,31,31,30,31,30,31]
def Z0K (w:World):Prop:=∀ i u,Z2m[i]?=some u->w.cell? ⟨1,i,none⟩=some (.I u)
theorem Z0K.ext {S:List Nat} {w w':World} (h:Z0K w) (hS:Stp S w w') (hb:1∉S):Z0K w':=λi u hu=>hS.cell hb (h i u hu)
theorem Z0K.up {w w':World} (h:Z0K w) (hS:Stp [] w w'):Z0K w':=h.ext hS (by simp)
theorem ZhD (y:Int) (w) (h0:0<=y) (h1:y<=100000):CC 286 #[.I y] w λr w'=>r=.B (Z0b y)/\w'=w:=by
 unfold Z0b;refine cW1 16 Tryz.func286 ?_;repeat'(first|refine W1 ?_|omega|refine VG ?_ ?_<;>intro hg|refine VC ?_ ?_<;>intro hc)
 all_goals refine WR ?_
 all_goals refine .mk ⟨?_,rfl⟩
 all_goals congr 1
 all_goals (first|done|(rw [YaI];simp;omega)|(simp [*]))
theorem Z2K (y m:Int) (w) (hL:Z0K w) (h0:0<=y) (h1:y<=100000):CC 236 #[.I y,.I m] w λr w'=>r=.I (Zo y m)/\w'=w:=by
 unfold Zo;refine cW2 22 Tryz.func236 ?_;by_cases hm:m<1\/12<m
 . rw [if_pos hm]
   repeat'(first|refine W1 ?_|omega|refine VG ?_ ?_<;>intro hg|refine VC ?_ ?_<;>intro hc)
   all_goals refine WR ?_
   all_goals exact .mk ⟨rfl,rfl⟩
 rw [if_neg hm];obtain ⟨k,rfl⟩:∃ k:Nat,m=(k:Int):=⟨m.toNat,by omega⟩
 have hk:k<13:=by omega
 have am:w.cell? ⟨1,0+k * 1,none⟩=some (.I (Z2m.getD k 0)):=hL _ _ (by
  have:k<Z2m.length:=hk;simp [List.getD,this])
 by_cases h2:(k:Int)=2;rw [if_pos h2];refine QO ?_;refine CL (ZhD y _ h0 h1) ?_;rintro _ _ ⟨rfl,rfl⟩;cases hl:Z0b y;refine W ?_;refine Z9 (Jp rfl rfl am) rfl ?_;refine W ?_;refine WR ?_;obtain rfl:k=2:=by omega
 exact .mk ⟨rfl,rfl⟩;refine RT ?_;exact ⟨rfl,rfl⟩;rw [if_neg h2];refine QO ?_;refine Z9 (Jp rfl rfl am) rfl ?_;refine W ?_;refine WR ?_;refine .mk ⟨?_,rfl⟩;congr 1;have:k=1\/k=3\/k=4\/k=5\/k=6\/k=7\/k=8\/k=9\/k=10\/k=11\/k=12:=by omega
 rcases this with rfl|rfl|rfl|rfl|rfl|rfl|rfl|rfl|rfl|rfl|rfl<;>rfl
abbrev Z99 (y m d:Int):Value:=.agg #[.I y,.I m,.I d]
def Z0g (y m d:Int):Prop:=y<1\/9999<y\/m<1\/12<m\/d<1\/Zo y m<d
instance (y m d:Int):Decidable (Z0g y m d):=by unfold Z0g;infer_instance
theorem Zcp (y m d:Int) (w) (hL:Z0K w):CC 362 #[Z99 y m d] w λr w'=>r=.I (if Z0g y m d then 5 else 0)/\Stp [] w w':=by
 refine cW1 36 Tryz.func362 ?_;refine W ?_;refine Z0 (Zp rfl) rfl ?_;rintro _ w1 ⟨b,rfl,hb,ab,hS⟩;replace ab:Blk w1 b 288 [.I y,.I m,.I d]:=ab;replace hL:=hL.up hS;refine W ?_;refine ZDr 33 [] [] [(0,0),(1,1),(2,0),(3,0),(4,0),(5,1),(6,0),(7,0),(8,0),(9,0),(10,1),(11,0),(12,0),(13,0),(14,0),(15,1),(16,0),(17,0),(18,0),(19,0),(20,1),(21,0),(22,0),(23,0),(24,0),(25,1),(26,0),(27,1),(28,0),(29,1),(30,2),(31,0),(32,0)] (λw1 ae=>?_);replace ab:=ab.up ae;replace hL:=hL.up ae;replace hS:=hS.trans ae;clear ae;by_cases hg:y<1\/9999<y\/m<1\/12<m\/d<1
 . have cq:Z0g y m d:=by unfold Z0g;omega
   rw [if_pos cq];repeat'(first|refine D1 ?_|omega|refine Zl rfl rfl rfl rfl (λhg=>?_) (λhg=>?_)|(refine Zh rfl rfl rfl rfl (λhg=>?_) (λhg=>?_)<;>refine D1 ?_)|fail)
   all_goals refine QO ?_
   all_goals refine WR ?_
   all_goals exact .mk ⟨rfl,hS⟩
 . refine QD ?_
   refine Z7 rfl rfl (Z3 rfl (Zg rfl rfl) (Z2K y m _ hL (by omega) (by omega))) (λ_ _ h=>by rw [h.2];exact Stp.refl _ _) rfl ?_;rintro _ w3 ⟨rfl,rfl⟩;refine QD ?_;all_goals (refine QP ?_ ?_<;>intro hc)
   refine RU ?_;exact ⟨by rw [if_pos (by unfold Z0g;omega)],hS⟩;refine RU ?_;exact ⟨by rw [if_neg (by unfold Z0g;omega)],hS⟩
theorem Z4n (y m d:Int) (w) (hy:0<=y) (dm:y<=100000) (hm:1<=m) (fe:m<=12) (hd:0<=d) (iB:d<=100000) (h1:m - 3<0->1<=y):CC 237 #[Z99 y m d] w λr w'=>r=.I (Jt y m d)/\Stp [] w w':=by
 refine cW1 36 Tryz.func237 ?_;refine W ?_;refine Z0 (Zp rfl) rfl ?_;rintro _ w1 ⟨b,rfl,hb,ab,hS⟩;replace ab:Blk w1 b 288 [.I y,.I m,.I d]:=ab;refine W ?_;refine ZDr 7 [] [] [(0,0),(1,1),(2,0),(3,1),(4,0),(5,0),(6,0)] (λw1 ae=>?_);replace ab:=ab.up ae;replace hS:=hS.trans ae;clear ae;refine D ?_
 (refine QP ?_ ?_<;>intro hc)
 all_goals refine WR ?_
 all_goals refine .mk ⟨?_,hS⟩
 all_goals unfold Jt
 rw [if_pos (by assumption)];congr 1;dsimp only;omega;rw [if_neg (by assumption)]
theorem Zau (y m d:Int) (w) (hL:Z0K w):CC 324 #[Z99 y m d] w λr w'=>r=.tuple #[.I (if Z0g y m d then 0 else Jt y m d),.I (if Z0g y m d then 5 else 0)]/\Stp [] w w':=by
 refine cW1 12 Tryz.func324 ?_;refine W ?_;refine Z0 (Zp rfl) rfl ?_;rintro _ w1 ⟨b,rfl,hb,ab,hS⟩;replace ab:Blk w1 b 288 [.I y,.I m,.I d]:=ab;replace hL:=hL.up hS;refine W ?_;refine CL (Zcp y m d _ hL) ?_;rintro _ w2 ⟨rfl,hT⟩;replace ab:=ab.up hT;replace hS:=hS.trans hT;clear hT;by_cases cq:Z0g y m d;rw [if_pos cq,if_pos cq];refine RT ?_;exact ⟨rfl,hS⟩;rw [if_neg cq,if_neg cq];refine W ?_;have oQ:=Z10 y m;unfold Z0g at cq;refine CM (ZS rfl) (Z4n y m d _ (by omega) (by omega) (by omega) (by omega) (by omega) (by omega) (by omega)) ?_;rintro _ w3 ⟨rfl,hT⟩;refine RT ?_;exact ⟨rfl,hS.trans hT⟩
end Go.Proofs.YtgdicjnjhchooaaGreatDoor
namespace Go.Eng
open Go Go.RowKit Go.Proofs
end Go.Eng
namespace Go.Proofs.YtgdicjnjhchooaaGreatDoor
open Go Go.Eng Go.RowKit Go.Proofs
theorem Z2L (y m d:Int) (w):(Instr.build 288 #[(0,.I y),(1,.I m),(2,.I d)]).run Tryz.prog w=.ok (Z99 y m d) w:=by kernel_rfl
end Go.Proofs.YtgdicjnjhchooaaGreatDoor
namespace Go.Proofs
theorem fxT {P:Go.Program} {f:Nat} {a b:Go.Func} (h:P.funcs[f]?=some a) (e:a=b:=by kernel_rfl):P.funcs[f]?=some b:=h.trans (congrArg some e)
open Go.Shelf
def Tryz.lays137_ren:Go.Shelf.Ren:=⟨fun|137=>298|217=>348|266=>369|n=>n,fun|9=>9|5=>5|3=>3|n=>n,fun|n=>n⟩
theorem Tryz.lays137:Go.Proofs.Lays.n137 Tryz.prog Tryz.lays137_ren:={
 mixed:=by kernel_rfl
 f137:=fxT Tryz.func298
 f217:=fxT Tryz.func348
 f266:=fxT Tryz.func369
 t3:=Tryz.underlying3
 a3:=Tryz.isAgg3
 z3:=Tryz.sizeOf3
 v3:=Tryz.zeroValue3
 t5:=Tryz.underlying5
 a5:=Tryz.isAgg5
 z5:=Tryz.sizeOf5
 v5:=Tryz.zeroValue5
 t9:=Tryz.underlying9
 a9:=Tryz.isAgg9
 z9:=Tryz.sizeOf9
 v9:=Tryz.zeroValue9 }
open Go.RowKit in
theorem Tryz.strings_IndexByte (s:ByteArray) (c:Int) (w:World) :
 Calls Tryz.prog 298 #[.string s,.int .u8 c] w λe w'=>e=.returned (.int .i64 (Lib.indexByte s.data.toList c.toNat.toUInt8))/\w'=w:=Any.strings_IndexByte Tryz.lays137 s c w
def Tryz.lays215_ren:Go.Shelf.Ren:=⟨fun|215=>100|n=>n,fun|3=>3|4=>4|n=>n,fun|n=>n⟩
def Tryz.lays122_ren:Go.Shelf.Ren:=⟨fun|122=>66|215=>100|n=>n,fun|3=>3|4=>4|n=>n,fun|n=>n⟩
theorem Tryz.lays122:Go.Proofs.Lays.n122 Tryz.prog Tryz.lays122_ren:={
 mixed:=by kernel_rfl
 f122:=fxT Tryz.func66
 f215:=fxT Tryz.func100
 t3:=Tryz.underlying3
 a3:=Tryz.isAgg3
 z3:=Tryz.sizeOf3
 v3:=Tryz.zeroValue3
 t4:=Tryz.underlying4
 a4:=Tryz.isAgg4
 z4:=Tryz.sizeOf4
 v4:=Tryz.zeroValue4 }
open Go.RowKit in
theorem Tryz.cmp_Compare_int (x y:Int) (w:World) :
 Calls Tryz.prog 66 #[.int .i64 x,.int .i64 y] w λe w'=>e=.returned (.int .i64 (Lib.compareInt x y))/\w'=w:=Any.cmp_Compare_int Tryz.lays122 x y w
def Tryz.lays172_ren:Go.Shelf.Ren:=⟨fun|172=>301|244=>352|245=>353|247=>370|279=>371|280=>372|281=>373|282=>374|287=>382|316=>383|171=>385|205=>384|321=>388|322=>389|243=>390|246=>392|283=>393|284=>394|285=>395|286=>396|129=>155|317=>397|318=>398|319=>399|320=>400|337=>401|338=>402|n=>n,fun|9=>9|3=>3|75=>339|76=>340|4=>4|5=>5|167=>377|37=>305|0=>0|85=>378|2=>2|168=>380|53=>217|175=>386|46=>170|210=>390|127=>395|145=>398|143=>396|21=>21|171=>400|173=>402|212=>404|51=>215|20=>20|213=>405|232=>406|233=>407|80=>248|n=>n,fun|15=>4|16=>5|17=>6|18=>7|19=>8|n=>n⟩
def Tryz.laysC172_ren:Go.Shelf.Ren:=⟨fun|172=>301|244=>352|245=>353|247=>370|279=>371|280=>372|281=>373|282=>374|287=>382|316=>383|171=>385|205=>384|321=>388|322=>389|243=>390|246=>392|283=>393|284=>394|285=>395|286=>396|129=>155|317=>397|318=>398|319=>399|320=>400|337=>401|338=>402|n=>n,fun|9=>9|3=>3|75=>339|76=>340|4=>4|5=>5|167=>377|37=>305|0=>0|85=>378|2=>2|168=>380|53=>217|175=>386|46=>170|210=>390|127=>395|145=>398|143=>396|21=>21|171=>400|173=>402|212=>404|51=>215|20=>20|213=>405|232=>406|233=>407|80=>248|n=>n,fun|15=>4|16=>5|17=>6|18=>7|19=>8|n=>n⟩
theorem Tryz.laysC172:Go.Proofs.LaysC.n172 Tryz.prog Tryz.laysC172_ren:={
 mixed:=by kernel_rfl
 f129:=fxT Tryz.func155
 f171:=fxT Tryz.func385
 f172:=fxT Tryz.func301
 f205:=fxT Tryz.func384
 f243:=fxT Tryz.func390
 f244:=fxT Tryz.func352
 f245:=fxT Tryz.func353
 f246:=fxT Tryz.func392
 f247:=fxT Tryz.func370
 f279:=fxT Tryz.func371
 f280:=fxT Tryz.func372
 f281:=fxT Tryz.func373
 f282:=fxT Tryz.func374
 f283:=fxT Tryz.func393
 f284:=fxT Tryz.func394
 f285:=fxT Tryz.func395
 f286:=fxT Tryz.func396
 f287:=fxT Tryz.func382
 f316:=fxT Tryz.func383
 f317:=fxT Tryz.func397
 f318:=fxT Tryz.func398
 f319:=fxT Tryz.func399
 f320:=fxT Tryz.func400
 f321:=fxT Tryz.func388
 f322:=fxT Tryz.func389
 f337:=fxT Tryz.func401
 f338:=fxT Tryz.func402
 t0:=Tryz.underlying0
 a0:=Tryz.isAgg0
 z0:=Tryz.sizeOf0
 v0:=Tryz.zeroValue0
 t2:=Tryz.underlying2
 a2:=Tryz.isAgg2
 z2:=Tryz.sizeOf2
 v2:=Tryz.zeroValue2
 t3:=Tryz.underlying3
 a3:=Tryz.isAgg3
 z3:=Tryz.sizeOf3
 v3:=Tryz.zeroValue3
 t4:=Tryz.underlying4
 a4:=Tryz.isAgg4
 z4:=Tryz.sizeOf4
 v4:=Tryz.zeroValue4
 t5:=Tryz.underlying5
 a5:=Tryz.isAgg5
 z5:=Tryz.sizeOf5
 v5:=Tryz.zeroValue5
 t9:=Tryz.underlying9
 a9:=Tryz.isAgg9
 z9:=Tryz.sizeOf9
 v9:=Tryz.zeroValue9
 t20:=Tryz.underlying20
 a20:=Tryz.isAgg20
 z20:=Tryz.sizeOf20
 v20:=Tryz.zeroValue20
 t21:=Tryz.underlying21
 a21:=Tryz.isAgg21
 z21:=Tryz.sizeOf21
 v21:=Tryz.zeroValue21
 t37:=Tryz.underlying305
 a37:=Tryz.isAgg305
 z37:=Tryz.sizeOf305
 v37:=Tryz.zeroValue305
 t46:=Tryz.underlying170
 a46:=Tryz.isAgg170
 z46:=Tryz.sizeOf170
 v46:=Tryz.zeroValue170
 t51:=Tryz.underlying215
 a51:=Tryz.isAgg215
 z51:=Tryz.sizeOf215
 v51:=Tryz.zeroValue215
 t53:=Tryz.underlying217
 a53:=Tryz.isAgg217
 z53:=Tryz.sizeOf217
 v53:=Tryz.zeroValue217
 t75:=Tryz.underlying339
 a75:=Tryz.isAgg339
 z75:=Tryz.sizeOf339
 v75:=Tryz.zeroValue339
 t76:=Tryz.underlying340
 a76:=Tryz.isAgg340
 z76:=Tryz.sizeOf340
 v76:=Tryz.zeroValue340
 t85:=Tryz.underlying378
 a85:=Tryz.isAgg378
 z85:=Tryz.sizeOf378
 v85:=Tryz.zeroValue378
 t127:=Tryz.underlying395
 a127:=Tryz.isAgg395
 z127:=Tryz.sizeOf395
 v127:=Tryz.zeroValue395
 t143:=Tryz.underlying396
 a143:=Tryz.isAgg396
 z143:=Tryz.sizeOf396
 v143:=Tryz.zeroValue396
 t145:=Tryz.underlying398
 a145:=Tryz.isAgg398
 z145:=Tryz.sizeOf398
 v145:=Tryz.zeroValue398
 t167:=Tryz.underlying377
 a167:=Tryz.isAgg377
 z167:=Tryz.sizeOf377
 v167:=Tryz.zeroValue377
 t168:=Tryz.underlying380
 a168:=Tryz.isAgg380
 z168:=Tryz.sizeOf380
 v168:=Tryz.zeroValue380
 t171:=Tryz.underlying400
 a171:=Tryz.isAgg400
 z171:=Tryz.sizeOf400
 v171:=Tryz.zeroValue400
 t173:=Tryz.underlying402
 a173:=Tryz.isAgg402
 z173:=Tryz.sizeOf402
 v173:=Tryz.zeroValue402
 t175:=Tryz.underlying386
 a175:=Tryz.isAgg386
 z175:=Tryz.sizeOf386
 v175:=Tryz.zeroValue386
 t210:=Tryz.underlying390
 a210:=Tryz.isAgg390
 z210:=Tryz.sizeOf390
 v210:=Tryz.zeroValue390
 t212:=Tryz.underlying404
 a212:=Tryz.isAgg404
 z212:=Tryz.sizeOf404
 v212:=Tryz.zeroValue404
 t213:=Tryz.underlying405
 a213:=Tryz.isAgg405
 z213:=Tryz.sizeOf405
 t232:=Tryz.underlying406
 a232:=Tryz.isAgg406
 z232:=Tryz.sizeOf406
 v232:=Tryz.zeroValue406
 t233:=Tryz.underlying407
 a233:=Tryz.isAgg407
 z233:=Tryz.sizeOf407
 v233:=Tryz.zeroValue407
 g15:=by kernel_rfl
 g16:=by kernel_rfl
 g17:=by kernel_rfl
 g18:=by kernel_rfl
 g19:=by kernel_rfl
 t80:=Tryz.underlying248
 a80:=Tryz.isAgg248
 z80:=Tryz.sizeOf248
 v80:=Tryz.zeroValue248
 i0:=by kernel_rfl
 i2:=by kernel_rfl
 i3:=by kernel_rfl
 i4:=by kernel_rfl
 i5:=by kernel_rfl
 i9:=by kernel_rfl
 i20:=by kernel_rfl
 i21:=by kernel_rfl
 i37:=by kernel_rfl
 i46:=by kernel_rfl
 i51:=by kernel_rfl
 i53:=by kernel_rfl
 i75:=by kernel_rfl
 i76:=by kernel_rfl
 i80:=by kernel_rfl
 i85:=by kernel_rfl
 i127:=by kernel_rfl
 i143:=by kernel_rfl
 i145:=by kernel_rfl
 i167:=by kernel_rfl
 i168:=by kernel_rfl
 i171:=by kernel_rfl
 i173:=by kernel_rfl
 i175:=by kernel_rfl
 i210:=by kernel_rfl
 i212:=by kernel_rfl
 i232:=by kernel_rfl
 i233:=by kernel_rfl
 m15:=by kernel_rfl
 m16:=by kernel_rfl
 m17:=by kernel_rfl
 m18:=by kernel_rfl
 m19:=by kernel_rfl
 c0:=by kernel_rfl
 c2:=by kernel_rfl
 c3:=by kernel_rfl
 c4:=by kernel_rfl
 c5:=by kernel_rfl
 c9:=by kernel_rfl
 c20:=by kernel_rfl
 c21:=by kernel_rfl
 c37:=by kernel_rfl
 c46:=by kernel_rfl
 c51:=by kernel_rfl
 c53:=by kernel_rfl
 c75:=by kernel_rfl
 c76:=by kernel_rfl
 c80:=by kernel_rfl
 c85:=by kernel_rfl
 c127:=by kernel_rfl
 c143:=by kernel_rfl
 c145:=by kernel_rfl
 c167:=by kernel_rfl
 c168:=by kernel_rfl
 c171:=by kernel_rfl
 c173:=by kernel_rfl
 c175:=by kernel_rfl
 c210:=by kernel_rfl
 c212:=by kernel_rfl
 c213:=by kernel_rfl
 c232:=by kernel_rfl
 c233:=by kernel_rfl }
open Go.RowKit in
theorem Tryz.strconv_Atoi_ok (s:ByteArray) (bh:s.size<=9223372036854775806) (v:Int) (h:Lib.atoiAll s.data.toList=.ok v) (w:World) :
 Calls Tryz.prog 301 #[.string s] w λe w'=>e=.returned (.tuple #[.int .i64 v,.nilIface])/\(w'=w\/∃ t,w'=Lib.bytesWorld w 5 t):=Any.strconv_Atoi_ok Tryz.laysC172 s bh v h w
def Tryz.lays219_ren:Go.Shelf.Ren:=⟨fun|219=>358|217=>348|225=>351|224=>350|267=>376|266=>369|314=>386|n=>n,fun|9=>9|3=>3|4=>4|5=>5|46=>170|146=>392|51=>215|n=>n,fun|1=>3|n=>n⟩
def Tryz.lays144_ren:Go.Shelf.Ren:=⟨fun|144=>269|143=>306|219=>358|217=>348|225=>351|224=>350|267=>376|266=>369|314=>386|n=>n,fun|9=>9|4=>4|3=>3|5=>5|46=>170|146=>392|51=>215|n=>n,fun|1=>3|n=>n⟩
theorem Tryz.lays144:Go.Proofs.Lays.n144 Tryz.prog Tryz.lays144_ren:={
 mixed:=by kernel_rfl
 f143:=fxT Tryz.func306
 f144:=fxT Tryz.func269
 f217:=fxT Tryz.func348
 f219:=fxT Tryz.func358
 f224:=fxT Tryz.func350
 f225:=fxT Tryz.func351
 f266:=fxT Tryz.func369
 f267:=fxT Tryz.func376
 f314:=fxT Tryz.func386
 t3:=Tryz.underlying3
 a3:=Tryz.isAgg3
 z3:=Tryz.sizeOf3
 v3:=Tryz.zeroValue3
 t4:=Tryz.underlying4
 a4:=Tryz.isAgg4
 z4:=Tryz.sizeOf4
 v4:=Tryz.zeroValue4
 t5:=Tryz.underlying5
 a5:=Tryz.isAgg5
 z5:=Tryz.sizeOf5
 v5:=Tryz.zeroValue5
 t9:=Tryz.underlying9
 a9:=Tryz.isAgg9
 z9:=Tryz.sizeOf9
 v9:=Tryz.zeroValue9
 t46:=Tryz.underlying170
 a46:=Tryz.isAgg170
 z46:=Tryz.sizeOf170
 v46:=Tryz.zeroValue170
 t51:=Tryz.underlying215
 a51:=Tryz.isAgg215
 z51:=Tryz.sizeOf215
 v51:=Tryz.zeroValue215
 t146:=Tryz.underlying392
 a146:=Tryz.isAgg392
 z146:=Tryz.sizeOf392
 v146:=Tryz.zeroValue392
 g1:=by kernel_rfl }
open Go.RowKit Go.Lib in
theorem Tryz.strings_Contains (s sub:ByteArray) (m:Int) (w:World) (hs:s.size<4294967281) (hm:w.cell? ⟨3,0,none⟩=some (.int .i64 m)) :
 Calls Tryz.prog 269 #[.string s,.string sub] w λe w'=>e=.returned (.bool (Lib.contains s.data.toList sub.data.toList))/\w'=w:=Any.strings_Contains Tryz.lays144 s sub m w hs hm
def Tryz.laysM144_ren:Go.Shelf.Ren:=⟨fun|144=>269|143=>306|219=>358|217=>348|225=>351|224=>350|267=>376|266=>369|314=>386|n=>n,fun|9=>9|4=>4|3=>3|5=>5|46=>170|146=>392|51=>215|n=>n,fun|1=>3|n=>n⟩
theorem Tryz.laysM144:Go.Proofs.LaysM.n144 Tryz.prog Tryz.laysM144_ren:={
 mixed:=by kernel_rfl
 f143:=fxT Tryz.func306
 f144:=fxT Tryz.func269
 f217:=fxT Tryz.func348
 f219:=fxT Tryz.func358
 f224:=fxT Tryz.func350
 f225:=fxT Tryz.func351
 f266:=fxT Tryz.func369
 f267:=fxT Tryz.func376
 f314:=fxT Tryz.func386
 t3:=Tryz.underlying3
 a3:=Tryz.isAgg3
 z3:=Tryz.sizeOf3
 v3:=Tryz.zeroValue3
 t4:=Tryz.underlying4
 a4:=Tryz.isAgg4
 z4:=Tryz.sizeOf4
 v4:=Tryz.zeroValue4
 t5:=Tryz.underlying5
 a5:=Tryz.isAgg5
 z5:=Tryz.sizeOf5
 v5:=Tryz.zeroValue5
 t9:=Tryz.underlying9
 a9:=Tryz.isAgg9
 z9:=Tryz.sizeOf9
 v9:=Tryz.zeroValue9
 t46:=Tryz.underlying170
 a46:=Tryz.isAgg170
 z46:=Tryz.sizeOf170
 v46:=Tryz.zeroValue170
 t51:=Tryz.underlying215
 a51:=Tryz.isAgg215
 z51:=Tryz.sizeOf215
 v51:=Tryz.zeroValue215
 t146:=Tryz.underlying392
 a146:=Tryz.isAgg392
 z146:=Tryz.sizeOf392
 v146:=Tryz.zeroValue392
 g1:=by kernel_rfl
 i3:=by kernel_rfl
 i4:=by kernel_rfl
 i5:=by kernel_rfl
 i9:=by kernel_rfl
 i46:=by kernel_rfl
 i51:=by kernel_rfl
 i146:=by kernel_rfl
 m1:=by kernel_rfl
 s1_3:=λw h=>Go.Proofs.cell_of_shapedOpen_int (zero:=#[.int .i64 0]) (t:=3) h (of_decide_eq_true (by kernel_rfl)) (by kernel_rfl) rfl (by kernel_rfl) (by kernel_rfl) Tryz.underlying3 }
def Tryz.lays189_ren:Go.Shelf.Ren:=⟨fun|189=>232|125=>86|257=>285|128=>154|129=>155|294=>333|295=>334|296=>335|297=>336|298=>337|299=>338|216=>339|300=>340|301=>341|328=>363|329=>217|330=>218|331=>364|332=>365|215=>100|343=>378|n=>n,fun|28=>22|3=>3|46=>170|0=>0|51=>215|53=>217|4=>4|183=>209|182=>208|131=>140|5=>5|9=>9|218=>268|222=>272|228=>325|229=>231|n=>n,fun|n=>n⟩
theorem Tryz.lays189:Go.Proofs.Lays.n189 Tryz.prog Tryz.lays189_ren:={
 mixed:=by kernel_rfl
 f125:=fxT Tryz.func86
 f128:=fxT Tryz.func154
 f129:=fxT Tryz.func155
 f189:=fxT Tryz.func232
 f215:=fxT Tryz.func100
 f216:=fxT Tryz.func339
 f257:=fxT Tryz.func285
 f294:=fxT Tryz.func333
 f295:=fxT Tryz.func334
 f296:=fxT Tryz.func335
 f297:=fxT Tryz.func336
 f298:=fxT Tryz.func337
 f299:=fxT Tryz.func338
 f300:=fxT Tryz.func340
 f301:=fxT Tryz.func341
 f328:=fxT Tryz.func363
 f329:=fxT Tryz.func217
 f330:=fxT Tryz.func218
 f331:=fxT Tryz.func364
 f332:=fxT Tryz.func365
 f343:=fxT Tryz.func378
 t0:=Tryz.underlying0
 a0:=Tryz.isAgg0
 z0:=Tryz.sizeOf0
 v0:=Tryz.zeroValue0
 t3:=Tryz.underlying3
 a3:=Tryz.isAgg3
 z3:=Tryz.sizeOf3
 v3:=Tryz.zeroValue3
 t4:=Tryz.underlying4
 a4:=Tryz.isAgg4
 z4:=Tryz.sizeOf4
 v4:=Tryz.zeroValue4
 t5:=Tryz.underlying5
 a5:=Tryz.isAgg5
 z5:=Tryz.sizeOf5
 v5:=Tryz.zeroValue5
 t9:=Tryz.underlying9
 a9:=Tryz.isAgg9
 z9:=Tryz.sizeOf9
 v9:=Tryz.zeroValue9
 t28:=Tryz.underlying22
 a28:=Tryz.isAgg22
 z28:=Tryz.sizeOf22
 v28:=Tryz.zeroValue22
 t46:=Tryz.underlying170
 a46:=Tryz.isAgg170
 z46:=Tryz.sizeOf170
 v46:=Tryz.zeroValue170
 t51:=Tryz.underlying215
 a51:=Tryz.isAgg215
 z51:=Tryz.sizeOf215
 v51:=Tryz.zeroValue215
 t53:=Tryz.underlying217
 a53:=Tryz.isAgg217
 z53:=Tryz.sizeOf217
 v53:=Tryz.zeroValue217
 t131:=Tryz.underlying140
 a131:=Tryz.isAgg140
 z131:=Tryz.sizeOf140
 v131:=Tryz.zeroValue140
 t182:=Tryz.underlying208
 a182:=Tryz.isAgg208
 z182:=Tryz.sizeOf208
 v182:=Tryz.zeroValue208
 t183:=Tryz.underlying209
 a183:=Tryz.isAgg209
 z183:=Tryz.sizeOf209
 v183:=Tryz.zeroValue209
 t218:=Tryz.underlying268
 a218:=Tryz.isAgg268
 z218:=Tryz.sizeOf268
 v218:=Tryz.zeroValue268
 t222:=Tryz.underlying272
 a222:=Tryz.isAgg272
 z222:=Tryz.sizeOf272
 v222:=Tryz.zeroValue272
 t228:=Tryz.underlying325
 a228:=Tryz.isAgg325
 z228:=Tryz.sizeOf325
 v228:=Tryz.zeroValue325
 t229:=Tryz.underlying231
 a229:=Tryz.isAgg231
 z229:=Tryz.sizeOf231
 v229:=Tryz.zeroValue231 }
open Go.Sort Go.RowKit in
theorem Tryz.slices_Sort_int (blk off cap:Nat) (zs:List Int) (w:World) (hH:Holds (Value.int .i64) w blk off zs.toArray) (ab:blk<w.heap.size) (bD:zs.length<4611686018427387904) :
 Calls Tryz.prog 232 #[.slice (some ⟨blk,off,none⟩) zs.length cap] w λe w'=>
  e=.returned (.tuple #[])/\∃ n os,w'=grow (putRow (Value.int .i64) (Sort.ahead w n) blk off (zs.mergeSort λx y=>decide (x<=y)).toArray) os:=Any.slices_Sort_int Tryz.lays189 blk off cap zs w hH ab bD
def Tryz.lays151_ren:Go.Shelf.Ren:=⟨fun|151=>258|152=>299|137=>298|119=>349|224=>350|225=>351|217=>348|266=>369|n=>n,fun|9=>9|21=>21|4=>4|3=>3|5=>5|0=>0|46=>170|n=>n,fun|n=>n⟩
theorem Tryz.lays151:Go.Proofs.Lays.n151 Tryz.prog Tryz.lays151_ren:={
 mixed:=by kernel_rfl
 f119:=fxT Tryz.func349
 f137:=fxT Tryz.func298
 f151:=fxT Tryz.func258
 f152:=fxT Tryz.func299
 f217:=fxT Tryz.func348
 f224:=fxT Tryz.func350
 f225:=fxT Tryz.func351
 f266:=fxT Tryz.func369
 t0:=Tryz.underlying0
 a0:=Tryz.isAgg0
 z0:=Tryz.sizeOf0
 v0:=Tryz.zeroValue0
 t3:=Tryz.underlying3
 a3:=Tryz.isAgg3
 z3:=Tryz.sizeOf3
 v3:=Tryz.zeroValue3
 t4:=Tryz.underlying4
 a4:=Tryz.isAgg4
 z4:=Tryz.sizeOf4
 v4:=Tryz.zeroValue4
 t5:=Tryz.underlying5
 a5:=Tryz.isAgg5
 z5:=Tryz.sizeOf5
 v5:=Tryz.zeroValue5
 t9:=Tryz.underlying9
 a9:=Tryz.isAgg9
 z9:=Tryz.sizeOf9
 v9:=Tryz.zeroValue9
 t21:=Tryz.underlying21
 a21:=Tryz.isAgg21
 z21:=Tryz.sizeOf21
 v21:=Tryz.zeroValue21
 t46:=Tryz.underlying170
 a46:=Tryz.isAgg170
 z46:=Tryz.sizeOf170
 v46:=Tryz.zeroValue170 }
open Go.RowKit Go.Lib in
theorem Tryz.strings_ContainsRune_ascii (s:ByteArray) (r:Int) (w:World) (h0:0<=r) (h1:r<128) :
 Calls Tryz.prog 258 #[.string s,.int .i32 r] w λe w'=>e=.returned (.bool (decide (0<=Lib.indexByte s.data.toList r.toNat.toUInt8)))/\w'=w:=Any.strings_ContainsRune_ascii Tryz.lays151 s r w h0 h1
def Tryz.laysNm220_ren:Go.Shelf.Ren:=⟨fun|20=>233|n=>n,fun|22=>22|3=>3|4=>4|0=>0|n=>n,fun|n=>n⟩
theorem Tryz.laysNm220:Go.Proofs.Lays2.n20 Tryz.prog Tryz.laysNm220_ren:={
 mixed:=by kernel_rfl
 f20:=fxT Tryz.func233
 t0:=Tryz.underlying0
 a0:=Tryz.isAgg0
 z0:=Tryz.sizeOf0
 v0:=Tryz.zeroValue0
 t3:=Tryz.underlying3
 a3:=Tryz.isAgg3
 z3:=Tryz.sizeOf3
 v3:=Tryz.zeroValue3
 t4:=Tryz.underlying4
 a4:=Tryz.isAgg4
 z4:=Tryz.sizeOf4
 v4:=Tryz.zeroValue4
 t22:=Tryz.underlying22
 a22:=Tryz.isAgg22
 z22:=Tryz.sizeOf22
 v22:=Tryz.zeroValue22
 i3:=by kernel_rfl }
open Go.RowKit Go.Lib Go.Sort in
theorem Tryz.slices_Compact_int (blk off cap:Nat) (zs:List Int) (w:World) (hH:Holds (Value.int .i64) w blk off zs.toArray) (bD:zs.length<=9223372036854775807) (lW:zs.length<=cap) :
 Calls Tryz.prog 233 #[.slice (some ⟨blk,off,none⟩) zs.length cap] w λe w'=>e=.returned (.slice (some ⟨blk,off,none⟩) (Lib.compact zs).length cap)/\∃ q,w'=putRow (Value.int .i64) (Sort.ahead w q) blk off (Lib.compact zs++List.replicate (zs.length - (Lib.compact zs).length) 0).toArray:=Any.slices_Compact_int Tryz.laysNm220 blk off cap zs w hH bD lW
open Go.RowKit Go.Lib Go.Sort in
theorem Tryz.slices_Compact_int_empty (a:Option Addr) (cap:Nat) (w:World) :
 Calls Tryz.prog 233 #[.slice a 0 cap] w λe w'=>e=.returned (.slice a 0 cap)/\w'=w:=Any.slices_Compact_int_empty Tryz.laysNm220 a cap w
open Go.RowKit Go.Sort in
theorem Tryz.slices_Sort_int_none (p:Option Addr) (cap:Nat) (w:World) :
 Calls Tryz.prog 232 #[.slice p 0 cap] w λe w'=>e=.returned (.tuple #[])/\w'=w:=Any.slices_Sort_int_none Tryz.lays189 p cap w
end Go.Proofs
namespace Go.Eng
open Go Go.RowKit Go.Proofs
structure Fl where
 i:Nat
 d:Nat
 T:Nat
 z:Value
end Go.Eng
namespace Go.Proofs.YtgdicjnjhchooaaGreatDoor
open Go Go.Eng Go.RowKit
def Zq3:List Str:=[[114,117,108,101],[102,114,111,109],[111,110],[105,102],[100,117,101],[117,110,108,101,115,115],[101,108,115,101],[111,114],[97,110,100],[110,111,116],[116,114,117,101],[102,97,108,115,101],[116,104,101,110],[101,110,100],[100,97,121,115],[119,101,101,107,115],[109,111,110,116,104,115],[99,111,117,114,116,100,97,121,115],[110,101,120,116],[112,114,101,118],[108,97,116,101,114],[101,97,114,108,105,101,114],[98,101,116,119,101,101,110]]
abbrev Zq4 (c:Int):Prop:=(97<=c/\c<=122)\/(48<=c/\c<=57)
def Z6K (s:Str):Bool:=decide (0<s.length/\s.length<=12/\97<=Z1Y s 0/\Z1Y s 0<=122/\∀ i,i<s.length->Zq4 (Z1Y s i))
def JF (s:Str):Bool:=Z6K s && decide (s∉Zq3/\s∉Zj)
theorem ZhE {l:List Str} {s:Str}:0<=idx (isS s) l↔s∈l:=by
 unfold idx;cases h:l.findIdx? (isS s) with
 | none=>
   rw [Yaf] at h;simp only;constructor;intro h1;omega;intro h1;have:=h s h1;simp [isS] at this
 | some i=>
   obtain ⟨hi,hp,_⟩:=X9.1 h;simp only;constructor;intro _;have:l[i]=s:=by simpa [isS] using hp
   rw [<- this];exact Xb hi;intro _;omega
open Go Go.Eng Go.RowKit Go.Proofs
theorem Z9a (n:Int) (w) (h0:0<=n) (h1:n<=3652058):CC 235 #[.I n] w λr w'=>r=.tuple #[Z99 (ofM n).y (ofM n).m (ofM n).d,.I 0]/\Stp [] w w':=by
 refine cW1 73 Tryz.func235 ?_;refine W ?_;refine Z0 Z4 rfl ?_;rintro _ w1 ⟨b2,rfl,cg,e2',hS⟩;have kO:=hS.size;repeat'(first|refine W1 ?_|omega|refine VG ?_ ?_<;>intro hg|refine VC ?_ ?_<;>intro hc)
 unfold ofM;simp only;have jk:=Ybl (n+306) (b:=146097) (by decide);have cO:=Ya2 (n+306) (b:=146097) (by decide);have he:(n+306) / 146097<=25/\0<=(n+306) / 146097:=by omega
 generalize (n+306) % 146097=doe at *;generalize (n+306) / 146097=era at *;obtain ⟨yoe,doy,e1,e2,hy,hd,-⟩:=Zhz doe jk cO;simp only [e1,e2];have tJ:0<=(5 * (doy:Int)+2) / 153/\(5 * (doy:Int)+2) / 153<=11:=by omega
 repeat'(first|refine W1 ?_|omega|refine VG ?_ ?_<;>intro hg|refine VC ?_ ?_<;>intro hc)
 refine Z5 (vs:=[(0,.I _),(1,.I _),(2,.I _)]) rfl (Z2L _ _ _) rfl ?_;refine Z0 Z4 rfl ?_;rintro _ w2 ⟨b10,rfl,eP,e10,hT⟩;have n2:b10≠b2:=by have:=e2'.lt;omega
 replace e2':=e2'.up hT;replace hS:=hS.trans hT;refine SB (us:=[.I _,.I _,.I _]) (by simp;exact ⟨rfl,rfl,rfl⟩) e10 ?_;rintro _ w3 ⟨hT,e10'⟩;replace e2':=e2'.ext hT (by simpa using n2.symm);replace hS:=hS.own hT (λc hc=>.inr (by simp at hc;have:=hS.size;omega));clear e10 hT;repeat'(first|refine W1 ?_|omega|refine VG ?_ ?_<;>intro hg|refine VC ?_ ?_<;>intro hc)
 rename_i hc;refine Z8 (Zb (u:=.I ((yoe:Int)+400 * era+1)) rfl rfl rfl rfl e10' (by simp)) ?_;rintro _ w4 ⟨hT,e10⟩;replace e10:Blk w4 b10 288 [.I ((yoe:Int)+400 * era+1),.I ((5 * (doy:Int)+2) / 153+3),.I ((doy:Int) - (153 * ((5 * (doy:Int)+2) / 153)+2) / 5+1)]:=e10;replace e2':=e2'.ext hT (by simpa using n2.symm);replace hS:=hS.ow hT;clear e10' hT;refine W ?_;refine Z8 (Zb (u:=.I ((5 * (doy:Int)+2) / 153 - 9)) rfl rfl rfl rfl e10 (by simp)) ?_;rintro _ w5 ⟨hT,e10'⟩;replace e10':Blk w5 b10 288 [.I ((yoe:Int)+400 * era+1),.I ((5 * (doy:Int)+2) / 153 - 9),.I ((doy:Int) - (153 * ((5 * (doy:Int)+2) / 153)+2) / 5+1)]:=e10';replace e2':=e2'.ext hT (by simpa using n2.symm);replace hS:=hS.ow hT;clear e10 hT;refine W ?_;refine Z8 (Zw (us:=[.I _,.I _,.I _]) rfl rfl rfl rfl (by simp;exact ⟨rfl,rfl,rfl⟩) e2' rfl) ?_;rintro _ w6 ⟨hT,e2⟩;replace hS:=hS.ow hT;refine W ?_;refine Zq rfl rfl rfl e2 rfl rfl ?_;refine .mk ⟨?_,hS⟩;rw [if_pos (by omega)];rename_i hc;refine Z8 (Zw (us:=[.I _,.I _,.I _]) rfl rfl rfl rfl (by simp;exact ⟨rfl,rfl,rfl⟩) e2' rfl) ?_;rintro _ w6 ⟨hT,e2⟩;replace hS:=hS.ow hT;refine W ?_;refine Zq rfl rfl rfl e2 rfl rfl ?_;refine .mk ⟨?_,hS⟩;rw [if_neg (by omega)]
theorem Z7I (n:Int) (w) (h0:0<=n) (h1:n<=9223372036854775807):CC 157 #[.I n] w λr w'=>r=str (Lib.itoa n)/\Stp [] w w':=by
 obtain ⟨u,rfl⟩:∃ u:Nat,n=(u:Int):=⟨n.toNat,by omega⟩
 have jN:Lib.itoa (u:Int)=Lib.decDigits u:=by unfold Lib.itoa;rw [if_neg (by omega)];rfl
 rw [jN];have ak:(Lib.decDigits u).length<=19:=Z4c 18 u (by omega);refine cW1 32 Tryz.func157 ?_;by_cases hz:(u:Int)=0;obtain rfl:u=0:=by omega
 refine RT ?_;exact ⟨by rw [Lib.decDigits];rfl,Stp.refl _ _⟩;refine QO ?_;refine Zm (σ:=Nat×Str) (λq=>[(0,.I (u:Int)),(3,str [48,49,50,51,52,53,54,55,56,57]),(4,str q.2),(5,.I (q.1:Int))]) (λq w'=>w'=w/\q.1<=u/\(if q.1=0 then [] else Lib.decDigits q.1)++q.2=Lib.decDigits u) (λq=>q.1) (u,[]) ⟨rfl,rfl,rfl,rfl,trivial⟩ ⟨rfl,Xl _,by simp only;rw [if_neg (by omega)];simp⟩ ?_;rintro ⟨k,s⟩ w1 ⟨rfl,hk,he⟩;dsimp only at hk he ⊢;have au:s.length<=19:=by
  have:=congrArg List.length he;simp only [Xa] at this;omega
 by_cases jI:(k:Int)=0;obtain rfl:k=0:=by omega
 refine RT ?_;exact ⟨by simpa using congrArg str he,Stp.refl _ _⟩;have ax:=ZhA k (by omega);rw [if_neg (by omega),ax,XC] at he;refine QO ?_;refine Z9 (Z2D (l:=k % 10) (r:=k % 10+1) rfl rfl rfl (by omega) (by omega) (by omega) (by show k % 10+1<=10;omega)) rfl ?_;rw [ZeG (k % 10) (by omega)];refine W ?_;refine Zdw rfl rfl (by simp;omega) rfl ?_;refine W ?_;refine Zd (k / 10,[UInt8.ofNat (48+k % 10)]++s) ⟨rfl,rfl,rfl,by simp only [Int.natCast_ediv];rfl,trivial⟩ ⟨rfl,by dsimp only;omega,by dsimp only;exact he⟩ (by dsimp only;omega)
theorem ZeI (y:Int) (w) (h0:0<=y) (h1:y<=100000):CC 295 #[.I y] w λr w'=>r=.B (Z0b y)/\w'=w:=by
 unfold Z0b;refine cW1 16 Tryz.func295 ?_;repeat'(first|refine W1 ?_|omega|refine VG ?_ ?_<;>intro hg|refine VC ?_ ?_<;>intro hc)
 all_goals refine WR ?_
 all_goals refine .mk ⟨?_,rfl⟩
 all_goals congr 1
 all_goals (first|done|(rw [YaI];simp;omega)|(simp [*]))
theorem Z0B (y m:Int) (w) (h0:0<=y) (h1:y<=100000):CC 252 #[.I y,.I m] w λr w'=>r=.I (Zo y m)/\w'=w:=by
 unfold Zo;by_cases hm:m<1\/12<m
 . rw [if_pos hm]
   refine cW2 23 Tryz.func252 ?_;refine QO ?_
   all_goals first
    | omega
    | (refine RU ?_
       exact ⟨rfl,rfl⟩)
 rw [if_neg hm];by_cases h2:m=2;subst h2;rw [if_pos rfl];refine cW2 23 Tryz.func252 ?_;refine QO ?_;refine CL (ZeI y _ h0 h1) ?_;rintro _ _ ⟨rfl,rfl⟩;cases Z0b y;refine RT ?_;exact ⟨rfl,rfl⟩;refine RT ?_;exact ⟨rfl,rfl⟩;rw [if_neg h2];by_cases h4:m=4\/m=6\/m=9\/m=11
 . rw [if_pos h4]
   refine cW2 23 Tryz.func252 ?_;rcases h4 with rfl|rfl|rfl|rfl
   all_goals
    refine RT ?_;exact ⟨rfl,rfl⟩
 . rw [if_neg h4]
   refine cW2 23 Tryz.func252 ?_;have h5:m=1\/m=3\/m=5\/m=7\/m=8\/m=10\/m=12:=by omega
   rcases h5 with rfl|rfl|rfl|rfl|rfl|rfl|rfl
   all_goals
    refine RT ?_;exact ⟨rfl,rfl⟩
theorem Z4o (y:Int) (w) (h0:1<=y) (h1:y<=100000):CC 294 #[.I y] w λr w'=>r=.I (ZG y)/\w'=w:=by
 refine cW1 17 Tryz.func294 ?_;refine RT ?_;exact ⟨rfl,rfl⟩
abbrev Z9b (y m d:Int):List Value:=[.I y,.I m,.I d]
theorem ZhF (y m:Int) (w):(Instr.build 288 #[(0,.I y),(1,.I m)]).run Tryz.prog w=.ok (.agg #[.I y,.I m,.I 0]) w:=by kernel_rfl
theorem ZdF (n:Int) (w) (h0:0<=n) (h1:n<=3652058):CC 250 #[.I n] w λr w'=>r=.tuple #[Z99 (ofM n).y (ofM n).m (ofM n).d,.I 0]/\Stp [] w w':=by
 obtain ⟨K,hK,hm,jl,dm,hn,iz,iB,bB,aX⟩:=ZeF h0 h1;generalize (ofM n).y=Y at *;generalize (ofM n).m=M at *;generalize (ofM n).d=D at *;subst hm;refine cW1 54 Tryz.func250 ?_;refine W ?_;refine Z0 Z4 rfl ?_;rintro _ w1 ⟨b2,rfl,cg,e2,hS⟩;have oR:=hS.size;refine QO ?_;refine Z5 (vs:=[(0,.I _),(1,.I _)]) rfl (ZhF _ _) rfl ?_;refine Z0 Z4 rfl ?_;rintro _ w2 ⟨b4,rfl,br,e4',hT⟩;have n2:b4≠b2:=by have:=e2.lt;omega
 replace e2:=e2.up hT;replace hS:=hS.trans hT;refine Z8 (Zw (us:=Z9b (n / 366+1) 1 0) rfl rfl rfl rfl (by simp;exact ⟨rfl,rfl,rfl⟩) e4' rfl) ?_;rintro _ w3 ⟨hT,e4⟩;replace e2:=e2.ext hT (by simpa using n2.symm);replace hS:=hS.ow hT;clear e4' hT;have tK:=e4.lt;have rt:n / 366+1<=Y:=by
  have:ZG (Y+1)<=366 * Y:=by unfold ZG;omega
  omega
 have wR:ZG (n / 366+1)<=n:=YbC (Z0c rt) bB;refine W ?_;refine Zm (σ:=Int) (λy=>[(0,.I n),(2,pQ b2),(4,pQ b4)]) (λy w'=>n / 366+1<=y/\y<=Y/\Blk w' b4 288 (Z9b y 1 0)/\Blk w' b2 288 (Z9b 0 0 0)/\Stp [] w w') (λy=>(Y - y).toNat) (n / 366+1) ⟨rfl,rfl,rfl,trivial⟩ ⟨XI _,rt,e4,e2,hS⟩ ?_;clear e4 e2 hS;rintro y w4 ⟨gT,wS,e4,e2,hS⟩;refine W ?_;refine CM (ZS rfl) (Z4o (y+1) _ (by omega) (by omega)) ?_;rintro _ _ ⟨rfl,rfl⟩;by_cases fj:ZG (y+1)<=n;have hlt:y<Y:=by
  by_cases e:y=Y;subst e;omega;omega
 refine QO ?_;refine S1 (u:=.I (y+1)) e4 ?_;rintro _ w5 ⟨hT,e4'⟩;replace e4':Blk w5 b4 288 (Z9b (y+1) 1 0):=e4';replace e2:=e2.ext hT (by simpa using n2.symm);replace hS:=hS.ow hT;refine W ?_;exact QL (y+1) ⟨by omega,by omega,e4',e2,hS⟩ (by omega);have tL:y=Y:=by
  by_cases e:y=Y;exact e;have:=Z0c (a:=y+1) (b:=Y) (by omega);omega
 subst tL;refine QO ?_;refine CM (ZS rfl) (Z4o y _ (by omega) (by omega)) ?_;rintro _ _ ⟨rfl,rfl⟩;have nG:-1000000<=ZG y/\ZG y<=100000000:=by unfold ZG;omega
 have dP:∀ k:Nat,k<=11->0<=Ju y k/\Ju y k<=366:=λk hk=>by
  have:=JM (y:=y) (a:=0) (b:=k) (by omega) (by omega);have:=JM (y:=y) (a:=k) (b:=12) (by omega) (by omega);have:=ZdD y;have e0:Ju y 0=0:=rfl;split at this<;>omega
 refine W ?_;refine Zm (σ:=Nat) (λk=>[(0,.I n),(2,pQ b2),(4,pQ b4),(5,.I (n - ZG y - Ju y k))]) (λk w'=>k<=K/\Blk w' b4 288 (Z9b y ((k:Int)+1) 0)/\Blk w' b2 288 (Z9b 0 0 0)/\Stp [] w w') (λk=>K - k) 0 ⟨rfl,rfl,rfl,by rw [show n - ZG y - Ju y 0=n - ZG y by simp [Ju]];rfl,trivial⟩ ⟨Xr _,e4,e2,hS⟩ ?_;clear e4 e2 hS;rintro k w5 ⟨wT,e4,e2,hS⟩;have kQ:=dP k (by omega);have wU:=dP K (by omega);have fz:=Z0d (y:=y) (k:=k) (by omega);have oS:=Z10 y ((k:Int)+1);refine W ?_;refine CM (Zg rfl rfl) (Z0B y ((k:Int)+1) _ (by omega) (by omega)) ?_;rintro _ _ ⟨rfl,rfl⟩;by_cases fj:k<K;have nB:=JM (y:=y) (a:=k+1) (b:=K) (by omega) (by omega);have fe:Ju y (k+1)=Ju y k+Zo y ((k:Int)+1):=rfl;refine QO ?_;refine CM (Zg rfl rfl) (Z0B y ((k:Int)+1) _ (by omega) (by omega)) ?_;rintro _ _ ⟨rfl,rfl⟩;refine W ?_;refine S1 (u:=.I ((k:Int)+1+1)) e4 ?_;rintro _ w6 ⟨hT,e4'⟩;replace e4':Blk w6 b4 288 (Z9b y (((k+1:Nat):Int)+1) 0):=e4';replace e2:=e2.ext hT (by simpa using n2.symm);replace hS:=hS.ow hT;refine W ?_;exact Zd (k+1) ⟨rfl,rfl,rfl,by rw [fe,show n - ZG y - (Ju y k+Zo y ((k:Int)+1))=n - ZG y - Ju y k - Zo y ((k:Int)+1) by omega];rfl,trivial⟩ ⟨by omega,e4',e2,hS⟩ (by omega);obtain rfl:k=K:=by omega
 refine QO ?_;refine S1 (u:=.I (n - ZG y - Ju y k+1)) e4 ?_;rintro _ w6 ⟨hT,e4'⟩;replace e4':Blk w6 b4 288 (Z9b y ((k:Int)+1) (n - ZG y - Ju y k+1)):=e4';rw [show n - ZG y - Ju y k+1=D by omega] at e4';replace e2:=e2.ext hT (by simpa using n2.symm);replace hS:=hS.ow hT;refine W ?_;refine SB (us:=Z9b y ((k:Int)+1) D) (by simp;exact ⟨rfl,rfl,rfl⟩) e2 ?_;rintro _ w7 ⟨hT,e2'⟩;replace hS:=hS.ow hT;refine W ?_;refine Zq rfl rfl rfl e2' rfl rfl ?_;exact .mk ⟨rfl,hS⟩
end Go.Proofs.YtgdicjnjhchooaaGreatDoor
namespace Go.Eng
open Go Go.RowKit Go.Proofs
theorem Row.slvN {α:Type} [Z6 α] {X:List Nat} {w} {base T:Nat} {v:Value} {xs:List α} (h:Row X w base T v xs) (hX:∀ b∈X,b∉ob v):SlV X w v xs:=by
 obtain ⟨css,hl,hr,ho⟩:=h;have hk:∀ c∈css,c.length=Z6.k α:=by
  intro c hc;obtain ⟨i,hi,rfl⟩:=XB hc;exact Z6.len (hr i (by omega) hi)
 rcases ho.2 with ⟨rfl,hn⟩|⟨q,cap,cur,rfl,hb,hg,bX,bE,aR,ht⟩
 exact ⟨none,0,by rw [hn],by omega,by simp [maxLen],λ_=>rfl,λi hi=>by omega⟩;refine ⟨some ⟨q,0,none⟩,cap,rfl,bX,bE,λh=>by simp at h,λi hi=>?_⟩;refine ⟨q,0,css[i]'(by omega),rfl,(Xo.1 hg).1,λhx=>hX q hx (by simp [ob]),?_,λj u hu=>?_⟩;exact Z6.ext (hr i hi (by omega)) (Stp.refl [] w) (by simp) (λb hb=>.inl (by simp [hb]));have h1:=Z07 css hk i (by omega) j u hu;rw [<- ht,Yaq] at h1;split at h1;have h2:cur[i * Z6.k α+j]?=some u:=by simpa using h1
 rw [XJ,cell_of_row w q _ cur T (0,0) hg];exact h2;cases h1
end Go.Eng
namespace Go.Proofs.YtgdicjnjhchooaaGreatDoor
open Go Go.Eng Go.RowKit Go.Proofs
theorem Z6o {α:Type} [Z6 α] (X:List Nat) (w:World):SlV (α:=α) X w (.N) []:=⟨none,0,rfl,Xl _,by simp [maxLen],λ_=>rfl,λi hi=>absurd hi (XF _)⟩
theorem Z6L:Z1p [114,117,108,101,32,102,114,111,109,32,111,110,32,105,102,32,100,117,101,32,117,110,108,101,115,115,32,101,108,115,101,32,111,114,32,97,110,100,32,110,111,116,32,116,114,117,101,32,102,97,108,115,101,32,116,104,101,110,32,101,110,100,32,100,97,121,115,32,119,101,101,107,115,32,109,111,110,116,104,115,32,99,111,117,114,116,100,97,121,115,32,110,101,120,116,32,112,114,101,118,32,108,97,116,101,114,32,101,97,114,108,105,101,114,32,98,101,116,119,101,101,110,32,100,97,121,32,115,101,114,118,101,100,32,101,120,116,114,97,32,98,121,32,116,111,32,99,111,117,114,116,32,97,109,111,117,110,116]=Zq3++Zj:=by decide +kernel
theorem Z9c (X:List Nat) (w:World) (hX:∀ b∈X,b<w.heap.size):CC 163 #[] w λr w'=>Row X w' w.heap.size 9 r (Zq3++Zj)/\Stp [] w w':=by
 refine cW0 2 Tryz.func163 ?_;refine W ?_;refine CM (ZS rfl) (Z0A X [114,117,108,101,32,102,114,111,109,32,111,110,32,105,102,32,100,117,101,32,117,110,108,101,115,115,32,101,108,115,101,32,111,114,32,97,110,100,32,110,111,116,32,116,114,117,101,32,102,97,108,115,101,32,116,104,101,110,32,101,110,100,32,100,97,121,115,32,119,101,101,107,115,32,109,111,110,116,104,115,32,99,111,117,114,116,100,97,121,115,32,110,101,120,116,32,112,114,101,118,32,108,97,116,101,114,32,101,97,114,108,105,101,114,32,98,101,116,119,101,101,110,32,100,97,121,32,115,101,114,118,101,100,32,101,120,116,114,97,32,98,121,32,116,111,32,99,111,117,114,116,32,97,109,111,117,110,116] _ hX (by decide +kernel)) ?_;rintro v w1 ⟨hr,hS⟩;rw [Z6L] at hr;refine RT ?_;exact ⟨hr,hS⟩
theorem Z1d (s:Str) (w):CC 96 #[str s] w λr w'=>r=.B (JF s)/\Stp [] w w':=by
 refine cW1 60 Tryz.func96 ?_;refine W ?_;by_cases h0:s.length≠0/\s.length<=12/\97<=Z1Y s 0/\Z1Y s 0<=122
 case neg=>
  have hn:JF s=false:=by
   unfold JF Z6K;rw [decide_eq_false (λh=>h0 ⟨by omega,h.2.1,h.2.2.1,h.2.2.2.1⟩)];rfl
  by_cases hl:s.length≠0
  (refine QP ?_ ?_<;>intro hg)
  refine RU ?_;exact ⟨by rw [hn],Stp.refl _ _⟩;refine Z3K (i:=0) rfl rfl rfl (by omega) rfl ?_
  (refine QP ?_ ?_<;>intro hg)
  refine RU ?_;exact ⟨by rw [hn],Stp.refl _ _⟩;refine Z3K (i:=0) rfl rfl rfl (by omega) rfl ?_;refine RT ?_;exact ⟨by rw [hn],Stp.refl _ _⟩;refine RT ?_;exact ⟨by rw [hn],Stp.refl _ _⟩
 obtain ⟨h1,h2,h3,h4⟩:=h0;refine QO ?_;refine Z3K (i:=0) rfl rfl rfl (by omega) rfl ?_;refine QO ?_;refine Z3K (i:=0) rfl rfl rfl (by omega) rfl ?_;refine QO ?_;refine LP (σ:=Nat) (λi=>[(0,str s),(3,.I (i:Int))]) (λi w'=>i<=s.length/\w'=w/\∀ j,j<i->Zq4 (Z1Y s j)) (λi=>s.length - i) 0 ⟨Xr _,rfl,λj hj=>absurd hj (XF _)⟩ ?_;rintro i w2 ⟨hi,rfl,aP⟩
 try dsimp only at hi aP ⊢
 by_cases hlt:¬ s.length<=i;by_cases du:(97<=Z1Y s i/\Z1Y s i<=122)\/(48<=Z1Y s i/\Z1Y s i<=57)
 . have lX:∀ j,j<i+1->Zq4 (Z1Y s j):=λj hj=>by
    by_cases e:j=i;subst e;exact du;exact aP j (by omega)
   repeat'(first|refine W1 ?_|omega|refine VG ?_ ?_<;>intro hg|refine VC ?_ ?_<;>intro hc)
   all_goals exact QL (i+1) ⟨by omega,rfl,lX⟩ (by omega)
 . have hn:JF s=false:=by
    unfold JF Z6K;rw [decide_eq_false (λh=>du (h.2.2.2.2 i (by omega)))];rfl
   repeat'(first|refine W1 ?_|omega|refine VG ?_ ?_<;>intro hg|refine VC ?_ ?_<;>intro hc)
   all_goals
    refine RU ?_;exact ⟨by rw [hn],Stp.refl _ _⟩
 obtain rfl:i=s.length:=by omega
 have aL:Z6K s=true:=decide_eq_true ⟨by omega,h2,h3,h4,aP⟩;refine QO ?_;refine CM Z7F (Z9c [] _ (by simp)) ?_;rintro rv w3 ⟨hr,hS⟩;refine W ?_;refine CL (JR [] rv _ s _ hr.slv0) ?_;rintro _ w4 ⟨rfl,aU⟩;refine W ?_;refine WR ?_;refine .mk ⟨?_,hS.trans aU⟩;unfold JF;rw [aL,YbI];congr 1;refine decide_eq_decide.2 ?_;rw [<- Int.not_le,ZhE,Xd,not_or]
def Z6M (x:Nd) (want:Int):Int:=if ZQ x<=12 then (if Zi x=0 then 21 else if Zi x=want then 0 else 21) else 2
structure Rul where
 name:Str
 frm:Int
 on:Str
 cnd:Nd
 due:Nd
 unl:Str
 els:Str
abbrev rlC (r:Rul) (ki kd:Value):List Value:=[str r.name,.I r.frm,str r.on,.I r.cnd.kind,.I r.cnd.num,str r.cnd.word,ki,.I r.due.kind,.I r.due.num,str r.due.word,kd,str r.unl,str r.els]
def Zq5 (X:List Nat) (w:World) (v:Value) (r:Rul):Prop:=∃ ki kd,v=.agg (rlC r ki kd).toArray/\SlV X w ki r.cnd.kids/\SlV X w kd r.due.kids
def Z0L (r:Rul):Bool:=JF r.name && JF r.on && (decide (r.unl=[]) || JF r.unl) && (decide (r.els=[]) || JF r.els)
def Z3m (r:Rul):Int:=if Z0L r=false then 7 else if r.frm<0\/r.frm > 3652058 then 5 else if Z6M r.cnd 2≠0 then Z6M r.cnd 2 else Z6M r.due 3
end Go.Proofs.YtgdicjnjhchooaaGreatDoor
namespace Go.Eng
open Go Go.RowKit Go.Proofs
end Go.Eng
namespace Go.Proofs.YtgdicjnjhchooaaGreatDoor
open Go Go.Eng Go.RowKit Go.Proofs
def _root_.Go.Eng.RuleM.rul (r:RuleM):Rul:=⟨r.name,r.frm,r.on,r.cond,r.due,r.unl,r.els⟩
instance:Z6 Rul where
 k:=13
 rep:=λX w r cs=>∃ ki kd,cs=rlC r ki kd/\SlV X w ki r.cnd.kids/\SlV X w kd r.due.kids
 len:=by rintro X w r cs ⟨ki,kd,rfl,_⟩;rfl
 one:=by
  rintro X w r cs ⟨ki,kd,rfl,h1,h2⟩ c hc;have e1:=h1.one;have e2:=h2.one;simp only [rlC,Xc,Xn,or_false] at hc;rcases hc with rfl|rfl|rfl|rfl|rfl|rfl|rfl|rfl|rfl|rfl|rfl|rfl|rfl<;>first|rfl|exact e1|exact e2
 ext:=by
  rintro X S X' w w' r cs ⟨ki,kd,rfl,h1,h2⟩ hS g1 g2;exact ⟨ki,kd,rfl,h1.ext hS g1 g2,h2.ext hS g1 g2⟩
end Go.Proofs.YtgdicjnjhchooaaGreatDoor
namespace Go.Eng
open Go Go.RowKit Go.Proofs
end Go.Eng
namespace Go.Proofs.YtgdicjnjhchooaaGreatDoor
open Go Go.Eng Go.RowKit Go.Proofs
theorem Zq6 {X:List Nat} {w} {v:Value} {l:List Rul} {i:Nat} (h:SlV X w v l) (hi:i<l.length):∃ ki kd,SlV X w ki l[i].cnd.kids/\SlV X w kd l[i].due.kids/\∀ j u,(rlC l[i] ki kd)[j]?=some u->w.cell? (Zx v i 13 j)=some u:=by
 obtain ⟨cs,hr,hc⟩:=h.cell hi;obtain ⟨ki,kd,rfl,h1,h2⟩:=hr;exact ⟨ki,kd,h1,h2,hc⟩
theorem Zcq {P:Program} {n:Nat} {e:Env} {w} {d:Option Nat} {ty:TypeId} {pos:String} {af:Array Edge} {g:Option (Nat×Bool)} {X:List Nat} {v:Value} {l:List Rul} {i:Nat} {ki kd:Value} {x:Operand} {t:TypeId} {D:TypeDesc} [hu:Und P t D] (hA:Z06 D=true) [bD:Siz P t 13] (hx:ev e x=some (.pointer (some (Zx v i 13 0)))) (hs:SlV X w v l) (hi:i<l.length)
 (hc:∀ j u,(rlC l[i] ki kd)[j]?=some u->w.cell? (Zx v i 13 j)=some u) :
 PR P n ⟨d,.load t x,ty,pos,af,g⟩ e w (.agg (rlC l[i] ki kd).toArray):=by
 obtain ⟨p,l',c,rfl⟩:=hs.isSome hi;refine Z2g (cs:=rlC l[i] ki kd) hA hx rfl (λj u hu=>?_);have:=hc j u hu;simpa [Zx] using this
abbrev Z4F:Nd:=.mk 2 1 [] []
theorem Zcr (X:List Nat) (w):CC 93 #[] w λr w'=>NdV X w' r Z4F/\Stp [] w w':=by
 refine cW0 2 Tryz.func93 ?_;refine W ?_;refine Z0 Z4 rfl ?_;rintro _ w1 ⟨b,rfl,hb,ab,hS⟩;refine W ?_;apply Z5 (vs:=[(0,.I 2),(1,.I 1)]) rfl (Z3k _ _) rfl;have hy:SlV (α:=Nd) X w1 (.N) []:=J6 _ _;refine SB (us:=ndC Z4F (.N)) (JH (x:=Z4F) hy) ab ?_;rintro _ w2 ⟨aj,aK⟩;have hT:=hS.ow aj;refine W ?_;refine JS rfl rfl rfl aK rfl ?_;exact .mk ⟨⟨_,rfl,J6 _ _⟩,hT⟩
end Go.Proofs.YtgdicjnjhchooaaGreatDoor
