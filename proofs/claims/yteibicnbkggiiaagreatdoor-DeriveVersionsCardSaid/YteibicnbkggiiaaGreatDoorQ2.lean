/-
Contracts and plain laws, merged out of own texts.
-/
import Derived.Test.YteibicnbkggiiaaGreatDoorQ1
import Derived.Lib.ItoaNum
import Derived.Laws.RangeString
import Derived.Laws.RangeAny
import Derived.Lib.AppendZeros
import Derived.Laws.OwnMore
import Derived.Deep.Slices
import Derived.Deep.Fields
import Derived.ChangeSame
import Derived.Below
import Derived.Carry
import Derived.ChangeOld
import Derived.ProofKit
import Derived.OpenShut
import Derived.SizedLaws
import Derived.HandedShaped
import Derived.LaidMore
import Derived.Stop.Joined
import Derived.SevenTiedAt
import Derived.MakeChecks
import Derived.Lib.ConvBytes
import Derived.Laws.AppendOwn
import Derived.Laws.BitsAllLaws
import Derived.Laws.Bits64
import Derived.Lib.SlBytesRow
import Derived.Lib.AppendStr
import Derived.Laws.BytesArg
import Derived.Laws.Cover3
set_option linter.unusedVariables false
set_option linter.unusedSimpArgs false
set_option maxHeartbeats 4000000
set_option maxRecDepth 20000
namespace Go.Proofs.YteibicnbkggiiaaGreatDoor
open Go Go.Eng Go.RowKit
theorem Zun:∀ p∈Z28,∃ z,p.2=Value.int .i64 z:=by
 intro p hp;simp only [Z28,Z97,ZQ,XD,Yaj,Ybc,YbU,Z1u,Yab,XW,XG,Xa,Xo,or_false,ent] at hp;rcases hp with rfl|rfl|rfl|rfl|rfl|rfl|rfl|rfl|rfl|rfl|rfl|rfl|rfl|rfl|rfl<;>exact ⟨_,rfl⟩
theorem ZeK {x:Sig} (h:¬ ∃ p∈Z28,p.1=x):Z32 x=0:=by
 unfold Z32 ZeJ Z0t;have:Z28.find? (λp=>decide (p.1=x))=none:=by
  rw [Yaw];intro p hp;simpa using λe=>h ⟨p,hp,e⟩
 rw [this]
def Z22:List Str:=[[110,101,120,116],[112,114,101,118]]
def Z23:List Str:=[[108,97,116,101,114],[101,97,114,108,105,101,114]]
theorem Zcg:Z1h [110,101,120,116,32,112,114,101,118]=Z22:=by decide
theorem Zch:Z1h [108,97,116,101,114,32,101,97,114,108,105,101,114]=Z23:=by decide
theorem Zaj:Z1h [100,97,121,115,32,119,101,101,107,115,32,109,111,110,116,104,115,32,99,111,117,114,116,100,97,121,115]=ZQ:=by decide
theorem Z2w {s:Str} {l:List Str}:0<=idx (isS s) l↔s∈l:=by
 unfold idx;cases h:l.findIdx? (isS s) with
 | none=>
   rw [Yas] at h;constructor;intro h0;simp at h0;intro hm;have:=h s hm;simp at this
 | some i=>
   obtain ⟨hi,hp,_⟩:=X8.1 h;constructor;intro _;have:l[i]=s:=by simpa using hp
   rw [<- this];exact Xc _;intro _;simp
def Z5L (s:Str) (l:List Int):Int:=
 if 0<=idx (isS s) Z22/\JW l [3]=true then 3 else if 0<=idx (isS s) Z23/\JW l [3,3]=true then 3 else if s=[98,101,116,119,101,101,110]/\JW l [3,3]=true then 1 else 0
def Z3V (k n:Int) (s:Str) (ts:List Int):Int:=
 if ts=[] then Z0x k n s else if ¬ n=0 then 0
 else if k=5 then (if s=[45]/\JW ts [1]=true\/s=[110,111,116]/\JW ts [2]=true then ts.getD 0 0 else 0)
 else if k=6 then Z94 s ts
 else if k=7\/k=8 then (if 0<=idx (isS s) ZQ/\JW ts [3,1]=true then 3 else 0)
 else if k=9 then (if s=[]/\ts.length=3/\JW ts [2,ts.getD 1 0,ts.getD 1 0]=true then ts.getD 1 0 else 0)
 else if k=10 then Z5L s ts else 0
theorem Zak {l m:List Int}:JW l m=true↔l=m/\∀ x∈l,x≠0:=by simp [JW]
theorem ZdT {l m:List Int} (h:¬ (l=m/\∀ x∈l,x≠0)):JW l m=false:=by simp [JW];simpa using h
theorem ZeL (k n:Int) (s:Str) (ts:List Int) (h0:¬ ts=[]) (hb:(0:Int)∈ts\/ts.length > 3):Z3V k n s ts=0:=by
 have aY:∀ m:List Int,m.length<=3->JW ts m=false:=λm hm=>ZdT (λ⟨h1,h2⟩=>by
  rcases hb with hb|hb
  exact h2 0 hb rfl;rw [h1] at hb;omega)
 unfold Z3V Z94 Z5L;simp only [aY _ (show [(1:Int)].length<=3 by decide),aY _ (show [(2:Int)].length<=3 by decide),aY _ (show [(3:Int)].length<=3 by decide),aY [1,1] (by decide),aY [3,3] (by decide),aY [2,2] (by decide),aY [3,1] (by decide),aY [2,ts.getD 1 0,ts.getD 1 0] (by simp),if_neg h0];simp
theorem Zlg (s:Str) (a b:Int) (ha:a≠0) (hb:b≠0) (hr:1<=a/\a<=3) (cw:1<=b/\b<=3):Z94 s [a,b]=Z1v s a b:=by
 unfold Z94 Z1v;simp only [Z2w,Zak];have e:∀ c d:Int,([a,b]=[c,d]/\∀ x∈[a,b],x≠0)↔(a=c/\b=d):=λc d=>by simp [ha,hb]
 simp only [e];by_cases hA:s∈Z0n;have hC:¬ s∈Z1K:=by
  simp only [Z0n,Xa,Xo,or_false] at hA;rcases hA with rfl|rfl|rfl<;>decide
 have hL:¬ s∈Z0j:=by
  simp only [Z0n,Xa,Xo,or_false] at hA;rcases hA with rfl|rfl|rfl<;>decide
 simp only [hA,hC,hL,true_and,false_and,if_false,if_true];by_cases h1:a=1/\b=1;rw [if_pos h1,if_pos ⟨by omega,by omega⟩];rw [if_neg h1,if_neg (λh=>by omega)];simp only [hA,false_and,if_false];by_cases hC:s∈Z1K;have hL:¬ s∈Z0j:=by
  simp only [Z1K,Xa,Xo,or_false] at hC;rcases hC with rfl|rfl|rfl|rfl|rfl|rfl<;>decide
 simp only [hC,hL,true_and,false_and,if_false,if_true];by_cases h1:a=1/\b=1\/a=3/\b=3;rw [if_pos h1,if_pos ⟨by omega,by omega⟩];rw [if_neg h1,if_neg (λh=>by omega)];simp only [hC,false_and,if_false];by_cases hL:s∈Z0j;simp only [hL,true_and,if_true];by_cases h1:a=2/\b=2;rw [if_pos h1,if_pos ⟨by omega,by omega⟩];rw [if_neg h1,if_neg (λh=>by omega)];simp only [hL,false_and,if_false]
def Zhz:List Sig:=Z28.map (·.1)
def Zci (k:Int) (s:Str) (a b c:Int):Int:=
 if c=0 then
  if b=0 then (if k=5/\s=[45]/\a=1 then 1 else if k=5/\s=[110,111,116]/\a=2 then 2 else if k=10/\s∈Z22/\a=3 then 3 else 0)
  else if a=3/\b=3/\k=10/\s∈Z23 then 3 else if a=3/\b=3/\k=10/\s=[98,101,116,119,101,101,110] then 1 else if a=3/\b=1/\(k=7\/k=8)/\s∈ZQ then 3 else 0
 else 0
theorem ZhA:∀ x∈Zhz,Z32 x=Zci x.kind x.s x.a x.b x.c:=by
 intro x hx;simp only [Zhz,Z28,Z97,ZQ,XD,Yaj,Ybc,YbU,Z1u,Yab,XW,XG,Xa,Xo,or_false,ent] at hx;rcases hx with rfl|rfl|rfl|rfl|rfl|rfl|rfl|rfl|rfl|rfl|rfl|rfl|rfl|rfl|rfl<;>decide
theorem Z6l (k:Int) (s:Str) (a b c:Int):Z32 ⟨k,s,a,b,c⟩=Zci k s a b c:=by
 by_cases hx:(⟨k,s,a,b,c⟩:Sig)∈Zhz;exact ZhA _ hx;rw [ZeK (λ⟨p,hp,e⟩=>hx (e ▸ YaB hp))];unfold Zci;symm;split;rename_i hc;subst hc;split;rename_i hb;subst hb;split;rename_i h;obtain ⟨rfl,rfl,rfl⟩:=h;exact absurd (by decide) hx;split;rename_i h;obtain ⟨rfl,rfl,rfl⟩:=h;exact absurd (by decide) hx;split;rename_i h;obtain ⟨rfl,h,rfl⟩:=h;simp only [Z22,Xa,Xo,or_false] at h;rcases h with rfl|rfl<;>exact absurd (by decide) hx
 rfl;split;rename_i h;obtain ⟨rfl,rfl,rfl,h⟩:=h;simp only [Z23,Xa,Xo,or_false] at h;rcases h with rfl|rfl<;>exact absurd (by decide) hx
 split;rename_i h;obtain ⟨rfl,rfl,rfl,rfl⟩:=h;exact absurd (by decide) hx;split;rename_i h;obtain ⟨rfl,rfl,h1,h⟩:=h;simp only [ZQ,Xa,Xo,or_false] at h;rcases h1 with rfl|rfl<;>rcases h with rfl|rfl|rfl|rfl<;>exact absurd (by decide) hx
 rfl;rfl
theorem Zuo {a x:Int} (ha:a≠0):JW [a] [x]=decide (a=x):=by simp [JW,ha]
theorem Zup {a b x y:Int} (ha:a≠0) (hb:b≠0):JW [a,b] [x,y]=decide (a=x/\b=y):=by simp [JW,ha,hb]
theorem Zuq {a b c x y z:Int} (ha:a≠0) (hb:b≠0) (hc:c≠0):JW [a,b,c] [x,y,z]=decide (a=x/\b=y/\c=z):=by simp [JW,ha,hb,hc]
theorem Jz {l m:List Int} (h:¬ l.length=m.length):JW l m=false:=ZdT (λh'=>h (by rw [h'.1]))
theorem ZhB (k n:Int) (s:Str) (ts:List Int) (hr:∀ t∈ts,0<=t/\t<=3):Z3V k n s ts=Jl k n s ts:=by
 by_cases h0:ts=[]
 subst h0;simp [Z3V,Jl];by_cases hb:(0:Int)∈ts\/ts.length > 3;rw [ZeL k n s ts h0 hb];unfold Jl;rcases hb with hb|hb
 simp [hb];simp [show ts.length > 3 from hb];have hz:¬ (0:Int)∈ts:=λh=>hb (.inl h);have hl:¬ ts.length > 3:=λh=>hb (.inr h);unfold Z3V Jl;rw [if_neg h0,if_neg hl,if_neg hz,if_neg h0];by_cases hn:¬ n=0;rw [if_pos hn,if_pos hn];rw [if_neg hn,if_neg hn]
 match ts,h0,hl with
 | [a], _, _=>
   have ha:a≠0:=λe=>hz (by simp [e])
   have kG:=hr a (by simp);simp only [YaD,YaE,List.getD_nil,Z6l,Z5L,Z94,Z2w,Zuo ha,Jz (show ¬ [a].length=[(1:Int),1].length by simp),Jz (show ¬ [a].length=[(3:Int),3].length by simp),Jz (show ¬ [a].length=[(2:Int),2].length by simp),Jz (show ¬ [a].length=[(3:Int),1].length by simp),decide_eq_true_eq];have dF:Z1v s a 0=0:=by
    unfold Z1v;have h1:¬ (a=0/\a=1):=λh=>ha h.1;have h2:¬ (a=0/\¬ a=2):=λh=>ha h.1;have h3:¬ (a=0/\a=2):=λh=>ha h.1;simp only [if_neg h1,if_neg h2,if_neg h3,ite_self]
   simp only [dF,Zci,Xf,Xh,YaK,and_false,or_self,if_false]
   grind (splits:=40)
 | [a, b], _, _=>
   have ha:a≠0:=λe=>hz (by simp [e])
   have hb:b≠0:=λe=>hz (by simp [e])
   have kG:=hr a (by simp);have mX:=hr b (by simp);simp only [YaD,YaE,List.getD_nil,Z6l,Z5L,Zlg s a b ha hb (by omega) (by omega),Z2w,Zup ha hb,Jz (show ¬ [a,b].length=[(1:Int)].length by simp),Jz (show ¬ [a,b].length=[(2:Int)].length by simp),Jz (show ¬ [a,b].length=[(3:Int)].length by simp),decide_eq_true_eq];simp only [Zci,Xf,Xh,YaK,and_false,or_self,if_false]
   grind (splits:=40)
 | [a, b, c], _, _=>
   have ha:a≠0:=λe=>hz (by simp [e])
   have hb:b≠0:=λe=>hz (by simp [e])
   have hc:c≠0:=λe=>hz (by simp [e])
   have kG:=hr a (by simp);have mX:=hr b (by simp);have wF:=hr c (by simp);simp only [YaD,YaE,Z6l,Z5L,Z94,Z2w,Zuq ha hb hc,Jz (show ¬ [a,b,c].length=[(1:Int)].length by simp),Jz (show ¬ [a,b,c].length=[(2:Int)].length by simp),Jz (show ¬ [a,b,c].length=[(3:Int)].length by simp),Jz (show ¬ [a,b,c].length=[(1:Int),1].length by simp),Jz (show ¬ [a,b,c].length=[(3:Int),3].length by simp),Jz (show ¬ [a,b,c].length=[(2:Int),2].length by simp),Jz (show ¬ [a,b,c].length=[(3:Int),1].length by simp),decide_eq_true_eq];simp only [Zci,Xf,Xh,YaK,and_false,or_self,if_false]
   grind (splits:=40)
 | _ :: _ :: _ :: _ :: _,_,hl=>exact absurd (by simp) hl
theorem Zal (k n:Int) (s:Str):0<=Z0x k n s/\Z0x k n s<=3:=by
 have h:0<=(ZK s).2.1/\(ZK s).2.1<=3:=by
  unfold ZK;dsimp only;split;simp;split<;>simp
 unfold Z0x
 grind
theorem Zam (k n:Int) (s:Str) (ts:List Int) (hr:∀ t∈ts,0<=t/\t<=3):0<=Jl k n s ts/\Jl k n s ts<=3:=by
 unfold Jl;split;omega;split;omega;split;exact Zal _ _ _;split;omega;have hg:∀ i,0<=ts.getD i 0/\ts.getD i 0<=3:=by
  intro i;by_cases hi:i<ts.length;have:=hr ts[i] (Xc hi);simpa [List.getD,hi] using this;simp [List.getD,YaG (Ya1 hi)]
 split;exact hg 1;split;unfold Z1v;split;split<;>omega
 split;split<;>omega
 split;split<;>omega
 omega;rw [Z6l];unfold Zci
 grind
theorem Z33 (x:Nd):0<=Zg x/\Zg x<=3:=by
 induction x using Nd.ind with
 | h k n s l ih=>
 rw [Z0y];refine Zam _ _ _ _ (λt ht=>?_);obtain ⟨y,hy,rfl⟩:=Xw.1 ht;exact ih y hy
theorem ZdU (x:Nd):Zg x=Z3V x.kind x.num x.word (x.kids.map Zg):=by
 rw [Z0y,ZhB];intro t ht;obtain ⟨y,hy,rfl⟩:=Xw.1 ht;exact Z33 y
def Zz:Nd->Nat
 | .mk k n s l=>1+(l.map Zz).foldl max 0
theorem Z0k (x:Nd):Zz x=1+(x.kids.map Zz).foldl max 0:=by
 cases x;rw [Zz];rfl
theorem Z4l (l:List Nat):∀ (m b:Nat),l.foldl max m<=b↔m<=b/\∀ x∈l,x<=b:=by
 induction l with
 | nil=>intro m b;simp
 | cons y r ih=>
   intro m b;rw [Yag,ih];simp only [Xa,forall_eq_or_imp];constructor;rintro ⟨h1,h2⟩;exact ⟨by omega,by omega,h2⟩;rintro ⟨h1,h2,h3⟩;exact ⟨by omega,h3⟩
theorem Zcj (m:Nat):∀ x:Nd,Z0w m x=decide (Zz x<=m):=by
 induction m with
 | zero=>
   intro x;rw [Z0k];simp [Z0w]
 | succ m ih=>
   intro x;rw [Z0k];have e:(1+(x.kids.map Zz).foldl max 0<=m+1)↔∀ y∈x.kids,Zz y<=m:=by
    rw [show (1+(x.kids.map Zz).foldl max 0<=m+1)↔(x.kids.map Zz).foldl max 0<=m by omega,Z4l];simp
   rw [Ybn,decide_eq_true_iff,e];simp only [Z0w,Xx];exact ⟨λh y hy=>by have:=h y hy;rw [ih] at this;simpa using this,λh y hy=>by rw [ih];simpa using h y hy⟩
theorem Zan {x y:Nd} (h:y∈x.kids):Zz y<Zz x:=by
 rw [Z0k x];have:=(Z4l (x.kids.map Zz) 0 ((x.kids.map Zz).foldl max 0)).1 (Xq _);have:=this.2 (Zz y) (YaB h);omega
theorem Zao (x:Nd):∀ (X:List Nat) (v:Value) (w),Zz x<=1000000->NdV X w v x->
 CC 147 #[v] w λr w'=>r=.I (Zz x:Int)/\Stp [] w w':=by
 induction x using Nd.ind with
 | h k n s l ih=>
 intro X v w hb hx;generalize gZ:Nd.mk k n s l=x at *;have ih':∀ y∈x.kids,∀ (X:List Nat) (v:Value) (w:World),Zz y<=1000000->NdV X w v y->CC 147 #[v] w λr w'=>r=.I (Zz y:Int)/\Stp [] w w':=by
  subst gZ;exact ih
 clear ih gZ k n s l;obtain ⟨kv,rfl,hs⟩:=hx;have aW:=hs.max;refine cW1 22 Tryz.func147 ?_;refine W ?_;refine Z0 (Zn rfl) rfl ?_;rintro _ w1 ⟨b,rfl,kH,ab,hS⟩;replace ab:Blk w1 b _ (ndC x kv):=ab;replace hs:=hs.up hS;refine W ?_;have bM:=hs;have gA:=ab;refine LP (σ:=Nat) (λk=>[(1,pQ b),(3,.I ((((x.kids.take k).map Zz).foldl max 0:Nat):Int)),(4,.I k)]) (λk w'=>k<=x.kids.length/\Stp [] w1 w') (λk=>x.kids.length - k) 0 ⟨Xu _,Stp.refl _ _⟩ ?_;clear hs ab;rintro k w2 ⟨hk,ak⟩;have hs:=bM.up ak;have ab:=gA.up ak;by_cases hlt:k<x.kids.length;obtain ⟨kv2,aO,bT⟩:=hs.nd hlt;have sS:=Zan (Xc hlt);refine QO ?_;apply Za (Jv rfl rfl hs hlt bT) rfl;refine CM (ZO rfl) (ih' x.kids[k] (Xc hlt) X _ _ (by omega) ⟨kv2,rfl,aO⟩) ?_;rintro _ w3 ⟨rfl,az⟩;refine W ?_;refine ZF (k+1) ⟨rfl,?_,rfl,trivial⟩ ⟨hlt,ak.trans az⟩ (by omega);rw [Xj hlt,XH,Ybd];show some _=some _;congr 2;simp only [XD,Yaj,Yag,List.foldl_nil];omega;have dK:k=x.kids.length:=by omega
 subst dK;have hn:=Z0k x;rw [Xs];refine QO ?_;refine WR ?_;refine .mk ⟨?_,hS.trans ak⟩;rw [hn];congr 1
theorem Zr4 (X XF:List Nat) (v:Value) (x:Nd) (w) (hx:NdV X w v x) (hF:SlV XF w Z2S Zd) :
 CC 187 #[v] w λr w'=>r=.tuple #[.I (if Zz x<=12 then Zg x else 0),.I (if Zz x<=12 then (if Zg x=0 then 21 else 0) else 2)]/\Stp [] w w':=by
 obtain ⟨kv,rfl,hs⟩:=hx;refine cW1 13 Tryz.func187 ?_;refine W ?_;refine Z0 (Zn rfl) rfl ?_;rintro _ w1 ⟨b,rfl,kH,ab,hS⟩;replace ab:Blk w1 b _ (ndC x kv):=ab;replace hs:=hs.up hS;replace hF:=hF.up hS;refine W ?_;refine CM (Zh rfl rfl) (Zc6 12 X _ x 12 _ rfl (by omega) ⟨kv,rfl,hs⟩) ?_;rintro _ w2 ⟨rfl,ak⟩;replace hs:=hs.up ak;replace hF:=hF.up ak;replace ab:=ab.up ak;replace hS:=hS.trans ak;rw [Zcj];by_cases hn:Zz x<=12;rw [decide_eq_true hn,if_pos hn,if_pos hn];refine W ?_;refine CL (Zr3 x X XF _ _ ⟨kv,rfl,hs⟩ hF) ?_;rintro _ w3 ⟨rfl,az⟩;replace hS:=hS.trans az
 (refine QP ?_ ?_<;>intro hc)
 refine RU ?_;exact ⟨by rw [if_neg hc],hS⟩;refine WR ?_;have h0:Zg x=0:=by omega
 exact .mk ⟨by rw [if_pos h0,h0],hS⟩;rw [decide_eq_false hn,if_neg hn,if_neg hn];refine RT ?_;exact ⟨rfl,hS⟩
theorem Zck (X:List Nat) (s:Str) (u:Value) (l:List Int) (w) (hl:SlV X w u l) :
 CC 210 #[str s,u] w λr w'=>r=.I (Z5L s l)/\Stp [] w w':=by
 refine cW2 33 Tryz.func210 ?_;refine W ?_;refine Z0 (Z1 (vs:=[(0,.I 3),(1,.I 3)]) rfl (Jk _ _)) rfl ?_;rintro a3 w3 hN;have ha:=hN.slv (X:=[]) (ys:=[(3:Int),3]) (by simp) rfl rfl (by simp [maxLen]);have hS:=Z6.stp hN;clear hN;replace hl:=hl.up hS;refine CL (Z1i _ _ _ _ _ _ _ hl ha) ?_;rintro _ w4 ⟨rfl,aF⟩;replace hl:=hl.up aF;replace hS:=hS.trans aF;clear ha;unfold Z5L;generalize JW l [3,3]=p3;refine W ?_;refine CM (ZO rfl) (Z0r [] [110,101,120,116,32,112,114,101,118] _ (by simp) (by decide)) ?_;rintro _ w5 ⟨hr,aC⟩;rw [Zcg] at hr;replace hl:=hl.up aC;replace hS:=hS.trans aC;refine W ?_;refine CL (JP [] _ _ s _ hr.slv0) ?_;rintro _ w6 ⟨rfl,cG⟩;replace hl:=hl.up cG;replace hS:=hS.trans cG;generalize idx (isS s) Z22=i1;clear hr;have rest:∀ (w:World) (Q:Exit->Act->World->Prop),True:=λ_ _=>trivial;by_cases hi:0<=i1;all_goals (refine QO ?_)
 all_goals first
  | (refine Z0 (Z1 (vs := [(0, .I 3)]) rfl (Zo _)) rfl ?_
     rintro a1 w7 hN;have ha:=hN.slv (X:=[]) (ys:=[(3:Int)]) (by simp) rfl rfl (by simp [maxLen]);have aQ:=Z6.stp hN;clear hN;replace hl:=hl.up aQ;replace hS:=hS.trans aQ;refine W ?_;refine CL (Z1i _ _ _ _ _ _ _ hl ha) ?_;rintro _ w8 ⟨rfl,bZ⟩;replace hl:=hl.up bZ;replace hS:=hS.trans bZ;generalize JW l [3]=p1;cases p1)
  | generalize JW l [3]=p1
 all_goals (repeat'(first|refine W1 ?_|omega|refine VG ?_ ?_<;>intro hg|refine VC ?_ ?_<;>intro hc))
 all_goals first
  | (refine RU ?_
     exact ⟨by simp [hi],hS⟩)
  | (refine CM (ZO rfl) (Z0r [] [108, 97, 116, 101, 114, 32, 101, 97, 114, 108, 105, 101, 114] _ (by simp) (by decide)) ?_
     rintro _ w9 ⟨hr,fp⟩;rw [Zch] at hr;replace hl:=hl.up fp;replace hS:=hS.trans fp;refine W ?_;refine CL (JP [] _ _ s _ hr.slv0) ?_;rintro _ w10 ⟨rfl,du⟩;replace hS:=hS.trans du;generalize idx (isS s) Z23=i2;clear hr)
 all_goals by_cases bI:0<=i2
 all_goals cases p3
 all_goals by_cases hs:s=[98,101,116,119,101,101,110]
 all_goals (repeat'(first|refine W1 ?_|omega|refine VG ?_ ?_<;>intro hg|refine VC ?_ ?_<;>intro hc))
 all_goals try contradiction
 all_goals (refine WR ?_)
 all_goals exact .mk ⟨by simp [hi,bI,hs],hS⟩
def okN:Nd->Bool
 | .mk k n s l=>decide (l.length<=1000) && (l.map okN).all id
theorem ZdV (x:Nd):okN x=true↔x.kids.length<=1000/\∀ y∈x.kids,okN y=true:=by
 cases x;rw [okN];simp [Nd.kids]
abbrev ndL (k n:Int) (s:Str) (kv:Value):List Value:=[.I k,.I n,str s,kv]
theorem ZeM (x:Nd):∀ (X:List Nat) (v:Value) (w),okN x=true->NdV X w v x->
 CC 148 #[v] w λr w'=>r=.I (Zg x)/\Stp [] w w':=by
 induction x using Nd.ind with
 | h k n s l ih=>
 intro X v w aK hx;obtain ⟨bp,cB⟩:=(ZdV _).1 aK;replace bp:l.length<=1000:=bp;replace cB:∀ y∈l,okN y=true:=cB;obtain ⟨kv,rfl,hs⟩:=hx;replace hs:SlV X w kv l:=hs;rw [ZdU];show Calls _ _ _ _ (Ret λr w'=>r=.I (Z3V k n s (l.map Zg))/\Stp [] w w');refine cW1 104 Tryz.func148 ?_;refine W ?_;refine Z0 (Zn rfl) rfl ?_;rintro _ w1 ⟨b,rfl,kH,ab,hS⟩;replace ab:Blk w1 b _ (ndL k n s kv):=ab;replace hs:=hs.up hS
 (refine QP ?_ ?_<;>intro hc)
 refine CL (Zc8 X _ (.mk k n s l) _ ⟨kv,rfl,hs⟩) ?_;rintro _ w2 ⟨rfl,ak⟩;refine W ?_;refine WR ?_;have cm:l=[]:=XQ.1 (by omega);subst cm;exact .mk ⟨by simp [Z3V];rfl,hS.trans ak⟩;have aX:¬ l.map Zg=[]:=by
  intro h;have:=congrArg List.length h;simp at this;subst this;simp at hc
 have ai:(l.map Zg).length=l.length:=by simp
 have bi:∀ i (h:i<l.length) (h':i<(l.map Zg).length),(l.map Zg)[i]=Zg l[i]:=by intro i h h';simp
 generalize cY:l.map Zg=ts at *;refine Z0b (σ:=Value) (λu=>[(1,pQ b),(3,u)]) (λu w'=>SlV [] w' u ts/\Stp [] w1 w') ?_ ?_;have bM:=hs;have gA:=ab;have wG:w1.heap.size<=w1.heap.size:=Xq _;refine LP (σ:=Nat×Value) (λq=>[(1,pQ b),(3,q.2),(4,.I (q.1:Int))]) (λq w'=>q.1<=l.length/\Row [] w' w1.heap.size 3 q.2 (ts.take q.1)/\Stp [] w1 w') (λq=>l.length - q.1) (0,.N) ⟨Xu _,Row.nil,Stp.refl _ _⟩ ?_;clear hs ab;rintro ⟨j,u⟩ w2 ⟨hj,ac,ak⟩;dsimp only at hj ac ⊢;have hs:=bM.up ak;have ab:=gA.up ak;by_cases hlt:j<l.length;obtain ⟨kv2,aO,bT⟩:=hs.nd hlt;refine QO ?_;apply Za (Jv rfl rfl hs hlt bT) rfl;refine CL (ih l[j] (Xc hlt) X _ _ (cB _ (Xc hlt)) ⟨kv2,rfl,aO⟩) ?_;rintro _ w3 ⟨rfl,az⟩;replace ac:=ac.up az;replace ak:=ak.trans az;refine W ?_;refine Z0 (Z1 (vs:=[(0,.I (Zg l[j]))]) rfl (Zo _)) rfl ?_;rintro bv w4 hN;have aI:SlV (ob u++[]) w4 bv [Zg l[j]]:=hN.slv (λb hb=>(ac.ob_le b (by simpa using hb)).2) rfl rfl (by simp [maxLen]);have aF:=Z6.stp hN;clear hN;replace ac:=ac.up aF;replace ak:=ak.trans aF;have aT:=ak.size;have ea:(ts.take j).length<=1000:=by rw [Xz];omega
 refine Z0 (ZA (X:=[]) (base:=w1.heap.size) rfl (by decide) rfl rfl ac aI (by simp only [Xf,Xh];omega) (by simp only [Xf,Xh,maxLen];omega) aT) rfl ?_;rintro u' w5 ⟨aR,aC,_⟩;refine W ?_;refine QL (j+1,u') ⟨by dsimp only;omega,?_,ak.own aC (λc hc=>.inr (ac.ob_le c hc).1)⟩ (by dsimp only;omega);dsimp only;rw [Xj (by omega),bi j hlt];exact aR;have eQ:j=l.length:=by omega
 subst eQ;rw [<- ai,Xs] at ac;refine QO ?_;exact QT u ⟨ac.slv0,ak⟩;rintro u w2 ⟨hu,ak⟩;replace ab:=ab.up ak;replace hS:=hS.trans ak;have lw:1<=ts.length:=by
  cases ts with
  | nil=>exact absurd rfl aX
  | cons=>simp
 clear bi cY hs;have h0:∀ (h:0<ts.length),ts.getD 0 0=ts[0]:=λh=>by simp [List.getD,h]
 have h1:∀ (h:1<ts.length),ts.getD 1 0=ts[1]:=λh=>by simp [List.getD,h]
 unfold Z3V;rw [if_neg aX];refine W ?_;by_cases hn:¬ n=0;rw [if_pos hn];refine RT ?_;exact ⟨rfl,hS⟩;rw [if_neg hn];by_cases k5:k=5;subst k5;rw [if_pos rfl];have cm:0<ts.length:=by omega
 by_cases hm:s=[45]\/s=[110,111,116]
 have fin:∀ (z:Int) (p:Bool),(s=[45]/\z=1\/s=[110,111,116]/\z=2)->JW ts [z]=p->(if s=[45]/\JW ts [1]=true\/s=[110,111,116]/\JW ts [2]=true then ts.getD 0 0 else 0)=if p then ts.getD 0 0 else 0:=by
  rintro z p (⟨rfl,rfl⟩|⟨rfl,rfl⟩) hp<;>simp [hp]
 rcases hm with rfl|rfl
 . refine QO ?_
   refine Z0 (Z1 (vs:=[(0,.I 1)]) rfl (Zo _)) rfl ?_;rintro a1 w7 hN;have ha:=hN.slv (X:=[]) (ys:=[(1:Int)]) (by simp) rfl rfl (by simp [maxLen]);have aQ:=Z6.stp hN;clear hN;replace hu:=hu.up aQ;replace ab:=ab.up aQ;replace hS:=hS.trans aQ;refine W ?_;refine CL (Z1i _ _ _ _ _ _ _ hu ha) ?_;rintro _ w8 ⟨rfl,bZ⟩;replace hu:=hu.up bZ;replace ab:=ab.up bZ;replace hS:=hS.trans bZ;rw [fin 1 _ (.inl ⟨rfl,rfl⟩) rfl];cases JW ts [1] with
   | true=>
     refine QO ?_;refine WR ?_;refine .mk ⟨?_,hS⟩;rw [if_pos rfl,h0 lw]
   | false=>
     refine RT ?_;exact ⟨rfl,hS⟩
 . refine QO ?_
   refine Z0 (Z1 (vs:=[(0,.I 2)]) rfl (Zo _)) rfl ?_;rintro a1 w7 hN;have ha:=hN.slv (X:=[]) (ys:=[(2:Int)]) (by simp) rfl rfl (by simp [maxLen]);have aQ:=Z6.stp hN;clear hN;replace hu:=hu.up aQ;replace ab:=ab.up aQ;replace hS:=hS.trans aQ;refine W ?_;refine CL (Z1i _ _ _ _ _ _ _ hu ha) ?_;rintro _ w8 ⟨rfl,bZ⟩;replace hu:=hu.up bZ;replace hS:=hS.trans bZ;rw [fin 2 _ (.inr ⟨rfl,rfl⟩) rfl];cases JW ts [2] with
   | true=>
     refine QO ?_;refine WR ?_;refine .mk ⟨?_,hS⟩;rw [if_pos rfl,h0 lw]
   | false=>
     refine RT ?_;exact ⟨rfl,hS⟩
 . have gB:¬ s=[45]:=λh=>hm (.inl h)
   have ec:¬ s=[110,111,116]:=λh=>hm (.inr h);rw [if_neg (by rintro (⟨h,_⟩|⟨h,_⟩)<;>contradiction)];repeat'(first|refine W1 ?_|omega|refine VG ?_ ?_<;>intro hg|refine VC ?_ ?_<;>intro hc)
   all_goals try contradiction
   refine RU ?_;exact ⟨rfl,hS⟩
 rw [if_neg k5];by_cases k6:k=6;subst k6;rw [if_pos rfl];refine QO ?_;refine CL (Z95 [] s u ts _ hu) ?_;rintro _ w3 ⟨rfl,az⟩;refine RT ?_;exact ⟨rfl,hS.trans az⟩;rw [if_neg k6];by_cases k78:k=7\/k=8
 . rw [if_pos k78]
   have n9:¬ k=9:=by omega
   have n10:¬ k=10:=by omega
   (refine QP ?_ ?_<;>intro hc)
   all_goals
    refine ZDr 10 [] [] [(1,0),(2,1),(0,2),(3,2),(4,0),(5,0),(6,0),(7,2),(8,2),(9,0)] (λw1 ae=>?_);replace hu:=hu.up ae;replace ab:=ab.up ae;replace hS:=hS.trans ae;refine D ?_;refine Z9 rfl trivial (Z3 rfl (ZO rfl) (Z0r [] [100,97,121,115,32,119,101,101,107,115,32,109,111,110,116,104,115,32,99,111,117,114,116,100,97,121,115] _ (by simp) (by decide))) (λ_ _ h=>h.2) rfl ?_;rintro _ w5 ⟨hr,aC⟩;rw [Zaj] at hr;replace hu:=hu.up aC;replace hS:=hS.trans aC;refine DC (JP [] _ _ s _ hr.slv0) (λ_ _ h=>h.2) ?_;rintro _ w6 ⟨rfl,cG⟩;replace hu:=hu.up cG;replace hS:=hS.trans cG;generalize idx (isS s) ZQ=i1;by_cases hi:0<=i1;refine QD ?_;refine Z9 rfl rfl (Z1 (vs:=[(0,.I 3),(1,.I 1)]) rfl (Jk _ _)) (λ_ _ h=>Z6.stp h) rfl ?_;rintro a1 w7 hN;have ha:=hN.slv (X:=[]) (ys:=[(3:Int),1]) (by simp) rfl rfl (by simp [maxLen]);have aQ:=Z6.stp hN;clear hN;replace hu:=hu.up aQ;replace hS:=hS.trans aQ;refine DC (Z1i _ _ _ _ _ _ _ hu ha) (λ_ _ h=>h.2) ?_;rintro _ w8 ⟨rfl,bZ⟩;replace hS:=hS.trans bZ;generalize JW ts [3,1]=p;cases p;refine D ?_;refine RT ?_;exact ⟨by simp,hS⟩;refine D ?_;refine RT ?_;exact ⟨by simp [hi],hS⟩;refine QD ?_;refine RT ?_;exact ⟨by simp [hi],hS⟩
 rw [if_neg k78];by_cases k9:k=9;subst k9;rw [if_pos rfl];refine QO ?_;refine ZDr 19 [] [] [(0,0),(1,1),(2,0),(3,0),(4,0),(5,0),(6,0),(7,0),(8,0),(9,0),(10,0),(11,0),(12,1),(13,0),(14,0),(15,1),(16,2),(17,2),(18,0)] (λw1 ae=>?_);replace hu:=hu.up ae;replace ab:=ab.up ae;replace hS:=hS.trans ae;have mY:=hu.max;by_cases hs:s=[]
 subst hs;by_cases h3:ts.length=3;have eR:1<ts.length:=by omega
 have jz:=h1 eR;refine QD ?_;refine Z9 rfl rfl (Z1 (vs:=[(0,.I 2),(1,.I _),(2,.I _)]) rfl (Zhv _ _ _)) (λ_ _ h=>Z6.stp h) rfl ?_;rintro a1 w7 hN;have ha:=hN.slv (X:=[]) (ys:=[(2:Int),ts[1],ts[1]]) (by simp) rfl rfl (by simp [maxLen]);have aQ:=Z6.stp hN;clear hN;replace hu:=hu.up aQ;replace hS:=hS.trans aQ;refine DC (Z1i _ _ _ _ _ _ _ hu ha) (λ_ _ h=>h.2) ?_;rintro _ w8 ⟨rfl,bZ⟩;replace hu:=hu.up bZ;replace hS:=hS.trans bZ;rw [jz];cases hp:JW ts [2,ts[1],ts[1]];refine D ?_;refine RT ?_;exact ⟨by simp,hS⟩;refine D ?_;refine RT ?_;exact ⟨by simp [h3],hS⟩;refine QD ?_;refine RT ?_;exact ⟨by simp [h3],hS⟩
 . repeat'(first|refine D1 ?_|omega|refine Zb rfl rfl rfl rfl (λhg=>?_) (λhg=>?_)|(refine Z7 rfl rfl rfl rfl (λhg=>?_) (λhg=>?_)<;>refine D1 ?_)|fail)
   all_goals try contradiction
   refine RT ?_;exact ⟨by simp [hs],hS⟩
 rw [if_neg k9];by_cases k10:k=10;subst k10;rw [if_pos rfl];refine QO ?_;refine CL (Zck [] s u ts _ hu) ?_;rintro _ w3 ⟨rfl,az⟩;refine RT ?_;exact ⟨rfl,hS.trans az⟩;rw [if_neg k10];refine RT ?_;exact ⟨rfl,hS⟩
def ZU:Nd->Nat
 | .mk k n s l=>1+(l.map ZU).sum
theorem Z0z (x:Nd):ZU x=1+(x.kids.map ZU).sum:=by
 cases x;rw [ZU];rfl
theorem Z7O {l:List Nat} {a:Nat} (h:a∈l):a<=l.sum:=by
 induction l with
 | nil=>cases h
 | cons x r ih=>
   rw [List.sum_cons];rcases Xa.1 h with rfl|h
   omega;have:=ih h;omega
theorem ZhC {x y:Nd} (h:y∈x.kids):ZU y<ZU x:=by
 rw [Z0z x];have:=Z7O (YaB (f:=ZU) h);omega
theorem ZhD (x:Nd):1<=ZU x:=by rw [Z0z];omega
theorem Zcl (l:List Nd):l.length<=(l.map ZU).sum:=by
 induction l with
 | nil=>simp
 | cons x r ih=>
   have:=ZhD x;simp;omega
theorem Z34 (x:Nd):ZU x<=1000->okN x=true:=by
 induction x using Nd.ind with
 | h k n s l ih=>
 intro h;rw [ZdV];have h1:=Z0z (.mk k n s l);have h2:=Zcl l;refine ⟨?_,λy hy=>ih y hy ?_⟩;show l.length<=1000;have:ZU (.mk k n s l)=1+(l.map ZU).sum:=h1;omega;have:=ZhC (x:=.mk k n s l) (y:=y) hy;omega
theorem Z6G (X:List Nat) (v:Value) (x:Nd) (w) (aK:okN x=true) (hn:Zz x<=1000000) (hx:NdV X w v x) :
 CC 100 #[v] w λr w'=>r=.tuple #[.I (if Zz x<=12 then Zg x else 0),.I (if Zz x<=12 then (if Zg x=0 then 21 else 0) else 2)]/\Stp [] w w':=by
 obtain ⟨kv,rfl,hs⟩:=hx;refine cW1 13 Tryz.func100 ?_;refine W ?_;refine Z0 (Zn rfl) rfl ?_;rintro _ w1 ⟨b,rfl,kH,ab,hS⟩;replace ab:Blk w1 b _ (ndC x kv):=ab;replace hs:=hs.up hS;refine W ?_;refine CL (Zao x X _ _ hn ⟨kv,rfl,hs⟩) ?_;rintro _ w2 ⟨rfl,ak⟩;replace hs:=hs.up ak;replace ab:=ab.up ak;replace hS:=hS.trans ak;by_cases hn:Zz x<=12;rw [if_pos hn,if_pos hn];refine QO ?_;refine CL (ZeM x X _ _ aK ⟨kv,rfl,hs⟩) ?_;rintro _ w3 ⟨rfl,az⟩;replace hS:=hS.trans az
 (refine QP ?_ ?_<;>intro hc)
 refine RU ?_;exact ⟨by rw [if_pos hc,hc],hS⟩;refine RU ?_;exact ⟨by rw [if_neg hc],hS⟩;rw [if_neg hn,if_neg hn];refine RT ?_;exact ⟨rfl,hS⟩
theorem Z6H {x:Nd} (h:Zg x≠0):x.kids.length<=3/\∀ y∈x.kids,Zg y≠0:=by
 rw [Z0y] at h;unfold Jl at h;refine ⟨?_,λy hy e=>?_⟩;by_cases hl:(x.kids.map Zg).length > 3;rw [if_pos hl] at h;exact absurd rfl h;simpa using hl;by_cases hl:(x.kids.map Zg).length > 3;rw [if_pos hl] at h;exact absurd rfl h;rw [if_neg hl,if_pos (by rw [<- e];exact YaB hy)] at h;exact absurd rfl h
def Z6I:List Str:=[[110,101,120,116],[112,114,101,118],[108,97,116,101,114],[101,97,114,108,105,101,114],[98,101,116,119,101,101,110]]
inductive Zn9 (k:Int) (s:Str) (m:Nat):Prop
 | neg (h:k=5) (hs:s=[45]\/s=[110,111,116]) (hm:m=1)
 | bin (h:k=6) (hs:s∈Z0n\/s∈Z1K\/s∈Z0j) (hm:m=2)
 | unit (h:k=7\/k=8) (hs:s∈ZQ) (hm:m=2)
 | cond (h:k=9) (hm:m=3)
 | call (h:k=10) (hs:s∈Z6I) (hm:1<=m/\m<=2)
theorem Zap {x:Nd} (h:Zg x≠0) (hk:x.kids≠[]):x.num=0/\Zn9 x.kind x.word x.kids.length:=by
 have hl:=(Z6H h).1;rw [ZdU] at h;have ai:(x.kids.map Zg).length=x.kids.length:=by simp
 have aX:¬ x.kids.map Zg=[]:=by simpa using hk
 generalize x.kids.map Zg=ts at *;rw [<- ai];unfold Z3V at h;rw [if_neg aX] at h;have hn:x.num=0:=Decidable.byContradiction (λhn=>by rw [if_pos hn] at h;exact absurd rfl h);refine ⟨hn,?_⟩;rw [if_neg (by simpa using hn)] at h;have bP:∀ m:List Int,JW ts m=true->ts.length=m.length:=λm hm=>by rw [(Zak.1 hm).1]
 by_cases k5:x.kind=5;rw [if_pos k5] at h;split at h;rename_i hh;rcases hh with ⟨h1,h2⟩|⟨h1,h2⟩
 exact .neg k5 (.inl h1) (bP _ h2);exact .neg k5 (.inr h1) (bP _ h2);exact absurd rfl h;rw [if_neg k5] at h;by_cases k6:x.kind=6;rw [if_pos k6] at h;unfold Z94 at h;simp only [Z2w] at h;split at h;rename_i hh;exact .bin k6 (.inl hh.1) (bP _ hh.2);split at h;rename_i hh;rcases hh.2 with h2|h2
 exact .bin k6 (.inr (.inl hh.1)) (bP _ h2);exact .bin k6 (.inr (.inl hh.1)) (bP _ h2);split at h;rename_i hh;exact .bin k6 (.inr (.inr hh.1)) (bP _ hh.2);exact absurd rfl h;rw [if_neg k6] at h;by_cases k78:x.kind=7\/x.kind=8;rw [if_pos k78] at h;simp only [Z2w] at h;split at h;rename_i hh;exact .unit k78 hh.1 (bP _ hh.2);exact absurd rfl h;rw [if_neg k78] at h;by_cases k9:x.kind=9;rw [if_pos k9] at h;split at h;rename_i hh;exact .cond k9 hh.2.1;exact absurd rfl h;rw [if_neg k9] at h;by_cases k10:x.kind=10;rw [if_pos k10] at h;unfold Z5L at h;simp only [Z2w] at h;split at h;rename_i hh;refine .call k10 ?_ (by have:=bP _ hh.2;simp at this;omega);have:=hh.1;simp only [Z22,Z6I,Xa,Xo,or_false] at this ⊢;rcases this with h|h<;>simp [h]
 split at h;rename_i hh;refine .call k10 ?_ (by have:=bP _ hh.2;simp at this;omega);have:=hh.1;simp only [Z23,Z6I,Xa,Xo,or_false] at this ⊢;rcases this with h|h<;>simp [h]
 split at h;rename_i hh;refine .call k10 ?_ (by have:=bP _ hh.2;simp at this;omega);simp [Z6I,hh.1];exact absurd rfl h;rw [if_neg k10] at h;exact absurd rfl h
end Go.Proofs.YteibicnbkggiiaaGreatDoor
namespace Go.Eng
open Go
structure Ins where
 op:Int
 n:Int
 deriving DecidableEq,Inhabited
instance:Z2 Ins where
 k:=2
 enc:=λx=>[.I x.op,.I x.n]
 len:=λ_=>rfl
 one:=by intro x u hu;simp at hu;rcases hu with rfl|rfl<;>rfl
def agg {α:Type} [Z2 α] (x:α):Value:=aG x
theorem Row.keep {β:Type} [Z2 β] {X S:List Nat} {w w':World} {base T:Nat} {v:Value} {xs:List β} (h:Row X w base T v xs) (hS:Stp S w w') (hd:∀ b∈S,b∉ob v):Row X w' base T v xs:=by
 have h':Row S w base T v xs:=h;have:=h'.ext (X':=X) hS (λb hb=>⟨hb,hd b hb⟩);obtain ⟨css,h1,h2,h3⟩:=h;refine ⟨css,h1,h2,?_⟩;have h4:Row S w base T v xs:=⟨css,h1,h2,h3⟩
 obtain ⟨ho,hr⟩:=h3;refine ⟨ho,?_⟩;rcases hr with hn|⟨q,cap,cur,rfl,hb,hg,rest⟩
 exact .inl hn;refine .inr ⟨q,cap,cur,rfl,hb,?_,rest⟩;rw [hS.block q (Xm.1 hg).1 (λhq=>hd q hq (by simp [ob]))];exact hg
end Go.Eng
namespace Go.Proofs.YteibicnbkggiiaaGreatDoor
open Go Go.Eng Go.RowKit
theorem Z98 (a b:Int) (w):(Instr.build 174 #[(0,.I a),(1,.I b)]).run Tryz.prog w=.ok (agg (Ins.mk a b)) w:=by kernel_rfl
theorem Z6m (a:Int) (w):(Instr.build 174 #[(0,.I a)]).run Tryz.prog w=.ok (agg (Ins.mk a 0)) w:=by kernel_rfl
theorem Z3A (d:Ins) (w):(Instr.buildSlice 25 1 #[(0,agg d)]).run Tryz.prog w=.ok (.slice (some ⟨w.heap.size,0,none⟩) 1 1) (w.alloc (.cells (Z2.enc d).toArray 174)):=by kernel_rfl
abbrev Cf:=Nat->List Ins
def chC (c y n:Cf) (p0:Nat):List Ins:=
 c p0 ++ [⟨14, ((p0 + (c p0).length + 1 + (y (p0 + (c p0).length + 1)).length + 1 : Nat) : Int)⟩] ++ y (p0 + (c p0).length + 1) ++
   [⟨13,((p0+(c p0).length+1+(y (p0+(c p0).length+1)).length+1+(n (p0+(c p0).length+1+(y (p0+(c p0).length+1)).length+1)).length:Nat):Int)⟩]++n (p0+(c p0).length+1+(y (p0+(c p0).length+1)).length+1)
def ZhE:List (Str×List Int):=[([43],[5]),([42],[7]),([110,111,116],[12]),([60],[9]),([60,61],[10]),([61],[11]),([62],[10,12]),([62,61],[9,12]),([33,61],[11,12]),([100,97,121,115],[15]),([119,101,101,107,115],[16]),([109,111,110,116,104,115],[17]),([99,111,117,114,116,100,97,121,115],[18]),([110,101,120,116],[19]),([112,114,101,118],[20]),([108,97,116,101,114],[21]),([101,97,114,108,105,101,114],[22]),([98,101,116,119,101,101,110],[23])]
def opF (s:Str):List Int:=match ZhE.find? (λp=>decide (p.1=s)) with|some p=>p.2|none=>[]
theorem Zlh (s:Str):(opF s).length<=2:=by
 unfold opF;cases h:ZhE.find? (λp=>decide (p.1=s)) with
 | none=>simp
 | some p=>
   have hp:=X9 h;have:∀ p∈ZhE,p.2.length<=2:=by decide
   exact this p hp
def Jm:List Cf->Nat->List Ins
 | [],_=>[]
 | c :: r,p=>c p++Jm r (p+(c p).length)
theorem Z5M (a b:List Cf) (p:Nat):Jm (a++b) p=Jm a p++Jm b (p+(Jm a p).length):=by
 induction a generalizing p with
 | nil=>simp [Jm]
 | cons c r ih=>
   simp only [Yab,Jm,ih,Xb,XI];rw [YaP]
theorem ZeN (cs:List Cf) (p i:Nat) (h:i<cs.length):Jm (cs.take (i+1)) p=Jm (cs.take i) p++cs[i] (p+(Jm (cs.take i) p).length):=by
 rw [Xj h,Z5M];simp [Jm]
theorem ZdW (cs:List Cf) (p i:Nat):(Jm (cs.take i) p).length<=(Jm cs p).length:=by
 have:Jm cs p=Jm (cs.take i) p++Jm (cs.drop i) (p+(Jm (cs.take i) p).length):=by rw [<- Z5M,XN]
 rw [this,Xb];omega
def Z3P (l:List Int):List Ins:=l.map (λo=>⟨o,0⟩)
def Z1w (k:Int) (s:Str) (cs:List Cf) (p:Nat):List Ins:=Jm cs p++(if k=8\/k=5/\s=[45] then [⟨8,0⟩] else [])++Z3P (opF s)
def Z1e (k n:Int) (s:Str):Ins:=if k=1 then ⟨1,n⟩ else if k=2 then ⟨2,n⟩ else if k=3 then ⟨3,n⟩ else ⟨4,(ZK s).1⟩
def Z49:Cf:=λ_=>[]
def Z1x (k n:Int) (s:Str) (cs:List Cf) (p:Nat):List Ins:=
 if cs.length=0 then [Z1e k n s]
 else if k=9 then chC (cs.getD 0 Z49) (cs.getD 1 Z49) (cs.getD 2 Z49) p
 else if k=6/\s=[97,110,100] then chC (cs.getD 0 Z49) (cs.getD 1 Z49) (λ_=>[⟨2,0⟩]) p
 else if k=6/\s=[111,114] then chC (cs.getD 0 Z49) (λ_=>[⟨2,1⟩]) (cs.getD 1 Z49) p
 else if k=6/\s=[45] then Z1w k s cs p++[⟨6,0⟩]
 else Z1w k s cs p
def Ze:Nd->Nat->List Ins
 | .mk k n s l=>Z1x k n s (l.map Ze)
theorem Z6J (x:Nd):Ze x=Z1x x.kind x.num x.word (x.kids.map Ze):=by
 cases x;rw [Ze];rfl
theorem ZhF (w):(Instr.build 82 #[(0,.I 2)]).run Tryz.prog w=.ok (.agg #[.I 2,.I 0,str [],.N]) w:=by kernel_rfl
theorem ZhG (w):(Instr.build 82 #[(0,.I 2),(1,.I 1)]).run Tryz.prog w=.ok (.agg #[.I 2,.I 1,str [],.N]) w:=by kernel_rfl
theorem Zi {α:Type} [Z5 α] (X:List Nat) (w:World):SlV (α:=α) X w (.N) []:=⟨none,0,rfl,Xq _,by simp [maxLen],λ_=>rfl,λi h=>absurd h (Xy _)⟩
theorem Z1P {α:Type} [Z5 α] {X:List Nat} {w w':World} {v u:Value} {l:List α} {i k j:Nat} (hs:SlV X w v l) (hi:i<l.length) (hS:Stp X w w') (h:w.cell? (ZB v i k j)=some u):w'.cell? (ZB v i k j)=some u:=by
 obtain ⟨p,c,rfl,_,_,_,hc⟩:=hs;obtain ⟨b,o,cs,rfl,_,hx,_⟩:=hc i hi;exact hS.cell hx h
theorem Zcm {x:Nd} (h:x.kids=[]) (p:Nat):Ze x p=[Z1e x.kind x.num x.word]:=by
 rw [Z6J,h];simp [Z1x]
theorem Zcn {x:Nd} {i:Nat} (h:i<x.kids.length):(x.kids.map Ze).getD i Z49=Ze x.kids[i]:=by simp [List.getD,h]
theorem ZhH (l:List Nd) (h:∀ y∈l,∀ p,(Ze y p).length<=8 * ZU y) (p:Nat):(Jm (l.map Ze) p).length<=8 * (l.map ZU).sum:=by
 induction l generalizing p with
 | nil=>simp [Jm]
 | cons x r ih=>
   simp only [XD,Jm,Xb,List.sum_cons];have h1:=h x (by simp) p;have h2:=ih (λy hy=>h y (by simp [hy])) (p+(Ze x p).length);omega
theorem Zaq (l:List Int):(Z3P l).length=l.length:=by simp [Z3P]
theorem ZhI {l:List Nd} (h:∀ y∈l,∀ p,(Ze y p).length<=8 * ZU y) (i p:Nat):((l.map Ze).getD i Z49 p).length<=8 * (l.map ZU).getD i 0:=by
 by_cases hi:i<l.length;simp [List.getD,hi];exact h _ (Xc hi) p;simp [List.getD,hi,Z49]
theorem ZhJ (l:List Nat):l.getD 0 0+l.getD 1 0+l.getD 2 0<=l.sum:=by
 rcases l with _|⟨a,_|⟨b,_|⟨c,r⟩⟩⟩<;>simp<;>omega
theorem Z99 (c y n:Cf) (A B C:Nat) (hc:∀ p,(c p).length<=A) (hy:∀ p,(y p).length<=B) (hn:∀ p,(n p).length<=C) (p:Nat):(chC c y n p).length<=A+B+C+2:=by
 unfold chC;simp only [Xb,Xf,Xh];have h1:=hc p;have h2:=hy (p+(c p).length+1);have h3:=hn (p+(c p).length+1+(y (p+(c p).length+1)).length+1);omega
theorem ZeO (x:Nd):∀ p,(Ze x p).length<=8 * ZU x:=by
 induction x using Nd.ind with
 | h k n s l ih=>
 intro p;rw [Z6J,Z0z];show (Z1x k n s (l.map Ze) p).length<=8 * (1+(l.map ZU).sum);have hs:=ZhJ (l.map ZU);have g:=ZhI ih;have hp:(Z1w k s (l.map Ze) p).length<=8 * (l.map ZU).sum+3:=by
  unfold Z1w;simp only [Xb,Zaq];have h1:=ZhH l ih p;have h2:=Zlh s;have h3:(if k=8\/k=5/\s=[45] then [(⟨8,0⟩:Ins)] else []).length<=1:=by split<;>simp
  omega
 unfold Z1x;split;simp;omega;split;refine Xk (Z99 _ _ _ _ _ _ (g 0) (g 1) (g 2) p) (by omega);split;refine Xk (Z99 _ _ _ _ _ 1 (g 0) (g 1) (λ_=>by simp) p) (by omega);split;refine Xk (Z99 _ _ _ _ 1 _ (g 0) (λ_=>by simp) (g 1) p) (by omega);split;simp only [Xb,Xf,Xh];omega;omega
def JA (x:Nd):List Ins:=Ze x 0++[⟨24,0⟩]
def Z29 (x:Nd):Int:=if Zz x<=12 then (if Zg x=0 then 21 else if (JA x).length > 200 then 2 else 0) else 2
def Zur (w:World) (x:Nd) (r:Value) (w':World):Prop:=∃ cv,r=.tuple #[cv,.I (Z29 x)]/\(∀ X:List Nat,(∀ b∈X,b<w.heap.size)->SlV X w' cv (if Z29 x=0 then JA x else []))/\Stp [] w w'
theorem Zr5 (op:BinOp) (x y:Operand) (a b:Ins) (w):(eqGuard op 174 x y (agg a) (agg b)).run Tryz.prog w=.ok () w:=by
 cases op<;>kernel_rfl
end Go.Proofs.YteibicnbkggiiaaGreatDoor
namespace Go.Eng
open Go Go.RowKit Go.Proofs
def ZE {β:Type} [Z2 β] (T:Nat) (w w':World) (v:Value) (xs:List β):Prop:=Row [] w' w.heap.size T v xs/\Stp [] w w'
section
variable {β:Type} [Z2 β] {T:Nat} {w w' w'':World} {v:Value} {xs ys:List β}
theorem Row.lower {α:Type} [Z5 α] {X:List Nat} {a b:Nat} {xs:List α} (h:Row X w b T v xs) (bK:a<=b):Row X w a T v xs:=by
 obtain ⟨css,h1,h2,h3,h4⟩:=h;refine ⟨css,h1,h2,h3,h4.imp id ?_⟩;rintro ⟨g,cap,cur,e1,e2,rest⟩;exact ⟨g,cap,cur,e1,Xk bK e2,rest⟩
theorem ZE.nil:ZE (β:=β) T w w (.N) []:=⟨Row.nil,Stp.refl _ _⟩
theorem ZE.up (h:ZE T w w' v xs) (hS:Stp [] w' w''):ZE T w w'' v xs:=⟨h.1.up hS,h.2.trans hS⟩
theorem ZE.pre (hS:Stp [] w w') (h:ZE T w' w'' v xs):ZE T w w'' v xs:=⟨h.1.lower hS.size,hS.trans h.2⟩
theorem ZE.one {cs:List Value} {len:Nat} (h:Z6 w T len cs v w') (hl:len=xs.length) (hc:cs=xs.flatMap Z2.enc) (hm:xs.length<=maxLen):ZE T w w' v xs:=⟨h.row (Xq _) hl hc hm,h.choose_spec.2.2.2⟩
theorem ZE.slv (h:ZE T w w' v xs) {X:List Nat} (hX:∀ b∈X,b<w.heap.size):SlV X w' v xs:=Row.slv (X:=X) h.1 hX
theorem ZE.ob_le (h:ZE T w w' v xs):∀ b∈ob v,w.heap.size<=b/\b<w'.heap.size:=h.1.ob_le
theorem ZE.step {S:List Nat} (h:ZE T w w' v xs) (hS:Stp S w' w'') (ho:∀ b∈S,b∈ob v):Stp [] w w'':=h.2.own hS (λb hb=>.inr (h.ob_le b (ho b hb)).1)
section
variable {P:Program} {n:Nat} {e:Env} {d:Option Nat} {ty:TypeId} {pos:String} {af:Array Edge} {g:Option (Nat×Bool)}
theorem Z01 {x y:Operand} {t bytes:Nat} {u:Value} {z:Value} [ht:Und P t (.slice T)] [hk:Siz P T (Z5.k β)] [hb:Byt P T bytes] [hz:Zer P T z] (dC:z.cells.size=Z5.k β) (aZ:0<Z5.k β)
 (hx:ev e x=some v) (hy:ev e y=some u) (h:ZE T w w' v xs) (ce:SlV (ob v) w' u ys) (hbytes:(xs.length+ys.length) * bytes<=140737488355328) (ai:xs.length+ys.length<=maxLen) :
 OE P n ⟨d,.call { callee:=.builtin .append,args:=#[x,y],argTypes:=#[t,t] },ty,pos,af,g⟩ e w' (λv' w''=>ZE T w w'' v' (xs++ys)/\Stp (ob v) w' w''/\∀ b∈ob v',b∈ob v\/w'.heap.size<=b):=by
 refine (ZA (X:=[]) (base:=w.heap.size) dC aZ hx hy h.1 (by rw [XG];exact ce) hbytes ai h.2.size).mono ?_;rintro v' w2 ⟨h1,h2,h3⟩;exact ⟨⟨h1,h.step h2 (λ_ hb=>hb)⟩,h2,h3⟩
theorem Z9a {i j k:Nat} {t:TypeId} {x y:Operand} {u:Value} {y':β} [br:Siz P t 1] (hx:ev e x=some (.pointer (some (ZB v i k j)))) (hy:ev e y=some u) (hk:k=Z2.k β)
 (hu:u.cells.toList=[u]) (h1:u.oneCell'=true) (h:ZE T w w' v xs) (hi:i<xs.length) (hj:j<Z2.k β) (bB:Z2.enc y'=(Z2.enc xs[i]).set j u) :
 OE P n ⟨d,.store t x y,ty,pos,af,g⟩ e w' (λ_ w''=>ZE T w w'' v (xs.set i y')/\Stp (ob v) w' w''):=by
 refine (Z3y (β:=β) hx hy hk hu h1 h.1 hi hj bB).mono ?_;rintro _ w2 ⟨h2,h3⟩;exact ⟨⟨h2,h.step h3 (λ_ hb=>hb)⟩,h3⟩
end
end
structure Sl (α:Type) where
 l:List α
instance {α:Type} [Z5 α]:Z5 (Sl α) where
 k:=1
 rep:=λX w x cs=>∃ v,cs=[v]/\SlV X w v x.l
 len:=by rintro X w x cs ⟨v,rfl,_⟩;rfl
 one:=by
  rintro X w x cs ⟨v,rfl,p,c,rfl,_⟩ u hu;simp at hu;subst hu;rfl
 ext:=by
  rintro X S X' w w' x cs ⟨v,rfl,h⟩ hS h1 h2;exact ⟨v,rfl,h.ext hS h1 h2⟩
theorem Z6.slvS {α:Type} [Z5 α] {w w':World} {X:List Nat} {T len:Nat} {vs:List Value} {v:Value} {xss:List (Sl α)} (h:Z6 w T len vs v w') (hX:∀ b∈X,b<w.heap.size) (hl:len=xss.length) (mZ:vs.length=xss.length)
 (hr:∀ i (hi:i<xss.length) (be:i<vs.length),SlV X w vs[i] xss[i].l) (hm:xss.length<=maxLen):SlV X w' v xss:=by
 obtain ⟨b,rfl,hb,ab,hS⟩:=h;subst hl;refine ⟨some ⟨b,0,none⟩,xss.length,rfl,Xq _,hm,λh=>by simp at h,λi hi=>⟨b,0,[vs[i]'(by omega)],rfl,ab.lt,λhx=>by have:=hX b hx;omega,⟨_,rfl,(hr i hi (by omega)).up hS⟩,λj u hu=>?_⟩⟩;refine ab.cell ?_;have:j=0:=by
  have:=(Xt.1 hu).1;simp at this;exact this
 subst this;simp at hu;subst hu;simp [Z5.k]
theorem SlV.sub {α:Type} [Z5 α] {w} {X:List Nat} {v:Value} {xss:List (Sl α)} {i:Nat} (h:SlV X w v xss) (hi:i<xss.length):∃ u,w.cell? (ZB v i 1 0)=some u/\SlV X w u xss[i].l:=by
 obtain ⟨cs,⟨u,rfl,hu⟩,hc⟩:=h.cell hi;exact ⟨u,hc 0 u rfl,hu⟩
end Go.Eng
namespace Go.Proofs.YteibicnbkggiiaaGreatDoor
open Go Go.Eng Go.RowKit
theorem Z8e (v:Value) (x:Nd) (w) (hx:NdV [] w v x):CC 149 #[v] w λr w'=>r=agg (Z1e x.kind x.num x.word)/\Stp [] w w':=by
 obtain ⟨kv,rfl,hs⟩:=hx;refine cW1 32 Tryz.func149 ?_;refine W ?_;refine Z0 (Zn rfl) rfl ?_;rintro _ w1 ⟨b,rfl,hb,ab,hS⟩;replace ab:Blk w1 b _ (ndC x kv):=ab;have br:=hS.size;refine Z0 Z4 rfl ?_;rintro _ w2 ⟨b2,rfl,cJ,aS,ak⟩;replace ab:=ab.up ak;replace hS:=hS.trans ak;repeat'(first|refine W1 ?_|omega|refine VG ?_ ?_<;>intro hg|refine VC ?_ ?_<;>intro hc)
 apply Zc (vs:=[(0,.I 1),(1,.I _)]) rfl (Z98 _ _) rfl;refine SA (us:=Z2.enc (Ins.mk 1 x.num)) aS ?_;rintro _ w3 ⟨az,aM⟩;refine W ?_;refine JH rfl rfl rfl aM rfl ?_;refine .mk ⟨by rw [Z1e,if_pos (by assumption)];rfl,hS.ow az⟩;apply Zc (vs:=[(0,.I 2),(1,.I _)]) rfl (Z98 _ _) rfl;refine SA (us:=Z2.enc (Ins.mk 2 x.num)) aS ?_;rintro _ w3 ⟨az,aM⟩;refine W ?_;refine JH rfl rfl rfl aM rfl ?_;refine .mk ⟨by rw [Z1e,if_neg (by assumption),if_pos (by assumption)];rfl,hS.ow az⟩;apply Zc (vs:=[(0,.I 3),(1,.I _)]) rfl (Z98 _ _) rfl;refine SA (us:=Z2.enc (Ins.mk 3 x.num)) aS ?_;rintro _ w3 ⟨az,aM⟩;refine W ?_;refine JH rfl rfl rfl aM rfl ?_;refine .mk ⟨by rw [Z1e,if_neg (by assumption),if_neg (by assumption),if_pos (by assumption)];rfl,hS.ow az⟩;refine CL (Z5K x.word _) ?_;rintro _ w3 ⟨rfl,az⟩;replace aS:=aS.up az;replace hS:=hS.trans az;refine W ?_;apply Zc (vs:=[(0,.I 4),(1,.I _)]) rfl (Z98 _ _) rfl;refine SA (us:=Z2.enc (Ins.mk 4 (ZK x.word).1)) aS ?_;rintro _ w4 ⟨aF,bo⟩;refine W ?_;refine JH rfl rfl rfl bo rfl ?_;refine .mk ⟨by rw [Z1e,if_neg (by assumption),if_neg (by assumption),if_neg (by assumption)];rfl,hS.ow aF⟩
def Z35 (k:Int) (s:Str):List Int:=(if k=8\/k=5/\s=[45] then [8] else [])++opF s++(if k=6/\s=[45] then [6] else [])
def Z9b:List Str:=[[43],[45],[42],[60],[60,61],[61],[62],[62,61],[33,61]]
def Z9c:List (Sl Int):=[⟨[5]⟩,⟨[6]⟩,⟨[7]⟩,⟨[9]⟩,⟨[10]⟩,⟨[11]⟩,⟨[10,12]⟩,⟨[9,12]⟩,⟨[11,12]⟩]
theorem ZhK (a b c d:Int) (w):(Instr.buildSlice 22 4 #[(0,.I a),(1,.I b),(2,.I c),(3,.I d)]).run Tryz.prog w=.ok (.slice (some ⟨w.heap.size,0,none⟩) 4 4) (w.alloc (.cells #[.I a,.I b,.I c,.I d] 3)):=by kernel_rfl
theorem ZhL (a b c d e:Int) (w):(Instr.buildSlice 22 5 #[(0,.I a),(1,.I b),(2,.I c),(3,.I d),(4,.I e)]).run Tryz.prog w=.ok (.slice (some ⟨w.heap.size,0,none⟩) 5 5) (w.alloc (.cells #[.I a,.I b,.I c,.I d,.I e] 3)):=by kernel_rfl
theorem ZhM (a b c d e:Str) (w):(Instr.buildSlice 168 5 #[(0,str a),(1,str b),(2,str c),(3,str d),(4,str e)]).run Tryz.prog w=.ok (.slice (some ⟨w.heap.size,0,none⟩) 5 5) (w.alloc (.cells #[str a,str b,str c,str d,str e] 9)):=by kernel_rfl
theorem ZhN (a b c d e f g h i:Str) (w):(Instr.buildSlice 168 9 #[(0,str a),(1,str b),(2,str c),(3,str d),(4,str e),(5,str f),(6,str g),(7,str h),(8,str i)]).run Tryz.prog w=.ok (.slice (some ⟨w.heap.size,0,none⟩) 9 9) (w.alloc (.cells #[str a,str b,str c,str d,str e,str f,str g,str h,str i] 9)):=by kernel_rfl
theorem ZhO (p0 p1 p2 p3 p4 p5 p6 p7 p8:Option Addr) (l0 l1 l2 l3 l4 l5 l6 l7 l8 c0 c1 c2 c3 c4 c5 c6 c7 c8:Nat) (w):(Instr.buildSlice 176 9 #[(0,.slice p0 l0 c0),(1,.slice p1 l1 c1),(2,.slice p2 l2 c2),(3,.slice p3 l3 c3),(4,.slice p4 l4 c4),(5,.slice p5 l5 c5),(6,.slice p6 l6 c6),(7,.slice p7 l7 c7),(8,.slice p8 l8 c8)]).run Tryz.prog w=.ok (.slice (some ⟨w.heap.size,0,none⟩) 9 9) (w.alloc (.cells #[.slice p0 l0 c0,.slice p1 l1 c1,.slice p2 l2 c2,.slice p3 l3 c3,.slice p4 l4 c4,.slice p5 l5 c5,.slice p6 l6 c6,.slice p7 l7 c7,.slice p8 l8 c8] 22)):=by kernel_rfl
theorem o6 {s:Str} (h:s∈Z0n\/s∈Z1K\/s∈Z0j) (ha:¬ s=[97,110,100]) (ho:¬ s=[111,114]):∃ i,∃ h:i<Z9c.length,idx (isS s) Z9b=(i:Int)/\Z9c[i].l=Z35 6 s:=by
 simp only [Z0n,Z1K,Z0j,Xa,Xo,or_false] at h;rcases h with (h|h|h)|(h|h|h|h|h|h)|(h|h)<;>subst h
 exact ⟨0,by decide,by decide,by decide⟩;exact ⟨1,by decide,by decide,by decide⟩;exact ⟨2,by decide,by decide,by decide⟩;exact ⟨3,by decide,by decide,by decide⟩;exact ⟨4,by decide,by decide,by decide⟩;exact ⟨5,by decide,by decide,by decide⟩;exact ⟨8,by decide,by decide,by decide⟩;exact ⟨6,by decide,by decide,by decide⟩;exact ⟨7,by decide,by decide,by decide⟩;exact absurd rfl ha;exact absurd rfl ho
theorem oU {s:Str} (h:s∈ZQ):∃ i,∃ h:i < [(15:Int),16,17,18].length,idx (isS s) ZQ=(i:Int)/\Z35 7 s=[[(15:Int),16,17,18][i]]/\Z35 8 s=[8,[(15:Int),16,17,18][i]]:=by
 simp only [ZQ,Xa,Xo,or_false] at h;rcases h with h|h|h|h<;>subst h
 exact ⟨0,by decide,by decide,by decide,by decide⟩;exact ⟨1,by decide,by decide,by decide,by decide⟩;exact ⟨2,by decide,by decide,by decide,by decide⟩;exact ⟨3,by decide,by decide,by decide,by decide⟩
theorem oC {s:Str} (h:s∈Z6I):∃ i,∃ h:i < [(19:Int),20,21,22,23].length,idx (isS s) Z6I=(i:Int)/\Z35 10 s=[[(19:Int),20,21,22,23][i]]:=by
 simp only [Z6I,Xa,Xo,or_false] at h;rcases h with h|h|h|h|h<;>subst h
 exact ⟨0,by decide,by decide,by decide⟩;exact ⟨1,by decide,by decide,by decide⟩;exact ⟨2,by decide,by decide,by decide⟩;exact ⟨3,by decide,by decide,by decide⟩;exact ⟨4,by decide,by decide,by decide⟩
theorem Zco (X:List Nat) (v:Value) (x:Nd) (w:World) (og:∀ b∈X,b<w.heap.size) (dL:Zn9 x.kind x.word x.kids.length) (h9:¬ x.kind=9) (ha:¬ (x.kind=6/\x.word=[97,110,100])) (ho:¬ (x.kind=6/\x.word=[111,114])) (hx:NdV [] w v x) :
 CC 151 #[v] w λr w'=>SlV X w' r (Z35 x.kind x.word)/\Stp [] w w':=by
 obtain ⟨kv,rfl,hs⟩:=hx;refine cW1 63 Tryz.func151 ?_;refine W ?_;refine Z0 (Zn rfl) rfl ?_;rintro _ w0 ⟨b,rfl,hb,ab,hS⟩;replace ab:Blk w0 b _ (ndC x kv):=ab;have hX:∀ b∈X,b<w0.heap.size:=λb hb=>Xi (og b hb) hS.size;refine W ?_;refine Z0 (Z1 (vs:=[(0,.I 5)]) rfl (Zo _)) rfl ?_;rintro a0 u0 hN;have s_a0:SlV X u0 a0 [(5:Int)]:=hN.slv hX rfl rfl (by simp [maxLen]);have hT:=Z6.stp hN;clear hN;replace ab:=ab.up hT;replace hS:=hS.trans hT;replace hX:=λb hb=>Xi (hX b hb) hT.size;clear hT;refine Z0 (Z1 (vs:=[(0,.I 6)]) rfl (Zo _)) rfl ?_;rintro a1 u1 hN;have s_a1:SlV X u1 a1 [(6:Int)]:=hN.slv hX rfl rfl (by simp [maxLen]);have hT:=Z6.stp hN;clear hN;replace ab:=ab.up hT;replace hS:=hS.trans hT;replace hX:=λb hb=>Xi (hX b hb) hT.size;replace s_a0:=s_a0.up hT;clear hT;refine Z0 (Z1 (vs:=[(0,.I 7)]) rfl (Zo _)) rfl ?_;rintro a2 u2 hN;have s_a2:SlV X u2 a2 [(7:Int)]:=hN.slv hX rfl rfl (by simp [maxLen]);have hT:=Z6.stp hN;clear hN;replace ab:=ab.up hT;replace hS:=hS.trans hT;replace hX:=λb hb=>Xi (hX b hb) hT.size;replace s_a0:=s_a0.up hT;replace s_a1:=s_a1.up hT;clear hT;refine Z0 (Z1 (vs:=[(0,.I 9)]) rfl (Zo _)) rfl ?_;rintro a3 u3 hN;have s_a3:SlV X u3 a3 [(9:Int)]:=hN.slv hX rfl rfl (by simp [maxLen]);have hT:=Z6.stp hN;clear hN;replace ab:=ab.up hT;replace hS:=hS.trans hT;replace hX:=λb hb=>Xi (hX b hb) hT.size;replace s_a0:=s_a0.up hT;replace s_a1:=s_a1.up hT;replace s_a2:=s_a2.up hT;clear hT;refine Z0 (Z1 (vs:=[(0,.I 10)]) rfl (Zo _)) rfl ?_;rintro a4 u4 hN;have s_a4:SlV X u4 a4 [(10:Int)]:=hN.slv hX rfl rfl (by simp [maxLen]);have hT:=Z6.stp hN;clear hN;replace ab:=ab.up hT;replace hS:=hS.trans hT;replace hX:=λb hb=>Xi (hX b hb) hT.size;replace s_a0:=s_a0.up hT;replace s_a1:=s_a1.up hT;replace s_a2:=s_a2.up hT;replace s_a3:=s_a3.up hT;clear hT;refine Z0 (Z1 (vs:=[(0,.I 11)]) rfl (Zo _)) rfl ?_;rintro a5 u5 hN;have s_a5:SlV X u5 a5 [(11:Int)]:=hN.slv hX rfl rfl (by simp [maxLen]);have hT:=Z6.stp hN;clear hN;replace ab:=ab.up hT;replace hS:=hS.trans hT;replace hX:=λb hb=>Xi (hX b hb) hT.size;replace s_a0:=s_a0.up hT;replace s_a1:=s_a1.up hT;replace s_a2:=s_a2.up hT;replace s_a3:=s_a3.up hT;replace s_a4:=s_a4.up hT;clear hT;refine Z0 (Z1 (vs:=[(0,.I 10),(1,.I 12)]) rfl (Jk _ _)) rfl ?_;rintro a6 u6 hN;have s_a6:SlV X u6 a6 [(10:Int),(12:Int)]:=hN.slv hX rfl rfl (by simp [maxLen]);have hT:=Z6.stp hN;clear hN;replace ab:=ab.up hT;replace hS:=hS.trans hT;replace hX:=λb hb=>Xi (hX b hb) hT.size;replace s_a0:=s_a0.up hT;replace s_a1:=s_a1.up hT;replace s_a2:=s_a2.up hT;replace s_a3:=s_a3.up hT;replace s_a4:=s_a4.up hT;replace s_a5:=s_a5.up hT;clear hT;refine Z0 (Z1 (vs:=[(0,.I 9),(1,.I 12)]) rfl (Jk _ _)) rfl ?_;rintro a7 u7 hN;have s_a7:SlV X u7 a7 [(9:Int),(12:Int)]:=hN.slv hX rfl rfl (by simp [maxLen]);have hT:=Z6.stp hN;clear hN;replace ab:=ab.up hT;replace hS:=hS.trans hT;replace hX:=λb hb=>Xi (hX b hb) hT.size;replace s_a0:=s_a0.up hT;replace s_a1:=s_a1.up hT;replace s_a2:=s_a2.up hT;replace s_a3:=s_a3.up hT;replace s_a4:=s_a4.up hT;replace s_a5:=s_a5.up hT;replace s_a6:=s_a6.up hT;clear hT;refine Z0 (Z1 (vs:=[(0,.I 11),(1,.I 12)]) rfl (Jk _ _)) rfl ?_;rintro a8 u8 hN;have s_a8:SlV X u8 a8 [(11:Int),(12:Int)]:=hN.slv hX rfl rfl (by simp [maxLen]);have hT:=Z6.stp hN;clear hN;replace ab:=ab.up hT;replace hS:=hS.trans hT;replace hX:=λb hb=>Xi (hX b hb) hT.size;replace s_a0:=s_a0.up hT;replace s_a1:=s_a1.up hT;replace s_a2:=s_a2.up hT;replace s_a3:=s_a3.up hT;replace s_a4:=s_a4.up hT;replace s_a5:=s_a5.up hT;replace s_a6:=s_a6.up hT;replace s_a7:=s_a7.up hT;clear hT;obtain ⟨p0,c0,rfl,_⟩:=id s_a0;obtain ⟨p1,c1,rfl,_⟩:=id s_a1;obtain ⟨p2,c2,rfl,_⟩:=id s_a2;obtain ⟨p3,c3,rfl,_⟩:=id s_a3;obtain ⟨p4,c4,rfl,_⟩:=id s_a4;obtain ⟨p5,c5,rfl,_⟩:=id s_a5;obtain ⟨p6,c6,rfl,_⟩:=id s_a6;obtain ⟨p7,c7,rfl,_⟩:=id s_a7;obtain ⟨p8,c8,rfl,_⟩:=id s_a8;refine Z0 (Z1 (vs:=[(0,.slice p0 _ c0),(1,.slice p1 _ c1),(2,.slice p2 _ c2),(3,.slice p3 _ c3),(4,.slice p4 _ c4),(5,.slice p5 _ c5),(6,.slice p6 _ c6),(7,.slice p7 _ c7),(8,.slice p8 _ c8)]) rfl (ZhO _ _ _ _ _ _ _ _ _ _ _ _ _ _ _ _ _ _ _ _ _ _ _ _ _ _ _)) rfl ?_;rintro tw u9 hN;have s_tw:SlV X u9 tw Z9c:=hN.slvS (xss:=Z9c) hX rfl rfl (λi hi be=>match i,hi with|0,_=>s_a0|1,_=>s_a1|2,_=>s_a2|3,_=>s_a3|4,_=>s_a4|5,_=>s_a5|6,_=>s_a6|7,_=>s_a7|8,_=>s_a8) (by decide);have hT:=Z6.stp hN;clear hN;replace ab:=ab.up hT;replace hS:=hS.trans hT;replace hX:=λb hb=>Xi (hX b hb) hT.size;replace s_a0:=s_a0.up hT;replace s_a1:=s_a1.up hT;replace s_a2:=s_a2.up hT;replace s_a3:=s_a3.up hT;replace s_a4:=s_a4.up hT;replace s_a5:=s_a5.up hT;replace s_a6:=s_a6.up hT;replace s_a7:=s_a7.up hT;replace s_a8:=s_a8.up hT;clear hT;clear s_a0 s_a1 s_a2 s_a3 s_a4 s_a5 s_a6 s_a7 s_a8;refine W ?_;refine Z0 (Z1 (vs:=[(0,.I 19),(1,.I 20),(2,.I 21),(3,.I 22),(4,.I 23)]) rfl (ZhL _ _ _ _ _)) rfl ?_;rintro cl u10 hN;have s_cl:SlV X u10 cl [(19:Int),20,21,22,23]:=hN.slv hX rfl rfl (by simp [maxLen]);have hT:=Z6.stp hN;clear hN;replace ab:=ab.up hT;replace hS:=hS.trans hT;replace hX:=λb hb=>Xi (hX b hb) hT.size;replace s_tw:=s_tw.up hT;clear hT;refine W ?_;refine Z0 (Z1 (vs:=[(0,.I 15),(1,.I 16),(2,.I 17),(3,.I 18)]) rfl (ZhK _ _ _ _)) rfl ?_;rintro un u11 hN;have s_un:SlV X u11 un [(15:Int),16,17,18]:=hN.slv hX rfl rfl (by simp [maxLen]);have hT:=Z6.stp hN;clear hN;replace ab:=ab.up hT;replace hS:=hS.trans hT;replace hX:=λb hb=>Xi (hX b hb) hT.size;replace s_tw:=s_tw.up hT;replace s_cl:=s_cl.up hT;clear hT;refine W ?_;refine Z0 (Z1 (vs:=[(0,str [100,97,121,115]),(1,str [119,101,101,107,115]),(2,str [109,111,110,116,104,115]),(3,str [99,111,117,114,116,100,97,121,115])]) rfl (Zah _ _ _ _)) rfl ?_;rintro us u12 hN;have s_us:SlV X u12 us ZQ:=hN.slv hX rfl rfl (by simp [ZQ,maxLen]);have hT:=Z6.stp hN;clear hN;replace ab:=ab.up hT;replace hS:=hS.trans hT;replace hX:=λb hb=>Xi (hX b hb) hT.size;replace s_tw:=s_tw.up hT;replace s_cl:=s_cl.up hT;replace s_un:=s_un.up hT;clear hT;refine W ?_;refine CL (Z31 X _ ZQ x.word _ s_us) ?_;rintro _ w2 ⟨rfl,hT⟩;replace ab:=ab.up hT;replace s_tw:=s_tw.up hT;replace s_cl:=s_cl.up hT;replace s_un:=s_un.up hT;replace hS:=hS.trans hT;replace hX:=λb hb=>Xi (hX b hb) hT.size;clear hT s_us;have qP:x.kind=7\/x.kind=8->x.word∈ZQ:=λhk=>by
  rcases dL with ⟨h,_,_⟩|⟨h,_,_⟩|⟨h,hu,_⟩|⟨h,_⟩|⟨h,_,_⟩<;>first|exact hu|omega
 have sT:x.kind=6->x.word∈Z0n\/x.word∈Z1K\/x.word∈Z0j:=λhk=>by
  rcases dL with ⟨h,_,_⟩|⟨h,hu,_⟩|⟨h,_,_⟩|⟨h,_⟩|⟨h,_,_⟩<;>first|exact hu|omega
 have sU:x.kind=5->x.word=[45]\/x.word=[110,111,116]:=λhk=>by
  rcases dL with ⟨h,hu,_⟩|⟨h,_,_⟩|⟨h,_,_⟩|⟨h,_⟩|⟨h,_,_⟩<;>first|exact hu|omega
 have oh:¬ x.kind=5->¬ x.kind=6->¬ x.kind=7->¬ x.kind=8->x.kind=10/\x.word∈Z6I:=λ_ _ _ _=>by
  rcases dL with ⟨h,_,_⟩|⟨h,_,_⟩|⟨h,_,_⟩|⟨h,_⟩|⟨h,hu,_⟩<;>first|exact ⟨h,hu⟩|omega
 refine W ?_;by_cases k5:x.kind=5;have sV:=sU k5
 (refine QP ?_ ?_<;>intro hc)
 refine Z0 (Z1 (vs:=[(0,.I 8)]) rfl (Zo _)) rfl ?_;rintro r w3 hN;have hr:SlV X w3 r [(8:Int)]:=hN.slv hX rfl rfl (by simp [maxLen]);have hT:=Z6.stp hN;refine W ?_;refine WR ?_;have hw:x.word=[45]:=by assumption
 exact .mk ⟨by rw [k5,hw];exact hr,hS.trans hT⟩;refine Z0 (Z1 (vs:=[(0,.I 12)]) rfl (Zo _)) rfl ?_;rintro r w3 hN;have hr:SlV X w3 r [(12:Int)]:=hN.slv hX rfl rfl (by simp [maxLen]);have hT:=Z6.stp hN;refine W ?_;refine WR ?_;have hw:x.word=[110,111,116]:=sV.resolve_left (by assumption);exact .mk ⟨by rw [k5,hw];exact hr,hS.trans hT⟩;by_cases k6:x.kind=6;have sW:=sT k6;obtain ⟨i,hi,jG,ia⟩:=o6 sW (λh=>ha ⟨k6,h⟩) (λh=>ho ⟨k6,h⟩);refine QO ?_;refine Z0 (Z1 (vs:=[(0,str [43]),(1,str [45]),(2,str [42]),(3,str [60]),(4,str [60,61]),(5,str [61]),(6,str [62]),(7,str [62,61]),(8,str [33,61])]) rfl (ZhN _ _ _ _ _ _ _ _ _)) rfl ?_;rintro nv w3 hN;have s_n:SlV X w3 nv Z9b:=hN.slv hX rfl rfl (by simp [Z9b,maxLen]);have hT:=Z6.stp hN;replace ab:=ab.up hT;replace s_tw:=s_tw.up hT;replace hS:=hS.trans hT;clear hT hN;refine W ?_;refine CL (Z31 X _ Z9b x.word _ s_n) ?_;rintro _ w4 ⟨rfl,hT⟩;replace ab:=ab.up hT;replace s_tw:=s_tw.up hT;replace hS:=hS.trans hT;rw [jG];obtain ⟨u,am,eE⟩:=s_tw.sub hi;refine W ?_;apply Za (Jd rfl rfl am) rfl;refine RT ?_;exact ⟨by rw [k6,<- ia];exact eE,hS⟩;by_cases k7:x.kind=7;obtain ⟨i,hi,jG,ia,_⟩:=oU (qP (.inl k7));rw [jG];refine QO ?_;refine Z0 (Z1 (vs:=[(0,.I _)]) rfl (Zo _)) rfl ?_;rintro r w3 hN;have hr:SlV X w3 r [[(15:Int),16,17,18][i]]:=hN.slv hX rfl rfl (by simp [maxLen]);have hT:=Z6.stp hN;refine RT ?_;exact ⟨by rw [k7,ia];exact hr,hS.trans hT⟩;by_cases k8:x.kind=8;obtain ⟨i,hi,jG,_,ia⟩:=oU (qP (.inr k8));rw [jG];refine QO ?_;refine Z0 (Z1 (vs:=[(0,.I 8),(1,.I _)]) rfl (Jk _ _)) rfl ?_;rintro r w3 hN;have hr:SlV X w3 r [8,[(15:Int),16,17,18][i]]:=hN.slv hX rfl rfl (by simp [maxLen]);have hT:=Z6.stp hN;refine RT ?_;exact ⟨by rw [k8,ia];exact hr,hS.trans hT⟩;obtain ⟨k10,ol⟩:=oh k5 k6 k7 k8;obtain ⟨i,hi,jG,ia⟩:=oC ol;refine QO ?_;refine Z0 (Z1 (vs:=[(0,str [110,101,120,116]),(1,str [112,114,101,118]),(2,str [108,97,116,101,114]),(3,str [101,97,114,108,105,101,114]),(4,str [98,101,116,119,101,101,110])]) rfl (ZhM _ _ _ _ _)) rfl ?_;rintro nv w3 hN;have s_n:SlV X w3 nv Z6I:=hN.slv hX rfl rfl (by simp [Z6I,maxLen]);have hT:=Z6.stp hN;replace ab:=ab.up hT;replace s_cl:=s_cl.up hT;replace hS:=hS.trans hT;replace hX:=λb hb=>Xi (hX b hb) hT.size;clear hT hN;refine W ?_;refine CL (Z31 X _ Z6I x.word _ s_n) ?_;rintro _ w4 ⟨rfl,hT⟩;replace ab:=ab.up hT;replace s_cl:=s_cl.up hT;replace hS:=hS.trans hT;replace hX:=λb hb=>Xi (hX b hb) hT.size;rw [jG];refine W ?_;refine Z0 (Z1 (vs:=[(0,.I _)]) rfl (Zo _)) rfl ?_;rintro r w5 hN;have hr:SlV X w5 r [[(19:Int),20,21,22,23][i]]:=hN.slv hX rfl rfl (by simp [maxLen]);have hT:=Z6.stp hN;refine RT ?_;exact ⟨by rw [k10,ia];exact hr,hS.trans hT⟩
abbrev RwI (w w':World) (v:Value) (xs:List Ins):Prop:=ZE 174 w w' v xs
def Z58 (x:Nd) (f:Cf):Prop:=∀ (w:World) (nv:Value) (p:Nat) (z:Int),z=(p:Int)->NdV [] w nv x->p+(f p).length<=100000->
 CC 101 #[nv,.I z] w λr w'=>RwI w w' r (f p)
theorem Z36 {x y n:Nd} {f g h:Cf} (hx:Z58 x f) (hy:Z58 y g) (hn:Z58 n h) (w) (xv yv nv:Value) (p0:Nat) (z0:Int) (hz:z0=(p0:Int))
 (gx:NdV [] w xv x) (gy:NdV [] w yv y) (gn:NdV [] w nv n) (hl:p0+(chC f g h p0).length<=100000) :
 CC 150 #[xv,yv,nv,.I z0] w λr w'=>RwI w w' r (chC f g h p0):=by
 have dM:=hl;unfold chC at dM;simp only [Xb,Xf,Xh] at dM;obtain ⟨xk,rfl,sx⟩:=gx;obtain ⟨yk,rfl,sy⟩:=gy;obtain ⟨nk,rfl,sn⟩:=gn;subst hz;refine cW4 60 Tryz.func150 ?_;refine W ?_;refine Z0 (Zn rfl) rfl ?_;rintro _ w1 ⟨b1,rfl,ee,k1,ae⟩;replace k1:Blk w1 b1 _ (ndC x xk):=k1;refine Z0 (Zn rfl) rfl ?_;rintro _ w2 ⟨b2,rfl,cJ,k2,ak⟩;replace k2:Blk w2 b2 _ (ndC y yk):=k2;refine Z0 (Zn rfl) rfl ?_;rintro _ w3 ⟨b3,rfl,eD,k3,az⟩;replace k3:Blk w3 b3 _ (ndC n nk):=k3;have hS:=(ae.trans ak).trans az;replace k1:=(k1.up ak).up az;replace k2:=k2.up az;replace sx:=sx.up hS;replace sy:=sy.up hS;replace sn:=sn.up hS;clear ae ak az;have sX:=chC.eq_1 f g h p0;generalize hA:f p0=A at *;generalize hp:p0+A.length+1=p at *;generalize hB:g p=B at *;generalize wH:p+B.length+1=q at *;generalize hD:h q=D at *;rw [sX];have e1:(A++[(⟨14,0⟩:Ins)]).length=A.length+1:=by simp
 have e2:(A++[(⟨14,0⟩:Ins)]++B).length=A.length+1+B.length:=by simp;omega
 have e3:(A++[(⟨14,0⟩:Ins)]++B++[(⟨13,0⟩:Ins)]).length=A.length+1+B.length+1:=by simp;omega
 have e4:∀ z,(A++[(⟨14,z⟩:Ins)]++B++[(⟨13,0⟩:Ins)]).length=A.length+1+B.length+1:=by simp;omega
 have e5:∀ z,(A++[(⟨14,z⟩:Ins)]++B++[(⟨13,0⟩:Ins)]++D).length=A.length+1+B.length+1+D.length:=by simp;omega
 refine W ?_;refine Z0 (Z3 rfl (Zh rfl rfl) (hx _ _ p0 _ rfl ⟨xk,rfl,sx⟩ (by rw [hA];omega))) rfl ?_;rintro v w4 hr;rw [hA] at hr;have au:=hr.slv (X:=[]) (by simp);refine W ?_;apply Zc (vs:=[(0,.I 14)]) rfl (Z6m _) rfl;refine Z0 (Z1 (vs:=[(0,agg (Ins.mk 14 0))]) rfl (Z3A _)) rfl ?_;rintro u wb hN;have hu:SlV (ob v) wb u [Ins.mk 14 0]:=hN.slv (λb hb=>(hr.ob_le b hb).2) rfl rfl (by simp [maxLen]);have hT:=Z6.stp hN;clear hN;replace hr:=hr.up hT;clear hT au;refine Z0 (Z01 rfl (by decide) rfl rfl hr hu (by simp only [Xf,Xh];omega) (by simp only [Xf,Xh,maxLen];omega)) rfl ?_;clear hu hr;rintro v wc ⟨hr,-,-⟩;have au:=hr.slv (X:=[]) (by simp);have kk:=k2.up hr.2;refine W ?_;refine Z0 (Z3 rfl (Zh rfl rfl) (hy _ _ p _ (by omega) ⟨yk,rfl,sy.up hr.2⟩ (by rw [hB];omega))) rfl ?_;rintro u wd hu;rw [hB] at hu;have dt:=hu.slv (X:=ob v) (λb hb=>(hr.ob_le b hb).2);replace hr:=hr.up hu.2;clear hu au kk;refine Z0 (Z01 rfl (by decide) rfl rfl hr dt (by rw [e1];omega) (by rw [e1];simp only [maxLen];omega)) rfl ?_;clear dt hr;rintro v we ⟨hr,-,-⟩;have au:=hr.slv (X:=[]) (by simp);refine W ?_;apply Zc (vs:=[(0,.I 13)]) rfl (Z6m _) rfl;refine Z0 (Z1 (vs:=[(0,agg (Ins.mk 13 0))]) rfl (Z3A _)) rfl ?_;rintro u wb hN;have hu:SlV (ob v) wb u [Ins.mk 13 0]:=hN.slv (λb hb=>(hr.ob_le b hb).2) rfl rfl (by simp [maxLen]);have hT:=Z6.stp hN;clear hN;replace hr:=hr.up hT;clear hT au;refine Z0 (Z01 rfl (by decide) rfl rfl hr hu (by simp only [e2,Xf,Xh];omega) (by simp only [e2,Xf,Xh,maxLen];omega)) rfl ?_;clear hu hr;rintro v wc ⟨hr,-,-⟩;have au:=hr.slv (X:=[]) (by simp);have cg:A.length<(A++[(⟨14,0⟩:Ins)]++B++[(⟨13,0⟩:Ins)]).length:=by rw [e3];omega
 refine W ?_;have om:(A++[(⟨14,0⟩:Ins)]++B++[(⟨13,0⟩:Ins)])[A.length]=⟨14,0⟩:=by simp
 have hq1:(p0:Int)+((A++[(⟨14,0⟩:Ins)]++B++[(⟨13,0⟩:Ins)]).length:Int)=(q:Int):=by rw [e3];omega
 refine Z8 (Z9a (i:=A.length) (j:=1) (u:=.I ((p0:Int)+((A++[(⟨14,0⟩:Ins)]++B++[(⟨13,0⟩:Ins)]).length:Int))) (y':=⟨14,(q:Int)⟩) rfl rfl rfl rfl rfl hr cg (by decide) (by rw [om,<- hq1];rfl)) ?_;have ly:(A++[(⟨14,0⟩:Ins)]++B++[(⟨13,0⟩:Ins)]).set A.length ⟨14,(q:Int)⟩=A++[(⟨14,(q:Int)⟩:Ins)]++B++[(⟨13,0⟩:Ins)]:=by simp
 rw [ly];clear hr au;rintro _ wf ⟨hr,-⟩;have au:=hr.slv (X:=[]) (by simp);have e4':=e4 (q:Int);have kk:=k3.up hr.2;refine W ?_;refine Z0 (Z3 rfl (Zh rfl rfl) (hn _ _ q _ (by omega) ⟨nk,rfl,sn.up hr.2⟩ (by rw [hD];omega))) rfl ?_;rintro u wd hu;rw [hD] at hu;have dt:=hu.slv (X:=ob v) (λb hb=>(hr.ob_le b hb).2);replace hr:=hr.up hu.2;clear hu au kk;refine Z0 (Z01 rfl (by decide) rfl rfl hr dt (by rw [e4];omega) (by rw [e4];simp only [maxLen];omega)) rfl ?_;clear dt hr;rintro v we ⟨hr,-,-⟩;have au:=hr.slv (X:=[]) (by simp);have e5':=e5 (q:Int);have bI:A.length+1+B.length<(A++[(⟨14,(q:Int)⟩:Ins)]++B++[(⟨13,0⟩:Ins)]++D).length:=by rw [e5];omega
 refine W ?_;have e2':(A++[(⟨14,(q:Int)⟩:Ins)]++B).length=A.length+1+B.length:=by simp;omega
 have cC:A++[(⟨14,(q:Int)⟩:Ins)]++B++[(⟨13,0⟩:Ins)]++D=(A++[(⟨14,(q:Int)⟩:Ins)]++B)++(⟨13,0⟩:Ins) :: D:=by simp
 rw [e2];have ot:(A++[(⟨14,(q:Int)⟩:Ins)]++B++[(⟨13,0⟩:Ins)]++D)[A.length+1+B.length]=⟨13,0⟩:=by
  rw [Yal (by rw [e4];omega),Yar (by omega)];simp
 have hq2:(p0:Int)+((A++[(⟨14,(q:Int)⟩:Ins)]++B++[(⟨13,0⟩:Ins)]++D).length:Int)=((q+D.length:Nat):Int):=by rw [e5];omega
 refine Z8 (Z9a (i:=A.length+1+B.length) (j:=1) (u:=.I ((p0:Int)+((A++[(⟨14,(q:Int)⟩:Ins)]++B++[(⟨13,0⟩:Ins)]++D).length:Int))) (y':=⟨13,((q+D.length:Nat):Int)⟩) rfl rfl rfl rfl rfl hr bI (by decide) (by rw [ot,<- hq2];rfl)) ?_;have lz:(A++[(⟨14,(q:Int)⟩:Ins)]++B++[(⟨13,0⟩:Ins)]++D).set (A.length+1+B.length) ⟨13,((q+D.length:Nat):Int)⟩=A++[(⟨14,(q:Int)⟩:Ins)]++B++[(⟨13,((q+D.length:Nat):Int)⟩:Ins)]++D:=by
  rw [cC,List.set_append_right _ _ (by omega),e2'];simp
 rw [lz];clear hr au;rintro _ wg ⟨hr,-⟩;refine W ?_;refine WR ?_;exact .mk (hr.pre hS)
theorem Zar (z:Int):Z58 (.mk 2 z [] []) (λ_=>[⟨2,z⟩]):=by
 intro w nv p z0 hz hx hl;have hN:=hx;obtain ⟨kv,rfl,hs⟩:=hx;refine cW2 107 Tryz.func101 ?_;refine W ?_;refine Z0 (Zn rfl) rfl ?_;rintro _ w1 ⟨b,rfl,hb,ab,hS⟩;replace ab:Blk w1 b _ (ndC (.mk 2 z [] []) kv):=ab;replace hs:=hs.up hS;replace hN:=hN.up hS;have fw:(Nd.mk 2 z [] []).kids.length=0:=rfl;refine QO ?_;refine Z0 (Z3 rfl (ZO rfl) (Z8e _ (.mk 2 z [] []) _ hN)) rfl ?_;rintro _ w2 ⟨rfl,ak⟩;refine Z0 (Z1 (vs:=[(0,agg (Ins.mk 2 z))]) rfl (Z3A _)) rfl ?_;rintro u w3 lA;have hr:RwI w2 w3 u [Ins.mk 2 z]:=ZE.one lA rfl rfl (by simp [maxLen]);refine W ?_;refine WR ?_;exact .mk (hr.pre (hS.trans ak))
theorem Z9d {x:Nd} (cs:List Cf) (p:Nat) (aX:¬ cs.length=0) (h9:¬ x.kind=9) (ha:¬ (x.kind=6/\x.word=[97,110,100])) (ho:¬ (x.kind=6/\x.word=[111,114])):Z1x x.kind x.num x.word cs p=Jm cs p++Z3P (Z35 x.kind x.word):=by
 unfold Z1x Z35 Z1w;rw [if_neg aX,if_neg h9,if_neg ha,if_neg ho];by_cases hm:x.kind=6/\x.word=[45]
 rw [if_pos hm,if_pos hm,hm.1,hm.2];simp [Z3P];rw [if_neg hm,if_neg hm];by_cases h8:x.kind=8\/x.kind=5/\x.word=[45]
 rw [if_pos h8,if_pos h8];simp [Z3P];rw [if_neg h8,if_neg h8];simp [Z3P]
theorem Zli (x:Nd):Zg x≠0->Z58 x (Ze x):=by
 induction x using Nd.ind with
 | h k n s l ih=>
 intro m5;have sY:=(Z6H m5).2;have aV:∀ i (h:i<(Nd.mk k n s l).kids.length),Z58 (Nd.mk k n s l).kids[i] (Ze (Nd.mk k n s l).kids[i]):=by
  intro i h;exact ih _ (Xc h) (sY _ (Xc h))
 have dL:=Zap m5;have m6:=Z6J (.mk k n s l);have sZ:=Zcm (x:=.mk k n s l);have jH:=λi=>Zcn (x:=.mk k n s l) (i:=i);generalize (Nd.mk k n s l)=x at *;clear ih;intro w nv p z0 hz hx hl;subst hz;have hN:=hx;obtain ⟨kv,rfl,hs⟩:=hx;have aW:=hs.max;refine cW2 107 Tryz.func101 ?_;refine W ?_;refine Z0 (Zn rfl) rfl ?_;rintro _ wA ⟨b,rfl,hb,ab,hS⟩;replace ab:Blk wA b _ (ndC x kv):=ab;replace hs:=hs.up hS;replace hN:=hN.up hS;by_cases h0:x.kids=[]
 have fw:x.kids.length=0:=by rw [h0];rfl
 rw [sZ h0];refine QO ?_;refine Z0 (Z3 rfl (ZO rfl) (Z8e _ x _ hN)) rfl ?_;rintro _ w2 ⟨rfl,ak⟩;refine Z0 (Z1 (vs:=[(0,agg (Z1e x.kind x.num x.word))]) rfl (Z3A _)) rfl ?_;rintro u w3 lA;have hr:RwI w2 w3 u [Z1e x.kind x.num x.word]:=ZE.one lA rfl rfl (by simp [maxLen]);refine W ?_;refine WR ?_;exact .mk (hr.pre (hS.trans ak));have jc:¬ x.kids.length=0:=λh=>h0 (Yau h);have cn:¬ (x.kids.map Ze).length=0:=by simpa using h0
 replace dL:=(dL h0).2;have qQ:x.kind=6->x.kids.length=2:=λh6=>by
  rcases dL with ⟨h,_,_⟩|⟨h,_,hm⟩|⟨h,_,_⟩|⟨h,_⟩|⟨h,_,_⟩<;>omega
 have s6:x.kind=9->x.kids.length=3:=λh6=>by
  rcases dL with ⟨h,_,_⟩|⟨h,_,hm⟩|⟨h,_,_⟩|⟨h,hm⟩|⟨h,_,_⟩<;>omega
 by_cases h9:x.kind=9;have h3:=s6 h9;have h0:0<x.kids.length:=by omega
 have h1:1<x.kids.length:=by omega
 have h2:2<x.kids.length:=by omega
 have e9:Ze x=chC (Ze x.kids[0]) (Ze x.kids[1]) (Ze x.kids[2]):=by
  funext p;rw [m6,Z1x,if_neg cn,if_pos h9,jH 0 h0,jH 1 h1,jH 2 h2]
 rw [e9] at hl ⊢;refine QO ?_;refine ZDr 15 [] [] [(0,0),(1,1),(2,0),(3,1),(4,0),(5,1),(6,0),(7,1),(8,0),(9,1),(10,0),(11,1),(12,0),(13,2),(14,0)] (λw1 ae=>?_);replace hs:=hs.up ae;replace ab:=ab.up ae;replace hS:=hS.trans ae;obtain ⟨u0,s0,d0⟩:=hs.nd h0;obtain ⟨u1,s1,d1⟩:=hs.nd h1;obtain ⟨u2,s2,d2⟩:=hs.nd h2;refine D ?_;refine WD_read rfl trivial (λw' aL=>Jv rfl rfl (hs.on aL (λ_ h=>h)) h0 (λj u hj=>Z1P hs h0 aL (d0 j u hj))) rfl ?_;refine D ?_;refine WD_read rfl trivial (λw' aL=>Jv rfl rfl (hs.on aL (λ_ h=>h)) h1 (λj u hj=>Z1P hs h1 aL (d1 j u hj))) rfl ?_;refine D ?_;refine WD_read rfl trivial (λw' aL=>Jv rfl rfl (hs.on aL (λ_ h=>h)) h2 (λj u hj=>Z1P hs h2 aL (d2 j u hj))) rfl ?_;refine D ?_;refine DC (Z36 (aV 0 h0) (aV 1 h1) (aV 2 h2) _ _ _ _ p _ rfl ⟨u0,rfl,s0⟩ ⟨u1,rfl,s1⟩ ⟨u2,rfl,s2⟩ hl) (λ_ _ h=>h.2) ?_;rintro _ w5 hq;refine D ?_;refine W ?_;refine WR ?_;exact .mk (hq.pre hS);by_cases ha:x.kind=6/\x.word=[97,110,100]
 . obtain ⟨h6,hw⟩:=ha
   have h2:=qQ h6;have h0:0<x.kids.length:=by omega
   have h1:1<x.kids.length:=by omega
   have e9:Ze x=chC (Ze x.kids[0]) (Ze x.kids[1]) (λ_=>[⟨2,0⟩]):=by
    funext p;rw [m6,Z1x,if_neg cn,if_neg h9,if_pos ⟨h6,hw⟩,jH 0 h0,jH 1 h1]
   rw [e9] at hl ⊢;repeat'(first|refine W1 ?_|omega|refine VG ?_ ?_<;>intro hg|refine VC ?_ ?_<;>intro hc)
   all_goals first
    | (exfalso;contradiction)
    | skip
   refine ZDr 12 [] [] [(0,0),(1,1),(2,0),(3,1),(4,0),(5,1),(6,0),(7,1),(8,0),(9,0),(10,2),(11,0)] (λw1 ae=>?_);replace hs:=hs.up ae;replace ab:=ab.up ae;replace hS:=hS.trans ae;obtain ⟨u0,s0,d0⟩:=hs.nd h0;obtain ⟨u1,s1,d1⟩:=hs.nd h1;refine D ?_;refine WD_read rfl trivial (λw' aL=>Jv rfl rfl (hs.on aL (λ_ h=>h)) h0 (λj u hj=>Z1P hs h0 aL (d0 j u hj))) rfl ?_;refine D ?_;refine WD_read rfl trivial (λw' aL=>Jv rfl rfl (hs.on aL (λ_ h=>h)) h1 (λj u hj=>Z1P hs h1 aL (d1 j u hj))) rfl ?_;refine D ?_;apply Z1d;exact rfl;apply Z26 (vs:=[(0,.I 2)]);exact trivial;exact rfl;exact ZhF;exact rfl;refine D ?_;refine DC (Z36 (aV 0 h0) (aV 1 h1) (Zar 0) _ _ _ _ p _ rfl ⟨u0,rfl,s0⟩ ⟨u1,rfl,s1⟩ ⟨_,rfl,Zi _ _⟩ hl) (λ_ _ h=>h.2) ?_;rintro _ w5 hq;refine D ?_;refine W ?_;refine WR ?_;exact .mk (hq.pre hS)
 by_cases ho:x.kind=6/\x.word=[111,114]
 . obtain ⟨h6,hw⟩:=ho
   have h2:=qQ h6;have wI:¬ x.word=[97,110,100]:=λh=>ha ⟨h6,h⟩;have h0:0<x.kids.length:=by omega
   have h1:1<x.kids.length:=by omega
   have e9:Ze x=chC (Ze x.kids[0]) (λ_=>[⟨2,1⟩]) (Ze x.kids[1]):=by
    funext p;rw [m6,Z1x,if_neg cn,if_neg h9,if_neg ha,if_pos ⟨h6,hw⟩,jH 0 h0,jH 1 h1]
   rw [e9] at hl ⊢;repeat'(first|refine W1 ?_|omega|refine VG ?_ ?_<;>intro hg|refine VC ?_ ?_<;>intro hc)
   all_goals first
    | (exfalso;contradiction)
    | skip
   refine ZDr 12 [] [] [(0,0),(1,1),(2,0),(3,1),(4,0),(5,0),(6,1),(7,0),(8,1),(9,0),(10,2),(11,0)] (λw1 ae=>?_);replace hs:=hs.up ae;replace ab:=ab.up ae;replace hS:=hS.trans ae;obtain ⟨u0,s0,d0⟩:=hs.nd h0;obtain ⟨u1,s1,d1⟩:=hs.nd h1;refine D ?_;refine WD_read rfl trivial (λw' aL=>Jv rfl rfl (hs.on aL (λ_ h=>h)) h0 (λj u hj=>Z1P hs h0 aL (d0 j u hj))) rfl ?_;refine D ?_;apply Z1d;exact rfl;apply Z26 (vs:=[(0,.I 2),(1,.I 1)]);exact trivial;exact rfl;exact ZhG;exact rfl;refine D ?_;refine WD_read rfl trivial (λw' aL=>Jv rfl rfl (hs.on aL (λ_ h=>h)) h1 (λj u hj=>Z1P hs h1 aL (d1 j u hj))) rfl ?_;refine D ?_;refine DC (Z36 (aV 0 h0) (Zar 1) (aV 1 h1) _ _ _ _ p _ rfl ⟨u0,rfl,s0⟩ ⟨_,rfl,Zi _ _⟩ ⟨u1,rfl,s1⟩ hl) (λ_ _ h=>h.2) ?_;rintro _ w5 hq;refine D ?_;refine W ?_;refine WR ?_;exact .mk (hq.pre hS)
 have s7:=Z9d (x:=x) _ p cn h9 ha ho;rw [m6,s7] at hl ⊢;have bC:(x.kids.map Ze).length=x.kids.length:=by simp
 generalize hO:Z35 x.kind x.word=O at *;rw [Xb,Zaq] at hl;have main:∀ r w',RwI wA w' r (Jm (x.kids.map Ze) p++Z3P O)->RwI w w' r (Jm (x.kids.map Ze) p++Z3P O):=λr w' h=>h.pre hS;repeat'(first|refine W1 ?_|omega|refine VG ?_ ?_<;>intro hg|refine VC ?_ ?_<;>intro hc)
 all_goals first
  | (exfalso;first|exact ha ⟨by assumption,by assumption⟩|exact ho ⟨by assumption,by assumption⟩)
  | skip
 all_goals
  refine LP (σ:=Nat×Value) (λq=>[(1,.I (p:Int)),(2,pQ b),(5,q.2),(6,.I (q.1:Int))]) (λq w'=>q.1<=x.kids.length/\RwI wA w' q.2 (Jm ((x.kids.map Ze).take q.1) p)) (λq=>x.kids.length - q.1) (0,.N) ⟨Xu _,by simpa [Jm] using ZE.nil⟩ ?_;rintro ⟨j,v⟩ w2 ⟨hj,hr⟩;dsimp only at hj hr ⊢;have au:=hr.slv (X:=[]) (by simp);have aO:=hs.up hr.2;have cJ:=ab.up hr.2;by_cases hlt:j<x.kids.length;obtain ⟨kv2,cB,bT⟩:=aO.nd hlt;have ar:=ZeN (x.kids.map Ze) p j (by omega);have cK:=ZdW (x.kids.map Ze) p (j+1);have s8:=ZdW (x.kids.map Ze) p j;rw [ar,Xb] at cK;rw [List.getElem_map] at cK ar;refine QO ?_;apply Za (Jv rfl rfl aO hlt bT) rfl;refine W ?_;generalize hA:Jm ((x.kids.map Ze).take j) p=A at *;refine Z0 (Z3 rfl (Zh rfl rfl) (aV j hlt _ _ (p+A.length) _ (by omega) ⟨kv2,rfl,cB⟩ (by omega))) rfl ?_;rintro u w3 hu;have dt:=hu.slv (X:=ob v) (λb hb=>(hr.ob_le b hb).2);replace hr:=hr.up hu.2;clear hu;refine Z0 (Z01 rfl (by decide) rfl rfl hr dt (by omega) (by simp only [maxLen];omega)) rfl ?_;rintro v' w4 ⟨bB,-,-⟩;refine W ?_;refine QL (j+1,v') ⟨by dsimp only;omega,?_⟩ (by dsimp only;omega);dsimp only;rw [ar];exact bB;have eQ:j=(x.kids.map Ze).length:=by omega
  subst eQ;rw [Xs] at hr au;generalize Jm (x.kids.map Ze) p=A at *;refine QO ?_;refine Z0 (Z3 rfl (ZO rfl) (Zco (ob v) _ x _ (λb hb=>(hr.ob_le b hb).2) dL h9 ha ho ⟨kv,rfl,aO⟩)) rfl ?_;rintro ov w3 ⟨cZ,hT⟩;rw [hO] at cZ;replace hr:=hr.up hT;clear au aO cJ;have wJ:=cZ.max;refine W ?_;refine LP (σ:=Nat×Value) (λq=>[(5,q.2),(7,ov),(8,.I (q.1:Int))]) (λq w'=>q.1<=O.length/\RwI wA w' q.2 (A++Z3P (O.take q.1))/\SlV (ob q.2) w' ov O) (λq=>O.length - q.1) (0,v) ⟨Xu _,by simpa [Z3P] using hr,cZ⟩ ?_;clear hr cZ hT;rintro ⟨i,v5⟩ w5 ⟨hi,hr,cZ⟩;dsimp only at hi hr cZ ⊢;by_cases hlt:i<O.length;have eU:(A++Z3P (O.take i)).length=A.length+i:=by simp [Z3P];omega
  refine QO ?_;apply Zc (vs:=[(0,.I _)]) rfl (Z6m _) rfl;refine Z0 (Z1 (vs:=[(0,agg (Ins.mk O[i] 0))]) rfl (Z3A _)) rfl ?_;rintro u w6 lB;have hu:SlV (ob v5) w6 u [Ins.mk O[i] 0]:=lB.slv (λb hb=>(hr.ob_le b hb).2) rfl rfl (by simp [maxLen]);have hT:=Z6.stp lB;clear lB;replace hr:=hr.up hT;replace cZ:=cZ.up hT;refine Z0 (Z01 rfl (by decide) rfl rfl hr hu (by rw [eU];simp only [Xf,Xh];omega) (by rw [eU];simp only [Xf,Xh,maxLen];omega)) rfl ?_;rintro v7 w7 ⟨bB,aQ,aN⟩;refine W ?_;refine QL (i+1,v7) ⟨by dsimp only;omega,?_,cZ.ext aQ (λ_ h=>h) aN⟩ (by dsimp only;omega);dsimp only;rw [Xj hlt];unfold Z3P at bB ⊢;rw [XH,<- XI];exact bB;have kJ:i=O.length:=by omega
  subst kJ;rw [Xs] at hr;refine QO ?_;refine WR ?_;exact .mk (main _ _ hr)
theorem Z2O (v:Value) (x:Nd) (w) (br:ZU x<=1000) (cp:Zz x<=1000000) (hx:NdV [] w v x) :
 Calls Tryz.prog 64 #[v] w (Ret (Zur w x)):=by
 have hN:=hx;obtain ⟨kv,rfl,hs⟩:=hx;refine cW1 24 Tryz.func64 ?_;refine W ?_;refine Z0 (Zn rfl) rfl ?_;rintro _ w1 ⟨b,rfl,hb,ab,hS⟩;replace ab:Blk w1 b _ (ndC x kv):=ab;replace hs:=hs.up hS;replace hN:=hN.up hS;refine W ?_;refine CL (Z6G [] _ x _ (Z34 x br) cp hN) ?_;rintro _ w2 ⟨rfl,ak⟩;replace hs:=hs.up ak;replace hN:=hN.up ak;replace ab:=ab.up ak;replace hS:=hS.trans ak;by_cases hn:Zz x<=12
 case neg=>
  rw [if_neg hn,if_neg hn];have he:Z29 x=2:=by rw [Z29,if_neg hn]
  refine QO ?_;refine WR ?_;refine .mk ⟨_,by rw [he];rfl,λX hX=>?_,hS⟩;rw [he,if_neg (by decide)];exact Zi _ _
 by_cases ht:Zg x=0;rw [if_pos hn,if_pos hn,if_pos ht];have he:Z29 x=21:=by rw [Z29,if_pos hn,if_pos ht]
 refine QO ?_;refine WR ?_;refine .mk ⟨_,by rw [he];rfl,λX hX=>?_,hS⟩;rw [he,if_neg (by decide)];exact Zi _ _;rw [if_pos hn,if_pos hn,if_neg ht];have ai:=ZeO x 0;refine QO ?_;refine CM (Zh rfl rfl) (Zli x ht _ _ 0 0 rfl hN (by omega)) ?_;rintro v3 w3 hr;apply Zc (vs:=[(0,.I 24)]) rfl (Z6m _) rfl;refine Z0 (Z1 (vs:=[(0,agg (Ins.mk 24 0))]) rfl (Z3A _)) rfl ?_;rintro u w4 ou;have hu:SlV (ob v3) w4 u [Ins.mk 24 0]:=ou.slv (λb hb=>(hr.ob_le b hb).2) rfl rfl (by simp [maxLen]);have hT:=Z6.stp ou;clear ou;replace hr:=hr.up hT;refine Z0 (Z01 rfl (by decide) rfl rfl hr hu (by simp only [Xf,Xh];omega) (by simp only [Xf,Xh,maxLen];omega)) rfl ?_;clear hu hr hT;rintro v5 w5 ⟨hr,-,-⟩;replace hr:=hr.pre hS;replace hr:RwI w w5 v5 (JA x):=hr;have s9:=hr.slv (X:=[]) (by simp);by_cases hg:(JA x).length > 200;have he:Z29 x=2:=by rw [Z29,if_pos hn,if_neg ht,if_pos hg]
 refine QO ?_;refine WR ?_;refine .mk ⟨_,by rw [he],λX hX=>?_,hr.2⟩;rw [he,if_neg (by decide)];exact Zi _ _;have he:Z29 x=0:=by rw [Z29,if_pos hn,if_neg ht,if_neg hg]
 refine QO ?_;refine WR ?_;refine .mk ⟨_,by rw [he],λX hX=>?_,hr.2⟩;rw [he,if_pos rfl];exact hr.slv hX
end Go.Proofs.YteibicnbkggiiaaGreatDoor
namespace Go.Eng
open Go Go.RowKit Go.Proofs
theorem Z6.slvG {α:Type} [Z5 α] {w w':World} {X:List Nat} {T len:Nat} {cs:List Value} {v:Value} {ys:List α} {css:List (List Value)} (h:Z6 w T len cs v w') (hX:∀ b∈X,b<w.heap.size) (hl:len=ys.length) (cn:css.length=ys.length)
 (hc:cs=css.flatten) (hr:∀ i (hi:i<ys.length) (be:i<css.length),Z5.rep X w ys[i] css[i]) (hm:ys.length<=maxLen):SlV X w' v ys:=by
 obtain ⟨b,rfl,hb,ab,hS⟩:=h;subst hl;subst hc;have hk:∀ c∈css,c.length=Z5.k α:=by
  intro c hc;obtain ⟨i,hi,rfl⟩:=Xv hc;exact Z5.len (hr i (by omega) hi)
 refine ⟨some ⟨b,0,none⟩,ys.length,rfl,Xq _,hm,λh=>by simp at h,λi hi=>⟨b,0,css[i]'(by omega),rfl,ab.lt,λhx=>by have:=hX b hx;omega,Z5.ext (hr i hi (by omega)) hS (by simp) (λb hb=>.inl hb),λj u hu=>?_⟩⟩;refine ab.cell ?_;have:=Z05 css hk i (by omega) j u hu;rw [XK];exact this
theorem SlV.wk {α:Type} [Z5 α] {X X':List Nat} {w} {v:Value} {l:List α} (h:SlV X w v l) (hs:∀ b∈X',b∈X):SlV X' w v l:=h.ext (Stp.refl [] w) (by simp) (λb hb=>.inl (hs b hb))
end Go.Eng
namespace Go.Proofs.YteibicnbkggiiaaGreatDoor
open Go Go.Eng Go.RowKit
theorem Z1j (x:Nd):Zz x<=ZU x:=by
 induction x using Nd.ind with
 | h k n s l ih=>
 rw [Z0k,Z0z];show 1+(l.map Zz).foldl max 0<=1+(l.map ZU).sum;have:∀ (l:List Nd) (a:Nat),(∀ x∈l,Zz x<=ZU x)->(l.map Zz).foldl max a<=a+(l.map ZU).sum:=by
  intro l
  induction l with
  | nil=>intro a _;simp
  | cons y r ihr=>
    intro a h;simp only [XD,Yag,List.sum_cons];have h1:=ihr (max a (Zz y)) (λx hx=>h x (by simp [hx]));have h2:=h y (by simp);omega
 have:=this l 0 ih;omega
theorem ZhP (k n:Int) (s:Str) (p:Option Addr) (l c:Nat) (w):(Instr.buildSlice 80 1 #[(0,.agg #[.I k,.I n,str s,.slice p l c])]).run Tryz.prog w=.ok (.slice (some ⟨w.heap.size,0,none⟩) 1 1) (w.alloc (.cells #[.I k,.I n,str s,.slice p l c] 82)):=by kernel_rfl
theorem J4 (z:Int) (m:Int) (w) (hm:0<m) (hz:I64 z):CC 12 #[.I z,.I m] w λr w'=>r=.I ((if z<0 then -(z+1) else z) % m)/\Stp [] w w':=by
 unfold I64 at hz;refine cW2 13 Tryz.func12 ?_;by_cases h:z<0;refine RT ?_;exact ⟨by rw [if_pos h],Stp.refl _ _⟩;refine RT ?_;exact ⟨by rw [if_neg h],Stp.refl _ _⟩
theorem ZT (z m:Int) (hm:0<m):0<=z % m/\z % m<m:=⟨Ybm _ (by omega),Ya6 _ hm⟩
theorem ZN (X:List Nat) (v:Value) (l:List Int) (i m:Int) (w) (hm:0<m) (hi:I64 i) (hs:SlV X w v l) (hl:∀ a∈l,I64 a):CC 20 #[v,.I i,.I m] w λr w'=>∃ q:Nat,r=.I (q:Int)/\(q:Int)<m/\Stp [] w w':=by
 unfold I64 at hi;have aW:=hs.max;refine cW3 21 Tryz.func20 ?_;refine W ?_;by_cases iy:0<=i/\i<l.length;obtain ⟨h0,h1⟩:=iy;obtain ⟨k,rfl⟩:∃ k:Nat,i=(k:Int):=⟨i.toNat,by omega⟩
 have hk:k<l.length:=by omega
 refine QO ?_;refine CL (J4 _ m _ hm (hl _ (Xc hk))) ?_;rintro _ w2 ⟨rfl,hS⟩;refine W ?_;refine WR ?_;have:=ZT (if l[k]<0 then -(l[k]+1) else l[k]) m hm;exact .mk ⟨_,by rw [X7 this.1],by rw [X7 this.1];exact this.2,hS⟩
 . repeat'(first|refine W1 ?_|omega|refine VG ?_ ?_<;>intro hg|refine VC ?_ ?_<;>intro hc)
   all_goals first
    | (refine RU ?_
       exact ⟨0,rfl,by simpa using hm,Stp.refl _ _⟩)
theorem ZeP (k:Int) (s:Str) (p:Option Addr) (l c:Nat) (w):(Instr.build 82 #[(0,.I k),(2,str s),(3,.slice p l c)]).run Tryz.prog w=.ok (.agg #[.I k,.I 0,str s,.slice p l c]) w:=by kernel_rfl
def szD:Nat->Nat
 | 0=>0
 | d+1=>1+3 * szD d
theorem Zcp {d:Nat} (h:1<=d):szD d=1+3 * szD (d - 1):=by
 cases d with
 | zero=>omega
 | succ d=>rfl
theorem Zus {X:List Nat} {w} {y0:Nd} {k0:Value} (s0:SlV X w k0 y0.kids):∀ i (hi:i < [y0].length) (be:i < [ndC y0 k0].length),Z5.rep X w [y0][i] [ndC y0 k0][i]
 | 0,_,_=>(show Z3O X w y0 (ndC y0 k0) by rw [y0.eta];exact Z27 s0)
theorem Zut {X:List Nat} {w} {y0 y1:Nd} {k0 k1:Value} (s0:SlV X w k0 y0.kids) (s1:SlV X w k1 y1.kids):∀ i (hi:i < [y0,y1].length) (be:i < [ndC y0 k0,ndC y1 k1].length),Z5.rep X w [y0,y1][i] [ndC y0 k0,ndC y1 k1][i]
 | 0,_,_=>(show Z3O X w y0 (ndC y0 k0) by rw [y0.eta];exact Z27 s0)
 | 1,_,_=>(show Z3O X w y1 (ndC y1 k1) by rw [y1.eta];exact Z27 s1)
theorem Zuu {X:List Nat} {w} {y0 y1 y2:Nd} {k0 k1 k2:Value} (s0:SlV X w k0 y0.kids) (s1:SlV X w k1 y1.kids) (s2:SlV X w k2 y2.kids):∀ i (hi:i < [y0,y1,y2].length) (be:i < [ndC y0 k0,ndC y1 k1,ndC y2 k2].length),Z5.rep X w [y0,y1,y2][i] [ndC y0 k0,ndC y1 k1,ndC y2 k2][i]
 | 0,_,_=>(show Z3O X w y0 (ndC y0 k0) by rw [y0.eta];exact Z27 s0)
 | 1,_,_=>(show Z3O X w y1 (ndC y1 k1) by rw [y1.eta];exact Z27 s1)
 | 2,_,_=>(show Z3O X w y2 (ndC y2 k2) by rw [y2.eta];exact Z27 s2)
theorem Z37 (k n:Int) (w):(Instr.build 82 #[(0,.I k),(1,.I n)]).run Tryz.prog w=.ok (.agg #[.I k,.I n,str [],.N]) w:=by kernel_rfl
theorem ZhQ (k n:Int) (s:Str) (p:Option Addr) (l c:Nat) (k' n':Int) (s':Str) (p':Option Addr) (l' c':Nat) (w):(Instr.buildSlice 80 2 #[(0,.agg #[.I k,.I n,str s,.slice p l c]),(1,.agg #[.I k',.I n',str s',.slice p' l' c'])]).run Tryz.prog w=.ok (.slice (some ⟨w.heap.size,0,none⟩) 2 2) (w.alloc (.cells #[.I k,.I n,str s,.slice p l c,.I k',.I n',str s',.slice p' l' c'] 82)):=by kernel_rfl
theorem ZhR (k n:Int) (s:Str) (p:Option Addr) (l c:Nat) (k' n':Int) (s':Str) (p':Option Addr) (l' c':Nat) (k'' n'':Int) (s'':Str) (p'':Option Addr) (l'' c'':Nat) (w):(Instr.buildSlice 80 3 #[(0,.agg #[.I k,.I n,str s,.slice p l c]),(1,.agg #[.I k',.I n',str s',.slice p' l' c']),(2,.agg #[.I k'',.I n'',str s'',.slice p'' l'' c''])]).run Tryz.prog w=.ok (.slice (some ⟨w.heap.size,0,none⟩) 3 3) (w.alloc (.cells #[.I k,.I n,str s,.slice p l c,.I k',.I n',str s',.slice p' l' c',.I k'',.I n'',str s'',.slice p'' l'' c''] 82)):=by kernel_rfl
theorem Zuv (k n:Int) (s:Str) (y0:Nd):ZU (.mk k n s [y0])=1+ZU y0:=by rw [Z0z];simp [Nd.kids]
theorem Zuw (k n:Int) (s:Str) (y0 y1:Nd):ZU (.mk k n s [y0,y1])=1+ZU y0+ZU y1:=by rw [Z0z];simp [Nd.kids];omega
theorem Zux (k n:Int) (s:Str) (y0 y1 y2:Nd):ZU (.mk k n s [y0,y1,y2])=1+ZU y0+ZU y1+ZU y2:=by rw [Z0z];simp [Nd.kids];omega
theorem Zuy (k n:Int) (s:Str):ZU (.mk k n s [])=1:=by rw [Z0z];simp [Nd.kids]
def ZhS:List Str:=[[101,120,116,114,97],[98,121],[116,111],[99,111,117,114,116],[97,109,111,117,110,116]]
def Zas:List Str:=[[100,97,121],[115,101,114,118,101,100]]
inductive Gn:Int->Nat->Nd->Prop
 | num (d:Nat) (n:Int) (h:0<=n/\n<25):Gn 1 d (.mk 1 n [] [])
 | fldN (d:Nat) (s:Str) (h:s∈ZhS):Gn 1 d (.mk 4 0 s [])
 | fldD (d:Nat) (s:Str) (h:s∈Zas):Gn 3 d (.mk 4 0 s [])
 | day (d:Nat) (n:Int) (h:739616<=n/\n<739676):Gn 3 d (.mk 3 n [] [])
 | bool (d:Nat) (n:Int) (h:n=0\/n=1):Gn 2 d (.mk 2 n [] [])
 | neg (d:Nat) (a:Nd):Gn 1 d a->Gn 1 (d+1) (.mk 5 0 [45] [a])
 | not (d:Nat) (a:Nd):Gn 2 d a->Gn 2 (d+1) (.mk 5 0 [110,111,116] [a])
 | btw (d:Nat) (a b:Nd):Gn 3 d a->Gn 3 d b->Gn 1 (d+1) (.mk 10 0 [98,101,116,119,101,101,110] [a,b])
 | cond (d:Nat) (t:Int) (c a b:Nd) (h:t=1\/t=3):Gn 2 d c->Gn t d a->Gn t d b->Gn t (d+1) (.mk 9 0 [] [c,a,b])
 | arith (d:Nat) (s:Str) (a b:Nd) (h:s∈Z0n):Gn 1 d a->Gn 1 d b->Gn 1 (d+1) (.mk 6 0 s [a,b])
 | adj (d:Nat) (s:Str) (a:Nd) (h:s∈Z22):Gn 3 d a->Gn 3 (d+1) (.mk 10 0 s [a])
 | two (d:Nat) (s:Str) (a b:Nd) (h:s∈Z23):Gn 3 d a->Gn 3 d b->Gn 3 (d+1) (.mk 10 0 s [a,b])
 | move (d:Nat) (k:Int) (s:Str) (a b:Nd) (hk:k=7\/k=8) (h:s∈ZQ):Gn 3 d a->Gn 1 d b->Gn 3 (d+1) (.mk k 0 s [a,b])
 | logic (d:Nat) (s:Str) (a b:Nd) (h:s∈Z0j):Gn 2 d a->Gn 2 d b->Gn 2 (d+1) (.mk 6 0 s [a,b])
 | cmp (d:Nat) (t:Int) (s:Str) (a b:Nd) (ht:t=1\/t=3) (h:s∈Z1K):Gn t d a->Gn t d b->Gn 2 (d+1) (.mk 6 0 s [a,b])
theorem Z0Q (d:Nat):1<=szD (d+1):=by show 1<=1+3 * szD d;omega
theorem Gn.size {t:Int} {d:Nat} {x:Nd} (h:Gn t d x):ZU x<=szD (d+1):=by
 induction h with
 | num d|fldN d|fldD d|day d|bool d=>rw [Zuy];exact Z0Q d
 | neg d|not d|adj d=>rw [Zuv,Zcp (by omega)];simp only [YbK];omega
 | btw d|arith d|two d|move d|logic d|cmp d=>rw [Zuw,Zcp (by omega)];simp only [YbK];omega
 | cond d=>rw [Zux,Zcp (by omega)];simp only [YbK];omega
end Go.Proofs.YteibicnbkggiiaaGreatDoor
namespace Go.Eng
open Go Go.RowKit Go.Proofs
structure WT (P:Program) (n:Nat) (ops:Array Oper) (S:List Nat) (Lt:List Nat) (Q:Exit->Act->World->Prop) (listed:Array Bool) (fuel:Nat) (e:Env) (w:World):Prop where
 h:∀ a,Has n e a->Z45 P .any ops S (λj=>Lt.contains j) (λa w=>Q .normal a w) fuel listed a w
structure WT1 (P:Program) (n:Nat) (ops:Array Oper) (S:List Nat) (Lt:List Nat) (Q:Exit->Act->World->Prop) (i:Nat) (listed:Array Bool) (fuel:Nat) (e:Env) (w:World):Prop where
 h:∀ a,Has n e a->wpOp P ops (λ_ _ _=>False) i (λa' w'=>(Stp S w w'\/Lt.contains i=true)/\Z45 P .any ops S (λj=>Lt.contains j) (λa w=>Q .normal a w) fuel (listed.setIfInBounds i true) a' w') a w
section rules
variable {P:Program} {n:Nat} {Q:Exit->Act->World->Prop} {e:Env} {w:World} {ops:Array Oper} {S:List Nat} {Lt:List Nat} {listed:Array Bool} {fuel:Nat}
theorem Z3B {id:Nat} {l:List Oper} (m:Nat) (S:List Nat) (Lt:List Nat) (bP:l.length=m) (hm:P.follows .mixedOrders=true)
 (h:∀ w',Stp [] w w'->WT P n l.toArray S Lt Q (Array.replicate m false) m e w'):WC P n (.region id l.toArray true) Q e w:=by
 subst bP;refine ⟨λa ha=>wp_region_any hm ?_⟩;have h1:=(h { w with drawn:=w.drawn+1 } (Stp.drew [] w)).h a ha;have h2:=JS (Q:=Q) (λa w hz=>hz) _ _ _ _ h1;simpa using h2
theorem Z3Q (ord:List (Nat×Nat)) (hs:Region.noSelect ops=true) (hB:ZX ops Lt ord listed=true) (hl:Nat.beq (wt ord) fuel=true) (h:WD P n ops S Lt Q ord e w):WT P n ops S Lt Q listed fuel e w:=by
 have:=Xp hl;subst this;exact ⟨λa ha=>h.h _ hs hB a ha⟩
theorem Z18 (i q:Nat) (hr:(Region.ready .any ops listed == [i,q])=true) (h1:WT1 P n ops S Lt Q i listed fuel e w) (h2:WT1 P n ops S Lt Q q listed fuel e w):WT P n ops S Lt Q listed (fuel+1) e w:=by
 have hr:=beq_iff_eq.1 hr;refine ⟨λa ha=>⟨λh0=>absurd (hr ▸ h0) (by simp),λj hj=>?_⟩⟩;rw [hr] at hj;have eB:j=i\/j=q:=by simpa using hj
 rcases eB with rfl|rfl
 exact h1.h a ha;exact h2.h a ha
variable {i d:Nat} {op:Op} {ty:TypeId} {pos:String} {af:Array Edge} {gd:Option (Nat×Bool)} {v:Value}
theorem Zr6 {o:Oper} {dst:Option Nat} {G:Value->World->Prop} (hi:ops[i]?=some o) (eO:o.dst=dst) (hg:JV ops e o.guard) (hp:OE P n o e w (λv w'=>(Stp S w w'\/Lt.contains i=true)/\G v w'))
 (k:∀ v w' a',G v w'->∀ a,Has n e a->a'=a.put dst v->∃ e',Has n e' a'/\WT P n ops S Lt Q (listed.setIfInBounds i true) fuel e' w'):WT1 P n ops S Lt Q i listed fuel e w:=by
 refine ⟨λa ha=>?_⟩;unfold wpOp;simp only [hi];rw [if_pos (Jb ha hg)];refine .inl (Oper.wp_mono ?_ (hp.h a ha _));rintro a' w' ⟨v,rfl,cu,hG⟩;obtain ⟨e',gt,hk⟩:=k v w' (a.put o.dst v) hG a ha (by rw [eO]);exact ⟨cu,hk.h _ gt⟩
theorem ZW {G:Value->World->Prop} (hi:ops[i]?=some ⟨some d,op,ty,pos,af,gd⟩) (hg:JV ops e gd) (hp:OE P n ⟨some d,op,ty,pos,af,gd⟩ e w G) (hG:∀ v w',G v w'->Stp S w w') (aw:Nat.blt d n=true)
 (k:∀ v w',G v w'->WT P n ops S Lt Q (listed.setIfInBounds i true) fuel ((d,v) :: e) w'):WT1 P n ops S Lt Q i listed fuel e w:=
 Zr6 (G:=G) hi rfl hg (hp.mono λv w' h=>⟨.inl (hG v w' h),h⟩) (λv w' a' h a ha e=>⟨_,by rw [e];exact ha.put aw,k v w' h⟩)
theorem ZhT (i:Nat) {o:Oper} (hi:ops[i]?=some o) (hd:o.dst=some d) (hY:∀ a,Has n e a->YE P ops (λ_ _=>True) o v a w) (aw:Nat.blt d n=true) (hs:Region.noSelect ops=true)
 (hB:((Region.ready .any ops listed).contains i && Region.free .any ops listed i)=true)
 (k:WT P n ops S Lt Q (listed.setIfInBounds i true) fuel ((d,v) :: e) w):WT P n ops S Lt Q listed (fuel+1) e w:=by
 refine ⟨λa ha=>?_⟩;simp only [Xd] at hB;have hk:=k.h _ (ha.put (v:=v) aw);rw [<- hd] at hk;exact Z2p (R:=λ_ _=>True) (λ_=>trivial) (λ_ _ _ _ _=>trivial) hi (λ_ _ _ _ _ _ _ _=>trivial) (Region.noSelect_spec hs) _ _ _ _ (Region.free_spec hi hB.2) (λ_=>trivial) (by simpa using hB.1) (hY a ha) hk
theorem ZhU (i:Nat) {o:Oper} (hi:ops[i]?=some o) (hd:o.dst=some d) (hY:∀ a,Has n e a->YE P ops (Stp S) o v a w) (aw:Nat.blt d n=true) (hs:Region.noSelect ops=true)
 (hB:((Region.ready .any ops listed).contains i && Region.free .any ops listed i && Za5 ops Lt i)=true)
 (k:WT P n ops S Lt Q (listed.setIfInBounds i true) fuel ((d,v) :: e) w):WT P n ops S Lt Q listed (fuel+1) e w:=by
 refine ⟨λa ha=>?_⟩;simp only [Xd] at hB;obtain ⟨⟨h1,h2⟩,hb⟩:=hB;have hk:=k.h _ (ha.put (v:=v) aw);rw [<- hd] at hk;refine Z2p (R:=Stp S) (λw=>Stp.refl _ w) (λ_ _ _ h k=>h.trans k) hi (λj oj hj hn cr w w' hs=>?_) (Region.noSelect_spec hs) _ _ _ _ (Region.free_spec hi h2) (λ_=>trivial) (by simpa using h1) (hY a ha) hk;rcases hs with hs|hs
 exact hs;rw [Z44 hb hj hn cr] at hs;cases hs
theorem JI (i:Nat) (hi:ops[i]?=some ⟨some d,op,ty,pos,af,gd⟩) (hg:JV ops e gd) (hp:∀ w',PR P n ⟨some d,op,ty,pos,af,gd⟩ e w' v) (aw:Nat.blt d n=true) (hs:Region.noSelect ops=true)
 (hB:((Region.ready .any ops listed).contains i && Region.free .any ops listed i)=true)
 (k:WT P n ops S Lt Q (listed.setIfInBounds i true) fuel ((d,v) :: e) w):WT P n ops S Lt Q listed (fuel+1) e w:=
 ZhT i hi rfl (λa ha=>.inl ⟨Jb ha hg,λw' _=>(hp w').h a ha⟩) aw hs hB k
theorem Z9e (i:Nat) (hi:ops[i]?=some ⟨some d,op,ty,pos,af,gd⟩) (hg:JV ops e gd) (hp:∀ w',Stp S w w'->PR P n ⟨some d,op,ty,pos,af,gd⟩ e w' v) (aw:Nat.blt d n=true) (hs:Region.noSelect ops=true)
 (hB:((Region.ready .any ops listed).contains i && Region.free .any ops listed i && Za5 ops Lt i)=true)
 (k:WT P n ops S Lt Q (listed.setIfInBounds i true) fuel ((d,v) :: e) w):WT P n ops S Lt Q listed (fuel+1) e w:=
 ZhU i hi rfl (λa ha=>.inl ⟨Jb ha hg,λw' hw=>(hp w' hw).h a ha⟩) aw hs hB k
end rules
end Go.Eng
namespace Go.Proofs.YteibicnbkggiiaaGreatDoor
open Go Go.Eng Go.RowKit
theorem bS1 (a:Str) (w):(Instr.buildSlice 168 1 #[(0,str a)]).run Tryz.prog w=.ok (.slice (some ⟨w.heap.size,0,none⟩) 1 1) (w.alloc (.cells #[str a] 9)):=by kernel_rfl
theorem bS2 (a b:Str) (w):(Instr.buildSlice 168 2 #[(0,str a),(1,str b)]).run Tryz.prog w=.ok (.slice (some ⟨w.heap.size,0,none⟩) 2 2) (w.alloc (.cells #[str a,str b] 9)):=by kernel_rfl
theorem bS3 (a b c:Str) (w):(Instr.buildSlice 168 3 #[(0,str a),(1,str b),(2,str c)]).run Tryz.prog w=.ok (.slice (some ⟨w.heap.size,0,none⟩) 3 3) (w.alloc (.cells #[str a,str b,str c] 9)):=by kernel_rfl
theorem bS5 (a b c d e:Str) (w):(Instr.buildSlice 168 5 #[(0,str a),(1,str b),(2,str c),(3,str d),(4,str e)]).run Tryz.prog w=.ok (.slice (some ⟨w.heap.size,0,none⟩) 5 5) (w.alloc (.cells #[str a,str b,str c,str d,str e] 9)):=by kernel_rfl
theorem bS6 (a b c d e f:Str) (w):(Instr.buildSlice 168 6 #[(0,str a),(1,str b),(2,str c),(3,str d),(4,str e),(5,str f)]).run Tryz.prog w=.ok (.slice (some ⟨w.heap.size,0,none⟩) 6 6) (w.alloc (.cells #[str a,str b,str c,str d,str e,str f] 9)):=by kernel_rfl
abbrev Mk3 (w:World) (bm:Nat) (lv:Value) (i:Nat):Prop:=Blk w bm 131 [lv,.I (i:Int)]
theorem JZ (bm:Nat) (lv:Value) (l:List Int) (i:Nat) (n:Int) (w) (hn:0<n) (hi:i<=1000000) (hb:Mk3 w bm lv i) (hs:SlV [bm] w lv l) (hl:∀ a∈l,I64 a) :
 CC 61 #[pQ bm,.I n] w λr w'=>∃ q:Nat,r=.I (q:Int)/\(q:Int)<n/\Mk3 w' bm lv (i+1)/\Stp [bm] w w':=by
 refine cW2 23 Tryz.func61 ?_;refine W ?_;refine S1 (u:=.I ((i:Int)+1)) hb ?_;rintro _ w1 ⟨lC,ee⟩;replace ee:Mk3 w1 bm lv (i+1):=ee;replace hs:=hs.ext lC (λ_ h=>h) (λ_ h=>.inl h);replace hs:SlV [] w1 lv l:=hs.wk (by simp);refine W ?_;refine ZDr 12 [] [] [(0,0),(1,0),(2,0),(3,1),(4,0),(5,0),(6,0),(7,1),(8,0),(9,0),(10,2),(11,0)] (λw1 ae=>?_);replace ee:=ee.up ae;replace hs:=hs.up ae;refine D ?_;refine Z9 rfl trivial (Z3 rfl (ZL rfl rfl rfl) (ZN [] _ l _ n _ hn (by unfold I64;omega) hs hl)) (λ_ _ h=>h.choose_spec.2.2) rfl ?_;rintro _ w3 ⟨q,rfl,hq,az⟩;replace ee:=ee.up az;refine D ?_;refine RT ?_;exact ⟨q,rfl,hq,ee,(lC.trans ae.mn).trans az.mn⟩
theorem Z59 (bm:Nat) (lv:Value) (l:List Int) (i:Nat) (d:Nat) (z:Int) (w) (hz:z=(d:Int)) (hb:Mk3 w bm lv i) (hs:SlV [bm] w lv l) :
 CC 141 #[pQ bm,.I z] w λr w'=>∃ b:Bool,r=.B b/\(d=0->b=true)/\Stp [] w w':=by
 subst hz;refine cW2 19 Tryz.func141 ?_;refine W ?_;by_cases h0:d=0;refine ZDr 15 [] [] [(0,0),(1,0),(2,0),(3,0),(4,0),(5,0),(6,1),(7,0),(8,0),(9,0),(10,1),(11,0),(12,0),(13,0),(14,0)] (λw1 ae=>?_);refine D ?_;have e0:((d:Int)<=0):=by omega
 simp only [e0,decide_true];refine D ?_;refine RT ?_;exact ⟨true,rfl,λ_=>rfl,ae⟩;refine ZDr 15 [] [] [(0,0),(1,0),(2,0),(3,0),(4,0),(5,0),(6,1),(7,0),(8,0),(9,0),(10,1),(11,0),(12,0),(13,0),(14,0)] (λw1 ae=>?_);replace hb:=hb.up ae;replace hs:=hs.up ae;refine D ?_;have e0:¬ ((d:Int)<=0):=by omega
 simp only [e0,decide_false];refine D ?_;refine RT ?_;exact ⟨_,rfl,λh=>absurd h h0,ae⟩
theorem Zcq (X:List Nat) (k:Int) (s:Str) (kv:Value) (kids:List Nd) (w:World) (hX:∀ b∈X,b<w.heap.size) (hs:SlV X w kv kids):CC 142 #[.I k,str s,kv] w λr w'=>NdV X w' r (.mk k 0 s kids)/\Stp [] w w':=by
 obtain ⟨p,c,rfl,-⟩:=id hs;refine cW3 11 Tryz.func142 ?_;refine W ?_;refine Z0 Z4 rfl ?_;rintro _ w1 ⟨b,rfl,hb,ab,hS⟩;refine W ?_;apply Zc (vs:=[(0,.I k),(2,str s),(3,.slice p kids.length c)]) rfl (ZeP _ _ _ _ _) rfl;refine SB (us:=ndC (.mk k 0 s kids) (.slice p kids.length c)) (Jo hs) ab ?_;rintro _ w2 ⟨ak,aS⟩;have hT:=hS.ow ak;refine W ?_;refine JH rfl rfl rfl aS rfl ?_;exact .mk ⟨⟨_,rfl,hs.up hT⟩,hT⟩
def Zuz (k:Int):List Str:=if k=1 then [[111,114]] else if k=2 then [[97,110,100]] else if k=4 then Z1K else if k=5 then [[43],[45]] else [[42]]
theorem Z68 (X:List Nat) (k:Int) (w:World) (hX:∀ b∈X,b<w.heap.size):CC 205 #[.I k] w λr w'=>SlV X w' r (Zuz k)/\Stp [] w w':=by
 refine cW1 17 Tryz.func205 ?_;have key:∀ (n:Nat) (vs:List Value) (v:Value) (w':World) (ys:List Str),Z6 w n ys.length vs v w'->vs=ys.flatMap Z2.enc->ys.length<=maxLen->SlV X w' v ys:=λn vs v w' ys h e hm=>Z6.slv h hX rfl e hm;by_cases h1:k=1;subst h1;refine QO ?_;refine Z0 (Z1 (vs:=[(0,str [111,114])]) rfl (bS1 _)) rfl ?_;rintro v w1 hN;have hv:SlV X w1 v ([[111,114]]:List Str):=hN.slv hX rfl rfl (by decide);have hT:=Z6.stp hN;refine RT ?_;exact ⟨hv,hT⟩;by_cases h2:k=2;subst h2;refine QO ?_;refine Z0 (Z1 (vs:=[(0,str [97,110,100])]) rfl (bS1 _)) rfl ?_;rintro v w1 hN;have hv:SlV X w1 v ([[97,110,100]]:List Str):=hN.slv hX rfl rfl (by decide);have hT:=Z6.stp hN;refine RT ?_;exact ⟨hv,hT⟩;by_cases h4:k=4;subst h4;refine QO ?_;refine Z0 (Z1 (vs:=[(0,str [60]),(1,str [60,61]),(2,str [61]),(3,str [33,61]),(4,str [62]),(5,str [62,61])]) rfl (bS6 _ _ _ _ _ _)) rfl ?_;rintro v w1 hN;have hv:SlV X w1 v Z1K:=hN.slv hX rfl rfl (by decide);have hT:=Z6.stp hN;refine RT ?_;exact ⟨hv,hT⟩;by_cases h5:k=5;subst h5;refine QO ?_;refine Z0 (Z1 (vs:=[(0,str [43]),(1,str [45])]) rfl (bS2 _ _)) rfl ?_;rintro v w1 hN;have hv:SlV X w1 v ([[43],[45]]:List Str):=hN.slv hX rfl rfl (by decide);have hT:=Z6.stp hN;refine RT ?_;exact ⟨hv,hT⟩;refine QO ?_;refine Z0 (Z1 (vs:=[(0,str [42])]) rfl (bS1 _)) rfl ?_;rintro v w1 hN;have hv:SlV X w1 v ([[42]]:List Str):=hN.slv hX rfl rfl (by decide);have hT:=Z6.stp hN;refine RT ?_;exact ⟨by unfold Zuz;rw [if_neg h1,if_neg h2,if_neg h4,if_neg h5];exact hv,hT⟩
theorem Z4m (q:Nat) (w) (hq:q<6):CC 143 #[.I (q:Int)] w λr w'=>(∃ s∈Z1K,r=str s)/\Stp [] w w':=by
 refine cW1 7 Tryz.func143 ?_;refine W ?_;refine CM (ZO rfl) (Z68 [] 4 _ (by simp)) ?_;rintro v w1 ⟨hv,hS⟩;replace hv:SlV [] w1 v Z1K:=hv;have bV:q<Z1K.length:=by show q<6;exact hq
 refine RT ?_;exact ⟨⟨_,Xc bV,rfl⟩,hS⟩
structure G3 (X:List Nat) (w0 w:World) (bm b4:Nat) (lv:Value) (l:List Int) (i:Nat):Prop where
 mkr:Mk3 w bm lv i
 sl:SlV [bm] w lv l
 stp:Stp [bm] w0 w
 blk:∃ cs:List Value,cs.length=4/\Blk w b4 82 cs
 ne:b4≠bm
 hX:∀ b∈X,b<w.heap.size
theorem G3.nxt {X:List Nat} {w0 w w':World} {bm b4:Nat} {lv:Value} {l:List Int} {i i':Nat} (h:G3 X w0 w bm b4 lv l i) (hm:Mk3 w' bm lv i') (hS:Stp [bm] w w'):G3 X w0 w' bm b4 lv l i':=
 ⟨hm,h.sl.ext hS (λ_ h=>h) (λ_ h=>.inl h),h.stp.trans hS,h.blk.imp (λcs hc=>⟨hc.1,hc.2.ext hS (by simpa using h.ne)⟩),h.ne,λb hb=>Xi (h.hX b hb) hS.size⟩
theorem G3.up {X:List Nat} {w0 w w':World} {bm b4:Nat} {lv:Value} {l:List Int} {i:Nat} (h:G3 X w0 w bm b4 lv l i) (hS:Stp [] w w'):G3 X w0 w' bm b4 lv l i:=
 h.nxt (h.mkr.up hS) hS.mn
theorem G3.fin {X:List Nat} {w0 w1 w w':World} {bm b4:Nat} {lv:Value} {l:List Int} {i:Nat} {y:Nd} {ky:Value} (h:G3 (b4 :: bm :: X) w1 w bm b4 lv l i) (hw:Stp [] w0 w1) (hb:w0.heap.size<=b4) (hy:SlV (b4 :: bm :: X) w ky y.kids) (hS:Stp [b4] w w') :
 NdV X w' (.agg (ndC y ky).toArray) y/\Mk3 w' bm lv i/\Stp [bm] w0 w':=
 ⟨⟨ky,rfl,(hy.ext (X':=b4 :: bm :: X) hS (by simp) (λ_ h=>.inl h)).wk (λc hc=>by simp [hc])⟩,h.mkr.ext hS (by simpa using h.ne.symm),(hw.mn.trans h.stp).ow hS⟩
def Z1L (f:Nat) (t:Int) (d:Nat):Prop:=∀ (X:List Nat) (w:World) (bm:Nat) (lv:Value) (l:List Int) (i:Nat) (z:Int),z=(d:Int)->Mk3 w bm lv i->SlV [bm] w lv l->(∀ a∈l,I64 a)->i+3 * szD (d+1)<=100000->(∀ b∈X,b<w.heap.size)->
 CC f #[pQ bm,.I z] w λr w'=>∃ y i',NdV X w' r y/\Gn t d y/\Mk3 w' bm lv i'/\i'<=i+3 * szD (d+1)/\Stp [bm] w w'
theorem Jw {w w1 w2:World} {b:Nat} (h:Stp [] w w1) (hb:w.heap.size<=b) (h2:Stp [b] w1 w2):Stp [] w w2:=h.ow h2
structure FnP (X:List Nat) (w0 w1 w:World) (bm b4:Nat) (lv:Value) (l:List Int) (i j:Nat) (y:Nd) (ky:Value) (g:Prop):Prop where
 gm:G3 (b4 :: bm :: X) w1 w bm b4 lv l i
 s0:Stp [] w0 w1
 b0:w0.heap.size<=b4
 hy:SlV (b4 :: bm :: X) w ky y.kids
 gn:g
 le:i<=j
 h1:∀ c∈ndC y ky,c.oneCell'=true
section
variable {P:Program} {n:Nat} {e:Env} {w:World} {d:Option Nat} {ty:TypeId} {pos:String} {af:Array Edge} {gd:Option (Nat×Bool)}
theorem stN {b T m t:Nat} {cs us:List Value} {x y:Operand} {u:Value} [br:Siz P t m] (h1:∀ c∈us,c.oneCell'=true) (hb:Blk w b T cs) (hl:us.length=cs.length) (hx:ev e x=some (pQ b)) (hy:ev e y=some u) (hu:u.cells.toList=us) (hm:us.length=m):OE P n ⟨d,.store t x y,ty,pos,af,gd⟩ e w (λ_ w'=>Stp [b] w w'/\Blk w' b T us):=Zy hx hy hu hm h1 hb hl
theorem FN {G:Prop} {X:List Nat} {w0 w1 w:World} {bm b4:Nat} {lv:Value} {l:List Int} {i:Nat} {ky:Value} {t:Int} (j d:Nat) (y:Nd) (gm:G3 (b4 :: bm :: X) w1 w bm b4 lv l i) (s0:Stp [] w0 w1) (b0:w0.heap.size<=b4) (hy:SlV (b4 :: bm :: X) w ky y.kids) (gn:Gn t d y) (le:i<=j+3 * szD (d+1))
 (h : FnP X w0 w1 w bm b4 lv l i (j + 3 * szD (d + 1)) y ky (Gn t d y) -> G := by
   intro r;obtain ⟨cs,cn,eV⟩:=r.gm.blk;first
   | refine Z1O rfl trivial (stN r.h1 eV cn.symm rfl rfl rfl rfl) (λ_ _ h=>h.1.mn) ?_
   | refine Z8 (stN r.h1 eV cn.symm rfl rfl rfl rfl) ?_
   rintro _ wz ⟨hz,tf⟩;first|refine D ?_|skip
   refine W ?_;refine JH rfl rfl rfl tf rfl ?_;have hf:=r.gm.fin r.s0 r.b0 r.hy hz;exact .mk ⟨_,_,hf.1,r.gn,hf.2.1,r.le,hf.2.2⟩):G:=h ⟨gm,s0,b0,hy,gn,le,Jo (x:=y) hy⟩
variable {X:List Nat} {w0:World} {bm b4:Nat} {lv:Value} {l:List Int} {i:Nat}
theorem G3.nx (h:G3 (b4 :: bm :: X) w0 w bm b4 lv l i) (n:Int) (hl:∀ a∈l,I64 a) (hn:0<n:=by decide) (hi:i<=1000000:=by omega):CC 61 #[pQ bm,.I n] w λr w'=>Stp [b4,bm] w w'/\Stp [bm] w w'/\∃ q:Nat,r=.I (q:Int)/\(q:Int)<n/\G3 (b4 :: bm :: X) w0 w' bm b4 lv l (i+1):=
 (JZ bm lv l i n w hn hi h.mkr h.sl hl).mono (by
   rintro _ w' ⟨_,rfl,q,rfl,hq,hm,hS⟩;exact .mk ⟨hS.mn,hS,q,rfl,hq,h.nxt hm hS⟩)
theorem G3.kd (h:G3 (b4 :: bm :: X) w0 w bm b4 lv l i) {f e:Nat} {t z:Int} (ih:Z1L f t e) (hl:∀ a∈l,I64 a) (hz:z=(e:Int):=by omega) (hi:i+3 * szD (e+1)<=100000:=by omega):CC f #[pQ bm,.I z] w λr w'=>Stp [b4,bm] w w'/\Stp [bm] w w'/\∃ y i' p c,r=.agg (ndC y (.slice p y.kids.length c)).toArray/\SlV (b4 :: bm :: X) w' (.slice p y.kids.length c) y.kids/\Gn t e y/\i'<=i+3 * szD (e+1)/\G3 (b4 :: bm :: X) w0 w' bm b4 lv l i':=
 (ih (b4 :: bm :: X) w bm lv l i z hz h.mkr h.sl hl hi h.hX).mono (by
   rintro _ w' ⟨_,rfl,y,i',⟨k,rfl,s⟩,g,hm,be,hS⟩;obtain ⟨p,c,rfl,-⟩:=id s;exact .mk ⟨hS.mn,hS,y,i',p,c,rfl,s,g,be,h.nxt hm hS⟩)
theorem G3.nd (h:G3 (b4 :: bm :: X) w0 w bm b4 lv l i) (k:Int) (s:Str) {kv:Value} {kids:List Nd} (hs:SlV (b4 :: bm :: X) w kv kids):CC 142 #[.I k,str s,kv] w λr w'=>Stp [b4,bm] w w'/\Stp [] w w'/\∃ ky,r=.agg (ndC (.mk k 0 s kids) ky).toArray/\SlV (b4 :: bm :: X) w' ky kids/\G3 (b4 :: bm :: X) w0 w' bm b4 lv l i:=
 (Zcq (b4 :: bm :: X) k s kv kids w h.hX hs).mono (by
   rintro _ w' ⟨_,rfl,⟨ky,rfl,hy⟩,hT⟩;exact .mk ⟨hT.mn,hT,ky,rfl,hy,h.up hT⟩)
abbrev ndB (y:Nd) (p:Option Addr) (c:Nat):Value:=.agg #[.I y.kind,.I y.num,str y.word,.slice p y.kids.length c]
theorem G3.b1 (h:G3 (b4 :: bm :: X) w0 w bm b4 lv l i) {y0:Nd} {p0:Option Addr} {c0:Nat} (s0:SlV (b4 :: bm :: X) w (.slice p0 y0.kids.length c0) y0.kids) {q:List (Nat×Operand)} (hv:Jg e q=some [(0,ndB y0 p0 c0)]) :
 OE Tryz.prog n ⟨d,.buildSlice 80 1 q.toArray,ty,pos,af,gd⟩ e w (λv w'=>Stp [b4,bm] w w'/\Stp [] w w'/\SlV (b4 :: bm :: X) w' v [y0]/\G3 (b4 :: bm :: X) w0 w' bm b4 lv l i):=
 (Z1 hv (ZhP _ _ _ _ _ _)).mono (λv w' hN=>⟨(Z6.stp hN).mn,Z6.stp hN,hN.slvG (css:=[ndC y0 _]) h.hX rfl rfl rfl (Zus s0) (by simp [maxLen]),h.up (Z6.stp hN)⟩)
theorem G3.b2 (h:G3 (b4 :: bm :: X) w0 w bm b4 lv l i) {y0 y1:Nd} {p0 p1:Option Addr} {c0 c1:Nat} (s0:SlV (b4 :: bm :: X) w (.slice p0 y0.kids.length c0) y0.kids) (s1:SlV (b4 :: bm :: X) w (.slice p1 y1.kids.length c1) y1.kids) {q:List (Nat×Operand)} (hv:Jg e q=some [(0,ndB y0 p0 c0),(1,ndB y1 p1 c1)]) :
 OE Tryz.prog n ⟨d,.buildSlice 80 2 q.toArray,ty,pos,af,gd⟩ e w (λv w'=>Stp [b4,bm] w w'/\Stp [] w w'/\SlV (b4 :: bm :: X) w' v [y0,y1]/\G3 (b4 :: bm :: X) w0 w' bm b4 lv l i):=
 (Z1 hv (ZhQ _ _ _ _ _ _ _ _ _ _ _ _)).mono (λv w' hN=>⟨(Z6.stp hN).mn,Z6.stp hN,hN.slvG (css:=[ndC y0 _,ndC y1 _]) h.hX rfl rfl rfl (Zut s0 s1) (by simp [maxLen]),h.up (Z6.stp hN)⟩)
theorem G3.b3 (h:G3 (b4 :: bm :: X) w0 w bm b4 lv l i) {y0 y1 y2:Nd} {p0 p1 p2:Option Addr} {c0 c1 c2:Nat} (s0:SlV (b4 :: bm :: X) w (.slice p0 y0.kids.length c0) y0.kids) (s1:SlV (b4 :: bm :: X) w (.slice p1 y1.kids.length c1) y1.kids) (s2:SlV (b4 :: bm :: X) w (.slice p2 y2.kids.length c2) y2.kids) {q:List (Nat×Operand)} (hv:Jg e q=some [(0,ndB y0 p0 c0),(1,ndB y1 p1 c1),(2,ndB y2 p2 c2)]) :
 OE Tryz.prog n ⟨d,.buildSlice 80 3 q.toArray,ty,pos,af,gd⟩ e w (λv w'=>Stp [b4,bm] w w'/\Stp [] w w'/\SlV (b4 :: bm :: X) w' v [y0,y1,y2]/\G3 (b4 :: bm :: X) w0 w' bm b4 lv l i):=
 (Z1 hv (ZhR _ _ _ _ _ _ _ _ _ _ _ _ _ _ _ _ _ _)).mono (λv w' hN=>⟨(Z6.stp hN).mn,Z6.stp hN,hN.slvG (css:=[ndC y0 _,ndC y1 _,ndC y2 _]) h.hX rfl rfl rfl (Zuu s0 s1 s2) (by simp [maxLen]),h.up (Z6.stp hN)⟩)
end
set_option maxHeartbeats 1000000
theorem Z4n (d:Nat) (qR:d<=6) (ih:∀ e,d=e+1->Z1L 144 1 e/\Z1L 97 2 e/\Z1L 98 3 e):Z1L 144 1 d:=by
 intro X w bm lv l i z hz aA au hl hi hX;subst hz;have br:szD (d+1)=1+3 * szD d:=rfl;refine cW2 88 Tryz.func144 ?_;refine W ?_;refine Z0 Z4 rfl ?_;rintro _ w1 ⟨b4,rfl,bE,bo,bz⟩;have gm:G3 (b4 :: bm :: X) w1 w1 bm b4 lv l i:=⟨aA.up bz,au.up bz,Stp.refl _ _,⟨_,rfl,bo⟩,λh=>by have:=aA.lt;omega,λc hc=>by
  simp only [Xa] at hc;have h1:=bo.lt;have h2:=aA.lt;have h3:=bz.size;rcases hc with rfl|rfl|hc
  exact h1;omega;have:=hX c hc;omega⟩
 clear bo hX au aA;refine W ?_;refine Z0 (Z3 rfl (Zh rfl rfl) (gm.nx 9 hl)) rfl ?_;rintro _ wq ⟨-,hS,q,rfl,hq,gm⟩;refine W ?_;refine Z0 (Z3 rfl (Zh rfl rfl) (Z59 bm lv l _ d _ _ rfl gm.mkr gm.sl)) rfl ?_;rintro _ wq ⟨dn,rfl,aw,hT⟩;replace gm:=gm.up hT;clear hT;refine W ?_;refine JG (σ:=Nat) (λk=>[(0,pQ bm),(1,.I (d:Int)),(4,pQ b4),(5,.I (k:Int))]) (λk w'=>w'=wq/\k<9/\(d=0->k<4)) ?_ ?_
 . cases dn with
   | true=>
     refine QO ?_;exact Zw (q % 4) ⟨rfl,rfl,rfl,rfl,trivial⟩ ⟨rfl,by omega,λ_=>by omega⟩
   | false=>
     refine QO ?_;exact Zw q ⟨rfl,rfl,rfl,rfl,trivial⟩ ⟨rfl,by omega,λh=>absurd (aw h) (by decide)⟩
 rintro k w3 ⟨rfl,fx,bp⟩;clear hq aw;by_cases k0:k<=2
 . repeat'(first|refine W1 ?_|omega|refine VG ?_ ?_<;>intro hg|refine VC ?_ ?_<;>intro hc)
   all_goals
    refine Z0 (Z3 rfl (Zh rfl rfl) (gm.nx 25 hl)) rfl ?_;rintro _ wq ⟨-,hS,q',rfl,eP,gm⟩;refine W ?_;apply Zc (vs:=[(0,.I 1),(1,.I _)]) rfl (Z37 _ _) rfl;have hy:SlV (α:=Nd) (b4 :: bm :: X) _ (.N) []:=Zi _ wq;exact FN i d (.mk 1 (q':Int) [] []) gm bz bE hy (.num _ _ (by omega)) (by omega)
 by_cases k3:k=3;refine QO ?_;refine Z0 (Z1 (vs:=[(0,str [101,120,116,114,97]),(1,str [98,121]),(2,str [116,111]),(3,str [99,111,117,114,116]),(4,str [97,109,111,117,110,116])]) rfl (bS5 _ _ _ _ _)) rfl ?_;rintro wv wq hN;have aP:SlV [bm] wq wv ZhS:=hN.slv (λc hc=>gm.hX c (by simp at hc;subst hc;simp)) rfl rfl (by decide);have hT:=Z6.stp hN;clear hN;replace gm:=gm.up hT;clear hT;refine W ?_;refine Z0 (Z3 rfl (Zh rfl rfl) (gm.nx 5 hl)) rfl ?_;rintro _ wq ⟨-,hS,q',rfl,eP,gm⟩;replace aP:=aP.ext hS (by simp) (λ_ h=>.inl h);have bV:q'<ZhS.length:=by show q'<5;omega
 refine W ?_;refine Z0 (Z3 rfl (ZL rfl rfl rfl) (gm.nd 4 ZhS[q'] (Zi _ _))) rfl ?_;rintro _ wq ⟨-,hT,ky,rfl,hy,gm⟩;exact FN i d (.mk 4 0 ZhS[q'] []) gm bz bE hy (.fldN _ _ (Xc bV)) (by omega);by_cases k4:k=4;obtain ⟨e,rfl⟩:∃ e,d=e+1:=⟨d - 1,by omega⟩
 replace ih:=ih e rfl;have cC:=Z0Q e;refine QO ?_;refine W ?_;refine Z0 (Z3 rfl (Zh rfl rfl) (gm.kd ih.1 hl)) rfl ?_;rintro _ wq ⟨-,hS,y0,i0,p0,c0,rfl,s0,g0,eF,gm⟩;refine W ?_;refine Z0 (gm.b1 s0 rfl) rfl ?_;rintro bv wq ⟨-,hT,aI,gm⟩;refine W ?_;refine Z0 (Z3 rfl (ZL rfl rfl rfl) (gm.nd 5 [45] aI)) rfl ?_;rintro _ wq ⟨-,hT,ky,rfl,hy,gm⟩;refine W ?_;exact FN i (e+1) (.mk 5 0 [45] [y0]) gm bz bE hy (.neg _ _ g0) (by omega);by_cases k5:k=5;obtain ⟨e,rfl⟩:∃ e,d=e+1:=⟨d - 1,by omega⟩
 replace ih:=ih e rfl;have cC:=Z0Q e;refine QO ?_;refine W ?_;refine Z0 (Z3 rfl (Zh rfl rfl) (gm.kd ih.2.2 hl)) rfl ?_;rintro _ wq ⟨-,hS,y0,i0,p0,c0,rfl,s0,g0,eF,gm⟩;refine Z0 Z4 rfl ?_;rintro _ wq ⟨b0',rfl,bj,e0,hT⟩;refine SB (us:=ndC y0 _) (Jo s0) e0 ?_;rintro _ wq ⟨ax,e0⟩;replace hT:=Jw hT bj ax;clear ax;have n0:b0'≠bm:=λh=>by have:=gm.mkr.lt;omega
 have n0':b0'≠b4:=λh=>by obtain ⟨_,_,hc⟩:=gm.blk;have:=hc.lt;omega
 replace gm:=gm.up hT;replace s0:=s0.up hT;clear hT bj;refine W ?_;refine ZDr 8 ([b4,bm]) [] [(0,1),(1,0),(2,0),(3,0),(4,2),(5,2),(6,2),(7,2)] (λw1 ae=>?_);have hT:=ae;replace gm:=gm.up hT;replace s0:=s0.up hT;replace e0:=e0.up hT;clear hT ae;refine WD_read rfl trivial (λw' aL=>ZY rfl rfl (e0.ext aL (by simp;exact ⟨n0',n0⟩)) rfl) rfl ?_;refine D ?_;refine Z9 rfl trivial (Z3 rfl (Zh rfl rfl) (gm.kd ih.2.2 hl)) (λ_ _ h=>h.1) rfl ?_;rintro _ wq ⟨-,hS,y1,i1,p1,c1,rfl,s1,g1,cg,gm⟩;replace s0:=s0.ext hS (by simp) (λ_ h=>.inl h);replace e0:=e0.ext hS (by simp;exact n0);refine D ?_;refine Z9 rfl trivial (gm.b2 s0 s1 rfl) (λ_ _ h=>h.1) rfl ?_;rintro bv wq ⟨-,hT,aI,gm⟩;refine D ?_;refine Z9 rfl trivial (Z3 rfl (ZL rfl rfl rfl) (gm.nd 10 [98,101,116,119,101,101,110] aI)) (λ_ _ h=>h.1) rfl ?_;rintro _ wq ⟨-,hT,ky,rfl,hy,gm⟩;refine D ?_;exact FN i (e+1) (.mk 10 0 [98,101,116,119,101,101,110] [y0,y1]) gm bz bE hy (.btw _ _ _ g0 g1) (by omega);by_cases k6:k=6;obtain ⟨e,rfl⟩:∃ e,d=e+1:=⟨d - 1,by omega⟩
 replace ih:=ih e rfl;have cC:=Z0Q e;refine QO ?_;refine W ?_;refine Z0 (Z3 rfl (Zh rfl rfl) (gm.kd ih.2.1 hl)) rfl ?_;rintro _ wq ⟨-,hS,y0,i0,p0,c0,rfl,s0,g0,eF,gm⟩;refine Z0 Z4 rfl ?_;rintro _ wq ⟨b0',rfl,bj,e0,hT⟩;refine SB (us:=ndC y0 _) (Jo s0) e0 ?_;rintro _ wq ⟨ax,e0⟩;replace hT:=Jw hT bj ax;clear ax;have n0:b0'≠bm:=λh=>by have:=gm.mkr.lt;omega
 have n0':b0'≠b4:=λh=>by obtain ⟨_,_,hc⟩:=gm.blk;have:=hc.lt;omega
 replace gm:=gm.up hT;replace s0:=s0.up hT;clear hT bj;refine W ?_;refine Z0 (Z3 rfl (Zh rfl rfl) (gm.kd ih.1 hl)) rfl ?_;rintro _ wq ⟨-,hS,y1,i1,p1,c1,rfl,s1,g1,cg,gm⟩;replace s0:=s0.ext hS (by simp) (λ_ h=>.inl h);replace e0:=e0.ext hS (by simp;exact n0);refine Z0 Z4 rfl ?_;rintro _ wq ⟨b1',rfl,gC,e1,hT⟩;refine SB (us:=ndC y1 _) (Jo s1) e1 ?_;rintro _ wq ⟨ax,e1⟩;replace hT:=Jw hT gC ax;clear ax;have n1:b1'≠bm:=λh=>by have:=gm.mkr.lt;omega
 have n1':b1'≠b4:=λh=>by obtain ⟨_,_,hc⟩:=gm.blk;have:=hc.lt;omega
 replace gm:=gm.up hT;replace s0:=s0.up hT;replace e0:=e0.up hT;replace s1:=s1.up hT;clear hT gC;refine W ?_;refine ZDr 9 ([b4,bm]) [] [(0,1),(1,1),(2,0),(3,0),(4,0),(5,2),(6,2),(7,2),(8,2)] (λw1 ae=>?_);have hT:=ae;replace gm:=gm.up hT;replace s0:=s0.up hT;replace e0:=e0.up hT;replace s1:=s1.up hT;replace e1:=e1.up hT;clear hT ae;refine WD_read rfl trivial (λw' aL=>ZY rfl rfl (e0.ext aL (by simp;exact ⟨n0',n0⟩)) rfl) rfl ?_;refine WD_read rfl trivial (λw' aL=>ZY rfl rfl (e1.ext aL (by simp;exact ⟨n1',n1⟩)) rfl) rfl ?_;refine D ?_;refine Z9 rfl trivial (Z3 rfl (Zh rfl rfl) (gm.kd ih.1 hl)) (λ_ _ h=>h.1) rfl ?_;rintro _ wq ⟨-,hS,y2,i2,p2,c2,rfl,s2,g2,bI,gm⟩;replace s0:=s0.ext hS (by simp) (λ_ h=>.inl h);replace e0:=e0.ext hS (by simp;exact n0);replace s1:=s1.ext hS (by simp) (λ_ h=>.inl h);replace e1:=e1.ext hS (by simp;exact n1);refine D ?_;refine Z9 rfl trivial (gm.b3 s0 s1 s2 rfl) (λ_ _ h=>h.1) rfl ?_;rintro bv wq ⟨-,hT,aI,gm⟩;refine D ?_;refine Z9 rfl trivial (Z3 rfl (ZL rfl rfl rfl) (gm.nd 9 [] aI)) (λ_ _ h=>h.1) rfl ?_;rintro _ wq ⟨-,hT,ky,rfl,hy,gm⟩;refine D ?_;exact FN i (e+1) (.mk 9 0 [] [y0,y1,y2]) gm bz bE hy (.cond _ _ _ _ _ (by decide) g0 g1 g2) (by omega);obtain ⟨e,rfl⟩:∃ e,d=e+1:=⟨d - 1,by omega⟩
 replace ih:=ih e rfl;have cC:=Z0Q e;refine QO ?_;refine W ?_;refine Z0 (Z3 rfl (Zh rfl rfl) (gm.kd ih.1 hl)) rfl ?_;rintro _ wq ⟨-,hS,y0,i0,p0,c0,rfl,s0,g0,eF,gm⟩;refine Z0 Z4 rfl ?_;rintro _ wq ⟨b0',rfl,bj,e0,hT⟩;refine SB (us:=ndC y0 _) (Jo s0) e0 ?_;rintro _ wq ⟨ax,e0⟩;replace hT:=Jw hT bj ax;clear ax;have n0:b0'≠bm:=λh=>by have:=gm.mkr.lt;omega
 have n0':b0'≠b4:=λh=>by obtain ⟨_,_,hc⟩:=gm.blk;have:=hc.lt;omega
 replace gm:=gm.up hT;replace s0:=s0.up hT;clear hT bj;refine W ?_;refine Z3B 13 [b4,bm] [] rfl mixed (λw1 ae=>?_);have hT:=ae;replace gm:=gm.up hT;replace s0:=s0.up hT;replace e0:=e0.up hT;clear hT ae;refine JI 1 rfl trivial (λw'=>ZJ rfl) rfl (by kernel_rfl) (by kernel_rfl) ?_;refine Z9e 5 rfl trivial (λw' aL=>ZY rfl rfl (e0.ext aL (by simp;exact ⟨n0',n0⟩)) rfl) rfl (by kernel_rfl) (by kernel_rfl) ?_;refine JI 6 rfl trivial (λw'=>ZJ rfl) rfl (by kernel_rfl) (by kernel_rfl) ?_;refine JI 7 rfl trivial (λw'=>ZJ rfl) rfl (by kernel_rfl) (by kernel_rfl) ?_;refine JI 8 rfl trivial (λw'=>Z52 rfl rfl (by unfold I64;omega)) rfl (by kernel_rfl) (by kernel_rfl) ?_;refine Z18 0 2 (by kernel_rfl) ?_ ?_;refine ZW rfl trivial (Z1 (vs:=[(0,str [43]),(1,str [45]),(2,str [42])]) rfl (bS3 _ _ _)) (λ_ _ h=>(Z6.stp h).mn) rfl ?_;rintro wv wq hN;have aP:SlV [b4,bm] wq wv Z0n:=hN.slv (λc hc=>gm.hX c (by simp at hc;rcases hc with rfl|rfl<;>simp)) rfl rfl (by decide);have hT:=Z6.stp hN;clear hN;replace gm:=gm.up hT;replace s0:=s0.up hT;replace e0:=e0.up hT;clear hT;refine Z3Q [(2,2),(3,0),(4,1),(9,2),(10,2),(11,2),(12,2)] (by kernel_rfl) (by kernel_rfl) (by kernel_rfl) ?_;refine Z9 rfl trivial (Z3 rfl (Zh rfl rfl) (gm.nx 3 hl)) (λ_ _ h=>h.1) rfl ?_;rintro _ wq ⟨-,hS,q,rfl,hq,gm⟩;replace s0:=s0.ext hS (by simp) (λ_ h=>.inl h);replace e0:=e0.ext hS (by simp;exact n0);replace aP:=aP.ext hS (by simp) (λ_ h=>.inl h);have bV:q<Z0n.length:=by show q<3;omega
 refine D ?_;refine Z9 rfl trivial (Z3 rfl (Zh rfl rfl) (gm.kd ih.1 hl)) (λ_ _ h=>h.1) rfl ?_;rintro _ wq ⟨-,hS,y1,i1,p1,c1,rfl,s1,g1,cg,gm⟩;replace s0:=s0.ext hS (by simp) (λ_ h=>.inl h);replace e0:=e0.ext hS (by simp;exact n0);replace aP:=aP.ext hS (by simp) (λ_ h=>.inl h);refine D ?_;refine Z9 rfl trivial (gm.b2 s0 s1 rfl) (λ_ _ h=>h.1) rfl ?_;rintro bv wq ⟨-,hT,aI,gm⟩;replace aP:=aP.up hT;refine D ?_;refine Z9 rfl trivial (Z3 rfl (ZL rfl rfl rfl) (gm.nd 6 Z0n[q] aI)) (λ_ _ h=>h.1) rfl ?_;rintro _ wq ⟨-,hT,ky,rfl,hy,gm⟩;refine D ?_;exact FN i (e+1) (.mk 6 0 Z0n[q] [y0,y1]) gm bz bE hy (.arith _ _ _ _ (Xc bV) g0 g1) (by omega);refine ZW rfl trivial (Z3 rfl (Zh rfl rfl) (gm.nx 3 hl)) (λ_ _ h=>h.1) rfl ?_;rintro _ wq ⟨-,hS,q,rfl,hq,gm⟩;replace s0:=s0.ext hS (by simp) (λ_ h=>.inl h);replace e0:=e0.ext hS (by simp;exact n0);have bV:q<Z0n.length:=by show q<3;omega
 refine Z18 0 9 (by kernel_rfl) ?_ ?_;refine ZW rfl trivial (Z1 (vs:=[(0,str [43]),(1,str [45]),(2,str [42])]) rfl (bS3 _ _ _)) (λ_ _ h=>(Z6.stp h).mn) rfl ?_;rintro wv wq hN;have aP:SlV [b4,bm] wq wv Z0n:=hN.slv (λc hc=>gm.hX c (by simp at hc;rcases hc with rfl|rfl<;>simp)) rfl rfl (by decide);have hT:=Z6.stp hN;clear hN;replace gm:=gm.up hT;replace s0:=s0.up hT;replace e0:=e0.up hT;clear hT;refine Z3Q [(3,0),(4,1),(9,2),(10,2),(11,2),(12,2)] (by kernel_rfl) (by kernel_rfl) (by kernel_rfl) ?_;refine D ?_;refine Z9 rfl trivial (Z3 rfl (Zh rfl rfl) (gm.kd ih.1 hl)) (λ_ _ h=>h.1) rfl ?_;rintro _ wq ⟨-,hS,y1,i1,p1,c1,rfl,s1,g1,cg,gm⟩;replace s0:=s0.ext hS (by simp) (λ_ h=>.inl h);replace e0:=e0.ext hS (by simp;exact n0);replace aP:=aP.ext hS (by simp) (λ_ h=>.inl h);refine D ?_;refine Z9 rfl trivial (gm.b2 s0 s1 rfl) (λ_ _ h=>h.1) rfl ?_;rintro bv wq ⟨-,hT,aI,gm⟩;replace aP:=aP.up hT;refine D ?_;refine Z9 rfl trivial (Z3 rfl (ZL rfl rfl rfl) (gm.nd 6 Z0n[q] aI)) (λ_ _ h=>h.1) rfl ?_;rintro _ wq ⟨-,hT,ky,rfl,hy,gm⟩;refine D ?_;exact FN i (e+1) (.mk 6 0 Z0n[q] [y0,y1]) gm bz bE hy (.arith _ _ _ _ (Xc bV) g0 g1) (by omega);refine ZW rfl trivial (Z3 rfl (Zh rfl rfl) (gm.kd ih.1 hl)) (λ_ _ h=>h.1) rfl ?_;rintro _ wq ⟨-,hS,y1,i1,p1,c1,rfl,s1,g1,cg,gm⟩;replace s0:=s0.ext hS (by simp) (λ_ h=>.inl h);replace e0:=e0.ext hS (by simp;exact n0);refine Z18 0 10 (by kernel_rfl) ?_ ?_;refine ZW rfl trivial (Z1 (vs:=[(0,str [43]),(1,str [45]),(2,str [42])]) rfl (bS3 _ _ _)) (λ_ _ h=>(Z6.stp h).mn) rfl ?_;rintro wv wq hN;have aP:SlV [b4,bm] wq wv Z0n:=hN.slv (λc hc=>gm.hX c (by simp at hc;rcases hc with rfl|rfl<;>simp)) rfl rfl (by decide);have hT:=Z6.stp hN;clear hN;replace gm:=gm.up hT;replace s0:=s0.up hT;replace e0:=e0.up hT;replace s1:=s1.up hT;clear hT;refine Z3Q [(3,0),(4,1),(10,2),(11,2),(12,2)] (by kernel_rfl) (by kernel_rfl) (by kernel_rfl) ?_;refine D ?_;refine D ?_;refine Z9 rfl trivial (gm.b2 s0 s1 rfl) (λ_ _ h=>h.1) rfl ?_;rintro bv wq ⟨-,hT,aI,gm⟩;replace aP:=aP.up hT;refine D ?_;refine Z9 rfl trivial (Z3 rfl (ZL rfl rfl rfl) (gm.nd 6 Z0n[q] aI)) (λ_ _ h=>h.1) rfl ?_;rintro _ wq ⟨-,hT,ky,rfl,hy,gm⟩;refine D ?_;exact FN i (e+1) (.mk 6 0 Z0n[q] [y0,y1]) gm bz bE hy (.arith _ _ _ _ (Xc bV) g0 g1) (by omega);refine ZW rfl trivial (gm.b2 s0 s1 rfl) (λ_ _ h=>h.1) rfl ?_;rintro bv wq ⟨-,hT,aI,gm⟩;refine Z3Q [(0,2),(3,0),(4,1),(11,2),(12,2)] (by kernel_rfl) (by kernel_rfl) (by kernel_rfl) ?_;refine Z9 rfl trivial (Z1 (vs:=[(0,str [43]),(1,str [45]),(2,str [42])]) rfl (bS3 _ _ _)) (λ_ _ h=>(Z6.stp h).mn) rfl ?_;rintro wv wq hN;have aP:SlV [b4,bm] wq wv Z0n:=hN.slv (λc hc=>gm.hX c (by simp at hc;rcases hc with rfl|rfl<;>simp)) rfl rfl (by decide);have hT:=Z6.stp hN;clear hN;replace gm:=gm.up hT;replace aI:=aI.up hT;clear hT;refine D ?_;refine D ?_;refine D ?_;refine Z9 rfl trivial (Z3 rfl (ZL rfl rfl rfl) (gm.nd 6 Z0n[q] aI)) (λ_ _ h=>h.1) rfl ?_;rintro _ wq ⟨-,hT,ky,rfl,hy,gm⟩;refine D ?_;exact FN i (e+1) (.mk 6 0 Z0n[q] [y0,y1]) gm bz bE hy (.arith _ _ _ _ (Xc bV) g0 g1) (by omega)
set_option maxHeartbeats 1000000
theorem Z6K (d:Nat) (qR:d<=6) (ih:∀ e,d=e+1->Z1L 144 1 e/\Z1L 97 2 e/\Z1L 98 3 e):Z1L 97 2 d:=by
 intro X w bm lv l i z hz aA au hl hi hX;subst hz;have br:szD (d+1)=1+3 * szD d:=rfl;refine cW2 80 Tryz.func97 ?_;refine W ?_;refine Z0 Z4 rfl ?_;rintro _ w1 ⟨b4,rfl,bE,bo,bz⟩;have gm:G3 (b4 :: bm :: X) w1 w1 bm b4 lv l i:=⟨aA.up bz,au.up bz,Stp.refl _ _,⟨_,rfl,bo⟩,λh=>by have:=aA.lt;omega,λc hc=>by
  simp only [Xa] at hc;have h1:=bo.lt;have h2:=aA.lt;have h3:=bz.size;rcases hc with rfl|rfl|hc
  exact h1;omega;have:=hX c hc;omega⟩
 clear bo hX au aA;refine W ?_;refine Z0 (Z3 rfl (Zh rfl rfl) (gm.nx 6 hl)) rfl ?_;rintro _ wq ⟨-,hS,q,rfl,hq,gm⟩;refine W ?_;refine Z0 (Z3 rfl (Zh rfl rfl) (Z59 bm lv l _ d _ _ rfl gm.mkr gm.sl)) rfl ?_;rintro _ wq ⟨dn,rfl,aw,hT⟩;replace gm:=gm.up hT;clear hT;cases dn with
 | true=>
   refine QO ?_;apply Zc (vs:=[(0,.int .i64 2),(1,.int .i64 (1 - (q:Int) / 5))]) rfl (Z37 _ _) rfl;have hy:SlV (α:=Nd) (b4 :: bm :: X) _ (.slice none 0 0) []:=Zi _ wq;exact FN i d (.mk 2 (1 - (q:Int) / 5) [] []) gm bz bE hy (.bool _ _ (by omega)) (by omega)
 | false=>
   have cQ:d≠0:=λh=>absurd (aw h) (by decide)
   obtain ⟨e,rfl⟩:∃ e,d=e+1:=⟨d - 1,by omega⟩
   replace ih:=ih e rfl;have cC:=Z0Q e;clear cQ aw;by_cases k0:q=0;refine QO ?_;refine Z0 (Z3 rfl (Zh rfl rfl) (gm.nx 2 hl)) rfl ?_;rintro _ wq ⟨-,hS,q',rfl,eP,gm⟩;refine W ?_;apply Zc (vs:=[(0,.int .i64 2),(1,.int .i64 _)]) rfl (Z37 _ _) rfl;have hy:SlV (α:=Nd) (b4 :: bm :: X) _ (.slice none 0 0) []:=Zi _ wq;exact FN i (e+1) (.mk 2 (q':Int) [] []) gm bz bE hy (.bool _ _ (by omega)) (by omega);by_cases k1:q=1;refine QO ?_;refine W ?_;refine Z0 (Z3 rfl (Zh rfl rfl) (gm.kd ih.2.1 hl)) rfl ?_;rintro _ wq ⟨-,hS,y0,i0,p0,c0,rfl,s0,g0,eF,gm⟩;refine W ?_;refine Z0 (gm.b1 s0 rfl) rfl ?_;rintro bv wq ⟨-,hT,aI,gm⟩;refine W ?_;refine Z0 (Z3 rfl (ZL rfl rfl rfl) (gm.nd 5 [110,111,116] aI)) rfl ?_;rintro _ wq ⟨-,hT,ky,rfl,hy,gm⟩;refine W ?_;exact FN i (e+1) (.mk 5 0 [110,111,116] [y0]) gm bz bE hy (.not _ _ g0) (by omega);by_cases k2:q=2;refine QO ?_;refine W ?_;refine Z0 (Z3 rfl (Zh rfl rfl) (gm.kd ih.2.1 hl)) rfl ?_;rintro _ wq ⟨-,hS,y0,i0,p0,c0,rfl,s0,g0,eF,gm⟩;refine Z0 Z4 rfl ?_;rintro _ wq ⟨b0',rfl,bj,e0,hT⟩;refine Z8 (Zy (us:=ndC y0 _) rfl rfl rfl rfl (Jo s0) e0 rfl) ?_;rintro _ wq ⟨ax,e0⟩;replace hT:=Jw hT bj ax;clear ax;have n0:b0'≠bm:=λh=>by have:=gm.mkr.lt;omega
   have n0':b0'≠b4:=λh=>by obtain ⟨_,_,hc⟩:=gm.blk;have:=hc.lt;omega
   replace gm:=gm.up hT;replace s0:=s0.up hT;clear hT bj;refine W ?_;refine Z3B 13 [b4,bm] [] rfl mixed (λw1 ae=>?_);have hT:=ae;replace gm:=gm.up hT;replace s0:=s0.up hT;replace e0:=e0.up hT;clear hT ae;refine JI 1 rfl trivial (λw'=>ZJ rfl) rfl (by kernel_rfl) (by kernel_rfl) ?_;refine Z9e 5 rfl trivial (λw' aL=>ZY rfl rfl (e0.ext aL (by simp;exact ⟨n0',n0⟩)) rfl) rfl (by kernel_rfl) (by kernel_rfl) ?_;refine JI 6 rfl trivial (λw'=>ZJ rfl) rfl (by kernel_rfl) (by kernel_rfl) ?_;refine JI 7 rfl trivial (λw'=>ZJ rfl) rfl (by kernel_rfl) (by kernel_rfl) ?_;refine JI 8 rfl trivial (λw'=>Z52 rfl rfl (by unfold I64;omega)) rfl (by kernel_rfl) (by kernel_rfl) ?_;refine Z18 0 2 (by kernel_rfl) ?_ ?_;refine ZW rfl trivial (Z1 (vs:=[(0,str [97,110,100]),(1,str [111,114])]) rfl (bS2 _ _)) (λ_ _ h=>(Z6.stp h).mono (by simp)) rfl ?_;rintro wv wq hN;have aP:SlV [b4,bm] wq wv Z0j:=hN.slv (λc hc=>gm.hX c (by simp at hc;rcases hc with rfl|rfl<;>simp)) rfl rfl (by decide);have hT:=Z6.stp hN;clear hN;replace gm:=gm.up hT;replace s0:=s0.up hT;replace e0:=e0.up hT;clear hT;refine Z3Q [(2,2),(3,0),(4,1),(9,2),(10,2),(11,2),(12,2)] (by kernel_rfl) (by kernel_rfl) (by kernel_rfl) ?_;refine Z9 rfl trivial (Z3 rfl (Zh rfl rfl) (gm.nx 2 hl)) (λ_ _ h=>h.1) rfl ?_;rintro _ wq ⟨-,hS,q,rfl,hq,gm⟩;replace s0:=s0.ext hS (by simp) (λ_ h=>.inl h);replace e0:=e0.ext hS (by simp;exact n0);replace aP:=aP.ext hS (by simp) (λ_ h=>.inl h);have bV:q<Z0j.length:=by show q<2;omega
   refine D ?_;refine Z9 rfl trivial (Z3 rfl (Zh rfl rfl) (gm.kd ih.2.1 hl)) (λ_ _ h=>h.1) rfl ?_;rintro _ wq ⟨-,hS,y1,i1,p1,c1,rfl,s1,g1,cg,gm⟩;replace s0:=s0.ext hS (by simp) (λ_ h=>.inl h);replace e0:=e0.ext hS (by simp;exact n0);replace aP:=aP.ext hS (by simp) (λ_ h=>.inl h);refine D ?_;refine Z9 rfl trivial (gm.b2 s0 s1 rfl) (λ_ _ h=>h.1) rfl ?_;rintro bv wq ⟨-,hT,aI,gm⟩;replace aP:=aP.up hT;refine D ?_;refine Z9 rfl trivial (Z3 rfl (ZL rfl rfl rfl) (gm.nd 6 Z0j[q] aI)) (λ_ _ h=>h.1) rfl ?_;rintro _ wq ⟨-,hT,ky,rfl,hy,gm⟩;refine D ?_;exact FN i (e+1) (.mk 6 0 Z0j[q] [y0,y1]) gm bz bE hy (.logic _ _ _ _ (Xc bV) g0 g1) (by omega);refine ZW rfl trivial (Z3 rfl (Zh rfl rfl) (gm.nx 2 hl)) (λ_ _ h=>h.1) rfl ?_;rintro _ wq ⟨-,hS,q,rfl,hq,gm⟩;replace s0:=s0.ext hS (by simp) (λ_ h=>.inl h);replace e0:=e0.ext hS (by simp;exact n0);have bV:q<Z0j.length:=by show q<2;omega
   refine Z18 0 9 (by kernel_rfl) ?_ ?_;refine ZW rfl trivial (Z1 (vs:=[(0,str [97,110,100]),(1,str [111,114])]) rfl (bS2 _ _)) (λ_ _ h=>(Z6.stp h).mono (by simp)) rfl ?_;rintro wv wq hN;have aP:SlV [b4,bm] wq wv Z0j:=hN.slv (λc hc=>gm.hX c (by simp at hc;rcases hc with rfl|rfl<;>simp)) rfl rfl (by decide);have hT:=Z6.stp hN;clear hN;replace gm:=gm.up hT;replace s0:=s0.up hT;replace e0:=e0.up hT;clear hT;refine Z3Q [(3,0),(4,1),(9,2),(10,2),(11,2),(12,2)] (by kernel_rfl) (by kernel_rfl) (by kernel_rfl) ?_;refine D ?_;refine Z9 rfl trivial (Z3 rfl (Zh rfl rfl) (gm.kd ih.2.1 hl)) (λ_ _ h=>h.1) rfl ?_;rintro _ wq ⟨-,hS,y1,i1,p1,c1,rfl,s1,g1,cg,gm⟩;replace s0:=s0.ext hS (by simp) (λ_ h=>.inl h);replace e0:=e0.ext hS (by simp;exact n0);replace aP:=aP.ext hS (by simp) (λ_ h=>.inl h);refine D ?_;refine Z9 rfl trivial (gm.b2 s0 s1 rfl) (λ_ _ h=>h.1) rfl ?_;rintro bv wq ⟨-,hT,aI,gm⟩;replace aP:=aP.up hT;refine D ?_;refine Z9 rfl trivial (Z3 rfl (ZL rfl rfl rfl) (gm.nd 6 Z0j[q] aI)) (λ_ _ h=>h.1) rfl ?_;rintro _ wq ⟨-,hT,ky,rfl,hy,gm⟩;refine D ?_;exact FN i (e+1) (.mk 6 0 Z0j[q] [y0,y1]) gm bz bE hy (.logic _ _ _ _ (Xc bV) g0 g1) (by omega);refine ZW rfl trivial (Z3 rfl (Zh rfl rfl) (gm.kd ih.2.1 hl)) (λ_ _ h=>h.1) rfl ?_;rintro _ wq ⟨-,hS,y1,i1,p1,c1,rfl,s1,g1,cg,gm⟩;replace s0:=s0.ext hS (by simp) (λ_ h=>.inl h);replace e0:=e0.ext hS (by simp;exact n0);refine Z18 0 10 (by kernel_rfl) ?_ ?_;refine ZW rfl trivial (Z1 (vs:=[(0,str [97,110,100]),(1,str [111,114])]) rfl (bS2 _ _)) (λ_ _ h=>(Z6.stp h).mono (by simp)) rfl ?_;rintro wv wq hN;have aP:SlV [b4,bm] wq wv Z0j:=hN.slv (λc hc=>gm.hX c (by simp at hc;rcases hc with rfl|rfl<;>simp)) rfl rfl (by decide);have hT:=Z6.stp hN;clear hN;replace gm:=gm.up hT;replace s0:=s0.up hT;replace e0:=e0.up hT;replace s1:=s1.up hT;clear hT;refine Z3Q [(3,0),(4,1),(10,2),(11,2),(12,2)] (by kernel_rfl) (by kernel_rfl) (by kernel_rfl) ?_;refine D ?_;refine D ?_;refine Z9 rfl trivial (gm.b2 s0 s1 rfl) (λ_ _ h=>h.1) rfl ?_;rintro bv wq ⟨-,hT,aI,gm⟩;replace aP:=aP.up hT;refine D ?_;refine Z9 rfl trivial (Z3 rfl (ZL rfl rfl rfl) (gm.nd 6 Z0j[q] aI)) (λ_ _ h=>h.1) rfl ?_;rintro _ wq ⟨-,hT,ky,rfl,hy,gm⟩;refine D ?_;exact FN i (e+1) (.mk 6 0 Z0j[q] [y0,y1]) gm bz bE hy (.logic _ _ _ _ (Xc bV) g0 g1) (by omega);refine ZW rfl trivial (gm.b2 s0 s1 rfl) (λ_ _ h=>h.1) rfl ?_;rintro bv wq ⟨-,hT,aI,gm⟩;refine Z3Q [(0,2),(3,0),(4,1),(11,2),(12,2)] (by kernel_rfl) (by kernel_rfl) (by kernel_rfl) ?_;refine Z9 rfl trivial (Z1 (vs:=[(0,str [97,110,100]),(1,str [111,114])]) rfl (bS2 _ _)) (λ_ _ h=>(Z6.stp h).mono (by simp)) rfl ?_;rintro wv wq hN;have aP:SlV [b4,bm] wq wv Z0j:=hN.slv (λc hc=>gm.hX c (by simp at hc;rcases hc with rfl|rfl<;>simp)) rfl rfl (by decide);have hT:=Z6.stp hN;clear hN;replace gm:=gm.up hT;replace aI:=aI.up hT;clear hT;refine D ?_;refine D ?_;refine D ?_;refine Z9 rfl trivial (Z3 rfl (ZL rfl rfl rfl) (gm.nd 6 Z0j[q] aI)) (λ_ _ h=>h.1) rfl ?_;rintro _ wq ⟨-,hT,ky,rfl,hy,gm⟩;refine D ?_;exact FN i (e+1) (.mk 6 0 Z0j[q] [y0,y1]) gm bz bE hy (.logic _ _ _ _ (Xc bV) g0 g1) (by omega);by_cases k3:q=3;refine QO ?_;refine W ?_;refine Z0 (Z3 rfl (Zh rfl rfl) (gm.kd ih.2.2 hl)) rfl ?_;rintro _ wq ⟨-,hS,y0,i0,p0,c0,rfl,s0,g0,eF,gm⟩;refine Z0 Z4 rfl ?_;rintro _ wq ⟨b0',rfl,bj,e0,hT⟩;refine Z8 (Zy (us:=ndC y0 _) rfl rfl rfl rfl (Jo s0) e0 rfl) ?_;rintro _ wq ⟨ax,e0⟩;replace hT:=Jw hT bj ax;clear ax;have n0:b0'≠bm:=λh=>by have:=gm.mkr.lt;omega
   have n0':b0'≠b4:=λh=>by obtain ⟨_,_,hc⟩:=gm.blk;have:=hc.lt;omega
   replace gm:=gm.up hT;replace s0:=s0.up hT;clear hT bj;refine W ?_;refine ZDr 11 ([b4,bm]) [] [(0,0),(3,1),(4,0),(5,0),(6,0),(1,2),(2,2),(7,2),(8,2),(9,2),(10,2)] (λw1 ae=>?_);have hT:=ae;replace gm:=gm.up hT;replace s0:=s0.up hT;replace e0:=e0.up hT;clear hT ae;refine D ?_;refine Z9 rfl trivial (Z3 rfl (Zh rfl rfl) (gm.nx 6 hl)) (λ_ _ h=>h.1) rfl ?_;rintro _ wq ⟨-,hS,q',rfl,eP,gm⟩;replace s0:=s0.ext hS (by simp) (λ_ h=>.inl h);replace e0:=e0.ext hS (by simp;exact n0);refine D ?_;refine Z9 rfl trivial (Z3 rfl (ZO rfl) (Z4m q' _ (by omega))) (λ_ _ h=>h.2.mono (by simp)) rfl ?_;rintro _ wq ⟨⟨op,fW,rfl⟩,hT⟩;replace gm:=gm.up hT;replace s0:=s0.up hT;replace e0:=e0.up hT;clear hT;refine D ?_;refine Z9 rfl trivial (Z3 rfl (Zh rfl rfl) (gm.kd ih.2.2 hl)) (λ_ _ h=>h.1) rfl ?_;rintro _ wq ⟨-,hS,y1,i1,p1,c1,rfl,s1,g1,cg,gm⟩;replace s0:=s0.ext hS (by simp) (λ_ h=>.inl h);replace e0:=e0.ext hS (by simp;exact n0);refine D ?_;refine Z9 rfl trivial (gm.b2 s0 s1 rfl) (λ_ _ h=>h.1) rfl ?_;rintro bv wq ⟨-,hT,aI,gm⟩;refine D ?_;refine Z9 rfl trivial (Z3 rfl (ZL rfl rfl rfl) (gm.nd 6 op aI)) (λ_ _ h=>h.1) rfl ?_;rintro _ wq ⟨-,hT,ky,rfl,hy,gm⟩;refine D ?_;exact FN i (e+1) (.mk 6 0 op [y0,y1]) gm bz bE hy (.cmp _ 3 _ _ _ (by decide) fW g0 g1) (by omega);refine QO ?_;refine W ?_;refine Z0 (Z3 rfl (Zh rfl rfl) (gm.kd ih.1 hl)) rfl ?_;rintro _ wq ⟨-,hS,y0,i0,p0,c0,rfl,s0,g0,eF,gm⟩;refine Z0 Z4 rfl ?_;rintro _ wq ⟨b0',rfl,bj,e0,hT⟩;refine Z8 (Zy (us:=ndC y0 _) rfl rfl rfl rfl (Jo s0) e0 rfl) ?_;rintro _ wq ⟨ax,e0⟩;replace hT:=Jw hT bj ax;clear ax;have n0:b0'≠bm:=λh=>by have:=gm.mkr.lt;omega
   have n0':b0'≠b4:=λh=>by obtain ⟨_,_,hc⟩:=gm.blk;have:=hc.lt;omega
   replace gm:=gm.up hT;replace s0:=s0.up hT;clear hT bj;refine W ?_;refine ZDr 11 ([b4,bm]) [] [(0,0),(3,1),(4,0),(5,0),(6,0),(1,2),(2,2),(7,2),(8,2),(9,2),(10,2)] (λw1 ae=>?_);have hT:=ae;replace gm:=gm.up hT;replace s0:=s0.up hT;replace e0:=e0.up hT;clear hT ae;refine D ?_;refine Z9 rfl trivial (Z3 rfl (Zh rfl rfl) (gm.nx 6 hl)) (λ_ _ h=>h.1) rfl ?_;rintro _ wq ⟨-,hS,q',rfl,eP,gm⟩;replace s0:=s0.ext hS (by simp) (λ_ h=>.inl h);replace e0:=e0.ext hS (by simp;exact n0);refine D ?_;refine Z9 rfl trivial (Z3 rfl (ZO rfl) (Z4m q' _ (by omega))) (λ_ _ h=>h.2.mono (by simp)) rfl ?_;rintro _ wq ⟨⟨op,fW,rfl⟩,hT⟩;replace gm:=gm.up hT;replace s0:=s0.up hT;replace e0:=e0.up hT;clear hT;refine D ?_;refine Z9 rfl trivial (Z3 rfl (Zh rfl rfl) (gm.kd ih.1 hl)) (λ_ _ h=>h.1) rfl ?_;rintro _ wq ⟨-,hS,y1,i1,p1,c1,rfl,s1,g1,cg,gm⟩;replace s0:=s0.ext hS (by simp) (λ_ h=>.inl h);replace e0:=e0.ext hS (by simp;exact n0);refine D ?_;refine Z9 rfl trivial (gm.b2 s0 s1 rfl) (λ_ _ h=>h.1) rfl ?_;rintro bv wq ⟨-,hT,aI,gm⟩;refine D ?_;refine Z9 rfl trivial (Z3 rfl (ZL rfl rfl rfl) (gm.nd 6 op aI)) (λ_ _ h=>h.1) rfl ?_;rintro _ wq ⟨-,hT,ky,rfl,hy,gm⟩;refine D ?_;exact FN i (e+1) (.mk 6 0 op [y0,y1]) gm bz bE hy (.cmp _ 1 _ _ _ (by decide) fW g0 g1) (by omega)
set_option maxHeartbeats 1000000
def Z6L:List Str:=[[100,97,121,115],[100,97,121,115],[99,111,117,114,116,100,97,121,115],[119,101,101,107,115],[109,111,110,116,104,115]]
theorem Zcr:∀ s∈Z6L,s∈ZQ:=by decide
theorem Z6M (d:Nat) (qR:d<=6) (ih:∀ e,d=e+1->Z1L 144 1 e/\Z1L 97 2 e/\Z1L 98 3 e):Z1L 98 3 d:=by
 intro X w bm lv l i z hz aA au hl hi hX;subst hz;have br:szD (d+1)=1+3 * szD d:=rfl;refine cW2 107 Tryz.func98 ?_;refine W ?_;refine Z0 Z4 rfl ?_;rintro _ w1 ⟨b4,rfl,bE,bo,bz⟩;have gm:G3 (b4 :: bm :: X) w1 w1 bm b4 lv l i:=⟨aA.up bz,au.up bz,Stp.refl _ _,⟨_,rfl,bo⟩,λh=>by have:=aA.lt;omega,λc hc=>by
  simp only [Xa] at hc;have h1:=bo.lt;have h2:=aA.lt;have h3:=bz.size;rcases hc with rfl|rfl|hc
  exact h1;omega;have:=hX c hc;omega⟩
 clear bo hX au aA;refine W ?_;refine Z0 (Z3 rfl (Zh rfl rfl) (gm.nx 10 hl)) rfl ?_;rintro _ wq ⟨-,hS,q,rfl,hq,gm⟩;refine W ?_;refine Z0 (Z3 rfl (Zh rfl rfl) (Z59 bm lv l _ d _ _ rfl gm.mkr gm.sl)) rfl ?_;rintro _ wq ⟨dn,rfl,aw,hT⟩;replace gm:=gm.up hT;clear hT;refine W ?_;refine JG (σ:=Nat) (λk=>[(0,pQ bm),(1,.I (d:Int)),(4,pQ b4),(5,.I (k:Int))]) (λk w'=>w'=wq/\k<10/\(d=0->k<4)) ?_ ?_
 . cases dn with
   | true=>
     refine QO ?_;exact Zw (q % 4) ⟨rfl,rfl,rfl,rfl,trivial⟩ ⟨rfl,by omega,λ_=>by omega⟩
   | false=>
     refine QO ?_;exact Zw q ⟨rfl,rfl,rfl,rfl,trivial⟩ ⟨rfl,by omega,λh=>absurd (aw h) (by decide)⟩
 rintro k w3 ⟨rfl,fx,bp⟩;clear hq aw;by_cases k0:k<=1
 . (refine QP ?_ ?_<;>intro hc)
   all_goals
    refine Z0 (Z3 rfl (ZL rfl rfl rfl) (gm.nd 4 [100,97,121] (Zi _ _))) rfl ?_;rintro _ wq ⟨-,hT,ky,rfl,hy,gm⟩;exact FN i d (.mk 4 0 [100,97,121] []) gm bz bE hy (.fldD _ _ (by decide)) (by omega)
 by_cases k2:k=2;refine QO ?_;refine Z0 (Z1 (vs:=[(0,str [100,97,121]),(1,str [115,101,114,118,101,100])]) rfl (bS2 _ _)) rfl ?_;rintro wv wq hN;have aP:SlV [bm] wq wv Zas:=hN.slv (λc hc=>gm.hX c (by simp at hc;subst hc;simp)) rfl rfl (by decide);have hT:=Z6.stp hN;clear hN;replace gm:=gm.up hT;clear hT;refine W ?_;refine Z0 (Z3 rfl (Zh rfl rfl) (gm.nx 2 hl)) rfl ?_;rintro _ wq ⟨-,hS,q',rfl,eP,gm⟩;replace aP:=aP.ext hS (by simp) (λ_ h=>.inl h);have bV:q'<Zas.length:=by show q'<2;omega
 refine W ?_;refine Z0 (Z3 rfl (ZL rfl rfl rfl) (gm.nd 4 Zas[q'] (Zi _ _))) rfl ?_;rintro _ wq ⟨-,hT,ky,rfl,hy,gm⟩;exact FN i d (.mk 4 0 Zas[q'] []) gm bz bE hy (.fldD _ _ (Xc bV)) (by omega);by_cases k3:k=3;refine QO ?_;refine Z0 (Z3 rfl (Zh rfl rfl) (gm.nx 60 hl)) rfl ?_;rintro _ wq ⟨-,hS,q',rfl,eP,gm⟩;refine W ?_;apply Zc (vs:=[(0,.I 3),(1,.I _)]) rfl (Z37 _ _) rfl;have hy:SlV (α:=Nd) (b4 :: bm :: X) _ (.N) []:=Zi _ wq;exact FN i d (.mk 3 (739616+(q':Int)) [] []) gm bz bE hy (.day _ _ (by omega)) (by omega);by_cases k4:k=4;obtain ⟨e,rfl⟩:∃ e,d=e+1:=⟨d - 1,by omega⟩
 replace ih:=ih e rfl;have cC:=Z0Q e;refine QO ?_;refine Z3B 12 [b4,bm] [] rfl mixed (λw1 ae=>?_);have hT:=ae;replace gm:=gm.up hT;clear hT ae;refine JI 1 rfl trivial (λw'=>ZJ rfl) rfl (by kernel_rfl) (by kernel_rfl) ?_;refine JI 5 rfl trivial (λw'=>ZJ rfl) rfl (by kernel_rfl) (by kernel_rfl) ?_;refine JI 6 rfl trivial (λw'=>ZJ rfl) rfl (by kernel_rfl) (by kernel_rfl) ?_;refine JI 7 rfl trivial (λw'=>Z52 rfl rfl (by unfold I64;omega)) rfl (by kernel_rfl) (by kernel_rfl) ?_;refine Z18 0 2 (by kernel_rfl) ?_ ?_;refine ZW rfl trivial (Z1 (vs:=[(0,str [110,101,120,116]),(1,str [112,114,101,118])]) rfl (bS2 _ _)) (λ_ _ h=>(Z6.stp h).mn) rfl ?_;rintro wv wq hN;have aP:SlV [b4,bm] wq wv Z22:=hN.slv (λc hc=>gm.hX c (by simp at hc;rcases hc with rfl|rfl<;>simp)) rfl rfl (by decide);have hT:=Z6.stp hN;clear hN;replace gm:=gm.up hT;clear hT;refine Z3Q [(2,2),(3,0),(4,1),(8,2),(9,2),(10,2),(11,2)] (by kernel_rfl) (by kernel_rfl) (by kernel_rfl) ?_;refine Z9 rfl trivial (Z3 rfl (Zh rfl rfl) (gm.nx 2 hl)) (λ_ _ h=>h.1) rfl ?_;rintro _ wq ⟨-,hS,q,rfl,hq,gm⟩;replace aP:=aP.ext hS (by simp) (λ_ h=>.inl h);have bV:q<Z22.length:=by show q<2;omega
 refine D ?_;refine Z9 rfl trivial (Z3 rfl (Zh rfl rfl) (gm.kd ih.2.2 hl)) (λ_ _ h=>h.1) rfl ?_;rintro _ wq ⟨-,hS,y0,i0,p0,c0,rfl,s0,g0,eF,gm⟩;replace aP:=aP.ext hS (by simp) (λ_ h=>.inl h);refine D ?_;refine Z9 rfl trivial (gm.b1 s0 rfl) (λ_ _ h=>h.1) rfl ?_;rintro bv wq ⟨-,hT,aI,gm⟩;replace aP:=aP.up hT;refine D ?_;refine Z9 rfl trivial (Z3 rfl (ZL rfl rfl rfl) (gm.nd 10 Z22[q] aI)) (λ_ _ h=>h.1) rfl ?_;rintro _ wq ⟨-,hT,ky,rfl,hy,gm⟩;refine D ?_;exact FN i (e+1) (.mk 10 0 Z22[q] [y0]) gm bz bE hy (.adj _ _ _ (Xc bV) g0) (by omega);refine ZW rfl trivial (Z3 rfl (Zh rfl rfl) (gm.nx 2 hl)) (λ_ _ h=>h.1) rfl ?_;rintro _ wq ⟨-,hS,q,rfl,hq,gm⟩;have bV:q<Z22.length:=by show q<2;omega
 refine Z18 0 8 (by kernel_rfl) ?_ ?_;refine ZW rfl trivial (Z1 (vs:=[(0,str [110,101,120,116]),(1,str [112,114,101,118])]) rfl (bS2 _ _)) (λ_ _ h=>(Z6.stp h).mn) rfl ?_;rintro wv wq hN;have aP:SlV [b4,bm] wq wv Z22:=hN.slv (λc hc=>gm.hX c (by simp at hc;rcases hc with rfl|rfl<;>simp)) rfl rfl (by decide);have hT:=Z6.stp hN;clear hN;replace gm:=gm.up hT;clear hT;refine Z3Q [(3,0),(4,1),(8,2),(9,2),(10,2),(11,2)] (by kernel_rfl) (by kernel_rfl) (by kernel_rfl) ?_;refine D ?_;refine Z9 rfl trivial (Z3 rfl (Zh rfl rfl) (gm.kd ih.2.2 hl)) (λ_ _ h=>h.1) rfl ?_;rintro _ wq ⟨-,hS,y0,i0,p0,c0,rfl,s0,g0,eF,gm⟩;replace aP:=aP.ext hS (by simp) (λ_ h=>.inl h);refine D ?_;refine Z9 rfl trivial (gm.b1 s0 rfl) (λ_ _ h=>h.1) rfl ?_;rintro bv wq ⟨-,hT,aI,gm⟩;replace aP:=aP.up hT;refine D ?_;refine Z9 rfl trivial (Z3 rfl (ZL rfl rfl rfl) (gm.nd 10 Z22[q] aI)) (λ_ _ h=>h.1) rfl ?_;rintro _ wq ⟨-,hT,ky,rfl,hy,gm⟩;refine D ?_;exact FN i (e+1) (.mk 10 0 Z22[q] [y0]) gm bz bE hy (.adj _ _ _ (Xc bV) g0) (by omega);refine ZW rfl trivial (Z3 rfl (Zh rfl rfl) (gm.kd ih.2.2 hl)) (λ_ _ h=>h.1) rfl ?_;rintro _ wq ⟨-,hS,y0,i0,p0,c0,rfl,s0,g0,eF,gm⟩;refine Z18 0 9 (by kernel_rfl) ?_ ?_;refine ZW rfl trivial (Z1 (vs:=[(0,str [110,101,120,116]),(1,str [112,114,101,118])]) rfl (bS2 _ _)) (λ_ _ h=>(Z6.stp h).mn) rfl ?_;rintro wv wq hN;have aP:SlV [b4,bm] wq wv Z22:=hN.slv (λc hc=>gm.hX c (by simp at hc;rcases hc with rfl|rfl<;>simp)) rfl rfl (by decide);have hT:=Z6.stp hN;clear hN;replace gm:=gm.up hT;replace s0:=s0.up hT;clear hT;refine Z3Q [(3,0),(4,1),(9,2),(10,2),(11,2)] (by kernel_rfl) (by kernel_rfl) (by kernel_rfl) ?_;refine D ?_;refine D ?_;refine Z9 rfl trivial (gm.b1 s0 rfl) (λ_ _ h=>h.1) rfl ?_;rintro bv wq ⟨-,hT,aI,gm⟩;replace aP:=aP.up hT;refine D ?_;refine Z9 rfl trivial (Z3 rfl (ZL rfl rfl rfl) (gm.nd 10 Z22[q] aI)) (λ_ _ h=>h.1) rfl ?_;rintro _ wq ⟨-,hT,ky,rfl,hy,gm⟩;refine D ?_;exact FN i (e+1) (.mk 10 0 Z22[q] [y0]) gm bz bE hy (.adj _ _ _ (Xc bV) g0) (by omega);refine ZW rfl trivial (gm.b1 s0 rfl) (λ_ _ h=>h.1) rfl ?_;rintro bv wq ⟨-,hT,aI,gm⟩;refine Z3Q [(0,2),(3,0),(4,1),(10,2),(11,2)] (by kernel_rfl) (by kernel_rfl) (by kernel_rfl) ?_;refine Z9 rfl trivial (Z1 (vs:=[(0,str [110,101,120,116]),(1,str [112,114,101,118])]) rfl (bS2 _ _)) (λ_ _ h=>(Z6.stp h).mn) rfl ?_;rintro wv wq hN;have aP:SlV [b4,bm] wq wv Z22:=hN.slv (λc hc=>gm.hX c (by simp at hc;rcases hc with rfl|rfl<;>simp)) rfl rfl (by decide);have hT:=Z6.stp hN;clear hN;replace gm:=gm.up hT;replace aI:=aI.up hT;clear hT;refine D ?_;refine D ?_;refine D ?_;refine Z9 rfl trivial (Z3 rfl (ZL rfl rfl rfl) (gm.nd 10 Z22[q] aI)) (λ_ _ h=>h.1) rfl ?_;rintro _ wq ⟨-,hT,ky,rfl,hy,gm⟩;refine D ?_;exact FN i (e+1) (.mk 10 0 Z22[q] [y0]) gm bz bE hy (.adj _ _ _ (Xc bV) g0) (by omega);by_cases k5:k=5;obtain ⟨e,rfl⟩:∃ e,d=e+1:=⟨d - 1,by omega⟩
 replace ih:=ih e rfl;have cC:=Z0Q e;refine QO ?_;refine W ?_;refine Z0 (Z3 rfl (Zh rfl rfl) (gm.kd ih.2.2 hl)) rfl ?_;rintro _ wq ⟨-,hS,y0,i0,p0,c0,rfl,s0,g0,eF,gm⟩;refine Z0 Z4 rfl ?_;rintro _ wq ⟨b0',rfl,bj,e0,hT⟩;refine SB (us:=ndC y0 _) (Jo s0) e0 ?_;rintro _ wq ⟨ax,e0⟩;replace hT:=Jw hT bj ax;clear ax;have n0:b0'≠bm:=λh=>by have:=gm.mkr.lt;omega
 have n0':b0'≠b4:=λh=>by obtain ⟨_,_,hc⟩:=gm.blk;have:=hc.lt;omega
 replace gm:=gm.up hT;replace s0:=s0.up hT;clear hT bj;refine W ?_;refine Z3B 13 [b4,bm] [] rfl mixed (λw1 ae=>?_);have hT:=ae;replace gm:=gm.up hT;replace s0:=s0.up hT;replace e0:=e0.up hT;clear hT ae;refine JI 1 rfl trivial (λw'=>ZJ rfl) rfl (by kernel_rfl) (by kernel_rfl) ?_;refine Z9e 5 rfl trivial (λw' aL=>ZY rfl rfl (e0.ext aL (by simp;exact ⟨n0',n0⟩)) rfl) rfl (by kernel_rfl) (by kernel_rfl) ?_;refine JI 6 rfl trivial (λw'=>ZJ rfl) rfl (by kernel_rfl) (by kernel_rfl) ?_;refine JI 7 rfl trivial (λw'=>ZJ rfl) rfl (by kernel_rfl) (by kernel_rfl) ?_;refine JI 8 rfl trivial (λw'=>Z52 rfl rfl (by unfold I64;omega)) rfl (by kernel_rfl) (by kernel_rfl) ?_;refine Z18 0 2 (by kernel_rfl) ?_ ?_;refine ZW rfl trivial (Z1 (vs:=[(0,str [108,97,116,101,114]),(1,str [101,97,114,108,105,101,114])]) rfl (bS2 _ _)) (λ_ _ h=>(Z6.stp h).mn) rfl ?_;rintro wv wq hN;have aP:SlV [b4,bm] wq wv Z23:=hN.slv (λc hc=>gm.hX c (by simp at hc;rcases hc with rfl|rfl<;>simp)) rfl rfl (by decide);have hT:=Z6.stp hN;clear hN;replace gm:=gm.up hT;replace s0:=s0.up hT;replace e0:=e0.up hT;clear hT;refine Z3Q [(2,2),(3,0),(4,1),(9,2),(10,2),(11,2),(12,2)] (by kernel_rfl) (by kernel_rfl) (by kernel_rfl) ?_;refine Z9 rfl trivial (Z3 rfl (Zh rfl rfl) (gm.nx 2 hl)) (λ_ _ h=>h.1) rfl ?_;rintro _ wq ⟨-,hS,q,rfl,hq,gm⟩;replace s0:=s0.ext hS (by simp) (λ_ h=>.inl h);replace e0:=e0.ext hS (by simp;exact n0);replace aP:=aP.ext hS (by simp) (λ_ h=>.inl h);have bV:q<Z23.length:=by show q<2;omega
 refine D ?_;refine Z9 rfl trivial (Z3 rfl (Zh rfl rfl) (gm.kd ih.2.2 hl)) (λ_ _ h=>h.1) rfl ?_;rintro _ wq ⟨-,hS,y1,i1,p1,c1,rfl,s1,g1,cg,gm⟩;replace s0:=s0.ext hS (by simp) (λ_ h=>.inl h);replace e0:=e0.ext hS (by simp;exact n0);replace aP:=aP.ext hS (by simp) (λ_ h=>.inl h);refine D ?_;refine Z9 rfl trivial (gm.b2 s0 s1 rfl) (λ_ _ h=>h.1) rfl ?_;rintro bv wq ⟨-,hT,aI,gm⟩;replace aP:=aP.up hT;refine D ?_;refine Z9 rfl trivial (Z3 rfl (ZL rfl rfl rfl) (gm.nd 10 Z23[q] aI)) (λ_ _ h=>h.1) rfl ?_;rintro _ wq ⟨-,hT,ky,rfl,hy,gm⟩;refine D ?_;exact FN i (e+1) (.mk 10 0 Z23[q] [y0,y1]) gm bz bE hy (.two _ _ _ _ (Xc bV) g0 g1) (by omega);refine ZW rfl trivial (Z3 rfl (Zh rfl rfl) (gm.nx 2 hl)) (λ_ _ h=>h.1) rfl ?_;rintro _ wq ⟨-,hS,q,rfl,hq,gm⟩;replace s0:=s0.ext hS (by simp) (λ_ h=>.inl h);replace e0:=e0.ext hS (by simp;exact n0);have bV:q<Z23.length:=by show q<2;omega
 refine Z18 0 9 (by kernel_rfl) ?_ ?_;refine ZW rfl trivial (Z1 (vs:=[(0,str [108,97,116,101,114]),(1,str [101,97,114,108,105,101,114])]) rfl (bS2 _ _)) (λ_ _ h=>(Z6.stp h).mn) rfl ?_;rintro wv wq hN;have aP:SlV [b4,bm] wq wv Z23:=hN.slv (λc hc=>gm.hX c (by simp at hc;rcases hc with rfl|rfl<;>simp)) rfl rfl (by decide);have hT:=Z6.stp hN;clear hN;replace gm:=gm.up hT;replace s0:=s0.up hT;replace e0:=e0.up hT;clear hT;refine Z3Q [(3,0),(4,1),(9,2),(10,2),(11,2),(12,2)] (by kernel_rfl) (by kernel_rfl) (by kernel_rfl) ?_;refine D ?_;refine Z9 rfl trivial (Z3 rfl (Zh rfl rfl) (gm.kd ih.2.2 hl)) (λ_ _ h=>h.1) rfl ?_;rintro _ wq ⟨-,hS,y1,i1,p1,c1,rfl,s1,g1,cg,gm⟩;replace s0:=s0.ext hS (by simp) (λ_ h=>.inl h);replace e0:=e0.ext hS (by simp;exact n0);replace aP:=aP.ext hS (by simp) (λ_ h=>.inl h);refine D ?_;refine Z9 rfl trivial (gm.b2 s0 s1 rfl) (λ_ _ h=>h.1) rfl ?_;rintro bv wq ⟨-,hT,aI,gm⟩;replace aP:=aP.up hT;refine D ?_;refine Z9 rfl trivial (Z3 rfl (ZL rfl rfl rfl) (gm.nd 10 Z23[q] aI)) (λ_ _ h=>h.1) rfl ?_;rintro _ wq ⟨-,hT,ky,rfl,hy,gm⟩;refine D ?_;exact FN i (e+1) (.mk 10 0 Z23[q] [y0,y1]) gm bz bE hy (.two _ _ _ _ (Xc bV) g0 g1) (by omega);refine ZW rfl trivial (Z3 rfl (Zh rfl rfl) (gm.kd ih.2.2 hl)) (λ_ _ h=>h.1) rfl ?_;rintro _ wq ⟨-,hS,y1,i1,p1,c1,rfl,s1,g1,cg,gm⟩;replace s0:=s0.ext hS (by simp) (λ_ h=>.inl h);replace e0:=e0.ext hS (by simp;exact n0);refine Z18 0 10 (by kernel_rfl) ?_ ?_;refine ZW rfl trivial (Z1 (vs:=[(0,str [108,97,116,101,114]),(1,str [101,97,114,108,105,101,114])]) rfl (bS2 _ _)) (λ_ _ h=>(Z6.stp h).mn) rfl ?_;rintro wv wq hN;have aP:SlV [b4,bm] wq wv Z23:=hN.slv (λc hc=>gm.hX c (by simp at hc;rcases hc with rfl|rfl<;>simp)) rfl rfl (by decide);have hT:=Z6.stp hN;clear hN;replace gm:=gm.up hT;replace s0:=s0.up hT;replace e0:=e0.up hT;replace s1:=s1.up hT;clear hT;refine Z3Q [(3,0),(4,1),(10,2),(11,2),(12,2)] (by kernel_rfl) (by kernel_rfl) (by kernel_rfl) ?_;refine D ?_;refine D ?_;refine Z9 rfl trivial (gm.b2 s0 s1 rfl) (λ_ _ h=>h.1) rfl ?_;rintro bv wq ⟨-,hT,aI,gm⟩;replace aP:=aP.up hT;refine D ?_;refine Z9 rfl trivial (Z3 rfl (ZL rfl rfl rfl) (gm.nd 10 Z23[q] aI)) (λ_ _ h=>h.1) rfl ?_;rintro _ wq ⟨-,hT,ky,rfl,hy,gm⟩;refine D ?_;exact FN i (e+1) (.mk 10 0 Z23[q] [y0,y1]) gm bz bE hy (.two _ _ _ _ (Xc bV) g0 g1) (by omega);refine ZW rfl trivial (gm.b2 s0 s1 rfl) (λ_ _ h=>h.1) rfl ?_;rintro bv wq ⟨-,hT,aI,gm⟩;refine Z3Q [(0,2),(3,0),(4,1),(11,2),(12,2)] (by kernel_rfl) (by kernel_rfl) (by kernel_rfl) ?_;refine Z9 rfl trivial (Z1 (vs:=[(0,str [108,97,116,101,114]),(1,str [101,97,114,108,105,101,114])]) rfl (bS2 _ _)) (λ_ _ h=>(Z6.stp h).mn) rfl ?_;rintro wv wq hN;have aP:SlV [b4,bm] wq wv Z23:=hN.slv (λc hc=>gm.hX c (by simp at hc;rcases hc with rfl|rfl<;>simp)) rfl rfl (by decide);have hT:=Z6.stp hN;clear hN;replace gm:=gm.up hT;replace aI:=aI.up hT;clear hT;refine D ?_;refine D ?_;refine D ?_;refine Z9 rfl trivial (Z3 rfl (ZL rfl rfl rfl) (gm.nd 10 Z23[q] aI)) (λ_ _ h=>h.1) rfl ?_;rintro _ wq ⟨-,hT,ky,rfl,hy,gm⟩;refine D ?_;exact FN i (e+1) (.mk 10 0 Z23[q] [y0,y1]) gm bz bE hy (.two _ _ _ _ (Xc bV) g0 g1) (by omega);by_cases k6:k=6;obtain ⟨e,rfl⟩:∃ e,d=e+1:=⟨d - 1,by omega⟩
 replace ih:=ih e rfl;have cC:=Z0Q e;refine QO ?_;refine W ?_;refine Z0 (Z3 rfl (Zh rfl rfl) (gm.kd ih.2.1 hl)) rfl ?_;rintro _ wq ⟨-,hS,y0,i0,p0,c0,rfl,s0,g0,eF,gm⟩;refine Z0 Z4 rfl ?_;rintro _ wq ⟨b0',rfl,bj,e0,hT⟩;refine SB (us:=ndC y0 _) (Jo s0) e0 ?_;rintro _ wq ⟨ax,e0⟩;replace hT:=Jw hT bj ax;clear ax;have n0:b0'≠bm:=λh=>by have:=gm.mkr.lt;omega
 have n0':b0'≠b4:=λh=>by obtain ⟨_,_,hc⟩:=gm.blk;have:=hc.lt;omega
 replace gm:=gm.up hT;replace s0:=s0.up hT;clear hT bj;refine W ?_;refine Z0 (Z3 rfl (Zh rfl rfl) (gm.kd ih.2.2 hl)) rfl ?_;rintro _ wq ⟨-,hS,y1,i1,p1,c1,rfl,s1,g1,cg,gm⟩;replace s0:=s0.ext hS (by simp) (λ_ h=>.inl h);replace e0:=e0.ext hS (by simp;exact n0);refine Z0 Z4 rfl ?_;rintro _ wq ⟨b1',rfl,gC,e1,hT⟩;refine SB (us:=ndC y1 _) (Jo s1) e1 ?_;rintro _ wq ⟨ax,e1⟩;replace hT:=Jw hT gC ax;clear ax;have n1:b1'≠bm:=λh=>by have:=gm.mkr.lt;omega
 have n1':b1'≠b4:=λh=>by obtain ⟨_,_,hc⟩:=gm.blk;have:=hc.lt;omega
 replace gm:=gm.up hT;replace s0:=s0.up hT;replace e0:=e0.up hT;replace s1:=s1.up hT;clear hT gC;refine W ?_;refine ZDr 9 ([b4,bm]) [] [(0,1),(1,1),(2,0),(3,0),(4,0),(5,2),(6,2),(7,2),(8,2)] (λw1 ae=>?_);have hT:=ae;replace gm:=gm.up hT;replace s0:=s0.up hT;replace e0:=e0.up hT;replace s1:=s1.up hT;replace e1:=e1.up hT;clear hT ae;refine WD_read rfl trivial (λw' aL=>ZY rfl rfl (e0.ext aL (by simp;exact ⟨n0',n0⟩)) rfl) rfl ?_;refine WD_read rfl trivial (λw' aL=>ZY rfl rfl (e1.ext aL (by simp;exact ⟨n1',n1⟩)) rfl) rfl ?_;refine D ?_;refine Z9 rfl trivial (Z3 rfl (Zh rfl rfl) (gm.kd ih.2.2 hl)) (λ_ _ h=>h.1) rfl ?_;rintro _ wq ⟨-,hS,y2,i2,p2,c2,rfl,s2,g2,bI,gm⟩;replace s0:=s0.ext hS (by simp) (λ_ h=>.inl h);replace e0:=e0.ext hS (by simp;exact n0);replace s1:=s1.ext hS (by simp) (λ_ h=>.inl h);replace e1:=e1.ext hS (by simp;exact n1);refine D ?_;refine Z9 rfl trivial (gm.b3 s0 s1 s2 rfl) (λ_ _ h=>h.1) rfl ?_;rintro bv wq ⟨-,hT,aI,gm⟩;refine D ?_;refine Z9 rfl trivial (Z3 rfl (ZL rfl rfl rfl) (gm.nd 9 [] aI)) (λ_ _ h=>h.1) rfl ?_;rintro _ wq ⟨-,hT,ky,rfl,hy,gm⟩;refine D ?_;exact FN i (e+1) (.mk 9 0 [] [y0,y1,y2]) gm bz bE hy (.cond _ _ _ _ _ (by decide) g0 g1 g2) (by omega);obtain ⟨e,rfl⟩:∃ e,d=e+1:=⟨d - 1,by omega⟩
 replace ih:=ih e rfl;have cC:=Z0Q e;refine QO ?_;refine W ?_;refine Z0 (Z3 rfl (Zh rfl rfl) (gm.kd ih.2.2 hl)) rfl ?_;rintro _ wq ⟨-,hS,y0,i0,p0,c0,rfl,s0,g0,eF,gm⟩;refine Z0 Z4 rfl ?_;rintro _ wq ⟨b0',rfl,bj,e0,hT⟩;refine SB (us:=ndC y0 _) (Jo s0) e0 ?_;rintro _ wq ⟨ax,e0⟩;replace hT:=Jw hT bj ax;clear ax;have n0:b0'≠bm:=λh=>by have:=gm.mkr.lt;omega
 have n0':b0'≠b4:=λh=>by obtain ⟨_,_,hc⟩:=gm.blk;have:=hc.lt;omega
 replace gm:=gm.up hT;replace s0:=s0.up hT;clear hT bj;refine W ?_;refine Z0 (Z1 (vs:=[(0,str [100,97,121,115]),(1,str [100,97,121,115]),(2,str [99,111,117,114,116,100,97,121,115]),(3,str [119,101,101,107,115]),(4,str [109,111,110,116,104,115])]) rfl (bS5 _ _ _ _ _)) rfl ?_;rintro wv wq hN;have aP:SlV [b4,bm] wq wv Z6L:=hN.slv (λc hc=>gm.hX c (by simp at hc;rcases hc with rfl|rfl<;>simp)) rfl rfl (by decide);have hT:=Z6.stp hN;clear hN;replace gm:=gm.up hT;replace s0:=s0.up hT;replace e0:=e0.up hT;clear hT;refine W ?_;refine Z0 (Z3 rfl (Zh rfl rfl) (gm.nx 5 hl)) rfl ?_;rintro _ wq ⟨-,hS,q',rfl,eP,gm⟩;replace s0:=s0.ext hS (by simp) (λ_ h=>.inl h);replace e0:=e0.ext hS (by simp;exact n0);replace aP:=aP.ext hS (by simp) (λ_ h=>.inl h);have bV:q'<Z6L.length:=by show q'<5;omega
 have hu:=Zcr _ (Xc bV);refine W ?_;clear aP;refine ZDr 13 ([b4,bm]) [] [(0,0),(4,0),(5,1),(6,0),(7,0),(8,0),(1,2),(2,0),(3,0),(9,2),(10,2),(11,2),(12,2)] (λw1 ae=>?_);have hT:=ae;replace gm:=gm.up hT;replace s0:=s0.up hT;replace e0:=e0.up hT;clear hT ae;refine D ?_;refine Z9 rfl trivial (Z3 rfl (Zh rfl rfl) (gm.nx 4 hl)) (λ_ _ h=>h.1) rfl ?_;rintro _ wq ⟨-,hS,q4,rfl,lD,gm⟩;replace s0:=s0.ext hS (by simp) (λ_ h=>.inl h);replace e0:=e0.ext hS (by simp;exact n0);refine D ?_;refine Z9 rfl trivial (Z3 rfl (Zh rfl rfl) (gm.kd ih.1 hl)) (λ_ _ h=>h.1) rfl ?_;rintro _ wq ⟨-,hS,y1,i1,p1,c1,rfl,s1,g1,cg,gm⟩;replace s0:=s0.ext hS (by simp) (λ_ h=>.inl h);replace e0:=e0.ext hS (by simp;exact n0);refine D ?_;refine Z9 rfl trivial (gm.b2 s0 s1 rfl) (λ_ _ h=>h.1) rfl ?_;rintro bv wq ⟨-,hT,aI,gm⟩;refine D ?_;refine Z9 rfl trivial (Z3 rfl (ZL rfl rfl rfl) (gm.nd (7+(q4:Int) / 3) Z6L[q'] aI)) (λ_ _ h=>h.1) rfl ?_;rintro _ wq ⟨-,hT,ky,rfl,hy,gm⟩;refine D ?_;exact FN i (e+1) (.mk (7+(q4:Int) / 3) 0 Z6L[q'] [y0,y1]) gm bz bE hy (.move _ _ _ _ _ (by omega) hu g0 g1) (by omega)
end Go.Proofs.YteibicnbkggiiaaGreatDoor
namespace Go.Eng
open Go Go.RowKit Go.Proofs
structure RuleM where
 name:Str
 frm:Int
 on:Str
 cond:Nd
 due:Nd
 unl:Str
 els:Str
abbrev bts (s:Str):ByteArray:=⟨s.toArray⟩
def Itr (w:World) (b:Nat) (s:Str) (p:Nat):Prop:=w.heap[b]?=some (.stringIter (bts s) p)
theorem Itr.lt {w} {b p:Nat} {s:Str} (h:Itr w b s p):b<w.heap.size:=(Xm.1 h).1
def dec (s:Str) (p:Nat):Nat×Nat:=Utf8.decode (bts s) p
theorem Z6N (s:Str):(bts s).size=s.length:=by simp [ByteArray.size]
theorem ZeQ {s:Str} {p:Nat} (h:p<s.length) (ha:(s[p]).toNat<128):dec s p=((s[p]).toNat,1):=by
 have h1:p<(bts s).size:=by rw [Z6N];exact h
 have e:(bts s)[p]'h1=s[p]:=by simp [bts,ByteArray.getElem_eq_getElem_data]
 have:=decode_ascii (bts s) p h1 (by rw [e];exact ha);rw [e] at this;exact this
section
variable {P:Program} {n:Nat} {e:Env} {w:World} {d:Option Nat} {ty:TypeId} {pos:String} {af:Array Edge} {g:Option (Nat×Bool)}
theorem ZhV {x:Operand} {t:TypeId} {s:Str} [hu:Und P t .string] (hx:ev e x=some (str s)):OE P n ⟨d,.range t x,ty,pos,af,g⟩ e w (λv w'=>∃ b,v=pQ b/\w.heap.size<=b/\Itr w' b s 0/\Stp [] w w'):=
 Zv (v:=.pointer (some ⟨w.heap.size,0,none⟩)) (w':=w.iter (bts s) 0) (λa ha=>by
  have:=run_range_string (P:=P) w t (bts s) hu.h;simp [execOp,ha.ev hx,this]) ⟨w.heap.size,rfl,Xq _,World.iter_heap _ _ _,Stp.alloc _ _ _⟩
theorem Zlj {x:Operand} {s:Str} {b p:Nat} (hx:ev e x=some (pQ b)) (hI:Itr w b s p) (hp:p<s.length) :
 OE P n ⟨d,.next x true,ty,pos,af,g⟩ e w (λv w'=>v=.tuple #[.B true,.I p,.int .i32 ((dec s p).1:Int)]/\Itr w' b s (p+(dec s p).2)/\Stp [b] w w'):=by
 have hlt:=hI.lt;have oy:p<(bts s).size:=by rw [Z6N];exact hp
 unfold Itr at hI;refine Zv (v:=.tuple #[.B true,.I p,.int .i32 ((dec s p).1:Int)]) (w':={ w with heap:=w.heap.setIfInBounds b (.stringIter (bts s) (p+(dec s p).2)) }) (λa ha=>?_) ⟨rfl,?_,⟨rfl,rfl,rfl,by simp,λk hk hn=>?_⟩⟩
 . simp [execOp,ha.ev hx,Instr.next,getObj,setObj,Sem.run,hI,oy,goInt,dec]
 show (w.heap.setIfInBounds b _)[b]?=_;simp [hlt];show (w.heap.setIfInBounds b _)[k]?=_;exact Yad (by simpa using λh=>hn (by simp [h]))
theorem Zcs {x:Operand} {s:Str} {b p:Nat} (hx:ev e x=some (pQ b)) (hI:Itr w b s p) (hp:¬ p<s.length) :
 OE P n ⟨d,.next x true,ty,pos,af,g⟩ e w (λv w'=>v=.tuple #[.B false]/\w'=w):=by
 have oy:¬ p<(bts s).size:=by rw [Z6N];exact hp
 unfold Itr at hI;refine Zv (v:=.tuple #[.B false]) (w':=w) (λa ha=>?_) ⟨rfl,rfl⟩;simp [execOp,ha.ev hx,Instr.next,getObj,Sem.run,hI,oy]
theorem ZhW {x:Operand} {t:TypeId} {i:Nat} {u v:Value} (hx:ev e x=some u) (hb:∀ w,(Instr.field t u i).run P w=.ok v w):PR P n ⟨d,.field t x i,ty,pos,af,g⟩ e w v:=
 ⟨λa ha=>by simp [execOp,ha.ev hx,hb]⟩
end
def Z0s (y:Int):Bool:=decide (y % 4=0) && (decide (¬ y % 100=0) || decide (y % 400=0))
def ZG (y m:Int):Int:=
 if m<1\/12<m then 0 else if m=2 then (if Z0s y then 29 else 28) else if m=4\/m=6\/m=9\/m=11 then 30 else 31
def Z07 (y m d:Int):Int:=
 let (y,m):=if m - 3<0 then (y - 1,m+9) else (y,m - 3)
 365 * y+y / 4 - y / 100+y / 400+(153 * m+2) / 5+d - 307
theorem Z4a (y m:Int):ZG y m<=31:=by
 unfold ZG;repeat' split
 all_goals omega
def Z4o (d:Nat):Nat:=(d - d / 1460+d / 36524 - d / 146096) / 365
def Z5a (y:Nat):Nat:=365 * y+y / 4 - y / 100
def ZhX (y:Nat):Bool:=Nat.beq (y % 4) 0 && (!(Nat.beq (y % 100) 0) || Nat.beq (y % 400) 0)
def Zr7 (d:Nat):Bool:=Nat.ble 146097 d || (Nat.ble (Z5a (Z4o d)) d && (Nat.blt d (Z5a (Z4o d)+365) || (Nat.beq d (Z5a (Z4o d)+365) && ZhX (Z4o d+1))))
def ZhY:Nat->Nat->Bool
 | 0,lo=>Zr7 lo
 | k+1,lo=>ZhY k lo && ZhY k (lo+2 ^ k)
theorem Z5b:∀ (k lo d:Nat),ZhY k lo=true->lo<=d->d<lo+2 ^ k->Zr7 d=true
 | 0, lo, d, h, h1, h2 => by
   have:d=lo:=by simp at h2;omega
   subst this;exact h
 | k + 1, lo, d, h, h1, h2 => by
   simp only [ZhY,Xd] at h;rw [YbH] at h2;rcases YbG d (lo+2 ^ k) with h3|h3
   exact Z5b k lo d h.1 h1 h3;exact Z5b k (lo+2 ^ k) d h.2 h3 (by omega)
theorem ZhZ:ZhY 18 0=true:=by kernel_rfl
theorem Zi0 (y:Nat):ZhX y=Z0s (y:Int):=by
 unfold ZhX Z0s;have h:∀ a b:Nat,Nat.beq (a % b) 0=decide ((a:Int) % (b:Int)=0):=λa b=>by
  rw [Ybn];simp only [decide_eq_true_eq];rw [Nat.beq_eq];omega
 rw [show Nat.beq (y % 4) 0=decide ((y:Int) % 4=0) from h y 4,show Nat.beq (y % 100) 0=decide ((y:Int) % 100=0) from h y 100,show Nat.beq (y % 400) 0=decide ((y:Int) % 400=0) from h y 400];simp
structure Dat where
 y:Int
 m:Int
 d:Int
def ofM (day:Int):Dat:=
 let z:=day+306
 let era:=z / 146097
 let doe:=z % 146097
 let yoe:=(doe - doe / 1460+doe / 36524 - doe / 146096) / 365
 let doy:=doe - (365 * yoe+yoe / 4 - yoe / 100)
 let m:=(5 * doy+2) / 153
 if m>=10 then ⟨yoe+400 * era+1,m - 9,doy - (153 * m+2) / 5+1⟩ else ⟨yoe+400 * era,m+3,doy - (153 * m+2) / 5+1⟩
theorem Zi1:∀ q:Nat,q<366->(5 * q+2) / 153<=11/\(153 * ((5 * q+2) / 153)+2) / 5<=q/\
 q - (153 * ((5 * q+2) / 153)+2) / 5+1<=(if (5 * q+2) / 153=11 then (if q=365 then 29 else 28) else if (5 * q+2) / 153=1\/(5 * q+2) / 153=3\/(5 * q+2) / 153=6\/(5 * q+2) / 153=8 then 30 else 31):=by decide +kernel
theorem Zi2 (doe:Int) (h0:0<=doe) (h1:doe<146097):∃ yoe doy:Nat,(doe - doe / 1460+doe / 36524 - doe / 146096) / 365=(yoe:Int)/\doe - (365 * (yoe:Int)+(yoe:Int) / 4 - (yoe:Int) / 100)=(doy:Int)/\yoe<=399/\doy<=365/\(doy=365->Z0s ((yoe:Int)+1)=true):=by
 obtain ⟨d,rfl⟩:∃ d:Nat,doe=(d:Int):=⟨doe.toNat,by omega⟩
 have hd:d<146097:=by omega
 have h:=Z5b 18 0 d ZhZ (by omega) (by omega);unfold Zr7 at h;rw [show Nat.ble 146097 d=false by rw [Ybe];simp;omega] at h;simp only [YbR,Xd,YaZ,Nat.ble_eq,Nat.beq_eq] at h;obtain ⟨h2,h3⟩:=h;have hy:((d:Int) - (d:Int) / 1460+(d:Int) / 36524 - (d:Int) / 146096) / 365=((Z4o d:Nat):Int):=by unfold Z4o;omega
 have oz:Z4o d<=399:=by unfold Z4o;omega
 have ar:(Z5a (Z4o d):Int)=365 * (Z4o d:Int)+(Z4o d:Int) / 4 - (Z4o d:Int) / 100:=by unfold Z5a;omega
 refine ⟨Z4o d,d - Z5a (Z4o d),hy,by omega,oz,?_,λh4=>?_⟩;rcases h3 with h3|h3
 have:=Xg h3;omega;have:=h3.1;omega;rcases h3 with h3|h3
 have:=Xg h3;omega;have:=h3.2;rw [Zi0] at this;exact this
theorem ZeR (y e:Int):Z0s (y+400 * e)=Z0s y:=by
 unfold Z0s;have h4:(y+400 * e) % 4=y % 4:=by omega
 have eW:(y+400 * e) % 100=y % 100:=by omega
 have oA:(y+400 * e) % 400=y % 400:=by omega
 rw [h4,eW,oA]
theorem Z9f {n:Int} (h0:0<=n) (h1:n<=3652058):1<=(ofM n).y/\(ofM n).y<=9999/\1<=(ofM n).m/\(ofM n).m<=12/\1<=(ofM n).d/\(ofM n).d<=ZG (ofM n).y (ofM n).m/\Z07 (ofM n).y (ofM n).m (ofM n).d=n:=by
 obtain ⟨yoe,doy,e1,e2,hy,hd,hl⟩:=Zi2 ((n+306) % 146097) (by omega) (by omega);obtain ⟨m1,m2,m3⟩:=Zi1 doy (by omega);have tg:(n+306) / 146097 * 146097+(n+306) % 146097=n+306:=by omega
 unfold ofM;simp only;rw [e1,e2];have em:(5 * (doy:Int)+2) / 153=(((5 * doy+2) / 153:Nat):Int):=by omega
 rw [em];have ek:(153 * (((5 * doy+2) / 153:Nat):Int)+2) / 5=(((153 * ((5 * doy+2) / 153)+2) / 5:Nat):Int):=by omega
 rw [ek];generalize (n+306) / 146097=era at *;generalize (n+306) % 146097=doe at *;have qS:∀ m:Nat,m<=11->(153 * (m:Int)+2) / 5=(((153 * m+2) / 5:Nat):Int):=λm _=>by omega
 generalize hm:(5 * doy+2) / 153=m at *;have q4:((yoe:Int)+400 * era) / 4=(yoe:Int) / 4+100 * era:=by omega
 have q100:((yoe:Int)+400 * era) / 100=(yoe:Int) / 100+4 * era:=by omega
 have q400:((yoe:Int)+400 * era) / 400=era:=by omega
 by_cases gw:((m:Nat):Int)>=10;rw [if_pos gw];simp only;have iz:Z07 ((yoe:Int)+400 * era+1) ((m:Int) - 9) ((doy:Int) - (((153 * m+2) / 5:Nat):Int)+1)=n:=by
  unfold Z07;rw [if_pos (by omega)];simp only;rw [show (yoe:Int)+400 * era+1 - 1=(yoe:Int)+400 * era by omega,show (m:Int) - 9+9=(m:Int) by omega,qS m m1,q4,q100,q400];omega
 refine ⟨?_,?_,by omega,by omega,by omega,?_,iz⟩;omega;omega;have lf:m=10\/m=11:=by omega
 rcases lf with rfl|rfl
 unfold ZG;rw [if_neg (by omega),if_neg (by omega),if_neg (by omega)];rw [if_neg (by omega),if_neg (by omega)] at m3;omega;unfold ZG;rw [if_neg (by omega),if_pos (by omega)];rw [if_pos rfl] at m3;by_cases jI:doy=365;rw [if_pos jI] at m3;have fy:Z0s ((yoe:Int)+400 * era+1)=true:=by
  rw [show (yoe:Int)+400 * era+1=((yoe:Int)+1)+400 * era by omega,ZeR];exact hl jI
 rw [fy];simp only [if_true];omega;rw [if_neg jI] at m3;split<;>omega
 rw [if_neg gw];simp only;have iz:Z07 ((yoe:Int)+400 * era) ((m:Int)+3) ((doy:Int) - (((153 * m+2) / 5:Nat):Int)+1)=n:=by
  unfold Z07;rw [if_neg (by omega)];simp only;rw [show (m:Int)+3 - 3=(m:Int) by omega,qS m m1,q4,q100,q400];omega
 refine ⟨?_,?_,by omega,by omega,by omega,?_,iz⟩;omega;omega;unfold ZG;rw [if_neg (by omega),if_neg (by omega)];rw [if_neg (by omega)] at m3;split at m3;rw [if_pos (by omega)];omega;rw [if_neg (by omega)];omega
theorem Z3W:∀ (k u:Nat),u<10 ^ (k+1)->(Lib.decDigits u).length<=k+1
 | 0,u,h=>by rw [Lib.decDigits,dif_pos (by simpa using h)];simp
 | k + 1, u, h => by
   rw [Lib.decDigits];split;simp;have:=Z3W k (u / 10) (by rw [YbH] at h;omega);simp;omega
def Z0A (y:Int):Int:=365 * (y - 1)+(y - 1) / 4 - (y - 1) / 100+(y - 1) / 400
def Z1M (y:Int):Nat->Int
 | 0=>0
 | k+1=>Z1M y k+ZG y ((k:Int)+1)
theorem Z8f (y:Int):Z0s y=true↔(y % 4=0/\(¬ y % 100=0\/y % 400=0)):=by
 unfold Z0s;simp
theorem Z5N (y:Int):Z0A (y+1)=Z0A y+(if Z0s y=true then 366 else 365):=by
 unfold Z0A;have h:=Z8f y;by_cases hl:Z0s y=true;rw [if_pos hl];have:=h.1 hl;omega;rw [if_neg hl];have:¬ (y % 4=0/\(¬ y % 100=0\/y % 400=0)):=λh'=>hl (h.2 h');omega
theorem Z38 {a b:Int} (h:a<=b):Z0A a<=Z0A b:=by
 unfold Z0A;omega
theorem Z1Q {y:Int} {k:Nat} (hk:k<12):28<=ZG y ((k:Int)+1):=by
 unfold ZG;rw [if_neg (by omega)];repeat' split
 all_goals omega
theorem Zlk (y:Int):∀ k:Nat,k<=11->Z1M y k=(if k<2 then 31 * (k:Int) else (if Z0s y=true then 1 else 0)+(153 * ((k:Int) - 2)+2) / 5+59):=by
 intro k hk;have:k=0\/k=1\/k=2\/k=3\/k=4\/k=5\/k=6\/k=7\/k=8\/k=9\/k=10\/k=11:=by omega
 rcases this with rfl|rfl|rfl|rfl|rfl|rfl|rfl|rfl|rfl|rfl|rfl|rfl<;>simp [Z1M,ZG]<;>cases Z0s y<;>simp
theorem ZuA (y:Int):Z1M y 12=if Z0s y=true then 366 else 365:=by
 simp [Z1M,ZG];cases Z0s y<;>simp
theorem Z2a (y d:Int) (k:Nat) (hk:k<=11):Z07 y ((k:Int)+1) d=Z0A y+Z1M y k+d - 1:=by
 rw [Zlk y k hk];unfold Z07;by_cases h2:k<2;rw [if_pos h2,if_pos (by omega)];simp only;unfold Z0A;omega;rw [if_neg h2,if_neg (by omega)];simp only;have h:=Z5N y;have hl:=Z8f y;have e:(153 * ((k:Int)+1 - 3)+2) / 5=(153 * ((k:Int) - 2)+2) / 5:=by congr 2;omega
 rw [e];generalize (153 * ((k:Int) - 2)+2) / 5=z;have e2:Z0A (y+1)=365 * y+y / 4 - y / 100+y / 400:=by unfold Z0A;omega
 rw [e2] at h;by_cases dM:Z0s y=true;rw [if_pos dM] at h ⊢;omega;rw [if_neg dM] at h ⊢;omega
theorem Z3C {y:Int}:∀ {a b:Nat},a<=b->b<=12->Z1M y a<=Z1M y b
 | a, 0, h, _ => by obtain rfl : a = 0 := by omega
                    exact YaO _
 | a, b + 1, h, h2 => by
   by_cases e:a=b+1;subst e;exact YaO _;have:=Z3C (y:=y) (a:=a) (b:=b) (by omega) (by omega);have:=Z1Q (y:=y) (k:=b) (by omega);simp only [Z1M];omega
theorem Zi3 (k:Nat) (h:0<k):Lib.decDigits k=(if k / 10=0 then [] else Lib.decDigits (k / 10))++[UInt8.ofNat (48+k % 10)]:=by
 rw [Lib.decDigits];by_cases gw:k<10;rw [dif_pos gw,if_pos (by omega)];simp [Nat.mod_eq_of_lt gw];rw [dif_neg gw,if_neg (by omega)]
theorem ZeS (d:Nat) (h:d<10):(([48,49,50,51,52,53,54,55,56,57]:Str).take (d+1)).drop d=[UInt8.ofNat (48+d)]:=by
 have:d=0\/d=1\/d=2\/d=3\/d=4\/d=5\/d=6\/d=7\/d=8\/d=9:=by omega
 rcases this with rfl|rfl|rfl|rfl|rfl|rfl|rfl|rfl|rfl|rfl<;>rfl
variable {P:Program} {n:Nat} {e:Env} {w:World} {d:Option Nat} {ty:TypeId} {pos:String} {af:Array Edge} {g:Option (Nat×Bool)}
theorem Z6O {x:Operand} {t:TypeId} {el:TypeId} [hu:Und P t (.slice el)] {p:Option Addr} {l c:Nat} (hx:ev e x=some (.slice p l c)) :
 PR P n ⟨d,.call { callee:=.builtin .cap,args:=#[x],argTypes:=#[t] },ty,pos,af,g⟩ e w (.I (c:Int)):=
 ⟨λa ha => by
   have:=run_cap_slice (P:=P) w t ty p l c (by rw [hu.h,Program.elem,hu.h]);simp [execOp,resolve,invoke,builtin,ha.ev hx,this,goInt]⟩
theorem Z6P {t el k:Nat} {x hi:Operand} {l c:Nat} [hu:Und P t (.slice el)] [hk:Siz P el k] (hx:ev e x=some (.slice none l c)) (hb:ev e hi=some (.I 0)) :
 PR P n ⟨d,.slice t x none (some hi) none,ty,pos,af,g⟩ e w (.slice none 0 c):=by
 refine ⟨λact dV=>?_⟩;simp [execOp,dV.ev hx,dV.ev hb,Instr.sliceAt,run_underlying hu.h,Instr.slice,Instr.sliceBounds,Instr.sliceBound,asIntOf,Siz.run]
theorem Z8g {t el k:Nat} {x hi:Operand} {b o:Nat} {l c:Nat} [hu:Und P t (.slice el)] [hk:Siz P el k] (hx:ev e x=some (.slice (some ⟨b,o,none⟩) l c)) (hb:ev e hi=some (.I 0)) :
 PR P n ⟨d,.slice t x none (some hi) none,ty,pos,af,g⟩ e w (.slice (some ⟨b,o,none⟩) 0 c):=by
 refine ⟨λact dV=>?_⟩;simp [execOp,dV.ev hx,dV.ev hb,Instr.sliceAt,run_underlying hu.h,Instr.slice,Instr.sliceBounds,Instr.sliceBound,asIntOf,Siz.run,Addr.add_lit]
theorem Zll {t tn T bytes k:Nat} {kn:IntKind} {x y:Operand} {z:Value} [ht:Und P t (.slice T)] [hn:Und P tn (.int kn)] [hk:Siz P T 1] [hb:Byt P T bytes] [hz:Zer P T z] (dw:z.cells.size=1)
 (hx:ev e x=some (.N)) (hy:ev e y=some (.I (k:Int))) (h0:0<k) (fI:k<=maxLen) (hbytes:k * bytes<=140737488355328) :
 OE P n ⟨d,.call { callee:=.builtin .append,args:=#[x,y],argTypes:=#[t,tn] },ty,pos,af,g⟩ e w
  (λv w'=>∃ c,v=.slice (some ⟨w.heap.size,0,none⟩) k c/\w'.ownsRow w.heap.size T 1 (.slice (some ⟨w.heap.size,0,none⟩) 0 c) 0 []/\Stp [] w w'):=by
 obtain ⟨i,hi,cg,bI,fj⟩:∃ i,P.info? T=some i/\i.size=1/\i.bytes=bytes/\i.zero=some z:=by
  have a1:=hk.h;have a2:=hb.h;have a3:=hz.h;cases hi:P.info? T with
  | none=>simp [hi] at a1
  | some i=>exact ⟨i,rfl,by simpa [hi] using a1,by simpa [hi] using a2,by simpa [hi] using a3⟩
 have aJ:=Go.Lib.run_append_nil_zeros (P:=P) w t tn ty T i z .i64 kn ht.h hn.h hi fj k h0 (by omega) (by simp [maxLen] at fI;omega) (by rw [bI];omega);have jJ:=grownCap_ge w k 0 T;have br:(Builtin.zeroCells z.cells k++Builtin.zeroCells z.cells (grownCap w k 0 T - k)).size=grownCap w k 0 T * 1:=by
  rw [Array.size_append,size_zeroCells,size_zeroCells,dw];omega
 refine Zv (v:=.slice (some ⟨w.heap.size,0,none⟩) k (grownCap w k 0 T)) (w':=w.drew.alloc (.cells (Builtin.zeroCells z.cells k++Builtin.zeroCells z.cells (grownCap w k 0 T - k)) T)) (λa ha=>?_) ⟨_,rfl,World.ownsRow_made w.drew _ _ (Xq _) (grownCap_le_maxLen w k 0 T fI) br,(Stp.drew [] w).trans (Stp.alloc [] _ _)⟩;simp [execOp,resolve,invoke,builtin,ha.ev hx,ha.ev hy,aJ]
variable {P:Program} {n:Nat} {e:Env} {w:World} {d:Option Nat} {ty:TypeId} {pos:String} {af:Array Edge} {g:Option (Nat×Bool)}
theorem Z2T (k:Nat) (u:Value):(List.replicate k [u]).flatten=List.replicate k u:=by
 induction k with
 | zero=>rfl
 | succ k ih=>rw [Ybj,Yay,ih];rfl
theorem Z0R {α:Type} [Z5 α] {t T bytes k:Nat} {x y:Operand} {z u:Value} {a0:α} [ht:Und P t (.slice T)] [hk:Siz P T 1] [hb:Byt P T bytes] [hz:Zer P T z] (bp:Z5.k α=1) (th:z.cells=#[u]) (d9:∀ (X:List Nat) (w),Z5.rep X w a0 [u])
 (hx:ev e x=some (.I (k:Int))) (hy:ev e y=some (.I (k:Int))) (fI:k<=maxLen) (hbytes:bytes * k<=281474976710656) :
 OE P n ⟨d,.makeSlice t x y,ty,pos,af,g⟩ e w (λv w'=>(∀ X,Row X w' w.heap.size T v (List.replicate k a0))/\Stp [] w w'):=by
 obtain ⟨i,hi,cg,bI,fj⟩:∃ i,P.info? T=some i/\i.size=1/\i.bytes=bytes/\i.zero=some z:=by
  have a1:=hk.h;have a2:=hb.h;have a3:=hz.h;cases hi:P.info? T with
  | none=>simp [hi] at a1
  | some i=>exact ⟨i,rfl,by simpa [hi] using a1,by simpa [hi] using a2,by simpa [hi] using a3⟩
 obtain ⟨w',aJ,bF,lE⟩:=run_make_full (P:=P) w w.heap.size t T i z 1 ht.h hi fj cg .i64 .i64 k (by rw [bI];exact hbytes) fI (Xq _);rw [th,Ya5,toList_madeCells_one] at bF;refine Zv (v:=.slice (some ⟨w.heap.size,0,none⟩) k k) (w':=w') (λa ha=>?_) ⟨λX=>⟨List.replicate k [u],by simp,λj hj eB=>?_,?_⟩,Stp.of_grown lE⟩;simp [execOp,ha.ev hx,ha.ev hy,aJ];rw [List.getElem_replicate,List.getElem_replicate];exact d9 _ _;rw [Z2T,bp,List.length_replicate];exact bF
section
variable {P:Program} {n:Nat} {e:Env} {d:Option Nat} {ty:TypeId} {pos:String} {af:Array Edge} {g:Option (Nat×Bool)}
variable {α:Type} [Z5 α] {X:List Nat} {w w':World} {base T:Nat} {v:Value} {xs:List α}
theorem Z39 {i k:Nat} {t:TypeId} {x y:Operand} {u:Value} {y':α} [br:Siz P t k] (hx:ev e x=some (.pointer (some (ZB v i k 0)))) (hy:ev e y=some u) (hk:k=Z5.k α)
 (bB:Z5.rep (ob v++X) w y' u.cells.toList) (ac:Row X w base T v xs) (hi:i<xs.length) :
 OE P n ⟨d,.store t x y,ty,pos,af,g⟩ e w (λ_ w'=>Row X w' base T v (xs.set i y')/\Stp (ob v) w w'):=by
 have dD:=ac;obtain ⟨css,hl,hr,ho⟩:=ac;have ai:∀ c∈css,c.length=Z5.k α:=by
  intro c hc;obtain ⟨q,hq,rfl⟩:=Xv hc;exact Z5.len (hr q (by omega) hq)
 rcases ho.2 with ⟨rfl,hn⟩|⟨q,cap,cur,rfl,hb,hg,bN,bC,aV,ht⟩
 omega;subst hk;have dE:u.cells.toList.length=Z5.k α:=Z5.len bB;have dm:i * Z5.k α+u.cells.toList.length<=cur.size:=by
  rw [dE,aV,<- Yam];exact Xr _ (by omega)
 have ar:=run_storeCells_at P q (i * Z5.k α) T u.cells.toList 0 cur w hg (by simpa using dm) (Z5.one bB);simp only [Ybs] at ar;have dt:u.cells.size=Z5.k α:=by simpa using dE
 have ir:Stp [q] w (w.setRow q (cur.toList.take (i * Z5.k α)++u.cells.toList++cur.toList.drop (i * Z5.k α+u.cells.toList.length)).toArray):=Z0I _ _ _;refine Z2o (w':=w.setRow q (cur.toList.take (i * Z5.k α)++u.cells.toList++cur.toList.drop (i * Z5.k α+u.cells.toList.length)).toArray) (λa ha=>?_) ⟨⟨css.set i u.cells.toList,by simp [hl],λj hj eB=>?_,?_,.inr ⟨q,cap,_,by simp,hb,setRow_heap w q cur _ T (0,0) hg,by simpa using bN,bC,?_,?_⟩⟩,ir⟩;have cU:ZB (.slice (some ⟨q,0,none⟩) xs.length cap) i (Z5.k α) 0=⟨q,i * Z5.k α,none⟩:=by simp [ZB]
 rw [cU] at hx;simp [execOp,ha.ev hx,ha.ev hy,Instr.storeAt,Instr.sureAddr,storeVar,Siz.run,dt,ar];have ae:∀ b∈[q],b∈ob (.slice (some ⟨q,0,none⟩) xs.length cap)++X:=by simp [ob]
 by_cases bR:i=j;subst bR;simp only [YaX];exact Z5.ext bB ir ae (λb hb=>.inl hb);simp only [YaA bR];exact Z5.ext (hr j (by simpa using hj) (by simpa using eB)) ir ae (λb hb=>.inl hb);rw [Z0X css ai i (by omega)];have h1:=ho.1;simp only [Xb,Xz,Yah,Yaa,dE,h1];have:(i+1) * Z5.k α<=xs.length * Z5.k α:=Xr _ (by omega);rw [Yam] at this;omega;simp only [Yan,Xb,Xz,Yah,Yae,dE,aV];rw [dE,aV] at dm;omega;rw [Z0X css ai i (by omega),<- ht];have h2:(i+1) * Z5.k α<=xs.length * Z5.k α:=Xr _ (by omega);rw [Yam] at h2;have h3:i * Z5.k α<=cur.toList.length:=by simp [aV];exact Xk (by omega) (Xr _ bN)
 simp only [Yaa,dE];rw [YaQ,YaQ,YaU,YaU,Yb2];simp only [Xb,Xz,dE];rw [Yap h3,XR (l:=u.cells.toList) (by rw [dE];omega)];rw [YbT (by omega:i * Z5.k α<=xs.length * Z5.k α),Yap (by omega:i * Z5.k α<=xs.length * Z5.k α)]
end
section
variable {P:Program} {n:Nat} {Q:Exit->Act->World->Prop} {e:Env} {w:World}
theorem ZeT {id:Nat} {l:List Oper} (m:Nat) (S:List Nat) (Lt:List Nat) (ord:List (Nat×Nat)) (bP:l.length=m) (hm:P.follows .mixedOrders=true) (hs:Region.noSelect l.toArray=true) (hl:Nat.beq (wt ord) l.length=true)
 (hB:ZX l.toArray Lt ord (Array.replicate m false)=true)
 (h:∀ w',Stp [] w w'->w'.heap.size=w.heap.size->WD P n l.toArray S Lt Q ord e w'):WC P n (.region id l.toArray true) Q e w:=by
 subst bP;refine ⟨λa ha=>wp_region_any hm ?_⟩;have h1:=(h { w with drawn:=w.drawn+1 } (Stp.drew [] w) rfl).h _ hs hB a ha;have h2:=JS (Q:=Q) (λa w hz=>hz) _ _ _ _ h1;rw [Xp hl] at h2;simpa using h2
def Zlm (w:World) (T:TypeId) (cs:List Value) (v:Value) (w':World):Prop:=v=.pointer (some ⟨w.heap.size,0,none⟩)/\Blk w' w.heap.size T cs/\Stp [] w w'
theorem ZeU {d:Option Nat} {ty:TypeId} {pos:String} {af:Array Edge} {g:Option (Nat×Bool)} {t:TypeId} {z:Value} [hz:Zer P t z]:OE P n ⟨d,.alloc t,ty,pos,af,g⟩ e w (Zlm w t z.cells.toList):=by
 refine Zv (v:=.pointer (some ⟨w.heap.size,0,none⟩)) (w':=w.alloc (.cells z.cells t)) (λa ha=>?_) ?_;simp [execOp,Instr.alloc,Zer.run,newVar,newRow,newObj];rfl;have h:=Z8Z w t z.cells.toList;obtain ⟨b,hb,cJ,h1,h2⟩:=h;simp only [Value.pointer.injEq,Xl,Addr.mk.injEq] at hb;obtain ⟨rfl,-⟩:=hb;exact ⟨rfl,by simpa using h1,by simpa using h2⟩
theorem Zct {o:Oper} {a:Act} {w} {K K':Act->World->Prop} {Q':Exit->Act->World->Prop} (h:∀ a w,K a w->K' a w) (hq:∀ ex a w,Q' ex a w->Q ex a w)
 (hh:o.wp P a w K Q'):o.wp P a w K' Q:=by
 unfold Oper.wp at *;generalize (execOp a.eval o).run P w=r at *;cases r with
 | ok n w'=>
   cases n<;>simp only [Oper.upon] at hh ⊢ <;>
    first
     | exact h _ _ hh
     | exact Calls.mono hh (λe w'' he=>by cases e<;>first|exact h _ _ he|exact hq _ _ _ he|exact he.elim (λa h=>h.elim (λw h=>⟨a,w,hq _ _ _ h⟩)))
     | exact Rows.mono hh (λ_ _ he=>h _ _ he)
 | halt x w'=>cases x<;>simp only [Oper.upon] at hh ⊢<;>first|exact hq _ _ _ hh|exact hh
theorem Z2x {ops:Array Oper} {Q':Exit->Act->World->Prop} (hq:∀ ex a w,Q' ex a w->Q ex a w):∀ (l:List Oper) (a:Act) (w),wpList P ops Q' l a w->wpList P ops Q l a w
 | [],a,w,h=>hq _ _ _ h
 | o :: rest, a, w, h => by
   unfold wpList at h ⊢;split;rename_i hw;rw [if_pos hw] at h;rcases h with h|⟨h1,a',w',h2⟩
   exact .inl (Zct (λa w h=>Z2x hq rest a w h) hq h);exact .inr ⟨h1,a',w',hq _ _ _ h2⟩;rename_i hw;rw [if_neg hw] at h;exact Z2x hq rest _ _ h
theorem Z6n {y:Code} {σ:Type} {ops:Array Oper} {l:List Oper} (env:σ->Env) (I:σ->World->Prop)
 (h:WL P n ops (Exit.then (λa w=>∃ s,Has n (env s) a/\I s w) Q) l e w) (k:∀ s w,I s w->WC P n y Q (env s) w):WL P n ops (Exit.then (λa w=>y.wp P Q a w) Q) l e w:=
 ⟨λa ha => Z2x (λex a w hq => by
   cases ex with
   | normal=>obtain ⟨s,h1,h2⟩:=hq;exact (k s w h2).h a h1
   | _=>exact hq) l a w (h.h a ha)⟩
end
open Go Go.RowKit Go.Proofs Go.ChangeShapes Go.WideShapes Go.Deep
section
variable {H:Type} {enc:TypeId×Value->H} {P:Program} {w:World} {base:Nat} {spare:Nat->Bool} {fJ:Bool}
theorem Zat (b o n:Nat):(⟨b,o,none⟩:Addr).add n=⟨b,o+n,none⟩:=by
 unfold Addr.add;split;rename_i h;subst h;rfl;rfl
def Zln:DataW H->Nat
 | .slice els _=>els.length
 | _=>0
theorem Zau {α:Type} [Z2 α] {ok:α->Prop} {t e:TypeId} {fuel:Nat} {cs:List Value} {x:DataW H×List MemPlace} (ht:P.underlying t=some (.slice e)) (hC:P.cellsOf e=Z2.k α) (aZ:0<Z2.k α)
 (lF:∀ n cs' y,cs'.length=Z2.k α->DataW.trod enc P w base spare fJ n e cs'=some y->∃ a:α,cs'=Z2.enc a/\ok a)
 (h:DataW.trod enc P w base spare fJ fuel t cs=some x):∃ (v:Value) (xs:List α),cs=[v]/\SlV [] w v xs/\(∀ a∈xs,ok a)/\Zln x.1=xs.length:=by
 rcases open_slice ht h with ⟨rfl,rfl⟩|⟨a,len,cap,m,n,D,Pl,rfl,hb,hl,hm,dN,hx,hi⟩
 exact ⟨_,[],rfl,⟨none,0,rfl,Xq _,by simp [maxLen],λ_=>rfl,λi h=>absurd h (Xy _)⟩,by simp,rfl⟩;have bP:len<=m:=by rw [dN];split<;>omega
 have aX:∀ y:α,∃ u,(Z2.enc y)[0]?=some u:=λy=>⟨_,XC (by rw [Z2.len y];exact aZ)⟩
 have aD:∀ i:Fin len,∃ y:α,ok y/\∀ j u,(Z2.enc y)[j]?=some u->w.cell? (a.add (i * Z2.k α+j))=some u:=by
  intro i;obtain ⟨cs',hc,ti⟩:=hi i (by omega);rw [hC] at hc;obtain ⟨_,cn,bO⟩:=World.cells?_some hc;obtain ⟨y,rfl,aK⟩:=lF n cs' _ cn ti;refine ⟨y,aK,λj u hu=>?_⟩;have hj:j<Z2.k α:=by
   have:=(Xt.1 hu).1;rw [Z2.len] at this;exact this
  have:=bO j hj;rw [hu] at this;rw [<- this,Go.Deep.add_add]
 let f:Fin len->α:=λi=>(aD i).choose
 have hf:∀ i:Fin len,ok (f i)/\∀ j u,(Z2.enc (f i))[j]?=some u->w.cell? (a.add (i * Z2.k α+j))=some u:=λi=>(aD i).choose_spec;refine ⟨_,List.ofFn f,rfl,⟨some a,cap,by simp,by simpa using hl,hm,by simp,λi be=>?_⟩,λy hy=>?_,by rw [hx];simp [Zln]⟩;have jK:i<len:=by simpa using be
 have m7:=(hf ⟨i,jK⟩).2;obtain ⟨u1,tj⟩:∃ u,(Z2.enc (f ⟨0,by omega⟩))[0]?=some u:=aX _;have ca:=(hf ⟨0,by omega⟩).2 0 u1 tj;obtain ⟨u0,oB⟩:∃ u,(Z2.enc (f ⟨i,jK⟩))[0]?=some u:=aX _;have gX:=m7 0 u0 oB;have cC:a.spot=none:=by
  have e0:a.add ((⟨0,by omega⟩:Fin len).val * Z2.k α+0)=a:=by simp [Addr.add]
  rw [e0] at ca;unfold World.cell? at ca;split at ca
  . cases hs:a.spot with
    | none=>rfl
    | some s=>simp [hs] at ca
  cases ca
 obtain ⟨b,o,sp⟩:=a;cases cC;refine ⟨b,o,Z2.enc (f ⟨i,jK⟩),rfl,?_,by simp,?_,λj u hu=>?_⟩;have:=block_lt_of_cell (a:=(⟨b,o,none⟩:Addr).add (i * Z2.k α+0)) gX;simpa [Zat] using this;simp;rfl;have:=m7 j u hu;rw [Zat] at this;rw [show o+i * Z5.k α+j=o+(i * Z2.k α+j) from YaP _ _ _];exact this;obtain ⟨i,rfl⟩:=List.mem_ofFn.1 hy;exact (hf i).1
theorem Zi4 {t e:TypeId} {fuel:Nat} {cs:List Value} {x:DataW H×List MemPlace} (ht:P.underlying t=some (.slice e)) (hC:P.cellsOf e=1) (he:P.underlying e=some (.int .i64))
 (h:DataW.trod enc P w base spare fJ fuel t cs=some x):∃ (v:Value) (xs:List Int),cs=[v]/\SlV [] w v xs/\(∀ a∈xs,I64 a)/\Zln x.1=xs.length:=
 Zau (α:=Int) ht hC (by decide) (λn cs' y hl hy=>by
  obtain ⟨z,rfl,_,hw⟩:=DataW.trod_int he hy;exact ⟨z,rfl,by simpa [I64,Lit.wf,IntKind.min,IntKind.max,IntKind.signed,IntKind.bits] using hw⟩) h
end
section
variable {H:Type} {enc:TypeId×Value->H} {P:Program}
def ZdX (P:Program) (ts:List TypeId):Bool:=ts.all λt=>P.readableRec t && decide (t<P.types.size)
theorem Z3X (hl:laidOutB P=true) {W W':World} (hb:Below W.heap.size W W') {sp:Nat->Bool}:∀ {ts:List TypeId} {vs:List Value} {ds:List (DataW H)} {ps:List MemPlace},ZdX P ts=true->
 DataW.TrodAll enc P W 0 (λ_=>true) true ts vs ds ps->(∀ x∈ps,x.block<W.heap.size)->(∀ x∈ps,sp x.block=true)->DataW.TrodAll enc P W' 0 sp true ts vs ds ps
 | [],[],[],_,_,h,_,_=>h
 | t :: ts, v :: vs, d :: ds, ps, hr, h, hlt, hs => by
   obtain ⟨p,q,h1,h2,rfl⟩:=h;simp only [ZdX,List.all_cons,Xd,decide_eq_true_eq] at hr;obtain ⟨⟨r1,r2⟩,r3⟩:=hr;exact ⟨p,q,WideElems.Trod_stays hl r1 r2 h1 (λx hx=>hb.same (hlt x (by simp [hx]))) (λx hx=>hs x (by simp [hx])),Z3X hl hb (by simpa [ZdX] using r3) h2 (λx hx=>hlt x (by simp [hx])) (λx hx=>hs x (by simp [hx])),rfl⟩
 | [],_ :: _,_,_,_,h,_,_=>h.elim
 | [],[],_ :: _,_,_,h,_,_=>h.elim
 | _ :: _,[],_,_,_,h,_,_=>h.elim
 | _ :: _,_ :: _,[],_,_,h,_,_=>h.elim
section
variable {f:Func} {s:ChangeSpec} {apart fresh handsOn again:Bool} {W W':World} {args:Array Value} {v:Value} {ds gs:List (DataW H)} {before pa pv:List MemPlace}
theorem Z7P
 (hW:DataW.Whole enc P f.params.toList s.vars apart W args.toList ds gs before)
 (ay:∀ (b:Nat) (sp:Nat->Bool) (hd:Bool),DataW.TrodAll enc P W' b sp hd f.resultTypes.toList (v.resultList f.resultTypes.size) (s.fn H (ds++gs)).results [])
 (jd:∀ sp:Nat->Bool,(∀ p∈before,sp p.block=true)->DataW.TrodAll enc P W' 0 sp true f.params.toList args.toList (s.fn H (ds++gs)).args pa)
 (je:∀ sp:Nat->Bool,(∀ p∈before,sp p.block=true)->DataW.TrodVars enc P W' sp s.vars (s.fn H (ds++gs)).vars pv)
 (ib:before=pa++pv) (hb:Below W.heap.size W W')
 (aK:∀ (j:Nat) (t:TypeId) (r:Value),f.resultTypes[j]?=some t->(v.resultList f.resultTypes.size)[j]?=some r->Value.okWide P W' .any 0 t r) :
 s.post enc P f apart fresh handsOn again W args v W':=by
 have hlt:∀ p∈before,p.block<W.heap.size:=λp hp=>hW.lt p hp;have gD:∀ p∈before,(λb=>decide (b<W.heap.size)) p.block=true:=λp hp=>by simpa using hlt p hp
 refine ⟨ds,gs,before,[],pa,pv,hW,ay _ _ _,jd _ gD,je _ gD,World.keptBut_mono (λp hp=>⟨hp,?_⟩) (hb.frame (·∈before)),λ_=>?_⟩;rw [ib,Xe] at hp;exact Or.inr hp;obtain ⟨_,_,_,_,_,hz,hn⟩:=hW;refine ⟨aK,_,_,([]++pa)++pv,⟨[]++pa,pv,trodAll_append (jd _ (λ_ _=>rfl)) (ay _ _ _),je _ (λ_ _=>rfl),rfl,?_,?_⟩,?_⟩;intro b off hp;have ba:MemPlace.cell b off∈before:=by rw [ib];simpa using hp
 rw [hb.frozen (hlt _ ba)];exact hz b off ba;intro ha;have:=hn ha;rw [ib] at this;simpa using this;intro p hp _;rw [ib];simpa using hp
end
def Zlo (s:ChangeSpec) (k:Nat):Prop:=s.vars=[]/\∀ (H:Type) (ds:List (DataW H)),ds.length=k->(s.fn H ds).results=[.lit (.bool true)]/\(s.fn H ds).args=ds/\(s.fn H ds).vars=[]
theorem Z5O {W:World} {base:Nat} {sp:Nat->Bool} {hd:Bool}:∀ {ts:List TypeId} {vs:List Value} {ds:List (DataW H)} {ps:List MemPlace},DataW.TrodAll enc P W base sp hd ts vs ds ps->ds.length=ts.length
 | [],[],[],_,_=>rfl
 | t :: ts, v :: vs, d :: ds, ps, h => by
   obtain ⟨p,q,h1,h2,rfl⟩:=h;simp [Z5O h2]
 | [],_ :: _,_,_,h=>h.elim
 | [],[],_ :: _,_,h=>h.elim
 | _ :: _,[],_,_,h=>h.elim
 | _ :: _,_ :: _,[],_,h=>h.elim
theorem ZuB {fn:Func} {K tb:Nat} {s:ChangeSpec} {fresh handsOn again:Bool} {W:World} {args:Array Value} {ds gs:List (DataW H)} {before:List MemPlace} (hl:laidOutB P=true) (hr:ZdX P fn.params.toList=true)
 (ay:fn.resultTypes=#[tb]) (hb:P.underlying tb=some .bool) (hs:Zlo s fn.params.size)
 (hW:DataW.Whole enc P fn.params.toList s.vars false W args.toList ds gs before) (hc:Calls P K args W (Ret λr w'=>r=.bool true/\Stp [] W w')) :
 Calls P K args W λe W'=>∃ v,e=.returned v/\s.post enc P fn false fresh handsOn again W args v W':=by
 refine hc.mono ?_;rintro _ w' ⟨_,rfl,rfl,hS⟩;refine ⟨_,rfl,?_⟩;have qT:=hW;obtain ⟨p,q,hA,hV,jL,wK,dT⟩:=hW;rw [hs.1] at hV;obtain ⟨rfl,rfl⟩:=trodVars_none hV;have ai:(ds++[]).length=fn.params.size:=by simpa using Z5O hA
 obtain ⟨s1,s2,s3⟩:=hs.2 H (ds++[]) ai;have hlt:∀ x∈before,x.block<W.heap.size:=λx hx=>qT.lt x hx;refine Z7P (pa:=p) (pv:=[]) qT (λb sp hd=>?_) (λsp cC=>?_) (λsp _=>?_) jL hS.below ?_;rw [s1,ay];exact trodAll_mk1 ⟨1,by simp [DataW.trod,Value.cells,hb]⟩;rw [s2];simp only [XG] at jL ⊢;subst jL;exact Z3X hl hS.below hr hA hlt cC;rw [s3,hs.1];rfl;exact ok_one ay rfl (by simp [Value.okWide,hb,Cell.okWide,Cell.ok])
end
section
variable {H:Type} {enc:TypeId×Value->H}
theorem Zi5 {a:Assume} {C:Checked} {os:Os} {f:FuncId} {fn:Func} {s:ChangeSpec} {conds:List PathCond} {apart fresh handsOn again:Bool} {X:World->Array Value->Prop}
 (hX:∀ (w w':World) (args:Array Value),w.heap=w'.heap->X w args->X w' args)
 (own:ownKnob C.prog.godebug=none) (started:os.Started) (noInit:C.prog.inits.idxOf? f=none) (kK:C.prog.funcs[f]?=some fn)
 (witness : ∃ (w : World) (tape : Tape) (i : Input), w.os = os /\ (w.forCall tape i).Shaped C.prog /\ i.vars = [] /\ Input.okWide C.prog (w.forCall tape i) .any w.heap.size f i/\
   ((s.pre enc C.prog fn conds apart (w.forCall tape i).memory i.args/\X (w.forCall tape i).memory i.args)/\sizedMet enc C.prog fn (OpenSpec.ofChange s) apart (w.forCall tape i).memory i.args)/\a.holds C.prog (lone (Frame.enter C.prog f i.args .normal) [] (w.forCall tape i)))
 (contract : ∀ (W : World) (base : Nat) (args : Array Value) (ds gs : List (DataW H)) (before : List MemPlace),
   (∀ (j:Nat) t v,fn.params[j]?=some t->args[j]?=some v->Value.okWide C.prog W .any base t v)->
   DataW.Whole enc C.prog fn.params.toList s.vars apart W args.toList ds gs before->
   (DataW.weightsEach C.prog (fn.params.toList++s.plain.varTypes C.prog) (ds++gs)).all (·<=reachBytes)=true->X W args->W.ShapedOpen C.prog->
   Calls C.prog f args W λe W'=>∃ v,e=.returned v/\s.post enc C.prog fn apart fresh handsOn again W args v W') :
 ReturnsInHanded a C os f .any (λw args=>(s.pre enc C.prog fn conds apart w args/\X w args)/\sizedMet enc C.prog fn (OpenSpec.ofChange s) apart w args) (s.post enc C.prog fn apart fresh handsOn again):=by
 refine returnsInHanded_of_calls own started noInit witness ?_;intro w tape i _ dL _ aK bQ hholds;obtain ⟨_,_,_,fn',oD,_,_,_,_,oE⟩:=aK;have e:fn'=fn:=XL (oD.symm.trans kK);subst e;obtain ⟨⟨⟨ds,gs,before,hw,hc⟩,hx⟩,hz⟩:=bQ;have tk:=DataW.Whole.of_heap (w':=w.forCall tape i) (by rfl) hw;refine (contract (w.forCall tape i) w.heap.size i.args ds gs before oE tk (hz.weights hw) (hX _ _ _ (by rfl) hx) dL).mono λe W' ⟨v,he,hp⟩=>?_
 subst he;exact ChangeSpec.post_blind hp
end
instance:Z2 UInt8 where
 k:=1
 enc:=λb=>[.int .u8 (b.toNat:Int)]
 len:=λ_=>rfl
 one:=by intro x u hu;simp at hu;subst hu;rfl
section
variable {P:Program} {n:Nat} {e:Env} {w:World} {d:Option Nat} {ty:TypeId} {pos:String} {af:Array Edge} {g:Option (Nat×Bool)}
theorem Zi6 {src dst el:TypeId} {x:Operand} {s:Str} [hs:Und P src .string] [hd:Und P dst (.slice el)] [he:Und P el (.int .u8)] (hx:ev e x=some (str s)) (hl:s.length<=1000000) :
 OE P n ⟨d,.convert src dst x,ty,pos,af,g⟩ e w (λv w'=>(∀ X:List Nat,(∀ b∈X,b<w.heap.size)->SlV X w' v s)/\Stp [] w w'):=by
 refine Zv (v:=.slice (some ⟨w.heap.size,0,none⟩) s.length (grownCap w s.length 0 el)) (w':=Go.Lib.bytesWorld w el ⟨s.toArray⟩) (λa ha=>?_) ⟨λX hX=>?_,?_⟩;have h:=Go.Lib.run_convert_string_bytes (P:=P) w src dst el ⟨s.toArray⟩ hs.h hd.h he.h;simp only [Jy] at h;simp [execOp,ha.ev hx,h];refine ⟨some ⟨w.heap.size,0,none⟩,_,rfl,grownCap_ge w _ _ _,grownCap_le_maxLen w _ _ _ (by simp [maxLen];omega),(λh=>by cases h),λi hi=>⟨w.heap.size,0,Z2.enc s[i],rfl,?_,λh=>by have:=hX _ h;omega,rfl,λj u hu=>?_⟩⟩;rw [Go.Lib.bytesWorld_size];omega;have hj:j=0:=by
  have:=(Xt.1 hu).1;simp [Z2.enc] at this;exact this
 subst hj;have hc:=Go.Lib.bytesWorld_cell w el ⟨s.toArray⟩ i (by rw [Jy];exact hi);simp only [Z2.enc,List.getElem?_cons_zero,Xl] at hu;subst hu;have e1:(0+i * Z5.k UInt8+0)=i:=by show 0+i * 1+0=i;omega
 rw [e1,hc];simp [List.getD,hi];refine ⟨rfl,rfl,rfl,?_,λb hb _=>Go.Lib.bytesWorld_at_old w el _ b hb⟩;rw [Go.Lib.bytesWorld_size];omega
end
section
variable {P:Program} {n:Nat} {e:Env} {w:World} {d:Option Nat} {ty:TypeId} {pos:String} {af:Array Edge} {g:Option (Nat×Bool)}
theorem Zlp {src dst:TypeId} {k k':IntKind} {x:Operand} {a:Int} {D:TypeDesc} [hs:Und P src D] [hd:Und P dst (.int k)] (hx:ev e x=some (.int k' a)) :
 PR P n ⟨d,.convert src dst x,ty,pos,af,g⟩ e w (.int k (k.wrap a)):=
 ⟨λc ha => by
   have hk:P.intKind dst=k:=by simp [Program.intKind,hd.h]
   have:=run_convert_int (P:=P) w src dst k' a (by rw [hs.h];rfl) (by rw [hk];exact hd.h);simp [execOp,ha.ev hx,this,hk]⟩
section
variable {x y:Operand} {t u:TypeId} {k:IntKind} {a b:Int}
theorem Zlq (hx:ev e x=some (.int k a)) (hy:ev e y=some (.int k b)) {r:Int} (hr:k.wrap (a+b)=r):PR P n ⟨d,.binOp .add t x y u,ty,pos,af,g⟩ e w (.int k r):=
 ⟨λc ha=>by simp only [execOp,ha.ev hx,ha.ev hy];simp [go_sem,Op.intArith,hr]⟩
theorem Zlr (hx:ev e x=some (.int k a)) (hy:ev e y=some (.int k b)) {r:Int} (hr:k.wrap (a - b)=r):PR P n ⟨d,.binOp .sub t x y u,ty,pos,af,g⟩ e w (.int k r):=
 ⟨λc ha=>by simp only [execOp,ha.ev hx,ha.ev hy];simp [go_sem,Op.intArith,hr]⟩
theorem Zls (hx:ev e x=some (.int k a)) (hy:ev e y=some (.int k b)) {r:Int} (hr:k.wrap (a * b)=r):PR P n ⟨d,.binOp .mul t x y u,ty,pos,af,g⟩ e w (.int k r):=
 ⟨λc ha=>by simp only [execOp,ha.ev hx,ha.ev hy];simp [go_sem,Op.intArith,hr]⟩
theorem Zlt (hx:ev e x=some (.int k a)) (hy:ev e y=some (.int k b)) (hb:b≠0) {r:Int} (hr:a.tmod b=r):PR P n ⟨d,.binOp .rem t x y u,ty,pos,af,g⟩ e w (.int k r):=
 ⟨λc ha=>by simp only [execOp,ha.ev hx,ha.ev hy];simp [go_sem,Op.intDiv,hb];try rw [hr]⟩
theorem Zlu (hx:ev e x=some (.int k a)) (hy:ev e y=some (.int k b)) (hb:b≠0) {r:Int} (hr:k.wrap (a.tdiv b)=r):PR P n ⟨d,.binOp .quo t x y u,ty,pos,af,g⟩ e w (.int k r):=
 ⟨λc ha=>by simp only [execOp,ha.ev hx,ha.ev hy];simp [go_sem,Op.intDiv,hb];try rw [hr]⟩
end
theorem ZeV {t u el:TypeId} {x y:Operand} {p:Option Addr} {l c:Nat} [hu:Und P t (.slice el)] (hx:ev e x=some (.slice p l c)) (hy:ev e y=some (.N)) :
 PR P n ⟨d,.binOp .eql t x y u,ty,pos,af,g⟩ e w (.B p.isNone):=
 ⟨λa ha => by
   have h:=run_equal_slice_nil (P:=P) w t el p l c hu.h;simp only [execOp,ha.ev hx,ha.ev hy];simp [go_sem,binOp,h]⟩
end
end Go.Eng
namespace Go.Proofs.YteibicnbkggiiaaGreatDoor
open Go Go.Eng Go.RowKit Go.Proofs
def Z2b:List Int:=[0,31,28,31,30,31,30,31,31,30,31,30,31]
def Z0G (w:World):Prop:=∀ i u,Z2b[i]?=some u->w.cell? ⟨1,i,none⟩=some (.I u)
theorem Z0G.ext {S:List Nat} {w w':World} (h:Z0G w) (hS:Stp S w w') (hb:1∉S):Z0G w':=λi u hu=>hS.cell hb (h i u hu)
theorem Z0G.up {w w':World} (h:Z0G w) (hS:Stp [] w w'):Z0G w':=h.ext hS (by simp)
theorem Zi7 (y:Int) (w) (h0:0<=y) (h1:y<=100000):CC 218 #[.I y] w λr w'=>r=.B (Z0s y)/\w'=w:=by
 unfold Z0s;refine cW1 16 Tryz.func218 ?_;repeat'(first|refine W1 ?_|omega|refine VG ?_ ?_<;>intro hg|refine VC ?_ ?_<;>intro hc)
 all_goals refine WR ?_
 all_goals refine .mk ⟨?_,rfl⟩
 all_goals congr 1
 all_goals (first|done|(rw [Ybn];simp;omega)|(simp [*]))
theorem Z2y (y m:Int) (w) (hL:Z0G w) (h0:0<=y) (h1:y<=100000):CC 165 #[.I y,.I m] w λr w'=>r=.I (ZG y m)/\w'=w:=by
 unfold ZG;refine cW2 22 Tryz.func165 ?_;by_cases hm:m<1\/12<m
 . rw [if_pos hm]
   repeat'(first|refine W1 ?_|omega|refine VG ?_ ?_<;>intro hg|refine VC ?_ ?_<;>intro hc)
   all_goals refine WR ?_
   all_goals exact .mk ⟨rfl,rfl⟩
 rw [if_neg hm];obtain ⟨k,rfl⟩:∃ k:Nat,m=(k:Int):=⟨m.toNat,by omega⟩
 have hk:k<13:=by omega
 have am:w.cell? ⟨1,0+k * 1,none⟩=some (.I (Z2b.getD k 0)):=hL _ _ (by
  have:k<Z2b.length:=hk;simp [List.getD,this])
 by_cases h2:(k:Int)=2;rw [if_pos h2];refine QO ?_;refine CL (Zi7 y _ h0 h1) ?_;rintro _ _ ⟨rfl,rfl⟩;cases hl:Z0s y;refine W ?_;refine Za (Jd rfl rfl am) rfl ?_;refine W ?_;refine WR ?_;obtain rfl:k=2:=by omega
 exact .mk ⟨rfl,rfl⟩;refine RT ?_;exact ⟨rfl,rfl⟩;rw [if_neg h2];refine QO ?_;refine Za (Jd rfl rfl am) rfl ?_;refine W ?_;refine WR ?_;refine .mk ⟨?_,rfl⟩;congr 1;have:k=1\/k=3\/k=4\/k=5\/k=6\/k=7\/k=8\/k=9\/k=10\/k=11\/k=12:=by omega
 rcases this with rfl|rfl|rfl|rfl|rfl|rfl|rfl|rfl|rfl|rfl|rfl<;>rfl
abbrev Zi8 (y m d:Int):Value:=.agg #[.I y,.I m,.I d]
def Z1N (y m d:Int):Prop:=y<1\/9999<y\/m<1\/12<m\/d<1\/ZG y m<d
instance (y m d:Int):Decidable (Z1N y m d):=by unfold Z1N;infer_instance
theorem Zcu (y m d:Int) (w) (hL:Z0G w):CC 215 #[Zi8 y m d] w λr w'=>r=.I (if Z1N y m d then 5 else 0)/\Stp [] w w':=by
 refine cW1 36 Tryz.func215 ?_;refine W ?_;refine Z0 (Zn rfl) rfl ?_;rintro _ w1 ⟨b,rfl,hb,ab,hS⟩;replace ab:Blk w1 b 237 [.I y,.I m,.I d]:=ab;replace hL:=hL.up hS;refine W ?_;refine ZDr 33 [] [] [(0,0),(1,1),(2,0),(3,0),(4,0),(5,1),(6,0),(7,0),(8,0),(9,0),(10,1),(11,0),(12,0),(13,0),(14,0),(15,1),(16,0),(17,0),(18,0),(19,0),(20,1),(21,0),(22,0),(23,0),(24,0),(25,1),(26,0),(27,1),(28,0),(29,1),(30,2),(31,0),(32,0)] (λw1 ae=>?_);replace ab:=ab.up ae;replace hL:=hL.up ae;replace hS:=hS.trans ae;clear ae;by_cases hg:y<1\/9999<y\/m<1\/12<m\/d<1
 . have eX:Z1N y m d:=by unfold Z1N;omega
   rw [if_pos eX];repeat'(first|refine D1 ?_|omega|refine Zb rfl rfl rfl rfl (λhg=>?_) (λhg=>?_)|(refine Z7 rfl rfl rfl rfl (λhg=>?_) (λhg=>?_)<;>refine D1 ?_)|fail)
   all_goals refine QO ?_
   all_goals refine WR ?_
   all_goals exact .mk ⟨rfl,hS⟩
 . refine QD ?_
   refine Z9 rfl rfl (Z3 rfl (Zh rfl rfl) (Z2y y m _ hL (by omega) (by omega))) (λ_ _ h=>by rw [h.2];exact Stp.refl _ _) rfl ?_;rintro _ w3 ⟨rfl,rfl⟩;refine QD ?_;all_goals (refine QP ?_ ?_<;>intro hc)
   refine RU ?_;exact ⟨by rw [if_pos (by unfold Z1N;omega)],hS⟩;refine RU ?_;exact ⟨by rw [if_neg (by unfold Z1N;omega)],hS⟩
theorem Z4b (y m d:Int) (w) (hy:0<=y) (dO:y<=100000) (hm:1<=m) (ec:m<=12) (hd:0<=d) (jf:d<=100000) (h1:m - 3<0->1<=y):CC 216 #[Zi8 y m d] w λr w'=>r=.I (Z07 y m d)/\Stp [] w w':=by
 refine cW1 36 Tryz.func216 ?_;refine W ?_;refine Z0 (Zn rfl) rfl ?_;rintro _ w1 ⟨b,rfl,hb,ab,hS⟩;replace ab:Blk w1 b 237 [.I y,.I m,.I d]:=ab;refine W ?_;refine ZDr 7 [] [] [(0,0),(1,1),(2,0),(3,1),(4,0),(5,0),(6,0)] (λw1 ae=>?_);replace ab:=ab.up ae;replace hS:=hS.trans ae;clear ae;refine D ?_
 (refine QP ?_ ?_<;>intro hc)
 all_goals refine WR ?_
 all_goals refine .mk ⟨?_,hS⟩
 all_goals unfold Z07
 rw [if_pos (by assumption)];congr 1;dsimp only;omega;rw [if_neg (by assumption)]
theorem Zav (y m d:Int) (w) (hL:Z0G w):CC 161 #[Zi8 y m d] w λr w'=>r=.tuple #[.I (if Z1N y m d then 0 else Z07 y m d),.I (if Z1N y m d then 5 else 0)]/\Stp [] w w':=by
 refine cW1 12 Tryz.func161 ?_;refine W ?_;refine Z0 (Zn rfl) rfl ?_;rintro _ w1 ⟨b,rfl,hb,ab,hS⟩;replace ab:Blk w1 b 237 [.I y,.I m,.I d]:=ab;replace hL:=hL.up hS;refine W ?_;refine CL (Zcu y m d _ hL) ?_;rintro _ w2 ⟨rfl,hT⟩;replace ab:=ab.up hT;replace hS:=hS.trans hT;clear hT;by_cases eX:Z1N y m d;rw [if_pos eX,if_pos eX];refine RT ?_;exact ⟨rfl,hS⟩;rw [if_neg eX,if_neg eX];refine W ?_;have qU:=Z4a y m;unfold Z1N at eX;refine CM (ZO rfl) (Z4b y m d _ (by omega) (by omega) (by omega) (by omega) (by omega) (by omega) (by omega)) ?_;rintro _ w3 ⟨rfl,hT⟩;refine RT ?_;exact ⟨rfl,hS.trans hT⟩
end Go.Proofs.YteibicnbkggiiaaGreatDoor
namespace Go.Eng
open Go Go.RowKit Go.Proofs
end Go.Eng
namespace Go.Proofs.YteibicnbkggiiaaGreatDoor
open Go Go.Eng Go.RowKit Go.Proofs
theorem Z6o (y m d:Int) (w):(Instr.build 237 #[(0,.I y),(1,.I m),(2,.I d)]).run Tryz.prog w=.ok (Zi8 y m d) w:=by kernel_rfl
end Go.Proofs.YteibicnbkggiiaaGreatDoor
