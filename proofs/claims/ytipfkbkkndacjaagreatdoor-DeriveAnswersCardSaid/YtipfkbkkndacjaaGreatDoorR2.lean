/-
Contracts and plain laws, merged out of own texts.
-/
import Derived.Test.YtipfkbkkndacjaaGreatDoorR1
import Derived.Lib.ItoaNum
import Derived.Laws.RangeString
import Derived.Laws.RangeAny
import Derived.Lib.AppendZeros
import Derived.Laws.OwnMore
import Derived.Deep.Slices
import Derived.Deep.Fields
import Derived.ChangeSame
import Derived.Below
set_option linter.unusedVariables false
set_option linter.unusedSimpArgs false
set_option maxHeartbeats 4000000
set_option maxRecDepth 20000
namespace Go.Proofs.YtipfkbkkndacjaaGreatDoor
open Go Go.Eng Go.RowKit
def ZJ:Nd->Nat
 | .mk k n s l=>1+(l.map ZJ).sum
theorem Z14 (x:Nd):ZJ x=1+(x.kids.map ZJ).sum:=by
 cases x;rw [ZJ];rfl
theorem Z8G {l:List Nat} {a:Nat} (h:a∈l):a<=l.sum:=by
 induction l with
 | nil=>cases h
 | cons x r ih=>
   rw [List.sum_cons];rcases Xb.1 h with rfl|h
   omega;have:=ih h;omega
theorem Zis {x y:Nd} (h:y∈x.kids):ZJ y<ZJ x:=by
 rw [Z14 x];have:=Z8G (Yah (f:=ZJ) h);omega
theorem Zit (x:Nd):1<=ZJ x:=by rw [Z14];omega
theorem Zdf (l:List Nd):l.length<=(l.map ZJ).sum:=by
 induction l with
 | nil=>simp
 | cons x r ih=>
   have:=Zit x;simp;omega
theorem Z3v (x:Nd):ZJ x<=1000->okN x=true:=by
 induction x using Nd.ind with
 | h k n s l ih=>
 intro h;rw [Zel];have h1:=Z14 (.mk k n s l);have h2:=Zdf l;refine ⟨?_,λy hy=>ih y hy ?_⟩;show l.length<=1000;have:ZJ (.mk k n s l)=1+(l.map ZJ).sum:=h1;omega;have:=Zis (x:=.mk k n s l) (y:=y) hy;omega
theorem Z7v (X:List Nat) (v:Value) (x:Nd) (w) (aO:okN x=true) (hn:Zy x<=1000000) (hx:NdV X w v x) :
 CC 107 #[v] w λr w'=>r=.tuple #[.I (if Zy x<=12 then Zd x else 0),.I (if Zy x<=12 then (if Zd x=0 then 21 else 0) else 2)]/\Stp [] w w':=by
 obtain ⟨kv,rfl,hs⟩:=hx;refine cW1 13 Tryz.func107 ?_;refine W ?_;refine Z0 (Zo rfl) rfl ?_;rintro _ w1 ⟨b,rfl,lQ,ac,hS⟩;replace ac:Blk w1 b _ (ndC x kv):=ac;replace hs:=hs.up hS;refine W ?_;refine CL (Zbl x X _ _ hn ⟨kv,rfl,hs⟩) ?_;rintro _ w2 ⟨rfl,ah⟩;replace hs:=hs.up ah;replace ac:=ac.up ah;replace hS:=hS.trans ah;by_cases hn:Zy x<=12;rw [if_pos hn,if_pos hn];refine QO ?_;refine CL (Zfh x X _ _ aO ⟨kv,rfl,hs⟩) ?_;rintro _ w3 ⟨rfl,am⟩;replace hS:=hS.trans am
 (refine QP ?_ ?_<;>intro hc)
 refine RU ?_;exact ⟨by rw [if_pos hc,hc],hS⟩;refine RU ?_;exact ⟨by rw [if_neg hc],hS⟩;rw [if_neg hn,if_neg hn];refine RT ?_;exact ⟨rfl,hS⟩
theorem Z4R {x:Nd} (h:Zd x≠0):x.kids.length<=3/\∀ y∈x.kids,Zd y≠0:=by
 rw [Z0E] at h;unfold JB at h;refine ⟨?_,λy hy e=>?_⟩;by_cases hl:(x.kids.map Zd).length > 3;rw [if_pos hl] at h;exact absurd rfl h;simpa using hl;by_cases hl:(x.kids.map Zd).length > 3;rw [if_pos hl] at h;exact absurd rfl h;rw [if_neg hl,if_pos (by rw [<- e];exact Yah hy)] at h;exact absurd rfl h
def Z7w:List Str:=[[110,101,120,116],[112,114,101,118],[108,97,116,101,114],[101,97,114,108,105,101,114],[98,101,116,119,101,101,110]]
inductive ZnH (k:Int) (s:Str) (m:Nat):Prop
 | neg (h:k=5) (hs:s=[45]\/s=[110,111,116]) (hm:m=1)
 | bin (h:k=6) (hs:s∈Z0Q\/s∈Z24\/s∈Z0D) (hm:m=2)
 | unit (h:k=7\/k=8) (hs:s∈J1) (hm:m=2)
 | cond (h:k=9) (hm:m=3)
 | call (h:k=10) (hs:s∈Z7w) (hm:1<=m/\m<=2)
theorem Z6E {x:Nd} (h:Zd x≠0) (hk:x.kids≠[]):x.num=0/\ZnH x.kind x.word x.kids.length:=by
 have hl:=(Z4R h).1;rw [Zek] at h;have ai:(x.kids.map Zd).length=x.kids.length:=by simp
 have aU:¬ x.kids.map Zd=[]:=by simpa using hk
 generalize x.kids.map Zd=ts at *;rw [<- ai];unfold Z4C at h;rw [if_neg aU] at h;have hn:x.num=0:=Decidable.byContradiction (λhn=>by rw [if_pos hn] at h;exact absurd rfl h);refine ⟨hn,?_⟩;rw [if_neg (by simpa using hn)] at h;have cp:∀ m:List Int,Z0b ts m=true->ts.length=m.length:=λm hm=>by rw [(Zbh.1 hm).1]
 by_cases k5:x.kind=5;rw [if_pos k5] at h;split at h;rename_i hh;rcases hh with ⟨h1,h2⟩|⟨h1,h2⟩
 exact .neg k5 (.inl h1) (cp _ h2);exact .neg k5 (.inr h1) (cp _ h2);exact absurd rfl h;rw [if_neg k5] at h;by_cases k6:x.kind=6;rw [if_pos k6] at h;unfold Za4 at h;simp only [Z2N] at h;split at h;rename_i hh;exact .bin k6 (.inl hh.1) (cp _ hh.2);split at h;rename_i hh;rcases hh.2 with h2|h2
 exact .bin k6 (.inr (.inl hh.1)) (cp _ h2);exact .bin k6 (.inr (.inl hh.1)) (cp _ h2);split at h;rename_i hh;exact .bin k6 (.inr (.inr hh.1)) (cp _ hh.2);exact absurd rfl h;rw [if_neg k6] at h;by_cases k78:x.kind=7\/x.kind=8;rw [if_pos k78] at h;simp only [Z2N] at h;split at h;rename_i hh;exact .unit k78 hh.1 (cp _ hh.2);exact absurd rfl h;rw [if_neg k78] at h;by_cases k9:x.kind=9;rw [if_pos k9] at h;split at h;rename_i hh;exact .cond k9 hh.2.1;exact absurd rfl h;rw [if_neg k9] at h;by_cases k10:x.kind=10;rw [if_pos k10] at h;unfold Z6D at h;simp only [Z2N] at h;split at h;rename_i hh;refine .call k10 ?_ (by have:=cp _ hh.2;simp at this;omega);have:=hh.1;simp only [Z2n,Z7w,Xb,Xj,or_false] at this ⊢;rcases this with h|h<;>simp [h]
 split at h;rename_i hh;refine .call k10 ?_ (by have:=cp _ hh.2;simp at this;omega);have:=hh.1;simp only [Z2o,Z7w,Xb,Xj,or_false] at this ⊢;rcases this with h|h<;>simp [h]
 split at h;rename_i hh;refine .call k10 ?_ (by have:=cp _ hh.2;simp at this;omega);simp [Z7w,hh.1];exact absurd rfl h;rw [if_neg k10] at h;exact absurd rfl h
theorem Zdg {x:Nd} (h:Zd x≠0) (hk:x.kids=[]):1<=x.kind/\x.kind<=4:=by
 rw [Z0E,hk] at h;simp [JB] at h;unfold Z0Z at h
 grind
end Go.Proofs.YtipfkbkkndacjaaGreatDoor
namespace Go.Eng
open Go
structure Ins where
 op:Int
 n:Int
 deriving DecidableEq,Inhabited
instance:Z3 Ins where
 k:=2
 enc:=λx=>[.I x.op,.I x.n]
 len:=λ_=>rfl
 one:=by intro x u hu;simp at hu;rcases hu with rfl|rfl<;>rfl
def agg {α:Type} [Z3 α] (x:α):Value:=aG x
theorem Row.keep {β:Type} [Z3 β] {X S:List Nat} {w w':World} {base T:Nat} {v:Value} {xs:List β} (h:Row X w base T v xs) (hS:Stp S w w') (hd:∀ b∈S,b∉ob v):Row X w' base T v xs:=by
 have h':Row S w base T v xs:=h;have:=h'.ext (X':=X) hS (λb hb=>⟨hb,hd b hb⟩);obtain ⟨css,h1,h2,h3⟩:=h;refine ⟨css,h1,h2,?_⟩;have h4:Row S w base T v xs:=⟨css,h1,h2,h3⟩
 obtain ⟨ho,hr⟩:=h3;refine ⟨ho,?_⟩;rcases hr with hn|⟨q,cap,cur,rfl,hb,hg,rest⟩
 exact .inl hn;refine .inr ⟨q,cap,cur,rfl,hb,?_,rest⟩;rw [hS.block q (Xk.1 hg).1 (λhq=>hd q hq (by simp [ob]))];exact hg
end Go.Eng
namespace Go.Proofs.YtipfkbkkndacjaaGreatDoor
open Go Go.Eng Go.RowKit
theorem Z7x (a b:Int) (w):(Instr.build 171 #[(0,.I a),(1,.I b)]).run Tryz.prog w=.ok (agg (Ins.mk a b)) w:=by kernel_rfl
theorem Z7e (a:Int) (w):(Instr.build 171 #[(0,.I a)]).run Tryz.prog w=.ok (agg (Ins.mk a 0)) w:=by kernel_rfl
theorem Z2O (d:Ins) (w):(Instr.buildSlice 60 1 #[(0,agg d)]).run Tryz.prog w=.ok (.slice (some ⟨w.heap.size,0,none⟩) 1 1) (w.alloc (.cells (Z3.enc d).toArray 171)):=by kernel_rfl
structure Cod (w:World) (bc base:Nat) (v:Value) (xs:List Ins):Prop where
 blk:Blk w bc 244 [v]
 row:Row [] w base 171 v xs
 apart:bc∉ob v
 low:bc<base
 top:base<=w.heap.size
def Z3e (w:World) (bc base:Nat) (v:Value) (ys:List Ins) (w':World):Prop:=
 ∃ v',Cod w' bc base v' ys/\Stp (bc :: ob v) w w'/\∀ b∈ob v',b∈ob v\/w.heap.size<=b
theorem Cod.up {w w':World} {bc base:Nat} {v:Value} {xs:List Ins} (h:Cod w bc base v xs) (hS:Stp [] w w'):Cod w' bc base v xs:=
 ⟨h.blk.up hS,h.row.up hS,h.apart,h.low,Xg h.top hS.size⟩
theorem Z3e.pre {w0 w w':World} {bc base:Nat} {v:Value} {ys:List Ins} (hS:Stp [] w0 w) (h:Z3e w bc base v ys w'):Z3e w0 bc base v ys w':=by
 obtain ⟨v',h1,h2,h3⟩:=h;exact ⟨v',h1,hS.mn.trans h2,λb hb=>(h3 b hb).imp id (λh=>Xg hS.size h)⟩
theorem Z3e.next {w w1 w2:World} {bc base:Nat} {v v1:Value} {zs:List Ins} (hS:Stp (bc :: ob v) w w1) (hb:∀ b∈ob v1,b∈ob v\/w.heap.size<=b) (h:Z3e w1 bc base v1 zs w2):Z3e w bc base v zs w2:=by
 obtain ⟨v',h1,h2,h3⟩:=h;refine ⟨v',h1,?_,λb dr=>?_⟩;exact hS.own h2 (λb dr=>by
  rcases Xb.1 dr with rfl|h
  exact .inl (by simp);exact (hb b h).imp (λh=>XE _ h) id)
 rcases h3 b dr with h|h
 exact hb b h;exact .inr (Xg hS.size h)
theorem ZnI {w w':World} {bc:Nat} {v v':Value} {α:Type} [Z5 α] {u:Value} {xs:List α} (h:SlV (bc :: ob v) w u xs) (hS:Stp (bc :: ob v) w w') (hb:∀ b∈ob v',b∈ob v\/w.heap.size<=b):SlV (bc :: ob v') w' u xs:=
 h.ext hS (λ_ h=>h) (λb dr=>by
  rcases Xb.1 dr with rfl|h
  exact .inl (by simp);exact (hb b h).imp (λh=>XE _ h) id)
theorem Z2P (bc base:Nat) (v:Value) (xs:List Ins) (op n:Int) (w) (hc:Cod w bc base v xs) (hl:xs.length<=1000000) :
 CC 171 #[pQ bc,.I op,.I n] w λr w'=>r=.I (xs.length:Int)/\Z3e w bc base v (xs++[⟨op,n⟩]) w':=by
 obtain ⟨ac,ab,hap,pH,pI⟩:=hc;refine cW3 25 Tryz.func171 ?_;refine W ?_;apply Z7 (vs:=[(0,.I op),(1,.I n)]) rfl (Z7x _ _) rfl;refine Z0 (Z1 (vs:=[(0,agg (Ins.mk op n))]) rfl (Z2O _)) rfl ?_;rintro bv w1 hN;have an:SlV (ob v++[]) w1 bv [Ins.mk op n]:=hN.slv (λb hb=>(ab.ob_le b (by simpa using hb)).2) rfl rfl (by simp [maxLen]);have ae:=Z9.stp hN;clear hN;have mJ:=ab.up ae;have cj:=ac.up ae;have h1:=ae.size;refine Z0 (Zx (X:=[]) (base:=base) rfl (by decide) rfl rfl mJ an (by simp only [Xe,Xf];omega) (by simp only [Xe,Xf,maxLen];omega) (by omega)) rfl ?_;rintro v' w2 ⟨aM,ah,bh⟩;have aQ:=cj.ext ah hap;have pF:=cj.lt;refine W ?_;refine Z6 (Zb (u:=v') rfl rfl aM.slv0.cells aM.slv0.one aQ (by simp)) ?_;rintro _ w3 ⟨am,aL⟩;replace aL:Blk w3 bc 244 [v']:=aL;have mK:bc∉ob v':=λhb=>by
  rcases bh bc hb with h|h
  exact hap h;omega
 have bI:=aM.keep am (λb hb=>by simp at hb;subst hb;exact mK);have ey:=bI.slv0;have jO:(xs++[Ins.mk op n]).length<=1000001:=by simp only [Xc,Xe,Xf];omega
 refine W ?_;refine WR ?_;refine .mk ⟨?_,v',⟨aL,bI,mK,pH,?_⟩,?_,?_⟩;simp only [Xc,Xe,Xf];congr 1;omega;exact Xg pI (Xg h1 (Xg ah.size am.size));exact (ae.mn.trans (ah.mono (λx hx=>by simp [hx]))).trans (am.mono (λx hx=>by simp at hx;simp [hx]));intro b hb;rcases bh b hb with h|h
 exact .inl h;exact .inr (by omega)
structure Fr (w0 w:World) (bc base:Nat) (v0 v:Value) (xs:List Ins):Prop where
 cod:Cod w bc base v xs
 stp:Stp (bc :: ob v0) w0 w
 sub:∀ b∈ob v,b∈ob v0\/w0.heap.size<=b
theorem Fr.start {w} {bc base:Nat} {v:Value} {xs:List Ins} (h:Cod w bc base v xs):Fr w w bc base v v xs:=⟨h,Stp.refl _ _,λb hb=>.inl hb⟩
theorem Fr.step {w0 w w':World} {bc base:Nat} {v0 v:Value} {xs ys:List Ins} (h:Fr w0 w bc base v0 v xs) (k:Z3e w bc base v ys w'):∃ v',Fr w0 w' bc base v0 v' ys:=by
 obtain ⟨v',h1,h2,h3⟩:=Z3e.next h.stp h.sub k;exact ⟨v',h1,h2,h3⟩
theorem Fr.up {w0 w w':World} {bc base:Nat} {v0 v:Value} {xs:List Ins} (h:Fr w0 w bc base v0 v xs) (hS:Stp [] w w'):Fr w0 w' bc base v0 v xs:=⟨h.cod.up hS,h.stp.trans hS.mn,h.sub⟩
theorem Fr.fin {w0 w:World} {bc base:Nat} {v0 v:Value} {xs:List Ins} (h:Fr w0 w bc base v0 v xs):Z3e w0 bc base v0 xs w:=⟨v,h.cod,h.stp,h.sub⟩
theorem Fr.sl {w0 w:World} {bc base:Nat} {v0 v:Value} {xs:List Ins} {α:Type} [Z5 α] {u:Value} {ys:List α} (h:Fr w0 w bc base v0 v xs) (hs:SlV (bc :: ob v0) w0 u ys):SlV (bc :: ob v) w u ys:=ZnI hs h.stp h.sub
theorem Fr.bk {w0 w:World} {bc base b T:Nat} {v0 v:Value} {xs:List Ins} {cs:List Value} (h:Fr w0 w bc base v0 v xs) (hb:Blk w0 b T cs) (hn:b∉bc :: ob v0):Blk w b T cs:=hb.ext h.stp hn
abbrev Cf:=Nat->List Ins
def chC (c y n:Cf) (p0:Nat):List Ins:=
 c p0 ++ [⟨14, ((p0 + (c p0).length + 1 + (y (p0 + (c p0).length + 1)).length + 1 : Nat) : Int)⟩] ++ y (p0 + (c p0).length + 1) ++
   [⟨13,((p0+(c p0).length+1+(y (p0+(c p0).length+1)).length+1+(n (p0+(c p0).length+1+(y (p0+(c p0).length+1)).length+1)).length:Nat):Int)⟩]++n (p0+(c p0).length+1+(y (p0+(c p0).length+1)).length+1)
def Zdh (x:Nd) (f:Cf):Prop:=∀ (w:World) (bc base:Nat) (v nv:Value) (xs:List Ins),Cod w bc base v xs->NdV (bc :: ob v) w nv x->SlV (bc :: ob v) w Z2m Ze->xs.length+(f xs.length).length<=100000->
 CC 170 #[pQ bc,nv] w λr w'=>Z3e w bc base v (xs++f xs.length) w'
def Za8 (X:List Nat) (w:World) (r:Nat) (es:List (Str×List Int)):Prop:=
 ∃ l:List (Str×Value),JF str w r l/\l.length=es.length/\∀ i (h:i<l.length) (h':i<es.length),l[i].1=es[i].1/\SlV (r :: X) w l[i].2 es[i].2
theorem Za8.up {X:List Nat} {w w':World} {r:Nat} {es:List (Str×List Int)} (h:Za8 X w r es) (hS:Stp [] w w'):Za8 X w' r es:=by
 obtain ⟨l,h1,h2,h3⟩:=h;exact ⟨l,h1.up hS,h2,λi h h'=>⟨(h3 i h h').1,(h3 i h h').2.up hS⟩⟩
theorem ZP {P:Program} {n:Nat} {e:Env} {w} {d:Option Nat} {ty:TypeId} {pos:String} {af:Array Edge} {g:Option (Nat×Bool)} {mt kt et r:Nat} {x y z:Operand} [hm:Und P mt (.map kt et)] [hk:Und P kt .string] {X:List Nat} {es:List (Str×List Int)} {a:Str} {v:Value} {xs:List Int} (hx:ev e x=some (.map (some r))) (hy:ev e y=some (str a)) (hz:ev e z=some v)
 (hr:Za8 X w r es) (hv:SlV (r :: X) w v xs) (hn:∀ p∈es,¬ p.1=a):OE P n ⟨d,.insert mt x y z,ty,pos,af,g⟩ e w (λ_ w'=>Za8 X w' r (es++[(a,xs)])/\Stp [r] w w'):=by
 obtain ⟨l,h1,h2,h3⟩:=hr;have kp:∀ p∈l,¬ p.1=a:=by
  intro p hp;obtain ⟨i,hi,rfl⟩:=Xr hp;rw [(h3 i hi (by omega)).1];exact hn _ (Xd _)
 refine (Zs (K:=inferInstance) hx hy hz h1 kp).mono ?_;rintro _ w' ⟨g1,g2⟩;refine ⟨⟨_,g1,by simp [h2],λi h h'=>?_⟩,g2⟩;by_cases hi:i<l.length;have cA:i<es.length:=by omega
 rw [X7 hi,X7 cA];exact ⟨(h3 i hi cA).1,(h3 i hi cA).2.on g2 (by simp)⟩;have kA:i=l.length:=by simp at h;omega
 subst kA;rw [X1 (Xn _),X1 (by omega)];simp only [Nat.sub_self,h2,Ya8];exact ⟨trivial,hv.on g2 (by simp)⟩
def Z7y:List (Str×List Int):=[([43],[5]),([42],[7]),([110,111,116],[12]),([60],[9]),([60,61],[10]),([61],[11]),([62],[10,12]),([62,61],[9,12]),([33,61],[11,12]),([100,97,121,115],[15]),([119,101,101,107,115],[16]),([109,111,110,116,104,115],[17]),([99,111,117,114,116,100,97,121,115],[18]),([110,101,120,116],[19]),([112,114,101,118],[20]),([108,97,116,101,114],[21]),([101,97,114,108,105,101,114],[22]),([98,101,116,119,101,101,110],[23])]
theorem Z8H (X:List Nat) (w:World) (hX:∀ b∈X,b<w.heap.size):CC 290 #[] w λr w'=>∃ m,r=.map (some m)/\Za8 X w' m Z7y/\Stp [] w w':=by
 refine cW0 21 Tryz.func290 ?_;refine W ?_;refine Z0 (Z0P str) rfl ?_;rintro _ w1 ⟨m,rfl,hm,au,hS⟩;have aN:Za8 X w1 m []:=⟨[],au,rfl,λi h=>absurd h (Xt _)⟩
 have bH:=au.lt;clear au;have eG:∀ b∈m :: X,b<=m:=λb hb=>(Xb.1 hb).elim (λh=>by omega) (λh=>by have:=hX b h;omega)
 refine Z0 (Z1 (vs:=[(0,.I 5)]) rfl (Zp _)) rfl ?_;rintro bv w2 hN;have an:SlV (m :: X) w2 bv [(5:Int)]:=hN.slv (λb hb=>by have:=eG b hb;omega) rfl rfl (by simp [maxLen]);have ah:=Z9.stp hN;clear hN;replace aN:=aN.up ah;have aH:=ah.size;refine Z6 (ZP (a:=[43]) rfl rfl rfl aN an (by decide)) ?_;clear aN;rintro _ w3 ⟨aN,am⟩;have aI:=am.size;replace bH:=Xa (Xa bH aH) aI;replace hS:=(hS.trans ah).ow am;clear ah am an aH aI;refine Z0 (Z1 (vs:=[(0,.I 7)]) rfl (Zp _)) rfl ?_;rintro bv w2 hN;have an:SlV (m :: X) w2 bv [(7:Int)]:=hN.slv (λb hb=>by have:=eG b hb;omega) rfl rfl (by simp [maxLen]);have ah:=Z9.stp hN;clear hN;replace aN:=aN.up ah;have aH:=ah.size;refine Z6 (ZP (a:=[42]) rfl rfl rfl aN an (by decide)) ?_;clear aN;rintro _ w3 ⟨aN,am⟩;have aI:=am.size;replace bH:=Xa (Xa bH aH) aI;replace hS:=(hS.trans ah).ow am;clear ah am an aH aI;refine Z0 (Z1 (vs:=[(0,.I 12)]) rfl (Zp _)) rfl ?_;rintro bv w2 hN;have an:SlV (m :: X) w2 bv [(12:Int)]:=hN.slv (λb hb=>by have:=eG b hb;omega) rfl rfl (by simp [maxLen]);have ah:=Z9.stp hN;clear hN;replace aN:=aN.up ah;have aH:=ah.size;refine Z6 (ZP (a:=[110,111,116]) rfl rfl rfl aN an (by decide)) ?_;clear aN;rintro _ w3 ⟨aN,am⟩;have aI:=am.size;replace bH:=Xa (Xa bH aH) aI;replace hS:=(hS.trans ah).ow am;clear ah am an aH aI;refine Z0 (Z1 (vs:=[(0,.I 9)]) rfl (Zp _)) rfl ?_;rintro bv w2 hN;have an:SlV (m :: X) w2 bv [(9:Int)]:=hN.slv (λb hb=>by have:=eG b hb;omega) rfl rfl (by simp [maxLen]);have ah:=Z9.stp hN;clear hN;replace aN:=aN.up ah;have aH:=ah.size;refine Z6 (ZP (a:=[60]) rfl rfl rfl aN an (by decide)) ?_;clear aN;rintro _ w3 ⟨aN,am⟩;have aI:=am.size;replace bH:=Xa (Xa bH aH) aI;replace hS:=(hS.trans ah).ow am;clear ah am an aH aI;refine Z0 (Z1 (vs:=[(0,.I 10)]) rfl (Zp _)) rfl ?_;rintro bv w2 hN;have an:SlV (m :: X) w2 bv [(10:Int)]:=hN.slv (λb hb=>by have:=eG b hb;omega) rfl rfl (by simp [maxLen]);have ah:=Z9.stp hN;clear hN;replace aN:=aN.up ah;have aH:=ah.size;refine Z6 (ZP (a:=[60,61]) rfl rfl rfl aN an (by decide)) ?_;clear aN;rintro _ w3 ⟨aN,am⟩;have aI:=am.size;replace bH:=Xa (Xa bH aH) aI;replace hS:=(hS.trans ah).ow am;clear ah am an aH aI;refine Z0 (Z1 (vs:=[(0,.I 11)]) rfl (Zp _)) rfl ?_;rintro bv w2 hN;have an:SlV (m :: X) w2 bv [(11:Int)]:=hN.slv (λb hb=>by have:=eG b hb;omega) rfl rfl (by simp [maxLen]);have ah:=Z9.stp hN;clear hN;replace aN:=aN.up ah;have aH:=ah.size;refine Z6 (ZP (a:=[61]) rfl rfl rfl aN an (by decide)) ?_;clear aN;rintro _ w3 ⟨aN,am⟩;have aI:=am.size;replace bH:=Xa (Xa bH aH) aI;replace hS:=(hS.trans ah).ow am;clear ah am an aH aI;refine Z0 (Z1 (vs:=[(0,.I 10),(1,.I 12)]) rfl (JU _ _)) rfl ?_;rintro bv w2 hN;have an:SlV (m :: X) w2 bv [(10:Int),(12:Int)]:=hN.slv (λb hb=>by have:=eG b hb;omega) rfl rfl (by simp [maxLen]);have ah:=Z9.stp hN;clear hN;replace aN:=aN.up ah;have aH:=ah.size;refine Z6 (ZP (a:=[62]) rfl rfl rfl aN an (by decide)) ?_;clear aN;rintro _ w3 ⟨aN,am⟩;have aI:=am.size;replace bH:=Xa (Xa bH aH) aI;replace hS:=(hS.trans ah).ow am;clear ah am an aH aI;refine Z0 (Z1 (vs:=[(0,.I 9),(1,.I 12)]) rfl (JU _ _)) rfl ?_;rintro bv w2 hN;have an:SlV (m :: X) w2 bv [(9:Int),(12:Int)]:=hN.slv (λb hb=>by have:=eG b hb;omega) rfl rfl (by simp [maxLen]);have ah:=Z9.stp hN;clear hN;replace aN:=aN.up ah;have aH:=ah.size;refine Z6 (ZP (a:=[62,61]) rfl rfl rfl aN an (by decide)) ?_;clear aN;rintro _ w3 ⟨aN,am⟩;have aI:=am.size;replace bH:=Xa (Xa bH aH) aI;replace hS:=(hS.trans ah).ow am;clear ah am an aH aI;refine Z0 (Z1 (vs:=[(0,.I 11),(1,.I 12)]) rfl (JU _ _)) rfl ?_;rintro bv w2 hN;have an:SlV (m :: X) w2 bv [(11:Int),(12:Int)]:=hN.slv (λb hb=>by have:=eG b hb;omega) rfl rfl (by simp [maxLen]);have ah:=Z9.stp hN;clear hN;replace aN:=aN.up ah;have aH:=ah.size;refine Z6 (ZP (a:=[33,61]) rfl rfl rfl aN an (by decide)) ?_;clear aN;rintro _ w3 ⟨aN,am⟩;have aI:=am.size;replace bH:=Xa (Xa bH aH) aI;replace hS:=(hS.trans ah).ow am;clear ah am an aH aI;refine Z0 (Z1 (vs:=[(0,.I 15)]) rfl (Zp _)) rfl ?_;rintro bv w2 hN;have an:SlV (m :: X) w2 bv [(15:Int)]:=hN.slv (λb hb=>by have:=eG b hb;omega) rfl rfl (by simp [maxLen]);have ah:=Z9.stp hN;clear hN;replace aN:=aN.up ah;have aH:=ah.size;refine Z6 (ZP (a:=[100,97,121,115]) rfl rfl rfl aN an (by decide)) ?_;clear aN;rintro _ w3 ⟨aN,am⟩;have aI:=am.size;replace bH:=Xa (Xa bH aH) aI;replace hS:=(hS.trans ah).ow am;clear ah am an aH aI;refine Z0 (Z1 (vs:=[(0,.I 16)]) rfl (Zp _)) rfl ?_;rintro bv w2 hN;have an:SlV (m :: X) w2 bv [(16:Int)]:=hN.slv (λb hb=>by have:=eG b hb;omega) rfl rfl (by simp [maxLen]);have ah:=Z9.stp hN;clear hN;replace aN:=aN.up ah;have aH:=ah.size;refine Z6 (ZP (a:=[119,101,101,107,115]) rfl rfl rfl aN an (by decide)) ?_;clear aN;rintro _ w3 ⟨aN,am⟩;have aI:=am.size;replace bH:=Xa (Xa bH aH) aI;replace hS:=(hS.trans ah).ow am;clear ah am an aH aI;refine Z0 (Z1 (vs:=[(0,.I 17)]) rfl (Zp _)) rfl ?_;rintro bv w2 hN;have an:SlV (m :: X) w2 bv [(17:Int)]:=hN.slv (λb hb=>by have:=eG b hb;omega) rfl rfl (by simp [maxLen]);have ah:=Z9.stp hN;clear hN;replace aN:=aN.up ah;have aH:=ah.size;refine Z6 (ZP (a:=[109,111,110,116,104,115]) rfl rfl rfl aN an (by decide)) ?_;clear aN;rintro _ w3 ⟨aN,am⟩;have aI:=am.size;replace bH:=Xa (Xa bH aH) aI;replace hS:=(hS.trans ah).ow am;clear ah am an aH aI;refine Z0 (Z1 (vs:=[(0,.I 18)]) rfl (Zp _)) rfl ?_;rintro bv w2 hN;have an:SlV (m :: X) w2 bv [(18:Int)]:=hN.slv (λb hb=>by have:=eG b hb;omega) rfl rfl (by simp [maxLen]);have ah:=Z9.stp hN;clear hN;replace aN:=aN.up ah;have aH:=ah.size;refine Z6 (ZP (a:=[99,111,117,114,116,100,97,121,115]) rfl rfl rfl aN an (by decide)) ?_;clear aN;rintro _ w3 ⟨aN,am⟩;have aI:=am.size;replace bH:=Xa (Xa bH aH) aI;replace hS:=(hS.trans ah).ow am;clear ah am an aH aI;refine Z0 (Z1 (vs:=[(0,.I 19)]) rfl (Zp _)) rfl ?_;rintro bv w2 hN;have an:SlV (m :: X) w2 bv [(19:Int)]:=hN.slv (λb hb=>by have:=eG b hb;omega) rfl rfl (by simp [maxLen]);have ah:=Z9.stp hN;clear hN;replace aN:=aN.up ah;have aH:=ah.size;refine Z6 (ZP (a:=[110,101,120,116]) rfl rfl rfl aN an (by decide)) ?_;clear aN;rintro _ w3 ⟨aN,am⟩;have aI:=am.size;replace bH:=Xa (Xa bH aH) aI;replace hS:=(hS.trans ah).ow am;clear ah am an aH aI;refine Z0 (Z1 (vs:=[(0,.I 20)]) rfl (Zp _)) rfl ?_;rintro bv w2 hN;have an:SlV (m :: X) w2 bv [(20:Int)]:=hN.slv (λb hb=>by have:=eG b hb;omega) rfl rfl (by simp [maxLen]);have ah:=Z9.stp hN;clear hN;replace aN:=aN.up ah;have aH:=ah.size;refine Z6 (ZP (a:=[112,114,101,118]) rfl rfl rfl aN an (by decide)) ?_;clear aN;rintro _ w3 ⟨aN,am⟩;have aI:=am.size;replace bH:=Xa (Xa bH aH) aI;replace hS:=(hS.trans ah).ow am;clear ah am an aH aI;refine Z0 (Z1 (vs:=[(0,.I 21)]) rfl (Zp _)) rfl ?_;rintro bv w2 hN;have an:SlV (m :: X) w2 bv [(21:Int)]:=hN.slv (λb hb=>by have:=eG b hb;omega) rfl rfl (by simp [maxLen]);have ah:=Z9.stp hN;clear hN;replace aN:=aN.up ah;have aH:=ah.size;refine Z6 (ZP (a:=[108,97,116,101,114]) rfl rfl rfl aN an (by decide)) ?_;clear aN;rintro _ w3 ⟨aN,am⟩;have aI:=am.size;replace bH:=Xa (Xa bH aH) aI;replace hS:=(hS.trans ah).ow am;clear ah am an aH aI;refine Z0 (Z1 (vs:=[(0,.I 22)]) rfl (Zp _)) rfl ?_;rintro bv w2 hN;have an:SlV (m :: X) w2 bv [(22:Int)]:=hN.slv (λb hb=>by have:=eG b hb;omega) rfl rfl (by simp [maxLen]);have ah:=Z9.stp hN;clear hN;replace aN:=aN.up ah;have aH:=ah.size;refine Z6 (ZP (a:=[101,97,114,108,105,101,114]) rfl rfl rfl aN an (by decide)) ?_;clear aN;rintro _ w3 ⟨aN,am⟩;have aI:=am.size;replace bH:=Xa (Xa bH aH) aI;replace hS:=(hS.trans ah).ow am;clear ah am an aH aI;refine Z0 (Z1 (vs:=[(0,.I 23)]) rfl (Zp _)) rfl ?_;rintro bv w2 hN;have an:SlV (m :: X) w2 bv [(23:Int)]:=hN.slv (λb hb=>by have:=eG b hb;omega) rfl rfl (by simp [maxLen]);have ah:=Z9.stp hN;clear hN;replace aN:=aN.up ah;have aH:=ah.size;refine Z6 (ZP (a:=[98,101,116,119,101,101,110]) rfl rfl rfl aN an (by decide)) ?_;clear aN;rintro _ w3 ⟨aN,am⟩;have aI:=am.size;replace bH:=Xa (Xa bH aH) aI;replace hS:=(hS.trans ah).ow am;clear ah am an aH aI;refine RT ?_;exact ⟨m,rfl,aN,hS⟩
def opF (s:Str):List Int:=match Z7y.find? (λp=>decide (p.1=s)) with|some p=>p.2|none=>[]
theorem Zem (s:Str):(opF s).length<=2:=by
 unfold opF;cases h:Z7y.find? (λp=>decide (p.1=s)) with
 | none=>simp
 | some p=>
   have hp:=X2 h;have:∀ p∈Z7y,p.2.length<=2:=by decide
   exact this p hp
theorem Za8.get {X:List Nat} {w} {m:Nat} (h:Za8 X w m Z7y) (s:Str):∃ l:List (Str×Value),JF str w m l/\SlV X w (Z3p l s (.N)) (opF s):=by
 obtain ⟨l,h1,h2,h3⟩:=h;refine ⟨l,h1,?_⟩;unfold Z3p opF;have hf:(l.find? (λp=>decide (p.1=s))=none/\Z7y.find? (λp=>decide (p.1=s))=none)\/∃ i,∃ (h:i<l.length) (h':i<Z7y.length),l.find? (λp=>decide (p.1=s))=some l[i]/\Z7y.find? (λp=>decide (p.1=s))=some Z7y[i]:=by
  cases hq:l.find? (λp=>decide (p.1=s)) with
  | none=>
    left;refine ⟨rfl,?_⟩;rw [Yao];intro p hp;obtain ⟨i,hi,rfl⟩:=Xr hp;have:=Yao.1 hq l[i] (Xd (by omega))
    rwa [(h3 i (by omega) hi).1] at this
  | some p=>
    right;obtain ⟨hp,i,hi,rfl,hb⟩:=Yap.1 hq;refine ⟨i,hi,by omega,rfl,?_⟩;rw [Yap];refine ⟨by rw [<- (h3 i hi (by omega)).1];exact hp,i,by omega,rfl,λj hj=>?_⟩;rw [<- (h3 j (by omega) (by omega)).1];exact hb j hj
 rcases hf with ⟨e1,e2⟩|⟨i,h,h',e1,e2⟩
 rw [e1,e2];exact ⟨none,0,rfl,Xn _,by simp [maxLen],λ_=>rfl,λi h=>absurd h (Xt _)⟩;rw [e1,e2];exact (h3 i h h').2.ext (Stp.refl [] w) (by simp) (λb hb=>.inl (XE _ hb))
def Jn:List Cf->Nat->List Ins
 | [],_=>[]
 | c :: r,p=>c p++Jn r (p+(c p).length)
theorem Z6F (a b:List Cf) (p:Nat):Jn (a++b) p=Jn a p++Jn b (p+(Jn a p).length):=by
 induction a generalizing p with
 | nil=>simp [Jn]
 | cons c r ih=>
   simp only [XS,Jn,ih,Xc,Xx];rw [Yaq]
theorem Z94 (cs:List Cf) (p i:Nat) (h:i<cs.length):Jn (cs.take (i+1)) p=Jn (cs.take i) p++cs[i] (p+(Jn (cs.take i) p).length):=by
 rw [Xi h,Z6F];simp [Jn]
theorem Z7f (cs:List Cf) (p i:Nat):(Jn (cs.take i) p).length<=(Jn cs p).length:=by
 have:Jn cs p=Jn (cs.take i) p++Jn (cs.drop i) (p+(Jn (cs.take i) p).length):=by rw [<- Z6F,XI]
 rw [this,Xc];omega
def Z25 (l:List Int):List Ins:=l.map (λo=>⟨o,0⟩)
def Z0y (k:Int) (s:Str) (cs:List Cf) (p:Nat):List Ins:=Jn cs p++(if k=8\/k=5/\s=[45] then [⟨8,0⟩] else [])++Z25 (opF s)
theorem Zfi (x:Nd) (cs:List Cf) (bZ:cs.length=x.kids.length) (aV:∀ i (h:i<x.kids.length) (h':i<cs.length),Zdh x.kids[i] cs[i]) (w) (bc base:Nat) (v nv:Value) (xs:List Ins) (hc:Cod w bc base v xs)
 (hx:NdV (bc :: ob v) w nv x) (hF:SlV (bc :: ob v) w Z2m Ze) (hl:xs.length+(Z0y x.kind x.word cs xs.length).length<=100000) :
 CC 234 #[pQ bc,nv] w λr w'=>Z3e w bc base v (xs++Z0y x.kind x.word cs xs.length) w':=by
 have dT:=hl;unfold Z0y at dT;simp only [Xc] at dT;obtain ⟨kv,rfl,hs⟩:=hx;have aT:=hs.max;refine cW2 47 Tryz.func234 ?_;refine W ?_;refine Z0 (Zo rfl) rfl ?_;rintro _ wA ⟨b,rfl,hb,ac,hS⟩;replace ac:Blk wA b _ (ndC x kv):=ac;have kB:∀ b∈bc :: ob v,b<w.heap.size:=λb hb=>by
  rcases Xb.1 hb with rfl|h
  exact hc.blk.lt;exact (hc.row.ob_le b h).2
 have nb:b∉bc :: ob v:=λh=>by have:=kB _ h;omega
 replace hc:=hc.up hS;replace hs:=hs.up hS;replace hF:=hF.up hS;have main:∀ ys w',Z3e wA bc base v ys w'->Z3e w bc base v ys w':=λys w' h=>h.pre hS;refine W ?_;refine Z0f (σ:=Value) (λu=>[(0,pQ bc),(3,pQ b)]) (λu w'=>Fr wA w' bc base v u (xs++Jn cs xs.length)) ?_ ?_;refine LP (σ:=Nat×Value) (λq=>[(0,pQ bc),(3,pQ b),(9,kv),(10,.I (x.kids.length:Int)),(11,.I (q.1:Int))]) (λq w'=>q.1<=x.kids.length/\Fr wA w' bc base v q.2 (xs++Jn (cs.take q.1) xs.length)) (λq=>x.kids.length - q.1) (0,v) ⟨Xq _,by simpa [Jn] using Fr.start hc⟩ ?_;rintro ⟨j,u⟩ w2 ⟨hj,fr⟩;dsimp only at hj fr ⊢;by_cases hlt:j<x.kids.length;have br:=fr.sl hs;obtain ⟨kv2,db,cq⟩:=br.nd hlt;have ay:=Z94 cs xs.length j (by omega);have cQ:=Z7f cs xs.length (j+1);have pJ:=Z7f cs xs.length j;rw [ay,Xc] at cQ;refine QO ?_;apply Z8 (JC rfl rfl br hlt cq) rfl;refine Z0 Z2 rfl ?_;rintro _ w3 ⟨b3,rfl,d8,aL,am⟩;refine SB (us:=ndC x.kids[j] kv2) (ZC db) aL ?_;rintro _ w4 ⟨aJ,bu⟩;have ie:=am.ow aJ;replace fr:=fr.up ie;replace db:=db.up ie;refine W ?_;have ai:(xs++Jn (cs.take j) xs.length).length=xs.length+(Jn (cs.take j) xs.length).length:=Xc;refine CM (Zf rfl rfl) (aV j hlt (by omega) _ bc base _ _ _ fr.cod ⟨kv2,rfl,db⟩ (fr.sl hF) (by rw [ai];omega)) ?_;rintro _ w5 hq;obtain ⟨u5,fr⟩:=fr.step hq;rw [ai,Xx,<- ay] at fr;refine W ?_;exact QL (j+1,u5) ⟨by dsimp only;omega,fr⟩ (by dsimp only;omega);have ea:j=x.kids.length:=by omega
 subst ea;rw [<- bZ,Xp] at fr;refine QO ?_;exact QT u fr;rintro u w2 fr;have pK:=fr.bk ac nb;unfold Z0y;generalize Jn cs xs.length=A at *;rw [<- Xx,<- Xx];refine Zh2 (σ:=Value) (λu=>[(0,pQ bc),(3,pQ b)]) (λu w'=>Fr wA w' bc base v u (xs++A++if x.kind=8\/x.kind=5/\x.word=[45] then [⟨8,0⟩] else [])) ?_ ?_;by_cases gE:x.kind=8\/x.kind=5/\x.word=[45]
 . have il:(xs++A).length<=1000000:=by simp only [Xc];omega
   rw [if_pos gE];repeat'(first|refine W1 ?_|omega|refine VG ?_ ?_<;>intro hg|refine VC ?_ ?_<;>intro hc)
   all_goals first
    | (refine CL (Z2P bc base _ _ 8 0 _ fr.cod il) ?_
       rintro _ w3 ⟨rfl,hq⟩;obtain ⟨u3,fr⟩:=fr.step hq;refine W ?_;exact QT u3 fr)
    | (exfalso;rcases gE with h|⟨h1,h2⟩<;>first|omega|contradiction)
 . rw [if_neg gE,XH]
   have iM:¬ x.kind=8:=λh=>gE (.inl h);repeat'(first|refine W1 ?_|omega|refine VG ?_ ?_<;>intro hg|refine VC ?_ ?_<;>intro hc)
   all_goals first
    | exact QT u fr
    | (exfalso;exact gE (.inr ⟨by assumption,by assumption⟩))
 rintro u3 w3 fr;have pK:=fr.bk ac nb;have lR:=Zem x.word;generalize hB:xs++A++(if x.kind=8\/x.kind=5/\x.word=[45] then [(⟨8,0⟩:Ins)] else [])=B at *;have xP:B.length<=200000:=by
  rw [<- hB];simp only [Xc];have:(if x.kind=8\/x.kind=5/\x.word=[45] then [(⟨8,0⟩:Ins)] else []).length<=1:=by split<;>simp
  omega
 refine W ?_;refine ZDr 6 [] [] [(1,0),(2,1),(5,0),(0,2),(3,2),(4,0)] (λw1 ae=>?_);replace fr:=fr.up ae;replace pK:=pK.up ae;have sP:∀ b∈bc :: ob u3,b<w1.heap.size:=λb hb=>(Xb.1 hb).elim (λh=>h ▸ fr.cod.blk.lt) (λh=>(fr.cod.row.ob_le b h).2);refine D ?_;refine DC (Z8H (bc :: ob u3) _ sP) (λ_ _ h=>h.choose_spec.2.2) ?_;rintro _ w5 ⟨m,rfl,hm,aD⟩;replace fr:=fr.up aD;obtain ⟨l,bH,ax⟩:=hm.get x.word;refine Za rfl trivial (ZnF (Z1G (K:=inferInstance) (a:=x.word) rfl rfl bH)) (λ_ _ h=>h.2 ▸ Stp.refl _ _) rfl ?_;rintro _ _ ⟨rfl,rfl⟩;generalize Z3p l x.word (.N)=ov at *;generalize opF x.word=O at *;refine D ?_;refine W ?_;refine LP (σ:=Nat×Value) (λq=>[(0,pQ bc),(37,ov),(38,.I (O.length:Int)),(39,.I (q.1:Int))]) (λq w'=>q.1<=O.length/\SlV (bc :: ob q.2) w' ov O/\Fr wA w' bc base v q.2 (B++Z25 (O.take q.1))) (λq=>O.length - q.1) (0,u3) ⟨Xq _,ax,by simpa [Z25] using fr⟩ ?_;clear fr ax sP;rintro ⟨j,u⟩ w6 ⟨hj,ax,fr⟩;dsimp only at hj fr ⊢;by_cases hlt:j<O.length;have il:(B++Z25 (O.take j)).length<=1000000:=by simp only [Xc,Z25,Xs,Xw];omega
 refine QO ?_;refine CL (Z2P bc base _ _ O[j] 0 _ fr.cod il) ?_;rintro _ w7 ⟨rfl,hq⟩;obtain ⟨u7,oB,aR,fg⟩:=id hq;have pL:SlV (bc :: ob u7) w7 ov O:=ZnI ax aR fg;have fr7:Fr wA w7 bc base v u7 (B++Z25 (O.take j)++[⟨O[j],0⟩]):=by
  refine ⟨oB,?_,λb hb=>?_⟩;exact fr.stp.own aR (λb hb=>by
   rcases Xb.1 hb with rfl|h
   exact .inl (by simp);exact (fr.sub b h).imp (λh=>XE _ h) id)
  rcases fg b hb with h|h
  exact fr.sub b h;exact .inr (Xg fr.stp.size h)
 refine W ?_;refine QL (j+1,u7) ⟨by dsimp only;omega,pL,?_⟩ (by dsimp only;omega);dsimp only;rw [Xi hlt];unfold Z25 at fr7 ⊢;rw [XM,<- Xx];exact fr7;have ea:j=O.length:=by omega
 subst ea;rw [Xp] at fr;refine QO ?_;refine WR ?_;exact .mk (main _ _ fr.fin)
def Z10 (k n:Int) (s:Str):Ins:=if k=1 then ⟨1,n⟩ else if k=2 then ⟨2,n⟩ else if k=3 then ⟨3,n⟩ else ⟨4,(ZO s).1⟩
def Z4S:Cf:=λ_=>[]
def Z18 (k n:Int) (s:Str) (cs:List Cf) (p:Nat):List Ins:=
 if cs.length=0 then [Z10 k n s]
 else if k=9 then chC (cs.getD 0 Z4S) (cs.getD 1 Z4S) (cs.getD 2 Z4S) p
 else if k=6/\s=[97,110,100] then chC (cs.getD 0 Z4S) (cs.getD 1 Z4S) (λ_=>[⟨2,0⟩]) p
 else if k=6/\s=[111,114] then chC (cs.getD 0 Z4S) (λ_=>[⟨2,1⟩]) (cs.getD 1 Z4S) p
 else if k=6/\s=[45] then Z0y k s cs p++[⟨6,0⟩]
 else Z0y k s cs p
def Zc:Nd->Nat->List Ins
 | .mk k n s l=>Z18 k n s (l.map Zc)
theorem Z5e (x:Nd):Zc x=Z18 x.kind x.num x.word (x.kids.map Zc):=by
 cases x;rw [Zc];rfl
theorem Ziu (w):(Instr.build 97 #[(0,.I 2)]).run Tryz.prog w=.ok (.agg #[.I 2,.I 0,str [],.N]) w:=by kernel_rfl
theorem Ziv (w):(Instr.build 97 #[(0,.I 2),(1,.I 1)]).run Tryz.prog w=.ok (.agg #[.I 2,.I 1,str [],.N]) w:=by kernel_rfl
theorem Zk {α:Type} [Z5 α] (X:List Nat) (w:World):SlV (α:=α) X w (.N) []:=⟨none,0,rfl,Xn _,by simp [maxLen],λ_=>rfl,λi h=>absurd h (Xt _)⟩
theorem Z28 {α:Type} [Z5 α] {X:List Nat} {w w':World} {v u:Value} {l:List α} {i k j:Nat} (hs:SlV X w v l) (hi:i<l.length) (hS:Stp X w w') (h:w.cell? (ZH v i k j)=some u):w'.cell? (ZH v i k j)=some u:=by
 obtain ⟨p,c,rfl,_,_,_,hc⟩:=hs;obtain ⟨b,o,cs,rfl,_,hx,_⟩:=hc i hi;exact hS.cell hx h
theorem SlV.nil {α:Type} [Z5 α] {X:List Nat} {w} {v:Value} {l:List α} (h:SlV X w v l):SlV [] w v l:=h.ext (Stp.refl [] w) (by simp) (by simp)
theorem Z7z {x:Nd} (h:x.kids=[]) (p:Nat):Zc x p=[Z10 x.kind x.num x.word]:=by
 rw [Z5e,h];simp [Z18]
theorem Zdi {x:Nd} (h:x.kids≠[]):(x.kids.map Zc).length≠0:=by simpa using h
theorem Z7A {x:Nd} {i:Nat} (h:i<x.kids.length):(x.kids.map Zc).getD i Z4S=Zc x.kids[i]:=by simp [List.getD,h]
inductive Smp:Nd->Prop
 | mk {x:Nd} (h6:x.kind≠6) (h9:x.kind≠9) (hk:∀ y∈x.kids,Smp y):Smp x
theorem Smp.k6 {x:Nd} (h:Smp x):x.kind≠6:=by cases h;assumption
theorem Smp.k9 {x:Nd} (h:Smp x):x.kind≠9:=by cases h;assumption
theorem Smp.kids {x:Nd} (h:Smp x):∀ y∈x.kids,Smp y:=by cases h;assumption
theorem Zm3 (x:Nd):Zd x≠0->Smp x->Zdh x (Zc x):=by
 induction x using Nd.ind with
 | h k n s l ih=>
 intro jP gF;have pM:=(Z4R jP).2;have aV:∀ i (h:i<(Nd.mk k n s l).kids.length) (h':i<((Nd.mk k n s l).kids.map Zc).length),Zdh (Nd.mk k n s l).kids[i] ((Nd.mk k n s l).kids.map Zc)[i]:=by
  intro i h h';rw [List.getElem_map];exact ih _ (Xd h) (pM _ (Xd h)) (gF.kids _ (Xd h))
 have bZ:((Nd.mk k n s l).kids.map Zc).length=(Nd.mk k n s l).kids.length:=by simp
 have dH:=Z6E jP;have pN:=Zdg jP;have lS:=Z5e (.mk k n s l);have lT:=Z7z (x:=.mk k n s l);have im:(Nd.mk k n s l).kids≠[]->5<=(Nd.mk k n s l).kind:=by
  intro h;rcases (dH h).2 with ⟨h,_,_⟩|⟨h,_,_⟩|⟨h,_,_⟩|⟨h,_⟩|⟨h,_,_⟩<;>omega
 have pO:(Nd.mk k n s l).kind=6->(Nd.mk k n s l).kids.length=2:=by
  intro h6;by_cases h0:(Nd.mk k n s l).kids=[]
  have:=pN h0;omega;rcases (dH h0).2 with ⟨h,_,_⟩|⟨h,_,hm⟩|⟨h,_,_⟩|⟨h,_⟩|⟨h,_,_⟩<;>omega
 have sQ:(Nd.mk k n s l).kind=9->(Nd.mk k n s l).kids.length=3:=by
  intro h6;by_cases h0:(Nd.mk k n s l).kids=[]
  have:=pN h0;omega;rcases (dH h0).2 with ⟨h,_,_⟩|⟨h,_,hm⟩|⟨h,_,_⟩|⟨h,hm⟩|⟨h,_,_⟩<;>omega
 have jQ:=λi=>Z7A (x:=.mk k n s l) (i:=i);generalize (Nd.mk k n s l)=x at *;clear ih;intro w bc base v nv xs io hx hF hl;obtain ⟨kv,rfl,hs⟩:=hx;refine cW2 63 Tryz.func170 ?_;refine W ?_;refine Z0 (Zo rfl) rfl ?_;rintro _ wA ⟨b,rfl,hb,ac,hS⟩;replace ac:Blk wA b _ (ndC x kv):=ac;have main:∀ ys w',Z3e wA bc base v ys w'->Z3e w bc base v ys w':=λys w' h=>h.pre hS;have kB:∀ b∈bc :: ob v,b<w.heap.size:=λb hb=>by
  rcases Xb.1 hb with rfl|h
  exact io.blk.lt;exact (io.row.ob_le b h).2
 have nb:b∉bc :: ob v:=λh=>by have:=kB _ h;omega
 replace io:=io.up hS;replace hs:=hs.up hS;replace hF:=hF.up hS;have leaf:∀ op n,[(⟨op,n⟩:Ins)]=Zc x xs.length->∀ w',Z3e wA bc base v (xs++[⟨op,n⟩]) w'->Z3e w bc base v (xs++Zc x xs.length) w':=λop n h w' h'=>h ▸ main _ _ h';repeat'(first|refine W1 ?_|omega|refine VG ?_ ?_<;>intro hg|refine VC ?_ ?_<;>intro hc)
 have h0:x.kids=[]:=Decidable.byContradiction (λh=>by have:=im h;omega);refine CM (ZI rfl rfl rfl) (Z2P bc base _ _ 1 x.num _ io (by omega)) ?_;rintro _ w2 ⟨rfl,hq⟩;refine W ?_;refine WR ?_;exact .mk (leaf _ _ (by rw [lT h0,Z10,if_pos (by assumption)]) _ hq);have h0:x.kids=[]:=Decidable.byContradiction (λh=>by have:=im h;omega);refine CM (ZI rfl rfl rfl) (Z2P bc base _ _ 2 x.num _ io (by omega)) ?_;rintro _ w2 ⟨rfl,hq⟩;refine W ?_;refine WR ?_;exact .mk (leaf _ _ (by rw [lT h0,Z10,if_neg (by assumption),if_pos (by assumption)]) _ hq);have h0:x.kids=[]:=Decidable.byContradiction (λh=>by have:=im h;omega);refine CM (ZI rfl rfl rfl) (Z2P bc base _ _ 3 x.num _ io (by omega)) ?_;rintro _ w2 ⟨rfl,hq⟩;refine W ?_;refine WR ?_;exact .mk (leaf _ _ (by rw [lT h0,Z10,if_neg (by assumption),if_neg (by assumption),if_pos (by assumption)]) _ hq);have h0:x.kids=[]:=Decidable.byContradiction (λh=>by have:=im h;omega);refine CL (Z93 x.word _ (SlV.nil hF)) ?_;rintro _ w2 ⟨rfl,ah⟩;refine W ?_;refine CM (ZI rfl rfl rfl) (Z2P bc base _ _ 4 (ZO x.word).1 _ (io.up ah) (by omega)) ?_;rintro _ w3 ⟨rfl,hq⟩;refine W ?_;refine WR ?_;exact .mk (leaf _ _ (by rw [lT h0,Z10,if_neg (by assumption),if_neg (by assumption),if_neg (by assumption)]) _ (hq.pre ah));exact absurd (by assumption) gF.k6;exact absurd (by assumption) gF.k9;have h0:x.kids≠[]:=λh=>by have:=pN h;omega
 have e0:Z18 x.kind x.num x.word (x.kids.map Zc) xs.length=Z0y x.kind x.word (x.kids.map Zc) xs.length:=by
  rw [Z18,if_neg (Zdi h0),if_neg (by assumption),if_neg (λh=>absurd h.1 (by assumption)),if_neg (λh=>absurd h.1 (by assumption)),if_neg (λh=>absurd h.1 (by assumption))]
 rw [lS,e0] at hl ⊢;refine CL (Zfi x _ bZ aV _ bc base _ _ _ io ⟨kv,rfl,hs⟩ hF hl) ?_;rintro _ w2 hq;refine W ?_;refine WR ?_;exact .mk (main _ _ hq)
theorem Ziw (l:List Nd) (h:∀ y∈l,∀ p,(Zc y p).length<=8 * ZJ y) (p:Nat):(Jn (l.map Zc) p).length<=8 * (l.map ZJ).sum:=by
 induction l generalizing p with
 | nil=>simp [Jn]
 | cons x r ih=>
   simp only [Xy,Jn,Xc,List.sum_cons];have h1:=h x (by simp) p;have h2:=ih (λy hy=>h y (by simp [hy])) (p+(Zc x p).length);omega
theorem Zbm (l:List Int):(Z25 l).length=l.length:=by simp [Z25]
theorem Zix {l:List Nd} (h:∀ y∈l,∀ p,(Zc y p).length<=8 * ZJ y) (i p:Nat):((l.map Zc).getD i Z4S p).length<=8 * (l.map ZJ).getD i 0:=by
 by_cases hi:i<l.length;simp [List.getD,hi];exact h _ (Xd hi) p;simp [List.getD,hi,Z4S]
theorem Ziy (l:List Nat):l.getD 0 0+l.getD 1 0+l.getD 2 0<=l.sum:=by
 rcases l with _|⟨a,_|⟨b,_|⟨c,r⟩⟩⟩<;>simp<;>omega
theorem Za9 (c y n:Cf) (A B C:Nat) (hc:∀ p,(c p).length<=A) (hy:∀ p,(y p).length<=B) (hn:∀ p,(n p).length<=C) (p:Nat):(chC c y n p).length<=A+B+C+2:=by
 unfold chC;simp only [Xc,Xe,Xf];have h1:=hc p;have h2:=hy (p+(c p).length+1);have h3:=hn (p+(c p).length+1+(y (p+(c p).length+1)).length+1);omega
theorem Z95 (x:Nd):∀ p,(Zc x p).length<=8 * ZJ x:=by
 induction x using Nd.ind with
 | h k n s l ih=>
 intro p;rw [Z5e,Z14];show (Z18 k n s (l.map Zc) p).length<=8 * (1+(l.map ZJ).sum);have hs:=Ziy (l.map ZJ);have g:=Zix ih;have hp:(Z0y k s (l.map Zc) p).length<=8 * (l.map ZJ).sum+3:=by
  unfold Z0y;simp only [Xc,Zbm];have h1:=Ziw l ih p;have h2:=Zem s;have h3:(if k=8\/k=5/\s=[45] then [(⟨8,0⟩:Ins)] else []).length<=1:=by split<;>simp
  omega
 unfold Z18;split;simp;omega;split;refine Xg (Za9 _ _ _ _ _ _ (g 0) (g 1) (g 2) p) (by omega);split;refine Xg (Za9 _ _ _ _ _ 1 (g 0) (g 1) (λ_=>by simp) p) (by omega);split;refine Xg (Za9 _ _ _ _ 1 _ (g 0) (λ_=>by simp) (g 1) p) (by omega);split;simp only [Xc,Xe,Xf];omega;omega
def ZU (x:Nd):List Ins:=Zc x 0++[⟨24,0⟩]
def Z0z (x:Nd):Int:=if Zy x<=12 then (if Zd x=0 then 21 else if (ZU x).length > 200 then 2 else 0) else 2
def ZnJ (w:World) (x:Nd) (r:Value) (w':World):Prop:=∃ cv,r=.tuple #[cv,.I (Z0z x)]/\(∀ X:List Nat,(∀ b∈X,b<w.heap.size)->SlV X w' cv (if Z0z x=0 then ZU x else []))/\Stp [] w w'
theorem Z3w (v:Value) (x:Nd) (w) (gF:Smp x) (bE:ZJ x<=1000) (hx:NdV [] w v x) (hF:SlV [] w Z2m Ze) :
 Calls Tryz.prog 93 #[v] w (Ret (ZnJ w x)):=by
 have hN:=hx;obtain ⟨kv,rfl,hs⟩:=hx;refine cW1 24 Tryz.func93 ?_;refine W ?_;refine Z0 (Zo rfl) rfl ?_;rintro _ w1 ⟨b,rfl,hb,ac,hS⟩;replace ac:Blk w1 b _ (ndC x kv):=ac;replace hs:=hs.up hS;replace hN:=hN.up hS;replace hF:=hF.up hS;refine W ?_;refine CL (Zir [] [] _ x _ hN hF) ?_;rintro _ w2 ⟨rfl,ah⟩;replace hs:=hs.up ah;replace hN:=hN.up ah;replace hF:=hF.up ah;replace ac:=ac.up ah;replace hS:=hS.trans ah;by_cases hn:Zy x<=12
 case neg=>
  rw [if_neg hn,if_neg hn];have he:Z0z x=2:=by rw [Z0z,if_neg hn]
  refine QO ?_;refine WR ?_;refine .mk ⟨_,by rw [he];rfl,λX hX=>?_,hS⟩;rw [he,if_neg (by decide)];exact Zk _ _
 by_cases ht:Zd x=0;rw [if_pos hn,if_pos hn,if_pos ht];have he:Z0z x=21:=by rw [Z0z,if_pos hn,if_pos ht]
 refine QO ?_;refine WR ?_;refine .mk ⟨_,by rw [he];rfl,λX hX=>?_,hS⟩;rw [he,if_neg (by decide)];exact Zk _ _;rw [if_pos hn,if_pos hn,if_neg ht];refine QO ?_;refine Z0 Z2 rfl ?_;rintro _ w3 ⟨bc,rfl,xQ,gg,am⟩;replace ac:=ac.up am;replace gg:Blk w3 bc 244 [.N]:=gg;refine W ?_;have kC:Cod w3 bc w3.heap.size (.N) []:=⟨gg,Row.nil,by simp [ob],gg.lt,Xn _⟩
 have fr:=Fr.start kC;have ai:=Z95 x 0;refine CL (Zm3 x ht gF _ bc _ _ _ [] kC ⟨kv,rfl,?_⟩ ?_ ?_) ?_;refine hs.ext am (by simp) (λc hc=>.inr ?_);simp [ob] at hc;omega;refine hF.ext am (by simp) (λc hc=>.inr ?_);simp [ob] at hc;omega;simp only [Xf];omega;rintro _ w4 hq;obtain ⟨v4,fr⟩:=fr.step hq;rw [XC,Xf] at fr;refine W ?_;refine CM (ZI rfl rfl rfl) (Z2P bc _ _ _ 24 0 _ fr.cod (by omega)) ?_;rintro _ w5 ⟨rfl,hq⟩;obtain ⟨v5,fr⟩:=fr.step hq;have mL:Stp [] w w5:=hS.trans (am.own fr.stp (λc hc=>.inr (by simp [ob] at hc;omega)));have ab:=fr.cod.row;have mF:=fr.cod.blk;have pP:=ab.slv0;have dw:((Zc x 0++[(⟨24,0⟩:Ins)]).length:Int)=(ZU x).length:=rfl;by_cases hg:(ZU x).length > 200;have he:Z0z x=2:=by rw [Z0z,if_pos hn,if_neg ht,if_pos hg]
 refine QO ?_;refine WR ?_;refine .mk ⟨_,by rw [he],λX hX=>?_,mL⟩;rw [he,if_neg (by decide)];exact Zk _ _;have he:Z0z x=0:=by rw [Z0z,if_pos hn,if_neg ht,if_neg hg]
 refine QO ?_;refine WR ?_;refine .mk ⟨_,by rw [he],λX hX=>?_,mL⟩;rw [he,if_pos rfl];exact Row.slv (X:=X) ab (λb hb=>by have:=hX b hb;have:=hS.size;have:=am.size;omega)
theorem Zsf (op:BinOp) (x y:Operand) (a b:Ins) (w):(eqGuard op 171 x y (agg a) (agg b)).run Tryz.prog w=.ok () w:=by
 cases op<;>kernel_rfl
end Go.Proofs.YtipfkbkkndacjaaGreatDoor
namespace Go.Eng
open Go Go.RowKit Go.Proofs
def ZE {β:Type} [Z3 β] (T:Nat) (w w':World) (v:Value) (xs:List β):Prop:=Row [] w' w.heap.size T v xs/\Stp [] w w'
section
variable {β:Type} [Z3 β] {T:Nat} {w w' w'':World} {v:Value} {xs ys:List β}
theorem Row.lower {α:Type} [Z5 α] {X:List Nat} {a b:Nat} {xs:List α} (h:Row X w b T v xs) (cR:a<=b):Row X w a T v xs:=by
 obtain ⟨css,h1,h2,h3,h4⟩:=h;refine ⟨css,h1,h2,h3,h4.imp id ?_⟩;rintro ⟨g,cap,cur,e1,e2,rest⟩;exact ⟨g,cap,cur,e1,Xg cR e2,rest⟩
theorem ZE.nil:ZE (β:=β) T w w (.N) []:=⟨Row.nil,Stp.refl _ _⟩
theorem ZE.up (h:ZE T w w' v xs) (hS:Stp [] w' w''):ZE T w w'' v xs:=⟨h.1.up hS,h.2.trans hS⟩
theorem ZE.pre (hS:Stp [] w w') (h:ZE T w' w'' v xs):ZE T w w'' v xs:=⟨h.1.lower hS.size,hS.trans h.2⟩
theorem ZE.one {cs:List Value} {len:Nat} (h:Z9 w T len cs v w') (hl:len=xs.length) (hc:cs=xs.flatMap Z3.enc) (hm:xs.length<=maxLen):ZE T w w' v xs:=⟨h.row (Xn _) hl hc hm,h.choose_spec.2.2.2⟩
theorem ZE.slv (h:ZE T w w' v xs) {X:List Nat} (hX:∀ b∈X,b<w.heap.size):SlV X w' v xs:=Row.slv (X:=X) h.1 hX
theorem ZE.ob_le (h:ZE T w w' v xs):∀ b∈ob v,w.heap.size<=b/\b<w'.heap.size:=h.1.ob_le
theorem ZE.step {S:List Nat} (h:ZE T w w' v xs) (hS:Stp S w' w'') (ho:∀ b∈S,b∈ob v):Stp [] w w'':=h.2.own hS (λb hb=>.inr (h.ob_le b (ho b hb)).1)
section
variable {P:Program} {n:Nat} {e:Env} {d:Option Nat} {ty:TypeId} {pos:String} {af:Array Edge} {g:Option (Nat×Bool)}
theorem Jy {x y:Operand} {t bytes:Nat} {u:Value} {z:Value} [ht:Und P t (.slice T)] [hk:Siz P T (Z5.k β)] [hb:Byt P T bytes] [hz:Zer P T z] (dQ:z.cells.size=Z5.k β) (aW:0<Z5.k β)
 (hx:ev e x=some v) (hy:ev e y=some u) (h:ZE T w w' v xs) (cE:SlV (ob v) w' u ys) (hbytes:(xs.length+ys.length) * bytes<=140737488355328) (ai:xs.length+ys.length<=maxLen) :
 OE P n ⟨d,.call { callee:=.builtin .append,args:=#[x,y],argTypes:=#[t,t] },ty,pos,af,g⟩ e w' (λv' w''=>ZE T w w'' v' (xs++ys)/\Stp (ob v) w' w''/\∀ b∈ob v',b∈ob v\/w'.heap.size<=b):=by
 refine (Zx (X:=[]) (base:=w.heap.size) dQ aW hx hy h.1 (by rw [XH];exact cE) hbytes ai h.2.size).mono ?_;rintro v' w2 ⟨h1,h2,h3⟩;exact ⟨⟨h1,h.step h2 (λ_ hb=>hb)⟩,h2,h3⟩
theorem Zaa {i j k:Nat} {t:TypeId} {x y:Operand} {u:Value} {y':β} [bE:Siz P t 1] (hx:ev e x=some (.pointer (some (ZH v i k j)))) (hy:ev e y=some u) (hk:k=Z3.k β)
 (hu:u.cells.toList=[u]) (h1:u.oneCell'=true) (h:ZE T w w' v xs) (hi:i<xs.length) (hj:j<Z3.k β) (bM:Z3.enc y'=(Z3.enc xs[i]).set j u) :
 OE P n ⟨d,.store t x y,ty,pos,af,g⟩ e w' (λ_ w''=>ZE T w w'' v (xs.set i y')/\Stp (ob v) w' w''):=by
 refine (Z46 (β:=β) hx hy hk hu h1 h.1 hi hj bM).mono ?_;rintro _ w2 ⟨h2,h3⟩;exact ⟨⟨h2,h.step h3 (λ_ hb=>hb)⟩,h3⟩
end
end
structure Sl (α:Type) where
 l:List α
instance {α:Type} [Z5 α]:Z5 (Sl α) where
 k:=1
 rep:=λX w x cs=>∃ v,cs=[v]/\SlV X w v x.l
 len:=by rintro X w x cs ⟨v,rfl,_⟩;rfl
 one:=by
  rintro X w x cs ⟨v,rfl,p,c,rfl,_⟩ u hu;simp at hu;subst hu;rfl
 ext:=by
  rintro X S X' w w' x cs ⟨v,rfl,h⟩ hS h1 h2;exact ⟨v,rfl,h.ext hS h1 h2⟩
theorem Z9.slvS {α:Type} [Z5 α] {w w':World} {X:List Nat} {T len:Nat} {vs:List Value} {v:Value} {xss:List (Sl α)} (h:Z9 w T len vs v w') (hX:∀ b∈X,b<w.heap.size) (hl:len=xss.length) (xR:vs.length=xss.length)
 (hr:∀ i (hi:i<xss.length) (cA:i<vs.length),SlV X w vs[i] xss[i].l) (hm:xss.length<=maxLen):SlV X w' v xss:=by
 obtain ⟨b,rfl,hb,ac,hS⟩:=h;subst hl;refine ⟨some ⟨b,0,none⟩,xss.length,rfl,Xn _,hm,λh=>by simp at h,λi hi=>⟨b,0,[vs[i]'(by omega)],rfl,ac.lt,λhx=>by have:=hX b hx;omega,⟨_,rfl,(hr i hi (by omega)).up hS⟩,λj u hu=>?_⟩⟩;refine ac.cell ?_;have:j=0:=by
  have:=(Xu.1 hu).1;simp at this;exact this
 subst this;simp at hu;subst hu;simp [Z5.k]
theorem SlV.sub {α:Type} [Z5 α] {w} {X:List Nat} {v:Value} {xss:List (Sl α)} {i:Nat} (h:SlV X w v xss) (hi:i<xss.length):∃ u,w.cell? (ZH v i 1 0)=some u/\SlV X w u xss[i].l:=by
 obtain ⟨cs,⟨u,rfl,hu⟩,hc⟩:=h.cell hi;exact ⟨u,hc 0 u rfl,hu⟩
end Go.Eng
namespace Go.Proofs.YtipfkbkkndacjaaGreatDoor
open Go Go.Eng Go.RowKit
theorem Z96 (v:Value) (x:Nd) (w) (hx:NdV [] w v x):CC 186 #[v] w λr w'=>r=agg (Z10 x.kind x.num x.word)/\Stp [] w w':=by
 obtain ⟨kv,rfl,hs⟩:=hx;refine cW1 32 Tryz.func186 ?_;refine W ?_;refine Z0 (Zo rfl) rfl ?_;rintro _ w1 ⟨b,rfl,hb,ac,hS⟩;replace ac:Blk w1 b _ (ndC x kv):=ac;have bE:=hS.size;refine Z0 Z2 rfl ?_;rintro _ w2 ⟨b2,rfl,cu,aQ,ah⟩;replace ac:=ac.up ah;replace hS:=hS.trans ah;repeat'(first|refine W1 ?_|omega|refine VG ?_ ?_<;>intro hg|refine VC ?_ ?_<;>intro hc)
 apply Z7 (vs:=[(0,.I 1),(1,.I _)]) rfl (Z7x _ _) rfl;refine SA (us:=Z3.enc (Ins.mk 1 x.num)) aQ ?_;rintro _ w3 ⟨am,aL⟩;refine W ?_;refine J0 rfl rfl rfl aL rfl ?_;refine .mk ⟨by rw [Z10,if_pos (by assumption)];rfl,hS.ow am⟩;apply Z7 (vs:=[(0,.I 2),(1,.I _)]) rfl (Z7x _ _) rfl;refine SA (us:=Z3.enc (Ins.mk 2 x.num)) aQ ?_;rintro _ w3 ⟨am,aL⟩;refine W ?_;refine J0 rfl rfl rfl aL rfl ?_;refine .mk ⟨by rw [Z10,if_neg (by assumption),if_pos (by assumption)];rfl,hS.ow am⟩;apply Z7 (vs:=[(0,.I 3),(1,.I _)]) rfl (Z7x _ _) rfl;refine SA (us:=Z3.enc (Ins.mk 3 x.num)) aQ ?_;rintro _ w3 ⟨am,aL⟩;refine W ?_;refine J0 rfl rfl rfl aL rfl ?_;refine .mk ⟨by rw [Z10,if_neg (by assumption),if_neg (by assumption),if_pos (by assumption)];rfl,hS.ow am⟩;refine CL (Z6C x.word _) ?_;rintro _ w3 ⟨rfl,am⟩;replace aQ:=aQ.up am;replace hS:=hS.trans am;refine W ?_;apply Z7 (vs:=[(0,.I 4),(1,.I _)]) rfl (Z7x _ _) rfl;refine SA (us:=Z3.enc (Ins.mk 4 (ZO x.word).1)) aQ ?_;rintro _ w4 ⟨aJ,bu⟩;refine W ?_;refine J0 rfl rfl rfl bu rfl ?_;refine .mk ⟨by rw [Z10,if_neg (by assumption),if_neg (by assumption),if_neg (by assumption)];rfl,hS.ow aJ⟩
def Z3x (k:Int) (s:Str):List Int:=(if k=8\/k=5/\s=[45] then [8] else [])++opF s++(if k=6/\s=[45] then [6] else [])
def Zab:List Str:=[[43],[45],[42],[60],[60,61],[61],[62],[62,61],[33,61]]
def Zac:List (Sl Int):=[⟨[5]⟩,⟨[6]⟩,⟨[7]⟩,⟨[9]⟩,⟨[10]⟩,⟨[11]⟩,⟨[10,12]⟩,⟨[9,12]⟩,⟨[11,12]⟩]
theorem Ziz (a b c d:Int) (w):(Instr.buildSlice 23 4 #[(0,.I a),(1,.I b),(2,.I c),(3,.I d)]).run Tryz.prog w=.ok (.slice (some ⟨w.heap.size,0,none⟩) 4 4) (w.alloc (.cells #[.I a,.I b,.I c,.I d] 3)):=by kernel_rfl
theorem ZiA (a b c d e:Int) (w):(Instr.buildSlice 23 5 #[(0,.I a),(1,.I b),(2,.I c),(3,.I d),(4,.I e)]).run Tryz.prog w=.ok (.slice (some ⟨w.heap.size,0,none⟩) 5 5) (w.alloc (.cells #[.I a,.I b,.I c,.I d,.I e] 3)):=by kernel_rfl
theorem ZiB (a b c d e:Str) (w):(Instr.buildSlice 128 5 #[(0,str a),(1,str b),(2,str c),(3,str d),(4,str e)]).run Tryz.prog w=.ok (.slice (some ⟨w.heap.size,0,none⟩) 5 5) (w.alloc (.cells #[str a,str b,str c,str d,str e] 9)):=by kernel_rfl
theorem ZiC (a b c d e f g h i:Str) (w):(Instr.buildSlice 128 9 #[(0,str a),(1,str b),(2,str c),(3,str d),(4,str e),(5,str f),(6,str g),(7,str h),(8,str i)]).run Tryz.prog w=.ok (.slice (some ⟨w.heap.size,0,none⟩) 9 9) (w.alloc (.cells #[str a,str b,str c,str d,str e,str f,str g,str h,str i] 9)):=by kernel_rfl
theorem ZiD (p0 p1 p2 p3 p4 p5 p6 p7 p8:Option Addr) (l0 l1 l2 l3 l4 l5 l6 l7 l8 c0 c1 c2 c3 c4 c5 c6 c7 c8:Nat) (w):(Instr.buildSlice 312 9 #[(0,.slice p0 l0 c0),(1,.slice p1 l1 c1),(2,.slice p2 l2 c2),(3,.slice p3 l3 c3),(4,.slice p4 l4 c4),(5,.slice p5 l5 c5),(6,.slice p6 l6 c6),(7,.slice p7 l7 c7),(8,.slice p8 l8 c8)]).run Tryz.prog w=.ok (.slice (some ⟨w.heap.size,0,none⟩) 9 9) (w.alloc (.cells #[.slice p0 l0 c0,.slice p1 l1 c1,.slice p2 l2 c2,.slice p3 l3 c3,.slice p4 l4 c4,.slice p5 l5 c5,.slice p6 l6 c6,.slice p7 l7 c7,.slice p8 l8 c8] 23)):=by kernel_rfl
theorem o6 {s:Str} (h:s∈Z0Q\/s∈Z24\/s∈Z0D) (ha:¬ s=[97,110,100]) (ho:¬ s=[111,114]):∃ i,∃ h:i<Zac.length,idx (isS s) Zab=(i:Int)/\Zac[i].l=Z3x 6 s:=by
 simp only [Z0Q,Z24,Z0D,Xb,Xj,or_false] at h;rcases h with (h|h|h)|(h|h|h|h|h|h)|(h|h)<;>subst h
 exact ⟨0,by decide,by decide,by decide⟩;exact ⟨1,by decide,by decide,by decide⟩;exact ⟨2,by decide,by decide,by decide⟩;exact ⟨3,by decide,by decide,by decide⟩;exact ⟨4,by decide,by decide,by decide⟩;exact ⟨5,by decide,by decide,by decide⟩;exact ⟨8,by decide,by decide,by decide⟩;exact ⟨6,by decide,by decide,by decide⟩;exact ⟨7,by decide,by decide,by decide⟩;exact absurd rfl ha;exact absurd rfl ho
theorem oU {s:Str} (h:s∈J1):∃ i,∃ h:i < [(15:Int),16,17,18].length,idx (isS s) J1=(i:Int)/\Z3x 7 s=[[(15:Int),16,17,18][i]]/\Z3x 8 s=[8,[(15:Int),16,17,18][i]]:=by
 simp only [J1,Xb,Xj,or_false] at h;rcases h with h|h|h|h<;>subst h
 exact ⟨0,by decide,by decide,by decide,by decide⟩;exact ⟨1,by decide,by decide,by decide,by decide⟩;exact ⟨2,by decide,by decide,by decide,by decide⟩;exact ⟨3,by decide,by decide,by decide,by decide⟩
theorem oC {s:Str} (h:s∈Z7w):∃ i,∃ h:i < [(19:Int),20,21,22,23].length,idx (isS s) Z7w=(i:Int)/\Z3x 10 s=[[(19:Int),20,21,22,23][i]]:=by
 simp only [Z7w,Xb,Xj,or_false] at h;rcases h with h|h|h|h|h<;>subst h
 exact ⟨0,by decide,by decide,by decide⟩;exact ⟨1,by decide,by decide,by decide⟩;exact ⟨2,by decide,by decide,by decide⟩;exact ⟨3,by decide,by decide,by decide⟩;exact ⟨4,by decide,by decide,by decide⟩
theorem Zdj (X:List Nat) (v:Value) (x:Nd) (w:World) (gh:∀ b∈X,b<w.heap.size) (dH:ZnH x.kind x.word x.kids.length) (h9:¬ x.kind=9) (ha:¬ (x.kind=6/\x.word=[97,110,100])) (ho:¬ (x.kind=6/\x.word=[111,114])) (hx:NdV [] w v x) :
 CC 188 #[v] w λr w'=>SlV X w' r (Z3x x.kind x.word)/\Stp [] w w':=by
 obtain ⟨kv,rfl,hs⟩:=hx;refine cW1 63 Tryz.func188 ?_;refine W ?_;refine Z0 (Zo rfl) rfl ?_;rintro _ w0 ⟨b,rfl,hb,ac,hS⟩;replace ac:Blk w0 b _ (ndC x kv):=ac;have hX:∀ b∈X,b<w0.heap.size:=λb hb=>Xa (gh b hb) hS.size;refine W ?_;refine Z0 (Z1 (vs:=[(0,.I 5)]) rfl (Zp _)) rfl ?_;rintro a0 u0 hN;have s_a0:SlV X u0 a0 [(5:Int)]:=hN.slv hX rfl rfl (by simp [maxLen]);have hT:=Z9.stp hN;clear hN;replace ac:=ac.up hT;replace hS:=hS.trans hT;replace hX:=λb hb=>Xa (hX b hb) hT.size;clear hT;refine Z0 (Z1 (vs:=[(0,.I 6)]) rfl (Zp _)) rfl ?_;rintro a1 u1 hN;have s_a1:SlV X u1 a1 [(6:Int)]:=hN.slv hX rfl rfl (by simp [maxLen]);have hT:=Z9.stp hN;clear hN;replace ac:=ac.up hT;replace hS:=hS.trans hT;replace hX:=λb hb=>Xa (hX b hb) hT.size;replace s_a0:=s_a0.up hT;clear hT;refine Z0 (Z1 (vs:=[(0,.I 7)]) rfl (Zp _)) rfl ?_;rintro a2 u2 hN;have s_a2:SlV X u2 a2 [(7:Int)]:=hN.slv hX rfl rfl (by simp [maxLen]);have hT:=Z9.stp hN;clear hN;replace ac:=ac.up hT;replace hS:=hS.trans hT;replace hX:=λb hb=>Xa (hX b hb) hT.size;replace s_a0:=s_a0.up hT;replace s_a1:=s_a1.up hT;clear hT;refine Z0 (Z1 (vs:=[(0,.I 9)]) rfl (Zp _)) rfl ?_;rintro a3 u3 hN;have s_a3:SlV X u3 a3 [(9:Int)]:=hN.slv hX rfl rfl (by simp [maxLen]);have hT:=Z9.stp hN;clear hN;replace ac:=ac.up hT;replace hS:=hS.trans hT;replace hX:=λb hb=>Xa (hX b hb) hT.size;replace s_a0:=s_a0.up hT;replace s_a1:=s_a1.up hT;replace s_a2:=s_a2.up hT;clear hT;refine Z0 (Z1 (vs:=[(0,.I 10)]) rfl (Zp _)) rfl ?_;rintro a4 u4 hN;have s_a4:SlV X u4 a4 [(10:Int)]:=hN.slv hX rfl rfl (by simp [maxLen]);have hT:=Z9.stp hN;clear hN;replace ac:=ac.up hT;replace hS:=hS.trans hT;replace hX:=λb hb=>Xa (hX b hb) hT.size;replace s_a0:=s_a0.up hT;replace s_a1:=s_a1.up hT;replace s_a2:=s_a2.up hT;replace s_a3:=s_a3.up hT;clear hT;refine Z0 (Z1 (vs:=[(0,.I 11)]) rfl (Zp _)) rfl ?_;rintro a5 u5 hN;have s_a5:SlV X u5 a5 [(11:Int)]:=hN.slv hX rfl rfl (by simp [maxLen]);have hT:=Z9.stp hN;clear hN;replace ac:=ac.up hT;replace hS:=hS.trans hT;replace hX:=λb hb=>Xa (hX b hb) hT.size;replace s_a0:=s_a0.up hT;replace s_a1:=s_a1.up hT;replace s_a2:=s_a2.up hT;replace s_a3:=s_a3.up hT;replace s_a4:=s_a4.up hT;clear hT;refine Z0 (Z1 (vs:=[(0,.I 10),(1,.I 12)]) rfl (JU _ _)) rfl ?_;rintro a6 u6 hN;have s_a6:SlV X u6 a6 [(10:Int),(12:Int)]:=hN.slv hX rfl rfl (by simp [maxLen]);have hT:=Z9.stp hN;clear hN;replace ac:=ac.up hT;replace hS:=hS.trans hT;replace hX:=λb hb=>Xa (hX b hb) hT.size;replace s_a0:=s_a0.up hT;replace s_a1:=s_a1.up hT;replace s_a2:=s_a2.up hT;replace s_a3:=s_a3.up hT;replace s_a4:=s_a4.up hT;replace s_a5:=s_a5.up hT;clear hT;refine Z0 (Z1 (vs:=[(0,.I 9),(1,.I 12)]) rfl (JU _ _)) rfl ?_;rintro a7 u7 hN;have s_a7:SlV X u7 a7 [(9:Int),(12:Int)]:=hN.slv hX rfl rfl (by simp [maxLen]);have hT:=Z9.stp hN;clear hN;replace ac:=ac.up hT;replace hS:=hS.trans hT;replace hX:=λb hb=>Xa (hX b hb) hT.size;replace s_a0:=s_a0.up hT;replace s_a1:=s_a1.up hT;replace s_a2:=s_a2.up hT;replace s_a3:=s_a3.up hT;replace s_a4:=s_a4.up hT;replace s_a5:=s_a5.up hT;replace s_a6:=s_a6.up hT;clear hT;refine Z0 (Z1 (vs:=[(0,.I 11),(1,.I 12)]) rfl (JU _ _)) rfl ?_;rintro a8 u8 hN;have s_a8:SlV X u8 a8 [(11:Int),(12:Int)]:=hN.slv hX rfl rfl (by simp [maxLen]);have hT:=Z9.stp hN;clear hN;replace ac:=ac.up hT;replace hS:=hS.trans hT;replace hX:=λb hb=>Xa (hX b hb) hT.size;replace s_a0:=s_a0.up hT;replace s_a1:=s_a1.up hT;replace s_a2:=s_a2.up hT;replace s_a3:=s_a3.up hT;replace s_a4:=s_a4.up hT;replace s_a5:=s_a5.up hT;replace s_a6:=s_a6.up hT;replace s_a7:=s_a7.up hT;clear hT;obtain ⟨p0,c0,rfl,_⟩:=id s_a0;obtain ⟨p1,c1,rfl,_⟩:=id s_a1;obtain ⟨p2,c2,rfl,_⟩:=id s_a2;obtain ⟨p3,c3,rfl,_⟩:=id s_a3;obtain ⟨p4,c4,rfl,_⟩:=id s_a4;obtain ⟨p5,c5,rfl,_⟩:=id s_a5;obtain ⟨p6,c6,rfl,_⟩:=id s_a6;obtain ⟨p7,c7,rfl,_⟩:=id s_a7;obtain ⟨p8,c8,rfl,_⟩:=id s_a8;refine Z0 (Z1 (vs:=[(0,.slice p0 _ c0),(1,.slice p1 _ c1),(2,.slice p2 _ c2),(3,.slice p3 _ c3),(4,.slice p4 _ c4),(5,.slice p5 _ c5),(6,.slice p6 _ c6),(7,.slice p7 _ c7),(8,.slice p8 _ c8)]) rfl (ZiD _ _ _ _ _ _ _ _ _ _ _ _ _ _ _ _ _ _ _ _ _ _ _ _ _ _ _)) rfl ?_;rintro tw u9 hN;have s_tw:SlV X u9 tw Zac:=hN.slvS (xss:=Zac) hX rfl rfl (λi hi cA=>match i,hi with|0,_=>s_a0|1,_=>s_a1|2,_=>s_a2|3,_=>s_a3|4,_=>s_a4|5,_=>s_a5|6,_=>s_a6|7,_=>s_a7|8,_=>s_a8) (by decide);have hT:=Z9.stp hN;clear hN;replace ac:=ac.up hT;replace hS:=hS.trans hT;replace hX:=λb hb=>Xa (hX b hb) hT.size;replace s_a0:=s_a0.up hT;replace s_a1:=s_a1.up hT;replace s_a2:=s_a2.up hT;replace s_a3:=s_a3.up hT;replace s_a4:=s_a4.up hT;replace s_a5:=s_a5.up hT;replace s_a6:=s_a6.up hT;replace s_a7:=s_a7.up hT;replace s_a8:=s_a8.up hT;clear hT;clear s_a0 s_a1 s_a2 s_a3 s_a4 s_a5 s_a6 s_a7 s_a8;refine W ?_;refine Z0 (Z1 (vs:=[(0,.I 19),(1,.I 20),(2,.I 21),(3,.I 22),(4,.I 23)]) rfl (ZiA _ _ _ _ _)) rfl ?_;rintro cl u10 hN;have s_cl:SlV X u10 cl [(19:Int),20,21,22,23]:=hN.slv hX rfl rfl (by simp [maxLen]);have hT:=Z9.stp hN;clear hN;replace ac:=ac.up hT;replace hS:=hS.trans hT;replace hX:=λb hb=>Xa (hX b hb) hT.size;replace s_tw:=s_tw.up hT;clear hT;refine W ?_;refine Z0 (Z1 (vs:=[(0,.I 15),(1,.I 16),(2,.I 17),(3,.I 18)]) rfl (Ziz _ _ _ _)) rfl ?_;rintro un u11 hN;have s_un:SlV X u11 un [(15:Int),16,17,18]:=hN.slv hX rfl rfl (by simp [maxLen]);have hT:=Z9.stp hN;clear hN;replace ac:=ac.up hT;replace hS:=hS.trans hT;replace hX:=λb hb=>Xa (hX b hb) hT.size;replace s_tw:=s_tw.up hT;replace s_cl:=s_cl.up hT;clear hT;refine W ?_;refine Z0 (Z1 (vs:=[(0,str [100,97,121,115]),(1,str [119,101,101,107,115]),(2,str [109,111,110,116,104,115]),(3,str [99,111,117,114,116,100,97,121,115])]) rfl (Zbe _ _ _ _)) rfl ?_;rintro us u12 hN;have s_us:SlV X u12 us J1:=hN.slv hX rfl rfl (by simp [J1,maxLen]);have hT:=Z9.stp hN;clear hN;replace ac:=ac.up hT;replace hS:=hS.trans hT;replace hX:=λb hb=>Xa (hX b hb) hT.size;replace s_tw:=s_tw.up hT;replace s_cl:=s_cl.up hT;replace s_un:=s_un.up hT;clear hT;refine W ?_;refine CL (Z3r X _ J1 x.word _ s_us) ?_;rintro _ w2 ⟨rfl,hT⟩;replace ac:=ac.up hT;replace s_tw:=s_tw.up hT;replace s_cl:=s_cl.up hT;replace s_un:=s_un.up hT;replace hS:=hS.trans hT;replace hX:=λb hb=>Xa (hX b hb) hT.size;clear hT s_us;have sR:x.kind=7\/x.kind=8->x.word∈J1:=λhk=>by
  rcases dH with ⟨h,_,_⟩|⟨h,_,_⟩|⟨h,hu,_⟩|⟨h,_⟩|⟨h,_,_⟩<;>first|exact hu|omega
 have uJ:x.kind=6->x.word∈Z0Q\/x.word∈Z24\/x.word∈Z0D:=λhk=>by
  rcases dH with ⟨h,_,_⟩|⟨h,hu,_⟩|⟨h,_,_⟩|⟨h,_⟩|⟨h,_,_⟩<;>first|exact hu|omega
 have uK:x.kind=5->x.word=[45]\/x.word=[110,111,116]:=λhk=>by
  rcases dH with ⟨h,hu,_⟩|⟨h,_,_⟩|⟨h,_,_⟩|⟨h,_⟩|⟨h,_,_⟩<;>first|exact hu|omega
 have pR:¬ x.kind=5->¬ x.kind=6->¬ x.kind=7->¬ x.kind=8->x.kind=10/\x.word∈Z7w:=λ_ _ _ _=>by
  rcases dH with ⟨h,_,_⟩|⟨h,_,_⟩|⟨h,_,_⟩|⟨h,_⟩|⟨h,hu,_⟩<;>first|exact ⟨h,hu⟩|omega
 refine W ?_;by_cases k5:x.kind=5;have sS:=uK k5
 (refine QP ?_ ?_<;>intro hc)
 refine Z0 (Z1 (vs:=[(0,.I 8)]) rfl (Zp _)) rfl ?_;rintro r w3 hN;have hr:SlV X w3 r [(8:Int)]:=hN.slv hX rfl rfl (by simp [maxLen]);have hT:=Z9.stp hN;refine W ?_;refine WR ?_;have hw:x.word=[45]:=by assumption
 exact .mk ⟨by rw [k5,hw];exact hr,hS.trans hT⟩;refine Z0 (Z1 (vs:=[(0,.I 12)]) rfl (Zp _)) rfl ?_;rintro r w3 hN;have hr:SlV X w3 r [(12:Int)]:=hN.slv hX rfl rfl (by simp [maxLen]);have hT:=Z9.stp hN;refine W ?_;refine WR ?_;have hw:x.word=[110,111,116]:=sS.resolve_left (by assumption);exact .mk ⟨by rw [k5,hw];exact hr,hS.trans hT⟩;by_cases k6:x.kind=6;have uL:=uJ k6;obtain ⟨i,hi,kD,iN⟩:=o6 uL (λh=>ha ⟨k6,h⟩) (λh=>ho ⟨k6,h⟩);refine QO ?_;refine Z0 (Z1 (vs:=[(0,str [43]),(1,str [45]),(2,str [42]),(3,str [60]),(4,str [60,61]),(5,str [61]),(6,str [62]),(7,str [62,61]),(8,str [33,61])]) rfl (ZiC _ _ _ _ _ _ _ _ _)) rfl ?_;rintro nv w3 hN;have s_n:SlV X w3 nv Zab:=hN.slv hX rfl rfl (by simp [Zab,maxLen]);have hT:=Z9.stp hN;replace ac:=ac.up hT;replace s_tw:=s_tw.up hT;replace hS:=hS.trans hT;clear hT hN;refine W ?_;refine CL (Z3r X _ Zab x.word _ s_n) ?_;rintro _ w4 ⟨rfl,hT⟩;replace ac:=ac.up hT;replace s_tw:=s_tw.up hT;replace hS:=hS.trans hT;rw [kD];obtain ⟨u,ar,fB⟩:=s_tw.sub hi;refine W ?_;apply Z8 (Jl rfl rfl ar) rfl;refine RT ?_;exact ⟨by rw [k6,<- iN];exact fB,hS⟩;by_cases k7:x.kind=7;obtain ⟨i,hi,kD,iN,_⟩:=oU (sR (.inl k7));rw [kD];refine QO ?_;refine Z0 (Z1 (vs:=[(0,.I _)]) rfl (Zp _)) rfl ?_;rintro r w3 hN;have hr:SlV X w3 r [[(15:Int),16,17,18][i]]:=hN.slv hX rfl rfl (by simp [maxLen]);have hT:=Z9.stp hN;refine RT ?_;exact ⟨by rw [k7,iN];exact hr,hS.trans hT⟩;by_cases k8:x.kind=8;obtain ⟨i,hi,kD,_,iN⟩:=oU (sR (.inr k8));rw [kD];refine QO ?_;refine Z0 (Z1 (vs:=[(0,.I 8),(1,.I _)]) rfl (JU _ _)) rfl ?_;rintro r w3 hN;have hr:SlV X w3 r [8,[(15:Int),16,17,18][i]]:=hN.slv hX rfl rfl (by simp [maxLen]);have hT:=Z9.stp hN;refine RT ?_;exact ⟨by rw [k8,iN];exact hr,hS.trans hT⟩;obtain ⟨k10,pS⟩:=pR k5 k6 k7 k8;obtain ⟨i,hi,kD,iN⟩:=oC pS;refine QO ?_;refine Z0 (Z1 (vs:=[(0,str [110,101,120,116]),(1,str [112,114,101,118]),(2,str [108,97,116,101,114]),(3,str [101,97,114,108,105,101,114]),(4,str [98,101,116,119,101,101,110])]) rfl (ZiB _ _ _ _ _)) rfl ?_;rintro nv w3 hN;have s_n:SlV X w3 nv Z7w:=hN.slv hX rfl rfl (by simp [Z7w,maxLen]);have hT:=Z9.stp hN;replace ac:=ac.up hT;replace s_cl:=s_cl.up hT;replace hS:=hS.trans hT;replace hX:=λb hb=>Xa (hX b hb) hT.size;clear hT hN;refine W ?_;refine CL (Z3r X _ Z7w x.word _ s_n) ?_;rintro _ w4 ⟨rfl,hT⟩;replace ac:=ac.up hT;replace s_cl:=s_cl.up hT;replace hS:=hS.trans hT;replace hX:=λb hb=>Xa (hX b hb) hT.size;rw [kD];refine W ?_;refine Z0 (Z1 (vs:=[(0,.I _)]) rfl (Zp _)) rfl ?_;rintro r w5 hN;have hr:SlV X w5 r [[(19:Int),20,21,22,23][i]]:=hN.slv hX rfl rfl (by simp [maxLen]);have hT:=Z9.stp hN;refine RT ?_;exact ⟨by rw [k10,iN];exact hr,hS.trans hT⟩
abbrev RwI (w w':World) (v:Value) (xs:List Ins):Prop:=ZE 171 w w' v xs
def Z5Y (x:Nd) (f:Cf):Prop:=∀ (w:World) (nv:Value) (p:Nat) (z:Int),z=(p:Int)->NdV [] w nv x->p+(f p).length<=100000->
 CC 108 #[nv,.I z] w λr w'=>RwI w w' r (f p)
theorem Z3y {x y n:Nd} {f g h:Cf} (hx:Z5Y x f) (hy:Z5Y y g) (hn:Z5Y n h) (w) (xv yv nv:Value) (p0:Nat) (z0:Int) (hz:z0=(p0:Int))
 (gx:NdV [] w xv x) (gy:NdV [] w yv y) (gn:NdV [] w nv n) (hl:p0+(chC f g h p0).length<=100000) :
 CC 187 #[xv,yv,nv,.I z0] w λr w'=>RwI w w' r (chC f g h p0):=by
 have dT:=hl;unfold chC at dT;simp only [Xc,Xe,Xf] at dT;obtain ⟨xk,rfl,sx⟩:=gx;obtain ⟨yk,rfl,sy⟩:=gy;obtain ⟨nk,rfl,sn⟩:=gn;subst hz;refine cW4 60 Tryz.func187 ?_;refine W ?_;refine Z0 (Zo rfl) rfl ?_;rintro _ w1 ⟨b1,rfl,aX,k1,ae⟩;replace k1:Blk w1 b1 _ (ndC x xk):=k1;refine Z0 (Zo rfl) rfl ?_;rintro _ w2 ⟨b2,rfl,cu,k2,ah⟩;replace k2:Blk w2 b2 _ (ndC y yk):=k2;refine Z0 (Zo rfl) rfl ?_;rintro _ w3 ⟨b3,rfl,d8,k3,am⟩;replace k3:Blk w3 b3 _ (ndC n nk):=k3;have hS:=(ae.trans ah).trans am;replace k1:=(k1.up ah).up am;replace k2:=k2.up am;replace sx:=sx.up hS;replace sy:=sy.up hS;replace sn:=sn.up hS;clear ae ah am;have uN:=chC.eq_1 f g h p0;generalize hA:f p0=A at *;generalize hp:p0+A.length+1=p at *;generalize hB:g p=B at *;generalize xS:p+B.length+1=q at *;generalize hD:h q=D at *;rw [uN];have e1:(A++[(⟨14,0⟩:Ins)]).length=A.length+1:=by simp
 have e2:(A++[(⟨14,0⟩:Ins)]++B).length=A.length+1+B.length:=by simp;omega
 have e3:(A++[(⟨14,0⟩:Ins)]++B++[(⟨13,0⟩:Ins)]).length=A.length+1+B.length+1:=by simp;omega
 have e4:∀ z,(A++[(⟨14,z⟩:Ins)]++B++[(⟨13,0⟩:Ins)]).length=A.length+1+B.length+1:=by simp;omega
 have e5:∀ z,(A++[(⟨14,z⟩:Ins)]++B++[(⟨13,0⟩:Ins)]++D).length=A.length+1+B.length+1+D.length:=by simp;omega
 refine W ?_;refine Z0 (Z4 rfl (Zf rfl rfl) (hx _ _ p0 _ rfl ⟨xk,rfl,sx⟩ (by rw [hA];omega))) rfl ?_;rintro v w4 hr;rw [hA] at hr;have ax:=hr.slv (X:=[]) (by simp);refine W ?_;apply Z7 (vs:=[(0,.I 14)]) rfl (Z7e _) rfl;refine Z0 (Z1 (vs:=[(0,agg (Ins.mk 14 0))]) rfl (Z2O _)) rfl ?_;rintro u wb hN;have hu:SlV (ob v) wb u [Ins.mk 14 0]:=hN.slv (λb hb=>(hr.ob_le b hb).2) rfl rfl (by simp [maxLen]);have hT:=Z9.stp hN;clear hN;replace hr:=hr.up hT;clear hT ax;refine Z0 (Jy rfl (by decide) rfl rfl hr hu (by simp only [Xe,Xf];omega) (by simp only [Xe,Xf,maxLen];omega)) rfl ?_;clear hu hr;rintro v wc ⟨hr,-,-⟩;have ax:=hr.slv (X:=[]) (by simp);have kk:=k2.up hr.2;refine W ?_;refine Z0 (Z4 rfl (Zf rfl rfl) (hy _ _ p _ (by omega) ⟨yk,rfl,sy.up hr.2⟩ (by rw [hB];omega))) rfl ?_;rintro u wd hu;rw [hB] at hu;have d7:=hu.slv (X:=ob v) (λb hb=>(hr.ob_le b hb).2);replace hr:=hr.up hu.2;clear hu ax kk;refine Z0 (Jy rfl (by decide) rfl rfl hr d7 (by rw [e1];omega) (by rw [e1];simp only [maxLen];omega)) rfl ?_;clear d7 hr;rintro v we ⟨hr,-,-⟩;have ax:=hr.slv (X:=[]) (by simp);refine W ?_;apply Z7 (vs:=[(0,.I 13)]) rfl (Z7e _) rfl;refine Z0 (Z1 (vs:=[(0,agg (Ins.mk 13 0))]) rfl (Z2O _)) rfl ?_;rintro u wb hN;have hu:SlV (ob v) wb u [Ins.mk 13 0]:=hN.slv (λb hb=>(hr.ob_le b hb).2) rfl rfl (by simp [maxLen]);have hT:=Z9.stp hN;clear hN;replace hr:=hr.up hT;clear hT ax;refine Z0 (Jy rfl (by decide) rfl rfl hr hu (by simp only [e2,Xe,Xf];omega) (by simp only [e2,Xe,Xf,maxLen];omega)) rfl ?_;clear hu hr;rintro v wc ⟨hr,-,-⟩;have ax:=hr.slv (X:=[]) (by simp);have bN:A.length<(A++[(⟨14,0⟩:Ins)]++B++[(⟨13,0⟩:Ins)]).length:=by rw [e3];omega
 refine W ?_;have pT:(A++[(⟨14,0⟩:Ins)]++B++[(⟨13,0⟩:Ins)])[A.length]=⟨14,0⟩:=by simp
 have hq1:(p0:Int)+((A++[(⟨14,0⟩:Ins)]++B++[(⟨13,0⟩:Ins)]).length:Int)=(q:Int):=by rw [e3];omega
 refine Z6 (Zaa (i:=A.length) (j:=1) (u:=.I ((p0:Int)+((A++[(⟨14,0⟩:Ins)]++B++[(⟨13,0⟩:Ins)]).length:Int))) (y':=⟨14,(q:Int)⟩) rfl rfl rfl rfl rfl hr bN (by decide) (by rw [pT,<- hq1];rfl)) ?_;have mM:(A++[(⟨14,0⟩:Ins)]++B++[(⟨13,0⟩:Ins)]).set A.length ⟨14,(q:Int)⟩=A++[(⟨14,(q:Int)⟩:Ins)]++B++[(⟨13,0⟩:Ins)]:=by simp
 rw [mM];clear hr ax;rintro _ wf ⟨hr,-⟩;have ax:=hr.slv (X:=[]) (by simp);have e4':=e4 (q:Int);have kk:=k3.up hr.2;refine W ?_;refine Z0 (Z4 rfl (Zf rfl rfl) (hn _ _ q _ (by omega) ⟨nk,rfl,sn.up hr.2⟩ (by rw [hD];omega))) rfl ?_;rintro u wd hu;rw [hD] at hu;have d7:=hu.slv (X:=ob v) (λb hb=>(hr.ob_le b hb).2);replace hr:=hr.up hu.2;clear hu ax kk;refine Z0 (Jy rfl (by decide) rfl rfl hr d7 (by rw [e4];omega) (by rw [e4];simp only [maxLen];omega)) rfl ?_;clear d7 hr;rintro v we ⟨hr,-,-⟩;have ax:=hr.slv (X:=[]) (by simp);have e5':=e5 (q:Int);have cn:A.length+1+B.length<(A++[(⟨14,(q:Int)⟩:Ins)]++B++[(⟨13,0⟩:Ins)]++D).length:=by rw [e5];omega
 refine W ?_;have e2':(A++[(⟨14,(q:Int)⟩:Ins)]++B).length=A.length+1+B.length:=by simp;omega
 have bB:A++[(⟨14,(q:Int)⟩:Ins)]++B++[(⟨13,0⟩:Ins)]++D=(A++[(⟨14,(q:Int)⟩:Ins)]++B)++(⟨13,0⟩:Ins) :: D:=by simp
 rw [e2];have pU:(A++[(⟨14,(q:Int)⟩:Ins)]++B++[(⟨13,0⟩:Ins)]++D)[A.length+1+B.length]=⟨13,0⟩:=by
  rw [X7 (by rw [e4];omega),X1 (by omega)];simp
 have hq2:(p0:Int)+((A++[(⟨14,(q:Int)⟩:Ins)]++B++[(⟨13,0⟩:Ins)]++D).length:Int)=((q+D.length:Nat):Int):=by rw [e5];omega
 refine Z6 (Zaa (i:=A.length+1+B.length) (j:=1) (u:=.I ((p0:Int)+((A++[(⟨14,(q:Int)⟩:Ins)]++B++[(⟨13,0⟩:Ins)]++D).length:Int))) (y':=⟨13,((q+D.length:Nat):Int)⟩) rfl rfl rfl rfl rfl hr cn (by decide) (by rw [pU,<- hq2];rfl)) ?_;have mN:(A++[(⟨14,(q:Int)⟩:Ins)]++B++[(⟨13,0⟩:Ins)]++D).set (A.length+1+B.length) ⟨13,((q+D.length:Nat):Int)⟩=A++[(⟨14,(q:Int)⟩:Ins)]++B++[(⟨13,((q+D.length:Nat):Int)⟩:Ins)]++D:=by
  rw [bB,List.set_append_right _ _ (by omega),e2'];simp
 rw [mN];clear hr ax;rintro _ wg ⟨hr,-⟩;refine W ?_;refine WR ?_;exact .mk (hr.pre hS)
theorem Zbn (z:Int):Z5Y (.mk 2 z [] []) (λ_=>[⟨2,z⟩]):=by
 intro w nv p z0 hz hx hl;have hN:=hx;obtain ⟨kv,rfl,hs⟩:=hx;refine cW2 107 Tryz.func108 ?_;refine W ?_;refine Z0 (Zo rfl) rfl ?_;rintro _ w1 ⟨b,rfl,hb,ac,hS⟩;replace ac:Blk w1 b _ (ndC (.mk 2 z [] []) kv):=ac;replace hs:=hs.up hS;replace hN:=hN.up hS;have fh:(Nd.mk 2 z [] []).kids.length=0:=rfl;refine QO ?_;refine Z0 (Z4 rfl (ZN rfl) (Z96 _ (.mk 2 z [] []) _ hN)) rfl ?_;rintro _ w2 ⟨rfl,ah⟩;refine Z0 (Z1 (vs:=[(0,agg (Ins.mk 2 z))]) rfl (Z2O _)) rfl ?_;rintro u w3 pV;have hr:RwI w2 w3 u [Ins.mk 2 z]:=ZE.one pV rfl rfl (by simp [maxLen]);refine W ?_;refine WR ?_;exact .mk (hr.pre (hS.trans ah))
theorem Zad {x:Nd} (cs:List Cf) (p:Nat) (aU:¬ cs.length=0) (h9:¬ x.kind=9) (ha:¬ (x.kind=6/\x.word=[97,110,100])) (ho:¬ (x.kind=6/\x.word=[111,114])):Z18 x.kind x.num x.word cs p=Jn cs p++Z25 (Z3x x.kind x.word):=by
 unfold Z18 Z3x Z0y;rw [if_neg aU,if_neg h9,if_neg ha,if_neg ho];by_cases hm:x.kind=6/\x.word=[45]
 rw [if_pos hm,if_pos hm,hm.1,hm.2];simp [Z25];rw [if_neg hm,if_neg hm];by_cases h8:x.kind=8\/x.kind=5/\x.word=[45]
 rw [if_pos h8,if_pos h8];simp [Z25];rw [if_neg h8,if_neg h8];simp [Z25]
theorem Zm4 (x:Nd):Zd x≠0->Z5Y x (Zc x):=by
 induction x using Nd.ind with
 | h k n s l ih=>
 intro jP;have pM:=(Z4R jP).2;have aV:∀ i (h:i<(Nd.mk k n s l).kids.length),Z5Y (Nd.mk k n s l).kids[i] (Zc (Nd.mk k n s l).kids[i]):=by
  intro i h;exact ih _ (Xd h) (pM _ (Xd h))
 have dH:=Z6E jP;have lS:=Z5e (.mk k n s l);have lT:=Z7z (x:=.mk k n s l);have jQ:=λi=>Z7A (x:=.mk k n s l) (i:=i);generalize (Nd.mk k n s l)=x at *;clear ih;intro w nv p z0 hz hx hl;subst hz;have hN:=hx;obtain ⟨kv,rfl,hs⟩:=hx;have aT:=hs.max;refine cW2 107 Tryz.func108 ?_;refine W ?_;refine Z0 (Zo rfl) rfl ?_;rintro _ wA ⟨b,rfl,hb,ac,hS⟩;replace ac:Blk wA b _ (ndC x kv):=ac;replace hs:=hs.up hS;replace hN:=hN.up hS;by_cases h0:x.kids=[]
 have fh:x.kids.length=0:=by rw [h0];rfl
 rw [lT h0];refine QO ?_;refine Z0 (Z4 rfl (ZN rfl) (Z96 _ x _ hN)) rfl ?_;rintro _ w2 ⟨rfl,ah⟩;refine Z0 (Z1 (vs:=[(0,agg (Z10 x.kind x.num x.word))]) rfl (Z2O _)) rfl ?_;rintro u w3 pV;have hr:RwI w2 w3 u [Z10 x.kind x.num x.word]:=ZE.one pV rfl rfl (by simp [maxLen]);refine W ?_;refine WR ?_;exact .mk (hr.pre (hS.trans ah));have im:¬ x.kids.length=0:=λh=>h0 (YaL h);have bZ:¬ (x.kids.map Zc).length=0:=by simpa using h0
 replace dH:=(dH h0).2;have pO:x.kind=6->x.kids.length=2:=λh6=>by
  rcases dH with ⟨h,_,_⟩|⟨h,_,hm⟩|⟨h,_,_⟩|⟨h,_⟩|⟨h,_,_⟩<;>omega
 have sQ:x.kind=9->x.kids.length=3:=λh6=>by
  rcases dH with ⟨h,_,_⟩|⟨h,_,hm⟩|⟨h,_,_⟩|⟨h,hm⟩|⟨h,_,_⟩<;>omega
 by_cases h9:x.kind=9;have h3:=sQ h9;have h0:0<x.kids.length:=by omega
 have h1:1<x.kids.length:=by omega
 have h2:2<x.kids.length:=by omega
 have e9:Zc x=chC (Zc x.kids[0]) (Zc x.kids[1]) (Zc x.kids[2]):=by
  funext p;rw [lS,Z18,if_neg bZ,if_pos h9,jQ 0 h0,jQ 1 h1,jQ 2 h2]
 rw [e9] at hl ⊢;refine QO ?_;refine ZDr 15 [] [] [(0,0),(1,1),(2,0),(3,1),(4,0),(5,1),(6,0),(7,1),(8,0),(9,1),(10,0),(11,1),(12,0),(13,2),(14,0)] (λw1 ae=>?_);replace hs:=hs.up ae;replace ac:=ac.up ae;replace hS:=hS.trans ae;obtain ⟨u0,s0,d0⟩:=hs.nd h0;obtain ⟨u1,s1,d1⟩:=hs.nd h1;obtain ⟨u2,s2,d2⟩:=hs.nd h2;refine D ?_;refine WD_read rfl trivial (λw' aP=>JC rfl rfl (hs.on aP (λ_ h=>h)) h0 (λj u hj=>Z28 hs h0 aP (d0 j u hj))) rfl ?_;refine D ?_;refine WD_read rfl trivial (λw' aP=>JC rfl rfl (hs.on aP (λ_ h=>h)) h1 (λj u hj=>Z28 hs h1 aP (d1 j u hj))) rfl ?_;refine D ?_;refine WD_read rfl trivial (λw' aP=>JC rfl rfl (hs.on aP (λ_ h=>h)) h2 (λj u hj=>Z28 hs h2 aP (d2 j u hj))) rfl ?_;refine D ?_;refine DC (Z3y (aV 0 h0) (aV 1 h1) (aV 2 h2) _ _ _ _ p _ rfl ⟨u0,rfl,s0⟩ ⟨u1,rfl,s1⟩ ⟨u2,rfl,s2⟩ hl) (λ_ _ h=>h.2) ?_;rintro _ w5 hq;refine D ?_;refine W ?_;refine WR ?_;exact .mk (hq.pre hS);by_cases ha:x.kind=6/\x.word=[97,110,100]
 . obtain ⟨h6,hw⟩:=ha
   have h2:=pO h6;have h0:0<x.kids.length:=by omega
   have h1:1<x.kids.length:=by omega
   have e9:Zc x=chC (Zc x.kids[0]) (Zc x.kids[1]) (λ_=>[⟨2,0⟩]):=by
    funext p;rw [lS,Z18,if_neg bZ,if_neg h9,if_pos ⟨h6,hw⟩,jQ 0 h0,jQ 1 h1]
   rw [e9] at hl ⊢;repeat'(first|refine W1 ?_|omega|refine VG ?_ ?_<;>intro hg|refine VC ?_ ?_<;>intro hc)
   all_goals first
    | (exfalso;contradiction)
    | skip
   refine ZDr 12 [] [] [(0,0),(1,1),(2,0),(3,1),(4,0),(5,1),(6,0),(7,1),(8,0),(9,0),(10,2),(11,0)] (λw1 ae=>?_);replace hs:=hs.up ae;replace ac:=ac.up ae;replace hS:=hS.trans ae;obtain ⟨u0,s0,d0⟩:=hs.nd h0;obtain ⟨u1,s1,d1⟩:=hs.nd h1;refine D ?_;refine WD_read rfl trivial (λw' aP=>JC rfl rfl (hs.on aP (λ_ h=>h)) h0 (λj u hj=>Z28 hs h0 aP (d0 j u hj))) rfl ?_;refine D ?_;refine WD_read rfl trivial (λw' aP=>JC rfl rfl (hs.on aP (λ_ h=>h)) h1 (λj u hj=>Z28 hs h1 aP (d1 j u hj))) rfl ?_;refine D ?_;apply Z2t;exact rfl;apply Z2u (vs:=[(0,.I 2)]);exact trivial;exact rfl;exact Ziu;exact rfl;refine D ?_;refine DC (Z3y (aV 0 h0) (aV 1 h1) (Zbn 0) _ _ _ _ p _ rfl ⟨u0,rfl,s0⟩ ⟨u1,rfl,s1⟩ ⟨_,rfl,Zk _ _⟩ hl) (λ_ _ h=>h.2) ?_;rintro _ w5 hq;refine D ?_;refine W ?_;refine WR ?_;exact .mk (hq.pre hS)
 by_cases ho:x.kind=6/\x.word=[111,114]
 . obtain ⟨h6,hw⟩:=ho
   have h2:=pO h6;have xT:¬ x.word=[97,110,100]:=λh=>ha ⟨h6,h⟩;have h0:0<x.kids.length:=by omega
   have h1:1<x.kids.length:=by omega
   have e9:Zc x=chC (Zc x.kids[0]) (λ_=>[⟨2,1⟩]) (Zc x.kids[1]):=by
    funext p;rw [lS,Z18,if_neg bZ,if_neg h9,if_neg ha,if_pos ⟨h6,hw⟩,jQ 0 h0,jQ 1 h1]
   rw [e9] at hl ⊢;repeat'(first|refine W1 ?_|omega|refine VG ?_ ?_<;>intro hg|refine VC ?_ ?_<;>intro hc)
   all_goals first
    | (exfalso;contradiction)
    | skip
   refine ZDr 12 [] [] [(0,0),(1,1),(2,0),(3,1),(4,0),(5,0),(6,1),(7,0),(8,1),(9,0),(10,2),(11,0)] (λw1 ae=>?_);replace hs:=hs.up ae;replace ac:=ac.up ae;replace hS:=hS.trans ae;obtain ⟨u0,s0,d0⟩:=hs.nd h0;obtain ⟨u1,s1,d1⟩:=hs.nd h1;refine D ?_;refine WD_read rfl trivial (λw' aP=>JC rfl rfl (hs.on aP (λ_ h=>h)) h0 (λj u hj=>Z28 hs h0 aP (d0 j u hj))) rfl ?_;refine D ?_;apply Z2t;exact rfl;apply Z2u (vs:=[(0,.I 2),(1,.I 1)]);exact trivial;exact rfl;exact Ziv;exact rfl;refine D ?_;refine WD_read rfl trivial (λw' aP=>JC rfl rfl (hs.on aP (λ_ h=>h)) h1 (λj u hj=>Z28 hs h1 aP (d1 j u hj))) rfl ?_;refine D ?_;refine DC (Z3y (aV 0 h0) (Zbn 1) (aV 1 h1) _ _ _ _ p _ rfl ⟨u0,rfl,s0⟩ ⟨_,rfl,Zk _ _⟩ ⟨u1,rfl,s1⟩ hl) (λ_ _ h=>h.2) ?_;rintro _ w5 hq;refine D ?_;refine W ?_;refine WR ?_;exact .mk (hq.pre hS)
 have uO:=Zad (x:=x) _ p bZ h9 ha ho;rw [lS,uO] at hl ⊢;have bU:(x.kids.map Zc).length=x.kids.length:=by simp
 generalize hO:Z3x x.kind x.word=O at *;rw [Xc,Zbm] at hl;have main:∀ r w',RwI wA w' r (Jn (x.kids.map Zc) p++Z25 O)->RwI w w' r (Jn (x.kids.map Zc) p++Z25 O):=λr w' h=>h.pre hS;repeat'(first|refine W1 ?_|omega|refine VG ?_ ?_<;>intro hg|refine VC ?_ ?_<;>intro hc)
 all_goals first
  | (exfalso;first|exact ha ⟨by assumption,by assumption⟩|exact ho ⟨by assumption,by assumption⟩)
  | skip
 all_goals
  refine LP (σ:=Nat×Value) (λq=>[(1,.I (p:Int)),(2,pQ b),(5,q.2),(6,.I (q.1:Int))]) (λq w'=>q.1<=x.kids.length/\RwI wA w' q.2 (Jn ((x.kids.map Zc).take q.1) p)) (λq=>x.kids.length - q.1) (0,.N) ⟨Xq _,by simpa [Jn] using ZE.nil⟩ ?_;rintro ⟨j,v⟩ w2 ⟨hj,hr⟩;dsimp only at hj hr ⊢;have ax:=hr.slv (X:=[]) (by simp);have br:=hs.up hr.2;have cu:=ac.up hr.2;by_cases hlt:j<x.kids.length;obtain ⟨kv2,db,cq⟩:=br.nd hlt;have ay:=Z94 (x.kids.map Zc) p j (by omega);have cQ:=Z7f (x.kids.map Zc) p (j+1);have pJ:=Z7f (x.kids.map Zc) p j;rw [ay,Xc] at cQ;rw [List.getElem_map] at cQ ay;refine QO ?_;apply Z8 (JC rfl rfl br hlt cq) rfl;refine W ?_;generalize hA:Jn ((x.kids.map Zc).take j) p=A at *;refine Z0 (Z4 rfl (Zf rfl rfl) (aV j hlt _ _ (p+A.length) _ (by omega) ⟨kv2,rfl,db⟩ (by omega))) rfl ?_;rintro u w3 hu;have d7:=hu.slv (X:=ob v) (λb hb=>(hr.ob_le b hb).2);replace hr:=hr.up hu.2;clear hu;refine Z0 (Jy rfl (by decide) rfl rfl hr d7 (by omega) (by simp only [maxLen];omega)) rfl ?_;rintro v' w4 ⟨bM,-,-⟩;refine W ?_;refine QL (j+1,v') ⟨by dsimp only;omega,?_⟩ (by dsimp only;omega);dsimp only;rw [ay];exact bM;have ea:j=(x.kids.map Zc).length:=by omega
  subst ea;rw [Xp] at hr ax;generalize Jn (x.kids.map Zc) p=A at *;refine QO ?_;refine Z0 (Z4 rfl (ZN rfl) (Zdj (ob v) _ x _ (λb hb=>(hr.ob_le b hb).2) dH h9 ha ho ⟨kv,rfl,br⟩)) rfl ?_;rintro ov w3 ⟨ec,hT⟩;rw [hO] at ec;replace hr:=hr.up hT;clear ax br cu;have xU:=ec.max;refine W ?_;refine LP (σ:=Nat×Value) (λq=>[(5,q.2),(7,ov),(8,.I (q.1:Int))]) (λq w'=>q.1<=O.length/\RwI wA w' q.2 (A++Z25 (O.take q.1))/\SlV (ob q.2) w' ov O) (λq=>O.length - q.1) (0,v) ⟨Xq _,by simpa [Z25] using hr,ec⟩ ?_;clear hr ec hT;rintro ⟨i,v5⟩ w5 ⟨hi,hr,ec⟩;dsimp only at hi hr ec ⊢;by_cases hlt:i<O.length;have il:(A++Z25 (O.take i)).length=A.length+i:=by simp [Z25];omega
  refine QO ?_;apply Z7 (vs:=[(0,.I _)]) rfl (Z7e _) rfl;refine Z0 (Z1 (vs:=[(0,agg (Ins.mk O[i] 0))]) rfl (Z2O _)) rfl ?_;rintro u w6 mO;have hu:SlV (ob v5) w6 u [Ins.mk O[i] 0]:=mO.slv (λb hb=>(hr.ob_le b hb).2) rfl rfl (by simp [maxLen]);have hT:=Z9.stp mO;clear mO;replace hr:=hr.up hT;replace ec:=ec.up hT;refine Z0 (Jy rfl (by decide) rfl rfl hr hu (by rw [il];simp only [Xe,Xf];omega) (by rw [il];simp only [Xe,Xf,maxLen];omega)) rfl ?_;rintro v7 w7 ⟨bM,aR,bh⟩;refine W ?_;refine QL (i+1,v7) ⟨by dsimp only;omega,?_,ec.ext aR (λ_ h=>h) bh⟩ (by dsimp only;omega);dsimp only;rw [Xi hlt];unfold Z25 at bM ⊢;rw [XM,<- Xx];exact bM;have uP:i=O.length:=by omega
  subst uP;rw [Xp] at hr;refine QO ?_;refine WR ?_;exact .mk (main _ _ hr)
theorem Z39 (v:Value) (x:Nd) (w) (bE:ZJ x<=1000) (cS:Zy x<=1000000) (hx:NdV [] w v x) :
 Calls Tryz.prog 69 #[v] w (Ret (ZnJ w x)):=by
 have hN:=hx;obtain ⟨kv,rfl,hs⟩:=hx;refine cW1 24 Tryz.func69 ?_;refine W ?_;refine Z0 (Zo rfl) rfl ?_;rintro _ w1 ⟨b,rfl,hb,ac,hS⟩;replace ac:Blk w1 b _ (ndC x kv):=ac;replace hs:=hs.up hS;replace hN:=hN.up hS;refine W ?_;refine CL (Z7v [] _ x _ (Z3v x bE) cS hN) ?_;rintro _ w2 ⟨rfl,ah⟩;replace hs:=hs.up ah;replace hN:=hN.up ah;replace ac:=ac.up ah;replace hS:=hS.trans ah;by_cases hn:Zy x<=12
 case neg=>
  rw [if_neg hn,if_neg hn];have he:Z0z x=2:=by rw [Z0z,if_neg hn]
  refine QO ?_;refine WR ?_;refine .mk ⟨_,by rw [he];rfl,λX hX=>?_,hS⟩;rw [he,if_neg (by decide)];exact Zk _ _
 by_cases ht:Zd x=0;rw [if_pos hn,if_pos hn,if_pos ht];have he:Z0z x=21:=by rw [Z0z,if_pos hn,if_pos ht]
 refine QO ?_;refine WR ?_;refine .mk ⟨_,by rw [he];rfl,λX hX=>?_,hS⟩;rw [he,if_neg (by decide)];exact Zk _ _;rw [if_pos hn,if_pos hn,if_neg ht];have ai:=Z95 x 0;refine QO ?_;refine CM (Zf rfl rfl) (Zm4 x ht _ _ 0 0 rfl hN (by omega)) ?_;rintro v3 w3 hr;apply Z7 (vs:=[(0,.I 24)]) rfl (Z7e _) rfl;refine Z0 (Z1 (vs:=[(0,agg (Ins.mk 24 0))]) rfl (Z2O _)) rfl ?_;rintro u w4 pW;have hu:SlV (ob v3) w4 u [Ins.mk 24 0]:=pW.slv (λb hb=>(hr.ob_le b hb).2) rfl rfl (by simp [maxLen]);have hT:=Z9.stp pW;clear pW;replace hr:=hr.up hT;refine Z0 (Jy rfl (by decide) rfl rfl hr hu (by simp only [Xe,Xf];omega) (by simp only [Xe,Xf,maxLen];omega)) rfl ?_;clear hu hr hT;rintro v5 w5 ⟨hr,-,-⟩;replace hr:=hr.pre hS;replace hr:RwI w w5 v5 (ZU x):=hr;have pP:=hr.slv (X:=[]) (by simp);by_cases hg:(ZU x).length > 200;have he:Z0z x=2:=by rw [Z0z,if_pos hn,if_neg ht,if_pos hg]
 refine QO ?_;refine WR ?_;refine .mk ⟨_,by rw [he],λX hX=>?_,hr.2⟩;rw [he,if_neg (by decide)];exact Zk _ _;have he:Z0z x=0:=by rw [Z0z,if_pos hn,if_neg ht,if_neg hg]
 refine QO ?_;refine WR ?_;refine .mk ⟨_,by rw [he],λX hX=>?_,hr.2⟩;rw [he,if_pos rfl];exact hr.slv hX
end Go.Proofs.YtipfkbkkndacjaaGreatDoor
namespace Go.Eng
open Go Go.RowKit Go.Proofs
theorem Z9.slvG {α:Type} [Z5 α] {w w':World} {X:List Nat} {T len:Nat} {cs:List Value} {v:Value} {ys:List α} {css:List (List Value)} (h:Z9 w T len cs v w') (hX:∀ b∈X,b<w.heap.size) (hl:len=ys.length) (bZ:css.length=ys.length)
 (hc:cs=css.flatten) (hr:∀ i (hi:i<ys.length) (cA:i<css.length),Z5.rep X w ys[i] css[i]) (hm:ys.length<=maxLen):SlV X w' v ys:=by
 obtain ⟨b,rfl,hb,ac,hS⟩:=h;subst hl;subst hc;have hk:∀ c∈css,c.length=Z5.k α:=by
  intro c hc;obtain ⟨i,hi,rfl⟩:=Xr hc;exact Z5.len (hr i (by omega) hi)
 refine ⟨some ⟨b,0,none⟩,ys.length,rfl,Xn _,hm,λh=>by simp at h,λi hi=>⟨b,0,css[i]'(by omega),rfl,ac.lt,λhx=>by have:=hX b hx;omega,Z5.ext (hr i hi (by omega)) hS (by simp) (λb hb=>.inl hb),λj u hu=>?_⟩⟩;refine ac.cell ?_;have:=Z0i css hk i (by omega) j u hu;rw [XK];exact this
theorem SlV.wk {α:Type} [Z5 α] {X X':List Nat} {w} {v:Value} {l:List α} (h:SlV X w v l) (hs:∀ b∈X',b∈X):SlV X' w v l:=h.ext (Stp.refl [] w) (by simp) (λb hb=>.inl (hs b hb))
end Go.Eng
namespace Go.Proofs.YtipfkbkkndacjaaGreatDoor
open Go Go.Eng Go.RowKit
theorem Z0q (x:Nd):Zy x<=ZJ x:=by
 induction x using Nd.ind with
 | h k n s l ih=>
 rw [Z0F,Z14];show 1+(l.map Zy).foldl max 0<=1+(l.map ZJ).sum;have:∀ (l:List Nd) (a:Nat),(∀ x∈l,Zy x<=ZJ x)->(l.map Zy).foldl max a<=a+(l.map ZJ).sum:=by
  intro l
  induction l with
  | nil=>intro a _;simp
  | cons y r ihr=>
    intro a h;simp only [Xy,X5,List.sum_cons];have h1:=ihr (max a (Zy y)) (λx hx=>h x (by simp [hx]));have h2:=h y (by simp);omega
 have:=this l 0 ih;omega
theorem ZiE (k n:Int) (s:Str) (p:Option Addr) (l c:Nat) (w):(Instr.buildSlice 95 1 #[(0,.agg #[.I k,.I n,str s,.slice p l c])]).run Tryz.prog w=.ok (.slice (some ⟨w.heap.size,0,none⟩) 1 1) (w.alloc (.cells #[.I k,.I n,str s,.slice p l c] 97)):=by kernel_rfl
theorem Jz (z:Int) (m:Int) (w) (hm:0<m) (hz:I64 z):CC 11 #[.I z,.I m] w λr w'=>r=.I ((if z<0 then -(z+1) else z) % m)/\Stp [] w w':=by
 unfold I64 at hz;refine cW2 13 Tryz.func11 ?_;by_cases h:z<0;refine RT ?_;exact ⟨by rw [if_pos h],Stp.refl _ _⟩;refine RT ?_;exact ⟨by rw [if_neg h],Stp.refl _ _⟩
theorem Jk (z m:Int) (hm:0<m):0<=z % m/\z % m<m:=⟨Ya2 _ (by omega),YaN _ hm⟩
theorem ZV (X:List Nat) (v:Value) (l:List Int) (i m:Int) (w) (hm:0<m) (hi:I64 i) (hs:SlV X w v l) (hl:∀ a∈l,I64 a):CC 35 #[v,.I i,.I m] w λr w'=>∃ q:Nat,r=.I (q:Int)/\(q:Int)<m/\Stp [] w w':=by
 unfold I64 at hi;have aT:=hs.max;refine cW3 21 Tryz.func35 ?_;refine W ?_;by_cases ja:0<=i/\i<l.length;obtain ⟨h0,h1⟩:=ja;obtain ⟨k,rfl⟩:∃ k:Nat,i=(k:Int):=⟨i.toNat,by omega⟩
 have hk:k<l.length:=by omega
 refine QO ?_;refine CL (Jz _ m _ hm (hl _ (Xd hk))) ?_;rintro _ w2 ⟨rfl,hS⟩;refine W ?_;refine WR ?_;have:=Jk (if l[k]<0 then -(l[k]+1) else l[k]) m hm;exact .mk ⟨_,by rw [YaY this.1],by rw [YaY this.1];exact this.2,hS⟩
 . repeat'(first|refine W1 ?_|omega|refine VG ?_ ?_<;>intro hg|refine VC ?_ ?_<;>intro hc)
   all_goals first
    | (refine RU ?_
       exact ⟨0,rfl,by simpa using hm,Stp.refl _ _⟩)
theorem Zfj (k:Int) (s:Str) (p:Option Addr) (l c:Nat) (w):(Instr.build 97 #[(0,.I k),(2,str s),(3,.slice p l c)]).run Tryz.prog w=.ok (.agg #[.I k,.I 0,str s,.slice p l c]) w:=by kernel_rfl
def szD:Nat->Nat
 | 0=>0
 | d+1=>1+3 * szD d
theorem Zdk {d:Nat} (h:1<=d):szD d=1+3 * szD (d - 1):=by
 cases d with
 | zero=>omega
 | succ d=>rfl
theorem Zvu {X:List Nat} {w} {y0:Nd} {k0:Value} (s0:SlV X w k0 y0.kids):∀ i (hi:i < [y0].length) (cA:i < [ndC y0 k0].length),Z5.rep X w [y0][i] [ndC y0 k0][i]
 | 0,_,_=>(show Z4w X w y0 (ndC y0 k0) by rw [y0.eta];exact Z2v s0)
theorem ZnK {X:List Nat} {w} {y0 y1:Nd} {k0 k1:Value} (s0:SlV X w k0 y0.kids) (s1:SlV X w k1 y1.kids):∀ i (hi:i < [y0,y1].length) (cA:i < [ndC y0 k0,ndC y1 k1].length),Z5.rep X w [y0,y1][i] [ndC y0 k0,ndC y1 k1][i]
 | 0,_,_=>(show Z4w X w y0 (ndC y0 k0) by rw [y0.eta];exact Z2v s0)
 | 1,_,_=>(show Z4w X w y1 (ndC y1 k1) by rw [y1.eta];exact Z2v s1)
theorem Zvv {X:List Nat} {w} {y0 y1 y2:Nd} {k0 k1 k2:Value} (s0:SlV X w k0 y0.kids) (s1:SlV X w k1 y1.kids) (s2:SlV X w k2 y2.kids):∀ i (hi:i < [y0,y1,y2].length) (cA:i < [ndC y0 k0,ndC y1 k1,ndC y2 k2].length),Z5.rep X w [y0,y1,y2][i] [ndC y0 k0,ndC y1 k1,ndC y2 k2][i]
 | 0,_,_=>(show Z4w X w y0 (ndC y0 k0) by rw [y0.eta];exact Z2v s0)
 | 1,_,_=>(show Z4w X w y1 (ndC y1 k1) by rw [y1.eta];exact Z2v s1)
 | 2,_,_=>(show Z4w X w y2 (ndC y2 k2) by rw [y2.eta];exact Z2v s2)
theorem Z3z (k n:Int) (w):(Instr.build 97 #[(0,.I k),(1,.I n)]).run Tryz.prog w=.ok (.agg #[.I k,.I n,str [],.N]) w:=by kernel_rfl
theorem Zbo (k n:Int) (s:Str) (p:Option Addr) (l c:Nat) (k' n':Int) (s':Str) (p':Option Addr) (l' c':Nat) (w):(Instr.buildSlice 95 2 #[(0,.agg #[.I k,.I n,str s,.slice p l c]),(1,.agg #[.I k',.I n',str s',.slice p' l' c'])]).run Tryz.prog w=.ok (.slice (some ⟨w.heap.size,0,none⟩) 2 2) (w.alloc (.cells #[.I k,.I n,str s,.slice p l c,.I k',.I n',str s',.slice p' l' c'] 97)):=by kernel_rfl
theorem ZiF (k n:Int) (s:Str) (p:Option Addr) (l c:Nat) (k' n':Int) (s':Str) (p':Option Addr) (l' c':Nat) (k'' n'':Int) (s'':Str) (p'':Option Addr) (l'' c'':Nat) (w):(Instr.buildSlice 95 3 #[(0,.agg #[.I k,.I n,str s,.slice p l c]),(1,.agg #[.I k',.I n',str s',.slice p' l' c']),(2,.agg #[.I k'',.I n'',str s'',.slice p'' l'' c''])]).run Tryz.prog w=.ok (.slice (some ⟨w.heap.size,0,none⟩) 3 3) (w.alloc (.cells #[.I k,.I n,str s,.slice p l c,.I k',.I n',str s',.slice p' l' c',.I k'',.I n'',str s'',.slice p'' l'' c''] 97)):=by kernel_rfl
theorem Zvw (k n:Int) (s:Str) (y0:Nd):ZJ (.mk k n s [y0])=1+ZJ y0:=by rw [Z14];simp [Nd.kids]
theorem Zvx (k n:Int) (s:Str) (y0 y1:Nd):ZJ (.mk k n s [y0,y1])=1+ZJ y0+ZJ y1:=by rw [Z14];simp [Nd.kids];omega
theorem Zvy (k n:Int) (s:Str) (y0 y1 y2:Nd):ZJ (.mk k n s [y0,y1,y2])=1+ZJ y0+ZJ y1+ZJ y2:=by rw [Z14];simp [Nd.kids];omega
theorem Zvz (k n:Int) (s:Str):ZJ (.mk k n s [])=1:=by rw [Z14];simp [Nd.kids]
def ZiG:List Str:=[[101,120,116,114,97],[98,121],[116,111],[99,111,117,114,116],[97,109,111,117,110,116]]
def Zbp:List Str:=[[100,97,121],[115,101,114,118,101,100]]
inductive Gn:Int->Nat->Nd->Prop
 | num (d:Nat) (n:Int) (h:0<=n/\n<25):Gn 1 d (.mk 1 n [] [])
 | fldN (d:Nat) (s:Str) (h:s∈ZiG):Gn 1 d (.mk 4 0 s [])
 | fldD (d:Nat) (s:Str) (h:s∈Zbp):Gn 3 d (.mk 4 0 s [])
 | day (d:Nat) (n:Int) (h:739616<=n/\n<739676):Gn 3 d (.mk 3 n [] [])
 | bool (d:Nat) (n:Int) (h:n=0\/n=1):Gn 2 d (.mk 2 n [] [])
 | neg (d:Nat) (a:Nd):Gn 1 d a->Gn 1 (d+1) (.mk 5 0 [45] [a])
 | not (d:Nat) (a:Nd):Gn 2 d a->Gn 2 (d+1) (.mk 5 0 [110,111,116] [a])
 | btw (d:Nat) (a b:Nd):Gn 3 d a->Gn 3 d b->Gn 1 (d+1) (.mk 10 0 [98,101,116,119,101,101,110] [a,b])
 | cond (d:Nat) (t:Int) (c a b:Nd) (h:t=1\/t=3):Gn 2 d c->Gn t d a->Gn t d b->Gn t (d+1) (.mk 9 0 [] [c,a,b])
 | arith (d:Nat) (s:Str) (a b:Nd) (h:s∈Z0Q):Gn 1 d a->Gn 1 d b->Gn 1 (d+1) (.mk 6 0 s [a,b])
 | adj (d:Nat) (s:Str) (a:Nd) (h:s∈Z2n):Gn 3 d a->Gn 3 (d+1) (.mk 10 0 s [a])
 | two (d:Nat) (s:Str) (a b:Nd) (h:s∈Z2o):Gn 3 d a->Gn 3 d b->Gn 3 (d+1) (.mk 10 0 s [a,b])
 | move (d:Nat) (k:Int) (s:Str) (a b:Nd) (hk:k=7\/k=8) (h:s∈J1):Gn 3 d a->Gn 1 d b->Gn 3 (d+1) (.mk k 0 s [a,b])
 | logic (d:Nat) (s:Str) (a b:Nd) (h:s∈Z0D):Gn 2 d a->Gn 2 d b->Gn 2 (d+1) (.mk 6 0 s [a,b])
 | cmp (d:Nat) (t:Int) (s:Str) (a b:Nd) (ht:t=1\/t=3) (h:s∈Z24):Gn t d a->Gn t d b->Gn 2 (d+1) (.mk 6 0 s [a,b])
theorem Z1e (d:Nat):1<=szD (d+1):=by show 1<=1+3 * szD d;omega
theorem Gn.size {t:Int} {d:Nat} {x:Nd} (h:Gn t d x):ZJ x<=szD (d+1):=by
 induction h with
 | num d|fldN d|fldD d|day d|bool d=>rw [Zvz];exact Z1e d
 | neg d|not d|adj d=>rw [Zvw,Zdk (by omega)];simp only [Ybq];omega
 | btw d|arith d|two d|move d|logic d|cmp d=>rw [Zvx,Zdk (by omega)];simp only [Ybq];omega
 | cond d=>rw [Zvy,Zdk (by omega)];simp only [Ybq];omega
end Go.Proofs.YtipfkbkkndacjaaGreatDoor
namespace Go.Eng
open Go Go.RowKit Go.Proofs
structure WT (P:Program) (n:Nat) (ops:Array Oper) (S:List Nat) (Lt:List Nat) (Q:Exit->Act->World->Prop) (listed:Array Bool) (fuel:Nat) (e:Env) (w:World):Prop where
 h:∀ a,Has n e a->Za2 P .any ops S (λj=>Lt.contains j) (λa w=>Q .normal a w) fuel listed a w
structure WT1 (P:Program) (n:Nat) (ops:Array Oper) (S:List Nat) (Lt:List Nat) (Q:Exit->Act->World->Prop) (i:Nat) (listed:Array Bool) (fuel:Nat) (e:Env) (w:World):Prop where
 h:∀ a,Has n e a->wpOp P ops (λ_ _ _=>False) i (λa' w'=>(Stp S w w'\/Lt.contains i=true)/\Za2 P .any ops S (λj=>Lt.contains j) (λa w=>Q .normal a w) fuel (listed.setIfInBounds i true) a' w') a w
section rules
variable {P:Program} {n:Nat} {Q:Exit->Act->World->Prop} {e:Env} {w:World} {ops:Array Oper} {S:List Nat} {Lt:List Nat} {listed:Array Bool} {fuel:Nat}
theorem Z4b {id:Nat} {l:List Oper} (m:Nat) (S:List Nat) (Lt:List Nat) (cp:l.length=m) (hm:P.follows .mixedOrders=true)
 (h:∀ w',Stp [] w w'->WT P n l.toArray S Lt Q (Array.replicate m false) m e w'):WC P n (.region id l.toArray true) Q e w:=by
 subst cp;refine ⟨λa ha=>wp_region_any hm ?_⟩;have h1:=(h { w with drawn:=w.drawn+1 } (Stp.drew [] w)).h a ha;have h2:=Z0O (Q:=Q) (λa w hz=>hz) _ _ _ _ h1;simpa using h2
theorem Z4x (ord:List (Nat×Nat)) (hs:Region.noSelect ops=true) (hB:ZY ops Lt ord listed=true) (hl:Nat.beq (wt ord) fuel=true) (h:WD P n ops S Lt Q ord e w):WT P n ops S Lt Q listed fuel e w:=by
 have:=XL hl;subst this;exact ⟨λa ha=>h.h _ hs hB a ha⟩
theorem Z1r (i q:Nat) (hr:(Region.ready .any ops listed == [i,q])=true) (h1:WT1 P n ops S Lt Q i listed fuel e w) (h2:WT1 P n ops S Lt Q q listed fuel e w):WT P n ops S Lt Q listed (fuel+1) e w:=by
 have hr:=beq_iff_eq.1 hr;refine ⟨λa ha=>⟨λh0=>absurd (hr ▸ h0) (by simp),λj hj=>?_⟩⟩;rw [hr] at hj;have fZ:j=i\/j=q:=by simpa using hj
 rcases fZ with rfl|rfl
 exact h1.h a ha;exact h2.h a ha
variable {i d:Nat} {op:Op} {ty:TypeId} {pos:String} {af:Array Edge} {gd:Option (Nat×Bool)} {v:Value}
theorem Zsg {o:Oper} {dst:Option Nat} {G:Value->World->Prop} (hi:ops[i]?=some o) (fJ:o.dst=dst) (hg:JT ops e o.guard) (hp:OE P n o e w (λv w'=>(Stp S w w'\/Lt.contains i=true)/\G v w'))
 (k:∀ v w' a',G v w'->∀ a,Has n e a->a'=a.put dst v->∃ e',Has n e' a'/\WT P n ops S Lt Q (listed.setIfInBounds i true) fuel e' w'):WT1 P n ops S Lt Q i listed fuel e w:=by
 refine ⟨λa ha=>?_⟩;unfold wpOp;simp only [hi];rw [if_pos (Js ha hg)];refine .inl (Oper.wp_mono ?_ (hp.h a ha _));rintro a' w' ⟨v,rfl,cI,hG⟩;obtain ⟨e',iW,hk⟩:=k v w' (a.put o.dst v) hG a ha (by rw [fJ]);exact ⟨cI,hk.h _ iW⟩
theorem J7 {G:Value->World->Prop} (hi:ops[i]?=some ⟨some d,op,ty,pos,af,gd⟩) (hg:JT ops e gd) (hp:OE P n ⟨some d,op,ty,pos,af,gd⟩ e w G) (hG:∀ v w',G v w'->Stp S w w') (aw:Nat.blt d n=true)
 (k:∀ v w',G v w'->WT P n ops S Lt Q (listed.setIfInBounds i true) fuel ((d,v) :: e) w'):WT1 P n ops S Lt Q i listed fuel e w:=
 Zsg (G:=G) hi rfl hg (hp.mono λv w' h=>⟨.inl (hG v w' h),h⟩) (λv w' a' h a ha e=>⟨_,by rw [e];exact ha.put aw,k v w' h⟩)
theorem ZiH (i:Nat) {o:Oper} (hi:ops[i]?=some o) (hd:o.dst=some d) (hY:∀ a,Has n e a->YE P ops (λ_ _=>True) o v a w) (aw:Nat.blt d n=true) (hs:Region.noSelect ops=true)
 (hB:((Region.ready .any ops listed).contains i && Region.free .any ops listed i)=true)
 (k:WT P n ops S Lt Q (listed.setIfInBounds i true) fuel ((d,v) :: e) w):WT P n ops S Lt Q listed (fuel+1) e w:=by
 refine ⟨λa ha=>?_⟩;simp only [Xm] at hB;have hk:=k.h _ (ha.put (v:=v) aw);rw [<- hd] at hk;exact Z58 (R:=λ_ _=>True) (λ_=>trivial) (λ_ _ _ _ _=>trivial) hi (λ_ _ _ _ _ _ _ _=>trivial) (Region.noSelect_spec hs) _ _ _ _ (Region.free_spec hi hB.2) (λ_=>trivial) (by simpa using hB.1) (hY a ha) hk
theorem ZiI (i:Nat) {o:Oper} (hi:ops[i]?=some o) (hd:o.dst=some d) (hY:∀ a,Has n e a->YE P ops (Stp S) o v a w) (aw:Nat.blt d n=true) (hs:Region.noSelect ops=true)
 (hB:((Region.ready .any ops listed).contains i && Region.free .any ops listed i && Zee ops Lt i)=true)
 (k:WT P n ops S Lt Q (listed.setIfInBounds i true) fuel ((d,v) :: e) w):WT P n ops S Lt Q listed (fuel+1) e w:=by
 refine ⟨λa ha=>?_⟩;simp only [Xm] at hB;obtain ⟨⟨h1,h2⟩,hb⟩:=hB;have hk:=k.h _ (ha.put (v:=v) aw);rw [<- hd] at hk;refine Z58 (R:=Stp S) (λw=>Stp.refl _ w) (λ_ _ _ h k=>h.trans k) hi (λj oj hj hn ci w w' hs=>?_) (Region.noSelect_spec hs) _ _ _ _ (Region.free_spec hi h2) (λ_=>trivial) (by simpa using h1) (hY a ha) hk;rcases hs with hs|hs
 exact hs;rw [Z4N hb hj hn ci] at hs;cases hs
theorem JQ (i:Nat) (hi:ops[i]?=some ⟨some d,op,ty,pos,af,gd⟩) (hg:JT ops e gd) (hp:∀ w',PR P n ⟨some d,op,ty,pos,af,gd⟩ e w' v) (aw:Nat.blt d n=true) (hs:Region.noSelect ops=true)
 (hB:((Region.ready .any ops listed).contains i && Region.free .any ops listed i)=true)
 (k:WT P n ops S Lt Q (listed.setIfInBounds i true) fuel ((d,v) :: e) w):WT P n ops S Lt Q listed (fuel+1) e w:=
 ZiH i hi rfl (λa ha=>.inl ⟨Js ha hg,λw' _=>(hp w').h a ha⟩) aw hs hB k
theorem Zae (i:Nat) (hi:ops[i]?=some ⟨some d,op,ty,pos,af,gd⟩) (hg:JT ops e gd) (hp:∀ w',Stp S w w'->PR P n ⟨some d,op,ty,pos,af,gd⟩ e w' v) (aw:Nat.blt d n=true) (hs:Region.noSelect ops=true)
 (hB:((Region.ready .any ops listed).contains i && Region.free .any ops listed i && Zee ops Lt i)=true)
 (k:WT P n ops S Lt Q (listed.setIfInBounds i true) fuel ((d,v) :: e) w):WT P n ops S Lt Q listed (fuel+1) e w:=
 ZiI i hi rfl (λa ha=>.inl ⟨Js ha hg,λw' hw=>(hp w' hw).h a ha⟩) aw hs hB k
end rules
end Go.Eng
namespace Go.Proofs.YtipfkbkkndacjaaGreatDoor
open Go Go.Eng Go.RowKit
theorem bS1 (a:Str) (w):(Instr.buildSlice 128 1 #[(0,str a)]).run Tryz.prog w=.ok (.slice (some ⟨w.heap.size,0,none⟩) 1 1) (w.alloc (.cells #[str a] 9)):=by kernel_rfl
theorem bS2 (a b:Str) (w):(Instr.buildSlice 128 2 #[(0,str a),(1,str b)]).run Tryz.prog w=.ok (.slice (some ⟨w.heap.size,0,none⟩) 2 2) (w.alloc (.cells #[str a,str b] 9)):=by kernel_rfl
theorem bS3 (a b c:Str) (w):(Instr.buildSlice 128 3 #[(0,str a),(1,str b),(2,str c)]).run Tryz.prog w=.ok (.slice (some ⟨w.heap.size,0,none⟩) 3 3) (w.alloc (.cells #[str a,str b,str c] 9)):=by kernel_rfl
theorem bS5 (a b c d e:Str) (w):(Instr.buildSlice 128 5 #[(0,str a),(1,str b),(2,str c),(3,str d),(4,str e)]).run Tryz.prog w=.ok (.slice (some ⟨w.heap.size,0,none⟩) 5 5) (w.alloc (.cells #[str a,str b,str c,str d,str e] 9)):=by kernel_rfl
theorem bS6 (a b c d e f:Str) (w):(Instr.buildSlice 128 6 #[(0,str a),(1,str b),(2,str c),(3,str d),(4,str e),(5,str f)]).run Tryz.prog w=.ok (.slice (some ⟨w.heap.size,0,none⟩) 6 6) (w.alloc (.cells #[str a,str b,str c,str d,str e,str f] 9)):=by kernel_rfl
abbrev Mk3 (w:World) (bm:Nat) (lv:Value) (i:Nat):Prop:=Blk w bm 146 [lv,.I (i:Int)]
theorem Z0d (bm:Nat) (lv:Value) (l:List Int) (i:Nat) (n:Int) (w) (hn:0<n) (hi:i<=1000000) (hb:Mk3 w bm lv i) (hs:SlV [bm] w lv l) (hl:∀ a∈l,I64 a) :
 CC 66 #[pQ bm,.I n] w λr w'=>∃ q:Nat,r=.I (q:Int)/\(q:Int)<n/\Mk3 w' bm lv (i+1)/\Stp [bm] w w':=by
 refine cW2 23 Tryz.func66 ?_;refine W ?_;refine S1 (u:=.I ((i:Int)+1)) hb ?_;rintro _ w1 ⟨jc,aX⟩;replace aX:Mk3 w1 bm lv (i+1):=aX;replace hs:=hs.ext jc (λ_ h=>h) (λ_ h=>.inl h);replace hs:SlV [] w1 lv l:=hs.wk (by simp);refine W ?_;refine ZDr 12 [] [] [(0,0),(1,0),(2,0),(3,1),(4,0),(5,0),(6,0),(7,1),(8,0),(9,0),(10,2),(11,0)] (λw1 ae=>?_);replace aX:=aX.up ae;replace hs:=hs.up ae;refine D ?_;refine Za rfl trivial (Z4 rfl (ZI rfl rfl rfl) (ZV [] _ l _ n _ hn (by unfold I64;omega) hs hl)) (λ_ _ h=>h.choose_spec.2.2) rfl ?_;rintro _ w3 ⟨q,rfl,hq,am⟩;replace aX:=aX.up am;refine D ?_;refine RT ?_;exact ⟨q,rfl,hq,aX,(jc.trans ae.mn).trans am.mn⟩
theorem Z5Z (bm:Nat) (lv:Value) (l:List Int) (i:Nat) (d:Nat) (z:Int) (w) (hz:z=(d:Int)) (hb:Mk3 w bm lv i) (hs:SlV [bm] w lv l) :
 CC 178 #[pQ bm,.I z] w λr w'=>∃ b:Bool,r=.B b/\(d=0->b=true)/\Stp [] w w':=by
 subst hz;refine cW2 19 Tryz.func178 ?_;refine W ?_;by_cases h0:d=0;refine ZDr 15 [] [] [(0,0),(1,0),(2,0),(3,0),(4,0),(5,0),(6,1),(7,0),(8,0),(9,0),(10,1),(11,0),(12,0),(13,0),(14,0)] (λw1 ae=>?_);refine D ?_;have e0:((d:Int)<=0):=by omega
 simp only [e0,decide_true];refine D ?_;refine RT ?_;exact ⟨true,rfl,λ_=>rfl,ae⟩;refine ZDr 15 [] [] [(0,0),(1,0),(2,0),(3,0),(4,0),(5,0),(6,1),(7,0),(8,0),(9,0),(10,1),(11,0),(12,0),(13,0),(14,0)] (λw1 ae=>?_);replace hb:=hb.up ae;replace hs:=hs.up ae;refine D ?_;have e0:¬ ((d:Int)<=0):=by omega
 simp only [e0,decide_false];refine D ?_;refine RT ?_;exact ⟨_,rfl,λh=>absurd h h0,ae⟩
theorem Zdl (X:List Nat) (k:Int) (s:Str) (kv:Value) (kids:List Nd) (w:World) (hX:∀ b∈X,b<w.heap.size) (hs:SlV X w kv kids):CC 179 #[.I k,str s,kv] w λr w'=>NdV X w' r (.mk k 0 s kids)/\Stp [] w w':=by
 obtain ⟨p,c,rfl,-⟩:=id hs;refine cW3 11 Tryz.func179 ?_;refine W ?_;refine Z0 Z2 rfl ?_;rintro _ w1 ⟨b,rfl,hb,ac,hS⟩;refine W ?_;apply Z7 (vs:=[(0,.I k),(2,str s),(3,.slice p kids.length c)]) rfl (Zfj _ _ _ _ _) rfl;refine SB (us:=ndC (.mk k 0 s kids) (.slice p kids.length c)) (ZC hs) ac ?_;rintro _ w2 ⟨ah,aQ⟩;have hT:=hS.ow ah;refine W ?_;refine J0 rfl rfl rfl aQ rfl ?_;exact .mk ⟨⟨_,rfl,hs.up hT⟩,hT⟩
def ZvA (k:Int):List Str:=if k=1 then [[111,114]] else if k=2 then [[97,110,100]] else if k=4 then Z24 else if k=5 then [[43],[45]] else [[42]]
theorem Z73 (X:List Nat) (k:Int) (w:World) (hX:∀ b∈X,b<w.heap.size):CC 241 #[.I k] w λr w'=>SlV X w' r (ZvA k)/\Stp [] w w':=by
 refine cW1 17 Tryz.func241 ?_;have key:∀ (n:Nat) (vs:List Value) (v:Value) (w':World) (ys:List Str),Z9 w n ys.length vs v w'->vs=ys.flatMap Z3.enc->ys.length<=maxLen->SlV X w' v ys:=λn vs v w' ys h e hm=>Z9.slv h hX rfl e hm;by_cases h1:k=1;subst h1;refine QO ?_;refine Z0 (Z1 (vs:=[(0,str [111,114])]) rfl (bS1 _)) rfl ?_;rintro v w1 hN;have hv:SlV X w1 v ([[111,114]]:List Str):=hN.slv hX rfl rfl (by decide);have hT:=Z9.stp hN;refine RT ?_;exact ⟨hv,hT⟩;by_cases h2:k=2;subst h2;refine QO ?_;refine Z0 (Z1 (vs:=[(0,str [97,110,100])]) rfl (bS1 _)) rfl ?_;rintro v w1 hN;have hv:SlV X w1 v ([[97,110,100]]:List Str):=hN.slv hX rfl rfl (by decide);have hT:=Z9.stp hN;refine RT ?_;exact ⟨hv,hT⟩;by_cases h4:k=4;subst h4;refine QO ?_;refine Z0 (Z1 (vs:=[(0,str [60]),(1,str [60,61]),(2,str [61]),(3,str [33,61]),(4,str [62]),(5,str [62,61])]) rfl (bS6 _ _ _ _ _ _)) rfl ?_;rintro v w1 hN;have hv:SlV X w1 v Z24:=hN.slv hX rfl rfl (by decide);have hT:=Z9.stp hN;refine RT ?_;exact ⟨hv,hT⟩;by_cases h5:k=5;subst h5;refine QO ?_;refine Z0 (Z1 (vs:=[(0,str [43]),(1,str [45])]) rfl (bS2 _ _)) rfl ?_;rintro v w1 hN;have hv:SlV X w1 v ([[43],[45]]:List Str):=hN.slv hX rfl rfl (by decide);have hT:=Z9.stp hN;refine RT ?_;exact ⟨hv,hT⟩;refine QO ?_;refine Z0 (Z1 (vs:=[(0,str [42])]) rfl (bS1 _)) rfl ?_;rintro v w1 hN;have hv:SlV X w1 v ([[42]]:List Str):=hN.slv hX rfl rfl (by decide);have hT:=Z9.stp hN;refine RT ?_;exact ⟨by unfold ZvA;rw [if_neg h1,if_neg h2,if_neg h4,if_neg h5];exact hv,hT⟩
theorem Z5f (q:Nat) (w) (hq:q<6):CC 180 #[.I (q:Int)] w λr w'=>(∃ s∈Z24,r=str s)/\Stp [] w w':=by
 refine cW1 7 Tryz.func180 ?_;refine W ?_;refine CM (ZN rfl) (Z73 [] 4 _ (by simp)) ?_;rintro v w1 ⟨hv,hS⟩;replace hv:SlV [] w1 v Z24:=hv;have cG:q<Z24.length:=by show q<6;exact hq
 refine RT ?_;exact ⟨⟨_,Xd cG,rfl⟩,hS⟩
structure G3 (X:List Nat) (w0 w:World) (bm b4:Nat) (lv:Value) (l:List Int) (i:Nat):Prop where
 mkr:Mk3 w bm lv i
 sl:SlV [bm] w lv l
 stp:Stp [bm] w0 w
 blk:∃ cs:List Value,cs.length=4/\Blk w b4 97 cs
 ne:b4≠bm
 hX:∀ b∈X,b<w.heap.size
theorem G3.nxt {X:List Nat} {w0 w w':World} {bm b4:Nat} {lv:Value} {l:List Int} {i i':Nat} (h:G3 X w0 w bm b4 lv l i) (hm:Mk3 w' bm lv i') (hS:Stp [bm] w w'):G3 X w0 w' bm b4 lv l i':=
 ⟨hm,h.sl.ext hS (λ_ h=>h) (λ_ h=>.inl h),h.stp.trans hS,h.blk.imp (λcs hc=>⟨hc.1,hc.2.ext hS (by simpa using h.ne)⟩),h.ne,λb hb=>Xa (h.hX b hb) hS.size⟩
theorem G3.up {X:List Nat} {w0 w w':World} {bm b4:Nat} {lv:Value} {l:List Int} {i:Nat} (h:G3 X w0 w bm b4 lv l i) (hS:Stp [] w w'):G3 X w0 w' bm b4 lv l i:=
 h.nxt (h.mkr.up hS) hS.mn
theorem G3.fin {X:List Nat} {w0 w1 w w':World} {bm b4:Nat} {lv:Value} {l:List Int} {i:Nat} {y:Nd} {ky:Value} (h:G3 (b4 :: bm :: X) w1 w bm b4 lv l i) (hw:Stp [] w0 w1) (hb:w0.heap.size<=b4) (hy:SlV (b4 :: bm :: X) w ky y.kids) (hS:Stp [b4] w w') :
 NdV X w' (.agg (ndC y ky).toArray) y/\Mk3 w' bm lv i/\Stp [bm] w0 w':=
 ⟨⟨ky,rfl,(hy.ext (X':=b4 :: bm :: X) hS (by simp) (λ_ h=>.inl h)).wk (λc hc=>by simp [hc])⟩,h.mkr.ext hS (by simpa using h.ne.symm),(hw.mn.trans h.stp).ow hS⟩
def Z26 (f:Nat) (t:Int) (d:Nat):Prop:=∀ (X:List Nat) (w:World) (bm:Nat) (lv:Value) (l:List Int) (i:Nat) (z:Int),z=(d:Int)->Mk3 w bm lv i->SlV [bm] w lv l->(∀ a∈l,I64 a)->i+3 * szD (d+1)<=100000->(∀ b∈X,b<w.heap.size)->
 CC f #[pQ bm,.I z] w λr w'=>∃ y i',NdV X w' r y/\Gn t d y/\Mk3 w' bm lv i'/\i'<=i+3 * szD (d+1)/\Stp [bm] w w'
theorem JH {w w1 w2:World} {b:Nat} (h:Stp [] w w1) (hb:w.heap.size<=b) (h2:Stp [b] w1 w2):Stp [] w w2:=h.ow h2
structure FnP (X:List Nat) (w0 w1 w:World) (bm b4:Nat) (lv:Value) (l:List Int) (i j:Nat) (y:Nd) (ky:Value) (g:Prop):Prop where
 gm:G3 (b4 :: bm :: X) w1 w bm b4 lv l i
 s0:Stp [] w0 w1
 b0:w0.heap.size<=b4
 hy:SlV (b4 :: bm :: X) w ky y.kids
 gn:g
 le:i<=j
 h1:∀ c∈ndC y ky,c.oneCell'=true
section
variable {P:Program} {n:Nat} {e:Env} {w:World} {d:Option Nat} {ty:TypeId} {pos:String} {af:Array Edge} {gd:Option (Nat×Bool)}
theorem stN {b T m t:Nat} {cs us:List Value} {x y:Operand} {u:Value} [bE:Siz P t m] (h1:∀ c∈us,c.oneCell'=true) (hb:Blk w b T cs) (hl:us.length=cs.length) (hx:ev e x=some (pQ b)) (hy:ev e y=some u) (hu:u.cells.toList=us) (hm:us.length=m):OE P n ⟨d,.store t x y,ty,pos,af,gd⟩ e w (λ_ w'=>Stp [b] w w'/\Blk w' b T us):=Zi hx hy hu hm h1 hb hl
theorem FN {G:Prop} {X:List Nat} {w0 w1 w:World} {bm b4:Nat} {lv:Value} {l:List Int} {i:Nat} {ky:Value} {t:Int} (j d:Nat) (y:Nd) (gm:G3 (b4 :: bm :: X) w1 w bm b4 lv l i) (s0:Stp [] w0 w1) (b0:w0.heap.size<=b4) (hy:SlV (b4 :: bm :: X) w ky y.kids) (gn:Gn t d y) (le:i<=j+3 * szD (d+1))
 (h : FnP X w0 w1 w bm b4 lv l i (j + 3 * szD (d + 1)) y ky (Gn t d y) -> G := by
   intro r;obtain ⟨cs,bZ,jd⟩:=r.gm.blk;first
   | refine Z0p rfl trivial (stN r.h1 jd bZ.symm rfl rfl rfl rfl) (λ_ _ h=>h.1.mn) ?_
   | refine Z6 (stN r.h1 jd bZ.symm rfl rfl rfl rfl) ?_
   rintro _ wz ⟨hz,uQ⟩;first|refine D ?_|skip
   refine W ?_;refine J0 rfl rfl rfl uQ rfl ?_;have hf:=r.gm.fin r.s0 r.b0 r.hy hz;exact .mk ⟨_,_,hf.1,r.gn,hf.2.1,r.le,hf.2.2⟩):G:=h ⟨gm,s0,b0,hy,gn,le,ZC (x:=y) hy⟩
variable {X:List Nat} {w0:World} {bm b4:Nat} {lv:Value} {l:List Int} {i:Nat}
theorem G3.nx (h:G3 (b4 :: bm :: X) w0 w bm b4 lv l i) (n:Int) (hl:∀ a∈l,I64 a) (hn:0<n:=by decide) (hi:i<=1000000:=by omega):CC 66 #[pQ bm,.I n] w λr w'=>Stp [b4,bm] w w'/\Stp [bm] w w'/\∃ q:Nat,r=.I (q:Int)/\(q:Int)<n/\G3 (b4 :: bm :: X) w0 w' bm b4 lv l (i+1):=
 (Z0d bm lv l i n w hn hi h.mkr h.sl hl).mono (by
   rintro _ w' ⟨_,rfl,q,rfl,hq,hm,hS⟩;exact .mk ⟨hS.mn,hS,q,rfl,hq,h.nxt hm hS⟩)
theorem G3.kd (h:G3 (b4 :: bm :: X) w0 w bm b4 lv l i) {f e:Nat} {t z:Int} (ih:Z26 f t e) (hl:∀ a∈l,I64 a) (hz:z=(e:Int):=by omega) (hi:i+3 * szD (e+1)<=100000:=by omega):CC f #[pQ bm,.I z] w λr w'=>Stp [b4,bm] w w'/\Stp [bm] w w'/\∃ y i' p c,r=.agg (ndC y (.slice p y.kids.length c)).toArray/\SlV (b4 :: bm :: X) w' (.slice p y.kids.length c) y.kids/\Gn t e y/\i'<=i+3 * szD (e+1)/\G3 (b4 :: bm :: X) w0 w' bm b4 lv l i':=
 (ih (b4 :: bm :: X) w bm lv l i z hz h.mkr h.sl hl hi h.hX).mono (by
   rintro _ w' ⟨_,rfl,y,i',⟨k,rfl,s⟩,g,hm,cA,hS⟩;obtain ⟨p,c,rfl,-⟩:=id s;exact .mk ⟨hS.mn,hS,y,i',p,c,rfl,s,g,cA,h.nxt hm hS⟩)
theorem G3.nd (h:G3 (b4 :: bm :: X) w0 w bm b4 lv l i) (k:Int) (s:Str) {kv:Value} {kids:List Nd} (hs:SlV (b4 :: bm :: X) w kv kids):CC 179 #[.I k,str s,kv] w λr w'=>Stp [b4,bm] w w'/\Stp [] w w'/\∃ ky,r=.agg (ndC (.mk k 0 s kids) ky).toArray/\SlV (b4 :: bm :: X) w' ky kids/\G3 (b4 :: bm :: X) w0 w' bm b4 lv l i:=
 (Zdl (b4 :: bm :: X) k s kv kids w h.hX hs).mono (by
   rintro _ w' ⟨_,rfl,⟨ky,rfl,hy⟩,hT⟩;exact .mk ⟨hT.mn,hT,ky,rfl,hy,h.up hT⟩)
abbrev ndB (y:Nd) (p:Option Addr) (c:Nat):Value:=.agg #[.I y.kind,.I y.num,str y.word,.slice p y.kids.length c]
theorem G3.b1 (h:G3 (b4 :: bm :: X) w0 w bm b4 lv l i) {y0:Nd} {p0:Option Addr} {c0:Nat} (s0:SlV (b4 :: bm :: X) w (.slice p0 y0.kids.length c0) y0.kids) {q:List (Nat×Operand)} (hv:Jt e q=some [(0,ndB y0 p0 c0)]) :
 OE Tryz.prog n ⟨d,.buildSlice 95 1 q.toArray,ty,pos,af,gd⟩ e w (λv w'=>Stp [b4,bm] w w'/\Stp [] w w'/\SlV (b4 :: bm :: X) w' v [y0]/\G3 (b4 :: bm :: X) w0 w' bm b4 lv l i):=
 (Z1 hv (ZiE _ _ _ _ _ _)).mono (λv w' hN=>⟨(Z9.stp hN).mn,Z9.stp hN,hN.slvG (css:=[ndC y0 _]) h.hX rfl rfl rfl (Zvu s0) (by simp [maxLen]),h.up (Z9.stp hN)⟩)
theorem G3.b2 (h:G3 (b4 :: bm :: X) w0 w bm b4 lv l i) {y0 y1:Nd} {p0 p1:Option Addr} {c0 c1:Nat} (s0:SlV (b4 :: bm :: X) w (.slice p0 y0.kids.length c0) y0.kids) (s1:SlV (b4 :: bm :: X) w (.slice p1 y1.kids.length c1) y1.kids) {q:List (Nat×Operand)} (hv:Jt e q=some [(0,ndB y0 p0 c0),(1,ndB y1 p1 c1)]) :
 OE Tryz.prog n ⟨d,.buildSlice 95 2 q.toArray,ty,pos,af,gd⟩ e w (λv w'=>Stp [b4,bm] w w'/\Stp [] w w'/\SlV (b4 :: bm :: X) w' v [y0,y1]/\G3 (b4 :: bm :: X) w0 w' bm b4 lv l i):=
 (Z1 hv (Zbo _ _ _ _ _ _ _ _ _ _ _ _)).mono (λv w' hN=>⟨(Z9.stp hN).mn,Z9.stp hN,hN.slvG (css:=[ndC y0 _,ndC y1 _]) h.hX rfl rfl rfl (ZnK s0 s1) (by simp [maxLen]),h.up (Z9.stp hN)⟩)
theorem G3.b3 (h:G3 (b4 :: bm :: X) w0 w bm b4 lv l i) {y0 y1 y2:Nd} {p0 p1 p2:Option Addr} {c0 c1 c2:Nat} (s0:SlV (b4 :: bm :: X) w (.slice p0 y0.kids.length c0) y0.kids) (s1:SlV (b4 :: bm :: X) w (.slice p1 y1.kids.length c1) y1.kids) (s2:SlV (b4 :: bm :: X) w (.slice p2 y2.kids.length c2) y2.kids) {q:List (Nat×Operand)} (hv:Jt e q=some [(0,ndB y0 p0 c0),(1,ndB y1 p1 c1),(2,ndB y2 p2 c2)]) :
 OE Tryz.prog n ⟨d,.buildSlice 95 3 q.toArray,ty,pos,af,gd⟩ e w (λv w'=>Stp [b4,bm] w w'/\Stp [] w w'/\SlV (b4 :: bm :: X) w' v [y0,y1,y2]/\G3 (b4 :: bm :: X) w0 w' bm b4 lv l i):=
 (Z1 hv (ZiF _ _ _ _ _ _ _ _ _ _ _ _ _ _ _ _ _ _)).mono (λv w' hN=>⟨(Z9.stp hN).mn,Z9.stp hN,hN.slvG (css:=[ndC y0 _,ndC y1 _,ndC y2 _]) h.hX rfl rfl rfl (Zvv s0 s1 s2) (by simp [maxLen]),h.up (Z9.stp hN)⟩)
end
set_option maxHeartbeats 1000000
theorem Z5g (d:Nat) (sT:d<=6) (ih:∀ e,d=e+1->Z26 181 1 e/\Z26 104 2 e/\Z26 105 3 e):Z26 181 1 d:=by
 intro X w bm lv l i z hz aB ax hl hi hX;subst hz;have bE:szD (d+1)=1+3 * szD d:=rfl;refine cW2 88 Tryz.func181 ?_;refine W ?_;refine Z0 Z2 rfl ?_;rintro _ w1 ⟨b4,rfl,bD,bu,bt⟩;have gm:G3 (b4 :: bm :: X) w1 w1 bm b4 lv l i:=⟨aB.up bt,ax.up bt,Stp.refl _ _,⟨_,rfl,bu⟩,λh=>by have:=aB.lt;omega,λc hc=>by
  simp only [Xb] at hc;have h1:=bu.lt;have h2:=aB.lt;have h3:=bt.size;rcases hc with rfl|rfl|hc
  exact h1;omega;have:=hX c hc;omega⟩
 clear bu hX ax aB;refine W ?_;refine Z0 (Z4 rfl (Zf rfl rfl) (gm.nx 9 hl)) rfl ?_;rintro _ wq ⟨-,hS,q,rfl,hq,gm⟩;refine W ?_;refine Z0 (Z4 rfl (Zf rfl rfl) (Z5Z bm lv l _ d _ _ rfl gm.mkr gm.sl)) rfl ?_;rintro _ wq ⟨dn,rfl,aw,hT⟩;replace gm:=gm.up hT;clear hT;refine W ?_;refine JE (σ:=Nat) (λk=>[(0,pQ bm),(1,.I (d:Int)),(4,pQ b4),(5,.I (k:Int))]) (λk w'=>w'=wq/\k<9/\(d=0->k<4)) ?_ ?_
 . cases dn with
   | true=>
     refine QO ?_;exact ZA (q % 4) ⟨rfl,rfl,rfl,rfl,trivial⟩ ⟨rfl,by omega,λ_=>by omega⟩
   | false=>
     refine QO ?_;exact ZA q ⟨rfl,rfl,rfl,rfl,trivial⟩ ⟨rfl,by omega,λh=>absurd (aw h) (by decide)⟩
 rintro k w3 ⟨rfl,mQ,bG⟩;clear hq aw;by_cases k0:k<=2
 . repeat'(first|refine W1 ?_|omega|refine VG ?_ ?_<;>intro hg|refine VC ?_ ?_<;>intro hc)
   all_goals
    refine Z0 (Z4 rfl (Zf rfl rfl) (gm.nx 25 hl)) rfl ?_;rintro _ wq ⟨-,hS,q',rfl,gB,gm⟩;refine W ?_;apply Z7 (vs:=[(0,.I 1),(1,.I _)]) rfl (Z3z _ _) rfl;have hy:SlV (α:=Nd) (b4 :: bm :: X) _ (.N) []:=Zk _ wq;exact FN i d (.mk 1 (q':Int) [] []) gm bt bD hy (.num _ _ (by omega)) (by omega)
 by_cases k3:k=3;refine QO ?_;refine Z0 (Z1 (vs:=[(0,str [101,120,116,114,97]),(1,str [98,121]),(2,str [116,111]),(3,str [99,111,117,114,116]),(4,str [97,109,111,117,110,116])]) rfl (bS5 _ _ _ _ _)) rfl ?_;rintro wv wq hN;have aS:SlV [bm] wq wv ZiG:=hN.slv (λc hc=>gm.hX c (by simp at hc;subst hc;simp)) rfl rfl (by decide);have hT:=Z9.stp hN;clear hN;replace gm:=gm.up hT;clear hT;refine W ?_;refine Z0 (Z4 rfl (Zf rfl rfl) (gm.nx 5 hl)) rfl ?_;rintro _ wq ⟨-,hS,q',rfl,gB,gm⟩;replace aS:=aS.ext hS (by simp) (λ_ h=>.inl h);have cG:q'<ZiG.length:=by show q'<5;omega
 refine W ?_;refine Z0 (Z4 rfl (ZI rfl rfl rfl) (gm.nd 4 ZiG[q'] (Zk _ _))) rfl ?_;rintro _ wq ⟨-,hT,ky,rfl,hy,gm⟩;exact FN i d (.mk 4 0 ZiG[q'] []) gm bt bD hy (.fldN _ _ (Xd cG)) (by omega);by_cases k4:k=4;obtain ⟨e,rfl⟩:∃ e,d=e+1:=⟨d - 1,by omega⟩
 replace ih:=ih e rfl;have bB:=Z1e e;refine QO ?_;refine W ?_;refine Z0 (Z4 rfl (Zf rfl rfl) (gm.kd ih.1 hl)) rfl ?_;rintro _ wq ⟨-,hS,y0,i0,p0,c0,rfl,s0,g0,fC,gm⟩;refine W ?_;refine Z0 (gm.b1 s0 rfl) rfl ?_;rintro bv wq ⟨-,hT,an,gm⟩;refine W ?_;refine Z0 (Z4 rfl (ZI rfl rfl rfl) (gm.nd 5 [45] an)) rfl ?_;rintro _ wq ⟨-,hT,ky,rfl,hy,gm⟩;refine W ?_;exact FN i (e+1) (.mk 5 0 [45] [y0]) gm bt bD hy (.neg _ _ g0) (by omega);by_cases k5:k=5;obtain ⟨e,rfl⟩:∃ e,d=e+1:=⟨d - 1,by omega⟩
 replace ih:=ih e rfl;have bB:=Z1e e;refine QO ?_;refine W ?_;refine Z0 (Z4 rfl (Zf rfl rfl) (gm.kd ih.2.2 hl)) rfl ?_;rintro _ wq ⟨-,hS,y0,i0,p0,c0,rfl,s0,g0,fC,gm⟩;refine Z0 Z2 rfl ?_;rintro _ wq ⟨b0',rfl,bz,e0,hT⟩;refine SB (us:=ndC y0 _) (ZC s0) e0 ?_;rintro _ wq ⟨aq,e0⟩;replace hT:=JH hT bz aq;clear aq;have n0:b0'≠bm:=λh=>by have:=gm.mkr.lt;omega
 have n0':b0'≠b4:=λh=>by obtain ⟨_,_,hc⟩:=gm.blk;have:=hc.lt;omega
 replace gm:=gm.up hT;replace s0:=s0.up hT;clear hT bz;refine W ?_;refine ZDr 8 ([b4,bm]) [] [(0,1),(1,0),(2,0),(3,0),(4,2),(5,2),(6,2),(7,2)] (λw1 ae=>?_);have hT:=ae;replace gm:=gm.up hT;replace s0:=s0.up hT;replace e0:=e0.up hT;clear hT ae;refine WD_read rfl trivial (λw' aP=>ZW rfl rfl (e0.ext aP (by simp;exact ⟨n0',n0⟩)) rfl) rfl ?_;refine D ?_;refine Za rfl trivial (Z4 rfl (Zf rfl rfl) (gm.kd ih.2.2 hl)) (λ_ _ h=>h.1) rfl ?_;rintro _ wq ⟨-,hS,y1,i1,p1,c1,rfl,s1,g1,bN,gm⟩;replace s0:=s0.ext hS (by simp) (λ_ h=>.inl h);replace e0:=e0.ext hS (by simp;exact n0);refine D ?_;refine Za rfl trivial (gm.b2 s0 s1 rfl) (λ_ _ h=>h.1) rfl ?_;rintro bv wq ⟨-,hT,an,gm⟩;refine D ?_;refine Za rfl trivial (Z4 rfl (ZI rfl rfl rfl) (gm.nd 10 [98,101,116,119,101,101,110] an)) (λ_ _ h=>h.1) rfl ?_;rintro _ wq ⟨-,hT,ky,rfl,hy,gm⟩;refine D ?_;exact FN i (e+1) (.mk 10 0 [98,101,116,119,101,101,110] [y0,y1]) gm bt bD hy (.btw _ _ _ g0 g1) (by omega);by_cases k6:k=6;obtain ⟨e,rfl⟩:∃ e,d=e+1:=⟨d - 1,by omega⟩
 replace ih:=ih e rfl;have bB:=Z1e e;refine QO ?_;refine W ?_;refine Z0 (Z4 rfl (Zf rfl rfl) (gm.kd ih.2.1 hl)) rfl ?_;rintro _ wq ⟨-,hS,y0,i0,p0,c0,rfl,s0,g0,fC,gm⟩;refine Z0 Z2 rfl ?_;rintro _ wq ⟨b0',rfl,bz,e0,hT⟩;refine SB (us:=ndC y0 _) (ZC s0) e0 ?_;rintro _ wq ⟨aq,e0⟩;replace hT:=JH hT bz aq;clear aq;have n0:b0'≠bm:=λh=>by have:=gm.mkr.lt;omega
 have n0':b0'≠b4:=λh=>by obtain ⟨_,_,hc⟩:=gm.blk;have:=hc.lt;omega
 replace gm:=gm.up hT;replace s0:=s0.up hT;clear hT bz;refine W ?_;refine Z0 (Z4 rfl (Zf rfl rfl) (gm.kd ih.1 hl)) rfl ?_;rintro _ wq ⟨-,hS,y1,i1,p1,c1,rfl,s1,g1,bN,gm⟩;replace s0:=s0.ext hS (by simp) (λ_ h=>.inl h);replace e0:=e0.ext hS (by simp;exact n0);refine Z0 Z2 rfl ?_;rintro _ wq ⟨b1',rfl,iq,e1,hT⟩;refine SB (us:=ndC y1 _) (ZC s1) e1 ?_;rintro _ wq ⟨aq,e1⟩;replace hT:=JH hT iq aq;clear aq;have n1:b1'≠bm:=λh=>by have:=gm.mkr.lt;omega
 have n1':b1'≠b4:=λh=>by obtain ⟨_,_,hc⟩:=gm.blk;have:=hc.lt;omega
 replace gm:=gm.up hT;replace s0:=s0.up hT;replace e0:=e0.up hT;replace s1:=s1.up hT;clear hT iq;refine W ?_;refine ZDr 9 ([b4,bm]) [] [(0,1),(1,1),(2,0),(3,0),(4,0),(5,2),(6,2),(7,2),(8,2)] (λw1 ae=>?_);have hT:=ae;replace gm:=gm.up hT;replace s0:=s0.up hT;replace e0:=e0.up hT;replace s1:=s1.up hT;replace e1:=e1.up hT;clear hT ae;refine WD_read rfl trivial (λw' aP=>ZW rfl rfl (e0.ext aP (by simp;exact ⟨n0',n0⟩)) rfl) rfl ?_;refine WD_read rfl trivial (λw' aP=>ZW rfl rfl (e1.ext aP (by simp;exact ⟨n1',n1⟩)) rfl) rfl ?_;refine D ?_;refine Za rfl trivial (Z4 rfl (Zf rfl rfl) (gm.kd ih.1 hl)) (λ_ _ h=>h.1) rfl ?_;rintro _ wq ⟨-,hS,y2,i2,p2,c2,rfl,s2,g2,cn,gm⟩;replace s0:=s0.ext hS (by simp) (λ_ h=>.inl h);replace e0:=e0.ext hS (by simp;exact n0);replace s1:=s1.ext hS (by simp) (λ_ h=>.inl h);replace e1:=e1.ext hS (by simp;exact n1);refine D ?_;refine Za rfl trivial (gm.b3 s0 s1 s2 rfl) (λ_ _ h=>h.1) rfl ?_;rintro bv wq ⟨-,hT,an,gm⟩;refine D ?_;refine Za rfl trivial (Z4 rfl (ZI rfl rfl rfl) (gm.nd 9 [] an)) (λ_ _ h=>h.1) rfl ?_;rintro _ wq ⟨-,hT,ky,rfl,hy,gm⟩;refine D ?_;exact FN i (e+1) (.mk 9 0 [] [y0,y1,y2]) gm bt bD hy (.cond _ _ _ _ _ (by decide) g0 g1 g2) (by omega);obtain ⟨e,rfl⟩:∃ e,d=e+1:=⟨d - 1,by omega⟩
 replace ih:=ih e rfl;have bB:=Z1e e;refine QO ?_;refine W ?_;refine Z0 (Z4 rfl (Zf rfl rfl) (gm.kd ih.1 hl)) rfl ?_;rintro _ wq ⟨-,hS,y0,i0,p0,c0,rfl,s0,g0,fC,gm⟩;refine Z0 Z2 rfl ?_;rintro _ wq ⟨b0',rfl,bz,e0,hT⟩;refine SB (us:=ndC y0 _) (ZC s0) e0 ?_;rintro _ wq ⟨aq,e0⟩;replace hT:=JH hT bz aq;clear aq;have n0:b0'≠bm:=λh=>by have:=gm.mkr.lt;omega
 have n0':b0'≠b4:=λh=>by obtain ⟨_,_,hc⟩:=gm.blk;have:=hc.lt;omega
 replace gm:=gm.up hT;replace s0:=s0.up hT;clear hT bz;refine W ?_;refine Z4b 13 [b4,bm] [] rfl mixed (λw1 ae=>?_);have hT:=ae;replace gm:=gm.up hT;replace s0:=s0.up hT;replace e0:=e0.up hT;clear hT ae;refine JQ 1 rfl trivial (λw'=>ZM rfl) rfl (by kernel_rfl) (by kernel_rfl) ?_;refine Zae 5 rfl trivial (λw' aP=>ZW rfl rfl (e0.ext aP (by simp;exact ⟨n0',n0⟩)) rfl) rfl (by kernel_rfl) (by kernel_rfl) ?_;refine JQ 6 rfl trivial (λw'=>ZM rfl) rfl (by kernel_rfl) (by kernel_rfl) ?_;refine JQ 7 rfl trivial (λw'=>ZM rfl) rfl (by kernel_rfl) (by kernel_rfl) ?_;refine JQ 8 rfl trivial (λw'=>Z5T rfl rfl (by unfold I64;omega)) rfl (by kernel_rfl) (by kernel_rfl) ?_;refine Z1r 0 2 (by kernel_rfl) ?_ ?_;refine J7 rfl trivial (Z1 (vs:=[(0,str [43]),(1,str [45]),(2,str [42])]) rfl (bS3 _ _ _)) (λ_ _ h=>(Z9.stp h).mn) rfl ?_;rintro wv wq hN;have aS:SlV [b4,bm] wq wv Z0Q:=hN.slv (λc hc=>gm.hX c (by simp at hc;rcases hc with rfl|rfl<;>simp)) rfl rfl (by decide);have hT:=Z9.stp hN;clear hN;replace gm:=gm.up hT;replace s0:=s0.up hT;replace e0:=e0.up hT;clear hT;refine Z4x [(2,2),(3,0),(4,1),(9,2),(10,2),(11,2),(12,2)] (by kernel_rfl) (by kernel_rfl) (by kernel_rfl) ?_;refine Za rfl trivial (Z4 rfl (Zf rfl rfl) (gm.nx 3 hl)) (λ_ _ h=>h.1) rfl ?_;rintro _ wq ⟨-,hS,q,rfl,hq,gm⟩;replace s0:=s0.ext hS (by simp) (λ_ h=>.inl h);replace e0:=e0.ext hS (by simp;exact n0);replace aS:=aS.ext hS (by simp) (λ_ h=>.inl h);have cG:q<Z0Q.length:=by show q<3;omega
 refine D ?_;refine Za rfl trivial (Z4 rfl (Zf rfl rfl) (gm.kd ih.1 hl)) (λ_ _ h=>h.1) rfl ?_;rintro _ wq ⟨-,hS,y1,i1,p1,c1,rfl,s1,g1,bN,gm⟩;replace s0:=s0.ext hS (by simp) (λ_ h=>.inl h);replace e0:=e0.ext hS (by simp;exact n0);replace aS:=aS.ext hS (by simp) (λ_ h=>.inl h);refine D ?_;refine Za rfl trivial (gm.b2 s0 s1 rfl) (λ_ _ h=>h.1) rfl ?_;rintro bv wq ⟨-,hT,an,gm⟩;replace aS:=aS.up hT;refine D ?_;refine Za rfl trivial (Z4 rfl (ZI rfl rfl rfl) (gm.nd 6 Z0Q[q] an)) (λ_ _ h=>h.1) rfl ?_;rintro _ wq ⟨-,hT,ky,rfl,hy,gm⟩;refine D ?_;exact FN i (e+1) (.mk 6 0 Z0Q[q] [y0,y1]) gm bt bD hy (.arith _ _ _ _ (Xd cG) g0 g1) (by omega);refine J7 rfl trivial (Z4 rfl (Zf rfl rfl) (gm.nx 3 hl)) (λ_ _ h=>h.1) rfl ?_;rintro _ wq ⟨-,hS,q,rfl,hq,gm⟩;replace s0:=s0.ext hS (by simp) (λ_ h=>.inl h);replace e0:=e0.ext hS (by simp;exact n0);have cG:q<Z0Q.length:=by show q<3;omega
 refine Z1r 0 9 (by kernel_rfl) ?_ ?_;refine J7 rfl trivial (Z1 (vs:=[(0,str [43]),(1,str [45]),(2,str [42])]) rfl (bS3 _ _ _)) (λ_ _ h=>(Z9.stp h).mn) rfl ?_;rintro wv wq hN;have aS:SlV [b4,bm] wq wv Z0Q:=hN.slv (λc hc=>gm.hX c (by simp at hc;rcases hc with rfl|rfl<;>simp)) rfl rfl (by decide);have hT:=Z9.stp hN;clear hN;replace gm:=gm.up hT;replace s0:=s0.up hT;replace e0:=e0.up hT;clear hT;refine Z4x [(3,0),(4,1),(9,2),(10,2),(11,2),(12,2)] (by kernel_rfl) (by kernel_rfl) (by kernel_rfl) ?_;refine D ?_;refine Za rfl trivial (Z4 rfl (Zf rfl rfl) (gm.kd ih.1 hl)) (λ_ _ h=>h.1) rfl ?_;rintro _ wq ⟨-,hS,y1,i1,p1,c1,rfl,s1,g1,bN,gm⟩;replace s0:=s0.ext hS (by simp) (λ_ h=>.inl h);replace e0:=e0.ext hS (by simp;exact n0);replace aS:=aS.ext hS (by simp) (λ_ h=>.inl h);refine D ?_;refine Za rfl trivial (gm.b2 s0 s1 rfl) (λ_ _ h=>h.1) rfl ?_;rintro bv wq ⟨-,hT,an,gm⟩;replace aS:=aS.up hT;refine D ?_;refine Za rfl trivial (Z4 rfl (ZI rfl rfl rfl) (gm.nd 6 Z0Q[q] an)) (λ_ _ h=>h.1) rfl ?_;rintro _ wq ⟨-,hT,ky,rfl,hy,gm⟩;refine D ?_;exact FN i (e+1) (.mk 6 0 Z0Q[q] [y0,y1]) gm bt bD hy (.arith _ _ _ _ (Xd cG) g0 g1) (by omega);refine J7 rfl trivial (Z4 rfl (Zf rfl rfl) (gm.kd ih.1 hl)) (λ_ _ h=>h.1) rfl ?_;rintro _ wq ⟨-,hS,y1,i1,p1,c1,rfl,s1,g1,bN,gm⟩;replace s0:=s0.ext hS (by simp) (λ_ h=>.inl h);replace e0:=e0.ext hS (by simp;exact n0);refine Z1r 0 10 (by kernel_rfl) ?_ ?_;refine J7 rfl trivial (Z1 (vs:=[(0,str [43]),(1,str [45]),(2,str [42])]) rfl (bS3 _ _ _)) (λ_ _ h=>(Z9.stp h).mn) rfl ?_;rintro wv wq hN;have aS:SlV [b4,bm] wq wv Z0Q:=hN.slv (λc hc=>gm.hX c (by simp at hc;rcases hc with rfl|rfl<;>simp)) rfl rfl (by decide);have hT:=Z9.stp hN;clear hN;replace gm:=gm.up hT;replace s0:=s0.up hT;replace e0:=e0.up hT;replace s1:=s1.up hT;clear hT;refine Z4x [(3,0),(4,1),(10,2),(11,2),(12,2)] (by kernel_rfl) (by kernel_rfl) (by kernel_rfl) ?_;refine D ?_;refine D ?_;refine Za rfl trivial (gm.b2 s0 s1 rfl) (λ_ _ h=>h.1) rfl ?_;rintro bv wq ⟨-,hT,an,gm⟩;replace aS:=aS.up hT;refine D ?_;refine Za rfl trivial (Z4 rfl (ZI rfl rfl rfl) (gm.nd 6 Z0Q[q] an)) (λ_ _ h=>h.1) rfl ?_;rintro _ wq ⟨-,hT,ky,rfl,hy,gm⟩;refine D ?_;exact FN i (e+1) (.mk 6 0 Z0Q[q] [y0,y1]) gm bt bD hy (.arith _ _ _ _ (Xd cG) g0 g1) (by omega);refine J7 rfl trivial (gm.b2 s0 s1 rfl) (λ_ _ h=>h.1) rfl ?_;rintro bv wq ⟨-,hT,an,gm⟩;refine Z4x [(0,2),(3,0),(4,1),(11,2),(12,2)] (by kernel_rfl) (by kernel_rfl) (by kernel_rfl) ?_;refine Za rfl trivial (Z1 (vs:=[(0,str [43]),(1,str [45]),(2,str [42])]) rfl (bS3 _ _ _)) (λ_ _ h=>(Z9.stp h).mn) rfl ?_;rintro wv wq hN;have aS:SlV [b4,bm] wq wv Z0Q:=hN.slv (λc hc=>gm.hX c (by simp at hc;rcases hc with rfl|rfl<;>simp)) rfl rfl (by decide);have hT:=Z9.stp hN;clear hN;replace gm:=gm.up hT;replace an:=an.up hT;clear hT;refine D ?_;refine D ?_;refine D ?_;refine Za rfl trivial (Z4 rfl (ZI rfl rfl rfl) (gm.nd 6 Z0Q[q] an)) (λ_ _ h=>h.1) rfl ?_;rintro _ wq ⟨-,hT,ky,rfl,hy,gm⟩;refine D ?_;exact FN i (e+1) (.mk 6 0 Z0Q[q] [y0,y1]) gm bt bD hy (.arith _ _ _ _ (Xd cG) g0 g1) (by omega)
set_option maxHeartbeats 1000000
theorem Z7B (d:Nat) (sT:d<=6) (ih:∀ e,d=e+1->Z26 181 1 e/\Z26 104 2 e/\Z26 105 3 e):Z26 104 2 d:=by
 intro X w bm lv l i z hz aB ax hl hi hX;subst hz;have bE:szD (d+1)=1+3 * szD d:=rfl;refine cW2 80 Tryz.func104 ?_;refine W ?_;refine Z0 Z2 rfl ?_;rintro _ w1 ⟨b4,rfl,bD,bu,bt⟩;have gm:G3 (b4 :: bm :: X) w1 w1 bm b4 lv l i:=⟨aB.up bt,ax.up bt,Stp.refl _ _,⟨_,rfl,bu⟩,λh=>by have:=aB.lt;omega,λc hc=>by
  simp only [Xb] at hc;have h1:=bu.lt;have h2:=aB.lt;have h3:=bt.size;rcases hc with rfl|rfl|hc
  exact h1;omega;have:=hX c hc;omega⟩
 clear bu hX ax aB;refine W ?_;refine Z0 (Z4 rfl (Zf rfl rfl) (gm.nx 6 hl)) rfl ?_;rintro _ wq ⟨-,hS,q,rfl,hq,gm⟩;refine W ?_;refine Z0 (Z4 rfl (Zf rfl rfl) (Z5Z bm lv l _ d _ _ rfl gm.mkr gm.sl)) rfl ?_;rintro _ wq ⟨dn,rfl,aw,hT⟩;replace gm:=gm.up hT;clear hT;cases dn with
 | true=>
   refine QO ?_;apply Z7 (vs:=[(0,.int .i64 2),(1,.int .i64 (1 - (q:Int) / 5))]) rfl (Z3z _ _) rfl;have hy:SlV (α:=Nd) (b4 :: bm :: X) _ (.slice none 0 0) []:=Zk _ wq;exact FN i d (.mk 2 (1 - (q:Int) / 5) [] []) gm bt bD hy (.bool _ _ (by omega)) (by omega)
 | false=>
   have cO:d≠0:=λh=>absurd (aw h) (by decide)
   obtain ⟨e,rfl⟩:∃ e,d=e+1:=⟨d - 1,by omega⟩
   replace ih:=ih e rfl;have bB:=Z1e e;clear cO aw;by_cases k0:q=0;refine QO ?_;refine Z0 (Z4 rfl (Zf rfl rfl) (gm.nx 2 hl)) rfl ?_;rintro _ wq ⟨-,hS,q',rfl,gB,gm⟩;refine W ?_;apply Z7 (vs:=[(0,.int .i64 2),(1,.int .i64 _)]) rfl (Z3z _ _) rfl;have hy:SlV (α:=Nd) (b4 :: bm :: X) _ (.slice none 0 0) []:=Zk _ wq;exact FN i (e+1) (.mk 2 (q':Int) [] []) gm bt bD hy (.bool _ _ (by omega)) (by omega);by_cases k1:q=1;refine QO ?_;refine W ?_;refine Z0 (Z4 rfl (Zf rfl rfl) (gm.kd ih.2.1 hl)) rfl ?_;rintro _ wq ⟨-,hS,y0,i0,p0,c0,rfl,s0,g0,fC,gm⟩;refine W ?_;refine Z0 (gm.b1 s0 rfl) rfl ?_;rintro bv wq ⟨-,hT,an,gm⟩;refine W ?_;refine Z0 (Z4 rfl (ZI rfl rfl rfl) (gm.nd 5 [110,111,116] an)) rfl ?_;rintro _ wq ⟨-,hT,ky,rfl,hy,gm⟩;refine W ?_;exact FN i (e+1) (.mk 5 0 [110,111,116] [y0]) gm bt bD hy (.not _ _ g0) (by omega);by_cases k2:q=2;refine QO ?_;refine W ?_;refine Z0 (Z4 rfl (Zf rfl rfl) (gm.kd ih.2.1 hl)) rfl ?_;rintro _ wq ⟨-,hS,y0,i0,p0,c0,rfl,s0,g0,fC,gm⟩;refine Z0 Z2 rfl ?_;rintro _ wq ⟨b0',rfl,bz,e0,hT⟩;refine Z6 (Zi (us:=ndC y0 _) rfl rfl rfl rfl (ZC s0) e0 rfl) ?_;rintro _ wq ⟨aq,e0⟩;replace hT:=JH hT bz aq;clear aq;have n0:b0'≠bm:=λh=>by have:=gm.mkr.lt;omega
   have n0':b0'≠b4:=λh=>by obtain ⟨_,_,hc⟩:=gm.blk;have:=hc.lt;omega
   replace gm:=gm.up hT;replace s0:=s0.up hT;clear hT bz;refine W ?_;refine Z4b 13 [b4,bm] [] rfl mixed (λw1 ae=>?_);have hT:=ae;replace gm:=gm.up hT;replace s0:=s0.up hT;replace e0:=e0.up hT;clear hT ae;refine JQ 1 rfl trivial (λw'=>ZM rfl) rfl (by kernel_rfl) (by kernel_rfl) ?_;refine Zae 5 rfl trivial (λw' aP=>ZW rfl rfl (e0.ext aP (by simp;exact ⟨n0',n0⟩)) rfl) rfl (by kernel_rfl) (by kernel_rfl) ?_;refine JQ 6 rfl trivial (λw'=>ZM rfl) rfl (by kernel_rfl) (by kernel_rfl) ?_;refine JQ 7 rfl trivial (λw'=>ZM rfl) rfl (by kernel_rfl) (by kernel_rfl) ?_;refine JQ 8 rfl trivial (λw'=>Z5T rfl rfl (by unfold I64;omega)) rfl (by kernel_rfl) (by kernel_rfl) ?_;refine Z1r 0 2 (by kernel_rfl) ?_ ?_;refine J7 rfl trivial (Z1 (vs:=[(0,str [97,110,100]),(1,str [111,114])]) rfl (bS2 _ _)) (λ_ _ h=>(Z9.stp h).mono (by simp)) rfl ?_;rintro wv wq hN;have aS:SlV [b4,bm] wq wv Z0D:=hN.slv (λc hc=>gm.hX c (by simp at hc;rcases hc with rfl|rfl<;>simp)) rfl rfl (by decide);have hT:=Z9.stp hN;clear hN;replace gm:=gm.up hT;replace s0:=s0.up hT;replace e0:=e0.up hT;clear hT;refine Z4x [(2,2),(3,0),(4,1),(9,2),(10,2),(11,2),(12,2)] (by kernel_rfl) (by kernel_rfl) (by kernel_rfl) ?_;refine Za rfl trivial (Z4 rfl (Zf rfl rfl) (gm.nx 2 hl)) (λ_ _ h=>h.1) rfl ?_;rintro _ wq ⟨-,hS,q,rfl,hq,gm⟩;replace s0:=s0.ext hS (by simp) (λ_ h=>.inl h);replace e0:=e0.ext hS (by simp;exact n0);replace aS:=aS.ext hS (by simp) (λ_ h=>.inl h);have cG:q<Z0D.length:=by show q<2;omega
   refine D ?_;refine Za rfl trivial (Z4 rfl (Zf rfl rfl) (gm.kd ih.2.1 hl)) (λ_ _ h=>h.1) rfl ?_;rintro _ wq ⟨-,hS,y1,i1,p1,c1,rfl,s1,g1,bN,gm⟩;replace s0:=s0.ext hS (by simp) (λ_ h=>.inl h);replace e0:=e0.ext hS (by simp;exact n0);replace aS:=aS.ext hS (by simp) (λ_ h=>.inl h);refine D ?_;refine Za rfl trivial (gm.b2 s0 s1 rfl) (λ_ _ h=>h.1) rfl ?_;rintro bv wq ⟨-,hT,an,gm⟩;replace aS:=aS.up hT;refine D ?_;refine Za rfl trivial (Z4 rfl (ZI rfl rfl rfl) (gm.nd 6 Z0D[q] an)) (λ_ _ h=>h.1) rfl ?_;rintro _ wq ⟨-,hT,ky,rfl,hy,gm⟩;refine D ?_;exact FN i (e+1) (.mk 6 0 Z0D[q] [y0,y1]) gm bt bD hy (.logic _ _ _ _ (Xd cG) g0 g1) (by omega);refine J7 rfl trivial (Z4 rfl (Zf rfl rfl) (gm.nx 2 hl)) (λ_ _ h=>h.1) rfl ?_;rintro _ wq ⟨-,hS,q,rfl,hq,gm⟩;replace s0:=s0.ext hS (by simp) (λ_ h=>.inl h);replace e0:=e0.ext hS (by simp;exact n0);have cG:q<Z0D.length:=by show q<2;omega
   refine Z1r 0 9 (by kernel_rfl) ?_ ?_;refine J7 rfl trivial (Z1 (vs:=[(0,str [97,110,100]),(1,str [111,114])]) rfl (bS2 _ _)) (λ_ _ h=>(Z9.stp h).mono (by simp)) rfl ?_;rintro wv wq hN;have aS:SlV [b4,bm] wq wv Z0D:=hN.slv (λc hc=>gm.hX c (by simp at hc;rcases hc with rfl|rfl<;>simp)) rfl rfl (by decide);have hT:=Z9.stp hN;clear hN;replace gm:=gm.up hT;replace s0:=s0.up hT;replace e0:=e0.up hT;clear hT;refine Z4x [(3,0),(4,1),(9,2),(10,2),(11,2),(12,2)] (by kernel_rfl) (by kernel_rfl) (by kernel_rfl) ?_;refine D ?_;refine Za rfl trivial (Z4 rfl (Zf rfl rfl) (gm.kd ih.2.1 hl)) (λ_ _ h=>h.1) rfl ?_;rintro _ wq ⟨-,hS,y1,i1,p1,c1,rfl,s1,g1,bN,gm⟩;replace s0:=s0.ext hS (by simp) (λ_ h=>.inl h);replace e0:=e0.ext hS (by simp;exact n0);replace aS:=aS.ext hS (by simp) (λ_ h=>.inl h);refine D ?_;refine Za rfl trivial (gm.b2 s0 s1 rfl) (λ_ _ h=>h.1) rfl ?_;rintro bv wq ⟨-,hT,an,gm⟩;replace aS:=aS.up hT;refine D ?_;refine Za rfl trivial (Z4 rfl (ZI rfl rfl rfl) (gm.nd 6 Z0D[q] an)) (λ_ _ h=>h.1) rfl ?_;rintro _ wq ⟨-,hT,ky,rfl,hy,gm⟩;refine D ?_;exact FN i (e+1) (.mk 6 0 Z0D[q] [y0,y1]) gm bt bD hy (.logic _ _ _ _ (Xd cG) g0 g1) (by omega);refine J7 rfl trivial (Z4 rfl (Zf rfl rfl) (gm.kd ih.2.1 hl)) (λ_ _ h=>h.1) rfl ?_;rintro _ wq ⟨-,hS,y1,i1,p1,c1,rfl,s1,g1,bN,gm⟩;replace s0:=s0.ext hS (by simp) (λ_ h=>.inl h);replace e0:=e0.ext hS (by simp;exact n0);refine Z1r 0 10 (by kernel_rfl) ?_ ?_;refine J7 rfl trivial (Z1 (vs:=[(0,str [97,110,100]),(1,str [111,114])]) rfl (bS2 _ _)) (λ_ _ h=>(Z9.stp h).mono (by simp)) rfl ?_;rintro wv wq hN;have aS:SlV [b4,bm] wq wv Z0D:=hN.slv (λc hc=>gm.hX c (by simp at hc;rcases hc with rfl|rfl<;>simp)) rfl rfl (by decide);have hT:=Z9.stp hN;clear hN;replace gm:=gm.up hT;replace s0:=s0.up hT;replace e0:=e0.up hT;replace s1:=s1.up hT;clear hT;refine Z4x [(3,0),(4,1),(10,2),(11,2),(12,2)] (by kernel_rfl) (by kernel_rfl) (by kernel_rfl) ?_;refine D ?_;refine D ?_;refine Za rfl trivial (gm.b2 s0 s1 rfl) (λ_ _ h=>h.1) rfl ?_;rintro bv wq ⟨-,hT,an,gm⟩;replace aS:=aS.up hT;refine D ?_;refine Za rfl trivial (Z4 rfl (ZI rfl rfl rfl) (gm.nd 6 Z0D[q] an)) (λ_ _ h=>h.1) rfl ?_;rintro _ wq ⟨-,hT,ky,rfl,hy,gm⟩;refine D ?_;exact FN i (e+1) (.mk 6 0 Z0D[q] [y0,y1]) gm bt bD hy (.logic _ _ _ _ (Xd cG) g0 g1) (by omega);refine J7 rfl trivial (gm.b2 s0 s1 rfl) (λ_ _ h=>h.1) rfl ?_;rintro bv wq ⟨-,hT,an,gm⟩;refine Z4x [(0,2),(3,0),(4,1),(11,2),(12,2)] (by kernel_rfl) (by kernel_rfl) (by kernel_rfl) ?_;refine Za rfl trivial (Z1 (vs:=[(0,str [97,110,100]),(1,str [111,114])]) rfl (bS2 _ _)) (λ_ _ h=>(Z9.stp h).mono (by simp)) rfl ?_;rintro wv wq hN;have aS:SlV [b4,bm] wq wv Z0D:=hN.slv (λc hc=>gm.hX c (by simp at hc;rcases hc with rfl|rfl<;>simp)) rfl rfl (by decide);have hT:=Z9.stp hN;clear hN;replace gm:=gm.up hT;replace an:=an.up hT;clear hT;refine D ?_;refine D ?_;refine D ?_;refine Za rfl trivial (Z4 rfl (ZI rfl rfl rfl) (gm.nd 6 Z0D[q] an)) (λ_ _ h=>h.1) rfl ?_;rintro _ wq ⟨-,hT,ky,rfl,hy,gm⟩;refine D ?_;exact FN i (e+1) (.mk 6 0 Z0D[q] [y0,y1]) gm bt bD hy (.logic _ _ _ _ (Xd cG) g0 g1) (by omega);by_cases k3:q=3;refine QO ?_;refine W ?_;refine Z0 (Z4 rfl (Zf rfl rfl) (gm.kd ih.2.2 hl)) rfl ?_;rintro _ wq ⟨-,hS,y0,i0,p0,c0,rfl,s0,g0,fC,gm⟩;refine Z0 Z2 rfl ?_;rintro _ wq ⟨b0',rfl,bz,e0,hT⟩;refine Z6 (Zi (us:=ndC y0 _) rfl rfl rfl rfl (ZC s0) e0 rfl) ?_;rintro _ wq ⟨aq,e0⟩;replace hT:=JH hT bz aq;clear aq;have n0:b0'≠bm:=λh=>by have:=gm.mkr.lt;omega
   have n0':b0'≠b4:=λh=>by obtain ⟨_,_,hc⟩:=gm.blk;have:=hc.lt;omega
   replace gm:=gm.up hT;replace s0:=s0.up hT;clear hT bz;refine W ?_;refine ZDr 11 ([b4,bm]) [] [(0,0),(3,1),(4,0),(5,0),(6,0),(1,2),(2,2),(7,2),(8,2),(9,2),(10,2)] (λw1 ae=>?_);have hT:=ae;replace gm:=gm.up hT;replace s0:=s0.up hT;replace e0:=e0.up hT;clear hT ae;refine D ?_;refine Za rfl trivial (Z4 rfl (Zf rfl rfl) (gm.nx 6 hl)) (λ_ _ h=>h.1) rfl ?_;rintro _ wq ⟨-,hS,q',rfl,gB,gm⟩;replace s0:=s0.ext hS (by simp) (λ_ h=>.inl h);replace e0:=e0.ext hS (by simp;exact n0);refine D ?_;refine Za rfl trivial (Z4 rfl (ZN rfl) (Z5f q' _ (by omega))) (λ_ _ h=>h.2.mono (by simp)) rfl ?_;rintro _ wq ⟨⟨op,fD,rfl⟩,hT⟩;replace gm:=gm.up hT;replace s0:=s0.up hT;replace e0:=e0.up hT;clear hT;refine D ?_;refine Za rfl trivial (Z4 rfl (Zf rfl rfl) (gm.kd ih.2.2 hl)) (λ_ _ h=>h.1) rfl ?_;rintro _ wq ⟨-,hS,y1,i1,p1,c1,rfl,s1,g1,bN,gm⟩;replace s0:=s0.ext hS (by simp) (λ_ h=>.inl h);replace e0:=e0.ext hS (by simp;exact n0);refine D ?_;refine Za rfl trivial (gm.b2 s0 s1 rfl) (λ_ _ h=>h.1) rfl ?_;rintro bv wq ⟨-,hT,an,gm⟩;refine D ?_;refine Za rfl trivial (Z4 rfl (ZI rfl rfl rfl) (gm.nd 6 op an)) (λ_ _ h=>h.1) rfl ?_;rintro _ wq ⟨-,hT,ky,rfl,hy,gm⟩;refine D ?_;exact FN i (e+1) (.mk 6 0 op [y0,y1]) gm bt bD hy (.cmp _ 3 _ _ _ (by decide) fD g0 g1) (by omega);refine QO ?_;refine W ?_;refine Z0 (Z4 rfl (Zf rfl rfl) (gm.kd ih.1 hl)) rfl ?_;rintro _ wq ⟨-,hS,y0,i0,p0,c0,rfl,s0,g0,fC,gm⟩;refine Z0 Z2 rfl ?_;rintro _ wq ⟨b0',rfl,bz,e0,hT⟩;refine Z6 (Zi (us:=ndC y0 _) rfl rfl rfl rfl (ZC s0) e0 rfl) ?_;rintro _ wq ⟨aq,e0⟩;replace hT:=JH hT bz aq;clear aq;have n0:b0'≠bm:=λh=>by have:=gm.mkr.lt;omega
   have n0':b0'≠b4:=λh=>by obtain ⟨_,_,hc⟩:=gm.blk;have:=hc.lt;omega
   replace gm:=gm.up hT;replace s0:=s0.up hT;clear hT bz;refine W ?_;refine ZDr 11 ([b4,bm]) [] [(0,0),(3,1),(4,0),(5,0),(6,0),(1,2),(2,2),(7,2),(8,2),(9,2),(10,2)] (λw1 ae=>?_);have hT:=ae;replace gm:=gm.up hT;replace s0:=s0.up hT;replace e0:=e0.up hT;clear hT ae;refine D ?_;refine Za rfl trivial (Z4 rfl (Zf rfl rfl) (gm.nx 6 hl)) (λ_ _ h=>h.1) rfl ?_;rintro _ wq ⟨-,hS,q',rfl,gB,gm⟩;replace s0:=s0.ext hS (by simp) (λ_ h=>.inl h);replace e0:=e0.ext hS (by simp;exact n0);refine D ?_;refine Za rfl trivial (Z4 rfl (ZN rfl) (Z5f q' _ (by omega))) (λ_ _ h=>h.2.mono (by simp)) rfl ?_;rintro _ wq ⟨⟨op,fD,rfl⟩,hT⟩;replace gm:=gm.up hT;replace s0:=s0.up hT;replace e0:=e0.up hT;clear hT;refine D ?_;refine Za rfl trivial (Z4 rfl (Zf rfl rfl) (gm.kd ih.1 hl)) (λ_ _ h=>h.1) rfl ?_;rintro _ wq ⟨-,hS,y1,i1,p1,c1,rfl,s1,g1,bN,gm⟩;replace s0:=s0.ext hS (by simp) (λ_ h=>.inl h);replace e0:=e0.ext hS (by simp;exact n0);refine D ?_;refine Za rfl trivial (gm.b2 s0 s1 rfl) (λ_ _ h=>h.1) rfl ?_;rintro bv wq ⟨-,hT,an,gm⟩;refine D ?_;refine Za rfl trivial (Z4 rfl (ZI rfl rfl rfl) (gm.nd 6 op an)) (λ_ _ h=>h.1) rfl ?_;rintro _ wq ⟨-,hT,ky,rfl,hy,gm⟩;refine D ?_;exact FN i (e+1) (.mk 6 0 op [y0,y1]) gm bt bD hy (.cmp _ 1 _ _ _ (by decide) fD g0 g1) (by omega)
set_option maxHeartbeats 1000000
def Z7C:List Str:=[[100,97,121,115],[100,97,121,115],[99,111,117,114,116,100,97,121,115],[119,101,101,107,115],[109,111,110,116,104,115]]
theorem Zdm:∀ s∈Z7C,s∈J1:=by decide
theorem Z7D (d:Nat) (sT:d<=6) (ih:∀ e,d=e+1->Z26 181 1 e/\Z26 104 2 e/\Z26 105 3 e):Z26 105 3 d:=by
 intro X w bm lv l i z hz aB ax hl hi hX;subst hz;have bE:szD (d+1)=1+3 * szD d:=rfl;refine cW2 107 Tryz.func105 ?_;refine W ?_;refine Z0 Z2 rfl ?_;rintro _ w1 ⟨b4,rfl,bD,bu,bt⟩;have gm:G3 (b4 :: bm :: X) w1 w1 bm b4 lv l i:=⟨aB.up bt,ax.up bt,Stp.refl _ _,⟨_,rfl,bu⟩,λh=>by have:=aB.lt;omega,λc hc=>by
  simp only [Xb] at hc;have h1:=bu.lt;have h2:=aB.lt;have h3:=bt.size;rcases hc with rfl|rfl|hc
  exact h1;omega;have:=hX c hc;omega⟩
 clear bu hX ax aB;refine W ?_;refine Z0 (Z4 rfl (Zf rfl rfl) (gm.nx 10 hl)) rfl ?_;rintro _ wq ⟨-,hS,q,rfl,hq,gm⟩;refine W ?_;refine Z0 (Z4 rfl (Zf rfl rfl) (Z5Z bm lv l _ d _ _ rfl gm.mkr gm.sl)) rfl ?_;rintro _ wq ⟨dn,rfl,aw,hT⟩;replace gm:=gm.up hT;clear hT;refine W ?_;refine JE (σ:=Nat) (λk=>[(0,pQ bm),(1,.I (d:Int)),(4,pQ b4),(5,.I (k:Int))]) (λk w'=>w'=wq/\k<10/\(d=0->k<4)) ?_ ?_
 . cases dn with
   | true=>
     refine QO ?_;exact ZA (q % 4) ⟨rfl,rfl,rfl,rfl,trivial⟩ ⟨rfl,by omega,λ_=>by omega⟩
   | false=>
     refine QO ?_;exact ZA q ⟨rfl,rfl,rfl,rfl,trivial⟩ ⟨rfl,by omega,λh=>absurd (aw h) (by decide)⟩
 rintro k w3 ⟨rfl,mQ,bG⟩;clear hq aw;by_cases k0:k<=1
 . (refine QP ?_ ?_<;>intro hc)
   all_goals
    refine Z0 (Z4 rfl (ZI rfl rfl rfl) (gm.nd 4 [100,97,121] (Zk _ _))) rfl ?_;rintro _ wq ⟨-,hT,ky,rfl,hy,gm⟩;exact FN i d (.mk 4 0 [100,97,121] []) gm bt bD hy (.fldD _ _ (by decide)) (by omega)
 by_cases k2:k=2;refine QO ?_;refine Z0 (Z1 (vs:=[(0,str [100,97,121]),(1,str [115,101,114,118,101,100])]) rfl (bS2 _ _)) rfl ?_;rintro wv wq hN;have aS:SlV [bm] wq wv Zbp:=hN.slv (λc hc=>gm.hX c (by simp at hc;subst hc;simp)) rfl rfl (by decide);have hT:=Z9.stp hN;clear hN;replace gm:=gm.up hT;clear hT;refine W ?_;refine Z0 (Z4 rfl (Zf rfl rfl) (gm.nx 2 hl)) rfl ?_;rintro _ wq ⟨-,hS,q',rfl,gB,gm⟩;replace aS:=aS.ext hS (by simp) (λ_ h=>.inl h);have cG:q'<Zbp.length:=by show q'<2;omega
 refine W ?_;refine Z0 (Z4 rfl (ZI rfl rfl rfl) (gm.nd 4 Zbp[q'] (Zk _ _))) rfl ?_;rintro _ wq ⟨-,hT,ky,rfl,hy,gm⟩;exact FN i d (.mk 4 0 Zbp[q'] []) gm bt bD hy (.fldD _ _ (Xd cG)) (by omega);by_cases k3:k=3;refine QO ?_;refine Z0 (Z4 rfl (Zf rfl rfl) (gm.nx 60 hl)) rfl ?_;rintro _ wq ⟨-,hS,q',rfl,gB,gm⟩;refine W ?_;apply Z7 (vs:=[(0,.I 3),(1,.I _)]) rfl (Z3z _ _) rfl;have hy:SlV (α:=Nd) (b4 :: bm :: X) _ (.N) []:=Zk _ wq;exact FN i d (.mk 3 (739616+(q':Int)) [] []) gm bt bD hy (.day _ _ (by omega)) (by omega);by_cases k4:k=4;obtain ⟨e,rfl⟩:∃ e,d=e+1:=⟨d - 1,by omega⟩
 replace ih:=ih e rfl;have bB:=Z1e e;refine QO ?_;refine Z4b 12 [b4,bm] [] rfl mixed (λw1 ae=>?_);have hT:=ae;replace gm:=gm.up hT;clear hT ae;refine JQ 1 rfl trivial (λw'=>ZM rfl) rfl (by kernel_rfl) (by kernel_rfl) ?_;refine JQ 5 rfl trivial (λw'=>ZM rfl) rfl (by kernel_rfl) (by kernel_rfl) ?_;refine JQ 6 rfl trivial (λw'=>ZM rfl) rfl (by kernel_rfl) (by kernel_rfl) ?_;refine JQ 7 rfl trivial (λw'=>Z5T rfl rfl (by unfold I64;omega)) rfl (by kernel_rfl) (by kernel_rfl) ?_;refine Z1r 0 2 (by kernel_rfl) ?_ ?_;refine J7 rfl trivial (Z1 (vs:=[(0,str [110,101,120,116]),(1,str [112,114,101,118])]) rfl (bS2 _ _)) (λ_ _ h=>(Z9.stp h).mn) rfl ?_;rintro wv wq hN;have aS:SlV [b4,bm] wq wv Z2n:=hN.slv (λc hc=>gm.hX c (by simp at hc;rcases hc with rfl|rfl<;>simp)) rfl rfl (by decide);have hT:=Z9.stp hN;clear hN;replace gm:=gm.up hT;clear hT;refine Z4x [(2,2),(3,0),(4,1),(8,2),(9,2),(10,2),(11,2)] (by kernel_rfl) (by kernel_rfl) (by kernel_rfl) ?_;refine Za rfl trivial (Z4 rfl (Zf rfl rfl) (gm.nx 2 hl)) (λ_ _ h=>h.1) rfl ?_;rintro _ wq ⟨-,hS,q,rfl,hq,gm⟩;replace aS:=aS.ext hS (by simp) (λ_ h=>.inl h);have cG:q<Z2n.length:=by show q<2;omega
 refine D ?_;refine Za rfl trivial (Z4 rfl (Zf rfl rfl) (gm.kd ih.2.2 hl)) (λ_ _ h=>h.1) rfl ?_;rintro _ wq ⟨-,hS,y0,i0,p0,c0,rfl,s0,g0,fC,gm⟩;replace aS:=aS.ext hS (by simp) (λ_ h=>.inl h);refine D ?_;refine Za rfl trivial (gm.b1 s0 rfl) (λ_ _ h=>h.1) rfl ?_;rintro bv wq ⟨-,hT,an,gm⟩;replace aS:=aS.up hT;refine D ?_;refine Za rfl trivial (Z4 rfl (ZI rfl rfl rfl) (gm.nd 10 Z2n[q] an)) (λ_ _ h=>h.1) rfl ?_;rintro _ wq ⟨-,hT,ky,rfl,hy,gm⟩;refine D ?_;exact FN i (e+1) (.mk 10 0 Z2n[q] [y0]) gm bt bD hy (.adj _ _ _ (Xd cG) g0) (by omega);refine J7 rfl trivial (Z4 rfl (Zf rfl rfl) (gm.nx 2 hl)) (λ_ _ h=>h.1) rfl ?_;rintro _ wq ⟨-,hS,q,rfl,hq,gm⟩;have cG:q<Z2n.length:=by show q<2;omega
 refine Z1r 0 8 (by kernel_rfl) ?_ ?_;refine J7 rfl trivial (Z1 (vs:=[(0,str [110,101,120,116]),(1,str [112,114,101,118])]) rfl (bS2 _ _)) (λ_ _ h=>(Z9.stp h).mn) rfl ?_;rintro wv wq hN;have aS:SlV [b4,bm] wq wv Z2n:=hN.slv (λc hc=>gm.hX c (by simp at hc;rcases hc with rfl|rfl<;>simp)) rfl rfl (by decide);have hT:=Z9.stp hN;clear hN;replace gm:=gm.up hT;clear hT;refine Z4x [(3,0),(4,1),(8,2),(9,2),(10,2),(11,2)] (by kernel_rfl) (by kernel_rfl) (by kernel_rfl) ?_;refine D ?_;refine Za rfl trivial (Z4 rfl (Zf rfl rfl) (gm.kd ih.2.2 hl)) (λ_ _ h=>h.1) rfl ?_;rintro _ wq ⟨-,hS,y0,i0,p0,c0,rfl,s0,g0,fC,gm⟩;replace aS:=aS.ext hS (by simp) (λ_ h=>.inl h);refine D ?_;refine Za rfl trivial (gm.b1 s0 rfl) (λ_ _ h=>h.1) rfl ?_;rintro bv wq ⟨-,hT,an,gm⟩;replace aS:=aS.up hT;refine D ?_;refine Za rfl trivial (Z4 rfl (ZI rfl rfl rfl) (gm.nd 10 Z2n[q] an)) (λ_ _ h=>h.1) rfl ?_;rintro _ wq ⟨-,hT,ky,rfl,hy,gm⟩;refine D ?_;exact FN i (e+1) (.mk 10 0 Z2n[q] [y0]) gm bt bD hy (.adj _ _ _ (Xd cG) g0) (by omega);refine J7 rfl trivial (Z4 rfl (Zf rfl rfl) (gm.kd ih.2.2 hl)) (λ_ _ h=>h.1) rfl ?_;rintro _ wq ⟨-,hS,y0,i0,p0,c0,rfl,s0,g0,fC,gm⟩;refine Z1r 0 9 (by kernel_rfl) ?_ ?_;refine J7 rfl trivial (Z1 (vs:=[(0,str [110,101,120,116]),(1,str [112,114,101,118])]) rfl (bS2 _ _)) (λ_ _ h=>(Z9.stp h).mn) rfl ?_;rintro wv wq hN;have aS:SlV [b4,bm] wq wv Z2n:=hN.slv (λc hc=>gm.hX c (by simp at hc;rcases hc with rfl|rfl<;>simp)) rfl rfl (by decide);have hT:=Z9.stp hN;clear hN;replace gm:=gm.up hT;replace s0:=s0.up hT;clear hT;refine Z4x [(3,0),(4,1),(9,2),(10,2),(11,2)] (by kernel_rfl) (by kernel_rfl) (by kernel_rfl) ?_;refine D ?_;refine D ?_;refine Za rfl trivial (gm.b1 s0 rfl) (λ_ _ h=>h.1) rfl ?_;rintro bv wq ⟨-,hT,an,gm⟩;replace aS:=aS.up hT;refine D ?_;refine Za rfl trivial (Z4 rfl (ZI rfl rfl rfl) (gm.nd 10 Z2n[q] an)) (λ_ _ h=>h.1) rfl ?_;rintro _ wq ⟨-,hT,ky,rfl,hy,gm⟩;refine D ?_;exact FN i (e+1) (.mk 10 0 Z2n[q] [y0]) gm bt bD hy (.adj _ _ _ (Xd cG) g0) (by omega);refine J7 rfl trivial (gm.b1 s0 rfl) (λ_ _ h=>h.1) rfl ?_;rintro bv wq ⟨-,hT,an,gm⟩;refine Z4x [(0,2),(3,0),(4,1),(10,2),(11,2)] (by kernel_rfl) (by kernel_rfl) (by kernel_rfl) ?_;refine Za rfl trivial (Z1 (vs:=[(0,str [110,101,120,116]),(1,str [112,114,101,118])]) rfl (bS2 _ _)) (λ_ _ h=>(Z9.stp h).mn) rfl ?_;rintro wv wq hN;have aS:SlV [b4,bm] wq wv Z2n:=hN.slv (λc hc=>gm.hX c (by simp at hc;rcases hc with rfl|rfl<;>simp)) rfl rfl (by decide);have hT:=Z9.stp hN;clear hN;replace gm:=gm.up hT;replace an:=an.up hT;clear hT;refine D ?_;refine D ?_;refine D ?_;refine Za rfl trivial (Z4 rfl (ZI rfl rfl rfl) (gm.nd 10 Z2n[q] an)) (λ_ _ h=>h.1) rfl ?_;rintro _ wq ⟨-,hT,ky,rfl,hy,gm⟩;refine D ?_;exact FN i (e+1) (.mk 10 0 Z2n[q] [y0]) gm bt bD hy (.adj _ _ _ (Xd cG) g0) (by omega);by_cases k5:k=5;obtain ⟨e,rfl⟩:∃ e,d=e+1:=⟨d - 1,by omega⟩
 replace ih:=ih e rfl;have bB:=Z1e e;refine QO ?_;refine W ?_;refine Z0 (Z4 rfl (Zf rfl rfl) (gm.kd ih.2.2 hl)) rfl ?_;rintro _ wq ⟨-,hS,y0,i0,p0,c0,rfl,s0,g0,fC,gm⟩;refine Z0 Z2 rfl ?_;rintro _ wq ⟨b0',rfl,bz,e0,hT⟩;refine SB (us:=ndC y0 _) (ZC s0) e0 ?_;rintro _ wq ⟨aq,e0⟩;replace hT:=JH hT bz aq;clear aq;have n0:b0'≠bm:=λh=>by have:=gm.mkr.lt;omega
 have n0':b0'≠b4:=λh=>by obtain ⟨_,_,hc⟩:=gm.blk;have:=hc.lt;omega
 replace gm:=gm.up hT;replace s0:=s0.up hT;clear hT bz;refine W ?_;refine Z4b 13 [b4,bm] [] rfl mixed (λw1 ae=>?_);have hT:=ae;replace gm:=gm.up hT;replace s0:=s0.up hT;replace e0:=e0.up hT;clear hT ae;refine JQ 1 rfl trivial (λw'=>ZM rfl) rfl (by kernel_rfl) (by kernel_rfl) ?_;refine Zae 5 rfl trivial (λw' aP=>ZW rfl rfl (e0.ext aP (by simp;exact ⟨n0',n0⟩)) rfl) rfl (by kernel_rfl) (by kernel_rfl) ?_;refine JQ 6 rfl trivial (λw'=>ZM rfl) rfl (by kernel_rfl) (by kernel_rfl) ?_;refine JQ 7 rfl trivial (λw'=>ZM rfl) rfl (by kernel_rfl) (by kernel_rfl) ?_;refine JQ 8 rfl trivial (λw'=>Z5T rfl rfl (by unfold I64;omega)) rfl (by kernel_rfl) (by kernel_rfl) ?_;refine Z1r 0 2 (by kernel_rfl) ?_ ?_;refine J7 rfl trivial (Z1 (vs:=[(0,str [108,97,116,101,114]),(1,str [101,97,114,108,105,101,114])]) rfl (bS2 _ _)) (λ_ _ h=>(Z9.stp h).mn) rfl ?_;rintro wv wq hN;have aS:SlV [b4,bm] wq wv Z2o:=hN.slv (λc hc=>gm.hX c (by simp at hc;rcases hc with rfl|rfl<;>simp)) rfl rfl (by decide);have hT:=Z9.stp hN;clear hN;replace gm:=gm.up hT;replace s0:=s0.up hT;replace e0:=e0.up hT;clear hT;refine Z4x [(2,2),(3,0),(4,1),(9,2),(10,2),(11,2),(12,2)] (by kernel_rfl) (by kernel_rfl) (by kernel_rfl) ?_;refine Za rfl trivial (Z4 rfl (Zf rfl rfl) (gm.nx 2 hl)) (λ_ _ h=>h.1) rfl ?_;rintro _ wq ⟨-,hS,q,rfl,hq,gm⟩;replace s0:=s0.ext hS (by simp) (λ_ h=>.inl h);replace e0:=e0.ext hS (by simp;exact n0);replace aS:=aS.ext hS (by simp) (λ_ h=>.inl h);have cG:q<Z2o.length:=by show q<2;omega
 refine D ?_;refine Za rfl trivial (Z4 rfl (Zf rfl rfl) (gm.kd ih.2.2 hl)) (λ_ _ h=>h.1) rfl ?_;rintro _ wq ⟨-,hS,y1,i1,p1,c1,rfl,s1,g1,bN,gm⟩;replace s0:=s0.ext hS (by simp) (λ_ h=>.inl h);replace e0:=e0.ext hS (by simp;exact n0);replace aS:=aS.ext hS (by simp) (λ_ h=>.inl h);refine D ?_;refine Za rfl trivial (gm.b2 s0 s1 rfl) (λ_ _ h=>h.1) rfl ?_;rintro bv wq ⟨-,hT,an,gm⟩;replace aS:=aS.up hT;refine D ?_;refine Za rfl trivial (Z4 rfl (ZI rfl rfl rfl) (gm.nd 10 Z2o[q] an)) (λ_ _ h=>h.1) rfl ?_;rintro _ wq ⟨-,hT,ky,rfl,hy,gm⟩;refine D ?_;exact FN i (e+1) (.mk 10 0 Z2o[q] [y0,y1]) gm bt bD hy (.two _ _ _ _ (Xd cG) g0 g1) (by omega);refine J7 rfl trivial (Z4 rfl (Zf rfl rfl) (gm.nx 2 hl)) (λ_ _ h=>h.1) rfl ?_;rintro _ wq ⟨-,hS,q,rfl,hq,gm⟩;replace s0:=s0.ext hS (by simp) (λ_ h=>.inl h);replace e0:=e0.ext hS (by simp;exact n0);have cG:q<Z2o.length:=by show q<2;omega
 refine Z1r 0 9 (by kernel_rfl) ?_ ?_;refine J7 rfl trivial (Z1 (vs:=[(0,str [108,97,116,101,114]),(1,str [101,97,114,108,105,101,114])]) rfl (bS2 _ _)) (λ_ _ h=>(Z9.stp h).mn) rfl ?_;rintro wv wq hN;have aS:SlV [b4,bm] wq wv Z2o:=hN.slv (λc hc=>gm.hX c (by simp at hc;rcases hc with rfl|rfl<;>simp)) rfl rfl (by decide);have hT:=Z9.stp hN;clear hN;replace gm:=gm.up hT;replace s0:=s0.up hT;replace e0:=e0.up hT;clear hT;refine Z4x [(3,0),(4,1),(9,2),(10,2),(11,2),(12,2)] (by kernel_rfl) (by kernel_rfl) (by kernel_rfl) ?_;refine D ?_;refine Za rfl trivial (Z4 rfl (Zf rfl rfl) (gm.kd ih.2.2 hl)) (λ_ _ h=>h.1) rfl ?_;rintro _ wq ⟨-,hS,y1,i1,p1,c1,rfl,s1,g1,bN,gm⟩;replace s0:=s0.ext hS (by simp) (λ_ h=>.inl h);replace e0:=e0.ext hS (by simp;exact n0);replace aS:=aS.ext hS (by simp) (λ_ h=>.inl h);refine D ?_;refine Za rfl trivial (gm.b2 s0 s1 rfl) (λ_ _ h=>h.1) rfl ?_;rintro bv wq ⟨-,hT,an,gm⟩;replace aS:=aS.up hT;refine D ?_;refine Za rfl trivial (Z4 rfl (ZI rfl rfl rfl) (gm.nd 10 Z2o[q] an)) (λ_ _ h=>h.1) rfl ?_;rintro _ wq ⟨-,hT,ky,rfl,hy,gm⟩;refine D ?_;exact FN i (e+1) (.mk 10 0 Z2o[q] [y0,y1]) gm bt bD hy (.two _ _ _ _ (Xd cG) g0 g1) (by omega);refine J7 rfl trivial (Z4 rfl (Zf rfl rfl) (gm.kd ih.2.2 hl)) (λ_ _ h=>h.1) rfl ?_;rintro _ wq ⟨-,hS,y1,i1,p1,c1,rfl,s1,g1,bN,gm⟩;replace s0:=s0.ext hS (by simp) (λ_ h=>.inl h);replace e0:=e0.ext hS (by simp;exact n0);refine Z1r 0 10 (by kernel_rfl) ?_ ?_;refine J7 rfl trivial (Z1 (vs:=[(0,str [108,97,116,101,114]),(1,str [101,97,114,108,105,101,114])]) rfl (bS2 _ _)) (λ_ _ h=>(Z9.stp h).mn) rfl ?_;rintro wv wq hN;have aS:SlV [b4,bm] wq wv Z2o:=hN.slv (λc hc=>gm.hX c (by simp at hc;rcases hc with rfl|rfl<;>simp)) rfl rfl (by decide);have hT:=Z9.stp hN;clear hN;replace gm:=gm.up hT;replace s0:=s0.up hT;replace e0:=e0.up hT;replace s1:=s1.up hT;clear hT;refine Z4x [(3,0),(4,1),(10,2),(11,2),(12,2)] (by kernel_rfl) (by kernel_rfl) (by kernel_rfl) ?_;refine D ?_;refine D ?_;refine Za rfl trivial (gm.b2 s0 s1 rfl) (λ_ _ h=>h.1) rfl ?_;rintro bv wq ⟨-,hT,an,gm⟩;replace aS:=aS.up hT;refine D ?_;refine Za rfl trivial (Z4 rfl (ZI rfl rfl rfl) (gm.nd 10 Z2o[q] an)) (λ_ _ h=>h.1) rfl ?_;rintro _ wq ⟨-,hT,ky,rfl,hy,gm⟩;refine D ?_;exact FN i (e+1) (.mk 10 0 Z2o[q] [y0,y1]) gm bt bD hy (.two _ _ _ _ (Xd cG) g0 g1) (by omega);refine J7 rfl trivial (gm.b2 s0 s1 rfl) (λ_ _ h=>h.1) rfl ?_;rintro bv wq ⟨-,hT,an,gm⟩;refine Z4x [(0,2),(3,0),(4,1),(11,2),(12,2)] (by kernel_rfl) (by kernel_rfl) (by kernel_rfl) ?_;refine Za rfl trivial (Z1 (vs:=[(0,str [108,97,116,101,114]),(1,str [101,97,114,108,105,101,114])]) rfl (bS2 _ _)) (λ_ _ h=>(Z9.stp h).mn) rfl ?_;rintro wv wq hN;have aS:SlV [b4,bm] wq wv Z2o:=hN.slv (λc hc=>gm.hX c (by simp at hc;rcases hc with rfl|rfl<;>simp)) rfl rfl (by decide);have hT:=Z9.stp hN;clear hN;replace gm:=gm.up hT;replace an:=an.up hT;clear hT;refine D ?_;refine D ?_;refine D ?_;refine Za rfl trivial (Z4 rfl (ZI rfl rfl rfl) (gm.nd 10 Z2o[q] an)) (λ_ _ h=>h.1) rfl ?_;rintro _ wq ⟨-,hT,ky,rfl,hy,gm⟩;refine D ?_;exact FN i (e+1) (.mk 10 0 Z2o[q] [y0,y1]) gm bt bD hy (.two _ _ _ _ (Xd cG) g0 g1) (by omega);by_cases k6:k=6;obtain ⟨e,rfl⟩:∃ e,d=e+1:=⟨d - 1,by omega⟩
 replace ih:=ih e rfl;have bB:=Z1e e;refine QO ?_;refine W ?_;refine Z0 (Z4 rfl (Zf rfl rfl) (gm.kd ih.2.1 hl)) rfl ?_;rintro _ wq ⟨-,hS,y0,i0,p0,c0,rfl,s0,g0,fC,gm⟩;refine Z0 Z2 rfl ?_;rintro _ wq ⟨b0',rfl,bz,e0,hT⟩;refine SB (us:=ndC y0 _) (ZC s0) e0 ?_;rintro _ wq ⟨aq,e0⟩;replace hT:=JH hT bz aq;clear aq;have n0:b0'≠bm:=λh=>by have:=gm.mkr.lt;omega
 have n0':b0'≠b4:=λh=>by obtain ⟨_,_,hc⟩:=gm.blk;have:=hc.lt;omega
 replace gm:=gm.up hT;replace s0:=s0.up hT;clear hT bz;refine W ?_;refine Z0 (Z4 rfl (Zf rfl rfl) (gm.kd ih.2.2 hl)) rfl ?_;rintro _ wq ⟨-,hS,y1,i1,p1,c1,rfl,s1,g1,bN,gm⟩;replace s0:=s0.ext hS (by simp) (λ_ h=>.inl h);replace e0:=e0.ext hS (by simp;exact n0);refine Z0 Z2 rfl ?_;rintro _ wq ⟨b1',rfl,iq,e1,hT⟩;refine SB (us:=ndC y1 _) (ZC s1) e1 ?_;rintro _ wq ⟨aq,e1⟩;replace hT:=JH hT iq aq;clear aq;have n1:b1'≠bm:=λh=>by have:=gm.mkr.lt;omega
 have n1':b1'≠b4:=λh=>by obtain ⟨_,_,hc⟩:=gm.blk;have:=hc.lt;omega
 replace gm:=gm.up hT;replace s0:=s0.up hT;replace e0:=e0.up hT;replace s1:=s1.up hT;clear hT iq;refine W ?_;refine ZDr 9 ([b4,bm]) [] [(0,1),(1,1),(2,0),(3,0),(4,0),(5,2),(6,2),(7,2),(8,2)] (λw1 ae=>?_);have hT:=ae;replace gm:=gm.up hT;replace s0:=s0.up hT;replace e0:=e0.up hT;replace s1:=s1.up hT;replace e1:=e1.up hT;clear hT ae;refine WD_read rfl trivial (λw' aP=>ZW rfl rfl (e0.ext aP (by simp;exact ⟨n0',n0⟩)) rfl) rfl ?_;refine WD_read rfl trivial (λw' aP=>ZW rfl rfl (e1.ext aP (by simp;exact ⟨n1',n1⟩)) rfl) rfl ?_;refine D ?_;refine Za rfl trivial (Z4 rfl (Zf rfl rfl) (gm.kd ih.2.2 hl)) (λ_ _ h=>h.1) rfl ?_;rintro _ wq ⟨-,hS,y2,i2,p2,c2,rfl,s2,g2,cn,gm⟩;replace s0:=s0.ext hS (by simp) (λ_ h=>.inl h);replace e0:=e0.ext hS (by simp;exact n0);replace s1:=s1.ext hS (by simp) (λ_ h=>.inl h);replace e1:=e1.ext hS (by simp;exact n1);refine D ?_;refine Za rfl trivial (gm.b3 s0 s1 s2 rfl) (λ_ _ h=>h.1) rfl ?_;rintro bv wq ⟨-,hT,an,gm⟩;refine D ?_;refine Za rfl trivial (Z4 rfl (ZI rfl rfl rfl) (gm.nd 9 [] an)) (λ_ _ h=>h.1) rfl ?_;rintro _ wq ⟨-,hT,ky,rfl,hy,gm⟩;refine D ?_;exact FN i (e+1) (.mk 9 0 [] [y0,y1,y2]) gm bt bD hy (.cond _ _ _ _ _ (by decide) g0 g1 g2) (by omega);obtain ⟨e,rfl⟩:∃ e,d=e+1:=⟨d - 1,by omega⟩
 replace ih:=ih e rfl;have bB:=Z1e e;refine QO ?_;refine W ?_;refine Z0 (Z4 rfl (Zf rfl rfl) (gm.kd ih.2.2 hl)) rfl ?_;rintro _ wq ⟨-,hS,y0,i0,p0,c0,rfl,s0,g0,fC,gm⟩;refine Z0 Z2 rfl ?_;rintro _ wq ⟨b0',rfl,bz,e0,hT⟩;refine SB (us:=ndC y0 _) (ZC s0) e0 ?_;rintro _ wq ⟨aq,e0⟩;replace hT:=JH hT bz aq;clear aq;have n0:b0'≠bm:=λh=>by have:=gm.mkr.lt;omega
 have n0':b0'≠b4:=λh=>by obtain ⟨_,_,hc⟩:=gm.blk;have:=hc.lt;omega
 replace gm:=gm.up hT;replace s0:=s0.up hT;clear hT bz;refine W ?_;refine Z0 (Z1 (vs:=[(0,str [100,97,121,115]),(1,str [100,97,121,115]),(2,str [99,111,117,114,116,100,97,121,115]),(3,str [119,101,101,107,115]),(4,str [109,111,110,116,104,115])]) rfl (bS5 _ _ _ _ _)) rfl ?_;rintro wv wq hN;have aS:SlV [b4,bm] wq wv Z7C:=hN.slv (λc hc=>gm.hX c (by simp at hc;rcases hc with rfl|rfl<;>simp)) rfl rfl (by decide);have hT:=Z9.stp hN;clear hN;replace gm:=gm.up hT;replace s0:=s0.up hT;replace e0:=e0.up hT;clear hT;refine W ?_;refine Z0 (Z4 rfl (Zf rfl rfl) (gm.nx 5 hl)) rfl ?_;rintro _ wq ⟨-,hS,q',rfl,gB,gm⟩;replace s0:=s0.ext hS (by simp) (λ_ h=>.inl h);replace e0:=e0.ext hS (by simp;exact n0);replace aS:=aS.ext hS (by simp) (λ_ h=>.inl h);have cG:q'<Z7C.length:=by show q'<5;omega
 have hu:=Zdm _ (Xd cG);refine W ?_;clear aS;refine ZDr 13 ([b4,bm]) [] [(0,0),(4,0),(5,1),(6,0),(7,0),(8,0),(1,2),(2,0),(3,0),(9,2),(10,2),(11,2),(12,2)] (λw1 ae=>?_);have hT:=ae;replace gm:=gm.up hT;replace s0:=s0.up hT;replace e0:=e0.up hT;clear hT ae;refine D ?_;refine Za rfl trivial (Z4 rfl (Zf rfl rfl) (gm.nx 4 hl)) (λ_ _ h=>h.1) rfl ?_;rintro _ wq ⟨-,hS,q4,rfl,oD,gm⟩;replace s0:=s0.ext hS (by simp) (λ_ h=>.inl h);replace e0:=e0.ext hS (by simp;exact n0);refine D ?_;refine Za rfl trivial (Z4 rfl (Zf rfl rfl) (gm.kd ih.1 hl)) (λ_ _ h=>h.1) rfl ?_;rintro _ wq ⟨-,hS,y1,i1,p1,c1,rfl,s1,g1,bN,gm⟩;replace s0:=s0.ext hS (by simp) (λ_ h=>.inl h);replace e0:=e0.ext hS (by simp;exact n0);refine D ?_;refine Za rfl trivial (gm.b2 s0 s1 rfl) (λ_ _ h=>h.1) rfl ?_;rintro bv wq ⟨-,hT,an,gm⟩;refine D ?_;refine Za rfl trivial (Z4 rfl (ZI rfl rfl rfl) (gm.nd (7+(q4:Int) / 3) Z7C[q'] an)) (λ_ _ h=>h.1) rfl ?_;rintro _ wq ⟨-,hT,ky,rfl,hy,gm⟩;refine D ?_;exact FN i (e+1) (.mk (7+(q4:Int) / 3) 0 Z7C[q'] [y0,y1]) gm bt bD hy (.move _ _ _ _ _ (by omega) hu g0 g1) (by omega)
end Go.Proofs.YtipfkbkkndacjaaGreatDoor
namespace Go.Eng
open Go Go.RowKit Go.Proofs
def PQ (n:Nat) (Q:Exit->Act->World->Prop):Exit->Act->World->Prop
 | .panic ch,a,w=>Has n [] a/\∀ a',Has n [] a'->Q (.panic ch) a' w
 | _,_,_=>False
theorem Has.put_back {n:Nat} {a:Act} {d:Option Nat} {v:Value} (h:Has n [] (a.put d v)):Has n [] a:=by
 cases d with
 | none=>exact h
 | some d=>exact ⟨h.defers,by simpa [Act.put] using h.size,λt v hv=>by simp [look] at hv⟩
theorem Zdn {n:Nat} {Q:Exit->Act->World->Prop} (a:Act) (w):¬ PQ n Q .outgrown a w:=λh=>h
theorem ZiJ {n:Nat} {Q:Exit->Act->World->Prop} (ch:List PanicEntry) (a:Act) (d:Option Nat) (v:Value) (w) (h:PQ n Q (.panic ch) (a.put d v) w):PQ n Q (.panic ch) a w:=⟨h.1.put_back,h.2⟩
theorem Zsh {n:Nat} {Q:Exit->Act->World->Prop} (ex:Exit) (a:Act) (w) (h:PQ n Q ex a w):Q ex a w:=by
 cases ex<;>first|exact h.2 a h.1|exact h.elim
theorem Zsi {P:Program} {o:Oper} {a:Act} {w} {K:Act->World->Prop} {X Q:Exit->Act->World->Prop} (gh:∀ a w,¬ X .outgrown a w) (hX:∀ ex a w,X ex a w->Q ex a w) (h:o.wp P a w K X):o.wp P a w K Q:=by
 unfold Oper.wp at *;generalize (execOp a.eval o).run P w=r at *;cases r with
 | ok n w'=>
   cases n<;>simp only [Oper.upon] at h ⊢
   case enter f args=>
    refine Calls.mono h (λe w'' he=>?_);cases e with
    | returned v=>exact he
    | panicked c=>exact hX _ _ _ he
    | outgrown=>obtain ⟨_,_,hf⟩:=he;exact (gh _ _ hf).elim
   all_goals exact h
 | halt x w'=>cases x<;>simp only [Oper.upon] at h ⊢;exact hX _ _ _ h
theorem ZiK {P:Program} {ops:Array Oper} {i:Nat} {K:Act->World->Prop} {X Q:Exit->Act->World->Prop} (gh:∀ a w,¬ X .outgrown a w) (hX:∀ ex a w,X ex a w->Q ex a w) {a:Act} {w} (h:wpOp P ops X i K a w):wpOp P ops Q i K a w:=by
 unfold wpOp at *;cases ho:ops[i]? with
 | none=>simp only [ho] at h ⊢;exact h
 | some o=>
   simp only [ho] at h ⊢;split;rename_i hw;simp only [hw,if_true] at h;rcases h with h|⟨_,_,_,hf⟩
   exact .inl (Zsi gh hX h);exact (gh _ _ hf).elim;rename_i hw;simp only [hw] at h;exact h
def Z1f (P:Program) (X:Exit->Act->World->Prop) (md:Region.Mode) (ops:Array Oper) (S:List Nat) (Lt:Nat->Bool) (Z:Act->World->Prop):Nat->Array Bool->Act->World->Prop
 | 0,listed,a,w=>Region.ready md ops listed=[]/\Z a w
 | fuel + 1, listed, a, w=>
   (Region.ready md ops listed=[]->Z a w)/\
   ∀ i∈Region.ready md ops listed,wpOp P ops X i (λa' w'=>(Stp S w w'\/Lt i=true)/\Z1f P X md ops S Lt Z fuel (listed.setIfInBounds i true) a' w') a w
theorem Z6G {P:Program} {ops:Array Oper} {md:Region.Mode} {S:List Nat} {Lt:Nat->Bool} {X Q:Exit->Act->World->Prop} (gh:∀ a w,¬ X .outgrown a w) (hX:∀ ex a w,X ex a w->Q ex a w) {Z:Act->World->Prop} (hZ:∀ a w,Z a w->Q .normal a w):∀ (fuel:Nat) (listed:Array Bool) (a:Act) (w),
 Z1f P X md ops S Lt Z fuel listed a w->wpAny P md ops Q fuel listed a w
 | 0,_,_,_,h=>⟨h.1,hZ _ _ h.2⟩
 | fuel+1,_,_,_,h=>⟨λh0=>hZ _ _ (h.1 h0),λi hi=>wpOp_mono (λa' w' hk=>Z6G gh hX hZ fuel _ a' w' hk.2) (ZiK gh hX (h.2 i hi))⟩
section any
variable {P:Program} {ops:Array Oper} {md:Region.Mode} {S:List Nat} {Lt:Nat->Bool}
theorem Zbq {X:Exit->Act->World->Prop} (gh:∀ a w,¬ X .outgrown a w) (oE:∀ ch a d v w,X (.panic ch) (Act.put a d v) w->X (.panic ch) a w) {Z:Act->World->Prop} {R:World->World->Prop} (jK:∀ w,R w w) (mr:∀ a b c,R a b->R b c->R a c) {i:Nat} {oi:Oper} {v:Value} (hi:ops[i]?=some oi)
 (mu:∀ j oj,ops[j]?=some oj->(∀ e∈oj.after,Region.binds md e=true->e.on≠i)->j≠i->∀ w w',(Stp S w w'\/Lt j=true)->R w w')
 (eZ:∀ (j:Nat) (o:Oper) cs b,ops[j]?=some o->o.op≠.select cs b) :
 ∀ (fuel : Nat) (listed : Array Bool) (a : Act) (w),
   (∀ j oj,ops[j]?=some oj->j≠i->listed.getD j true=false->(∀ e∈oj.after,Region.binds md e=true->e.on≠i)->oi.apart ops oj=true)->
   (Stp S w w\/Lt i=true->True)->i∈Region.ready md ops listed->YE P ops R oi v a w->
   Z1f P X md ops S Lt Z fuel (listed.setIfInBounds i true) (a.put oi.dst v) w->Z1f P X md ops S Lt Z (fuel+1) listed a w:=by
 have now:∀ (fuel:Nat) (listed:Array Bool) (a:Act) (w:World),YE P ops R oi v a w->Z1f P X md ops S Lt Z fuel (listed.setIfInBounds i true) (a.put oi.dst v) w->
  wpOp P ops X i (λa' w'=>(Stp S w w'\/Lt i=true)/\Z1f P X md ops S Lt Z fuel (listed.setIfInBounds i true) a' w') a w:=by
  intro fuel listed a w hy H;unfold wpOp;simp only [hi];rcases hy with ⟨hw,hv⟩|⟨hw,rfl⟩
  simp only [hw,if_true,Oper.wp,hv w (jK w),Oper.upon];exact .inl ⟨.inl (Stp.refl _ _),H⟩;simp only [hw,XP,if_false];exact ⟨.inl (Stp.refl _ _),H⟩
 intro fuel
 induction fuel with
 | zero=>
   intro listed a w _ _ hr hy H;refine ⟨λh=>(by rw [h] at hr;cases hr),λj hj=>?_⟩;by_cases ci:j=i;subst ci;exact now _ _ _ _ hy H;have:=ready_mono hj ci;rw [H.1] at this;cases this
 | succ fuel ih=>
   intro listed a w dt hx hr hy H;refine ⟨λh=>(by rw [h] at hr;cases hr),λj hj=>?_⟩;by_cases ci:j=i;subst ci;exact now _ _ _ _ hy H;have h1:=H.2 j (ready_mono hj ci);obtain ⟨fa,oj,fY,aA⟩:=mem_ready.1 hj;have fb:∀ e∈oj.after,Region.binds md e=true->e.on≠i:=λe he hb cX=>by
    have h1:=aA e he hb;have h0:=(mem_ready.1 hr).1;rw [cX] at h1;rcases Yat i listed.size with h'|h'
    simp [h'] at h0 h1;rw [h0] at h1;cases h1;simp [Yau h'] at h1
   have hap:=dt j oj fY ci fa fb;obtain ⟨p1,p2,p3⟩:=Oper.apart_spec hap;have keep:∀ (a:Act),YE P ops R oi v a w->∀ u,YE P ops R oi v (a.put oj.dst u) w:=λa hy u=>
    hy.same (execOp_put oi (λcs b=>eZ i oi cs b hi) a oj.dst u p3) (wanted_put oi a oj.dst u p3)
   have keepD:∀ (a:Act) d,YE P ops R oi v a w->YE P ops R oi v { a with defers:=d :: a.defers } w:=λa d hy=>hy.same rfl rfl;have later:∀ (a:Act) w',(Stp S w w'\/Lt j=true)->YE P ops R oi v a w->YE P ops R oi v a w':=λa w' hs hy=>by
    rcases hy with ⟨hw,hv⟩|hw
    exact .inl ⟨hw,λw'' h''=>hv w'' (mr _ _ _ (mu j oj fY fb ci w w' hs) h'')⟩;exact .inr hw
   have dF:∀ k ok,ops[k]?=some ok->k≠i->(listed.setIfInBounds j true).getD k true=false->
    (∀ e∈ok.after,Region.binds md e=true->e.on≠i)->oi.apart ops ok=true:=λk ok hk gA iJ bo=>by
    refine dt k ok hk gA ?_ bo;by_cases ib:j=k;subst ib;exact fa;rw [getD_set_ne true ib] at iJ;exact iJ
   have fin:∀ a' w',YE P ops R oi v a' w->(Stp S w w'\/Lt j=true)/\Z1f P X md ops S Lt Z fuel ((listed.setIfInBounds i true).setIfInBounds j true) (a'.put oi.dst v) w'->
    (Stp S w w'\/Lt j=true)/\Z1f P X md ops S Lt Z (fuel+1) (listed.setIfInBounds j true) a' w':=by
    rintro a' w' ic ⟨hs,hk⟩;refine ⟨hs,ih _ a' w' dF (λ_=>trivial) (ready_mono hr (Ne.symm ci)) (later a' w' hs ic) ?_⟩;rw [Ya0 _ _ ci];exact hk
   have mw:∀ cs b,oj.op≠.select cs b:=λcs b=>eZ j oj cs b fY;unfold wpOp at *;simp only [fY] at *;rw [wanted_put oj a oi.dst v p1] at h1;split
   . rename_i hw
     simp only [hw,if_true] at h1;rcases h1 with h1|⟨_,_,_,hf⟩
     case inr=>exact (gh _ _ hf).elim
     refine .inl ?_;unfold Oper.wp at *;rw [execOp_put oj mw a oi.dst v p1] at h1;generalize (execOp a.eval oj).run P w=r at *;cases r with
     | ok n w'=>
       cases n<;>simp only [Oper.upon] at h1 ⊢
       case value u=>exact fin _ _ (keep a hy u) (by rw [<- Act.put_comm a v u p2];exact h1)
       case skip=>exact fin _ _ (keep a hy _) (by rw [<- Act.put_comm a v undef p2];exact h1)
       case defer d=>
        refine fin _ _ (keep _ (keepD a d hy) _) ?_;rw [<- Act.put_comm _ v undef p2,<- Act.put_defers];exact h1
       case enter f args=>
        refine Calls.mono h1 λe w'' he=>?_;cases e with
        | returned u=>exact fin _ _ (keep a hy u) (by rw [<- Act.put_comm a v u p2];exact he)
        | panicked c=>exact oE _ _ _ _ _ he
        | outgrown=>obtain ⟨_,_,hf⟩:=he;exact (gh _ _ hf).elim
       case row row args=>exact Rows.mono h1 λu w'' he=>fin _ _ (keep a hy u) (by rw [<- Act.put_comm a v u p2];exact he)
     | halt x w'=>
       cases x<;>simp only [Oper.upon] at h1 ⊢;exact oE _ _ _ _ _ h1
   rename_i hw;simp only [hw] at h1;exact fin _ _ (keep a hy _) (by rw [<- Act.put_comm a v undef p2];exact h1)
end any
structure WDq (P:Program) (n:Nat) (ops:Array Oper) (S:List Nat) (Lt:List Nat) (Q:Exit->Act->World->Prop) (ord:List (Nat×Nat)) (e:Env) (w:World):Prop where
 h:∀ listed:Array Bool,Region.noSelect ops=true->ZY ops Lt ord listed=true->∀ a,Has n e a->Z1f P (PQ n Q) .any ops S (λj=>Lt.contains j) (λa w=>Q .normal a w) (wt ord) listed a w
section rules
variable {P:Program} {n:Nat} {Q:Exit->Act->World->Prop} {e:Env} {w:World} {ops:Array Oper} {S:List Nat} {Lt:List Nat} {rest:List (Nat×Nat)}
theorem Z97 {id:Nat} {l:List Oper} (m:Nat) (S:List Nat) (Lt:List Nat) (ord:List (Nat×Nat)) (cp:l.length=m) (hm:P.follows .mixedOrders=true) (hs:Region.noSelect l.toArray=true) (hl:Nat.beq (wt ord) l.length=true)
 (hB:ZY l.toArray Lt ord (Array.replicate m false)=true)
 (h:∀ w',Stp [] w w'->WDq P n l.toArray S Lt Q ord e w'):WC P n (.region id l.toArray true) Q e w:=by
 subst cp;refine ⟨λa ha=>wp_region_any hm ?_⟩;have h1:=(h { w with drawn:=w.drawn+1 } (Stp.drew [] w)).h _ hs hB a ha;have h2:=Z6G (X:=PQ n Q) (Q:=Q) Zdn Zsh (λa w hz=>hz) _ _ _ _ h1;rw [XL hl] at h2;simpa using h2
theorem Zfk {i d:Nat} {o:Oper} {v:Value} (hi:ops[i]?=some o) (hd:o.dst=some d) (hY:∀ a,Has n e a->YE P ops (λ_ _=>True) o v a w) (aw:Nat.blt d n=true)
 (k:WDq P n ops S Lt Q rest ((d,v) :: e) w):WDq P n ops S Lt Q ((i,0) :: rest) e w:=by
 refine ⟨λlisted hs hB a ha=>?_⟩;simp only [ZY,ZS,Xm] at hB;obtain ⟨⟨h1,h2⟩,h3⟩:=hB;have hk:=k.h _ hs h3 _ (ha.put (v:=v) aw);rw [<- hd] at hk;rw [JS (by decide)];exact Zbq Zdn ZiJ (R:=λ_ _=>True) (λ_=>trivial) (λ_ _ _ _ _=>trivial) hi (λ_ _ _ _ _ _ _ _=>trivial) (Region.noSelect_spec hs) _ _ _ _ (Region.free_spec hi h2) (λ_=>trivial) (by simpa using h1) (hY a ha) hk
theorem Zfl {i d:Nat} {o:Oper} {v:Value} (hi:ops[i]?=some o) (hd:o.dst=some d) (hY:∀ a,Has n e a->YE P ops (Stp S) o v a w) (aw:Nat.blt d n=true)
 (k:WDq P n ops S Lt Q rest ((d,v) :: e) w):WDq P n ops S Lt Q ((i,1) :: rest) e w:=by
 refine ⟨λlisted hs hB a ha=>?_⟩;simp only [ZY,ZS,Xm] at hB;obtain ⟨⟨⟨h1,h2⟩,hb⟩,h3⟩:=hB;have hk:=k.h _ hs h3 _ (ha.put (v:=v) aw);rw [<- hd] at hk;rw [JS (by decide)];refine Zbq Zdn ZiJ (R:=Stp S) (λw=>Stp.refl _ w) (λ_ _ _ h k=>h.trans k) hi (λj oj hj hn ci w w' hs=>?_) (Region.noSelect_spec hs) _ _ _ _ (Region.free_spec hi h2) (λ_=>trivial) (by simpa using h1) (hY a ha) hk;rcases hs with hs|hs
 exact hs;rw [Z4N hb hj hn ci] at hs;cases hs
variable {i d:Nat} {op:Op} {ty:TypeId} {pos:String} {af:Array Edge} {gd:Option (Nat×Bool)} {v:Value}
theorem JD (hi:ops[i]?=some ⟨some d,op,ty,pos,af,gd⟩) (hg:JT ops e gd) (hp:∀ w',PR P n ⟨some d,op,ty,pos,af,gd⟩ e w' v) (aw:Nat.blt d n=true)
 (k:WDq P n ops S Lt Q rest ((d,v) :: e) w):WDq P n ops S Lt Q ((i,0) :: rest) e w:=
 Zfk hi rfl (λa ha=>.inl ⟨Js ha hg,λw' _=>(hp w').h a ha⟩) aw k
theorem Z5h (hi:ops[i]?=some ⟨some d,op,ty,pos,af,gd⟩) (hg:JT ops e gd) (hp:∀ w',Stp S w w'->PR P n ⟨some d,op,ty,pos,af,gd⟩ e w' v) (aw:Nat.blt d n=true)
 (k:WDq P n ops S Lt Q rest ((d,v) :: e) w):WDq P n ops S Lt Q ((i,1) :: rest) e w:=
 Zfl hi rfl (λa ha=>.inl ⟨Js ha hg,λw' hw=>(hp w' hw).h a ha⟩) aw k
structure ZwF (P:Program) (n:Nat) (ops:Array Oper) (S:List Nat) (Lt:List Nat) (Q:Exit->Act->World->Prop) (i:Nat) (ord:List (Nat×Nat)) (e:Env) (w:World):Prop where
 h : ∀ listed : Array Bool, Region.noSelect ops = true -> ZY ops Lt ord (listed.setIfInBounds i true) = true -> ∀ a, Has n e a->
   wpOp P ops (PQ n Q) i (λa' w'=>(Stp S w w'\/Lt.contains i=true)/\Z1f P (PQ n Q) .any ops S (λj=>Lt.contains j) (λa w=>Q .normal a w) (wt ord) (listed.setIfInBounds i true) a' w') a w
theorem Zen (h:ZwF P n ops S Lt Q i rest e w):WDq P n ops S Lt Q ((i,2) :: rest) e w:=by
 refine ⟨λlisted hs hB a ha=>?_⟩;simp only [ZY,ZS] at hB;rw [if_neg (by simp)] at hB;simp only [Xm,beq_iff_eq] at hB;obtain ⟨h1,h3⟩:=hB;rw [JS (by decide)];refine ⟨λh0=>absurd (h1 ▸ h0) (by simp),λj hj=>?_⟩;rw [h1] at hj;obtain rfl:j=i:=by simpa using hj
 exact h.h _ hs h3 a ha
end rules
structure OEP (P:Program) (n:Nat) (o:Oper) (e:Env) (w:World) (G:Value->World->Prop) (F:List PanicEntry->World->Prop):Prop where
 h:∀ a,Has n e a->∀ Q:Exit->Act->World->Prop,(∀ ch w',F ch w'->Q (.panic ch) a w')->o.wp P a w (λa' w'=>∃ v,a'=a.put o.dst v/\G v w') Q
inductive Zm5 (G:Value->World->Prop) (F:List PanicEntry->World->Prop):Ending->World->Prop
 | ret {v:Value} {w:World}:G v w->Zm5 G F (.returned v) w
 | pan {ch:List PanicEntry} {w:World}:F ch w->Zm5 G F (.panicked ch) w
section
variable {P:Program} {n:Nat} {Q:Exit->Act->World->Prop} {e:Env} {w:World} {ops:Array Oper} {S:List Nat} {Lt:List Nat} {rest:List (Nat×Nat)}
theorem ZiL {i d:Nat} {op:Op} {ty:TypeId} {pos:String} {af:Array Edge} {gd:Option (Nat×Bool)} {G:Value->World->Prop} {F:List PanicEntry->World->Prop} (hi:ops[i]?=some ⟨some d,op,ty,pos,af,gd⟩) (hg:JT ops e gd)
 (hp:OEP P n ⟨some d,op,ty,pos,af,gd⟩ e w G F) (hG:∀ v w',G v w'->Stp S w w') (aw:Nat.blt d n=true) (hF:∀ ch w',F ch w'->WQ n Q (.panic ch) [] w')
 (k:∀ v w',G v w'->WDq P n ops S Lt Q rest ((d,v) :: e) w'):WDq P n ops S Lt Q ((i,2) :: rest) e w:=by
 refine Zen ⟨λlisted hs h3 a ha=>?_⟩;unfold wpOp;simp only [hi];rw [if_pos (Js (o:=⟨some d,op,ty,pos,af,gd⟩) ha hg)];have h0:Has n [] a:=⟨ha.defers,ha.size,λt v hv=>by simp [look] at hv⟩
 refine .inl (Oper.wp_mono ?_ (hp.h a ha (PQ n Q) (λch w' h=>⟨h0,λa' eO=>(hF ch w' h).h a' eO⟩)));rintro a' w' ⟨v,rfl,je⟩;exact ⟨.inl (hG v w' je),(k v w' je).h _ hs h3 _ (ha.put aw)⟩
end
section
variable {P:Program} {n:Nat} {Q:Exit->Act->World->Prop} {e:Env} {w:World} {ops:Array Oper} {rest:List Oper} {d:Option Nat} {ty:TypeId} {pos:String} {af:Array Edge} {g:Option (Nat×Bool)}
theorem Z7E {f:Nat} {fn:Func} {xs:Array Operand} {ts:Array TypeId} {vs:Array Value} {G:Value->World->Prop} {F:List PanicEntry->World->Prop} {c:Operand} [hf:Fun P f fn] (hc:ev e c=some (.func (.func f) #[] #[]))
 (hv:∀ a,Has n e a->xs.map a.eval=vs) (h:Calls P f vs w (Zm5 G F)) :
 OEP P n ⟨d,.call { callee:=.value c,args:=xs,argTypes:=ts },ty,pos,af,g⟩ e w G F:=
 ⟨λa ha Q hQ => by
   have he:(execOp a.eval ⟨d,.call { callee:=.value c,args:=xs,argTypes:=ts },ty,pos,af,g⟩).run P w=.ok (.enter f vs) w:=by
    simp only [execOp,resolve,ha.ev hc,Deferred.ofValue,hv a ha];simp [invoke];exact hf.enters vs w
   unfold Oper.wp;rw [he];simp only [Oper.upon];refine h.mono ?_;intro r w' hr;cases hr with
   | ret hg=>exact ⟨_,rfl,hg⟩
   | pan hp=>exact hQ _ _ hp⟩
theorem Zfm {f:Nat} {fn:Func} {xs:Array Operand} {ts:Array TypeId} {vs bd cap us:Array Value} {G:Value->World->Prop} {F:List PanicEntry->World->Prop} {c:Operand} [hf:Fun P f fn] (hc:ev e c=some (.func (.func f) bd cap))
 (hv:∀ a,Has n e a->xs.map a.eval=vs) (hu:bd++vs++cap=us) (h:Calls P f us w (Zm5 G F)) :
 OEP P n ⟨d,.call { callee:=.value c,args:=xs,argTypes:=ts },ty,pos,af,g⟩ e w G F:=
 ⟨λa ha Q hQ => by
   have he:(execOp a.eval ⟨d,.call { callee:=.value c,args:=xs,argTypes:=ts },ty,pos,af,g⟩).run P w=.ok (.enter f us) w:=by
    simp only [execOp,resolve,ha.ev hc,Deferred.ofValue,hv a ha];simp [invoke];rw [<- Array.append_assoc,hu];exact hf.enters us w
   unfold Oper.wp;rw [he];simp only [Oper.upon];refine h.mono ?_;intro r w' hr;cases hr with
   | ret hg=>exact ⟨_,rfl,hg⟩
   | pan hp=>exact hQ _ _ hp⟩
theorem Zaf {d:Nat} {op:Op} {G:Value->World->Prop} {F:List PanicEntry->World->Prop} (hp:OEP P n ⟨some d,op,ty,pos,af,none⟩ e w G F) (hd:Nat.blt d n=true) (hF:∀ ch w',F ch w'->WQ n Q (.panic ch) e w')
 (k:∀ v w',G v w'->WL P n ops Q rest ((d,v) :: e) w'):WL P n ops Q (⟨some d,op,ty,pos,af,none⟩ :: rest) e w:=by
 refine ⟨λa ha=>?_⟩;refine wpList_plain rfl (λK hK=>?_);refine Oper.wp_mono ?_ (hp.h a ha Q (λch w' h=>(hF ch w' h).h a ha));rintro a' w' ⟨v,rfl,hg⟩;exact hK _ _ ((k v w' hg).h _ (ha.put hd))
theorem Zh {N:Act->World->Prop} {ch:List PanicEntry} (h:WQ n Q (.panic ch) e w):WQ n (Exit.then N Q) (.panic ch) e w:=⟨λa ha=>h.h a ha⟩
theorem Zg {i:Nat} {ch:List PanicEntry} (h:WQ n Q (.panic ch) e w):WQ n (Exit.inBlock i Q) (.panic ch) e w:=⟨λa ha=>h.h a ha⟩
theorem Z98 {x:Exit} (h:WQ n Q x [] w):WQ n Q x e w:=⟨λa ha=>h.h a ⟨ha.defers,ha.size,λt v hv=>by simp [look] at hv⟩⟩
theorem ZD {fn:Func} {R:Ending->World->Prop} {ch:List PanicEntry} (h:R (.panicked ch) w):WQ n (bodyPost P fn R) (.panic ch) e w:=⟨λa ha=>⟨ha.defers,h⟩⟩
end
theorem Z60 {P:Program} {n:Nat} {e:Env} {w} {d:Option Nat} {ty:TypeId} {pos:String} {af:Array Edge} {g:Option (Nat×Bool)} {t:TypeId} {x:Operand} {v:Value} {fs:Array Field} [hu:Und P t (.struct fs)] (hx:ev e x=some v):PR P n ⟨d,.makeInterface t x,ty,pos,af,g⟩ e w (.iface t v):=
 ⟨λa ha=>by simp [execOp,ha.ev hx,Instr.makeInterface,run_underlying hu.h]⟩
theorem Zfn {P:Program} {n:Nat} {e:Env} {w} {d:Option Nat} {ty:TypeId} {pos:String} {af:Array Edge} {g:Option (Nat×Bool)} {x:Operand} {t:TypeId} {v:Value} (hx:ev e x=some (.iface t v)):∀ a,Has n e a->(execOp a.eval ⟨d,.panic x,ty,pos,af,g⟩).run P w=.halt (.panic (.iface t v)) w:=
 λa ha=>by simp [execOp,ha.ev hx,Instr.panic]
theorem Zfo {P:Program} {n:Nat} {Q:Exit->Act->World->Prop} {e:Env} {w} {ops:Array Oper} {S:List Nat} {Lt:List Nat} {rest:List (Nat×Nat)} {i:Nat} {o:Oper} {v:Value} (hi:ops[i]?=some o) (hg:JT ops e o.guard)
 (hp:∀ a,Has n e a->(execOp a.eval o).run P w=.halt (.panic v) w) (h:WQ n Q (.panic [{ v,recovered:=false }]) [] w):WDq P n ops S Lt Q ((i,2) :: rest) e w:=by
 refine Zen ⟨λlisted hs h3 a ha=>?_⟩;unfold wpOp;simp only [hi];rw [if_pos (Js ha hg)];refine .inl ?_;unfold Oper.wp;rw [hp a ha];have h0:Has n [] a:=⟨ha.defers,ha.size,λt v hv=>by simp [look] at hv⟩
 exact ⟨h0,λa' eO=>h.h a' eO⟩
structure Tkn where
 kind:Int
 pos:Int
 text:Str
 num:Int
 deriving DecidableEq
instance:Inhabited Tkn:=⟨⟨0,0,[],0⟩⟩
instance:Z3 Tkn where
 k:=4
 enc:=λt=>[.I t.kind,.I t.pos,str t.text,.I t.num]
 len:=λ_=>rfl
 one:=by intro x u hu;simp at hu;rcases hu with rfl|rfl|rfl|rfl<;>rfl
def cur (l:List Tkn) (i:Nat):Tkn:=l.getD i default
inductive Out (α:Type) where
 | err (a c:Int)
 | ok (x:α) (i o:Nat)
def Out.bind {α β:Type}:Out α->(α->Nat->Nat->Out β)->Out β
 | .err a c,_=>.err a c
 | .ok x i o,k=>k x i o
def Z19 {α:Type} (l:List Tkn) (i:Nat) (c:Int):Out α:=.err (cur l i).pos c
def Z0G (l:List Tkn) (s:Str) (i o:Nat):Out Unit:=if (cur l i).text=s then .ok () (i+1) o else Z19 l i 20
def Z2Q (l:List Tkn) (k:Int) (i o:Nat):Out Tkn:=if (cur l i).kind=k then .ok (cur l i) (i+1) o else Z19 l i 20
def Z61 (l:List Tkn) (s:Str) (i o:Nat):Out Unit:=if (cur l i).text=s then (if o=12 then Z19 l i 2 else .ok () (i+1) (o+1)) else Z19 l i 20
def Z5i (l:List Tkn) (s:Str) (i o:Nat):Out Unit:=(Z0G l s i o).bind λ_ i o=>.ok () i (o - 1)
def Z2R:List Str:=[[100,97,121],[115,101,114,118,101,100],[101,120,116,114,97],[98,121],[116,111],[99,111,117,114,116],[97,109,111,117,110,116]]
def Z4D:List Str:=[[100,97,121,115],[119,101,101,107,115],[109,111,110,116,104,115],[99,111,117,114,116,100,97,121,115]]
def Z4E:List Str:=[[110,101,120,116],[112,114,101,118],[108,97,116,101,114],[101,97,114,108,105,101,114],[98,101,116,119,101,101,110]]
def Zeo:List Str:=[[114,117,108,101],[102,114,111,109],[111,110],[105,102],[100,117,101],[117,110,108,101,115,115],[101,108,115,101],[116,114,117,101],[102,97,108,115,101],[110,111,116],[97,110,100],[111,114],[116,104,101,110],[101,110,100]]
def Z29 (l:List Tkn) (i o:Nat):Out Str:=if (cur l i).text∈Zeo++Z4D++Z2R++Z4E then Z19 l i 20 else (Z2Q l 1 i o).bind λt i o=>.ok t.text i o
def Z62 (s:Str):Nat:=
 if s=[111,114] then 1 else if s=[97,110,100] then 2 else if s=[60]\/s=[60,61]\/s=[61]\/s=[33,61]\/s=[62]\/s=[62,61] then 4
 else if s=[43]\/s=[45] then 5 else if s=[42] then 6 else 0
def ZvB (s:Str):Nat:=if s=[110,101,120,116]\/s=[112,114,101,118] then 1 else 2
def Z3a (m:Nat->Nat->Option (Out Nd)) (sep:Nat->Nat->Nat->Out Unit):Nat->Nat->List Nd->Nat->Nat->Option (Out (List Nd))
 | 0,_,ks,i,o=>some (.ok ks i o)
 | n + 1, k, ks, i, o=>
   match sep k i o with
   | .err a c=>some (.err a c)
   | .ok _ i o=>
     match m i o with
     | none=>none
     | some (.err a c)=>some (.err a c)
     | some (.ok x i o)=>Z3a m sep n (k+1) (ks++[x]) i o
def Z7F (l:List Tkn) (k i o:Nat):Out Unit:=if 0<k then Z0G l [44] i o else .ok () i o
def ZiM (l:List Tkn) (k i o:Nat):Out Unit:=Z0G l (if k=0 then [116,104,101,110] else [101,108,115,101]) i o
inductive Call where
 | expr (level:Nat)
 | loop (level:Nat) (x:Nd)
 | prim
def J4 (l:List Tkn):Nat->Call->Nat->Nat->Option (Out Nd)
 | 0,_,_,_=>none
 | f + 1, .expr k, i, o=>
   if (k=3/\(cur l i).text=[110,111,116])\/(k=7/\(cur l i).text=[45]) then
    match Z61 l (cur l i).text i o with
    | .err a c=>some (.err a c)
    | .ok _ i' o'=>
      match J4 l f (.expr k) i' o' with
      | none=>none
      | some (.err a c)=>some (.err a c)
      | some (.ok x i'' o'')=>some (.ok (.mk 5 0 (cur l i).text [x]) i'' (o'' - 1))
   else if k=8 then J4 l f .prim i o
   else
    match J4 l f (.expr (k+1)) i o with
    | none=>none
    | some (.err a c)=>some (.err a c)
    | some (.ok x i' o')=>J4 l f (.loop k x) i' o'
 | f + 1, .loop k x, i, o=>
   if Z62 (cur l i).text=k then
    match J4 l f (.expr (k+1)) (i+1) o with
    | none=>none
    | some (.err a c)=>some (.err a c)
    | some (.ok y i' o')=>
      if k=5/\(cur l i').text∈Z4D then J4 l f (.loop k (.mk (if (cur l i).text=[45] then 8 else 7) 0 (cur l i').text [x,y])) (i'+1) o'
      else if k=4 then some (.ok (.mk 6 0 (cur l i).text [x,y]) i' o')
      else J4 l f (.loop k (.mk 6 0 (cur l i).text [x,y])) i' o'
   else some (.ok x i o)
 | f + 1, .prim, i, o=>
   let t:=cur l i
   if t.kind=2 then some (.ok (.mk 1 t.num [] []) (i+1) o)
   else if t.kind=3 then some (.ok (.mk 3 t.num [] []) (i+1) o)
   else if t.text=[116,114,117,101] then some (.ok (.mk 2 1 [] []) (i+1) o)
   else if t.text=[102,97,108,115,101] then some (.ok (.mk 2 0 [] []) (i+1) o)
   else if t.text=[40] then
    match Z61 l [40] i o with
    | .err a c=>some (.err a c)
    | .ok _ i' o'=>
      match J4 l f (.expr 1) i' o' with
      | none=>none
      | some (.err a c)=>some (.err a c)
      | some (.ok x i'' o'')=>
        match Z5i l [41] i'' o'' with
        | .err a c=>some (.err a c)
        | .ok _ i3 o3=>some (.ok x i3 o3)
   else if t.text=[105,102] then
    match Z61 l [105,102] i o with
    | .err a c=>some (.err a c)
    | .ok _ i' o'=>
      match J4 l f (.expr 1) i' o' with
      | none=>none
      | some (.err a c)=>some (.err a c)
      | some (.ok x i'' o'')=>
        match Z3a (J4 l f (.expr 1)) (ZiM l) 2 0 [x] i'' o'' with
        | none=>none
        | some (.err a c)=>some (.err a c)
        | some (.ok ks i3 o3)=>
          match Z5i l [101,110,100] i3 o3 with
          | .err a c=>some (.err a c)
          | .ok _ i4 o4=>some (.ok (.mk 9 0 [] ks) i4 o4)
   else if t.text∈Z4E then
    match Z2Q l 1 i o with
    | .err a c=>some (.err a c)
    | .ok _ i1 o1=>
      match Z61 l [40] i1 o1 with
      | .err a c=>some (.err a c)
      | .ok _ i' o'=>
        match Z3a (J4 l f (.expr 1)) (Z7F l) (ZvB t.text) 0 [] i' o' with
        | none=>none
        | some (.err a c)=>some (.err a c)
        | some (.ok ks i3 o3)=>
          match Z5i l [41] i3 o3 with
          | .err a c=>some (.err a c)
          | .ok _ i4 o4=>some (.ok (.mk 10 0 t.text ks) i4 o4)
   else if t.text∈Z2R then some (.ok (.mk 4 0 t.text []) (i+1) o)
   else some (Z19 l i 20)
structure RuleM where
 name:Str
 frm:Int
 on:Str
 cond:Nd
 due:Nd
 unl:Str
 els:Str
def Z1v {α:Type} (l:List Tkn) (w:Str) (z:α) (rd:Nat->Nat->Out α) (i o:Nat):Out α:=
 if (cur l i).text=w then (rd (i+1) o).bind λx i o=>(Z0G l [59] i o).bind λ_ i o=>.ok x i o else .ok z i o
def Zbr (l:List Tkn) (i:Nat):Nat:=20 * (l.length - i)+20
def Z1P (l:List Tkn) (i o:Nat):Out Nd:=(J4 l (Zbr l i) (.expr 1) i o).getD (.err 0 0)
def JM:Nd:=.mk 0 0 [] []
def Z99 (l:List Tkn) (i o:Nat):Out RuleM:=
 (Z0G l [114,117,108,101] i o).bind λ_ i o=>(Z29 l i o).bind λnm i o=>(Z0G l [102,114,111,109] i o).bind λ_ i o=>(Z2Q l 3 i o).bind λt i o=>(Z0G l [123] i o).bind λ_ i o=>
 if (cur l i).text=[111,110] then
  (Z1v l [111,110] [] (Z29 l) i o).bind λon i o=>(Z1v l [105,102] JM (Z1P l) i o).bind λcd i o=>
  if (cur l i).text=[100,117,101] then
   (Z1v l [100,117,101] JM (Z1P l) i o).bind λdue i o=>(Z1v l [117,110,108,101,115,115] [] (Z29 l) i o).bind λun i o=>(Z1v l [101,108,115,101] [] (Z29 l) i o).bind λel i o=>(Z0G l [125] i o).bind λ_ i o=>
   .ok ⟨nm,t.num,on,if cd.kind=0 then .mk 2 1 [] [] else cd,due,un,el⟩ i o
  else Z19 l i 20
 else Z19 l i 20
def Z2p (l:List Tkn):Nat->List RuleM->Nat->Nat->Out (List RuleM)
 | 0,rs,i,o=>.ok rs i o
 | f+1,rs,i,o=>if (cur l i).kind=0 then .ok rs i o else (Z99 l i o).bind λr i o=>Z2p l f (rs++[r]) i o
def Z8I:List Str:=[[110,111,116],[45],[116,114,117,101],[102,97,108,115,101],[40],[105,102]]++Z4E
structure Z3A (l:List Tkn):Prop where
 pos:0<l.length
 last:(cur l (l.length - 1)).kind=0/\(cur l (l.length - 1)).text=[]
 body:∀ i,i+1<l.length->(cur l i).kind≠0/\(cur l i).text≠[]
 len:l.length<=4001
 sp:∀ i,∀ c∈(cur l i).text,c≠32
 tl:∀ i,(cur l i).text.length<=4000
 plain:∀ i,(cur l i).text∉Z8I
theorem Z3A.end_of {l:List Tkn} (h:Z3A l) {i:Nat} (hi:i<l.length) (ht:(cur l i).text≠[]):i+1<l.length:=by
 by_cases hl:i+1<l.length;exact hl;exfalso;obtain rfl:i=l.length - 1:=by omega
 exact ht h.last.2
theorem Z3A.end_of_kind {l:List Tkn} (h:Z3A l) {i:Nat} (hi:i<l.length) (ht:(cur l i).kind≠0):i+1<l.length:=by
 by_cases hl:i+1<l.length;exact hl;exfalso;obtain rfl:i=l.length - 1:=by omega
 exact ht h.last.1
theorem Z4T {l:List Tkn} {s:Str} {i o:Nat} {u:Unit} {i' o':Nat} (h:Z0G l s i o=.ok u i' o'):o'=o:=by
 unfold Z0G Z19 at h;split at h<;>simp at h;omega
theorem Z2a {l:List Tkn} {s:Str} {i o:Nat} {u:Unit} {i' o':Nat} (h:Z0G l s i o=.ok u i' o'):i'=i+1/\(cur l i).text=s:=by
 unfold Z0G Z19 at h;split at h<;>simp at h;exact ⟨by omega,by assumption⟩
theorem Z1j {l:List Tkn} {k:Int} {i o:Nat} {t:Tkn} {i' o':Nat} (h:Z2Q l k i o=.ok t i' o'):o'=o/\i'=i+1/\t=cur l i/\t.kind=k:=by
 unfold Z2Q Z19 at h;split at h<;>simp at h;obtain ⟨rfl,rfl,rfl⟩:=h;exact ⟨rfl,rfl,rfl,by assumption⟩
theorem Jc {l:List Tkn} {s:Str} {i o:Nat} {u:Unit} {i' o':Nat} (h:Z61 l s i o=.ok u i' o'):o'=o+1/\i'=i+1/\(cur l i).text=s:=by
 unfold Z61 Z19 at h;split at h;split at h<;>simp at h;exact ⟨by omega,by omega,by assumption⟩;simp at h
theorem Z0r {l:List Tkn} {s:Str} {i o:Nat} {u:Unit} {i' o':Nat} (h:Z5i l s i o=.ok u i' o'):o'=o - 1/\i'=i+1/\(cur l i).text=s:=by
 unfold Z5i at h;cases hm:Z0G l s i o with
 | err a c=>rw [hm] at h;simp [Out.bind] at h
 | ok x j p=>
   rw [hm] at h;simp [Out.bind] at h;have:=Z4T hm;have:=Z2a hm;exact ⟨by omega,by omega,this.2⟩
theorem Z4U {m:Nat->Nat->Option (Out Nd)} {sep:Nat->Nat->Nat->Out Unit} (hm:∀ i o x i' o',m i o=some (.ok x i' o')->o'=o) (hs:∀ k i o u i' o',sep k i o=.ok u i' o'->o'=o) :
 ∀ (n k:Nat) (ks:List Nd) (i o:Nat) (ks':List Nd) (i' o':Nat),Z3a m sep n k ks i o=some (.ok ks' i' o')->o'=o
 | 0,k,ks,i,o,ks',i',o',h=>by simp [Z3a] at h;omega
 | n + 1, k, ks, i, o, ks', i', o', h => by
   simp only [Z3a] at h;cases h1:sep k i o with
   | err a c=>rw [h1] at h;simp at h
   | ok u i1 o1=>
     rw [h1] at h;simp only at h;cases h2:m i1 o1 with
     | none=>rw [h2] at h;simp at h
     | some r=>
       rw [h2] at h;cases r with
       | err a c=>simp at h
       | ok x i2 o2=>
         simp only at h;have:=Z4U hm hs n _ _ _ _ _ _ _ h;have:=hm _ _ _ _ _ h2;have:=hs _ _ _ _ _ _ h1;omega
theorem Zbs {l:List Tkn} {k i o:Nat} {u:Unit} {i' o':Nat} (h:Z7F l k i o=.ok u i' o'):o'=o:=by
 unfold Z7F at h;split at h;exact Z4T h;simp at h;omega
theorem Zdo {l:List Tkn} {k i o:Nat} {u:Unit} {i' o':Nat} (h:ZiM l k i o=.ok u i' o'):o'=o:=Z4T h
theorem Z4V (l:List Tkn):∀ (f:Nat) (c:Call) (i o:Nat) (x:Nd) (i' o':Nat),J4 l f c i o=some (.ok x i' o')->o'=o
 | 0,c,i,o,x,i',o',h=>by simp [J4] at h
 | f + 1, .expr k, i, o, x, i', o', h => by
   have ih:=Z4V l f;rw [J4] at h;split at h;split at h;simp at h;rename_i h1;have:=Jc h1;split at h;simp at h;simp at h;rename_i h2;have:=ih _ _ _ _ _ _ h2;simp at h;omega;split at h;exact ih _ _ _ _ _ _ h;split at h;simp at h;simp at h;rename_i h2;have:=ih _ _ _ _ _ _ h2;have:=ih _ _ _ _ _ _ h;omega
 | f + 1, .loop k y, i, o, x, i', o', h => by
   have ih:=Z4V l f;rw [J4] at h;split at h;split at h;simp at h;simp at h;rename_i h2;have h3:=ih _ _ _ _ _ _ h2;split at h;have:=ih _ _ _ _ _ _ h;omega;split at h;simp at h;omega;have:=ih _ _ _ _ _ _ h;omega;simp at h;omega
 | f + 1, .prim, i, o, x, i', o', h => by
   have ih:=Z4V l f;rw [J4] at h;repeat' split at h
   all_goals try (simp at h;done)
   all_goals try (simp at h;omega)
   rename_i h1 _ _ _ _ h2 _ _ _ _ h3;have:=Jc h1;have:=ih _ _ _ _ _ _ h2;have:=Z0r h3;simp at h;omega;rename_i h1 _ _ _ _ h2 _ _ _ _ h3 _ _ _ _ h4;have:=Jc h1;have:=ih _ _ _ _ _ _ h2;have:=Z4U (λ_ _ _ _ _ h=>ih _ _ _ _ _ _ h) (λ_ _ _ _ _ _ h=>Zdo h) _ _ _ _ _ _ _ _ h3;have:=Z0r h4;simp at h;omega;rename_i h1 _ _ _ _ h2 _ _ _ _ h3 _ _ _ _ h4;have:=Z1j h1;have:=Jc h2;have:=Z4U (λ_ _ _ _ _ h=>ih _ _ _ _ _ _ h) (λ_ _ _ _ _ _ h=>Zbs h) _ _ _ _ _ _ _ _ h3;have:=Z0r h4;simp at h;omega;all_goals (simp [Z19] at h)
theorem Z7G {m:Nat->Nat->Option (Out Nd)} {sep:Nat->Nat->Nat->Out Unit} (hm:∀ i o x i' o',m i o=some (.ok x i' o')->i<=i') (hs:∀ k i o u i' o',sep k i o=.ok u i' o'->i<=i') :
 ∀ (n k:Nat) (ks:List Nd) (i o:Nat) (ks':List Nd) (i' o':Nat),Z3a m sep n k ks i o=some (.ok ks' i' o')->i<=i'
 | 0,k,ks,i,o,ks',i',o',h=>by simp [Z3a] at h;omega
 | n + 1, k, ks, i, o, ks', i', o', h => by
   simp only [Z3a] at h;cases h1:sep k i o with
   | err a c=>rw [h1] at h;simp at h
   | ok u i1 o1=>
     rw [h1] at h;simp only at h;cases h2:m i1 o1 with
     | none=>rw [h2] at h;simp at h
     | some r=>
       rw [h2] at h;cases r with
       | err a c=>simp at h
       | ok x i2 o2=>
         simp only at h;have:=Z7G hm hs n _ _ _ _ _ _ _ h;have:=hm _ _ _ _ _ h2;have:=hs _ _ _ _ _ _ h1;omega
theorem Z9a {l:List Tkn} {k i o:Nat} {u:Unit} {i' o':Nat} (h:Z7F l k i o=.ok u i' o'):i<=i':=by
 unfold Z7F at h;split at h;have:=(Z2a h).1;omega;simp at h;omega
theorem Zbt {l:List Tkn} {k i o:Nat} {u:Unit} {i' o':Nat} (h:ZiM l k i o=.ok u i' o'):i<=i':=by have:=(Z2a h).1;omega
def Call.lo:Call->Nat->Nat
 | .expr _,i=>i+1
 | .prim,i=>i+1
 | .loop _ _,i=>i
theorem Z1Q (l:List Tkn):∀ (f:Nat) (c:Call) (i o:Nat) (x:Nd) (i' o':Nat),J4 l f c i o=some (.ok x i' o')->c.lo i<=i'
 | 0,c,i,o,x,i',o',h=>by simp [J4] at h
 | f + 1, .expr k, i, o, x, i', o', h => by
   have ih:=Z1Q l f;rw [J4] at h;simp only [Call.lo];split at h;split at h;simp at h;rename_i h1;have:=Jc h1;split at h;simp at h;simp at h;rename_i h2;have:=ih _ _ _ _ _ _ h2;simp only [Call.lo] at this;simp at h;omega;split at h;exact ih _ _ _ _ _ _ h;split at h;simp at h;simp at h;rename_i h2;have h3:=ih _ _ _ _ _ _ h2;have:=ih _ _ _ _ _ _ h;simp only [Call.lo] at this h3;omega
 | f + 1, .loop k y, i, o, x, i', o', h => by
   have ih:=Z1Q l f;rw [J4] at h;simp only [Call.lo];split at h;split at h;simp at h;simp at h;rename_i h2;have h3:=ih _ _ _ _ _ _ h2;simp only [Call.lo] at h3;split at h;have:=ih _ _ _ _ _ _ h;simp only [Call.lo] at this;omega;split at h;simp at h;omega;have:=ih _ _ _ _ _ _ h;simp only [Call.lo] at this;omega;simp at h;omega
 | f + 1, .prim, i, o, x, i', o', h => by
   have ih:=Z1Q l f;rw [J4] at h;simp only [Call.lo];repeat' split at h
   all_goals try (simp at h;done)
   all_goals try (simp at h;omega)
   rename_i h1 _ _ _ _ h2 _ _ _ _ h3;have:=Jc h1;have h2:=ih _ _ _ _ _ _ h2;have:=Z0r h3;simp only [Call.lo] at h2;simp at h;omega;rename_i h1 _ _ _ _ h2 _ _ _ _ h3 _ _ _ _ h4;have:=Jc h1;have h2:=ih _ _ _ _ _ _ h2;have:=Z7G (λ_ _ _ _ _ h=>by have:=ih _ _ _ _ _ _ h;simp only [Call.lo] at this;omega) (λ_ _ _ _ _ _ h=>Zbt h) _ _ _ _ _ _ _ _ h3;have:=Z0r h4;simp only [Call.lo] at h2;simp at h;omega;rename_i h1 _ _ _ _ h2 _ _ _ _ h3 _ _ _ _ h4;have:=Z1j h1;have:=Jc h2;have:=Z7G (λ_ _ _ _ _ h=>by have:=ih _ _ _ _ _ _ h;simp only [Call.lo] at this;omega) (λ_ _ _ _ _ _ h=>Z9a h) _ _ _ _ _ _ _ _ h3;have:=Z0r h4;simp at h;omega;all_goals (simp [Z19] at h)
theorem Z4W {m:Nat->Nat->Option (Out Nd)} {sep:Nat->Nat->Nat->Out Unit} (i0:Nat) (ht:∀ i o,i0<=i->m i o≠none) (hm:∀ i o x i' o',m i o=some (.ok x i' o')->i<=i') (hs:∀ k i o u i' o',sep k i o=.ok u i' o'->i<=i') :
 ∀ (n k:Nat) (ks:List Nd) (i o:Nat),i0<=i->Z3a m sep n k ks i o≠none
 | 0,k,ks,i,o,h0=>by simp [Z3a]
 | n + 1, k, ks, i, o, h0 => by
   simp only [Z3a];cases h1:sep k i o with
   | err a c=>simp
   | ok u i1 o1=>
     have:=hs _ _ _ _ _ _ h1;simp only;cases h2:m i1 o1 with
     | none=>exact absurd h2 (ht _ _ (by omega))
     | some r=>
       cases r with
       | err a c=>simp
       | ok x i2 o2=>
         have:=hm _ _ _ _ _ h2;exact Z4W i0 ht hm hs n _ _ _ _ (by omega)
theorem Zm6 {l:List Tkn} {i:Nat} (h:l.length<=i):cur l i=default:=by simp [cur,List.getD,h]
theorem Z4X {l:List Tkn} {i:Nat} (h:(cur l i).text≠[]):i<l.length:=by
 by_cases hl:i<l.length;exact hl;rw [Zm6 (by omega)] at h;exact absurd rfl h
def Call.need (n:Nat):Call->Nat->Nat
 | .expr k,i=>10 * (n - i)+(10 - k)
 | .prim,i=>10 * (n - i)+1
 | .loop _ _,i=>10 * (n - i)+1
def Call.fine:Call->Prop
 | .expr k=>1<=k/\k<=8
 | .prim=>True
 | .loop k _=>1<=k/\k<=7
theorem Z7H {s:Str} {k:Nat} (h:Z62 s=k) (hk:1<=k):s≠[]:=by
 rintro rfl;have:Z62 []=0:=by decide
 omega
theorem Z2S (l:List Tkn):∀ (f:Nat) (c:Call) (i o:Nat),c.fine->c.need l.length i<=f->J4 l f c i o≠none
 | 0, c, i, o, hc, h => by
   cases c<;>simp only [Call.need,Call.fine] at h hc<;>omega
 | f + 1, .expr k, i, o, hc, h => by
   have ih:=Z2S l f;simp only [Call.need,Call.fine] at h hc;rw [J4];split;rename_i bB;have hi:i<l.length:=Z4X (by rcases bB with ⟨_,h⟩|⟨_,h⟩<;>rw [h]<;>decide);split;simp;rename_i h1;have:=Jc h1;split;rename_i h2;exact absurd h2 (ih _ _ _ hc (by simp only [Call.need];omega));simp;simp;split;exact ih _ _ _ trivial (by simp only [Call.need];omega);split;rename_i h2;exact absurd h2 (ih _ _ _ (by simp only [Call.fine];omega) (by simp only [Call.need];omega));simp;rename_i h2;have h3:=Z1Q l _ _ _ _ _ _ _ h2;simp only [Call.lo] at h3;exact ih _ _ _ (by simp only [Call.fine];omega) (by simp only [Call.need];omega)
 | f + 1, .loop k y, i, o, hc, h => by
   have ih:=Z2S l f;simp only [Call.need,Call.fine] at h hc;rw [J4];split;rename_i kE;have hi:i<l.length:=Z4X (Z7H kE hc.1);split;rename_i h2;exact absurd h2 (ih _ _ _ (by simp only [Call.fine];omega) (by simp only [Call.need];omega));simp;rename_i h2;have h3:=Z1Q l _ _ _ _ _ _ _ h2;simp only [Call.lo] at h3;split;exact ih _ _ _ hc (by simp only [Call.need];omega);split;simp;exact ih _ _ _ hc (by simp only [Call.need];omega);simp
 | f + 1, .prim, i, o, hc, h => by
   have ih:=Z2S l f;have cQ:∀ i o x i' o',J4 l f (.expr 1) i o=some (.ok x i' o')->i<=i':=λ_ _ _ _ _ h=>by have:=Z1Q l _ _ _ _ _ _ _ h;simp only [Call.lo] at this;omega
   simp only [Call.need,Call.fine] at h hc;have bq:∀ j o,i<l.length->i+1<=j->J4 l f (.expr 1) j o≠none:=λj o hi hj=>ih _ _ _ (by simp [Call.fine]) (by simp only [Call.need];omega)
   rw [J4];have kF:=λh=>Z4X (l:=l) (i:=i) h;split;simp;split;simp;split;simp;split;simp;split;rename_i ht;have hi:=kF (by rw [ht];decide);split;simp;rename_i h1;have:=Jc h1;split;rename_i h2;exact absurd h2 (bq _ _ hi (by omega));simp;split<;>simp
   split;rename_i ht;have hi:=kF (by rw [ht];decide);split;simp;rename_i h1;have:=Jc h1;split;rename_i h2;exact absurd h2 (bq _ _ hi (by omega));simp;rename_i h2;have:=cQ _ _ _ _ _ h2;split;rename_i h3;exact absurd h3 (Z4W (i+1) (λj o hj=>bq j o hi hj) cQ (λ_ _ _ _ _ _ h=>Zbt h) _ _ _ _ _ (by omega));simp;split<;>simp
   split;rename_i ht;have hi:=kF (λh0=>by rw [h0] at ht;revert ht;decide);split;simp;rename_i h1;have:=Z1j h1;split;simp;rename_i h2;have:=Jc h2;split;rename_i h3;exact absurd h3 (Z4W (i+1) (λj o hj=>bq j o hi hj) cQ (λ_ _ _ _ _ _ h=>Z9a h) _ _ _ _ _ (by omega));simp;split<;>simp
   split<;>simp
theorem Z9b (l:List Tkn) (i o:Nat):J4 l (Zbr l i) (.expr 1) i o=some (Z1P l i o):=by
 have:=Z2S l (Zbr l i) (.expr 1) i o (by simp [Call.fine]) (by simp only [Call.need,Zbr];omega);unfold Z1P;cases h:J4 l (Zbr l i) (.expr 1) i o with
 | none=>exact absurd h this
 | some r=>rfl
abbrev bts (s:Str):ByteArray:=⟨s.toArray⟩
def Itr (w:World) (b:Nat) (s:Str) (p:Nat):Prop:=w.heap[b]?=some (.stringIter (bts s) p)
theorem Itr.lt {w} {b p:Nat} {s:Str} (h:Itr w b s p):b<w.heap.size:=(Xk.1 h).1
def dec (s:Str) (p:Nat):Nat×Nat:=Utf8.decode (bts s) p
theorem Z5j (s:Str):(bts s).size=s.length:=by simp [ByteArray.size]
theorem Z4c {s:Str} {p:Nat} (h:p<s.length) (ha:(s[p]).toNat<128):dec s p=((s[p]).toNat,1):=by
 have h1:p<(bts s).size:=by rw [Z5j];exact h
 have e:(bts s)[p]'h1=s[p]:=by simp [bts,ByteArray.getElem_eq_getElem_data]
 have:=decode_ascii (bts s) p h1 (by rw [e];exact ha);rw [e] at this;exact this
theorem Zbu {s:Str} {p:Nat} (h:p<s.length) (ha:128<=(s[p]).toNat):128<=(dec s p).1/\1<=(dec s p).2:=by
 have h1:p<(bts s).size:=by rw [Z5j];exact h
 have e:(bts s)[p]'h1=s[p]:=by simp [bts,ByteArray.getElem_eq_getElem_data]
 exact decode_high (bts s) p h1 (by rw [e];exact ha)
theorem Zm7 {s:Str} {p:Nat} (h:p<s.length):1<=(dec s p).2:=by
 by_cases ha:(s[p]).toNat<128;rw [Z4c h ha];exact Xn _;exact (Zbu h (by omega)).2
section
variable {P:Program} {n:Nat} {e:Env} {w:World} {d:Option Nat} {ty:TypeId} {pos:String} {af:Array Edge} {g:Option (Nat×Bool)}
theorem Zbv {x:Operand} {t:TypeId} {s:Str} [hu:Und P t .string] (hx:ev e x=some (str s)):OE P n ⟨d,.range t x,ty,pos,af,g⟩ e w (λv w'=>∃ b,v=pQ b/\w.heap.size<=b/\Itr w' b s 0/\Stp [] w w'):=
 J9 (v:=.pointer (some ⟨w.heap.size,0,none⟩)) (w':=w.iter (bts s) 0) (λa ha=>by
  have:=run_range_string (P:=P) w t (bts s) hu.h;simp [execOp,ha.ev hx,this]) ⟨w.heap.size,rfl,Xn _,World.iter_heap _ _ _,Stp.alloc _ _ _⟩
theorem Zep {x:Operand} {s:Str} {b p:Nat} (hx:ev e x=some (pQ b)) (hI:Itr w b s p) (hp:p<s.length) :
 OE P n ⟨d,.next x true,ty,pos,af,g⟩ e w (λv w'=>v=.tuple #[.B true,.I p,.int .i32 ((dec s p).1:Int)]/\Itr w' b s (p+(dec s p).2)/\Stp [b] w w'):=by
 have hlt:=hI.lt;have pX:p<(bts s).size:=by rw [Z5j];exact hp
 unfold Itr at hI;refine J9 (v:=.tuple #[.B true,.I p,.int .i32 ((dec s p).1:Int)]) (w':={ w with heap:=w.heap.setIfInBounds b (.stringIter (bts s) (p+(dec s p).2)) }) (λa ha=>?_) ⟨rfl,?_,⟨rfl,rfl,rfl,by simp,λk hk hn=>?_⟩⟩
 . simp [execOp,ha.ev hx,Instr.next,getObj,setObj,Sem.run,hI,pX,goInt,dec]
 show (w.heap.setIfInBounds b _)[b]?=_;simp [hlt];show (w.heap.setIfInBounds b _)[k]?=_;exact YaH (by simpa using λh=>hn (by simp [h]))
theorem Z7I {x:Operand} {s:Str} {b p:Nat} (hx:ev e x=some (pQ b)) (hI:Itr w b s p) (hp:¬ p<s.length) :
 OE P n ⟨d,.next x true,ty,pos,af,g⟩ e w (λv w'=>v=.tuple #[.B false]/\w'=w):=by
 have pX:¬ p<(bts s).size:=by rw [Z5j];exact hp
 unfold Itr at hI;refine J9 (v:=.tuple #[.B false]) (w':=w) (λa ha=>?_) ⟨rfl,rfl⟩;simp [execOp,ha.ev hx,Instr.next,getObj,Sem.run,hI,pX]
theorem Zbw {x:Operand} {t:TypeId} {i:Nat} {u v:Value} (hx:ev e x=some u) (hb:∀ w,(Instr.field t u i).run P w=.ok v w):PR P n ⟨d,.field t x i,ty,pos,af,g⟩ e w v:=
 ⟨λa ha=>by simp [execOp,ha.ev hx,hb]⟩
end
def Zfp (c:UInt8):Bool:=decide (97<=c.toNat) && decide (c.toNat<=122)
def J3 (c:UInt8):Bool:=decide (48<=c.toNat) && decide (c.toNat<=57)
def ldB (c:UInt8):Bool:=Zfp c || J3 c
def Z1A (s:Str):Nat:=s.foldl (λn c=>10 * n+(c.toNat - 48)) 0
def Z11 (y:Int):Bool:=decide (y % 4=0) && (decide (¬ y % 100=0) || decide (y % 400=0))
def ZG (y m:Int):Int:=
 if m<1\/12<m then 0 else if m=2 then (if Z11 y then 29 else 28) else if m=4\/m=6\/m=9\/m=11 then 30 else 31
def Z00 (y m d:Int):Int:=
 let (y,m):=if m - 3<0 then (y - 1,m+9) else (y,m - 3)
 365 * y+y / 4 - y / 100+y / 400+(153 * m+2) / 5+d - 307
def Z1w (s:Str):Int×Int:=
 if s.length=10/\s.getD 4 0=45/\s.getD 7 0=45/\((s.take 4).all J3/\((s.drop 5).take 2).all J3/\(s.drop 8).all J3) then
  let y:Int:=Z1A (s.take 4)
  let m:Int:=Z1A ((s.drop 5).take 2)
  let d:Int:=Z1A (s.drop 8)
  if y<1\/9999<y\/m<1\/12<m\/d<1\/ZG y m<d then (0,5) else (Z00 y m d,0)
 else (0,7)
inductive Lx where
 | err (c:Int)
 | ok (t:Tkn)
def Z5k (s:Str):Lx:=let n:=(s.takeWhile ldB).length;if 12<n then .err 2 else .ok ⟨1,0,s.take n,0⟩
def Z4d (s:Str):Lx:=
 let t:=s.takeWhile J3
 if 1<t.length/\t.getD 0 0=48 then .err 20 else if 2147483647<Z1A t then .err 5 else .ok ⟨2,0,t,Z1A t⟩
def Jd:Str:=[64,100,100,100,100,45,100,100,45,100,100]
def Z5l (c x:UInt8):Bool:=if c=100 then J3 x else decide (x=c)
def Zag (s:Str):Lx:=
 if s.length<11 then .err 20 else if ((Jd.zip s).all λp=>Z5l p.1 p.2) then
  (let d:=Z1w ((s.take 11).drop 1);if d.2=0 then .ok ⟨3,0,s.take 11,d.1⟩ else .err 5)
 else .err 20
def Zbx:Str:=[123,125,40,41,59,44,43,45,42,60,61,62]
def Z05 (s:Str):Lx:=
 if s.take 2=[60,61]\/s.take 2=[33,61]\/s.take 2=[62,61] then .ok ⟨4,0,s.take 2,0⟩
 else if s.getD 0 0∈Zbx then .ok ⟨4,0,s.take 1,0⟩ else .err 20
def Z15 (s:Str):Lx:=
 let c:=s.getD 0 0
 if Zfp c then Z5k s else if J3 c then Z4d s else if c=64 then Zag s else Z05 s
def Z63 (c:UInt8):Bool:=c=9 || c=10 || c=13 || c=32
inductive Tks where
 | err (a c:Int)
 | ok (l:List Tkn)
def Z0s (nl:Str->Nat) (s:Str):Nat->Nat->List Tkn->Tks
 | 0,at_,l=>.ok (l++[⟨0,at_,[],0⟩])
 | f + 1, at_, l=>
   if at_<s.length then
    let rest:=s.drop at_
    let c:=rest.getD 0 0
    if Z63 c then Z0s nl s f (at_+1) l
    else if c=35 then Z0s nl s f (at_+nl rest) l
    else match Z15 rest with
     | .err e=>.err at_ e
     | .ok t=>Z0s nl s f (at_+t.text.length) (l++[{ t with pos:=at_ }])
   else .ok (l++[⟨0,at_,[],0⟩])
structure ZiN (t:Tkn):Prop where
 kind:t.kind≠0
 kinds:1<=t.kind/\t.kind<=4
 text:t.text≠[]
 sp:∀ c∈t.text,c≠32
 word:t.kind=1->t.text.length<=12/\(∀ c∈t.text,ldB c=true)/\Zfp (t.text.getD 0 0)=true
 num:t.kind=2->0<=t.num/\t.num<=2147483647
 day:t.kind=3->0<=t.num/\t.num<=3652058
theorem Z0H {p:UInt8->Bool}:∀ {l:Str} {c:UInt8},c∈l.takeWhile p->p c=true
 | [],c,h=>by simp at h
 | a :: r, c, h => by
   simp only [Ybm] at h;split at h;rename_i ha;rcases Xb.1 h with rfl|h
   exact ha;exact Z0H h;simp at h
theorem JV {p:UInt8->Bool}:∀ (l:Str),l.take (l.takeWhile p).length=l.takeWhile p
 | []=>by simp
 | a :: r => by
   simp only [Ybm];split;simp [JV r];simp
theorem ZvC {c:UInt8} (h:ldB c=true):c≠32:=by rintro rfl;revert h;decide
theorem ZiO {c:UInt8} (h:J3 c=true):c≠32:=by rintro rfl;revert h;decide
theorem Zsj {c x:UInt8} (h:Z5l c x=true) (hc:c≠32):x≠32:=by
 unfold Z5l at h;split at h;exact ZiO h;simp at h;rw [h];exact hc
theorem Zeq {p:UInt8->UInt8->Bool}:∀ {a s:Str},a.length<=s.length->((a.zip s).all λq=>p q.1 q.2)=true->∀ x∈s.take a.length,∃ c∈a,p c x=true
 | [],s,hl,h,x,hx=>by simp at hx
 | c :: a,[],hl,h,x,hx=>by simp at hl
 | c :: a, y :: s, hl, h, x, hx => by
   simp only [List.zip_cons_cons,Ya1,Xm] at h;simp only [Xe,YaX,Xb] at hx;rcases hx with rfl|hx
   exact ⟨c,by simp,h.1⟩;obtain ⟨d,hd,h'⟩:=Zeq (by simpa using hl) h.2 x hx;exact ⟨d,by simp [hd],h'⟩
theorem Z2T (y m:Int):ZG y m<=31:=by
 unfold ZG;repeat' split
 all_goals omega
theorem dayM_range {y m d:Int} (hy:1<=y) (eA:y<=9999) (hm:1<=m) (eP:m<=12) (hd:1<=d) (lU:d<=ZG y m):0<=Z00 y m d/\Z00 y m d<=3652058:=by
 have pY:=Z2T y m;have kl:m=1\/m=2\/m=3\/m=4\/m=5\/m=6\/m=7\/m=8\/m=9\/m=10\/m=11\/m=12:=by omega
 unfold Z00;rcases kl with rfl|rfl|rfl|rfl|rfl|rfl|rfl|rfl|rfl|rfl|rfl|rfl<;>simp<;>omega
theorem Zby (s:Str):0<=(Z1w s).1/\(Z1w s).1<=3652058:=by
 unfold Z1w;split;simp only;split;simp;rename_i h;simp only [not_or,Int.not_lt] at h;exact dayM_range h.1 h.2.1 h.2.2.1 h.2.2.2.1 h.2.2.2.2.1 h.2.2.2.2.2;simp
theorem Z3B {s:Str} {t:Tkn} (hs:s≠[]) (bB:s.getD 0 0≠32) (h:Z15 s=.ok t):ZiN t/\t.text.length<=s.length/\t.text=s.take t.text.length:=by
 obtain ⟨a,r,rfl⟩:∃ a r,s=a :: r:=by cases s with|nil=>exact absurd rfl hs|cons a r=>exact ⟨a,r,rfl⟩
 simp only [XY] at bB;unfold Z15 at h;simp only [XY] at h;split at h;rename_i hl;unfold Z5k at h;simp only at h;split at h;simp at h;rename_i hn;simp only [Lx.ok.injEq] at h;subst h;have pZ:ldB a=true:=by simp [ldB,hl]
 have aU:(a :: r).takeWhile ldB=a :: r.takeWhile ldB:=by simp [pZ]
 have ht:=JV (p:=ldB) (a :: r);refine ⟨⟨by simp,by simp,?_,?_,λ_=>⟨?_,?_,?_⟩,by simp,by simp⟩,by simp;omega,by simp⟩;simp only;rw [ht,aU];simp;simp only;rw [ht];exact λc hc=>ZvC (Z0H hc);simp only;rw [ht];omega;simp only;rw [ht];exact λc hc=>Z0H hc;simp only;rw [ht,aU];simpa using hl;split at h;rename_i hl;unfold Z4d at h;simp only at h;split at h;simp at h;split at h;simp at h;rename_i hn;simp only [Lx.ok.injEq] at h;subst h;have aU:(a :: r).takeWhile J3=a :: r.takeWhile J3:=by simp [hl]
 have ht:=JV (p:=J3) (a :: r);have ai:=congrArg List.length ht;simp only [Xw] at ai;refine ⟨⟨by simp,by simp,?_,?_,by simp,λ_=>⟨?_,?_⟩,by simp⟩,?_,?_⟩;simp only;rw [aU];simp;exact λc hc=>ZiO (Z0H hc);simp only;omega;simp only;omega;simp only;omega;exact ht.symm;split at h;rename_i jR;unfold Zag at h;split at h;simp at h;rename_i lV;split at h;rename_i hf;simp only at h;split at h;simp only [Lx.ok.injEq] at h;subst h;have hd:=Zby (((a :: r).take 11).drop 1);refine ⟨⟨by simp,by simp,by simp,?_,by simp,by simp,λ_=>hd⟩,by simp;omega,by simp⟩;intro c hc;obtain ⟨x,hx,h'⟩:=Zeq (a:=Jd) (s:=a :: r) (by simp only [Jd,Xe,Xf] at lV ⊢;omega) hf c hc;exact Zsj h' (by revert hx;simp only [Jd];intro hx h0;subst h0;simp at hx);simp at h;simp at h;unfold Z05 at h;split at h;rename_i h2;simp only [Lx.ok.injEq] at h;subst h;refine ⟨⟨by simp,by simp,by simp,?_,by simp,by simp,by simp⟩,by simp;omega,by simp⟩;simp only;intro c hc;rcases h2 with h2|h2|h2<;>rw [h2] at hc<;>(rintro rfl;simp at hc)
 split at h;simp only [Lx.ok.injEq] at h;subst h;refine ⟨⟨by simp,by simp,by simp,?_,by simp,by simp,by simp⟩,by simp,by simp⟩;simp only [YaX,YbI,Xl];rintro c rfl;exact bB;simp at h
theorem Z2U {nl:Str->Nat} {s:Str} (ax:s.length<=4000):∀ (f at_:Nat) (l l':List Tkn),(∀ t∈l,ZiN t)->(∀ t∈l,t.text.length<=4000)->l.length<=at_->l.length<=s.length->Z0s nl s f at_ l=.ok l'->
 ∃ l1 p,l'=l1++[⟨0,p,[],0⟩]/\(∀ t∈l1,ZiN t)/\(∀ t∈l1,t.text.length<=4000)/\l1.length<=s.length
 | 0, at_, l, l', h1, h2, h3, h4, h => by
   simp only [Z0s,Tks.ok.injEq] at h;exact ⟨l,_,h.symm,h1,h2,h4⟩
 | f + 1, at_, l, l', h1, h2, h3, h4, h => by
   simp only [Z0s] at h;split at h;rename_i hlt;split at h;exact Z2U ax f _ _ _ h1 h2 (by omega) h4 h;split at h;exact Z2U ax f _ _ _ h1 h2 (by omega) h4 h
   . rename_i mR _
     cases hr:Z15 (s.drop at_) with
     | err e=>rw [hr] at h;simp at h
     | ok t=>
       rw [hr] at h;simp only at h;obtain ⟨g1,g2,g3⟩:=Z3B (s:=s.drop at_) (by simp;omega) (by rintro mS;rw [mS] at mR;exact mR (by decide)) hr;have aW:1<=t.text.length:=by
        have:=g1.text;cases ht:t.text with
        | nil=>exact absurd ht this
        | cons a r=>simp
       have ai:t.text.length<=s.length - at_:=by simpa using g2
       refine Z2U ax f _ _ _ ?_ ?_ ?_ ?_ h;intro u hu;rcases Xh.1 hu with hu|hu
       exact h1 u hu;simp only [Xl] at hu;subst hu;exact ⟨g1.kind,g1.kinds,g1.text,g1.sp,g1.word,g1.num,g1.day⟩;intro u hu;rcases Xh.1 hu with hu|hu
       exact h2 u hu;simp only [Xl] at hu;subst hu;simp only;omega;simp;omega;simp;omega
   simp only [Tks.ok.injEq] at h;exact ⟨l,_,h.symm,h1,h2,h4⟩
theorem Zm8 {l1:List Tkn} {p:Int} (h1:∀ t∈l1,ZiN t) (h2:∀ t∈l1,t.text.length<=4000) (h3:l1.length<=4000) (h4:∀ t∈l1,t.text∉Z8I):Z3A (l1++([⟨0,p,[],0⟩]:List Tkn)):=by
 have hc:∀ i,cur (l1++([⟨0,p,[],0⟩]:List Tkn)) i=⟨0,p,[],0⟩\/cur (l1++([⟨0,p,[],0⟩]:List Tkn)) i=default\/cur (l1++([⟨0,p,[],0⟩]:List Tkn)) i∈l1:=by
  intro i;unfold cur;rw [XA,List.getElem?_append];split;rename_i h
  right;right;simp [h]
  . cases hk:i - l1.length with
    | zero=>left;simp
    | succ j=>right;left;simp
 refine ⟨by simp,?_,?_,by simp;omega,?_,?_,?_⟩;have:cur (l1++([⟨0,p,[],0⟩]:List Tkn)) ((l1++([⟨0,p,[],0⟩]:List Tkn)).length - 1)=⟨0,p,[],0⟩:=by
  unfold cur;simp
 rw [this];exact ⟨rfl,rfl⟩;intro i hi;have cn:i<l1.length:=by simpa using hi
 have:cur (l1++([⟨0,p,[],0⟩]:List Tkn)) i=l1[i]:=by
  unfold cur;rw [XA,Yaa cn];simp [cn]
 rw [this];have:=h1 _ (Xd cn);exact ⟨this.kind,this.text⟩;intro i c bU;rcases hc i with h|h|h
 rw [h] at bU;simp at bU;rw [h] at bU;simp [default] at bU;exact (h1 _ h).sp c bU;intro i;rcases hc i with h|h|h
 rw [h];simp;rw [h];simp [default];exact h2 _ h;intro i;rcases hc i with h|h|h
 rw [h];exact (by decide:([]:Str)∉Z8I);rw [h];exact (by decide:([]:Str)∉Z8I);exact h4 _ h
def JN (s:Str) (p:Nat->Bool):Nat->Nat->Nat
 | 0,_=>s.length
 | f+1,i=>if i<s.length then (if p (dec s i).1 then JN s p f (i+(dec s i).2) else i) else s.length
theorem Z9c (s:Str) (p:Nat->Bool):∀ (f i:Nat),JN s p f i<=s.length
 | 0,i=>Xn _
 | f + 1, i => by
   unfold JN;split;split;exact Z9c s p f _;omega;exact Xn _
theorem Z9d (s:Str) (p:Nat->Bool):∀ (f i:Nat),i<=s.length->i<=JN s p f i
 | 0,i,h=>h
 | f + 1, i, h => by
   unfold JN;split;split;by_cases hw:i+(dec s i).2<=s.length;exact Xg (Nat.le_add_right _ _) (Z9d s p f _ hw)
   . have:∀ f j,s.length<j->JN s p f j=s.length:=λf j hj=>by
      cases f with
      | zero=>rfl
      | succ f=>unfold JN;rw [if_neg (by omega)]
     rw [this _ _ (by omega)];omega
   exact Xn _;exact h
theorem Z2V (p:Nat->Bool) (q:UInt8->Bool) (hq:∀ c:UInt8,c.toNat<128->p c.toNat=q c) (hp:∀ n,128<=n->p n=false) (hq2:∀ c:UInt8,128<=c.toNat->q c=false) (s:Str) :
 ∀ (f i:Nat),i<=s.length->s.length<=i+f->JN s p f i=i+((s.drop i).takeWhile q).length
 | 0, i, h1, h2 => by
   have:i=s.length:=by omega
   subst this;simp [JN]
 | f + 1, i, h1, h2 => by
   unfold JN;by_cases hlt:i<s.length;rw [if_pos hlt];have hd:s.drop i=s[i] :: s.drop (i+1):=X3 hlt;rw [hd,Ybm];by_cases ha:(s[i]).toNat<128;rw [Z4c hlt ha];simp only [hq _ ha];split;rw [Z2V p q hq hp hq2 s f (i+1) (by omega) (by omega),Xe];omega;simp;have h3:=(Zbu hlt (by omega)).1;rw [hp _ h3,hq2 _ (by omega)];simp;rw [if_neg hlt];rw [Yav (by omega)];simp;omega
def Zah (n:Nat):Bool:=decide (97<=n) && decide (n<=122)
def Z64 (n:Nat):Bool:=decide (48<=n) && decide (n<=57)
def Z7J (n:Nat):Bool:=decide (¬ n=10)
def nlM (s:Str):Nat:=JN s Z7J s.length 0
def Z0t (s:Str):Tks:=if 4000<s.length then .err 4000 2 else Z0s nlM s (s.length+1) 0 []
theorem Zfq (s:Str):JN s Z64 s.length 0=(s.takeWhile J3).length:=by
 rw [Z2V Z64 J3 (λc h=>rfl) (λn h=>by unfold Z64;simp;omega) (λc h=>by unfold J3;simp;omega) s s.length 0 (by omega) (by omega)];simp
theorem ZiP (s:Str):JN s (λn=>Zah n || Z64 n) s.length 0=(s.takeWhile ldB).length:=by
 rw [Z2V (λn=>Zah n || Z64 n) ldB (λc h=>rfl) (λn h=>by unfold Zah Z64;simp;omega) (λc h=>by unfold ldB Zfp J3;simp;omega) s s.length 0 (by omega) (by omega)];simp
end Go.Eng
namespace Go.Proofs.YtipfkbkkndacjaaGreatDoor
open Go Go.Eng Go.RowKit Go.Proofs
theorem Z7K (c:Nat) (w):CC 219 #[.int .i32 (c:Int)] w λr w'=>r=.B (Zah c)/\w'=w:=by
 unfold Zah;refine cW1 9 Tryz.func219 ?_
 (refine QP ?_ ?_<;>intro hg)
 all_goals refine WR ?_
 all_goals refine .mk ⟨?_,rfl⟩
 all_goals congr 1
 all_goals (first|done|(rw [Yac];simp;omega)|(simp [*]))
theorem Z4e (c:Nat) (w):CC 221 #[.int .i32 (c:Int)] w λr w'=>r=.B (Z64 c)/\w'=w:=by
 unfold Z64;refine cW1 9 Tryz.func221 ?_
 (refine QP ?_ ?_<;>intro hg)
 all_goals refine WR ?_
 all_goals refine .mk ⟨?_,rfl⟩
 all_goals congr 1
 all_goals (first|done|(rw [Yac];simp;omega)|(simp [*]))
theorem Zsk (c:Nat) (w):CC 218 #[.int .i32 (c:Int)] w λr w'=>r=.B (Z7J c)/\w'=w:=by
 unfold Z7J;refine cW1 5 Tryz.func218 ?_;refine QO ?_;all_goals refine WR ?_
 all_goals refine .mk ⟨?_,rfl⟩
 all_goals congr 1
 all_goals (first|done|(rw [Yac];simp;omega)|(simp [*]))
theorem Zsl (c:Nat) (w):CC 275 #[.int .i32 (c:Int)] w λr w'=>r=.B (Zah c || Z64 c)/\w'=w:=by
 refine cW1 9 Tryz.func275 ?_;refine W ?_;refine CL (Z7K c _) ?_;rintro _ _ ⟨rfl,rfl⟩;cases Zah c;refine W ?_;refine CL (Z4e c _) ?_;rintro _ _ ⟨rfl,rfl⟩;refine RT ?_;exact ⟨rfl,rfl⟩;refine RT ?_;exact ⟨rfl,rfl⟩
theorem Z65 {g:Nat} {fn:Func} [hf:Fun Tryz.prog g fn] (p:Nat->Bool) (hg:∀ (c:Nat) (w),CC g #[.int .i32 (c:Int)] w λr w'=>r=.B (p c)/\w'=w) (s:Str) (w) (hl:s.length<=1000000) :
 CC 217 #[str s,.func (.func g) #[] #[]] w λr w'=>r=.I (JN s p s.length 0:Int)/\Stp [] w w':=by
 refine cW2 20 Tryz.func217 ?_;refine W ?_;refine Z0 (Zbv rfl) rfl ?_;rintro _ w1 ⟨b,rfl,hb,hI,hS⟩;refine W ?_;refine Zr (σ:=Nat×Nat) (λq=>[(0,str s),(1,.func (.func g) #[] #[]),(8,pQ b)]) (λq w'=>Itr w' b s q.2/\Stp [] w w'/\JN s p q.1 q.2=JN s p s.length 0/\s.length<=q.2+q.1) (λq=>q.1+1 - (if q.2<s.length then 0 else 1)) (s.length,0) ⟨rfl,rfl,rfl,trivial⟩ ⟨hI,hS,rfl,by omega⟩ ?_;rintro ⟨f,i⟩ w2 ⟨hI,hS,he,dS⟩;dsimp only at hI hS he dS ⊢;generalize JN s p s.length 0=R at he ⊢;by_cases hlt:i<s.length;obtain ⟨f,rfl⟩:∃ f',f=f'+1:=⟨f - 1,by omega⟩
 have hd:=Zm7 hlt;unfold JN at he;rw [if_pos hlt] at he;refine W ?_;refine Z0 (Zep rfl hI hlt) rfl ?_;rintro _ w3 ⟨rfl,uR,hT⟩;replace hS:=hS.ow hT;refine W ?_;refine CL (hg _ _) ?_;rintro _ _ ⟨rfl,rfl⟩;cases sU:p (dec s i).1;rw [sU] at he;refine W ?_;refine WR ?_;simp only [XP,if_false] at he;exact .mk ⟨by rw [<- he];rfl,hS⟩
 . rw [sU] at he
   refine W ?_;refine Zw (f,i+(dec s i).2) ⟨rfl,rfl,rfl,trivial⟩ ⟨uR,hS,he,by dsimp only;omega⟩ ?_;dsimp only;repeat' split
   all_goals omega
 . refine W ?_
   refine Z0 (Z7I rfl hI hlt) rfl ?_;rintro _ _ ⟨rfl,rfl⟩;refine W ?_;refine WR ?_;refine .mk ⟨?_,hS⟩;rw [<- he];cases f with
   | zero=>rfl
   | succ f=>unfold JN;rw [if_neg hlt]
end Go.Proofs.YtipfkbkkndacjaaGreatDoor
namespace Go.Eng
open Go Go.RowKit Go.Proofs
inductive Ps where
 | err (a c:Int)
 | ok (l:List RuleM)
def Z2W (s:Str):Ps:=
 match Z0t s with
 | .err a c=>.err a c
 | .ok l => match Z2p l (l.length + 1) [] 0 0 with
   | .err a c=>.err a c
   | .ok rs _ _=>.ok rs
def Z5m (d:Nat):Nat:=(d - d / 1460+d / 36524 - d / 146096) / 365
def Z66 (y:Nat):Nat:=365 * y+y / 4 - y / 100
def ZiQ (y:Nat):Bool:=Nat.beq (y % 4) 0 && (!(Nat.beq (y % 100) 0) || Nat.beq (y % 400) 0)
def Zsm (d:Nat):Bool:=Nat.ble 146097 d || (Nat.ble (Z66 (Z5m d)) d && (Nat.blt d (Z66 (Z5m d)+365) || (Nat.beq d (Z66 (Z5m d)+365) && ZiQ (Z5m d+1))))
def ZiR:Nat->Nat->Bool
 | 0,lo=>Zsm lo
 | k+1,lo=>ZiR k lo && ZiR k (lo+2 ^ k)
theorem Z67:∀ (k lo d:Nat),ZiR k lo=true->lo<=d->d<lo+2 ^ k->Zsm d=true
 | 0, lo, d, h, h1, h2 => by
   have:d=lo:=by simp at h2;omega
   subst this;exact h
 | k + 1, lo, d, h, h1, h2 => by
   simp only [ZiR,Xm] at h;rw [Ybo] at h2;rcases Yat d (lo+2 ^ k) with h3|h3
   exact Z67 k lo d h.1 h1 h3;exact Z67 k (lo+2 ^ k) d h.2 h3 (by omega)
theorem ZiS:ZiR 18 0=true:=by kernel_rfl
theorem ZiT (y:Nat):ZiQ y=Z11 (y:Int):=by
 unfold ZiQ Z11;have h:∀ a b:Nat,Nat.beq (a % b) 0=decide ((a:Int) % (b:Int)=0):=λa b=>by
  rw [Yac];simp only [decide_eq_true_eq];rw [Nat.beq_eq];omega
 rw [show Nat.beq (y % 4) 0=decide ((y:Int) % 4=0) from h y 4,show Nat.beq (y % 100) 0=decide ((y:Int) % 100=0) from h y 100,show Nat.beq (y % 400) 0=decide ((y:Int) % 400=0) from h y 400];simp
structure Dat where
 y:Int
 m:Int
 d:Int
def ofM (day:Int):Dat:=
 let z:=day+306
 let era:=z / 146097
 let doe:=z % 146097
 let yoe:=(doe - doe / 1460+doe / 36524 - doe / 146096) / 365
 let doy:=doe - (365 * yoe+yoe / 4 - yoe / 100)
 let m:=(5 * doy+2) / 153
 if m>=10 then ⟨yoe+400 * era+1,m - 9,doy - (153 * m+2) / 5+1⟩ else ⟨yoe+400 * era,m+3,doy - (153 * m+2) / 5+1⟩
theorem ZiU:∀ q:Nat,q<366->(5 * q+2) / 153<=11/\(153 * ((5 * q+2) / 153)+2) / 5<=q/\
 q - (153 * ((5 * q+2) / 153)+2) / 5+1<=(if (5 * q+2) / 153=11 then (if q=365 then 29 else 28) else if (5 * q+2) / 153=1\/(5 * q+2) / 153=3\/(5 * q+2) / 153=6\/(5 * q+2) / 153=8 then 30 else 31):=by decide +kernel
theorem ZiV (doe:Int) (h0:0<=doe) (h1:doe<146097):∃ yoe doy:Nat,(doe - doe / 1460+doe / 36524 - doe / 146096) / 365=(yoe:Int)/\doe - (365 * (yoe:Int)+(yoe:Int) / 4 - (yoe:Int) / 100)=(doy:Int)/\yoe<=399/\doy<=365/\(doy=365->Z11 ((yoe:Int)+1)=true):=by
 obtain ⟨d,rfl⟩:∃ d:Nat,doe=(d:Int):=⟨doe.toNat,by omega⟩
 have hd:d<146097:=by omega
 have h:=Z67 18 0 d ZiS (by omega) (by omega);unfold Zsm at h;rw [show Nat.ble 146097 d=false by rw [Ybt];simp;omega] at h;simp only [Ybw,Xm,YaE,Nat.ble_eq,Nat.beq_eq] at h;obtain ⟨h2,h3⟩:=h;have hy:((d:Int) - (d:Int) / 1460+(d:Int) / 36524 - (d:Int) / 146096) / 365=((Z5m d:Nat):Int):=by unfold Z5m;omega
 have p9:Z5m d<=399:=by unfold Z5m;omega
 have ay:(Z66 (Z5m d):Int)=365 * (Z5m d:Int)+(Z5m d:Int) / 4 - (Z5m d:Int) / 100:=by unfold Z66;omega
 refine ⟨Z5m d,d - Z66 (Z5m d),hy,by omega,p9,?_,λh4=>?_⟩;rcases h3 with h3|h3
 have:=XV h3;omega;have:=h3.1;omega;rcases h3 with h3|h3
 have:=XV h3;omega;have:=h3.2;rw [ZiT] at this;exact this
theorem Zfr (y e:Int):Z11 (y+400 * e)=Z11 y:=by
 unfold Z11;have h4:(y+400 * e) % 4=y % 4:=by omega
 have jf:(y+400 * e) % 100=y % 100:=by omega
 have qa:(y+400 * e) % 400=y % 400:=by omega
 rw [h4,jf,qa]
theorem Zai {n:Int} (h0:0<=n) (h1:n<=3652058):1<=(ofM n).y/\(ofM n).y<=9999/\1<=(ofM n).m/\(ofM n).m<=12/\1<=(ofM n).d/\(ofM n).d<=ZG (ofM n).y (ofM n).m/\Z00 (ofM n).y (ofM n).m (ofM n).d=n:=by
 obtain ⟨yoe,doy,e1,e2,hy,hd,hl⟩:=ZiV ((n+306) % 146097) (by omega) (by omega);obtain ⟨m1,m2,m3⟩:=ZiU doy (by omega);have uS:(n+306) / 146097 * 146097+(n+306) % 146097=n+306:=by omega
 unfold ofM;simp only;rw [e1,e2];have em:(5 * (doy:Int)+2) / 153=(((5 * doy+2) / 153:Nat):Int):=by omega
 rw [em];have ek:(153 * (((5 * doy+2) / 153:Nat):Int)+2) / 5=(((153 * ((5 * doy+2) / 153)+2) / 5:Nat):Int):=by omega
 rw [ek];generalize (n+306) / 146097=era at *;generalize (n+306) % 146097=doe at *;have sV:∀ m:Nat,m<=11->(153 * (m:Int)+2) / 5=(((153 * m+2) / 5:Nat):Int):=λm _=>by omega
 generalize hm:(5 * doy+2) / 153=m at *;have q4:((yoe:Int)+400 * era) / 4=(yoe:Int) / 4+100 * era:=by omega
 have q100:((yoe:Int)+400 * era) / 100=(yoe:Int) / 100+4 * era:=by omega
 have q400:((yoe:Int)+400 * era) / 400=era:=by omega
 by_cases gD:((m:Nat):Int)>=10;rw [if_pos gD];simp only;have gG:Z00 ((yoe:Int)+400 * era+1) ((m:Int) - 9) ((doy:Int) - (((153 * m+2) / 5:Nat):Int)+1)=n:=by
  unfold Z00;rw [if_pos (by omega)];simp only;rw [show (yoe:Int)+400 * era+1 - 1=(yoe:Int)+400 * era by omega,show (m:Int) - 9+9=(m:Int) by omega,sV m m1,q4,q100,q400];omega
 refine ⟨?_,?_,by omega,by omega,by omega,?_,gG⟩;omega;omega;have kl:m=10\/m=11:=by omega
 rcases kl with rfl|rfl
 unfold ZG;rw [if_neg (by omega),if_neg (by omega),if_neg (by omega)];rw [if_neg (by omega),if_neg (by omega)] at m3;omega;unfold ZG;rw [if_neg (by omega),if_pos (by omega)];rw [if_pos rfl] at m3;by_cases kG:doy=365;rw [if_pos kG] at m3;have gj:Z11 ((yoe:Int)+400 * era+1)=true:=by
  rw [show (yoe:Int)+400 * era+1=((yoe:Int)+1)+400 * era by omega,Zfr];exact hl kG
 rw [gj];simp only [if_true];omega;rw [if_neg kG] at m3;split<;>omega
 rw [if_neg gD];simp only;have gG:Z00 ((yoe:Int)+400 * era) ((m:Int)+3) ((doy:Int) - (((153 * m+2) / 5:Nat):Int)+1)=n:=by
  unfold Z00;rw [if_neg (by omega)];simp only;rw [show (m:Int)+3 - 3=(m:Int) by omega,sV m m1,q4,q100,q400];omega
 refine ⟨?_,?_,by omega,by omega,by omega,?_,gG⟩;omega;omega;unfold ZG;rw [if_neg (by omega),if_neg (by omega)];rw [if_neg (by omega)] at m3;split at m3;rw [if_pos (by omega)];omega;rw [if_neg (by omega)];omega
theorem Z4F:∀ (k u:Nat),u<10 ^ (k+1)->(Lib.decDigits u).length<=k+1
 | 0,u,h=>by rw [Lib.decDigits,dif_pos (by simpa using h)];simp
 | k + 1, u, h => by
   rw [Lib.decDigits];split;simp;have:=Z4F k (u / 10) (by rw [Ybo] at h;omega);simp;omega
def Z16 (y:Int):Int:=365 * (y - 1)+(y - 1) / 4 - (y - 1) / 100+(y - 1) / 400
def Z27 (y:Int):Nat->Int
 | 0=>0
 | k+1=>Z27 y k+ZG y ((k:Int)+1)
theorem Z9e (y:Int):Z11 y=true↔(y % 4=0/\(¬ y % 100=0\/y % 400=0)):=by
 unfold Z11;simp
theorem Z6H (y:Int):Z16 (y+1)=Z16 y+(if Z11 y=true then 366 else 365):=by
 unfold Z16;have h:=Z9e y;by_cases hl:Z11 y=true;rw [if_pos hl];have:=h.1 hl;omega;rw [if_neg hl];have:¬ (y % 4=0/\(¬ y % 100=0\/y % 400=0)):=λh'=>hl (h.2 h');omega
theorem Z3C {a b:Int} (h:a<=b):Z16 a<=Z16 b:=by
 unfold Z16;omega
theorem Z2b {y:Int} {k:Nat} (hk:k<12):28<=ZG y ((k:Int)+1):=by
 unfold ZG;rw [if_neg (by omega)];repeat' split
 all_goals omega
theorem Zm9 (y:Int):∀ k:Nat,k<=11->Z27 y k=(if k<2 then 31 * (k:Int) else (if Z11 y=true then 1 else 0)+(153 * ((k:Int) - 2)+2) / 5+59):=by
 intro k hk;have:k=0\/k=1\/k=2\/k=3\/k=4\/k=5\/k=6\/k=7\/k=8\/k=9\/k=10\/k=11:=by omega
 rcases this with rfl|rfl|rfl|rfl|rfl|rfl|rfl|rfl|rfl|rfl|rfl|rfl<;>simp [Z27,ZG]<;>cases Z11 y<;>simp
theorem ZvD (y:Int):Z27 y 12=if Z11 y=true then 366 else 365:=by
 simp [Z27,ZG];cases Z11 y<;>simp
theorem Z2w (y d:Int) (k:Nat) (hk:k<=11):Z00 y ((k:Int)+1) d=Z16 y+Z27 y k+d - 1:=by
 rw [Zm9 y k hk];unfold Z00;by_cases h2:k<2;rw [if_pos h2,if_pos (by omega)];simp only;unfold Z16;omega;rw [if_neg h2,if_neg (by omega)];simp only;have h:=Z6H y;have hl:=Z9e y;have e:(153 * ((k:Int)+1 - 3)+2) / 5=(153 * ((k:Int) - 2)+2) / 5:=by congr 2;omega
 rw [e];generalize (153 * ((k:Int) - 2)+2) / 5=z;have e2:Z16 (y+1)=365 * y+y / 4 - y / 100+y / 400:=by unfold Z16;omega
 rw [e2] at h;by_cases dT:Z11 y=true;rw [if_pos dT] at h ⊢;omega;rw [if_neg dT] at h ⊢;omega
theorem Z4f {y:Int}:∀ {a b:Nat},a<=b->b<=12->Z27 y a<=Z27 y b
 | a, 0, h, _ => by obtain rfl : a = 0 := by omega
                    exact YaU _
 | a, b + 1, h, h2 => by
   by_cases e:a=b+1;subst e;exact YaU _;have:=Z4f (y:=y) (a:=a) (b:=b) (by omega) (by omega);have:=Z2b (y:=y) (k:=b) (by omega);simp only [Z27];omega
theorem ZiW (k:Nat) (h:0<k):Lib.decDigits k=(if k / 10=0 then [] else Lib.decDigits (k / 10))++[UInt8.ofNat (48+k % 10)]:=by
 rw [Lib.decDigits];by_cases gD:k<10;rw [dif_pos gD,if_pos (by omega)];simp [Nat.mod_eq_of_lt gD];rw [dif_neg gD,if_neg (by omega)]
theorem Zfs (d:Nat) (h:d<10):(([48,49,50,51,52,53,54,55,56,57]:Str).take (d+1)).drop d=[UInt8.ofNat (48+d)]:=by
 have:d=0\/d=1\/d=2\/d=3\/d=4\/d=5\/d=6\/d=7\/d=8\/d=9:=by omega
 rcases this with rfl|rfl|rfl|rfl|rfl|rfl|rfl|rfl|rfl|rfl<;>rfl
variable {P:Program} {n:Nat} {e:Env} {w:World} {d:Option Nat} {ty:TypeId} {pos:String} {af:Array Edge} {g:Option (Nat×Bool)}
theorem Zaj {x:Operand} {t:TypeId} {el:TypeId} [hu:Und P t (.slice el)] {p:Option Addr} {l c:Nat} (hx:ev e x=some (.slice p l c)) :
 PR P n ⟨d,.call { callee:=.builtin .cap,args:=#[x],argTypes:=#[t] },ty,pos,af,g⟩ e w (.I (c:Int)):=
 ⟨λa ha => by
   have:=run_cap_slice (P:=P) w t ty p l c (by rw [hu.h,Program.elem,hu.h]);simp [execOp,resolve,invoke,builtin,ha.ev hx,this,goInt]⟩
theorem Z7L {t el k:Nat} {x hi:Operand} {l c:Nat} [hu:Und P t (.slice el)] [hk:Siz P el k] (hx:ev e x=some (.slice none l c)) (hb:ev e hi=some (.I 0)) :
 PR P n ⟨d,.slice t x none (some hi) none,ty,pos,af,g⟩ e w (.slice none 0 c):=by
 refine ⟨λact eO=>?_⟩;simp [execOp,eO.ev hx,eO.ev hb,Instr.sliceAt,run_underlying hu.h,Instr.slice,Instr.sliceBounds,Instr.sliceBound,asIntOf,Siz.run]
theorem Z9f {t el k:Nat} {x hi:Operand} {b o:Nat} {l c:Nat} [hu:Und P t (.slice el)] [hk:Siz P el k] (hx:ev e x=some (.slice (some ⟨b,o,none⟩) l c)) (hb:ev e hi=some (.I 0)) :
 PR P n ⟨d,.slice t x none (some hi) none,ty,pos,af,g⟩ e w (.slice (some ⟨b,o,none⟩) 0 c):=by
 refine ⟨λact eO=>?_⟩;simp [execOp,eO.ev hx,eO.ev hb,Instr.sliceAt,run_underlying hu.h,Instr.slice,Instr.sliceBounds,Instr.sliceBound,asIntOf,Siz.run,Addr.add_lit]
theorem Zma {t tn T bytes k:Nat} {kn:IntKind} {x y:Operand} {z:Value} [ht:Und P t (.slice T)] [hn:Und P tn (.int kn)] [hk:Siz P T 1] [hb:Byt P T bytes] [hz:Zer P T z] (fK:z.cells.size=1)
 (hx:ev e x=some (.N)) (hy:ev e y=some (.I (k:Int))) (h0:0<k) (gH:k<=maxLen) (hbytes:k * bytes<=140737488355328) :
 OE P n ⟨d,.call { callee:=.builtin .append,args:=#[x,y],argTypes:=#[t,tn] },ty,pos,af,g⟩ e w
  (λv w'=>∃ c,v=.slice (some ⟨w.heap.size,0,none⟩) k c/\w'.ownsRow w.heap.size T 1 (.slice (some ⟨w.heap.size,0,none⟩) 0 c) 0 []/\Stp [] w w'):=by
 obtain ⟨i,hi,bN,cn,fw⟩:∃ i,P.info? T=some i/\i.size=1/\i.bytes=bytes/\i.zero=some z:=by
  have a1:=hk.h;have a2:=hb.h;have a3:=hz.h;cases hi:P.info? T with
  | none=>simp [hi] at a1
  | some i=>exact ⟨i,rfl,by simpa [hi] using a1,by simpa [hi] using a2,by simpa [hi] using a3⟩
 have bj:=Go.Lib.run_append_nil_zeros (P:=P) w t tn ty T i z .i64 kn ht.h hn.h hi fw k h0 (by omega) (by simp [maxLen] at gH;omega) (by rw [cn];omega);have kH:=grownCap_ge w k 0 T;have bE:(Builtin.zeroCells z.cells k++Builtin.zeroCells z.cells (grownCap w k 0 T - k)).size=grownCap w k 0 T * 1:=by
  rw [Array.size_append,size_zeroCells,size_zeroCells,fK];omega
 refine J9 (v:=.slice (some ⟨w.heap.size,0,none⟩) k (grownCap w k 0 T)) (w':=w.drew.alloc (.cells (Builtin.zeroCells z.cells k++Builtin.zeroCells z.cells (grownCap w k 0 T - k)) T)) (λa ha=>?_) ⟨_,rfl,World.ownsRow_made w.drew _ _ (Xn _) (grownCap_le_maxLen w k 0 T gH) bE,(Stp.drew [] w).trans (Stp.alloc [] _ _)⟩;simp [execOp,resolve,invoke,builtin,ha.ev hx,ha.ev hy,bj]
variable {P:Program} {n:Nat} {e:Env} {w:World} {d:Option Nat} {ty:TypeId} {pos:String} {af:Array Edge} {g:Option (Nat×Bool)}
theorem Z3f (k:Nat) (u:Value):(List.replicate k [u]).flatten=List.replicate k u:=by
 induction k with
 | zero=>rfl
 | succ k ih=>rw [YaZ,Yaf,ih];rfl
theorem Z1g {α:Type} [Z5 α] {t T bytes k:Nat} {x y:Operand} {z u:Value} {a0:α} [ht:Und P t (.slice T)] [hk:Siz P T 1] [hb:Byt P T bytes] [hz:Zer P T z] (bG:Z5.k α=1) (uT:z.cells=#[u]) (fc:∀ (X:List Nat) (w),Z5.rep X w a0 [u])
 (hx:ev e x=some (.I (k:Int))) (hy:ev e y=some (.I (k:Int))) (gH:k<=maxLen) (hbytes:bytes * k<=281474976710656) :
 OE P n ⟨d,.makeSlice t x y,ty,pos,af,g⟩ e w (λv w'=>(∀ X,Row X w' w.heap.size T v (List.replicate k a0))/\Stp [] w w'):=by
 obtain ⟨i,hi,bN,cn,fw⟩:∃ i,P.info? T=some i/\i.size=1/\i.bytes=bytes/\i.zero=some z:=by
  have a1:=hk.h;have a2:=hb.h;have a3:=hz.h;cases hi:P.info? T with
  | none=>simp [hi] at a1
  | some i=>exact ⟨i,rfl,by simpa [hi] using a1,by simpa [hi] using a2,by simpa [hi] using a3⟩
 obtain ⟨w',bj,cb,qb⟩:=run_make_full (P:=P) w w.heap.size t T i z 1 ht.h hi fw bN .i64 .i64 k (by rw [cn];exact hbytes) gH (Xn _);rw [uT,YaM,toList_madeCells_one] at cb;refine J9 (v:=.slice (some ⟨w.heap.size,0,none⟩) k k) (w':=w') (λa ha=>?_) ⟨λX=>⟨List.replicate k [u],by simp,λj hj fZ=>?_,?_⟩,Stp.of_grown qb⟩;simp [execOp,ha.ev hx,ha.ev hy,bj];rw [List.getElem_replicate,List.getElem_replicate];exact fc _ _;rw [Z3f,bG,List.length_replicate];exact cb
section
variable {P:Program} {n:Nat} {e:Env} {d:Option Nat} {ty:TypeId} {pos:String} {af:Array Edge} {g:Option (Nat×Bool)}
variable {α:Type} [Z5 α] {X:List Nat} {w w':World} {base T:Nat} {v:Value} {xs:List α}
theorem Z3D {i k:Nat} {t:TypeId} {x y:Operand} {u:Value} {y':α} [bE:Siz P t k] (hx:ev e x=some (.pointer (some (ZH v i k 0)))) (hy:ev e y=some u) (hk:k=Z5.k α)
 (bM:Z5.rep (ob v++X) w y' u.cells.toList) (ab:Row X w base T v xs) (hi:i<xs.length) :
 OE P n ⟨d,.store t x y,ty,pos,af,g⟩ e w (λ_ w'=>Row X w' base T v (xs.set i y')/\Stp (ob v) w w'):=by
 have dq:=ab;obtain ⟨css,hl,hr,ho⟩:=ab;have ai:∀ c∈css,c.length=Z5.k α:=by
  intro c hc;obtain ⟨q,hq,rfl⟩:=Xr hc;exact Z5.len (hr q (by omega) hq)
 rcases ho.2 with ⟨rfl,hn⟩|⟨q,cap,cur,rfl,hb,hg,cM,bU,aV,ht⟩
 omega;subst hk;have eu:u.cells.toList.length=Z5.k α:=Z5.len bM;have cZ:i * Z5.k α+u.cells.toList.length<=cur.size:=by
  rw [eu,aV,<- X9];exact Xo _ (by omega)
 have ay:=run_storeCells_at P q (i * Z5.k α) T u.cells.toList 0 cur w hg (by simpa using cZ) (Z5.one bM);simp only [Ybn] at ay;have d7:u.cells.size=Z5.k α:=by simpa using eu
 have iX:Stp [q] w (w.setRow q (cur.toList.take (i * Z5.k α)++u.cells.toList++cur.toList.drop (i * Z5.k α+u.cells.toList.length)).toArray):=Z1K _ _ _;refine Z45 (w':=w.setRow q (cur.toList.take (i * Z5.k α)++u.cells.toList++cur.toList.drop (i * Z5.k α+u.cells.toList.length)).toArray) (λa ha=>?_) ⟨⟨css.set i u.cells.toList,by simp [hl],λj hj fZ=>?_,?_,.inr ⟨q,cap,_,by simp,hb,setRow_heap w q cur _ T (0,0) hg,by simpa using cM,bU,?_,?_⟩⟩,iX⟩;have dw:ZH (.slice (some ⟨q,0,none⟩) xs.length cap) i (Z5.k α) 0=⟨q,i * Z5.k α,none⟩:=by simp [ZH]
 rw [dw] at hx;simp [execOp,ha.ev hx,ha.ev hy,Instr.storeAt,Instr.sureAddr,storeVar,Siz.run,d7,ay];have ae:∀ b∈[q],b∈ob (.slice (some ⟨q,0,none⟩) xs.length cap)++X:=by simp [ob]
 by_cases dC:i=j;subst dC;simp only [Ybc];exact Z5.ext bM iX ae (λb hb=>.inl hb);simp only [YaI dC];exact Z5.ext (hr j (by simpa using hj) (by simpa using fZ)) iX ae (λb hb=>.inl hb);rw [Z1i css ai i (by omega)];have h1:=ho.1;simp only [Xc,Xw,Yan,X4,eu,h1];have:(i+1) * Z5.k α<=xs.length * Z5.k α:=Xo _ (by omega);rw [X9] at this;omega;simp only [Yas,Xc,Xw,Yan,Yag,eu,aV];rw [eu,aV] at cZ;omega;rw [Z1i css ai i (by omega),<- ht];have h2:(i+1) * Z5.k α<=xs.length * Z5.k α:=Xo _ (by omega);rw [X9] at h2;have h3:i * Z5.k α<=cur.toList.length:=by simp [aV];exact Xg (by omega) (Xo _ cM)
 simp only [X4,eu];rw [Yaw,Yaw,YaA,YaA,Ybp];simp only [Xc,Xw,eu];rw [Yad h3,XJ (l:=u.cells.toList) (by rw [eu];omega)];rw [Yby (by omega:i * Z5.k α<=xs.length * Z5.k α),Yad (by omega:i * Z5.k α<=xs.length * Z5.k α)]
end
section
variable {P:Program} {n:Nat} {Q:Exit->Act->World->Prop} {e:Env} {w:World}
theorem Zft {id:Nat} {l:List Oper} (m:Nat) (S:List Nat) (Lt:List Nat) (ord:List (Nat×Nat)) (cp:l.length=m) (hm:P.follows .mixedOrders=true) (hs:Region.noSelect l.toArray=true) (hl:Nat.beq (wt ord) l.length=true)
 (hB:ZY l.toArray Lt ord (Array.replicate m false)=true)
 (h:∀ w',Stp [] w w'->w'.heap.size=w.heap.size->WD P n l.toArray S Lt Q ord e w'):WC P n (.region id l.toArray true) Q e w:=by
 subst cp;refine ⟨λa ha=>wp_region_any hm ?_⟩;have h1:=(h { w with drawn:=w.drawn+1 } (Stp.drew [] w) rfl).h _ hs hB a ha;have h2:=Z0O (Q:=Q) (λa w hz=>hz) _ _ _ _ h1;rw [XL hl] at h2;simpa using h2
def Zmb (w:World) (T:TypeId) (cs:List Value) (v:Value) (w':World):Prop:=v=.pointer (some ⟨w.heap.size,0,none⟩)/\Blk w' w.heap.size T cs/\Stp [] w w'
theorem Zfu {d:Option Nat} {ty:TypeId} {pos:String} {af:Array Edge} {g:Option (Nat×Bool)} {t:TypeId} {z:Value} [hz:Zer P t z]:OE P n ⟨d,.alloc t,ty,pos,af,g⟩ e w (Zmb w t z.cells.toList):=by
 refine J9 (v:=.pointer (some ⟨w.heap.size,0,none⟩)) (w':=w.alloc (.cells z.cells t)) (λa ha=>?_) ?_;simp [execOp,Instr.alloc,Zer.run,newVar,newRow,newObj];rfl;have h:=Z9X w t z.cells.toList;obtain ⟨b,hb,cu,h1,h2⟩:=h;simp only [Value.pointer.injEq,XD,Addr.mk.injEq] at hb;obtain ⟨rfl,-⟩:=hb;exact ⟨rfl,by simpa using h1,by simpa using h2⟩
theorem Zdp {o:Oper} {a:Act} {w} {K K':Act->World->Prop} {Q':Exit->Act->World->Prop} (h:∀ a w,K a w->K' a w) (hq:∀ ex a w,Q' ex a w->Q ex a w)
 (hh:o.wp P a w K Q'):o.wp P a w K' Q:=by
 unfold Oper.wp at *;generalize (execOp a.eval o).run P w=r at *;cases r with
 | ok n w'=>
   cases n<;>simp only [Oper.upon] at hh ⊢ <;>
    first
     | exact h _ _ hh
     | exact Calls.mono hh (λe w'' he=>by cases e<;>first|exact h _ _ he|exact hq _ _ _ he|exact he.elim (λa h=>h.elim (λw h=>⟨a,w,hq _ _ _ h⟩)))
     | exact Rows.mono hh (λ_ _ he=>h _ _ he)
 | halt x w'=>cases x<;>simp only [Oper.upon] at hh ⊢<;>first|exact hq _ _ _ hh|exact hh
theorem Z2X {ops:Array Oper} {Q':Exit->Act->World->Prop} (hq:∀ ex a w,Q' ex a w->Q ex a w):∀ (l:List Oper) (a:Act) (w),wpList P ops Q' l a w->wpList P ops Q l a w
 | [],a,w,h=>hq _ _ _ h
 | o :: rest, a, w, h => by
   unfold wpList at h ⊢;split;rename_i hw;rw [if_pos hw] at h;rcases h with h|⟨h1,a',w',h2⟩
   exact .inl (Zdp (λa w h=>Z2X hq rest a w h) hq h);exact .inr ⟨h1,a',w',hq _ _ _ h2⟩;rename_i hw;rw [if_neg hw] at h;exact Z2X hq rest _ _ h
theorem Z5n {y:Code} {σ:Type} {ops:Array Oper} {l:List Oper} (env:σ->Env) (I:σ->World->Prop)
 (h:WL P n ops (Exit.then (λa w=>∃ s,Has n (env s) a/\I s w) Q) l e w) (k:∀ s w,I s w->WC P n y Q (env s) w):WL P n ops (Exit.then (λa w=>y.wp P Q a w) Q) l e w:=
 ⟨λa ha => Z2X (λex a w hq => by
   cases ex with
   | normal=>obtain ⟨s,h1,h2⟩:=hq;exact (k s w h2).h a h1
   | _=>exact hq) l a w (h.h a ha)⟩
end
open Go Go.RowKit Go.Proofs Go.ChangeShapes Go.WideShapes Go.Deep
section
variable {H:Type} {enc:TypeId×Value->H} {P:Program} {w:World} {base:Nat} {spare:Nat->Bool} {bJ:Bool}
theorem Z5o (b o n:Nat):(⟨b,o,none⟩:Addr).add n=⟨b,o+n,none⟩:=by
 unfold Addr.add;split;rename_i h;subst h;rfl;rfl
def Zfv:DataW H->Nat
 | .slice els _=>els.length
 | _=>0
theorem Z3E {α:Type} [Z3 α] {ok:α->Prop} {t e:TypeId} {fuel:Nat} {cs:List Value} {x:DataW H×List MemPlace} (ht:P.underlying t=some (.slice e)) (hC:P.cellsOf e=Z3.k α) (aW:0<Z3.k α)
 (ir:∀ n cs' y,cs'.length=Z3.k α->DataW.trod enc P w base spare bJ n e cs'=some y->∃ a:α,cs'=Z3.enc a/\ok a)
 (h:DataW.trod enc P w base spare bJ fuel t cs=some x):∃ (v:Value) (xs:List α),cs=[v]/\SlV [] w v xs/\(∀ a∈xs,ok a)/\Zfv x.1=xs.length:=by
 rcases open_slice ht h with ⟨rfl,rfl⟩|⟨a,len,cap,m,n,D,Pl,rfl,hb,hl,hm,eQ,hx,hi⟩
 exact ⟨_,[],rfl,⟨none,0,rfl,Xn _,by simp [maxLen],λ_=>rfl,λi h=>absurd h (Xt _)⟩,by simp,rfl⟩;have cp:len<=m:=by rw [eQ];split<;>omega
 have aU:∀ y:α,∃ u,(Z3.enc y)[0]?=some u:=λy=>⟨_,XB (by rw [Z3.len y];exact aW)⟩
 have aA:∀ i:Fin len,∃ y:α,ok y/\∀ j u,(Z3.enc y)[j]?=some u->w.cell? (a.add (i * Z3.k α+j))=some u:=by
  intro i;obtain ⟨cs',hc,mT⟩:=hi i (by omega);rw [hC] at hc;obtain ⟨_,bZ,fz⟩:=World.cells?_some hc;obtain ⟨y,rfl,aO⟩:=ir n cs' _ bZ mT;refine ⟨y,aO,λj u hu=>?_⟩;have hj:j<Z3.k α:=by
   have:=(Xu.1 hu).1;rw [Z3.len] at this;exact this
  have:=fz j hj;rw [hu] at this;rw [<- this,Go.Deep.add_add]
 let f:Fin len->α:=λi=>(aA i).choose
 have hf:∀ i:Fin len,ok (f i)/\∀ j u,(Z3.enc (f i))[j]?=some u->w.cell? (a.add (i * Z3.k α+j))=some u:=λi=>(aA i).choose_spec;refine ⟨_,List.ofFn f,rfl,⟨some a,cap,by simp,by simpa using hl,hm,by simp,λi cA=>?_⟩,λy hy=>?_,by rw [hx];simp [Zfv]⟩;have it:i<len:=by simpa using cA
 have sW:=(hf ⟨i,it⟩).2;obtain ⟨u1,sX⟩:∃ u,(Z3.enc (f ⟨0,by omega⟩))[0]?=some u:=aU _;have bQ:=(hf ⟨0,by omega⟩).2 0 u1 sX;obtain ⟨u0,qc⟩:∃ u,(Z3.enc (f ⟨i,it⟩))[0]?=some u:=aU _;have gz:=sW 0 u0 qc;have bB:a.spot=none:=by
  have e0:a.add ((⟨0,by omega⟩:Fin len).val * Z3.k α+0)=a:=by simp [Addr.add]
  rw [e0] at bQ;unfold World.cell? at bQ;split at bQ
  . cases hs:a.spot with
    | none=>rfl
    | some s=>simp [hs] at bQ
  cases bQ
 obtain ⟨b,o,sp⟩:=a;cases bB;refine ⟨b,o,Z3.enc (f ⟨i,it⟩),rfl,?_,by simp,?_,λj u hu=>?_⟩;have:=block_lt_of_cell (a:=(⟨b,o,none⟩:Addr).add (i * Z3.k α+0)) gz;simpa [Z5o] using this;simp;rfl;have:=sW j u hu;rw [Z5o] at this;rw [show o+i * Z5.k α+j=o+(i * Z3.k α+j) from Yaq _ _ _];exact this;obtain ⟨i,rfl⟩:=List.mem_ofFn.1 hy;exact (hf i).1
theorem Z7M {e:TypeId} {fs:Array Field} {fuel:Nat} {cs:List Value} {x:DataW H×List MemPlace} (he:P.underlying e=some (.struct fs)) (aF:oneCellFields P fs=true) (bZ:cs.length=fs.size)
 (jg:∀ (j:Nat) (f:Field),fs[j]?=some f->P.underlying f.type=some (.int .i64)) (h:DataW.trod enc P w base spare bJ fuel e cs=some x):∀ j (hj:j<cs.length),∃ z:Int,cs[j]=.I z/\I64 z:=by
 intro j hj;obtain ⟨ys,n',oy,hy,ai,fx,hf⟩:=DataW.trod_struct he h;have uU:j<fs.size:=by omega
 have qd:fs[j]?=some fs[j]:=YaW uU;obtain ⟨ho,hk⟩:=hone_of aF j fs[j] qd;have h1:=hf j fs[j] qd;rw [ho,hk] at h1;have iu:(cs.drop j).take 1=[cs[j]]:=by
  rw [X3 hj];rfl
 rw [iu] at h1;have cE:ys[j]?=some (ys[j]'(by omega)):=XB (by omega);rw [cE] at h1;obtain ⟨z,hz,_,hw⟩:=DataW.trod_int (jg j _ qd) h1;refine ⟨z,by simpa using hz,?_⟩;simpa [I64,Lit.wf,IntKind.min,IntKind.max,IntKind.signed,IntKind.bits] using hw
def Zsn:Option TypeDesc->Bool
 | some (.int .i64)=>true
 | _=>false
theorem Zfw {d:Option TypeDesc} (h:Zsn d=true):d=some (.int .i64):=by
 unfold Zsn at h;split at h;rfl;cases h
def Z9g (P:Program) (e k:Nat):Bool:=
 match P.underlying e with
 | some (.struct fs)=>oneCellFields P fs && fs.size == k && fs.all (λf=>Zsn (P.underlying f.type))
 | _=>false
theorem Z7N {e k:Nat} {fuel:Nat} {cs:List Value} {x:DataW H×List MemPlace} (hs:Z9g P e k=true) (bZ:cs.length=k) (h:DataW.trod enc P w base spare bJ fuel e cs=some x) :
 ∃ zs:List Int,zs.length=k/\cs=zs.map (Value.int .i64)/\∀ z∈zs,I64 z:=by
 unfold Z9g at hs;split at hs
 . rename_i fs he
   simp only [Xm,beq_iff_eq] at hs;obtain ⟨⟨aF,hk⟩,aA⟩:=hs;have jg:∀ (j:Nat) (f:Field),fs[j]?=some f->P.underlying f.type=some (.int .i64):=by
    intro j f hj;obtain ⟨hlt,rfl⟩:=Xk.1 hj;exact Zfw (Array.all_eq_true.1 aA j hlt)
   have hz:=Z7M he aF (by omega) jg h;clear h he aF jg aA;refine (?_:∀ (cs:List Value),(∀ j (hj:j<cs.length),∃ z:Int,cs[j]=.I z/\I64 z)->∃ zs:List Int,zs.length=cs.length/\cs=zs.map (Value.int .i64)/\∀ z∈zs,I64 z) cs hz |> λ⟨zs,h1,h2,h3⟩=>⟨zs,by omega,h2,h3⟩
   intro cs
   induction cs with
   | nil=>intro _;exact ⟨[],rfl,rfl,by simp⟩
   | cons c r ih=>
     intro hz;obtain ⟨z,e1,e2⟩:=hz 0 (by simp);obtain ⟨zs,h1,h2,h3⟩:=ih (λj hj=>by
      have:=hz (j+1) (by simpa using hj);simpa using this)
     exact ⟨z :: zs,by simp [h1],by simp at e1;simp [e1,<- h2],by
      intro y hy;rcases Xb.1 hy with rfl|hy
      exact e2;exact h3 y hy⟩
 cases hs
theorem ZiX {t e:TypeId} {fuel:Nat} {cs:List Value} {x:DataW H×List MemPlace} (ht:P.underlying t=some (.slice e)) (hC:P.cellsOf e=1) (he:P.underlying e=some (.int .i64))
 (h:DataW.trod enc P w base spare bJ fuel t cs=some x):∃ (v:Value) (xs:List Int),cs=[v]/\SlV [] w v xs/\(∀ a∈xs,I64 a)/\Zfv x.1=xs.length:=
 Z3E (α:=Int) ht hC (by decide) (λn cs' y hl hy=>by
  obtain ⟨z,rfl,_,hw⟩:=DataW.trod_int he hy;exact ⟨z,rfl,by simpa [I64,Lit.wf,IntKind.min,IntKind.max,IntKind.signed,IntKind.bits] using hw⟩) h
end
end Go.Eng
