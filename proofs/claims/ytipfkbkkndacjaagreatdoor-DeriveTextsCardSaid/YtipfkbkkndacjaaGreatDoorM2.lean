/-
Contracts and plain laws, merged out of own texts.
-/
import Derived.Test.YtipfkbkkndacjaaGreatDoorM1
import Derived.Lib.ItoaNum
import Derived.Laws.RangeString
import Derived.Laws.RangeAny
set_option linter.unusedVariables false
set_option linter.unusedSimpArgs false
set_option maxHeartbeats 4000000
set_option maxRecDepth 20000
namespace Go.Proofs.YtipfkbkkndacjaaGreatDoor
open Go Go.Eng Go.RowKit
def ZG:Nd->Nat
 | .mk k n s l=>1+(l.map ZG).sum
theorem Z1c (x:Nd):ZG x=1+(x.kids.map ZG).sum:=by
 cases x;rw [ZG];rfl
theorem Z92 {l:List Nat} {a:Nat} (h:a∈l):a<=l.sum:=by
 induction l with
 | nil=>cases h
 | cons x r ih=>
   rw [List.sum_cons];rcases Xb.1 h with rfl|h
   omega;have:=ih h;omega
theorem ZiU {x y:Nd} (h:y∈x.kids):ZG y<ZG x:=by
 rw [Z1c x];have:=Z92 (Yaj (f:=ZG) h);omega
theorem ZiV (x:Nd):1<=ZG x:=by rw [Z1c];omega
theorem ZdD (l:List Nd):l.length<=(l.map ZG).sum:=by
 induction l with
 | nil=>simp
 | cons x r ih=>
   have:=ZiV x;simp;omega
theorem Z3K (x:Nd):ZG x<=1000->okN x=true:=by
 induction x using Nd.ind with
 | h k n s l ih=>
 intro h;rw [ZeM];have h1:=Z1c (.mk k n s l);have h2:=ZdD l;refine ⟨?_,λy hy=>ih y hy ?_⟩;show l.length<=1000;have:ZG (.mk k n s l)=1+(l.map ZG).sum:=h1;omega;have:=ZiU (x:=.mk k n s l) (y:=y) hy;omega
theorem Z7M (X:List Nat) (v:Value) (x:Nd) (w) (aO:okN x=true) (hn:Zz x<=1000000) (hx:NdV X w v x) :
 CC 107 #[v] w λr w'=>r=.tuple #[.I (if Zz x<=12 then Ze x else 0),.I (if Zz x<=12 then (if Ze x=0 then 21 else 0) else 2)]/\Stp [] w w':=by
 obtain ⟨kv,rfl,hs⟩:=hx;refine cW1 13 Tryz.func107 ?_;refine W ?_;refine Z1 (Zp rfl) rfl ?_;rintro _ w1 ⟨b,rfl,lJ,ac,hS⟩;replace ac:Blk w1 b _ (ndC x kv):=ac;replace hs:=hs.up hS;refine W ?_;refine CL (ZbH x X _ _ hn ⟨kv,rfl,hs⟩) ?_;rintro _ w2 ⟨rfl,ah⟩;replace hs:=hs.up ah;replace ac:=ac.up ah;replace hS:=hS.trans ah;by_cases hn:Zz x<=12;rw [if_pos hn,if_pos hn];refine QO ?_;refine CL (ZfJ x X _ _ aO ⟨kv,rfl,hs⟩) ?_;rintro _ w3 ⟨rfl,am⟩;replace hS:=hS.trans am
 (refine QP ?_ ?_<;>intro hc)
 refine RU ?_;exact ⟨by rw [if_pos hc,hc],hS⟩;refine RU ?_;exact ⟨by rw [if_neg hc],hS⟩;rw [if_neg hn,if_neg hn];refine RT ?_;exact ⟨rfl,hS⟩
theorem Z57 {x:Nd} (h:Ze x≠0):x.kids.length<=3/\∀ y∈x.kids,Ze y≠0:=by
 rw [Z0N] at h;unfold JB at h;refine ⟨?_,λy hy e=>?_⟩;by_cases hl:(x.kids.map Ze).length > 3;rw [if_pos hl] at h;exact absurd rfl h;simpa using hl;by_cases hl:(x.kids.map Ze).length > 3;rw [if_pos hl] at h;exact absurd rfl h;rw [if_neg hl,if_pos (by rw [<- e];exact Yaj hy)] at h;exact absurd rfl h
def Z7N:List Str:=[[110,101,120,116],[112,114,101,118],[108,97,116,101,114],[101,97,114,108,105,101,114],[98,101,116,119,101,101,110]]
inductive Zo0 (k:Int) (s:Str) (m:Nat):Prop
 | neg (h:k=5) (hs:s=[45]\/s=[110,111,116]) (hm:m=1)
 | bin (h:k=6) (hs:s∈Z0f\/s∈Z2g\/s∈Z09) (hm:m=2)
 | unit (h:k=7\/k=8) (hs:s∈J3) (hm:m=2)
 | cond (h:k=9) (hm:m=3)
 | call (h:k=10) (hs:s∈Z7N) (hm:1<=m/\m<=2)
theorem Z6U {x:Nd} (h:Ze x≠0) (hk:x.kids≠[]):x.num=0/\Zo0 x.kind x.word x.kids.length:=by
 have hl:=(Z57 h).1;rw [ZeL] at h;have ai:(x.kids.map Ze).length=x.kids.length:=by simp
 have aR:¬ x.kids.map Ze=[]:=by simpa using hk
 generalize x.kids.map Ze=ts at *;rw [<- ai];unfold Z4P at h;rw [if_neg aR] at h;have hn:x.num=0:=Decidable.byContradiction (λhn=>by rw [if_pos hn] at h;exact absurd rfl h);refine ⟨hn,?_⟩;rw [if_neg (by simpa using hn)] at h;have cF:∀ m:List Int,Z0l ts m=true->ts.length=m.length:=λm hm=>by rw [(ZbD.1 hm).1]
 by_cases k5:x.kind=5;rw [if_pos k5] at h;split at h;rename_i hh;rcases hh with ⟨h1,h2⟩|⟨h1,h2⟩
 exact .neg k5 (.inl h1) (cF _ h2);exact .neg k5 (.inr h1) (cF _ h2);exact absurd rfl h;rw [if_neg k5] at h;by_cases k6:x.kind=6;rw [if_pos k6] at h;unfold Zan at h;simp only [Z31] at h;split at h;rename_i hh;exact .bin k6 (.inl hh.1) (cF _ hh.2);split at h;rename_i hh;rcases hh.2 with h2|h2
 exact .bin k6 (.inr (.inl hh.1)) (cF _ h2);exact .bin k6 (.inr (.inl hh.1)) (cF _ h2);split at h;rename_i hh;exact .bin k6 (.inr (.inr hh.1)) (cF _ hh.2);exact absurd rfl h;rw [if_neg k6] at h;by_cases k78:x.kind=7\/x.kind=8;rw [if_pos k78] at h;simp only [Z31] at h;split at h;rename_i hh;exact .unit k78 hh.1 (cF _ hh.2);exact absurd rfl h;rw [if_neg k78] at h;by_cases k9:x.kind=9;rw [if_pos k9] at h;split at h;rename_i hh;exact .cond k9 hh.2.1;exact absurd rfl h;rw [if_neg k9] at h;by_cases k10:x.kind=10;rw [if_pos k10] at h;unfold Z6T at h;simp only [Z31] at h;split at h;rename_i hh;refine .call k10 ?_ (by have:=cF _ hh.2;simp at this;omega);have:=hh.1;simp only [Z1a,Z7N,Xb,Xj,or_false] at this ⊢;rcases this with h|h<;>simp [h]
 split at h;rename_i hh;refine .call k10 ?_ (by have:=cF _ hh.2;simp at this;omega);have:=hh.1;simp only [Z1b,Z7N,Xb,Xj,or_false] at this ⊢;rcases this with h|h<;>simp [h]
 split at h;rename_i hh;refine .call k10 ?_ (by have:=cF _ hh.2;simp at this;omega);simp [Z7N,hh.1];exact absurd rfl h;rw [if_neg k10] at h;exact absurd rfl h
theorem ZdE {x:Nd} (h:Ze x≠0) (hk:x.kids=[]):1<=x.kind/\x.kind<=4:=by
 rw [Z0N,hk] at h;simp [JB] at h;unfold Z0M at h
 grind
end Go.Proofs.YtipfkbkkndacjaaGreatDoor
namespace Go.Eng
open Go
structure Ins where
 op:Int
 n:Int
 deriving DecidableEq,Inhabited
instance:Z3 Ins where
 k:=2
 enc:=λx=>[.I x.op,.I x.n]
 len:=λ_=>rfl
 one:=by intro x u hu;simp at hu;rcases hu with rfl|rfl<;>rfl
def agg {α:Type} [Z3 α] (x:α):Value:=aG x
theorem Row.keep {β:Type} [Z3 β] {X S:List Nat} {w w':World} {base T:Nat} {v:Value} {xs:List β} (h:Row X w base T v xs) (hS:Stp S w w') (hd:∀ b∈S,b∉ob v):Row X w' base T v xs:=by
 have h':Row S w base T v xs:=h;have:=h'.ext (X':=X) hS (λb hb=>⟨hb,hd b hb⟩);obtain ⟨css,h1,h2,h3⟩:=h;refine ⟨css,h1,h2,?_⟩;have h4:Row S w base T v xs:=⟨css,h1,h2,h3⟩
 obtain ⟨ho,hr⟩:=h3;refine ⟨ho,?_⟩;rcases hr with hn|⟨q,cap,cur,rfl,hb,hg,rest⟩
 exact .inl hn;refine .inr ⟨q,cap,cur,rfl,hb,?_,rest⟩;rw [hS.block q (Xm.1 hg).1 (λhq=>hd q hq (by simp [ob]))];exact hg
end Go.Eng
namespace Go.Proofs.YtipfkbkkndacjaaGreatDoor
open Go Go.Eng Go.RowKit
theorem Z7O (a b:Int) (w):(Instr.build 171 #[(0,.I a),(1,.I b)]).run Tryz.prog w=.ok (agg (Ins.mk a b)) w:=by kernel_rfl
theorem Z7u (a:Int) (w):(Instr.build 171 #[(0,.I a)]).run Tryz.prog w=.ok (agg (Ins.mk a 0)) w:=by kernel_rfl
theorem Z32 (d:Ins) (w):(Instr.buildSlice 60 1 #[(0,agg d)]).run Tryz.prog w=.ok (.slice (some ⟨w.heap.size,0,none⟩) 1 1) (w.alloc (.cells (Z3.enc d).toArray 171)):=by kernel_rfl
structure Cod (w:World) (bc base:Nat) (v:Value) (xs:List Ins):Prop where
 blk:Blk w bc 244 [v]
 row:Row [] w base 171 v xs
 apart:bc∉ob v
 low:bc<base
 top:base<=w.heap.size
def Z3t (w:World) (bc base:Nat) (v:Value) (ys:List Ins) (w':World):Prop:=
 ∃ v',Cod w' bc base v' ys/\Stp (bc :: ob v) w w'/\∀ b∈ob v',b∈ob v\/w.heap.size<=b
theorem Cod.up {w w':World} {bc base:Nat} {v:Value} {xs:List Ins} (h:Cod w bc base v xs) (hS:Stp [] w w'):Cod w' bc base v xs:=
 ⟨h.blk.up hS,h.row.up hS,h.apart,h.low,Xg h.top hS.size⟩
theorem Z3t.pre {w0 w w':World} {bc base:Nat} {v:Value} {ys:List Ins} (hS:Stp [] w0 w) (h:Z3t w bc base v ys w'):Z3t w0 bc base v ys w':=by
 obtain ⟨v',h1,h2,h3⟩:=h;exact ⟨v',h1,hS.mn.trans h2,λb hb=>(h3 b hb).imp id (λh=>Xg hS.size h)⟩
theorem Z3t.next {w w1 w2:World} {bc base:Nat} {v v1:Value} {zs:List Ins} (hS:Stp (bc :: ob v) w w1) (hb:∀ b∈ob v1,b∈ob v\/w.heap.size<=b) (h:Z3t w1 bc base v1 zs w2):Z3t w bc base v zs w2:=by
 obtain ⟨v',h1,h2,h3⟩:=h;refine ⟨v',h1,?_,λb dz=>?_⟩;exact hS.own h2 (λb dz=>by
  rcases Xb.1 dz with rfl|h
  exact .inl (by simp);exact (hb b h).imp (λh=>XJ _ h) id)
 rcases h3 b dz with h|h
 exact hb b h;exact .inr (Xg hS.size h)
theorem Zo1 {w w':World} {bc:Nat} {v v':Value} {α:Type} [Z7 α] {u:Value} {xs:List α} (h:SlV (bc :: ob v) w u xs) (hS:Stp (bc :: ob v) w w') (hb:∀ b∈ob v',b∈ob v\/w.heap.size<=b):SlV (bc :: ob v') w' u xs:=
 h.ext hS (λ_ h=>h) (λb dz=>by
  rcases Xb.1 dz with rfl|h
  exact .inl (by simp);exact (hb b h).imp (λh=>XJ _ h) id)
theorem Z33 (bc base:Nat) (v:Value) (xs:List Ins) (op n:Int) (w) (hc:Cod w bc base v xs) (hl:xs.length<=1000000) :
 CC 171 #[pQ bc,.I op,.I n] w λr w'=>r=.I (xs.length:Int)/\Z3t w bc base v (xs++[⟨op,n⟩]) w':=by
 obtain ⟨ac,ab,hap,pF,pG⟩:=hc;refine cW3 25 Tryz.func171 ?_;refine W ?_;apply Z8 (vs:=[(0,.I op),(1,.I n)]) rfl (Z7O _ _) rfl;refine Z1 (Z0 (vs:=[(0,agg (Ins.mk op n))]) rfl (Z32 _)) rfl ?_;rintro bv w1 hN;have an:SlV (ob v++[]) w1 bv [Ins.mk op n]:=hN.slv (λb hb=>(ab.ob_le b (by simpa using hb)).2) rfl rfl (by simp [maxLen]);have ae:=Z5.stp hN;clear hN;have mE:=ab.up ae;have ck:=ac.up ae;have h1:=ae.size;refine Z1 (J4 (X:=[]) (base:=base) rfl (by decide) rfl rfl mE an (by simp only [Xe,Xf];omega) (by simp only [Xe,Xf,maxLen];omega) (by omega)) rfl ?_;rintro v' w2 ⟨fa,ah,bq⟩;have aP:=ck.ext ah hap;have pB:=ck.lt;refine W ?_;refine Z4 (Zc (u:=v') rfl rfl fa.slv0.cells fa.slv0.one aP (by simp)) ?_;rintro _ w3 ⟨am,aK⟩;replace aK:Blk w3 bc 244 [v']:=aK;have mF:bc∉ob v':=λhb=>by
  rcases bq bc hb with h|h
  exact hap h;omega
 have gh:=fa.keep am (λb hb=>by simp at hb;subst hb;exact mF);have eN:=gh.slv0;have jK:(xs++[Ins.mk op n]).length<=1000001:=by simp only [Xc,Xe,Xf];omega
 refine W ?_;refine WR ?_;refine .mk ⟨?_,v',⟨aK,gh,mF,pF,?_⟩,?_,?_⟩;simp only [Xc,Xe,Xf];congr 1;omega;exact Xg pG (Xg h1 (Xg ah.size am.size));exact (ae.mn.trans (ah.mono (λx hx=>by simp [hx]))).trans (am.mono (λx hx=>by simp at hx;simp [hx]));intro b hb;rcases bq b hb with h|h
 exact .inl h;exact .inr (by omega)
structure Fr (w0 w:World) (bc base:Nat) (v0 v:Value) (xs:List Ins):Prop where
 cod:Cod w bc base v xs
 stp:Stp (bc :: ob v0) w0 w
 sub:∀ b∈ob v,b∈ob v0\/w0.heap.size<=b
theorem Fr.start {w} {bc base:Nat} {v:Value} {xs:List Ins} (h:Cod w bc base v xs):Fr w w bc base v v xs:=⟨h,Stp.refl _ _,λb hb=>.inl hb⟩
theorem Fr.step {w0 w w':World} {bc base:Nat} {v0 v:Value} {xs ys:List Ins} (h:Fr w0 w bc base v0 v xs) (k:Z3t w bc base v ys w'):∃ v',Fr w0 w' bc base v0 v' ys:=by
 obtain ⟨v',h1,h2,h3⟩:=Z3t.next h.stp h.sub k;exact ⟨v',h1,h2,h3⟩
theorem Fr.up {w0 w w':World} {bc base:Nat} {v0 v:Value} {xs:List Ins} (h:Fr w0 w bc base v0 v xs) (hS:Stp [] w w'):Fr w0 w' bc base v0 v xs:=⟨h.cod.up hS,h.stp.trans hS.mn,h.sub⟩
theorem Fr.fin {w0 w:World} {bc base:Nat} {v0 v:Value} {xs:List Ins} (h:Fr w0 w bc base v0 v xs):Z3t w0 bc base v0 xs w:=⟨v,h.cod,h.stp,h.sub⟩
theorem Fr.sl {w0 w:World} {bc base:Nat} {v0 v:Value} {xs:List Ins} {α:Type} [Z7 α] {u:Value} {ys:List α} (h:Fr w0 w bc base v0 v xs) (hs:SlV (bc :: ob v0) w0 u ys):SlV (bc :: ob v) w u ys:=Zo1 hs h.stp h.sub
theorem Fr.bk {w0 w:World} {bc base b T:Nat} {v0 v:Value} {xs:List Ins} {cs:List Value} (h:Fr w0 w bc base v0 v xs) (hb:Blk w0 b T cs) (hn:b∉bc :: ob v0):Blk w b T cs:=hb.ext h.stp hn
abbrev Cf:=Nat->List Ins
def chC (c y n:Cf) (p0:Nat):List Ins:=
 c p0 ++ [⟨14, ((p0 + (c p0).length + 1 + (y (p0 + (c p0).length + 1)).length + 1 : Nat) : Int)⟩] ++ y (p0 + (c p0).length + 1) ++
   [⟨13,((p0+(c p0).length+1+(y (p0+(c p0).length+1)).length+1+(n (p0+(c p0).length+1+(y (p0+(c p0).length+1)).length+1)).length:Nat):Int)⟩]++n (p0+(c p0).length+1+(y (p0+(c p0).length+1)).length+1)
def ZdF (x:Nd) (f:Cf):Prop:=∀ (w:World) (bc base:Nat) (v nv:Value) (xs:List Ins),Cod w bc base v xs->NdV (bc :: ob v) w nv x->SlV (bc :: ob v) w Z2x Zf->xs.length+(f xs.length).length<=100000->
 CC 170 #[pQ bc,nv] w λr w'=>Z3t w bc base v (xs++f xs.length) w'
def Zar (X:List Nat) (w:World) (r:Nat) (es:List (Str×List Int)):Prop:=
 ∃ l:List (Str×Value),JL str w r l/\l.length=es.length/\∀ i (h:i<l.length) (h':i<es.length),l[i].1=es[i].1/\SlV (r :: X) w l[i].2 es[i].2
theorem Zar.up {X:List Nat} {w w':World} {r:Nat} {es:List (Str×List Int)} (h:Zar X w r es) (hS:Stp [] w w'):Zar X w' r es:=by
 obtain ⟨l,h1,h2,h3⟩:=h;exact ⟨l,h1.up hS,h2,λi h h'=>⟨(h3 i h h').1,(h3 i h h').2.up hS⟩⟩
theorem ZS {P:Program} {n:Nat} {e:Env} {w} {d:Option Nat} {ty:TypeId} {pos:String} {af:Array Edge} {g:Option (Nat×Bool)} {mt kt et r:Nat} {x y z:Operand} [hm:Und P mt (.map kt et)] [hk:Und P kt .string] {X:List Nat} {es:List (Str×List Int)} {a:Str} {v:Value} {xs:List Int} (hx:ev e x=some (.map (some r))) (hy:ev e y=some (str a)) (hz:ev e z=some v)
 (hr:Zar X w r es) (hv:SlV (r :: X) w v xs) (hn:∀ p∈es,¬ p.1=a):OE P n ⟨d,.insert mt x y z,ty,pos,af,g⟩ e w (λ_ w'=>Zar X w' r (es++[(a,xs)])/\Stp [r] w w'):=by
 obtain ⟨l,h1,h2,h3⟩:=hr;have iV:∀ p∈l,¬ p.1=a:=by
  intro p hp;obtain ⟨i,hi,rfl⟩:=Xr hp;rw [(h3 i hi (by omega)).1];exact hn _ (Xd _)
 refine (Zu (K:=inferInstance) hx hy hz h1 iV).mono ?_;rintro _ w' ⟨g1,g2⟩;refine ⟨⟨_,g1,by simp [h2],λi h h'=>?_⟩,g2⟩;by_cases hi:i<l.length;have cQ:i<es.length:=by omega
 rw [X8 hi,X8 cQ];exact ⟨(h3 i hi cQ).1,(h3 i hi cQ).2.on g2 (by simp)⟩;have j9:i=l.length:=by simp at h;omega
 subst j9;rw [X4 (Xn _),X4 (by omega)];simp only [Nat.sub_self,h2,Yba];exact ⟨trivial,hv.on g2 (by simp)⟩
def Z7P:List (Str×List Int):=[([43],[5]),([42],[7]),([110,111,116],[12]),([60],[9]),([60,61],[10]),([61],[11]),([62],[10,12]),([62,61],[9,12]),([33,61],[11,12]),([100,97,121,115],[15]),([119,101,101,107,115],[16]),([109,111,110,116,104,115],[17]),([99,111,117,114,116,100,97,121,115],[18]),([110,101,120,116],[19]),([112,114,101,118],[20]),([108,97,116,101,114],[21]),([101,97,114,108,105,101,114],[22]),([98,101,116,119,101,101,110],[23])]
theorem Z93 (X:List Nat) (w:World) (hX:∀ b∈X,b<w.heap.size):CC 290 #[] w λr w'=>∃ m,r=.map (some m)/\Zar X w' m Z7P/\Stp [] w w':=by
 refine cW0 21 Tryz.func290 ?_;refine W ?_;refine Z1 (Z0X str) rfl ?_;rintro _ w1 ⟨m,rfl,hm,ar,hS⟩;have aM:Zar X w1 m []:=⟨[],ar,rfl,λi h=>absurd h (Xu _)⟩
 have bP:=ar.lt;clear ar;have eC:∀ b∈m :: X,b<=m:=λb hb=>(Xb.1 hb).elim (λh=>by omega) (λh=>by have:=hX b h;omega)
 refine Z1 (Z0 (vs:=[(0,.I 5)]) rfl (Zs _)) rfl ?_;rintro bv w2 hN;have an:SlV (m :: X) w2 bv [(5:Int)]:=hN.slv (λb hb=>by have:=eC b hb;omega) rfl rfl (by simp [maxLen]);have ah:=Z5.stp hN;clear hN;replace aM:=aM.up ah;have aF:=ah.size;refine Z4 (ZS (a:=[43]) rfl rfl rfl aM an (by decide)) ?_;clear aM;rintro _ w3 ⟨aM,am⟩;have aH:=am.size;replace bP:=Xa (Xa bP aF) aH;replace hS:=(hS.trans ah).ow am;clear ah am an aF aH;refine Z1 (Z0 (vs:=[(0,.I 7)]) rfl (Zs _)) rfl ?_;rintro bv w2 hN;have an:SlV (m :: X) w2 bv [(7:Int)]:=hN.slv (λb hb=>by have:=eC b hb;omega) rfl rfl (by simp [maxLen]);have ah:=Z5.stp hN;clear hN;replace aM:=aM.up ah;have aF:=ah.size;refine Z4 (ZS (a:=[42]) rfl rfl rfl aM an (by decide)) ?_;clear aM;rintro _ w3 ⟨aM,am⟩;have aH:=am.size;replace bP:=Xa (Xa bP aF) aH;replace hS:=(hS.trans ah).ow am;clear ah am an aF aH;refine Z1 (Z0 (vs:=[(0,.I 12)]) rfl (Zs _)) rfl ?_;rintro bv w2 hN;have an:SlV (m :: X) w2 bv [(12:Int)]:=hN.slv (λb hb=>by have:=eC b hb;omega) rfl rfl (by simp [maxLen]);have ah:=Z5.stp hN;clear hN;replace aM:=aM.up ah;have aF:=ah.size;refine Z4 (ZS (a:=[110,111,116]) rfl rfl rfl aM an (by decide)) ?_;clear aM;rintro _ w3 ⟨aM,am⟩;have aH:=am.size;replace bP:=Xa (Xa bP aF) aH;replace hS:=(hS.trans ah).ow am;clear ah am an aF aH;refine Z1 (Z0 (vs:=[(0,.I 9)]) rfl (Zs _)) rfl ?_;rintro bv w2 hN;have an:SlV (m :: X) w2 bv [(9:Int)]:=hN.slv (λb hb=>by have:=eC b hb;omega) rfl rfl (by simp [maxLen]);have ah:=Z5.stp hN;clear hN;replace aM:=aM.up ah;have aF:=ah.size;refine Z4 (ZS (a:=[60]) rfl rfl rfl aM an (by decide)) ?_;clear aM;rintro _ w3 ⟨aM,am⟩;have aH:=am.size;replace bP:=Xa (Xa bP aF) aH;replace hS:=(hS.trans ah).ow am;clear ah am an aF aH;refine Z1 (Z0 (vs:=[(0,.I 10)]) rfl (Zs _)) rfl ?_;rintro bv w2 hN;have an:SlV (m :: X) w2 bv [(10:Int)]:=hN.slv (λb hb=>by have:=eC b hb;omega) rfl rfl (by simp [maxLen]);have ah:=Z5.stp hN;clear hN;replace aM:=aM.up ah;have aF:=ah.size;refine Z4 (ZS (a:=[60,61]) rfl rfl rfl aM an (by decide)) ?_;clear aM;rintro _ w3 ⟨aM,am⟩;have aH:=am.size;replace bP:=Xa (Xa bP aF) aH;replace hS:=(hS.trans ah).ow am;clear ah am an aF aH;refine Z1 (Z0 (vs:=[(0,.I 11)]) rfl (Zs _)) rfl ?_;rintro bv w2 hN;have an:SlV (m :: X) w2 bv [(11:Int)]:=hN.slv (λb hb=>by have:=eC b hb;omega) rfl rfl (by simp [maxLen]);have ah:=Z5.stp hN;clear hN;replace aM:=aM.up ah;have aF:=ah.size;refine Z4 (ZS (a:=[61]) rfl rfl rfl aM an (by decide)) ?_;clear aM;rintro _ w3 ⟨aM,am⟩;have aH:=am.size;replace bP:=Xa (Xa bP aF) aH;replace hS:=(hS.trans ah).ow am;clear ah am an aF aH;refine Z1 (Z0 (vs:=[(0,.I 10),(1,.I 12)]) rfl (Z02 _ _)) rfl ?_;rintro bv w2 hN;have an:SlV (m :: X) w2 bv [(10:Int),(12:Int)]:=hN.slv (λb hb=>by have:=eC b hb;omega) rfl rfl (by simp [maxLen]);have ah:=Z5.stp hN;clear hN;replace aM:=aM.up ah;have aF:=ah.size;refine Z4 (ZS (a:=[62]) rfl rfl rfl aM an (by decide)) ?_;clear aM;rintro _ w3 ⟨aM,am⟩;have aH:=am.size;replace bP:=Xa (Xa bP aF) aH;replace hS:=(hS.trans ah).ow am;clear ah am an aF aH;refine Z1 (Z0 (vs:=[(0,.I 9),(1,.I 12)]) rfl (Z02 _ _)) rfl ?_;rintro bv w2 hN;have an:SlV (m :: X) w2 bv [(9:Int),(12:Int)]:=hN.slv (λb hb=>by have:=eC b hb;omega) rfl rfl (by simp [maxLen]);have ah:=Z5.stp hN;clear hN;replace aM:=aM.up ah;have aF:=ah.size;refine Z4 (ZS (a:=[62,61]) rfl rfl rfl aM an (by decide)) ?_;clear aM;rintro _ w3 ⟨aM,am⟩;have aH:=am.size;replace bP:=Xa (Xa bP aF) aH;replace hS:=(hS.trans ah).ow am;clear ah am an aF aH;refine Z1 (Z0 (vs:=[(0,.I 11),(1,.I 12)]) rfl (Z02 _ _)) rfl ?_;rintro bv w2 hN;have an:SlV (m :: X) w2 bv [(11:Int),(12:Int)]:=hN.slv (λb hb=>by have:=eC b hb;omega) rfl rfl (by simp [maxLen]);have ah:=Z5.stp hN;clear hN;replace aM:=aM.up ah;have aF:=ah.size;refine Z4 (ZS (a:=[33,61]) rfl rfl rfl aM an (by decide)) ?_;clear aM;rintro _ w3 ⟨aM,am⟩;have aH:=am.size;replace bP:=Xa (Xa bP aF) aH;replace hS:=(hS.trans ah).ow am;clear ah am an aF aH;refine Z1 (Z0 (vs:=[(0,.I 15)]) rfl (Zs _)) rfl ?_;rintro bv w2 hN;have an:SlV (m :: X) w2 bv [(15:Int)]:=hN.slv (λb hb=>by have:=eC b hb;omega) rfl rfl (by simp [maxLen]);have ah:=Z5.stp hN;clear hN;replace aM:=aM.up ah;have aF:=ah.size;refine Z4 (ZS (a:=[100,97,121,115]) rfl rfl rfl aM an (by decide)) ?_;clear aM;rintro _ w3 ⟨aM,am⟩;have aH:=am.size;replace bP:=Xa (Xa bP aF) aH;replace hS:=(hS.trans ah).ow am;clear ah am an aF aH;refine Z1 (Z0 (vs:=[(0,.I 16)]) rfl (Zs _)) rfl ?_;rintro bv w2 hN;have an:SlV (m :: X) w2 bv [(16:Int)]:=hN.slv (λb hb=>by have:=eC b hb;omega) rfl rfl (by simp [maxLen]);have ah:=Z5.stp hN;clear hN;replace aM:=aM.up ah;have aF:=ah.size;refine Z4 (ZS (a:=[119,101,101,107,115]) rfl rfl rfl aM an (by decide)) ?_;clear aM;rintro _ w3 ⟨aM,am⟩;have aH:=am.size;replace bP:=Xa (Xa bP aF) aH;replace hS:=(hS.trans ah).ow am;clear ah am an aF aH;refine Z1 (Z0 (vs:=[(0,.I 17)]) rfl (Zs _)) rfl ?_;rintro bv w2 hN;have an:SlV (m :: X) w2 bv [(17:Int)]:=hN.slv (λb hb=>by have:=eC b hb;omega) rfl rfl (by simp [maxLen]);have ah:=Z5.stp hN;clear hN;replace aM:=aM.up ah;have aF:=ah.size;refine Z4 (ZS (a:=[109,111,110,116,104,115]) rfl rfl rfl aM an (by decide)) ?_;clear aM;rintro _ w3 ⟨aM,am⟩;have aH:=am.size;replace bP:=Xa (Xa bP aF) aH;replace hS:=(hS.trans ah).ow am;clear ah am an aF aH;refine Z1 (Z0 (vs:=[(0,.I 18)]) rfl (Zs _)) rfl ?_;rintro bv w2 hN;have an:SlV (m :: X) w2 bv [(18:Int)]:=hN.slv (λb hb=>by have:=eC b hb;omega) rfl rfl (by simp [maxLen]);have ah:=Z5.stp hN;clear hN;replace aM:=aM.up ah;have aF:=ah.size;refine Z4 (ZS (a:=[99,111,117,114,116,100,97,121,115]) rfl rfl rfl aM an (by decide)) ?_;clear aM;rintro _ w3 ⟨aM,am⟩;have aH:=am.size;replace bP:=Xa (Xa bP aF) aH;replace hS:=(hS.trans ah).ow am;clear ah am an aF aH;refine Z1 (Z0 (vs:=[(0,.I 19)]) rfl (Zs _)) rfl ?_;rintro bv w2 hN;have an:SlV (m :: X) w2 bv [(19:Int)]:=hN.slv (λb hb=>by have:=eC b hb;omega) rfl rfl (by simp [maxLen]);have ah:=Z5.stp hN;clear hN;replace aM:=aM.up ah;have aF:=ah.size;refine Z4 (ZS (a:=[110,101,120,116]) rfl rfl rfl aM an (by decide)) ?_;clear aM;rintro _ w3 ⟨aM,am⟩;have aH:=am.size;replace bP:=Xa (Xa bP aF) aH;replace hS:=(hS.trans ah).ow am;clear ah am an aF aH;refine Z1 (Z0 (vs:=[(0,.I 20)]) rfl (Zs _)) rfl ?_;rintro bv w2 hN;have an:SlV (m :: X) w2 bv [(20:Int)]:=hN.slv (λb hb=>by have:=eC b hb;omega) rfl rfl (by simp [maxLen]);have ah:=Z5.stp hN;clear hN;replace aM:=aM.up ah;have aF:=ah.size;refine Z4 (ZS (a:=[112,114,101,118]) rfl rfl rfl aM an (by decide)) ?_;clear aM;rintro _ w3 ⟨aM,am⟩;have aH:=am.size;replace bP:=Xa (Xa bP aF) aH;replace hS:=(hS.trans ah).ow am;clear ah am an aF aH;refine Z1 (Z0 (vs:=[(0,.I 21)]) rfl (Zs _)) rfl ?_;rintro bv w2 hN;have an:SlV (m :: X) w2 bv [(21:Int)]:=hN.slv (λb hb=>by have:=eC b hb;omega) rfl rfl (by simp [maxLen]);have ah:=Z5.stp hN;clear hN;replace aM:=aM.up ah;have aF:=ah.size;refine Z4 (ZS (a:=[108,97,116,101,114]) rfl rfl rfl aM an (by decide)) ?_;clear aM;rintro _ w3 ⟨aM,am⟩;have aH:=am.size;replace bP:=Xa (Xa bP aF) aH;replace hS:=(hS.trans ah).ow am;clear ah am an aF aH;refine Z1 (Z0 (vs:=[(0,.I 22)]) rfl (Zs _)) rfl ?_;rintro bv w2 hN;have an:SlV (m :: X) w2 bv [(22:Int)]:=hN.slv (λb hb=>by have:=eC b hb;omega) rfl rfl (by simp [maxLen]);have ah:=Z5.stp hN;clear hN;replace aM:=aM.up ah;have aF:=ah.size;refine Z4 (ZS (a:=[101,97,114,108,105,101,114]) rfl rfl rfl aM an (by decide)) ?_;clear aM;rintro _ w3 ⟨aM,am⟩;have aH:=am.size;replace bP:=Xa (Xa bP aF) aH;replace hS:=(hS.trans ah).ow am;clear ah am an aF aH;refine Z1 (Z0 (vs:=[(0,.I 23)]) rfl (Zs _)) rfl ?_;rintro bv w2 hN;have an:SlV (m :: X) w2 bv [(23:Int)]:=hN.slv (λb hb=>by have:=eC b hb;omega) rfl rfl (by simp [maxLen]);have ah:=Z5.stp hN;clear hN;replace aM:=aM.up ah;have aF:=ah.size;refine Z4 (ZS (a:=[98,101,116,119,101,101,110]) rfl rfl rfl aM an (by decide)) ?_;clear aM;rintro _ w3 ⟨aM,am⟩;have aH:=am.size;replace bP:=Xa (Xa bP aF) aH;replace hS:=(hS.trans ah).ow am;clear ah am an aF aH;refine RT ?_;exact ⟨m,rfl,aM,hS⟩
def opF (s:Str):List Int:=match Z7P.find? (λp=>decide (p.1=s)) with|some p=>p.2|none=>[]
theorem ZeN (s:Str):(opF s).length<=2:=by
 unfold opF;cases h:Z7P.find? (λp=>decide (p.1=s)) with
 | none=>simp
 | some p=>
   have hp:=X5 h;have:∀ p∈Z7P,p.2.length<=2:=by decide
   exact this p hp
theorem Zar.get {X:List Nat} {w} {m:Nat} (h:Zar X w m Z7P) (s:Str):∃ l:List (Str×Value),JL str w m l/\SlV X w (Z3E l s (.N)) (opF s):=by
 obtain ⟨l,h1,h2,h3⟩:=h;refine ⟨l,h1,?_⟩;unfold Z3E opF;have hf:(l.find? (λp=>decide (p.1=s))=none/\Z7P.find? (λp=>decide (p.1=s))=none)\/∃ i,∃ (h:i<l.length) (h':i<Z7P.length),l.find? (λp=>decide (p.1=s))=some l[i]/\Z7P.find? (λp=>decide (p.1=s))=some Z7P[i]:=by
  cases hq:l.find? (λp=>decide (p.1=s)) with
  | none=>
    left;refine ⟨rfl,?_⟩;rw [Yaq];intro p hp;obtain ⟨i,hi,rfl⟩:=Xr hp;have:=Yaq.1 hq l[i] (Xd (by omega))
    rwa [(h3 i (by omega) hi).1] at this
  | some p=>
    right;obtain ⟨hp,i,hi,rfl,hb⟩:=Yar.1 hq;refine ⟨i,hi,by omega,rfl,?_⟩;rw [Yar];refine ⟨by rw [<- (h3 i hi (by omega)).1];exact hp,i,by omega,rfl,λj hj=>?_⟩;rw [<- (h3 j (by omega) (by omega)).1];exact hb j hj
 rcases hf with ⟨e1,e2⟩|⟨i,h,h',e1,e2⟩
 rw [e1,e2];exact ⟨none,0,rfl,Xn _,by simp [maxLen],λ_=>rfl,λi h=>absurd h (Xu _)⟩;rw [e1,e2];exact (h3 i h h').2.ext (Stp.refl [] w) (by simp) (λb hb=>.inl (XJ _ hb))
def Jq:List Cf->Nat->List Ins
 | [],_=>[]
 | c :: r,p=>c p++Jq r (p+(c p).length)
theorem Z6V (a b:List Cf) (p:Nat):Jq (a++b) p=Jq a p++Jq b (p+(Jq a p).length):=by
 induction a generalizing p with
 | nil=>simp [Jq]
 | cons c r ih=>
   simp only [XA,Jq,ih,Xc,Xy];rw [YaB]
theorem Z9m (cs:List Cf) (p i:Nat) (h:i<cs.length):Jq (cs.take (i+1)) p=Jq (cs.take i) p++cs[i] (p+(Jq (cs.take i) p).length):=by
 rw [Xh h,Z6V];simp [Jq]
theorem Z7v (cs:List Cf) (p i:Nat):(Jq (cs.take i) p).length<=(Jq cs p).length:=by
 have:Jq cs p=Jq (cs.take i) p++Jq (cs.drop i) (p+(Jq (cs.take i) p).length):=by rw [<- Z6V,XM]
 rw [this,Xc];omega
def Z2h (l:List Int):List Ins:=l.map (λo=>⟨o,0⟩)
def Z0H (k:Int) (s:Str) (cs:List Cf) (p:Nat):List Ins:=Jq cs p++(if k=8\/k=5/\s=[45] then [⟨8,0⟩] else [])++Z2h (opF s)
theorem ZfK (x:Nd) (cs:List Cf) (aL:cs.length=x.kids.length) (bo:∀ i (h:i<x.kids.length) (h':i<cs.length),ZdF x.kids[i] cs[i]) (w) (bc base:Nat) (v nv:Value) (xs:List Ins) (hc:Cod w bc base v xs)
 (hx:NdV (bc :: ob v) w nv x) (hF:SlV (bc :: ob v) w Z2x Zf) (hl:xs.length+(Z0H x.kind x.word cs xs.length).length<=100000) :
 CC 234 #[pQ bc,nv] w λr w'=>Z3t w bc base v (xs++Z0H x.kind x.word cs xs.length) w':=by
 have dW:=hl;unfold Z0H at dW;simp only [Xc] at dW;obtain ⟨kv,rfl,hs⟩:=hx;have aT:=hs.max;refine cW2 47 Tryz.func234 ?_;refine W ?_;refine Z1 (Zp rfl) rfl ?_;rintro _ wA ⟨b,rfl,hb,ac,hS⟩;replace ac:Blk wA b _ (ndC x kv):=ac;have ke:∀ b∈bc :: ob v,b<w.heap.size:=λb hb=>by
  rcases Xb.1 hb with rfl|h
  exact hc.blk.lt;exact (hc.row.ob_le b h).2
 have nb:b∉bc :: ob v:=λh=>by have:=ke _ h;omega
 replace hc:=hc.up hS;replace hs:=hs.up hS;replace hF:=hF.up hS;have main:∀ ys w',Z3t wA bc base v ys w'->Z3t w bc base v ys w':=λys w' h=>h.pre hS;refine W ?_;refine Z0o (σ:=Value) (λu=>[(0,pQ bc),(3,pQ b)]) (λu w'=>Fr wA w' bc base v u (xs++Jq cs xs.length)) ?_ ?_;refine LP (σ:=Nat×Value) (λq=>[(0,pQ bc),(3,pQ b),(9,kv),(10,.I (x.kids.length:Int)),(11,.I (q.1:Int))]) (λq w'=>q.1<=x.kids.length/\Fr wA w' bc base v q.2 (xs++Jq (cs.take q.1) xs.length)) (λq=>x.kids.length - q.1) (0,v) ⟨Xq _,by simpa [Jq] using Fr.start hc⟩ ?_;rintro ⟨j,u⟩ w2 ⟨hj,fr⟩;dsimp only at hj fr ⊢;by_cases ag:j<x.kids.length;have bu:=fr.sl hs;obtain ⟨kv2,de,ce⟩:=bu.nd ag;have ay:=Z9m cs xs.length j (by omega);have cO:=Z7v cs xs.length (j+1);have pH:=Z7v cs xs.length j;rw [ay,Xc] at cO;refine QO ?_;apply Z9 (JF rfl rfl bu ag ce) rfl;refine Z1 Z2 rfl ?_;rintro _ w3 ⟨b3,rfl,dV,aK,am⟩;refine SB (us:=ndC x.kids[j] kv2) (Zi de) aK ?_;rintro _ w4 ⟨aI,bA⟩;have ie:=am.ow aI;replace fr:=fr.up ie;replace de:=de.up ie;refine W ?_;have ai:(xs++Jq (cs.take j) xs.length).length=xs.length+(Jq (cs.take j) xs.length).length:=Xc;refine CM (Zg rfl rfl) (bo j ag (by omega) _ bc base _ _ _ fr.cod ⟨kv2,rfl,de⟩ (fr.sl hF) (by rw [ai];omega)) ?_;rintro _ w5 hq;obtain ⟨u5,fr⟩:=fr.step hq;rw [ai,Xy,<- ay] at fr;refine W ?_;exact QL (j+1,u5) ⟨by dsimp only;omega,fr⟩ (by dsimp only;omega);have d8:j=x.kids.length:=by omega
 subst d8;rw [<- aL,Xo] at fr;refine QO ?_;exact QT u fr;rintro u w2 fr;have pI:=fr.bk ac nb;unfold Z0H;generalize Jq cs xs.length=A at *;rw [<- Xy,<- Xy];refine Zht (σ:=Value) (λu=>[(0,pQ bc),(3,pQ b)]) (λu w'=>Fr wA w' bc base v u (xs++A++if x.kind=8\/x.kind=5/\x.word=[45] then [⟨8,0⟩] else [])) ?_ ?_;by_cases gD:x.kind=8\/x.kind=5/\x.word=[45]
 . have fJ:(xs++A).length<=1000000:=by simp only [Xc];omega
   rw [if_pos gD];repeat'(first|refine W1 ?_|omega|refine VG ?_ ?_<;>intro hg|refine VC ?_ ?_<;>intro hc)
   all_goals first
    | (refine CL (Z33 bc base _ _ 8 0 _ fr.cod fJ) ?_
       rintro _ w3 ⟨rfl,hq⟩;obtain ⟨u3,fr⟩:=fr.step hq;refine W ?_;exact QT u3 fr)
    | (exfalso;rcases gD with h|⟨h1,h2⟩<;>first|omega|contradiction)
 . rw [if_neg gD,XD]
   have iJ:¬ x.kind=8:=λh=>gD (.inl h);repeat'(first|refine W1 ?_|omega|refine VG ?_ ?_<;>intro hg|refine VC ?_ ?_<;>intro hc)
   all_goals first
    | exact QT u fr
    | (exfalso;exact gD (.inr ⟨by assumption,by assumption⟩))
 rintro u3 w3 fr;have pI:=fr.bk ac nb;have lK:=ZeN x.word;generalize hB:xs++A++(if x.kind=8\/x.kind=5/\x.word=[45] then [(⟨8,0⟩:Ins)] else [])=B at *;have xB:B.length<=200000:=by
  rw [<- hB];simp only [Xc];have:(if x.kind=8\/x.kind=5/\x.word=[45] then [(⟨8,0⟩:Ins)] else []).length<=1:=by split<;>simp
  omega
 refine W ?_;refine ZDr 6 [] [] [(1,0),(2,1),(5,0),(0,2),(3,2),(4,0)] (λw1 ae=>?_);replace fr:=fr.up ae;replace pI:=pI.up ae;have sH:∀ b∈bc :: ob u3,b<w1.heap.size:=λb hb=>(Xb.1 hb).elim (λh=>h ▸ fr.cod.blk.lt) (λh=>(fr.cod.row.ob_le b h).2);refine D ?_;refine DC (Z93 (bc :: ob u3) _ sH) (λ_ _ h=>h.choose_spec.2.2) ?_;rintro _ w5 ⟨m,rfl,hm,aD⟩;replace fr:=fr.up aD;obtain ⟨l,bP,ax⟩:=hm.get x.word;refine Za rfl trivial (ZnY (Z1Q (K:=inferInstance) (a:=x.word) rfl rfl bP)) (λ_ _ h=>h.2 ▸ Stp.refl _ _) rfl ?_;rintro _ _ ⟨rfl,rfl⟩;generalize Z3E l x.word (.N)=ov at *;generalize opF x.word=O at *;refine D ?_;refine W ?_;refine LP (σ:=Nat×Value) (λq=>[(0,pQ bc),(37,ov),(38,.I (O.length:Int)),(39,.I (q.1:Int))]) (λq w'=>q.1<=O.length/\SlV (bc :: ob q.2) w' ov O/\Fr wA w' bc base v q.2 (B++Z2h (O.take q.1))) (λq=>O.length - q.1) (0,u3) ⟨Xq _,ax,by simpa [Z2h] using fr⟩ ?_;clear fr ax sH;rintro ⟨j,u⟩ w6 ⟨hj,ax,fr⟩;dsimp only at hj fr ⊢;by_cases ag:j<O.length;have fJ:(B++Z2h (O.take j)).length<=1000000:=by simp only [Xc,Z2h,Xt,Xv];omega
 refine QO ?_;refine CL (Z33 bc base _ _ O[j] 0 _ fr.cod fJ) ?_;rintro _ w7 ⟨rfl,hq⟩;obtain ⟨u7,om,aQ,fb⟩:=id hq;have pJ:SlV (bc :: ob u7) w7 ov O:=Zo1 ax aQ fb;have fr7:Fr wA w7 bc base v u7 (B++Z2h (O.take j)++[⟨O[j],0⟩]):=by
  refine ⟨om,?_,λb hb=>?_⟩;exact fr.stp.own aQ (λb hb=>by
   rcases Xb.1 hb with rfl|h
   exact .inl (by simp);exact (fr.sub b h).imp (λh=>XJ _ h) id)
  rcases fb b hb with h|h
  exact fr.sub b h;exact .inr (Xg fr.stp.size h)
 refine W ?_;refine QL (j+1,u7) ⟨by dsimp only;omega,pJ,?_⟩ (by dsimp only;omega);dsimp only;rw [Xh ag];unfold Z2h at fr7 ⊢;rw [XQ,<- Xy];exact fr7;have d8:j=O.length:=by omega
 subst d8;rw [Xo] at fr;refine QO ?_;refine WR ?_;exact .mk (main _ _ fr.fin)
def Z14 (k n:Int) (s:Str):Ins:=if k=1 then ⟨1,n⟩ else if k=2 then ⟨2,n⟩ else if k=3 then ⟨3,n⟩ else ⟨4,(ZR s).1⟩
def Z58:Cf:=λ_=>[]
def Z1h (k n:Int) (s:Str) (cs:List Cf) (p:Nat):List Ins:=
 if cs.length=0 then [Z14 k n s]
 else if k=9 then chC (cs.getD 0 Z58) (cs.getD 1 Z58) (cs.getD 2 Z58) p
 else if k=6/\s=[97,110,100] then chC (cs.getD 0 Z58) (cs.getD 1 Z58) (λ_=>[⟨2,0⟩]) p
 else if k=6/\s=[111,114] then chC (cs.getD 0 Z58) (λ_=>[⟨2,1⟩]) (cs.getD 1 Z58) p
 else if k=6/\s=[45] then Z0H k s cs p++[⟨6,0⟩]
 else Z0H k s cs p
def Zd:Nd->Nat->List Ins
 | .mk k n s l=>Z1h k n s (l.map Zd)
theorem Z5u (x:Nd):Zd x=Z1h x.kind x.num x.word (x.kids.map Zd):=by
 cases x;rw [Zd];rfl
theorem ZiW (w):(Instr.build 97 #[(0,.I 2)]).run Tryz.prog w=.ok (.agg #[.I 2,.I 0,str [],.N]) w:=by kernel_rfl
theorem ZiX (w):(Instr.build 97 #[(0,.I 2),(1,.I 1)]).run Tryz.prog w=.ok (.agg #[.I 2,.I 1,str [],.N]) w:=by kernel_rfl
theorem Zm {α:Type} [Z7 α] (X:List Nat) (w:World):SlV (α:=α) X w (.N) []:=⟨none,0,rfl,Xn _,by simp [maxLen],λ_=>rfl,λi h=>absurd h (Xu _)⟩
theorem Z2j {α:Type} [Z7 α] {X:List Nat} {w w':World} {v u:Value} {l:List α} {i k j:Nat} (hs:SlV X w v l) (hi:i<l.length) (hS:Stp X w w') (h:w.cell? (ZM v i k j)=some u):w'.cell? (ZM v i k j)=some u:=by
 obtain ⟨p,c,rfl,_,_,_,hc⟩:=hs;obtain ⟨b,o,cs,rfl,_,hx,_⟩:=hc i hi;exact hS.cell hx h
theorem SlV.nil {α:Type} [Z7 α] {X:List Nat} {w} {v:Value} {l:List α} (h:SlV X w v l):SlV [] w v l:=h.ext (Stp.refl [] w) (by simp) (by simp)
theorem Z7Q {x:Nd} (h:x.kids=[]) (p:Nat):Zd x p=[Z14 x.kind x.num x.word]:=by
 rw [Z5u,h];simp [Z1h]
theorem ZdG {x:Nd} (h:x.kids≠[]):(x.kids.map Zd).length≠0:=by simpa using h
theorem Z7R {x:Nd} {i:Nat} (h:i<x.kids.length):(x.kids.map Zd).getD i Z58=Zd x.kids[i]:=by simp [List.getD,h]
inductive Smp:Nd->Prop
 | mk {x:Nd} (h6:x.kind≠6) (h9:x.kind≠9) (hk:∀ y∈x.kids,Smp y):Smp x
theorem Smp.k6 {x:Nd} (h:Smp x):x.kind≠6:=by cases h;assumption
theorem Smp.k9 {x:Nd} (h:Smp x):x.kind≠9:=by cases h;assumption
theorem Smp.kids {x:Nd} (h:Smp x):∀ y∈x.kids,Smp y:=by cases h;assumption
theorem Zmp (x:Nd):Ze x≠0->Smp x->ZdF x (Zd x):=by
 induction x using Nd.ind with
 | h k n s l ih=>
 intro jL gT;have pK:=(Z57 jL).2;have bo:∀ i (h:i<(Nd.mk k n s l).kids.length) (h':i<((Nd.mk k n s l).kids.map Zd).length),ZdF (Nd.mk k n s l).kids[i] ((Nd.mk k n s l).kids.map Zd)[i]:=by
  intro i h h';rw [List.getElem_map];exact ih _ (Xd h) (pK _ (Xd h)) (gT.kids _ (Xd h))
 have aL:((Nd.mk k n s l).kids.map Zd).length=(Nd.mk k n s l).kids.length:=by simp
 have dI:=Z6U jL;have pL:=ZdE jL;have lL:=Z5u (.mk k n s l);have lM:=Z7Q (x:=.mk k n s l);have im:(Nd.mk k n s l).kids≠[]->5<=(Nd.mk k n s l).kind:=by
  intro h;rcases (dI h).2 with ⟨h,_,_⟩|⟨h,_,_⟩|⟨h,_,_⟩|⟨h,_⟩|⟨h,_,_⟩<;>omega
 have pM:(Nd.mk k n s l).kind=6->(Nd.mk k n s l).kids.length=2:=by
  intro h6;by_cases h0:(Nd.mk k n s l).kids=[]
  have:=pL h0;omega;rcases (dI h0).2 with ⟨h,_,_⟩|⟨h,_,hm⟩|⟨h,_,_⟩|⟨h,_⟩|⟨h,_,_⟩<;>omega
 have sI:(Nd.mk k n s l).kind=9->(Nd.mk k n s l).kids.length=3:=by
  intro h6;by_cases h0:(Nd.mk k n s l).kids=[]
  have:=pL h0;omega;rcases (dI h0).2 with ⟨h,_,_⟩|⟨h,_,hm⟩|⟨h,_,_⟩|⟨h,hm⟩|⟨h,_,_⟩<;>omega
 have jM:=λi=>Z7R (x:=.mk k n s l) (i:=i);generalize (Nd.mk k n s l)=x at *;clear ih;intro w bc base v nv xs io hx hF hl;obtain ⟨kv,rfl,hs⟩:=hx;refine cW2 63 Tryz.func170 ?_;refine W ?_;refine Z1 (Zp rfl) rfl ?_;rintro _ wA ⟨b,rfl,hb,ac,hS⟩;replace ac:Blk wA b _ (ndC x kv):=ac;have main:∀ ys w',Z3t wA bc base v ys w'->Z3t w bc base v ys w':=λys w' h=>h.pre hS;have ke:∀ b∈bc :: ob v,b<w.heap.size:=λb hb=>by
  rcases Xb.1 hb with rfl|h
  exact io.blk.lt;exact (io.row.ob_le b h).2
 have nb:b∉bc :: ob v:=λh=>by have:=ke _ h;omega
 replace io:=io.up hS;replace hs:=hs.up hS;replace hF:=hF.up hS;have leaf:∀ op n,[(⟨op,n⟩:Ins)]=Zd x xs.length->∀ w',Z3t wA bc base v (xs++[⟨op,n⟩]) w'->Z3t w bc base v (xs++Zd x xs.length) w':=λop n h w' h'=>h ▸ main _ _ h';repeat'(first|refine W1 ?_|omega|refine VG ?_ ?_<;>intro hg|refine VC ?_ ?_<;>intro hc)
 have h0:x.kids=[]:=Decidable.byContradiction (λh=>by have:=im h;omega);refine CM (ZY rfl rfl rfl) (Z33 bc base _ _ 1 x.num _ io (by omega)) ?_;rintro _ w2 ⟨rfl,hq⟩;refine W ?_;refine WR ?_;exact .mk (leaf _ _ (by rw [lM h0,Z14,if_pos (by assumption)]) _ hq);have h0:x.kids=[]:=Decidable.byContradiction (λh=>by have:=im h;omega);refine CM (ZY rfl rfl rfl) (Z33 bc base _ _ 2 x.num _ io (by omega)) ?_;rintro _ w2 ⟨rfl,hq⟩;refine W ?_;refine WR ?_;exact .mk (leaf _ _ (by rw [lM h0,Z14,if_neg (by assumption),if_pos (by assumption)]) _ hq);have h0:x.kids=[]:=Decidable.byContradiction (λh=>by have:=im h;omega);refine CM (ZY rfl rfl rfl) (Z33 bc base _ _ 3 x.num _ io (by omega)) ?_;rintro _ w2 ⟨rfl,hq⟩;refine W ?_;refine WR ?_;exact .mk (leaf _ _ (by rw [lM h0,Z14,if_neg (by assumption),if_neg (by assumption),if_pos (by assumption)]) _ hq);have h0:x.kids=[]:=Decidable.byContradiction (λh=>by have:=im h;omega);refine CL (Z9l x.word _ (SlV.nil hF)) ?_;rintro _ w2 ⟨rfl,ah⟩;refine W ?_;refine CM (ZY rfl rfl rfl) (Z33 bc base _ _ 4 (ZR x.word).1 _ (io.up ah) (by omega)) ?_;rintro _ w3 ⟨rfl,hq⟩;refine W ?_;refine WR ?_;exact .mk (leaf _ _ (by rw [lM h0,Z14,if_neg (by assumption),if_neg (by assumption),if_neg (by assumption)]) _ (hq.pre ah));exact absurd (by assumption) gT.k6;exact absurd (by assumption) gT.k9;have h0:x.kids≠[]:=λh=>by have:=pL h;omega
 have e0:Z1h x.kind x.num x.word (x.kids.map Zd) xs.length=Z0H x.kind x.word (x.kids.map Zd) xs.length:=by
  rw [Z1h,if_neg (ZdG h0),if_neg (by assumption),if_neg (λh=>absurd h.1 (by assumption)),if_neg (λh=>absurd h.1 (by assumption)),if_neg (λh=>absurd h.1 (by assumption))]
 rw [lL,e0] at hl ⊢;refine CL (ZfK x _ aL bo _ bc base _ _ _ io ⟨kv,rfl,hs⟩ hF hl) ?_;rintro _ w2 hq;refine W ?_;refine WR ?_;exact .mk (main _ _ hq)
theorem ZiY (l:List Nd) (h:∀ y∈l,∀ p,(Zd y p).length<=8 * ZG y) (p:Nat):(Jq (l.map Zd) p).length<=8 * (l.map ZG).sum:=by
 induction l generalizing p with
 | nil=>simp [Jq]
 | cons x r ih=>
   simp only [Xs,Jq,Xc,List.sum_cons];have h1:=h x (by simp) p;have h2:=ih (λy hy=>h y (by simp [hy])) (p+(Zd x p).length);omega
theorem ZbI (l:List Int):(Z2h l).length=l.length:=by simp [Z2h]
theorem ZiZ {l:List Nd} (h:∀ y∈l,∀ p,(Zd y p).length<=8 * ZG y) (i p:Nat):((l.map Zd).getD i Z58 p).length<=8 * (l.map ZG).getD i 0:=by
 by_cases hi:i<l.length;simp [List.getD,hi];exact h _ (Xd hi) p;simp [List.getD,hi,Z58]
theorem Zj0 (l:List Nat):l.getD 0 0+l.getD 1 0+l.getD 2 0<=l.sum:=by
 rcases l with _|⟨a,_|⟨b,_|⟨c,r⟩⟩⟩<;>simp<;>omega
theorem Zas (c y n:Cf) (A B C:Nat) (hc:∀ p,(c p).length<=A) (hy:∀ p,(y p).length<=B) (hn:∀ p,(n p).length<=C) (p:Nat):(chC c y n p).length<=A+B+C+2:=by
 unfold chC;simp only [Xc,Xe,Xf];have h1:=hc p;have h2:=hy (p+(c p).length+1);have h3:=hn (p+(c p).length+1+(y (p+(c p).length+1)).length+1);omega
theorem Z9n (x:Nd):∀ p,(Zd x p).length<=8 * ZG x:=by
 induction x using Nd.ind with
 | h k n s l ih=>
 intro p;rw [Z5u,Z1c];show (Z1h k n s (l.map Zd) p).length<=8 * (1+(l.map ZG).sum);have hs:=Zj0 (l.map ZG);have g:=ZiZ ih;have hp:(Z0H k s (l.map Zd) p).length<=8 * (l.map ZG).sum+3:=by
  unfold Z0H;simp only [Xc,ZbI];have h1:=ZiY l ih p;have h2:=ZeN s;have h3:(if k=8\/k=5/\s=[45] then [(⟨8,0⟩:Ins)] else []).length<=1:=by split<;>simp
  omega
 unfold Z1h;split;simp;omega;split;refine Xg (Zas _ _ _ _ _ _ (g 0) (g 1) (g 2) p) (by omega);split;refine Xg (Zas _ _ _ _ _ 1 (g 0) (g 1) (λ_=>by simp) p) (by omega);split;refine Xg (Zas _ _ _ _ 1 _ (g 0) (λ_=>by simp) (g 1) p) (by omega);split;simp only [Xc,Xe,Xf];omega;omega
def ZU (x:Nd):List Ins:=Zd x 0++[⟨24,0⟩]
def Z0B (x:Nd):Int:=if Zz x<=12 then (if Ze x=0 then 21 else if (ZU x).length > 200 then 2 else 0) else 2
def Zo2 (w:World) (x:Nd) (r:Value) (w':World):Prop:=∃ cv,r=.tuple #[cv,.I (Z0B x)]/\(∀ X:List Nat,(∀ b∈X,b<w.heap.size)->SlV X w' cv (if Z0B x=0 then ZU x else []))/\Stp [] w w'
theorem Z3L (v:Value) (x:Nd) (w) (gT:Smp x) (bI:ZG x<=1000) (hx:NdV [] w v x) (hF:SlV [] w Z2x Zf) :
 Calls Tryz.prog 93 #[v] w (Ret (Zo2 w x)):=by
 have hN:=hx;obtain ⟨kv,rfl,hs⟩:=hx;refine cW1 24 Tryz.func93 ?_;refine W ?_;refine Z1 (Zp rfl) rfl ?_;rintro _ w1 ⟨b,rfl,hb,ac,hS⟩;replace ac:Blk w1 b _ (ndC x kv):=ac;replace hs:=hs.up hS;replace hN:=hN.up hS;replace hF:=hF.up hS;refine W ?_;refine CL (ZiT [] [] _ x _ hN hF) ?_;rintro _ w2 ⟨rfl,ah⟩;replace hs:=hs.up ah;replace hN:=hN.up ah;replace hF:=hF.up ah;replace ac:=ac.up ah;replace hS:=hS.trans ah;by_cases hn:Zz x<=12
 case neg=>
  rw [if_neg hn,if_neg hn];have he:Z0B x=2:=by rw [Z0B,if_neg hn]
  refine QO ?_;refine WR ?_;refine .mk ⟨_,by rw [he];rfl,λX hX=>?_,hS⟩;rw [he,if_neg (by decide)];exact Zm _ _
 by_cases ht:Ze x=0;rw [if_pos hn,if_pos hn,if_pos ht];have he:Z0B x=21:=by rw [Z0B,if_pos hn,if_pos ht]
 refine QO ?_;refine WR ?_;refine .mk ⟨_,by rw [he];rfl,λX hX=>?_,hS⟩;rw [he,if_neg (by decide)];exact Zm _ _;rw [if_pos hn,if_pos hn,if_neg ht];refine QO ?_;refine Z1 Z2 rfl ?_;rintro _ w3 ⟨bc,rfl,xC,gj,am⟩;replace ac:=ac.up am;replace gj:Blk w3 bc 244 [.N]:=gj;refine W ?_;have kg:Cod w3 bc w3.heap.size (.N) []:=⟨gj,Row.nil,by simp [ob],gj.lt,Xn _⟩
 have fr:=Fr.start kg;have ai:=Z9n x 0;refine CL (Zmp x ht gT _ bc _ _ _ [] kg ⟨kv,rfl,?_⟩ ?_ ?_) ?_;refine hs.ext am (by simp) (λc hc=>.inr ?_);simp [ob] at hc;omega;refine hF.ext am (by simp) (λc hc=>.inr ?_);simp [ob] at hc;omega;simp only [Xf];omega;rintro _ w4 hq;obtain ⟨v4,fr⟩:=fr.step hq;rw [XT,Xf] at fr;refine W ?_;refine CM (ZY rfl rfl rfl) (Z33 bc _ _ _ 24 0 _ fr.cod (by omega)) ?_;rintro _ w5 ⟨rfl,hq⟩;obtain ⟨v5,fr⟩:=fr.step hq;have mG:Stp [] w w5:=hS.trans (am.own fr.stp (λc hc=>.inr (by simp [ob] at hc;omega)));have ab:=fr.cod.row;have mA:=fr.cod.blk;have pN:=ab.slv0;have dw:((Zd x 0++[(⟨24,0⟩:Ins)]).length:Int)=(ZU x).length:=rfl;by_cases hg:(ZU x).length > 200;have he:Z0B x=2:=by rw [Z0B,if_pos hn,if_neg ht,if_pos hg]
 refine QO ?_;refine WR ?_;refine .mk ⟨_,by rw [he],λX hX=>?_,mG⟩;rw [he,if_neg (by decide)];exact Zm _ _;have he:Z0B x=0:=by rw [Z0B,if_pos hn,if_neg ht,if_neg hg]
 refine QO ?_;refine WR ?_;refine .mk ⟨_,by rw [he],λX hX=>?_,mG⟩;rw [he,if_pos rfl];exact Row.slv (X:=X) ab (λb hb=>by have:=hX b hb;have:=hS.size;have:=am.size;omega)
theorem ZsB (op:BinOp) (x y:Operand) (a b:Ins) (w):(eqGuard op 171 x y (agg a) (agg b)).run Tryz.prog w=.ok () w:=by
 cases op<;>kernel_rfl
end Go.Proofs.YtipfkbkkndacjaaGreatDoor
namespace Go.Eng
open Go Go.RowKit Go.Proofs
def ZI {β:Type} [Z3 β] (T:Nat) (w w':World) (v:Value) (xs:List β):Prop:=Row [] w' w.heap.size T v xs/\Stp [] w w'
section
variable {β:Type} [Z3 β] {T:Nat} {w w' w'':World} {v:Value} {xs ys:List β}
theorem Row.lower {α:Type} [Z7 α] {X:List Nat} {a b:Nat} {xs:List α} (h:Row X w b T v xs) (cP:a<=b):Row X w a T v xs:=by
 obtain ⟨css,h1,h2,h3,h4⟩:=h;refine ⟨css,h1,h2,h3,h4.imp id ?_⟩;rintro ⟨g,cap,cur,e1,e2,rest⟩;exact ⟨g,cap,cur,e1,Xg cP e2,rest⟩
theorem ZI.nil:ZI (β:=β) T w w (.N) []:=⟨Row.nil,Stp.refl _ _⟩
theorem ZI.up (h:ZI T w w' v xs) (hS:Stp [] w' w''):ZI T w w'' v xs:=⟨h.1.up hS,h.2.trans hS⟩
theorem ZI.pre (hS:Stp [] w w') (h:ZI T w' w'' v xs):ZI T w w'' v xs:=⟨h.1.lower hS.size,hS.trans h.2⟩
theorem ZI.one {cs:List Value} {len:Nat} (h:Z5 w T len cs v w') (hl:len=xs.length) (hc:cs=xs.flatMap Z3.enc) (hm:xs.length<=maxLen):ZI T w w' v xs:=⟨h.row (Xn _) hl hc hm,h.choose_spec.2.2.2⟩
theorem ZI.slv (h:ZI T w w' v xs) {X:List Nat} (hX:∀ b∈X,b<w.heap.size):SlV X w' v xs:=Row.slv (X:=X) h.1 hX
theorem ZI.ob_le (h:ZI T w w' v xs):∀ b∈ob v,w.heap.size<=b/\b<w'.heap.size:=h.1.ob_le
theorem ZI.step {S:List Nat} (h:ZI T w w' v xs) (hS:Stp S w' w'') (ho:∀ b∈S,b∈ob v):Stp [] w w'':=h.2.own hS (λb hb=>.inr (h.ob_le b (ho b hb)).1)
section
variable {P:Program} {n:Nat} {e:Env} {d:Option Nat} {ty:TypeId} {pos:String} {af:Array Edge} {g:Option (Nat×Bool)}
theorem JD {x y:Operand} {t bytes:Nat} {u:Value} {z:Value} [ht:Und P t (.slice T)] [hk:Siz P T (Z7.k β)] [hb:Byt P T bytes] [hz:Zer P T z] (fF:z.cells.size=Z7.k β) (br:0<Z7.k β)
 (hx:ev e x=some v) (hy:ev e y=some u) (h:ZI T w w' v xs) (cJ:SlV (ob v) w' u ys) (hbytes:(xs.length+ys.length) * bytes<=140737488355328) (ai:xs.length+ys.length<=maxLen) :
 OE P n ⟨d,.call { callee:=.builtin .append,args:=#[x,y],argTypes:=#[t,t] },ty,pos,af,g⟩ e w' (λv' w''=>ZI T w w'' v' (xs++ys)/\Stp (ob v) w' w''/\∀ b∈ob v',b∈ob v\/w'.heap.size<=b):=by
 refine (J4 (X:=[]) (base:=w.heap.size) fF br hx hy h.1 (by rw [XD];exact cJ) hbytes ai h.2.size).mono ?_;rintro v' w2 ⟨h1,h2,h3⟩;exact ⟨⟨h1,h.step h2 (λ_ hb=>hb)⟩,h2,h3⟩
theorem Zat {i j k:Nat} {t:TypeId} {x y:Operand} {u:Value} {y':β} [bI:Siz P t 1] (hx:ev e x=some (.pointer (some (ZM v i k j)))) (hy:ev e y=some u) (hk:k=Z3.k β)
 (hu:u.cells.toList=[u]) (h1:u.oneCell'=true) (h:ZI T w w' v xs) (hi:i<xs.length) (hj:j<Z3.k β) (bH:Z3.enc y'=(Z3.enc xs[i]).set j u) :
 OE P n ⟨d,.store t x y,ty,pos,af,g⟩ e w' (λ_ w''=>ZI T w w'' v (xs.set i y')/\Stp (ob v) w' w''):=by
 refine (Z4j (β:=β) hx hy hk hu h1 h.1 hi hj bH).mono ?_;rintro _ w2 ⟨h2,h3⟩;exact ⟨⟨h2,h.step h3 (λ_ hb=>hb)⟩,h3⟩
end
end
structure Sl (α:Type) where
 l:List α
instance {α:Type} [Z7 α]:Z7 (Sl α) where
 k:=1
 rep:=λX w x cs=>∃ v,cs=[v]/\SlV X w v x.l
 len:=by rintro X w x cs ⟨v,rfl,_⟩;rfl
 one:=by
  rintro X w x cs ⟨v,rfl,p,c,rfl,_⟩ u hu;simp at hu;subst hu;rfl
 ext:=by
  rintro X S X' w w' x cs ⟨v,rfl,h⟩ hS h1 h2;exact ⟨v,rfl,h.ext hS h1 h2⟩
theorem Z5.slvS {α:Type} [Z7 α] {w w':World} {X:List Nat} {T len:Nat} {vs:List Value} {v:Value} {xss:List (Sl α)} (h:Z5 w T len vs v w') (hX:∀ b∈X,b<w.heap.size) (hl:len=xss.length) (xD:vs.length=xss.length)
 (hr:∀ i (hi:i<xss.length) (cQ:i<vs.length),SlV X w vs[i] xss[i].l) (hm:xss.length<=maxLen):SlV X w' v xss:=by
 obtain ⟨b,rfl,hb,ac,hS⟩:=h;subst hl;refine ⟨some ⟨b,0,none⟩,xss.length,rfl,Xn _,hm,λh=>by simp at h,λi hi=>⟨b,0,[vs[i]'(by omega)],rfl,ac.lt,λhx=>by have:=hX b hx;omega,⟨_,rfl,(hr i hi (by omega)).up hS⟩,λj u hu=>?_⟩⟩;refine ac.cell ?_;have:j=0:=by
  have:=(Xx.1 hu).1;simp at this;exact this
 subst this;simp at hu;subst hu;simp [Z7.k]
theorem SlV.sub {α:Type} [Z7 α] {w} {X:List Nat} {v:Value} {xss:List (Sl α)} {i:Nat} (h:SlV X w v xss) (hi:i<xss.length):∃ u,w.cell? (ZM v i 1 0)=some u/\SlV X w u xss[i].l:=by
 obtain ⟨cs,⟨u,rfl,hu⟩,hc⟩:=h.cell hi;exact ⟨u,hc 0 u rfl,hu⟩
end Go.Eng
namespace Go.Proofs.YtipfkbkkndacjaaGreatDoor
open Go Go.Eng Go.RowKit
theorem Z9o (v:Value) (x:Nd) (w) (hx:NdV [] w v x):CC 186 #[v] w λr w'=>r=agg (Z14 x.kind x.num x.word)/\Stp [] w w':=by
 obtain ⟨kv,rfl,hs⟩:=hx;refine cW1 32 Tryz.func186 ?_;refine W ?_;refine Z1 (Zp rfl) rfl ?_;rintro _ w1 ⟨b,rfl,hb,ac,hS⟩;replace ac:Blk w1 b _ (ndC x kv):=ac;have bI:=hS.size;refine Z1 Z2 rfl ?_;rintro _ w2 ⟨b2,rfl,cr,aP,ah⟩;replace ac:=ac.up ah;replace hS:=hS.trans ah;repeat'(first|refine W1 ?_|omega|refine VG ?_ ?_<;>intro hg|refine VC ?_ ?_<;>intro hc)
 apply Z8 (vs:=[(0,.I 1),(1,.I _)]) rfl (Z7O _ _) rfl;refine SA (us:=Z3.enc (Ins.mk 1 x.num)) aP ?_;rintro _ w3 ⟨am,aK⟩;refine W ?_;refine Zk rfl rfl rfl aK rfl ?_;refine .mk ⟨by rw [Z14,if_pos (by assumption)];rfl,hS.ow am⟩;apply Z8 (vs:=[(0,.I 2),(1,.I _)]) rfl (Z7O _ _) rfl;refine SA (us:=Z3.enc (Ins.mk 2 x.num)) aP ?_;rintro _ w3 ⟨am,aK⟩;refine W ?_;refine Zk rfl rfl rfl aK rfl ?_;refine .mk ⟨by rw [Z14,if_neg (by assumption),if_pos (by assumption)];rfl,hS.ow am⟩;apply Z8 (vs:=[(0,.I 3),(1,.I _)]) rfl (Z7O _ _) rfl;refine SA (us:=Z3.enc (Ins.mk 3 x.num)) aP ?_;rintro _ w3 ⟨am,aK⟩;refine W ?_;refine Zk rfl rfl rfl aK rfl ?_;refine .mk ⟨by rw [Z14,if_neg (by assumption),if_neg (by assumption),if_pos (by assumption)];rfl,hS.ow am⟩;refine CL (Z6S x.word _) ?_;rintro _ w3 ⟨rfl,am⟩;replace aP:=aP.up am;replace hS:=hS.trans am;refine W ?_;apply Z8 (vs:=[(0,.I 4),(1,.I _)]) rfl (Z7O _ _) rfl;refine SA (us:=Z3.enc (Ins.mk 4 (ZR x.word).1)) aP ?_;rintro _ w4 ⟨aI,bA⟩;refine W ?_;refine Zk rfl rfl rfl bA rfl ?_;refine .mk ⟨by rw [Z14,if_neg (by assumption),if_neg (by assumption),if_neg (by assumption)];rfl,hS.ow aI⟩
def Z3M (k:Int) (s:Str):List Int:=(if k=8\/k=5/\s=[45] then [8] else [])++opF s++(if k=6/\s=[45] then [6] else [])
def Zau:List Str:=[[43],[45],[42],[60],[60,61],[61],[62],[62,61],[33,61]]
def Zav:List (Sl Int):=[⟨[5]⟩,⟨[6]⟩,⟨[7]⟩,⟨[9]⟩,⟨[10]⟩,⟨[11]⟩,⟨[10,12]⟩,⟨[9,12]⟩,⟨[11,12]⟩]
theorem Zj1 (a b c d:Int) (w):(Instr.buildSlice 23 4 #[(0,.I a),(1,.I b),(2,.I c),(3,.I d)]).run Tryz.prog w=.ok (.slice (some ⟨w.heap.size,0,none⟩) 4 4) (w.alloc (.cells #[.I a,.I b,.I c,.I d] 3)):=by kernel_rfl
theorem Zj2 (a b c d e:Int) (w):(Instr.buildSlice 23 5 #[(0,.I a),(1,.I b),(2,.I c),(3,.I d),(4,.I e)]).run Tryz.prog w=.ok (.slice (some ⟨w.heap.size,0,none⟩) 5 5) (w.alloc (.cells #[.I a,.I b,.I c,.I d,.I e] 3)):=by kernel_rfl
theorem Zj3 (a b c d e:Str) (w):(Instr.buildSlice 128 5 #[(0,str a),(1,str b),(2,str c),(3,str d),(4,str e)]).run Tryz.prog w=.ok (.slice (some ⟨w.heap.size,0,none⟩) 5 5) (w.alloc (.cells #[str a,str b,str c,str d,str e] 9)):=by kernel_rfl
theorem Zj4 (a b c d e f g h i:Str) (w):(Instr.buildSlice 128 9 #[(0,str a),(1,str b),(2,str c),(3,str d),(4,str e),(5,str f),(6,str g),(7,str h),(8,str i)]).run Tryz.prog w=.ok (.slice (some ⟨w.heap.size,0,none⟩) 9 9) (w.alloc (.cells #[str a,str b,str c,str d,str e,str f,str g,str h,str i] 9)):=by kernel_rfl
theorem Zj5 (p0 p1 p2 p3 p4 p5 p6 p7 p8:Option Addr) (l0 l1 l2 l3 l4 l5 l6 l7 l8 c0 c1 c2 c3 c4 c5 c6 c7 c8:Nat) (w):(Instr.buildSlice 312 9 #[(0,.slice p0 l0 c0),(1,.slice p1 l1 c1),(2,.slice p2 l2 c2),(3,.slice p3 l3 c3),(4,.slice p4 l4 c4),(5,.slice p5 l5 c5),(6,.slice p6 l6 c6),(7,.slice p7 l7 c7),(8,.slice p8 l8 c8)]).run Tryz.prog w=.ok (.slice (some ⟨w.heap.size,0,none⟩) 9 9) (w.alloc (.cells #[.slice p0 l0 c0,.slice p1 l1 c1,.slice p2 l2 c2,.slice p3 l3 c3,.slice p4 l4 c4,.slice p5 l5 c5,.slice p6 l6 c6,.slice p7 l7 c7,.slice p8 l8 c8] 23)):=by kernel_rfl
theorem o6 {s:Str} (h:s∈Z0f\/s∈Z2g\/s∈Z09) (ha:¬ s=[97,110,100]) (ho:¬ s=[111,114]):∃ i,∃ h:i<Zav.length,idx (isS s) Zau=(i:Int)/\Zav[i].l=Z3M 6 s:=by
 simp only [Z0f,Z2g,Z09,Xb,Xj,or_false] at h;rcases h with (h|h|h)|(h|h|h|h|h|h)|(h|h)<;>subst h
 exact ⟨0,by decide,by decide,by decide⟩;exact ⟨1,by decide,by decide,by decide⟩;exact ⟨2,by decide,by decide,by decide⟩;exact ⟨3,by decide,by decide,by decide⟩;exact ⟨4,by decide,by decide,by decide⟩;exact ⟨5,by decide,by decide,by decide⟩;exact ⟨8,by decide,by decide,by decide⟩;exact ⟨6,by decide,by decide,by decide⟩;exact ⟨7,by decide,by decide,by decide⟩;exact absurd rfl ha;exact absurd rfl ho
theorem oU {s:Str} (h:s∈J3):∃ i,∃ h:i < [(15:Int),16,17,18].length,idx (isS s) J3=(i:Int)/\Z3M 7 s=[[(15:Int),16,17,18][i]]/\Z3M 8 s=[8,[(15:Int),16,17,18][i]]:=by
 simp only [J3,Xb,Xj,or_false] at h;rcases h with h|h|h|h<;>subst h
 exact ⟨0,by decide,by decide,by decide,by decide⟩;exact ⟨1,by decide,by decide,by decide,by decide⟩;exact ⟨2,by decide,by decide,by decide,by decide⟩;exact ⟨3,by decide,by decide,by decide,by decide⟩
theorem oC {s:Str} (h:s∈Z7N):∃ i,∃ h:i < [(19:Int),20,21,22,23].length,idx (isS s) Z7N=(i:Int)/\Z3M 10 s=[[(19:Int),20,21,22,23][i]]:=by
 simp only [Z7N,Xb,Xj,or_false] at h;rcases h with h|h|h|h|h<;>subst h
 exact ⟨0,by decide,by decide,by decide⟩;exact ⟨1,by decide,by decide,by decide⟩;exact ⟨2,by decide,by decide,by decide⟩;exact ⟨3,by decide,by decide,by decide⟩;exact ⟨4,by decide,by decide,by decide⟩
theorem ZdH (X:List Nat) (v:Value) (x:Nd) (w:World) (gk:∀ b∈X,b<w.heap.size) (dI:Zo0 x.kind x.word x.kids.length) (h9:¬ x.kind=9) (ha:¬ (x.kind=6/\x.word=[97,110,100])) (ho:¬ (x.kind=6/\x.word=[111,114])) (hx:NdV [] w v x) :
 CC 188 #[v] w λr w'=>SlV X w' r (Z3M x.kind x.word)/\Stp [] w w':=by
 obtain ⟨kv,rfl,hs⟩:=hx;refine cW1 63 Tryz.func188 ?_;refine W ?_;refine Z1 (Zp rfl) rfl ?_;rintro _ w0 ⟨b,rfl,hb,ac,hS⟩;replace ac:Blk w0 b _ (ndC x kv):=ac;have hX:∀ b∈X,b<w0.heap.size:=λb hb=>Xa (gk b hb) hS.size;refine W ?_;refine Z1 (Z0 (vs:=[(0,.I 5)]) rfl (Zs _)) rfl ?_;rintro a0 u0 hN;have s_a0:SlV X u0 a0 [(5:Int)]:=hN.slv hX rfl rfl (by simp [maxLen]);have hT:=Z5.stp hN;clear hN;replace ac:=ac.up hT;replace hS:=hS.trans hT;replace hX:=λb hb=>Xa (hX b hb) hT.size;clear hT;refine Z1 (Z0 (vs:=[(0,.I 6)]) rfl (Zs _)) rfl ?_;rintro a1 u1 hN;have s_a1:SlV X u1 a1 [(6:Int)]:=hN.slv hX rfl rfl (by simp [maxLen]);have hT:=Z5.stp hN;clear hN;replace ac:=ac.up hT;replace hS:=hS.trans hT;replace hX:=λb hb=>Xa (hX b hb) hT.size;replace s_a0:=s_a0.up hT;clear hT;refine Z1 (Z0 (vs:=[(0,.I 7)]) rfl (Zs _)) rfl ?_;rintro a2 u2 hN;have s_a2:SlV X u2 a2 [(7:Int)]:=hN.slv hX rfl rfl (by simp [maxLen]);have hT:=Z5.stp hN;clear hN;replace ac:=ac.up hT;replace hS:=hS.trans hT;replace hX:=λb hb=>Xa (hX b hb) hT.size;replace s_a0:=s_a0.up hT;replace s_a1:=s_a1.up hT;clear hT;refine Z1 (Z0 (vs:=[(0,.I 9)]) rfl (Zs _)) rfl ?_;rintro a3 u3 hN;have s_a3:SlV X u3 a3 [(9:Int)]:=hN.slv hX rfl rfl (by simp [maxLen]);have hT:=Z5.stp hN;clear hN;replace ac:=ac.up hT;replace hS:=hS.trans hT;replace hX:=λb hb=>Xa (hX b hb) hT.size;replace s_a0:=s_a0.up hT;replace s_a1:=s_a1.up hT;replace s_a2:=s_a2.up hT;clear hT;refine Z1 (Z0 (vs:=[(0,.I 10)]) rfl (Zs _)) rfl ?_;rintro a4 u4 hN;have s_a4:SlV X u4 a4 [(10:Int)]:=hN.slv hX rfl rfl (by simp [maxLen]);have hT:=Z5.stp hN;clear hN;replace ac:=ac.up hT;replace hS:=hS.trans hT;replace hX:=λb hb=>Xa (hX b hb) hT.size;replace s_a0:=s_a0.up hT;replace s_a1:=s_a1.up hT;replace s_a2:=s_a2.up hT;replace s_a3:=s_a3.up hT;clear hT;refine Z1 (Z0 (vs:=[(0,.I 11)]) rfl (Zs _)) rfl ?_;rintro a5 u5 hN;have s_a5:SlV X u5 a5 [(11:Int)]:=hN.slv hX rfl rfl (by simp [maxLen]);have hT:=Z5.stp hN;clear hN;replace ac:=ac.up hT;replace hS:=hS.trans hT;replace hX:=λb hb=>Xa (hX b hb) hT.size;replace s_a0:=s_a0.up hT;replace s_a1:=s_a1.up hT;replace s_a2:=s_a2.up hT;replace s_a3:=s_a3.up hT;replace s_a4:=s_a4.up hT;clear hT;refine Z1 (Z0 (vs:=[(0,.I 10),(1,.I 12)]) rfl (Z02 _ _)) rfl ?_;rintro a6 u6 hN;have s_a6:SlV X u6 a6 [(10:Int),(12:Int)]:=hN.slv hX rfl rfl (by simp [maxLen]);have hT:=Z5.stp hN;clear hN;replace ac:=ac.up hT;replace hS:=hS.trans hT;replace hX:=λb hb=>Xa (hX b hb) hT.size;replace s_a0:=s_a0.up hT;replace s_a1:=s_a1.up hT;replace s_a2:=s_a2.up hT;replace s_a3:=s_a3.up hT;replace s_a4:=s_a4.up hT;replace s_a5:=s_a5.up hT;clear hT;refine Z1 (Z0 (vs:=[(0,.I 9),(1,.I 12)]) rfl (Z02 _ _)) rfl ?_;rintro a7 u7 hN;have s_a7:SlV X u7 a7 [(9:Int),(12:Int)]:=hN.slv hX rfl rfl (by simp [maxLen]);have hT:=Z5.stp hN;clear hN;replace ac:=ac.up hT;replace hS:=hS.trans hT;replace hX:=λb hb=>Xa (hX b hb) hT.size;replace s_a0:=s_a0.up hT;replace s_a1:=s_a1.up hT;replace s_a2:=s_a2.up hT;replace s_a3:=s_a3.up hT;replace s_a4:=s_a4.up hT;replace s_a5:=s_a5.up hT;replace s_a6:=s_a6.up hT;clear hT;refine Z1 (Z0 (vs:=[(0,.I 11),(1,.I 12)]) rfl (Z02 _ _)) rfl ?_;rintro a8 u8 hN;have s_a8:SlV X u8 a8 [(11:Int),(12:Int)]:=hN.slv hX rfl rfl (by simp [maxLen]);have hT:=Z5.stp hN;clear hN;replace ac:=ac.up hT;replace hS:=hS.trans hT;replace hX:=λb hb=>Xa (hX b hb) hT.size;replace s_a0:=s_a0.up hT;replace s_a1:=s_a1.up hT;replace s_a2:=s_a2.up hT;replace s_a3:=s_a3.up hT;replace s_a4:=s_a4.up hT;replace s_a5:=s_a5.up hT;replace s_a6:=s_a6.up hT;replace s_a7:=s_a7.up hT;clear hT;obtain ⟨p0,c0,rfl,_⟩:=id s_a0;obtain ⟨p1,c1,rfl,_⟩:=id s_a1;obtain ⟨p2,c2,rfl,_⟩:=id s_a2;obtain ⟨p3,c3,rfl,_⟩:=id s_a3;obtain ⟨p4,c4,rfl,_⟩:=id s_a4;obtain ⟨p5,c5,rfl,_⟩:=id s_a5;obtain ⟨p6,c6,rfl,_⟩:=id s_a6;obtain ⟨p7,c7,rfl,_⟩:=id s_a7;obtain ⟨p8,c8,rfl,_⟩:=id s_a8;refine Z1 (Z0 (vs:=[(0,.slice p0 _ c0),(1,.slice p1 _ c1),(2,.slice p2 _ c2),(3,.slice p3 _ c3),(4,.slice p4 _ c4),(5,.slice p5 _ c5),(6,.slice p6 _ c6),(7,.slice p7 _ c7),(8,.slice p8 _ c8)]) rfl (Zj5 _ _ _ _ _ _ _ _ _ _ _ _ _ _ _ _ _ _ _ _ _ _ _ _ _ _ _)) rfl ?_;rintro tw u9 hN;have s_tw:SlV X u9 tw Zav:=hN.slvS (xss:=Zav) hX rfl rfl (λi hi cQ=>match i,hi with|0,_=>s_a0|1,_=>s_a1|2,_=>s_a2|3,_=>s_a3|4,_=>s_a4|5,_=>s_a5|6,_=>s_a6|7,_=>s_a7|8,_=>s_a8) (by decide);have hT:=Z5.stp hN;clear hN;replace ac:=ac.up hT;replace hS:=hS.trans hT;replace hX:=λb hb=>Xa (hX b hb) hT.size;replace s_a0:=s_a0.up hT;replace s_a1:=s_a1.up hT;replace s_a2:=s_a2.up hT;replace s_a3:=s_a3.up hT;replace s_a4:=s_a4.up hT;replace s_a5:=s_a5.up hT;replace s_a6:=s_a6.up hT;replace s_a7:=s_a7.up hT;replace s_a8:=s_a8.up hT;clear hT;clear s_a0 s_a1 s_a2 s_a3 s_a4 s_a5 s_a6 s_a7 s_a8;refine W ?_;refine Z1 (Z0 (vs:=[(0,.I 19),(1,.I 20),(2,.I 21),(3,.I 22),(4,.I 23)]) rfl (Zj2 _ _ _ _ _)) rfl ?_;rintro cl u10 hN;have s_cl:SlV X u10 cl [(19:Int),20,21,22,23]:=hN.slv hX rfl rfl (by simp [maxLen]);have hT:=Z5.stp hN;clear hN;replace ac:=ac.up hT;replace hS:=hS.trans hT;replace hX:=λb hb=>Xa (hX b hb) hT.size;replace s_tw:=s_tw.up hT;clear hT;refine W ?_;refine Z1 (Z0 (vs:=[(0,.I 15),(1,.I 16),(2,.I 17),(3,.I 18)]) rfl (Zj1 _ _ _ _)) rfl ?_;rintro un u11 hN;have s_un:SlV X u11 un [(15:Int),16,17,18]:=hN.slv hX rfl rfl (by simp [maxLen]);have hT:=Z5.stp hN;clear hN;replace ac:=ac.up hT;replace hS:=hS.trans hT;replace hX:=λb hb=>Xa (hX b hb) hT.size;replace s_tw:=s_tw.up hT;replace s_cl:=s_cl.up hT;clear hT;refine W ?_;refine Z1 (Z0 (vs:=[(0,str [100,97,121,115]),(1,str [119,101,101,107,115]),(2,str [109,111,110,116,104,115]),(3,str [99,111,117,114,116,100,97,121,115])]) rfl (ZbA _ _ _ _)) rfl ?_;rintro us u12 hN;have s_us:SlV X u12 us J3:=hN.slv hX rfl rfl (by simp [J3,maxLen]);have hT:=Z5.stp hN;clear hN;replace ac:=ac.up hT;replace hS:=hS.trans hT;replace hX:=λb hb=>Xa (hX b hb) hT.size;replace s_tw:=s_tw.up hT;replace s_cl:=s_cl.up hT;replace s_un:=s_un.up hT;clear hT;refine W ?_;refine CL (Z3G X _ J3 x.word _ s_us) ?_;rintro _ w2 ⟨rfl,hT⟩;replace ac:=ac.up hT;replace s_tw:=s_tw.up hT;replace s_cl:=s_cl.up hT;replace s_un:=s_un.up hT;replace hS:=hS.trans hT;replace hX:=λb hb=>Xa (hX b hb) hT.size;clear hT s_us;have sJ:x.kind=7\/x.kind=8->x.word∈J3:=λhk=>by
  rcases dI with ⟨h,_,_⟩|⟨h,_,_⟩|⟨h,hu,_⟩|⟨h,_⟩|⟨h,_,_⟩<;>first|exact hu|omega
 have ux:x.kind=6->x.word∈Z0f\/x.word∈Z2g\/x.word∈Z09:=λhk=>by
  rcases dI with ⟨h,_,_⟩|⟨h,hu,_⟩|⟨h,_,_⟩|⟨h,_⟩|⟨h,_,_⟩<;>first|exact hu|omega
 have uy:x.kind=5->x.word=[45]\/x.word=[110,111,116]:=λhk=>by
  rcases dI with ⟨h,hu,_⟩|⟨h,_,_⟩|⟨h,_,_⟩|⟨h,_⟩|⟨h,_,_⟩<;>first|exact hu|omega
 have pO:¬ x.kind=5->¬ x.kind=6->¬ x.kind=7->¬ x.kind=8->x.kind=10/\x.word∈Z7N:=λ_ _ _ _=>by
  rcases dI with ⟨h,_,_⟩|⟨h,_,_⟩|⟨h,_,_⟩|⟨h,_⟩|⟨h,hu,_⟩<;>first|exact ⟨h,hu⟩|omega
 refine W ?_;by_cases k5:x.kind=5;have sK:=uy k5
 (refine QP ?_ ?_<;>intro hc)
 refine Z1 (Z0 (vs:=[(0,.I 8)]) rfl (Zs _)) rfl ?_;rintro r w3 hN;have hr:SlV X w3 r [(8:Int)]:=hN.slv hX rfl rfl (by simp [maxLen]);have hT:=Z5.stp hN;refine W ?_;refine WR ?_;have hw:x.word=[45]:=by assumption
 exact .mk ⟨by rw [k5,hw];exact hr,hS.trans hT⟩;refine Z1 (Z0 (vs:=[(0,.I 12)]) rfl (Zs _)) rfl ?_;rintro r w3 hN;have hr:SlV X w3 r [(12:Int)]:=hN.slv hX rfl rfl (by simp [maxLen]);have hT:=Z5.stp hN;refine W ?_;refine WR ?_;have hw:x.word=[110,111,116]:=sK.resolve_left (by assumption);exact .mk ⟨by rw [k5,hw];exact hr,hS.trans hT⟩;by_cases k6:x.kind=6;have uz:=ux k6;obtain ⟨i,hi,kh,iK⟩:=o6 uz (λh=>ha ⟨k6,h⟩) (λh=>ho ⟨k6,h⟩);refine QO ?_;refine Z1 (Z0 (vs:=[(0,str [43]),(1,str [45]),(2,str [42]),(3,str [60]),(4,str [60,61]),(5,str [61]),(6,str [62]),(7,str [62,61]),(8,str [33,61])]) rfl (Zj4 _ _ _ _ _ _ _ _ _)) rfl ?_;rintro nv w3 hN;have s_n:SlV X w3 nv Zau:=hN.slv hX rfl rfl (by simp [Zau,maxLen]);have hT:=Z5.stp hN;replace ac:=ac.up hT;replace s_tw:=s_tw.up hT;replace hS:=hS.trans hT;clear hT hN;refine W ?_;refine CL (Z3G X _ Zau x.word _ s_n) ?_;rintro _ w4 ⟨rfl,hT⟩;replace ac:=ac.up hT;replace s_tw:=s_tw.up hT;replace hS:=hS.trans hT;rw [kh];obtain ⟨u,au,fw⟩:=s_tw.sub hi;refine W ?_;apply Z9 (JH rfl rfl au) rfl;refine RT ?_;exact ⟨by rw [k6,<- iK];exact fw,hS⟩;by_cases k7:x.kind=7;obtain ⟨i,hi,kh,iK,_⟩:=oU (sJ (.inl k7));rw [kh];refine QO ?_;refine Z1 (Z0 (vs:=[(0,.I _)]) rfl (Zs _)) rfl ?_;rintro r w3 hN;have hr:SlV X w3 r [[(15:Int),16,17,18][i]]:=hN.slv hX rfl rfl (by simp [maxLen]);have hT:=Z5.stp hN;refine RT ?_;exact ⟨by rw [k7,iK];exact hr,hS.trans hT⟩;by_cases k8:x.kind=8;obtain ⟨i,hi,kh,_,iK⟩:=oU (sJ (.inr k8));rw [kh];refine QO ?_;refine Z1 (Z0 (vs:=[(0,.I 8),(1,.I _)]) rfl (Z02 _ _)) rfl ?_;rintro r w3 hN;have hr:SlV X w3 r [8,[(15:Int),16,17,18][i]]:=hN.slv hX rfl rfl (by simp [maxLen]);have hT:=Z5.stp hN;refine RT ?_;exact ⟨by rw [k8,iK];exact hr,hS.trans hT⟩;obtain ⟨k10,pP⟩:=pO k5 k6 k7 k8;obtain ⟨i,hi,kh,iK⟩:=oC pP;refine QO ?_;refine Z1 (Z0 (vs:=[(0,str [110,101,120,116]),(1,str [112,114,101,118]),(2,str [108,97,116,101,114]),(3,str [101,97,114,108,105,101,114]),(4,str [98,101,116,119,101,101,110])]) rfl (Zj3 _ _ _ _ _)) rfl ?_;rintro nv w3 hN;have s_n:SlV X w3 nv Z7N:=hN.slv hX rfl rfl (by simp [Z7N,maxLen]);have hT:=Z5.stp hN;replace ac:=ac.up hT;replace s_cl:=s_cl.up hT;replace hS:=hS.trans hT;replace hX:=λb hb=>Xa (hX b hb) hT.size;clear hT hN;refine W ?_;refine CL (Z3G X _ Z7N x.word _ s_n) ?_;rintro _ w4 ⟨rfl,hT⟩;replace ac:=ac.up hT;replace s_cl:=s_cl.up hT;replace hS:=hS.trans hT;replace hX:=λb hb=>Xa (hX b hb) hT.size;rw [kh];refine W ?_;refine Z1 (Z0 (vs:=[(0,.I _)]) rfl (Zs _)) rfl ?_;rintro r w5 hN;have hr:SlV X w5 r [[(19:Int),20,21,22,23][i]]:=hN.slv hX rfl rfl (by simp [maxLen]);have hT:=Z5.stp hN;refine RT ?_;exact ⟨by rw [k10,iK];exact hr,hS.trans hT⟩
abbrev RwI (w w':World) (v:Value) (xs:List Ins):Prop:=ZI 171 w w' v xs
def Z6b (x:Nd) (f:Cf):Prop:=∀ (w:World) (nv:Value) (p:Nat) (z:Int),z=(p:Int)->NdV [] w nv x->p+(f p).length<=100000->
 CC 108 #[nv,.I z] w λr w'=>RwI w w' r (f p)
theorem Z3N {x y n:Nd} {f g h:Cf} (hx:Z6b x f) (hy:Z6b y g) (hn:Z6b n h) (w) (xv yv nv:Value) (p0:Nat) (z0:Int) (hz:z0=(p0:Int))
 (gx:NdV [] w xv x) (gy:NdV [] w yv y) (gn:NdV [] w nv n) (hl:p0+(chC f g h p0).length<=100000) :
 CC 187 #[xv,yv,nv,.I z0] w λr w'=>RwI w w' r (chC f g h p0):=by
 have dW:=hl;unfold chC at dW;simp only [Xc,Xe,Xf] at dW;obtain ⟨xk,rfl,sx⟩:=gx;obtain ⟨yk,rfl,sy⟩:=gy;obtain ⟨nk,rfl,sn⟩:=gn;subst hz;refine cW4 60 Tryz.func187 ?_;refine W ?_;refine Z1 (Zp rfl) rfl ?_;rintro _ w1 ⟨b1,rfl,aW,k1,ae⟩;replace k1:Blk w1 b1 _ (ndC x xk):=k1;refine Z1 (Zp rfl) rfl ?_;rintro _ w2 ⟨b2,rfl,cr,k2,ah⟩;replace k2:Blk w2 b2 _ (ndC y yk):=k2;refine Z1 (Zp rfl) rfl ?_;rintro _ w3 ⟨b3,rfl,dV,k3,am⟩;replace k3:Blk w3 b3 _ (ndC n nk):=k3;have hS:=(ae.trans ah).trans am;replace k1:=(k1.up ah).up am;replace k2:=k2.up am;replace sx:=sx.up hS;replace sy:=sy.up hS;replace sn:=sn.up hS;clear ae ah am;have uA:=chC.eq_1 f g h p0;generalize hA:f p0=A at *;generalize hp:p0+A.length+1=p at *;generalize hB:g p=B at *;generalize xE:p+B.length+1=q at *;generalize hD:h q=D at *;rw [uA];have e1:(A++[(⟨14,0⟩:Ins)]).length=A.length+1:=by simp
 have e2:(A++[(⟨14,0⟩:Ins)]++B).length=A.length+1+B.length:=by simp;omega
 have e3:(A++[(⟨14,0⟩:Ins)]++B++[(⟨13,0⟩:Ins)]).length=A.length+1+B.length+1:=by simp;omega
 have e4:∀ z,(A++[(⟨14,z⟩:Ins)]++B++[(⟨13,0⟩:Ins)]).length=A.length+1+B.length+1:=by simp;omega
 have e5:∀ z,(A++[(⟨14,z⟩:Ins)]++B++[(⟨13,0⟩:Ins)]++D).length=A.length+1+B.length+1+D.length:=by simp;omega
 refine W ?_;refine Z1 (Z6 rfl (Zg rfl rfl) (hx _ _ p0 _ rfl ⟨xk,rfl,sx⟩ (by rw [hA];omega))) rfl ?_;rintro v w4 hr;rw [hA] at hr;have ax:=hr.slv (X:=[]) (by simp);refine W ?_;apply Z8 (vs:=[(0,.I 14)]) rfl (Z7u _) rfl;refine Z1 (Z0 (vs:=[(0,agg (Ins.mk 14 0))]) rfl (Z32 _)) rfl ?_;rintro u wb hN;have hu:SlV (ob v) wb u [Ins.mk 14 0]:=hN.slv (λb hb=>(hr.ob_le b hb).2) rfl rfl (by simp [maxLen]);have hT:=Z5.stp hN;clear hN;replace hr:=hr.up hT;clear hT ax;refine Z1 (JD rfl (by decide) rfl rfl hr hu (by simp only [Xe,Xf];omega) (by simp only [Xe,Xf,maxLen];omega)) rfl ?_;clear hu hr;rintro v wc ⟨hr,-,-⟩;have ax:=hr.slv (X:=[]) (by simp);have kk:=k2.up hr.2;refine W ?_;refine Z1 (Z6 rfl (Zg rfl rfl) (hy _ _ p _ (by omega) ⟨yk,rfl,sy.up hr.2⟩ (by rw [hB];omega))) rfl ?_;rintro u wd hu;rw [hB] at hu;have d6:=hu.slv (X:=ob v) (λb hb=>(hr.ob_le b hb).2);replace hr:=hr.up hu.2;clear hu ax kk;refine Z1 (JD rfl (by decide) rfl rfl hr d6 (by rw [e1];omega) (by rw [e1];simp only [maxLen];omega)) rfl ?_;clear d6 hr;rintro v we ⟨hr,-,-⟩;have ax:=hr.slv (X:=[]) (by simp);refine W ?_;apply Z8 (vs:=[(0,.I 13)]) rfl (Z7u _) rfl;refine Z1 (Z0 (vs:=[(0,agg (Ins.mk 13 0))]) rfl (Z32 _)) rfl ?_;rintro u wb hN;have hu:SlV (ob v) wb u [Ins.mk 13 0]:=hN.slv (λb hb=>(hr.ob_le b hb).2) rfl rfl (by simp [maxLen]);have hT:=Z5.stp hN;clear hN;replace hr:=hr.up hT;clear hT ax;refine Z1 (JD rfl (by decide) rfl rfl hr hu (by simp only [e2,Xe,Xf];omega) (by simp only [e2,Xe,Xf,maxLen];omega)) rfl ?_;clear hu hr;rintro v wc ⟨hr,-,-⟩;have ax:=hr.slv (X:=[]) (by simp);have bJ:A.length<(A++[(⟨14,0⟩:Ins)]++B++[(⟨13,0⟩:Ins)]).length:=by rw [e3];omega
 refine W ?_;have pR:(A++[(⟨14,0⟩:Ins)]++B++[(⟨13,0⟩:Ins)])[A.length]=⟨14,0⟩:=by simp
 have gU:(p0:Int)+((A++[(⟨14,0⟩:Ins)]++B++[(⟨13,0⟩:Ins)]).length:Int)=(q:Int):=by rw [e3];omega
 refine Z4 (Zat (i:=A.length) (j:=1) (u:=.I ((p0:Int)+((A++[(⟨14,0⟩:Ins)]++B++[(⟨13,0⟩:Ins)]).length:Int))) (y':=⟨14,(q:Int)⟩) rfl rfl rfl rfl rfl hr bJ (by decide) (by rw [pR,<- gU];rfl)) ?_;have mH:(A++[(⟨14,0⟩:Ins)]++B++[(⟨13,0⟩:Ins)]).set A.length ⟨14,(q:Int)⟩=A++[(⟨14,(q:Int)⟩:Ins)]++B++[(⟨13,0⟩:Ins)]:=by simp
 rw [mH];clear hr ax;rintro _ wf ⟨hr,-⟩;have ax:=hr.slv (X:=[]) (by simp);have e4':=e4 (q:Int);have kk:=k3.up hr.2;refine W ?_;refine Z1 (Z6 rfl (Zg rfl rfl) (hn _ _ q _ (by omega) ⟨nk,rfl,sn.up hr.2⟩ (by rw [hD];omega))) rfl ?_;rintro u wd hu;rw [hD] at hu;have d6:=hu.slv (X:=ob v) (λb hb=>(hr.ob_le b hb).2);replace hr:=hr.up hu.2;clear hu ax kk;refine Z1 (JD rfl (by decide) rfl rfl hr d6 (by rw [e4];omega) (by rw [e4];simp only [maxLen];omega)) rfl ?_;clear d6 hr;rintro v we ⟨hr,-,-⟩;have ax:=hr.slv (X:=[]) (by simp);have e5':=e5 (q:Int);have cp:A.length+1+B.length<(A++[(⟨14,(q:Int)⟩:Ins)]++B++[(⟨13,0⟩:Ins)]++D).length:=by rw [e5];omega
 refine W ?_;have e2':(A++[(⟨14,(q:Int)⟩:Ins)]++B).length=A.length+1+B.length:=by simp;omega
 have bD:A++[(⟨14,(q:Int)⟩:Ins)]++B++[(⟨13,0⟩:Ins)]++D=(A++[(⟨14,(q:Int)⟩:Ins)]++B)++(⟨13,0⟩:Ins) :: D:=by simp
 rw [e2];have pS:(A++[(⟨14,(q:Int)⟩:Ins)]++B++[(⟨13,0⟩:Ins)]++D)[A.length+1+B.length]=⟨13,0⟩:=by
  rw [X8 (by rw [e4];omega),X4 (by omega)];simp
 have ip:(p0:Int)+((A++[(⟨14,(q:Int)⟩:Ins)]++B++[(⟨13,0⟩:Ins)]++D).length:Int)=((q+D.length:Nat):Int):=by rw [e5];omega
 refine Z4 (Zat (i:=A.length+1+B.length) (j:=1) (u:=.I ((p0:Int)+((A++[(⟨14,(q:Int)⟩:Ins)]++B++[(⟨13,0⟩:Ins)]++D).length:Int))) (y':=⟨13,((q+D.length:Nat):Int)⟩) rfl rfl rfl rfl rfl hr cp (by decide) (by rw [pS,<- ip];rfl)) ?_;have mI:(A++[(⟨14,(q:Int)⟩:Ins)]++B++[(⟨13,0⟩:Ins)]++D).set (A.length+1+B.length) ⟨13,((q+D.length:Nat):Int)⟩=A++[(⟨14,(q:Int)⟩:Ins)]++B++[(⟨13,((q+D.length:Nat):Int)⟩:Ins)]++D:=by
  rw [bD,List.set_append_right _ _ (by omega),e2'];simp
 rw [mI];clear hr ax;rintro _ wg ⟨hr,-⟩;refine W ?_;refine WR ?_;exact .mk (hr.pre hS)
theorem ZbJ (z:Int):Z6b (.mk 2 z [] []) (λ_=>[⟨2,z⟩]):=by
 intro w nv p z0 hz hx hl;have hN:=hx;obtain ⟨kv,rfl,hs⟩:=hx;refine cW2 107 Tryz.func108 ?_;refine W ?_;refine Z1 (Zp rfl) rfl ?_;rintro _ w1 ⟨b,rfl,hb,ac,hS⟩;replace ac:Blk w1 b _ (ndC (.mk 2 z [] []) kv):=ac;replace hs:=hs.up hS;replace hN:=hN.up hS;have fc:(Nd.mk 2 z [] []).kids.length=0:=rfl;refine QO ?_;refine Z1 (Z6 rfl (ZP rfl) (Z9o _ (.mk 2 z [] []) _ hN)) rfl ?_;rintro _ w2 ⟨rfl,ah⟩;refine Z1 (Z0 (vs:=[(0,agg (Ins.mk 2 z))]) rfl (Z32 _)) rfl ?_;rintro u w3 pT;have hr:RwI w2 w3 u [Ins.mk 2 z]:=ZI.one pT rfl rfl (by simp [maxLen]);refine W ?_;refine WR ?_;exact .mk (hr.pre (hS.trans ah))
theorem Zaw {x:Nd} (cs:List Cf) (p:Nat) (aR:¬ cs.length=0) (h9:¬ x.kind=9) (ha:¬ (x.kind=6/\x.word=[97,110,100])) (ho:¬ (x.kind=6/\x.word=[111,114])):Z1h x.kind x.num x.word cs p=Jq cs p++Z2h (Z3M x.kind x.word):=by
 unfold Z1h Z3M Z0H;rw [if_neg aR,if_neg h9,if_neg ha,if_neg ho];by_cases hm:x.kind=6/\x.word=[45]
 rw [if_pos hm,if_pos hm,hm.1,hm.2];simp [Z2h];rw [if_neg hm,if_neg hm];by_cases h8:x.kind=8\/x.kind=5/\x.word=[45]
 rw [if_pos h8,if_pos h8];simp [Z2h];rw [if_neg h8,if_neg h8];simp [Z2h]
theorem Zmq (x:Nd):Ze x≠0->Z6b x (Zd x):=by
 induction x using Nd.ind with
 | h k n s l ih=>
 intro jL;have pK:=(Z57 jL).2;have bo:∀ i (h:i<(Nd.mk k n s l).kids.length),Z6b (Nd.mk k n s l).kids[i] (Zd (Nd.mk k n s l).kids[i]):=by
  intro i h;exact ih _ (Xd h) (pK _ (Xd h))
 have dI:=Z6U jL;have lL:=Z5u (.mk k n s l);have lM:=Z7Q (x:=.mk k n s l);have jM:=λi=>Z7R (x:=.mk k n s l) (i:=i);generalize (Nd.mk k n s l)=x at *;clear ih;intro w nv p z0 hz hx hl;subst hz;have hN:=hx;obtain ⟨kv,rfl,hs⟩:=hx;have aT:=hs.max;refine cW2 107 Tryz.func108 ?_;refine W ?_;refine Z1 (Zp rfl) rfl ?_;rintro _ wA ⟨b,rfl,hb,ac,hS⟩;replace ac:Blk wA b _ (ndC x kv):=ac;replace hs:=hs.up hS;replace hN:=hN.up hS;by_cases h0:x.kids=[]
 have fc:x.kids.length=0:=by rw [h0];rfl
 rw [lM h0];refine QO ?_;refine Z1 (Z6 rfl (ZP rfl) (Z9o _ x _ hN)) rfl ?_;rintro _ w2 ⟨rfl,ah⟩;refine Z1 (Z0 (vs:=[(0,agg (Z14 x.kind x.num x.word))]) rfl (Z32 _)) rfl ?_;rintro u w3 pT;have hr:RwI w2 w3 u [Z14 x.kind x.num x.word]:=ZI.one pT rfl rfl (by simp [maxLen]);refine W ?_;refine WR ?_;exact .mk (hr.pre (hS.trans ah));have im:¬ x.kids.length=0:=λh=>h0 (YaP h);have aL:¬ (x.kids.map Zd).length=0:=by simpa using h0
 replace dI:=(dI h0).2;have pM:x.kind=6->x.kids.length=2:=λh6=>by
  rcases dI with ⟨h,_,_⟩|⟨h,_,hm⟩|⟨h,_,_⟩|⟨h,_⟩|⟨h,_,_⟩<;>omega
 have sI:x.kind=9->x.kids.length=3:=λh6=>by
  rcases dI with ⟨h,_,_⟩|⟨h,_,hm⟩|⟨h,_,_⟩|⟨h,hm⟩|⟨h,_,_⟩<;>omega
 by_cases h9:x.kind=9;have h3:=sI h9;have h0:0<x.kids.length:=by omega
 have h1:1<x.kids.length:=by omega
 have h2:2<x.kids.length:=by omega
 have e9:Zd x=chC (Zd x.kids[0]) (Zd x.kids[1]) (Zd x.kids[2]):=by
  funext p;rw [lL,Z1h,if_neg aL,if_pos h9,jM 0 h0,jM 1 h1,jM 2 h2]
 rw [e9] at hl ⊢;refine QO ?_;refine ZDr 15 [] [] [(0,0),(1,1),(2,0),(3,1),(4,0),(5,1),(6,0),(7,1),(8,0),(9,1),(10,0),(11,1),(12,0),(13,2),(14,0)] (λw1 ae=>?_);replace hs:=hs.up ae;replace ac:=ac.up ae;replace hS:=hS.trans ae;obtain ⟨u0,s0,d0⟩:=hs.nd h0;obtain ⟨u1,s1,d1⟩:=hs.nd h1;obtain ⟨u2,s2,d2⟩:=hs.nd h2;refine D ?_;refine J7 rfl trivial (λw' aU=>JF rfl rfl (hs.on aU (λ_ h=>h)) h0 (λj u hj=>Z2j hs h0 aU (d0 j u hj))) rfl ?_;refine D ?_;refine J7 rfl trivial (λw' aU=>JF rfl rfl (hs.on aU (λ_ h=>h)) h1 (λj u hj=>Z2j hs h1 aU (d1 j u hj))) rfl ?_;refine D ?_;refine J7 rfl trivial (λw' aU=>JF rfl rfl (hs.on aU (λ_ h=>h)) h2 (λj u hj=>Z2j hs h2 aU (d2 j u hj))) rfl ?_;refine D ?_;refine DC (Z3N (bo 0 h0) (bo 1 h1) (bo 2 h2) _ _ _ _ p _ rfl ⟨u0,rfl,s0⟩ ⟨u1,rfl,s1⟩ ⟨u2,rfl,s2⟩ hl) (λ_ _ h=>h.2) ?_;rintro _ w5 hq;refine D ?_;refine W ?_;refine WR ?_;exact .mk (hq.pre hS);by_cases ha:x.kind=6/\x.word=[97,110,100]
 . obtain ⟨h6,hw⟩:=ha
   have h2:=pM h6;have h0:0<x.kids.length:=by omega
   have h1:1<x.kids.length:=by omega
   have e9:Zd x=chC (Zd x.kids[0]) (Zd x.kids[1]) (λ_=>[⟨2,0⟩]):=by
    funext p;rw [lL,Z1h,if_neg aL,if_neg h9,if_pos ⟨h6,hw⟩,jM 0 h0,jM 1 h1]
   rw [e9] at hl ⊢;repeat'(first|refine W1 ?_|omega|refine VG ?_ ?_<;>intro hg|refine VC ?_ ?_<;>intro hc)
   all_goals first
    | (exfalso;contradiction)
    | skip
   refine ZDr 12 [] [] [(0,0),(1,1),(2,0),(3,1),(4,0),(5,1),(6,0),(7,1),(8,0),(9,0),(10,2),(11,0)] (λw1 ae=>?_);replace hs:=hs.up ae;replace ac:=ac.up ae;replace hS:=hS.trans ae;obtain ⟨u0,s0,d0⟩:=hs.nd h0;obtain ⟨u1,s1,d1⟩:=hs.nd h1;refine D ?_;refine J7 rfl trivial (λw' aU=>JF rfl rfl (hs.on aU (λ_ h=>h)) h0 (λj u hj=>Z2j hs h0 aU (d0 j u hj))) rfl ?_;refine D ?_;refine J7 rfl trivial (λw' aU=>JF rfl rfl (hs.on aU (λ_ h=>h)) h1 (λj u hj=>Z2j hs h1 aU (d1 j u hj))) rfl ?_;refine D ?_;apply Z2E;exact rfl;apply Z2F (vs:=[(0,.I 2)]);exact trivial;exact rfl;exact ZiW;exact rfl;refine D ?_;refine DC (Z3N (bo 0 h0) (bo 1 h1) (ZbJ 0) _ _ _ _ p _ rfl ⟨u0,rfl,s0⟩ ⟨u1,rfl,s1⟩ ⟨_,rfl,Zm _ _⟩ hl) (λ_ _ h=>h.2) ?_;rintro _ w5 hq;refine D ?_;refine W ?_;refine WR ?_;exact .mk (hq.pre hS)
 by_cases ho:x.kind=6/\x.word=[111,114]
 . obtain ⟨h6,hw⟩:=ho
   have h2:=pM h6;have xF:¬ x.word=[97,110,100]:=λh=>ha ⟨h6,h⟩;have h0:0<x.kids.length:=by omega
   have h1:1<x.kids.length:=by omega
   have e9:Zd x=chC (Zd x.kids[0]) (λ_=>[⟨2,1⟩]) (Zd x.kids[1]):=by
    funext p;rw [lL,Z1h,if_neg aL,if_neg h9,if_neg ha,if_pos ⟨h6,hw⟩,jM 0 h0,jM 1 h1]
   rw [e9] at hl ⊢;repeat'(first|refine W1 ?_|omega|refine VG ?_ ?_<;>intro hg|refine VC ?_ ?_<;>intro hc)
   all_goals first
    | (exfalso;contradiction)
    | skip
   refine ZDr 12 [] [] [(0,0),(1,1),(2,0),(3,1),(4,0),(5,0),(6,1),(7,0),(8,1),(9,0),(10,2),(11,0)] (λw1 ae=>?_);replace hs:=hs.up ae;replace ac:=ac.up ae;replace hS:=hS.trans ae;obtain ⟨u0,s0,d0⟩:=hs.nd h0;obtain ⟨u1,s1,d1⟩:=hs.nd h1;refine D ?_;refine J7 rfl trivial (λw' aU=>JF rfl rfl (hs.on aU (λ_ h=>h)) h0 (λj u hj=>Z2j hs h0 aU (d0 j u hj))) rfl ?_;refine D ?_;apply Z2E;exact rfl;apply Z2F (vs:=[(0,.I 2),(1,.I 1)]);exact trivial;exact rfl;exact ZiX;exact rfl;refine D ?_;refine J7 rfl trivial (λw' aU=>JF rfl rfl (hs.on aU (λ_ h=>h)) h1 (λj u hj=>Z2j hs h1 aU (d1 j u hj))) rfl ?_;refine D ?_;refine DC (Z3N (bo 0 h0) (ZbJ 1) (bo 1 h1) _ _ _ _ p _ rfl ⟨u0,rfl,s0⟩ ⟨_,rfl,Zm _ _⟩ ⟨u1,rfl,s1⟩ hl) (λ_ _ h=>h.2) ?_;rintro _ w5 hq;refine D ?_;refine W ?_;refine WR ?_;exact .mk (hq.pre hS)
 have uB:=Zaw (x:=x) _ p aL h9 ha ho;rw [lL,uB] at hl ⊢;have bR:(x.kids.map Zd).length=x.kids.length:=by simp
 generalize hO:Z3M x.kind x.word=O at *;rw [Xc,ZbI] at hl;have main:∀ r w',RwI wA w' r (Jq (x.kids.map Zd) p++Z2h O)->RwI w w' r (Jq (x.kids.map Zd) p++Z2h O):=λr w' h=>h.pre hS;repeat'(first|refine W1 ?_|omega|refine VG ?_ ?_<;>intro hg|refine VC ?_ ?_<;>intro hc)
 all_goals first
  | (exfalso;first|exact ha ⟨by assumption,by assumption⟩|exact ho ⟨by assumption,by assumption⟩)
  | skip
 all_goals
  refine LP (σ:=Nat×Value) (λq=>[(1,.I (p:Int)),(2,pQ b),(5,q.2),(6,.I (q.1:Int))]) (λq w'=>q.1<=x.kids.length/\RwI wA w' q.2 (Jq ((x.kids.map Zd).take q.1) p)) (λq=>x.kids.length - q.1) (0,.N) ⟨Xq _,by simpa [Jq] using ZI.nil⟩ ?_;rintro ⟨j,v⟩ w2 ⟨hj,hr⟩;dsimp only at hj hr ⊢;have ax:=hr.slv (X:=[]) (by simp);have bu:=hs.up hr.2;have cr:=ac.up hr.2;by_cases ag:j<x.kids.length;obtain ⟨kv2,de,ce⟩:=bu.nd ag;have ay:=Z9m (x.kids.map Zd) p j (by omega);have cO:=Z7v (x.kids.map Zd) p (j+1);have pH:=Z7v (x.kids.map Zd) p j;rw [ay,Xc] at cO;rw [List.getElem_map] at cO ay;refine QO ?_;apply Z9 (JF rfl rfl bu ag ce) rfl;refine W ?_;generalize hA:Jq ((x.kids.map Zd).take j) p=A at *;refine Z1 (Z6 rfl (Zg rfl rfl) (bo j ag _ _ (p+A.length) _ (by omega) ⟨kv2,rfl,de⟩ (by omega))) rfl ?_;rintro u w3 hu;have d6:=hu.slv (X:=ob v) (λb hb=>(hr.ob_le b hb).2);replace hr:=hr.up hu.2;clear hu;refine Z1 (JD rfl (by decide) rfl rfl hr d6 (by omega) (by simp only [maxLen];omega)) rfl ?_;rintro v' w4 ⟨bH,-,-⟩;refine W ?_;refine QL (j+1,v') ⟨by dsimp only;omega,?_⟩ (by dsimp only;omega);dsimp only;rw [ay];exact bH;have d8:j=(x.kids.map Zd).length:=by omega
  subst d8;rw [Xo] at hr ax;generalize Jq (x.kids.map Zd) p=A at *;refine QO ?_;refine Z1 (Z6 rfl (ZP rfl) (ZdH (ob v) _ x _ (λb hb=>(hr.ob_le b hb).2) dI h9 ha ho ⟨kv,rfl,bu⟩)) rfl ?_;rintro ov w3 ⟨d9,hT⟩;rw [hO] at d9;replace hr:=hr.up hT;clear ax bu cr;have xG:=d9.max;refine W ?_;refine LP (σ:=Nat×Value) (λq=>[(5,q.2),(7,ov),(8,.I (q.1:Int))]) (λq w'=>q.1<=O.length/\RwI wA w' q.2 (A++Z2h (O.take q.1))/\SlV (ob q.2) w' ov O) (λq=>O.length - q.1) (0,v) ⟨Xq _,by simpa [Z2h] using hr,d9⟩ ?_;clear hr d9 hT;rintro ⟨i,v5⟩ w5 ⟨hi,hr,d9⟩;dsimp only at hi hr d9 ⊢;by_cases ag:i<O.length;have fJ:(A++Z2h (O.take i)).length=A.length+i:=by simp [Z2h];omega
  refine QO ?_;apply Z8 (vs:=[(0,.I _)]) rfl (Z7u _) rfl;refine Z1 (Z0 (vs:=[(0,agg (Ins.mk O[i] 0))]) rfl (Z32 _)) rfl ?_;rintro u w6 mJ;have hu:SlV (ob v5) w6 u [Ins.mk O[i] 0]:=mJ.slv (λb hb=>(hr.ob_le b hb).2) rfl rfl (by simp [maxLen]);have hT:=Z5.stp mJ;clear mJ;replace hr:=hr.up hT;replace d9:=d9.up hT;refine Z1 (JD rfl (by decide) rfl rfl hr hu (by rw [fJ];simp only [Xe,Xf];omega) (by rw [fJ];simp only [Xe,Xf,maxLen];omega)) rfl ?_;rintro v7 w7 ⟨bH,aQ,bq⟩;refine W ?_;refine QL (i+1,v7) ⟨by dsimp only;omega,?_,d9.ext aQ (λ_ h=>h) bq⟩ (by dsimp only;omega);dsimp only;rw [Xh ag];unfold Z2h at bH ⊢;rw [XQ,<- Xy];exact bH;have uC:i=O.length:=by omega
  subst uC;rw [Xo] at hr;refine QO ?_;refine WR ?_;exact .mk (main _ _ hr)
theorem Z3p (v:Value) (x:Nd) (w) (bI:ZG x<=1000) (cS:Zz x<=1000000) (hx:NdV [] w v x) :
 Calls Tryz.prog 69 #[v] w (Ret (Zo2 w x)):=by
 have hN:=hx;obtain ⟨kv,rfl,hs⟩:=hx;refine cW1 24 Tryz.func69 ?_;refine W ?_;refine Z1 (Zp rfl) rfl ?_;rintro _ w1 ⟨b,rfl,hb,ac,hS⟩;replace ac:Blk w1 b _ (ndC x kv):=ac;replace hs:=hs.up hS;replace hN:=hN.up hS;refine W ?_;refine CL (Z7M [] _ x _ (Z3K x bI) cS hN) ?_;rintro _ w2 ⟨rfl,ah⟩;replace hs:=hs.up ah;replace hN:=hN.up ah;replace ac:=ac.up ah;replace hS:=hS.trans ah;by_cases hn:Zz x<=12
 case neg=>
  rw [if_neg hn,if_neg hn];have he:Z0B x=2:=by rw [Z0B,if_neg hn]
  refine QO ?_;refine WR ?_;refine .mk ⟨_,by rw [he];rfl,λX hX=>?_,hS⟩;rw [he,if_neg (by decide)];exact Zm _ _
 by_cases ht:Ze x=0;rw [if_pos hn,if_pos hn,if_pos ht];have he:Z0B x=21:=by rw [Z0B,if_pos hn,if_pos ht]
 refine QO ?_;refine WR ?_;refine .mk ⟨_,by rw [he];rfl,λX hX=>?_,hS⟩;rw [he,if_neg (by decide)];exact Zm _ _;rw [if_pos hn,if_pos hn,if_neg ht];have ai:=Z9n x 0;refine QO ?_;refine CM (Zg rfl rfl) (Zmq x ht _ _ 0 0 rfl hN (by omega)) ?_;rintro v3 w3 hr;apply Z8 (vs:=[(0,.I 24)]) rfl (Z7u _) rfl;refine Z1 (Z0 (vs:=[(0,agg (Ins.mk 24 0))]) rfl (Z32 _)) rfl ?_;rintro u w4 pU;have hu:SlV (ob v3) w4 u [Ins.mk 24 0]:=pU.slv (λb hb=>(hr.ob_le b hb).2) rfl rfl (by simp [maxLen]);have hT:=Z5.stp pU;clear pU;replace hr:=hr.up hT;refine Z1 (JD rfl (by decide) rfl rfl hr hu (by simp only [Xe,Xf];omega) (by simp only [Xe,Xf,maxLen];omega)) rfl ?_;clear hu hr hT;rintro v5 w5 ⟨hr,-,-⟩;replace hr:=hr.pre hS;replace hr:RwI w w5 v5 (ZU x):=hr;have pN:=hr.slv (X:=[]) (by simp);by_cases hg:(ZU x).length > 200;have he:Z0B x=2:=by rw [Z0B,if_pos hn,if_neg ht,if_pos hg]
 refine QO ?_;refine WR ?_;refine .mk ⟨_,by rw [he],λX hX=>?_,hr.2⟩;rw [he,if_neg (by decide)];exact Zm _ _;have he:Z0B x=0:=by rw [Z0B,if_pos hn,if_neg ht,if_neg hg]
 refine QO ?_;refine WR ?_;refine .mk ⟨_,by rw [he],λX hX=>?_,hr.2⟩;rw [he,if_pos rfl];exact hr.slv hX
end Go.Proofs.YtipfkbkkndacjaaGreatDoor
namespace Go.Eng
open Go Go.RowKit Go.Proofs
theorem Z5.slvG {α:Type} [Z7 α] {w w':World} {X:List Nat} {T len:Nat} {cs:List Value} {v:Value} {ys:List α} {css:List (List Value)} (h:Z5 w T len cs v w') (hX:∀ b∈X,b<w.heap.size) (hl:len=ys.length) (aL:css.length=ys.length)
 (hc:cs=css.flatten) (hr:∀ i (hi:i<ys.length) (cQ:i<css.length),Z7.rep X w ys[i] css[i]) (hm:ys.length<=maxLen):SlV X w' v ys:=by
 obtain ⟨b,rfl,hb,ac,hS⟩:=h;subst hl;subst hc;have hk:∀ c∈css,c.length=Z7.k α:=by
  intro c hc;obtain ⟨i,hi,rfl⟩:=Xr hc;exact Z7.len (hr i (by omega) hi)
 refine ⟨some ⟨b,0,none⟩,ys.length,rfl,Xn _,hm,λh=>by simp at h,λi hi=>⟨b,0,css[i]'(by omega),rfl,ac.lt,λhx=>by have:=hX b hx;omega,Z7.ext (hr i hi (by omega)) hS (by simp) (λb hb=>.inl hb),λj u hu=>?_⟩⟩;refine ac.cell ?_;have:=Z0v css hk i (by omega) j u hu;rw [XN];exact this
theorem SlV.wk {α:Type} [Z7 α] {X X':List Nat} {w} {v:Value} {l:List α} (h:SlV X w v l) (hs:∀ b∈X',b∈X):SlV X' w v l:=h.ext (Stp.refl [] w) (by simp) (λb hb=>.inl (hs b hb))
end Go.Eng
namespace Go.Proofs.YtipfkbkkndacjaaGreatDoor
open Go Go.Eng Go.RowKit
theorem Z0C (x:Nd):Zz x<=ZG x:=by
 induction x using Nd.ind with
 | h k n s l ih=>
 rw [Z0O,Z1c];show 1+(l.map Zz).foldl max 0<=1+(l.map ZG).sum;have:∀ (l:List Nd) (a:Nat),(∀ x∈l,Zz x<=ZG x)->(l.map Zz).foldl max a<=a+(l.map ZG).sum:=by
  intro l
  induction l with
  | nil=>intro a _;simp
  | cons y r ihr=>
    intro a h;simp only [Xs,X2,List.sum_cons];have h1:=ihr (max a (Zz y)) (λx hx=>h x (by simp [hx]));have h2:=h y (by simp);omega
 have:=this l 0 ih;omega
theorem Z2H (k n:Int) (s:Str) (p:Option Addr) (l c:Nat) (w):(Instr.buildSlice 95 1 #[(0,.agg #[.I k,.I n,str s,.slice p l c])]).run Tryz.prog w=.ok (.slice (some ⟨w.heap.size,0,none⟩) 1 1) (w.alloc (.cells #[.I k,.I n,str s,.slice p l c] 97)):=by kernel_rfl
theorem Jo (z:Int) (m:Int) (w) (hm:0<m) (hz:I64 z):CC 11 #[.I z,.I m] w λr w'=>r=.I ((if z<0 then -(z+1) else z) % m)/\Stp [] w w':=by
 unfold I64 at hz;refine cW2 13 Tryz.func11 ?_;by_cases h:z<0;refine RT ?_;exact ⟨by rw [if_pos h],Stp.refl _ _⟩;refine RT ?_;exact ⟨by rw [if_neg h],Stp.refl _ _⟩
theorem Je (z m:Int) (hm:0<m):0<=z % m/\z % m<m:=⟨Ya3 _ (by omega),YaR _ hm⟩
theorem J1 (X:List Nat) (v:Value) (l:List Int) (i m:Int) (w) (hm:0<m) (hi:I64 i) (hs:SlV X w v l) (hl:∀ a∈l,I64 a):CC 35 #[v,.I i,.I m] w λr w'=>∃ q:Nat,r=.I (q:Int)/\(q:Int)<m/\Stp [] w w':=by
 unfold I64 at hi;have aT:=hs.max;refine cW3 21 Tryz.func35 ?_;refine W ?_;by_cases iX:0<=i/\i<l.length;obtain ⟨h0,h1⟩:=iX;obtain ⟨k,rfl⟩:∃ k:Nat,i=(k:Int):=⟨i.toNat,by omega⟩
 have hk:k<l.length:=by omega
 refine QO ?_;refine CL (Jo _ m _ hm (hl _ (Xd hk))) ?_;rintro _ w2 ⟨rfl,hS⟩;refine W ?_;refine WR ?_;have:=Je (if l[k]<0 then -(l[k]+1) else l[k]) m hm;exact .mk ⟨_,by rw [Yax this.1],by rw [Yax this.1];exact this.2,hS⟩
 . repeat'(first|refine W1 ?_|omega|refine VG ?_ ?_<;>intro hg|refine VC ?_ ?_<;>intro hc)
   all_goals first
    | (refine RU ?_
       exact ⟨0,rfl,by simpa using hm,Stp.refl _ _⟩)
theorem ZfL (k:Int) (s:Str) (p:Option Addr) (l c:Nat) (w):(Instr.build 97 #[(0,.I k),(2,str s),(3,.slice p l c)]).run Tryz.prog w=.ok (.agg #[.I k,.I 0,str s,.slice p l c]) w:=by kernel_rfl
def szD:Nat->Nat
 | 0=>0
 | d+1=>1+3 * szD d
theorem ZdI {d:Nat} (h:1<=d):szD d=1+3 * szD (d - 1):=by
 cases d with
 | zero=>omega
 | succ d=>rfl
theorem Z9p {X:List Nat} {w} {y0:Nd} {k0:Value} (s0:SlV X w k0 y0.kids):∀ i (hi:i < [y0].length) (cQ:i < [ndC y0 k0].length),Z7.rep X w [y0][i] [ndC y0 k0][i]
 | 0,_,_=>(show Z4H X w y0 (ndC y0 k0) by rw [y0.eta];exact Z2G s0)
theorem Z1t {X:List Nat} {w} {y0 y1:Nd} {k0 k1:Value} (s0:SlV X w k0 y0.kids) (s1:SlV X w k1 y1.kids):∀ i (hi:i < [y0,y1].length) (cQ:i < [ndC y0 k0,ndC y1 k1].length),Z7.rep X w [y0,y1][i] [ndC y0 k0,ndC y1 k1][i]
 | 0,_,_=>(show Z4H X w y0 (ndC y0 k0) by rw [y0.eta];exact Z2G s0)
 | 1,_,_=>(show Z4H X w y1 (ndC y1 k1) by rw [y1.eta];exact Z2G s1)
theorem Zo3 {X:List Nat} {w} {y0 y1 y2:Nd} {k0 k1 k2:Value} (s0:SlV X w k0 y0.kids) (s1:SlV X w k1 y1.kids) (s2:SlV X w k2 y2.kids):∀ i (hi:i < [y0,y1,y2].length) (cQ:i < [ndC y0 k0,ndC y1 k1,ndC y2 k2].length),Z7.rep X w [y0,y1,y2][i] [ndC y0 k0,ndC y1 k1,ndC y2 k2][i]
 | 0,_,_=>(show Z4H X w y0 (ndC y0 k0) by rw [y0.eta];exact Z2G s0)
 | 1,_,_=>(show Z4H X w y1 (ndC y1 k1) by rw [y1.eta];exact Z2G s1)
 | 2,_,_=>(show Z4H X w y2 (ndC y2 k2) by rw [y2.eta];exact Z2G s2)
theorem Z3O (k n:Int) (w):(Instr.build 97 #[(0,.I k),(1,.I n)]).run Tryz.prog w=.ok (.agg #[.I k,.I n,str [],.N]) w:=by kernel_rfl
theorem Jr (k n:Int) (s:Str) (p:Option Addr) (l c:Nat) (k' n':Int) (s':Str) (p':Option Addr) (l' c':Nat) (w):(Instr.buildSlice 95 2 #[(0,.agg #[.I k,.I n,str s,.slice p l c]),(1,.agg #[.I k',.I n',str s',.slice p' l' c'])]).run Tryz.prog w=.ok (.slice (some ⟨w.heap.size,0,none⟩) 2 2) (w.alloc (.cells #[.I k,.I n,str s,.slice p l c,.I k',.I n',str s',.slice p' l' c'] 97)):=by kernel_rfl
theorem ZbK (k n:Int) (s:Str) (p:Option Addr) (l c:Nat) (k' n':Int) (s':Str) (p':Option Addr) (l' c':Nat) (k'' n'':Int) (s'':Str) (p'':Option Addr) (l'' c'':Nat) (w):(Instr.buildSlice 95 3 #[(0,.agg #[.I k,.I n,str s,.slice p l c]),(1,.agg #[.I k',.I n',str s',.slice p' l' c']),(2,.agg #[.I k'',.I n'',str s'',.slice p'' l'' c''])]).run Tryz.prog w=.ok (.slice (some ⟨w.heap.size,0,none⟩) 3 3) (w.alloc (.cells #[.I k,.I n,str s,.slice p l c,.I k',.I n',str s',.slice p' l' c',.I k'',.I n'',str s'',.slice p'' l'' c''] 97)):=by kernel_rfl
theorem ZvU (k n:Int) (s:Str) (y0:Nd):ZG (.mk k n s [y0])=1+ZG y0:=by rw [Z1c];simp [Nd.kids]
theorem ZvV (k n:Int) (s:Str) (y0 y1:Nd):ZG (.mk k n s [y0,y1])=1+ZG y0+ZG y1:=by rw [Z1c];simp [Nd.kids];omega
theorem ZvW (k n:Int) (s:Str) (y0 y1 y2:Nd):ZG (.mk k n s [y0,y1,y2])=1+ZG y0+ZG y1+ZG y2:=by rw [Z1c];simp [Nd.kids];omega
theorem ZvX (k n:Int) (s:Str):ZG (.mk k n s [])=1:=by rw [Z1c];simp [Nd.kids]
def ZdJ:List Str:=[[101,120,116,114,97],[98,121],[116,111],[99,111,117,114,116],[97,109,111,117,110,116]]
def Z7S:List Str:=[[100,97,121],[115,101,114,118,101,100]]
inductive Gn:Int->Nat->Nd->Prop
 | num (d:Nat) (n:Int) (h:0<=n/\n<25):Gn 1 d (.mk 1 n [] [])
 | fldN (d:Nat) (s:Str) (h:s∈ZdJ):Gn 1 d (.mk 4 0 s [])
 | fldD (d:Nat) (s:Str) (h:s∈Z7S):Gn 3 d (.mk 4 0 s [])
 | day (d:Nat) (n:Int) (h:739616<=n/\n<739676):Gn 3 d (.mk 3 n [] [])
 | bool (d:Nat) (n:Int) (h:n=0\/n=1):Gn 2 d (.mk 2 n [] [])
 | neg (d:Nat) (a:Nd):Gn 1 d a->Gn 1 (d+1) (.mk 5 0 [45] [a])
 | not (d:Nat) (a:Nd):Gn 2 d a->Gn 2 (d+1) (.mk 5 0 [110,111,116] [a])
 | btw (d:Nat) (a b:Nd):Gn 3 d a->Gn 3 d b->Gn 1 (d+1) (.mk 10 0 [98,101,116,119,101,101,110] [a,b])
 | cond (d:Nat) (t:Int) (c a b:Nd) (h:t=1\/t=3):Gn 2 d c->Gn t d a->Gn t d b->Gn t (d+1) (.mk 9 0 [] [c,a,b])
 | arith (d:Nat) (s:Str) (a b:Nd) (h:s∈Z0f):Gn 1 d a->Gn 1 d b->Gn 1 (d+1) (.mk 6 0 s [a,b])
 | adj (d:Nat) (s:Str) (a:Nd) (h:s∈Z1a):Gn 3 d a->Gn 3 (d+1) (.mk 10 0 s [a])
 | two (d:Nat) (s:Str) (a b:Nd) (h:s∈Z1b):Gn 3 d a->Gn 3 d b->Gn 3 (d+1) (.mk 10 0 s [a,b])
 | move (d:Nat) (k:Int) (s:Str) (a b:Nd) (hk:k=7\/k=8) (h:s∈J3):Gn 3 d a->Gn 1 d b->Gn 3 (d+1) (.mk k 0 s [a,b])
 | logic (d:Nat) (s:Str) (a b:Nd) (h:s∈Z09):Gn 2 d a->Gn 2 d b->Gn 2 (d+1) (.mk 6 0 s [a,b])
 | cmp (d:Nat) (t:Int) (s:Str) (a b:Nd) (ht:t=1\/t=3) (h:s∈Z2g):Gn t d a->Gn t d b->Gn 2 (d+1) (.mk 6 0 s [a,b])
theorem Z1o (d:Nat):1<=szD (d+1):=by show 1<=1+3 * szD d;omega
theorem Gn.size {t:Int} {d:Nat} {x:Nd} (h:Gn t d x):ZG x<=szD (d+1):=by
 induction h with
 | num d|fldN d|fldD d|day d|bool d=>rw [ZvX];exact Z1o d
 | neg d|not d|adj d=>rw [ZvU,ZdI (by omega)];simp only [Ybr];omega
 | btw d|arith d|two d|move d|logic d|cmp d=>rw [ZvV,ZdI (by omega)];simp only [Ybr];omega
 | cond d=>rw [ZvW,ZdI (by omega)];simp only [Ybr];omega
end Go.Proofs.YtipfkbkkndacjaaGreatDoor
namespace Go.Eng
open Go Go.RowKit Go.Proofs
structure WT (P:Program) (n:Nat) (ops:Array Oper) (S:List Nat) (Lt:List Nat) (Q:Exit->Act->World->Prop) (listed:Array Bool) (fuel:Nat) (e:Env) (w:World):Prop where
 h:∀ a,Has n e a->Zal P .any ops S (λj=>Lt.contains j) (λa w=>Q .normal a w) fuel listed a w
structure WT1 (P:Program) (n:Nat) (ops:Array Oper) (S:List Nat) (Lt:List Nat) (Q:Exit->Act->World->Prop) (i:Nat) (listed:Array Bool) (fuel:Nat) (e:Env) (w:World):Prop where
 h:∀ a,Has n e a->wpOp P ops (λ_ _ _=>False) i (λa' w'=>(Stp S w w'\/Lt.contains i=true)/\Zal P .any ops S (λj=>Lt.contains j) (λa w=>Q .normal a w) fuel (listed.setIfInBounds i true) a' w') a w
section rules
variable {P:Program} {n:Nat} {Q:Exit->Act->World->Prop} {e:Env} {w:World} {ops:Array Oper} {S:List Nat} {Lt:List Nat} {listed:Array Bool} {fuel:Nat}
theorem Z4o {id:Nat} {l:List Oper} (m:Nat) (S:List Nat) (Lt:List Nat) (cF:l.length=m) (hm:P.follows .mixedOrders=true)
 (h:∀ w',Stp [] w w'->WT P n l.toArray S Lt Q (Array.replicate m false) m e w'):WC P n (.region id l.toArray true) Q e w:=by
 subst cF;refine ⟨λa ha=>wp_region_any hm ?_⟩;have h1:=(h { w with drawn:=w.drawn+1 } (Stp.drew [] w)).h a ha;have h2:=Z0W (Q:=Q) (λa w hz=>hz) _ _ _ _ h1;simpa using h2
theorem Z4I (ord:List (Nat×Nat)) (hs:Region.noSelect ops=true) (hB:J6 ops Lt ord listed=true) (hl:Nat.beq (wt ord) fuel=true) (h:WD P n ops S Lt Q ord e w):WT P n ops S Lt Q listed fuel e w:=by
 have:=XR hl;subst this;exact ⟨λa ha=>h.h _ hs hB a ha⟩
theorem Z1D (i q:Nat) (hr:(Region.ready .any ops listed == [i,q])=true) (h1:WT1 P n ops S Lt Q i listed fuel e w) (h2:WT1 P n ops S Lt Q q listed fuel e w):WT P n ops S Lt Q listed (fuel+1) e w:=by
 have hr:=beq_iff_eq.1 hr;refine ⟨λa ha=>⟨λh0=>absurd (hr ▸ h0) (by simp),λj hj=>?_⟩⟩;rw [hr] at hj;have ga:j=i\/j=q:=by simpa using hj
 rcases ga with rfl|rfl
 exact h1.h a ha;exact h2.h a ha
variable {i d:Nat} {op:Op} {ty:TypeId} {pos:String} {af:Array Edge} {gd:Option (Nat×Bool)} {v:Value}
theorem ZsC {o:Oper} {dst:Option Nat} {G:Value->World->Prop} (hi:ops[i]?=some o) (fH:o.dst=dst) (hg:Z08 ops e o.guard) (hp:OE P n o e w (λv w'=>(Stp S w w'\/Lt.contains i=true)/\G v w'))
 (k:∀ v w' a',G v w'->∀ a,Has n e a->a'=a.put dst v->∃ e',Has n e' a'/\WT P n ops S Lt Q (listed.setIfInBounds i true) fuel e' w'):WT1 P n ops S Lt Q i listed fuel e w:=by
 refine ⟨λa ha=>?_⟩;unfold wpOp;simp only [hi];rw [if_pos (Jw ha hg)];refine .inl (Oper.wp_mono ?_ (hp.h a ha _));rintro a' w' ⟨v,rfl,cU,hG⟩;obtain ⟨e',iS,hk⟩:=k v w' (a.put o.dst v) hG a ha (by rw [fH]);exact ⟨cU,hk.h _ iS⟩
theorem Jb {G:Value->World->Prop} (hi:ops[i]?=some ⟨some d,op,ty,pos,af,gd⟩) (hg:Z08 ops e gd) (hp:OE P n ⟨some d,op,ty,pos,af,gd⟩ e w G) (hG:∀ v w',G v w'->Stp S w w') (aw:Nat.blt d n=true)
 (k:∀ v w',G v w'->WT P n ops S Lt Q (listed.setIfInBounds i true) fuel ((d,v) :: e) w'):WT1 P n ops S Lt Q i listed fuel e w:=
 ZsC (G:=G) hi rfl hg (hp.mono λv w' h=>⟨.inl (hG v w' h),h⟩) (λv w' a' h a ha e=>⟨_,by rw [e];exact ha.put aw,k v w' h⟩)
theorem Zj6 (i:Nat) {o:Oper} (hi:ops[i]?=some o) (hd:o.dst=some d) (hY:∀ a,Has n e a->YE P ops (λ_ _=>True) o v a w) (aw:Nat.blt d n=true) (hs:Region.noSelect ops=true)
 (hB:((Region.ready .any ops listed).contains i && Region.free .any ops listed i)=true)
 (k:WT P n ops S Lt Q (listed.setIfInBounds i true) fuel ((d,v) :: e) w):WT P n ops S Lt Q listed (fuel+1) e w:=by
 refine ⟨λa ha=>?_⟩;simp only [Xl] at hB;have hk:=k.h _ (ha.put (v:=v) aw);rw [<- hd] at hk;exact Z5o (R:=λ_ _=>True) (λ_=>trivial) (λ_ _ _ _ _=>trivial) hi (λ_ _ _ _ _ _ _ _=>trivial) (Region.noSelect_spec hs) _ _ _ _ (Region.free_spec hi hB.2) (λ_=>trivial) (by simpa using hB.1) (hY a ha) hk
theorem Zj7 (i:Nat) {o:Oper} (hi:ops[i]?=some o) (hd:o.dst=some d) (hY:∀ a,Has n e a->YE P ops (Stp S) o v a w) (aw:Nat.blt d n=true) (hs:Region.noSelect ops=true)
 (hB:((Region.ready .any ops listed).contains i && Region.free .any ops listed i && ZeH ops Lt i)=true)
 (k:WT P n ops S Lt Q (listed.setIfInBounds i true) fuel ((d,v) :: e) w):WT P n ops S Lt Q listed (fuel+1) e w:=by
 refine ⟨λa ha=>?_⟩;simp only [Xl] at hB;obtain ⟨⟨h1,h2⟩,hb⟩:=hB;have hk:=k.h _ (ha.put (v:=v) aw);rw [<- hd] at hk;refine Z5o (R:=Stp S) (λw=>Stp.refl _ w) (λ_ _ _ h k=>h.trans k) hi (λj oj hj hn cj w w' hs=>?_) (Region.noSelect_spec hs) _ _ _ _ (Region.free_spec hi h2) (λ_=>trivial) (by simpa using h1) (hY a ha) hk;rcases hs with hs|hs
 exact hs;rw [Z53 hb hj hn cj] at hs;cases hs
theorem JY (i:Nat) (hi:ops[i]?=some ⟨some d,op,ty,pos,af,gd⟩) (hg:Z08 ops e gd) (hp:∀ w',PR P n ⟨some d,op,ty,pos,af,gd⟩ e w' v) (aw:Nat.blt d n=true) (hs:Region.noSelect ops=true)
 (hB:((Region.ready .any ops listed).contains i && Region.free .any ops listed i)=true)
 (k:WT P n ops S Lt Q (listed.setIfInBounds i true) fuel ((d,v) :: e) w):WT P n ops S Lt Q listed (fuel+1) e w:=
 Zj6 i hi rfl (λa ha=>.inl ⟨Jw ha hg,λw' _=>(hp w').h a ha⟩) aw hs hB k
theorem Zax (i:Nat) (hi:ops[i]?=some ⟨some d,op,ty,pos,af,gd⟩) (hg:Z08 ops e gd) (hp:∀ w',Stp S w w'->PR P n ⟨some d,op,ty,pos,af,gd⟩ e w' v) (aw:Nat.blt d n=true) (hs:Region.noSelect ops=true)
 (hB:((Region.ready .any ops listed).contains i && Region.free .any ops listed i && ZeH ops Lt i)=true)
 (k:WT P n ops S Lt Q (listed.setIfInBounds i true) fuel ((d,v) :: e) w):WT P n ops S Lt Q listed (fuel+1) e w:=
 Zj7 i hi rfl (λa ha=>.inl ⟨Jw ha hg,λw' hw=>(hp w' hw).h a ha⟩) aw hs hB k
end rules
end Go.Eng
namespace Go.Proofs.YtipfkbkkndacjaaGreatDoor
open Go Go.Eng Go.RowKit
theorem bS1 (a:Str) (w):(Instr.buildSlice 128 1 #[(0,str a)]).run Tryz.prog w=.ok (.slice (some ⟨w.heap.size,0,none⟩) 1 1) (w.alloc (.cells #[str a] 9)):=by kernel_rfl
theorem bS2 (a b:Str) (w):(Instr.buildSlice 128 2 #[(0,str a),(1,str b)]).run Tryz.prog w=.ok (.slice (some ⟨w.heap.size,0,none⟩) 2 2) (w.alloc (.cells #[str a,str b] 9)):=by kernel_rfl
theorem bS3 (a b c:Str) (w):(Instr.buildSlice 128 3 #[(0,str a),(1,str b),(2,str c)]).run Tryz.prog w=.ok (.slice (some ⟨w.heap.size,0,none⟩) 3 3) (w.alloc (.cells #[str a,str b,str c] 9)):=by kernel_rfl
theorem bS5 (a b c d e:Str) (w):(Instr.buildSlice 128 5 #[(0,str a),(1,str b),(2,str c),(3,str d),(4,str e)]).run Tryz.prog w=.ok (.slice (some ⟨w.heap.size,0,none⟩) 5 5) (w.alloc (.cells #[str a,str b,str c,str d,str e] 9)):=by kernel_rfl
theorem bS6 (a b c d e f:Str) (w):(Instr.buildSlice 128 6 #[(0,str a),(1,str b),(2,str c),(3,str d),(4,str e),(5,str f)]).run Tryz.prog w=.ok (.slice (some ⟨w.heap.size,0,none⟩) 6 6) (w.alloc (.cells #[str a,str b,str c,str d,str e,str f] 9)):=by kernel_rfl
abbrev Mk3 (w:World) (bm:Nat) (lv:Value) (i:Nat):Prop:=Blk w bm 146 [lv,.I (i:Int)]
theorem Zv (bm:Nat) (lv:Value) (l:List Int) (i:Nat) (n:Int) (w) (hn:0<n) (hi:i<=1000000) (hb:Mk3 w bm lv i) (hs:SlV [bm] w lv l) (hl:∀ a∈l,I64 a) :
 CC 66 #[pQ bm,.I n] w λr w'=>∃ q:Nat,r=.I (q:Int)/\(q:Int)<n/\Mk3 w' bm lv (i+1)/\Stp [bm] w w':=by
 refine cW2 23 Tryz.func66 ?_;refine W ?_;refine S1 (u:=.I ((i:Int)+1)) hb ?_;rintro _ w1 ⟨iY,aW⟩;replace aW:Mk3 w1 bm lv (i+1):=aW;replace hs:=hs.ext iY (λ_ h=>h) (λ_ h=>.inl h);replace hs:SlV [] w1 lv l:=hs.wk (by simp);refine W ?_;refine ZDr 12 [] [] [(0,0),(1,0),(2,0),(3,1),(4,0),(5,0),(6,0),(7,1),(8,0),(9,0),(10,2),(11,0)] (λw1 ae=>?_);replace aW:=aW.up ae;replace hs:=hs.up ae;refine D ?_;refine Za rfl trivial (Z6 rfl (ZY rfl rfl rfl) (J1 [] _ l _ n _ hn (by unfold I64;omega) hs hl)) (λ_ _ h=>h.choose_spec.2.2) rfl ?_;rintro _ w3 ⟨q,rfl,hq,am⟩;replace aW:=aW.up am;refine D ?_;refine RT ?_;exact ⟨q,rfl,hq,aW,(iY.trans ae.mn).trans am.mn⟩
theorem Z6c (bm:Nat) (lv:Value) (l:List Int) (i:Nat) (d:Nat) (z:Int) (w) (hz:z=(d:Int)) (hb:Mk3 w bm lv i) (hs:SlV [bm] w lv l) :
 CC 178 #[pQ bm,.I z] w λr w'=>∃ b:Bool,r=.B b/\(d=0->b=true)/\Stp [] w w':=by
 subst hz;refine cW2 19 Tryz.func178 ?_;refine W ?_;by_cases h0:d=0;refine ZDr 15 [] [] [(0,0),(1,0),(2,0),(3,0),(4,0),(5,0),(6,1),(7,0),(8,0),(9,0),(10,1),(11,0),(12,0),(13,0),(14,0)] (λw1 ae=>?_);refine D ?_;have e0:((d:Int)<=0):=by omega
 simp only [e0,decide_true];refine D ?_;refine RT ?_;exact ⟨true,rfl,λ_=>rfl,ae⟩;refine ZDr 15 [] [] [(0,0),(1,0),(2,0),(3,0),(4,0),(5,0),(6,1),(7,0),(8,0),(9,0),(10,1),(11,0),(12,0),(13,0),(14,0)] (λw1 ae=>?_);replace hb:=hb.up ae;replace hs:=hs.up ae;refine D ?_;have e0:¬ ((d:Int)<=0):=by omega
 simp only [e0,decide_false];refine D ?_;refine RT ?_;exact ⟨_,rfl,λh=>absurd h h0,ae⟩
theorem Zr (X:List Nat) (k:Int) (s:Str) (kv:Value) (kids:List Nd) (w:World) (hX:∀ b∈X,b<w.heap.size) (hs:SlV X w kv kids):CC 179 #[.I k,str s,kv] w λr w'=>NdV X w' r (.mk k 0 s kids)/\Stp [] w w':=by
 obtain ⟨p,c,rfl,-⟩:=id hs;refine cW3 11 Tryz.func179 ?_;refine W ?_;refine Z1 Z2 rfl ?_;rintro _ w1 ⟨b,rfl,hb,ac,hS⟩;refine W ?_;apply Z8 (vs:=[(0,.I k),(2,str s),(3,.slice p kids.length c)]) rfl (ZfL _ _ _ _ _) rfl;refine SB (us:=ndC (.mk k 0 s kids) (.slice p kids.length c)) (Zi hs) ac ?_;rintro _ w2 ⟨ah,aP⟩;have hT:=hS.ow ah;refine W ?_;refine Zk rfl rfl rfl aP rfl ?_;exact .mk ⟨⟨_,rfl,hs.up hT⟩,hT⟩
def ZvY (k:Int):List Str:=if k=1 then [[111,114]] else if k=2 then [[97,110,100]] else if k=4 then Z2g else if k=5 then [[43],[45]] else [[42]]
theorem Z7k (X:List Nat) (k:Int) (w:World) (hX:∀ b∈X,b<w.heap.size):CC 241 #[.I k] w λr w'=>SlV X w' r (ZvY k)/\Stp [] w w':=by
 refine cW1 17 Tryz.func241 ?_;have key:∀ (n:Nat) (vs:List Value) (v:Value) (w':World) (ys:List Str),Z5 w n ys.length vs v w'->vs=ys.flatMap Z3.enc->ys.length<=maxLen->SlV X w' v ys:=λn vs v w' ys h e hm=>Z5.slv h hX rfl e hm;by_cases h1:k=1;subst h1;refine QO ?_;refine Z1 (Z0 (vs:=[(0,str [111,114])]) rfl (bS1 _)) rfl ?_;rintro v w1 hN;have hv:SlV X w1 v ([[111,114]]:List Str):=hN.slv hX rfl rfl (by decide);have hT:=Z5.stp hN;refine RT ?_;exact ⟨hv,hT⟩;by_cases h2:k=2;subst h2;refine QO ?_;refine Z1 (Z0 (vs:=[(0,str [97,110,100])]) rfl (bS1 _)) rfl ?_;rintro v w1 hN;have hv:SlV X w1 v ([[97,110,100]]:List Str):=hN.slv hX rfl rfl (by decide);have hT:=Z5.stp hN;refine RT ?_;exact ⟨hv,hT⟩;by_cases h4:k=4;subst h4;refine QO ?_;refine Z1 (Z0 (vs:=[(0,str [60]),(1,str [60,61]),(2,str [61]),(3,str [33,61]),(4,str [62]),(5,str [62,61])]) rfl (bS6 _ _ _ _ _ _)) rfl ?_;rintro v w1 hN;have hv:SlV X w1 v Z2g:=hN.slv hX rfl rfl (by decide);have hT:=Z5.stp hN;refine RT ?_;exact ⟨hv,hT⟩;by_cases h5:k=5;subst h5;refine QO ?_;refine Z1 (Z0 (vs:=[(0,str [43]),(1,str [45])]) rfl (bS2 _ _)) rfl ?_;rintro v w1 hN;have hv:SlV X w1 v ([[43],[45]]:List Str):=hN.slv hX rfl rfl (by decide);have hT:=Z5.stp hN;refine RT ?_;exact ⟨hv,hT⟩;refine QO ?_;refine Z1 (Z0 (vs:=[(0,str [42])]) rfl (bS1 _)) rfl ?_;rintro v w1 hN;have hv:SlV X w1 v ([[42]]:List Str):=hN.slv hX rfl rfl (by decide);have hT:=Z5.stp hN;refine RT ?_;exact ⟨by unfold ZvY;rw [if_neg h1,if_neg h2,if_neg h4,if_neg h5];exact hv,hT⟩
theorem Z5v (q:Nat) (w) (hq:q<6):CC 180 #[.I (q:Int)] w λr w'=>(∃ s∈Z2g,r=str s)/\Stp [] w w':=by
 refine cW1 7 Tryz.func180 ?_;refine W ?_;refine CM (ZP rfl) (Z7k [] 4 _ (by simp)) ?_;rintro v w1 ⟨hv,hS⟩;replace hv:SlV [] w1 v Z2g:=hv;have cD:q<Z2g.length:=by show q<6;exact hq
 refine RT ?_;exact ⟨⟨_,Xd cD,rfl⟩,hS⟩
structure G3 (X:List Nat) (w0 w:World) (bm b4:Nat) (lv:Value) (l:List Int) (i:Nat):Prop where
 mkr:Mk3 w bm lv i
 sl:SlV [bm] w lv l
 stp:Stp [bm] w0 w
 blk:∃ cs:List Value,cs.length=4/\Blk w b4 97 cs
 ne:b4≠bm
 hX:∀ b∈X,b<w.heap.size
theorem G3.nxt {X:List Nat} {w0 w w':World} {bm b4:Nat} {lv:Value} {l:List Int} {i i':Nat} (h:G3 X w0 w bm b4 lv l i) (hm:Mk3 w' bm lv i') (hS:Stp [bm] w w'):G3 X w0 w' bm b4 lv l i':=
 ⟨hm,h.sl.ext hS (λ_ h=>h) (λ_ h=>.inl h),h.stp.trans hS,h.blk.imp (λcs hc=>⟨hc.1,hc.2.ext hS (by simpa using h.ne)⟩),h.ne,λb hb=>Xa (h.hX b hb) hS.size⟩
theorem G3.up {X:List Nat} {w0 w w':World} {bm b4:Nat} {lv:Value} {l:List Int} {i:Nat} (h:G3 X w0 w bm b4 lv l i) (hS:Stp [] w w'):G3 X w0 w' bm b4 lv l i:=
 h.nxt (h.mkr.up hS) hS.mn
theorem G3.fin {X:List Nat} {w0 w1 w w':World} {bm b4:Nat} {lv:Value} {l:List Int} {i:Nat} {y:Nd} {ky:Value} (h:G3 (b4 :: bm :: X) w1 w bm b4 lv l i) (hw:Stp [] w0 w1) (hb:w0.heap.size<=b4) (hy:SlV (b4 :: bm :: X) w ky y.kids) (hS:Stp [b4] w w') :
 NdV X w' (.agg (ndC y ky).toArray) y/\Mk3 w' bm lv i/\Stp [bm] w0 w':=
 ⟨⟨ky,rfl,(hy.ext (X':=b4 :: bm :: X) hS (by simp) (λ_ h=>.inl h)).wk (λc hc=>by simp [hc])⟩,h.mkr.ext hS (by simpa using h.ne.symm),(hw.mn.trans h.stp).ow hS⟩
def Z2y (f:Nat) (t:Int) (d:Nat):Prop:=∀ (X:List Nat) (w:World) (bm:Nat) (lv:Value) (l:List Int) (i:Nat) (z:Int),z=(d:Int)->Mk3 w bm lv i->SlV [bm] w lv l->(∀ a∈l,I64 a)->i+3 * szD (d+1)<=100000->(∀ b∈X,b<w.heap.size)->
 CC f #[pQ bm,.I z] w λr w'=>∃ y i',NdV X w' r y/\Gn t d y/\Mk3 w' bm lv i'/\i'<=i+3 * szD (d+1)/\Stp [bm] w w'
theorem JN {w w1 w2:World} {b:Nat} (h:Stp [] w w1) (hb:w.heap.size<=b) (h2:Stp [b] w1 w2):Stp [] w w2:=h.ow h2
set_option maxHeartbeats 1000000
theorem Z5w (d:Nat) (sL:d<=6) (ih:∀ e,d=e+1->Z2y 181 1 e/\Z2y 104 2 e/\Z2y 105 3 e):Z2y 181 1 d:=by
 intro X w bm lv l i z hz aA ax hl hi hX;subst hz;have bI:szD (d+1)=1+3 * szD d:=rfl;refine cW2 88 Tryz.func181 ?_;refine W ?_;refine Z1 Z2 rfl ?_;rintro _ w1 ⟨b4,rfl,bC,bA,bz⟩;have gm:G3 (b4 :: bm :: X) w1 w1 bm b4 lv l i:=⟨aA.up bz,ax.up bz,Stp.refl _ _,⟨_,rfl,bA⟩,λh=>by have:=aA.lt;omega,λc hc=>by
  simp only [Xb] at hc;have h1:=bA.lt;have h2:=aA.lt;have h3:=bz.size;rcases hc with rfl|rfl|hc
  exact h1;omega;have:=hX c hc;omega⟩
 clear bA hX ax aA;refine W ?_;refine Z1 (Z6 rfl (Zg rfl rfl) (Zv bm lv l _ 9 _ (by decide) (by omega) gm.mkr gm.sl hl)) rfl ?_;rintro _ wq ⟨q,rfl,hq,hm,hS⟩;replace gm:=gm.nxt hm hS;clear hm hS;refine W ?_;refine Z1 (Z6 rfl (Zg rfl rfl) (Z6c bm lv l _ d _ _ rfl gm.mkr gm.sl)) rfl ?_;rintro _ wq ⟨dn,rfl,aw,hT⟩;replace gm:=gm.up hT;clear hT;refine W ?_;refine JJ (σ:=Nat) (λk=>[(0,pQ bm),(1,.I (d:Int)),(4,pQ b4),(5,.I (k:Int))]) (λk w'=>w'=wq/\k<9/\(d=0->k<4)) ?_ ?_
 . cases dn with
   | true=>
     refine QO ?_;exact ZD (q % 4) ⟨rfl,rfl,rfl,rfl,trivial⟩ ⟨rfl,by omega,λ_=>by omega⟩
   | false=>
     refine QO ?_;exact ZD q ⟨rfl,rfl,rfl,rfl,trivial⟩ ⟨rfl,by omega,λh=>absurd (aw h) (by decide)⟩
 rintro k w3 ⟨rfl,mK,bF⟩;clear hq aw;by_cases k0:k<=2
 . repeat'(first|refine W1 ?_|omega|refine VG ?_ ?_<;>intro hg|refine VC ?_ ?_<;>intro hc)
   all_goals
    refine Z1 (Z6 rfl (Zg rfl rfl) (Zv bm lv l _ 25 _ (by decide) (by omega) gm.mkr gm.sl hl)) rfl ?_;rintro _ wq ⟨q',rfl,gB,hm,hS⟩;replace gm:=gm.nxt hm hS;clear hm hS;refine W ?_;apply Z8 (vs:=[(0,.I 1),(1,.I _)]) rfl (Z3O _ _) rfl;have hy:SlV (α:=Nd) (b4 :: bm :: X) _ (.N) []:=Zm _ wq;obtain ⟨cs,aL,aV⟩:=gm.blk;refine Z4 (Zb (us:=ndC (.mk 1 (q':Int) [] []) _) rfl rfl rfl rfl (Zi (x:=(.mk 1 (q':Int) [] [])) hy) aV aL.symm) ?_;rintro _ wz ⟨hz,bj⟩;refine W ?_;refine Zk rfl rfl rfl bj rfl ?_;have hf:=gm.fin (y:=(.mk 1 (q':Int) [] [])) bz bC hy hz;exact .mk ⟨_,_,hf.1,.num _ _ (by omega),hf.2.1,by omega,hf.2.2⟩
 by_cases k3:k=3;refine QO ?_;refine Z1 (Z0 (vs:=[(0,str [101,120,116,114,97]),(1,str [98,121]),(2,str [116,111]),(3,str [99,111,117,114,116]),(4,str [97,109,111,117,110,116])]) rfl (bS5 _ _ _ _ _)) rfl ?_;rintro wv wq hN;have aS:SlV [bm] wq wv ZdJ:=hN.slv (λc hc=>gm.hX c (by simp at hc;subst hc;simp)) rfl rfl (by decide);have hT:=Z5.stp hN;clear hN;replace gm:=gm.up hT;clear hT;refine W ?_;refine Z1 (Z6 rfl (Zg rfl rfl) (Zv bm lv l _ 5 _ (by decide) (by omega) gm.mkr gm.sl hl)) rfl ?_;rintro _ wq ⟨q',rfl,gB,hm,hS⟩;replace gm:=gm.nxt hm hS;replace aS:=aS.ext hS (by simp) (λ_ h=>.inl h);clear hm hS;have cD:q'<ZdJ.length:=by show q'<5;omega
 refine W ?_;refine Z1 (Z6 rfl (ZY rfl rfl rfl) (Zr (b4 :: bm :: X) 4 ZdJ[q'] (.N) [] _ gm.hX (Zm _ _))) rfl ?_;rintro _ wq ⟨⟨ky,rfl,hy⟩,hT⟩;replace gm:=gm.up hT;clear hT;obtain ⟨cs,aL,aV⟩:=gm.blk;refine Z4 (Zb (us:=ndC (.mk 4 0 ZdJ[q'] []) _) rfl rfl rfl rfl (Zi (x:=(.mk 4 0 ZdJ[q'] [])) hy) aV aL.symm) ?_;rintro _ wz ⟨hz,bj⟩;refine W ?_;refine Zk rfl rfl rfl bj rfl ?_;have hf:=gm.fin (y:=(.mk 4 0 ZdJ[q'] [])) bz bC hy hz;exact .mk ⟨_,_,hf.1,.fldN _ _ (Xd cD),hf.2.1,by omega,hf.2.2⟩;by_cases k4:k=4;obtain ⟨e,rfl⟩:∃ e,d=e+1:=⟨d - 1,by omega⟩
 replace ih:=ih e rfl;have bD:=Z1o e;refine QO ?_;refine W ?_;refine Z1 (Z6 rfl (Zg rfl rfl) ((ih.1) (b4 :: bm :: X) _ bm lv l _ _ (by omega) gm.mkr gm.sl hl (by omega) gm.hX)) rfl ?_;rintro _ wq ⟨y0,i0,⟨k0,rfl,s0⟩,g0,hm,fx,hS⟩;obtain ⟨p0,c0,rfl,-⟩:=id s0;replace gm:=gm.nxt hm hS;clear hm hS;refine W ?_;refine Z1 (Z0 (vs:=[(0,.agg #[.I y0.kind,.I y0.num,str y0.word,.slice p0 y0.kids.length c0])]) rfl (Z2H _ _ _ _ _ _)) rfl ?_;rintro bv wq hN;have an:SlV (b4 :: bm :: X) wq bv [y0]:=hN.slvG (css:=[ndC y0 _]) gm.hX rfl rfl rfl (Z9p s0) (by simp [maxLen]);have hT:=Z5.stp hN;clear hN;replace gm:=gm.up hT;clear hT;refine W ?_;refine Z1 (Z6 rfl (ZY rfl rfl rfl) (Zr (b4 :: bm :: X) 5 [45] bv [y0] _ gm.hX an)) rfl ?_;rintro _ wq ⟨⟨ky,rfl,hy⟩,hT⟩;replace gm:=gm.up hT;clear hT an;refine W ?_;obtain ⟨cs,aL,aV⟩:=gm.blk;refine Z4 (Zb (us:=ndC (.mk 5 0 [45] [y0]) _) rfl rfl rfl rfl (Zi (x:=(.mk 5 0 [45] [y0])) hy) aV aL.symm) ?_;rintro _ wz ⟨hz,bj⟩;refine W ?_;refine Zk rfl rfl rfl bj rfl ?_;have hf:=gm.fin (y:=(.mk 5 0 [45] [y0])) bz bC hy hz;exact .mk ⟨_,_,hf.1,.neg _ _ g0,hf.2.1,by omega,hf.2.2⟩;by_cases k5:k=5;obtain ⟨e,rfl⟩:∃ e,d=e+1:=⟨d - 1,by omega⟩
 replace ih:=ih e rfl;have bD:=Z1o e;refine QO ?_;refine W ?_;refine Z1 (Z6 rfl (Zg rfl rfl) ((ih.2.2) (b4 :: bm :: X) _ bm lv l _ _ (by omega) gm.mkr gm.sl hl (by omega) gm.hX)) rfl ?_;rintro _ wq ⟨y0,i0,⟨k0,rfl,s0⟩,g0,hm,fx,hS⟩;obtain ⟨p0,c0,rfl,-⟩:=id s0;replace gm:=gm.nxt hm hS;clear hm hS;refine Z1 Z2 rfl ?_;rintro _ wq ⟨b0',rfl,bB,e0,hT⟩;refine SB (us:=ndC y0 _) (Zi s0) e0 ?_;rintro _ wq ⟨aq,e0⟩;replace hT:=JN hT bB aq;clear aq;have n0:b0'≠bm:=λh=>by have:=gm.mkr.lt;omega
 have n0':b0'≠b4:=λh=>by obtain ⟨_,_,hc⟩:=gm.blk;have:=hc.lt;omega
 replace gm:=gm.up hT;replace s0:=s0.up hT;clear hT bB;refine W ?_;refine ZDr 8 ([b4,bm]) [] [(0,1),(1,0),(2,0),(3,0),(4,2),(5,2),(6,2),(7,2)] (λw1 ae=>?_);have hT:=ae;replace gm:=gm.up hT;replace s0:=s0.up hT;replace e0:=e0.up hT;clear hT ae;refine J7 rfl trivial (λw' aU=>J2 rfl rfl (e0.ext aU (by simp;exact ⟨n0',n0⟩)) rfl) rfl ?_;refine D ?_;refine Za rfl trivial (Z6 rfl (Zg rfl rfl) ((ih.2.2) (b4 :: bm :: X) _ bm lv l _ _ (by omega) gm.mkr gm.sl hl (by omega) gm.hX)) (λ_ _ h=>by obtain ⟨_,_,_,_,_,_,h⟩:=h;exact h.mn) rfl ?_;rintro _ wq ⟨y1,i1,⟨k1,rfl,s1⟩,g1,hm,bJ,hS⟩;obtain ⟨p1,c1,rfl,-⟩:=id s1;replace gm:=gm.nxt hm hS;replace s0:=s0.ext hS (by simp) (λ_ h=>.inl h);replace e0:=e0.ext hS (by simp;exact n0);clear hm hS;refine D ?_;refine Za rfl trivial (Z0 (vs:=[(0,.agg #[.I y0.kind,.I y0.num,str y0.word,.slice p0 y0.kids.length c0]),(1,.agg #[.I y1.kind,.I y1.num,str y1.word,.slice p1 y1.kids.length c1])]) rfl (Jr _ _ _ _ _ _ _ _ _ _ _ _)) (λ_ _ h=>(Z5.stp h).mn) rfl ?_;rintro bv wq hN;have an:SlV (b4 :: bm :: X) wq bv [y0,y1]:=hN.slvG (css:=[ndC y0 _,ndC y1 _]) gm.hX rfl rfl rfl (Z1t s0 s1) (by simp [maxLen]);have hT:=Z5.stp hN;clear hN;replace gm:=gm.up hT;clear hT;refine D ?_;refine Za rfl trivial (Z6 rfl (ZY rfl rfl rfl) (Zr (b4 :: bm :: X) 10 [98,101,116,119,101,101,110] bv [y0,y1] _ gm.hX an)) (λ_ _ h=>h.2.mn) rfl ?_;rintro _ wq ⟨⟨ky,rfl,hy⟩,hT⟩;replace gm:=gm.up hT;clear hT an;refine D ?_;obtain ⟨cs,aL,aV⟩:=gm.blk;refine ZF rfl trivial (Zb (us:=ndC (.mk 10 0 [98,101,116,119,101,101,110] [y0,y1]) _) rfl rfl rfl rfl (Zi (x:=(.mk 10 0 [98,101,116,119,101,101,110] [y0,y1])) hy) aV aL.symm) (λ_ _ h=>h.1.mn) ?_;rintro _ wz ⟨hz,bj⟩;refine D ?_;refine W ?_;refine Zk rfl rfl rfl bj rfl ?_;have hf:=gm.fin (y:=(.mk 10 0 [98,101,116,119,101,101,110] [y0,y1])) bz bC hy hz;exact .mk ⟨_,_,hf.1,.btw _ _ _ g0 g1,hf.2.1,by omega,hf.2.2⟩;by_cases k6:k=6;obtain ⟨e,rfl⟩:∃ e,d=e+1:=⟨d - 1,by omega⟩
 replace ih:=ih e rfl;have bD:=Z1o e;refine QO ?_;refine W ?_;refine Z1 (Z6 rfl (Zg rfl rfl) ((ih.2.1) (b4 :: bm :: X) _ bm lv l _ _ (by omega) gm.mkr gm.sl hl (by omega) gm.hX)) rfl ?_;rintro _ wq ⟨y0,i0,⟨k0,rfl,s0⟩,g0,hm,fx,hS⟩;obtain ⟨p0,c0,rfl,-⟩:=id s0;replace gm:=gm.nxt hm hS;clear hm hS;refine Z1 Z2 rfl ?_;rintro _ wq ⟨b0',rfl,bB,e0,hT⟩;refine SB (us:=ndC y0 _) (Zi s0) e0 ?_;rintro _ wq ⟨aq,e0⟩;replace hT:=JN hT bB aq;clear aq;have n0:b0'≠bm:=λh=>by have:=gm.mkr.lt;omega
 have n0':b0'≠b4:=λh=>by obtain ⟨_,_,hc⟩:=gm.blk;have:=hc.lt;omega
 replace gm:=gm.up hT;replace s0:=s0.up hT;clear hT bB;refine W ?_;refine Z1 (Z6 rfl (Zg rfl rfl) ((ih.1) (b4 :: bm :: X) _ bm lv l _ _ (by omega) gm.mkr gm.sl hl (by omega) gm.hX)) rfl ?_;rintro _ wq ⟨y1,i1,⟨k1,rfl,s1⟩,g1,hm,bJ,hS⟩;obtain ⟨p1,c1,rfl,-⟩:=id s1;replace gm:=gm.nxt hm hS;replace s0:=s0.ext hS (by simp) (λ_ h=>.inl h);replace e0:=e0.ext hS (by simp;exact n0);clear hm hS;refine Z1 Z2 rfl ?_;rintro _ wq ⟨b1',rfl,iq,e1,hT⟩;refine SB (us:=ndC y1 _) (Zi s1) e1 ?_;rintro _ wq ⟨aq,e1⟩;replace hT:=JN hT iq aq;clear aq;have n1:b1'≠bm:=λh=>by have:=gm.mkr.lt;omega
 have n1':b1'≠b4:=λh=>by obtain ⟨_,_,hc⟩:=gm.blk;have:=hc.lt;omega
 replace gm:=gm.up hT;replace s0:=s0.up hT;replace e0:=e0.up hT;replace s1:=s1.up hT;clear hT iq;refine W ?_;refine ZDr 9 ([b4,bm]) [] [(0,1),(1,1),(2,0),(3,0),(4,0),(5,2),(6,2),(7,2),(8,2)] (λw1 ae=>?_);have hT:=ae;replace gm:=gm.up hT;replace s0:=s0.up hT;replace e0:=e0.up hT;replace s1:=s1.up hT;replace e1:=e1.up hT;clear hT ae;refine J7 rfl trivial (λw' aU=>J2 rfl rfl (e0.ext aU (by simp;exact ⟨n0',n0⟩)) rfl) rfl ?_;refine J7 rfl trivial (λw' aU=>J2 rfl rfl (e1.ext aU (by simp;exact ⟨n1',n1⟩)) rfl) rfl ?_;refine D ?_;refine Za rfl trivial (Z6 rfl (Zg rfl rfl) ((ih.1) (b4 :: bm :: X) _ bm lv l _ _ (by omega) gm.mkr gm.sl hl (by omega) gm.hX)) (λ_ _ h=>by obtain ⟨_,_,_,_,_,_,h⟩:=h;exact h.mn) rfl ?_;rintro _ wq ⟨y2,i2,⟨k2,rfl,s2⟩,g2,hm,cp,hS⟩;obtain ⟨p2,c2,rfl,-⟩:=id s2;replace gm:=gm.nxt hm hS;replace s0:=s0.ext hS (by simp) (λ_ h=>.inl h);replace e0:=e0.ext hS (by simp;exact n0);replace s1:=s1.ext hS (by simp) (λ_ h=>.inl h);replace e1:=e1.ext hS (by simp;exact n1);clear hm hS;refine D ?_;refine Za rfl trivial (Z0 (vs:=[(0,.agg #[.I y0.kind,.I y0.num,str y0.word,.slice p0 y0.kids.length c0]),(1,.agg #[.I y1.kind,.I y1.num,str y1.word,.slice p1 y1.kids.length c1]),(2,.agg #[.I y2.kind,.I y2.num,str y2.word,.slice p2 y2.kids.length c2])]) rfl (ZbK _ _ _ _ _ _ _ _ _ _ _ _ _ _ _ _ _ _)) (λ_ _ h=>(Z5.stp h).mn) rfl ?_;rintro bv wq hN;have an:SlV (b4 :: bm :: X) wq bv [y0,y1,y2]:=hN.slvG (css:=[ndC y0 _,ndC y1 _,ndC y2 _]) gm.hX rfl rfl rfl (Zo3 s0 s1 s2) (by simp [maxLen]);have hT:=Z5.stp hN;clear hN;replace gm:=gm.up hT;clear hT;refine D ?_;refine Za rfl trivial (Z6 rfl (ZY rfl rfl rfl) (Zr (b4 :: bm :: X) 9 [] bv [y0,y1,y2] _ gm.hX an)) (λ_ _ h=>h.2.mn) rfl ?_;rintro _ wq ⟨⟨ky,rfl,hy⟩,hT⟩;replace gm:=gm.up hT;clear hT an;refine D ?_;obtain ⟨cs,aL,aV⟩:=gm.blk;refine ZF rfl trivial (Zb (us:=ndC (.mk 9 0 [] [y0,y1,y2]) _) rfl rfl rfl rfl (Zi (x:=(.mk 9 0 [] [y0,y1,y2])) hy) aV aL.symm) (λ_ _ h=>h.1.mn) ?_;rintro _ wz ⟨hz,bj⟩;refine D ?_;refine W ?_;refine Zk rfl rfl rfl bj rfl ?_;have hf:=gm.fin (y:=(.mk 9 0 [] [y0,y1,y2])) bz bC hy hz;exact .mk ⟨_,_,hf.1,.cond _ _ _ _ _ (by decide) g0 g1 g2,hf.2.1,by omega,hf.2.2⟩;obtain ⟨e,rfl⟩:∃ e,d=e+1:=⟨d - 1,by omega⟩
 replace ih:=ih e rfl;have bD:=Z1o e;refine QO ?_;refine W ?_;refine Z1 (Z6 rfl (Zg rfl rfl) ((ih.1) (b4 :: bm :: X) _ bm lv l _ _ (by omega) gm.mkr gm.sl hl (by omega) gm.hX)) rfl ?_;rintro _ wq ⟨y0,i0,⟨k0,rfl,s0⟩,g0,hm,fx,hS⟩;obtain ⟨p0,c0,rfl,-⟩:=id s0;replace gm:=gm.nxt hm hS;clear hm hS;refine Z1 Z2 rfl ?_;rintro _ wq ⟨b0',rfl,bB,e0,hT⟩;refine SB (us:=ndC y0 _) (Zi s0) e0 ?_;rintro _ wq ⟨aq,e0⟩;replace hT:=JN hT bB aq;clear aq;have n0:b0'≠bm:=λh=>by have:=gm.mkr.lt;omega
 have n0':b0'≠b4:=λh=>by obtain ⟨_,_,hc⟩:=gm.blk;have:=hc.lt;omega
 replace gm:=gm.up hT;replace s0:=s0.up hT;clear hT bB;refine W ?_;refine Z4o 13 [b4,bm] [] rfl mixed (λw1 ae=>?_);have hT:=ae;replace gm:=gm.up hT;replace s0:=s0.up hT;replace e0:=e0.up hT;clear hT ae;refine JY 1 rfl trivial (λw'=>ZZ rfl) rfl (by kernel_rfl) (by kernel_rfl) ?_;refine Zax 5 rfl trivial (λw' aU=>J2 rfl rfl (e0.ext aU (by simp;exact ⟨n0',n0⟩)) rfl) rfl (by kernel_rfl) (by kernel_rfl) ?_;refine JY 6 rfl trivial (λw'=>ZZ rfl) rfl (by kernel_rfl) (by kernel_rfl) ?_;refine JY 7 rfl trivial (λw'=>ZZ rfl) rfl (by kernel_rfl) (by kernel_rfl) ?_;refine JY 8 rfl trivial (λw'=>Z66 rfl rfl (by unfold I64;omega)) rfl (by kernel_rfl) (by kernel_rfl) ?_;refine Z1D 0 2 (by kernel_rfl) ?_ ?_;refine Jb rfl trivial (Z0 (vs:=[(0,str [43]),(1,str [45]),(2,str [42])]) rfl (bS3 _ _ _)) (λ_ _ h=>(Z5.stp h).mn) rfl ?_;rintro wv wq hN;have aS:SlV [b4,bm] wq wv Z0f:=hN.slv (λc hc=>gm.hX c (by simp at hc;rcases hc with rfl|rfl<;>simp)) rfl rfl (by decide);have hT:=Z5.stp hN;clear hN;replace gm:=gm.up hT;replace s0:=s0.up hT;replace e0:=e0.up hT;clear hT;refine Z4I [(2,2),(3,0),(4,1),(9,2),(10,2),(11,2),(12,2)] (by kernel_rfl) (by kernel_rfl) (by kernel_rfl) ?_;refine Za rfl trivial (Z6 rfl (Zg rfl rfl) (Zv bm lv l _ 3 _ (by decide) (by omega) gm.mkr gm.sl hl)) (λ_ _ h=>h.choose_spec.2.2.2.mn) rfl ?_;rintro _ wq ⟨q,rfl,hq,hm,hS⟩;replace gm:=gm.nxt hm hS;replace s0:=s0.ext hS (by simp) (λ_ h=>.inl h);replace e0:=e0.ext hS (by simp;exact n0);replace aS:=aS.ext hS (by simp) (λ_ h=>.inl h);clear hm hS;have cD:q<Z0f.length:=by show q<3;omega
 refine D ?_;refine Za rfl trivial (Z6 rfl (Zg rfl rfl) ((ih.1) (b4 :: bm :: X) _ bm lv l _ _ (by omega) gm.mkr gm.sl hl (by omega) gm.hX)) (λ_ _ h=>by obtain ⟨_,_,_,_,_,_,h⟩:=h;exact h.mn) rfl ?_;rintro _ wq ⟨y1,i1,⟨k1,rfl,s1⟩,g1,hm,bJ,hS⟩;obtain ⟨p1,c1,rfl,-⟩:=id s1;replace gm:=gm.nxt hm hS;replace s0:=s0.ext hS (by simp) (λ_ h=>.inl h);replace e0:=e0.ext hS (by simp;exact n0);replace aS:=aS.ext hS (by simp) (λ_ h=>.inl h);clear hm hS;refine D ?_;refine Za rfl trivial (Z0 (vs:=[(0,.agg #[.I y0.kind,.I y0.num,str y0.word,.slice p0 y0.kids.length c0]),(1,.agg #[.I y1.kind,.I y1.num,str y1.word,.slice p1 y1.kids.length c1])]) rfl (Jr _ _ _ _ _ _ _ _ _ _ _ _)) (λ_ _ h=>(Z5.stp h).mn) rfl ?_;rintro bv wq hN;have an:SlV (b4 :: bm :: X) wq bv [y0,y1]:=hN.slvG (css:=[ndC y0 _,ndC y1 _]) gm.hX rfl rfl rfl (Z1t s0 s1) (by simp [maxLen]);have hT:=Z5.stp hN;clear hN;replace gm:=gm.up hT;replace aS:=aS.up hT;clear hT;refine D ?_;refine Za rfl trivial (Z6 rfl (ZY rfl rfl rfl) (Zr (b4 :: bm :: X) 6 Z0f[q] bv [y0,y1] _ gm.hX an)) (λ_ _ h=>h.2.mn) rfl ?_;rintro _ wq ⟨⟨ky,rfl,hy⟩,hT⟩;replace gm:=gm.up hT;clear hT an;refine D ?_;obtain ⟨cs,aL,aV⟩:=gm.blk;refine ZF rfl trivial (Zb (us:=ndC (.mk 6 0 Z0f[q] [y0,y1]) _) rfl rfl rfl rfl (Zi (x:=(.mk 6 0 Z0f[q] [y0,y1])) hy) aV aL.symm) (λ_ _ h=>h.1.mn) ?_;rintro _ wz ⟨hz,bj⟩;refine D ?_;refine W ?_;refine Zk rfl rfl rfl bj rfl ?_;have hf:=gm.fin (y:=(.mk 6 0 Z0f[q] [y0,y1])) bz bC hy hz;exact .mk ⟨_,_,hf.1,.arith _ _ _ _ (Xd cD) g0 g1,hf.2.1,by omega,hf.2.2⟩;refine Jb rfl trivial (Z6 rfl (Zg rfl rfl) (Zv bm lv l _ 3 _ (by decide) (by omega) gm.mkr gm.sl hl)) (λ_ _ h=>h.choose_spec.2.2.2.mn) rfl ?_;rintro _ wq ⟨q,rfl,hq,hm,hS⟩;replace gm:=gm.nxt hm hS;replace s0:=s0.ext hS (by simp) (λ_ h=>.inl h);replace e0:=e0.ext hS (by simp;exact n0);clear hm hS;have cD:q<Z0f.length:=by show q<3;omega
 refine Z1D 0 9 (by kernel_rfl) ?_ ?_;refine Jb rfl trivial (Z0 (vs:=[(0,str [43]),(1,str [45]),(2,str [42])]) rfl (bS3 _ _ _)) (λ_ _ h=>(Z5.stp h).mn) rfl ?_;rintro wv wq hN;have aS:SlV [b4,bm] wq wv Z0f:=hN.slv (λc hc=>gm.hX c (by simp at hc;rcases hc with rfl|rfl<;>simp)) rfl rfl (by decide);have hT:=Z5.stp hN;clear hN;replace gm:=gm.up hT;replace s0:=s0.up hT;replace e0:=e0.up hT;clear hT;refine Z4I [(3,0),(4,1),(9,2),(10,2),(11,2),(12,2)] (by kernel_rfl) (by kernel_rfl) (by kernel_rfl) ?_;refine D ?_;refine Za rfl trivial (Z6 rfl (Zg rfl rfl) ((ih.1) (b4 :: bm :: X) _ bm lv l _ _ (by omega) gm.mkr gm.sl hl (by omega) gm.hX)) (λ_ _ h=>by obtain ⟨_,_,_,_,_,_,h⟩:=h;exact h.mn) rfl ?_;rintro _ wq ⟨y1,i1,⟨k1,rfl,s1⟩,g1,hm,bJ,hS⟩;obtain ⟨p1,c1,rfl,-⟩:=id s1;replace gm:=gm.nxt hm hS;replace s0:=s0.ext hS (by simp) (λ_ h=>.inl h);replace e0:=e0.ext hS (by simp;exact n0);replace aS:=aS.ext hS (by simp) (λ_ h=>.inl h);clear hm hS;refine D ?_;refine Za rfl trivial (Z0 (vs:=[(0,.agg #[.I y0.kind,.I y0.num,str y0.word,.slice p0 y0.kids.length c0]),(1,.agg #[.I y1.kind,.I y1.num,str y1.word,.slice p1 y1.kids.length c1])]) rfl (Jr _ _ _ _ _ _ _ _ _ _ _ _)) (λ_ _ h=>(Z5.stp h).mn) rfl ?_;rintro bv wq hN;have an:SlV (b4 :: bm :: X) wq bv [y0,y1]:=hN.slvG (css:=[ndC y0 _,ndC y1 _]) gm.hX rfl rfl rfl (Z1t s0 s1) (by simp [maxLen]);have hT:=Z5.stp hN;clear hN;replace gm:=gm.up hT;replace aS:=aS.up hT;clear hT;refine D ?_;refine Za rfl trivial (Z6 rfl (ZY rfl rfl rfl) (Zr (b4 :: bm :: X) 6 Z0f[q] bv [y0,y1] _ gm.hX an)) (λ_ _ h=>h.2.mn) rfl ?_;rintro _ wq ⟨⟨ky,rfl,hy⟩,hT⟩;replace gm:=gm.up hT;clear hT an;refine D ?_;obtain ⟨cs,aL,aV⟩:=gm.blk;refine ZF rfl trivial (Zb (us:=ndC (.mk 6 0 Z0f[q] [y0,y1]) _) rfl rfl rfl rfl (Zi (x:=(.mk 6 0 Z0f[q] [y0,y1])) hy) aV aL.symm) (λ_ _ h=>h.1.mn) ?_;rintro _ wz ⟨hz,bj⟩;refine D ?_;refine W ?_;refine Zk rfl rfl rfl bj rfl ?_;have hf:=gm.fin (y:=(.mk 6 0 Z0f[q] [y0,y1])) bz bC hy hz;exact .mk ⟨_,_,hf.1,.arith _ _ _ _ (Xd cD) g0 g1,hf.2.1,by omega,hf.2.2⟩;refine Jb rfl trivial (Z6 rfl (Zg rfl rfl) ((ih.1) (b4 :: bm :: X) _ bm lv l _ _ (by omega) gm.mkr gm.sl hl (by omega) gm.hX)) (λ_ _ h=>by obtain ⟨_,_,_,_,_,_,h⟩:=h;exact h.mn) rfl ?_;rintro _ wq ⟨y1,i1,⟨k1,rfl,s1⟩,g1,hm,bJ,hS⟩;obtain ⟨p1,c1,rfl,-⟩:=id s1;replace gm:=gm.nxt hm hS;replace s0:=s0.ext hS (by simp) (λ_ h=>.inl h);replace e0:=e0.ext hS (by simp;exact n0);clear hm hS;refine Z1D 0 10 (by kernel_rfl) ?_ ?_;refine Jb rfl trivial (Z0 (vs:=[(0,str [43]),(1,str [45]),(2,str [42])]) rfl (bS3 _ _ _)) (λ_ _ h=>(Z5.stp h).mn) rfl ?_;rintro wv wq hN;have aS:SlV [b4,bm] wq wv Z0f:=hN.slv (λc hc=>gm.hX c (by simp at hc;rcases hc with rfl|rfl<;>simp)) rfl rfl (by decide);have hT:=Z5.stp hN;clear hN;replace gm:=gm.up hT;replace s0:=s0.up hT;replace e0:=e0.up hT;replace s1:=s1.up hT;clear hT;refine Z4I [(3,0),(4,1),(10,2),(11,2),(12,2)] (by kernel_rfl) (by kernel_rfl) (by kernel_rfl) ?_;refine D ?_;refine D ?_;refine Za rfl trivial (Z0 (vs:=[(0,.agg #[.I y0.kind,.I y0.num,str y0.word,.slice p0 y0.kids.length c0]),(1,.agg #[.I y1.kind,.I y1.num,str y1.word,.slice p1 y1.kids.length c1])]) rfl (Jr _ _ _ _ _ _ _ _ _ _ _ _)) (λ_ _ h=>(Z5.stp h).mn) rfl ?_;rintro bv wq hN;have an:SlV (b4 :: bm :: X) wq bv [y0,y1]:=hN.slvG (css:=[ndC y0 _,ndC y1 _]) gm.hX rfl rfl rfl (Z1t s0 s1) (by simp [maxLen]);have hT:=Z5.stp hN;clear hN;replace gm:=gm.up hT;replace aS:=aS.up hT;clear hT;refine D ?_;refine Za rfl trivial (Z6 rfl (ZY rfl rfl rfl) (Zr (b4 :: bm :: X) 6 Z0f[q] bv [y0,y1] _ gm.hX an)) (λ_ _ h=>h.2.mn) rfl ?_;rintro _ wq ⟨⟨ky,rfl,hy⟩,hT⟩;replace gm:=gm.up hT;clear hT an;refine D ?_;obtain ⟨cs,aL,aV⟩:=gm.blk;refine ZF rfl trivial (Zb (us:=ndC (.mk 6 0 Z0f[q] [y0,y1]) _) rfl rfl rfl rfl (Zi (x:=(.mk 6 0 Z0f[q] [y0,y1])) hy) aV aL.symm) (λ_ _ h=>h.1.mn) ?_;rintro _ wz ⟨hz,bj⟩;refine D ?_;refine W ?_;refine Zk rfl rfl rfl bj rfl ?_;have hf:=gm.fin (y:=(.mk 6 0 Z0f[q] [y0,y1])) bz bC hy hz;exact .mk ⟨_,_,hf.1,.arith _ _ _ _ (Xd cD) g0 g1,hf.2.1,by omega,hf.2.2⟩;refine Jb rfl trivial (Z0 (vs:=[(0,.agg #[.I y0.kind,.I y0.num,str y0.word,.slice p0 y0.kids.length c0]),(1,.agg #[.I y1.kind,.I y1.num,str y1.word,.slice p1 y1.kids.length c1])]) rfl (Jr _ _ _ _ _ _ _ _ _ _ _ _)) (λ_ _ h=>(Z5.stp h).mn) rfl ?_;rintro bv wq hN;have an:SlV (b4 :: bm :: X) wq bv [y0,y1]:=hN.slvG (css:=[ndC y0 _,ndC y1 _]) gm.hX rfl rfl rfl (Z1t s0 s1) (by simp [maxLen]);have hT:=Z5.stp hN;clear hN;replace gm:=gm.up hT;clear hT;refine Z4I [(0,2),(3,0),(4,1),(11,2),(12,2)] (by kernel_rfl) (by kernel_rfl) (by kernel_rfl) ?_;refine Za rfl trivial (Z0 (vs:=[(0,str [43]),(1,str [45]),(2,str [42])]) rfl (bS3 _ _ _)) (λ_ _ h=>(Z5.stp h).mn) rfl ?_;rintro wv wq hN;have aS:SlV [b4,bm] wq wv Z0f:=hN.slv (λc hc=>gm.hX c (by simp at hc;rcases hc with rfl|rfl<;>simp)) rfl rfl (by decide);have hT:=Z5.stp hN;clear hN;replace gm:=gm.up hT;replace an:=an.up hT;clear hT;refine D ?_;refine D ?_;refine D ?_;refine Za rfl trivial (Z6 rfl (ZY rfl rfl rfl) (Zr (b4 :: bm :: X) 6 Z0f[q] bv [y0,y1] _ gm.hX an)) (λ_ _ h=>h.2.mn) rfl ?_;rintro _ wq ⟨⟨ky,rfl,hy⟩,hT⟩;replace gm:=gm.up hT;clear hT an;refine D ?_;obtain ⟨cs,aL,aV⟩:=gm.blk;refine ZF rfl trivial (Zb (us:=ndC (.mk 6 0 Z0f[q] [y0,y1]) _) rfl rfl rfl rfl (Zi (x:=(.mk 6 0 Z0f[q] [y0,y1])) hy) aV aL.symm) (λ_ _ h=>h.1.mn) ?_;rintro _ wz ⟨hz,bj⟩;refine D ?_;refine W ?_;refine Zk rfl rfl rfl bj rfl ?_;have hf:=gm.fin (y:=(.mk 6 0 Z0f[q] [y0,y1])) bz bC hy hz;exact .mk ⟨_,_,hf.1,.arith _ _ _ _ (Xd cD) g0 g1,hf.2.1,by omega,hf.2.2⟩
set_option maxHeartbeats 1000000
theorem Z7T (d:Nat) (sL:d<=6) (ih:∀ e,d=e+1->Z2y 181 1 e/\Z2y 104 2 e/\Z2y 105 3 e):Z2y 104 2 d:=by
 intro X w bm lv l i z hz aA ax hl hi hX;subst hz;have bI:szD (d+1)=1+3 * szD d:=rfl;refine cW2 80 Tryz.func104 ?_;refine W ?_;refine Z1 Z2 rfl ?_;rintro _ w1 ⟨b4,rfl,bC,bA,bz⟩;have gm:G3 (b4 :: bm :: X) w1 w1 bm b4 lv l i:=⟨aA.up bz,ax.up bz,Stp.refl _ _,⟨_,rfl,bA⟩,λh=>by have:=aA.lt;omega,λc hc=>by
  simp only [Xb] at hc;have h1:=bA.lt;have h2:=aA.lt;have h3:=bz.size;rcases hc with rfl|rfl|hc
  exact h1;omega;have:=hX c hc;omega⟩
 clear bA hX ax aA;refine W ?_;refine CM (Zg rfl rfl) (Zv bm lv l _ 6 _ (by decide) (by omega) gm.mkr gm.sl hl) ?_;rintro _ wq ⟨q,rfl,hq,hm,hS⟩;replace gm:=gm.nxt hm hS;clear hm hS;refine W ?_;refine CL (Z6c bm lv l _ d _ _ rfl gm.mkr gm.sl) ?_;rintro _ wq ⟨dn,rfl,aw,hT⟩;replace gm:=gm.up hT;clear hT;cases dn with
 | true=>
   refine QO ?_;apply Z8 (vs:=[(0,.I 2),(1,.I (1 - (q:Int) / 5))]) rfl (Z3O _ _) rfl;have hy:SlV (α:=Nd) (b4 :: bm :: X) _ (.N) []:=Zm _ wq;obtain ⟨cs,aL,aV⟩:=gm.blk;refine Z4 (Zb (us:=ndC (.mk 2 (1 - (q:Int) / 5) [] []) _) rfl rfl rfl rfl (Zi (x:=(.mk 2 (1 - (q:Int) / 5) [] [])) hy) aV aL.symm) ?_;rintro _ wz ⟨hz,bj⟩;refine W ?_;refine Zk rfl rfl rfl bj rfl ?_;have hf:=gm.fin (y:=(.mk 2 (1 - (q:Int) / 5) [] [])) bz bC hy hz;exact .mk ⟨_,_,hf.1,.bool _ _ (by omega),hf.2.1,by omega,hf.2.2⟩
 | false=>
   have cK:d≠0:=λh=>absurd (aw h) (by decide)
   obtain ⟨e,rfl⟩:∃ e,d=e+1:=⟨d - 1,by omega⟩
   replace ih:=ih e rfl;have bD:=Z1o e;clear cK aw;by_cases k0:q=0;refine QO ?_;refine CM (Zg rfl rfl) (Zv bm lv l _ 2 _ (by decide) (by omega) gm.mkr gm.sl hl) ?_;rintro _ wq ⟨q',rfl,gB,hm,hS⟩;replace gm:=gm.nxt hm hS;clear hm hS;refine W ?_;apply Z8 (vs:=[(0,.I 2),(1,.I _)]) rfl (Z3O _ _) rfl;have hy:SlV (α:=Nd) (b4 :: bm :: X) _ (.N) []:=Zm _ wq;obtain ⟨cs,aL,aV⟩:=gm.blk;refine Z4 (Zb (us:=ndC (.mk 2 (q':Int) [] []) _) rfl rfl rfl rfl (Zi (x:=(.mk 2 (q':Int) [] [])) hy) aV aL.symm) ?_;rintro _ wz ⟨hz,bj⟩;refine W ?_;refine Zk rfl rfl rfl bj rfl ?_;have hf:=gm.fin (y:=(.mk 2 (q':Int) [] [])) bz bC hy hz;exact .mk ⟨_,_,hf.1,.bool _ _ (by omega),hf.2.1,by omega,hf.2.2⟩;by_cases k1:q=1;refine QO ?_;refine W ?_;refine CM (Zg rfl rfl) ((ih.2.1) (b4 :: bm :: X) _ bm lv l _ _ (by omega) gm.mkr gm.sl hl (by omega) gm.hX) ?_;rintro _ wq ⟨y0,i0,⟨k0,rfl,s0⟩,g0,hm,fx,hS⟩;obtain ⟨p0,c0,rfl,-⟩:=id s0;replace gm:=gm.nxt hm hS;clear hm hS;refine W ?_;refine Z1 (Z0 (vs:=[(0,.agg #[.I y0.kind,.I y0.num,str y0.word,.slice p0 y0.kids.length c0])]) rfl (Z2H _ _ _ _ _ _)) rfl ?_;rintro bv wq hN;have an:SlV (b4 :: bm :: X) wq bv [y0]:=hN.slvG (css:=[ndC y0 _]) gm.hX rfl rfl rfl (Z9p s0) (by simp [maxLen]);have hT:=Z5.stp hN;clear hN;replace gm:=gm.up hT;clear hT;refine W ?_;refine CL (Zr (b4 :: bm :: X) 5 [110,111,116] bv [y0] _ gm.hX an) ?_;rintro _ wq ⟨⟨ky,rfl,hy⟩,hT⟩;replace gm:=gm.up hT;clear hT an;refine W ?_;obtain ⟨cs,aL,aV⟩:=gm.blk;refine Z4 (Zb (us:=ndC (.mk 5 0 [110,111,116] [y0]) _) rfl rfl rfl rfl (Zi (x:=(.mk 5 0 [110,111,116] [y0])) hy) aV aL.symm) ?_;rintro _ wz ⟨hz,bj⟩;refine W ?_;refine Zk rfl rfl rfl bj rfl ?_;have hf:=gm.fin (y:=(.mk 5 0 [110,111,116] [y0])) bz bC hy hz;exact .mk ⟨_,_,hf.1,.not _ _ g0,hf.2.1,by omega,hf.2.2⟩;by_cases k2:q=2;refine QO ?_;refine W ?_;refine CM (Zg rfl rfl) ((ih.2.1) (b4 :: bm :: X) _ bm lv l _ _ (by omega) gm.mkr gm.sl hl (by omega) gm.hX) ?_;rintro _ wq ⟨y0,i0,⟨k0,rfl,s0⟩,g0,hm,fx,hS⟩;obtain ⟨p0,c0,rfl,-⟩:=id s0;replace gm:=gm.nxt hm hS;clear hm hS;refine Z1 Z2 rfl ?_;rintro _ wq ⟨b0',rfl,bB,e0,hT⟩;refine SB (us:=ndC y0 _) (Zi s0) e0 ?_;rintro _ wq ⟨aq,e0⟩;replace hT:=JN hT bB aq;clear aq;have n0:b0'≠bm:=λh=>by have:=gm.mkr.lt;omega
   have n0':b0'≠b4:=λh=>by obtain ⟨_,_,hc⟩:=gm.blk;have:=hc.lt;omega
   replace gm:=gm.up hT;replace s0:=s0.up hT;clear hT bB;refine W ?_;refine Z4o 13 [b4,bm] [] rfl mixed (λw1 ae=>?_);have hT:=ae;replace gm:=gm.up hT;replace s0:=s0.up hT;replace e0:=e0.up hT;clear hT ae;refine JY 1 rfl trivial (λw'=>ZZ rfl) rfl (by kernel_rfl) (by kernel_rfl) ?_;refine Zax 5 rfl trivial (λw' aU=>J2 rfl rfl (e0.ext aU (by simp;exact ⟨n0',n0⟩)) rfl) rfl (by kernel_rfl) (by kernel_rfl) ?_;refine JY 6 rfl trivial (λw'=>ZZ rfl) rfl (by kernel_rfl) (by kernel_rfl) ?_;refine JY 7 rfl trivial (λw'=>ZZ rfl) rfl (by kernel_rfl) (by kernel_rfl) ?_;refine JY 8 rfl trivial (λw'=>Z66 rfl rfl (by unfold I64;omega)) rfl (by kernel_rfl) (by kernel_rfl) ?_;refine Z1D 0 2 (by kernel_rfl) ?_ ?_;refine Jb rfl trivial (Z0 (vs:=[(0,str [97,110,100]),(1,str [111,114])]) rfl (bS2 _ _)) (λ_ _ h=>(Z5.stp h).mn) rfl ?_;rintro wv wq hN;have aS:SlV [b4,bm] wq wv Z09:=hN.slv (λc hc=>gm.hX c (by simp at hc;rcases hc with rfl|rfl<;>simp)) rfl rfl (by decide);have hT:=Z5.stp hN;clear hN;replace gm:=gm.up hT;replace s0:=s0.up hT;replace e0:=e0.up hT;clear hT;refine Z4I [(2,2),(3,0),(4,1),(9,2),(10,2),(11,2),(12,2)] (by kernel_rfl) (by kernel_rfl) (by kernel_rfl) ?_;refine Za rfl trivial (Z6 rfl (Zg rfl rfl) (Zv bm lv l _ 2 _ (by decide) (by omega) gm.mkr gm.sl hl)) (λ_ _ h=>h.choose_spec.2.2.2.mn) rfl ?_;rintro _ wq ⟨q,rfl,hq,hm,hS⟩;replace gm:=gm.nxt hm hS;replace s0:=s0.ext hS (by simp) (λ_ h=>.inl h);replace e0:=e0.ext hS (by simp;exact n0);replace aS:=aS.ext hS (by simp) (λ_ h=>.inl h);clear hm hS;have cD:q<Z09.length:=by show q<2;omega
   refine D ?_;refine Za rfl trivial (Z6 rfl (Zg rfl rfl) ((ih.2.1) (b4 :: bm :: X) _ bm lv l _ _ (by omega) gm.mkr gm.sl hl (by omega) gm.hX)) (λ_ _ h=>by obtain ⟨_,_,_,_,_,_,h⟩:=h;exact h.mn) rfl ?_;rintro _ wq ⟨y1,i1,⟨k1,rfl,s1⟩,g1,hm,bJ,hS⟩;obtain ⟨p1,c1,rfl,-⟩:=id s1;replace gm:=gm.nxt hm hS;replace s0:=s0.ext hS (by simp) (λ_ h=>.inl h);replace e0:=e0.ext hS (by simp;exact n0);replace aS:=aS.ext hS (by simp) (λ_ h=>.inl h);clear hm hS;refine D ?_;refine Za rfl trivial (Z0 (vs:=[(0,.agg #[.I y0.kind,.I y0.num,str y0.word,.slice p0 y0.kids.length c0]),(1,.agg #[.I y1.kind,.I y1.num,str y1.word,.slice p1 y1.kids.length c1])]) rfl (Jr _ _ _ _ _ _ _ _ _ _ _ _)) (λ_ _ h=>(Z5.stp h).mn) rfl ?_;rintro bv wq hN;have an:SlV (b4 :: bm :: X) wq bv [y0,y1]:=hN.slvG (css:=[ndC y0 _,ndC y1 _]) gm.hX rfl rfl rfl (Z1t s0 s1) (by simp [maxLen]);have hT:=Z5.stp hN;clear hN;replace gm:=gm.up hT;replace aS:=aS.up hT;clear hT;refine D ?_;refine DC (Zr (b4 :: bm :: X) 6 Z09[q] bv [y0,y1] _ gm.hX an) (λ_ _ h=>h.2.mn) ?_;rintro _ wq ⟨⟨ky,rfl,hy⟩,hT⟩;replace gm:=gm.up hT;clear hT an;refine D ?_;obtain ⟨cs,aL,aV⟩:=gm.blk;refine ZF rfl trivial (Zb (us:=ndC (.mk 6 0 Z09[q] [y0,y1]) _) rfl rfl rfl rfl (Zi (x:=(.mk 6 0 Z09[q] [y0,y1])) hy) aV aL.symm) (λ_ _ h=>h.1.mn) ?_;rintro _ wz ⟨hz,bj⟩;refine D ?_;refine W ?_;refine Zk rfl rfl rfl bj rfl ?_;have hf:=gm.fin (y:=(.mk 6 0 Z09[q] [y0,y1])) bz bC hy hz;exact .mk ⟨_,_,hf.1,.logic _ _ _ _ (Xd cD) g0 g1,hf.2.1,by omega,hf.2.2⟩;refine Jb rfl trivial (Z6 rfl (Zg rfl rfl) (Zv bm lv l _ 2 _ (by decide) (by omega) gm.mkr gm.sl hl)) (λ_ _ h=>h.choose_spec.2.2.2.mn) rfl ?_;rintro _ wq ⟨q,rfl,hq,hm,hS⟩;replace gm:=gm.nxt hm hS;replace s0:=s0.ext hS (by simp) (λ_ h=>.inl h);replace e0:=e0.ext hS (by simp;exact n0);clear hm hS;have cD:q<Z09.length:=by show q<2;omega
   refine Z1D 0 9 (by kernel_rfl) ?_ ?_;refine Jb rfl trivial (Z0 (vs:=[(0,str [97,110,100]),(1,str [111,114])]) rfl (bS2 _ _)) (λ_ _ h=>(Z5.stp h).mn) rfl ?_;rintro wv wq hN;have aS:SlV [b4,bm] wq wv Z09:=hN.slv (λc hc=>gm.hX c (by simp at hc;rcases hc with rfl|rfl<;>simp)) rfl rfl (by decide);have hT:=Z5.stp hN;clear hN;replace gm:=gm.up hT;replace s0:=s0.up hT;replace e0:=e0.up hT;clear hT;refine Z4I [(3,0),(4,1),(9,2),(10,2),(11,2),(12,2)] (by kernel_rfl) (by kernel_rfl) (by kernel_rfl) ?_;refine D ?_;refine Za rfl trivial (Z6 rfl (Zg rfl rfl) ((ih.2.1) (b4 :: bm :: X) _ bm lv l _ _ (by omega) gm.mkr gm.sl hl (by omega) gm.hX)) (λ_ _ h=>by obtain ⟨_,_,_,_,_,_,h⟩:=h;exact h.mn) rfl ?_;rintro _ wq ⟨y1,i1,⟨k1,rfl,s1⟩,g1,hm,bJ,hS⟩;obtain ⟨p1,c1,rfl,-⟩:=id s1;replace gm:=gm.nxt hm hS;replace s0:=s0.ext hS (by simp) (λ_ h=>.inl h);replace e0:=e0.ext hS (by simp;exact n0);replace aS:=aS.ext hS (by simp) (λ_ h=>.inl h);clear hm hS;refine D ?_;refine Za rfl trivial (Z0 (vs:=[(0,.agg #[.I y0.kind,.I y0.num,str y0.word,.slice p0 y0.kids.length c0]),(1,.agg #[.I y1.kind,.I y1.num,str y1.word,.slice p1 y1.kids.length c1])]) rfl (Jr _ _ _ _ _ _ _ _ _ _ _ _)) (λ_ _ h=>(Z5.stp h).mn) rfl ?_;rintro bv wq hN;have an:SlV (b4 :: bm :: X) wq bv [y0,y1]:=hN.slvG (css:=[ndC y0 _,ndC y1 _]) gm.hX rfl rfl rfl (Z1t s0 s1) (by simp [maxLen]);have hT:=Z5.stp hN;clear hN;replace gm:=gm.up hT;replace aS:=aS.up hT;clear hT;refine D ?_;refine DC (Zr (b4 :: bm :: X) 6 Z09[q] bv [y0,y1] _ gm.hX an) (λ_ _ h=>h.2.mn) ?_;rintro _ wq ⟨⟨ky,rfl,hy⟩,hT⟩;replace gm:=gm.up hT;clear hT an;refine D ?_;obtain ⟨cs,aL,aV⟩:=gm.blk;refine ZF rfl trivial (Zb (us:=ndC (.mk 6 0 Z09[q] [y0,y1]) _) rfl rfl rfl rfl (Zi (x:=(.mk 6 0 Z09[q] [y0,y1])) hy) aV aL.symm) (λ_ _ h=>h.1.mn) ?_;rintro _ wz ⟨hz,bj⟩;refine D ?_;refine W ?_;refine Zk rfl rfl rfl bj rfl ?_;have hf:=gm.fin (y:=(.mk 6 0 Z09[q] [y0,y1])) bz bC hy hz;exact .mk ⟨_,_,hf.1,.logic _ _ _ _ (Xd cD) g0 g1,hf.2.1,by omega,hf.2.2⟩;refine Jb rfl trivial (Z6 rfl (Zg rfl rfl) ((ih.2.1) (b4 :: bm :: X) _ bm lv l _ _ (by omega) gm.mkr gm.sl hl (by omega) gm.hX)) (λ_ _ h=>by obtain ⟨_,_,_,_,_,_,h⟩:=h;exact h.mn) rfl ?_;rintro _ wq ⟨y1,i1,⟨k1,rfl,s1⟩,g1,hm,bJ,hS⟩;obtain ⟨p1,c1,rfl,-⟩:=id s1;replace gm:=gm.nxt hm hS;replace s0:=s0.ext hS (by simp) (λ_ h=>.inl h);replace e0:=e0.ext hS (by simp;exact n0);clear hm hS;refine Z1D 0 10 (by kernel_rfl) ?_ ?_;refine Jb rfl trivial (Z0 (vs:=[(0,str [97,110,100]),(1,str [111,114])]) rfl (bS2 _ _)) (λ_ _ h=>(Z5.stp h).mn) rfl ?_;rintro wv wq hN;have aS:SlV [b4,bm] wq wv Z09:=hN.slv (λc hc=>gm.hX c (by simp at hc;rcases hc with rfl|rfl<;>simp)) rfl rfl (by decide);have hT:=Z5.stp hN;clear hN;replace gm:=gm.up hT;replace s0:=s0.up hT;replace e0:=e0.up hT;replace s1:=s1.up hT;clear hT;refine Z4I [(3,0),(4,1),(10,2),(11,2),(12,2)] (by kernel_rfl) (by kernel_rfl) (by kernel_rfl) ?_;refine D ?_;refine D ?_;refine Za rfl trivial (Z0 (vs:=[(0,.agg #[.I y0.kind,.I y0.num,str y0.word,.slice p0 y0.kids.length c0]),(1,.agg #[.I y1.kind,.I y1.num,str y1.word,.slice p1 y1.kids.length c1])]) rfl (Jr _ _ _ _ _ _ _ _ _ _ _ _)) (λ_ _ h=>(Z5.stp h).mn) rfl ?_;rintro bv wq hN;have an:SlV (b4 :: bm :: X) wq bv [y0,y1]:=hN.slvG (css:=[ndC y0 _,ndC y1 _]) gm.hX rfl rfl rfl (Z1t s0 s1) (by simp [maxLen]);have hT:=Z5.stp hN;clear hN;replace gm:=gm.up hT;replace aS:=aS.up hT;clear hT;refine D ?_;refine DC (Zr (b4 :: bm :: X) 6 Z09[q] bv [y0,y1] _ gm.hX an) (λ_ _ h=>h.2.mn) ?_;rintro _ wq ⟨⟨ky,rfl,hy⟩,hT⟩;replace gm:=gm.up hT;clear hT an;refine D ?_;obtain ⟨cs,aL,aV⟩:=gm.blk;refine ZF rfl trivial (Zb (us:=ndC (.mk 6 0 Z09[q] [y0,y1]) _) rfl rfl rfl rfl (Zi (x:=(.mk 6 0 Z09[q] [y0,y1])) hy) aV aL.symm) (λ_ _ h=>h.1.mn) ?_;rintro _ wz ⟨hz,bj⟩;refine D ?_;refine W ?_;refine Zk rfl rfl rfl bj rfl ?_;have hf:=gm.fin (y:=(.mk 6 0 Z09[q] [y0,y1])) bz bC hy hz;exact .mk ⟨_,_,hf.1,.logic _ _ _ _ (Xd cD) g0 g1,hf.2.1,by omega,hf.2.2⟩;refine Jb rfl trivial (Z0 (vs:=[(0,.agg #[.I y0.kind,.I y0.num,str y0.word,.slice p0 y0.kids.length c0]),(1,.agg #[.I y1.kind,.I y1.num,str y1.word,.slice p1 y1.kids.length c1])]) rfl (Jr _ _ _ _ _ _ _ _ _ _ _ _)) (λ_ _ h=>(Z5.stp h).mn) rfl ?_;rintro bv wq hN;have an:SlV (b4 :: bm :: X) wq bv [y0,y1]:=hN.slvG (css:=[ndC y0 _,ndC y1 _]) gm.hX rfl rfl rfl (Z1t s0 s1) (by simp [maxLen]);have hT:=Z5.stp hN;clear hN;replace gm:=gm.up hT;clear hT;refine Z4I [(0,2),(3,0),(4,1),(11,2),(12,2)] (by kernel_rfl) (by kernel_rfl) (by kernel_rfl) ?_;refine Za rfl trivial (Z0 (vs:=[(0,str [97,110,100]),(1,str [111,114])]) rfl (bS2 _ _)) (λ_ _ h=>(Z5.stp h).mn) rfl ?_;rintro wv wq hN;have aS:SlV [b4,bm] wq wv Z09:=hN.slv (λc hc=>gm.hX c (by simp at hc;rcases hc with rfl|rfl<;>simp)) rfl rfl (by decide);have hT:=Z5.stp hN;clear hN;replace gm:=gm.up hT;replace an:=an.up hT;clear hT;refine D ?_;refine D ?_;refine D ?_;refine DC (Zr (b4 :: bm :: X) 6 Z09[q] bv [y0,y1] _ gm.hX an) (λ_ _ h=>h.2.mn) ?_;rintro _ wq ⟨⟨ky,rfl,hy⟩,hT⟩;replace gm:=gm.up hT;clear hT an;refine D ?_;obtain ⟨cs,aL,aV⟩:=gm.blk;refine ZF rfl trivial (Zb (us:=ndC (.mk 6 0 Z09[q] [y0,y1]) _) rfl rfl rfl rfl (Zi (x:=(.mk 6 0 Z09[q] [y0,y1])) hy) aV aL.symm) (λ_ _ h=>h.1.mn) ?_;rintro _ wz ⟨hz,bj⟩;refine D ?_;refine W ?_;refine Zk rfl rfl rfl bj rfl ?_;have hf:=gm.fin (y:=(.mk 6 0 Z09[q] [y0,y1])) bz bC hy hz;exact .mk ⟨_,_,hf.1,.logic _ _ _ _ (Xd cD) g0 g1,hf.2.1,by omega,hf.2.2⟩;by_cases k3:q=3;refine QO ?_;refine W ?_;refine CM (Zg rfl rfl) ((ih.2.2) (b4 :: bm :: X) _ bm lv l _ _ (by omega) gm.mkr gm.sl hl (by omega) gm.hX) ?_;rintro _ wq ⟨y0,i0,⟨k0,rfl,s0⟩,g0,hm,fx,hS⟩;obtain ⟨p0,c0,rfl,-⟩:=id s0;replace gm:=gm.nxt hm hS;clear hm hS;refine Z1 Z2 rfl ?_;rintro _ wq ⟨b0',rfl,bB,e0,hT⟩;refine SB (us:=ndC y0 _) (Zi s0) e0 ?_;rintro _ wq ⟨aq,e0⟩;replace hT:=JN hT bB aq;clear aq;have n0:b0'≠bm:=λh=>by have:=gm.mkr.lt;omega
   have n0':b0'≠b4:=λh=>by obtain ⟨_,_,hc⟩:=gm.blk;have:=hc.lt;omega
   replace gm:=gm.up hT;replace s0:=s0.up hT;clear hT bB;refine W ?_;refine ZDr 11 ([b4,bm]) [] [(0,0),(3,1),(4,0),(5,0),(6,0),(1,2),(2,2),(7,2),(8,2),(9,2),(10,2)] (λw1 ae=>?_);have hT:=ae;replace gm:=gm.up hT;replace s0:=s0.up hT;replace e0:=e0.up hT;clear hT ae;refine D ?_;refine Za rfl trivial (Z6 rfl (Zg rfl rfl) (Zv bm lv l _ 6 _ (by decide) (by omega) gm.mkr gm.sl hl)) (λ_ _ h=>h.choose_spec.2.2.2.mn) rfl ?_;rintro _ wq ⟨q',rfl,gB,hm,hS⟩;replace gm:=gm.nxt hm hS;replace s0:=s0.ext hS (by simp) (λ_ h=>.inl h);replace e0:=e0.ext hS (by simp;exact n0);clear hm hS;refine D ?_;refine Za rfl trivial (Z6 rfl (ZP rfl) (Z5v q' _ (by omega))) (λ_ _ h=>h.2.mn) rfl ?_;rintro _ wq ⟨⟨op,fy,rfl⟩,hT⟩;replace gm:=gm.up hT;replace s0:=s0.up hT;replace e0:=e0.up hT;clear hT;refine D ?_;refine Za rfl trivial (Z6 rfl (Zg rfl rfl) ((ih.2.2) (b4 :: bm :: X) _ bm lv l _ _ (by omega) gm.mkr gm.sl hl (by omega) gm.hX)) (λ_ _ h=>by obtain ⟨_,_,_,_,_,_,h⟩:=h;exact h.mn) rfl ?_;rintro _ wq ⟨y1,i1,⟨k1,rfl,s1⟩,g1,hm,bJ,hS⟩;obtain ⟨p1,c1,rfl,-⟩:=id s1;replace gm:=gm.nxt hm hS;replace s0:=s0.ext hS (by simp) (λ_ h=>.inl h);replace e0:=e0.ext hS (by simp;exact n0);clear hm hS;refine D ?_;refine Za rfl trivial (Z0 (vs:=[(0,.agg #[.I y0.kind,.I y0.num,str y0.word,.slice p0 y0.kids.length c0]),(1,.agg #[.I y1.kind,.I y1.num,str y1.word,.slice p1 y1.kids.length c1])]) rfl (Jr _ _ _ _ _ _ _ _ _ _ _ _)) (λ_ _ h=>(Z5.stp h).mn) rfl ?_;rintro bv wq hN;have an:SlV (b4 :: bm :: X) wq bv [y0,y1]:=hN.slvG (css:=[ndC y0 _,ndC y1 _]) gm.hX rfl rfl rfl (Z1t s0 s1) (by simp [maxLen]);have hT:=Z5.stp hN;clear hN;replace gm:=gm.up hT;clear hT;refine D ?_;refine DC (Zr (b4 :: bm :: X) 6 op bv [y0,y1] _ gm.hX an) (λ_ _ h=>h.2.mn) ?_;rintro _ wq ⟨⟨ky,rfl,hy⟩,hT⟩;replace gm:=gm.up hT;clear hT an;refine D ?_;obtain ⟨cs,aL,aV⟩:=gm.blk;refine ZF rfl trivial (Zb (us:=ndC (.mk 6 0 op [y0,y1]) _) rfl rfl rfl rfl (Zi (x:=(.mk 6 0 op [y0,y1])) hy) aV aL.symm) (λ_ _ h=>h.1.mn) ?_;rintro _ wz ⟨hz,bj⟩;refine D ?_;refine W ?_;refine Zk rfl rfl rfl bj rfl ?_;have hf:=gm.fin (y:=(.mk 6 0 op [y0,y1])) bz bC hy hz;exact .mk ⟨_,_,hf.1,.cmp _ 3 _ _ _ (by decide) fy g0 g1,hf.2.1,by omega,hf.2.2⟩;refine QO ?_;refine W ?_;refine CM (Zg rfl rfl) ((ih.1) (b4 :: bm :: X) _ bm lv l _ _ (by omega) gm.mkr gm.sl hl (by omega) gm.hX) ?_;rintro _ wq ⟨y0,i0,⟨k0,rfl,s0⟩,g0,hm,fx,hS⟩;obtain ⟨p0,c0,rfl,-⟩:=id s0;replace gm:=gm.nxt hm hS;clear hm hS;refine Z1 Z2 rfl ?_;rintro _ wq ⟨b0',rfl,bB,e0,hT⟩;refine SB (us:=ndC y0 _) (Zi s0) e0 ?_;rintro _ wq ⟨aq,e0⟩;replace hT:=JN hT bB aq;clear aq;have n0:b0'≠bm:=λh=>by have:=gm.mkr.lt;omega
   have n0':b0'≠b4:=λh=>by obtain ⟨_,_,hc⟩:=gm.blk;have:=hc.lt;omega
   replace gm:=gm.up hT;replace s0:=s0.up hT;clear hT bB;refine W ?_;refine ZDr 11 ([b4,bm]) [] [(0,0),(3,1),(4,0),(5,0),(6,0),(1,2),(2,2),(7,2),(8,2),(9,2),(10,2)] (λw1 ae=>?_);have hT:=ae;replace gm:=gm.up hT;replace s0:=s0.up hT;replace e0:=e0.up hT;clear hT ae;refine D ?_;refine Za rfl trivial (Z6 rfl (Zg rfl rfl) (Zv bm lv l _ 6 _ (by decide) (by omega) gm.mkr gm.sl hl)) (λ_ _ h=>h.choose_spec.2.2.2.mn) rfl ?_;rintro _ wq ⟨q',rfl,gB,hm,hS⟩;replace gm:=gm.nxt hm hS;replace s0:=s0.ext hS (by simp) (λ_ h=>.inl h);replace e0:=e0.ext hS (by simp;exact n0);clear hm hS;refine D ?_;refine Za rfl trivial (Z6 rfl (ZP rfl) (Z5v q' _ (by omega))) (λ_ _ h=>h.2.mn) rfl ?_;rintro _ wq ⟨⟨op,fy,rfl⟩,hT⟩;replace gm:=gm.up hT;replace s0:=s0.up hT;replace e0:=e0.up hT;clear hT;refine D ?_;refine Za rfl trivial (Z6 rfl (Zg rfl rfl) ((ih.1) (b4 :: bm :: X) _ bm lv l _ _ (by omega) gm.mkr gm.sl hl (by omega) gm.hX)) (λ_ _ h=>by obtain ⟨_,_,_,_,_,_,h⟩:=h;exact h.mn) rfl ?_;rintro _ wq ⟨y1,i1,⟨k1,rfl,s1⟩,g1,hm,bJ,hS⟩;obtain ⟨p1,c1,rfl,-⟩:=id s1;replace gm:=gm.nxt hm hS;replace s0:=s0.ext hS (by simp) (λ_ h=>.inl h);replace e0:=e0.ext hS (by simp;exact n0);clear hm hS;refine D ?_;refine Za rfl trivial (Z0 (vs:=[(0,.agg #[.I y0.kind,.I y0.num,str y0.word,.slice p0 y0.kids.length c0]),(1,.agg #[.I y1.kind,.I y1.num,str y1.word,.slice p1 y1.kids.length c1])]) rfl (Jr _ _ _ _ _ _ _ _ _ _ _ _)) (λ_ _ h=>(Z5.stp h).mn) rfl ?_;rintro bv wq hN;have an:SlV (b4 :: bm :: X) wq bv [y0,y1]:=hN.slvG (css:=[ndC y0 _,ndC y1 _]) gm.hX rfl rfl rfl (Z1t s0 s1) (by simp [maxLen]);have hT:=Z5.stp hN;clear hN;replace gm:=gm.up hT;clear hT;refine D ?_;refine DC (Zr (b4 :: bm :: X) 6 op bv [y0,y1] _ gm.hX an) (λ_ _ h=>h.2.mn) ?_;rintro _ wq ⟨⟨ky,rfl,hy⟩,hT⟩;replace gm:=gm.up hT;clear hT an;refine D ?_;obtain ⟨cs,aL,aV⟩:=gm.blk;refine ZF rfl trivial (Zb (us:=ndC (.mk 6 0 op [y0,y1]) _) rfl rfl rfl rfl (Zi (x:=(.mk 6 0 op [y0,y1])) hy) aV aL.symm) (λ_ _ h=>h.1.mn) ?_;rintro _ wz ⟨hz,bj⟩;refine D ?_;refine W ?_;refine Zk rfl rfl rfl bj rfl ?_;have hf:=gm.fin (y:=(.mk 6 0 op [y0,y1])) bz bC hy hz;exact .mk ⟨_,_,hf.1,.cmp _ 1 _ _ _ (by decide) fy g0 g1,hf.2.1,by omega,hf.2.2⟩
set_option maxHeartbeats 1000000
def Z59:List Str:=[[100,97,121,115],[100,97,121,115],[99,111,117,114,116,100,97,121,115],[119,101,101,107,115],[109,111,110,116,104,115]]
theorem ZdK:∀ s∈Z59,s∈J3:=by decide
theorem Z7U (d:Nat) (sL:d<=6) (ih:∀ e,d=e+1->Z2y 181 1 e/\Z2y 104 2 e/\Z2y 105 3 e):Z2y 105 3 d:=by
 intro X w bm lv l i z hz aA ax hl hi hX;subst hz;have bI:szD (d+1)=1+3 * szD d:=rfl;refine cW2 107 Tryz.func105 ?_;refine W ?_;refine Z1 Z2 rfl ?_;rintro _ w1 ⟨b4,rfl,bC,bA,bz⟩;have gm:G3 (b4 :: bm :: X) w1 w1 bm b4 lv l i:=⟨aA.up bz,ax.up bz,Stp.refl _ _,⟨_,rfl,bA⟩,λh=>by have:=aA.lt;omega,λc hc=>by
  simp only [Xb] at hc;have h1:=bA.lt;have h2:=aA.lt;have h3:=bz.size;rcases hc with rfl|rfl|hc
  exact h1;omega;have:=hX c hc;omega⟩
 clear bA hX ax aA;refine W ?_;refine Z1 (Z6 rfl (Zg rfl rfl) (Zv bm lv l _ 10 _ (by decide) (by omega) gm.mkr gm.sl hl)) rfl ?_;rintro _ wq ⟨q,rfl,hq,hm,hS⟩;replace gm:=gm.nxt hm hS;clear hm hS;refine W ?_;refine Z1 (Z6 rfl (Zg rfl rfl) (Z6c bm lv l _ d _ _ rfl gm.mkr gm.sl)) rfl ?_;rintro _ wq ⟨dn,rfl,aw,hT⟩;replace gm:=gm.up hT;clear hT;refine W ?_;refine JJ (σ:=Nat) (λk=>[(0,pQ bm),(1,.I (d:Int)),(4,pQ b4),(5,.I (k:Int))]) (λk w'=>w'=wq/\k<10/\(d=0->k<4)) ?_ ?_
 . cases dn with
   | true=>
     refine QO ?_;exact ZD (q % 4) ⟨rfl,rfl,rfl,rfl,trivial⟩ ⟨rfl,by omega,λ_=>by omega⟩
   | false=>
     refine QO ?_;exact ZD q ⟨rfl,rfl,rfl,rfl,trivial⟩ ⟨rfl,by omega,λh=>absurd (aw h) (by decide)⟩
 rintro k w3 ⟨rfl,mK,bF⟩;clear hq aw;by_cases k0:k<=1
 . (refine QP ?_ ?_<;>intro hc)
   all_goals
    refine Z1 (Z6 rfl (ZY rfl rfl rfl) (Zr (b4 :: bm :: X) 4 [100,97,121] (.N) [] _ gm.hX (Zm _ _))) rfl ?_;rintro _ wq ⟨⟨ky,rfl,hy⟩,hT⟩;replace gm:=gm.up hT;clear hT;obtain ⟨cs,aL,aV⟩:=gm.blk;refine Z4 (Zb (us:=ndC (.mk 4 0 [100,97,121] []) _) rfl rfl rfl rfl (Zi (x:=(.mk 4 0 [100,97,121] [])) hy) aV aL.symm) ?_;rintro _ wz ⟨hz,bj⟩;refine W ?_;refine Zk rfl rfl rfl bj rfl ?_;have hf:=gm.fin (y:=(.mk 4 0 [100,97,121] [])) bz bC hy hz;exact .mk ⟨_,_,hf.1,.fldD _ _ (by decide),hf.2.1,by omega,hf.2.2⟩
 by_cases k2:k=2;refine QO ?_;refine Z1 (Z0 (vs:=[(0,str [100,97,121]),(1,str [115,101,114,118,101,100])]) rfl (bS2 _ _)) rfl ?_;rintro wv wq hN;have aS:SlV [bm] wq wv Z7S:=hN.slv (λc hc=>gm.hX c (by simp at hc;subst hc;simp)) rfl rfl (by decide);have hT:=Z5.stp hN;clear hN;replace gm:=gm.up hT;clear hT;refine W ?_;refine Z1 (Z6 rfl (Zg rfl rfl) (Zv bm lv l _ 2 _ (by decide) (by omega) gm.mkr gm.sl hl)) rfl ?_;rintro _ wq ⟨q',rfl,gB,hm,hS⟩;replace gm:=gm.nxt hm hS;replace aS:=aS.ext hS (by simp) (λ_ h=>.inl h);clear hm hS;have cD:q'<Z7S.length:=by show q'<2;omega
 refine W ?_;refine Z1 (Z6 rfl (ZY rfl rfl rfl) (Zr (b4 :: bm :: X) 4 Z7S[q'] (.N) [] _ gm.hX (Zm _ _))) rfl ?_;rintro _ wq ⟨⟨ky,rfl,hy⟩,hT⟩;replace gm:=gm.up hT;clear hT;obtain ⟨cs,aL,aV⟩:=gm.blk;refine Z4 (Zb (us:=ndC (.mk 4 0 Z7S[q'] []) _) rfl rfl rfl rfl (Zi (x:=(.mk 4 0 Z7S[q'] [])) hy) aV aL.symm) ?_;rintro _ wz ⟨hz,bj⟩;refine W ?_;refine Zk rfl rfl rfl bj rfl ?_;have hf:=gm.fin (y:=(.mk 4 0 Z7S[q'] [])) bz bC hy hz;exact .mk ⟨_,_,hf.1,.fldD _ _ (Xd cD),hf.2.1,by omega,hf.2.2⟩;by_cases k3:k=3;refine QO ?_;refine Z1 (Z6 rfl (Zg rfl rfl) (Zv bm lv l _ 60 _ (by decide) (by omega) gm.mkr gm.sl hl)) rfl ?_;rintro _ wq ⟨q',rfl,gB,hm,hS⟩;replace gm:=gm.nxt hm hS;clear hm hS;refine W ?_;apply Z8 (vs:=[(0,.I 3),(1,.I _)]) rfl (Z3O _ _) rfl;have hy:SlV (α:=Nd) (b4 :: bm :: X) _ (.N) []:=Zm _ wq;obtain ⟨cs,aL,aV⟩:=gm.blk;refine Z4 (Zb (us:=ndC (.mk 3 (739616+(q':Int)) [] []) _) rfl rfl rfl rfl (Zi (x:=(.mk 3 (739616+(q':Int)) [] [])) hy) aV aL.symm) ?_;rintro _ wz ⟨hz,bj⟩;refine W ?_;refine Zk rfl rfl rfl bj rfl ?_;have hf:=gm.fin (y:=(.mk 3 (739616+(q':Int)) [] [])) bz bC hy hz;exact .mk ⟨_,_,hf.1,.day _ _ (by omega),hf.2.1,by omega,hf.2.2⟩;by_cases k4:k=4;obtain ⟨e,rfl⟩:∃ e,d=e+1:=⟨d - 1,by omega⟩
 replace ih:=ih e rfl;have bD:=Z1o e;refine QO ?_;refine Z4o 12 [b4,bm] [] rfl mixed (λw1 ae=>?_);have hT:=ae;replace gm:=gm.up hT;clear hT ae;refine JY 1 rfl trivial (λw'=>ZZ rfl) rfl (by kernel_rfl) (by kernel_rfl) ?_;refine JY 5 rfl trivial (λw'=>ZZ rfl) rfl (by kernel_rfl) (by kernel_rfl) ?_;refine JY 6 rfl trivial (λw'=>ZZ rfl) rfl (by kernel_rfl) (by kernel_rfl) ?_;refine JY 7 rfl trivial (λw'=>Z66 rfl rfl (by unfold I64;omega)) rfl (by kernel_rfl) (by kernel_rfl) ?_;refine Z1D 0 2 (by kernel_rfl) ?_ ?_;refine Jb rfl trivial (Z0 (vs:=[(0,str [110,101,120,116]),(1,str [112,114,101,118])]) rfl (bS2 _ _)) (λ_ _ h=>(Z5.stp h).mn) rfl ?_;rintro wv wq hN;have aS:SlV [b4,bm] wq wv Z1a:=hN.slv (λc hc=>gm.hX c (by simp at hc;rcases hc with rfl|rfl<;>simp)) rfl rfl (by decide);have hT:=Z5.stp hN;clear hN;replace gm:=gm.up hT;clear hT;refine Z4I [(2,2),(3,0),(4,1),(8,2),(9,2),(10,2),(11,2)] (by kernel_rfl) (by kernel_rfl) (by kernel_rfl) ?_;refine Za rfl trivial (Z6 rfl (Zg rfl rfl) (Zv bm lv l _ 2 _ (by decide) (by omega) gm.mkr gm.sl hl)) (λ_ _ h=>h.choose_spec.2.2.2.mn) rfl ?_;rintro _ wq ⟨q,rfl,hq,hm,hS⟩;replace gm:=gm.nxt hm hS;replace aS:=aS.ext hS (by simp) (λ_ h=>.inl h);clear hm hS;have cD:q<Z1a.length:=by show q<2;omega
 refine D ?_;refine Za rfl trivial (Z6 rfl (Zg rfl rfl) ((ih.2.2) (b4 :: bm :: X) _ bm lv l _ _ (by omega) gm.mkr gm.sl hl (by omega) gm.hX)) (λ_ _ h=>by obtain ⟨_,_,_,_,_,_,h⟩:=h;exact h.mn) rfl ?_;rintro _ wq ⟨y0,i0,⟨k0,rfl,s0⟩,g0,hm,fx,hS⟩;obtain ⟨p0,c0,rfl,-⟩:=id s0;replace gm:=gm.nxt hm hS;replace aS:=aS.ext hS (by simp) (λ_ h=>.inl h);clear hm hS;refine D ?_;refine Za rfl trivial (Z0 (vs:=[(0,.agg #[.I y0.kind,.I y0.num,str y0.word,.slice p0 y0.kids.length c0])]) rfl (Z2H _ _ _ _ _ _)) (λ_ _ h=>(Z5.stp h).mn) rfl ?_;rintro bv wq hN;have an:SlV (b4 :: bm :: X) wq bv [y0]:=hN.slvG (css:=[ndC y0 _]) gm.hX rfl rfl rfl (Z9p s0) (by simp [maxLen]);have hT:=Z5.stp hN;clear hN;replace gm:=gm.up hT;replace aS:=aS.up hT;clear hT;refine D ?_;refine Za rfl trivial (Z6 rfl (ZY rfl rfl rfl) (Zr (b4 :: bm :: X) 10 Z1a[q] bv [y0] _ gm.hX an)) (λ_ _ h=>h.2.mn) rfl ?_;rintro _ wq ⟨⟨ky,rfl,hy⟩,hT⟩;replace gm:=gm.up hT;clear hT an;refine D ?_;obtain ⟨cs,aL,aV⟩:=gm.blk;refine ZF rfl trivial (Zb (us:=ndC (.mk 10 0 Z1a[q] [y0]) _) rfl rfl rfl rfl (Zi (x:=(.mk 10 0 Z1a[q] [y0])) hy) aV aL.symm) (λ_ _ h=>h.1.mn) ?_;rintro _ wz ⟨hz,bj⟩;refine D ?_;refine W ?_;refine Zk rfl rfl rfl bj rfl ?_;have hf:=gm.fin (y:=(.mk 10 0 Z1a[q] [y0])) bz bC hy hz;exact .mk ⟨_,_,hf.1,.adj _ _ _ (Xd cD) g0,hf.2.1,by omega,hf.2.2⟩;refine Jb rfl trivial (Z6 rfl (Zg rfl rfl) (Zv bm lv l _ 2 _ (by decide) (by omega) gm.mkr gm.sl hl)) (λ_ _ h=>h.choose_spec.2.2.2.mn) rfl ?_;rintro _ wq ⟨q,rfl,hq,hm,hS⟩;replace gm:=gm.nxt hm hS;clear hm hS;have cD:q<Z1a.length:=by show q<2;omega
 refine Z1D 0 8 (by kernel_rfl) ?_ ?_;refine Jb rfl trivial (Z0 (vs:=[(0,str [110,101,120,116]),(1,str [112,114,101,118])]) rfl (bS2 _ _)) (λ_ _ h=>(Z5.stp h).mn) rfl ?_;rintro wv wq hN;have aS:SlV [b4,bm] wq wv Z1a:=hN.slv (λc hc=>gm.hX c (by simp at hc;rcases hc with rfl|rfl<;>simp)) rfl rfl (by decide);have hT:=Z5.stp hN;clear hN;replace gm:=gm.up hT;clear hT;refine Z4I [(3,0),(4,1),(8,2),(9,2),(10,2),(11,2)] (by kernel_rfl) (by kernel_rfl) (by kernel_rfl) ?_;refine D ?_;refine Za rfl trivial (Z6 rfl (Zg rfl rfl) ((ih.2.2) (b4 :: bm :: X) _ bm lv l _ _ (by omega) gm.mkr gm.sl hl (by omega) gm.hX)) (λ_ _ h=>by obtain ⟨_,_,_,_,_,_,h⟩:=h;exact h.mn) rfl ?_;rintro _ wq ⟨y0,i0,⟨k0,rfl,s0⟩,g0,hm,fx,hS⟩;obtain ⟨p0,c0,rfl,-⟩:=id s0;replace gm:=gm.nxt hm hS;replace aS:=aS.ext hS (by simp) (λ_ h=>.inl h);clear hm hS;refine D ?_;refine Za rfl trivial (Z0 (vs:=[(0,.agg #[.I y0.kind,.I y0.num,str y0.word,.slice p0 y0.kids.length c0])]) rfl (Z2H _ _ _ _ _ _)) (λ_ _ h=>(Z5.stp h).mn) rfl ?_;rintro bv wq hN;have an:SlV (b4 :: bm :: X) wq bv [y0]:=hN.slvG (css:=[ndC y0 _]) gm.hX rfl rfl rfl (Z9p s0) (by simp [maxLen]);have hT:=Z5.stp hN;clear hN;replace gm:=gm.up hT;replace aS:=aS.up hT;clear hT;refine D ?_;refine Za rfl trivial (Z6 rfl (ZY rfl rfl rfl) (Zr (b4 :: bm :: X) 10 Z1a[q] bv [y0] _ gm.hX an)) (λ_ _ h=>h.2.mn) rfl ?_;rintro _ wq ⟨⟨ky,rfl,hy⟩,hT⟩;replace gm:=gm.up hT;clear hT an;refine D ?_;obtain ⟨cs,aL,aV⟩:=gm.blk;refine ZF rfl trivial (Zb (us:=ndC (.mk 10 0 Z1a[q] [y0]) _) rfl rfl rfl rfl (Zi (x:=(.mk 10 0 Z1a[q] [y0])) hy) aV aL.symm) (λ_ _ h=>h.1.mn) ?_;rintro _ wz ⟨hz,bj⟩;refine D ?_;refine W ?_;refine Zk rfl rfl rfl bj rfl ?_;have hf:=gm.fin (y:=(.mk 10 0 Z1a[q] [y0])) bz bC hy hz;exact .mk ⟨_,_,hf.1,.adj _ _ _ (Xd cD) g0,hf.2.1,by omega,hf.2.2⟩;refine Jb rfl trivial (Z6 rfl (Zg rfl rfl) ((ih.2.2) (b4 :: bm :: X) _ bm lv l _ _ (by omega) gm.mkr gm.sl hl (by omega) gm.hX)) (λ_ _ h=>by obtain ⟨_,_,_,_,_,_,h⟩:=h;exact h.mn) rfl ?_;rintro _ wq ⟨y0,i0,⟨k0,rfl,s0⟩,g0,hm,fx,hS⟩;obtain ⟨p0,c0,rfl,-⟩:=id s0;replace gm:=gm.nxt hm hS;clear hm hS;refine Z1D 0 9 (by kernel_rfl) ?_ ?_;refine Jb rfl trivial (Z0 (vs:=[(0,str [110,101,120,116]),(1,str [112,114,101,118])]) rfl (bS2 _ _)) (λ_ _ h=>(Z5.stp h).mn) rfl ?_;rintro wv wq hN;have aS:SlV [b4,bm] wq wv Z1a:=hN.slv (λc hc=>gm.hX c (by simp at hc;rcases hc with rfl|rfl<;>simp)) rfl rfl (by decide);have hT:=Z5.stp hN;clear hN;replace gm:=gm.up hT;replace s0:=s0.up hT;clear hT;refine Z4I [(3,0),(4,1),(9,2),(10,2),(11,2)] (by kernel_rfl) (by kernel_rfl) (by kernel_rfl) ?_;refine D ?_;refine D ?_;refine Za rfl trivial (Z0 (vs:=[(0,.agg #[.I y0.kind,.I y0.num,str y0.word,.slice p0 y0.kids.length c0])]) rfl (Z2H _ _ _ _ _ _)) (λ_ _ h=>(Z5.stp h).mn) rfl ?_;rintro bv wq hN;have an:SlV (b4 :: bm :: X) wq bv [y0]:=hN.slvG (css:=[ndC y0 _]) gm.hX rfl rfl rfl (Z9p s0) (by simp [maxLen]);have hT:=Z5.stp hN;clear hN;replace gm:=gm.up hT;replace aS:=aS.up hT;clear hT;refine D ?_;refine Za rfl trivial (Z6 rfl (ZY rfl rfl rfl) (Zr (b4 :: bm :: X) 10 Z1a[q] bv [y0] _ gm.hX an)) (λ_ _ h=>h.2.mn) rfl ?_;rintro _ wq ⟨⟨ky,rfl,hy⟩,hT⟩;replace gm:=gm.up hT;clear hT an;refine D ?_;obtain ⟨cs,aL,aV⟩:=gm.blk;refine ZF rfl trivial (Zb (us:=ndC (.mk 10 0 Z1a[q] [y0]) _) rfl rfl rfl rfl (Zi (x:=(.mk 10 0 Z1a[q] [y0])) hy) aV aL.symm) (λ_ _ h=>h.1.mn) ?_;rintro _ wz ⟨hz,bj⟩;refine D ?_;refine W ?_;refine Zk rfl rfl rfl bj rfl ?_;have hf:=gm.fin (y:=(.mk 10 0 Z1a[q] [y0])) bz bC hy hz;exact .mk ⟨_,_,hf.1,.adj _ _ _ (Xd cD) g0,hf.2.1,by omega,hf.2.2⟩;refine Jb rfl trivial (Z0 (vs:=[(0,.agg #[.I y0.kind,.I y0.num,str y0.word,.slice p0 y0.kids.length c0])]) rfl (Z2H _ _ _ _ _ _)) (λ_ _ h=>(Z5.stp h).mn) rfl ?_;rintro bv wq hN;have an:SlV (b4 :: bm :: X) wq bv [y0]:=hN.slvG (css:=[ndC y0 _]) gm.hX rfl rfl rfl (Z9p s0) (by simp [maxLen]);have hT:=Z5.stp hN;clear hN;replace gm:=gm.up hT;clear hT;refine Z4I [(0,2),(3,0),(4,1),(10,2),(11,2)] (by kernel_rfl) (by kernel_rfl) (by kernel_rfl) ?_;refine Za rfl trivial (Z0 (vs:=[(0,str [110,101,120,116]),(1,str [112,114,101,118])]) rfl (bS2 _ _)) (λ_ _ h=>(Z5.stp h).mn) rfl ?_;rintro wv wq hN;have aS:SlV [b4,bm] wq wv Z1a:=hN.slv (λc hc=>gm.hX c (by simp at hc;rcases hc with rfl|rfl<;>simp)) rfl rfl (by decide);have hT:=Z5.stp hN;clear hN;replace gm:=gm.up hT;replace an:=an.up hT;clear hT;refine D ?_;refine D ?_;refine D ?_;refine Za rfl trivial (Z6 rfl (ZY rfl rfl rfl) (Zr (b4 :: bm :: X) 10 Z1a[q] bv [y0] _ gm.hX an)) (λ_ _ h=>h.2.mn) rfl ?_;rintro _ wq ⟨⟨ky,rfl,hy⟩,hT⟩;replace gm:=gm.up hT;clear hT an;refine D ?_;obtain ⟨cs,aL,aV⟩:=gm.blk;refine ZF rfl trivial (Zb (us:=ndC (.mk 10 0 Z1a[q] [y0]) _) rfl rfl rfl rfl (Zi (x:=(.mk 10 0 Z1a[q] [y0])) hy) aV aL.symm) (λ_ _ h=>h.1.mn) ?_;rintro _ wz ⟨hz,bj⟩;refine D ?_;refine W ?_;refine Zk rfl rfl rfl bj rfl ?_;have hf:=gm.fin (y:=(.mk 10 0 Z1a[q] [y0])) bz bC hy hz;exact .mk ⟨_,_,hf.1,.adj _ _ _ (Xd cD) g0,hf.2.1,by omega,hf.2.2⟩;by_cases k5:k=5;obtain ⟨e,rfl⟩:∃ e,d=e+1:=⟨d - 1,by omega⟩
 replace ih:=ih e rfl;have bD:=Z1o e;refine QO ?_;refine W ?_;refine Z1 (Z6 rfl (Zg rfl rfl) ((ih.2.2) (b4 :: bm :: X) _ bm lv l _ _ (by omega) gm.mkr gm.sl hl (by omega) gm.hX)) rfl ?_;rintro _ wq ⟨y0,i0,⟨k0,rfl,s0⟩,g0,hm,fx,hS⟩;obtain ⟨p0,c0,rfl,-⟩:=id s0;replace gm:=gm.nxt hm hS;clear hm hS;refine Z1 Z2 rfl ?_;rintro _ wq ⟨b0',rfl,bB,e0,hT⟩;refine SB (us:=ndC y0 _) (Zi s0) e0 ?_;rintro _ wq ⟨aq,e0⟩;replace hT:=JN hT bB aq;clear aq;have n0:b0'≠bm:=λh=>by have:=gm.mkr.lt;omega
 have n0':b0'≠b4:=λh=>by obtain ⟨_,_,hc⟩:=gm.blk;have:=hc.lt;omega
 replace gm:=gm.up hT;replace s0:=s0.up hT;clear hT bB;refine W ?_;refine Z4o 13 [b4,bm] [] rfl mixed (λw1 ae=>?_);have hT:=ae;replace gm:=gm.up hT;replace s0:=s0.up hT;replace e0:=e0.up hT;clear hT ae;refine JY 1 rfl trivial (λw'=>ZZ rfl) rfl (by kernel_rfl) (by kernel_rfl) ?_;refine Zax 5 rfl trivial (λw' aU=>J2 rfl rfl (e0.ext aU (by simp;exact ⟨n0',n0⟩)) rfl) rfl (by kernel_rfl) (by kernel_rfl) ?_;refine JY 6 rfl trivial (λw'=>ZZ rfl) rfl (by kernel_rfl) (by kernel_rfl) ?_;refine JY 7 rfl trivial (λw'=>ZZ rfl) rfl (by kernel_rfl) (by kernel_rfl) ?_;refine JY 8 rfl trivial (λw'=>Z66 rfl rfl (by unfold I64;omega)) rfl (by kernel_rfl) (by kernel_rfl) ?_;refine Z1D 0 2 (by kernel_rfl) ?_ ?_;refine Jb rfl trivial (Z0 (vs:=[(0,str [108,97,116,101,114]),(1,str [101,97,114,108,105,101,114])]) rfl (bS2 _ _)) (λ_ _ h=>(Z5.stp h).mn) rfl ?_;rintro wv wq hN;have aS:SlV [b4,bm] wq wv Z1b:=hN.slv (λc hc=>gm.hX c (by simp at hc;rcases hc with rfl|rfl<;>simp)) rfl rfl (by decide);have hT:=Z5.stp hN;clear hN;replace gm:=gm.up hT;replace s0:=s0.up hT;replace e0:=e0.up hT;clear hT;refine Z4I [(2,2),(3,0),(4,1),(9,2),(10,2),(11,2),(12,2)] (by kernel_rfl) (by kernel_rfl) (by kernel_rfl) ?_;refine Za rfl trivial (Z6 rfl (Zg rfl rfl) (Zv bm lv l _ 2 _ (by decide) (by omega) gm.mkr gm.sl hl)) (λ_ _ h=>h.choose_spec.2.2.2.mn) rfl ?_;rintro _ wq ⟨q,rfl,hq,hm,hS⟩;replace gm:=gm.nxt hm hS;replace s0:=s0.ext hS (by simp) (λ_ h=>.inl h);replace e0:=e0.ext hS (by simp;exact n0);replace aS:=aS.ext hS (by simp) (λ_ h=>.inl h);clear hm hS;have cD:q<Z1b.length:=by show q<2;omega
 refine D ?_;refine Za rfl trivial (Z6 rfl (Zg rfl rfl) ((ih.2.2) (b4 :: bm :: X) _ bm lv l _ _ (by omega) gm.mkr gm.sl hl (by omega) gm.hX)) (λ_ _ h=>by obtain ⟨_,_,_,_,_,_,h⟩:=h;exact h.mn) rfl ?_;rintro _ wq ⟨y1,i1,⟨k1,rfl,s1⟩,g1,hm,bJ,hS⟩;obtain ⟨p1,c1,rfl,-⟩:=id s1;replace gm:=gm.nxt hm hS;replace s0:=s0.ext hS (by simp) (λ_ h=>.inl h);replace e0:=e0.ext hS (by simp;exact n0);replace aS:=aS.ext hS (by simp) (λ_ h=>.inl h);clear hm hS;refine D ?_;refine Za rfl trivial (Z0 (vs:=[(0,.agg #[.I y0.kind,.I y0.num,str y0.word,.slice p0 y0.kids.length c0]),(1,.agg #[.I y1.kind,.I y1.num,str y1.word,.slice p1 y1.kids.length c1])]) rfl (Jr _ _ _ _ _ _ _ _ _ _ _ _)) (λ_ _ h=>(Z5.stp h).mn) rfl ?_;rintro bv wq hN;have an:SlV (b4 :: bm :: X) wq bv [y0,y1]:=hN.slvG (css:=[ndC y0 _,ndC y1 _]) gm.hX rfl rfl rfl (Z1t s0 s1) (by simp [maxLen]);have hT:=Z5.stp hN;clear hN;replace gm:=gm.up hT;replace aS:=aS.up hT;clear hT;refine D ?_;refine Za rfl trivial (Z6 rfl (ZY rfl rfl rfl) (Zr (b4 :: bm :: X) 10 Z1b[q] bv [y0,y1] _ gm.hX an)) (λ_ _ h=>h.2.mn) rfl ?_;rintro _ wq ⟨⟨ky,rfl,hy⟩,hT⟩;replace gm:=gm.up hT;clear hT an;refine D ?_;obtain ⟨cs,aL,aV⟩:=gm.blk;refine ZF rfl trivial (Zb (us:=ndC (.mk 10 0 Z1b[q] [y0,y1]) _) rfl rfl rfl rfl (Zi (x:=(.mk 10 0 Z1b[q] [y0,y1])) hy) aV aL.symm) (λ_ _ h=>h.1.mn) ?_;rintro _ wz ⟨hz,bj⟩;refine D ?_;refine W ?_;refine Zk rfl rfl rfl bj rfl ?_;have hf:=gm.fin (y:=(.mk 10 0 Z1b[q] [y0,y1])) bz bC hy hz;exact .mk ⟨_,_,hf.1,.two _ _ _ _ (Xd cD) g0 g1,hf.2.1,by omega,hf.2.2⟩;refine Jb rfl trivial (Z6 rfl (Zg rfl rfl) (Zv bm lv l _ 2 _ (by decide) (by omega) gm.mkr gm.sl hl)) (λ_ _ h=>h.choose_spec.2.2.2.mn) rfl ?_;rintro _ wq ⟨q,rfl,hq,hm,hS⟩;replace gm:=gm.nxt hm hS;replace s0:=s0.ext hS (by simp) (λ_ h=>.inl h);replace e0:=e0.ext hS (by simp;exact n0);clear hm hS;have cD:q<Z1b.length:=by show q<2;omega
 refine Z1D 0 9 (by kernel_rfl) ?_ ?_;refine Jb rfl trivial (Z0 (vs:=[(0,str [108,97,116,101,114]),(1,str [101,97,114,108,105,101,114])]) rfl (bS2 _ _)) (λ_ _ h=>(Z5.stp h).mn) rfl ?_;rintro wv wq hN;have aS:SlV [b4,bm] wq wv Z1b:=hN.slv (λc hc=>gm.hX c (by simp at hc;rcases hc with rfl|rfl<;>simp)) rfl rfl (by decide);have hT:=Z5.stp hN;clear hN;replace gm:=gm.up hT;replace s0:=s0.up hT;replace e0:=e0.up hT;clear hT;refine Z4I [(3,0),(4,1),(9,2),(10,2),(11,2),(12,2)] (by kernel_rfl) (by kernel_rfl) (by kernel_rfl) ?_;refine D ?_;refine Za rfl trivial (Z6 rfl (Zg rfl rfl) ((ih.2.2) (b4 :: bm :: X) _ bm lv l _ _ (by omega) gm.mkr gm.sl hl (by omega) gm.hX)) (λ_ _ h=>by obtain ⟨_,_,_,_,_,_,h⟩:=h;exact h.mn) rfl ?_;rintro _ wq ⟨y1,i1,⟨k1,rfl,s1⟩,g1,hm,bJ,hS⟩;obtain ⟨p1,c1,rfl,-⟩:=id s1;replace gm:=gm.nxt hm hS;replace s0:=s0.ext hS (by simp) (λ_ h=>.inl h);replace e0:=e0.ext hS (by simp;exact n0);replace aS:=aS.ext hS (by simp) (λ_ h=>.inl h);clear hm hS;refine D ?_;refine Za rfl trivial (Z0 (vs:=[(0,.agg #[.I y0.kind,.I y0.num,str y0.word,.slice p0 y0.kids.length c0]),(1,.agg #[.I y1.kind,.I y1.num,str y1.word,.slice p1 y1.kids.length c1])]) rfl (Jr _ _ _ _ _ _ _ _ _ _ _ _)) (λ_ _ h=>(Z5.stp h).mn) rfl ?_;rintro bv wq hN;have an:SlV (b4 :: bm :: X) wq bv [y0,y1]:=hN.slvG (css:=[ndC y0 _,ndC y1 _]) gm.hX rfl rfl rfl (Z1t s0 s1) (by simp [maxLen]);have hT:=Z5.stp hN;clear hN;replace gm:=gm.up hT;replace aS:=aS.up hT;clear hT;refine D ?_;refine Za rfl trivial (Z6 rfl (ZY rfl rfl rfl) (Zr (b4 :: bm :: X) 10 Z1b[q] bv [y0,y1] _ gm.hX an)) (λ_ _ h=>h.2.mn) rfl ?_;rintro _ wq ⟨⟨ky,rfl,hy⟩,hT⟩;replace gm:=gm.up hT;clear hT an;refine D ?_;obtain ⟨cs,aL,aV⟩:=gm.blk;refine ZF rfl trivial (Zb (us:=ndC (.mk 10 0 Z1b[q] [y0,y1]) _) rfl rfl rfl rfl (Zi (x:=(.mk 10 0 Z1b[q] [y0,y1])) hy) aV aL.symm) (λ_ _ h=>h.1.mn) ?_;rintro _ wz ⟨hz,bj⟩;refine D ?_;refine W ?_;refine Zk rfl rfl rfl bj rfl ?_;have hf:=gm.fin (y:=(.mk 10 0 Z1b[q] [y0,y1])) bz bC hy hz;exact .mk ⟨_,_,hf.1,.two _ _ _ _ (Xd cD) g0 g1,hf.2.1,by omega,hf.2.2⟩;refine Jb rfl trivial (Z6 rfl (Zg rfl rfl) ((ih.2.2) (b4 :: bm :: X) _ bm lv l _ _ (by omega) gm.mkr gm.sl hl (by omega) gm.hX)) (λ_ _ h=>by obtain ⟨_,_,_,_,_,_,h⟩:=h;exact h.mn) rfl ?_;rintro _ wq ⟨y1,i1,⟨k1,rfl,s1⟩,g1,hm,bJ,hS⟩;obtain ⟨p1,c1,rfl,-⟩:=id s1;replace gm:=gm.nxt hm hS;replace s0:=s0.ext hS (by simp) (λ_ h=>.inl h);replace e0:=e0.ext hS (by simp;exact n0);clear hm hS;refine Z1D 0 10 (by kernel_rfl) ?_ ?_;refine Jb rfl trivial (Z0 (vs:=[(0,str [108,97,116,101,114]),(1,str [101,97,114,108,105,101,114])]) rfl (bS2 _ _)) (λ_ _ h=>(Z5.stp h).mn) rfl ?_;rintro wv wq hN;have aS:SlV [b4,bm] wq wv Z1b:=hN.slv (λc hc=>gm.hX c (by simp at hc;rcases hc with rfl|rfl<;>simp)) rfl rfl (by decide);have hT:=Z5.stp hN;clear hN;replace gm:=gm.up hT;replace s0:=s0.up hT;replace e0:=e0.up hT;replace s1:=s1.up hT;clear hT;refine Z4I [(3,0),(4,1),(10,2),(11,2),(12,2)] (by kernel_rfl) (by kernel_rfl) (by kernel_rfl) ?_;refine D ?_;refine D ?_;refine Za rfl trivial (Z0 (vs:=[(0,.agg #[.I y0.kind,.I y0.num,str y0.word,.slice p0 y0.kids.length c0]),(1,.agg #[.I y1.kind,.I y1.num,str y1.word,.slice p1 y1.kids.length c1])]) rfl (Jr _ _ _ _ _ _ _ _ _ _ _ _)) (λ_ _ h=>(Z5.stp h).mn) rfl ?_;rintro bv wq hN;have an:SlV (b4 :: bm :: X) wq bv [y0,y1]:=hN.slvG (css:=[ndC y0 _,ndC y1 _]) gm.hX rfl rfl rfl (Z1t s0 s1) (by simp [maxLen]);have hT:=Z5.stp hN;clear hN;replace gm:=gm.up hT;replace aS:=aS.up hT;clear hT;refine D ?_;refine Za rfl trivial (Z6 rfl (ZY rfl rfl rfl) (Zr (b4 :: bm :: X) 10 Z1b[q] bv [y0,y1] _ gm.hX an)) (λ_ _ h=>h.2.mn) rfl ?_;rintro _ wq ⟨⟨ky,rfl,hy⟩,hT⟩;replace gm:=gm.up hT;clear hT an;refine D ?_;obtain ⟨cs,aL,aV⟩:=gm.blk;refine ZF rfl trivial (Zb (us:=ndC (.mk 10 0 Z1b[q] [y0,y1]) _) rfl rfl rfl rfl (Zi (x:=(.mk 10 0 Z1b[q] [y0,y1])) hy) aV aL.symm) (λ_ _ h=>h.1.mn) ?_;rintro _ wz ⟨hz,bj⟩;refine D ?_;refine W ?_;refine Zk rfl rfl rfl bj rfl ?_;have hf:=gm.fin (y:=(.mk 10 0 Z1b[q] [y0,y1])) bz bC hy hz;exact .mk ⟨_,_,hf.1,.two _ _ _ _ (Xd cD) g0 g1,hf.2.1,by omega,hf.2.2⟩;refine Jb rfl trivial (Z0 (vs:=[(0,.agg #[.I y0.kind,.I y0.num,str y0.word,.slice p0 y0.kids.length c0]),(1,.agg #[.I y1.kind,.I y1.num,str y1.word,.slice p1 y1.kids.length c1])]) rfl (Jr _ _ _ _ _ _ _ _ _ _ _ _)) (λ_ _ h=>(Z5.stp h).mn) rfl ?_;rintro bv wq hN;have an:SlV (b4 :: bm :: X) wq bv [y0,y1]:=hN.slvG (css:=[ndC y0 _,ndC y1 _]) gm.hX rfl rfl rfl (Z1t s0 s1) (by simp [maxLen]);have hT:=Z5.stp hN;clear hN;replace gm:=gm.up hT;clear hT;refine Z4I [(0,2),(3,0),(4,1),(11,2),(12,2)] (by kernel_rfl) (by kernel_rfl) (by kernel_rfl) ?_;refine Za rfl trivial (Z0 (vs:=[(0,str [108,97,116,101,114]),(1,str [101,97,114,108,105,101,114])]) rfl (bS2 _ _)) (λ_ _ h=>(Z5.stp h).mn) rfl ?_;rintro wv wq hN;have aS:SlV [b4,bm] wq wv Z1b:=hN.slv (λc hc=>gm.hX c (by simp at hc;rcases hc with rfl|rfl<;>simp)) rfl rfl (by decide);have hT:=Z5.stp hN;clear hN;replace gm:=gm.up hT;replace an:=an.up hT;clear hT;refine D ?_;refine D ?_;refine D ?_;refine Za rfl trivial (Z6 rfl (ZY rfl rfl rfl) (Zr (b4 :: bm :: X) 10 Z1b[q] bv [y0,y1] _ gm.hX an)) (λ_ _ h=>h.2.mn) rfl ?_;rintro _ wq ⟨⟨ky,rfl,hy⟩,hT⟩;replace gm:=gm.up hT;clear hT an;refine D ?_;obtain ⟨cs,aL,aV⟩:=gm.blk;refine ZF rfl trivial (Zb (us:=ndC (.mk 10 0 Z1b[q] [y0,y1]) _) rfl rfl rfl rfl (Zi (x:=(.mk 10 0 Z1b[q] [y0,y1])) hy) aV aL.symm) (λ_ _ h=>h.1.mn) ?_;rintro _ wz ⟨hz,bj⟩;refine D ?_;refine W ?_;refine Zk rfl rfl rfl bj rfl ?_;have hf:=gm.fin (y:=(.mk 10 0 Z1b[q] [y0,y1])) bz bC hy hz;exact .mk ⟨_,_,hf.1,.two _ _ _ _ (Xd cD) g0 g1,hf.2.1,by omega,hf.2.2⟩;by_cases k6:k=6;obtain ⟨e,rfl⟩:∃ e,d=e+1:=⟨d - 1,by omega⟩
 replace ih:=ih e rfl;have bD:=Z1o e;refine QO ?_;refine W ?_;refine Z1 (Z6 rfl (Zg rfl rfl) ((ih.2.1) (b4 :: bm :: X) _ bm lv l _ _ (by omega) gm.mkr gm.sl hl (by omega) gm.hX)) rfl ?_;rintro _ wq ⟨y0,i0,⟨k0,rfl,s0⟩,g0,hm,fx,hS⟩;obtain ⟨p0,c0,rfl,-⟩:=id s0;replace gm:=gm.nxt hm hS;clear hm hS;refine Z1 Z2 rfl ?_;rintro _ wq ⟨b0',rfl,bB,e0,hT⟩;refine SB (us:=ndC y0 _) (Zi s0) e0 ?_;rintro _ wq ⟨aq,e0⟩;replace hT:=JN hT bB aq;clear aq;have n0:b0'≠bm:=λh=>by have:=gm.mkr.lt;omega
 have n0':b0'≠b4:=λh=>by obtain ⟨_,_,hc⟩:=gm.blk;have:=hc.lt;omega
 replace gm:=gm.up hT;replace s0:=s0.up hT;clear hT bB;refine W ?_;refine Z1 (Z6 rfl (Zg rfl rfl) ((ih.2.2) (b4 :: bm :: X) _ bm lv l _ _ (by omega) gm.mkr gm.sl hl (by omega) gm.hX)) rfl ?_;rintro _ wq ⟨y1,i1,⟨k1,rfl,s1⟩,g1,hm,bJ,hS⟩;obtain ⟨p1,c1,rfl,-⟩:=id s1;replace gm:=gm.nxt hm hS;replace s0:=s0.ext hS (by simp) (λ_ h=>.inl h);replace e0:=e0.ext hS (by simp;exact n0);clear hm hS;refine Z1 Z2 rfl ?_;rintro _ wq ⟨b1',rfl,iq,e1,hT⟩;refine SB (us:=ndC y1 _) (Zi s1) e1 ?_;rintro _ wq ⟨aq,e1⟩;replace hT:=JN hT iq aq;clear aq;have n1:b1'≠bm:=λh=>by have:=gm.mkr.lt;omega
 have n1':b1'≠b4:=λh=>by obtain ⟨_,_,hc⟩:=gm.blk;have:=hc.lt;omega
 replace gm:=gm.up hT;replace s0:=s0.up hT;replace e0:=e0.up hT;replace s1:=s1.up hT;clear hT iq;refine W ?_;refine ZDr 9 ([b4,bm]) [] [(0,1),(1,1),(2,0),(3,0),(4,0),(5,2),(6,2),(7,2),(8,2)] (λw1 ae=>?_);have hT:=ae;replace gm:=gm.up hT;replace s0:=s0.up hT;replace e0:=e0.up hT;replace s1:=s1.up hT;replace e1:=e1.up hT;clear hT ae;refine J7 rfl trivial (λw' aU=>J2 rfl rfl (e0.ext aU (by simp;exact ⟨n0',n0⟩)) rfl) rfl ?_;refine J7 rfl trivial (λw' aU=>J2 rfl rfl (e1.ext aU (by simp;exact ⟨n1',n1⟩)) rfl) rfl ?_;refine D ?_;refine Za rfl trivial (Z6 rfl (Zg rfl rfl) ((ih.2.2) (b4 :: bm :: X) _ bm lv l _ _ (by omega) gm.mkr gm.sl hl (by omega) gm.hX)) (λ_ _ h=>by obtain ⟨_,_,_,_,_,_,h⟩:=h;exact h.mn) rfl ?_;rintro _ wq ⟨y2,i2,⟨k2,rfl,s2⟩,g2,hm,cp,hS⟩;obtain ⟨p2,c2,rfl,-⟩:=id s2;replace gm:=gm.nxt hm hS;replace s0:=s0.ext hS (by simp) (λ_ h=>.inl h);replace e0:=e0.ext hS (by simp;exact n0);replace s1:=s1.ext hS (by simp) (λ_ h=>.inl h);replace e1:=e1.ext hS (by simp;exact n1);clear hm hS;refine D ?_;refine Za rfl trivial (Z0 (vs:=[(0,.agg #[.I y0.kind,.I y0.num,str y0.word,.slice p0 y0.kids.length c0]),(1,.agg #[.I y1.kind,.I y1.num,str y1.word,.slice p1 y1.kids.length c1]),(2,.agg #[.I y2.kind,.I y2.num,str y2.word,.slice p2 y2.kids.length c2])]) rfl (ZbK _ _ _ _ _ _ _ _ _ _ _ _ _ _ _ _ _ _)) (λ_ _ h=>(Z5.stp h).mn) rfl ?_;rintro bv wq hN;have an:SlV (b4 :: bm :: X) wq bv [y0,y1,y2]:=hN.slvG (css:=[ndC y0 _,ndC y1 _,ndC y2 _]) gm.hX rfl rfl rfl (Zo3 s0 s1 s2) (by simp [maxLen]);have hT:=Z5.stp hN;clear hN;replace gm:=gm.up hT;clear hT;refine D ?_;refine Za rfl trivial (Z6 rfl (ZY rfl rfl rfl) (Zr (b4 :: bm :: X) 9 [] bv [y0,y1,y2] _ gm.hX an)) (λ_ _ h=>h.2.mn) rfl ?_;rintro _ wq ⟨⟨ky,rfl,hy⟩,hT⟩;replace gm:=gm.up hT;clear hT an;refine D ?_;obtain ⟨cs,aL,aV⟩:=gm.blk;refine ZF rfl trivial (Zb (us:=ndC (.mk 9 0 [] [y0,y1,y2]) _) rfl rfl rfl rfl (Zi (x:=(.mk 9 0 [] [y0,y1,y2])) hy) aV aL.symm) (λ_ _ h=>h.1.mn) ?_;rintro _ wz ⟨hz,bj⟩;refine D ?_;refine W ?_;refine Zk rfl rfl rfl bj rfl ?_;have hf:=gm.fin (y:=(.mk 9 0 [] [y0,y1,y2])) bz bC hy hz;exact .mk ⟨_,_,hf.1,.cond _ _ _ _ _ (by decide) g0 g1 g2,hf.2.1,by omega,hf.2.2⟩;obtain ⟨e,rfl⟩:∃ e,d=e+1:=⟨d - 1,by omega⟩
 replace ih:=ih e rfl;have bD:=Z1o e;refine QO ?_;refine W ?_;refine Z1 (Z6 rfl (Zg rfl rfl) ((ih.2.2) (b4 :: bm :: X) _ bm lv l _ _ (by omega) gm.mkr gm.sl hl (by omega) gm.hX)) rfl ?_;rintro _ wq ⟨y0,i0,⟨k0,rfl,s0⟩,g0,hm,fx,hS⟩;obtain ⟨p0,c0,rfl,-⟩:=id s0;replace gm:=gm.nxt hm hS;clear hm hS;refine Z1 Z2 rfl ?_;rintro _ wq ⟨b0',rfl,bB,e0,hT⟩;refine SB (us:=ndC y0 _) (Zi s0) e0 ?_;rintro _ wq ⟨aq,e0⟩;replace hT:=JN hT bB aq;clear aq;have n0:b0'≠bm:=λh=>by have:=gm.mkr.lt;omega
 have n0':b0'≠b4:=λh=>by obtain ⟨_,_,hc⟩:=gm.blk;have:=hc.lt;omega
 replace gm:=gm.up hT;replace s0:=s0.up hT;clear hT bB;refine W ?_;refine Z1 (Z0 (vs:=[(0,str [100,97,121,115]),(1,str [100,97,121,115]),(2,str [99,111,117,114,116,100,97,121,115]),(3,str [119,101,101,107,115]),(4,str [109,111,110,116,104,115])]) rfl (bS5 _ _ _ _ _)) rfl ?_;rintro wv wq hN;have aS:SlV [b4,bm] wq wv Z59:=hN.slv (λc hc=>gm.hX c (by simp at hc;rcases hc with rfl|rfl<;>simp)) rfl rfl (by decide);have hT:=Z5.stp hN;clear hN;replace gm:=gm.up hT;replace s0:=s0.up hT;replace e0:=e0.up hT;clear hT;refine W ?_;refine Z1 (Z6 rfl (Zg rfl rfl) (Zv bm lv l _ 5 _ (by decide) (by omega) gm.mkr gm.sl hl)) rfl ?_;rintro _ wq ⟨q',rfl,gB,hm,hS⟩;replace gm:=gm.nxt hm hS;replace s0:=s0.ext hS (by simp) (λ_ h=>.inl h);replace e0:=e0.ext hS (by simp;exact n0);replace aS:=aS.ext hS (by simp) (λ_ h=>.inl h);clear hm hS;have cD:q'<Z59.length:=by show q'<5;omega
 have hu:=ZdK _ (Xd cD);refine W ?_;clear aS;refine ZDr 13 ([b4,bm]) [] [(0,0),(4,0),(5,1),(6,0),(7,0),(8,0),(1,2),(2,0),(3,0),(9,2),(10,2),(11,2),(12,2)] (λw1 ae=>?_);have hT:=ae;replace gm:=gm.up hT;replace s0:=s0.up hT;replace e0:=e0.up hT;clear hT ae;refine D ?_;refine Za rfl trivial (Z6 rfl (Zg rfl rfl) (Zv bm lv l _ 4 _ (by decide) (by omega) gm.mkr gm.sl hl)) (λ_ _ h=>h.choose_spec.2.2.2.mn) rfl ?_;rintro _ wq ⟨q4,rfl,oq,hm,hS⟩;replace gm:=gm.nxt hm hS;replace s0:=s0.ext hS (by simp) (λ_ h=>.inl h);replace e0:=e0.ext hS (by simp;exact n0);clear hm hS;refine D ?_;refine Za rfl trivial (Z6 rfl (Zg rfl rfl) ((ih.1) (b4 :: bm :: X) _ bm lv l _ _ (by omega) gm.mkr gm.sl hl (by omega) gm.hX)) (λ_ _ h=>by obtain ⟨_,_,_,_,_,_,h⟩:=h;exact h.mn) rfl ?_;rintro _ wq ⟨y1,i1,⟨k1,rfl,s1⟩,g1,hm,bJ,hS⟩;obtain ⟨p1,c1,rfl,-⟩:=id s1;replace gm:=gm.nxt hm hS;replace s0:=s0.ext hS (by simp) (λ_ h=>.inl h);replace e0:=e0.ext hS (by simp;exact n0);clear hm hS;refine D ?_;refine Za rfl trivial (Z0 (vs:=[(0,.agg #[.I y0.kind,.I y0.num,str y0.word,.slice p0 y0.kids.length c0]),(1,.agg #[.I y1.kind,.I y1.num,str y1.word,.slice p1 y1.kids.length c1])]) rfl (Jr _ _ _ _ _ _ _ _ _ _ _ _)) (λ_ _ h=>(Z5.stp h).mn) rfl ?_;rintro bv wq hN;have an:SlV (b4 :: bm :: X) wq bv [y0,y1]:=hN.slvG (css:=[ndC y0 _,ndC y1 _]) gm.hX rfl rfl rfl (Z1t s0 s1) (by simp [maxLen]);have hT:=Z5.stp hN;clear hN;replace gm:=gm.up hT;clear hT;refine D ?_;refine Za rfl trivial (Z6 rfl (ZY rfl rfl rfl) (Zr (b4 :: bm :: X) (7+(q4:Int) / 3) Z59[q'] bv [y0,y1] _ gm.hX an)) (λ_ _ h=>h.2.mn) rfl ?_;rintro _ wq ⟨⟨ky,rfl,hy⟩,hT⟩;replace gm:=gm.up hT;clear hT an;refine D ?_;obtain ⟨cs,aL,aV⟩:=gm.blk;refine ZF rfl trivial (Zb (us:=ndC (.mk (7+(q4:Int) / 3) 0 Z59[q'] [y0,y1]) _) rfl rfl rfl rfl (Zi (x:=(.mk (7+(q4:Int) / 3) 0 Z59[q'] [y0,y1])) hy) aV aL.symm) (λ_ _ h=>h.1.mn) ?_;rintro _ wz ⟨hz,bj⟩;refine D ?_;refine W ?_;refine Zk rfl rfl rfl bj rfl ?_;have hf:=gm.fin (y:=(.mk (7+(q4:Int) / 3) 0 Z59[q'] [y0,y1])) bz bC hy hz;exact .mk ⟨_,_,hf.1,.move _ _ _ _ _ (by omega) hu g0 g1,hf.2.1,by omega,hf.2.2⟩
end Go.Proofs.YtipfkbkkndacjaaGreatDoor
namespace Go.Eng
open Go Go.RowKit Go.Proofs
def PQ (n:Nat) (Q:Exit->Act->World->Prop):Exit->Act->World->Prop
 | .panic ch,a,w=>Has n [] a/\∀ a',Has n [] a'->Q (.panic ch) a' w
 | _,_,_=>False
theorem Has.put_back {n:Nat} {a:Act} {d:Option Nat} {v:Value} (h:Has n [] (a.put d v)):Has n [] a:=by
 cases d with
 | none=>exact h
 | some d=>exact ⟨h.defers,by simpa [Act.put] using h.size,λt v hv=>by simp [look] at hv⟩
theorem ZdL {n:Nat} {Q:Exit->Act->World->Prop} (a:Act) (w):¬ PQ n Q .outgrown a w:=λh=>h
theorem Zj8 {n:Nat} {Q:Exit->Act->World->Prop} (ch:List PanicEntry) (a:Act) (d:Option Nat) (v:Value) (w) (h:PQ n Q (.panic ch) (a.put d v) w):PQ n Q (.panic ch) a w:=⟨h.1.put_back,h.2⟩
theorem ZsD {n:Nat} {Q:Exit->Act->World->Prop} (ex:Exit) (a:Act) (w) (h:PQ n Q ex a w):Q ex a w:=by
 cases ex<;>first|exact h.2 a h.1|exact h.elim
theorem ZsE {P:Program} {o:Oper} {a:Act} {w} {K:Act->World->Prop} {X Q:Exit->Act->World->Prop} (gk:∀ a w,¬ X .outgrown a w) (hX:∀ ex a w,X ex a w->Q ex a w) (h:o.wp P a w K X):o.wp P a w K Q:=by
 unfold Oper.wp at *;generalize (execOp a.eval o).run P w=r at *;cases r with
 | ok n w'=>
   cases n<;>simp only [Oper.upon] at h ⊢
   case enter f args=>
    refine Calls.mono h (λe w'' he=>?_);cases e with
    | returned v=>exact he
    | panicked c=>exact hX _ _ _ he
    | outgrown=>obtain ⟨_,_,hf⟩:=he;exact (gk _ _ hf).elim
   all_goals exact h
 | halt x w'=>cases x<;>simp only [Oper.upon] at h ⊢;exact hX _ _ _ h
theorem Zj9 {P:Program} {ops:Array Oper} {i:Nat} {K:Act->World->Prop} {X Q:Exit->Act->World->Prop} (gk:∀ a w,¬ X .outgrown a w) (hX:∀ ex a w,X ex a w->Q ex a w) {a:Act} {w} (h:wpOp P ops X i K a w):wpOp P ops Q i K a w:=by
 unfold wpOp at *;cases ho:ops[i]? with
 | none=>simp only [ho] at h ⊢;exact h
 | some o=>
   simp only [ho] at h ⊢;split;rename_i hw;simp only [hw,if_true] at h;rcases h with h|⟨_,_,_,hf⟩
   exact .inl (ZsE gk hX h);exact (gk _ _ hf).elim;rename_i hw;simp only [hw] at h;exact h
def Z1p (P:Program) (X:Exit->Act->World->Prop) (md:Region.Mode) (ops:Array Oper) (S:List Nat) (Lt:Nat->Bool) (Z:Act->World->Prop):Nat->Array Bool->Act->World->Prop
 | 0,listed,a,w=>Region.ready md ops listed=[]/\Z a w
 | fuel + 1, listed, a, w=>
   (Region.ready md ops listed=[]->Z a w)/\
   ∀ i∈Region.ready md ops listed,wpOp P ops X i (λa' w'=>(Stp S w w'\/Lt i=true)/\Z1p P X md ops S Lt Z fuel (listed.setIfInBounds i true) a' w') a w
theorem Z6W {P:Program} {ops:Array Oper} {md:Region.Mode} {S:List Nat} {Lt:Nat->Bool} {X Q:Exit->Act->World->Prop} (gk:∀ a w,¬ X .outgrown a w) (hX:∀ ex a w,X ex a w->Q ex a w) {Z:Act->World->Prop} (hZ:∀ a w,Z a w->Q .normal a w):∀ (fuel:Nat) (listed:Array Bool) (a:Act) (w),
 Z1p P X md ops S Lt Z fuel listed a w->wpAny P md ops Q fuel listed a w
 | 0,_,_,_,h=>⟨h.1,hZ _ _ h.2⟩
 | fuel+1,_,_,_,h=>⟨λh0=>hZ _ _ (h.1 h0),λi hi=>wpOp_mono (λa' w' hk=>Z6W gk hX hZ fuel _ a' w' hk.2) (Zj9 gk hX (h.2 i hi))⟩
section any
variable {P:Program} {ops:Array Oper} {md:Region.Mode} {S:List Nat} {Lt:Nat->Bool}
theorem ZbL {X:Exit->Act->World->Prop} (gk:∀ a w,¬ X .outgrown a w) (ot:∀ ch a d v w,X (.panic ch) (Act.put a d v) w->X (.panic ch) a w) {Z:Act->World->Prop} {R:World->World->Prop} (jF:∀ w,R w w) (mj:∀ a b c,R a b->R b c->R a c) {i:Nat} {oi:Oper} {v:Value} (hi:ops[i]?=some oi)
 (ml:∀ j oj,ops[j]?=some oj->(∀ e∈oj.after,Region.binds md e=true->e.on≠i)->j≠i->∀ w w',(Stp S w w'\/Lt j=true)->R w w')
 (eV:∀ (j:Nat) (o:Oper) cs b,ops[j]?=some o->o.op≠.select cs b) :
 ∀ (fuel : Nat) (listed : Array Bool) (a : Act) (w),
   (∀ j oj,ops[j]?=some oj->j≠i->listed.getD j true=false->(∀ e∈oj.after,Region.binds md e=true->e.on≠i)->oi.apart ops oj=true)->
   (Stp S w w\/Lt i=true->True)->i∈Region.ready md ops listed->YE P ops R oi v a w->
   Z1p P X md ops S Lt Z fuel (listed.setIfInBounds i true) (a.put oi.dst v) w->Z1p P X md ops S Lt Z (fuel+1) listed a w:=by
 have now:∀ (fuel:Nat) (listed:Array Bool) (a:Act) (w:World),YE P ops R oi v a w->Z1p P X md ops S Lt Z fuel (listed.setIfInBounds i true) (a.put oi.dst v) w->
  wpOp P ops X i (λa' w'=>(Stp S w w'\/Lt i=true)/\Z1p P X md ops S Lt Z fuel (listed.setIfInBounds i true) a' w') a w:=by
  intro fuel listed a w hy H;unfold wpOp;simp only [hi];rcases hy with ⟨hw,hv⟩|⟨hw,rfl⟩
  simp only [hw,if_true,Oper.wp,hv w (jF w),Oper.upon];exact .inl ⟨.inl (Stp.refl _ _),H⟩;simp only [hw,XO,if_false];exact ⟨.inl (Stp.refl _ _),H⟩
 intro fuel
 induction fuel with
 | zero=>
   intro listed a w _ _ hr hy H;refine ⟨λh=>(by rw [h] at hr;cases hr),λj hj=>?_⟩;by_cases cj:j=i;subst cj;exact now _ _ _ _ hy H;have:=ready_mono hj cj;rw [H.1] at this;cases this
 | succ fuel ih=>
   intro listed a w du hx hr hy H;refine ⟨λh=>(by rw [h] at hr;cases hr),λj hj=>?_⟩;by_cases cj:j=i;subst cj;exact now _ _ _ _ hy H;have h1:=H.2 j (ready_mono hj cj);obtain ⟨eW,oj,fZ,aB⟩:=mem_ready.1 hj;have eX:∀ e∈oj.after,Region.binds md e=true->e.on≠i:=λe he hb cZ=>by
    have h1:=aB e he hb;have h0:=(mem_ready.1 hr).1;rw [cZ] at h1;rcases Yaz i listed.size with h'|h'
    simp [h'] at h0 h1;rw [h0] at h1;cases h1;simp [Yah h'] at h1
   have hap:=du j oj fZ cj eW eX;obtain ⟨p1,p2,p3⟩:=Oper.apart_spec hap;have keep:∀ (a:Act),YE P ops R oi v a w->∀ u,YE P ops R oi v (a.put oj.dst u) w:=λa hy u=>
    hy.same (execOp_put oi (λcs b=>eV i oi cs b hi) a oj.dst u p3) (wanted_put oi a oj.dst u p3)
   have keepD:∀ (a:Act) d,YE P ops R oi v a w->YE P ops R oi v { a with defers:=d :: a.defers } w:=λa d hy=>hy.same rfl rfl;have later:∀ (a:Act) w',(Stp S w w'\/Lt j=true)->YE P ops R oi v a w->YE P ops R oi v a w':=λa w' hs hy=>by
    rcases hy with ⟨hw,hv⟩|hw
    exact .inl ⟨hw,λw'' h''=>hv w'' (mj _ _ _ (ml j oj fZ eX cj w w' hs) h'')⟩;exact .inr hw
   have dG:∀ k ok,ops[k]?=some ok->k≠i->(listed.setIfInBounds j true).getD k true=false->
    (∀ e∈ok.after,Region.binds md e=true->e.on≠i)->oi.apart ops ok=true:=λk ok hk gA jG bg=>by
    refine du k ok hk gA ?_ bg;by_cases ib:j=k;subst ib;exact eW;rw [getD_set_ne true ib] at jG;exact jG
   have fin:∀ a' w',YE P ops R oi v a' w->(Stp S w w'\/Lt j=true)/\Z1p P X md ops S Lt Z fuel ((listed.setIfInBounds i true).setIfInBounds j true) (a'.put oi.dst v) w'->
    (Stp S w w'\/Lt j=true)/\Z1p P X md ops S Lt Z (fuel+1) (listed.setIfInBounds j true) a' w':=by
    rintro a' w' ic ⟨hs,hk⟩;refine ⟨hs,ih _ a' w' dG (λ_=>trivial) (ready_mono hr (Ne.symm cj)) (later a' w' hs ic) ?_⟩;rw [Ya1 _ _ cj];exact hk
   have mm:∀ cs b,oj.op≠.select cs b:=λcs b=>eV j oj cs b fZ;unfold wpOp at *;simp only [fZ] at *;rw [wanted_put oj a oi.dst v p1] at h1;split
   . rename_i hw
     simp only [hw,if_true] at h1;rcases h1 with h1|⟨_,_,_,hf⟩
     case inr=>exact (gk _ _ hf).elim
     refine .inl ?_;unfold Oper.wp at *;rw [execOp_put oj mm a oi.dst v p1] at h1;generalize (execOp a.eval oj).run P w=r at *;cases r with
     | ok n w'=>
       cases n<;>simp only [Oper.upon] at h1 ⊢
       case value u=>exact fin _ _ (keep a hy u) (by rw [<- Act.put_comm a v u p2];exact h1)
       case skip=>exact fin _ _ (keep a hy _) (by rw [<- Act.put_comm a v undef p2];exact h1)
       case defer d=>
        refine fin _ _ (keep _ (keepD a d hy) _) ?_;rw [<- Act.put_comm _ v undef p2,<- Act.put_defers];exact h1
       case enter f args=>
        refine Calls.mono h1 λe w'' he=>?_;cases e with
        | returned u=>exact fin _ _ (keep a hy u) (by rw [<- Act.put_comm a v u p2];exact he)
        | panicked c=>exact ot _ _ _ _ _ he
        | outgrown=>obtain ⟨_,_,hf⟩:=he;exact (gk _ _ hf).elim
       case row row args=>exact Rows.mono h1 λu w'' he=>fin _ _ (keep a hy u) (by rw [<- Act.put_comm a v u p2];exact he)
     | halt x w'=>
       cases x<;>simp only [Oper.upon] at h1 ⊢;exact ot _ _ _ _ _ h1
   rename_i hw;simp only [hw] at h1;exact fin _ _ (keep a hy _) (by rw [<- Act.put_comm a v undef p2];exact h1)
end any
structure WDq (P:Program) (n:Nat) (ops:Array Oper) (S:List Nat) (Lt:List Nat) (Q:Exit->Act->World->Prop) (ord:List (Nat×Nat)) (e:Env) (w:World):Prop where
 h:∀ listed:Array Bool,Region.noSelect ops=true->J6 ops Lt ord listed=true->∀ a,Has n e a->Z1p P (PQ n Q) .any ops S (λj=>Lt.contains j) (λa w=>Q .normal a w) (wt ord) listed a w
section rules
variable {P:Program} {n:Nat} {Q:Exit->Act->World->Prop} {e:Env} {w:World} {ops:Array Oper} {S:List Nat} {Lt:List Nat} {rest:List (Nat×Nat)}
theorem Z9q {id:Nat} {l:List Oper} (m:Nat) (S:List Nat) (Lt:List Nat) (ord:List (Nat×Nat)) (cF:l.length=m) (hm:P.follows .mixedOrders=true) (hs:Region.noSelect l.toArray=true) (hl:Nat.beq (wt ord) l.length=true)
 (hB:J6 l.toArray Lt ord (Array.replicate m false)=true)
 (h:∀ w',Stp [] w w'->WDq P n l.toArray S Lt Q ord e w'):WC P n (.region id l.toArray true) Q e w:=by
 subst cF;refine ⟨λa ha=>wp_region_any hm ?_⟩;have h1:=(h { w with drawn:=w.drawn+1 } (Stp.drew [] w)).h _ hs hB a ha;have h2:=Z6W (X:=PQ n Q) (Q:=Q) ZdL ZsD (λa w hz=>hz) _ _ _ _ h1;rw [XR hl] at h2;simpa using h2
theorem ZfM {i d:Nat} {o:Oper} {v:Value} (hi:ops[i]?=some o) (hd:o.dst=some d) (hY:∀ a,Has n e a->YE P ops (λ_ _=>True) o v a w) (aw:Nat.blt d n=true)
 (k:WDq P n ops S Lt Q rest ((d,v) :: e) w):WDq P n ops S Lt Q ((i,0) :: rest) e w:=by
 refine ⟨λlisted hs hB a ha=>?_⟩;simp only [J6,ZW,Xl] at hB;obtain ⟨⟨h1,h2⟩,h3⟩:=hB;have hk:=k.h _ hs h3 _ (ha.put (v:=v) aw);rw [<- hd] at hk;rw [Z01 (by decide)];exact ZbL ZdL Zj8 (R:=λ_ _=>True) (λ_=>trivial) (λ_ _ _ _ _=>trivial) hi (λ_ _ _ _ _ _ _ _=>trivial) (Region.noSelect_spec hs) _ _ _ _ (Region.free_spec hi h2) (λ_=>trivial) (by simpa using h1) (hY a ha) hk
theorem ZfN {i d:Nat} {o:Oper} {v:Value} (hi:ops[i]?=some o) (hd:o.dst=some d) (hY:∀ a,Has n e a->YE P ops (Stp S) o v a w) (aw:Nat.blt d n=true)
 (k:WDq P n ops S Lt Q rest ((d,v) :: e) w):WDq P n ops S Lt Q ((i,1) :: rest) e w:=by
 refine ⟨λlisted hs hB a ha=>?_⟩;simp only [J6,ZW,Xl] at hB;obtain ⟨⟨⟨h1,h2⟩,hb⟩,h3⟩:=hB;have hk:=k.h _ hs h3 _ (ha.put (v:=v) aw);rw [<- hd] at hk;rw [Z01 (by decide)];refine ZbL ZdL Zj8 (R:=Stp S) (λw=>Stp.refl _ w) (λ_ _ _ h k=>h.trans k) hi (λj oj hj hn cj w w' hs=>?_) (Region.noSelect_spec hs) _ _ _ _ (Region.free_spec hi h2) (λ_=>trivial) (by simpa using h1) (hY a ha) hk;rcases hs with hs|hs
 exact hs;rw [Z53 hb hj hn cj] at hs;cases hs
variable {i d:Nat} {op:Op} {ty:TypeId} {pos:String} {af:Array Edge} {gd:Option (Nat×Bool)} {v:Value}
theorem JI (hi:ops[i]?=some ⟨some d,op,ty,pos,af,gd⟩) (hg:Z08 ops e gd) (hp:∀ w',PR P n ⟨some d,op,ty,pos,af,gd⟩ e w' v) (aw:Nat.blt d n=true)
 (k:WDq P n ops S Lt Q rest ((d,v) :: e) w):WDq P n ops S Lt Q ((i,0) :: rest) e w:=
 ZfM hi rfl (λa ha=>.inl ⟨Jw ha hg,λw' _=>(hp w').h a ha⟩) aw k
theorem Z5x (hi:ops[i]?=some ⟨some d,op,ty,pos,af,gd⟩) (hg:Z08 ops e gd) (hp:∀ w',Stp S w w'->PR P n ⟨some d,op,ty,pos,af,gd⟩ e w' v) (aw:Nat.blt d n=true)
 (k:WDq P n ops S Lt Q rest ((d,v) :: e) w):WDq P n ops S Lt Q ((i,1) :: rest) e w:=
 ZfN hi rfl (λa ha=>.inl ⟨Jw ha hg,λw' hw=>(hp w' hw).h a ha⟩) aw k
structure Zx9 (P:Program) (n:Nat) (ops:Array Oper) (S:List Nat) (Lt:List Nat) (Q:Exit->Act->World->Prop) (i:Nat) (ord:List (Nat×Nat)) (e:Env) (w:World):Prop where
 h : ∀ listed : Array Bool, Region.noSelect ops = true -> J6 ops Lt ord (listed.setIfInBounds i true) = true -> ∀ a, Has n e a->
   wpOp P ops (PQ n Q) i (λa' w'=>(Stp S w w'\/Lt.contains i=true)/\Z1p P (PQ n Q) .any ops S (λj=>Lt.contains j) (λa w=>Q .normal a w) (wt ord) (listed.setIfInBounds i true) a' w') a w
theorem ZeO (h:Zx9 P n ops S Lt Q i rest e w):WDq P n ops S Lt Q ((i,2) :: rest) e w:=by
 refine ⟨λlisted hs hB a ha=>?_⟩;simp only [J6,ZW] at hB;rw [if_neg (by simp)] at hB;simp only [Xl,beq_iff_eq] at hB;obtain ⟨h1,h3⟩:=hB;rw [Z01 (by decide)];refine ⟨λh0=>absurd (h1 ▸ h0) (by simp),λj hj=>?_⟩;rw [h1] at hj;obtain rfl:j=i:=by simpa using hj
 exact h.h _ hs h3 a ha
end rules
structure OEP (P:Program) (n:Nat) (o:Oper) (e:Env) (w:World) (G:Value->World->Prop) (F:List PanicEntry->World->Prop):Prop where
 h:∀ a,Has n e a->∀ Q:Exit->Act->World->Prop,(∀ ch w',F ch w'->Q (.panic ch) a w')->o.wp P a w (λa' w'=>∃ v,a'=a.put o.dst v/\G v w') Q
inductive Zmr (G:Value->World->Prop) (F:List PanicEntry->World->Prop):Ending->World->Prop
 | ret {v:Value} {w:World}:G v w->Zmr G F (.returned v) w
 | pan {ch:List PanicEntry} {w:World}:F ch w->Zmr G F (.panicked ch) w
section
variable {P:Program} {n:Nat} {Q:Exit->Act->World->Prop} {e:Env} {w:World} {ops:Array Oper} {S:List Nat} {Lt:List Nat} {rest:List (Nat×Nat)}
theorem Zja {i d:Nat} {op:Op} {ty:TypeId} {pos:String} {af:Array Edge} {gd:Option (Nat×Bool)} {G:Value->World->Prop} {F:List PanicEntry->World->Prop} (hi:ops[i]?=some ⟨some d,op,ty,pos,af,gd⟩) (hg:Z08 ops e gd)
 (hp:OEP P n ⟨some d,op,ty,pos,af,gd⟩ e w G F) (hG:∀ v w',G v w'->Stp S w w') (aw:Nat.blt d n=true) (hF:∀ ch w',F ch w'->WQ n Q (.panic ch) [] w')
 (k:∀ v w',G v w'->WDq P n ops S Lt Q rest ((d,v) :: e) w'):WDq P n ops S Lt Q ((i,2) :: rest) e w:=by
 refine ZeO ⟨λlisted hs h3 a ha=>?_⟩;unfold wpOp;simp only [hi];rw [if_pos (Jw (o:=⟨some d,op,ty,pos,af,gd⟩) ha hg)];have h0:Has n [] a:=⟨ha.defers,ha.size,λt v hv=>by simp [look] at hv⟩
 refine .inl (Oper.wp_mono ?_ (hp.h a ha (PQ n Q) (λch w' h=>⟨h0,λa' eK=>(hF ch w' h).h a' eK⟩)));rintro a' w' ⟨v,rfl,iZ⟩;exact ⟨.inl (hG v w' iZ),(k v w' iZ).h _ hs h3 _ (ha.put aw)⟩
end
section
variable {P:Program} {n:Nat} {Q:Exit->Act->World->Prop} {e:Env} {w:World} {ops:Array Oper} {rest:List Oper} {d:Option Nat} {ty:TypeId} {pos:String} {af:Array Edge} {g:Option (Nat×Bool)}
theorem Z7V {f:Nat} {fn:Func} {xs:Array Operand} {ts:Array TypeId} {vs:Array Value} {G:Value->World->Prop} {F:List PanicEntry->World->Prop} {c:Operand} [hf:Fun P f fn] (hc:ev e c=some (.func (.func f) #[] #[]))
 (hv:∀ a,Has n e a->xs.map a.eval=vs) (h:Calls P f vs w (Zmr G F)) :
 OEP P n ⟨d,.call { callee:=.value c,args:=xs,argTypes:=ts },ty,pos,af,g⟩ e w G F:=
 ⟨λa ha Q hQ => by
   have he:(execOp a.eval ⟨d,.call { callee:=.value c,args:=xs,argTypes:=ts },ty,pos,af,g⟩).run P w=.ok (.enter f vs) w:=by
    simp only [execOp,resolve,ha.ev hc,Deferred.ofValue,hv a ha];simp [invoke];exact hf.enters vs w
   unfold Oper.wp;rw [he];simp only [Oper.upon];refine h.mono ?_;intro r w' hr;cases hr with
   | ret hg=>exact ⟨_,rfl,hg⟩
   | pan hp=>exact hQ _ _ hp⟩
theorem ZfO {f:Nat} {fn:Func} {xs:Array Operand} {ts:Array TypeId} {vs bd cap us:Array Value} {G:Value->World->Prop} {F:List PanicEntry->World->Prop} {c:Operand} [hf:Fun P f fn] (hc:ev e c=some (.func (.func f) bd cap))
 (hv:∀ a,Has n e a->xs.map a.eval=vs) (hu:bd++vs++cap=us) (h:Calls P f us w (Zmr G F)) :
 OEP P n ⟨d,.call { callee:=.value c,args:=xs,argTypes:=ts },ty,pos,af,g⟩ e w G F:=
 ⟨λa ha Q hQ => by
   have he:(execOp a.eval ⟨d,.call { callee:=.value c,args:=xs,argTypes:=ts },ty,pos,af,g⟩).run P w=.ok (.enter f us) w:=by
    simp only [execOp,resolve,ha.ev hc,Deferred.ofValue,hv a ha];simp [invoke];rw [<- Array.append_assoc,hu];exact hf.enters us w
   unfold Oper.wp;rw [he];simp only [Oper.upon];refine h.mono ?_;intro r w' hr;cases hr with
   | ret hg=>exact ⟨_,rfl,hg⟩
   | pan hp=>exact hQ _ _ hp⟩
theorem Zay {d:Nat} {op:Op} {G:Value->World->Prop} {F:List PanicEntry->World->Prop} (hp:OEP P n ⟨some d,op,ty,pos,af,none⟩ e w G F) (hd:Nat.blt d n=true) (hF:∀ ch w',F ch w'->WQ n Q (.panic ch) e w')
 (k:∀ v w',G v w'->WL P n ops Q rest ((d,v) :: e) w'):WL P n ops Q (⟨some d,op,ty,pos,af,none⟩ :: rest) e w:=by
 refine ⟨λa ha=>?_⟩;refine wpList_plain rfl (λK hK=>?_);refine Oper.wp_mono ?_ (hp.h a ha Q (λch w' h=>(hF ch w' h).h a ha));rintro a' w' ⟨v,rfl,hg⟩;exact hK _ _ ((k v w' hg).h _ (ha.put hd))
theorem Zj {N:Act->World->Prop} {ch:List PanicEntry} (h:WQ n Q (.panic ch) e w):WQ n (Exit.then N Q) (.panic ch) e w:=⟨λa ha=>h.h a ha⟩
theorem Zh {i:Nat} {ch:List PanicEntry} (h:WQ n Q (.panic ch) e w):WQ n (Exit.inBlock i Q) (.panic ch) e w:=⟨λa ha=>h.h a ha⟩
theorem Z9r {x:Exit} (h:WQ n Q x [] w):WQ n Q x e w:=⟨λa ha=>h.h a ⟨ha.defers,ha.size,λt v hv=>by simp [look] at hv⟩⟩
theorem ZH {fn:Func} {R:Ending->World->Prop} {ch:List PanicEntry} (h:R (.panicked ch) w):WQ n (bodyPost P fn R) (.panic ch) e w:=⟨λa ha=>⟨ha.defers,h⟩⟩
end
theorem Z6d {P:Program} {n:Nat} {e:Env} {w} {d:Option Nat} {ty:TypeId} {pos:String} {af:Array Edge} {g:Option (Nat×Bool)} {t:TypeId} {x:Operand} {v:Value} {fs:Array Field} [hu:Und P t (.struct fs)] (hx:ev e x=some v):PR P n ⟨d,.makeInterface t x,ty,pos,af,g⟩ e w (.iface t v):=
 ⟨λa ha=>by simp [execOp,ha.ev hx,Instr.makeInterface,run_underlying hu.h]⟩
theorem ZfP {P:Program} {n:Nat} {e:Env} {w} {d:Option Nat} {ty:TypeId} {pos:String} {af:Array Edge} {g:Option (Nat×Bool)} {x:Operand} {t:TypeId} {v:Value} (hx:ev e x=some (.iface t v)):∀ a,Has n e a->(execOp a.eval ⟨d,.panic x,ty,pos,af,g⟩).run P w=.halt (.panic (.iface t v)) w:=
 λa ha=>by simp [execOp,ha.ev hx,Instr.panic]
theorem ZfQ {P:Program} {n:Nat} {Q:Exit->Act->World->Prop} {e:Env} {w} {ops:Array Oper} {S:List Nat} {Lt:List Nat} {rest:List (Nat×Nat)} {i:Nat} {o:Oper} {v:Value} (hi:ops[i]?=some o) (hg:Z08 ops e o.guard)
 (hp:∀ a,Has n e a->(execOp a.eval o).run P w=.halt (.panic v) w) (h:WQ n Q (.panic [{ v,recovered:=false }]) [] w):WDq P n ops S Lt Q ((i,2) :: rest) e w:=by
 refine ZeO ⟨λlisted hs h3 a ha=>?_⟩;unfold wpOp;simp only [hi];rw [if_pos (Jw ha hg)];refine .inl ?_;unfold Oper.wp;rw [hp a ha];have h0:Has n [] a:=⟨ha.defers,ha.size,λt v hv=>by simp [look] at hv⟩
 exact ⟨h0,λa' eK=>h.h a' eK⟩
structure Tkn where
 kind:Int
 pos:Int
 text:Str
 num:Int
 deriving DecidableEq
instance:Inhabited Tkn:=⟨⟨0,0,[],0⟩⟩
instance:Z3 Tkn where
 k:=4
 enc:=λt=>[.I t.kind,.I t.pos,str t.text,.I t.num]
 len:=λ_=>rfl
 one:=by intro x u hu;simp at hu;rcases hu with rfl|rfl|rfl|rfl<;>rfl
def cur (l:List Tkn) (i:Nat):Tkn:=l.getD i default
inductive Out (α:Type) where
 | err (a c:Int)
 | ok (x:α) (i o:Nat)
def Out.bind {α β:Type}:Out α->(α->Nat->Nat->Out β)->Out β
 | .err a c,_=>.err a c
 | .ok x i o,k=>k x i o
def Z1i {α:Type} (l:List Tkn) (i:Nat) (c:Int):Out α:=.err (cur l i).pos c
def Z0P (l:List Tkn) (s:Str) (i o:Nat):Out Unit:=if (cur l i).text=s then .ok () (i+1) o else Z1i l i 20
def Z34 (l:List Tkn) (k:Int) (i o:Nat):Out Tkn:=if (cur l i).kind=k then .ok (cur l i) (i+1) o else Z1i l i 20
def Z6e (l:List Tkn) (s:Str) (i o:Nat):Out Unit:=if (cur l i).text=s then (if o=12 then Z1i l i 2 else .ok () (i+1) (o+1)) else Z1i l i 20
def Z5y (l:List Tkn) (s:Str) (i o:Nat):Out Unit:=(Z0P l s i o).bind λ_ i o=>.ok () i (o - 1)
def Z35:List Str:=[[100,97,121],[115,101,114,118,101,100],[101,120,116,114,97],[98,121],[116,111],[99,111,117,114,116],[97,109,111,117,110,116]]
def Z4Q:List Str:=[[100,97,121,115],[119,101,101,107,115],[109,111,110,116,104,115],[99,111,117,114,116,100,97,121,115]]
def Z4R:List Str:=[[110,101,120,116],[112,114,101,118],[108,97,116,101,114],[101,97,114,108,105,101,114],[98,101,116,119,101,101,110]]
def ZeP:List Str:=[[114,117,108,101],[102,114,111,109],[111,110],[105,102],[100,117,101],[117,110,108,101,115,115],[101,108,115,101],[116,114,117,101],[102,97,108,115,101],[110,111,116],[97,110,100],[111,114],[116,104,101,110],[101,110,100]]
def Z2k (l:List Tkn) (i o:Nat):Out Str:=if (cur l i).text∈ZeP++Z4Q++Z35++Z4R then Z1i l i 20 else (Z34 l 1 i o).bind λt i o=>.ok t.text i o
def Z6f (s:Str):Nat:=
 if s=[111,114] then 1 else if s=[97,110,100] then 2 else if s=[60]\/s=[60,61]\/s=[61]\/s=[33,61]\/s=[62]\/s=[62,61] then 4
 else if s=[43]\/s=[45] then 5 else if s=[42] then 6 else 0
def ZvZ (s:Str):Nat:=if s=[110,101,120,116]\/s=[112,114,101,118] then 1 else 2
def Z3q (m:Nat->Nat->Option (Out Nd)) (sep:Nat->Nat->Nat->Out Unit):Nat->Nat->List Nd->Nat->Nat->Option (Out (List Nd))
 | 0,_,ks,i,o=>some (.ok ks i o)
 | n + 1, k, ks, i, o=>
   match sep k i o with
   | .err a c=>some (.err a c)
   | .ok _ i o=>
     match m i o with
     | none=>none
     | some (.err a c)=>some (.err a c)
     | some (.ok x i o)=>Z3q m sep n (k+1) (ks++[x]) i o
def Z7W (l:List Tkn) (k i o:Nat):Out Unit:=if 0<k then Z0P l [44] i o else .ok () i o
def Zjb (l:List Tkn) (k i o:Nat):Out Unit:=Z0P l (if k=0 then [116,104,101,110] else [101,108,115,101]) i o
inductive Call where
 | expr (level:Nat)
 | loop (level:Nat) (x:Nd)
 | prim
def J8 (l:List Tkn):Nat->Call->Nat->Nat->Option (Out Nd)
 | 0,_,_,_=>none
 | f + 1, .expr k, i, o=>
   if (k=3/\(cur l i).text=[110,111,116])\/(k=7/\(cur l i).text=[45]) then
    match Z6e l (cur l i).text i o with
    | .err a c=>some (.err a c)
    | .ok _ i' o'=>
      match J8 l f (.expr k) i' o' with
      | none=>none
      | some (.err a c)=>some (.err a c)
      | some (.ok x i'' o'')=>some (.ok (.mk 5 0 (cur l i).text [x]) i'' (o'' - 1))
   else if k=8 then J8 l f .prim i o
   else
    match J8 l f (.expr (k+1)) i o with
    | none=>none
    | some (.err a c)=>some (.err a c)
    | some (.ok x i' o')=>J8 l f (.loop k x) i' o'
 | f + 1, .loop k x, i, o=>
   if Z6f (cur l i).text=k then
    match J8 l f (.expr (k+1)) (i+1) o with
    | none=>none
    | some (.err a c)=>some (.err a c)
    | some (.ok y i' o')=>
      if k=5/\(cur l i').text∈Z4Q then J8 l f (.loop k (.mk (if (cur l i).text=[45] then 8 else 7) 0 (cur l i').text [x,y])) (i'+1) o'
      else if k=4 then some (.ok (.mk 6 0 (cur l i).text [x,y]) i' o')
      else J8 l f (.loop k (.mk 6 0 (cur l i).text [x,y])) i' o'
   else some (.ok x i o)
 | f + 1, .prim, i, o=>
   let t:=cur l i
   if t.kind=2 then some (.ok (.mk 1 t.num [] []) (i+1) o)
   else if t.kind=3 then some (.ok (.mk 3 t.num [] []) (i+1) o)
   else if t.text=[116,114,117,101] then some (.ok (.mk 2 1 [] []) (i+1) o)
   else if t.text=[102,97,108,115,101] then some (.ok (.mk 2 0 [] []) (i+1) o)
   else if t.text=[40] then
    match Z6e l [40] i o with
    | .err a c=>some (.err a c)
    | .ok _ i' o'=>
      match J8 l f (.expr 1) i' o' with
      | none=>none
      | some (.err a c)=>some (.err a c)
      | some (.ok x i'' o'')=>
        match Z5y l [41] i'' o'' with
        | .err a c=>some (.err a c)
        | .ok _ i3 o3=>some (.ok x i3 o3)
   else if t.text=[105,102] then
    match Z6e l [105,102] i o with
    | .err a c=>some (.err a c)
    | .ok _ i' o'=>
      match J8 l f (.expr 1) i' o' with
      | none=>none
      | some (.err a c)=>some (.err a c)
      | some (.ok x i'' o'')=>
        match Z3q (J8 l f (.expr 1)) (Zjb l) 2 0 [x] i'' o'' with
        | none=>none
        | some (.err a c)=>some (.err a c)
        | some (.ok ks i3 o3)=>
          match Z5y l [101,110,100] i3 o3 with
          | .err a c=>some (.err a c)
          | .ok _ i4 o4=>some (.ok (.mk 9 0 [] ks) i4 o4)
   else if t.text∈Z4R then
    match Z34 l 1 i o with
    | .err a c=>some (.err a c)
    | .ok _ i1 o1=>
      match Z6e l [40] i1 o1 with
      | .err a c=>some (.err a c)
      | .ok _ i' o'=>
        match Z3q (J8 l f (.expr 1)) (Z7W l) (ZvZ t.text) 0 [] i' o' with
        | none=>none
        | some (.err a c)=>some (.err a c)
        | some (.ok ks i3 o3)=>
          match Z5y l [41] i3 o3 with
          | .err a c=>some (.err a c)
          | .ok _ i4 o4=>some (.ok (.mk 10 0 t.text ks) i4 o4)
   else if t.text∈Z35 then some (.ok (.mk 4 0 t.text []) (i+1) o)
   else some (Z1i l i 20)
structure RuleM where
 name:Str
 frm:Int
 on:Str
 cond:Nd
 due:Nd
 unl:Str
 els:Str
def Z1G {α:Type} (l:List Tkn) (w:Str) (z:α) (rd:Nat->Nat->Out α) (i o:Nat):Out α:=
 if (cur l i).text=w then (rd (i+1) o).bind λx i o=>(Z0P l [59] i o).bind λ_ i o=>.ok x i o else .ok z i o
def ZbM (l:List Tkn) (i:Nat):Nat:=20 * (l.length - i)+20
def Z1Z (l:List Tkn) (i o:Nat):Out Nd:=(J8 l (ZbM l i) (.expr 1) i o).getD (.err 0 0)
def JS:Nd:=.mk 0 0 [] []
def Z9s (l:List Tkn) (i o:Nat):Out RuleM:=
 (Z0P l [114,117,108,101] i o).bind λ_ i o=>(Z2k l i o).bind λnm i o=>(Z0P l [102,114,111,109] i o).bind λ_ i o=>(Z34 l 3 i o).bind λt i o=>(Z0P l [123] i o).bind λ_ i o=>
 if (cur l i).text=[111,110] then
  (Z1G l [111,110] [] (Z2k l) i o).bind λon i o=>(Z1G l [105,102] JS (Z1Z l) i o).bind λcd i o=>
  if (cur l i).text=[100,117,101] then
   (Z1G l [100,117,101] JS (Z1Z l) i o).bind λdue i o=>(Z1G l [117,110,108,101,115,115] [] (Z2k l) i o).bind λun i o=>(Z1G l [101,108,115,101] [] (Z2k l) i o).bind λel i o=>(Z0P l [125] i o).bind λ_ i o=>
   .ok ⟨nm,t.num,on,if cd.kind=0 then .mk 2 1 [] [] else cd,due,un,el⟩ i o
  else Z1i l i 20
 else Z1i l i 20
def Z20 (l:List Tkn):Nat->List RuleM->Nat->Nat->Out (List RuleM)
 | 0,rs,i,o=>.ok rs i o
 | f+1,rs,i,o=>if (cur l i).kind=0 then .ok rs i o else (Z9s l i o).bind λr i o=>Z20 l f (rs++[r]) i o
def Z3u:List Str:=[[110,111,116],[45],[116,114,117,101],[102,97,108,115,101],[40],[105,102]]++Z4R
structure Z3P (l:List Tkn):Prop where
 pos:0<l.length
 last:(cur l (l.length - 1)).kind=0/\(cur l (l.length - 1)).text=[]
 body:∀ i,i+1<l.length->(cur l i).kind≠0/\(cur l i).text≠[]
 len:l.length<=4001
 sp:∀ i,∀ c∈(cur l i).text,c≠32
 tl:∀ i,(cur l i).text.length<=4000
 plain:∀ i,(cur l i).text∉Z3u
theorem Z3P.end_of {l:List Tkn} (h:Z3P l) {i:Nat} (hi:i<l.length) (ht:(cur l i).text≠[]):i+1<l.length:=by
 by_cases hl:i+1<l.length;exact hl;exfalso;obtain rfl:i=l.length - 1:=by omega
 exact ht h.last.2
theorem Z3P.end_of_kind {l:List Tkn} (h:Z3P l) {i:Nat} (hi:i<l.length) (ht:(cur l i).kind≠0):i+1<l.length:=by
 by_cases hl:i+1<l.length;exact hl;exfalso;obtain rfl:i=l.length - 1:=by omega
 exact ht h.last.1
theorem Z5a {l:List Tkn} {s:Str} {i o:Nat} {u:Unit} {i' o':Nat} (h:Z0P l s i o=.ok u i' o'):o'=o:=by
 unfold Z0P Z1i at h;split at h<;>simp at h;omega
theorem Z2l {l:List Tkn} {s:Str} {i o:Nat} {u:Unit} {i' o':Nat} (h:Z0P l s i o=.ok u i' o'):i'=i+1/\(cur l i).text=s:=by
 unfold Z0P Z1i at h;split at h<;>simp at h;exact ⟨by omega,by assumption⟩
theorem Z1u {l:List Tkn} {k:Int} {i o:Nat} {t:Tkn} {i' o':Nat} (h:Z34 l k i o=.ok t i' o'):o'=o/\i'=i+1/\t=cur l i/\t.kind=k:=by
 unfold Z34 Z1i at h;split at h<;>simp at h;obtain ⟨rfl,rfl,rfl⟩:=h;exact ⟨rfl,rfl,rfl,by assumption⟩
theorem Jh {l:List Tkn} {s:Str} {i o:Nat} {u:Unit} {i' o':Nat} (h:Z6e l s i o=.ok u i' o'):o'=o+1/\i'=i+1/\(cur l i).text=s:=by
 unfold Z6e Z1i at h;split at h;split at h<;>simp at h;exact ⟨by omega,by omega,by assumption⟩;simp at h
theorem Z0D {l:List Tkn} {s:Str} {i o:Nat} {u:Unit} {i' o':Nat} (h:Z5y l s i o=.ok u i' o'):o'=o - 1/\i'=i+1/\(cur l i).text=s:=by
 unfold Z5y at h;cases hm:Z0P l s i o with
 | err a c=>rw [hm] at h;simp [Out.bind] at h
 | ok x j p=>
   rw [hm] at h;simp [Out.bind] at h;have:=Z5a hm;have:=Z2l hm;exact ⟨by omega,by omega,this.2⟩
theorem Z5b {m:Nat->Nat->Option (Out Nd)} {sep:Nat->Nat->Nat->Out Unit} (hm:∀ i o x i' o',m i o=some (.ok x i' o')->o'=o) (hs:∀ k i o u i' o',sep k i o=.ok u i' o'->o'=o) :
 ∀ (n k:Nat) (ks:List Nd) (i o:Nat) (ks':List Nd) (i' o':Nat),Z3q m sep n k ks i o=some (.ok ks' i' o')->o'=o
 | 0,k,ks,i,o,ks',i',o',h=>by simp [Z3q] at h;omega
 | n + 1, k, ks, i, o, ks', i', o', h => by
   simp only [Z3q] at h;cases h1:sep k i o with
   | err a c=>rw [h1] at h;simp at h
   | ok u i1 o1=>
     rw [h1] at h;simp only at h;cases h2:m i1 o1 with
     | none=>rw [h2] at h;simp at h
     | some r=>
       rw [h2] at h;cases r with
       | err a c=>simp at h
       | ok x i2 o2=>
         simp only at h;have:=Z5b hm hs n _ _ _ _ _ _ _ h;have:=hm _ _ _ _ _ h2;have:=hs _ _ _ _ _ _ h1;omega
theorem ZbN {l:List Tkn} {k i o:Nat} {u:Unit} {i' o':Nat} (h:Z7W l k i o=.ok u i' o'):o'=o:=by
 unfold Z7W at h;split at h;exact Z5a h;simp at h;omega
theorem ZdM {l:List Tkn} {k i o:Nat} {u:Unit} {i' o':Nat} (h:Zjb l k i o=.ok u i' o'):o'=o:=Z5a h
theorem Z5c (l:List Tkn):∀ (f:Nat) (c:Call) (i o:Nat) (x:Nd) (i' o':Nat),J8 l f c i o=some (.ok x i' o')->o'=o
 | 0,c,i,o,x,i',o',h=>by simp [J8] at h
 | f + 1, .expr k, i, o, x, i', o', h => by
   have ih:=Z5c l f;rw [J8] at h;split at h;split at h;simp at h;rename_i h1;have:=Jh h1;split at h;simp at h;simp at h;rename_i h2;have:=ih _ _ _ _ _ _ h2;simp at h;omega;split at h;exact ih _ _ _ _ _ _ h;split at h;simp at h;simp at h;rename_i h2;have:=ih _ _ _ _ _ _ h2;have:=ih _ _ _ _ _ _ h;omega
 | f + 1, .loop k y, i, o, x, i', o', h => by
   have ih:=Z5c l f;rw [J8] at h;split at h;split at h;simp at h;simp at h;rename_i h2;have h3:=ih _ _ _ _ _ _ h2;split at h;have:=ih _ _ _ _ _ _ h;omega;split at h;simp at h;omega;have:=ih _ _ _ _ _ _ h;omega;simp at h;omega
 | f + 1, .prim, i, o, x, i', o', h => by
   have ih:=Z5c l f;rw [J8] at h;repeat' split at h
   all_goals try (simp at h;done)
   all_goals try (simp at h;omega)
   rename_i h1 _ _ _ _ h2 _ _ _ _ h3;have:=Jh h1;have:=ih _ _ _ _ _ _ h2;have:=Z0D h3;simp at h;omega;rename_i h1 _ _ _ _ h2 _ _ _ _ h3 _ _ _ _ h4;have:=Jh h1;have:=ih _ _ _ _ _ _ h2;have:=Z5b (λ_ _ _ _ _ h=>ih _ _ _ _ _ _ h) (λ_ _ _ _ _ _ h=>ZdM h) _ _ _ _ _ _ _ _ h3;have:=Z0D h4;simp at h;omega;rename_i h1 _ _ _ _ h2 _ _ _ _ h3 _ _ _ _ h4;have:=Z1u h1;have:=Jh h2;have:=Z5b (λ_ _ _ _ _ h=>ih _ _ _ _ _ _ h) (λ_ _ _ _ _ _ h=>ZbN h) _ _ _ _ _ _ _ _ h3;have:=Z0D h4;simp at h;omega;all_goals (simp [Z1i] at h)
theorem Z7X {m:Nat->Nat->Option (Out Nd)} {sep:Nat->Nat->Nat->Out Unit} (hm:∀ i o x i' o',m i o=some (.ok x i' o')->i<=i') (hs:∀ k i o u i' o',sep k i o=.ok u i' o'->i<=i') :
 ∀ (n k:Nat) (ks:List Nd) (i o:Nat) (ks':List Nd) (i' o':Nat),Z3q m sep n k ks i o=some (.ok ks' i' o')->i<=i'
 | 0,k,ks,i,o,ks',i',o',h=>by simp [Z3q] at h;omega
 | n + 1, k, ks, i, o, ks', i', o', h => by
   simp only [Z3q] at h;cases h1:sep k i o with
   | err a c=>rw [h1] at h;simp at h
   | ok u i1 o1=>
     rw [h1] at h;simp only at h;cases h2:m i1 o1 with
     | none=>rw [h2] at h;simp at h
     | some r=>
       rw [h2] at h;cases r with
       | err a c=>simp at h
       | ok x i2 o2=>
         simp only at h;have:=Z7X hm hs n _ _ _ _ _ _ _ h;have:=hm _ _ _ _ _ h2;have:=hs _ _ _ _ _ _ h1;omega
theorem Z9t {l:List Tkn} {k i o:Nat} {u:Unit} {i' o':Nat} (h:Z7W l k i o=.ok u i' o'):i<=i':=by
 unfold Z7W at h;split at h;have:=(Z2l h).1;omega;simp at h;omega
theorem ZbO {l:List Tkn} {k i o:Nat} {u:Unit} {i' o':Nat} (h:Zjb l k i o=.ok u i' o'):i<=i':=by have:=(Z2l h).1;omega
def Call.lo:Call->Nat->Nat
 | .expr _,i=>i+1
 | .prim,i=>i+1
 | .loop _ _,i=>i
theorem Z21 (l:List Tkn):∀ (f:Nat) (c:Call) (i o:Nat) (x:Nd) (i' o':Nat),J8 l f c i o=some (.ok x i' o')->c.lo i<=i'
 | 0,c,i,o,x,i',o',h=>by simp [J8] at h
 | f + 1, .expr k, i, o, x, i', o', h => by
   have ih:=Z21 l f;rw [J8] at h;simp only [Call.lo];split at h;split at h;simp at h;rename_i h1;have:=Jh h1;split at h;simp at h;simp at h;rename_i h2;have:=ih _ _ _ _ _ _ h2;simp only [Call.lo] at this;simp at h;omega;split at h;exact ih _ _ _ _ _ _ h;split at h;simp at h;simp at h;rename_i h2;have h3:=ih _ _ _ _ _ _ h2;have:=ih _ _ _ _ _ _ h;simp only [Call.lo] at this h3;omega
 | f + 1, .loop k y, i, o, x, i', o', h => by
   have ih:=Z21 l f;rw [J8] at h;simp only [Call.lo];split at h;split at h;simp at h;simp at h;rename_i h2;have h3:=ih _ _ _ _ _ _ h2;simp only [Call.lo] at h3;split at h;have:=ih _ _ _ _ _ _ h;simp only [Call.lo] at this;omega;split at h;simp at h;omega;have:=ih _ _ _ _ _ _ h;simp only [Call.lo] at this;omega;simp at h;omega
 | f + 1, .prim, i, o, x, i', o', h => by
   have ih:=Z21 l f;rw [J8] at h;simp only [Call.lo];repeat' split at h
   all_goals try (simp at h;done)
   all_goals try (simp at h;omega)
   rename_i h1 _ _ _ _ h2 _ _ _ _ h3;have:=Jh h1;have h2:=ih _ _ _ _ _ _ h2;have:=Z0D h3;simp only [Call.lo] at h2;simp at h;omega;rename_i h1 _ _ _ _ h2 _ _ _ _ h3 _ _ _ _ h4;have:=Jh h1;have h2:=ih _ _ _ _ _ _ h2;have:=Z7X (λ_ _ _ _ _ h=>by have:=ih _ _ _ _ _ _ h;simp only [Call.lo] at this;omega) (λ_ _ _ _ _ _ h=>ZbO h) _ _ _ _ _ _ _ _ h3;have:=Z0D h4;simp only [Call.lo] at h2;simp at h;omega;rename_i h1 _ _ _ _ h2 _ _ _ _ h3 _ _ _ _ h4;have:=Z1u h1;have:=Jh h2;have:=Z7X (λ_ _ _ _ _ h=>by have:=ih _ _ _ _ _ _ h;simp only [Call.lo] at this;omega) (λ_ _ _ _ _ _ h=>Z9t h) _ _ _ _ _ _ _ _ h3;have:=Z0D h4;simp at h;omega;all_goals (simp [Z1i] at h)
theorem Z5d {m:Nat->Nat->Option (Out Nd)} {sep:Nat->Nat->Nat->Out Unit} (i0:Nat) (ht:∀ i o,i0<=i->m i o≠none) (hm:∀ i o x i' o',m i o=some (.ok x i' o')->i<=i') (hs:∀ k i o u i' o',sep k i o=.ok u i' o'->i<=i') :
 ∀ (n k:Nat) (ks:List Nd) (i o:Nat),i0<=i->Z3q m sep n k ks i o≠none
 | 0,k,ks,i,o,h0=>by simp [Z3q]
 | n + 1, k, ks, i, o, h0 => by
   simp only [Z3q];cases h1:sep k i o with
   | err a c=>simp
   | ok u i1 o1=>
     have:=hs _ _ _ _ _ _ h1;simp only;cases h2:m i1 o1 with
     | none=>exact absurd h2 (ht _ _ (by omega))
     | some r=>
       cases r with
       | err a c=>simp
       | ok x i2 o2=>
         have:=hm _ _ _ _ _ h2;exact Z5d i0 ht hm hs n _ _ _ _ (by omega)
theorem Zms {l:List Tkn} {i:Nat} (h:l.length<=i):cur l i=default:=by simp [cur,List.getD,h]
theorem Z5e {l:List Tkn} {i:Nat} (h:(cur l i).text≠[]):i<l.length:=by
 by_cases hl:i<l.length;exact hl;rw [Zms (by omega)] at h;exact absurd rfl h
def Call.need (n:Nat):Call->Nat->Nat
 | .expr k,i=>10 * (n - i)+(10 - k)
 | .prim,i=>10 * (n - i)+1
 | .loop _ _,i=>10 * (n - i)+1
def Call.fine:Call->Prop
 | .expr k=>1<=k/\k<=8
 | .prim=>True
 | .loop k _=>1<=k/\k<=7
theorem Z7Y {s:Str} {k:Nat} (h:Z6f s=k) (hk:1<=k):s≠[]:=by
 rintro rfl;have:Z6f []=0:=by decide
 omega
theorem Z36 (l:List Tkn):∀ (f:Nat) (c:Call) (i o:Nat),c.fine->c.need l.length i<=f->J8 l f c i o≠none
 | 0, c, i, o, hc, h => by
   cases c<;>simp only [Call.need,Call.fine] at h hc<;>omega
 | f + 1, .expr k, i, o, hc, h => by
   have ih:=Z36 l f;simp only [Call.need,Call.fine] at h hc;rw [J8];split;rename_i bD;have hi:i<l.length:=Z5e (by rcases bD with ⟨_,h⟩|⟨_,h⟩<;>rw [h]<;>decide);split;simp;rename_i h1;have:=Jh h1;split;rename_i h2;exact absurd h2 (ih _ _ _ hc (by simp only [Call.need];omega));simp;simp;split;exact ih _ _ _ trivial (by simp only [Call.need];omega);split;rename_i h2;exact absurd h2 (ih _ _ _ (by simp only [Call.fine];omega) (by simp only [Call.need];omega));simp;rename_i h2;have h3:=Z21 l _ _ _ _ _ _ _ h2;simp only [Call.lo] at h3;exact ih _ _ _ (by simp only [Call.fine];omega) (by simp only [Call.need];omega)
 | f + 1, .loop k y, i, o, hc, h => by
   have ih:=Z36 l f;simp only [Call.need,Call.fine] at h hc;rw [J8];split;rename_i kj;have hi:i<l.length:=Z5e (Z7Y kj hc.1);split;rename_i h2;exact absurd h2 (ih _ _ _ (by simp only [Call.fine];omega) (by simp only [Call.need];omega));simp;rename_i h2;have h3:=Z21 l _ _ _ _ _ _ _ h2;simp only [Call.lo] at h3;split;exact ih _ _ _ hc (by simp only [Call.need];omega);split;simp;exact ih _ _ _ hc (by simp only [Call.need];omega);simp
 | f + 1, .prim, i, o, hc, h => by
   have ih:=Z36 l f;have cO:∀ i o x i' o',J8 l f (.expr 1) i o=some (.ok x i' o')->i<=i':=λ_ _ _ _ _ h=>by have:=Z21 l _ _ _ _ _ _ _ h;simp only [Call.lo] at this;omega
   simp only [Call.need,Call.fine] at h hc;have bt:∀ j o,i<l.length->i+1<=j->J8 l f (.expr 1) j o≠none:=λj o hi hj=>ih _ _ _ (by simp [Call.fine]) (by simp only [Call.need];omega)
   rw [J8];have ko:=λh=>Z5e (l:=l) (i:=i) h;split;simp;split;simp;split;simp;split;simp;split;rename_i ht;have hi:=ko (by rw [ht];decide);split;simp;rename_i h1;have:=Jh h1;split;rename_i h2;exact absurd h2 (bt _ _ hi (by omega));simp;split<;>simp
   split;rename_i ht;have hi:=ko (by rw [ht];decide);split;simp;rename_i h1;have:=Jh h1;split;rename_i h2;exact absurd h2 (bt _ _ hi (by omega));simp;rename_i h2;have:=cO _ _ _ _ _ h2;split;rename_i h3;exact absurd h3 (Z5d (i+1) (λj o hj=>bt j o hi hj) cO (λ_ _ _ _ _ _ h=>ZbO h) _ _ _ _ _ (by omega));simp;split<;>simp
   split;rename_i ht;have hi:=ko (λh0=>by rw [h0] at ht;revert ht;decide);split;simp;rename_i h1;have:=Z1u h1;split;simp;rename_i h2;have:=Jh h2;split;rename_i h3;exact absurd h3 (Z5d (i+1) (λj o hj=>bt j o hi hj) cO (λ_ _ _ _ _ _ h=>Z9t h) _ _ _ _ _ (by omega));simp;split<;>simp
   split<;>simp
theorem Z9u (l:List Tkn) (i o:Nat):J8 l (ZbM l i) (.expr 1) i o=some (Z1Z l i o):=by
 have:=Z36 l (ZbM l i) (.expr 1) i o (by simp [Call.fine]) (by simp only [Call.need,ZbM];omega);unfold Z1Z;cases h:J8 l (ZbM l i) (.expr 1) i o with
 | none=>exact absurd h this
 | some r=>rfl
abbrev T3:=Int×Str×Int
def of3 (t:Tkn):T3:=(t.kind,t.text,t.num)
def At (l:List Tkn):Nat->List T3->Prop
 | _,[]=>True
 | i,t :: r=>of3 (cur l i)=t/\At l (i+1) r
abbrev Zw0:=Int->Str
theorem Z4S (u:Nat):∀ c∈Lib.decDigits u,48<=c.toNat/\c.toNat<=57:=by
 induction u using Nat.strongRecOn with
 | _ u ih=>
   have h1:∀ k,k<10->48<=(UInt8.ofNat (48+k)).toNat/\(UInt8.ofNat (48+k)).toNat<=57:=by decide
   by_cases h:u<10;rw [Lib.decDigits,dif_pos h];intro c hc;simp only [Xk] at hc;subst hc;exact h1 u h;rw [Lib.decDigits,dif_neg h];intro c hc;rcases Xi.1 hc with hc|hc
   exact ih _ (by omega) c hc;simp only [Xk] at hc;subst hc;exact h1 _ (by omega)
abbrev bts (s:Str):ByteArray:=⟨s.toArray⟩
def Itr (w:World) (b:Nat) (s:Str) (p:Nat):Prop:=w.heap[b]?=some (.stringIter (bts s) p)
theorem Itr.lt {w} {b p:Nat} {s:Str} (h:Itr w b s p):b<w.heap.size:=(Xm.1 h).1
def dec (s:Str) (p:Nat):Nat×Nat:=Utf8.decode (bts s) p
theorem Z5z (s:Str):(bts s).size=s.length:=by simp [ByteArray.size]
theorem Z4p {s:Str} {p:Nat} (h:p<s.length) (ha:(s[p]).toNat<128):dec s p=((s[p]).toNat,1):=by
 have h1:p<(bts s).size:=by rw [Z5z];exact h
 have e:(bts s)[p]'h1=s[p]:=by simp [bts,ByteArray.getElem_eq_getElem_data]
 have:=decode_ascii (bts s) p h1 (by rw [e];exact ha);rw [e] at this;exact this
theorem ZbP {s:Str} {p:Nat} (h:p<s.length) (ha:128<=(s[p]).toNat):128<=(dec s p).1/\1<=(dec s p).2:=by
 have h1:p<(bts s).size:=by rw [Z5z];exact h
 have e:(bts s)[p]'h1=s[p]:=by simp [bts,ByteArray.getElem_eq_getElem_data]
 exact decode_high (bts s) p h1 (by rw [e];exact ha)
theorem Zmt {s:Str} {p:Nat} (h:p<s.length):1<=(dec s p).2:=by
 by_cases ha:(s[p]).toNat<128;rw [Z4p h ha];exact Xn _;exact (ZbP h (by omega)).2
section
variable {P:Program} {n:Nat} {e:Env} {w:World} {d:Option Nat} {ty:TypeId} {pos:String} {af:Array Edge} {g:Option (Nat×Bool)}
theorem ZbQ {x:Operand} {t:TypeId} {s:Str} [hu:Und P t .string] (hx:ev e x=some (str s)):OE P n ⟨d,.range t x,ty,pos,af,g⟩ e w (λv w'=>∃ b,v=pQ b/\w.heap.size<=b/\Itr w' b s 0/\Stp [] w w'):=
 Jd (v:=.pointer (some ⟨w.heap.size,0,none⟩)) (w':=w.iter (bts s) 0) (λa ha=>by
  have:=run_range_string (P:=P) w t (bts s) hu.h;simp [execOp,ha.ev hx,this]) ⟨w.heap.size,rfl,Xn _,World.iter_heap _ _ _,Stp.alloc _ _ _⟩
theorem ZeQ {x:Operand} {s:Str} {b p:Nat} (hx:ev e x=some (pQ b)) (hI:Itr w b s p) (hp:p<s.length) :
 OE P n ⟨d,.next x true,ty,pos,af,g⟩ e w (λv w'=>v=.tuple #[.B true,.I p,.int .i32 ((dec s p).1:Int)]/\Itr w' b s (p+(dec s p).2)/\Stp [b] w w'):=by
 have ag:=hI.lt;have pV:p<(bts s).size:=by rw [Z5z];exact hp
 unfold Itr at hI;refine Jd (v:=.tuple #[.B true,.I p,.int .i32 ((dec s p).1:Int)]) (w':={ w with heap:=w.heap.setIfInBounds b (.stringIter (bts s) (p+(dec s p).2)) }) (λa ha=>?_) ⟨rfl,?_,⟨rfl,rfl,rfl,by simp,λk hk hn=>?_⟩⟩
 . simp [execOp,ha.ev hx,Instr.next,getObj,setObj,Sem.run,hI,pV,goInt,dec]
 show (w.heap.setIfInBounds b _)[b]?=_;simp [ag];show (w.heap.setIfInBounds b _)[k]?=_;exact YaL (by simpa using λh=>hn (by simp [h]))
theorem Z7Z {x:Operand} {s:Str} {b p:Nat} (hx:ev e x=some (pQ b)) (hI:Itr w b s p) (hp:¬ p<s.length) :
 OE P n ⟨d,.next x true,ty,pos,af,g⟩ e w (λv w'=>v=.tuple #[.B false]/\w'=w):=by
 have pV:¬ p<(bts s).size:=by rw [Z5z];exact hp
 unfold Itr at hI;refine Jd (v:=.tuple #[.B false]) (w':=w) (λa ha=>?_) ⟨rfl,rfl⟩;simp [execOp,ha.ev hx,Instr.next,getObj,Sem.run,hI,pV]
theorem ZbR {x:Operand} {t:TypeId} {i:Nat} {u v:Value} (hx:ev e x=some u) (hb:∀ w,(Instr.field t u i).run P w=.ok v w):PR P n ⟨d,.field t x i,ty,pos,af,g⟩ e w v:=
 ⟨λa ha=>by simp [execOp,ha.ev hx,hb]⟩
end
def Z5A (c:UInt8):Bool:=decide (97<=c.toNat) && decide (c.toNat<=122)
def ZQ (c:UInt8):Bool:=decide (48<=c.toNat) && decide (c.toNat<=57)
def ldB (c:UInt8):Bool:=Z5A c || ZQ c
def Z0u (s:Str):Nat:=s.foldl (λn c=>10 * n+(c.toNat - 48)) 0
def Z15 (y:Int):Bool:=decide (y % 4=0) && (decide (¬ y % 100=0) || decide (y % 400=0))
def ZK (y m:Int):Int:=
 if m<1\/12<m then 0 else if m=2 then (if Z15 y then 29 else 28) else if m=4\/m=6\/m=9\/m=11 then 30 else 31
def Z0a (y m d:Int):Int:=
 let (y,m):=if m - 3<0 then (y - 1,m+9) else (y,m - 3)
 365 * y+y / 4 - y / 100+y / 400+(153 * m+2) / 5+d - 307
def Z1j (s:Str):Int×Int:=
 if s.length=10/\s.getD 4 0=45/\s.getD 7 0=45/\((s.take 4).all ZQ/\((s.drop 5).take 2).all ZQ/\(s.drop 8).all ZQ) then
  let y:Int:=Z0u (s.take 4)
  let m:Int:=Z0u ((s.drop 5).take 2)
  let d:Int:=Z0u (s.drop 8)
  if y<1\/9999<y\/m<1\/12<m\/d<1\/ZK y m<d then (0,5) else (Z0a y m d,0)
 else (0,7)
inductive Lx where
 | err (c:Int)
 | ok (t:Tkn)
def Z4T (s:Str):Lx:=let n:=(s.takeWhile ldB).length;if 12<n then .err 2 else .ok ⟨1,0,s.take n,0⟩
def Z37 (s:Str):Lx:=
 let t:=s.takeWhile ZQ
 if 1<t.length/\t.getD 0 0=48 then .err 20 else if 2147483647<Z0u t then .err 5 else .ok ⟨2,0,t,Z0u t⟩
def Jc:Str:=[64,100,100,100,100,45,100,100,45,100,100]
def Z4J (c x:UInt8):Bool:=if c=100 then ZQ x else decide (x=c)
def Z94 (s:Str):Lx:=
 if s.length<11 then .err 20 else if ((Jc.zip s).all λp=>Z4J p.1 p.2) then
  (let d:=Z1j ((s.take 11).drop 1);if d.2=0 then .ok ⟨3,0,s.take 11,d.1⟩ else .err 5)
 else .err 20
def Z80:Str:=[123,125,40,41,59,44,43,45,42,60,61,62]
def JZ (s:Str):Lx:=
 if s.take 2=[60,61]\/s.take 2=[33,61]\/s.take 2=[62,61] then .ok ⟨4,0,s.take 2,0⟩
 else if s.getD 0 0∈Z80 then .ok ⟨4,0,s.take 1,0⟩ else .err 20
def JV (s:Str):Lx:=
 let c:=s.getD 0 0
 if Z5A c then Z4T s else if ZQ c then Z37 s else if c=64 then Z94 s else JZ s
def Z1E (c:UInt8):Bool:=c=9 || c=10 || c=13 || c=32
inductive Tks where
 | err (a c:Int)
 | ok (l:List Tkn)
def JQ (nl:Str->Nat) (s:Str):Nat->Nat->List Tkn->Tks
 | 0,at_,l=>.ok (l++[⟨0,at_,[],0⟩])
 | f + 1, at_, l=>
   if at_<s.length then
    let rest:=s.drop at_
    let c:=rest.getD 0 0
    if Z1E c then JQ nl s f (at_+1) l
    else if c=35 then JQ nl s f (at_+nl rest) l
    else match JV rest with
     | .err e=>.err at_ e
     | .ok t=>JQ nl s f (at_+t.text.length) (l++[{ t with pos:=at_ }])
   else .ok (l++[⟨0,at_,[],0⟩])
structure Zjc (t:Tkn):Prop where
 kind:t.kind≠0
 kinds:1<=t.kind/\t.kind<=4
 text:t.text≠[]
 sp:∀ c∈t.text,c≠32
 word:t.kind=1->t.text.length<=12/\(∀ c∈t.text,ldB c=true)/\Z5A (t.text.getD 0 0)=true
 num:t.kind=2->0<=t.num/\t.num<=2147483647
 day:t.kind=3->0<=t.num/\t.num<=3652058
theorem Z0Q {p:UInt8->Bool}:∀ {l:Str} {c:UInt8},c∈l.takeWhile p->p c=true
 | [],c,h=>by simp at h
 | a :: r, c, h => by
   simp only [Ya0] at h;split at h;rename_i ha;rcases Xb.1 h with rfl|h
   exact ha;exact Z0Q h;simp at h
theorem Z03 {p:UInt8->Bool}:∀ (l:Str),l.take (l.takeWhile p).length=l.takeWhile p
 | []=>by simp
 | a :: r => by
   simp only [Ya0];split;simp [Z03 r];simp
theorem Zw1 {c:UInt8} (h:ldB c=true):c≠32:=by rintro rfl;revert h;decide
theorem Zjd {c:UInt8} (h:ZQ c=true):c≠32:=by rintro rfl;revert h;decide
theorem ZsF {c x:UInt8} (h:Z4J c x=true) (hc:c≠32):x≠32:=by
 unfold Z4J at h;split at h;exact Zjd h;simp at h;rw [h];exact hc
theorem ZeR {p:UInt8->UInt8->Bool}:∀ {a s:Str},a.length<=s.length->((a.zip s).all λq=>p q.1 q.2)=true->∀ x∈s.take a.length,∃ c∈a,p c x=true
 | [],s,hl,h,x,hx=>by simp at hx
 | c :: a,[],hl,h,x,hx=>by simp at hl
 | c :: a, y :: s, hl, h, x, hx => by
   simp only [List.zip_cons_cons,YaT,Xl] at h;simp only [Xe,Yaw,Xb] at hx;rcases hx with rfl|hx
   exact ⟨c,by simp,h.1⟩;obtain ⟨d,hd,h'⟩:=ZeR (by simpa using hl) h.2 x hx;exact ⟨d,by simp [hd],h'⟩
theorem Z1k (y m:Int):ZK y m<=31:=by
 unfold ZK;repeat' split
 all_goals omega
theorem dayM_range {y m d:Int} (hy:1<=y) (eq:y<=9999) (hm:1<=m) (eM:m<=12) (hd:1<=d) (kp:d<=ZK y m):0<=Z0a y m d/\Z0a y m d<=3652058:=by
 have pW:=Z1k y m;have j6:m=1\/m=2\/m=3\/m=4\/m=5\/m=6\/m=7\/m=8\/m=9\/m=10\/m=11\/m=12:=by omega
 unfold Z0a;rcases j6 with rfl|rfl|rfl|rfl|rfl|rfl|rfl|rfl|rfl|rfl|rfl|rfl<;>simp<;>omega
theorem ZbS (s:Str):0<=(Z1j s).1/\(Z1j s).1<=3652058:=by
 unfold Z1j;split;simp only;split;simp;rename_i h;simp only [not_or,Int.not_lt] at h;exact dayM_range h.1 h.2.1 h.2.2.1 h.2.2.2.1 h.2.2.2.2.1 h.2.2.2.2.2;simp
theorem Z2I {s:Str} {t:Tkn} (hs:s≠[]) (bD:s.getD 0 0≠32) (h:JV s=.ok t):Zjc t/\t.text.length<=s.length/\t.text=s.take t.text.length:=by
 obtain ⟨a,r,rfl⟩:∃ a r,s=a :: r:=by cases s with|nil=>exact absurd rfl hs|cons a r=>exact ⟨a,r,rfl⟩
 simp only [Xz] at bD;unfold JV at h;simp only [Xz] at h;split at h;rename_i hl;unfold Z4T at h;simp only at h;split at h;simp at h;rename_i hn;simp only [Lx.ok.injEq] at h;subst h;have pX:ldB a=true:=by simp [ldB,hl]
 have aR:(a :: r).takeWhile ldB=a :: r.takeWhile ldB:=by simp [pX]
 have ht:=Z03 (p:=ldB) (a :: r);refine ⟨⟨by simp,by simp,?_,?_,λ_=>⟨?_,?_,?_⟩,by simp,by simp⟩,by simp;omega,by simp⟩;simp only;rw [ht,aR];simp;simp only;rw [ht];exact λc hc=>Zw1 (Z0Q hc);simp only;rw [ht];omega;simp only;rw [ht];exact λc hc=>Z0Q hc;simp only;rw [ht,aR];simpa using hl;split at h;rename_i hl;unfold Z37 at h;simp only at h;split at h;simp at h;split at h;simp at h;rename_i hn;simp only [Lx.ok.injEq] at h;subst h;have aR:(a :: r).takeWhile ZQ=a :: r.takeWhile ZQ:=by simp [hl]
 have ht:=Z03 (p:=ZQ) (a :: r);have ai:=congrArg List.length ht;simp only [Xv] at ai;refine ⟨⟨by simp,by simp,?_,?_,by simp,λ_=>⟨?_,?_⟩,by simp⟩,?_,?_⟩;simp only;rw [aR];simp;exact λc hc=>Zjd (Z0Q hc);simp only;omega;simp only;omega;simp only;omega;exact ht.symm;split at h;rename_i jN;unfold Z94 at h;split at h;simp at h;rename_i lN;split at h;rename_i hf;simp only at h;split at h;simp only [Lx.ok.injEq] at h;subst h;have hd:=ZbS (((a :: r).take 11).drop 1);refine ⟨⟨by simp,by simp,by simp,?_,by simp,by simp,λ_=>hd⟩,by simp;omega,by simp⟩;intro c hc;obtain ⟨x,hx,h'⟩:=ZeR (a:=Jc) (s:=a :: r) (by simp only [Jc,Xe,Xf] at lN ⊢;omega) hf c hc;exact ZsF h' (by revert hx;simp only [Jc];intro hx h0;subst h0;simp at hx);simp at h;simp at h;unfold JZ at h;split at h;rename_i h2;simp only [Lx.ok.injEq] at h;subst h;refine ⟨⟨by simp,by simp,by simp,?_,by simp,by simp,by simp⟩,by simp;omega,by simp⟩;simp only;intro c hc;rcases h2 with h2|h2|h2<;>rw [h2] at hc<;>(rintro rfl;simp at hc)
 split at h;simp only [Lx.ok.injEq] at h;subst h;refine ⟨⟨by simp,by simp,by simp,?_,by simp,by simp,by simp⟩,by simp,by simp⟩;simp only [Yaw,Ybs,Xk];rintro c rfl;exact bD;simp at h
theorem Z38 {nl:Str->Nat} {s:Str} (ax:s.length<=4000):∀ (f at_:Nat) (l l':List Tkn),(∀ t∈l,Zjc t)->(∀ t∈l,t.text.length<=4000)->l.length<=at_->l.length<=s.length->JQ nl s f at_ l=.ok l'->
 ∃ l1 p,l'=l1++[⟨0,p,[],0⟩]/\(∀ t∈l1,Zjc t)/\(∀ t∈l1,t.text.length<=4000)/\l1.length<=s.length
 | 0, at_, l, l', h1, h2, h3, h4, h => by
   simp only [JQ,Tks.ok.injEq] at h;exact ⟨l,_,h.symm,h1,h2,h4⟩
 | f + 1, at_, l, l', h1, h2, h3, h4, h => by
   simp only [JQ] at h;split at h;rename_i ag;split at h;exact Z38 ax f _ _ _ h1 h2 (by omega) h4 h;split at h;exact Z38 ax f _ _ _ h1 h2 (by omega) h4 h
   . rename_i mL _
     cases hr:JV (s.drop at_) with
     | err e=>rw [hr] at h;simp at h
     | ok t=>
       rw [hr] at h;simp only at h;obtain ⟨g1,g2,g3⟩:=Z2I (s:=s.drop at_) (by simp;omega) (by rintro ku;rw [ku] at mL;exact mL (by decide)) hr;have br:1<=t.text.length:=by
        have:=g1.text;cases ht:t.text with
        | nil=>exact absurd ht this
        | cons a r=>simp
       have ai:t.text.length<=s.length - at_:=by simpa using g2
       refine Z38 ax f _ _ _ ?_ ?_ ?_ ?_ h;intro u hu;rcases Xi.1 hu with hu|hu
       exact h1 u hu;simp only [Xk] at hu;subst hu;exact ⟨g1.kind,g1.kinds,g1.text,g1.sp,g1.word,g1.num,g1.day⟩;intro u hu;rcases Xi.1 hu with hu|hu
       exact h2 u hu;simp only [Xk] at hu;subst hu;simp only;omega;simp;omega;simp;omega
   simp only [Tks.ok.injEq] at h;exact ⟨l,_,h.symm,h1,h2,h4⟩
theorem Zmu {l1:List Tkn} {p:Int} (h1:∀ t∈l1,Zjc t) (h2:∀ t∈l1,t.text.length<=4000) (h3:l1.length<=4000) (h4:∀ t∈l1,t.text∉Z3u):Z3P (l1++([⟨0,p,[],0⟩]:List Tkn)):=by
 have hc:∀ i,cur (l1++([⟨0,p,[],0⟩]:List Tkn)) i=⟨0,p,[],0⟩\/cur (l1++([⟨0,p,[],0⟩]:List Tkn)) i=default\/cur (l1++([⟨0,p,[],0⟩]:List Tkn)) i∈l1:=by
  intro i;unfold cur;rw [XC,List.getElem?_append];split;rename_i h
  right;right;simp [h]
  . cases hk:i - l1.length with
    | zero=>left;simp
    | succ j=>right;left;simp
 refine ⟨by simp,?_,?_,by simp;omega,?_,?_,?_⟩;have:cur (l1++([⟨0,p,[],0⟩]:List Tkn)) ((l1++([⟨0,p,[],0⟩]:List Tkn)).length - 1)=⟨0,p,[],0⟩:=by
  unfold cur;simp
 rw [this];exact ⟨rfl,rfl⟩;intro i hi;have cp:i<l1.length:=by simpa using hi
 have:cur (l1++([⟨0,p,[],0⟩]:List Tkn)) i=l1[i]:=by
  unfold cur;rw [XC,Yaa cp];simp [cp]
 rw [this];have:=h1 _ (Xd cp);exact ⟨this.kind,this.text⟩;intro i c bR;rcases hc i with h|h|h
 rw [h] at bR;simp at bR;rw [h] at bR;simp [default] at bR;exact (h1 _ h).sp c bR;intro i;rcases hc i with h|h|h
 rw [h];simp;rw [h];simp [default];exact h2 _ h;intro i;rcases hc i with h|h|h
 rw [h];exact (by decide:([]:Str)∉Z3u);rw [h];exact (by decide:([]:Str)∉Z3u);exact h4 _ h
def JT (s:Str) (p:Nat->Bool):Nat->Nat->Nat
 | 0,_=>s.length
 | f+1,i=>if i<s.length then (if p (dec s i).1 then JT s p f (i+(dec s i).2) else i) else s.length
theorem Z9v (s:Str) (p:Nat->Bool):∀ (f i:Nat),JT s p f i<=s.length
 | 0,i=>Xn _
 | f + 1, i => by
   unfold JT;split;split;exact Z9v s p f _;omega;exact Xn _
theorem Z9w (s:Str) (p:Nat->Bool):∀ (f i:Nat),i<=s.length->i<=JT s p f i
 | 0,i,h=>h
 | f + 1, i, h => by
   unfold JT;split;split;by_cases hw:i+(dec s i).2<=s.length;exact Xg (Nat.le_add_right _ _) (Z9w s p f _ hw)
   . have:∀ f j,s.length<j->JT s p f j=s.length:=λf j hj=>by
      cases f with
      | zero=>rfl
      | succ f=>unfold JT;rw [if_neg (by omega)]
     rw [this _ _ (by omega)];omega
   exact Xn _;exact h
theorem Z39 (p:Nat->Bool) (q:UInt8->Bool) (hq:∀ c:UInt8,c.toNat<128->p c.toNat=q c) (hp:∀ n,128<=n->p n=false) (ip:∀ c:UInt8,128<=c.toNat->q c=false) (s:Str) :
 ∀ (f i:Nat),i<=s.length->s.length<=i+f->JT s p f i=i+((s.drop i).takeWhile q).length
 | 0, i, h1, h2 => by
   have:i=s.length:=by omega
   subst this;simp [JT]
 | f + 1, i, h1, h2 => by
   unfold JT;by_cases ag:i<s.length;rw [if_pos ag];have hd:s.drop i=s[i] :: s.drop (i+1):=Yac ag;rw [hd,Ya0];by_cases ha:(s[i]).toNat<128;rw [Z4p ag ha];simp only [hq _ ha];split;rw [Z39 p q hq hp ip s f (i+1) (by omega) (by omega),Xe];omega;simp;have h3:=(ZbP ag (by omega)).1;rw [hp _ h3,ip _ (by omega)];simp;rw [if_neg ag];rw [YaA (by omega)];simp;omega
def Zaz (n:Nat):Bool:=decide (97<=n) && decide (n<=122)
def Z6g (n:Nat):Bool:=decide (48<=n) && decide (n<=57)
def Z81 (n:Nat):Bool:=decide (¬ n=10)
def nlM (s:Str):Nat:=JT s Z81 s.length 0
def Z00 (s:Str):Tks:=if 4000<s.length then .err 4000 2 else JQ nlM s (s.length+1) 0 []
theorem ZfR (s:Str):JT s Z6g s.length 0=(s.takeWhile ZQ).length:=by
 rw [Z39 Z6g ZQ (λc h=>rfl) (λn h=>by unfold Z6g;simp;omega) (λc h=>by unfold ZQ;simp;omega) s s.length 0 (by omega) (by omega)];simp
theorem Zje (s:Str):JT s (λn=>Zaz n || Z6g n) s.length 0=(s.takeWhile ldB).length:=by
 rw [Z39 (λn=>Zaz n || Z6g n) ldB (λc h=>rfl) (λn h=>by unfold Zaz Z6g;simp;omega) (λc h=>by unfold ldB Z5A ZQ;simp;omega) s s.length 0 (by omega) (by omega)];simp
end Go.Eng
namespace Go.Proofs.YtipfkbkkndacjaaGreatDoor
open Go Go.Eng Go.RowKit Go.Proofs
theorem Z82 (c:Nat) (w):CC 219 #[.int .i32 (c:Int)] w λr w'=>r=.B (Zaz c)/\w'=w:=by
 unfold Zaz;refine cW1 9 Tryz.func219 ?_
 (refine QP ?_ ?_<;>intro hg)
 all_goals refine WR ?_
 all_goals refine .mk ⟨?_,rfl⟩
 all_goals congr 1
 all_goals (first|done|(rw [Yad];simp;omega)|(simp [*]))
theorem Z4q (c:Nat) (w):CC 221 #[.int .i32 (c:Int)] w λr w'=>r=.B (Z6g c)/\w'=w:=by
 unfold Z6g;refine cW1 9 Tryz.func221 ?_
 (refine QP ?_ ?_<;>intro hg)
 all_goals refine WR ?_
 all_goals refine .mk ⟨?_,rfl⟩
 all_goals congr 1
 all_goals (first|done|(rw [Yad];simp;omega)|(simp [*]))
theorem ZsG (c:Nat) (w):CC 218 #[.int .i32 (c:Int)] w λr w'=>r=.B (Z81 c)/\w'=w:=by
 unfold Z81;refine cW1 5 Tryz.func218 ?_;refine QO ?_;all_goals refine WR ?_
 all_goals refine .mk ⟨?_,rfl⟩
 all_goals congr 1
 all_goals (first|done|(rw [Yad];simp;omega)|(simp [*]))
theorem ZsH (c:Nat) (w):CC 275 #[.int .i32 (c:Int)] w λr w'=>r=.B (Zaz c || Z6g c)/\w'=w:=by
 refine cW1 9 Tryz.func275 ?_;refine W ?_;refine CL (Z82 c _) ?_;rintro _ _ ⟨rfl,rfl⟩;cases Zaz c;refine W ?_;refine CL (Z4q c _) ?_;rintro _ _ ⟨rfl,rfl⟩;refine RT ?_;exact ⟨rfl,rfl⟩;refine RT ?_;exact ⟨rfl,rfl⟩
theorem Z6h {g:Nat} {fn:Func} [hf:Fun Tryz.prog g fn] (p:Nat->Bool) (hg:∀ (c:Nat) (w),CC g #[.int .i32 (c:Int)] w λr w'=>r=.B (p c)/\w'=w) (s:Str) (w) (hl:s.length<=1000000) :
 CC 217 #[str s,.func (.func g) #[] #[]] w λr w'=>r=.I (JT s p s.length 0:Int)/\Stp [] w w':=by
 refine cW2 20 Tryz.func217 ?_;refine W ?_;refine Z1 (ZbQ rfl) rfl ?_;rintro _ w1 ⟨b,rfl,hb,hI,hS⟩;refine W ?_;refine Zt (σ:=Nat×Nat) (λq=>[(0,str s),(1,.func (.func g) #[] #[]),(8,pQ b)]) (λq w'=>Itr w' b s q.2/\Stp [] w w'/\JT s p q.1 q.2=JT s p s.length 0/\s.length<=q.2+q.1) (λq=>q.1+1 - (if q.2<s.length then 0 else 1)) (s.length,0) ⟨rfl,rfl,rfl,trivial⟩ ⟨hI,hS,rfl,by omega⟩ ?_;rintro ⟨f,i⟩ w2 ⟨hI,hS,he,dE⟩;dsimp only at hI hS he dE ⊢;generalize JT s p s.length 0=R at he ⊢;by_cases ag:i<s.length;obtain ⟨f,rfl⟩:∃ f',f=f'+1:=⟨f - 1,by omega⟩
 have hd:=Zmt ag;unfold JT at he;rw [if_pos ag] at he;refine W ?_;refine Z1 (ZeQ rfl hI ag) rfl ?_;rintro _ w3 ⟨rfl,uD,hT⟩;replace hS:=hS.ow hT;refine W ?_;refine CL (hg _ _) ?_;rintro _ _ ⟨rfl,rfl⟩;cases sM:p (dec s i).1;rw [sM] at he;refine W ?_;refine WR ?_;simp only [XO,if_false] at he;exact .mk ⟨by rw [<- he];rfl,hS⟩
 . rw [sM] at he
   refine W ?_;refine Zx (f,i+(dec s i).2) ⟨rfl,rfl,rfl,trivial⟩ ⟨uD,hS,he,by dsimp only;omega⟩ ?_;dsimp only;repeat' split
   all_goals omega
 . refine W ?_
   refine Z1 (Z7Z rfl hI ag) rfl ?_;rintro _ _ ⟨rfl,rfl⟩;refine W ?_;refine WR ?_;refine .mk ⟨?_,hS⟩;rw [<- he];cases f with
   | zero=>rfl
   | succ f=>unfold JT;rw [if_neg ag]
end Go.Proofs.YtipfkbkkndacjaaGreatDoor
