/-
Contracts and plain laws, merged out of own texts.
-/
import Derived.Test.YtipfkbkkndacjaaGreatDoorQ1
import Derived.Lib.ItoaNum
import Derived.Laws.RangeString
import Derived.Laws.RangeAny
import Derived.Lib.AppendZeros
import Derived.Laws.OwnMore
import Derived.Deep.Slices
import Derived.Deep.Fields
import Derived.ChangeSame
import Derived.Below
set_option linter.unusedVariables false
set_option linter.unusedSimpArgs false
set_option maxHeartbeats 4000000
set_option maxRecDepth 20000
namespace Go.Proofs.YtipfkbkkndacjaaGreatDoor
open Go Go.Eng Go.RowKit
def ZP:Nd->Nat
 | .mk k n s l=>1+(l.map ZP).sum
theorem Z1a (x:Nd):ZP x=1+(x.kids.map ZP).sum:=by
 cases x;rw [ZP];rfl
theorem Z93 {l:List Nat} {a:Nat} (h:a∈l):a<=l.sum:=by
 induction l with
 | nil=>cases h
 | cons x r ih=>
   rw [List.sum_cons];rcases Xb.1 h with rfl|h
   omega;have:=ih h;omega
theorem ZiY {x y:Nd} (h:y∈x.kids):ZP y<ZP x:=by
 rw [Z1a x];have:=Z93 (Yam (f:=ZP) h);omega
theorem ZiZ (x:Nd):1<=ZP x:=by rw [Z1a];omega
theorem ZdK (l:List Nd):l.length<=(l.map ZP).sum:=by
 induction l with
 | nil=>simp
 | cons x r ih=>
   have:=ZiZ x;simp;omega
theorem Z3K (x:Nd):ZP x<=1000->okN x=true:=by
 induction x using Nd.ind with
 | h k n s l ih=>
 intro h;rw [ZeT];have h1:=Z1a (.mk k n s l);have h2:=ZdK l;refine ⟨?_,λy hy=>ih y hy ?_⟩;show l.length<=1000;have:ZP (.mk k n s l)=1+(l.map ZP).sum:=h1;omega;have:=ZiY (x:=.mk k n s l) (y:=y) hy;omega
theorem Z7S (X:List Nat) (v:Value) (x:Nd) (w) (aO:okN x=true) (hn:ZA x<=1000000) (hx:NdV X w v x) :
 CC 107 #[v] w λr w'=>r=.tuple #[.I (if ZA x<=12 then Zf x else 0),.I (if ZA x<=12 then (if Zf x=0 then 21 else 0) else 2)]/\Stp [] w w':=by
 obtain ⟨kv,rfl,hs⟩:=hx;refine cW1 13 Tryz.func107 ?_;refine W ?_;refine Z0 (Zr rfl) rfl ?_;rintro _ w1 ⟨b,rfl,lY,ac,hS⟩;replace ac:Blk w1 b _ (ndC x kv):=ac;replace hs:=hs.up hS;refine W ?_;refine CL (ZbN x X _ _ hn ⟨kv,rfl,hs⟩) ?_;rintro _ w2 ⟨rfl,ah⟩;replace hs:=hs.up ah;replace ac:=ac.up ah;replace hS:=hS.trans ah;by_cases hn:ZA x<=12;rw [if_pos hn,if_pos hn];refine QO ?_;refine CL (ZfP x X _ _ aO ⟨kv,rfl,hs⟩) ?_;rintro _ w3 ⟨rfl,ak⟩;replace hS:=hS.trans ak
 (refine QP ?_ ?_<;>intro hc)
 refine RU ?_;exact ⟨by rw [if_pos hc,hc],hS⟩;refine RU ?_;exact ⟨by rw [if_neg hc],hS⟩;rw [if_neg hn,if_neg hn];refine RT ?_;exact ⟨rfl,hS⟩
theorem Z5a {x:Nd} (h:Zf x≠0):x.kids.length<=3/\∀ y∈x.kids,Zf y≠0:=by
 rw [Z0I] at h;unfold JF at h;refine ⟨?_,λy hy e=>?_⟩;by_cases hl:(x.kids.map Zf).length > 3;rw [if_pos hl] at h;exact absurd rfl h;simpa using hl;by_cases hl:(x.kids.map Zf).length > 3;rw [if_pos hl] at h;exact absurd rfl h;rw [if_neg hl,if_pos (by rw [<- e];exact Yam hy)] at h;exact absurd rfl h
def Z7T:List Str:=[[110,101,120,116],[112,114,101,118],[108,97,116,101,114],[101,97,114,108,105,101,114],[98,101,116,119,101,101,110]]
inductive Zos (k:Int) (s:Str) (m:Nat):Prop
 | neg (h:k=5) (hs:s=[45]\/s=[110,111,116]) (hm:m=1)
 | bin (h:k=6) (hs:s∈Z0U\/s∈Z2f\/s∈Z0H) (hm:m=2)
 | unit (h:k=7\/k=8) (hs:s∈J7) (hm:m=2)
 | cond (h:k=9) (hm:m=3)
 | call (h:k=10) (hs:s∈Z7T) (hm:1<=m/\m<=2)
theorem Z6Y {x:Nd} (h:Zf x≠0) (hk:x.kids≠[]):x.num=0/\Zos x.kind x.word x.kids.length:=by
 have hl:=(Z5a h).1;rw [ZeS] at h;have ai:(x.kids.map Zf).length=x.kids.length:=by simp
 have aU:¬ x.kids.map Zf=[]:=by simpa using hk
 generalize x.kids.map Zf=ts at *;rw [<- ai];unfold Z4R at h;rw [if_neg aU] at h;have hn:x.num=0:=Decidable.byContradiction (λhn=>by rw [if_pos hn] at h;exact absurd rfl h);refine ⟨hn,?_⟩;rw [if_neg (by simpa using hn)] at h;have cp:∀ m:List Int,Z0e ts m=true->ts.length=m.length:=λm hm=>by rw [(ZbJ.1 hm).1]
 by_cases k5:x.kind=5;rw [if_pos k5] at h;split at h;rename_i hh;rcases hh with ⟨h1,h2⟩|⟨h1,h2⟩
 exact .neg k5 (.inl h1) (cp _ h2);exact .neg k5 (.inr h1) (cp _ h2);exact absurd rfl h;rw [if_neg k5] at h;by_cases k6:x.kind=6;rw [if_pos k6] at h;unfold Zar at h;simp only [Z33] at h;split at h;rename_i hh;exact .bin k6 (.inl hh.1) (cp _ hh.2);split at h;rename_i hh;rcases hh.2 with h2|h2
 exact .bin k6 (.inr (.inl hh.1)) (cp _ h2);exact .bin k6 (.inr (.inl hh.1)) (cp _ h2);split at h;rename_i hh;exact .bin k6 (.inr (.inr hh.1)) (cp _ hh.2);exact absurd rfl h;rw [if_neg k6] at h;by_cases k78:x.kind=7\/x.kind=8;rw [if_pos k78] at h;simp only [Z33] at h;split at h;rename_i hh;exact .unit k78 hh.1 (cp _ hh.2);exact absurd rfl h;rw [if_neg k78] at h;by_cases k9:x.kind=9;rw [if_pos k9] at h;split at h;rename_i hh;exact .cond k9 hh.2.1;exact absurd rfl h;rw [if_neg k9] at h;by_cases k10:x.kind=10;rw [if_pos k10] at h;unfold Z6X at h;simp only [Z33] at h;split at h;rename_i hh;refine .call k10 ?_ (by have:=cp _ hh.2;simp at this;omega);have:=hh.1;simp only [Z2z,Z7T,Xb,Xj,or_false] at this ⊢;rcases this with h|h<;>simp [h]
 split at h;rename_i hh;refine .call k10 ?_ (by have:=cp _ hh.2;simp at this;omega);have:=hh.1;simp only [Z2A,Z7T,Xb,Xj,or_false] at this ⊢;rcases this with h|h<;>simp [h]
 split at h;rename_i hh;refine .call k10 ?_ (by have:=cp _ hh.2;simp at this;omega);simp [Z7T,hh.1];exact absurd rfl h;rw [if_neg k10] at h;exact absurd rfl h
theorem ZdL {x:Nd} (h:Zf x≠0) (hk:x.kids=[]):1<=x.kind/\x.kind<=4:=by
 rw [Z0I,hk] at h;simp [JF] at h;unfold Z14 at h
 grind
end Go.Proofs.YtipfkbkkndacjaaGreatDoor
namespace Go.Eng
open Go
structure Ins where
 op:Int
 n:Int
 deriving DecidableEq,Inhabited
instance:Z3 Ins where
 k:=2
 enc:=λx=>[.I x.op,.I x.n]
 len:=λ_=>rfl
 one:=by intro x u hu;simp at hu;rcases hu with rfl|rfl<;>rfl
def agg {α:Type} [Z3 α] (x:α):Value:=aG x
theorem Row.keep {β:Type} [Z3 β] {X S:List Nat} {w w':World} {base T:Nat} {v:Value} {xs:List β} (h:Row X w base T v xs) (hS:Stp S w w') (hd:∀ b∈S,b∉ob v):Row X w' base T v xs:=by
 have h':Row S w base T v xs:=h;have:=h'.ext (X':=X) hS (λb hb=>⟨hb,hd b hb⟩);obtain ⟨css,h1,h2,h3⟩:=h;refine ⟨css,h1,h2,?_⟩;have h4:Row S w base T v xs:=⟨css,h1,h2,h3⟩
 obtain ⟨ho,hr⟩:=h3;refine ⟨ho,?_⟩;rcases hr with hn|⟨q,cap,cur,rfl,hb,hg,rest⟩
 exact .inl hn;refine .inr ⟨q,cap,cur,rfl,hb,?_,rest⟩;rw [hS.block q (Xl.1 hg).1 (λhq=>hd q hq (by simp [ob]))];exact hg
end Go.Eng
namespace Go.Proofs.YtipfkbkkndacjaaGreatDoor
open Go Go.Eng Go.RowKit
theorem Z7U (a b:Int) (w):(Instr.build 171 #[(0,.I a),(1,.I b)]).run Tryz.prog w=.ok (agg (Ins.mk a b)) w:=by kernel_rfl
theorem Z7A (a:Int) (w):(Instr.build 171 #[(0,.I a)]).run Tryz.prog w=.ok (agg (Ins.mk a 0)) w:=by kernel_rfl
theorem Z34 (d:Ins) (w):(Instr.buildSlice 60 1 #[(0,agg d)]).run Tryz.prog w=.ok (.slice (some ⟨w.heap.size,0,none⟩) 1 1) (w.alloc (.cells (Z3.enc d).toArray 171)):=by kernel_rfl
structure Cod (w:World) (bc base:Nat) (v:Value) (xs:List Ins):Prop where
 blk:Blk w bc 244 [v]
 row:Row [] w base 171 v xs
 apart:bc∉ob v
 low:bc<base
 top:base<=w.heap.size
def Z3u (w:World) (bc base:Nat) (v:Value) (ys:List Ins) (w':World):Prop:=
 ∃ v',Cod w' bc base v' ys/\Stp (bc :: ob v) w w'/\∀ b∈ob v',b∈ob v\/w.heap.size<=b
theorem Cod.up {w w':World} {bc base:Nat} {v:Value} {xs:List Ins} (h:Cod w bc base v xs) (hS:Stp [] w w'):Cod w' bc base v xs:=
 ⟨h.blk.up hS,h.row.up hS,h.apart,h.low,Xh h.top hS.size⟩
theorem Z3u.pre {w0 w w':World} {bc base:Nat} {v:Value} {ys:List Ins} (hS:Stp [] w0 w) (h:Z3u w bc base v ys w'):Z3u w0 bc base v ys w':=by
 obtain ⟨v',h1,h2,h3⟩:=h;exact ⟨v',h1,hS.mn.trans h2,λb hb=>(h3 b hb).imp id (λh=>Xh hS.size h)⟩
theorem Z3u.next {w w1 w2:World} {bc base:Nat} {v v1:Value} {zs:List Ins} (hS:Stp (bc :: ob v) w w1) (hb:∀ b∈ob v1,b∈ob v\/w.heap.size<=b) (h:Z3u w1 bc base v1 zs w2):Z3u w bc base v zs w2:=by
 obtain ⟨v',h1,h2,h3⟩:=h;refine ⟨v',h1,?_,λb dr=>?_⟩;exact hS.own h2 (λb dr=>by
  rcases Xb.1 dr with rfl|h
  exact .inl (by simp);exact (hb b h).imp (λh=>XI _ h) id)
 rcases h3 b dr with h|h
 exact hb b h;exact .inr (Xh hS.size h)
theorem Zot {w w':World} {bc:Nat} {v v':Value} {α:Type} [Z5 α] {u:Value} {xs:List α} (h:SlV (bc :: ob v) w u xs) (hS:Stp (bc :: ob v) w w') (hb:∀ b∈ob v',b∈ob v\/w.heap.size<=b):SlV (bc :: ob v') w' u xs:=
 h.ext hS (λ_ h=>h) (λb dr=>by
  rcases Xb.1 dr with rfl|h
  exact .inl (by simp);exact (hb b h).imp (λh=>XI _ h) id)
theorem Z35 (bc base:Nat) (v:Value) (xs:List Ins) (op n:Int) (w) (hc:Cod w bc base v xs) (hl:xs.length<=1000000) :
 CC 171 #[pQ bc,.I op,.I n] w λr w'=>r=.I (xs.length:Int)/\Z3u w bc base v (xs++[⟨op,n⟩]) w':=by
 obtain ⟨ac,ab,hap,pU,pV⟩:=hc;refine cW3 25 Tryz.func171 ?_;refine W ?_;apply Z7 (vs:=[(0,.I op),(1,.I n)]) rfl (Z7U _ _) rfl;refine Z0 (Z1 (vs:=[(0,agg (Ins.mk op n))]) rfl (Z34 _)) rfl ?_;rintro bv w1 hN;have aq:SlV (ob v++[]) w1 bv [Ins.mk op n]:=hN.slv (λb hb=>(ab.ob_le b (by simpa using hb)).2) rfl rfl (by simp [maxLen]);have ae:=Z9.stp hN;clear hN;have mS:=ab.up ae;have cj:=ac.up ae;have h1:=ae.size;refine Z0 (ZF (X:=[]) (base:=base) rfl (by decide) rfl rfl mS aq (by simp only [Xe,Xg];omega) (by simp only [Xe,Xg,maxLen];omega) (by omega)) rfl ?_;rintro v' w2 ⟨aR,ah,br⟩;have aP:=cj.ext ah hap;have pS:=cj.lt;refine W ?_;refine Z6 (Zb (u:=v') rfl rfl aR.slv0.cells aR.slv0.one aP (by simp)) ?_;rintro _ w3 ⟨ak,aL⟩;replace aL:Blk w3 bc 244 [v']:=aL;have mT:bc∉ob v':=λhb=>by
  rcases br bc hb with h|h
  exact hap h;omega
 have cV:=aR.keep ak (λb hb=>by simp at hb;subst hb;exact mT);have eA:=cV.slv0;have j6:(xs++[Ins.mk op n]).length<=1000001:=by simp only [Xc,Xe,Xg];omega
 refine W ?_;refine WR ?_;refine .mk ⟨?_,v',⟨aL,cV,mT,pU,?_⟩,?_,?_⟩;simp only [Xc,Xe,Xg];congr 1;omega;exact Xh pV (Xh h1 (Xh ah.size ak.size));exact (ae.mn.trans (ah.mono (λx hx=>by simp [hx]))).trans (ak.mono (λx hx=>by simp at hx;simp [hx]));intro b hb;rcases br b hb with h|h
 exact .inl h;exact .inr (by omega)
structure Fr (w0 w:World) (bc base:Nat) (v0 v:Value) (xs:List Ins):Prop where
 cod:Cod w bc base v xs
 stp:Stp (bc :: ob v0) w0 w
 sub:∀ b∈ob v,b∈ob v0\/w0.heap.size<=b
theorem Fr.start {w} {bc base:Nat} {v:Value} {xs:List Ins} (h:Cod w bc base v xs):Fr w w bc base v v xs:=⟨h,Stp.refl _ _,λb hb=>.inl hb⟩
theorem Fr.step {w0 w w':World} {bc base:Nat} {v0 v:Value} {xs ys:List Ins} (h:Fr w0 w bc base v0 v xs) (k:Z3u w bc base v ys w'):∃ v',Fr w0 w' bc base v0 v' ys:=by
 obtain ⟨v',h1,h2,h3⟩:=Z3u.next h.stp h.sub k;exact ⟨v',h1,h2,h3⟩
theorem Fr.up {w0 w w':World} {bc base:Nat} {v0 v:Value} {xs:List Ins} (h:Fr w0 w bc base v0 v xs) (hS:Stp [] w w'):Fr w0 w' bc base v0 v xs:=⟨h.cod.up hS,h.stp.trans hS.mn,h.sub⟩
theorem Fr.fin {w0 w:World} {bc base:Nat} {v0 v:Value} {xs:List Ins} (h:Fr w0 w bc base v0 v xs):Z3u w0 bc base v0 xs w:=⟨v,h.cod,h.stp,h.sub⟩
theorem Fr.sl {w0 w:World} {bc base:Nat} {v0 v:Value} {xs:List Ins} {α:Type} [Z5 α] {u:Value} {ys:List α} (h:Fr w0 w bc base v0 v xs) (hs:SlV (bc :: ob v0) w0 u ys):SlV (bc :: ob v) w u ys:=Zot hs h.stp h.sub
theorem Fr.bk {w0 w:World} {bc base b T:Nat} {v0 v:Value} {xs:List Ins} {cs:List Value} (h:Fr w0 w bc base v0 v xs) (hb:Blk w0 b T cs) (hn:b∉bc :: ob v0):Blk w b T cs:=hb.ext h.stp hn
abbrev Cf:=Nat->List Ins
def chC (c y n:Cf) (p0:Nat):List Ins:=
 c p0 ++ [⟨14, ((p0 + (c p0).length + 1 + (y (p0 + (c p0).length + 1)).length + 1 : Nat) : Int)⟩] ++ y (p0 + (c p0).length + 1) ++
   [⟨13,((p0+(c p0).length+1+(y (p0+(c p0).length+1)).length+1+(n (p0+(c p0).length+1+(y (p0+(c p0).length+1)).length+1)).length:Nat):Int)⟩]++n (p0+(c p0).length+1+(y (p0+(c p0).length+1)).length+1)
def ZdM (x:Nd) (f:Cf):Prop:=∀ (w:World) (bc base:Nat) (v nv:Value) (xs:List Ins),Cod w bc base v xs->NdV (bc :: ob v) w nv x->SlV (bc :: ob v) w Z2e Ze->xs.length+(f xs.length).length<=100000->
 CC 170 #[pQ bc,nv] w λr w'=>Z3u w bc base v (xs++f xs.length) w'
def Zav (X:List Nat) (w:World) (r:Nat) (es:List (Str×List Int)):Prop:=
 ∃ l:List (Str×Value),JL str w r l/\l.length=es.length/\∀ i (h:i<l.length) (h':i<es.length),l[i].1=es[i].1/\SlV (r :: X) w l[i].2 es[i].2
theorem Zav.up {X:List Nat} {w w':World} {r:Nat} {es:List (Str×List Int)} (h:Zav X w r es) (hS:Stp [] w w'):Zav X w' r es:=by
 obtain ⟨l,h1,h2,h3⟩:=h;exact ⟨l,h1.up hS,h2,λi h h'=>⟨(h3 i h h').1,(h3 i h h').2.up hS⟩⟩
theorem ZU {P:Program} {n:Nat} {e:Env} {w} {d:Option Nat} {ty:TypeId} {pos:String} {af:Array Edge} {g:Option (Nat×Bool)} {mt kt et r:Nat} {x y z:Operand} [hm:Und P mt (.map kt et)] [hk:Und P kt .string] {X:List Nat} {es:List (Str×List Int)} {a:Str} {v:Value} {xs:List Int} (hx:ev e x=some (.map (some r))) (hy:ev e y=some (str a)) (hz:ev e z=some v)
 (hr:Zav X w r es) (hv:SlV (r :: X) w v xs) (hn:∀ p∈es,¬ p.1=a):OE P n ⟨d,.insert mt x y z,ty,pos,af,g⟩ e w (λ_ w'=>Zav X w' r (es++[(a,xs)])/\Stp [r] w w'):=by
 obtain ⟨l,h1,h2,h3⟩:=hr;have kJ:∀ p∈l,¬ p.1=a:=by
  intro p hp;obtain ⟨i,hi,rfl⟩:=Xr hp;rw [(h3 i hi (by omega)).1];exact hn _ (Xd _)
 refine (Zv (K:=inferInstance) hx hy hz h1 kJ).mono ?_;rintro _ w' ⟨g1,g2⟩;refine ⟨⟨_,g1,by simp [h2],λi h h'=>?_⟩,g2⟩;by_cases hi:i<l.length;have cA:i<es.length:=by omega
 rw [Yaa hi,Yaa cA];exact ⟨(h3 i hi cA).1,(h3 i hi cA).2.on g2 (by simp)⟩;have kN:i=l.length:=by simp at h;omega
 subst kN;rw [X4 (Xn _),X4 (by omega)];simp only [Nat.sub_self,h2,Ybd];exact ⟨trivial,hv.on g2 (by simp)⟩
def Z7V:List (Str×List Int):=[([43],[5]),([42],[7]),([110,111,116],[12]),([60],[9]),([60,61],[10]),([61],[11]),([62],[10,12]),([62,61],[9,12]),([33,61],[11,12]),([100,97,121,115],[15]),([119,101,101,107,115],[16]),([109,111,110,116,104,115],[17]),([99,111,117,114,116,100,97,121,115],[18]),([110,101,120,116],[19]),([112,114,101,118],[20]),([108,97,116,101,114],[21]),([101,97,114,108,105,101,114],[22]),([98,101,116,119,101,101,110],[23])]
theorem Z94 (X:List Nat) (w:World) (hX:∀ b∈X,b<w.heap.size):CC 290 #[] w λr w'=>∃ m,r=.map (some m)/\Zav X w' m Z7V/\Stp [] w w':=by
 refine cW0 21 Tryz.func290 ?_;refine W ?_;refine Z0 (Z0T str) rfl ?_;rintro _ w1 ⟨m,rfl,hm,au,hS⟩;have aM:Zav X w1 m []:=⟨[],au,rfl,λi h=>absurd h (Xs _)⟩
 have bI:=au.lt;clear au;have eK:∀ b∈m :: X,b<=m:=λb hb=>(Xb.1 hb).elim (λh=>by omega) (λh=>by have:=hX b h;omega)
 refine Z0 (Z1 (vs:=[(0,.I 5)]) rfl (Zt _)) rfl ?_;rintro bv w2 hN;have aq:SlV (m :: X) w2 bv [(5:Int)]:=hN.slv (λb hb=>by have:=eK b hb;omega) rfl rfl (by simp [maxLen]);have ah:=Z9.stp hN;clear hN;replace aM:=aM.up ah;have aH:=ah.size;refine Z6 (ZU (a:=[43]) rfl rfl rfl aM aq (by decide)) ?_;clear aM;rintro _ w3 ⟨aM,ak⟩;have aI:=ak.size;replace bI:=Xa (Xa bI aH) aI;replace hS:=(hS.trans ah).ow ak;clear ah ak aq aH aI;refine Z0 (Z1 (vs:=[(0,.I 7)]) rfl (Zt _)) rfl ?_;rintro bv w2 hN;have aq:SlV (m :: X) w2 bv [(7:Int)]:=hN.slv (λb hb=>by have:=eK b hb;omega) rfl rfl (by simp [maxLen]);have ah:=Z9.stp hN;clear hN;replace aM:=aM.up ah;have aH:=ah.size;refine Z6 (ZU (a:=[42]) rfl rfl rfl aM aq (by decide)) ?_;clear aM;rintro _ w3 ⟨aM,ak⟩;have aI:=ak.size;replace bI:=Xa (Xa bI aH) aI;replace hS:=(hS.trans ah).ow ak;clear ah ak aq aH aI;refine Z0 (Z1 (vs:=[(0,.I 12)]) rfl (Zt _)) rfl ?_;rintro bv w2 hN;have aq:SlV (m :: X) w2 bv [(12:Int)]:=hN.slv (λb hb=>by have:=eK b hb;omega) rfl rfl (by simp [maxLen]);have ah:=Z9.stp hN;clear hN;replace aM:=aM.up ah;have aH:=ah.size;refine Z6 (ZU (a:=[110,111,116]) rfl rfl rfl aM aq (by decide)) ?_;clear aM;rintro _ w3 ⟨aM,ak⟩;have aI:=ak.size;replace bI:=Xa (Xa bI aH) aI;replace hS:=(hS.trans ah).ow ak;clear ah ak aq aH aI;refine Z0 (Z1 (vs:=[(0,.I 9)]) rfl (Zt _)) rfl ?_;rintro bv w2 hN;have aq:SlV (m :: X) w2 bv [(9:Int)]:=hN.slv (λb hb=>by have:=eK b hb;omega) rfl rfl (by simp [maxLen]);have ah:=Z9.stp hN;clear hN;replace aM:=aM.up ah;have aH:=ah.size;refine Z6 (ZU (a:=[60]) rfl rfl rfl aM aq (by decide)) ?_;clear aM;rintro _ w3 ⟨aM,ak⟩;have aI:=ak.size;replace bI:=Xa (Xa bI aH) aI;replace hS:=(hS.trans ah).ow ak;clear ah ak aq aH aI;refine Z0 (Z1 (vs:=[(0,.I 10)]) rfl (Zt _)) rfl ?_;rintro bv w2 hN;have aq:SlV (m :: X) w2 bv [(10:Int)]:=hN.slv (λb hb=>by have:=eK b hb;omega) rfl rfl (by simp [maxLen]);have ah:=Z9.stp hN;clear hN;replace aM:=aM.up ah;have aH:=ah.size;refine Z6 (ZU (a:=[60,61]) rfl rfl rfl aM aq (by decide)) ?_;clear aM;rintro _ w3 ⟨aM,ak⟩;have aI:=ak.size;replace bI:=Xa (Xa bI aH) aI;replace hS:=(hS.trans ah).ow ak;clear ah ak aq aH aI;refine Z0 (Z1 (vs:=[(0,.I 11)]) rfl (Zt _)) rfl ?_;rintro bv w2 hN;have aq:SlV (m :: X) w2 bv [(11:Int)]:=hN.slv (λb hb=>by have:=eK b hb;omega) rfl rfl (by simp [maxLen]);have ah:=Z9.stp hN;clear hN;replace aM:=aM.up ah;have aH:=ah.size;refine Z6 (ZU (a:=[61]) rfl rfl rfl aM aq (by decide)) ?_;clear aM;rintro _ w3 ⟨aM,ak⟩;have aI:=ak.size;replace bI:=Xa (Xa bI aH) aI;replace hS:=(hS.trans ah).ow ak;clear ah ak aq aH aI;refine Z0 (Z1 (vs:=[(0,.I 10),(1,.I 12)]) rfl (Z03 _ _)) rfl ?_;rintro bv w2 hN;have aq:SlV (m :: X) w2 bv [(10:Int),(12:Int)]:=hN.slv (λb hb=>by have:=eK b hb;omega) rfl rfl (by simp [maxLen]);have ah:=Z9.stp hN;clear hN;replace aM:=aM.up ah;have aH:=ah.size;refine Z6 (ZU (a:=[62]) rfl rfl rfl aM aq (by decide)) ?_;clear aM;rintro _ w3 ⟨aM,ak⟩;have aI:=ak.size;replace bI:=Xa (Xa bI aH) aI;replace hS:=(hS.trans ah).ow ak;clear ah ak aq aH aI;refine Z0 (Z1 (vs:=[(0,.I 9),(1,.I 12)]) rfl (Z03 _ _)) rfl ?_;rintro bv w2 hN;have aq:SlV (m :: X) w2 bv [(9:Int),(12:Int)]:=hN.slv (λb hb=>by have:=eK b hb;omega) rfl rfl (by simp [maxLen]);have ah:=Z9.stp hN;clear hN;replace aM:=aM.up ah;have aH:=ah.size;refine Z6 (ZU (a:=[62,61]) rfl rfl rfl aM aq (by decide)) ?_;clear aM;rintro _ w3 ⟨aM,ak⟩;have aI:=ak.size;replace bI:=Xa (Xa bI aH) aI;replace hS:=(hS.trans ah).ow ak;clear ah ak aq aH aI;refine Z0 (Z1 (vs:=[(0,.I 11),(1,.I 12)]) rfl (Z03 _ _)) rfl ?_;rintro bv w2 hN;have aq:SlV (m :: X) w2 bv [(11:Int),(12:Int)]:=hN.slv (λb hb=>by have:=eK b hb;omega) rfl rfl (by simp [maxLen]);have ah:=Z9.stp hN;clear hN;replace aM:=aM.up ah;have aH:=ah.size;refine Z6 (ZU (a:=[33,61]) rfl rfl rfl aM aq (by decide)) ?_;clear aM;rintro _ w3 ⟨aM,ak⟩;have aI:=ak.size;replace bI:=Xa (Xa bI aH) aI;replace hS:=(hS.trans ah).ow ak;clear ah ak aq aH aI;refine Z0 (Z1 (vs:=[(0,.I 15)]) rfl (Zt _)) rfl ?_;rintro bv w2 hN;have aq:SlV (m :: X) w2 bv [(15:Int)]:=hN.slv (λb hb=>by have:=eK b hb;omega) rfl rfl (by simp [maxLen]);have ah:=Z9.stp hN;clear hN;replace aM:=aM.up ah;have aH:=ah.size;refine Z6 (ZU (a:=[100,97,121,115]) rfl rfl rfl aM aq (by decide)) ?_;clear aM;rintro _ w3 ⟨aM,ak⟩;have aI:=ak.size;replace bI:=Xa (Xa bI aH) aI;replace hS:=(hS.trans ah).ow ak;clear ah ak aq aH aI;refine Z0 (Z1 (vs:=[(0,.I 16)]) rfl (Zt _)) rfl ?_;rintro bv w2 hN;have aq:SlV (m :: X) w2 bv [(16:Int)]:=hN.slv (λb hb=>by have:=eK b hb;omega) rfl rfl (by simp [maxLen]);have ah:=Z9.stp hN;clear hN;replace aM:=aM.up ah;have aH:=ah.size;refine Z6 (ZU (a:=[119,101,101,107,115]) rfl rfl rfl aM aq (by decide)) ?_;clear aM;rintro _ w3 ⟨aM,ak⟩;have aI:=ak.size;replace bI:=Xa (Xa bI aH) aI;replace hS:=(hS.trans ah).ow ak;clear ah ak aq aH aI;refine Z0 (Z1 (vs:=[(0,.I 17)]) rfl (Zt _)) rfl ?_;rintro bv w2 hN;have aq:SlV (m :: X) w2 bv [(17:Int)]:=hN.slv (λb hb=>by have:=eK b hb;omega) rfl rfl (by simp [maxLen]);have ah:=Z9.stp hN;clear hN;replace aM:=aM.up ah;have aH:=ah.size;refine Z6 (ZU (a:=[109,111,110,116,104,115]) rfl rfl rfl aM aq (by decide)) ?_;clear aM;rintro _ w3 ⟨aM,ak⟩;have aI:=ak.size;replace bI:=Xa (Xa bI aH) aI;replace hS:=(hS.trans ah).ow ak;clear ah ak aq aH aI;refine Z0 (Z1 (vs:=[(0,.I 18)]) rfl (Zt _)) rfl ?_;rintro bv w2 hN;have aq:SlV (m :: X) w2 bv [(18:Int)]:=hN.slv (λb hb=>by have:=eK b hb;omega) rfl rfl (by simp [maxLen]);have ah:=Z9.stp hN;clear hN;replace aM:=aM.up ah;have aH:=ah.size;refine Z6 (ZU (a:=[99,111,117,114,116,100,97,121,115]) rfl rfl rfl aM aq (by decide)) ?_;clear aM;rintro _ w3 ⟨aM,ak⟩;have aI:=ak.size;replace bI:=Xa (Xa bI aH) aI;replace hS:=(hS.trans ah).ow ak;clear ah ak aq aH aI;refine Z0 (Z1 (vs:=[(0,.I 19)]) rfl (Zt _)) rfl ?_;rintro bv w2 hN;have aq:SlV (m :: X) w2 bv [(19:Int)]:=hN.slv (λb hb=>by have:=eK b hb;omega) rfl rfl (by simp [maxLen]);have ah:=Z9.stp hN;clear hN;replace aM:=aM.up ah;have aH:=ah.size;refine Z6 (ZU (a:=[110,101,120,116]) rfl rfl rfl aM aq (by decide)) ?_;clear aM;rintro _ w3 ⟨aM,ak⟩;have aI:=ak.size;replace bI:=Xa (Xa bI aH) aI;replace hS:=(hS.trans ah).ow ak;clear ah ak aq aH aI;refine Z0 (Z1 (vs:=[(0,.I 20)]) rfl (Zt _)) rfl ?_;rintro bv w2 hN;have aq:SlV (m :: X) w2 bv [(20:Int)]:=hN.slv (λb hb=>by have:=eK b hb;omega) rfl rfl (by simp [maxLen]);have ah:=Z9.stp hN;clear hN;replace aM:=aM.up ah;have aH:=ah.size;refine Z6 (ZU (a:=[112,114,101,118]) rfl rfl rfl aM aq (by decide)) ?_;clear aM;rintro _ w3 ⟨aM,ak⟩;have aI:=ak.size;replace bI:=Xa (Xa bI aH) aI;replace hS:=(hS.trans ah).ow ak;clear ah ak aq aH aI;refine Z0 (Z1 (vs:=[(0,.I 21)]) rfl (Zt _)) rfl ?_;rintro bv w2 hN;have aq:SlV (m :: X) w2 bv [(21:Int)]:=hN.slv (λb hb=>by have:=eK b hb;omega) rfl rfl (by simp [maxLen]);have ah:=Z9.stp hN;clear hN;replace aM:=aM.up ah;have aH:=ah.size;refine Z6 (ZU (a:=[108,97,116,101,114]) rfl rfl rfl aM aq (by decide)) ?_;clear aM;rintro _ w3 ⟨aM,ak⟩;have aI:=ak.size;replace bI:=Xa (Xa bI aH) aI;replace hS:=(hS.trans ah).ow ak;clear ah ak aq aH aI;refine Z0 (Z1 (vs:=[(0,.I 22)]) rfl (Zt _)) rfl ?_;rintro bv w2 hN;have aq:SlV (m :: X) w2 bv [(22:Int)]:=hN.slv (λb hb=>by have:=eK b hb;omega) rfl rfl (by simp [maxLen]);have ah:=Z9.stp hN;clear hN;replace aM:=aM.up ah;have aH:=ah.size;refine Z6 (ZU (a:=[101,97,114,108,105,101,114]) rfl rfl rfl aM aq (by decide)) ?_;clear aM;rintro _ w3 ⟨aM,ak⟩;have aI:=ak.size;replace bI:=Xa (Xa bI aH) aI;replace hS:=(hS.trans ah).ow ak;clear ah ak aq aH aI;refine Z0 (Z1 (vs:=[(0,.I 23)]) rfl (Zt _)) rfl ?_;rintro bv w2 hN;have aq:SlV (m :: X) w2 bv [(23:Int)]:=hN.slv (λb hb=>by have:=eK b hb;omega) rfl rfl (by simp [maxLen]);have ah:=Z9.stp hN;clear hN;replace aM:=aM.up ah;have aH:=ah.size;refine Z6 (ZU (a:=[98,101,116,119,101,101,110]) rfl rfl rfl aM aq (by decide)) ?_;clear aM;rintro _ w3 ⟨aM,ak⟩;have aI:=ak.size;replace bI:=Xa (Xa bI aH) aI;replace hS:=(hS.trans ah).ow ak;clear ah ak aq aH aI;refine RT ?_;exact ⟨m,rfl,aM,hS⟩
def opF (s:Str):List Int:=match Z7V.find? (λp=>decide (p.1=s)) with|some p=>p.2|none=>[]
theorem ZeU (s:Str):(opF s).length<=2:=by
 unfold opF;cases h:Z7V.find? (λp=>decide (p.1=s)) with
 | none=>simp
 | some p=>
   have hp:=X5 h;have:∀ p∈Z7V,p.2.length<=2:=by decide
   exact this p hp
theorem Zav.get {X:List Nat} {w} {m:Nat} (h:Zav X w m Z7V) (s:Str):∃ l:List (Str×Value),JL str w m l/\SlV X w (Z3E l s (.N)) (opF s):=by
 obtain ⟨l,h1,h2,h3⟩:=h;refine ⟨l,h1,?_⟩;unfold Z3E opF;have hf:(l.find? (λp=>decide (p.1=s))=none/\Z7V.find? (λp=>decide (p.1=s))=none)\/∃ i,∃ (h:i<l.length) (h':i<Z7V.length),l.find? (λp=>decide (p.1=s))=some l[i]/\Z7V.find? (λp=>decide (p.1=s))=some Z7V[i]:=by
  cases hq:l.find? (λp=>decide (p.1=s)) with
  | none=>
    left;refine ⟨rfl,?_⟩;rw [Yar];intro p hp;obtain ⟨i,hi,rfl⟩:=Xr hp;have:=Yar.1 hq l[i] (Xd (by omega))
    rwa [(h3 i (by omega) hi).1] at this
  | some p=>
    right;obtain ⟨hp,i,hi,rfl,hb⟩:=Yas.1 hq;refine ⟨i,hi,by omega,rfl,?_⟩;rw [Yas];refine ⟨by rw [<- (h3 i hi (by omega)).1];exact hp,i,by omega,rfl,λj hj=>?_⟩;rw [<- (h3 j (by omega) (by omega)).1];exact hb j hj
 rcases hf with ⟨e1,e2⟩|⟨i,h,h',e1,e2⟩
 rw [e1,e2];exact ⟨none,0,rfl,Xn _,by simp [maxLen],λ_=>rfl,λi h=>absurd h (Xs _)⟩;rw [e1,e2];exact (h3 i h h').2.ext (Stp.refl [] w) (by simp) (λb hb=>.inl (XI _ hb))
def Jq:List Cf->Nat->List Ins
 | [],_=>[]
 | c :: r,p=>c p++Jq r (p+(c p).length)
theorem Z6Z (a b:List Cf) (p:Nat):Jq (a++b) p=Jq a p++Jq b (p+(Jq a p).length):=by
 induction a generalizing p with
 | nil=>simp [Jq]
 | cons c r ih=>
   simp only [XV,Jq,ih,Xc,Xy];rw [Yat]
theorem Z9p (cs:List Cf) (p i:Nat) (h:i<cs.length):Jq (cs.take (i+1)) p=Jq (cs.take i) p++cs[i] (p+(Jq (cs.take i) p).length):=by
 rw [Xk h,Z6Z];simp [Jq]
theorem Z7B (cs:List Cf) (p i:Nat):(Jq (cs.take i) p).length<=(Jq cs p).length:=by
 have:Jq cs p=Jq (cs.take i) p++Jq (cs.drop i) (p+(Jq (cs.take i) p).length):=by rw [<- Z6Z,XK]
 rw [this,Xc];omega
def Z2g (l:List Int):List Ins:=l.map (λo=>⟨o,0⟩)
def Z0D (k:Int) (s:Str) (cs:List Cf) (p:Nat):List Ins:=Jq cs p++(if k=8\/k=5/\s=[45] then [⟨8,0⟩] else [])++Z2g (opF s)
theorem ZfQ (x:Nd) (cs:List Cf) (bZ:cs.length=x.kids.length) (bh:∀ i (h:i<x.kids.length) (h':i<cs.length),ZdM x.kids[i] cs[i]) (w) (bc base:Nat) (v nv:Value) (xs:List Ins) (hc:Cod w bc base v xs)
 (hx:NdV (bc :: ob v) w nv x) (hF:SlV (bc :: ob v) w Z2e Ze) (hl:xs.length+(Z0D x.kind x.word cs xs.length).length<=100000) :
 CC 234 #[pQ bc,nv] w λr w'=>Z3u w bc base v (xs++Z0D x.kind x.word cs xs.length) w':=by
 have dX:=hl;unfold Z0D at dX;simp only [Xc] at dX;obtain ⟨kv,rfl,hs⟩:=hx;have aS:=hs.max;refine cW2 47 Tryz.func234 ?_;refine W ?_;refine Z0 (Zr rfl) rfl ?_;rintro _ wA ⟨b,rfl,hb,ac,hS⟩;replace ac:Blk wA b _ (ndC x kv):=ac;have kO:∀ b∈bc :: ob v,b<w.heap.size:=λb hb=>by
  rcases Xb.1 hb with rfl|h
  exact hc.blk.lt;exact (hc.row.ob_le b h).2
 have nb:b∉bc :: ob v:=λh=>by have:=kO _ h;omega
 replace hc:=hc.up hS;replace hs:=hs.up hS;replace hF:=hF.up hS;have main:∀ ys w',Z3u wA bc base v ys w'->Z3u w bc base v ys w':=λys w' h=>h.pre hS;refine W ?_;refine Z0j (σ:=Value) (λu=>[(0,pQ bc),(3,pQ b)]) (λu w'=>Fr wA w' bc base v u (xs++Jq cs xs.length)) ?_ ?_;refine LP (σ:=Nat×Value) (λq=>[(0,pQ bc),(3,pQ b),(9,kv),(10,.I (x.kids.length:Int)),(11,.I (q.1:Int))]) (λq w'=>q.1<=x.kids.length/\Fr wA w' bc base v q.2 (xs++Jq (cs.take q.1) xs.length)) (λq=>x.kids.length - q.1) (0,v) ⟨Xq _,by simpa [Jq] using Fr.start hc⟩ ?_;rintro ⟨j,u⟩ w2 ⟨hj,fr⟩;dsimp only at hj fr ⊢;by_cases hlt:j<x.kids.length;have bq:=fr.sl hs;obtain ⟨kv2,dc,cq⟩:=bq.nd hlt;have aA:=Z9p cs xs.length j (by omega);have cT:=Z7B cs xs.length (j+1);have pW:=Z7B cs xs.length j;rw [aA,Xc] at cT;refine QO ?_;apply Z8 (JG rfl rfl bq hlt cq) rfl;refine Z0 Z2 rfl ?_;rintro _ w3 ⟨b3,rfl,dG,aL,ak⟩;refine SB (us:=ndC x.kids[j] kv2) (ZG dc) aL ?_;rintro _ w4 ⟨aJ,bB⟩;have iu:=ak.ow aJ;replace fr:=fr.up iu;replace dc:=dc.up iu;refine W ?_;have ai:(xs++Jq (cs.take j) xs.length).length=xs.length+(Jq (cs.take j) xs.length).length:=Xc;refine CM (Zd rfl rfl) (bh j hlt (by omega) _ bc base _ _ _ fr.cod ⟨kv2,rfl,dc⟩ (fr.sl hF) (by rw [ai];omega)) ?_;rintro _ w5 hq;obtain ⟨u5,fr⟩:=fr.step hq;rw [ai,Xy,<- aA] at fr;refine W ?_;exact QL (j+1,u5) ⟨by dsimp only;omega,fr⟩ (by dsimp only;omega);have ea:j=x.kids.length:=by omega
 subst ea;rw [<- bZ,Xp] at fr;refine QO ?_;exact QT u fr;rintro u w2 fr;have pX:=fr.bk ac nb;unfold Z0D;generalize Jq cs xs.length=A at *;rw [<- Xy,<- Xy];refine Zhy (σ:=Value) (λu=>[(0,pQ bc),(3,pQ b)]) (λu w'=>Fr wA w' bc base v u (xs++A++if x.kind=8\/x.kind=5/\x.word=[45] then [⟨8,0⟩] else [])) ?_ ?_;by_cases gO:x.kind=8\/x.kind=5/\x.word=[45]
 . have iy:(xs++A).length<=1000000:=by simp only [Xc];omega
   rw [if_pos gO];repeat'(first|refine W1 ?_|omega|refine VG ?_ ?_<;>intro hg|refine VC ?_ ?_<;>intro hc)
   all_goals first
    | (refine CL (Z35 bc base _ _ 8 0 _ fr.cod iy) ?_
       rintro _ w3 ⟨rfl,hq⟩;obtain ⟨u3,fr⟩:=fr.step hq;refine W ?_;exact QT u3 fr)
    | (exfalso;rcases gO with h|⟨h1,h2⟩<;>first|omega|contradiction)
 . rw [if_neg gO,XC]
   have iW:¬ x.kind=8:=λh=>gO (.inl h);repeat'(first|refine W1 ?_|omega|refine VG ?_ ?_<;>intro hg|refine VC ?_ ?_<;>intro hc)
   all_goals first
    | exact QT u fr
    | (exfalso;exact gO (.inr ⟨by assumption,by assumption⟩))
 rintro u3 w3 fr;have pX:=fr.bk ac nb;have lZ:=ZeU x.word;generalize hB:xs++A++(if x.kind=8\/x.kind=5/\x.word=[45] then [(⟨8,0⟩:Ins)] else [])=B at *;have xX:B.length<=200000:=by
  rw [<- hB];simp only [Xc];have:(if x.kind=8\/x.kind=5/\x.word=[45] then [(⟨8,0⟩:Ins)] else []).length<=1:=by split<;>simp
  omega
 refine W ?_;refine ZDr 6 [] [] [(1,0),(2,1),(5,0),(0,2),(3,2),(4,0)] (λw1 ae=>?_);replace fr:=fr.up ae;replace pX:=pX.up ae;have s4:∀ b∈bc :: ob u3,b<w1.heap.size:=λb hb=>(Xb.1 hb).elim (λh=>h ▸ fr.cod.blk.lt) (λh=>(fr.cod.row.ob_le b h).2);refine D ?_;refine DC (Z94 (bc :: ob u3) _ s4) (λ_ _ h=>h.choose_spec.2.2) ?_;rintro _ w5 ⟨m,rfl,hm,aD⟩;replace fr:=fr.up aD;obtain ⟨l,bI,ax⟩:=hm.get x.word;refine Za rfl trivial (Zoq (Z1N (K:=inferInstance) (a:=x.word) rfl rfl bI)) (λ_ _ h=>h.2 ▸ Stp.refl _ _) rfl ?_;rintro _ _ ⟨rfl,rfl⟩;generalize Z3E l x.word (.N)=ov at *;generalize opF x.word=O at *;refine D ?_;refine W ?_;refine LP (σ:=Nat×Value) (λq=>[(0,pQ bc),(37,ov),(38,.I (O.length:Int)),(39,.I (q.1:Int))]) (λq w'=>q.1<=O.length/\SlV (bc :: ob q.2) w' ov O/\Fr wA w' bc base v q.2 (B++Z2g (O.take q.1))) (λq=>O.length - q.1) (0,u3) ⟨Xq _,ax,by simpa [Z2g] using fr⟩ ?_;clear fr ax s4;rintro ⟨j,u⟩ w6 ⟨hj,ax,fr⟩;dsimp only at hj fr ⊢;by_cases hlt:j<O.length;have iy:(B++Z2g (O.take j)).length<=1000000:=by simp only [Xc,Z2g,Xt,Xx];omega
 refine QO ?_;refine CL (Z35 bc base _ _ O[j] 0 _ fr.cod iy) ?_;rintro _ w7 ⟨rfl,hq⟩;obtain ⟨u7,oK,aQ,fk⟩:=id hq;have pY:SlV (bc :: ob u7) w7 ov O:=Zot ax aQ fk;have fr7:Fr wA w7 bc base v u7 (B++Z2g (O.take j)++[⟨O[j],0⟩]):=by
  refine ⟨oK,?_,λb hb=>?_⟩;exact fr.stp.own aQ (λb hb=>by
   rcases Xb.1 hb with rfl|h
   exact .inl (by simp);exact (fr.sub b h).imp (λh=>XI _ h) id)
  rcases fk b hb with h|h
  exact fr.sub b h;exact .inr (Xh fr.stp.size h)
 refine W ?_;refine QL (j+1,u7) ⟨by dsimp only;omega,pY,?_⟩ (by dsimp only;omega);dsimp only;rw [Xk hlt];unfold Z2g at fr7 ⊢;rw [XP,<- Xy];exact fr7;have ea:j=O.length:=by omega
 subst ea;rw [Xp] at fr;refine QO ?_;refine WR ?_;exact .mk (main _ _ fr.fin)
def Z15 (k n:Int) (s:Str):Ins:=if k=1 then ⟨1,n⟩ else if k=2 then ⟨2,n⟩ else if k=3 then ⟨3,n⟩ else ⟨4,(ZT s).1⟩
def Z5b:Cf:=λ_=>[]
def Z1e (k n:Int) (s:Str) (cs:List Cf) (p:Nat):List Ins:=
 if cs.length=0 then [Z15 k n s]
 else if k=9 then chC (cs.getD 0 Z5b) (cs.getD 1 Z5b) (cs.getD 2 Z5b) p
 else if k=6/\s=[97,110,100] then chC (cs.getD 0 Z5b) (cs.getD 1 Z5b) (λ_=>[⟨2,0⟩]) p
 else if k=6/\s=[111,114] then chC (cs.getD 0 Z5b) (λ_=>[⟨2,1⟩]) (cs.getD 1 Z5b) p
 else if k=6/\s=[45] then Z0D k s cs p++[⟨6,0⟩]
 else Z0D k s cs p
def Zc:Nd->Nat->List Ins
 | .mk k n s l=>Z1e k n s (l.map Zc)
theorem Z5w (x:Nd):Zc x=Z1e x.kind x.num x.word (x.kids.map Zc):=by
 cases x;rw [Zc];rfl
theorem Zj0 (w):(Instr.build 97 #[(0,.I 2)]).run Tryz.prog w=.ok (.agg #[.I 2,.I 0,str [],.N]) w:=by kernel_rfl
theorem Zj1 (w):(Instr.build 97 #[(0,.I 2),(1,.I 1)]).run Tryz.prog w=.ok (.agg #[.I 2,.I 1,str [],.N]) w:=by kernel_rfl
theorem Zn {α:Type} [Z5 α] (X:List Nat) (w:World):SlV (α:=α) X w (.N) []:=⟨none,0,rfl,Xn _,by simp [maxLen],λ_=>rfl,λi h=>absurd h (Xs _)⟩
theorem Z2l {α:Type} [Z5 α] {X:List Nat} {w w':World} {v u:Value} {l:List α} {i k j:Nat} (hs:SlV X w v l) (hi:i<l.length) (hS:Stp X w w') (h:w.cell? (ZD v i k j)=some u):w'.cell? (ZD v i k j)=some u:=by
 obtain ⟨p,c,rfl,_,_,_,hc⟩:=hs;obtain ⟨b,o,cs,rfl,_,hx,_⟩:=hc i hi;exact hS.cell hx h
theorem SlV.nil {α:Type} [Z5 α] {X:List Nat} {w} {v:Value} {l:List α} (h:SlV X w v l):SlV [] w v l:=h.ext (Stp.refl [] w) (by simp) (by simp)
theorem Z7W {x:Nd} (h:x.kids=[]) (p:Nat):Zc x p=[Z15 x.kind x.num x.word]:=by
 rw [Z5w,h];simp [Z1e]
theorem ZdN {x:Nd} (h:x.kids≠[]):(x.kids.map Zc).length≠0:=by simpa using h
theorem Z7X {x:Nd} {i:Nat} (h:i<x.kids.length):(x.kids.map Zc).getD i Z5b=Zc x.kids[i]:=by simp [List.getD,h]
inductive Smp:Nd->Prop
 | mk {x:Nd} (h6:x.kind≠6) (h9:x.kind≠9) (hk:∀ y∈x.kids,Smp y):Smp x
theorem Smp.k6 {x:Nd} (h:Smp x):x.kind≠6:=by cases h;assumption
theorem Smp.k9 {x:Nd} (h:Smp x):x.kind≠9:=by cases h;assumption
theorem Smp.kids {x:Nd} (h:Smp x):∀ y∈x.kids,Smp y:=by cases h;assumption
theorem ZmR (x:Nd):Zf x≠0->Smp x->ZdM x (Zc x):=by
 induction x using Nd.ind with
 | h k n s l ih=>
 intro j7 gP;have pZ:=(Z5a j7).2;have bh:∀ i (h:i<(Nd.mk k n s l).kids.length) (h':i<((Nd.mk k n s l).kids.map Zc).length),ZdM (Nd.mk k n s l).kids[i] ((Nd.mk k n s l).kids.map Zc)[i]:=by
  intro i h h';rw [List.getElem_map];exact ih _ (Xd h) (pZ _ (Xd h)) (gP.kids _ (Xd h))
 have bZ:((Nd.mk k n s l).kids.map Zc).length=(Nd.mk k n s l).kids.length:=by simp
 have dJ:=Z6Y j7;have p9:=ZdL j7;have ma:=Z5w (.mk k n s l);have mb:=Z7W (x:=.mk k n s l);have iz:(Nd.mk k n s l).kids≠[]->5<=(Nd.mk k n s l).kind:=by
  intro h;rcases (dJ h).2 with ⟨h,_,_⟩|⟨h,_,_⟩|⟨h,_,_⟩|⟨h,_⟩|⟨h,_,_⟩<;>omega
 have qa:(Nd.mk k n s l).kind=6->(Nd.mk k n s l).kids.length=2:=by
  intro h6;by_cases h0:(Nd.mk k n s l).kids=[]
  have:=p9 h0;omega;rcases (dJ h0).2 with ⟨h,_,_⟩|⟨h,_,hm⟩|⟨h,_,_⟩|⟨h,_⟩|⟨h,_,_⟩<;>omega
 have s7:(Nd.mk k n s l).kind=9->(Nd.mk k n s l).kids.length=3:=by
  intro h6;by_cases h0:(Nd.mk k n s l).kids=[]
  have:=p9 h0;omega;rcases (dJ h0).2 with ⟨h,_,_⟩|⟨h,_,hm⟩|⟨h,_,_⟩|⟨h,hm⟩|⟨h,_,_⟩<;>omega
 have j8:=λi=>Z7X (x:=.mk k n s l) (i:=i);generalize (Nd.mk k n s l)=x at *;clear ih;intro w bc base v nv xs iA hx hF hl;obtain ⟨kv,rfl,hs⟩:=hx;refine cW2 63 Tryz.func170 ?_;refine W ?_;refine Z0 (Zr rfl) rfl ?_;rintro _ wA ⟨b,rfl,hb,ac,hS⟩;replace ac:Blk wA b _ (ndC x kv):=ac;have main:∀ ys w',Z3u wA bc base v ys w'->Z3u w bc base v ys w':=λys w' h=>h.pre hS;have kO:∀ b∈bc :: ob v,b<w.heap.size:=λb hb=>by
  rcases Xb.1 hb with rfl|h
  exact iA.blk.lt;exact (iA.row.ob_le b h).2
 have nb:b∉bc :: ob v:=λh=>by have:=kO _ h;omega
 replace iA:=iA.up hS;replace hs:=hs.up hS;replace hF:=hF.up hS;have leaf:∀ op n,[(⟨op,n⟩:Ins)]=Zc x xs.length->∀ w',Z3u wA bc base v (xs++[⟨op,n⟩]) w'->Z3u w bc base v (xs++Zc x xs.length) w':=λop n h w' h'=>h ▸ main _ _ h';repeat'(first|refine W1 ?_|omega|refine VG ?_ ?_<;>intro hg|refine VC ?_ ?_<;>intro hc)
 have h0:x.kids=[]:=Decidable.byContradiction (λh=>by have:=iz h;omega);refine CM (ZN rfl rfl rfl) (Z35 bc base _ _ 1 x.num _ iA (by omega)) ?_;rintro _ w2 ⟨rfl,hq⟩;refine W ?_;refine WR ?_;exact .mk (leaf _ _ (by rw [mb h0,Z15,if_pos (by assumption)]) _ hq);have h0:x.kids=[]:=Decidable.byContradiction (λh=>by have:=iz h;omega);refine CM (ZN rfl rfl rfl) (Z35 bc base _ _ 2 x.num _ iA (by omega)) ?_;rintro _ w2 ⟨rfl,hq⟩;refine W ?_;refine WR ?_;exact .mk (leaf _ _ (by rw [mb h0,Z15,if_neg (by assumption),if_pos (by assumption)]) _ hq);have h0:x.kids=[]:=Decidable.byContradiction (λh=>by have:=iz h;omega);refine CM (ZN rfl rfl rfl) (Z35 bc base _ _ 3 x.num _ iA (by omega)) ?_;rintro _ w2 ⟨rfl,hq⟩;refine W ?_;refine WR ?_;exact .mk (leaf _ _ (by rw [mb h0,Z15,if_neg (by assumption),if_neg (by assumption),if_pos (by assumption)]) _ hq);have h0:x.kids=[]:=Decidable.byContradiction (λh=>by have:=iz h;omega);refine CL (Z9o x.word _ (SlV.nil hF)) ?_;rintro _ w2 ⟨rfl,ah⟩;refine W ?_;refine CM (ZN rfl rfl rfl) (Z35 bc base _ _ 4 (ZT x.word).1 _ (iA.up ah) (by omega)) ?_;rintro _ w3 ⟨rfl,hq⟩;refine W ?_;refine WR ?_;exact .mk (leaf _ _ (by rw [mb h0,Z15,if_neg (by assumption),if_neg (by assumption),if_neg (by assumption)]) _ (hq.pre ah));exact absurd (by assumption) gP.k6;exact absurd (by assumption) gP.k9;have h0:x.kids≠[]:=λh=>by have:=p9 h;omega
 have e0:Z1e x.kind x.num x.word (x.kids.map Zc) xs.length=Z0D x.kind x.word (x.kids.map Zc) xs.length:=by
  rw [Z1e,if_neg (ZdN h0),if_neg (by assumption),if_neg (λh=>absurd h.1 (by assumption)),if_neg (λh=>absurd h.1 (by assumption)),if_neg (λh=>absurd h.1 (by assumption))]
 rw [ma,e0] at hl ⊢;refine CL (ZfQ x _ bZ bh _ bc base _ _ _ iA ⟨kv,rfl,hs⟩ hF hl) ?_;rintro _ w2 hq;refine W ?_;refine WR ?_;exact .mk (main _ _ hq)
theorem Zj2 (l:List Nd) (h:∀ y∈l,∀ p,(Zc y p).length<=8 * ZP y) (p:Nat):(Jq (l.map Zc) p).length<=8 * (l.map ZP).sum:=by
 induction l generalizing p with
 | nil=>simp [Jq]
 | cons x r ih=>
   simp only [Xz,Jq,Xc,List.sum_cons];have h1:=h x (by simp) p;have h2:=ih (λy hy=>h y (by simp [hy])) (p+(Zc x p).length);omega
theorem ZbO (l:List Int):(Z2g l).length=l.length:=by simp [Z2g]
theorem Zj3 {l:List Nd} (h:∀ y∈l,∀ p,(Zc y p).length<=8 * ZP y) (i p:Nat):((l.map Zc).getD i Z5b p).length<=8 * (l.map ZP).getD i 0:=by
 by_cases hi:i<l.length;simp [List.getD,hi];exact h _ (Xd hi) p;simp [List.getD,hi,Z5b]
theorem Zj4 (l:List Nat):l.getD 0 0+l.getD 1 0+l.getD 2 0<=l.sum:=by
 rcases l with _|⟨a,_|⟨b,_|⟨c,r⟩⟩⟩<;>simp<;>omega
theorem Zaw (c y n:Cf) (A B C:Nat) (hc:∀ p,(c p).length<=A) (hy:∀ p,(y p).length<=B) (hn:∀ p,(n p).length<=C) (p:Nat):(chC c y n p).length<=A+B+C+2:=by
 unfold chC;simp only [Xc,Xe,Xg];have h1:=hc p;have h2:=hy (p+(c p).length+1);have h3:=hn (p+(c p).length+1+(y (p+(c p).length+1)).length+1);omega
theorem Z9q (x:Nd):∀ p,(Zc x p).length<=8 * ZP x:=by
 induction x using Nd.ind with
 | h k n s l ih=>
 intro p;rw [Z5w,Z1a];show (Z1e k n s (l.map Zc) p).length<=8 * (1+(l.map ZP).sum);have hs:=Zj4 (l.map ZP);have g:=Zj3 ih;have hp:(Z0D k s (l.map Zc) p).length<=8 * (l.map ZP).sum+3:=by
  unfold Z0D;simp only [Xc,ZbO];have h1:=Zj2 l ih p;have h2:=ZeU s;have h3:(if k=8\/k=5/\s=[45] then [(⟨8,0⟩:Ins)] else []).length<=1:=by split<;>simp
  omega
 unfold Z1e;split;simp;omega;split;refine Xh (Zaw _ _ _ _ _ _ (g 0) (g 1) (g 2) p) (by omega);split;refine Xh (Zaw _ _ _ _ _ 1 (g 0) (g 1) (λ_=>by simp) p) (by omega);split;refine Xh (Zaw _ _ _ _ 1 _ (g 0) (λ_=>by simp) (g 1) p) (by omega);split;simp only [Xc,Xe,Xg];omega;omega
def J2 (x:Nd):List Ins:=Zc x 0++[⟨24,0⟩]
def Z0E (x:Nd):Int:=if ZA x<=12 then (if Zf x=0 then 21 else if (J2 x).length > 200 then 2 else 0) else 2
def Zou (w:World) (x:Nd) (r:Value) (w':World):Prop:=∃ cv,r=.tuple #[cv,.I (Z0E x)]/\(∀ X:List Nat,(∀ b∈X,b<w.heap.size)->SlV X w' cv (if Z0E x=0 then J2 x else []))/\Stp [] w w'
theorem Z3L (v:Value) (x:Nd) (w) (gP:Smp x) (bG:ZP x<=1000) (hx:NdV [] w v x) (hF:SlV [] w Z2e Ze) :
 Calls Tryz.prog 93 #[v] w (Ret (Zou w x)):=by
 have hN:=hx;obtain ⟨kv,rfl,hs⟩:=hx;refine cW1 24 Tryz.func93 ?_;refine W ?_;refine Z0 (Zr rfl) rfl ?_;rintro _ w1 ⟨b,rfl,hb,ac,hS⟩;replace ac:Blk w1 b _ (ndC x kv):=ac;replace hs:=hs.up hS;replace hN:=hN.up hS;replace hF:=hF.up hS;refine W ?_;refine CL (ZiX [] [] _ x _ hN hF) ?_;rintro _ w2 ⟨rfl,ah⟩;replace hs:=hs.up ah;replace hN:=hN.up ah;replace hF:=hF.up ah;replace ac:=ac.up ah;replace hS:=hS.trans ah;by_cases hn:ZA x<=12
 case neg=>
  rw [if_neg hn,if_neg hn];have he:Z0E x=2:=by rw [Z0E,if_neg hn]
  refine QO ?_;refine WR ?_;refine .mk ⟨_,by rw [he];rfl,λX hX=>?_,hS⟩;rw [he,if_neg (by decide)];exact Zn _ _
 by_cases ht:Zf x=0;rw [if_pos hn,if_pos hn,if_pos ht];have he:Z0E x=21:=by rw [Z0E,if_pos hn,if_pos ht]
 refine QO ?_;refine WR ?_;refine .mk ⟨_,by rw [he];rfl,λX hX=>?_,hS⟩;rw [he,if_neg (by decide)];exact Zn _ _;rw [if_pos hn,if_pos hn,if_neg ht];refine QO ?_;refine Z0 Z2 rfl ?_;rintro _ w3 ⟨bc,rfl,xY,gw,ak⟩;replace ac:=ac.up ak;replace gw:Blk w3 bc 244 [.N]:=gw;refine W ?_;have kP:Cod w3 bc w3.heap.size (.N) []:=⟨gw,Row.nil,by simp [ob],gw.lt,Xn _⟩
 have fr:=Fr.start kP;have ai:=Z9q x 0;refine CL (ZmR x ht gP _ bc _ _ _ [] kP ⟨kv,rfl,?_⟩ ?_ ?_) ?_;refine hs.ext ak (by simp) (λc hc=>.inr ?_);simp [ob] at hc;omega;refine hF.ext ak (by simp) (λc hc=>.inr ?_);simp [ob] at hc;omega;simp only [Xg];omega;rintro _ w4 hq;obtain ⟨v4,fr⟩:=fr.step hq;rw [XJ,Xg] at fr;refine W ?_;refine CM (ZN rfl rfl rfl) (Z35 bc _ _ _ 24 0 _ fr.cod (by omega)) ?_;rintro _ w5 ⟨rfl,hq⟩;obtain ⟨v5,fr⟩:=fr.step hq;have mU:Stp [] w w5:=hS.trans (ak.own fr.stp (λc hc=>.inr (by simp [ob] at hc;omega)));have ab:=fr.cod.row;have mN:=fr.cod.blk;have qb:=ab.slv0;have dw:((Zc x 0++[(⟨24,0⟩:Ins)]).length:Int)=(J2 x).length:=rfl;by_cases hg:(J2 x).length > 200;have he:Z0E x=2:=by rw [Z0E,if_pos hn,if_neg ht,if_pos hg]
 refine QO ?_;refine WR ?_;refine .mk ⟨_,by rw [he],λX hX=>?_,mU⟩;rw [he,if_neg (by decide)];exact Zn _ _;have he:Z0E x=0:=by rw [Z0E,if_pos hn,if_neg ht,if_neg hg]
 refine QO ?_;refine WR ?_;refine .mk ⟨_,by rw [he],λX hX=>?_,mU⟩;rw [he,if_pos rfl];exact Row.slv (X:=X) ab (λb hb=>by have:=hX b hb;have:=hS.size;have:=ak.size;omega)
theorem Zt0 (op:BinOp) (x y:Operand) (a b:Ins) (w):(eqGuard op 171 x y (agg a) (agg b)).run Tryz.prog w=.ok () w:=by
 cases op<;>kernel_rfl
end Go.Proofs.YtipfkbkkndacjaaGreatDoor
namespace Go.Eng
open Go Go.RowKit Go.Proofs
def ZI {β:Type} [Z3 β] (T:Nat) (w w':World) (v:Value) (xs:List β):Prop:=Row [] w' w.heap.size T v xs/\Stp [] w w'
section
variable {β:Type} [Z3 β] {T:Nat} {w w' w'':World} {v:Value} {xs ys:List β}
theorem Row.lower {α:Type} [Z5 α] {X:List Nat} {a b:Nat} {xs:List α} (h:Row X w b T v xs) (cU:a<=b):Row X w a T v xs:=by
 obtain ⟨css,h1,h2,h3,h4⟩:=h;refine ⟨css,h1,h2,h3,h4.imp id ?_⟩;rintro ⟨g,cap,cur,e1,e2,rest⟩;exact ⟨g,cap,cur,e1,Xh cU e2,rest⟩
theorem ZI.nil:ZI (β:=β) T w w (.N) []:=⟨Row.nil,Stp.refl _ _⟩
theorem ZI.up (h:ZI T w w' v xs) (hS:Stp [] w' w''):ZI T w w'' v xs:=⟨h.1.up hS,h.2.trans hS⟩
theorem ZI.pre (hS:Stp [] w w') (h:ZI T w' w'' v xs):ZI T w w'' v xs:=⟨h.1.lower hS.size,hS.trans h.2⟩
theorem ZI.one {cs:List Value} {len:Nat} (h:Z9 w T len cs v w') (hl:len=xs.length) (hc:cs=xs.flatMap Z3.enc) (hm:xs.length<=maxLen):ZI T w w' v xs:=⟨h.row (Xn _) hl hc hm,h.choose_spec.2.2.2⟩
theorem ZI.slv (h:ZI T w w' v xs) {X:List Nat} (hX:∀ b∈X,b<w.heap.size):SlV X w' v xs:=Row.slv (X:=X) h.1 hX
theorem ZI.ob_le (h:ZI T w w' v xs):∀ b∈ob v,w.heap.size<=b/\b<w'.heap.size:=h.1.ob_le
theorem ZI.step {S:List Nat} (h:ZI T w w' v xs) (hS:Stp S w' w'') (ho:∀ b∈S,b∈ob v):Stp [] w w'':=h.2.own hS (λb hb=>.inr (h.ob_le b (ho b hb)).1)
section
variable {P:Program} {n:Nat} {e:Env} {d:Option Nat} {ty:TypeId} {pos:String} {af:Array Edge} {g:Option (Nat×Bool)}
theorem JD {x y:Operand} {t bytes:Nat} {u:Value} {z:Value} [ht:Und P t (.slice T)] [hk:Siz P T (Z5.k β)] [hb:Byt P T bytes] [hz:Zer P T z] (dT:z.cells.size=Z5.k β) (aV:0<Z5.k β)
 (hx:ev e x=some v) (hy:ev e y=some u) (h:ZI T w w' v xs) (cF:SlV (ob v) w' u ys) (hbytes:(xs.length+ys.length) * bytes<=140737488355328) (ai:xs.length+ys.length<=maxLen) :
 OE P n ⟨d,.call { callee:=.builtin .append,args:=#[x,y],argTypes:=#[t,t] },ty,pos,af,g⟩ e w' (λv' w''=>ZI T w w'' v' (xs++ys)/\Stp (ob v) w' w''/\∀ b∈ob v',b∈ob v\/w'.heap.size<=b):=by
 refine (ZF (X:=[]) (base:=w.heap.size) dT aV hx hy h.1 (by rw [XC];exact cF) hbytes ai h.2.size).mono ?_;rintro v' w2 ⟨h1,h2,h3⟩;exact ⟨⟨h1,h.step h2 (λ_ hb=>hb)⟩,h2,h3⟩
theorem Zax {i j k:Nat} {t:TypeId} {x y:Operand} {u:Value} {y':β} [bG:Siz P t 1] (hx:ev e x=some (.pointer (some (ZD v i k j)))) (hy:ev e y=some u) (hk:k=Z3.k β)
 (hu:u.cells.toList=[u]) (h1:u.oneCell'=true) (h:ZI T w w' v xs) (hi:i<xs.length) (hj:j<Z3.k β) (bN:Z3.enc y'=(Z3.enc xs[i]).set j u) :
 OE P n ⟨d,.store t x y,ty,pos,af,g⟩ e w' (λ_ w''=>ZI T w w'' v (xs.set i y')/\Stp (ob v) w' w''):=by
 refine (Z4j (β:=β) hx hy hk hu h1 h.1 hi hj bN).mono ?_;rintro _ w2 ⟨h2,h3⟩;exact ⟨⟨h2,h.step h3 (λ_ hb=>hb)⟩,h3⟩
end
end
structure Sl (α:Type) where
 l:List α
instance {α:Type} [Z5 α]:Z5 (Sl α) where
 k:=1
 rep:=λX w x cs=>∃ v,cs=[v]/\SlV X w v x.l
 len:=by rintro X w x cs ⟨v,rfl,_⟩;rfl
 one:=by
  rintro X w x cs ⟨v,rfl,p,c,rfl,_⟩ u hu;simp at hu;subst hu;rfl
 ext:=by
  rintro X S X' w w' x cs ⟨v,rfl,h⟩ hS h1 h2;exact ⟨v,rfl,h.ext hS h1 h2⟩
theorem Z9.slvS {α:Type} [Z5 α] {w w':World} {X:List Nat} {T len:Nat} {vs:List Value} {v:Value} {xss:List (Sl α)} (h:Z9 w T len vs v w') (hX:∀ b∈X,b<w.heap.size) (hl:len=xss.length) (xZ:vs.length=xss.length)
 (hr:∀ i (hi:i<xss.length) (cA:i<vs.length),SlV X w vs[i] xss[i].l) (hm:xss.length<=maxLen):SlV X w' v xss:=by
 obtain ⟨b,rfl,hb,ac,hS⟩:=h;subst hl;refine ⟨some ⟨b,0,none⟩,xss.length,rfl,Xn _,hm,λh=>by simp at h,λi hi=>⟨b,0,[vs[i]'(by omega)],rfl,ac.lt,λhx=>by have:=hX b hx;omega,⟨_,rfl,(hr i hi (by omega)).up hS⟩,λj u hu=>?_⟩⟩;refine ac.cell ?_;have:j=0:=by
  have:=(Xu.1 hu).1;simp at this;exact this
 subst this;simp at hu;subst hu;simp [Z5.k]
theorem SlV.sub {α:Type} [Z5 α] {w} {X:List Nat} {v:Value} {xss:List (Sl α)} {i:Nat} (h:SlV X w v xss) (hi:i<xss.length):∃ u,w.cell? (ZD v i 1 0)=some u/\SlV X w u xss[i].l:=by
 obtain ⟨cs,⟨u,rfl,hu⟩,hc⟩:=h.cell hi;exact ⟨u,hc 0 u rfl,hu⟩
end Go.Eng
namespace Go.Proofs.YtipfkbkkndacjaaGreatDoor
open Go Go.Eng Go.RowKit
theorem Z9r (v:Value) (x:Nd) (w) (hx:NdV [] w v x):CC 186 #[v] w λr w'=>r=agg (Z15 x.kind x.num x.word)/\Stp [] w w':=by
 obtain ⟨kv,rfl,hs⟩:=hx;refine cW1 32 Tryz.func186 ?_;refine W ?_;refine Z0 (Zr rfl) rfl ?_;rintro _ w1 ⟨b,rfl,hb,ac,hS⟩;replace ac:Blk w1 b _ (ndC x kv):=ac;have bG:=hS.size;refine Z0 Z2 rfl ?_;rintro _ w2 ⟨b2,rfl,cu,aP,ah⟩;replace ac:=ac.up ah;replace hS:=hS.trans ah;repeat'(first|refine W1 ?_|omega|refine VG ?_ ?_<;>intro hg|refine VC ?_ ?_<;>intro hc)
 apply Z7 (vs:=[(0,.I 1),(1,.I _)]) rfl (Z7U _ _) rfl;refine SA (us:=Z3.enc (Ins.mk 1 x.num)) aP ?_;rintro _ w3 ⟨ak,aL⟩;refine W ?_;refine J6 rfl rfl rfl aL rfl ?_;refine .mk ⟨by rw [Z15,if_pos (by assumption)];rfl,hS.ow ak⟩;apply Z7 (vs:=[(0,.I 2),(1,.I _)]) rfl (Z7U _ _) rfl;refine SA (us:=Z3.enc (Ins.mk 2 x.num)) aP ?_;rintro _ w3 ⟨ak,aL⟩;refine W ?_;refine J6 rfl rfl rfl aL rfl ?_;refine .mk ⟨by rw [Z15,if_neg (by assumption),if_pos (by assumption)];rfl,hS.ow ak⟩;apply Z7 (vs:=[(0,.I 3),(1,.I _)]) rfl (Z7U _ _) rfl;refine SA (us:=Z3.enc (Ins.mk 3 x.num)) aP ?_;rintro _ w3 ⟨ak,aL⟩;refine W ?_;refine J6 rfl rfl rfl aL rfl ?_;refine .mk ⟨by rw [Z15,if_neg (by assumption),if_neg (by assumption),if_pos (by assumption)];rfl,hS.ow ak⟩;refine CL (Z6W x.word _) ?_;rintro _ w3 ⟨rfl,ak⟩;replace aP:=aP.up ak;replace hS:=hS.trans ak;refine W ?_;apply Z7 (vs:=[(0,.I 4),(1,.I _)]) rfl (Z7U _ _) rfl;refine SA (us:=Z3.enc (Ins.mk 4 (ZT x.word).1)) aP ?_;rintro _ w4 ⟨aJ,bB⟩;refine W ?_;refine J6 rfl rfl rfl bB rfl ?_;refine .mk ⟨by rw [Z15,if_neg (by assumption),if_neg (by assumption),if_neg (by assumption)];rfl,hS.ow aJ⟩
def Z3M (k:Int) (s:Str):List Int:=(if k=8\/k=5/\s=[45] then [8] else [])++opF s++(if k=6/\s=[45] then [6] else [])
def Zay:List Str:=[[43],[45],[42],[60],[60,61],[61],[62],[62,61],[33,61]]
def Zaz:List (Sl Int):=[⟨[5]⟩,⟨[6]⟩,⟨[7]⟩,⟨[9]⟩,⟨[10]⟩,⟨[11]⟩,⟨[10,12]⟩,⟨[9,12]⟩,⟨[11,12]⟩]
theorem Zj5 (a b c d:Int) (w):(Instr.buildSlice 23 4 #[(0,.I a),(1,.I b),(2,.I c),(3,.I d)]).run Tryz.prog w=.ok (.slice (some ⟨w.heap.size,0,none⟩) 4 4) (w.alloc (.cells #[.I a,.I b,.I c,.I d] 3)):=by kernel_rfl
theorem Zj6 (a b c d e:Int) (w):(Instr.buildSlice 23 5 #[(0,.I a),(1,.I b),(2,.I c),(3,.I d),(4,.I e)]).run Tryz.prog w=.ok (.slice (some ⟨w.heap.size,0,none⟩) 5 5) (w.alloc (.cells #[.I a,.I b,.I c,.I d,.I e] 3)):=by kernel_rfl
theorem Zj7 (a b c d e:Str) (w):(Instr.buildSlice 128 5 #[(0,str a),(1,str b),(2,str c),(3,str d),(4,str e)]).run Tryz.prog w=.ok (.slice (some ⟨w.heap.size,0,none⟩) 5 5) (w.alloc (.cells #[str a,str b,str c,str d,str e] 9)):=by kernel_rfl
theorem Zj8 (a b c d e f g h i:Str) (w):(Instr.buildSlice 128 9 #[(0,str a),(1,str b),(2,str c),(3,str d),(4,str e),(5,str f),(6,str g),(7,str h),(8,str i)]).run Tryz.prog w=.ok (.slice (some ⟨w.heap.size,0,none⟩) 9 9) (w.alloc (.cells #[str a,str b,str c,str d,str e,str f,str g,str h,str i] 9)):=by kernel_rfl
theorem Zj9 (p0 p1 p2 p3 p4 p5 p6 p7 p8:Option Addr) (l0 l1 l2 l3 l4 l5 l6 l7 l8 c0 c1 c2 c3 c4 c5 c6 c7 c8:Nat) (w):(Instr.buildSlice 312 9 #[(0,.slice p0 l0 c0),(1,.slice p1 l1 c1),(2,.slice p2 l2 c2),(3,.slice p3 l3 c3),(4,.slice p4 l4 c4),(5,.slice p5 l5 c5),(6,.slice p6 l6 c6),(7,.slice p7 l7 c7),(8,.slice p8 l8 c8)]).run Tryz.prog w=.ok (.slice (some ⟨w.heap.size,0,none⟩) 9 9) (w.alloc (.cells #[.slice p0 l0 c0,.slice p1 l1 c1,.slice p2 l2 c2,.slice p3 l3 c3,.slice p4 l4 c4,.slice p5 l5 c5,.slice p6 l6 c6,.slice p7 l7 c7,.slice p8 l8 c8] 23)):=by kernel_rfl
theorem o6 {s:Str} (h:s∈Z0U\/s∈Z2f\/s∈Z0H) (ha:¬ s=[97,110,100]) (ho:¬ s=[111,114]):∃ i,∃ h:i<Zaz.length,idx (isS s) Zay=(i:Int)/\Zaz[i].l=Z3M 6 s:=by
 simp only [Z0U,Z2f,Z0H,Xb,Xj,or_false] at h;rcases h with (h|h|h)|(h|h|h|h|h|h)|(h|h)<;>subst h
 exact ⟨0,by decide,by decide,by decide⟩;exact ⟨1,by decide,by decide,by decide⟩;exact ⟨2,by decide,by decide,by decide⟩;exact ⟨3,by decide,by decide,by decide⟩;exact ⟨4,by decide,by decide,by decide⟩;exact ⟨5,by decide,by decide,by decide⟩;exact ⟨8,by decide,by decide,by decide⟩;exact ⟨6,by decide,by decide,by decide⟩;exact ⟨7,by decide,by decide,by decide⟩;exact absurd rfl ha;exact absurd rfl ho
theorem oU {s:Str} (h:s∈J7):∃ i,∃ h:i < [(15:Int),16,17,18].length,idx (isS s) J7=(i:Int)/\Z3M 7 s=[[(15:Int),16,17,18][i]]/\Z3M 8 s=[8,[(15:Int),16,17,18][i]]:=by
 simp only [J7,Xb,Xj,or_false] at h;rcases h with h|h|h|h<;>subst h
 exact ⟨0,by decide,by decide,by decide,by decide⟩;exact ⟨1,by decide,by decide,by decide,by decide⟩;exact ⟨2,by decide,by decide,by decide,by decide⟩;exact ⟨3,by decide,by decide,by decide,by decide⟩
theorem oC {s:Str} (h:s∈Z7T):∃ i,∃ h:i < [(19:Int),20,21,22,23].length,idx (isS s) Z7T=(i:Int)/\Z3M 10 s=[[(19:Int),20,21,22,23][i]]:=by
 simp only [Z7T,Xb,Xj,or_false] at h;rcases h with h|h|h|h|h<;>subst h
 exact ⟨0,by decide,by decide,by decide⟩;exact ⟨1,by decide,by decide,by decide⟩;exact ⟨2,by decide,by decide,by decide⟩;exact ⟨3,by decide,by decide,by decide⟩;exact ⟨4,by decide,by decide,by decide⟩
theorem ZdO (X:List Nat) (v:Value) (x:Nd) (w:World) (gz:∀ b∈X,b<w.heap.size) (dJ:Zos x.kind x.word x.kids.length) (h9:¬ x.kind=9) (ha:¬ (x.kind=6/\x.word=[97,110,100])) (ho:¬ (x.kind=6/\x.word=[111,114])) (hx:NdV [] w v x) :
 CC 188 #[v] w λr w'=>SlV X w' r (Z3M x.kind x.word)/\Stp [] w w':=by
 obtain ⟨kv,rfl,hs⟩:=hx;refine cW1 63 Tryz.func188 ?_;refine W ?_;refine Z0 (Zr rfl) rfl ?_;rintro _ w0 ⟨b,rfl,hb,ac,hS⟩;replace ac:Blk w0 b _ (ndC x kv):=ac;have hX:∀ b∈X,b<w0.heap.size:=λb hb=>Xa (gz b hb) hS.size;refine W ?_;refine Z0 (Z1 (vs:=[(0,.I 5)]) rfl (Zt _)) rfl ?_;rintro a0 u0 hN;have s_a0:SlV X u0 a0 [(5:Int)]:=hN.slv hX rfl rfl (by simp [maxLen]);have hT:=Z9.stp hN;clear hN;replace ac:=ac.up hT;replace hS:=hS.trans hT;replace hX:=λb hb=>Xa (hX b hb) hT.size;clear hT;refine Z0 (Z1 (vs:=[(0,.I 6)]) rfl (Zt _)) rfl ?_;rintro a1 u1 hN;have s_a1:SlV X u1 a1 [(6:Int)]:=hN.slv hX rfl rfl (by simp [maxLen]);have hT:=Z9.stp hN;clear hN;replace ac:=ac.up hT;replace hS:=hS.trans hT;replace hX:=λb hb=>Xa (hX b hb) hT.size;replace s_a0:=s_a0.up hT;clear hT;refine Z0 (Z1 (vs:=[(0,.I 7)]) rfl (Zt _)) rfl ?_;rintro a2 u2 hN;have s_a2:SlV X u2 a2 [(7:Int)]:=hN.slv hX rfl rfl (by simp [maxLen]);have hT:=Z9.stp hN;clear hN;replace ac:=ac.up hT;replace hS:=hS.trans hT;replace hX:=λb hb=>Xa (hX b hb) hT.size;replace s_a0:=s_a0.up hT;replace s_a1:=s_a1.up hT;clear hT;refine Z0 (Z1 (vs:=[(0,.I 9)]) rfl (Zt _)) rfl ?_;rintro a3 u3 hN;have s_a3:SlV X u3 a3 [(9:Int)]:=hN.slv hX rfl rfl (by simp [maxLen]);have hT:=Z9.stp hN;clear hN;replace ac:=ac.up hT;replace hS:=hS.trans hT;replace hX:=λb hb=>Xa (hX b hb) hT.size;replace s_a0:=s_a0.up hT;replace s_a1:=s_a1.up hT;replace s_a2:=s_a2.up hT;clear hT;refine Z0 (Z1 (vs:=[(0,.I 10)]) rfl (Zt _)) rfl ?_;rintro a4 u4 hN;have s_a4:SlV X u4 a4 [(10:Int)]:=hN.slv hX rfl rfl (by simp [maxLen]);have hT:=Z9.stp hN;clear hN;replace ac:=ac.up hT;replace hS:=hS.trans hT;replace hX:=λb hb=>Xa (hX b hb) hT.size;replace s_a0:=s_a0.up hT;replace s_a1:=s_a1.up hT;replace s_a2:=s_a2.up hT;replace s_a3:=s_a3.up hT;clear hT;refine Z0 (Z1 (vs:=[(0,.I 11)]) rfl (Zt _)) rfl ?_;rintro a5 u5 hN;have s_a5:SlV X u5 a5 [(11:Int)]:=hN.slv hX rfl rfl (by simp [maxLen]);have hT:=Z9.stp hN;clear hN;replace ac:=ac.up hT;replace hS:=hS.trans hT;replace hX:=λb hb=>Xa (hX b hb) hT.size;replace s_a0:=s_a0.up hT;replace s_a1:=s_a1.up hT;replace s_a2:=s_a2.up hT;replace s_a3:=s_a3.up hT;replace s_a4:=s_a4.up hT;clear hT;refine Z0 (Z1 (vs:=[(0,.I 10),(1,.I 12)]) rfl (Z03 _ _)) rfl ?_;rintro a6 u6 hN;have s_a6:SlV X u6 a6 [(10:Int),(12:Int)]:=hN.slv hX rfl rfl (by simp [maxLen]);have hT:=Z9.stp hN;clear hN;replace ac:=ac.up hT;replace hS:=hS.trans hT;replace hX:=λb hb=>Xa (hX b hb) hT.size;replace s_a0:=s_a0.up hT;replace s_a1:=s_a1.up hT;replace s_a2:=s_a2.up hT;replace s_a3:=s_a3.up hT;replace s_a4:=s_a4.up hT;replace s_a5:=s_a5.up hT;clear hT;refine Z0 (Z1 (vs:=[(0,.I 9),(1,.I 12)]) rfl (Z03 _ _)) rfl ?_;rintro a7 u7 hN;have s_a7:SlV X u7 a7 [(9:Int),(12:Int)]:=hN.slv hX rfl rfl (by simp [maxLen]);have hT:=Z9.stp hN;clear hN;replace ac:=ac.up hT;replace hS:=hS.trans hT;replace hX:=λb hb=>Xa (hX b hb) hT.size;replace s_a0:=s_a0.up hT;replace s_a1:=s_a1.up hT;replace s_a2:=s_a2.up hT;replace s_a3:=s_a3.up hT;replace s_a4:=s_a4.up hT;replace s_a5:=s_a5.up hT;replace s_a6:=s_a6.up hT;clear hT;refine Z0 (Z1 (vs:=[(0,.I 11),(1,.I 12)]) rfl (Z03 _ _)) rfl ?_;rintro a8 u8 hN;have s_a8:SlV X u8 a8 [(11:Int),(12:Int)]:=hN.slv hX rfl rfl (by simp [maxLen]);have hT:=Z9.stp hN;clear hN;replace ac:=ac.up hT;replace hS:=hS.trans hT;replace hX:=λb hb=>Xa (hX b hb) hT.size;replace s_a0:=s_a0.up hT;replace s_a1:=s_a1.up hT;replace s_a2:=s_a2.up hT;replace s_a3:=s_a3.up hT;replace s_a4:=s_a4.up hT;replace s_a5:=s_a5.up hT;replace s_a6:=s_a6.up hT;replace s_a7:=s_a7.up hT;clear hT;obtain ⟨p0,c0,rfl,_⟩:=id s_a0;obtain ⟨p1,c1,rfl,_⟩:=id s_a1;obtain ⟨p2,c2,rfl,_⟩:=id s_a2;obtain ⟨p3,c3,rfl,_⟩:=id s_a3;obtain ⟨p4,c4,rfl,_⟩:=id s_a4;obtain ⟨p5,c5,rfl,_⟩:=id s_a5;obtain ⟨p6,c6,rfl,_⟩:=id s_a6;obtain ⟨p7,c7,rfl,_⟩:=id s_a7;obtain ⟨p8,c8,rfl,_⟩:=id s_a8;refine Z0 (Z1 (vs:=[(0,.slice p0 _ c0),(1,.slice p1 _ c1),(2,.slice p2 _ c2),(3,.slice p3 _ c3),(4,.slice p4 _ c4),(5,.slice p5 _ c5),(6,.slice p6 _ c6),(7,.slice p7 _ c7),(8,.slice p8 _ c8)]) rfl (Zj9 _ _ _ _ _ _ _ _ _ _ _ _ _ _ _ _ _ _ _ _ _ _ _ _ _ _ _)) rfl ?_;rintro tw u9 hN;have s_tw:SlV X u9 tw Zaz:=hN.slvS (xss:=Zaz) hX rfl rfl (λi hi cA=>match i,hi with|0,_=>s_a0|1,_=>s_a1|2,_=>s_a2|3,_=>s_a3|4,_=>s_a4|5,_=>s_a5|6,_=>s_a6|7,_=>s_a7|8,_=>s_a8) (by decide);have hT:=Z9.stp hN;clear hN;replace ac:=ac.up hT;replace hS:=hS.trans hT;replace hX:=λb hb=>Xa (hX b hb) hT.size;replace s_a0:=s_a0.up hT;replace s_a1:=s_a1.up hT;replace s_a2:=s_a2.up hT;replace s_a3:=s_a3.up hT;replace s_a4:=s_a4.up hT;replace s_a5:=s_a5.up hT;replace s_a6:=s_a6.up hT;replace s_a7:=s_a7.up hT;replace s_a8:=s_a8.up hT;clear hT;clear s_a0 s_a1 s_a2 s_a3 s_a4 s_a5 s_a6 s_a7 s_a8;refine W ?_;refine Z0 (Z1 (vs:=[(0,.I 19),(1,.I 20),(2,.I 21),(3,.I 22),(4,.I 23)]) rfl (Zj6 _ _ _ _ _)) rfl ?_;rintro cl u10 hN;have s_cl:SlV X u10 cl [(19:Int),20,21,22,23]:=hN.slv hX rfl rfl (by simp [maxLen]);have hT:=Z9.stp hN;clear hN;replace ac:=ac.up hT;replace hS:=hS.trans hT;replace hX:=λb hb=>Xa (hX b hb) hT.size;replace s_tw:=s_tw.up hT;clear hT;refine W ?_;refine Z0 (Z1 (vs:=[(0,.I 15),(1,.I 16),(2,.I 17),(3,.I 18)]) rfl (Zj5 _ _ _ _)) rfl ?_;rintro un u11 hN;have s_un:SlV X u11 un [(15:Int),16,17,18]:=hN.slv hX rfl rfl (by simp [maxLen]);have hT:=Z9.stp hN;clear hN;replace ac:=ac.up hT;replace hS:=hS.trans hT;replace hX:=λb hb=>Xa (hX b hb) hT.size;replace s_tw:=s_tw.up hT;replace s_cl:=s_cl.up hT;clear hT;refine W ?_;refine Z0 (Z1 (vs:=[(0,str [100,97,121,115]),(1,str [119,101,101,107,115]),(2,str [109,111,110,116,104,115]),(3,str [99,111,117,114,116,100,97,121,115])]) rfl (ZbG _ _ _ _)) rfl ?_;rintro us u12 hN;have s_us:SlV X u12 us J7:=hN.slv hX rfl rfl (by simp [J7,maxLen]);have hT:=Z9.stp hN;clear hN;replace ac:=ac.up hT;replace hS:=hS.trans hT;replace hX:=λb hb=>Xa (hX b hb) hT.size;replace s_tw:=s_tw.up hT;replace s_cl:=s_cl.up hT;replace s_un:=s_un.up hT;clear hT;refine W ?_;refine CL (Z3G X _ J7 x.word _ s_us) ?_;rintro _ w2 ⟨rfl,hT⟩;replace ac:=ac.up hT;replace s_tw:=s_tw.up hT;replace s_cl:=s_cl.up hT;replace s_un:=s_un.up hT;replace hS:=hS.trans hT;replace hX:=λb hb=>Xa (hX b hb) hT.size;clear hT s_us;have s8:x.kind=7\/x.kind=8->x.word∈J7:=λhk=>by
  rcases dJ with ⟨h,_,_⟩|⟨h,_,_⟩|⟨h,hu,_⟩|⟨h,_⟩|⟨h,_,_⟩<;>first|exact hu|omega
 have uW:x.kind=6->x.word∈Z0U\/x.word∈Z2f\/x.word∈Z0H:=λhk=>by
  rcases dJ with ⟨h,_,_⟩|⟨h,hu,_⟩|⟨h,_,_⟩|⟨h,_⟩|⟨h,_,_⟩<;>first|exact hu|omega
 have uX:x.kind=5->x.word=[45]\/x.word=[110,111,116]:=λhk=>by
  rcases dJ with ⟨h,hu,_⟩|⟨h,_,_⟩|⟨h,_,_⟩|⟨h,_⟩|⟨h,_,_⟩<;>first|exact hu|omega
 have qc:¬ x.kind=5->¬ x.kind=6->¬ x.kind=7->¬ x.kind=8->x.kind=10/\x.word∈Z7T:=λ_ _ _ _=>by
  rcases dJ with ⟨h,_,_⟩|⟨h,_,_⟩|⟨h,_,_⟩|⟨h,_⟩|⟨h,hu,_⟩<;>first|exact ⟨h,hu⟩|omega
 refine W ?_;by_cases k5:x.kind=5;have s9:=uX k5
 (refine QP ?_ ?_<;>intro hc)
 refine Z0 (Z1 (vs:=[(0,.I 8)]) rfl (Zt _)) rfl ?_;rintro r w3 hN;have hr:SlV X w3 r [(8:Int)]:=hN.slv hX rfl rfl (by simp [maxLen]);have hT:=Z9.stp hN;refine W ?_;refine WR ?_;have hw:x.word=[45]:=by assumption
 exact .mk ⟨by rw [k5,hw];exact hr,hS.trans hT⟩;refine Z0 (Z1 (vs:=[(0,.I 12)]) rfl (Zt _)) rfl ?_;rintro r w3 hN;have hr:SlV X w3 r [(12:Int)]:=hN.slv hX rfl rfl (by simp [maxLen]);have hT:=Z9.stp hN;refine W ?_;refine WR ?_;have hw:x.word=[110,111,116]:=s9.resolve_left (by assumption);exact .mk ⟨by rw [k5,hw];exact hr,hS.trans hT⟩;by_cases k6:x.kind=6;have uY:=uW k6;obtain ⟨i,hi,kQ,iX⟩:=o6 uY (λh=>ha ⟨k6,h⟩) (λh=>ho ⟨k6,h⟩);refine QO ?_;refine Z0 (Z1 (vs:=[(0,str [43]),(1,str [45]),(2,str [42]),(3,str [60]),(4,str [60,61]),(5,str [61]),(6,str [62]),(7,str [62,61]),(8,str [33,61])]) rfl (Zj8 _ _ _ _ _ _ _ _ _)) rfl ?_;rintro nv w3 hN;have s_n:SlV X w3 nv Zay:=hN.slv hX rfl rfl (by simp [Zay,maxLen]);have hT:=Z9.stp hN;replace ac:=ac.up hT;replace s_tw:=s_tw.up hT;replace hS:=hS.trans hT;clear hT hN;refine W ?_;refine CL (Z3G X _ Zay x.word _ s_n) ?_;rintro _ w4 ⟨rfl,hT⟩;replace ac:=ac.up hT;replace s_tw:=s_tw.up hT;replace hS:=hS.trans hT;rw [kQ];obtain ⟨u,an,fF⟩:=s_tw.sub hi;refine W ?_;apply Z8 (JI rfl rfl an) rfl;refine RT ?_;exact ⟨by rw [k6,<- iX];exact fF,hS⟩;by_cases k7:x.kind=7;obtain ⟨i,hi,kQ,iX,_⟩:=oU (s8 (.inl k7));rw [kQ];refine QO ?_;refine Z0 (Z1 (vs:=[(0,.I _)]) rfl (Zt _)) rfl ?_;rintro r w3 hN;have hr:SlV X w3 r [[(15:Int),16,17,18][i]]:=hN.slv hX rfl rfl (by simp [maxLen]);have hT:=Z9.stp hN;refine RT ?_;exact ⟨by rw [k7,iX];exact hr,hS.trans hT⟩;by_cases k8:x.kind=8;obtain ⟨i,hi,kQ,_,iX⟩:=oU (s8 (.inr k8));rw [kQ];refine QO ?_;refine Z0 (Z1 (vs:=[(0,.I 8),(1,.I _)]) rfl (Z03 _ _)) rfl ?_;rintro r w3 hN;have hr:SlV X w3 r [8,[(15:Int),16,17,18][i]]:=hN.slv hX rfl rfl (by simp [maxLen]);have hT:=Z9.stp hN;refine RT ?_;exact ⟨by rw [k8,iX];exact hr,hS.trans hT⟩;obtain ⟨k10,qd⟩:=qc k5 k6 k7 k8;obtain ⟨i,hi,kQ,iX⟩:=oC qd;refine QO ?_;refine Z0 (Z1 (vs:=[(0,str [110,101,120,116]),(1,str [112,114,101,118]),(2,str [108,97,116,101,114]),(3,str [101,97,114,108,105,101,114]),(4,str [98,101,116,119,101,101,110])]) rfl (Zj7 _ _ _ _ _)) rfl ?_;rintro nv w3 hN;have s_n:SlV X w3 nv Z7T:=hN.slv hX rfl rfl (by simp [Z7T,maxLen]);have hT:=Z9.stp hN;replace ac:=ac.up hT;replace s_cl:=s_cl.up hT;replace hS:=hS.trans hT;replace hX:=λb hb=>Xa (hX b hb) hT.size;clear hT hN;refine W ?_;refine CL (Z3G X _ Z7T x.word _ s_n) ?_;rintro _ w4 ⟨rfl,hT⟩;replace ac:=ac.up hT;replace s_cl:=s_cl.up hT;replace hS:=hS.trans hT;replace hX:=λb hb=>Xa (hX b hb) hT.size;rw [kQ];refine W ?_;refine Z0 (Z1 (vs:=[(0,.I _)]) rfl (Zt _)) rfl ?_;rintro r w5 hN;have hr:SlV X w5 r [[(19:Int),20,21,22,23][i]]:=hN.slv hX rfl rfl (by simp [maxLen]);have hT:=Z9.stp hN;refine RT ?_;exact ⟨by rw [k10,iX];exact hr,hS.trans hT⟩
abbrev RwI (w w':World) (v:Value) (xs:List Ins):Prop:=ZI 171 w w' v xs
def Z6l (x:Nd) (f:Cf):Prop:=∀ (w:World) (nv:Value) (p:Nat) (z:Int),z=(p:Int)->NdV [] w nv x->p+(f p).length<=100000->
 CC 108 #[nv,.I z] w λr w'=>RwI w w' r (f p)
theorem Z3N {x y n:Nd} {f g h:Cf} (hx:Z6l x f) (hy:Z6l y g) (hn:Z6l n h) (w) (xv yv nv:Value) (p0:Nat) (z0:Int) (hz:z0=(p0:Int))
 (gx:NdV [] w xv x) (gy:NdV [] w yv y) (gn:NdV [] w nv n) (hl:p0+(chC f g h p0).length<=100000) :
 CC 187 #[xv,yv,nv,.I z0] w λr w'=>RwI w w' r (chC f g h p0):=by
 have dX:=hl;unfold chC at dX;simp only [Xc,Xe,Xg] at dX;obtain ⟨xk,rfl,sx⟩:=gx;obtain ⟨yk,rfl,sy⟩:=gy;obtain ⟨nk,rfl,sn⟩:=gn;subst hz;refine cW4 60 Tryz.func187 ?_;refine W ?_;refine Z0 (Zr rfl) rfl ?_;rintro _ w1 ⟨b1,rfl,aY,k1,ae⟩;replace k1:Blk w1 b1 _ (ndC x xk):=k1;refine Z0 (Zr rfl) rfl ?_;rintro _ w2 ⟨b2,rfl,cu,k2,ah⟩;replace k2:Blk w2 b2 _ (ndC y yk):=k2;refine Z0 (Zr rfl) rfl ?_;rintro _ w3 ⟨b3,rfl,dG,k3,ak⟩;replace k3:Blk w3 b3 _ (ndC n nk):=k3;have hS:=(ae.trans ah).trans ak;replace k1:=(k1.up ah).up ak;replace k2:=k2.up ak;replace sx:=sx.up hS;replace sy:=sy.up hS;replace sn:=sn.up hS;clear ae ah ak;have uZ:=chC.eq_1 f g h p0;generalize hA:f p0=A at *;generalize hp:p0+A.length+1=p at *;generalize hB:g p=B at *;generalize x8:p+B.length+1=q at *;generalize hD:h q=D at *;rw [uZ];have e1:(A++[(⟨14,0⟩:Ins)]).length=A.length+1:=by simp
 have e2:(A++[(⟨14,0⟩:Ins)]++B).length=A.length+1+B.length:=by simp;omega
 have e3:(A++[(⟨14,0⟩:Ins)]++B++[(⟨13,0⟩:Ins)]).length=A.length+1+B.length+1:=by simp;omega
 have e4:∀ z,(A++[(⟨14,z⟩:Ins)]++B++[(⟨13,0⟩:Ins)]).length=A.length+1+B.length+1:=by simp;omega
 have e5:∀ z,(A++[(⟨14,z⟩:Ins)]++B++[(⟨13,0⟩:Ins)]++D).length=A.length+1+B.length+1+D.length:=by simp;omega
 refine W ?_;refine Z0 (Z4 rfl (Zd rfl rfl) (hx _ _ p0 _ rfl ⟨xk,rfl,sx⟩ (by rw [hA];omega))) rfl ?_;rintro v w4 hr;rw [hA] at hr;have ax:=hr.slv (X:=[]) (by simp);refine W ?_;apply Z7 (vs:=[(0,.I 14)]) rfl (Z7A _) rfl;refine Z0 (Z1 (vs:=[(0,agg (Ins.mk 14 0))]) rfl (Z34 _)) rfl ?_;rintro u wb hN;have hu:SlV (ob v) wb u [Ins.mk 14 0]:=hN.slv (λb hb=>(hr.ob_le b hb).2) rfl rfl (by simp [maxLen]);have hT:=Z9.stp hN;clear hN;replace hr:=hr.up hT;clear hT ax;refine Z0 (JD rfl (by decide) rfl rfl hr hu (by simp only [Xe,Xg];omega) (by simp only [Xe,Xg,maxLen];omega)) rfl ?_;clear hu hr;rintro v wc ⟨hr,-,-⟩;have ax:=hr.slv (X:=[]) (by simp);have kk:=k2.up hr.2;refine W ?_;refine Z0 (Z4 rfl (Zd rfl rfl) (hy _ _ p _ (by omega) ⟨yk,rfl,sy.up hr.2⟩ (by rw [hB];omega))) rfl ?_;rintro u wd hu;rw [hB] at hu;have d8:=hu.slv (X:=ob v) (λb hb=>(hr.ob_le b hb).2);replace hr:=hr.up hu.2;clear hu ax kk;refine Z0 (JD rfl (by decide) rfl rfl hr d8 (by rw [e1];omega) (by rw [e1];simp only [maxLen];omega)) rfl ?_;clear d8 hr;rintro v we ⟨hr,-,-⟩;have ax:=hr.slv (X:=[]) (by simp);refine W ?_;apply Z7 (vs:=[(0,.I 13)]) rfl (Z7A _) rfl;refine Z0 (Z1 (vs:=[(0,agg (Ins.mk 13 0))]) rfl (Z34 _)) rfl ?_;rintro u wb hN;have hu:SlV (ob v) wb u [Ins.mk 13 0]:=hN.slv (λb hb=>(hr.ob_le b hb).2) rfl rfl (by simp [maxLen]);have hT:=Z9.stp hN;clear hN;replace hr:=hr.up hT;clear hT ax;refine Z0 (JD rfl (by decide) rfl rfl hr hu (by simp only [e2,Xe,Xg];omega) (by simp only [e2,Xe,Xg,maxLen];omega)) rfl ?_;clear hu hr;rintro v wc ⟨hr,-,-⟩;have ax:=hr.slv (X:=[]) (by simp);have bO:A.length<(A++[(⟨14,0⟩:Ins)]++B++[(⟨13,0⟩:Ins)]).length:=by rw [e3];omega
 refine W ?_;have qe:(A++[(⟨14,0⟩:Ins)]++B++[(⟨13,0⟩:Ins)])[A.length]=⟨14,0⟩:=by simp
 have hq1:(p0:Int)+((A++[(⟨14,0⟩:Ins)]++B++[(⟨13,0⟩:Ins)]).length:Int)=(q:Int):=by rw [e3];omega
 refine Z6 (Zax (i:=A.length) (j:=1) (u:=.I ((p0:Int)+((A++[(⟨14,0⟩:Ins)]++B++[(⟨13,0⟩:Ins)]).length:Int))) (y':=⟨14,(q:Int)⟩) rfl rfl rfl rfl rfl hr bO (by decide) (by rw [qe,<- hq1];rfl)) ?_;have mV:(A++[(⟨14,0⟩:Ins)]++B++[(⟨13,0⟩:Ins)]).set A.length ⟨14,(q:Int)⟩=A++[(⟨14,(q:Int)⟩:Ins)]++B++[(⟨13,0⟩:Ins)]:=by simp
 rw [mV];clear hr ax;rintro _ wf ⟨hr,-⟩;have ax:=hr.slv (X:=[]) (by simp);have e4':=e4 (q:Int);have kk:=k3.up hr.2;refine W ?_;refine Z0 (Z4 rfl (Zd rfl rfl) (hn _ _ q _ (by omega) ⟨nk,rfl,sn.up hr.2⟩ (by rw [hD];omega))) rfl ?_;rintro u wd hu;rw [hD] at hu;have d8:=hu.slv (X:=ob v) (λb hb=>(hr.ob_le b hb).2);replace hr:=hr.up hu.2;clear hu ax kk;refine Z0 (JD rfl (by decide) rfl rfl hr d8 (by rw [e4];omega) (by rw [e4];simp only [maxLen];omega)) rfl ?_;clear d8 hr;rintro v we ⟨hr,-,-⟩;have ax:=hr.slv (X:=[]) (by simp);have e5':=e5 (q:Int);have cn:A.length+1+B.length<(A++[(⟨14,(q:Int)⟩:Ins)]++B++[(⟨13,0⟩:Ins)]++D).length:=by rw [e5];omega
 refine W ?_;have e2':(A++[(⟨14,(q:Int)⟩:Ins)]++B).length=A.length+1+B.length:=by simp;omega
 have bt:A++[(⟨14,(q:Int)⟩:Ins)]++B++[(⟨13,0⟩:Ins)]++D=(A++[(⟨14,(q:Int)⟩:Ins)]++B)++(⟨13,0⟩:Ins) :: D:=by simp
 rw [e2];have qf:(A++[(⟨14,(q:Int)⟩:Ins)]++B++[(⟨13,0⟩:Ins)]++D)[A.length+1+B.length]=⟨13,0⟩:=by
  rw [Yaa (by rw [e4];omega),X4 (by omega)];simp
 have hq2:(p0:Int)+((A++[(⟨14,(q:Int)⟩:Ins)]++B++[(⟨13,0⟩:Ins)]++D).length:Int)=((q+D.length:Nat):Int):=by rw [e5];omega
 refine Z6 (Zax (i:=A.length+1+B.length) (j:=1) (u:=.I ((p0:Int)+((A++[(⟨14,(q:Int)⟩:Ins)]++B++[(⟨13,0⟩:Ins)]++D).length:Int))) (y':=⟨13,((q+D.length:Nat):Int)⟩) rfl rfl rfl rfl rfl hr cn (by decide) (by rw [qf,<- hq2];rfl)) ?_;have mW:(A++[(⟨14,(q:Int)⟩:Ins)]++B++[(⟨13,0⟩:Ins)]++D).set (A.length+1+B.length) ⟨13,((q+D.length:Nat):Int)⟩=A++[(⟨14,(q:Int)⟩:Ins)]++B++[(⟨13,((q+D.length:Nat):Int)⟩:Ins)]++D:=by
  rw [bt,List.set_append_right _ _ (by omega),e2'];simp
 rw [mW];clear hr ax;rintro _ wg ⟨hr,-⟩;refine W ?_;refine WR ?_;exact .mk (hr.pre hS)
theorem ZbP (z:Int):Z6l (.mk 2 z [] []) (λ_=>[⟨2,z⟩]):=by
 intro w nv p z0 hz hx hl;have hN:=hx;obtain ⟨kv,rfl,hs⟩:=hx;refine cW2 107 Tryz.func108 ?_;refine W ?_;refine Z0 (Zr rfl) rfl ?_;rintro _ w1 ⟨b,rfl,hb,ac,hS⟩;replace ac:Blk w1 b _ (ndC (.mk 2 z [] []) kv):=ac;replace hs:=hs.up hS;replace hN:=hN.up hS;have fp:(Nd.mk 2 z [] []).kids.length=0:=rfl;refine QO ?_;refine Z0 (Z4 rfl (ZR rfl) (Z9r _ (.mk 2 z [] []) _ hN)) rfl ?_;rintro _ w2 ⟨rfl,ah⟩;refine Z0 (Z1 (vs:=[(0,agg (Ins.mk 2 z))]) rfl (Z34 _)) rfl ?_;rintro u w3 qg;have hr:RwI w2 w3 u [Ins.mk 2 z]:=ZI.one qg rfl rfl (by simp [maxLen]);refine W ?_;refine WR ?_;exact .mk (hr.pre (hS.trans ah))
theorem ZaA {x:Nd} (cs:List Cf) (p:Nat) (aU:¬ cs.length=0) (h9:¬ x.kind=9) (ha:¬ (x.kind=6/\x.word=[97,110,100])) (ho:¬ (x.kind=6/\x.word=[111,114])):Z1e x.kind x.num x.word cs p=Jq cs p++Z2g (Z3M x.kind x.word):=by
 unfold Z1e Z3M Z0D;rw [if_neg aU,if_neg h9,if_neg ha,if_neg ho];by_cases hm:x.kind=6/\x.word=[45]
 rw [if_pos hm,if_pos hm,hm.1,hm.2];simp [Z2g];rw [if_neg hm,if_neg hm];by_cases h8:x.kind=8\/x.kind=5/\x.word=[45]
 rw [if_pos h8,if_pos h8];simp [Z2g];rw [if_neg h8,if_neg h8];simp [Z2g]
theorem ZmS (x:Nd):Zf x≠0->Z6l x (Zc x):=by
 induction x using Nd.ind with
 | h k n s l ih=>
 intro j7;have pZ:=(Z5a j7).2;have bh:∀ i (h:i<(Nd.mk k n s l).kids.length),Z6l (Nd.mk k n s l).kids[i] (Zc (Nd.mk k n s l).kids[i]):=by
  intro i h;exact ih _ (Xd h) (pZ _ (Xd h))
 have dJ:=Z6Y j7;have ma:=Z5w (.mk k n s l);have mb:=Z7W (x:=.mk k n s l);have j8:=λi=>Z7X (x:=.mk k n s l) (i:=i);generalize (Nd.mk k n s l)=x at *;clear ih;intro w nv p z0 hz hx hl;subst hz;have hN:=hx;obtain ⟨kv,rfl,hs⟩:=hx;have aS:=hs.max;refine cW2 107 Tryz.func108 ?_;refine W ?_;refine Z0 (Zr rfl) rfl ?_;rintro _ wA ⟨b,rfl,hb,ac,hS⟩;replace ac:Blk wA b _ (ndC x kv):=ac;replace hs:=hs.up hS;replace hN:=hN.up hS;by_cases h0:x.kids=[]
 have fp:x.kids.length=0:=by rw [h0];rfl
 rw [mb h0];refine QO ?_;refine Z0 (Z4 rfl (ZR rfl) (Z9r _ x _ hN)) rfl ?_;rintro _ w2 ⟨rfl,ah⟩;refine Z0 (Z1 (vs:=[(0,agg (Z15 x.kind x.num x.word))]) rfl (Z34 _)) rfl ?_;rintro u w3 qg;have hr:RwI w2 w3 u [Z15 x.kind x.num x.word]:=ZI.one qg rfl rfl (by simp [maxLen]);refine W ?_;refine WR ?_;exact .mk (hr.pre (hS.trans ah));have iz:¬ x.kids.length=0:=λh=>h0 (YaP h);have bZ:¬ (x.kids.map Zc).length=0:=by simpa using h0
 replace dJ:=(dJ h0).2;have qa:x.kind=6->x.kids.length=2:=λh6=>by
  rcases dJ with ⟨h,_,_⟩|⟨h,_,hm⟩|⟨h,_,_⟩|⟨h,_⟩|⟨h,_,_⟩<;>omega
 have s7:x.kind=9->x.kids.length=3:=λh6=>by
  rcases dJ with ⟨h,_,_⟩|⟨h,_,hm⟩|⟨h,_,_⟩|⟨h,hm⟩|⟨h,_,_⟩<;>omega
 by_cases h9:x.kind=9;have h3:=s7 h9;have h0:0<x.kids.length:=by omega
 have h1:1<x.kids.length:=by omega
 have h2:2<x.kids.length:=by omega
 have e9:Zc x=chC (Zc x.kids[0]) (Zc x.kids[1]) (Zc x.kids[2]):=by
  funext p;rw [ma,Z1e,if_neg bZ,if_pos h9,j8 0 h0,j8 1 h1,j8 2 h2]
 rw [e9] at hl ⊢;refine QO ?_;refine ZDr 15 [] [] [(0,0),(1,1),(2,0),(3,1),(4,0),(5,1),(6,0),(7,1),(8,0),(9,1),(10,0),(11,1),(12,0),(13,2),(14,0)] (λw1 ae=>?_);replace hs:=hs.up ae;replace ac:=ac.up ae;replace hS:=hS.trans ae;obtain ⟨u0,s0,d0⟩:=hs.nd h0;obtain ⟨u1,s1,d1⟩:=hs.nd h1;obtain ⟨u2,s2,d2⟩:=hs.nd h2;refine D ?_;refine WD_read rfl trivial (λw' aN=>JG rfl rfl (hs.on aN (λ_ h=>h)) h0 (λj u hj=>Z2l hs h0 aN (d0 j u hj))) rfl ?_;refine D ?_;refine WD_read rfl trivial (λw' aN=>JG rfl rfl (hs.on aN (λ_ h=>h)) h1 (λj u hj=>Z2l hs h1 aN (d1 j u hj))) rfl ?_;refine D ?_;refine WD_read rfl trivial (λw' aN=>JG rfl rfl (hs.on aN (λ_ h=>h)) h2 (λj u hj=>Z2l hs h2 aN (d2 j u hj))) rfl ?_;refine D ?_;refine DC (Z3N (bh 0 h0) (bh 1 h1) (bh 2 h2) _ _ _ _ p _ rfl ⟨u0,rfl,s0⟩ ⟨u1,rfl,s1⟩ ⟨u2,rfl,s2⟩ hl) (λ_ _ h=>h.2) ?_;rintro _ w5 hq;refine D ?_;refine W ?_;refine WR ?_;exact .mk (hq.pre hS);by_cases ha:x.kind=6/\x.word=[97,110,100]
 . obtain ⟨h6,hw⟩:=ha
   have h2:=qa h6;have h0:0<x.kids.length:=by omega
   have h1:1<x.kids.length:=by omega
   have e9:Zc x=chC (Zc x.kids[0]) (Zc x.kids[1]) (λ_=>[⟨2,0⟩]):=by
    funext p;rw [ma,Z1e,if_neg bZ,if_neg h9,if_pos ⟨h6,hw⟩,j8 0 h0,j8 1 h1]
   rw [e9] at hl ⊢;repeat'(first|refine W1 ?_|omega|refine VG ?_ ?_<;>intro hg|refine VC ?_ ?_<;>intro hc)
   all_goals first
    | (exfalso;contradiction)
    | skip
   refine ZDr 12 [] [] [(0,0),(1,1),(2,0),(3,1),(4,0),(5,1),(6,0),(7,1),(8,0),(9,0),(10,2),(11,0)] (λw1 ae=>?_);replace hs:=hs.up ae;replace ac:=ac.up ae;replace hS:=hS.trans ae;obtain ⟨u0,s0,d0⟩:=hs.nd h0;obtain ⟨u1,s1,d1⟩:=hs.nd h1;refine D ?_;refine WD_read rfl trivial (λw' aN=>JG rfl rfl (hs.on aN (λ_ h=>h)) h0 (λj u hj=>Z2l hs h0 aN (d0 j u hj))) rfl ?_;refine D ?_;refine WD_read rfl trivial (λw' aN=>JG rfl rfl (hs.on aN (λ_ h=>h)) h1 (λj u hj=>Z2l hs h1 aN (d1 j u hj))) rfl ?_;refine D ?_;apply Z2H;exact rfl;apply Z2I (vs:=[(0,.I 2)]);exact trivial;exact rfl;exact Zj0;exact rfl;refine D ?_;refine DC (Z3N (bh 0 h0) (bh 1 h1) (ZbP 0) _ _ _ _ p _ rfl ⟨u0,rfl,s0⟩ ⟨u1,rfl,s1⟩ ⟨_,rfl,Zn _ _⟩ hl) (λ_ _ h=>h.2) ?_;rintro _ w5 hq;refine D ?_;refine W ?_;refine WR ?_;exact .mk (hq.pre hS)
 by_cases ho:x.kind=6/\x.word=[111,114]
 . obtain ⟨h6,hw⟩:=ho
   have h2:=qa h6;have x9:¬ x.word=[97,110,100]:=λh=>ha ⟨h6,h⟩;have h0:0<x.kids.length:=by omega
   have h1:1<x.kids.length:=by omega
   have e9:Zc x=chC (Zc x.kids[0]) (λ_=>[⟨2,1⟩]) (Zc x.kids[1]):=by
    funext p;rw [ma,Z1e,if_neg bZ,if_neg h9,if_neg ha,if_pos ⟨h6,hw⟩,j8 0 h0,j8 1 h1]
   rw [e9] at hl ⊢;repeat'(first|refine W1 ?_|omega|refine VG ?_ ?_<;>intro hg|refine VC ?_ ?_<;>intro hc)
   all_goals first
    | (exfalso;contradiction)
    | skip
   refine ZDr 12 [] [] [(0,0),(1,1),(2,0),(3,1),(4,0),(5,0),(6,1),(7,0),(8,1),(9,0),(10,2),(11,0)] (λw1 ae=>?_);replace hs:=hs.up ae;replace ac:=ac.up ae;replace hS:=hS.trans ae;obtain ⟨u0,s0,d0⟩:=hs.nd h0;obtain ⟨u1,s1,d1⟩:=hs.nd h1;refine D ?_;refine WD_read rfl trivial (λw' aN=>JG rfl rfl (hs.on aN (λ_ h=>h)) h0 (λj u hj=>Z2l hs h0 aN (d0 j u hj))) rfl ?_;refine D ?_;apply Z2H;exact rfl;apply Z2I (vs:=[(0,.I 2),(1,.I 1)]);exact trivial;exact rfl;exact Zj1;exact rfl;refine D ?_;refine WD_read rfl trivial (λw' aN=>JG rfl rfl (hs.on aN (λ_ h=>h)) h1 (λj u hj=>Z2l hs h1 aN (d1 j u hj))) rfl ?_;refine D ?_;refine DC (Z3N (bh 0 h0) (ZbP 1) (bh 1 h1) _ _ _ _ p _ rfl ⟨u0,rfl,s0⟩ ⟨_,rfl,Zn _ _⟩ ⟨u1,rfl,s1⟩ hl) (λ_ _ h=>h.2) ?_;rintro _ w5 hq;refine D ?_;refine W ?_;refine WR ?_;exact .mk (hq.pre hS)
 have vd:=ZaA (x:=x) _ p bZ h9 ha ho;rw [ma,vd] at hl ⊢;have bU:(x.kids.map Zc).length=x.kids.length:=by simp
 generalize hO:Z3M x.kind x.word=O at *;rw [Xc,ZbO] at hl;have main:∀ r w',RwI wA w' r (Jq (x.kids.map Zc) p++Z2g O)->RwI w w' r (Jq (x.kids.map Zc) p++Z2g O):=λr w' h=>h.pre hS;repeat'(first|refine W1 ?_|omega|refine VG ?_ ?_<;>intro hg|refine VC ?_ ?_<;>intro hc)
 all_goals first
  | (exfalso;first|exact ha ⟨by assumption,by assumption⟩|exact ho ⟨by assumption,by assumption⟩)
  | skip
 all_goals
  refine LP (σ:=Nat×Value) (λq=>[(1,.I (p:Int)),(2,pQ b),(5,q.2),(6,.I (q.1:Int))]) (λq w'=>q.1<=x.kids.length/\RwI wA w' q.2 (Jq ((x.kids.map Zc).take q.1) p)) (λq=>x.kids.length - q.1) (0,.N) ⟨Xq _,by simpa [Jq] using ZI.nil⟩ ?_;rintro ⟨j,v⟩ w2 ⟨hj,hr⟩;dsimp only at hj hr ⊢;have ax:=hr.slv (X:=[]) (by simp);have bq:=hs.up hr.2;have cu:=ac.up hr.2;by_cases hlt:j<x.kids.length;obtain ⟨kv2,dc,cq⟩:=bq.nd hlt;have aA:=Z9p (x.kids.map Zc) p j (by omega);have cT:=Z7B (x.kids.map Zc) p (j+1);have pW:=Z7B (x.kids.map Zc) p j;rw [aA,Xc] at cT;rw [List.getElem_map] at cT aA;refine QO ?_;apply Z8 (JG rfl rfl bq hlt cq) rfl;refine W ?_;generalize hA:Jq ((x.kids.map Zc).take j) p=A at *;refine Z0 (Z4 rfl (Zd rfl rfl) (bh j hlt _ _ (p+A.length) _ (by omega) ⟨kv2,rfl,dc⟩ (by omega))) rfl ?_;rintro u w3 hu;have d8:=hu.slv (X:=ob v) (λb hb=>(hr.ob_le b hb).2);replace hr:=hr.up hu.2;clear hu;refine Z0 (JD rfl (by decide) rfl rfl hr d8 (by omega) (by simp only [maxLen];omega)) rfl ?_;rintro v' w4 ⟨bN,-,-⟩;refine W ?_;refine QL (j+1,v') ⟨by dsimp only;omega,?_⟩ (by dsimp only;omega);dsimp only;rw [aA];exact bN;have ea:j=(x.kids.map Zc).length:=by omega
  subst ea;rw [Xp] at hr ax;generalize Jq (x.kids.map Zc) p=A at *;refine QO ?_;refine Z0 (Z4 rfl (ZR rfl) (ZdO (ob v) _ x _ (λb hb=>(hr.ob_le b hb).2) dJ h9 ha ho ⟨kv,rfl,bq⟩)) rfl ?_;rintro ov w3 ⟨ec,hT⟩;rw [hO] at ec;replace hr:=hr.up hT;clear ax bq cu;have ya:=ec.max;refine W ?_;refine LP (σ:=Nat×Value) (λq=>[(5,q.2),(7,ov),(8,.I (q.1:Int))]) (λq w'=>q.1<=O.length/\RwI wA w' q.2 (A++Z2g (O.take q.1))/\SlV (ob q.2) w' ov O) (λq=>O.length - q.1) (0,v) ⟨Xq _,by simpa [Z2g] using hr,ec⟩ ?_;clear hr ec hT;rintro ⟨i,v5⟩ w5 ⟨hi,hr,ec⟩;dsimp only at hi hr ec ⊢;by_cases hlt:i<O.length;have iy:(A++Z2g (O.take i)).length=A.length+i:=by simp [Z2g];omega
  refine QO ?_;apply Z7 (vs:=[(0,.I _)]) rfl (Z7A _) rfl;refine Z0 (Z1 (vs:=[(0,agg (Ins.mk O[i] 0))]) rfl (Z34 _)) rfl ?_;rintro u w6 mX;have hu:SlV (ob v5) w6 u [Ins.mk O[i] 0]:=mX.slv (λb hb=>(hr.ob_le b hb).2) rfl rfl (by simp [maxLen]);have hT:=Z9.stp mX;clear mX;replace hr:=hr.up hT;replace ec:=ec.up hT;refine Z0 (JD rfl (by decide) rfl rfl hr hu (by rw [iy];simp only [Xe,Xg];omega) (by rw [iy];simp only [Xe,Xg,maxLen];omega)) rfl ?_;rintro v7 w7 ⟨bN,aQ,br⟩;refine W ?_;refine QL (i+1,v7) ⟨by dsimp only;omega,?_,ec.ext aQ (λ_ h=>h) br⟩ (by dsimp only;omega);dsimp only;rw [Xk hlt];unfold Z2g at bN ⊢;rw [XP,<- Xy];exact bN;have ve:i=O.length:=by omega
  subst ve;rw [Xp] at hr;refine QO ?_;refine WR ?_;exact .mk (main _ _ hr)
theorem Z3q (v:Value) (x:Nd) (w) (bG:ZP x<=1000) (cW:ZA x<=1000000) (hx:NdV [] w v x) :
 Calls Tryz.prog 69 #[v] w (Ret (Zou w x)):=by
 have hN:=hx;obtain ⟨kv,rfl,hs⟩:=hx;refine cW1 24 Tryz.func69 ?_;refine W ?_;refine Z0 (Zr rfl) rfl ?_;rintro _ w1 ⟨b,rfl,hb,ac,hS⟩;replace ac:Blk w1 b _ (ndC x kv):=ac;replace hs:=hs.up hS;replace hN:=hN.up hS;refine W ?_;refine CL (Z7S [] _ x _ (Z3K x bG) cW hN) ?_;rintro _ w2 ⟨rfl,ah⟩;replace hs:=hs.up ah;replace hN:=hN.up ah;replace ac:=ac.up ah;replace hS:=hS.trans ah;by_cases hn:ZA x<=12
 case neg=>
  rw [if_neg hn,if_neg hn];have he:Z0E x=2:=by rw [Z0E,if_neg hn]
  refine QO ?_;refine WR ?_;refine .mk ⟨_,by rw [he];rfl,λX hX=>?_,hS⟩;rw [he,if_neg (by decide)];exact Zn _ _
 by_cases ht:Zf x=0;rw [if_pos hn,if_pos hn,if_pos ht];have he:Z0E x=21:=by rw [Z0E,if_pos hn,if_pos ht]
 refine QO ?_;refine WR ?_;refine .mk ⟨_,by rw [he];rfl,λX hX=>?_,hS⟩;rw [he,if_neg (by decide)];exact Zn _ _;rw [if_pos hn,if_pos hn,if_neg ht];have ai:=Z9q x 0;refine QO ?_;refine CM (Zd rfl rfl) (ZmS x ht _ _ 0 0 rfl hN (by omega)) ?_;rintro v3 w3 hr;apply Z7 (vs:=[(0,.I 24)]) rfl (Z7A _) rfl;refine Z0 (Z1 (vs:=[(0,agg (Ins.mk 24 0))]) rfl (Z34 _)) rfl ?_;rintro u w4 qh;have hu:SlV (ob v3) w4 u [Ins.mk 24 0]:=qh.slv (λb hb=>(hr.ob_le b hb).2) rfl rfl (by simp [maxLen]);have hT:=Z9.stp qh;clear qh;replace hr:=hr.up hT;refine Z0 (JD rfl (by decide) rfl rfl hr hu (by simp only [Xe,Xg];omega) (by simp only [Xe,Xg,maxLen];omega)) rfl ?_;clear hu hr hT;rintro v5 w5 ⟨hr,-,-⟩;replace hr:=hr.pre hS;replace hr:RwI w w5 v5 (J2 x):=hr;have qb:=hr.slv (X:=[]) (by simp);by_cases hg:(J2 x).length > 200;have he:Z0E x=2:=by rw [Z0E,if_pos hn,if_neg ht,if_pos hg]
 refine QO ?_;refine WR ?_;refine .mk ⟨_,by rw [he],λX hX=>?_,hr.2⟩;rw [he,if_neg (by decide)];exact Zn _ _;have he:Z0E x=0:=by rw [Z0E,if_pos hn,if_neg ht,if_neg hg]
 refine QO ?_;refine WR ?_;refine .mk ⟨_,by rw [he],λX hX=>?_,hr.2⟩;rw [he,if_pos rfl];exact hr.slv hX
end Go.Proofs.YtipfkbkkndacjaaGreatDoor
namespace Go.Eng
open Go Go.RowKit Go.Proofs
theorem Z9.slvG {α:Type} [Z5 α] {w w':World} {X:List Nat} {T len:Nat} {cs:List Value} {v:Value} {ys:List α} {css:List (List Value)} (h:Z9 w T len cs v w') (hX:∀ b∈X,b<w.heap.size) (hl:len=ys.length) (bZ:css.length=ys.length)
 (hc:cs=css.flatten) (hr:∀ i (hi:i<ys.length) (cA:i<css.length),Z5.rep X w ys[i] css[i]) (hm:ys.length<=maxLen):SlV X w' v ys:=by
 obtain ⟨b,rfl,hb,ac,hS⟩:=h;subst hl;subst hc;have hk:∀ c∈css,c.length=Z5.k α:=by
  intro c hc;obtain ⟨i,hi,rfl⟩:=Xr hc;exact Z5.len (hr i (by omega) hi)
 refine ⟨some ⟨b,0,none⟩,ys.length,rfl,Xn _,hm,λh=>by simp at h,λi hi=>⟨b,0,css[i]'(by omega),rfl,ac.lt,λhx=>by have:=hX b hx;omega,Z5.ext (hr i hi (by omega)) hS (by simp) (λb hb=>.inl hb),λj u hu=>?_⟩⟩;refine ac.cell ?_;have:=Z0m css hk i (by omega) j u hu;rw [XM];exact this
theorem SlV.wk {α:Type} [Z5 α] {X X':List Nat} {w} {v:Value} {l:List α} (h:SlV X w v l) (hs:∀ b∈X',b∈X):SlV X' w v l:=h.ext (Stp.refl [] w) (by simp) (λb hb=>.inl (hs b hb))
end Go.Eng
namespace Go.Proofs.YtipfkbkkndacjaaGreatDoor
open Go Go.Eng Go.RowKit
theorem Z0t (x:Nd):ZA x<=ZP x:=by
 induction x using Nd.ind with
 | h k n s l ih=>
 rw [Z0J,Z1a];show 1+(l.map ZA).foldl max 0<=1+(l.map ZP).sum;have:∀ (l:List Nd) (a:Nat),(∀ x∈l,ZA x<=ZP x)->(l.map ZA).foldl max a<=a+(l.map ZP).sum:=by
  intro l
  induction l with
  | nil=>intro a _;simp
  | cons y r ihr=>
    intro a h;simp only [Xz,X2,List.sum_cons];have h1:=ihr (max a (ZA y)) (λx hx=>h x (by simp [hx]));have h2:=h y (by simp);omega
 have:=this l 0 ih;omega
theorem Zja (k n:Int) (s:Str) (p:Option Addr) (l c:Nat) (w):(Instr.buildSlice 95 1 #[(0,.agg #[.I k,.I n,str s,.slice p l c])]).run Tryz.prog w=.ok (.slice (some ⟨w.heap.size,0,none⟩) 1 1) (w.alloc (.cells #[.I k,.I n,str s,.slice p l c] 97)):=by kernel_rfl
theorem Zp (z:Int) (m:Int) (w) (hm:0<m) (hz:I64 z):CC 11 #[.I z,.I m] w λr w'=>r=.I ((if z<0 then -(z+1) else z) % m)/\Stp [] w w':=by
 unfold I64 at hz;refine cW2 13 Tryz.func11 ?_;by_cases h:z<0;refine RT ?_;exact ⟨by rw [if_pos h],Stp.refl _ _⟩;refine RT ?_;exact ⟨by rw [if_neg h],Stp.refl _ _⟩
theorem Zo (z m:Int) (hm:0<m):0<=z % m/\z % m<m:=⟨Ya8 _ (by omega),YaR _ hm⟩
theorem J3 (X:List Nat) (v:Value) (l:List Int) (i m:Int) (w) (hm:0<m) (hi:I64 i) (hs:SlV X w v l) (hl:∀ a∈l,I64 a):CC 35 #[v,.I i,.I m] w λr w'=>∃ q:Nat,r=.I (q:Int)/\(q:Int)<m/\Stp [] w w':=by
 unfold I64 at hi;have aS:=hs.max;refine cW3 21 Tryz.func35 ?_;refine W ?_;by_cases gA:0<=i/\i<l.length;obtain ⟨h0,h1⟩:=gA;obtain ⟨k,rfl⟩:∃ k:Nat,i=(k:Int):=⟨i.toNat,by omega⟩
 have hk:k<l.length:=by omega
 refine QO ?_;refine CL (Zp _ m _ hm (hl _ (Xd hk))) ?_;rintro _ w2 ⟨rfl,hS⟩;refine W ?_;refine WR ?_;have:=Zo (if l[k]<0 then -(l[k]+1) else l[k]) m hm;exact .mk ⟨_,by rw [Ya3 this.1],by rw [Ya3 this.1];exact this.2,hS⟩
 . repeat'(first|refine W1 ?_|omega|refine VG ?_ ?_<;>intro hg|refine VC ?_ ?_<;>intro hc)
   all_goals first
    | (refine RU ?_
       exact ⟨0,rfl,by simpa using hm,Stp.refl _ _⟩)
theorem ZfR (k:Int) (s:Str) (p:Option Addr) (l c:Nat) (w):(Instr.build 97 #[(0,.I k),(2,str s),(3,.slice p l c)]).run Tryz.prog w=.ok (.agg #[.I k,.I 0,str s,.slice p l c]) w:=by kernel_rfl
def szD:Nat->Nat
 | 0=>0
 | d+1=>1+3 * szD d
theorem ZdP {d:Nat} (h:1<=d):szD d=1+3 * szD (d - 1):=by
 cases d with
 | zero=>omega
 | succ d=>rfl
theorem Zwk {X:List Nat} {w} {y0:Nd} {k0:Value} (s0:SlV X w k0 y0.kids):∀ i (hi:i < [y0].length) (cA:i < [ndC y0 k0].length),Z5.rep X w [y0][i] [ndC y0 k0][i]
 | 0,_,_=>(show Z4J X w y0 (ndC y0 k0) by rw [y0.eta];exact Z2J s0)
theorem Zov {X:List Nat} {w} {y0 y1:Nd} {k0 k1:Value} (s0:SlV X w k0 y0.kids) (s1:SlV X w k1 y1.kids):∀ i (hi:i < [y0,y1].length) (cA:i < [ndC y0 k0,ndC y1 k1].length),Z5.rep X w [y0,y1][i] [ndC y0 k0,ndC y1 k1][i]
 | 0,_,_=>(show Z4J X w y0 (ndC y0 k0) by rw [y0.eta];exact Z2J s0)
 | 1,_,_=>(show Z4J X w y1 (ndC y1 k1) by rw [y1.eta];exact Z2J s1)
theorem Zwl {X:List Nat} {w} {y0 y1 y2:Nd} {k0 k1 k2:Value} (s0:SlV X w k0 y0.kids) (s1:SlV X w k1 y1.kids) (s2:SlV X w k2 y2.kids):∀ i (hi:i < [y0,y1,y2].length) (cA:i < [ndC y0 k0,ndC y1 k1,ndC y2 k2].length),Z5.rep X w [y0,y1,y2][i] [ndC y0 k0,ndC y1 k1,ndC y2 k2][i]
 | 0,_,_=>(show Z4J X w y0 (ndC y0 k0) by rw [y0.eta];exact Z2J s0)
 | 1,_,_=>(show Z4J X w y1 (ndC y1 k1) by rw [y1.eta];exact Z2J s1)
 | 2,_,_=>(show Z4J X w y2 (ndC y2 k2) by rw [y2.eta];exact Z2J s2)
theorem Z3O (k n:Int) (w):(Instr.build 97 #[(0,.I k),(1,.I n)]).run Tryz.prog w=.ok (.agg #[.I k,.I n,str [],.N]) w:=by kernel_rfl
theorem ZbQ (k n:Int) (s:Str) (p:Option Addr) (l c:Nat) (k' n':Int) (s':Str) (p':Option Addr) (l' c':Nat) (w):(Instr.buildSlice 95 2 #[(0,.agg #[.I k,.I n,str s,.slice p l c]),(1,.agg #[.I k',.I n',str s',.slice p' l' c'])]).run Tryz.prog w=.ok (.slice (some ⟨w.heap.size,0,none⟩) 2 2) (w.alloc (.cells #[.I k,.I n,str s,.slice p l c,.I k',.I n',str s',.slice p' l' c'] 97)):=by kernel_rfl
theorem Zjb (k n:Int) (s:Str) (p:Option Addr) (l c:Nat) (k' n':Int) (s':Str) (p':Option Addr) (l' c':Nat) (k'' n'':Int) (s'':Str) (p'':Option Addr) (l'' c'':Nat) (w):(Instr.buildSlice 95 3 #[(0,.agg #[.I k,.I n,str s,.slice p l c]),(1,.agg #[.I k',.I n',str s',.slice p' l' c']),(2,.agg #[.I k'',.I n'',str s'',.slice p'' l'' c''])]).run Tryz.prog w=.ok (.slice (some ⟨w.heap.size,0,none⟩) 3 3) (w.alloc (.cells #[.I k,.I n,str s,.slice p l c,.I k',.I n',str s',.slice p' l' c',.I k'',.I n'',str s'',.slice p'' l'' c''] 97)):=by kernel_rfl
theorem Zwm (k n:Int) (s:Str) (y0:Nd):ZP (.mk k n s [y0])=1+ZP y0:=by rw [Z1a];simp [Nd.kids]
theorem Zwn (k n:Int) (s:Str) (y0 y1:Nd):ZP (.mk k n s [y0,y1])=1+ZP y0+ZP y1:=by rw [Z1a];simp [Nd.kids];omega
theorem Zwo (k n:Int) (s:Str) (y0 y1 y2:Nd):ZP (.mk k n s [y0,y1,y2])=1+ZP y0+ZP y1+ZP y2:=by rw [Z1a];simp [Nd.kids];omega
theorem Zwp (k n:Int) (s:Str):ZP (.mk k n s [])=1:=by rw [Z1a];simp [Nd.kids]
def Zjc:List Str:=[[101,120,116,114,97],[98,121],[116,111],[99,111,117,114,116],[97,109,111,117,110,116]]
def ZbR:List Str:=[[100,97,121],[115,101,114,118,101,100]]
inductive Gn:Int->Nat->Nd->Prop
 | num (d:Nat) (n:Int) (h:0<=n/\n<25):Gn 1 d (.mk 1 n [] [])
 | fldN (d:Nat) (s:Str) (h:s∈Zjc):Gn 1 d (.mk 4 0 s [])
 | fldD (d:Nat) (s:Str) (h:s∈ZbR):Gn 3 d (.mk 4 0 s [])
 | day (d:Nat) (n:Int) (h:739616<=n/\n<739676):Gn 3 d (.mk 3 n [] [])
 | bool (d:Nat) (n:Int) (h:n=0\/n=1):Gn 2 d (.mk 2 n [] [])
 | neg (d:Nat) (a:Nd):Gn 1 d a->Gn 1 (d+1) (.mk 5 0 [45] [a])
 | not (d:Nat) (a:Nd):Gn 2 d a->Gn 2 (d+1) (.mk 5 0 [110,111,116] [a])
 | btw (d:Nat) (a b:Nd):Gn 3 d a->Gn 3 d b->Gn 1 (d+1) (.mk 10 0 [98,101,116,119,101,101,110] [a,b])
 | cond (d:Nat) (t:Int) (c a b:Nd) (h:t=1\/t=3):Gn 2 d c->Gn t d a->Gn t d b->Gn t (d+1) (.mk 9 0 [] [c,a,b])
 | arith (d:Nat) (s:Str) (a b:Nd) (h:s∈Z0U):Gn 1 d a->Gn 1 d b->Gn 1 (d+1) (.mk 6 0 s [a,b])
 | adj (d:Nat) (s:Str) (a:Nd) (h:s∈Z2z):Gn 3 d a->Gn 3 (d+1) (.mk 10 0 s [a])
 | two (d:Nat) (s:Str) (a b:Nd) (h:s∈Z2A):Gn 3 d a->Gn 3 d b->Gn 3 (d+1) (.mk 10 0 s [a,b])
 | move (d:Nat) (k:Int) (s:Str) (a b:Nd) (hk:k=7\/k=8) (h:s∈J7):Gn 3 d a->Gn 1 d b->Gn 3 (d+1) (.mk k 0 s [a,b])
 | logic (d:Nat) (s:Str) (a b:Nd) (h:s∈Z0H):Gn 2 d a->Gn 2 d b->Gn 2 (d+1) (.mk 6 0 s [a,b])
 | cmp (d:Nat) (t:Int) (s:Str) (a b:Nd) (ht:t=1\/t=3) (h:s∈Z2f):Gn t d a->Gn t d b->Gn 2 (d+1) (.mk 6 0 s [a,b])
theorem Z1j (d:Nat):1<=szD (d+1):=by show 1<=1+3 * szD d;omega
theorem Gn.size {t:Int} {d:Nat} {x:Nd} (h:Gn t d x):ZP x<=szD (d+1):=by
 induction h with
 | num d|fldN d|fldD d|day d|bool d=>rw [Zwp];exact Z1j d
 | neg d|not d|adj d=>rw [Zwm,ZdP (by omega)];simp only [Ybu];omega
 | btw d|arith d|two d|move d|logic d|cmp d=>rw [Zwn,ZdP (by omega)];simp only [Ybu];omega
 | cond d=>rw [Zwo,ZdP (by omega)];simp only [Ybu];omega
end Go.Proofs.YtipfkbkkndacjaaGreatDoor
namespace Go.Eng
open Go Go.RowKit Go.Proofs
structure WT (P:Program) (n:Nat) (ops:Array Oper) (S:List Nat) (Lt:List Nat) (Q:Exit->Act->World->Prop) (listed:Array Bool) (fuel:Nat) (e:Env) (w:World):Prop where
 h:∀ a,Has n e a->Zap P .any ops S (λj=>Lt.contains j) (λa w=>Q .normal a w) fuel listed a w
structure WT1 (P:Program) (n:Nat) (ops:Array Oper) (S:List Nat) (Lt:List Nat) (Q:Exit->Act->World->Prop) (i:Nat) (listed:Array Bool) (fuel:Nat) (e:Env) (w:World):Prop where
 h:∀ a,Has n e a->wpOp P ops (λ_ _ _=>False) i (λa' w'=>(Stp S w w'\/Lt.contains i=true)/\Zap P .any ops S (λj=>Lt.contains j) (λa w=>Q .normal a w) fuel (listed.setIfInBounds i true) a' w') a w
section rules
variable {P:Program} {n:Nat} {Q:Exit->Act->World->Prop} {e:Env} {w:World} {ops:Array Oper} {S:List Nat} {Lt:List Nat} {listed:Array Bool} {fuel:Nat}
theorem Z4n {id:Nat} {l:List Oper} (m:Nat) (S:List Nat) (Lt:List Nat) (cp:l.length=m) (hm:P.follows .mixedOrders=true)
 (h:∀ w',Stp [] w w'->WT P n l.toArray S Lt Q (Array.replicate m false) m e w'):WC P n (.region id l.toArray true) Q e w:=by
 subst cp;refine ⟨λa ha=>wp_region_any hm ?_⟩;have h1:=(h { w with drawn:=w.drawn+1 } (Stp.drew [] w)).h a ha;have h2:=Z0S (Q:=Q) (λa w hz=>hz) _ _ _ _ h1;simpa using h2
theorem Z4K (ord:List (Nat×Nat)) (hs:Region.noSelect ops=true) (hB:J5 ops Lt ord listed=true) (hl:Nat.beq (wt ord) fuel=true) (h:WD P n ops S Lt Q ord e w):WT P n ops S Lt Q listed fuel e w:=by
 have:=XN hl;subst this;exact ⟨λa ha=>h.h _ hs hB a ha⟩
theorem Z1x (i q:Nat) (hr:(Region.ready .any ops listed == [i,q])=true) (h1:WT1 P n ops S Lt Q i listed fuel e w) (h2:WT1 P n ops S Lt Q q listed fuel e w):WT P n ops S Lt Q listed (fuel+1) e w:=by
 have hr:=beq_iff_eq.1 hr;refine ⟨λa ha=>⟨λh0=>absurd (hr ▸ h0) (by simp),λj hj=>?_⟩⟩;rw [hr] at hj;have gk:j=i\/j=q:=by simpa using hj
 rcases gk with rfl|rfl
 exact h1.h a ha;exact h2.h a ha
variable {i d:Nat} {op:Op} {ty:TypeId} {pos:String} {af:Array Edge} {gd:Option (Nat×Bool)} {v:Value}
theorem Zt1 {o:Oper} {dst:Option Nat} {G:Value->World->Prop} (hi:ops[i]?=some o) (fP:o.dst=dst) (hg:Z02 ops e o.guard) (hp:OE P n o e w (λv w'=>(Stp S w w'\/Lt.contains i=true)/\G v w'))
 (k:∀ v w' a',G v w'->∀ a,Has n e a->a'=a.put dst v->∃ e',Has n e' a'/\WT P n ops S Lt Q (listed.setIfInBounds i true) fuel e' w'):WT1 P n ops S Lt Q i listed fuel e w:=by
 refine ⟨λa ha=>?_⟩;unfold wpOp;simp only [hi];rw [if_pos (Jv ha hg)];refine .inl (Oper.wp_mono ?_ (hp.h a ha _));rintro a' w' ⟨v,rfl,cP,hG⟩;obtain ⟨e',ji,hk⟩:=k v w' (a.put o.dst v) hG a ha (by rw [fP]);exact ⟨cP,hk.h _ ji⟩
theorem Jd {G:Value->World->Prop} (hi:ops[i]?=some ⟨some d,op,ty,pos,af,gd⟩) (hg:Z02 ops e gd) (hp:OE P n ⟨some d,op,ty,pos,af,gd⟩ e w G) (hG:∀ v w',G v w'->Stp S w w') (aw:Nat.blt d n=true)
 (k:∀ v w',G v w'->WT P n ops S Lt Q (listed.setIfInBounds i true) fuel ((d,v) :: e) w'):WT1 P n ops S Lt Q i listed fuel e w:=
 Zt1 (G:=G) hi rfl hg (hp.mono λv w' h=>⟨.inl (hG v w' h),h⟩) (λv w' a' h a ha e=>⟨_,by rw [e];exact ha.put aw,k v w' h⟩)
theorem Zjd (i:Nat) {o:Oper} (hi:ops[i]?=some o) (hd:o.dst=some d) (hY:∀ a,Has n e a->YE P ops (λ_ _=>True) o v a w) (aw:Nat.blt d n=true) (hs:Region.noSelect ops=true)
 (hB:((Region.ready .any ops listed).contains i && Region.free .any ops listed i)=true)
 (k:WT P n ops S Lt Q (listed.setIfInBounds i true) fuel ((d,v) :: e) w):WT P n ops S Lt Q listed (fuel+1) e w:=by
 refine ⟨λa ha=>?_⟩;simp only [Xm] at hB;have hk:=k.h _ (ha.put (v:=v) aw);rw [<- hd] at hk;exact Z5q (R:=λ_ _=>True) (λ_=>trivial) (λ_ _ _ _ _=>trivial) hi (λ_ _ _ _ _ _ _ _=>trivial) (Region.noSelect_spec hs) _ _ _ _ (Region.free_spec hi hB.2) (λ_=>trivial) (by simpa using hB.1) (hY a ha) hk
theorem Zje (i:Nat) {o:Oper} (hi:ops[i]?=some o) (hd:o.dst=some d) (hY:∀ a,Has n e a->YE P ops (Stp S) o v a w) (aw:Nat.blt d n=true) (hs:Region.noSelect ops=true)
 (hB:((Region.ready .any ops listed).contains i && Region.free .any ops listed i && ZeM ops Lt i)=true)
 (k:WT P n ops S Lt Q (listed.setIfInBounds i true) fuel ((d,v) :: e) w):WT P n ops S Lt Q listed (fuel+1) e w:=by
 refine ⟨λa ha=>?_⟩;simp only [Xm] at hB;obtain ⟨⟨h1,h2⟩,hb⟩:=hB;have hk:=k.h _ (ha.put (v:=v) aw);rw [<- hd] at hk;refine Z5q (R:=Stp S) (λw=>Stp.refl _ w) (λ_ _ _ h k=>h.trans k) hi (λj oj hj hn ci w w' hs=>?_) (Region.noSelect_spec hs) _ _ _ _ (Region.free_spec hi h2) (λ_=>trivial) (by simpa using h1) (hY a ha) hk;rcases hs with hs|hs
 exact hs;rw [Z56 hb hj hn ci] at hs;cases hs
theorem JY (i:Nat) (hi:ops[i]?=some ⟨some d,op,ty,pos,af,gd⟩) (hg:Z02 ops e gd) (hp:∀ w',PR P n ⟨some d,op,ty,pos,af,gd⟩ e w' v) (aw:Nat.blt d n=true) (hs:Region.noSelect ops=true)
 (hB:((Region.ready .any ops listed).contains i && Region.free .any ops listed i)=true)
 (k:WT P n ops S Lt Q (listed.setIfInBounds i true) fuel ((d,v) :: e) w):WT P n ops S Lt Q listed (fuel+1) e w:=
 Zjd i hi rfl (λa ha=>.inl ⟨Jv ha hg,λw' _=>(hp w').h a ha⟩) aw hs hB k
theorem ZaB (i:Nat) (hi:ops[i]?=some ⟨some d,op,ty,pos,af,gd⟩) (hg:Z02 ops e gd) (hp:∀ w',Stp S w w'->PR P n ⟨some d,op,ty,pos,af,gd⟩ e w' v) (aw:Nat.blt d n=true) (hs:Region.noSelect ops=true)
 (hB:((Region.ready .any ops listed).contains i && Region.free .any ops listed i && ZeM ops Lt i)=true)
 (k:WT P n ops S Lt Q (listed.setIfInBounds i true) fuel ((d,v) :: e) w):WT P n ops S Lt Q listed (fuel+1) e w:=
 Zje i hi rfl (λa ha=>.inl ⟨Jv ha hg,λw' hw=>(hp w' hw).h a ha⟩) aw hs hB k
end rules
end Go.Eng
namespace Go.Proofs.YtipfkbkkndacjaaGreatDoor
open Go Go.Eng Go.RowKit
theorem bS1 (a:Str) (w):(Instr.buildSlice 128 1 #[(0,str a)]).run Tryz.prog w=.ok (.slice (some ⟨w.heap.size,0,none⟩) 1 1) (w.alloc (.cells #[str a] 9)):=by kernel_rfl
theorem bS2 (a b:Str) (w):(Instr.buildSlice 128 2 #[(0,str a),(1,str b)]).run Tryz.prog w=.ok (.slice (some ⟨w.heap.size,0,none⟩) 2 2) (w.alloc (.cells #[str a,str b] 9)):=by kernel_rfl
theorem bS3 (a b c:Str) (w):(Instr.buildSlice 128 3 #[(0,str a),(1,str b),(2,str c)]).run Tryz.prog w=.ok (.slice (some ⟨w.heap.size,0,none⟩) 3 3) (w.alloc (.cells #[str a,str b,str c] 9)):=by kernel_rfl
theorem bS5 (a b c d e:Str) (w):(Instr.buildSlice 128 5 #[(0,str a),(1,str b),(2,str c),(3,str d),(4,str e)]).run Tryz.prog w=.ok (.slice (some ⟨w.heap.size,0,none⟩) 5 5) (w.alloc (.cells #[str a,str b,str c,str d,str e] 9)):=by kernel_rfl
theorem bS6 (a b c d e f:Str) (w):(Instr.buildSlice 128 6 #[(0,str a),(1,str b),(2,str c),(3,str d),(4,str e),(5,str f)]).run Tryz.prog w=.ok (.slice (some ⟨w.heap.size,0,none⟩) 6 6) (w.alloc (.cells #[str a,str b,str c,str d,str e,str f] 9)):=by kernel_rfl
abbrev Mk3 (w:World) (bm:Nat) (lv:Value) (i:Nat):Prop:=Blk w bm 146 [lv,.I (i:Int)]
theorem Z0g (bm:Nat) (lv:Value) (l:List Int) (i:Nat) (n:Int) (w) (hn:0<n) (hi:i<=1000000) (hb:Mk3 w bm lv i) (hs:SlV [bm] w lv l) (hl:∀ a∈l,I64 a) :
 CC 66 #[pQ bm,.I n] w λr w'=>∃ q:Nat,r=.I (q:Int)/\(q:Int)<n/\Mk3 w' bm lv (i+1)/\Stp [bm] w w':=by
 refine cW2 23 Tryz.func66 ?_;refine W ?_;refine S1 (u:=.I ((i:Int)+1)) hb ?_;rintro _ w1 ⟨jl,aY⟩;replace aY:Mk3 w1 bm lv (i+1):=aY;replace hs:=hs.ext jl (λ_ h=>h) (λ_ h=>.inl h);replace hs:SlV [] w1 lv l:=hs.wk (by simp);refine W ?_;refine ZDr 12 [] [] [(0,0),(1,0),(2,0),(3,1),(4,0),(5,0),(6,0),(7,1),(8,0),(9,0),(10,2),(11,0)] (λw1 ae=>?_);replace aY:=aY.up ae;replace hs:=hs.up ae;refine D ?_;refine Za rfl trivial (Z4 rfl (ZN rfl rfl rfl) (J3 [] _ l _ n _ hn (by unfold I64;omega) hs hl)) (λ_ _ h=>h.choose_spec.2.2) rfl ?_;rintro _ w3 ⟨q,rfl,hq,ak⟩;replace aY:=aY.up ak;refine D ?_;refine RT ?_;exact ⟨q,rfl,hq,aY,(jl.trans ae.mn).trans ak.mn⟩
theorem Z6m (bm:Nat) (lv:Value) (l:List Int) (i:Nat) (d:Nat) (z:Int) (w) (hz:z=(d:Int)) (hb:Mk3 w bm lv i) (hs:SlV [bm] w lv l) :
 CC 178 #[pQ bm,.I z] w λr w'=>∃ b:Bool,r=.B b/\(d=0->b=true)/\Stp [] w w':=by
 subst hz;refine cW2 19 Tryz.func178 ?_;refine W ?_;by_cases h0:d=0;refine ZDr 15 [] [] [(0,0),(1,0),(2,0),(3,0),(4,0),(5,0),(6,1),(7,0),(8,0),(9,0),(10,1),(11,0),(12,0),(13,0),(14,0)] (λw1 ae=>?_);refine D ?_;have e0:((d:Int)<=0):=by omega
 simp only [e0,decide_true];refine D ?_;refine RT ?_;exact ⟨true,rfl,λ_=>rfl,ae⟩;refine ZDr 15 [] [] [(0,0),(1,0),(2,0),(3,0),(4,0),(5,0),(6,1),(7,0),(8,0),(9,0),(10,1),(11,0),(12,0),(13,0),(14,0)] (λw1 ae=>?_);replace hb:=hb.up ae;replace hs:=hs.up ae;refine D ?_;have e0:¬ ((d:Int)<=0):=by omega
 simp only [e0,decide_false];refine D ?_;refine RT ?_;exact ⟨_,rfl,λh=>absurd h h0,ae⟩
theorem ZdQ (X:List Nat) (k:Int) (s:Str) (kv:Value) (kids:List Nd) (w:World) (hX:∀ b∈X,b<w.heap.size) (hs:SlV X w kv kids):CC 179 #[.I k,str s,kv] w λr w'=>NdV X w' r (.mk k 0 s kids)/\Stp [] w w':=by
 obtain ⟨p,c,rfl,-⟩:=id hs;refine cW3 11 Tryz.func179 ?_;refine W ?_;refine Z0 Z2 rfl ?_;rintro _ w1 ⟨b,rfl,hb,ac,hS⟩;refine W ?_;apply Z7 (vs:=[(0,.I k),(2,str s),(3,.slice p kids.length c)]) rfl (ZfR _ _ _ _ _) rfl;refine SB (us:=ndC (.mk k 0 s kids) (.slice p kids.length c)) (ZG hs) ac ?_;rintro _ w2 ⟨ah,aP⟩;have hT:=hS.ow ah;refine W ?_;refine J6 rfl rfl rfl aP rfl ?_;exact .mk ⟨⟨_,rfl,hs.up hT⟩,hT⟩
def Zwq (k:Int):List Str:=if k=1 then [[111,114]] else if k=2 then [[97,110,100]] else if k=4 then Z2f else if k=5 then [[43],[45]] else [[42]]
theorem Z7p (X:List Nat) (k:Int) (w:World) (hX:∀ b∈X,b<w.heap.size):CC 241 #[.I k] w λr w'=>SlV X w' r (Zwq k)/\Stp [] w w':=by
 refine cW1 17 Tryz.func241 ?_;have key:∀ (n:Nat) (vs:List Value) (v:Value) (w':World) (ys:List Str),Z9 w n ys.length vs v w'->vs=ys.flatMap Z3.enc->ys.length<=maxLen->SlV X w' v ys:=λn vs v w' ys h e hm=>Z9.slv h hX rfl e hm;by_cases h1:k=1;subst h1;refine QO ?_;refine Z0 (Z1 (vs:=[(0,str [111,114])]) rfl (bS1 _)) rfl ?_;rintro v w1 hN;have hv:SlV X w1 v ([[111,114]]:List Str):=hN.slv hX rfl rfl (by decide);have hT:=Z9.stp hN;refine RT ?_;exact ⟨hv,hT⟩;by_cases h2:k=2;subst h2;refine QO ?_;refine Z0 (Z1 (vs:=[(0,str [97,110,100])]) rfl (bS1 _)) rfl ?_;rintro v w1 hN;have hv:SlV X w1 v ([[97,110,100]]:List Str):=hN.slv hX rfl rfl (by decide);have hT:=Z9.stp hN;refine RT ?_;exact ⟨hv,hT⟩;by_cases h4:k=4;subst h4;refine QO ?_;refine Z0 (Z1 (vs:=[(0,str [60]),(1,str [60,61]),(2,str [61]),(3,str [33,61]),(4,str [62]),(5,str [62,61])]) rfl (bS6 _ _ _ _ _ _)) rfl ?_;rintro v w1 hN;have hv:SlV X w1 v Z2f:=hN.slv hX rfl rfl (by decide);have hT:=Z9.stp hN;refine RT ?_;exact ⟨hv,hT⟩;by_cases h5:k=5;subst h5;refine QO ?_;refine Z0 (Z1 (vs:=[(0,str [43]),(1,str [45])]) rfl (bS2 _ _)) rfl ?_;rintro v w1 hN;have hv:SlV X w1 v ([[43],[45]]:List Str):=hN.slv hX rfl rfl (by decide);have hT:=Z9.stp hN;refine RT ?_;exact ⟨hv,hT⟩;refine QO ?_;refine Z0 (Z1 (vs:=[(0,str [42])]) rfl (bS1 _)) rfl ?_;rintro v w1 hN;have hv:SlV X w1 v ([[42]]:List Str):=hN.slv hX rfl rfl (by decide);have hT:=Z9.stp hN;refine RT ?_;exact ⟨by unfold Zwq;rw [if_neg h1,if_neg h2,if_neg h4,if_neg h5];exact hv,hT⟩
theorem Z5x (q:Nat) (w) (hq:q<6):CC 180 #[.I (q:Int)] w λr w'=>(∃ s∈Z2f,r=str s)/\Stp [] w w':=by
 refine cW1 7 Tryz.func180 ?_;refine W ?_;refine CM (ZR rfl) (Z7p [] 4 _ (by simp)) ?_;rintro v w1 ⟨hv,hS⟩;replace hv:SlV [] w1 v Z2f:=hv;have cH:q<Z2f.length:=by show q<6;exact hq
 refine RT ?_;exact ⟨⟨_,Xd cH,rfl⟩,hS⟩
structure G3 (X:List Nat) (w0 w:World) (bm b4:Nat) (lv:Value) (l:List Int) (i:Nat):Prop where
 mkr:Mk3 w bm lv i
 sl:SlV [bm] w lv l
 stp:Stp [bm] w0 w
 blk:∃ cs:List Value,cs.length=4/\Blk w b4 97 cs
 ne:b4≠bm
 hX:∀ b∈X,b<w.heap.size
theorem G3.nxt {X:List Nat} {w0 w w':World} {bm b4:Nat} {lv:Value} {l:List Int} {i i':Nat} (h:G3 X w0 w bm b4 lv l i) (hm:Mk3 w' bm lv i') (hS:Stp [bm] w w'):G3 X w0 w' bm b4 lv l i':=
 ⟨hm,h.sl.ext hS (λ_ h=>h) (λ_ h=>.inl h),h.stp.trans hS,h.blk.imp (λcs hc=>⟨hc.1,hc.2.ext hS (by simpa using h.ne)⟩),h.ne,λb hb=>Xa (h.hX b hb) hS.size⟩
theorem G3.up {X:List Nat} {w0 w w':World} {bm b4:Nat} {lv:Value} {l:List Int} {i:Nat} (h:G3 X w0 w bm b4 lv l i) (hS:Stp [] w w'):G3 X w0 w' bm b4 lv l i:=
 h.nxt (h.mkr.up hS) hS.mn
theorem G3.fin {X:List Nat} {w0 w1 w w':World} {bm b4:Nat} {lv:Value} {l:List Int} {i:Nat} {y:Nd} {ky:Value} (h:G3 (b4 :: bm :: X) w1 w bm b4 lv l i) (hw:Stp [] w0 w1) (hb:w0.heap.size<=b4) (hy:SlV (b4 :: bm :: X) w ky y.kids) (hS:Stp [b4] w w') :
 NdV X w' (.agg (ndC y ky).toArray) y/\Mk3 w' bm lv i/\Stp [bm] w0 w':=
 ⟨⟨ky,rfl,(hy.ext (X':=b4 :: bm :: X) hS (by simp) (λ_ h=>.inl h)).wk (λc hc=>by simp [hc])⟩,h.mkr.ext hS (by simpa using h.ne.symm),(hw.mn.trans h.stp).ow hS⟩
def Z2h (f:Nat) (t:Int) (d:Nat):Prop:=∀ (X:List Nat) (w:World) (bm:Nat) (lv:Value) (l:List Int) (i:Nat) (z:Int),z=(d:Int)->Mk3 w bm lv i->SlV [bm] w lv l->(∀ a∈l,I64 a)->i+3 * szD (d+1)<=100000->(∀ b∈X,b<w.heap.size)->
 CC f #[pQ bm,.I z] w λr w'=>∃ y i',NdV X w' r y/\Gn t d y/\Mk3 w' bm lv i'/\i'<=i+3 * szD (d+1)/\Stp [bm] w w'
theorem JO {w w1 w2:World} {b:Nat} (h:Stp [] w w1) (hb:w.heap.size<=b) (h2:Stp [b] w1 w2):Stp [] w w2:=h.ow h2
structure FnP (X:List Nat) (w0 w1 w:World) (bm b4:Nat) (lv:Value) (l:List Int) (i j:Nat) (y:Nd) (ky:Value) (g:Prop):Prop where
 gm:G3 (b4 :: bm :: X) w1 w bm b4 lv l i
 s0:Stp [] w0 w1
 b0:w0.heap.size<=b4
 hy:SlV (b4 :: bm :: X) w ky y.kids
 gn:g
 le:i<=j
 h1:∀ c∈ndC y ky,c.oneCell'=true
section
variable {P:Program} {n:Nat} {e:Env} {w:World} {d:Option Nat} {ty:TypeId} {pos:String} {af:Array Edge} {gd:Option (Nat×Bool)}
theorem stN {b T m t:Nat} {cs us:List Value} {x y:Operand} {u:Value} [bG:Siz P t m] (h1:∀ c∈us,c.oneCell'=true) (hb:Blk w b T cs) (hl:us.length=cs.length) (hx:ev e x=some (pQ b)) (hy:ev e y=some u) (hu:u.cells.toList=us) (hm:us.length=m):OE P n ⟨d,.store t x y,ty,pos,af,gd⟩ e w (λ_ w'=>Stp [b] w w'/\Blk w' b T us):=Zj hx hy hu hm h1 hb hl
theorem FN {G:Prop} {X:List Nat} {w0 w1 w:World} {bm b4:Nat} {lv:Value} {l:List Int} {i:Nat} {ky:Value} {t:Int} (j d:Nat) (y:Nd) (gm:G3 (b4 :: bm :: X) w1 w bm b4 lv l i) (s0:Stp [] w0 w1) (b0:w0.heap.size<=b4) (hy:SlV (b4 :: bm :: X) w ky y.kids) (gn:Gn t d y) (le:i<=j+3 * szD (d+1))
 (h : FnP X w0 w1 w bm b4 lv l i (j + 3 * szD (d + 1)) y ky (Gn t d y) -> G := by
   intro r;obtain ⟨cs,bZ,jm⟩:=r.gm.blk;first
   | refine Z0s rfl trivial (stN r.h1 jm bZ.symm rfl rfl rfl rfl) (λ_ _ h=>h.1.mn) ?_
   | refine Z6 (stN r.h1 jm bZ.symm rfl rfl rfl rfl) ?_
   rintro _ wz ⟨hz,vf⟩;first|refine D ?_|skip
   refine W ?_;refine J6 rfl rfl rfl vf rfl ?_;have hf:=r.gm.fin r.s0 r.b0 r.hy hz;exact .mk ⟨_,_,hf.1,r.gn,hf.2.1,r.le,hf.2.2⟩):G:=h ⟨gm,s0,b0,hy,gn,le,ZG (x:=y) hy⟩
variable {X:List Nat} {w0:World} {bm b4:Nat} {lv:Value} {l:List Int} {i:Nat}
theorem G3.nx (h:G3 (b4 :: bm :: X) w0 w bm b4 lv l i) (n:Int) (hl:∀ a∈l,I64 a) (hn:0<n:=by decide) (hi:i<=1000000:=by omega):CC 66 #[pQ bm,.I n] w λr w'=>Stp [b4,bm] w w'/\Stp [bm] w w'/\∃ q:Nat,r=.I (q:Int)/\(q:Int)<n/\G3 (b4 :: bm :: X) w0 w' bm b4 lv l (i+1):=
 (Z0g bm lv l i n w hn hi h.mkr h.sl hl).mono (by
   rintro _ w' ⟨_,rfl,q,rfl,hq,hm,hS⟩;exact .mk ⟨hS.mn,hS,q,rfl,hq,h.nxt hm hS⟩)
theorem G3.kd (h:G3 (b4 :: bm :: X) w0 w bm b4 lv l i) {f e:Nat} {t z:Int} (ih:Z2h f t e) (hl:∀ a∈l,I64 a) (hz:z=(e:Int):=by omega) (hi:i+3 * szD (e+1)<=100000:=by omega):CC f #[pQ bm,.I z] w λr w'=>Stp [b4,bm] w w'/\Stp [bm] w w'/\∃ y i' p c,r=.agg (ndC y (.slice p y.kids.length c)).toArray/\SlV (b4 :: bm :: X) w' (.slice p y.kids.length c) y.kids/\Gn t e y/\i'<=i+3 * szD (e+1)/\G3 (b4 :: bm :: X) w0 w' bm b4 lv l i':=
 (ih (b4 :: bm :: X) w bm lv l i z hz h.mkr h.sl hl hi h.hX).mono (by
   rintro _ w' ⟨_,rfl,y,i',⟨k,rfl,s⟩,g,hm,cA,hS⟩;obtain ⟨p,c,rfl,-⟩:=id s;exact .mk ⟨hS.mn,hS,y,i',p,c,rfl,s,g,cA,h.nxt hm hS⟩)
theorem G3.nd (h:G3 (b4 :: bm :: X) w0 w bm b4 lv l i) (k:Int) (s:Str) {kv:Value} {kids:List Nd} (hs:SlV (b4 :: bm :: X) w kv kids):CC 179 #[.I k,str s,kv] w λr w'=>Stp [b4,bm] w w'/\Stp [] w w'/\∃ ky,r=.agg (ndC (.mk k 0 s kids) ky).toArray/\SlV (b4 :: bm :: X) w' ky kids/\G3 (b4 :: bm :: X) w0 w' bm b4 lv l i:=
 (ZdQ (b4 :: bm :: X) k s kv kids w h.hX hs).mono (by
   rintro _ w' ⟨_,rfl,⟨ky,rfl,hy⟩,hT⟩;exact .mk ⟨hT.mn,hT,ky,rfl,hy,h.up hT⟩)
abbrev ndB (y:Nd) (p:Option Addr) (c:Nat):Value:=.agg #[.I y.kind,.I y.num,str y.word,.slice p y.kids.length c]
theorem G3.b1 (h:G3 (b4 :: bm :: X) w0 w bm b4 lv l i) {y0:Nd} {p0:Option Addr} {c0:Nat} (s0:SlV (b4 :: bm :: X) w (.slice p0 y0.kids.length c0) y0.kids) {q:List (Nat×Operand)} (hv:Jw e q=some [(0,ndB y0 p0 c0)]) :
 OE Tryz.prog n ⟨d,.buildSlice 95 1 q.toArray,ty,pos,af,gd⟩ e w (λv w'=>Stp [b4,bm] w w'/\Stp [] w w'/\SlV (b4 :: bm :: X) w' v [y0]/\G3 (b4 :: bm :: X) w0 w' bm b4 lv l i):=
 (Z1 hv (Zja _ _ _ _ _ _)).mono (λv w' hN=>⟨(Z9.stp hN).mn,Z9.stp hN,hN.slvG (css:=[ndC y0 _]) h.hX rfl rfl rfl (Zwk s0) (by simp [maxLen]),h.up (Z9.stp hN)⟩)
theorem G3.b2 (h:G3 (b4 :: bm :: X) w0 w bm b4 lv l i) {y0 y1:Nd} {p0 p1:Option Addr} {c0 c1:Nat} (s0:SlV (b4 :: bm :: X) w (.slice p0 y0.kids.length c0) y0.kids) (s1:SlV (b4 :: bm :: X) w (.slice p1 y1.kids.length c1) y1.kids) {q:List (Nat×Operand)} (hv:Jw e q=some [(0,ndB y0 p0 c0),(1,ndB y1 p1 c1)]) :
 OE Tryz.prog n ⟨d,.buildSlice 95 2 q.toArray,ty,pos,af,gd⟩ e w (λv w'=>Stp [b4,bm] w w'/\Stp [] w w'/\SlV (b4 :: bm :: X) w' v [y0,y1]/\G3 (b4 :: bm :: X) w0 w' bm b4 lv l i):=
 (Z1 hv (ZbQ _ _ _ _ _ _ _ _ _ _ _ _)).mono (λv w' hN=>⟨(Z9.stp hN).mn,Z9.stp hN,hN.slvG (css:=[ndC y0 _,ndC y1 _]) h.hX rfl rfl rfl (Zov s0 s1) (by simp [maxLen]),h.up (Z9.stp hN)⟩)
theorem G3.b3 (h:G3 (b4 :: bm :: X) w0 w bm b4 lv l i) {y0 y1 y2:Nd} {p0 p1 p2:Option Addr} {c0 c1 c2:Nat} (s0:SlV (b4 :: bm :: X) w (.slice p0 y0.kids.length c0) y0.kids) (s1:SlV (b4 :: bm :: X) w (.slice p1 y1.kids.length c1) y1.kids) (s2:SlV (b4 :: bm :: X) w (.slice p2 y2.kids.length c2) y2.kids) {q:List (Nat×Operand)} (hv:Jw e q=some [(0,ndB y0 p0 c0),(1,ndB y1 p1 c1),(2,ndB y2 p2 c2)]) :
 OE Tryz.prog n ⟨d,.buildSlice 95 3 q.toArray,ty,pos,af,gd⟩ e w (λv w'=>Stp [b4,bm] w w'/\Stp [] w w'/\SlV (b4 :: bm :: X) w' v [y0,y1,y2]/\G3 (b4 :: bm :: X) w0 w' bm b4 lv l i):=
 (Z1 hv (Zjb _ _ _ _ _ _ _ _ _ _ _ _ _ _ _ _ _ _)).mono (λv w' hN=>⟨(Z9.stp hN).mn,Z9.stp hN,hN.slvG (css:=[ndC y0 _,ndC y1 _,ndC y2 _]) h.hX rfl rfl rfl (Zwl s0 s1 s2) (by simp [maxLen]),h.up (Z9.stp hN)⟩)
end
set_option maxHeartbeats 1000000
theorem Z5y (d:Nat) (tf:d<=6) (ih:∀ e,d=e+1->Z2h 181 1 e/\Z2h 104 2 e/\Z2h 105 3 e):Z2h 181 1 d:=by
 intro X w bm lv l i z hz ay ax hl hi hX;subst hz;have bG:szD (d+1)=1+3 * szD d:=rfl;refine cW2 88 Tryz.func181 ?_;refine W ?_;refine Z0 Z2 rfl ?_;rintro _ w1 ⟨b4,rfl,bE,bB,bA⟩;have gm:G3 (b4 :: bm :: X) w1 w1 bm b4 lv l i:=⟨ay.up bA,ax.up bA,Stp.refl _ _,⟨_,rfl,bB⟩,λh=>by have:=ay.lt;omega,λc hc=>by
  simp only [Xb] at hc;have h1:=bB.lt;have h2:=ay.lt;have h3:=bA.size;rcases hc with rfl|rfl|hc
  exact h1;omega;have:=hX c hc;omega⟩
 clear bB hX ax ay;refine W ?_;refine Z0 (Z4 rfl (Zd rfl rfl) (gm.nx 9 hl)) rfl ?_;rintro _ wq ⟨-,hS,q,rfl,hq,gm⟩;refine W ?_;refine Z0 (Z4 rfl (Zd rfl rfl) (Z6m bm lv l _ d _ _ rfl gm.mkr gm.sl)) rfl ?_;rintro _ wq ⟨dn,rfl,aw,hT⟩;replace gm:=gm.up hT;clear hT;refine W ?_;refine Ju (σ:=Nat) (λk=>[(0,pQ bm),(1,.I (d:Int)),(4,pQ b4),(5,.I (k:Int))]) (λk w'=>w'=wq/\k<9/\(d=0->k<4)) ?_ ?_
 . cases dn with
   | true=>
     refine QO ?_;exact Zy (q % 4) ⟨rfl,rfl,rfl,rfl,trivial⟩ ⟨rfl,by omega,λ_=>by omega⟩
   | false=>
     refine QO ?_;exact Zy q ⟨rfl,rfl,rfl,rfl,trivial⟩ ⟨rfl,by omega,λh=>absurd (aw h) (by decide)⟩
 rintro k w3 ⟨rfl,jn,bH⟩;clear hq aw;by_cases k0:k<=2
 . repeat'(first|refine W1 ?_|omega|refine VG ?_ ?_<;>intro hg|refine VC ?_ ?_<;>intro hc)
   all_goals
    refine Z0 (Z4 rfl (Zd rfl rfl) (gm.nx 25 hl)) rfl ?_;rintro _ wq ⟨-,hS,q',rfl,gK,gm⟩;refine W ?_;apply Z7 (vs:=[(0,.I 1),(1,.I _)]) rfl (Z3O _ _) rfl;have hy:SlV (α:=Nd) (b4 :: bm :: X) _ (.N) []:=Zn _ wq;exact FN i d (.mk 1 (q':Int) [] []) gm bA bE hy (.num _ _ (by omega)) (by omega)
 by_cases k3:k=3;refine QO ?_;refine Z0 (Z1 (vs:=[(0,str [101,120,116,114,97]),(1,str [98,121]),(2,str [116,111]),(3,str [99,111,117,114,116]),(4,str [97,109,111,117,110,116])]) rfl (bS5 _ _ _ _ _)) rfl ?_;rintro wv wq hN;have aT:SlV [bm] wq wv Zjc:=hN.slv (λc hc=>gm.hX c (by simp at hc;subst hc;simp)) rfl rfl (by decide);have hT:=Z9.stp hN;clear hN;replace gm:=gm.up hT;clear hT;refine W ?_;refine Z0 (Z4 rfl (Zd rfl rfl) (gm.nx 5 hl)) rfl ?_;rintro _ wq ⟨-,hS,q',rfl,gK,gm⟩;replace aT:=aT.ext hS (by simp) (λ_ h=>.inl h);have cH:q'<Zjc.length:=by show q'<5;omega
 refine W ?_;refine Z0 (Z4 rfl (ZN rfl rfl rfl) (gm.nd 4 Zjc[q'] (Zn _ _))) rfl ?_;rintro _ wq ⟨-,hT,ky,rfl,hy,gm⟩;exact FN i d (.mk 4 0 Zjc[q'] []) gm bA bE hy (.fldN _ _ (Xd cH)) (by omega);by_cases k4:k=4;obtain ⟨e,rfl⟩:∃ e,d=e+1:=⟨d - 1,by omega⟩
 replace ih:=ih e rfl;have bt:=Z1j e;refine QO ?_;refine W ?_;refine Z0 (Z4 rfl (Zd rfl rfl) (gm.kd ih.1 hl)) rfl ?_;rintro _ wq ⟨-,hS,y0,i0,p0,c0,rfl,s0,g0,fH,gm⟩;refine W ?_;refine Z0 (gm.b1 s0 rfl) rfl ?_;rintro bv wq ⟨-,hT,aq,gm⟩;refine W ?_;refine Z0 (Z4 rfl (ZN rfl rfl rfl) (gm.nd 5 [45] aq)) rfl ?_;rintro _ wq ⟨-,hT,ky,rfl,hy,gm⟩;refine W ?_;exact FN i (e+1) (.mk 5 0 [45] [y0]) gm bA bE hy (.neg _ _ g0) (by omega);by_cases k5:k=5;obtain ⟨e,rfl⟩:∃ e,d=e+1:=⟨d - 1,by omega⟩
 replace ih:=ih e rfl;have bt:=Z1j e;refine QO ?_;refine W ?_;refine Z0 (Z4 rfl (Zd rfl rfl) (gm.kd ih.2.2 hl)) rfl ?_;rintro _ wq ⟨-,hS,y0,i0,p0,c0,rfl,s0,g0,fH,gm⟩;refine Z0 Z2 rfl ?_;rintro _ wq ⟨b0',rfl,bC,e0,hT⟩;refine SB (us:=ndC y0 _) (ZG s0) e0 ?_;rintro _ wq ⟨ar,e0⟩;replace hT:=JO hT bC ar;clear ar;have n0:b0'≠bm:=λh=>by have:=gm.mkr.lt;omega
 have n0':b0'≠b4:=λh=>by obtain ⟨_,_,hc⟩:=gm.blk;have:=hc.lt;omega
 replace gm:=gm.up hT;replace s0:=s0.up hT;clear hT bC;refine W ?_;refine ZDr 8 ([b4,bm]) [] [(0,1),(1,0),(2,0),(3,0),(4,2),(5,2),(6,2),(7,2)] (λw1 ae=>?_);have hT:=ae;replace gm:=gm.up hT;replace s0:=s0.up hT;replace e0:=e0.up hT;clear hT ae;refine WD_read rfl trivial (λw' aN=>ZC rfl rfl (e0.ext aN (by simp;exact ⟨n0',n0⟩)) rfl) rfl ?_;refine D ?_;refine Za rfl trivial (Z4 rfl (Zd rfl rfl) (gm.kd ih.2.2 hl)) (λ_ _ h=>h.1) rfl ?_;rintro _ wq ⟨-,hS,y1,i1,p1,c1,rfl,s1,g1,bO,gm⟩;replace s0:=s0.ext hS (by simp) (λ_ h=>.inl h);replace e0:=e0.ext hS (by simp;exact n0);refine D ?_;refine Za rfl trivial (gm.b2 s0 s1 rfl) (λ_ _ h=>h.1) rfl ?_;rintro bv wq ⟨-,hT,aq,gm⟩;refine D ?_;refine Za rfl trivial (Z4 rfl (ZN rfl rfl rfl) (gm.nd 10 [98,101,116,119,101,101,110] aq)) (λ_ _ h=>h.1) rfl ?_;rintro _ wq ⟨-,hT,ky,rfl,hy,gm⟩;refine D ?_;exact FN i (e+1) (.mk 10 0 [98,101,116,119,101,101,110] [y0,y1]) gm bA bE hy (.btw _ _ _ g0 g1) (by omega);by_cases k6:k=6;obtain ⟨e,rfl⟩:∃ e,d=e+1:=⟨d - 1,by omega⟩
 replace ih:=ih e rfl;have bt:=Z1j e;refine QO ?_;refine W ?_;refine Z0 (Z4 rfl (Zd rfl rfl) (gm.kd ih.2.1 hl)) rfl ?_;rintro _ wq ⟨-,hS,y0,i0,p0,c0,rfl,s0,g0,fH,gm⟩;refine Z0 Z2 rfl ?_;rintro _ wq ⟨b0',rfl,bC,e0,hT⟩;refine SB (us:=ndC y0 _) (ZG s0) e0 ?_;rintro _ wq ⟨ar,e0⟩;replace hT:=JO hT bC ar;clear ar;have n0:b0'≠bm:=λh=>by have:=gm.mkr.lt;omega
 have n0':b0'≠b4:=λh=>by obtain ⟨_,_,hc⟩:=gm.blk;have:=hc.lt;omega
 replace gm:=gm.up hT;replace s0:=s0.up hT;clear hT bC;refine W ?_;refine Z0 (Z4 rfl (Zd rfl rfl) (gm.kd ih.1 hl)) rfl ?_;rintro _ wq ⟨-,hS,y1,i1,p1,c1,rfl,s1,g1,bO,gm⟩;replace s0:=s0.ext hS (by simp) (λ_ h=>.inl h);replace e0:=e0.ext hS (by simp;exact n0);refine Z0 Z2 rfl ?_;rintro _ wq ⟨b1',rfl,iB,e1,hT⟩;refine SB (us:=ndC y1 _) (ZG s1) e1 ?_;rintro _ wq ⟨ar,e1⟩;replace hT:=JO hT iB ar;clear ar;have n1:b1'≠bm:=λh=>by have:=gm.mkr.lt;omega
 have n1':b1'≠b4:=λh=>by obtain ⟨_,_,hc⟩:=gm.blk;have:=hc.lt;omega
 replace gm:=gm.up hT;replace s0:=s0.up hT;replace e0:=e0.up hT;replace s1:=s1.up hT;clear hT iB;refine W ?_;refine ZDr 9 ([b4,bm]) [] [(0,1),(1,1),(2,0),(3,0),(4,0),(5,2),(6,2),(7,2),(8,2)] (λw1 ae=>?_);have hT:=ae;replace gm:=gm.up hT;replace s0:=s0.up hT;replace e0:=e0.up hT;replace s1:=s1.up hT;replace e1:=e1.up hT;clear hT ae;refine WD_read rfl trivial (λw' aN=>ZC rfl rfl (e0.ext aN (by simp;exact ⟨n0',n0⟩)) rfl) rfl ?_;refine WD_read rfl trivial (λw' aN=>ZC rfl rfl (e1.ext aN (by simp;exact ⟨n1',n1⟩)) rfl) rfl ?_;refine D ?_;refine Za rfl trivial (Z4 rfl (Zd rfl rfl) (gm.kd ih.1 hl)) (λ_ _ h=>h.1) rfl ?_;rintro _ wq ⟨-,hS,y2,i2,p2,c2,rfl,s2,g2,cn,gm⟩;replace s0:=s0.ext hS (by simp) (λ_ h=>.inl h);replace e0:=e0.ext hS (by simp;exact n0);replace s1:=s1.ext hS (by simp) (λ_ h=>.inl h);replace e1:=e1.ext hS (by simp;exact n1);refine D ?_;refine Za rfl trivial (gm.b3 s0 s1 s2 rfl) (λ_ _ h=>h.1) rfl ?_;rintro bv wq ⟨-,hT,aq,gm⟩;refine D ?_;refine Za rfl trivial (Z4 rfl (ZN rfl rfl rfl) (gm.nd 9 [] aq)) (λ_ _ h=>h.1) rfl ?_;rintro _ wq ⟨-,hT,ky,rfl,hy,gm⟩;refine D ?_;exact FN i (e+1) (.mk 9 0 [] [y0,y1,y2]) gm bA bE hy (.cond _ _ _ _ _ (by decide) g0 g1 g2) (by omega);obtain ⟨e,rfl⟩:∃ e,d=e+1:=⟨d - 1,by omega⟩
 replace ih:=ih e rfl;have bt:=Z1j e;refine QO ?_;refine W ?_;refine Z0 (Z4 rfl (Zd rfl rfl) (gm.kd ih.1 hl)) rfl ?_;rintro _ wq ⟨-,hS,y0,i0,p0,c0,rfl,s0,g0,fH,gm⟩;refine Z0 Z2 rfl ?_;rintro _ wq ⟨b0',rfl,bC,e0,hT⟩;refine SB (us:=ndC y0 _) (ZG s0) e0 ?_;rintro _ wq ⟨ar,e0⟩;replace hT:=JO hT bC ar;clear ar;have n0:b0'≠bm:=λh=>by have:=gm.mkr.lt;omega
 have n0':b0'≠b4:=λh=>by obtain ⟨_,_,hc⟩:=gm.blk;have:=hc.lt;omega
 replace gm:=gm.up hT;replace s0:=s0.up hT;clear hT bC;refine W ?_;refine Z4n 13 [b4,bm] [] rfl mixed (λw1 ae=>?_);have hT:=ae;replace gm:=gm.up hT;replace s0:=s0.up hT;replace e0:=e0.up hT;clear hT ae;refine JY 1 rfl trivial (λw'=>ZZ rfl) rfl (by kernel_rfl) (by kernel_rfl) ?_;refine ZaB 5 rfl trivial (λw' aN=>ZC rfl rfl (e0.ext aN (by simp;exact ⟨n0',n0⟩)) rfl) rfl (by kernel_rfl) (by kernel_rfl) ?_;refine JY 6 rfl trivial (λw'=>ZZ rfl) rfl (by kernel_rfl) (by kernel_rfl) ?_;refine JY 7 rfl trivial (λw'=>ZZ rfl) rfl (by kernel_rfl) (by kernel_rfl) ?_;refine JY 8 rfl trivial (λw'=>Z6g rfl rfl (by unfold I64;omega)) rfl (by kernel_rfl) (by kernel_rfl) ?_;refine Z1x 0 2 (by kernel_rfl) ?_ ?_;refine Jd rfl trivial (Z1 (vs:=[(0,str [43]),(1,str [45]),(2,str [42])]) rfl (bS3 _ _ _)) (λ_ _ h=>(Z9.stp h).mn) rfl ?_;rintro wv wq hN;have aT:SlV [b4,bm] wq wv Z0U:=hN.slv (λc hc=>gm.hX c (by simp at hc;rcases hc with rfl|rfl<;>simp)) rfl rfl (by decide);have hT:=Z9.stp hN;clear hN;replace gm:=gm.up hT;replace s0:=s0.up hT;replace e0:=e0.up hT;clear hT;refine Z4K [(2,2),(3,0),(4,1),(9,2),(10,2),(11,2),(12,2)] (by kernel_rfl) (by kernel_rfl) (by kernel_rfl) ?_;refine Za rfl trivial (Z4 rfl (Zd rfl rfl) (gm.nx 3 hl)) (λ_ _ h=>h.1) rfl ?_;rintro _ wq ⟨-,hS,q,rfl,hq,gm⟩;replace s0:=s0.ext hS (by simp) (λ_ h=>.inl h);replace e0:=e0.ext hS (by simp;exact n0);replace aT:=aT.ext hS (by simp) (λ_ h=>.inl h);have cH:q<Z0U.length:=by show q<3;omega
 refine D ?_;refine Za rfl trivial (Z4 rfl (Zd rfl rfl) (gm.kd ih.1 hl)) (λ_ _ h=>h.1) rfl ?_;rintro _ wq ⟨-,hS,y1,i1,p1,c1,rfl,s1,g1,bO,gm⟩;replace s0:=s0.ext hS (by simp) (λ_ h=>.inl h);replace e0:=e0.ext hS (by simp;exact n0);replace aT:=aT.ext hS (by simp) (λ_ h=>.inl h);refine D ?_;refine Za rfl trivial (gm.b2 s0 s1 rfl) (λ_ _ h=>h.1) rfl ?_;rintro bv wq ⟨-,hT,aq,gm⟩;replace aT:=aT.up hT;refine D ?_;refine Za rfl trivial (Z4 rfl (ZN rfl rfl rfl) (gm.nd 6 Z0U[q] aq)) (λ_ _ h=>h.1) rfl ?_;rintro _ wq ⟨-,hT,ky,rfl,hy,gm⟩;refine D ?_;exact FN i (e+1) (.mk 6 0 Z0U[q] [y0,y1]) gm bA bE hy (.arith _ _ _ _ (Xd cH) g0 g1) (by omega);refine Jd rfl trivial (Z4 rfl (Zd rfl rfl) (gm.nx 3 hl)) (λ_ _ h=>h.1) rfl ?_;rintro _ wq ⟨-,hS,q,rfl,hq,gm⟩;replace s0:=s0.ext hS (by simp) (λ_ h=>.inl h);replace e0:=e0.ext hS (by simp;exact n0);have cH:q<Z0U.length:=by show q<3;omega
 refine Z1x 0 9 (by kernel_rfl) ?_ ?_;refine Jd rfl trivial (Z1 (vs:=[(0,str [43]),(1,str [45]),(2,str [42])]) rfl (bS3 _ _ _)) (λ_ _ h=>(Z9.stp h).mn) rfl ?_;rintro wv wq hN;have aT:SlV [b4,bm] wq wv Z0U:=hN.slv (λc hc=>gm.hX c (by simp at hc;rcases hc with rfl|rfl<;>simp)) rfl rfl (by decide);have hT:=Z9.stp hN;clear hN;replace gm:=gm.up hT;replace s0:=s0.up hT;replace e0:=e0.up hT;clear hT;refine Z4K [(3,0),(4,1),(9,2),(10,2),(11,2),(12,2)] (by kernel_rfl) (by kernel_rfl) (by kernel_rfl) ?_;refine D ?_;refine Za rfl trivial (Z4 rfl (Zd rfl rfl) (gm.kd ih.1 hl)) (λ_ _ h=>h.1) rfl ?_;rintro _ wq ⟨-,hS,y1,i1,p1,c1,rfl,s1,g1,bO,gm⟩;replace s0:=s0.ext hS (by simp) (λ_ h=>.inl h);replace e0:=e0.ext hS (by simp;exact n0);replace aT:=aT.ext hS (by simp) (λ_ h=>.inl h);refine D ?_;refine Za rfl trivial (gm.b2 s0 s1 rfl) (λ_ _ h=>h.1) rfl ?_;rintro bv wq ⟨-,hT,aq,gm⟩;replace aT:=aT.up hT;refine D ?_;refine Za rfl trivial (Z4 rfl (ZN rfl rfl rfl) (gm.nd 6 Z0U[q] aq)) (λ_ _ h=>h.1) rfl ?_;rintro _ wq ⟨-,hT,ky,rfl,hy,gm⟩;refine D ?_;exact FN i (e+1) (.mk 6 0 Z0U[q] [y0,y1]) gm bA bE hy (.arith _ _ _ _ (Xd cH) g0 g1) (by omega);refine Jd rfl trivial (Z4 rfl (Zd rfl rfl) (gm.kd ih.1 hl)) (λ_ _ h=>h.1) rfl ?_;rintro _ wq ⟨-,hS,y1,i1,p1,c1,rfl,s1,g1,bO,gm⟩;replace s0:=s0.ext hS (by simp) (λ_ h=>.inl h);replace e0:=e0.ext hS (by simp;exact n0);refine Z1x 0 10 (by kernel_rfl) ?_ ?_;refine Jd rfl trivial (Z1 (vs:=[(0,str [43]),(1,str [45]),(2,str [42])]) rfl (bS3 _ _ _)) (λ_ _ h=>(Z9.stp h).mn) rfl ?_;rintro wv wq hN;have aT:SlV [b4,bm] wq wv Z0U:=hN.slv (λc hc=>gm.hX c (by simp at hc;rcases hc with rfl|rfl<;>simp)) rfl rfl (by decide);have hT:=Z9.stp hN;clear hN;replace gm:=gm.up hT;replace s0:=s0.up hT;replace e0:=e0.up hT;replace s1:=s1.up hT;clear hT;refine Z4K [(3,0),(4,1),(10,2),(11,2),(12,2)] (by kernel_rfl) (by kernel_rfl) (by kernel_rfl) ?_;refine D ?_;refine D ?_;refine Za rfl trivial (gm.b2 s0 s1 rfl) (λ_ _ h=>h.1) rfl ?_;rintro bv wq ⟨-,hT,aq,gm⟩;replace aT:=aT.up hT;refine D ?_;refine Za rfl trivial (Z4 rfl (ZN rfl rfl rfl) (gm.nd 6 Z0U[q] aq)) (λ_ _ h=>h.1) rfl ?_;rintro _ wq ⟨-,hT,ky,rfl,hy,gm⟩;refine D ?_;exact FN i (e+1) (.mk 6 0 Z0U[q] [y0,y1]) gm bA bE hy (.arith _ _ _ _ (Xd cH) g0 g1) (by omega);refine Jd rfl trivial (gm.b2 s0 s1 rfl) (λ_ _ h=>h.1) rfl ?_;rintro bv wq ⟨-,hT,aq,gm⟩;refine Z4K [(0,2),(3,0),(4,1),(11,2),(12,2)] (by kernel_rfl) (by kernel_rfl) (by kernel_rfl) ?_;refine Za rfl trivial (Z1 (vs:=[(0,str [43]),(1,str [45]),(2,str [42])]) rfl (bS3 _ _ _)) (λ_ _ h=>(Z9.stp h).mn) rfl ?_;rintro wv wq hN;have aT:SlV [b4,bm] wq wv Z0U:=hN.slv (λc hc=>gm.hX c (by simp at hc;rcases hc with rfl|rfl<;>simp)) rfl rfl (by decide);have hT:=Z9.stp hN;clear hN;replace gm:=gm.up hT;replace aq:=aq.up hT;clear hT;refine D ?_;refine D ?_;refine D ?_;refine Za rfl trivial (Z4 rfl (ZN rfl rfl rfl) (gm.nd 6 Z0U[q] aq)) (λ_ _ h=>h.1) rfl ?_;rintro _ wq ⟨-,hT,ky,rfl,hy,gm⟩;refine D ?_;exact FN i (e+1) (.mk 6 0 Z0U[q] [y0,y1]) gm bA bE hy (.arith _ _ _ _ (Xd cH) g0 g1) (by omega)
set_option maxHeartbeats 1000000
theorem Z7Y (d:Nat) (tf:d<=6) (ih:∀ e,d=e+1->Z2h 181 1 e/\Z2h 104 2 e/\Z2h 105 3 e):Z2h 104 2 d:=by
 intro X w bm lv l i z hz ay ax hl hi hX;subst hz;have bG:szD (d+1)=1+3 * szD d:=rfl;refine cW2 80 Tryz.func104 ?_;refine W ?_;refine Z0 Z2 rfl ?_;rintro _ w1 ⟨b4,rfl,bE,bB,bA⟩;have gm:G3 (b4 :: bm :: X) w1 w1 bm b4 lv l i:=⟨ay.up bA,ax.up bA,Stp.refl _ _,⟨_,rfl,bB⟩,λh=>by have:=ay.lt;omega,λc hc=>by
  simp only [Xb] at hc;have h1:=bB.lt;have h2:=ay.lt;have h3:=bA.size;rcases hc with rfl|rfl|hc
  exact h1;omega;have:=hX c hc;omega⟩
 clear bB hX ax ay;refine W ?_;refine Z0 (Z4 rfl (Zd rfl rfl) (gm.nx 6 hl)) rfl ?_;rintro _ wq ⟨-,hS,q,rfl,hq,gm⟩;refine W ?_;refine Z0 (Z4 rfl (Zd rfl rfl) (Z6m bm lv l _ d _ _ rfl gm.mkr gm.sl)) rfl ?_;rintro _ wq ⟨dn,rfl,aw,hT⟩;replace gm:=gm.up hT;clear hT;cases dn with
 | true=>
   refine QO ?_;apply Z7 (vs:=[(0,.int .i64 2),(1,.int .i64 (1 - (q:Int) / 5))]) rfl (Z3O _ _) rfl;have hy:SlV (α:=Nd) (b4 :: bm :: X) _ (.slice none 0 0) []:=Zn _ wq;exact FN i d (.mk 2 (1 - (q:Int) / 5) [] []) gm bA bE hy (.bool _ _ (by omega)) (by omega)
 | false=>
   have cQ:d≠0:=λh=>absurd (aw h) (by decide)
   obtain ⟨e,rfl⟩:∃ e,d=e+1:=⟨d - 1,by omega⟩
   replace ih:=ih e rfl;have bt:=Z1j e;clear cQ aw;by_cases k0:q=0;refine QO ?_;refine Z0 (Z4 rfl (Zd rfl rfl) (gm.nx 2 hl)) rfl ?_;rintro _ wq ⟨-,hS,q',rfl,gK,gm⟩;refine W ?_;apply Z7 (vs:=[(0,.int .i64 2),(1,.int .i64 _)]) rfl (Z3O _ _) rfl;have hy:SlV (α:=Nd) (b4 :: bm :: X) _ (.slice none 0 0) []:=Zn _ wq;exact FN i (e+1) (.mk 2 (q':Int) [] []) gm bA bE hy (.bool _ _ (by omega)) (by omega);by_cases k1:q=1;refine QO ?_;refine W ?_;refine Z0 (Z4 rfl (Zd rfl rfl) (gm.kd ih.2.1 hl)) rfl ?_;rintro _ wq ⟨-,hS,y0,i0,p0,c0,rfl,s0,g0,fH,gm⟩;refine W ?_;refine Z0 (gm.b1 s0 rfl) rfl ?_;rintro bv wq ⟨-,hT,aq,gm⟩;refine W ?_;refine Z0 (Z4 rfl (ZN rfl rfl rfl) (gm.nd 5 [110,111,116] aq)) rfl ?_;rintro _ wq ⟨-,hT,ky,rfl,hy,gm⟩;refine W ?_;exact FN i (e+1) (.mk 5 0 [110,111,116] [y0]) gm bA bE hy (.not _ _ g0) (by omega);by_cases k2:q=2;refine QO ?_;refine W ?_;refine Z0 (Z4 rfl (Zd rfl rfl) (gm.kd ih.2.1 hl)) rfl ?_;rintro _ wq ⟨-,hS,y0,i0,p0,c0,rfl,s0,g0,fH,gm⟩;refine Z0 Z2 rfl ?_;rintro _ wq ⟨b0',rfl,bC,e0,hT⟩;refine Z6 (Zj (us:=ndC y0 _) rfl rfl rfl rfl (ZG s0) e0 rfl) ?_;rintro _ wq ⟨ar,e0⟩;replace hT:=JO hT bC ar;clear ar;have n0:b0'≠bm:=λh=>by have:=gm.mkr.lt;omega
   have n0':b0'≠b4:=λh=>by obtain ⟨_,_,hc⟩:=gm.blk;have:=hc.lt;omega
   replace gm:=gm.up hT;replace s0:=s0.up hT;clear hT bC;refine W ?_;refine Z4n 13 [b4,bm] [] rfl mixed (λw1 ae=>?_);have hT:=ae;replace gm:=gm.up hT;replace s0:=s0.up hT;replace e0:=e0.up hT;clear hT ae;refine JY 1 rfl trivial (λw'=>ZZ rfl) rfl (by kernel_rfl) (by kernel_rfl) ?_;refine ZaB 5 rfl trivial (λw' aN=>ZC rfl rfl (e0.ext aN (by simp;exact ⟨n0',n0⟩)) rfl) rfl (by kernel_rfl) (by kernel_rfl) ?_;refine JY 6 rfl trivial (λw'=>ZZ rfl) rfl (by kernel_rfl) (by kernel_rfl) ?_;refine JY 7 rfl trivial (λw'=>ZZ rfl) rfl (by kernel_rfl) (by kernel_rfl) ?_;refine JY 8 rfl trivial (λw'=>Z6g rfl rfl (by unfold I64;omega)) rfl (by kernel_rfl) (by kernel_rfl) ?_;refine Z1x 0 2 (by kernel_rfl) ?_ ?_;refine Jd rfl trivial (Z1 (vs:=[(0,str [97,110,100]),(1,str [111,114])]) rfl (bS2 _ _)) (λ_ _ h=>(Z9.stp h).mono (by simp)) rfl ?_;rintro wv wq hN;have aT:SlV [b4,bm] wq wv Z0H:=hN.slv (λc hc=>gm.hX c (by simp at hc;rcases hc with rfl|rfl<;>simp)) rfl rfl (by decide);have hT:=Z9.stp hN;clear hN;replace gm:=gm.up hT;replace s0:=s0.up hT;replace e0:=e0.up hT;clear hT;refine Z4K [(2,2),(3,0),(4,1),(9,2),(10,2),(11,2),(12,2)] (by kernel_rfl) (by kernel_rfl) (by kernel_rfl) ?_;refine Za rfl trivial (Z4 rfl (Zd rfl rfl) (gm.nx 2 hl)) (λ_ _ h=>h.1) rfl ?_;rintro _ wq ⟨-,hS,q,rfl,hq,gm⟩;replace s0:=s0.ext hS (by simp) (λ_ h=>.inl h);replace e0:=e0.ext hS (by simp;exact n0);replace aT:=aT.ext hS (by simp) (λ_ h=>.inl h);have cH:q<Z0H.length:=by show q<2;omega
   refine D ?_;refine Za rfl trivial (Z4 rfl (Zd rfl rfl) (gm.kd ih.2.1 hl)) (λ_ _ h=>h.1) rfl ?_;rintro _ wq ⟨-,hS,y1,i1,p1,c1,rfl,s1,g1,bO,gm⟩;replace s0:=s0.ext hS (by simp) (λ_ h=>.inl h);replace e0:=e0.ext hS (by simp;exact n0);replace aT:=aT.ext hS (by simp) (λ_ h=>.inl h);refine D ?_;refine Za rfl trivial (gm.b2 s0 s1 rfl) (λ_ _ h=>h.1) rfl ?_;rintro bv wq ⟨-,hT,aq,gm⟩;replace aT:=aT.up hT;refine D ?_;refine Za rfl trivial (Z4 rfl (ZN rfl rfl rfl) (gm.nd 6 Z0H[q] aq)) (λ_ _ h=>h.1) rfl ?_;rintro _ wq ⟨-,hT,ky,rfl,hy,gm⟩;refine D ?_;exact FN i (e+1) (.mk 6 0 Z0H[q] [y0,y1]) gm bA bE hy (.logic _ _ _ _ (Xd cH) g0 g1) (by omega);refine Jd rfl trivial (Z4 rfl (Zd rfl rfl) (gm.nx 2 hl)) (λ_ _ h=>h.1) rfl ?_;rintro _ wq ⟨-,hS,q,rfl,hq,gm⟩;replace s0:=s0.ext hS (by simp) (λ_ h=>.inl h);replace e0:=e0.ext hS (by simp;exact n0);have cH:q<Z0H.length:=by show q<2;omega
   refine Z1x 0 9 (by kernel_rfl) ?_ ?_;refine Jd rfl trivial (Z1 (vs:=[(0,str [97,110,100]),(1,str [111,114])]) rfl (bS2 _ _)) (λ_ _ h=>(Z9.stp h).mono (by simp)) rfl ?_;rintro wv wq hN;have aT:SlV [b4,bm] wq wv Z0H:=hN.slv (λc hc=>gm.hX c (by simp at hc;rcases hc with rfl|rfl<;>simp)) rfl rfl (by decide);have hT:=Z9.stp hN;clear hN;replace gm:=gm.up hT;replace s0:=s0.up hT;replace e0:=e0.up hT;clear hT;refine Z4K [(3,0),(4,1),(9,2),(10,2),(11,2),(12,2)] (by kernel_rfl) (by kernel_rfl) (by kernel_rfl) ?_;refine D ?_;refine Za rfl trivial (Z4 rfl (Zd rfl rfl) (gm.kd ih.2.1 hl)) (λ_ _ h=>h.1) rfl ?_;rintro _ wq ⟨-,hS,y1,i1,p1,c1,rfl,s1,g1,bO,gm⟩;replace s0:=s0.ext hS (by simp) (λ_ h=>.inl h);replace e0:=e0.ext hS (by simp;exact n0);replace aT:=aT.ext hS (by simp) (λ_ h=>.inl h);refine D ?_;refine Za rfl trivial (gm.b2 s0 s1 rfl) (λ_ _ h=>h.1) rfl ?_;rintro bv wq ⟨-,hT,aq,gm⟩;replace aT:=aT.up hT;refine D ?_;refine Za rfl trivial (Z4 rfl (ZN rfl rfl rfl) (gm.nd 6 Z0H[q] aq)) (λ_ _ h=>h.1) rfl ?_;rintro _ wq ⟨-,hT,ky,rfl,hy,gm⟩;refine D ?_;exact FN i (e+1) (.mk 6 0 Z0H[q] [y0,y1]) gm bA bE hy (.logic _ _ _ _ (Xd cH) g0 g1) (by omega);refine Jd rfl trivial (Z4 rfl (Zd rfl rfl) (gm.kd ih.2.1 hl)) (λ_ _ h=>h.1) rfl ?_;rintro _ wq ⟨-,hS,y1,i1,p1,c1,rfl,s1,g1,bO,gm⟩;replace s0:=s0.ext hS (by simp) (λ_ h=>.inl h);replace e0:=e0.ext hS (by simp;exact n0);refine Z1x 0 10 (by kernel_rfl) ?_ ?_;refine Jd rfl trivial (Z1 (vs:=[(0,str [97,110,100]),(1,str [111,114])]) rfl (bS2 _ _)) (λ_ _ h=>(Z9.stp h).mono (by simp)) rfl ?_;rintro wv wq hN;have aT:SlV [b4,bm] wq wv Z0H:=hN.slv (λc hc=>gm.hX c (by simp at hc;rcases hc with rfl|rfl<;>simp)) rfl rfl (by decide);have hT:=Z9.stp hN;clear hN;replace gm:=gm.up hT;replace s0:=s0.up hT;replace e0:=e0.up hT;replace s1:=s1.up hT;clear hT;refine Z4K [(3,0),(4,1),(10,2),(11,2),(12,2)] (by kernel_rfl) (by kernel_rfl) (by kernel_rfl) ?_;refine D ?_;refine D ?_;refine Za rfl trivial (gm.b2 s0 s1 rfl) (λ_ _ h=>h.1) rfl ?_;rintro bv wq ⟨-,hT,aq,gm⟩;replace aT:=aT.up hT;refine D ?_;refine Za rfl trivial (Z4 rfl (ZN rfl rfl rfl) (gm.nd 6 Z0H[q] aq)) (λ_ _ h=>h.1) rfl ?_;rintro _ wq ⟨-,hT,ky,rfl,hy,gm⟩;refine D ?_;exact FN i (e+1) (.mk 6 0 Z0H[q] [y0,y1]) gm bA bE hy (.logic _ _ _ _ (Xd cH) g0 g1) (by omega);refine Jd rfl trivial (gm.b2 s0 s1 rfl) (λ_ _ h=>h.1) rfl ?_;rintro bv wq ⟨-,hT,aq,gm⟩;refine Z4K [(0,2),(3,0),(4,1),(11,2),(12,2)] (by kernel_rfl) (by kernel_rfl) (by kernel_rfl) ?_;refine Za rfl trivial (Z1 (vs:=[(0,str [97,110,100]),(1,str [111,114])]) rfl (bS2 _ _)) (λ_ _ h=>(Z9.stp h).mono (by simp)) rfl ?_;rintro wv wq hN;have aT:SlV [b4,bm] wq wv Z0H:=hN.slv (λc hc=>gm.hX c (by simp at hc;rcases hc with rfl|rfl<;>simp)) rfl rfl (by decide);have hT:=Z9.stp hN;clear hN;replace gm:=gm.up hT;replace aq:=aq.up hT;clear hT;refine D ?_;refine D ?_;refine D ?_;refine Za rfl trivial (Z4 rfl (ZN rfl rfl rfl) (gm.nd 6 Z0H[q] aq)) (λ_ _ h=>h.1) rfl ?_;rintro _ wq ⟨-,hT,ky,rfl,hy,gm⟩;refine D ?_;exact FN i (e+1) (.mk 6 0 Z0H[q] [y0,y1]) gm bA bE hy (.logic _ _ _ _ (Xd cH) g0 g1) (by omega);by_cases k3:q=3;refine QO ?_;refine W ?_;refine Z0 (Z4 rfl (Zd rfl rfl) (gm.kd ih.2.2 hl)) rfl ?_;rintro _ wq ⟨-,hS,y0,i0,p0,c0,rfl,s0,g0,fH,gm⟩;refine Z0 Z2 rfl ?_;rintro _ wq ⟨b0',rfl,bC,e0,hT⟩;refine Z6 (Zj (us:=ndC y0 _) rfl rfl rfl rfl (ZG s0) e0 rfl) ?_;rintro _ wq ⟨ar,e0⟩;replace hT:=JO hT bC ar;clear ar;have n0:b0'≠bm:=λh=>by have:=gm.mkr.lt;omega
   have n0':b0'≠b4:=λh=>by obtain ⟨_,_,hc⟩:=gm.blk;have:=hc.lt;omega
   replace gm:=gm.up hT;replace s0:=s0.up hT;clear hT bC;refine W ?_;refine ZDr 11 ([b4,bm]) [] [(0,0),(3,1),(4,0),(5,0),(6,0),(1,2),(2,2),(7,2),(8,2),(9,2),(10,2)] (λw1 ae=>?_);have hT:=ae;replace gm:=gm.up hT;replace s0:=s0.up hT;replace e0:=e0.up hT;clear hT ae;refine D ?_;refine Za rfl trivial (Z4 rfl (Zd rfl rfl) (gm.nx 6 hl)) (λ_ _ h=>h.1) rfl ?_;rintro _ wq ⟨-,hS,q',rfl,gK,gm⟩;replace s0:=s0.ext hS (by simp) (λ_ h=>.inl h);replace e0:=e0.ext hS (by simp;exact n0);refine D ?_;refine Za rfl trivial (Z4 rfl (ZR rfl) (Z5x q' _ (by omega))) (λ_ _ h=>h.2.mono (by simp)) rfl ?_;rintro _ wq ⟨⟨op,eM,rfl⟩,hT⟩;replace gm:=gm.up hT;replace s0:=s0.up hT;replace e0:=e0.up hT;clear hT;refine D ?_;refine Za rfl trivial (Z4 rfl (Zd rfl rfl) (gm.kd ih.2.2 hl)) (λ_ _ h=>h.1) rfl ?_;rintro _ wq ⟨-,hS,y1,i1,p1,c1,rfl,s1,g1,bO,gm⟩;replace s0:=s0.ext hS (by simp) (λ_ h=>.inl h);replace e0:=e0.ext hS (by simp;exact n0);refine D ?_;refine Za rfl trivial (gm.b2 s0 s1 rfl) (λ_ _ h=>h.1) rfl ?_;rintro bv wq ⟨-,hT,aq,gm⟩;refine D ?_;refine Za rfl trivial (Z4 rfl (ZN rfl rfl rfl) (gm.nd 6 op aq)) (λ_ _ h=>h.1) rfl ?_;rintro _ wq ⟨-,hT,ky,rfl,hy,gm⟩;refine D ?_;exact FN i (e+1) (.mk 6 0 op [y0,y1]) gm bA bE hy (.cmp _ 3 _ _ _ (by decide) eM g0 g1) (by omega);refine QO ?_;refine W ?_;refine Z0 (Z4 rfl (Zd rfl rfl) (gm.kd ih.1 hl)) rfl ?_;rintro _ wq ⟨-,hS,y0,i0,p0,c0,rfl,s0,g0,fH,gm⟩;refine Z0 Z2 rfl ?_;rintro _ wq ⟨b0',rfl,bC,e0,hT⟩;refine Z6 (Zj (us:=ndC y0 _) rfl rfl rfl rfl (ZG s0) e0 rfl) ?_;rintro _ wq ⟨ar,e0⟩;replace hT:=JO hT bC ar;clear ar;have n0:b0'≠bm:=λh=>by have:=gm.mkr.lt;omega
   have n0':b0'≠b4:=λh=>by obtain ⟨_,_,hc⟩:=gm.blk;have:=hc.lt;omega
   replace gm:=gm.up hT;replace s0:=s0.up hT;clear hT bC;refine W ?_;refine ZDr 11 ([b4,bm]) [] [(0,0),(3,1),(4,0),(5,0),(6,0),(1,2),(2,2),(7,2),(8,2),(9,2),(10,2)] (λw1 ae=>?_);have hT:=ae;replace gm:=gm.up hT;replace s0:=s0.up hT;replace e0:=e0.up hT;clear hT ae;refine D ?_;refine Za rfl trivial (Z4 rfl (Zd rfl rfl) (gm.nx 6 hl)) (λ_ _ h=>h.1) rfl ?_;rintro _ wq ⟨-,hS,q',rfl,gK,gm⟩;replace s0:=s0.ext hS (by simp) (λ_ h=>.inl h);replace e0:=e0.ext hS (by simp;exact n0);refine D ?_;refine Za rfl trivial (Z4 rfl (ZR rfl) (Z5x q' _ (by omega))) (λ_ _ h=>h.2.mono (by simp)) rfl ?_;rintro _ wq ⟨⟨op,eM,rfl⟩,hT⟩;replace gm:=gm.up hT;replace s0:=s0.up hT;replace e0:=e0.up hT;clear hT;refine D ?_;refine Za rfl trivial (Z4 rfl (Zd rfl rfl) (gm.kd ih.1 hl)) (λ_ _ h=>h.1) rfl ?_;rintro _ wq ⟨-,hS,y1,i1,p1,c1,rfl,s1,g1,bO,gm⟩;replace s0:=s0.ext hS (by simp) (λ_ h=>.inl h);replace e0:=e0.ext hS (by simp;exact n0);refine D ?_;refine Za rfl trivial (gm.b2 s0 s1 rfl) (λ_ _ h=>h.1) rfl ?_;rintro bv wq ⟨-,hT,aq,gm⟩;refine D ?_;refine Za rfl trivial (Z4 rfl (ZN rfl rfl rfl) (gm.nd 6 op aq)) (λ_ _ h=>h.1) rfl ?_;rintro _ wq ⟨-,hT,ky,rfl,hy,gm⟩;refine D ?_;exact FN i (e+1) (.mk 6 0 op [y0,y1]) gm bA bE hy (.cmp _ 1 _ _ _ (by decide) eM g0 g1) (by omega)
set_option maxHeartbeats 1000000
def Z7Z:List Str:=[[100,97,121,115],[100,97,121,115],[99,111,117,114,116,100,97,121,115],[119,101,101,107,115],[109,111,110,116,104,115]]
theorem ZdR:∀ s∈Z7Z,s∈J7:=by decide
theorem Z80 (d:Nat) (tf:d<=6) (ih:∀ e,d=e+1->Z2h 181 1 e/\Z2h 104 2 e/\Z2h 105 3 e):Z2h 105 3 d:=by
 intro X w bm lv l i z hz ay ax hl hi hX;subst hz;have bG:szD (d+1)=1+3 * szD d:=rfl;refine cW2 107 Tryz.func105 ?_;refine W ?_;refine Z0 Z2 rfl ?_;rintro _ w1 ⟨b4,rfl,bE,bB,bA⟩;have gm:G3 (b4 :: bm :: X) w1 w1 bm b4 lv l i:=⟨ay.up bA,ax.up bA,Stp.refl _ _,⟨_,rfl,bB⟩,λh=>by have:=ay.lt;omega,λc hc=>by
  simp only [Xb] at hc;have h1:=bB.lt;have h2:=ay.lt;have h3:=bA.size;rcases hc with rfl|rfl|hc
  exact h1;omega;have:=hX c hc;omega⟩
 clear bB hX ax ay;refine W ?_;refine Z0 (Z4 rfl (Zd rfl rfl) (gm.nx 10 hl)) rfl ?_;rintro _ wq ⟨-,hS,q,rfl,hq,gm⟩;refine W ?_;refine Z0 (Z4 rfl (Zd rfl rfl) (Z6m bm lv l _ d _ _ rfl gm.mkr gm.sl)) rfl ?_;rintro _ wq ⟨dn,rfl,aw,hT⟩;replace gm:=gm.up hT;clear hT;refine W ?_;refine Ju (σ:=Nat) (λk=>[(0,pQ bm),(1,.I (d:Int)),(4,pQ b4),(5,.I (k:Int))]) (λk w'=>w'=wq/\k<10/\(d=0->k<4)) ?_ ?_
 . cases dn with
   | true=>
     refine QO ?_;exact Zy (q % 4) ⟨rfl,rfl,rfl,rfl,trivial⟩ ⟨rfl,by omega,λ_=>by omega⟩
   | false=>
     refine QO ?_;exact Zy q ⟨rfl,rfl,rfl,rfl,trivial⟩ ⟨rfl,by omega,λh=>absurd (aw h) (by decide)⟩
 rintro k w3 ⟨rfl,jn,bH⟩;clear hq aw;by_cases k0:k<=1
 . (refine QP ?_ ?_<;>intro hc)
   all_goals
    refine Z0 (Z4 rfl (ZN rfl rfl rfl) (gm.nd 4 [100,97,121] (Zn _ _))) rfl ?_;rintro _ wq ⟨-,hT,ky,rfl,hy,gm⟩;exact FN i d (.mk 4 0 [100,97,121] []) gm bA bE hy (.fldD _ _ (by decide)) (by omega)
 by_cases k2:k=2;refine QO ?_;refine Z0 (Z1 (vs:=[(0,str [100,97,121]),(1,str [115,101,114,118,101,100])]) rfl (bS2 _ _)) rfl ?_;rintro wv wq hN;have aT:SlV [bm] wq wv ZbR:=hN.slv (λc hc=>gm.hX c (by simp at hc;subst hc;simp)) rfl rfl (by decide);have hT:=Z9.stp hN;clear hN;replace gm:=gm.up hT;clear hT;refine W ?_;refine Z0 (Z4 rfl (Zd rfl rfl) (gm.nx 2 hl)) rfl ?_;rintro _ wq ⟨-,hS,q',rfl,gK,gm⟩;replace aT:=aT.ext hS (by simp) (λ_ h=>.inl h);have cH:q'<ZbR.length:=by show q'<2;omega
 refine W ?_;refine Z0 (Z4 rfl (ZN rfl rfl rfl) (gm.nd 4 ZbR[q'] (Zn _ _))) rfl ?_;rintro _ wq ⟨-,hT,ky,rfl,hy,gm⟩;exact FN i d (.mk 4 0 ZbR[q'] []) gm bA bE hy (.fldD _ _ (Xd cH)) (by omega);by_cases k3:k=3;refine QO ?_;refine Z0 (Z4 rfl (Zd rfl rfl) (gm.nx 60 hl)) rfl ?_;rintro _ wq ⟨-,hS,q',rfl,gK,gm⟩;refine W ?_;apply Z7 (vs:=[(0,.I 3),(1,.I _)]) rfl (Z3O _ _) rfl;have hy:SlV (α:=Nd) (b4 :: bm :: X) _ (.N) []:=Zn _ wq;exact FN i d (.mk 3 (739616+(q':Int)) [] []) gm bA bE hy (.day _ _ (by omega)) (by omega);by_cases k4:k=4;obtain ⟨e,rfl⟩:∃ e,d=e+1:=⟨d - 1,by omega⟩
 replace ih:=ih e rfl;have bt:=Z1j e;refine QO ?_;refine Z4n 12 [b4,bm] [] rfl mixed (λw1 ae=>?_);have hT:=ae;replace gm:=gm.up hT;clear hT ae;refine JY 1 rfl trivial (λw'=>ZZ rfl) rfl (by kernel_rfl) (by kernel_rfl) ?_;refine JY 5 rfl trivial (λw'=>ZZ rfl) rfl (by kernel_rfl) (by kernel_rfl) ?_;refine JY 6 rfl trivial (λw'=>ZZ rfl) rfl (by kernel_rfl) (by kernel_rfl) ?_;refine JY 7 rfl trivial (λw'=>Z6g rfl rfl (by unfold I64;omega)) rfl (by kernel_rfl) (by kernel_rfl) ?_;refine Z1x 0 2 (by kernel_rfl) ?_ ?_;refine Jd rfl trivial (Z1 (vs:=[(0,str [110,101,120,116]),(1,str [112,114,101,118])]) rfl (bS2 _ _)) (λ_ _ h=>(Z9.stp h).mn) rfl ?_;rintro wv wq hN;have aT:SlV [b4,bm] wq wv Z2z:=hN.slv (λc hc=>gm.hX c (by simp at hc;rcases hc with rfl|rfl<;>simp)) rfl rfl (by decide);have hT:=Z9.stp hN;clear hN;replace gm:=gm.up hT;clear hT;refine Z4K [(2,2),(3,0),(4,1),(8,2),(9,2),(10,2),(11,2)] (by kernel_rfl) (by kernel_rfl) (by kernel_rfl) ?_;refine Za rfl trivial (Z4 rfl (Zd rfl rfl) (gm.nx 2 hl)) (λ_ _ h=>h.1) rfl ?_;rintro _ wq ⟨-,hS,q,rfl,hq,gm⟩;replace aT:=aT.ext hS (by simp) (λ_ h=>.inl h);have cH:q<Z2z.length:=by show q<2;omega
 refine D ?_;refine Za rfl trivial (Z4 rfl (Zd rfl rfl) (gm.kd ih.2.2 hl)) (λ_ _ h=>h.1) rfl ?_;rintro _ wq ⟨-,hS,y0,i0,p0,c0,rfl,s0,g0,fH,gm⟩;replace aT:=aT.ext hS (by simp) (λ_ h=>.inl h);refine D ?_;refine Za rfl trivial (gm.b1 s0 rfl) (λ_ _ h=>h.1) rfl ?_;rintro bv wq ⟨-,hT,aq,gm⟩;replace aT:=aT.up hT;refine D ?_;refine Za rfl trivial (Z4 rfl (ZN rfl rfl rfl) (gm.nd 10 Z2z[q] aq)) (λ_ _ h=>h.1) rfl ?_;rintro _ wq ⟨-,hT,ky,rfl,hy,gm⟩;refine D ?_;exact FN i (e+1) (.mk 10 0 Z2z[q] [y0]) gm bA bE hy (.adj _ _ _ (Xd cH) g0) (by omega);refine Jd rfl trivial (Z4 rfl (Zd rfl rfl) (gm.nx 2 hl)) (λ_ _ h=>h.1) rfl ?_;rintro _ wq ⟨-,hS,q,rfl,hq,gm⟩;have cH:q<Z2z.length:=by show q<2;omega
 refine Z1x 0 8 (by kernel_rfl) ?_ ?_;refine Jd rfl trivial (Z1 (vs:=[(0,str [110,101,120,116]),(1,str [112,114,101,118])]) rfl (bS2 _ _)) (λ_ _ h=>(Z9.stp h).mn) rfl ?_;rintro wv wq hN;have aT:SlV [b4,bm] wq wv Z2z:=hN.slv (λc hc=>gm.hX c (by simp at hc;rcases hc with rfl|rfl<;>simp)) rfl rfl (by decide);have hT:=Z9.stp hN;clear hN;replace gm:=gm.up hT;clear hT;refine Z4K [(3,0),(4,1),(8,2),(9,2),(10,2),(11,2)] (by kernel_rfl) (by kernel_rfl) (by kernel_rfl) ?_;refine D ?_;refine Za rfl trivial (Z4 rfl (Zd rfl rfl) (gm.kd ih.2.2 hl)) (λ_ _ h=>h.1) rfl ?_;rintro _ wq ⟨-,hS,y0,i0,p0,c0,rfl,s0,g0,fH,gm⟩;replace aT:=aT.ext hS (by simp) (λ_ h=>.inl h);refine D ?_;refine Za rfl trivial (gm.b1 s0 rfl) (λ_ _ h=>h.1) rfl ?_;rintro bv wq ⟨-,hT,aq,gm⟩;replace aT:=aT.up hT;refine D ?_;refine Za rfl trivial (Z4 rfl (ZN rfl rfl rfl) (gm.nd 10 Z2z[q] aq)) (λ_ _ h=>h.1) rfl ?_;rintro _ wq ⟨-,hT,ky,rfl,hy,gm⟩;refine D ?_;exact FN i (e+1) (.mk 10 0 Z2z[q] [y0]) gm bA bE hy (.adj _ _ _ (Xd cH) g0) (by omega);refine Jd rfl trivial (Z4 rfl (Zd rfl rfl) (gm.kd ih.2.2 hl)) (λ_ _ h=>h.1) rfl ?_;rintro _ wq ⟨-,hS,y0,i0,p0,c0,rfl,s0,g0,fH,gm⟩;refine Z1x 0 9 (by kernel_rfl) ?_ ?_;refine Jd rfl trivial (Z1 (vs:=[(0,str [110,101,120,116]),(1,str [112,114,101,118])]) rfl (bS2 _ _)) (λ_ _ h=>(Z9.stp h).mn) rfl ?_;rintro wv wq hN;have aT:SlV [b4,bm] wq wv Z2z:=hN.slv (λc hc=>gm.hX c (by simp at hc;rcases hc with rfl|rfl<;>simp)) rfl rfl (by decide);have hT:=Z9.stp hN;clear hN;replace gm:=gm.up hT;replace s0:=s0.up hT;clear hT;refine Z4K [(3,0),(4,1),(9,2),(10,2),(11,2)] (by kernel_rfl) (by kernel_rfl) (by kernel_rfl) ?_;refine D ?_;refine D ?_;refine Za rfl trivial (gm.b1 s0 rfl) (λ_ _ h=>h.1) rfl ?_;rintro bv wq ⟨-,hT,aq,gm⟩;replace aT:=aT.up hT;refine D ?_;refine Za rfl trivial (Z4 rfl (ZN rfl rfl rfl) (gm.nd 10 Z2z[q] aq)) (λ_ _ h=>h.1) rfl ?_;rintro _ wq ⟨-,hT,ky,rfl,hy,gm⟩;refine D ?_;exact FN i (e+1) (.mk 10 0 Z2z[q] [y0]) gm bA bE hy (.adj _ _ _ (Xd cH) g0) (by omega);refine Jd rfl trivial (gm.b1 s0 rfl) (λ_ _ h=>h.1) rfl ?_;rintro bv wq ⟨-,hT,aq,gm⟩;refine Z4K [(0,2),(3,0),(4,1),(10,2),(11,2)] (by kernel_rfl) (by kernel_rfl) (by kernel_rfl) ?_;refine Za rfl trivial (Z1 (vs:=[(0,str [110,101,120,116]),(1,str [112,114,101,118])]) rfl (bS2 _ _)) (λ_ _ h=>(Z9.stp h).mn) rfl ?_;rintro wv wq hN;have aT:SlV [b4,bm] wq wv Z2z:=hN.slv (λc hc=>gm.hX c (by simp at hc;rcases hc with rfl|rfl<;>simp)) rfl rfl (by decide);have hT:=Z9.stp hN;clear hN;replace gm:=gm.up hT;replace aq:=aq.up hT;clear hT;refine D ?_;refine D ?_;refine D ?_;refine Za rfl trivial (Z4 rfl (ZN rfl rfl rfl) (gm.nd 10 Z2z[q] aq)) (λ_ _ h=>h.1) rfl ?_;rintro _ wq ⟨-,hT,ky,rfl,hy,gm⟩;refine D ?_;exact FN i (e+1) (.mk 10 0 Z2z[q] [y0]) gm bA bE hy (.adj _ _ _ (Xd cH) g0) (by omega);by_cases k5:k=5;obtain ⟨e,rfl⟩:∃ e,d=e+1:=⟨d - 1,by omega⟩
 replace ih:=ih e rfl;have bt:=Z1j e;refine QO ?_;refine W ?_;refine Z0 (Z4 rfl (Zd rfl rfl) (gm.kd ih.2.2 hl)) rfl ?_;rintro _ wq ⟨-,hS,y0,i0,p0,c0,rfl,s0,g0,fH,gm⟩;refine Z0 Z2 rfl ?_;rintro _ wq ⟨b0',rfl,bC,e0,hT⟩;refine SB (us:=ndC y0 _) (ZG s0) e0 ?_;rintro _ wq ⟨ar,e0⟩;replace hT:=JO hT bC ar;clear ar;have n0:b0'≠bm:=λh=>by have:=gm.mkr.lt;omega
 have n0':b0'≠b4:=λh=>by obtain ⟨_,_,hc⟩:=gm.blk;have:=hc.lt;omega
 replace gm:=gm.up hT;replace s0:=s0.up hT;clear hT bC;refine W ?_;refine Z4n 13 [b4,bm] [] rfl mixed (λw1 ae=>?_);have hT:=ae;replace gm:=gm.up hT;replace s0:=s0.up hT;replace e0:=e0.up hT;clear hT ae;refine JY 1 rfl trivial (λw'=>ZZ rfl) rfl (by kernel_rfl) (by kernel_rfl) ?_;refine ZaB 5 rfl trivial (λw' aN=>ZC rfl rfl (e0.ext aN (by simp;exact ⟨n0',n0⟩)) rfl) rfl (by kernel_rfl) (by kernel_rfl) ?_;refine JY 6 rfl trivial (λw'=>ZZ rfl) rfl (by kernel_rfl) (by kernel_rfl) ?_;refine JY 7 rfl trivial (λw'=>ZZ rfl) rfl (by kernel_rfl) (by kernel_rfl) ?_;refine JY 8 rfl trivial (λw'=>Z6g rfl rfl (by unfold I64;omega)) rfl (by kernel_rfl) (by kernel_rfl) ?_;refine Z1x 0 2 (by kernel_rfl) ?_ ?_;refine Jd rfl trivial (Z1 (vs:=[(0,str [108,97,116,101,114]),(1,str [101,97,114,108,105,101,114])]) rfl (bS2 _ _)) (λ_ _ h=>(Z9.stp h).mn) rfl ?_;rintro wv wq hN;have aT:SlV [b4,bm] wq wv Z2A:=hN.slv (λc hc=>gm.hX c (by simp at hc;rcases hc with rfl|rfl<;>simp)) rfl rfl (by decide);have hT:=Z9.stp hN;clear hN;replace gm:=gm.up hT;replace s0:=s0.up hT;replace e0:=e0.up hT;clear hT;refine Z4K [(2,2),(3,0),(4,1),(9,2),(10,2),(11,2),(12,2)] (by kernel_rfl) (by kernel_rfl) (by kernel_rfl) ?_;refine Za rfl trivial (Z4 rfl (Zd rfl rfl) (gm.nx 2 hl)) (λ_ _ h=>h.1) rfl ?_;rintro _ wq ⟨-,hS,q,rfl,hq,gm⟩;replace s0:=s0.ext hS (by simp) (λ_ h=>.inl h);replace e0:=e0.ext hS (by simp;exact n0);replace aT:=aT.ext hS (by simp) (λ_ h=>.inl h);have cH:q<Z2A.length:=by show q<2;omega
 refine D ?_;refine Za rfl trivial (Z4 rfl (Zd rfl rfl) (gm.kd ih.2.2 hl)) (λ_ _ h=>h.1) rfl ?_;rintro _ wq ⟨-,hS,y1,i1,p1,c1,rfl,s1,g1,bO,gm⟩;replace s0:=s0.ext hS (by simp) (λ_ h=>.inl h);replace e0:=e0.ext hS (by simp;exact n0);replace aT:=aT.ext hS (by simp) (λ_ h=>.inl h);refine D ?_;refine Za rfl trivial (gm.b2 s0 s1 rfl) (λ_ _ h=>h.1) rfl ?_;rintro bv wq ⟨-,hT,aq,gm⟩;replace aT:=aT.up hT;refine D ?_;refine Za rfl trivial (Z4 rfl (ZN rfl rfl rfl) (gm.nd 10 Z2A[q] aq)) (λ_ _ h=>h.1) rfl ?_;rintro _ wq ⟨-,hT,ky,rfl,hy,gm⟩;refine D ?_;exact FN i (e+1) (.mk 10 0 Z2A[q] [y0,y1]) gm bA bE hy (.two _ _ _ _ (Xd cH) g0 g1) (by omega);refine Jd rfl trivial (Z4 rfl (Zd rfl rfl) (gm.nx 2 hl)) (λ_ _ h=>h.1) rfl ?_;rintro _ wq ⟨-,hS,q,rfl,hq,gm⟩;replace s0:=s0.ext hS (by simp) (λ_ h=>.inl h);replace e0:=e0.ext hS (by simp;exact n0);have cH:q<Z2A.length:=by show q<2;omega
 refine Z1x 0 9 (by kernel_rfl) ?_ ?_;refine Jd rfl trivial (Z1 (vs:=[(0,str [108,97,116,101,114]),(1,str [101,97,114,108,105,101,114])]) rfl (bS2 _ _)) (λ_ _ h=>(Z9.stp h).mn) rfl ?_;rintro wv wq hN;have aT:SlV [b4,bm] wq wv Z2A:=hN.slv (λc hc=>gm.hX c (by simp at hc;rcases hc with rfl|rfl<;>simp)) rfl rfl (by decide);have hT:=Z9.stp hN;clear hN;replace gm:=gm.up hT;replace s0:=s0.up hT;replace e0:=e0.up hT;clear hT;refine Z4K [(3,0),(4,1),(9,2),(10,2),(11,2),(12,2)] (by kernel_rfl) (by kernel_rfl) (by kernel_rfl) ?_;refine D ?_;refine Za rfl trivial (Z4 rfl (Zd rfl rfl) (gm.kd ih.2.2 hl)) (λ_ _ h=>h.1) rfl ?_;rintro _ wq ⟨-,hS,y1,i1,p1,c1,rfl,s1,g1,bO,gm⟩;replace s0:=s0.ext hS (by simp) (λ_ h=>.inl h);replace e0:=e0.ext hS (by simp;exact n0);replace aT:=aT.ext hS (by simp) (λ_ h=>.inl h);refine D ?_;refine Za rfl trivial (gm.b2 s0 s1 rfl) (λ_ _ h=>h.1) rfl ?_;rintro bv wq ⟨-,hT,aq,gm⟩;replace aT:=aT.up hT;refine D ?_;refine Za rfl trivial (Z4 rfl (ZN rfl rfl rfl) (gm.nd 10 Z2A[q] aq)) (λ_ _ h=>h.1) rfl ?_;rintro _ wq ⟨-,hT,ky,rfl,hy,gm⟩;refine D ?_;exact FN i (e+1) (.mk 10 0 Z2A[q] [y0,y1]) gm bA bE hy (.two _ _ _ _ (Xd cH) g0 g1) (by omega);refine Jd rfl trivial (Z4 rfl (Zd rfl rfl) (gm.kd ih.2.2 hl)) (λ_ _ h=>h.1) rfl ?_;rintro _ wq ⟨-,hS,y1,i1,p1,c1,rfl,s1,g1,bO,gm⟩;replace s0:=s0.ext hS (by simp) (λ_ h=>.inl h);replace e0:=e0.ext hS (by simp;exact n0);refine Z1x 0 10 (by kernel_rfl) ?_ ?_;refine Jd rfl trivial (Z1 (vs:=[(0,str [108,97,116,101,114]),(1,str [101,97,114,108,105,101,114])]) rfl (bS2 _ _)) (λ_ _ h=>(Z9.stp h).mn) rfl ?_;rintro wv wq hN;have aT:SlV [b4,bm] wq wv Z2A:=hN.slv (λc hc=>gm.hX c (by simp at hc;rcases hc with rfl|rfl<;>simp)) rfl rfl (by decide);have hT:=Z9.stp hN;clear hN;replace gm:=gm.up hT;replace s0:=s0.up hT;replace e0:=e0.up hT;replace s1:=s1.up hT;clear hT;refine Z4K [(3,0),(4,1),(10,2),(11,2),(12,2)] (by kernel_rfl) (by kernel_rfl) (by kernel_rfl) ?_;refine D ?_;refine D ?_;refine Za rfl trivial (gm.b2 s0 s1 rfl) (λ_ _ h=>h.1) rfl ?_;rintro bv wq ⟨-,hT,aq,gm⟩;replace aT:=aT.up hT;refine D ?_;refine Za rfl trivial (Z4 rfl (ZN rfl rfl rfl) (gm.nd 10 Z2A[q] aq)) (λ_ _ h=>h.1) rfl ?_;rintro _ wq ⟨-,hT,ky,rfl,hy,gm⟩;refine D ?_;exact FN i (e+1) (.mk 10 0 Z2A[q] [y0,y1]) gm bA bE hy (.two _ _ _ _ (Xd cH) g0 g1) (by omega);refine Jd rfl trivial (gm.b2 s0 s1 rfl) (λ_ _ h=>h.1) rfl ?_;rintro bv wq ⟨-,hT,aq,gm⟩;refine Z4K [(0,2),(3,0),(4,1),(11,2),(12,2)] (by kernel_rfl) (by kernel_rfl) (by kernel_rfl) ?_;refine Za rfl trivial (Z1 (vs:=[(0,str [108,97,116,101,114]),(1,str [101,97,114,108,105,101,114])]) rfl (bS2 _ _)) (λ_ _ h=>(Z9.stp h).mn) rfl ?_;rintro wv wq hN;have aT:SlV [b4,bm] wq wv Z2A:=hN.slv (λc hc=>gm.hX c (by simp at hc;rcases hc with rfl|rfl<;>simp)) rfl rfl (by decide);have hT:=Z9.stp hN;clear hN;replace gm:=gm.up hT;replace aq:=aq.up hT;clear hT;refine D ?_;refine D ?_;refine D ?_;refine Za rfl trivial (Z4 rfl (ZN rfl rfl rfl) (gm.nd 10 Z2A[q] aq)) (λ_ _ h=>h.1) rfl ?_;rintro _ wq ⟨-,hT,ky,rfl,hy,gm⟩;refine D ?_;exact FN i (e+1) (.mk 10 0 Z2A[q] [y0,y1]) gm bA bE hy (.two _ _ _ _ (Xd cH) g0 g1) (by omega);by_cases k6:k=6;obtain ⟨e,rfl⟩:∃ e,d=e+1:=⟨d - 1,by omega⟩
 replace ih:=ih e rfl;have bt:=Z1j e;refine QO ?_;refine W ?_;refine Z0 (Z4 rfl (Zd rfl rfl) (gm.kd ih.2.1 hl)) rfl ?_;rintro _ wq ⟨-,hS,y0,i0,p0,c0,rfl,s0,g0,fH,gm⟩;refine Z0 Z2 rfl ?_;rintro _ wq ⟨b0',rfl,bC,e0,hT⟩;refine SB (us:=ndC y0 _) (ZG s0) e0 ?_;rintro _ wq ⟨ar,e0⟩;replace hT:=JO hT bC ar;clear ar;have n0:b0'≠bm:=λh=>by have:=gm.mkr.lt;omega
 have n0':b0'≠b4:=λh=>by obtain ⟨_,_,hc⟩:=gm.blk;have:=hc.lt;omega
 replace gm:=gm.up hT;replace s0:=s0.up hT;clear hT bC;refine W ?_;refine Z0 (Z4 rfl (Zd rfl rfl) (gm.kd ih.2.2 hl)) rfl ?_;rintro _ wq ⟨-,hS,y1,i1,p1,c1,rfl,s1,g1,bO,gm⟩;replace s0:=s0.ext hS (by simp) (λ_ h=>.inl h);replace e0:=e0.ext hS (by simp;exact n0);refine Z0 Z2 rfl ?_;rintro _ wq ⟨b1',rfl,iB,e1,hT⟩;refine SB (us:=ndC y1 _) (ZG s1) e1 ?_;rintro _ wq ⟨ar,e1⟩;replace hT:=JO hT iB ar;clear ar;have n1:b1'≠bm:=λh=>by have:=gm.mkr.lt;omega
 have n1':b1'≠b4:=λh=>by obtain ⟨_,_,hc⟩:=gm.blk;have:=hc.lt;omega
 replace gm:=gm.up hT;replace s0:=s0.up hT;replace e0:=e0.up hT;replace s1:=s1.up hT;clear hT iB;refine W ?_;refine ZDr 9 ([b4,bm]) [] [(0,1),(1,1),(2,0),(3,0),(4,0),(5,2),(6,2),(7,2),(8,2)] (λw1 ae=>?_);have hT:=ae;replace gm:=gm.up hT;replace s0:=s0.up hT;replace e0:=e0.up hT;replace s1:=s1.up hT;replace e1:=e1.up hT;clear hT ae;refine WD_read rfl trivial (λw' aN=>ZC rfl rfl (e0.ext aN (by simp;exact ⟨n0',n0⟩)) rfl) rfl ?_;refine WD_read rfl trivial (λw' aN=>ZC rfl rfl (e1.ext aN (by simp;exact ⟨n1',n1⟩)) rfl) rfl ?_;refine D ?_;refine Za rfl trivial (Z4 rfl (Zd rfl rfl) (gm.kd ih.2.2 hl)) (λ_ _ h=>h.1) rfl ?_;rintro _ wq ⟨-,hS,y2,i2,p2,c2,rfl,s2,g2,cn,gm⟩;replace s0:=s0.ext hS (by simp) (λ_ h=>.inl h);replace e0:=e0.ext hS (by simp;exact n0);replace s1:=s1.ext hS (by simp) (λ_ h=>.inl h);replace e1:=e1.ext hS (by simp;exact n1);refine D ?_;refine Za rfl trivial (gm.b3 s0 s1 s2 rfl) (λ_ _ h=>h.1) rfl ?_;rintro bv wq ⟨-,hT,aq,gm⟩;refine D ?_;refine Za rfl trivial (Z4 rfl (ZN rfl rfl rfl) (gm.nd 9 [] aq)) (λ_ _ h=>h.1) rfl ?_;rintro _ wq ⟨-,hT,ky,rfl,hy,gm⟩;refine D ?_;exact FN i (e+1) (.mk 9 0 [] [y0,y1,y2]) gm bA bE hy (.cond _ _ _ _ _ (by decide) g0 g1 g2) (by omega);obtain ⟨e,rfl⟩:∃ e,d=e+1:=⟨d - 1,by omega⟩
 replace ih:=ih e rfl;have bt:=Z1j e;refine QO ?_;refine W ?_;refine Z0 (Z4 rfl (Zd rfl rfl) (gm.kd ih.2.2 hl)) rfl ?_;rintro _ wq ⟨-,hS,y0,i0,p0,c0,rfl,s0,g0,fH,gm⟩;refine Z0 Z2 rfl ?_;rintro _ wq ⟨b0',rfl,bC,e0,hT⟩;refine SB (us:=ndC y0 _) (ZG s0) e0 ?_;rintro _ wq ⟨ar,e0⟩;replace hT:=JO hT bC ar;clear ar;have n0:b0'≠bm:=λh=>by have:=gm.mkr.lt;omega
 have n0':b0'≠b4:=λh=>by obtain ⟨_,_,hc⟩:=gm.blk;have:=hc.lt;omega
 replace gm:=gm.up hT;replace s0:=s0.up hT;clear hT bC;refine W ?_;refine Z0 (Z1 (vs:=[(0,str [100,97,121,115]),(1,str [100,97,121,115]),(2,str [99,111,117,114,116,100,97,121,115]),(3,str [119,101,101,107,115]),(4,str [109,111,110,116,104,115])]) rfl (bS5 _ _ _ _ _)) rfl ?_;rintro wv wq hN;have aT:SlV [b4,bm] wq wv Z7Z:=hN.slv (λc hc=>gm.hX c (by simp at hc;rcases hc with rfl|rfl<;>simp)) rfl rfl (by decide);have hT:=Z9.stp hN;clear hN;replace gm:=gm.up hT;replace s0:=s0.up hT;replace e0:=e0.up hT;clear hT;refine W ?_;refine Z0 (Z4 rfl (Zd rfl rfl) (gm.nx 5 hl)) rfl ?_;rintro _ wq ⟨-,hS,q',rfl,gK,gm⟩;replace s0:=s0.ext hS (by simp) (λ_ h=>.inl h);replace e0:=e0.ext hS (by simp;exact n0);replace aT:=aT.ext hS (by simp) (λ_ h=>.inl h);have cH:q'<Z7Z.length:=by show q'<5;omega
 have hu:=ZdR _ (Xd cH);refine W ?_;clear aT;refine ZDr 13 ([b4,bm]) [] [(0,0),(4,0),(5,1),(6,0),(7,0),(8,0),(1,2),(2,0),(3,0),(9,2),(10,2),(11,2),(12,2)] (λw1 ae=>?_);have hT:=ae;replace gm:=gm.up hT;replace s0:=s0.up hT;replace e0:=e0.up hT;clear hT ae;refine D ?_;refine Za rfl trivial (Z4 rfl (Zd rfl rfl) (gm.nx 4 hl)) (λ_ _ h=>h.1) rfl ?_;rintro _ wq ⟨-,hS,q4,rfl,mc,gm⟩;replace s0:=s0.ext hS (by simp) (λ_ h=>.inl h);replace e0:=e0.ext hS (by simp;exact n0);refine D ?_;refine Za rfl trivial (Z4 rfl (Zd rfl rfl) (gm.kd ih.1 hl)) (λ_ _ h=>h.1) rfl ?_;rintro _ wq ⟨-,hS,y1,i1,p1,c1,rfl,s1,g1,bO,gm⟩;replace s0:=s0.ext hS (by simp) (λ_ h=>.inl h);replace e0:=e0.ext hS (by simp;exact n0);refine D ?_;refine Za rfl trivial (gm.b2 s0 s1 rfl) (λ_ _ h=>h.1) rfl ?_;rintro bv wq ⟨-,hT,aq,gm⟩;refine D ?_;refine Za rfl trivial (Z4 rfl (ZN rfl rfl rfl) (gm.nd (7+(q4:Int) / 3) Z7Z[q'] aq)) (λ_ _ h=>h.1) rfl ?_;rintro _ wq ⟨-,hT,ky,rfl,hy,gm⟩;refine D ?_;exact FN i (e+1) (.mk (7+(q4:Int) / 3) 0 Z7Z[q'] [y0,y1]) gm bA bE hy (.move _ _ _ _ _ (by omega) hu g0 g1) (by omega)
end Go.Proofs.YtipfkbkkndacjaaGreatDoor
namespace Go.Eng
open Go Go.RowKit Go.Proofs
def PQ (n:Nat) (Q:Exit->Act->World->Prop):Exit->Act->World->Prop
 | .panic ch,a,w=>Has n [] a/\∀ a',Has n [] a'->Q (.panic ch) a' w
 | _,_,_=>False
theorem Has.put_back {n:Nat} {a:Act} {d:Option Nat} {v:Value} (h:Has n [] (a.put d v)):Has n [] a:=by
 cases d with
 | none=>exact h
 | some d=>exact ⟨h.defers,by simpa [Act.put] using h.size,λt v hv=>by simp [look] at hv⟩
theorem ZdS {n:Nat} {Q:Exit->Act->World->Prop} (a:Act) (w):¬ PQ n Q .outgrown a w:=λh=>h
theorem Zjf {n:Nat} {Q:Exit->Act->World->Prop} (ch:List PanicEntry) (a:Act) (d:Option Nat) (v:Value) (w) (h:PQ n Q (.panic ch) (a.put d v) w):PQ n Q (.panic ch) a w:=⟨h.1.put_back,h.2⟩
theorem Zt2 {n:Nat} {Q:Exit->Act->World->Prop} (ex:Exit) (a:Act) (w) (h:PQ n Q ex a w):Q ex a w:=by
 cases ex<;>first|exact h.2 a h.1|exact h.elim
theorem Zt3 {P:Program} {o:Oper} {a:Act} {w} {K:Act->World->Prop} {X Q:Exit->Act->World->Prop} (gz:∀ a w,¬ X .outgrown a w) (hX:∀ ex a w,X ex a w->Q ex a w) (h:o.wp P a w K X):o.wp P a w K Q:=by
 unfold Oper.wp at *;generalize (execOp a.eval o).run P w=r at *;cases r with
 | ok n w'=>
   cases n<;>simp only [Oper.upon] at h ⊢
   case enter f args=>
    refine Calls.mono h (λe w'' he=>?_);cases e with
    | returned v=>exact he
    | panicked c=>exact hX _ _ _ he
    | outgrown=>obtain ⟨_,_,hf⟩:=he;exact (gz _ _ hf).elim
   all_goals exact h
 | halt x w'=>cases x<;>simp only [Oper.upon] at h ⊢;exact hX _ _ _ h
theorem Zjg {P:Program} {ops:Array Oper} {i:Nat} {K:Act->World->Prop} {X Q:Exit->Act->World->Prop} (gz:∀ a w,¬ X .outgrown a w) (hX:∀ ex a w,X ex a w->Q ex a w) {a:Act} {w} (h:wpOp P ops X i K a w):wpOp P ops Q i K a w:=by
 unfold wpOp at *;cases ho:ops[i]? with
 | none=>simp only [ho] at h ⊢;exact h
 | some o=>
   simp only [ho] at h ⊢;split;rename_i hw;simp only [hw,if_true] at h;rcases h with h|⟨_,_,_,hf⟩
   exact .inl (Zt3 gz hX h);exact (gz _ _ hf).elim;rename_i hw;simp only [hw] at h;exact h
def Z1k (P:Program) (X:Exit->Act->World->Prop) (md:Region.Mode) (ops:Array Oper) (S:List Nat) (Lt:Nat->Bool) (Z:Act->World->Prop):Nat->Array Bool->Act->World->Prop
 | 0,listed,a,w=>Region.ready md ops listed=[]/\Z a w
 | fuel + 1, listed, a, w=>
   (Region.ready md ops listed=[]->Z a w)/\
   ∀ i∈Region.ready md ops listed,wpOp P ops X i (λa' w'=>(Stp S w w'\/Lt i=true)/\Z1k P X md ops S Lt Z fuel (listed.setIfInBounds i true) a' w') a w
theorem Z70 {P:Program} {ops:Array Oper} {md:Region.Mode} {S:List Nat} {Lt:Nat->Bool} {X Q:Exit->Act->World->Prop} (gz:∀ a w,¬ X .outgrown a w) (hX:∀ ex a w,X ex a w->Q ex a w) {Z:Act->World->Prop} (hZ:∀ a w,Z a w->Q .normal a w):∀ (fuel:Nat) (listed:Array Bool) (a:Act) (w),
 Z1k P X md ops S Lt Z fuel listed a w->wpAny P md ops Q fuel listed a w
 | 0,_,_,_,h=>⟨h.1,hZ _ _ h.2⟩
 | fuel+1,_,_,_,h=>⟨λh0=>hZ _ _ (h.1 h0),λi hi=>wpOp_mono (λa' w' hk=>Z70 gz hX hZ fuel _ a' w' hk.2) (Zjg gz hX (h.2 i hi))⟩
section any
variable {P:Program} {ops:Array Oper} {md:Region.Mode} {S:List Nat} {Lt:Nat->Bool}
theorem ZbS {X:Exit->Act->World->Prop} (gz:∀ a w,¬ X .outgrown a w) (oL:∀ ch a d v w,X (.panic ch) (Act.put a d v) w->X (.panic ch) a w) {Z:Act->World->Prop} {R:World->World->Prop} (jY:∀ w,R w w) (mC:∀ a b c,R a b->R b c->R a c) {i:Nat} {oi:Oper} {v:Value} (hi:ops[i]?=some oi)
 (mD:∀ j oj,ops[j]?=some oj->(∀ e∈oj.after,Region.binds md e=true->e.on≠i)->j≠i->∀ w w',(Stp S w w'\/Lt j=true)->R w w')
 (fe:∀ (j:Nat) (o:Oper) cs b,ops[j]?=some o->o.op≠.select cs b) :
 ∀ (fuel : Nat) (listed : Array Bool) (a : Act) (w),
   (∀ j oj,ops[j]?=some oj->j≠i->listed.getD j true=false->(∀ e∈oj.after,Region.binds md e=true->e.on≠i)->oi.apart ops oj=true)->
   (Stp S w w\/Lt i=true->True)->i∈Region.ready md ops listed->YE P ops R oi v a w->
   Z1k P X md ops S Lt Z fuel (listed.setIfInBounds i true) (a.put oi.dst v) w->Z1k P X md ops S Lt Z (fuel+1) listed a w:=by
 have now:∀ (fuel:Nat) (listed:Array Bool) (a:Act) (w:World),YE P ops R oi v a w->Z1k P X md ops S Lt Z fuel (listed.setIfInBounds i true) (a.put oi.dst v) w->
  wpOp P ops X i (λa' w'=>(Stp S w w'\/Lt i=true)/\Z1k P X md ops S Lt Z fuel (listed.setIfInBounds i true) a' w') a w:=by
  intro fuel listed a w hy H;unfold wpOp;simp only [hi];rcases hy with ⟨hw,hv⟩|⟨hw,rfl⟩
  simp only [hw,if_true,Oper.wp,hv w (jY w),Oper.upon];exact .inl ⟨.inl (Stp.refl _ _),H⟩;simp only [hw,XS,if_false];exact ⟨.inl (Stp.refl _ _),H⟩
 intro fuel
 induction fuel with
 | zero=>
   intro listed a w _ _ hr hy H;refine ⟨λh=>(by rw [h] at hr;cases hr),λj hj=>?_⟩;by_cases ci:j=i;subst ci;exact now _ _ _ _ hy H;have:=ready_mono hj ci;rw [H.1] at this;cases this
 | succ fuel ih=>
   intro listed a w dt hx hr hy H;refine ⟨λh=>(by rw [h] at hr;cases hr),λj hj=>?_⟩;by_cases ci:j=i;subst ci;exact now _ _ _ _ hy H;have h1:=H.2 j (ready_mono hj ci);obtain ⟨fg,oj,gj,aB⟩:=mem_ready.1 hj;have fh:∀ e∈oj.after,Region.binds md e=true->e.on≠i:=λe he hb cZ=>by
    have h1:=aB e he hb;have h0:=(mem_ready.1 hr).1;rw [cZ] at h1;rcases Yay i listed.size with h'|h'
    simp [h'] at h0 h1;rw [h0] at h1;cases h1;simp [Yaz h'] at h1
   have hap:=dt j oj gj ci fg fh;obtain ⟨p1,p2,p3⟩:=Oper.apart_spec hap;have keep:∀ (a:Act),YE P ops R oi v a w->∀ u,YE P ops R oi v (a.put oj.dst u) w:=λa hy u=>
    hy.same (execOp_put oi (λcs b=>fe i oi cs b hi) a oj.dst u p3) (wanted_put oi a oj.dst u p3)
   have keepD:∀ (a:Act) d,YE P ops R oi v a w->YE P ops R oi v { a with defers:=d :: a.defers } w:=λa d hy=>hy.same rfl rfl;have later:∀ (a:Act) w',(Stp S w w'\/Lt j=true)->YE P ops R oi v a w->YE P ops R oi v a w':=λa w' hs hy=>by
    rcases hy with ⟨hw,hv⟩|hw
    exact .inl ⟨hw,λw'' h''=>hv w'' (mC _ _ _ (mD j oj gj fh ci w w' hs) h'')⟩;exact .inr hw
   have dF:∀ k ok,ops[k]?=some ok->k≠i->(listed.setIfInBounds j true).getD k true=false->
    (∀ e∈ok.after,Region.binds md e=true->e.on≠i)->oi.apart ops ok=true:=λk ok hk gJ jZ aW=>by
    refine dt k ok hk gJ ?_ aW;by_cases iq:j=k;subst iq;exact fg;rw [getD_set_ne true iq] at jZ;exact jZ
   have fin:∀ a' w',YE P ops R oi v a' w->(Stp S w w'\/Lt j=true)/\Z1k P X md ops S Lt Z fuel ((listed.setIfInBounds i true).setIfInBounds j true) (a'.put oi.dst v) w'->
    (Stp S w w'\/Lt j=true)/\Z1k P X md ops S Lt Z (fuel+1) (listed.setIfInBounds j true) a' w':=by
    rintro a' w' ir ⟨hs,hk⟩;refine ⟨hs,ih _ a' w' dF (λ_=>trivial) (ready_mono hr (Ne.symm ci)) (later a' w' hs ir) ?_⟩;rw [Ya5 _ _ ci];exact hk
   have mE:∀ cs b,oj.op≠.select cs b:=λcs b=>fe j oj cs b gj;unfold wpOp at *;simp only [gj] at *;rw [wanted_put oj a oi.dst v p1] at h1;split
   . rename_i hw
     simp only [hw,if_true] at h1;rcases h1 with h1|⟨_,_,_,hf⟩
     case inr=>exact (gz _ _ hf).elim
     refine .inl ?_;unfold Oper.wp at *;rw [execOp_put oj mE a oi.dst v p1] at h1;generalize (execOp a.eval oj).run P w=r at *;cases r with
     | ok n w'=>
       cases n<;>simp only [Oper.upon] at h1 ⊢
       case value u=>exact fin _ _ (keep a hy u) (by rw [<- Act.put_comm a v u p2];exact h1)
       case skip=>exact fin _ _ (keep a hy _) (by rw [<- Act.put_comm a v undef p2];exact h1)
       case defer d=>
        refine fin _ _ (keep _ (keepD a d hy) _) ?_;rw [<- Act.put_comm _ v undef p2,<- Act.put_defers];exact h1
       case enter f args=>
        refine Calls.mono h1 λe w'' he=>?_;cases e with
        | returned u=>exact fin _ _ (keep a hy u) (by rw [<- Act.put_comm a v u p2];exact he)
        | panicked c=>exact oL _ _ _ _ _ he
        | outgrown=>obtain ⟨_,_,hf⟩:=he;exact (gz _ _ hf).elim
       case row row args=>exact Rows.mono h1 λu w'' he=>fin _ _ (keep a hy u) (by rw [<- Act.put_comm a v u p2];exact he)
     | halt x w'=>
       cases x<;>simp only [Oper.upon] at h1 ⊢;exact oL _ _ _ _ _ h1
   rename_i hw;simp only [hw] at h1;exact fin _ _ (keep a hy _) (by rw [<- Act.put_comm a v undef p2];exact h1)
end any
structure WDq (P:Program) (n:Nat) (ops:Array Oper) (S:List Nat) (Lt:List Nat) (Q:Exit->Act->World->Prop) (ord:List (Nat×Nat)) (e:Env) (w:World):Prop where
 h:∀ listed:Array Bool,Region.noSelect ops=true->J5 ops Lt ord listed=true->∀ a,Has n e a->Z1k P (PQ n Q) .any ops S (λj=>Lt.contains j) (λa w=>Q .normal a w) (wt ord) listed a w
section rules
variable {P:Program} {n:Nat} {Q:Exit->Act->World->Prop} {e:Env} {w:World} {ops:Array Oper} {S:List Nat} {Lt:List Nat} {rest:List (Nat×Nat)}
theorem Z9s {id:Nat} {l:List Oper} (m:Nat) (S:List Nat) (Lt:List Nat) (ord:List (Nat×Nat)) (cp:l.length=m) (hm:P.follows .mixedOrders=true) (hs:Region.noSelect l.toArray=true) (hl:Nat.beq (wt ord) l.length=true)
 (hB:J5 l.toArray Lt ord (Array.replicate m false)=true)
 (h:∀ w',Stp [] w w'->WDq P n l.toArray S Lt Q ord e w'):WC P n (.region id l.toArray true) Q e w:=by
 subst cp;refine ⟨λa ha=>wp_region_any hm ?_⟩;have h1:=(h { w with drawn:=w.drawn+1 } (Stp.drew [] w)).h _ hs hB a ha;have h2:=Z70 (X:=PQ n Q) (Q:=Q) ZdS Zt2 (λa w hz=>hz) _ _ _ _ h1;rw [XN hl] at h2;simpa using h2
theorem ZfS {i d:Nat} {o:Oper} {v:Value} (hi:ops[i]?=some o) (hd:o.dst=some d) (hY:∀ a,Has n e a->YE P ops (λ_ _=>True) o v a w) (aw:Nat.blt d n=true)
 (k:WDq P n ops S Lt Q rest ((d,v) :: e) w):WDq P n ops S Lt Q ((i,0) :: rest) e w:=by
 refine ⟨λlisted hs hB a ha=>?_⟩;simp only [J5,ZY,Xm] at hB;obtain ⟨⟨h1,h2⟩,h3⟩:=hB;have hk:=k.h _ hs h3 _ (ha.put (v:=v) aw);rw [<- hd] at hk;rw [Z01 (by decide)];exact ZbS ZdS Zjf (R:=λ_ _=>True) (λ_=>trivial) (λ_ _ _ _ _=>trivial) hi (λ_ _ _ _ _ _ _ _=>trivial) (Region.noSelect_spec hs) _ _ _ _ (Region.free_spec hi h2) (λ_=>trivial) (by simpa using h1) (hY a ha) hk
theorem ZfT {i d:Nat} {o:Oper} {v:Value} (hi:ops[i]?=some o) (hd:o.dst=some d) (hY:∀ a,Has n e a->YE P ops (Stp S) o v a w) (aw:Nat.blt d n=true)
 (k:WDq P n ops S Lt Q rest ((d,v) :: e) w):WDq P n ops S Lt Q ((i,1) :: rest) e w:=by
 refine ⟨λlisted hs hB a ha=>?_⟩;simp only [J5,ZY,Xm] at hB;obtain ⟨⟨⟨h1,h2⟩,hb⟩,h3⟩:=hB;have hk:=k.h _ hs h3 _ (ha.put (v:=v) aw);rw [<- hd] at hk;rw [Z01 (by decide)];refine ZbS ZdS Zjf (R:=Stp S) (λw=>Stp.refl _ w) (λ_ _ _ h k=>h.trans k) hi (λj oj hj hn ci w w' hs=>?_) (Region.noSelect_spec hs) _ _ _ _ (Region.free_spec hi h2) (λ_=>trivial) (by simpa using h1) (hY a ha) hk;rcases hs with hs|hs
 exact hs;rw [Z56 hb hj hn ci] at hs;cases hs
variable {i d:Nat} {op:Op} {ty:TypeId} {pos:String} {af:Array Edge} {gd:Option (Nat×Bool)} {v:Value}
theorem JJ (hi:ops[i]?=some ⟨some d,op,ty,pos,af,gd⟩) (hg:Z02 ops e gd) (hp:∀ w',PR P n ⟨some d,op,ty,pos,af,gd⟩ e w' v) (aw:Nat.blt d n=true)
 (k:WDq P n ops S Lt Q rest ((d,v) :: e) w):WDq P n ops S Lt Q ((i,0) :: rest) e w:=
 ZfS hi rfl (λa ha=>.inl ⟨Jv ha hg,λw' _=>(hp w').h a ha⟩) aw k
theorem Z5z (hi:ops[i]?=some ⟨some d,op,ty,pos,af,gd⟩) (hg:Z02 ops e gd) (hp:∀ w',Stp S w w'->PR P n ⟨some d,op,ty,pos,af,gd⟩ e w' v) (aw:Nat.blt d n=true)
 (k:WDq P n ops S Lt Q rest ((d,v) :: e) w):WDq P n ops S Lt Q ((i,1) :: rest) e w:=
 ZfT hi rfl (λa ha=>.inl ⟨Jv ha hg,λw' hw=>(hp w' hw).h a ha⟩) aw k
structure Zxw (P:Program) (n:Nat) (ops:Array Oper) (S:List Nat) (Lt:List Nat) (Q:Exit->Act->World->Prop) (i:Nat) (ord:List (Nat×Nat)) (e:Env) (w:World):Prop where
 h : ∀ listed : Array Bool, Region.noSelect ops = true -> J5 ops Lt ord (listed.setIfInBounds i true) = true -> ∀ a, Has n e a->
   wpOp P ops (PQ n Q) i (λa' w'=>(Stp S w w'\/Lt.contains i=true)/\Z1k P (PQ n Q) .any ops S (λj=>Lt.contains j) (λa w=>Q .normal a w) (wt ord) (listed.setIfInBounds i true) a' w') a w
theorem ZeV (h:Zxw P n ops S Lt Q i rest e w):WDq P n ops S Lt Q ((i,2) :: rest) e w:=by
 refine ⟨λlisted hs hB a ha=>?_⟩;simp only [J5,ZY] at hB;rw [if_neg (by simp)] at hB;simp only [Xm,beq_iff_eq] at hB;obtain ⟨h1,h3⟩:=hB;rw [Z01 (by decide)];refine ⟨λh0=>absurd (h1 ▸ h0) (by simp),λj hj=>?_⟩;rw [h1] at hj;obtain rfl:j=i:=by simpa using hj
 exact h.h _ hs h3 a ha
end rules
structure OEP (P:Program) (n:Nat) (o:Oper) (e:Env) (w:World) (G:Value->World->Prop) (F:List PanicEntry->World->Prop):Prop where
 h:∀ a,Has n e a->∀ Q:Exit->Act->World->Prop,(∀ ch w',F ch w'->Q (.panic ch) a w')->o.wp P a w (λa' w'=>∃ v,a'=a.put o.dst v/\G v w') Q
inductive ZmT (G:Value->World->Prop) (F:List PanicEntry->World->Prop):Ending->World->Prop
 | ret {v:Value} {w:World}:G v w->ZmT G F (.returned v) w
 | pan {ch:List PanicEntry} {w:World}:F ch w->ZmT G F (.panicked ch) w
section
variable {P:Program} {n:Nat} {Q:Exit->Act->World->Prop} {e:Env} {w:World} {ops:Array Oper} {S:List Nat} {Lt:List Nat} {rest:List (Nat×Nat)}
theorem Zjh {i d:Nat} {op:Op} {ty:TypeId} {pos:String} {af:Array Edge} {gd:Option (Nat×Bool)} {G:Value->World->Prop} {F:List PanicEntry->World->Prop} (hi:ops[i]?=some ⟨some d,op,ty,pos,af,gd⟩) (hg:Z02 ops e gd)
 (hp:OEP P n ⟨some d,op,ty,pos,af,gd⟩ e w G F) (hG:∀ v w',G v w'->Stp S w w') (aw:Nat.blt d n=true) (hF:∀ ch w',F ch w'->WQ n Q (.panic ch) [] w')
 (k:∀ v w',G v w'->WDq P n ops S Lt Q rest ((d,v) :: e) w'):WDq P n ops S Lt Q ((i,2) :: rest) e w:=by
 refine ZeV ⟨λlisted hs h3 a ha=>?_⟩;unfold wpOp;simp only [hi];rw [if_pos (Jv (o:=⟨some d,op,ty,pos,af,gd⟩) ha hg)];have h0:Has n [] a:=⟨ha.defers,ha.size,λt v hv=>by simp [look] at hv⟩
 refine .inl (Oper.wp_mono ?_ (hp.h a ha (PQ n Q) (λch w' h=>⟨h0,λa' eV=>(hF ch w' h).h a' eV⟩)));rintro a' w' ⟨v,rfl,jo⟩;exact ⟨.inl (hG v w' jo),(k v w' jo).h _ hs h3 _ (ha.put aw)⟩
end
section
variable {P:Program} {n:Nat} {Q:Exit->Act->World->Prop} {e:Env} {w:World} {ops:Array Oper} {rest:List Oper} {d:Option Nat} {ty:TypeId} {pos:String} {af:Array Edge} {g:Option (Nat×Bool)}
theorem Z81 {f:Nat} {fn:Func} {xs:Array Operand} {ts:Array TypeId} {vs:Array Value} {G:Value->World->Prop} {F:List PanicEntry->World->Prop} {c:Operand} [hf:Fun P f fn] (hc:ev e c=some (.func (.func f) #[] #[]))
 (hv:∀ a,Has n e a->xs.map a.eval=vs) (h:Calls P f vs w (ZmT G F)) :
 OEP P n ⟨d,.call { callee:=.value c,args:=xs,argTypes:=ts },ty,pos,af,g⟩ e w G F:=
 ⟨λa ha Q hQ => by
   have he:(execOp a.eval ⟨d,.call { callee:=.value c,args:=xs,argTypes:=ts },ty,pos,af,g⟩).run P w=.ok (.enter f vs) w:=by
    simp only [execOp,resolve,ha.ev hc,Deferred.ofValue,hv a ha];simp [invoke];exact hf.enters vs w
   unfold Oper.wp;rw [he];simp only [Oper.upon];refine h.mono ?_;intro r w' hr;cases hr with
   | ret hg=>exact ⟨_,rfl,hg⟩
   | pan hp=>exact hQ _ _ hp⟩
theorem ZfU {f:Nat} {fn:Func} {xs:Array Operand} {ts:Array TypeId} {vs bd cap us:Array Value} {G:Value->World->Prop} {F:List PanicEntry->World->Prop} {c:Operand} [hf:Fun P f fn] (hc:ev e c=some (.func (.func f) bd cap))
 (hv:∀ a,Has n e a->xs.map a.eval=vs) (hu:bd++vs++cap=us) (h:Calls P f us w (ZmT G F)) :
 OEP P n ⟨d,.call { callee:=.value c,args:=xs,argTypes:=ts },ty,pos,af,g⟩ e w G F:=
 ⟨λa ha Q hQ => by
   have he:(execOp a.eval ⟨d,.call { callee:=.value c,args:=xs,argTypes:=ts },ty,pos,af,g⟩).run P w=.ok (.enter f us) w:=by
    simp only [execOp,resolve,ha.ev hc,Deferred.ofValue,hv a ha];simp [invoke];rw [<- Array.append_assoc,hu];exact hf.enters us w
   unfold Oper.wp;rw [he];simp only [Oper.upon];refine h.mono ?_;intro r w' hr;cases hr with
   | ret hg=>exact ⟨_,rfl,hg⟩
   | pan hp=>exact hQ _ _ hp⟩
theorem ZaC {d:Nat} {op:Op} {G:Value->World->Prop} {F:List PanicEntry->World->Prop} (hp:OEP P n ⟨some d,op,ty,pos,af,none⟩ e w G F) (hd:Nat.blt d n=true) (hF:∀ ch w',F ch w'->WQ n Q (.panic ch) e w')
 (k:∀ v w',G v w'->WL P n ops Q rest ((d,v) :: e) w'):WL P n ops Q (⟨some d,op,ty,pos,af,none⟩ :: rest) e w:=by
 refine ⟨λa ha=>?_⟩;refine wpList_plain rfl (λK hK=>?_);refine Oper.wp_mono ?_ (hp.h a ha Q (λch w' h=>(hF ch w' h).h a ha));rintro a' w' ⟨v,rfl,hg⟩;exact hK _ _ ((k v w' hg).h _ (ha.put hd))
theorem Zi {N:Act->World->Prop} {ch:List PanicEntry} (h:WQ n Q (.panic ch) e w):WQ n (Exit.then N Q) (.panic ch) e w:=⟨λa ha=>h.h a ha⟩
theorem Zg {i:Nat} {ch:List PanicEntry} (h:WQ n Q (.panic ch) e w):WQ n (Exit.inBlock i Q) (.panic ch) e w:=⟨λa ha=>h.h a ha⟩
theorem Z9t {x:Exit} (h:WQ n Q x [] w):WQ n Q x e w:=⟨λa ha=>h.h a ⟨ha.defers,ha.size,λt v hv=>by simp [look] at hv⟩⟩
theorem ZH {fn:Func} {R:Ending->World->Prop} {ch:List PanicEntry} (h:R (.panicked ch) w):WQ n (bodyPost P fn R) (.panic ch) e w:=⟨λa ha=>⟨ha.defers,h⟩⟩
end
theorem Z6n {P:Program} {n:Nat} {e:Env} {w} {d:Option Nat} {ty:TypeId} {pos:String} {af:Array Edge} {g:Option (Nat×Bool)} {t:TypeId} {x:Operand} {v:Value} {fs:Array Field} [hu:Und P t (.struct fs)] (hx:ev e x=some v):PR P n ⟨d,.makeInterface t x,ty,pos,af,g⟩ e w (.iface t v):=
 ⟨λa ha=>by simp [execOp,ha.ev hx,Instr.makeInterface,run_underlying hu.h]⟩
theorem ZfV {P:Program} {n:Nat} {e:Env} {w} {d:Option Nat} {ty:TypeId} {pos:String} {af:Array Edge} {g:Option (Nat×Bool)} {x:Operand} {t:TypeId} {v:Value} (hx:ev e x=some (.iface t v)):∀ a,Has n e a->(execOp a.eval ⟨d,.panic x,ty,pos,af,g⟩).run P w=.halt (.panic (.iface t v)) w:=
 λa ha=>by simp [execOp,ha.ev hx,Instr.panic]
theorem ZfW {P:Program} {n:Nat} {Q:Exit->Act->World->Prop} {e:Env} {w} {ops:Array Oper} {S:List Nat} {Lt:List Nat} {rest:List (Nat×Nat)} {i:Nat} {o:Oper} {v:Value} (hi:ops[i]?=some o) (hg:Z02 ops e o.guard)
 (hp:∀ a,Has n e a->(execOp a.eval o).run P w=.halt (.panic v) w) (h:WQ n Q (.panic [{ v,recovered:=false }]) [] w):WDq P n ops S Lt Q ((i,2) :: rest) e w:=by
 refine ZeV ⟨λlisted hs h3 a ha=>?_⟩;unfold wpOp;simp only [hi];rw [if_pos (Jv ha hg)];refine .inl ?_;unfold Oper.wp;rw [hp a ha];have h0:Has n [] a:=⟨ha.defers,ha.size,λt v hv=>by simp [look] at hv⟩
 exact ⟨h0,λa' eV=>h.h a' eV⟩
structure Tkn where
 kind:Int
 pos:Int
 text:Str
 num:Int
 deriving DecidableEq
instance:Inhabited Tkn:=⟨⟨0,0,[],0⟩⟩
instance:Z3 Tkn where
 k:=4
 enc:=λt=>[.I t.kind,.I t.pos,str t.text,.I t.num]
 len:=λ_=>rfl
 one:=by intro x u hu;simp at hu;rcases hu with rfl|rfl|rfl|rfl<;>rfl
def cur (l:List Tkn) (i:Nat):Tkn:=l.getD i default
inductive Out (α:Type) where
 | err (a c:Int)
 | ok (x:α) (i o:Nat)
def Out.bind {α β:Type}:Out α->(α->Nat->Nat->Out β)->Out β
 | .err a c,_=>.err a c
 | .ok x i o,k=>k x i o
def Z1f {α:Type} (l:List Tkn) (i:Nat) (c:Int):Out α:=.err (cur l i).pos c
def Z0K (l:List Tkn) (s:Str) (i o:Nat):Out Unit:=if (cur l i).text=s then .ok () (i+1) o else Z1f l i 20
def Z36 (l:List Tkn) (k:Int) (i o:Nat):Out Tkn:=if (cur l i).kind=k then .ok (cur l i) (i+1) o else Z1f l i 20
def Z6o (l:List Tkn) (s:Str) (i o:Nat):Out Unit:=if (cur l i).text=s then (if o=12 then Z1f l i 2 else .ok () (i+1) (o+1)) else Z1f l i 20
def Z5A (l:List Tkn) (s:Str) (i o:Nat):Out Unit:=(Z0K l s i o).bind λ_ i o=>.ok () i (o - 1)
def Z37:List Str:=[[100,97,121],[115,101,114,118,101,100],[101,120,116,114,97],[98,121],[116,111],[99,111,117,114,116],[97,109,111,117,110,116]]
def Z4S:List Str:=[[100,97,121,115],[119,101,101,107,115],[109,111,110,116,104,115],[99,111,117,114,116,100,97,121,115]]
def Z4T:List Str:=[[110,101,120,116],[112,114,101,118],[108,97,116,101,114],[101,97,114,108,105,101,114],[98,101,116,119,101,101,110]]
def ZeW:List Str:=[[114,117,108,101],[102,114,111,109],[111,110],[105,102],[100,117,101],[117,110,108,101,115,115],[101,108,115,101],[116,114,117,101],[102,97,108,115,101],[110,111,116],[97,110,100],[111,114],[116,104,101,110],[101,110,100]]
def Z2m (l:List Tkn) (i o:Nat):Out Str:=if (cur l i).text∈ZeW++Z4S++Z37++Z4T then Z1f l i 20 else (Z36 l 1 i o).bind λt i o=>.ok t.text i o
def Z6p (s:Str):Nat:=
 if s=[111,114] then 1 else if s=[97,110,100] then 2 else if s=[60]\/s=[60,61]\/s=[61]\/s=[33,61]\/s=[62]\/s=[62,61] then 4
 else if s=[43]\/s=[45] then 5 else if s=[42] then 6 else 0
def Zwr (s:Str):Nat:=if s=[110,101,120,116]\/s=[112,114,101,118] then 1 else 2
def Z3r (m:Nat->Nat->Option (Out Nd)) (sep:Nat->Nat->Nat->Out Unit):Nat->Nat->List Nd->Nat->Nat->Option (Out (List Nd))
 | 0,_,ks,i,o=>some (.ok ks i o)
 | n + 1, k, ks, i, o=>
   match sep k i o with
   | .err a c=>some (.err a c)
   | .ok _ i o=>
     match m i o with
     | none=>none
     | some (.err a c)=>some (.err a c)
     | some (.ok x i o)=>Z3r m sep n (k+1) (ks++[x]) i o
def Z82 (l:List Tkn) (k i o:Nat):Out Unit:=if 0<k then Z0K l [44] i o else .ok () i o
def Zji (l:List Tkn) (k i o:Nat):Out Unit:=Z0K l (if k=0 then [116,104,101,110] else [101,108,115,101]) i o
inductive Call where
 | expr (level:Nat)
 | loop (level:Nat) (x:Nd)
 | prim
def Ja (l:List Tkn):Nat->Call->Nat->Nat->Option (Out Nd)
 | 0,_,_,_=>none
 | f + 1, .expr k, i, o=>
   if (k=3/\(cur l i).text=[110,111,116])\/(k=7/\(cur l i).text=[45]) then
    match Z6o l (cur l i).text i o with
    | .err a c=>some (.err a c)
    | .ok _ i' o'=>
      match Ja l f (.expr k) i' o' with
      | none=>none
      | some (.err a c)=>some (.err a c)
      | some (.ok x i'' o'')=>some (.ok (.mk 5 0 (cur l i).text [x]) i'' (o'' - 1))
   else if k=8 then Ja l f .prim i o
   else
    match Ja l f (.expr (k+1)) i o with
    | none=>none
    | some (.err a c)=>some (.err a c)
    | some (.ok x i' o')=>Ja l f (.loop k x) i' o'
 | f + 1, .loop k x, i, o=>
   if Z6p (cur l i).text=k then
    match Ja l f (.expr (k+1)) (i+1) o with
    | none=>none
    | some (.err a c)=>some (.err a c)
    | some (.ok y i' o')=>
      if k=5/\(cur l i').text∈Z4S then Ja l f (.loop k (.mk (if (cur l i).text=[45] then 8 else 7) 0 (cur l i').text [x,y])) (i'+1) o'
      else if k=4 then some (.ok (.mk 6 0 (cur l i).text [x,y]) i' o')
      else Ja l f (.loop k (.mk 6 0 (cur l i).text [x,y])) i' o'
   else some (.ok x i o)
 | f + 1, .prim, i, o=>
   let t:=cur l i
   if t.kind=2 then some (.ok (.mk 1 t.num [] []) (i+1) o)
   else if t.kind=3 then some (.ok (.mk 3 t.num [] []) (i+1) o)
   else if t.text=[116,114,117,101] then some (.ok (.mk 2 1 [] []) (i+1) o)
   else if t.text=[102,97,108,115,101] then some (.ok (.mk 2 0 [] []) (i+1) o)
   else if t.text=[40] then
    match Z6o l [40] i o with
    | .err a c=>some (.err a c)
    | .ok _ i' o'=>
      match Ja l f (.expr 1) i' o' with
      | none=>none
      | some (.err a c)=>some (.err a c)
      | some (.ok x i'' o'')=>
        match Z5A l [41] i'' o'' with
        | .err a c=>some (.err a c)
        | .ok _ i3 o3=>some (.ok x i3 o3)
   else if t.text=[105,102] then
    match Z6o l [105,102] i o with
    | .err a c=>some (.err a c)
    | .ok _ i' o'=>
      match Ja l f (.expr 1) i' o' with
      | none=>none
      | some (.err a c)=>some (.err a c)
      | some (.ok x i'' o'')=>
        match Z3r (Ja l f (.expr 1)) (Zji l) 2 0 [x] i'' o'' with
        | none=>none
        | some (.err a c)=>some (.err a c)
        | some (.ok ks i3 o3)=>
          match Z5A l [101,110,100] i3 o3 with
          | .err a c=>some (.err a c)
          | .ok _ i4 o4=>some (.ok (.mk 9 0 [] ks) i4 o4)
   else if t.text∈Z4T then
    match Z36 l 1 i o with
    | .err a c=>some (.err a c)
    | .ok _ i1 o1=>
      match Z6o l [40] i1 o1 with
      | .err a c=>some (.err a c)
      | .ok _ i' o'=>
        match Z3r (Ja l f (.expr 1)) (Z82 l) (Zwr t.text) 0 [] i' o' with
        | none=>none
        | some (.err a c)=>some (.err a c)
        | some (.ok ks i3 o3)=>
          match Z5A l [41] i3 o3 with
          | .err a c=>some (.err a c)
          | .ok _ i4 o4=>some (.ok (.mk 10 0 t.text ks) i4 o4)
   else if t.text∈Z37 then some (.ok (.mk 4 0 t.text []) (i+1) o)
   else some (Z1f l i 20)
structure RuleM where
 name:Str
 frm:Int
 on:Str
 cond:Nd
 due:Nd
 unl:Str
 els:Str
def Z1B {α:Type} (l:List Tkn) (w:Str) (z:α) (rd:Nat->Nat->Out α) (i o:Nat):Out α:=
 if (cur l i).text=w then (rd (i+1) o).bind λx i o=>(Z0K l [59] i o).bind λ_ i o=>.ok x i o else .ok z i o
def ZbT (l:List Tkn) (i:Nat):Nat:=20 * (l.length - i)+20
def Z1X (l:List Tkn) (i o:Nat):Out Nd:=(Ja l (ZbT l i) (.expr 1) i o).getD (.err 0 0)
def JU:Nd:=.mk 0 0 [] []
def Z9u (l:List Tkn) (i o:Nat):Out RuleM:=
 (Z0K l [114,117,108,101] i o).bind λ_ i o=>(Z2m l i o).bind λnm i o=>(Z0K l [102,114,111,109] i o).bind λ_ i o=>(Z36 l 3 i o).bind λt i o=>(Z0K l [123] i o).bind λ_ i o=>
 if (cur l i).text=[111,110] then
  (Z1B l [111,110] [] (Z2m l) i o).bind λon i o=>(Z1B l [105,102] JU (Z1X l) i o).bind λcd i o=>
  if (cur l i).text=[100,117,101] then
   (Z1B l [100,117,101] JU (Z1X l) i o).bind λdue i o=>(Z1B l [117,110,108,101,115,115] [] (Z2m l) i o).bind λun i o=>(Z1B l [101,108,115,101] [] (Z2m l) i o).bind λel i o=>(Z0K l [125] i o).bind λ_ i o=>
   .ok ⟨nm,t.num,on,if cd.kind=0 then .mk 2 1 [] [] else cd,due,un,el⟩ i o
  else Z1f l i 20
 else Z1f l i 20
def Z2B (l:List Tkn):Nat->List RuleM->Nat->Nat->Out (List RuleM)
 | 0,rs,i,o=>.ok rs i o
 | f+1,rs,i,o=>if (cur l i).kind=0 then .ok rs i o else (Z9u l i o).bind λr i o=>Z2B l f (rs++[r]) i o
def Z95:List Str:=[[110,111,116],[45],[116,114,117,101],[102,97,108,115,101],[40],[105,102]]++Z4T
structure Z3P (l:List Tkn):Prop where
 pos:0<l.length
 last:(cur l (l.length - 1)).kind=0/\(cur l (l.length - 1)).text=[]
 body:∀ i,i+1<l.length->(cur l i).kind≠0/\(cur l i).text≠[]
 len:l.length<=4001
 sp:∀ i,∀ c∈(cur l i).text,c≠32
 tl:∀ i,(cur l i).text.length<=4000
 plain:∀ i,(cur l i).text∉Z95
theorem Z3P.end_of {l:List Tkn} (h:Z3P l) {i:Nat} (hi:i<l.length) (ht:(cur l i).text≠[]):i+1<l.length:=by
 by_cases hl:i+1<l.length;exact hl;exfalso;obtain rfl:i=l.length - 1:=by omega
 exact ht h.last.2
theorem Z3P.end_of_kind {l:List Tkn} (h:Z3P l) {i:Nat} (hi:i<l.length) (ht:(cur l i).kind≠0):i+1<l.length:=by
 by_cases hl:i+1<l.length;exact hl;exfalso;obtain rfl:i=l.length - 1:=by omega
 exact ht h.last.1
theorem Z5c {l:List Tkn} {s:Str} {i o:Nat} {u:Unit} {i' o':Nat} (h:Z0K l s i o=.ok u i' o'):o'=o:=by
 unfold Z0K Z1f at h;split at h<;>simp at h;omega
theorem Z2n {l:List Tkn} {s:Str} {i o:Nat} {u:Unit} {i' o':Nat} (h:Z0K l s i o=.ok u i' o'):i'=i+1/\(cur l i).text=s:=by
 unfold Z0K Z1f at h;split at h<;>simp at h;exact ⟨by omega,by assumption⟩
theorem Z1o {l:List Tkn} {k:Int} {i o:Nat} {t:Tkn} {i' o':Nat} (h:Z36 l k i o=.ok t i' o'):o'=o/\i'=i+1/\t=cur l i/\t.kind=k:=by
 unfold Z36 Z1f at h;split at h<;>simp at h;obtain ⟨rfl,rfl,rfl⟩:=h;exact ⟨rfl,rfl,rfl,by assumption⟩
theorem Jh {l:List Tkn} {s:Str} {i o:Nat} {u:Unit} {i' o':Nat} (h:Z6o l s i o=.ok u i' o'):o'=o+1/\i'=i+1/\(cur l i).text=s:=by
 unfold Z6o Z1f at h;split at h;split at h<;>simp at h;exact ⟨by omega,by omega,by assumption⟩;simp at h
theorem Z0u {l:List Tkn} {s:Str} {i o:Nat} {u:Unit} {i' o':Nat} (h:Z5A l s i o=.ok u i' o'):o'=o - 1/\i'=i+1/\(cur l i).text=s:=by
 unfold Z5A at h;cases hm:Z0K l s i o with
 | err a c=>rw [hm] at h;simp [Out.bind] at h
 | ok x j p=>
   rw [hm] at h;simp [Out.bind] at h;have:=Z5c hm;have:=Z2n hm;exact ⟨by omega,by omega,this.2⟩
theorem Z5d {m:Nat->Nat->Option (Out Nd)} {sep:Nat->Nat->Nat->Out Unit} (hm:∀ i o x i' o',m i o=some (.ok x i' o')->o'=o) (hs:∀ k i o u i' o',sep k i o=.ok u i' o'->o'=o) :
 ∀ (n k:Nat) (ks:List Nd) (i o:Nat) (ks':List Nd) (i' o':Nat),Z3r m sep n k ks i o=some (.ok ks' i' o')->o'=o
 | 0,k,ks,i,o,ks',i',o',h=>by simp [Z3r] at h;omega
 | n + 1, k, ks, i, o, ks', i', o', h => by
   simp only [Z3r] at h;cases h1:sep k i o with
   | err a c=>rw [h1] at h;simp at h
   | ok u i1 o1=>
     rw [h1] at h;simp only at h;cases h2:m i1 o1 with
     | none=>rw [h2] at h;simp at h
     | some r=>
       rw [h2] at h;cases r with
       | err a c=>simp at h
       | ok x i2 o2=>
         simp only at h;have:=Z5d hm hs n _ _ _ _ _ _ _ h;have:=hm _ _ _ _ _ h2;have:=hs _ _ _ _ _ _ h1;omega
theorem ZbU {l:List Tkn} {k i o:Nat} {u:Unit} {i' o':Nat} (h:Z82 l k i o=.ok u i' o'):o'=o:=by
 unfold Z82 at h;split at h;exact Z5c h;simp at h;omega
theorem ZdT {l:List Tkn} {k i o:Nat} {u:Unit} {i' o':Nat} (h:Zji l k i o=.ok u i' o'):o'=o:=Z5c h
theorem Z5e (l:List Tkn):∀ (f:Nat) (c:Call) (i o:Nat) (x:Nd) (i' o':Nat),Ja l f c i o=some (.ok x i' o')->o'=o
 | 0,c,i,o,x,i',o',h=>by simp [Ja] at h
 | f + 1, .expr k, i, o, x, i', o', h => by
   have ih:=Z5e l f;rw [Ja] at h;split at h;split at h;simp at h;rename_i h1;have:=Jh h1;split at h;simp at h;simp at h;rename_i h2;have:=ih _ _ _ _ _ _ h2;simp at h;omega;split at h;exact ih _ _ _ _ _ _ h;split at h;simp at h;simp at h;rename_i h2;have:=ih _ _ _ _ _ _ h2;have:=ih _ _ _ _ _ _ h;omega
 | f + 1, .loop k y, i, o, x, i', o', h => by
   have ih:=Z5e l f;rw [Ja] at h;split at h;split at h;simp at h;simp at h;rename_i h2;have h3:=ih _ _ _ _ _ _ h2;split at h;have:=ih _ _ _ _ _ _ h;omega;split at h;simp at h;omega;have:=ih _ _ _ _ _ _ h;omega;simp at h;omega
 | f + 1, .prim, i, o, x, i', o', h => by
   have ih:=Z5e l f;rw [Ja] at h;repeat' split at h
   all_goals try (simp at h;done)
   all_goals try (simp at h;omega)
   rename_i h1 _ _ _ _ h2 _ _ _ _ h3;have:=Jh h1;have:=ih _ _ _ _ _ _ h2;have:=Z0u h3;simp at h;omega;rename_i h1 _ _ _ _ h2 _ _ _ _ h3 _ _ _ _ h4;have:=Jh h1;have:=ih _ _ _ _ _ _ h2;have:=Z5d (λ_ _ _ _ _ h=>ih _ _ _ _ _ _ h) (λ_ _ _ _ _ _ h=>ZdT h) _ _ _ _ _ _ _ _ h3;have:=Z0u h4;simp at h;omega;rename_i h1 _ _ _ _ h2 _ _ _ _ h3 _ _ _ _ h4;have:=Z1o h1;have:=Jh h2;have:=Z5d (λ_ _ _ _ _ h=>ih _ _ _ _ _ _ h) (λ_ _ _ _ _ _ h=>ZbU h) _ _ _ _ _ _ _ _ h3;have:=Z0u h4;simp at h;omega;all_goals (simp [Z1f] at h)
theorem Z83 {m:Nat->Nat->Option (Out Nd)} {sep:Nat->Nat->Nat->Out Unit} (hm:∀ i o x i' o',m i o=some (.ok x i' o')->i<=i') (hs:∀ k i o u i' o',sep k i o=.ok u i' o'->i<=i') :
 ∀ (n k:Nat) (ks:List Nd) (i o:Nat) (ks':List Nd) (i' o':Nat),Z3r m sep n k ks i o=some (.ok ks' i' o')->i<=i'
 | 0,k,ks,i,o,ks',i',o',h=>by simp [Z3r] at h;omega
 | n + 1, k, ks, i, o, ks', i', o', h => by
   simp only [Z3r] at h;cases h1:sep k i o with
   | err a c=>rw [h1] at h;simp at h
   | ok u i1 o1=>
     rw [h1] at h;simp only at h;cases h2:m i1 o1 with
     | none=>rw [h2] at h;simp at h
     | some r=>
       rw [h2] at h;cases r with
       | err a c=>simp at h
       | ok x i2 o2=>
         simp only at h;have:=Z83 hm hs n _ _ _ _ _ _ _ h;have:=hm _ _ _ _ _ h2;have:=hs _ _ _ _ _ _ h1;omega
theorem Z9v {l:List Tkn} {k i o:Nat} {u:Unit} {i' o':Nat} (h:Z82 l k i o=.ok u i' o'):i<=i':=by
 unfold Z82 at h;split at h;have:=(Z2n h).1;omega;simp at h;omega
theorem ZbV {l:List Tkn} {k i o:Nat} {u:Unit} {i' o':Nat} (h:Zji l k i o=.ok u i' o'):i<=i':=by have:=(Z2n h).1;omega
def Call.lo:Call->Nat->Nat
 | .expr _,i=>i+1
 | .prim,i=>i+1
 | .loop _ _,i=>i
theorem Z1Y (l:List Tkn):∀ (f:Nat) (c:Call) (i o:Nat) (x:Nd) (i' o':Nat),Ja l f c i o=some (.ok x i' o')->c.lo i<=i'
 | 0,c,i,o,x,i',o',h=>by simp [Ja] at h
 | f + 1, .expr k, i, o, x, i', o', h => by
   have ih:=Z1Y l f;rw [Ja] at h;simp only [Call.lo];split at h;split at h;simp at h;rename_i h1;have:=Jh h1;split at h;simp at h;simp at h;rename_i h2;have:=ih _ _ _ _ _ _ h2;simp only [Call.lo] at this;simp at h;omega;split at h;exact ih _ _ _ _ _ _ h;split at h;simp at h;simp at h;rename_i h2;have h3:=ih _ _ _ _ _ _ h2;have:=ih _ _ _ _ _ _ h;simp only [Call.lo] at this h3;omega
 | f + 1, .loop k y, i, o, x, i', o', h => by
   have ih:=Z1Y l f;rw [Ja] at h;simp only [Call.lo];split at h;split at h;simp at h;simp at h;rename_i h2;have h3:=ih _ _ _ _ _ _ h2;simp only [Call.lo] at h3;split at h;have:=ih _ _ _ _ _ _ h;simp only [Call.lo] at this;omega;split at h;simp at h;omega;have:=ih _ _ _ _ _ _ h;simp only [Call.lo] at this;omega;simp at h;omega
 | f + 1, .prim, i, o, x, i', o', h => by
   have ih:=Z1Y l f;rw [Ja] at h;simp only [Call.lo];repeat' split at h
   all_goals try (simp at h;done)
   all_goals try (simp at h;omega)
   rename_i h1 _ _ _ _ h2 _ _ _ _ h3;have:=Jh h1;have h2:=ih _ _ _ _ _ _ h2;have:=Z0u h3;simp only [Call.lo] at h2;simp at h;omega;rename_i h1 _ _ _ _ h2 _ _ _ _ h3 _ _ _ _ h4;have:=Jh h1;have h2:=ih _ _ _ _ _ _ h2;have:=Z83 (λ_ _ _ _ _ h=>by have:=ih _ _ _ _ _ _ h;simp only [Call.lo] at this;omega) (λ_ _ _ _ _ _ h=>ZbV h) _ _ _ _ _ _ _ _ h3;have:=Z0u h4;simp only [Call.lo] at h2;simp at h;omega;rename_i h1 _ _ _ _ h2 _ _ _ _ h3 _ _ _ _ h4;have:=Z1o h1;have:=Jh h2;have:=Z83 (λ_ _ _ _ _ h=>by have:=ih _ _ _ _ _ _ h;simp only [Call.lo] at this;omega) (λ_ _ _ _ _ _ h=>Z9v h) _ _ _ _ _ _ _ _ h3;have:=Z0u h4;simp at h;omega;all_goals (simp [Z1f] at h)
theorem Z5f {m:Nat->Nat->Option (Out Nd)} {sep:Nat->Nat->Nat->Out Unit} (i0:Nat) (ht:∀ i o,i0<=i->m i o≠none) (hm:∀ i o x i' o',m i o=some (.ok x i' o')->i<=i') (hs:∀ k i o u i' o',sep k i o=.ok u i' o'->i<=i') :
 ∀ (n k:Nat) (ks:List Nd) (i o:Nat),i0<=i->Z3r m sep n k ks i o≠none
 | 0,k,ks,i,o,h0=>by simp [Z3r]
 | n + 1, k, ks, i, o, h0 => by
   simp only [Z3r];cases h1:sep k i o with
   | err a c=>simp
   | ok u i1 o1=>
     have:=hs _ _ _ _ _ _ h1;simp only;cases h2:m i1 o1 with
     | none=>exact absurd h2 (ht _ _ (by omega))
     | some r=>
       cases r with
       | err a c=>simp
       | ok x i2 o2=>
         have:=hm _ _ _ _ _ h2;exact Z5f i0 ht hm hs n _ _ _ _ (by omega)
theorem ZmU {l:List Tkn} {i:Nat} (h:l.length<=i):cur l i=default:=by simp [cur,List.getD,h]
theorem Z5g {l:List Tkn} {i:Nat} (h:(cur l i).text≠[]):i<l.length:=by
 by_cases hl:i<l.length;exact hl;rw [ZmU (by omega)] at h;exact absurd rfl h
def Call.need (n:Nat):Call->Nat->Nat
 | .expr k,i=>10 * (n - i)+(10 - k)
 | .prim,i=>10 * (n - i)+1
 | .loop _ _,i=>10 * (n - i)+1
def Call.fine:Call->Prop
 | .expr k=>1<=k/\k<=8
 | .prim=>True
 | .loop k _=>1<=k/\k<=7
theorem Z84 {s:Str} {k:Nat} (h:Z6p s=k) (hk:1<=k):s≠[]:=by
 rintro rfl;have:Z6p []=0:=by decide
 omega
theorem Z38 (l:List Tkn):∀ (f:Nat) (c:Call) (i o:Nat),c.fine->c.need l.length i<=f->Ja l f c i o≠none
 | 0, c, i, o, hc, h => by
   cases c<;>simp only [Call.need,Call.fine] at h hc<;>omega
 | f + 1, .expr k, i, o, hc, h => by
   have ih:=Z38 l f;simp only [Call.need,Call.fine] at h hc;rw [Ja];split;rename_i bt;have hi:i<l.length:=Z5g (by rcases bt with ⟨_,h⟩|⟨_,h⟩<;>rw [h]<;>decide);split;simp;rename_i h1;have:=Jh h1;split;rename_i h2;exact absurd h2 (ih _ _ _ hc (by simp only [Call.need];omega));simp;simp;split;exact ih _ _ _ trivial (by simp only [Call.need];omega);split;rename_i h2;exact absurd h2 (ih _ _ _ (by simp only [Call.fine];omega) (by simp only [Call.need];omega));simp;rename_i h2;have h3:=Z1Y l _ _ _ _ _ _ _ h2;simp only [Call.lo] at h3;exact ih _ _ _ (by simp only [Call.fine];omega) (by simp only [Call.need];omega)
 | f + 1, .loop k y, i, o, hc, h => by
   have ih:=Z38 l f;simp only [Call.need,Call.fine] at h hc;rw [Ja];split;rename_i kR;have hi:i<l.length:=Z5g (Z84 kR hc.1);split;rename_i h2;exact absurd h2 (ih _ _ _ (by simp only [Call.fine];omega) (by simp only [Call.need];omega));simp;rename_i h2;have h3:=Z1Y l _ _ _ _ _ _ _ h2;simp only [Call.lo] at h3;split;exact ih _ _ _ hc (by simp only [Call.need];omega);split;simp;exact ih _ _ _ hc (by simp only [Call.need];omega);simp
 | f + 1, .prim, i, o, hc, h => by
   have ih:=Z38 l f;have cT:∀ i o x i' o',Ja l f (.expr 1) i o=some (.ok x i' o')->i<=i':=λ_ _ _ _ _ h=>by have:=Z1Y l _ _ _ _ _ _ _ h;simp only [Call.lo] at this;omega
   simp only [Call.need,Call.fine] at h hc;have bz:∀ j o,i<l.length->i+1<=j->Ja l f (.expr 1) j o≠none:=λj o hi hj=>ih _ _ _ (by simp [Call.fine]) (by simp only [Call.need];omega)
   rw [Ja];have kT:=λh=>Z5g (l:=l) (i:=i) h;split;simp;split;simp;split;simp;split;simp;split;rename_i ht;have hi:=kT (by rw [ht];decide);split;simp;rename_i h1;have:=Jh h1;split;rename_i h2;exact absurd h2 (bz _ _ hi (by omega));simp;split<;>simp
   split;rename_i ht;have hi:=kT (by rw [ht];decide);split;simp;rename_i h1;have:=Jh h1;split;rename_i h2;exact absurd h2 (bz _ _ hi (by omega));simp;rename_i h2;have:=cT _ _ _ _ _ h2;split;rename_i h3;exact absurd h3 (Z5f (i+1) (λj o hj=>bz j o hi hj) cT (λ_ _ _ _ _ _ h=>ZbV h) _ _ _ _ _ (by omega));simp;split<;>simp
   split;rename_i ht;have hi:=kT (λh0=>by rw [h0] at ht;revert ht;decide);split;simp;rename_i h1;have:=Z1o h1;split;simp;rename_i h2;have:=Jh h2;split;rename_i h3;exact absurd h3 (Z5f (i+1) (λj o hj=>bz j o hi hj) cT (λ_ _ _ _ _ _ h=>Z9v h) _ _ _ _ _ (by omega));simp;split<;>simp
   split<;>simp
theorem Z9w (l:List Tkn) (i o:Nat):Ja l (ZbT l i) (.expr 1) i o=some (Z1X l i o):=by
 have:=Z38 l (ZbT l i) (.expr 1) i o (by simp [Call.fine]) (by simp only [Call.need,ZbT];omega);unfold Z1X;cases h:Ja l (ZbT l i) (.expr 1) i o with
 | none=>exact absurd h this
 | some r=>rfl
abbrev bts (s:Str):ByteArray:=⟨s.toArray⟩
def Itr (w:World) (b:Nat) (s:Str) (p:Nat):Prop:=w.heap[b]?=some (.stringIter (bts s) p)
theorem Itr.lt {w} {b p:Nat} {s:Str} (h:Itr w b s p):b<w.heap.size:=(Xl.1 h).1
def dec (s:Str) (p:Nat):Nat×Nat:=Utf8.decode (bts s) p
theorem Z5B (s:Str):(bts s).size=s.length:=by simp [ByteArray.size]
theorem Z4o {s:Str} {p:Nat} (h:p<s.length) (ha:(s[p]).toNat<128):dec s p=((s[p]).toNat,1):=by
 have h1:p<(bts s).size:=by rw [Z5B];exact h
 have e:(bts s)[p]'h1=s[p]:=by simp [bts,ByteArray.getElem_eq_getElem_data]
 have:=decode_ascii (bts s) p h1 (by rw [e];exact ha);rw [e] at this;exact this
theorem ZbW {s:Str} {p:Nat} (h:p<s.length) (ha:128<=(s[p]).toNat):128<=(dec s p).1/\1<=(dec s p).2:=by
 have h1:p<(bts s).size:=by rw [Z5B];exact h
 have e:(bts s)[p]'h1=s[p]:=by simp [bts,ByteArray.getElem_eq_getElem_data]
 exact decode_high (bts s) p h1 (by rw [e];exact ha)
theorem ZmV {s:Str} {p:Nat} (h:p<s.length):1<=(dec s p).2:=by
 by_cases ha:(s[p]).toNat<128;rw [Z4o h ha];exact Xn _;exact (ZbW h (by omega)).2
section
variable {P:Program} {n:Nat} {e:Env} {w:World} {d:Option Nat} {ty:TypeId} {pos:String} {af:Array Edge} {g:Option (Nat×Bool)}
theorem ZbX {x:Operand} {t:TypeId} {s:Str} [hu:Und P t .string] (hx:ev e x=some (str s)):OE P n ⟨d,.range t x,ty,pos,af,g⟩ e w (λv w'=>∃ b,v=pQ b/\w.heap.size<=b/\Itr w' b s 0/\Stp [] w w'):=
 Jf (v:=.pointer (some ⟨w.heap.size,0,none⟩)) (w':=w.iter (bts s) 0) (λa ha=>by
  have:=run_range_string (P:=P) w t (bts s) hu.h;simp [execOp,ha.ev hx,this]) ⟨w.heap.size,rfl,Xn _,World.iter_heap _ _ _,Stp.alloc _ _ _⟩
theorem ZeX {x:Operand} {s:Str} {b p:Nat} (hx:ev e x=some (pQ b)) (hI:Itr w b s p) (hp:p<s.length) :
 OE P n ⟨d,.next x true,ty,pos,af,g⟩ e w (λv w'=>v=.tuple #[.B true,.I p,.int .i32 ((dec s p).1:Int)]/\Itr w' b s (p+(dec s p).2)/\Stp [b] w w'):=by
 have hlt:=hI.lt;have qi:p<(bts s).size:=by rw [Z5B];exact hp
 unfold Itr at hI;refine Jf (v:=.tuple #[.B true,.I p,.int .i32 ((dec s p).1:Int)]) (w':={ w with heap:=w.heap.setIfInBounds b (.stringIter (bts s) (p+(dec s p).2)) }) (λa ha=>?_) ⟨rfl,?_,⟨rfl,rfl,rfl,by simp,λk hk hn=>?_⟩⟩
 . simp [execOp,ha.ev hx,Instr.next,getObj,setObj,Sem.run,hI,qi,goInt,dec]
 show (w.heap.setIfInBounds b _)[b]?=_;simp [hlt];show (w.heap.setIfInBounds b _)[k]?=_;exact YaK (by simpa using λh=>hn (by simp [h]))
theorem Z85 {x:Operand} {s:Str} {b p:Nat} (hx:ev e x=some (pQ b)) (hI:Itr w b s p) (hp:¬ p<s.length) :
 OE P n ⟨d,.next x true,ty,pos,af,g⟩ e w (λv w'=>v=.tuple #[.B false]/\w'=w):=by
 have qi:¬ p<(bts s).size:=by rw [Z5B];exact hp
 unfold Itr at hI;refine Jf (v:=.tuple #[.B false]) (w':=w) (λa ha=>?_) ⟨rfl,rfl⟩;simp [execOp,ha.ev hx,Instr.next,getObj,Sem.run,hI,qi]
theorem ZbY {x:Operand} {t:TypeId} {i:Nat} {u v:Value} (hx:ev e x=some u) (hb:∀ w,(Instr.field t u i).run P w=.ok v w):PR P n ⟨d,.field t x i,ty,pos,af,g⟩ e w v:=
 ⟨λa ha=>by simp [execOp,ha.ev hx,hb]⟩
end
def ZfX (c:UInt8):Bool:=decide (97<=c.toNat) && decide (c.toNat<=122)
def J9 (c:UInt8):Bool:=decide (48<=c.toNat) && decide (c.toNat<=57)
def ldB (c:UInt8):Bool:=ZfX c || J9 c
def Z1G (s:Str):Nat:=s.foldl (λn c=>10 * n+(c.toNat - 48)) 0
def Z16 (y:Int):Bool:=decide (y % 4=0) && (decide (¬ y % 100=0) || decide (y % 400=0))
def ZM (y m:Int):Int:=
 if m<1\/12<m then 0 else if m=2 then (if Z16 y then 29 else 28) else if m=4\/m=6\/m=9\/m=11 then 30 else 31
def Z08 (y m d:Int):Int:=
 let (y,m):=if m - 3<0 then (y - 1,m+9) else (y,m - 3)
 365 * y+y / 4 - y / 100+y / 400+(153 * m+2) / 5+d - 307
def Z1C (s:Str):Int×Int:=
 if s.length=10/\s.getD 4 0=45/\s.getD 7 0=45/\((s.take 4).all J9/\((s.drop 5).take 2).all J9/\(s.drop 8).all J9) then
  let y:Int:=Z1G (s.take 4)
  let m:Int:=Z1G ((s.drop 5).take 2)
  let d:Int:=Z1G (s.drop 8)
  if y<1\/9999<y\/m<1\/12<m\/d<1\/ZM y m<d then (0,5) else (Z08 y m d,0)
 else (0,7)
inductive Lx where
 | err (c:Int)
 | ok (t:Tkn)
def Z5C (s:Str):Lx:=let n:=(s.takeWhile ldB).length;if 12<n then .err 2 else .ok ⟨1,0,s.take n,0⟩
def Z4p (s:Str):Lx:=
 let t:=s.takeWhile J9
 if 1<t.length/\t.getD 0 0=48 then .err 20 else if 2147483647<Z1G t then .err 5 else .ok ⟨2,0,t,Z1G t⟩
def Ji:Str:=[64,100,100,100,100,45,100,100,45,100,100]
def Z5D (c x:UInt8):Bool:=if c=100 then J9 x else decide (x=c)
def ZaD (s:Str):Lx:=
 if s.length<11 then .err 20 else if ((Ji.zip s).all λp=>Z5D p.1 p.2) then
  (let d:=Z1C ((s.take 11).drop 1);if d.2=0 then .ok ⟨3,0,s.take 11,d.1⟩ else .err 5)
 else .err 20
def ZbZ:Str:=[123,125,40,41,59,44,43,45,42,60,61,62]
def Z0b (s:Str):Lx:=
 if s.take 2=[60,61]\/s.take 2=[33,61]\/s.take 2=[62,61] then .ok ⟨4,0,s.take 2,0⟩
 else if s.getD 0 0∈ZbZ then .ok ⟨4,0,s.take 1,0⟩ else .err 20
def Z1b (s:Str):Lx:=
 let c:=s.getD 0 0
 if ZfX c then Z5C s else if J9 c then Z4p s else if c=64 then ZaD s else Z0b s
def Z6q (c:UInt8):Bool:=c=9 || c=10 || c=13 || c=32
inductive Tks where
 | err (a c:Int)
 | ok (l:List Tkn)
def Z0v (nl:Str->Nat) (s:Str):Nat->Nat->List Tkn->Tks
 | 0,at_,l=>.ok (l++[⟨0,at_,[],0⟩])
 | f + 1, at_, l=>
   if at_<s.length then
    let rest:=s.drop at_
    let c:=rest.getD 0 0
    if Z6q c then Z0v nl s f (at_+1) l
    else if c=35 then Z0v nl s f (at_+nl rest) l
    else match Z1b rest with
     | .err e=>.err at_ e
     | .ok t=>Z0v nl s f (at_+t.text.length) (l++[{ t with pos:=at_ }])
   else .ok (l++[⟨0,at_,[],0⟩])
structure Zjj (t:Tkn):Prop where
 kind:t.kind≠0
 kinds:1<=t.kind/\t.kind<=4
 text:t.text≠[]
 sp:∀ c∈t.text,c≠32
 word:t.kind=1->t.text.length<=12/\(∀ c∈t.text,ldB c=true)/\ZfX (t.text.getD 0 0)=true
 num:t.kind=2->0<=t.num/\t.num<=2147483647
 day:t.kind=3->0<=t.num/\t.num<=3652058
theorem Z0L {p:UInt8->Bool}:∀ {l:Str} {c:UInt8},c∈l.takeWhile p->p c=true
 | [],c,h=>by simp at h
 | a :: r, c, h => by
   simp only [Ybq] at h;split at h;rename_i ha;rcases Xb.1 h with rfl|h
   exact ha;exact Z0L h;simp at h
theorem Z04 {p:UInt8->Bool}:∀ (l:Str),l.take (l.takeWhile p).length=l.takeWhile p
 | []=>by simp
 | a :: r => by
   simp only [Ybq];split;simp [Z04 r];simp
theorem Zws {c:UInt8} (h:ldB c=true):c≠32:=by rintro rfl;revert h;decide
theorem Zjk {c:UInt8} (h:J9 c=true):c≠32:=by rintro rfl;revert h;decide
theorem Zt4 {c x:UInt8} (h:Z5D c x=true) (hc:c≠32):x≠32:=by
 unfold Z5D at h;split at h;exact Zjk h;simp at h;rw [h];exact hc
theorem ZeY {p:UInt8->UInt8->Bool}:∀ {a s:Str},a.length<=s.length->((a.zip s).all λq=>p q.1 q.2)=true->∀ x∈s.take a.length,∃ c∈a,p c x=true
 | [],s,hl,h,x,hx=>by simp at hx
 | c :: a,[],hl,h,x,hx=>by simp at hl
 | c :: a, y :: s, hl, h, x, hx => by
   simp only [List.zip_cons_cons,Ya6,Xm] at h;simp only [Xe,Ya2,Xb] at hx;rcases hx with rfl|hx
   exact ⟨c,by simp,h.1⟩;obtain ⟨d,hd,h'⟩:=ZeY (by simpa using hl) h.2 x hx;exact ⟨d,by simp [hd],h'⟩
theorem Z39 (y m:Int):ZM y m<=31:=by
 unfold ZM;repeat' split
 all_goals omega
theorem dayM_range {y m d:Int} (hy:1<=y) (eB:y<=9999) (hm:1<=m) (eW:m<=12) (hd:1<=d) (kU:d<=ZM y m):0<=Z08 y m d/\Z08 y m d<=3652058:=by
 have qj:=Z39 y m;have kH:m=1\/m=2\/m=3\/m=4\/m=5\/m=6\/m=7\/m=8\/m=9\/m=10\/m=11\/m=12:=by omega
 unfold Z08;rcases kH with rfl|rfl|rfl|rfl|rfl|rfl|rfl|rfl|rfl|rfl|rfl|rfl<;>simp<;>omega
theorem Zc0 (s:Str):0<=(Z1C s).1/\(Z1C s).1<=3652058:=by
 unfold Z1C;split;simp only;split;simp;rename_i h;simp only [not_or,Int.not_lt] at h;exact dayM_range h.1 h.2.1 h.2.2.1 h.2.2.2.1 h.2.2.2.2.1 h.2.2.2.2.2;simp
theorem Z3Q {s:Str} {t:Tkn} (hs:s≠[]) (bt:s.getD 0 0≠32) (h:Z1b s=.ok t):Zjj t/\t.text.length<=s.length/\t.text=s.take t.text.length:=by
 obtain ⟨a,r,rfl⟩:∃ a r,s=a :: r:=by cases s with|nil=>exact absurd rfl hs|cons a r=>exact ⟨a,r,rfl⟩
 simp only [XZ] at bt;unfold Z1b at h;simp only [XZ] at h;split at h;rename_i hl;unfold Z5C at h;simp only at h;split at h;simp at h;rename_i hn;simp only [Lx.ok.injEq] at h;subst h;have qk:ldB a=true:=by simp [ldB,hl]
 have aU:(a :: r).takeWhile ldB=a :: r.takeWhile ldB:=by simp [qk]
 have ht:=Z04 (p:=ldB) (a :: r);refine ⟨⟨by simp,by simp,?_,?_,λ_=>⟨?_,?_,?_⟩,by simp,by simp⟩,by simp;omega,by simp⟩;simp only;rw [ht,aU];simp;simp only;rw [ht];exact λc hc=>Zws (Z0L hc);simp only;rw [ht];omega;simp only;rw [ht];exact λc hc=>Z0L hc;simp only;rw [ht,aU];simpa using hl;split at h;rename_i hl;unfold Z4p at h;simp only at h;split at h;simp at h;split at h;simp at h;rename_i hn;simp only [Lx.ok.injEq] at h;subst h;have aU:(a :: r).takeWhile J9=a :: r.takeWhile J9:=by simp [hl]
 have ht:=Z04 (p:=J9) (a :: r);have ai:=congrArg List.length ht;simp only [Xx] at ai;refine ⟨⟨by simp,by simp,?_,?_,by simp,λ_=>⟨?_,?_⟩,by simp⟩,?_,?_⟩;simp only;rw [aU];simp;exact λc hc=>Zjk (Z0L hc);simp only;omega;simp only;omega;simp only;omega;exact ht.symm;split at h;rename_i j9;unfold ZaD at h;split at h;simp at h;rename_i me;split at h;rename_i hf;simp only at h;split at h;simp only [Lx.ok.injEq] at h;subst h;have hd:=Zc0 (((a :: r).take 11).drop 1);refine ⟨⟨by simp,by simp,by simp,?_,by simp,by simp,λ_=>hd⟩,by simp;omega,by simp⟩;intro c hc;obtain ⟨x,hx,h'⟩:=ZeY (a:=Ji) (s:=a :: r) (by simp only [Ji,Xe,Xg] at me ⊢;omega) hf c hc;exact Zt4 h' (by revert hx;simp only [Ji];intro hx h0;subst h0;simp at hx);simp at h;simp at h;unfold Z0b at h;split at h;rename_i h2;simp only [Lx.ok.injEq] at h;subst h;refine ⟨⟨by simp,by simp,by simp,?_,by simp,by simp,by simp⟩,by simp;omega,by simp⟩;simp only;intro c hc;rcases h2 with h2|h2|h2<;>rw [h2] at hc<;>(rintro rfl;simp at hc)
 split at h;simp only [Lx.ok.injEq] at h;subst h;refine ⟨⟨by simp,by simp,by simp,?_,by simp,by simp,by simp⟩,by simp,by simp⟩;simp only [Ya2,YbM,Xi];rintro c rfl;exact bt;simp at h
theorem Z3a {nl:Str->Nat} {s:Str} (ax:s.length<=4000):∀ (f at_:Nat) (l l':List Tkn),(∀ t∈l,Zjj t)->(∀ t∈l,t.text.length<=4000)->l.length<=at_->l.length<=s.length->Z0v nl s f at_ l=.ok l'->
 ∃ l1 p,l'=l1++[⟨0,p,[],0⟩]/\(∀ t∈l1,Zjj t)/\(∀ t∈l1,t.text.length<=4000)/\l1.length<=s.length
 | 0, at_, l, l', h1, h2, h3, h4, h => by
   simp only [Z0v,Tks.ok.injEq] at h;exact ⟨l,_,h.symm,h1,h2,h4⟩
 | f + 1, at_, l, l', h1, h2, h3, h4, h => by
   simp only [Z0v] at h;split at h;rename_i hlt;split at h;exact Z3a ax f _ _ _ h1 h2 (by omega) h4 h;split at h;exact Z3a ax f _ _ _ h1 h2 (by omega) h4 h
   . rename_i mY _
     cases hr:Z1b (s.drop at_) with
     | err e=>rw [hr] at h;simp at h
     | ok t=>
       rw [hr] at h;simp only at h;obtain ⟨g1,g2,g3⟩:=Z3Q (s:=s.drop at_) (by simp;omega) (by rintro mZ;rw [mZ] at mY;exact mY (by decide)) hr;have aV:1<=t.text.length:=by
        have:=g1.text;cases ht:t.text with
        | nil=>exact absurd ht this
        | cons a r=>simp
       have ai:t.text.length<=s.length - at_:=by simpa using g2
       refine Z3a ax f _ _ _ ?_ ?_ ?_ ?_ h;intro u hu;rcases Xf.1 hu with hu|hu
       exact h1 u hu;simp only [Xi] at hu;subst hu;exact ⟨g1.kind,g1.kinds,g1.text,g1.sp,g1.word,g1.num,g1.day⟩;intro u hu;rcases Xf.1 hu with hu|hu
       exact h2 u hu;simp only [Xi] at hu;subst hu;simp only;omega;simp;omega;simp;omega
   simp only [Tks.ok.injEq] at h;exact ⟨l,_,h.symm,h1,h2,h4⟩
theorem ZmW {l1:List Tkn} {p:Int} (h1:∀ t∈l1,Zjj t) (h2:∀ t∈l1,t.text.length<=4000) (h3:l1.length<=4000) (h4:∀ t∈l1,t.text∉Z95):Z3P (l1++([⟨0,p,[],0⟩]:List Tkn)):=by
 have hc:∀ i,cur (l1++([⟨0,p,[],0⟩]:List Tkn)) i=⟨0,p,[],0⟩\/cur (l1++([⟨0,p,[],0⟩]:List Tkn)) i=default\/cur (l1++([⟨0,p,[],0⟩]:List Tkn)) i∈l1:=by
  intro i;unfold cur;rw [Xv,List.getElem?_append];split;rename_i h
  right;right;simp [h]
  . cases hk:i - l1.length with
    | zero=>left;simp
    | succ j=>right;left;simp
 refine ⟨by simp,?_,?_,by simp;omega,?_,?_,?_⟩;have:cur (l1++([⟨0,p,[],0⟩]:List Tkn)) ((l1++([⟨0,p,[],0⟩]:List Tkn)).length - 1)=⟨0,p,[],0⟩:=by
  unfold cur;simp
 rw [this];exact ⟨rfl,rfl⟩;intro i hi;have cn:i<l1.length:=by simpa using hi
 have:cur (l1++([⟨0,p,[],0⟩]:List Tkn)) i=l1[i]:=by
  unfold cur;rw [Xv,X3 cn];simp [cn]
 rw [this];have:=h1 _ (Xd cn);exact ⟨this.kind,this.text⟩;intro i c bU;rcases hc i with h|h|h
 rw [h] at bU;simp at bU;rw [h] at bU;simp [default] at bU;exact (h1 _ h).sp c bU;intro i;rcases hc i with h|h|h
 rw [h];simp;rw [h];simp [default];exact h2 _ h;intro i;rcases hc i with h|h|h
 rw [h];exact (by decide:([]:Str)∉Z95);rw [h];exact (by decide:([]:Str)∉Z95);exact h4 _ h
def JV (s:Str) (p:Nat->Bool):Nat->Nat->Nat
 | 0,_=>s.length
 | f+1,i=>if i<s.length then (if p (dec s i).1 then JV s p f (i+(dec s i).2) else i) else s.length
theorem Z9x (s:Str) (p:Nat->Bool):∀ (f i:Nat),JV s p f i<=s.length
 | 0,i=>Xn _
 | f + 1, i => by
   unfold JV;split;split;exact Z9x s p f _;omega;exact Xn _
theorem Z9y (s:Str) (p:Nat->Bool):∀ (f i:Nat),i<=s.length->i<=JV s p f i
 | 0,i,h=>h
 | f + 1, i, h => by
   unfold JV;split;split;by_cases hw:i+(dec s i).2<=s.length;exact Xh (Nat.le_add_right _ _) (Z9y s p f _ hw)
   . have:∀ f j,s.length<j->JV s p f j=s.length:=λf j hj=>by
      cases f with
      | zero=>rfl
      | succ f=>unfold JV;rw [if_neg (by omega)]
     rw [this _ _ (by omega)];omega
   exact Xn _;exact h
theorem Z3b (p:Nat->Bool) (q:UInt8->Bool) (hq:∀ c:UInt8,c.toNat<128->p c.toNat=q c) (hp:∀ n,128<=n->p n=false) (hq2:∀ c:UInt8,128<=c.toNat->q c=false) (s:Str) :
 ∀ (f i:Nat),i<=s.length->s.length<=i+f->JV s p f i=i+((s.drop i).takeWhile q).length
 | 0, i, h1, h2 => by
   have:i=s.length:=by omega
   subst this;simp [JV]
 | f + 1, i, h1, h2 => by
   unfold JV;by_cases hlt:i<s.length;rw [if_pos hlt];have hd:s.drop i=s[i] :: s.drop (i+1):=X6 hlt;rw [hd,Ybq];by_cases ha:(s[i]).toNat<128;rw [Z4o hlt ha];simp only [hq _ ha];split;rw [Z3b p q hq hp hq2 s f (i+1) (by omega) (by omega),Xe];omega;simp;have h3:=(ZbW hlt (by omega)).1;rw [hp _ h3,hq2 _ (by omega)];simp;rw [if_neg hlt];rw [YaA (by omega)];simp;omega
def ZaE (n:Nat):Bool:=decide (97<=n) && decide (n<=122)
def Z6r (n:Nat):Bool:=decide (48<=n) && decide (n<=57)
def Z86 (n:Nat):Bool:=decide (¬ n=10)
def nlM (s:Str):Nat:=JV s Z86 s.length 0
def Z0w (s:Str):Tks:=if 4000<s.length then .err 4000 2 else Z0v nlM s (s.length+1) 0 []
theorem ZfY (s:Str):JV s Z6r s.length 0=(s.takeWhile J9).length:=by
 rw [Z3b Z6r J9 (λc h=>rfl) (λn h=>by unfold Z6r;simp;omega) (λc h=>by unfold J9;simp;omega) s s.length 0 (by omega) (by omega)];simp
theorem Zjl (s:Str):JV s (λn=>ZaE n || Z6r n) s.length 0=(s.takeWhile ldB).length:=by
 rw [Z3b (λn=>ZaE n || Z6r n) ldB (λc h=>rfl) (λn h=>by unfold ZaE Z6r;simp;omega) (λc h=>by unfold ldB ZfX J9;simp;omega) s s.length 0 (by omega) (by omega)];simp
end Go.Eng
namespace Go.Proofs.YtipfkbkkndacjaaGreatDoor
open Go Go.Eng Go.RowKit Go.Proofs
theorem Z87 (c:Nat) (w):CC 219 #[.int .i32 (c:Int)] w λr w'=>r=.B (ZaE c)/\w'=w:=by
 unfold ZaE;refine cW1 9 Tryz.func219 ?_
 (refine QP ?_ ?_<;>intro hg)
 all_goals refine WR ?_
 all_goals refine .mk ⟨?_,rfl⟩
 all_goals congr 1
 all_goals (first|done|(rw [X7];simp;omega)|(simp [*]))
theorem Z4q (c:Nat) (w):CC 221 #[.int .i32 (c:Int)] w λr w'=>r=.B (Z6r c)/\w'=w:=by
 unfold Z6r;refine cW1 9 Tryz.func221 ?_
 (refine QP ?_ ?_<;>intro hg)
 all_goals refine WR ?_
 all_goals refine .mk ⟨?_,rfl⟩
 all_goals congr 1
 all_goals (first|done|(rw [X7];simp;omega)|(simp [*]))
theorem Zt5 (c:Nat) (w):CC 218 #[.int .i32 (c:Int)] w λr w'=>r=.B (Z86 c)/\w'=w:=by
 unfold Z86;refine cW1 5 Tryz.func218 ?_;refine QO ?_;all_goals refine WR ?_
 all_goals refine .mk ⟨?_,rfl⟩
 all_goals congr 1
 all_goals (first|done|(rw [X7];simp;omega)|(simp [*]))
theorem Zt6 (c:Nat) (w):CC 275 #[.int .i32 (c:Int)] w λr w'=>r=.B (ZaE c || Z6r c)/\w'=w:=by
 refine cW1 9 Tryz.func275 ?_;refine W ?_;refine CL (Z87 c _) ?_;rintro _ _ ⟨rfl,rfl⟩;cases ZaE c;refine W ?_;refine CL (Z4q c _) ?_;rintro _ _ ⟨rfl,rfl⟩;refine RT ?_;exact ⟨rfl,rfl⟩;refine RT ?_;exact ⟨rfl,rfl⟩
theorem Z6s {g:Nat} {fn:Func} [hf:Fun Tryz.prog g fn] (p:Nat->Bool) (hg:∀ (c:Nat) (w),CC g #[.int .i32 (c:Int)] w λr w'=>r=.B (p c)/\w'=w) (s:Str) (w) (hl:s.length<=1000000) :
 CC 217 #[str s,.func (.func g) #[] #[]] w λr w'=>r=.I (JV s p s.length 0:Int)/\Stp [] w w':=by
 refine cW2 20 Tryz.func217 ?_;refine W ?_;refine Z0 (ZbX rfl) rfl ?_;rintro _ w1 ⟨b,rfl,hb,hI,hS⟩;refine W ?_;refine Zu (σ:=Nat×Nat) (λq=>[(0,str s),(1,.func (.func g) #[] #[]),(8,pQ b)]) (λq w'=>Itr w' b s q.2/\Stp [] w w'/\JV s p q.1 q.2=JV s p s.length 0/\s.length<=q.2+q.1) (λq=>q.1+1 - (if q.2<s.length then 0 else 1)) (s.length,0) ⟨rfl,rfl,rfl,trivial⟩ ⟨hI,hS,rfl,by omega⟩ ?_;rintro ⟨f,i⟩ w2 ⟨hI,hS,he,dW⟩;dsimp only at hI hS he dW ⊢;generalize JV s p s.length 0=R at he ⊢;by_cases hlt:i<s.length;obtain ⟨f,rfl⟩:∃ f',f=f'+1:=⟨f - 1,by omega⟩
 have hd:=ZmV hlt;unfold JV at he;rw [if_pos hlt] at he;refine W ?_;refine Z0 (ZeX rfl hI hlt) rfl ?_;rintro _ w3 ⟨rfl,vg,hT⟩;replace hS:=hS.ow hT;refine W ?_;refine CL (hg _ _) ?_;rintro _ _ ⟨rfl,rfl⟩;cases tg:p (dec s i).1;rw [tg] at he;refine W ?_;refine WR ?_;simp only [XS,if_false] at he;exact .mk ⟨by rw [<- he];rfl,hS⟩
 . rw [tg] at he
   refine W ?_;refine Zx (f,i+(dec s i).2) ⟨rfl,rfl,rfl,trivial⟩ ⟨vg,hS,he,by dsimp only;omega⟩ ?_;dsimp only;repeat' split
   all_goals omega
 . refine W ?_
   refine Z0 (Z85 rfl hI hlt) rfl ?_;rintro _ _ ⟨rfl,rfl⟩;refine W ?_;refine WR ?_;refine .mk ⟨?_,hS⟩;rw [<- he];cases f with
   | zero=>rfl
   | succ f=>unfold JV;rw [if_neg hlt]
end Go.Proofs.YtipfkbkkndacjaaGreatDoor
namespace Go.Eng
open Go Go.RowKit Go.Proofs
inductive Ps where
 | err (a c:Int)
 | ok (l:List RuleM)
def Z3c (s:Str):Ps:=
 match Z0w s with
 | .err a c=>.err a c
 | .ok l => match Z2B l (l.length + 1) [] 0 0 with
   | .err a c=>.err a c
   | .ok rs _ _=>.ok rs
def Z5E (d:Nat):Nat:=(d - d / 1460+d / 36524 - d / 146096) / 365
def Z6t (y:Nat):Nat:=365 * y+y / 4 - y / 100
def Zjm (y:Nat):Bool:=Nat.beq (y % 4) 0 && (!(Nat.beq (y % 100) 0) || Nat.beq (y % 400) 0)
def Zt7 (d:Nat):Bool:=Nat.ble 146097 d || (Nat.ble (Z6t (Z5E d)) d && (Nat.blt d (Z6t (Z5E d)+365) || (Nat.beq d (Z6t (Z5E d)+365) && Zjm (Z5E d+1))))
def Zjn:Nat->Nat->Bool
 | 0,lo=>Zt7 lo
 | k+1,lo=>Zjn k lo && Zjn k (lo+2 ^ k)
theorem Z6u:∀ (k lo d:Nat),Zjn k lo=true->lo<=d->d<lo+2 ^ k->Zt7 d=true
 | 0, lo, d, h, h1, h2 => by
   have:d=lo:=by simp at h2;omega
   subst this;exact h
 | k + 1, lo, d, h, h1, h2 => by
   simp only [Zjn,Xm] at h;rw [Ybs] at h2;rcases Yay d (lo+2 ^ k) with h3|h3
   exact Z6u k lo d h.1 h1 h3;exact Z6u k (lo+2 ^ k) d h.2 h3 (by omega)
theorem Zjo:Zjn 18 0=true:=by kernel_rfl
theorem Zjp (y:Nat):Zjm y=Z16 (y:Int):=by
 unfold Zjm Z16;have h:∀ a b:Nat,Nat.beq (a % b) 0=decide ((a:Int) % (b:Int)=0):=λa b=>by
  rw [X7];simp only [decide_eq_true_eq];rw [Nat.beq_eq];omega
 rw [show Nat.beq (y % 4) 0=decide ((y:Int) % 4=0) from h y 4,show Nat.beq (y % 100) 0=decide ((y:Int) % 100=0) from h y 100,show Nat.beq (y % 400) 0=decide ((y:Int) % 400=0) from h y 400];simp
structure Dat where
 y:Int
 m:Int
 d:Int
def ofM (day:Int):Dat:=
 let z:=day+306
 let era:=z / 146097
 let doe:=z % 146097
 let yoe:=(doe - doe / 1460+doe / 36524 - doe / 146096) / 365
 let doy:=doe - (365 * yoe+yoe / 4 - yoe / 100)
 let m:=(5 * doy+2) / 153
 if m>=10 then ⟨yoe+400 * era+1,m - 9,doy - (153 * m+2) / 5+1⟩ else ⟨yoe+400 * era,m+3,doy - (153 * m+2) / 5+1⟩
theorem Zjq:∀ q:Nat,q<366->(5 * q+2) / 153<=11/\(153 * ((5 * q+2) / 153)+2) / 5<=q/\
 q - (153 * ((5 * q+2) / 153)+2) / 5+1<=(if (5 * q+2) / 153=11 then (if q=365 then 29 else 28) else if (5 * q+2) / 153=1\/(5 * q+2) / 153=3\/(5 * q+2) / 153=6\/(5 * q+2) / 153=8 then 30 else 31):=by decide +kernel
theorem Zjr (doe:Int) (h0:0<=doe) (h1:doe<146097):∃ yoe doy:Nat,(doe - doe / 1460+doe / 36524 - doe / 146096) / 365=(yoe:Int)/\doe - (365 * (yoe:Int)+(yoe:Int) / 4 - (yoe:Int) / 100)=(doy:Int)/\yoe<=399/\doy<=365/\(doy=365->Z16 ((yoe:Int)+1)=true):=by
 obtain ⟨d,rfl⟩:∃ d:Nat,doe=(d:Int):=⟨doe.toNat,by omega⟩
 have hd:d<146097:=by omega
 have h:=Z6u 18 0 d Zjo (by omega) (by omega);unfold Zt7 at h;rw [show Nat.ble 146097 d=false by rw [YaZ];simp;omega] at h;simp only [Ybz,Xm,Yax,Nat.ble_eq,Nat.beq_eq] at h;obtain ⟨h2,h3⟩:=h;have hy:((d:Int) - (d:Int) / 1460+(d:Int) / 36524 - (d:Int) / 146096) / 365=((Z5E d:Nat):Int):=by unfold Z5E;omega
 have ql:Z5E d<=399:=by unfold Z5E;omega
 have aA:(Z6t (Z5E d):Int)=365 * (Z5E d:Int)+(Z5E d:Int) / 4 - (Z5E d:Int) / 100:=by unfold Z6t;omega
 refine ⟨Z5E d,d - Z6t (Z5E d),hy,by omega,ql,?_,λh4=>?_⟩;rcases h3 with h3|h3
 have:=XX h3;omega;have:=h3.1;omega;rcases h3 with h3|h3
 have:=XX h3;omega;have:=h3.2;rw [Zjp] at this;exact this
theorem ZfZ (y e:Int):Z16 (y+400 * e)=Z16 y:=by
 unfold Z16;have h4:(y+400 * e) % 4=y % 4:=by omega
 have jp:(y+400 * e) % 100=y % 100:=by omega
 have qm:(y+400 * e) % 400=y % 400:=by omega
 rw [h4,jp,qm]
theorem ZaF {n:Int} (h0:0<=n) (h1:n<=3652058):1<=(ofM n).y/\(ofM n).y<=9999/\1<=(ofM n).m/\(ofM n).m<=12/\1<=(ofM n).d/\(ofM n).d<=ZM (ofM n).y (ofM n).m/\Z08 (ofM n).y (ofM n).m (ofM n).d=n:=by
 obtain ⟨yoe,doy,e1,e2,hy,hd,hl⟩:=Zjr ((n+306) % 146097) (by omega) (by omega);obtain ⟨m1,m2,m3⟩:=Zjq doy (by omega);have vh:(n+306) / 146097 * 146097+(n+306) % 146097=n+306:=by omega
 unfold ofM;simp only;rw [e1,e2];have em:(5 * (doy:Int)+2) / 153=(((5 * doy+2) / 153:Nat):Int):=by omega
 rw [em];have ek:(153 * (((5 * doy+2) / 153:Nat):Int)+2) / 5=(((153 * ((5 * doy+2) / 153)+2) / 5:Nat):Int):=by omega
 rw [ek];generalize (n+306) / 146097=era at *;generalize (n+306) % 146097=doe at *;have th:∀ m:Nat,m<=11->(153 * (m:Int)+2) / 5=(((153 * m+2) / 5:Nat):Int):=λm _=>by omega
 generalize hm:(5 * doy+2) / 153=m at *;have q4:((yoe:Int)+400 * era) / 4=(yoe:Int) / 4+100 * era:=by omega
 have q100:((yoe:Int)+400 * era) / 100=(yoe:Int) / 100+4 * era:=by omega
 have q400:((yoe:Int)+400 * era) / 400=era:=by omega
 by_cases gN:((m:Nat):Int)>=10;rw [if_pos gN];simp only;have jq:Z08 ((yoe:Int)+400 * era+1) ((m:Int) - 9) ((doy:Int) - (((153 * m+2) / 5:Nat):Int)+1)=n:=by
  unfold Z08;rw [if_pos (by omega)];simp only;rw [show (yoe:Int)+400 * era+1 - 1=(yoe:Int)+400 * era by omega,show (m:Int) - 9+9=(m:Int) by omega,th m m1,q4,q100,q400];omega
 refine ⟨?_,?_,by omega,by omega,by omega,?_,jq⟩;omega;omega;have kH:m=10\/m=11:=by omega
 rcases kH with rfl|rfl
 unfold ZM;rw [if_neg (by omega),if_neg (by omega),if_neg (by omega)];rw [if_neg (by omega),if_neg (by omega)] at m3;omega;unfold ZM;rw [if_neg (by omega),if_pos (by omega)];rw [if_pos rfl] at m3;by_cases kV:doy=365;rw [if_pos kV] at m3;have gB:Z16 ((yoe:Int)+400 * era+1)=true:=by
  rw [show (yoe:Int)+400 * era+1=((yoe:Int)+1)+400 * era by omega,ZfZ];exact hl kV
 rw [gB];simp only [if_true];omega;rw [if_neg kV] at m3;split<;>omega
 rw [if_neg gN];simp only;have jq:Z08 ((yoe:Int)+400 * era) ((m:Int)+3) ((doy:Int) - (((153 * m+2) / 5:Nat):Int)+1)=n:=by
  unfold Z08;rw [if_neg (by omega)];simp only;rw [show (m:Int)+3 - 3=(m:Int) by omega,th m m1,q4,q100,q400];omega
 refine ⟨?_,?_,by omega,by omega,by omega,?_,jq⟩;omega;omega;unfold ZM;rw [if_neg (by omega),if_neg (by omega)];rw [if_neg (by omega)] at m3;split at m3;rw [if_pos (by omega)];omega;rw [if_neg (by omega)];omega
theorem Z4U:∀ (k u:Nat),u<10 ^ (k+1)->(Lib.decDigits u).length<=k+1
 | 0,u,h=>by rw [Lib.decDigits,dif_pos (by simpa using h)];simp
 | k + 1, u, h => by
   rw [Lib.decDigits];split;simp;have:=Z4U k (u / 10) (by rw [Ybs] at h;omega);simp;omega
def Z1c (y:Int):Int:=365 * (y - 1)+(y - 1) / 4 - (y - 1) / 100+(y - 1) / 400
def Z2i (y:Int):Nat->Int
 | 0=>0
 | k+1=>Z2i y k+ZM y ((k:Int)+1)
theorem Z9z (y:Int):Z16 y=true↔(y % 4=0/\(¬ y % 100=0\/y % 400=0)):=by
 unfold Z16;simp
theorem Z71 (y:Int):Z1c (y+1)=Z1c y+(if Z16 y=true then 366 else 365):=by
 unfold Z1c;have h:=Z9z y;by_cases hl:Z16 y=true;rw [if_pos hl];have:=h.1 hl;omega;rw [if_neg hl];have:¬ (y % 4=0/\(¬ y % 100=0\/y % 400=0)):=λh'=>hl (h.2 h');omega
theorem Z3R {a b:Int} (h:a<=b):Z1c a<=Z1c b:=by
 unfold Z1c;omega
theorem Z2o {y:Int} {k:Nat} (hk:k<12):28<=ZM y ((k:Int)+1):=by
 unfold ZM;rw [if_neg (by omega)];repeat' split
 all_goals omega
theorem ZmX (y:Int):∀ k:Nat,k<=11->Z2i y k=(if k<2 then 31 * (k:Int) else (if Z16 y=true then 1 else 0)+(153 * ((k:Int) - 2)+2) / 5+59):=by
 intro k hk;have:k=0\/k=1\/k=2\/k=3\/k=4\/k=5\/k=6\/k=7\/k=8\/k=9\/k=10\/k=11:=by omega
 rcases this with rfl|rfl|rfl|rfl|rfl|rfl|rfl|rfl|rfl|rfl|rfl|rfl<;>simp [Z2i,ZM]<;>cases Z16 y<;>simp
theorem Zwt (y:Int):Z2i y 12=if Z16 y=true then 366 else 365:=by
 simp [Z2i,ZM];cases Z16 y<;>simp
theorem Z2K (y d:Int) (k:Nat) (hk:k<=11):Z08 y ((k:Int)+1) d=Z1c y+Z2i y k+d - 1:=by
 rw [ZmX y k hk];unfold Z08;by_cases h2:k<2;rw [if_pos h2,if_pos (by omega)];simp only;unfold Z1c;omega;rw [if_neg h2,if_neg (by omega)];simp only;have h:=Z71 y;have hl:=Z9z y;have e:(153 * ((k:Int)+1 - 3)+2) / 5=(153 * ((k:Int) - 2)+2) / 5:=by congr 2;omega
 rw [e];generalize (153 * ((k:Int) - 2)+2) / 5=z;have e2:Z1c (y+1)=365 * y+y / 4 - y / 100+y / 400:=by unfold Z1c;omega
 rw [e2] at h;by_cases dX:Z16 y=true;rw [if_pos dX] at h ⊢;omega;rw [if_neg dX] at h ⊢;omega
theorem Z4r {y:Int}:∀ {a b:Nat},a<=b->b<=12->Z2i y a<=Z2i y b
 | a, 0, h, _ => by obtain rfl : a = 0 := by omega
                    exact XQ _
 | a, b + 1, h, h2 => by
   by_cases e:a=b+1;subst e;exact XQ _;have:=Z4r (y:=y) (a:=a) (b:=b) (by omega) (by omega);have:=Z2o (y:=y) (k:=b) (by omega);simp only [Z2i];omega
theorem Zjs (k:Nat) (h:0<k):Lib.decDigits k=(if k / 10=0 then [] else Lib.decDigits (k / 10))++[UInt8.ofNat (48+k % 10)]:=by
 rw [Lib.decDigits];by_cases gN:k<10;rw [dif_pos gN,if_pos (by omega)];simp [Nat.mod_eq_of_lt gN];rw [dif_neg gN,if_neg (by omega)]
theorem Zg0 (d:Nat) (h:d<10):(([48,49,50,51,52,53,54,55,56,57]:Str).take (d+1)).drop d=[UInt8.ofNat (48+d)]:=by
 have:d=0\/d=1\/d=2\/d=3\/d=4\/d=5\/d=6\/d=7\/d=8\/d=9:=by omega
 rcases this with rfl|rfl|rfl|rfl|rfl|rfl|rfl|rfl|rfl|rfl<;>rfl
variable {P:Program} {n:Nat} {e:Env} {w:World} {d:Option Nat} {ty:TypeId} {pos:String} {af:Array Edge} {g:Option (Nat×Bool)}
theorem ZaG {x:Operand} {t:TypeId} {el:TypeId} [hu:Und P t (.slice el)] {p:Option Addr} {l c:Nat} (hx:ev e x=some (.slice p l c)) :
 PR P n ⟨d,.call { callee:=.builtin .cap,args:=#[x],argTypes:=#[t] },ty,pos,af,g⟩ e w (.I (c:Int)):=
 ⟨λa ha => by
   have:=run_cap_slice (P:=P) w t ty p l c (by rw [hu.h,Program.elem,hu.h]);simp [execOp,resolve,invoke,builtin,ha.ev hx,this,goInt]⟩
theorem Z88 {t el k:Nat} {x hi:Operand} {l c:Nat} [hu:Und P t (.slice el)] [hk:Siz P el k] (hx:ev e x=some (.slice none l c)) (hb:ev e hi=some (.I 0)) :
 PR P n ⟨d,.slice t x none (some hi) none,ty,pos,af,g⟩ e w (.slice none 0 c):=by
 refine ⟨λact eV=>?_⟩;simp [execOp,eV.ev hx,eV.ev hb,Instr.sliceAt,run_underlying hu.h,Instr.slice,Instr.sliceBounds,Instr.sliceBound,asIntOf,Siz.run]
theorem Z9A {t el k:Nat} {x hi:Operand} {b o:Nat} {l c:Nat} [hu:Und P t (.slice el)] [hk:Siz P el k] (hx:ev e x=some (.slice (some ⟨b,o,none⟩) l c)) (hb:ev e hi=some (.I 0)) :
 PR P n ⟨d,.slice t x none (some hi) none,ty,pos,af,g⟩ e w (.slice (some ⟨b,o,none⟩) 0 c):=by
 refine ⟨λact eV=>?_⟩;simp [execOp,eV.ev hx,eV.ev hb,Instr.sliceAt,run_underlying hu.h,Instr.slice,Instr.sliceBounds,Instr.sliceBound,asIntOf,Siz.run,Addr.add_lit]
theorem ZmY {t tn T bytes k:Nat} {kn:IntKind} {x y:Operand} {z:Value} [ht:Und P t (.slice T)] [hn:Und P tn (.int kn)] [hk:Siz P T 1] [hb:Byt P T bytes] [hz:Zer P T z] (fR:z.cells.size=1)
 (hx:ev e x=some (.N)) (hy:ev e y=some (.I (k:Int))) (h0:0<k) (gQ:k<=maxLen) (hbytes:k * bytes<=140737488355328) :
 OE P n ⟨d,.call { callee:=.builtin .append,args:=#[x,y],argTypes:=#[t,tn] },ty,pos,af,g⟩ e w
  (λv w'=>∃ c,v=.slice (some ⟨w.heap.size,0,none⟩) k c/\w'.ownsRow w.heap.size T 1 (.slice (some ⟨w.heap.size,0,none⟩) 0 c) 0 []/\Stp [] w w'):=by
 obtain ⟨i,hi,bO,cn,fB⟩:∃ i,P.info? T=some i/\i.size=1/\i.bytes=bytes/\i.zero=some z:=by
  have a1:=hk.h;have a2:=hb.h;have a3:=hz.h;cases hi:P.info? T with
  | none=>simp [hi] at a1
  | some i=>exact ⟨i,rfl,by simpa [hi] using a1,by simpa [hi] using a2,by simpa [hi] using a3⟩
 have bj:=Go.Lib.run_append_nil_zeros (P:=P) w t tn ty T i z .i64 kn ht.h hn.h hi fB k h0 (by omega) (by simp [maxLen] at gQ;omega) (by rw [cn];omega);have ke:=grownCap_ge w k 0 T;have bG:(Builtin.zeroCells z.cells k++Builtin.zeroCells z.cells (grownCap w k 0 T - k)).size=grownCap w k 0 T * 1:=by
  rw [Array.size_append,size_zeroCells,size_zeroCells,fR];omega
 refine Jf (v:=.slice (some ⟨w.heap.size,0,none⟩) k (grownCap w k 0 T)) (w':=w.drew.alloc (.cells (Builtin.zeroCells z.cells k++Builtin.zeroCells z.cells (grownCap w k 0 T - k)) T)) (λa ha=>?_) ⟨_,rfl,World.ownsRow_made w.drew _ _ (Xn _) (grownCap_le_maxLen w k 0 T gQ) bG,(Stp.drew [] w).trans (Stp.alloc [] _ _)⟩;simp [execOp,resolve,invoke,builtin,ha.ev hx,ha.ev hy,bj]
variable {P:Program} {n:Nat} {e:Env} {w:World} {d:Option Nat} {ty:TypeId} {pos:String} {af:Array Edge} {g:Option (Nat×Bool)}
theorem Z3v (k:Nat) (u:Value):(List.replicate k [u]).flatten=List.replicate k u:=by
 induction k with
 | zero=>rfl
 | succ k ih=>rw [Ya4,Yaj,ih];rfl
theorem Z1l {α:Type} [Z5 α] {t T bytes k:Nat} {x y:Operand} {z u:Value} {a0:α} [ht:Und P t (.slice T)] [hk:Siz P T 1] [hb:Byt P T bytes] [hz:Zer P T z] (bH:Z5.k α=1) (vi:z.cells=#[u]) (fi:∀ (X:List Nat) (w),Z5.rep X w a0 [u])
 (hx:ev e x=some (.I (k:Int))) (hy:ev e y=some (.I (k:Int))) (gQ:k<=maxLen) (hbytes:bytes * k<=281474976710656) :
 OE P n ⟨d,.makeSlice t x y,ty,pos,af,g⟩ e w (λv w'=>(∀ X,Row X w' w.heap.size T v (List.replicate k a0))/\Stp [] w w'):=by
 obtain ⟨i,hi,bO,cn,fB⟩:∃ i,P.info? T=some i/\i.size=1/\i.bytes=bytes/\i.zero=some z:=by
  have a1:=hk.h;have a2:=hb.h;have a3:=hz.h;cases hi:P.info? T with
  | none=>simp [hi] at a1
  | some i=>exact ⟨i,rfl,by simpa [hi] using a1,by simpa [hi] using a2,by simpa [hi] using a3⟩
 obtain ⟨w',bj,cb,qn⟩:=run_make_full (P:=P) w w.heap.size t T i z 1 ht.h hi fB bO .i64 .i64 k (by rw [cn];exact hbytes) gQ (Xn _);rw [vi,YaQ,toList_madeCells_one] at cb;refine Jf (v:=.slice (some ⟨w.heap.size,0,none⟩) k k) (w':=w') (λa ha=>?_) ⟨λX=>⟨List.replicate k [u],by simp,λj hj gk=>?_,?_⟩,Stp.of_grown qn⟩;simp [execOp,ha.ev hx,ha.ev hy,bj];rw [List.getElem_replicate,List.getElem_replicate];exact fi _ _;rw [Z3v,bH,List.length_replicate];exact cb
section
variable {P:Program} {n:Nat} {e:Env} {d:Option Nat} {ty:TypeId} {pos:String} {af:Array Edge} {g:Option (Nat×Bool)}
variable {α:Type} [Z5 α] {X:List Nat} {w w':World} {base T:Nat} {v:Value} {xs:List α}
theorem Z3S {i k:Nat} {t:TypeId} {x y:Operand} {u:Value} {y':α} [bG:Siz P t k] (hx:ev e x=some (.pointer (some (ZD v i k 0)))) (hy:ev e y=some u) (hk:k=Z5.k α)
 (bN:Z5.rep (ob v++X) w y' u.cells.toList) (ab:Row X w base T v xs) (hi:i<xs.length) :
 OE P n ⟨d,.store t x y,ty,pos,af,g⟩ e w (λ_ w'=>Row X w' base T v (xs.set i y')/\Stp (ob v) w w'):=by
 have dq:=ab;obtain ⟨css,hl,hr,ho⟩:=ab;have ai:∀ c∈css,c.length=Z5.k α:=by
  intro c hc;obtain ⟨q,hq,rfl⟩:=Xr hc;exact Z5.len (hr q (by omega) hq)
 rcases ho.2 with ⟨rfl,hn⟩|⟨q,cap,cur,rfl,hb,hg,cO,bU,bh,ht⟩
 omega;subst hk;have ew:u.cells.toList.length=Z5.k α:=Z5.len bN;have db:i * Z5.k α+u.cells.toList.length<=cur.size:=by
  rw [ew,bh,<- Yac];exact Xo _ (by omega)
 have aA:=run_storeCells_at P q (i * Z5.k α) T u.cells.toList 0 cur w hg (by simpa using db) (Z5.one bN);simp only [Ybr] at aA;have d8:u.cells.size=Z5.k α:=by simpa using ew
 have jj:Stp [q] w (w.setRow q (cur.toList.take (i * Z5.k α)++u.cells.toList++cur.toList.drop (i * Z5.k α+u.cells.toList.length)).toArray):=Z1S _ _ _;refine Z4i (w':=w.setRow q (cur.toList.take (i * Z5.k α)++u.cells.toList++cur.toList.drop (i * Z5.k α+u.cells.toList.length)).toArray) (λa ha=>?_) ⟨⟨css.set i u.cells.toList,by simp [hl],λj hj gk=>?_,?_,.inr ⟨q,cap,_,by simp,hb,setRow_heap w q cur _ T (0,0) hg,by simpa using cO,bU,?_,?_⟩⟩,jj⟩;have dw:ZD (.slice (some ⟨q,0,none⟩) xs.length cap) i (Z5.k α) 0=⟨q,i * Z5.k α,none⟩:=by simp [ZD]
 rw [dw] at hx;simp [execOp,ha.ev hx,ha.ev hy,Instr.storeAt,Instr.sureAddr,storeVar,Siz.run,d8,aA];have ae:∀ b∈[q],b∈ob (.slice (some ⟨q,0,none⟩) xs.length cap)++X:=by simp [ob]
 by_cases dC:i=j;subst dC;simp only [Ybh];exact Z5.ext bN jj ae (λb hb=>.inl hb);simp only [YaL dC];exact Z5.ext (hr j (by simpa using hj) (by simpa using gk)) jj ae (λb hb=>.inl hb);rw [Z1n css ai i (by omega)];have h1:=ho.1;simp only [Xc,Xx,Yaq,X8,ew,h1];have:(i+1) * Z5.k α<=xs.length * Z5.k α:=Xo _ (by omega);rw [Yac] at this;omega;simp only [Yaw,Xc,Xx,Yaq,Yal,ew,bh];rw [ew,bh] at db;omega;rw [Z1n css ai i (by omega),<- ht];have h2:(i+1) * Z5.k α<=xs.length * Z5.k α:=Xo _ (by omega);rw [Yac] at h2;have h3:i * Z5.k α<=cur.toList.length:=by simp [bh];exact Xh (by omega) (Xo _ cO)
 simp only [X8,ew];rw [YaB,YaB,YaE,YaE,Ybt];simp only [Xc,Xx,ew];rw [Yag h3,XL (l:=u.cells.toList) (by rw [ew];omega)];rw [YbB (by omega:i * Z5.k α<=xs.length * Z5.k α),Yag (by omega:i * Z5.k α<=xs.length * Z5.k α)]
end
section
variable {P:Program} {n:Nat} {Q:Exit->Act->World->Prop} {e:Env} {w:World}
theorem Zg1 {id:Nat} {l:List Oper} (m:Nat) (S:List Nat) (Lt:List Nat) (ord:List (Nat×Nat)) (cp:l.length=m) (hm:P.follows .mixedOrders=true) (hs:Region.noSelect l.toArray=true) (hl:Nat.beq (wt ord) l.length=true)
 (hB:J5 l.toArray Lt ord (Array.replicate m false)=true)
 (h:∀ w',Stp [] w w'->w'.heap.size=w.heap.size->WD P n l.toArray S Lt Q ord e w'):WC P n (.region id l.toArray true) Q e w:=by
 subst cp;refine ⟨λa ha=>wp_region_any hm ?_⟩;have h1:=(h { w with drawn:=w.drawn+1 } (Stp.drew [] w) rfl).h _ hs hB a ha;have h2:=Z0S (Q:=Q) (λa w hz=>hz) _ _ _ _ h1;rw [XN hl] at h2;simpa using h2
def ZmZ (w:World) (T:TypeId) (cs:List Value) (v:Value) (w':World):Prop:=v=.pointer (some ⟨w.heap.size,0,none⟩)/\Blk w' w.heap.size T cs/\Stp [] w w'
theorem Zg2 {d:Option Nat} {ty:TypeId} {pos:String} {af:Array Edge} {g:Option (Nat×Bool)} {t:TypeId} {z:Value} [hz:Zer P t z]:OE P n ⟨d,.alloc t,ty,pos,af,g⟩ e w (ZmZ w t z.cells.toList):=by
 refine Jf (v:=.pointer (some ⟨w.heap.size,0,none⟩)) (w':=w.alloc (.cells z.cells t)) (λa ha=>?_) ?_;simp [execOp,Instr.alloc,Zer.run,newVar,newRow,newObj];rfl;have h:=Zam w t z.cells.toList;obtain ⟨b,hb,cu,h1,h2⟩:=h;simp only [Value.pointer.injEq,XH,Addr.mk.injEq] at hb;obtain ⟨rfl,-⟩:=hb;exact ⟨rfl,by simpa using h1,by simpa using h2⟩
theorem ZdU {o:Oper} {a:Act} {w} {K K':Act->World->Prop} {Q':Exit->Act->World->Prop} (h:∀ a w,K a w->K' a w) (hq:∀ ex a w,Q' ex a w->Q ex a w)
 (hh:o.wp P a w K Q'):o.wp P a w K' Q:=by
 unfold Oper.wp at *;generalize (execOp a.eval o).run P w=r at *;cases r with
 | ok n w'=>
   cases n<;>simp only [Oper.upon] at hh ⊢ <;>
    first
     | exact h _ _ hh
     | exact Calls.mono hh (λe w'' he=>by cases e<;>first|exact h _ _ he|exact hq _ _ _ he|exact he.elim (λa h=>h.elim (λw h=>⟨a,w,hq _ _ _ h⟩)))
     | exact Rows.mono hh (λ_ _ he=>h _ _ he)
 | halt x w'=>cases x<;>simp only [Oper.upon] at hh ⊢<;>first|exact hq _ _ _ hh|exact hh
theorem wpList_monoQ {ops:Array Oper} {Q':Exit->Act->World->Prop} (hq:∀ ex a w,Q' ex a w->Q ex a w):∀ (l:List Oper) (a:Act) (w),wpList P ops Q' l a w->wpList P ops Q l a w
 | [],a,w,h=>hq _ _ _ h
 | o :: rest, a, w, h => by
   unfold wpList at h ⊢;split;rename_i hw;rw [if_pos hw] at h;rcases h with h|⟨h1,a',w',h2⟩
   exact .inl (ZdU (λa w h=>wpList_monoQ hq rest a w h) hq h);exact .inr ⟨h1,a',w',hq _ _ _ h2⟩;rename_i hw;rw [if_neg hw] at h;exact wpList_monoQ hq rest _ _ h
theorem WL_cutQ {y:Code} {σ:Type} {ops:Array Oper} {l:List Oper} (env:σ->Env) (I:σ->World->Prop)
 (h:WL P n ops (Exit.then (λa w=>∃ s,Has n (env s) a/\I s w) Q) l e w) (k:∀ s w,I s w->WC P n y Q (env s) w):WL P n ops (Exit.then (λa w=>y.wp P Q a w) Q) l e w:=
 ⟨λa ha => wpList_monoQ (λex a w hq => by
   cases ex with
   | normal=>obtain ⟨s,h1,h2⟩:=hq;exact (k s w h2).h a h1
   | _=>exact hq) l a w (h.h a ha)⟩
end
open Go Go.RowKit Go.Proofs Go.ChangeShapes Go.WideShapes Go.Deep
section
variable {H:Type} {enc:TypeId×Value->H} {P:Program} {w:World} {base:Nat} {spare:Nat->Bool} {bK:Bool}
theorem Z5F (b o n:Nat):(⟨b,o,none⟩:Addr).add n=⟨b,o+n,none⟩:=by
 unfold Addr.add;split;rename_i h;subst h;rfl;rfl
def Zg3:DataW H->Nat
 | .slice els _=>els.length
 | _=>0
theorem Z3T {α:Type} [Z3 α] {ok:α->Prop} {t e:TypeId} {fuel:Nat} {cs:List Value} {x:DataW H×List MemPlace} (ht:P.underlying t=some (.slice e)) (hC:P.cellsOf e=Z3.k α) (aV:0<Z3.k α)
 (iC:∀ n cs' y,cs'.length=Z3.k α->DataW.trod enc P w base spare bK n e cs'=some y->∃ a:α,cs'=Z3.enc a/\ok a)
 (h:DataW.trod enc P w base spare bK fuel t cs=some x):∃ (v:Value) (xs:List α),cs=[v]/\SlV [] w v xs/\(∀ a∈xs,ok a)/\Zg3 x.1=xs.length:=by
 rcases open_slice ht h with ⟨rfl,rfl⟩|⟨a,len,cap,m,n,D,Pl,rfl,hb,hl,hm,eC,hx,hi⟩
 exact ⟨_,[],rfl,⟨none,0,rfl,Xn _,by simp [maxLen],λ_=>rfl,λi h=>absurd h (Xs _)⟩,by simp,rfl⟩;have cp:len<=m:=by rw [eC];split<;>omega
 have aU:∀ y:α,∃ u,(Z3.enc y)[0]?=some u:=λy=>⟨_,XD (by rw [Z3.len y];exact aV)⟩
 have aB:∀ i:Fin len,∃ y:α,ok y/\∀ j u,(Z3.enc y)[j]?=some u->w.cell? (a.add (i * Z3.k α+j))=some u:=by
  intro i;obtain ⟨cs',hc,m0⟩:=hi i (by omega);rw [hC] at hc;obtain ⟨_,bZ,gh⟩:=World.cells?_some hc;obtain ⟨y,rfl,aO⟩:=iC n cs' _ bZ m0;refine ⟨y,aO,λj u hu=>?_⟩;have hj:j<Z3.k α:=by
   have:=(Xu.1 hu).1;rw [Z3.len] at this;exact this
  have:=gh j hj;rw [hu] at this;rw [<- this,Go.Deep.add_add]
 let f:Fin len->α:=λi=>(aB i).choose
 have hf:∀ i:Fin len,ok (f i)/\∀ j u,(Z3.enc (f i))[j]?=some u->w.cell? (a.add (i * Z3.k α+j))=some u:=λi=>(aB i).choose_spec;refine ⟨_,List.ofFn f,rfl,⟨some a,cap,by simp,by simpa using hl,hm,by simp,λi cA=>?_⟩,λy hy=>?_,by rw [hx];simp [Zg3]⟩;have iD:i<len:=by simpa using cA
 have ti:=(hf ⟨i,iD⟩).2;obtain ⟨u1,tj⟩:∃ u,(Z3.enc (f ⟨0,by omega⟩))[0]?=some u:=aU _;have bR:=(hf ⟨0,by omega⟩).2 0 u1 tj;obtain ⟨u0,qo⟩:∃ u,(Z3.enc (f ⟨i,iD⟩))[0]?=some u:=aU _;have gI:=ti 0 u0 qo;have bt:a.spot=none:=by
  have e0:a.add ((⟨0,by omega⟩:Fin len).val * Z3.k α+0)=a:=by simp [Addr.add]
  rw [e0] at bR;unfold World.cell? at bR;split at bR
  . cases hs:a.spot with
    | none=>rfl
    | some s=>simp [hs] at bR
  cases bR
 obtain ⟨b,o,sp⟩:=a;cases bt;refine ⟨b,o,Z3.enc (f ⟨i,iD⟩),rfl,?_,by simp,?_,λj u hu=>?_⟩;have:=block_lt_of_cell (a:=(⟨b,o,none⟩:Addr).add (i * Z3.k α+0)) gI;simpa [Z5F] using this;simp;rfl;have:=ti j u hu;rw [Z5F] at this;rw [show o+i * Z5.k α+j=o+(i * Z3.k α+j) from Yat _ _ _];exact this;obtain ⟨i,rfl⟩:=List.mem_ofFn.1 hy;exact (hf i).1
theorem Z89 {e:TypeId} {fs:Array Field} {fuel:Nat} {cs:List Value} {x:DataW H×List MemPlace} (he:P.underlying e=some (.struct fs)) (aF:oneCellFields P fs=true) (bZ:cs.length=fs.size)
 (jr:∀ (j:Nat) (f:Field),fs[j]?=some f->P.underlying f.type=some (.int .i64)) (h:DataW.trod enc P w base spare bK fuel e cs=some x):∀ j (hj:j<cs.length),∃ z:Int,cs[j]=.I z/\I64 z:=by
 intro j hj;obtain ⟨ys,n',oH,hy,ai,fC,hf⟩:=DataW.trod_struct he h;have vj:j<fs.size:=by omega
 have qp:fs[j]?=some fs[j]:=Ya1 vj;obtain ⟨ho,hk⟩:=hone_of aF j fs[j] qp;have h1:=hf j fs[j] qp;rw [ho,hk] at h1;have iE:(cs.drop j).take 1=[cs[j]]:=by
  rw [X6 hj];rfl
 rw [iE] at h1;have cF:ys[j]?=some (ys[j]'(by omega)):=XD (by omega);rw [cF] at h1;obtain ⟨z,hz,_,hw⟩:=DataW.trod_int (jr j _ qp) h1;refine ⟨z,by simpa using hz,?_⟩;simpa [I64,Lit.wf,IntKind.min,IntKind.max,IntKind.signed,IntKind.bits] using hw
def Zt8:Option TypeDesc->Bool
 | some (.int .i64)=>true
 | _=>false
theorem Zg4 {d:Option TypeDesc} (h:Zt8 d=true):d=some (.int .i64):=by
 unfold Zt8 at h;split at h;rfl;cases h
def Z9B (P:Program) (e k:Nat):Bool:=
 match P.underlying e with
 | some (.struct fs)=>oneCellFields P fs && fs.size == k && fs.all (λf=>Zt8 (P.underlying f.type))
 | _=>false
theorem Z8a {e k:Nat} {fuel:Nat} {cs:List Value} {x:DataW H×List MemPlace} (hs:Z9B P e k=true) (bZ:cs.length=k) (h:DataW.trod enc P w base spare bK fuel e cs=some x) :
 ∃ zs:List Int,zs.length=k/\cs=zs.map (Value.int .i64)/\∀ z∈zs,I64 z:=by
 unfold Z9B at hs;split at hs
 . rename_i fs he
   simp only [Xm,beq_iff_eq] at hs;obtain ⟨⟨aF,hk⟩,aB⟩:=hs;have jr:∀ (j:Nat) (f:Field),fs[j]?=some f->P.underlying f.type=some (.int .i64):=by
    intro j f hj;obtain ⟨hlt,rfl⟩:=Xl.1 hj;exact Zg4 (Array.all_eq_true.1 aB j hlt)
   have hz:=Z89 he aF (by omega) jr h;clear h he aF jr aB;refine (?_:∀ (cs:List Value),(∀ j (hj:j<cs.length),∃ z:Int,cs[j]=.I z/\I64 z)->∃ zs:List Int,zs.length=cs.length/\cs=zs.map (Value.int .i64)/\∀ z∈zs,I64 z) cs hz |> λ⟨zs,h1,h2,h3⟩=>⟨zs,by omega,h2,h3⟩
   intro cs
   induction cs with
   | nil=>intro _;exact ⟨[],rfl,rfl,by simp⟩
   | cons c r ih=>
     intro hz;obtain ⟨z,e1,e2⟩:=hz 0 (by simp);obtain ⟨zs,h1,h2,h3⟩:=ih (λj hj=>by
      have:=hz (j+1) (by simpa using hj);simpa using this)
     exact ⟨z :: zs,by simp [h1],by simp at e1;simp [e1,<- h2],by
      intro y hy;rcases Xb.1 hy with rfl|hy
      exact e2;exact h3 y hy⟩
 cases hs
theorem Zjt {t e:TypeId} {fuel:Nat} {cs:List Value} {x:DataW H×List MemPlace} (ht:P.underlying t=some (.slice e)) (hC:P.cellsOf e=1) (he:P.underlying e=some (.int .i64))
 (h:DataW.trod enc P w base spare bK fuel t cs=some x):∃ (v:Value) (xs:List Int),cs=[v]/\SlV [] w v xs/\(∀ a∈xs,I64 a)/\Zg3 x.1=xs.length:=
 Z3T (α:=Int) ht hC (by decide) (λn cs' y hl hy=>by
  obtain ⟨z,rfl,_,hw⟩:=DataW.trod_int he hy;exact ⟨z,rfl,by simpa [I64,Lit.wf,IntKind.min,IntKind.max,IntKind.signed,IntKind.bits] using hw⟩) h
end
end Go.Eng
