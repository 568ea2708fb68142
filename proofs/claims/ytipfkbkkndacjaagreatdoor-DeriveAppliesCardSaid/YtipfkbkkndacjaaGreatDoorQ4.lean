/-
Contracts and plain laws, merged out of own texts.
-/
import Derived.Test.YtipfkbkkndacjaaGreatDoorQ3
import Derived.Shelf.SlSortCmp.NoneTotal
import Derived.Laws.CopyRow
import Derived.Test.YtipfkbkkndacjaaGreatDoorShl3
import Derived.Recover
import Derived.RangeFuncLeaves
import Derived.RangeFuncCalls
import Derived.RangeFuncSeq
import Derived.OrdersIn
set_option linter.unusedVariables false
set_option linter.unusedSimpArgs false
set_option maxHeartbeats 4000000
set_option maxRecDepth 20000
namespace Go.Eng
open Go Go.RowKit
variable {X:List Nat} {w w':World} {base T:Nat} {v:Value} {zs ys:List Int}
def ZjN (w:World) (base T:Nat) (v:Value) (zs:List Int):Prop:=(v=.N/\zs=[])\/∃ g cap cur,v=.slice (some ⟨g,0,none⟩) zs.length cap/\base<=g/\w.heap[g]?=some (.cells cur T (0,0))/\zs.length<=cap/\cap<=maxLen/\cur.size=cap/\cur.toList.take zs.length=zs.map (Value.int .i64)
theorem Row.toI (h:Row X w base T v zs):ZjN w base T v zs:=by
 obtain ⟨css,hl,hr,hx,ho⟩:=h;have hc:css=zs.map (λx=>[Value.int .i64 x]):=by
  apply YaD (by simpa using hl);intro i h1 h2;have:css[i]=[Value.int .i64 zs[i]]:=hr i (by omega) h1;simp [this]
 rcases ho with ⟨rfl,hn⟩|⟨g,cap,cur,rfl,hb,hg,cO,bU,bh,ht⟩
 exact .inl ⟨rfl,Xw.1 hn⟩
 . refine .inr ⟨g,cap,cur,rfl,hb,hg,cO,bU,by simpa [Z5.k,Z3.k] using bh,?_⟩
   have h2:cur.toList.take (zs.length * 1)=css.flatten:=ht;rw [YaQ] at h2;rw [h2,hc];clear h2 ht hx hr hl hc cO hg bh
   induction zs with
   | nil=>rfl
   | cons a l ih=>simp at ih ⊢;exact ih
theorem ZjN.toRow (h:ZjN w base T v zs):Row X w base T v zs:=by
 rcases h with ⟨rfl,rfl⟩|⟨g,cap,cur,rfl,hb,hg,cO,bU,bh,ht⟩
 exact Row.nil
 . refine ⟨zs.map (λx=>[Value.int .i64 x]),by simp,λi h1 h2=>by simp;rfl,?_⟩
   have hf:(zs.map (λx=>[Value.int .i64 x])).flatten=zs.map (Value.int .i64):=by
    clear ht cO
    induction zs with
    | nil=>rfl
    | cons a l ih=>simp at ih ⊢;exact ih
   rw [hf];refine ⟨by simp [Z5.k,Z3.k],.inr ⟨g,cap,cur,rfl,hb,hg,cO,bU,by simpa [Z5.k,Z3.k] using bh,by simpa [Z5.k,Z3.k] using ht⟩⟩
theorem ZaQ {zs:List Int} (hs:zs.Pairwise (·<=·)):(Lib.compact zs).Pairwise (· < ·)/\∀ y,y∈Lib.compact zs↔y∈zs:=by
 have hd:∀ i j,i<=j->j<zs.length->zs.toArray[i]!<=zs.toArray[j]!:=by
  intro i j dC hj;rcases Nat.lt_or_eq_of_le dC with h|rfl
  have:=Yap.1 hs i j (by omega) hj h;simpa [getElem!_pos,hj,show i<zs.length by omega] using this;exact XQ _
 have key:∀ m,m<=zs.length->(Lib.compactUpTo zs.toArray m).Pairwise (· < ·)/\∀ y,y∈Lib.compactUpTo zs.toArray m↔∃ i,i<m/\y=zs.toArray[i]!:=by
  intro m
  induction m with
  | zero=>intro _;refine ⟨by simp [Lib.compactUpTo],λy=>by simp [Lib.compactUpTo]⟩
  | succ m ih=>
    intro hm;obtain ⟨i1,i2⟩:=ih (by omega);rw [Lib.compactUpTo_succ];by_cases hk:Lib.keeps zs.toArray m=true;rw [if_pos hk];refine ⟨Yai.2 ⟨i1,YaN _ _,λa ha b hb=>?_⟩,λy=>?_⟩;obtain ⟨i,hi,rfl⟩:=(i2 a).1 ha;rw [Xi.1 hb];have mi:m=0\/zs.toArray[m]!≠zs.toArray[m - 1]!:=by simpa [Lib.keeps] using hk
    have h1:=hd i (m - 1) (by omega) (by omega);have h2:=hd (m - 1) m (by omega) (by omega);have h3:=mi.resolve_left (by omega);omega;rw [Xf,i2,Xi];constructor;rintro (⟨i,hi,rfl⟩|rfl);exact ⟨i,by omega,rfl⟩;exact ⟨m,by omega,rfl⟩;rintro ⟨i,hi,rfl⟩;by_cases cA:i<m;exact .inl ⟨i,cA,rfl⟩;exact .inr (by rw [show i=m by omega]);rw [if_neg hk,XC];have mi:¬ (m=0\/zs.toArray[m]!≠zs.toArray[m - 1]!):=by simpa [Lib.keeps] using hk
    have j0:m≠0:=λh=>mi (.inl h);have he:zs.toArray[m]! = zs.toArray[m - 1]!:=Decidable.byContradiction λh=>mi (.inr h);refine ⟨i1,λy=>?_⟩;rw [i2];constructor;rintro ⟨i,hi,rfl⟩;exact ⟨i,by omega,rfl⟩;rintro ⟨i,hi,rfl⟩;by_cases cA:i<m;exact ⟨i,cA,rfl⟩;exact ⟨m - 1,by omega,by rw [show i=m by omega,he]⟩
 obtain ⟨h1,h2⟩:=key zs.length (Xn _);refine ⟨h1,λy=>?_⟩;show y∈Lib.compactUpTo zs.toArray zs.length↔_;rw [h2];constructor;rintro ⟨i,hi,rfl⟩;simp [getElem!_pos,hi];intro h;obtain ⟨i,hi,rfl⟩:=Xr h;exact ⟨i,hi,by simp [getElem!_pos,hi]⟩
def Z3s (zs:List Int):List Int:=Lib.compact (zs.mergeSort λx y=>decide (x<=y))
theorem Z3f (zs:List Int):(Z3s zs).Pairwise (· < ·)/\∀ y,y∈Z3s zs↔y∈zs:=by
 have hp:(zs.mergeSort λx y=>decide (x<=y)).Pairwise (·<=·):=by
  have:=List.pairwise_mergeSort (le:=λ(x y:Int)=>decide (x<=y)) (λa b c h1 h2=>by simp at *;omega) (λa b=>by simp;omega) zs;exact this.imp (λh=>by simpa using h)
 obtain ⟨h1,h2⟩:=ZaQ hp;exact ⟨h1,λy=>by unfold Z3s;rw [h2];exact (List.mergeSort_perm zs _).mem_iff⟩
theorem Zce {g q:Nat} {cur:Array Value} (os:Array Obj) (h:w.heap[g]?=some (.cells cur T (0,0))) (hl:ys.length<=cur.size) :
 Stp [g] w (Go.Sort.grow (Go.Sort.putRow (Value.int .i64) (Go.Sort.ahead w q) g 0 ys.toArray) os)/\
 ∃ cur',(Go.Sort.grow (Go.Sort.putRow (Value.int .i64) (Go.Sort.ahead w q) g 0 ys.toArray) os).heap[g]?=some (.cells cur' T (0,0))/\cur'.size=cur.size/\cur'.toList.take ys.length=ys.map (Value.int .i64):=by
 have hlt:g<w.heap.size:=(Xl.1 h).1;have hh:(Go.Sort.grow (Go.Sort.putRow (Value.int .i64) (Go.Sort.ahead w q) g 0 ys.toArray) os).heap=w.heap.modify g (Go.Sort.onCells (Go.Sort.putCells (Value.int .i64) 0 ys.toArray))++os:=rfl;refine ⟨⟨rfl,rfl,rfl,by rw [hh];simp,λb hb hn=>?_⟩,Go.Sort.putCells (Value.int .i64) 0 ys.toArray cur,?_,by simp [Go.Sort.putCells],?_⟩;rw [hh,XW (by simpa using hb),YaW,if_neg (by simp at hn;exact λe=>hn e.symm)];rw [hh,XW (by simpa using hlt),YaW,if_pos rfl,h];rfl;apply YaD;simp [Go.Sort.putCells];omega;intro i h1 h2;have hi:i<ys.length:=by simpa using h2
 simp [Go.Sort.putCells,hi]
theorem Z9G {g:Nat} {cur:Array Value} (h:w.heap[g]?=some (.cells cur T (0,0))) (ht:cur.toList.take zs.length=zs.map (Value.int .i64)):Go.Sort.Holds (Value.int .i64) w g 0 zs.toArray:=by
 intro j hj;have gk:j<zs.length:=by simpa using hj
 have hc:cur[j]?=some (.I zs[j]):=by
  have h1:(cur.toList.take zs.length)[j]?=some (.I zs[j]):=by rw [ht];simp [gk]
  rw [Yah,if_pos gk] at h1;simpa using h1
 constructor;simp [World.cell?,h,hc,gk];simp [World.frozen?,h]
end Go.Eng
namespace Go.Proofs.YtipfkbkkndacjaaGreatDoor
open Go Go.Eng Go.RowKit
theorem Zcf {X:List Nat} {base T:Nat} {v:Value} {zs:List Int} (w) (h:Row X w base T v zs) (bG:zs.length<4611686018427387904) :
 CC 259 #[v] w λr w'=>r=.tuple #[]/\Row X w' base T v (zs.mergeSort λx y=>decide (x<=y))/\Stp (ob v) w w':=by
 rcases h.toI with ⟨rfl,rfl⟩|⟨g,cap,cur,rfl,hb,hg,cO,bU,bh,ht⟩
 refine (Tryz.slices_Sort_int_none none 0 w).mono ?_;rintro _ _ ⟨rfl,rfl⟩;exact .mk ⟨rfl,by simpa using Row.nil,Stp.refl _ _⟩;have hlt:g<w.heap.size:=(Xl.1 hg).1;refine (Tryz.slices_Sort_int g 0 cap zs w (Z9G hg ht) hlt bG).mono ?_;rintro _ _ ⟨rfl,q,os,rfl⟩;have hl:(zs.mergeSort λx y=>decide (x<=y)).length=zs.length:=Ybi zs;obtain ⟨hS,cur',h1,h2,h3⟩:=Zce (q:=q) os hg (ys:=zs.mergeSort λx y=>decide (x<=y)) (by omega);refine .mk ⟨rfl,ZjN.toRow (.inr ⟨g,cap,cur',by rw [hl],hb,h1,by omega,bU,by omega,h3⟩),hS⟩
theorem Z75 {X:List Nat} {base T:Nat} {v:Value} {zs:List Int} (w) (h:Row X w base T v zs) (bG:zs.length<=9223372036854775807) :
 CC 260 #[v] w λr w'=>Row X w' base T r (Lib.compact zs)/\Stp (ob v) w w'/\ob r=ob v:=by
 rcases h.toI with ⟨rfl,rfl⟩|⟨g,cap,cur,rfl,hb,hg,cO,bU,bh,ht⟩
 refine (Tryz.slices_Compact_int_empty none 0 w).mono ?_;rintro _ _ ⟨rfl,rfl⟩;exact .mk ⟨by rw [show Lib.compact ([]:List Int)=[] from rfl];exact Row.nil,Stp.refl _ _,rfl⟩;refine (Tryz.slices_Compact_int g 0 cap zs w (Z9G hg ht) bG cO).mono ?_;rintro _ _ ⟨rfl,q,rfl⟩;have bZ:(Lib.compact zs).length<=zs.length:=by
  unfold Lib.compact Lib.compactUpTo;rw [Xt];exact Xh (X1 _ _) (by simp)
 have e:∀ W:World,W=Go.Sort.grow W #[]:=λW=>by simp [Go.Sort.grow]
 rw [e (Go.Sort.putRow _ _ _ _ _)];obtain ⟨hS,cur',h1,h2,h3⟩:=Zce (q:=q) #[] hg (ys:=Lib.compact zs++List.replicate (zs.length - (Lib.compact zs).length) 0) (by simp;omega);refine .mk ⟨ZjN.toRow (.inr ⟨g,cap,cur',rfl,hb,h1,by omega,bU,by omega,?_⟩),hS,rfl⟩;have h4:=congrArg (List.take (Lib.compact zs).length) h3;rw [YaE,Yag (by simp)] at h4;rw [h4];simp
theorem Z8o (s:Str) (y:Int):((ZT s).2.2=true/\y=(ZT s).1)↔∃ i,i<7/\s=Ze.getD i []/\y=(i:Int):=by
 by_cases h0:s=[100,97,121]
 subst h0;have e:ZT [100,97,121]=(0,3,true):=by decide +kernel
 have u:∀ i,i<7->[100,97,121]=Ze.getD i []->i=0:=by decide +kernel
 rw [e];constructor;rintro ⟨-,rfl⟩;exact ⟨0,by decide,by decide +kernel,rfl⟩;rintro ⟨i,hi,he,rfl⟩;rw [u i hi he];exact ⟨rfl,rfl⟩;by_cases h1:s=[115,101,114,118,101,100]
 subst h1;have e:ZT [115,101,114,118,101,100]=(1,3,true):=by decide +kernel
 have u:∀ i,i<7->[115,101,114,118,101,100]=Ze.getD i []->i=1:=by decide +kernel
 rw [e];constructor;rintro ⟨-,rfl⟩;exact ⟨1,by decide,by decide +kernel,rfl⟩;rintro ⟨i,hi,he,rfl⟩;rw [u i hi he];exact ⟨rfl,rfl⟩;by_cases h2:s=[101,120,116,114,97]
 subst h2;have e:ZT [101,120,116,114,97]=(2,1,true):=by decide +kernel
 have u:∀ i,i<7->[101,120,116,114,97]=Ze.getD i []->i=2:=by decide +kernel
 rw [e];constructor;rintro ⟨-,rfl⟩;exact ⟨2,by decide,by decide +kernel,rfl⟩;rintro ⟨i,hi,he,rfl⟩;rw [u i hi he];exact ⟨rfl,rfl⟩;by_cases h3:s=[98,121]
 subst h3;have e:ZT [98,121]=(3,1,true):=by decide +kernel
 have u:∀ i,i<7->[98,121]=Ze.getD i []->i=3:=by decide +kernel
 rw [e];constructor;rintro ⟨-,rfl⟩;exact ⟨3,by decide,by decide +kernel,rfl⟩;rintro ⟨i,hi,he,rfl⟩;rw [u i hi he];exact ⟨rfl,rfl⟩;by_cases h4:s=[116,111]
 subst h4;have e:ZT [116,111]=(4,1,true):=by decide +kernel
 have u:∀ i,i<7->[116,111]=Ze.getD i []->i=4:=by decide +kernel
 rw [e];constructor;rintro ⟨-,rfl⟩;exact ⟨4,by decide,by decide +kernel,rfl⟩;rintro ⟨i,hi,he,rfl⟩;rw [u i hi he];exact ⟨rfl,rfl⟩;by_cases h5:s=[99,111,117,114,116]
 subst h5;have e:ZT [99,111,117,114,116]=(5,1,true):=by decide +kernel
 have u:∀ i,i<7->[99,111,117,114,116]=Ze.getD i []->i=5:=by decide +kernel
 rw [e];constructor;rintro ⟨-,rfl⟩;exact ⟨5,by decide,by decide +kernel,rfl⟩;rintro ⟨i,hi,he,rfl⟩;rw [u i hi he];exact ⟨rfl,rfl⟩;by_cases h6:s=[97,109,111,117,110,116]
 subst h6;have e:ZT [97,109,111,117,110,116]=(6,1,true):=by decide +kernel
 have u:∀ i,i<7->[97,109,111,117,110,116]=Ze.getD i []->i=6:=by decide +kernel
 rw [e];constructor;rintro ⟨-,rfl⟩;exact ⟨6,by decide,by decide +kernel,rfl⟩;rintro ⟨i,hi,he,rfl⟩;rw [u i hi he];exact ⟨rfl,rfl⟩;constructor;rintro ⟨h,-⟩;exfalso;have hn:Ze.findIdx? (isS s)=none:=Yad.2 λx hx=>by
  simp only [Ze,Xb,Xj,or_false] at hx;rcases hx with rfl|rfl|rfl|rfl|rfl|rfl|rfl<;>simp only [isS,decide_eq_false_iff_not]<;>intro e<;>first|exact (absurd e h0)|exact (absurd e.symm h0)|exact (absurd e h1)|exact (absurd e.symm h1)|exact (absurd e h2)|exact (absurd e.symm h2)|exact (absurd e h3)|exact (absurd e.symm h3)|exact (absurd e h4)|exact (absurd e.symm h4)|exact (absurd e h5)|exact (absurd e.symm h5)|exact (absurd e h6)|exact (absurd e.symm h6)|skip
 simp [ZT,idx,hn] at h
 . rintro ⟨i,hi,he,-⟩
   exfalso
   match i,hi with
   | 0,_=>exact h0 he
   | 1,_=>exact h1 he
   | 2,_=>exact h2 he
   | 3,_=>exact h3 he
   | 4,_=>exact h4 he
   | 5,_=>exact h5 he
   | 6,_=>exact h6 he
theorem ZjO (a o:Str) (k n:Int) (s:Str) (p:Option Addr) (l c:Nat) (k' n':Int) (s':Str) (p':Option Addr) (l' c':Nat) (w):(Instr.build 99 #[(0,str a),(2,str o),(3,.agg #[.I k,.I n,str s,.slice p l c]),(4,.agg #[.I k',.I n',str s',.slice p' l' c'])]).run Tryz.prog w=.ok (.agg #[str a,.I 0,str o,.I k,.I n,str s,.slice p l c,.I k',.I n',str s',.slice p' l' c',str [],str []]) w:=by kernel_rfl
theorem Z6z {x y:Nd} (h:Zf x≠0) (hy:y∈x.kids):Zf y≠0:=by
 intro h0;apply h;rw [Z0I];unfold JF;split;rfl;rw [if_pos (by rw [<- h0];exact Yam hy)]
def Seg (C:List Ins) (p:Nat) (c:List Ins):Prop:=∃ A B,C=A++c++B/\A.length=p
theorem Seg.left {C a b:List Ins} {p:Nat} (h:Seg C p (a++b)):Seg C p a:=by
 obtain ⟨A,B,rfl,hp⟩:=h;exact ⟨A,b++B,by simp,hp⟩
theorem Seg.right {C a b:List Ins} {p:Nat} (h:Seg C p (a++b)):Seg C (p+a.length) b:=by
 obtain ⟨A,B,rfl,hp⟩:=h;exact ⟨A++a,B,by simp,by simp [hp]⟩
theorem Seg.at {C r:List Ins} {x:Ins} {p:Nat} (h:Seg C p (x :: r)):C.getD p ⟨0,0⟩=x:=by
 obtain ⟨A,B,rfl,hp⟩:=h;subst hp;simp
def Z5M (C:List Ins):Nat->Nat->List (Option Shp)->Option (List (Option Shp))
 | _,0,st=>some st
 | p,k+1,st=>(JM st p (C.getD p ⟨0,0⟩)).bind (Z5M C (p+1) k)
theorem Z1q (C:List Ins) (b:Nat):∀ (a p:Nat) (st:List (Option Shp)),Z5M C p (a+b) st=(Z5M C p a st).bind (Z5M C (p+a) b)
 | 0,p,st=>by simp [Z5M]
 | a + 1, p, st => by
   rw [show a+1+b=(a+b)+1 by omega,Z5M,Z5M];cases h:JM st p (C.getD p ⟨0,0⟩) with
   | none=>rfl
   | some st'=>
     simp only [XR];rw [Z1q C b a (p+1) st',show p+1+a=p+(a+1) by omega]
theorem Z3W (C:List Ins) (p:Nat) (st:List (Option Shp)):Z5M C p 1 st=JM st p (C.getD p ⟨0,0⟩):=by
 rw [Z5M];cases JM st p (C.getD p ⟨0,0⟩)<;>rfl
theorem Z9H (C:List Ins) (st:List (Option Shp)):∀ k:Nat,Z3w C k st=Z5M C 0 k st
 | 0=>rfl
 | k + 1 => by
   rw [Z3w,Z1q,Z9H C st k];cases Z5M C 0 k st with
   | none=>rfl
   | some st'=>simp only [XR,XM];rw [Z3W]
def Z2N (C:List Ins) (p:Nat) (c:List Ins) (s s':Shp):Prop:=
 ∀ st : List (Option Shp), st.length = C.length -> p + c.length < C.length -> st[p]? = some (some s) -> (∀ i, p < i -> i < p + c.length -> st[i]? = some none)->
   (st[p+c.length]?=some none\/st[p+c.length]?=some (some s'))->
   ∃ st',Z5M C p c.length st=some st'/\st'.length=C.length/\st'[p+c.length]?=some (some s')/\∀ i,p+c.length<i->st'[i]?=st[i]?
theorem ZaR {st:List (Option Shp)} {t:Nat} {sh:Shp} (h:t<st.length) (h2:st[t]?=some none\/st[t]?=some (some sh)) :
 ∃ st',JE st (t:Int) sh=some st'/\st'.length=st.length/\st'[t]?=some (some sh)/\∀ i,i≠t->st'[i]?=st[i]?:=by
 unfold JE;rw [if_pos (by omega),Ybx,Xv];rcases h2 with h2|h2
 rw [h2];exact ⟨_,rfl,by simp,by simp [h],λi hi=>List.getElem?_set_ne (λe=>hi e.symm)⟩;rw [h2];simp only [YaC,if_pos];exact ⟨_,rfl,rfl,h2,λ_ _=>rfl⟩
theorem Z2N.app {C a b:List Ins} {p:Nat} {s s1 s2:Shp} (ha:Z2N C p a s s1) (hb:Z2N C (p+a.length) b s1 s2) (h1:a≠[]) (h2:b≠[]):Z2N C p (a++b) s s2:=by
 intro st hl hlt h0 hn hq;have l1:=Yab.2 h1;have l2:=Yab.2 h2;simp only [Xc] at hlt hn hq ⊢;obtain ⟨st1,r1,e1,e2,e3⟩:=ha st hl (by omega) h0 (λi hi cn=>hn i hi (by omega)) (.inl (hn _ (by omega) (by omega)));obtain ⟨st2,r2,g1,g2,g3⟩:=hb st1 e1 (by omega) e2 (λi hi cn=>by rw [e3 i hi];exact hn i (by omega) (by omega)) (by rw [e3 _ (by omega),Yat];exact hq);refine ⟨st2,by rw [Z1q,r1];exact r2,g1,by rw [<- Yat];exact g2,λi hi=>by rw [g3 i (by omega),e3 i (by omega)]⟩
theorem Z5N {C:List Ins} {p:Nat} {x:Ins} {s s':Shp} (hs:Seg C p [x]) (h1:x.op≠24) (h2:x.op≠13) (h3:x.op≠14) (hx:Jj x s=some s'):Z2N C p [x] s s':=by
 intro st hl hlt h0 hn hq;simp only [Xe,Xg,XM] at hlt hq ⊢;obtain ⟨st',r1,r2,r3,r4⟩:=ZaR (st:=st) (t:=p+1) (sh:=s') (by omega) hq;refine ⟨st',?_,by omega,r3,λi hi=>r4 i (by omega)⟩;rw [Z3W,hs.at];unfold JM;rw [Xv,h0];simp only [YaC,hx];rw [if_neg h1,if_neg h2,if_neg h3];exact r1
def Z76 (b:Nat):List Ins->Shp->Option Shp
 | [],s=>some s
 | x :: r, s => match Jj x s with
   | none=>none
   | some s'=>if s'.length<=b then Z76 b r s' else none
theorem Z22 {x:Ins} {ts r s:Shp} (h:Jj x ts=some r) (hl:s.length+r.length<=16):Jj x (s++ts)=some (s++r):=by
 unfold Jj at h ⊢;dsimp only at h ⊢;split at h;rename_i hc;obtain ⟨c1,c2,c3,c4⟩:=hc;simp only [XH] at h;have e1:(s++ts).length - (ZB x).1.length=s.length+(ts.length - (ZB x).1.length):=by rw [Xc];omega
 have e2:(s++ts).drop (s.length+(ts.length - (ZB x).1.length))=ts.drop (ts.length - (ZB x).1.length):=by
  rw [List.drop_append,List.drop_of_length_le (by omega),XJ];congr 1;omega
 have e3:(s++ts).take (s.length+(ts.length - (ZB x).1.length))=s++ts.take (ts.length - (ZB x).1.length):=by
  rw [YaB,XL (by omega),show s.length+(ts.length - (ZB x).1.length) - s.length=ts.length - (ZB x).1.length by omega]
 rw [e1,e2,e3];have e4:s++ts.take (ts.length - (ZB x).1.length)++(ZB x).2.2.1=s++r:=by rw [Xy,h]
 rw [e4,if_pos ⟨c1,by rw [Xc];omega,c3,by rw [Xc];omega⟩];cases h
theorem Z9I {C:List Ins} (b:Nat):∀ (L:List Ins) (p:Nat) (s ts r:Shp),L≠[]->Seg C p L->(∀ x∈L,x.op≠24/\x.op≠13/\x.op≠14)->Z76 b L ts=some r->s.length+b<=16->Z2N C p L (s++ts) (s++r)
 | [],_,_,_,_,h,_,_,_,_=>absurd rfl h
 | [x], p, s, ts, r, _, hs, ho, hf, hb => by
   obtain ⟨o1,o2,o3⟩:=ho x (by simp);unfold Z76 at hf;cases hx:Jj x ts with
   | none=>rw [hx] at hf;cases hf
   | some s1=>
     rw [hx] at hf;simp only at hf;split at hf;rename_i hl;simp only [Z76,XH] at hf;subst hf;exact Z5N hs o1 o2 o3 (Z22 hx (by omega));cases hf
 | x :: y :: L, p, s, ts, r, _, hs, ho, hf, hb => by
   obtain ⟨o1,o2,o3⟩:=ho x (by simp);rw [Z76] at hf;cases hx:Jj x ts with
   | none=>rw [hx] at hf;cases hf
   | some s1=>
     rw [hx] at hf;simp only at hf;split at hf;rename_i hl;have cm:Seg C p ([x]++(y :: L)):=hs;exact Z2N.app (a:=[x]) (Z5N cm.left o1 o2 o3 (Z22 hx (by omega))) (Z9I b (y :: L) _ s s1 r (by simp) cm.right (λz hz=>ho z (by simp [hz])) hf hb) (by simp) (by simp);cases hf
theorem ZaS {C Lc Ly Ln:List Ins} {p:Nat} {s s':Shp} (t1 t2:Int)
 (hs:Seg C p (Lc++[⟨14,t1⟩]++Ly++[⟨13,t2⟩]++Ln)) (mj:t1=((p+Lc.length+1+Ly.length+1:Nat):Int)) (ml:t2=((p+Lc.length+1+Ly.length+1+Ln.length:Nat):Int))
 (hc:Z2N C p Lc s (s++[2])) (hy:Z2N C (p+Lc.length+1) Ly s s') (hn:Z2N C (p+Lc.length+1+Ly.length+1) Ln s s') (h1:Lc≠[]) (h2:Ly≠[]) (h3:Ln≠[]) (hl:s.length<=16) (dX:s'.length<=16) :
 Z2N C p (Lc++[⟨14,t1⟩]++Ly++[⟨13,t2⟩]++Ln) s s':=by
 intro st ai hlt h0 aW hq;have l1:=Yab.2 h1;have l2:=Yab.2 h2;have l3:=Yab.2 h3;have dN:(Lc++[(⟨14,t1⟩:Ins)]++Ly++[(⟨13,t2⟩:Ins)]++Ln).length=Lc.length+(1+(Ly.length+(1+Ln.length))):=by simp only [Xc,Xe,Xg];omega
 rw [dN] at hlt aW hq ⊢;have g14:C.getD (p+Lc.length) ⟨0,0⟩=⟨14,t1⟩:=(show Seg C (p+Lc.length) (⟨14,t1⟩ :: (Ly++[⟨13,t2⟩]++Ln)) from (show Seg C p (Lc++(⟨14,t1⟩ :: (Ly++[⟨13,t2⟩]++Ln))) by simpa using hs).right).at;have g13:C.getD (p+Lc.length+1+Ly.length) ⟨0,0⟩=⟨13,t2⟩:=by
  have h:=(show Seg C p ((Lc++[⟨14,t1⟩]++Ly)++(⟨13,t2⟩ :: Ln)) by simpa using hs).right.at;rw [<- h];congr 1;simp only [Xc,Xe,Xg];omega
 obtain ⟨st1,r1,e1,e2,e3⟩:=hc st ai (by omega) h0 (λi hi cn=>aW i hi (by omega)) (.inl (aW _ (by omega) (by omega)));have n14:Jj ⟨14,t1⟩ (s++[2])=some s:=by
  have:=Z22 (x:=⟨14,t1⟩) (ts:=[2]) (r:=[]) (s:=s) (by simp [Jj,ZB]) (by simpa using hl);simpa using this
 obtain ⟨st2,q1,q2,q3,q4⟩:=ZaR (st:=st1) (t:=p+Lc.length+1+Ly.length+1) (sh:=s) (by omega) (.inl (by rw [e3 _ (by omega)];exact aW _ (by omega) (by omega)));obtain ⟨st3,u1,u2,u3,u4⟩:=ZaR (st:=st2) (t:=p+Lc.length+1) (sh:=s) (by omega) (.inl (by rw [q4 _ (by omega),e3 _ (by omega)];exact aW _ (by omega) (by omega)));have s14:Z5M C (p+Lc.length) 1 st1=some st3:=by
  rw [Z3W,g14];unfold JM;rw [Xv,e2];simp only [YaC,n14];rw [if_neg (by simp),if_neg (by simp),if_pos trivial,if_pos (by omega),mj,q1];simp only [XR];rw [<- u1];congr 1
 obtain ⟨st4,v1,v2,v3,v4⟩:=hy st3 (by omega) (by omega) u3 (λi hi cn=>by rw [u4 i (by omega),q4 i (by omega),e3 i (by omega)];exact aW i (by omega) (by omega)) (.inl (by rw [u4 _ (by omega),q4 _ (by omega),e3 _ (by omega)];exact aW _ (by omega) (by omega)));have n13:Jj ⟨13,t2⟩ s'=some s':=by
  simp [Jj,ZB,dX]
 have mc:st4[p+Lc.length+1+Ly.length+1+Ln.length]?=st[p+(Lc.length+(1+(Ly.length+(1+Ln.length))))]?:=by
  rw [v4 _ (by omega),u4 _ (by omega),q4 _ (by omega),e3 _ (by omega)];congr 1;omega
 obtain ⟨st5,w1,w2,w3,w4⟩:=ZaR (st:=st4) (t:=p+Lc.length+1+Ly.length+1+Ln.length) (sh:=s') (by omega) (by rw [mc];exact hq);have s13:Z5M C (p+Lc.length+1+Ly.length) 1 st4=some st5:=by
  rw [Z3W,g13];unfold JM;rw [Xv,v3];simp only [YaC,n13];rw [if_neg (by simp),if_pos trivial,if_pos (by omega),ml,w1]
 obtain ⟨st6,x1,x2,x3,x4⟩:=hn st5 (by omega) (by omega) (by rw [w4 _ (by omega),v4 _ (by omega),u4 _ (by omega)];exact q3) (λi hi cn=>by rw [w4 i (by omega),v4 i (by omega),u4 i (by omega),q4 i (by omega),e3 i (by omega)];exact aW i (by omega) (by omega)) (.inr w3);refine ⟨st6,?_,x2,?_,λi hi=>by rw [x4 i (by omega),w4 i (by omega),v4 i (by omega),u4 i (by omega),q4 i (by omega),e3 i (by omega)]⟩;rw [Z1q,r1,XR,Z1q,s14,XR,Z1q,v1,XR,Z1q,s13,XR];exact x1;rw [<- x3];congr 1;omega
theorem Znd {x:Sig} (h:Z3I x≠0):(x,Value.int .i64 (Z3I x))∈Z3H:=by
 have hs:=ZbH x;unfold Z3I ZfM Z3E at *;cases hf:Z3H.find? (λp=>decide (p.1=x)) with
 | none=>rw [hf] at h;simp at h
 | some p=>
   have h1:=X5 hf;have h2:=Ybo hf;simp only [decide_eq_true_eq] at h2;rw [hf] at hs;simp only at hs ⊢;exact (congrArg (·∈Z3H) (Prod.ext h2 hs:p=(x,_))).mp h1
theorem Zgl {x:Sig} (h:Z3I x≠0):∃ e∈Z3H,x=e.1/\e.2=.I (Z3I x):=⟨_,Znd h,rfl,rfl⟩
theorem ZoA {ts:List Int} (h0:(0:Int)∉ts) (h3:ts.length<=3) (hn:ts≠[]) (h2:ts.getD 2 0=0):(ts.getD 1 0=0/\ts=[ts.getD 0 0])\/(ts.getD 1 0≠0/\ts=[ts.getD 0 0,ts.getD 1 0]):=by
 match ts,h3 with
 | [],_=>exact absurd rfl hn
 | [a],_=>left;exact ⟨rfl,rfl⟩
 | [a,b],_=>right;refine ⟨λhb=>h0 ?_,rfl⟩;simp at hb;simp [hb]
 | [a,b,c],_=>exact absurd (by simp at h2;simp [h2]) h0
theorem Z77 {k n:Int} {s:Str} {ts:List Int} (h:JF k n s ts≠0) :
 (ts=[]/\JF k n s ts=Z14 k n s)\/
 ((0:Int)∉ts/\ts.length<=3/\ts≠[]/\((k=9/\ts=[2,JF k n s ts,JF k n s ts])\/(k=6/\ts.getD 2 0=0/\JF k n s ts=Z1W s (ts.getD 0 0) (ts.getD 1 0))\/(JF k n s ts=Z3I ⟨k,s,ts.getD 0 0,ts.getD 1 0,ts.getD 2 0⟩))):=by
 unfold JF at h ⊢;split at h;exact absurd rfl h;rename_i h3;split at h;exact absurd rfl h;rename_i h0;rw [if_neg h3,if_neg h0];split at h;rename_i he
 left;exact ⟨he,by rw [if_pos he]⟩;rename_i he
 right;rw [if_neg he];refine ⟨h0,by omega,he,?_⟩;split at h;exact absurd rfl h;rename_i hn;rw [if_neg hn];split at h
 . rename_i h9
   left;rw [if_pos h9];refine ⟨h9.1,?_⟩;obtain ⟨_,_,e2,e3⟩:=h9
   match ts,h3 with
   | [],_=>exact absurd rfl he
   | [a],_=>simp at e2 e3 h
   | [a,b],_=>simp at e2 e3 h;exact absurd e3 h
   | [a,b,c],_=>simp at e2 e3 ⊢;exact ⟨e2,e3.symm⟩
   | a :: b :: c :: d :: r,h3=>simp at h3
 rename_i h9;rw [if_neg h9];split at h;rename_i h6
 right;left;rw [if_pos h6];exact ⟨h6.1,h6.2,rfl⟩;rename_i h6
 right;right;rw [if_neg h6]
theorem Zne {α:Type} {l:List α} (h:l.length=2):∃ a b,l=[a,b]:=by
 match l,h with
 | [a,b],_=>exact ⟨a,b,rfl⟩
theorem Znf {α:Type} {l:List α} (h:l.length=3):∃ a b c,l=[a,b,c]:=by
 match l,h with
 | [a,b,c],_=>exact ⟨a,b,c,rfl⟩
theorem Zcg (x:Nd):Zf x≠0->∀ p,Zc x p≠[]:=by
 induction x using Nd.ind with
 | h k n s l ih=>
 intro ht p;have hk:∀ y∈l,Zf y≠0:=λy hy=>Z6z (x:=.mk k n s l) ht hy;rw [Zc];unfold Z1e;have hp:∀ p,l≠[]->Z0D k s (l.map Zc) p≠[]:=by
  intro p hl;unfold Z0D;cases l with
  | nil=>exact absurd rfl hl
  | cons y r=>
    have:=ih y (by simp) (hk y (by simp)) p;simp only [Xz,Jq];intro h;simp only [Ybf] at h;exact this h.1.1.1
 split;simp;rename_i hl;have dX:l≠[]:=λh=>hl (by rw [h];rfl)
 split;unfold chC;simp;split;unfold chC;simp;split;unfold chC;simp;split;simp;exact hp p dX
theorem Zch {C:List Ins}:∀ (l:List Nd),(∀ y∈l,∀ p s,Seg C p (Zc y p)->s.length+ZA y<=16->Z2N C p (Zc y p) s (s++[Zf y]))->(∀ y∈l,∀ p,Zc y p≠[])->
 ∀ p s,l≠[]->Seg C p (Jq (l.map Zc) p)->(∀ y∈l,s.length+(l.length - 1)+ZA y<=16)->Z2N C p (Jq (l.map Zc) p) s (s++l.map Zf)
 | [],_,_,_,_,h,_,_=>absurd rfl h
 | [y], hr, aU, p, s, _, hs, hb => by
   have e:Jq ([y].map Zc) p=Zc y p:=by simp [Jq]
   rw [e] at hs ⊢;exact hr y (by simp) p s hs (by have:=hb y (by simp);simpa using this)
 | y :: z :: l, hr, aU, p, s, _, hs, hb => by
   have e:Jq ((y :: z :: l).map Zc) p=Zc y p++Jq ((z :: l).map Zc) (p+(Zc y p).length):=by simp [Jq]
   rw [e] at hs ⊢;have h1:=hr y (by simp) p s hs.left (by have:=hb y (by simp);omega);have h2:=Zch (z :: l) (λy hy=>hr y (by simp [hy])) (λy hy=>aU y (by simp [hy])) (p+(Zc y p).length) (s++[Zf y]) (by simp) hs.right (λw hw=>by
    have:=hb w (by simp [hw]);simp only [Xc,Xe,Xg] at this ⊢;omega)
   have h3:Jq ((z :: l).map Zc) (p+(Zc y p).length)≠[]:=by
    simp only [Xz,Jq];intro h;simp only [Ybf] at h;exact aU z (by simp) _ h.1
   have:=Z2N.app h1 h2 (aU y (by simp) p) h3;simpa using this
theorem Z23 {C:List Ins} {l:List Nd} {L:List Ins} {p:Nat} {s ts r:Shp} (hr:∀ y∈l,∀ p s,Seg C p (Zc y p)->s.length+ZA y<=16->Z2N C p (Zc y p) s (s++[Zf y])) (aU:∀ y∈l,∀ p,Zc y p≠[])
 (ce:l.map Zf=ts) (hl:l≠[]) (hL:L≠[]) (hs:Seg C p (Jq (l.map Zc) p++L)) (hb:∀ y∈l,s.length+(l.length - 1)+ZA y<=16) (ho:∀ x∈L,x.op≠24/\x.op≠13/\x.op≠14) (hf:Z76 2 L ts=some r) (h2:s.length+2<=16) :
 Z2N C p (Jq (l.map Zc) p++L) s (s++r):=by
 have h1:=Zch l hr aU p s hl hs.left hb;rw [ce] at h1;have h3:Jq (l.map Zc) p≠[]:=by
  cases l with
  | nil=>exact absurd rfl hl
  | cons y l=>
    simp only [Xz,Jq];intro h;simp only [Ybf] at h;exact aU y (by simp) _ h.1
 exact Z2N.app h1 (Z9I 2 L _ s ts r hL hs.right ho hf h2) h3 hL
def Z3X (k:Int) (s:Str):List Ins:=(if k=8\/k=5/\s=[45] then [⟨8,0⟩] else [])++Z2g (opF s)
theorem Z2O (k:Int) (s:Str) (cs:List Cf) (p:Nat):Z0D k s cs p=Jq cs p++Z3X k s:=by unfold Z0D Z3X;rw [Xy]
def okL (L:List Ins) (ts:List Int) (t:Int):Bool:=decide (L≠[]) && L.all (λx=>decide (x.op≠24/\x.op≠13/\x.op≠14)) && decide (Z76 2 L ts=some [t])
theorem Z5O {L:List Ins} {ts:List Int} {t:Int} (h:okL L ts t=true):L≠[]/\(∀ x∈L,x.op≠24/\x.op≠13/\x.op≠14)/\Z76 2 L ts=some [t]:=by
 unfold okL at h;simp only [Xm,decide_eq_true_eq,X0] at h;exact ⟨h.1.1,h.1.2,h.2⟩
def ZoB (e:ZiQ):Bool:=
 match e.2 with
 | .I t=>decide (e.1.kind≠9) && decide (e.1.kind≠6) && decide (e.1.c=0) && okL (Z3X e.1.kind e.1.s) (if e.1.b=0 then [e.1.a] else [e.1.a,e.1.b]) t
 | _=>false
theorem Zng:Z3H.all ZoB=true:=by decide +kernel
theorem ZjP:Z0U.all (λs=>okL (Z3X 6 s++(if s=[45] then [⟨6,0⟩] else [])) [1,1] 1 && !decide (s=[97,110,100]) && !decide (s=[111,114]))=true:=by decide +kernel
theorem Znh:Z2f.all (λs=>okL (Z3X 6 s) [1,1] 2 && okL (Z3X 6 s) [3,3] 2 && !decide (s=[97,110,100]) && !decide (s=[111,114]) && !decide (s=[45]))=true:=by decide +kernel
theorem Zgm (C:List Ins) (x:Nd):Zf x≠0->∀ p s,Seg C p (Zc x p)->s.length+ZA x<=16->Z2N C p (Zc x p) s (s++[Zf x]):=by
 induction x using Nd.ind with
 | h k n s l ih=>
 intro ht p sh hs hb;have hk:∀ y∈l,Zf y≠0:=λy hy=>Z6z (x:=.mk k n s l) ht hy;have hr:∀ y∈l,∀ p s,Seg C p (Zc y p)->s.length+ZA y<=16->Z2N C p (Zc y p) s (s++[Zf y]):=λy hy=>ih y hy (hk y hy);have aU:∀ y∈l,∀ p,Zc y p≠[]:=λy hy=>Zcg y (hk y hy);have cW:∀ y∈l,ZA y+1<=ZA (.mk k n s l):=λy hy=>by have:=ZbM (x:=.mk k n s l) hy;omega
 have hrange:=Z3J (.mk k n s l);have ld:Zf (.mk k n s l)=JF k n s (l.map Zf):=Z0I _;rw [Zc] at hs ⊢;rw [ld] at ht hrange ⊢;rcases Z77 ht with ⟨he,hc⟩|⟨h0,h3,mh,hc⟩
 ·
   have hl:l=[]:=by simpa using he
   subst hl;unfold Z1e at hs ⊢;rw [if_pos (show (List.map Zc ([]:List Nd)).length=0 from rfl)] at hs ⊢;rw [hc] at ht ⊢;have ai:sh.length+1<=16:=by
    have:1<=ZA (.mk k n s []):=by rw [Z0J];omega
    omega
   refine Z5N hs ?_ ?_ ?_ ?_;unfold Z15;split<;>(try split)<;>(try split)<;>simp;unfold Z15;split<;>(try split)<;>(try split)<;>simp;unfold Z15;split<;>(try split)<;>(try split)<;>simp;have dh:Jj (Z15 k n s) []=some [Z14 k n s]:=by
    unfold Z14 at ht ⊢;unfold Z15;by_cases k4:k=4;subst k4;rw [if_pos rfl] at ht ⊢;split at ht
    . rename_i hn
      rw [if_pos hn];have hf:((ZT s).2.1=3/\((ZT s).1=0\/(ZT s).1=1))\/((ZT s).2.1=1/\2<=(ZT s).1/\(ZT s).1<7):=by
       have h1:(ZT s).2.2=true:=by
        cases hb:(ZT s).2.2 with
        | true=>rfl
        | false=>exact absurd (Z6k hb) ht
       obtain ⟨i,hi,eY,_⟩:=(Z8o s (ZT s).1).1 ⟨h1,rfl⟩;subst eY
       match i,hi with
       | 0,_=>decide +kernel
       | 1,_=>decide +kernel
       | 2,_=>decide +kernel
       | 3,_=>decide +kernel
       | 4,_=>decide +kernel
       | 5,_=>decide +kernel
       | 6,_=>decide +kernel
      rw [if_neg (by decide),if_neg (by decide),if_neg (by decide)];rcases hf with ⟨e1,e2⟩|⟨e1,e2,e3⟩
      simp [Jj,ZB,e1,e2];omega;simp [Jj,ZB,e1];omega
    exact absurd rfl ht;rw [if_neg k4] at ht ⊢;split at ht;exact absurd rfl ht;rename_i aX;rw [if_neg aX];by_cases k1:k=1;rw [if_pos k1] at ht ⊢;rw [if_pos k1];split at ht;rename_i h;rw [if_pos h];simp [Jj,ZB];omega;exact absurd rfl ht;rw [if_neg k1] at ht ⊢;rw [if_neg k1];by_cases k2:k=2;rw [if_pos k2] at ht ⊢;rw [if_pos k2];split at ht;rename_i h;rw [if_pos h];simp [Jj,ZB];omega;exact absurd rfl ht;rw [if_neg k2] at ht ⊢;rw [if_neg k2];by_cases k3:k=3;rw [if_pos k3] at ht ⊢;rw [if_pos k3];split at ht;rename_i h;rw [if_pos h];simp [Jj,ZB];omega;exact absurd rfl ht;rw [if_neg k3] at ht;exact absurd rfl ht
   have:=Z22 (s:=sh) dh (by simpa using ai);simpa using this
 . have hl:l≠[]:=λh=>mh (by rw [h];rfl)
   have ai:l.length<=3:=by simpa using h3
   have dN:¬ (l.map Zc).length=0:=by simpa using hl
   unfold Z1e at hs ⊢;rw [if_neg dN] at hs ⊢;rcases hc with ⟨h9,ce⟩|⟨h6,vB,dZ⟩|tF
   ·
     rw [if_pos h9] at hs ⊢;generalize JF k n s (l.map Zf)=t at *;have iw:l.length=3:=by have:=congrArg List.length ce;simpa using this
     obtain ⟨a,b,c,rfl⟩:=Znf iw;simp only [Xz,XU,Ybn,and_true] at ce;obtain ⟨ta,tb,tc⟩:=ce;simp only [Xz,XU,XZ,Yao] at hs ⊢;unfold chC at hs ⊢;have na:=cW a (by simp);have nb:=cW b (by simp);have nc:=cW c (by simp);refine ZaS _ _ hs rfl rfl ?_ ?_ ?_ (aU a (by simp) _) (aU b (by simp) _) (aU c (by simp) _) (by omega) (by simp only [Xc,Xe,Xg];omega);rw [<- ta];exact hr a (by simp) p sh (by have:=hs.left.left.left.left;exact this) (by omega);rw [<- tb];have h2:=hs.left.left.right;simp only [Xc,Xe,Xg] at h2;exact hr b (by simp) _ sh h2 (by omega);rw [<- tc];have h2:=hs.right;simp only [Xc,Xe,Xg] at h2;have e:p+((Zc a p).length+(0+1)+(Zc b (p+(Zc a p).length+1)).length+(0+1))=p+(Zc a p).length+1+(Zc b (p+(Zc a p).length+1)).length+1:=by omega
     rw [e] at h2;exact hr c (by simp) _ sh h2 (by omega)
   ·
     subst h6;rw [if_neg (by decide)] at hs ⊢;rcases ZoA h0 h3 mh vB with ⟨lX,ce⟩|⟨lX,ce⟩
     exfalso;apply ht;rw [dZ,lX];have nA:(l.map Zf).getD 0 0≠0:=λh=>h0 (by rw [ce,h];simp)
     unfold Z1W;split;rw [if_neg (by omega)];split;rw [if_neg (by omega)];split;rw [if_neg (by omega)];rfl;have dV:l.length=2:=by have:=congrArg List.length ce;simpa using this
     obtain ⟨a,b,rfl⟩:=Zne dV;simp only [Xz,XU,XZ,Yao] at dZ;have na:=cW a (by simp);have nb:=cW b (by simp);have ra:=Z3J a;have jD:∀ y∈[a,b],sh.length+([a,b].length - 1)+ZA y<=16:=λy hy=>by
      have:=cW y hy;simp only [Xe,Xg];omega
     have h2:sh.length+2<=16:=by
      have:1<=ZA a:=by rw [Z0J];omega
      omega
     by_cases hA:s∈Z0U;have aO:=X0.1 ZjP s hA;simp only [Xm,Bool.not_eq_true',decide_eq_false_iff_not] at aO;obtain ⟨⟨aO,lf⟩,eD⟩:=aO;obtain ⟨o1,o2,o3⟩:=Z5O aO;have cU:Zf a=Zf b/\Zf a=1:=by
      unfold Z1W at dZ;rw [if_pos hA] at dZ;split at dZ;assumption;exact absurd dZ ht
     have mj:JF 6 n s ([a,b].map Zf)=1:=by
      show JF 6 n s [Zf a,Zf b]=1;rw [dZ];unfold Z1W;rw [if_pos hA,if_pos cU]
     rw [mj];rw [if_neg (by intro h;exact lf h.2),if_neg (by intro h;exact eD h.2)] at hs ⊢;split at hs;rename_i hm;rw [if_pos hm];rw [Z2O,Xy] at hs ⊢;rw [if_pos hm.2] at o1 o2 o3;exact Z23 hr aU (ts:=[1,1]) (by simp [cU.2,<- cU.1]) (by simp) o1 hs jD o2 o3 h2;rename_i hm;rw [if_neg hm];have kH:¬ s=[45]:=λh=>hm ⟨rfl,h⟩;rw [if_neg kH,XC] at o1 o2 o3;rw [Z2O] at hs ⊢;exact Z23 hr aU (ts:=[1,1]) (by simp [cU.2,<- cU.1]) (by simp) o1 hs jD o2 o3 h2;by_cases hC:s∈Z2f;have aO:=X0.1 Znh s hC;simp only [Xm,Bool.not_eq_true',decide_eq_false_iff_not] at aO;obtain ⟨⟨⟨⟨qR,nB⟩,lf⟩,eD⟩,vC⟩:=aO;have cU:Zf a=Zf b/\¬ Zf a=2:=by
      unfold Z1W at dZ;rw [if_neg hA,if_pos hC] at dZ;split at dZ;assumption;exact absurd dZ ht
     have ml:JF 6 n s ([a,b].map Zf)=2:=by
      show JF 6 n s [Zf a,Zf b]=2;rw [dZ];unfold Z1W;rw [if_neg hA,if_pos hC,if_pos cU]
     rw [ml];rw [if_neg (by intro h;exact lf h.2),if_neg (by intro h;exact eD h.2),if_neg (by intro h;exact vC h.2),Z2O] at hs ⊢;have ka:=hk a (by simp);have cD:Zf a=1\/Zf a=3:=by omega
     rcases cD with h|h
     obtain ⟨o1,o2,o3⟩:=Z5O qR;exact Z23 hr aU (ts:=[1,1]) (by simp [h,<- cU.1]) (by simp) o1 hs jD o2 o3 h2;obtain ⟨o1,o2,o3⟩:=Z5O nB;exact Z23 hr aU (ts:=[3,3]) (by simp [h,<- cU.1]) (by simp) o1 hs jD o2 o3 h2;have hL:s∈Z0H:=by
      by_cases hL:s∈Z0H;exact hL;exfalso;apply ht;show JF 6 n s [Zf a,Zf b]=0;rw [dZ];unfold Z1W;rw [if_neg hA,if_neg hC,if_neg hL]
     have cU:Zf a=Zf b/\Zf a=2:=by
      unfold Z1W at dZ;rw [if_neg hA,if_neg hC,if_pos hL] at dZ;split at dZ;assumption;exact absurd dZ ht
     have ml:JF 6 n s ([a,b].map Zf)=2:=by
      show JF 6 n s [Zf a,Zf b]=2;rw [dZ];unfold Z1W;rw [if_neg hA,if_neg hC,if_pos hL,if_pos cU]
     rw [ml];have hconst:∀ (z:Int) (q:Nat),(z=0\/z=1)->Seg C q [⟨2,z⟩]->Z2N C q [⟨2,z⟩] sh (sh++[2]):=λz q hz vD=>by
      have dh:Jj ⟨2,z⟩ []=some [2]:=by simp [Jj,ZB,hz]
      have:=Z22 (s:=sh) dh (by simp only [Xe,Xg];omega);rw [XC] at this;exact Z5N vD (by simp) (by simp) (by simp) this
     simp only [Z0H,Xb,Xj,or_false] at hL;rcases hL with hL|hL
     rw [if_pos ⟨rfl,hL⟩] at hs ⊢;simp only [Xz,XU,XZ,Yao] at hs ⊢;unfold chC at hs ⊢;refine ZaS _ _ hs rfl rfl ?_ ?_ ?_ (aU a (by simp) _) (aU b (by simp) _) (by simp) (by omega) (by simp only [Xc,Xe,Xg];omega);have h1:=hr a (by simp) p sh hs.left.left.left.left (by omega);rw [cU.2] at h1;exact h1;have h2:=hs.left.left.right;simp only [Xc,Xe,Xg] at h2;have h1:=hr b (by simp) _ sh h2 (by omega);rw [<- cU.1,cU.2] at h1;exact h1;have h2:=hs.right;simp only [Xc,Xe,Xg] at h2;have e:p+((Zc a p).length+(0+1)+(Zc b (p+(Zc a p).length+1)).length+(0+1))=p+(Zc a p).length+1+(Zc b (p+(Zc a p).length+1)).length+1:=by omega
     rw [e] at h2;exact hconst 0 _ (.inl rfl) h2;have qS:¬ ((6:Int)=6/\s=[97,110,100]):=by rintro ⟨_,h⟩;rw [hL] at h;exact absurd h (by decide)
     rw [if_neg qS,if_pos ⟨rfl,hL⟩] at hs ⊢;simp only [Xz,XU,XZ,Yao] at hs ⊢;unfold chC at hs ⊢;refine ZaS _ _ hs rfl rfl ?_ ?_ ?_ (aU a (by simp) _) (by simp) (aU b (by simp) _) (by omega) (by simp only [Xc,Xe,Xg];omega);have h1:=hr a (by simp) p sh hs.left.left.left.left (by omega);rw [cU.2] at h1;exact h1;have h2:=hs.left.left.right;simp only [Xc,Xe,Xg] at h2;exact hconst 1 _ (.inr rfl) h2;have h2:=hs.right;simp only [Xc,Xe,Xg] at h2;have e:p+((Zc a p).length+(0+1)+(0+1)+(0+1))=p+(Zc a p).length+1+(0+1)+1:=by omega
     rw [e] at h2;have h1:=hr b (by simp) _ sh h2 (by omega);rw [<- cU.1,cU.2] at h1;exact h1
   ·
     obtain ⟨e,he,iU,bF⟩:=Zgl (by rw [<- tF];exact ht);have aO:=X0.1 Zng e he;unfold ZoB at aO;rw [bF] at aO;simp only [Xm,decide_eq_true_eq] at aO;obtain ⟨⟨⟨k9,k6⟩,gI⟩,lg⟩:=aO;rw [<- iU] at k9 k6 gI lg;simp only at k9 k6 gI lg;obtain ⟨o1,o2,o3⟩:=Z5O lg;rw [if_neg k9,if_neg (by intro h;exact k6 h.1),if_neg (by intro h;exact k6 h.1),if_neg (by intro h;exact k6 h.1),Z2O] at hs ⊢;rw [tF];have ce:l.map Zf=(if (l.map Zf).getD 1 0=0 then [(l.map Zf).getD 0 0] else [(l.map Zf).getD 0 0,(l.map Zf).getD 1 0]):=by
      rcases ZoA h0 h3 mh gI with ⟨h1,h2⟩|⟨h1,h2⟩
      rw [if_pos h1];exact h2;rw [if_neg h1];exact h2
     have dV:l.length<=2:=by
      have:=congrArg List.length ce;rw [Xt] at this;split at this<;>simp only [Xe,Xg] at this<;>omega
     have h2:sh.length+2<=16:=by
      cases l with
      | nil=>exact absurd rfl hl
      | cons y r=>
        have:=cW y (by simp);have:1<=ZA y:=by rw [Z0J];omega
        omega
     exact Z23 hr aU ce hl o1 hs (λy hy=>by have:=cW y hy;omega) o2 o3 h2
theorem Z9J (y:Nd) (ht:Zf y≠0) (hn:ZA y<=12) (hl:(J2 y).length<=200):Z21 (J2 y)=(Zf y,0):=by
 have aU:=Zcg y ht 0;have aV:=Yab.2 aU;unfold J2 at hl ⊢;have ai:(Zc y 0++[(⟨24,0⟩:Ins)]).length=(Zc y 0).length+1:=by simp
 have hr:=Zgm (Zc y 0++[⟨24,0⟩]) y ht 0 [] ⟨[],[⟨24,0⟩],by simp,rfl⟩ (by simp only [Xg];omega);obtain ⟨st,r1,r2,r3,_⟩:=hr ((some []) :: List.replicate ((Zc y 0++[(⟨24,0⟩:Ins)]).length - 1) none) (by simp) (by rw [ai];omega) (by simp) (λi hi cn=>by
  cases i with
  | zero=>omega
  | succ i=>
    rw [YaM,Ybb,if_pos (by rw [ai];omega)]) (.inl (by
  rw [XM];obtain ⟨m,hm⟩:∃ m,(Zc y 0).length=m+1:=⟨(Zc y 0).length - 1,by omega⟩
  rw [hm,YaM,Ybb,if_pos (by rw [ai];omega)]))
 rw [XM] at r3;rw [XJ] at r3;unfold Z21;rw [if_neg (by rw [ai] at hl ⊢;omega)];have bj:Z3w (Zc y 0++[⟨24,0⟩]) (Zc y 0++[(⟨24,0⟩:Ins)]).length ((some []) :: List.replicate ((Zc y 0++[(⟨24,0⟩:Ins)]).length - 1) none)=some st:=by
  rw [Z9H]
  conv=>lhs;arg 3;rw [ai]
  rw [Z1q,r1,XR,XM,Z3W];have hg:(Zc y 0++[(⟨24,0⟩:Ins)]).getD (Zc y 0).length ⟨0,0⟩=⟨24,0⟩:=by simp
  rw [hg];unfold JM;rw [Xv,r3];have dh:Jj ⟨24,0⟩ [Zf y]=some [Zf y]:=by simp [Jj,ZB]
  simp only [YaC,dh];rw [if_pos trivial,if_pos (by constructor<;>simp [r2])]
 rw [bj];have e:(Zc y 0++[(⟨24,0⟩:Ins)]).length - 1=(Zc y 0).length:=by rw [ai];omega
 simp only [e];rw [Xv,r3];rfl
structure Hol where
 kind:Int
 month:Int
 day:Int
 wd:Int
 nth:Int
 off:Int
 move:Int
 first:Int
 last:Int
structure Clo where
 lo:Int
 hi:Int
 known:Int
structure Cal where
 week:List Bool
 hols:List Hol
 clos:List Clo
def ZK (d:Int):Bool:=decide (0<=d/\d<=3652058)
def Z3t (y:Int):Int:=
 let a:=y % 19
 let b:=y / 100
 let c:=y % 100
 let g:=(b - (b+8) / 25+1) / 3
 let h:=(19 * a+b - b / 4 - g+15) % 30
 let l:=(32+2 * (b % 4)+2 * (c / 4) - h - c % 4) % 7
 h+l - 7 * ((a+11 * h+22 * l) / 451)+114
def Z5P (y:Int):Int:=Z08 y (Z3t y / 31) (Z3t y % 31+1)
def Z3Y (y m wd:Int):Int:=Z08 y m 1+(wd - Z08 y m 1 % 7+7) % 7
def Zni (h:Hol) (y:Int):Option Int:=
 if y<h.first\/h.last<y then none
 else if h.kind=1 then (if Z1Z y h.month h.day then none else some (Z08 y h.month h.day))
 else if h.kind=2 then (if Z3Y y h.month h.wd+7 * (h.nth - 1)<Z08 y h.month 1+ZM y h.month then some (Z3Y y h.month h.wd+7 * (h.nth - 1)) else none)
 else if h.kind=3 then some (Z3Y y h.month h.wd+(Z08 y h.month 1+ZM y h.month - 1 - Z3Y y h.month h.wd) / 7 * 7)
 else if y<1583\/9999<y then none else some (Z5P y+h.off)
def Z3Z (m d:Int):Int:=if m=1/\d % 7=5 then d+2 else if m=2/\d % 7=5 then d - 1 else if (m=1\/m=2)/\d % 7=6 then d+1 else d
def Z2p (h:Hol) (y:Int):Option Int:=(Zni h y).bind λd=>if ZK (Z3Z h.move d) then some (Z3Z h.move d) else none
structure Z24 (h:Hol):Prop where
 k1:1<=h.kind
 k2:h.kind<=4
 m1:0<=h.move
 m2:h.move<=2
 f1:1<=h.first
 l1:h.last<=9999
 month:h.kind≠4->1<=h.month/\h.month<=12
 day:h.kind=1->1<=h.day/\h.day<=31
 wd:h.kind=2\/h.kind=3->0<=h.wd/\h.wd<=6
 nth:h.kind=2->1<=h.nth/\h.nth<=5
 off:h.kind=4->-100<=h.off/\h.off<=100
def Z8p (l:List Hol) (d:Int):Bool:=
 ZK d && [(ofM d).y - 1,(ofM d).y,(ofM d).y+1].any λy=>l.any λh=>decide (Z2p h y=some d)
def Z8q (l:List Clo) (known d:Int):Bool:=l.any λx=>decide (x.known<=known/\x.lo<=d/\d<=x.hi)
def Z9K (c:Cal) (known d:Int):Bool:=c.week.getD (d % 7).toNat false || Z8q c.clos known d || Z8p c.hols d
def Zs (c:Cal) (known d:Int):Bool:=ZK d && !Z9K c known d
structure ZjQ (c:Cal):Prop where
 week:c.week.length=7
 hols:∀ h∈c.hols,Z24 h
 few:c.hols.length<=6
def Z0q (opn:Int->Bool) (step:Int):Nat->Int->Int×Int
 | 0,_=>(0,31)
 | k+1,d=>if ZK d=true then (if opn d=true then (d,0) else Z0q opn step k (d+step)) else (0,31)
def ZQ (opn:Int->Bool) (step d:Int):Int×Int:=if ZK d=true then Z0q opn step 1001 d else (0,5)
def Z2j (opn:Int->Bool) (step:Int):Nat->Int->Int×Int
 | 0,d=>(d,0)
 | k+1,d=>if (ZQ opn step (d+step)).2=0 then Z2j opn step k (ZQ opn step (d+step)).1 else (0,31)
def Z2D (opn:Int->Bool) (d n:Int):Int×Int:=
 if ZK d=true then (if n < -1000\/1000<n then (0,2) else Z2j opn (if n<0 then -1 else 1) n.natAbs d) else (0,5)
def Zci (d n:Int):Int×Int:=
 if n < -200000\/200000<n then (0,2) else if ZK d=true then
  (let m:=12 * (ofM d).y+(ofM d).m - 1+n
   if m<12\/120000<=m then (0,5) else (Z08 (m / 12) (m % 12+1) (min (ofM d).d (ZM (m / 12) (m % 12+1))),0))
 else (0,5)
def Z40 (b:Bool):Int:=if b=true then 1 else 0
def Z4L (n:Int):Int×Int:=if n < -2147483647\/2147483647<n then (0,5) else (n,0)
def Zcj (n:Int):Int×Int:=if n<0\/3652058<n then (0,5) else (n,0)
def Ze2 (ev:List Int) (n:Int):Int×Int:=if n=1/\ev.getD 1 0=-1 then (0,32) else (ev.getD n.toNat 0,0)
def ZaT (opn:Int->Bool) (op b:Int):Int×Int:=
 if op=8 then (-b,0) else if op=19 then ZQ opn 1 b else if op=20 then ZQ opn (-1) b else (1 - b,0)
def Z2P (opn:Int->Bool) (op a b:Int):Int×Int:=
 if op=5 then Z4L (a+b) else if op=6 then Z4L (a - b) else if op=7 then Z4L (a * b)
 else if op=9 then (Z40 (decide (a<b)),0) else if op=10 then (Z40 (decide (a<=b)),0) else if op=11 then (Z40 (decide (a=b)),0)
 else if op=15 then Zcj (a+b) else if op=16 then Zcj (a+7 * b) else if op=17 then Zci a b else if op=18 then Z2D opn a b
 else if op=21 then (max a b,0) else if op=22 then (min a b,0) else (b - a,0)
def arM (op:Int):Nat:=if op=1\/op=2\/op=3\/op=4 then 0 else if op=8\/op=12\/op=19\/op=20 then 1 else 2
def JN (opn:Int->Bool) (ev:List Int) (x:Ins) (a b:Int):Int×Int:=
 if x.op=4 then Ze2 ev x.n else if arM x.op=0 then (x.n,0) else if arM x.op=1 then ZaT opn x.op b else Z2P opn x.op a b
abbrev Spn:=Int×Int
def Jz (op a b r:Int):List Spn:=
 if op=19 then [(b,r)] else if op=20 then [(r,b)] else if op=18 then (if 0<b then [(a+1,r)] else if b<0 then [(r,a - 1)] else []) else []
def JR (st:List Int) (k:Nat):Int:=if k<st.length then st.getD (st.length - 1 - k) 0 else 0
def Z4M (opn:Int->Bool) (ev:List Int) (C:List Ins):Nat->Nat->List Int->List Spn->Int×List Spn×Int
 | 0,_,_,_=>(0,[],22)
 | f + 1, i, st, sp=>
   let x:=C.getD i ⟨0,0⟩
   let b:=JR st 0
   let a:=JR st 1
   if x.op=24 then (b,sp,0)
   else if x.op=13 then Z4M opn ev C f x.n.toNat st sp
   else if x.op=14 then Z4M opn ev C f (if b=0 then x.n.toNat else i+1) st.dropLast sp
   else if (JN opn ev x a b).2=0 then Z4M opn ev C f (i+1) (st.take (st.length - arM x.op)++[(JN opn ev x a b).1]) (sp++Jz x.op a b (JN opn ev x a b).1)
   else (0,[],(JN opn ev x a b).2)
def Je (opn:Int->Bool) (ev:List Int) (C:List Ins):Int×List Spn×Int:=Z4M opn ev C C.length 0 [] []
def vOk (t v:Int):Prop:=(t=1/\-2147483647<=v/\v<=2147483647)\/(t=2/\(v=0\/v=1))\/(t=3/\0<=v/\v<=3652058)
structure Ze3 (ev:List Int):Prop where
 len:ev.length=7
 day:0<=ev.getD 0 0/\ev.getD 0 0<=3652058
 served:-1<=ev.getD 1 0/\ev.getD 1 0<=3652058
 rest:∀ i,2<=i->i<7->-2147483647<=ev.getD i 0/\ev.getD i 0<=2147483647
def Z0h (s:Shp) (st:List Int):Prop:=s.length=st.length/\∀ i (h:i<s.length) (h':i<st.length),vOk s[i] st[i]
theorem ZL {d:Int}:ZK d=true↔0<=d/\d<=3652058:=by unfold ZK;simp
theorem Zck (opn:Int->Bool) (step:Int):∀ (k:Nat) (d:Int),(Z0q opn step k d).2=0->ZK (Z0q opn step k d).1=true/\opn (Z0q opn step k d).1=true
 | 0,d,h=>by simp [Z0q] at h
 | k + 1, d, h => by
   unfold Z0q at h ⊢;split at h;rename_i h1;rw [if_pos h1];split at h;rename_i h2;rw [if_pos h2];exact ⟨h1,h2⟩;rename_i h2;rw [if_neg h2];exact Zck opn step k _ h;simp at h
theorem Z41 {opn:Int->Bool} {step d:Int} (h:(ZQ opn step d).2=0):ZK (ZQ opn step d).1=true/\ZK d=true:=by
 unfold ZQ at h ⊢;split at h;rename_i h1;rw [if_pos h1];exact ⟨(Zck _ _ _ _ h).1,h1⟩;simp at h
theorem Zf3 (opn:Int->Bool) (step:Int):∀ (k:Nat) (d:Int),ZK d=true->(Z2j opn step k d).2=0->ZK (Z2j opn step k d).1=true
 | 0,d,hd,h=>hd
 | k + 1, d, hd, h => by
   unfold Z2j at h ⊢;split at h;rename_i h1;rw [if_pos h1];exact Zf3 opn step k _ (Z41 h1).1 h;simp at h
theorem Znj {opn:Int->Bool} {d n:Int} (h:(Z2D opn d n).2=0):ZK (Z2D opn d n).1=true:=by
 unfold Z2D at h ⊢;split at h;rename_i h1;rw [if_pos h1];split at h;simp at h;rename_i h2;rw [if_neg h2];exact Zf3 _ _ _ _ h1 h;simp at h
theorem dayM_range {y m d:Int} (hy:1<=y) (eB:y<=9999) (hm:1<=m) (eW:m<=12) (hd:1<=d) (kU:d<=ZM y m):0<=Z08 y m d/\Z08 y m d<=3652058:=by
 obtain ⟨k,hk⟩:∃ k:Nat,m=(k:Int)+1:=⟨(m - 1).toNat,by omega⟩
 subst hk;have hk:k<=11:=by omega
 rw [Z2K y d k hk];have h0:Z1c 1=0:=by decide
 have h1:=Z3R hy;have h2:=Z3R (show y+1<=10000 by omega);have h3:Z1c 10000=3652059:=by decide
 have gI:0<=Z2i y k:=by
  have:=Z4r (y:=y) (Xq k) (by omega);simpa [Z2i] using this
 have hc:Z2i y (k+1)=Z2i y k+ZM y ((k:Int)+1):=by simp [Z2i]
 have vE:=Z4r (y:=y) (show k+1<=12 by omega) (Xn _);have hs:=Z71 y;have mm:=Zwt y;omega
theorem Znk {d n:Int} (h:(Zci d n).2=0):ZK (Zci d n).1=true:=by
 unfold Zci at h ⊢;split at h;simp at h;rename_i h0;rw [if_neg h0];split at h;rename_i h1;rw [if_pos h1];dsimp only at h ⊢;split at h;simp at h;rename_i h2;rw [if_neg h2];rw [ZL] at h1 ⊢;obtain ⟨a1,a2,a3,a4,a5,a6,a7⟩:=ZaF h1.1 h1.2;generalize 12 * (ofM d).y+(ofM d).m - 1+n=m at h2;have hk:(m % 12).toNat<12:=by omega
 have hl:=Z2o (y:=m / 12) hk;rw [show (((m % 12).toNat:Int))=m % 12 by omega] at hl;dsimp only;exact dayM_range (by omega) (by omega) (by omega) (by omega) (by omega) (by omega);simp at h
theorem Z0h.nil:Z0h [] []:=⟨rfl,λi h=>absurd h (Xs _)⟩
theorem Z0h.one {t v:Int} (h:vOk t v):Z0h [t] [v]:=⟨rfl,λi hi _=>by
 have:i=0:=by simpa using hi
 subst this;exact h⟩
theorem Z0h.app {s1 s2:Shp} {l1 l2:List Int} (h1:Z0h s1 l1) (h2:Z0h s2 l2):Z0h (s1++s2) (l1++l2):=by
 refine ⟨by simp [h1.1,h2.1],λi h h'=>?_⟩;by_cases hi:i<s1.length;rw [Yaa hi,Yaa (by rw [<- h1.1];exact hi)];exact h1.2 i hi _;have e:=h1.1;rw [X4 (by omega),X4 (by omega)];have:=h2.2 (i - s1.length) (by simp at h;omega) (by simp at h';omega);simpa [e] using this
theorem Z0h.take {s:Shp} {l:List Int} (h:Z0h s l) (k:Nat):Z0h (s.take k) (l.take k):=
 ⟨by simp [h.1],λi hi cA=>by simp at hi cA ⊢;exact h.2 i _ _⟩
theorem Z0h.drop {s:Shp} {l:List Int} (h:Z0h s l) (k:Nat):Z0h (s.drop k) (l.drop k):=
 ⟨by simp [h.1],λi hi cA=>by simp at hi cA ⊢;exact h.2 _ _ _⟩
theorem Z0h.one_inv {t:Int} {l:List Int} (h:Z0h [t] l):∃ v,l=[v]/\vOk t v:=by
 match l,h with
 | [v],h=>exact ⟨v,rfl,h.2 0 (by simp) (by simp)⟩
 | [],h=>exact absurd h.1 (by simp)
 | _ :: _ :: _,h=>exact absurd h.1 (by simp)
theorem Z0h.two_inv {t u:Int} {l:List Int} (h:Z0h [t,u] l):∃ a b,l=[a,b]/\vOk t a/\vOk u b:=by
 match l,h with
 | [a,b],h=>exact ⟨a,b,rfl,h.2 0 (by simp) (by simp),h.2 1 (by simp) (by simp)⟩
 | [],h=>exact absurd h.1 (by simp)
 | [_],h=>exact absurd h.1 (by simp)
 | _ :: _ :: _ :: _,h=>exact absurd h.1 (by simp)
theorem Z1P (l:List Int) (v:Int):JR (l++[v]) 0=v:=by
 unfold JR;simp
theorem Jp (l:List Int) (a b:Int):JR (l++[a,b]) 0=b/\JR (l++[a,b]) 1=a:=by
 unfold JR;constructor<;>simp [Xv,Yak]
theorem Znl {n:Int} (h:(Z4L n).2=0):vOk 1 (Z4L n).1:=by
 unfold Z4L at h ⊢;split at h;simp at h;rename_i h1;rw [if_neg h1];left;refine ⟨rfl,?_,?_⟩<;>dsimp only<;>omega
theorem Znm {n:Int} (h:(Zcj n).2=0):vOk 3 (Zcj n).1:=by
 unfold Zcj at h ⊢;split at h;simp at h;rename_i h1;rw [if_neg h1];right;right;refine ⟨rfl,?_,?_⟩<;>dsimp only<;>omega
theorem Zte (b:Bool):vOk 2 (Z40 b):=by
 right;left;refine ⟨rfl,?_⟩;unfold Z40;cases b<;>simp
theorem vOk.days {v:Int} (h:ZK v=true):vOk 3 v:=.inr (.inr ⟨rfl,ZL.1 h⟩)
theorem vOk.n {v:Int} (h:vOk 1 v):-2147483647<=v/\v<=2147483647:=by unfold vOk at h;omega
theorem vOk.b {v:Int} (h:vOk 2 v):v=0\/v=1:=by unfold vOk at h;omega
theorem vOk.d {v:Int} (h:vOk 3 v):0<=v/\v<=3652058:=by unfold vOk at h;omega
theorem Z8r {x:Ins} (h:(ZB x).2.2.2=true):1<=x.op/\x.op<=24:=by
 by_cases h1:1<=x.op/\x.op<=24;exact h1
 . exfalso
   have:ZB x=([],[],[],false):=by
    unfold ZB
    repeat rw [if_neg (by omega)]
   rw [this] at h;simp at h
theorem Ztf {opn:Int->Bool} {ev:List Int} (bF:Ze3 ev) {x:Ins} {ts vs:List Int} (hx:(ZB x).2.2.2=true) (cJ:x.op≠24) (cD:x.op≠13) (dx:x.op≠14)
 (ht:ts=(ZB x).1\/(ZB x).2.1≠[]/\ts=(ZB x).2.1) (hs:Z0h ts vs) :
 ts.length=arM x.op/\(ZB x).1.length=arM x.op/\∀ st,((JN opn ev x (JR (st++vs) 1) (JR (st++vs) 0)).2=0->Z0h (ZB x).2.2.1 [(JN opn ev x (JR (st++vs) 1) (JR (st++vs) 0)).1]):=by
 have hr:=Z8r hx;obtain ⟨op,n⟩:=x;dsimp only at *;have eM:op=1\/op=2\/op=3\/op=4\/op=5\/op=6\/op=7\/op=8\/op=9\/op=10\/op=11\/op=12\/op=15\/op=16\/op=17\/op=18\/op=19\/op=20\/op=21\/op=22\/op=23:=by omega
 rcases eM with rfl|rfl|rfl|rfl|rfl|rfl|rfl|rfl|rfl|rfl|rfl|rfl|rfl|rfl|rfl|rfl|rfl|rfl|rfl|rfl|rfl
 case inl|inr.inl|inr.inr.inl=>
  simp [ZB] at hx ht ⊢;subst ht;refine ⟨rfl,rfl,λst _=>Z0h.one ?_⟩;simp [JN,arM,vOk];omega
 case inr.inr.inr.inl=>
  simp [ZB] at hx ht ⊢;subst ht;refine ⟨rfl,rfl,λst h=>Z0h.one ?_⟩;simp only [JN,if_true] at h ⊢;unfold Ze2 at h ⊢;split at h;simp at h;rename_i h1;rw [if_neg h1];dsimp only;have h0:=bF.day;have cm:=bF.served;by_cases il:n=0\/n=1;rw [if_pos il]
  right;right;rcases il with rfl|rfl
  exact ⟨rfl,h0.1,h0.2⟩;refine ⟨rfl,?_,cm.2⟩;have:¬ ev.getD 1 0=-1:=λh=>h1 ⟨rfl,h⟩;show 0<=ev.getD 1 0;omega;rw [if_neg il]
  left;exact ⟨rfl,bF.rest n.toNat (by omega) (by omega)⟩
 all_goals
  simp [ZB] at hx ht ⊢
  try subst hx
 all_goals
  first
  | (subst ht
     obtain ⟨b,rfl,hb⟩:=hs.one_inv;refine ⟨rfl,rfl,λst h=>Z0h.one ?_⟩;simp only [Z1P] at h ⊢;simp [JN,arM,ZaT,Z2P] at h ⊢;first
     | exact .days (Z41 h).1
     | (have:=hb.n;unfold vOk;omega)
     | (have:=hb.b;unfold vOk;omega))
  | (rcases ht with rfl | rfl <;>
     (obtain ⟨a,b,rfl,ha,hb⟩:=hs.two_inv
      refine ⟨rfl,rfl,λst h=>Z0h.one ?_⟩;simp only [Jp] at h ⊢;simp [JN,arM,ZaT,Z2P] at h ⊢;exact Zte _))
  | (subst ht
     obtain ⟨a,b,rfl,ha,hb⟩:=hs.two_inv;refine ⟨rfl,rfl,λst h=>Z0h.one ?_⟩;simp only [Jp] at h ⊢;simp [JN,arM,ZaT,Z2P] at h ⊢;first
     | exact Znl h
     | exact Znm h
     | exact .days (Znk h)
     | exact .days (Znj h)
     | (have:=ha.d;have:=hb.d;unfold vOk;omega))
theorem Zcl {opn:Int->Bool} {ev:List Int} (bF:Ze3 ev) {x:Ins} {s nx:Shp} {st:List Int} (hn:Jj x s=some nx) (cJ:x.op≠24) (cD:x.op≠13) (dx:x.op≠14) (hs:Z0h s st)
 (he:(JN opn ev x (JR st 1) (JR st 0)).2=0):Z0h nx (st.take (st.length - arM x.op)++[(JN opn ev x (JR st 1) (JR st 0)).1]):=by
 unfold Jj at hn;dsimp only at hn;split at hn;rename_i hc;obtain ⟨c1,c2,c3,c4⟩:=hc;simp only [XH] at hn;subst hn;have bt:st=st.take (s.length - (ZB x).1.length)++st.drop (s.length - (ZB x).1.length):=(XK _ _).symm;obtain ⟨v1,v2,v3⟩:=Ztf (opn:=opn) bF c1 cJ cD dx c3 (hs.drop _);have v4:=v3 (st.take (s.length - (ZB x).1.length));rw [<- bt] at v4;rw [<- v2,<- hs.1];exact (hs.take _).app (v4 he);cases hn
end Go.Proofs.YtipfkbkkndacjaaGreatDoor
namespace Go.Eng
open Go Go.RowKit Go.Proofs
end Go.Eng
namespace Go.Proofs.YtipfkbkkndacjaaGreatDoor
open Go Go.Eng Go.RowKit
instance:Z3 Hol where
 k:=9
 enc:=λh=>[.I h.kind,.I h.month,.I h.day,.I h.wd,.I h.nth,.I h.off,.I h.move,.I h.first,.I h.last]
 len:=λ_=>rfl
 one:=by intro x u hu;simp at hu;rcases hu with rfl|rfl|rfl|rfl|rfl|rfl|rfl|rfl|rfl<;>rfl
instance:Z3 Clo where
 k:=3
 enc:=λh=>[.I h.lo,.I h.hi,.I h.known]
 len:=λ_=>rfl
 one:=by intro x u hu;simp at hu;rcases hu with rfl|rfl|rfl<;>rfl
instance:Z3 Spn where
 k:=2
 enc:=λh=>[.I h.1,.I h.2]
 len:=λ_=>rfl
 one:=by intro x u hu;simp at hu;rcases hu with rfl|rfl<;>rfl
def Z6A:List Int:=[0,0,0,0,0,0,0,0,0,0,0,0,2,1,0,0,0,0,0,-1,1]
def Z3g (w:World):Prop:=∀ i u,Z6A[i]?=some u->w.cell? ⟨4,i,none⟩=some (.I u)
theorem Z3g.ext {S:List Nat} {w w':World} (h:Z3g w) (hS:Stp S w w') (hb:4∉S):Z3g w':=λi u hu=>hS.cell hb (h i u hu)
theorem Z3g.up {w w':World} (h:Z3g w) (hS:Stp [] w w'):Z3g w':=h.ext hS (by simp)
structure MK where
 w0:World
 bm:Nat
 nk:Option Nat
 ev:List Int
 c:Cal
 kn:Int
 hv:Value
 cv:Value
 zo:Value
 zs:Value
 hr:Value
 pr:List (Nat×Obj)
def Z06 (c:Cal) (hv cv zo zs hr:Value):List Value:=
 [.B (c.week.getD 0 false),.B (c.week.getD 1 false),.B (c.week.getD 2 false),.B (c.week.getD 3 false),.B (c.week.getD 4 false),.B (c.week.getD 5 false),.B (c.week.getD 6 false),hv,cv,zo,zs,hr]
def evC (ev:List Int):List Value:=[.I (ev.getD 0 0),.I (ev.getD 1 0),.I (ev.getD 2 0),.I (ev.getD 3 0),.I (ev.getD 4 0),.I (ev.getD 5 0),.I (ev.getD 6 0)]
def ZoC (nk:Option Nat):Value:=match nk with|none=>.nilIface|some bs=>.func (.func 80) #[] #[pQ bs]
def Z5Q (K:MK) (sv:Value) (at_ er:Int) (dn:Bool):List Value:=
 evC K.ev++Z06 K.c K.hv K.cv K.zo K.zs K.hr++[.I K.kn,sv,.I at_,.I er,.B dn,ZoC K.nk]
def MK.own (K:MK):List Nat:=K.bm :: K.nk.toList
structure KOk (K:MK):Prop where
 hols:SlV K.own K.w0 K.hv K.c.hols
 clos:SlV K.own K.w0 K.cv K.c.clos
 ozo:K.zo.oneCell'=true
 ozs:K.zs.oneCell'=true
 ohr:K.hr.oneCell'=true
 len:Z0x K.w0
 mov:Z3g K.w0
 bml:K.bm<K.w0.heap.size
 nkl:∀ b,K.nk=some b->b<K.w0.heap.size/\b≠K.bm
 gl:∀ b∈K.own,b≠3/\b≠4
 cal:ZjQ K.c
 ev:Ze3 K.ev
 nks:K.nk≠none
structure Mch (K:MK) (w:World) (sv pv:Value) (st:List Int) (sp:List Spn) (at_ er:Int) (dn:Bool):Prop where
 blk:Blk w K.bm 167 (Z5Q K sv at_ er dn)
 row:Row [] w K.w0.heap.size 3 sv st
 nt:∀ bs,K.nk=some bs->Blk w bs 27 [pv]/\Row [] w K.w0.heap.size 75 pv sp
 nt0:K.nk=none->pv=.N
 ap:∀ b∈ob sv,b∉ob pv
 stp:Stp K.own K.w0 w
 prot:∀ p∈K.pr,w.heap[p.1]?=some p.2/\p.1∉K.own/\p.1∉ob sv/\p.1∉ob pv
section
variable {K:MK} {w w':World} {sv pv:Value} {st:List Int} {sp:List Spn} {at_ er:Int} {dn:Bool}
theorem Mch.up (h:Mch K w sv pv st sp at_ er dn) (hS:Stp [] w w'):Mch K w' sv pv st sp at_ er dn:=
 ⟨h.blk.up hS,h.row.up hS,λbs hb=>⟨(h.nt bs hb).1.up hS,(h.nt bs hb).2.up hS⟩,h.nt0,h.ap,h.stp.trans hS.mn,λp hp=>let ⟨a,b,c,d⟩:=h.prot p hp;⟨(hS.block p.1 (Xl.1 a).1 (by simp)).trans a,b,c,d⟩⟩
theorem Mch.hols (hK:KOk K) (h:Mch K w sv pv st sp at_ er dn):SlV K.own w K.hv K.c.hols:=hK.hols.ext h.stp (λb hb=>hb) (λb hb=>.inl hb)
theorem Mch.clos (hK:KOk K) (h:Mch K w sv pv st sp at_ er dn):SlV K.own w K.cv K.c.clos:=hK.clos.ext h.stp (λb hb=>hb) (λb hb=>.inl hb)
theorem Mch.len (hK:KOk K) (h:Mch K w sv pv st sp at_ er dn):Z0x w:=hK.len.ext h.stp (λhb=>(hK.gl _ hb).1 rfl)
theorem Mch.mov (hK:KOk K) (h:Mch K w sv pv st sp at_ er dn):Z3g w:=hK.mov.ext h.stp (λhb=>(hK.gl _ hb).2 rfl)
theorem Mch.put (hK:KOk K) (h:Mch K w sv pv st sp at_ er dn) {at' er':Int} {dn':Bool} (hS:Stp [K.bm] w w') (hb:Blk w' K.bm 167 (Z5Q K sv at' er' dn')):Mch K w' sv pv st sp at' er' dn':=by
 have hl:∀ v,(∀ b∈ob v,K.w0.heap.size<=b)->∀ b∈[K.bm],b∉ob v:=λv hv b hb h2=>by
  have:=hK.bml;have:=hv b h2;simp at hb;omega
 refine ⟨hb,h.row.keep hS (hl _ (λb hb=>(h.row.ob_le b hb).1)),λbs dD=>?_,h.nt0,h.ap,h.stp.trans (hS.mono (by simp [MK.own])),λp hp=>let ⟨a,b,c,d⟩:=h.prot p hp;⟨(hS.block p.1 (Xl.1 a).1 (λe=>b (by simp at e;rw [e];exact YaS))).trans a,b,c,d⟩⟩;obtain ⟨h1,h2⟩:=h.nt bs dD;exact ⟨h1.ext hS (by have:=(hK.nkl bs dD).2;simpa using this),h2.keep hS (hl _ (λb hb=>(h2.ob_le b hb).1))⟩
theorem Mch.stack (hK:KOk K) (h:Mch K w sv pv st sp at_ er dn) {sv':Value} {st':List Int} {w2:World} (hS:Stp (ob sv) w w') (hr:Row [] w' K.w0.heap.size 3 sv' st') (ho:∀ b∈ob sv',b∈ob sv\/w.heap.size<=b)
 (ah:Stp [K.bm] w' w2) (hb:Blk w2 K.bm 167 (Z5Q K sv' at_ er dn)):Mch K w2 sv' pv st' sp at_ er dn:=by
 have kZ:=hK.bml;have ke:=λb hb=>(hr.ob_le b hb).1;have fV:=λb hb=>(h.row.ob_le b hb).1;have hl:=h.stp.size;refine ⟨hb,hr.keep ah (λb hb h2=>by have:=ke b h2;simp at hb;omega),λbs dD=>?_,h.nt0,λb hb hp=>?_,?_,λp hp=>?_⟩;obtain ⟨h1,h2⟩:=h.nt bs dD;have hn:=hK.nkl bs dD;have qT:=λb hb=>(h2.ob_le b hb).1;refine ⟨(h1.ext hS (λhx=>by have:=fV _ hx;omega)).ext ah (by simpa using hn.2),(h2.keep hS (λb hb=>h.ap b hb)).keep ah (λb hb hx=>by have:=qT _ hx;simp at hb;omega)⟩
 . cases hk:K.nk with
   | none=>rw [h.nt0 hk] at hp;simp [ob] at hp
   | some bs=>
     obtain ⟨h1,h2⟩:=h.nt bs hk;rcases ho b hb with h3|h3
     exact h.ap b h3 hp;have:=(h2.ob_le b hp).2;omega
 refine (h.stp.own (S':=ob sv) hS (λb hb=>.inr (fV b hb))).trans (ah.mono (by simp [MK.own]));obtain ⟨a,b,c,d⟩:=h.prot p hp;have hlt:=(Xl.1 a).1;have a2:=(hS.block p.1 hlt c).trans a;have a3:=(ah.block p.1 (Xl.1 a2).1 (λe=>b (by simp at e;rw [e];exact YaS))).trans a2;exact ⟨a3,b,λh3=>(ho _ h3).elim c (λh4=>by omega),d⟩
theorem ZjR (hK:KOk K) (h:Mch K w sv pv st sp at_ er dn) (n e:Int) (hl:st.length<=100000) :
 CC 203 #[.pointer (some ⟨K.bm,0,none⟩),.I n,.I e] w λr w'=>r=.tuple #[]/\∃ sv',Mch K w' sv' pv (if e=0 then st++[n] else st) sp at_ (if e=0 then er else e) (if e=0 then dn else true):=by
 have ac:=h.blk;have ab:=h.row;unfold Z5Q at ac;refine cW3 25 Tryz.func203 ?_;by_cases he:e=0;subst he;rw [if_pos rfl,if_pos rfl,if_pos rfl];refine QO ?_;refine Z0 (Z1 (vs:=[(0,.I n)]) rfl (Zt _)) rfl ?_;rintro bv w1 hN;have ae:=Z9.stp hN;have aq:SlV (ob sv++[]) w1 bv [n]:=hN.slv (λb hb=>by simp at hb;exact (ab.ob_le b hb).2) rfl rfl (by simp [maxLen]);replace h:=h.up ae;replace ab:=ab.up ae;replace ac:=ac.up ae;refine Z0 (ZF rfl (by decide) rfl rfl ab aq (by simp;omega) (by simp [maxLen];omega) (h.stp.size)) rfl ?_;rintro sv' w2 ⟨dg,ah,ho⟩;have aP:=ac.ext ah (λhx=>by have:=(ab.ob_le _ hx).1;have:=hK.bml;omega);refine W ?_;have h1:=dg.slv (X:=[]) (by simp);refine Z6 (Zb (u:=sv') rfl rfl h1.cells h1.one aP (by simp [evC,Z06])) ?_;rintro _ w3 ⟨ak,aL⟩;refine W ?_;refine WR ?_;refine .mk ⟨rfl,sv',h.stack hK ah dg ho ak aL⟩;rw [if_neg he,if_neg he,if_neg he];refine QO ?_;refine Z6 (Zb (u:=.I e) rfl rfl rfl rfl ac (by simp [evC,Z06])) ?_;rintro _ w1 ⟨ae,cj⟩;refine W ?_;refine Z6 (Zb (u:=.B true) rfl rfl rfl rfl cj (by simp [evC,Z06])) ?_;rintro _ w2 ⟨ah,aP⟩;refine RT ?_;exact ⟨rfl,sv,h.put hK (ae.trans ah) aP⟩
end
end Go.Proofs.YtipfkbkkndacjaaGreatDoor
namespace Go.Eng
open Go Go.RowKit Go.Proofs
section
variable {P:Program} {n:Nat} {e:Env} {w:World} {d:Option Nat} {ty:TypeId} {pos:String} {af:Array Edge} {g:Option (Nat×Bool)} {rest:List Oper} {ops:Array Oper} {Q:Exit->Act->World->Prop}
theorem Z25 {α:Type} [Z5 α] {X:List Nat} {v:Value} {xs:List α} {i:Nat} {cs:List Value} {x:Operand} {t:TypeId} {D:TypeDesc} [hu:Und P t D] (hA:Z0R D=true) [bG:Siz P t (Z5.k α)] (hx:ev e x=some (.pointer (some (ZD v i (Z5.k α) 0)))) (hs:SlV X w v xs) (hi:i<xs.length)
 (hr:Z5.rep X w xs[i] cs) (hc:∀ j u,cs[j]?=some u->w.cell? (ZD v i (Z5.k α) j)=some u):PR P n ⟨d,.load t x,ty,pos,af,g⟩ e w (.agg cs.toArray):=by
 obtain ⟨p,l',c,rfl⟩:=hs.isSome hi;refine Z3z (cs:=cs) hA hx (Z5.len hr) (λj u hu=>?_);have:=hc j u hu;simpa [ZD] using this
end
structure Fct where
 entry:Int
 kind:Str
 day:Int
 by_:Int
 to_:Int
 amt:Int
deriving DecidableEq
instance:Inhabited Fct:=⟨⟨0,[],0,0,0,0⟩⟩
instance:Z3 Fct where
 k:=6
 enc:=λx=>[.I x.entry,str x.kind,.I x.day,.I x.by_,.I x.to_,.I x.amt]
 len:=λ_=>rfl
 one:=by intro x u hu;simp at hu;rcases hu with rfl|rfl|rfl|rfl|rfl|rfl<;>rfl
structure Rsn where
 kind:Int
 a:Int
 b:Int
deriving DecidableEq
instance:Z3 Rsn where
 k:=3
 enc:=λx=>[.I x.kind,.I x.a,.I x.b]
 len:=λ_=>rfl
 one:=by intro x u hu;simp at hu;rcases hu with rfl|rfl|rfl<;>rfl
structure Rtn where
 crr:Int
 kind:Int
 lo:Int
 hi:Int
deriving DecidableEq
instance:Z3 Rtn where
 k:=4
 enc:=λx=>[.I x.crr,.I x.kind,.I x.lo,.I x.hi]
 len:=λ_=>rfl
 one:=by intro x u hu;simp at hu;rcases hu with rfl|rfl|rfl|rfl<;>rfl
structure Crr where
 extra:Int
 tol:Int
deriving DecidableEq
instance:Z3 Crr where
 k:=2
 enc:=λx=>[.I x.extra,.I x.tol]
 len:=λ_=>rfl
 one:=by intro x u hu;simp at hu;rcases hu with rfl|rfl<;>rfl
structure Svc where
 day:Int
 extra:Int
 att:Int
deriving DecidableEq
instance:Z3 Svc where
 k:=3
 enc:=λx=>[.I x.day,.I x.extra,.I x.att]
 len:=λ_=>rfl
 one:=by intro x u hu;simp at hu;rcases hu with rfl|rfl|rfl<;>rfl
structure Atp where
 entry:Int
 party:Int
 crr:Int
 sent:Int
 rets:List Rtn
instance:Inhabited Atp:=⟨⟨0,0,0,0,[]⟩⟩
abbrev atC (a:Atp) (rv:Value):List Value:=[.I a.entry,.I a.party,.I a.crr,.I a.sent,rv]
instance:Z5 Atp where
 k:=5
 rep:=λX w a cs=>∃ rv,cs=atC a rv/\SlV X w rv a.rets
 len:=λ⟨_,h,_⟩=>h ▸ rfl
 one:=by
  rintro X w a cs ⟨rv,rfl,h⟩ u hu;have:=h.one;simp only [Xb,Xj,or_false] at hu;rcases hu with rfl|rfl|rfl|rfl|rfl<;>first|rfl|assumption
 ext:=λ⟨rv,h,hs⟩ hS h1 h2=>⟨rv,h,hs.ext hS h1 h2⟩
structure Dln where
 rule:Str
 trig:Fct
 party:Int
 due:Int
 stat:Int
 reas:List Rsn
instance:Inhabited Dln:=⟨⟨[],default,0,0,0,[]⟩⟩
abbrev dlC (a:Dln) (rv:Value):List Value:=[str a.rule,.I a.trig.entry,str a.trig.kind,.I a.trig.day,.I a.trig.by_,.I a.trig.to_,.I a.trig.amt,.I a.party,.I a.due,.I a.stat,rv]
instance:Z5 Dln where
 k:=11
 rep:=λX w a cs=>∃ rv,cs=dlC a rv/\SlV X w rv a.reas
 len:=λ⟨_,h,_⟩=>h ▸ rfl
 one:=by
  rintro X w a cs ⟨rv,rfl,h⟩ u hu;have:=h.one;simp only [Xb,Xj,or_false] at hu;rcases hu with rfl|rfl|rfl|rfl|rfl|rfl|rfl|rfl|rfl|rfl|rfl<;>first|rfl|assumption
 ext:=λ⟨rv,h,hs⟩ hS h1 h2=>⟨rv,h,hs.ext hS h1 h2⟩
end Go.Eng
namespace Go.Proofs.YtipfkbkkndacjaaGreatDoor
open Go Go.Eng Go.RowKit
instance:Z5 Cr where
 k:=7
 rep:=λX w q cs=>∃ kc kd,cs=crC q kc kd/\SlV X w kc q.cnd/\SlV X w kd q.due
 len:=λ⟨_,_,h,_⟩=>h ▸ rfl
 one:=λ⟨_,_,h,h1,h2⟩=>h ▸ Z0k h1 h2
 ext:=λ⟨kc,kd,h,h1,h2⟩ hS g1 g2=>⟨kc,kd,h,h1.ext hS g1 g2,h2.ext hS g1 g2⟩
structure Cas where
 fcts:List Fct
 ruls:List Cr
 atts:List Atp
 crrs:List Crr
 stys:List Spn
 cal:Cal
 court:Int
 today:Int
structure Z0X where
 fv:Value
 rv:Value
 av:Value
 cv:Value
 sv:Value
 hv:Value
 lv:Value
 zo:Value
 zs:Value
 hr:Value
abbrev Jl (c:Cas) (R:Z0X):List Value:=[R.fv,R.rv,R.av,R.cv,R.sv]++Z06 c.cal R.hv R.lv R.zo R.zs R.hr++[.I c.court,.I c.today]
end Go.Proofs.YtipfkbkkndacjaaGreatDoor
namespace Go.Eng
open Go Go.RowKit Go.Proofs
variable {P:Program} {n:Nat} {Q:Exit->Act->World->Prop} {e:Env} {w w0:World} {rest:List Oper} {ops:Array Oper} {ty:TypeId} {pos:String} {af:Array Edge}
theorem Stp.cell0 {w w':World} {ad:Addr} {u:Value} (h:Stp [] w w') (hc:w.cell? ad=some u):w'.cell? ad=some u:=by
 have hlt:ad.block<w.heap.size:=block_lt_of_cell hc;rw [<- hc];exact World.cell?_of_block (w:=w) (h.block ad.block hlt (by simp))
theorem CP {S:List Nat} {f d:Nat} {fn:Func} {xs:Array Operand} {ts:Array TypeId} {vs:Array Value} {r:Value} {c:Operand} [hf:Fun P f fn] (hS:Stp S w0 w) (h:Calls P f vs w (Ret λv w'=>v=r/\Stp [] w w')) (k:∀ w',Stp [] w w'->Stp S w0 w'->WL P n ops Q rest ((d,r) :: e) w')
 (hc:ev e c=some (.func (.func f) #[] #[]):=by exact rfl) (hv:∀ a,Has n e a->xs.map a.eval=vs:=by first|exact ZR rfl|exact Zd rfl rfl|exact ZN rfl rfl rfl|exact Z7o rfl rfl rfl rfl|exact Z6h) (hd:Nat.blt d n=true:=by exact rfl) :
 WL P n ops Q (⟨some d,.call { callee:=.value c,args:=xs,argTypes:=ts },ty,pos,af,none⟩ :: rest) e w:=
 Z0 (Z4 hc hv h) hd (by rintro _ w' ⟨rfl,hT⟩;exact k w' hT (hS.trans hT.mn))
theorem CG {f d:Nat} {fn:Func} {xs:Array Operand} {ts:Array TypeId} {vs:Array Value} {G:Value->World->Prop} {c:Operand} [hf:Fun P f fn] (h:Calls P f vs w (Ret G)) (k:∀ v w',G v w'->WL P n ops Q rest ((d,v) :: e) w')
 (hc:ev e c=some (.func (.func f) #[] #[]):=by exact rfl) (hv:∀ a,Has n e a->xs.map a.eval=vs:=by first|exact ZR rfl|exact Zd rfl rfl|exact ZN rfl rfl rfl|exact Z7o rfl rfl rfl rfl|exact Z6h) (hd:Nat.blt d n=true:=by exact rfl) :
 WL P n ops Q (⟨some d,.call { callee:=.value c,args:=xs,argTypes:=ts },ty,pos,af,none⟩ :: rest) e w:=
 Z0 (Z4 hc hv h) hd k
theorem BX {S:List Nat} {d:Nat} {t:TypeId} {x:Operand} {v:Value} (hS:Stp S w0 w) (k:∀ b w',w.heap.size<=b->Blk w' b t v.cells.toList->Stp [] w w'->Stp S w0 w'->WL P n ops Q rest ((d,pQ b) :: e) w')
 (hx:ev e x=some v:=by exact rfl) (hd:Nat.blt d n=true:=by exact rfl):WL P n ops Q (⟨some d,.box t x,ty,pos,af,none⟩ :: rest) e w:=
 Z0 (Zr hx) hd (by rintro _ w' ⟨b,rfl,hb,hk,hT⟩;exact k b w' hb hk hT (hS.trans hT.mn))
theorem JS {Lt:List Nat} {ord:List (Nat×Nat)} {i d:Nat} {gd:Option (Nat×Bool)} {x:Operand} {t:TypeId} {D:TypeDesc} {ad:Addr} {v:Value} [hu:Und P t D] (hi:ops[i]?=some ⟨some d,.load t x,ty,pos,af,gd⟩) (hg:Z02 ops e gd) (hA:Z0R D=false) (hx:ev e x=some (.pointer (some ad))) (hc:w.cell? ad=some v) (hd:Nat.blt d n=true)
 (k:WD P n ops [] Lt Q ord ((d,v) :: e) w):WD P n ops [] Lt Q ((i,1) :: ord) e w:=WD_read hi hg (λ_ hS=>JI hA hx (hS.cell0 hc)) hd k
theorem DP {S S0:List Nat} {Lt:List Nat} {ord:List (Nat×Nat)} {i f d:Nat} {fn:Func} {gd:Option (Nat×Bool)} {xs:Array Operand} {ts:Array TypeId} {vs:Array Value} {r:Value} {c:Operand} [hf:Fun P f fn] (hS:Stp S0 w0 w) (h:Calls P f vs w (Ret λv w'=>v=r/\Stp [] w w')) (k:∀ w',Stp [] w w'->Stp S0 w0 w'->WD P n ops S Lt Q ord ((d,r) :: e) w')
 (hi:ops[i]?=some ⟨some d,.call { callee:=.value c,args:=xs,argTypes:=ts },ty,pos,af,gd⟩:=by exact rfl) (hg:Z02 ops e gd:=by first|exact trivial|exact rfl)
 (hc:ev e c=some (.func (.func f) #[] #[]):=by exact rfl) (hv:∀ a,Has n e a->xs.map a.eval=vs:=by first|exact ZR rfl|exact Zd rfl rfl|exact ZN rfl rfl rfl|exact Z7o rfl rfl rfl rfl|exact Z6h) (hd:Nat.blt d n=true:=by exact rfl) :
 WD P n ops S Lt Q ((i,2) :: ord) e w:=
 Za hi hg (Z4 hc hv h) (λ_ _ h=>h.2.mn) hd (by rintro _ w' ⟨rfl,hT⟩;exact k w' hT (hS.trans hT.mn))
end Go.Eng
namespace Go.Proofs.YtipfkbkkndacjaaGreatDoor
open Go Go.Eng Go.RowKit
def ZjS (l:List Cr) (nm:Str) (day b:Int) (i:Nat):Prop:=(l.getD i crZ).name=nm/\(l.getD i crZ).frm<=day/\(b<0\/(l.getD b.toNat crZ).frm<=(l.getD i crZ).frm)
instance (l:List Cr) (nm:Str) (day b:Int) (i:Nat):Decidable (ZjS l nm day b i):=by unfold ZjS;infer_instance
def Z2E (l:List Cr) (nm:Str) (day:Int):Nat->Int
 | 0=>-1
 | k+1=>if ZjS l nm day (Z2E l nm day k) k then k else Z2E l nm day k
def ZaU (l:List Cr) (nm:Str) (day:Int):Int:=Z2E l nm day l.length
theorem ZaV (l:List Cr) (nm:Str) (day:Int):∀ k,-1<=Z2E l nm day k/\Z2E l nm day k<k
 | 0=>by simp [Z2E]
 | k + 1 => by
   have:=ZaV l nm day k;simp only [Z2E];split<;>omega
theorem Z7r {A B C:Prop} [Decidable (A/\B/\C)] {x k b z:Int} {e:Eng.Env} {i:Nat} (h:x=if A/\B/\C then k else b) (he:Eng.look e i=some (.I z)) (hz:(A/\B/\C/\z=k)\/(¬ (B/\C)/\z=b)\/(¬ A/\z=b)):Eng.look e i=some (.I x):=by
 rw [he,h];rcases hz with ⟨a,b,c,rfl⟩|⟨a,rfl⟩|⟨a,rfl⟩
 rw [if_pos ⟨a,b,c⟩];rw [if_neg (λh=>a h.2)];rw [if_neg (λh=>a h.1)]
theorem Z42 (v:Value) (l:List Cr) (nm:Str) (day:Int) (w) (hs:SlV [] w v l):CC 13 #[v,str nm,.I day] w λr w'=>r=.I (ZaU l nm day)/\Stp [] w w':=by
 have aS:=hs.max;refine cW3 44 Tryz.func13 ?_;refine W ?_;refine LP (σ:=Nat) (λk=>[(0,v),(1,str nm),(2,.I day),(7,.I (Z2E l nm day k)),(10,v),(11,.I l.length),(12,.I k)]) (λk w'=>k<=l.length/\Stp [] w w') (λk=>l.length - k) 0 ⟨by omega,Stp.refl _ _⟩ ?_;have aX:=hs;clear hs;rintro k w1 ⟨hk,hS⟩;have hs:=aX.up hS;by_cases hlt:k<l.length;obtain ⟨cs,⟨kc,kd,rfl,g1,g2⟩,an⟩:=hs.cell hlt;have hb:=ZaV l nm day k;have hstep:Z2E l nm day (k+1)=if l[k].name=nm/\l[k].frm<=day/\(Z2E l nm day k<0\/(l.getD (Z2E l nm day k).toNat crZ).frm<=l[k].frm) then (k:Int) else Z2E l nm day k:=by
  rw [Z2E];simp only [ZjS,show l.getD k crZ=l[k] by simp [hlt]]
 generalize Z2E l nm day k=bb at *;refine QO ?_;refine Z8 (Z25 rfl rfl hs hlt ⟨kc,kd,rfl,g1,g2⟩ an) rfl ?_;refine Z0 Z2 rfl ?_;rintro _ w2 ⟨b,rfl,eP,e9,hT⟩;refine W ?_;refine SB (us:=crC l[k] kc kd) (Z0k g1 g2) e9 ?_;rintro _ w3 ⟨ar,e9⟩;replace hS:=hS.trans (hT.ow ar);clear hT ar hs an g1 g2;refine W ?_;refine ZDr 24 [] [] [(0,0),(1,1),(2,0),(3,0),(4,0),(5,0),(6,1),(7,0),(8,0),(9,0),(10,0),(11,0),(12,0),(13,0),(14,0),(15,1),(16,0),(17,0),(18,0),(19,0),(20,1),(21,0),(22,0),(23,0)] (λw1 ae=>?_);replace e9:=e9.up ae;replace hS:=hS.trans ae;clear ae;have hs:=aX.up hS;by_cases h0:bb<0
 . repeat'(first|refine D1 ?_|omega|refine Zk rfl rfl rfl rfl (λhg=>?_) (λhg=>?_)|(refine Zh rfl rfl rfl rfl (λhg=>?_) (λhg=>?_)<;>refine D1 ?_)|fail)
   all_goals refine QO ?_
   all_goals
    refine Zx (k+1) ⟨rfl,rfl,rfl,?_,rfl,rfl,rfl,trivial⟩ ⟨by omega,hS⟩ (by omega);first|exact Z7r hstep rfl (.inl ⟨by assumption,by omega,by omega,rfl⟩)|exact Z7r hstep rfl (.inr (.inl ⟨by omega,rfl⟩))|exact Z7r hstep rfl (.inr (.inr ⟨by assumption,rfl⟩))
 . obtain ⟨j,rfl⟩:∃ j:Nat,bb=j:=⟨bb.toNat,by omega⟩
   have hj:j<l.length:=by omega
   obtain ⟨cs,⟨kc2,kd2,rfl,-,-⟩,an⟩:=hs.cell hj;have hf:w1.cell? (ZD v j 7 1)=some (.I l[j].frm):=an 1 _ rfl;rw [show (j:Int).toNat=j by simp,show l.getD j crZ=l[j] by simp [hj]] at hstep;repeat'(first|refine D1 ?_|omega|refine JS rfl (by first|exact trivial|exact rfl) rfl rfl (by assumption) rfl ?_|refine Zk rfl rfl rfl rfl (λhg=>?_) (λhg=>?_)|(refine Zh rfl rfl rfl rfl (λhg=>?_) (λhg=>?_)<;>refine D1 ?_)|fail)
   all_goals repeat'(first|refine W1 ?_|omega|refine VG ?_ ?_<;>intro hg|refine VC ?_ ?_<;>intro hc)
   all_goals
    refine Zx (k+1) ⟨rfl,rfl,rfl,?_,rfl,rfl,rfl,trivial⟩ ⟨by omega,hS⟩ (by omega);first|exact Z7r hstep rfl (.inl ⟨by assumption,by omega,by omega,rfl⟩)|exact Z7r hstep rfl (.inr (.inl ⟨by omega,rfl⟩))|exact Z7r hstep rfl (.inr (.inr ⟨by assumption,rfl⟩))
 refine QO ?_;refine WR ?_;rw [show k=l.length by omega];exact .mk ⟨rfl,hS⟩
theorem Z5R (v:Value) (l:List Cr) (nm:Str) (day:Int) (w) (hs:SlV [] w v l):CC 14 #[v,str nm,.I day] w λr w'=>r=.I (ZaU l nm day)/\Stp [] w w':=by
 have aS:=hs.max;refine cW3 51 Tryz.func14 ?_;refine W ?_;refine LP (σ:=Nat) (λk=>[(0,v),(1,str nm),(2,.I day),(7,.I (Z2E l nm day k)),(8,.I k)]) (λk w'=>k<=l.length/\Stp [] w w') (λk=>l.length - k) 0 ⟨by omega,Stp.refl _ _⟩ ?_;have aX:=hs;clear hs;rintro k w2 ⟨hk,hS⟩;have hs:=aX.up hS;by_cases hlt:k<l.length;obtain ⟨cs,⟨kc,kd,rfl,-,-⟩,an⟩:=hs.cell hlt;have hb:=ZaV l nm day k;have hstep:Z2E l nm day (k+1)=if l[k].name=nm/\l[k].frm<=day/\(Z2E l nm day k<0\/(l.getD (Z2E l nm day k).toNat crZ).frm<=l[k].frm) then (k:Int) else Z2E l nm day k:=by
  rw [Z2E];simp only [ZjS,show l.getD k crZ=l[k] by simp [hlt]]
 generalize Z2E l nm day k=bb at *;refine QO ?_;refine ZDr 34 [] [] [(0,0),(1,0),(2,0),(3,0),(4,1),(5,0),(6,0),(7,0),(8,0),(9,0),(10,0),(11,0),(12,1),(13,0),(14,0),(15,0),(16,0),(17,0),(18,0),(19,0),(20,0),(21,0),(22,0),(23,0),(24,1),(25,0),(26,0),(27,0),(28,0),(29,0),(30,1),(31,0),(32,0),(33,0)] (λw1 ae=>?_);have oY:w1.cell? (ZD v k 7 0)=some (str l[k].name):=ae.cell0 (an 0 _ rfl);have oV:w1.cell? (ZD v k 7 1)=some (.I l[k].frm):=ae.cell0 (an 1 _ rfl);replace hS:=hS.trans ae;clear ae hs an;have hs:=aX.up hS;by_cases h0:bb<0
 . repeat'(first|refine D1 ?_|omega|refine JS rfl (by first|exact trivial|exact rfl) rfl rfl (by assumption) rfl ?_|refine Zk rfl rfl rfl rfl (λhg=>?_) (λhg=>?_)|(refine Zh rfl rfl rfl rfl (λhg=>?_) (λhg=>?_)<;>refine D1 ?_)|fail)
   all_goals refine QO ?_
   all_goals
    refine Zx (k+1) ⟨rfl,rfl,rfl,?_,rfl,trivial⟩ ⟨by omega,hS⟩ (by omega);first|exact Z7r hstep rfl (.inl ⟨by assumption,by omega,by omega,rfl⟩)|exact Z7r hstep rfl (.inr (.inl ⟨by omega,rfl⟩))|exact Z7r hstep rfl (.inr (.inr ⟨by assumption,rfl⟩))
 . obtain ⟨j,rfl⟩:∃ j:Nat,bb=j:=⟨bb.toNat,by omega⟩
   have hj:j<l.length:=by omega
   have kl:max (j:Int) 0=j:=by omega
   obtain ⟨cs,⟨kc2,kd2,rfl,-,-⟩,an⟩:=hs.cell hj;have hf:w1.cell? (ZD v j 7 1)=some (.I l[j].frm):=an 1 _ rfl;rw [show (j:Int).toNat=j by simp,show l.getD j crZ=l[j] by simp [hj]] at hstep;repeat'(first|refine D1 ?_|omega|refine JS rfl (by first|exact trivial|exact rfl) rfl rfl (by assumption) rfl ?_|refine Zk rfl rfl rfl rfl (λhg=>?_) (λhg=>?_)|(refine Zh rfl rfl rfl rfl (λhg=>?_) (λhg=>?_)<;>refine D1 ?_)|fail)
   all_goals repeat'(first|refine W1 ?_|omega|refine VG ?_ ?_<;>intro hg|refine VC ?_ ?_<;>intro hc)
   all_goals
    refine Zx (k+1) ⟨rfl,rfl,rfl,?_,rfl,trivial⟩ ⟨by omega,hS⟩ (by omega);first|exact Z7r hstep rfl (.inl ⟨by assumption,by omega,by omega,rfl⟩)|exact Z7r hstep rfl (.inr (.inl ⟨by omega,rfl⟩))|exact Z7r hstep rfl (.inr (.inr ⟨by assumption,rfl⟩))
 refine QO ?_;refine WR ?_;rw [show k=l.length by omega];exact .mk ⟨rfl,hS⟩
end Go.Proofs.YtipfkbkkndacjaaGreatDoor
namespace Go.Eng
open Go Go.RowKit Go.Proofs
variable {P:Program} {n:Nat} {Q:Exit->Act->World->Prop} {e:Env} {w w0:World} {rest:List Oper} {ops:Array Oper} {ty:TypeId} {pos:String} {af:Array Edge} {d:Option Nat} {g:Option (Nat×Bool)}
abbrev ltS (a b:Str):Bool:=Op.bytesLess a b
theorem Z7C {t u:TypeId} {x y:Operand} {a b:Str} {c:Bool} [hu:Und P t .string] (hx:ev e x=some (str a)) (hy:ev e y=some (str b)) (hc:ltS a b=c):PR P n ⟨d,.binOp .lss t x y u,ty,pos,af,g⟩ e w (.B c):=
 ⟨λ_ ha=>by simp only [execOp,ha.ev hx,ha.ev hy];subst hc;simp [go_sem,binOp,Op.stringOp]⟩
theorem Zf4 {t u:TypeId} {x y:Operand} {a b:Str} {c:Bool} [hu:Und P t .string] (hx:ev e x=some (str a)) (hy:ev e y=some (str b)) (hc:(!(ltS a b || a == b))=c):PR P n ⟨d,.binOp .gtr t x y u,ty,pos,af,g⟩ e w (.B c):=
 ⟨λ_ ha=>by simp only [execOp,ha.ev hx,ha.ev hy];subst hc;simp [go_sem,binOp,Op.stringOp]⟩
end Go.Eng
namespace Go.Proofs.YtipfkbkkndacjaaGreatDoor
open Go Go.Eng Go.RowKit
def Z43 (a b:Str):Int:=if ltS a b=true then -1 else if (!(ltS a b || a == b))=true then 1 else 0
def cmI (x y:Int):Int:=if x<y then -1 else if y<x then 1 else 0
theorem Z4z (x y:Int) (w):CC 75 #[.I x,.I y] w λr w'=>r=.I (cmI x y)/\Stp [] w w':=
 (Tryz.cmp_Compare_int x y w).mono (by
   rintro e w' ⟨rfl,rfl⟩;exact .mk ⟨rfl,Stp.refl _ _⟩)
theorem Z8s (a:Str) (w):CC 126 #[str a] w λr w'=>r=.B false/\Stp [] w w':=by
 refine cW1 6 Tryz.func126 ?_;refine RT ?_;exact ⟨by simp,Stp.refl _ _⟩
theorem ZjT (a b:Str) (w):CC 76 #[str a,str b] w λr w'=>r=.I (Z43 a b)/\Stp [] w w':=by
 refine cW2 20 Tryz.func76 ?_;refine W ?_;refine CP (Stp.refl [] w) (Z8s a _) λw1 _ hS=>?_;refine W ?_;refine CP hS (Z8s b _) λw2 _ hS=>?_;refine W ?_;cases h1:ltS a b
 . refine Z8 (Z7C rfl rfl h1) rfl ?_
   refine W ?_;cases h2:(!(ltS a b || a == b))
   all_goals
    refine Z8 (Zf4 rfl rfl h2) rfl ?_;refine RT ?_;exact ⟨by rw [Z43,if_neg (by simp [h1]),h2];rfl,hS⟩
 refine Z8 (Z7C rfl rfl h1) rfl ?_;refine RT ?_;exact ⟨by rw [Z43,h1];rfl,hS⟩
def orL (l:List Int):Int:=(l.find? (λx=>decide (x≠0))).getD 0
theorem Ze4 {l:List Int} {k:Nat} (hk:k<l.length) (h:∀ j (h:j<l.length),j<k->l[j]=0) (h0:l[k]≠0):orL l=l[k]:=by
 have:l.find? (λx=>decide (x≠0))=some l[k]:=by
  rw [Yas];exact ⟨by simpa using h0,k,hk,rfl,λj hj=>by simp [h j (by omega) hj]⟩
 rw [orL,this];rfl
theorem Z8t {l:List Int} (h:∀ j (h:j<l.length),l[j]=0):orL l=0:=by
 have:l.find? (λx=>decide (x≠0))=none:=by
  rw [Yar];intro x hx;obtain ⟨j,hj,rfl⟩:=Xr hx;simp [h j hj]
 rw [orL,this];rfl
theorem Znn (v:Value) (l:List Int) (w) (hs:SlV [] w v l):CC 74 #[v] w λr w'=>r=.I (orL l)/\Stp [] w w':=by
 have aS:=hs.max;refine cW1 18 Tryz.func74 ?_;refine W ?_;refine LP (σ:=Nat) (λk=>[(3,.I 0),(6,v),(7,.I l.length),(8,.I k)]) (λk w'=>k<=l.length/\Stp [] w w'/\∀ j (h:j<l.length),j<k->l[j]=0) (λk=>l.length - k) 0 ⟨by omega,Stp.refl _ _,by omega⟩ ?_;have aX:=hs;clear hs;rintro k w1 ⟨hk,hS,hz⟩;have hs:=aX.up hS;by_cases hlt:k<l.length;by_cases h0:l[k]=0;refine QO ?_;exact QL (k+1) ⟨by omega,hS,λj h hj=>by
  by_cases e:j=k;subst e;exact h0;exact hz j h (by omega)⟩ (by omega)
 refine RT ?_;exact ⟨by rw [Ze4 hlt hz h0],hS⟩;refine RT ?_;exact ⟨by rw [Z8t (λj h=>hz j h (by omega))],hS⟩
def Z4N (f g:Fct):Int:=orL [cmI f.day g.day,cmI f.entry g.entry,Z43 f.kind g.kind,cmI f.by_ g.by_,cmI f.to_ g.to_,cmI f.amt g.amt]
theorem Zcm (a b c d e f:Int) (w):(Instr.buildSlice 23 6 #[(0,.I a),(1,.I b),(2,.I c),(3,.I d),(4,.I e),(5,.I f)]).run Tryz.prog w=.ok (.slice (some ⟨w.heap.size,0,none⟩) 6 6) (w.alloc (.cells #[.I a,.I b,.I c,.I d,.I e,.I f] 3)):=by kernel_rfl
theorem ZjU (f g:Fct) (w):CC 43 #[aG f,aG g] w λr w'=>r=.I (Z4N f g)/\Stp [] w w':=by
 refine cW2 37 Tryz.func43 ?_;refine W ?_;refine BX (Stp.refl [] w) λb2 w1 h2 e2 _ hS=>?_;refine BX hS λb3 w2 h3 e3 hT hS=>?_;replace e2:=e2.up hT;replace e2:Blk w2 b2 45 (Z3.enc f):=e2;replace e3:Blk w2 b3 45 (Z3.enc g):=e3;refine W ?_;refine ZDr 33 [] [] [(0,0),(1,1),(2,0),(3,1),(5,0),(6,1),(7,0),(8,1),(10,0),(11,1),(12,0),(13,1),(15,0),(16,1),(17,0),(18,1),(20,0),(21,1),(22,0),(23,1),(25,0),(26,1),(27,0),(28,1),(4,2),(9,2),(14,2),(19,2),(24,2),(29,2),(30,2),(31,2),(32,0)] (λw1 ae=>?_);replace e2:=e2.up ae;replace e3:=e3.up ae;replace hS:=hS.trans ae;refine D ?_;clear ae e2 e3;refine DP hS (Z4z _ _ _) λ_ _ hS=>?_;refine DP hS (Z4z _ _ _) λ_ _ hS=>?_;refine DP hS (ZjT _ _ _) λ_ _ hS=>?_;refine DP hS (Z4z _ _ _) λ_ _ hS=>?_;refine DP hS (Z4z _ _ _) λ_ _ hS=>?_;refine DP hS (Z4z _ _ _) λ_ _ hS=>?_;refine Za rfl trivial (Z1 rfl (Zcm _ _ _ _ _ _)) (λ_ _ h=>Z9.stp h) rfl ?_;rintro bv wb hN;have aq:=hN.slv (X:=[]) (ys:=[cmI f.day g.day,cmI f.entry g.entry,Z43 f.kind g.kind,cmI f.by_ g.by_,cmI f.to_ g.to_,cmI f.amt g.amt]) (by simp) rfl rfl (by simp [maxLen]);replace hS:=hS.trans (Z9.stp hN);refine DP hS (Znn bv _ _ aq) λ_ _ hS=>?_;refine D ?_;refine RT ?_;exact ⟨rfl,hS⟩
end Go.Proofs.YtipfkbkkndacjaaGreatDoor
namespace Go.Eng
open Go Go.RowKit Go.Proofs
variable {P:Program} {n:Nat} {Q:Exit->Act->World->Prop} {e:Env} {w w0:World} {rest:List Oper} {ops:Array Oper} {ty ty':TypeId} {pos pos':String} {af af':Array Edge}
theorem AP1 {β:Type} [Z3 β] {T t bytes d1 d2:Nat} {x y:Operand} {v z0 u:Value} {xs:List β} [ht:Und P t (.slice T)] [hk:Siz P T (Z5.k β)] [hb:Byt P T bytes] [hz:Zer P T z0] (z:β) (hr:ZI T w0 w v xs) (hl:xs.length<=100000000)
 (k:∀ v1 v' w',ZI T w0 w' v' (xs++[z])->Stp (ob v) w w'->WL P n ops Q rest ((d2,v') :: (d1,v1) :: e) w')
 (hx:ev e x=some v:=by exact rfl) (hy:Jw e [(0,y)]=some [(0,u)]:=by exact rfl) (bj:∀ w:World,(Instr.buildSlice t 1 #[(0,u)]).run P w=.ok (.slice (some ⟨w.heap.size,0,none⟩) 1 1) (w.alloc (.cells (Z3.enc z).toArray T)):=by intro w;kernel_rfl)
 (mo:∀ v1,ev ((d1,v1) :: e) x=some v:=by intro _;exact rfl) (ir:∀ v1,ev ((d1,v1) :: e) (.tmp d1)=some v1:=by intro _;exact rfl)
 (dT:z0.cells.size=Z5.k β:=by exact rfl) (aV:0<Z5.k β:=by decide) (dZ:bytes<=1000:=by decide) (h1:Nat.blt d1 n=true:=by exact rfl) (h2:Nat.blt d2 n=true:=by exact rfl) :
 WL P n ops Q (⟨some d1,.buildSlice t 1 #[(0,y)],ty,pos,af,none⟩ :: ⟨some d2,.call { callee:=.builtin .append,args:=#[x,.tmp d1],argTypes:=#[t,t] },ty',pos',af',none⟩ :: rest) e w:=by
 refine Z0 (Z1 (l:=[(0,y)]) (vs:=[(0,u)]) hy bj) h1 ?_;intro v1 w1 hN;have hT:Stp [] w w1:=hN.choose_spec.2.2.2;have aq:SlV (ob v) w1 v1 [z]:=hN.slv (λb hb=>(hr.ob_le b hb).2) rfl (by simp) (by simp [maxLen]);refine Z0 (JD dT aV (mo v1) (ir v1) (hr.up hT) aq (by
  simp only [Xe,Xg];exact Xh (Ybg (Ybl hl 1) dZ) (by omega)) (by simp only [Xe,Xg,maxLen];omega)) h2 ?_
 rintro v' w2 ⟨g1,g2,-⟩;exact k v1 v' w2 g1 (hT.mn.trans g2)
theorem APR {β:Type} [Z3 β] {X:List Nat} {T t bytes d1 d2 base:Nat} {x y:Operand} {v z0 u:Value} {xs:List β} [ht:Und P t (.slice T)] [hk:Siz P T (Z5.k β)] [hb:Byt P T bytes] [hz:Zer P T z0] (z:β) (hr:Row X w base T v xs) (hX:∀ b∈X,b<w.heap.size) (dD:base<=w.heap.size) (hl:xs.length<=100000000)
 (k:∀ v1 v' w',Row X w' base T v' (xs++[z])->Stp (ob v) w w'->(∀ b∈ob v',b∈ob v\/w.heap.size<=b)->WL P n ops Q rest ((d2,v') :: (d1,v1) :: e) w')
 (hx:ev e x=some v:=by exact rfl) (hy:Jw e [(0,y)]=some [(0,u)]:=by exact rfl) (bj:∀ w:World,(Instr.buildSlice t 1 #[(0,u)]).run P w=.ok (.slice (some ⟨w.heap.size,0,none⟩) 1 1) (w.alloc (.cells (Z3.enc z).toArray T)):=by intro w;kernel_rfl)
 (mo:∀ v1,ev ((d1,v1) :: e) x=some v:=by intro _;exact rfl) (ir:∀ v1,ev ((d1,v1) :: e) (.tmp d1)=some v1:=by intro _;exact rfl)
 (dT:z0.cells.size=Z5.k β:=by exact rfl) (aV:0<Z5.k β:=by decide) (dZ:bytes<=1000:=by decide) (h1:Nat.blt d1 n=true:=by exact rfl) (h2:Nat.blt d2 n=true:=by exact rfl) :
 WL P n ops Q (⟨some d1,.buildSlice t 1 #[(0,y)],ty,pos,af,none⟩ :: ⟨some d2,.call { callee:=.builtin .append,args:=#[x,.tmp d1],argTypes:=#[t,t] },ty',pos',af',none⟩ :: rest) e w:=by
 refine Z0 (Z1 (l:=[(0,y)]) (vs:=[(0,u)]) hy bj) h1 ?_;intro v1 w1 hN;have hT:Stp [] w w1:=hN.choose_spec.2.2.2;have aq:SlV (ob v++X) w1 v1 [z]:=hN.slv (λb hb=>by
  rcases Xf.1 hb with h|h
  exact (hr.ob_le b h).2;exact hX b h) rfl (by simp) (by simp [maxLen])
 refine Z0 (ZF (X:=X) (base:=base) dT aV (mo v1) (ir v1) (hr.up hT) aq (by
  simp only [Xe,Xg];exact Xh (Ybg (Ybl hl 1) dZ) (by omega)) (by simp only [Xe,Xg,maxLen];omega) (Xh dD hT.size)) h2 ?_
 rintro v' w2 ⟨g1,g2,g3⟩;exact k v1 v' w2 g1 (hT.mn.trans g2) (λb hb=>(g3 b hb).imp id (Xh hT.size))
end Go.Eng
namespace Go.Proofs.YtipfkbkkndacjaaGreatDoor
open Go Go.Eng Go.RowKit
def Z6B (l:List Fct):Nat->Fct
 | 0=>l.getD 0 default
 | k+1=>if Z4N (l.getD (k+1) default) (Z6B l k)<0 then l.getD (k+1) default else Z6B l k
theorem ZjV (v:Value) (l:List Fct) (w) (hs:SlV [] w v l) (hn:l≠[]):CC 86 #[v,.func (.func 43) #[] #[]] w λr w'=>r=.agg (Z3.enc (Z6B l (l.length - 1))).toArray/\Stp [] w w':=by
 have aS:=hs.max;have aV:0<l.length:=Yab.2 hn;refine cW2 33 Tryz.func86 ?_;refine W ?_;refine Z0 Z2 rfl ?_;rintro _ w1 ⟨b4,rfl,bE,e4,hS⟩;have cm:=hs.up hS;refine QO ?_;refine Z0 Z2 rfl ?_;rintro _ w2 ⟨b5,rfl,jt,e5,hT⟩;have l4:=e4.lt;replace e4:=e4.up hT;refine SA (us:=Z3.enc l[0]) e5 ?_;rintro _ w3 ⟨ar,e5⟩;replace e4:=e4.ext ar (by simp;omega);replace hS:=hS.trans (hT.ow ar);clear hT ar cm;have l5:=e5.lt;have g4:b4≠b5:=by omega
 have g5:w.heap.size<=b5:=by have:=hS.size;omega
 refine W ?_;refine LP (σ:=Nat) (λk=>[(0,v),(1,.func (.func 43) #[] #[]),(4,pQ b4),(5,pQ b5),(6,.I ((k:Int)+1))]) (λk w'=>k<l.length/\Stp [] w w'/\Blk w' b5 45 (Z3.enc (Z6B l k))/\(∃ cs,Blk w' b4 45 cs/\cs.length=6)) (λk=>l.length - k) 0 ⟨aV,hS,by rw [Z6B,show l.getD 0 default=l[0] by simp [aV]];exact e5,_,e4,rfl⟩ ?_;clear e4 e5 hS;rintro k w4 ⟨hk,hS,e5,cs4,e4,fq⟩;have cm:=hs.up hS;by_cases hlt:k+1<l.length;have hstep:Z6B l (k+1)=if Z4N l[k+1] (Z6B l k)<0 then l[k+1] else Z6B l k:=by rw [Z6B,show l.getD (k+1) default=l[k+1] by simp [hlt]]
 generalize Z6B l k=m at *;refine QO ?_;refine ZDr 8 [] [] [(0,0),(1,0),(2,0),(3,0),(4,1),(5,1),(6,2),(7,0)] (λw1 ae=>?_);replace cm:=cm.up ae;replace e5:=e5.up ae;replace e4:=e4.up ae;replace hS:=hS.trans ae;clear ae;refine D ?_;refine DP hS (ZjU l[k+1] m _) λw5 hT hS=>?_;replace cm:=cm.up hT;replace e5:=e5.up hT;replace e4:=e4.up hT;refine D ?_;by_cases hc:Z4N l[k+1] m<0;rw [if_pos hc] at hstep;refine QO ?_;refine SA (us:=Z3.enc l[k+1]) e5 ?_;rintro _ w6 ⟨ar,e5⟩;replace e4:=e4.ext ar (by simp;omega);replace hS:=hS.ow ar;refine QO ?_;exact QL (k+1) ⟨hlt,hS,by rw [hstep];exact e5,_,e4,fq⟩ (by omega);rw [if_neg hc] at hstep;refine QO ?_;exact QL (k+1) ⟨hlt,hS,by rw [hstep];exact e5,_,e4,fq⟩ (by omega);refine QO ?_;refine Z6 (Zj (us:=Z3.enc (Z6B l k)) rfl rfl rfl rfl (Z3.one _) e4 fq.symm) ?_;rintro _ w6 ⟨ar,e4⟩;refine QO ?_;refine J6 rfl rfl rfl e4 rfl ?_;rw [show l.length - 1=k by omega];exact .mk ⟨rfl,hS.ow ar⟩
theorem Zno (w):(Instr.build 45 #[]).run Tryz.prog w=.ok (aG (default:Fct)) w:=by kernel_rfl
def Z8u (f:Fct) (unl:Str) (due:Int) (g:Fct):Bool:=decide (unl≠[]/\g.kind=unl/\g.by_=f.to_/\g.day<=due/\(f.day<=g.day\/due<f.day))
def Z5S (fs:List Fct) (f:Fct) (unl:Str) (due:Int):List Fct:=fs.filter (Z8u f unl due)
def Z98 (fs:List Fct) (f:Fct) (unl:Str) (due:Int):Fct×Bool:=if Z5S fs f unl due=[] then (default,false) else (Z6B (Z5S fs f unl due) ((Z5S fs f unl due).length - 1),true)
theorem Zgn (fs:List Fct) (f:Fct) (unl:Str) (due:Int) (k:Nat) (h:k<fs.length):Z5S (fs.take (k+1)) f unl due=Z5S (fs.take k) f unl due++if Z8u f unl due fs[k]=true then [fs[k]] else []:=by
 unfold Z5S;rw [Xk h,YaT];congr 1;cases hc:Z8u f unl due fs[k]<;>simp [hc]
theorem Ze5 (c:Cas) (R:Z0X) (f:Fct) (unl:Str) (due:Int) (w) (hs:SlV [] w R.fv c.fcts) (hl:c.fcts.length<=10000000):CC 56 #[.agg (Jl c R).toArray,aG f,str unl,.I due] w λr w'=>r=.tuple #[.agg (Z3.enc (Z98 c.fcts f unl due).1).toArray,.B (Z98 c.fcts f unl due).2]/\Stp [] w w':=by
 refine cW4 65 Tryz.func56 ?_;refine W ?_;refine BX (Stp.refl [] w) λb4 w1 h4 e4 _ hS=>?_;replace e4:Blk w1 b4 37 (Jl c R):=e4;refine BX hS λb5 w2 h5 e5 hT hS=>?_;replace e5:Blk w2 b5 45 (Z3.enc f):=e5;replace e4:=e4.up hT;refine W ?_;refine Z0 Z2 rfl ?_;rintro _ w3 ⟨b8,rfl,eO,e8,hT⟩;have g8:w.heap.size<=b8:=Xh hS.size eO;replace e4:=e4.up hT;replace e5:=e5.up hT;replace hS:=hS.trans hT;have eA:=hs.up hS;refine W ?_;refine LP (σ:=Nat×Value) (λq=>[(2,str unl),(3,.I due),(4,pQ b4),(5,pQ b5),(8,pQ b8),(9,.B false),(10,q.2),(14,R.fv),(15,.I c.fcts.length),(16,.I q.1)]) (λq w'=>q.1<=c.fcts.length/\ZI 45 w3 w' q.2 (Z5S (c.fcts.take q.1) f unl due)) (λq=>c.fcts.length - q.1) (0,.N) ⟨by omega,ZI.nil⟩ ?_;rintro ⟨k,rv⟩ w4 ⟨hk,hr⟩;dsimp only at hk hr ⊢;have e4':=e4.up hr.2;have e5':=e5.up hr.2;have dM:=eA.up hr.2;by_cases hlt:k<c.fcts.length
 . have hstep:=Zgn c.fcts f unl due k hlt
   refine QO ?_;refine Z0 Z2 rfl ?_;rintro _ w5 ⟨b12,rfl,fW,e12,hT⟩;refine SA (us:=Z3.enc c.fcts[k]) e12 ?_;rintro _ w6 ⟨ar,e12⟩;replace hT:=hT.ow ar;replace e4':=e4'.up hT;replace e5':=e5'.up hT;replace hr:=hr.up hT;clear hT ar dM;repeat'(first|refine W1 ?_|omega|refine VG ?_ ?_<;>intro hg|refine VC ?_ ?_<;>intro hc)
   all_goals first
    | exact QL (k + 1, rv) ⟨hlt, by
       rw [hstep,if_neg,XC];exact hr;simp only [Z8u,decide_eq_true_eq];rintro ⟨a,b,c,d,e⟩;first|contradiction|omega⟩ (by dsimp only;omega)
    | refine AP1 c.fcts[k] hr (Xh (X1 _ _) (by simp; omega)) λv1 v' w' bN _ => ?_
      refine QO ?_;exact QL (k+1,v') ⟨hlt,by
       rw [hstep,if_pos (show Z8u f unl due c.fcts[k]=true from decide_eq_true ⟨by assumption,by assumption,by omega,by omega,by omega⟩)];exact bN⟩ (by dsimp only;omega)
 have eZ:SlV [] w4 rv (Z5S (c.fcts.take k) f unl due):=hr.slv (by simp);obtain rfl:k=c.fcts.length:=by omega
 rw [Xp] at eZ;have e8':=e8.up hr.2;replace hS:=hS.trans hr.2;clear hr;unfold Z98;generalize Z5S c.fcts f unl due=L at *;have hz:((L.length:Int)=0)↔L=[]:=by simp
 (refine QP ?_ ?_<;>intro hc)
 obtain rfl:L=[]:=hz.1 (by assumption);refine Z7 (vs:=[]) rfl Zno rfl ?_;refine Z6 (Zj (us:=Z3.enc (default:Fct)) rfl rfl rfl rfl (Z3.one _) e8' rfl) ?_;rintro _ w6 ⟨ar,e8''⟩;refine W ?_;refine Zm rfl rfl rfl e8'' rfl rfl ?_;exact .mk ⟨rfl,hS.ow ar⟩;have hL:L≠[]:=λh=>absurd (hz.2 h) (by assumption)
 rw [if_neg hL];refine CP hS (ZjV rv L w4 eZ hL) λw5 hT hS=>?_;replace e8':=e8'.up hT;refine Z6 (Zj (us:=Z3.enc (Z6B L (L.length - 1))) rfl rfl rfl rfl (Z3.one _) e8' rfl) ?_;rintro _ w6 ⟨ar,e8''⟩;refine W ?_;refine Zm rfl rfl rfl e8'' rfl rfl ?_;exact .mk ⟨rfl,hS.ow ar⟩
theorem ZwC (a b:Ins) (w):(binOp .eql 171 (agg a) (agg b)).run Tryz.prog w=.ok (.B (decide (a=b))) w:=by
 have h1:Program.stoodInHeld Tryz.prog 171=false:=by kernel_rfl
 obtain ⟨a1,a2⟩:=a;obtain ⟨b1,b2⟩:=b;simp [agg,Z3.enc,run_eql_struct,run_equalIn_struct,h1,Program.fieldsOf,Tryz.underlying171,Op.eqFields,part,Und.isAgg,Z0R,run_equalIn_int w _ _ .i64 .i64 _ _ Tryz.underlying3];repeat' split
 all_goals simp_all
theorem Ze6 (v:Value) (l:List Ins) (x:Ins) (w) (hs:SlV [] w v l):CC 153 #[v,agg x] w λr w'=>(∃ z:Int,r=.I z/\(0<=z↔x∈l))/\Stp [] w w':=by
 have aS:=hs.max;refine cW2 19 Tryz.func153 ?_;refine W ?_;refine BX (Stp.refl [] w) λb3 w1 h3 e3 _ hS=>?_;replace e3:Blk w1 b3 171 (Z3.enc x):=e3;have cm:=hs.up hS;refine W ?_;refine LP (σ:=Nat) (λk=>[(0,v),(3,pQ b3),(6,v),(7,.I l.length),(8,.I k)]) (λk w'=>k<=l.length/\Stp [] w1 w'/\∀ j (h:j<l.length),j<k->l[j]≠x) (λk=>l.length - k) 0 ⟨by omega,Stp.refl _ _,by omega⟩ ?_;rintro k w2 ⟨hk,hT,hz⟩;have bq:=cm.up hT;have e3':=e3.up hT;by_cases hlt:k<l.length;refine QO ?_;refine ZDr 6 [] [] [(0,1),(1,0),(2,0),(3,0),(4,1),(5,0)] (λw1 ae=>?_);replace bq:=bq.up ae;replace e3':=e3'.up ae;replace hT:=hT.trans ae;refine D ?_;apply Z2H;exact rfl;refine ZmL (c:=x=l[k]) trivial rfl rfl (λw=>Zt0 _ _ _ x l[k] w) (by intro w;exact ZwC x l[k] w) rfl ?_;refine D ?_
 (refine QP ?_ ?_<;>intro hc)
 refine RU ?_;exact ⟨⟨_,rfl,by constructor<;>intro _<;>first|omega|(rw [hc];exact Xd hlt)⟩,hS.trans hT⟩;exact QL (k+1) ⟨hlt,hT,λj h hj=>by
  by_cases e:j=k;subst e;exact λh=>hc h.symm;exact hz j h (by omega)⟩ (by omega)
 refine RT ?_;exact ⟨⟨_,rfl,by
  constructor;intro h;omega;intro h;obtain ⟨j,hj,e⟩:=Xr h;exact absurd e (hz j hj (by omega))⟩,hS.trans hT⟩
theorem Z8v (v:Value) (l:List Ins) (x:Ins) (w) (hs:SlV [] w v l):CC 85 #[v,agg x] w λr w'=>r=.B (decide (x∈l))/\Stp [] w w':=by
 refine cW2 9 Tryz.func85 ?_;refine W ?_;refine BX (Stp.refl [] w) λb3 w1 h3 e3 _ hS=>?_;replace e3:Blk w1 b3 171 (Z3.enc x):=e3;refine W ?_;refine CG (Ze6 v l x _ (hs.up hS)) ?_;rintro _ w2 ⟨⟨z,rfl,hz⟩,hT⟩;refine RT ?_;exact ⟨congrArg Value.bool (decide_eq_decide.2 hz),hS.trans hT⟩
def Z4Y (l:List Ins):Bool:=decide ((⟨4,1⟩:Ins)∈l) || decide ((⟨4,2⟩:Ins)∈l)
theorem Zcn (a b:Int) (w):(Instr.build 171 #[(0,.I a),(1,.I b)]).run Tryz.prog w=.ok (agg (⟨a,b⟩:Ins)) w:=by kernel_rfl
theorem Zco (v:Value) (l:List Ins) (w) (hs:SlV [] w v l):CC 54 #[v] w λr w'=>r=.B (Z4Y l)/\Stp [] w w':=by
 refine cW1 11 Tryz.func54 ?_;refine W ?_;refine Z7 (vs:=[(0,.I 4),(1,.I 1)]) rfl (Zcn _ _) rfl ?_;refine CP (Stp.refl [] w) (Z8v v l _ w hs) λw1 _ hS=>?_;unfold Z4Y;by_cases h1:(⟨4,1⟩:Ins)∈l;rw [decide_eq_true h1];refine RT ?_;exact ⟨rfl,hS⟩;rw [decide_eq_false h1];refine QO ?_;refine Z7 (vs:=[(0,.I 4),(1,.I 2)]) rfl (Zcn _ _) rfl ?_;refine W ?_;refine CP hS (Z8v v l _ _ (hs.up hS)) λw2 _ hS=>?_;refine RT ?_;exact ⟨by simp,hS⟩
end Go.Proofs.YtipfkbkkndacjaaGreatDoor
namespace Go.Eng
open Go Go.RowKit Go.Proofs
section
variable {P:Program} {n:Nat} {Q:Exit->Act->World->Prop} {e:Env} {w w0 w':World} {rest:List Oper} {ops:Array Oper} {ty:TypeId} {pos:String} {af:Array Edge} {dd:Option Nat} {g:Option (Nat×Bool)}
structure StD (w w':World):Prop where
 s:Stp [] w w'
 d:w.drawn<=w'.drawn
theorem StD.refl (w):StD w w:=⟨Stp.refl _ _,Xn _⟩
theorem StD.trans {a b c:World} (h:StD a b) (k:StD b c):StD a c:=⟨h.s.trans k.s,Xh h.d k.d⟩
theorem StD.grown {w w':World} (h:StD w w'):∃ q os',w'=Go.Sort.grow (w.drewN q) os':=by
 refine ⟨w'.drawn - w.drawn,w'.heap.extract w.heap.size w'.heap.size,?_⟩;obtain ⟨⟨h1,h2,h3,h4,h5⟩,h6⟩:=h;have hh:w'.heap=w.heap++w'.heap.extract w.heap.size w'.heap.size:=by
  apply Array.ext_getElem?;intro i;by_cases hi:i<w.heap.size;rw [h5 i hi (by simp),XW hi];rw [Array.getElem?_append_right (by omega),Array.getElem?_extract];by_cases cn:i<w'.heap.size;rw [if_pos (by omega)];congr 1;omega;rw [if_neg (by omega),Yaz (by omega)]
 cases w';cases w;simp only [Go.Sort.grow,World.drewN] at *;subst h1 h2 h3;simp only [World.mk.injEq,true_and,and_true];exact ⟨hh,by omega⟩
theorem Zgo {id:Nat} {l:List Oper} (m:Nat) (S:List Nat) (Lt:List Nat) (ord:List (Nat×Nat)) (cp:l.length=m) (hm:P.follows .mixedOrders=true) (hs:Region.noSelect l.toArray=true) (hl:Nat.beq (wt ord) l.length=true)
 (hB:J5 l.toArray Lt ord (Array.replicate m false)=true)
 (h:∀ w',StD w w'->WD P n l.toArray S Lt Q ord e w'):WC P n (.region id l.toArray true) Q e w:=by
 subst cp;refine ⟨λa ha=>wp_region_any hm ?_⟩;have h1:=(h { w with drawn:=w.drawn+1 } ⟨Stp.drew [] w,Nat.le_succ _⟩).h _ hs hB a ha;have h2:=Z0S (Q:=Q) (λa w hz=>hz) _ _ _ _ h1;rw [XN hl] at h2;simpa using h2
theorem BXD {d:Nat} {t:TypeId} {x:Operand} {v:Value} (hS:StD w0 w) (k:∀ b w',w.heap.size<=b->Blk w' b t v.cells.toList->StD w w'->StD w0 w'->WL P n ops Q rest ((d,pQ b) :: e) w')
 (hx:ev e x=some v:=by exact rfl) (hd:Nat.blt d n=true:=by exact rfl):WL P n ops Q (⟨some d,.box t x,ty,pos,af,none⟩ :: rest) e w:=by
 have ho:OE P n ⟨some d,.box t x,ty,pos,af,none⟩ e w (λu w'=>Z7M w t v.cells.toList u w'/\w'.drawn=w.drawn):=
  Jf (v:=.pointer (some ⟨w.heap.size,0,none⟩)) (w':=w.alloc (.cells v.cells t)) (λa ha=>by
   simp [execOp,Instr.box,ha.ev hx,newVar,newRow,newObj];rfl) ⟨by simpa using Zam w t v.cells.toList,rfl⟩
 refine Z0 ho hd ?_;rintro _ w' ⟨⟨b,rfl,hb,hk,hT⟩,he⟩;have h1:StD w w':=⟨hT,Nat.le_of_eq he.symm⟩
 exact k b w' hb hk h1 (hS.trans h1)
theorem Z8w {t T len:Nat} {l:List (Nat×Operand)} {vs:List (Nat×Value)} {cs:List Value} (hv:Jw e l=some vs)
 (hb:∀ w:World,(Instr.buildSlice t len vs.toArray).run P w=.ok (.slice (some ⟨w.heap.size,0,none⟩) len len) (w.alloc (.cells cs.toArray T))) :
 OE P n ⟨dd,.buildSlice t len l.toArray,ty,pos,af,g⟩ e w (λv w'=>Z9 w T len cs v w'/\StD w w'):=
 Jf (v:=.slice (some ⟨w.heap.size,0,none⟩) len len) (w':=w.alloc (.cells cs.toArray T)) (λa ha=>by
  have h1:=ha.parts hv;have h2:l.toArray.map (λ(x:Nat×Operand)=>match x with|(i,x)=>(i,a.eval x))=vs.toArray:=by
   rw [YbC];exact congrArg List.toArray h1
  simp only [execOp];rw [h2];simp [hb w]) ⟨⟨w.heap.size,rfl,Xn _,heap_alloc_new w _,Stp.alloc _ _ _⟩,⟨Stp.alloc _ _ _,Xn _⟩⟩
theorem CPD {f d:Nat} {fn:Func} {xs:Array Operand} {ts:Array TypeId} {vs:Array Value} {r:Value} {c:Operand} [hf:Fun P f fn] (hS:StD w0 w) (h:Calls P f vs w (Ret λv w'=>v=r/\StD w w')) (k:∀ w',StD w w'->StD w0 w'->WL P n ops Q rest ((d,r) :: e) w')
 (hc:ev e c=some (.func (.func f) #[] #[]):=by exact rfl) (hv:∀ a,Has n e a->xs.map a.eval=vs:=by first|exact ZR rfl|exact Zd rfl rfl|exact ZN rfl rfl rfl|exact Z7o rfl rfl rfl rfl|exact Z6h) (hd:Nat.blt d n=true:=by exact rfl) :
 WL P n ops Q (⟨some d,.call { callee:=.value c,args:=xs,argTypes:=ts },ty,pos,af,none⟩ :: rest) e w:=
 Z0 (Z4 hc hv h) hd (by rintro _ w' ⟨rfl,hT⟩;exact k w' hT (hS.trans hT))
theorem DPD {Lt:List Nat} {ord:List (Nat×Nat)} {i f d:Nat} {fn:Func} {gd:Option (Nat×Bool)} {xs:Array Operand} {ts:Array TypeId} {vs:Array Value} {r:Value} {c:Operand} {S:List Nat} [hf:Fun P f fn] (hS:StD w0 w) (h:Calls P f vs w (Ret λv w'=>v=r/\StD w w')) (k:∀ w',StD w w'->StD w0 w'->WD P n ops S Lt Q ord ((d,r) :: e) w')
 (hi:ops[i]?=some ⟨some d,.call { callee:=.value c,args:=xs,argTypes:=ts },ty,pos,af,gd⟩:=by exact rfl) (hg:Z02 ops e gd:=by first|exact trivial|exact rfl)
 (hc:ev e c=some (.func (.func f) #[] #[]):=by exact rfl) (hv:∀ a,Has n e a->xs.map a.eval=vs:=by first|exact ZR rfl|exact Zd rfl rfl|exact ZN rfl rfl rfl|exact Z7o rfl rfl rfl rfl|exact Z6h) (hd:Nat.blt d n=true:=by exact rfl) :
 WD P n ops S Lt Q ((i,2) :: ord) e w:=
 Za hi hg (Z4 hc hv h) (λ_ _ h=>h.2.s.mn) hd (by rintro _ w' ⟨rfl,hT⟩;exact k w' hT (hS.trans hT))
end
section
variable {w:World} {T:Nat}
theorem Zgp {g q:Nat} {cur F:Array Value} (os:Array Obj) (h:w.heap[g]?=some (.cells cur T (0,0))) (hl:F.size<=cur.size) :
 Stp [g] w (Go.Sort.grow (Go.Sort.putRow id (Go.Sort.ahead w q) g 0 F) os)/\
 ∃ cur',(Go.Sort.grow (Go.Sort.putRow id (Go.Sort.ahead w q) g 0 F) os).heap[g]?=some (.cells cur' T (0,0))/\cur'.size=cur.size/\cur'.toList.take F.size=F.toList:=by
 have hlt:g<w.heap.size:=(Xl.1 h).1;have hh:(Go.Sort.grow (Go.Sort.putRow id (Go.Sort.ahead w q) g 0 F) os).heap=w.heap.modify g (Go.Sort.onCells (Go.Sort.putCells id 0 F))++os:=rfl;refine ⟨⟨rfl,rfl,rfl,by rw [hh];simp,λb hb hn=>?_⟩,Go.Sort.putCells id 0 F cur,?_,by simp [Go.Sort.putCells],?_⟩;rw [hh,XW (by simpa using hb),YaW,if_neg (by simp at hn;exact λe=>hn e.symm)];rw [hh,XW (by simpa using hlt),YaW,if_pos rfl,h];rfl;apply YaD;simp [Go.Sort.putCells];omega;intro i h1 h2;have hi:i<F.size:=by simpa using h2
 simp [Go.Sort.putCells,hi]
theorem Ze7 {g:Nat} {cur F:Array Value} (h:w.heap[g]?=some (.cells cur T (0,0))) (ht:cur.toList.take F.size=F.toList):Go.Sort.Holds id w g 0 F:=by
 intro j hj;have hc:cur[j]?=some F[j]:=by
  have h1:(cur.toList.take F.size)[j]?=some F[j]:=by rw [ht];simp [hj]
  rw [Yah,if_pos hj] at h1;simpa using h1
 constructor;simp [World.cell?,h,hc,hj];simp [World.frozen?,h]
theorem Z8x {β:Type} [Z3 β] [Inhabited β] (hk:0<Z3.k β) (xs:List β):(Go.Sort.flatK Z3.enc (Z3.k β) xs.toArray).toList=(xs.map Z3.enc).flatten:=by
 have ai:((xs.map Z3.enc).flatten:List Value).length=xs.length * Z3.k β:=by
  rw [Z12 (k:=Z3.k β) _ (by intro c hc;obtain ⟨x,_,rfl⟩:=XG.1 hc;exact Z3.len x),Xt]
 apply List.ext_getElem?;intro t;by_cases ht:t<xs.length * Z3.k β;have hq:t / Z3.k β<xs.length:=Nat.div_lt_of_lt_mul (by rwa [Ybc] at ht);have hr:t % Z3.k β<Z3.k β:=YbG _ hk;have h1:=Z0m (k:=Z3.k β) (xs.map Z3.enc) (by intro c hc;obtain ⟨x,_,rfl⟩:=XG.1 hc;exact Z3.len x) (t / Z3.k β) (by simpa using hq) (t % Z3.k β) ((Z3.enc xs[t / Z3.k β])[t % Z3.k β]'(by rw [Z3.len];exact hr)) (by simp [Z3.len,hr]);rw [Ybc,Ybm] at h1;rw [h1];have h2:=Go.Sort.get_flatK Z3.enc (Z3.k β) xs.toArray t (by simpa using ht);have hs:t<(Go.Sort.flatK Z3.enc (Z3.k β) xs.toArray).size:=by simpa using ht
 rw [getElem!_pos _ t hs] at h2;rw [YaX,Ya1 hs,h2];congr 1;rw [getElem!_pos xs.toArray _ (by simpa using hq),getElem!_pos _ _ (by rw [Z3.len];exact hr)];simp;rw [YaV (by simpa using YbA ht),YaV (by rw [ai];omega)]
theorem Row.toK {β:Type} [Z3 β] {X:List Nat} {base:Nat} {v:Value} {zs:List β} (h:Row X w base T v zs) :
 (v=.N/\zs=[])\/∃ g cap cur,v=.slice (some ⟨g,0,none⟩) zs.length cap/\base<=g/\w.heap[g]?=some (.cells cur T (0,0))/\zs.length<=cap/\cap<=maxLen/\cur.size=cap * Z3.k β/\cur.toList.take (zs.length * Z3.k β)=(zs.map Z3.enc).flatten:=by
 obtain ⟨css,hl,hr,hx,ho⟩:=h;have hc:css=zs.map Z3.enc:=by
  apply YaD (by simpa using hl);intro i h1 h2;have:css[i]=Z3.enc zs[i]:=hr i (by omega) h1;simp [this]
 subst hc;rcases ho with ⟨rfl,hn⟩|⟨g,cap,cur,rfl,hb,hg,cO,bU,bh,ht⟩
 exact .inl ⟨rfl,Xw.1 hn⟩;exact .inr ⟨g,cap,cur,rfl,hb,hg,cO,bU,bh,ht⟩
theorem Row.ofK {β:Type} [Z3 β] {X:List Nat} {base g cap:Nat} {cur:Array Value} {zs:List β} (hb:base<=g) (hg:w.heap[g]?=some (.cells cur T (0,0))) (cO:zs.length<=cap) (bU:cap<=maxLen) (bh:cur.size=cap * Z3.k β)
 (ht:cur.toList.take (zs.length * Z3.k β)=(zs.map Z3.enc).flatten):Row X w base T (.slice (some ⟨g,0,none⟩) zs.length cap) zs:=
 ⟨zs.map Z3.enc, by simp, λi h1 h2 => by simp; rfl, by
   rw [Z12 (k:=Z3.k β) _ (by intro c hc;obtain ⟨x,_,rfl⟩:=XG.1 hc;exact Z3.len x),Xt];rfl,
   .inr ⟨g,cap,cur,rfl,hb,hg,cO,bU,bh,ht⟩⟩
theorem Z26 {β:Type} [Z3 β] {X X':List Nat} {base:Nat} {v:Value} {zs:List β} (h:Row X w base T v zs):Row X' w base T v zs:=by
 rcases h.toK with ⟨rfl,rfl⟩|⟨g,cap,cur,rfl,hb,hg,cO,bU,bh,ht⟩
 exact Row.nil;exact Row.ofK hb hg cO bU bh ht
open Go.Shelf Go.Sort in
theorem Z9L {β:Type} [Z3 β] [Inhabited β] {P:Program} {ρ:Ren} (fp:0<Z3.k β) (L:SlLaysF0.n6 P ρ) (aE:∀ w,(isAgg (ρ.t 24)).run P w=.ok true w) (zE:∀ w,(Go.sizeOf (ρ.t 24)).run P w=.ok (Z3.k β) w) (cf:β->β->Int) (hO:SWO (ltOf cf)) (g:Nat) {fn:Func} [hf:Fun P g fn]
 (qU:∀ (x y:β) (w),Calls P g #[aG x,aG y] w (Ret λr w'=>r=.I (cf x y)/\StD w w'))
 {X:List Nat} {base:Nat} {v:Value} {zs:List β} (h:Row X w base T v zs) (bG:zs.length<4611686018427387904) :
 Calls P (ρ.f 6) #[v,.func (.func g) #[] #[]] w (Ret λr w'=>r=.tuple #[]/\∃ zs':List β,zs'.Perm zs/\(∀ i j (hi:i<zs'.length) (hj:j<zs'.length),i<j->¬ cf zs'[j] zs'[i]<0)/\Row X w' base T v zs'/\Stp (ob v) w w'):=by
 rcases h.toK with ⟨rfl,rfl⟩|⟨gb,cap,cur,rfl,hb,hg,cO,bU,bh,ht⟩
 refine (AnyF.slices_SortFunc_none L none 0 _ w).mono ?_;rintro _ _ ⟨rfl,rfl⟩;exact .mk ⟨rfl,[],YaF _,λi j hi=>absurd hi (Xs _),Row.nil,Stp.refl _ _⟩;have hlt:gb<w.heap.size:=(Xl.1 hg).1;have hC:CmpLays P g #[] Z3.enc (Z3.k β) cf gb 0 zs.toArray.size w:=λm os dk hs x y=>by
  refine (qU x y _).mono ?_;rintro _ _ ⟨_,rfl,rfl,hD⟩;exact ⟨rfl,hD.grown⟩
 have hH:HoldsK Z3.enc (Z3.k β) w gb 0 zs.toArray:=Ze7 hg (by rw [size_flatK,Z8x fp];simpa using ht);have hS:=AnyQ.slices_SortFunc L (Z3.k β) aE zE Z3.enc Z3.len Z3.one cf hO g #[] gb 0 cap zs.toArray w (λargs w=>hf.enters args w) hC hH hlt (by simpa using bG);rw [show zs.toArray.size=zs.length by simp] at hS;refine hS.mono ?_;rintro _ _ ⟨rfl,d',q,os,⟨p1,p2,p3⟩,ec,rfl⟩;have hl:d'.size=zs.length:=by simpa using p1
 have hp:d'.toList.Perm zs:=by
  have e1:d'.extract 0 zs.length=d':=by rw [<- hl];simp
  have e2:zs.toArray.extract 0 zs.length=zs.toArray:=by simp
  rw [e1,e2] at p3;simpa using p3
 obtain ⟨h1,cur',h2,h3,h4⟩:=Zgp (q:=q) (F:=flatK Z3.enc (Z3.k β) d') os hg (by rw [size_flatK,hl,bh];exact Xo _ cO);refine .mk ⟨rfl,d'.toList,hp,λi j hi hj dC=>?_,?_,h1⟩;have:=ec i j (Xq _) dC (by simpa [hl] using hj);simp only [ltOf,decide_eq_false_iff_not] at this;rw [getElem!_pos d' j (by simpa using hj),getElem!_pos d' i (by simpa using hi)] at this;simpa using this;have hz:zs.length=d'.toList.length:=by simp [hl]
 rw [hz];refine Row.ofK hb h2 (by rw [<- hz];exact cO) bU (by rw [h3,bh]) ?_;rw [<- hz,<- hl,<- size_flatK Z3.enc (Z3.k β) d',h4];have:=Z8x fp d'.toList;simpa using this
end
variable {P:Program} {n:Nat} {e:Env} {w:World} {d:Option Nat} {ty:TypeId} {pos:String} {af:Array Edge} {g:Option (Nat×Bool)}
theorem Zf5 {T k bytes:Nat} {z:Value} [hk:Siz P T k] [hb:Byt P T bytes] [hz:Zer P T z]:∃ i,P.info? T=some i/\i.size=k/\i.bytes=bytes/\i.zero=some z:=by
 have a1:=hk.h;have a2:=hb.h;have a3:=hz.h;cases hi:P.info? T with
 | none=>simp [hi] at a1
 | some i=>exact ⟨i,rfl,by simpa [hi] using a1,by simpa [hi] using a2,by simpa [hi] using a3⟩
def Zxy (T k m:Nat) (w:World) (v:Value) (w':World):Prop:=∃ b cur,v=.slice (some ⟨b,0,none⟩) m m/\w.heap.size<=b/\w'.heap[b]?=some (.cells cur T (0,0))/\cur.size=m * k/\m<=maxLen/\Stp [] w w'
theorem Z99 {t T bytes k m:Nat} {x y:Operand} {z:Value} [ht:Und P t (.slice T)] [hk:Siz P T k] [hb:Byt P T bytes] [hz:Zer P T z]
 (hx:ev e x=some (.I (m:Int))) (hy:ev e y=some (.I (m:Int))) (gQ:m<=maxLen) (hbytes:bytes * m<=281474976710656) :
 OE P n ⟨d,.makeSlice t x y,ty,pos,af,g⟩ e w (Zxy T k m w):=by
 obtain ⟨i,hi,bO,cn,fB⟩:=Zf5 (P:=P) (T:=T) (k:=k) (bytes:=bytes) (z:=z);obtain ⟨w',bj,cb,qn⟩:=run_make_full (P:=P) w w.heap.size t T i z k ht.h hi fB bO .i64 .i64 m (by rw [cn];exact hbytes) gQ (Xn _);refine Jf (v:=.slice (some ⟨w.heap.size,0,none⟩) m m) (w':=w') (λa ha=>?_) ?_;simp [execOp,ha.ev hx,ha.ev hy,bj];rcases cb.2 with ⟨h,_⟩|⟨gb,cap,cur,h,cu,hg,hn,hm,bh,ml⟩
 cases h;cases h;exact ⟨_,cur,rfl,Xn _,hg,bh,gQ,Stp.of_grown qn⟩
theorem ZjW {β:Type} [Z3 β] {t T bytes b:Nat} {x y:Operand} {z u:Value} {zs:List β} {cur:Array Value} {base:Nat} [ht:Und P t (.slice T)] [hk:Siz P T (Z5.k β)] [hb:Byt P T bytes] [hz:Zer P T z]
 (hx:ev e x=some (.slice (some ⟨b,0,none⟩) zs.length zs.length)) (hy:ev e y=some u) (hs:SlV [] w u zs) (hg:w.heap[b]?=some (.cells cur T (0,0))) (bh:cur.size=zs.length * Z5.k β) (aZ:base<=b) (hm:zs.length<=maxLen) :
 OE P n ⟨d,.call { callee:=.builtin .copy,args:=#[x,y],argTypes:=#[t,t] },ty,pos,af,g⟩ e w (λ_ w'=>(∀ X,Row X w' base T (.slice (some ⟨b,0,none⟩) zs.length zs.length) zs)/\Stp [b] w w'):=by
 obtain ⟨i,hi,bO,cn,fB⟩:=Zf5 (P:=P) (T:=T) (k:=Z5.k β) (bytes:=bytes) (z:=z);have dW:((zs.map Z3.enc).flatten:List Value).length=zs.length * Z5.k β:=by
  rw [Z12 (k:=Z3.k β) _ (by intro c hc;obtain ⟨x,_,rfl⟩:=XG.1 hc;exact Z3.len x),Xt];rfl
 have aF:∀ v∈(zs.map Z3.enc).flatten,v.oneCell'=true:=by
  intro v hv;obtain ⟨c,hc,fw⟩:=List.mem_flatten.1 hv;obtain ⟨x,_,rfl⟩:=XG.1 hc;exact Z3.one x v fw
 have aA:=run_storeCells_at (P:=P) b 0 T (zs.map Z3.enc).flatten 0 cur w hg (by rw [dW,bh];omega) aF;obtain ⟨p,c,rfl,yd,bU,cM,an⟩:=hs;have qk:(Builtin.firstCells (Z5.k β) zs.length (.slice p zs.length c)).run P w=.ok (zs.map Z3.enc).flatten.toArray w:=by
  cases p with
  | none=>
    have h0:zs.length=0:=by have:=cM rfl;omega
    obtain rfl:=Xw.1 h0;simp [Builtin.firstCells]
  | some a=>
    have:=run_loadCells_list (P:=P) (w:=w) a (zs.map Z3.enc).flatten (λj v hj=>by
     have fD:j<zs.length * Z3.k β:=by
      have h1:=(Xu.1 hj).1;rw [dW] at h1;exact h1
     have vF:0<Z3.k β:=by
      rcases Nat.eq_zero_or_pos (Z3.k β) with h|h
      rw [h] at fD;omega;exact h
     have hq:j / Z3.k β<zs.length:=Nat.div_lt_of_lt_mul (by rwa [Ybc] at fD);have hr:j % Z3.k β<Z3.k β:=YbG _ vF;obtain ⟨b',o,cs,h1,h2,h3,h4,h5⟩:=an _ hq;cases h1;have oZ:cs=Z3.enc zs[j / Z3.k β]:=h4;have h6:=Z0m (k:=Z3.k β) (zs.map Z3.enc) (by intro c hc;obtain ⟨x,_,rfl⟩:=XG.1 hc;exact Z3.len x) (j / Z3.k β) (by simpa using hq) (j % Z3.k β) ((Z3.enc zs[j / Z3.k β])[j % Z3.k β]'(by rw [Z3.len];exact hr)) (by simp [Z3.len,hr]);rw [Ybc,Ybm] at h6;rw [h6] at hj;have h7:=h5 (j % Z3.k β) _ (by rw [oZ];exact XD (by rw [Z3.len];exact hr));rw [XT hj] at h7;have h8:o+j / Z3.k β * Z3.k β+j % Z3.k β=o+j:=by
      have:=Ybm j (Z3.k β);rw [Ybc] at this;omega
     have h9:(⟨b',o,none⟩:Addr).add j=⟨b',o+j,none⟩:=by unfold Addr.add;split<;>simp_all
     rw [h9,<- h8];exact h7)
    rw [dW] at this;simpa [Builtin.firstCells] using this
 refine Jf (v:=goInt zs.length) (w':=w.setRow b ((zs.map Z3.enc).flatten++cur.toList.drop ((zs.map Z3.enc).flatten.length)).toArray) (λa ha=>?_) ⟨λX=>?_,Z1S _ _ _⟩;have hr:(Builtin.copy_ #[t,t] ty #[.slice (some ⟨b,0,none⟩) zs.length zs.length,.slice p zs.length c]).run P w=.ok (goInt zs.length) (w.setRow b ((zs.map Z3.enc).flatten++cur.toList.drop ((zs.map Z3.enc).flatten.length)).toArray):=by
  simp only [Ybr,XM,YbM,XJ] at aA;simp [Builtin.copy_,run_underlying ht.h,Builtin.lenOf,sizeOf,typeInfo,hi,bO,qk,aA]
 generalize w.setRow b ((zs.map Z3.enc).flatten++cur.toList.drop ((zs.map Z3.enc).flatten.length)).toArray=W' at hr ⊢;simp [execOp,resolve,invoke,builtin,ha.ev hx,ha.ev hy,hr];have oM:b<w.heap.size:=(Xl.1 hg).1;refine Row.ofK (cur:=((zs.map Z3.enc).flatten++cur.toList.drop ((zs.map Z3.enc).flatten.length)).toArray) aZ (setRow_heap w b cur _ T (0,0) hg) (Xn _) hm ?_ ?_;have:Z3.k β=Z5.k β:=rfl;rw [this];simp only [Yaw,Xc,Yaq,Yal,dW,bh];omega;have:Z3.k β=Z5.k β:=rfl;rw [this];simp only [List.take_append_of_le_length (Nat.le_of_eq dW.symm)];rw [<- dW,Xp]
end Go.Eng
namespace Go.Proofs.YtipfkbkkndacjaaGreatDoor
open Go Go.Eng Go.RowKit
theorem Zgq (x y:Int) (w):CC 75 #[.I x,.I y] w λr w'=>r=.I (cmI x y)/\StD w w':=
 (Tryz.cmp_Compare_int x y w).mono (by
   rintro e w' ⟨rfl,rfl⟩;exact .mk ⟨rfl,StD.refl _⟩)
theorem ZjX (a:Str) (w):CC 126 #[str a] w λr w'=>r=.B false/\StD w w':=by
 refine cW1 6 Tryz.func126 ?_;refine RT ?_;exact ⟨by simp,StD.refl _⟩
theorem ZwD (a b:Str) (w):CC 76 #[str a,str b] w λr w'=>r=.I (Z43 a b)/\StD w w':=by
 refine cW2 20 Tryz.func76 ?_;refine W ?_;refine CPD (StD.refl w) (ZjX a _) λw1 _ hS=>?_;refine W ?_;refine CPD hS (ZjX b _) λw2 _ hS=>?_;refine W ?_;cases h1:ltS a b
 . refine Z8 (Z7C rfl rfl h1) rfl ?_
   refine W ?_;cases h2:(!(ltS a b || a == b))
   all_goals
    refine Z8 (Zf4 rfl rfl h2) rfl ?_;refine RT ?_;exact ⟨by rw [Z43,if_neg (by simp [h1]),h2];rfl,hS⟩
 refine Z8 (Z7C rfl rfl h1) rfl ?_;refine RT ?_;exact ⟨by rw [Z43,h1];rfl,hS⟩
theorem Zxz (v:Value) (l:List Int) (w) (hs:SlV [] w v l):CC 74 #[v] w λr w'=>r=.I (orL l)/\StD w w':=by
 have aS:=hs.max;refine cW1 18 Tryz.func74 ?_;refine W ?_;refine LP (σ:=Nat) (λk=>[(3,.I 0),(6,v),(7,.I l.length),(8,.I k)]) (λk w'=>k<=l.length/\StD w w'/\∀ j (h:j<l.length),j<k->l[j]=0) (λk=>l.length - k) 0 ⟨by omega,StD.refl _,by omega⟩ ?_;have aX:=hs;clear hs;rintro k w1 ⟨hk,hS,hz⟩;have hs:=aX.up hS.s;by_cases hlt:k<l.length;by_cases h0:l[k]=0;refine QO ?_;exact QL (k+1) ⟨by omega,hS,λj h hj=>by
  by_cases e:j=k;subst e;exact h0;exact hz j h (by omega)⟩ (by omega)
 refine RT ?_;exact ⟨by rw [Ze4 hlt hz h0],hS⟩;refine RT ?_;exact ⟨by rw [Z8t (λj h=>hz j h (by omega))],hS⟩
theorem ZwE (f g:Fct) (w):CC 43 #[aG f,aG g] w λr w'=>r=.I (Z4N f g)/\StD w w':=by
 refine cW2 37 Tryz.func43 ?_;refine W ?_;refine BXD (StD.refl w) λb2 w1 h2 e2 _ hS=>?_;refine BXD hS λb3 w2 h3 e3 hT hS=>?_;replace e2:=e2.up hT.s;replace e2:Blk w2 b2 45 (Z3.enc f):=e2;replace e3:Blk w2 b3 45 (Z3.enc g):=e3;refine W ?_;refine Zgo 33 [] [] [(0,0),(1,1),(2,0),(3,1),(5,0),(6,1),(7,0),(8,1),(10,0),(11,1),(12,0),(13,1),(15,0),(16,1),(17,0),(18,1),(20,0),(21,1),(22,0),(23,1),(25,0),(26,1),(27,0),(28,1),(4,2),(9,2),(14,2),(19,2),(24,2),(29,2),(30,2),(31,2),(32,0)] rfl mixed (by kernel_rfl) (by kernel_rfl) (by kernel_rfl) (λw1 ae=>?_);replace e2:=e2.up ae.s;replace e3:=e3.up ae.s;replace hS:=hS.trans ae;refine D ?_;clear ae e2 e3;refine DPD hS (Zgq _ _ _) λ_ _ hS=>?_;refine DPD hS (Zgq _ _ _) λ_ _ hS=>?_;refine DPD hS (ZwD _ _ _) λ_ _ hS=>?_;refine DPD hS (Zgq _ _ _) λ_ _ hS=>?_;refine DPD hS (Zgq _ _ _) λ_ _ hS=>?_;refine DPD hS (Zgq _ _ _) λ_ _ hS=>?_;refine Za rfl trivial (Z8w rfl (Zcm _ _ _ _ _ _)) (λ_ _ h=>Z9.stp h.1) rfl ?_;rintro bv wb ⟨hN,hT⟩;have aq:=hN.slv (X:=[]) (ys:=[cmI f.day g.day,cmI f.entry g.entry,Z43 f.kind g.kind,cmI f.by_ g.by_,cmI f.to_ g.to_,cmI f.amt g.amt]) (by simp) rfl rfl (by simp [maxLen]);replace hS:=hS.trans hT;refine DPD hS (Zxz bv _ _ aq) λ_ _ hS=>?_;refine D ?_;refine RT ?_;exact ⟨rfl,hS⟩
theorem ZwF (a b:Spn) (w):CC 151 #[aG a,aG b] w λr w'=>r=.I (cmI a.1 b.1)/\StD w w':=by
 refine cW2 10 Tryz.func151 ?_;refine W ?_;refine BXD (StD.refl w) λb2 w1 h2 e2 _ hS=>?_;refine BXD hS λb3 w2 h3 e3 hT hS=>?_;replace e2:=e2.up hT.s;replace e2:Blk w2 b2 75 (Z3.enc a):=e2;replace e3:Blk w2 b3 75 (Z3.enc b):=e3;refine W ?_;refine CPD hS (Zgq _ _ _) λw3 _ hS=>?_;refine RT ?_;exact ⟨rfl,hS⟩
def Ze8 (s:Spn):List Spn->List Spn
 | []=>[s]
 | x :: l=>if s.1<x.1 then s :: x :: l else x :: Ze8 s l
def Zf6 (l:List Spn):List Spn:=l.foldr Ze8 []
def JA (acc:List Spn) (s:Spn):List Spn:=
 match acc.getLast? with
 | none=>[s]
 | some t=>if s.1<=t.2+1 then acc.dropLast++[(t.1,max t.2 s.2)] else acc++[s]
def Z0i (l:List Spn):List Spn:=(Zf6 l).foldl JA []
structure Z8y (l:List Spn):Prop where
 len:l.length<=1000
 rng:∀ s∈l,0<=s.1/\s.1<=s.2/\s.2<=3652058
theorem Z1Q (s:Spn):JA [] s=[s]:=rfl
theorem JH (L:List Spn) (u s:Spn):JA (L++[u]) s=if s.1<=u.2+1 then L++[(u.1,max u.2 s.2)] else L++[u]++[s]:=by
 simp [JA]
theorem Z6C (s:Spn):∀ l,(Ze8 s l).Perm (s :: l)
 | []=>YaF _
 | x :: l => by
   rw [Ze8];split;exact YaF _
   . exact ((Z6C s l).cons x).trans (List.Perm.swap _ _ _)
theorem Z78 (s:Spn):∀ l:List Spn,l.Pairwise (λa b=>a.1<=b.1)->(Ze8 s l).Pairwise (λa b=>a.1<=b.1)
 | [],_=>by simp [Ze8]
 | x :: l, h => by
   rw [Ze8];rw [XO] at h;split;rename_i hlt;refine XO.2 ⟨λy hy=>?_,XO.2 h⟩;rcases Xb.1 hy with rfl|hy
   omega;have:=h.1 y hy;omega;rename_i hlt;refine XO.2 ⟨λy hy=>?_,Z78 s l h.2⟩;rcases Xb.1 ((Z6C s l).mem_iff.1 hy) with rfl|hy
   omega;exact h.1 y hy
theorem Z0Y:∀ l,(Zf6 l).Perm l
 | []=>YaF _
 | x :: l=>(Z6C x _).trans ((Z0Y l).cons x)
theorem Z3h:∀ l,(Zf6 l).Pairwise (λa b=>a.1<=b.1)
 | []=>List.Pairwise.nil
 | x :: l=>Z78 x _ (Z3h l)
theorem Ze9 {acc:List Spn} {s t:Spn} (h:s.1=t.1) (hs:s.1<=s.2) (ht:t.1<=t.2):JA (JA acc s) t=JA (JA acc t) s:=by
 obtain ⟨s1,s2⟩:=s;obtain ⟨t1,t2⟩:=t;dsimp only at h hs ht;subst h;rcases Yae acc with rfl|⟨L,u,rfl⟩
 rw [Z1Q,Z1Q];have e1:=JH [] (s1,s2) (s1,t2);have e2:=JH [] (s1,t2) (s1,s2);rw [XJ] at e1 e2;rw [e1,e2,if_pos (by dsimp only;omega),if_pos (by dsimp only;omega)];dsimp only;rw [Int.max_comm];obtain ⟨u1,u2⟩:=u;rw [Yaf,JH,JH];dsimp only;by_cases hc:s1<=u2+1;rw [if_pos hc,if_pos hc,JH,JH,if_pos (by dsimp only;omega),if_pos (by dsimp only;omega)];dsimp only;congr 3;omega;rw [if_neg hc,if_neg hc,JH,JH,if_pos (by dsimp only;omega),if_pos (by dsimp only;omega)];dsimp only;rw [Int.max_comm]
theorem Z9M {x:Spn} (hx:x.1<=x.2):∀ (A:List Spn) (acc:List Spn),(∀ a∈A,a.1=x.1/\a.1<=a.2)->JA (A.foldl JA acc) x=A.foldl JA (JA acc x)
 | [],_,_=>rfl
 | a :: A, acc, h => by
   rw [X2,X2,Z9M hx A _ (λb hb=>h b (by simp [hb])),Ze9 (h a (by simp)).1 (h a (by simp)).2 hx]
theorem Zcp:∀ (L1 L2 acc:List Spn),L1.Perm L2->L1.Pairwise (λa b=>a.1<=b.1)->L2.Pairwise (λa b=>a.1<=b.1)->(∀ s∈L1,s.1<=s.2)->L1.foldl JA acc=L2.foldl JA acc
 | [],L2,acc,hp,_,_,_=>by rw [List.nil_perm.1 hp]
 | x :: l, L2, acc, hp, h1, h2, hv => by
   obtain ⟨A,B,rfl⟩:=List.append_of_mem (hp.mem_iff.1 (YaS));have hq:l.Perm (A++B):=(hp.trans List.perm_middle).cons_inv;rw [XO] at h1;have kE:=Yai.1 h2;rw [X2,YaI,X2,Z9M (hv x (by simp)) A acc (λa ha=>?_),<- YaI];refine Zcp l (A++B) _ hq h1.2 ?_ (λs hs=>hv s (by simp [hs]));exact h2.sublist (List.Sublist.append_left (List.sublist_cons_self _ _) _);have eV:a∈l:=hq.mem_iff.2 (by simp [ha]);have g1:=h1.1 a eV;have g2:=kE.2.2 a ha x (by simp);exact ⟨by omega,hv a (by simp [eV])⟩
theorem Zgr {l L:List Spn} (hp:L.Perm l) (hs:L.Pairwise (λa b=>a.1<=b.1)) (hv:∀ s∈l,s.1<=s.2):Z0i l=L.foldl JA []:=
 Zcp _ _ _ ((Z0Y l).trans hp.symm) (Z3h l) hs (λs h=>hv s ((Z0Y l).mem_iff.1 h))
theorem Zgs (acc:List Spn) (s:Spn):(JA acc s).length<=acc.length+1:=by
 rcases Yae acc with rfl|⟨L,u,rfl⟩
 simp [JA];rw [Yaf,JH];split<;>simp
theorem Z6D:∀ (L acc:List Spn),(L.foldl JA acc).length<=acc.length+L.length
 | [],acc=>by simp
 | x :: L, acc => by
   rw [X2];have h1:=Z6D L (JA acc x);have h2:=Zgs acc x;rw [Xe];omega
def SpV (s:Spn):Prop:=0<=s.1/\s.1<=s.2/\s.2<=3652058
theorem Znp {acc:List Spn} {s:Spn} (ha:∀ x∈acc,SpV x) (hs:SpV s):∀ x∈JA acc s,SpV x:=by
 rcases Yae acc with rfl|⟨L,u,rfl⟩
 rw [Z1Q];intro x hx;simp only [Xi] at hx;subst hx;exact hs;rw [Yaf] at ha ⊢;rw [JH];have hu:=ha u (by simp);intro x hx;unfold SpV at *;split at hx;rcases Xf.1 hx with h|h
 exact ha x (by simp [h]);simp only [Xi] at h;subst h;dsimp only;omega;rcases Xf.1 hx with h|h
 exact ha x h;simp only [Xi] at h;subst h;exact hs
theorem ZaW:∀ (L acc:List Spn),(∀ x∈acc,SpV x)->(∀ x∈L,SpV x)->∀ x∈L.foldl JA acc,SpV x
 | [],acc,h,_=>h
 | y :: L,acc,h,hL=>ZaW L _ (Znp h (hL y (by simp))) (λx hx=>hL x (by simp [hx]))
theorem ZjY {l:List Spn} (h:Z8y l):Z8y (Z0i l):=by
 have hp:=Z0Y l;refine ⟨?_,ZaW _ _ (by simp) (λx hx=>h.rng x (hp.mem_iff.1 hx))⟩;have:=Z6D (Zf6 l) [];rw [hp.length_eq] at this;have:=h.len;unfold Z0i;simp at *;omega
open Go Go.Eng Go.RowKit Go.Shelf Go.Sort
theorem ZxA {α:Type} (f:α->Int):SWO (ltOf λx y:α=>cmI (f x) (f y)):=by
 have h:∀ x y,ltOf (λx y:α=>cmI (f x) (f y)) x y=decide (f x<f y):=by
  intro x y;unfold ltOf cmI;by_cases h1:f x<f y;simp [h1];by_cases h2:f y<f x<;>simp [h1,h2]
 refine ⟨λx=>by rw [h];simp,λx y z h1 h2=>?_,λx y z h1 h2=>?_⟩;rw [h] at *;simp at *;omega;rw [h] at *;simp at *;omega
instance:Inhabited Spn:=⟨(0,0)⟩
theorem Zcq {X:List Nat} {base:Nat} {v:Value} {zs:List Spn} {w} (h:Row X w base 75 v zs) (bG:zs.length<=1000) :
 CC 150 #[v,.func (.func 151) #[] #[]] w λr w'=>r=.tuple #[]/\∃ zs':List Spn,zs'.Perm zs/\(∀ i j (hi:i<zs'.length) (hj:j<zs'.length),i<j->¬ cmI zs'[j].1 zs'[i].1<0)/\Row X w' base 75 v zs'/\Stp (ob v) w w':=
 Z9L (β:=Spn) (by decide) Tryz.sortSpn Tryz.isAgg75 Tryz.sizeOf75 (λx y=>cmI x.1 y.1) (ZxA Prod.fst) 151 (λx y w=>ZwF x y w) h (by omega)
theorem Zgt (v:Value) (l:List Spn) (w) (hs:SlV [] w v l) (ho:Z8y l):CC 83 #[v] w λr w'=>ZI 75 w w' r (Z0i l):=by
 have ai:=ho.len;refine cW1 58 Tryz.func83 ?_;refine W ?_;refine Z0 (Z99 (m:=l.length) rfl rfl (by simp only [maxLen];omega) (Xh (Nat.mul_le_mul_left _ ai) (by decide))) rfl ?_;rintro _ w1 ⟨b,cur,rfl,hb,hg,bh,hm,hT⟩;have cm:=hs.up hT;refine W ?_;refine Z0 (ZjW (base:=w.heap.size) rfl rfl cm hg bh hb hm) rfl ?_;rintro _ w2 ⟨hr,ar⟩;replace hT:=hT.ow ar;refine W ?_;refine CL (Zcq (hr []) ai) ?_;rintro _ w3 ⟨rfl,L,hp,ec,dA,cE⟩;have hS:Stp [] w w3:=hT.own cE (λc hc=>.inr (by simp [ob] at hc;omega));have vG:L.Pairwise (λa b=>a.1<=b.1):=Yap.2 (λi j hi hj dC=>by
  have:=ec i j hi hj dC;unfold cmI at this;by_cases h1:L[j].1<L[i].1;rw [if_pos h1] at this;omega;omega)
 rw [Zgr hp vG (λs h=>(ho.rng s h).2.1)];have hv:∀ s∈L,SpV s:=λs h=>ho.rng s (hp.mem_iff.1 h);have j6:L.length=l.length:=hp.length_eq;have hL:L.length<=1000:=by rw [j6];exact ai
 have ax:SlV [] w3 (.slice (some ⟨b,0,none⟩) l.length l.length) L:=dA.slv (by simp);rw [<- j6] at *;clear hr dA cm hT ar cE hg bh ec hp;generalize yf:Value.slice (some ⟨b,0,none⟩) L.length L.length=vv at *;refine W ?_;refine LP (σ:=Nat×Value) (λq=>[(4,q.2),(16,vv),(17,.I L.length),(18,.I q.1)]) (λq w'=>q.1<=L.length/\ZI 75 w3 w' q.2 ((L.take q.1).foldl JA [])) (λq=>L.length - q.1) (0,.N) ⟨by omega,ZI.nil⟩ ?_;rintro ⟨k,rv⟩ w4 ⟨hk,hr⟩;dsimp only at hk hr ⊢;by_cases hlt:k<L.length;have ei:=ax.up hr.2;have hstep:(L.take (k+1)).foldl JA []=JA ((L.take k).foldl JA []) L[k]:=by rw [Xk hlt,YaI];rfl
 have dW:=Z6D (L.take k) [];have fX:=ZaW (L.take k) [] (by simp) (λx hx=>hv x (Yau hx));have vH:=hv _ (Xd hlt);rw [Xx,Xg] at dW;generalize (L.take k).foldl JA []=acc at *;refine QO ?_;refine Z0 Z2 rfl ?_;rintro _ w5 ⟨b6,rfl,eh,e6,hA⟩;refine SA (us:=Z3.enc L[k]) e6 ?_;rintro _ w6 ⟨dl,e6⟩;replace hA:=hA.ow dl;replace hr:=hr.up hA;clear hA dl ei;have eZ:SlV [] w6 rv acc:=hr.slv (by simp);refine W ?_;rcases Yae acc with rfl|⟨M,u,rfl⟩
 refine ZDr 14 [] [] [(0,0),(1,0),(2,0),(3,0),(4,1),(5,0),(6,0),(7,0),(8,0),(9,0),(10,1),(11,0),(12,0),(13,0)] (λw1 ae=>?_);replace hr:=hr.up ae;replace e6:=e6.up ae;refine D ?_;refine W ?_;refine AP1 L[k] hr (by simp) λv1 v' w' bN _=>?_
 refine W ?_;exact QL (k+1,v') ⟨hlt,by rw [hstep,Z1Q];exact bN⟩ (by dsimp only;omega);rw [Yaf] at *;rw [JH] at hstep;have kW:((M++[u]).length:Int) - 1=(M.length:Nat):=by simp
 have mq:M.length<(M++[u]).length:=by simp
 have dw:(M++[u])[M.length]=u:=by simp
 have hu:=fX u (by simp);unfold SpV at hu vH;have qV:0<=(M++[u])[M.length].2/\(M++[u])[M.length].2<=3652058:=by rw [dw];omega
 have gq:0<((M++[u]).length:Int):=by simp
 refine ZDr 14 [] [] [(0,0),(1,0),(2,0),(3,0),(4,1),(5,0),(6,0),(7,0),(8,0),(9,0),(10,1),(11,0),(12,0),(13,0)] (λw1 ae=>?_);replace hr:=hr.up ae;replace eZ:=eZ.up ae;replace e6:=e6.up ae;refine QD ?_;rw [dw];refine W ?_;refine VC ?_ ?_<;>intro hc;rw [if_pos hc] at hstep;refine W ?_;refine ZDr 15 [] [14] [(0,0),(1,0),(2,0),(3,0),(4,0),(5,0),(6,0),(7,0),(8,1),(9,0),(10,1),(11,0),(12,0),(13,0),(14,2)] (λw1 ae=>?_);replace hr:=hr.up ae;replace eZ:=eZ.up ae;replace e6:=e6.up ae;refine QD ?_;rw [dw];refine ZO rfl trivial (Zax (y':=(u.1,max u.2 L[k].2)) (u:=.I (max u.2 L[k].2)) rfl rfl rfl rfl rfl hr mq (by decide) (by rw [dw];rfl)) rfl ?_;rintro _ w8 ⟨tG,-⟩;refine D ?_;refine W ?_;rw [show (M++[u]).set M.length (u.1,max u.2 L[k].2)=M++[(u.1,max u.2 L[k].2)] by simp] at tG;exact QL (k+1,rv) ⟨hlt,by rw [hstep];exact tG⟩ (by dsimp only;omega);rw [if_neg hc] at hstep;refine W ?_;refine AP1 L[k] hr (by omega) λv1 v' w' bN _=>?_
 refine W ?_;exact QL (k+1,v') ⟨hlt,by rw [hstep];exact bN⟩ (by dsimp only;omega);obtain rfl:k=L.length:=by omega
 rw [Xp] at hr;refine QO ?_;refine WR ?_;exact .mk (hr.pre hS)
def Z44 (start:Int):List Spn->Int->Int
 | [],d=>d
 | s :: l,d=>if d<s.1 then d else Z44 start l (d+max 0 (s.2 - max s.1 (start+1)+1))
def Z27 (start due:Int) (l:List Spn):Int×Int:=if due<=start then (due,0) else if 3652058<Z44 start (Z0i l) due then (0,31) else (Z44 start (Z0i l) due,0)
theorem Zgu (start:Int) (L:List Spn) (d:Int) (k:Nat) (h:k<L.length):Z44 start (L.drop k) d=if d<L[k].1 then d else Z44 start (L.drop (k+1)) (d+max 0 (L[k].2 - max L[k].1 (start+1)+1)):=by
 rw [X6 h,Z44]
theorem Z8z (start due:Int) (v:Value) (l:List Spn) (w) (hs:SlV [] w v l) (ho:Z8y l) (h1:-1000000000<=start/\start<=1000000000) (h2:-1000000000<=due/\due<=1000000000):CC 51 #[.I start,.I due,v] w λr w'=>r=.tuple #[.I (Z27 start due l).1,.I (Z27 start due l).2]/\Stp [] w w':=by
 have hm:=ZjY ho;unfold Z27;refine cW3 41 Tryz.func51 ?_;by_cases hd:due<=start;rw [if_pos hd];refine RT ?_;exact ⟨rfl,Stp.refl _ _⟩;rw [if_neg hd];refine QO ?_;refine CG (Zgt v l w hs ho) ?_;intro rv w1 hr;have hS:=hr.2;have eZ:SlV [] w1 rv (Z0i l):=hr.slv (by simp);clear hr;generalize Z0i l=L at *;refine W ?_;refine Z0j (σ:=Int) (λd=>[(0,.I start),(1,.I d)]) (λd w'=>Stp [] w w'/\d=Z44 start L due/\-1000000000<=d/\d<=9000000000000) ?_ ?_;refine LP (σ:=Nat×Int) (λq=>[(0,.I start),(1,.I q.2),(15,rv),(16,.I L.length),(17,.I q.1)]) (λq w'=>q.1<=L.length/\Stp [] w1 w'/\Z44 start (L.drop q.1) q.2=Z44 start L due/\-1000000000<=q.2/\q.2<=1000000000+q.1 * 4000000000) (λq=>L.length - q.1) (0,due) ⟨by omega,Stp.refl _ _,rfl,h2.1,by dsimp only;omega⟩ ?_;rintro ⟨k,d⟩ w2 ⟨hk,hT,he,g1,g2⟩;dsimp only at hk he g1 g2 ⊢;have ai:=hm.len;have qW:=eZ.up hT;by_cases hlt:k<L.length;obtain ⟨r1,r2,r3⟩:=hm.rng _ (Xd hlt);have hstep:=Zgu start L d k hlt;rw [he] at hstep;refine QO ?_;refine Z0 Z2 rfl ?_;rintro _ w3 ⟨b9,rfl,iI,e9,ak⟩;refine SA (us:=Z3.enc L[k]) e9 ?_;rintro _ w4 ⟨aJ,e9⟩;replace hT:=hT.trans (ak.ow aJ);clear ak aJ qW;simp only [Z3.enc] at e9;by_cases hb:d<L[k].1;rw [if_pos hb] at hstep;refine QO ?_;exact QT d ⟨hS.trans hT,hstep.symm,g1,by omega⟩;rw [if_neg hb] at hstep;refine QO ?_;exact Zx (k+1,d+max 0 (L[k].2 - max L[k].1 (start+1)+1)) ⟨rfl,rfl,rfl,rfl,rfl,trivial⟩ ⟨hlt,hT,hstep.symm,by dsimp only;omega,by dsimp only;omega⟩ (by dsimp only;omega);refine QO ?_;rw [YaA (by omega)] at he;exact QT d ⟨hS.trans hT,he,g1,by omega⟩;rintro d w2 ⟨ah,rfl,g1,g2⟩;generalize Z44 start L due=d at *;by_cases hc:3652058<d;rw [if_pos hc];refine RT ?_;exact ⟨rfl,ah⟩;rw [if_neg hc];refine RT ?_;exact ⟨rfl,ah⟩
def ZjZ (start due:Int) (l:List Spn):Int:=if (Z27 start due l).2≠0 then 3652058 else (Z27 start due l).1
def Z45 (start e:Int) (s:Spn):Bool:=decide (start<s.2/\s.1<=e)
def Z4Z (start due:Int) (l:List Spn):List Spn:=if due<=start then [] else l.filter (Z45 start (ZjZ start due l))
theorem Zcr {α:Type} (p:α->Bool) (l:List α) (k:Nat) (h:k<l.length):(l.take (k+1)).filter p=(l.take k).filter p++if p l[k]=true then [l[k]] else []:=by
 rw [Xk h,YaT];congr 1;cases hc:p l[k]<;>simp [hc]
theorem Zk0 (start due:Int) (v:Value) (l:List Spn) (w) (hs:SlV [] w v l) (ho:Z8y l) (h1:-1000000000<=start/\start<=1000000000) (h2:-1000000000<=due/\due<=1000000000):CC 55 #[.I start,.I due,v] w λr w'=>ZI 75 w w' r (Z4Z start due l):=by
 have ai:=ho.len;unfold Z4Z;refine cW3 46 Tryz.func55 ?_;by_cases hd:due<=start;rw [if_pos hd];refine QO ?_;refine WR ?_;exact .mk ZI.nil;rw [if_neg hd];refine QO ?_;refine CP (Stp.refl [] w) (Z8z start due v l w hs ho h1 h2) λw1 _ hS=>?_;refine W ?_;unfold ZjZ;generalize Z27 start due l=p;obtain ⟨d,c⟩:=p;dsimp only;refine Ju (σ:=Unit) (λ_=>[(0,.I start),(2,v),(7,.I (if c≠0 then 3652058 else d))]) (λ_ w'=>Stp [] w w') ?_ ?_;by_cases hc:c=0;rw [if_neg (by simpa using hc)];refine QO ?_;exact QT () hS;rw [if_pos hc];refine QO ?_;exact QT () hS;rintro _ w2 hS;generalize (if c≠0 then (3652058:Int) else d)=E;have bq:=hs.up hS;refine W ?_;refine LP (σ:=Nat×Value) (λq=>[(0,.I start),(7,.I E),(9,q.2),(24,v),(25,.I l.length),(26,.I q.1)]) (λq w'=>q.1<=l.length/\ZI 75 w w' q.2 ((l.take q.1).filter (Z45 start E))) (λq=>l.length - q.1) (0,.N) ⟨by omega,ZI.pre hS ZI.nil⟩ ?_;rintro ⟨k,rv⟩ w3 ⟨hk,hr⟩;dsimp only at hk hr ⊢;have eA:=hs.up hr.2;by_cases hlt:k<l.length
 . have hstep:=Zcr (Z45 start E) l k hlt
   refine QO ?_;refine Z0 Z2 rfl ?_;rintro _ w4 ⟨b11,rfl,lh,e11,ak⟩;refine SA (us:=Z3.enc l[k]) e11 ?_;rintro _ w5 ⟨aJ,e11⟩;replace hr:=hr.up (ak.ow aJ);clear ak aJ eA;repeat'(first|refine W1 ?_|omega|refine VG ?_ ?_<;>intro hg|refine VC ?_ ?_<;>intro hc)
   all_goals first
    | exact QL (k + 1, rv) ⟨hlt, by
       rw [hstep,if_neg (show ¬ Z45 start E l[k]=true by simp only [Z45,decide_eq_true_eq];omega),XC];exact hr⟩ (by dsimp only;omega)
    | refine AP1 l[k] hr (Xh (X1 _ _) (by simp; omega)) λv1 v' w' bN _ => ?_
      refine QO ?_;exact QL (k+1,v') ⟨hlt,by
       rw [hstep,if_pos (show Z45 start E l[k]=true from decide_eq_true ⟨by omega,by omega⟩)];exact bN⟩ (by dsimp only;omega)
 obtain rfl:k=l.length:=by omega
 rw [Xp] at hr;refine QO ?_;refine WR ?_;exact .mk hr
def Zgv (l:List Spn):Int:=if 64<l.length then 2 else if l.any (λs=>decide (s.1<0\/s.2<s.1\/3652058<s.2)) then 5 else 0
theorem ZaX (v:Value) (l:List Spn) (w) (hs:SlV [] w v l):CC 113 #[v] w λr w'=>r=.I (Zgv l)/\Stp [] w w':=by
 have aS:=hs.max;unfold Zgv;refine cW1 33 Tryz.func113 ?_;by_cases j9:64<l.length;rw [if_pos j9];refine RT ?_;exact ⟨rfl,Stp.refl _ _⟩;rw [if_neg j9];refine QO ?_;refine LP (σ:=Nat) (λk=>[(0,v),(9,.I l.length),(10,.I k)]) (λk w'=>k<=l.length/\Stp [] w w'/\∀ j (h:j<l.length),j<k->¬ (l[j].1<0\/l[j].2<l[j].1\/3652058<l[j].2)) (λk=>l.length - k) 0 ⟨by omega,Stp.refl _ _,by omega⟩ ?_;rintro k w2 ⟨hk,hS,hz⟩;have bq:=hs.up hS;by_cases hlt:k<l.length
 . refine QO ?_
   refine Z0 Z2 rfl ?_;rintro _ w4 ⟨b4,rfl,bE,e4,ak⟩;refine SA (us:=Z3.enc l[k]) e4 ?_;rintro _ w5 ⟨aJ,e4⟩;replace hS:=hS.trans (ak.ow aJ);clear ak aJ;repeat'(first|refine W1 ?_|omega|refine VG ?_ ?_<;>intro hg|refine VC ?_ ?_<;>intro hc)
   all_goals first
    | exact QL (k + 1) ⟨hlt, hS, λj h hj => by
       by_cases e:j=k;subst e;omega;exact hz j h (by omega)⟩ (by omega)
    | refine WR ?_
      rw [if_pos (YaO.2 ⟨l[k],Xd hlt,by simp only [decide_eq_true_eq];omega⟩)];exact .mk ⟨rfl,hS⟩
 refine QO ?_;refine WR ?_;rw [if_neg];exact .mk ⟨rfl,hS⟩;intro h;obtain ⟨s,h1,h2⟩:=YaO.1 h;obtain ⟨j,hj,rfl⟩:=Xr h1;exact hz j hj (by omega) (by simpa using h2)
end Go.Proofs.YtipfkbkkndacjaaGreatDoor
namespace Go.Eng
open Go Go.RowKit Go.Proofs
def Z1r (ds:List Deferred) (a:Act):Act:={ a with defers:=a.defers++ds }
def ZaY (ds:List Deferred) (Q:Exit->Act->World->Prop):Exit->Act->World->Prop:=λx a w=>Q x (Z1r ds a) w
theorem Z28 (ds:List Deferred) (a:Act) (d:Option Nat) (v:Value):Z1r ds (a.put d v)=(Z1r ds a).put d v:=by cases d<;>rfl
theorem Z6E (ds:List Deferred) (a:Act):(Z1r ds a).eval=a.eval:=by funext x;cases x<;>rfl
theorem Z46 {ds:List Deferred} {Q:Exit->Act->World->Prop} (h:LetsOut (ZaY ds Q)):LetsOut Q:=let ⟨a,w,h⟩:=h;⟨_,w,h⟩
theorem Zcs {P:Program} {ds:List Deferred} {Q:Exit->Act->World->Prop} {o:Oper} {a:Act} {w} {K K':Act->World->Prop} (hK:∀ a w,K' a w->K (Z1r ds a) w) (h:o.wp P a w K' (ZaY ds Q)):o.wp P (Z1r ds a) w K Q:=by
 unfold Oper.wp at *;rw [Z6E];generalize (execOp a.eval o).run P w=r at *;cases r with
 | ok x w'=>
   cases x<;>simp only [Oper.upon] at h ⊢
   case value v=>have:=hK _ _ h;rw [Z28] at this;exact this
   case skip=>have:=hK _ _ h;rw [Z28] at this;exact this
   case defer d=>have:=hK _ _ h;rw [Z28] at this;exact this
   case enter f args=>
    refine Calls.mono h λe w'' he=>?_;cases e with
    | returned v=>have:=hK _ _ he;rw [Z28] at this;exact this
    | panicked c=>exact he
    | outgrown=>exact Z46 he
   case row row args=>exact Rows.mono h λv w'' he=>by have:=hK _ _ he;rw [Z28] at this;exact this
 | halt x w'=>cases x<;>simp only [Oper.upon] at h ⊢;exact h
theorem Zct {P:Program} {ds:List Deferred} {o:Oper} {a:Act} {w} (h:o.asks P a w):o.asks P (Z1r ds a) w:=by
 unfold Oper.asks at *;rw [Z6E];exact h
theorem Z5l {P:Program} {ds:List Deferred} {Q:Exit->Act->World->Prop} {ops:Array Oper}:∀ (l:List Oper) (a:Act) (w),wpList P ops (ZaY ds Q) l a w->wpList P ops Q l (Z1r ds a) w
 | [],a,w,h=>h
 | o :: rest, a, w, h => by
   unfold wpList at *;split at h;rename_i hw;rw [if_pos (show Region.wanted o (yielded ops (Z1r ds a).tmps)=true from hw)];rcases h with h|⟨h1,h2⟩
   exact .inl (Zcs (λa w h=>Z5l rest a w h) h);exact .inr ⟨Zct h1,Z46 h2⟩;rename_i hw;rw [if_neg (show ¬ Region.wanted o (yielded ops (Z1r ds a).tmps)=true from hw)];rw [<- Z28];exact Z5l rest _ w h
theorem Zk1 {P:Program} {ds:List Deferred} {Q:Exit->Act->World->Prop} {ops:Array Oper} {i:Nat} {a:Act} {w} {K K':Act->World->Prop} (hK:∀ a w,K' a w->K (Z1r ds a) w) (h:wpOp P ops (ZaY ds Q) i K' a w):wpOp P ops Q i K (Z1r ds a) w:=by
 unfold wpOp at *;cases ho:ops[i]? with
 | none=>simp only [ho] at h ⊢;exact hK _ _ h
 | some o=>
   simp only [ho] at h ⊢;split at h;rename_i hw;rw [if_pos (show Region.wanted o (yielded ops (Z1r ds a).tmps)=true from hw)];rcases h with h|⟨h1,h2⟩
   exact .inl (Zcs hK h);exact .inr ⟨Zct h1,Z46 h2⟩;rename_i hw;rw [if_neg (show ¬ Region.wanted o (yielded ops (Z1r ds a).tmps)=true from hw)];rw [<- Z28];exact hK _ _ h
theorem Z9N {P:Program} {ds:List Deferred} {Q:Exit->Act->World->Prop} {ops:Array Oper} {md:Region.Mode}:∀ (fuel:Nat) (listed:Array Bool) (a:Act) (w),wpAny P md ops (ZaY ds Q) fuel listed a w->wpAny P md ops Q fuel listed (Z1r ds a) w
 | 0,_,_,_,h=>h
 | fuel+1,_,_,_,h=>⟨h.1,λi hi=>Zk1 (λa w h=>Z9N fuel _ a w h) (h.2 i hi)⟩
structure WQD (ds:List Deferred) (n:Nat) (Q:Exit->Act->World->Prop) (x:Exit) (e:Env) (w):Prop where
 h:∀ a,Has n e a->Q x (Z1r ds a) w
structure WCD (ds:List Deferred) (P:Program) (n:Nat) (c:Code) (Q:Exit->Act->World->Prop) (e:Env) (w):Prop where
 h:∀ a,Has n e a->c.wp P Q (Z1r ds a) w
section rules
variable {P:Program} {n:Nat} {ds:List Deferred} {Q:Exit->Act->World->Prop} {e:Env} {w}
theorem Z6F {x:Exit} (h:WQD ds n Q x e w):WQ n (ZaY ds Q) x e w:=⟨λa ha=>h.h a ha⟩
theorem Z4A {x y:Code} (h:WCD ds P n x (Exit.then (λa w=>y.wp P Q a w) Q) e w):WCD ds P n (x.seq y) Q e w:=⟨λa ha=>wp_seq (h.h a ha)⟩
theorem Z29 {y:Code} (h:WCD ds P n y Q e w):WQD ds n (Exit.then (λa w=>y.wp P Q a w) Q) .normal e w:=⟨λa ha=>h.h a ha⟩
theorem Z8A {N:Act->World->Prop} {ch:List PanicEntry} (h:WQD ds n Q (.panic ch) e w):WQD ds n (Exit.then N Q) (.panic ch) e w:=⟨λa ha=>h.h a ha⟩
theorem Zk2 (h:WQD ds n Q .normal e w):WCD ds P n .skip Q e w:=⟨λa ha=>wp_skip (h.h a ha)⟩
theorem Zf7 (h:WQD ds n Q .ret e w):WCD ds P n .ret Q e w:=⟨λa ha=>wp_ret (h.h a ha)⟩
theorem HasD.ev {a:Act} (ha:Has n e a) {x:Operand} {v:Value} (hx:ev e x=some v):(Z1r ds a).eval x=v:=by rw [Z6E];exact ha.ev hx
theorem Z8B {c:Operand} {x y:Code} (hc:ev e c=some (.B false)) (h:WCD ds P n y Q e w):WCD ds P n (.cond c x y) Q e w:=⟨λa ha=>wp_cond_false (HasD.ev ha hc) (h.h a ha)⟩
theorem Z5m {id:Nat} {l:List Oper} (h:WL P n l.toArray (ZaY ds Q) l e w):WCD ds P n (.region id l.toArray false) Q e w:=⟨λa ha=>wp_region_lit (Z5l _ _ _ (h.h a ha))⟩
theorem Z9O {id:Nat} {l:List Oper} (m:Nat) (S:List Nat) (Lt:List Nat) (ord:List (Nat×Nat)) (cp:l.length=m) (hm:P.follows .mixedOrders=true) (hs:Region.noSelect l.toArray=true) (hl:Nat.beq (wt ord) l.length=true)
 (hB:J5 l.toArray Lt ord (Array.replicate m false)=true)
 (h:∀ w',Stp [] w w'->WD P n l.toArray S Lt (ZaY ds Q) ord e w'):WCD ds P n (.region id l.toArray true) Q e w:=by
 subst cp;refine ⟨λa ha=>wp_region_any hm (Z9N _ _ _ _ ?_)⟩;have h1:=(h { w with drawn:=w.drawn+1 } (Stp.drew [] w)).h _ hs hB a ha;have h2:=Z0S (Q:=ZaY ds Q) (λa w hz=>hz) _ _ _ _ h1;rw [XN hl] at h2;simpa using h2
end rules
abbrev FR (l:Nat):Fence:=Fence.wide.inRound l
section
variable {P:Program} {n m l:Nat} {Q Q':Exit->Act->World->Prop} {e:Env} {w:World} {ops:Array Oper}
theorem Zf8 {o:Oper} {a:Act} {K K':Act->World->Prop} (go:∀ c,o.op≠.defer c) (hQ:∀ x a w,Q x a w->Q' x a w) (hK:∀ a w,K a w->K' a w) (h:o.wp P a w K Q):o.wpIn (FR l) m P a w K' Q':=by
 unfold Oper.wp at h;refine ⟨λ_ _=>trivial,?_⟩;rw [Oper.semAt_eq _ _ _ go];generalize (execOp a.eval o).run P w=r at *;cases r with
 | ok x w'=>
   cases x<;>simp only [Oper.upon] at h<;>simp only [Oper.uponIn]
   case value v=>exact hK _ _ h
   case skip=>exact hK _ _ h
   case defer d=>exact hK _ _ h
   case enter f args=>
    refine ⟨(λh=>by cases h),CallsIn.inRound l (callsIn_wide.2 (Calls.mono h λen w'' he=>?_))⟩;cases en with
    | returned v=>exact hK _ _ he
    | panicked c=>exact hQ _ _ _ he
    | outgrown=>
      obtain ⟨a',w3,h3⟩:=he;exact ⟨a',w3,hQ _ _ _ h3⟩
   case row row args=>
    exact ⟨(λh=>by cases h),λc cs _=>let ⟨v,w'',r,s⟩:=h c cs;⟨v,w'',hK _ _ r,stepsIn_wide.2 s⟩⟩
 | halt x w'=>
   cases x<;>simp only [Oper.upon] at h<;>simp only [Oper.uponIn];exact hQ _ _ _ h
theorem ZaZ (go:∀ (i:Nat) (o:Oper),ops[i]?=some o->∀ c,o.op≠.defer c) (hQ:∀ a w,¬ Q .outgrown a w):∀ (L:List Nat) (a:Act) (w),wpOps P ops Q L a w->wpOpsIn (FR l) m P ops Q L a w
 | [],a,w,h=>h
 | i :: rest, a, w, h => by
   unfold wpOps at h;unfold wpOpsIn;cases ho:ops[i]? with
   | none=>simp only [ho] at h ⊢;exact ZaZ go hQ rest a w h
   | some o=>
     simp only [ho] at h ⊢;split at h;rename_i hw;rw [if_pos hw];rcases h with h|⟨_,a',w',h⟩
     exact Zf8 (go i o ho) (λ_ _ _ h=>h) (λa w h=>ZaZ go hQ rest a w h) h;exact absurd h (hQ a' w');rename_i hw;rw [if_neg hw];exact ⟨λ_ _=>trivial,ZaZ go hQ rest _ w h⟩
def Zk3 (L:List Oper):Bool:=L.all λo=>match o.op with|.defer _=>false|_=>true
theorem Z8C {L:List Oper} (h:Zk3 L=true):∀ (i:Nat) (o:Oper),L.toArray[i]?=some o->∀ c,o.op≠.defer c:=by
 intro i o ho c hc;have hm:o∈L:=by
  have:L[i]?=some o:=by simpa using ho
  exact List.mem_of_getElem? this
 have:=X0.1 h o hm;rw [hc] at this;cases this
theorem Zb0 {md:Region.Mode} {S:List Nat} {Lt:Nat->Bool} {Z:Act->World->Prop} (go:∀ (i:Nat) (o:Oper),ops[i]?=some o->∀ c,o.op≠.defer c) (hZ:∀ a w,Z a w->Q .normal a w):∀ (fuel:Nat) (listed:Array Bool) (a:Act) (w),
 Zap P md ops S Lt Z fuel listed a w->wpAnyIn (FR l) m P md ops Q fuel listed a w
 | 0,_,_,_,h=>⟨h.1,hZ _ _ h.2⟩
 | fuel + 1, listed, a, w, h => ⟨λh0 => hZ _ _ (h.1 h0), λi hi => by
   have h1:=h.2 i hi;unfold wpOp at h1;unfold wpOpIn;cases ho:ops[i]? with
   | none=>simp only [ho] at h1 ⊢;exact Zb0 go hZ fuel _ a w h1.2
   | some o=>
     simp only [ho] at h1 ⊢;split at h1;rename_i hw;rw [if_pos hw];rcases h1 with h1|⟨_,_,_,hf⟩
     exact Zf8 (go i o ho) (λ_ _ _ h=>h.elim) (λa w h=>Zb0 go hZ fuel _ a w h.2) h1;exact hf.elim;rename_i hw;rw [if_neg hw];exact ⟨λ_ _=>trivial,Zb0 go hZ fuel _ _ w h1.2⟩⟩
structure WCR (l m:Nat) (P:Program) (n:Nat) (c:Code) (Q:Exit->Act->World->Prop) (e:Env) (w:World):Prop where
 h:∀ a,Has n e a->c.wpIn (FR l) m P Q a w
variable {x y:Code}
theorem JT (h:WCR l m P n x (Exit.then (λa w=>y.wpIn (FR l) m P Q a w) Q) e w):WCR l m P n (x.seq y) Q e w:=⟨λa ha=>wpIn_seq (h.h a ha)⟩
theorem Jr (h:WCR l m P n y Q e w):WQ n (Exit.then (λa w=>y.wpIn (FR l) m P Q a w) Q) .normal e w:=⟨λa ha=>h.h a ha⟩
theorem Js (h:WQ n Q .normal e w):WCR l m P n .skip Q e w:=⟨λa ha=>wpIn_skip (h.h a ha)⟩
theorem Jt {i:Nat} (h:WQ n Q (.exit i) e w):WCR l m P n (.exit i) Q e w:=⟨λa ha=>wpIn_exit (h.h a ha)⟩
theorem Jc {i:Nat} {c:Code} (h:WCR l m P n c (Exit.inBlock i Q) e w):WCR l m P n (.block i c) Q e w:=⟨λa ha=>wpIn_block (h.h a ha)⟩
theorem Jn {c:Operand} (hc:ev e c=some (.B true)) (h:WCR l m P n x Q e w):WCR l m P n (.cond c x y) Q e w:=⟨λa ha=>wpIn_cond_true (ha.ev hc) (h.h a ha)⟩
theorem J8 {c:Operand} (hc:ev e c=some (.B false)) (h:WCR l m P n y Q e w):WCR l m P n (.cond c x y) Q e w:=⟨λa ha=>wpIn_cond_false (ha.ev hc) (h.h a ha)⟩
theorem Z47 {c:Operand} {p:Prop} [Decidable p] (hc:ev e c=some (.B (decide p))) (ht:p->WCR l m P n x Q e w) (hf:¬ p->WCR l m P n y Q e w):WCR l m P n (.cond c x y) Q e w:=by
 by_cases h:p;rw [decide_eq_true h] at hc;exact Jn hc (ht h);rw [decide_eq_false h] at hc;exact J8 hc (hf h)
theorem ZV {id:Nat} {L:List Oper} (hd:Zk3 L=true) (hQ:∀ a w,¬ Q .outgrown a w) (h:WL P n L.toArray Q L e w):WCR l m P n (.region id L.toArray false) Q e w:=
 ⟨λa ha => wpIn_region (by
   have h1:=h.h a ha;rw [List.range_eq_range',<- Yal];exact ZaZ (Z8C hd) hQ _ _ _ (by rw [wpOps_eq_wpList L.toArray.toList 0 (by simp)];simpa using h1))⟩
theorem Z9P {id:Nat} {L:List Oper} (k:Nat) (S:List Nat) (Lt:List Nat) (ord:List (Nat×Nat)) (cp:L.length=k) (hm:P.follows .mixedOrders=true) (hs:Region.noSelect L.toArray=true) (hl:Nat.beq (wt ord) L.length=true)
 (hB:J5 L.toArray Lt ord (Array.replicate k false)=true) (hd:Zk3 L=true)
 (h:∀ w',Stp [] w w'->WD P n L.toArray S Lt Q ord e w'):WCR l m P n (.region id L.toArray true) Q e w:=by
 subst cp;refine ⟨λa ha=>wpIn_region_any hm ?_⟩;have h1:=(h { w with drawn:=w.drawn+1 } (Stp.drew [] w)).h _ hs hB a ha;have h2:=Zb0 (l:=l) (m:=m) (Q:=Q) (Z8C hd) (λa w hz=>hz) _ _ _ _ h1;rw [XN hl] at h2;simpa using h2
theorem Zk4 {σ:Type} (env:σ->Env) (I:σ->World->Prop)
 (h:WCR l m P n x (Exit.then (λa w=>∃ s,Has n (env s) a/\I s w) Q) e w) (k:∀ s w,I s w->WCR l m P n y Q (env s) w):WCR l m P n x (Exit.then (λa w=>y.wpIn (FR l) m P Q a w) Q) e w:=
 ⟨λa ha => wpIn_mono (h.h a ha) (λex a w hq => by
   cases ex with
   | normal=>obtain ⟨s,h1,h2⟩:=hq;exact (k s w h2).h a h1
   | _=>exact hq)⟩
end
theorem Z2a (W:World) (b:Nat) (o:Obj):Stp [b] W (W.putObj b o):=⟨rfl,rfl,rfl,by simp,λk hk hn=>World.putObj_heap_other (by simpa using hn)⟩
def Zf9 {α:Type} (P:Program) (f:Nat) (cap:Array Value) (encs:α->Value) (L:List α) (l:Nat) (F:List Nat) (W:World):Prop:=
 ∀ (J : List α -> List Nat -> World -> Prop), (∀ pre F W, J pre F W -> ∀ b ∈ F, b < W.heap.size) -> (∀ pre F W W', J pre F W -> Stp [] W W' -> J pre F W')->
   (∀ pre x F W,J pre F W->pre++[x] <+: L->YieldAt Fence.wide 4 P l #[encs x] W λen W'=>en=.returned (.B true)/\∃ F',J (pre++[x]) F' W'/\Stp F W W'/\∀ b∈F',b∈F\/W.heap.size<=b)->
   J [] F W->Calls P f (#[.func (.yield l) #[] #[]]++cap) W (Ret λ_ W'=>∃ F',J L F' W'/\Stp F W W'/\∀ b∈F',b∈F\/W.heap.size<=b)
section
variable {P:Program} {n:Nat} {Q:Exit->Act->World->Prop} {e:Env} {w:World}
theorem Zk5 {α:Type} {f p:Nat} {fn:Func} {cap:Array Value} {g:Operand} {assign body:Code} [hf:Fun P f fn] {E:α->Nat->Env} {T:Nat} {cs:α->List Value} (encs:α->Value) (hg:ev e g=some (.func (.func f) #[] cap)) (hp:Nat.blt p n=true)
 (L:List α) (I:List α->List Nat->World->Prop) (F0:List Nat) (hlt:∀ pre F W,I pre F W->∀ b∈F,b<W.heap.size)
 (hI:∀ pre F W W' S,I pre F W->Stp S W W'->(∀ b∈S,w.heap.size<=b/\b∉F)->I pre F W') (h0:I [] F0 w)
 (oT:∀ (l:Nat) (W:World),Stp [] w W->w.heap.size<=l->l<W.heap.size->Zf9 P f cap encs L l (l :: F0) W)
 (hassign:∀ (l:Nat) (x:α) (W:World) (Z:Exit->Act->World->Prop),(∀ a w,¬ Z .outgrown a w)->(∀ b W1,W.heap.size<=b->Blk W1 b T (cs x)->Stp [] W W1->WQ n Z .normal (E x b) W1)->WCR l 4 P n assign Z ((p,encs x) :: e) W)
 (hbody : ∀ (l : Nat) (pre : List α) (x : α) (b : Nat) (F : List Nat) (W : World) (Z : Exit -> Act -> World -> Prop), I pre F W -> pre ++ [x] <+: L -> Blk W b T (cs x) -> b ∉ F -> w.heap.size <= b -> (∀ a w, ¬ Z .outgrown a w)->
   (∀ a F' W',I (pre++[x]) F' W'->Stp F W W'->(∀ b∈F',b∈F\/W.heap.size<=b)->Z .normal a W')->WCR l 4 P n body Z (E x b) W)
 (hdone:∀ (D:Nat) (F:List Nat) (W:World),I L F W->w.heap.size<=D->D∉F->W.heap[D]?=some (.deferred (some []))->(∀ b∈F,b∈F0\/w.heap.size<=b)->Stp F0 w W->WQD [{ target:=.collected D,args:=#[] }] n Q .normal e W) :
 WC P n (.rangeFunc g #[p] assign body) Q e w:=by
 refine ⟨λa ha=>(wpIn_wide (n:=5)).1 (wpIn_rangeFunc ?_)⟩;intro fnid _;obtain ⟨rec,bz⟩:∃ rec:LoopState->Option Code->Loop,rec=λst pe=>{ state:=st,pending:=pe,fn:=fnid,tmps:=a.tmps,params:=#[p],assign,body,defers:=w.heap.size }:=⟨_,rfl⟩
 obtain ⟨W1,fY⟩:∃ W1,(w.alloc (.deferred (some []))).alloc (.loop (rec .ready none))=W1:=⟨_,rfl⟩
 have lj:W1.heap[w.heap.size+1]?=some (.loop (rec .ready none)):=by
  rw [<- fY];have:=World.alloc_heap_new (w.alloc (.deferred (some []))) (.loop (rec .ready none));rwa [World.size_alloc] at this
 have bA:Stp [] w (w.alloc (.deferred (some []))):=Stp.alloc [] _ _;have nC:Stp [] (w.alloc (.deferred (some []))) W1:=by rw [<- fY];exact Stp.alloc [] _ _
 have qX:W1.heap[w.heap.size]?=some (.deferred (some [])):=by
  rw [nC.block w.heap.size (by simp) (by simp)];exact World.alloc_heap_new w _
 have ae:Stp [] w W1:=bA.trans nC;have oI:=hlt _ _ _ h0
 refine ⟨w.heap.size+1,[{ target:=.collected w.heap.size,args:=#[] }],W1,{ target:=.fn (.func f) cap,args:=#[.func (.yield (w.heap.size+1)) #[] #[]] },W1,f,
  #[.func (.yield (w.heap.size+1)) #[] #[]]++cap,W1,?_,?_,?_,?_,λh=>(by cases h),?_⟩
 rw [<- fY,bz];exact run_enterLoop_outer _ _ _ _ _;simp only [resolve,ha.ev hg];simp [go_sem];intro f' tz;trivial;have eg:=hf.enters;simp [invoke,go_sem];exact eg _ _;generalize hl:w.heap.size+1=l at *
 have fC:=oT l W1 ae (by omega) (Xl.1 lj).1 (λpre F W=>∃ G,F=l :: G/\I pre G W/\W.heap[l]?=some (.loop (rec .ready none))/\W.heap[w.heap.size]?=some (.deferred (some []))/\l∉G/\w.heap.size∉G)
  (by
    rintro pre F W ⟨G,rfl,hi,h1,h2,h3,h4⟩ b hb;rcases Xb.1 hb with rfl|hb
    exact (Xl.1 h1).1;exact hlt _ _ _ hi b hb)
  (by
    rintro pre F W W' ⟨G,rfl,hi,h1,h2,h3,h4⟩ hS;exact ⟨G,rfl,hI _ _ _ _ _ hi hS (by simp),(hS.block l (Xl.1 h1).1 (by simp)).trans h1,(hS.block _ (Xl.1 h2).1 (by simp)).trans h2,h3,h4⟩)
  (by
    rintro pre x F W ⟨G,rfl,hi,h1,h2,h3,h4⟩ cw;have nD:l<W.heap.size:=(Xl.1 h1).1;have qY:w.heap.size<W.heap.size:=(Xl.1 h2).1;have hG:=hlt _ _ _ hi;have hy:=run_yield (P:=P) (args:=#[encs x]) h1 (by rw [bz];rfl);rw [bz] at hy;refine ⟨fnid,_,assign,body,hy,roundIn_of_wpIn trivial ((hassign l x W _ (λ_ _ h=>h) ?_).h _ ?_)⟩;intro b Wa hb hk nE;have vI:=(nE.block l nD (by simp)).trans h1;have vJ:=(nE.block _ qY (by simp)).trans h2;have yg:=nE.size;refine ⟨λa1 qZ=>⟨_,run_beginRound vI (by rw [bz]),?_⟩⟩;have fL:=Z2a Wa l (.loop { rec .ready none with state:=.busy });have vK:=hI _ _ _ _ _ hi nE (by simp);have mq:=hI _ _ _ _ _ vK fL (by intro b hb;simp at hb;subst hb;exact ⟨by omega,h3⟩);have vL:(Wa.putObj l (.loop { rec .ready none with state:=.busy })).heap[l]?=some (.loop { rec .ready none with state:=.busy }):=World.putObj_heap_same (by omega);have vM:=(fL.block w.heap.size (by omega) (by simp;omega)).trans vJ;have jE:=hk.ext fL (by simp;omega);have vN:=fL.size;refine (hbody l pre x b G _ _ mq cw jE (λh=>by have:=hG b h;omega) (by omega) (λ_ _ h=>h) ?_).h a1 qZ;intro a2 G' W' cA aN jo;have vO:=(aN.block l (by omega) h3).trans vL;have vP:=(aN.block w.heap.size (by omega) h4).trans vM;have yh:=aN.size;have vQ:=run_endRound (P:=P) none vO;have ij:=Z2a W' l (.loop (rec .ready none));have nF:l∉G':=λh=>by
     rcases jo l h with h|h
     exact h3 h;omega
    refine ⟨_,_,vQ,rfl,l :: G',⟨G',rfl,?_,?_,?_,nF,λh=>?_⟩,?_,λb hb=>?_⟩;have:=hI _ _ _ _ _ cA ij (by intro b hb;simp at hb;subst hb;exact ⟨by omega,nF⟩);rw [bz] at this ⊢;exact this;rw [bz];exact World.putObj_heap_same (by omega);rw [bz];exact (World.putObj_heap_other (by omega)).trans vP;rcases jo _ h with h|h
    exact h4 h;omega;rw [bz] at ij aN ⊢;exact ((((nE.mono (S':=l :: G) (by simp)).trans ((by rw [bz] at fL;exact fL:Stp [l] _ _).mn)).trans (aN.mono (λb hb=>by simp [hb]))).trans ij.mn);rcases Xb.1 hb with rfl|hb
    exact .inl (by simp);rcases jo b hb with h|h
    exact .inl (by simp [h]);exact .inr (by omega);have:=ha.put (v:=encs x) hp;have e2:(a.put (some p) (encs x))={ tmps:=((#[p]:Array Nat).zip #[encs x]).foldl (λt (p,v)=>t.setIfInBounds p v) a.tmps,defers:=[] }:=by
     simp [Act.put,ha.defers]
    rw [e2] at this;exact this)
  ⟨F0,rfl,hI _ _ _ _ _ h0 ae (by simp),lj,qX,λh=>by have:=oI l h;omega,λh=>by have:=oI _ h;omega⟩
 refine (callsIn_wide (n:=4)).2 (fC.mono ?_);rintro _ W2 ⟨v,rfl,F',⟨G,rfl,hi,h1,h2,h3,h4⟩,ah,vR⟩;have jC:=ah.size;have fR:=ae.size;have nD:l<W2.heap.size:=(Xl.1 h1).1;refine ⟨none,_,by have:=run_endLoop (P:=P) h1 (by rw [bz];simp);rw [bz] at this;exact this,?_⟩;have hp:=Z2a W2 l (.loop { rec .ready none with state:=.exhausted });rw [bz] at hp;have hd:=hdone w.heap.size G _ (hI _ _ _ _ _ hi hp (by intro b hb;simp at hb;subst hb;exact ⟨by omega,h3⟩)) (Xn _) h4 ((hp.block w.heap.size (by omega) (by simp;omega)).trans h2) (λb hb=>by
  rcases vR b (by simp [hb]) with h|h
  rcases Xb.1 h with rfl|h
  exact .inr (by omega);exact .inl h;exact .inr (by omega))
  ((((ae.mono (S' := F0) (by simp)).own ah (λb hb => by
    rcases Xb.1 hb with rfl|hb
    exact .inr (by omega);exact .inl hb))).own hp (λb hb=>by simp at hb;subst hb;exact .inr (by omega)))
 have:=hd.h a ha;unfold Z1r at this;rw [ha.defers,XJ] at this;rw [ha.defers,XC];exact this
end
section
variable {P:Program} {ops:Array Oper} {md:Region.Mode} {S:List Nat} {Lt:Nat->Bool} {kk:Nat}
theorem Zea {o:Oper} {a:Act} {w} {K K':Act->World->Prop} {Q:Exit->Act->World->Prop} (hK:∀ a w,K a w->K' a w) (h:o.wpIn Fence.wide kk P a w K (λ_ _ _=>False)):o.wpIn Fence.wide kk P a w K' Q:=by
 unfold Oper.wpIn at *;refine ⟨h.1,?_⟩;replace h:=h.2;generalize (o.semAt Fence.wide.round a.eval).run P w=r at *;cases r with
 | ok x w'=>
   cases x<;>simp only [Oper.uponIn] at h ⊢
   case value v=>exact hK _ _ h
   case skip=>exact hK _ _ h
   case defer d=>exact hK _ _ h
   case enter f args=>
    exact ⟨h.1,CallsIn.mono h.2 λe w'' he=>by
     cases e with
     | returned v=>exact hK _ _ he
     | panicked c=>exact he.elim
     | outgrown=>obtain ⟨_,_,hf⟩:=he;exact hf.elim⟩
   case row row args=>exact ⟨h.1,RowsIn.mono h.2 λu w'' he=>hK _ _ he⟩
   case round l f tmps assign body=>
    exact ⟨h.1,RoundIn.mono h.2 λe w'' he=>by
     cases e with
     | returned v=>exact hK _ _ he
     | panicked c=>exact he.elim
     | outgrown=>obtain ⟨_,_,hf⟩:=he;exact hf.elim⟩
 | halt x w'=>cases x<;>simp only [Oper.uponIn] at h ⊢
def Z3i (kk:Nat) (P:Program) (md:Region.Mode) (ops:Array Oper) (S:List Nat) (Lt:Nat->Bool) (Z:Act->World->Prop):Nat->Array Bool->Act->World->Prop
 | 0,listed,a,w=>Region.ready md ops listed=[]/\Z a w
 | fuel + 1, listed, a, w=>
   (Region.ready md ops listed=[]->Z a w)/\
   ∀ i∈Region.ready md ops listed,wpOpIn Fence.wide kk P ops (λ_ _ _=>False) i (λa' w'=>(Stp S w w'\/Lt i=true)/\Z3i kk P md ops S Lt Z fuel (listed.setIfInBounds i true) a' w') a w
theorem Z1H {Z:Act->World->Prop} {Q:Exit->Act->World->Prop} (hZ:∀ a w,Z a w->Q .normal a w):∀ (fuel:Nat) (listed:Array Bool) (a:Act) (w),
 Z3i kk P md ops S Lt Z fuel listed a w->wpAnyIn Fence.wide kk P md ops Q fuel listed a w
 | 0,_,_,_,h=>⟨h.1,hZ _ _ h.2⟩
 | fuel + 1, listed, a, w, h => ⟨λh0 => hZ _ _ (h.1 h0), λi hi => by
   have h1:=h.2 i hi;unfold wpOpIn at h1 ⊢;cases ho:ops[i]? with
   | none=>simp only [ho] at h1 ⊢;exact Z1H hZ fuel _ a w h1.2
   | some o=>
     simp only [ho] at h1 ⊢;split at h1;rename_i hw;rw [if_pos hw];exact Zea (λa w h=>Z1H hZ fuel _ a w h.2) h1;rename_i hw;rw [if_neg hw];exact ⟨λ_ _=>trivial,Z1H hZ fuel _ _ w h1.2.2⟩⟩
theorem Zfa {Z:Act->World->Prop} {R:World->World->Prop} (jY:∀ w,R w w) (mC:∀ a b c,R a b->R b c->R a c) {i:Nat} {oi:Oper} {v:Value} (hi:ops[i]?=some oi)
 (mD:∀ j oj,ops[j]?=some oj->(∀ e∈oj.after,Region.binds md e=true->e.on≠i)->j≠i->∀ w w',(Stp S w w'\/Lt j=true)->R w w')
 (fe:∀ (j:Nat) (o:Oper) cs b,ops[j]?=some o->o.op≠.select cs b) :
 ∀ (fuel : Nat) (listed : Array Bool) (a : Act) (w),
   (∀ j oj,ops[j]?=some oj->j≠i->listed.getD j true=false->(∀ e∈oj.after,Region.binds md e=true->e.on≠i)->oi.apart ops oj=true)->
   (Stp S w w\/Lt i=true->True)->i∈Region.ready md ops listed->YE P ops R oi v a w->
   Z3i kk P md ops S Lt Z fuel (listed.setIfInBounds i true) (a.put oi.dst v) w->Z3i kk P md ops S Lt Z (fuel+1) listed a w:=by
 have now:∀ (fuel:Nat) (listed:Array Bool) (a:Act) (w:World),YE P ops R oi v a w->Z3i kk P md ops S Lt Z fuel (listed.setIfInBounds i true) (a.put oi.dst v) w->
  wpOpIn Fence.wide kk P ops (λ_ _ _=>False) i (λa' w'=>(Stp S w w'\/Lt i=true)/\Z3i kk P md ops S Lt Z fuel (listed.setIfInBounds i true) a' w') a w:=by
  intro fuel listed a w hy H;unfold wpOpIn;simp only [hi];rcases hy with ⟨hw,hv⟩|⟨hw,rfl⟩
  simp only [hw,if_true];refine ⟨λ_ _=>trivial,?_⟩;rw [show Fence.wide.round=none from rfl,Oper.semAt_none,hv w (jY w)];exact ⟨.inl (Stp.refl _ _),H⟩;simp only [hw,XS,if_false];exact ⟨λ_ _=>trivial,.inl (Stp.refl _ _),H⟩
 intro fuel
 induction fuel with
 | zero=>
   intro listed a w _ _ hr hy H;refine ⟨λh=>(by rw [h] at hr;cases hr),λj hj=>?_⟩;by_cases ci:j=i;subst ci;exact now _ _ _ _ hy H;have:=ready_mono hj ci;rw [H.1] at this;cases this
 | succ fuel ih=>
   intro listed a w dt hx hr hy H;refine ⟨λh=>(by rw [h] at hr;cases hr),λj hj=>?_⟩;by_cases ci:j=i;subst ci;exact now _ _ _ _ hy H;have h1:=H.2 j (ready_mono hj ci);obtain ⟨fg,oj,gj,aB⟩:=mem_ready.1 hj;have fh:∀ e∈oj.after,Region.binds md e=true->e.on≠i:=λe he hb cZ=>by
    have h1:=aB e he hb;have h0:=(mem_ready.1 hr).1;rw [cZ] at h1;rcases Yay i listed.size with h'|h'
    simp [h'] at h0 h1;rw [h0] at h1;cases h1;simp [Yaz h'] at h1
   have hap:=dt j oj gj ci fg fh;obtain ⟨p1,p2,p3⟩:=Oper.apart_spec hap;have keep:∀ (a:Act),YE P ops R oi v a w->∀ u,YE P ops R oi v (a.put oj.dst u) w:=λa hy u=>
    hy.same (execOp_put oi (λcs b=>fe i oi cs b hi) a oj.dst u p3) (wanted_put oi a oj.dst u p3)
   have keepD:∀ (a:Act) d,YE P ops R oi v a w->YE P ops R oi v { a with defers:=d :: a.defers } w:=λa d hy=>hy.same rfl rfl;have later:∀ (a:Act) w',(Stp S w w'\/Lt j=true)->YE P ops R oi v a w->YE P ops R oi v a w':=λa w' hs hy=>by
    rcases hy with ⟨hw,hv⟩|hw
    exact .inl ⟨hw,λw'' h''=>hv w'' (mC _ _ _ (mD j oj gj fh ci w w' hs) h'')⟩;exact .inr hw
   have dF:∀ k ok,ops[k]?=some ok->k≠i->(listed.setIfInBounds j true).getD k true=false->
    (∀ e∈ok.after,Region.binds md e=true->e.on≠i)->oi.apart ops ok=true:=λk ok hk gJ jZ aW=>by
    refine dt k ok hk gJ ?_ aW;by_cases iq:j=k;subst iq;exact fg;rw [getD_set_ne true iq] at jZ;exact jZ
   have fin:∀ a' w',YE P ops R oi v a' w->(Stp S w w'\/Lt j=true)/\Z3i kk P md ops S Lt Z fuel ((listed.setIfInBounds i true).setIfInBounds j true) (a'.put oi.dst v) w'->
    (Stp S w w'\/Lt j=true)/\Z3i kk P md ops S Lt Z (fuel+1) (listed.setIfInBounds j true) a' w':=by
    rintro a' w' ir ⟨hs,hk⟩;refine ⟨hs,ih _ a' w' dF (λ_=>trivial) (ready_mono hr (Ne.symm ci)) (later a' w' hs ir) ?_⟩;rw [Ya5 _ _ ci];exact hk
   have mE:∀ cs b,oj.op≠.select cs b:=λcs b=>fe j oj cs b gj;unfold wpOpIn at *;simp only [gj] at *;rw [wanted_put oj a oi.dst v p1] at h1;split
   . rename_i hw
     simp only [hw,if_true] at h1;refine ⟨λ_ _=>trivial,?_⟩;replace h1:=h1.2;rw [show Fence.wide.round=none from rfl,Oper.semAt_none] at h1 ⊢;rw [execOp_put oj mE a oi.dst v p1] at h1;generalize (execOp a.eval oj).run P w=r at *;cases r with
     | ok n w'=>
       cases n<;>simp only [Oper.uponIn] at h1 ⊢
       case value u=>exact fin _ _ (keep a hy u) (by rw [<- Act.put_comm a v u p2];exact h1)
       case skip=>exact fin _ _ (keep a hy _) (by rw [<- Act.put_comm a v undef p2];exact h1)
       case defer d=>
        refine fin _ _ (keep _ (keepD a d hy) _) ?_;rw [<- Act.put_comm _ v undef p2,<- Act.put_defers];exact h1
       case enter f args=>
        refine ⟨h1.1,CallsIn.mono h1.2 λe w'' he=>?_⟩;cases e with
        | returned u=>exact fin _ _ (keep a hy u) (by rw [<- Act.put_comm a v u p2];exact he)
        | panicked c=>exact he
        | outgrown=>exact he
       case row row args=>exact ⟨h1.1,RowsIn.mono h1.2 λu w'' he=>fin _ _ (keep a hy u) (by rw [<- Act.put_comm a v u p2];exact he)⟩
       case round l f tmps assign body=>
        refine ⟨h1.1,RoundIn.mono h1.2 λe w'' he=>?_⟩;cases e with
        | returned u=>exact fin _ _ (keep a hy u) (by rw [<- Act.put_comm a v u p2];exact he)
        | panicked c=>exact he
        | outgrown=>exact he
     | halt x w'=>
       cases x<;>simp only [Oper.uponIn] at h1
   rename_i hw;simp only [hw] at h1;exact ⟨λ_ _=>trivial,fin _ _ (keep a hy _) (by rw [<- Act.put_comm a v undef p2];exact h1.2)⟩
end
structure WDI (kk:Nat) (P:Program) (n:Nat) (ops:Array Oper) (S:List Nat) (Q:Exit->Act->World->Prop) (ord:List (Nat×Nat)) (e:Env) (w:World):Prop where
 h:∀ listed:Array Bool,Region.noSelect ops=true->J5 ops [] ord listed=true->∀ a,Has n e a->Z3i kk P .any ops S (λj=>([]:List Nat).contains j) (λa w=>Q .normal a w) (wt ord) listed a w
section
variable {P:Program} {n kk:Nat} {Q:Exit->Act->World->Prop} {e:Env} {w:World} {ops:Array Oper} {S:List Nat} {rest:List (Nat×Nat)}
variable {i d:Nat} {op:Op} {ty:TypeId} {pos:String} {af:Array Edge} {v:Value}
theorem Zgw {id:Nat} {L:List Oper} (kk:Nat) (m:Nat) (S:List Nat) (ord:List (Nat×Nat)) (cp:L.length=m) (hm:P.follows .mixedOrders=true) (hs:Region.noSelect L.toArray=true) (hl:Nat.beq (wt ord) L.length=true)
 (hB:J5 L.toArray [] ord (Array.replicate m false)=true)
 (h:∀ w',Stp [] w w'->WDI kk P n L.toArray S Q ord e w'):WC P n (.region id L.toArray true) Q e w:=by
 subst cp;refine ⟨λa ha=>(wpIn_wide (n:=kk)).1 (wpIn_region_any hm ?_)⟩;have h1:=(h { w with drawn:=w.drawn+1 } (Stp.drew [] w)).h _ hs hB a ha;have h2:=Z1H (Q:=Q) (λa w hz=>hz) _ _ _ _ h1;rw [XN hl] at h2;simpa using h2
theorem Znq (h:WQ n Q .normal e w):WDI kk P n ops S Q [] e w:=
 ⟨λ_ _ hB a ha=>⟨by simpa [J5,ZY] using hB,h.h a ha⟩⟩
theorem Z0r (hi:ops[i]?=some ⟨some d,op,ty,pos,af,none⟩) (hp:∀ w',PR P n ⟨some d,op,ty,pos,af,none⟩ e w' v) (aw:Nat.blt d n=true)
 (k:WDI kk P n ops S Q rest ((d,v) :: e) w):WDI kk P n ops S Q ((i,0) :: rest) e w:=by
 refine ⟨λlisted hs hB a ha=>?_⟩;simp only [J5,ZY,Xm] at hB;obtain ⟨⟨h1,h2⟩,h3⟩:=hB;have hk:=k.h _ hs h3 _ (ha.put (v:=v) aw);rw [Z01 (by decide)];exact Zfa (R:=λ_ _=>True) (λ_=>trivial) (λ_ _ _ _ _=>trivial) hi (λ_ _ _ _ _ _ _ _=>trivial) (Region.noSelect_spec hs) _ _ _ _ (Region.free_spec hi h2) (λ_=>trivial) (by simpa using h1) (.inl ⟨Jv (e:=e) (n:=n) ha trivial,λw' _=>(hp w').h a ha⟩) hk
theorem Zcu (hi:ops[i]?=some ⟨some d,op,ty,pos,af,none⟩) (hp:∀ w',Stp S w w'->PR P n ⟨some d,op,ty,pos,af,none⟩ e w' v) (aw:Nat.blt d n=true)
 (k:WDI kk P n ops S Q rest ((d,v) :: e) w):WDI kk P n ops S Q ((i,1) :: rest) e w:=by
 refine ⟨λlisted hs hB a ha=>?_⟩;simp only [J5,ZY,Xm] at hB;obtain ⟨⟨⟨h1,h2⟩,hb⟩,h3⟩:=hB;have hk:=k.h _ hs h3 _ (ha.put (v:=v) aw);rw [Z01 (by decide)];refine Zfa (R:=Stp S) (λw=>Stp.refl _ w) (λ_ _ _ h k=>h.trans k) hi (λj oj hj hn ci w w' hs=>?_) (Region.noSelect_spec hs) _ _ _ _ (Region.free_spec hi h2) (λ_=>trivial) (by simpa using h1) (.inl ⟨Jv (e:=e) (n:=n) ha trivial,λw' hw=>(hp w' hw).h a ha⟩) hk;rcases hs with hs|hs
 exact hs;cases hs
theorem Zgx {l:Nat} {x c:Operand} {ts:Array TypeId} {u r:Value} {G:World->Prop} (hi:ops[i]?=some ⟨some d,.call { callee:=.value c,args:=#[x],argTypes:=ts },ty,pos,af,none⟩) (hc:ev e c=some (.func (.yield l) #[] #[])) (hx:ev e x=some u)
 (hY:YieldAt Fence.wide (kk - 1) P l #[u] w (λen W'=>en=.returned r/\G W')) (hS:∀ W',G W'->Stp S w W') (aw:Nat.blt d n=true)
 (k:∀ W',G W'->WDI kk P n ops S Q rest ((d,r) :: e) W'):WDI kk P n ops S Q ((i,2) :: rest) e w:=by
 refine ⟨λlisted hs hB a ha=>?_⟩;simp only [J5,ZY] at hB;rw [if_neg (by simp)] at hB;simp only [Xm,beq_iff_eq] at hB;obtain ⟨h1,h3⟩:=hB;rw [Z01 (by decide)];refine ⟨λh0=>absurd (h1 ▸ h0) (by simp),λj hj=>?_⟩;rw [h1] at hj;obtain rfl:j=i:=by simpa using hj
 obtain ⟨fn,tmps,assign,body,hy,hR⟩:=hY;unfold wpOpIn;simp only [hi];rw [if_pos (show Region.wanted (⟨some d,.call { callee:=.value c,args:=#[x],argTypes:=ts },ty,pos,af,none⟩:Oper) _=true from rfl)];refine ⟨λ_ _=>trivial,?_⟩;have he:(execOp a.eval ⟨some d,.call { callee:=.value c,args:=#[x],argTypes:=ts },ty,pos,af,none⟩).run P w=.ok (.round l fn tmps assign body) w:=by
  simp only [execOp,resolve,ha.ev hc,Deferred.ofValue];simp [invoke,ha.ev hx,hy]
 rw [show Fence.wide.round=none from rfl,Oper.semAt_none,he];refine ⟨λh=>(by cases h),RoundIn.mono hR ?_⟩;rintro en W' ⟨rfl,hG⟩;exact ⟨.inl (hS W' hG),(k W' hG).h _ hs h3 _ (ha.put aw)⟩
end
variable {P:Program} {n:Nat} {e:Env} {w:World} {d:Option Nat} {ty:TypeId} {pos:String} {af:Array Edge} {g:Option (Nat×Bool)}
theorem Z79 {t el len k:Nat} {x hi:Operand} {b r:Nat} {z:Int} [hu:Und P t (.array len el)] [hk:Siz P el k] (hx:ev e x=some (pQ b)) (hz:ev e hi=some (.I z)) (de:z=(r:Int)) (hr:r<=len) :
 PR P n ⟨d,.slice t x none (some hi) none,ty,pos,af,g⟩ e w (.slice (some ⟨b,0,none⟩) r len):=
 ⟨λa ha => by
   subst de;simp [execOp,ha.ev hx,ha.ev hz,Instr.sliceAt,Instr.sureAddr,run_underlying hu.h,Instr.sliceBounds,Instr.sliceBound,asIntOf,Siz.run,Addr.add,show r<=len by omega]⟩
theorem Zfb {X:List Nat} {w} {b T len n:Nat} {cs:List Value} {xs:List Int} (hn:xs.length=n) (hb:Blk w b T cs) (hX:b∉X) (hl:cs.length=len) (hm:len<=maxLen) (hx:xs.length<=len) (hc:∀ i (h:i<xs.length),cs[i]?=some (.I xs[i])):SlV X w (.slice (some ⟨b,0,none⟩) n len) xs:=by
 subst hn;refine ⟨some ⟨b,0,none⟩,len,rfl,hx,hm,λh=>by simp at h,λi hi=>⟨b,0,[.I xs[i]],rfl,hb.lt,hX,rfl,λj u hu=>?_⟩⟩;have hj:j=0:=by
  have:=(Xu.1 hu).1;simp at this;exact this
 subst hj;simp at hu;subst hu;refine hb.cell ?_;simpa [Z5.k,Z3.k] using hc i hi
end Go.Eng
namespace Go.Proofs.YtipfkbkkndacjaaGreatDoor
open Go Go.Eng Go.RowKit
def Zb1 (r:Rtn) (day:Int):Bool:=if r.kind=1 then decide (day<r.lo\/r.hi<day) else if r.kind=2 then decide (0<=day/\day<=r.hi) else decide (0<=day)
theorem Zgy (r:Rtn) (day:Int) (w):CC 256 #[aG r,.I day] w λv w'=>v=.B (Zb1 r day)/\Stp [] w w':=by
 unfold Zb1;refine cW2 31 Tryz.func256 ?_;refine W ?_;refine BX (Stp.refl [] w) λb2 w1 h2 e2 _ hS=>?_;replace e2:Blk w1 b2 80 (Z3.enc r):=e2;simp only [Z3.enc] at e2;by_cases h1:r.kind=1
 . rw [if_pos h1]
   (refine QP ?_ ?_<;>intro hg)
   all_goals
    refine RU ?_;exact ⟨by congr 1;first|(rw [decide_eq_true (by omega)];done)|(symm;rw [decide_eq_decide];constructor<;>intro _<;>omega)|(symm;exact decide_eq_true (by omega))|(symm;exact decide_eq_false (by omega)),hS⟩
 rw [if_neg h1];by_cases h2:r.kind=2
 . rw [if_pos h2]
   (refine QP ?_ ?_<;>intro hg)
   all_goals
    refine RU ?_;exact ⟨by congr 1;first|(symm;rw [decide_eq_decide];constructor<;>intro _<;>omega)|(symm;exact decide_eq_true (by omega))|(symm;exact decide_eq_false (by omega)),hS⟩
 rw [if_neg h2];refine RT ?_;exact ⟨rfl,hS⟩
theorem Zk6 (v:Value) (l:List Int) (x:Int) (w) (hs:SlV [] w v l):CC 257 #[v,.I x] w λr w'=>(∃ z:Int,r=.I z/\((z=-1/\x∉l)\/∃ (k:Nat) (h:k<l.length),z=k/\l[k]=x/\∀ j (h:j<l.length),j<k->l[j]≠x))/\Stp [] w w':=by
 have aS:=hs.max;refine cW2 19 Tryz.func257 ?_;refine W ?_;refine LP (σ:=Nat) (λk=>[(0,v),(1,.I x),(6,v),(7,.I l.length),(8,.I k)]) (λk w'=>k<=l.length/\Stp [] w w'/\∀ j (h:j<l.length),j<k->l[j]≠x) (λk=>l.length - k) 0 ⟨by omega,Stp.refl _ _,by omega⟩ ?_;rintro k w2 ⟨hk,hT,hz⟩;have bq:=hs.up hT;by_cases hlt:k<l.length
 (refine QP ?_ ?_<;>intro hc)
 refine RU ?_;exact ⟨⟨_,rfl,.inr ⟨k,hlt,rfl,hc.symm,hz⟩⟩,hT⟩;exact QL (k+1) ⟨hlt,hT,λj h hj=>by
  by_cases e:j=k;subst e;exact λh=>hc h.symm;exact hz j h (by omega)⟩ (by omega)
 refine RT ?_;exact ⟨⟨_,rfl,.inl ⟨rfl,λh=>by
  obtain ⟨j,hj,e⟩:=Xr h;exact hz j hj (by omega) e⟩⟩,hT⟩
def Z6G (c:Int):List (Int×Int)->List (Int×Int)
 | []=>[(c,1)]
 | p :: l=>if p.1=c then (c,p.2+1) :: l else p :: Z6G c l
def Zcv (day:Int) (st:List (Int×Int)) (r:Rtn):List (Int×Int):=if Zb1 r day=true then Z6G r.crr st else st
def Z3j (l:List Rtn) (day:Int):List (Int×Int):=l.foldl (Zcv day) []
def Z9a (crrs:List Crr) (p:Int×Int):Int:=max 0 (p.2 - (crrs.getD p.1.toNat ⟨0,0⟩).tol)
def Z1z (l:List Rtn) (crrs:List Crr) (day:Int):Int:=((Z3j l day).map (Z9a crrs)).sum
theorem Zcw (c:Int):∀ (st:List (Int×Int)),c∉st.map (·.1)->Z6G c st=st++[(c,1)]
 | [],_=>rfl
 | p :: l, h => by
   simp only [Xz,Xb,not_or] at h;rw [Z6G,if_neg (λe=>h.1 e.symm),Zcw c l h.2];rfl
theorem Zcx (c:Int):∀ (st:List (Int×Int)) (k:Nat) (hk:k<st.length),st[k].1=c->(∀ j (h:j<st.length),j<k->st[j].1≠c)->Z6G c st=st.set k (c,st[k].2+1)
 | p :: l, 0, hk, h, _ => by
   simp only [Ybd] at h;rw [Z6G,if_pos h];rfl
 | p :: l, k + 1, hk, h, hz => by
   have h0:=hz 0 (by simp) (by omega);simp only [Ybd] at h0;rw [Z6G,if_neg h0,Zcx c l k (by simpa using hk) (by simpa using h) (λj hj iq=>by
    have h2:=hz (j+1) (by simpa using hj) (by omega)
    rwa [List.getElem_cons_succ] at h2)]
   simp
theorem Zk7 (c:Int) (st:List (Int×Int)):(Z6G c st).length<=st.length+1:=by
 induction st with
 | nil=>simp [Z6G]
 | cons p l ih=>
   rw [Z6G];split<;>simp<;>omega
theorem Z6H (l:List Rtn) (day:Int) (k:Nat) (h:k<l.length):Z3j (l.take (k+1)) day=Zcv day (Z3j (l.take k) day) l[k]:=by
 unfold Z3j;rw [Xk h,YaI];rfl
theorem Zcy (l:List Rtn) (day:Int) (k:Nat) (h:k<=l.length):(Z3j (l.take k) day).length<=k:=by
 induction k with
 | zero=>simp [Z3j]
 | succ k ih=>
   rw [Z6H l day k (by omega),Zcv];have:=ih (by omega);split;have:=Zk7 l[k].crr (Z3j (l.take k) day);omega;omega
def arX (f:Int×Int->Int) (st:List (Int×Int)):List Value:=st.map (λp=>.I (f p))++List.replicate (32 - st.length) (.I 0)
theorem Z5T (f:Int×Int->Int) {st:List (Int×Int)} (h:st.length<=32):(arX f st).length=32:=by simp [arX];omega
theorem Z5U (f:Int×Int->Int) {st:List (Int×Int)} {k:Nat} (h:k<st.length):(arX f st)[k]?=some (.I (f st[k])):=by
 rw [arX,X3 (by simpa using h)];simp [h]
theorem Znr (f:Int×Int->Int) {st:List (Int×Int)} (h:st.length<32):(arX f st)[st.length]?=some (.I 0):=by
 rw [arX,Yak (by simp)];simp [Ybb];omega
theorem Zfc (f:Int×Int->Int) {st:List (Int×Int)} (p:Int×Int) (h:st.length<32):(arX f st).set st.length (.I (f p))=arX f (st++[p]):=by
 unfold arX;rw [List.set_append_right _ _ (by simp)];obtain ⟨m,hm⟩:∃ m,32 - st.length=m+1:=⟨31 - st.length,by omega⟩
 rw [hm];simp only [Xt,Nat.sub_self,Ya4,List.set_cons_zero,XP,Xz,XU,Xy,XV,XJ,Xc,List.length_singleton];rw [show 32 - (st.length+1)=m by omega]
theorem Zfd (f:Int×Int->Int) {st:List (Int×Int)} {k:Nat} (p:Int×Int) (h:k<st.length):(arX f st).set k (.I (f p))=arX f (st.set k p):=by
 unfold arX;rw [List.set_append_left _ _ (by simpa using h),X8,List.map_set]
theorem Zfe {c:Int} {m:Int} {p:Int×Int}:∀ {st:List (Int×Int)},(∀ q∈st,0<=q.2/\q.2<=m)->0<=m->p∈Z6G c st->(p.1=c\/p.1∈st.map (·.1))/\0<=p.2/\p.2<=m+1
 | [], _, hm, h => by
   simp only [Z6G,Xi] at h;subst h;exact ⟨.inl rfl,by dsimp only;omega,by dsimp only;omega⟩
 | q :: l, hq, hm, h => by
   have h0:=hq q (by simp);rw [Z6G] at h;split at h;rcases Xb.1 h with rfl|h
   exact ⟨.inl rfl,by dsimp only;omega,by dsimp only;omega⟩;have:=hq p (by simp [h]);exact ⟨.inr (XG.2 ⟨p,by simp [h],rfl⟩),by omega,by omega⟩;rcases Xb.1 h with rfl|h
   exact ⟨.inr (by simp),by omega,by omega⟩;obtain ⟨a,b⟩:=Zfe (λx hx=>hq x (by simp [hx])) hm h;exact ⟨a.imp id (λh=>by simp [h]),b⟩
theorem Zb2 {l:List Rtn} {day:Int} {N:Int} (hr:∀ r∈l,0<=r.crr/\r.crr<N):∀ k,k<=l.length->∀ p∈Z3j (l.take k) day,(0<=p.1/\p.1<N)/\0<=p.2/\p.2<=k
 | 0,_,p,hp=>by simp [Z3j] at hp
 | k + 1, hk, p, hp => by
   have ih:=Zb2 (day:=day) hr k (by omega);rw [Z6H l day k (by omega),Zcv] at hp;split at hp;obtain ⟨a,b,c⟩:=Zfe (m:=k) (λq hq=>(ih q hq).2) (by omega) hp;refine ⟨?_,b,by omega⟩;rcases a with a|a
   rw [a];exact hr _ (Xd _);obtain ⟨q,hq,e⟩:=XG.1 a;rw [<- e];exact (ih q hq).1;have:=ih p hp;exact ⟨this.1,this.2.1,by omega⟩
theorem Z8D (lv cv:Value) (l:List Rtn) (crrs:List Crr) (day:Int) (w) (hl:SlV [] w lv l) (hc:SlV [] w cv crrs) (mZ:l.length<=32) (hr:∀ r∈l,0<=r.crr/\r.crr<crrs.length) (ht:∀ c∈crrs,0<=c.tol/\c.tol<=1000) :
 CC 201 #[lv,cv,.I day] w λv w'=>v=.I (Z1z l crrs day)/\Stp [] w w':=by
 refine cW3 68 Tryz.func201 ?_;refine W ?_;refine Z0 Z2 rfl ?_;rintro _ w1 ⟨b7,rfl,fk,e7,hS⟩;refine W ?_;refine Z0 Z2 rfl ?_;rintro _ w2 ⟨b8,rfl,eO,e8,hT⟩;have l7:=e7.lt;replace e7:=e7.up hT;have n78:b7≠b8:=by omega
 have g8:w.heap.size<=b8:=Xh hS.size eO;replace hS:=hS.trans hT;replace e7:Blk w2 b7 329 (arX (·.2) (Z3j (l.take 0) day)):=e7;replace e8:Blk w2 b8 329 (arX (·.1) (Z3j (l.take 0) day)):=e8;clear hT;refine W ?_;refine Z0j (σ:=Unit) (λ_=>[(1,cv),(7,pQ b7),(8,pQ b8),(9,.I (Z3j l day).length)]) (λ_ w'=>Stp [] w w'/\Blk w' b7 329 (arX (·.2) (Z3j l day))/\Blk w' b8 329 (arX (·.1) (Z3j l day))) ?_ ?_;refine LP (σ:=Nat) (λk=>[(1,cv),(2,.I day),(7,pQ b7),(8,pQ b8),(9,.I (Z3j (l.take k) day).length),(16,lv),(17,.I l.length),(18,.I k)]) (λk w'=>k<=l.length/\Stp [] w w'/\Blk w' b7 329 (arX (·.2) (Z3j (l.take k) day))/\Blk w' b8 329 (arX (·.1) (Z3j (l.take k) day))) (λk=>l.length - k) 0 ⟨by omega,hS,e7,e8⟩ ?_;clear e7 e8 hS;rintro k w3 ⟨hk,hS,e7,e8⟩;by_cases hlt:k<l.length;have eA:=hl.up hS;have hstep:=Z6H l day k hlt;have iy:=Zcy l day k hk;have aO:=Zb2 (day:=day) hr k hk;generalize Z3j (l.take k) day=st at *;refine QO ?_;refine Z0 Z2 rfl ?_;rintro _ w4 ⟨b11,rfl,lh,e11,hT⟩;refine SA (us:=Z3.enc l[k]) e11 ?_;rintro _ w5 ⟨ar,e11⟩;replace hT:=hT.ow ar;replace hS:=hS.trans hT;replace e7:=e7.up hT;replace e8:=e8.up hT;clear hT ar eA;refine W ?_;refine CP hS (Zgy l[k] day _) λw6 hT hS=>?_;replace e7:=e7.up hT;replace e8:=e8.up hT;replace e11:=e11.up hT;clear hT;rw [Zcv] at hstep;cases hw:Zb1 l[k] day;rw [hw,if_neg (by simp)] at hstep;refine QO ?_;exact Zx (k+1) ⟨rfl,rfl,rfl,rfl,by rw [hstep];rfl,rfl,rfl,rfl,trivial⟩ ⟨hlt,hS,by rw [hstep];exact e7,by rw [hstep];exact e8⟩ (by omega);rw [hw,if_pos rfl] at hstep;refine QO ?_;refine ZDr 6 [] [] [(0,0),(1,0),(2,0),(3,1),(4,2),(5,0)] (λw1 ae=>?_);replace e7:=e7.up ae;replace e8:=e8.up ae;replace e11:=e11.up ae;replace hS:=hS.trans ae;clear ae;refine D ?_;refine ZS rfl trivial (λ_=>Z79 (r:=st.length) rfl rfl rfl (by omega)) rfl ?_;refine D ?_;have eY:SlV [] w1 (.slice (some ⟨b8,0,none⟩) st.length 32) (st.map (·.1)):=Zfb (by simp) e8 (by simp) (Z5T _ (by omega)) (by decide) (by simp;omega) (λi h=>by
  have:=Z5U (·.1) (st:=st) (k:=i) (by simpa using h);simpa using this)
 refine DC (Zk6 _ _ l[k].crr _ eY) (λ_ _ h=>h.2) ?_;rintro _ w7 ⟨⟨z,rfl,hz⟩,hT⟩;replace e7:=e7.up hT;replace e8:=e8.up hT;replace e11:=e11.up hT;replace hS:=hS.trans hT;clear hT eY;have own:∀ b,b=b7\/b=b8->∀ c∈[b],c∈([]:List Nat)\/w.heap.size<=c:=λb hb c hc=>.inr (by simp at hc;omega)
 rcases hz with ⟨rfl,hn⟩|⟨j,hj,rfl,ea,vS⟩
 rw [Zcw _ _ hn] at hstep;have h0:=Znr (·.2) (st:=st) (by omega);refine D ?_;refine QO ?_;refine Z6 (Zb (o:=0+st.length * 1) (u:=.I l[k].crr) rfl rfl rfl rfl e8 (by rw [Z5T _ (by omega)];omega)) ?_;rintro _ w8 ⟨hT,e8⟩;replace e7:=e7.ext hT (by simpa using n78);replace hS:=hS.own hT (own _ (.inr rfl));rw [XM,YaQ,Zfc (·.1) (l[k].crr,1) (by omega)] at e8;refine QO ?_;refine Z8 (J1 rfl rfl e7 (by rw [XM,YaQ];exact h0)) rfl ?_;refine QO ?_;refine Z6 (Zb (o:=0+st.length * 1) (u:=.I (0+1)) rfl rfl rfl rfl e7 (by rw [Z5T _ (by omega)];omega)) ?_;rintro _ w9 ⟨hT,e7⟩;replace e8:=e8.ext hT (by simpa using n78.symm);replace hS:=hS.own hT (own _ (.inl rfl));rw [XM,YaQ] at e7;replace e7:Blk w9 b7 329 (arX (·.2) (st++[(l[k].crr,1)])):=by rw [<- Zfc (·.2) (l[k].crr,1) (by omega)];exact e7
 refine QO ?_;exact Zx (k+1) ⟨rfl,rfl,rfl,rfl,by rw [hstep,Xc];rfl,rfl,rfl,rfl,trivial⟩ ⟨hlt,hS,by rw [hstep];exact e7,by rw [hstep];exact e8⟩ (by omega);rw [Xt] at hj;have nG:st[j].1=l[k].crr:=by simpa using ea
 rw [Zcx _ _ j hj nG (λi h hi=>by have:=vS i (by simpa using h) hi;simpa using this)] at hstep;have h0:=Z5U (·.2) (st:=st) hj;have tH:=(aO _ (Xd hj)).2;refine D ?_;refine QO ?_;refine Z8 (J1 rfl rfl e7 (by rw [XM,YaQ];exact h0)) rfl ?_;refine QO ?_;refine Z6 (Zb (o:=0+j * 1) (u:=.I (st[j].2+1)) rfl rfl rfl rfl e7 (by rw [Z5T _ (by omega)];omega)) ?_;rintro _ w9 ⟨hT,e7⟩;replace e8:=e8.ext hT (by simpa using n78.symm);replace hS:=hS.own hT (own _ (.inl rfl));rw [XM,YaQ] at e7;replace e7:Blk w9 b7 329 (arX (·.2) (st.set j (l[k].crr,st[j].2+1))):=by rw [<- Zfd (·.2) (l[k].crr,st[j].2+1) hj];exact e7
 have e8':Blk w9 b8 329 (arX (·.1) (st.set j (l[k].crr,st[j].2+1))):=by
  rw [<- Zfd (·.1) (l[k].crr,st[j].2+1) hj];have h1:=Z5U (·.1) (st:=st) hj;rw [nG] at h1;obtain ⟨hh,h2⟩:=Xu.1 h1;have:(arX (·.1) st).set j (.I l[k].crr)=arX (·.1) st:=by rw [<- h2];exact List.set_getElem_self hh
  rw [this];exact e8
 refine QO ?_;exact Zx (k+1) ⟨rfl,rfl,rfl,rfl,by rw [hstep,X8];rfl,rfl,rfl,rfl,trivial⟩ ⟨hlt,hS,by rw [hstep];exact e7,by rw [hstep];exact e8'⟩ (by omega);obtain rfl:k=l.length:=by omega
 rw [Xp] at e7 e8;have eA:=hl.up hS;refine QO ?_;exact Zy () ⟨rfl,rfl,rfl,by simp only [Xp];rfl,trivial⟩ ⟨hS,e7,e8⟩;clear e7 e8 hS;rintro _ w3 ⟨hS,e7,e8⟩;have iy:=Zcy l day l.length (Xn _);have aO:=Zb2 (day:=day) hr l.length (Xn _);rw [Xp] at iy aO;unfold Z1z;generalize Z3j l day=st at *;have eY:SlV [] w3 (.slice (some ⟨b8,0,none⟩) st.length 32) (st.map (·.1)):=Zfb (by simp) e8 (by simp) (Z5T _ (by omega)) (by decide) (by simp;omega) (λi h=>by
  have:=Z5U (·.1) (st:=st) (k:=i) (by simpa using h);simpa using this)
 refine QO ?_;refine Z8 (Z79 (r:=st.length) rfl rfl rfl (by omega)) rfl ?_;refine QO ?_;refine Zu (σ:=Nat) (λk=>[(1,cv),(7,pQ b7),(13,.I ((st.take k).map (Z9a crrs)).sum),(47,.slice (some ⟨b8,0,none⟩) st.length 32),(48,.I st.length),(49,.I k)]) (λk w'=>k<=st.length/\Stp [] w3 w'/\0<=((st.take k).map (Z9a crrs)).sum/\((st.take k).map (Z9a crrs)).sum<=40 * k) (λk=>st.length - k) 0 ⟨rfl,rfl,rfl,rfl,by simp only [Xt];rfl,rfl,trivial⟩ ⟨by omega,Stp.refl _ _,by simp,by simp⟩ ?_;rintro k w4 ⟨hk,hT,g1,g2⟩;have e7':=e7.up hT;have vT:=eY.up hT;have fq:=hc.up (hS.trans hT);by_cases hlt:k<st.length;obtain ⟨⟨a1,a2⟩,a3,a4⟩:=aO _ (Xd hlt);have lk:((st.take (k+1)).map (Z9a crrs)).sum=((st.take k).map (Z9a crrs)).sum+Z9a crrs st[k]:=by
  rw [Xk hlt,XP,List.sum_append];simp
 obtain ⟨j,hj⟩:∃ j:Nat,st[k].1=j:=⟨st[k].1.toNat,by omega⟩
 have fD:j<crrs.length:=by omega
 have yi:=ht _ (Xd fD);have cp:k<(st.map (·.1)).length:=by simpa using hlt
 have ay:(st.map (·.1))[k]=(j:Int):=by simpa using hj
 have h0:=Z5U (·.2) (st:=st) hlt;have lm:Z9a crrs st[k]=max 0 (st[k].2 - crrs[j].tol):=by
  unfold Z9a;rw [hj];simp [fD]
 generalize ((st.take k).map (Z9a crrs)).sum=s at *;refine QO ?_;refine ZDr 13 [] [] [(0,0),(1,0),(2,0),(3,1),(4,0),(5,0),(6,0),(7,0),(8,1),(9,0),(10,0),(11,0),(12,0)] (λw1 ae=>?_);replace e7':=e7'.up ae;replace fq:=fq.up ae;replace hT:=hT.trans ae;clear ae;refine D ?_;refine Z0n rfl trivial rfl rfl e7' (by simp) (by rw [XM,YaQ];exact h0) rfl ?_;refine D ?_;refine QO ?_;exact Zx (k+1) ⟨rfl,rfl,by rw [lk,lm];rfl,rfl,rfl,rfl,trivial⟩ ⟨hlt,hT,by rw [lk,lm];omega,by rw [lk,lm];omega⟩ (by omega);obtain rfl:k=st.length:=by omega
 refine QO ?_;refine WR ?_;rw [Xp];exact .mk ⟨rfl,hS.trans hT⟩
def Z4O (l:List Rtn) (sent:Int):List Int:=Z3s ([sent,3652059]++l.flatMap (λr=>[r.lo,r.hi+1].filter (λd=>decide (sent<d/\d<=3652058))))
def Z9b (l:List Rtn) (sent:Int):List Spn:=((Z4O l sent).zip (Z4O l sent).tail).map (λp=>(p.1,p.2 - 1))
structure AlS where
 least:Int
 never:Bool
 out:List Spn
def Z0B (l:List Rtn) (crrs:List Crr) (s:AlS) (x:Spn):AlS:=
 let e:=Z1z l crrs x.1
 if s.least<e then s else
  let t:AlS:=if e<s.least then ⟨e,false,[]⟩ else s
  match t.out.getLast? with
  | some y=>if y.2=x.1 - 1 then { t with out:=t.out.dropLast++[(y.1,x.2)] } else { t with out:=t.out++[x] }
  | none=>{ t with out:=t.out++[x] }
def Zgz (l:List Rtn) (crrs:List Crr) (sent:Int):AlS:=(Z9b l sent).foldl (Z0B l crrs) ⟨Z1z l crrs (-1),true,[]⟩
def Zb3 (l:List Rtn) (crrs:List Crr) (sent:Int):Int×Bool:=
 let s:=Zgz l crrs sent
 if s.never=true then (0,false) else match s.out.getLast? with|some y=>(y.2,true)|none=>(0,false)
structure Zns (l:List Rtn) (crrs:List Crr):Prop where
 len:l.length<=32
 crr:∀ r∈l,0<=r.crr/\r.crr<crrs.length
 tol:∀ c∈crrs,0<=c.tol/\c.tol<=1000
 day:∀ r∈l,0<=r.lo/\r.lo<=3652058/\0<=r.hi/\r.hi<=3652058
theorem Zcz {l:List Rtn} {sent x:Int} (hs:0<=sent/\sent<=3652058) (h:x∈Z4O l sent):sent<=x/\x<=3652059:=by
 have:=((Z3f _).2 x).1 h;simp only [Xf,Xb,Xj,or_false,YbE,YbJ,decide_eq_true_eq] at this;rcases this with (rfl|rfl)|⟨r,hr,h1,h2⟩<;>omega
theorem Z8E {l:List Rtn} {sent:Int} {s:Spn} (hs:0<=sent/\sent<=3652058) (h:s∈Z9b l sent):sent<=s.1/\s.1<=3652059/\-1<=s.2/\s.2<=3652058:=by
 unfold Z9b at h;obtain ⟨p,hp,rfl⟩:=XG.1 h;have h1:=Zcz hs (List.of_mem_zip hp).1;have h2:=Zcz hs (List.mem_of_mem_tail (List.of_mem_zip hp).2);dsimp only;omega
def inX (sent d:Int):Bool:=decide (sent<d/\d<=3652058)
def Z6I (l:List Rtn) (sent:Int):List Int:=[sent,3652059]++l.flatMap (λr=>[r.lo,r.hi+1].filter (inX sent))
theorem Z8F (l:List Rtn) (sent:Int):(Z6I l sent).length<=2+2 * l.length:=by
 unfold Z6I;rw [Xc]
 induction l with
 | nil=>simp
 | cons r l ih=>
   have h:=X1 (inX sent) [r.lo,r.hi+1];simp only [YaY,Xc,Xe,Xg] at *;omega
theorem Z4B {P:Program} {n:Nat} {e:Env} {w} {d:Option Nat} {ty:TypeId} {pos:String} {af:Array Edge} {g:Option (Nat×Bool)} {x y:Operand} {t:TypeId} {u i v:Value} (hx:ev e x=some u) (hy:ev e y=some i) (hb:∀ w,(Instr.index t u i).run P w=.ok v w):PR P n ⟨d,.index t x y,ty,pos,af,g⟩ e w v:=
 ⟨λa ha=>by simp [execOp,ha.ev hx,ha.ev hy,hb]⟩
theorem Zk8 (a b:Int) (w):(Instr.index 333 (.agg #[.I a,.I b]) (.I ((0:Nat):Int))).run Tryz.prog w=.ok (.I a) w:=by kernel_rfl
theorem Zk9 (a b:Int) (w):(Instr.index 333 (.agg #[.I a,.I b]) (.I ((1:Nat):Int))).run Tryz.prog w=.ok (.I b) w:=by kernel_rfl
theorem ZgA (l:List Rtn) (sent:Int) (k:Nat) (h:k<l.length):Z6I (l.take (k+1)) sent=Z6I (l.take k) sent++[l[k].lo,l[k].hi+1].filter (inX sent):=by
 unfold Z6I;rw [Xk h,Yan];simp
theorem Zka (a b:Int) (w):(Instr.build 75 #[(0,.I a),(1,.I b)]).run Tryz.prog w=.ok (.agg (Z3.enc ((a,b):Spn)).toArray) w:=by kernel_rfl
theorem Znt (a b:Int) (w):(Instr.buildSlice 23 2 #[(0,.I a),(1,.I b)]).run Tryz.prog w=.ok (.slice (some ⟨w.heap.size,0,none⟩) 2 2) (w.alloc (.cells #[.I a,.I b] 3)):=by kernel_rfl
theorem Zkb (a b:Int) (w):(Instr.build 333 #[(0,.I a),(1,.I b)]).run Tryz.prog w=.ok (.agg #[.I a,.I b]) w:=by kernel_rfl
theorem Zb4 (l:Nat) (F:List Nat) (w) (bS bL:Nat) (lv:Value) (rets:List Rtn) (sent:Int) (crrs:List Crr) (ho:Zns rets crrs) (eY:0<=sent/\sent<=3652058)
 (eS:Blk w bS 3 [.I sent]) (eL:Blk w bL 76 [lv]) (hl:SlV F w lv rets) (hF:∀ b∈F,b<w.heap.size) (hS:bS∉F) (hL:bL∉F) :
 Zf9 Tryz.prog 258 #[pQ bS,pQ bL] (λx:Spn=>aG x) (Z9b rets sent) l F w:=by
 intro J hlt tI hY h0;have iZ:=ho.len;have kl:=hl.max;refine cW3 65 Tryz.func258 ?_;refine W ?_;refine Z0 (Z1 rfl (Znt _ _)) rfl ?_;intro dv0 w1 hN;have kX:ZI 3 w w1 dv0 [sent,3652059]:=ZI.one hN rfl rfl (by simp [maxLen]);have hN:=Z9.stp hN;have eL1:=eL.up hN;have eS1:=eS.up hN;refine W ?_;have rc:Z6I (rets.take 0) sent=[sent,3652059]:=by simp [Z6I]
 refine LP (σ:=Nat×Value) (λq=>[(0,.func (.yield l) #[] #[]),(1,pQ bS),(2,pQ bL),(4,q.2),(12,lv),(13,.I rets.length),(14,.I q.1)]) (λq w'=>q.1<=rets.length/\ZI 3 w w' q.2 (Z6I (rets.take q.1) sent)) (λq=>rets.length - q.1) (0,dv0) ⟨by omega,by rw [rc];exact kX⟩ ?_;clear kX rc hN eS1 eL1;rintro ⟨k,dv⟩ w2 ⟨hk,hr⟩;dsimp only at hk hr ⊢;by_cases eJ:k<rets.length;obtain ⟨r1,r2,r3,r4⟩:=ho.day _ (Xd eJ);have cr:=Z8F (rets.take k) sent;rw [Xx] at cr;have aA:=ZgA rets sent k eJ;generalize Z6I (rets.take k) sent=pk at *;have dV:SlV [] w2 lv rets:=hl.ext hr.2 (by simp) (by simp);have eS2:=eS.up hr.2;refine QO ?_;refine Z0 Z2 rfl ?_;rintro _ w3 ⟨b6,rfl,eh,e6,hA⟩;refine SA (us:=Z3.enc rets[k]) e6 ?_;rintro _ w4 ⟨dl,e6⟩;replace hA:=hA.ow dl;replace hr:=hr.up hA;refine QO ?_;refine Z7 (vs:=[(0,.I rets[k].lo),(1,.I (rets[k].hi+1))]) rfl (Zkb _ _) rfl ?_;refine QO ?_;generalize nH:rets[k].lo=lo at *;generalize yj:rets[k].hi+1=hi at *;have re:[lo,hi].filter (inX sent)=(if inX sent lo=true then [lo] else [])++(if inX sent hi=true then [hi] else []):=by
  cases h1:inX sent lo<;>cases h2:inX sent hi<;>simp [h1,h2]
 clear e6 hA dl dV eS2
 refine Zu (σ:=Nat×Value) (λq=>[(0,.func (.yield l) #[] #[]),(1,pQ bS),(2,pQ bL),(4,q.2),(12,lv),(13,.I rets.length),(14,.I k),(23,.agg #[.I lo,.I hi]),(24,.I q.1)])
  (λq w'=>q.1<=2/\ZI 3 w w' q.2 (pk++(if 0<q.1/\inX sent lo=true then [lo] else [])++(if 1<q.1/\inX sent hi=true then [hi] else []))) (λq=>2 - q.1) (0,dv) ⟨rfl,rfl,rfl,rfl,rfl,rfl,rfl,rfl,rfl,trivial⟩ ⟨by omega,by simpa using hr⟩ ?_
 clear hr;rintro ⟨j,dv⟩ w5 ⟨hj,hr⟩;dsimp only at hj hr ⊢;have eS5:=eS.up hr.2;have yl:pk.length<=70:=by omega
 have hz:∀ (p:Prop) [Decidable p] (d:Int),(if p then [d] else []).length<=1:=λp _ d=>by split<;>simp
 obtain rfl|rfl|rfl:j=0\/j=1\/j=2:=by omega
 by_cases bM:sent<lo/\lo<=3652058;refine QO ?_;refine Z8 (Z4B rfl rfl (Zk8 _ _)) rfl ?_;refine QO ?_;refine AP1 lo hr (by simp;omega) λv1 v' w' bN _=>?_
 refine QO ?_;exact QL (1,v') ⟨by dsimp only;omega,by simpa [inX,bM] using bN⟩ (by dsimp only;omega)
 . refine QO ?_
   refine Z8 (Z4B rfl rfl (Zk8 _ _)) rfl ?_;refine QO ?_;all_goals exact QL (1,dv) ⟨by dsimp only;omega,by simpa [inX,bM] using hr⟩ (by dsimp only;omega)
 have fR:=hz (0<1/\inX sent lo=true) lo;by_cases bM:sent<hi/\hi<=3652058;refine QO ?_;refine Z8 (Z4B rfl rfl (Zk9 _ _)) rfl ?_;refine QO ?_;refine AP1 hi hr (by simp only [Xc];simp;split<;>simp<;>omega) λv1 v' w' bN _=>?_
 refine QO ?_;exact QL (2,v') ⟨by dsimp only;omega,by simpa [inX,bM] using bN⟩ (by dsimp only;omega)
 . refine QO ?_
   refine Z8 (Z4B rfl rfl (Zk9 _ _)) rfl ?_;repeat'(first|refine W1 ?_|omega|refine VG ?_ ?_<;>intro hg|refine VC ?_ ?_<;>intro hc)
   all_goals exact QL (2,dv) ⟨by dsimp only;omega,by simpa [inX,bM] using hr⟩ (by dsimp only;omega)
 refine QO ?_;exact QL (k+1,dv) ⟨by dsimp only;omega,by rw [aA,re,<- Xy];simpa using hr⟩ (by dsimp only;omega);obtain rfl:k=rets.length:=by omega
 rw [Xp] at hr;have cr:=Z8F rets sent;have o0:Z4O rets sent=Z3s (Z6I rets sent):=rfl;refine QO ?_;refine CM (ZR rfl) (Zcf w2 hr.1 (by omega)) ?_;rintro _ w3 ⟨rfl,dA,cE⟩;refine QO ?_;refine CM (ZR rfl) (Z75 w3 dA (by rw [Ybi];omega)) ?_;rintro dv4 w4 ⟨iJ,fM,jF⟩;have iK:=λb hb=>hr.ob_le b hb;have aJ:Stp [] w w4:=(hr.2.own cE (λb hb=>.inr (iK b hb).1)).own fM (λb hb=>.inr (iK b hb).1);replace iJ:Row [] w4 w.heap.size 3 dv4 (Z4O rets sent):=iJ;have jW:(Z4O rets sent).length<=100:=by
  have h1:(Z4O rets sent).length<=(Z6I rets sent).length:=by
   rw [o0];unfold Z3s Lib.compact Lib.compactUpTo;rw [Xt];refine Xh (X1 _ _) ?_;simp
  omega
 have ym:0<(Z4O rets sent).length:=by
  have:sent∈Z4O rets sent:=((Z3f _).2 sent).2 (by simp);exact List.length_pos_of_mem this
 have tJ:∀ d∈Z4O rets sent,sent<=d/\d<=3652059:=λd hd=>by
  have:=((Z3f _).2 d).1 hd;simp only [Xf,Xb,Xj,or_false,YbE,YbJ,decide_eq_true_eq] at this;rcases this with (rfl|rfl)|⟨r,hr,h1,h2⟩<;>omega
 have nI:Z9b rets sent=((Z4O rets sent).zip (Z4O rets sent).tail).map (λp=>(p.1,p.2 - 1)):=rfl;rw [nI] at hY ⊢;clear nI o0 hr dA cE fM cr;generalize Z4O rets sent=D at *;have ei:SlV [] w4 dv4 D:=iJ.slv (by simp);have yn:=ei.max;have tK:((D.zip D.tail).map (λp=>(p.1,p.2 - 1))).length=D.length - 1:=by simp
 have vU:∀ b∈ob dv4,w.heap.size<=b:=λb hb=>(iJ.ob_le b hb).1;refine QO ?_
 refine Zu (σ:=Nat×List Nat) (λq=>[(0,.func (.yield l) #[] #[]),(4,dv4),(46,.I ((D.length:Int) - 1)),(47,.I q.1)])
  (λq w'=>q.1<=D.length - 1/\J (((D.zip D.tail).map (λp=>(p.1,p.2 - 1))).take q.1) q.2 w'/\SlV q.2 w' dv4 D/\Stp F w w'/\∀ b∈q.2,b∈F\/w.heap.size<=b) (λq=>D.length - q.1) (0,F) ⟨rfl,rfl,rfl,rfl,trivial⟩
  ⟨by omega,by simpa using tI _ _ _ _ h0 aJ,Row.slv (Z26 (X':=F) iJ) hF,aJ.mn,λb hb=>.inl hb⟩ ?_
 clear ei aJ;rintro ⟨k,G⟩ w5 ⟨hk,hJ,ax,hS,hG⟩;dsimp only at hk hJ ax hG ⊢;generalize hZ:(D.zip D.tail).map (λp=>(p.1,p.2 - 1))=Z at *;by_cases eJ:k<D.length - 1;have tL:k<Z.length:=by omega
 have bH:k<D.length:=by omega
 have dc:k+1<D.length:=by omega
 have tM:Z[k]=(D[k],D[k+1] - 1):=by subst hZ;simp
 obtain ⟨d1,d2⟩:=tJ _ (Xd bH);obtain ⟨d3,d4⟩:=tJ _ (Xd dc);refine QO ?_;refine Zgw 5 14 (G) [(0,0),(1,0),(2,0),(3,0),(4,1),(5,0),(6,0),(7,0),(8,0),(9,1),(10,0),(11,0),(12,2),(13,0)] rfl mixed (by kernel_rfl) (by kernel_rfl) (by kernel_rfl) (λw1 ae=>?_);replace hJ:=tI _ _ _ _ hJ ae;replace ax:=ax.up ae;replace hS:=hS.trans ae.mn;refine Z0r rfl (λw'=>ZZ rfl) rfl ?_;refine Z0r rfl (λw'=>ZZ rfl) rfl ?_;refine Z0r rfl (λw'=>ZZ rfl) rfl ?_;refine Z0r rfl (λw'=>Z2X (i:=k) rfl ax rfl rfl bH) rfl ?_;refine Zcu rfl (λw' hS=>Z1R rfl rfl (ax.ext hS (λb hb=>hb) (λ_ h=>.inl h)) bH rfl rfl) rfl ?_;refine Z0r rfl (λw'=>ZZ rfl) rfl ?_;refine Z0r rfl (λw'=>ZZ rfl) rfl ?_;refine Z0r rfl (λw'=>Zdp rfl rfl (by unfold I64;omega)) rfl ?_;refine Z0r rfl (λw'=>Z2X (i:=k+1) rfl ax rfl (by omega) dc) rfl ?_;refine Zcu rfl (λw' hS=>Z1R rfl rfl (ax.ext hS (λb hb=>hb) (λ_ h=>.inl h)) dc rfl rfl) rfl ?_;refine Z0r rfl (λw'=>Z6g rfl rfl (by unfold I64;omega)) rfl ?_;refine Z0r rfl (λw'=>JC (vs:=[(0,.I D[k]),(1,.I (D[k+1] - 1))]) rfl (Zka _ _)) rfl ?_;have tN:=hY (Z.take k) Z[k] G w1 hJ (by rw [<- Xk tL];exact List.take_prefix _ _);rw [tM] at tN;refine Zgx rfl rfl rfl tN (λW' h=>h.choose_spec.2.1) rfl ?_;rintro W' ⟨G',mG,ni,jo⟩;refine Z0r rfl (λw'=>ZhA rfl) rfl ?_;refine Znq ?_;refine QO ?_;refine QL (k+1,G') ⟨by dsimp only;omega,by rw [Xk tL,tM];exact mG,?_,hS.own ni hG,λb hb=>?_⟩ (by dsimp only;omega);exact ax.ext ni (λb hb=>hb) jo;rcases jo b hb with h|h
 exact hG b h;exact .inr (by have:=hS.size;omega);refine QO ?_;refine WR ?_;have ej:k=Z.length:=by omega
 rw [ej,Xp] at hJ;exact .mk ⟨G,hJ,hS,hG⟩
end Go.Proofs.YtipfkbkkndacjaaGreatDoor
namespace Go.Eng
open Go Go.RowKit Go.Proofs
variable {P:Program} {n:Nat} {Q:Exit->Act->World->Prop} {e:Env} {w w0:World} {rest:List Oper} {ops:Array Oper} {ty ty':TypeId} {pos pos':String} {af af':Array Edge}
theorem Z9.slv1 {α:Type} [Z5 α] {X:List Nat} {T:Nat} {cs:List Value} {v:Value} {w':World} {y:α} (h:Z9 w T 1 cs v w') (hX:∀ b∈X,b<w.heap.size) (hr:Z5.rep X w y cs):SlV X w' v [y]:=by
 obtain ⟨b,rfl,hb,hk,hT⟩:=h;refine ⟨some ⟨b,0,none⟩,1,rfl,Xn _,by simp [maxLen],by simp,λi hi=>?_⟩;obtain rfl:i=0:=by simpa using hi
 refine ⟨b,0,cs,rfl,hk.lt,λdr=>by have:=hX b dr;omega,Z5.ext hr hT (by simp) (λc hc=>.inl hc),λj u hu=>?_⟩;simpa using hk.cell hu
theorem APG {α:Type} [Z5 α] {X:List Nat} {T t bytes d1 d2 base:Nat} {x y:Operand} {v z0 u:Value} {cs:List Value} {xs:List α} [ht:Und P t (.slice T)] [hk:Siz P T (Z5.k α)] [hb:Byt P T bytes] [hz:Zer P T z0] (z:α) (hr:Row X w base T v xs) (hX:∀ b∈X,b<w.heap.size) (dD:base<=w.heap.size)
 (fi:Z5.rep (ob v++X) w z cs) (hl:(xs.length+1) * bytes<=140737488355328) (bI:xs.length+1<=maxLen)
 (k:∀ v1 v' w',Row X w' base T v' (xs++[z])->Stp (ob v) w w'->(∀ b∈ob v',b∈ob v\/w.heap.size<=b)->WL P n ops Q rest ((d2,v') :: (d1,v1) :: e) w')
 (hx:ev e x=some v:=by exact rfl) (hy:Jw e [(0,y)]=some [(0,u)]:=by exact rfl) (bj:∀ w:World,(Instr.buildSlice t 1 #[(0,u)]).run P w=.ok (.slice (some ⟨w.heap.size,0,none⟩) 1 1) (w.alloc (.cells cs.toArray T)):=by intro w;kernel_rfl)
 (mo:∀ v1,ev ((d1,v1) :: e) x=some v:=by intro _;exact rfl) (ir:∀ v1,ev ((d1,v1) :: e) (.tmp d1)=some v1:=by intro _;exact rfl)
 (dT:z0.cells.size=Z5.k α:=by exact rfl) (aV:0<Z5.k α:=by decide) (h1:Nat.blt d1 n=true:=by exact rfl) (h2:Nat.blt d2 n=true:=by exact rfl) :
 WL P n ops Q (⟨some d1,.buildSlice t 1 #[(0,y)],ty,pos,af,none⟩ :: ⟨some d2,.call { callee:=.builtin .append,args:=#[x,.tmp d1],argTypes:=#[t,t] },ty',pos',af',none⟩ :: rest) e w:=by
 refine Z0 (Z1 (l:=[(0,y)]) (vs:=[(0,u)]) hy bj) h1 ?_;intro v1 w1 hN;have hT:Stp [] w w1:=hN.choose_spec.2.2.2;have aq:SlV (ob v++X) w1 v1 [z]:=hN.slv1 (λb hb=>by
  rcases Xf.1 hb with h|h
  exact (hr.ob_le b h).2;exact hX b h) fi
 refine Z0 (ZF (X:=X) (base:=base) dT aV (mo v1) (ir v1) (hr.up hT) aq (by simpa using hl) (by simpa using bI) (Xh dD hT.size)) h2 ?_;rintro v' w2 ⟨g1,g2,g3⟩;exact k v1 v' w2 g1 (hT.mn.trans g2) (λb hb=>(g3 b hb).imp id (Xh hT.size))
end Go.Eng
namespace Go.Proofs.YtipfkbkkndacjaaGreatDoor
open Go Go.Eng Go.RowKit
theorem Zb5 {P:Program} {f:FuncId} {fn:Func} {c:Code} {args:Array Value} {w} {R:Ending->World->Prop} {n:Nat} (hf:P.funcs[f]?=some fn) (hb:fn.body=some c)
 (hn:fn.ntmps=n) (hs:Nat.ble args.size n=true) (h:WC P n c (bodyPostM Fence.wide 5 P fn R) (Z54 args.toList 0) w):Calls P f args w R:=by
 refine (callsIn_wide (n:=5)).1 (callsIn_of_wp_marks hf hb trivial ((wpIn_wide (n:=5)).2 (h.h _ ?_)));rw [hn];have cT:args.size<=n:=XX hs;refine ⟨rfl,by simp;omega,λt v hv=>?_⟩;obtain ⟨_,h2⟩:=Z3y _ _ _ _ hv;simp only [Nat.sub_zero] at h2;have hlt:t<args.size:=by
  have:=(Xu.1 h2).1;simpa using this
 have:args[t]?=some v:=by simpa using h2
 have h3:(args++Array.replicate (n - args.size) undef)[t]?=some v:=by
  rw [XW hlt];exact this
 simp [XB,h3]
theorem ZgB {P:Program} {n:Nat} {fn:Func} {R:Ending->World->Prop} {e:Env} {w:World} {D t u:Nat} {v x:Value} (hr:fn.results=#[.tmp t,.tmp u]) (ht:Eng.look e t=some v) (hu:Eng.look e u=some x) (hd:w.heap[D]?=some (.deferred (some [])))
 (h:R (.returned (.tuple #[v,x])) (w.putObj D (.deferred none))):WQD [{ target:=.collected D,args:=#[] }] n (bodyPostM Fence.wide 5 P fn R) .ret e w:=by
 refine ⟨λa ha=>?_⟩;show LeavesInM Fence.wide 5 P fn (Z1r _ a).tmps R (Z1r _ a).defers .returning w;have vV:(Z1r [{ target:=.collected D,args:=#[] }] a).defers=[{ target:=.collected D,args:=#[] }]:=by unfold Z1r;rw [ha.defers];rfl
 rw [vV];refine ⟨by simp,.inl ⟨D,_,rfl,run_takeDeferred hd,?_⟩⟩;refine ⟨.tuple #[v,x],?_,h⟩;have h1:=ha.vals t v ht;have h2:=ha.vals u x hu;have h3:(Z1r [{ target:=.collected D,args:=#[] }] a).tmps=a.tmps:=rfl;rw [XB] at h1 h2;rw [h3];simp [results,hr,h1,h2]
theorem Zb6 (lv:Value) (l:List Rtn) (sent:Int) (w) (hl:SlV [] w lv l):CC 202 #[lv,.I sent] w λr w'=>∃ bL bS,r=.func (.func 258) #[] #[pQ bS,pQ bL]/\
 Blk w' bS 3 [.I sent]/\Blk w' bL 76 [lv]/\w.heap.size<=bL/\w.heap.size<=bS/\Stp [] w w':=by
 refine cW2 6 Tryz.func202 ?_;refine W ?_;refine Z0 (Zan rfl hl) rfl ?_;rintro _ w1 ⟨bL,rfl,hL,kL,hS⟩;have z1:=hS.size;refine BX hS λbS w2 ah kS hT hS=>?_;replace kS:Blk w2 bS 3 [.I sent]:=kS;replace kL:=kL.up hT;refine RT ?_;exact ⟨bL,bS,rfl,kS,kL,hL,by omega,hS⟩
theorem Zkc {l:List Rtn} {sent:Int} (h:l.length<=32):(Z4O l sent).length<=66:=by
 have o0:Z4O l sent=Z3s (Z6I l sent):=rfl;have h2:=Z8F l sent;have h1:(Z4O l sent).length<=(Z6I l sent).length:=by
  rw [o0];unfold Z3s Lib.compact Lib.compactUpTo;rw [Xt];refine Xh (X1 _ _) ?_;simp
 omega
theorem Zkd {l:List Rtn} {sent:Int} (h:l.length<=32):(Z9b l sent).length<=66:=by
 have:=Zkc (sent:=sent) h;unfold Z9b;rw [Xt,List.length_zip];omega
theorem ZgC (l:List Rtn) (crrs:List Crr) (s:AlS) (x:Spn):(Z0B l crrs s x).out.length<=s.out.length+1:=by
 unfold Z0B;dsimp only;split;omega;have ht:(if Z1z l crrs x.1<s.least then (⟨Z1z l crrs x.1,false,[]⟩:AlS) else s).out.length<=s.out.length:=by
  split<;>simp
 generalize (if Z1z l crrs x.1<s.least then (⟨Z1z l crrs x.1,false,[]⟩:AlS) else s)=t at *;split;split<;>simp<;>omega
 simp;omega
theorem Z9Q (l:List Rtn) (crrs:List Crr):∀ (L:List Spn) (s:AlS),(L.foldl (Z0B l crrs) s).out.length<=s.out.length+L.length
 | [],s=>by simp
 | x :: L, s => by
   have h1:=Z9Q l crrs L (Z0B l crrs s x);have h2:=ZgC l crrs s x;rw [X2,Xe];omega
theorem Zke (l:List Rtn) (crrs:List Crr) (s:AlS) (x:Spn) (h:¬ s.least<Z1z l crrs x.1) {t:AlS} (ht:t=if Z1z l crrs x.1<s.least then ⟨Z1z l crrs x.1,false,[]⟩ else s) :
 (t.out=[]->Z0B l crrs s x={ t with out:=[x] })/\(∀ M u,t.out=M++[u]->Z0B l crrs s x={ t with out:=if u.2=x.1 - 1 then M++[(u.1,x.2)] else M++[u]++[x] }):=by
 unfold Z0B;dsimp only;rw [if_neg h,<- ht];clear ht;constructor;intro h0;rw [h0];rfl;intro M u h0;rw [h0];simp only [List.getLast?_append,List.getLast?_singleton,Option.some_or];split<;>simp
structure AlJ (w0:World) (l:List Rtn) (crrs:List Crr) (b8 b9 b10:Nat) (pre:List Spn) (F:List Nat) (W:World):Prop where
 ex:∃ ov,F=b8 :: b9 :: b10 :: ob ov/\Blk W b10 27 [ov]/\Row [] W w0.heap.size 75 ov (pre.foldl (Z0B l crrs) ⟨Z1z l crrs (-1),true,[]⟩).out
 k8:Blk W b8 3 [.I (pre.foldl (Z0B l crrs) ⟨Z1z l crrs (-1),true,[]⟩).least]
 k9:Blk W b9 4 [.B (pre.foldl (Z0B l crrs) ⟨Z1z l crrs (-1),true,[]⟩).never]
 stp:Stp [b8,b9,b10] w0 W
theorem Zb7 {β:Type} [Z3 β] {X S:List Nat} {w w':World} {base T:Nat} {v:Value} {xs:List β} (h:Row X w base T v xs) (hS:Stp S w w') (hn:∀ b∈S,b∉ob v):Row X w' base T v xs:=
 Z26 (Row.ext (Z26 (X':=S) h) hS (λb hb=>⟨hb,hn b hb⟩) (λb hb=>.inl hb))
theorem AlJ.stay {w0 W W':World} {l:List Rtn} {crrs:List Crr} {b8 b9 b10:Nat} {pre:List Spn} {F S:List Nat} (h:AlJ w0 l crrs b8 b9 b10 pre F W) (hS:Stp S W W') (hd:∀ b∈S,w0.heap.size<=b/\b∉F):AlJ w0 l crrs b8 b9 b10 pre F W':=by
 obtain ⟨⟨ov,rfl,k10,hr⟩,k8,k9,aA⟩:=h;exact ⟨⟨ov,rfl,k10.ext hS (λh=>(hd _ h).2 (by simp)),Zb7 hr hS (λb hb h=>(hd b hb).2 (by simp [h]))⟩,k8.ext hS (λh=>(hd _ h).2 (by simp)),k9.ext hS (λh=>(hd _ h).2 (by simp)),aA.own hS (λb hb=>.inr (hd b hb).1)⟩
theorem ZcA (lv cv:Value) (l:List Rtn) (crrs:List Crr) (sent:Int) (w) (hl:SlV [] w lv l) (hc:SlV [] w cv crrs) (ho:Zns l crrs) (eY:0<=sent/\sent<=3652058) :
 CC 127 #[lv,cv,.I sent] w λv w'=>∃ ov,v=.tuple #[ov,.B (Zgz l crrs sent).never]/\SlV [] w' ov (Zgz l crrs sent).out/\Stp [] w w':=by
 refine Zb5 (n:=62) Tryz.func127 rfl rfl rfl ?_;refine W ?_;refine Z0 (Zan rfl hl) rfl ?_;rintro _ w1 ⟨b3,rfl,h3,e3,hS⟩;refine Z0 (Zan rfl hc) rfl ?_;rintro _ w2 ⟨b4,rfl,h4,e4,hT⟩;replace e3:=e3.up hT;replace hS:=hS.trans hT;clear hT;refine W ?_;refine CP hS (Z8D lv cv l crrs (-1) _ (hl.up hS) (hc.up hS) ho.len ho.crr ho.tol) λw3 hT hS=>?_;replace e3:=e3.up hT;replace e4:=e4.up hT;clear hT;refine Z0 Z2 rfl ?_;rintro _ w4 ⟨b8,rfl,eO,e8,hT⟩;replace e8:Blk w4 b8 3 [.I 0]:=e8;refine S1 e8 ?_;rintro _ w5 ⟨ar,e8⟩;replace hT:=hT.ow ar;have l3:=e3.lt;have l4:=e4.lt;replace e3:=e3.up hT;replace e4:=e4.up hT;have g8:w.heap.size<=b8:=Xh hS.size eO;replace hS:=hS.trans hT;clear hT ar;refine W ?_;refine Z0 Z2 rfl ?_;rintro _ w6 ⟨b9,rfl,iI,e9,hT⟩;replace e9:Blk w6 b9 4 [.B false]:=e9;refine S1 e9 ?_;rintro _ w7 ⟨ar,e9⟩;replace hT:=hT.ow ar;have l8:=e8.lt;replace e3:=e3.up hT;replace e4:=e4.up hT;replace e8:=e8.up hT;replace hS:=hS.trans hT;clear hT ar;refine W ?_;refine Z0 Z2 rfl ?_;rintro _ w8 ⟨b10,rfl,dL,e10,hT⟩;have l9:=e9.lt;replace e3:=e3.up hT;replace e4:=e4.up hT;replace e8:=e8.up hT;replace e9:=e9.up hT;replace hS:=hS.trans hT;clear hT;refine W ?_;refine CG (Zb6 lv l sent _ (hl.up hS)) ?_;rintro _ w9 ⟨bL,bS,rfl,kS,kL,gL,gS,hT⟩;have l10:=e10.lt;have z8:=hS.size;replace e3:=e3.up hT;replace e4:=e4.up hT;replace e8:=e8.up hT;replace e9:=e9.up hT;replace e10:=e10.up hT;replace hS:=hS.trans hT;clear hT;refine W ?_;replace e10:Blk w9 b10 27 [.N]:=e10;have q8:=e8.lt;have q9:=e9.lt;have q10:=e10.lt;refine Zlj [(3,pQ b3),(4,pQ b4),(8,pQ b8),(9,pQ b9),(10,pQ b10),(19,.func (.func 258) #[] #[pQ bS,pQ bL])] ⟨rfl,rfl,rfl,rfl,rfl,rfl,trivial⟩ ?_;refine Zk5 (α:=Spn) (E:=λx b=>[(3,pQ b3),(4,pQ b4),(8,pQ b8),(9,pQ b9),(10,pQ b10),(11,pQ b)]) (T:=75) (cs:=Z3.enc) (λx=>aG x) rfl rfl (Z9b l sent) (AlJ w9 l crrs b8 b9 b10) [b8,b9,b10] ?_ ?_ ?_ ?_ ?_ ?_ ?_;rintro pre F W ⟨⟨ov,rfl,k10,hr⟩,k8,k9,aA⟩ b hb;simp only [Xb] at hb;rcases hb with rfl|rfl|rfl|hb
 exact k8.lt;exact k9.lt;exact k10.lt;exact (hr.ob_le b hb).2;exact λpre F W W' S h hS hd=>h.stay hS hd;exact ⟨⟨.N,rfl,e10,Row.nil⟩,e8,e9,Stp.refl _ _⟩;intro l' Y ln dX yo;have zY:=ln.size;have zw:=hS.size;have kSl:=kS.lt;have kLl:=kL.lt;refine Zb4 l' _ Y bS bL lv l sent crrs ho eY (kS.up ln) (kL.up ln) (hl.ext (hS.trans ln) (by simp) (λb hb=>.inr (by
  simp only [Xb,Xj,or_false] at hb;omega))) (λb hb=>by
  simp only [Xb,Xj,or_false] at hb;omega) (by simp only [Xb,Xj,or_false];omega) (by simp only [Xb,Xj,or_false];omega)
 intro l' x Y Z eQ hk;refine ZV rfl (λa w h=>eQ a w h) ?_;refine Z0 Z2 rfl ?_;rintro _ Ya ⟨b,rfl,hb,kb,hT⟩;refine SA (us:=Z3.enc x) kb ?_;rintro _ Yb ⟨ar,kb⟩;refine W ?_;exact Zlk [(3,pQ b3),(4,pQ b4),(8,pQ b8),(9,pQ b9),(10,pQ b10),(11,pQ b)] ⟨rfl,rfl,rfl,rfl,rfl,rfl,trivial⟩ (hk b Yb hb kb (hT.ow ar));intro l' pre x b11 F Y Z hJ cw k11 pb eP eQ hZ;obtain ⟨⟨ov,rfl,k10,hr⟩,k8,k9,aA⟩:=hJ;have vW:x∈Z9b l sent:=cw.subset (by simp);have rf:=Z8E eY vW;have cr:pre.length<=66:=by
  have h1:=cw.length_le;have h2:=Zkd (sent:=sent) ho.len;rw [Xc] at h1;omega
 have lZ:=Z9Q l crrs pre ⟨Z1z l crrs (-1),true,[]⟩;have im:(pre++[x]).foldl (Z0B l crrs) ⟨Z1z l crrs (-1),true,[]⟩=Z0B l crrs (pre.foldl (Z0B l crrs) ⟨Z1z l crrs (-1),true,[]⟩) x:=by simp
 have ln:Stp [] w Y:=hS.own aA (λb hb=>by simp at hb;rcases hb with rfl|rfl|rfl<;>exact .inr (by omega));have f3:=e3.ext aA (by simp;omega);have f4:=e4.ext aA (by simp;omega);have eD:=λb hb=>hr.ob_le b hb;have zst:=aA.size;simp only [Xg] at lZ;generalize pre.foldl (Z0B l crrs) ⟨Z1z l crrs (-1),true,[]⟩=s at *;obtain ⟨least,never,out⟩:=s;dsimp only at k8 k9 hr lZ;have l8y:=k8.lt;have l9y:=k9.lt;have l10y:=k10.lt;focus repeat'(first|refine W1 ?_|refine Jr ?_|refine JT ?_|refine Jc ?_|refine ZV rfl (λa w h=>eQ a w h) ?_|refine Js ?_|refine Jt ?_|refine Jn rfl ?_|refine J8 rfl ?_|refine Zz ?_|refine Zw ?_|refine ZJ rfl ?_|refine Jm ?_)
 refine CP (Stp.refl [] Y) (Z8D lv cv l crrs x.1 _ (hl.up ln) (hc.up ln) ho.len ho.crr ho.tol) λY1 hT _=>?_;replace k8:=k8.up hT;replace k9:=k9.up hT;replace k10:=k10.up hT;replace k11:=k11.up hT;replace f3:=f3.up hT;replace f4:=f4.up hT;replace hr:=hr.up hT;have lp:=aA.trans hT.mn;have hstep:=λh=>@Zke l crrs ⟨least,never,out⟩ x h _ rfl;have iL:least<Z1z l crrs x.1->Z0B l crrs ⟨least,never,out⟩ x=⟨least,never,out⟩:=λh=>by unfold Z0B;dsimp only;rw [if_pos h]
 dsimp only at hstep iL;generalize Z1z l crrs x.1=E at *;by_cases h1:least<E;rw [iL h1] at im;focus repeat'(first|refine W1 ?_|refine Jr ?_|refine JT ?_|refine Jc ?_|refine ZV rfl (λa w h=>eQ a w h) ?_|refine Js ?_|refine Jt ?_|refine Jn rfl ?_|refine J8 rfl ?_|refine Zz ?_|refine Zw ?_|refine ZJ rfl ?_|refine Jm ?_|omega|(refine Z47 rfl ?_ ?_<;>intro hc))
 exact ⟨λa ha=>hZ a _ Y1 ⟨⟨ov,rfl,k10,by rw [im];exact hr⟩,by rw [im];exact k8,by rw [im];exact k9,lp⟩ hT.mn (λb hb=>.inl hb)⟩;have hstep:=hstep h1;clear iL f3 f4;generalize cP:Z0B l crrs ⟨least,never,out⟩ x=s' at *;generalize ht:(if E<least then (⟨E,false,[]⟩:AlS) else ⟨least,never,out⟩)=t at *;have oS:t.out.length<=66:=by rw [<- ht];split<;>simp<;>omega
 focus repeat'(first|refine W1 ?_|refine Jr ?_|refine JT ?_|refine Jc ?_|refine ZV rfl (λa w h=>eQ a w h) ?_|refine Js ?_|refine Jt ?_|refine Jn rfl ?_|refine J8 rfl ?_|refine Zz ?_|refine Zw ?_|refine ZJ rfl ?_|refine Jm ?_)
 refine Z47 rfl (λhc=>absurd hc h1) (λhc=>?_);focus repeat'(first|refine W1 ?_|refine Jr ?_|refine JT ?_|refine Jc ?_|refine ZV rfl (λa w h=>eQ a w h) ?_|refine Js ?_|refine Jt ?_|refine Jn rfl ?_|refine J8 rfl ?_|refine Zz ?_|refine Zw ?_|refine ZJ rfl ?_|refine Jm ?_)
 refine Zk4 (σ:=Value) (λ_=>[(10,pQ b10),(11,pQ b11)]) (λov' W'=>Blk W' b8 3 [.I t.least]/\Blk W' b9 4 [.B t.never]/\Blk W' b10 27 [ov']/\Row [] W' w9.heap.size 75 ov' t.out/\Blk W' b11 75 (Z3.enc x)/\Stp [b8,b9,b10] Y1 W'/\∀ b∈ob ov',b∈ob ov) ?_ ?_;by_cases h2:E<least;rw [if_pos h2] at ht;subst ht;focus repeat'(first|refine W1 ?_|refine Jr ?_|refine JT ?_|refine Jc ?_|refine ZV rfl (λa w h=>eQ a w h) ?_|refine Js ?_|refine Jt ?_|refine Jn rfl ?_|refine J8 rfl ?_|refine Zz ?_|refine Zw ?_|refine ZJ rfl ?_|refine Jm ?_|omega|(refine Z47 rfl ?_ ?_<;>intro hc))
 refine S1 (u:=.I E) k8 ?_;rintro _ Y2 ⟨hA,k8⟩;replace k9:=k9.ext hA (by simp;omega);replace k10:=k10.ext hA (by simp;omega);replace k11:=k11.ext hA (λh=>pb (by simp at h;subst h;simp));refine S1 (u:=.B false) k9 ?_;rintro _ Y3 ⟨hB,k9⟩;replace k8:=k8.ext hB (by simp;omega);replace k10:=k10.ext hB (by simp;omega);replace k11:=k11.ext hB (λh=>pb (by simp at h;subst h;simp));refine S1 (u:=.N) k10 ?_;rintro _ Y4 ⟨hC,k10⟩;replace k8:=k8.ext hC (by simp;omega);replace k9:=k9.ext hC (by simp;omega);replace k11:=k11.ext hC (λh=>pb (by simp at h;subst h;simp));focus repeat'(first|refine W1 ?_|refine Jr ?_|refine JT ?_|refine Jc ?_|refine ZV rfl (λa w h=>eQ a w h) ?_|refine Js ?_|refine Jt ?_|refine Jn rfl ?_|refine J8 rfl ?_|refine Zz ?_|refine Zw ?_|refine ZJ rfl ?_|refine Jm ?_)
 exact QT (.N) ⟨k8,k9,k10,Row.nil,k11,(hA.mn.trans hB.mn).trans hC.mn,by simp [ob]⟩;rw [if_neg h2] at ht;subst ht;focus repeat'(first|refine W1 ?_|refine Jr ?_|refine JT ?_|refine Jc ?_|refine ZV rfl (λa w h=>eQ a w h) ?_|refine Js ?_|refine Jt ?_|refine Jn rfl ?_|refine J8 rfl ?_|refine Zz ?_|refine Zw ?_|refine ZJ rfl ?_|refine Jm ?_|omega|(refine Z47 rfl ?_ ?_<;>intro hc))
 exact QT ov ⟨k8,k9,k10,hr,k11,Stp.refl _ _,λb hb=>hb⟩;clear k8 k9 k10 k11 hr ht;rintro ov' Y2 ⟨k8,k9,k10,hr,k11,hA,pd⟩;have zA:=hA.size;have zT:=hT.size;have iM:=λb hb=>hr.ob_le b hb;have eZ:SlV [] Y2 ov' t.out:=hr.slv (by simp);obtain ⟨hq1,hq2⟩:=hstep;obtain ⟨tl,tn,oo⟩:=t;dsimp only at k8 k9 hr eZ iM hq1 hq2 oS;have nJ:b8∉ob ov':=λh=>by have:=iM _ h;omega
 have nK:b9∉ob ov':=λh=>by have:=iM _ h;omega
 have gE:b10∉ob ov':=λh=>by have:=iM _ h;omega
 have tO:b11∉ob ov':=λh=>pb (by have:=pd _ h;simp [this])
 have fin:∀ (nv:Value) (W':World),Blk W' b8 3 [.I s'.least]->Blk W' b9 4 [.B s'.never]->Blk W' b10 27 [nv]->Row [] W' w9.heap.size 75 nv s'.out->Stp (b10 :: ob ov') Y2 W'->(∀ b∈ob nv,b∈ob ov'\/Y2.heap.size<=b)->∀ a,Z .normal a W':=λnv W' g8 g9 g10 gr gs gn a=>
  hZ a (b8 :: b9 :: b10 :: ob nv) W' ⟨⟨nv,rfl,g10,by rw [im];exact gr⟩,by rw [im];exact g8,by rw [im];exact g9,(lp.trans hA).own gs (λb hb=>by
   rcases Xb.1 hb with rfl|hb
   exact .inl (by simp);exact .inr (iM b hb).1)⟩ ((((hT.mono (S':=b8 :: b9 :: b10 :: ob ov) (by simp)).trans hA.mn).trans (gs.mono (λb hb=>by
   rcases Xb.1 hb with rfl|hb
   simp;simp [pd b hb])))) (λb hb=>by
   simp only [Xb] at hb ⊢;rcases hb with rfl|rfl|rfl|hb
   exact .inl (.inl rfl);exact .inl (.inr (.inl rfl));exact .inl (.inr (.inr (.inl rfl)));rcases gn b hb with h|h
   exact .inl (.inr (.inr (.inr (pd b h))));exact .inr (by omega))
 clear hA pd eD lp;have app:∀ (Y3:World),Stp [] Y2 Y3->s'=⟨tl,tn,oo++[x]⟩->∀ (nv:Value) (Y4 Y5:World),Row [] Y4 w9.heap.size 75 nv (oo++[x])->Stp (ob ov') Y3 Y4->(∀ b∈ob nv,b∈ob ov'\/Y3.heap.size<=b)->Stp [b10] Y4 Y5->Blk Y5 b10 27 [nv]->∀ a,Z .normal a Y5:=λY3 g1 gs nv Y4 Y5 g2 g3 g4 g5 g6 a=>by
  subst gs;have q8:=(((k8.up g1).ext g3 nJ).ext g5 (by simp;omega))
  have q9:=(((k9.up g1).ext g3 nK).ext g5 (by simp;omega))
  have eR:b10∉ob nv:=λh=>by
   rcases g4 _ h with h|h
   exact gE h;have:=g1.size;omega
  exact fin nv Y5 q8 q9 g6 (Zb7 g2 g5 (λb hb h=>eR (by simp at hb;subst hb;exact h))) ((g1.mn.trans (g3.mono (λb hb=>by simp [hb]))).trans g5.mn) (λb hb=>(g4 b hb).imp id (λh=>by have:=g1.size;omega)) a
 focus repeat'(first|refine W1 ?_|refine Jr ?_|refine JT ?_|refine Jc ?_|refine ZV rfl (λa w h=>eQ a w h) ?_|refine Js ?_|refine Jt ?_|refine Jn rfl ?_|refine J8 rfl ?_|refine Zz ?_|refine Zw ?_|refine ZJ rfl ?_|refine Jm ?_)
 rcases Yae oo with rfl|⟨M,u,rfl⟩
 have bq:=hq1 rfl;refine Z9P 14 [] [] [(0,0),(1,0),(2,0),(3,1),(4,0),(5,0),(6,0),(7,0),(8,1),(9,0),(10,1),(11,0),(12,0),(13,0)] rfl mixed (by kernel_rfl) (by kernel_rfl) (by kernel_rfl) rfl (λw1 ae=>?_);replace k10:=k10.up ae;replace k11:=k11.up ae;replace hr:=hr.up ae;refine D ?_;focus repeat'(first|refine W1 ?_|refine Jr ?_|refine JT ?_|refine Jc ?_|refine ZV rfl (λa w h=>eQ a w h) ?_|refine Js ?_|refine Jt ?_|refine Jn rfl ?_|refine J8 rfl ?_|refine Zz ?_|refine Zw ?_|refine ZJ rfl ?_|refine Jm ?_)
 refine APG (X:=[]) (base:=w9.heap.size) x hr (by simp) (by have:=ae.size;omega) rfl (by simp) (by simp [maxLen]) λv1 nv Y4 iJ fM jF=>?_
 replace k10:=k10.ext fM gE;focus repeat'(first|refine W1 ?_|refine Jr ?_|refine JT ?_|refine Jc ?_|refine ZV rfl (λa w h=>eQ a w h) ?_|refine Js ?_|refine Jt ?_|refine Jn rfl ?_|refine J8 rfl ?_|refine Zz ?_|refine Zw ?_|refine ZJ rfl ?_|refine Jm ?_)
 have ei:SlV [] Y4 nv ([]++[x]):=iJ.slv (by simp);refine Z6 (Zb (u:=nv) rfl rfl ei.cells ei.one k10 (by simp)) ?_;rintro _ Y5 ⟨dY,k10⟩;focus repeat'(first|refine W1 ?_|refine Jr ?_|refine JT ?_|refine Jc ?_|refine ZV rfl (λa w h=>eQ a w h) ?_|refine Js ?_|refine Jt ?_|refine Jn rfl ?_|refine J8 rfl ?_|refine Zz ?_|refine Zw ?_|refine ZJ rfl ?_|refine Jm ?_)
 exact ⟨λa ha=>app w1 ae bq nv Y4 Y5 iJ fM jF dY k10 a⟩;rw [Yaf] at *;have bq:=hq2 M u rfl;have kW:((M++[u]).length:Int) - 1=(M.length:Nat):=by simp
 have mq:M.length<(M++[u]).length:=by simp
 have dw:(M++[u])[M.length]=u:=by simp
 have gq:0<((M++[u]).length:Int):=by simp
 refine Z9P 14 [] [] [(0,0),(1,0),(2,0),(3,1),(4,0),(5,0),(6,0),(7,0),(8,1),(9,0),(10,1),(11,0),(12,0),(13,0)] rfl mixed (by kernel_rfl) (by kernel_rfl) (by kernel_rfl) rfl (λw1 ae=>?_);replace k10:=k10.up ae;replace k11:=k11.up ae;replace hr:=hr.up ae;replace eZ:=eZ.up ae;refine QD ?_;rw [dw];focus repeat'(first|refine W1 ?_|refine Jr ?_|refine JT ?_|refine Jc ?_|refine ZV rfl (λa w h=>eQ a w h) ?_|refine Js ?_|refine Jt ?_|refine Jn rfl ?_|refine J8 rfl ?_|refine Zz ?_|refine Zw ?_|refine ZJ rfl ?_|refine Jm ?_)
 refine Z47 rfl (λhc=>?_) (λhc=>?_);rw [if_pos hc] at bq;focus repeat'(first|refine W1 ?_|refine Jr ?_|refine JT ?_|refine Jc ?_|refine ZV rfl (λa w h=>eQ a w h) ?_|refine Js ?_|refine Jt ?_|refine Jn rfl ?_|refine J8 rfl ?_|refine Zz ?_|refine Zw ?_|refine ZJ rfl ?_|refine Jm ?_)
 refine Z6 (Z4j (i:=M.length) (y':=(u.1,x.2)) (u:=.I x.2) rfl rfl rfl rfl rfl hr mq (by decide) (by rw [dw];rfl)) ?_;rintro _ Y5 ⟨tP,dY⟩;focus repeat'(first|refine W1 ?_|refine Jr ?_|refine JT ?_|refine Jc ?_|refine ZV rfl (λa w h=>eQ a w h) ?_|refine Js ?_|refine Jt ?_|refine Jn rfl ?_|refine J8 rfl ?_|refine Zz ?_|refine Zw ?_|refine ZJ rfl ?_|refine Jm ?_)
 rw [show (M++[u]).set M.length (u.1,x.2)=M++[(u.1,x.2)] by simp] at tP;have vX:=(k8.up ae).ext dY nJ;have vY:=(k9.up ae).ext dY nK;have rg:=k10.ext dY gE;refine ⟨λa ha=>fin ov' Y5 (by rw [bq];exact vX) (by rw [bq];exact vY) rg (by rw [bq];exact tP) (ae.mn.trans (dY.mono (λb hb=>by simp [hb]))) (λb hb=>.inl hb) a⟩;rw [if_neg hc] at bq;focus repeat'(first|refine W1 ?_|refine Jr ?_|refine JT ?_|refine Jc ?_|refine ZV rfl (λa w h=>eQ a w h) ?_|refine Js ?_|refine Jt ?_|refine Jn rfl ?_|refine J8 rfl ?_|refine Zz ?_|refine Zw ?_|refine ZJ rfl ?_|refine Jm ?_)
 refine APG (X:=[]) (base:=w9.heap.size) x hr (by simp) (by have:=ae.size;omega) rfl (Xh (Xo _ (show (M++[u]).length+1<=1000 by omega)) (by decide)) (by simp only [maxLen];omega) λv1 nv Y4 iJ fM jF=>?_
 replace k10:=k10.ext fM gE;focus repeat'(first|refine W1 ?_|refine Jr ?_|refine JT ?_|refine Jc ?_|refine ZV rfl (λa w h=>eQ a w h) ?_|refine Js ?_|refine Jt ?_|refine Jn rfl ?_|refine J8 rfl ?_|refine Zz ?_|refine Zw ?_|refine ZJ rfl ?_|refine Jm ?_)
 have ei:SlV [] Y4 nv (M++[u]++[x]):=iJ.slv (by simp);refine Z6 (Zb (u:=nv) rfl rfl ei.cells ei.one k10 (by simp)) ?_;rintro _ Y5 ⟨dY,k10⟩;focus repeat'(first|refine W1 ?_|refine Jr ?_|refine JT ?_|refine Jc ?_|refine ZV rfl (λa w h=>eQ a w h) ?_|refine Js ?_|refine Jt ?_|refine Jn rfl ?_|refine J8 rfl ?_|refine Zz ?_|refine Zw ?_|refine ZJ rfl ?_|refine Jm ?_)
 exact ⟨λa ha=>app w1 ae bq nv Y4 Y5 iJ fM jF dY k10 a⟩;rintro D F Y ⟨⟨ov,rfl,k10,hr⟩,k8,k9,aA⟩ hD vZ fZ hF -;have v8:=hS.own aA (λb hb=>by simp at hb;rcases hb with rfl|rfl|rfl<;>exact .inr (by omega));have it:(Z9b l sent).foldl (Z0B l crrs) ⟨Z1z l crrs (-1),true,[]⟩=Zgz l crrs sent:=rfl;rw [it] at hr k9;refine ⟨λa ha=>(Z29 (ds:=[{ target:=.collected D,args:=#[] }]) (Z4A ?_)).h a ha⟩;refine Z9O 4 [] [] [(0,1),(1,1),(2,0),(3,0)] rfl mixed (by kernel_rfl) (by kernel_rfl) (by kernel_rfl) (λw1 ae=>?_);replace k10:=k10.up ae;replace k9:=k9.up ae;replace hr:=hr.up ae;refine QD ?_;refine Z6F (Z29 (Zf7 ?_));have nL:=(ae.block D (Xl.1 fZ).1 (by simp)).trans fZ;refine ZgB (D:=D) rfl rfl rfl nL (.mk ⟨ov,rfl,?_,?_⟩);exact (Row.slv (X:=[]) (Zb7 hr (Z2a w1 D (.deferred none)) (λb hb h=>vZ (by simp at hb;subst hb;simp [h]))) (by simp));exact ((v8.trans ae)).own (Z2a w1 D (.deferred none)) (λb hb=>.inr (by simp at hb;subst hb;have:=hS.size;omega))
theorem Zeb (lv cv:Value) (l:List Rtn) (crrs:List Crr) (sent:Int) (w) (hl:SlV [] w lv l) (hc:SlV [] w cv crrs) (ho:Zns l crrs) (hs:0<=sent/\sent<=3652058) :
 CC 77 #[lv,cv,.I sent] w λv w'=>v=.tuple #[.I (Zb3 l crrs sent).1,.B (Zb3 l crrs sent).2]/\Stp [] w w':=by
 unfold Zb3;refine cW3 30 Tryz.func77 ?_;refine W ?_;refine CG (ZcA lv cv l crrs sent w hl hc ho hs) ?_;rintro _ w1 ⟨ov,rfl,ax,hS⟩;generalize Zgz l crrs sent=s at *;obtain ⟨least,never,out⟩:=s;dsimp only at ax ⊢;have aS:=ax.max;cases never with
 | true=>
   refine RT ?_;exact ⟨rfl,hS⟩
 | false=>
   rcases Yae out with rfl|⟨M,u,rfl⟩
   refine RT ?_;exact ⟨rfl,hS⟩;rw [Yaf] at *;have kW:((M++[u]).length:Int) - 1=(M.length:Nat):=by simp
   have mq:M.length<(M++[u]).length:=by simp
   have dw:(M++[u])[M.length]=u:=by simp
   have gq:0<((M++[u]).length:Int):=by simp
   have wm:(M++[u]).getLast?=some u:=by simp
   rw [wm];refine QO ?_;rw [dw];refine RU ?_;exact ⟨rfl,hS⟩
theorem Znu (a b:Svc) (w):CC 79 #[aG a,aG b] w λr w'=>r=.I (cmI a.day b.day)/\Stp [] w w':=by
 refine cW2 10 Tryz.func79 ?_;refine W ?_;refine BX (Stp.refl [] w) λb2 w1 h2 e2 _ hS=>?_;replace e2:Blk w1 b2 115 (Z3.enc a):=e2;refine BX hS λb3 w2 h3 e3 hT hS=>?_;replace e2:=e2.up hT;replace e3:Blk w2 b3 115 (Z3.enc b):=e3;refine W ?_;refine CP hS (Z4z _ _ _) λw3 _ hS=>?_;refine RT ?_;exact ⟨rfl,hS⟩
def Z2q (l:List Svc):Nat->Svc
 | 0=>l.getD 0 ⟨0,0,0⟩
 | k+1=>if (l.getD (k+1) ⟨0,0,0⟩).day<(Z2q l k).day then l.getD (k+1) ⟨0,0,0⟩ else Z2q l k
def Z50 (l:List Svc):Svc×Bool:=if l=[] then (⟨0,0,0⟩,false) else (Z2q l (l.length - 1),true)
theorem Zkf (v:Value) (l:List Svc) (w) (hs:SlV [] w v l):CC 78 #[v,.func (.func 79) #[] #[]] w λr w'=>r=.tuple #[.agg (Z3.enc (Z50 l).1).toArray,.B (Z50 l).2]/\Stp [] w w':=by
 have aS:=hs.max;unfold Z50;refine cW2 31 Tryz.func78 ?_;refine W ?_;refine Z0 Z2 rfl ?_;rintro _ w1 ⟨b4,rfl,bE,e4,hS⟩;refine W ?_;refine Z0 Z2 rfl ?_;rintro _ w2 ⟨b6,rfl,eh,e6,hT⟩;have l4:=e4.lt;replace e4:=e4.up hT;have g6:w.heap.size<=b6:=Xh hS.size eh;replace hS:=hS.trans hT;clear hT;have n46:b4≠b6:=by omega
 replace e4:Blk w2 b4 115 (Z3.enc (⟨0,0,0⟩:Svc)):=e4;replace e6:Blk w2 b6 115 (Z3.enc (⟨0,0,0⟩:Svc)):=e6;have bq:=hs.up hS;have hz:((l.length:Int)=0)↔l=[]:=by simp
 (refine QP ?_ ?_<;>intro hc)
 obtain rfl:l=[]:=hz.1 (by assumption);refine SA (us:=Z3.enc (⟨0,0,0⟩:Svc)) e4 ?_;rintro _ w3 ⟨hT,e4⟩;refine W ?_;refine Zm rfl rfl rfl e4 rfl rfl ?_;exact .mk ⟨rfl,hS.ow hT⟩;have hn:l≠[]:=λh=>absurd (hz.2 h) (by assumption)
 have aV:0<l.length:=Yab.2 hn;rw [if_neg hn];refine QO ?_;refine SA (us:=Z3.enc l[0]) e6 ?_;rintro _ w3 ⟨hT,e6⟩;replace e4:=e4.ext hT (by simpa using n46);replace hS:=hS.ow hT;clear hT bq;have eA:=hs.up hS;refine QO ?_;have ga:=eA.slc (l:=1) (r:=l.length) aV (Xn _);rw [Xp] at ga;refine Z8 (Z57 (l:=1) rfl eA rfl rfl aV) rfl ?_;clear eA;obtain ⟨dv,ri⟩:∃ dv,dv=Eng.slc v 1 l.length 3:=⟨_,rfl⟩
 rw [<- ri];have wo:SlV [] w3 dv (l.drop 1):=ri ▸ ga;clear ga;have jW:(l.drop 1).length=l.length - 1:=by simp
 refine W ?_;have bA:=hS;refine LP (σ:=Nat) (λk=>[(1,.func (.func 79) #[] #[]),(4,pQ b4),(6,pQ b6),(17,dv),(18,.I (l.drop 1).length),(19,.I k)]) (λk w'=>k<=l.length - 1/\Stp [b6] w3 w'/\Stp [] w w'/\Blk w' b6 115 (Z3.enc (Z2q l k))/\Blk w' b4 115 (Z3.enc (⟨0,0,0⟩:Svc))) (λk=>l.length - 1 - k) 0 ⟨by omega,Stp.refl _ _,hS,by rw [Z2q,show l.getD 0 ⟨0,0,0⟩=l[0] by simp [aV]];exact e6,e4⟩ ?_;clear e4 e6 hS;rintro k w4 ⟨hk,hT,hS,e6,e4⟩;by_cases hlt:k<(l.drop 1).length;have dM:SlV [] w4 dv (l.drop 1):=by
  have h:=(hs.up hS).slc (l:=1) (r:=l.length) aV (Xn _);rw [Xp] at h;rw [ri];exact h
 have bH:k+1<l.length:=by omega
 have dw:(l.drop 1)[k]=l[k+1]:=by simp
 have hstep:Z2q l (k+1)=if l[k+1].day<(Z2q l k).day then l[k+1] else Z2q l k:=by rw [Z2q,show l.getD (k+1) ⟨0,0,0⟩=l[k+1] by simp [bH]]
 generalize Z2q l k=m at *;refine QO ?_;rw [dw];refine Z0 Z2 rfl ?_;rintro _ w5 ⟨b8,rfl,eO,e8,hA⟩;refine SA (us:=Z3.enc l[k+1]) e8 ?_;rintro _ w6 ⟨dl,e8⟩;replace hA:=hA.ow dl;replace e4:=e4.up hA;replace e6:=e6.up hA;replace hS:=hS.trans hA;replace hT:=hT.trans hA.mn;clear hA dl dM;refine W ?_;refine CP hS (Znu l[k+1] m _) λw7 hA hS=>?_;replace e4:=e4.up hA;replace e6:=e6.up hA;replace e8:=e8.up hA;replace hT:=hT.trans hA.mn;clear hA;have bU:cmI l[k+1].day m.day<0↔l[k+1].day<m.day:=by unfold cmI;split<;>(try split)<;>omega
 by_cases hc:l[k+1].day<m.day;rw [if_pos hc] at hstep;have hc':=bU.2 hc;refine QO ?_;refine SA (us:=Z3.enc l[k+1]) e6 ?_;rintro _ w8 ⟨hA,e6⟩;replace e4:=e4.ext hA (by simpa using n46);refine QO ?_;exact QL (k+1) ⟨by omega,hT.trans hA,hS.ow hA,by rw [hstep];exact e6,e4⟩ (by omega);rw [if_neg hc] at hstep;have hc':=λh=>hc (bU.1 h);refine QO ?_;exact QL (k+1) ⟨by omega,hT,hS,by rw [hstep];exact e6,e4⟩ (by omega);obtain rfl:k=l.length - 1:=by omega
 refine QO ?_;refine SA (us:=Z3.enc (Z2q l (l.length - 1))) e4 ?_;rintro _ w8 ⟨hA,e4⟩;refine QO ?_;refine Zm rfl rfl rfl e4 rfl rfl ?_;exact .mk ⟨rfl,hS.ow hA⟩
structure Znv (l:List Atp) (crrs:List Crr):Prop where
 len:l.length<=65536
 ret:∀ a∈l,Zns a.rets crrs
 crr:∀ a∈l,0<=a.crr/\a.crr<crrs.length
 sent:∀ a∈l,0<=a.sent/\a.sent<=3652058
def svB (crrs:List Crr) (en pa:Int) (a:Atp):Bool:=decide (a.entry=en/\a.party=pa) && (Zb3 a.rets crrs a.sent).2
def ofE (crrs:List Crr) (a:Atp) (k:Nat):Svc:=⟨(Zb3 a.rets crrs a.sent).1,(crrs.getD a.crr.toNat ⟨0,0⟩).extra,k⟩
def ofG (l:List Atp) (crrs:List Crr) (en pa:Int):Nat->List Svc
 | 0=>[]
 | k+1=>ofG l crrs en pa k++if svB crrs en pa (l.getD k default)=true then [ofE crrs (l.getD k default) k] else []
def Z4P (l:List Atp) (crrs:List Crr) (en pa:Int):Svc×Bool:=Z50 (ofG l crrs en pa l.length)
theorem Zff (l:List Atp) (crrs:List Crr) (en pa:Int):∀ k,(ofG l crrs en pa k).length<=k
 | 0=>by simp [ofG]
 | k + 1 => by
   have:=Zff l crrs en pa k;simp only [ofG,Xc];split<;>simp<;>omega
theorem Zkg (a b c:Int) (w):(Instr.build 115 #[(0,.I a),(1,.I b),(2,.I c)]).run Tryz.prog w=.ok (aG (⟨a,b,c⟩:Svc)) w:=by kernel_rfl
theorem Ztg (lv cv:Value) (l:List Atp) (crrs:List Crr) (en pa:Int) (w) (hl:SlV [] w lv l) (nM:SlV [] w cv crrs) (ho:Znv l crrs) :
 CC 49 #[lv,.I en,.I pa,cv] w λr w'=>r=.tuple #[.agg (Z3.enc (Z4P l crrs en pa).1).toArray,.B (Z4P l crrs en pa).2]/\Stp [] w w':=by
 have ai:=ho.len;refine cW4 59 Tryz.func49 ?_;refine W ?_;refine Z0 Z2 rfl ?_;rintro _ w1 ⟨b8,rfl,eO,e8,hS⟩;replace e8:Blk w1 b8 115 (Z3.enc (⟨0,0,0⟩:Svc)):=e8;have fj:=hl.up hS;refine W ?_;refine LP (σ:=Nat×Value) (λq=>[(1,.I en),(2,.I pa),(3,cv),(8,pQ b8),(10,q.2),(15,lv),(16,.I l.length),(17,.I q.1)]) (λq w'=>q.1<=l.length/\ZI 115 w1 w' q.2 (ofG l crrs en pa q.1)) (λq=>l.length - q.1) (0,.N) ⟨by omega,ZI.nil⟩ ?_;rintro ⟨k,rv⟩ w2 ⟨hk,hr⟩;dsimp only at hk hr ⊢;by_cases hlt:k<l.length
 . have dV:=fj.up hr.2
   obtain ⟨cs,⟨tv,rfl,ht⟩,an⟩:=dV.cell hlt;have hstep:ofG l crrs en pa (k+1)=ofG l crrs en pa k++if svB crrs en pa l[k]=true then [ofE crrs l[k] k] else []:=by rw [ofG,show l.getD k default=l[k] by simp [hlt]]
   have cT:=Zff l crrs en pa k;have lq:=ho.ret _ (Xd hlt);have iX:=ho.crr _ (Xd hlt);have ec:=ho.sent _ (Xd hlt);refine QO ?_;refine Z8 (Z25 rfl rfl dV hlt ⟨tv,rfl,ht⟩ an) rfl ?_;refine Z0 Z2 rfl ?_;rintro _ w3 ⟨b12,rfl,fW,e12,hA⟩;refine W ?_;refine SB (us:=atC l[k] tv) (Z5.one (x:=l[k]) (w:=w2) (X:=[]) ⟨tv,rfl,ht⟩) e12 ?_;rintro _ w4 ⟨dl,e12⟩;replace hA:=hA.ow dl;replace hr:=hr.up hA;replace ht:=ht.up hA;clear hA dl dV an;have fq:SlV [] w4 cv crrs:=(nM.up hS).up hr.2;have skip:svB crrs en pa l[k]=false->ofG l crrs en pa (k+1)=ofG l crrs en pa k:=λh=>by rw [hstep,h,if_neg (by simp),XC]
   repeat'(first|refine W1 ?_|omega|refine VG ?_ ?_<;>intro hg|refine VC ?_ ?_<;>intro hc)
   all_goals try exact QL (k+1,rv) ⟨hlt,by rw [skip (by simp only [svB,Bool.and_eq_false_iff,decide_eq_false_iff_not];exact .inl (λh=>by omega))];exact hr⟩ (by dsimp only;omega)
   refine CP (Stp.refl [] w4) (Zeb tv cv l[k].rets crrs l[k].sent _ ht fq lq ec) λw5 hA _=>?_;replace hr:=hr.up hA;replace e12:=e12.up hA;replace fq:=fq.up hA;clear hA ht;unfold svB at hstep skip;unfold ofE at hstep;generalize Zb3 l[k].rets crrs l[k].sent=sv at *;obtain ⟨d,ok⟩:=sv;cases ok with
   | false=>
     dsimp only at skip ⊢;refine QO ?_;exact QL (k+1,rv) ⟨hlt,by rw [skip (by simp)];exact hr⟩ (by dsimp only;omega)
   | true=>
     rw [if_pos (by simp only [Ybk,decide_eq_true_eq];constructor<;>omega)] at hstep;obtain ⟨j,hj⟩:∃ j:Nat,l[k].crr=j:=⟨l[k].crr.toNat,by omega⟩
     have fD:j<crrs.length:=by omega
     rw [hj,show crrs.getD ((j:Int).toNat) ⟨0,0⟩=crrs[j] by simp [fD]] at hstep;dsimp only at hstep ⊢;refine QO ?_;refine Z7 (vs:=[(0,.I d),(1,.I crrs[j].extra),(2,.I k)]) rfl (Zkg _ _ _) rfl ?_;refine AP1 (⟨d,crrs[j].extra,k⟩:Svc) hr (by omega) λv1 v' w' bN _=>?_
     refine QO ?_;exact QL (k+1,v') ⟨hlt,by rw [hstep];exact bN⟩ (by dsimp only;omega)
 obtain rfl:k=l.length:=by omega
 have eZ:SlV [] w2 rv (ofG l crrs en pa l.length):=hr.slv (by simp);replace e8:=e8.up hr.2;replace hS:=hS.trans hr.2;clear hr;unfold Z4P;refine QO ?_;refine CP hS (Zkf rv _ _ eZ) λw3 hT hS=>?_;replace e8:=e8.up hT;refine W ?_;refine SA (us:=Z3.enc (Z50 (ofG l crrs en pa l.length)).1) e8 ?_;rintro _ w4 ⟨hA,e8⟩;refine W ?_;refine Zm rfl rfl rfl e8 rfl rfl ?_;exact .mk ⟨rfl,hS.ow hA⟩
theorem Zkh (a b c:Int) (w):(Instr.build 67 #[(0,.I a),(1,.I b),(2,.I c)]).run Tryz.prog w=.ok (aG (⟨a,b,c⟩:Rsn)) w:=by kernel_rfl
structure Nte (w0:World) (bd:Nat) (w:World) (d:Dln) (rv:Value):Prop where
 blk:Blk w bd 56 (dlC d rv)
 row:Row [bd] w w0.heap.size 67 rv d.reas
 stp:Stp [bd] w0 w
 lt:bd<w0.heap.size
 len:d.reas.length<=100000
theorem Z2Q (w0:World) (bd:Nat) (d:Dln) (rv:Value) (k a b:Int) (w) (h:Nte w0 bd w d rv) (hl:d.reas.length+1<=100000) :
 CC 53 #[.I k,.I a,.I b,pQ bd] w λr w'=>∃ rv',Nte w0 bd w' { d with reas:=d.reas++[⟨k,a,b⟩] } rv'/\Stp (bd :: ob rv) w w'/\∀ b∈ob rv',b∈ob rv\/w.heap.size<=b:=by
 obtain ⟨e3,hr,hS,hlt,ai⟩:=h;refine cW4 16 Tryz.func53 ?_;refine W ?_;refine Z7 (vs:=[(0,.I k),(1,.I a),(2,.I b)]) rfl (Zkh _ _ _) rfl ?_;refine APR (X:=[bd]) (base:=w0.heap.size) (⟨k,a,b⟩:Rsn) hr (λc hc=>by have:=hS.size;simp at hc;omega) hS.size (by omega) λv1 v' w1 bN hT br=>?_
 have e3':Blk w1 bd 56 (dlC d rv):=e3.ext hT (λhb=>by have:=(hr.ob_le bd hb).1;omega);refine W ?_;have ax:SlV [bd] w1 v' (d.reas++[⟨k,a,b⟩]):=bN.slv (λc hc=>by simp at hc;omega);refine Z6 (Zb (u:=v') rfl rfl ax.cells ax.one e3' (by simp)) ?_;rintro _ w2 ⟨ar,e3''⟩;refine W ?_;refine WR ?_;refine .mk ⟨v',⟨e3'',bN.ext ar (λc hc=>?_) (λc hc=>.inl hc),?_,hlt,by simp;omega⟩,(hT.mono (λc hc=>by simp [hc])).trans ar.mn,br⟩;simp only [Xi] at hc;subst hc;exact ⟨by simp,λh=>by have:=(bN.ob_le c h).1;omega⟩;refine (hS.own hT (λc hc=>.inr (hr.ob_le c hc).1)).trans ar
def ZgD (els:Str) (d:Dln):Fct:=⟨d.trig.entry,els,max d.due d.trig.day+1,d.trig.to_,d.trig.by_,d.trig.amt⟩
def ZcB (c:Cas) (d:Dln) (r:Nat):Fct×Bool:=(ZgD (c.ruls.getD r crZ).els d,decide (d.stat=2/\(c.ruls.getD r crZ).els≠[]/\max d.due d.trig.day+1<=c.today))
theorem Zki (a:Int) (s:Str) (b c d e:Int) (w):(Instr.build 45 #[(0,.I a),(1,str s),(2,.I b),(3,.I c),(4,.I d),(5,.I e)]).run Tryz.prog w=.ok (aG (⟨a,s,b,c,d,e⟩:Fct)) w:=by kernel_rfl
theorem ZcC (c:Cas) (R:Z0X) (d:Dln) (dv:Value) (r:Nat) (w) (hs:SlV [] w R.rv c.ruls) (hd:SlV [] w dv d.reas) (hr:r<c.ruls.length) (hb:-1000000000<=d.due/\d.due<=1000000000/\-1000000000<=d.trig.day/\d.trig.day<=1000000000) :
 CC 47 #[.agg (Jl c R).toArray,.agg (dlC d dv).toArray,.I r] w λv w'=>v=.tuple #[.agg (Z3.enc (ZcB c d r).1).toArray,.B (ZcB c d r).2]/\Stp [] w w':=by
 unfold ZcB;rw [show c.ruls.getD r crZ=c.ruls[r] by simp [hr]];refine cW3 49 Tryz.func47 ?_;refine W ?_;refine BX (Stp.refl [] w) λb3 w1 h3 e3 _ hS=>?_;replace e3:Blk w1 b3 37 (Jl c R):=e3;refine BX hS λb4 w2 h4 e4 hT hS=>?_;replace e4:Blk w2 b4 56 (dlC d dv):=e4;replace e3:=e3.up hT;have l3:=e3.lt;have l4:=e4.lt;refine W ?_;refine Z0 Z2 rfl ?_;rintro _ w3 ⟨b6,rfl,eh,e6,hT⟩;have n36:b3≠b6:=by omega
 have n46:b4≠b6:=by omega
 have g6:w.heap.size<=b6:=Xh hS.size eh;replace e3:=e3.up hT;replace e4:=e4.up hT;replace hS:=hS.trans hT;clear hT;refine W ?_;refine Z8 (Zl (us:=Z3.enc d.trig) rfl rfl e4 rfl rfl) rfl ?_;refine Z0 Z2 rfl ?_;rintro _ w4 ⟨b8,rfl,eO,e8,hT⟩;refine SA (us:=Z3.enc d.trig) e8 ?_;rintro _ w5 ⟨ar,e8⟩;replace hT:=hT.ow ar;replace e3:=e3.up hT;replace e4:=e4.up hT;have l6:=e6.lt;replace e6:=e6.up hT;replace hS:=hS.trans hT;have n68:b6≠b8:=λh=>by subst h;exact absurd l6 (Nat.not_lt.2 eO)
 clear hT ar;refine W ?_;refine ZDr 23 [] [22] [(0,0),(1,1),(2,0),(3,1),(4,0),(5,0),(6,0),(7,1),(8,0),(9,1),(10,0),(11,1),(12,0),(13,0),(14,0),(15,1),(16,0),(17,1),(18,0),(19,1),(20,0),(21,2),(22,2)] (λw1 ae=>?_);replace e3:=e3.up ae;replace e4:=e4.up ae;replace e6:=e6.up ae;replace e8:=e8.up ae;replace hS:=hS.trans ae;clear ae;have eZ:=hs.up hS;obtain ⟨cs,⟨kc,kd,rfl,-,-⟩,an⟩:=eZ.cell hr;have hf:w1.cell? (ZD R.rv r 7 6)=some (str c.ruls[r].els):=an 6 _ rfl;repeat'(first|refine D1 ?_|omega|refine JS rfl (by first|exact trivial|exact rfl) rfl rfl (by assumption) rfl ?_|refine Zk rfl rfl rfl rfl (λhg=>?_) (λhg=>?_)|(refine Zh rfl rfl rfl rfl (λhg=>?_) (λhg=>?_)<;>refine D1 ?_)|fail)
 refine Z2G rfl trivial (vs:=[(0,.I d.trig.entry),(1,str c.ruls[r].els),(2,.I (max d.due d.trig.day+1)),(3,.I d.trig.to_),(4,.I d.trig.by_),(5,.I d.trig.amt)]) rfl (Zki _ _ _ _ _ _) rfl ?_;refine Za rfl trivial Z2 (λ_ _ h=>h.choose_spec.2.2.2) rfl ?_;rintro _ w6 ⟨b9,rfl,iI,e9,hT⟩;refine ZO rfl trivial (Zj (us:=Z3.enc (ZgD c.ruls[r].els d)) rfl rfl rfl rfl (Z3.one _) e9 rfl) rfl ?_;rintro _ w7 ⟨ar,e9⟩;replace hT:=hT.ow ar;have l6':=e6.lt;have n69:b6≠b9:=by omega
 replace e3:=e3.up hT;replace e4:=e4.up hT;replace e6:=e6.up hT;replace hS:=hS.trans hT;clear hT ar eZ an hf e8;refine D ?_;refine W ?_;replace e9:Blk w7 b9 45 (Z3.enc (ZgD c.ruls[r].els d)):=e9;have bF:(ZgD c.ruls[r].els d).kind=c.ruls[r].els/\(ZgD c.ruls[r].els d).day=max d.due d.trig.day+1:=⟨rfl,rfl⟩
 obtain ⟨v1,v2⟩:=bF;generalize ZgD c.ruls[r].els d=F at *;rw [<- v1,<- v2];clear v1 v2;refine Ju (σ:=Unit) (λ_=>[(6,pQ b6),(7,.B (decide (d.stat=2/\F.kind≠[]/\F.day<=c.today)))]) (λ_ w'=>Stp [] w w'/\Blk w' b6 45 (Z3.enc F)) ?_ ?_
 . refine ZDr 18 ([b6]) [] [(0,1),(1,0),(2,1),(3,0),(4,0),(5,0),(6,1),(7,0),(8,0),(9,0),(10,0),(11,1),(12,0),(13,1),(14,0),(15,0),(16,2),(17,0)] (λw1 ae=>?_)
   replace e3:=e3.up ae;replace e4:=e4.up ae;replace e6:=e6.up ae;replace e9:=e9.up ae;replace hS:=hS.trans ae;clear ae;repeat'(first|refine D1 ?_|omega|refine Zk rfl rfl rfl rfl (λhg=>?_) (λhg=>?_)|(refine Zh rfl rfl rfl rfl (λhg=>?_) (λhg=>?_)<;>refine D1 ?_)|fail)
   all_goals
    refine Z0s rfl trivial (Zj (us:=Z3.enc F) rfl rfl rfl rfl (Z3.one _) e6 rfl) (λ_ _ h=>h.1) ?_;rintro _ wz ⟨hT,e6⟩;refine D ?_;refine Zy () ⟨rfl,?_,trivial⟩ ⟨hS.ow hT,e6⟩;show some (Value.bool _)=some (Value.bool _);congr 2
    first
     | (symm;exact decide_eq_false (λh=>by first|exact absurd h.1 (by assumption)|exact absurd h.2.1 (by assumption)))
     | (rw [decide_eq_decide];exact ⟨λh=>⟨by assumption,by assumption,h⟩,λh=>h.2.2⟩)
 rintro _ w8 ⟨hS,e6⟩;refine W ?_;refine Zm rfl rfl rfl e6 rfl rfl ?_;exact .mk ⟨rfl,hS⟩
end Go.Proofs.YtipfkbkkndacjaaGreatDoor
