/-
Contracts and plain laws, merged out of own texts.
-/
import Derived.Test.YtipfkbkkndacjaaGreatDoorR3
import Derived.Shelf.SlSortCmp.NoneTotal
import Derived.Laws.CopyRow
import Derived.Test.YtipfkbkkndacjaaGreatDoorShl3
import Derived.Recover
import Derived.RangeFuncLeaves
import Derived.RangeFuncCalls
import Derived.RangeFuncSeq
import Derived.OrdersIn
set_option linter.unusedVariables false
set_option linter.unusedSimpArgs false
set_option maxHeartbeats 4000000
set_option maxRecDepth 20000
namespace Go.Eng
open Go Go.RowKit
variable {X:List Nat} {w w':World} {base T:Nat} {v:Value} {zs ys:List Int}
def Zjh (w:World) (base T:Nat) (v:Value) (zs:List Int):Prop:=(v=.N/\zs=[])\/∃ g cap cur,v=.slice (some ⟨g,0,none⟩) zs.length cap/\base<=g/\w.heap[g]?=some (.cells cur T (0,0))/\zs.length<=cap/\cap<=maxLen/\cur.size=cap/\cur.toList.take zs.length=zs.map (Value.int .i64)
theorem Row.toI (h:Row X w base T v zs):Zjh w base T v zs:=by
 obtain ⟨css,hl,hr,hx,ho⟩:=h;have hc:css=zs.map (λx=>[Value.int .i64 x]):=by
  apply Yay (by simpa using hl);intro i h1 h2;have:css[i]=[Value.int .i64 zs[i]]:=hr i (by omega) h1;simp [this]
 rcases ho with ⟨rfl,hn⟩|⟨g,cap,cur,rfl,hb,hg,cM,bU,aV,ht⟩
 exact .inl ⟨rfl,Xv.1 hn⟩
 . refine .inr ⟨g,cap,cur,rfl,hb,hg,cM,bU,by simpa [Z5.k,Z3.k] using aV,?_⟩
   have h2:cur.toList.take (zs.length * 1)=css.flatten:=ht;rw [YaM] at h2;rw [h2,hc];clear h2 ht hx hr hl hc cM hg aV
   induction zs with
   | nil=>rfl
   | cons a l ih=>simp at ih ⊢;exact ih
theorem Zjh.toRow (h:Zjh w base T v zs):Row X w base T v zs:=by
 rcases h with ⟨rfl,rfl⟩|⟨g,cap,cur,rfl,hb,hg,cM,bU,aV,ht⟩
 exact Row.nil
 . refine ⟨zs.map (λx=>[Value.int .i64 x]),by simp,λi h1 h2=>by simp;rfl,?_⟩
   have hf:(zs.map (λx=>[Value.int .i64 x])).flatten=zs.map (Value.int .i64):=by
    clear ht cM
    induction zs with
    | nil=>rfl
    | cons a l ih=>simp at ih ⊢;exact ih
   rw [hf];refine ⟨by simp [Z5.k,Z3.k],.inr ⟨g,cap,cur,rfl,hb,hg,cM,bU,by simpa [Z5.k,Z3.k] using aV,by simpa [Z5.k,Z3.k] using ht⟩⟩
theorem Zat {zs:List Int} (hs:zs.Pairwise (·<=·)):(Lib.compact zs).Pairwise (· < ·)/\∀ y,y∈Lib.compact zs↔y∈zs:=by
 have hd:∀ i j,i<=j->j<zs.length->zs.toArray[i]!<=zs.toArray[j]!:=by
  intro i j dC hj;rcases Nat.lt_or_eq_of_le dC with h|rfl
  have:=Yak.1 hs i j (by omega) hj h;simpa [getElem!_pos,hj,show i<zs.length by omega] using this;exact YaU _
 have key:∀ m,m<=zs.length->(Lib.compactUpTo zs.toArray m).Pairwise (· < ·)/\∀ y,y∈Lib.compactUpTo zs.toArray m↔∃ i,i<m/\y=zs.toArray[i]!:=by
  intro m
  induction m with
  | zero=>intro _;refine ⟨by simp [Lib.compactUpTo],λy=>by simp [Lib.compactUpTo]⟩
  | succ m ih=>
    intro hm;obtain ⟨i1,i2⟩:=ih (by omega);rw [Lib.compactUpTo_succ];by_cases hk:Lib.keeps zs.toArray m=true;rw [if_pos hk];refine ⟨Ybg.2 ⟨i1,List.pairwise_singleton _ _,λa ha b hb=>?_⟩,λy=>?_⟩;obtain ⟨i,hi,rfl⟩:=(i2 a).1 ha;rw [Xl.1 hb];have oN:m=0\/zs.toArray[m]!≠zs.toArray[m - 1]!:=by simpa [Lib.keeps] using hk
    have h1:=hd i (m - 1) (by omega) (by omega);have h2:=hd (m - 1) m (by omega) (by omega);have h3:=oN.resolve_left (by omega);omega;rw [Xh,i2,Xl];constructor;rintro (⟨i,hi,rfl⟩|rfl);exact ⟨i,by omega,rfl⟩;exact ⟨m,by omega,rfl⟩;rintro ⟨i,hi,rfl⟩;by_cases cA:i<m;exact .inl ⟨i,cA,rfl⟩;exact .inr (by rw [show i=m by omega]);rw [if_neg hk,XH];have oN:¬ (m=0\/zs.toArray[m]!≠zs.toArray[m - 1]!):=by simpa [Lib.keeps] using hk
    have jL:m≠0:=λh=>oN (.inl h);have he:zs.toArray[m]! = zs.toArray[m - 1]!:=Decidable.byContradiction λh=>oN (.inr h);refine ⟨i1,λy=>?_⟩;rw [i2];constructor;rintro ⟨i,hi,rfl⟩;exact ⟨i,by omega,rfl⟩;rintro ⟨i,hi,rfl⟩;by_cases cA:i<m;exact ⟨i,cA,rfl⟩;exact ⟨m - 1,by omega,by rw [show i=m by omega,he]⟩
 obtain ⟨h1,h2⟩:=key zs.length (Xn _);refine ⟨h1,λy=>?_⟩;show y∈Lib.compactUpTo zs.toArray zs.length↔_;rw [h2];constructor;rintro ⟨i,hi,rfl⟩;simp [getElem!_pos,hi];intro h;obtain ⟨i,hi,rfl⟩:=Xr h;exact ⟨i,hi,by simp [getElem!_pos,hi]⟩
def Z3b (zs:List Int):List Int:=Lib.compact (zs.mergeSort λx y=>decide (x<=y))
theorem Z30 (zs:List Int):(Z3b zs).Pairwise (· < ·)/\∀ y,y∈Z3b zs↔y∈zs:=by
 have hp:(zs.mergeSort λx y=>decide (x<=y)).Pairwise (·<=·):=by
  have:=List.pairwise_mergeSort (le:=λ(x y:Int)=>decide (x<=y)) (λa b c h1 h2=>by simp at *;omega) (λa b=>by simp;omega) zs;exact this.imp (λh=>by simpa using h)
 obtain ⟨h1,h2⟩:=Zat hp;exact ⟨h1,λy=>by unfold Z3b;rw [h2];exact (List.mergeSort_perm zs _).mem_iff⟩
theorem ZbM {g q:Nat} {cur:Array Value} (os:Array Obj) (h:w.heap[g]?=some (.cells cur T (0,0))) (hl:ys.length<=cur.size) :
 Stp [g] w (Go.Sort.grow (Go.Sort.putRow (Value.int .i64) (Go.Sort.ahead w q) g 0 ys.toArray) os)/\
 ∃ cur',(Go.Sort.grow (Go.Sort.putRow (Value.int .i64) (Go.Sort.ahead w q) g 0 ys.toArray) os).heap[g]?=some (.cells cur' T (0,0))/\cur'.size=cur.size/\cur'.toList.take ys.length=ys.map (Value.int .i64):=by
 have hlt:g<w.heap.size:=(Xk.1 h).1;have hh:(Go.Sort.grow (Go.Sort.putRow (Value.int .i64) (Go.Sort.ahead w q) g 0 ys.toArray) os).heap=w.heap.modify g (Go.Sort.onCells (Go.Sort.putCells (Value.int .i64) 0 ys.toArray))++os:=rfl;refine ⟨⟨rfl,rfl,rfl,by rw [hh];simp,λb hb hn=>?_⟩,Go.Sort.putCells (Value.int .i64) 0 ys.toArray cur,?_,by simp [Go.Sort.putCells],?_⟩;rw [hh,XU (by simpa using hb),YaR,if_neg (by simp at hn;exact λe=>hn e.symm)];rw [hh,XU (by simpa using hlt),YaR,if_pos rfl,h];rfl;apply Yay;simp [Go.Sort.putCells];omega;intro i h1 h2;have hi:i<ys.length:=by simpa using h2
 simp [Go.Sort.putCells,hi]
theorem Z9l {g:Nat} {cur:Array Value} (h:w.heap[g]?=some (.cells cur T (0,0))) (ht:cur.toList.take zs.length=zs.map (Value.int .i64)):Go.Sort.Holds (Value.int .i64) w g 0 zs.toArray:=by
 intro j hj;have fZ:j<zs.length:=by simpa using hj
 have hc:cur[j]?=some (.I zs[j]):=by
  have h1:(cur.toList.take zs.length)[j]?=some (.I zs[j]):=by rw [ht];simp [fZ]
  rw [Yae,if_pos fZ] at h1;simpa using h1
 constructor;simp [World.cell?,h,hc,fZ];simp [World.frozen?,h]
end Go.Eng
namespace Go.Proofs.YtipfkbkkndacjaaGreatDoor
open Go Go.Eng Go.RowKit
theorem ZbN {X:List Nat} {base T:Nat} {v:Value} {zs:List Int} (w) (h:Row X w base T v zs) (bE:zs.length<4611686018427387904) :
 CC 259 #[v] w λr w'=>r=.tuple #[]/\Row X w' base T v (zs.mergeSort λx y=>decide (x<=y))/\Stp (ob v) w w':=by
 rcases h.toI with ⟨rfl,rfl⟩|⟨g,cap,cur,rfl,hb,hg,cM,bU,aV,ht⟩
 refine (Tryz.slices_Sort_int_none none 0 w).mono ?_;rintro _ _ ⟨rfl,rfl⟩;exact .mk ⟨rfl,by simpa using Row.nil,Stp.refl _ _⟩;have hlt:g<w.heap.size:=(Xk.1 hg).1;refine (Tryz.slices_Sort_int g 0 cap zs w (Z9l hg ht) hlt bE).mono ?_;rintro _ _ ⟨rfl,q,os,rfl⟩;have hl:(zs.mergeSort λx y=>decide (x<=y)).length=zs.length:=Ybd zs;obtain ⟨hS,cur',h1,h2,h3⟩:=ZbM (q:=q) os hg (ys:=zs.mergeSort λx y=>decide (x<=y)) (by omega);refine .mk ⟨rfl,Zjh.toRow (.inr ⟨g,cap,cur',by rw [hl],hb,h1,by omega,bU,by omega,h3⟩),hS⟩
theorem Z6L {X:List Nat} {base T:Nat} {v:Value} {zs:List Int} (w) (h:Row X w base T v zs) (bE:zs.length<=9223372036854775807) :
 CC 260 #[v] w λr w'=>Row X w' base T r (Lib.compact zs)/\Stp (ob v) w w'/\ob r=ob v:=by
 rcases h.toI with ⟨rfl,rfl⟩|⟨g,cap,cur,rfl,hb,hg,cM,bU,aV,ht⟩
 refine (Tryz.slices_Compact_int_empty none 0 w).mono ?_;rintro _ _ ⟨rfl,rfl⟩;exact .mk ⟨by rw [show Lib.compact ([]:List Int)=[] from rfl];exact Row.nil,Stp.refl _ _,rfl⟩;refine (Tryz.slices_Compact_int g 0 cap zs w (Z9l hg ht) bE cM).mono ?_;rintro _ _ ⟨rfl,q,rfl⟩;have bZ:(Lib.compact zs).length<=zs.length:=by
  unfold Lib.compact Lib.compactUpTo;rw [Xs];exact Xg (XW _ _) (by simp)
 have e:∀ W:World,W=Go.Sort.grow W #[]:=λW=>by simp [Go.Sort.grow]
 rw [e (Go.Sort.putRow _ _ _ _ _)];obtain ⟨hS,cur',h1,h2,h3⟩:=ZbM (q:=q) #[] hg (ys:=Lib.compact zs++List.replicate (zs.length - (Lib.compact zs).length) 0) (by simp;omega);refine .mk ⟨Zjh.toRow (.inr ⟨g,cap,cur',rfl,hb,h1,by omega,bU,by omega,?_⟩),hS,rfl⟩;have h4:=congrArg (List.take (Lib.compact zs).length) h3;rw [YaA,Yad (by simp)] at h4;rw [h4];simp
theorem Z81 (s:Str) (y:Int):((ZO s).2.2=true/\y=(ZO s).1)↔∃ i,i<7/\s=Ze.getD i []/\y=(i:Int):=by
 by_cases h0:s=[100,97,121]
 subst h0;have e:ZO [100,97,121]=(0,3,true):=by decide +kernel
 have u:∀ i,i<7->[100,97,121]=Ze.getD i []->i=0:=by decide +kernel
 rw [e];constructor;rintro ⟨-,rfl⟩;exact ⟨0,by decide,by decide +kernel,rfl⟩;rintro ⟨i,hi,he,rfl⟩;rw [u i hi he];exact ⟨rfl,rfl⟩;by_cases h1:s=[115,101,114,118,101,100]
 subst h1;have e:ZO [115,101,114,118,101,100]=(1,3,true):=by decide +kernel
 have u:∀ i,i<7->[115,101,114,118,101,100]=Ze.getD i []->i=1:=by decide +kernel
 rw [e];constructor;rintro ⟨-,rfl⟩;exact ⟨1,by decide,by decide +kernel,rfl⟩;rintro ⟨i,hi,he,rfl⟩;rw [u i hi he];exact ⟨rfl,rfl⟩;by_cases h2:s=[101,120,116,114,97]
 subst h2;have e:ZO [101,120,116,114,97]=(2,1,true):=by decide +kernel
 have u:∀ i,i<7->[101,120,116,114,97]=Ze.getD i []->i=2:=by decide +kernel
 rw [e];constructor;rintro ⟨-,rfl⟩;exact ⟨2,by decide,by decide +kernel,rfl⟩;rintro ⟨i,hi,he,rfl⟩;rw [u i hi he];exact ⟨rfl,rfl⟩;by_cases h3:s=[98,121]
 subst h3;have e:ZO [98,121]=(3,1,true):=by decide +kernel
 have u:∀ i,i<7->[98,121]=Ze.getD i []->i=3:=by decide +kernel
 rw [e];constructor;rintro ⟨-,rfl⟩;exact ⟨3,by decide,by decide +kernel,rfl⟩;rintro ⟨i,hi,he,rfl⟩;rw [u i hi he];exact ⟨rfl,rfl⟩;by_cases h4:s=[116,111]
 subst h4;have e:ZO [116,111]=(4,1,true):=by decide +kernel
 have u:∀ i,i<7->[116,111]=Ze.getD i []->i=4:=by decide +kernel
 rw [e];constructor;rintro ⟨-,rfl⟩;exact ⟨4,by decide,by decide +kernel,rfl⟩;rintro ⟨i,hi,he,rfl⟩;rw [u i hi he];exact ⟨rfl,rfl⟩;by_cases h5:s=[99,111,117,114,116]
 subst h5;have e:ZO [99,111,117,114,116]=(5,1,true):=by decide +kernel
 have u:∀ i,i<7->[99,111,117,114,116]=Ze.getD i []->i=5:=by decide +kernel
 rw [e];constructor;rintro ⟨-,rfl⟩;exact ⟨5,by decide,by decide +kernel,rfl⟩;rintro ⟨i,hi,he,rfl⟩;rw [u i hi he];exact ⟨rfl,rfl⟩;by_cases h6:s=[97,109,111,117,110,116]
 subst h6;have e:ZO [97,109,111,117,110,116]=(6,1,true):=by decide +kernel
 have u:∀ i,i<7->[97,109,111,117,110,116]=Ze.getD i []->i=6:=by decide +kernel
 rw [e];constructor;rintro ⟨-,rfl⟩;exact ⟨6,by decide,by decide +kernel,rfl⟩;rintro ⟨i,hi,he,rfl⟩;rw [u i hi he];exact ⟨rfl,rfl⟩;constructor;rintro ⟨h,-⟩;exfalso;have hn:Ze.findIdx? (isS s)=none:=Yab.2 λx hx=>by
  simp only [Ze,Xb,Xj,or_false] at hx;rcases hx with rfl|rfl|rfl|rfl|rfl|rfl|rfl<;>simp only [isS,decide_eq_false_iff_not]<;>intro e<;>first|exact (absurd e h0)|exact (absurd e.symm h0)|exact (absurd e h1)|exact (absurd e.symm h1)|exact (absurd e h2)|exact (absurd e.symm h2)|exact (absurd e h3)|exact (absurd e.symm h3)|exact (absurd e h4)|exact (absurd e.symm h4)|exact (absurd e h5)|exact (absurd e.symm h5)|exact (absurd e h6)|exact (absurd e.symm h6)|skip
 simp [ZO,idx,hn] at h
 . rintro ⟨i,hi,he,-⟩
   exfalso
   match i,hi with
   | 0,_=>exact h0 he
   | 1,_=>exact h1 he
   | 2,_=>exact h2 he
   | 3,_=>exact h3 he
   | 4,_=>exact h4 he
   | 5,_=>exact h5 he
   | 6,_=>exact h6 he
theorem Zji (a o:Str) (k n:Int) (s:Str) (p:Option Addr) (l c:Nat) (k' n':Int) (s':Str) (p':Option Addr) (l' c':Nat) (w):(Instr.build 99 #[(0,str a),(2,str o),(3,.agg #[.I k,.I n,str s,.slice p l c]),(4,.agg #[.I k',.I n',str s',.slice p' l' c'])]).run Tryz.prog w=.ok (.agg #[str a,.I 0,str o,.I k,.I n,str s,.slice p l c,.I k',.I n',str s',.slice p' l' c',str [],str []]) w:=by kernel_rfl
theorem Z6c {x y:Nd} (h:Zd x≠0) (hy:y∈x.kids):Zd y≠0:=by
 intro h0;apply h;rw [Z0E];unfold JB;split;rfl;rw [if_pos (by rw [<- h0];exact Yah hy)]
def Seg (C:List Ins) (p:Nat) (c:List Ins):Prop:=∃ A B,C=A++c++B/\A.length=p
theorem Seg.left {C a b:List Ins} {p:Nat} (h:Seg C p (a++b)):Seg C p a:=by
 obtain ⟨A,B,rfl,hp⟩:=h;exact ⟨A,b++B,by simp,hp⟩
theorem Seg.right {C a b:List Ins} {p:Nat} (h:Seg C p (a++b)):Seg C (p+a.length) b:=by
 obtain ⟨A,B,rfl,hp⟩:=h;exact ⟨A++a,B,by simp,by simp [hp]⟩
theorem Seg.at {C r:List Ins} {x:Ins} {p:Nat} (h:Seg C p (x :: r)):C.getD p ⟨0,0⟩=x:=by
 obtain ⟨A,B,rfl,hp⟩:=h;subst hp;simp
def Z5v (C:List Ins):Nat->Nat->List (Option Shp)->Option (List (Option Shp))
 | _,0,st=>some st
 | p,k+1,st=>(JG st p (C.getD p ⟨0,0⟩)).bind (Z5v C (p+1) k)
theorem Z1l (C:List Ins) (b:Nat):∀ (a p:Nat) (st:List (Option Shp)),Z5v C p (a+b) st=(Z5v C p a st).bind (Z5v C (p+a) b)
 | 0,p,st=>by simp [Z5v]
 | a + 1, p, st => by
   rw [show a+1+b=(a+b)+1 by omega,Z5v,Z5v];cases h:JG st p (C.getD p ⟨0,0⟩) with
   | none=>rfl
   | some st'=>
     simp only [XO];rw [Z1l C b a (p+1) st',show p+1+a=p+(a+1) by omega]
theorem Z3H (C:List Ins) (p:Nat) (st:List (Option Shp)):Z5v C p 1 st=JG st p (C.getD p ⟨0,0⟩):=by
 rw [Z5v];cases JG st p (C.getD p ⟨0,0⟩)<;>rfl
theorem Z9m (C:List Ins) (st:List (Option Shp)):∀ k:Nat,Z3g C k st=Z5v C 0 k st
 | 0=>rfl
 | k + 1 => by
   rw [Z3g,Z1l,Z9m C st k];cases Z5v C 0 k st with
   | none=>rfl
   | some st'=>simp only [XO,XK];rw [Z3H]
def Z2z (C:List Ins) (p:Nat) (c:List Ins) (s s':Shp):Prop:=
 ∀ st : List (Option Shp), st.length = C.length -> p + c.length < C.length -> st[p]? = some (some s) -> (∀ i, p < i -> i < p + c.length -> st[i]? = some none)->
   (st[p+c.length]?=some none\/st[p+c.length]?=some (some s'))->
   ∃ st',Z5v C p c.length st=some st'/\st'.length=C.length/\st'[p+c.length]?=some (some s')/\∀ i,p+c.length<i->st'[i]?=st[i]?
theorem Zau {st:List (Option Shp)} {t:Nat} {sh:Shp} (h:t<st.length) (h2:st[t]?=some none\/st[t]?=some (some sh)) :
 ∃ st',JA st (t:Int) sh=some st'/\st'.length=st.length/\st'[t]?=some (some sh)/\∀ i,i≠t->st'[i]?=st[i]?:=by
 unfold JA;rw [if_pos (by omega),Ybu,XA];rcases h2 with h2|h2
 rw [h2];exact ⟨_,rfl,by simp,by simp [h],λi hi=>List.getElem?_set_ne (λe=>hi e.symm)⟩;rw [h2];simp only [Yax,if_pos];exact ⟨_,rfl,rfl,h2,λ_ _=>rfl⟩
theorem Z2z.app {C a b:List Ins} {p:Nat} {s s1 s2:Shp} (ha:Z2z C p a s s1) (hb:Z2z C (p+a.length) b s1 s2) (h1:a≠[]) (h2:b≠[]):Z2z C p (a++b) s s2:=by
 intro st hl hlt h0 hn hq;have l1:=X8.2 h1;have l2:=X8.2 h2;simp only [Xc] at hlt hn hq ⊢;obtain ⟨st1,r1,e1,e2,e3⟩:=ha st hl (by omega) h0 (λi hi cn=>hn i hi (by omega)) (.inl (hn _ (by omega) (by omega)));obtain ⟨st2,r2,g1,g2,g3⟩:=hb st1 e1 (by omega) e2 (λi hi cn=>by rw [e3 i hi];exact hn i (by omega) (by omega)) (by rw [e3 _ (by omega),Yaq];exact hq);refine ⟨st2,by rw [Z1l,r1];exact r2,g1,by rw [<- Yaq];exact g2,λi hi=>by rw [g3 i (by omega),e3 i (by omega)]⟩
theorem Z5w {C:List Ins} {p:Nat} {x:Ins} {s s':Shp} (hs:Seg C p [x]) (h1:x.op≠24) (h2:x.op≠13) (h3:x.op≠14) (hx:Je x s=some s'):Z2z C p [x] s s':=by
 intro st hl hlt h0 hn hq;simp only [Xe,Xf,XK] at hlt hq ⊢;obtain ⟨st',r1,r2,r3,r4⟩:=Zau (st:=st) (t:=p+1) (sh:=s') (by omega) hq;refine ⟨st',?_,by omega,r3,λi hi=>r4 i (by omega)⟩;rw [Z3H,hs.at];unfold JG;rw [XA,h0];simp only [Yax,hx];rw [if_neg h1,if_neg h2,if_neg h3];exact r1
def Z6M (b:Nat):List Ins->Shp->Option Shp
 | [],s=>some s
 | x :: r, s => match Je x s with
   | none=>none
   | some s'=>if s'.length<=b then Z6M b r s' else none
theorem Z1T {x:Ins} {ts r s:Shp} (h:Je x ts=some r) (hl:s.length+r.length<=16):Je x (s++ts)=some (s++r):=by
 unfold Je at h ⊢;dsimp only at h ⊢;split at h;rename_i hc;obtain ⟨c1,c2,c3,c4⟩:=hc;simp only [XD] at h;have e1:(s++ts).length - (Zz x).1.length=s.length+(ts.length - (Zz x).1.length):=by rw [Xc];omega
 have e2:(s++ts).drop (s.length+(ts.length - (Zz x).1.length))=ts.drop (ts.length - (Zz x).1.length):=by
  rw [List.drop_append,List.drop_of_length_le (by omega),XC];congr 1;omega
 have e3:(s++ts).take (s.length+(ts.length - (Zz x).1.length))=s++ts.take (ts.length - (Zz x).1.length):=by
  rw [Yaw,XJ (by omega),show s.length+(ts.length - (Zz x).1.length) - s.length=ts.length - (Zz x).1.length by omega]
 rw [e1,e2,e3];have e4:s++ts.take (ts.length - (Zz x).1.length)++(Zz x).2.2.1=s++r:=by rw [Xx,h]
 rw [e4,if_pos ⟨c1,by rw [Xc];omega,c3,by rw [Xc];omega⟩];cases h
theorem Z9n {C:List Ins} (b:Nat):∀ (L:List Ins) (p:Nat) (s ts r:Shp),L≠[]->Seg C p L->(∀ x∈L,x.op≠24/\x.op≠13/\x.op≠14)->Z6M b L ts=some r->s.length+b<=16->Z2z C p L (s++ts) (s++r)
 | [],_,_,_,_,h,_,_,_,_=>absurd rfl h
 | [x], p, s, ts, r, _, hs, ho, hf, hb => by
   obtain ⟨o1,o2,o3⟩:=ho x (by simp);unfold Z6M at hf;cases hx:Je x ts with
   | none=>rw [hx] at hf;cases hf
   | some s1=>
     rw [hx] at hf;simp only at hf;split at hf;rename_i hl;simp only [Z6M,XD] at hf;subst hf;exact Z5w hs o1 o2 o3 (Z1T hx (by omega));cases hf
 | x :: y :: L, p, s, ts, r, _, hs, ho, hf, hb => by
   obtain ⟨o1,o2,o3⟩:=ho x (by simp);rw [Z6M] at hf;cases hx:Je x ts with
   | none=>rw [hx] at hf;cases hf
   | some s1=>
     rw [hx] at hf;simp only at hf;split at hf;rename_i hl;have cm:Seg C p ([x]++(y :: L)):=hs;exact Z2z.app (a:=[x]) (Z5w cm.left o1 o2 o3 (Z1T hx (by omega))) (Z9n b (y :: L) _ s s1 r (by simp) cm.right (λz hz=>ho z (by simp [hz])) hf hb) (by simp) (by simp);cases hf
theorem Zav {C Lc Ly Ln:List Ins} {p:Nat} {s s':Shp} (t1 t2:Int)
 (hs:Seg C p (Lc++[⟨14,t1⟩]++Ly++[⟨13,t2⟩]++Ln)) (qG:t1=((p+Lc.length+1+Ly.length+1:Nat):Int)) (ma:t2=((p+Lc.length+1+Ly.length+1+Ln.length:Nat):Int))
 (hc:Z2z C p Lc s (s++[2])) (hy:Z2z C (p+Lc.length+1) Ly s s') (hn:Z2z C (p+Lc.length+1+Ly.length+1) Ln s s') (h1:Lc≠[]) (h2:Ly≠[]) (h3:Ln≠[]) (hl:s.length<=16) (dT:s'.length<=16) :
 Z2z C p (Lc++[⟨14,t1⟩]++Ly++[⟨13,t2⟩]++Ln) s s':=by
 intro st ai hlt h0 bo hq;have l1:=X8.2 h1;have l2:=X8.2 h2;have l3:=X8.2 h3;have dJ:(Lc++[(⟨14,t1⟩:Ins)]++Ly++[(⟨13,t2⟩:Ins)]++Ln).length=Lc.length+(1+(Ly.length+(1+Ln.length))):=by simp only [Xc,Xe,Xf];omega
 rw [dJ] at hlt bo hq ⊢;have g14:C.getD (p+Lc.length) ⟨0,0⟩=⟨14,t1⟩:=(show Seg C (p+Lc.length) (⟨14,t1⟩ :: (Ly++[⟨13,t2⟩]++Ln)) from (show Seg C p (Lc++(⟨14,t1⟩ :: (Ly++[⟨13,t2⟩]++Ln))) by simpa using hs).right).at;have g13:C.getD (p+Lc.length+1+Ly.length) ⟨0,0⟩=⟨13,t2⟩:=by
  have h:=(show Seg C p ((Lc++[⟨14,t1⟩]++Ly)++(⟨13,t2⟩ :: Ln)) by simpa using hs).right.at;rw [<- h];congr 1;simp only [Xc,Xe,Xf];omega
 obtain ⟨st1,r1,e1,e2,e3⟩:=hc st ai (by omega) h0 (λi hi cn=>bo i hi (by omega)) (.inl (bo _ (by omega) (by omega)));have n14:Je ⟨14,t1⟩ (s++[2])=some s:=by
  have:=Z1T (x:=⟨14,t1⟩) (ts:=[2]) (r:=[]) (s:=s) (by simp [Je,Zz]) (by simpa using hl);simpa using this
 obtain ⟨st2,q1,q2,q3,q4⟩:=Zau (st:=st1) (t:=p+Lc.length+1+Ly.length+1) (sh:=s) (by omega) (.inl (by rw [e3 _ (by omega)];exact bo _ (by omega) (by omega)));obtain ⟨st3,u1,u2,u3,u4⟩:=Zau (st:=st2) (t:=p+Lc.length+1) (sh:=s) (by omega) (.inl (by rw [q4 _ (by omega),e3 _ (by omega)];exact bo _ (by omega) (by omega)));have s14:Z5v C (p+Lc.length) 1 st1=some st3:=by
  rw [Z3H,g14];unfold JG;rw [XA,e2];simp only [Yax,n14];rw [if_neg (by simp),if_neg (by simp),if_pos trivial,if_pos (by omega),qG,q1];simp only [XO];rw [<- u1];congr 1
 obtain ⟨st4,v1,v2,v3,v4⟩:=hy st3 (by omega) (by omega) u3 (λi hi cn=>by rw [u4 i (by omega),q4 i (by omega),e3 i (by omega)];exact bo i (by omega) (by omega)) (.inl (by rw [u4 _ (by omega),q4 _ (by omega),e3 _ (by omega)];exact bo _ (by omega) (by omega)));have n13:Je ⟨13,t2⟩ s'=some s':=by
  simp [Je,Zz,dT]
 have oD:st4[p+Lc.length+1+Ly.length+1+Ln.length]?=st[p+(Lc.length+(1+(Ly.length+(1+Ln.length))))]?:=by
  rw [v4 _ (by omega),u4 _ (by omega),q4 _ (by omega),e3 _ (by omega)];congr 1;omega
 obtain ⟨st5,w1,w2,w3,w4⟩:=Zau (st:=st4) (t:=p+Lc.length+1+Ly.length+1+Ln.length) (sh:=s') (by omega) (by rw [oD];exact hq);have s13:Z5v C (p+Lc.length+1+Ly.length) 1 st4=some st5:=by
  rw [Z3H,g13];unfold JG;rw [XA,v3];simp only [Yax,n13];rw [if_neg (by simp),if_pos trivial,if_pos (by omega),ma,w1]
 obtain ⟨st6,x1,x2,x3,x4⟩:=hn st5 (by omega) (by omega) (by rw [w4 _ (by omega),v4 _ (by omega),u4 _ (by omega)];exact q3) (λi hi cn=>by rw [w4 i (by omega),v4 i (by omega),u4 i (by omega),q4 i (by omega),e3 i (by omega)];exact bo i (by omega) (by omega)) (.inr w3);refine ⟨st6,?_,x2,?_,λi hi=>by rw [x4 i (by omega),w4 i (by omega),v4 i (by omega),u4 i (by omega),q4 i (by omega),e3 i (by omega)]⟩;rw [Z1l,r1,XO,Z1l,s14,XO,Z1l,v1,XO,Z1l,s13,XO];exact x1;rw [<- x3];congr 1;omega
theorem Zmp {x:Sig} (h:Z3t x≠0):(x,Value.int .i64 (Z3t x))∈Z3s:=by
 have hs:=Zbf x;unfold Z3t Zfe Z3p at *;cases hf:Z3s.find? (λp=>decide (p.1=x)) with
 | none=>rw [hf] at h;simp at h
 | some p=>
   have h1:=X2 hf;have h2:=Ybk hf;simp only [decide_eq_true_eq] at h2;rw [hf] at hs;simp only at hs ⊢;exact (congrArg (·∈Z3s) (Prod.ext h2 hs:p=(x,_))).mp h1
theorem ZfN {x:Sig} (h:Z3t x≠0):∃ e∈Z3s,x=e.1/\e.2=.I (Z3t x):=⟨_,Zmp h,rfl,rfl⟩
theorem ZnP {ts:List Int} (h0:(0:Int)∉ts) (h3:ts.length<=3) (hn:ts≠[]) (h2:ts.getD 2 0=0):(ts.getD 1 0=0/\ts=[ts.getD 0 0])\/(ts.getD 1 0≠0/\ts=[ts.getD 0 0,ts.getD 1 0]):=by
 match ts,h3 with
 | [],_=>exact absurd rfl hn
 | [a],_=>left;exact ⟨rfl,rfl⟩
 | [a,b],_=>right;refine ⟨λhb=>h0 ?_,rfl⟩;simp at hb;simp [hb]
 | [a,b,c],_=>exact absurd (by simp at h2;simp [h2]) h0
theorem Z6N {k n:Int} {s:Str} {ts:List Int} (h:JB k n s ts≠0) :
 (ts=[]/\JB k n s ts=Z0Z k n s)\/
 ((0:Int)∉ts/\ts.length<=3/\ts≠[]/\((k=9/\ts=[2,JB k n s ts,JB k n s ts])\/(k=6/\ts.getD 2 0=0/\JB k n s ts=Z1O s (ts.getD 0 0) (ts.getD 1 0))\/(JB k n s ts=Z3t ⟨k,s,ts.getD 0 0,ts.getD 1 0,ts.getD 2 0⟩))):=by
 unfold JB at h ⊢;split at h;exact absurd rfl h;rename_i h3;split at h;exact absurd rfl h;rename_i h0;rw [if_neg h3,if_neg h0];split at h;rename_i he
 left;exact ⟨he,by rw [if_pos he]⟩;rename_i he
 right;rw [if_neg he];refine ⟨h0,by omega,he,?_⟩;split at h;exact absurd rfl h;rename_i hn;rw [if_neg hn];split at h
 . rename_i h9
   left;rw [if_pos h9];refine ⟨h9.1,?_⟩;obtain ⟨_,_,e2,e3⟩:=h9
   match ts,h3 with
   | [],_=>exact absurd rfl he
   | [a],_=>simp at e2 e3 h
   | [a,b],_=>simp at e2 e3 h;exact absurd e3 h
   | [a,b,c],_=>simp at e2 e3 ⊢;exact ⟨e2,e3.symm⟩
   | a :: b :: c :: d :: r,h3=>simp at h3
 rename_i h9;rw [if_neg h9];split at h;rename_i h6
 right;left;rw [if_pos h6];exact ⟨h6.1,h6.2,rfl⟩;rename_i h6
 right;right;rw [if_neg h6]
theorem Zmq {α:Type} {l:List α} (h:l.length=2):∃ a b,l=[a,b]:=by
 match l,h with
 | [a,b],_=>exact ⟨a,b,rfl⟩
theorem Zmr {α:Type} {l:List α} (h:l.length=3):∃ a b c,l=[a,b,c]:=by
 match l,h with
 | [a,b,c],_=>exact ⟨a,b,c,rfl⟩
theorem ZbO (x:Nd):Zd x≠0->∀ p,Zc x p≠[]:=by
 induction x using Nd.ind with
 | h k n s l ih=>
 intro ht p;have hk:∀ y∈l,Zd y≠0:=λy hy=>Z6c (x:=.mk k n s l) ht hy;rw [Zc];unfold Z18;have hp:∀ p,l≠[]->Z0y k s (l.map Zc) p≠[]:=by
  intro p hl;unfold Z0y;cases l with
  | nil=>exact absurd rfl hl
  | cons y r=>
    have:=ih y (by simp) (hk y (by simp)) p;simp only [Xy,Jn];intro h;simp only [Yba] at h;exact this h.1.1.1
 split;simp;rename_i hl;have dT:l≠[]:=λh=>hl (by rw [h];rfl)
 split;unfold chC;simp;split;unfold chC;simp;split;unfold chC;simp;split;simp;exact hp p dT
theorem ZbP {C:List Ins}:∀ (l:List Nd),(∀ y∈l,∀ p s,Seg C p (Zc y p)->s.length+Zy y<=16->Z2z C p (Zc y p) s (s++[Zd y]))->(∀ y∈l,∀ p,Zc y p≠[])->
 ∀ p s,l≠[]->Seg C p (Jn (l.map Zc) p)->(∀ y∈l,s.length+(l.length - 1)+Zy y<=16)->Z2z C p (Jn (l.map Zc) p) s (s++l.map Zd)
 | [],_,_,_,_,h,_,_=>absurd rfl h
 | [y], hr, aU, p, s, _, hs, hb => by
   have e:Jn ([y].map Zc) p=Zc y p:=by simp [Jn]
   rw [e] at hs ⊢;exact hr y (by simp) p s hs (by have:=hb y (by simp);simpa using this)
 | y :: z :: l, hr, aU, p, s, _, hs, hb => by
   have e:Jn ((y :: z :: l).map Zc) p=Zc y p++Jn ((z :: l).map Zc) (p+(Zc y p).length):=by simp [Jn]
   rw [e] at hs ⊢;have h1:=hr y (by simp) p s hs.left (by have:=hb y (by simp);omega);have h2:=ZbP (z :: l) (λy hy=>hr y (by simp [hy])) (λy hy=>aU y (by simp [hy])) (p+(Zc y p).length) (s++[Zd y]) (by simp) hs.right (λw hw=>by
    have:=hb w (by simp [hw]);simp only [Xc,Xe,Xf] at this ⊢;omega)
   have h3:Jn ((z :: l).map Zc) (p+(Zc y p).length)≠[]:=by
    simp only [Xy,Jn];intro h;simp only [Yba] at h;exact aU z (by simp) _ h.1
   have:=Z2z.app h1 h2 (aU y (by simp) p) h3;simpa using this
theorem Z1U {C:List Ins} {l:List Nd} {L:List Ins} {p:Nat} {s ts r:Shp} (hr:∀ y∈l,∀ p s,Seg C p (Zc y p)->s.length+Zy y<=16->Z2z C p (Zc y p) s (s++[Zd y])) (aU:∀ y∈l,∀ p,Zc y p≠[])
 (ce:l.map Zd=ts) (hl:l≠[]) (hL:L≠[]) (hs:Seg C p (Jn (l.map Zc) p++L)) (hb:∀ y∈l,s.length+(l.length - 1)+Zy y<=16) (ho:∀ x∈L,x.op≠24/\x.op≠13/\x.op≠14) (hf:Z6M 2 L ts=some r) (h2:s.length+2<=16) :
 Z2z C p (Jn (l.map Zc) p++L) s (s++r):=by
 have h1:=ZbP l hr aU p s hl hs.left hb;rw [ce] at h1;have h3:Jn (l.map Zc) p≠[]:=by
  cases l with
  | nil=>exact absurd rfl hl
  | cons y l=>
    simp only [Xy,Jn];intro h;simp only [Yba] at h;exact aU y (by simp) _ h.1
 exact Z2z.app h1 (Z9n 2 L _ s ts r hL hs.right ho hf h2) h3 hL
def Z3I (k:Int) (s:Str):List Ins:=(if k=8\/k=5/\s=[45] then [⟨8,0⟩] else [])++Z25 (opF s)
theorem Z2A (k:Int) (s:Str) (cs:List Cf) (p:Nat):Z0y k s cs p=Jn cs p++Z3I k s:=by unfold Z0y Z3I;rw [Xx]
def okL (L:List Ins) (ts:List Int) (t:Int):Bool:=decide (L≠[]) && L.all (λx=>decide (x.op≠24/\x.op≠13/\x.op≠14)) && decide (Z6M 2 L ts=some [t])
theorem Z5x {L:List Ins} {ts:List Int} {t:Int} (h:okL L ts t=true):L≠[]/\(∀ x∈L,x.op≠24/\x.op≠13/\x.op≠14)/\Z6M 2 L ts=some [t]:=by
 unfold okL at h;simp only [Xm,decide_eq_true_eq,XZ] at h;exact ⟨h.1.1,h.1.2,h.2⟩
def ZnQ (e:Zik):Bool:=
 match e.2 with
 | .I t=>decide (e.1.kind≠9) && decide (e.1.kind≠6) && decide (e.1.c=0) && okL (Z3I e.1.kind e.1.s) (if e.1.b=0 then [e.1.a] else [e.1.a,e.1.b]) t
 | _=>false
theorem Zms:Z3s.all ZnQ=true:=by decide +kernel
theorem Zjj:Z0Q.all (λs=>okL (Z3I 6 s++(if s=[45] then [⟨6,0⟩] else [])) [1,1] 1 && !decide (s=[97,110,100]) && !decide (s=[111,114]))=true:=by decide +kernel
theorem Zmt:Z24.all (λs=>okL (Z3I 6 s) [1,1] 2 && okL (Z3I 6 s) [3,3] 2 && !decide (s=[97,110,100]) && !decide (s=[111,114]) && !decide (s=[45]))=true:=by decide +kernel
theorem ZfO (C:List Ins) (x:Nd):Zd x≠0->∀ p s,Seg C p (Zc x p)->s.length+Zy x<=16->Z2z C p (Zc x p) s (s++[Zd x]):=by
 induction x using Nd.ind with
 | h k n s l ih=>
 intro ht p sh hs hb;have hk:∀ y∈l,Zd y≠0:=λy hy=>Z6c (x:=.mk k n s l) ht hy;have hr:∀ y∈l,∀ p s,Seg C p (Zc y p)->s.length+Zy y<=16->Z2z C p (Zc y p) s (s++[Zd y]):=λy hy=>ih y hy (hk y hy);have aU:∀ y∈l,∀ p,Zc y p≠[]:=λy hy=>ZbO y (hk y hy);have cS:∀ y∈l,Zy y+1<=Zy (.mk k n s l):=λy hy=>by have:=Zbk (x:=.mk k n s l) hy;omega
 have hrange:=Z3u (.mk k n s l);have kR:Zd (.mk k n s l)=JB k n s (l.map Zd):=Z0E _;rw [Zc] at hs ⊢;rw [kR] at ht hrange ⊢;rcases Z6N ht with ⟨he,hc⟩|⟨h0,h3,lZ,hc⟩
 ·
   have hl:l=[]:=by simpa using he
   subst hl;unfold Z18 at hs ⊢;rw [if_pos (show (List.map Zc ([]:List Nd)).length=0 from rfl)] at hs ⊢;rw [hc] at ht ⊢;have ai:sh.length+1<=16:=by
    have:1<=Zy (.mk k n s []):=by rw [Z0F];omega
    omega
   refine Z5w hs ?_ ?_ ?_ ?_;unfold Z10;split<;>(try split)<;>(try split)<;>simp;unfold Z10;split<;>(try split)<;>(try split)<;>simp;unfold Z10;split<;>(try split)<;>(try split)<;>simp;have dg:Je (Z10 k n s) []=some [Z0Z k n s]:=by
    unfold Z0Z at ht ⊢;unfold Z10;by_cases k4:k=4;subst k4;rw [if_pos rfl] at ht ⊢;split at ht
    . rename_i hn
      rw [if_pos hn];have hf:((ZO s).2.1=3/\((ZO s).1=0\/(ZO s).1=1))\/((ZO s).2.1=1/\2<=(ZO s).1/\(ZO s).1<7):=by
       have h1:(ZO s).2.2=true:=by
        cases hb:(ZO s).2.2 with
        | true=>rfl
        | false=>exact absurd (Z5X hb) ht
       obtain ⟨i,hi,eT,_⟩:=(Z81 s (ZO s).1).1 ⟨h1,rfl⟩;subst eT
       match i,hi with
       | 0,_=>decide +kernel
       | 1,_=>decide +kernel
       | 2,_=>decide +kernel
       | 3,_=>decide +kernel
       | 4,_=>decide +kernel
       | 5,_=>decide +kernel
       | 6,_=>decide +kernel
      rw [if_neg (by decide),if_neg (by decide),if_neg (by decide)];rcases hf with ⟨e1,e2⟩|⟨e1,e2,e3⟩
      simp [Je,Zz,e1,e2];omega;simp [Je,Zz,e1];omega
    exact absurd rfl ht;rw [if_neg k4] at ht ⊢;split at ht;exact absurd rfl ht;rename_i bg;rw [if_neg bg];by_cases k1:k=1;rw [if_pos k1] at ht ⊢;rw [if_pos k1];split at ht;rename_i h;rw [if_pos h];simp [Je,Zz];omega;exact absurd rfl ht;rw [if_neg k1] at ht ⊢;rw [if_neg k1];by_cases k2:k=2;rw [if_pos k2] at ht ⊢;rw [if_pos k2];split at ht;rename_i h;rw [if_pos h];simp [Je,Zz];omega;exact absurd rfl ht;rw [if_neg k2] at ht ⊢;rw [if_neg k2];by_cases k3:k=3;rw [if_pos k3] at ht ⊢;rw [if_pos k3];split at ht;rename_i h;rw [if_pos h];simp [Je,Zz];omega;exact absurd rfl ht;rw [if_neg k3] at ht;exact absurd rfl ht
   have:=Z1T (s:=sh) dg (by simpa using ai);simpa using this
 . have hl:l≠[]:=λh=>lZ (by rw [h];rfl)
   have ai:l.length<=3:=by simpa using h3
   have dJ:¬ (l.map Zc).length=0:=by simpa using hl
   unfold Z18 at hs ⊢;rw [if_neg dJ] at hs ⊢;rcases hc with ⟨h9,ce⟩|⟨h6,vo,dX⟩|tq
   ·
     rw [if_pos h9] at hs ⊢;generalize JB k n s (l.map Zd)=t at *;have ii:l.length=3:=by have:=congrArg List.length ce;simpa using this
     obtain ⟨a,b,c,rfl⟩:=Zmr ii;simp only [Xy,XR,Ybj,and_true] at ce;obtain ⟨ta,tb,tc⟩:=ce;simp only [Xy,XR,XY,Yaj] at hs ⊢;unfold chC at hs ⊢;have na:=cS a (by simp);have nb:=cS b (by simp);have nc:=cS c (by simp);refine Zav _ _ hs rfl rfl ?_ ?_ ?_ (aU a (by simp) _) (aU b (by simp) _) (aU c (by simp) _) (by omega) (by simp only [Xc,Xe,Xf];omega);rw [<- ta];exact hr a (by simp) p sh (by have:=hs.left.left.left.left;exact this) (by omega);rw [<- tb];have h2:=hs.left.left.right;simp only [Xc,Xe,Xf] at h2;exact hr b (by simp) _ sh h2 (by omega);rw [<- tc];have h2:=hs.right;simp only [Xc,Xe,Xf] at h2;have e:p+((Zc a p).length+(0+1)+(Zc b (p+(Zc a p).length+1)).length+(0+1))=p+(Zc a p).length+1+(Zc b (p+(Zc a p).length+1)).length+1:=by omega
     rw [e] at h2;exact hr c (by simp) _ sh h2 (by omega)
   ·
     subst h6;rw [if_neg (by decide)] at hs ⊢;rcases ZnP h0 h3 lZ vo with ⟨lP,ce⟩|⟨lP,ce⟩
     exfalso;apply ht;rw [dX,lP];have np:(l.map Zd).getD 0 0≠0:=λh=>h0 (by rw [ce,h];simp)
     unfold Z1O;split;rw [if_neg (by omega)];split;rw [if_neg (by omega)];split;rw [if_neg (by omega)];rfl;have dR:l.length=2:=by have:=congrArg List.length ce;simpa using this
     obtain ⟨a,b,rfl⟩:=Zmq dR;simp only [Xy,XR,XY,Yaj] at dX;have na:=cS a (by simp);have nb:=cS b (by simp);have ra:=Z3u a;have jr:∀ y∈[a,b],sh.length+([a,b].length - 1)+Zy y<=16:=λy hy=>by
      have:=cS y hy;simp only [Xe,Xf];omega
     have h2:sh.length+2<=16:=by
      have:1<=Zy a:=by rw [Z0F];omega
      omega
     by_cases hA:s∈Z0Q;have aO:=XZ.1 Zjj s hA;simp only [Xm,Bool.not_eq_true',decide_eq_false_iff_not] at aO;obtain ⟨⟨aO,kT⟩,eC⟩:=aO;obtain ⟨o1,o2,o3⟩:=Z5x aO;have cR:Zd a=Zd b/\Zd a=1:=by
      unfold Z1O at dX;rw [if_pos hA] at dX;split at dX;assumption;exact absurd dX ht
     have qG:JB 6 n s ([a,b].map Zd)=1:=by
      show JB 6 n s [Zd a,Zd b]=1;rw [dX];unfold Z1O;rw [if_pos hA,if_pos cR]
     rw [qG];rw [if_neg (by intro h;exact kT h.2),if_neg (by intro h;exact eC h.2)] at hs ⊢;split at hs;rename_i hm;rw [if_pos hm];rw [Z2A,Xx] at hs ⊢;rw [if_pos hm.2] at o1 o2 o3;exact Z1U hr aU (ts:=[1,1]) (by simp [cR.2,<- cR.1]) (by simp) o1 hs jr o2 o3 h2;rename_i hm;rw [if_neg hm];have kl:¬ s=[45]:=λh=>hm ⟨rfl,h⟩;rw [if_neg kl,XH] at o1 o2 o3;rw [Z2A] at hs ⊢;exact Z1U hr aU (ts:=[1,1]) (by simp [cR.2,<- cR.1]) (by simp) o1 hs jr o2 o3 h2;by_cases hC:s∈Z24;have aO:=XZ.1 Zmt s hC;simp only [Xm,Bool.not_eq_true',decide_eq_false_iff_not] at aO;obtain ⟨⟨⟨⟨qH,nq⟩,kT⟩,eC⟩,vp⟩:=aO;have cR:Zd a=Zd b/\¬ Zd a=2:=by
      unfold Z1O at dX;rw [if_neg hA,if_pos hC] at dX;split at dX;assumption;exact absurd dX ht
     have ma:JB 6 n s ([a,b].map Zd)=2:=by
      show JB 6 n s [Zd a,Zd b]=2;rw [dX];unfold Z1O;rw [if_neg hA,if_pos hC,if_pos cR]
     rw [ma];rw [if_neg (by intro h;exact kT h.2),if_neg (by intro h;exact eC h.2),if_neg (by intro h;exact vp h.2),Z2A] at hs ⊢;have ka:=hk a (by simp);have cT:Zd a=1\/Zd a=3:=by omega
     rcases cT with h|h
     obtain ⟨o1,o2,o3⟩:=Z5x qH;exact Z1U hr aU (ts:=[1,1]) (by simp [h,<- cR.1]) (by simp) o1 hs jr o2 o3 h2;obtain ⟨o1,o2,o3⟩:=Z5x nq;exact Z1U hr aU (ts:=[3,3]) (by simp [h,<- cR.1]) (by simp) o1 hs jr o2 o3 h2;have hL:s∈Z0D:=by
      by_cases hL:s∈Z0D;exact hL;exfalso;apply ht;show JB 6 n s [Zd a,Zd b]=0;rw [dX];unfold Z1O;rw [if_neg hA,if_neg hC,if_neg hL]
     have cR:Zd a=Zd b/\Zd a=2:=by
      unfold Z1O at dX;rw [if_neg hA,if_neg hC,if_pos hL] at dX;split at dX;assumption;exact absurd dX ht
     have ma:JB 6 n s ([a,b].map Zd)=2:=by
      show JB 6 n s [Zd a,Zd b]=2;rw [dX];unfold Z1O;rw [if_neg hA,if_neg hC,if_pos hL,if_pos cR]
     rw [ma];have hconst:∀ (z:Int) (q:Nat),(z=0\/z=1)->Seg C q [⟨2,z⟩]->Z2z C q [⟨2,z⟩] sh (sh++[2]):=λz q hz vq=>by
      have dg:Je ⟨2,z⟩ []=some [2]:=by simp [Je,Zz,hz]
      have:=Z1T (s:=sh) dg (by simp only [Xe,Xf];omega);rw [XH] at this;exact Z5w vq (by simp) (by simp) (by simp) this
     simp only [Z0D,Xb,Xj,or_false] at hL;rcases hL with hL|hL
     rw [if_pos ⟨rfl,hL⟩] at hs ⊢;simp only [Xy,XR,XY,Yaj] at hs ⊢;unfold chC at hs ⊢;refine Zav _ _ hs rfl rfl ?_ ?_ ?_ (aU a (by simp) _) (aU b (by simp) _) (by simp) (by omega) (by simp only [Xc,Xe,Xf];omega);have h1:=hr a (by simp) p sh hs.left.left.left.left (by omega);rw [cR.2] at h1;exact h1;have h2:=hs.left.left.right;simp only [Xc,Xe,Xf] at h2;have h1:=hr b (by simp) _ sh h2 (by omega);rw [<- cR.1,cR.2] at h1;exact h1;have h2:=hs.right;simp only [Xc,Xe,Xf] at h2;have e:p+((Zc a p).length+(0+1)+(Zc b (p+(Zc a p).length+1)).length+(0+1))=p+(Zc a p).length+1+(Zc b (p+(Zc a p).length+1)).length+1:=by omega
     rw [e] at h2;exact hconst 0 _ (.inl rfl) h2;have qI:¬ ((6:Int)=6/\s=[97,110,100]):=by rintro ⟨_,h⟩;rw [hL] at h;exact absurd h (by decide)
     rw [if_neg qI,if_pos ⟨rfl,hL⟩] at hs ⊢;simp only [Xy,XR,XY,Yaj] at hs ⊢;unfold chC at hs ⊢;refine Zav _ _ hs rfl rfl ?_ ?_ ?_ (aU a (by simp) _) (by simp) (aU b (by simp) _) (by omega) (by simp only [Xc,Xe,Xf];omega);have h1:=hr a (by simp) p sh hs.left.left.left.left (by omega);rw [cR.2] at h1;exact h1;have h2:=hs.left.left.right;simp only [Xc,Xe,Xf] at h2;exact hconst 1 _ (.inr rfl) h2;have h2:=hs.right;simp only [Xc,Xe,Xf] at h2;have e:p+((Zc a p).length+(0+1)+(0+1)+(0+1))=p+(Zc a p).length+1+(0+1)+1:=by omega
     rw [e] at h2;have h1:=hr b (by simp) _ sh h2 (by omega);rw [<- cR.1,cR.2] at h1;exact h1
   ·
     obtain ⟨e,he,iL,bR⟩:=ZfN (by rw [<- tq];exact ht);have aO:=XZ.1 Zms e he;unfold ZnQ at aO;rw [bR] at aO;simp only [Xm,decide_eq_true_eq] at aO;obtain ⟨⟨⟨k9,k6⟩,gz⟩,kU⟩:=aO;rw [<- iL] at k9 k6 gz kU;simp only at k9 k6 gz kU;obtain ⟨o1,o2,o3⟩:=Z5x kU;rw [if_neg k9,if_neg (by intro h;exact k6 h.1),if_neg (by intro h;exact k6 h.1),if_neg (by intro h;exact k6 h.1),Z2A] at hs ⊢;rw [tq];have ce:l.map Zd=(if (l.map Zd).getD 1 0=0 then [(l.map Zd).getD 0 0] else [(l.map Zd).getD 0 0,(l.map Zd).getD 1 0]):=by
      rcases ZnP h0 h3 lZ gz with ⟨h1,h2⟩|⟨h1,h2⟩
      rw [if_pos h1];exact h2;rw [if_neg h1];exact h2
     have dR:l.length<=2:=by
      have:=congrArg List.length ce;rw [Xs] at this;split at this<;>simp only [Xe,Xf] at this<;>omega
     have h2:sh.length+2<=16:=by
      cases l with
      | nil=>exact absurd rfl hl
      | cons y r=>
        have:=cS y (by simp);have:1<=Zy y:=by rw [Z0F];omega
        omega
     exact Z1U hr aU ce hl o1 hs (λy hy=>by have:=cS y hy;omega) o2 o3 h2
theorem Z9o (y:Nd) (ht:Zd y≠0) (hn:Zy y<=12) (hl:(ZU y).length<=200):Z1t (ZU y)=(Zd y,0):=by
 have aU:=ZbO y ht 0;have aW:=X8.2 aU;unfold ZU at hl ⊢;have ai:(Zc y 0++[(⟨24,0⟩:Ins)]).length=(Zc y 0).length+1:=by simp
 have hr:=ZfO (Zc y 0++[⟨24,0⟩]) y ht 0 [] ⟨[],[⟨24,0⟩],by simp,rfl⟩ (by simp only [Xf];omega);obtain ⟨st,r1,r2,r3,_⟩:=hr ((some []) :: List.replicate ((Zc y 0++[(⟨24,0⟩:Ins)]).length - 1) none) (by simp) (by rw [ai];omega) (by simp) (λi hi cn=>by
  cases i with
  | zero=>omega
  | succ i=>
    rw [YaJ,Ya6,if_pos (by rw [ai];omega)]) (.inl (by
  rw [XK];obtain ⟨m,hm⟩:∃ m,(Zc y 0).length=m+1:=⟨(Zc y 0).length - 1,by omega⟩
  rw [hm,YaJ,Ya6,if_pos (by rw [ai];omega)]))
 rw [XK] at r3;rw [XC] at r3;unfold Z1t;rw [if_neg (by rw [ai] at hl ⊢;omega)];have bj:Z3g (Zc y 0++[⟨24,0⟩]) (Zc y 0++[(⟨24,0⟩:Ins)]).length ((some []) :: List.replicate ((Zc y 0++[(⟨24,0⟩:Ins)]).length - 1) none)=some st:=by
  rw [Z9m]
  conv=>lhs;arg 3;rw [ai]
  rw [Z1l,r1,XO,XK,Z3H];have hg:(Zc y 0++[(⟨24,0⟩:Ins)]).getD (Zc y 0).length ⟨0,0⟩=⟨24,0⟩:=by simp
  rw [hg];unfold JG;rw [XA,r3];have dg:Je ⟨24,0⟩ [Zd y]=some [Zd y]:=by simp [Je,Zz]
  simp only [Yax,dg];rw [if_pos trivial,if_pos (by constructor<;>simp [r2])]
 rw [bj];have e:(Zc y 0++[(⟨24,0⟩:Ins)]).length - 1=(Zc y 0).length:=by rw [ai];omega
 simp only [e];rw [XA,r3];rfl
structure Hol where
 kind:Int
 month:Int
 day:Int
 wd:Int
 nth:Int
 off:Int
 move:Int
 first:Int
 last:Int
structure Clo where
 lo:Int
 hi:Int
 known:Int
structure Cal where
 week:List Bool
 hols:List Hol
 clos:List Clo
def ZK (d:Int):Bool:=decide (0<=d/\d<=3652058)
def Z3c (y:Int):Int:=
 let a:=y % 19
 let b:=y / 100
 let c:=y % 100
 let g:=(b - (b+8) / 25+1) / 3
 let h:=(19 * a+b - b / 4 - g+15) % 30
 let l:=(32+2 * (b % 4)+2 * (c / 4) - h - c % 4) % 7
 h+l - 7 * ((a+11 * h+22 * l) / 451)+114
def Z5y (y:Int):Int:=Z00 y (Z3c y / 31) (Z3c y % 31+1)
def Z3J (y m wd:Int):Int:=Z00 y m 1+(wd - Z00 y m 1 % 7+7) % 7
def Zmu (h:Hol) (y:Int):Option Int:=
 if y<h.first\/h.last<y then none
 else if h.kind=1 then (if Z1R y h.month h.day then none else some (Z00 y h.month h.day))
 else if h.kind=2 then (if Z3J y h.month h.wd+7 * (h.nth - 1)<Z00 y h.month 1+ZG y h.month then some (Z3J y h.month h.wd+7 * (h.nth - 1)) else none)
 else if h.kind=3 then some (Z3J y h.month h.wd+(Z00 y h.month 1+ZG y h.month - 1 - Z3J y h.month h.wd) / 7 * 7)
 else if y<1583\/9999<y then none else some (Z5y y+h.off)
def Z3K (m d:Int):Int:=if m=1/\d % 7=5 then d+2 else if m=2/\d % 7=5 then d - 1 else if (m=1\/m=2)/\d % 7=6 then d+1 else d
def Z2c (h:Hol) (y:Int):Option Int:=(Zmu h y).bind λd=>if ZK (Z3K h.move d) then some (Z3K h.move d) else none
structure Z1V (h:Hol):Prop where
 k1:1<=h.kind
 k2:h.kind<=4
 m1:0<=h.move
 m2:h.move<=2
 f1:1<=h.first
 l1:h.last<=9999
 month:h.kind≠4->1<=h.month/\h.month<=12
 day:h.kind=1->1<=h.day/\h.day<=31
 wd:h.kind=2\/h.kind=3->0<=h.wd/\h.wd<=6
 nth:h.kind=2->1<=h.nth/\h.nth<=5
 off:h.kind=4->-100<=h.off/\h.off<=100
def Z82 (l:List Hol) (d:Int):Bool:=
 ZK d && [(ofM d).y - 1,(ofM d).y,(ofM d).y+1].any λy=>l.any λh=>decide (Z2c h y=some d)
def ZbQ (l:List Clo) (known d:Int):Bool:=l.any λx=>decide (x.known<=known/\x.lo<=d/\d<=x.hi)
def Zew (c:Cal) (known d:Int):Bool:=c.week.getD (d % 7).toNat false || ZbQ c.clos known d || Z82 c.hols d
def Zu (c:Cal) (known d:Int):Bool:=ZK d && !Zew c known d
structure Zjk (c:Cal):Prop where
 week:c.week.length=7
 hols:∀ h∈c.hols,Z1V h
 few:c.hols.length<=6
def Z3L (opn:Int->Bool) (step:Int):Nat->Int->Int×Int
 | 0,_=>(0,31)
 | k+1,d=>if ZK d=true then (if opn d=true then (d,0) else Z3L opn step k (d+step)) else (0,31)
def Jo (opn:Int->Bool) (step d:Int):Int×Int:=if ZK d=true then Z3L opn step 1001 d else (0,5)
def Z6d (opn:Int->Bool) (step:Int):Nat->Int->Int×Int
 | 0,d=>(d,0)
 | k+1,d=>if (Jo opn step (d+step)).2=0 then Z6d opn step k (Jo opn step (d+step)).1 else (0,31)
def Z6e (opn:Int->Bool) (d n:Int):Int×Int:=
 if ZK d=true then (if n < -1000\/1000<n then (0,2) else Z6d opn (if n<0 then -1 else 1) n.natAbs d) else (0,5)
def ZbR (d n:Int):Int×Int:=
 if n < -200000\/200000<n then (0,2) else if ZK d=true then
  (let m:=12 * (ofM d).y+(ofM d).m - 1+n
   if m<12\/120000<=m then (0,5) else (Z00 (m / 12) (m % 12+1) (min (ofM d).d (ZG (m / 12) (m % 12+1))),0))
 else (0,5)
def Z3M (b:Bool):Int:=if b=true then 1 else 0
def Z4y (n:Int):Int×Int:=if n < -2147483647\/2147483647<n then (0,5) else (n,0)
def ZbS (n:Int):Int×Int:=if n<0\/3652058<n then (0,5) else (n,0)
def Zdx (ev:List Int) (n:Int):Int×Int:=if n=1/\ev.getD 1 0=-1 then (0,32) else (ev.getD n.toNat 0,0)
def ZbT (opn:Int->Bool) (op b:Int):Int×Int:=
 if op=8 then (-b,0) else if op=19 then Jo opn 1 b else if op=20 then Jo opn (-1) b else (1 - b,0)
def Z3N (opn:Int->Bool) (op a b:Int):Int×Int:=
 if op=5 then Z4y (a+b) else if op=6 then Z4y (a - b) else if op=7 then Z4y (a * b)
 else if op=9 then (Z3M (decide (a<b)),0) else if op=10 then (Z3M (decide (a<=b)),0) else if op=11 then (Z3M (decide (a=b)),0)
 else if op=15 then ZbS (a+b) else if op=16 then ZbS (a+7 * b) else if op=17 then ZbR a b else if op=18 then Z6e opn a b
 else if op=21 then (max a b,0) else if op=22 then (min a b,0) else (b - a,0)
def arM (op:Int):Nat:=if op=1\/op=2\/op=3\/op=4 then 0 else if op=8\/op=12\/op=19\/op=20 then 1 else 2
def Z07 (opn:Int->Bool) (ev:List Int) (x:Ins) (a b:Int):Int×Int:=
 if x.op=4 then Zdx ev x.n else if arM x.op=0 then (x.n,0) else if arM x.op=1 then ZbT opn x.op b else Z3N opn x.op a b
abbrev Spn:=Int×Int
def JX (op a b r:Int):List Spn:=
 if op=19 then [(b,r)] else if op=20 then [(r,b)] else if op=18 then (if 0<b then [(a+1,r)] else if b<0 then [(r,a - 1)] else []) else []
def Z01 (st:List Int) (k:Nat):Int:=if k<st.length then st.getD (st.length - 1 - k) 0 else 0
def Z75 (opn:Int->Bool) (ev:List Int) (C:List Ins):Nat->Nat->List Int->List Spn->Int×List Spn×Int
 | 0,_,_,_=>(0,[],22)
 | f + 1, i, st, sp=>
   let x:=C.getD i ⟨0,0⟩
   let b:=Z01 st 0
   let a:=Z01 st 1
   if x.op=24 then (b,sp,0)
   else if x.op=13 then Z75 opn ev C f x.n.toNat st sp
   else if x.op=14 then Z75 opn ev C f (if b=0 then x.n.toNat else i+1) st.dropLast sp
   else if (Z07 opn ev x a b).2=0 then Z75 opn ev C f (i+1) (st.take (st.length - arM x.op)++[(Z07 opn ev x a b).1]) (sp++JX x.op a b (Z07 opn ev x a b).1)
   else (0,[],(Z07 opn ev x a b).2)
def J8 (opn:Int->Bool) (ev:List Int) (C:List Ins):Int×List Spn×Int:=Z75 opn ev C C.length 0 [] []
def vOk (t v:Int):Prop:=(t=1/\-2147483647<=v/\v<=2147483647)\/(t=2/\(v=0\/v=1))\/(t=3/\0<=v/\v<=3652058)
structure Zdy (ev:List Int):Prop where
 len:ev.length=7
 day:0<=ev.getD 0 0/\ev.getD 0 0<=3652058
 served:-1<=ev.getD 1 0/\ev.getD 1 0<=3652058
 rest:∀ i,2<=i->i<7->-2147483647<=ev.getD i 0/\ev.getD i 0<=2147483647
def Z0e (s:Shp) (st:List Int):Prop:=s.length=st.length/\∀ i (h:i<s.length) (h':i<st.length),vOk s[i] st[i]
theorem ZL {d:Int}:ZK d=true↔0<=d/\d<=3652058:=by unfold ZK;simp
theorem ZbU (opn:Int->Bool) (step:Int):∀ (k:Nat) (d:Int),(Z3L opn step k d).2=0->ZK (Z3L opn step k d).1=true/\opn (Z3L opn step k d).1=true
 | 0,d,h=>by simp [Z3L] at h
 | k + 1, d, h => by
   unfold Z3L at h ⊢;split at h;rename_i h1;rw [if_pos h1];split at h;rename_i h2;rw [if_pos h2];exact ⟨h1,h2⟩;rename_i h2;rw [if_neg h2];exact ZbU opn step k _ h;simp at h
theorem Z3O {opn:Int->Bool} {step d:Int} (h:(Jo opn step d).2=0):ZK (Jo opn step d).1=true/\ZK d=true:=by
 unfold Jo at h ⊢;split at h;rename_i h1;rw [if_pos h1];exact ⟨(ZbU _ _ _ _ h).1,h1⟩;simp at h
theorem Zex (opn:Int->Bool) (step:Int):∀ (k:Nat) (d:Int),ZK d=true->(Z6d opn step k d).2=0->ZK (Z6d opn step k d).1=true
 | 0,d,hd,h=>hd
 | k + 1, d, hd, h => by
   unfold Z6d at h ⊢;split at h;rename_i h1;rw [if_pos h1];exact Zex opn step k _ (Z3O h1).1 h;simp at h
theorem Zmv {opn:Int->Bool} {d n:Int} (h:(Z6e opn d n).2=0):ZK (Z6e opn d n).1=true:=by
 unfold Z6e at h ⊢;split at h;rename_i h1;rw [if_pos h1];split at h;simp at h;rename_i h2;rw [if_neg h2];exact Zex _ _ _ _ h1 h;simp at h
theorem dayM_range {y m d:Int} (hy:1<=y) (eA:y<=9999) (hm:1<=m) (eP:m<=12) (hd:1<=d) (lU:d<=ZG y m):0<=Z00 y m d/\Z00 y m d<=3652058:=by
 obtain ⟨k,hk⟩:∃ k:Nat,m=(k:Int)+1:=⟨(m - 1).toNat,by omega⟩
 subst hk;have hk:k<=11:=by omega
 rw [Z2w y d k hk];have h0:Z16 1=0:=by decide
 have h1:=Z3C hy;have h2:=Z3C (show y+1<=10000 by omega);have h3:Z16 10000=3652059:=by decide
 have gz:0<=Z27 y k:=by
  have:=Z4f (y:=y) (Xq k) (by omega);simpa [Z27] using this
 have hc:Z27 y (k+1)=Z27 y k+ZG y ((k:Int)+1):=by simp [Z27]
 have vr:=Z4f (y:=y) (show k+1<=12 by omega) (Xn _);have hs:=Z6H y;have mb:=ZvD y;omega
theorem Zmw {d n:Int} (h:(ZbR d n).2=0):ZK (ZbR d n).1=true:=by
 unfold ZbR at h ⊢;split at h;simp at h;rename_i h0;rw [if_neg h0];split at h;rename_i h1;rw [if_pos h1];dsimp only at h ⊢;split at h;simp at h;rename_i h2;rw [if_neg h2];rw [ZL] at h1 ⊢;obtain ⟨a1,a2,a3,a4,a5,a6,a7⟩:=Zai h1.1 h1.2;generalize 12 * (ofM d).y+(ofM d).m - 1+n=m at h2;have hk:(m % 12).toNat<12:=by omega
 have hl:=Z2b (y:=m / 12) hk;rw [show (((m % 12).toNat:Int))=m % 12 by omega] at hl;dsimp only;exact dayM_range (by omega) (by omega) (by omega) (by omega) (by omega) (by omega);simp at h
theorem Z0e.nil:Z0e [] []:=⟨rfl,λi h=>absurd h (Xt _)⟩
theorem Z0e.one {t v:Int} (h:vOk t v):Z0e [t] [v]:=⟨rfl,λi hi _=>by
 have:i=0:=by simpa using hi
 subst this;exact h⟩
theorem Z0e.app {s1 s2:Shp} {l1 l2:List Int} (h1:Z0e s1 l1) (h2:Z0e s2 l2):Z0e (s1++s2) (l1++l2):=by
 refine ⟨by simp [h1.1,h2.1],λi h h'=>?_⟩;by_cases hi:i<s1.length;rw [X7 hi,X7 (by rw [<- h1.1];exact hi)];exact h1.2 i hi _;have e:=h1.1;rw [X1 (by omega),X1 (by omega)];have:=h2.2 (i - s1.length) (by simp at h;omega) (by simp at h';omega);simpa [e] using this
theorem Z0e.take {s:Shp} {l:List Int} (h:Z0e s l) (k:Nat):Z0e (s.take k) (l.take k):=
 ⟨by simp [h.1],λi hi cA=>by simp at hi cA ⊢;exact h.2 i _ _⟩
theorem Z0e.drop {s:Shp} {l:List Int} (h:Z0e s l) (k:Nat):Z0e (s.drop k) (l.drop k):=
 ⟨by simp [h.1],λi hi cA=>by simp at hi cA ⊢;exact h.2 _ _ _⟩
theorem Z0e.one_inv {t:Int} {l:List Int} (h:Z0e [t] l):∃ v,l=[v]/\vOk t v:=by
 match l,h with
 | [v],h=>exact ⟨v,rfl,h.2 0 (by simp) (by simp)⟩
 | [],h=>exact absurd h.1 (by simp)
 | _ :: _ :: _,h=>exact absurd h.1 (by simp)
theorem Z0e.two_inv {t u:Int} {l:List Int} (h:Z0e [t,u] l):∃ a b,l=[a,b]/\vOk t a/\vOk u b:=by
 match l,h with
 | [a,b],h=>exact ⟨a,b,rfl,h.2 0 (by simp) (by simp),h.2 1 (by simp) (by simp)⟩
 | [],h=>exact absurd h.1 (by simp)
 | [_],h=>exact absurd h.1 (by simp)
 | _ :: _ :: _ :: _,h=>exact absurd h.1 (by simp)
theorem Z1I (l:List Int) (v:Int):Z01 (l++[v]) 0=v:=by
 unfold Z01;simp
theorem Jj (l:List Int) (a b:Int):Z01 (l++[a,b]) 0=b/\Z01 (l++[a,b]) 1=a:=by
 unfold Z01;constructor<;>simp [XA,Yaz]
theorem Zmx {n:Int} (h:(Z4y n).2=0):vOk 1 (Z4y n).1:=by
 unfold Z4y at h ⊢;split at h;simp at h;rename_i h1;rw [if_neg h1];left;refine ⟨rfl,?_,?_⟩<;>dsimp only<;>omega
theorem Zmy {n:Int} (h:(ZbS n).2=0):vOk 3 (ZbS n).1:=by
 unfold ZbS at h ⊢;split at h;simp at h;rename_i h1;rw [if_neg h1];right;right;refine ⟨rfl,?_,?_⟩<;>dsimp only<;>omega
theorem Zst (b:Bool):vOk 2 (Z3M b):=by
 right;left;refine ⟨rfl,?_⟩;unfold Z3M;cases b<;>simp
theorem vOk.days {v:Int} (h:ZK v=true):vOk 3 v:=.inr (.inr ⟨rfl,ZL.1 h⟩)
theorem vOk.n {v:Int} (h:vOk 1 v):-2147483647<=v/\v<=2147483647:=by unfold vOk at h;omega
theorem vOk.b {v:Int} (h:vOk 2 v):v=0\/v=1:=by unfold vOk at h;omega
theorem vOk.d {v:Int} (h:vOk 3 v):0<=v/\v<=3652058:=by unfold vOk at h;omega
theorem Z83 {x:Ins} (h:(Zz x).2.2.2=true):1<=x.op/\x.op<=24:=by
 by_cases h1:1<=x.op/\x.op<=24;exact h1
 . exfalso
   have:Zz x=([],[],[],false):=by
    unfold Zz
    repeat rw [if_neg (by omega)]
   rw [this] at h;simp at h
theorem Zsu {opn:Int->Bool} {ev:List Int} (bR:Zdy ev) {x:Ins} {ts vs:List Int} (hx:(Zz x).2.2.2=true) (cW:x.op≠24) (cT:x.op≠13) (dW:x.op≠14)
 (ht:ts=(Zz x).1\/(Zz x).2.1≠[]/\ts=(Zz x).2.1) (hs:Z0e ts vs) :
 ts.length=arM x.op/\(Zz x).1.length=arM x.op/\∀ st,((Z07 opn ev x (Z01 (st++vs) 1) (Z01 (st++vs) 0)).2=0->Z0e (Zz x).2.2.1 [(Z07 opn ev x (Z01 (st++vs) 1) (Z01 (st++vs) 0)).1]):=by
 have hr:=Z83 hx;obtain ⟨op,n⟩:=x;dsimp only at *;have fD:op=1\/op=2\/op=3\/op=4\/op=5\/op=6\/op=7\/op=8\/op=9\/op=10\/op=11\/op=12\/op=15\/op=16\/op=17\/op=18\/op=19\/op=20\/op=21\/op=22\/op=23:=by omega
 rcases fD with rfl|rfl|rfl|rfl|rfl|rfl|rfl|rfl|rfl|rfl|rfl|rfl|rfl|rfl|rfl|rfl|rfl|rfl|rfl|rfl|rfl
 case inl|inr.inl|inr.inr.inl=>
  simp [Zz] at hx ht ⊢;subst ht;refine ⟨rfl,rfl,λst _=>Z0e.one ?_⟩;simp [Z07,arM,vOk];omega
 case inr.inr.inr.inl=>
  simp [Zz] at hx ht ⊢;subst ht;refine ⟨rfl,rfl,λst h=>Z0e.one ?_⟩;simp only [Z07,if_true] at h ⊢;unfold Zdx at h ⊢;split at h;simp at h;rename_i h1;rw [if_neg h1];dsimp only;have h0:=bR.day;have cm:=bR.served;by_cases gY:n=0\/n=1;rw [if_pos gY]
  right;right;rcases gY with rfl|rfl
  exact ⟨rfl,h0.1,h0.2⟩;refine ⟨rfl,?_,cm.2⟩;have:¬ ev.getD 1 0=-1:=λh=>h1 ⟨rfl,h⟩;show 0<=ev.getD 1 0;omega;rw [if_neg gY]
  left;exact ⟨rfl,bR.rest n.toNat (by omega) (by omega)⟩
 all_goals
  simp [Zz] at hx ht ⊢
  try subst hx
 all_goals
  first
  | (subst ht
     obtain ⟨b,rfl,hb⟩:=hs.one_inv;refine ⟨rfl,rfl,λst h=>Z0e.one ?_⟩;simp only [Z1I] at h ⊢;simp [Z07,arM,ZbT,Z3N] at h ⊢;first
     | exact .days (Z3O h).1
     | (have:=hb.n;unfold vOk;omega)
     | (have:=hb.b;unfold vOk;omega))
  | (rcases ht with rfl | rfl <;>
     (obtain ⟨a,b,rfl,ha,hb⟩:=hs.two_inv
      refine ⟨rfl,rfl,λst h=>Z0e.one ?_⟩;simp only [Jj] at h ⊢;simp [Z07,arM,ZbT,Z3N] at h ⊢;exact Zst _))
  | (subst ht
     obtain ⟨a,b,rfl,ha,hb⟩:=hs.two_inv;refine ⟨rfl,rfl,λst h=>Z0e.one ?_⟩;simp only [Jj] at h ⊢;simp [Z07,arM,ZbT,Z3N] at h ⊢;first
     | exact Zmx h
     | exact Zmy h
     | exact .days (Zmw h)
     | exact .days (Zmv h)
     | (have:=ha.d;have:=hb.d;unfold vOk;omega))
theorem ZbV {opn:Int->Bool} {ev:List Int} (bR:Zdy ev) {x:Ins} {s nx:Shp} {st:List Int} (hn:Je x s=some nx) (cW:x.op≠24) (cT:x.op≠13) (dW:x.op≠14) (hs:Z0e s st)
 (he:(Z07 opn ev x (Z01 st 1) (Z01 st 0)).2=0):Z0e nx (st.take (st.length - arM x.op)++[(Z07 opn ev x (Z01 st 1) (Z01 st 0)).1]):=by
 unfold Je at hn;dsimp only at hn;split at hn;rename_i hc;obtain ⟨c1,c2,c3,c4⟩:=hc;simp only [XD] at hn;subst hn;have bB:st=st.take (s.length - (Zz x).1.length)++st.drop (s.length - (Zz x).1.length):=(XI _ _).symm;obtain ⟨v1,v2,v3⟩:=Zsu (opn:=opn) bR c1 cW cT dW c3 (hs.drop _);have v4:=v3 (st.take (s.length - (Zz x).1.length));rw [<- bB] at v4;rw [<- v2,<- hs.1];exact (hs.take _).app (v4 he);cases hn
end Go.Proofs.YtipfkbkkndacjaaGreatDoor
namespace Go.Eng
open Go Go.RowKit Go.Proofs
end Go.Eng
namespace Go.Proofs.YtipfkbkkndacjaaGreatDoor
open Go Go.Eng Go.RowKit
instance:Z3 Hol where
 k:=9
 enc:=λh=>[.I h.kind,.I h.month,.I h.day,.I h.wd,.I h.nth,.I h.off,.I h.move,.I h.first,.I h.last]
 len:=λ_=>rfl
 one:=by intro x u hu;simp at hu;rcases hu with rfl|rfl|rfl|rfl|rfl|rfl|rfl|rfl|rfl<;>rfl
instance:Z3 Clo where
 k:=3
 enc:=λh=>[.I h.lo,.I h.hi,.I h.known]
 len:=λ_=>rfl
 one:=by intro x u hu;simp at hu;rcases hu with rfl|rfl|rfl<;>rfl
instance:Z3 Spn where
 k:=2
 enc:=λh=>[.I h.1,.I h.2]
 len:=λ_=>rfl
 one:=by intro x u hu;simp at hu;rcases hu with rfl|rfl<;>rfl
def Z6f:List Int:=[0,0,0,0,0,0,0,0,0,0,0,0,2,1,0,0,0,0,0,-1,1]
def Z3h (w:World):Prop:=∀ i u,Z6f[i]?=some u->w.cell? ⟨4,i,none⟩=some (.I u)
theorem Z3h.ext {S:List Nat} {w w':World} (h:Z3h w) (hS:Stp S w w') (hb:4∉S):Z3h w':=λi u hu=>hS.cell hb (h i u hu)
theorem Z3h.up {w w':World} (h:Z3h w) (hS:Stp [] w w'):Z3h w':=h.ext hS (by simp)
structure MK where
 w0:World
 bm:Nat
 nk:Option Nat
 ev:List Int
 c:Cal
 kn:Int
 hv:Value
 cv:Value
 zo:Value
 zs:Value
 hr:Value
 pr:List (Nat×Obj)
def Z08 (c:Cal) (hv cv zo zs hr:Value):List Value:=
 [.B (c.week.getD 0 false),.B (c.week.getD 1 false),.B (c.week.getD 2 false),.B (c.week.getD 3 false),.B (c.week.getD 4 false),.B (c.week.getD 5 false),.B (c.week.getD 6 false),hv,cv,zo,zs,hr]
def evC (ev:List Int):List Value:=[.I (ev.getD 0 0),.I (ev.getD 1 0),.I (ev.getD 2 0),.I (ev.getD 3 0),.I (ev.getD 4 0),.I (ev.getD 5 0),.I (ev.getD 6 0)]
def ZnR (nk:Option Nat):Value:=match nk with|none=>.nilIface|some bs=>.func (.func 80) #[] #[pQ bs]
def Z5z (K:MK) (sv:Value) (at_ er:Int) (dn:Bool):List Value:=
 evC K.ev++Z08 K.c K.hv K.cv K.zo K.zs K.hr++[.I K.kn,sv,.I at_,.I er,.B dn,ZnR K.nk]
def MK.own (K:MK):List Nat:=K.bm :: K.nk.toList
structure KOk (K:MK):Prop where
 hols:SlV K.own K.w0 K.hv K.c.hols
 clos:SlV K.own K.w0 K.cv K.c.clos
 ozo:K.zo.oneCell'=true
 ozs:K.zs.oneCell'=true
 ohr:K.hr.oneCell'=true
 len:Z0A K.w0
 mov:Z3h K.w0
 bml:K.bm<K.w0.heap.size
 nkl:∀ b,K.nk=some b->b<K.w0.heap.size/\b≠K.bm
 gl:∀ b∈K.own,b≠3/\b≠4
 cal:Zjk K.c
 ev:Zdy K.ev
 nks:K.nk≠none
structure Mch (K:MK) (w:World) (sv pv:Value) (st:List Int) (sp:List Spn) (at_ er:Int) (dn:Bool):Prop where
 blk:Blk w K.bm 167 (Z5z K sv at_ er dn)
 row:Row [] w K.w0.heap.size 3 sv st
 nt:∀ bs,K.nk=some bs->Blk w bs 27 [pv]/\Row [] w K.w0.heap.size 75 pv sp
 nt0:K.nk=none->pv=.N
 ap:∀ b∈ob sv,b∉ob pv
 stp:Stp K.own K.w0 w
 prot:∀ p∈K.pr,w.heap[p.1]?=some p.2/\p.1∉K.own/\p.1∉ob sv/\p.1∉ob pv
section
variable {K:MK} {w w':World} {sv pv:Value} {st:List Int} {sp:List Spn} {at_ er:Int} {dn:Bool}
theorem Mch.up (h:Mch K w sv pv st sp at_ er dn) (hS:Stp [] w w'):Mch K w' sv pv st sp at_ er dn:=
 ⟨h.blk.up hS,h.row.up hS,λbs hb=>⟨(h.nt bs hb).1.up hS,(h.nt bs hb).2.up hS⟩,h.nt0,h.ap,h.stp.trans hS.mn,λp hp=>let ⟨a,b,c,d⟩:=h.prot p hp;⟨(hS.block p.1 (Xk.1 a).1 (by simp)).trans a,b,c,d⟩⟩
theorem Mch.hols (hK:KOk K) (h:Mch K w sv pv st sp at_ er dn):SlV K.own w K.hv K.c.hols:=hK.hols.ext h.stp (λb hb=>hb) (λb hb=>.inl hb)
theorem Mch.clos (hK:KOk K) (h:Mch K w sv pv st sp at_ er dn):SlV K.own w K.cv K.c.clos:=hK.clos.ext h.stp (λb hb=>hb) (λb hb=>.inl hb)
theorem Mch.len (hK:KOk K) (h:Mch K w sv pv st sp at_ er dn):Z0A w:=hK.len.ext h.stp (λhb=>(hK.gl _ hb).1 rfl)
theorem Mch.mov (hK:KOk K) (h:Mch K w sv pv st sp at_ er dn):Z3h w:=hK.mov.ext h.stp (λhb=>(hK.gl _ hb).2 rfl)
theorem Mch.put (hK:KOk K) (h:Mch K w sv pv st sp at_ er dn) {at' er':Int} {dn':Bool} (hS:Stp [K.bm] w w') (hb:Blk w' K.bm 167 (Z5z K sv at' er' dn')):Mch K w' sv pv st sp at' er' dn':=by
 have hl:∀ v,(∀ b∈ob v,K.w0.heap.size<=b)->∀ b∈[K.bm],b∉ob v:=λv hv b hb h2=>by
  have:=hK.bml;have:=hv b h2;simp at hb;omega
 refine ⟨hb,h.row.keep hS (hl _ (λb hb=>(h.row.ob_le b hb).1)),λbs dD=>?_,h.nt0,h.ap,h.stp.trans (hS.mono (by simp [MK.own])),λp hp=>let ⟨a,b,c,d⟩:=h.prot p hp;⟨(hS.block p.1 (Xk.1 a).1 (λe=>b (by simp at e;rw [e];exact YaO))).trans a,b,c,d⟩⟩;obtain ⟨h1,h2⟩:=h.nt bs dD;exact ⟨h1.ext hS (by have:=(hK.nkl bs dD).2;simpa using this),h2.keep hS (hl _ (λb hb=>(h2.ob_le b hb).1))⟩
theorem Mch.stack (hK:KOk K) (h:Mch K w sv pv st sp at_ er dn) {sv':Value} {st':List Int} {w2:World} (hS:Stp (ob sv) w w') (hr:Row [] w' K.w0.heap.size 3 sv' st') (ho:∀ b∈ob sv',b∈ob sv\/w.heap.size<=b)
 (ah:Stp [K.bm] w' w2) (hb:Blk w2 K.bm 167 (Z5z K sv' at_ er dn)):Mch K w2 sv' pv st' sp at_ er dn:=by
 have kN:=hK.bml;have kH:=λb hb=>(hr.ob_le b hb).1;have fP:=λb hb=>(h.row.ob_le b hb).1;have hl:=h.stp.size;refine ⟨hb,hr.keep ah (λb hb h2=>by have:=kH b h2;simp at hb;omega),λbs dD=>?_,h.nt0,λb hb hp=>?_,?_,λp hp=>?_⟩;obtain ⟨h1,h2⟩:=h.nt bs dD;have hn:=hK.nkl bs dD;have qJ:=λb hb=>(h2.ob_le b hb).1;refine ⟨(h1.ext hS (λhx=>by have:=fP _ hx;omega)).ext ah (by simpa using hn.2),(h2.keep hS (λb hb=>h.ap b hb)).keep ah (λb hb hx=>by have:=qJ _ hx;simp at hb;omega)⟩
 . cases hk:K.nk with
   | none=>rw [h.nt0 hk] at hp;simp [ob] at hp
   | some bs=>
     obtain ⟨h1,h2⟩:=h.nt bs hk;rcases ho b hb with h3|h3
     exact h.ap b h3 hp;have:=(h2.ob_le b hp).2;omega
 refine (h.stp.own (S':=ob sv) hS (λb hb=>.inr (fP b hb))).trans (ah.mono (by simp [MK.own]));obtain ⟨a,b,c,d⟩:=h.prot p hp;have hlt:=(Xk.1 a).1;have a2:=(hS.block p.1 hlt c).trans a;have a3:=(ah.block p.1 (Xk.1 a2).1 (λe=>b (by simp at e;rw [e];exact YaO))).trans a2;exact ⟨a3,b,λh3=>(ho _ h3).elim c (λh4=>by omega),d⟩
theorem Zjl (hK:KOk K) (h:Mch K w sv pv st sp at_ er dn) (n e:Int) (hl:st.length<=100000) :
 CC 203 #[.pointer (some ⟨K.bm,0,none⟩),.I n,.I e] w λr w'=>r=.tuple #[]/\∃ sv',Mch K w' sv' pv (if e=0 then st++[n] else st) sp at_ (if e=0 then er else e) (if e=0 then dn else true):=by
 have ac:=h.blk;have ab:=h.row;unfold Z5z at ac;refine cW3 25 Tryz.func203 ?_;by_cases he:e=0;subst he;rw [if_pos rfl,if_pos rfl,if_pos rfl];refine QO ?_;refine Z0 (Z1 (vs:=[(0,.I n)]) rfl (Zp _)) rfl ?_;rintro bv w1 hN;have ae:=Z9.stp hN;have an:SlV (ob sv++[]) w1 bv [n]:=hN.slv (λb hb=>by simp at hb;exact (ab.ob_le b hb).2) rfl rfl (by simp [maxLen]);replace h:=h.up ae;replace ab:=ab.up ae;replace ac:=ac.up ae;refine Z0 (Zx rfl (by decide) rfl rfl ab an (by simp;omega) (by simp [maxLen];omega) (h.stp.size)) rfl ?_;rintro sv' w2 ⟨df,ah,ho⟩;have aQ:=ac.ext ah (λhx=>by have:=(ab.ob_le _ hx).1;have:=hK.bml;omega);refine W ?_;have h1:=df.slv (X:=[]) (by simp);refine Z6 (Zb (u:=sv') rfl rfl h1.cells h1.one aQ (by simp [evC,Z08])) ?_;rintro _ w3 ⟨am,aL⟩;refine W ?_;refine WR ?_;refine .mk ⟨rfl,sv',h.stack hK ah df ho am aL⟩;rw [if_neg he,if_neg he,if_neg he];refine QO ?_;refine Z6 (Zb (u:=.I e) rfl rfl rfl rfl ac (by simp [evC,Z08])) ?_;rintro _ w1 ⟨ae,cj⟩;refine W ?_;refine Z6 (Zb (u:=.B true) rfl rfl rfl rfl cj (by simp [evC,Z08])) ?_;rintro _ w2 ⟨ah,aQ⟩;refine RT ?_;exact ⟨rfl,sv,h.put hK (ae.trans ah) aQ⟩
end
end Go.Proofs.YtipfkbkkndacjaaGreatDoor
namespace Go.Eng
open Go Go.RowKit Go.Proofs
section
variable {P:Program} {n:Nat} {e:Env} {w:World} {d:Option Nat} {ty:TypeId} {pos:String} {af:Array Edge} {g:Option (Nat×Bool)} {rest:List Oper} {ops:Array Oper} {Q:Exit->Act->World->Prop}
theorem Z1W {α:Type} [Z5 α] {X:List Nat} {v:Value} {xs:List α} {i:Nat} {cs:List Value} {x:Operand} {t:TypeId} {D:TypeDesc} [hu:Und P t D] (hA:Z0C D=true) [bE:Siz P t (Z5.k α)] (hx:ev e x=some (.pointer (some (ZH v i (Z5.k α) 0)))) (hs:SlV X w v xs) (hi:i<xs.length)
 (hr:Z5.rep X w xs[i] cs) (hc:∀ j u,cs[j]?=some u->w.cell? (ZH v i (Z5.k α) j)=some u):PR P n ⟨d,.load t x,ty,pos,af,g⟩ e w (.agg cs.toArray):=by
 obtain ⟨p,l',c,rfl⟩:=hs.isSome hi;refine Z3k (cs:=cs) hA hx (Z5.len hr) (λj u hu=>?_);have:=hc j u hu;simpa [ZH] using this
end
structure Fct where
 entry:Int
 kind:Str
 day:Int
 by_:Int
 to_:Int
 amt:Int
deriving DecidableEq
instance:Inhabited Fct:=⟨⟨0,[],0,0,0,0⟩⟩
instance:Z3 Fct where
 k:=6
 enc:=λx=>[.I x.entry,str x.kind,.I x.day,.I x.by_,.I x.to_,.I x.amt]
 len:=λ_=>rfl
 one:=by intro x u hu;simp at hu;rcases hu with rfl|rfl|rfl|rfl|rfl|rfl<;>rfl
structure Rsn where
 kind:Int
 a:Int
 b:Int
deriving DecidableEq
instance:Z3 Rsn where
 k:=3
 enc:=λx=>[.I x.kind,.I x.a,.I x.b]
 len:=λ_=>rfl
 one:=by intro x u hu;simp at hu;rcases hu with rfl|rfl|rfl<;>rfl
structure Rtn where
 crr:Int
 kind:Int
 lo:Int
 hi:Int
deriving DecidableEq
instance:Z3 Rtn where
 k:=4
 enc:=λx=>[.I x.crr,.I x.kind,.I x.lo,.I x.hi]
 len:=λ_=>rfl
 one:=by intro x u hu;simp at hu;rcases hu with rfl|rfl|rfl|rfl<;>rfl
structure Crr where
 extra:Int
 tol:Int
deriving DecidableEq
instance:Z3 Crr where
 k:=2
 enc:=λx=>[.I x.extra,.I x.tol]
 len:=λ_=>rfl
 one:=by intro x u hu;simp at hu;rcases hu with rfl|rfl<;>rfl
structure Svc where
 day:Int
 extra:Int
 att:Int
deriving DecidableEq
instance:Z3 Svc where
 k:=3
 enc:=λx=>[.I x.day,.I x.extra,.I x.att]
 len:=λ_=>rfl
 one:=by intro x u hu;simp at hu;rcases hu with rfl|rfl|rfl<;>rfl
structure Atp where
 entry:Int
 party:Int
 crr:Int
 sent:Int
 rets:List Rtn
instance:Inhabited Atp:=⟨⟨0,0,0,0,[]⟩⟩
abbrev atC (a:Atp) (rv:Value):List Value:=[.I a.entry,.I a.party,.I a.crr,.I a.sent,rv]
instance:Z5 Atp where
 k:=5
 rep:=λX w a cs=>∃ rv,cs=atC a rv/\SlV X w rv a.rets
 len:=λ⟨_,h,_⟩=>h ▸ rfl
 one:=by
  rintro X w a cs ⟨rv,rfl,h⟩ u hu;have:=h.one;simp only [Xb,Xj,or_false] at hu;rcases hu with rfl|rfl|rfl|rfl|rfl<;>first|rfl|assumption
 ext:=λ⟨rv,h,hs⟩ hS h1 h2=>⟨rv,h,hs.ext hS h1 h2⟩
structure Dln where
 rule:Str
 trig:Fct
 party:Int
 due:Int
 stat:Int
 reas:List Rsn
instance:Inhabited Dln:=⟨⟨[],default,0,0,0,[]⟩⟩
abbrev dlC (a:Dln) (rv:Value):List Value:=[str a.rule,.I a.trig.entry,str a.trig.kind,.I a.trig.day,.I a.trig.by_,.I a.trig.to_,.I a.trig.amt,.I a.party,.I a.due,.I a.stat,rv]
instance:Z5 Dln where
 k:=11
 rep:=λX w a cs=>∃ rv,cs=dlC a rv/\SlV X w rv a.reas
 len:=λ⟨_,h,_⟩=>h ▸ rfl
 one:=by
  rintro X w a cs ⟨rv,rfl,h⟩ u hu;have:=h.one;simp only [Xb,Xj,or_false] at hu;rcases hu with rfl|rfl|rfl|rfl|rfl|rfl|rfl|rfl|rfl|rfl|rfl<;>first|rfl|assumption
 ext:=λ⟨rv,h,hs⟩ hS h1 h2=>⟨rv,h,hs.ext hS h1 h2⟩
end Go.Eng
namespace Go.Proofs.YtipfkbkkndacjaaGreatDoor
open Go Go.Eng Go.RowKit
instance:Z5 Cr where
 k:=7
 rep:=λX w q cs=>∃ kc kd,cs=crC q kc kd/\SlV X w kc q.cnd/\SlV X w kd q.due
 len:=λ⟨_,_,h,_⟩=>h ▸ rfl
 one:=λ⟨_,_,h,h1,h2⟩=>h ▸ Z0g h1 h2
 ext:=λ⟨kc,kd,h,h1,h2⟩ hS g1 g2=>⟨kc,kd,h,h1.ext hS g1 g2,h2.ext hS g1 g2⟩
structure Cas where
 fcts:List Fct
 ruls:List Cr
 atts:List Atp
 crrs:List Crr
 stys:List Spn
 cal:Cal
 court:Int
 today:Int
structure Z0T where
 fv:Value
 rv:Value
 av:Value
 cv:Value
 sv:Value
 hv:Value
 lv:Value
 zo:Value
 zs:Value
 hr:Value
abbrev Jw (c:Cas) (R:Z0T):List Value:=[R.fv,R.rv,R.av,R.cv,R.sv]++Z08 c.cal R.hv R.lv R.zo R.zs R.hr++[.I c.court,.I c.today]
end Go.Proofs.YtipfkbkkndacjaaGreatDoor
namespace Go.Eng
open Go Go.RowKit Go.Proofs
variable {P:Program} {n:Nat} {Q:Exit->Act->World->Prop} {e:Env} {w w0:World} {rest:List Oper} {ops:Array Oper} {ty:TypeId} {pos:String} {af:Array Edge}
theorem Stp.cell0 {w w':World} {ad:Addr} {u:Value} (h:Stp [] w w') (hc:w.cell? ad=some u):w'.cell? ad=some u:=by
 have hlt:ad.block<w.heap.size:=block_lt_of_cell hc;rw [<- hc];exact World.cell?_of_block (w:=w) (h.block ad.block hlt (by simp))
theorem CP {S:List Nat} {f d:Nat} {fn:Func} {xs:Array Operand} {ts:Array TypeId} {vs:Array Value} {r:Value} {c:Operand} [hf:Fun P f fn] (hS:Stp S w0 w) (h:Calls P f vs w (Ret λv w'=>v=r/\Stp [] w w')) (k:∀ w',Stp [] w w'->Stp S w0 w'->WL P n ops Q rest ((d,r) :: e) w')
 (hc:ev e c=some (.func (.func f) #[] #[]):=by exact rfl) (hv:∀ a,Has n e a->xs.map a.eval=vs:=by first|exact ZN rfl|exact Zf rfl rfl|exact ZI rfl rfl rfl|exact Z72 rfl rfl rfl rfl|exact Z5U) (hd:Nat.blt d n=true:=by exact rfl) :
 WL P n ops Q (⟨some d,.call { callee:=.value c,args:=xs,argTypes:=ts },ty,pos,af,none⟩ :: rest) e w:=
 Z0 (Z4 hc hv h) hd (by rintro _ w' ⟨rfl,hT⟩;exact k w' hT (hS.trans hT.mn))
theorem CG {f d:Nat} {fn:Func} {xs:Array Operand} {ts:Array TypeId} {vs:Array Value} {G:Value->World->Prop} {c:Operand} [hf:Fun P f fn] (h:Calls P f vs w (Ret G)) (k:∀ v w',G v w'->WL P n ops Q rest ((d,v) :: e) w')
 (hc:ev e c=some (.func (.func f) #[] #[]):=by exact rfl) (hv:∀ a,Has n e a->xs.map a.eval=vs:=by first|exact ZN rfl|exact Zf rfl rfl|exact ZI rfl rfl rfl|exact Z72 rfl rfl rfl rfl|exact Z5U) (hd:Nat.blt d n=true:=by exact rfl) :
 WL P n ops Q (⟨some d,.call { callee:=.value c,args:=xs,argTypes:=ts },ty,pos,af,none⟩ :: rest) e w:=
 Z0 (Z4 hc hv h) hd k
theorem BX {S:List Nat} {d:Nat} {t:TypeId} {x:Operand} {v:Value} (hS:Stp S w0 w) (k:∀ b w',w.heap.size<=b->Blk w' b t v.cells.toList->Stp [] w w'->Stp S w0 w'->WL P n ops Q rest ((d,pQ b) :: e) w')
 (hx:ev e x=some v:=by exact rfl) (hd:Nat.blt d n=true:=by exact rfl):WL P n ops Q (⟨some d,.box t x,ty,pos,af,none⟩ :: rest) e w:=
 Z0 (Zo hx) hd (by rintro _ w' ⟨b,rfl,hb,hk,hT⟩;exact k b w' hb hk hT (hS.trans hT.mn))
theorem Zaw {x:Operand} {t:TypeId} {D:TypeDesc} {ad:Addr} {v:Value} {d:Nat} [hu:Und P t D] (hA:Z0C D=false) (hx:ev e x=some (.pointer (some ad))) (hc:w.cell? ad=some v) (hd:Nat.blt d n=true) (k:WL P n ops Q rest ((d,v) :: e) w) :
 WL P n ops Q (⟨some d,.load t x,ty,pos,af,none⟩ :: rest) e w:=Z8 (Jl hA hx hc) hd k
theorem Z17 {Lt:List Nat} {ord:List (Nat×Nat)} {i d:Nat} {gd:Option (Nat×Bool)} {x:Operand} {t:TypeId} {D:TypeDesc} {ad:Addr} {v:Value} [hu:Und P t D] (hi:ops[i]?=some ⟨some d,.load t x,ty,pos,af,gd⟩) (hg:JT ops e gd) (hA:Z0C D=false) (hx:ev e x=some (.pointer (some ad))) (hc:w.cell? ad=some v) (hd:Nat.blt d n=true)
 (k:WD P n ops [] Lt Q ord ((d,v) :: e) w):WD P n ops [] Lt Q ((i,1) :: ord) e w:=WD_read hi hg (λ_ hS=>Jl hA hx (hS.cell0 hc)) hd k
theorem DP {S S0:List Nat} {Lt:List Nat} {ord:List (Nat×Nat)} {i f d:Nat} {fn:Func} {gd:Option (Nat×Bool)} {xs:Array Operand} {ts:Array TypeId} {vs:Array Value} {r:Value} {c:Operand} [hf:Fun P f fn] (hS:Stp S0 w0 w) (h:Calls P f vs w (Ret λv w'=>v=r/\Stp [] w w')) (k:∀ w',Stp [] w w'->Stp S0 w0 w'->WD P n ops S Lt Q ord ((d,r) :: e) w')
 (hi:ops[i]?=some ⟨some d,.call { callee:=.value c,args:=xs,argTypes:=ts },ty,pos,af,gd⟩:=by exact rfl) (hg:JT ops e gd:=by first|exact trivial|exact rfl)
 (hc:ev e c=some (.func (.func f) #[] #[]):=by exact rfl) (hv:∀ a,Has n e a->xs.map a.eval=vs:=by first|exact ZN rfl|exact Zf rfl rfl|exact ZI rfl rfl rfl|exact Z72 rfl rfl rfl rfl|exact Z5U) (hd:Nat.blt d n=true:=by exact rfl) :
 WD P n ops S Lt Q ((i,2) :: ord) e w:=
 Za hi hg (Z4 hc hv h) (λ_ _ h=>h.2.mn) hd (by rintro _ w' ⟨rfl,hT⟩;exact k w' hT (hS.trans hT.mn))
end Go.Eng
namespace Go.Proofs.YtipfkbkkndacjaaGreatDoor
open Go Go.Eng Go.RowKit
def Zmz (l:List Cr) (nm:Str) (day b:Int) (i:Nat):Prop:=(l.getD i crZ).name=nm/\(l.getD i crZ).frm<=day/\(b<0\/(l.getD b.toNat crZ).frm<=(l.getD i crZ).frm)
instance (l:List Cr) (nm:Str) (day b:Int) (i:Nat):Decidable (Zmz l nm day b i):=by unfold Zmz;infer_instance
def Z5A (l:List Cr) (nm:Str) (day:Int):Nat->Int
 | 0=>-1
 | k+1=>if Zmz l nm day (Z5A l nm day k) k then k else Z5A l nm day k
def ZfP (l:List Cr) (nm:Str) (day:Int):Int:=Z5A l nm day l.length
theorem Zey (l:List Cr) (nm:Str) (day:Int):∀ k,-1<=Z5A l nm day k/\Z5A l nm day k<k
 | 0=>by simp [Z5A]
 | k + 1 => by
   have:=Zey l nm day k;simp only [Z5A];split<;>omega
theorem ZfQ {A B C:Prop} [Decidable (A/\B/\C)] {x k b z:Int} {e:Eng.Env} {i:Nat} (h:x=if A/\B/\C then k else b) (he:Eng.look e i=some (.I z)) (hz:(A/\B/\C/\z=k)\/(¬ (B/\C)/\z=b)\/(¬ A/\z=b)):Eng.look e i=some (.I x):=by
 rw [he,h];rcases hz with ⟨a,b,c,rfl⟩|⟨a,rfl⟩|⟨a,rfl⟩
 rw [if_pos ⟨a,b,c⟩];rw [if_neg (λh=>a h.2)];rw [if_neg (λh=>a h.1)]
theorem ZbW (v:Value) (l:List Cr) (nm:Str) (day:Int) (w) (hs:SlV [] w v l):CC 13 #[v,str nm,.I day] w λr w'=>r=.I (ZfP l nm day)/\Stp [] w w':=by
 have aT:=hs.max;refine cW3 44 Tryz.func13 ?_;refine W ?_;refine LP (σ:=Nat) (λk=>[(0,v),(1,str nm),(2,.I day),(7,.I (Z5A l nm day k)),(10,v),(11,.I l.length),(12,.I k)]) (λk w'=>k<=l.length/\Stp [] w w') (λk=>l.length - k) 0 ⟨by omega,Stp.refl _ _⟩ ?_;have bg:=hs;clear hs;rintro k w1 ⟨hk,hS⟩;have hs:=bg.up hS;by_cases hlt:k<l.length;obtain ⟨cs,⟨kc,kd,rfl,g1,g2⟩,ar⟩:=hs.cell hlt;have hb:=Zey l nm day k;have hstep:Z5A l nm day (k+1)=if l[k].name=nm/\l[k].frm<=day/\(Z5A l nm day k<0\/(l.getD (Z5A l nm day k).toNat crZ).frm<=l[k].frm) then (k:Int) else Z5A l nm day k:=by
  rw [Z5A];simp only [Zmz,show l.getD k crZ=l[k] by simp [hlt]]
 generalize Z5A l nm day k=bb at *;refine QO ?_;refine Z8 (Z1W rfl rfl hs hlt ⟨kc,kd,rfl,g1,g2⟩ ar) rfl ?_;refine Z0 Z2 rfl ?_;rintro _ w2 ⟨b,rfl,dY,e9,hT⟩;refine W ?_;refine SB (us:=crC l[k] kc kd) (Z0g g1 g2) e9 ?_;rintro _ w3 ⟨aq,e9⟩;replace hS:=hS.trans (hT.ow aq);clear hT aq hs ar g1 g2;refine W ?_;refine ZDr 24 [] [] [(0,0),(1,1),(2,0),(3,0),(4,0),(5,0),(6,1),(7,0),(8,0),(9,0),(10,0),(11,0),(12,0),(13,0),(14,0),(15,1),(16,0),(17,0),(18,0),(19,0),(20,1),(21,0),(22,0),(23,0)] (λw1 ae=>?_);replace e9:=e9.up ae;replace hS:=hS.trans ae;clear ae;have hs:=bg.up hS;by_cases h0:bb<0
 . repeat'(first|refine D1 ?_|omega|refine Zq rfl rfl rfl rfl (λhg=>?_) (λhg=>?_)|(refine Zm rfl rfl rfl rfl (λhg=>?_) (λhg=>?_)<;>refine D1 ?_)|fail)
   all_goals refine QO ?_
   all_goals
    refine Zw (k+1) ⟨rfl,rfl,rfl,?_,rfl,rfl,rfl,trivial⟩ ⟨by omega,hS⟩ (by omega);first|exact ZfQ hstep rfl (.inl ⟨by assumption,by omega,by omega,rfl⟩)|exact ZfQ hstep rfl (.inr (.inl ⟨by omega,rfl⟩))|exact ZfQ hstep rfl (.inr (.inr ⟨by assumption,rfl⟩))
 . obtain ⟨j,rfl⟩:∃ j:Nat,bb=j:=⟨bb.toNat,by omega⟩
   have hj:j<l.length:=by omega
   obtain ⟨cs,⟨kc2,kd2,rfl,-,-⟩,ar⟩:=hs.cell hj;have hf:w1.cell? (ZH v j 7 1)=some (.I l[j].frm):=ar 1 _ rfl;rw [show (j:Int).toNat=j by simp,show l.getD j crZ=l[j] by simp [hj]] at hstep;repeat'(first|refine D1 ?_|omega|refine Z17 rfl (by first|exact trivial|exact rfl) rfl rfl (by assumption) rfl ?_|refine Zq rfl rfl rfl rfl (λhg=>?_) (λhg=>?_)|(refine Zm rfl rfl rfl rfl (λhg=>?_) (λhg=>?_)<;>refine D1 ?_)|fail)
   all_goals repeat'(first|refine W1 ?_|omega|refine VG ?_ ?_<;>intro hg|refine VC ?_ ?_<;>intro hc)
   all_goals
    refine Zw (k+1) ⟨rfl,rfl,rfl,?_,rfl,rfl,rfl,trivial⟩ ⟨by omega,hS⟩ (by omega);first|exact ZfQ hstep rfl (.inl ⟨by assumption,by omega,by omega,rfl⟩)|exact ZfQ hstep rfl (.inr (.inl ⟨by omega,rfl⟩))|exact ZfQ hstep rfl (.inr (.inr ⟨by assumption,rfl⟩))
 refine QO ?_;refine WR ?_;rw [show k=l.length by omega];exact .mk ⟨rfl,hS⟩
end Go.Proofs.YtipfkbkkndacjaaGreatDoor
namespace Go.Eng
open Go Go.RowKit Go.Proofs
variable {P:Program} {n:Nat} {Q:Exit->Act->World->Prop} {e:Env} {w w0:World} {rest:List Oper} {ops:Array Oper} {ty:TypeId} {pos:String} {af:Array Edge} {d:Option Nat} {g:Option (Nat×Bool)}
abbrev ltS (a b:Str):Bool:=Op.bytesLess a b
theorem Z7g {t u:TypeId} {x y:Operand} {a b:Str} {c:Bool} [hu:Und P t .string] (hx:ev e x=some (str a)) (hy:ev e y=some (str b)) (hc:ltS a b=c):PR P n ⟨d,.binOp .lss t x y u,ty,pos,af,g⟩ e w (.B c):=
 ⟨λ_ ha=>by simp only [execOp,ha.ev hx,ha.ev hy];subst hc;simp [go_sem,binOp,Op.stringOp]⟩
theorem Zez {t u:TypeId} {x y:Operand} {a b:Str} {c:Bool} [hu:Und P t .string] (hx:ev e x=some (str a)) (hy:ev e y=some (str b)) (hc:(!(ltS a b || a == b))=c):PR P n ⟨d,.binOp .gtr t x y u,ty,pos,af,g⟩ e w (.B c):=
 ⟨λ_ ha=>by simp only [execOp,ha.ev hx,ha.ev hy];subst hc;simp [go_sem,binOp,Op.stringOp]⟩
end Go.Eng
namespace Go.Proofs.YtipfkbkkndacjaaGreatDoor
open Go Go.Eng Go.RowKit
def Z3P (a b:Str):Int:=if ltS a b=true then -1 else if (!(ltS a b || a == b))=true then 1 else 0
def cmI (x y:Int):Int:=if x<y then -1 else if y<x then 1 else 0
theorem Z4n (x y:Int) (w):CC 75 #[.I x,.I y] w λr w'=>r=.I (cmI x y)/\Stp [] w w':=
 (Tryz.cmp_Compare_int x y w).mono (by
   rintro e w' ⟨rfl,rfl⟩;exact .mk ⟨rfl,Stp.refl _ _⟩)
theorem Z84 (a:Str) (w):CC 126 #[str a] w λr w'=>r=.B false/\Stp [] w w':=by
 refine cW1 6 Tryz.func126 ?_;refine RT ?_;exact ⟨by simp,Stp.refl _ _⟩
theorem Zjm (a b:Str) (w):CC 76 #[str a,str b] w λr w'=>r=.I (Z3P a b)/\Stp [] w w':=by
 refine cW2 20 Tryz.func76 ?_;refine W ?_;refine CP (Stp.refl [] w) (Z84 a _) λw1 _ hS=>?_;refine W ?_;refine CP hS (Z84 b _) λw2 _ hS=>?_;refine W ?_;cases h1:ltS a b
 . refine Z8 (Z7g rfl rfl h1) rfl ?_
   refine W ?_;cases h2:(!(ltS a b || a == b))
   all_goals
    refine Z8 (Zez rfl rfl h2) rfl ?_;refine RT ?_;exact ⟨by rw [Z3P,if_neg (by simp [h1]),h2];rfl,hS⟩
 refine Z8 (Z7g rfl rfl h1) rfl ?_;refine RT ?_;exact ⟨by rw [Z3P,h1];rfl,hS⟩
def orL (l:List Int):Int:=(l.find? (λx=>decide (x≠0))).getD 0
theorem Zdz {l:List Int} {k:Nat} (hk:k<l.length) (h:∀ j (h:j<l.length),j<k->l[j]=0) (h0:l[k]≠0):orL l=l[k]:=by
 have:l.find? (λx=>decide (x≠0))=some l[k]:=by
  rw [Yap];exact ⟨by simpa using h0,k,hk,rfl,λj hj=>by simp [h j (by omega) hj]⟩
 rw [orL,this];rfl
theorem Z85 {l:List Int} (h:∀ j (h:j<l.length),l[j]=0):orL l=0:=by
 have:l.find? (λx=>decide (x≠0))=none:=by
  rw [Yao];intro x hx;obtain ⟨j,hj,rfl⟩:=Xr hx;simp [h j hj]
 rw [orL,this];rfl
theorem ZmA (v:Value) (l:List Int) (w) (hs:SlV [] w v l):CC 74 #[v] w λr w'=>r=.I (orL l)/\Stp [] w w':=by
 have aT:=hs.max;refine cW1 18 Tryz.func74 ?_;refine W ?_;refine LP (σ:=Nat) (λk=>[(3,.I 0),(6,v),(7,.I l.length),(8,.I k)]) (λk w'=>k<=l.length/\Stp [] w w'/\∀ j (h:j<l.length),j<k->l[j]=0) (λk=>l.length - k) 0 ⟨by omega,Stp.refl _ _,by omega⟩ ?_;have bg:=hs;clear hs;rintro k w1 ⟨hk,hS,hz⟩;have hs:=bg.up hS;by_cases hlt:k<l.length;by_cases h0:l[k]=0;refine QO ?_;exact QL (k+1) ⟨by omega,hS,λj h hj=>by
  by_cases e:j=k;subst e;exact h0;exact hz j h (by omega)⟩ (by omega)
 refine RT ?_;exact ⟨by rw [Zdz hlt hz h0],hS⟩;refine RT ?_;exact ⟨by rw [Z85 (λj h=>hz j h (by omega))],hS⟩
def Z4z (f g:Fct):Int:=orL [cmI f.day g.day,cmI f.entry g.entry,Z3P f.kind g.kind,cmI f.by_ g.by_,cmI f.to_ g.to_,cmI f.amt g.amt]
theorem ZbX (a b c d e f:Int) (w):(Instr.buildSlice 23 6 #[(0,.I a),(1,.I b),(2,.I c),(3,.I d),(4,.I e),(5,.I f)]).run Tryz.prog w=.ok (.slice (some ⟨w.heap.size,0,none⟩) 6 6) (w.alloc (.cells #[.I a,.I b,.I c,.I d,.I e,.I f] 3)):=by kernel_rfl
theorem Zjn (f g:Fct) (w):CC 43 #[aG f,aG g] w λr w'=>r=.I (Z4z f g)/\Stp [] w w':=by
 refine cW2 37 Tryz.func43 ?_;refine W ?_;refine BX (Stp.refl [] w) λb2 w1 h2 e2 _ hS=>?_;refine BX hS λb3 w2 h3 e3 hT hS=>?_;replace e2:=e2.up hT;replace e2:Blk w2 b2 45 (Z3.enc f):=e2;replace e3:Blk w2 b3 45 (Z3.enc g):=e3;refine W ?_;refine ZDr 33 [] [] [(0,0),(1,1),(2,0),(3,1),(5,0),(6,1),(7,0),(8,1),(10,0),(11,1),(12,0),(13,1),(15,0),(16,1),(17,0),(18,1),(20,0),(21,1),(22,0),(23,1),(25,0),(26,1),(27,0),(28,1),(4,2),(9,2),(14,2),(19,2),(24,2),(29,2),(30,2),(31,2),(32,0)] (λw1 ae=>?_);replace e2:=e2.up ae;replace e3:=e3.up ae;replace hS:=hS.trans ae;refine D ?_;clear ae e2 e3;refine DP hS (Z4n _ _ _) λ_ _ hS=>?_;refine DP hS (Z4n _ _ _) λ_ _ hS=>?_;refine DP hS (Zjm _ _ _) λ_ _ hS=>?_;refine DP hS (Z4n _ _ _) λ_ _ hS=>?_;refine DP hS (Z4n _ _ _) λ_ _ hS=>?_;refine DP hS (Z4n _ _ _) λ_ _ hS=>?_;refine Za rfl trivial (Z1 rfl (ZbX _ _ _ _ _ _)) (λ_ _ h=>Z9.stp h) rfl ?_;rintro bv wb hN;have an:=hN.slv (X:=[]) (ys:=[cmI f.day g.day,cmI f.entry g.entry,Z3P f.kind g.kind,cmI f.by_ g.by_,cmI f.to_ g.to_,cmI f.amt g.amt]) (by simp) rfl rfl (by simp [maxLen]);replace hS:=hS.trans (Z9.stp hN);refine DP hS (ZmA bv _ _ an) λ_ _ hS=>?_;refine D ?_;refine RT ?_;exact ⟨rfl,hS⟩
end Go.Proofs.YtipfkbkkndacjaaGreatDoor
namespace Go.Eng
open Go Go.RowKit Go.Proofs
variable {P:Program} {n:Nat} {Q:Exit->Act->World->Prop} {e:Env} {w w0:World} {rest:List Oper} {ops:Array Oper} {ty ty':TypeId} {pos pos':String} {af af':Array Edge}
theorem AP1 {β:Type} [Z3 β] {T t bytes d1 d2:Nat} {x y:Operand} {v z0 u:Value} {xs:List β} [ht:Und P t (.slice T)] [hk:Siz P T (Z5.k β)] [hb:Byt P T bytes] [hz:Zer P T z0] (z:β) (hr:ZE T w0 w v xs) (hl:xs.length<=100000000)
 (k:∀ v1 v' w',ZE T w0 w' v' (xs++[z])->Stp (ob v) w w'->WL P n ops Q rest ((d2,v') :: (d1,v1) :: e) w')
 (hx:ev e x=some v:=by exact rfl) (hy:Jt e [(0,y)]=some [(0,u)]:=by exact rfl) (bj:∀ w:World,(Instr.buildSlice t 1 #[(0,u)]).run P w=.ok (.slice (some ⟨w.heap.size,0,none⟩) 1 1) (w.alloc (.cells (Z3.enc z).toArray T)):=by intro w;kernel_rfl)
 (mc:∀ v1,ev ((d1,v1) :: e) x=some v:=by intro _;exact rfl) (ic:∀ v1,ev ((d1,v1) :: e) (.tmp d1)=some v1:=by intro _;exact rfl)
 (dQ:z0.cells.size=Z5.k β:=by exact rfl) (aW:0<Z5.k β:=by decide) (dX:bytes<=1000:=by decide) (h1:Nat.blt d1 n=true:=by exact rfl) (h2:Nat.blt d2 n=true:=by exact rfl) :
 WL P n ops Q (⟨some d1,.buildSlice t 1 #[(0,y)],ty,pos,af,none⟩ :: ⟨some d2,.call { callee:=.builtin .append,args:=#[x,.tmp d1],argTypes:=#[t,t] },ty',pos',af',none⟩ :: rest) e w:=by
 refine Z0 (Z1 (l:=[(0,y)]) (vs:=[(0,u)]) hy bj) h1 ?_;intro v1 w1 hN;have hT:Stp [] w w1:=hN.choose_spec.2.2.2;have an:SlV (ob v) w1 v1 [z]:=hN.slv (λb hb=>(hr.ob_le b hb).2) rfl (by simp) (by simp [maxLen]);refine Z0 (Jy dQ aW (mc v1) (ic v1) (hr.up hT) an (by
  simp only [Xe,Xf];exact Xg (Ybb (Ybh hl 1) dX) (by omega)) (by simp only [Xe,Xf,maxLen];omega)) h2 ?_
 rintro v' w2 ⟨g1,g2,-⟩;exact k v1 v' w2 g1 (hT.mn.trans g2)
theorem APR {β:Type} [Z3 β] {X:List Nat} {T t bytes d1 d2 base:Nat} {x y:Operand} {v z0 u:Value} {xs:List β} [ht:Und P t (.slice T)] [hk:Siz P T (Z5.k β)] [hb:Byt P T bytes] [hz:Zer P T z0] (z:β) (hr:Row X w base T v xs) (hX:∀ b∈X,b<w.heap.size) (dD:base<=w.heap.size) (hl:xs.length<=100000000)
 (k:∀ v1 v' w',Row X w' base T v' (xs++[z])->Stp (ob v) w w'->(∀ b∈ob v',b∈ob v\/w.heap.size<=b)->WL P n ops Q rest ((d2,v') :: (d1,v1) :: e) w')
 (hx:ev e x=some v:=by exact rfl) (hy:Jt e [(0,y)]=some [(0,u)]:=by exact rfl) (bj:∀ w:World,(Instr.buildSlice t 1 #[(0,u)]).run P w=.ok (.slice (some ⟨w.heap.size,0,none⟩) 1 1) (w.alloc (.cells (Z3.enc z).toArray T)):=by intro w;kernel_rfl)
 (mc:∀ v1,ev ((d1,v1) :: e) x=some v:=by intro _;exact rfl) (ic:∀ v1,ev ((d1,v1) :: e) (.tmp d1)=some v1:=by intro _;exact rfl)
 (dQ:z0.cells.size=Z5.k β:=by exact rfl) (aW:0<Z5.k β:=by decide) (dX:bytes<=1000:=by decide) (h1:Nat.blt d1 n=true:=by exact rfl) (h2:Nat.blt d2 n=true:=by exact rfl) :
 WL P n ops Q (⟨some d1,.buildSlice t 1 #[(0,y)],ty,pos,af,none⟩ :: ⟨some d2,.call { callee:=.builtin .append,args:=#[x,.tmp d1],argTypes:=#[t,t] },ty',pos',af',none⟩ :: rest) e w:=by
 refine Z0 (Z1 (l:=[(0,y)]) (vs:=[(0,u)]) hy bj) h1 ?_;intro v1 w1 hN;have hT:Stp [] w w1:=hN.choose_spec.2.2.2;have an:SlV (ob v++X) w1 v1 [z]:=hN.slv (λb hb=>by
  rcases Xh.1 hb with h|h
  exact (hr.ob_le b h).2;exact hX b h) rfl (by simp) (by simp [maxLen])
 refine Z0 (Zx (X:=X) (base:=base) dQ aW (mc v1) (ic v1) (hr.up hT) an (by
  simp only [Xe,Xf];exact Xg (Ybb (Ybh hl 1) dX) (by omega)) (by simp only [Xe,Xf,maxLen];omega) (Xg dD hT.size)) h2 ?_
 rintro v' w2 ⟨g1,g2,g3⟩;exact k v1 v' w2 g1 (hT.mn.trans g2) (λb hb=>(g3 b hb).imp id (Xg hT.size))
end Go.Eng
namespace Go.Proofs.YtipfkbkkndacjaaGreatDoor
open Go Go.Eng Go.RowKit
def Z6g (l:List Fct):Nat->Fct
 | 0=>l.getD 0 default
 | k+1=>if Z4z (l.getD (k+1) default) (Z6g l k)<0 then l.getD (k+1) default else Z6g l k
theorem Zjo (v:Value) (l:List Fct) (w) (hs:SlV [] w v l) (hn:l≠[]):CC 86 #[v,.func (.func 43) #[] #[]] w λr w'=>r=.agg (Z3.enc (Z6g l (l.length - 1))).toArray/\Stp [] w w':=by
 have aT:=hs.max;have aW:0<l.length:=X8.2 hn;refine cW2 33 Tryz.func86 ?_;refine W ?_;refine Z0 Z2 rfl ?_;rintro _ w1 ⟨b4,rfl,bD,e4,hS⟩;have cm:=hs.up hS;refine QO ?_;refine Z0 Z2 rfl ?_;rintro _ w2 ⟨b5,rfl,ji,e5,hT⟩;have l4:=e4.lt;replace e4:=e4.up hT;refine SA (us:=Z3.enc l[0]) e5 ?_;rintro _ w3 ⟨aq,e5⟩;replace e4:=e4.ext aq (by simp;omega);replace hS:=hS.trans (hT.ow aq);clear hT aq cm;have l5:=e5.lt;have g4:b4≠b5:=by omega
 have g5:w.heap.size<=b5:=by have:=hS.size;omega
 refine W ?_;refine LP (σ:=Nat) (λk=>[(0,v),(1,.func (.func 43) #[] #[]),(4,pQ b4),(5,pQ b5),(6,.I ((k:Int)+1))]) (λk w'=>k<l.length/\Stp [] w w'/\Blk w' b5 45 (Z3.enc (Z6g l k))/\(∃ cs,Blk w' b4 45 cs/\cs.length=6)) (λk=>l.length - k) 0 ⟨aW,hS,by rw [Z6g,show l.getD 0 default=l[0] by simp [aW]];exact e5,_,e4,rfl⟩ ?_;clear e4 e5 hS;rintro k w4 ⟨hk,hS,e5,cs4,e4,fi⟩;have cm:=hs.up hS;by_cases hlt:k+1<l.length;have hstep:Z6g l (k+1)=if Z4z l[k+1] (Z6g l k)<0 then l[k+1] else Z6g l k:=by rw [Z6g,show l.getD (k+1) default=l[k+1] by simp [hlt]]
 generalize Z6g l k=m at *;refine QO ?_;refine ZDr 8 [] [] [(0,0),(1,0),(2,0),(3,0),(4,1),(5,1),(6,2),(7,0)] (λw1 ae=>?_);replace cm:=cm.up ae;replace e5:=e5.up ae;replace e4:=e4.up ae;replace hS:=hS.trans ae;clear ae;refine D ?_;refine DP hS (Zjn l[k+1] m _) λw5 hT hS=>?_;replace cm:=cm.up hT;replace e5:=e5.up hT;replace e4:=e4.up hT;refine D ?_;by_cases hc:Z4z l[k+1] m<0;rw [if_pos hc] at hstep;refine QO ?_;refine SA (us:=Z3.enc l[k+1]) e5 ?_;rintro _ w6 ⟨aq,e5⟩;replace e4:=e4.ext aq (by simp;omega);replace hS:=hS.ow aq;refine QO ?_;exact QL (k+1) ⟨hlt,hS,by rw [hstep];exact e5,_,e4,fi⟩ (by omega);rw [if_neg hc] at hstep;refine QO ?_;exact QL (k+1) ⟨hlt,hS,by rw [hstep];exact e5,_,e4,fi⟩ (by omega);refine QO ?_;refine Z6 (Zi (us:=Z3.enc (Z6g l k)) rfl rfl rfl rfl (Z3.one _) e4 fi.symm) ?_;rintro _ w6 ⟨aq,e4⟩;refine QO ?_;refine J0 rfl rfl rfl e4 rfl ?_;rw [show l.length - 1=k by omega];exact .mk ⟨rfl,hS.ow aq⟩
theorem ZmB (w):(Instr.build 45 #[]).run Tryz.prog w=.ok (aG (default:Fct)) w:=by kernel_rfl
def Z86 (f:Fct) (unl:Str) (due:Int) (g:Fct):Bool:=decide (unl≠[]/\g.kind=unl/\g.by_=f.to_/\g.day<=due/\(f.day<=g.day\/due<f.day))
def Z6h (fs:List Fct) (f:Fct) (unl:Str) (due:Int):List Fct:=fs.filter (Z86 f unl due)
def Z3Q (fs:List Fct) (f:Fct) (unl:Str) (due:Int):Fct×Bool:=if Z6h fs f unl due=[] then (default,false) else (Z6g (Z6h fs f unl due) ((Z6h fs f unl due).length - 1),true)
theorem ZfR (fs:List Fct) (f:Fct) (unl:Str) (due:Int) (k:Nat) (h:k<fs.length):Z6h (fs.take (k+1)) f unl due=Z6h (fs.take k) f unl due++if Z86 f unl due fs[k]=true then [fs[k]] else []:=by
 unfold Z6h;rw [Xi h,Ya5];congr 1;cases hc:Z86 f unl due fs[k]<;>simp [hc]
theorem ZdA (c:Cas) (R:Z0T) (f:Fct) (unl:Str) (due:Int) (w) (hs:SlV [] w R.fv c.fcts) (hl:c.fcts.length<=10000000):CC 56 #[.agg (Jw c R).toArray,aG f,str unl,.I due] w λr w'=>r=.tuple #[.agg (Z3.enc (Z3Q c.fcts f unl due).1).toArray,.B (Z3Q c.fcts f unl due).2]/\Stp [] w w':=by
 refine cW4 65 Tryz.func56 ?_;refine W ?_;refine BX (Stp.refl [] w) λb4 w1 h4 e4 _ hS=>?_;replace e4:Blk w1 b4 37 (Jw c R):=e4;refine BX hS λb5 w2 h5 e5 hT hS=>?_;replace e5:Blk w2 b5 45 (Z3.enc f):=e5;replace e4:=e4.up hT;refine W ?_;refine Z0 Z2 rfl ?_;rintro _ w3 ⟨b8,rfl,fk,e8,hT⟩;have g8:w.heap.size<=b8:=Xg hS.size fk;replace e4:=e4.up hT;replace e5:=e5.up hT;replace hS:=hS.trans hT;have ey:=hs.up hS;refine W ?_;refine LP (σ:=Nat×Value) (λq=>[(2,str unl),(3,.I due),(4,pQ b4),(5,pQ b5),(8,pQ b8),(9,.B false),(10,q.2),(14,R.fv),(15,.I c.fcts.length),(16,.I q.1)]) (λq w'=>q.1<=c.fcts.length/\ZE 45 w3 w' q.2 (Z6h (c.fcts.take q.1) f unl due)) (λq=>c.fcts.length - q.1) (0,.N) ⟨by omega,ZE.nil⟩ ?_;rintro ⟨k,rv⟩ w4 ⟨hk,hr⟩;dsimp only at hk hr ⊢;have e4':=e4.up hr.2;have e5':=e5.up hr.2;have dz:=ey.up hr.2;by_cases hlt:k<c.fcts.length
 . have hstep:=ZfR c.fcts f unl due k hlt
   refine QO ?_;refine Z0 Z2 rfl ?_;rintro _ w5 ⟨b12,rfl,kV,e12,hT⟩;refine SA (us:=Z3.enc c.fcts[k]) e12 ?_;rintro _ w6 ⟨aq,e12⟩;replace hT:=hT.ow aq;replace e4':=e4'.up hT;replace e5':=e5'.up hT;replace hr:=hr.up hT;clear hT aq dz;repeat'(first|refine W1 ?_|omega|refine VG ?_ ?_<;>intro hg|refine VC ?_ ?_<;>intro hc)
   all_goals first
    | exact QL (k + 1, rv) ⟨hlt, by
       rw [hstep,if_neg,XH];exact hr;simp only [Z86,decide_eq_true_eq];rintro ⟨a,b,c,d,e⟩;first|contradiction|omega⟩ (by dsimp only;omega)
    | refine AP1 c.fcts[k] hr (Xg (XW _ _) (by simp; omega)) λv1 v' w' bM _ => ?_
      refine QO ?_;exact QL (k+1,v') ⟨hlt,by
       rw [hstep,if_pos (show Z86 f unl due c.fcts[k]=true from decide_eq_true ⟨by assumption,by assumption,by omega,by omega,by omega⟩)];exact bM⟩ (by dsimp only;omega)
 have eU:SlV [] w4 rv (Z6h (c.fcts.take k) f unl due):=hr.slv (by simp);obtain rfl:k=c.fcts.length:=by omega
 rw [Xp] at eU;have e8':=e8.up hr.2;replace hS:=hS.trans hr.2;clear hr;unfold Z3Q;generalize Z6h c.fcts f unl due=L at *;have hz:((L.length:Int)=0)↔L=[]:=by simp
 (refine QP ?_ ?_<;>intro hc)
 obtain rfl:L=[]:=hz.1 (by assumption);refine Z7 (vs:=[]) rfl ZmB rfl ?_;refine Z6 (Zi (us:=Z3.enc (default:Fct)) rfl rfl rfl rfl (Z3.one _) e8' rfl) ?_;rintro _ w6 ⟨aq,e8''⟩;refine W ?_;refine Zj rfl rfl rfl e8'' rfl rfl ?_;exact .mk ⟨rfl,hS.ow aq⟩;have hL:L≠[]:=λh=>absurd (hz.2 h) (by assumption)
 rw [if_neg hL];refine CP hS (Zjo rv L w4 eU hL) λw5 hT hS=>?_;replace e8':=e8'.up hT;refine Z6 (Zi (us:=Z3.enc (Z6g L (L.length - 1))) rfl rfl rfl rfl (Z3.one _) e8' rfl) ?_;rintro _ w6 ⟨aq,e8''⟩;refine W ?_;refine Zj rfl rfl rfl e8'' rfl rfl ?_;exact .mk ⟨rfl,hS.ow aq⟩
theorem ZvM (a b:Ins) (w):(binOp .eql 171 (agg a) (agg b)).run Tryz.prog w=.ok (.B (decide (a=b))) w:=by
 have h1:Program.stoodInHeld Tryz.prog 171=false:=by kernel_rfl
 obtain ⟨a1,a2⟩:=a;obtain ⟨b1,b2⟩:=b;simp [agg,Z3.enc,run_eql_struct,run_equalIn_struct,h1,Program.fieldsOf,Tryz.underlying171,Op.eqFields,part,Und.isAgg,Z0C,run_equalIn_int w _ _ .i64 .i64 _ _ Tryz.underlying3];repeat' split
 all_goals simp_all
theorem ZdB (v:Value) (l:List Ins) (x:Ins) (w) (hs:SlV [] w v l):CC 153 #[v,agg x] w λr w'=>(∃ z:Int,r=.I z/\(0<=z↔x∈l))/\Stp [] w w':=by
 have aT:=hs.max;refine cW2 19 Tryz.func153 ?_;refine W ?_;refine BX (Stp.refl [] w) λb3 w1 h3 e3 _ hS=>?_;replace e3:Blk w1 b3 171 (Z3.enc x):=e3;have cm:=hs.up hS;refine W ?_;refine LP (σ:=Nat) (λk=>[(0,v),(3,pQ b3),(6,v),(7,.I l.length),(8,.I k)]) (λk w'=>k<=l.length/\Stp [] w1 w'/\∀ j (h:j<l.length),j<k->l[j]≠x) (λk=>l.length - k) 0 ⟨by omega,Stp.refl _ _,by omega⟩ ?_;rintro k w2 ⟨hk,hT,hz⟩;have br:=cm.up hT;have e3':=e3.up hT;by_cases hlt:k<l.length;refine QO ?_;refine ZDr 6 [] [] [(0,1),(1,0),(2,0),(3,0),(4,1),(5,0)] (λw1 ae=>?_);replace br:=br.up ae;replace e3':=e3'.up ae;replace hT:=hT.trans ae;refine D ?_;apply Z2t;exact rfl;refine ZlX (c:=x=l[k]) trivial rfl rfl (λw=>Zsf _ _ _ x l[k] w) (by intro w;exact ZvM x l[k] w) rfl ?_;refine D ?_
 (refine QP ?_ ?_<;>intro hc)
 refine RU ?_;exact ⟨⟨_,rfl,by constructor<;>intro _<;>first|omega|(rw [hc];exact Xd hlt)⟩,hS.trans hT⟩;exact QL (k+1) ⟨hlt,hT,λj h hj=>by
  by_cases e:j=k;subst e;exact λh=>hc h.symm;exact hz j h (by omega)⟩ (by omega)
 refine RT ?_;exact ⟨⟨_,rfl,by
  constructor;intro h;omega;intro h;obtain ⟨j,hj,e⟩:=Xr h;exact absurd e (hz j hj (by omega))⟩,hS.trans hT⟩
theorem Z87 (v:Value) (l:List Ins) (x:Ins) (w) (hs:SlV [] w v l):CC 85 #[v,agg x] w λr w'=>r=.B (decide (x∈l))/\Stp [] w w':=by
 refine cW2 9 Tryz.func85 ?_;refine W ?_;refine BX (Stp.refl [] w) λb3 w1 h3 e3 _ hS=>?_;replace e3:Blk w1 b3 171 (Z3.enc x):=e3;refine W ?_;refine CG (ZdB v l x _ (hs.up hS)) ?_;rintro _ w2 ⟨⟨z,rfl,hz⟩,hT⟩;refine RT ?_;exact ⟨congrArg Value.bool (decide_eq_decide.2 hz),hS.trans hT⟩
def Z3d (l:List Ins):Bool:=decide ((⟨4,1⟩:Ins)∈l) || decide ((⟨4,2⟩:Ins)∈l)
theorem ZbY (a b:Int) (w):(Instr.build 171 #[(0,.I a),(1,.I b)]).run Tryz.prog w=.ok (agg (⟨a,b⟩:Ins)) w:=by kernel_rfl
theorem ZbZ (v:Value) (l:List Ins) (w) (hs:SlV [] w v l):CC 54 #[v] w λr w'=>r=.B (Z3d l)/\Stp [] w w':=by
 refine cW1 11 Tryz.func54 ?_;refine W ?_;refine Z7 (vs:=[(0,.I 4),(1,.I 1)]) rfl (ZbY _ _) rfl ?_;refine CP (Stp.refl [] w) (Z87 v l _ w hs) λw1 _ hS=>?_;unfold Z3d;by_cases h1:(⟨4,1⟩:Ins)∈l;rw [decide_eq_true h1];refine RT ?_;exact ⟨rfl,hS⟩;rw [decide_eq_false h1];refine QO ?_;refine Z7 (vs:=[(0,.I 4),(1,.I 2)]) rfl (ZbY _ _) rfl ?_;refine W ?_;refine CP hS (Z87 v l _ _ (hs.up hS)) λw2 _ hS=>?_;refine RT ?_;exact ⟨by simp,hS⟩
end Go.Proofs.YtipfkbkkndacjaaGreatDoor
namespace Go.Eng
open Go Go.RowKit Go.Proofs
section
variable {P:Program} {n:Nat} {Q:Exit->Act->World->Prop} {e:Env} {w w0 w':World} {rest:List Oper} {ops:Array Oper} {ty:TypeId} {pos:String} {af:Array Edge} {dd:Option Nat} {g:Option (Nat×Bool)}
structure StD (w w':World):Prop where
 s:Stp [] w w'
 d:w.drawn<=w'.drawn
theorem StD.refl (w):StD w w:=⟨Stp.refl _ _,Xn _⟩
theorem StD.trans {a b c:World} (h:StD a b) (k:StD b c):StD a c:=⟨h.s.trans k.s,Xg h.d k.d⟩
theorem StD.grown {w w':World} (h:StD w w'):∃ q os',w'=Go.Sort.grow (w.drewN q) os':=by
 refine ⟨w'.drawn - w.drawn,w'.heap.extract w.heap.size w'.heap.size,?_⟩;obtain ⟨⟨h1,h2,h3,h4,h5⟩,h6⟩:=h;have hh:w'.heap=w.heap++w'.heap.extract w.heap.size w'.heap.size:=by
  apply Array.ext_getElem?;intro i;by_cases hi:i<w.heap.size;rw [h5 i hi (by simp),XU hi];rw [Array.getElem?_append_right (by omega),Array.getElem?_extract];by_cases cn:i<w'.heap.size;rw [if_pos (by omega)];congr 1;omega;rw [if_neg (by omega),Yau (by omega)]
 cases w';cases w;simp only [Go.Sort.grow,World.drewN] at *;subst h1 h2 h3;simp only [World.mk.injEq,true_and,and_true];exact ⟨hh,by omega⟩
theorem ZfS {id:Nat} {l:List Oper} (m:Nat) (S:List Nat) (Lt:List Nat) (ord:List (Nat×Nat)) (cp:l.length=m) (hm:P.follows .mixedOrders=true) (hs:Region.noSelect l.toArray=true) (hl:Nat.beq (wt ord) l.length=true)
 (hB:ZY l.toArray Lt ord (Array.replicate m false)=true)
 (h:∀ w',StD w w'->WD P n l.toArray S Lt Q ord e w'):WC P n (.region id l.toArray true) Q e w:=by
 subst cp;refine ⟨λa ha=>wp_region_any hm ?_⟩;have h1:=(h { w with drawn:=w.drawn+1 } ⟨Stp.drew [] w,Nat.le_succ _⟩).h _ hs hB a ha;have h2:=Z0O (Q:=Q) (λa w hz=>hz) _ _ _ _ h1;rw [XL hl] at h2;simpa using h2
theorem BXD {d:Nat} {t:TypeId} {x:Operand} {v:Value} (hS:StD w0 w) (k:∀ b w',w.heap.size<=b->Blk w' b t v.cells.toList->StD w w'->StD w0 w'->WL P n ops Q rest ((d,pQ b) :: e) w')
 (hx:ev e x=some v:=by exact rfl) (hd:Nat.blt d n=true:=by exact rfl):WL P n ops Q (⟨some d,.box t x,ty,pos,af,none⟩ :: rest) e w:=by
 have ho:OE P n ⟨some d,.box t x,ty,pos,af,none⟩ e w (λu w'=>Z7p w t v.cells.toList u w'/\w'.drawn=w.drawn):=
  J9 (v:=.pointer (some ⟨w.heap.size,0,none⟩)) (w':=w.alloc (.cells v.cells t)) (λa ha=>by
   simp [execOp,Instr.box,ha.ev hx,newVar,newRow,newObj];rfl) ⟨by simpa using Z9X w t v.cells.toList,rfl⟩
 refine Z0 ho hd ?_;rintro _ w' ⟨⟨b,rfl,hb,hk,hT⟩,he⟩;have h1:StD w w':=⟨hT,Nat.le_of_eq he.symm⟩
 exact k b w' hb hk h1 (hS.trans h1)
theorem Z88 {t T len:Nat} {l:List (Nat×Operand)} {vs:List (Nat×Value)} {cs:List Value} (hv:Jt e l=some vs)
 (hb:∀ w:World,(Instr.buildSlice t len vs.toArray).run P w=.ok (.slice (some ⟨w.heap.size,0,none⟩) len len) (w.alloc (.cells cs.toArray T))) :
 OE P n ⟨dd,.buildSlice t len l.toArray,ty,pos,af,g⟩ e w (λv w'=>Z9 w T len cs v w'/\StD w w'):=
 J9 (v:=.slice (some ⟨w.heap.size,0,none⟩) len len) (w':=w.alloc (.cells cs.toArray T)) (λa ha=>by
  have h1:=ha.parts hv;have h2:l.toArray.map (λ(x:Nat×Operand)=>match x with|(i,x)=>(i,a.eval x))=vs.toArray:=by
   rw [Ybz];exact congrArg List.toArray h1
  simp only [execOp];rw [h2];simp [hb w]) ⟨⟨w.heap.size,rfl,Xn _,heap_alloc_new w _,Stp.alloc _ _ _⟩,⟨Stp.alloc _ _ _,Xn _⟩⟩
theorem CPD {f d:Nat} {fn:Func} {xs:Array Operand} {ts:Array TypeId} {vs:Array Value} {r:Value} {c:Operand} [hf:Fun P f fn] (hS:StD w0 w) (h:Calls P f vs w (Ret λv w'=>v=r/\StD w w')) (k:∀ w',StD w w'->StD w0 w'->WL P n ops Q rest ((d,r) :: e) w')
 (hc:ev e c=some (.func (.func f) #[] #[]):=by exact rfl) (hv:∀ a,Has n e a->xs.map a.eval=vs:=by first|exact ZN rfl|exact Zf rfl rfl|exact ZI rfl rfl rfl|exact Z72 rfl rfl rfl rfl|exact Z5U) (hd:Nat.blt d n=true:=by exact rfl) :
 WL P n ops Q (⟨some d,.call { callee:=.value c,args:=xs,argTypes:=ts },ty,pos,af,none⟩ :: rest) e w:=
 Z0 (Z4 hc hv h) hd (by rintro _ w' ⟨rfl,hT⟩;exact k w' hT (hS.trans hT))
theorem DPD {Lt:List Nat} {ord:List (Nat×Nat)} {i f d:Nat} {fn:Func} {gd:Option (Nat×Bool)} {xs:Array Operand} {ts:Array TypeId} {vs:Array Value} {r:Value} {c:Operand} {S:List Nat} [hf:Fun P f fn] (hS:StD w0 w) (h:Calls P f vs w (Ret λv w'=>v=r/\StD w w')) (k:∀ w',StD w w'->StD w0 w'->WD P n ops S Lt Q ord ((d,r) :: e) w')
 (hi:ops[i]?=some ⟨some d,.call { callee:=.value c,args:=xs,argTypes:=ts },ty,pos,af,gd⟩:=by exact rfl) (hg:JT ops e gd:=by first|exact trivial|exact rfl)
 (hc:ev e c=some (.func (.func f) #[] #[]):=by exact rfl) (hv:∀ a,Has n e a->xs.map a.eval=vs:=by first|exact ZN rfl|exact Zf rfl rfl|exact ZI rfl rfl rfl|exact Z72 rfl rfl rfl rfl|exact Z5U) (hd:Nat.blt d n=true:=by exact rfl) :
 WD P n ops S Lt Q ((i,2) :: ord) e w:=
 Za hi hg (Z4 hc hv h) (λ_ _ h=>h.2.s.mn) hd (by rintro _ w' ⟨rfl,hT⟩;exact k w' hT (hS.trans hT))
end
section
variable {w:World} {T:Nat}
theorem ZfT {g q:Nat} {cur F:Array Value} (os:Array Obj) (h:w.heap[g]?=some (.cells cur T (0,0))) (hl:F.size<=cur.size) :
 Stp [g] w (Go.Sort.grow (Go.Sort.putRow id (Go.Sort.ahead w q) g 0 F) os)/\
 ∃ cur',(Go.Sort.grow (Go.Sort.putRow id (Go.Sort.ahead w q) g 0 F) os).heap[g]?=some (.cells cur' T (0,0))/\cur'.size=cur.size/\cur'.toList.take F.size=F.toList:=by
 have hlt:g<w.heap.size:=(Xk.1 h).1;have hh:(Go.Sort.grow (Go.Sort.putRow id (Go.Sort.ahead w q) g 0 F) os).heap=w.heap.modify g (Go.Sort.onCells (Go.Sort.putCells id 0 F))++os:=rfl;refine ⟨⟨rfl,rfl,rfl,by rw [hh];simp,λb hb hn=>?_⟩,Go.Sort.putCells id 0 F cur,?_,by simp [Go.Sort.putCells],?_⟩;rw [hh,XU (by simpa using hb),YaR,if_neg (by simp at hn;exact λe=>hn e.symm)];rw [hh,XU (by simpa using hlt),YaR,if_pos rfl,h];rfl;apply Yay;simp [Go.Sort.putCells];omega;intro i h1 h2;have hi:i<F.size:=by simpa using h2
 simp [Go.Sort.putCells,hi]
theorem ZdC {g:Nat} {cur F:Array Value} (h:w.heap[g]?=some (.cells cur T (0,0))) (ht:cur.toList.take F.size=F.toList):Go.Sort.Holds id w g 0 F:=by
 intro j hj;have hc:cur[j]?=some F[j]:=by
  have h1:(cur.toList.take F.size)[j]?=some F[j]:=by rw [ht];simp [hj]
  rw [Yae,if_pos hj] at h1;simpa using h1
 constructor;simp [World.cell?,h,hc,hj];simp [World.frozen?,h]
theorem Z89 {β:Type} [Z3 β] [Inhabited β] (hk:0<Z3.k β) (xs:List β):(Go.Sort.flatK Z3.enc (Z3.k β) xs.toArray).toList=(xs.map Z3.enc).flatten:=by
 have ai:((xs.map Z3.enc).flatten:List Value).length=xs.length * Z3.k β:=by
  rw [Z0X (k:=Z3.k β) _ (by intro c hc;obtain ⟨x,_,rfl⟩:=XG.1 hc;exact Z3.len x),Xs]
 apply List.ext_getElem?;intro t;by_cases ht:t<xs.length * Z3.k β;have hq:t / Z3.k β<xs.length:=Nat.div_lt_of_lt_mul (by rwa [Ya7] at ht);have hr:t % Z3.k β<Z3.k β:=YbC _ hk;have h1:=Z0i (k:=Z3.k β) (xs.map Z3.enc) (by intro c hc;obtain ⟨x,_,rfl⟩:=XG.1 hc;exact Z3.len x) (t / Z3.k β) (by simpa using hq) (t % Z3.k β) ((Z3.enc xs[t / Z3.k β])[t % Z3.k β]'(by rw [Z3.len];exact hr)) (by simp [Z3.len,hr]);rw [Ya7,Ybi] at h1;rw [h1];have h2:=Go.Sort.get_flatK Z3.enc (Z3.k β) xs.toArray t (by simpa using ht);have hs:t<(Go.Sort.flatK Z3.enc (Z3.k β) xs.toArray).size:=by simpa using ht
 rw [getElem!_pos _ t hs] at h2;rw [YaS,YaW hs,h2];congr 1;rw [getElem!_pos xs.toArray _ (by simpa using hq),getElem!_pos _ _ (by rw [Z3.len];exact hr)];simp;rw [YaQ (by simpa using Ybx ht),YaQ (by rw [ai];omega)]
theorem Row.toK {β:Type} [Z3 β] {X:List Nat} {base:Nat} {v:Value} {zs:List β} (h:Row X w base T v zs) :
 (v=.N/\zs=[])\/∃ g cap cur,v=.slice (some ⟨g,0,none⟩) zs.length cap/\base<=g/\w.heap[g]?=some (.cells cur T (0,0))/\zs.length<=cap/\cap<=maxLen/\cur.size=cap * Z3.k β/\cur.toList.take (zs.length * Z3.k β)=(zs.map Z3.enc).flatten:=by
 obtain ⟨css,hl,hr,hx,ho⟩:=h;have hc:css=zs.map Z3.enc:=by
  apply Yay (by simpa using hl);intro i h1 h2;have:css[i]=Z3.enc zs[i]:=hr i (by omega) h1;simp [this]
 subst hc;rcases ho with ⟨rfl,hn⟩|⟨g,cap,cur,rfl,hb,hg,cM,bU,aV,ht⟩
 exact .inl ⟨rfl,Xv.1 hn⟩;exact .inr ⟨g,cap,cur,rfl,hb,hg,cM,bU,aV,ht⟩
theorem Row.ofK {β:Type} [Z3 β] {X:List Nat} {base g cap:Nat} {cur:Array Value} {zs:List β} (hb:base<=g) (hg:w.heap[g]?=some (.cells cur T (0,0))) (cM:zs.length<=cap) (bU:cap<=maxLen) (aV:cur.size=cap * Z3.k β)
 (ht:cur.toList.take (zs.length * Z3.k β)=(zs.map Z3.enc).flatten):Row X w base T (.slice (some ⟨g,0,none⟩) zs.length cap) zs:=
 ⟨zs.map Z3.enc, by simp, λi h1 h2 => by simp; rfl, by
   rw [Z0X (k:=Z3.k β) _ (by intro c hc;obtain ⟨x,_,rfl⟩:=XG.1 hc;exact Z3.len x),Xs];rfl,
   .inr ⟨g,cap,cur,rfl,hb,hg,cM,bU,aV,ht⟩⟩
theorem Z1X {β:Type} [Z3 β] {X X':List Nat} {base:Nat} {v:Value} {zs:List β} (h:Row X w base T v zs):Row X' w base T v zs:=by
 rcases h.toK with ⟨rfl,rfl⟩|⟨g,cap,cur,rfl,hb,hg,cM,bU,aV,ht⟩
 exact Row.nil;exact Row.ofK hb hg cM bU aV ht
open Go.Shelf Go.Sort in
theorem Z9p {β:Type} [Z3 β] [Inhabited β] {P:Program} {ρ:Ren} (fh:0<Z3.k β) (L:SlLaysF0.n6 P ρ) (aE:∀ w,(isAgg (ρ.t 24)).run P w=.ok true w) (zE:∀ w,(Go.sizeOf (ρ.t 24)).run P w=.ok (Z3.k β) w) (cf:β->β->Int) (hO:SWO (ltOf cf)) (g:Nat) {fn:Func} [hf:Fun P g fn]
 (qK:∀ (x y:β) (w),Calls P g #[aG x,aG y] w (Ret λr w'=>r=.I (cf x y)/\StD w w'))
 {X:List Nat} {base:Nat} {v:Value} {zs:List β} (h:Row X w base T v zs) (bE:zs.length<4611686018427387904) :
 Calls P (ρ.f 6) #[v,.func (.func g) #[] #[]] w (Ret λr w'=>r=.tuple #[]/\∃ zs':List β,zs'.Perm zs/\(∀ i j (hi:i<zs'.length) (hj:j<zs'.length),i<j->¬ cf zs'[j] zs'[i]<0)/\Row X w' base T v zs'/\Stp (ob v) w w'):=by
 rcases h.toK with ⟨rfl,rfl⟩|⟨gb,cap,cur,rfl,hb,hg,cM,bU,aV,ht⟩
 refine (AnyF.slices_SortFunc_none L none 0 _ w).mono ?_;rintro _ _ ⟨rfl,rfl⟩;exact .mk ⟨rfl,[],YaB _,λi j hi=>absurd hi (Xt _),Row.nil,Stp.refl _ _⟩;have hlt:gb<w.heap.size:=(Xk.1 hg).1;have hC:CmpLays P g #[] Z3.enc (Z3.k β) cf gb 0 zs.toArray.size w:=λm os dk hs x y=>by
  refine (qK x y _).mono ?_;rintro _ _ ⟨_,rfl,rfl,hD⟩;exact ⟨rfl,hD.grown⟩
 have hH:HoldsK Z3.enc (Z3.k β) w gb 0 zs.toArray:=ZdC hg (by rw [size_flatK,Z89 fh];simpa using ht);have hS:=AnyQ.slices_SortFunc L (Z3.k β) aE zE Z3.enc Z3.len Z3.one cf hO g #[] gb 0 cap zs.toArray w (λargs w=>hf.enters args w) hC hH hlt (by simpa using bE);rw [show zs.toArray.size=zs.length by simp] at hS;refine hS.mono ?_;rintro _ _ ⟨rfl,d',q,os,⟨p1,p2,p3⟩,ec,rfl⟩;have hl:d'.size=zs.length:=by simpa using p1
 have hp:d'.toList.Perm zs:=by
  have e1:d'.extract 0 zs.length=d':=by rw [<- hl];simp
  have e2:zs.toArray.extract 0 zs.length=zs.toArray:=by simp
  rw [e1,e2] at p3;simpa using p3
 obtain ⟨h1,cur',h2,h3,h4⟩:=ZfT (q:=q) (F:=flatK Z3.enc (Z3.k β) d') os hg (by rw [size_flatK,hl,aV];exact Xo _ cM);refine .mk ⟨rfl,d'.toList,hp,λi j hi hj dC=>?_,?_,h1⟩;have:=ec i j (Xq _) dC (by simpa [hl] using hj);simp only [ltOf,decide_eq_false_iff_not] at this;rw [getElem!_pos d' j (by simpa using hj),getElem!_pos d' i (by simpa using hi)] at this;simpa using this;have hz:zs.length=d'.toList.length:=by simp [hl]
 rw [hz];refine Row.ofK hb h2 (by rw [<- hz];exact cM) bU (by rw [h3,aV]) ?_;rw [<- hz,<- hl,<- size_flatK Z3.enc (Z3.k β) d',h4];have:=Z89 fh d'.toList;simpa using this
end
variable {P:Program} {n:Nat} {e:Env} {w:World} {d:Option Nat} {ty:TypeId} {pos:String} {af:Array Edge} {g:Option (Nat×Bool)}
theorem ZeA {T k bytes:Nat} {z:Value} [hk:Siz P T k] [hb:Byt P T bytes] [hz:Zer P T z]:∃ i,P.info? T=some i/\i.size=k/\i.bytes=bytes/\i.zero=some z:=by
 have a1:=hk.h;have a2:=hb.h;have a3:=hz.h;cases hi:P.info? T with
 | none=>simp [hi] at a1
 | some i=>exact ⟨i,rfl,by simpa [hi] using a1,by simpa [hi] using a2,by simpa [hi] using a3⟩
def ZwH (T k m:Nat) (w:World) (v:Value) (w':World):Prop:=∃ b cur,v=.slice (some ⟨b,0,none⟩) m m/\w.heap.size<=b/\w'.heap[b]?=some (.cells cur T (0,0))/\cur.size=m * k/\m<=maxLen/\Stp [] w w'
theorem Z8M {t T bytes k m:Nat} {x y:Operand} {z:Value} [ht:Und P t (.slice T)] [hk:Siz P T k] [hb:Byt P T bytes] [hz:Zer P T z]
 (hx:ev e x=some (.I (m:Int))) (hy:ev e y=some (.I (m:Int))) (gH:m<=maxLen) (hbytes:bytes * m<=281474976710656) :
 OE P n ⟨d,.makeSlice t x y,ty,pos,af,g⟩ e w (ZwH T k m w):=by
 obtain ⟨i,hi,bN,cn,fw⟩:=ZeA (P:=P) (T:=T) (k:=k) (bytes:=bytes) (z:=z);obtain ⟨w',bj,cb,qb⟩:=run_make_full (P:=P) w w.heap.size t T i z k ht.h hi fw bN .i64 .i64 m (by rw [cn];exact hbytes) gH (Xn _);refine J9 (v:=.slice (some ⟨w.heap.size,0,none⟩) m m) (w':=w') (λa ha=>?_) ?_;simp [execOp,ha.ev hx,ha.ev hy,bj];rcases cb.2 with ⟨h,_⟩|⟨gb,cap,cur,h,cu,hg,hn,hm,aV,ma⟩
 cases h;cases h;exact ⟨_,cur,rfl,Xn _,hg,aV,gH,Stp.of_grown qb⟩
theorem Zjp {β:Type} [Z3 β] {t T bytes b:Nat} {x y:Operand} {z u:Value} {zs:List β} {cur:Array Value} {base:Nat} [ht:Und P t (.slice T)] [hk:Siz P T (Z5.k β)] [hb:Byt P T bytes] [hz:Zer P T z]
 (hx:ev e x=some (.slice (some ⟨b,0,none⟩) zs.length zs.length)) (hy:ev e y=some u) (hs:SlV [] w u zs) (hg:w.heap[b]?=some (.cells cur T (0,0))) (aV:cur.size=zs.length * Z5.k β) (aY:base<=b) (hm:zs.length<=maxLen) :
 OE P n ⟨d,.call { callee:=.builtin .copy,args:=#[x,y],argTypes:=#[t,t] },ty,pos,af,g⟩ e w (λ_ w'=>(∀ X,Row X w' base T (.slice (some ⟨b,0,none⟩) zs.length zs.length) zs)/\Stp [b] w w'):=by
 obtain ⟨i,hi,bN,cn,fw⟩:=ZeA (P:=P) (T:=T) (k:=Z5.k β) (bytes:=bytes) (z:=z);have dS:((zs.map Z3.enc).flatten:List Value).length=zs.length * Z5.k β:=by
  rw [Z0X (k:=Z3.k β) _ (by intro c hc;obtain ⟨x,_,rfl⟩:=XG.1 hc;exact Z3.len x),Xs];rfl
 have aF:∀ v∈(zs.map Z3.enc).flatten,v.oneCell'=true:=by
  intro v hv;obtain ⟨c,hc,fq⟩:=List.mem_flatten.1 hv;obtain ⟨x,_,rfl⟩:=XG.1 hc;exact Z3.one x v fq
 have ay:=run_storeCells_at (P:=P) b 0 T (zs.map Z3.enc).flatten 0 cur w hg (by rw [dS,aV];omega) aF;obtain ⟨p,c,rfl,xX,bU,cK,ar⟩:=hs;have pZ:(Builtin.firstCells (Z5.k β) zs.length (.slice p zs.length c)).run P w=.ok (zs.map Z3.enc).flatten.toArray w:=by
  cases p with
  | none=>
    have h0:zs.length=0:=by have:=cK rfl;omega
    obtain rfl:=Xv.1 h0;simp [Builtin.firstCells]
  | some a=>
    have:=run_loadCells_list (P:=P) (w:=w) a (zs.map Z3.enc).flatten (λj v hj=>by
     have fy:j<zs.length * Z3.k β:=by
      have h1:=(Xu.1 hj).1;rw [dS] at h1;exact h1
     have vt:0<Z3.k β:=by
      rcases Nat.eq_zero_or_pos (Z3.k β) with h|h
      rw [h] at fy;omega;exact h
     have hq:j / Z3.k β<zs.length:=Nat.div_lt_of_lt_mul (by rwa [Ya7] at fy);have hr:j % Z3.k β<Z3.k β:=YbC _ vt;obtain ⟨b',o,cs,h1,h2,h3,h4,h5⟩:=ar _ hq;cases h1;have oO:cs=Z3.enc zs[j / Z3.k β]:=h4;have h6:=Z0i (k:=Z3.k β) (zs.map Z3.enc) (by intro c hc;obtain ⟨x,_,rfl⟩:=XG.1 hc;exact Z3.len x) (j / Z3.k β) (by simpa using hq) (j % Z3.k β) ((Z3.enc zs[j / Z3.k β])[j % Z3.k β]'(by rw [Z3.len];exact hr)) (by simp [Z3.len,hr]);rw [Ya7,Ybi] at h6;rw [h6] at hj;have h7:=h5 (j % Z3.k β) _ (by rw [oO];exact XB (by rw [Z3.len];exact hr));rw [XQ hj] at h7;have h8:o+j / Z3.k β * Z3.k β+j % Z3.k β=o+j:=by
      have:=Ybi j (Z3.k β);rw [Ya7] at this;omega
     have h9:(⟨b',o,none⟩:Addr).add j=⟨b',o+j,none⟩:=by unfold Addr.add;split<;>simp_all
     rw [h9,<- h8];exact h7)
    rw [dS] at this;simpa [Builtin.firstCells] using this
 refine J9 (v:=goInt zs.length) (w':=w.setRow b ((zs.map Z3.enc).flatten++cur.toList.drop ((zs.map Z3.enc).flatten.length)).toArray) (λa ha=>?_) ⟨λX=>?_,Z1K _ _ _⟩;have hr:(Builtin.copy_ #[t,t] ty #[.slice (some ⟨b,0,none⟩) zs.length zs.length,.slice p zs.length c]).run P w=.ok (goInt zs.length) (w.setRow b ((zs.map Z3.enc).flatten++cur.toList.drop ((zs.map Z3.enc).flatten.length)).toArray):=by
  simp only [Ybn,XK,YbI,XC] at ay;simp [Builtin.copy_,run_underlying ht.h,Builtin.lenOf,sizeOf,typeInfo,hi,bN,pZ,ay]
 generalize w.setRow b ((zs.map Z3.enc).flatten++cur.toList.drop ((zs.map Z3.enc).flatten.length)).toArray=W' at hr ⊢;simp [execOp,resolve,invoke,builtin,ha.ev hx,ha.ev hy,hr];have oF:b<w.heap.size:=(Xk.1 hg).1;refine Row.ofK (cur:=((zs.map Z3.enc).flatten++cur.toList.drop ((zs.map Z3.enc).flatten.length)).toArray) aY (setRow_heap w b cur _ T (0,0) hg) (Xn _) hm ?_ ?_;have:Z3.k β=Z5.k β:=rfl;rw [this];simp only [Yas,Xc,Yan,Yag,dS,aV];omega;have:Z3.k β=Z5.k β:=rfl;rw [this];simp only [List.take_append_of_le_length (Nat.le_of_eq dS.symm)];rw [<- dS,Xp]
end Go.Eng
namespace Go.Proofs.YtipfkbkkndacjaaGreatDoor
open Go Go.Eng Go.RowKit
theorem ZfU (x y:Int) (w):CC 75 #[.I x,.I y] w λr w'=>r=.I (cmI x y)/\StD w w':=
 (Tryz.cmp_Compare_int x y w).mono (by
   rintro e w' ⟨rfl,rfl⟩;exact .mk ⟨rfl,StD.refl _⟩)
theorem Zjq (a:Str) (w):CC 126 #[str a] w λr w'=>r=.B false/\StD w w':=by
 refine cW1 6 Tryz.func126 ?_;refine RT ?_;exact ⟨by simp,StD.refl _⟩
theorem ZvN (a b:Str) (w):CC 76 #[str a,str b] w λr w'=>r=.I (Z3P a b)/\StD w w':=by
 refine cW2 20 Tryz.func76 ?_;refine W ?_;refine CPD (StD.refl w) (Zjq a _) λw1 _ hS=>?_;refine W ?_;refine CPD hS (Zjq b _) λw2 _ hS=>?_;refine W ?_;cases h1:ltS a b
 . refine Z8 (Z7g rfl rfl h1) rfl ?_
   refine W ?_;cases h2:(!(ltS a b || a == b))
   all_goals
    refine Z8 (Zez rfl rfl h2) rfl ?_;refine RT ?_;exact ⟨by rw [Z3P,if_neg (by simp [h1]),h2];rfl,hS⟩
 refine Z8 (Z7g rfl rfl h1) rfl ?_;refine RT ?_;exact ⟨by rw [Z3P,h1];rfl,hS⟩
theorem ZwI (v:Value) (l:List Int) (w) (hs:SlV [] w v l):CC 74 #[v] w λr w'=>r=.I (orL l)/\StD w w':=by
 have aT:=hs.max;refine cW1 18 Tryz.func74 ?_;refine W ?_;refine LP (σ:=Nat) (λk=>[(3,.I 0),(6,v),(7,.I l.length),(8,.I k)]) (λk w'=>k<=l.length/\StD w w'/\∀ j (h:j<l.length),j<k->l[j]=0) (λk=>l.length - k) 0 ⟨by omega,StD.refl _,by omega⟩ ?_;have bg:=hs;clear hs;rintro k w1 ⟨hk,hS,hz⟩;have hs:=bg.up hS.s;by_cases hlt:k<l.length;by_cases h0:l[k]=0;refine QO ?_;exact QL (k+1) ⟨by omega,hS,λj h hj=>by
  by_cases e:j=k;subst e;exact h0;exact hz j h (by omega)⟩ (by omega)
 refine RT ?_;exact ⟨by rw [Zdz hlt hz h0],hS⟩;refine RT ?_;exact ⟨by rw [Z85 (λj h=>hz j h (by omega))],hS⟩
theorem ZvO (f g:Fct) (w):CC 43 #[aG f,aG g] w λr w'=>r=.I (Z4z f g)/\StD w w':=by
 refine cW2 37 Tryz.func43 ?_;refine W ?_;refine BXD (StD.refl w) λb2 w1 h2 e2 _ hS=>?_;refine BXD hS λb3 w2 h3 e3 hT hS=>?_;replace e2:=e2.up hT.s;replace e2:Blk w2 b2 45 (Z3.enc f):=e2;replace e3:Blk w2 b3 45 (Z3.enc g):=e3;refine W ?_;refine ZfS 33 [] [] [(0,0),(1,1),(2,0),(3,1),(5,0),(6,1),(7,0),(8,1),(10,0),(11,1),(12,0),(13,1),(15,0),(16,1),(17,0),(18,1),(20,0),(21,1),(22,0),(23,1),(25,0),(26,1),(27,0),(28,1),(4,2),(9,2),(14,2),(19,2),(24,2),(29,2),(30,2),(31,2),(32,0)] rfl mixed (by kernel_rfl) (by kernel_rfl) (by kernel_rfl) (λw1 ae=>?_);replace e2:=e2.up ae.s;replace e3:=e3.up ae.s;replace hS:=hS.trans ae;refine D ?_;clear ae e2 e3;refine DPD hS (ZfU _ _ _) λ_ _ hS=>?_;refine DPD hS (ZfU _ _ _) λ_ _ hS=>?_;refine DPD hS (ZvN _ _ _) λ_ _ hS=>?_;refine DPD hS (ZfU _ _ _) λ_ _ hS=>?_;refine DPD hS (ZfU _ _ _) λ_ _ hS=>?_;refine DPD hS (ZfU _ _ _) λ_ _ hS=>?_;refine Za rfl trivial (Z88 rfl (ZbX _ _ _ _ _ _)) (λ_ _ h=>Z9.stp h.1) rfl ?_;rintro bv wb ⟨hN,hT⟩;have an:=hN.slv (X:=[]) (ys:=[cmI f.day g.day,cmI f.entry g.entry,Z3P f.kind g.kind,cmI f.by_ g.by_,cmI f.to_ g.to_,cmI f.amt g.amt]) (by simp) rfl rfl (by simp [maxLen]);replace hS:=hS.trans hT;refine DPD hS (ZwI bv _ _ an) λ_ _ hS=>?_;refine D ?_;refine RT ?_;exact ⟨rfl,hS⟩
theorem ZvP (a b:Spn) (w):CC 151 #[aG a,aG b] w λr w'=>r=.I (cmI a.1 b.1)/\StD w w':=by
 refine cW2 10 Tryz.func151 ?_;refine W ?_;refine BXD (StD.refl w) λb2 w1 h2 e2 _ hS=>?_;refine BXD hS λb3 w2 h3 e3 hT hS=>?_;replace e2:=e2.up hT.s;replace e2:Blk w2 b2 75 (Z3.enc a):=e2;replace e3:Blk w2 b3 75 (Z3.enc b):=e3;refine W ?_;refine CPD hS (ZfU _ _ _) λw3 _ hS=>?_;refine RT ?_;exact ⟨rfl,hS⟩
def ZdD (s:Spn):List Spn->List Spn
 | []=>[s]
 | x :: l=>if s.1<x.1 then s :: x :: l else x :: ZdD s l
def ZeB (l:List Spn):List Spn:=l.foldr ZdD []
def Z04 (acc:List Spn) (s:Spn):List Spn:=
 match acc.getLast? with
 | none=>[s]
 | some t=>if s.1<=t.2+1 then acc.dropLast++[(t.1,max t.2 s.2)] else acc++[s]
def Z3R (l:List Spn):List Spn:=(ZeB l).foldl Z04 []
structure Z8a (l:List Spn):Prop where
 len:l.length<=1000
 rng:∀ s∈l,0<=s.1/\s.1<=s.2/\s.2<=3652058
theorem Z4o (s:Spn):Z04 [] s=[s]:=rfl
theorem JY (L:List Spn) (u s:Spn):Z04 (L++[u]) s=if s.1<=u.2+1 then L++[(u.1,max u.2 s.2)] else L++[u]++[s]:=by
 simp [Z04]
theorem Z6i (s:Spn):∀ l,(ZdD s l).Perm (s :: l)
 | []=>YaB _
 | x :: l => by
   rw [ZdD];split;exact YaB _
   . exact ((Z6i s l).cons x).trans (List.Perm.swap _ _ _)
theorem Z6O (s:Spn):∀ l:List Spn,l.Pairwise (λa b=>a.1<=b.1)->(ZdD s l).Pairwise (λa b=>a.1<=b.1)
 | [],_=>by simp [ZdD]
 | x :: l, h => by
   rw [ZdD];rw [X0] at h;split;rename_i hlt;refine X0.2 ⟨λy hy=>?_,X0.2 h⟩;rcases Xb.1 hy with rfl|hy
   omega;have:=h.1 y hy;omega;rename_i hlt;refine X0.2 ⟨λy hy=>?_,Z6O s l h.2⟩;rcases Xb.1 ((Z6i s l).mem_iff.1 hy) with rfl|hy
   omega;exact h.1 y hy
theorem Z31:∀ l,(ZeB l).Perm l
 | []=>YaB _
 | x :: l=>(Z6i x _).trans ((Z31 l).cons x)
theorem Z5B:∀ l,(ZeB l).Pairwise (λa b=>a.1<=b.1)
 | []=>List.Pairwise.nil
 | x :: l=>Z6O x _ (Z5B l)
theorem ZdE {acc:List Spn} {s t:Spn} (h:s.1=t.1) (hs:s.1<=s.2) (ht:t.1<=t.2):Z04 (Z04 acc s) t=Z04 (Z04 acc t) s:=by
 obtain ⟨s1,s2⟩:=s;obtain ⟨t1,t2⟩:=t;dsimp only at h hs ht;subst h;rcases Yal acc with rfl|⟨L,u,rfl⟩
 rw [Z4o,Z4o];have e1:=JY [] (s1,s2) (s1,t2);have e2:=JY [] (s1,t2) (s1,s2);rw [XC] at e1 e2;rw [e1,e2,if_pos (by dsimp only;omega),if_pos (by dsimp only;omega)];dsimp only;rw [Int.max_comm];obtain ⟨u1,u2⟩:=u;rw [Yam,JY,JY];dsimp only;by_cases hc:s1<=u2+1;rw [if_pos hc,if_pos hc,JY,JY,if_pos (by dsimp only;omega),if_pos (by dsimp only;omega)];dsimp only;congr 3;omega;rw [if_neg hc,if_neg hc,JY,JY,if_pos (by dsimp only;omega),if_pos (by dsimp only;omega)];dsimp only;rw [Int.max_comm]
theorem Z9q {x:Spn} (hx:x.1<=x.2):∀ (A:List Spn) (acc:List Spn),(∀ a∈A,a.1=x.1/\a.1<=a.2)->Z04 (A.foldl Z04 acc) x=A.foldl Z04 (Z04 acc x)
 | [],_,_=>rfl
 | a :: A, acc, h => by
   rw [X5,X5,Z9q hx A _ (λb hb=>h b (by simp [hb])),ZdE (h a (by simp)).1 (h a (by simp)).2 hx]
theorem Zc0:∀ (L1 L2 acc:List Spn),L1.Perm L2->L1.Pairwise (λa b=>a.1<=b.1)->L2.Pairwise (λa b=>a.1<=b.1)->(∀ s∈L1,s.1<=s.2)->L1.foldl Z04 acc=L2.foldl Z04 acc
 | [],L2,acc,hp,_,_,_=>by rw [List.nil_perm.1 hp]
 | x :: l, L2, acc, hp, h1, h2, hv => by
   obtain ⟨A,B,rfl⟩:=List.append_of_mem (hp.mem_iff.1 (YaO));have hq:l.Perm (A++B):=(hp.trans List.perm_middle).cons_inv;rw [X0] at h1;have iV:=Ybg.1 h2;rw [X5,YaF,X5,Z9q (hv x (by simp)) A acc (λa ha=>?_),<- YaF];refine Zc0 l (A++B) _ hq h1.2 ?_ (λs hs=>hv s (by simp [hs]));exact h2.sublist (List.Sublist.append_left (List.sublist_cons_self _ _) _);have eO:a∈l:=hq.mem_iff.2 (by simp [ha]);have g1:=h1.1 a eO;have g2:=iV.2.2 a ha x (by simp);exact ⟨by omega,hv a (by simp [eO])⟩
theorem ZfV {l L:List Spn} (hp:L.Perm l) (hs:L.Pairwise (λa b=>a.1<=b.1)) (hv:∀ s∈l,s.1<=s.2):Z3R l=L.foldl Z04 []:=
 Zc0 _ _ _ ((Z31 l).trans hp.symm) (Z5B l) hs (λs h=>hv s ((Z31 l).mem_iff.1 h))
theorem ZfW (acc:List Spn) (s:Spn):(Z04 acc s).length<=acc.length+1:=by
 rcases Yal acc with rfl|⟨L,u,rfl⟩
 simp [Z04];rw [Yam,JY];split<;>simp
theorem Z6j:∀ (L acc:List Spn),(L.foldl Z04 acc).length<=acc.length+L.length
 | [],acc=>by simp
 | x :: L, acc => by
   rw [X5];have h1:=Z6j L (Z04 acc x);have h2:=ZfW acc x;rw [Xe];omega
def SpV (s:Spn):Prop:=0<=s.1/\s.1<=s.2/\s.2<=3652058
theorem ZmC {acc:List Spn} {s:Spn} (ha:∀ x∈acc,SpV x) (hs:SpV s):∀ x∈Z04 acc s,SpV x:=by
 rcases Yal acc with rfl|⟨L,u,rfl⟩
 rw [Z4o];intro x hx;simp only [Xl] at hx;subst hx;exact hs;rw [Yam] at ha ⊢;rw [JY];have hu:=ha u (by simp);intro x hx;unfold SpV at *;split at hx;rcases Xh.1 hx with h|h
 exact ha x (by simp [h]);simp only [Xl] at h;subst h;dsimp only;omega;rcases Xh.1 hx with h|h
 exact ha x h;simp only [Xl] at h;subst h;exact hs
theorem Zax:∀ (L acc:List Spn),(∀ x∈acc,SpV x)->(∀ x∈L,SpV x)->∀ x∈L.foldl Z04 acc,SpV x
 | [],acc,h,_=>h
 | y :: L,acc,h,hL=>Zax L _ (ZmC h (hL y (by simp))) (λx hx=>hL x (by simp [hx]))
theorem Zjr {l:List Spn} (h:Z8a l):Z8a (Z3R l):=by
 have hp:=Z31 l;refine ⟨?_,Zax _ _ (by simp) (λx hx=>h.rng x (hp.mem_iff.1 hx))⟩;have:=Z6j (ZeB l) [];rw [hp.length_eq] at this;have:=h.len;unfold Z3R;simp at *;omega
open Go Go.Eng Go.RowKit Go.Shelf Go.Sort
theorem ZwJ {α:Type} (f:α->Int):SWO (ltOf λx y:α=>cmI (f x) (f y)):=by
 have h:∀ x y,ltOf (λx y:α=>cmI (f x) (f y)) x y=decide (f x<f y):=by
  intro x y;unfold ltOf cmI;by_cases h1:f x<f y;simp [h1];by_cases h2:f y<f x<;>simp [h1,h2]
 refine ⟨λx=>by rw [h];simp,λx y z h1 h2=>?_,λx y z h1 h2=>?_⟩;rw [h] at *;simp at *;omega;rw [h] at *;simp at *;omega
instance:Inhabited Spn:=⟨(0,0)⟩
theorem Zc1 {X:List Nat} {base:Nat} {v:Value} {zs:List Spn} {w} (h:Row X w base 75 v zs) (bE:zs.length<=1000) :
 CC 150 #[v,.func (.func 151) #[] #[]] w λr w'=>r=.tuple #[]/\∃ zs':List Spn,zs'.Perm zs/\(∀ i j (hi:i<zs'.length) (hj:j<zs'.length),i<j->¬ cmI zs'[j].1 zs'[i].1<0)/\Row X w' base 75 v zs'/\Stp (ob v) w w':=
 Z9p (β:=Spn) (by decide) Tryz.sortSpn Tryz.isAgg75 Tryz.sizeOf75 (λx y=>cmI x.1 y.1) (ZwJ Prod.fst) 151 (λx y w=>ZvP x y w) h (by omega)
theorem ZfX (v:Value) (l:List Spn) (w) (hs:SlV [] w v l) (ho:Z8a l):CC 83 #[v] w λr w'=>ZE 75 w w' r (Z3R l):=by
 have ai:=ho.len;refine cW1 58 Tryz.func83 ?_;refine W ?_;refine Z0 (Z8M (m:=l.length) rfl rfl (by simp only [maxLen];omega) (Xg (Nat.mul_le_mul_left _ ai) (by decide))) rfl ?_;rintro _ w1 ⟨b,cur,rfl,hb,hg,aV,hm,hT⟩;have cm:=hs.up hT;refine W ?_;refine Z0 (Zjp (base:=w.heap.size) rfl rfl cm hg aV hb hm) rfl ?_;rintro _ w2 ⟨hr,aq⟩;replace hT:=hT.ow aq;refine W ?_;refine CL (Zc1 (hr []) ai) ?_;rintro _ w3 ⟨rfl,L,hp,ec,dA,cD⟩;have hS:Stp [] w w3:=hT.own cD (λc hc=>.inr (by simp [ob] at hc;omega));have vu:L.Pairwise (λa b=>a.1<=b.1):=Yak.2 (λi j hi hj dC=>by
  have:=ec i j hi hj dC;unfold cmI at this;by_cases h1:L[j].1<L[i].1;rw [if_pos h1] at this;omega;omega)
 rw [ZfV hp vu (λs h=>(ho.rng s h).2.1)];have hv:∀ s∈L,SpV s:=λs h=>ho.rng s (hp.mem_iff.1 h);have jO:L.length=l.length:=hp.length_eq;have hL:L.length<=1000:=by rw [jO];exact ai
 have ax:SlV [] w3 (.slice (some ⟨b,0,none⟩) l.length l.length) L:=dA.slv (by simp);rw [<- jO] at *;clear hr dA cm hT aq cD hg aV ec hp;generalize xY:Value.slice (some ⟨b,0,none⟩) L.length L.length=vv at *;refine W ?_;refine LP (σ:=Nat×Value) (λq=>[(4,q.2),(16,vv),(17,.I L.length),(18,.I q.1)]) (λq w'=>q.1<=L.length/\ZE 75 w3 w' q.2 ((L.take q.1).foldl Z04 [])) (λq=>L.length - q.1) (0,.N) ⟨by omega,ZE.nil⟩ ?_;rintro ⟨k,rv⟩ w4 ⟨hk,hr⟩;dsimp only at hk hr ⊢;by_cases hlt:k<L.length;have ei:=ax.up hr.2;have hstep:(L.take (k+1)).foldl Z04 []=Z04 ((L.take k).foldl Z04 []) L[k]:=by rw [Xi hlt,YaF];rfl
 have dS:=Z6j (L.take k) [];have fQ:=Zax (L.take k) [] (by simp) (λx hx=>hv x (Yar hx));have vw:=hv _ (Xd hlt);rw [Xw,Xf] at dS;generalize (L.take k).foldl Z04 []=acc at *;refine QO ?_;refine Z0 Z2 rfl ?_;rintro _ w5 ⟨b6,rfl,eB,e6,hA⟩;refine SA (us:=Z3.enc L[k]) e6 ?_;rintro _ w6 ⟨dl,e6⟩;replace hA:=hA.ow dl;replace hr:=hr.up hA;clear hA dl ei;have eU:SlV [] w6 rv acc:=hr.slv (by simp);refine W ?_;rcases Yal acc with rfl|⟨M,u,rfl⟩
 refine ZDr 14 [] [] [(0,0),(1,0),(2,0),(3,0),(4,1),(5,0),(6,0),(7,0),(8,0),(9,0),(10,1),(11,0),(12,0),(13,0)] (λw1 ae=>?_);replace hr:=hr.up ae;replace e6:=e6.up ae;refine D ?_;refine W ?_;refine AP1 L[k] hr (by simp) λv1 v' w' bM _=>?_
 refine W ?_;exact QL (k+1,v') ⟨hlt,by rw [hstep,Z4o];exact bM⟩ (by dsimp only;omega);rw [Yam] at *;rw [JY] at hstep;have kI:((M++[u]).length:Int) - 1=(M.length:Nat):=by simp
 have me:M.length<(M++[u]).length:=by simp
 have dw:(M++[u])[M.length]=u:=by simp
 have hu:=fQ u (by simp);unfold SpV at hu vw;have vx:0<=(M++[u])[M.length].2/\(M++[u])[M.length].2<=3652058:=by rw [dw];omega
 have ge:0<((M++[u]).length:Int):=by simp
 refine ZDr 14 [] [] [(0,0),(1,0),(2,0),(3,0),(4,1),(5,0),(6,0),(7,0),(8,0),(9,0),(10,1),(11,0),(12,0),(13,0)] (λw1 ae=>?_);replace hr:=hr.up ae;replace eU:=eU.up ae;replace e6:=e6.up ae;refine QD ?_;rw [dw];refine W ?_;refine VC ?_ ?_<;>intro hc;rw [if_pos hc] at hstep;refine W ?_;refine ZDr 15 [] [14] [(0,0),(1,0),(2,0),(3,0),(4,0),(5,0),(6,0),(7,0),(8,1),(9,0),(10,1),(11,0),(12,0),(13,0),(14,2)] (λw1 ae=>?_);replace hr:=hr.up ae;replace eU:=eU.up ae;replace e6:=e6.up ae;refine QD ?_;rw [dw];refine Jm rfl trivial (Zaa (y':=(u.1,max u.2 L[k].2)) (u:=.I (max u.2 L[k].2)) rfl rfl rfl rfl rfl hr me (by decide) (by rw [dw];rfl)) rfl ?_;rintro _ w8 ⟨tr,-⟩;refine D ?_;refine W ?_;rw [show (M++[u]).set M.length (u.1,max u.2 L[k].2)=M++[(u.1,max u.2 L[k].2)] by simp] at tr;exact QL (k+1,rv) ⟨hlt,by rw [hstep];exact tr⟩ (by dsimp only;omega);rw [if_neg hc] at hstep;refine W ?_;refine AP1 L[k] hr (by omega) λv1 v' w' bM _=>?_
 refine W ?_;exact QL (k+1,v') ⟨hlt,by rw [hstep];exact bM⟩ (by dsimp only;omega);obtain rfl:k=L.length:=by omega
 rw [Xp] at hr;refine QO ?_;refine WR ?_;exact .mk (hr.pre hS)
def Z8N (start:Int):List Spn->Int->Int
 | [],d=>d
 | s :: l,d=>if d<s.1 then d else Z8N start l (d+max 0 (s.2 - max s.1 (start+1)+1))
def Z8b (start due:Int) (l:List Spn):Int×Int:=if due<=start then (due,0) else if 3652058<Z8N start (Z3R l) due then (0,31) else (Z8N start (Z3R l) due,0)
theorem ZfY (start:Int) (L:List Spn) (d:Int) (k:Nat) (h:k<L.length):Z8N start (L.drop k) d=if d<L[k].1 then d else Z8N start (L.drop (k+1)) (d+max 0 (L[k].2 - max L[k].1 (start+1)+1)):=by
 rw [X3 h,Z8N]
theorem Z8c (start due:Int) (v:Value) (l:List Spn) (w) (hs:SlV [] w v l) (ho:Z8a l) (h1:-1000000000<=start/\start<=1000000000) (h2:-1000000000<=due/\due<=1000000000):CC 51 #[.I start,.I due,v] w λr w'=>r=.tuple #[.I (Z8b start due l).1,.I (Z8b start due l).2]/\Stp [] w w':=by
 have hm:=Zjr ho;unfold Z8b;refine cW3 41 Tryz.func51 ?_;by_cases hd:due<=start;rw [if_pos hd];refine RT ?_;exact ⟨rfl,Stp.refl _ _⟩;rw [if_neg hd];refine QO ?_;refine CG (ZfX v l w hs ho) ?_;intro rv w1 hr;have hS:=hr.2;have eU:SlV [] w1 rv (Z3R l):=hr.slv (by simp);clear hr;generalize Z3R l=L at *;refine W ?_;refine Z0f (σ:=Int) (λd=>[(0,.I start),(1,.I d)]) (λd w'=>Stp [] w w'/\d=Z8N start L due/\-1000000000<=d/\d<=9000000000000) ?_ ?_;refine LP (σ:=Nat×Int) (λq=>[(0,.I start),(1,.I q.2),(15,rv),(16,.I L.length),(17,.I q.1)]) (λq w'=>q.1<=L.length/\Stp [] w1 w'/\Z8N start (L.drop q.1) q.2=Z8N start L due/\-1000000000<=q.2/\q.2<=1000000000+q.1 * 4000000000) (λq=>L.length - q.1) (0,due) ⟨by omega,Stp.refl _ _,rfl,h2.1,by dsimp only;omega⟩ ?_;rintro ⟨k,d⟩ w2 ⟨hk,hT,he,g1,g2⟩;dsimp only at hk he g1 g2 ⊢;have ai:=hm.len;have qL:=eU.up hT;by_cases hlt:k<L.length;obtain ⟨r1,r2,r3⟩:=hm.rng _ (Xd hlt);have hstep:=ZfY start L d k hlt;rw [he] at hstep;refine QO ?_;refine Z0 Z2 rfl ?_;rintro _ w3 ⟨b9,rfl,iS,e9,am⟩;refine SA (us:=Z3.enc L[k]) e9 ?_;rintro _ w4 ⟨aJ,e9⟩;replace hT:=hT.trans (am.ow aJ);clear am aJ qL;simp only [Z3.enc] at e9;by_cases hb:d<L[k].1;rw [if_pos hb] at hstep;refine QO ?_;exact QT d ⟨hS.trans hT,hstep.symm,g1,by omega⟩;rw [if_neg hb] at hstep;refine QO ?_;exact Zw (k+1,d+max 0 (L[k].2 - max L[k].1 (start+1)+1)) ⟨rfl,rfl,rfl,rfl,rfl,trivial⟩ ⟨hlt,hT,hstep.symm,by dsimp only;omega,by dsimp only;omega⟩ (by dsimp only;omega);refine QO ?_;rw [Yav (by omega)] at he;exact QT d ⟨hS.trans hT,he,g1,by omega⟩;rintro d w2 ⟨ah,rfl,g1,g2⟩;generalize Z8N start L due=d at *;by_cases hc:3652058<d;rw [if_pos hc];refine RT ?_;exact ⟨rfl,ah⟩;rw [if_neg hc];refine RT ?_;exact ⟨rfl,ah⟩
def ZnS (start due:Int) (l:List Spn):Int:=if (Z8b start due l).2≠0 then 3652058 else (Z8b start due l).1
def Z6k (start e:Int) (s:Spn):Bool:=decide (start<s.2/\s.1<=e)
def Z6P (start due:Int) (l:List Spn):List Spn:=if due<=start then [] else l.filter (Z6k start (ZnS start due l))
theorem Zc2 {α:Type} (p:α->Bool) (l:List α) (k:Nat) (h:k<l.length):(l.take (k+1)).filter p=(l.take k).filter p++if p l[k]=true then [l[k]] else []:=by
 rw [Xi h,Ya5];congr 1;cases hc:p l[k]<;>simp [hc]
theorem Zjs (start due:Int) (v:Value) (l:List Spn) (w) (hs:SlV [] w v l) (ho:Z8a l) (h1:-1000000000<=start/\start<=1000000000) (h2:-1000000000<=due/\due<=1000000000):CC 55 #[.I start,.I due,v] w λr w'=>ZE 75 w w' r (Z6P start due l):=by
 have ai:=ho.len;unfold Z6P;refine cW3 46 Tryz.func55 ?_;by_cases hd:due<=start;rw [if_pos hd];refine QO ?_;refine WR ?_;exact .mk ZE.nil;rw [if_neg hd];refine QO ?_;refine CP (Stp.refl [] w) (Z8c start due v l w hs ho h1 h2) λw1 _ hS=>?_;refine W ?_;unfold ZnS;generalize Z8b start due l=p;obtain ⟨d,c⟩:=p;dsimp only;refine JE (σ:=Unit) (λ_=>[(0,.I start),(2,v),(7,.I (if c≠0 then 3652058 else d))]) (λ_ w'=>Stp [] w w') ?_ ?_;by_cases hc:c=0;rw [if_neg (by simpa using hc)];refine QO ?_;exact QT () hS;rw [if_pos hc];refine QO ?_;exact QT () hS;rintro _ w2 hS;generalize (if c≠0 then (3652058:Int) else d)=E;have br:=hs.up hS;refine W ?_;refine LP (σ:=Nat×Value) (λq=>[(0,.I start),(7,.I E),(9,q.2),(24,v),(25,.I l.length),(26,.I q.1)]) (λq w'=>q.1<=l.length/\ZE 75 w w' q.2 ((l.take q.1).filter (Z6k start E))) (λq=>l.length - q.1) (0,.N) ⟨by omega,ZE.pre hS ZE.nil⟩ ?_;rintro ⟨k,rv⟩ w3 ⟨hk,hr⟩;dsimp only at hk hr ⊢;have ey:=hs.up hr.2;by_cases hlt:k<l.length
 . have hstep:=Zc2 (Z6k start E) l k hlt
   refine QO ?_;refine Z0 Z2 rfl ?_;rintro _ w4 ⟨b11,rfl,qM,e11,am⟩;refine SA (us:=Z3.enc l[k]) e11 ?_;rintro _ w5 ⟨aJ,e11⟩;replace hr:=hr.up (am.ow aJ);clear am aJ ey;repeat'(first|refine W1 ?_|omega|refine VG ?_ ?_<;>intro hg|refine VC ?_ ?_<;>intro hc)
   all_goals first
    | exact QL (k + 1, rv) ⟨hlt, by
       rw [hstep,if_neg (show ¬ Z6k start E l[k]=true by simp only [Z6k,decide_eq_true_eq];omega),XH];exact hr⟩ (by dsimp only;omega)
    | refine AP1 l[k] hr (Xg (XW _ _) (by simp; omega)) λv1 v' w' bM _ => ?_
      refine QO ?_;exact QL (k+1,v') ⟨hlt,by
       rw [hstep,if_pos (show Z6k start E l[k]=true from decide_eq_true ⟨by omega,by omega⟩)];exact bM⟩ (by dsimp only;omega)
 obtain rfl:k=l.length:=by omega
 rw [Xp] at hr;refine QO ?_;refine WR ?_;exact .mk hr
def ZfZ (l:List Spn):Int:=if 64<l.length then 2 else if l.any (λs=>decide (s.1<0\/s.2<s.1\/3652058<s.2)) then 5 else 0
theorem Zay (v:Value) (l:List Spn) (w) (hs:SlV [] w v l):CC 113 #[v] w λr w'=>r=.I (ZfZ l)/\Stp [] w w':=by
 have aT:=hs.max;unfold ZfZ;refine cW1 33 Tryz.func113 ?_;by_cases jR:64<l.length;rw [if_pos jR];refine RT ?_;exact ⟨rfl,Stp.refl _ _⟩;rw [if_neg jR];refine QO ?_;refine LP (σ:=Nat) (λk=>[(0,v),(9,.I l.length),(10,.I k)]) (λk w'=>k<=l.length/\Stp [] w w'/\∀ j (h:j<l.length),j<k->¬ (l[j].1<0\/l[j].2<l[j].1\/3652058<l[j].2)) (λk=>l.length - k) 0 ⟨by omega,Stp.refl _ _,by omega⟩ ?_;rintro k w2 ⟨hk,hS,hz⟩;have br:=hs.up hS;by_cases hlt:k<l.length
 . refine QO ?_
   refine Z0 Z2 rfl ?_;rintro _ w4 ⟨b4,rfl,bD,e4,am⟩;refine SA (us:=Z3.enc l[k]) e4 ?_;rintro _ w5 ⟨aJ,e4⟩;replace hS:=hS.trans (am.ow aJ);clear am aJ;repeat'(first|refine W1 ?_|omega|refine VG ?_ ?_<;>intro hg|refine VC ?_ ?_<;>intro hc)
   all_goals first
    | exact QL (k + 1) ⟨hlt, hS, λj h hj => by
       by_cases e:j=k;subst e;omega;exact hz j h (by omega)⟩ (by omega)
    | refine WR ?_
      rw [if_pos (YaK.2 ⟨l[k],Xd hlt,by simp only [decide_eq_true_eq];omega⟩)];exact .mk ⟨rfl,hS⟩
 refine QO ?_;refine WR ?_;rw [if_neg];exact .mk ⟨rfl,hS⟩;intro h;obtain ⟨s,h1,h2⟩:=YaK.1 h;obtain ⟨j,hj,rfl⟩:=Xr h1;exact hz j hj (by omega) (by simpa using h2)
end Go.Proofs.YtipfkbkkndacjaaGreatDoor
namespace Go.Eng
open Go Go.RowKit Go.Proofs
def Z1m (ds:List Deferred) (a:Act):Act:={ a with defers:=a.defers++ds }
def Zaz (ds:List Deferred) (Q:Exit->Act->World->Prop):Exit->Act->World->Prop:=λx a w=>Q x (Z1m ds a) w
theorem Z1Y (ds:List Deferred) (a:Act) (d:Option Nat) (v:Value):Z1m ds (a.put d v)=(Z1m ds a).put d v:=by cases d<;>rfl
theorem Z6l (ds:List Deferred) (a:Act):(Z1m ds a).eval=a.eval:=by funext x;cases x<;>rfl
theorem Z3S {ds:List Deferred} {Q:Exit->Act->World->Prop} (h:LetsOut (Zaz ds Q)):LetsOut Q:=let ⟨a,w,h⟩:=h;⟨_,w,h⟩
theorem Zc3 {P:Program} {ds:List Deferred} {Q:Exit->Act->World->Prop} {o:Oper} {a:Act} {w} {K K':Act->World->Prop} (hK:∀ a w,K' a w->K (Z1m ds a) w) (h:o.wp P a w K' (Zaz ds Q)):o.wp P (Z1m ds a) w K Q:=by
 unfold Oper.wp at *;rw [Z6l];generalize (execOp a.eval o).run P w=r at *;cases r with
 | ok x w'=>
   cases x<;>simp only [Oper.upon] at h ⊢
   case value v=>have:=hK _ _ h;rw [Z1Y] at this;exact this
   case skip=>have:=hK _ _ h;rw [Z1Y] at this;exact this
   case defer d=>have:=hK _ _ h;rw [Z1Y] at this;exact this
   case enter f args=>
    refine Calls.mono h λe w'' he=>?_;cases e with
    | returned v=>have:=hK _ _ he;rw [Z1Y] at this;exact this
    | panicked c=>exact he
    | outgrown=>exact Z3S he
   case row row args=>exact Rows.mono h λv w'' he=>by have:=hK _ _ he;rw [Z1Y] at this;exact this
 | halt x w'=>cases x<;>simp only [Oper.upon] at h ⊢;exact h
theorem Zc4 {P:Program} {ds:List Deferred} {o:Oper} {a:Act} {w} (h:o.asks P a w):o.asks P (Z1m ds a) w:=by
 unfold Oper.asks at *;rw [Z6l];exact h
theorem Z52 {P:Program} {ds:List Deferred} {Q:Exit->Act->World->Prop} {ops:Array Oper}:∀ (l:List Oper) (a:Act) (w),wpList P ops (Zaz ds Q) l a w->wpList P ops Q l (Z1m ds a) w
 | [],a,w,h=>h
 | o :: rest, a, w, h => by
   unfold wpList at *;split at h;rename_i hw;rw [if_pos (show Region.wanted o (yielded ops (Z1m ds a).tmps)=true from hw)];rcases h with h|⟨h1,h2⟩
   exact .inl (Zc3 (λa w h=>Z52 rest a w h) h);exact .inr ⟨Zc4 h1,Z3S h2⟩;rename_i hw;rw [if_neg (show ¬ Region.wanted o (yielded ops (Z1m ds a).tmps)=true from hw)];rw [<- Z1Y];exact Z52 rest _ w h
theorem Zjt {P:Program} {ds:List Deferred} {Q:Exit->Act->World->Prop} {ops:Array Oper} {i:Nat} {a:Act} {w} {K K':Act->World->Prop} (hK:∀ a w,K' a w->K (Z1m ds a) w) (h:wpOp P ops (Zaz ds Q) i K' a w):wpOp P ops Q i K (Z1m ds a) w:=by
 unfold wpOp at *;cases ho:ops[i]? with
 | none=>simp only [ho] at h ⊢;exact hK _ _ h
 | some o=>
   simp only [ho] at h ⊢;split at h;rename_i hw;rw [if_pos (show Region.wanted o (yielded ops (Z1m ds a).tmps)=true from hw)];rcases h with h|⟨h1,h2⟩
   exact .inl (Zc3 hK h);exact .inr ⟨Zc4 h1,Z3S h2⟩;rename_i hw;rw [if_neg (show ¬ Region.wanted o (yielded ops (Z1m ds a).tmps)=true from hw)];rw [<- Z1Y];exact hK _ _ h
theorem Z9r {P:Program} {ds:List Deferred} {Q:Exit->Act->World->Prop} {ops:Array Oper} {md:Region.Mode}:∀ (fuel:Nat) (listed:Array Bool) (a:Act) (w),wpAny P md ops (Zaz ds Q) fuel listed a w->wpAny P md ops Q fuel listed (Z1m ds a) w
 | 0,_,_,_,h=>h
 | fuel+1,_,_,_,h=>⟨h.1,λi hi=>Zjt (λa w h=>Z9r fuel _ a w h) (h.2 i hi)⟩
structure WQD (ds:List Deferred) (n:Nat) (Q:Exit->Act->World->Prop) (x:Exit) (e:Env) (w):Prop where
 h:∀ a,Has n e a->Q x (Z1m ds a) w
structure WCD (ds:List Deferred) (P:Program) (n:Nat) (c:Code) (Q:Exit->Act->World->Prop) (e:Env) (w):Prop where
 h:∀ a,Has n e a->c.wp P Q (Z1m ds a) w
section rules
variable {P:Program} {n:Nat} {ds:List Deferred} {Q:Exit->Act->World->Prop} {e:Env} {w}
theorem Z6m {x:Exit} (h:WQD ds n Q x e w):WQ n (Zaz ds Q) x e w:=⟨λa ha=>h.h a ha⟩
theorem Z4p {x y:Code} (h:WCD ds P n x (Exit.then (λa w=>y.wp P Q a w) Q) e w):WCD ds P n (x.seq y) Q e w:=⟨λa ha=>wp_seq (h.h a ha)⟩
theorem Z1Z {y:Code} (h:WCD ds P n y Q e w):WQD ds n (Exit.then (λa w=>y.wp P Q a w) Q) .normal e w:=⟨λa ha=>h.h a ha⟩
theorem Z8d {N:Act->World->Prop} {ch:List PanicEntry} (h:WQD ds n Q (.panic ch) e w):WQD ds n (Exit.then N Q) (.panic ch) e w:=⟨λa ha=>h.h a ha⟩
theorem Zju (h:WQD ds n Q .normal e w):WCD ds P n .skip Q e w:=⟨λa ha=>wp_skip (h.h a ha)⟩
theorem ZeC (h:WQD ds n Q .ret e w):WCD ds P n .ret Q e w:=⟨λa ha=>wp_ret (h.h a ha)⟩
theorem HasD.ev {a:Act} (ha:Has n e a) {x:Operand} {v:Value} (hx:ev e x=some v):(Z1m ds a).eval x=v:=by rw [Z6l];exact ha.ev hx
theorem Z8e {c:Operand} {x y:Code} (hc:ev e c=some (.B false)) (h:WCD ds P n y Q e w):WCD ds P n (.cond c x y) Q e w:=⟨λa ha=>wp_cond_false (HasD.ev ha hc) (h.h a ha)⟩
theorem Z53 {id:Nat} {l:List Oper} (h:WL P n l.toArray (Zaz ds Q) l e w):WCD ds P n (.region id l.toArray false) Q e w:=⟨λa ha=>wp_region_lit (Z52 _ _ _ (h.h a ha))⟩
theorem Z9s {id:Nat} {l:List Oper} (m:Nat) (S:List Nat) (Lt:List Nat) (ord:List (Nat×Nat)) (cp:l.length=m) (hm:P.follows .mixedOrders=true) (hs:Region.noSelect l.toArray=true) (hl:Nat.beq (wt ord) l.length=true)
 (hB:ZY l.toArray Lt ord (Array.replicate m false)=true)
 (h:∀ w',Stp [] w w'->WD P n l.toArray S Lt (Zaz ds Q) ord e w'):WCD ds P n (.region id l.toArray true) Q e w:=by
 subst cp;refine ⟨λa ha=>wp_region_any hm (Z9r _ _ _ _ ?_)⟩;have h1:=(h { w with drawn:=w.drawn+1 } (Stp.drew [] w)).h _ hs hB a ha;have h2:=Z0O (Q:=Zaz ds Q) (λa w hz=>hz) _ _ _ _ h1;rw [XL hl] at h2;simpa using h2
end rules
abbrev FR (l:Nat):Fence:=Fence.wide.inRound l
section
variable {P:Program} {n m l:Nat} {Q Q':Exit->Act->World->Prop} {e:Env} {w:World} {ops:Array Oper}
theorem ZeD {o:Oper} {a:Act} {K K':Act->World->Prop} (ga:∀ c,o.op≠.defer c) (hQ:∀ x a w,Q x a w->Q' x a w) (hK:∀ a w,K a w->K' a w) (h:o.wp P a w K Q):o.wpIn (FR l) m P a w K' Q':=by
 unfold Oper.wp at h;refine ⟨λ_ _=>trivial,?_⟩;rw [Oper.semAt_eq _ _ _ ga];generalize (execOp a.eval o).run P w=r at *;cases r with
 | ok x w'=>
   cases x<;>simp only [Oper.upon] at h<;>simp only [Oper.uponIn]
   case value v=>exact hK _ _ h
   case skip=>exact hK _ _ h
   case defer d=>exact hK _ _ h
   case enter f args=>
    refine ⟨(λh=>by cases h),CallsIn.inRound l (callsIn_wide.2 (Calls.mono h λen w'' he=>?_))⟩;cases en with
    | returned v=>exact hK _ _ he
    | panicked c=>exact hQ _ _ _ he
    | outgrown=>
      obtain ⟨a',w3,h3⟩:=he;exact ⟨a',w3,hQ _ _ _ h3⟩
   case row row args=>
    exact ⟨(λh=>by cases h),λc cs _=>let ⟨v,w'',r,s⟩:=h c cs;⟨v,w'',hK _ _ r,stepsIn_wide.2 s⟩⟩
 | halt x w'=>
   cases x<;>simp only [Oper.upon] at h<;>simp only [Oper.uponIn];exact hQ _ _ _ h
theorem ZaA (ga:∀ (i:Nat) (o:Oper),ops[i]?=some o->∀ c,o.op≠.defer c) (hQ:∀ a w,¬ Q .outgrown a w):∀ (L:List Nat) (a:Act) (w),wpOps P ops Q L a w->wpOpsIn (FR l) m P ops Q L a w
 | [],a,w,h=>h
 | i :: rest, a, w, h => by
   unfold wpOps at h;unfold wpOpsIn;cases ho:ops[i]? with
   | none=>simp only [ho] at h ⊢;exact ZaA ga hQ rest a w h
   | some o=>
     simp only [ho] at h ⊢;split at h;rename_i hw;rw [if_pos hw];rcases h with h|⟨_,a',w',h⟩
     exact ZeD (ga i o ho) (λ_ _ _ h=>h) (λa w h=>ZaA ga hQ rest a w h) h;exact absurd h (hQ a' w');rename_i hw;rw [if_neg hw];exact ⟨λ_ _=>trivial,ZaA ga hQ rest _ w h⟩
def Zjv (L:List Oper):Bool:=L.all λo=>match o.op with|.defer _=>false|_=>true
theorem Z8f {L:List Oper} (h:Zjv L=true):∀ (i:Nat) (o:Oper),L.toArray[i]?=some o->∀ c,o.op≠.defer c:=by
 intro i o ho c hc;have hm:o∈L:=by
  have:L[i]?=some o:=by simpa using ho
  exact List.mem_of_getElem? this
 have:=XZ.1 h o hm;rw [hc] at this;cases this
theorem ZaB {md:Region.Mode} {S:List Nat} {Lt:Nat->Bool} {Z:Act->World->Prop} (ga:∀ (i:Nat) (o:Oper),ops[i]?=some o->∀ c,o.op≠.defer c) (hZ:∀ a w,Z a w->Q .normal a w):∀ (fuel:Nat) (listed:Array Bool) (a:Act) (w),
 Za2 P md ops S Lt Z fuel listed a w->wpAnyIn (FR l) m P md ops Q fuel listed a w
 | 0,_,_,_,h=>⟨h.1,hZ _ _ h.2⟩
 | fuel + 1, listed, a, w, h => ⟨λh0 => hZ _ _ (h.1 h0), λi hi => by
   have h1:=h.2 i hi;unfold wpOp at h1;unfold wpOpIn;cases ho:ops[i]? with
   | none=>simp only [ho] at h1 ⊢;exact ZaB ga hZ fuel _ a w h1.2
   | some o=>
     simp only [ho] at h1 ⊢;split at h1;rename_i hw;rw [if_pos hw];rcases h1 with h1|⟨_,_,_,hf⟩
     exact ZeD (ga i o ho) (λ_ _ _ h=>h.elim) (λa w h=>ZaB ga hZ fuel _ a w h.2) h1;exact hf.elim;rename_i hw;rw [if_neg hw];exact ⟨λ_ _=>trivial,ZaB ga hZ fuel _ _ w h1.2⟩⟩
structure WCR (l m:Nat) (P:Program) (n:Nat) (c:Code) (Q:Exit->Act->World->Prop) (e:Env) (w:World):Prop where
 h:∀ a,Has n e a->c.wpIn (FR l) m P Q a w
variable {x y:Code}
theorem JL (h:WCR l m P n x (Exit.then (λa w=>y.wpIn (FR l) m P Q a w) Q) e w):WCR l m P n (x.seq y) Q e w:=⟨λa ha=>wpIn_seq (h.h a ha)⟩
theorem Jp (h:WCR l m P n y Q e w):WQ n (Exit.then (λa w=>y.wpIn (FR l) m P Q a w) Q) .normal e w:=⟨λa ha=>h.h a ha⟩
theorem Jq (h:WQ n Q .normal e w):WCR l m P n .skip Q e w:=⟨λa ha=>wpIn_skip (h.h a ha)⟩
theorem Jr {i:Nat} (h:WQ n Q (.exit i) e w):WCR l m P n (.exit i) Q e w:=⟨λa ha=>wpIn_exit (h.h a ha)⟩
theorem J6 {i:Nat} {c:Code} (h:WCR l m P n c (Exit.inBlock i Q) e w):WCR l m P n (.block i c) Q e w:=⟨λa ha=>wpIn_block (h.h a ha)⟩
theorem Jh {c:Operand} (hc:ev e c=some (.B true)) (h:WCR l m P n x Q e w):WCR l m P n (.cond c x y) Q e w:=⟨λa ha=>wpIn_cond_true (ha.ev hc) (h.h a ha)⟩
theorem J2 {c:Operand} (hc:ev e c=some (.B false)) (h:WCR l m P n y Q e w):WCR l m P n (.cond c x y) Q e w:=⟨λa ha=>wpIn_cond_false (ha.ev hc) (h.h a ha)⟩
theorem Z3T {c:Operand} {p:Prop} [Decidable p] (hc:ev e c=some (.B (decide p))) (ht:p->WCR l m P n x Q e w) (hf:¬ p->WCR l m P n y Q e w):WCR l m P n (.cond c x y) Q e w:=by
 by_cases h:p;rw [decide_eq_true h] at hc;exact Jh hc (ht h);rw [decide_eq_false h] at hc;exact J2 hc (hf h)
theorem ZQ {id:Nat} {L:List Oper} (hd:Zjv L=true) (hQ:∀ a w,¬ Q .outgrown a w) (h:WL P n L.toArray Q L e w):WCR l m P n (.region id L.toArray false) Q e w:=
 ⟨λa ha => wpIn_region (by
   have h1:=h.h a ha;rw [List.range_eq_range',<- Yag];exact ZaA (Z8f hd) hQ _ _ _ (by rw [wpOps_eq_wpList L.toArray.toList 0 (by simp)];simpa using h1))⟩
theorem Z9t {id:Nat} {L:List Oper} (k:Nat) (S:List Nat) (Lt:List Nat) (ord:List (Nat×Nat)) (cp:L.length=k) (hm:P.follows .mixedOrders=true) (hs:Region.noSelect L.toArray=true) (hl:Nat.beq (wt ord) L.length=true)
 (hB:ZY L.toArray Lt ord (Array.replicate k false)=true) (hd:Zjv L=true)
 (h:∀ w',Stp [] w w'->WD P n L.toArray S Lt Q ord e w'):WCR l m P n (.region id L.toArray true) Q e w:=by
 subst cp;refine ⟨λa ha=>wpIn_region_any hm ?_⟩;have h1:=(h { w with drawn:=w.drawn+1 } (Stp.drew [] w)).h _ hs hB a ha;have h2:=ZaB (l:=l) (m:=m) (Q:=Q) (Z8f hd) (λa w hz=>hz) _ _ _ _ h1;rw [XL hl] at h2;simpa using h2
theorem Zjw {σ:Type} (env:σ->Env) (I:σ->World->Prop)
 (h:WCR l m P n x (Exit.then (λa w=>∃ s,Has n (env s) a/\I s w) Q) e w) (k:∀ s w,I s w->WCR l m P n y Q (env s) w):WCR l m P n x (Exit.then (λa w=>y.wpIn (FR l) m P Q a w) Q) e w:=
 ⟨λa ha => wpIn_mono (h.h a ha) (λex a w hq => by
   cases ex with
   | normal=>obtain ⟨s,h1,h2⟩:=hq;exact (k s w h2).h a h1
   | _=>exact hq)⟩
end
theorem Z20 (W:World) (b:Nat) (o:Obj):Stp [b] W (W.putObj b o):=⟨rfl,rfl,rfl,by simp,λk hk hn=>World.putObj_heap_other (by simpa using hn)⟩
def ZeE {α:Type} (P:Program) (f:Nat) (cap:Array Value) (encs:α->Value) (L:List α) (l:Nat) (F:List Nat) (W:World):Prop:=
 ∀ (J : List α -> List Nat -> World -> Prop), (∀ pre F W, J pre F W -> ∀ b ∈ F, b < W.heap.size) -> (∀ pre F W W', J pre F W -> Stp [] W W' -> J pre F W')->
   (∀ pre x F W,J pre F W->pre++[x] <+: L->YieldAt Fence.wide 4 P l #[encs x] W λen W'=>en=.returned (.B true)/\∃ F',J (pre++[x]) F' W'/\Stp F W W'/\∀ b∈F',b∈F\/W.heap.size<=b)->
   J [] F W->Calls P f (#[.func (.yield l) #[] #[]]++cap) W (Ret λ_ W'=>∃ F',J L F' W'/\Stp F W W'/\∀ b∈F',b∈F\/W.heap.size<=b)
section
variable {P:Program} {n:Nat} {Q:Exit->Act->World->Prop} {e:Env} {w:World}
theorem Zjx {α:Type} {f p:Nat} {fn:Func} {cap:Array Value} {g:Operand} {assign body:Code} [hf:Fun P f fn] {E:α->Nat->Env} {T:Nat} {cs:α->List Value} (encs:α->Value) (hg:ev e g=some (.func (.func f) #[] cap)) (hp:Nat.blt p n=true)
 (L:List α) (I:List α->List Nat->World->Prop) (F0:List Nat) (hlt:∀ pre F W,I pre F W->∀ b∈F,b<W.heap.size)
 (hI:∀ pre F W W' S,I pre F W->Stp S W W'->(∀ b∈S,w.heap.size<=b/\b∉F)->I pre F W') (h0:I [] F0 w)
 (oL:∀ (l:Nat) (W:World),Stp [] w W->w.heap.size<=l->l<W.heap.size->ZeE P f cap encs L l (l :: F0) W)
 (hassign:∀ (l:Nat) (x:α) (W:World) (Z:Exit->Act->World->Prop),(∀ a w,¬ Z .outgrown a w)->(∀ b W1,W.heap.size<=b->Blk W1 b T (cs x)->Stp [] W W1->WQ n Z .normal (E x b) W1)->WCR l 4 P n assign Z ((p,encs x) :: e) W)
 (hbody : ∀ (l : Nat) (pre : List α) (x : α) (b : Nat) (F : List Nat) (W : World) (Z : Exit -> Act -> World -> Prop), I pre F W -> pre ++ [x] <+: L -> Blk W b T (cs x) -> b ∉ F -> w.heap.size <= b -> (∀ a w, ¬ Z .outgrown a w)->
   (∀ a F' W',I (pre++[x]) F' W'->Stp F W W'->(∀ b∈F',b∈F\/W.heap.size<=b)->Z .normal a W')->WCR l 4 P n body Z (E x b) W)
 (hdone:∀ (D:Nat) (F:List Nat) (W:World),I L F W->w.heap.size<=D->D∉F->W.heap[D]?=some (.deferred (some []))->(∀ b∈F,b∈F0\/w.heap.size<=b)->Stp F0 w W->WQD [{ target:=.collected D,args:=#[] }] n Q .normal e W) :
 WC P n (.rangeFunc g #[p] assign body) Q e w:=by
 refine ⟨λa ha=>(wpIn_wide (n:=5)).1 (wpIn_rangeFunc ?_)⟩;intro fnid _;obtain ⟨rec,bq⟩:∃ rec:LoopState->Option Code->Loop,rec=λst pe=>{ state:=st,pending:=pe,fn:=fnid,tmps:=a.tmps,params:=#[p],assign,body,defers:=w.heap.size }:=⟨_,rfl⟩
 obtain ⟨W1,fR⟩:∃ W1,(w.alloc (.deferred (some []))).alloc (.loop (rec .ready none))=W1:=⟨_,rfl⟩
 have kW:W1.heap[w.heap.size+1]?=some (.loop (rec .ready none)):=by
  rw [<- fR];have:=World.alloc_heap_new (w.alloc (.deferred (some []))) (.loop (rec .ready none));rwa [World.size_alloc] at this
 have bt:Stp [] w (w.alloc (.deferred (some []))):=Stp.alloc [] _ _;have nr:Stp [] (w.alloc (.deferred (some []))) W1:=by rw [<- fR];exact Stp.alloc [] _ _
 have qN:W1.heap[w.heap.size]?=some (.deferred (some [])):=by
  rw [nr.block w.heap.size (by simp) (by simp)];exact World.alloc_heap_new w _
 have ae:Stp [] w W1:=bt.trans nr;have oz:=hlt _ _ _ h0
 refine ⟨w.heap.size+1,[{ target:=.collected w.heap.size,args:=#[] }],W1,{ target:=.fn (.func f) cap,args:=#[.func (.yield (w.heap.size+1)) #[] #[]] },W1,f,
  #[.func (.yield (w.heap.size+1)) #[] #[]]++cap,W1,?_,?_,?_,?_,λh=>(by cases h),?_⟩
 rw [<- fR,bq];exact run_enterLoop_outer _ _ _ _ _;simp only [resolve,ha.ev hg];simp [go_sem];intro f' tf;trivial;have eg:=hf.enters;simp [invoke,go_sem];exact eg _ _;generalize hl:w.heap.size+1=l at *
 have fx:=oL l W1 ae (by omega) (Xk.1 kW).1 (λpre F W=>∃ G,F=l :: G/\I pre G W/\W.heap[l]?=some (.loop (rec .ready none))/\W.heap[w.heap.size]?=some (.deferred (some []))/\l∉G/\w.heap.size∉G)
  (by
    rintro pre F W ⟨G,rfl,hi,h1,h2,h3,h4⟩ b hb;rcases Xb.1 hb with rfl|hb
    exact (Xk.1 h1).1;exact hlt _ _ _ hi b hb)
  (by
    rintro pre F W W' ⟨G,rfl,hi,h1,h2,h3,h4⟩ hS;exact ⟨G,rfl,hI _ _ _ _ _ hi hS (by simp),(hS.block l (Xk.1 h1).1 (by simp)).trans h1,(hS.block _ (Xk.1 h2).1 (by simp)).trans h2,h3,h4⟩)
  (by
    rintro pre x F W ⟨G,rfl,hi,h1,h2,h3,h4⟩ cw;have nu:l<W.heap.size:=(Xk.1 h1).1;have qO:w.heap.size<W.heap.size:=(Xk.1 h2).1;have hG:=hlt _ _ _ hi;have hy:=run_yield (P:=P) (args:=#[encs x]) h1 (by rw [bq];rfl);rw [bq] at hy;refine ⟨fnid,_,assign,body,hy,roundIn_of_wpIn trivial ((hassign l x W _ (λ_ _ h=>h) ?_).h _ ?_)⟩;intro b Wa hb hk nw;have vy:=(nw.block l nu (by simp)).trans h1;have vz:=(nw.block _ qO (by simp)).trans h2;have xZ:=nw.size;refine ⟨λa1 qP=>⟨_,run_beginRound vy (by rw [bq]),?_⟩⟩;have fG:=Z20 Wa l (.loop { rec .ready none with state:=.busy });have vA:=hI _ _ _ _ _ hi nw (by simp);have me:=hI _ _ _ _ _ vA fG (by intro b hb;simp at hb;subst hb;exact ⟨by omega,h3⟩);have vB:(Wa.putObj l (.loop { rec .ready none with state:=.busy })).heap[l]?=some (.loop { rec .ready none with state:=.busy }):=World.putObj_heap_same (by omega);have vC:=(fG.block w.heap.size (by omega) (by simp;omega)).trans vz;have js:=hk.ext fG (by simp;omega);have x8:=fG.size;refine (hbody l pre x b G _ _ me cw js (λh=>by have:=hG b h;omega) (by omega) (λ_ _ h=>h) ?_).h a1 qP;intro a2 G' W' cA aP je;have vD:=(aP.block l (by omega) h3).trans vB;have vE:=(aP.block w.heap.size (by omega) h4).trans vC;have x9:=aP.size;have vF:=run_endRound (P:=P) none vD;have gW:=Z20 W' l (.loop (rec .ready none));have ny:l∉G':=λh=>by
     rcases je l h with h|h
     exact h3 h;omega
    refine ⟨_,_,vF,rfl,l :: G',⟨G',rfl,?_,?_,?_,ny,λh=>?_⟩,?_,λb hb=>?_⟩;have:=hI _ _ _ _ _ cA gW (by intro b hb;simp at hb;subst hb;exact ⟨by omega,ny⟩);rw [bq] at this ⊢;exact this;rw [bq];exact World.putObj_heap_same (by omega);rw [bq];exact (World.putObj_heap_other (by omega)).trans vE;rcases je _ h with h|h
    exact h4 h;omega;rw [bq] at gW aP ⊢;exact ((((nw.mono (S':=l :: G) (by simp)).trans ((by rw [bq] at fG;exact fG:Stp [l] _ _).mn)).trans (aP.mono (λb hb=>by simp [hb]))).trans gW.mn);rcases Xb.1 hb with rfl|hb
    exact .inl (by simp);rcases je b hb with h|h
    exact .inl (by simp [h]);exact .inr (by omega);have:=ha.put (v:=encs x) hp;have e2:(a.put (some p) (encs x))={ tmps:=((#[p]:Array Nat).zip #[encs x]).foldl (λt (p,v)=>t.setIfInBounds p v) a.tmps,defers:=[] }:=by
     simp [Act.put,ha.defers]
    rw [e2] at this;exact this)
  ⟨F0,rfl,hI _ _ _ _ _ h0 ae (by simp),kW,qN,λh=>by have:=oz l h;omega,λh=>by have:=oz _ h;omega⟩
 refine (callsIn_wide (n:=4)).2 (fx.mono ?_);rintro _ W2 ⟨v,rfl,F',⟨G,rfl,hi,h1,h2,h3,h4⟩,ah,vG⟩;have kP:=ah.size;have fK:=ae.size;have nu:l<W2.heap.size:=(Xk.1 h1).1;refine ⟨none,_,by have:=run_endLoop (P:=P) h1 (by rw [bq];simp);rw [bq] at this;exact this,?_⟩;have hp:=Z20 W2 l (.loop { rec .ready none with state:=.exhausted });rw [bq] at hp;have hd:=hdone w.heap.size G _ (hI _ _ _ _ _ hi hp (by intro b hb;simp at hb;subst hb;exact ⟨by omega,h3⟩)) (Xn _) h4 ((hp.block w.heap.size (by omega) (by simp;omega)).trans h2) (λb hb=>by
  rcases vG b (by simp [hb]) with h|h
  rcases Xb.1 h with rfl|h
  exact .inr (by omega);exact .inl h;exact .inr (by omega))
  ((((ae.mono (S' := F0) (by simp)).own ah (λb hb => by
    rcases Xb.1 hb with rfl|hb
    exact .inr (by omega);exact .inl hb))).own hp (λb hb=>by simp at hb;subst hb;exact .inr (by omega)))
 have:=hd.h a ha;unfold Z1m at this;rw [ha.defers,XC] at this;rw [ha.defers,XH];exact this
end
section
variable {P:Program} {ops:Array Oper} {md:Region.Mode} {S:List Nat} {Lt:Nat->Bool} {kk:Nat}
theorem ZdF {o:Oper} {a:Act} {w} {K K':Act->World->Prop} {Q:Exit->Act->World->Prop} (hK:∀ a w,K a w->K' a w) (h:o.wpIn Fence.wide kk P a w K (λ_ _ _=>False)):o.wpIn Fence.wide kk P a w K' Q:=by
 unfold Oper.wpIn at *;refine ⟨h.1,?_⟩;replace h:=h.2;generalize (o.semAt Fence.wide.round a.eval).run P w=r at *;cases r with
 | ok x w'=>
   cases x<;>simp only [Oper.uponIn] at h ⊢
   case value v=>exact hK _ _ h
   case skip=>exact hK _ _ h
   case defer d=>exact hK _ _ h
   case enter f args=>
    exact ⟨h.1,CallsIn.mono h.2 λe w'' he=>by
     cases e with
     | returned v=>exact hK _ _ he
     | panicked c=>exact he.elim
     | outgrown=>obtain ⟨_,_,hf⟩:=he;exact hf.elim⟩
   case row row args=>exact ⟨h.1,RowsIn.mono h.2 λu w'' he=>hK _ _ he⟩
   case round l f tmps assign body=>
    exact ⟨h.1,RoundIn.mono h.2 λe w'' he=>by
     cases e with
     | returned v=>exact hK _ _ he
     | panicked c=>exact he.elim
     | outgrown=>obtain ⟨_,_,hf⟩:=he;exact hf.elim⟩
 | halt x w'=>cases x<;>simp only [Oper.uponIn] at h ⊢
def Z32 (kk:Nat) (P:Program) (md:Region.Mode) (ops:Array Oper) (S:List Nat) (Lt:Nat->Bool) (Z:Act->World->Prop):Nat->Array Bool->Act->World->Prop
 | 0,listed,a,w=>Region.ready md ops listed=[]/\Z a w
 | fuel + 1, listed, a, w=>
   (Region.ready md ops listed=[]->Z a w)/\
   ∀ i∈Region.ready md ops listed,wpOpIn Fence.wide kk P ops (λ_ _ _=>False) i (λa' w'=>(Stp S w w'\/Lt i=true)/\Z32 kk P md ops S Lt Z fuel (listed.setIfInBounds i true) a' w') a w
theorem Z1B {Z:Act->World->Prop} {Q:Exit->Act->World->Prop} (hZ:∀ a w,Z a w->Q .normal a w):∀ (fuel:Nat) (listed:Array Bool) (a:Act) (w),
 Z32 kk P md ops S Lt Z fuel listed a w->wpAnyIn Fence.wide kk P md ops Q fuel listed a w
 | 0,_,_,_,h=>⟨h.1,hZ _ _ h.2⟩
 | fuel + 1, listed, a, w, h => ⟨λh0 => hZ _ _ (h.1 h0), λi hi => by
   have h1:=h.2 i hi;unfold wpOpIn at h1 ⊢;cases ho:ops[i]? with
   | none=>simp only [ho] at h1 ⊢;exact Z1B hZ fuel _ a w h1.2
   | some o=>
     simp only [ho] at h1 ⊢;split at h1;rename_i hw;rw [if_pos hw];exact ZdF (λa w h=>Z1B hZ fuel _ a w h.2) h1;rename_i hw;rw [if_neg hw];exact ⟨λ_ _=>trivial,Z1B hZ fuel _ _ w h1.2.2⟩⟩
theorem ZeF {Z:Act->World->Prop} {R:World->World->Prop} (jK:∀ w,R w w) (mr:∀ a b c,R a b->R b c->R a c) {i:Nat} {oi:Oper} {v:Value} (hi:ops[i]?=some oi)
 (mu:∀ j oj,ops[j]?=some oj->(∀ e∈oj.after,Region.binds md e=true->e.on≠i)->j≠i->∀ w w',(Stp S w w'\/Lt j=true)->R w w')
 (eZ:∀ (j:Nat) (o:Oper) cs b,ops[j]?=some o->o.op≠.select cs b) :
 ∀ (fuel : Nat) (listed : Array Bool) (a : Act) (w),
   (∀ j oj,ops[j]?=some oj->j≠i->listed.getD j true=false->(∀ e∈oj.after,Region.binds md e=true->e.on≠i)->oi.apart ops oj=true)->
   (Stp S w w\/Lt i=true->True)->i∈Region.ready md ops listed->YE P ops R oi v a w->
   Z32 kk P md ops S Lt Z fuel (listed.setIfInBounds i true) (a.put oi.dst v) w->Z32 kk P md ops S Lt Z (fuel+1) listed a w:=by
 have now:∀ (fuel:Nat) (listed:Array Bool) (a:Act) (w:World),YE P ops R oi v a w->Z32 kk P md ops S Lt Z fuel (listed.setIfInBounds i true) (a.put oi.dst v) w->
  wpOpIn Fence.wide kk P ops (λ_ _ _=>False) i (λa' w'=>(Stp S w w'\/Lt i=true)/\Z32 kk P md ops S Lt Z fuel (listed.setIfInBounds i true) a' w') a w:=by
  intro fuel listed a w hy H;unfold wpOpIn;simp only [hi];rcases hy with ⟨hw,hv⟩|⟨hw,rfl⟩
  simp only [hw,if_true];refine ⟨λ_ _=>trivial,?_⟩;rw [show Fence.wide.round=none from rfl,Oper.semAt_none,hv w (jK w)];exact ⟨.inl (Stp.refl _ _),H⟩;simp only [hw,XP,if_false];exact ⟨λ_ _=>trivial,.inl (Stp.refl _ _),H⟩
 intro fuel
 induction fuel with
 | zero=>
   intro listed a w _ _ hr hy H;refine ⟨λh=>(by rw [h] at hr;cases hr),λj hj=>?_⟩;by_cases ci:j=i;subst ci;exact now _ _ _ _ hy H;have:=ready_mono hj ci;rw [H.1] at this;cases this
 | succ fuel ih=>
   intro listed a w dt hx hr hy H;refine ⟨λh=>(by rw [h] at hr;cases hr),λj hj=>?_⟩;by_cases ci:j=i;subst ci;exact now _ _ _ _ hy H;have h1:=H.2 j (ready_mono hj ci);obtain ⟨fa,oj,fY,aA⟩:=mem_ready.1 hj;have fb:∀ e∈oj.after,Region.binds md e=true->e.on≠i:=λe he hb cX=>by
    have h1:=aA e he hb;have h0:=(mem_ready.1 hr).1;rw [cX] at h1;rcases Yat i listed.size with h'|h'
    simp [h'] at h0 h1;rw [h0] at h1;cases h1;simp [Yau h'] at h1
   have hap:=dt j oj fY ci fa fb;obtain ⟨p1,p2,p3⟩:=Oper.apart_spec hap;have keep:∀ (a:Act),YE P ops R oi v a w->∀ u,YE P ops R oi v (a.put oj.dst u) w:=λa hy u=>
    hy.same (execOp_put oi (λcs b=>eZ i oi cs b hi) a oj.dst u p3) (wanted_put oi a oj.dst u p3)
   have keepD:∀ (a:Act) d,YE P ops R oi v a w->YE P ops R oi v { a with defers:=d :: a.defers } w:=λa d hy=>hy.same rfl rfl;have later:∀ (a:Act) w',(Stp S w w'\/Lt j=true)->YE P ops R oi v a w->YE P ops R oi v a w':=λa w' hs hy=>by
    rcases hy with ⟨hw,hv⟩|hw
    exact .inl ⟨hw,λw'' h''=>hv w'' (mr _ _ _ (mu j oj fY fb ci w w' hs) h'')⟩;exact .inr hw
   have dF:∀ k ok,ops[k]?=some ok->k≠i->(listed.setIfInBounds j true).getD k true=false->
    (∀ e∈ok.after,Region.binds md e=true->e.on≠i)->oi.apart ops ok=true:=λk ok hk gA iJ bo=>by
    refine dt k ok hk gA ?_ bo;by_cases ib:j=k;subst ib;exact fa;rw [getD_set_ne true ib] at iJ;exact iJ
   have fin:∀ a' w',YE P ops R oi v a' w->(Stp S w w'\/Lt j=true)/\Z32 kk P md ops S Lt Z fuel ((listed.setIfInBounds i true).setIfInBounds j true) (a'.put oi.dst v) w'->
    (Stp S w w'\/Lt j=true)/\Z32 kk P md ops S Lt Z (fuel+1) (listed.setIfInBounds j true) a' w':=by
    rintro a' w' ic ⟨hs,hk⟩;refine ⟨hs,ih _ a' w' dF (λ_=>trivial) (ready_mono hr (Ne.symm ci)) (later a' w' hs ic) ?_⟩;rw [Ya0 _ _ ci];exact hk
   have mw:∀ cs b,oj.op≠.select cs b:=λcs b=>eZ j oj cs b fY;unfold wpOpIn at *;simp only [fY] at *;rw [wanted_put oj a oi.dst v p1] at h1;split
   . rename_i hw
     simp only [hw,if_true] at h1;refine ⟨λ_ _=>trivial,?_⟩;replace h1:=h1.2;rw [show Fence.wide.round=none from rfl,Oper.semAt_none] at h1 ⊢;rw [execOp_put oj mw a oi.dst v p1] at h1;generalize (execOp a.eval oj).run P w=r at *;cases r with
     | ok n w'=>
       cases n<;>simp only [Oper.uponIn] at h1 ⊢
       case value u=>exact fin _ _ (keep a hy u) (by rw [<- Act.put_comm a v u p2];exact h1)
       case skip=>exact fin _ _ (keep a hy _) (by rw [<- Act.put_comm a v undef p2];exact h1)
       case defer d=>
        refine fin _ _ (keep _ (keepD a d hy) _) ?_;rw [<- Act.put_comm _ v undef p2,<- Act.put_defers];exact h1
       case enter f args=>
        refine ⟨h1.1,CallsIn.mono h1.2 λe w'' he=>?_⟩;cases e with
        | returned u=>exact fin _ _ (keep a hy u) (by rw [<- Act.put_comm a v u p2];exact he)
        | panicked c=>exact he
        | outgrown=>exact he
       case row row args=>exact ⟨h1.1,RowsIn.mono h1.2 λu w'' he=>fin _ _ (keep a hy u) (by rw [<- Act.put_comm a v u p2];exact he)⟩
       case round l f tmps assign body=>
        refine ⟨h1.1,RoundIn.mono h1.2 λe w'' he=>?_⟩;cases e with
        | returned u=>exact fin _ _ (keep a hy u) (by rw [<- Act.put_comm a v u p2];exact he)
        | panicked c=>exact he
        | outgrown=>exact he
     | halt x w'=>
       cases x<;>simp only [Oper.uponIn] at h1
   rename_i hw;simp only [hw] at h1;exact ⟨λ_ _=>trivial,fin _ _ (keep a hy _) (by rw [<- Act.put_comm a v undef p2];exact h1.2)⟩
end
structure WDI (kk:Nat) (P:Program) (n:Nat) (ops:Array Oper) (S:List Nat) (Q:Exit->Act->World->Prop) (ord:List (Nat×Nat)) (e:Env) (w:World):Prop where
 h:∀ listed:Array Bool,Region.noSelect ops=true->ZY ops [] ord listed=true->∀ a,Has n e a->Z32 kk P .any ops S (λj=>([]:List Nat).contains j) (λa w=>Q .normal a w) (wt ord) listed a w
section
variable {P:Program} {n kk:Nat} {Q:Exit->Act->World->Prop} {e:Env} {w:World} {ops:Array Oper} {S:List Nat} {rest:List (Nat×Nat)}
variable {i d:Nat} {op:Op} {ty:TypeId} {pos:String} {af:Array Edge} {v:Value}
theorem Zg0 {id:Nat} {L:List Oper} (kk:Nat) (m:Nat) (S:List Nat) (ord:List (Nat×Nat)) (cp:L.length=m) (hm:P.follows .mixedOrders=true) (hs:Region.noSelect L.toArray=true) (hl:Nat.beq (wt ord) L.length=true)
 (hB:ZY L.toArray [] ord (Array.replicate m false)=true)
 (h:∀ w',Stp [] w w'->WDI kk P n L.toArray S Q ord e w'):WC P n (.region id L.toArray true) Q e w:=by
 subst cp;refine ⟨λa ha=>(wpIn_wide (n:=kk)).1 (wpIn_region_any hm ?_)⟩;have h1:=(h { w with drawn:=w.drawn+1 } (Stp.drew [] w)).h _ hs hB a ha;have h2:=Z1B (Q:=Q) (λa w hz=>hz) _ _ _ _ h1;rw [XL hl] at h2;simpa using h2
theorem ZmD (h:WQ n Q .normal e w):WDI kk P n ops S Q [] e w:=
 ⟨λ_ _ hB a ha=>⟨by simpa [ZY,ZS] using hB,h.h a ha⟩⟩
theorem Z0n (hi:ops[i]?=some ⟨some d,op,ty,pos,af,none⟩) (hp:∀ w',PR P n ⟨some d,op,ty,pos,af,none⟩ e w' v) (aw:Nat.blt d n=true)
 (k:WDI kk P n ops S Q rest ((d,v) :: e) w):WDI kk P n ops S Q ((i,0) :: rest) e w:=by
 refine ⟨λlisted hs hB a ha=>?_⟩;simp only [ZY,ZS,Xm] at hB;obtain ⟨⟨h1,h2⟩,h3⟩:=hB;have hk:=k.h _ hs h3 _ (ha.put (v:=v) aw);rw [JS (by decide)];exact ZeF (R:=λ_ _=>True) (λ_=>trivial) (λ_ _ _ _ _=>trivial) hi (λ_ _ _ _ _ _ _ _=>trivial) (Region.noSelect_spec hs) _ _ _ _ (Region.free_spec hi h2) (λ_=>trivial) (by simpa using h1) (.inl ⟨Js (e:=e) (n:=n) ha trivial,λw' _=>(hp w').h a ha⟩) hk
theorem Zc5 (hi:ops[i]?=some ⟨some d,op,ty,pos,af,none⟩) (hp:∀ w',Stp S w w'->PR P n ⟨some d,op,ty,pos,af,none⟩ e w' v) (aw:Nat.blt d n=true)
 (k:WDI kk P n ops S Q rest ((d,v) :: e) w):WDI kk P n ops S Q ((i,1) :: rest) e w:=by
 refine ⟨λlisted hs hB a ha=>?_⟩;simp only [ZY,ZS,Xm] at hB;obtain ⟨⟨⟨h1,h2⟩,hb⟩,h3⟩:=hB;have hk:=k.h _ hs h3 _ (ha.put (v:=v) aw);rw [JS (by decide)];refine ZeF (R:=Stp S) (λw=>Stp.refl _ w) (λ_ _ _ h k=>h.trans k) hi (λj oj hj hn ci w w' hs=>?_) (Region.noSelect_spec hs) _ _ _ _ (Region.free_spec hi h2) (λ_=>trivial) (by simpa using h1) (.inl ⟨Js (e:=e) (n:=n) ha trivial,λw' hw=>(hp w' hw).h a ha⟩) hk;rcases hs with hs|hs
 exact hs;cases hs
theorem Zg1 {l:Nat} {x c:Operand} {ts:Array TypeId} {u r:Value} {G:World->Prop} (hi:ops[i]?=some ⟨some d,.call { callee:=.value c,args:=#[x],argTypes:=ts },ty,pos,af,none⟩) (hc:ev e c=some (.func (.yield l) #[] #[])) (hx:ev e x=some u)
 (hY:YieldAt Fence.wide (kk - 1) P l #[u] w (λen W'=>en=.returned r/\G W')) (hS:∀ W',G W'->Stp S w W') (aw:Nat.blt d n=true)
 (k:∀ W',G W'->WDI kk P n ops S Q rest ((d,r) :: e) W'):WDI kk P n ops S Q ((i,2) :: rest) e w:=by
 refine ⟨λlisted hs hB a ha=>?_⟩;simp only [ZY,ZS] at hB;rw [if_neg (by simp)] at hB;simp only [Xm,beq_iff_eq] at hB;obtain ⟨h1,h3⟩:=hB;rw [JS (by decide)];refine ⟨λh0=>absurd (h1 ▸ h0) (by simp),λj hj=>?_⟩;rw [h1] at hj;obtain rfl:j=i:=by simpa using hj
 obtain ⟨fn,tmps,assign,body,hy,hR⟩:=hY;unfold wpOpIn;simp only [hi];rw [if_pos (show Region.wanted (⟨some d,.call { callee:=.value c,args:=#[x],argTypes:=ts },ty,pos,af,none⟩:Oper) _=true from rfl)];refine ⟨λ_ _=>trivial,?_⟩;have he:(execOp a.eval ⟨some d,.call { callee:=.value c,args:=#[x],argTypes:=ts },ty,pos,af,none⟩).run P w=.ok (.round l fn tmps assign body) w:=by
  simp only [execOp,resolve,ha.ev hc,Deferred.ofValue];simp [invoke,ha.ev hx,hy]
 rw [show Fence.wide.round=none from rfl,Oper.semAt_none,he];refine ⟨λh=>(by cases h),RoundIn.mono hR ?_⟩;rintro en W' ⟨rfl,hG⟩;exact ⟨.inl (hS W' hG),(k W' hG).h _ hs h3 _ (ha.put aw)⟩
end
variable {P:Program} {n:Nat} {e:Env} {w:World} {d:Option Nat} {ty:TypeId} {pos:String} {af:Array Edge} {g:Option (Nat×Bool)}
theorem Z6Q {t el len k:Nat} {x hi:Operand} {b r:Nat} {z:Int} [hu:Und P t (.array len el)] [hk:Siz P el k] (hx:ev e x=some (pQ b)) (hz:ev e hi=some (.I z)) (dc:z=(r:Int)) (hr:r<=len) :
 PR P n ⟨d,.slice t x none (some hi) none,ty,pos,af,g⟩ e w (.slice (some ⟨b,0,none⟩) r len):=
 ⟨λa ha => by
   subst dc;simp [execOp,ha.ev hx,ha.ev hz,Instr.sliceAt,Instr.sureAddr,run_underlying hu.h,Instr.sliceBounds,Instr.sliceBound,asIntOf,Siz.run,Addr.add,show r<=len by omega]⟩
theorem ZeG {X:List Nat} {w} {b T len n:Nat} {cs:List Value} {xs:List Int} (hn:xs.length=n) (hb:Blk w b T cs) (hX:b∉X) (hl:cs.length=len) (hm:len<=maxLen) (hx:xs.length<=len) (hc:∀ i (h:i<xs.length),cs[i]?=some (.I xs[i])):SlV X w (.slice (some ⟨b,0,none⟩) n len) xs:=by
 subst hn;refine ⟨some ⟨b,0,none⟩,len,rfl,hx,hm,λh=>by simp at h,λi hi=>⟨b,0,[.I xs[i]],rfl,hb.lt,hX,rfl,λj u hu=>?_⟩⟩;have hj:j=0:=by
  have:=(Xu.1 hu).1;simp at this;exact this
 subst hj;simp at hu;subst hu;refine hb.cell ?_;simpa [Z5.k,Z3.k] using hc i hi
end Go.Eng
namespace Go.Proofs.YtipfkbkkndacjaaGreatDoor
open Go Go.Eng Go.RowKit
def ZaC (r:Rtn) (day:Int):Bool:=if r.kind=1 then decide (day<r.lo\/r.hi<day) else if r.kind=2 then decide (0<=day/\day<=r.hi) else decide (0<=day)
theorem Zg2 (r:Rtn) (day:Int) (w):CC 256 #[aG r,.I day] w λv w'=>v=.B (ZaC r day)/\Stp [] w w':=by
 unfold ZaC;refine cW2 31 Tryz.func256 ?_;refine W ?_;refine BX (Stp.refl [] w) λb2 w1 h2 e2 _ hS=>?_;replace e2:Blk w1 b2 80 (Z3.enc r):=e2;simp only [Z3.enc] at e2;by_cases h1:r.kind=1
 . rw [if_pos h1]
   (refine QP ?_ ?_<;>intro hg)
   all_goals
    refine RU ?_;exact ⟨by congr 1;first|(rw [decide_eq_true (by omega)];done)|(symm;rw [decide_eq_decide];constructor<;>intro _<;>omega)|(symm;exact decide_eq_true (by omega))|(symm;exact decide_eq_false (by omega)),hS⟩
 rw [if_neg h1];by_cases h2:r.kind=2
 . rw [if_pos h2]
   (refine QP ?_ ?_<;>intro hg)
   all_goals
    refine RU ?_;exact ⟨by congr 1;first|(symm;rw [decide_eq_decide];constructor<;>intro _<;>omega)|(symm;exact decide_eq_true (by omega))|(symm;exact decide_eq_false (by omega)),hS⟩
 rw [if_neg h2];refine RT ?_;exact ⟨rfl,hS⟩
theorem Zjy (v:Value) (l:List Int) (x:Int) (w) (hs:SlV [] w v l):CC 257 #[v,.I x] w λr w'=>(∃ z:Int,r=.I z/\((z=-1/\x∉l)\/∃ (k:Nat) (h:k<l.length),z=k/\l[k]=x/\∀ j (h:j<l.length),j<k->l[j]≠x))/\Stp [] w w':=by
 have aT:=hs.max;refine cW2 19 Tryz.func257 ?_;refine W ?_;refine LP (σ:=Nat) (λk=>[(0,v),(1,.I x),(6,v),(7,.I l.length),(8,.I k)]) (λk w'=>k<=l.length/\Stp [] w w'/\∀ j (h:j<l.length),j<k->l[j]≠x) (λk=>l.length - k) 0 ⟨by omega,Stp.refl _ _,by omega⟩ ?_;rintro k w2 ⟨hk,hT,hz⟩;have br:=hs.up hT;by_cases hlt:k<l.length
 (refine QP ?_ ?_<;>intro hc)
 refine RU ?_;exact ⟨⟨_,rfl,.inr ⟨k,hlt,rfl,hc.symm,hz⟩⟩,hT⟩;exact QL (k+1) ⟨hlt,hT,λj h hj=>by
  by_cases e:j=k;subst e;exact λh=>hc h.symm;exact hz j h (by omega)⟩ (by omega)
 refine RT ?_;exact ⟨⟨_,rfl,.inl ⟨rfl,λh=>by
  obtain ⟨j,hj,e⟩:=Xr h;exact hz j hj (by omega) e⟩⟩,hT⟩
def Z6n (c:Int):List (Int×Int)->List (Int×Int)
 | []=>[(c,1)]
 | p :: l=>if p.1=c then (c,p.2+1) :: l else p :: Z6n c l
def Zc6 (day:Int) (st:List (Int×Int)) (r:Rtn):List (Int×Int):=if ZaC r day=true then Z6n r.crr st else st
def Z33 (l:List Rtn) (day:Int):List (Int×Int):=l.foldl (Zc6 day) []
def Z8O (crrs:List Crr) (p:Int×Int):Int:=max 0 (p.2 - (crrs.getD p.1.toNat ⟨0,0⟩).tol)
def Z1u (l:List Rtn) (crrs:List Crr) (day:Int):Int:=((Z33 l day).map (Z8O crrs)).sum
theorem Zc7 (c:Int):∀ (st:List (Int×Int)),c∉st.map (·.1)->Z6n c st=st++[(c,1)]
 | [],_=>rfl
 | p :: l, h => by
   simp only [Xy,Xb,not_or] at h;rw [Z6n,if_neg (λe=>h.1 e.symm),Zc7 c l h.2];rfl
theorem Zc8 (c:Int):∀ (st:List (Int×Int)) (k:Nat) (hk:k<st.length),st[k].1=c->(∀ j (h:j<st.length),j<k->st[j].1≠c)->Z6n c st=st.set k (c,st[k].2+1)
 | p :: l, 0, hk, h, _ => by
   simp only [Ya8] at h;rw [Z6n,if_pos h];rfl
 | p :: l, k + 1, hk, h, hz => by
   have h0:=hz 0 (by simp) (by omega);simp only [Ya8] at h0;rw [Z6n,if_neg h0,Zc8 c l k (by simpa using hk) (by simpa using h) (λj hj ib=>by
    have h2:=hz (j+1) (by simpa using hj) (by omega)
    rwa [List.getElem_cons_succ] at h2)]
   simp
theorem Zjz (c:Int) (st:List (Int×Int)):(Z6n c st).length<=st.length+1:=by
 induction st with
 | nil=>simp [Z6n]
 | cons p l ih=>
   rw [Z6n];split<;>simp<;>omega
theorem Z6o (l:List Rtn) (day:Int) (k:Nat) (h:k<l.length):Z33 (l.take (k+1)) day=Zc6 day (Z33 (l.take k) day) l[k]:=by
 unfold Z33;rw [Xi h,YaF];rfl
theorem Zc9 (l:List Rtn) (day:Int) (k:Nat) (h:k<=l.length):(Z33 (l.take k) day).length<=k:=by
 induction k with
 | zero=>simp [Z33]
 | succ k ih=>
   rw [Z6o l day k (by omega),Zc6];have:=ih (by omega);split;have:=Zjz l[k].crr (Z33 (l.take k) day);omega;omega
def arX (f:Int×Int->Int) (st:List (Int×Int)):List Value:=st.map (λp=>.I (f p))++List.replicate (32 - st.length) (.I 0)
theorem Z5C (f:Int×Int->Int) {st:List (Int×Int)} (h:st.length<=32):(arX f st).length=32:=by simp [arX];omega
theorem Z5D (f:Int×Int->Int) {st:List (Int×Int)} {k:Nat} (h:k<st.length):(arX f st)[k]?=some (.I (f st[k])):=by
 rw [arX,Yaa (by simpa using h)];simp [h]
theorem ZmE (f:Int×Int->Int) {st:List (Int×Int)} (h:st.length<32):(arX f st)[st.length]?=some (.I 0):=by
 rw [arX,Yaz (by simp)];simp [Ya6];omega
theorem ZeH (f:Int×Int->Int) {st:List (Int×Int)} (p:Int×Int) (h:st.length<32):(arX f st).set st.length (.I (f p))=arX f (st++[p]):=by
 unfold arX;rw [List.set_append_right _ _ (by simp)];obtain ⟨m,hm⟩:∃ m,32 - st.length=m+1:=⟨31 - st.length,by omega⟩
 rw [hm];simp only [Xs,Nat.sub_self,YaZ,List.set_cons_zero,XM,Xy,XR,Xx,XS,XC,Xc,List.length_singleton];rw [show 32 - (st.length+1)=m by omega]
theorem ZeI (f:Int×Int->Int) {st:List (Int×Int)} {k:Nat} (p:Int×Int) (h:k<st.length):(arX f st).set k (.I (f p))=arX f (st.set k p):=by
 unfold arX;rw [List.set_append_left _ _ (by simpa using h),X4,List.map_set]
theorem ZeJ {c:Int} {m:Int} {p:Int×Int}:∀ {st:List (Int×Int)},(∀ q∈st,0<=q.2/\q.2<=m)->0<=m->p∈Z6n c st->(p.1=c\/p.1∈st.map (·.1))/\0<=p.2/\p.2<=m+1
 | [], _, hm, h => by
   simp only [Z6n,Xl] at h;subst h;exact ⟨.inl rfl,by dsimp only;omega,by dsimp only;omega⟩
 | q :: l, hq, hm, h => by
   have h0:=hq q (by simp);rw [Z6n] at h;split at h;rcases Xb.1 h with rfl|h
   exact ⟨.inl rfl,by dsimp only;omega,by dsimp only;omega⟩;have:=hq p (by simp [h]);exact ⟨.inr (XG.2 ⟨p,by simp [h],rfl⟩),by omega,by omega⟩;rcases Xb.1 h with rfl|h
   exact ⟨.inr (by simp),by omega,by omega⟩;obtain ⟨a,b⟩:=ZeJ (λx hx=>hq x (by simp [hx])) hm h;exact ⟨a.imp id (λh=>by simp [h]),b⟩
theorem ZaD {l:List Rtn} {day:Int} {N:Int} (hr:∀ r∈l,0<=r.crr/\r.crr<N):∀ k,k<=l.length->∀ p∈Z33 (l.take k) day,(0<=p.1/\p.1<N)/\0<=p.2/\p.2<=k
 | 0,_,p,hp=>by simp [Z33] at hp
 | k + 1, hk, p, hp => by
   have ih:=ZaD (day:=day) hr k (by omega);rw [Z6o l day k (by omega),Zc6] at hp;split at hp;obtain ⟨a,b,c⟩:=ZeJ (m:=k) (λq hq=>(ih q hq).2) (by omega) hp;refine ⟨?_,b,by omega⟩;rcases a with a|a
   rw [a];exact hr _ (Xd _);obtain ⟨q,hq,e⟩:=XG.1 a;rw [<- e];exact (ih q hq).1;have:=ih p hp;exact ⟨this.1,this.2.1,by omega⟩
theorem Z8g (lv cv:Value) (l:List Rtn) (crrs:List Crr) (day:Int) (w) (hl:SlV [] w lv l) (hc:SlV [] w cv crrs) (mS:l.length<=32) (hr:∀ r∈l,0<=r.crr/\r.crr<crrs.length) (ht:∀ c∈crrs,0<=c.tol/\c.tol<=1000) :
 CC 201 #[lv,cv,.I day] w λv w'=>v=.I (Z1u l crrs day)/\Stp [] w w':=by
 refine cW3 68 Tryz.func201 ?_;refine W ?_;refine Z0 Z2 rfl ?_;rintro _ w1 ⟨b7,rfl,fg,e7,hS⟩;refine W ?_;refine Z0 Z2 rfl ?_;rintro _ w2 ⟨b8,rfl,fk,e8,hT⟩;have l7:=e7.lt;replace e7:=e7.up hT;have n78:b7≠b8:=by omega
 have g8:w.heap.size<=b8:=Xg hS.size fk;replace hS:=hS.trans hT;replace e7:Blk w2 b7 329 (arX (·.2) (Z33 (l.take 0) day)):=e7;replace e8:Blk w2 b8 329 (arX (·.1) (Z33 (l.take 0) day)):=e8;clear hT;refine W ?_;refine Z0f (σ:=Unit) (λ_=>[(1,cv),(7,pQ b7),(8,pQ b8),(9,.I (Z33 l day).length)]) (λ_ w'=>Stp [] w w'/\Blk w' b7 329 (arX (·.2) (Z33 l day))/\Blk w' b8 329 (arX (·.1) (Z33 l day))) ?_ ?_;refine LP (σ:=Nat) (λk=>[(1,cv),(2,.I day),(7,pQ b7),(8,pQ b8),(9,.I (Z33 (l.take k) day).length),(16,lv),(17,.I l.length),(18,.I k)]) (λk w'=>k<=l.length/\Stp [] w w'/\Blk w' b7 329 (arX (·.2) (Z33 (l.take k) day))/\Blk w' b8 329 (arX (·.1) (Z33 (l.take k) day))) (λk=>l.length - k) 0 ⟨by omega,hS,e7,e8⟩ ?_;clear e7 e8 hS;rintro k w3 ⟨hk,hS,e7,e8⟩;by_cases hlt:k<l.length;have ey:=hl.up hS;have hstep:=Z6o l day k hlt;have il:=Zc9 l day k hk;have aO:=ZaD (day:=day) hr k hk;generalize Z33 (l.take k) day=st at *;refine QO ?_;refine Z0 Z2 rfl ?_;rintro _ w4 ⟨b11,rfl,qM,e11,hT⟩;refine SA (us:=Z3.enc l[k]) e11 ?_;rintro _ w5 ⟨aq,e11⟩;replace hT:=hT.ow aq;replace hS:=hS.trans hT;replace e7:=e7.up hT;replace e8:=e8.up hT;clear hT aq ey;refine W ?_;refine CP hS (Zg2 l[k] day _) λw6 hT hS=>?_;replace e7:=e7.up hT;replace e8:=e8.up hT;replace e11:=e11.up hT;clear hT;rw [Zc6] at hstep;cases hw:ZaC l[k] day;rw [hw,if_neg (by simp)] at hstep;refine QO ?_;exact Zw (k+1) ⟨rfl,rfl,rfl,rfl,by rw [hstep];rfl,rfl,rfl,rfl,trivial⟩ ⟨hlt,hS,by rw [hstep];exact e7,by rw [hstep];exact e8⟩ (by omega);rw [hw,if_pos rfl] at hstep;refine QO ?_;refine ZDr 6 [] [] [(0,0),(1,0),(2,0),(3,1),(4,2),(5,0)] (λw1 ae=>?_);replace e7:=e7.up ae;replace e8:=e8.up ae;replace e11:=e11.up ae;replace hS:=hS.trans ae;clear ae;refine D ?_;refine Ja rfl trivial (λ_=>Z6Q (r:=st.length) rfl rfl rfl (by omega)) rfl ?_;refine D ?_;have eT:SlV [] w1 (.slice (some ⟨b8,0,none⟩) st.length 32) (st.map (·.1)):=ZeG (by simp) e8 (by simp) (Z5C _ (by omega)) (by decide) (by simp;omega) (λi h=>by
  have:=Z5D (·.1) (st:=st) (k:=i) (by simpa using h);simpa using this)
 refine DC (Zjy _ _ l[k].crr _ eT) (λ_ _ h=>h.2) ?_;rintro _ w7 ⟨⟨z,rfl,hz⟩,hT⟩;replace e7:=e7.up hT;replace e8:=e8.up hT;replace e11:=e11.up hT;replace hS:=hS.trans hT;clear hT eT;have own:∀ b,b=b7\/b=b8->∀ c∈[b],c∈([]:List Nat)\/w.heap.size<=c:=λb hb c hc=>.inr (by simp at hc;omega)
 rcases hz with ⟨rfl,hn⟩|⟨j,hj,rfl,ea,vH⟩
 rw [Zc7 _ _ hn] at hstep;have h0:=ZmE (·.2) (st:=st) (by omega);refine D ?_;refine QO ?_;refine Z6 (Zb (o:=0+st.length * 1) (u:=.I l[k].crr) rfl rfl rfl rfl e8 (by rw [Z5C _ (by omega)];omega)) ?_;rintro _ w8 ⟨hT,e8⟩;replace e7:=e7.ext hT (by simpa using n78);replace hS:=hS.own hT (own _ (.inr rfl));rw [XK,YaM,ZeH (·.1) (l[k].crr,1) (by omega)] at e8;refine QO ?_;refine Z8 (ZZ rfl rfl e7 (by rw [XK,YaM];exact h0)) rfl ?_;refine QO ?_;refine Z6 (Zb (o:=0+st.length * 1) (u:=.I (0+1)) rfl rfl rfl rfl e7 (by rw [Z5C _ (by omega)];omega)) ?_;rintro _ w9 ⟨hT,e7⟩;replace e8:=e8.ext hT (by simpa using n78.symm);replace hS:=hS.own hT (own _ (.inl rfl));rw [XK,YaM] at e7;replace e7:Blk w9 b7 329 (arX (·.2) (st++[(l[k].crr,1)])):=by rw [<- ZeH (·.2) (l[k].crr,1) (by omega)];exact e7
 refine QO ?_;exact Zw (k+1) ⟨rfl,rfl,rfl,rfl,by rw [hstep,Xc];rfl,rfl,rfl,rfl,trivial⟩ ⟨hlt,hS,by rw [hstep];exact e7,by rw [hstep];exact e8⟩ (by omega);rw [Xs] at hj;have nz:st[j].1=l[k].crr:=by simpa using ea
 rw [Zc8 _ _ j hj nz (λi h hi=>by have:=vH i (by simpa using h) hi;simpa using this)] at hstep;have h0:=Z5D (·.2) (st:=st) hj;have ya:=(aO _ (Xd hj)).2;refine D ?_;refine QO ?_;refine Z8 (ZZ rfl rfl e7 (by rw [XK,YaM];exact h0)) rfl ?_;refine QO ?_;refine Z6 (Zb (o:=0+j * 1) (u:=.I (st[j].2+1)) rfl rfl rfl rfl e7 (by rw [Z5C _ (by omega)];omega)) ?_;rintro _ w9 ⟨hT,e7⟩;replace e8:=e8.ext hT (by simpa using n78.symm);replace hS:=hS.own hT (own _ (.inl rfl));rw [XK,YaM] at e7;replace e7:Blk w9 b7 329 (arX (·.2) (st.set j (l[k].crr,st[j].2+1))):=by rw [<- ZeI (·.2) (l[k].crr,st[j].2+1) hj];exact e7
 have e8':Blk w9 b8 329 (arX (·.1) (st.set j (l[k].crr,st[j].2+1))):=by
  rw [<- ZeI (·.1) (l[k].crr,st[j].2+1) hj];have h1:=Z5D (·.1) (st:=st) hj;rw [nz] at h1;obtain ⟨hh,h2⟩:=Xu.1 h1;have:(arX (·.1) st).set j (.I l[k].crr)=arX (·.1) st:=by rw [<- h2];exact List.set_getElem_self hh
  rw [this];exact e8
 refine QO ?_;exact Zw (k+1) ⟨rfl,rfl,rfl,rfl,by rw [hstep,X4];rfl,rfl,rfl,rfl,trivial⟩ ⟨hlt,hS,by rw [hstep];exact e7,by rw [hstep];exact e8'⟩ (by omega);obtain rfl:k=l.length:=by omega
 rw [Xp] at e7 e8;have ey:=hl.up hS;refine QO ?_;exact ZA () ⟨rfl,rfl,rfl,by simp only [Xp];rfl,trivial⟩ ⟨hS,e7,e8⟩;clear e7 e8 hS;rintro _ w3 ⟨hS,e7,e8⟩;have il:=Zc9 l day l.length (Xn _);have aO:=ZaD (day:=day) hr l.length (Xn _);rw [Xp] at il aO;unfold Z1u;generalize Z33 l day=st at *;have eT:SlV [] w3 (.slice (some ⟨b8,0,none⟩) st.length 32) (st.map (·.1)):=ZeG (by simp) e8 (by simp) (Z5C _ (by omega)) (by decide) (by simp;omega) (λi h=>by
  have:=Z5D (·.1) (st:=st) (k:=i) (by simpa using h);simpa using this)
 refine QO ?_;refine Z8 (Z6Q (r:=st.length) rfl rfl rfl (by omega)) rfl ?_;refine QO ?_;refine Zr (σ:=Nat) (λk=>[(1,cv),(7,pQ b7),(13,.I ((st.take k).map (Z8O crrs)).sum),(47,.slice (some ⟨b8,0,none⟩) st.length 32),(48,.I st.length),(49,.I k)]) (λk w'=>k<=st.length/\Stp [] w3 w'/\0<=((st.take k).map (Z8O crrs)).sum/\((st.take k).map (Z8O crrs)).sum<=40 * k) (λk=>st.length - k) 0 ⟨rfl,rfl,rfl,rfl,by simp only [Xs];rfl,rfl,trivial⟩ ⟨by omega,Stp.refl _ _,by simp,by simp⟩ ?_;rintro k w4 ⟨hk,hT,g1,g2⟩;have e7':=e7.up hT;have vI:=eT.up hT;have fi:=hc.up (hS.trans hT);by_cases hlt:k<st.length;obtain ⟨⟨a1,a2⟩,a3,a4⟩:=aO _ (Xd hlt);have kX:((st.take (k+1)).map (Z8O crrs)).sum=((st.take k).map (Z8O crrs)).sum+Z8O crrs st[k]:=by
  rw [Xi hlt,XM,List.sum_append];simp
 obtain ⟨j,hj⟩:∃ j:Nat,st[k].1=j:=⟨st[k].1.toNat,by omega⟩
 have fy:j<crrs.length:=by omega
 have yb:=ht _ (Xd fy);have cp:k<(st.map (·.1)).length:=by simpa using hlt
 have aB:(st.map (·.1))[k]=(j:Int):=by simpa using hj
 have h0:=Z5D (·.2) (st:=st) hlt;have kY:Z8O crrs st[k]=max 0 (st[k].2 - crrs[j].tol):=by
  unfold Z8O;rw [hj];simp [fy]
 generalize ((st.take k).map (Z8O crrs)).sum=s at *;refine QO ?_;refine ZDr 13 [] [] [(0,0),(1,0),(2,0),(3,1),(4,0),(5,0),(6,0),(7,0),(8,1),(9,0),(10,0),(11,0),(12,0)] (λw1 ae=>?_);replace e7':=e7'.up ae;replace fi:=fi.up ae;replace hT:=hT.trans ae;clear ae;refine D ?_;refine Z0k rfl trivial rfl rfl e7' (by simp) (by rw [XK,YaM];exact h0) rfl ?_;refine D ?_;refine QO ?_;exact Zw (k+1) ⟨rfl,rfl,by rw [kX,kY];rfl,rfl,rfl,rfl,trivial⟩ ⟨hlt,hT,by rw [kX,kY];omega,by rw [kX,kY];omega⟩ (by omega);obtain rfl:k=st.length:=by omega
 refine QO ?_;refine WR ?_;rw [Xp];exact .mk ⟨rfl,hS.trans hT⟩
def Z4A (l:List Rtn) (sent:Int):List Int:=Z3b ([sent,3652059]++l.flatMap (λr=>[r.lo,r.hi+1].filter (λd=>decide (sent<d/\d<=3652058))))
def Z8P (l:List Rtn) (sent:Int):List Spn:=((Z4A l sent).zip (Z4A l sent).tail).map (λp=>(p.1,p.2 - 1))
structure AlS where
 least:Int
 never:Bool
 out:List Spn
def Z0x (l:List Rtn) (crrs:List Crr) (s:AlS) (x:Spn):AlS:=
 let e:=Z1u l crrs x.1
 if s.least<e then s else
  let t:AlS:=if e<s.least then ⟨e,false,[]⟩ else s
  match t.out.getLast? with
  | some y=>if y.2=x.1 - 1 then { t with out:=t.out.dropLast++[(y.1,x.2)] } else { t with out:=t.out++[x] }
  | none=>{ t with out:=t.out++[x] }
def Zg3 (l:List Rtn) (crrs:List Crr) (sent:Int):AlS:=(Z8P l sent).foldl (Z0x l crrs) ⟨Z1u l crrs (-1),true,[]⟩
def ZaE (l:List Rtn) (crrs:List Crr) (sent:Int):Int×Bool:=
 let s:=Zg3 l crrs sent
 if s.never=true then (0,false) else match s.out.getLast? with|some y=>(y.2,true)|none=>(0,false)
structure ZmF (l:List Rtn) (crrs:List Crr):Prop where
 len:l.length<=32
 crr:∀ r∈l,0<=r.crr/\r.crr<crrs.length
 tol:∀ c∈crrs,0<=c.tol/\c.tol<=1000
 day:∀ r∈l,0<=r.lo/\r.lo<=3652058/\0<=r.hi/\r.hi<=3652058
theorem Zca {l:List Rtn} {sent x:Int} (hs:0<=sent/\sent<=3652058) (h:x∈Z4A l sent):sent<=x/\x<=3652059:=by
 have:=((Z30 _).2 x).1 h;simp only [Xh,Xb,Xj,or_false,YbB,YbF,decide_eq_true_eq] at this;rcases this with (rfl|rfl)|⟨r,hr,h1,h2⟩<;>omega
theorem Z8h {l:List Rtn} {sent:Int} {s:Spn} (hs:0<=sent/\sent<=3652058) (h:s∈Z8P l sent):sent<=s.1/\s.1<=3652059/\-1<=s.2/\s.2<=3652058:=by
 unfold Z8P at h;obtain ⟨p,hp,rfl⟩:=XG.1 h;have h1:=Zca hs (List.of_mem_zip hp).1;have h2:=Zca hs (List.mem_of_mem_tail (List.of_mem_zip hp).2);dsimp only;omega
def inX (sent d:Int):Bool:=decide (sent<d/\d<=3652058)
def Z6p (l:List Rtn) (sent:Int):List Int:=[sent,3652059]++l.flatMap (λr=>[r.lo,r.hi+1].filter (inX sent))
theorem Z8i (l:List Rtn) (sent:Int):(Z6p l sent).length<=2+2 * l.length:=by
 unfold Z6p;rw [Xc]
 induction l with
 | nil=>simp
 | cons r l ih=>
   have h:=XW (inX sent) [r.lo,r.hi+1];simp only [YaT,Xc,Xe,Xf] at *;omega
theorem Z4q {P:Program} {n:Nat} {e:Env} {w} {d:Option Nat} {ty:TypeId} {pos:String} {af:Array Edge} {g:Option (Nat×Bool)} {x y:Operand} {t:TypeId} {u i v:Value} (hx:ev e x=some u) (hy:ev e y=some i) (hb:∀ w,(Instr.index t u i).run P w=.ok v w):PR P n ⟨d,.index t x y,ty,pos,af,g⟩ e w v:=
 ⟨λa ha=>by simp [execOp,ha.ev hx,ha.ev hy,hb]⟩
theorem ZjA (a b:Int) (w):(Instr.index 333 (.agg #[.I a,.I b]) (.I ((0:Nat):Int))).run Tryz.prog w=.ok (.I a) w:=by kernel_rfl
theorem ZjB (a b:Int) (w):(Instr.index 333 (.agg #[.I a,.I b]) (.I ((1:Nat):Int))).run Tryz.prog w=.ok (.I b) w:=by kernel_rfl
theorem Zg4 (l:List Rtn) (sent:Int) (k:Nat) (h:k<l.length):Z6p (l.take (k+1)) sent=Z6p (l.take k) sent++[l[k].lo,l[k].hi+1].filter (inX sent):=by
 unfold Z6p;rw [Xi h,Yai];simp
theorem ZjC (a b:Int) (w):(Instr.build 75 #[(0,.I a),(1,.I b)]).run Tryz.prog w=.ok (.agg (Z3.enc ((a,b):Spn)).toArray) w:=by kernel_rfl
theorem ZmG (a b:Int) (w):(Instr.buildSlice 23 2 #[(0,.I a),(1,.I b)]).run Tryz.prog w=.ok (.slice (some ⟨w.heap.size,0,none⟩) 2 2) (w.alloc (.cells #[.I a,.I b] 3)):=by kernel_rfl
theorem ZjD (a b:Int) (w):(Instr.build 333 #[(0,.I a),(1,.I b)]).run Tryz.prog w=.ok (.agg #[.I a,.I b]) w:=by kernel_rfl
theorem ZaF (l:Nat) (F:List Nat) (w) (bS bL:Nat) (lv:Value) (rets:List Rtn) (sent:Int) (crrs:List Crr) (ho:ZmF rets crrs) (eT:0<=sent/\sent<=3652058)
 (eS:Blk w bS 3 [.I sent]) (eL:Blk w bL 76 [lv]) (hl:SlV F w lv rets) (hF:∀ b∈F,b<w.heap.size) (hS:bS∉F) (hL:bL∉F) :
 ZeE Tryz.prog 258 #[pQ bS,pQ bL] (λx:Spn=>aG x) (Z8P rets sent) l F w:=by
 intro J hlt tt hY h0;have iw:=ho.len;have kJ:=hl.max;refine cW3 65 Tryz.func258 ?_;refine W ?_;refine Z0 (Z1 rfl (ZmG _ _)) rfl ?_;intro dv0 w1 hN;have kK:ZE 3 w w1 dv0 [sent,3652059]:=ZE.one hN rfl rfl (by simp [maxLen]);have hN:=Z9.stp hN;have eL1:=eL.up hN;have eS1:=eS.up hN;refine W ?_;have qQ:Z6p (rets.take 0) sent=[sent,3652059]:=by simp [Z6p]
 refine LP (σ:=Nat×Value) (λq=>[(0,.func (.yield l) #[] #[]),(1,pQ bS),(2,pQ bL),(4,q.2),(12,lv),(13,.I rets.length),(14,.I q.1)]) (λq w'=>q.1<=rets.length/\ZE 3 w w' q.2 (Z6p (rets.take q.1) sent)) (λq=>rets.length - q.1) (0,dv0) ⟨by omega,by rw [qQ];exact kK⟩ ?_;clear kK qQ hN eS1 eL1;rintro ⟨k,dv⟩ w2 ⟨hk,hr⟩;dsimp only at hk hr ⊢;by_cases eF:k<rets.length;obtain ⟨r1,r2,r3,r4⟩:=ho.day _ (Xd eF);have cr:=Z8i (rets.take k) sent;rw [Xw] at cr;have ay:=Zg4 rets sent k eF;generalize Z6p (rets.take k) sent=pk at *;have dR:SlV [] w2 lv rets:=hl.ext hr.2 (by simp) (by simp);have eS2:=eS.up hr.2;refine QO ?_;refine Z0 Z2 rfl ?_;rintro _ w3 ⟨b6,rfl,eB,e6,hA⟩;refine SA (us:=Z3.enc rets[k]) e6 ?_;rintro _ w4 ⟨dl,e6⟩;replace hA:=hA.ow dl;replace hr:=hr.up hA;refine QO ?_;refine Z7 (vs:=[(0,.I rets[k].lo),(1,.I (rets[k].hi+1))]) rfl (ZjD _ _) rfl ?_;refine QO ?_;generalize nA:rets[k].lo=lo at *;generalize yc:rets[k].hi+1=hi at *;have qR:[lo,hi].filter (inX sent)=(if inX sent lo=true then [lo] else [])++(if inX sent hi=true then [hi] else []):=by
  cases h1:inX sent lo<;>cases h2:inX sent hi<;>simp [h1,h2]
 clear e6 hA dl dR eS2
 refine Zr (σ:=Nat×Value) (λq=>[(0,.func (.yield l) #[] #[]),(1,pQ bS),(2,pQ bL),(4,q.2),(12,lv),(13,.I rets.length),(14,.I k),(23,.agg #[.I lo,.I hi]),(24,.I q.1)])
  (λq w'=>q.1<=2/\ZE 3 w w' q.2 (pk++(if 0<q.1/\inX sent lo=true then [lo] else [])++(if 1<q.1/\inX sent hi=true then [hi] else []))) (λq=>2 - q.1) (0,dv) ⟨rfl,rfl,rfl,rfl,rfl,rfl,rfl,rfl,rfl,trivial⟩ ⟨by omega,by simpa using hr⟩ ?_
 clear hr;rintro ⟨j,dv⟩ w5 ⟨hj,hr⟩;dsimp only at hj hr ⊢;have eS5:=eS.up hr.2;have yd:pk.length<=70:=by omega
 have hz:∀ (p:Prop) [Decidable p] (d:Int),(if p then [d] else []).length<=1:=λp _ d=>by split<;>simp
 obtain rfl|rfl|rfl:j=0\/j=1\/j=2:=by omega
 by_cases bK:sent<lo/\lo<=3652058;refine QO ?_;refine Z8 (Z4q rfl rfl (ZjA _ _)) rfl ?_;refine QO ?_;refine AP1 lo hr (by simp;omega) λv1 v' w' bM _=>?_
 refine QO ?_;exact QL (1,v') ⟨by dsimp only;omega,by simpa [inX,bK] using bM⟩ (by dsimp only;omega)
 . refine QO ?_
   refine Z8 (Z4q rfl rfl (ZjA _ _)) rfl ?_;refine QO ?_;all_goals exact QL (1,dv) ⟨by dsimp only;omega,by simpa [inX,bK] using hr⟩ (by dsimp only;omega)
 have fK:=hz (0<1/\inX sent lo=true) lo;by_cases bK:sent<hi/\hi<=3652058;refine QO ?_;refine Z8 (Z4q rfl rfl (ZjB _ _)) rfl ?_;refine QO ?_;refine AP1 hi hr (by simp only [Xc];simp;split<;>simp<;>omega) λv1 v' w' bM _=>?_
 refine QO ?_;exact QL (2,v') ⟨by dsimp only;omega,by simpa [inX,bK] using bM⟩ (by dsimp only;omega)
 . refine QO ?_
   refine Z8 (Z4q rfl rfl (ZjB _ _)) rfl ?_;repeat'(first|refine W1 ?_|omega|refine VG ?_ ?_<;>intro hg|refine VC ?_ ?_<;>intro hc)
   all_goals exact QL (2,dv) ⟨by dsimp only;omega,by simpa [inX,bK] using hr⟩ (by dsimp only;omega)
 refine QO ?_;exact QL (k+1,dv) ⟨by dsimp only;omega,by rw [ay,qR,<- Xx];simpa using hr⟩ (by dsimp only;omega);obtain rfl:k=rets.length:=by omega
 rw [Xp] at hr;have cr:=Z8i rets sent;have oP:Z4A rets sent=Z3b (Z6p rets sent):=rfl;refine QO ?_;refine CM (ZN rfl) (ZbN w2 hr.1 (by omega)) ?_;rintro _ w3 ⟨rfl,dA,cD⟩;refine QO ?_;refine CM (ZN rfl) (Z6L w3 dA (by rw [Ybd];omega)) ?_;rintro dv4 w4 ⟨gq,fH,jt⟩;have iy:=λb hb=>hr.ob_le b hb;have aJ:Stp [] w w4:=(hr.2.own cD (λb hb=>.inr (iy b hb).1)).own fH (λb hb=>.inr (iy b hb).1);replace gq:Row [] w4 w.heap.size 3 dv4 (Z4A rets sent):=gq;have jI:(Z4A rets sent).length<=100:=by
  have h1:(Z4A rets sent).length<=(Z6p rets sent).length:=by
   rw [oP];unfold Z3b Lib.compact Lib.compactUpTo;rw [Xs];refine Xg (XW _ _) ?_;simp
  omega
 have yf:0<(Z4A rets sent).length:=by
  have:sent∈Z4A rets sent:=((Z30 _).2 sent).2 (by simp);exact List.length_pos_of_mem this
 have tu:∀ d∈Z4A rets sent,sent<=d/\d<=3652059:=λd hd=>by
  have:=((Z30 _).2 d).1 hd;simp only [Xh,Xb,Xj,or_false,YbB,YbF,decide_eq_true_eq] at this;rcases this with (rfl|rfl)|⟨r,hr,h1,h2⟩<;>omega
 have nB:Z8P rets sent=((Z4A rets sent).zip (Z4A rets sent).tail).map (λp=>(p.1,p.2 - 1)):=rfl;rw [nB] at hY ⊢;clear nB oP hr dA cD fH cr;generalize Z4A rets sent=D at *;have ei:SlV [] w4 dv4 D:=gq.slv (by simp);have yg:=ei.max;have tx:((D.zip D.tail).map (λp=>(p.1,p.2 - 1))).length=D.length - 1:=by simp
 have vJ:∀ b∈ob dv4,w.heap.size<=b:=λb hb=>(gq.ob_le b hb).1;refine QO ?_
 refine Zr (σ:=Nat×List Nat) (λq=>[(0,.func (.yield l) #[] #[]),(4,dv4),(46,.I ((D.length:Int) - 1)),(47,.I q.1)])
  (λq w'=>q.1<=D.length - 1/\J (((D.zip D.tail).map (λp=>(p.1,p.2 - 1))).take q.1) q.2 w'/\SlV q.2 w' dv4 D/\Stp F w w'/\∀ b∈q.2,b∈F\/w.heap.size<=b) (λq=>D.length - q.1) (0,F) ⟨rfl,rfl,rfl,rfl,trivial⟩
  ⟨by omega,by simpa using tt _ _ _ _ h0 aJ,Row.slv (Z1X (X':=F) gq) hF,aJ.mn,λb hb=>.inl hb⟩ ?_
 clear ei aJ;rintro ⟨k,G⟩ w5 ⟨hk,hJ,ax,hS,hG⟩;dsimp only at hk hJ ax hG ⊢;generalize hZ:(D.zip D.tail).map (λp=>(p.1,p.2 - 1))=Z at *;by_cases eF:k<D.length - 1;have tz:k<Z.length:=by omega
 have bG:k<D.length:=by omega
 have db:k+1<D.length:=by omega
 have tA:Z[k]=(D[k],D[k+1] - 1):=by subst hZ;simp
 obtain ⟨d1,d2⟩:=tu _ (Xd bG);obtain ⟨d3,d4⟩:=tu _ (Xd db);refine QO ?_;refine Zg0 5 14 (G) [(0,0),(1,0),(2,0),(3,0),(4,1),(5,0),(6,0),(7,0),(8,0),(9,1),(10,0),(11,0),(12,2),(13,0)] rfl mixed (by kernel_rfl) (by kernel_rfl) (by kernel_rfl) (λw1 ae=>?_);replace hJ:=tt _ _ _ _ hJ ae;replace ax:=ax.up ae;replace hS:=hS.trans ae.mn;refine Z0n rfl (λw'=>ZM rfl) rfl ?_;refine Z0n rfl (λw'=>ZM rfl) rfl ?_;refine Z0n rfl (λw'=>ZM rfl) rfl ?_;refine Z0n rfl (λw'=>Z2k (i:=k) rfl ax rfl rfl bG) rfl ?_;refine Zc5 rfl (λw' hS=>Z1J rfl rfl (ax.ext hS (λb hb=>hb) (λ_ h=>.inl h)) bG rfl rfl) rfl ?_;refine Z0n rfl (λw'=>ZM rfl) rfl ?_;refine Z0n rfl (λw'=>ZM rfl) rfl ?_;refine Z0n rfl (λw'=>ZcU rfl rfl (by unfold I64;omega)) rfl ?_;refine Z0n rfl (λw'=>Z2k (i:=k+1) rfl ax rfl (by omega) db) rfl ?_;refine Zc5 rfl (λw' hS=>Z1J rfl rfl (ax.ext hS (λb hb=>hb) (λ_ h=>.inl h)) db rfl rfl) rfl ?_;refine Z0n rfl (λw'=>Z5T rfl rfl (by unfold I64;omega)) rfl ?_;refine Z0n rfl (λw'=>Z0j (vs:=[(0,.I D[k]),(1,.I (D[k+1] - 1))]) rfl (ZjC _ _)) rfl ?_;have tB:=hY (Z.take k) Z[k] G w1 hJ (by rw [<- Xi tz];exact List.take_prefix _ _);rw [tA] at tB;refine Zg1 rfl rfl rfl tB (λW' h=>h.choose_spec.2.1) rfl ?_;rintro W' ⟨G',my,m0,je⟩;refine Z0n rfl (λw'=>Zh4 rfl) rfl ?_;refine ZmD ?_;refine QO ?_;refine QL (k+1,G') ⟨by dsimp only;omega,by rw [Xi tz,tA];exact my,?_,hS.own m0 hG,λb hb=>?_⟩ (by dsimp only;omega);exact ax.ext m0 (λb hb=>hb) je;rcases je b hb with h|h
 exact hG b h;exact .inr (by have:=hS.size;omega);refine QO ?_;refine WR ?_;have ej:k=Z.length:=by omega
 rw [ej,Xp] at hJ;exact .mk ⟨G,hJ,hS,hG⟩
end Go.Proofs.YtipfkbkkndacjaaGreatDoor
namespace Go.Eng
open Go Go.RowKit Go.Proofs
variable {P:Program} {n:Nat} {Q:Exit->Act->World->Prop} {e:Env} {w w0:World} {rest:List Oper} {ops:Array Oper} {ty ty':TypeId} {pos pos':String} {af af':Array Edge}
theorem Z9.slv1 {α:Type} [Z5 α] {X:List Nat} {T:Nat} {cs:List Value} {v:Value} {w':World} {y:α} (h:Z9 w T 1 cs v w') (hX:∀ b∈X,b<w.heap.size) (hr:Z5.rep X w y cs):SlV X w' v [y]:=by
 obtain ⟨b,rfl,hb,hk,hT⟩:=h;refine ⟨some ⟨b,0,none⟩,1,rfl,Xn _,by simp [maxLen],by simp,λi hi=>?_⟩;obtain rfl:i=0:=by simpa using hi
 refine ⟨b,0,cs,rfl,hk.lt,λdr=>by have:=hX b dr;omega,Z5.ext hr hT (by simp) (λc hc=>.inl hc),λj u hu=>?_⟩;simpa using hk.cell hu
theorem APG {α:Type} [Z5 α] {X:List Nat} {T t bytes d1 d2 base:Nat} {x y:Operand} {v z0 u:Value} {cs:List Value} {xs:List α} [ht:Und P t (.slice T)] [hk:Siz P T (Z5.k α)] [hb:Byt P T bytes] [hz:Zer P T z0] (z:α) (hr:Row X w base T v xs) (hX:∀ b∈X,b<w.heap.size) (dD:base<=w.heap.size)
 (fc:Z5.rep (ob v++X) w z cs) (hl:(xs.length+1) * bytes<=140737488355328) (bH:xs.length+1<=maxLen)
 (k:∀ v1 v' w',Row X w' base T v' (xs++[z])->Stp (ob v) w w'->(∀ b∈ob v',b∈ob v\/w.heap.size<=b)->WL P n ops Q rest ((d2,v') :: (d1,v1) :: e) w')
 (hx:ev e x=some v:=by exact rfl) (hy:Jt e [(0,y)]=some [(0,u)]:=by exact rfl) (bj:∀ w:World,(Instr.buildSlice t 1 #[(0,u)]).run P w=.ok (.slice (some ⟨w.heap.size,0,none⟩) 1 1) (w.alloc (.cells cs.toArray T)):=by intro w;kernel_rfl)
 (mc:∀ v1,ev ((d1,v1) :: e) x=some v:=by intro _;exact rfl) (ic:∀ v1,ev ((d1,v1) :: e) (.tmp d1)=some v1:=by intro _;exact rfl)
 (dQ:z0.cells.size=Z5.k α:=by exact rfl) (aW:0<Z5.k α:=by decide) (h1:Nat.blt d1 n=true:=by exact rfl) (h2:Nat.blt d2 n=true:=by exact rfl) :
 WL P n ops Q (⟨some d1,.buildSlice t 1 #[(0,y)],ty,pos,af,none⟩ :: ⟨some d2,.call { callee:=.builtin .append,args:=#[x,.tmp d1],argTypes:=#[t,t] },ty',pos',af',none⟩ :: rest) e w:=by
 refine Z0 (Z1 (l:=[(0,y)]) (vs:=[(0,u)]) hy bj) h1 ?_;intro v1 w1 hN;have hT:Stp [] w w1:=hN.choose_spec.2.2.2;have an:SlV (ob v++X) w1 v1 [z]:=hN.slv1 (λb hb=>by
  rcases Xh.1 hb with h|h
  exact (hr.ob_le b h).2;exact hX b h) fc
 refine Z0 (Zx (X:=X) (base:=base) dQ aW (mc v1) (ic v1) (hr.up hT) an (by simpa using hl) (by simpa using bH) (Xg dD hT.size)) h2 ?_;rintro v' w2 ⟨g1,g2,g3⟩;exact k v1 v' w2 g1 (hT.mn.trans g2) (λb hb=>(g3 b hb).imp id (Xg hT.size))
end Go.Eng
namespace Go.Proofs.YtipfkbkkndacjaaGreatDoor
open Go Go.Eng Go.RowKit
theorem ZaG {P:Program} {f:FuncId} {fn:Func} {c:Code} {args:Array Value} {w} {R:Ending->World->Prop} {n:Nat} (hf:P.funcs[f]?=some fn) (hb:fn.body=some c)
 (hn:fn.ntmps=n) (hs:Nat.ble args.size n=true) (h:WC P n c (bodyPostM Fence.wide 5 P fn R) (Z4M args.toList 0) w):Calls P f args w R:=by
 refine (callsIn_wide (n:=5)).1 (callsIn_of_wp_marks hf hb trivial ((wpIn_wide (n:=5)).2 (h.h _ ?_)));rw [hn];have cQ:args.size<=n:=XV hs;refine ⟨rfl,by simp;omega,λt v hv=>?_⟩;obtain ⟨_,h2⟩:=Z3j _ _ _ _ hv;simp only [Nat.sub_zero] at h2;have hlt:t<args.size:=by
  have:=(Xu.1 h2).1;simpa using this
 have:args[t]?=some v:=by simpa using h2
 have h3:(args++Array.replicate (n - args.size) undef)[t]?=some v:=by
  rw [XU hlt];exact this
 simp [Xz,h3]
theorem Zg5 {P:Program} {n:Nat} {fn:Func} {R:Ending->World->Prop} {e:Env} {w:World} {D t u:Nat} {v x:Value} (hr:fn.results=#[.tmp t,.tmp u]) (ht:Eng.look e t=some v) (hu:Eng.look e u=some x) (hd:w.heap[D]?=some (.deferred (some [])))
 (h:R (.returned (.tuple #[v,x])) (w.putObj D (.deferred none))):WQD [{ target:=.collected D,args:=#[] }] n (bodyPostM Fence.wide 5 P fn R) .ret e w:=by
 refine ⟨λa ha=>?_⟩;show LeavesInM Fence.wide 5 P fn (Z1m _ a).tmps R (Z1m _ a).defers .returning w;have tC:(Z1m [{ target:=.collected D,args:=#[] }] a).defers=[{ target:=.collected D,args:=#[] }]:=by unfold Z1m;rw [ha.defers];rfl
 rw [tC];refine ⟨by simp,.inl ⟨D,_,rfl,run_takeDeferred hd,?_⟩⟩;refine ⟨.tuple #[v,x],?_,h⟩;have h1:=ha.vals t v ht;have h2:=ha.vals u x hu;have h3:(Z1m [{ target:=.collected D,args:=#[] }] a).tmps=a.tmps:=rfl;rw [Xz] at h1 h2;rw [h3];simp [results,hr,h1,h2]
theorem ZaH (lv:Value) (l:List Rtn) (sent:Int) (w) (hl:SlV [] w lv l):CC 202 #[lv,.I sent] w λr w'=>∃ bL bS,r=.func (.func 258) #[] #[pQ bS,pQ bL]/\
 Blk w' bS 3 [.I sent]/\Blk w' bL 76 [lv]/\w.heap.size<=bL/\w.heap.size<=bS/\Stp [] w w':=by
 refine cW2 6 Tryz.func202 ?_;refine W ?_;refine Z0 (Z9Y rfl hl) rfl ?_;rintro _ w1 ⟨bL,rfl,hL,kL,hS⟩;have z1:=hS.size;refine BX hS λbS w2 ah kS hT hS=>?_;replace kS:Blk w2 bS 3 [.I sent]:=kS;replace kL:=kL.up hT;refine RT ?_;exact ⟨bL,bS,rfl,kS,kL,hL,by omega,hS⟩
theorem ZjE {l:List Rtn} {sent:Int} (h:l.length<=32):(Z4A l sent).length<=66:=by
 have oP:Z4A l sent=Z3b (Z6p l sent):=rfl;have h2:=Z8i l sent;have h1:(Z4A l sent).length<=(Z6p l sent).length:=by
  rw [oP];unfold Z3b Lib.compact Lib.compactUpTo;rw [Xs];refine Xg (XW _ _) ?_;simp
 omega
theorem ZjF {l:List Rtn} {sent:Int} (h:l.length<=32):(Z8P l sent).length<=66:=by
 have:=ZjE (sent:=sent) h;unfold Z8P;rw [Xs,List.length_zip];omega
theorem Zg6 (l:List Rtn) (crrs:List Crr) (s:AlS) (x:Spn):(Z0x l crrs s x).out.length<=s.out.length+1:=by
 unfold Z0x;dsimp only;split;omega;have ht:(if Z1u l crrs x.1<s.least then (⟨Z1u l crrs x.1,false,[]⟩:AlS) else s).out.length<=s.out.length:=by
  split<;>simp
 generalize (if Z1u l crrs x.1<s.least then (⟨Z1u l crrs x.1,false,[]⟩:AlS) else s)=t at *;split;split<;>simp<;>omega
 simp;omega
theorem Z9u (l:List Rtn) (crrs:List Crr):∀ (L:List Spn) (s:AlS),(L.foldl (Z0x l crrs) s).out.length<=s.out.length+L.length
 | [],s=>by simp
 | x :: L, s => by
   have h1:=Z9u l crrs L (Z0x l crrs s x);have h2:=Zg6 l crrs s x;rw [X5,Xe];omega
theorem ZjG (l:List Rtn) (crrs:List Crr) (s:AlS) (x:Spn) (h:¬ s.least<Z1u l crrs x.1) {t:AlS} (ht:t=if Z1u l crrs x.1<s.least then ⟨Z1u l crrs x.1,false,[]⟩ else s) :
 (t.out=[]->Z0x l crrs s x={ t with out:=[x] })/\(∀ M u,t.out=M++[u]->Z0x l crrs s x={ t with out:=if u.2=x.1 - 1 then M++[(u.1,x.2)] else M++[u]++[x] }):=by
 unfold Z0x;dsimp only;rw [if_neg h,<- ht];clear ht;constructor;intro h0;rw [h0];rfl;intro M u h0;rw [h0];simp only [List.getLast?_append,List.getLast?_singleton,Option.some_or];split<;>simp
structure AlJ (w0:World) (l:List Rtn) (crrs:List Crr) (b8 b9 b10:Nat) (pre:List Spn) (F:List Nat) (W:World):Prop where
 ex:∃ ov,F=b8 :: b9 :: b10 :: ob ov/\Blk W b10 27 [ov]/\Row [] W w0.heap.size 75 ov (pre.foldl (Z0x l crrs) ⟨Z1u l crrs (-1),true,[]⟩).out
 k8:Blk W b8 3 [.I (pre.foldl (Z0x l crrs) ⟨Z1u l crrs (-1),true,[]⟩).least]
 k9:Blk W b9 4 [.B (pre.foldl (Z0x l crrs) ⟨Z1u l crrs (-1),true,[]⟩).never]
 stp:Stp [b8,b9,b10] w0 W
theorem ZaI {β:Type} [Z3 β] {X S:List Nat} {w w':World} {base T:Nat} {v:Value} {xs:List β} (h:Row X w base T v xs) (hS:Stp S w w') (hn:∀ b∈S,b∉ob v):Row X w' base T v xs:=
 Z1X (Row.ext (Z1X (X':=S) h) hS (λb hb=>⟨hb,hn b hb⟩) (λb hb=>.inl hb))
theorem AlJ.stay {w0 W W':World} {l:List Rtn} {crrs:List Crr} {b8 b9 b10:Nat} {pre:List Spn} {F S:List Nat} (h:AlJ w0 l crrs b8 b9 b10 pre F W) (hS:Stp S W W') (hd:∀ b∈S,w0.heap.size<=b/\b∉F):AlJ w0 l crrs b8 b9 b10 pre F W':=by
 obtain ⟨⟨ov,rfl,k10,hr⟩,k8,k9,ay⟩:=h;exact ⟨⟨ov,rfl,k10.ext hS (λh=>(hd _ h).2 (by simp)),ZaI hr hS (λb hb h=>(hd b hb).2 (by simp [h]))⟩,k8.ext hS (λh=>(hd _ h).2 (by simp)),k9.ext hS (λh=>(hd _ h).2 (by simp)),ay.own hS (λb hb=>.inr (hd b hb).1)⟩
theorem Zcb (lv cv:Value) (l:List Rtn) (crrs:List Crr) (sent:Int) (w) (hl:SlV [] w lv l) (hc:SlV [] w cv crrs) (ho:ZmF l crrs) (eT:0<=sent/\sent<=3652058) :
 CC 127 #[lv,cv,.I sent] w λv w'=>∃ ov,v=.tuple #[ov,.B (Zg3 l crrs sent).never]/\SlV [] w' ov (Zg3 l crrs sent).out/\Stp [] w w':=by
 refine ZaG (n:=62) Tryz.func127 rfl rfl rfl ?_;refine W ?_;refine Z0 (Z9Y rfl hl) rfl ?_;rintro _ w1 ⟨b3,rfl,h3,e3,hS⟩;refine Z0 (Z9Y rfl hc) rfl ?_;rintro _ w2 ⟨b4,rfl,h4,e4,hT⟩;replace e3:=e3.up hT;replace hS:=hS.trans hT;clear hT;refine W ?_;refine CP hS (Z8g lv cv l crrs (-1) _ (hl.up hS) (hc.up hS) ho.len ho.crr ho.tol) λw3 hT hS=>?_;replace e3:=e3.up hT;replace e4:=e4.up hT;clear hT;refine Z0 Z2 rfl ?_;rintro _ w4 ⟨b8,rfl,fk,e8,hT⟩;replace e8:Blk w4 b8 3 [.I 0]:=e8;refine S1 e8 ?_;rintro _ w5 ⟨aq,e8⟩;replace hT:=hT.ow aq;have l3:=e3.lt;have l4:=e4.lt;replace e3:=e3.up hT;replace e4:=e4.up hT;have g8:w.heap.size<=b8:=Xg hS.size fk;replace hS:=hS.trans hT;clear hT aq;refine W ?_;refine Z0 Z2 rfl ?_;rintro _ w6 ⟨b9,rfl,iS,e9,hT⟩;replace e9:Blk w6 b9 4 [.B false]:=e9;refine S1 e9 ?_;rintro _ w7 ⟨aq,e9⟩;replace hT:=hT.ow aq;have l8:=e8.lt;replace e3:=e3.up hT;replace e4:=e4.up hT;replace e8:=e8.up hT;replace hS:=hS.trans hT;clear hT aq;refine W ?_;refine Z0 Z2 rfl ?_;rintro _ w8 ⟨b10,rfl,eh,e10,hT⟩;have l9:=e9.lt;replace e3:=e3.up hT;replace e4:=e4.up hT;replace e8:=e8.up hT;replace e9:=e9.up hT;replace hS:=hS.trans hT;clear hT;refine W ?_;refine CG (ZaH lv l sent _ (hl.up hS)) ?_;rintro _ w9 ⟨bL,bS,rfl,kS,kL,gL,gS,hT⟩;have l10:=e10.lt;have z8:=hS.size;replace e3:=e3.up hT;replace e4:=e4.up hT;replace e8:=e8.up hT;replace e9:=e9.up hT;replace e10:=e10.up hT;replace hS:=hS.trans hT;clear hT;refine W ?_;replace e10:Blk w9 b10 27 [.N]:=e10;have q8:=e8.lt;have q9:=e9.lt;have q10:=e10.lt;refine ZkE [(3,pQ b3),(4,pQ b4),(8,pQ b8),(9,pQ b9),(10,pQ b10),(19,.func (.func 258) #[] #[pQ bS,pQ bL])] ⟨rfl,rfl,rfl,rfl,rfl,rfl,trivial⟩ ?_;refine Zjx (α:=Spn) (E:=λx b=>[(3,pQ b3),(4,pQ b4),(8,pQ b8),(9,pQ b9),(10,pQ b10),(11,pQ b)]) (T:=75) (cs:=Z3.enc) (λx=>aG x) rfl rfl (Z8P l sent) (AlJ w9 l crrs b8 b9 b10) [b8,b9,b10] ?_ ?_ ?_ ?_ ?_ ?_ ?_;rintro pre F W ⟨⟨ov,rfl,k10,hr⟩,k8,k9,ay⟩ b hb;simp only [Xb] at hb;rcases hb with rfl|rfl|rfl|hb
 exact k8.lt;exact k9.lt;exact k10.lt;exact (hr.ob_le b hb).2;exact λpre F W W' S h hS hd=>h.stay hS hd;exact ⟨⟨.N,rfl,e10,Row.nil⟩,e8,e9,Stp.refl _ _⟩;intro l' Y kZ dT yh;have zY:=kZ.size;have zw:=hS.size;have kSl:=kS.lt;have kLl:=kL.lt;refine ZaF l' _ Y bS bL lv l sent crrs ho eT (kS.up kZ) (kL.up kZ) (hl.ext (hS.trans kZ) (by simp) (λb hb=>.inr (by
  simp only [Xb,Xj,or_false] at hb;omega))) (λb hb=>by
  simp only [Xb,Xj,or_false] at hb;omega) (by simp only [Xb,Xj,or_false];omega) (by simp only [Xb,Xj,or_false];omega)
 intro l' x Y Z eI hk;refine ZQ rfl (λa w h=>eI a w h) ?_;refine Z0 Z2 rfl ?_;rintro _ Ya ⟨b,rfl,hb,kb,hT⟩;refine SA (us:=Z3.enc x) kb ?_;rintro _ Yb ⟨aq,kb⟩;refine W ?_;exact ZkF [(3,pQ b3),(4,pQ b4),(8,pQ b8),(9,pQ b9),(10,pQ b10),(11,pQ b)] ⟨rfl,rfl,rfl,rfl,rfl,rfl,trivial⟩ (hk b Yb hb kb (hT.ow aq));intro l' pre x b11 F Y Z hJ cw k11 oQ dY eI hZ;obtain ⟨⟨ov,rfl,k10,hr⟩,k8,k9,ay⟩:=hJ;have vK:x∈Z8P l sent:=cw.subset (by simp);have yi:=Z8h eT vK;have cr:pre.length<=66:=by
  have h1:=cw.length_le;have h2:=ZjF (sent:=sent) ho.len;rw [Xc] at h1;omega
 have lR:=Z9u l crrs pre ⟨Z1u l crrs (-1),true,[]⟩;have fS:(pre++[x]).foldl (Z0x l crrs) ⟨Z1u l crrs (-1),true,[]⟩=Z0x l crrs (pre.foldl (Z0x l crrs) ⟨Z1u l crrs (-1),true,[]⟩) x:=by simp
 have kZ:Stp [] w Y:=hS.own ay (λb hb=>by simp at hb;rcases hb with rfl|rfl|rfl<;>exact .inr (by omega));have f3:=e3.ext ay (by simp;omega);have f4:=e4.ext ay (by simp;omega);have eC:=λb hb=>hr.ob_le b hb;have zst:=ay.size;simp only [Xf] at lR;generalize pre.foldl (Z0x l crrs) ⟨Z1u l crrs (-1),true,[]⟩=s at *;obtain ⟨least,never,out⟩:=s;dsimp only at k8 k9 hr lR;have l8y:=k8.lt;have l9y:=k9.lt;have l10y:=k10.lt;focus repeat'(first|refine W1 ?_|refine Jp ?_|refine JL ?_|refine J6 ?_|refine ZQ rfl (λa w h=>eI a w h) ?_|refine Jq ?_|refine Jr ?_|refine Jh rfl ?_|refine J2 rfl ?_|refine Zv ?_|refine Zt ?_|refine ZF rfl ?_|refine Jg ?_)
 refine CP (Stp.refl [] Y) (Z8g lv cv l crrs x.1 _ (hl.up kZ) (hc.up kZ) ho.len ho.crr ho.tol) λY1 hT _=>?_;replace k8:=k8.up hT;replace k9:=k9.up hT;replace k10:=k10.up hT;replace k11:=k11.up hT;replace f3:=f3.up hT;replace f4:=f4.up hT;replace hr:=hr.up hT;have la:=ay.trans hT.mn;have hstep:=λh=>@ZjG l crrs ⟨least,never,out⟩ x h _ rfl;have iz:least<Z1u l crrs x.1->Z0x l crrs ⟨least,never,out⟩ x=⟨least,never,out⟩:=λh=>by unfold Z0x;dsimp only;rw [if_pos h]
 dsimp only at hstep iz;generalize Z1u l crrs x.1=E at *;by_cases h1:least<E;rw [iz h1] at fS;focus repeat'(first|refine W1 ?_|refine Jp ?_|refine JL ?_|refine J6 ?_|refine ZQ rfl (λa w h=>eI a w h) ?_|refine Jq ?_|refine Jr ?_|refine Jh rfl ?_|refine J2 rfl ?_|refine Zv ?_|refine Zt ?_|refine ZF rfl ?_|refine Jg ?_|omega|(refine Z3T rfl ?_ ?_<;>intro hc))
 exact ⟨λa ha=>hZ a _ Y1 ⟨⟨ov,rfl,k10,by rw [fS];exact hr⟩,by rw [fS];exact k8,by rw [fS];exact k9,la⟩ hT.mn (λb hb=>.inl hb)⟩;have hstep:=hstep h1;clear iz f3 f4;generalize cI:Z0x l crrs ⟨least,never,out⟩ x=s' at *;generalize ht:(if E<least then (⟨E,false,[]⟩:AlS) else ⟨least,never,out⟩)=t at *;have oK:t.out.length<=66:=by rw [<- ht];split<;>simp<;>omega
 focus repeat'(first|refine W1 ?_|refine Jp ?_|refine JL ?_|refine J6 ?_|refine ZQ rfl (λa w h=>eI a w h) ?_|refine Jq ?_|refine Jr ?_|refine Jh rfl ?_|refine J2 rfl ?_|refine Zv ?_|refine Zt ?_|refine ZF rfl ?_|refine Jg ?_)
 refine Z3T rfl (λhc=>absurd hc h1) (λhc=>?_);focus repeat'(first|refine W1 ?_|refine Jp ?_|refine JL ?_|refine J6 ?_|refine ZQ rfl (λa w h=>eI a w h) ?_|refine Jq ?_|refine Jr ?_|refine Jh rfl ?_|refine J2 rfl ?_|refine Zv ?_|refine Zt ?_|refine ZF rfl ?_|refine Jg ?_)
 refine Zjw (σ:=Value) (λ_=>[(10,pQ b10),(11,pQ b11)]) (λov' W'=>Blk W' b8 3 [.I t.least]/\Blk W' b9 4 [.B t.never]/\Blk W' b10 27 [ov']/\Row [] W' w9.heap.size 75 ov' t.out/\Blk W' b11 75 (Z3.enc x)/\Stp [b8,b9,b10] Y1 W'/\∀ b∈ob ov',b∈ob ov) ?_ ?_;by_cases h2:E<least;rw [if_pos h2] at ht;subst ht;focus repeat'(first|refine W1 ?_|refine Jp ?_|refine JL ?_|refine J6 ?_|refine ZQ rfl (λa w h=>eI a w h) ?_|refine Jq ?_|refine Jr ?_|refine Jh rfl ?_|refine J2 rfl ?_|refine Zv ?_|refine Zt ?_|refine ZF rfl ?_|refine Jg ?_|omega|(refine Z3T rfl ?_ ?_<;>intro hc))
 refine S1 (u:=.I E) k8 ?_;rintro _ Y2 ⟨hA,k8⟩;replace k9:=k9.ext hA (by simp;omega);replace k10:=k10.ext hA (by simp;omega);replace k11:=k11.ext hA (λh=>oQ (by simp at h;subst h;simp));refine S1 (u:=.B false) k9 ?_;rintro _ Y3 ⟨hB,k9⟩;replace k8:=k8.ext hB (by simp;omega);replace k10:=k10.ext hB (by simp;omega);replace k11:=k11.ext hB (λh=>oQ (by simp at h;subst h;simp));refine S1 (u:=.N) k10 ?_;rintro _ Y4 ⟨hC,k10⟩;replace k8:=k8.ext hC (by simp;omega);replace k9:=k9.ext hC (by simp;omega);replace k11:=k11.ext hC (λh=>oQ (by simp at h;subst h;simp));focus repeat'(first|refine W1 ?_|refine Jp ?_|refine JL ?_|refine J6 ?_|refine ZQ rfl (λa w h=>eI a w h) ?_|refine Jq ?_|refine Jr ?_|refine Jh rfl ?_|refine J2 rfl ?_|refine Zv ?_|refine Zt ?_|refine ZF rfl ?_|refine Jg ?_)
 exact QT (.N) ⟨k8,k9,k10,Row.nil,k11,(hA.mn.trans hB.mn).trans hC.mn,by simp [ob]⟩;rw [if_neg h2] at ht;subst ht;focus repeat'(first|refine W1 ?_|refine Jp ?_|refine JL ?_|refine J6 ?_|refine ZQ rfl (λa w h=>eI a w h) ?_|refine Jq ?_|refine Jr ?_|refine Jh rfl ?_|refine J2 rfl ?_|refine Zv ?_|refine Zt ?_|refine ZF rfl ?_|refine Jg ?_|omega|(refine Z3T rfl ?_ ?_<;>intro hc))
 exact QT ov ⟨k8,k9,k10,hr,k11,Stp.refl _ _,λb hb=>hb⟩;clear k8 k9 k10 k11 hr ht;rintro ov' Y2 ⟨k8,k9,k10,hr,k11,hA,oR⟩;have zA:=hA.size;have zT:=hT.size;have iA:=λb hb=>hr.ob_le b hb;have eU:SlV [] Y2 ov' t.out:=hr.slv (by simp);obtain ⟨hq1,hq2⟩:=hstep;obtain ⟨tl,tn,oo⟩:=t;dsimp only at k8 k9 hr eU iA hq1 hq2 oK;have nC:b8∉ob ov':=λh=>by have:=iA _ h;omega
 have nD:b9∉ob ov':=λh=>by have:=iA _ h;omega
 have gt:b10∉ob ov':=λh=>by have:=iA _ h;omega
 have tD:b11∉ob ov':=λh=>oQ (by have:=oR _ h;simp [this])
 have fin:∀ (nv:Value) (W':World),Blk W' b8 3 [.I s'.least]->Blk W' b9 4 [.B s'.never]->Blk W' b10 27 [nv]->Row [] W' w9.heap.size 75 nv s'.out->Stp (b10 :: ob ov') Y2 W'->(∀ b∈ob nv,b∈ob ov'\/Y2.heap.size<=b)->∀ a,Z .normal a W':=λnv W' g8 g9 g10 gr gs gn a=>
  hZ a (b8 :: b9 :: b10 :: ob nv) W' ⟨⟨nv,rfl,g10,by rw [fS];exact gr⟩,by rw [fS];exact g8,by rw [fS];exact g9,(la.trans hA).own gs (λb hb=>by
   rcases Xb.1 hb with rfl|hb
   exact .inl (by simp);exact .inr (iA b hb).1)⟩ ((((hT.mono (S':=b8 :: b9 :: b10 :: ob ov) (by simp)).trans hA.mn).trans (gs.mono (λb hb=>by
   rcases Xb.1 hb with rfl|hb
   simp;simp [oR b hb])))) (λb hb=>by
   simp only [Xb] at hb ⊢;rcases hb with rfl|rfl|rfl|hb
   exact .inl (.inl rfl);exact .inl (.inr (.inl rfl));exact .inl (.inr (.inr (.inl rfl)));rcases gn b hb with h|h
   exact .inl (.inr (.inr (.inr (oR b h))));exact .inr (by omega))
 clear hA oR eC la;have app:∀ (Y3:World),Stp [] Y2 Y3->s'=⟨tl,tn,oo++[x]⟩->∀ (nv:Value) (Y4 Y5:World),Row [] Y4 w9.heap.size 75 nv (oo++[x])->Stp (ob ov') Y3 Y4->(∀ b∈ob nv,b∈ob ov'\/Y3.heap.size<=b)->Stp [b10] Y4 Y5->Blk Y5 b10 27 [nv]->∀ a,Z .normal a Y5:=λY3 g1 gs nv Y4 Y5 g2 g3 g4 g5 g6 a=>by
  subst gs;have q8:=(((k8.up g1).ext g3 nC).ext g5 (by simp;omega))
  have q9:=(((k9.up g1).ext g3 nD).ext g5 (by simp;omega))
  have eJ:b10∉ob nv:=λh=>by
   rcases g4 _ h with h|h
   exact gt h;have:=g1.size;omega
  exact fin nv Y5 q8 q9 g6 (ZaI g2 g5 (λb hb h=>eJ (by simp at hb;subst hb;exact h))) ((g1.mn.trans (g3.mono (λb hb=>by simp [hb]))).trans g5.mn) (λb hb=>(g4 b hb).imp id (λh=>by have:=g1.size;omega)) a
 focus repeat'(first|refine W1 ?_|refine Jp ?_|refine JL ?_|refine J6 ?_|refine ZQ rfl (λa w h=>eI a w h) ?_|refine Jq ?_|refine Jr ?_|refine Jh rfl ?_|refine J2 rfl ?_|refine Zv ?_|refine Zt ?_|refine ZF rfl ?_|refine Jg ?_)
 rcases Yal oo with rfl|⟨M,u,rfl⟩
 have br:=hq1 rfl;refine Z9t 14 [] [] [(0,0),(1,0),(2,0),(3,1),(4,0),(5,0),(6,0),(7,0),(8,1),(9,0),(10,1),(11,0),(12,0),(13,0)] rfl mixed (by kernel_rfl) (by kernel_rfl) (by kernel_rfl) rfl (λw1 ae=>?_);replace k10:=k10.up ae;replace k11:=k11.up ae;replace hr:=hr.up ae;refine D ?_;focus repeat'(first|refine W1 ?_|refine Jp ?_|refine JL ?_|refine J6 ?_|refine ZQ rfl (λa w h=>eI a w h) ?_|refine Jq ?_|refine Jr ?_|refine Jh rfl ?_|refine J2 rfl ?_|refine Zv ?_|refine Zt ?_|refine ZF rfl ?_|refine Jg ?_)
 refine APG (X:=[]) (base:=w9.heap.size) x hr (by simp) (by have:=ae.size;omega) rfl (by simp) (by simp [maxLen]) λv1 nv Y4 gq fH jt=>?_
 replace k10:=k10.ext fH gt;focus repeat'(first|refine W1 ?_|refine Jp ?_|refine JL ?_|refine J6 ?_|refine ZQ rfl (λa w h=>eI a w h) ?_|refine Jq ?_|refine Jr ?_|refine Jh rfl ?_|refine J2 rfl ?_|refine Zv ?_|refine Zt ?_|refine ZF rfl ?_|refine Jg ?_)
 have ei:SlV [] Y4 nv ([]++[x]):=gq.slv (by simp);refine Z6 (Zb (u:=nv) rfl rfl ei.cells ei.one k10 (by simp)) ?_;rintro _ Y5 ⟨dV,k10⟩;focus repeat'(first|refine W1 ?_|refine Jp ?_|refine JL ?_|refine J6 ?_|refine ZQ rfl (λa w h=>eI a w h) ?_|refine Jq ?_|refine Jr ?_|refine Jh rfl ?_|refine J2 rfl ?_|refine Zv ?_|refine Zt ?_|refine ZF rfl ?_|refine Jg ?_)
 exact ⟨λa ha=>app w1 ae br nv Y4 Y5 gq fH jt dV k10 a⟩;rw [Yam] at *;have br:=hq2 M u rfl;have kI:((M++[u]).length:Int) - 1=(M.length:Nat):=by simp
 have me:M.length<(M++[u]).length:=by simp
 have dw:(M++[u])[M.length]=u:=by simp
 have ge:0<((M++[u]).length:Int):=by simp
 refine Z9t 14 [] [] [(0,0),(1,0),(2,0),(3,1),(4,0),(5,0),(6,0),(7,0),(8,1),(9,0),(10,1),(11,0),(12,0),(13,0)] rfl mixed (by kernel_rfl) (by kernel_rfl) (by kernel_rfl) rfl (λw1 ae=>?_);replace k10:=k10.up ae;replace k11:=k11.up ae;replace hr:=hr.up ae;replace eU:=eU.up ae;refine QD ?_;rw [dw];focus repeat'(first|refine W1 ?_|refine Jp ?_|refine JL ?_|refine J6 ?_|refine ZQ rfl (λa w h=>eI a w h) ?_|refine Jq ?_|refine Jr ?_|refine Jh rfl ?_|refine J2 rfl ?_|refine Zv ?_|refine Zt ?_|refine ZF rfl ?_|refine Jg ?_)
 refine Z3T rfl (λhc=>?_) (λhc=>?_);rw [if_pos hc] at br;focus repeat'(first|refine W1 ?_|refine Jp ?_|refine JL ?_|refine J6 ?_|refine ZQ rfl (λa w h=>eI a w h) ?_|refine Jq ?_|refine Jr ?_|refine Jh rfl ?_|refine J2 rfl ?_|refine Zv ?_|refine Zt ?_|refine ZF rfl ?_|refine Jg ?_)
 refine Z6 (Z46 (i:=M.length) (y':=(u.1,x.2)) (u:=.I x.2) rfl rfl rfl rfl rfl hr me (by decide) (by rw [dw];rfl)) ?_;rintro _ Y5 ⟨tE,dV⟩;focus repeat'(first|refine W1 ?_|refine Jp ?_|refine JL ?_|refine J6 ?_|refine ZQ rfl (λa w h=>eI a w h) ?_|refine Jq ?_|refine Jr ?_|refine Jh rfl ?_|refine J2 rfl ?_|refine Zv ?_|refine Zt ?_|refine ZF rfl ?_|refine Jg ?_)
 rw [show (M++[u]).set M.length (u.1,x.2)=M++[(u.1,x.2)] by simp] at tE;have vL:=(k8.up ae).ext dV nC;have vM:=(k9.up ae).ext dV nD;have qS:=k10.ext dV gt;refine ⟨λa ha=>fin ov' Y5 (by rw [br];exact vL) (by rw [br];exact vM) qS (by rw [br];exact tE) (ae.mn.trans (dV.mono (λb hb=>by simp [hb]))) (λb hb=>.inl hb) a⟩;rw [if_neg hc] at br;focus repeat'(first|refine W1 ?_|refine Jp ?_|refine JL ?_|refine J6 ?_|refine ZQ rfl (λa w h=>eI a w h) ?_|refine Jq ?_|refine Jr ?_|refine Jh rfl ?_|refine J2 rfl ?_|refine Zv ?_|refine Zt ?_|refine ZF rfl ?_|refine Jg ?_)
 refine APG (X:=[]) (base:=w9.heap.size) x hr (by simp) (by have:=ae.size;omega) rfl (Xg (Xo _ (show (M++[u]).length+1<=1000 by omega)) (by decide)) (by simp only [maxLen];omega) λv1 nv Y4 gq fH jt=>?_
 replace k10:=k10.ext fH gt;focus repeat'(first|refine W1 ?_|refine Jp ?_|refine JL ?_|refine J6 ?_|refine ZQ rfl (λa w h=>eI a w h) ?_|refine Jq ?_|refine Jr ?_|refine Jh rfl ?_|refine J2 rfl ?_|refine Zv ?_|refine Zt ?_|refine ZF rfl ?_|refine Jg ?_)
 have ei:SlV [] Y4 nv (M++[u]++[x]):=gq.slv (by simp);refine Z6 (Zb (u:=nv) rfl rfl ei.cells ei.one k10 (by simp)) ?_;rintro _ Y5 ⟨dV,k10⟩;focus repeat'(first|refine W1 ?_|refine Jp ?_|refine JL ?_|refine J6 ?_|refine ZQ rfl (λa w h=>eI a w h) ?_|refine Jq ?_|refine Jr ?_|refine Jh rfl ?_|refine J2 rfl ?_|refine Zv ?_|refine Zt ?_|refine ZF rfl ?_|refine Jg ?_)
 exact ⟨λa ha=>app w1 ae br nv Y4 Y5 gq fH jt dV k10 a⟩;rintro D F Y ⟨⟨ov,rfl,k10,hr⟩,k8,k9,ay⟩ hD vN fT hF -;have vO:=hS.own ay (λb hb=>by simp at hb;rcases hb with rfl|rfl|rfl<;>exact .inr (by omega));have iK:(Z8P l sent).foldl (Z0x l crrs) ⟨Z1u l crrs (-1),true,[]⟩=Zg3 l crrs sent:=rfl;rw [iK] at hr k9;refine ⟨λa ha=>(Z1Z (ds:=[{ target:=.collected D,args:=#[] }]) (Z4p ?_)).h a ha⟩;refine Z9s 4 [] [] [(0,1),(1,1),(2,0),(3,0)] rfl mixed (by kernel_rfl) (by kernel_rfl) (by kernel_rfl) (λw1 ae=>?_);replace k10:=k10.up ae;replace k9:=k9.up ae;replace hr:=hr.up ae;refine QD ?_;refine Z6m (Z1Z (ZeC ?_));have nE:=(ae.block D (Xk.1 fT).1 (by simp)).trans fT;refine Zg5 (D:=D) rfl rfl rfl nE (.mk ⟨ov,rfl,?_,?_⟩);exact (Row.slv (X:=[]) (ZaI hr (Z20 w1 D (.deferred none)) (λb hb h=>vN (by simp at hb;subst hb;simp [h]))) (by simp));exact ((vO.trans ae)).own (Z20 w1 D (.deferred none)) (λb hb=>.inr (by simp at hb;subst hb;have:=hS.size;omega))
theorem ZdG (lv cv:Value) (l:List Rtn) (crrs:List Crr) (sent:Int) (w) (hl:SlV [] w lv l) (hc:SlV [] w cv crrs) (ho:ZmF l crrs) (hs:0<=sent/\sent<=3652058) :
 CC 77 #[lv,cv,.I sent] w λv w'=>v=.tuple #[.I (ZaE l crrs sent).1,.B (ZaE l crrs sent).2]/\Stp [] w w':=by
 unfold ZaE;refine cW3 30 Tryz.func77 ?_;refine W ?_;refine CG (Zcb lv cv l crrs sent w hl hc ho hs) ?_;rintro _ w1 ⟨ov,rfl,ax,hS⟩;generalize Zg3 l crrs sent=s at *;obtain ⟨least,never,out⟩:=s;dsimp only at ax ⊢;have aT:=ax.max;cases never with
 | true=>
   refine RT ?_;exact ⟨rfl,hS⟩
 | false=>
   rcases Yal out with rfl|⟨M,u,rfl⟩
   refine RT ?_;exact ⟨rfl,hS⟩;rw [Yam] at *;have kI:((M++[u]).length:Int) - 1=(M.length:Nat):=by simp
   have me:M.length<(M++[u]).length:=by simp
   have dw:(M++[u])[M.length]=u:=by simp
   have ge:0<((M++[u]).length:Int):=by simp
   have vP:(M++[u]).getLast?=some u:=by simp
   rw [vP];refine QO ?_;rw [dw];refine RU ?_;exact ⟨rfl,hS⟩
theorem ZmH (a b:Svc) (w):CC 79 #[aG a,aG b] w λr w'=>r=.I (cmI a.day b.day)/\Stp [] w w':=by
 refine cW2 10 Tryz.func79 ?_;refine W ?_;refine BX (Stp.refl [] w) λb2 w1 h2 e2 _ hS=>?_;replace e2:Blk w1 b2 115 (Z3.enc a):=e2;refine BX hS λb3 w2 h3 e3 hT hS=>?_;replace e2:=e2.up hT;replace e3:Blk w2 b3 115 (Z3.enc b):=e3;refine W ?_;refine CP hS (Z4n _ _ _) λw3 _ hS=>?_;refine RT ?_;exact ⟨rfl,hS⟩
def Z2d (l:List Svc):Nat->Svc
 | 0=>l.getD 0 ⟨0,0,0⟩
 | k+1=>if (l.getD (k+1) ⟨0,0,0⟩).day<(Z2d l k).day then l.getD (k+1) ⟨0,0,0⟩ else Z2d l k
def Z4I (l:List Svc):Svc×Bool:=if l=[] then (⟨0,0,0⟩,false) else (Z2d l (l.length - 1),true)
theorem ZjH (v:Value) (l:List Svc) (w) (hs:SlV [] w v l):CC 78 #[v,.func (.func 79) #[] #[]] w λr w'=>r=.tuple #[.agg (Z3.enc (Z4I l).1).toArray,.B (Z4I l).2]/\Stp [] w w':=by
 have aT:=hs.max;unfold Z4I;refine cW2 31 Tryz.func78 ?_;refine W ?_;refine Z0 Z2 rfl ?_;rintro _ w1 ⟨b4,rfl,bD,e4,hS⟩;refine W ?_;refine Z0 Z2 rfl ?_;rintro _ w2 ⟨b6,rfl,eB,e6,hT⟩;have l4:=e4.lt;replace e4:=e4.up hT;have g6:w.heap.size<=b6:=Xg hS.size eB;replace hS:=hS.trans hT;clear hT;have n46:b4≠b6:=by omega
 replace e4:Blk w2 b4 115 (Z3.enc (⟨0,0,0⟩:Svc)):=e4;replace e6:Blk w2 b6 115 (Z3.enc (⟨0,0,0⟩:Svc)):=e6;have br:=hs.up hS;have hz:((l.length:Int)=0)↔l=[]:=by simp
 (refine QP ?_ ?_<;>intro hc)
 obtain rfl:l=[]:=hz.1 (by assumption);refine SA (us:=Z3.enc (⟨0,0,0⟩:Svc)) e4 ?_;rintro _ w3 ⟨hT,e4⟩;refine W ?_;refine Zj rfl rfl rfl e4 rfl rfl ?_;exact .mk ⟨rfl,hS.ow hT⟩;have hn:l≠[]:=λh=>absurd (hz.2 h) (by assumption)
 have aW:0<l.length:=X8.2 hn;rw [if_neg hn];refine QO ?_;refine SA (us:=Z3.enc l[0]) e6 ?_;rintro _ w3 ⟨hT,e6⟩;replace e4:=e4.ext hT (by simpa using n46);replace hS:=hS.ow hT;clear hT br;have ey:=hs.up hS;refine QO ?_;have fU:=ey.slc (l:=1) (r:=l.length) aW (Xn _);rw [Xp] at fU;refine Z8 (Z4O (l:=1) rfl ey rfl rfl aW) rfl ?_;clear ey;obtain ⟨dv,qT⟩:∃ dv,dv=Eng.slc v 1 l.length 3:=⟨_,rfl⟩
 rw [<- qT];have vQ:SlV [] w3 dv (l.drop 1):=qT ▸ fU;clear fU;have jI:(l.drop 1).length=l.length - 1:=by simp
 refine W ?_;have bt:=hS;refine LP (σ:=Nat) (λk=>[(1,.func (.func 79) #[] #[]),(4,pQ b4),(6,pQ b6),(17,dv),(18,.I (l.drop 1).length),(19,.I k)]) (λk w'=>k<=l.length - 1/\Stp [b6] w3 w'/\Stp [] w w'/\Blk w' b6 115 (Z3.enc (Z2d l k))/\Blk w' b4 115 (Z3.enc (⟨0,0,0⟩:Svc))) (λk=>l.length - 1 - k) 0 ⟨by omega,Stp.refl _ _,hS,by rw [Z2d,show l.getD 0 ⟨0,0,0⟩=l[0] by simp [aW]];exact e6,e4⟩ ?_;clear e4 e6 hS;rintro k w4 ⟨hk,hT,hS,e6,e4⟩;by_cases hlt:k<(l.drop 1).length;have dz:SlV [] w4 dv (l.drop 1):=by
  have h:=(hs.up hS).slc (l:=1) (r:=l.length) aW (Xn _);rw [Xp] at h;rw [qT];exact h
 have bG:k+1<l.length:=by omega
 have dw:(l.drop 1)[k]=l[k+1]:=by simp
 have hstep:Z2d l (k+1)=if l[k+1].day<(Z2d l k).day then l[k+1] else Z2d l k:=by rw [Z2d,show l.getD (k+1) ⟨0,0,0⟩=l[k+1] by simp [bG]]
 generalize Z2d l k=m at *;refine QO ?_;rw [dw];refine Z0 Z2 rfl ?_;rintro _ w5 ⟨b8,rfl,fk,e8,hA⟩;refine SA (us:=Z3.enc l[k+1]) e8 ?_;rintro _ w6 ⟨dl,e8⟩;replace hA:=hA.ow dl;replace e4:=e4.up hA;replace e6:=e6.up hA;replace hS:=hS.trans hA;replace hT:=hT.trans hA.mn;clear hA dl dz;refine W ?_;refine CP hS (ZmH l[k+1] m _) λw7 hA hS=>?_;replace e4:=e4.up hA;replace e6:=e6.up hA;replace e8:=e8.up hA;replace hT:=hT.trans hA.mn;clear hA;have bU:cmI l[k+1].day m.day<0↔l[k+1].day<m.day:=by unfold cmI;split<;>(try split)<;>omega
 by_cases hc:l[k+1].day<m.day;rw [if_pos hc] at hstep;have hc':=bU.2 hc;refine QO ?_;refine SA (us:=Z3.enc l[k+1]) e6 ?_;rintro _ w8 ⟨hA,e6⟩;replace e4:=e4.ext hA (by simpa using n46);refine QO ?_;exact QL (k+1) ⟨by omega,hT.trans hA,hS.ow hA,by rw [hstep];exact e6,e4⟩ (by omega);rw [if_neg hc] at hstep;have hc':=λh=>hc (bU.1 h);refine QO ?_;exact QL (k+1) ⟨by omega,hT,hS,by rw [hstep];exact e6,e4⟩ (by omega);obtain rfl:k=l.length - 1:=by omega
 refine QO ?_;refine SA (us:=Z3.enc (Z2d l (l.length - 1))) e4 ?_;rintro _ w8 ⟨hA,e4⟩;refine QO ?_;refine Zj rfl rfl rfl e4 rfl rfl ?_;exact .mk ⟨rfl,hS.ow hA⟩
structure ZmI (l:List Atp) (crrs:List Crr):Prop where
 len:l.length<=65536
 ret:∀ a∈l,ZmF a.rets crrs
 crr:∀ a∈l,0<=a.crr/\a.crr<crrs.length
 sent:∀ a∈l,0<=a.sent/\a.sent<=3652058
def svB (crrs:List Crr) (en pa:Int) (a:Atp):Bool:=decide (a.entry=en/\a.party=pa) && (ZaE a.rets crrs a.sent).2
def ofE (crrs:List Crr) (a:Atp) (k:Nat):Svc:=⟨(ZaE a.rets crrs a.sent).1,(crrs.getD a.crr.toNat ⟨0,0⟩).extra,k⟩
def ofG (l:List Atp) (crrs:List Crr) (en pa:Int):Nat->List Svc
 | 0=>[]
 | k+1=>ofG l crrs en pa k++if svB crrs en pa (l.getD k default)=true then [ofE crrs (l.getD k default) k] else []
def Z5E (l:List Atp) (crrs:List Crr) (en pa:Int):Svc×Bool:=Z4I (ofG l crrs en pa l.length)
theorem ZeK (l:List Atp) (crrs:List Crr) (en pa:Int):∀ k,(ofG l crrs en pa k).length<=k
 | 0=>by simp [ofG]
 | k + 1 => by
   have:=ZeK l crrs en pa k;simp only [ofG,Xc];split<;>simp<;>omega
theorem ZjI (a b c:Int) (w):(Instr.build 115 #[(0,.I a),(1,.I b),(2,.I c)]).run Tryz.prog w=.ok (aG (⟨a,b,c⟩:Svc)) w:=by kernel_rfl
theorem Zsv (lv cv:Value) (l:List Atp) (crrs:List Crr) (en pa:Int) (w) (hl:SlV [] w lv l) (nF:SlV [] w cv crrs) (ho:ZmI l crrs) :
 CC 49 #[lv,.I en,.I pa,cv] w λr w'=>r=.tuple #[.agg (Z3.enc (Z5E l crrs en pa).1).toArray,.B (Z5E l crrs en pa).2]/\Stp [] w w':=by
 have ai:=ho.len;refine cW4 59 Tryz.func49 ?_;refine W ?_;refine Z0 Z2 rfl ?_;rintro _ w1 ⟨b8,rfl,fk,e8,hS⟩;replace e8:Blk w1 b8 115 (Z3.enc (⟨0,0,0⟩:Svc)):=e8;have fe:=hl.up hS;refine W ?_;refine LP (σ:=Nat×Value) (λq=>[(1,.I en),(2,.I pa),(3,cv),(8,pQ b8),(10,q.2),(15,lv),(16,.I l.length),(17,.I q.1)]) (λq w'=>q.1<=l.length/\ZE 115 w1 w' q.2 (ofG l crrs en pa q.1)) (λq=>l.length - q.1) (0,.N) ⟨by omega,ZE.nil⟩ ?_;rintro ⟨k,rv⟩ w2 ⟨hk,hr⟩;dsimp only at hk hr ⊢;by_cases hlt:k<l.length
 . have dR:=fe.up hr.2
   obtain ⟨cs,⟨tv,rfl,ht⟩,ar⟩:=dR.cell hlt;have hstep:ofG l crrs en pa (k+1)=ofG l crrs en pa k++if svB crrs en pa l[k]=true then [ofE crrs l[k] k] else []:=by rw [ofG,show l.getD k default=l[k] by simp [hlt]]
   have cQ:=ZeK l crrs en pa k;have lc:=ho.ret _ (Xd hlt);have iN:=ho.crr _ (Xd hlt);have ec:=ho.sent _ (Xd hlt);refine QO ?_;refine Z8 (Z1W rfl rfl dR hlt ⟨tv,rfl,ht⟩ ar) rfl ?_;refine Z0 Z2 rfl ?_;rintro _ w3 ⟨b12,rfl,kV,e12,hA⟩;refine W ?_;refine SB (us:=atC l[k] tv) (Z5.one (x:=l[k]) (w:=w2) (X:=[]) ⟨tv,rfl,ht⟩) e12 ?_;rintro _ w4 ⟨dl,e12⟩;replace hA:=hA.ow dl;replace hr:=hr.up hA;replace ht:=ht.up hA;clear hA dl dR ar;have fi:SlV [] w4 cv crrs:=(nF.up hS).up hr.2;have skip:svB crrs en pa l[k]=false->ofG l crrs en pa (k+1)=ofG l crrs en pa k:=λh=>by rw [hstep,h,if_neg (by simp),XH]
   repeat'(first|refine W1 ?_|omega|refine VG ?_ ?_<;>intro hg|refine VC ?_ ?_<;>intro hc)
   all_goals try exact QL (k+1,rv) ⟨hlt,by rw [skip (by simp only [svB,Bool.and_eq_false_iff,decide_eq_false_iff_not];exact .inl (λh=>by omega))];exact hr⟩ (by dsimp only;omega)
   refine CP (Stp.refl [] w4) (ZdG tv cv l[k].rets crrs l[k].sent _ ht fi lc ec) λw5 hA _=>?_;replace hr:=hr.up hA;replace e12:=e12.up hA;replace fi:=fi.up hA;clear hA ht;unfold svB at hstep skip;unfold ofE at hstep;generalize ZaE l[k].rets crrs l[k].sent=sv at *;obtain ⟨d,ok⟩:=sv;cases ok with
   | false=>
     dsimp only at skip ⊢;refine QO ?_;exact QL (k+1,rv) ⟨hlt,by rw [skip (by simp)];exact hr⟩ (by dsimp only;omega)
   | true=>
     rw [if_pos (by simp only [Ybf,decide_eq_true_eq];constructor<;>omega)] at hstep;obtain ⟨j,hj⟩:∃ j:Nat,l[k].crr=j:=⟨l[k].crr.toNat,by omega⟩
     have fy:j<crrs.length:=by omega
     rw [hj,show crrs.getD ((j:Int).toNat) ⟨0,0⟩=crrs[j] by simp [fy]] at hstep;dsimp only at hstep ⊢;refine QO ?_;refine Z7 (vs:=[(0,.I d),(1,.I crrs[j].extra),(2,.I k)]) rfl (ZjI _ _ _) rfl ?_;refine AP1 (⟨d,crrs[j].extra,k⟩:Svc) hr (by omega) λv1 v' w' bM _=>?_
     refine QO ?_;exact QL (k+1,v') ⟨hlt,by rw [hstep];exact bM⟩ (by dsimp only;omega)
 obtain rfl:k=l.length:=by omega
 have eU:SlV [] w2 rv (ofG l crrs en pa l.length):=hr.slv (by simp);replace e8:=e8.up hr.2;replace hS:=hS.trans hr.2;clear hr;unfold Z5E;refine QO ?_;refine CP hS (ZjH rv _ _ eU) λw3 hT hS=>?_;replace e8:=e8.up hT;refine W ?_;refine SA (us:=Z3.enc (Z4I (ofG l crrs en pa l.length)).1) e8 ?_;rintro _ w4 ⟨hA,e8⟩;refine W ?_;refine Zj rfl rfl rfl e8 rfl rfl ?_;exact .mk ⟨rfl,hS.ow hA⟩
theorem ZjJ (a b c:Int) (w):(Instr.build 67 #[(0,.I a),(1,.I b),(2,.I c)]).run Tryz.prog w=.ok (aG (⟨a,b,c⟩:Rsn)) w:=by kernel_rfl
structure Nte (w0:World) (bd:Nat) (w:World) (d:Dln) (rv:Value):Prop where
 blk:Blk w bd 56 (dlC d rv)
 row:Row [bd] w w0.heap.size 67 rv d.reas
 stp:Stp [bd] w0 w
 lt:bd<w0.heap.size
 len:d.reas.length<=100000
theorem Z2B (w0:World) (bd:Nat) (d:Dln) (rv:Value) (k a b:Int) (w) (h:Nte w0 bd w d rv) (hl:d.reas.length+1<=100000) :
 CC 53 #[.I k,.I a,.I b,pQ bd] w λr w'=>∃ rv',Nte w0 bd w' { d with reas:=d.reas++[⟨k,a,b⟩] } rv'/\Stp (bd :: ob rv) w w'/\∀ b∈ob rv',b∈ob rv\/w.heap.size<=b:=by
 obtain ⟨e3,hr,hS,hlt,ai⟩:=h;refine cW4 16 Tryz.func53 ?_;refine W ?_;refine Z7 (vs:=[(0,.I k),(1,.I a),(2,.I b)]) rfl (ZjJ _ _ _) rfl ?_;refine APR (X:=[bd]) (base:=w0.heap.size) (⟨k,a,b⟩:Rsn) hr (λc hc=>by have:=hS.size;simp at hc;omega) hS.size (by omega) λv1 v' w1 bM hT bh=>?_
 have e3':Blk w1 bd 56 (dlC d rv):=e3.ext hT (λhb=>by have:=(hr.ob_le bd hb).1;omega);refine W ?_;have ax:SlV [bd] w1 v' (d.reas++[⟨k,a,b⟩]):=bM.slv (λc hc=>by simp at hc;omega);refine Z6 (Zb (u:=v') rfl rfl ax.cells ax.one e3' (by simp)) ?_;rintro _ w2 ⟨aq,e3''⟩;refine W ?_;refine WR ?_;refine .mk ⟨v',⟨e3'',bM.ext aq (λc hc=>?_) (λc hc=>.inl hc),?_,hlt,by simp;omega⟩,(hT.mono (λc hc=>by simp [hc])).trans aq.mn,bh⟩;simp only [Xl] at hc;subst hc;exact ⟨by simp,λh=>by have:=(bM.ob_le c h).1;omega⟩;refine (hS.own hT (λc hc=>.inr (hr.ob_le c hc).1)).trans aq
def Zg7 (els:Str) (d:Dln):Fct:=⟨d.trig.entry,els,max d.due d.trig.day+1,d.trig.to_,d.trig.by_,d.trig.amt⟩
def Zcc (c:Cas) (d:Dln) (r:Nat):Fct×Bool:=(Zg7 (c.ruls.getD r crZ).els d,decide (d.stat=2/\(c.ruls.getD r crZ).els≠[]/\max d.due d.trig.day+1<=c.today))
theorem ZjK (a:Int) (s:Str) (b c d e:Int) (w):(Instr.build 45 #[(0,.I a),(1,str s),(2,.I b),(3,.I c),(4,.I d),(5,.I e)]).run Tryz.prog w=.ok (aG (⟨a,s,b,c,d,e⟩:Fct)) w:=by kernel_rfl
theorem Zcd (c:Cas) (R:Z0T) (d:Dln) (dv:Value) (r:Nat) (w) (hs:SlV [] w R.rv c.ruls) (hd:SlV [] w dv d.reas) (hr:r<c.ruls.length) (hb:-1000000000<=d.due/\d.due<=1000000000/\-1000000000<=d.trig.day/\d.trig.day<=1000000000) :
 CC 47 #[.agg (Jw c R).toArray,.agg (dlC d dv).toArray,.I r] w λv w'=>v=.tuple #[.agg (Z3.enc (Zcc c d r).1).toArray,.B (Zcc c d r).2]/\Stp [] w w':=by
 unfold Zcc;rw [show c.ruls.getD r crZ=c.ruls[r] by simp [hr]];refine cW3 49 Tryz.func47 ?_;refine W ?_;refine BX (Stp.refl [] w) λb3 w1 h3 e3 _ hS=>?_;replace e3:Blk w1 b3 37 (Jw c R):=e3;refine BX hS λb4 w2 h4 e4 hT hS=>?_;replace e4:Blk w2 b4 56 (dlC d dv):=e4;replace e3:=e3.up hT;have l3:=e3.lt;have l4:=e4.lt;refine W ?_;refine Z0 Z2 rfl ?_;rintro _ w3 ⟨b6,rfl,eB,e6,hT⟩;have n36:b3≠b6:=by omega
 have n46:b4≠b6:=by omega
 have g6:w.heap.size<=b6:=Xg hS.size eB;replace e3:=e3.up hT;replace e4:=e4.up hT;replace hS:=hS.trans hT;clear hT;refine W ?_;refine Z8 (Zl (us:=Z3.enc d.trig) rfl rfl e4 rfl rfl) rfl ?_;refine Z0 Z2 rfl ?_;rintro _ w4 ⟨b8,rfl,fk,e8,hT⟩;refine SA (us:=Z3.enc d.trig) e8 ?_;rintro _ w5 ⟨aq,e8⟩;replace hT:=hT.ow aq;replace e3:=e3.up hT;replace e4:=e4.up hT;have l6:=e6.lt;replace e6:=e6.up hT;replace hS:=hS.trans hT;have n68:b6≠b8:=λh=>by subst h;exact absurd l6 (Nat.not_lt.2 fk)
 clear hT aq;refine W ?_;refine ZDr 23 [] [22] [(0,0),(1,1),(2,0),(3,1),(4,0),(5,0),(6,0),(7,1),(8,0),(9,1),(10,0),(11,1),(12,0),(13,0),(14,0),(15,1),(16,0),(17,1),(18,0),(19,1),(20,0),(21,2),(22,2)] (λw1 ae=>?_);replace e3:=e3.up ae;replace e4:=e4.up ae;replace e6:=e6.up ae;replace e8:=e8.up ae;replace hS:=hS.trans ae;clear ae;have eU:=hs.up hS;obtain ⟨cs,⟨kc,kd,rfl,-,-⟩,ar⟩:=eU.cell hr;have hf:w1.cell? (ZH R.rv r 7 6)=some (str c.ruls[r].els):=ar 6 _ rfl;repeat'(first|refine D1 ?_|omega|refine Z17 rfl (by first|exact trivial|exact rfl) rfl rfl (by assumption) rfl ?_|refine Zq rfl rfl rfl rfl (λhg=>?_) (λhg=>?_)|(refine Zm rfl rfl rfl rfl (λhg=>?_) (λhg=>?_)<;>refine D1 ?_)|fail)
 refine Z2s rfl trivial (vs:=[(0,.I d.trig.entry),(1,str c.ruls[r].els),(2,.I (max d.due d.trig.day+1)),(3,.I d.trig.to_),(4,.I d.trig.by_),(5,.I d.trig.amt)]) rfl (ZjK _ _ _ _ _ _) rfl ?_;refine Za rfl trivial Z2 (λ_ _ h=>h.choose_spec.2.2.2) rfl ?_;rintro _ w6 ⟨b9,rfl,iS,e9,hT⟩;refine Jm rfl trivial (Zi (us:=Z3.enc (Zg7 c.ruls[r].els d)) rfl rfl rfl rfl (Z3.one _) e9 rfl) rfl ?_;rintro _ w7 ⟨aq,e9⟩;replace hT:=hT.ow aq;have l6':=e6.lt;have n69:b6≠b9:=by omega
 replace e3:=e3.up hT;replace e4:=e4.up hT;replace e6:=e6.up hT;replace hS:=hS.trans hT;clear hT aq eU ar hf e8;refine D ?_;refine W ?_;replace e9:Blk w7 b9 45 (Z3.enc (Zg7 c.ruls[r].els d)):=e9;have bR:(Zg7 c.ruls[r].els d).kind=c.ruls[r].els/\(Zg7 c.ruls[r].els d).day=max d.due d.trig.day+1:=⟨rfl,rfl⟩
 obtain ⟨v1,v2⟩:=bR;generalize Zg7 c.ruls[r].els d=F at *;rw [<- v1,<- v2];clear v1 v2;refine JE (σ:=Unit) (λ_=>[(6,pQ b6),(7,.B (decide (d.stat=2/\F.kind≠[]/\F.day<=c.today)))]) (λ_ w'=>Stp [] w w'/\Blk w' b6 45 (Z3.enc F)) ?_ ?_
 . refine ZDr 18 ([b6]) [] [(0,1),(1,0),(2,1),(3,0),(4,0),(5,0),(6,1),(7,0),(8,0),(9,0),(10,0),(11,1),(12,0),(13,1),(14,0),(15,0),(16,2),(17,0)] (λw1 ae=>?_)
   replace e3:=e3.up ae;replace e4:=e4.up ae;replace e6:=e6.up ae;replace e9:=e9.up ae;replace hS:=hS.trans ae;clear ae;repeat'(first|refine D1 ?_|omega|refine Zq rfl rfl rfl rfl (λhg=>?_) (λhg=>?_)|(refine Zm rfl rfl rfl rfl (λhg=>?_) (λhg=>?_)<;>refine D1 ?_)|fail)
   all_goals
    refine Z0p rfl trivial (Zi (us:=Z3.enc F) rfl rfl rfl rfl (Z3.one _) e6 rfl) (λ_ _ h=>h.1) ?_;rintro _ wz ⟨hT,e6⟩;refine D ?_;refine ZA () ⟨rfl,?_,trivial⟩ ⟨hS.ow hT,e6⟩;show some (Value.bool _)=some (Value.bool _);congr 2
    first
     | (symm;exact decide_eq_false (λh=>by first|exact absurd h.1 (by assumption)|exact absurd h.2.1 (by assumption)))
     | (rw [decide_eq_decide];exact ⟨λh=>⟨by assumption,by assumption,h⟩,λh=>h.2.2⟩)
 rintro _ w8 ⟨hS,e6⟩;refine W ?_;refine Zj rfl rfl rfl e6 rfl rfl ?_;exact .mk ⟨rfl,hS⟩
def Res (K:MK) (w:World) (st:List Int) (sp:List Spn) (at_:Int) (r:Int×Int):Prop:=
 ∃ sv pv st2 sp2,Mch K w sv pv st2 sp2 at_ r.2 (decide (¬ r.2=0))/\(r.2=0->st2=st++[r.1]/\sp2=sp)
section
variable {K:MK} {w w':World} {sv pv:Value} {st:List Int} {sp:List Spn} {at_ er:Int} {dn:Bool}
abbrev mP (K:MK):Value:=.pointer (some ⟨K.bm,0,none⟩)
theorem Zce (hK:KOk K) {v:Int} (h:Mch K w sv pv (st++[v]) sp at_ er dn) :
 CC 82 #[mP K] w λr w'=>r=.I v/\(∃ sv',Mch K w' sv' pv st sp at_ er dn)/\Stp [K.bm] w w':=by
 have ac:=h.blk;have ab:=h.row;unfold Z5z at ac;have hs:=ab.slv (X:=[]) (by simp);have hz:((st++[v]).length:Int) - 1=(st.length:Int):=by simp
 have hi:st.length<(st++[v]).length:=by simp
 have hm:=hs.max;refine cW1 28 Tryz.func82 ?_;refine W ?_;refine Z8 (Z1M rfl hs rfl hz (by omega)) rfl ?_;refine W ?_;have hc:=ab.cut (r:=st.length) (by omega);rw [YbG rfl] at hc;have h1:=hc.slv (X:=[]) (by simp);refine Z6 (Zb (u:=slc sv 0 st.length 1) rfl rfl h1.cells h1.one ac (by simp [evC,Z08])) ?_;rintro _ w1 ⟨ae,cj⟩;refine RT ?_;exact ⟨by simp,⟨slc sv 0 st.length 1,h.stack hK (Stp.refl _ _) hc (λb hb=>.inl (by rw [<- Zic sv st.length 1];exact hb)) ae cj⟩,ae⟩
theorem Z34 (hK:KOk K) {v:Int} (h:Mch K w sv pv (st++[v]) sp at_ er dn) :
 CC 82 #[mP K] w λr w'=>r=.I v/\∃ sv',Mch K w' sv' pv st sp at_ er dn:=
 Go.Eng.Calls.ret (Zce hK h) (λ_ _ h=>⟨h.1,h.2.1⟩)
theorem JZ (hK:KOk K) {a b:Int} (h:Mch K w sv pv (st++[a,b]) sp at_ er dn) :
 CC 204 #[mP K] w λr w'=>r=.tuple #[.I a,.I b]/\∃ sv',Mch K w' sv' pv st sp at_ er dn:=by
 refine cW1 10 Tryz.func204 ?_;refine W ?_;refine CM (ZN rfl) (Z34 (st:=st++[a]) (v:=b) hK (by simpa using h)) ?_;rintro _ w1 ⟨rfl,sv1,h1⟩;refine W ?_;refine CL (Z34 hK h1) ?_;rintro _ w2 ⟨rfl,sv2,h2⟩;refine RT ?_;exact ⟨rfl,sv2,h2⟩
theorem Z0h (hK:KOk K) (h:Mch K w sv pv st sp at_ 0 false) (hl:st.length<=100000) (n e:Int) :
 CC 203 #[mP K,.I n,.I e] w λr w'=>r=.tuple #[]/\Res K w' st sp at_ (n,e):=by
 refine Go.Eng.Calls.ret (Zjl hK h n e hl) ?_;rintro v w' ⟨rfl,sv',h1⟩;refine ⟨rfl,sv',pv,if e=0 then st++[n] else st,sp,?_,λhe=>⟨if_pos he,rfl⟩⟩;by_cases he:e=0;subst he;simpa using h1;simpa [he] using h1
theorem ZeL (hK:KOk K) (h:Mch K w sv pv st sp at_ 0 false) (hl:st.length<=100000) (n a b:Int) :
 CC 261 #[mP K,.I n,.I a,.I b] w λr w'=>r=.tuple #[]/\Res K w' st sp at_ (if n<a\/b<n then (0,5) else (n,0)):=by
 refine cW4 21 Tryz.func261 ?_;by_cases hc:n<a\/b<n
 . rw [if_pos hc]
   repeat'(first|refine W1 ?_|omega|refine VG ?_ ?_<;>intro hg|refine VC ?_ ?_<;>intro hc)
   all_goals
    refine CL (Z0h hK h hl 0 5) ?_;rintro _ w1 ⟨rfl,h1⟩;refine RT ?_;exact ⟨rfl,h1⟩
 rw [if_neg hc];refine QO ?_;refine CL (Z0h hK h hl n 0) ?_;rintro _ w1 ⟨rfl,h1⟩;refine RT ?_;exact ⟨rfl,h1⟩
theorem Z5F (hK:KOk K) (h:Mch K w sv pv st sp at_ 0 false) (hl:st.length<=100000) (n:Int) :
 CC 205 #[mP K,.I n] w λr w'=>r=.tuple #[]/\Res K w' st sp at_ (Z4y n):=by
 refine cW2 7 Tryz.func205 ?_;refine W ?_;refine CL (ZeL hK h hl n _ _) ?_;rintro _ w1 ⟨rfl,h1⟩;refine RT ?_;exact ⟨rfl,h1⟩
theorem ZvQ (hK:KOk K) (h:Mch K w sv pv st sp at_ 0 false) (hl:st.length<=100000) (n:Int) :
 CC 207 #[mP K,.I n] w λr w'=>r=.tuple #[]/\Res K w' st sp at_ (ZbS n):=by
 refine cW2 7 Tryz.func207 ?_;refine W ?_;refine CL (ZeL hK h hl n _ _) ?_;rintro _ w1 ⟨rfl,h1⟩;refine RT ?_;exact ⟨rfl,h1⟩
theorem ZaJ (hK:KOk K) (h:Mch K w sv pv st sp at_ 0 false) (hl:st.length<=100000) (b:Bool) :
 CC 206 #[mP K,.B b] w λr w'=>r=.tuple #[]/\Res K w' st sp at_ (Z3M b,0):=by
 refine cW2 9 Tryz.func206 ?_;cases b;refine W ?_;refine CL (Z0h hK h hl 0 0) ?_;rintro _ w1 ⟨rfl,h1⟩;refine RT ?_;exact ⟨rfl,h1⟩;refine W ?_;refine CL (Z0h hK h hl 1 0) ?_;rintro _ w1 ⟨rfl,h1⟩;refine RT ?_;exact ⟨rfl,h1⟩
theorem Zsw (hK:KOk K) (h:Mch K w sv pv st sp at_ 0 false) (hl:st.length<=100000) (n:Int) :
 CC 128 #[mP K,.I n] w λr w'=>r=.tuple #[]/\Res K w' st sp at_ (n,0):=by
 refine cW2 7 Tryz.func128 ?_;refine W ?_;refine CL (Z0h hK h hl n 0) ?_;rintro _ w1 ⟨rfl,h1⟩;refine RT ?_;exact ⟨rfl,h1⟩
theorem ZwK (hK:KOk K) {a b:Int} (h:Mch K w sv pv (st++[a,b]) sp at_ 0 false) (hl:st.length<=100000) (n:Int) (hr:I64 (a+b)) :
 CC 130 #[mP K,.I n] w λr w'=>r=.tuple #[]/\Res K w' st sp at_ (Z4y (a+b)):=by
 try unfold I64 at hr
 refine cW2 16 Tryz.func130 ?_;refine W ?_;refine CL (JZ hK h) ?_;rintro _ w1 ⟨rfl,sv1,h1⟩;refine W ?_;refine CL (Z5F hK h1 hl _) ?_;rintro _ w2 ⟨rfl,h2⟩;refine RT ?_;exact ⟨rfl,h2⟩
theorem ZwL (hK:KOk K) {a b:Int} (h:Mch K w sv pv (st++[a,b]) sp at_ 0 false) (hl:st.length<=100000) (n:Int) (hr:I64 (a - b)) :
 CC 131 #[mP K,.I n] w λr w'=>r=.tuple #[]/\Res K w' st sp at_ (Z4y (a - b)):=by
 try unfold I64 at hr
 refine cW2 16 Tryz.func131 ?_;refine W ?_;refine CL (JZ hK h) ?_;rintro _ w1 ⟨rfl,sv1,h1⟩;refine W ?_;refine CL (Z5F hK h1 hl _) ?_;rintro _ w2 ⟨rfl,h2⟩;refine RT ?_;exact ⟨rfl,h2⟩
theorem ZwM (hK:KOk K) {a b:Int} (h:Mch K w sv pv (st++[a,b]) sp at_ 0 false) (hl:st.length<=100000) (n:Int) (hr:I64 (a * b)) :
 CC 132 #[mP K,.I n] w λr w'=>r=.tuple #[]/\Res K w' st sp at_ (Z4y (a * b)):=by
 try unfold I64 at hr
 refine cW2 16 Tryz.func132 ?_;refine W ?_;refine CL (JZ hK h) ?_;rintro _ w1 ⟨rfl,sv1,h1⟩;refine W ?_;refine CL (Z5F hK h1 hl _) ?_;rintro _ w2 ⟨rfl,h2⟩;refine RT ?_;exact ⟨rfl,h2⟩
theorem ltV (hK:KOk K) {a b:Int} (h:Mch K w sv pv (st++[a,b]) sp at_ 0 false) (hl:st.length<=100000) (n:Int) (hr:True) :
 CC 134 #[mP K,.I n] w λr w'=>r=.tuple #[]/\Res K w' st sp at_ ((Z3M (decide (a<b)),0)):=by
 try unfold I64 at hr
 refine cW2 16 Tryz.func134 ?_;refine W ?_;refine CL (JZ hK h) ?_;rintro _ w1 ⟨rfl,sv1,h1⟩;refine W ?_;refine CL (ZaJ hK h1 hl _) ?_;rintro _ w2 ⟨rfl,h2⟩;refine RT ?_;exact ⟨rfl,h2⟩
theorem leV (hK:KOk K) {a b:Int} (h:Mch K w sv pv (st++[a,b]) sp at_ 0 false) (hl:st.length<=100000) (n:Int) (hr:True) :
 CC 135 #[mP K,.I n] w λr w'=>r=.tuple #[]/\Res K w' st sp at_ ((Z3M (decide (a<=b)),0)):=by
 try unfold I64 at hr
 refine cW2 16 Tryz.func135 ?_;refine W ?_;refine CL (JZ hK h) ?_;rintro _ w1 ⟨rfl,sv1,h1⟩;refine W ?_;refine CL (ZaJ hK h1 hl _) ?_;rintro _ w2 ⟨rfl,h2⟩;refine RT ?_;exact ⟨rfl,h2⟩
theorem eqV (hK:KOk K) {a b:Int} (h:Mch K w sv pv (st++[a,b]) sp at_ 0 false) (hl:st.length<=100000) (n:Int) (hr:True) :
 CC 136 #[mP K,.I n] w λr w'=>r=.tuple #[]/\Res K w' st sp at_ ((Z3M (decide (a=b)),0)):=by
 try unfold I64 at hr
 refine cW2 16 Tryz.func136 ?_;refine W ?_;refine CL (JZ hK h) ?_;rintro _ w1 ⟨rfl,sv1,h1⟩;refine W ?_;refine CL (ZaJ hK h1 hl _) ?_;rintro _ w2 ⟨rfl,h2⟩;refine RT ?_;exact ⟨rfl,h2⟩
theorem ZvR (hK:KOk K) {a b:Int} (h:Mch K w sv pv (st++[a,b]) sp at_ 0 false) (hl:st.length<=100000) (n:Int) (hr:I64 (a+b)) :
 CC 140 #[mP K,.I n] w λr w'=>r=.tuple #[]/\Res K w' st sp at_ (ZbS (a+b)):=by
 try unfold I64 at hr
 refine cW2 16 Tryz.func140 ?_;refine W ?_;refine CL (JZ hK h) ?_;rintro _ w1 ⟨rfl,sv1,h1⟩;refine W ?_;refine CL (ZvQ hK h1 hl _) ?_;rintro _ w2 ⟨rfl,h2⟩;refine RT ?_;exact ⟨rfl,h2⟩
theorem Zsx (hK:KOk K) {a b:Int} (h:Mch K w sv pv (st++[a,b]) sp at_ 0 false) (hl:st.length<=100000) (n:Int) (hr:I64 (7 * b)/\I64 (a+7 * b)) :
 CC 141 #[mP K,.I n] w λr w'=>r=.tuple #[]/\Res K w' st sp at_ (ZbS (a+7 * b)):=by
 try unfold I64 at hr
 refine cW2 17 Tryz.func141 ?_;refine W ?_;refine CL (JZ hK h) ?_;rintro _ w1 ⟨rfl,sv1,h1⟩;refine W ?_;refine CL (ZvQ hK h1 hl _) ?_;rintro _ w2 ⟨rfl,h2⟩;refine RT ?_;exact ⟨rfl,h2⟩
theorem Zsy (hK:KOk K) {a b:Int} (h:Mch K w sv pv (st++[a,b]) sp at_ 0 false) (hl:st.length<=100000) (n:Int) (hr:True) :
 CC 146 #[mP K,.I n] w λr w'=>r=.tuple #[]/\Res K w' st sp at_ ((max a b,0)):=by
 try unfold I64 at hr
 refine cW2 16 Tryz.func146 ?_;refine W ?_;refine CL (JZ hK h) ?_;rintro _ w1 ⟨rfl,sv1,h1⟩;refine W ?_;refine CL (Z0h hK h1 hl _ 0) ?_;rintro _ w2 ⟨rfl,h2⟩;refine RT ?_;exact ⟨rfl,h2⟩
theorem ZjL (hK:KOk K) {a b:Int} (h:Mch K w sv pv (st++[a,b]) sp at_ 0 false) (hl:st.length<=100000) (n:Int) (hr:True) :
 CC 147 #[mP K,.I n] w λr w'=>r=.tuple #[]/\Res K w' st sp at_ ((min a b,0)):=by
 try unfold I64 at hr
 refine cW2 16 Tryz.func147 ?_;refine W ?_;refine CL (JZ hK h) ?_;rintro _ w1 ⟨rfl,sv1,h1⟩;refine W ?_;refine CL (Z0h hK h1 hl _ 0) ?_;rintro _ w2 ⟨rfl,h2⟩;refine RT ?_;exact ⟨rfl,h2⟩
theorem ZjM (hK:KOk K) {a b:Int} (h:Mch K w sv pv (st++[a,b]) sp at_ 0 false) (hl:st.length<=100000) (n:Int) (hr:I64 (b - a)) :
 CC 148 #[mP K,.I n] w λr w'=>r=.tuple #[]/\Res K w' st sp at_ (Z4y (b - a)):=by
 try unfold I64 at hr
 refine cW2 16 Tryz.func148 ?_;refine W ?_;refine CL (JZ hK h) ?_;rintro _ w1 ⟨rfl,sv1,h1⟩;refine W ?_;refine CL (Z5F hK h1 hl _) ?_;rintro _ w2 ⟨rfl,h2⟩;refine RT ?_;exact ⟨rfl,h2⟩
end
end Go.Proofs.YtipfkbkkndacjaaGreatDoor
