/-
Merged by program out of own texts: Arg15, Arg16, Srt1, Use1, Eng18, Eng19, Tyo1, Cty0, Cty1, Eng23, Eng24, Psr0, PsrP, Eng25, LexM, Lex1, Rt7, Dtr1, Dat1, Vmm, Vme, Vev0, Psr1, Psr2, Psr3.
-/
import Derived.Test.YtjdjdoefppebkaaGreatDoorM2
import Derived.Test.YtjdjdoefppebkaaGreatDoorRows
import Derived.Test.YtjdjdoefppebkaaGreatDoorTie
import Derived.Test.YtjdjdoefppebkaaGreatDoorCards
import Derived.Laws.BitsAllLaws
import Derived.Laws.Bits64
import Derived.Lib.SlBytesRow
import Derived.Lib.AppendStr
import Derived.Laws.BytesArg
import Derived.Laws.Cover3
import Derived.Laws.RangeString
import Derived.Laws.RangeAny
set_option linter.unusedVariables false
set_option linter.unusedSimpArgs false
namespace Go.Proofs.YtjdjdoefppebkaaGreatDoor
open Go Go.Eng Go.RowKit Go.Proofs Go.ChangeShapes Go.WideShapes Go.Deep
theorem Zp6:ownKnob Tryz.prog.godebug=none:=by kernel_rfl
theorem ZnA:laidOutB Tryz.prog=true:=by kernel_rfl
section
variable {H:Type} {enc:TypeId×Value→H} {w:World} {base:Nat} {spare:Nat→Bool} {held:Bool}
set_option maxRecDepth 100000 in
theorem ZnB {r:Reach} {b0:Nat} {v:Value} {d:DataW H} {p:List MemPlace} (hv:Value.okWide Tryz.prog w r b0 3 v) (h:DataW.Trod enc Tryz.prog w base spare held 3 v d p):∃ z:Int,v=.int .i64 z∧I64 z:=by
 obtain ⟨z,rfl,_,_,hw⟩:=open_int Tryz.underlying3 hv h
 exact ⟨z,rfl,by simpa [I64,Lit.wf,IntKind.min,IntKind.max,IntKind.signed,IntKind.bits] using hw⟩
set_option maxRecDepth 100000 in
theorem Zlm {r:Reach} {b0:Nat} {v:Value} {d:DataW H} {p:List MemPlace} (hv:Value.okWide Tryz.prog w r b0 40 v) (h:DataW.Trod enc Tryz.prog w base spare held 40 v d p) :
 ∃ l:List Ins,SlV [] w v l∧(∀ x∈l,I64 x.op∧I64 x.n)∧Zg7 d=l.length:=by
 obtain ⟨fuel,h⟩:=h
 obtain ⟨u,l,hu,hs,hok,hln⟩:=Z5e (α:=Ins) (ok:=fun x=>I64 x.op∧I64 x.n) Tryz.underlying40 (by kernel_rfl) (by decide) (fun n cs y hl hy=>by
  obtain ⟨zs,h1,rfl,h2⟩:=Z2S (k:=2) (by kernel_rfl) hl hy
  match zs,h1 with
  | [a,b],_=>exact ⟨⟨a,b⟩,rfl,by simpa using h2⟩) h
 obtain ⟨a,m,c,rfl⟩:=okWide_slice Tryz.underlying40 hv
 have hu':Value.slice a m c=u:=by simpa [Value.cells] using hu
 subst hu'
 exact ⟨l,hs,hok,hln⟩
end
end Go.Proofs.YtjdjdoefppebkaaGreatDoor
namespace Go.Eng
open Go Go.RowKit Go.Proofs Go.ChangeShapes Go.WideShapes Go.Deep
section
variable {H:Type} {enc:TypeId×Value→H} {P:Program} {w:World} {base:Nat} {spare:Nat→Bool} {held:Bool}
end
end Go.Eng
namespace Go.Proofs.YtjdjdoefppebkaaGreatDoor
open Go Go.Eng Go.RowKit Go.Proofs Go.ChangeShapes Go.WideShapes Go.Deep
section
variable {H:Type} {enc:TypeId×Value→H} {w:World} {base:Nat} {spare:Nat→Bool} {held:Bool}
theorem k3:Tryz.prog.cellsOf 3=1:=by kernel_rfl
end
end Go.Proofs.YtjdjdoefppebkaaGreatDoor
namespace Go.Eng
open Go Go.RowKit
variable {X:List Nat} {w w':World} {base T:Nat} {v:Value} {zs ys:List Int}
def Zee (w:World) (base T:Nat) (v:Value) (zs:List Int):Prop:=(v=.slice none 0 0∧zs=[])∨∃ g cap cur,v=.slice (some ⟨g,0,none⟩) zs.length cap∧base≤g∧w.heap[g]?=some (.cells cur T (0,0))∧zs.length≤cap∧cap≤maxLen∧cur.size=cap∧cur.toList.take zs.length=zs.map (Value.int .i64)
theorem Row.toI (h:Row X w base T v zs):Zee w base T v zs:=by
 obtain ⟨css,hl,hr,hx,ho⟩:=h
 have hc:css=zs.map (fun x=>[Value.int .i64 x]):=by
  apply YaD (by simpa using hl)
  intro i h1 h2
  have:css[i]=[Value.int .i64 zs[i]]:=hr i (by omega) h1
  simp [this]
 rcases ho with ⟨rfl,hn⟩|⟨g,cap,cur,rfl,hb,hg,hnc,hcm,hcs,ht⟩
 exact .inl ⟨rfl,XD.1 hn⟩
 · refine .inr ⟨g,cap,cur,rfl,hb,hg,hnc,hcm,by simpa [Z8.k,Z9.k] using hcs,?_⟩
   have h2:cur.toList.take (zs.length * 1)=css.flatten:=ht
   rw [Nat.mul_one] at h2
   rw [h2,hc]
   clear h2 ht hx hr hl hc hnc hg hcs
   induction zs with
   | nil=>rfl
   | cons a l ih=>simp at ih ⊢;exact ih
theorem Zee.toRow (h:Zee w base T v zs):Row X w base T v zs:=by
 rcases h with ⟨rfl,rfl⟩|⟨g,cap,cur,rfl,hb,hg,hnc,hcm,hcs,ht⟩
 exact Row.nil
 · refine ⟨zs.map (fun x=>[Value.int .i64 x]),by simp,fun i h1 h2=>by simp;rfl,?_⟩
   have hf:(zs.map (fun x=>[Value.int .i64 x])).flatten=zs.map (Value.int .i64):=by
    clear ht hnc
    induction zs with
    | nil=>rfl
    | cons a l ih=>simp at ih ⊢;exact ih
   rw [hf]
   refine ⟨by simp [Z8.k,Z9.k],.inr ⟨g,cap,cur,rfl,hb,hg,hnc,hcm,by simpa [Z8.k,Z9.k] using hcs,by simpa [Z8.k,Z9.k] using ht⟩⟩
theorem Z7V {zs:List Int} (hs:zs.Pairwise (·≤·)):(Lib.compact zs).Pairwise (· < ·)∧∀ y,y∈Lib.compact zs↔y∈zs:=by
 have hd:∀ i j,i≤j→j<zs.length→zs.toArray[i]!≤zs.toArray[j]!:=by
  intro i j hij hj
  rcases Nat.lt_or_eq_of_le hij with h|rfl
  have:=List.pairwise_iff_getElem.1 hs i j (by omega) hj h
  simpa [getElem!_pos,hj,show i<zs.length by omega] using this
  exact Yak _
 have key:∀ m,m≤zs.length→(Lib.compactUpTo zs.toArray m).Pairwise (· < ·)∧∀ y,y∈Lib.compactUpTo zs.toArray m↔∃ i,i<m∧y=zs.toArray[i]!:=by
  intro m
  induction m with
  | zero=>intro _;refine ⟨by simp [Lib.compactUpTo],fun y=>by simp [Lib.compactUpTo]⟩
  | succ m ih=>
    intro hm
    obtain ⟨i1,i2⟩:=ih (by omega)
    rw [Lib.compactUpTo_succ]
    by_cases hk:Lib.keeps zs.toArray m=true
    rw [if_pos hk]
    refine ⟨List.pairwise_append.2 ⟨i1,List.pairwise_singleton _ _,fun a ha b hb=>?_⟩,fun y=>?_⟩
    obtain ⟨i,hi,rfl⟩:=(i2 a).1 ha
    rw [Xp.1 hb]
    have hk':m=0∨zs.toArray[m]!≠zs.toArray[m - 1]!:=by simpa [Lib.keeps] using hk
    have h1:=hd i (m - 1) (by omega) (by omega)
    have h2:=hd (m - 1) m (by omega) (by omega)
    have h3:=hk'.resolve_left (by omega)
    omega
    rw [Xs,i2,Xp]
    constructor
    rintro (⟨i,hi,rfl⟩|rfl)
    exact ⟨i,by omega,rfl⟩
    exact ⟨m,by omega,rfl⟩
    rintro ⟨i,hi,rfl⟩
    by_cases hi':i<m
    exact .inl ⟨i,hi',rfl⟩
    exact .inr (by rw [show i=m by omega])
    rw [if_neg hk,XI]
    have hk':¬ (m=0∨zs.toArray[m]!≠zs.toArray[m - 1]!):=by simpa [Lib.keeps] using hk
    have hm0:m≠0:=fun h=>hk' (.inl h)
    have he:zs.toArray[m]! = zs.toArray[m - 1]!:=Decidable.byContradiction fun h=>hk' (.inr h)
    refine ⟨i1,fun y=>?_⟩
    rw [i2]
    constructor
    rintro ⟨i,hi,rfl⟩
    exact ⟨i,by omega,rfl⟩
    rintro ⟨i,hi,rfl⟩
    by_cases hi':i<m
    exact ⟨i,hi',rfl⟩
    exact ⟨m - 1,by omega,by rw [show i=m by omega,he]⟩
 obtain ⟨h1,h2⟩:=key zs.length (Xl _)
 refine ⟨h1,fun y=>?_⟩
 show y∈Lib.compactUpTo zs.toArray zs.length↔_
 rw [h2]
 constructor
 rintro ⟨i,hi,rfl⟩
 simp [getElem!_pos,hi]
 intro h
 obtain ⟨i,hi,rfl⟩:=Xr h
 exact ⟨i,hi,by simp [getElem!_pos,hi]⟩
def Z5Z (zs:List Int):List Int:=Lib.compact (zs.mergeSort fun x y=>decide (x≤y))
theorem Zar (zs:List Int):(Z5Z zs).Pairwise (· < ·)∧∀ y,y∈Z5Z zs↔y∈zs:=by
 have hp:(zs.mergeSort fun x y=>decide (x≤y)).Pairwise (·≤·):=by
  have:=List.pairwise_mergeSort (le:=fun (x y:Int)=>decide (x≤y)) (fun a b c h1 h2=>by simp at *;omega) (fun a b=>by simp;omega) zs
  exact this.imp (fun h=>by simpa using h)
 obtain ⟨h1,h2⟩:=Z7V hp
 exact ⟨h1,fun y=>by unfold Z5Z;rw [h2];exact (List.mergeSort_perm zs _).mem_iff⟩
theorem Z98 {g q:Nat} {cur:Array Value} (os:Array Obj) (h:w.heap[g]?=some (.cells cur T (0,0))) (hl:ys.length≤cur.size) :
 Stp [g] w (Go.Sort.grow (Go.Sort.putRow (Value.int .i64) (Go.Sort.ahead w q) g 0 ys.toArray) os)∧
 ∃ cur',(Go.Sort.grow (Go.Sort.putRow (Value.int .i64) (Go.Sort.ahead w q) g 0 ys.toArray) os).heap[g]?=some (.cells cur' T (0,0))∧cur'.size=cur.size∧cur'.toList.take ys.length=ys.map (Value.int .i64):=by
 have hlt:g<w.heap.size:=(Xk.1 h).1
 have hh:(Go.Sort.grow (Go.Sort.putRow (Value.int .i64) (Go.Sort.ahead w q) g 0 ys.toArray) os).heap=w.heap.modify g (Go.Sort.onCells (Go.Sort.putCells (Value.int .i64) 0 ys.toArray))++os:=rfl
 refine ⟨⟨rfl,rfl,rfl,by rw [hh];simp,fun b hb hn=>?_⟩,Go.Sort.putCells (Value.int .i64) 0 ys.toArray cur,?_,by simp [Go.Sort.putCells],?_⟩
 rw [hh,Yag (by simpa using hb),Array.getElem?_modify,if_neg (by simp at hn;exact fun e=>hn e.symm)]
 rw [hh,Yag (by simpa using hlt),Array.getElem?_modify,if_pos rfl,h]
 rfl
 apply YaD
 simp [Go.Sort.putCells];omega
 intro i h1 h2
 have hi:i<ys.length:=by simpa using h2
 simp [Go.Sort.putCells,hi]
theorem Z6Y {g:Nat} {cur:Array Value} (h:w.heap[g]?=some (.cells cur T (0,0))) (ht:cur.toList.take zs.length=zs.map (Value.int .i64)):Go.Sort.Holds (Value.int .i64) w g 0 zs.toArray:=by
 intro j hj
 have hj':j<zs.length:=by simpa using hj
 have hc:cur[j]?=some (.int .i64 zs[j]):=by
  have h1:(cur.toList.take zs.length)[j]?=some (.int .i64 zs[j]):=by rw [ht];simp [hj']
  rw [X7,if_pos hj'] at h1
  simpa using h1
 constructor
 simp [World.cell?,h,hc,hj']
 simp [World.frozen?,h]
end Go.Eng
namespace Go.Proofs.YtjdjdoefppebkaaGreatDoor
open Go Go.Eng Go.RowKit
theorem Zef {X:List Nat} {base T:Nat} {v:Value} {zs:List Int} (w:World) (h:Row X w base T v zs) (hsz:zs.length<4611686018427387904) :
 CC 82 #[v] w fun r w'=>r=.tuple #[]∧Row X w' base T v (zs.mergeSort fun x y=>decide (x≤y))∧Stp (ob v) w w':=by
 rcases h.toI with ⟨rfl,rfl⟩|⟨g,cap,cur,rfl,hb,hg,hnc,hcm,hcs,ht⟩
 refine (Tryz.slices_Sort_int_none none 0 w).mono ?_
 rintro _ _ ⟨rfl,rfl⟩
 exact .mk ⟨rfl,by simpa using Row.nil,Stp.refl _ _⟩
 have hlt:g<w.heap.size:=(Xk.1 hg).1
 refine (Tryz.slices_Sort_int g 0 cap zs w (Z6Y hg ht) hlt hsz).mono ?_
 rintro _ _ ⟨rfl,q,os,rfl⟩
 have hl:(zs.mergeSort fun x y=>decide (x≤y)).length=zs.length:=List.length_mergeSort zs
 obtain ⟨hS,cur',h1,h2,h3⟩:=Z98 (q:=q) os hg (ys:=zs.mergeSort fun x y=>decide (x≤y)) (by omega)
 refine .mk ⟨rfl,Zee.toRow (.inr ⟨g,cap,cur',by rw [hl],hb,h1,by omega,hcm,by omega,h3⟩),hS⟩
theorem Z99 {X:List Nat} {base T:Nat} {v:Value} {zs:List Int} (w:World) (h:Row X w base T v zs) (hsz:zs.length≤9223372036854775807) :
 CC 83 #[v] w fun r w'=>Row X w' base T r (Lib.compact zs)∧Stp (ob v) w w'∧ob r=ob v:=by
 rcases h.toI with ⟨rfl,rfl⟩|⟨g,cap,cur,rfl,hb,hg,hnc,hcm,hcs,ht⟩
 refine (Tryz.slices_Compact_int_empty none 0 w).mono ?_
 rintro _ _ ⟨rfl,rfl⟩
 exact .mk ⟨by rw [show Lib.compact ([]:List Int)=[] from rfl];exact Row.nil,Stp.refl _ _,rfl⟩
 refine (Tryz.slices_Compact_int g 0 cap zs w (Z6Y hg ht) hsz hnc).mono ?_
 rintro _ _ ⟨rfl,q,rfl⟩
 have hcl:(Lib.compact zs).length≤zs.length:=by
  unfold Lib.compact Lib.compactUpTo
  rw [Yab]
  exact Xj (YaR _ _) (by simp)
 have e:∀ W:World,W=Go.Sort.grow W #[]:=fun W=>by simp [Go.Sort.grow]
 rw [e (Go.Sort.putRow _ _ _ _ _)]
 obtain ⟨hS,cur',h1,h2,h3⟩:=Z98 (q:=q) #[] hg (ys:=Lib.compact zs++List.replicate (zs.length - (Lib.compact zs).length) 0) (by simp;omega)
 refine .mk ⟨Zee.toRow (.inr ⟨g,cap,cur',rfl,hb,h1,by omega,hcm,by omega,?_⟩),hS,rfl⟩
 have h4:=congrArg (List.take (Lib.compact zs).length) h3
 rw [Yah,X1 (by simp)] at h4
 rw [h4]
 simp
theorem Z60 (s:Str) (y:Int):((ZS s).2.2=true∧y=(ZS s).1)↔∃ i,i<7∧s=Zt.getD i []∧y=(i:Int):=by
 by_cases h0:s=[100,97,121]
 subst h0
 have e:ZS [100,97,121]=(0,3,true):=by decide +kernel
 have u:∀ i,i<7→[100,97,121]=Zt.getD i []→i=0:=by decide +kernel
 rw [e]
 constructor
 rintro ⟨-,rfl⟩;exact ⟨0,by decide,by decide +kernel,rfl⟩
 rintro ⟨i,hi,he,rfl⟩;rw [u i hi he];exact ⟨rfl,rfl⟩
 by_cases h1:s=[115,101,114,118,101,100]
 subst h1
 have e:ZS [115,101,114,118,101,100]=(1,3,true):=by decide +kernel
 have u:∀ i,i<7→[115,101,114,118,101,100]=Zt.getD i []→i=1:=by decide +kernel
 rw [e]
 constructor
 rintro ⟨-,rfl⟩;exact ⟨1,by decide,by decide +kernel,rfl⟩
 rintro ⟨i,hi,he,rfl⟩;rw [u i hi he];exact ⟨rfl,rfl⟩
 by_cases h2:s=[101,120,116,114,97]
 subst h2
 have e:ZS [101,120,116,114,97]=(2,1,true):=by decide +kernel
 have u:∀ i,i<7→[101,120,116,114,97]=Zt.getD i []→i=2:=by decide +kernel
 rw [e]
 constructor
 rintro ⟨-,rfl⟩;exact ⟨2,by decide,by decide +kernel,rfl⟩
 rintro ⟨i,hi,he,rfl⟩;rw [u i hi he];exact ⟨rfl,rfl⟩
 by_cases h3:s=[98,121]
 subst h3
 have e:ZS [98,121]=(3,1,true):=by decide +kernel
 have u:∀ i,i<7→[98,121]=Zt.getD i []→i=3:=by decide +kernel
 rw [e]
 constructor
 rintro ⟨-,rfl⟩;exact ⟨3,by decide,by decide +kernel,rfl⟩
 rintro ⟨i,hi,he,rfl⟩;rw [u i hi he];exact ⟨rfl,rfl⟩
 by_cases h4:s=[116,111]
 subst h4
 have e:ZS [116,111]=(4,1,true):=by decide +kernel
 have u:∀ i,i<7→[116,111]=Zt.getD i []→i=4:=by decide +kernel
 rw [e]
 constructor
 rintro ⟨-,rfl⟩;exact ⟨4,by decide,by decide +kernel,rfl⟩
 rintro ⟨i,hi,he,rfl⟩;rw [u i hi he];exact ⟨rfl,rfl⟩
 by_cases h5:s=[99,111,117,114,116]
 subst h5
 have e:ZS [99,111,117,114,116]=(5,1,true):=by decide +kernel
 have u:∀ i,i<7→[99,111,117,114,116]=Zt.getD i []→i=5:=by decide +kernel
 rw [e]
 constructor
 rintro ⟨-,rfl⟩;exact ⟨5,by decide,by decide +kernel,rfl⟩
 rintro ⟨i,hi,he,rfl⟩;rw [u i hi he];exact ⟨rfl,rfl⟩
 by_cases h6:s=[97,109,111,117,110,116]
 subst h6
 have e:ZS [97,109,111,117,110,116]=(6,1,true):=by decide +kernel
 have u:∀ i,i<7→[97,109,111,117,110,116]=Zt.getD i []→i=6:=by decide +kernel
 rw [e]
 constructor
 rintro ⟨-,rfl⟩;exact ⟨6,by decide,by decide +kernel,rfl⟩
 rintro ⟨i,hi,he,rfl⟩;rw [u i hi he];exact ⟨rfl,rfl⟩
 constructor
 rintro ⟨h,-⟩
 exfalso
 have hn:Zt.findIdx? (isS s)=none:=X4.2 fun x hx=>by
  simp only [Zt,Xe,Xm,or_false] at hx
  rcases hx with rfl|rfl|rfl|rfl|rfl|rfl|rfl<;>simp only [isS,decide_eq_false_iff_not]<;>intro e<;>first|exact (absurd e h0)|exact (absurd e.symm h0)|exact (absurd e h1)|exact (absurd e.symm h1)|exact (absurd e h2)|exact (absurd e.symm h2)|exact (absurd e h3)|exact (absurd e.symm h3)|exact (absurd e h4)|exact (absurd e.symm h4)|exact (absurd e h5)|exact (absurd e.symm h5)|exact (absurd e h6)|exact (absurd e.symm h6)|skip
 simp [ZS,idx,hn] at h
 · rintro ⟨i,hi,he,-⟩
   exfalso
   match i,hi with
   | 0,_=>exact h0 he
   | 1,_=>exact h1 he
   | 2,_=>exact h2 he
   | 3,_=>exact h3 he
   | 4,_=>exact h4 he
   | 5,_=>exact h5 he
   | 6,_=>exact h6 he
end Go.Proofs.YtjdjdoefppebkaaGreatDoor
namespace Go.Eng
open Go Go.RowKit Go.Proofs
section
variable {P:Program} {n:Nat} {e:Env} {w:World} {d:Option Nat} {ty:TypeId} {pos:String} {af:Array Edge} {g:Option (Nat×Bool)}
theorem Zgj {src dst:TypeId} {k k':IntKind} {x:Operand} {a:Int} {D:TypeDesc} [hs:Und P src D] [hd:Und P dst (.int k)] (hx:ev e x=some (.int k' a)) :
 PR P n ⟨d,.convert src dst x,ty,pos,af,g⟩ e w (.int k (k.wrap a)):=
 ⟨fun c ha => by
   have hk:P.intKind dst=k:=by simp [Program.intKind,hd.h]
   have:=run_convert_int (P:=P) w src dst k' a (by rw [hs.h];rfl) (by rw [hk];exact hd.h)
   simp [execOp,ha.ev hx,this,hk]⟩
theorem Z3l {src dst:TypeId} {k k':IntKind} {x:Operand} {a b:Int} {D:TypeDesc} [hs:Und P src D] [hd:Und P dst (.int k)] (hx:ev e x=some (.int k' a)) (hb:k.wrap a=b) :
 PR P n ⟨d,.convert src dst x,ty,pos,af,g⟩ e w (.int k b):=hb ▸ Zgj hx
section
variable {x y:Operand} {t u:TypeId} {k:IntKind} {a b:Int}
end
end
structure Fl where
 i:Nat
 d:Nat
 T:Nat
 z:Value
section rules
variable {P:Program} {n:Nat} {ops:Array Oper} {Lt:List Nat} {Q:Exit→Act→World→Prop} {F:List Fl} {rest join:List (Nat×Nat)} {e:Env} {J:World→List Nat→Prop}
variable {i d:Nat} {op:Op} {ty:TypeId} {pos:String} {af:Array Edge} {gd:Option (Nat×Bool)} {v:Value}
end rules
end Go.Eng
namespace Go.Proofs.YtjdjdoefppebkaaGreatDoor
open Go Go.Eng Go.RowKit
theorem Z3m {x y:Nd} (h:Zf x≠0) (hy:y∈x.kids):Zf y≠0:=by
 intro h0
 apply h
 rw [Z0x]
 unfold Ja
 split
 rfl
 rw [if_pos (by rw [← h0];exact Yac hy)]
def Seg (C:List Ins) (p:Nat) (c:List Ins):Prop:=∃ A B,C=A++c++B∧A.length=p
theorem Seg.left {C a b:List Ins} {p:Nat} (h:Seg C p (a++b)):Seg C p a:=by
 obtain ⟨A,B,rfl,hp⟩:=h
 exact ⟨A,b++B,by simp,hp⟩
theorem Seg.right {C a b:List Ins} {p:Nat} (h:Seg C p (a++b)):Seg C (p+a.length) b:=by
 obtain ⟨A,B,rfl,hp⟩:=h
 exact ⟨A++a,B,by simp,by simp [hp]⟩
theorem Seg.at {C r:List Ins} {x:Ins} {p:Nat} (h:Seg C p (x :: r)):C.getD p ⟨0,0⟩=x:=by
 obtain ⟨A,B,rfl,hp⟩:=h
 subst hp
 simp
def Z4f (C:List Ins):Nat→Nat→List (Option Shp)→Option (List (Option Shp))
 | _,0,st=>some st
 | p,k+1,st=>(Z0Q st p (C.getD p ⟨0,0⟩)).bind (Z4f C (p+1) k)
theorem Z1j (C:List Ins) (b:Nat):∀ (a p:Nat) (st:List (Option Shp)),Z4f C p (a+b) st=(Z4f C p a st).bind (Z4f C (p+a) b)
 | 0,p,st=>by simp [Z4f]
 | a + 1, p, st => by
   rw [show a+1+b=(a+b)+1 by omega,Z4f,Z4f]
   cases h:Z0Q st p (C.getD p ⟨0,0⟩) with
   | none=>rfl
   | some st'=>
     simp only [Option.bind_some]
     rw [Z1j C b a (p+1) st',show p+1+a=p+(a+1) by omega]
theorem Z30 (C:List Ins) (p:Nat) (st:List (Option Shp)):Z4f C p 1 st=Z0Q st p (C.getD p ⟨0,0⟩):=by
 rw [Z4f]
 cases Z0Q st p (C.getD p ⟨0,0⟩)<;>rfl
theorem Z6Z (C:List Ins) (st:List (Option Shp)):∀ k:Nat,Z3N C k st=Z4f C 0 k st
 | 0=>rfl
 | k + 1 => by
   rw [Z3N,Z1j,Z6Z C st k]
   cases Z4f C 0 k st with
   | none=>rfl
   | some st'=>simp only [Option.bind_some,X0];rw [Z30]
def Z27 (C:List Ins) (p:Nat) (c:List Ins) (s s':Shp):Prop:=
 ∀ st : List (Option Shp), st.length = C.length → p + c.length < C.length → st[p]? = some (some s) → (∀ i, p < i → i < p + c.length → st[i]? = some none)→
   (st[p+c.length]?=some none∨st[p+c.length]?=some (some s'))→
   ∃ st',Z4f C p c.length st=some st'∧st'.length=C.length∧st'[p+c.length]?=some (some s')∧∀ i,p+c.length<i→st'[i]?=st[i]?
theorem Z7W {st:List (Option Shp)} {t:Nat} {sh:Shp} (h:t<st.length) (h2:st[t]?=some none∨st[t]?=some (some sh)) :
 ∃ st',JE st (t:Int) sh=some st'∧st'.length=st.length∧st'[t]?=some (some sh)∧∀ i,i≠t→st'[i]?=st[i]?:=by
 unfold JE
 rw [if_pos (by omega),Yal,Xt]
 rcases h2 with h2|h2
 rw [h2]
 exact ⟨_,rfl,by simp,by simp [h],fun i hi=>List.getElem?_set_ne (fun e=>hi e.symm)⟩
 rw [h2]
 simp only [X9,if_pos]
 exact ⟨_,rfl,rfl,h2,fun _ _=>rfl⟩
theorem Z27.app {C a b:List Ins} {p:Nat} {s s1 s2:Shp} (ha:Z27 C p a s s1) (hb:Z27 C (p+a.length) b s1 s2) (h1:a≠[]) (h2:b≠[]):Z27 C p (a++b) s s2:=by
 intro st hl hlt h0 hn hq
 have l1:=Yad.2 h1
 have l2:=Yad.2 h2
 simp only [Xg] at hlt hn hq ⊢
 obtain ⟨st1,r1,e1,e2,e3⟩:=ha st hl (by omega) h0 (fun i hi hi2=>hn i hi (by omega)) (.inl (hn _ (by omega) (by omega)))
 obtain ⟨st2,r2,g1,g2,g3⟩:=hb st1 e1 (by omega) e2 (fun i hi hi2=>by rw [e3 i hi];exact hn i (by omega) (by omega)) (by rw [e3 _ (by omega),Yax];exact hq)
 refine ⟨st2,by rw [Z1j,r1];exact r2,g1,by rw [← Yax];exact g2,fun i hi=>by rw [g3 i (by omega),e3 i (by omega)]⟩
theorem Z4g {C:List Ins} {p:Nat} {x:Ins} {s s':Shp} (hs:Seg C p [x]) (h1:x.op≠24) (h2:x.op≠13) (h3:x.op≠14) (hx:Zv x s=some s'):Z27 C p [x] s s':=by
 intro st hl hlt h0 hn hq
 simp only [Xc,Xd,X0] at hlt hq ⊢
 obtain ⟨st',r1,r2,r3,r4⟩:=Z7W (st:=st) (t:=p+1) (sh:=s') (by omega) hq
 refine ⟨st',?_,by omega,r3,fun i hi=>r4 i (by omega)⟩
 rw [Z30,hs.at]
 unfold Z0Q
 rw [Xt,h0]
 simp only [X9,hx]
 rw [if_neg h1,if_neg h2,if_neg h3]
 exact r1
def Z28 (b:Nat):List Ins→Shp→Option Shp
 | [],s=>some s
 | x :: r, s => match Zv x s with
   | none=>none
   | some s'=>if s'.length≤b then Z28 b r s' else none
theorem Z10 {x:Ins} {ts r s:Shp} (h:Zv x ts=some r) (hl:s.length+r.length≤16):Zv x (s++ts)=some (s++r):=by
 unfold Zv at h ⊢
 dsimp only at h ⊢
 split at h
 rename_i hc
 obtain ⟨c1,c2,c3,c4⟩:=hc
 simp only [Xh] at h
 have e1:(s++ts).length - (ZP x).1.length=s.length+(ts.length - (ZP x).1.length):=by rw [Xg];omega
 have e2:(s++ts).drop (s.length+(ts.length - (ZP x).1.length))=ts.drop (ts.length - (ZP x).1.length):=by
  rw [List.drop_append,List.drop_of_length_le (by omega),XL]
  congr 1
  omega
 have e3:(s++ts).take (s.length+(ts.length - (ZP x).1.length))=s++ts.take (ts.length - (ZP x).1.length):=by
  rw [X8,Xu (by omega),show s.length+(ts.length - (ZP x).1.length) - s.length=ts.length - (ZP x).1.length by omega]
 rw [e1,e2,e3]
 have e4:s++ts.take (ts.length - (ZP x).1.length)++(ZP x).2.2.1=s++r:=by rw [XK,h]
 rw [e4,if_pos ⟨c1,by rw [Xg];omega,c3,by rw [Xg];omega⟩]
 cases h
theorem Z70 {C:List Ins} (b:Nat):∀ (L:List Ins) (p:Nat) (s ts r:Shp),L≠[]→Seg C p L→(∀ x∈L,x.op≠24∧x.op≠13∧x.op≠14)→Z28 b L ts=some r→s.length+b≤16→Z27 C p L (s++ts) (s++r)
 | [],_,_,_,_,h,_,_,_,_=>absurd rfl h
 | [x], p, s, ts, r, _, hs, ho, hf, hb => by
   obtain ⟨o1,o2,o3⟩:=ho x (by simp)
   unfold Z28 at hf
   cases hx:Zv x ts with
   | none=>rw [hx] at hf;cases hf
   | some s1=>
     rw [hx] at hf
     simp only at hf
     split at hf
     rename_i hl
     simp only [Z28,Xh] at hf
     subst hf
     exact Z4g hs o1 o2 o3 (Z10 hx (by omega))
     cases hf
 | x :: y :: L, p, s, ts, r, _, hs, ho, hf, hb => by
   obtain ⟨o1,o2,o3⟩:=ho x (by simp)
   rw [Z28] at hf
   cases hx:Zv x ts with
   | none=>rw [hx] at hf;cases hf
   | some s1=>
     rw [hx] at hf
     simp only at hf
     split at hf
     rename_i hl
     have hs1:Seg C p ([x]++(y :: L)):=hs
     exact Z27.app (a:=[x]) (Z4g hs1.left o1 o2 o3 (Z10 hx (by omega))) (Z70 b (y :: L) _ s s1 r (by simp) hs1.right (fun z hz=>ho z (by simp [hz])) hf hb) (by simp) (by simp)
     cases hf
theorem Z7X {C Lc Ly Ln:List Ins} {p:Nat} {s s':Shp} (t1 t2:Int)
 (hs:Seg C p (Lc++[⟨14,t1⟩]++Ly++[⟨13,t2⟩]++Ln)) (ht1:t1=((p+Lc.length+1+Ly.length+1:Nat):Int)) (ht2:t2=((p+Lc.length+1+Ly.length+1+Ln.length:Nat):Int))
 (hc:Z27 C p Lc s (s++[2])) (hy:Z27 C (p+Lc.length+1) Ly s s') (hn:Z27 C (p+Lc.length+1+Ly.length+1) Ln s s') (h1:Lc≠[]) (h2:Ly≠[]) (h3:Ln≠[]) (hl:s.length≤16) (hl':s'.length≤16) :
 Z27 C p (Lc++[⟨14,t1⟩]++Ly++[⟨13,t2⟩]++Ln) s s':=by
 intro st hlen hlt h0 hno hq
 have l1:=Yad.2 h1
 have l2:=Yad.2 h2
 have l3:=Yad.2 h3
 have hlen0:(Lc++[(⟨14,t1⟩:Ins)]++Ly++[(⟨13,t2⟩:Ins)]++Ln).length=Lc.length+(1+(Ly.length+(1+Ln.length))):=by simp only [Xg,Xc,Xd];omega
 rw [hlen0] at hlt hno hq ⊢
 have g14:C.getD (p+Lc.length) ⟨0,0⟩=⟨14,t1⟩:=(show Seg C (p+Lc.length) (⟨14,t1⟩ :: (Ly++[⟨13,t2⟩]++Ln)) from (show Seg C p (Lc++(⟨14,t1⟩ :: (Ly++[⟨13,t2⟩]++Ln))) by simpa using hs).right).at
 have g13:C.getD (p+Lc.length+1+Ly.length) ⟨0,0⟩=⟨13,t2⟩:=by
  have h:=(show Seg C p ((Lc++[⟨14,t1⟩]++Ly)++(⟨13,t2⟩ :: Ln)) by simpa using hs).right.at
  rw [← h]
  congr 1
  simp only [Xg,Xc,Xd]
  omega
 obtain ⟨st1,r1,e1,e2,e3⟩:=hc st hlen (by omega) h0 (fun i hi hi2=>hno i hi (by omega)) (.inl (hno _ (by omega) (by omega)))
 have n14:Zv ⟨14,t1⟩ (s++[2])=some s:=by
  have:=Z10 (x:=⟨14,t1⟩) (ts:=[2]) (r:=[]) (s:=s) (by simp [Zv,ZP]) (by simpa using hl)
  simpa using this
 obtain ⟨st2,q1,q2,q3,q4⟩:=Z7W (st:=st1) (t:=p+Lc.length+1+Ly.length+1) (sh:=s) (by omega) (.inl (by rw [e3 _ (by omega)];exact hno _ (by omega) (by omega)))
 obtain ⟨st3,u1,u2,u3,u4⟩:=Z7W (st:=st2) (t:=p+Lc.length+1) (sh:=s) (by omega) (.inl (by rw [q4 _ (by omega),e3 _ (by omega)];exact hno _ (by omega) (by omega)))
 have s14:Z4f C (p+Lc.length) 1 st1=some st3:=by
  rw [Z30,g14]
  unfold Z0Q
  rw [Xt,e2]
  simp only [X9,n14]
  rw [if_neg (by simp),if_neg (by simp),if_pos trivial,if_pos (by omega),ht1,q1]
  simp only [Option.bind_some]
  rw [← u1]
  congr 1
 obtain ⟨st4,v1,v2,v3,v4⟩:=hy st3 (by omega) (by omega) u3 (fun i hi hi2=>by rw [u4 i (by omega),q4 i (by omega),e3 i (by omega)];exact hno i (by omega) (by omega)) (.inl (by rw [u4 _ (by omega),q4 _ (by omega),e3 _ (by omega)];exact hno _ (by omega) (by omega)))
 have n13:Zv ⟨13,t2⟩ s'=some s':=by
  simp [Zv,ZP,hl']
 have hq4:st4[p+Lc.length+1+Ly.length+1+Ln.length]?=st[p+(Lc.length+(1+(Ly.length+(1+Ln.length))))]?:=by
  rw [v4 _ (by omega),u4 _ (by omega),q4 _ (by omega),e3 _ (by omega)]
  congr 1
  omega
 obtain ⟨st5,w1,w2,w3,w4⟩:=Z7W (st:=st4) (t:=p+Lc.length+1+Ly.length+1+Ln.length) (sh:=s') (by omega) (by rw [hq4];exact hq)
 have s13:Z4f C (p+Lc.length+1+Ly.length) 1 st4=some st5:=by
  rw [Z30,g13]
  unfold Z0Q
  rw [Xt,v3]
  simp only [X9,n13]
  rw [if_neg (by simp),if_pos trivial,if_pos (by omega),ht2,w1]
 obtain ⟨st6,x1,x2,x3,x4⟩:=hn st5 (by omega) (by omega) (by rw [w4 _ (by omega),v4 _ (by omega),u4 _ (by omega)];exact q3) (fun i hi hi2=>by rw [w4 i (by omega),v4 i (by omega),u4 i (by omega),q4 i (by omega),e3 i (by omega)];exact hno i (by omega) (by omega)) (.inr w3)
 refine ⟨st6,?_,x2,?_,fun i hi=>by rw [x4 i (by omega),w4 i (by omega),v4 i (by omega),u4 i (by omega),q4 i (by omega),e3 i (by omega)]⟩
 rw [Z1j,r1,Option.bind_some,Z1j,s14,Option.bind_some,Z1j,v1,Option.bind_some,Z1j,s13,Option.bind_some]
 exact x1
 rw [← x3]
 congr 1
 omega
theorem Zgk {x:Sig} (h:Z4K x≠0):(x,Value.int .i64 (Z4K x))∈Z3L:=by
 have hs:=ZdQ x
 unfold Z4K ZdP Z4H at *
 cases hf:Z3L.find? (fun p=>decide (p.1=x)) with
 | none=>rw [hf] at h;simp at h
 | some p=>
   have h1:=YaE hf
   have h2:=List.find?_some hf
   simp only [decide_eq_true_eq] at h2
   rw [hf] at hs
   simp only at hs ⊢
   rw [← hs,← h2]
   exact h1
theorem Z71 {x:Sig} (h:Z4K x≠0):∃ e∈Z3L,x=e.1∧e.2=.int .i64 (Z4K x):=⟨_,Zgk h,rfl,rfl⟩
theorem Zbi {ts:List Int} (h0:(0:Int)∉ts) (h3:ts.length≤3) (hn:ts≠[]) (h2:ts.getD 2 0=0):(ts.getD 1 0=0∧ts=[ts.getD 0 0])∨(ts.getD 1 0≠0∧ts=[ts.getD 0 0,ts.getD 1 0]):=by
 match ts,h3 with
 | [],_=>exact absurd rfl hn
 | [a],_=>left;exact ⟨rfl,rfl⟩
 | [a,b],_=>right;refine ⟨fun hb=>h0 ?_,rfl⟩;simp at hb;simp [hb]
 | [a,b,c],_=>exact absurd (by simp at h2;simp [h2]) h0
theorem Z5j {k n:Int} {s:Str} {ts:List Int} (h:Ja k n s ts≠0) :
 (ts=[]∧Ja k n s ts=Z0w k n s)∨
 ((0:Int)∉ts∧ts.length≤3∧ts≠[]∧((k=9∧ts=[2,Ja k n s ts,Ja k n s ts])∨(k=6∧ts.getD 2 0=0∧Ja k n s ts=Z2U s (ts.getD 0 0) (ts.getD 1 0))∨(Ja k n s ts=Z4K ⟨k,s,ts.getD 0 0,ts.getD 1 0,ts.getD 2 0⟩))):=by
 unfold Ja at h ⊢
 split at h
 exact absurd rfl h
 rename_i h3
 split at h
 exact absurd rfl h
 rename_i h0
 rw [if_neg h3,if_neg h0]
 split at h
 rename_i he
 left
 exact ⟨he,by rw [if_pos he]⟩
 rename_i he
 right
 rw [if_neg he]
 refine ⟨h0,by omega,he,?_⟩
 split at h
 exact absurd rfl h
 rename_i hn
 rw [if_neg hn]
 split at h
 · rename_i h9
   left
   rw [if_pos h9]
   refine ⟨h9.1,?_⟩
   obtain ⟨_,_,e2,e3⟩:=h9
   match ts,h3 with
   | [],_=>exact absurd rfl he
   | [a],_=>simp at e2 e3 h
   | [a,b],_=>simp at e2 e3 h;exact absurd e3 h
   | [a,b,c],_=>simp at e2 e3 ⊢;exact ⟨e2,e3.symm⟩
   | a :: b :: c :: d :: r,h3=>simp at h3
 rename_i h9
 rw [if_neg h9]
 split at h
 rename_i h6
 right;left
 rw [if_pos h6]
 exact ⟨h6.1,h6.2,rfl⟩
 rename_i h6
 right;right
 rw [if_neg h6]
theorem Z7Y {α:Type} {l:List α} (h:l.length=2):∃ a b,l=[a,b]:=by
 match l,h with
 | [a,b],_=>exact ⟨a,b,rfl⟩
theorem Zbj {α:Type} {l:List α} (h:l.length=3):∃ a b c,l=[a,b,c]:=by
 match l,h with
 | [a,b,c],_=>exact ⟨a,b,c,rfl⟩
theorem Z9a (x:Nd):Zf x≠0→∀ p,Zn x p≠[]:=by
 induction x using Nd.ind with
 | h k n s l ih=>
 intro ht p
 have hk:∀ y∈l,Zf y≠0:=fun y hy=>Z3m (x:=.mk k n s l) ht hy
 rw [Zn]
 unfold Z26
 have hp:∀ p,l≠[]→Z2t k s (l.map Zn) p≠[]:=by
  intro p hl
  unfold Z2t
  cases l with
  | nil=>exact absurd rfl hl
  | cons y r=>
    have:=ih y (by simp) (hk y (by simp)) p
    simp only [Xn,JD]
    intro h
    simp only [YaN] at h
    exact this h.1.1.1
 split
 simp
 rename_i hl
 have hl':l≠[]:=fun h=>hl (by rw [h];rfl)
 split
 unfold chC;simp
 split
 unfold chC;simp
 split
 unfold chC;simp
 split
 simp
 exact hp p hl'
theorem Z9b {C:List Ins}:∀ (l:List Nd),(∀ y∈l,∀ p s,Seg C p (Zn y p)→s.length+Zp y≤16→Z27 C p (Zn y p) s (s++[Zf y]))→(∀ y∈l,∀ p,Zn y p≠[])→
 ∀ p s,l≠[]→Seg C p (JD (l.map Zn) p)→(∀ y∈l,s.length+(l.length - 1)+Zp y≤16)→Z27 C p (JD (l.map Zn) p) s (s++l.map Zf)
 | [],_,_,_,_,h,_,_=>absurd rfl h
 | [y], hr, hne, p, s, _, hs, hb => by
   have e:JD ([y].map Zn) p=Zn y p:=by simp [JD]
   rw [e] at hs ⊢
   exact hr y (by simp) p s hs (by have:=hb y (by simp);simpa using this)
 | y :: z :: l, hr, hne, p, s, _, hs, hb => by
   have e:JD ((y :: z :: l).map Zn) p=Zn y p++JD ((z :: l).map Zn) (p+(Zn y p).length):=by simp [JD]
   rw [e] at hs ⊢
   have h1:=hr y (by simp) p s hs.left (by have:=hb y (by simp);omega)
   have h2:=Z9b (z :: l) (fun y hy=>hr y (by simp [hy])) (fun y hy=>hne y (by simp [hy])) (p+(Zn y p).length) (s++[Zf y]) (by simp) hs.right (fun w hw=>by
    have:=hb w (by simp [hw])
    simp only [Xg,Xc,Xd] at this ⊢
    omega)
   have h3:JD ((z :: l).map Zn) (p+(Zn y p).length)≠[]:=by
    simp only [Xn,JD]
    intro h
    simp only [YaN] at h
    exact hne z (by simp) _ h.1
   have:=Z27.app h1 h2 (hne y (by simp) p) h3
   simpa using this
theorem Z1F {C:List Ins} {l:List Nd} {L:List Ins} {p:Nat} {s ts r:Shp} (hr:∀ y∈l,∀ p s,Seg C p (Zn y p)→s.length+Zp y≤16→Z27 C p (Zn y p) s (s++[Zf y])) (hne:∀ y∈l,∀ p,Zn y p≠[])
 (hts:l.map Zf=ts) (hl:l≠[]) (hL:L≠[]) (hs:Seg C p (JD (l.map Zn) p++L)) (hb:∀ y∈l,s.length+(l.length - 1)+Zp y≤16) (ho:∀ x∈L,x.op≠24∧x.op≠13∧x.op≠14) (hf:Z28 2 L ts=some r) (h2:s.length+2≤16) :
 Z27 C p (JD (l.map Zn) p++L) s (s++r):=by
 have h1:=Z9b l hr hne p s hl hs.left hb
 rw [hts] at h1
 have h3:JD (l.map Zn) p≠[]:=by
  cases l with
  | nil=>exact absurd rfl hl
  | cons y l=>
    simp only [Xn,JD]
    intro h
    simp only [YaN] at h
    exact hne y (by simp) _ h.1
 exact Z27.app h1 (Z70 2 L _ s ts r hL hs.right ho hf h2) h3 hL
def Z3O (k:Int) (s:Str):List Ins:=(if k=8∨k=5∧s=[45] then [⟨8,0⟩] else [])++Z3M (opF s)
theorem Z3n (k:Int) (s:Str) (cs:List Cf) (p:Nat):Z2t k s cs p=JD cs p++Z3O k s:=by unfold Z2t Z3O;rw [XK]
def okL (L:List Ins) (ts:List Int) (t:Int):Bool:=decide (L≠[]) && L.all (fun x=>decide (x.op≠24∧x.op≠13∧x.op≠14)) && decide (Z28 2 L ts=some [t])
theorem Z31 {L:List Ins} {ts:List Int} {t:Int} (h:okL L ts t=true):L≠[]∧(∀ x∈L,x.op≠24∧x.op≠13∧x.op≠14)∧Z28 2 L ts=some [t]:=by
 unfold okL at h
 simp only [Xi,decide_eq_true_eq,XH] at h
 exact ⟨h.1.1,h.1.2,h.2⟩
def Zhi (e:Zg9):Bool:=
 match e.2 with
 | .int .i64 t=>decide (e.1.kind≠9) && decide (e.1.kind≠6) && decide (e.1.c=0) && okL (Z3O e.1.kind e.1.s) (if e.1.b=0 then [e.1.a] else [e.1.a,e.1.b]) t
 | _=>false
theorem Zgl:Z3L.all Zhi=true:=by decide +kernel
theorem Zeg:JS.all (fun s=>okL (Z3O 6 s++(if s=[45] then [⟨6,0⟩] else [])) [1,1] 1 && !decide (s=[97,110,100]) && !decide (s=[111,114]))=true:=by decide +kernel
theorem Zgm:Z1C.all (fun s=>okL (Z3O 6 s) [1,1] 2 && okL (Z3O 6 s) [3,3] 2 && !decide (s=[97,110,100]) && !decide (s=[111,114]) && !decide (s=[45]))=true:=by decide +kernel
theorem Zcb (C:List Ins) (x:Nd):Zf x≠0→∀ p s,Seg C p (Zn x p)→s.length+Zp x≤16→Z27 C p (Zn x p) s (s++[Zf x]):=by
 induction x using Nd.ind with
 | h k n s l ih=>
 intro ht p sh hs hb
 have hk:∀ y∈l,Zf y≠0:=fun y hy=>Z3m (x:=.mk k n s l) ht hy
 have hr:∀ y∈l,∀ p s,Seg C p (Zn y p)→s.length+Zp y≤16→Z27 C p (Zn y p) s (s++[Zf y]):=fun y hy=>ih y hy (hk y hy)
 have hne:∀ y∈l,∀ p,Zn y p≠[]:=fun y hy=>Z9a y (hk y hy)
 have hnest:∀ y∈l,Zp y+1≤Zp (.mk k n s l):=fun y hy=>by have:=Z0y (x:=.mk k n s l) hy;omega
 have hrange:=Z1P (.mk k n s l)
 have hteq:Zf (.mk k n s l)=Ja k n s (l.map Zf):=Z0x _
 rw [Zn] at hs ⊢
 rw [hteq] at ht hrange ⊢
 rcases Z5j ht with ⟨he,hc⟩|⟨h0,h3,hn0,hc⟩
 ·
   have hl:l=[]:=by simpa using he
   subst hl
   unfold Z26 at hs ⊢
   rw [if_pos (show (List.map Zn ([]:List Nd)).length=0 from rfl)] at hs ⊢
   rw [hc] at ht ⊢
   have hlen:sh.length+1≤16:=by
    have:1≤Zp (.mk k n s []):=by rw [Z0d];omega
    omega
   refine Z4g hs ?_ ?_ ?_ ?_
   unfold Z1Q;split<;>(try split)<;>(try split)<;>simp
   unfold Z1Q;split<;>(try split)<;>(try split)<;>simp
   unfold Z1Q;split<;>(try split)<;>(try split)<;>simp
   have hnx:Zv (Z1Q k n s) []=some [Z0w k n s]:=by
    unfold Z0w at ht ⊢
    unfold Z1Q
    by_cases k4:k=4
    subst k4
    rw [if_pos rfl] at ht ⊢
    split at ht
    · rename_i hn
      rw [if_pos hn]
      have hf:((ZS s).2.1=3∧((ZS s).1=0∨(ZS s).1=1))∨((ZS s).2.1=1∧2≤(ZS s).1∧(ZS s).1<7):=by
       have h1:(ZS s).2.2=true:=by
        cases hb:(ZS s).2.2 with
        | true=>rfl
        | false=>exact absurd (Z4J hb) ht
       obtain ⟨i,hi,hsn,_⟩:=(Z60 s (ZS s).1).1 ⟨h1,rfl⟩
       subst hsn
       match i,hi with
       | 0,_=>decide +kernel
       | 1,_=>decide +kernel
       | 2,_=>decide +kernel
       | 3,_=>decide +kernel
       | 4,_=>decide +kernel
       | 5,_=>decide +kernel
       | 6,_=>decide +kernel
      rw [if_neg (by decide),if_neg (by decide),if_neg (by decide)]
      rcases hf with ⟨e1,e2⟩|⟨e1,e2,e3⟩
      simp [Zv,ZP,e1,e2];omega
      simp [Zv,ZP,e1];omega
    exact absurd rfl ht
    rw [if_neg k4] at ht ⊢
    split at ht
    exact absurd rfl ht
    rename_i hs0
    rw [if_neg hs0]
    by_cases k1:k=1
    rw [if_pos k1] at ht ⊢
    rw [if_pos k1]
    split at ht
    rename_i h;rw [if_pos h];simp [Zv,ZP];omega
    exact absurd rfl ht
    rw [if_neg k1] at ht ⊢
    rw [if_neg k1]
    by_cases k2:k=2
    rw [if_pos k2] at ht ⊢
    rw [if_pos k2]
    split at ht
    rename_i h;rw [if_pos h];simp [Zv,ZP];omega
    exact absurd rfl ht
    rw [if_neg k2] at ht ⊢
    rw [if_neg k2]
    by_cases k3:k=3
    rw [if_pos k3] at ht ⊢
    rw [if_pos k3]
    split at ht
    rename_i h;rw [if_pos h];simp [Zv,ZP];omega
    exact absurd rfl ht
    rw [if_neg k3] at ht;exact absurd rfl ht
   have:=Z10 (s:=sh) hnx (by simpa using hlen)
   simpa using this
 · have hl:l≠[]:=fun h=>hn0 (by rw [h];rfl)
   have hlen:l.length≤3:=by simpa using h3
   have hlen0:¬ (l.map Zn).length=0:=by simpa using hl
   unfold Z26 at hs ⊢
   rw [if_neg hlen0] at hs ⊢
   rcases hc with ⟨h9,hts⟩|⟨h6,hg2,hbt⟩|hsg
   ·
     rw [if_pos h9] at hs ⊢
     generalize Ja k n s (l.map Zf)=t at *
     have hl3:l.length=3:=by have:=congrArg List.length hts;simpa using this
     obtain ⟨a,b,c,rfl⟩:=Zbj hl3
     simp only [Xn,Xx,Yaw,and_true] at hts
     obtain ⟨ta,tb,tc⟩:=hts
     simp only [Xn,Xx,Xz,XR] at hs ⊢
     unfold chC at hs ⊢
     have na:=hnest a (by simp)
     have nb:=hnest b (by simp)
     have nc:=hnest c (by simp)
     refine Z7X _ _ hs rfl rfl ?_ ?_ ?_ (hne a (by simp) _) (hne b (by simp) _) (hne c (by simp) _) (by omega) (by simp only [Xg,Xc,Xd];omega)
     rw [← ta]
     exact hr a (by simp) p sh (by have:=hs.left.left.left.left;exact this) (by omega)
     rw [← tb]
     have h2:=hs.left.left.right
     simp only [Xg,Xc,Xd] at h2
     exact hr b (by simp) _ sh h2 (by omega)
     rw [← tc]
     have h2:=hs.right
     simp only [Xg,Xc,Xd] at h2
     have e:p+((Zn a p).length+(0+1)+(Zn b (p+(Zn a p).length+1)).length+(0+1))=p+(Zn a p).length+1+(Zn b (p+(Zn a p).length+1)).length+1:=by omega
     rw [e] at h2
     exact hr c (by simp) _ sh h2 (by omega)
   ·
     subst h6
     rw [if_neg (by decide)] at hs ⊢
     rcases Zbi h0 h3 hn0 hg2 with ⟨hb0,hts⟩|⟨hb0,hts⟩
     exfalso
     apply ht
     rw [hbt,hb0]
     have ha0:(l.map Zf).getD 0 0≠0:=fun h=>h0 (by rw [hts,h];simp)
     unfold Z2U
     split
     rw [if_neg (by omega)]
     split
     rw [if_neg (by omega)]
     split
     rw [if_neg (by omega)]
     rfl
     have hl2:l.length=2:=by have:=congrArg List.length hts;simpa using this
     obtain ⟨a,b,rfl⟩:=Z7Y hl2
     simp only [Xn,Xx,Xz,XR] at hbt
     have na:=hnest a (by simp)
     have nb:=hnest b (by simp)
     have ra:=Z1P a
     have hbnd:∀ y∈[a,b],sh.length+([a,b].length - 1)+Zp y≤16:=fun y hy=>by
      have:=hnest y hy
      simp only [Xc,Xd]
      omega
     have h2:sh.length+2≤16:=by
      have:1≤Zp a:=by rw [Z0d];omega
      omega
     by_cases hA:s∈JS
     have hok:=XH.1 Zeg s hA
     simp only [Xi,Bool.not_eq_true',decide_eq_false_iff_not] at hok
     obtain ⟨⟨hok,hand⟩,hor⟩:=hok
     obtain ⟨o1,o2,o3⟩:=Z31 hok
     have hab:Zf a=Zf b∧Zf a=1:=by
      unfold Z2U at hbt
      rw [if_pos hA] at hbt
      split at hbt
      assumption
      exact absurd hbt ht
     have ht1:Ja 6 n s ([a,b].map Zf)=1:=by
      show Ja 6 n s [Zf a,Zf b]=1
      rw [hbt];unfold Z2U;rw [if_pos hA,if_pos hab]
     rw [ht1]
     rw [if_neg (by intro h;exact hand h.2),if_neg (by intro h;exact hor h.2)] at hs ⊢
     split at hs
     rename_i hm
     rw [if_pos hm]
     rw [Z3n,XK] at hs ⊢
     rw [if_pos hm.2] at o1 o2 o3
     exact Z1F hr hne (ts:=[1,1]) (by simp [hab.2,← hab.1]) (by simp) o1 hs hbnd o2 o3 h2
     rename_i hm
     rw [if_neg hm]
     have hm':¬ s=[45]:=fun h=>hm ⟨rfl,h⟩
     rw [if_neg hm',XI] at o1 o2 o3
     rw [Z3n] at hs ⊢
     exact Z1F hr hne (ts:=[1,1]) (by simp [hab.2,← hab.1]) (by simp) o1 hs hbnd o2 o3 h2
     by_cases hC:s∈Z1C
     have hok:=XH.1 Zgm s hC
     simp only [Xi,Bool.not_eq_true',decide_eq_false_iff_not] at hok
     obtain ⟨⟨⟨⟨hok1,hok3⟩,hand⟩,hor⟩,hmi⟩:=hok
     have hab:Zf a=Zf b∧¬ Zf a=2:=by
      unfold Z2U at hbt
      rw [if_neg hA,if_pos hC] at hbt
      split at hbt
      assumption
      exact absurd hbt ht
     have ht2:Ja 6 n s ([a,b].map Zf)=2:=by
      show Ja 6 n s [Zf a,Zf b]=2
      rw [hbt];unfold Z2U;rw [if_neg hA,if_pos hC,if_pos hab]
     rw [ht2]
     rw [if_neg (by intro h;exact hand h.2),if_neg (by intro h;exact hor h.2),if_neg (by intro h;exact hmi h.2),Z3n] at hs ⊢
     have ka:=hk a (by simp)
     have h13:Zf a=1∨Zf a=3:=by omega
     rcases h13 with h|h
     obtain ⟨o1,o2,o3⟩:=Z31 hok1
     exact Z1F hr hne (ts:=[1,1]) (by simp [h,← hab.1]) (by simp) o1 hs hbnd o2 o3 h2
     obtain ⟨o1,o2,o3⟩:=Z31 hok3
     exact Z1F hr hne (ts:=[3,3]) (by simp [h,← hab.1]) (by simp) o1 hs hbnd o2 o3 h2
     have hL:s∈JT:=by
      by_cases hL:s∈JT
      exact hL
      exfalso;apply ht;show Ja 6 n s [Zf a,Zf b]=0;rw [hbt];unfold Z2U;rw [if_neg hA,if_neg hC,if_neg hL]
     have hab:Zf a=Zf b∧Zf a=2:=by
      unfold Z2U at hbt
      rw [if_neg hA,if_neg hC,if_pos hL] at hbt
      split at hbt
      assumption
      exact absurd hbt ht
     have ht2:Ja 6 n s ([a,b].map Zf)=2:=by
      show Ja 6 n s [Zf a,Zf b]=2
      rw [hbt];unfold Z2U;rw [if_neg hA,if_neg hC,if_pos hL,if_pos hab]
     rw [ht2]
     have hconst:∀ (z:Int) (q:Nat),(z=0∨z=1)→Seg C q [⟨2,z⟩]→Z27 C q [⟨2,z⟩] sh (sh++[2]):=fun z q hz hsq=>by
      have hnx:Zv ⟨2,z⟩ []=some [2]:=by simp [Zv,ZP,hz]
      have:=Z10 (s:=sh) hnx (by simp only [Xc,Xd];omega)
      rw [XI] at this
      exact Z4g hsq (by simp) (by simp) (by simp) this
     simp only [JT,Xe,Xm,or_false] at hL
     rcases hL with hL|hL
     rw [if_pos ⟨rfl,hL⟩] at hs ⊢
     simp only [Xn,Xx,Xz,XR] at hs ⊢
     unfold chC at hs ⊢
     refine Z7X _ _ hs rfl rfl ?_ ?_ ?_ (hne a (by simp) _) (hne b (by simp) _) (by simp) (by omega) (by simp only [Xg,Xc,Xd];omega)
     have h1:=hr a (by simp) p sh hs.left.left.left.left (by omega)
     rw [hab.2] at h1
     exact h1
     have h2:=hs.left.left.right
     simp only [Xg,Xc,Xd] at h2
     have h1:=hr b (by simp) _ sh h2 (by omega)
     rw [← hab.1,hab.2] at h1
     exact h1
     have h2:=hs.right
     simp only [Xg,Xc,Xd] at h2
     have e:p+((Zn a p).length+(0+1)+(Zn b (p+(Zn a p).length+1)).length+(0+1))=p+(Zn a p).length+1+(Zn b (p+(Zn a p).length+1)).length+1:=by omega
     rw [e] at h2
     exact hconst 0 _ (.inl rfl) h2
     have hna:¬ ((6:Int)=6∧s=[97,110,100]):=by rintro ⟨_,h⟩;rw [hL] at h;exact absurd h (by decide)
     rw [if_neg hna,if_pos ⟨rfl,hL⟩] at hs ⊢
     simp only [Xn,Xx,Xz,XR] at hs ⊢
     unfold chC at hs ⊢
     refine Z7X _ _ hs rfl rfl ?_ ?_ ?_ (hne a (by simp) _) (by simp) (hne b (by simp) _) (by omega) (by simp only [Xg,Xc,Xd];omega)
     have h1:=hr a (by simp) p sh hs.left.left.left.left (by omega)
     rw [hab.2] at h1
     exact h1
     have h2:=hs.left.left.right
     simp only [Xg,Xc,Xd] at h2
     exact hconst 1 _ (.inr rfl) h2
     have h2:=hs.right
     simp only [Xg,Xc,Xd] at h2
     have e:p+((Zn a p).length+(0+1)+(0+1)+(0+1))=p+(Zn a p).length+1+(0+1)+1:=by omega
     rw [e] at h2
     have h1:=hr b (by simp) _ sh h2 (by omega)
     rw [← hab.1,hab.2] at h1
     exact h1
   ·
     obtain ⟨e,he,hxe,hev⟩:=Z71 (by rw [← hsg];exact ht)
     have hok:=XH.1 Zgl e he
     unfold Zhi at hok
     rw [hev] at hok
     simp only [Xi,decide_eq_true_eq] at hok
     obtain ⟨⟨⟨k9,k6⟩,hc0⟩,hokl⟩:=hok
     rw [← hxe] at k9 k6 hc0 hokl
     simp only at k9 k6 hc0 hokl
     obtain ⟨o1,o2,o3⟩:=Z31 hokl
     rw [if_neg k9,if_neg (by intro h;exact k6 h.1),if_neg (by intro h;exact k6 h.1),if_neg (by intro h;exact k6 h.1),Z3n] at hs ⊢
     rw [hsg]
     have hts:l.map Zf=(if (l.map Zf).getD 1 0=0 then [(l.map Zf).getD 0 0] else [(l.map Zf).getD 0 0,(l.map Zf).getD 1 0]):=by
      rcases Zbi h0 h3 hn0 hc0 with ⟨h1,h2⟩|⟨h1,h2⟩
      rw [if_pos h1];exact h2
      rw [if_neg h1];exact h2
     have hl2:l.length≤2:=by
      have:=congrArg List.length hts
      rw [Yab] at this
      split at this<;>simp only [Xc,Xd] at this<;>omega
     have h2:sh.length+2≤16:=by
      cases l with
      | nil=>exact absurd rfl hl
      | cons y r=>
        have:=hnest y (by simp)
        have:1≤Zp y:=by rw [Z0d];omega
        omega
     exact Z1F hr hne hts hl o1 hs (fun y hy=>by have:=hnest y hy;omega) o2 o3 h2
theorem Zcc (y:Nd) (ht:Zf y≠0) (hn:Zp y≤12) (hl:(Z1h y).length≤200):Z2u (Z1h y)=(Zf y,0):=by
 have hne:=Z9a y ht 0
 have hpos:=Yad.2 hne
 unfold Z1h at hl ⊢
 have hlen:(Zn y 0++[(⟨24,0⟩:Ins)]).length=(Zn y 0).length+1:=by simp
 have hr:=Zcb (Zn y 0++[⟨24,0⟩]) y ht 0 [] ⟨[],[⟨24,0⟩],by simp,rfl⟩ (by simp only [Xd];omega)
 obtain ⟨st,r1,r2,r3,_⟩:=hr ((some []) :: List.replicate ((Zn y 0++[(⟨24,0⟩:Ins)]).length - 1) none) (by simp) (by rw [hlen];omega) (by simp) (fun i hi hi2=>by
  cases i with
  | zero=>omega
  | succ i=>
    rw [Yaq,List.getElem?_replicate,if_pos (by rw [hlen];omega)]) (.inl (by
  rw [X0]
  obtain ⟨m,hm⟩:∃ m,(Zn y 0).length=m+1:=⟨(Zn y 0).length - 1,by omega⟩
  rw [hm,Yaq,List.getElem?_replicate,if_pos (by rw [hlen];omega)]))
 rw [X0] at r3
 rw [XL] at r3
 unfold Z2u
 rw [if_neg (by rw [hlen] at hl ⊢;omega)]
 have hrun:Z3N (Zn y 0++[⟨24,0⟩]) (Zn y 0++[(⟨24,0⟩:Ins)]).length ((some []) :: List.replicate ((Zn y 0++[(⟨24,0⟩:Ins)]).length - 1) none)=some st:=by
  rw [Z6Z]
  conv=>lhs;arg 3;rw [hlen]
  rw [Z1j,r1,Option.bind_some,X0,Z30]
  have hg:(Zn y 0++[(⟨24,0⟩:Ins)]).getD (Zn y 0).length ⟨0,0⟩=⟨24,0⟩:=by simp
  rw [hg]
  unfold Z0Q
  rw [Xt,r3]
  have hnx:Zv ⟨24,0⟩ [Zf y]=some [Zf y]:=by simp [Zv,ZP]
  simp only [X9,hnx]
  rw [if_pos trivial,if_pos (by constructor<;>simp [r2])]
 rw [hrun]
 have e:(Zn y 0++[(⟨24,0⟩:Ins)]).length - 1=(Zn y 0).length:=by rw [hlen];omega
 simp only [e]
 rw [Xt,r3]
 rfl
end Go.Proofs.YtjdjdoefppebkaaGreatDoor
namespace Go.Eng
open Go Go.RowKit Go.Proofs
def PQ (n:Nat) (Q:Exit→Act→World→Prop):Exit→Act→World→Prop
 | .panic ch,a,w=>Has n [] a∧∀ a',Has n [] a'→Q (.panic ch) a' w
 | _,_,_=>False
theorem Has.put_back {n:Nat} {a:Act} {d:Option Nat} {v:Value} (h:Has n [] (a.put d v)):Has n [] a:=by
 cases d with
 | none=>exact h
 | some d=>exact ⟨h.defers,by simpa [Act.put] using h.size,fun t v hv=>by simp [look] at hv⟩
theorem Zas {n:Nat} {Q:Exit→Act→World→Prop} (a:Act) (w:World):¬ PQ n Q .outgrown a w:=fun h=>h
theorem Zeh {n:Nat} {Q:Exit→Act→World→Prop} (ch:List PanicEntry) (a:Act) (d:Option Nat) (v:Value) (w:World) (h:PQ n Q (.panic ch) (a.put d v) w):PQ n Q (.panic ch) a w:=⟨h.1.put_back,h.2⟩
theorem ZkU {n:Nat} {Q:Exit→Act→World→Prop} (ex:Exit) (a:Act) (w:World) (h:PQ n Q ex a w):Q ex a w:=by
 cases ex<;>first|exact h.2 a h.1|exact h.elim
theorem ZkV {P:Program} {o:Oper} {a:Act} {w:World} {K:Act→World→Prop} {X Q:Exit→Act→World→Prop} (hX0:∀ a w,¬ X .outgrown a w) (hX:∀ ex a w,X ex a w→Q ex a w) (h:o.wp P a w K X):o.wp P a w K Q:=by
 unfold Oper.wp at *
 generalize (execOp a.eval o).run P w=r at *
 cases r with
 | ok n w'=>
   cases n<;>simp only [Oper.upon] at h ⊢
   case enter f args=>
    refine Calls.mono h (fun e w'' he=>?_)
    cases e with
    | returned v=>exact he
    | panicked c=>exact hX _ _ _ he
    | outgrown=>obtain ⟨_,_,hf⟩:=he;exact (hX0 _ _ hf).elim
   all_goals exact h
 | halt x w'=>cases x<;>simp only [Oper.upon] at h ⊢;exact hX _ _ _ h
theorem Zei {P:Program} {ops:Array Oper} {i:Nat} {K:Act→World→Prop} {X Q:Exit→Act→World→Prop} (hX0:∀ a w,¬ X .outgrown a w) (hX:∀ ex a w,X ex a w→Q ex a w) {a:Act} {w:World} (h:wpOp P ops X i K a w):wpOp P ops Q i K a w:=by
 unfold wpOp at *
 cases ho:ops[i]? with
 | none=>simp only [ho] at h ⊢;exact h
 | some o=>
   simp only [ho] at h ⊢
   split
   rename_i hw
   simp only [hw,if_true] at h
   rcases h with h|⟨_,_,_,hf⟩
   exact .inl (ZkV hX0 hX h)
   exact (hX0 _ _ hf).elim
   rename_i hw;simp only [hw] at h;exact h
def Z19 (P:Program) (X:Exit→Act→World→Prop) (md:Region.Mode) (ops:Array Oper) (S:List Nat) (Lt:Nat→Bool) (Z:Act→World→Prop):Nat→Array Bool→Act→World→Prop
 | 0,listed,a,w=>Region.ready md ops listed=[]∧Z a w
 | fuel + 1, listed, a, w=>
   (Region.ready md ops listed=[]→Z a w)∧
   ∀ i∈Region.ready md ops listed,wpOp P ops X i (fun a' w'=>(Stp S w w'∨Lt i=true)∧Z19 P X md ops S Lt Z fuel (listed.setIfInBounds i true) a' w') a w
theorem Z5k {P:Program} {ops:Array Oper} {md:Region.Mode} {S:List Nat} {Lt:Nat→Bool} {X Q:Exit→Act→World→Prop} (hX0:∀ a w,¬ X .outgrown a w) (hX:∀ ex a w,X ex a w→Q ex a w) {Z:Act→World→Prop} (hZ:∀ a w,Z a w→Q .normal a w):∀ (fuel:Nat) (listed:Array Bool) (a:Act) (w:World),
 Z19 P X md ops S Lt Z fuel listed a w→wpAny P md ops Q fuel listed a w
 | 0,_,_,_,h=>⟨h.1,hZ _ _ h.2⟩
 | fuel+1,_,_,_,h=>⟨fun h0=>hZ _ _ (h.1 h0),fun i hi=>wpOp_mono (fun a' w' hk=>Z5k hX0 hX hZ fuel _ a' w' hk.2) (Zei hX0 hX (h.2 i hi))⟩
section any
variable {P:Program} {ops:Array Oper} {md:Region.Mode} {S:List Nat} {Lt:Nat→Bool}
theorem Z9c {X:Exit→Act→World→Prop} (hX0:∀ a w,¬ X .outgrown a w) (hXp:∀ ch a d v w,X (.panic ch) (Act.put a d v) w→X (.panic ch) a w) {Z:Act→World→Prop} {R:World→World→Prop} (hR0:∀ w,R w w) (hRt:∀ a b c,R a b→R b c→R a c) {i:Nat} {oi:Oper} {v:Value} (hi:ops[i]?=some oi)
 (hRs:∀ j oj,ops[j]?=some oj→(∀ e∈oj.after,Region.binds md e=true→e.on≠i)→j≠i→∀ w w',(Stp S w w'∨Lt j=true)→R w w')
 (hsel:∀ (j:Nat) (o:Oper) cs b,ops[j]?=some o→o.op≠.select cs b) :
 ∀ (fuel : Nat) (listed : Array Bool) (a : Act) (w : World),
   (∀ j oj,ops[j]?=some oj→j≠i→listed.getD j true=false→(∀ e∈oj.after,Region.binds md e=true→e.on≠i)→oi.apart ops oj=true)→
   (Stp S w w∨Lt i=true→True)→i∈Region.ready md ops listed→YE P ops R oi v a w→
   Z19 P X md ops S Lt Z fuel (listed.setIfInBounds i true) (a.put oi.dst v) w→Z19 P X md ops S Lt Z (fuel+1) listed a w:=by
 have now:∀ (fuel:Nat) (listed:Array Bool) (a:Act) (w:World),YE P ops R oi v a w→Z19 P X md ops S Lt Z fuel (listed.setIfInBounds i true) (a.put oi.dst v) w→
  wpOp P ops X i (fun a' w'=>(Stp S w w'∨Lt i=true)∧Z19 P X md ops S Lt Z fuel (listed.setIfInBounds i true) a' w') a w:=by
  intro fuel listed a w hy H
  unfold wpOp
  simp only [hi]
  rcases hy with ⟨hw,hv⟩|⟨hw,rfl⟩
  simp only [hw,if_true,Oper.wp,hv w (hR0 w),Oper.upon];exact .inl ⟨.inl (Stp.refl _ _),H⟩
  simp only [hw,XE,if_false];exact ⟨.inl (Stp.refl _ _),H⟩
 intro fuel
 induction fuel with
 | zero=>
   intro listed a w _ _ hr hy H
   refine ⟨fun h=>(by rw [h] at hr;cases hr),fun j hj=>?_⟩
   by_cases hji:j=i
   subst hji;exact now _ _ _ _ hy H
   have:=ready_mono hj hji
   rw [H.1] at this
   cases this
 | succ fuel ih=>
   intro listed a w hfree hx hr hy H
   refine ⟨fun h=>(by rw [h] at hr;cases hr),fun j hj=>?_⟩
   by_cases hji:j=i
   subst hji;exact now _ _ _ _ hy H
   have h1:=H.2 j (ready_mono hj hji)
   obtain ⟨hjun,oj,hoj,hall⟩:=mem_ready.1 hj
   have hnot:∀ e∈oj.after,Region.binds md e=true→e.on≠i:=fun e he hb heq=>by
    have h1:=hall e he hb
    have h0:=(mem_ready.1 hr).1
    rw [heq] at h1
    rcases Yae i listed.size with h'|h'
    simp [h'] at h0 h1;rw [h0] at h1;cases h1
    simp [YaL h'] at h1
   have hap:=hfree j oj hoj hji hjun hnot
   obtain ⟨p1,p2,p3⟩:=Oper.apart_spec hap
   have keep:∀ (a:Act),YE P ops R oi v a w→∀ u,YE P ops R oi v (a.put oj.dst u) w:=fun a hy u=>
    hy.same (execOp_put oi (fun cs b=>hsel i oi cs b hi) a oj.dst u p3) (wanted_put oi a oj.dst u p3)
   have keepD:∀ (a:Act) d,YE P ops R oi v a w→YE P ops R oi v { a with defers:=d :: a.defers } w:=fun a d hy=>hy.same rfl rfl
   have later:∀ (a:Act) w',(Stp S w w'∨Lt j=true)→YE P ops R oi v a w→YE P ops R oi v a w':=fun a w' hs hy=>by
    rcases hy with ⟨hw,hv⟩|hw
    exact .inl ⟨hw,fun w'' h''=>hv w'' (hRt _ _ _ (hRs j oj hoj hnot hji w w' hs) h'')⟩
    exact .inr hw
   have hfree':∀ k ok,ops[k]?=some ok→k≠i→(listed.setIfInBounds j true).getD k true=false→
    (∀ e∈ok.after,Region.binds md e=true→e.on≠i)→oi.apart ops ok=true:=fun k ok hk hki hun hno=>by
    refine hfree k ok hk hki ?_ hno
    by_cases hjk:j=k
    subst hjk;exact hjun
    rw [getD_set_ne true hjk] at hun;exact hun
   have fin:∀ a' w',YE P ops R oi v a' w→(Stp S w w'∨Lt j=true)∧Z19 P X md ops S Lt Z fuel ((listed.setIfInBounds i true).setIfInBounds j true) (a'.put oi.dst v) w'→
    (Stp S w w'∨Lt j=true)∧Z19 P X md ops S Lt Z (fuel+1) (listed.setIfInBounds j true) a' w':=by
    rintro a' w' hy' ⟨hs,hk⟩
    refine ⟨hs,ih _ a' w' hfree' (fun _=>trivial) (ready_mono hr (Ne.symm hji)) (later a' w' hs hy') ?_⟩
    rw [Array.setIfInBounds_comm _ _ hji]
    exact hk
   have hsj:∀ cs b,oj.op≠.select cs b:=fun cs b=>hsel j oj cs b hoj
   unfold wpOp at *
   simp only [hoj] at *
   rw [wanted_put oj a oi.dst v p1] at h1
   split
   · rename_i hw
     simp only [hw,if_true] at h1
     rcases h1 with h1|⟨_,_,_,hf⟩
     case inr=>exact (hX0 _ _ hf).elim
     refine .inl ?_
     unfold Oper.wp at *
     rw [execOp_put oj hsj a oi.dst v p1] at h1
     generalize (execOp a.eval oj).run P w=r at *
     cases r with
     | ok n w'=>
       cases n<;>simp only [Oper.upon] at h1 ⊢
       case value u=>exact fin _ _ (keep a hy u) (by rw [← Act.put_comm a v u p2];exact h1)
       case skip=>exact fin _ _ (keep a hy _) (by rw [← Act.put_comm a v undef p2];exact h1)
       case defer d=>
        refine fin _ _ (keep _ (keepD a d hy) _) ?_
        rw [← Act.put_comm _ v undef p2,← Act.put_defers]
        exact h1
       case enter f args=>
        refine Calls.mono h1 fun e w'' he=>?_
        cases e with
        | returned u=>exact fin _ _ (keep a hy u) (by rw [← Act.put_comm a v u p2];exact he)
        | panicked c=>exact hXp _ _ _ _ _ he
        | outgrown=>obtain ⟨_,_,hf⟩:=he;exact (hX0 _ _ hf).elim
       case row row args=>exact Rows.mono h1 fun u w'' he=>fin _ _ (keep a hy u) (by rw [← Act.put_comm a v u p2];exact he)
     | halt x w'=>
       cases x<;>simp only [Oper.upon] at h1 ⊢
       exact hXp _ _ _ _ _ h1
   rename_i hw
   simp only [hw] at h1
   exact fin _ _ (keep a hy _) (by rw [← Act.put_comm a v undef p2];exact h1)
end any
structure WDq (P:Program) (n:Nat) (ops:Array Oper) (S:List Nat) (Lt:List Nat) (Q:Exit→Act→World→Prop) (ord:List (Nat×Nat)) (e:Env) (w:World):Prop where
 h:∀ listed:Array Bool,Region.noSelect ops=true→JQ ops Lt ord listed=true→∀ a,Has n e a→Z19 P (PQ n Q) .any ops S (fun j=>Lt.contains j) (fun a w=>Q .normal a w) (wt ord) listed a w
section rules
variable {P:Program} {n:Nat} {Q:Exit→Act→World→Prop} {e:Env} {w:World} {ops:Array Oper} {S:List Nat} {Lt:List Nat} {rest:List (Nat×Nat)}
theorem Z3o {id:Nat} {l:List Oper} (m:Nat) (S:List Nat) (Lt:List Nat) (ord:List (Nat×Nat)) (hlm:l.length=m) (hm:P.follows .mixedOrders=true) (hs:Region.noSelect l.toArray=true) (hl:Nat.beq (wt ord) l.length=true)
 (hB:JQ l.toArray Lt ord (Array.replicate m false)=true)
 (h:∀ w',Stp [] w w'→WDq P n l.toArray S Lt Q ord e w'):WC P n (.region id l.toArray true) Q e w:=by
 subst hlm
 refine ⟨fun a ha=>wp_region_any hm ?_⟩
 have h1:=(h { w with drawn:=w.drawn+1 } (Stp.drew [] w)).h _ hs hB a ha
 have h2:=Z5k (X:=PQ n Q) (Q:=Q) Zas ZkU (fun a w hz=>hz) _ _ _ _ h1
 rw [X5 hl] at h2
 simpa using h2
theorem Zcd {i d:Nat} {o:Oper} {v:Value} (hi:ops[i]?=some o) (hd:o.dst=some d) (hY:∀ a,Has n e a→YE P ops (fun _ _=>True) o v a w) (hdn:Nat.blt d n=true)
 (k:WDq P n ops S Lt Q rest ((d,v) :: e) w):WDq P n ops S Lt Q ((i,0) :: rest) e w:=by
 refine ⟨fun listed hs hB a ha=>?_⟩
 simp only [JQ,J5,Xi] at hB
 obtain ⟨⟨h1,h2⟩,h3⟩:=hB
 have hk:=k.h _ hs h3 _ (ha.put (v:=v) hdn)
 rw [← hd] at hk
 rw [Z0u (by decide)]
 exact Z9c Zas Zeh (R:=fun _ _=>True) (fun _=>trivial) (fun _ _ _ _ _=>trivial) hi (fun _ _ _ _ _ _ _ _=>trivial) (Region.noSelect_spec hs) _ _ _ _ (Region.free_spec hi h2) (fun _=>trivial) (by simpa using h1) (hY a ha) hk
theorem Zce {i d:Nat} {o:Oper} {v:Value} (hi:ops[i]?=some o) (hd:o.dst=some d) (hY:∀ a,Has n e a→YE P ops (Stp S) o v a w) (hdn:Nat.blt d n=true)
 (k:WDq P n ops S Lt Q rest ((d,v) :: e) w):WDq P n ops S Lt Q ((i,1) :: rest) e w:=by
 refine ⟨fun listed hs hB a ha=>?_⟩
 simp only [JQ,J5,Xi] at hB
 obtain ⟨⟨⟨h1,h2⟩,hb⟩,h3⟩:=hB
 have hk:=k.h _ hs h3 _ (ha.put (v:=v) hdn)
 rw [← hd] at hk
 rw [Z0u (by decide)]
 refine Z9c Zas Zeh (R:=Stp S) (fun w=>Stp.refl _ w) (fun _ _ _ h k=>h.trans k) hi (fun j oj hj hn hji w w' hs=>?_) (Region.noSelect_spec hs) _ _ _ _ (Region.free_spec hi h2) (fun _=>trivial) (by simpa using h1) (hY a ha) hk
 rcases hs with hs|hs
 exact hs
 rw [Z3H hb hj hn hji] at hs;cases hs
variable {i d:Nat} {op:Op} {ty:TypeId} {pos:String} {af:Array Edge} {gd:Option (Nat×Bool)} {v:Value}
theorem Jb (hi:ops[i]?=some ⟨some d,op,ty,pos,af,gd⟩) (hg:ZI ops e gd) (hp:∀ w',PR P n ⟨some d,op,ty,pos,af,gd⟩ e w' v) (hdn:Nat.blt d n=true)
 (k:WDq P n ops S Lt Q rest ((d,v) :: e) w):WDq P n ops S Lt Q ((i,0) :: rest) e w:=
 Zcd hi rfl (fun a ha=>.inl ⟨Z00 ha hg,fun w' _=>(hp w').h a ha⟩) hdn k
theorem Z29 (hi:ops[i]?=some ⟨some d,op,ty,pos,af,gd⟩) (hg:ZI ops e gd) (hp:∀ w',Stp S w w'→PR P n ⟨some d,op,ty,pos,af,gd⟩ e w' v) (hdn:Nat.blt d n=true)
 (k:WDq P n ops S Lt Q rest ((d,v) :: e) w):WDq P n ops S Lt Q ((i,1) :: rest) e w:=
 Zce hi rfl (fun a ha=>.inl ⟨Z00 ha hg,fun w' hw=>(hp w' hw).h a ha⟩) hdn k
structure ZpR (P:Program) (n:Nat) (ops:Array Oper) (S:List Nat) (Lt:List Nat) (Q:Exit→Act→World→Prop) (i:Nat) (ord:List (Nat×Nat)) (e:Env) (w:World):Prop where
 h : ∀ listed : Array Bool, Region.noSelect ops = true → JQ ops Lt ord (listed.setIfInBounds i true) = true → ∀ a, Has n e a→
   wpOp P ops (PQ n Q) i (fun a' w'=>(Stp S w w'∨Lt.contains i=true)∧Z19 P (PQ n Q) .any ops S (fun j=>Lt.contains j) (fun a w=>Q .normal a w) (wt ord) (listed.setIfInBounds i true) a' w') a w
theorem Zbk (h:ZpR P n ops S Lt Q i rest e w):WDq P n ops S Lt Q ((i,2) :: rest) e w:=by
 refine ⟨fun listed hs hB a ha=>?_⟩
 simp only [JQ,J5] at hB
 rw [if_neg (by simp)] at hB
 simp only [Xi,beq_iff_eq] at hB
 obtain ⟨h1,h3⟩:=hB
 rw [Z0u (by decide)]
 refine ⟨fun h0=>absurd (h1 ▸ h0) (by simp),fun j hj=>?_⟩
 rw [h1] at hj
 obtain rfl:j=i:=by simpa using hj
 exact h.h _ hs h3 a ha
end rules
structure OEP (P:Program) (n:Nat) (o:Oper) (e:Env) (w:World) (G:Value→World→Prop) (F:List PanicEntry→World→Prop):Prop where
 h:∀ a,Has n e a→∀ Q:Exit→Act→World→Prop,(∀ ch w',F ch w'→Q (.panic ch) a w')→o.wp P a w (fun a' w'=>∃ v,a'=a.put o.dst v∧G v w') Q
inductive ZkW (G:Value→World→Prop) (F:List PanicEntry→World→Prop):Ending→World→Prop
 | ret {v:Value} {w:World}:G v w→ZkW G F (.returned v) w
 | pan {ch:List PanicEntry} {w:World}:F ch w→ZkW G F (.panicked ch) w
section
variable {P:Program} {n:Nat} {Q:Exit→Act→World→Prop} {e:Env} {w:World} {ops:Array Oper} {S:List Nat} {Lt:List Nat} {rest:List (Nat×Nat)}
theorem Zej {i d:Nat} {op:Op} {ty:TypeId} {pos:String} {af:Array Edge} {gd:Option (Nat×Bool)} {G:Value→World→Prop} {F:List PanicEntry→World→Prop} (hi:ops[i]?=some ⟨some d,op,ty,pos,af,gd⟩) (hg:ZI ops e gd)
 (hp:OEP P n ⟨some d,op,ty,pos,af,gd⟩ e w G F) (hG:∀ v w',G v w'→Stp S w w') (hdn:Nat.blt d n=true) (hF:∀ ch w',F ch w'→WQ n Q (.panic ch) [] w')
 (k:∀ v w',G v w'→WDq P n ops S Lt Q rest ((d,v) :: e) w'):WDq P n ops S Lt Q ((i,2) :: rest) e w:=by
 refine Zbk ⟨fun listed hs h3 a ha=>?_⟩
 unfold wpOp
 simp only [hi]
 rw [if_pos (Z00 (o:=⟨some d,op,ty,pos,af,gd⟩) ha hg)]
 have h0:Has n [] a:=⟨ha.defers,ha.size,fun t v hv=>by simp [look] at hv⟩
 refine .inl (Oper.wp_mono ?_ (hp.h a ha (PQ n Q) (fun ch w' h=>⟨h0,fun a' ha'=>(hF ch w' h).h a' ha'⟩)))
 rintro a' w' ⟨v,rfl,hG'⟩
 exact ⟨.inl (hG v w' hG'),(k v w' hG').h _ hs h3 _ (ha.put hdn)⟩
end
section
variable {P:Program} {n:Nat} {Q:Exit→Act→World→Prop} {e:Env} {w:World} {ops:Array Oper} {rest:List Oper} {d:Option Nat} {ty:TypeId} {pos:String} {af:Array Edge} {g:Option (Nat×Bool)}
theorem Z61 {f:Nat} {fn:Func} {xs:Array Operand} {ts:Array TypeId} {vs:Array Value} {G:Value→World→Prop} {F:List PanicEntry→World→Prop} {c:Operand} [hf:Fun P f fn] (hc:ev e c=some (.func (.func f) #[] #[]))
 (hv:∀ a,Has n e a→xs.map a.eval=vs) (h:Calls P f vs w (ZkW G F)) :
 OEP P n ⟨d,.call { callee:=.value c,args:=xs,argTypes:=ts },ty,pos,af,g⟩ e w G F:=
 ⟨fun a ha Q hQ => by
   have he:(execOp a.eval ⟨d,.call { callee:=.value c,args:=xs,argTypes:=ts },ty,pos,af,g⟩).run P w=.ok (.enter f vs) w:=by
    simp only [execOp,resolve,ha.ev hc,Deferred.ofValue,hv a ha]
    simp [invoke]
    exact hf.enters vs w
   unfold Oper.wp
   rw [he]
   simp only [Oper.upon]
   refine h.mono ?_
   intro r w' hr
   cases hr with
   | ret hg=>exact ⟨_,rfl,hg⟩
   | pan hp=>exact hQ _ _ hp⟩
theorem Zbl {d:Nat} {op:Op} {G:Value→World→Prop} {F:List PanicEntry→World→Prop} (hp:OEP P n ⟨some d,op,ty,pos,af,none⟩ e w G F) (hd:Nat.blt d n=true) (hF:∀ ch w',F ch w'→WQ n Q (.panic ch) e w')
 (k:∀ v w',G v w'→WL P n ops Q rest ((d,v) :: e) w'):WL P n ops Q (⟨some d,op,ty,pos,af,none⟩ :: rest) e w:=by
 refine ⟨fun a ha=>?_⟩
 refine wpList_plain rfl (fun K hK=>?_)
 refine Oper.wp_mono ?_ (hp.h a ha Q (fun ch w' h=>(hF ch w' h).h a ha))
 rintro a' w' ⟨v,rfl,hg⟩
 exact hK _ _ ((k v w' hg).h _ (ha.put hd))
theorem Zk {N:Act→World→Prop} {ch:List PanicEntry} (h:WQ n Q (.panic ch) e w):WQ n (Exit.then N Q) (.panic ch) e w:=⟨fun a ha=>h.h a ha⟩
theorem Zi {i:Nat} {ch:List PanicEntry} (h:WQ n Q (.panic ch) e w):WQ n (Exit.inBlock i Q) (.panic ch) e w:=⟨fun a ha=>h.h a ha⟩
theorem Zcf {x:Exit} (h:WQ n Q x [] w):WQ n Q x e w:=⟨fun a ha=>h.h a ⟨ha.defers,ha.size,fun t v hv=>by simp [look] at hv⟩⟩
theorem ZG {fn:Func} {R:Ending→World→Prop} {ch:List PanicEntry} (h:R (.panicked ch) w):WQ n (bodyPost P fn R) (.panic ch) e w:=⟨fun a ha=>⟨ha.defers,h⟩⟩
end
theorem Z4O {P:Program} {n:Nat} {e:Env} {w:World} {d:Option Nat} {ty:TypeId} {pos:String} {af:Array Edge} {g:Option (Nat×Bool)} {t:TypeId} {x:Operand} {v:Value} {fs:Array Field} [hu:Und P t (.struct fs)] (hx:ev e x=some v):PR P n ⟨d,.makeInterface t x,ty,pos,af,g⟩ e w (.iface t v):=
 ⟨fun a ha=>by simp [execOp,ha.ev hx,Instr.makeInterface,run_underlying hu.h]⟩
theorem Zcg {P:Program} {n:Nat} {e:Env} {w:World} {d:Option Nat} {ty:TypeId} {pos:String} {af:Array Edge} {g:Option (Nat×Bool)} {x:Operand} {t:TypeId} {v:Value} (hx:ev e x=some (.iface t v)):∀ a,Has n e a→(execOp a.eval ⟨d,.panic x,ty,pos,af,g⟩).run P w=.halt (.panic (.iface t v)) w:=
 fun a ha=>by simp [execOp,ha.ev hx,Instr.panic]
theorem Zch {P:Program} {n:Nat} {Q:Exit→Act→World→Prop} {e:Env} {w:World} {ops:Array Oper} {S:List Nat} {Lt:List Nat} {rest:List (Nat×Nat)} {i:Nat} {o:Oper} {v:Value} (hi:ops[i]?=some o) (hg:ZI ops e o.guard)
 (hp:∀ a,Has n e a→(execOp a.eval o).run P w=.halt (.panic v) w) (h:WQ n Q (.panic [{ v,recovered:=false }]) [] w):WDq P n ops S Lt Q ((i,2) :: rest) e w:=by
 refine Zbk ⟨fun listed hs h3 a ha=>?_⟩
 unfold wpOp
 simp only [hi]
 rw [if_pos (Z00 ha hg)]
 refine .inl ?_
 unfold Oper.wp
 rw [hp a ha]
 have h0:Has n [] a:=⟨ha.defers,ha.size,fun t v hv=>by simp [look] at hv⟩
 exact ⟨h0,fun a' ha'=>h.h a' ha'⟩
structure Tkn where
 kind:Int
 pos:Int
 text:Str
 num:Int
 deriving DecidableEq
instance:Inhabited Tkn:=⟨⟨0,0,[],0⟩⟩
instance:Z9 Tkn where
 k:=4
 enc:=fun t=>[.int .i64 t.kind,.int .i64 t.pos,str t.text,.int .i64 t.num]
 len:=fun _=>rfl
 one:=by intro x u hu;simp at hu;rcases hu with rfl|rfl|rfl|rfl<;>rfl
def cur (l:List Tkn) (i:Nat):Tkn:=l.getD i default
inductive Out (α:Type) where
 | err (a c:Int)
 | ok (x:α) (i o:Nat)
def Out.bind {α β:Type}:Out α→(α→Nat→Nat→Out β)→Out β
 | .err a c,_=>.err a c
 | .ok x i o,k=>k x i o
def Z2a {α:Type} (l:List Tkn) (i:Nat) (c:Int):Out α:=.err (cur l i).pos c
def Z1q (l:List Tkn) (s:Str) (i o:Nat):Out Unit:=if (cur l i).text=s then .ok () (i+1) o else Z2a l i 20
def Z3P (l:List Tkn) (k:Int) (i o:Nat):Out Tkn:=if (cur l i).kind=k then .ok (cur l i) (i+1) o else Z2a l i 20
def Z0p (l:List Tkn) (s:Str) (i o:Nat):Out Unit:=if (cur l i).text=s then (if o=12 then Z2a l i 2 else .ok () (i+1) (o+1)) else Z2a l i 20
def Z0D (l:List Tkn) (s:Str) (i o:Nat):Out Unit:=(Z1q l s i o).bind fun _ i o=>.ok () i (o - 1)
def Z62:List Str:=[[100,97,121],[115,101,114,118,101,100],[101,120,116,114,97],[98,121],[116,111],[99,111,117,114,116],[97,109,111,117,110,116]]
def Z72:List Str:=[[100,97,121,115],[119,101,101,107,115],[109,111,110,116,104,115],[99,111,117,114,116,100,97,121,115]]
def Z73:List Str:=[[110,101,120,116],[112,114,101,118],[108,97,116,101,114],[101,97,114,108,105,101,114],[98,101,116,119,101,101,110]]
def Z4P (s:Str):Nat:=
 if s=[111,114] then 1 else if s=[97,110,100] then 2 else if s=[60]∨s=[60,61]∨s=[61]∨s=[33,61]∨s=[62]∨s=[62,61] then 4
 else if s=[43]∨s=[45] then 5 else if s=[42] then 6 else 0
def Z0W (s:Str):Nat:=if s=[110,101,120,116]∨s=[112,114,101,118] then 1 else 2
def Z0m (m:Nat→Nat→Option (Out Nd)) (sep:Nat→Nat→Nat→Out Unit):Nat→Nat→List Nd→Nat→Nat→Option (Out (List Nd))
 | 0,_,ks,i,o=>some (.ok ks i o)
 | n + 1, k, ks, i, o=>
   match sep k i o with
   | .err a c=>some (.err a c)
   | .ok _ i o=>
     match m i o with
     | none=>none
     | some (.err a c)=>some (.err a c)
     | some (.ok x i o)=>Z0m m sep n (k+1) (ks++[x]) i o
def Z1p (l:List Tkn) (k i o:Nat):Out Unit:=if 0<k then Z1q l [44] i o else .ok () i o
def Z63 (l:List Tkn) (k i o:Nat):Out Unit:=Z1q l (if k=0 then [116,104,101,110] else [101,108,115,101]) i o
inductive Call where
 | expr (level:Nat)
 | loop (level:Nat) (x:Nd)
 | prim
def ZJ (l:List Tkn):Nat→Call→Nat→Nat→Option (Out Nd)
 | 0,_,_,_=>none
 | f + 1, .expr k, i, o=>
   if (k=3∧(cur l i).text=[110,111,116])∨(k=7∧(cur l i).text=[45]) then
    match Z0p l (cur l i).text i o with
    | .err a c=>some (.err a c)
    | .ok _ i' o'=>
      match ZJ l f (.expr k) i' o' with
      | none=>none
      | some (.err a c)=>some (.err a c)
      | some (.ok x i'' o'')=>some (.ok (.mk 5 0 (cur l i).text [x]) i'' (o'' - 1))
   else if k=8 then ZJ l f .prim i o
   else
    match ZJ l f (.expr (k+1)) i o with
    | none=>none
    | some (.err a c)=>some (.err a c)
    | some (.ok x i' o')=>ZJ l f (.loop k x) i' o'
 | f + 1, .loop k x, i, o=>
   if Z4P (cur l i).text=k then
    match ZJ l f (.expr (k+1)) (i+1) o with
    | none=>none
    | some (.err a c)=>some (.err a c)
    | some (.ok y i' o')=>
      if k=5∧(cur l i').text∈Z72 then ZJ l f (.loop k (.mk (if (cur l i).text=[45] then 8 else 7) 0 (cur l i').text [x,y])) (i'+1) o'
      else if k=4 then some (.ok (.mk 6 0 (cur l i).text [x,y]) i' o')
      else ZJ l f (.loop k (.mk 6 0 (cur l i).text [x,y])) i' o'
   else some (.ok x i o)
 | f + 1, .prim, i, o=>
   let t:=cur l i
   if t.kind=2 then some (.ok (.mk 1 t.num [] []) (i+1) o)
   else if t.kind=3 then some (.ok (.mk 3 t.num [] []) (i+1) o)
   else if t.text=[116,114,117,101] then some (.ok (.mk 2 1 [] []) (i+1) o)
   else if t.text=[102,97,108,115,101] then some (.ok (.mk 2 0 [] []) (i+1) o)
   else if t.text=[40] then
    match Z0p l [40] i o with
    | .err a c=>some (.err a c)
    | .ok _ i' o'=>
      match ZJ l f (.expr 1) i' o' with
      | none=>none
      | some (.err a c)=>some (.err a c)
      | some (.ok x i'' o'')=>
        match Z0D l [41] i'' o'' with
        | .err a c=>some (.err a c)
        | .ok _ i3 o3=>some (.ok x i3 o3)
   else if t.text=[105,102] then
    match Z0p l [105,102] i o with
    | .err a c=>some (.err a c)
    | .ok _ i' o'=>
      match ZJ l f (.expr 1) i' o' with
      | none=>none
      | some (.err a c)=>some (.err a c)
      | some (.ok x i'' o'')=>
        match Z0m (ZJ l f (.expr 1)) (Z63 l) 2 0 [x] i'' o'' with
        | none=>none
        | some (.err a c)=>some (.err a c)
        | some (.ok ks i3 o3)=>
          match Z0D l [101,110,100] i3 o3 with
          | .err a c=>some (.err a c)
          | .ok _ i4 o4=>some (.ok (.mk 9 0 [] ks) i4 o4)
   else if t.text∈Z73 then
    match Z3P l 1 i o with
    | .err a c=>some (.err a c)
    | .ok _ i1 o1=>
      match Z0p l [40] i1 o1 with
      | .err a c=>some (.err a c)
      | .ok _ i' o'=>
        match Z0m (ZJ l f (.expr 1)) (Z1p l) (Z0W t.text) 0 [] i' o' with
        | none=>none
        | some (.err a c)=>some (.err a c)
        | some (.ok ks i3 o3)=>
          match Z0D l [41] i3 o3 with
          | .err a c=>some (.err a c)
          | .ok _ i4 o4=>some (.ok (.mk 10 0 t.text ks) i4 o4)
   else if t.text∈Z62 then some (.ok (.mk 4 0 t.text []) (i+1) o)
   else some (Z2a l i 20)
def Z9d (l:List Tkn) (i:Nat):Nat:=20 * (l.length - i)+20
def Z4Q (l:List Tkn) (i o:Nat):Out Nd:=(ZJ l (Z9d l i) (.expr 1) i o).getD (.err 0 0)
structure Z32 (l:List Tkn):Prop where
 pos:0<l.length
 last:(cur l (l.length - 1)).kind=0∧(cur l (l.length - 1)).text=[]
 body:∀ i,i+1<l.length→(cur l i).kind≠0∧(cur l i).text≠[]
 len:l.length≤4001
 sp:∀ i,∀ c∈(cur l i).text,c≠32
 tl:∀ i,(cur l i).text.length≤4000
theorem Z32.end_of {l:List Tkn} (h:Z32 l) {i:Nat} (hi:i<l.length) (ht:(cur l i).text≠[]):i+1<l.length:=by
 by_cases hl:i+1<l.length
 exact hl
 exfalso
 obtain rfl:i=l.length - 1:=by omega
 exact ht h.last.2
theorem Z32.end_of_kind {l:List Tkn} (h:Z32 l) {i:Nat} (hi:i<l.length) (ht:(cur l i).kind≠0):i+1<l.length:=by
 by_cases hl:i+1<l.length
 exact hl
 exfalso
 obtain rfl:i=l.length - 1:=by omega
 exact ht h.last.1
theorem Z1G {l:List Tkn} {s:Str} {i o:Nat} {u:Unit} {i' o':Nat} (h:Z1q l s i o=.ok u i' o'):o'=o:=by
 unfold Z1q Z2a at h;split at h<;>simp at h;omega
theorem Z7Z {l:List Tkn} {s:Str} {i o:Nat} {u:Unit} {i' o':Nat} (h:Z1q l s i o=.ok u i' o'):i'=i+1∧(cur l i).text=s:=by
 unfold Z1q Z2a at h;split at h<;>simp at h;exact ⟨by omega,by assumption⟩
theorem Z1R {l:List Tkn} {k:Int} {i o:Nat} {t:Tkn} {i' o':Nat} (h:Z3P l k i o=.ok t i' o'):o'=o∧i'=i+1∧t=cur l i∧t.kind=k:=by
 unfold Z3P Z2a at h;split at h<;>simp at h
 obtain ⟨rfl,rfl,rfl⟩:=h
 exact ⟨rfl,rfl,rfl,by assumption⟩
theorem ZL {l:List Tkn} {s:Str} {i o:Nat} {u:Unit} {i' o':Nat} (h:Z0p l s i o=.ok u i' o'):o'=o+1∧i'=i+1∧(cur l i).text=s:=by
 unfold Z0p Z2a at h;split at h
 split at h<;>simp at h
 exact ⟨by omega,by omega,by assumption⟩
 simp at h
theorem Z0k {l:List Tkn} {s:Str} {i o:Nat} {u:Unit} {i' o':Nat} (h:Z0D l s i o=.ok u i' o'):o'=o - 1∧i'=i+1∧(cur l i).text=s:=by
 unfold Z0D at h
 cases hm:Z1q l s i o with
 | err a c=>rw [hm] at h;simp [Out.bind] at h
 | ok x j p=>
   rw [hm] at h
   simp [Out.bind] at h
   have:=Z1G hm
   have:=Z7Z hm
   exact ⟨by omega,by omega,this.2⟩
theorem Z3Q {m:Nat→Nat→Option (Out Nd)} {sep:Nat→Nat→Nat→Out Unit} (hm:∀ i o x i' o',m i o=some (.ok x i' o')→o'=o) (hs:∀ k i o u i' o',sep k i o=.ok u i' o'→o'=o) :
 ∀ (n k:Nat) (ks:List Nd) (i o:Nat) (ks':List Nd) (i' o':Nat),Z0m m sep n k ks i o=some (.ok ks' i' o')→o'=o
 | 0,k,ks,i,o,ks',i',o',h=>by simp [Z0m] at h;omega
 | n + 1, k, ks, i, o, ks', i', o', h => by
   simp only [Z0m] at h
   cases h1:sep k i o with
   | err a c=>rw [h1] at h;simp at h
   | ok u i1 o1=>
     rw [h1] at h
     simp only at h
     cases h2:m i1 o1 with
     | none=>rw [h2] at h;simp at h
     | some r=>
       rw [h2] at h
       cases r with
       | err a c=>simp at h
       | ok x i2 o2=>
         simp only at h
         have:=Z3Q hm hs n _ _ _ _ _ _ _ h
         have:=hm _ _ _ _ _ h2
         have:=hs _ _ _ _ _ _ h1
         omega
theorem Z9e {l:List Tkn} {k i o:Nat} {u:Unit} {i' o':Nat} (h:Z1p l k i o=.ok u i' o'):o'=o:=by
 unfold Z1p at h
 split at h
 exact Z1G h
 simp at h;omega
theorem Zat {l:List Tkn} {k i o:Nat} {u:Unit} {i' o':Nat} (h:Z63 l k i o=.ok u i' o'):o'=o:=Z1G h
theorem JV (l:List Tkn):∀ (f:Nat) (c:Call) (i o:Nat) (x:Nd) (i' o':Nat),ZJ l f c i o=some (.ok x i' o')→o'=o
 | 0,c,i,o,x,i',o',h=>by simp [ZJ] at h
 | f + 1, .expr k, i, o, x, i', o', h => by
   have ih:=JV l f
   rw [ZJ] at h
   split at h
   split at h
   simp at h
   rename_i h1
   have:=ZL h1
   split at h
   simp at h
   simp at h
   rename_i h2
   have:=ih _ _ _ _ _ _ h2
   simp at h
   omega
   split at h
   exact ih _ _ _ _ _ _ h
   split at h
   simp at h
   simp at h
   rename_i h2
   have:=ih _ _ _ _ _ _ h2
   have:=ih _ _ _ _ _ _ h
   omega
 | f + 1, .loop k y, i, o, x, i', o', h => by
   have ih:=JV l f
   rw [ZJ] at h
   split at h
   split at h
   simp at h
   simp at h
   rename_i h2
   have h3:=ih _ _ _ _ _ _ h2
   split at h
   have:=ih _ _ _ _ _ _ h
   omega
   split at h
   simp at h;omega
   have:=ih _ _ _ _ _ _ h
   omega
   simp at h;omega
 | f + 1, .prim, i, o, x, i', o', h => by
   have ih:=JV l f
   rw [ZJ] at h
   repeat' split at h
   all_goals try (simp at h;done)
   all_goals try (simp at h;omega)
   rename_i h1 _ _ _ _ h2 _ _ _ _ h3
   have:=ZL h1;have:=ih _ _ _ _ _ _ h2;have:=Z0k h3
   simp at h;omega
   rename_i h1 _ _ _ _ h2 _ _ _ _ h3 _ _ _ _ h4
   have:=ZL h1;have:=ih _ _ _ _ _ _ h2;have:=Z3Q (fun _ _ _ _ _ h=>ih _ _ _ _ _ _ h) (fun _ _ _ _ _ _ h=>Zat h) _ _ _ _ _ _ _ _ h3;have:=Z0k h4
   simp at h;omega
   rename_i h1 _ _ _ _ h2 _ _ _ _ h3 _ _ _ _ h4
   have:=Z1R h1;have:=ZL h2;have:=Z3Q (fun _ _ _ _ _ h=>ih _ _ _ _ _ _ h) (fun _ _ _ _ _ _ h=>Z9e h) _ _ _ _ _ _ _ _ h3;have:=Z0k h4
   simp at h;omega
   all_goals (simp [Z2a] at h)
theorem Z64 {m:Nat→Nat→Option (Out Nd)} {sep:Nat→Nat→Nat→Out Unit} (hm:∀ i o x i' o',m i o=some (.ok x i' o')→i≤i') (hs:∀ k i o u i' o',sep k i o=.ok u i' o'→i≤i') :
 ∀ (n k:Nat) (ks:List Nd) (i o:Nat) (ks':List Nd) (i' o':Nat),Z0m m sep n k ks i o=some (.ok ks' i' o')→i≤i'
 | 0,k,ks,i,o,ks',i',o',h=>by simp [Z0m] at h;omega
 | n + 1, k, ks, i, o, ks', i', o', h => by
   simp only [Z0m] at h
   cases h1:sep k i o with
   | err a c=>rw [h1] at h;simp at h
   | ok u i1 o1=>
     rw [h1] at h
     simp only at h
     cases h2:m i1 o1 with
     | none=>rw [h2] at h;simp at h
     | some r=>
       rw [h2] at h
       cases r with
       | err a c=>simp at h
       | ok x i2 o2=>
         simp only at h
         have:=Z64 hm hs n _ _ _ _ _ _ _ h
         have:=hm _ _ _ _ _ h2
         have:=hs _ _ _ _ _ _ h1
         omega
theorem Z74 {l:List Tkn} {k i o:Nat} {u:Unit} {i' o':Nat} (h:Z1p l k i o=.ok u i' o'):i≤i':=by
 unfold Z1p at h
 split at h
 have:=(Z7Z h).1;omega
 simp at h;omega
theorem Z9f {l:List Tkn} {k i o:Nat} {u:Unit} {i' o':Nat} (h:Z63 l k i o=.ok u i' o'):i≤i':=by have:=(Z7Z h).1;omega
def Call.lo:Call→Nat→Nat
 | .expr _,i=>i+1
 | .prim,i=>i+1
 | .loop _ _,i=>i
theorem Z2b (l:List Tkn):∀ (f:Nat) (c:Call) (i o:Nat) (x:Nd) (i' o':Nat),ZJ l f c i o=some (.ok x i' o')→c.lo i≤i'
 | 0,c,i,o,x,i',o',h=>by simp [ZJ] at h
 | f + 1, .expr k, i, o, x, i', o', h => by
   have ih:=Z2b l f
   rw [ZJ] at h
   simp only [Call.lo]
   split at h
   split at h
   simp at h
   rename_i h1
   have:=ZL h1
   split at h
   simp at h
   simp at h
   rename_i h2
   have:=ih _ _ _ _ _ _ h2
   simp only [Call.lo] at this
   simp at h
   omega
   split at h
   exact ih _ _ _ _ _ _ h
   split at h
   simp at h
   simp at h
   rename_i h2
   have h3:=ih _ _ _ _ _ _ h2
   have:=ih _ _ _ _ _ _ h
   simp only [Call.lo] at this h3
   omega
 | f + 1, .loop k y, i, o, x, i', o', h => by
   have ih:=Z2b l f
   rw [ZJ] at h
   simp only [Call.lo]
   split at h
   split at h
   simp at h
   simp at h
   rename_i h2
   have h3:=ih _ _ _ _ _ _ h2
   simp only [Call.lo] at h3
   split at h
   have:=ih _ _ _ _ _ _ h
   simp only [Call.lo] at this
   omega
   split at h
   simp at h;omega
   have:=ih _ _ _ _ _ _ h
   simp only [Call.lo] at this
   omega
   simp at h;omega
 | f + 1, .prim, i, o, x, i', o', h => by
   have ih:=Z2b l f
   rw [ZJ] at h
   simp only [Call.lo]
   repeat' split at h
   all_goals try (simp at h;done)
   all_goals try (simp at h;omega)
   rename_i h1 _ _ _ _ h2 _ _ _ _ h3
   have:=ZL h1;have h2:=ih _ _ _ _ _ _ h2;have:=Z0k h3
   simp only [Call.lo] at h2
   simp at h;omega
   rename_i h1 _ _ _ _ h2 _ _ _ _ h3 _ _ _ _ h4
   have:=ZL h1;have h2:=ih _ _ _ _ _ _ h2;have:=Z64 (fun _ _ _ _ _ h=>by have:=ih _ _ _ _ _ _ h;simp only [Call.lo] at this;omega) (fun _ _ _ _ _ _ h=>Z9f h) _ _ _ _ _ _ _ _ h3;have:=Z0k h4
   simp only [Call.lo] at h2
   simp at h;omega
   rename_i h1 _ _ _ _ h2 _ _ _ _ h3 _ _ _ _ h4
   have:=Z1R h1;have:=ZL h2;have:=Z64 (fun _ _ _ _ _ h=>by have:=ih _ _ _ _ _ _ h;simp only [Call.lo] at this;omega) (fun _ _ _ _ _ _ h=>Z74 h) _ _ _ _ _ _ _ _ h3;have:=Z0k h4
   simp at h;omega
   all_goals (simp [Z2a] at h)
theorem Z3R {m:Nat→Nat→Option (Out Nd)} {sep:Nat→Nat→Nat→Out Unit} (i0:Nat) (ht:∀ i o,i0≤i→m i o≠none) (hm:∀ i o x i' o',m i o=some (.ok x i' o')→i≤i') (hs:∀ k i o u i' o',sep k i o=.ok u i' o'→i≤i') :
 ∀ (n k:Nat) (ks:List Nd) (i o:Nat),i0≤i→Z0m m sep n k ks i o≠none
 | 0,k,ks,i,o,h0=>by simp [Z0m]
 | n + 1, k, ks, i, o, h0 => by
   simp only [Z0m]
   cases h1:sep k i o with
   | err a c=>simp
   | ok u i1 o1=>
     have:=hs _ _ _ _ _ _ h1
     simp only
     cases h2:m i1 o1 with
     | none=>exact absurd h2 (ht _ _ (by omega))
     | some r=>
       cases r with
       | err a c=>simp
       | ok x i2 o2=>
         have:=hm _ _ _ _ _ h2
         exact Z3R i0 ht hm hs n _ _ _ _ (by omega)
theorem Zgn {l:List Tkn} {i:Nat} (h:l.length≤i):cur l i=default:=by simp [cur,List.getD,h]
theorem Z3S {l:List Tkn} {i:Nat} (h:(cur l i).text≠[]):i<l.length:=by
 by_cases hl:i<l.length
 exact hl
 rw [Zgn (by omega)] at h;exact absurd rfl h
def Call.need (n:Nat):Call→Nat→Nat
 | .expr k,i=>10 * (n - i)+(10 - k)
 | .prim,i=>10 * (n - i)+1
 | .loop _ _,i=>10 * (n - i)+1
def Call.fine:Call→Prop
 | .expr k=>1≤k∧k≤8
 | .prim=>True
 | .loop k _=>1≤k∧k≤7
theorem Z65 {s:Str} {k:Nat} (h:Z4P s=k) (hk:1≤k):s≠[]:=by
 rintro rfl
 have:Z4P []=0:=by decide
 omega
theorem Z2v (l:List Tkn):∀ (f:Nat) (c:Call) (i o:Nat),c.fine→c.need l.length i≤f→ZJ l f c i o≠none
 | 0, c, i, o, hc, h => by
   cases c<;>simp only [Call.need,Call.fine] at h hc<;>omega
 | f + 1, .expr k, i, o, hc, h => by
   have ih:=Z2v l f
   simp only [Call.need,Call.fine] at h hc
   rw [ZJ]
   split
   rename_i hsp
   have hi:i<l.length:=Z3S (by rcases hsp with ⟨_,h⟩|⟨_,h⟩<;>rw [h]<;>decide)
   split
   simp
   rename_i h1
   have:=ZL h1
   split
   rename_i h2;exact absurd h2 (ih _ _ _ hc (by simp only [Call.need];omega))
   simp
   simp
   split
   exact ih _ _ _ trivial (by simp only [Call.need];omega)
   split
   rename_i h2;exact absurd h2 (ih _ _ _ (by simp only [Call.fine];omega) (by simp only [Call.need];omega))
   simp
   rename_i h2
   have h3:=Z2b l _ _ _ _ _ _ _ h2
   simp only [Call.lo] at h3
   exact ih _ _ _ (by simp only [Call.fine];omega) (by simp only [Call.need];omega)
 | f + 1, .loop k y, i, o, hc, h => by
   have ih:=Z2v l f
   simp only [Call.need,Call.fine] at h hc
   rw [ZJ]
   split
   rename_i hlv
   have hi:i<l.length:=Z3S (Z65 hlv hc.1)
   split
   rename_i h2;exact absurd h2 (ih _ _ _ (by simp only [Call.fine];omega) (by simp only [Call.need];omega))
   simp
   rename_i h2
   have h3:=Z2b l _ _ _ _ _ _ _ h2
   simp only [Call.lo] at h3
   split
   exact ih _ _ _ hc (by simp only [Call.need];omega)
   split
   simp
   exact ih _ _ _ hc (by simp only [Call.need];omega)
   simp
 | f + 1, .prim, i, o, hc, h => by
   have ih:=Z2v l f
   have hle:∀ i o x i' o',ZJ l f (.expr 1) i o=some (.ok x i' o')→i≤i':=fun _ _ _ _ _ h=>by have:=Z2b l _ _ _ _ _ _ _ h;simp only [Call.lo] at this;omega
   simp only [Call.need,Call.fine] at h hc
   have hrec:∀ j o,i<l.length→i+1≤j→ZJ l f (.expr 1) j o≠none:=fun j o hi hj=>ih _ _ _ (by simp [Call.fine]) (by simp only [Call.need];omega)
   rw [ZJ]
   have hpar:=fun h=>Z3S (l:=l) (i:=i) h
   split
   simp
   split
   simp
   split
   simp
   split
   simp
   split
   rename_i ht
   have hi:=hpar (by rw [ht];decide)
   split
   simp
   rename_i h1
   have:=ZL h1
   split
   rename_i h2;exact absurd h2 (hrec _ _ hi (by omega))
   simp
   split<;>simp
   split
   rename_i ht
   have hi:=hpar (by rw [ht];decide)
   split
   simp
   rename_i h1
   have:=ZL h1
   split
   rename_i h2;exact absurd h2 (hrec _ _ hi (by omega))
   simp
   rename_i h2
   have:=hle _ _ _ _ _ h2
   split
   rename_i h3;exact absurd h3 (Z3R (i+1) (fun j o hj=>hrec j o hi hj) hle (fun _ _ _ _ _ _ h=>Z9f h) _ _ _ _ _ (by omega))
   simp
   split<;>simp
   split
   rename_i ht
   have hi:=hpar (fun h0=>by rw [h0] at ht;revert ht;decide)
   split
   simp
   rename_i h1
   have:=Z1R h1
   split
   simp
   rename_i h2
   have:=ZL h2
   split
   rename_i h3;exact absurd h3 (Z3R (i+1) (fun j o hj=>hrec j o hi hj) hle (fun _ _ _ _ _ _ h=>Z74 h) _ _ _ _ _ (by omega))
   simp
   split<;>simp
   split<;>simp
theorem Zci (l:List Tkn) (i o:Nat):ZJ l (Z9d l i) (.expr 1) i o=some (Z4Q l i o):=by
 have:=Z2v l (Z9d l i) (.expr 1) i o (by simp [Call.fine]) (by simp only [Call.need,Z9d];omega)
 unfold Z4Q
 cases h:ZJ l (Z9d l i) (.expr 1) i o with
 | none=>exact absurd h this
 | some r=>rfl
abbrev bts (s:Str):ByteArray:=⟨s.toArray⟩
def Itr (w:World) (b:Nat) (s:Str) (p:Nat):Prop:=w.heap[b]?=some (.stringIter (bts s) p)
theorem Itr.lt {w:World} {b p:Nat} {s:Str} (h:Itr w b s p):b<w.heap.size:=(Xk.1 h).1
def dec (s:Str) (p:Nat):Nat×Nat:=Utf8.decode (bts s) p
theorem Z4h (s:Str):(bts s).size=s.length:=by simp [ByteArray.size]
theorem Z3p {s:Str} {p:Nat} (h:p<s.length) (ha:(s[p]).toNat<128):dec s p=((s[p]).toNat,1):=by
 have h1:p<(bts s).size:=by rw [Z4h];exact h
 have e:(bts s)[p]'h1=s[p]:=by simp [bts,ByteArray.getElem_eq_getElem_data]
 have:=decode_ascii (bts s) p h1 (by rw [e];exact ha)
 rw [e] at this
 exact this
theorem Z9g {s:Str} {p:Nat} (h:p<s.length) (ha:128≤(s[p]).toNat):128≤(dec s p).1∧1≤(dec s p).2:=by
 have h1:p<(bts s).size:=by rw [Z4h];exact h
 have e:(bts s)[p]'h1=s[p]:=by simp [bts,ByteArray.getElem_eq_getElem_data]
 exact decode_high (bts s) p h1 (by rw [e];exact ha)
theorem Zgo {s:Str} {p:Nat} (h:p<s.length):1≤(dec s p).2:=by
 by_cases ha:(s[p]).toNat<128
 rw [Z3p h ha];exact Xl _
 exact (Z9g h (by omega)).2
section
variable {P:Program} {n:Nat} {e:Env} {w:World} {d:Option Nat} {ty:TypeId} {pos:String} {af:Array Edge} {g:Option (Nat×Bool)}
theorem Z9h {x:Operand} {t:TypeId} {s:Str} [hu:Und P t .string] (hx:ev e x=some (str s)):OE P n ⟨d,.range t x,ty,pos,af,g⟩ e w (fun v w'=>∃ b,v=.pointer (some ⟨b,0,none⟩)∧w.heap.size≤b∧Itr w' b s 0∧Stp [] w w'):=
 Z07 (v:=.pointer (some ⟨w.heap.size,0,none⟩)) (w':=w.iter (bts s) 0) (fun a ha=>by
  have:=run_range_string (P:=P) w t (bts s) hu.h
  simp [execOp,ha.ev hx,this]) ⟨w.heap.size,rfl,Xl _,World.iter_heap _ _ _,Stp.alloc _ _ _⟩
theorem Zbm {x:Operand} {s:Str} {b p:Nat} (hx:ev e x=some (.pointer (some ⟨b,0,none⟩))) (hI:Itr w b s p) (hp:p<s.length) :
 OE P n ⟨d,.next x true,ty,pos,af,g⟩ e w (fun v w'=>v=.tuple #[.bool true,.int .i64 p,.int .i32 ((dec s p).1:Int)]∧Itr w' b s (p+(dec s p).2)∧Stp [b] w w'):=by
 have hlt:=hI.lt
 have hp':p<(bts s).size:=by rw [Z4h];exact hp
 unfold Itr at hI
 refine Z07 (v:=.tuple #[.bool true,.int .i64 p,.int .i32 ((dec s p).1:Int)]) (w':={ w with heap:=w.heap.setIfInBounds b (.stringIter (bts s) (p+(dec s p).2)) }) (fun a ha=>?_) ⟨rfl,?_,⟨rfl,rfl,rfl,by simp,fun k hk hn=>?_⟩⟩
 · simp [execOp,ha.ev hx,Instr.next,getObj,setObj,Sem.run,hI,hp',goInt,dec]
 show (w.heap.setIfInBounds b _)[b]?=_
 simp [hlt]
 show (w.heap.setIfInBounds b _)[k]?=_
 exact Yam (by simpa using fun h=>hn (by simp [h]))
theorem Z66 {x:Operand} {s:Str} {b p:Nat} (hx:ev e x=some (.pointer (some ⟨b,0,none⟩))) (hI:Itr w b s p) (hp:¬ p<s.length) :
 OE P n ⟨d,.next x true,ty,pos,af,g⟩ e w (fun v w'=>v=.tuple #[.bool false]∧w'=w):=by
 have hp':¬ p<(bts s).size:=by rw [Z4h];exact hp
 unfold Itr at hI
 refine Z07 (v:=.tuple #[.bool false]) (w':=w) (fun a ha=>?_) ⟨rfl,rfl⟩
 simp [execOp,ha.ev hx,Instr.next,getObj,Sem.run,hI,hp']
theorem Zek {x:Operand} {t:TypeId} {i:Nat} {u v:Value} (hx:ev e x=some u) (hb:∀ w,(Instr.field t u i).run P w=.ok v w):PR P n ⟨d,.field t x i,ty,pos,af,g⟩ e w v:=
 ⟨fun a ha=>by simp [execOp,ha.ev hx,hb]⟩
end
def Zcj (c:UInt8):Bool:=decide (97≤c.toNat) && decide (c.toNat≤122)
def J0 (c:UInt8):Bool:=decide (48≤c.toNat) && decide (c.toNat≤57)
def ldB (c:UInt8):Bool:=Zcj c || J0 c
def Z1v (s:Str):Nat:=s.foldl (fun n c=>10 * n+(c.toNat - 48)) 0
def Z0f (y:Int):Bool:=decide (y % 4=0) && (decide (¬ y % 100=0) || decide (y % 400=0))
def Zs (y m:Int):Int:=
 if m<1∨12<m then 0 else if m=2 then (if Z0f y then 29 else 28) else if m=4∨m=6∨m=9∨m=11 then 30 else 31
def Jn (y m d:Int):Int:=
 let (y,m):=if m - 3<0 then (y - 1,m+9) else (y,m - 3)
 365 * y+y / 4 - y / 100+y / 400+(153 * m+2) / 5+d - 307
def Z1r (s:Str):Int×Int:=
 if s.length=10∧s.getD 4 0=45∧s.getD 7 0=45∧((s.take 4).all J0∧((s.drop 5).take 2).all J0∧(s.drop 8).all J0) then
  let y:Int:=Z1v (s.take 4)
  let m:Int:=Z1v ((s.drop 5).take 2)
  let d:Int:=Z1v (s.drop 8)
  if y<1∨9999<y∨m<1∨12<m∨d<1∨Zs y m<d then (0,5) else (Jn y m d,0)
 else (0,7)
inductive Lx where
 | err (c:Int)
 | ok (t:Tkn)
def Z4i (s:Str):Lx:=let n:=(s.takeWhile ldB).length;if 12<n then .err 2 else .ok ⟨1,0,s.take n,0⟩
def Z3q (s:Str):Lx:=
 let t:=s.takeWhile J0
 if 1<t.length∧t.getD 0 0=48 then .err 20 else if 2147483647<Z1v t then .err 5 else .ok ⟨2,0,t,Z1v t⟩
def Je:Str:=[64,100,100,100,100,45,100,100,45,100,100]
def Z4j (c x:UInt8):Bool:=if c=100 then J0 x else decide (x=c)
def Z80 (s:Str):Lx:=
 if s.length<11 then .err 20 else if ((Je.zip s).all fun p=>Z4j p.1 p.2) then
  (let d:=Z1r ((s.take 11).drop 1);if d.2=0 then .ok ⟨3,0,s.take 11,d.1⟩ else .err 5)
 else .err 20
def Z9i:Str:=[123,125,40,41,59,44,43,45,42,60,61,62]
def JW (s:Str):Lx:=
 if s.take 2=[60,61]∨s.take 2=[33,61]∨s.take 2=[62,61] then .ok ⟨4,0,s.take 2,0⟩
 else if s.getD 0 0∈Z9i then .ok ⟨4,0,s.take 1,0⟩ else .err 20
def Z0R (s:Str):Lx:=
 let c:=s.getD 0 0
 if Zcj c then Z4i s else if J0 c then Z3q s else if c=64 then Z80 s else JW s
def Z4R (c:UInt8):Bool:=c=9 || c=10 || c=13 || c=32
inductive Tks where
 | err (a c:Int)
 | ok (l:List Tkn)
def Z0l (nl:Str→Nat) (s:Str):Nat→Nat→List Tkn→Tks
 | 0,at_,l=>.ok (l++[⟨0,at_,[],0⟩])
 | f + 1, at_, l=>
   if at_<s.length then
    let rest:=s.drop at_
    let c:=rest.getD 0 0
    if Z4R c then Z0l nl s f (at_+1) l
    else if c=35 then Z0l nl s f (at_+nl rest) l
    else match Z0R rest with
     | .err e=>.err at_ e
     | .ok t=>Z0l nl s f (at_+t.text.length) (l++[{ t with pos:=at_ }])
   else .ok (l++[⟨0,at_,[],0⟩])
structure Zel (t:Tkn):Prop where
 kind:t.kind≠0
 kinds:1≤t.kind∧t.kind≤4
 text:t.text≠[]
 sp:∀ c∈t.text,c≠32
 word:t.kind=1→t.text.length≤12∧(∀ c∈t.text,ldB c=true)∧Zcj (t.text.getD 0 0)=true
 num:t.kind=2→0≤t.num∧t.num≤2147483647
 day:t.kind=3→0≤t.num∧t.num≤3652058
theorem Z0z {p:UInt8→Bool}:∀ {l:Str} {c:UInt8},c∈l.takeWhile p→p c=true
 | [],c,h=>by simp at h
 | a :: r, c, h => by
   simp only [YaW] at h
   split at h
   rename_i ha
   rcases Xe.1 h with rfl|h
   exact ha
   exact Z0z h
   simp at h
theorem JJ {p:UInt8→Bool}:∀ (l:Str),l.take (l.takeWhile p).length=l.takeWhile p
 | []=>by simp
 | a :: r => by
   simp only [YaW]
   split
   simp [JJ r]
   simp
theorem ZnC {c:UInt8} (h:ldB c=true):c≠32:=by rintro rfl;revert h;decide
theorem Zem {c:UInt8} (h:J0 c=true):c≠32:=by rintro rfl;revert h;decide
theorem ZkX {c x:UInt8} (h:Z4j c x=true) (hc:c≠32):x≠32:=by
 unfold Z4j at h
 split at h
 exact Zem h
 simp at h;rw [h];exact hc
theorem Zbn {p:UInt8→UInt8→Bool}:∀ {a s:Str},a.length≤s.length→((a.zip s).all fun q=>p q.1 q.2)=true→∀ x∈s.take a.length,∃ c∈a,p c x=true
 | [],s,hl,h,x,hx=>by simp at hx
 | c :: a,[],hl,h,x,hx=>by simp at hl
 | c :: a, y :: s, hl, h, x, hx => by
   simp only [List.zip_cons_cons,YaI,Xi] at h
   simp only [Xc,YaG,Xe] at hx
   rcases hx with rfl|hx
   exact ⟨c,by simp,h.1⟩
   obtain ⟨d,hd,h'⟩:=Zbn (by simpa using hl) h.2 x hx
   exact ⟨d,by simp [hd],h'⟩
theorem Z0H (y m:Int):Zs y m≤31:=by
 unfold Zs
 repeat' split
 all_goals omega
theorem dayM_range {y m d:Int} (hy:1≤y) (hy2:y≤9999) (hm:1≤m) (hm2:m≤12) (hd:1≤d) (hd2:d≤Zs y m):0≤Jn y m d∧Jn y m d≤3652058:=by
 have h31:=Z0H y m
 have hm':m=1∨m=2∨m=3∨m=4∨m=5∨m=6∨m=7∨m=8∨m=9∨m=10∨m=11∨m=12:=by omega
 unfold Jn
 rcases hm' with rfl|rfl|rfl|rfl|rfl|rfl|rfl|rfl|rfl|rfl|rfl|rfl<;>simp<;>omega
theorem Z9j (s:Str):0≤(Z1r s).1∧(Z1r s).1≤3652058:=by
 unfold Z1r
 split
 simp only
 split
 simp
 rename_i h
 simp only [not_or,Int.not_lt] at h
 exact dayM_range h.1 h.2.1 h.2.2.1 h.2.2.2.1 h.2.2.2.2.1 h.2.2.2.2.2
 simp
theorem Z33 {s:Str} {t:Tkn} (hs:s≠[]) (hsp:s.getD 0 0≠32) (h:Z0R s=.ok t):Zel t∧t.text.length≤s.length∧t.text=s.take t.text.length:=by
 obtain ⟨a,r,rfl⟩:∃ a r,s=a :: r:=by cases s with|nil=>exact absurd rfl hs|cons a r=>exact ⟨a,r,rfl⟩
 simp only [Xz] at hsp
 unfold Z0R at h
 simp only [Xz] at h
 split at h
 rename_i hl
 unfold Z4i at h
 simp only at h
 split at h
 simp at h
 rename_i hn
 simp only [Lx.ok.injEq] at h
 subst h
 have hld:ldB a=true:=by simp [ldB,hl]
 have hne:(a :: r).takeWhile ldB=a :: r.takeWhile ldB:=by simp [hld]
 have ht:=JJ (p:=ldB) (a :: r)
 refine ⟨⟨by simp,by simp,?_,?_,fun _=>⟨?_,?_,?_⟩,by simp,by simp⟩,by simp;omega,by simp⟩
 simp only;rw [ht,hne];simp
 simp only;rw [ht];exact fun c hc=>ZnC (Z0z hc)
 simp only;rw [ht];omega
 simp only;rw [ht];exact fun c hc=>Z0z hc
 simp only;rw [ht,hne];simpa using hl
 split at h
 rename_i hl
 unfold Z3q at h
 simp only at h
 split at h
 simp at h
 split at h
 simp at h
 rename_i hn
 simp only [Lx.ok.injEq] at h
 subst h
 have hne:(a :: r).takeWhile J0=a :: r.takeWhile J0:=by simp [hl]
 have ht:=JJ (p:=J0) (a :: r)
 have hlen:=congrArg List.length ht
 simp only [Xw] at hlen
 refine ⟨⟨by simp,by simp,?_,?_,by simp,fun _=>⟨?_,?_⟩,by simp⟩,?_,?_⟩
 simp only;rw [hne];simp
 exact fun c hc=>Zem (Z0z hc)
 simp only;omega
 simp only;omega
 simp only;omega
 exact ht.symm
 split at h
 rename_i h64
 unfold Z80 at h
 split at h
 simp at h
 rename_i h11
 split at h
 rename_i hf
 simp only at h
 split at h
 simp only [Lx.ok.injEq] at h
 subst h
 have hd:=Z9j (((a :: r).take 11).drop 1)
 refine ⟨⟨by simp,by simp,by simp,?_,by simp,by simp,fun _=>hd⟩,by simp;omega,by simp⟩
 intro c hc
 obtain ⟨x,hx,h'⟩:=Zbn (a:=Je) (s:=a :: r) (by simp only [Je,Xc,Xd] at h11 ⊢;omega) hf c hc
 exact ZkX h' (by revert hx;simp only [Je];intro hx h0;subst h0;simp at hx)
 simp at h
 simp at h
 unfold JW at h
 split at h
 rename_i h2
 simp only [Lx.ok.injEq] at h
 subst h
 refine ⟨⟨by simp,by simp,by simp,?_,by simp,by simp,by simp⟩,by simp;omega,by simp⟩
 simp only
 intro c hc
 rcases h2 with h2|h2|h2<;>rw [h2] at hc<;>(rintro rfl;simp at hc)
 split at h
 simp only [Lx.ok.injEq] at h
 subst h
 refine ⟨⟨by simp,by simp,by simp,?_,by simp,by simp,by simp⟩,by simp,by simp⟩
 simp only [YaG,List.take_zero,Xp]
 rintro c rfl
 exact hsp
 simp at h
theorem Z2w {nl:Str→Nat} {s:Str} (hsl:s.length≤4000):∀ (f at_:Nat) (l l':List Tkn),(∀ t∈l,Zel t)→(∀ t∈l,t.text.length≤4000)→l.length≤at_→l.length≤s.length→Z0l nl s f at_ l=.ok l'→
 ∃ l1 p,l'=l1++[⟨0,p,[],0⟩]∧(∀ t∈l1,Zel t)∧(∀ t∈l1,t.text.length≤4000)∧l1.length≤s.length
 | 0, at_, l, l', h1, h2, h3, h4, h => by
   simp only [Z0l,Tks.ok.injEq] at h
   exact ⟨l,_,h.symm,h1,h2,h4⟩
 | f + 1, at_, l, l', h1, h2, h3, h4, h => by
   simp only [Z0l] at h
   split at h
   rename_i hlt
   split at h
   exact Z2w hsl f _ _ _ h1 h2 (by omega) h4 h
   split at h
   exact Z2w hsl f _ _ _ h1 h2 (by omega) h4 h
   · rename_i hnsp _
     cases hr:Z0R (s.drop at_) with
     | err e=>rw [hr] at h;simp at h
     | ok t=>
       rw [hr] at h
       simp only at h
       obtain ⟨g1,g2,g3⟩:=Z33 (s:=s.drop at_) (by simp;omega) (by rintro h32;rw [h32] at hnsp;exact hnsp (by decide)) hr
       have hpos:1≤t.text.length:=by
        have:=g1.text
        cases ht:t.text with
        | nil=>exact absurd ht this
        | cons a r=>simp
       have hlen:t.text.length≤s.length - at_:=by simpa using g2
       refine Z2w hsl f _ _ _ ?_ ?_ ?_ ?_ h
       intro u hu
       rcases Xs.1 hu with hu|hu
       exact h1 u hu
       simp only [Xp] at hu
       subst hu
       exact ⟨g1.kind,g1.kinds,g1.text,g1.sp,g1.word,g1.num,g1.day⟩
       intro u hu
       rcases Xs.1 hu with hu|hu
       exact h2 u hu
       simp only [Xp] at hu
       subst hu
       simp only
       omega
       simp;omega
       simp;omega
   simp only [Tks.ok.injEq] at h
   exact ⟨l,_,h.symm,h1,h2,h4⟩
theorem Zgp {l1:List Tkn} {p:Int} (h1:∀ t∈l1,Zel t) (h2:∀ t∈l1,t.text.length≤4000) (h3:l1.length≤4000):Z32 (l1++([⟨0,p,[],0⟩]:List Tkn)):=by
 have hc:∀ i,cur (l1++([⟨0,p,[],0⟩]:List Tkn)) i=⟨0,p,[],0⟩∨cur (l1++([⟨0,p,[],0⟩]:List Tkn)) i=default∨cur (l1++([⟨0,p,[],0⟩]:List Tkn)) i∈l1:=by
  intro i
  unfold cur
  rw [Xt,List.getElem?_append]
  split
  rename_i h
  right;right
  simp [h]
  · cases hk:i - l1.length with
    | zero=>left;simp
    | succ j=>right;left;simp
 refine ⟨by simp,?_,?_,by simp;omega,?_,?_⟩
 have:cur (l1++([⟨0,p,[],0⟩]:List Tkn)) ((l1++([⟨0,p,[],0⟩]:List Tkn)).length - 1)=⟨0,p,[],0⟩:=by
  unfold cur
  simp
 rw [this]
 exact ⟨rfl,rfl⟩
 intro i hi
 have hi2:i<l1.length:=by simpa using hi
 have:cur (l1++([⟨0,p,[],0⟩]:List Tkn)) i=l1[i]:=by
  unfold cur
  rw [Xt,X3 hi2]
  simp [hi2]
 rw [this]
 have:=h1 _ (Xf hi2)
 exact ⟨this.kind,this.text⟩
 intro i c hcm
 rcases hc i with h|h|h
 rw [h] at hcm;simp at hcm
 rw [h] at hcm;simp [default] at hcm
 exact (h1 _ h).sp c hcm
 intro i
 rcases hc i with h|h|h
 rw [h];simp
 rw [h];simp [default]
 exact h2 _ h
def JF (s:Str) (p:Nat→Bool):Nat→Nat→Nat
 | 0,_=>s.length
 | f+1,i=>if i<s.length then (if p (dec s i).1 then JF s p f (i+(dec s i).2) else i) else s.length
theorem Z75 (s:Str) (p:Nat→Bool):∀ (f i:Nat),JF s p f i≤s.length
 | 0,i=>Xl _
 | f + 1, i => by
   unfold JF
   split
   split
   exact Z75 s p f _
   omega
   exact Xl _
theorem Z76 (s:Str) (p:Nat→Bool):∀ (f i:Nat),i≤s.length→i≤JF s p f i
 | 0,i,h=>h
 | f + 1, i, h => by
   unfold JF
   split
   split
   by_cases hw:i+(dec s i).2≤s.length
   exact Xj (Nat.le_add_right _ _) (Z76 s p f _ hw)
   · have:∀ f j,s.length<j→JF s p f j=s.length:=fun f j hj=>by
      cases f with
      | zero=>rfl
      | succ f=>unfold JF;rw [if_neg (by omega)]
     rw [this _ _ (by omega)]
     omega
   exact Xl _
   exact h
theorem Z2x (p:Nat→Bool) (q:UInt8→Bool) (hq:∀ c:UInt8,c.toNat<128→p c.toNat=q c) (hp:∀ n,128≤n→p n=false) (hq2:∀ c:UInt8,128≤c.toNat→q c=false) (s:Str) :
 ∀ (f i:Nat),i≤s.length→s.length≤i+f→JF s p f i=i+((s.drop i).takeWhile q).length
 | 0, i, h1, h2 => by
   have:i=s.length:=by omega
   subst this
   simp [JF]
 | f + 1, i, h1, h2 => by
   unfold JF
   by_cases hlt:i<s.length
   rw [if_pos hlt]
   have hd:s.drop i=s[i] :: s.drop (i+1):=XG hlt
   rw [hd,YaW]
   by_cases ha:(s[i]).toNat<128
   rw [Z3p hlt ha]
   simp only [hq _ ha]
   split
   rw [Z2x p q hq hp hq2 s f (i+1) (by omega) (by omega),Xc];omega
   simp
   have h3:=(Z9g hlt (by omega)).1
   rw [hp _ h3,hq2 _ (by omega)]
   simp
   rw [if_neg hlt]
   rw [Yaf (by omega)]
   simp;omega
def Z81 (n:Nat):Bool:=decide (97≤n) && decide (n≤122)
def Z4S (n:Nat):Bool:=decide (48≤n) && decide (n≤57)
def Z67 (n:Nat):Bool:=decide (¬ n=10)
def nlM (s:Str):Nat:=JF s Z67 s.length 0
def Z1S (s:Str):Tks:=if 4000<s.length then .err 4000 2 else Z0l nlM s (s.length+1) 0 []
theorem Zck (s:Str):JF s Z4S s.length 0=(s.takeWhile J0).length:=by
 rw [Z2x Z4S J0 (fun c h=>rfl) (fun n h=>by unfold Z4S;simp;omega) (fun c h=>by unfold J0;simp;omega) s s.length 0 (by omega) (by omega)]
 simp
theorem Zen (s:Str):JF s (fun n=>Z81 n || Z4S n) s.length 0=(s.takeWhile ldB).length:=by
 rw [Z2x (fun n=>Z81 n || Z4S n) ldB (fun c h=>rfl) (fun n h=>by unfold Z81 Z4S;simp;omega) (fun c h=>by unfold ldB Zcj J0;simp;omega) s s.length 0 (by omega) (by omega)]
 simp
end Go.Eng
namespace Go.Proofs.YtjdjdoefppebkaaGreatDoor
open Go Go.Eng Go.RowKit Go.Proofs
theorem Z68 (c:Nat) (w:World):CC 207 #[.int .i32 (c:Int)] w fun r w'=>r=.bool (Z81 c)∧w'=w:=by
 unfold Z81
 refine cW1 9 Tryz.func207 ?_
 repeat'(first|refine W1 ?_|omega|refine VG ?_ ?_<;>intro hg|refine VC ?_ ?_<;>intro hc)
 all_goals refine WR ?_
 all_goals refine .mk ⟨?_,rfl⟩
 all_goals congr 1
 all_goals (first|done|(rw [X2];simp;omega)|(simp [*]))
theorem Z3r (c:Nat) (w:World):CC 209 #[.int .i32 (c:Int)] w fun r w'=>r=.bool (Z4S c)∧w'=w:=by
 unfold Z4S
 refine cW1 9 Tryz.func209 ?_
 repeat'(first|refine W1 ?_|omega|refine VG ?_ ?_<;>intro hg|refine VC ?_ ?_<;>intro hc)
 all_goals refine WR ?_
 all_goals refine .mk ⟨?_,rfl⟩
 all_goals congr 1
 all_goals (first|done|(rw [X2];simp;omega)|(simp [*]))
theorem ZkY (c:Nat) (w:World):CC 206 #[.int .i32 (c:Int)] w fun r w'=>r=.bool (Z67 c)∧w'=w:=by
 unfold Z67
 refine cW1 5 Tryz.func206 ?_
 repeat'(first|refine W1 ?_|omega|refine VG ?_ ?_<;>intro hg|refine VC ?_ ?_<;>intro hc)
 all_goals refine WR ?_
 all_goals refine .mk ⟨?_,rfl⟩
 all_goals congr 1
 all_goals (first|done|(rw [X2];simp;omega)|(simp [*]))
theorem ZkZ (c:Nat) (w:World):CC 270 #[.int .i32 (c:Int)] w fun r w'=>r=.bool (Z81 c || Z4S c)∧w'=w:=by
 refine cW1 9 Tryz.func270 ?_
 refine W ?_
 refine CL rfl (Zm rfl) rfl (Z68 c _) ?_
 rintro _ _ ⟨rfl,rfl⟩
 cases Z81 c
 refine W ?_
 refine CL rfl (Zm rfl) rfl (Z3r c _) ?_
 rintro _ _ ⟨rfl,rfl⟩
 refine W ?_
 refine WR ?_
 exact .mk ⟨rfl,rfl⟩
 refine W ?_
 refine WR ?_
 exact .mk ⟨rfl,rfl⟩
theorem Z4T {g:Nat} {fn:Func} [hf:Fun Tryz.prog g fn] (p:Nat→Bool) (hg:∀ (c:Nat) (w:World),CC g #[.int .i32 (c:Int)] w fun r w'=>r=.bool (p c)∧w'=w) (s:Str) (w:World) (hl:s.length≤1000000) :
 CC 205 #[str s,.func (.func g) #[] #[]] w fun r w'=>r=.int .i64 (JF s p s.length 0:Int)∧Stp [] w w':=by
 refine cW2 20 Tryz.func205 ?_
 refine W ?_
 refine Z1 (Z9h rfl) rfl ?_
 rintro _ w1 ⟨b,rfl,hb,hI,hS⟩
 refine W ?_
 refine Zr (σ:=Nat×Nat) (fun q=>[(0,str s),(1,.func (.func g) #[] #[]),(8,.pointer (some ⟨b,0,none⟩))]) (fun q w'=>Itr w' b s q.2∧Stp [] w w'∧JF s p q.1 q.2=JF s p s.length 0∧s.length≤q.2+q.1) (fun q=>q.1+1 - (if q.2<s.length then 0 else 1)) (s.length,0) ⟨rfl,rfl,rfl,trivial⟩ ⟨hI,hS,rfl,by omega⟩ ?_
 rintro ⟨f,i⟩ w2 ⟨hI,hS,he,hfl⟩
 dsimp only at hI hS he hfl ⊢
 generalize JF s p s.length 0=R at he ⊢
 by_cases hlt:i<s.length
 obtain ⟨f,rfl⟩:∃ f',f=f'+1:=⟨f - 1,by omega⟩
 have hd:=Zgo hlt
 unfold JF at he
 rw [if_pos hlt] at he
 refine W ?_
 refine Z1 (Zbm rfl hI hlt) rfl ?_
 rintro _ w3 ⟨rfl,hI3,hT⟩
 replace hS:=hS.own hT (fun c hc=>.inr (by simp at hc;omega))
 refine W ?_
 refine CL rfl (Zm rfl) rfl (hg _ _) ?_
 rintro _ _ ⟨rfl,rfl⟩
 cases hpc:p (dec s i).1
 rw [hpc] at he
 refine W ?_
 refine WR ?_
 simp only [XE,if_false] at he
 exact .mk ⟨by rw [← he];rfl,hS⟩
 · rw [hpc] at he
   refine W ?_
   refine Zg (f,i+(dec s i).2) ⟨rfl,rfl,rfl,trivial⟩ ⟨hI3,hS,he,by dsimp only;omega⟩ ?_
   dsimp only
   repeat' split
   all_goals omega
 · refine W ?_
   refine Z1 (Z66 rfl hI hlt) rfl ?_
   rintro _ _ ⟨rfl,rfl⟩
   refine W ?_
   refine WR ?_
   refine .mk ⟨?_,hS⟩
   rw [← he]
   cases f with
   | zero=>rfl
   | succ f=>unfold JF;rw [if_neg hlt]
end Go.Proofs.YtjdjdoefppebkaaGreatDoor
namespace Go.Eng
open Go Go.RowKit Go.Proofs
def Z4k (d:Nat):Nat:=(d - d / 1460+d / 36524 - d / 146096) / 365
def Z4U (y:Nat):Nat:=365 * y+y / 4 - y / 100
def Zeo (y:Nat):Bool:=Nat.beq (y % 4) 0 && (!(Nat.beq (y % 100) 0) || Nat.beq (y % 400) 0)
def Zl0 (d:Nat):Bool:=Nat.ble 146097 d || (Nat.ble (Z4U (Z4k d)) d && (Nat.blt d (Z4U (Z4k d)+365) || (Nat.beq d (Z4U (Z4k d)+365) && Zeo (Z4k d+1))))
def Zep:Nat→Nat→Bool
 | 0,lo=>Zl0 lo
 | k+1,lo=>Zep k lo && Zep k (lo+2 ^ k)
theorem Z4V:∀ (k lo d:Nat),Zep k lo=true→lo≤d→d<lo+2 ^ k→Zl0 d=true
 | 0, lo, d, h, h1, h2 => by
   have:d=lo:=by simp at h2;omega
   subst this
   exact h
 | k + 1, lo, d, h, h1, h2 => by
   simp only [Zep,Xi] at h
   rw [Nat.pow_succ] at h2
   rcases Yae d (lo+2 ^ k) with h3|h3
   exact Z4V k lo d h.1 h1 h3
   exact Z4V k (lo+2 ^ k) d h.2 h3 (by omega)
theorem Zeq:Zep 18 0=true:=by kernel_rfl
theorem Zes (y:Nat):Zeo y=Z0f (y:Int):=by
 unfold Zeo Z0f
 have h:∀ a b:Nat,Nat.beq (a % b) 0=decide ((a:Int) % (b:Int)=0):=fun a b=>by
  rw [X2]
  simp only [decide_eq_true_eq]
  rw [Nat.beq_eq]
  omega
 rw [show Nat.beq (y % 4) 0=decide ((y:Int) % 4=0) from h y 4,show Nat.beq (y % 100) 0=decide ((y:Int) % 100=0) from h y 100,show Nat.beq (y % 400) 0=decide ((y:Int) % 400=0) from h y 400]
 simp
structure Dat where
 y:Int
 m:Int
 d:Int
def ofM (day:Int):Dat:=
 let z:=day+306
 let era:=z / 146097
 let doe:=z % 146097
 let yoe:=(doe - doe / 1460+doe / 36524 - doe / 146096) / 365
 let doy:=doe - (365 * yoe+yoe / 4 - yoe / 100)
 let m:=(5 * doy+2) / 153
 if m≥10 then ⟨yoe+400 * era+1,m - 9,doy - (153 * m+2) / 5+1⟩ else ⟨yoe+400 * era,m+3,doy - (153 * m+2) / 5+1⟩
theorem Zet:∀ q:Nat,q<366→(5 * q+2) / 153≤11∧(153 * ((5 * q+2) / 153)+2) / 5≤q∧
 q - (153 * ((5 * q+2) / 153)+2) / 5+1≤(if (5 * q+2) / 153=11 then (if q=365 then 29 else 28) else if (5 * q+2) / 153=1∨(5 * q+2) / 153=3∨(5 * q+2) / 153=6∨(5 * q+2) / 153=8 then 30 else 31):=by decide +kernel
theorem Zeu (doe:Int) (h0:0≤doe) (h1:doe<146097):∃ yoe doy:Nat,(doe - doe / 1460+doe / 36524 - doe / 146096) / 365=(yoe:Int)∧doe - (365 * (yoe:Int)+(yoe:Int) / 4 - (yoe:Int) / 100)=(doy:Int)∧yoe≤399∧doy≤365∧(doy=365→Z0f ((yoe:Int)+1)=true):=by
 obtain ⟨d,rfl⟩:∃ d:Nat,doe=(d:Int):=⟨doe.toNat,by omega⟩
 have hd:d<146097:=by omega
 have h:=Z4V 18 0 d Zeq (by omega) (by omega)
 unfold Zl0 at h
 rw [show Nat.ble 146097 d=false by rw [Ya1];simp;omega] at h
 simp only [Yay,Xi,Ya8,Nat.ble_eq,Nat.beq_eq] at h
 obtain ⟨h2,h3⟩:=h
 have hy:((d:Int) - (d:Int) / 1460+(d:Int) / 36524 - (d:Int) / 146096) / 365=((Z4k d:Nat):Int):=by unfold Z4k;omega
 have hyle:Z4k d≤399:=by unfold Z4k;omega
 have hst:(Z4U (Z4k d):Int)=365 * (Z4k d:Int)+(Z4k d:Int) / 4 - (Z4k d:Int) / 100:=by unfold Z4U;omega
 refine ⟨Z4k d,d - Z4U (Z4k d),hy,by omega,hyle,?_,fun h4=>?_⟩
 rcases h3 with h3|h3
 have:=XS h3;omega
 have:=h3.1;omega
 rcases h3 with h3|h3
 have:=XS h3;omega
 have:=h3.2;rw [Zes] at this;exact this
theorem Zcl (y e:Int):Z0f (y+400 * e)=Z0f y:=by
 unfold Z0f
 have h4:(y+400 * e) % 4=y % 4:=by omega
 have h100:(y+400 * e) % 100=y % 100:=by omega
 have h400:(y+400 * e) % 400=y % 400:=by omega
 rw [h4,h100,h400]
theorem Z3T {n:Int} (h0:0≤n) (h1:n≤3652058):1≤(ofM n).y∧(ofM n).y≤9999∧1≤(ofM n).m∧(ofM n).m≤12∧1≤(ofM n).d∧(ofM n).d≤Zs (ofM n).y (ofM n).m∧Jn (ofM n).y (ofM n).m (ofM n).d=n:=by
 obtain ⟨yoe,doy,e1,e2,hy,hd,hl⟩:=Zeu ((n+306) % 146097) (by omega) (by omega)
 obtain ⟨m1,m2,m3⟩:=Zet doy (by omega)
 have hera:(n+306) / 146097 * 146097+(n+306) % 146097=n+306:=by omega
 unfold ofM
 simp only
 rw [e1,e2]
 have em:(5 * (doy:Int)+2) / 153=(((5 * doy+2) / 153:Nat):Int):=by omega
 rw [em]
 have ek:(153 * (((5 * doy+2) / 153:Nat):Int)+2) / 5=(((153 * ((5 * doy+2) / 153)+2) / 5:Nat):Int):=by omega
 rw [ek]
 generalize (n+306) / 146097=era at *
 generalize (n+306) % 146097=doe at *
 have hk5:∀ m:Nat,m≤11→(153 * (m:Int)+2) / 5=(((153 * m+2) / 5:Nat):Int):=fun m _=>by omega
 generalize hm:(5 * doy+2) / 153=m at *
 have q4:((yoe:Int)+400 * era) / 4=(yoe:Int) / 4+100 * era:=by omega
 have q100:((yoe:Int)+400 * era) / 100=(yoe:Int) / 100+4 * era:=by omega
 have q400:((yoe:Int)+400 * era) / 400=era:=by omega
 by_cases h10:((m:Nat):Int)≥10
 rw [if_pos h10]
 simp only
 have hday:Jn ((yoe:Int)+400 * era+1) ((m:Int) - 9) ((doy:Int) - (((153 * m+2) / 5:Nat):Int)+1)=n:=by
  unfold Jn
  rw [if_pos (by omega)]
  simp only
  rw [show (yoe:Int)+400 * era+1 - 1=(yoe:Int)+400 * era by omega,show (m:Int) - 9+9=(m:Int) by omega,hk5 m m1,q4,q100,q400]
  omega
 refine ⟨?_,?_,by omega,by omega,by omega,?_,hday⟩
 omega
 omega
 have hm':m=10∨m=11:=by omega
 rcases hm' with rfl|rfl
 unfold Zs
 rw [if_neg (by omega),if_neg (by omega),if_neg (by omega)]
 rw [if_neg (by omega),if_neg (by omega)] at m3
 omega
 unfold Zs
 rw [if_neg (by omega),if_pos (by omega)]
 rw [if_pos rfl] at m3
 by_cases h365:doy=365
 rw [if_pos h365] at m3
 have hlp:Z0f ((yoe:Int)+400 * era+1)=true:=by
  rw [show (yoe:Int)+400 * era+1=((yoe:Int)+1)+400 * era by omega,Zcl]
  exact hl h365
 rw [hlp]
 simp only [if_true]
 omega
 rw [if_neg h365] at m3
 split<;>omega
 rw [if_neg h10]
 simp only
 have hday:Jn ((yoe:Int)+400 * era) ((m:Int)+3) ((doy:Int) - (((153 * m+2) / 5:Nat):Int)+1)=n:=by
  unfold Jn
  rw [if_neg (by omega)]
  simp only
  rw [show (m:Int)+3 - 3=(m:Int) by omega,hk5 m m1,q4,q100,q400]
  omega
 refine ⟨?_,?_,by omega,by omega,by omega,?_,hday⟩
 omega
 omega
 unfold Zs
 rw [if_neg (by omega),if_neg (by omega)]
 rw [if_neg (by omega)] at m3
 split at m3
 rw [if_pos (by omega)];omega
 rw [if_neg (by omega)];omega
def ZT (y:Int):Int:=365 * (y - 1)+(y - 1) / 4 - (y - 1) / 100+(y - 1) / 400
def Jv (y:Int):Nat→Int
 | 0=>0
 | k+1=>Jv y k+Zs y ((k:Int)+1)
theorem Z77 (y:Int):Z0f y=true↔(y % 4=0∧(¬ y % 100=0∨y % 400=0)):=by
 unfold Z0f
 simp
theorem Z34 (y:Int):ZT (y+1)=ZT y+(if Z0f y=true then 366 else 365):=by
 unfold ZT
 have h:=Z77 y
 by_cases hl:Z0f y=true
 rw [if_pos hl]
 have:=h.1 hl
 omega
 rw [if_neg hl]
 have:¬ (y % 4=0∧(¬ y % 100=0∨y % 400=0)):=fun h'=>hl (h.2 h')
 omega
theorem Z0g {a b:Int} (h:a≤b):ZT a≤ZT b:=by
 unfold ZT;omega
theorem Z0h {y:Int} {k:Nat} (hk:k<12):28≤Zs y ((k:Int)+1):=by
 unfold Zs
 rw [if_neg (by omega)]
 repeat' split
 all_goals omega
theorem Zgq (y:Int):∀ k:Nat,k≤11→Jv y k=(if k<2 then 31 * (k:Int) else (if Z0f y=true then 1 else 0)+(153 * ((k:Int) - 2)+2) / 5+59):=by
 intro k hk
 have:k=0∨k=1∨k=2∨k=3∨k=4∨k=5∨k=6∨k=7∨k=8∨k=9∨k=10∨k=11:=by omega
 rcases this with rfl|rfl|rfl|rfl|rfl|rfl|rfl|rfl|rfl|rfl|rfl|rfl<;>simp [Jv,Zs]<;>cases Z0f y<;>simp
theorem Zbo (y:Int):Jv y 12=if Z0f y=true then 366 else 365:=by
 simp [Jv,Zs]
 cases Z0f y<;>simp
theorem Z1k (y d:Int) (k:Nat) (hk:k≤11):Jn y ((k:Int)+1) d=ZT y+Jv y k+d - 1:=by
 rw [Zgq y k hk]
 unfold Jn
 by_cases h2:k<2
 rw [if_pos h2,if_pos (by omega)]
 simp only
 unfold ZT
 omega
 rw [if_neg h2,if_neg (by omega)]
 simp only
 have h:=Z34 y
 have hl:=Z77 y
 have e:(153 * ((k:Int)+1 - 3)+2) / 5=(153 * ((k:Int) - 2)+2) / 5:=by congr 2;omega
 rw [e]
 generalize (153 * ((k:Int) - 2)+2) / 5=z
 have e2:ZT (y+1)=365 * y+y / 4 - y / 100+y / 400:=by unfold ZT;omega
 rw [e2] at h
 by_cases hl':Z0f y=true
 rw [if_pos hl'] at h ⊢;omega
 rw [if_neg hl'] at h ⊢;omega
theorem JK {y:Int}:∀ {a b:Nat},a≤b→b≤12→Jv y a≤Jv y b
 | a, 0, h, _ => by obtain rfl : a = 0 := by omega
                    exact Yak _
 | a, b + 1, h, h2 => by
   by_cases e:a=b+1
   subst e;exact Yak _
   have:=JK (y:=y) (a:=a) (b:=b) (by omega) (by omega)
   have:=Z0h (y:=y) (k:=b) (by omega)
   simp only [Jv];omega
theorem Zcm {n:Int} (h0:0≤n) (h1:n≤3652058):∃ k:Nat,k≤11∧(ofM n).m=(k:Int)+1∧1≤(ofM n).y∧(ofM n).y≤9999∧n=ZT (ofM n).y+Jv (ofM n).y k+(ofM n).d - 1∧1≤(ofM n).d∧(ofM n).d≤Zs (ofM n).y ((k:Int)+1)∧ZT (ofM n).y≤n∧n<ZT ((ofM n).y+1):=by
 obtain ⟨g1,g2,g3,g4,g5,g6,g7⟩:=Z3T h0 h1
 obtain ⟨k,hk⟩:∃ k:Nat,(ofM n).m=(k:Int)+1:=⟨((ofM n).m - 1).toNat,by omega⟩
 have hk11:k≤11:=by omega
 rw [hk] at g6 g7
 rw [Z1k _ _ k hk11] at g7
 have c0:=JK (y:=(ofM n).y) (a:=0) (b:=k) (by omega) (by omega)
 have c1:=JK (y:=(ofM n).y) (a:=k+1) (b:=12) (by omega) (by omega)
 have c2:=Zbo (ofM n).y
 have c3:=Z34 (ofM n).y
 rw [c2,show Jv (ofM n).y (k+1)=Jv (ofM n).y k+Zs (ofM n).y ((k:Int)+1) from rfl] at c1
 rw [show Jv (ofM n).y 0=0 from rfl] at c0
 exact ⟨k,hk11,hk,g1,g2,g7.symm,g5,g6,by omega,by omega⟩
end Go.Eng
namespace Go.Proofs.YtjdjdoefppebkaaGreatDoor
open Go Go.Eng Go.RowKit Go.Proofs
def Z4l:List Int:=[0,31,28,31,30,31,30,31,31,30,31,30,31]
def Z0q (w:World):Prop:=∀ i u,Z4l[i]?=some u→w.cell? ⟨1,i,none⟩=some (.int .i64 u)
theorem Z0q.ext {S:List Nat} {w w':World} (h:Z0q w) (hS:Stp S w w') (hb:1∉S):Z0q w':=fun i u hu=>hS.cell hb (h i u hu)
theorem Z0q.up {w w':World} (h:Z0q w) (hS:Stp [] w w'):Z0q w':=h.ext hS (by simp)
theorem Zev (y:Int) (w:World) (h0:0≤y) (h1:y≤100000):CC 310 #[.int .i64 y] w fun r w'=>r=.bool (Z0f y)∧w'=w:=by
 unfold Z0f
 refine cW1 16 Tryz.func310 ?_
 repeat'(first|refine W1 ?_|omega|refine VG ?_ ?_<;>intro hg|refine VC ?_ ?_<;>intro hc)
 all_goals refine WR ?_
 all_goals refine .mk ⟨?_,rfl⟩
 all_goals congr 1
 all_goals (first|done|(rw [X2];simp;omega)|(simp [*]))
theorem Z2y (y m:Int) (w:World) (hL:Z0q w) (h0:0≤y) (h1:y≤100000):CC 282 #[.int .i64 y,.int .i64 m] w fun r w'=>r=.int .i64 (Zs y m)∧w'=w:=by
 unfold Zs
 refine cW2 22 Tryz.func282 ?_
 by_cases hm:m<1∨12<m
 · rw [if_pos hm]
   repeat'(first|refine W1 ?_|omega|refine VG ?_ ?_<;>intro hg|refine VC ?_ ?_<;>intro hc)
   all_goals refine WR ?_
   all_goals exact .mk ⟨rfl,rfl⟩
 rw [if_neg hm]
 obtain ⟨k,rfl⟩:∃ k:Nat,m=(k:Int):=⟨m.toNat,by omega⟩
 have hk:k<13:=by omega
 have hcell:w.cell? ⟨1,0+k * 1,none⟩=some (.int .i64 (Z4l.getD k 0)):=hL _ _ (by
  have:k<Z4l.length:=hk
  simp [List.getD,this])
 by_cases h2:(k:Int)=2
 rw [if_pos h2]
 focus repeat'(first|refine W1 ?_|omega|refine VG ?_ ?_<;>intro hg|refine VC ?_ ?_<;>intro hc)
 refine CL rfl (Zm rfl) rfl (Zev y _ h0 h1) ?_
 rintro _ _ ⟨rfl,rfl⟩
 cases hl:Z0f y
 refine W ?_
 refine Zd (Z0L rfl rfl hcell) rfl ?_
 refine W ?_
 refine WR ?_
 obtain rfl:k=2:=by omega
 exact .mk ⟨rfl,rfl⟩
 refine W ?_
 refine WR ?_
 exact .mk ⟨rfl,rfl⟩
 rw [if_neg h2]
 focus repeat'(first|refine W1 ?_|omega|refine VG ?_ ?_<;>intro hg|refine VC ?_ ?_<;>intro hc)
 refine Zd (Z0L rfl rfl hcell) rfl ?_
 refine W ?_
 refine WR ?_
 refine .mk ⟨?_,rfl⟩
 congr 1
 have:k=1∨k=3∨k=4∨k=5∨k=6∨k=7∨k=8∨k=9∨k=10∨k=11∨k=12:=by omega
 rcases this with rfl|rfl|rfl|rfl|rfl|rfl|rfl|rfl|rfl|rfl|rfl<;>rfl
abbrev Z82 (y m d:Int):Value:=.agg #[.int .i64 y,.int .i64 m,.int .i64 d]
def Z0i (y m d:Int):Prop:=y<1∨9999<y∨m<1∨12<m∨d<1∨Zs y m<d
instance (y m d:Int):Decidable (Z0i y m d):=by unfold Z0i;infer_instance
theorem Zau (y m d:Int) (w:World) (hL:Z0q w):CC 325 #[Z82 y m d] w fun r w'=>r=.int .i64 (if Z0i y m d then 5 else 0)∧Stp [] w w':=by
 refine cW1 36 Tryz.func325 ?_
 refine W ?_
 refine Z1 (Zo rfl) rfl ?_
 rintro _ w1 ⟨b,rfl,hb,hblk,hS⟩
 replace hblk:Blk w1 b 291 [.int .i64 y,.int .i64 m,.int .i64 d]:=hblk
 replace hL:=hL.up hS
 refine W ?_
 refine ZDr 33 [] [] [(0,0),(1,1),(2,0),(3,0),(4,0),(5,1),(6,0),(7,0),(8,0),(9,0),(10,1),(11,0),(12,0),(13,0),(14,0),(15,1),(16,0),(17,0),(18,0),(19,0),(20,1),(21,0),(22,0),(23,0),(24,0),(25,1),(26,0),(27,1),(28,0),(29,1),(30,2),(31,0),(32,0)] (fun w1 hS1=>?_)
 replace hblk:=hblk.up hS1
 replace hL:=hL.up hS1
 replace hS:=hS.trans hS1
 clear hS1
 by_cases hg:y<1∨9999<y∨m<1∨12<m∨d<1
 · have hbad:Z0i y m d:=by unfold Z0i;omega
   rw [if_pos hbad]
   repeat'(first|refine D1 ?_|omega|refine J6 rfl rfl rfl rfl (fun hg=>?_) (fun hg=>?_)|(refine ZX rfl rfl rfl rfl (fun hg=>?_) (fun hg=>?_)<;>refine D1 ?_)|fail)
   all_goals repeat'(first|refine W1 ?_|omega|refine VG ?_ ?_<;>intro hg|refine VC ?_ ?_<;>intro hc)
   all_goals refine WR ?_
   all_goals exact .mk ⟨rfl,hS⟩
 · repeat'(first|refine D1 ?_|omega|refine J6 rfl rfl rfl rfl (fun hg=>?_) (fun hg=>?_)|(refine ZX rfl rfl rfl rfl (fun hg=>?_) (fun hg=>?_)<;>refine D1 ?_)|fail)
   refine Za rfl rfl (Z4 rfl (Zb rfl rfl) (Z2y y m _ hL (by omega) (by omega))) (fun _ _ h=>by rw [h.2];exact Stp.refl _ _) rfl ?_
   rintro _ w3 ⟨rfl,rfl⟩
   repeat'(first|refine D1 ?_|omega|refine J6 rfl rfl rfl rfl (fun hg=>?_) (fun hg=>?_)|(refine ZX rfl rfl rfl rfl (fun hg=>?_) (fun hg=>?_)<;>refine D1 ?_)|fail)
   all_goals repeat'(first|refine W1 ?_|omega|refine VG ?_ ?_<;>intro hg|refine VC ?_ ?_<;>intro hc)
   refine WR ?_
   exact .mk ⟨by rw [if_pos (by unfold Z0i;omega)],hS⟩
   refine WR ?_
   exact .mk ⟨by rw [if_neg (by unfold Z0i;omega)],hS⟩
theorem Z3U (y m d:Int) (w:World) (hy:0≤y) (hy2:y≤100000) (hm:1≤m) (hm2:m≤12) (hd:0≤d) (hd2:d≤100000) (h1:m - 3<0→1≤y):CC 283 #[Z82 y m d] w fun r w'=>r=.int .i64 (Jn y m d)∧Stp [] w w':=by
 refine cW1 36 Tryz.func283 ?_
 refine W ?_
 refine Z1 (Zo rfl) rfl ?_
 rintro _ w1 ⟨b,rfl,hb,hblk,hS⟩
 replace hblk:Blk w1 b 291 [.int .i64 y,.int .i64 m,.int .i64 d]:=hblk
 refine W ?_
 refine ZDr 7 [] [] [(0,0),(1,1),(2,0),(3,1),(4,0),(5,0),(6,0)] (fun w1 hS1=>?_)
 replace hblk:=hblk.up hS1
 replace hS:=hS.trans hS1
 clear hS1
 refine D ?_
 repeat'(first|refine W1 ?_|omega|refine VG ?_ ?_<;>intro hg|refine VC ?_ ?_<;>intro hc)
 all_goals refine WR ?_
 all_goals refine .mk ⟨?_,hS⟩
 all_goals unfold Jn
 rw [if_pos (by assumption)]
 congr 1
 dsimp only
 omega
 rw [if_neg (by assumption)]
theorem Z69 (y m d:Int) (w:World) (hL:Z0q w):CC 306 #[Z82 y m d] w fun r w'=>r=.tuple #[.int .i64 (if Z0i y m d then 0 else Jn y m d),.int .i64 (if Z0i y m d then 5 else 0)]∧Stp [] w w':=by
 refine cW1 12 Tryz.func306 ?_
 refine W ?_
 refine Z1 (Zo rfl) rfl ?_
 rintro _ w1 ⟨b,rfl,hb,hblk,hS⟩
 replace hblk:Blk w1 b 291 [.int .i64 y,.int .i64 m,.int .i64 d]:=hblk
 replace hL:=hL.up hS
 refine W ?_
 refine CL rfl (Zm rfl) rfl (Zau y m d _ hL) ?_
 rintro _ w2 ⟨rfl,hT⟩
 replace hblk:=hblk.up hT
 replace hS:=hS.trans hT
 clear hT
 by_cases hbad:Z0i y m d
 rw [if_pos hbad,if_pos hbad]
 refine W ?_
 refine WR ?_
 exact .mk ⟨rfl,hS⟩
 rw [if_neg hbad,if_neg hbad]
 refine W ?_
 have h31:=Z0H y m
 unfold Z0i at hbad
 refine CL rfl (Zm rfl) rfl (Z3U y m d _ (by omega) (by omega) (by omega) (by omega) (by omega) (by omega) (by omega)) ?_
 rintro _ w3 ⟨rfl,hT⟩
 refine W ?_
 refine WR ?_
 exact .mk ⟨rfl,hS.trans hT⟩
structure Hol where
 kind:Int
 month:Int
 day:Int
 wd:Int
 nth:Int
 off:Int
 move:Int
 first:Int
 last:Int
structure Clo where
 lo:Int
 hi:Int
 known:Int
structure Cal where
 week:List Bool
 hols:List Hol
 clos:List Clo
def Zx (d:Int):Bool:=decide (0≤d∧d≤3652058)
def Z2c (y:Int):Int:=
 let a:=y % 19
 let b:=y / 100
 let c:=y % 100
 let g:=(b - (b+8) / 25+1) / 3
 let h:=(19 * a+b - b / 4 - g+15) % 30
 let l:=(32+2 * (b % 4)+2 * (c / 4) - h - c % 4) % 7
 h+l - 7 * ((a+11 * h+22 * l) / 451)+114
def Z1H (y:Int):Int:=Jn y (Z2c y / 31) (Z2c y % 31+1)
def Z1w (y m wd:Int):Int:=Jn y m 1+(wd - Jn y m 1 % 7+7) % 7
def Zav (h:Hol) (y:Int):Option Int:=
 if y<h.first∨h.last<y then none
 else if h.kind=1 then (if Z0i y h.month h.day then none else some (Jn y h.month h.day))
 else if h.kind=2 then (if Z1w y h.month h.wd+7 * (h.nth - 1)<Jn y h.month 1+Zs y h.month then some (Z1w y h.month h.wd+7 * (h.nth - 1)) else none)
 else if h.kind=3 then some (Z1w y h.month h.wd+(Jn y h.month 1+Zs y h.month - 1 - Z1w y h.month h.wd) / 7 * 7)
 else if y<1583∨9999<y then none else some (Z1H y+h.off)
def Z0V (m d:Int):Int:=if m=1∧d % 7=5 then d+2 else if m=2∧d % 7=5 then d - 1 else if (m=1∨m=2)∧d % 7=6 then d+1 else d
def Z0n (h:Hol) (y:Int):Option Int:=(Zav h y).bind fun d=>if Zx (Z0V h.move d) then some (Z0V h.move d) else none
structure Z0X (h:Hol):Prop where
 k1:1≤h.kind
 k2:h.kind≤4
 m1:0≤h.move
 m2:h.move≤2
 f1:1≤h.first
 l1:h.last≤9999
 month:h.kind≠4→1≤h.month∧h.month≤12
 day:h.kind=1→1≤h.day∧h.day≤31
 wd:h.kind=2∨h.kind=3→0≤h.wd∧h.wd≤6
 nth:h.kind=2→1≤h.nth∧h.nth≤5
 off:h.kind=4→-100≤h.off∧h.off≤100
def Z1Y (l:List Hol) (d:Int):Bool:=
 Zx d && [(ofM d).y - 1,(ofM d).y,(ofM d).y+1].any fun y=>l.any fun h=>decide (Z0n h y=some d)
def Z3v (l:List Clo) (known d:Int):Bool:=l.any fun x=>decide (x.known≤known∧x.lo≤d∧d≤x.hi)
def Z9k (c:Cal) (known d:Int):Bool:=c.week.getD (d % 7).toNat false || Z3v c.clos known d || Z1Y c.hols d
def Zj (c:Cal) (known d:Int):Bool:=Zx d && !Z9k c known d
structure Zbp (c:Cal):Prop where
 week:c.week.length=7
 hols:∀ h∈c.hols,Z0X h
 few:c.hols.length≤6
def Z1I (opn:Int→Bool) (step:Int):Nat→Int→Int×Int
 | 0,_=>(0,31)
 | k+1,d=>if Zx d=true then (if opn d=true then (d,0) else Z1I opn step k (d+step)) else (0,31)
def J4 (opn:Int→Bool) (step d:Int):Int×Int:=if Zx d=true then Z1I opn step 1001 d else (0,5)
def Z1Z (opn:Int→Bool) (step:Int):Nat→Int→Int×Int
 | 0,d=>(d,0)
 | k+1,d=>if (J4 opn step (d+step)).2=0 then Z1Z opn step k (J4 opn step (d+step)).1 else (0,31)
def Z3w (opn:Int→Bool) (d n:Int):Int×Int:=
 if Zx d=true then (if n < -1000∨1000<n then (0,2) else Z1Z opn (if n<0 then -1 else 1) n.natAbs d) else (0,5)
def Z6a (d n:Int):Int×Int:=
 if n < -200000∨200000<n then (0,2) else if Zx d=true then
  (let m:=12 * (ofM d).y+(ofM d).m - 1+n
   if m<12∨120000≤m then (0,5) else (Jn (m / 12) (m % 12+1) (min (ofM d).d (Zs (m / 12) (m % 12+1))),0))
 else (0,5)
def Jf (b:Bool):Int:=if b=true then 1 else 0
def Z20 (n:Int):Int×Int:=if n < -2147483647∨2147483647<n then (0,5) else (n,0)
def Z6I (n:Int):Int×Int:=if n<0∨3652058<n then (0,5) else (n,0)
def Z4W (ev:List Int) (n:Int):Int×Int:=if n=1∧ev.getD 1 0=-1 then (0,32) else (ev.getD n.toNat 0,0)
def Z1L (opn:Int→Bool) (op b:Int):Int×Int:=
 if op=8 then (-b,0) else if op=19 then J4 opn 1 b else if op=20 then J4 opn (-1) b else (1 - b,0)
def J1 (opn:Int→Bool) (op a b:Int):Int×Int:=
 if op=5 then Z20 (a+b) else if op=6 then Z20 (a - b) else if op=7 then Z20 (a * b)
 else if op=9 then (Jf (decide (a<b)),0) else if op=10 then (Jf (decide (a≤b)),0) else if op=11 then (Jf (decide (a=b)),0)
 else if op=15 then Z6I (a+b) else if op=16 then Z6I (a+7 * b) else if op=17 then Z6a a b else if op=18 then Z3w opn a b
 else if op=21 then (max a b,0) else if op=22 then (min a b,0) else (b - a,0)
def arM (op:Int):Nat:=if op=1∨op=2∨op=3∨op=4 then 0 else if op=8∨op=12∨op=19∨op=20 then 1 else 2
def Jd (opn:Int→Bool) (ev:List Int) (x:Ins) (a b:Int):Int×Int:=
 if x.op=4 then Z4W ev x.n else if arM x.op=0 then (x.n,0) else if arM x.op=1 then Z1L opn x.op b else J1 opn x.op a b
abbrev Spn:=Int×Int
def Jt (op a b r:Int):List Spn:=
 if op=19 then [(b,r)] else if op=20 then [(r,b)] else if op=18 then (if 0<b then [(a+1,r)] else if b<0 then [(r,a - 1)] else []) else []
def J3 (st:List Int) (k:Nat):Int:=if k<st.length then st.getD (st.length - 1 - k) 0 else 0
def Z83 (opn:Int→Bool) (ev:List Int) (C:List Ins):Nat→Nat→List Int→List Spn→Int×List Spn×Int
 | 0,_,_,_=>(0,[],22)
 | f + 1, i, st, sp=>
   let x:=C.getD i ⟨0,0⟩
   let b:=J3 st 0
   let a:=J3 st 1
   if x.op=24 then (b,sp,0)
   else if x.op=13 then Z83 opn ev C f x.n.toNat st sp
   else if x.op=14 then Z83 opn ev C f (if b=0 then x.n.toNat else i+1) st.dropLast sp
   else if (Jd opn ev x a b).2=0 then Z83 opn ev C f (i+1) (st.take (st.length - arM x.op)++[(Jd opn ev x a b).1]) (sp++Jt x.op a b (Jd opn ev x a b).1)
   else (0,[],(Jd opn ev x a b).2)
def Z0r (opn:Int→Bool) (ev:List Int) (C:List Ins):Int×List Spn×Int:=Z83 opn ev C C.length 0 [] []
def Zhj (s:Str):Int:=if s=[100,97,121,115] then 15 else if s=[119,101,101,107,115] then 16 else if s=[109,111,110,116,104,115] then 17 else 18
def ZnD (s:Str):Int:=if s=[110,101,120,116] then 19 else if s=[112,114,101,118] then 20 else if s=[108,97,116,101,114] then 21 else if s=[101,97,114,108,105,101,114] then 22 else 23
def ZpS (s:Str) (a b:Int):Int×Int:=
 if s=[43] then Z20 (a+b) else if s=[45] then Z20 (a - b) else if s=[42] then Z20 (a * b)
 else if s=[60] then (Jf (decide (a<b)),0) else if s=[60,61] then (Jf (decide (a≤b)),0) else if s=[61] then (Jf (decide (a=b)),0)
 else if s=[33,61] then (Jf (decide (¬ a=b)),0) else if s=[62] then (Jf (decide (b<a)),0) else if s=[62,61] then (Jf (decide (b≤a)),0) else (b,0)
def Zq (opn:Int→Bool) (ev:List Int) (k n:Int) (s:Str) (rs:List (Int×Int)):Int×Int:=
 if k=1∨k=2∨k=3 then (n,0) else if k=4 then Z4W ev (ZS s).1
 else if ¬ (rs.getD 0 (0,0)).2=0 then (0,(rs.getD 0 (0,0)).2)
 else if k=5 then (if s=[110,111,116] then (1 - (rs.getD 0 (0,0)).1,0) else (-(rs.getD 0 (0,0)).1,0))
 else if k=9 then rs.getD (2 - (rs.getD 0 (0,0)).1).toNat (0,0)
 else if rs.length=1 then Z1L opn (ZnD s) (rs.getD 0 (0,0)).1
 else if k=6∧(s=[97,110,100]∧(rs.getD 0 (0,0)).1=0∨s=[111,114]∧(rs.getD 0 (0,0)).1=1) then ((rs.getD 0 (0,0)).1,0)
 else if ¬ (rs.getD 1 (0,0)).2=0 then (0,(rs.getD 1 (0,0)).2)
 else if k=7 then J1 opn (Zhj s) (rs.getD 0 (0,0)).1 (rs.getD 1 (0,0)).1
 else if k=8 then J1 opn (Zhj s) (rs.getD 0 (0,0)).1 (-(rs.getD 1 (0,0)).1)
 else if k=10 then J1 opn (ZnD s) (rs.getD 0 (0,0)).1 (rs.getD 1 (0,0)).1
 else ZpS s (rs.getD 0 (0,0)).1 (rs.getD 1 (0,0)).1
def Zc (opn:Int→Bool) (ev:List Int):Nd→Int×Int
 | .mk k n s l=>Zq opn ev k n s (l.map (Zc opn ev))
theorem Z2d (opn:Int→Bool) (ev:List Int) (x:Nd):Zc opn ev x=Zq opn ev x.kind x.num x.word (x.kids.map (Zc opn ev)):=by
 cases x
 rw [Zc]
 rfl
def vOk (t v:Int):Prop:=(t=1∧-2147483647≤v∧v≤2147483647)∨(t=2∧(v=0∨v=1))∨(t=3∧0≤v∧v≤3652058)
structure Z3x (ev:List Int):Prop where
 len:ev.length=7
 day:0≤ev.getD 0 0∧ev.getD 0 0≤3652058
 served:-1≤ev.getD 1 0∧ev.getD 1 0≤3652058
 rest:∀ i,2≤i→i<7→-2147483647≤ev.getD i 0∧ev.getD i 0≤2147483647
def Jo (s:Shp) (st:List Int):Prop:=s.length=st.length∧∀ i (h:i<s.length) (h':i<st.length),vOk s[i] st[i]
theorem Zy {d:Int}:Zx d=true↔0≤d∧d≤3652058:=by unfold Zx;simp
theorem Z9l (opn:Int→Bool) (step:Int):∀ (k:Nat) (d:Int),(Z1I opn step k d).2=0→Zx (Z1I opn step k d).1=true∧opn (Z1I opn step k d).1=true
 | 0,d,h=>by simp [Z1I] at h
 | k + 1, d, h => by
   unfold Z1I at h ⊢
   split at h
   rename_i h1
   rw [if_pos h1]
   split at h
   rename_i h2
   rw [if_pos h2]
   exact ⟨h1,h2⟩
   rename_i h2
   rw [if_neg h2]
   exact Z9l opn step k _ h
   simp at h
theorem Z1l {opn:Int→Bool} {step d:Int} (h:(J4 opn step d).2=0):Zx (J4 opn step d).1=true∧Zx d=true:=by
 unfold J4 at h ⊢
 split at h
 rename_i h1
 rw [if_pos h1]
 exact ⟨(Z9l _ _ _ _ h).1,h1⟩
 simp at h
theorem Zbq (opn:Int→Bool) (step:Int):∀ (k:Nat) (d:Int),Zx d=true→(Z1Z opn step k d).2=0→Zx (Z1Z opn step k d).1=true
 | 0,d,hd,h=>hd
 | k + 1, d, hd, h => by
   unfold Z1Z at h ⊢
   split at h
   rename_i h1
   rw [if_pos h1]
   exact Zbq opn step k _ (Z1l h1).1 h
   simp at h
theorem Z84 {opn:Int→Bool} {d n:Int} (h:(Z3w opn d n).2=0):Zx (Z3w opn d n).1=true:=by
 unfold Z3w at h ⊢
 split at h
 rename_i h1
 rw [if_pos h1]
 split at h
 simp at h
 rename_i h2
 rw [if_neg h2]
 exact Zbq _ _ _ _ h1 h
 simp at h
theorem dayM_range {y m d:Int} (hy:1≤y) (hy2:y≤9999) (hm:1≤m) (hm2:m≤12) (hd:1≤d) (hd2:d≤Zs y m):0≤Jn y m d∧Jn y m d≤3652058:=by
 obtain ⟨k,hk⟩:∃ k:Nat,m=(k:Int)+1:=⟨(m - 1).toNat,by omega⟩
 subst hk
 have hk:k≤11:=by omega
 rw [Z1k y d k hk]
 have h0:ZT 1=0:=by decide
 have h1:=Z0g hy
 have h2:=Z0g (show y+1≤10000 by omega)
 have h3:ZT 10000=3652059:=by decide
 have hc0:0≤Jv y k:=by
  have:=JK (y:=y) (Xo k) (by omega)
  simpa [Jv] using this
 have hc:Jv y (k+1)=Jv y k+Zs y ((k:Int)+1):=by simp [Jv]
 have hc12:=JK (y:=y) (show k+1≤12 by omega) (Xl _)
 have hs:=Z34 y
 have h12:=Zbo y
 omega
theorem Z85 {d n:Int} (h:(Z6a d n).2=0):Zx (Z6a d n).1=true:=by
 unfold Z6a at h ⊢
 split at h
 simp at h
 rename_i h0
 rw [if_neg h0]
 split at h
 rename_i h1
 rw [if_pos h1]
 dsimp only at h ⊢
 split at h
 simp at h
 rename_i h2
 rw [if_neg h2]
 rw [Zy] at h1 ⊢
 obtain ⟨a1,a2,a3,a4,a5,a6,a7⟩:=Z3T h1.1 h1.2
 generalize 12 * (ofM d).y+(ofM d).m - 1+n=m at h2
 have hk:(m % 12).toNat<12:=by omega
 have hl:=Z0h (y:=m / 12) hk
 rw [show (((m % 12).toNat:Int))=m % 12 by omega] at hl
 dsimp only
 exact dayM_range (by omega) (by omega) (by omega) (by omega) (by omega) (by omega)
 simp at h
theorem Jo.nil:Jo [] []:=⟨rfl,fun i h=>absurd h (Xy _)⟩
theorem Jo.one {t v:Int} (h:vOk t v):Jo [t] [v]:=⟨rfl,fun i hi _=>by
 have:i=0:=by simpa using hi
 subst this;exact h⟩
theorem Jo.app {s1 s2:Shp} {l1 l2:List Int} (h1:Jo s1 l1) (h2:Jo s2 l2):Jo (s1++s2) (l1++l2):=by
 refine ⟨by simp [h1.1,h2.1],fun i h h'=>?_⟩
 by_cases hi:i<s1.length
 rw [XQ hi,XQ (by rw [← h1.1];exact hi)]
 exact h1.2 i hi _
 have e:=h1.1
 rw [XO (by omega),XO (by omega)]
 have:=h2.2 (i - s1.length) (by simp at h;omega) (by simp at h';omega)
 simpa [e] using this
theorem Jo.take {s:Shp} {l:List Int} (h:Jo s l) (k:Nat):Jo (s.take k) (l.take k):=
 ⟨by simp [h.1],fun i hi hi'=>by simp at hi hi' ⊢;exact h.2 i _ _⟩
theorem Jo.drop {s:Shp} {l:List Int} (h:Jo s l) (k:Nat):Jo (s.drop k) (l.drop k):=
 ⟨by simp [h.1],fun i hi hi'=>by simp at hi hi' ⊢;exact h.2 _ _ _⟩
theorem Jo.one_inv {t:Int} {l:List Int} (h:Jo [t] l):∃ v,l=[v]∧vOk t v:=by
 match l,h with
 | [v],h=>exact ⟨v,rfl,h.2 0 (by simp) (by simp)⟩
 | [],h=>exact absurd h.1 (by simp)
 | _ :: _ :: _,h=>exact absurd h.1 (by simp)
theorem Jo.two_inv {t u:Int} {l:List Int} (h:Jo [t,u] l):∃ a b,l=[a,b]∧vOk t a∧vOk u b:=by
 match l,h with
 | [a,b],h=>exact ⟨a,b,rfl,h.2 0 (by simp) (by simp),h.2 1 (by simp) (by simp)⟩
 | [],h=>exact absurd h.1 (by simp)
 | [_],h=>exact absurd h.1 (by simp)
 | _ :: _ :: _ :: _,h=>exact absurd h.1 (by simp)
theorem Z11 (l:List Int) (v:Int):J3 (l++[v]) 0=v:=by
 unfold J3
 simp
theorem ZN (l:List Int) (a b:Int):J3 (l++[a,b]) 0=b∧J3 (l++[a,b]) 1=a:=by
 unfold J3
 constructor<;>simp [Xt,YaA]
theorem Z5E {n:Int} (h:(Z20 n).2=0):vOk 1 (Z20 n).1:=by
 unfold Z20 at h ⊢
 split at h
 simp at h
 rename_i h1;rw [if_neg h1];left;refine ⟨rfl,?_,?_⟩<;>dsimp only<;>omega
theorem Z4m {n:Int} (h:(Z6I n).2=0):vOk 3 (Z6I n).1:=by
 unfold Z6I at h ⊢
 split at h
 simp at h
 rename_i h1;rw [if_neg h1];right;right;refine ⟨rfl,?_,?_⟩<;>dsimp only<;>omega
theorem Z12 (b:Bool):vOk 2 (Jf b):=by
 right;left;refine ⟨rfl,?_⟩;unfold Jf;cases b<;>simp
theorem vOk.days {v:Int} (h:Zx v=true):vOk 3 v:=.inr (.inr ⟨rfl,Zy.1 h⟩)
theorem vOk.n {v:Int} (h:vOk 1 v):-2147483647≤v∧v≤2147483647:=by unfold vOk at h;omega
theorem vOk.b {v:Int} (h:vOk 2 v):v=0∨v=1:=by unfold vOk at h;omega
theorem vOk.d {v:Int} (h:vOk 3 v):0≤v∧v≤3652058:=by unfold vOk at h;omega
theorem Z6b {x:Ins} (h:(ZP x).2.2.2=true):1≤x.op∧x.op≤24:=by
 by_cases h1:1≤x.op∧x.op≤24
 exact h1
 · exfalso
   have:ZP x=([],[],[],false):=by
    unfold ZP
    repeat rw [if_neg (by omega)]
   rw [this] at h
   simp at h
theorem Zl1 {opn:Int→Bool} {ev:List Int} (hev:Z3x ev) {x:Ins} {ts vs:List Int} (hx:(ZP x).2.2.2=true) (h24:x.op≠24) (h13:x.op≠13) (h14:x.op≠14)
 (ht:ts=(ZP x).1∨(ZP x).2.1≠[]∧ts=(ZP x).2.1) (hs:Jo ts vs) :
 ts.length=arM x.op∧(ZP x).1.length=arM x.op∧∀ st,((Jd opn ev x (J3 (st++vs) 1) (J3 (st++vs) 0)).2=0→Jo (ZP x).2.2.1 [(Jd opn ev x (J3 (st++vs) 1) (J3 (st++vs) 0)).1]):=by
 have hr:=Z6b hx
 obtain ⟨op,n⟩:=x
 dsimp only at *
 have hop:op=1∨op=2∨op=3∨op=4∨op=5∨op=6∨op=7∨op=8∨op=9∨op=10∨op=11∨op=12∨op=15∨op=16∨op=17∨op=18∨op=19∨op=20∨op=21∨op=22∨op=23:=by omega
 rcases hop with rfl|rfl|rfl|rfl|rfl|rfl|rfl|rfl|rfl|rfl|rfl|rfl|rfl|rfl|rfl|rfl|rfl|rfl|rfl|rfl|rfl
 case inl|inr.inl|inr.inr.inl=>
  simp [ZP] at hx ht ⊢
  subst ht
  refine ⟨rfl,rfl,fun st _=>Jo.one ?_⟩
  simp [Jd,arM,vOk]
  omega
 case inr.inr.inr.inl=>
  simp [ZP] at hx ht ⊢
  subst ht
  refine ⟨rfl,rfl,fun st h=>Jo.one ?_⟩
  simp only [Jd,if_true] at h ⊢
  unfold Z4W at h ⊢
  split at h
  simp at h
  rename_i h1
  rw [if_neg h1]
  dsimp only
  have h0:=hev.day
  have hs1:=hev.served
  by_cases h01:n=0∨n=1
  rw [if_pos h01]
  right;right
  rcases h01 with rfl|rfl
  exact ⟨rfl,h0.1,h0.2⟩
  refine ⟨rfl,?_,hs1.2⟩
  have:¬ ev.getD 1 0=-1:=fun h=>h1 ⟨rfl,h⟩
  show 0≤ev.getD 1 0
  omega
  rw [if_neg h01]
  left
  exact ⟨rfl,hev.rest n.toNat (by omega) (by omega)⟩
 all_goals
  simp [ZP] at hx ht ⊢
  try subst hx
 all_goals
  first
  | (subst ht
     obtain ⟨b,rfl,hb⟩:=hs.one_inv
     refine ⟨rfl,rfl,fun st h=>Jo.one ?_⟩
     simp only [Z11] at h ⊢
     simp [Jd,arM,Z1L,J1] at h ⊢
     first
     | exact .days (Z1l h).1
     | (have:=hb.n;unfold vOk;omega)
     | (have:=hb.b;unfold vOk;omega))
  | (rcases ht with rfl | rfl <;>
     (obtain ⟨a,b,rfl,ha,hb⟩:=hs.two_inv
      refine ⟨rfl,rfl,fun st h=>Jo.one ?_⟩
      simp only [ZN] at h ⊢
      simp [Jd,arM,Z1L,J1] at h ⊢
      exact Z12 _))
  | (subst ht
     obtain ⟨a,b,rfl,ha,hb⟩:=hs.two_inv
     refine ⟨rfl,rfl,fun st h=>Jo.one ?_⟩
     simp only [ZN] at h ⊢
     simp [Jd,arM,Z1L,J1] at h ⊢
     first
     | exact Z5E h
     | exact Z4m h
     | exact .days (Z85 h)
     | exact .days (Z84 h)
     | (have:=ha.d;have:=hb.d;unfold vOk;omega))
theorem Z6c {opn:Int→Bool} {ev:List Int} (hev:Z3x ev) {x:Ins} {s nx:Shp} {st:List Int} (hn:Zv x s=some nx) (h24:x.op≠24) (h13:x.op≠13) (h14:x.op≠14) (hs:Jo s st)
 (he:(Jd opn ev x (J3 st 1) (J3 st 0)).2=0):Jo nx (st.take (st.length - arM x.op)++[(Jd opn ev x (J3 st 1) (J3 st 0)).1]):=by
 unfold Zv at hn
 dsimp only at hn
 split at hn
 rename_i hc
 obtain ⟨c1,c2,c3,c4⟩:=hc
 simp only [Xh] at hn
 subst hn
 have hsp:st=st.take (s.length - (ZP x).1.length)++st.drop (s.length - (ZP x).1.length):=(XT _ _).symm
 obtain ⟨v1,v2,v3⟩:=Zl1 (opn:=opn) hev c1 h24 h13 h14 c3 (hs.drop _)
 have v4:=v3 (st.take (s.length - (ZP x).1.length))
 rw [← hsp] at v4
 rw [← v2,← hs.1]
 exact (hs.take _).app (v4 he)
 cases hn
structure Z86 where
 k:Int
 s:Str
 ts:List Int
 t:Int
 L:List Int
deriving DecidableEq
def Z2e:List Z86:=[⟨5,[45],[1],1,[8]⟩,⟨5,[110,111,116],[2],2,[12]⟩,⟨10,[110,101,120,116],[3],3,[19]⟩,⟨10,[112,114,101,118],[3],3,[20]⟩,⟨10,[108,97,116,101,114],[3,3],3,[21]⟩,⟨10,[101,97,114,108,105,101,114],[3,3],3,[22]⟩,⟨10,[98,101,116,119,101,101,110],[3,3],1,[23]⟩,
 ⟨7,[100,97,121,115],[3,1],3,[15]⟩,⟨7,[119,101,101,107,115],[3,1],3,[16]⟩,⟨7,[109,111,110,116,104,115],[3,1],3,[17]⟩,⟨7,[99,111,117,114,116,100,97,121,115],[3,1],3,[18]⟩,
 ⟨8,[100,97,121,115],[3,1],3,[8,15]⟩,⟨8,[119,101,101,107,115],[3,1],3,[8,16]⟩,⟨8,[109,111,110,116,104,115],[3,1],3,[8,17]⟩,⟨8,[99,111,117,114,116,100,97,121,115],[3,1],3,[8,18]⟩,
 ⟨6,[43],[1,1],1,[5]⟩,⟨6,[45],[1,1],1,[6]⟩,⟨6,[42],[1,1],1,[7]⟩,
 ⟨6,[60],[1,1],2,[9]⟩,⟨6,[60,61],[1,1],2,[10]⟩,⟨6,[61],[1,1],2,[11]⟩,⟨6,[33,61],[1,1],2,[11,12]⟩,⟨6,[62],[1,1],2,[10,12]⟩,⟨6,[62,61],[1,1],2,[9,12]⟩,
 ⟨6,[60],[3,3],2,[9]⟩,⟨6,[60,61],[3,3],2,[10]⟩,⟨6,[61],[3,3],2,[11]⟩,⟨6,[33,61],[3,3],2,[11,12]⟩,⟨6,[62],[3,3],2,[10,12]⟩,⟨6,[62,61],[3,3],2,[9,12]⟩]
theorem Zgr:Z3L.all (fun e=>Z2e.any (fun r=>decide (r.k=e.1.kind∧r.s=e.1.s∧r.ts=(if e.1.b=0 then [e.1.a] else [e.1.a,e.1.b])∧e.1.c=0) && (match e.2 with|.int .i64 t=>decide (t=r.t)|_=>false)))=true:=by decide +kernel
theorem ZnE:JS.all (fun s=>Z2e.any (fun r=>decide (r.k=6∧r.s=s∧r.ts=[1,1]∧r.t=1)))=true:=by decide +kernel
theorem ZnF:Z1C.all (fun s=>Z2e.any (fun r=>decide (r.k=6∧r.s=s∧r.ts=[1,1]∧r.t=2)) && Z2e.any (fun r=>decide (r.k=6∧r.s=s∧r.ts=[3,3]∧r.t=2)))=true:=by decide +kernel
theorem Zl2:Z2e.all (fun r=>decide (r.k≠9) && decide (r.k≠1∧r.k≠2∧r.k≠3∧r.k≠4) && decide (r.ts≠[]) && !(decide (r.k=6) && (decide (r.s=[97,110,100]) || decide (r.s=[111,114]))) && okL (r.L.map fun o=>⟨o,0⟩) r.ts r.t && decide (Z3O r.k r.s++(if r.k=6∧r.s=[45] then [⟨6,0⟩] else [])=r.L.map fun o=>(⟨o,0⟩:Ins)))=true:=by decide +kernel
def Zl3 (k n:Int) (s:Str) (t:Int):Prop:=
 ((k=1∨k=2∨k=3)∧t=k∧vOk k n)∨(k=4∧∃ i:Nat,i<7∧s=Zt.getD i []∧(ZS s).1=(i:Int)∧t=if i≤1 then 3 else 1)
theorem Zcn {k n:Int} {s:Str} (h:Z0w k n s≠0):Zl3 k n s (Z0w k n s):=by
 unfold Z0w at h ⊢
 by_cases k4:k=4
 rw [if_pos k4] at h ⊢
 split at h
 · rename_i hn
   rw [if_pos hn]
   have h1:(ZS s).2.2=true:=by
    cases hb:(ZS s).2.2 with
    | true=>rfl
    | false=>exact absurd (Z4J hb) h
   obtain ⟨i,hi,hsn,hii⟩:=(Z60 s (ZS s).1).1 ⟨h1,rfl⟩
   refine .inr ⟨k4,i,hi,hsn,hii,?_⟩
   subst hsn
   match i,hi with
   | 0,_=>decide +kernel
   | 1,_=>decide +kernel
   | 2,_=>decide +kernel
   | 3,_=>decide +kernel
   | 4,_=>decide +kernel
   | 5,_=>decide +kernel
   | 6,_=>decide +kernel
 exact absurd rfl h
 rw [if_neg k4] at h ⊢
 split at h
 exact absurd rfl h
 rename_i hs0
 rw [if_neg hs0]
 left
 unfold vOk
 by_cases k1:k=1
 rw [if_pos k1] at h ⊢
 split at h
 rename_i h2;rw [if_pos h2];subst k1;exact ⟨.inl rfl,rfl,.inl ⟨rfl,by omega,by omega⟩⟩
 exact absurd rfl h
 rw [if_neg k1] at h ⊢
 by_cases k2:k=2
 rw [if_pos k2] at h ⊢
 split at h
 rename_i h2;rw [if_pos h2];subst k2;exact ⟨.inr (.inl rfl),rfl,.inr (.inl ⟨rfl,by omega⟩)⟩
 exact absurd rfl h
 rw [if_neg k2] at h ⊢
 by_cases k3:k=3
 rw [if_pos k3] at h ⊢
 split at h
 rename_i h2;rw [if_pos h2];subst k3;exact ⟨.inr (.inr rfl),rfl,.inr (.inr ⟨rfl,by omega,by omega⟩)⟩
 exact absurd rfl h
 rw [if_neg k3] at h;exact absurd rfl h
theorem Z6d {k n:Int} {s:Str} {l:List Nd} (ht:Zf (.mk k n s l)≠0) :
 (l=[]∧Zl3 k n s (Zf (.mk k n s l)))∨(k=9∧∃ a b c,l=[a,b,c]∧Zf a=2∧Zf b=Zf (.mk k n s l)∧Zf c=Zf (.mk k n s l))∨
 (k=6∧(s=[97,110,100]∨s=[111,114])∧∃ a b,l=[a,b]∧Zf a=2∧Zf b=2∧Zf (.mk k n s l)=2)∨
 (∃ r∈Z2e,r.k=k∧r.s=s∧l.map Zf=r.ts∧Zf (.mk k n s l)=r.t):=by
 have hteq:Zf (.mk k n s l)=Ja k n s (l.map Zf):=Z0x _
 rw [hteq] at ht ⊢
 rcases Z5j ht with ⟨he,hc⟩|⟨h0,h3,hn0,hc⟩
 left
 rw [hc] at ht ⊢
 exact ⟨by simpa using he,Zcn ht⟩
 have hlen:l.length≤3:=by simpa using h3
 rcases hc with ⟨h9,hts⟩|⟨h6,hg2,hbt⟩|hsg
 right;left
 have hl3:l.length=3:=by have:=congrArg List.length hts;simpa using this
 obtain ⟨a,b,c,rfl⟩:=Zbj hl3
 simp only [Xn,Xx,Yaw,and_true] at hts
 exact ⟨h9,a,b,c,rfl,hts.1,hts.2.1,hts.2.2⟩
 subst h6
 rcases Zbi h0 h3 hn0 hg2 with ⟨hb0,hts⟩|⟨hb0,hts⟩
 exfalso
 apply ht
 rw [hbt,hb0]
 have ha0:(l.map Zf).getD 0 0≠0:=fun h=>h0 (by rw [hts,h];simp)
 unfold Z2U
 split
 rw [if_neg (by omega)]
 split
 rw [if_neg (by omega)]
 split
 rw [if_neg (by omega)]
 rfl
 have hl2:l.length=2:=by have:=congrArg List.length hts;simpa using this
 obtain ⟨a,b,rfl⟩:=Z7Y hl2
 have ra:=Z1P a
 rw [hbt] at ht ⊢
 simp only [Xn,Xx,Xz,XR] at ht ⊢
 have a0:Zf a≠0:=fun h=>h0 (by simp [h])
 unfold Z2U at ht ⊢
 by_cases hA:s∈JS
 rw [if_pos hA] at ht ⊢
 split at ht
 rename_i hab
 rw [if_pos hab]
 right;right;right
 have:=XH.1 ZnE s hA
 obtain ⟨r,hr,hp⟩:=XJ.1 this
 obtain ⟨p1,p2,p3,p4⟩:=of_decide_eq_true hp
 exact ⟨r,hr,p1,p2,by rw [p3,← hab.1,hab.2],p4.symm⟩
 exact absurd rfl ht
 rw [if_neg hA] at ht ⊢
 by_cases hC:s∈Z1C
 rw [if_pos hC] at ht ⊢
 split at ht
 rename_i hab
 rw [if_pos hab]
 right;right;right
 have:=XH.1 ZnF s hC
 rw [Xi] at this
 have h13:Zf a=1∨Zf a=3:=by omega
 rcases h13 with h1|h1
 obtain ⟨r,hr,hp⟩:=XJ.1 this.1
 obtain ⟨p1,p2,p3,p4⟩:=of_decide_eq_true hp
 exact ⟨r,hr,p1,p2,by rw [p3,← hab.1,h1],p4.symm⟩
 obtain ⟨r,hr,hp⟩:=XJ.1 this.2
 obtain ⟨p1,p2,p3,p4⟩:=of_decide_eq_true hp
 exact ⟨r,hr,p1,p2,by rw [p3,← hab.1,h1],p4.symm⟩
 exact absurd rfl ht
 rw [if_neg hC] at ht ⊢
 split at ht
 rename_i hL
 rw [if_pos hL]
 split at ht
 rename_i hab
 rw [if_pos hab]
 right;right;left
 have hs:s=[97,110,100]∨s=[111,114]:=by simpa [JT] using hL
 exact ⟨trivial,hs,a,b,rfl,hab.2,by rw [← hab.1,hab.2],rfl⟩
 exact absurd rfl ht
 exact absurd rfl ht
 right;right;right
 rw [hsg] at ht ⊢
 obtain ⟨e,he,hx,hv⟩:=Z71 ht
 have:=XH.1 Zgr e he
 obtain ⟨r,hr,hp⟩:=XJ.1 this
 rw [Xi] at hp
 obtain ⟨p1,p2,p3,p4⟩:=of_decide_eq_true hp.1
 have p5:=hp.2
 rw [hv] at p5
 have p6:=of_decide_eq_true p5
 rw [← hx] at p1 p2 p3 p4
 dsimp only at p1 p2 p3 p4
 refine ⟨r,hr,p1,p2,?_,p6⟩
 rw [p3]
 rcases Zbi h0 h3 hn0 p4 with ⟨hb0,hts⟩|⟨hb0,hts⟩
 rw [if_pos hb0];exact hts
 rw [if_neg hb0];exact hts
def Z4n (opn:Int→Bool) (ev:List Int):List Int→List Int→Int×List Int
 | [],st=>(0,st)
 | o :: L,st=>if (Jd opn ev ⟨o,0⟩ (J3 st 1) (J3 st 0)).2=0 then Z4n opn ev L (st.take (st.length - arM o)++[(Jd opn ev ⟨o,0⟩ (J3 st 1) (J3 st 0)).1]) else ((Jd opn ev ⟨o,0⟩ (J3 st 1) (J3 st 0)).2,st)
abbrev okv (vs:List Int):List (Int×Int):=vs.map fun v=>(v,0)
def Z2L (opn:Int→Bool) (ev:List Int) (L st0 vs:List Int) (v:Int×Int):Prop:=(Z4n opn ev L (st0++vs)).1=v.2∧(v.2=0→(Z4n opn ev L (st0++vs)).2=st0++[v.1])
theorem ZnG (l:List Int) (a b:Int):(l++[a,b]).take ((l++[a,b]).length - 2)=l:=by rw [Xg];simp
theorem ZpT (l:List Int) (a:Int):(l++[a]).take ((l++[a]).length - 1)=l:=by rw [Xg];simp
theorem ZpU (l:List Int) (a b:Int):(l++[a,b]).take ((l++[a,b]).length - 1)=l++[a]:=by rw [Xg];simp [X8,Xu]
theorem Zhk {opn:Int→Bool} {ev:List Int} {o a b:Int} {st0:List Int} (h:arM o=2):Z2L opn ev [o] st0 [a,b] (Jd opn ev ⟨o,0⟩ a b):=by
 unfold Z2L Z4n
 rw [(ZN st0 a b).1,(ZN st0 a b).2,h,ZnG]
 by_cases he:(Jd opn ev ⟨o,0⟩ a b).2=0
 rw [if_pos he]
 exact ⟨by rw [he];rfl,fun _=>rfl⟩
 rw [if_neg he]
 exact ⟨rfl,fun h=>absurd h he⟩
theorem Z9m {opn:Int→Bool} {ev:List Int} {o b:Int} {st0:List Int} (h:arM o=1):Z2L opn ev [o] st0 [b] (Z1L opn o b):=by
 have hv:∀ a,Jd opn ev ⟨o,0⟩ a b=Z1L opn o b:=by
  intro a
  unfold Jd
  have h4:o≠4:=by intro h4;subst h4;simp [arM] at h
  dsimp only
  rw [if_neg h4,if_neg (by omega),if_pos h]
 unfold Z2L Z4n
 rw [Z11,hv,h,ZpT]
 by_cases he:(Z1L opn o b).2=0
 rw [if_pos he]
 exact ⟨by rw [he];rfl,fun _=>rfl⟩
 rw [if_neg he]
 exact ⟨rfl,fun h=>absurd h he⟩
theorem ZnH {opn:Int→Bool} {ev:List Int} {o a b:Int} {st0:List Int} (h:arM o=2):Z2L opn ev [8,o] st0 [a,b] (Jd opn ev ⟨o,0⟩ a (-b)):=by
 have hl:=Zhk (opn:=opn) (ev:=ev) (a:=a) (b:=-b) (st0:=st0) h
 unfold Z2L at hl ⊢
 have e:Z4n opn ev [8,o] (st0++[a,b])=Z4n opn ev [o] (st0++[a,-b]):=by
  rw [Z4n,(ZN st0 a b).1,(ZN st0 a b).2]
  have e1:Jd opn ev ⟨8,0⟩ a b=(-b,0):=rfl
  rw [e1,if_pos rfl]
  have e2:arM 8=1:=rfl
  rw [e2,ZpU,XK]
  rfl
 rw [e]
 exact hl
theorem ZnI {opn:Int→Bool} {ev:List Int} {o:Int} (h:arM o=2) (a b:Int):Jd opn ev ⟨o,0⟩ a b=J1 opn o a b:=by
 unfold Jd
 have h4:o≠4:=by intro h4;subst h4;simp [arM] at h
 dsimp only
 rw [if_neg h4,if_neg (by omega),if_neg (by omega)]
theorem Z0s {opn:Int→Bool} {ev:List Int} {o a b:Int} {st0:List Int} (h:arM o=2):Z2L opn ev [o] st0 [a,b] (J1 opn o a b):=ZnI (opn:=opn) (ev:=ev) h a b ▸ Zhk h
theorem Z87 {opn:Int→Bool} {ev:List Int} {o a b:Int} {st0:List Int} (h:arM o=2):Z2L opn ev [8,o] st0 [a,b] (J1 opn o a (-b)):=ZnI (opn:=opn) (ev:=ev) h a (-b) ▸ ZnH h
theorem Z4X {opn:Int→Bool} {ev:List Int} {o a b v:Int} {st0:List Int} (h:arM o=2) (hv:Jd opn ev ⟨o,0⟩ a b=(v,0)):Z2L opn ev [o,12] st0 [a,b] (1 - v,0):=by
 have e:Z4n opn ev [o,12] (st0++[a,b])=Z4n opn ev [12] (st0++[v]):=by
  rw [Z4n,(ZN st0 a b).1,(ZN st0 a b).2,hv,if_pos rfl,h,ZnG]
 have hl:=Z9m (opn:=opn) (ev:=ev) (o:=12) (b:=v) (st0:=st0) rfl
 unfold Z2L at hl ⊢
 rw [e]
 exact hl
theorem Z3s (p q:Prop) [Decidable p] [Decidable q] (h:¬ p↔q):1 - Jf (decide p)=Jf (decide q):=by
 by_cases hp:p
 have hq:¬ q:=fun x=>(h.2 x) hp
 rw [decide_eq_true hp,decide_eq_false hq];rfl
 have hq:q:=h.1 hp
 rw [decide_eq_false hp,decide_eq_true hq];rfl
def PL (r:Z86):Prop:=∀ (opn:Int→Bool) (ev:List Int) (n:Int) (st0 vs:List Int),Jo r.ts vs→Z2L opn ev r.L st0 vs (Zq opn ev r.k n r.s (okv vs))
theorem pl0:PL ⟨5,[45],[1],1,[8]⟩:=by
 intro opn ev n st0 vs hv
 dsimp only at hv ⊢
 obtain ⟨b,rfl,hb⟩:=hv.one_inv
 have e:Zq opn ev 5 n [45] (okv [b])=Z1L opn 8 b:=by kernel_rfl
 rw [e]
 exact Z9m rfl
theorem pl1:PL ⟨5,[110,111,116],[2],2,[12]⟩:=by
 intro opn ev n st0 vs hv
 dsimp only at hv ⊢
 obtain ⟨b,rfl,hb⟩:=hv.one_inv
 have e:Zq opn ev 5 n [110,111,116] (okv [b])=Z1L opn 12 b:=by kernel_rfl
 rw [e]
 exact Z9m rfl
theorem pl2:PL ⟨10,[110,101,120,116],[3],3,[19]⟩:=by
 intro opn ev n st0 vs hv
 dsimp only at hv ⊢
 obtain ⟨b,rfl,hb⟩:=hv.one_inv
 have e:Zq opn ev 10 n [110,101,120,116] (okv [b])=Z1L opn 19 b:=by kernel_rfl
 rw [e]
 exact Z9m rfl
theorem pl3:PL ⟨10,[112,114,101,118],[3],3,[20]⟩:=by
 intro opn ev n st0 vs hv
 dsimp only at hv ⊢
 obtain ⟨b,rfl,hb⟩:=hv.one_inv
 have e:Zq opn ev 10 n [112,114,101,118] (okv [b])=Z1L opn 20 b:=by kernel_rfl
 rw [e]
 exact Z9m rfl
theorem pl4:PL ⟨10,[108,97,116,101,114],[3,3],3,[21]⟩:=by
 intro opn ev n st0 vs hv
 dsimp only at hv ⊢
 obtain ⟨a,b,rfl,ha,hb⟩:=hv.two_inv
 have e:Zq opn ev 10 n [108,97,116,101,114] (okv [a,b])=J1 opn 21 a b:=by kernel_rfl
 rw [e]
 exact Z0s rfl
theorem pl5:PL ⟨10,[101,97,114,108,105,101,114],[3,3],3,[22]⟩:=by
 intro opn ev n st0 vs hv
 dsimp only at hv ⊢
 obtain ⟨a,b,rfl,ha,hb⟩:=hv.two_inv
 have e:Zq opn ev 10 n [101,97,114,108,105,101,114] (okv [a,b])=J1 opn 22 a b:=by kernel_rfl
 rw [e]
 exact Z0s rfl
theorem pl6:PL ⟨10,[98,101,116,119,101,101,110],[3,3],1,[23]⟩:=by
 intro opn ev n st0 vs hv
 dsimp only at hv ⊢
 obtain ⟨a,b,rfl,ha,hb⟩:=hv.two_inv
 have e:Zq opn ev 10 n [98,101,116,119,101,101,110] (okv [a,b])=J1 opn 23 a b:=by kernel_rfl
 rw [e]
 exact Z0s rfl
theorem pl7:PL ⟨7,[100,97,121,115],[3,1],3,[15]⟩:=by
 intro opn ev n st0 vs hv
 dsimp only at hv ⊢
 obtain ⟨a,b,rfl,ha,hb⟩:=hv.two_inv
 have e:Zq opn ev 7 n [100,97,121,115] (okv [a,b])=J1 opn 15 a b:=by kernel_rfl
 rw [e]
 exact Z0s rfl
theorem pl8:PL ⟨7,[119,101,101,107,115],[3,1],3,[16]⟩:=by
 intro opn ev n st0 vs hv
 dsimp only at hv ⊢
 obtain ⟨a,b,rfl,ha,hb⟩:=hv.two_inv
 have e:Zq opn ev 7 n [119,101,101,107,115] (okv [a,b])=J1 opn 16 a b:=by kernel_rfl
 rw [e]
 exact Z0s rfl
theorem pl9:PL ⟨7,[109,111,110,116,104,115],[3,1],3,[17]⟩:=by
 intro opn ev n st0 vs hv
 dsimp only at hv ⊢
 obtain ⟨a,b,rfl,ha,hb⟩:=hv.two_inv
 have e:Zq opn ev 7 n [109,111,110,116,104,115] (okv [a,b])=J1 opn 17 a b:=by kernel_rfl
 rw [e]
 exact Z0s rfl
theorem ZpV:PL ⟨7,[99,111,117,114,116,100,97,121,115],[3,1],3,[18]⟩:=by
 intro opn ev n st0 vs hv
 dsimp only at hv ⊢
 obtain ⟨a,b,rfl,ha,hb⟩:=hv.two_inv
 have e:Zq opn ev 7 n [99,111,117,114,116,100,97,121,115] (okv [a,b])=J1 opn 18 a b:=by kernel_rfl
 rw [e]
 exact Z0s rfl
theorem ZpW:PL ⟨8,[100,97,121,115],[3,1],3,[8,15]⟩:=by
 intro opn ev n st0 vs hv
 dsimp only at hv ⊢
 obtain ⟨a,b,rfl,ha,hb⟩:=hv.two_inv
 have e:Zq opn ev 8 n [100,97,121,115] (okv [a,b])=J1 opn 15 a (-b):=by kernel_rfl
 rw [e]
 exact Z87 rfl
theorem ZpX:PL ⟨8,[119,101,101,107,115],[3,1],3,[8,16]⟩:=by
 intro opn ev n st0 vs hv
 dsimp only at hv ⊢
 obtain ⟨a,b,rfl,ha,hb⟩:=hv.two_inv
 have e:Zq opn ev 8 n [119,101,101,107,115] (okv [a,b])=J1 opn 16 a (-b):=by kernel_rfl
 rw [e]
 exact Z87 rfl
theorem ZpY:PL ⟨8,[109,111,110,116,104,115],[3,1],3,[8,17]⟩:=by
 intro opn ev n st0 vs hv
 dsimp only at hv ⊢
 obtain ⟨a,b,rfl,ha,hb⟩:=hv.two_inv
 have e:Zq opn ev 8 n [109,111,110,116,104,115] (okv [a,b])=J1 opn 17 a (-b):=by kernel_rfl
 rw [e]
 exact Z87 rfl
theorem ZpZ:PL ⟨8,[99,111,117,114,116,100,97,121,115],[3,1],3,[8,18]⟩:=by
 intro opn ev n st0 vs hv
 dsimp only at hv ⊢
 obtain ⟨a,b,rfl,ha,hb⟩:=hv.two_inv
 have e:Zq opn ev 8 n [99,111,117,114,116,100,97,121,115] (okv [a,b])=J1 opn 18 a (-b):=by kernel_rfl
 rw [e]
 exact Z87 rfl
theorem Zq0:PL ⟨6,[43],[1,1],1,[5]⟩:=by
 intro opn ev n st0 vs hv
 dsimp only at hv ⊢
 obtain ⟨a,b,rfl,ha,hb⟩:=hv.two_inv
 have e:Zq opn ev 6 n [43] (okv [a,b])=J1 opn 5 a b:=by kernel_rfl
 rw [e]
 exact Z0s rfl
theorem Zq1:PL ⟨6,[45],[1,1],1,[6]⟩:=by
 intro opn ev n st0 vs hv
 dsimp only at hv ⊢
 obtain ⟨a,b,rfl,ha,hb⟩:=hv.two_inv
 have e:Zq opn ev 6 n [45] (okv [a,b])=J1 opn 6 a b:=by kernel_rfl
 rw [e]
 exact Z0s rfl
theorem Zq2:PL ⟨6,[42],[1,1],1,[7]⟩:=by
 intro opn ev n st0 vs hv
 dsimp only at hv ⊢
 obtain ⟨a,b,rfl,ha,hb⟩:=hv.two_inv
 have e:Zq opn ev 6 n [42] (okv [a,b])=J1 opn 7 a b:=by kernel_rfl
 rw [e]
 exact Z0s rfl
theorem Zq3:PL ⟨6,[60],[1,1],2,[9]⟩:=by
 intro opn ev n st0 vs hv
 dsimp only at hv ⊢
 obtain ⟨a,b,rfl,ha,hb⟩:=hv.two_inv
 have e:Zq opn ev 6 n [60] (okv [a,b])=J1 opn 9 a b:=by kernel_rfl
 rw [e]
 exact Z0s rfl
theorem Zq4:PL ⟨6,[60,61],[1,1],2,[10]⟩:=by
 intro opn ev n st0 vs hv
 dsimp only at hv ⊢
 obtain ⟨a,b,rfl,ha,hb⟩:=hv.two_inv
 have e:Zq opn ev 6 n [60,61] (okv [a,b])=J1 opn 10 a b:=by kernel_rfl
 rw [e]
 exact Z0s rfl
theorem Zq5:PL ⟨6,[61],[1,1],2,[11]⟩:=by
 intro opn ev n st0 vs hv
 dsimp only at hv ⊢
 obtain ⟨a,b,rfl,ha,hb⟩:=hv.two_inv
 have e:Zq opn ev 6 n [61] (okv [a,b])=J1 opn 11 a b:=by kernel_rfl
 rw [e]
 exact Z0s rfl
theorem Zq6:PL ⟨6,[33,61],[1,1],2,[11,12]⟩:=by
 intro opn ev n st0 vs hv
 dsimp only at hv ⊢
 obtain ⟨a,b,rfl,ha,hb⟩:=hv.two_inv
 have e:Zq opn ev 6 n [33,61] (okv [a,b])=(Jf (decide (¬ a=b)),0):=by kernel_rfl
 have hl:=Z4X (opn:=opn) (ev:=ev) (o:=11) (a:=a) (b:=b) (v:=Jf (decide (a=b))) (st0:=st0) rfl rfl
 rw [Z3s (a=b) (¬ a=b) Iff.rfl] at hl
 rw [e]
 exact hl
theorem Zq7:PL ⟨6,[62],[1,1],2,[10,12]⟩:=by
 intro opn ev n st0 vs hv
 dsimp only at hv ⊢
 obtain ⟨a,b,rfl,ha,hb⟩:=hv.two_inv
 have e:Zq opn ev 6 n [62] (okv [a,b])=(Jf (decide (b<a)),0):=by kernel_rfl
 have hl:=Z4X (opn:=opn) (ev:=ev) (o:=10) (a:=a) (b:=b) (v:=Jf (decide (a≤b))) (st0:=st0) rfl rfl
 rw [Z3s (a≤b) (b<a) (by omega)] at hl
 rw [e]
 exact hl
theorem Zq8:PL ⟨6,[62,61],[1,1],2,[9,12]⟩:=by
 intro opn ev n st0 vs hv
 dsimp only at hv ⊢
 obtain ⟨a,b,rfl,ha,hb⟩:=hv.two_inv
 have e:Zq opn ev 6 n [62,61] (okv [a,b])=(Jf (decide (b≤a)),0):=by kernel_rfl
 have hl:=Z4X (opn:=opn) (ev:=ev) (o:=9) (a:=a) (b:=b) (v:=Jf (decide (a<b))) (st0:=st0) rfl rfl
 rw [Z3s (a<b) (b≤a) (by omega)] at hl
 rw [e]
 exact hl
theorem Zq9:PL ⟨6,[60],[3,3],2,[9]⟩:=by
 intro opn ev n st0 vs hv
 dsimp only at hv ⊢
 obtain ⟨a,b,rfl,ha,hb⟩:=hv.two_inv
 have e:Zq opn ev 6 n [60] (okv [a,b])=J1 opn 9 a b:=by kernel_rfl
 rw [e]
 exact Z0s rfl
theorem Zqa:PL ⟨6,[60,61],[3,3],2,[10]⟩:=by
 intro opn ev n st0 vs hv
 dsimp only at hv ⊢
 obtain ⟨a,b,rfl,ha,hb⟩:=hv.two_inv
 have e:Zq opn ev 6 n [60,61] (okv [a,b])=J1 opn 10 a b:=by kernel_rfl
 rw [e]
 exact Z0s rfl
theorem Zqb:PL ⟨6,[61],[3,3],2,[11]⟩:=by
 intro opn ev n st0 vs hv
 dsimp only at hv ⊢
 obtain ⟨a,b,rfl,ha,hb⟩:=hv.two_inv
 have e:Zq opn ev 6 n [61] (okv [a,b])=J1 opn 11 a b:=by kernel_rfl
 rw [e]
 exact Z0s rfl
theorem Zqc:PL ⟨6,[33,61],[3,3],2,[11,12]⟩:=by
 intro opn ev n st0 vs hv
 dsimp only at hv ⊢
 obtain ⟨a,b,rfl,ha,hb⟩:=hv.two_inv
 have e:Zq opn ev 6 n [33,61] (okv [a,b])=(Jf (decide (¬ a=b)),0):=by kernel_rfl
 have hl:=Z4X (opn:=opn) (ev:=ev) (o:=11) (a:=a) (b:=b) (v:=Jf (decide (a=b))) (st0:=st0) rfl rfl
 rw [Z3s (a=b) (¬ a=b) Iff.rfl] at hl
 rw [e]
 exact hl
theorem Zqd:PL ⟨6,[62],[3,3],2,[10,12]⟩:=by
 intro opn ev n st0 vs hv
 dsimp only at hv ⊢
 obtain ⟨a,b,rfl,ha,hb⟩:=hv.two_inv
 have e:Zq opn ev 6 n [62] (okv [a,b])=(Jf (decide (b<a)),0):=by kernel_rfl
 have hl:=Z4X (opn:=opn) (ev:=ev) (o:=10) (a:=a) (b:=b) (v:=Jf (decide (a≤b))) (st0:=st0) rfl rfl
 rw [Z3s (a≤b) (b<a) (by omega)] at hl
 rw [e]
 exact hl
theorem Zqe:PL ⟨6,[62,61],[3,3],2,[9,12]⟩:=by
 intro opn ev n st0 vs hv
 dsimp only at hv ⊢
 obtain ⟨a,b,rfl,ha,hb⟩:=hv.two_inv
 have e:Zq opn ev 6 n [62,61] (okv [a,b])=(Jf (decide (b≤a)),0):=by kernel_rfl
 have hl:=Z4X (opn:=opn) (ev:=ev) (o:=9) (a:=a) (b:=b) (v:=Jf (decide (a<b))) (st0:=st0) rfl rfl
 rw [Z3s (a<b) (b≤a) (by omega)] at hl
 rw [e]
 exact hl
theorem Zl4:∀ r∈Z2e,PL r:=by
 unfold Z2e
 refine Xa.2 ⟨pl0,?_⟩
 refine Xa.2 ⟨pl1,?_⟩
 refine Xa.2 ⟨pl2,?_⟩
 refine Xa.2 ⟨pl3,?_⟩
 refine Xa.2 ⟨pl4,?_⟩
 refine Xa.2 ⟨pl5,?_⟩
 refine Xa.2 ⟨pl6,?_⟩
 refine Xa.2 ⟨pl7,?_⟩
 refine Xa.2 ⟨pl8,?_⟩
 refine Xa.2 ⟨pl9,?_⟩
 refine Xa.2 ⟨ZpV,?_⟩
 refine Xa.2 ⟨ZpW,?_⟩
 refine Xa.2 ⟨ZpX,?_⟩
 refine Xa.2 ⟨ZpY,?_⟩
 refine Xa.2 ⟨ZpZ,?_⟩
 refine Xa.2 ⟨Zq0,?_⟩
 refine Xa.2 ⟨Zq1,?_⟩
 refine Xa.2 ⟨Zq2,?_⟩
 refine Xa.2 ⟨Zq3,?_⟩
 refine Xa.2 ⟨Zq4,?_⟩
 refine Xa.2 ⟨Zq5,?_⟩
 refine Xa.2 ⟨Zq6,?_⟩
 refine Xa.2 ⟨Zq7,?_⟩
 refine Xa.2 ⟨Zq8,?_⟩
 refine Xa.2 ⟨Zq9,?_⟩
 refine Xa.2 ⟨Zqa,?_⟩
 refine Xa.2 ⟨Zqb,?_⟩
 refine Xa.2 ⟨Zqc,?_⟩
 refine Xa.2 ⟨Zqd,?_⟩
 refine Xa.2 ⟨Zqe,?_⟩
 intro r h
 cases h
theorem Zaw (opn:Int→Bool) (ev:List Int) (n:Int) (st0 vs:List Int) (r:Z86) (hr:r∈Z2e) (hv:Jo r.ts vs):Z2L opn ev r.L st0 vs (Zq opn ev r.k n r.s (okv vs)):=Zl4 r hr opn ev n st0 vs hv
def POv (r:Z86):Prop:=∀ (opn:Int→Bool) (ev:List Int) (hev:Z3x ev) (n:Int) (vs:List Int),Jo r.ts vs→(Zq opn ev r.k n r.s (okv vs)).2=0→vOk r.t (Zq opn ev r.k n r.s (okv vs)).1
theorem po0:POv ⟨5,[45],[1],1,[8]⟩:=by
 intro opn ev hev n vs hv he
 dsimp only at hv he ⊢
 obtain ⟨b,rfl,hb⟩:=hv.one_inv
 have e:Zq opn ev 5 n [45] (okv [b])=Z1L opn 8 b:=by kernel_rfl
 rw [e] at he ⊢
 have h1:=hb.n
 show vOk 1 (-b)
 unfold vOk
 omega
theorem po1:POv ⟨5,[110,111,116],[2],2,[12]⟩:=by
 intro opn ev hev n vs hv he
 dsimp only at hv he ⊢
 obtain ⟨b,rfl,hb⟩:=hv.one_inv
 have e:Zq opn ev 5 n [110,111,116] (okv [b])=Z1L opn 12 b:=by kernel_rfl
 rw [e] at he ⊢
 have h1:=hb.b
 show vOk 2 (1 - b)
 unfold vOk
 omega
theorem po2:POv ⟨10,[110,101,120,116],[3],3,[19]⟩:=by
 intro opn ev hev n vs hv he
 dsimp only at hv he ⊢
 obtain ⟨b,rfl,hb⟩:=hv.one_inv
 have e:Zq opn ev 10 n [110,101,120,116] (okv [b])=Z1L opn 19 b:=by kernel_rfl
 rw [e] at he ⊢
 exact .days (Z1l (opn:=opn) (step:=1) (d:=b) he).1
theorem po3:POv ⟨10,[112,114,101,118],[3],3,[20]⟩:=by
 intro opn ev hev n vs hv he
 dsimp only at hv he ⊢
 obtain ⟨b,rfl,hb⟩:=hv.one_inv
 have e:Zq opn ev 10 n [112,114,101,118] (okv [b])=Z1L opn 20 b:=by kernel_rfl
 rw [e] at he ⊢
 exact .days (Z1l (opn:=opn) (step:=-1) (d:=b) he).1
theorem po4:POv ⟨10,[108,97,116,101,114],[3,3],3,[21]⟩:=by
 intro opn ev hev n vs hv he
 dsimp only at hv he ⊢
 obtain ⟨a,b,rfl,ha,hb⟩:=hv.two_inv
 have e:Zq opn ev 10 n [108,97,116,101,114] (okv [a,b])=J1 opn 21 a b:=by kernel_rfl
 rw [e] at he ⊢
 have h1:=ha.d
 have h2:=hb.d
 show vOk 3 (max a b)
 unfold vOk
 omega
theorem po5:POv ⟨10,[101,97,114,108,105,101,114],[3,3],3,[22]⟩:=by
 intro opn ev hev n vs hv he
 dsimp only at hv he ⊢
 obtain ⟨a,b,rfl,ha,hb⟩:=hv.two_inv
 have e:Zq opn ev 10 n [101,97,114,108,105,101,114] (okv [a,b])=J1 opn 22 a b:=by kernel_rfl
 rw [e] at he ⊢
 have h1:=ha.d
 have h2:=hb.d
 show vOk 3 (min a b)
 unfold vOk
 omega
theorem po6:POv ⟨10,[98,101,116,119,101,101,110],[3,3],1,[23]⟩:=by
 intro opn ev hev n vs hv he
 dsimp only at hv he ⊢
 obtain ⟨a,b,rfl,ha,hb⟩:=hv.two_inv
 have e:Zq opn ev 10 n [98,101,116,119,101,101,110] (okv [a,b])=J1 opn 23 a b:=by kernel_rfl
 rw [e] at he ⊢
 have h1:=ha.d
 have h2:=hb.d
 show vOk 1 (b - a)
 unfold vOk
 omega
theorem po7:POv ⟨7,[100,97,121,115],[3,1],3,[15]⟩:=by
 intro opn ev hev n vs hv he
 dsimp only at hv he ⊢
 obtain ⟨a,b,rfl,ha,hb⟩:=hv.two_inv
 have e:Zq opn ev 7 n [100,97,121,115] (okv [a,b])=J1 opn 15 a b:=by kernel_rfl
 rw [e] at he ⊢
 exact Z4m he
theorem po8:POv ⟨7,[119,101,101,107,115],[3,1],3,[16]⟩:=by
 intro opn ev hev n vs hv he
 dsimp only at hv he ⊢
 obtain ⟨a,b,rfl,ha,hb⟩:=hv.two_inv
 have e:Zq opn ev 7 n [119,101,101,107,115] (okv [a,b])=J1 opn 16 a b:=by kernel_rfl
 rw [e] at he ⊢
 exact Z4m he
theorem po9:POv ⟨7,[109,111,110,116,104,115],[3,1],3,[17]⟩:=by
 intro opn ev hev n vs hv he
 dsimp only at hv he ⊢
 obtain ⟨a,b,rfl,ha,hb⟩:=hv.two_inv
 have e:Zq opn ev 7 n [109,111,110,116,104,115] (okv [a,b])=J1 opn 17 a b:=by kernel_rfl
 rw [e] at he ⊢
 exact .days (Z85 he)
theorem Zqf:POv ⟨7,[99,111,117,114,116,100,97,121,115],[3,1],3,[18]⟩:=by
 intro opn ev hev n vs hv he
 dsimp only at hv he ⊢
 obtain ⟨a,b,rfl,ha,hb⟩:=hv.two_inv
 have e:Zq opn ev 7 n [99,111,117,114,116,100,97,121,115] (okv [a,b])=J1 opn 18 a b:=by kernel_rfl
 rw [e] at he ⊢
 exact .days (Z84 he)
theorem Zqg:POv ⟨8,[100,97,121,115],[3,1],3,[8,15]⟩:=by
 intro opn ev hev n vs hv he
 dsimp only at hv he ⊢
 obtain ⟨a,b,rfl,ha,hb⟩:=hv.two_inv
 have e:Zq opn ev 8 n [100,97,121,115] (okv [a,b])=J1 opn 15 a (-b):=by kernel_rfl
 rw [e] at he ⊢
 exact Z4m he
theorem Zqh:POv ⟨8,[119,101,101,107,115],[3,1],3,[8,16]⟩:=by
 intro opn ev hev n vs hv he
 dsimp only at hv he ⊢
 obtain ⟨a,b,rfl,ha,hb⟩:=hv.two_inv
 have e:Zq opn ev 8 n [119,101,101,107,115] (okv [a,b])=J1 opn 16 a (-b):=by kernel_rfl
 rw [e] at he ⊢
 exact Z4m he
theorem Zqi:POv ⟨8,[109,111,110,116,104,115],[3,1],3,[8,17]⟩:=by
 intro opn ev hev n vs hv he
 dsimp only at hv he ⊢
 obtain ⟨a,b,rfl,ha,hb⟩:=hv.two_inv
 have e:Zq opn ev 8 n [109,111,110,116,104,115] (okv [a,b])=J1 opn 17 a (-b):=by kernel_rfl
 rw [e] at he ⊢
 exact .days (Z85 he)
theorem Zqj:POv ⟨8,[99,111,117,114,116,100,97,121,115],[3,1],3,[8,18]⟩:=by
 intro opn ev hev n vs hv he
 dsimp only at hv he ⊢
 obtain ⟨a,b,rfl,ha,hb⟩:=hv.two_inv
 have e:Zq opn ev 8 n [99,111,117,114,116,100,97,121,115] (okv [a,b])=J1 opn 18 a (-b):=by kernel_rfl
 rw [e] at he ⊢
 exact .days (Z84 he)
theorem Zqk:POv ⟨6,[43],[1,1],1,[5]⟩:=by
 intro opn ev hev n vs hv he
 dsimp only at hv he ⊢
 obtain ⟨a,b,rfl,ha,hb⟩:=hv.two_inv
 have e:Zq opn ev 6 n [43] (okv [a,b])=J1 opn 5 a b:=by kernel_rfl
 rw [e] at he ⊢
 exact Z5E he
theorem Zql:POv ⟨6,[45],[1,1],1,[6]⟩:=by
 intro opn ev hev n vs hv he
 dsimp only at hv he ⊢
 obtain ⟨a,b,rfl,ha,hb⟩:=hv.two_inv
 have e:Zq opn ev 6 n [45] (okv [a,b])=J1 opn 6 a b:=by kernel_rfl
 rw [e] at he ⊢
 exact Z5E he
theorem Zqm:POv ⟨6,[42],[1,1],1,[7]⟩:=by
 intro opn ev hev n vs hv he
 dsimp only at hv he ⊢
 obtain ⟨a,b,rfl,ha,hb⟩:=hv.two_inv
 have e:Zq opn ev 6 n [42] (okv [a,b])=J1 opn 7 a b:=by kernel_rfl
 rw [e] at he ⊢
 exact Z5E he
theorem Zqn:POv ⟨6,[60],[1,1],2,[9]⟩:=by
 intro opn ev hev n vs hv he
 dsimp only at hv he ⊢
 obtain ⟨a,b,rfl,ha,hb⟩:=hv.two_inv
 have e:Zq opn ev 6 n [60] (okv [a,b])=J1 opn 9 a b:=by kernel_rfl
 rw [e] at he ⊢
 exact Z12 _
theorem Zqo:POv ⟨6,[60,61],[1,1],2,[10]⟩:=by
 intro opn ev hev n vs hv he
 dsimp only at hv he ⊢
 obtain ⟨a,b,rfl,ha,hb⟩:=hv.two_inv
 have e:Zq opn ev 6 n [60,61] (okv [a,b])=J1 opn 10 a b:=by kernel_rfl
 rw [e] at he ⊢
 exact Z12 _
theorem Zqp:POv ⟨6,[61],[1,1],2,[11]⟩:=by
 intro opn ev hev n vs hv he
 dsimp only at hv he ⊢
 obtain ⟨a,b,rfl,ha,hb⟩:=hv.two_inv
 have e:Zq opn ev 6 n [61] (okv [a,b])=J1 opn 11 a b:=by kernel_rfl
 rw [e] at he ⊢
 exact Z12 _
theorem Zqq:POv ⟨6,[33,61],[1,1],2,[11,12]⟩:=by
 intro opn ev hev n vs hv he
 dsimp only at hv he ⊢
 obtain ⟨a,b,rfl,ha,hb⟩:=hv.two_inv
 have e:Zq opn ev 6 n [33,61] (okv [a,b])=(Jf (decide (¬ a=b)),0):=by kernel_rfl
 rw [e]
 exact Z12 _
theorem Zqr:POv ⟨6,[62],[1,1],2,[10,12]⟩:=by
 intro opn ev hev n vs hv he
 dsimp only at hv he ⊢
 obtain ⟨a,b,rfl,ha,hb⟩:=hv.two_inv
 have e:Zq opn ev 6 n [62] (okv [a,b])=(Jf (decide (b<a)),0):=by kernel_rfl
 rw [e]
 exact Z12 _
theorem Zqs:POv ⟨6,[62,61],[1,1],2,[9,12]⟩:=by
 intro opn ev hev n vs hv he
 dsimp only at hv he ⊢
 obtain ⟨a,b,rfl,ha,hb⟩:=hv.two_inv
 have e:Zq opn ev 6 n [62,61] (okv [a,b])=(Jf (decide (b≤a)),0):=by kernel_rfl
 rw [e]
 exact Z12 _
theorem Zqt:POv ⟨6,[60],[3,3],2,[9]⟩:=by
 intro opn ev hev n vs hv he
 dsimp only at hv he ⊢
 obtain ⟨a,b,rfl,ha,hb⟩:=hv.two_inv
 have e:Zq opn ev 6 n [60] (okv [a,b])=J1 opn 9 a b:=by kernel_rfl
 rw [e] at he ⊢
 exact Z12 _
theorem Zqu:POv ⟨6,[60,61],[3,3],2,[10]⟩:=by
 intro opn ev hev n vs hv he
 dsimp only at hv he ⊢
 obtain ⟨a,b,rfl,ha,hb⟩:=hv.two_inv
 have e:Zq opn ev 6 n [60,61] (okv [a,b])=J1 opn 10 a b:=by kernel_rfl
 rw [e] at he ⊢
 exact Z12 _
theorem Zqv:POv ⟨6,[61],[3,3],2,[11]⟩:=by
 intro opn ev hev n vs hv he
 dsimp only at hv he ⊢
 obtain ⟨a,b,rfl,ha,hb⟩:=hv.two_inv
 have e:Zq opn ev 6 n [61] (okv [a,b])=J1 opn 11 a b:=by kernel_rfl
 rw [e] at he ⊢
 exact Z12 _
theorem Zqw:POv ⟨6,[33,61],[3,3],2,[11,12]⟩:=by
 intro opn ev hev n vs hv he
 dsimp only at hv he ⊢
 obtain ⟨a,b,rfl,ha,hb⟩:=hv.two_inv
 have e:Zq opn ev 6 n [33,61] (okv [a,b])=(Jf (decide (¬ a=b)),0):=by kernel_rfl
 rw [e]
 exact Z12 _
theorem Zqx:POv ⟨6,[62],[3,3],2,[10,12]⟩:=by
 intro opn ev hev n vs hv he
 dsimp only at hv he ⊢
 obtain ⟨a,b,rfl,ha,hb⟩:=hv.two_inv
 have e:Zq opn ev 6 n [62] (okv [a,b])=(Jf (decide (b<a)),0):=by kernel_rfl
 rw [e]
 exact Z12 _
theorem Zqy:POv ⟨6,[62,61],[3,3],2,[9,12]⟩:=by
 intro opn ev hev n vs hv he
 dsimp only at hv he ⊢
 obtain ⟨a,b,rfl,ha,hb⟩:=hv.two_inv
 have e:Zq opn ev 6 n [62,61] (okv [a,b])=(Jf (decide (b≤a)),0):=by kernel_rfl
 rw [e]
 exact Z12 _
theorem Zl5:∀ r∈Z2e,POv r:=by
 unfold Z2e
 refine Xa.2 ⟨po0,?_⟩
 refine Xa.2 ⟨po1,?_⟩
 refine Xa.2 ⟨po2,?_⟩
 refine Xa.2 ⟨po3,?_⟩
 refine Xa.2 ⟨po4,?_⟩
 refine Xa.2 ⟨po5,?_⟩
 refine Xa.2 ⟨po6,?_⟩
 refine Xa.2 ⟨po7,?_⟩
 refine Xa.2 ⟨po8,?_⟩
 refine Xa.2 ⟨po9,?_⟩
 refine Xa.2 ⟨Zqf,?_⟩
 refine Xa.2 ⟨Zqg,?_⟩
 refine Xa.2 ⟨Zqh,?_⟩
 refine Xa.2 ⟨Zqi,?_⟩
 refine Xa.2 ⟨Zqj,?_⟩
 refine Xa.2 ⟨Zqk,?_⟩
 refine Xa.2 ⟨Zql,?_⟩
 refine Xa.2 ⟨Zqm,?_⟩
 refine Xa.2 ⟨Zqn,?_⟩
 refine Xa.2 ⟨Zqo,?_⟩
 refine Xa.2 ⟨Zqp,?_⟩
 refine Xa.2 ⟨Zqq,?_⟩
 refine Xa.2 ⟨Zqr,?_⟩
 refine Xa.2 ⟨Zqs,?_⟩
 refine Xa.2 ⟨Zqt,?_⟩
 refine Xa.2 ⟨Zqu,?_⟩
 refine Xa.2 ⟨Zqv,?_⟩
 refine Xa.2 ⟨Zqw,?_⟩
 refine Xa.2 ⟨Zqx,?_⟩
 refine Xa.2 ⟨Zqy,?_⟩
 intro r h
 cases h
theorem Zew (opn:Int→Bool) (ev:List Int) (hev:Z3x ev) (n:Int) (vs:List Int) (r:Z86) (hr:r∈Z2e) (hv:Jo r.ts vs) (he:(Zq opn ev r.k n r.s (okv vs)).2=0):vOk r.t (Zq opn ev r.k n r.s (okv vs)).1:=Zl5 r hr opn ev hev n vs hv he
def Z0t:List (Int×Int)→Int
 | []=>0
 | r :: l=>if r.2=0 then Z0t l else r.2
theorem Zhl:∀ r∈Z2e,(¬ (r.k=1∨r.k=2∨r.k=3)∧¬ r.k=4∧¬ r.k=9)∧¬ (r.k=6∧(r.s=[97,110,100]∨r.s=[111,114]))∧(r.ts.length=1∨r.ts.length=2):=by decide +kernel
theorem Z78 (opn:Int→Bool) (ev:List Int) (n:Int) (rs:List (Int×Int)) (r:Z86) (hr:r∈Z2e) (hl:rs.length=r.ts.length) (he:Z0t rs≠0):Zq opn ev r.k n r.s rs=(0,Z0t rs):=by
 obtain ⟨⟨h1,h4,h9⟩,hao,hlen⟩:=Zhl r hr
 unfold Zq
 rw [if_neg h1,if_neg h4]
 rcases hlen with h|h
 rw [h] at hl
 obtain ⟨a,rfl⟩:=YaO.1 hl
 have ha:¬ a.2=0:=fun h0=>he (by simp [Z0t,h0])
 have e1:([a]:List (Int×Int)).getD 0 (0,0)=a:=rfl
 rw [e1,if_pos ha]
 simp [Z0t,ha]
 rw [h] at hl
 obtain ⟨a,b,rfl⟩:=Z7Y hl
 have e1:([a,b]:List (Int×Int)).getD 0 (0,0)=a:=rfl
 have e2:([a,b]:List (Int×Int)).getD 1 (0,0)=b:=rfl
 rw [e1,e2]
 by_cases ha:a.2=0
 have hb:¬ b.2=0:=fun h0=>he (by simp [Z0t,ha,h0])
 have h5:¬ r.k=5:=by
  have:∀ r∈Z2e,r.k=5→r.ts.length=1:=by decide +kernel
  intro h5
  rw [this r hr h5] at h
  cases h
 rw [if_neg (fun h=>h ha),if_neg h5,if_neg h9,if_neg (by simp),if_neg (fun h=>hao ⟨h.1,h.2.elim (fun x=>.inl x.1) (fun x=>.inr x.1)⟩),if_pos hb]
 simp [Z0t,ha,hb]
 rw [if_pos ha]
 simp [Z0t,ha]
theorem Z35 (opn:Int→Bool) (ev:List Int) (hev:Z3x ev) (x:Nd):Zf x≠0→(Zc opn ev x).2=0→vOk (Zf x) (Zc opn ev x).1:=by
 induction x using Nd.ind with
 | h k n s l ih=>
 intro ht he
 have hkid:∀ y∈l,Zf y≠0:=fun y hy=>Z3m (x:=.mk k n s l) ht hy
 have hev2:Zc opn ev (.mk k n s l)=Zq opn ev k n s (l.map (Zc opn ev)):=Z2d _ _ _
 rw [hev2] at he ⊢
 rcases Z6d ht with ⟨rfl,hlf⟩|⟨rfl,a,b,c,rfl,ta,tb,tc⟩|⟨rfl,hs,a,b,rfl,ta,tb,ht2⟩|⟨r,hr,rfl,rfl,hts,htt⟩
 rcases hlf with ⟨hk,ht2,hv⟩|⟨rfl,i,hi,rfl,hf,ht2⟩
 rw [ht2]
 unfold Zq
 rw [if_pos hk]
 exact hv
 have e:Zq opn ev 4 n (Zt.getD i []) (List.map (Zc opn ev) [])=Z4W ev (i:Int):=by
  unfold Zq
  rw [if_neg (by decide),if_pos rfl,hf]
 rw [e] at he ⊢
 rw [ht2]
 unfold Z4W at he ⊢
 split at he
 simp at he
 rename_i h1
 rw [if_neg h1]
 have h0:=hev.day
 have hs1:=hev.served
 rw [Yal]
 by_cases h01:i≤1
 rw [if_pos h01]
 right;right
 have h01:i=0∨i=1:=by omega
 rcases h01 with rfl|rfl
 exact ⟨rfl,h0.1,h0.2⟩
 refine ⟨rfl,?_,hs1.2⟩
 have:¬ ev.getD 1 0=-1:=fun h=>h1 ⟨rfl,h⟩
 show 0≤ev.getD 1 0
 omega
 rw [if_neg h01]
 left
 exact ⟨rfl,hev.rest i (by omega) (by omega)⟩
 have em:[a,b,c].map (Zc opn ev)=[Zc opn ev a,Zc opn ev b,Zc opn ev c]:=rfl
 have e0:[Zc opn ev a,Zc opn ev b,Zc opn ev c].getD 0 (0,0)=Zc opn ev a:=rfl
 rw [em] at he ⊢
 unfold Zq at he ⊢
 rw [if_neg (by decide),if_neg (by decide),e0] at he ⊢
 by_cases ha:(Zc opn ev a).2=0
 rw [if_neg (fun h=>h ha),if_neg (by decide),if_pos rfl] at he ⊢
 have hva:=(ih a (by simp) (hkid a (by simp)) ha)
 rw [ta] at hva
 rcases hva.b with h0|h1
 rw [h0] at he ⊢
 rw [← tc]
 exact ih c (by simp) (hkid c (by simp)) he
 rw [h1] at he ⊢
 rw [← tb]
 exact ih b (by simp) (hkid b (by simp)) he
 rw [if_pos ha] at he
 exact absurd he ha
 rw [ht2]
 have em:[a,b].map (Zc opn ev)=[Zc opn ev a,Zc opn ev b]:=rfl
 have e0:[Zc opn ev a,Zc opn ev b].getD 0 (0,0)=Zc opn ev a:=rfl
 have e1:[Zc opn ev a,Zc opn ev b].getD 1 (0,0)=Zc opn ev b:=rfl
 rw [em] at he ⊢
 unfold Zq at he ⊢
 rw [if_neg (by decide),if_neg (by decide),e0,e1] at he ⊢
 by_cases ha:(Zc opn ev a).2=0
 rw [if_neg (fun h=>h ha),if_neg (by decide),if_neg (by decide),if_neg (by simp)] at he ⊢
 have hva:=(ih a (by simp) (hkid a (by simp)) ha)
 rw [ta] at hva
 split at he
 rename_i hc
 rw [if_pos hc]
 exact hva
 rename_i hc
 rw [if_neg hc]
 by_cases hb:(Zc opn ev b).2=0
 rw [if_neg (fun h=>h hb),if_neg (by decide),if_neg (by decide),if_neg (by decide)] at he ⊢
 have hvb:=(ih b (by simp) (hkid b (by simp)) hb)
 rw [tb] at hvb
 rcases hs with rfl|rfl
 exact hvb
 exact hvb
 rw [if_pos hb] at he
 exact absurd he hb
 rw [if_pos ha] at he
 exact absurd he ha
 rw [htt]
 by_cases hf:Z0t (l.map (Zc opn ev))=0
 · have hall:∀ y∈l,(Zc opn ev y).2=0:=by
    have:∀ (rs:List (Int×Int)),Z0t rs=0→∀ z∈rs,z.2=0:=by
     intro rs
     induction rs with
     | nil=>intro _ z hz;cases hz
     | cons q r ihr=>
       intro h z hz
       rw [Z0t] at h
       split at h
       rename_i h0
       rcases Xe.1 hz with rfl|hz
       exact h0
       exact ihr h z hz
       rename_i h0;exact absurd h h0
    intro y hy
    exact this _ hf _ (Yac hy)
   have hmap:l.map (Zc opn ev)=okv (l.map fun y=>(Zc opn ev y).1):=by
    unfold okv
    rw [Ya5]
    refine List.map_congr_left (fun y hy=>?_)
    have:=hall y hy
    exact Prod.ext rfl this
   have hst:Jo r.ts (l.map fun y=>(Zc opn ev y).1):=by
    rw [← hts]
    refine ⟨by simp,fun i h h'=>?_⟩
    simp only [YaT]
    have hi:i<l.length:=by simpa using h
    exact ih l[i] (Xf hi) (hkid _ (Xf hi)) (hall _ (Xf hi))
   rw [hmap] at he ⊢
   exact Zew opn ev hev n _ r hr hst he
 rw [Z78 opn ev n _ r hr (by rw [← hts];simp) hf] at he
 exact absurd he hf
theorem Z4Y {l:List Tkn} {i:Nat} (h:i<l.length):cur l i=l[i]:=by simp [cur,List.getD,h]
def Pd (w:World) (b:Nat) (tv:Value) (l:List Tkn) (i o:Nat):Prop:=Blk w b 170 [tv,.int .i64 i,.int .i64 o]∧SlV [b] w tv l∧i<l.length∧l.length≤1000000∧o≤12
theorem Pd.up {w w':World} {b i o:Nat} {tv:Value} {l:List Tkn} (h:Pd w b tv l i o) (hS:Stp [] w w'):Pd w' b tv l i o:=by
 obtain ⟨h1,h2,h3⟩:=h
 exact ⟨h1.up hS,h2.up hS,h3⟩
theorem Pd.lt {w:World} {b i o:Nat} {tv:Value} {l:List Tkn} (h:Pd w b tv l i o):b<w.heap.size:=by
 obtain ⟨h1,_⟩:=h
 exact h1.lt
theorem Pd.i_lt {w:World} {b i o:Nat} {tv:Value} {l:List Tkn} (h:Pd w b tv l i o):i<l.length:=by
 obtain ⟨_,_,h1,_⟩:=h
 exact h1
def Z3C (a c:Int):Value:=.iface 210 (.agg #[.int .i64 a,.int .i64 c])
def PE {α:Type} (r:Out α) (G:α→Nat→Nat→Value→World→Prop) (F:World→Prop) (e:Ending) (w':World):Prop:=
 match r with
 | .err a c=>e=.panicked [⟨Z3C a c,false,false⟩]∧F w'
 | .ok x i o=>Ret (G x i o) e w'
theorem ZM {P:Program} {n:Nat} {Q:Exit→Act→World→Prop} {e:Env} {w:World} {ops:Array Oper} {rest:List Oper} {d:Nat} {ty:TypeId} {pos:String} {af:Array Edge} {f:Nat} {fn:Func} {xs:Array Operand} {ts:Array TypeId} {vs:Array Value} {c:Operand} {ch:List PanicEntry} {F:World→Prop} [hf:Fun P f fn]
 (hc:ev e c=some (.func (.func f) #[] #[])) (hv:∀ a,Has n e a→xs.map a.eval=vs) (h:Calls P f vs w (fun e w'=>e=.panicked ch∧F w')) (hd:Nat.blt d n=true) (k:∀ w',F w'→WQ n Q (.panic ch) [] w') :
 WL P n ops Q (⟨some d,.call { callee:=.value c,args:=xs,argTypes:=ts },ty,pos,af,none⟩ :: rest) e w:=
 Zbl (G:=fun _ _=>False) (F:=fun ch' w'=>ch'=ch∧F w') (Z61 hc hv (h.mono fun e w' ⟨h1,h2⟩=>by rw [h1];exact .pan ⟨rfl,h2⟩)) hd (fun ch' w' ⟨h1,h2⟩=>by subst h1;exact Zcf (k w' h2)) (fun _ _ h=>h.elim)
theorem Zl6 (a c:Int) (w:World):(Instr.build 210 #[(0,.int .i64 a),(1,.int .i64 c)]).run Tryz.prog w=.ok (.agg #[.int .i64 a,.int .i64 c]) w:=by kernel_rfl
theorem JZ (b:Nat) (tv:Value) (l:List Tkn) (i o:Nat) (w:World) (hp:Pd w b tv l i o) :
 CC 168 #[.pointer (some ⟨b,0,none⟩)] w fun r w'=>r=str (cur l i).text∧Stp [] w w':=by
 obtain ⟨hb,hs,hi,hl,ho⟩:=hp
 rw [Z4Y hi]
 refine cW1 14 Tryz.func168 ?_
 refine W ?_
 refine ZDr 12 [] [] [(0,0),(1,0),(2,0),(3,1),(4,0),(5,0),(6,0),(7,1),(8,0),(9,0),(10,1),(11,0)] (fun w1 hS1=>?_)
 replace hb:=hb.up hS1
 replace hs:=hs.up hS1
 refine D ?_
 refine W ?_
 refine WR ?_
 exact .mk ⟨rfl,hS1⟩
theorem Z9n (b:Nat) (tv:Value) (l:List Tkn) (i o:Nat) (c:Int) (w:World) (hp:Pd w b tv l i o) :
 Calls Tryz.prog 119 #[.pointer (some ⟨b,0,none⟩),.int .i64 c] w (fun e w'=>e=.panicked [⟨Z3C (cur l i).pos c,false,false⟩]∧Stp [] w w'):=by
 obtain ⟨hb,hs,hi,hl,ho⟩:=hp
 rw [Z4Y hi]
 refine cW2 18 Tryz.func119 ?_
 refine W ?_
 refine Z3o 15 ([]) [] [(0,0),(1,0),(2,0),(3,1),(4,0),(5,0),(6,0),(7,1),(8,0),(9,0),(10,1),(11,0),(12,0),(13,0),(14,2)] rfl mixed (by kernel_rfl) (by kernel_rfl) (by kernel_rfl) (fun w1 hS1=>?_)
 replace hb:=hb.up hS1
 replace hs:=hs.up hS1
 refine Jb rfl trivial (fun _=>ZQ rfl) rfl ?_
 refine Jb rfl trivial (fun _=>Z1M rfl) rfl ?_
 refine Jb rfl trivial (fun _=>Jy rfl) rfl ?_
 refine Z29 rfl trivial (fun w' hw=>Jq rfl rfl (hb.up hw) rfl) rfl ?_
 refine Jb rfl trivial (fun _=>ZQ rfl) rfl ?_
 refine Jb rfl trivial (fun _=>Z1M rfl) rfl ?_
 refine Jb rfl trivial (fun _=>Jy rfl) rfl ?_
 refine Z29 rfl trivial (fun w' hw=>Jq rfl rfl (hb.up hw) rfl) rfl ?_
 refine Jb rfl trivial (fun _=>Z9X rfl hs rfl rfl hi) rfl ?_
 refine Jb rfl trivial (fun _=>Z2O rfl (SlV.isSome hs hi)) rfl ?_
 refine Z29 rfl trivial (fun w' hw=>Z3E (u:=.int .i64 l[i].pos) rfl rfl (hs.up hw) hi rfl rfl) rfl ?_
 refine Jb rfl trivial (fun _=>ZQ rfl) rfl ?_
 refine Jb rfl trivial (fun _=>Z0v (vs:=[(0,.int .i64 l[i].pos),(1,.int .i64 c)]) rfl (Zl6 _ _)) rfl ?_
 refine Jb rfl trivial (fun _=>Z4O rfl) rfl ?_
 refine Zch rfl trivial (Zcg rfl) ?_
 refine ZG ?_
 exact ⟨rfl,hS1⟩
theorem Z6e (b:Nat) (tv:Value) (l:List Tkn) (s:Str) (i o:Nat) (w:World) (hp:Pd w b tv l i o) (hn:(cur l i).text=s→i+1<l.length) :
 CC 251 #[.pointer (some ⟨b,0,none⟩),str s] w fun r w'=>r=.bool (decide ((cur l i).text=s))∧Pd w' b tv l (if (cur l i).text=s then i+1 else i) o∧Stp [b] w w':=by
 refine cW2 16 Tryz.func251 ?_
 refine W ?_
 refine CL rfl (Zm rfl) rfl (JZ b tv l i o _ hp) ?_
 rintro _ w1 ⟨rfl,hS1⟩
 replace hp:=hp.up hS1
 obtain ⟨hb,hs,hi,hl,ho⟩:=hp
 have hmax:=hs.max
 by_cases h:(cur l i).text=s
 have hi1:=hn h
 focus repeat'(first|refine W1 ?_|omega|refine VG ?_ ?_<;>intro hg|refine VC ?_ ?_<;>intro hc)
 exact absurd h (by assumption)
 refine Z2 (Ze (u:=.int .i64 ((i+1:Nat):Int)) rfl (by show some _=some _;simp) rfl rfl hb (by simp)) ?_
 rintro _ w2 ⟨hT,hb2⟩
 refine W ?_
 refine WR ?_
 rw [decide_eq_true h,if_pos h]
 exact .mk ⟨rfl,⟨hb2,hs.ext hT (fun c hc=>hc) (fun c hc=>.inl hc),hi1,hl,ho⟩,(hS1.mono (by simp)).trans hT⟩
 focus repeat'(first|refine W1 ?_|omega|refine VG ?_ ?_<;>intro hg|refine VC ?_ ?_<;>intro hc)
 refine WR ?_
 rw [decide_eq_false h,if_neg h]
 exact .mk ⟨rfl,⟨hb,hs,hi,hl,ho⟩,hS1.mono (by simp)⟩
 exact absurd h (by assumption)
def PC {α:Type} (b:Nat) (w:World) (tv:Value) (l:List Tkn) (r:Out α) (G:α→Value→World→Prop) (e:Ending) (w':World):Prop:=
 PE r (fun x i o v w'=>G x v w'∧Pd w' b tv l i o∧Stp [b] w w') (fun w'=>Stp [b] w w') e w'
theorem PC.ok {α:Type} {b:Nat} {w w':World} {tv:Value} {l:List Tkn} {x:α} {i o:Nat} {G:α→Value→World→Prop} {v:Value} (hG:G x v w') (hp:Pd w' b tv l i o) (hS:Stp [b] w w'):PC b w tv l (.ok x i o) G (.returned v) w':=⟨v,rfl,hG,hp,hS⟩
theorem PC.err {α:Type} {b:Nat} {w w':World} {tv:Value} {l:List Tkn} {a c:Int} {G:α→Value→World→Prop} (hS:Stp [b] w w'):PC b w tv l (.err a c) G (.panicked [⟨Z3C a c,false,false⟩]) w':=⟨rfl,hS⟩
theorem PC.fail {α:Type} {b:Nat} {w w':World} {tv:Value} {l:List Tkn} {i:Nat} {c:Int} {G:α→Value→World→Prop} (hS:Stp [b] w w'):PC b w tv l (Z2a l i c) G (.panicked [⟨Z3C (cur l i).pos c,false,false⟩]) w':=⟨rfl,hS⟩
theorem Z9o (b:Nat) (tv:Value) (l:List Tkn) (i o:Nat) (c:Int) (w w0:World) (hp:Pd w b tv l i o) (hS:Stp [b] w0 w) :
 Calls Tryz.prog 119 #[.pointer (some ⟨b,0,none⟩),.int .i64 c] w (fun e w'=>e=.panicked [⟨Z3C (cur l i).pos c,false,false⟩]∧Stp [b] w0 w'):=
 (Z9n b tv l i o c w hp).mono fun e w' ⟨h1,h2⟩=>⟨h1,hS.trans (h2.mono (by simp))⟩
theorem PC.goes {α:Type} {b f:Nat} {args:Array Value} {w:World} {tv:Value} {l:List Tkn} {x:α} {i o:Nat} {r:Out α} {G:α→Value→World→Prop} (h:Calls Tryz.prog f args w (PC b w tv l r G)) (hr:r=.ok x i o):CC f args w fun v w'=>G x v w'∧Pd w' b tv l i o∧Stp [b] w w':=by
 subst hr;exact h
theorem PC.falls {α:Type} {b f:Nat} {args:Array Value} {w w0:World} {tv:Value} {l:List Tkn} {a c:Int} {r:Out α} {G:α→Value→World→Prop} (h:Calls Tryz.prog f args w (PC b w tv l r G)) (hr:r=.err a c) (hS:Stp [b] w0 w):Calls Tryz.prog f args w (fun e w'=>e=.panicked [⟨Z3C a c,false,false⟩]∧Stp [b] w0 w'):=by
 subst hr;exact h.mono fun e w' ⟨h1,h2⟩=>⟨h1,hS.trans h2⟩
theorem Z1y (b:Nat) (tv:Value) (l:List Tkn) (hL:Z32 l) (s:Str) (hs0:s≠[]) (i o:Nat) (w:World) (hp:Pd w b tv l i o) :
 Calls Tryz.prog 165 #[.pointer (some ⟨b,0,none⟩),str s] w (PC b w tv l (Z1q l s i o) (fun _ v _=>v=.tuple #[])):=by
 have hn:(cur l i).text=s→i+1<l.length:=fun h=>hL.end_of hp.i_lt (by rw [h];exact hs0)
 unfold Z1q
 refine cW2 10 Tryz.func165 ?_
 refine W ?_
 refine CL rfl (Zb rfl rfl) rfl (Z6e b tv l s i o _ hp hn) ?_
 rintro _ w1 ⟨rfl,hp1,hS1⟩
 by_cases h:(cur l i).text=s
 rw [if_pos h] at hp1 ⊢
 rw [decide_eq_true h]
 refine W ?_
 refine WR ?_
 exact PC.ok rfl hp1 hS1
 rw [if_neg h] at hp1 ⊢
 rw [decide_eq_false h]
 refine W ?_
 refine ZM rfl (Zb rfl rfl) (Z9o b tv l i o 20 _ w hp1 hS1) rfl ?_
 intro w2 hw2
 focus repeat'(first|refine Zk ?_|refine Zi ?_)
 refine ZG ?_
 exact PC.fail hw2
theorem Z4Z (C:Str) (W:List Str) (h1:∀ i∈List.range (C.length+1),(C.drop i).head?=some 32→(C.drop (i+1)).takeWhile (fun c=>decide (c≠32))∈W∨(C.drop (i+1)).takeWhile (fun c=>decide (c≠32))=[])
 (h2:∀ t∈W,Lib.contains C (32 :: t++[32])=true) {t:Str} (h0:t≠[]) (hc:∀ c∈t,c≠32):Lib.contains C (32 :: t++[32])=decide (t∈W):=by
 by_cases ht:t∈W
 rw [h2 t ht,decide_eq_true ht]
 · rw [decide_eq_false ht]
   unfold Lib.contains
   rw [decide_eq_false_iff_not,Z6V]
   rintro ⟨i,hi,h⟩
   cases hd:C.drop i with
   | nil=>rw [hd] at h;simp at h
   | cons a l=>
     rw [hd] at h
     simp only [XN,List.isPrefixOf,Xi,beq_iff_eq] at h
     obtain ⟨rfl,h⟩:=h
     have hl:C.drop (i+1)=l:=by
      have:=congrArg List.tail hd
      simpa [List.tail_drop] using this
     have hw:=Z6W t l hc h
     have:=h1 i (List.mem_range.2 (by omega)) (by rw [hd];rfl)
     rw [hl,hw] at this
     exact this.elim ht h0
def Z9p:Str:=[32,100,97,121,115,32,119,101,101,107,115,32,109,111,110,116,104,115,32,99,111,117,114,116,100,97,121,115,32]
def Z88:Str:=[32,100,97,121,32,115,101,114,118,101,100,32,101,120,116,114,97,32,98,121,32,116,111,32,99,111,117,114,116,32,97,109,111,117,110,116,32]
def Zbr:Str:=[32,110,101,120,116,32,112,114,101,118,32,108,97,116,101,114,32,101,97,114,108,105,101,114,32,98,101,116,119,101,101,110,32]
theorem Zex {t:Str} (h0:t≠[]) (hc:∀ c∈t,c≠32):Lib.contains Z9p (32 :: t++[32])=decide (t∈Z72):=Z4Z Z9p _ (by decide +kernel) (by decide +kernel) h0 hc
theorem Zco {t:Str} (h0:t≠[]) (hc:∀ c∈t,c≠32):Lib.contains Z88 (32 :: t++[32])=decide (t∈Z62):=Z4Z Z88 _ (by decide +kernel) (by decide +kernel) h0 hc
theorem Zey {t:Str} (h0:t≠[]) (hc:∀ c∈t,c≠32):Lib.contains Zbr (32 :: t++[32])=decide (t∈Z73):=Z4Z Zbr _ (by decide +kernel) (by decide +kernel) h0 hc
theorem Z3V (C:Str) (ws:List Str) (hW:[]∉ws) (t:Str) (m:Int) (w:World) (hm:w.cell? ⟨2,0,none⟩=some (.int .i64 m)) (hC:C.length≤1000000) (htl:t.length≤4000)
 (hiff:t≠[]→Lib.contains C (32 :: t++[32])=decide (t∈ws)) :
 CC 215 #[str C,str t] w fun r w'=>r=.bool (decide (t∈ws))∧Stp [] w w':=by
 refine cW2 14 Tryz.func215 ?_
 by_cases h:t=[]
 · subst h
   repeat'(first|refine W1 ?_|omega|refine VG ?_ ?_<;>intro hg|refine VC ?_ ?_<;>intro hc)
   all_goals
    refine WR ?_
    rw [decide_eq_false hW]
    exact .mk ⟨rfl,Stp.refl _ _⟩
 · have e1:Lib.contains C ([32]++t++[32])=decide (t∈ws):=hiff h
   repeat'(first|refine W1 ?_|omega|refine VG ?_ ?_<;>intro hg|refine VC ?_ ?_<;>intro hc)
   rotate_left
   exact absurd h (by assumption)
   refine Z7E rfl rfl (by simp;omega) rfl ?_
   repeat'(first|refine W1 ?_|omega|refine VG ?_ ?_<;>intro hg|refine VC ?_ ?_<;>intro hc)
   refine Z7E rfl rfl (by simp;omega) rfl ?_
   repeat'(first|refine W1 ?_|omega|refine VG ?_ ?_<;>intro hg|refine VC ?_ ?_<;>intro hc)
   refine CL rfl (Zb rfl rfl) rfl (Z7S C ([32]++t++[32]) m _ (by omega) hm) ?_
   rintro _ w1 ⟨rfl,hS1⟩
   rw [e1]
   refine W ?_
   refine WR ?_
   exact .mk ⟨rfl,hS1⟩
theorem Z79 (b:Nat) (tv:Value) (l:List Tkn) (hL:Z32 l) (k:Int) (hk:k≠0) (i o:Nat) (w:World) (hp:Pd w b tv l i o) :
 Calls Tryz.prog 167 #[.pointer (some ⟨b,0,none⟩),.int .i64 k] w (PC b w tv l (Z3P l k i o) (fun t v _=>v=.agg (Z9.enc t).toArray)):=by
 obtain ⟨hb,hs,hi,hl,ho⟩:=id hp
 have hn:(cur l i).kind=k→i+1<l.length:=fun h=>hL.end_of_kind hi (by rw [h];exact hk)
 have hmax:=hs.max
 have hs0:=hs
 unfold Z3P
 rw [Z4Y hi] at hn ⊢
 refine cW2 30 Tryz.func167 ?_
 refine W ?_
 refine Z1 Z7 rfl ?_
 rintro _ w0 ⟨b4,rfl,hb4,e4,hS0⟩
 have n4:b4≠b:=by have:=hb.lt;omega
 replace hb:=hb.up hS0
 replace hs:=hs.up hS0
 refine W ?_
 refine ZDr 12 [] [11] [(0,0),(1,0),(2,0),(3,1),(4,0),(5,0),(6,0),(7,1),(8,0),(9,1),(10,2),(11,2)] (fun w1 hS1=>?_)
 replace hb:=hb.up hS1
 replace hs:=hs.up hS1
 replace e4:=e4.up hS1
 replace hS0:=hS0.trans hS1
 clear hS1
 refine D ?_
 refine Za rfl trivial Z7 (fun _ _ ⟨_,_,_,_,h⟩=>h) rfl ?_
 rintro _ w2 ⟨b5,rfl,hb5,e5,hS2⟩
 have n5:b5≠b:=by have:=hb.lt;omega
 have n54:b5≠b4:=by have:=e4.lt;omega
 refine Js rfl trivial (Z3 (us:=Z9.enc l[i]) rfl rfl rfl rfl (Z9.one _) e5 rfl) rfl ?_
 rintro _ w3 ⟨hT,e5⟩
 have hT0:=hS2.own hT (fun c hc=>.inr (by simp at hc;omega))
 clear hT hS2
 replace hb:=hb.up hT0
 replace hs:=hs.up hT0
 replace e4:=e4.up hT0
 replace hS0:=hS0.trans hT0
 clear hT0 hb5
 refine D ?_
 refine W ?_
 have hp3:Pd w3 b tv l i o:=⟨hb,hs,hi,hl,ho⟩
 by_cases h:l[i].kind=k
 rw [if_pos h]
 have hi1:=hn h
 focus repeat'(first|refine W1 ?_|omega|refine VG ?_ ?_<;>intro hg|refine VC ?_ ?_<;>intro hc)
 refine Z2 (Ze (u:=.int .i64 ((i+1:Nat):Int)) rfl (by show some _=some _;simp) rfl rfl hb (by simp)) ?_
 rintro _ w4 ⟨hT,hb2⟩
 replace e4:=e4.ext hT (by simpa using n4)
 replace e5:=e5.ext hT (by simpa using n5)
 replace hs:=hs.ext (X':=[b]) hT (fun c hc=>hc) (fun c hc=>.inl hc)
 refine W ?_
 refine Z2 (Z3 (us:=Z9.enc l[i]) rfl rfl rfl rfl (Z9.one _) e4 rfl) ?_
 rintro _ w5 ⟨hT5,e4⟩
 refine W ?_
 refine Zl (cs:=Z9.enc l[i]) rfl rfl rfl e4 rfl ?_
 have hTT:=((hS0.mono (by simp)).trans hT).own hT5 (fun c hc=>.inr (by simp at hc;omega))
 exact PC.ok rfl ⟨hb2.ext hT5 (by simpa using n4.symm),hs0.ext hTT (fun c hc=>hc) (fun c hc=>.inl hc),hi1,hl,ho⟩ hTT
 rw [if_neg h]
 focus repeat'(first|refine W1 ?_|omega|refine VG ?_ ?_<;>intro hg|refine VC ?_ ?_<;>intro hc)
 refine ZM rfl (Zb rfl rfl) (Z9o b tv l i o 20 _ w hp3 (hS0.mono (by simp))) rfl ?_
 intro w2 hw2
 focus repeat'(first|refine Zk ?_|refine Zi ?_)
 refine ZG ?_
 exact PC.fail hw2
theorem Ju {w w':World} {b:Nat} {m:Int} (hm:w.cell? ⟨2,0,none⟩=some (.int .i64 m)) (hb:b≠2) (hS:Stp [b] w w'):w'.cell? ⟨2,0,none⟩=some (.int .i64 m):=
 hS.cell (by simpa using fun h=>hb h.symm) hm
theorem Zgs (t:Tkn) (w:World):(Instr.field 167 (.agg (Z9.enc t).toArray) 2).run Tryz.prog w=.ok (str t.text) w:=by kernel_rfl
theorem Z02 (b:Nat) (tv:Value) (l:List Tkn) (hL:Z32 l) (s:Str) (hs0:s≠[]) (i o:Nat) (w:World) (hp:Pd w b tv l i o) :
 Calls Tryz.prog 212 #[.pointer (some ⟨b,0,none⟩),str s] w (PC b w tv l (Z0p l s i o) (fun _ v _=>v=.tuple #[])):=by
 have hn:(cur l i).text=s→i+1<l.length:=fun h=>hL.end_of hp.i_lt (by rw [h];exact hs0)
 unfold Z0p
 refine cW2 31 Tryz.func212 ?_
 refine W ?_
 refine CL rfl (Zm rfl) rfl (JZ b tv l i o _ hp) ?_
 rintro _ w1 ⟨rfl,hS1⟩
 have hp1:=hp.up hS1
 have hS:=hS1.mono (S':=[b]) (by simp)
 by_cases h:(cur l i).text=s
 have hi1:=hn h
 rw [if_pos h]
 obtain ⟨hb,hs,hi,hl,ho⟩:=id hp1
 focus repeat'(first|refine W1 ?_|omega|refine VG ?_ ?_<;>intro hg|refine VC ?_ ?_<;>intro hc)
 exact absurd h (by assumption)
 refine ZM rfl (Zb rfl rfl) (Z9o b tv l i o 2 _ w hp1 hS) rfl ?_
 intro w3 hw3
 focus repeat'(first|refine Zk ?_|refine Zi ?_)
 refine ZG ?_
 rw [if_pos (by omega)]
 exact PC.fail hw3
 refine Z2 (Ze (u:=.int .i64 ((i+1:Nat):Int)) rfl (by show some _=some _;simp) rfl rfl hb (by simp)) ?_
 rintro _ w2 ⟨hT,hb2⟩
 replace hs:=hs.ext (X':=[b]) hT (fun c hc=>hc) (fun c hc=>.inl hc)
 refine W ?_
 refine Z2 (Ze (u:=.int .i64 ((o+1:Nat):Int)) rfl (by show some _=some _;simp) rfl rfl hb2 (by simp)) ?_
 rintro _ w3 ⟨hT3,hb3⟩
 replace hs:=hs.ext (X':=[b]) hT3 (fun c hc=>hc) (fun c hc=>.inl hc)
 refine W ?_
 first|refine Z5x rfl ?_|refine Z5y rfl ?_
 rw [if_neg (by omega)]
 exact PC.ok rfl ⟨hb3,hs,hi1,hl,by omega⟩ ((hS.trans hT).trans hT3)
 · rw [if_neg h]
   repeat'(first|refine W1 ?_|omega|refine VG ?_ ?_<;>intro hg|refine VC ?_ ?_<;>intro hc)
   refine ZM rfl (Zb rfl rfl) (Z9o b tv l i o 20 _ w hp1 hS) rfl ?_
   intro w3 hw3
   focus repeat'(first|refine Zk ?_|refine Zi ?_)
   refine ZG ?_
   exact PC.fail hw3
   all_goals exact absurd h (by assumption)
theorem Z13 (b:Nat) (tv:Value) (l:List Tkn) (hL:Z32 l) (s:Str) (hs0:s≠[]) (i o:Nat) (ho0:0<o) (w:World) (hp:Pd w b tv l i o) :
 Calls Tryz.prog 273 #[.pointer (some ⟨b,0,none⟩),str s] w (PC b w tv l (Z0D l s i o) (fun _ v _=>v=.tuple #[])):=by
 unfold Z0D
 refine cW2 14 Tryz.func273 ?_
 refine W ?_
 cases hr:Z1q l s i o with
 | err a c=>
   refine ZM rfl (Zb rfl rfl) (PC.falls (Z1y b tv l hL s hs0 i o _ hp) hr (Stp.refl _ _)) rfl ?_
   intro w3 hw3
   repeat'(first|refine Zk ?_|refine Zi ?_)
   refine ZG ?_
   exact PC.err hw3
 | ok x i1 o1=>
   have ho1:o1=o:=by
    unfold Z1q Z2a at hr
    split at hr<;>simp at hr
    omega
   refine CL rfl (Zb rfl rfl) rfl (PC.goes (Z1y b tv l hL s hs0 i o _ hp) hr) ?_
   rintro _ w1 ⟨rfl,hp1,hS⟩
   obtain ⟨hb,hs,hi,hl,ho⟩:=id hp1
   refine W ?_
   refine Z2 (Ze (u:=.int .i64 ((o1 - 1:Nat):Int)) rfl (by show some _=some _;simp;omega) rfl rfl hb (by simp)) ?_
   rintro _ w3 ⟨hT3,hb3⟩
   replace hs:=hs.ext (X':=[b]) hT3 (fun c hc=>hc) (fun c hc=>.inl hc)
   refine W ?_
   refine WR ?_
   exact PC.ok rfl ⟨hb3,hs,hi,hl,by omega⟩ (hS.trans hT3)
theorem Z9q (s:Str) (w:World):CC 214 #[str s] w fun r w'=>r=.int .i64 (Z4P s:Int)∧w'=w:=by
 unfold Z4P
 refine cW1 20 Tryz.func214 ?_
 repeat'(first|refine W1 ?_|omega|refine VG ?_ ?_<;>intro hg|refine VC ?_ ?_<;>intro hc)
 all_goals refine WR ?_
 all_goals refine .mk ⟨?_,rfl⟩
 all_goals simp_all
theorem Z6J (s:Str) (w:World):CC 307 #[str s] w fun r w'=>r=.int .i64 (Z0W s:Int)∧w'=w:=by
 unfold Z0W
 refine cW1 9 Tryz.func307 ?_
 repeat'(first|refine W1 ?_|omega|refine VG ?_ ?_<;>intro hg|refine VC ?_ ?_<;>intro hc)
 all_goals refine WR ?_
 all_goals refine .mk ⟨?_,rfl⟩
 all_goals simp_all
end Go.Proofs.YtjdjdoefppebkaaGreatDoor
namespace Go.Eng
open Go Go.RowKit Go.Proofs
section
variable {P:Program} {n:Nat} {Q:Exit→Act→World→Prop} {e:Env} {w:World} {ops:Array Oper} {S:List Nat} {Lt:List Nat} {rest:List (Nat×Nat)}
theorem Z50 {i d:Nat} {ty:TypeId} {pos:String} {af:Array Edge} {gd:Option (Nat×Bool)} {f:Nat} {fn:Func} {xs:Array Operand} {ts:Array TypeId} {vs:Array Value} {c:Operand} {ch:List PanicEntry} {F:World→Prop} [hf:Fun P f fn]
 (hi:ops[i]?=some ⟨some d,.call { callee:=.value c,args:=xs,argTypes:=ts },ty,pos,af,gd⟩) (hg:ZI ops e gd)
 (hc:ev e c=some (.func (.func f) #[] #[])) (hv:∀ a,Has n e a→xs.map a.eval=vs) (h:Calls P f vs w (fun e w'=>e=.panicked ch∧F w')) (hdn:Nat.blt d n=true) (k:∀ w',F w'→WQ n Q (.panic ch) [] w'):WDq P n ops S Lt Q ((i,2) :: rest) e w:=
 Zej (G:=fun _ _=>False) (F:=fun ch' w'=>ch'=ch∧F w') hi hg (Z61 hc hv (h.mono fun e w' ⟨h1,h2⟩=>by rw [h1];exact .pan ⟨rfl,h2⟩)) (fun _ _ h=>h.elim) hdn (fun ch' w' ⟨h1,h2⟩=>by subst h1;exact k w' h2) (fun _ _ h=>h.elim)
end
end Go.Eng
namespace Go.Proofs.YtjdjdoefppebkaaGreatDoor
open Go Go.Eng Go.RowKit Go.Proofs
def Z7a (f:Nat):Prop:=∀ (l:List Tkn) (hL:Z32 l) (m:Int) (c:Eng.Call) (i o:Nat) (r:Out Nd),ZJ l f c i o=some r→
 ∀ (X:List Nat) (b:Nat) (tv:Value) (w:World),b≠2→b∈X→(∀ c∈X,c<w.heap.size)→w.cell? ⟨2,0,none⟩=some (.int .i64 m)→Pd w b tv l i o→
 match c with
 | .expr k=>1≤k→k≤8→Calls Tryz.prog 120 #[.pointer (some ⟨b,0,none⟩),.int .i64 (k:Int)] w (PC b w tv l r (fun x v w'=>NdV X w' v x))
 | .prim=>Calls Tryz.prog 213 #[.pointer (some ⟨b,0,none⟩)] w (PC b w tv l r (fun x v w'=>NdV X w' v x))
 | .loop _ _=>True
theorem Zez (s:Str) (p:Option Addr) (l c:Nat) (w:World):(Instr.build 27 #[(0,.int .i64 5),(2,str s),(3,.slice p l c)]).run Tryz.prog w=.ok (.agg #[.int .i64 5,.int .i64 0,str s,.slice p l c]) w:=by kernel_rfl
theorem Zl7 (s:Str) (p:Option Addr) (l c:Nat) (w:World):(Instr.build 27 #[(0,.int .i64 6),(2,str s),(3,.slice p l c)]).run Tryz.prog w=.ok (.agg #[.int .i64 6,.int .i64 0,str s,.slice p l c]) w:=by kernel_rfl
theorem ZnJ (f:Nat) (IH:Z7a f) (l:List Tkn) (hL:Z32 l) (m:Int) (k i o:Nat) (r:Out Nd) (hk:k≤8) (hsp:(k=3∧(cur l i).text=[110,111,116])∨(k=7∧(cur l i).text=[45]))
 (h : (match Z0p l (cur l i).text i o with
   | .err a c=>some (.err a c)
   | .ok _ i' o'=>
     match ZJ l f (.expr k) i' o' with
     | none=>none
     | some (.err a c)=>some (.err a c)
     | some (.ok x i'' o'')=>some (.ok (.mk 5 0 (cur l i).text [x]) i'' (o'' - 1)))=some r) (X:List Nat) (b:Nat) (tv:Value) (w:World) (hb1:b≠2) (hbX:b∈X) (hX:∀ c∈X,c<w.heap.size) (hm:w.cell? ⟨2,0,none⟩=some (.int .i64 m)) (hp:Pd w b tv l i o) :
 Calls Tryz.prog 120 #[.pointer (some ⟨b,0,none⟩),.int .i64 (k:Int)] w (PC b w tv l r (fun x v w'=>NdV X w' v x)):=by
 have htn:(cur l i).text≠[]:=by rcases hsp with ⟨_,h⟩|⟨_,h⟩<;>rw [h]<;>decide
 have hs0:=hp.2.1
 refine cW2 98 Tryz.func120 ?_
 refine W ?_
 refine Z1 Z7 rfl ?_
 rintro _ w1 ⟨b4,rfl,hb4,e4,hS⟩
 have n4:b4≠b:=by have:=hp.lt;omega
 replace hm:=hS.cell (by simp) hm
 replace hp:=hp.up hS
 rcases hsp with ⟨rfl,ht⟩|⟨rfl,ht⟩
 · refine W ?_
   refine CL rfl (Zm rfl) rfl (JZ b tv l i o _ hp) ?_
   rintro _ w2 ⟨rfl,hT⟩
   replace hp:=hp.up hT;replace e4:=e4.up hT
   replace hm:=hT.cell (by simp) hm
   replace hS:=hS.trans hT
   clear hT
   repeat'(first|refine W1 ?_|omega|refine VG ?_ ?_<;>intro hg|refine VC ?_ ?_<;>intro hc)
   all_goals try exact absurd ht (by assumption)
   refine CL rfl (Zm rfl) rfl (JZ b tv l i o _ hp) ?_
   rintro _ w3 ⟨rfl,hT⟩
   replace hp:=hp.up hT;replace e4:=e4.up hT
   replace hm:=hT.cell (by simp) hm
   replace hS:=hS.trans hT
   clear hT
   refine W ?_
   cases hO:Z0p l (cur l i).text i o with
   | err a c=>
     rw [hO] at h
     simp only [Xh] at h
     subst h
     refine ZM rfl (Zb rfl rfl) (PC.falls (Z02 b tv l hL _ htn i o _ hp) hO (hS.mono (by simp))) rfl ?_
     intro w4 hw4
     repeat'(first|refine Zk ?_|refine Zi ?_)
     refine ZG ?_
     exact PC.err hw4
   | ok u i1 o1=>
     have hoo:=ZL hO
     rw [hO] at h
     simp only at h
     refine CL rfl (Zb rfl rfl) rfl (PC.goes (Z02 b tv l hL _ htn i o _ hp) hO) ?_
     rintro _ w4 ⟨rfl,hp4,hT⟩
     replace e4:=e4.ext hT (by simpa using n4)
     replace hm:=Ju hm hb1 hT
     have hS4:=(hS.mono (S':=[b]) (by simp)).trans hT
     clear hT hS hp
     have l4:=e4.lt
     have hX4:∀ c∈b4 :: X,c<w4.heap.size:=fun c hc=>by
      rcases Xe.1 hc with rfl|h
      exact l4
      exact Xb (hX c h) hS4.size
     refine W ?_
     cases hE:ZJ l f (.expr 3) i1 o1 with
     | none=>rw [hE] at h;simp at h
     | some r1=>
       rw [hE] at h
       have hsub:=IH l hL m (.expr 3) i1 o1 r1 hE (b4 :: X) b tv w4 hb1 (XV _ hbX) hX4 hm hp4 (by omega) (by omega)
       cases r1 with
       | err a c=>
         simp only [Xh] at h
         subst h
         refine ZM rfl (Zb rfl rfl) (PC.falls hsub rfl hS4) rfl ?_
         intro w5 hw5
         repeat'(first|refine Zk ?_|refine Zi ?_)
         refine ZG ?_
         exact PC.err hw5
       | ok x i2 o2=>
         have hoe:=JV l _ _ _ _ _ _ _ hE
         simp only [Xh] at h
         subst h
         refine CL rfl (Zb rfl rfl) rfl (PC.goes hsub rfl) ?_
         rintro _ w5 ⟨⟨kx,rfl,hx⟩,hp5,hT⟩
         replace e4:=e4.ext hT (by simpa using n4)
         have hX5:∀ c∈b4 :: X,c<w5.heap.size:=fun c hc=>Xb (hX4 c hc) hT.size
         have hS5:=hS4.trans hT
         clear hT hS4 hp4 hX4 hsub
         obtain ⟨p0,c0,rfl,-⟩:=id hx
         refine W ?_
         refine Z1 (Z0 (vs:=[(0,.agg (ndC x (.slice p0 x.kids.length c0)).toArray)]) rfl (Z0e _ _ _ _ _ _)) rfl ?_
         intro bv w6 hN
         have hbv:SlV (b4 :: X) w6 bv [x]:=hN.slvG (css:=[ndC x _]) hX5 rfl rfl rfl (Z2X hx) (by simp [maxLen])
         obtain ⟨bn,rfl,hbn,-,hT⟩:=id hN
         replace e4:=e4.up hT;replace hp5:=hp5.up hT
         have hX6:∀ c∈b4 :: X,c<w6.heap.size:=fun c hc=>Xb (hX5 c hc) hT.size
         have hS6:=hS5.trans (hT.mono (by simp))
         clear hT hS5 hX5 hN hx
         apply Z6 (vs:=[(0,.int .i64 5),(2,str (cur l i).text),(3,.slice (some ⟨bn,0,none⟩) 1 1)]) rfl (Zez _ _ _ _) rfl
         refine Z1 Z7 rfl ?_
         rintro _ w7 ⟨b6,rfl,hb6,e6,hT⟩
         have n64:b6≠b4:=by have:=e4.lt;omega
         have n6b:b6≠b:=by have:=hp5.lt;omega
         refine Z2 (Z3 (us:=ndC (.mk 5 0 (cur l i).text [x]) (.slice (some ⟨bn,0,none⟩) 1 1)) rfl rfl rfl rfl (Zh hbv) e6 rfl) ?_
         rintro _ w8 ⟨hT2,e6'⟩
         replace hT:=hT.own hT2 (fun c hc=>.inr (by simp at hc;omega))
         clear hT2 e6
         replace e4:=e4.up hT;replace hp5:=hp5.up hT
         have hS8:=hS6.trans (hT.mono (by simp))
         replace hbv:SlV (b6 :: b4 :: X) w8 (.slice (some ⟨bn,0,none⟩) 1 1) [x]:=hbv.ext hT (by simp) (fun c hc=>by
          rcases Xe.1 hc with rfl|h
          exact .inr hb6
          exact .inl h)
         have hb4w:w.heap.size≤b4:=hb4
         clear hT hS6 hX6
         obtain ⟨hpb,hps,hpi,hpl,hpo⟩:=id hp5
         refine W ?_
         refine Z2 (Ze (u:=.int .i64 ((o2 - 1:Nat):Int)) rfl (by show some _=some _;simp;omega) rfl rfl hpb (by simp)) ?_
         rintro _ w9 ⟨hT,hpb9⟩
         replace hps:=hps.ext (X':=[b]) hT (fun c hc=>hc) (fun c hc=>.inl hc)
         replace e4:=e4.ext hT (by simpa using n4)
         replace e6':=e6'.ext hT (by simpa using n6b)
         replace hbv:=hbv.ext (X':=b6 :: b4 :: X) hT (fun c hc=>by simp at hc;subst hc;simp [hbX]) (fun c hc=>.inl hc)
         have hS9:=hS8.trans hT
         clear hT hS8 hpb hp5
         refine W ?_
         refine Z2 (Z3 (us:=ndC (.mk 5 0 (cur l i).text [x]) (.slice (some ⟨bn,0,none⟩) 1 1)) rfl rfl rfl rfl (Zh hbv) e4 rfl) ?_
         rintro _ w10 ⟨hT,e4'⟩
         refine W ?_
         refine Zl rfl rfl rfl e4' rfl ?_
         have hl4:=hpb9.lt
         have hSx:=hS9.own hT (fun c hc=>by simp at hc;subst hc;exact .inr hb4w)
         refine PC.ok ⟨_,rfl,?_⟩ ⟨hpb9.ext hT (by simpa using n4.symm),hs0.ext hSx (fun c hc=>hc) (fun c hc=>.inl hc),hpi,hpl,by omega⟩ hSx
         exact (hbv.ext (X':=b6 :: b4 :: X) hT (fun c hc=>by simp at hc;simp [hc]) (fun c hc=>.inl hc)).wk (fun c hc=>by simp [hc])
 · refine W ?_
   refine CL rfl (Zm rfl) rfl (JZ b tv l i o _ hp) ?_
   rintro _ w2 ⟨rfl,hT⟩
   replace hp:=hp.up hT;replace e4:=e4.up hT
   replace hm:=hT.cell (by simp) hm
   replace hS:=hS.trans hT
   clear hT
   repeat'(first|refine W1 ?_|omega|refine VG ?_ ?_<;>intro hg|refine VC ?_ ?_<;>intro hc)
   all_goals try exact absurd ht (by assumption)
   refine CL rfl (Zm rfl) rfl (JZ b tv l i o _ hp) ?_
   rintro _ w3 ⟨rfl,hT⟩
   replace hp:=hp.up hT;replace e4:=e4.up hT
   replace hm:=hT.cell (by simp) hm
   replace hS:=hS.trans hT
   clear hT
   refine W ?_
   cases hO:Z0p l (cur l i).text i o with
   | err a c=>
     rw [hO] at h
     simp only [Xh] at h
     subst h
     refine ZM rfl (Zb rfl rfl) (PC.falls (Z02 b tv l hL _ htn i o _ hp) hO (hS.mono (by simp))) rfl ?_
     intro w4 hw4
     repeat'(first|refine Zk ?_|refine Zi ?_)
     refine ZG ?_
     exact PC.err hw4
   | ok u i1 o1=>
     have hoo:=ZL hO
     rw [hO] at h
     simp only at h
     refine CL rfl (Zb rfl rfl) rfl (PC.goes (Z02 b tv l hL _ htn i o _ hp) hO) ?_
     rintro _ w4 ⟨rfl,hp4,hT⟩
     replace e4:=e4.ext hT (by simpa using n4)
     replace hm:=Ju hm hb1 hT
     have hS4:=(hS.mono (S':=[b]) (by simp)).trans hT
     clear hT hS hp
     have l4:=e4.lt
     have hX4:∀ c∈b4 :: X,c<w4.heap.size:=fun c hc=>by
      rcases Xe.1 hc with rfl|h
      exact l4
      exact Xb (hX c h) hS4.size
     refine W ?_
     cases hE:ZJ l f (.expr 7) i1 o1 with
     | none=>rw [hE] at h;simp at h
     | some r1=>
       rw [hE] at h
       have hsub:=IH l hL m (.expr 7) i1 o1 r1 hE (b4 :: X) b tv w4 hb1 (XV _ hbX) hX4 hm hp4 (by omega) (by omega)
       cases r1 with
       | err a c=>
         simp only [Xh] at h
         subst h
         refine ZM rfl (Zb rfl rfl) (PC.falls hsub rfl hS4) rfl ?_
         intro w5 hw5
         repeat'(first|refine Zk ?_|refine Zi ?_)
         refine ZG ?_
         exact PC.err hw5
       | ok x i2 o2=>
         have hoe:=JV l _ _ _ _ _ _ _ hE
         simp only [Xh] at h
         subst h
         refine CL rfl (Zb rfl rfl) rfl (PC.goes hsub rfl) ?_
         rintro _ w5 ⟨⟨kx,rfl,hx⟩,hp5,hT⟩
         replace e4:=e4.ext hT (by simpa using n4)
         have hX5:∀ c∈b4 :: X,c<w5.heap.size:=fun c hc=>Xb (hX4 c hc) hT.size
         have hS5:=hS4.trans hT
         clear hT hS4 hp4 hX4 hsub
         obtain ⟨p0,c0,rfl,-⟩:=id hx
         refine W ?_
         refine Z1 (Z0 (vs:=[(0,.agg (ndC x (.slice p0 x.kids.length c0)).toArray)]) rfl (Z0e _ _ _ _ _ _)) rfl ?_
         intro bv w6 hN
         have hbv:SlV (b4 :: X) w6 bv [x]:=hN.slvG (css:=[ndC x _]) hX5 rfl rfl rfl (Z2X hx) (by simp [maxLen])
         obtain ⟨bn,rfl,hbn,-,hT⟩:=id hN
         replace e4:=e4.up hT;replace hp5:=hp5.up hT
         have hX6:∀ c∈b4 :: X,c<w6.heap.size:=fun c hc=>Xb (hX5 c hc) hT.size
         have hS6:=hS5.trans (hT.mono (by simp))
         clear hT hS5 hX5 hN hx
         apply Z6 (vs:=[(0,.int .i64 5),(2,str (cur l i).text),(3,.slice (some ⟨bn,0,none⟩) 1 1)]) rfl (Zez _ _ _ _) rfl
         refine Z1 Z7 rfl ?_
         rintro _ w7 ⟨b6,rfl,hb6,e6,hT⟩
         have n64:b6≠b4:=by have:=e4.lt;omega
         have n6b:b6≠b:=by have:=hp5.lt;omega
         refine Z2 (Z3 (us:=ndC (.mk 5 0 (cur l i).text [x]) (.slice (some ⟨bn,0,none⟩) 1 1)) rfl rfl rfl rfl (Zh hbv) e6 rfl) ?_
         rintro _ w8 ⟨hT2,e6'⟩
         replace hT:=hT.own hT2 (fun c hc=>.inr (by simp at hc;omega))
         clear hT2 e6
         replace e4:=e4.up hT;replace hp5:=hp5.up hT
         have hS8:=hS6.trans (hT.mono (by simp))
         replace hbv:SlV (b6 :: b4 :: X) w8 (.slice (some ⟨bn,0,none⟩) 1 1) [x]:=hbv.ext hT (by simp) (fun c hc=>by
          rcases Xe.1 hc with rfl|h
          exact .inr hb6
          exact .inl h)
         have hb4w:w.heap.size≤b4:=hb4
         clear hT hS6 hX6
         obtain ⟨hpb,hps,hpi,hpl,hpo⟩:=id hp5
         refine W ?_
         refine Z2 (Ze (u:=.int .i64 ((o2 - 1:Nat):Int)) rfl (by show some _=some _;simp;omega) rfl rfl hpb (by simp)) ?_
         rintro _ w9 ⟨hT,hpb9⟩
         replace hps:=hps.ext (X':=[b]) hT (fun c hc=>hc) (fun c hc=>.inl hc)
         replace e4:=e4.ext hT (by simpa using n4)
         replace e6':=e6'.ext hT (by simpa using n6b)
         replace hbv:=hbv.ext (X':=b6 :: b4 :: X) hT (fun c hc=>by simp at hc;subst hc;simp [hbX]) (fun c hc=>.inl hc)
         have hS9:=hS8.trans hT
         clear hT hS8 hpb hp5
         refine W ?_
         refine Z2 (Z3 (us:=ndC (.mk 5 0 (cur l i).text [x]) (.slice (some ⟨bn,0,none⟩) 1 1)) rfl rfl rfl rfl (Zh hbv) e4 rfl) ?_
         rintro _ w10 ⟨hT,e4'⟩
         refine W ?_
         refine Zl rfl rfl rfl e4' rfl ?_
         have hl4:=hpb9.lt
         have hSx:=hS9.own hT (fun c hc=>by simp at hc;subst hc;exact .inr hb4w)
         refine PC.ok ⟨_,rfl,?_⟩ ⟨hpb9.ext hT (by simpa using n4.symm),hs0.ext hSx (fun c hc=>hc) (fun c hc=>.inl hc),hpi,hpl,by omega⟩ hSx
         exact (hbv.ext (X':=b6 :: b4 :: X) hT (fun c hc=>by simp at hc;simp [hc]) (fun c hc=>.inl hc)).wk (fun c hc=>by simp [hc])
end Go.Proofs.YtjdjdoefppebkaaGreatDoor
