/-
Contracts and plain laws, merged out of own texts.
-/
import Derived.Test.YtipfkbkkndacjaaGreatDoorM2
import Derived.Laws.RangeString
import Derived.Laws.RangeAny
import Derived.Lib.AppendZeros
import Derived.Laws.OwnMore
import Derived.Deep.Slices
import Derived.Deep.Fields
import Derived.ChangeSame
import Derived.Below
import Derived.Carry
import Derived.ChangeOld
import Derived.ProofKit
import Derived.OpenShut
import Derived.SizedLaws
import Derived.HandedShaped
import Derived.LaidMore
import Derived.Stop.Joined
import Derived.SevenTiedAt
import Derived.MakeChecks
import Derived.Lib.ConvBytes
import Derived.Laws.AppendOwn
import Derived.Laws.BitsAllLaws
import Derived.Laws.Bits64
import Derived.Lib.SlBytesRow
import Derived.Lib.AppendStr
import Derived.Laws.BytesArg
import Derived.Laws.Cover3
import Derived.Shelf.Strings.Builder1
import Derived.Shelf.Strings.Builder2
import Derived.Shelf.Small.Utf8
import Derived.Shelf.Small.Bits
import Derived.Shelf.Small.Strs
import Derived.Shelf.Small.Wraps
import Derived.Shelf.Strings.BuilderF
import Derived.Shelf.Strconv.Atoi
import Derived.Shelf.Strconv.Itoa0
import Derived.Shelf.Strconv.Itoa1
import Derived.Shelf.LaysM
import Derived.Shelf.Strconv.Itoa2
import Derived.Shelf.Strconv.Itoa3
import Derived.Shelf.Strconv.AtoiErrFast
import Derived.Shelf.Strconv.ParseIntEmpty
import Derived.Shelf.Strconv.AtoiFail
import Derived.Shelf.Strconv.Clone
import Derived.Shelf.Strconv.SyntaxError
import Derived.Shelf.LaysC
import Derived.Shelf.Strconv.ToError
import Derived.Shelf.Strconv.Lower
import Derived.Shelf.Strconv.ParseUint10
import Derived.Shelf.Strconv.ParseUint10Empty
import Derived.Shelf.Strconv.ParseUint10Any
import Derived.Shelf.Strconv.ParseInt10
import Derived.Shelf.Strconv.AtoiLong
import Derived.Shelf.Strconv.AtoiInnerAll
import Derived.Shelf.Strconv.RangeError
import Derived.Shelf.Strconv.ToErrorRange
import Derived.Shelf.Strconv.AtoiAll
import Derived.Shelf.Strconv.ErrVarAll
import Derived.Shelf.Strings.Search1
import Derived.Shelf.Strings.Search2
import Derived.Shelf.Strings.Search3
import Derived.Shelf.Strings.Shaped
import Derived.Shelf.Sort.Plain
import Derived.Shelf.Strings.Prefix
import Derived.Shelf.Strings.Runes
import Derived.Shelf.Bits.Mul64
import Derived.Shelf.Strings.Repeat
import Derived.Shelf.Slices.Turned
import Derived.Ground.Names2Prog
import Derived.Shelf.Slices.CompactI
import Derived.Shelf.Slices.SearchI
import Derived.Shelf.Slices.Cells
import Derived.Shelf.Slices.In.SortNone
import Derived.Test.YtipfkbkkndacjaaGreatDoorProg
import Derived.Scope
import Derived.Laws.Runes
import Derived.Lib.IndexLaws
import Derived.Lib.AtoiAll
set_option linter.unusedVariables false
set_option linter.unusedSimpArgs false
set_option maxHeartbeats 4000000
set_option maxRecDepth 20000
namespace Go.Eng
open Go Go.RowKit Go.Proofs
theorem ZdE {l:List Tkn} {s:Str} {i o:Nat} {u:Unit} {i' o':Nat} (h:Z0K l s i o=.ok u i' o'):o'=o:=by
 unfold Z0K Z1c at h;split at h<;>simp at h;omega
theorem Z2f {l:List Tkn} {s:Str} {i o:Nat} {u:Unit} {i' o':Nat} (h:Z0K l s i o=.ok u i' o'):i'=i+1∧(cur l i).text=s:=by
 unfold Z0K Z1c at h;split at h<;>simp at h;exact ⟨by omega,by assumption⟩
theorem Z1n {l:List Tkn} {k:Int} {i o:Nat} {t:Tkn} {i' o':Nat} (h:Z2V l k i o=.ok t i' o'):o'=o∧i'=i+1∧t=cur l i∧t.kind=k:=by
 unfold Z2V Z1c at h;split at h<;>simp at h;obtain ⟨rfl,rfl,rfl⟩:=h;exact ⟨rfl,rfl,rfl,by assumption⟩
theorem Je {l:List Tkn} {s:Str} {i o:Nat} {u:Unit} {i' o':Nat} (h:Z5Z l s i o=.ok u i' o'):o'=o+1∧i'=i+1∧(cur l i).text=s:=by
 unfold Z5Z Z1c at h;split at h;split at h<;>simp at h;exact ⟨by omega,by omega,by assumption⟩;simp at h
theorem Z0v {l:List Tkn} {s:Str} {i o:Nat} {u:Unit} {i' o':Nat} (h:Z5f l s i o=.ok u i' o'):o'=o - 1∧i'=i+1∧(cur l i).text=s:=by
 unfold Z5f at h;cases hm:Z0K l s i o with
 | err a c=>rw [hm] at h;simp [Out.bind] at h
 | ok x j p=>
   rw [hm] at h;simp [Out.bind] at h;have:=ZdE hm;have:=Z2f hm;exact ⟨by omega,by omega,this.2⟩
theorem Z4U {m:Nat→Nat→Option (Out Nd)} {sep:Nat→Nat→Nat→Out Unit} (hm:∀ i o x i' o',m i o=some (.ok x i' o')→o'=o) (hs:∀ k i o u i' o',sep k i o=.ok u i' o'→o'=o) :
 ∀ (n k:Nat) (ks:List Nd) (i o:Nat) (ks':List Nd) (i' o':Nat),Z3h m sep n k ks i o=some (.ok ks' i' o')→o'=o
 | 0,k,ks,i,o,ks',i',o',h=>by simp [Z3h] at h;omega
 | n + 1, k, ks, i, o, ks', i', o', h => by
   simp only [Z3h] at h;cases h1:sep k i o with
   | err a c=>rw [h1] at h;simp at h
   | ok u i1 o1=>
     rw [h1] at h;simp only at h;cases h2:m i1 o1 with
     | none=>rw [h2] at h;simp at h
     | some r=>
       rw [h2] at h;cases r with
       | err a c=>simp at h
       | ok x i2 o2=>
         simp only at h;have:=Z4U hm hs n _ _ _ _ _ _ _ h;have:=hm _ _ _ _ _ h2;have:=hs _ _ _ _ _ _ h1;omega
theorem commaO_open {l:List Tkn} {k i o:Nat} {u:Unit} {i' o':Nat} (h:ZdD l k i o=.ok u i' o'):o'=o:=by
 unfold ZdD at h;split at h
 exact ZdE h
 simp at h;omega
theorem thenO_open {l:List Tkn} {k i o:Nat} {u:Unit} {i' o':Nat} (h:Zop l k i o=.ok u i' o'):o'=o:=ZdE h
theorem Z4V (l:List Tkn):∀ (f:Nat) (c:Call) (i o:Nat) (x:Nd) (i' o':Nat),J8 l f c i o=some (.ok x i' o')→o'=o
 | 0,c,i,o,x,i',o',h=>by simp [J8] at h
 | f + 1, .expr k, i, o, x, i', o', h => by
   have ih:=Z4V l f;rw [J8] at h;split at h;split at h;simp at h;rename_i h1;have:=Je h1;split at h;simp at h;simp at h;rename_i h2;have:=ih _ _ _ _ _ _ h2;simp at h;omega;split at h;exact ih _ _ _ _ _ _ h;split at h;simp at h;simp at h;rename_i h2;have:=ih _ _ _ _ _ _ h2;have:=ih _ _ _ _ _ _ h;omega
 | f + 1, .loop k y, i, o, x, i', o', h => by
   have ih:=Z4V l f;rw [J8] at h;split at h;split at h;simp at h;simp at h;rename_i h2;have h3:=ih _ _ _ _ _ _ h2;split at h;have:=ih _ _ _ _ _ _ h;omega;split at h;simp at h;omega;have:=ih _ _ _ _ _ _ h;omega;simp at h;omega
 | f + 1, .prim, i, o, x, i', o', h => by
   have ih:=Z4V l f;rw [J8] at h;repeat' split at h
   all_goals try (simp at h;done)
   all_goals try (simp at h;omega)
   rename_i h1 _ _ _ _ h2 _ _ _ _ h3;have:=Je h1;have:=ih _ _ _ _ _ _ h2;have:=Z0v h3;simp at h;omega;rename_i h1 _ _ _ _ h2 _ _ _ _ h3 _ _ _ _ h4;have:=Je h1;have:=ih _ _ _ _ _ _ h2;have:=Z4U (fun _ _ _ _ _ h=>ih _ _ _ _ _ _ h) (fun _ _ _ _ _ _ h=>thenO_open h) _ _ _ _ _ _ _ _ h3;have:=Z0v h4;simp at h;omega;rename_i h1 _ _ _ _ h2 _ _ _ _ h3 _ _ _ _ h4;have:=Z1n h1;have:=Je h2;have:=Z4U (fun _ _ _ _ _ h=>ih _ _ _ _ _ _ h) (fun _ _ _ _ _ _ h=>commaO_open h) _ _ _ _ _ _ _ _ h3;have:=Z0v h4;simp at h;omega;all_goals (simp [Z1c] at h)
theorem Z7D {m:Nat→Nat→Option (Out Nd)} {sep:Nat→Nat→Nat→Out Unit} (hm:∀ i o x i' o',m i o=some (.ok x i' o')→i≤i') (hs:∀ k i o u i' o',sep k i o=.ok u i' o'→i≤i') :
 ∀ (n k:Nat) (ks:List Nd) (i o:Nat) (ks':List Nd) (i' o':Nat),Z3h m sep n k ks i o=some (.ok ks' i' o')→i≤i'
 | 0,k,ks,i,o,ks',i',o',h=>by simp [Z3h] at h;omega
 | n + 1, k, ks, i, o, ks', i', o', h => by
   simp only [Z3h] at h;cases h1:sep k i o with
   | err a c=>rw [h1] at h;simp at h
   | ok u i1 o1=>
     rw [h1] at h;simp only at h;cases h2:m i1 o1 with
     | none=>rw [h2] at h;simp at h
     | some r=>
       rw [h2] at h;cases r with
       | err a c=>simp at h
       | ok x i2 o2=>
         simp only at h;have:=Z7D hm hs n _ _ _ _ _ _ _ h;have:=hm _ _ _ _ _ h2;have:=hs _ _ _ _ _ _ h1;omega
theorem Z98 {l:List Tkn} {k i o:Nat} {u:Unit} {i' o':Nat} (h:ZdD l k i o=.ok u i' o'):i≤i':=by
 unfold ZdD at h;split at h;have:=(Z2f h).1;omega;simp at h;omega
theorem ZbG {l:List Tkn} {k i o:Nat} {u:Unit} {i' o':Nat} (h:Zop l k i o=.ok u i' o'):i≤i':=by have:=(Z2f h).1;omega
def Call.lo:Call→Nat→Nat
 | .expr _,i=>i+1
 | .prim,i=>i+1
 | .loop _ _,i=>i
theorem Z1T (l:List Tkn):∀ (f:Nat) (c:Call) (i o:Nat) (x:Nd) (i' o':Nat),J8 l f c i o=some (.ok x i' o')→c.lo i≤i'
 | 0,c,i,o,x,i',o',h=>by simp [J8] at h
 | f + 1, .expr k, i, o, x, i', o', h => by
   have ih:=Z1T l f;rw [J8] at h;simp only [Call.lo];split at h;split at h;simp at h;rename_i h1;have:=Je h1;split at h;simp at h;simp at h;rename_i h2;have:=ih _ _ _ _ _ _ h2;simp only [Call.lo] at this;simp at h;omega;split at h;exact ih _ _ _ _ _ _ h;split at h;simp at h;simp at h;rename_i h2;have h3:=ih _ _ _ _ _ _ h2;have:=ih _ _ _ _ _ _ h;simp only [Call.lo] at this h3;omega
 | f + 1, .loop k y, i, o, x, i', o', h => by
   have ih:=Z1T l f;rw [J8] at h;simp only [Call.lo];split at h;split at h;simp at h;simp at h;rename_i h2;have h3:=ih _ _ _ _ _ _ h2;simp only [Call.lo] at h3;split at h;have:=ih _ _ _ _ _ _ h;simp only [Call.lo] at this;omega;split at h;simp at h;omega;have:=ih _ _ _ _ _ _ h;simp only [Call.lo] at this;omega;simp at h;omega
 | f + 1, .prim, i, o, x, i', o', h => by
   have ih:=Z1T l f;rw [J8] at h;simp only [Call.lo];repeat' split at h
   all_goals try (simp at h;done)
   all_goals try (simp at h;omega)
   rename_i h1 _ _ _ _ h2 _ _ _ _ h3;have:=Je h1;have h2:=ih _ _ _ _ _ _ h2;have:=Z0v h3;simp only [Call.lo] at h2;simp at h;omega;rename_i h1 _ _ _ _ h2 _ _ _ _ h3 _ _ _ _ h4;have:=Je h1;have h2:=ih _ _ _ _ _ _ h2;have:=Z7D (fun _ _ _ _ _ h=>by have:=ih _ _ _ _ _ _ h;simp only [Call.lo] at this;omega) (fun _ _ _ _ _ _ h=>ZbG h) _ _ _ _ _ _ _ _ h3;have:=Z0v h4;simp only [Call.lo] at h2;simp at h;omega;rename_i h1 _ _ _ _ h2 _ _ _ _ h3 _ _ _ _ h4;have:=Z1n h1;have:=Je h2;have:=Z7D (fun _ _ _ _ _ h=>by have:=ih _ _ _ _ _ _ h;simp only [Call.lo] at this;omega) (fun _ _ _ _ _ _ h=>Z98 h) _ _ _ _ _ _ _ _ h3;have:=Z0v h4;simp at h;omega;all_goals (simp [Z1c] at h)
theorem Z4W {m:Nat→Nat→Option (Out Nd)} {sep:Nat→Nat→Nat→Out Unit} (i0:Nat) (ht:∀ i o,i0≤i→m i o≠none) (hm:∀ i o x i' o',m i o=some (.ok x i' o')→i≤i') (hs:∀ k i o u i' o',sep k i o=.ok u i' o'→i≤i') :
 ∀ (n k:Nat) (ks:List Nd) (i o:Nat),i0≤i→Z3h m sep n k ks i o≠none
 | 0,k,ks,i,o,h0=>by simp [Z3h]
 | n + 1, k, ks, i, o, h0 => by
   simp only [Z3h];cases h1:sep k i o with
   | err a c=>simp
   | ok u i1 o1=>
     have:=hs _ _ _ _ _ _ h1;simp only;cases h2:m i1 o1 with
     | none=>exact absurd h2 (ht _ _ (by omega))
     | some r=>
       cases r with
       | err a c=>simp
       | ok x i2 o2=>
         have:=hm _ _ _ _ _ h2;exact Z4W i0 ht hm hs n _ _ _ _ (by omega)
theorem ZmM {l:List Tkn} {i:Nat} (h:l.length≤i):cur l i=default:=by simp [cur,List.getD,h]
theorem Z4X {l:List Tkn} {i:Nat} (h:(cur l i).text≠[]):i<l.length:=by
 by_cases hl:i<l.length;exact hl;rw [ZmM (by omega)] at h;exact absurd rfl h
def Call.need (n:Nat):Call→Nat→Nat
 | .expr k,i=>10 * (n - i)+(10 - k)
 | .prim,i=>10 * (n - i)+1
 | .loop _ _,i=>10 * (n - i)+1
def Call.fine:Call→Prop
 | .expr k=>1≤k∧k≤8
 | .prim=>True
 | .loop k _=>1≤k∧k≤7
theorem Z7E {s:Str} {k:Nat} (h:Z60 s=k) (hk:1≤k):s≠[]:=by
 rintro rfl;have:Z60 []=0:=by decide
 omega
theorem Z2X (l:List Tkn):∀ (f:Nat) (c:Call) (i o:Nat),c.fine→c.need l.length i≤f→J8 l f c i o≠none
 | 0, c, i, o, hc, h => by
   cases c<;>simp only [Call.need,Call.fine] at h hc<;>omega
 | f + 1, .expr k, i, o, hc, h => by
   have ih:=Z2X l f;simp only [Call.need,Call.fine] at h hc;rw [J8];split;rename_i hsp;have hi:i<l.length:=Z4X (by rcases hsp with ⟨_,h⟩|⟨_,h⟩<;>rw [h]<;>decide);split;simp;rename_i h1;have:=Je h1;split;rename_i h2;exact absurd h2 (ih _ _ _ hc (by simp only [Call.need];omega));simp;simp;split;exact ih _ _ _ trivial (by simp only [Call.need];omega);split;rename_i h2;exact absurd h2 (ih _ _ _ (by simp only [Call.fine];omega) (by simp only [Call.need];omega));simp;rename_i h2;have h3:=Z1T l _ _ _ _ _ _ _ h2;simp only [Call.lo] at h3;exact ih _ _ _ (by simp only [Call.fine];omega) (by simp only [Call.need];omega)
 | f + 1, .loop k y, i, o, hc, h => by
   have ih:=Z2X l f;simp only [Call.need,Call.fine] at h hc;rw [J8];split;rename_i hlv;have hi:i<l.length:=Z4X (Z7E hlv hc.1);split;rename_i h2;exact absurd h2 (ih _ _ _ (by simp only [Call.fine];omega) (by simp only [Call.need];omega));simp;rename_i h2;have h3:=Z1T l _ _ _ _ _ _ _ h2;simp only [Call.lo] at h3;split;exact ih _ _ _ hc (by simp only [Call.need];omega);split;simp;exact ih _ _ _ hc (by simp only [Call.need];omega);simp
 | f + 1, .prim, i, o, hc, h => by
   have ih:=Z2X l f;have hle:∀ i o x i' o',J8 l f (.expr 1) i o=some (.ok x i' o')→i≤i':=fun _ _ _ _ _ h=>by have:=Z1T l _ _ _ _ _ _ _ h;simp only [Call.lo] at this;omega
   simp only [Call.need,Call.fine] at h hc;have hrec:∀ j o,i<l.length→i+1≤j→J8 l f (.expr 1) j o≠none:=fun j o hi hj=>ih _ _ _ (by simp [Call.fine]) (by simp only [Call.need];omega)
   rw [J8];have hpar:=fun h=>Z4X (l:=l) (i:=i) h;split;simp;split;simp;split;simp;split;simp;split;rename_i ht;have hi:=hpar (by rw [ht];decide);split;simp;rename_i h1;have:=Je h1;split;rename_i h2;exact absurd h2 (hrec _ _ hi (by omega));simp;split<;>simp
   split;rename_i ht;have hi:=hpar (by rw [ht];decide);split;simp;rename_i h1;have:=Je h1;split;rename_i h2;exact absurd h2 (hrec _ _ hi (by omega));simp;rename_i h2;have:=hle _ _ _ _ _ h2;split;rename_i h3;exact absurd h3 (Z4W (i+1) (fun j o hj=>hrec j o hi hj) hle (fun _ _ _ _ _ _ h=>ZbG h) _ _ _ _ _ (by omega));simp;split<;>simp
   split;rename_i ht;have hi:=hpar (fun h0=>by rw [h0] at ht;revert ht;decide);split;simp;rename_i h1;have:=Z1n h1;split;simp;rename_i h2;have:=Je h2;split;rename_i h3;exact absurd h3 (Z4W (i+1) (fun j o hj=>hrec j o hi hj) hle (fun _ _ _ _ _ _ h=>Z98 h) _ _ _ _ _ (by omega));simp;split<;>simp
   split<;>simp
theorem Z99 (l:List Tkn) (i o:Nat):J8 l (ZbF l i) (.expr 1) i o=some (Z1S l i o):=by
 have:=Z2X l (ZbF l i) (.expr 1) i o (by simp [Call.fine]) (by simp only [Call.need,ZbF];omega);unfold Z1S;cases h:J8 l (ZbF l i) (.expr 1) i o with
 | none=>exact absurd h this
 | some r=>rfl
abbrev bts (s:Str):ByteArray:=⟨s.toArray⟩
def Itr (w:World) (b:Nat) (s:Str) (p:Nat):Prop:=w.heap[b]?=some (.stringIter (bts s) p)
theorem Itr.lt {w} {b p:Nat} {s:Str} (h:Itr w b s p):b<w.heap.size:=(Xk.1 h).1
def dec (s:Str) (p:Nat):Nat×Nat:=Utf8.decode (bts s) p
theorem Z5g (s:Str):(bts s).size=s.length:=by simp [ByteArray.size]
theorem Z4b {s:Str} {p:Nat} (h:p<s.length) (ha:(s[p]).toNat<128):dec s p=((s[p]).toNat,1):=by
 have h1:p<(bts s).size:=by rw [Z5g];exact h
 have e:(bts s)[p]'h1=s[p]:=by simp [bts,ByteArray.getElem_eq_getElem_data]
 have:=decode_ascii (bts s) p h1 (by rw [e];exact ha);rw [e] at this;exact this
theorem ZbH {s:Str} {p:Nat} (h:p<s.length) (ha:128≤(s[p]).toNat):128≤(dec s p).1∧1≤(dec s p).2:=by
 have h1:p<(bts s).size:=by rw [Z5g];exact h
 have e:(bts s)[p]'h1=s[p]:=by simp [bts,ByteArray.getElem_eq_getElem_data]
 exact decode_high (bts s) p h1 (by rw [e];exact ha)
theorem ZmN {s:Str} {p:Nat} (h:p<s.length):1≤(dec s p).2:=by
 by_cases ha:(s[p]).toNat<128;rw [Z4b h ha];exact Xn _;exact (ZbH h (by omega)).2
section
variable {P:Program} {n:Nat} {e:Env} {w:World} {d:Option Nat} {ty:TypeId} {pos:String} {af:Array Edge} {g:Option (Nat×Bool)}
theorem ZbI {x:Operand} {t:TypeId} {s:Str} [hu:Und P t .string] (hx:ev e x=some (str s)):OE P n ⟨d,.range t x,ty,pos,af,g⟩ e w (fun v w'=>∃ b,v=pQ b∧w.heap.size≤b∧Itr w' b s 0∧Stp [] w w'):=
 Jd (v:=.pointer (some ⟨w.heap.size,0,none⟩)) (w':=w.iter (bts s) 0) (fun a ha=>by
  have:=run_range_string (P:=P) w t (bts s) hu.h;simp [execOp,ha.ev hx,this]) ⟨w.heap.size,rfl,Xn _,World.iter_heap _ _ _,Stp.alloc _ _ _⟩
theorem ZeG {x:Operand} {s:Str} {b p:Nat} (hx:ev e x=some (pQ b)) (hI:Itr w b s p) (hp:p<s.length) :
 OE P n ⟨d,.next x true,ty,pos,af,g⟩ e w (fun v w'=>v=.tuple #[.B true,.I p,.int .i32 ((dec s p).1:Int)]∧Itr w' b s (p+(dec s p).2)∧Stp [b] w w'):=by
 have hlt:=hI.lt;have hp':p<(bts s).size:=by rw [Z5g];exact hp
 unfold Itr at hI;refine Jd (v:=.tuple #[.B true,.I p,.int .i32 ((dec s p).1:Int)]) (w':={ w with heap:=w.heap.setIfInBounds b (.stringIter (bts s) (p+(dec s p).2)) }) (fun a ha=>?_) ⟨rfl,?_,⟨rfl,rfl,rfl,by simp,fun k hk hn=>?_⟩⟩
 · simp [execOp,ha.ev hx,Instr.next,getObj,setObj,Sem.run,hI,hp',goInt,dec]
 show (w.heap.setIfInBounds b _)[b]?=_;simp [hlt];show (w.heap.setIfInBounds b _)[k]?=_;exact YaH (by simpa using fun h=>hn (by simp [h]))
theorem Z7F {x:Operand} {s:Str} {b p:Nat} (hx:ev e x=some (pQ b)) (hI:Itr w b s p) (hp:¬ p<s.length) :
 OE P n ⟨d,.next x true,ty,pos,af,g⟩ e w (fun v w'=>v=.tuple #[.B false]∧w'=w):=by
 have hp':¬ p<(bts s).size:=by rw [Z5g];exact hp
 unfold Itr at hI;refine Jd (v:=.tuple #[.B false]) (w':=w) (fun a ha=>?_) ⟨rfl,rfl⟩;simp [execOp,ha.ev hx,Instr.next,getObj,Sem.run,hI,hp']
theorem ZbJ {x:Operand} {t:TypeId} {i:Nat} {u v:Value} (hx:ev e x=some u) (hb:∀ w,(Instr.field t u i).run P w=.ok v w):PR P n ⟨d,.field t x i,ty,pos,af,g⟩ e w v:=
 ⟨fun a ha=>by simp [execOp,ha.ev hx,hb]⟩
end
def ZfL (c:UInt8):Bool:=decide (97≤c.toNat) && decide (c.toNat≤122)
def J7 (c:UInt8):Bool:=decide (48≤c.toNat) && decide (c.toNat≤57)
def ldB (c:UInt8):Bool:=ZfL c || J7 c
def Z1E (s:Str):Nat:=s.foldl (fun n c=>10 * n+(c.toNat - 48)) 0
def Z10 (y:Int):Bool:=decide (y % 4=0) && (decide (¬ y % 100=0) || decide (y % 400=0))
def ZL (y m:Int):Int:=
 if m<1∨12<m then 0 else if m=2 then (if Z10 y then 29 else 28) else if m=4∨m=6∨m=9∨m=11 then 30 else 31
def Z04 (y m d:Int):Int:=
 let (y,m):=if m - 3<0 then (y - 1,m+9) else (y,m - 3)
 365 * y+y / 4 - y / 100+y / 400+(153 * m+2) / 5+d - 307
def Z1z (s:Str):Int×Int:=
 if s.length=10∧s.getD 4 0=45∧s.getD 7 0=45∧((s.take 4).all J7∧((s.drop 5).take 2).all J7∧(s.drop 8).all J7) then
  let y:Int:=Z1E (s.take 4)
  let m:Int:=Z1E ((s.drop 5).take 2)
  let d:Int:=Z1E (s.drop 8)
  if y<1∨9999<y∨m<1∨12<m∨d<1∨ZL y m<d then (0,5) else (Z04 y m d,0)
 else (0,7)
inductive Lx where
 | err (c:Int)
 | ok (t:Tkn)
def Z5h (s:Str):Lx:=let n:=(s.takeWhile ldB).length;if 12<n then .err 2 else .ok ⟨1,0,s.take n,0⟩
def Z4c (s:Str):Lx:=
 let t:=s.takeWhile J7
 if 1<t.length∧t.getD 0 0=48 then .err 20 else if 2147483647<Z1E t then .err 5 else .ok ⟨2,0,t,Z1E t⟩
def Jf:Str:=[64,100,100,100,100,45,100,100,45,100,100]
def Z5i (c x:UInt8):Bool:=if c=100 then J7 x else decide (x=c)
def Zao (s:Str):Lx:=
 if s.length<11 then .err 20 else if ((Jf.zip s).all fun p=>Z5i p.1 p.2) then
  (let d:=Z1z ((s.take 11).drop 1);if d.2=0 then .ok ⟨3,0,s.take 11,d.1⟩ else .err 5)
 else .err 20
def ZbK:Str:=[123,125,40,41,59,44,43,45,42,60,61,62]
def Z0b (s:Str):Lx:=
 if s.take 2=[60,61]∨s.take 2=[33,61]∨s.take 2=[62,61] then .ok ⟨4,0,s.take 2,0⟩
 else if s.getD 0 0∈ZbK then .ok ⟨4,0,s.take 1,0⟩ else .err 20
def Z18 (s:Str):Lx:=
 let c:=s.getD 0 0
 if ZfL c then Z5h s else if J7 c then Z4c s else if c=64 then Zao s else Z0b s
def Z61 (c:UInt8):Bool:=c=9 || c=10 || c=13 || c=32
inductive Tks where
 | err (a c:Int)
 | ok (l:List Tkn)
def Z0w (nl:Str→Nat) (s:Str):Nat→Nat→List Tkn→Tks
 | 0,at_,l=>.ok (l++[⟨0,at_,[],0⟩])
 | f + 1, at_, l=>
   if at_<s.length then
    let rest:=s.drop at_
    let c:=rest.getD 0 0
    if Z61 c then Z0w nl s f (at_+1) l
    else if c=35 then Z0w nl s f (at_+nl rest) l
    else match Z18 rest with
     | .err e=>.err at_ e
     | .ok t=>Z0w nl s f (at_+t.text.length) (l++[{ t with pos:=at_ }])
   else .ok (l++[⟨0,at_,[],0⟩])
structure Zji (t:Tkn):Prop where
 kind:t.kind≠0
 kinds:1≤t.kind∧t.kind≤4
 text:t.text≠[]
 sp:∀ c∈t.text,c≠32
 word:t.kind=1→t.text.length≤12∧(∀ c∈t.text,ldB c=true)∧ZfL (t.text.getD 0 0)=true
 num:t.kind=2→0≤t.num∧t.num≤2147483647
 day:t.kind=3→0≤t.num∧t.num≤3652058
theorem Z0L {p:UInt8→Bool}:∀ {l:Str} {c:UInt8},c∈l.takeWhile p→p c=true
 | [],c,h=>by simp at h
 | a :: r, c, h => by
   simp only [Ybj] at h;split at h;rename_i ha;rcases Xb.1 h with rfl|h
   exact ha;exact Z0L h;simp at h
theorem JY {p:UInt8→Bool}:∀ (l:Str),l.take (l.takeWhile p).length=l.takeWhile p
 | []=>by simp
 | a :: r => by
   simp only [Ybj];split;simp [JY r];simp
theorem ZwL {c:UInt8} (h:ldB c=true):c≠32:=by rintro rfl;revert h;decide
theorem Zjj {c:UInt8} (h:J7 c=true):c≠32:=by rintro rfl;revert h;decide
theorem Ztt {c x:UInt8} (h:Z5i c x=true) (hc:c≠32):x≠32:=by
 unfold Z5i at h;split at h;exact Zjj h;simp at h;rw [h];exact hc
theorem ZeH {p:UInt8→UInt8→Bool}:∀ {a s:Str},a.length≤s.length→((a.zip s).all fun q=>p q.1 q.2)=true→∀ x∈s.take a.length,∃ c∈a,p c x=true
 | [],s,hl,h,x,hx=>by simp at hx
 | c :: a,[],hl,h,x,hx=>by simp at hl
 | c :: a, y :: s, hl, h, x, hx => by
   simp only [List.zip_cons_cons,YaZ,Xm] at h;simp only [Xe,YaV,Xb] at hx;rcases hx with rfl|hx
   exact ⟨c,by simp,h.1⟩;obtain ⟨d,hd,h'⟩:=ZeH (by simpa using hl) h.2 x hx;exact ⟨d,by simp [hd],h'⟩
theorem Z2Y (y m:Int):ZL y m≤31:=by
 unfold ZL;repeat' split
 all_goals omega
theorem dayM_range {y m d:Int} (hy:1≤y) (hy2:y≤9999) (hm:1≤m) (hm2:m≤12) (hd:1≤d) (hd2:d≤ZL y m):0≤Z04 y m d∧Z04 y m d≤3652058:=by
 have h31:=Z2Y y m;have hm':m=1∨m=2∨m=3∨m=4∨m=5∨m=6∨m=7∨m=8∨m=9∨m=10∨m=11∨m=12:=by omega
 unfold Z04;rcases hm' with rfl|rfl|rfl|rfl|rfl|rfl|rfl|rfl|rfl|rfl|rfl|rfl<;>simp<;>omega
theorem ZbL (s:Str):0≤(Z1z s).1∧(Z1z s).1≤3652058:=by
 unfold Z1z;split;simp only;split;simp;rename_i h;simp only [not_or,Int.not_lt] at h;exact dayM_range h.1 h.2.1 h.2.2.1 h.2.2.2.1 h.2.2.2.2.1 h.2.2.2.2.2;simp
theorem Z3F {s:Str} {t:Tkn} (hs:s≠[]) (hsp:s.getD 0 0≠32) (h:Z18 s=.ok t):Zji t∧t.text.length≤s.length∧t.text=s.take t.text.length:=by
 obtain ⟨a,r,rfl⟩:∃ a r,s=a :: r:=by cases s with|nil=>exact absurd rfl hs|cons a r=>exact ⟨a,r,rfl⟩
 simp only [XW] at hsp;unfold Z18 at h;simp only [XW] at h;split at h;rename_i hl;unfold Z5h at h;simp only at h;split at h;simp at h;rename_i hn;simp only [Lx.ok.injEq] at h;subst h;have hld:ldB a=true:=by simp [ldB,hl]
 have hne:(a :: r).takeWhile ldB=a :: r.takeWhile ldB:=by simp [hld]
 have ht:=JY (p:=ldB) (a :: r);refine ⟨⟨by simp,by simp,?_,?_,fun _=>⟨?_,?_,?_⟩,by simp,by simp⟩,by simp;omega,by simp⟩;simp only;rw [ht,hne];simp;simp only;rw [ht];exact fun c hc=>ZwL (Z0L hc);simp only;rw [ht];omega;simp only;rw [ht];exact fun c hc=>Z0L hc;simp only;rw [ht,hne];simpa using hl;split at h;rename_i hl;unfold Z4c at h;simp only at h;split at h;simp at h;split at h;simp at h;rename_i hn;simp only [Lx.ok.injEq] at h;subst h;have hne:(a :: r).takeWhile J7=a :: r.takeWhile J7:=by simp [hl]
 have ht:=JY (p:=J7) (a :: r);have hlen:=congrArg List.length ht;simp only [Xt] at hlen;refine ⟨⟨by simp,by simp,?_,?_,by simp,fun _=>⟨?_,?_⟩,by simp⟩,?_,?_⟩;simp only;rw [hne];simp;exact fun c hc=>Zjj (Z0L hc);simp only;omega;simp only;omega;simp only;omega;exact ht.symm;split at h;rename_i h64;unfold Zao at h;split at h;simp at h;rename_i h11;split at h;rename_i hf;simp only at h;split at h;simp only [Lx.ok.injEq] at h;subst h;have hd:=ZbL (((a :: r).take 11).drop 1);refine ⟨⟨by simp,by simp,by simp,?_,by simp,by simp,fun _=>hd⟩,by simp;omega,by simp⟩;intro c hc;obtain ⟨x,hx,h'⟩:=ZeH (a:=Jf) (s:=a :: r) (by simp only [Jf,Xe,Xf] at h11 ⊢;omega) hf c hc;exact Ztt h' (by revert hx;simp only [Jf];intro hx h0;subst h0;simp at hx);simp at h;simp at h;unfold Z0b at h;split at h;rename_i h2;simp only [Lx.ok.injEq] at h;subst h;refine ⟨⟨by simp,by simp,by simp,?_,by simp,by simp,by simp⟩,by simp;omega,by simp⟩;simp only;intro c hc;rcases h2 with h2|h2|h2<;>rw [h2] at hc<;>(rintro rfl;simp at hc)
 split at h;simp only [Lx.ok.injEq] at h;subst h;refine ⟨⟨by simp,by simp,by simp,?_,by simp,by simp,by simp⟩,by simp,by simp⟩;simp only [YaV,YbG,Xl];rintro c rfl;exact hsp;simp at h
theorem Z2Z {nl:Str→Nat} {s:Str} (hsl:s.length≤4000):∀ (f at_:Nat) (l l':List Tkn),(∀ t∈l,Zji t)→(∀ t∈l,t.text.length≤4000)→l.length≤at_→l.length≤s.length→Z0w nl s f at_ l=.ok l'→
 ∃ l1 p,l'=l1++[⟨0,p,[],0⟩]∧(∀ t∈l1,Zji t)∧(∀ t∈l1,t.text.length≤4000)∧l1.length≤s.length
 | 0, at_, l, l', h1, h2, h3, h4, h => by
   simp only [Z0w,Tks.ok.injEq] at h;exact ⟨l,_,h.symm,h1,h2,h4⟩
 | f + 1, at_, l, l', h1, h2, h3, h4, h => by
   simp only [Z0w] at h;split at h;rename_i hlt;split at h;exact Z2Z hsl f _ _ _ h1 h2 (by omega) h4 h;split at h;exact Z2Z hsl f _ _ _ h1 h2 (by omega) h4 h
   · rename_i hnsp _
     cases hr:Z18 (s.drop at_) with
     | err e=>rw [hr] at h;simp at h
     | ok t=>
       rw [hr] at h;simp only at h;obtain ⟨g1,g2,g3⟩:=Z3F (s:=s.drop at_) (by simp;omega) (by rintro h32;rw [h32] at hnsp;exact hnsp (by decide)) hr;have hpos:1≤t.text.length:=by
        have:=g1.text;cases ht:t.text with
        | nil=>exact absurd ht this
        | cons a r=>simp
       have hlen:t.text.length≤s.length - at_:=by simpa using g2
       refine Z2Z hsl f _ _ _ ?_ ?_ ?_ ?_ h;intro u hu;rcases Xh.1 hu with hu|hu
       exact h1 u hu;simp only [Xl] at hu;subst hu;exact ⟨g1.kind,g1.kinds,g1.text,g1.sp,g1.word,g1.num,g1.day⟩;intro u hu;rcases Xh.1 hu with hu|hu
       exact h2 u hu;simp only [Xl] at hu;subst hu;simp only;omega;simp;omega;simp;omega
   simp only [Tks.ok.injEq] at h;exact ⟨l,_,h.symm,h1,h2,h4⟩
theorem ZmO {l1:List Tkn} {p:Int} (h1:∀ t∈l1,Zji t) (h2:∀ t∈l1,t.text.length≤4000) (h3:l1.length≤4000) (h4:∀ t∈l1,t.text∉Z8F):Z3E (l1++([⟨0,p,[],0⟩]:List Tkn)):=by
 have hc:∀ i,cur (l1++([⟨0,p,[],0⟩]:List Tkn)) i=⟨0,p,[],0⟩∨cur (l1++([⟨0,p,[],0⟩]:List Tkn)) i=default∨cur (l1++([⟨0,p,[],0⟩]:List Tkn)) i∈l1:=by
  intro i;unfold cur;rw [XA,List.getElem?_append];split;rename_i h
  right;right;simp [h]
  · cases hk:i - l1.length with
    | zero=>left;simp
    | succ j=>right;left;simp
 refine ⟨by simp,?_,?_,by simp;omega,?_,?_,?_⟩;have:cur (l1++([⟨0,p,[],0⟩]:List Tkn)) ((l1++([⟨0,p,[],0⟩]:List Tkn)).length - 1)=⟨0,p,[],0⟩:=by
  unfold cur;simp
 rw [this];exact ⟨rfl,rfl⟩;intro i hi;have hi2:i<l1.length:=by simpa using hi
 have:cur (l1++([⟨0,p,[],0⟩]:List Tkn)) i=l1[i]:=by
  unfold cur;rw [XA,X9 hi2];simp [hi2]
 rw [this];have:=h1 _ (Xd hi2);exact ⟨this.kind,this.text⟩;intro i c hcm;rcases hc i with h|h|h
 rw [h] at hcm;simp at hcm;rw [h] at hcm;simp [default] at hcm;exact (h1 _ h).sp c hcm;intro i;rcases hc i with h|h|h
 rw [h];simp;rw [h];simp [default];exact h2 _ h;intro i;rcases hc i with h|h|h
 rw [h];exact (by decide:([]:Str)∉Z8F);rw [h];exact (by decide:([]:Str)∉Z8F);exact h4 _ h
def JR (s:Str) (p:Nat→Bool):Nat→Nat→Nat
 | 0,_=>s.length
 | f+1,i=>if i<s.length then (if p (dec s i).1 then JR s p f (i+(dec s i).2) else i) else s.length
theorem Z9a (s:Str) (p:Nat→Bool):∀ (f i:Nat),JR s p f i≤s.length
 | 0,i=>Xn _
 | f + 1, i => by
   unfold JR;split;split;exact Z9a s p f _;omega;exact Xn _
theorem Z9b (s:Str) (p:Nat→Bool):∀ (f i:Nat),i≤s.length→i≤JR s p f i
 | 0,i,h=>h
 | f + 1, i, h => by
   unfold JR;split;split;by_cases hw:i+(dec s i).2≤s.length;exact Xg (Nat.le_add_right _ _) (Z9b s p f _ hw)
   · have:∀ f j,s.length<j→JR s p f j=s.length:=fun f j hj=>by
      cases f with
      | zero=>rfl
      | succ f=>unfold JR;rw [if_neg (by omega)]
     rw [this _ _ (by omega)];omega
   exact Xn _;exact h
theorem Z30 (p:Nat→Bool) (q:UInt8→Bool) (hq:∀ c:UInt8,c.toNat<128→p c.toNat=q c) (hp:∀ n,128≤n→p n=false) (hq2:∀ c:UInt8,128≤c.toNat→q c=false) (s:Str) :
 ∀ (f i:Nat),i≤s.length→s.length≤i+f→JR s p f i=i+((s.drop i).takeWhile q).length
 | 0, i, h1, h2 => by
   have:i=s.length:=by omega
   subst this;simp [JR]
 | f + 1, i, h1, h2 => by
   unfold JR;by_cases hlt:i<s.length;rw [if_pos hlt];have hd:s.drop i=s[i] :: s.drop (i+1):=Yab hlt;rw [hd,Ybj];by_cases ha:(s[i]).toNat<128;rw [Z4b hlt ha];simp only [hq _ ha];split;rw [Z30 p q hq hp hq2 s f (i+1) (by omega) (by omega),Xe];omega;simp;have h3:=(ZbH hlt (by omega)).1;rw [hp _ h3,hq2 _ (by omega)];simp;rw [if_neg hlt];rw [Yau (by omega)];simp;omega
def Zap (n:Nat):Bool:=decide (97≤n) && decide (n≤122)
def Z62 (n:Nat):Bool:=decide (48≤n) && decide (n≤57)
def Z7G (n:Nat):Bool:=decide (¬ n=10)
def nlM (s:Str):Nat:=JR s Z7G s.length 0
def Z0x (s:Str):Tks:=if 4000<s.length then .err 4000 2 else Z0w nlM s (s.length+1) 0 []
theorem ZfM (s:Str):JR s Z62 s.length 0=(s.takeWhile J7).length:=by
 rw [Z30 Z62 J7 (fun c h=>rfl) (fun n h=>by unfold Z62;simp;omega) (fun c h=>by unfold J7;simp;omega) s s.length 0 (by omega) (by omega)];simp
theorem Zjk (s:Str):JR s (fun n=>Zap n || Z62 n) s.length 0=(s.takeWhile ldB).length:=by
 rw [Z30 (fun n=>Zap n || Z62 n) ldB (fun c h=>rfl) (fun n h=>by unfold Zap Z62;simp;omega) (fun c h=>by unfold ldB ZfL J7;simp;omega) s s.length 0 (by omega) (by omega)];simp
end Go.Eng
namespace Go.Proofs.YtipfkbkkndacjaaGreatDoor
open Go Go.Eng Go.RowKit Go.Proofs
theorem Z7H (c:Nat) (w):CC 219 #[.int .i32 (c:Int)] w fun r w'=>r=.B (Zap c)∧w'=w:=by
 unfold Zap;refine cW1 9 Tryz.func219 ?_
 (refine QP ?_ ?_<;>intro hg)
 all_goals refine WR ?_
 all_goals refine .mk ⟨?_,rfl⟩
 all_goals congr 1
 all_goals (first|done|(rw [Yac];simp;omega)|(simp [*]))
theorem Z4d (c:Nat) (w):CC 221 #[.int .i32 (c:Int)] w fun r w'=>r=.B (Z62 c)∧w'=w:=by
 unfold Z62;refine cW1 9 Tryz.func221 ?_
 (refine QP ?_ ?_<;>intro hg)
 all_goals refine WR ?_
 all_goals refine .mk ⟨?_,rfl⟩
 all_goals congr 1
 all_goals (first|done|(rw [Yac];simp;omega)|(simp [*]))
theorem Ztu (c:Nat) (w):CC 218 #[.int .i32 (c:Int)] w fun r w'=>r=.B (Z7G c)∧w'=w:=by
 unfold Z7G;refine cW1 5 Tryz.func218 ?_;refine QO ?_;all_goals refine WR ?_
 all_goals refine .mk ⟨?_,rfl⟩
 all_goals congr 1
 all_goals (first|done|(rw [Yac];simp;omega)|(simp [*]))
theorem Ztv (c:Nat) (w):CC 275 #[.int .i32 (c:Int)] w fun r w'=>r=.B (Zap c || Z62 c)∧w'=w:=by
 refine cW1 9 Tryz.func275 ?_;refine W ?_;refine CL (Z7H c _) ?_;rintro _ _ ⟨rfl,rfl⟩;cases Zap c;refine W ?_;refine CL (Z4d c _) ?_;rintro _ _ ⟨rfl,rfl⟩;refine RT ?_;exact ⟨rfl,rfl⟩;refine RT ?_;exact ⟨rfl,rfl⟩
theorem Z63 {g:Nat} {fn:Func} [hf:Fun Tryz.prog g fn] (p:Nat→Bool) (hg:∀ (c:Nat) (w),CC g #[.int .i32 (c:Int)] w fun r w'=>r=.B (p c)∧w'=w) (s:Str) (w) (hl:s.length≤1000000) :
 CC 217 #[str s,.func (.func g) #[] #[]] w fun r w'=>r=.I (JR s p s.length 0:Int)∧Stp [] w w':=by
 refine cW2 20 Tryz.func217 ?_;refine W ?_;refine Z1 (ZbI rfl) rfl ?_;rintro _ w1 ⟨b,rfl,hb,hI,hS⟩;refine W ?_;refine Zu (σ:=Nat×Nat) (fun q=>[(0,str s),(1,.func (.func g) #[] #[]),(8,pQ b)]) (fun q w'=>Itr w' b s q.2∧Stp [] w w'∧JR s p q.1 q.2=JR s p s.length 0∧s.length≤q.2+q.1) (fun q=>q.1+1 - (if q.2<s.length then 0 else 1)) (s.length,0) ⟨rfl,rfl,rfl,trivial⟩ ⟨hI,hS,rfl,by omega⟩ ?_;rintro ⟨f,i⟩ w2 ⟨hI,hS,he,hfl⟩;dsimp only at hI hS he hfl ⊢;generalize JR s p s.length 0=R at he ⊢;by_cases hlt:i<s.length;obtain ⟨f,rfl⟩:∃ f',f=f'+1:=⟨f - 1,by omega⟩
 have hd:=ZmN hlt;unfold JR at he;rw [if_pos hlt] at he;refine W ?_;refine Z1 (ZeG rfl hI hlt) rfl ?_;rintro _ w3 ⟨rfl,hI3,hT⟩;replace hS:=hS.ow hT;refine W ?_;refine CL (hg _ _) ?_;rintro _ _ ⟨rfl,rfl⟩;cases hpc:p (dec s i).1;rw [hpc] at he;refine W ?_;refine WR ?_;simp only [XP,if_false] at he;exact .mk ⟨by rw [← he];rfl,hS⟩
 · rw [hpc] at he
   refine W ?_;refine ZD (f,i+(dec s i).2) ⟨rfl,rfl,rfl,trivial⟩ ⟨hI3,hS,he,by dsimp only;omega⟩ ?_;dsimp only;repeat' split
   all_goals omega
 · refine W ?_
   refine Z1 (Z7F rfl hI hlt) rfl ?_;rintro _ _ ⟨rfl,rfl⟩;refine W ?_;refine WR ?_;refine .mk ⟨?_,hS⟩;rw [← he];cases f with
   | zero=>rfl
   | succ f=>unfold JR;rw [if_neg hlt]
end Go.Proofs.YtipfkbkkndacjaaGreatDoor
namespace Go.Eng
open Go Go.RowKit Go.Proofs
section parsing
variable {l:List Tkn} {i o:Nat}
end parsing
inductive Ps where
 | err (a c:Int)
 | ok (l:List RuleM)
def Z31 (s:Str):Ps:=
 match Z0x s with
 | .err a c=>.err a c
 | .ok l => match Z2s l (l.length + 1) [] 0 0 with
   | .err a c=>.err a c
   | .ok rs _ _=>.ok rs
def Z5j (d:Nat):Nat:=(d - d / 1460+d / 36524 - d / 146096) / 365
def Z64 (y:Nat):Nat:=365 * y+y / 4 - y / 100
def Zjl (y:Nat):Bool:=Nat.beq (y % 4) 0 && (!(Nat.beq (y % 100) 0) || Nat.beq (y % 400) 0)
def Ztw (d:Nat):Bool:=Nat.ble 146097 d || (Nat.ble (Z64 (Z5j d)) d && (Nat.blt d (Z64 (Z5j d)+365) || (Nat.beq d (Z64 (Z5j d)+365) && Zjl (Z5j d+1))))
def Zjm:Nat→Nat→Bool
 | 0,lo=>Ztw lo
 | k+1,lo=>Zjm k lo && Zjm k (lo+2 ^ k)
theorem Z65:∀ (k lo d:Nat),Zjm k lo=true→lo≤d→d<lo+2 ^ k→Ztw d=true
 | 0, lo, d, h, h1, h2 => by
   have:d=lo:=by simp at h2;omega
   subst this;exact h
 | k + 1, lo, d, h, h1, h2 => by
   simp only [Zjm,Xm] at h;rw [Ybl] at h2;rcases Yas d (lo+2 ^ k) with h3|h3
   exact Z65 k lo d h.1 h1 h3;exact Z65 k (lo+2 ^ k) d h.2 h3 (by omega)
theorem Zjn:Zjm 18 0=true:=by kernel_rfl
theorem Zjo (y:Nat):Zjl y=Z10 (y:Int):=by
 unfold Zjl Z10;have h:∀ a b:Nat,Nat.beq (a % b) 0=decide ((a:Int) % (b:Int)=0):=fun a b=>by
  rw [Yac];simp only [decide_eq_true_eq];rw [Nat.beq_eq];omega
 rw [show Nat.beq (y % 4) 0=decide ((y:Int) % 4=0) from h y 4,show Nat.beq (y % 100) 0=decide ((y:Int) % 100=0) from h y 100,show Nat.beq (y % 400) 0=decide ((y:Int) % 400=0) from h y 400];simp
structure Dat where
 y:Int
 m:Int
 d:Int
def ofM (day:Int):Dat:=
 let z:=day+306
 let era:=z / 146097
 let doe:=z % 146097
 let yoe:=(doe - doe / 1460+doe / 36524 - doe / 146096) / 365
 let doy:=doe - (365 * yoe+yoe / 4 - yoe / 100)
 let m:=(5 * doy+2) / 153
 if m≥10 then ⟨yoe+400 * era+1,m - 9,doy - (153 * m+2) / 5+1⟩ else ⟨yoe+400 * era,m+3,doy - (153 * m+2) / 5+1⟩
theorem Zjp:∀ q:Nat,q<366→(5 * q+2) / 153≤11∧(153 * ((5 * q+2) / 153)+2) / 5≤q∧
 q - (153 * ((5 * q+2) / 153)+2) / 5+1≤(if (5 * q+2) / 153=11 then (if q=365 then 29 else 28) else if (5 * q+2) / 153=1∨(5 * q+2) / 153=3∨(5 * q+2) / 153=6∨(5 * q+2) / 153=8 then 30 else 31):=by decide +kernel
theorem Zjq (doe:Int) (h0:0≤doe) (h1:doe<146097):∃ yoe doy:Nat,(doe - doe / 1460+doe / 36524 - doe / 146096) / 365=(yoe:Int)∧doe - (365 * (yoe:Int)+(yoe:Int) / 4 - (yoe:Int) / 100)=(doy:Int)∧yoe≤399∧doy≤365∧(doy=365→Z10 ((yoe:Int)+1)=true):=by
 obtain ⟨d,rfl⟩:∃ d:Nat,doe=(d:Int):=⟨doe.toNat,by omega⟩
 have hd:d<146097:=by omega
 have h:=Z65 18 0 d Zjn (by omega) (by omega);unfold Ztw at h;rw [show Nat.ble 146097 d=false by rw [Ybs];simp;omega] at h;simp only [Ybv,Xm,YaE,Nat.ble_eq,Nat.beq_eq] at h;obtain ⟨h2,h3⟩:=h;have hy:((d:Int) - (d:Int) / 1460+(d:Int) / 36524 - (d:Int) / 146096) / 365=((Z5j d:Nat):Int):=by unfold Z5j;omega
 have hyle:Z5j d≤399:=by unfold Z5j;omega
 have hst:(Z64 (Z5j d):Int)=365 * (Z5j d:Int)+(Z5j d:Int) / 4 - (Z5j d:Int) / 100:=by unfold Z64;omega
 refine ⟨Z5j d,d - Z64 (Z5j d),hy,by omega,hyle,?_,fun h4=>?_⟩;rcases h3 with h3|h3
 have:=XU h3;omega;have:=h3.1;omega;rcases h3 with h3|h3
 have:=XU h3;omega;have:=h3.2;rw [Zjo] at this;exact this
theorem ZfN (y e:Int):Z10 (y+400 * e)=Z10 y:=by
 unfold Z10;have h4:(y+400 * e) % 4=y % 4:=by omega
 have h100:(y+400 * e) % 100=y % 100:=by omega
 have h400:(y+400 * e) % 400=y % 400:=by omega
 rw [h4,h100,h400]
theorem Zaq {n:Int} (h0:0≤n) (h1:n≤3652058):1≤(ofM n).y∧(ofM n).y≤9999∧1≤(ofM n).m∧(ofM n).m≤12∧1≤(ofM n).d∧(ofM n).d≤ZL (ofM n).y (ofM n).m∧Z04 (ofM n).y (ofM n).m (ofM n).d=n:=by
 obtain ⟨yoe,doy,e1,e2,hy,hd,hl⟩:=Zjq ((n+306) % 146097) (by omega) (by omega);obtain ⟨m1,m2,m3⟩:=Zjp doy (by omega);have hera:(n+306) / 146097 * 146097+(n+306) % 146097=n+306:=by omega
 unfold ofM;simp only;rw [e1,e2];have em:(5 * (doy:Int)+2) / 153=(((5 * doy+2) / 153:Nat):Int):=by omega
 rw [em];have ek:(153 * (((5 * doy+2) / 153:Nat):Int)+2) / 5=(((153 * ((5 * doy+2) / 153)+2) / 5:Nat):Int):=by omega
 rw [ek];generalize (n+306) / 146097=era at *;generalize (n+306) % 146097=doe at *;have hk5:∀ m:Nat,m≤11→(153 * (m:Int)+2) / 5=(((153 * m+2) / 5:Nat):Int):=fun m _=>by omega
 generalize hm:(5 * doy+2) / 153=m at *;have q4:((yoe:Int)+400 * era) / 4=(yoe:Int) / 4+100 * era:=by omega
 have q100:((yoe:Int)+400 * era) / 100=(yoe:Int) / 100+4 * era:=by omega
 have q400:((yoe:Int)+400 * era) / 400=era:=by omega
 by_cases h10:((m:Nat):Int)≥10;rw [if_pos h10];simp only;have hday:Z04 ((yoe:Int)+400 * era+1) ((m:Int) - 9) ((doy:Int) - (((153 * m+2) / 5:Nat):Int)+1)=n:=by
  unfold Z04;rw [if_pos (by omega)];simp only;rw [show (yoe:Int)+400 * era+1 - 1=(yoe:Int)+400 * era by omega,show (m:Int) - 9+9=(m:Int) by omega,hk5 m m1,q4,q100,q400];omega
 refine ⟨?_,?_,by omega,by omega,by omega,?_,hday⟩;omega;omega;have hm':m=10∨m=11:=by omega
 rcases hm' with rfl|rfl
 unfold ZL;rw [if_neg (by omega),if_neg (by omega),if_neg (by omega)];rw [if_neg (by omega),if_neg (by omega)] at m3;omega;unfold ZL;rw [if_neg (by omega),if_pos (by omega)];rw [if_pos rfl] at m3;by_cases h365:doy=365;rw [if_pos h365] at m3;have hlp:Z10 ((yoe:Int)+400 * era+1)=true:=by
  rw [show (yoe:Int)+400 * era+1=((yoe:Int)+1)+400 * era by omega,ZfN];exact hl h365
 rw [hlp];simp only [if_true];omega;rw [if_neg h365] at m3;split<;>omega
 rw [if_neg h10];simp only;have hday:Z04 ((yoe:Int)+400 * era) ((m:Int)+3) ((doy:Int) - (((153 * m+2) / 5:Nat):Int)+1)=n:=by
  unfold Z04;rw [if_neg (by omega)];simp only;rw [show (m:Int)+3 - 3=(m:Int) by omega,hk5 m m1,q4,q100,q400];omega
 refine ⟨?_,?_,by omega,by omega,by omega,?_,hday⟩;omega;omega;unfold ZL;rw [if_neg (by omega),if_neg (by omega)];rw [if_neg (by omega)] at m3;split at m3;rw [if_pos (by omega)];omega;rw [if_neg (by omega)];omega
theorem Z4D:∀ (k u:Nat),u<10 ^ (k+1)→(Lib.decDigits u).length≤k+1
 | 0,u,h=>by rw [Lib.decDigits,dif_pos (by simpa using h)];simp
 | k + 1, u, h => by
   rw [Lib.decDigits];split;simp;have:=Z4D k (u / 10) (by rw [Ybl] at h;omega);simp;omega
def Z19 (y:Int):Int:=365 * (y - 1)+(y - 1) / 4 - (y - 1) / 100+(y - 1) / 400
def Z2a (y:Int):Nat→Int
 | 0=>0
 | k+1=>Z2a y k+ZL y ((k:Int)+1)
theorem Z9c (y:Int):Z10 y=true↔(y % 4=0∧(¬ y % 100=0∨y % 400=0)):=by
 unfold Z10;simp
theorem Z6G (y:Int):Z19 (y+1)=Z19 y+(if Z10 y=true then 366 else 365):=by
 unfold Z19;have h:=Z9c y;by_cases hl:Z10 y=true;rw [if_pos hl];have:=h.1 hl;omega;rw [if_neg hl];have:¬ (y % 4=0∧(¬ y % 100=0∨y % 400=0)):=fun h'=>hl (h.2 h');omega
theorem Z3G {a b:Int} (h:a≤b):Z19 a≤Z19 b:=by
 unfold Z19;omega
theorem Z2g {y:Int} {k:Nat} (hk:k<12):28≤ZL y ((k:Int)+1):=by
 unfold ZL;rw [if_neg (by omega)];repeat' split
 all_goals omega
theorem ZmP (y:Int):∀ k:Nat,k≤11→Z2a y k=(if k<2 then 31 * (k:Int) else (if Z10 y=true then 1 else 0)+(153 * ((k:Int) - 2)+2) / 5+59):=by
 intro k hk;have:k=0∨k=1∨k=2∨k=3∨k=4∨k=5∨k=6∨k=7∨k=8∨k=9∨k=10∨k=11:=by omega
 rcases this with rfl|rfl|rfl|rfl|rfl|rfl|rfl|rfl|rfl|rfl|rfl|rfl<;>simp [Z2a,ZL]<;>cases Z10 y<;>simp
theorem ZwM (y:Int):Z2a y 12=if Z10 y=true then 366 else 365:=by
 simp [Z2a,ZL];cases Z10 y<;>simp
theorem Z2A (y d:Int) (k:Nat) (hk:k≤11):Z04 y ((k:Int)+1) d=Z19 y+Z2a y k+d - 1:=by
 rw [ZmP y k hk];unfold Z04;by_cases h2:k<2;rw [if_pos h2,if_pos (by omega)];simp only;unfold Z19;omega;rw [if_neg h2,if_neg (by omega)];simp only;have h:=Z6G y;have hl:=Z9c y;have e:(153 * ((k:Int)+1 - 3)+2) / 5=(153 * ((k:Int) - 2)+2) / 5:=by congr 2;omega
 rw [e];generalize (153 * ((k:Int) - 2)+2) / 5=z;have e2:Z19 (y+1)=365 * y+y / 4 - y / 100+y / 400:=by unfold Z19;omega
 rw [e2] at h;by_cases hl':Z10 y=true;rw [if_pos hl'] at h ⊢;omega;rw [if_neg hl'] at h ⊢;omega
theorem Z4e {y:Int}:∀ {a b:Nat},a≤b→b≤12→Z2a y a≤Z2a y b
 | a, 0, h, _ => by obtain rfl : a = 0 := by omega
                    exact YaT _
 | a, b + 1, h, h2 => by
   by_cases e:a=b+1;subst e;exact YaT _;have:=Z4e (y:=y) (a:=a) (b:=b) (by omega) (by omega);have:=Z2g (y:=y) (k:=b) (by omega);simp only [Z2a];omega
theorem Zjr (k:Nat) (h:0<k):Lib.decDigits k=(if k / 10=0 then [] else Lib.decDigits (k / 10))++[UInt8.ofNat (48+k % 10)]:=by
 rw [Lib.decDigits];by_cases h10:k<10;rw [dif_pos h10,if_pos (by omega)];simp [Nat.mod_eq_of_lt h10];rw [dif_neg h10,if_neg (by omega)]
theorem ZfO (d:Nat) (h:d<10):(([48,49,50,51,52,53,54,55,56,57]:Str).take (d+1)).drop d=[UInt8.ofNat (48+d)]:=by
 have:d=0∨d=1∨d=2∨d=3∨d=4∨d=5∨d=6∨d=7∨d=8∨d=9:=by omega
 rcases this with rfl|rfl|rfl|rfl|rfl|rfl|rfl|rfl|rfl|rfl<;>rfl
variable {P:Program} {n:Nat} {e:Env} {w:World} {d:Option Nat} {ty:TypeId} {pos:String} {af:Array Edge} {g:Option (Nat×Bool)}
theorem Zar {x:Operand} {t:TypeId} {el:TypeId} [hu:Und P t (.slice el)] {p:Option Addr} {l c:Nat} (hx:ev e x=some (.slice p l c)) :
 PR P n ⟨d,.call { callee:=.builtin .cap,args:=#[x],argTypes:=#[t] },ty,pos,af,g⟩ e w (.I (c:Int)):=
 ⟨fun a ha => by
   have:=run_cap_slice (P:=P) w t ty p l c (by rw [hu.h,Program.elem,hu.h]);simp [execOp,resolve,invoke,builtin,ha.ev hx,this,goInt]⟩
theorem Z7I {t el k:Nat} {x hi:Operand} {l c:Nat} [hu:Und P t (.slice el)] [hk:Siz P el k] (hx:ev e x=some (.slice none l c)) (hb:ev e hi=some (.I 0)) :
 PR P n ⟨d,.slice t x none (some hi) none,ty,pos,af,g⟩ e w (.slice none 0 c):=by
 refine ⟨fun act ha'=>?_⟩;simp [execOp,ha'.ev hx,ha'.ev hb,Instr.sliceAt,run_underlying hu.h,Instr.slice,Instr.sliceBounds,Instr.sliceBound,asIntOf,Siz.run]
theorem Z9d {t el k:Nat} {x hi:Operand} {b o:Nat} {l c:Nat} [hu:Und P t (.slice el)] [hk:Siz P el k] (hx:ev e x=some (.slice (some ⟨b,o,none⟩) l c)) (hb:ev e hi=some (.I 0)) :
 PR P n ⟨d,.slice t x none (some hi) none,ty,pos,af,g⟩ e w (.slice (some ⟨b,o,none⟩) 0 c):=by
 refine ⟨fun act ha'=>?_⟩;simp [execOp,ha'.ev hx,ha'.ev hb,Instr.sliceAt,run_underlying hu.h,Instr.slice,Instr.sliceBounds,Instr.sliceBound,asIntOf,Siz.run,Addr.add_lit]
theorem ZmQ {t tn T bytes k:Nat} {kn:IntKind} {x y:Operand} {z:Value} [ht:Und P t (.slice T)] [hn:Und P tn (.int kn)] [hk:Siz P T 1] [hb:Byt P T bytes] [hz:Zer P T z] (hz1:z.cells.size=1)
 (hx:ev e x=some (.N)) (hy:ev e y=some (.I (k:Int))) (h0:0<k) (hkm:k≤maxLen) (hbytes:k * bytes≤140737488355328) :
 OE P n ⟨d,.call { callee:=.builtin .append,args:=#[x,y],argTypes:=#[t,tn] },ty,pos,af,g⟩ e w
  (fun v w'=>∃ c,v=.slice (some ⟨w.heap.size,0,none⟩) k c∧w'.ownsRow w.heap.size T 1 (.slice (some ⟨w.heap.size,0,none⟩) 0 c) 0 []∧Stp [] w w'):=by
 obtain ⟨i,hi,hi1,hi2,hi3⟩:∃ i,P.info? T=some i∧i.size=1∧i.bytes=bytes∧i.zero=some z:=by
  have a1:=hk.h;have a2:=hb.h;have a3:=hz.h;cases hi:P.info? T with
  | none=>simp [hi] at a1
  | some i=>exact ⟨i,rfl,by simpa [hi] using a1,by simpa [hi] using a2,by simpa [hi] using a3⟩
 have hrun:=Go.Lib.run_append_nil_zeros (P:=P) w t tn ty T i z .i64 kn ht.h hn.h hi hi3 k h0 (by omega) (by simp [maxLen] at hkm;omega) (by rw [hi2];omega);have hge:=grownCap_ge w k 0 T;have hsz:(Builtin.zeroCells z.cells k++Builtin.zeroCells z.cells (grownCap w k 0 T - k)).size=grownCap w k 0 T * 1:=by
  rw [Array.size_append,size_zeroCells,size_zeroCells,hz1];omega
 refine Jd (v:=.slice (some ⟨w.heap.size,0,none⟩) k (grownCap w k 0 T)) (w':=w.drew.alloc (.cells (Builtin.zeroCells z.cells k++Builtin.zeroCells z.cells (grownCap w k 0 T - k)) T)) (fun a ha=>?_) ⟨_,rfl,World.ownsRow_made w.drew _ _ (Xn _) (grownCap_le_maxLen w k 0 T hkm) hsz,(Stp.drew [] w).trans (Stp.alloc [] _ _)⟩;simp [execOp,resolve,invoke,builtin,ha.ev hx,ha.ev hy,hrun]
variable {P:Program} {n:Nat} {e:Env} {w:World} {d:Option Nat} {ty:TypeId} {pos:String} {af:Array Edge} {g:Option (Nat×Bool)}
theorem Z3l (k:Nat) (u:Value):(List.replicate k [u]).flatten=List.replicate k u:=by
 induction k with
 | zero=>rfl
 | succ k ih=>rw [YaX,Yag,ih];rfl
theorem Z1j {α:Type} [Z7 α] {t T bytes k:Nat} {x y:Operand} {z u:Value} {a0:α} [ht:Und P t (.slice T)] [hk:Siz P T 1] [hb:Byt P T bytes] [hz:Zer P T z] (hk1:Z7.k α=1) (hzu:z.cells=#[u]) (hrep:∀ (X:List Nat) (w),Z7.rep X w a0 [u])
 (hx:ev e x=some (.I (k:Int))) (hy:ev e y=some (.I (k:Int))) (hkm:k≤maxLen) (hbytes:bytes * k≤281474976710656) :
 OE P n ⟨d,.makeSlice t x y,ty,pos,af,g⟩ e w (fun v w'=>(∀ X,Row X w' w.heap.size T v (List.replicate k a0))∧Stp [] w w'):=by
 obtain ⟨i,hi,hi1,hi2,hi3⟩:∃ i,P.info? T=some i∧i.size=1∧i.bytes=bytes∧i.zero=some z:=by
  have a1:=hk.h;have a2:=hb.h;have a3:=hz.h;cases hi:P.info? T with
  | none=>simp [hi] at a1
  | some i=>exact ⟨i,rfl,by simpa [hi] using a1,by simpa [hi] using a2,by simpa [hi] using a3⟩
 obtain ⟨w',hrun,hown,hgr⟩:=run_make_full (P:=P) w w.heap.size t T i z 1 ht.h hi hi3 hi1 .i64 .i64 k (by rw [hi2];exact hbytes) hkm (Xn _);rw [hzu,YaM,toList_madeCells_one] at hown;refine Jd (v:=.slice (some ⟨w.heap.size,0,none⟩) k k) (w':=w') (fun a ha=>?_) ⟨fun X=>⟨List.replicate k [u],by simp,fun j hj hj'=>?_,?_⟩,Stp.of_grown hgr⟩;simp [execOp,ha.ev hx,ha.ev hy,hrun];rw [List.getElem_replicate,List.getElem_replicate];exact hrep _ _;rw [Z3l,hk1,List.length_replicate];exact hown
section
variable {P:Program} {n:Nat} {e:Env} {d:Option Nat} {ty:TypeId} {pos:String} {af:Array Edge} {g:Option (Nat×Bool)}
variable {α:Type} [Z7 α] {X:List Nat} {w w':World} {base T:Nat} {v:Value} {xs:List α}
theorem Z3H {i k:Nat} {t:TypeId} {x y:Operand} {u:Value} {y':α} [hsz:Siz P t k] (hx:ev e x=some (.pointer (some (Zp v i k 0)))) (hy:ev e y=some u) (hk:k=Z7.k α)
 (hr':Z7.rep (ob v++X) w y' u.cells.toList) (hrow:Row X w base T v xs) (hi:i<xs.length) :
 OE P n ⟨d,.store t x y,ty,pos,af,g⟩ e w (fun _ w'=>Row X w' base T v (xs.set i y')∧Stp (ob v) w w'):=by
 have hrow0:=hrow;obtain ⟨css,hl,hr,ho⟩:=hrow;have hlen:∀ c∈css,c.length=Z7.k α:=by
  intro c hc;obtain ⟨q,hq,rfl⟩:=Xr hc;exact Z7.len (hr q (by omega) hq)
 rcases ho.2 with ⟨rfl,hn⟩|⟨q,cap,cur,rfl,hb,hg,hnc,hcm,hcs,ht⟩
 omega;subst hk;have hul:u.cells.toList.length=Z7.k α:=Z7.len hr';have hfit:i * Z7.k α+u.cells.toList.length≤cur.size:=by
  rw [hul,hcs,← X8];exact Xp _ (by omega)
 have hst:=run_storeCells_at P q (i * Z7.k α) T u.cells.toList 0 cur w hg (by simpa using hfit) (Z7.one hr');simp only [Ybk] at hst;have hus:u.cells.size=Z7.k α:=by simpa using hul
 have hSt:Stp [q] w (w.setRow q (cur.toList.take (i * Z7.k α)++u.cells.toList++cur.toList.drop (i * Z7.k α+u.cells.toList.length)).toArray):=Z1O _ _ _;refine Z47 (w':=w.setRow q (cur.toList.take (i * Z7.k α)++u.cells.toList++cur.toList.drop (i * Z7.k α+u.cells.toList.length)).toArray) (fun a ha=>?_) ⟨⟨css.set i u.cells.toList,by simp [hl],fun j hj hj'=>?_,?_,.inr ⟨q,cap,_,by simp,hb,setRow_heap w q cur _ T (0,0) hg,by simpa using hnc,hcm,?_,?_⟩⟩,hSt⟩;have hel:Zp (.slice (some ⟨q,0,none⟩) xs.length cap) i (Z7.k α) 0=⟨q,i * Z7.k α,none⟩:=by simp [Zp]
 rw [hel] at hx;simp [execOp,ha.ev hx,ha.ev hy,Instr.storeAt,Instr.sureAddr,storeVar,Siz.run,hus,hst];have hS1:∀ b∈[q],b∈ob (.slice (some ⟨q,0,none⟩) xs.length cap)++X:=by simp [ob]
 by_cases hij:i=j;subst hij;simp only [Ya9];exact Z7.ext hr' hSt hS1 (fun b hb=>.inl hb);simp only [YaI hij];exact Z7.ext (hr j (by simpa using hj) (by simpa using hj')) hSt hS1 (fun b hb=>.inl hb);rw [Z1l css hlen i (by omega)];have h1:=ho.1;simp only [Xc,Xt,Yaf,X4,hul,h1];have:(i+1) * Z7.k α≤xs.length * Z7.k α:=Xp _ (by omega);rw [X8] at this;omega;simp only [Yar,Xc,Xt,Yaf,Yah,hul,hcs];rw [hul,hcs] at hfit;omega;rw [Z1l css hlen i (by omega),← ht];have h2:(i+1) * Z7.k α≤xs.length * Z7.k α:=Xp _ (by omega);rw [X8] at h2;have h3:i * Z7.k α≤cur.toList.length:=by simp [hcs];exact Xg (by omega) (Xp _ hnc)
 simp only [X4,hul];rw [Yaw,Yaw,YaA,YaA,Ybn];simp only [Xc,Xt,hul];rw [Yad h3,XH (l:=u.cells.toList) (by rw [hul];omega)];rw [Ybx (by omega:i * Z7.k α≤xs.length * Z7.k α),Yad (by omega:i * Z7.k α≤xs.length * Z7.k α)]
end
section
variable {P:Program} {n:Nat} {Q:Exit→Act→World→Prop} {e:Env} {w:World}
theorem ZfP {id:Nat} {l:List Oper} (m:Nat) (S:List Nat) (Lt:List Nat) (ord:List (Nat×Nat)) (hlm:l.length=m) (hm:P.follows .mixedOrders=true) (hs:Region.noSelect l.toArray=true) (hl:Nat.beq (wt ord) l.length=true)
 (hB:J9 l.toArray Lt ord (Array.replicate m false)=true)
 (h:∀ w',Stp [] w w'→w'.heap.size=w.heap.size→WD P n l.toArray S Lt Q ord e w'):WC P n (.region id l.toArray true) Q e w:=by
 subst hlm;refine ⟨fun a ha=>wp_region_any hm ?_⟩;have h1:=(h { w with drawn:=w.drawn+1 } (Stp.drew [] w) rfl).h _ hs hB a ha;have h2:=Z0Q (Q:=Q) (fun a w hz=>hz) _ _ _ _ h1;rw [XK hl] at h2;simpa using h2
def ZmR (w:World) (T:TypeId) (cs:List Value) (v:Value) (w':World):Prop:=v=.pointer (some ⟨w.heap.size,0,none⟩)∧Blk w' w.heap.size T cs∧Stp [] w w'
theorem ZfQ {d:Option Nat} {ty:TypeId} {pos:String} {af:Array Edge} {g:Option (Nat×Bool)} {t:TypeId} {z:Value} [hz:Zer P t z]:OE P n ⟨d,.alloc t,ty,pos,af,g⟩ e w (ZmR w t z.cells.toList):=by
 refine Jd (v:=.pointer (some ⟨w.heap.size,0,none⟩)) (w':=w.alloc (.cells z.cells t)) (fun a ha=>?_) ?_;simp [execOp,Instr.alloc,Zer.run,newVar,newRow,newObj];rfl;have h:=Z9X w t z.cells.toList;obtain ⟨b,hb,hb2,h1,h2⟩:=h;simp only [Value.pointer.injEq,XD,Addr.mk.injEq] at hb;obtain ⟨rfl,-⟩:=hb;exact ⟨rfl,by simpa using h1,by simpa using h2⟩
theorem ZdF {o:Oper} {a:Act} {w} {K K':Act→World→Prop} {Q':Exit→Act→World→Prop} (h:∀ a w,K a w→K' a w) (hq:∀ ex a w,Q' ex a w→Q ex a w)
 (hh:o.wp P a w K Q'):o.wp P a w K' Q:=by
 unfold Oper.wp at *;generalize (execOp a.eval o).run P w=r at *;cases r with
 | ok n w'=>
   cases n<;>simp only [Oper.upon] at hh ⊢ <;>
    first
     | exact h _ _ hh
     | exact Calls.mono hh (fun e w'' he=>by cases e<;>first|exact h _ _ he|exact hq _ _ _ he|exact he.elim (fun a h=>h.elim (fun w h=>⟨a,w,hq _ _ _ h⟩)))
     | exact Rows.mono hh (fun _ _ he=>h _ _ he)
 | halt x w'=>cases x<;>simp only [Oper.upon] at hh ⊢<;>first|exact hq _ _ _ hh|exact hh
theorem Z32 {ops:Array Oper} {Q':Exit→Act→World→Prop} (hq:∀ ex a w,Q' ex a w→Q ex a w):∀ (l:List Oper) (a:Act) (w),wpList P ops Q' l a w→wpList P ops Q l a w
 | [],a,w,h=>hq _ _ _ h
 | o :: rest, a, w, h => by
   unfold wpList at h ⊢;split;rename_i hw;rw [if_pos hw] at h;rcases h with h|⟨h1,a',w',h2⟩
   exact .inl (ZdF (fun a w h=>Z32 hq rest a w h) hq h);exact .inr ⟨h1,a',w',hq _ _ _ h2⟩;rename_i hw;rw [if_neg hw] at h;exact Z32 hq rest _ _ h
theorem Z5k {y:Code} {σ:Type} {ops:Array Oper} {l:List Oper} (env:σ→Env) (I:σ→World→Prop)
 (h:WL P n ops (Exit.then (fun a w=>∃ s,Has n (env s) a∧I s w) Q) l e w) (k:∀ s w,I s w→WC P n y Q (env s) w):WL P n ops (Exit.then (fun a w=>y.wp P Q a w) Q) l e w:=
 ⟨fun a ha => Z32 (fun ex a w hq => by
   cases ex with
   | normal=>obtain ⟨s,h1,h2⟩:=hq;exact (k s w h2).h a h1
   | _=>exact hq) l a w (h.h a ha)⟩
end
open Go Go.RowKit Go.Proofs Go.ChangeShapes Go.WideShapes Go.Deep
section
variable {H:Type} {enc:TypeId×Value→H} {P:Program} {w:World} {base:Nat} {spare:Nat→Bool} {held:Bool}
theorem ZbM (b o n:Nat):(⟨b,o,none⟩:Addr).add n=⟨b,o+n,none⟩:=by
 unfold Addr.add;split;rename_i h;subst h;rfl;rfl
def ZmS:DataW H→Nat
 | .slice els _=>els.length
 | _=>0
theorem ZbN {α:Type} [Z3 α] {ok:α→Prop} {t e:TypeId} {fuel:Nat} {cs:List Value} {x:DataW H×List MemPlace} (ht:P.underlying t=some (.slice e)) (hC:P.cellsOf e=Z3.k α) (hpos:0<Z3.k α)
 (hread:∀ n cs' y,cs'.length=Z3.k α→DataW.trod enc P w base spare held n e cs'=some y→∃ a:α,cs'=Z3.enc a∧ok a)
 (h:DataW.trod enc P w base spare held fuel t cs=some x):∃ (v:Value) (xs:List α),cs=[v]∧SlV [] w v xs∧(∀ a∈xs,ok a)∧ZmS x.1=xs.length:=by
 rcases open_slice ht h with ⟨rfl,rfl⟩|⟨a,len,cap,m,n,D,Pl,rfl,hb,hl,hm,hmm,hx,hi⟩
 exact ⟨_,[],rfl,⟨none,0,rfl,Xn _,by simp [maxLen],fun _=>rfl,fun i h=>absurd h (Xu _)⟩,by simp,rfl⟩;have hlm:len≤m:=by rw [hmm];split<;>omega
 have hne:∀ y:α,∃ u,(Z3.enc y)[0]?=some u:=fun y=>⟨_,XN (by rw [Z3.len y];exact hpos)⟩
 have hall:∀ i:Fin len,∃ y:α,ok y∧∀ j u,(Z3.enc y)[j]?=some u→w.cell? (a.add (i * Z3.k α+j))=some u:=by
  intro i;obtain ⟨cs',hc,htr⟩:=hi i (by omega);rw [hC] at hc;obtain ⟨_,hcl,hat⟩:=World.cells?_some hc;obtain ⟨y,rfl,hok⟩:=hread n cs' _ hcl htr;refine ⟨y,hok,fun j u hu=>?_⟩;have hj:j<Z3.k α:=by
   have:=(Xw.1 hu).1;rw [Z3.len] at this;exact this
  have:=hat j hj;rw [hu] at this;rw [← this,Go.Deep.add_add]
 let f:Fin len→α:=fun i=>(hall i).choose
 have hf:∀ i:Fin len,ok (f i)∧∀ j u,(Z3.enc (f i))[j]?=some u→w.cell? (a.add (i * Z3.k α+j))=some u:=fun i=>(hall i).choose_spec;refine ⟨_,List.ofFn f,rfl,⟨some a,cap,by simp,by simpa using hl,hm,by simp,fun i hi'=>?_⟩,fun y hy=>?_,by rw [hx];simp [ZmS]⟩;have hi'':i<len:=by simpa using hi'
 have hfi:=(hf ⟨i,hi''⟩).2;obtain ⟨u1,hu1⟩:∃ u,(Z3.enc (f ⟨0,by omega⟩))[0]?=some u:=hne _;have hc1:=(hf ⟨0,by omega⟩).2 0 u1 hu1;obtain ⟨u0,hu0⟩:∃ u,(Z3.enc (f ⟨i,hi''⟩))[0]?=some u:=hne _;have hc0:=hfi 0 u0 hu0;have hsp:a.spot=none:=by
  have e0:a.add ((⟨0,by omega⟩:Fin len).val * Z3.k α+0)=a:=by simp [Addr.add]
  rw [e0] at hc1;unfold World.cell? at hc1;split at hc1
  · cases hs:a.spot with
    | none=>rfl
    | some s=>simp [hs] at hc1
  cases hc1
 obtain ⟨b,o,sp⟩:=a;cases hsp;refine ⟨b,o,Z3.enc (f ⟨i,hi''⟩),rfl,?_,by simp,?_,fun j u hu=>?_⟩;have:=block_lt_of_cell (a:=(⟨b,o,none⟩:Addr).add (i * Z3.k α+0)) hc0;simpa [ZbM] using this;simp;rfl;have:=hfi j u hu;rw [ZbM] at this;rw [show o+i * Z7.k α+j=o+(i * Z3.k α+j) from Yav _ _ _];exact this;obtain ⟨i,rfl⟩:=List.mem_ofFn.1 hy;exact (hf i).1
theorem Zjs {t e:TypeId} {fuel:Nat} {cs:List Value} {x:DataW H×List MemPlace} (ht:P.underlying t=some (.slice e)) (hC:P.cellsOf e=1) (he:P.underlying e=some (.int .i64))
 (h:DataW.trod enc P w base spare held fuel t cs=some x):∃ (v:Value) (xs:List Int),cs=[v]∧SlV [] w v xs∧(∀ a∈xs,I64 a)∧ZmS x.1=xs.length:=
 ZbN (α:=Int) ht hC (by decide) (fun n cs' y hl hy=>by
  obtain ⟨z,rfl,_,hw⟩:=DataW.trod_int he hy;exact ⟨z,rfl,by simpa [I64,Lit.wf,IntKind.min,IntKind.max,IntKind.signed,IntKind.bits] using hw⟩) h
end
section
variable {H:Type} {enc:TypeId×Value→H} {P:Program}
def ZeI (P:Program) (ts:List TypeId):Bool:=ts.all fun t=>P.readableRec t && decide (t<P.types.size)
theorem Z4E (hl:laidOutB P=true) {W W':World} (hb:Below W.heap.size W W') {sp:Nat→Bool}:∀ {ts:List TypeId} {vs:List Value} {ds:List (DataW H)} {ps:List MemPlace},ZeI P ts=true→
 DataW.TrodAll enc P W 0 (fun _=>true) true ts vs ds ps→(∀ x∈ps,x.block<W.heap.size)→(∀ x∈ps,sp x.block=true)→DataW.TrodAll enc P W' 0 sp true ts vs ds ps
 | [],[],[],_,_,h,_,_=>h
 | t :: ts, v :: vs, d :: ds, ps, hr, h, hlt, hs => by
   obtain ⟨p,q,h1,h2,rfl⟩:=h;simp only [ZeI,YaZ,Xm,decide_eq_true_eq] at hr;obtain ⟨⟨r1,r2⟩,r3⟩:=hr;exact ⟨p,q,WideElems.Trod_stays hl r1 r2 h1 (fun x hx=>hb.same (hlt x (by simp [hx]))) (fun x hx=>hs x (by simp [hx])),Z4E hl hb (by simpa [ZeI] using r3) h2 (fun x hx=>hlt x (by simp [hx])) (fun x hx=>hs x (by simp [hx])),rfl⟩
 | [],_ :: _,_,_,_,h,_,_=>h.elim
 | [],[],_ :: _,_,_,h,_,_=>h.elim
 | _ :: _,[],_,_,_,h,_,_=>h.elim
 | _ :: _,_ :: _,[],_,_,h,_,_=>h.elim
section
variable {f:Func} {s:ChangeSpec} {apart fresh handsOn again:Bool} {W W':World} {args:Array Value} {v:Value} {ds gs:List (DataW H)} {before pa pv:List MemPlace}
theorem Z8G
 (hW:DataW.Whole enc P f.params.toList s.vars apart W args.toList ds gs before)
 (hres:∀ (b:Nat) (sp:Nat→Bool) (hd:Bool),DataW.TrodAll enc P W' b sp hd f.resultTypes.toList (v.resultList f.resultTypes.size) (s.fn H (ds++gs)).results [])
 (hargs:∀ sp:Nat→Bool,(∀ p∈before,sp p.block=true)→DataW.TrodAll enc P W' 0 sp true f.params.toList args.toList (s.fn H (ds++gs)).args pa)
 (hvars:∀ sp:Nat→Bool,(∀ p∈before,sp p.block=true)→DataW.TrodVars enc P W' sp s.vars (s.fn H (ds++gs)).vars pv)
 (hps:before=pa++pv) (hb:Below W.heap.size W W')
 (hok:∀ (j:Nat) (t:TypeId) (r:Value),f.resultTypes[j]?=some t→(v.resultList f.resultTypes.size)[j]?=some r→Value.okWide P W' .any 0 t r) :
 s.post enc P f apart fresh handsOn again W args v W':=by
 have hlt:∀ p∈before,p.block<W.heap.size:=fun p hp=>hW.lt p hp;have hold:∀ p∈before,(fun b=>decide (b<W.heap.size)) p.block=true:=fun p hp=>by simpa using hlt p hp
 refine ⟨ds,gs,before,[],pa,pv,hW,hres _ _ _,hargs _ hold,hvars _ hold,World.keptBut_mono (fun p hp=>⟨hp,?_⟩) (hb.frame (·∈before)),fun _=>?_⟩;rw [hps,Xh] at hp;exact Or.inr hp;obtain ⟨_,_,_,_,_,hz,hn⟩:=hW;refine ⟨hok,_,_,([]++pa)++pv,⟨[]++pa,pv,trodAll_append (hargs _ (fun _ _=>rfl)) (hres _ _ _),hvars _ (fun _ _=>rfl),rfl,?_,?_⟩,?_⟩;intro b off hp;have hin:MemPlace.cell b off∈before:=by rw [hps];simpa using hp
 rw [hb.frozen (hlt _ hin)];exact hz b off hin;intro ha;have:=hn ha;rw [hps] at this;simpa using this;intro p hp _;rw [hps];simpa using hp
end
def ZmT (s:ChangeSpec) (k:Nat):Prop:=s.vars=[]∧∀ (H:Type) (ds:List (DataW H)),ds.length=k→(s.fn H ds).results=[.lit (.bool true)]∧(s.fn H ds).args=ds∧(s.fn H ds).vars=[]
theorem Z6H {W:World} {base:Nat} {sp:Nat→Bool} {hd:Bool}:∀ {ts:List TypeId} {vs:List Value} {ds:List (DataW H)} {ps:List MemPlace},DataW.TrodAll enc P W base sp hd ts vs ds ps→ds.length=ts.length
 | [],[],[],_,_=>rfl
 | t :: ts, v :: vs, d :: ds, ps, h => by
   obtain ⟨p,q,h1,h2,rfl⟩:=h;simp [Z6H h2]
 | [],_ :: _,_,_,h=>h.elim
 | [],[],_ :: _,_,h=>h.elim
 | _ :: _,[],_,_,h=>h.elim
 | _ :: _,_ :: _,[],_,h=>h.elim
theorem ZwN {fn:Func} {K tb:Nat} {s:ChangeSpec} {fresh handsOn again:Bool} {W:World} {args:Array Value} {ds gs:List (DataW H)} {before:List MemPlace} (hl:laidOutB P=true) (hr:ZeI P fn.params.toList=true)
 (hres:fn.resultTypes=#[tb]) (hb:P.underlying tb=some .bool) (hs:ZmT s fn.params.size)
 (hW:DataW.Whole enc P fn.params.toList s.vars false W args.toList ds gs before) (hc:Calls P K args W (Ret fun r w'=>r=.bool true∧Stp [] W w')) :
 Calls P K args W fun e W'=>∃ v,e=.returned v∧s.post enc P fn false fresh handsOn again W args v W':=by
 refine hc.mono ?_;rintro _ w' ⟨_,rfl,rfl,hS⟩;refine ⟨_,rfl,?_⟩;have hW':=hW;obtain ⟨p,q,hA,hV,hpq,hfz,hnd⟩:=hW;rw [hs.1] at hV;obtain ⟨rfl,rfl⟩:=trodVars_none hV;have hlen:(ds++[]).length=fn.params.size:=by simpa using Z6H hA
 obtain ⟨s1,s2,s3⟩:=hs.2 H (ds++[]) hlen;have hlt:∀ x∈before,x.block<W.heap.size:=fun x hx=>hW'.lt x hx;refine Z8G (pa:=p) (pv:=[]) hW' (fun b sp hd=>?_) (fun sp hsp=>?_) (fun sp _=>?_) hpq hS.below ?_;rw [s1,hres];exact trodAll_mk1 ⟨1,by simp [DataW.trod,Value.cells,hb]⟩;rw [s2];simp only [XG] at hpq ⊢;subst hpq;exact Z4E hl hS.below hr hA hlt hsp;rw [s3,hs.1];rfl;exact ok_one hres rfl (by simp [Value.okWide,hb,Cell.okWide,Cell.ok])
end
section
variable {H:Type} {enc:TypeId×Value→H}
theorem Zjt {a:Assume} {C:Checked} {os:Os} {f:FuncId} {fn:Func} {s:ChangeSpec} {conds:List PathCond} {apart fresh handsOn again:Bool} {X:World→Array Value→Prop}
 (hX:∀ (w w':World) (args:Array Value),w.heap=w'.heap→X w args→X w' args)
 (own:ownKnob C.prog.godebug=none) (started:os.Started) (noInit:C.prog.inits.idxOf? f=none) (hfn:C.prog.funcs[f]?=some fn)
 (witness : ∃ (w : World) (tape : Tape) (i : Input), w.os = os ∧ (w.forCall tape i).Shaped C.prog ∧ i.vars = [] ∧ Input.okWide C.prog (w.forCall tape i) .any w.heap.size f i∧
   ((s.pre enc C.prog fn conds apart (w.forCall tape i).memory i.args∧X (w.forCall tape i).memory i.args)∧sizedMet enc C.prog fn (OpenSpec.ofChange s) apart (w.forCall tape i).memory i.args)∧a.holds C.prog (lone (Frame.enter C.prog f i.args .normal) [] (w.forCall tape i)))
 (contract : ∀ (W : World) (base : Nat) (args : Array Value) (ds gs : List (DataW H)) (before : List MemPlace),
   (∀ (j:Nat) t v,fn.params[j]?=some t→args[j]?=some v→Value.okWide C.prog W .any base t v)→
   DataW.Whole enc C.prog fn.params.toList s.vars apart W args.toList ds gs before→
   (DataW.weightsEach C.prog (fn.params.toList++s.plain.varTypes C.prog) (ds++gs)).all (·≤reachBytes)=true→X W args→W.ShapedOpen C.prog→
   Calls C.prog f args W fun e W'=>∃ v,e=.returned v∧s.post enc C.prog fn apart fresh handsOn again W args v W') :
 ReturnsInHanded a C os f .any (fun w args=>(s.pre enc C.prog fn conds apart w args∧X w args)∧sizedMet enc C.prog fn (OpenSpec.ofChange s) apart w args) (s.post enc C.prog fn apart fresh handsOn again):=by
 refine returnsInHanded_of_calls own started noInit witness ?_;intro w tape i _ hsh _ hok hpre hholds;obtain ⟨_,_,_,fn',hfn',_,_,_,_,hval⟩:=hok;have e:fn'=fn:=XX (hfn'.symm.trans hfn);subst e;obtain ⟨⟨⟨ds,gs,before,hw,hc⟩,hx⟩,hz⟩:=hpre;have hw':=DataW.Whole.of_heap (w':=w.forCall tape i) (by rfl) hw;refine (contract (w.forCall tape i) w.heap.size i.args ds gs before hval hw' (hz.weights hw) (hX _ _ _ (by rfl) hx) hsh).mono fun e W' ⟨v,he,hp⟩=>?_
 subst he;exact ChangeSpec.post_blind hp
end
instance:Z3 UInt8 where
 k:=1
 enc:=fun b=>[.int .u8 (b.toNat:Int)]
 len:=fun _=>rfl
 one:=by intro x u hu;simp at hu;subst hu;rfl
section
variable {P:Program} {n:Nat} {e:Env} {w:World} {d:Option Nat} {ty:TypeId} {pos:String} {af:Array Edge} {g:Option (Nat×Bool)}
theorem ZbO {src dst el:TypeId} {x:Operand} {s:Str} [hs:Und P src .string] [hd:Und P dst (.slice el)] [he:Und P el (.int .u8)] (hx:ev e x=some (str s)) (hl:s.length≤1000000) :
 OE P n ⟨d,.convert src dst x,ty,pos,af,g⟩ e w (fun v w'=>(∀ X:List Nat,(∀ b∈X,b<w.heap.size)→SlV X w' v s)∧Stp [] w w'):=by
 refine Jd (v:=.slice (some ⟨w.heap.size,0,none⟩) s.length (grownCap w s.length 0 el)) (w':=Go.Lib.bytesWorld w el ⟨s.toArray⟩) (fun a ha=>?_) ⟨fun X hX=>?_,?_⟩;have h:=Go.Lib.run_convert_string_bytes (P:=P) w src dst el ⟨s.toArray⟩ hs.h hd.h he.h;simp only [Z0r] at h;simp [execOp,ha.ev hx,h];refine ⟨some ⟨w.heap.size,0,none⟩,_,rfl,grownCap_ge w _ _ _,grownCap_le_maxLen w _ _ _ (by simp [maxLen];omega),(fun h=>by cases h),fun i hi=>⟨w.heap.size,0,Z3.enc s[i],rfl,?_,fun h=>by have:=hX _ h;omega,rfl,fun j u hu=>?_⟩⟩;rw [Go.Lib.bytesWorld_size];omega;have hj:j=0:=by
  have:=(Xw.1 hu).1;simp [Z3.enc] at this;exact this
 subst hj;have hc:=Go.Lib.bytesWorld_cell w el ⟨s.toArray⟩ i (by rw [Z0r];exact hi);simp only [Z3.enc,List.getElem?_cons_zero,XD] at hu;subst hu;have e1:(0+i * Z7.k UInt8+0)=i:=by show 0+i * 1+0=i;omega
 rw [e1,hc];simp [List.getD,hi];refine ⟨rfl,rfl,rfl,?_,fun b hb _=>Go.Lib.bytesWorld_at_old w el _ b hb⟩;rw [Go.Lib.bytesWorld_size];omega
end
section
variable {P:Program} {n:Nat} {e:Env} {w:World} {d:Option Nat} {ty:TypeId} {pos:String} {af:Array Edge} {g:Option (Nat×Bool)}
theorem ZmU {src dst:TypeId} {k k':IntKind} {x:Operand} {a:Int} {D:TypeDesc} [hs:Und P src D] [hd:Und P dst (.int k)] (hx:ev e x=some (.int k' a)) :
 PR P n ⟨d,.convert src dst x,ty,pos,af,g⟩ e w (.int k (k.wrap a)):=
 ⟨fun c ha => by
   have hk:P.intKind dst=k:=by simp [Program.intKind,hd.h]
   have:=run_convert_int (P:=P) w src dst k' a (by rw [hs.h];rfl) (by rw [hk];exact hd.h);simp [execOp,ha.ev hx,this,hk]⟩
theorem Z4f {src dst:TypeId} {k k':IntKind} {x:Operand} {a b:Int} {D:TypeDesc} [hs:Und P src D] [hd:Und P dst (.int k)] (hx:ev e x=some (.int k' a)) (hb:k.wrap a=b) :
 PR P n ⟨d,.convert src dst x,ty,pos,af,g⟩ e w (.int k b):=hb ▸ ZmU hx
section
variable {x y:Operand} {t u:TypeId} {k:IntKind} {a b:Int}
end
end
end Go.Eng
namespace Go.Proofs.YtipfkbkkndacjaaGreatDoor
open Go Go.Eng Go.RowKit Go.Proofs
def Z5l:List Int:=[0,31,28,31,30,31,30,31,31,30,31,30,31]
def Z0E (w:World):Prop:=∀ i u,Z5l[i]?=some u→w.cell? ⟨3,i,none⟩=some (.I u)
theorem Z0E.ext {S:List Nat} {w w':World} (h:Z0E w) (hS:Stp S w w') (hb:3∉S):Z0E w':=fun i u hu=>hS.cell hb (h i u hu)
theorem Z0E.up {w w':World} (h:Z0E w) (hS:Stp [] w w'):Z0E w':=h.ext hS (by simp)
theorem Zju (y:Int) (w) (h0:0≤y) (h1:y≤100000):CC 314 #[.I y] w fun r w'=>r=.B (Z10 y)∧w'=w:=by
 unfold Z10;refine cW1 16 Tryz.func314 ?_;repeat'(first|refine W1 ?_|omega|refine VG ?_ ?_<;>intro hg|refine VC ?_ ?_<;>intro hc)
 all_goals refine WR ?_
 all_goals refine .mk ⟨?_,rfl⟩
 all_goals congr 1
 all_goals (first|done|(rw [Yac];simp;omega)|(simp [*]))
theorem Z33 (y m:Int) (w) (hL:Z0E w) (h0:0≤y) (h1:y≤100000):CC 262 #[.I y,.I m] w fun r w'=>r=.I (ZL y m)∧w'=w:=by
 unfold ZL;refine cW2 22 Tryz.func262 ?_;by_cases hm:m<1∨12<m
 · rw [if_pos hm]
   repeat'(first|refine W1 ?_|omega|refine VG ?_ ?_<;>intro hg|refine VC ?_ ?_<;>intro hc)
   all_goals refine WR ?_
   all_goals exact .mk ⟨rfl,rfl⟩
 rw [if_neg hm];obtain ⟨k,rfl⟩:∃ k:Nat,m=(k:Int):=⟨m.toNat,by omega⟩
 have hk:k<13:=by omega
 have hcell:w.cell? ⟨3,0+k * 1,none⟩=some (.I (Z5l.getD k 0)):=hL _ _ (by
  have:k<Z5l.length:=hk;simp [List.getD,this])
 by_cases h2:(k:Int)=2;rw [if_pos h2];refine QO ?_;refine CL (Zju y _ h0 h1) ?_;rintro _ _ ⟨rfl,rfl⟩;cases hl:Z10 y;refine W ?_;refine Z4 (Jw rfl rfl hcell) rfl ?_;refine W ?_;refine WR ?_;obtain rfl:k=2:=by omega
 exact .mk ⟨rfl,rfl⟩;refine RT ?_;exact ⟨rfl,rfl⟩;rw [if_neg h2];refine QO ?_;refine Z4 (Jw rfl rfl hcell) rfl ?_;refine W ?_;refine WR ?_;refine .mk ⟨?_,rfl⟩;congr 1;have:k=1∨k=3∨k=4∨k=5∨k=6∨k=7∨k=8∨k=9∨k=10∨k=11∨k=12:=by omega
 rcases this with rfl|rfl|rfl|rfl|rfl|rfl|rfl|rfl|rfl|rfl|rfl<;>rfl
abbrev Zjv (y m d:Int):Value:=.agg #[.I y,.I m,.I d]
def Z1U (y m d:Int):Prop:=y<1∨9999<y∨m<1∨12<m∨d<1∨ZL y m<d
instance (y m d:Int):Decidable (Z1U y m d):=by unfold Z1U;infer_instance
theorem ZdG (y m d:Int) (w) (hL:Z0E w):CC 336 #[Zjv y m d] w fun r w'=>r=.I (if Z1U y m d then 5 else 0)∧Stp [] w w':=by
 refine cW1 36 Tryz.func336 ?_;refine W ?_;refine Z1 (Zq rfl) rfl ?_;rintro _ w1 ⟨b,rfl,hb,hblk,hS⟩;replace hblk:Blk w1 b 132 [.I y,.I m,.I d]:=hblk;replace hL:=hL.up hS;refine W ?_;refine ZDr 33 [] [] [(0,0),(1,1),(2,0),(3,0),(4,0),(5,1),(6,0),(7,0),(8,0),(9,0),(10,1),(11,0),(12,0),(13,0),(14,0),(15,1),(16,0),(17,0),(18,0),(19,0),(20,1),(21,0),(22,0),(23,0),(24,0),(25,1),(26,0),(27,1),(28,0),(29,1),(30,2),(31,0),(32,0)] (fun w1 hS1=>?_);replace hblk:=hblk.up hS1;replace hL:=hL.up hS1;replace hS:=hS.trans hS1;clear hS1;by_cases hg:y<1∨9999<y∨m<1∨12<m∨d<1
 · have hbad:Z1U y m d:=by unfold Z1U;omega
   rw [if_pos hbad];repeat'(first|refine D1 ?_|omega|refine Zy rfl rfl rfl rfl (fun hg=>?_) (fun hg=>?_)|(refine Zr rfl rfl rfl rfl (fun hg=>?_) (fun hg=>?_)<;>refine D1 ?_)|fail)
   all_goals refine QO ?_
   all_goals refine WR ?_
   all_goals exact .mk ⟨rfl,hS⟩
 · refine QD ?_
   refine Zc rfl rfl (Zd rfl (Zh rfl rfl) (Z33 y m _ hL (by omega) (by omega))) (fun _ _ h=>by rw [h.2];exact Stp.refl _ _) rfl ?_;rintro _ w3 ⟨rfl,rfl⟩;refine QD ?_;all_goals (refine QP ?_ ?_<;>intro hc)
   refine RU ?_;exact ⟨by rw [if_pos (by unfold Z1U;omega)],hS⟩;refine RU ?_;exact ⟨by rw [if_neg (by unfold Z1U;omega)],hS⟩
theorem Z4Y (y m d:Int) (w) (hy:0≤y) (hy2:y≤100000) (hm:1≤m) (hm2:m≤12) (hd:0≤d) (hd2:d≤100000) (h1:m - 3<0→1≤y):CC 263 #[Zjv y m d] w fun r w'=>r=.I (Z04 y m d)∧Stp [] w w':=by
 refine cW1 36 Tryz.func263 ?_;refine W ?_;refine Z1 (Zq rfl) rfl ?_;rintro _ w1 ⟨b,rfl,hb,hblk,hS⟩;replace hblk:Blk w1 b 132 [.I y,.I m,.I d]:=hblk;refine W ?_;refine ZDr 7 [] [] [(0,0),(1,1),(2,0),(3,1),(4,0),(5,0),(6,0)] (fun w1 hS1=>?_);replace hblk:=hblk.up hS1;replace hS:=hS.trans hS1;clear hS1;refine D ?_
 (refine QP ?_ ?_<;>intro hc)
 all_goals refine WR ?_
 all_goals refine .mk ⟨?_,hS⟩
 all_goals unfold Z04
 rw [if_pos (by assumption)];congr 1;dsimp only;omega;rw [if_neg (by assumption)]
theorem Z7J (y m d:Int) (w) (hL:Z0E w):CC 304 #[Zjv y m d] w fun r w'=>r=.tuple #[.I (if Z1U y m d then 0 else Z04 y m d),.I (if Z1U y m d then 5 else 0)]∧Stp [] w w':=by
 refine cW1 12 Tryz.func304 ?_;refine W ?_;refine Z1 (Zq rfl) rfl ?_;rintro _ w1 ⟨b,rfl,hb,hblk,hS⟩;replace hblk:Blk w1 b 132 [.I y,.I m,.I d]:=hblk;replace hL:=hL.up hS;refine W ?_;refine CL (ZdG y m d _ hL) ?_;rintro _ w2 ⟨rfl,hT⟩;replace hblk:=hblk.up hT;replace hS:=hS.trans hT;clear hT;by_cases hbad:Z1U y m d;rw [if_pos hbad,if_pos hbad];refine RT ?_;exact ⟨rfl,hS⟩;rw [if_neg hbad,if_neg hbad];refine W ?_;have h31:=Z2Y y m;unfold Z1U at hbad;refine CM (ZX rfl) (Z4Y y m d _ (by omega) (by omega) (by omega) (by omega) (by omega) (by omega) (by omega)) ?_;rintro _ w3 ⟨rfl,hT⟩;refine RT ?_;exact ⟨rfl,hS.trans hT⟩
end Go.Proofs.YtipfkbkkndacjaaGreatDoor
namespace Go.Eng
open Go Go.RowKit Go.Proofs
def Z4Z (s:Str):Int:=s.foldl (fun n c=>10 * n+(c.toNat:Int) - 48) 0
theorem Z7K (a:Str) (c:UInt8):Z4Z (a++[c])=10 * Z4Z a+(c.toNat:Int) - 48:=by simp [Z4Z,YaF]
theorem Z7L {s:Str} (h:s.all J7=true):Z4Z s=(Z1E s:Int):=by
 have key:∀ (s:Str) (z:Int) (n:Nat),z=(n:Int)→s.all J7=true→s.foldl (fun n c=>10 * n+(c.toNat:Int) - 48) z=((s.foldl (fun n c=>10 * n+(c.toNat - 48)) n:Nat):Int):=by
  intro s
  induction s with
  | nil=>intro z n hz _;exact hz
  | cons c r ih=>
    intro z n hz h;simp only [YaZ,Xm] at h;have hc:48≤c.toNat∧c.toNat≤57:=by simpa [J7] using h.1
    exact ih _ _ (by dsimp only;omega) h.2
 exact key s 0 0 rfl h
def ZfR:Nat→Int
 | 0=>0
 | k+1=>10 * ZfR k+300
theorem ZbP:∀ (k:Nat) (s:Str),s.length=k→-ZfR k≤Z4Z s∧Z4Z s≤ZfR k
 | 0, s, h => by
   have:s=[]:=Xv.1 h;subst this;simp [Z4Z,ZfR]
 | k + 1, s, h => by
   have hne:s≠[]:=by rintro rfl;simp at h
   obtain ⟨a,c,rfl⟩:∃ a c,s=a++[c]:=⟨s.dropLast,s.getLast hne,(List.dropLast_concat_getLast hne).symm⟩
   have ih:=ZbP k a (by simpa using h);have hc:=c.toNat_lt;rw [Z7K];simp only [ZfR];omega
theorem ZmV {k:Nat} (h:k≤4):ZfR k≤400000:=by
 have:k=0∨k=1∨k=2∨k=3∨k=4:=by omega
 rcases this with rfl|rfl|rfl|rfl|rfl<;>decide
end Go.Eng
namespace Go.Proofs.YtipfkbkkndacjaaGreatDoor
open Go Go.Eng Go.RowKit Go.Proofs
theorem Z7M (s:Str) (f u bs be:Nat) (e0:Int) (w) (hfu:f≤u) (hu:u≤s.length) (h4:u≤f+4) (hne:bs≠be) (hs:Blk w bs 9 [str s]) (he:Blk w be 92 [.I e0]) :
 CC 326 #[.I (f:Int),.I (u:Int),pQ bs,pQ be] w
  fun r w'=>r=.I (Z4Z ((s.take u).drop f))∧Blk w' bs 9 [str s]∧Blk w' be 92 [.I (if ((s.take u).drop f).all J7 then e0 else 7)]∧Stp [be] w w':=by
 refine cW4 34 Tryz.func326 ?_;refine W ?_;refine Z58 rfl rfl rfl rfl rfl hfu hu rfl ?_;have hlen:((s.take u).drop f).length=u - f:=by simp;omega
 generalize (s.take u).drop f=t at *;refine Z1 (ZbO rfl (by omega)) rfl ?_;rintro bv w1 ⟨hb,hS⟩;have hlb:be<w.heap.size:=he.lt;have hbv:=hb [be] (by simpa using hlb);clear hb;replace hs:=hs.up hS;replace he:=he.up hS;replace hS:=hS.mono (S':=[be]) (by simp);refine W ?_
 refine Zu (σ:=Nat) (fun q=>[(2,pQ bs),(3,pQ be),(7,.I (Z4Z (t.take q))),(14,bv),(15,.I (t.length:Int)),(16,.I (q:Int))])
  (fun q w'=>q≤t.length∧SlV [be] w' bv t∧Blk w' bs 9 [str s]∧Blk w' be 92 [.I (if (t.take q).all J7 then e0 else 7)]∧Stp [be] w w')
  (fun q=>t.length - q) 0 ⟨rfl,rfl,rfl,rfl,rfl,rfl,trivial⟩ ⟨Xq _,hbv,hs,he,hS⟩ ?_
 clear hbv hs he hS;rintro q w2 ⟨hq,hbv,hs,he,hS⟩;have hbn:=ZbP q (t.take q) (by simp;omega);have hb4:=ZmV (k:=q) (by omega);by_cases hlt:q<t.length;have htk:t.take (q+1)=t.take q++[t[q]]:=(List.take_append_getElem hlt).symm;have hc:=(t[q]).toNat_lt;have hdg:J7 t[q]=true↔48≤(t[q]).toNat∧(t[q]).toNat≤57:=by simp [J7]
 have fin:∀ w3,SlV [be] w3 bv t→Blk w3 bs 9 [str s]→Blk w3 be 92 [.I (if J7 t[q]=true then (if (t.take q).all J7 then e0 else 7) else 7)]→Stp [be] w w3→
  (q+1≤t.length∧SlV [be] w3 bv t∧Blk w3 bs 9 [str s]∧Blk w3 be 92 [.I (if (t.take (q+1)).all J7 then e0 else 7)]∧Stp [be] w w3):=by
  intro w3 h1 h2 h3 h4;refine ⟨hlt,h1,h2,?_,h4⟩;rw [htk];have:((t.take q++[t[q]]).all J7)=((t.take q).all J7 && J7 t[q]):=by rw [List.all_append];simp only [YaZ,List.all_nil,Ybc]
  rw [this];by_cases hd:J7 t[q]=true;rw [if_pos hd] at h3;rw [hd,Ybc];exact h3;rw [if_neg hd] at h3;rw [Bool.not_eq_true] at hd;rw [hd,YbH];exact h3
 by_cases hd:J7 t[q]=true;have hd':=hdg.1 hd;refine QO ?_;refine Z4 (Z4f (b:=((t[q]).toNat:Int)) rfl (Z06 (by unfold I64;omega))) rfl ?_;refine W ?_;refine ZD (q+1) ⟨rfl,rfl,?_,rfl,rfl,rfl,trivial⟩ (fin _ hbv hs (by rw [if_pos hd];exact he) hS) (by omega);rw [htk,Z7K];rfl
 · have hd':(t[q]).toNat<48∨57<(t[q]).toNat:=by
    rcases Yas (t[q]).toNat 48 with h|h
    exact .inl h;rcases Yas 57 (t[q]).toNat with h'|h'
    exact .inr h';exact absurd (hdg.2 ⟨h,h'⟩) hd
   repeat'(first|refine W1 ?_|omega|refine VG ?_ ?_<;>intro hg|refine VC ?_ ?_<;>intro hc)
   all_goals
    refine SB (us:=[.I 7]) (by simp;rfl) he ?_;rintro _ w3 ⟨hT,he3⟩;refine W ?_;refine Z4 (Z4f (b:=((t[q]).toNat:Int)) rfl (Z06 (by unfold I64;omega))) rfl ?_;refine W ?_;refine ZD (q+1) ⟨rfl,rfl,?_,rfl,rfl,rfl,trivial⟩ (fin _ (hbv.ext hT (fun _ h=>h) (fun _ h=>.inl h)) (hs.ext hT (by simpa using hne)) (by rw [if_neg hd];exact he3) (hS.trans hT)) (by omega);rw [htk,Z7K];rfl
 have:q=t.length:=by omega
 subst this;rw [Xo] at *;refine RT ?_;exact ⟨rfl,hs,he,hS⟩
theorem Z5m (y m d:Int) (w):(Instr.build 132 #[(0,.I y),(1,.I m),(2,.I d)]).run Tryz.prog w=.ok (Zjv y m d) w:=by kernel_rfl
theorem ZdH (s:Str) (w) (hL:Z0E w) (hl:s.length=10):CC 277 #[str s] w fun r w'=>r=.tuple #[.I (Z1z s).1,.I (Z1z s).2]∧Stp [] w w':=by
 have h5:3<w.heap.size:=by have:=block_lt_of_cell (hL 0 0 rfl);simpa using this
 refine cW1 35 Tryz.func277 ?_;refine W ?_;refine Z1 (Zq rfl) rfl ?_;rintro _ w1 ⟨bs,rfl,hbs,es,hS⟩;replace es:Blk w1 bs 9 [str s]:=es;replace hL:=hL.up hS;have b45:∀ i,i<10→(Jc s i=45↔s.getD i 0=45):=fun i hi=>by
  unfold Jc;constructor;intro h;have h45:(45:UInt8).toNat=45:=rfl;have:(s.getD i 0).toNat=(45:UInt8).toNat:=by omega
  exact UInt8.toNat_inj.1 this;intro h;rw [h];rfl
 by_cases h45:Jc s 4=45∧Jc s 7=45;obtain ⟨h4,h7⟩:=h45;refine QO ?_;refine J5 (i:=4) rfl rfl rfl (by omega) rfl ?_;refine QO ?_;refine J5 (i:=7) rfl rfl rfl (by omega) rfl ?_;refine QO ?_;refine Z1 Z2 rfl ?_;rintro _ w2 ⟨be,rfl,hbe,ee,hT⟩;have nbe:bs≠be:=by have:=es.lt;omega
 replace es:=es.up hT;refine SB (us:=[.I 0]) (by simp;rfl) ee ?_;rintro _ w3 ⟨hT2,ee'⟩;have hbew:w.heap.size≤be:=Xg hS.size hbe;replace es:=es.ext hT2 (by simpa using nbe);replace hT:=hT.ow hT2;replace hL:=hL.up hT;replace hS:=hS.trans hT;clear hT hT2 ee hbe;refine W ?_;refine Z1 (Z0h rfl (Zh rfl rfl) rfl (Z7M s 0 4 bs be 0 _ (by omega) (by omega) (by omega) nbe es ee')) rfl ?_;rintro _ w4 ⟨rfl,es4,ee4,hT⟩;replace hL:=hL.ext hT (by simp only [Xl];omega);replace hS:=hS.ow hT;clear hT;refine W ?_;refine Z1 (Z0h rfl (Zh rfl rfl) rfl (Z7M s 5 7 bs be _ _ (by omega) (by omega) (by omega) nbe es4 ee4)) rfl ?_;rintro _ w5 ⟨rfl,es5,ee5,hT⟩;replace hL:=hL.ext hT (by simp only [Xl];omega);replace hS:=hS.ow hT;clear hT es4 ee4;refine W ?_;refine Z1 (Z0h rfl (Zh rfl rfl) rfl (Z7M s 8 10 bs be _ _ (by omega) (by omega) (by omega) nbe es5 ee5)) rfl ?_;rintro _ w6 ⟨rfl,es6,ee6,hT⟩;replace hL:=hL.ext hT (by simp only [Xl];omega);replace hS:=hS.ow hT;clear hT es5 ee5;have e0:(s.take 4).drop 0=s.take 4:=rfl;have e1:(s.take 7).drop 5=(s.drop 5).take 2:=by rw [Ybn]
 have e2:(s.take 10).drop 8=s.drop 8:=by rw [XH (by omega)]
 rw [e0,e1,e2] at ee6;rw [e0,e1,e2];refine Z8 (vs:=[(0,.I (Z4Z (s.take 4))),(1,.I (Z4Z ((s.drop 5).take 2))),(2,.I (Z4Z (s.drop 8)))]) rfl (Z5m _ _ _) rfl ?_;refine Z1 Z2 rfl ?_;rintro _ w7 ⟨bd,rfl,hbd,ed,hT⟩;have nbd:be≠bd:=by have:=ee6.lt;omega
 replace ee6:=ee6.up hT;refine Z5 (Z9 (us:=[.I (Z4Z (s.take 4)),.I (Z4Z ((s.drop 5).take 2)),.I (Z4Z (s.drop 8))]) rfl rfl rfl rfl (by intro c hc;simp at hc;rcases hc with rfl|rfl|rfl<;>rfl) ed rfl) ?_;rintro _ w8 ⟨hT2,ed'⟩;replace ee6:=ee6.ext hT2 (by simpa using nbd);replace hT:=hT.ow hT2;replace hL:=hL.up hT;replace hS:=hS.trans hT;clear hT hT2 ed hbd es6;by_cases hall:(s.take 4).all J7=true∧((s.drop 5).take 2).all J7=true∧(s.drop 8).all J7=true;obtain ⟨a1,a2,a3⟩:=hall;have hP:Z1z s=(let y:Int:=Z1E (s.take 4);let m:Int:=Z1E ((s.drop 5).take 2);let d:Int:=Z1E (s.drop 8);if Z1U y m d then (0,5) else (Z04 y m d,0)):=by
  unfold Z1z;rw [if_pos ⟨hl,(b45 4 (by omega)).1 h4,(b45 7 (by omega)).1 h7,a1,a2,a3⟩];rfl
 rw [if_pos a1,if_pos a2,if_pos a3] at ee6;rw [Z7L a1,Z7L a2,Z7L a3] at ed';refine W ?_;refine CL (Z7J _ _ _ _ hL) ?_;rintro _ w9 ⟨rfl,hT⟩;replace hS:=hS.trans hT;refine W ?_;refine WR ?_;refine .mk ⟨?_,hS⟩;rw [hP];dsimp only;split<;>rfl
 have hP:Z1z s=(0,7):=by
  unfold Z1z;rw [if_neg (fun h=>hall h.2.2.2)]
 have hE:(if (s.drop 8).all J7=true then (if ((s.drop 5).take 2).all J7=true then (if (s.take 4).all J7=true then (0:Int) else 7) else 7) else 7)=7:=by
  by_cases g3:(s.drop 8).all J7=true;rw [if_pos g3];by_cases g2:((s.drop 5).take 2).all J7=true;rw [if_pos g2];by_cases g1:(s.take 4).all J7=true;exact absurd ⟨g1,g2,g3⟩ hall;rw [if_neg g1];rw [if_neg g2];rw [if_neg g3]
 rw [hE] at ee6;refine W ?_;refine ZDr 3 [] [] [(0,1),(1,0),(2,0)] (fun w1 hS1=>?_);replace ee6:=ee6.up hS1;replace hS:=hS.trans hS1;refine D ?_;refine W ?_;refine WR ?_;rw [hP];exact .mk ⟨rfl,hS⟩;have hP:Z1z s=(0,7):=by
  unfold Z1z;rw [if_neg (fun h=>h45 ⟨(b45 4 (by omega)).2 h.2.1,(b45 7 (by omega)).2 h.2.2.1⟩)]
 by_cases h4:Jc s 4=45;have h7:¬ Jc s 7=45:=fun h=>h45 ⟨h4,h⟩;refine QO ?_;refine J5 (i:=4) rfl rfl rfl (by omega) rfl ?_;refine QO ?_;refine J5 (i:=7) rfl rfl rfl (by omega) rfl ?_;refine QO ?_;refine WR ?_;rw [hP];exact .mk ⟨rfl,hS⟩;refine QO ?_;refine J5 (i:=4) rfl rfl rfl (by omega) rfl ?_;refine QO ?_;refine WR ?_;rw [hP];exact .mk ⟨rfl,hS⟩
end Go.Proofs.YtipfkbkkndacjaaGreatDoor
namespace Go.Proofs
theorem fxT {P:Go.Program} {f:Nat} {a b:Go.Func} (h:P.funcs[f]?=some a) (e:a=b:=by kernel_rfl):P.funcs[f]?=some b:=h.trans (congrArg some e)
open Go.Shelf
def Tryz.lays119_ren:Go.Shelf.Ren:=⟨fun|119=>321|n=>n,fun|21=>21|4=>4|n=>n,fun|n=>n⟩
theorem Tryz.lays119:Go.Proofs.Lays.n119 Tryz.prog Tryz.lays119_ren:={
 mixed:=by kernel_rfl
 f119:=fxT Tryz.func321
 t4:=Tryz.underlying4
 a4:=Tryz.isAgg4
 z4:=Tryz.sizeOf4
 v4:=Tryz.zeroValue4
 t21:=Tryz.underlying21
 a21:=Tryz.isAgg21
 z21:=Tryz.sizeOf21
 v21:=Tryz.zeroValue21 }
theorem Tryz.utf8_ValidRune (r:Int) (w:World) :
 Calls Tryz.prog 321 #[.int .i32 r] w fun e w'=>e=.returned (.bool (Lib.validRune r))∧w'=w:=Any.utf8_ValidRune Tryz.lays119 r w
def Tryz.lays137_ren:Go.Shelf.Ren:=⟨fun|137=>273|217=>320|266=>348|n=>n,fun|9=>9|5=>5|3=>3|n=>n,fun|n=>n⟩
theorem Tryz.lays137:Go.Proofs.Lays.n137 Tryz.prog Tryz.lays137_ren:={
 mixed:=by kernel_rfl
 f137:=fxT Tryz.func273
 f217:=fxT Tryz.func320
 f266:=fxT Tryz.func348
 t3:=Tryz.underlying3
 a3:=Tryz.isAgg3
 z3:=Tryz.sizeOf3
 v3:=Tryz.zeroValue3
 t5:=Tryz.underlying5
 a5:=Tryz.isAgg5
 z5:=Tryz.sizeOf5
 v5:=Tryz.zeroValue5
 t9:=Tryz.underlying9
 a9:=Tryz.isAgg9
 z9:=Tryz.sizeOf9
 v9:=Tryz.zeroValue9 }
open Go.RowKit in
theorem Tryz.strings_IndexByte (s:ByteArray) (c:Int) (w:World) :
 Calls Tryz.prog 273 #[.string s,.int .u8 c] w fun e w'=>e=.returned (.int .i64 (Lib.indexByte s.data.toList c.toNat.toUInt8))∧w'=w:=Any.strings_IndexByte Tryz.lays137 s c w
def Tryz.lays215_ren:Go.Shelf.Ren:=⟨fun|215=>125|n=>n,fun|3=>3|4=>4|n=>n,fun|n=>n⟩
def Tryz.lays122_ren:Go.Shelf.Ren:=⟨fun|122=>75|215=>125|n=>n,fun|3=>3|4=>4|n=>n,fun|n=>n⟩
theorem Tryz.lays122:Go.Proofs.Lays.n122 Tryz.prog Tryz.lays122_ren:={
 mixed:=by kernel_rfl
 f122:=fxT Tryz.func75
 f215:=fxT Tryz.func125
 t3:=Tryz.underlying3
 a3:=Tryz.isAgg3
 z3:=Tryz.sizeOf3
 v3:=Tryz.zeroValue3
 t4:=Tryz.underlying4
 a4:=Tryz.isAgg4
 z4:=Tryz.sizeOf4
 v4:=Tryz.zeroValue4 }
open Go.RowKit in
theorem Tryz.cmp_Compare_int (x y:Int) (w:World) :
 Calls Tryz.prog 75 #[.int .i64 x,.int .i64 y] w fun e w'=>e=.returned (.int .i64 (Lib.compareInt x y))∧w'=w:=Any.cmp_Compare_int Tryz.lays122 x y w
def Tryz.lays172_ren:Go.Shelf.Ren:=⟨fun|172=>276|244=>324|245=>325|247=>349|279=>350|280=>351|281=>352|282=>353|287=>362|316=>363|171=>62|205=>364|321=>368|322=>369|243=>94|246=>172|283=>235|284=>236|285=>237|286=>238|129=>124|317=>291|318=>292|319=>293|320=>294|337=>331|338=>332|n=>n,fun|9=>9|3=>3|75=>197|76=>198|4=>4|5=>5|167=>389|37=>192|0=>0|85=>390|2=>2|168=>392|53=>222|175=>401|46=>157|210=>405|127=>251|145=>412|143=>410|21=>21|171=>301|173=>303|212=>360|51=>220|20=>20|213=>361|232=>395|233=>396|80=>200|n=>n,fun|15=>7|16=>8|17=>1|18=>5|19=>6|n=>n⟩
def Tryz.laysC172_ren:Go.Shelf.Ren:=⟨fun|172=>276|244=>324|245=>325|247=>349|279=>350|280=>351|281=>352|282=>353|287=>362|316=>363|171=>62|205=>364|321=>368|322=>369|243=>94|246=>172|283=>235|284=>236|285=>237|286=>238|129=>124|317=>291|318=>292|319=>293|320=>294|337=>331|338=>332|n=>n,fun|9=>9|3=>3|75=>197|76=>198|4=>4|5=>5|167=>389|37=>192|0=>0|85=>390|2=>2|168=>392|53=>222|175=>401|46=>157|210=>405|127=>251|145=>412|143=>410|21=>21|171=>301|173=>303|212=>360|51=>220|20=>20|213=>361|232=>395|233=>396|80=>200|n=>n,fun|15=>7|16=>8|17=>1|18=>5|19=>6|n=>n⟩
theorem Tryz.laysC172:Go.Proofs.LaysC.n172 Tryz.prog Tryz.laysC172_ren:={
 mixed:=by kernel_rfl
 f129:=fxT Tryz.func124
 f171:=fxT Tryz.func62
 f172:=fxT Tryz.func276
 f205:=fxT Tryz.func364
 f243:=fxT Tryz.func94
 f244:=fxT Tryz.func324
 f245:=fxT Tryz.func325
 f246:=fxT Tryz.func172
 f247:=fxT Tryz.func349
 f279:=fxT Tryz.func350
 f280:=fxT Tryz.func351
 f281:=fxT Tryz.func352
 f282:=fxT Tryz.func353
 f283:=fxT Tryz.func235
 f284:=fxT Tryz.func236
 f285:=fxT Tryz.func237
 f286:=fxT Tryz.func238
 f287:=fxT Tryz.func362
 f316:=fxT Tryz.func363
 f317:=fxT Tryz.func291
 f318:=fxT Tryz.func292
 f319:=fxT Tryz.func293
 f320:=fxT Tryz.func294
 f321:=fxT Tryz.func368
 f322:=fxT Tryz.func369
 f337:=fxT Tryz.func331
 f338:=fxT Tryz.func332
 t0:=Tryz.underlying0
 a0:=Tryz.isAgg0
 z0:=Tryz.sizeOf0
 v0:=Tryz.zeroValue0
 t2:=Tryz.underlying2
 a2:=Tryz.isAgg2
 z2:=Tryz.sizeOf2
 v2:=Tryz.zeroValue2
 t3:=Tryz.underlying3
 a3:=Tryz.isAgg3
 z3:=Tryz.sizeOf3
 v3:=Tryz.zeroValue3
 t4:=Tryz.underlying4
 a4:=Tryz.isAgg4
 z4:=Tryz.sizeOf4
 v4:=Tryz.zeroValue4
 t5:=Tryz.underlying5
 a5:=Tryz.isAgg5
 z5:=Tryz.sizeOf5
 v5:=Tryz.zeroValue5
 t9:=Tryz.underlying9
 a9:=Tryz.isAgg9
 z9:=Tryz.sizeOf9
 v9:=Tryz.zeroValue9
 t20:=Tryz.underlying20
 a20:=Tryz.isAgg20
 z20:=Tryz.sizeOf20
 v20:=Tryz.zeroValue20
 t21:=Tryz.underlying21
 a21:=Tryz.isAgg21
 z21:=Tryz.sizeOf21
 v21:=Tryz.zeroValue21
 t37:=Tryz.underlying192
 a37:=Tryz.isAgg192
 z37:=Tryz.sizeOf192
 v37:=Tryz.zeroValue192
 t46:=Tryz.underlying157
 a46:=Tryz.isAgg157
 z46:=Tryz.sizeOf157
 v46:=Tryz.zeroValue157
 t51:=Tryz.underlying220
 a51:=Tryz.isAgg220
 z51:=Tryz.sizeOf220
 v51:=Tryz.zeroValue220
 t53:=Tryz.underlying222
 a53:=Tryz.isAgg222
 z53:=Tryz.sizeOf222
 v53:=Tryz.zeroValue222
 t75:=Tryz.underlying197
 a75:=Tryz.isAgg197
 z75:=Tryz.sizeOf197
 v75:=Tryz.zeroValue197
 t76:=Tryz.underlying198
 a76:=Tryz.isAgg198
 z76:=Tryz.sizeOf198
 v76:=Tryz.zeroValue198
 t85:=Tryz.underlying390
 a85:=Tryz.isAgg390
 z85:=Tryz.sizeOf390
 v85:=Tryz.zeroValue390
 t127:=Tryz.underlying251
 a127:=Tryz.isAgg251
 z127:=Tryz.sizeOf251
 v127:=Tryz.zeroValue251
 t143:=Tryz.underlying410
 a143:=Tryz.isAgg410
 z143:=Tryz.sizeOf410
 v143:=Tryz.zeroValue410
 t145:=Tryz.underlying412
 a145:=Tryz.isAgg412
 z145:=Tryz.sizeOf412
 v145:=Tryz.zeroValue412
 t167:=Tryz.underlying389
 a167:=Tryz.isAgg389
 z167:=Tryz.sizeOf389
 v167:=Tryz.zeroValue389
 t168:=Tryz.underlying392
 a168:=Tryz.isAgg392
 z168:=Tryz.sizeOf392
 v168:=Tryz.zeroValue392
 t171:=Tryz.underlying301
 a171:=Tryz.isAgg301
 z171:=Tryz.sizeOf301
 v171:=Tryz.zeroValue301
 t173:=Tryz.underlying303
 a173:=Tryz.isAgg303
 z173:=Tryz.sizeOf303
 v173:=Tryz.zeroValue303
 t175:=Tryz.underlying401
 a175:=Tryz.isAgg401
 z175:=Tryz.sizeOf401
 v175:=Tryz.zeroValue401
 t210:=Tryz.underlying405
 a210:=Tryz.isAgg405
 z210:=Tryz.sizeOf405
 v210:=Tryz.zeroValue405
 t212:=Tryz.underlying360
 a212:=Tryz.isAgg360
 z212:=Tryz.sizeOf360
 v212:=Tryz.zeroValue360
 t213:=Tryz.underlying361
 a213:=Tryz.isAgg361
 z213:=Tryz.sizeOf361
 t232:=Tryz.underlying395
 a232:=Tryz.isAgg395
 z232:=Tryz.sizeOf395
 v232:=Tryz.zeroValue395
 t233:=Tryz.underlying396
 a233:=Tryz.isAgg396
 z233:=Tryz.sizeOf396
 v233:=Tryz.zeroValue396
 g15:=by kernel_rfl
 g16:=by kernel_rfl
 g17:=by kernel_rfl
 g18:=by kernel_rfl
 g19:=by kernel_rfl
 t80:=Tryz.underlying200
 a80:=Tryz.isAgg200
 z80:=Tryz.sizeOf200
 v80:=Tryz.zeroValue200
 i0:=by kernel_rfl
 i2:=by kernel_rfl
 i3:=by kernel_rfl
 i4:=by kernel_rfl
 i5:=by kernel_rfl
 i9:=by kernel_rfl
 i20:=by kernel_rfl
 i21:=by kernel_rfl
 i37:=by kernel_rfl
 i46:=by kernel_rfl
 i51:=by kernel_rfl
 i53:=by kernel_rfl
 i75:=by kernel_rfl
 i76:=by kernel_rfl
 i80:=by kernel_rfl
 i85:=by kernel_rfl
 i127:=by kernel_rfl
 i143:=by kernel_rfl
 i145:=by kernel_rfl
 i167:=by kernel_rfl
 i168:=by kernel_rfl
 i171:=by kernel_rfl
 i173:=by kernel_rfl
 i175:=by kernel_rfl
 i210:=by kernel_rfl
 i212:=by kernel_rfl
 i232:=by kernel_rfl
 i233:=by kernel_rfl
 m15:=by kernel_rfl
 m16:=by kernel_rfl
 m17:=by kernel_rfl
 m18:=by kernel_rfl
 m19:=by kernel_rfl
 c0:=by kernel_rfl
 c2:=by kernel_rfl
 c3:=by kernel_rfl
 c4:=by kernel_rfl
 c5:=by kernel_rfl
 c9:=by kernel_rfl
 c20:=by kernel_rfl
 c21:=by kernel_rfl
 c37:=by kernel_rfl
 c46:=by kernel_rfl
 c51:=by kernel_rfl
 c53:=by kernel_rfl
 c75:=by kernel_rfl
 c76:=by kernel_rfl
 c80:=by kernel_rfl
 c85:=by kernel_rfl
 c127:=by kernel_rfl
 c143:=by kernel_rfl
 c145:=by kernel_rfl
 c167:=by kernel_rfl
 c168:=by kernel_rfl
 c171:=by kernel_rfl
 c173:=by kernel_rfl
 c175:=by kernel_rfl
 c210:=by kernel_rfl
 c212:=by kernel_rfl
 c213:=by kernel_rfl
 c232:=by kernel_rfl
 c233:=by kernel_rfl }
open Go.RowKit in
theorem Tryz.strconv_Atoi_ok (s:ByteArray) (hmax:s.size≤9223372036854775806) (v:Int) (h:Lib.atoiAll s.data.toList=.ok v) (w:World) :
 Calls Tryz.prog 276 #[.string s] w fun e w'=>e=.returned (.tuple #[.int .i64 v,.nilIface])∧(w'=w∨∃ t,w'=Lib.bytesWorld w 5 t):=Any.strconv_Atoi_ok Tryz.laysC172 s hmax v h w
open Go.RowKit in
theorem Tryz.strconv_Atoi_range (s:ByteArray) (hlim:s.size≤281474976710656) (h:Lib.atoiAll s.data.toList=.range) (ev:Value) (w:World) (hv:w.cell? ⟨8,0,none⟩=some ev) (hev:ev=.nilIface∨∃ te pe,ev=.iface te pe) :
 Calls Tryz.prog 276 #[.string s] w fun e w'=>∃ N,e=.returned (.tuple #[.int .i64 (Lib.atoiSat s.data.toList),.iface 392 (.pointer (some ⟨N,0,none⟩))])∧w.heap.size≤N∧w'.heap[N]?=some (.cells #[.string ⟨#[65,116,111,105]⟩,.string s,ev] 405 (0,0))∧Below w.heap.size w w':=Any.strconv_Atoi_range Tryz.laysC172 s hlim h ev w hv hev
def Tryz.lays219_ren:Go.Shelf.Ren:=⟨fun|219=>330|217=>320|225=>323|224=>322|267=>355|266=>348|314=>365|n=>n,fun|9=>9|3=>3|4=>4|5=>5|46=>157|146=>247|51=>220|n=>n,fun|1=>2|n=>n⟩
def Tryz.lays144_ren:Go.Shelf.Ren:=⟨fun|144=>227|143=>281|219=>330|217=>320|225=>323|224=>322|267=>355|266=>348|314=>365|n=>n,fun|9=>9|4=>4|3=>3|5=>5|46=>157|146=>247|51=>220|n=>n,fun|1=>2|n=>n⟩
theorem Tryz.lays144:Go.Proofs.Lays.n144 Tryz.prog Tryz.lays144_ren:={
 mixed:=by kernel_rfl
 f143:=fxT Tryz.func281
 f144:=fxT Tryz.func227
 f217:=fxT Tryz.func320
 f219:=fxT Tryz.func330
 f224:=fxT Tryz.func322
 f225:=fxT Tryz.func323
 f266:=fxT Tryz.func348
 f267:=fxT Tryz.func355
 f314:=fxT Tryz.func365
 t3:=Tryz.underlying3
 a3:=Tryz.isAgg3
 z3:=Tryz.sizeOf3
 v3:=Tryz.zeroValue3
 t4:=Tryz.underlying4
 a4:=Tryz.isAgg4
 z4:=Tryz.sizeOf4
 v4:=Tryz.zeroValue4
 t5:=Tryz.underlying5
 a5:=Tryz.isAgg5
 z5:=Tryz.sizeOf5
 v5:=Tryz.zeroValue5
 t9:=Tryz.underlying9
 a9:=Tryz.isAgg9
 z9:=Tryz.sizeOf9
 v9:=Tryz.zeroValue9
 t46:=Tryz.underlying157
 a46:=Tryz.isAgg157
 z46:=Tryz.sizeOf157
 v46:=Tryz.zeroValue157
 t51:=Tryz.underlying220
 a51:=Tryz.isAgg220
 z51:=Tryz.sizeOf220
 v51:=Tryz.zeroValue220
 t146:=Tryz.underlying247
 a146:=Tryz.isAgg247
 z146:=Tryz.sizeOf247
 v146:=Tryz.zeroValue247
 g1:=by kernel_rfl }
open Go.RowKit Go.Lib in
theorem Tryz.strings_Contains (s sub:ByteArray) (m:Int) (w:World) (hs:s.size<4294967281) (hm:w.cell? ⟨2,0,none⟩=some (.int .i64 m)) :
 Calls Tryz.prog 227 #[.string s,.string sub] w fun e w'=>e=.returned (.bool (Lib.contains s.data.toList sub.data.toList))∧w'=w:=Any.strings_Contains Tryz.lays144 s sub m w hs hm
def Tryz.laysM144_ren:Go.Shelf.Ren:=⟨fun|144=>227|143=>281|219=>330|217=>320|225=>323|224=>322|267=>355|266=>348|314=>365|n=>n,fun|9=>9|4=>4|3=>3|5=>5|46=>157|146=>247|51=>220|n=>n,fun|1=>2|n=>n⟩
theorem Tryz.laysM144:Go.Proofs.LaysM.n144 Tryz.prog Tryz.laysM144_ren:={
 mixed:=by kernel_rfl
 f143:=fxT Tryz.func281
 f144:=fxT Tryz.func227
 f217:=fxT Tryz.func320
 f219:=fxT Tryz.func330
 f224:=fxT Tryz.func322
 f225:=fxT Tryz.func323
 f266:=fxT Tryz.func348
 f267:=fxT Tryz.func355
 f314:=fxT Tryz.func365
 t3:=Tryz.underlying3
 a3:=Tryz.isAgg3
 z3:=Tryz.sizeOf3
 v3:=Tryz.zeroValue3
 t4:=Tryz.underlying4
 a4:=Tryz.isAgg4
 z4:=Tryz.sizeOf4
 v4:=Tryz.zeroValue4
 t5:=Tryz.underlying5
 a5:=Tryz.isAgg5
 z5:=Tryz.sizeOf5
 v5:=Tryz.zeroValue5
 t9:=Tryz.underlying9
 a9:=Tryz.isAgg9
 z9:=Tryz.sizeOf9
 v9:=Tryz.zeroValue9
 t46:=Tryz.underlying157
 a46:=Tryz.isAgg157
 z46:=Tryz.sizeOf157
 v46:=Tryz.zeroValue157
 t51:=Tryz.underlying220
 a51:=Tryz.isAgg220
 z51:=Tryz.sizeOf220
 v51:=Tryz.zeroValue220
 t146:=Tryz.underlying247
 a146:=Tryz.isAgg247
 z146:=Tryz.sizeOf247
 v146:=Tryz.zeroValue247
 g1:=by kernel_rfl
 i3:=by kernel_rfl
 i4:=by kernel_rfl
 i5:=by kernel_rfl
 i9:=by kernel_rfl
 i46:=by kernel_rfl
 i51:=by kernel_rfl
 i146:=by kernel_rfl
 m1:=by kernel_rfl
 s1_3:=fun w h=>Go.Proofs.cell_of_shapedOpen_int (zero:=#[.int .i64 0]) (t:=3) h (of_decide_eq_true (by kernel_rfl)) (by kernel_rfl) rfl (by kernel_rfl) (by kernel_rfl) Tryz.underlying3 }
def Tryz.lays189_ren:Go.Shelf.Ren:=⟨fun|189=>259|125=>73|257=>313|128=>123|129=>124|294=>337|295=>338|296=>339|297=>340|298=>341|299=>342|216=>343|300=>344|301=>345|328=>357|329=>197|330=>198|331=>358|332=>359|215=>125|343=>366|n=>n,fun|28=>23|3=>3|46=>157|0=>0|51=>220|53=>222|4=>4|183=>214|182=>213|131=>57|5=>5|9=>9|218=>271|222=>275|228=>327|229=>283|n=>n,fun|n=>n⟩
theorem Tryz.lays189:Go.Proofs.Lays.n189 Tryz.prog Tryz.lays189_ren:={
 mixed:=by kernel_rfl
 f125:=fxT Tryz.func73
 f128:=fxT Tryz.func123
 f129:=fxT Tryz.func124
 f189:=fxT Tryz.func259
 f215:=fxT Tryz.func125
 f216:=fxT Tryz.func343
 f257:=fxT Tryz.func313
 f294:=fxT Tryz.func337
 f295:=fxT Tryz.func338
 f296:=fxT Tryz.func339
 f297:=fxT Tryz.func340
 f298:=fxT Tryz.func341
 f299:=fxT Tryz.func342
 f300:=fxT Tryz.func344
 f301:=fxT Tryz.func345
 f328:=fxT Tryz.func357
 f329:=fxT Tryz.func197
 f330:=fxT Tryz.func198
 f331:=fxT Tryz.func358
 f332:=fxT Tryz.func359
 f343:=fxT Tryz.func366
 t0:=Tryz.underlying0
 a0:=Tryz.isAgg0
 z0:=Tryz.sizeOf0
 v0:=Tryz.zeroValue0
 t3:=Tryz.underlying3
 a3:=Tryz.isAgg3
 z3:=Tryz.sizeOf3
 v3:=Tryz.zeroValue3
 t4:=Tryz.underlying4
 a4:=Tryz.isAgg4
 z4:=Tryz.sizeOf4
 v4:=Tryz.zeroValue4
 t5:=Tryz.underlying5
 a5:=Tryz.isAgg5
 z5:=Tryz.sizeOf5
 v5:=Tryz.zeroValue5
 t9:=Tryz.underlying9
 a9:=Tryz.isAgg9
 z9:=Tryz.sizeOf9
 v9:=Tryz.zeroValue9
 t28:=Tryz.underlying23
 a28:=Tryz.isAgg23
 z28:=Tryz.sizeOf23
 v28:=Tryz.zeroValue23
 t46:=Tryz.underlying157
 a46:=Tryz.isAgg157
 z46:=Tryz.sizeOf157
 v46:=Tryz.zeroValue157
 t51:=Tryz.underlying220
 a51:=Tryz.isAgg220
 z51:=Tryz.sizeOf220
 v51:=Tryz.zeroValue220
 t53:=Tryz.underlying222
 a53:=Tryz.isAgg222
 z53:=Tryz.sizeOf222
 v53:=Tryz.zeroValue222
 t131:=Tryz.underlying57
 a131:=Tryz.isAgg57
 z131:=Tryz.sizeOf57
 v131:=Tryz.zeroValue57
 t182:=Tryz.underlying213
 a182:=Tryz.isAgg213
 z182:=Tryz.sizeOf213
 v182:=Tryz.zeroValue213
 t183:=Tryz.underlying214
 a183:=Tryz.isAgg214
 z183:=Tryz.sizeOf214
 v183:=Tryz.zeroValue214
 t218:=Tryz.underlying271
 a218:=Tryz.isAgg271
 z218:=Tryz.sizeOf271
 v218:=Tryz.zeroValue271
 t222:=Tryz.underlying275
 a222:=Tryz.isAgg275
 z222:=Tryz.sizeOf275
 v222:=Tryz.zeroValue275
 t228:=Tryz.underlying327
 a228:=Tryz.isAgg327
 z228:=Tryz.sizeOf327
 v228:=Tryz.zeroValue327
 t229:=Tryz.underlying283
 a229:=Tryz.isAgg283
 z229:=Tryz.sizeOf283
 v229:=Tryz.zeroValue283 }
open Go.Sort Go.RowKit in
theorem Tryz.slices_Sort_int (blk off cap:Nat) (zs:List Int) (w:World) (hH:Holds (Value.int .i64) w blk off zs.toArray) (hblk:blk<w.heap.size) (hsz:zs.length<4611686018427387904) :
 Calls Tryz.prog 259 #[.slice (some ⟨blk,off,none⟩) zs.length cap] w fun e w'=>
  e=.returned (.tuple #[])∧∃ n os,w'=grow (putRow (Value.int .i64) (Sort.ahead w n) blk off (zs.mergeSort fun x y=>decide (x≤y)).toArray) os:=Any.slices_Sort_int Tryz.lays189 blk off cap zs w hH hblk hsz
def Tryz.lays206_ren:Go.Shelf.Ren:=⟨fun|206=>175|n=>n,fun|9=>9|4=>4|3=>3|n=>n,fun|n=>n⟩
def Tryz.lays99_ren:Go.Shelf.Ren:=⟨fun|99=>96|206=>175|n=>n,fun|9=>9|4=>4|3=>3|n=>n,fun|n=>n⟩
theorem Tryz.lays99:Go.Proofs.Lays.n99 Tryz.prog Tryz.lays99_ren:={
 mixed:=by kernel_rfl
 f99:=fxT Tryz.func96
 f206:=fxT Tryz.func175
 t3:=Tryz.underlying3
 a3:=Tryz.isAgg3
 z3:=Tryz.sizeOf3
 v3:=Tryz.zeroValue3
 t4:=Tryz.underlying4
 a4:=Tryz.isAgg4
 z4:=Tryz.sizeOf4
 v4:=Tryz.zeroValue4
 t9:=Tryz.underlying9
 a9:=Tryz.isAgg9
 z9:=Tryz.sizeOf9
 v9:=Tryz.zeroValue9 }
open Go.RowKit Go.Lib in
theorem Tryz.strings_HasPrefix (s p:ByteArray) (w:World) :
 Calls Tryz.prog 96 #[.string s,.string p] w fun e w'=>e=.returned (.bool (Lib.hasPrefix s.data.toList p.data.toList))∧w'=w:=Any.strings_HasPrefix Tryz.lays99 s p w
def Tryz.lays151_ren:Go.Shelf.Ren:=⟨fun|151=>216|152=>274|137=>273|119=>321|224=>322|225=>323|217=>320|266=>348|n=>n,fun|9=>9|21=>21|4=>4|3=>3|5=>5|0=>0|46=>157|n=>n,fun|n=>n⟩
theorem Tryz.lays151:Go.Proofs.Lays.n151 Tryz.prog Tryz.lays151_ren:={
 mixed:=by kernel_rfl
 f119:=fxT Tryz.func321
 f137:=fxT Tryz.func273
 f151:=fxT Tryz.func216
 f152:=fxT Tryz.func274
 f217:=fxT Tryz.func320
 f224:=fxT Tryz.func322
 f225:=fxT Tryz.func323
 f266:=fxT Tryz.func348
 t0:=Tryz.underlying0
 a0:=Tryz.isAgg0
 z0:=Tryz.sizeOf0
 v0:=Tryz.zeroValue0
 t3:=Tryz.underlying3
 a3:=Tryz.isAgg3
 z3:=Tryz.sizeOf3
 v3:=Tryz.zeroValue3
 t4:=Tryz.underlying4
 a4:=Tryz.isAgg4
 z4:=Tryz.sizeOf4
 v4:=Tryz.zeroValue4
 t5:=Tryz.underlying5
 a5:=Tryz.isAgg5
 z5:=Tryz.sizeOf5
 v5:=Tryz.zeroValue5
 t9:=Tryz.underlying9
 a9:=Tryz.isAgg9
 z9:=Tryz.sizeOf9
 v9:=Tryz.zeroValue9
 t21:=Tryz.underlying21
 a21:=Tryz.isAgg21
 z21:=Tryz.sizeOf21
 v21:=Tryz.zeroValue21
 t46:=Tryz.underlying157
 a46:=Tryz.isAgg157
 z46:=Tryz.sizeOf157
 v46:=Tryz.zeroValue157 }
open Go.RowKit Go.Lib in
theorem Tryz.strings_ContainsRune_ascii (s:ByteArray) (r:Int) (w:World) (h0:0≤r) (h1:r<128) :
 Calls Tryz.prog 216 #[.string s,.int .i32 r] w fun e w'=>e=.returned (.bool (decide (0≤Lib.indexByte s.data.toList r.toNat.toUInt8)))∧w'=w:=Any.strings_ContainsRune_ascii Tryz.lays151 s r w h0 h1
def Tryz.laysNm220_ren:Go.Shelf.Ren:=⟨fun|20=>260|n=>n,fun|22=>23|3=>3|4=>4|0=>0|n=>n,fun|n=>n⟩
theorem Tryz.laysNm220:Go.Proofs.Lays2.n20 Tryz.prog Tryz.laysNm220_ren:={
 mixed:=by kernel_rfl
 f20:=fxT Tryz.func260
 t0:=Tryz.underlying0
 a0:=Tryz.isAgg0
 z0:=Tryz.sizeOf0
 v0:=Tryz.zeroValue0
 t3:=Tryz.underlying3
 a3:=Tryz.isAgg3
 z3:=Tryz.sizeOf3
 v3:=Tryz.zeroValue3
 t4:=Tryz.underlying4
 a4:=Tryz.isAgg4
 z4:=Tryz.sizeOf4
 v4:=Tryz.zeroValue4
 t22:=Tryz.underlying23
 a22:=Tryz.isAgg23
 z22:=Tryz.sizeOf23
 v22:=Tryz.zeroValue23
 i3:=by kernel_rfl }
open Go.RowKit Go.Lib Go.Sort in
theorem Tryz.slices_Compact_int (blk off cap:Nat) (zs:List Int) (w:World) (hH:Holds (Value.int .i64) w blk off zs.toArray) (hsz:zs.length≤9223372036854775807) (hcap:zs.length≤cap) :
 Calls Tryz.prog 260 #[.slice (some ⟨blk,off,none⟩) zs.length cap] w fun e w'=>e=.returned (.slice (some ⟨blk,off,none⟩) (Lib.compact zs).length cap)∧∃ q,w'=putRow (Value.int .i64) (Sort.ahead w q) blk off (Lib.compact zs++List.replicate (zs.length - (Lib.compact zs).length) 0).toArray:=Any.slices_Compact_int Tryz.laysNm220 blk off cap zs w hH hsz hcap
open Go.RowKit Go.Lib Go.Sort in
theorem Tryz.slices_Compact_int_empty (a:Option Addr) (cap:Nat) (w:World) :
 Calls Tryz.prog 260 #[.slice a 0 cap] w fun e w'=>e=.returned (.slice a 0 cap)∧w'=w:=Any.slices_Compact_int_empty Tryz.laysNm220 a cap w
open Go.RowKit Go.Sort in
theorem Tryz.slices_Sort_int_none (p:Option Addr) (cap:Nat) (w:World) :
 Calls Tryz.prog 259 #[.slice p 0 cap] w fun e w'=>e=.returned (.tuple #[])∧w'=w:=Any.slices_Sort_int_none Tryz.lays189 p cap w
end Go.Proofs
namespace Go.Eng
open Go Go.RowKit Go.Proofs
structure Fl where
 i:Nat
 d:Nat
 T:Nat
 z:Value
section rules
variable {P:Program} {n:Nat} {ops:Array Oper} {Lt:List Nat} {Q:Exit→Act→World→Prop} {F:List Fl} {rest join:List (Nat×Nat)} {e:Env} {J:World→List Nat→Prop}
variable {i d:Nat} {op:Op} {ty:TypeId} {pos:String} {af:Array Edge} {gd:Option (Nat×Bool)} {v:Value}
end rules
section
variable {P:Program} {n:Nat} {Q:Exit→Act→World→Prop} {e:Env} {w:World}
theorem Z7N {c:Code} (h:WC P n c (Exit.noGoto Q) e w):WC P n (.scope c) Q e w:=⟨fun a ha=>wp_scope_straight (h.h a ha)⟩
theorem Zjw {l:Nat} (h:WQ n Q .normal e w):WC P n (.label l) Q e w:=⟨fun a ha=>wp_label (h.h a ha)⟩
theorem JS (h:WQ n Q .ret e w):WQ n (Exit.noGoto Q) .ret e w:=⟨fun a ha=>h.h a ha⟩
theorem JZ {i:Nat} (h:WQ n Q (.exit i) e w):WQ n (Exit.noGoto Q) (.exit i) e w:=⟨fun a ha=>h.h a ha⟩
end
def Z0c:Str:=[9,10,13,32]
theorem Z7O (c:UInt8):Z61 c=decide (c∈Z0c):=by
 unfold Z61 Z0c;rw [Yac];simp [or_assoc]
theorem Z7P (l:Str) (c:UInt8):decide (0≤Lib.indexByte l c)=decide (c∈l):=by
 rw [decide_eq_decide]
 induction l with
 | nil=>simp [Lib.indexByte]
 | cons a r ih=>
   unfold Lib.indexByte;by_cases h:a=c;subst h;simp;have hb:(a == c)=false:=by simpa using h
   rw [hb];simp only [XP,if_false,Xb];have hge:=Lib.indexByte_ge r c;have h':¬ c=a:=fun e=>h e.symm;split;rename_i h1;have:Lib.indexByte r c=-1:=by simpa using h1
   rw [← ih];simp [h'];omega;rename_i h1;have h2:¬ Lib.indexByte r c=-1:=by simpa using h1
   have:0≤Lib.indexByte r c:=by omega
   simp [h',ih.1 this];omega
theorem ZwO (s:Str) (a b:UInt8):Lib.hasPrefix s [a,b]=decide (s.take 2=[a,b]):=by
 unfold Lib.hasPrefix
 match s with
 | []=>rfl
 | [x]=>simp [List.isPrefixOf]
 | x :: y :: r=>
   rw [Yac];simp only [List.isPrefixOf,Ybc,Xm,beq_iff_eq,decide_eq_true_eq,YaV,YbG,Ybg,and_true];constructor;rintro ⟨rfl,rfl⟩;exact ⟨rfl,rfl⟩;rintro ⟨rfl,rfl⟩;exact ⟨rfl,rfl⟩
theorem ZbQ {s:Str} (hne:s≠[]) (h:s.all J7=true):Lib.atoiAll s=if Z1E s≤9223372036854775807 then .ok (Z1E s:Int) else .range:=by
 have key:∀ (s:Str) (acc N:Nat),acc<18446744073709551616→s.all J7=true→s.foldl (fun n c=>10 * n+(c.toNat - 48)) acc=N→Lib.parseUint10 acc s=if N<18446744073709551616 then .ok N else .range:=by
  intro s
  induction s with
  | nil=>
    intro acc N ha _ hN;have:acc=N:=hN;subst this;rw [if_pos ha];rfl
  | cons c r ih=>
    intro acc N ha h hN;simp only [YaZ,Xm] at h;have hc:48≤c.toNat∧c.toNat≤57:=by simpa [J7] using h.1
    have hmono:∀ (r:Str) (a:Nat),a≤r.foldl (fun n c=>10 * n+(c.toNat - 48)) a:=by
     intro r
     induction r with
     | nil=>intro a;exact Xn _
     | cons x q ihq=>intro a;have:=ihq (10 * a+(x.toNat - 48));simp only [X1];omega
    have h1:=hmono r (10 * acc+(c.toNat - 48));have hN':r.foldl (fun n c=>10 * n+(c.toNat - 48)) (10 * acc+(c.toNat - 48))=N:=hN;rw [hN'] at h1;simp only [Lib.parseUint10];rw [if_pos hc];split;rw [if_neg (by omega)];split;rw [if_neg (by omega)];rw [show acc * 10+(c.toNat - 48)=10 * acc+(c.toNat - 48) by omega];exact ih _ _ (by omega) h.2 hN'
 obtain ⟨c,r,rfl⟩:∃ c r,s=c :: r:=by cases s with|nil=>exact absurd rfl hne|cons c r=>exact ⟨c,r,rfl⟩
 have hk:=key (c :: r) 0 (Z1E (c :: r)) (by omega) h rfl;have hcc:48≤c.toNat∧c.toNat≤57:=by
  simp only [YaZ,Xm] at h;simpa [J7] using h.1
 unfold Lib.atoiAll;simp only;rw [if_neg (by omega)];unfold Lib.parseMag;rw [if_neg (by simp),hk];by_cases h1:Z1E (c :: r)<18446744073709551616;rw [if_pos h1];simp only;by_cases h2:Z1E (c :: r)≤9223372036854775807;rw [if_pos h2,if_neg (by omega),if_neg (by omega),if_neg (by omega)];rw [if_neg h2,if_pos (by omega)];rw [if_neg h1,if_neg (by omega)]
end Go.Eng
namespace Go.Proofs.YtipfkbkkndacjaaGreatDoor
open Go Go.Eng Go.RowKit Go.Proofs
theorem ZbR (c:UInt8):((c.toNat:Int)).toNat.toUInt8=c:=by
 rw [Ybt];exact UInt8.ofNat_toNat
theorem Z6I (s:Str) (c:UInt8) (w):CC 273 #[str s,.int .u8 (c.toNat:Int)] w fun r w'=>r=.I (Lib.indexByte s c)∧w'=w:=by
 refine (Tryz.strings_IndexByte ⟨s.toArray⟩ (c.toNat:Int) w).mono ?_;rintro e w' ⟨rfl,rfl⟩;refine .mk ⟨?_,rfl⟩;rw [ZbR]
theorem Z2t (s:Str) (a b:UInt8) (w):CC 96 #[str s,str [a,b]] w fun r w'=>r=.B (decide (s.take 2=[a,b]))∧w'=w:=by
 refine (Tryz.strings_HasPrefix ⟨s.toArray⟩ ⟨([a,b]:Str).toArray⟩ w).mono ?_;rintro e w' ⟨rfl,rfl⟩;refine .mk ⟨?_,rfl⟩;rw [← ZwO]
theorem ZbS {P:Program} {n:Nat} {Q:Exit→Act→World→Prop} {e:Env} {w} {ops:Array Oper} {rest:List Oper} {d₀:Nat} {ty:TypeId} {pos:String} {af:Array Edge} {src dst:TypeId} {x:Operand} {k:IntKind} {z:Int} {D:TypeDesc} [hs:Und P src D] [hd:Und P dst .string]
 (hx:ev e x=some (.int k z)) (hdn:Nat.blt d₀ n=true) (kk:WL P n ops Q rest ((d₀,str (Utf8.encode z).data.toList) :: e) w):WL P n ops Q (⟨some d₀,.convert src dst x,ty,pos,af,none⟩ :: rest) e w:=by
 refine Z4 (v:=str (Utf8.encode z).data.toList) ⟨fun a ha=>?_⟩ hdn kk;have:=run_convert_int_string (P:=P) w src dst k z (by rw [hs.h];rfl) hd.h;simp [execOp,ha.ev hx,this]
theorem ZxO (c:Nat) (h1:128≤c) (h2:c<256):(Utf8.encode (c:Int)).data.toList=[UInt8.ofNat (192+c / 64),UInt8.ofNat (128+c % 64)]:=by
 have hv:Utf8.valid (c:Int)=true:=by
  unfold Utf8.valid;simp only [YaE,Xm,decide_eq_true_eq];omega
 unfold Utf8.encode;simp only [hv,if_true,Ybt];rw [if_neg (by omega),if_pos (by omega)]
theorem Zoq:∀ c∈Z0c,c.toNat<128:=by decide
theorem Zas (c:Nat) (w) (h1:128≤c) (h2:c<256):CC 274 #[str Z0c,.int .i32 (c:Int)] w fun r w'=>r=.I (-1)∧Stp [] w w':=by
 have he:=ZxO c h1 h2;have hb:128≤(UInt8.ofNat (128+c % 64)).toNat:=by simp;omega
 generalize UInt8.ofNat (192+c / 64)=b0 at he;generalize UInt8.ofNat (128+c % 64)=b1 at he hb;have hvr:Lib.validRune (c:Int)=true:=decide_eq_true (by omega);refine cW2 187 Tryz.func274 ?_;refine QO ?_;refine Z1 (Zd rfl (ZX rfl) ((Tryz.utf8_ValidRune (c:Int) _).mono (fun e w' h=>(show Ret (fun r w'=>r=.B true∧w'=_) e w' from by
  obtain ⟨rfl,rfl⟩:=h;exact .mk ⟨by rw [hvr],rfl⟩)))) rfl ?_
 rintro _ wv ⟨rfl,hwv⟩;subst wv;refine W ?_;refine Z7N ?_;refine W ?_;refine ZbS rfl rfl ?_;rw [he];have hl2:([b0,b1]:Str).length=2:=rfl;have hls:Z0c.length=4:=rfl;refine W ?_;refine Zu (σ:=Unit) (fun _=>[(0,str Z0c),(7,str [b0,b1]),(8,.I ((([b0,b1]:Str).length:Int) - 1)),(9,.I ((([b0,b1]:Str).length:Int) - 1))]) (fun _ w'=>Stp [] w w') (fun _=>0) () ⟨rfl,rfl,rfl,rfl,trivial⟩ (Stp.refl _ _) ?_;rintro _ w1 hS;refine QO ?_;refine Z7N ?_;refine QO ?_;refine ZDr 7 [] [] [(0,0),(1,0),(2,0),(3,0),(4,0),(5,0),(6,0)] (fun w1 hS1=>?_);replace hS:=hS.trans hS1;clear hS1;refine D ?_;have hx:¬ Jc Z0c (([b0,b1]:Str).length - Nat.succ 0)=Jc [b0,b1] (([b0,b1]:Str).length - Nat.succ 0):=by
  show ¬ (10:Int)=(b1.toNat:Int)
  omega
 (refine QP ?_ ?_<;>intro hc)
 rotate_left
 exact absurd hx (by assumption);have hx1:Jc [b0,b1] (([b0,b1]:Str).length - Nat.succ 0)=(b1.toNat:Int):=rfl;have hnm:b1∉(Z0c.drop 2):=fun h=>by
  have:=Zoq b1 (YaG h);omega
 have hidx:Lib.indexByte (Z0c.drop 2) b1<0:=by
  have:=Z7P (Z0c.drop 2) b1;rw [decide_eq_decide] at this;have h0:¬ 0≤Lib.indexByte (Z0c.drop 2) b1:=fun h=>hnm (this.1 h);omega
 refine ZDr 9 [] [] [(0,0),(1,0),(2,0),(3,0),(4,0),(5,0),(6,0),(7,2),(8,0)] (fun w1 hS1=>?_);replace hS:=hS.trans hS1;clear hS1;refine D ?_;refine Zbl (l:=2) rfl trivial rfl rfl (by omega) (by omega) rfl ?_;refine D ?_;rw [hx1];refine DC (Z6I (Z0c.drop 2) b1 _) (fun _ _ h=>by rw [h.2];exact Stp.refl _ _) ?_;rintro _ w5 ⟨rfl,hw5⟩;subst w5;refine D ?_;refine QO ?_
 repeat (first|refine JS ?_|refine W1 ?_)
 refine RU ?_;exact ⟨rfl,hS⟩
theorem Zat (c:UInt8) (w):CC 216 #[str Z0c,.int .i32 (c.toNat:Int)] w fun r w'=>r=.B (Z61 c)∧Stp [] w w':=by
 by_cases h:c.toNat<128;refine (Tryz.strings_ContainsRune_ascii ⟨Z0c.toArray⟩ (c.toNat:Int) w (by omega) (by omega)).mono ?_;rintro e w' ⟨rfl,rfl⟩;refine .mk ⟨?_,Stp.refl _ _⟩;rw [ZbR,Z7O];exact congrArg Value.bool (Z7P Z0c c);have hc:=c.toNat_lt;have hsp:Z61 c=false:=by
  rw [Z7O,decide_eq_false_iff_not];intro hm;exact h (Zoq c hm)
 refine cW2 9 Tryz.func216 ?_;refine W ?_;refine CM (Zh rfl rfl) (Zas c.toNat _ (by omega) (by omega)) ?_;rintro _ w1 ⟨rfl,hS⟩;refine RT ?_;exact ⟨by rw [hsp];rfl,hS⟩
def Z70:Str:=[32,114,117,108,101,32,102,114,111,109,32,111,110,32,105,102,32,100,117,101,32,117,110,108,101,115,115,32,101,108,115,101,32,111,114,32,97,110,100,32,110,111,116,32,116,114,117,101,32,102,97,108,115,101,32,116,104,101,110,32,101,110,100,32,100,97,121,115,32,119,101,101,107,115,32,109,111,110,116,104,115,32,99,111,117,114,116,100,97,121,115,32,110,101,120,116,32,112,114,101,118,32,108,97,116,101,114,32,101,97,114,108,105,101,114,32,98,101,116,119,101,101,110,32]
def Zau:List Str:=[[114,117,108,101],[102,114,111,109],[111,110],[105,102],[100,117,101],[117,110,108,101,115,115],[101,108,115,101],[111,114],[97,110,100],[110,111,116],[116,114,117,101],[102,97,108,115,101],[116,104,101,110],[101,110,100],[100,97,121,115],[119,101,101,107,115],[109,111,110,116,104,115],[99,111,117,114,116,100,97,121,115],[110,101,120,116],[112,114,101,118],[108,97,116,101,114],[101,97,114,108,105,101,114],[98,101,116,119,101,101,110]]
theorem Z66:∀ (s sub:List UInt8),0≤Lib.index s sub↔∃ i,i≤s.length∧sub.isPrefixOf (s.drop i)=true
 | [], sub => by
   unfold Lib.index;cases sub with
   | nil=>simp
   | cons a l=>simp
 | b :: l, sub => by
   have ih:=Z66 l sub;have hge:=Lib.index_ge l sub;unfold Lib.index;by_cases hp:sub.isPrefixOf (b :: l)=true;rw [if_pos hp];exact ⟨fun _=>⟨0,by omega,hp⟩,fun _=>by omega⟩;rw [if_neg hp];have e:(0:Int)≤(if (Lib.index l sub == -1)=true then -1 else Lib.index l sub+1)↔0≤Lib.index l sub:=by
    by_cases h1:Lib.index l sub=-1;rw [if_pos (by simpa using h1)];omega;rw [if_neg (by simpa using h1)];omega
   rw [e,ih];constructor;rintro ⟨i,hi,h⟩;exact ⟨i+1,by simpa using hi,h⟩
   · rintro ⟨i,hi,h⟩
     cases i with
     | zero=>exact absurd h hp
     | succ i=>exact ⟨i,by simpa using hi,h⟩
theorem Z67:∀ (t r:List UInt8),(∀ c∈t,c≠32)→(t++[32]).isPrefixOf r=true→r.takeWhile (fun c=>decide (c≠32))=t
 | [], r, _, h => by
   cases r with
   | nil=>simp at h
   | cons a l=>
     simp [List.isPrefixOf] at h;subst h;rfl
 | c :: t, r, hc, h => by
   cases r with
   | nil=>simp at h
   | cons a l=>
     simp only [XR,List.isPrefixOf,Xm,beq_iff_eq] at h;obtain ⟨rfl,h⟩:=h;have h1:=hc c (by simp);rw [List.takeWhile_cons_of_pos (by simpa using h1),Z67 t l (fun x hx=>hc x (by simp [hx])) h]
theorem ZfS:∀ i∈List.range (Z70.length+1),(Z70.drop i).head?=some 32→(Z70.drop (i+1)).takeWhile (fun c=>decide (c≠32))∈Zau∨(Z70.drop (i+1)).takeWhile (fun c=>decide (c≠32))=[]:=by decide +kernel
theorem ZmW:∀ t∈Zau,Lib.contains Z70 (32 :: t++[32])=true:=by decide +kernel
theorem ZmX {t:Str} (h0:t≠[]) (hc:∀ c∈t,c≠32):Lib.contains Z70 (32 :: t++[32])=decide (t∈Zau):=by
 by_cases ht:t∈Zau;rw [ZmW t ht,decide_eq_true ht]
 · rw [decide_eq_false ht]
   unfold Lib.contains;rw [decide_eq_false_iff_not,Z66];rintro ⟨i,hi,h⟩;cases hd:Z70.drop i with
   | nil=>rw [hd] at h;simp at h
   | cons a l=>
     rw [hd] at h;simp only [XR,List.isPrefixOf,Xm,beq_iff_eq] at h;obtain ⟨rfl,h⟩:=h;have hl:Z70.drop (i+1)=l:=by
      have:=congrArg List.tail hd;simpa [List.tail_drop] using this
     have hw:=Z67 t l hc h;have:=ZfS i (YbI.2 (by omega)) (by rw [hd];rfl);rw [hl,hw] at this;exact this.elim ht h0
abbrev Zjx (c:Int):Prop:=(97≤c∧c≤122)∨(48≤c∧c≤57)
def Z3I (s:Str):Bool:=decide (0<s.length∧s.length≤12∧97≤Jc s 0∧Jc s 0≤122∧∀ i,i<s.length→Zjx (Jc s i))
def ZG (s:Str):Bool:=Z3I s && decide (s∉Zau∧s∉Zf)
theorem Z5n (a b:Str) (m:Int) (w:World) (ha:a.length<4294967281) (hm:w.cell? ⟨2,0,none⟩=some (.I m)) :
 CC 227 #[str a,str b] w fun r w'=>r=.B (Lib.contains a b)∧Stp [] w w':=by
 refine (Tryz.strings_Contains ⟨a.toArray⟩ ⟨b.toArray⟩ m w (by rw [Z0r];exact ha) hm).mono ?_;rintro e w' ⟨rfl,rfl⟩;exact .mk ⟨rfl,Stp.refl _ _⟩
theorem ZbT {l:List Str} {s:Str}:0≤idx (isS s) l↔s∈l:=by
 unfold idx;cases h:l.findIdx? (isS s) with
 | none=>
   rw [Yaa] at h;simp only;constructor;intro h1;omega;intro h1;have:=h s h1;simp [isS] at this
 | some i=>
   obtain ⟨hi,hp,_⟩:=X5.1 h;simp only;constructor;intro _;have:l[i]=s:=by simpa [isS] using hp
   rw [← this];exact Xd hi;intro _;omega
theorem Z8H (X:List Nat) (v:Value) (l:List Str) (a:Str) (w) (hs:SlV X w v l) :
 CC 228 #[v,str a] w fun r w'=>r=.B (decide (a∈l))∧Stp [] w w':=by
 refine cW2 9 Tryz.func228 ?_;refine W ?_;refine CL (Z8Z X v l a _ hs) ?_;rintro _ w1 ⟨rfl,hS⟩;refine RT ?_;exact ⟨by congr 1;exact decide_eq_decide.2 ZbT,hS⟩
theorem Z2B (s:Str) (m:Int) (w) (hF:SlV [] w Z2q Zf) (hm:w.cell? ⟨2,0,none⟩=some (.I m)) :
 CC 167 #[str s] w fun r w'=>r=.B (ZG s)∧Stp [] w w':=by
 refine cW1 55 Tryz.func167 ?_;refine W ?_;by_cases h0:s.length≠0∧s.length≤12∧97≤Jc s 0∧Jc s 0≤122
 case neg=>
  have hn:ZG s=false:=by
   unfold ZG Z3I;rw [decide_eq_false (fun h=>h0 ⟨by omega,h.2.1,h.2.2.1,h.2.2.2.1⟩)];rfl
  by_cases hl:s.length≠0;focus repeat'(first|refine W1 ?_|omega|refine VG ?_ ?_<;>intro hg|refine VC ?_ ?_<;>intro hc)
  refine RU ?_;exact ⟨by rw [hn],Stp.refl _ _⟩;refine RU ?_;exact ⟨by rw [hn],Stp.refl _ _⟩;refine J5 (i:=0) rfl rfl rfl (by omega) rfl ?_
  (refine QP ?_ ?_<;>intro hg)
  refine RU ?_;exact ⟨by rw [hn],Stp.refl _ _⟩;refine J5 (i:=0) rfl rfl rfl (by omega) rfl ?_;refine RT ?_;exact ⟨by rw [hn],Stp.refl _ _⟩;obtain rfl:s=[]:=Xv.1 (by omega);refine RT ?_;exact ⟨by rw [hn],Stp.refl _ _⟩
 obtain ⟨h1,h2,h3,h4⟩:=h0;have hne:¬ s=[]:=fun h=>by rw [h] at h1;exact h1 rfl
 (refine QP ?_ ?_<;>intro hg)
 exact absurd (by assumption) hne;refine J5 (i:=0) rfl rfl rfl (by omega) rfl ?_;refine QO ?_;refine J5 (i:=0) rfl rfl rfl (by omega) rfl ?_;refine QO ?_;refine Z1 (ZbO rfl (by omega)) rfl ?_;rintro bv w1 ⟨hb,hS⟩;replace hb:=hb [] (by simp);have hmx:=hb.max;refine QO ?_;refine LP (σ:=Nat) (fun i=>[(0,str s),(23,bv),(24,.I (s.length:Int)),(25,.I (i:Int))]) (fun i w'=>i≤s.length∧Stp [] w1 w'∧∀ j,j<i→Zjx (Jc s j)) (fun i=>s.length - i) 0 ⟨Xq _,Stp.refl _ _,fun j hj=>absurd hj (Xu _)⟩ ?_;rintro i w2 ⟨hi,hS2,hall⟩
 try dsimp only at hi hall ⊢
 replace hb:=hb.up hS2;replace hS:=hS.trans hS2;by_cases hlt:i<s.length;have hbi:Jc s i=(s[i].toNat:Int):=Go.Eng.byte_at hlt;by_cases hle:(97≤(s[i].toNat:Int)∧(s[i].toNat:Int)≤122)∨(48≤(s[i].toNat:Int)∧(s[i].toNat:Int)≤57)
 · have hall':∀ j,j<i+1→Zjx (Jc s j):=fun j hj=>by
    by_cases e:j=i;subst e;rw [hbi];exact hle;exact hall j (by omega)
   repeat'(first|refine W1 ?_|omega|refine VG ?_ ?_<;>intro hg|refine VC ?_ ?_<;>intro hc)
   all_goals exact QL (i+1) ⟨hlt,hS2,hall'⟩ (XM hlt (XS i))
 · have hn:ZG s=false:=by
    unfold ZG Z3I;rw [decide_eq_false (fun h=>hle (by have:=h.2.2.2.2 i hlt;rw [hbi] at this;exact this))];rfl
   repeat'(first|refine W1 ?_|omega|refine VG ?_ ?_<;>intro hg|refine VC ?_ ?_<;>intro hc)
   all_goals
    refine RU ?_;exact ⟨by rw [hn],hS⟩
 obtain rfl:i=s.length:=by omega
 have hok:Z3I s=true:=decide_eq_true ⟨by omega,h2,h3,h4,hall⟩;have hsp:∀ c∈s,c≠32:=fun c hc h=>by
  obtain ⟨j,hj,rfl⟩:=Xr hc;have h5:=hall j hj;rw [Go.Eng.byte_at hj,h] at h5;exact absurd h5 (by decide)
 have hrl:Z70.length<4294967281:=by
  have:Z70.length≤200:=by decide +kernel
  omega
 have hres:Lib.contains Z70 ([32]++s++[32])=decide (s∈Zau):=ZmX hne hsp;refine QO ?_;refine Z2Q rfl rfl (by simp;omega) rfl ?_;repeat'(first|refine W1 ?_|omega|refine VG ?_ ?_<;>intro hg|refine VC ?_ ?_<;>intro hc)
 refine Z2Q rfl rfl (by simp;omega) rfl ?_;repeat'(first|refine W1 ?_|omega|refine VG ?_ ?_<;>intro hg|refine VC ?_ ?_<;>intro hc)
 refine CM (Zh rfl rfl) (Z5n Z70 ([32]++s++[32]) m _ hrl (hS.cell (by simp) hm)) ?_;rintro _ w3 ⟨rfl,hS3⟩;rw [hres];replace hS:=hS.trans hS3;by_cases hr:s∈Zau;have hn:ZG s=false:=by
  unfold ZG;rw [decide_eq_false (fun h=>h.1 hr),YbH]
 rw [decide_eq_true hr];refine RT ?_;exact ⟨by rw [hn],hS⟩;rw [decide_eq_false hr];refine QO ?_;refine Zft rfl rfl ?_;refine W ?_;refine CL (Z8H [] _ Zf s _ (hF.up hS)) ?_;rintro _ w4 ⟨rfl,hS4⟩;refine QO ?_;refine WR ?_;refine .mk ⟨?_,hS.trans hS4⟩;unfold ZG;rw [hok];by_cases hf:s∈Zf<;>simp [hr,hf]
theorem Z68 {l:List Tkn} {i:Nat} (h:i<l.length):cur l i=l[i]:=by simp [cur,List.getD,h]
def Pd (w:World) (b:Nat) (tv:Value) (l:List Tkn) (i o:Nat):Prop:=Blk w b 186 [tv,.I i,.I o]∧SlV [b] w tv l∧i<l.length∧l.length≤1000000∧o≤12
theorem Pd.up {w w':World} {b i o:Nat} {tv:Value} {l:List Tkn} (h:Pd w b tv l i o) (hS:Stp [] w w'):Pd w' b tv l i o:=by
 obtain ⟨h1,h2,h3⟩:=h;exact ⟨h1.up hS,h2.up hS,h3⟩
theorem Pd.lt {w} {b i o:Nat} {tv:Value} {l:List Tkn} (h:Pd w b tv l i o):b<w.heap.size:=by
 obtain ⟨h1,_⟩:=h;exact h1.lt
theorem Pd.i_lt {w} {b i o:Nat} {tv:Value} {l:List Tkn} (h:Pd w b tv l i o):i<l.length:=by
 obtain ⟨_,_,h1,_⟩:=h;exact h1
def Z4F (a c:Int):Value:=.iface 235 (.agg #[.I a,.I c])
def PE {α:Type} (r:Out α) (G:α→Nat→Nat→Value→World→Prop) (F:World→Prop) (e:Ending) (w':World):Prop:=
 match r with
 | .err a c=>e=.panicked [⟨Z4F a c,false,false⟩]∧F w'
 | .ok x i o=>Ret (G x i o) e w'
theorem ZU {P:Program} {n:Nat} {Q:Exit→Act→World→Prop} {e:Env} {w} {ops:Array Oper} {rest:List Oper} {d:Nat} {ty:TypeId} {pos:String} {af:Array Edge} {f:Nat} {fn:Func} {xs:Array Operand} {ts:Array TypeId} {vs:Array Value} {c:Operand} {ch:List PanicEntry} {F:World→Prop} [hf:Fun P f fn]
 (hc:ev e c=some (.func (.func f) #[] #[])) (hv:∀ a,Has n e a→xs.map a.eval=vs) (h:Calls P f vs w (fun e w'=>e=.panicked ch∧F w')) (hd:Nat.blt d n=true) (k:∀ w',F w'→WQ n Q (.panic ch) [] w') :
 WL P n ops Q (⟨some d,.call { callee:=.value c,args:=xs,argTypes:=ts },ty,pos,af,none⟩ :: rest) e w:=
 Zan (G:=fun _ _=>False) (F:=fun ch' w'=>ch'=ch∧F w') (Z7C hc hv (h.mono fun e w' ⟨h1,h2⟩=>by rw [h1];exact .pan ⟨rfl,h2⟩)) hd (fun ch' w' ⟨h1,h2⟩=>by subst h1;exact Z96 (k w' h2)) (fun _ _ h=>h.elim)
theorem Ztx (a c:Int) (w):(Instr.build 235 #[(0,.I a),(1,.I c)]).run Tryz.prog w=.ok (.agg #[.I a,.I c]) w:=by kernel_rfl
theorem Z0M (b:Nat) (tv:Value) (l:List Tkn) (i o:Nat) (w) (hp:Pd w b tv l i o) :
 CC 163 #[pQ b] w fun r w'=>r=str (cur l i).text∧Stp [] w w':=by
 obtain ⟨hb,hs,hi,hl,ho⟩:=hp;rw [Z68 hi];refine cW1 14 Tryz.func163 ?_;refine W ?_;refine ZDr 12 [] [] [(0,0),(1,0),(2,0),(3,1),(4,0),(5,0),(6,0),(7,1),(8,0),(9,0),(10,1),(11,0)] (fun w1 hS1=>?_);replace hb:=hb.up hS1;replace hs:=hs.up hS1;refine D ?_;refine RT ?_;exact ⟨rfl,hS1⟩
theorem Zjy (b:Nat) (tv:Value) (l:List Tkn) (i o:Nat) (c:Int) (w) (hp:Pd w b tv l i o) :
 Calls Tryz.prog 159 #[pQ b,.I c] w (fun e w'=>e=.panicked [⟨Z4F (cur l i).pos c,false,false⟩]∧Stp [] w w'):=by
 obtain ⟨hb,hs,hi,hl,ho⟩:=hp;rw [Z68 hi];refine cW2 18 Tryz.func159 ?_;refine W ?_;refine Z95 15 ([]) [] [(0,0),(1,0),(2,0),(3,1),(4,0),(5,0),(6,0),(7,1),(8,0),(9,0),(10,1),(11,0),(12,0),(13,0),(14,2)] rfl mixed (by kernel_rfl) (by kernel_rfl) (by kernel_rfl) (fun w1 hS1=>?_);replace hb:=hb.up hS1;replace hs:=hs.up hS1;refine JH rfl trivial (fun _=>ZY rfl) rfl ?_;refine JH rfl trivial (fun _=>Z2b rfl) rfl ?_;refine JH rfl trivial (fun _=>Z1B rfl) rfl ?_;refine Z5e rfl trivial (fun w' hw=>JN rfl rfl (hb.up hw) rfl) rfl ?_;refine JH rfl trivial (fun _=>ZY rfl) rfl ?_;refine JH rfl trivial (fun _=>Z2b rfl) rfl ?_;refine JH rfl trivial (fun _=>Z1B rfl) rfl ?_;refine Z5e rfl trivial (fun w' hw=>JN rfl rfl (hb.up hw) rfl) rfl ?_;refine JH rfl trivial (fun _=>Z7l rfl hs rfl rfl hi) rfl ?_;refine JH rfl trivial (fun _=>Z3r rfl (SlV.isSome hs hi)) rfl ?_;refine Z5e rfl trivial (fun w' hw=>Z1N (u:=.I l[i].pos) rfl rfl (hs.up hw) hi rfl rfl) rfl ?_;refine JH rfl trivial (fun _=>ZY rfl) rfl ?_;refine JH rfl trivial (fun _=>Z0H (vs:=[(0,.I l[i].pos),(1,.I c)]) rfl (Ztx _ _)) rfl ?_;refine JH rfl trivial (fun _=>Z5Y rfl) rfl ?_;refine ZfK rfl trivial (ZfJ rfl) ?_;refine ZJ ?_;exact ⟨rfl,hS1⟩
theorem Z3J (b:Nat) (tv:Value) (l:List Tkn) (s:Str) (i o:Nat) (w) (hp:Pd w b tv l i o) (hn:(cur l i).text=s→i+1<l.length) :
 CC 224 #[pQ b,str s] w fun r w'=>r=.B (decide ((cur l i).text=s))∧Pd w' b tv l (if (cur l i).text=s then i+1 else i) o∧Stp [b] w w':=by
 refine cW2 16 Tryz.func224 ?_;refine W ?_;refine CL (Z0M b tv l i o _ hp) ?_;rintro _ w1 ⟨rfl,hS1⟩;replace hp:=hp.up hS1;obtain ⟨hb,hs,hi,hl,ho⟩:=hp;have hmax:=hs.max;by_cases h:(cur l i).text=s;have hi1:=hn h
 (refine QP ?_ ?_<;>intro hc)
 exact absurd h (by assumption);refine Z5 (Za (u:=.I ((i+1:Nat):Int)) rfl (by show some _=some _;simp) rfl rfl hb (by simp)) ?_;rintro _ w2 ⟨hT,hb2⟩;refine W ?_;refine WR ?_;rw [decide_eq_true h,if_pos h];exact .mk ⟨rfl,⟨hb2,hs.ext hT (fun c hc=>hc) (fun c hc=>.inl hc),hi1,hl,ho⟩,hS1.mn.trans hT⟩
 (refine QP ?_ ?_<;>intro hc)
 refine WR ?_;rw [decide_eq_false h,if_neg h];exact .mk ⟨rfl,⟨hb,hs,hi,hl,ho⟩,hS1.mn⟩;exact absurd h (by assumption)
def PC {α:Type} (b:Nat) (w:World) (tv:Value) (l:List Tkn) (r:Out α) (G:α→Value→World→Prop) (e:Ending) (w':World):Prop:=
 PE r (fun x i o v w'=>G x v w'∧Pd w' b tv l i o∧Stp [b] w w') (fun w'=>Stp [b] w w') e w'
theorem PC.ok {α:Type} {b:Nat} {w w':World} {tv:Value} {l:List Tkn} {x:α} {i o:Nat} {G:α→Value→World→Prop} {v:Value} (hG:G x v w') (hp:Pd w' b tv l i o) (hS:Stp [b] w w'):PC b w tv l (.ok x i o) G (.returned v) w':=⟨v,rfl,hG,hp,hS⟩
theorem PC.err {α:Type} {b:Nat} {w w':World} {tv:Value} {l:List Tkn} {a c:Int} {G:α→Value→World→Prop} (hS:Stp [b] w w'):PC b w tv l (.err a c) G (.panicked [⟨Z4F a c,false,false⟩]) w':=⟨rfl,hS⟩
theorem PC.fail {α:Type} {b:Nat} {w w':World} {tv:Value} {l:List Tkn} {i:Nat} {c:Int} {G:α→Value→World→Prop} (hS:Stp [b] w w'):PC b w tv l (Z1c l i c) G (.panicked [⟨Z4F (cur l i).pos c,false,false⟩]) w':=⟨rfl,hS⟩
theorem Z9e (b:Nat) (tv:Value) (l:List Tkn) (i o:Nat) (c:Int) (w w0:World) (hp:Pd w b tv l i o) (hS:Stp [b] w0 w) :
 Calls Tryz.prog 159 #[pQ b,.I c] w (fun e w'=>e=.panicked [⟨Z4F (cur l i).pos c,false,false⟩]∧Stp [b] w0 w'):=
 (Zjy b tv l i o c w hp).mono fun e w' ⟨h1,h2⟩=>⟨h1,hS.trans h2.mn⟩
theorem PC.goes {α:Type} {b f:Nat} {args:Array Value} {w} {tv:Value} {l:List Tkn} {x:α} {i o:Nat} {r:Out α} {G:α→Value→World→Prop} (h:Calls Tryz.prog f args w (PC b w tv l r G)) (hr:r=.ok x i o):CC f args w fun v w'=>G x v w'∧Pd w' b tv l i o∧Stp [b] w w':=by
 subst hr;exact h
theorem PC.falls {α:Type} {b f:Nat} {args:Array Value} {w w0:World} {tv:Value} {l:List Tkn} {a c:Int} {r:Out α} {G:α→Value→World→Prop} (h:Calls Tryz.prog f args w (PC b w tv l r G)) (hr:r=.err a c) (hS:Stp [b] w0 w):Calls Tryz.prog f args w (fun e w'=>e=.panicked [⟨Z4F a c,false,false⟩]∧Stp [b] w0 w'):=by
 subst hr;exact h.mono fun e w' ⟨h1,h2⟩=>⟨h1,hS.trans h2⟩
theorem JM (b:Nat) (tv:Value) (l:List Tkn) (hL:Z3E l) (s:Str) (hs0:s≠[]) (i o:Nat) (w) (hp:Pd w b tv l i o) :
 Calls Tryz.prog 160 #[pQ b,str s] w (PC b w tv l (Z0K l s i o) (fun _ v _=>v=.tuple #[])):=by
 have hn:(cur l i).text=s→i+1<l.length:=fun h=>hL.end_of hp.i_lt (by rw [h];exact hs0)
 unfold Z0K;refine cW2 10 Tryz.func160 ?_;refine W ?_;refine CL (Z3J b tv l s i o _ hp hn) ?_;rintro _ w1 ⟨rfl,hp1,hS1⟩;by_cases h:(cur l i).text=s;rw [if_pos h] at hp1 ⊢;rw [decide_eq_true h];refine W ?_;refine WR ?_;exact PC.ok rfl hp1 hS1;rw [if_neg h] at hp1 ⊢;rw [decide_eq_false h];refine W ?_;refine ZU rfl (Zh rfl rfl) (Z9e b tv l i o 20 _ w hp1 hS1) rfl ?_;intro w2 hw2;focus repeat'(first|refine Zj ?_|refine Zg ?_)
 refine ZJ ?_;exact PC.fail hw2
theorem Z4g (C:Str) (W:List Str) (h1:∀ i∈List.range (C.length+1),(C.drop i).head?=some 32→(C.drop (i+1)).takeWhile (fun c=>decide (c≠32))∈W∨(C.drop (i+1)).takeWhile (fun c=>decide (c≠32))=[])
 (h2:∀ t∈W,Lib.contains C (32 :: t++[32])=true) {t:Str} (h0:t≠[]) (hc:∀ c∈t,c≠32):Lib.contains C (32 :: t++[32])=decide (t∈W):=by
 by_cases ht:t∈W;rw [h2 t ht,decide_eq_true ht]
 · rw [decide_eq_false ht]
   unfold Lib.contains;rw [decide_eq_false_iff_not,Z66];rintro ⟨i,hi,h⟩;cases hd:C.drop i with
   | nil=>rw [hd] at h;simp at h
   | cons a l=>
     rw [hd] at h;simp only [XR,List.isPrefixOf,Xm,beq_iff_eq] at h;obtain ⟨rfl,h⟩:=h;have hl:C.drop (i+1)=l:=by
      have:=congrArg List.tail hd;simpa [List.tail_drop] using this
     have hw:=Z67 t l hc h;have:=h1 i (YbI.2 (by omega)) (by rw [hd];rfl);rw [hl,hw] at this;exact this.elim ht h0
def Zty:Str:=[32,114,117,108,101,32,102,114,111,109,32,111,110,32,105,102,32,100,117,101,32,117,110,108,101,115,115,32,101,108,115,101,32,116,114,117,101,32,102,97,108,115,101,32,110,111,116,32,97,110,100,32,111,114,32,116,104,101,110,32,101,110,100,32,32,100,97,121,115,32,119,101,101,107,115,32,109,111,110,116,104,115,32,99,111,117,114,116,100,97,121,115,32,32,100,97,121,32,115,101,114,118,101,100,32,101,120,116,114,97,32,98,121,32,116,111,32,99,111,117,114,116,32,97,109,111,117,110,116,32,32,110,101,120,116,32,112,114,101,118,32,108,97,116,101,114,32,101,97,114,108,105,101,114,32,98,101,116,119,101,101,110,32]
def ZbU:Str:=[32,100,97,121,115,32,119,101,101,107,115,32,109,111,110,116,104,115,32,99,111,117,114,116,100,97,121,115,32]
def Zav:Str:=[32,100,97,121,32,115,101,114,118,101,100,32,101,120,116,114,97,32,98,121,32,116,111,32,99,111,117,114,116,32,97,109,111,117,110,116,32]
def ZeJ:Str:=[32,110,101,120,116,32,112,114,101,118,32,108,97,116,101,114,32,101,97,114,108,105,101,114,32,98,101,116,119,101,101,110,32]
theorem ZmY {t:Str} (h0:t≠[]) (hc:∀ c∈t,c≠32):Lib.contains Zty (32 :: t++[32])=decide (t∈ZeF++Z4B++Z2W++Z4C):=Z4g Zty _ (by decide +kernel) (by decide +kernel) h0 hc
theorem Zjz {t:Str} (h0:t≠[]) (hc:∀ c∈t,c≠32):Lib.contains ZbU (32 :: t++[32])=decide (t∈Z4B):=Z4g ZbU _ (by decide +kernel) (by decide +kernel) h0 hc
theorem ZfT {t:Str} (h0:t≠[]) (hc:∀ c∈t,c≠32):Lib.contains Zav (32 :: t++[32])=decide (t∈Z2W):=Z4g Zav _ (by decide +kernel) (by decide +kernel) h0 hc
theorem ZjA {t:Str} (h0:t≠[]) (hc:∀ c∈t,c≠32):Lib.contains ZeJ (32 :: t++[32])=decide (t∈Z4C):=Z4g ZeJ _ (by decide +kernel) (by decide +kernel) h0 hc
theorem Z34 (C:Str) (ws:List Str) (hW:[]∉ws) (t:Str) (m:Int) (w:World) (hm:w.cell? ⟨2,0,none⟩=some (.I m)) (hC:C.length≤1000000) (htl:t.length≤4000)
 (hiff:t≠[]→Lib.contains C (32 :: t++[32])=decide (t∈ws)) :
 CC 225 #[str C,str t] w fun r w'=>r=.B (decide (t∈ws))∧Stp [] w w':=by
 refine cW2 14 Tryz.func225 ?_;by_cases h:t=[]
 · subst h
   refine QO ?_
   all_goals
    refine WR ?_;rw [decide_eq_false hW];exact .mk ⟨rfl,Stp.refl _ _⟩
 · have e1:Lib.contains C ([32]++t++[32])=decide (t∈ws):=hiff h
   (refine QP ?_ ?_<;>intro hg)
   rotate_left
   exact absurd h (by assumption);refine Z2Q rfl rfl (by simp;omega) rfl ?_;refine QO ?_;refine Z2Q rfl rfl (by simp;omega) rfl ?_;refine QO ?_;refine CM (Zh rfl rfl) (Z5n C ([32]++t++[32]) m _ (by omega) hm) ?_;rintro _ w1 ⟨rfl,hS1⟩;rw [e1];refine RT ?_;exact ⟨rfl,hS1⟩
theorem Z4h (b:Nat) (tv:Value) (l:List Tkn) (hL:Z3E l) (k:Int) (hk:k≠0) (i o:Nat) (w) (hp:Pd w b tv l i o) :
 Calls Tryz.prog 162 #[pQ b,.I k] w (PC b w tv l (Z2V l k i o) (fun t v _=>v=aG t)):=by
 obtain ⟨hb,hs,hi,hl,ho⟩:=id hp;have hn:(cur l i).kind=k→i+1<l.length:=fun h=>hL.end_of_kind hi (by rw [h];exact hk)
 have hmax:=hs.max;have hs0:=hs;unfold Z2V;rw [Z68 hi] at hn ⊢;refine cW2 30 Tryz.func162 ?_;refine W ?_;refine Z1 Z2 rfl ?_;rintro _ w0 ⟨b4,rfl,hb4,e4,hS0⟩;have n4:b4≠b:=by have:=hb.lt;omega
 replace hb:=hb.up hS0;replace hs:=hs.up hS0;refine W ?_;refine ZDr 12 [] [11] [(0,0),(1,0),(2,0),(3,1),(4,0),(5,0),(6,0),(7,1),(8,0),(9,1),(10,2),(11,2)] (fun w1 hS1=>?_);replace hb:=hb.up hS1;replace hs:=hs.up hS1;replace e4:=e4.up hS1;replace hS0:=hS0.trans hS1;clear hS1;refine D ?_;refine Zc rfl trivial Z2 (fun _ _ ⟨_,_,_,_,h⟩=>h) rfl ?_;rintro _ w2 ⟨b5,rfl,hb5,e5,hS2⟩;have n5:b5≠b:=by have:=hb.lt;omega
 have n54:b5≠b4:=by have:=e4.lt;omega
 refine Jy rfl trivial (Z9 (us:=Z3.enc l[i]) rfl rfl rfl rfl (Z3.one _) e5 rfl) rfl ?_;rintro _ w3 ⟨hT,e5⟩;have hT0:=hS2.ow hT;clear hT hS2;replace hb:=hb.up hT0;replace hs:=hs.up hT0;replace e4:=e4.up hT0;replace hS0:=hS0.trans hT0;clear hT0 hb5;refine D ?_;refine W ?_;have hp3:Pd w3 b tv l i o:=⟨hb,hs,hi,hl,ho⟩
 by_cases h:l[i].kind=k;rw [if_pos h];have hi1:=hn h;refine QO ?_;refine Z5 (Za (u:=.I ((i+1:Nat):Int)) rfl (by show some _=some _;simp) rfl rfl hb (by simp)) ?_;rintro _ w4 ⟨hT,hb2⟩;replace e4:=e4.ext hT (by simpa using n4);replace e5:=e5.ext hT (by simpa using n5);replace hs:=hs.ext (X':=[b]) hT (fun c hc=>hc) (fun c hc=>.inl hc);refine W ?_;refine SA (us:=Z3.enc l[i]) e4 ?_;rintro _ w5 ⟨hT5,e4⟩;refine W ?_;refine Zk (cs:=Z3.enc l[i]) rfl rfl rfl e4 rfl ?_;have hTT:=(hS0.mn.trans hT).ow hT5;exact PC.ok rfl ⟨hb2.ext hT5 (by simpa using n4.symm),hs0.ext hTT (fun c hc=>hc) (fun c hc=>.inl hc),hi1,hl,ho⟩ hTT;rw [if_neg h];refine QO ?_;refine ZU rfl (Zh rfl rfl) (Z9e b tv l i o 20 _ w hp3 hS0.mn) rfl ?_;intro w2 hw2;focus repeat'(first|refine Zj ?_|refine Zg ?_)
 refine ZJ ?_;exact PC.fail hw2
theorem Ju {w w':World} {b:Nat} {m:Int} (hm:w.cell? ⟨2,0,none⟩=some (.I m)) (hb:b≠2) (hS:Stp [b] w w'):w'.cell? ⟨2,0,none⟩=some (.I m):=
 hS.cell (by simpa using fun h=>hb h.symm) hm
theorem ZmZ (t:Tkn) (w):(Instr.field 183 (aG t) 2).run Tryz.prog w=.ok (str t.text) w:=by kernel_rfl
theorem Ztz (t:Tkn) (w):(Instr.field 183 (aG t) 3).run Tryz.prog w=.ok (.I t.num) w:=by kernel_rfl
theorem Z5o (b:Nat) (tv:Value) (l:List Tkn) (hL:Z3E l) (i o:Nat) (m:Int) (w:World) (hm:w.cell? ⟨2,0,none⟩=some (.I m)) (hp:Pd w b tv l i o) :
 Calls Tryz.prog 161 #[pQ b] w (PC b w tv l (Z2e l i o) (fun s v _=>v=str s)):=by
 unfold Z2e;refine cW1 11 Tryz.func161 ?_;refine W ?_;refine CL (Z0M b tv l i o _ hp) ?_;rintro _ w1 ⟨rfl,hS1⟩;have hp1:=hp.up hS1;refine W ?_;refine CM (Zh rfl rfl) (Z34 Zty (ZeF++Z4B++Z2W++Z4C) (by decide +kernel) (cur l i).text m _ (hS1.cell (by simp) hm) (by decide +kernel) (hL.tl i) (fun h=>ZmY h (hL.sp i))) ?_;rintro _ w2 ⟨rfl,hS2⟩;have hp2:=hp1.up hS2;have hS:=(hS1.trans hS2).mono (S':=[b]) (by simp);by_cases h:(cur l i).text∈ZeF++Z4B++Z2W++Z4C;rw [if_pos h,decide_eq_true h];refine W ?_;refine ZU rfl (Zh rfl rfl) (Z9e b tv l i o 20 _ w hp2 hS) rfl ?_;intro w3 hw3;focus repeat'(first|refine Zj ?_|refine Zg ?_)
 refine ZJ ?_;exact PC.fail hw3
 · rw [if_neg h,decide_eq_false h]
   refine W ?_;cases hr:Z2V l 1 i o with
   | err a c=>
     refine ZU rfl (Zh rfl rfl) (PC.falls (Z4h b tv l hL 1 (by decide) i o _ hp2) hr hS) rfl ?_;intro w3 hw3;repeat'(first|refine Zj ?_|refine Zg ?_)
     refine ZJ ?_;exact PC.err hw3
   | ok t i1 o1=>
     refine CM (Zh rfl rfl) (PC.goes (Z4h b tv l hL 1 (by decide) i o _ hp2) hr) ?_;rintro _ w3 ⟨rfl,hp3,hS3⟩;refine Z4 (ZbJ rfl (ZmZ t)) rfl ?_;refine W ?_;refine WR ?_;exact PC.ok rfl hp3 (hS.trans hS3)
theorem ZbV (s:Str) (w):CC 280 #[str s] w fun r w'=>r=.I (Z60 s:Int)∧w'=w:=by
 unfold Z60;refine cW1 20 Tryz.func280 ?_;repeat'(first|refine W1 ?_|omega|refine VG ?_ ?_<;>intro hg|refine VC ?_ ?_<;>intro hc)
 all_goals refine WR ?_
 all_goals refine .mk ⟨?_,rfl⟩
 all_goals simp_all
theorem Zaw (n:Int) (w) (h0:0≤n) (h1:n≤3652058):CC 60 #[.I n] w fun r w'=>r=.tuple #[Zjv (ofM n).y (ofM n).m (ofM n).d,.I 0]∧Stp [] w w':=by
 refine cW1 73 Tryz.func60 ?_;refine W ?_;refine Z1 Z2 rfl ?_;rintro _ w1 ⟨b2,rfl,hb2,e2',hS⟩;have hw1:=hS.size;refine QO ?_;unfold ofM;simp only;have hr0:=Ya0 (n+306) (b:=146097) (by decide);have hr1:=YaN (n+306) (b:=146097) (by decide);have he:(n+306) / 146097≤25∧0≤(n+306) / 146097:=by omega
 generalize (n+306) % 146097=doe at *;generalize (n+306) / 146097=era at *;obtain ⟨yoe,doy,e1,e2,hy,hd,-⟩:=Zjq doe hr0 hr1;simp only [e1,e2];have hmb:0≤(5 * (doy:Int)+2) / 153∧(5 * (doy:Int)+2) / 153≤11:=by omega
 refine QO ?_;refine Z8 (vs:=[(0,.I _),(1,.I _),(2,.I _)]) rfl (Z5m _ _ _) rfl ?_;refine Z1 Z2 rfl ?_;rintro _ w2 ⟨b10,rfl,hb10,e10,hT⟩;have n2:b10≠b2:=by have:=e2'.lt;omega
 replace e2':=e2'.up hT;replace hS:=hS.trans hT;refine SB (us:=[.I _,.I _,.I _]) (by simp;exact ⟨rfl,rfl,rfl⟩) e10 ?_;rintro _ w3 ⟨hT,e10'⟩;replace e2':=e2'.ext hT (by simpa using n2.symm);replace hS:=hS.own hT (fun c hc=>.inr (by simp at hc;have:=hS.size;omega));clear e10 hT
 (refine QP ?_ ?_<;>intro hc)
 rename_i hc;refine Z5 (Za (u:=.I ((yoe:Int)+400 * era+1)) rfl rfl rfl rfl e10' (by simp)) ?_;rintro _ w4 ⟨hT,e10⟩;replace e10:Blk w4 b10 132 [.I ((yoe:Int)+400 * era+1),.I ((5 * (doy:Int)+2) / 153+3),.I ((doy:Int) - (153 * ((5 * (doy:Int)+2) / 153)+2) / 5+1)]:=e10;replace e2':=e2'.ext hT (by simpa using n2.symm);replace hS:=hS.ow hT;clear e10' hT;refine W ?_;refine Z5 (Za (u:=.I ((5 * (doy:Int)+2) / 153 - 9)) rfl rfl rfl rfl e10 (by simp)) ?_;rintro _ w5 ⟨hT,e10'⟩;replace e10':Blk w5 b10 132 [.I ((yoe:Int)+400 * era+1),.I ((5 * (doy:Int)+2) / 153 - 9),.I ((doy:Int) - (153 * ((5 * (doy:Int)+2) / 153)+2) / 5+1)]:=e10';replace e2':=e2'.ext hT (by simpa using n2.symm);replace hS:=hS.ow hT;clear e10 hT;refine W ?_;refine Z5 (Z9 (us:=[.I _,.I _,.I _]) rfl rfl rfl rfl (by simp;exact ⟨rfl,rfl,rfl⟩) e2' rfl) ?_;rintro _ w6 ⟨hT,e2⟩;replace hS:=hS.ow hT;refine W ?_;refine Zl rfl rfl rfl e2 rfl rfl ?_;refine .mk ⟨?_,hS⟩;rw [if_pos (by omega)];rename_i hc;refine Z5 (Z9 (us:=[.I _,.I _,.I _]) rfl rfl rfl rfl (by simp;exact ⟨rfl,rfl,rfl⟩) e2' rfl) ?_;rintro _ w6 ⟨hT,e2⟩;replace hS:=hS.ow hT;refine W ?_;refine Zl rfl rfl rfl e2 rfl rfl ?_;refine .mk ⟨?_,hS⟩;rw [if_neg (by omega)]
theorem Z8I (n:Int) (w) (h0:0≤n) (h1:n≤9223372036854775807):CC 31 #[.I n] w fun r w'=>r=str (Lib.itoa n)∧Stp [] w w':=by
 obtain ⟨u,rfl⟩:∃ u:Nat,n=(u:Int):=⟨n.toNat,by omega⟩
 have hit:Lib.itoa (u:Int)=Lib.decDigits u:=by unfold Lib.itoa;rw [if_neg (by omega)];rfl
 rw [hit];have hlen:(Lib.decDigits u).length≤19:=Z4D 18 u (by omega);refine cW1 32 Tryz.func31 ?_;by_cases hz:(u:Int)=0;obtain rfl:u=0:=by omega
 focus repeat'(first|refine W1 ?_|omega|refine VG ?_ ?_<;>intro hg|refine VC ?_ ?_<;>intro hc)
 refine RU ?_;exact ⟨by rw [Lib.decDigits];rfl,Stp.refl _ _⟩;focus repeat'(first|refine W1 ?_|omega|refine VG ?_ ?_<;>intro hg|refine VC ?_ ?_<;>intro hc)
 refine Zu (σ:=Nat×Str) (fun q=>[(0,.I (u:Int)),(3,str [48,49,50,51,52,53,54,55,56,57]),(4,str q.2),(5,.I (q.1:Int))]) (fun q w'=>w'=w∧q.1≤u∧(if q.1=0 then [] else Lib.decDigits q.1)++q.2=Lib.decDigits u) (fun q=>q.1) (u,[]) ⟨rfl,rfl,rfl,rfl,trivial⟩ ⟨rfl,Xn _,by simp only;rw [if_neg (by omega)];simp⟩ ?_;rintro ⟨k,s⟩ w1 ⟨rfl,hk,he⟩;dsimp only at hk he ⊢;have hsl:s.length≤19:=by
  have:=congrArg List.length he;simp only [Xc] at this;omega
 by_cases hk0:(k:Int)=0;obtain rfl:k=0:=by omega
 focus repeat'(first|refine W1 ?_|omega|refine VG ?_ ?_<;>intro hg|refine VC ?_ ?_<;>intro hc)
 refine RU ?_;exact ⟨by simpa using congrArg str he,Stp.refl _ _⟩;have hst:=Zjr k (by omega);rw [if_neg (by omega),hst,Xx] at he;focus repeat'(first|refine W1 ?_|omega|refine VG ?_ ?_<;>intro hg|refine VC ?_ ?_<;>intro hc)
 refine Z4 (Z2P (l:=k % 10) (r:=k % 10+1) rfl rfl rfl (by omega) (by omega) (by omega) (by show k % 10+1≤10;omega)) rfl ?_;rw [ZfO (k % 10) (by omega)];refine W ?_;refine Z2Q rfl rfl (by simp;omega) rfl ?_;refine W ?_;refine ZD (k / 10,[UInt8.ofNat (48+k % 10)]++s) ⟨rfl,rfl,rfl,by simp only [Int.natCast_ediv];rfl,trivial⟩ ⟨rfl,by dsimp only;omega,by dsimp only;exact he⟩ (by dsimp only;omega)
end Go.Proofs.YtipfkbkkndacjaaGreatDoor
namespace Go.Eng
open Go Go.RowKit Go.Proofs
section
variable {P:Program} {n:Nat} {Q:Exit→Act→World→Prop} {e:Env} {w:World} {ops:Array Oper} {S:List Nat} {Lt:List Nat} {rest:List (Nat×Nat)}
theorem ZfU {i d:Nat} {ty:TypeId} {pos:String} {af:Array Edge} {gd:Option (Nat×Bool)} {f:Nat} {fn:Func} {xs:Array Operand} {ts:Array TypeId} {vs:Array Value} {c:Operand} {ch:List PanicEntry} {F:World→Prop} [hf:Fun P f fn]
 (hi:ops[i]?=some ⟨some d,.call { callee:=.value c,args:=xs,argTypes:=ts },ty,pos,af,gd⟩) (hg:Zz ops e gd)
 (hc:ev e c=some (.func (.func f) #[] #[])) (hv:∀ a,Has n e a→xs.map a.eval=vs) (h:Calls P f vs w (fun e w'=>e=.panicked ch∧F w')) (hdn:Nat.blt d n=true) (k:∀ w',F w'→WQ n Q (.panic ch) [] w'):WDq P n ops S Lt Q ((i,2) :: rest) e w:=
 Zjh (G:=fun _ _=>False) (F:=fun ch' w'=>ch'=ch∧F w') hi hg (Z7C hc hv (h.mono fun e w' ⟨h1,h2⟩=>by rw [h1];exact .pan ⟨rfl,h2⟩)) (fun _ _ h=>h.elim) hdn (fun ch' w' ⟨h1,h2⟩=>by subst h1;exact k w' h2) (fun _ _ h=>h.elim)
end
end Go.Eng
namespace Go.Proofs.YtipfkbkkndacjaaGreatDoor
open Go Go.Eng Go.RowKit Go.Proofs
def ZjB (f:Nat):Prop:=∀ (l:List Tkn) (hL:Z3E l) (m:Int) (c:Eng.Call) (i o:Nat) (r:Out Nd),J8 l f c i o=some r→
 ∀ (X:List Nat) (b:Nat) (tv:Value) (w:World),b≠2→b∈X→(∀ c∈X,c<w.heap.size)→w.cell? ⟨2,0,none⟩=some (.I m)→Pd w b tv l i o→
 match c with
 | .expr k=>1≤k→k≤8→Calls Tryz.prog 226 #[pQ b,.I (k:Int)] w (PC b w tv l r (fun x v w'=>NdV X w' v x))
 | .prim=>Calls Tryz.prog 279 #[pQ b] w (PC b w tv l r (fun x v w'=>NdV X w' v x))
 | .loop _ _=>True
theorem ZtA (s:Str) (p:Option Addr) (l c:Nat) (w):(Instr.build 97 #[(0,.I 6),(2,str s),(3,.slice p l c)]).run Tryz.prog w=.ok (.agg #[.I 6,.I 0,str s,.slice p l c]) w:=by kernel_rfl
theorem Z9f:([]:Str)∉Z4B:=by decide
theorem ZfV:ZbU.length≤1000000:=by decide
theorem ZbW (t:Str) (m:Int) (w:World) (hm:w.cell? ⟨2,0,none⟩=some (.I m)) (htl:t.length≤4000) (hsp:∀ c∈t,c≠32) :
 CC 225 #[str ZbU,str t] w fun r w'=>r=.B (decide (t∈Z4B))∧Stp [] w w':=
 Z34 ZbU Z4B Z9f t m w hm ZfV htl (fun h=>Zjz h hsp)
theorem ZwP (f:Nat) (IH:∀ f'≤f,ZjB f') (l:List Tkn) (hL:Z3E l) (m:Int) (k i o:Nat) (r:Out Nd) (hk1:1≤k) (hk:k≤7) (hsp:¬ ((k=3∧(cur l i).text=[110,111,116])∨(k=7∧(cur l i).text=[45])))
 (h : (match J8 l f (.expr (k + 1)) i o with
   | none=>none
   | some (.err a c)=>some (.err a c)
   | some (.ok x i' o')=>J8 l f (.loop k x) i' o')=some r) (X:List Nat) (b:Nat) (tv:Value) (w:World) (hb1:b≠2) (hbX:b∈X) (hX:∀ c∈X,c<w.heap.size) (hm:w.cell? ⟨2,0,none⟩=some (.I m)) (hp:Pd w b tv l i o) :
 Calls Tryz.prog 226 #[pQ b,.I (k:Int)] w (PC b w tv l r (fun x v w'=>NdV X w' v x)):=by
 have hs0:=hp.2.1;refine cW2 98 Tryz.func226 ?_;refine W ?_;refine Z1 Z2 rfl ?_;rintro _ w1 ⟨b4,rfl,hb4,e4,hS⟩;have n4:b4≠b:=by have:=hp.lt;omega
 replace hm:=hS.cell (by simp) hm;replace hp:=hp.up hS;have hX1:∀ c∈X,c<w1.heap.size:=fun c hc=>Xa (hX c hc) hS.size;refine Z2K ?_;refine Z46 ?_
 refine Zhk (σ:=Unit) (fun _=>[(0,pQ b),(1,.I (k:Int)),(4,pQ b4)])
  (fun _ w'=>Pd w' b tv l i o∧(∃ cs:List Value,cs.length=4∧Blk w' b4 97 cs)∧w'.cell? ⟨2,0,none⟩=some (.I m)∧Stp [] w w') ?_ ?_
 by_cases k3:k=3
 · subst k3
   have ht:¬ (cur l i).text=[110,111,116]:=fun e=>hsp (.inl ⟨rfl,e⟩);refine W ?_;refine CL (Z0M b tv l i o _ hp) ?_;rintro _ w2 ⟨rfl,hT⟩;replace hp:=hp.up hT;replace e4:=e4.up hT;replace hm:=hT.cell (by simp) hm;replace hS:=hS.trans hT;repeat'(first|refine W1 ?_|omega|refine VG ?_ ?_<;>intro hg|refine VC ?_ ?_<;>intro hc)
   all_goals try exact absurd (by assumption) ht
   exact QT () ⟨hp,⟨_,rfl,e4⟩,hm,hS⟩
 by_cases k7:k=7
 · subst k7
   have ht:¬ (cur l i).text=[45]:=fun e=>hsp (.inr ⟨rfl,e⟩);refine W ?_;refine CL (Z0M b tv l i o _ hp) ?_;rintro _ w2 ⟨rfl,hT⟩;replace hp:=hp.up hT;replace e4:=e4.up hT;replace hm:=hT.cell (by simp) hm;replace hS:=hS.trans hT
   (refine QP ?_ ?_<;>intro hc)
   all_goals try exact absurd (by assumption) ht
   exact QT () ⟨hp,⟨_,rfl,e4⟩,hm,hS⟩
 refine QO ?_;exact QT () ⟨hp,⟨_,rfl,e4⟩,hm,hS⟩;clear hp e4 hm hS;rintro _ w2 ⟨hp,⟨cs4,hc4,e4⟩,hm,hS⟩;have l4:=e4.lt;have hX2:∀ c∈b4 :: X,c<w2.heap.size:=fun c hc=>by
  rcases Xb.1 hc with rfl|h
  exact l4;exact Xa (hX c h) hS.size
 refine W ?_;cases hE:J8 l f (.expr (k+1)) i o with
 | none=>rw [hE] at h;simp at h
 | some r1=>
   rw [hE] at h;have hsub:=IH f (Xn _) l hL m (.expr (k+1)) i o r1 hE (b4 :: X) b tv w2 hb1 (XE _ hbX) hX2 hm hp (by omega) (by omega);cases r1 with
   | err a c=>
     simp only [XD] at h;subst h;refine ZU rfl (Zh rfl rfl) (PC.falls hsub rfl hS.mn) rfl ?_;intro w3 hw3;repeat'(first|refine Zj ?_|refine Zg ?_)
     refine ZJ ?_;exact PC.err hw3
   | ok x i1 o1=>
     simp only at h;refine CL (PC.goes hsub rfl) ?_;rintro _ w3 ⟨⟨kx,rfl,hx⟩,hp3,hT⟩;replace e4:=e4.ext hT (by simpa using n4);replace hm:=Ju hm hb1 hT;have hX3:∀ c∈b4 :: X,c<w3.heap.size:=fun c hc=>Xa (hX2 c hc) hT.size;have hS3:=(hS.mono (S':=[b]) (by simp)).trans hT;clear hT hS hp hX2 hsub;refine Z1 Z2 rfl ?_;rintro _ w4 ⟨b7,rfl,hb7,e7,hT⟩;have n74:b7≠b4:=by have:=e4.lt;omega
     have n7b:b7≠b:=by have:=hp3.lt;omega
     have n71:b7≠2:=by have:=block_lt_of_cell hm;simp at this;omega
     refine SB (us:=ndC x kx) (Zi hx) e7 ?_;rintro _ w5 ⟨hT2,e7'⟩;replace hT:=hT.ow hT2;clear hT2 e7;have hb7w:w.heap.size≤b7:=Xg hS3.size hb7;have hb4w:w.heap.size≤b4:=hb4;replace e4:=e4.up hT;replace hp3:=hp3.up hT;replace hm:=hT.cell (by simp) hm;replace hx:SlV (b7 :: b4 :: X) w5 kx x.kids:=hx.ext hT (by simp) (fun c hc=>by
      rcases Xb.1 hc with rfl|h
      exact .inr hb7;exact .inl h)
     have hS5:=hS3.trans hT.mn;clear hT hS3;have l7:=e7'.lt;have hX5:∀ c∈b7 :: b4 :: X,c<w5.heap.size:=fun c hc=>by
      rcases Xb.1 hc with rfl|h
      exact l7;have:=hX3 c h;omega
     refine W ?_;clear hX3 hE
     refine Zu (σ:=Nat×Nd×Value×Nat×Nat) (fun q=>[(0,pQ b),(1,.I (k:Int)),(4,pQ b4),(7,pQ b7)])
      (fun q w'=>J8 l q.1 (.loop k q.2.1) q.2.2.2.1 q.2.2.2.2=some r∧q.1≤f∧Pd w' b tv l q.2.2.2.1 q.2.2.2.2∧Blk w' b7 97 (ndC q.2.1 q.2.2.1)∧SlV (b7 :: b4 :: X) w' q.2.2.1 q.2.1.kids∧(∃ cs:List Value,cs.length=4∧Blk w' b4 97 cs)∧w'.cell? ⟨2,0,none⟩=some (.I m)∧Stp [b] w w'∧w5.heap.size≤w'.heap.size)
      (fun q=>q.1) (f,x,kx,i1,o1) ⟨rfl,rfl,rfl,rfl,trivial⟩ ⟨h,Xn _,hp3,e7',hx,⟨cs4,hc4,e4⟩,hm,hS5,Xn _⟩ ?_
     clear h hp3 e7' hx e4 hm hS5 l4 l7 hc4 cs4;rintro ⟨f1,y,ky,i2,o2⟩ w6 ⟨h,hf1,hp,e7,hy,⟨cs4,hc4,e4⟩,hm,hS,h56⟩;dsimp only at h hf1 hp e7 hy ⊢
     match cs4,hc4 with
     | [q0,q1,q2,q3],_=>
     cases f1 with
     | zero=>simp [J8] at h
     | succ f1=>
     rw [J8] at h;refine W ?_;refine CL (Z0M b tv l i2 o2 _ hp) ?_;rintro _ w7 ⟨rfl,hT⟩;replace hp:=hp.up hT;replace e4:=e4.up hT;replace e7:=e7.up hT;replace hy:=hy.up hT;replace hm:=hT.cell (by simp) hm;replace hS:=hS.trans hT.mn;replace h56:=Xg h56 hT.size;clear hT;refine W ?_;refine CL (ZbV _ _) ?_;rintro _ _ ⟨rfl,rfl⟩;by_cases hlv:Z60 (cur l i2).text=k
     · rw [if_pos hlv] at h
       have hi1:=hL.end_of hp.i_lt (Z7E hlv hk1);refine QO ?_;refine CL (Z0M b tv l i2 o2 _ hp) ?_;rintro _ w8 ⟨rfl,hT⟩;replace hp:=hp.up hT;replace e4:=e4.up hT;replace e7:=e7.up hT;replace hy:=hy.up hT;replace hm:=hT.cell (by simp) hm;replace hS:=hS.trans hT.mn;replace h56:=Xg h56 hT.size;clear hT;obtain ⟨hpb,hps,hpi,hpl,hpo⟩:=id hp;refine W ?_;refine Z5 (Za (u:=.I ((i2+1:Nat):Int)) rfl (by show some _=some _;simp) rfl rfl hpb (by simp)) ?_;rintro _ w9 ⟨hT,hpb9⟩;replace hps:=hps.ext (X':=[b]) hT (fun c hc=>hc) (fun c hc=>.inl hc);replace e4:=e4.ext hT (by simpa using n4);replace e7:=e7.ext hT (by simpa using n7b);replace hy:=hy.ext (X':=b7 :: b4 :: X) hT (fun c hc=>by simp at hc;subst hc;simp [hbX]) (fun c hc=>.inl hc);replace hm:=Ju hm hb1 hT;replace hS:=hS.trans hT;replace h56:=Xg h56 hT.size;replace hp:Pd w9 b tv l (i2+1) o2:=⟨hpb9,hps,hi1,hpl,hpo⟩
       clear hT hpb9 hps hpi hpl hpo hpb;refine W ?_;have hX9:∀ c∈b7 :: b4 :: X,c<w9.heap.size:=fun c hc=>Xa (hX5 c hc) h56;cases hE:J8 l f1 (.expr (k+1)) (i2+1) o2 with
       | none=>rw [hE] at h;simp at h
       | some r2=>
         rw [hE] at h;cases r2 with
         | err a c=>
           simp only [XD] at h;subst h;refine Z95 9 ([b]) [8] [(0,0),(1,1),(2,0),(3,0),(4,0),(5,2),(6,2),(7,0),(8,2)] rfl mixed (by kernel_rfl) (by kernel_rfl) (by kernel_rfl) (fun w1 hS1=>?_);replace hp:=hp.up hS1;replace e7:=e7.up hS1;replace hm:=hS1.cell (by simp) hm;replace hS:=hS.trans hS1.mn;have hsub:=IH f1 (by omega) l hL m (.expr (k+1)) (i2+1) o2 _ hE (b7 :: b4 :: X) b tv w1 hb1 (by simp [hbX]) (fun c hc=>Xa (hX9 c hc) hS1.size) hm hp (by omega) (by omega);refine JH rfl trivial (fun _=>ZY rfl) rfl ?_;refine Z5e rfl trivial (fun w' hw=>J2 rfl rfl (e7.ext hw (by simpa using n7b)) rfl) rfl ?_;refine JH rfl trivial (fun _=>ZY rfl) rfl ?_;refine JH rfl trivial (fun _=>ZY rfl) rfl ?_;refine JH rfl trivial (fun _=>Z9R rfl rfl (by unfold I64;omega)) rfl ?_;refine ZfU rfl trivial rfl (Zh rfl rfl) (PC.falls hsub rfl hS) rfl ?_;intro wz hwz;repeat'(first|refine Zj ?_|refine Zg ?_)
           refine ZJ ?_;exact PC.err hwz
         | ok z i3 o3=>
           simp only at h;refine ZDr 9 ([b]) [8] [(0,0),(1,1),(2,0),(3,0),(4,0),(5,2),(6,2),(7,0),(8,2)] (fun w1 hS1=>?_);replace hp:=hp.up hS1;replace e7:=e7.up hS1;replace hy:=hy.up hS1;replace e4:=e4.up hS1;replace hm:=hS1.cell (by simp) hm;replace hS:=hS.trans hS1.mn;have h5x:=Xg h56 hS1.size;have hX1:∀ c∈b7 :: b4 :: X,c<w1.heap.size:=fun c hc=>Xa (hX9 c hc) hS1.size;have hsub:=IH f1 (by omega) l hL m (.expr (k+1)) (i2+1) o2 _ hE (b7 :: b4 :: X) b tv w1 hb1 (by simp [hbX]) hX1 hm hp (by omega) (by omega);clear hS1 hX9 h56;refine D ?_;refine DC (PC.goes hsub rfl) (fun _ _ h=>h.2.2) ?_;rintro _ w10 ⟨⟨kz,rfl,hz⟩,hp10,hT⟩;replace e4:=e4.ext hT (by simpa using n4);replace e7:=e7.ext hT (by simpa using n7b);replace hy:=hy.ext (X':=b7 :: b4 :: X) hT (fun c hc=>by simp at hc;subst hc;simp [hbX]) (fun c hc=>.inl hc);replace hm:=Ju hm hb1 hT;replace hS:=hS.trans hT;have h510:=Xg h5x hT.size;have hX10:∀ c∈b7 :: b4 :: X,c<w10.heap.size:=fun c hc=>Xa (hX1 c hc) hT.size;clear hT hp hX1 h5x hsub;obtain ⟨py,cy,rfl,-⟩:=id hy;obtain ⟨pz,cz,rfl,-⟩:=id hz;refine Zc rfl trivial (Z0 (vs:=[(0,.agg (ndC y (.slice py y.kids.length cy)).toArray),(1,.agg (ndC z (.slice pz z.kids.length cz)).toArray)]) rfl (Jo _ _ _ _ _ _ _ _ _ _ _ _)) (fun _ _ h=>(Z6.stp h).mn) rfl ?_;intro bv w11 hN;have hbv:SlV (b7 :: b4 :: X) w11 bv [y,z]:=hN.slvG (css:=[ndC y _,ndC z _]) hX10 rfl rfl rfl (Z1m hy hz) (by simp [maxLen]);obtain ⟨bn,rfl,hbn,-,hT⟩:=id hN;replace hp10:=hp10.up hT;replace e4:=e4.up hT;replace e7:=e7.up hT;replace hm:=hT.cell (by simp) hm;replace hS:=hS.trans hT.mn;have h511:=Xg h510 hT.size;clear hT hN hX10 h510 hy hz;refine Z2w rfl trivial (vs:=[(0,.I 6),(2,str (cur l i2).text),(3,.slice (some ⟨bn,0,none⟩) 2 2)]) rfl (ZtA _ _ _ _) rfl ?_;refine Jy rfl trivial (Z9 (us:=ndC (.mk 6 0 (cur l i2).text [y,z]) (.slice (some ⟨bn,0,none⟩) 2 2)) rfl rfl rfl rfl (Zi hbv) e7 rfl) rfl ?_;rintro _ w12 ⟨hT,e7'⟩;have hb7x:∀ S:List Nat,S=[b7]→∀ c∈S,w.heap.size≤c:=fun S hS c hc=>by subst hS;simp at hc;subst hc;exact hb7w
           replace e4:=e4.ext hT (by simpa using n74.symm);replace hp10:Pd w12 b tv l i3 o3:=by
            obtain ⟨g1,g2,g3,g4,g5⟩:=hp10;have hSx:=hS.own hT (fun c hc=>.inr (hb7x _ rfl c hc));exact ⟨g1.ext hT (by simpa using n7b.symm),hs0.ext hSx (fun c hc=>hc) (fun c hc=>.inl hc),g3,g4,g5⟩
           replace hbv:=hbv.ext (X':=b7 :: b4 :: X) hT (fun c hc=>by simp at hc;simp [hc]) (fun c hc=>.inl hc);replace hm:=hT.cell (by simpa using n71.symm) hm;replace hS:=hS.own hT (fun c hc=>.inr (hb7x _ rfl c hc));have h512:=Xg h511 hT.size;clear hT h511;refine D ?_;by_cases k5:k=5;subst k5;refine W ?_;refine CL (Z0M b tv l i3 o3 _ hp10) ?_;rintro _ w13 ⟨rfl,hT⟩;replace hp10:=hp10.up hT;replace e4:=e4.up hT;replace e7':=e7'.up hT;replace hbv:=hbv.up hT;replace hm:=hT.cell (by simp) hm;replace hS:=hS.trans hT.mn;replace h512:=Xg h512 hT.size;clear hT;refine W ?_;refine CL (ZbW (cur l i3).text m _ hm (hL.tl i3) (hL.sp i3)) ?_;rintro _ w14 ⟨rfl,hT⟩;replace hp10:=hp10.up hT;replace e4:=e4.up hT;replace e7':=e7'.up hT;replace hbv:=hbv.up hT;replace hm:=hT.cell (by simp) hm;replace hS:=hS.trans hT.mn;replace h512:=Xg h512 hT.size;clear hT;by_cases hu:(cur l i3).text∈Z4B;rw [if_pos ⟨rfl,hu⟩] at h;rw [decide_eq_true hu];have hi3:=hL.end_of hp10.i_lt (fun e=>Z9f (e ▸ hu));refine W ?_;refine CL (Z0M b tv l i3 o3 _ hp10) ?_;rintro _ w15 ⟨rfl,hT⟩;replace hp10:=hp10.up hT;replace e4:=e4.up hT;replace e7':=e7'.up hT;replace hbv:=hbv.up hT;replace hm:=hT.cell (by simp) hm;replace hS:=hS.trans hT.mn;replace h512:=Xg h512 hT.size;clear hT;refine W ?_;refine Z5 (Za (u:=.I 7) rfl rfl rfl rfl e7' (by simp)) ?_;rintro _ w16 ⟨hT,e7''⟩;refine W ?_;refine Z5 (Za (u:=str (cur l i3).text) rfl rfl rfl rfl e7'' (by simp)) ?_;rintro _ w17 ⟨hT',e7q⟩;replace hT:=hT.trans hT';replace e7q:Blk w17 b7 97 (ndC (.mk 7 0 (cur l i3).text [y,z]) (.slice (some ⟨bn,0,none⟩) 2 2)):=e7q;clear hT' e7' e7'';replace e4:=e4.ext hT (by simpa using n74.symm);replace hp10:Pd w17 b tv l i3 o3:=by
            obtain ⟨g1,g2,g3,g4,g5⟩:=hp10;have hSx:=hS.own hT (fun c hc=>.inr (hb7x _ rfl c hc));exact ⟨g1.ext hT (by simpa using n7b.symm),hs0.ext hSx (fun c hc=>hc) (fun c hc=>.inl hc),g3,g4,g5⟩
           replace hbv:=hbv.ext (X':=b7 :: b4 :: X) hT (fun c hc=>by simp at hc;simp [hc]) (fun c hc=>.inl hc);replace hm:=hT.cell (by simpa using n71.symm) hm;replace hS:=hS.own hT (fun c hc=>.inr (hb7x _ rfl c hc));replace h512:=Xg h512 hT.size;clear hT;refine W ?_
           refine JA (σ:=Unit) (fun _=>[(0,pQ b),(1,.I (5:Int)),(4,pQ b4),(7,pQ b7)])
            (fun _ w'=>Blk w' b7 97 (ndC (.mk (if (cur l i2).text=[45] then 8 else 7) 0 (cur l i3).text [y,z]) (.slice (some ⟨bn,0,none⟩) 2 2))∧Stp [b7] w17 w') ?_ ?_
           by_cases hm8:(cur l i2).text=[45]
           rw [if_pos hm8]
           (refine QP ?_ ?_<;>intro hc)
           refine S1 (u:=.I 8) e7q ?_;rintro _ w18 ⟨hT,e8⟩;refine W ?_;exact QT () ⟨e8,hT⟩;exact absurd hm8 (by assumption);rw [if_neg hm8]
           (refine QP ?_ ?_<;>intro hc)
           exact absurd (by assumption) hm8;exact QT () ⟨e7q,Stp.refl _ _⟩;rintro _ w18 ⟨e8,hT⟩;replace e4:=e4.ext hT (by simpa using n74.symm);replace hp10:Pd w18 b tv l i3 o3:=by
            obtain ⟨g1,g2,g3,g4,g5⟩:=hp10;have hSx:=hS.own hT (fun c hc=>.inr (hb7x _ rfl c hc));exact ⟨g1.ext hT (by simpa using n7b.symm),hs0.ext hSx (fun c hc=>hc) (fun c hc=>.inl hc),g3,g4,g5⟩
           replace hbv:=hbv.ext (X':=b7 :: b4 :: X) hT (fun c hc=>by simp at hc;simp [hc]) (fun c hc=>.inl hc);replace hm:=hT.cell (by simpa using n71.symm) hm;replace hS:=hS.own hT (fun c hc=>.inr (hb7x _ rfl c hc));replace h512:=Xg h512 hT.size;clear hT e7q;obtain ⟨hpb,hps,hpi,hpl,hpo⟩:=id hp10;refine W ?_;refine Z5 (Za (u:=.I ((i3+1:Nat):Int)) rfl (by show some _=some _;simp) rfl rfl hpb (by simp)) ?_;rintro _ w19 ⟨hT,hpb9⟩;replace hps:=hps.ext (X':=[b]) hT (fun c hc=>hc) (fun c hc=>.inl hc);replace e4:=e4.ext hT (by simpa using n4);replace e8:=e8.ext hT (by simpa using n7b);replace hbv:=hbv.ext (X':=b7 :: b4 :: X) hT (fun c hc=>by simp at hc;subst hc;simp [hbX]) (fun c hc=>.inl hc);replace hm:=Ju hm hb1 hT;replace hS:=hS.trans hT;replace h512:=Xg h512 hT.size;refine W ?_;exact ZD (f1,.mk (if (cur l i2).text=[45] then 8 else 7) 0 (cur l i3).text [y,z],.slice (some ⟨bn,0,none⟩) 2 2,i3+1,o3) ⟨rfl,rfl,rfl,rfl,trivial⟩ ⟨h,by omega,⟨hpb9,hps,hi3,hpl,hpo⟩,e8,hbv,⟨_,rfl,e4⟩,hm,hS,h512⟩ (by omega);rw [if_neg (fun h=>hu h.2),if_neg (by omega)] at h;rw [decide_eq_false hu];refine W ?_;exact ZD (f1,.mk 6 0 (cur l i2).text [y,z],.slice (some ⟨bn,0,none⟩) 2 2,i3,o3) ⟨rfl,rfl,rfl,rfl,trivial⟩ ⟨h,by omega,hp10,e7',hbv,⟨_,rfl,e4⟩,hm,hS,h512⟩ (by omega);rw [if_neg (fun h=>k5 h.1)] at h;by_cases k4:k=4;rw [if_pos k4] at h;subst k4;simp only [XD] at h;subst h;have e7:=e7';replace hp:=hp10
           skip
           refine W ?_;refine SB (us:=ndC (.mk 6 0 (cur l i2).text [y,z]) (.slice (some ⟨bn,0,none⟩) 2 2)) (Zi hbv) e4 ?_;rintro _ wz ⟨hT,e4'⟩;refine W ?_;refine Zk rfl rfl rfl e4' rfl ?_;obtain ⟨hpb,hps,hpi,hpl,hpo⟩:=id hp;have hSx:=hS.own hT (fun c hc=>by simp at hc;subst hc;exact .inr hb4w);refine PC.ok ⟨_,rfl,?_⟩ ⟨hpb.ext hT (by simpa using n4.symm),hs0.ext hSx (fun c hc=>hc) (fun c hc=>.inl hc),hpi,hpl,hpo⟩ hSx;exact (hbv.ext (X':=b7 :: b4 :: X) hT (fun c hc=>by simp at hc;simp [hc]) (fun c hc=>.inl hc)).wk (fun c hc=>by simp [hc]);rw [if_neg k4] at h;refine QO ?_;exact ZD (f1,.mk 6 0 (cur l i2).text [y,z],.slice (some ⟨bn,0,none⟩) 2 2,i3,o3) ⟨rfl,rfl,rfl,rfl,trivial⟩ ⟨h,by omega,hp10,e7',hbv,⟨_,rfl,e4⟩,hm,hS,h512⟩ (by omega)
     rw [if_neg hlv] at h;simp only [XD] at h;subst h;refine QO ?_
     skip
     refine W ?_;refine SB (us:=ndC y ky) (Zi hy) e4 ?_;rintro _ wz ⟨hT,e4'⟩;refine W ?_;refine Zk rfl rfl rfl e4' rfl ?_;obtain ⟨hpb,hps,hpi,hpl,hpo⟩:=id hp;have hSx:=hS.own hT (fun c hc=>by simp at hc;subst hc;exact .inr hb4w);refine PC.ok ⟨_,rfl,?_⟩ ⟨hpb.ext hT (by simpa using n4.symm),hs0.ext hSx (fun c hc=>hc) (fun c hc=>.inl hc),hpi,hpl,hpo⟩ hSx;exact (hy.ext (X':=b7 :: b4 :: X) hT (fun c hc=>by simp at hc;simp [hc]) (fun c hc=>.inl hc)).wk (fun c hc=>by simp [hc])
end Go.Proofs.YtipfkbkkndacjaaGreatDoor
namespace Go.Eng
open Go Go.RowKit Go.Proofs
end Go.Eng
namespace Go.Proofs.YtipfkbkkndacjaaGreatDoor
open Go Go.Eng Go.RowKit Go.Proofs
theorem ZZ {α:Type} [Z7 α] (X:List Nat) (w:World):SlV (α:=α) X w (.N) []:=⟨none,0,rfl,Xn _,by simp [maxLen],fun _=>rfl,fun i hi=>absurd hi (Xu _)⟩
theorem ZfW:([]:Str)∉Z4C:=by decide
theorem Zax (k n:Int) (w):(Instr.build 97 #[(0,.I k),(1,.I n)]).run Tryz.prog w=.ok (.agg #[.I k,.I n,str [],.N]) w:=by kernel_rfl
theorem Zn0 (k:Int) (s:Str) (w):(Instr.build 97 #[(0,.I k),(2,str s)]).run Tryz.prog w=.ok (.agg #[.I k,.I 0,str s,.N]) w:=by kernel_rfl
theorem ZdI:Zav.length≤1000000:=by decide
theorem ZfX:ZeJ.length≤1000000:=by decide
theorem Z7Q:([]:Str)∉Z2W:=by decide
theorem ZwQ (f:Nat) (IH:ZjB f) (l:List Tkn) (hL:Z3E l) (m:Int) (i o:Nat) (r:Out Nd) (h:J8 l (f+1) .prim i o=some r) (X:List Nat) (b:Nat) (tv:Value) (w:World) (hb1:b≠2) (hbX:b∈X) (hX:∀ c∈X,c<w.heap.size) (hm:w.cell? ⟨2,0,none⟩=some (.I m)) (hp:Pd w b tv l i o) :
 Calls Tryz.prog 279 #[pQ b] w (PC b w tv l r (fun x v w'=>NdV X w' v x)):=by
 have hs0:=hp.2.1;have hi:=hp.i_lt;have hcur:=Z68 hi;rw [J8] at h;refine cW1 91 Tryz.func279 ?_;refine W ?_;refine Z1 Z2 rfl ?_;rintro _ w0 ⟨b2,rfl,hb2,e2,hS⟩;have n2:b2≠b:=by have:=hp.lt;omega
 have hb2w:w.heap.size≤b2:=hb2;obtain ⟨hpb,hps,hpi,hpl,hpo⟩:=id hp;replace hpb:=hpb.up hS;replace hps:=hps.up hS;replace hm:=hS.cell (by simp) hm;refine W ?_;refine ZDr 12 [] [11] [(0,0),(1,0),(2,0),(3,1),(4,0),(5,0),(6,0),(7,1),(8,0),(9,1),(10,2),(11,2)] (fun w1 hS1=>?_);replace hpb:=hpb.up hS1;replace hps:=hps.up hS1;replace e2:=e2.up hS1;replace hm:=hS1.cell (by simp) hm;replace hS:=hS.trans hS1;clear hS1;refine D ?_;refine Zc rfl trivial Z2 (fun _ _ ⟨_,_,_,_,h⟩=>h) rfl ?_;rintro _ w2 ⟨b3,rfl,hb3,e3,hS2⟩;have n3:b3≠b:=by have:=hpb.lt;omega
 have n32:b3≠b2:=by have:=e2.lt;omega
 have n31:b3≠2:=by have:=block_lt_of_cell hm;simp at this;omega
 have hb3w:w.heap.size≤b3:=Xg hS.size hb3;refine Jy rfl trivial (Z9 (us:=Z3.enc l[i]) rfl rfl rfl rfl (Z3.one _) e3 rfl) rfl ?_;rintro _ w3 ⟨hT,e3⟩;have hT0:=hS2.ow hT;clear hT hS2;replace hpb:=hpb.up hT0;replace hps:=hps.up hT0;replace e2:=e2.up hT0;replace hm:=hT0.cell (by simp) hm;replace hS:=hS.trans hT0;clear hT0 hb3;refine D ?_;rw [← hcur] at e3;clear hp;have hp:Pd w3 b tv l i o:=⟨hpb,hps,hpi,hpl,hpo⟩
 have fin:∀ (nd:Nd) (i' o':Nat) (w4 w5:World) (kv:Value),nd.kids=[]→kv=.N→Pd w4 b tv l i' o'→Stp [b] w w4→Stp [b2] w4 w5→PC b w tv l (.ok nd i' o') (fun x v w'=>NdV X w' v x) (.returned (.agg (ndC nd kv).toArray)) w5:=by
  intro nd i' o' w4 w5 kv hk hkv hp4 h1 h2;subst hkv;obtain ⟨g1,g2,g3,g4,g5⟩:=hp4;have hSx:=h1.own h2 (fun c hc=>by simp at hc;subst hc;exact .inr hb2w);refine PC.ok ⟨_,rfl,?_⟩ ⟨g1.ext h2 (by simpa using n2.symm),hs0.ext hSx (fun c hc=>hc) (fun c hc=>.inl hc),g3,g4,g5⟩ hSx;rw [hk];exact ZZ _ _
 by_cases c1:(cur l i).kind=2
 · rw [if_pos c1] at h
   simp only [XD] at h;subst h;refine QO ?_;all_goals try exact absurd c1 (by assumption)
   obtain ⟨hpb,hps,hpi,hpl,hpo⟩:=id hp;have hi1:=hL.end_of_kind hp.i_lt (by rw [c1];decide);refine W ?_;refine Z5 (Za (u:=.I ((i+1:Nat):Int)) rfl (by show some _=some _;simp) rfl rfl hpb (by simp)) ?_;rintro _ w4 ⟨hT,hpb9⟩;replace hps:=hps.ext (X':=[b]) hT (fun c hc=>hc) (fun c hc=>.inl hc);replace e2:=e2.ext hT (by simpa using n2);replace e3:=e3.ext hT (by simpa using n3);replace hS:=(hS.mono (S':=[b]) (by simp)).trans hT;replace hp:Pd w4 b tv l (i+1) o:=⟨hpb9,hps,hi1,hpl,hpo⟩
   clear hT hpb9 hpb hps;refine W ?_;apply Z8 (vs:=[(0,.I 1),(1,.I (cur l i).num)]) rfl (Zax _ _) rfl;refine SB (us:=ndC (.mk 1 (cur l i).num [] []) (.N)) (Zi (x:=(.mk 1 (cur l i).num [] [])) (ZZ [] w)) e2 ?_;rintro _ w5 ⟨hT,e2'⟩;refine W ?_;refine Zk rfl rfl rfl e2' rfl ?_;exact fin _ _ _ _ _ _ rfl rfl hp hS hT
 rw [if_neg c1] at h;by_cases c2:(cur l i).kind=3
 · rw [if_pos c2] at h
   simp only [XD] at h;subst h;refine QO ?_;all_goals try exact absurd (by assumption) c1
   all_goals try exact absurd c2 (by assumption)
   obtain ⟨hpb,hps,hpi,hpl,hpo⟩:=id hp;have hi1:=hL.end_of_kind hp.i_lt (by rw [c2];decide);refine W ?_;refine Z5 (Za (u:=.I ((i+1:Nat):Int)) rfl (by show some _=some _;simp) rfl rfl hpb (by simp)) ?_;rintro _ w4 ⟨hT,hpb9⟩;replace hps:=hps.ext (X':=[b]) hT (fun c hc=>hc) (fun c hc=>.inl hc);replace e2:=e2.ext hT (by simpa using n2);replace e3:=e3.ext hT (by simpa using n3);replace hS:=(hS.mono (S':=[b]) (by simp)).trans hT;replace hp:Pd w4 b tv l (i+1) o:=⟨hpb9,hps,hi1,hpl,hpo⟩
   clear hT hpb9 hpb hps;refine W ?_;apply Z8 (vs:=[(0,.I 3),(1,.I (cur l i).num)]) rfl (Zax _ _) rfl;refine SB (us:=ndC (.mk 3 (cur l i).num [] []) (.N)) (Zi (x:=(.mk 3 (cur l i).num [] [])) (ZZ [] w)) e2 ?_;rintro _ w5 ⟨hT,e2'⟩;refine W ?_;refine Zk rfl rfl rfl e2' rfl ?_;exact fin _ _ _ _ _ _ rfl rfl hp hS hT
 rw [if_neg c2] at h;refine QO ?_;all_goals try exact absurd (by assumption) c1
 all_goals try exact absurd (by assumption) c2
 refine CM (Zh rfl rfl) (Z3J b tv l [116,114,117,101] i o _ hp (fun h=>hL.end_of hp.i_lt (by rw [h];decide))) ?_;rintro _ w4 ⟨rfl,hp4,hT⟩;replace e2:=e2.ext hT (by simpa using n2);replace e3:=e3.ext hT (by simpa using n3);replace hm:=Ju hm hb1 hT;replace hS:=(hS.mono (S':=[b]) (by simp)).trans hT;clear hT hp;have c3:¬ (cur l i).text=[116,114,117,101]:=fun h=>hL.plain i (by rw [h];decide)
 rw [if_neg c3] at h hp4;rw [decide_eq_false c3];refine W ?_;refine CM (Zh rfl rfl) (Z3J b tv l [102,97,108,115,101] i o _ hp4 (fun h=>hL.end_of hp4.i_lt (by rw [h];decide))) ?_;rintro _ w5 ⟨rfl,hp5,hT⟩;replace e2:=e2.ext hT (by simpa using n2);replace e3:=e3.ext hT (by simpa using n3);replace hm:=Ju hm hb1 hT;replace hS:=hS.trans hT;clear hT hp4;have c4:¬ (cur l i).text=[102,97,108,115,101]:=fun h=>hL.plain i (by rw [h];decide)
 rw [if_neg c4] at h hp5;rw [decide_eq_false c4];have hp:=hp5;clear hp5;have c5:¬ (cur l i).text=[40]:=fun h=>hL.plain i (by rw [h];decide)
 rw [if_neg c5] at h;have c6:¬ (cur l i).text=[105,102]:=fun h=>hL.plain i (by rw [h];decide)
 rw [if_neg c6] at h;repeat'(first|refine W1 ?_|omega|refine VG ?_ ?_<;>intro hg|refine VC ?_ ?_<;>intro hc)
 all_goals try exact absurd (by assumption) c5
 all_goals try exact absurd (by assumption) c6
 refine CL (Z34 ZeJ Z4C ZfW (cur l i).text m _ hm ZfX (hL.tl i) (fun h=>ZjA h (hL.sp i))) ?_;rintro _ w6 ⟨rfl,hT⟩;replace hp:=hp.up hT;replace e2:=e2.up hT;replace e3:=e3.up hT;replace hm:=hT.cell (by simp) hm;replace hS:=hS.trans hT.mn;clear hT;have c7:¬ ((cur l i).text∈Z4C):=fun h=>hL.plain i (Xh.2 (.inr h));rw [if_neg c7] at h;rw [decide_eq_false c7];refine W ?_;refine CL (Z34 Zav Z2W Z7Q (cur l i).text m _ hm ZdI (hL.tl i) (fun h=>ZfT h (hL.sp i))) ?_;rintro _ w7 ⟨rfl,hT⟩;replace hp:=hp.up hT;replace e2:=e2.up hT;replace e3:=e3.up hT;replace hm:=hT.cell (by simp) hm;replace hS:=hS.trans hT.mn;clear hT;by_cases c8:(cur l i).text∈Z2W;rw [if_pos c8] at h;simp only [XD] at h;subst h;rw [decide_eq_true c8];obtain ⟨hpb,hps,hpi,hpl,hpo⟩:=id hp;have hi1:=hL.end_of hp.i_lt (fun e=>Z7Q (e ▸ c8));refine W ?_;refine Z5 (Za (u:=.I ((i+1:Nat):Int)) rfl (by show some _=some _;simp) rfl rfl hpb (by simp)) ?_;rintro _ w8 ⟨hT,hpb9⟩;replace hps:=hps.ext (X':=[b]) hT (fun c hc=>hc) (fun c hc=>.inl hc);replace e2:=e2.ext hT (by simpa using n2);replace e3:=e3.ext hT (by simpa using n3);replace hS:=hS.trans hT;replace hp:Pd w8 b tv l (i+1) o:=⟨hpb9,hps,hi1,hpl,hpo⟩
 clear hT hpb9 hpb hps;refine W ?_;apply Z8 (vs:=[(0,.I 4),(2,str (cur l i).text)]) rfl (Zn0 _ _) rfl;refine SB (us:=ndC (.mk 4 0 (cur l i).text []) (.N)) (Zi (x:=(.mk 4 0 (cur l i).text [])) (ZZ [] w)) e2 ?_;rintro _ w9 ⟨hT,e2'⟩;refine W ?_;refine Zk rfl rfl rfl e2' rfl ?_;exact fin _ _ _ _ _ _ rfl rfl hp hS hT;rw [if_neg c8] at h;simp only [XD] at h;subst h;rw [decide_eq_false c8];refine W ?_;refine ZU rfl (Zh rfl rfl) (Z9e b tv l i o 20 _ w hp hS) rfl ?_;intro wz hwz;repeat'(first|refine Zj ?_|refine Zg ?_)
 refine ZJ ?_;exact PC.fail hwz
theorem ZwR {l:List Tkn} {m:Int} {i o:Nat} {r:Out Nd} (IH:∀ (X:List Nat) (b:Nat) (tv:Value) (w:World),b≠2→b∈X→(∀ c∈X,c<w.heap.size)→w.cell? ⟨2,0,none⟩=some (.I m)→Pd w b tv l i o→
 Calls Tryz.prog 279 #[pQ b] w (PC b w tv l r (fun x v w'=>NdV X w' v x))) (X:List Nat) (b:Nat) (tv:Value) (w:World) (hb1:b≠2) (hbX:b∈X) (hX:∀ c∈X,c<w.heap.size) (hm:w.cell? ⟨2,0,none⟩=some (.I m)) (hp:Pd w b tv l i o) :
 Calls Tryz.prog 226 #[pQ b,.I ((8:Nat):Int)] w (PC b w tv l r (fun x v w'=>NdV X w' v x)):=by
 have hs0:=hp.2.1;refine cW2 98 Tryz.func226 ?_;refine W ?_;refine Z1 Z2 rfl ?_;rintro _ w1 ⟨b4,rfl,hb4,e4,hS⟩;have n4:b4≠b:=by have:=hp.lt;omega
 have hb4w:w.heap.size≤b4:=hb4;replace hm:=hS.cell (by simp) hm;replace hp:=hp.up hS;have l4:=e4.lt;have hX1:∀ c∈b4 :: X,c<w1.heap.size:=fun c hc=>by
  rcases Xb.1 hc with rfl|hc
  exact l4;have:=hX c hc;have:=hS.size;omega
 refine QO ?_;have hsub:=IH (b4 :: X) b tv _ hb1 (by simp [hbX]) hX1 hm hp;cases r with
 | err a c=>
   refine ZU rfl (ZX rfl) (PC.falls hsub rfl hS.mn) rfl ?_;intro wz hwz;repeat'(first|refine Zj ?_|refine Zg ?_)
   refine ZJ ?_;exact PC.err hwz
 | ok x i3 o3=>
   refine CL (PC.goes hsub rfl) ?_;rintro _ wE ⟨⟨kx,rfl,hx⟩,hp7,hT⟩;replace e4:=e4.ext hT (by simpa using n4);replace hS:=(hS.mono (S':=[b]) (by simp)).trans hT;clear hT hp;refine SB (us:=ndC x kx) (Zi hx) e4 ?_;rintro _ wz ⟨hT,e4'⟩;refine W ?_;refine Zk rfl rfl rfl e4' rfl ?_;obtain ⟨g1,g2,g3,g4,g5⟩:=hp7;have hSx:=hS.own hT (fun c hc=>by simp at hc;subst hc;exact .inr hb4w);refine PC.ok ⟨_,rfl,?_⟩ ⟨g1.ext hT (by simpa using n4.symm),hs0.ext hSx (fun c hc=>hc) (fun c hc=>.inl hc),g3,g4,g5⟩ hSx;exact (hx.ext (X':=b4 :: X) hT (fun c hc=>by simp at hc;simp [hc]) (fun c hc=>.inl hc)).wk (fun c hc=>by simp [hc])
theorem ZfY:∀ f,ZjB f:=by
 intro f
 induction f using Nat.strongRecOn with
 | _ f ih=>
   intro l hL m c i o r h X b tv w hb1 hbX hX hm hp;cases f with
   | zero=>simp [J8] at h
   | succ f=>
     have IH:=ih f (XS f);cases c with
     | loop k x=>trivial
     | prim=>exact ZwQ f IH l hL m i o r h X b tv w hb1 hbX hX hm hp
     | expr k=>
       intro hk1 hk8;rw [J8] at h;split at h;rename_i hsp;rcases hsp with ⟨_,ht⟩|⟨_,ht⟩<;>exact absurd (by rw [ht];decide) (hL.plain i)
       rename_i hsp;split at h;rename_i h8;subst h8;exact ZwR (IH l hL m .prim i o r h) X b tv w hb1 hbX hX hm hp;exact ZwP f (fun f' hf'=>ih f' (by omega)) l hL m k i o r hk1 (by omega) hsp h X b tv w hb1 hbX hX hm hp
theorem Z7R:Z1C [114,117,108,101,32,102,114,111,109,32,111,110,32,105,102,32,100,117,101,32,117,110,108,101,115,115,32,101,108,115,101,32,111,114,32,97,110,100,32,110,111,116,32,116,114,117,101,32,102,97,108,115,101,32,116,104,101,110,32,101,110,100,32,100,97,121,115,32,119,101,101,107,115,32,109,111,110,116,104,115,32,99,111,117,114,116,100,97,121,115,32,110,101,120,116,32,112,114,101,118,32,108,97,116,101,114,32,101,97,114,108,105,101,114,32,98,101,116,119,101,101,110,32,100,97,121,32,115,101,114,118,101,100,32,101,120,116,114,97,32,98,121,32,116,111,32,99,111,117,114,116,32,97,109,111,117,110,116]=Zau++Zf:=by decide +kernel
theorem Zay (X:List Nat) (w:World) (hX:∀ b∈X,b<w.heap.size):CC 183 #[] w fun r w'=>Row X w' w.heap.size 9 r (Zau++Zf)∧Stp [] w w':=by
 refine cW0 2 Tryz.func183 ?_;refine W ?_;refine CM (ZX rfl) (Z0X X [114,117,108,101,32,102,114,111,109,32,111,110,32,105,102,32,100,117,101,32,117,110,108,101,115,115,32,101,108,115,101,32,111,114,32,97,110,100,32,110,111,116,32,116,114,117,101,32,102,97,108,115,101,32,116,104,101,110,32,101,110,100,32,100,97,121,115,32,119,101,101,107,115,32,109,111,110,116,104,115,32,99,111,117,114,116,100,97,121,115,32,110,101,120,116,32,112,114,101,118,32,108,97,116,101,114,32,101,97,114,108,105,101,114,32,98,101,116,119,101,101,110,32,100,97,121,32,115,101,114,118,101,100,32,101,120,116,114,97,32,98,121,32,116,111,32,99,111,117,114,116,32,97,109,111,117,110,116] _ hX (by decide +kernel)) ?_;rintro v w1 ⟨hr,hS⟩;rw [Z7R] at hr;refine RT ?_;exact ⟨hr,hS⟩
theorem Z1o (s:Str) (w):CC 106 #[str s] w fun r w'=>r=.B (ZG s)∧Stp [] w w':=by
 refine cW1 60 Tryz.func106 ?_;refine W ?_;by_cases h0:s.length≠0∧s.length≤12∧97≤Jc s 0∧Jc s 0≤122
 case neg=>
  have hn:ZG s=false:=by
   unfold ZG Z3I;rw [decide_eq_false (fun h=>h0 ⟨by omega,h.2.1,h.2.2.1,h.2.2.2.1⟩)];rfl
  by_cases hl:s.length≠0
  (refine QP ?_ ?_<;>intro hg)
  refine RU ?_;exact ⟨by rw [hn],Stp.refl _ _⟩;refine J5 (i:=0) rfl rfl rfl (by omega) rfl ?_
  (refine QP ?_ ?_<;>intro hg)
  refine RU ?_;exact ⟨by rw [hn],Stp.refl _ _⟩;refine J5 (i:=0) rfl rfl rfl (by omega) rfl ?_;refine RT ?_;exact ⟨by rw [hn],Stp.refl _ _⟩;refine RT ?_;exact ⟨by rw [hn],Stp.refl _ _⟩
 obtain ⟨h1,h2,h3,h4⟩:=h0;refine QO ?_;refine J5 (i:=0) rfl rfl rfl (by omega) rfl ?_;refine QO ?_;refine J5 (i:=0) rfl rfl rfl (by omega) rfl ?_;refine QO ?_;refine LP (σ:=Nat) (fun i=>[(0,str s),(3,.I (i:Int))]) (fun i w'=>i≤s.length∧w'=w∧∀ j,j<i→Zjx (Jc s j)) (fun i=>s.length - i) 0 ⟨Xq _,rfl,fun j hj=>absurd hj (Xu _)⟩ ?_;rintro i w2 ⟨hi,rfl,hall⟩
 try dsimp only at hi hall ⊢
 by_cases hlt:¬ s.length≤i;by_cases hle:(97≤Jc s i∧Jc s i≤122)∨(48≤Jc s i∧Jc s i≤57)
 · have hall':∀ j,j<i+1→Zjx (Jc s j):=fun j hj=>by
    by_cases e:j=i;subst e;exact hle;exact hall j (by omega)
   repeat'(first|refine W1 ?_|omega|refine VG ?_ ?_<;>intro hg|refine VC ?_ ?_<;>intro hc)
   all_goals exact QL (i+1) ⟨by omega,rfl,hall'⟩ (by omega)
 · have hn:ZG s=false:=by
    unfold ZG Z3I;rw [decide_eq_false (fun h=>hle (h.2.2.2.2 i (by omega)))];rfl
   repeat'(first|refine W1 ?_|omega|refine VG ?_ ?_<;>intro hg|refine VC ?_ ?_<;>intro hc)
   all_goals
    refine RU ?_;exact ⟨by rw [hn],Stp.refl _ _⟩
 obtain rfl:i=s.length:=by omega
 have hok:Z3I s=true:=decide_eq_true ⟨by omega,h2,h3,h4,hall⟩;refine QO ?_;refine CM Z5Q (Zay [] _ (by simp)) ?_;rintro rv w3 ⟨hr,hS⟩;refine W ?_;refine CL (Z08 [] rv _ s _ hr.slv0) ?_;rintro _ w4 ⟨rfl,hS4⟩;refine W ?_;refine WR ?_;refine .mk ⟨?_,hS.trans hS4⟩;unfold ZG;rw [hok,Bool.true_and];congr 1;refine decide_eq_decide.2 ?_;rw [← Int.not_le,ZbT,Xh,not_or]
def Z1V (x:Nd) (want:Int):Int:=if ZE x≤12 then (if Ze x=0 then 21 else if Ze x=want then 0 else 21) else 2
theorem ZbX (v:Value) (x:Nd) (want:Int) (w) (hx:NdV [] w v x) (hF:SlV [] w Z2q Zf):CC 168 #[v,.I want] w fun r w'=>r=.I (Z1V x want)∧Stp [] w w':=by
 obtain ⟨kv,rfl,hs⟩:=hx;refine cW2 20 Tryz.func168 ?_;refine W ?_;refine Z1 (Zq rfl) rfl ?_;rintro _ w1 ⟨b,rfl,hb,hblk,hS⟩;replace hblk:Blk w1 b _ (ndC x kv):=hblk;refine W ?_;refine CL (Zj0 [] [] _ x _ ⟨kv,rfl,hs.up hS⟩ (hF.up hS)) ?_;rintro _ w2 ⟨rfl,hS2⟩;replace hS:=hS.trans hS2;unfold Z1V;by_cases hn:ZE x≤12;rw [if_pos hn,if_pos hn,if_pos hn];by_cases ht:Ze x=0;rw [if_pos ht,if_pos ht];refine RT ?_;exact ⟨rfl,hS⟩;rw [if_neg ht,if_neg ht];by_cases hw:Ze x=want;rw [if_pos hw];refine RT ?_;exact ⟨rfl,hS⟩;rw [if_neg hw];refine RT ?_;exact ⟨rfl,hS⟩;rw [if_neg hn,if_neg hn,if_neg hn];refine RT ?_;exact ⟨rfl,hS⟩
structure Rul where
 name:Str
 frm:Int
 on:Str
 cnd:Nd
 due:Nd
 unl:Str
 els:Str
abbrev rlC (r:Rul) (ki kd:Value):List Value:=[str r.name,.I r.frm,str r.on,.I r.cnd.kind,.I r.cnd.num,str r.cnd.word,ki,.I r.due.kind,.I r.due.num,str r.due.word,kd,str r.unl,str r.els]
def ZfZ (X:List Nat) (w:World) (v:Value) (r:Rul):Prop:=∃ ki kd,v=.agg (rlC r ki kd).toArray∧SlV X w ki r.cnd.kids∧SlV X w kd r.due.kids
def Jh (r:Rul):Bool:=ZG r.name && ZG r.on && (decide (r.unl=[]) || ZG r.unl) && (decide (r.els=[]) || ZG r.els)
def Z0S (r:Rul):Int:=if Jh r=false then 7 else if r.frm<0∨r.frm > 3652058 then 5 else if Z1V r.cnd 2≠0 then Z1V r.cnd 2 else Z1V r.due 3
theorem Z6J (v:Value) (r:Rul) (m:Int) (w) (hv:ZfZ [] w v r) (hF:SlV [] w Z2q Zf) (hm:w.cell? ⟨2,0,none⟩=some (.I m)) :
 CC 92 #[v] w fun r' w'=>r'=.I (Z0S r)∧Stp [] w w':=by
 obtain ⟨ki,kd,rfl,hi,hd⟩:=hv;refine cW1 55 Tryz.func92 ?_;refine W ?_;refine Z1 (Zq rfl) rfl ?_;rintro _ w1 ⟨b,rfl,hb,hblk,hS⟩;replace hblk:Blk w1 b _ (rlC r ki kd):=hblk;refine W ?_;refine CM (ZX rfl) (Z2B r.name m _ (hF.up hS) (hS.cell (by simp) hm)) ?_;rintro _ w2 ⟨rfl,hT⟩;replace hblk:=hblk.up hT;replace hS:=hS.trans hT;clear hT;refine Z5k (σ:=Bool) (fun q=>[(1,pQ b),(2,.I 0),(4,.B q)]) (fun q w'=>Blk w' b 99 (rlC r ki kd)∧Stp [] w w'∧q=!Jh r) ?_ ?_
 · cases hA:ZG r.name with
   | false=>
     refine W ?_;exact QT true ⟨hblk,hS,by simp [Jh, *]⟩
   | true=>
     refine W ?_;refine CM (ZX rfl) (Z2B r.on m _ (hF.up hS) (hS.cell (by simp) hm)) ?_;rintro _ w2 ⟨rfl,hT⟩;replace hblk:=hblk.up hT;replace hS:=hS.trans hT;clear hT;cases hB:ZG r.on with
     | false=>
       refine W ?_;exact QT true ⟨hblk,hS,by simp [Jh, *]⟩
     | true=>
       repeat'(first|refine W1 ?_|omega|refine VG ?_ ?_<;>intro hg|refine VC ?_ ?_<;>intro hc)
       · refine CM (ZX rfl) (Z2B r.unl m _ (hF.up hS) (hS.cell (by simp) hm)) ?_
         rintro _ w2 ⟨rfl,hT⟩;replace hblk:=hblk.up hT;replace hS:=hS.trans hT;clear hT;cases hC:ZG r.unl with
         | false=>
           refine W ?_;exact QT true ⟨hblk,hS,by simp [Jh, *]⟩
         | true=>
           (refine QP ?_ ?_<;>intro hg)
           · refine CM (ZX rfl) (Z2B r.els m _ (hF.up hS) (hS.cell (by simp) hm)) ?_
             rintro _ w2 ⟨rfl,hT⟩;replace hblk:=hblk.up hT;replace hS:=hS.trans hT;clear hT;cases hD:ZG r.els with
             | false=>
               refine W ?_;exact QT true ⟨hblk,hS,by simp [Jh, *]⟩
             | true=>
               refine W ?_;exact QT false ⟨hblk,hS,by simp [Jh, *]⟩
           exact QT false ⟨hblk,hS,by simp [Jh, *]⟩
       · refine CM (ZX rfl) (Z2B r.els m _ (hF.up hS) (hS.cell (by simp) hm)) ?_
         rintro _ w2 ⟨rfl,hT⟩;replace hblk:=hblk.up hT;replace hS:=hS.trans hT;clear hT;cases hD:ZG r.els with
         | false=>
           refine W ?_;exact QT true ⟨hblk,hS,by simp [Jh, *]⟩
         | true=>
           refine W ?_;exact QT false ⟨hblk,hS,by simp [Jh, *]⟩
       exact QT false ⟨hblk,hS,by simp [Jh, *]⟩
 rintro q w3 ⟨hblk,hS,hq⟩
 try dsimp only at hq ⊢
 unfold Z0S;cases hnm:Jh r with
 | false=>
   rw [hnm] at hq;subst hq;refine RT ?_;exact ⟨rfl,hS⟩
 | true=>
   rw [hnm] at hq;subst hq;refine W ?_;by_cases hr:r.frm<0∨r.frm > 3652058
   · repeat'(first|refine W1 ?_|omega|refine VG ?_ ?_<;>intro hg|refine VC ?_ ?_<;>intro hc)
     all_goals
      refine RU ?_;exact ⟨by rw [if_neg (by decide),if_pos hr],hS⟩
   refine QO ?_;apply Z4 (Zn (us:=ndC r.cnd ki) rfl rfl hblk rfl rfl) rfl;refine W ?_;refine CL (ZbX _ r.cnd 2 _ ⟨ki,rfl,hi.up hS⟩ (hF.up hS)) ?_;rintro _ w4 ⟨rfl,hT⟩;replace hblk:=hblk.up hT;replace hS:=hS.trans hT;clear hT;by_cases h2:Z1V r.cnd 2=0;refine QO ?_;apply Z4 (Zn (us:=ndC r.due kd) rfl rfl hblk rfl rfl) rfl;refine W ?_;refine CL (ZbX _ r.due 3 _ ⟨kd,rfl,hd.up hS⟩ (hF.up hS)) ?_;rintro _ w5 ⟨rfl,hT⟩;refine RT ?_;exact ⟨by rw [if_neg (by decide),if_neg hr,if_neg (by simpa using h2)],hS.trans hT⟩;refine RT ?_;exact ⟨by rw [if_neg (by decide),if_neg hr,if_pos h2],hS⟩
end Go.Proofs.YtipfkbkkndacjaaGreatDoor
namespace Go.Eng
open Go Go.RowKit Go.Proofs
section
variable {P:Program} {n:Nat} {Q:Exit→Act→World→Prop} {e:Env} {w:World} {ops:Array Oper} {rest:List Oper} {ty:TypeId} {pos:String} {af:Array Edge}
theorem ZbY {d:Option Nat} {g:Option (Nat×Bool)} {f:Nat} {fn:Func} {xs:Array Operand} {ts:Array TypeId} {vs bd cap us:Array Value} {G:Value→World→Prop} {c:Operand} [hf:Fun P f fn] (hc:ev e c=some (.func (.func f) bd cap))
 (hv:∀ a,Has n e a→xs.map a.eval=vs) (hu:bd++vs++cap=us) (h:Calls P f us w (Ret G)) :
 OE P n ⟨d,.call { callee:=.value c,args:=xs,argTypes:=ts },ty,pos,af,g⟩ e w G:=
 ⟨fun a ha Q => by
   have he:(execOp a.eval ⟨d,.call { callee:=.value c,args:=xs,argTypes:=ts },ty,pos,af,g⟩).run P w=.ok (.enter f us) w:=by
    simp only [execOp,resolve,ha.ev hc,Deferred.ofValue,hv a ha];simp [invoke];rw [← Array.append_assoc,hu];exact hf.enters us w
   unfold Oper.wp;rw [he];simp only [Oper.upon];refine h.mono ?_;rintro r w' ⟨v,rfl,hg⟩;exact ⟨v,rfl,hg⟩⟩
theorem Z9g {d:Nat} {f:Nat} {fn:Func} {xs:Array Operand} {ts:Array TypeId} {vs bd cap us:Array Value} {c:Operand} {ch:List PanicEntry} {F:World→Prop} [hf:Fun P f fn]
 (hc:ev e c=some (.func (.func f) bd cap)) (hv:∀ a,Has n e a→xs.map a.eval=vs) (hu:bd++vs++cap=us) (h:Calls P f us w (fun e w'=>e=.panicked ch∧F w')) (hd:Nat.blt d n=true) (k:∀ w',F w'→WQ n Q (.panic ch) [] w') :
 WL P n ops Q (⟨some d,.call { callee:=.value c,args:=xs,argTypes:=ts },ty,pos,af,none⟩ :: rest) e w:=
 Zan (G:=fun _ _=>False) (F:=fun ch' w'=>ch'=ch∧F w') (ZfI hc hv hu (h.mono fun e w' ⟨h1,h2⟩=>by rw [h1];exact .pan ⟨rfl,h2⟩)) hd (fun ch' w' ⟨h1,h2⟩=>by subst h1;exact Z96 (k w' h2)) (fun _ _ h=>h.elim)
theorem Z0N {d:Option Nat} {g:Option (Nat×Bool)} {f:Nat} {x:Operand} {v:Value} (hx:ev e x=some v):PR P n ⟨d,.makeFunc (.func f) #[x] #[],ty,pos,af,g⟩ e w (.func (.func f) #[v] #[]):=
 ⟨fun a ha=>by simp [execOp,Instr.makeFunc,ha.ev hx]⟩
end
end Go.Eng
namespace Go.Proofs.YtipfkbkkndacjaaGreatDoor
open Go Go.Eng Go.RowKit Go.Proofs
def _root_.Go.Eng.RuleM.rul (r:RuleM):Rul:=⟨r.name,r.frm,r.on,r.cond,r.due,r.unl,r.els⟩
instance:Z7 Rul where
 k:=13
 rep:=fun X w r cs=>∃ ki kd,cs=rlC r ki kd∧SlV X w ki r.cnd.kids∧SlV X w kd r.due.kids
 len:=by rintro X w r cs ⟨ki,kd,rfl,_⟩;rfl
 one:=by
  rintro X w r cs ⟨ki,kd,rfl,h1,h2⟩ c hc;have e1:=h1.one;have e2:=h2.one;simp only [rlC,Xb,Xj,or_false] at hc;rcases hc with rfl|rfl|rfl|rfl|rfl|rfl|rfl|rfl|rfl|rfl|rfl|rfl|rfl<;>first|rfl|exact e1|exact e2
 ext:=by
  rintro X S X' w w' r cs ⟨ki,kd,rfl,h1,h2⟩ hS g1 g2;exact ⟨ki,kd,rfl,h1.ext hS g1 g2,h2.ext hS g1 g2⟩
theorem Zor (r:Rul) {X Y:List Nat} {w w':World} {ki kd:Value} (h1:SlV X w ki r.cnd.kids) (h2:SlV Y w' kd r.due.kids):∀ c∈rlC r ki kd,c.oneCell'=true:=by
 intro c hc;have e1:=h1.one;have e2:=h2.one;simp only [rlC,Xb,Xj,or_false] at hc;rcases hc with rfl|rfl|rfl|rfl|rfl|rfl|rfl|rfl|rfl|rfl|rfl|rfl|rfl<;>first|rfl|exact e1|exact e2
theorem Zg0 (X:List Nat) (b:Nat) (tv:Value) (l:List Tkn) (hL:Z3E l) (m:Int) (i o:Nat) (w:World) (hb1:b≠2) (hbX:b∈X) (hX:∀ c∈X,c<w.heap.size) (hm:w.cell? ⟨2,0,none⟩=some (.I m)) (hp:Pd w b tv l i o) :
 Calls Tryz.prog 166 #[pQ b] w (PC b w tv l (Z1S l i o) (fun x v w'=>NdV X w' v x)):=by
 have hs0:=hp.2.1;have hE:=Z99 l i o;generalize Z1S l i o=r at *;refine cW1 5 Tryz.func166 ?_;refine W ?_;refine Z1 Z2 rfl ?_;rintro _ w1 ⟨b2,rfl,hb2,e2,hS⟩;have n2:b2≠b:=by have:=hp.lt;omega
 have hb2w:w.heap.size≤b2:=hb2;replace hm:=hS.cell (by simp) hm;replace hp:=hp.up hS;have l2:=e2.lt;have hX1:∀ c∈b2 :: X,c<w1.heap.size:=fun c hc=>by
  rcases Xb.1 hc with rfl|hc
  exact l2;have:=hX c hc;have:=hS.size;omega
 refine W ?_;have hsub:=ZfY _ l hL m (.expr 1) i o r hE (b2 :: X) b tv _ hb1 (by simp [hbX]) hX1 hm hp (by omega) (by omega);cases r with
 | err a c=>
   refine ZU rfl (Zh rfl rfl) (PC.falls hsub rfl hS.mn) rfl ?_;intro wz hwz;repeat'(first|refine Zj ?_|refine Zg ?_)
   refine ZJ ?_;exact PC.err hwz
 | ok x i3 o3=>
   refine CL (PC.goes hsub rfl) ?_;rintro _ wE ⟨⟨kx,rfl,hx⟩,hp7,hT⟩;replace e2:=e2.ext hT (by simpa using n2);replace hS:=(hS.mono (S':=[b]) (by simp)).trans hT;clear hT hp;refine SB (us:=ndC x kx) (Zi hx) e2 ?_;rintro _ wz ⟨hT,e2'⟩;refine W ?_;refine Zk rfl rfl rfl e2' rfl ?_;obtain ⟨g1,g2,g3,g4,g5⟩:=hp7;have hSx:=hS.own hT (fun c hc=>by simp at hc;subst hc;exact .inr hb2w);refine PC.ok ⟨_,rfl,?_⟩ ⟨g1.ext hT (by simpa using n2.symm),hs0.ext hSx (fun c hc=>hc) (fun c hc=>.inl hc),g3,g4,g5⟩ hSx;exact (hx.ext (X':=b2 :: X) hT (fun c hc=>by simp at hc;simp [hc]) (fun c hc=>.inl hc)).wk (fun c hc=>by simp [hc])
theorem Z1L (b:Nat) (tv:Value) (l:List Tkn) (hL:Z3E l) (wd:Str) (hwd:wd≠[]) (m:Int) (i o:Nat) (w:World) (hb1:b≠2) (hm:w.cell? ⟨2,0,none⟩=some (.I m)) (hp:Pd w b tv l i o) :
 Calls Tryz.prog 164 #[pQ b,str wd,.func (.func 161) #[pQ b] #[]] w (PC b w tv l (Z1y l wd [] (Z2e l) i o) (fun s v _=>v=str s)):=by
 unfold Z1y;refine cW3 19 Tryz.func164 ?_;refine W ?_;refine CM (Zh rfl rfl) (Z3J b tv l wd i o _ hp (fun h=>hL.end_of hp.i_lt (by rw [h];exact hwd))) ?_;rintro _ w4 ⟨rfl,hp4,hS⟩;replace hm:=Ju hm hb1 hS;by_cases c3:(cur l i).text=wd;rw [if_pos c3] at hp4 ⊢;rw [decide_eq_true c3];refine W ?_;rcases hN:Z2e l (i+1) o with ⟨a,c⟩|⟨s,i1,o1⟩
 refine Z9g rfl Z5Q rfl (PC.falls (Z5o b tv l hL _ _ m _ hm hp4) hN hS) rfl ?_;intro wz hwz;focus repeat'(first|refine Zj ?_|refine Zg ?_)
 refine ZJ ?_;exact PC.err hwz;refine Z1 (ZbY rfl Z5Q rfl (PC.goes (Z5o b tv l hL _ _ m _ hm hp4) hN)) rfl ?_;rintro _ w5 ⟨rfl,hp5,hT⟩;replace hS:=hS.trans hT;refine W ?_;simp only [Out.bind];rcases hU:Z0K l [59] i1 o1 with ⟨a,c⟩|⟨u,i2,o2⟩
 refine ZU rfl (Zh rfl rfl) (PC.falls (JM b tv l hL _ (by decide) i1 o1 _ hp5) hU hS) rfl ?_;intro wz hwz;focus repeat'(first|refine Zj ?_|refine Zg ?_)
 refine ZJ ?_;exact PC.err hwz;refine CM (Zh rfl rfl) (PC.goes (JM b tv l hL _ (by decide) i1 o1 _ hp5) hU) ?_;rintro _ w6 ⟨rfl,hp6,hT⟩;replace hS:=hS.trans hT;refine W ?_;refine WR ?_;exact PC.ok rfl hp6 hS;rw [if_neg c3] at hp4 ⊢;rw [decide_eq_false c3];refine W ?_;refine WR ?_;exact PC.ok rfl hp4 hS
theorem Z4i (X:List Nat) (b:Nat) (tv:Value) (l:List Tkn) (hL:Z3E l) (wd:Str) (hwd:wd≠[]) (m:Int) (i o:Nat) (w:World) (hb1:b≠2) (hbX:b∈X) (hX:∀ c∈X,c<w.heap.size) (hm:w.cell? ⟨2,0,none⟩=some (.I m)) (hp:Pd w b tv l i o) :
 Calls Tryz.prog 165 #[pQ b,str wd,.func (.func 166) #[pQ b] #[]] w (PC b w tv l (Z1y l wd JQ (Z1S l) i o) (fun x v w'=>NdV X w' v x)):=by
 have hs0:=hp.2.1;unfold Z1y;refine cW3 19 Tryz.func165 ?_;refine W ?_;refine Z1 Z2 rfl ?_;rintro _ w1 ⟨b6,rfl,hb6,e6,hS⟩;have n6:b6≠b:=by have:=hp.lt;omega
 have hb6w:w.heap.size≤b6:=hb6;refine W ?_;refine Z1 Z2 rfl ?_;rintro _ w2 ⟨b7,rfl,hb7,e7,hT⟩;have n7:b7≠b:=by have:=hp.lt;have:=hS.size;omega
 have n76:b7≠b6:=by have:=e6.lt;omega
 replace e6:=e6.up hT;replace hS:=hS.trans hT;clear hT;replace hm:=hS.cell (by simp) hm;replace hp:=hp.up hS;refine W ?_;refine CM (Zh rfl rfl) (Z3J b tv l wd i o _ hp (fun h=>hL.end_of hp.i_lt (by rw [h];exact hwd))) ?_;rintro _ w4 ⟨rfl,hp4,hT⟩;replace hm:=Ju hm hb1 hT;replace e6:=e6.ext hT (by simpa using n6);replace e7:=e7.ext hT (by simpa using n7);replace hS:=(hS.mono (S':=[b]) (by simp)).trans hT;clear hT hp;by_cases c3:(cur l i).text=wd;rw [if_pos c3] at hp4 ⊢;rw [decide_eq_true c3];refine W ?_;have l6:=e6.lt;have hX4:∀ c∈b6 :: X,c<w4.heap.size:=fun c hc=>by
  rcases Xb.1 hc with rfl|hc
  exact l6;have:=hX c hc;have:=hS.size;omega
 have hsub:=Zg0 (b6 :: X) b tv l hL m (i+1) o w4 hb1 (by simp [hbX]) hX4 hm hp4;rcases hN:Z1S l (i+1) o with ⟨a,c⟩|⟨x,i1,o1⟩
 refine Z9g rfl Z5Q rfl (PC.falls hsub hN hS) rfl ?_;intro wz hwz;focus repeat'(first|refine Zj ?_|refine Zg ?_)
 refine ZJ ?_;exact PC.err hwz;refine Z1 (ZbY rfl Z5Q rfl (PC.goes hsub hN)) rfl ?_;rintro _ w5 ⟨⟨kx,rfl,hx⟩,hp5,hT⟩;replace e6:=e6.ext hT (by simpa using n6);replace hS:=hS.trans hT;have hX5:∀ c∈b6 :: X,c<w5.heap.size:=fun c hc=>Xa (hX4 c hc) hT.size;clear hT hp4 hX4 l6 hsub;refine Z1 Z2 rfl ?_;rintro _ w6 ⟨b8,rfl,hb8,e8,hT⟩;have n86:b8≠b6:=by have:=e6.lt;omega
 have n8:b8≠b:=by have:=hp5.lt;omega
 refine SB (us:=ndC x kx) (Zi hx) e8 ?_;rintro _ w7 ⟨hT2,e8'⟩;replace hT:=hT.ow hT2;clear hT2 e8;replace hp5:=hp5.up hT;replace e6:=e6.up hT;replace hx:=hx.up hT;replace hS:=hS.trans hT.mn;clear hT;refine W ?_;simp only [Out.bind];rcases hU:Z0K l [59] i1 o1 with ⟨a,c⟩|⟨u,i2,o2⟩
 refine ZU rfl (Zh rfl rfl) (PC.falls (JM b tv l hL _ (by decide) i1 o1 _ hp5) hU hS) rfl ?_;intro wz hwz;focus repeat'(first|refine Zj ?_|refine Zg ?_)
 refine ZJ ?_;exact PC.err hwz;refine CM (Zh rfl rfl) (PC.goes (JM b tv l hL _ (by decide) i1 o1 _ hp5) hU) ?_;rintro _ w8 ⟨rfl,hp6,hT⟩;replace e6:=e6.ext hT (by simpa using n6);replace e8':=e8'.ext hT (by simpa using n8);replace hx:=hx.ext (X':=b6 :: X) hT (fun c hc=>by simp at hc;subst hc;simp [hbX]) (fun c hc=>.inl hc);replace hS:=hS.trans hT;clear hT hp5;refine W ?_;refine SB (us:=ndC x kx) (Zi hx) e6 ?_;rintro _ wz ⟨hT,e6'⟩;refine W ?_;refine Zk rfl rfl rfl e6' rfl ?_;obtain ⟨g1,g2,g3,g4,g5⟩:=hp6;have hSx:=hS.own hT (fun c hc=>by simp at hc;subst hc;exact .inr hb6w);refine PC.ok ⟨_,rfl,?_⟩ ⟨g1.ext hT (by simpa using n6.symm),hs0.ext hSx (fun c hc=>hc) (fun c hc=>.inl hc),g3,g4,g5⟩ hSx;exact (hx.ext (X':=b6 :: X) hT (fun c hc=>by simp at hc;simp [hc]) (fun c hc=>.inl hc)).wk (fun c hc=>by simp [hc]);rw [if_neg c3] at hp4 ⊢;rw [decide_eq_false c3];refine W ?_;refine SB (us:=ndC JQ (.N)) (Zi (x:=JQ) (ZZ [] w)) e6 ?_;rintro _ wz ⟨hT,e6'⟩;refine W ?_;refine Zk rfl rfl rfl e6' rfl ?_;obtain ⟨g1,g2,g3,g4,g5⟩:=hp4;have hSx:=hS.own hT (fun c hc=>by simp at hc;subst hc;exact .inr hb6w);refine PC.ok ⟨_,rfl,?_⟩ ⟨g1.ext hT (by simpa using n6.symm),hs0.ext hSx (fun c hc=>hc) (fun c hc=>.inl hc),g3,g4,g5⟩ hSx;exact ZZ _ _
theorem Zn1 (s:Str) (w):(Instr.build 99 #[(0,str s)]).run Tryz.prog w=.ok (.agg (rlC ⟨s,0,[],JQ,JQ,[],[]⟩ (.N) (.N)).toArray) w:=by kernel_rfl
theorem ZjC (X:List Nat) (b:Nat) (tv:Value) (l:List Tkn) (hL:Z3E l) (m:Int) (i o:Nat) (w:World) (hb1:b≠2) (hbX:b∈X) (hX:∀ c∈X,c<w.heap.size) (hm:w.cell? ⟨2,0,none⟩=some (.I m)) (hp:Pd w b tv l i o) :
 Calls Tryz.prog 91 #[pQ b] w (PC b w tv l (Z97 l i o) (fun r v w'=>ZfZ X w' v r.rul)):=by
 have hs0:=hp.2.1;unfold Z97;refine cW1 61 Tryz.func91 ?_;refine W ?_;refine Z1 Z2 rfl ?_;rintro _ w1 ⟨b2,rfl,hb2,e2,hS⟩;have n2:b2≠b:=by have:=hp.lt;omega
 have hb2w:w.heap.size≤b2:=hb2;replace hm:=hS.cell (by simp) hm;replace hp:=hp.up hS;replace hS:=hS.mono (S':=[b]) (by simp);refine W ?_;rcases hU:Z0K l [114,117,108,101] i o with ⟨a,c⟩|⟨u1,i1,o1⟩
 refine ZU rfl (Zh rfl rfl) (PC.falls (JM b tv l hL [114,117,108,101] (by decide) i o _ hp) hU hS) rfl ?_;intro wz hwz;focus repeat'(first|refine Zj ?_|refine Zg ?_)
 refine ZJ ?_;exact PC.err hwz;refine CM (Zh rfl rfl) (PC.goes (JM b tv l hL [114,117,108,101] (by decide) i o _ hp) hU) ?_;rintro _ wn1 ⟨rfl,hpn,hT⟩;replace hm:=Ju hm hb1 hT;replace e2:=e2.ext hT (by simpa using n2);replace hS:=hS.trans hT;clear hT hp;have hp:=hpn;clear hpn hU;refine W ?_;simp only [Out.bind];rcases hU:Z2e l i1 o1 with ⟨a,c⟩|⟨u2,i2,o2⟩
 refine ZU rfl (ZX rfl) (PC.falls (Z5o b tv l hL i1 o1 m _ hm hp) hU hS) rfl ?_;intro wz hwz;focus repeat'(first|refine Zj ?_|refine Zg ?_)
 refine ZJ ?_;exact PC.err hwz;refine CL (PC.goes (Z5o b tv l hL i1 o1 m _ hm hp) hU) ?_;rintro _ wn2 ⟨rfl,hpn,hT⟩;replace hm:=Ju hm hb1 hT;replace e2:=e2.ext hT (by simpa using n2);replace hS:=hS.trans hT;clear hT hp;have hp:=hpn;clear hpn hU;apply Z8 (vs:=[(0,str u2)]) rfl (Zn1 _) rfl;refine Z1 Z2 rfl ?_;rintro _ wa ⟨b3,rfl,hb3,e3,hT⟩;have n32:b3≠b2:=by have:=e2.lt;omega
 have n3:b3≠b:=by have:=hp.lt;omega
 have n31:b3≠2:=by have:=block_lt_of_cell hm;simp at this;omega
 have hb3w:w.heap.size≤b3:=Xg hS.size hb3;refine SB (us:=rlC ⟨u2,0,[],JQ,JQ,[],[]⟩ (.N) (.N)) (Zor ⟨u2,0,[],JQ,JQ,[],[]⟩ (ZZ [] w) (ZZ [] w)) e3 ?_;rintro _ wb ⟨hT2,e3'⟩;replace hT:=hT.ow hT2;clear hT2 e3;have e3:=e3';clear e3';replace hp:=hp.up hT;replace e2:=e2.up hT;replace hm:=hT.cell (by simp) hm;replace hS:=hS.trans hT.mn;clear hT;have hXs:∀ c∈b3 :: b2 :: X,c<wb.heap.size:=fun c hc=>by
  rcases Xb.1 hc with rfl|hc
  exact e3.lt;rcases Xb.1 hc with rfl|hc
  exact e2.lt;have:=hX c hc;have:=hS.size;omega
 have hci:SlV (α:=Nd) (b3 :: b2 :: X) wb (.N) JQ.kids:=ZZ _ _;have hdi:SlV (α:=Nd) (b3 :: b2 :: X) wb (.N) JQ.kids:=ZZ _ _;refine W ?_;simp only;rcases hU:Z0K l [102,114,111,109] i2 o2 with ⟨a,c⟩|⟨u3,i3,o3⟩
 refine ZU rfl (Zh rfl rfl) (PC.falls (JM b tv l hL [102,114,111,109] (by decide) i2 o2 _ hp) hU hS) rfl ?_;intro wz hwz;focus repeat'(first|refine Zj ?_|refine Zg ?_)
 refine ZJ ?_;exact PC.err hwz;refine CM (Zh rfl rfl) (PC.goes (JM b tv l hL [102,114,111,109] (by decide) i2 o2 _ hp) hU) ?_;rintro _ wn3 ⟨rfl,hpn,hT⟩;replace hm:=Ju hm hb1 hT;replace e2:=e2.ext hT (by simpa using n2);replace e3:=e3.ext hT (by simpa using n3);replace hci:=hci.ext (X':=b3 :: b2 :: X) hT (fun c hc=>by simp at hc;subst hc;simp [hbX]) (fun c hc=>.inl hc);replace hdi:=hdi.ext (X':=b3 :: b2 :: X) hT (fun c hc=>by simp at hc;subst hc;simp [hbX]) (fun c hc=>.inl hc);replace hS:=hS.trans hT;replace hXs:=fun c hc=>Xa (hXs c hc) hT.size;clear hT hp;have hp:=hpn;clear hpn hU;refine W ?_;simp only;rcases hU:Z2V l 3 i3 o3 with ⟨a,c⟩|⟨u4,i4,o4⟩
 refine ZU rfl (Zh rfl rfl) (PC.falls (Z4h b tv l hL 3 (by decide) i3 o3 _ hp) hU hS) rfl ?_;intro wz hwz;focus repeat'(first|refine Zj ?_|refine Zg ?_)
 refine ZJ ?_;exact PC.err hwz;refine CM (Zh rfl rfl) (PC.goes (Z4h b tv l hL 3 (by decide) i3 o3 _ hp) hU) ?_;rintro _ wn4 ⟨rfl,hpn,hT⟩;replace hm:=Ju hm hb1 hT;replace e2:=e2.ext hT (by simpa using n2);replace e3:=e3.ext hT (by simpa using n3);replace hci:=hci.ext (X':=b3 :: b2 :: X) hT (fun c hc=>by simp at hc;subst hc;simp [hbX]) (fun c hc=>.inl hc);replace hdi:=hdi.ext (X':=b3 :: b2 :: X) hT (fun c hc=>by simp at hc;subst hc;simp [hbX]) (fun c hc=>.inl hc);replace hS:=hS.trans hT;replace hXs:=fun c hc=>Xa (hXs c hc) hT.size;clear hT hp;have hp:=hpn;clear hpn hU;refine Z4 (ZbJ rfl (Ztz _)) rfl ?_;refine W ?_;refine S1 (u:=.I u4.num) e3 ?_;rintro _ ws4 ⟨hT,e3'⟩;replace e3:Blk ws4 b3 99 (rlC ⟨u2,u4.num,[],JQ,JQ,[],[]⟩ (.N) (.N)):=e3';clear e3';replace e2:=e2.ext hT (by simpa using n32.symm);replace hm:=hT.cell (by simpa using n31.symm) hm;replace hS:=hS.own hT (fun c hc=>by simp at hc;subst hc;exact .inr hb3w);replace hp:Pd ws4 b tv l i4 o4:=by
  obtain ⟨g1,g2,g3,g4,g5⟩:=hp;exact ⟨g1.ext hT (by simpa using n3.symm),hs0.ext hS (fun c hc=>hc) (fun c hc=>.inl hc),g3,g4,g5⟩
 replace hXs:=fun c hc=>Xa (hXs c hc) hT.size;replace hci:=hci.ext (X':=b3 :: b2 :: X) hT (fun c hc=>by simp at hc;simp [hc]) (fun c hc=>.inl hc);replace hdi:=hdi.ext (X':=b3 :: b2 :: X) hT (fun c hc=>by simp at hc;simp [hc]) (fun c hc=>.inl hc);refine W ?_;simp only;rcases hU:Z0K l [123] i4 o4 with ⟨a,c⟩|⟨u5,i5,o5⟩
 refine ZU rfl (Zh rfl rfl) (PC.falls (JM b tv l hL [123] (by decide) i4 o4 _ hp) hU hS) rfl ?_;intro wz hwz;focus repeat'(first|refine Zj ?_|refine Zg ?_)
 refine ZJ ?_;exact PC.err hwz;refine CM (Zh rfl rfl) (PC.goes (JM b tv l hL [123] (by decide) i4 o4 _ hp) hU) ?_;rintro _ wn5 ⟨rfl,hpn,hT⟩;replace hm:=Ju hm hb1 hT;replace e2:=e2.ext hT (by simpa using n2);replace e3:=e3.ext hT (by simpa using n3);replace hci:=hci.ext (X':=b3 :: b2 :: X) hT (fun c hc=>by simp at hc;subst hc;simp [hbX]) (fun c hc=>.inl hc);replace hdi:=hdi.ext (X':=b3 :: b2 :: X) hT (fun c hc=>by simp at hc;subst hc;simp [hbX]) (fun c hc=>.inl hc);replace hS:=hS.trans hT;replace hXs:=fun c hc=>Xa (hXs c hc) hT.size;clear hT hp;have hp:=hpn;clear hpn hU;refine W ?_;refine CL (Z0M b tv l i5 o5 _ hp) ?_;rintro _ wx5 ⟨rfl,hT⟩;replace hp:=hp.up hT;replace e2:=e2.up hT;replace e3:=e3.up hT;replace hci:=hci.up hT;replace hdi:=hdi.up hT;replace hm:=hT.cell (by simp) hm;replace hS:=hS.trans hT.mn;replace hXs:=fun c hc=>Xa (hXs c hc) hT.size;clear hT;simp only;by_cases hon:(cur l i5).text=[111,110]
 rotate_left
 · rw [if_neg hon]
   (refine QP ?_ ?_<;>intro hc)
   refine ZU rfl (Zh rfl rfl) (Z9e b tv l i5 o5 20 _ w hp hS) rfl ?_;intro wz hwz;focus repeat'(first|refine Zj ?_|refine Zg ?_)
   refine ZJ ?_;exact PC.fail hwz;all_goals exact absurd hon (by assumption)
 rw [if_pos hon]
 (refine QP ?_ ?_<;>intro hc)
 exact absurd hon (by assumption);refine Z4 (Z0N rfl) rfl ?_;rcases hU:Z1y l [111,110] [] (Z2e l) i5 o5 with ⟨a,c⟩|⟨u6,i6,o6⟩
 refine ZU rfl (Js rfl rfl rfl) (PC.falls (Z1L b tv l hL [111,110] (by decide) m i5 o5 _ hb1 hm hp) hU hS) rfl ?_;intro wz hwz;focus repeat'(first|refine Zj ?_|refine Zg ?_)
 refine ZJ ?_;exact PC.err hwz;refine CM (Js rfl rfl rfl) (PC.goes (Z1L b tv l hL [111,110] (by decide) m i5 o5 _ hb1 hm hp) hU) ?_;rintro _ wn6 ⟨rfl,hpn,hT⟩;replace hm:=Ju hm hb1 hT;replace e2:=e2.ext hT (by simpa using n2);replace e3:=e3.ext hT (by simpa using n3);replace hci:=hci.ext (X':=b3 :: b2 :: X) hT (fun c hc=>by simp at hc;subst hc;simp [hbX]) (fun c hc=>.inl hc);replace hdi:=hdi.ext (X':=b3 :: b2 :: X) hT (fun c hc=>by simp at hc;subst hc;simp [hbX]) (fun c hc=>.inl hc);replace hS:=hS.trans hT;replace hXs:=fun c hc=>Xa (hXs c hc) hT.size;clear hT hp;have hp:=hpn;clear hpn hU;refine W ?_;refine S1 (u:=str u6) e3 ?_;rintro _ ws6 ⟨hT,e3'⟩;replace e3:Blk ws6 b3 99 (rlC ⟨u2,u4.num,u6,JQ,JQ,[],[]⟩ (.N) (.N)):=e3';clear e3';replace e2:=e2.ext hT (by simpa using n32.symm);replace hm:=hT.cell (by simpa using n31.symm) hm;replace hS:=hS.own hT (fun c hc=>by simp at hc;subst hc;exact .inr hb3w);replace hp:Pd ws6 b tv l i6 o6:=by
  obtain ⟨g1,g2,g3,g4,g5⟩:=hp;exact ⟨g1.ext hT (by simpa using n3.symm),hs0.ext hS (fun c hc=>hc) (fun c hc=>.inl hc),g3,g4,g5⟩
 replace hXs:=fun c hc=>Xa (hXs c hc) hT.size;replace hci:=hci.ext (X':=b3 :: b2 :: X) hT (fun c hc=>by simp at hc;simp [hc]) (fun c hc=>.inl hc);replace hdi:=hdi.ext (X':=b3 :: b2 :: X) hT (fun c hc=>by simp at hc;simp [hc]) (fun c hc=>.inl hc);refine W ?_;refine Z4 (Z0N rfl) rfl ?_;simp only;rcases hU:Z1y l [105,102] JQ (Z1S l) i6 o6 with ⟨a,c⟩|⟨u7,i7,o7⟩
 refine ZU rfl (Js rfl rfl rfl) (PC.falls (Z4i (b3 :: b2 :: X) b tv l hL [105,102] (by decide) m i6 o6 _ hb1 (by simp [hbX]) hXs hm hp) hU hS) rfl ?_;intro wz hwz;focus repeat'(first|refine Zj ?_|refine Zg ?_)
 refine ZJ ?_;exact PC.err hwz;refine CM (Js rfl rfl rfl) (PC.goes (Z4i (b3 :: b2 :: X) b tv l hL [105,102] (by decide) m i6 o6 _ hb1 (by simp [hbX]) hXs hm hp) hU) ?_;rintro _ wn7 ⟨⟨kx7,rfl,hx7⟩,hpn,hT⟩;replace hm:=Ju hm hb1 hT;replace e2:=e2.ext hT (by simpa using n2);replace e3:=e3.ext hT (by simpa using n3);replace hci:=hci.ext (X':=b3 :: b2 :: X) hT (fun c hc=>by simp at hc;subst hc;simp [hbX]) (fun c hc=>.inl hc);replace hdi:=hdi.ext (X':=b3 :: b2 :: X) hT (fun c hc=>by simp at hc;subst hc;simp [hbX]) (fun c hc=>.inl hc);replace hS:=hS.trans hT;replace hXs:=fun c hc=>Xa (hXs c hc) hT.size;clear hT hp;have hp:=hpn;clear hpn hU;refine W ?_;refine Z5 (Z12 (us:=ndC u7 kx7) rfl rfl rfl rfl (Zi hx7) e3 (by simp)) ?_;rintro _ ws7 ⟨hT,e3'⟩;replace e3:Blk ws7 b3 99 (rlC ⟨u2,u4.num,u6,u7,JQ,[],[]⟩ kx7 (.N)):=e3';clear e3';replace e2:=e2.ext hT (by simpa using n32.symm);replace hm:=hT.cell (by simpa using n31.symm) hm;replace hS:=hS.own hT (fun c hc=>by simp at hc;subst hc;exact .inr hb3w);replace hp:Pd ws7 b tv l i7 o7:=by
  obtain ⟨g1,g2,g3,g4,g5⟩:=hp;exact ⟨g1.ext hT (by simpa using n3.symm),hs0.ext hS (fun c hc=>hc) (fun c hc=>.inl hc),g3,g4,g5⟩
 replace hXs:=fun c hc=>Xa (hXs c hc) hT.size;replace hx7:=hx7.ext (X':=b3 :: b2 :: X) hT (fun c hc=>by simp at hc;simp [hc]) (fun c hc=>.inl hc);replace hdi:=hdi.ext (X':=b3 :: b2 :: X) hT (fun c hc=>by simp at hc;simp [hc]) (fun c hc=>.inl hc);clear hT hci;refine W ?_
 refine JA (σ:=Value) (fun _=>[(0,pQ b),(2,pQ b2),(3,pQ b3)])
  (fun q w'=>Blk w' b3 99 (rlC ⟨u2,u4.num,u6,if u7.kind=0 then .mk 2 1 [] [] else u7,JQ,[],[]⟩ q (.N))∧SlV (b3 :: b2 :: X) w' q (if u7.kind=0 then Nd.mk 2 1 [] [] else u7).kids∧Stp [b3] ws7 w') ?_ ?_
 by_cases k0:u7.kind=0
 · rw [if_pos k0]
   (refine QP ?_ ?_<;>intro hc)
   all_goals try exact absurd k0 (by assumption)
   apply Z8 (vs:=[(0,.I 2),(1,.I 1)]) rfl (Zax _ _) rfl;refine W ?_;refine Z5 (Z12 (us:=ndC (.mk 2 1 [] []) (.N)) rfl rfl rfl rfl (Zi (x:=.mk 2 1 [] []) (ZZ [] w)) e3 (by simp)) ?_;rintro _ wy ⟨hT,e3'⟩;refine W ?_;exact QT (.N) ⟨e3',ZZ _ _,hT⟩
 · rw [if_neg k0]
   (refine QP ?_ ?_<;>intro hc)
   all_goals try exact absurd (by assumption) k0
   exact QT kx7 ⟨e3,hx7,Stp.refl _ _⟩
 clear e3 hx7;generalize hcnd:(if u7.kind=0 then Nd.mk 2 1 [] [] else u7)=cnd;rintro ki ws7 ⟨e3,hci,hT⟩;replace e2:=e2.ext hT (by simpa using n32.symm);replace hm:=hT.cell (by simpa using n31.symm) hm;replace hS:=hS.own hT (fun c hc=>by simp at hc;subst hc;exact .inr hb3w);replace hp:Pd ws7 b tv l i7 o7:=by
  obtain ⟨g1,g2,g3,g4,g5⟩:=hp;exact ⟨g1.ext hT (by simpa using n3.symm),hs0.ext hS (fun c hc=>hc) (fun c hc=>.inl hc),g3,g4,g5⟩
 replace hXs:=fun c hc=>Xa (hXs c hc) hT.size;replace hdi:=hdi.ext (X':=b3 :: b2 :: X) hT (fun c hc=>by simp at hc;simp [hc]) (fun c hc=>.inl hc);clear hT;refine W ?_;refine CL (Z0M b tv l i7 o7 _ hp) ?_;rintro _ wx7 ⟨rfl,hT⟩;replace hp:=hp.up hT;replace e2:=e2.up hT;replace e3:=e3.up hT;replace hci:=hci.up hT;replace hdi:=hdi.up hT;replace hm:=hT.cell (by simp) hm;replace hS:=hS.trans hT.mn;replace hXs:=fun c hc=>Xa (hXs c hc) hT.size;clear hT;simp only;by_cases hdue:(cur l i7).text=[100,117,101]
 rotate_left
 · rw [if_neg hdue]
   (refine QP ?_ ?_<;>intro hc)
   refine ZU rfl (Zh rfl rfl) (Z9e b tv l i7 o7 20 _ w hp hS) rfl ?_;intro wz hwz;focus repeat'(first|refine Zj ?_|refine Zg ?_)
   refine ZJ ?_;exact PC.fail hwz;all_goals exact absurd hdue (by assumption)
 rw [if_pos hdue]
 (refine QP ?_ ?_<;>intro hc)
 exact absurd hdue (by assumption);refine Z4 (Z0N rfl) rfl ?_;rcases hU:Z1y l [100,117,101] JQ (Z1S l) i7 o7 with ⟨a,c⟩|⟨u8,i8,o8⟩
 refine ZU rfl (Js rfl rfl rfl) (PC.falls (Z4i (b3 :: b2 :: X) b tv l hL [100,117,101] (by decide) m i7 o7 _ hb1 (by simp [hbX]) hXs hm hp) hU hS) rfl ?_;intro wz hwz;focus repeat'(first|refine Zj ?_|refine Zg ?_)
 refine ZJ ?_;exact PC.err hwz;refine CM (Js rfl rfl rfl) (PC.goes (Z4i (b3 :: b2 :: X) b tv l hL [100,117,101] (by decide) m i7 o7 _ hb1 (by simp [hbX]) hXs hm hp) hU) ?_;rintro _ wn8 ⟨⟨kx8,rfl,hx8⟩,hpn,hT⟩;replace hm:=Ju hm hb1 hT;replace e2:=e2.ext hT (by simpa using n2);replace e3:=e3.ext hT (by simpa using n3);replace hci:=hci.ext (X':=b3 :: b2 :: X) hT (fun c hc=>by simp at hc;subst hc;simp [hbX]) (fun c hc=>.inl hc);replace hdi:=hdi.ext (X':=b3 :: b2 :: X) hT (fun c hc=>by simp at hc;subst hc;simp [hbX]) (fun c hc=>.inl hc);replace hS:=hS.trans hT;replace hXs:=fun c hc=>Xa (hXs c hc) hT.size;clear hT hp;have hp:=hpn;clear hpn hU;refine W ?_;refine Z5 (Z12 (us:=ndC u8 kx8) rfl rfl rfl rfl (Zi hx8) e3 (by simp)) ?_;rintro _ ws8 ⟨hT,e3'⟩;replace e3:Blk ws8 b3 99 (rlC ⟨u2,u4.num,u6,cnd,u8,[],[]⟩ ki kx8):=e3';clear e3';replace e2:=e2.ext hT (by simpa using n32.symm);replace hm:=hT.cell (by simpa using n31.symm) hm;replace hS:=hS.own hT (fun c hc=>by simp at hc;subst hc;exact .inr hb3w);replace hp:Pd ws8 b tv l i8 o8:=by
  obtain ⟨g1,g2,g3,g4,g5⟩:=hp;exact ⟨g1.ext hT (by simpa using n3.symm),hs0.ext hS (fun c hc=>hc) (fun c hc=>.inl hc),g3,g4,g5⟩
 replace hXs:=fun c hc=>Xa (hXs c hc) hT.size;clear hdi;have hdi:=hx8.ext (X':=b3 :: b2 :: X) hT (fun c hc=>by simp at hc;simp [hc]) (fun c hc=>.inl hc);replace hci:=hci.ext (X':=b3 :: b2 :: X) hT (fun c hc=>by simp at hc;simp [hc]) (fun c hc=>.inl hc);clear hT hx8;refine W ?_;refine Z4 (Z0N rfl) rfl ?_;simp only;rcases hU:Z1y l [117,110,108,101,115,115] [] (Z2e l) i8 o8 with ⟨a,c⟩|⟨u9,i9,o9⟩
 refine ZU rfl (Js rfl rfl rfl) (PC.falls (Z1L b tv l hL [117,110,108,101,115,115] (by decide) m i8 o8 _ hb1 hm hp) hU hS) rfl ?_;intro wz hwz;focus repeat'(first|refine Zj ?_|refine Zg ?_)
 refine ZJ ?_;exact PC.err hwz;refine CM (Js rfl rfl rfl) (PC.goes (Z1L b tv l hL [117,110,108,101,115,115] (by decide) m i8 o8 _ hb1 hm hp) hU) ?_;rintro _ wn9 ⟨rfl,hpn,hT⟩;replace hm:=Ju hm hb1 hT;replace e2:=e2.ext hT (by simpa using n2);replace e3:=e3.ext hT (by simpa using n3);replace hci:=hci.ext (X':=b3 :: b2 :: X) hT (fun c hc=>by simp at hc;subst hc;simp [hbX]) (fun c hc=>.inl hc);replace hdi:=hdi.ext (X':=b3 :: b2 :: X) hT (fun c hc=>by simp at hc;subst hc;simp [hbX]) (fun c hc=>.inl hc);replace hS:=hS.trans hT;replace hXs:=fun c hc=>Xa (hXs c hc) hT.size;clear hT hp;have hp:=hpn;clear hpn hU;refine W ?_;refine S1 (u:=str u9) e3 ?_;rintro _ ws9 ⟨hT,e3'⟩;replace e3:Blk ws9 b3 99 (rlC ⟨u2,u4.num,u6,cnd,u8,u9,[]⟩ ki kx8):=e3';clear e3';replace e2:=e2.ext hT (by simpa using n32.symm);replace hm:=hT.cell (by simpa using n31.symm) hm;replace hS:=hS.own hT (fun c hc=>by simp at hc;subst hc;exact .inr hb3w);replace hp:Pd ws9 b tv l i9 o9:=by
  obtain ⟨g1,g2,g3,g4,g5⟩:=hp;exact ⟨g1.ext hT (by simpa using n3.symm),hs0.ext hS (fun c hc=>hc) (fun c hc=>.inl hc),g3,g4,g5⟩
 replace hXs:=fun c hc=>Xa (hXs c hc) hT.size;replace hci:=hci.ext (X':=b3 :: b2 :: X) hT (fun c hc=>by simp at hc;simp [hc]) (fun c hc=>.inl hc);replace hdi:=hdi.ext (X':=b3 :: b2 :: X) hT (fun c hc=>by simp at hc;simp [hc]) (fun c hc=>.inl hc);refine W ?_;refine Z4 (Z0N rfl) rfl ?_;simp only;rcases hU:Z1y l [101,108,115,101] [] (Z2e l) i9 o9 with ⟨a,c⟩|⟨u10,i10,o10⟩
 refine ZU rfl (Js rfl rfl rfl) (PC.falls (Z1L b tv l hL [101,108,115,101] (by decide) m i9 o9 _ hb1 hm hp) hU hS) rfl ?_;intro wz hwz;focus repeat'(first|refine Zj ?_|refine Zg ?_)
 refine ZJ ?_;exact PC.err hwz;refine CM (Js rfl rfl rfl) (PC.goes (Z1L b tv l hL [101,108,115,101] (by decide) m i9 o9 _ hb1 hm hp) hU) ?_;rintro _ wn10 ⟨rfl,hpn,hT⟩;replace hm:=Ju hm hb1 hT;replace e2:=e2.ext hT (by simpa using n2);replace e3:=e3.ext hT (by simpa using n3);replace hci:=hci.ext (X':=b3 :: b2 :: X) hT (fun c hc=>by simp at hc;subst hc;simp [hbX]) (fun c hc=>.inl hc);replace hdi:=hdi.ext (X':=b3 :: b2 :: X) hT (fun c hc=>by simp at hc;subst hc;simp [hbX]) (fun c hc=>.inl hc);replace hS:=hS.trans hT;replace hXs:=fun c hc=>Xa (hXs c hc) hT.size;clear hT hp;have hp:=hpn;clear hpn hU;refine W ?_;refine S1 (u:=str u10) e3 ?_;rintro _ ws10 ⟨hT,e3'⟩;replace e3:Blk ws10 b3 99 (rlC ⟨u2,u4.num,u6,cnd,u8,u9,u10⟩ ki kx8):=e3';clear e3';replace e2:=e2.ext hT (by simpa using n32.symm);replace hm:=hT.cell (by simpa using n31.symm) hm;replace hS:=hS.own hT (fun c hc=>by simp at hc;subst hc;exact .inr hb3w);replace hp:Pd ws10 b tv l i10 o10:=by
  obtain ⟨g1,g2,g3,g4,g5⟩:=hp;exact ⟨g1.ext hT (by simpa using n3.symm),hs0.ext hS (fun c hc=>hc) (fun c hc=>.inl hc),g3,g4,g5⟩
 replace hXs:=fun c hc=>Xa (hXs c hc) hT.size;replace hci:=hci.ext (X':=b3 :: b2 :: X) hT (fun c hc=>by simp at hc;simp [hc]) (fun c hc=>.inl hc);replace hdi:=hdi.ext (X':=b3 :: b2 :: X) hT (fun c hc=>by simp at hc;simp [hc]) (fun c hc=>.inl hc);refine W ?_;simp only;rcases hU:Z0K l [125] i10 o10 with ⟨a,c⟩|⟨u11,i11,o11⟩
 refine ZU rfl (Zh rfl rfl) (PC.falls (JM b tv l hL [125] (by decide) i10 o10 _ hp) hU hS) rfl ?_;intro wz hwz;focus repeat'(first|refine Zj ?_|refine Zg ?_)
 refine ZJ ?_;exact PC.err hwz;refine CM (Zh rfl rfl) (PC.goes (JM b tv l hL [125] (by decide) i10 o10 _ hp) hU) ?_;rintro _ wn11 ⟨rfl,hpn,hT⟩;replace hm:=Ju hm hb1 hT;replace e2:=e2.ext hT (by simpa using n2);replace e3:=e3.ext hT (by simpa using n3);replace hci:=hci.ext (X':=b3 :: b2 :: X) hT (fun c hc=>by simp at hc;subst hc;simp [hbX]) (fun c hc=>.inl hc);replace hdi:=hdi.ext (X':=b3 :: b2 :: X) hT (fun c hc=>by simp at hc;subst hc;simp [hbX]) (fun c hc=>.inl hc);replace hS:=hS.trans hT;replace hXs:=fun c hc=>Xa (hXs c hc) hT.size;clear hT hp;have hp:=hpn;clear hpn hU;refine W ?_;simp only;refine SB (us:=rlC ⟨u2,u4.num,u6,cnd,u8,u9,u10⟩ ki kx8) (Zor ⟨u2,u4.num,u6,cnd,u8,u9,u10⟩ hci hdi) e2 ?_;rintro _ wz ⟨hT,e2'⟩;refine W ?_;rw [hcnd];refine Zk rfl rfl rfl e2' rfl ?_;obtain ⟨g1,g2,g3,g4,g5⟩:=hp;have hSx:=hS.own hT (fun c hc=>by simp at hc;subst hc;exact .inr hb2w);refine PC.ok ⟨ki,kx8,rfl,?_,?_⟩ ⟨g1.ext hT (by simpa using n2.symm),hs0.ext hSx (fun c hc=>hc) (fun c hc=>.inl hc),g3,g4,g5⟩ hSx;exact (hci.ext (X':=b3 :: b2 :: X) hT (fun c hc=>by simp at hc;simp [hc]) (fun c hc=>.inl hc)).wk (fun c hc=>by simp [hc]);exact (hdi.ext (X':=b3 :: b2 :: X) hT (fun c hc=>by simp at hc;simp [hc]) (fun c hc=>.inl hc)).wk (fun c hc=>by simp [hc])
end Go.Proofs.YtipfkbkkndacjaaGreatDoor
namespace Go.Eng
open Go Go.RowKit Go.Proofs
end Go.Eng
namespace Go.Proofs.YtipfkbkkndacjaaGreatDoor
open Go Go.Eng Go.RowKit Go.Proofs
theorem ZjD {X:List Nat} {w} {v:Value} {l:List Rul} {i:Nat} (h:SlV X w v l) (hi:i<l.length):∃ ki kd,SlV X w ki l[i].cnd.kids∧SlV X w kd l[i].due.kids∧∀ j u,(rlC l[i] ki kd)[j]?=some u→w.cell? (Zp v i 13 j)=some u:=by
 obtain ⟨cs,hr,hc⟩:=h.cell hi;obtain ⟨ki,kd,rfl,h1,h2⟩:=hr;exact ⟨ki,kd,h1,h2,hc⟩
theorem Z7S {P:Program} {n:Nat} {e:Env} {w} {d:Option Nat} {ty:TypeId} {pos:String} {af:Array Edge} {g:Option (Nat×Bool)} {X:List Nat} {v:Value} {l:List Rul} {i:Nat} {ki kd:Value} {x:Operand} {t:TypeId} {D:TypeDesc} [hu:Und P t D] (hA:JV D=true) [hsz:Siz P t 13] (hx:ev e x=some (.pointer (some (Zp v i 13 0)))) (hs:SlV X w v l) (hi:i<l.length)
 (hc:∀ j u,(rlC l[i] ki kd)[j]?=some u→w.cell? (Zp v i 13 j)=some u) :
 PR P n ⟨d,.load t x,ty,pos,af,g⟩ e w (.agg (rlC l[i] ki kd).toArray):=by
 obtain ⟨p,l',c,rfl⟩:=hs.isSome hi;refine Z3q (cs:=rlC l[i] ki kd) hA hx rfl (fun j u hu=>?_);have:=hc j u hu;simpa [Zp] using this
abbrev Z5p:Nd:=.mk 2 1 [] []
theorem ZdJ (X:List Nat) (w):CC 103 #[] w fun r w'=>NdV X w' r Z5p∧Stp [] w w':=by
 refine cW0 2 Tryz.func103 ?_;refine W ?_;refine Z1 Z2 rfl ?_;rintro _ w1 ⟨b,rfl,hb,hblk,hS⟩;refine W ?_;apply Z8 (vs:=[(0,.I 2),(1,.I 1)]) rfl (Z3D _ _) rfl;have hy:SlV (α:=Nd) X w1 (.N) []:=Zm _ _;refine SB (us:=ndC Z5p (.N)) (Zi (x:=Z5p) hy) hblk ?_;rintro _ w2 ⟨hS2,hblk2⟩;have hT:=hS.ow hS2;refine W ?_;refine Zk rfl rfl rfl hblk2 rfl ?_;exact .mk ⟨⟨_,rfl,Zm _ _⟩,hT⟩
theorem ZdK (v:Value) (r:Rul) (w) (hv:ZfZ [] w v r) (h1:ZM r.cnd≤1000) (h2:ZM r.due≤1000) :
 CC 68 #[v] w fun r' w'=>r'=.I (Z0S r)∧Stp [] w w':=by
 obtain ⟨ki,kd,rfl,hi,hd⟩:=hv;have hn1:=Z0u r.cnd;have hn2:=Z0u r.due;refine cW1 69 Tryz.func68 ?_;refine W ?_;refine Z1 (Zq rfl) rfl ?_;rintro _ w1 ⟨b,rfl,hb,hblk,hS⟩;replace hblk:Blk w1 b _ (rlC r ki kd):=hblk;refine W ?_;refine CL (Z1o r.name _) ?_;rintro _ w2 ⟨rfl,hT⟩;replace hblk:=hblk.up hT;replace hS:=hS.trans hT;clear hT;refine Z5k (σ:=Bool) (fun q=>[(1,pQ b),(2,.I 0),(38,.B q)]) (fun q w'=>Blk w' b 99 (rlC r ki kd)∧Stp [] w w'∧q=!Jh r) ?_ ?_
 · cases hA:ZG r.name with
   | false=>
     refine W ?_;exact QT true ⟨hblk,hS,by simp [Jh, *]⟩
   | true=>
     refine W ?_;refine CL (Z1o r.on _) ?_;rintro _ w2 ⟨rfl,hT⟩;replace hblk:=hblk.up hT;replace hS:=hS.trans hT;clear hT;cases hB:ZG r.on with
     | false=>
       refine W ?_;exact QT true ⟨hblk,hS,by simp [Jh, *]⟩
     | true=>
       repeat'(first|refine W1 ?_|omega|refine VG ?_ ?_<;>intro hg|refine VC ?_ ?_<;>intro hc)
       · refine CL (Z1o r.unl _) ?_
         rintro _ w2 ⟨rfl,hT⟩;replace hblk:=hblk.up hT;replace hS:=hS.trans hT;clear hT;cases hC:ZG r.unl with
         | false=>
           refine W ?_;exact QT true ⟨hblk,hS,by simp [Jh, *]⟩
         | true=>
           (refine QP ?_ ?_<;>intro hg)
           · refine CL (Z1o r.els _) ?_
             rintro _ w2 ⟨rfl,hT⟩;replace hblk:=hblk.up hT;replace hS:=hS.trans hT;clear hT;cases hD:ZG r.els with
             | false=>
               refine W ?_;exact QT true ⟨hblk,hS,by simp [Jh, *]⟩
             | true=>
               refine W ?_;exact QT false ⟨hblk,hS,by simp [Jh, *]⟩
           exact QT false ⟨hblk,hS,by simp [Jh, *]⟩
       · refine CL (Z1o r.els _) ?_
         rintro _ w2 ⟨rfl,hT⟩;replace hblk:=hblk.up hT;replace hS:=hS.trans hT;clear hT;cases hD:ZG r.els with
         | false=>
           refine W ?_;exact QT true ⟨hblk,hS,by simp [Jh, *]⟩
         | true=>
           refine W ?_;exact QT false ⟨hblk,hS,by simp [Jh, *]⟩
       exact QT false ⟨hblk,hS,by simp [Jh, *]⟩
 rintro q w3 ⟨hblk,hS,hq⟩
 try dsimp only at hq ⊢
 unfold Z0S;cases hnm:Jh r with
 | false=>
   rw [hnm] at hq;subst hq;refine RT ?_;exact ⟨rfl,hS⟩
 | true=>
   rw [hnm] at hq;subst hq;rw [if_neg (by decide)];refine W ?_;by_cases hr:r.frm<0∨r.frm > 3652058
   · rw [if_pos hr]
     repeat'(first|refine W1 ?_|omega|refine VG ?_ ?_<;>intro hg|refine VC ?_ ?_<;>intro hc)
     all_goals
      refine RU ?_;exact ⟨rfl,hS⟩
   rw [if_neg hr];refine QO ?_;apply Z4 (Zn (us:=ndC r.cnd ki) rfl rfl hblk rfl rfl) rfl;refine W ?_;refine CM (ZX rfl) (Z7t [] _ r.cnd _ (Z3z _ h1) (by omega) ⟨ki,rfl,hi.up hS⟩) ?_;rintro _ w4 ⟨rfl,hT⟩;replace hblk:=hblk.up hT;replace hS:=hS.trans hT;clear hT;unfold Z1V;by_cases n1:ZE r.cnd≤12
   case neg=>
    simp only [if_neg n1];refine RT ?_;exact ⟨rfl,hS⟩
   simp only [if_pos n1];by_cases t1:Ze r.cnd=0;simp only [if_pos t1];refine RT ?_;exact ⟨rfl,hS⟩;simp only [if_neg t1];by_cases u1:Ze r.cnd=2
   case neg=>
    simp only [if_neg u1];refine RT ?_;exact ⟨rfl,hS⟩
   simp only [if_pos u1];refine QO ?_;apply Z4 (Zn (us:=ndC r.due kd) rfl rfl hblk rfl rfl) rfl;refine W ?_;refine CM (ZX rfl) (Z7t [] _ r.due _ (Z3z _ h2) (by omega) ⟨kd,rfl,hd.up hS⟩) ?_;rintro _ w5 ⟨rfl,hT⟩;replace hS:=hS.trans hT;clear hT;by_cases n2:ZE r.due≤12
   case neg=>
    simp only [if_neg n2];refine RT ?_;exact ⟨rfl,hS⟩
   simp only [if_pos n2];by_cases t2:Ze r.due=0;simp only [if_pos t2];refine RT ?_;exact ⟨rfl,hS⟩;simp only [if_neg t2];by_cases u2:Ze r.due=3
   case neg=>
    simp only [if_neg u2];refine RT ?_;exact ⟨rfl,hS⟩
   simp only [if_pos u2];refine RT ?_;exact ⟨rfl,hS⟩
abbrev ZtB:Nd:=.mk 0 0 [] []
abbrev Jk:Value:=.N
theorem Zaz (r:Rul) {X Y:List Nat} {w w':World} {ki kd:Value} (h1:SlV X w ki r.cnd.kids) (h2:SlV Y w' kd r.due.kids):∀ c∈rlC r ki kd,c.oneCell'=true:=by
 intro c hc;have e1:=h1.one;have e2:=h2.one;simp only [rlC,Xb,Xj,or_false] at hc;rcases hc with rfl|rfl|rfl|rfl|rfl|rfl|rfl|rfl|rfl|rfl|rfl|rfl|rfl<;>first|rfl|exact e1|exact e2
theorem Zos:∀ d,d≤6→Z2r 181 1 d∧Z2r 104 2 d∧Z2r 105 3 d:=by
 intro d
 induction d with
 | zero=>
   intro h;have ih':∀ e,0=e+1→Z2r 181 1 e∧Z2r 104 2 e∧Z2r 105 3 e:=fun e he=>by omega
   exact ⟨Z5d _ h ih',Z7A _ h ih',Z7B _ h ih'⟩
 | succ d ih=>
   intro h;have ih':∀ e,d+1=e+1→Z2r 181 1 e∧Z2r 104 2 e∧Z2r 105 3 e:=fun e he=>by
    obtain rfl:d=e:=by omega
    exact ih (by omega)
   exact ⟨Z5d _ h ih',Z7A _ h ih',Z7B _ h ih'⟩
def ZdL:List Str:=[[114,48],[114,49],[114,50],[114,51]]
def Z1v:List Str:=[[99,108,97,105,109],[97,110,115,119,101,114],[109,111,116,105,111,110],[111,114,100,101,114],[97,112,112,101,97,108],[108,97,112,115,101]]
theorem Zg1 (q:Nat) (w) (hq:q<4):CC 12 #[.I (q:Int)] w fun r w'=>(∃ s∈ZdL,r=str s)∧Stp [] w w':=by
 refine cW1 7 Tryz.func12 ?_;refine W ?_;refine CM (Zh rfl rfl) (JC (q:Int) 4 _ (by decide) (by unfold I64;omega)) ?_;rintro _ w1 ⟨rfl,hS⟩;rw [if_neg (by omega),Ybq (by omega) (by omega)];refine CM (ZX rfl) (Z8I (q:Int) _ (by omega) (by omega)) ?_;rintro _ w2 ⟨rfl,hT⟩;have:q=0∨q=1∨q=2∨q=3:=by omega
 have hm:([114]++Lib.itoa (q:Int):Str)∈ZdL∧(Lib.itoa (q:Int)).length≤10:=by
  rcases this with rfl|rfl|rfl|rfl<;>(unfold Lib.itoa;rw [if_neg (by omega),Lib.decDigits,dif_pos (by decide)];decide)
 refine Z2Q rfl rfl (by simp;omega) rfl ?_;refine RT ?_;exact ⟨⟨_,hm.1,rfl⟩,hS.trans hT⟩
theorem Z69 (q:Nat) (w) (hq:q<6):CC 28 #[.I (q:Int)] w fun r w'=>(∃ s∈Z1v,r=str s)∧Stp [] w w':=by
 refine cW1 10 Tryz.func28 ?_;refine W ?_;refine Z1 (Z0 (vs:=[(0,str [99,108,97,105,109]),(1,str [97,110,115,119,101,114]),(2,str [109,111,116,105,111,110]),(3,str [111,114,100,101,114]),(4,str [97,112,112,101,97,108]),(5,str [108,97,112,115,101])]) rfl (bS6 _ _ _ _ _ _)) rfl ?_;rintro v w1 hN;have hv:SlV [] w1 v Z1v:=hN.slv (by simp) rfl rfl (by decide);have hS:=Z6.stp hN;clear hN;refine W ?_;refine CM (Zh rfl rfl) (JC (q:Int) 6 _ (by decide) (by unfold I64;omega)) ?_;rintro _ w2 ⟨rfl,hT⟩;rw [if_neg (by omega),Ybq (by omega) (by omega)];replace hv:=hv.up hT;have hqn:q<Z1v.length:=by show q<6;exact hq
 refine RT ?_;exact ⟨⟨_,Xd hqn,rfl⟩,hS.trans hT⟩
structure Z7T (r:RuleM):Prop where
 name:r.name∈ZdL
 frm:739606≤r.frm∧r.frm<739636
 on:r.on∈Z1v
 cond:Gn 2 3 r.cond
 due:Gn 3 3 r.due
 unl:r.unl=[]∨r.unl∈Z1v
 els:r.els=[]∨r.els∈Z1v
theorem ZjE (a o:Str) (f k n:Int) (s:Str) (p:Option Addr) (l c:Nat) (w):(Instr.build 99 #[(0,str a),(1,.I f),(2,str o),(3,.agg #[.I k,.I n,str s,.slice p l c])]).run Tryz.prog w=.ok (.agg #[str a,.I f,str o,.I k,.I n,str s,.slice p l c,.I 0,.I 0,str [],.N,str [],str []]) w:=by kernel_rfl
theorem Zg2 (X:List Nat) (bm:Nat) (lv:Value) (l:List Int) (i:Nat) (w) (hmk:Mk3 w bm lv i) (hsl:SlV [bm] w lv l) (hl:∀ a∈l,I64 a) (hi:i≤50000) (hX:∀ b∈X,b<w.heap.size) :
 CC 67 #[pQ bm] w fun r w'=>∃ (rl:RuleM) (i':Nat),ZfZ X w' r rl.rul∧Z7T rl∧Mk3 w' bm lv i'∧i'≤i+300∧Stp [bm] w w':=by
 have z4:szD 4=40:=by decide
 have z4':szD (3+1)=40:=z4;have hsl0:=hsl;have hbm:=hmk.lt;refine cW1 40 Tryz.func67 ?_;refine W ?_;refine Z1 Z2 rfl ?_;rintro _ w1 ⟨b2,rfl,hb2,e2,hS⟩;have n2:b2≠bm:=by have:=hmk.lt;omega
 replace hmk:=hmk.up hS;replace hsl:=hsl.up hS;replace hS:Stp [bm] w w1:=hS.mn;have l2:=e2.lt;refine W ?_;refine CM (Zh rfl rfl) (Zw bm lv l _ 4 _ (by decide) (by omega) hmk hsl hl) ?_;rintro _ wq ⟨q1,rfl,hq1,hmk,hT⟩;replace hsl:=hsl.ext hT (fun _ h=>h) (fun _ h=>.inl h);replace e2:=e2.ext hT (by simp;exact n2);replace hS:=hS.trans hT;clear hT;refine CM (ZX rfl) (Zg1 q1 _ (by omega)) ?_;rintro _ wq ⟨⟨nm,hnm,rfl⟩,hT⟩;replace hmk:=hmk.up hT;replace hsl:=hsl.up hT;replace e2:=e2.up hT;replace hS:=hS.trans hT.mn;clear hT;refine W ?_;refine CM (Zh rfl rfl) (Zw bm lv l _ 30 _ (by decide) (by omega) hmk hsl hl) ?_;rintro _ wq ⟨q2,rfl,hq2,hmk,hT⟩;replace hsl:=hsl.ext hT (fun _ h=>h) (fun _ h=>.inl h);replace e2:=e2.ext hT (by simp;exact n2);replace hS:=hS.trans hT;clear hT;refine W ?_;refine CM (Zh rfl rfl) (Zw bm lv l _ 6 _ (by decide) (by omega) hmk hsl hl) ?_;rintro _ wq ⟨q3,rfl,hq3,hmk,hT⟩;replace hsl:=hsl.ext hT (fun _ h=>h) (fun _ h=>.inl h);replace e2:=e2.ext hT (by simp;exact n2);replace hS:=hS.trans hT;clear hT;refine CM (ZX rfl) (Z69 q3 _ (by omega)) ?_;rintro _ wq ⟨⟨on,hon,rfl⟩,hT⟩;replace hmk:=hmk.up hT;replace hsl:=hsl.up hT;replace e2:=e2.up hT;replace hS:=hS.trans hT.mn;clear hT;refine W ?_;refine CL (ZdJ (b2 :: bm :: X) _) ?_;rintro _ wq ⟨⟨kt,rfl,ht⟩,hT⟩;obtain ⟨pt,ct,rfl,-⟩:=id ht;replace ht:SlV (b2 :: bm :: X) wq (.slice pt Z5p.kids.length ct) Z5p.kids:=ht;replace hmk:=hmk.up hT;replace hsl:=hsl.up hT;replace e2:=e2.up hT;replace hS:=hS.trans hT.mn;clear hT;refine W ?_;refine Z8 (vs:=[(0,str nm),(1,.I _),(2,str on),(3,.agg #[.I 2,.I 1,str [],.slice pt 0 ct])]) rfl (ZjE _ _ _ _ _ _ _ _ _) rfl ?_;refine Z1 Z2 rfl ?_;rintro _ wq ⟨b3,rfl,hb3,e0,hT⟩;have hbl:∀ c,c<w.heap.size→c<b3:=fun c hc=>by have:=hS.size;omega
 have n3:b3≠bm:=by have:=hmk.lt;omega
 have n23:b2≠b3:=by have:=e2.lt;omega
 have hb3w:w.heap.size≤b3:=Xg hS.size hb3;refine SB (us:=rlC ⟨nm,739616+(q2:Int) - 10,on,Z5p,ZtB,[],[]⟩ (.slice pt 0 ct) Jk) (Zaz _ (X:=b2 :: bm :: X) ht (Zm [] wq)) e0 ?_;rintro _ wq ⟨hT2,e3⟩;replace hT:=JL hT hb3 hT2;clear hT2 e0;replace ht:SlV (b3 :: b2 :: bm :: X) wq (.slice pt Z5p.kids.length ct) Z5p.kids:=ht.ext hT (by simp) (fun c hc=>by
  rcases Xb.1 hc with rfl|h
  exact .inr hb3;exact .inl h)
 replace hmk:=hmk.up hT;replace hsl:=hsl.up hT;replace e2:=e2.up hT;replace hS:=hS.trans hT.mn;clear hT hb3;have hfr:739606≤739616+(q2:Int) - 10∧739616+(q2:Int) - 10<739636:=by omega
 generalize 739616+(q2:Int) - 10=fr at *;clear hq1 hq3;refine W ?_;refine CM (Zh rfl rfl) (Zw bm lv l _ 3 _ (by decide) (by omega) hmk hsl hl) ?_;rintro _ wq ⟨q4,rfl,hq4,hmk,hT⟩;replace hsl:=hsl.ext hT (fun _ h=>h) (fun _ h=>.inl h);replace e2:=e2.ext hT (by simp;exact n2);replace e3:=e3.ext hT (by simp;exact n3);replace hS:=hS.trans hT;replace ht:=ht.ext hT (by simp) (fun _ h=>.inl h);clear hT;have hXs:∀ (w':World),Stp [bm] w w'→(∃ cs,Blk w' b3 99 cs)→(∃ cs,Blk w' b2 99 cs)→∀ b∈b3 :: b2 :: bm :: X,b<w'.heap.size:=fun w' h1 h2 h3 b hb=>by
  obtain ⟨_,h2⟩:=h2;obtain ⟨_,h3⟩:=h3;have:=h1.size;simp only [Xb] at hb;rcases hb with rfl|rfl|rfl|h
  exact h2.lt;exact h3.lt;omega;have:=hX b h;omega
 refine W ?_
 refine JA (σ:=Nd×Value×Nat) (fun _=>[(0,pQ bm),(2,pQ b2),(3,pQ b3)])
  (fun q w'=>Gn 2 3 q.1∧SlV (b3 :: b2 :: bm :: X) w' q.2.1 q.1.kids∧Mk3 w' bm lv q.2.2∧q.2.2≤i+124∧SlV [bm] w' lv l∧(∃ cs:List Value,cs.length=13∧Blk w' b2 99 cs)∧Blk w' b3 99 (rlC ⟨nm,fr,on,q.1,ZtB,[],[]⟩ q.2.1 Jk)∧Stp [bm] w w') ?_ ?_
 (refine QP ?_ ?_<;>intro hc)
 refine CM (Zh rfl rfl) ((Zos 3 (by decide)).2.1 (b3 :: b2 :: bm :: X) _ bm lv l _ _ rfl hmk hsl hl (by rw [z4];omega) (hXs _ hS ⟨_,e3⟩ ⟨_,e2⟩)) ?_;rintro _ wq ⟨y,i1,⟨ky,rfl,hy⟩,gy,hmk,hi1,hT⟩;replace hsl:=hsl.ext hT (fun _ h=>h) (fun _ h=>.inl h);replace e2:=e2.ext hT (by simp;exact n2);replace e3:=e3.ext hT (by simp;exact n3);replace hS:=hS.trans hT;clear hT;refine W ?_;refine Z5 (Z12 (us:=ndC y ky) rfl rfl rfl rfl (Zi hy) e3 (by simp)) ?_;rintro _ wq ⟨hT,e3⟩;replace e3:Blk wq b3 99 (rlC ⟨nm,fr,on,y,ZtB,[],[]⟩ ky Jk):=e3;replace hy:=hy.ext hT (by simp) (fun _ h=>.inl h);replace hmk:=hmk.ext hT (by simp;exact n3.symm);replace e2:=e2.ext hT (by simp;exact n23);replace hS:=hS.ow hT;replace hsl:=hsl0.ext hS (fun _ h=>h) (fun _ h=>.inl h);clear hT;refine W ?_;exact QT (y,ky,_) ⟨gy,hy,hmk,by simp only;omega,hsl,⟨_,rfl,e2⟩,e3,hS⟩;exact QT (Z5p,_,_) ⟨.bool _ _ (by decide),ht,hmk,by simp only;omega,hsl,⟨_,rfl,e2⟩,e3,hS⟩;clear hmk hsl e2 e3 hS ht;rintro ⟨y,ky,i1⟩ wq ⟨gy,hy,hmk,hi1,hsl,⟨cs2,hc2,e2⟩,e3,hS⟩;dsimp only at gy hy hmk hi1 e3;have z4':szD (3+1)=40:=z4;refine W ?_;refine CM (Zh rfl rfl) ((Zos 3 (by decide)).2.2 (b3 :: b2 :: bm :: X) _ bm lv l _ _ rfl hmk hsl hl (by rw [z4];omega) (hXs _ hS ⟨_,e3⟩ ⟨_,e2⟩)) ?_;rintro _ wq ⟨x,i2,⟨kx,rfl,hx⟩,gx,hmk,hi2,hT⟩;replace hy:=hy.ext hT (by simp) (fun _ h=>.inl h);replace e2:=e2.ext hT (by simp;exact n2);replace e3:=e3.ext hT (by simp;exact n3);replace hS:=hS.trans hT;clear hT;refine W ?_;refine Z5 (Z12 (us:=ndC x kx) rfl rfl rfl rfl (Zi hx) e3 (by simp)) ?_;rintro _ wq ⟨hT,e3⟩;replace e3:Blk wq b3 99 (rlC ⟨nm,fr,on,y,x,[],[]⟩ ky kx):=e3;replace hx:=hx.ext hT (by simp) (fun _ h=>.inl h);replace hy:=hy.ext hT (by simp) (fun _ h=>.inl h);replace hmk:=hmk.ext hT (by simp;exact n3.symm);replace e2:=e2.ext hT (by simp;exact n23);replace hS:=hS.ow hT;replace hsl:=hsl0.ext hS (fun _ h=>h) (fun _ h=>.inl h);clear hT;refine W ?_;refine CM (Zh rfl rfl) (Zw bm lv l _ 2 _ (by decide) (by omega) hmk hsl hl) ?_;rintro _ wq ⟨q5,rfl,hq5,hmk,hT⟩;replace hy:=hy.ext hT (by simp) (fun _ h=>.inl h);replace hx:=hx.ext hT (by simp) (fun _ h=>.inl h);replace e2:=e2.ext hT (by simp;exact n2);replace e3:=e3.ext hT (by simp;exact n3);replace hS:=hS.trans hT;replace hsl:=hsl0.ext hS (fun _ h=>h) (fun _ h=>.inl h);clear hT;refine W ?_
 refine JA (σ:=Str×Nat) (fun _=>[(0,pQ bm),(2,pQ b2),(3,pQ b3)])
  (fun q w'=>(q.1=[]∨q.1∈Z1v)∧SlV (b3 :: b2 :: bm :: X) w' ky y.kids∧SlV (b3 :: b2 :: bm :: X) w' kx x.kids∧Mk3 w' bm lv q.2∧q.2≤i+250∧Blk w' b2 99 cs2∧Blk w' b3 99 (rlC ⟨nm,fr,on,y,x,q.1,[]⟩ ky kx)∧Stp [bm] w w') ?_ ?_
 (refine QP ?_ ?_<;>intro hc)
 refine CM (Zh rfl rfl) (Zw bm lv l _ 6 _ (by decide) (by omega) hmk hsl hl) ?_;rintro _ wq ⟨q6,rfl,hq6,hmk,hT⟩;replace hy:=hy.ext hT (by simp) (fun _ h=>.inl h);replace hx:=hx.ext hT (by simp) (fun _ h=>.inl h);replace e2:=e2.ext hT (by simp;exact n2);replace e3:=e3.ext hT (by simp;exact n3);replace hS:=hS.trans hT;clear hT;refine W ?_;refine CM (ZX rfl) (Z69 q6 _ (by omega)) ?_;rintro _ wq ⟨⟨kn,hkn,rfl⟩,hT⟩;replace hy:=hy.up hT;replace hx:=hx.up hT;replace hmk:=hmk.up hT;replace e2:=e2.up hT;replace e3:=e3.up hT;replace hS:=hS.trans hT.mn;clear hT;refine W ?_;refine S1 (u:=str kn) e3 ?_;rintro _ wq ⟨hT,e3⟩;replace e3:Blk wq b3 99 (rlC ⟨nm,fr,on,y,x,kn,[]⟩ ky kx):=e3;replace hx:=hx.ext hT (by simp) (fun _ h=>.inl h);replace hy:=hy.ext hT (by simp) (fun _ h=>.inl h);replace hmk:=hmk.ext hT (by simp;exact n3.symm);replace e2:=e2.ext hT (by simp;exact n23);replace hS:=hS.ow hT;refine W ?_;exact QT (kn,_) ⟨.inr hkn,hy,hx,hmk,by simp only;omega,e2,e3,hS⟩;exact QT ([],_) ⟨.inl rfl,hy,hx,hmk,by simp only;omega,e2,e3,hS⟩;clear hmk hsl e2 e3 hS hy hx;rintro ⟨u,i5⟩ wq ⟨hu,hy,hx,hmk,hi5,e2,e3,hS⟩;dsimp only at hu hmk hi5 e3;have hsl:=hsl0.ext hS (fun _ h=>h) (fun _ h=>.inl h);refine W ?_;refine CM (Zh rfl rfl) (Zw bm lv l _ 2 _ (by decide) (by omega) hmk hsl hl) ?_;rintro _ wq ⟨q5,rfl,hq5,hmk,hT⟩;replace hy:=hy.ext hT (by simp) (fun _ h=>.inl h);replace hx:=hx.ext hT (by simp) (fun _ h=>.inl h);replace e2:=e2.ext hT (by simp;exact n2);replace e3:=e3.ext hT (by simp;exact n3);replace hS:=hS.trans hT;replace hsl:=hsl0.ext hS (fun _ h=>h) (fun _ h=>.inl h);clear hT;refine W ?_
 refine JA (σ:=Str×Nat) (fun _=>[(0,pQ bm),(2,pQ b2),(3,pQ b3)])
  (fun q w'=>(q.1=[]∨q.1∈Z1v)∧SlV (b3 :: b2 :: bm :: X) w' ky y.kids∧SlV (b3 :: b2 :: bm :: X) w' kx x.kids∧Mk3 w' bm lv q.2∧q.2≤i+252∧Blk w' b2 99 cs2∧Blk w' b3 99 (rlC ⟨nm,fr,on,y,x,u,q.1⟩ ky kx)∧Stp [bm] w w') ?_ ?_
 (refine QP ?_ ?_<;>intro hc)
 refine CM (Zh rfl rfl) (Zw bm lv l _ 6 _ (by decide) (by omega) hmk hsl hl) ?_;rintro _ wq ⟨q6,rfl,hq6,hmk,hT⟩;replace hy:=hy.ext hT (by simp) (fun _ h=>.inl h);replace hx:=hx.ext hT (by simp) (fun _ h=>.inl h);replace e2:=e2.ext hT (by simp;exact n2);replace e3:=e3.ext hT (by simp;exact n3);replace hS:=hS.trans hT;clear hT;refine W ?_;refine CM (ZX rfl) (Z69 q6 _ (by omega)) ?_;rintro _ wq ⟨⟨kn,hkn,rfl⟩,hT⟩;replace hy:=hy.up hT;replace hx:=hx.up hT;replace hmk:=hmk.up hT;replace e2:=e2.up hT;replace e3:=e3.up hT;replace hS:=hS.trans hT.mn;clear hT;refine W ?_;refine S1 (u:=str kn) e3 ?_;rintro _ wq ⟨hT,e3⟩;replace e3:Blk wq b3 99 (rlC ⟨nm,fr,on,y,x,u,kn⟩ ky kx):=e3;replace hx:=hx.ext hT (by simp) (fun _ h=>.inl h);replace hy:=hy.ext hT (by simp) (fun _ h=>.inl h);replace hmk:=hmk.ext hT (by simp;exact n3.symm);replace e2:=e2.ext hT (by simp;exact n23);replace hS:=hS.ow hT;refine W ?_;exact QT (kn,_) ⟨.inr hkn,hy,hx,hmk,by simp only;omega,e2,e3,hS⟩;exact QT ([],_) ⟨.inl rfl,hy,hx,hmk,by simp only;omega,e2,e3,hS⟩;clear hmk hsl e2 e3 hS hy hx;rintro ⟨v,i6⟩ wq ⟨hv,hy,hx,hmk,hi6,e2,e3,hS⟩;dsimp only at hv hmk hi6 e3;have hsl:=hsl0.ext hS (fun _ h=>h) (fun _ h=>.inl h);refine W ?_
 try (apply Z4 (Zn (us:=rlC ⟨nm,fr,on,y,x,u,v⟩ ky kx) rfl rfl e3 rfl rfl) rfl)
 try refine W ?_
 refine Z5 (Z9 (us:=rlC ⟨nm,fr,on,y,x,u,v⟩ ky kx) rfl rfl rfl rfl (Zaz ⟨nm,fr,on,y,x,u,v⟩ hy hx) e2 (by rw [hc2];rfl)) ?_;rintro _ wz ⟨hT,e2⟩;refine W ?_;refine Zk rfl rfl rfl e2 rfl ?_;refine .mk ⟨⟨nm,fr,on,y,x,u,v⟩,i6,⟨ky,kx,rfl,(hy.ext hT (by simp) (fun _ h=>.inl h)).wk (fun b h=>by simp [h]),(hx.ext hT (by simp) (fun _ h=>.inl h)).wk (fun b h=>by simp [h])⟩,⟨hnm,hfr,hon,gy,gx,hu,hv⟩,hmk.ext hT (by simp;exact n2.symm),by omega,hS.ow hT⟩
structure Cr where
 name:Str
 frm:Int
 on:Str
 cnd:List Ins
 due:List Ins
 unl:Str
 els:Str
abbrev crC (q:Cr) (kc kd:Value):List Value:=[str q.name,.I q.frm,str q.on,kc,kd,str q.unl,str q.els]
def CrV (X:List Nat) (w:World) (v:Value) (q:Cr):Prop:=∃ kc kd,v=.agg (crC q kc kd).toArray∧SlV X w kc q.cnd∧SlV X w kd q.due
theorem Z0n {q:Cr} {X Y:List Nat} {w w':World} {kc kd:Value} (h1:SlV X w kc q.cnd) (h2:SlV Y w' kd q.due):∀ c∈crC q kc kd,c.oneCell'=true:=by
 intro c hc;have e1:=h1.one;have e2:=h2.one;simp only [crC,Xb,Xj,or_false] at hc;rcases hc with rfl|rfl|rfl|rfl|rfl|rfl|rfl<;>first|rfl|exact e1|exact e2
def Z0z (r:Rul):Int:=if Z0S r≠0 then Z0S r else if Z0D r.cnd≠0 then Z0D r.cnd else Z0D r.due
abbrev crZ:Cr:=⟨[],0,[],[],[],[],[]⟩
def crF (r:Rul):Cr:=if Z0z r=0 then ⟨r.name,r.frm,r.on,J0 r.cnd,J0 r.due,r.unl,r.els⟩ else crZ
def Zot (w:World) (r:Rul) (v:Value) (w':World):Prop:=∃ cv,v=.tuple #[cv,.I (Z0z r)]∧(∀ X:List Nat,(∀ b∈X,b<w.heap.size)→CrV X w' cv (crF r))∧Stp [] w w'
theorem Z2C (w):(Instr.build 62 #[]).run Tryz.prog w=.ok (.agg (crC crZ Jk Jk).toArray) w:=by kernel_rfl
theorem ZeK (q:Cr) (p1 p2:Option Addr) (l1 c1 l2 c2:Nat) (w):(Instr.build 62 #[(0,str q.name),(1,.I q.frm),(2,str q.on),(3,.slice p1 l1 c1),(4,.slice p2 l2 c2),(5,str q.unl),(6,str q.els)]).run Tryz.prog w=.ok (.agg (crC q (.slice p1 l1 c1) (.slice p2 l2 c2)).toArray) w:=by kernel_rfl
theorem ZjF (v:Value) (r:Rul) (w) (hv:ZfZ [] w v r) (hs1:Smp r.cnd) (hs2:Smp r.due) (h1:ZM r.cnd≤1000) (h2:ZM r.due≤1000) (hF:SlV [] w Z2q Zf) (m:Int) (hm:w.cell? ⟨2,0,none⟩=some (.I m)) :
 Calls Tryz.prog 59 #[v] w (Ret (Zot w r)):=by
 obtain ⟨ki,kd,rfl,hi,hd⟩:=hv;have hn1:=Z0u r.cnd;have hn2:=Z0u r.due;refine cW1 47 Tryz.func59 ?_;refine W ?_;refine Z1 (Zq rfl) rfl ?_;rintro _ w1 ⟨b,rfl,hb,hblk,hS⟩;replace hblk:Blk w1 b _ (rlC r ki kd):=hblk;refine W ?_;refine Z1 Z2 rfl ?_;rintro _ w2 ⟨b2,rfl,hb2,e2,hT⟩;have hb2w:w.heap.size≤b2:=Xg hS.size hb2;replace hblk:=hblk.up hT;replace hS:=hS.trans hT;clear hT hb hb2;refine W ?_
 try (refine Z4 (J2 rfl rfl hblk rfl) rfl ?_)
 refine W ?_;refine CM (ZX rfl) (Z6J _ r m _ ⟨ki,kd,rfl,hi.up hS,hd.up hS⟩ (hF.up hS) (hS.cell (by simp) hm)) ?_;rintro _ w3 ⟨rfl,hT⟩;replace hblk:=hblk.up hT;replace e2:=e2.up hT;replace hS:=hS.trans hT;clear hT;by_cases hck:Z0S r=0
 case neg=>
  have hE:Z0z r=Z0S r:=by unfold Z0z;rw [if_pos hck]
  have hC:crF r=crZ:=by unfold crF;rw [hE,if_neg hck]
  refine QO ?_;apply Z8 (vs:=[]) rfl Z2C rfl;refine W ?_;refine SB (us:=crC crZ Jk Jk) (Z0n (q:=crZ) (Zm [] w) (Zm [] w)) e2 ?_;rintro _ w9 ⟨hT,e2⟩;refine W ?_;refine Zl rfl rfl rfl e2 rfl rfl ?_;exact .mk ⟨_,by rw [hE]<;>rfl,fun X hX=>⟨Jk,Jk,by rw [hC],by rw [hC];exact Zm X _,by rw [hC];exact Zm X _⟩,hS.ow hT⟩
 refine QO ?_;apply Z4 (Zn (us:=ndC r.cnd ki) rfl rfl hblk rfl rfl) rfl;refine W ?_;refine CL (Z3A _ r.cnd _ hs1 h1 ⟨ki,rfl,hi.up hS⟩ (hF.up hS)) ?_;rintro _ w4 ⟨va,rfl,ha,hT⟩;replace ha:=fun X (hX:∀ b∈X,b<w.heap.size)=>ha (b2 :: X) (fun b hb=>by
  rcases Xb.1 hb with rfl|h
  exact e2.lt;exact Xa (hX b h) hS.size)
 replace hblk:=hblk.up hT;replace e2:=e2.up hT;replace hS:=hS.trans hT;clear hT;refine W ?_;by_cases hc1:Z0D r.cnd=0
 case neg=>
  have hE:Z0z r=Z0D r.cnd:=by unfold Z0z;rw [if_neg (by simp [hck]),if_pos hc1]
  have hC:crF r=crZ:=by unfold crF;rw [hE,if_neg hc1]
  refine QO ?_;apply Z8 (vs:=[]) rfl Z2C rfl;refine W ?_;refine SB (us:=crC crZ Jk Jk) (Z0n (q:=crZ) (Zm [] w) (Zm [] w)) e2 ?_;rintro _ w9 ⟨hT,e2⟩;refine W ?_;refine Zl rfl rfl rfl e2 rfl rfl ?_;exact .mk ⟨_,by rw [hE]<;>rfl,fun X hX=>⟨Jk,Jk,by rw [hC],by rw [hC];exact Zm X _,by rw [hC];exact Zm X _⟩,hS.ow hT⟩
 rw [if_pos hc1] at ha;refine QO ?_;apply Z4 (Zn (us:=ndC r.due kd) rfl rfl hblk rfl rfl) rfl;refine W ?_;refine CL (Z3A _ r.due _ hs2 h2 ⟨kd,rfl,hd.up hS⟩ (hF.up hS)) ?_;rintro _ w5 ⟨vb,rfl,hb,hT⟩;replace hb:=fun X (hX:∀ b∈X,b<w.heap.size)=>hb (b2 :: X) (fun b hb=>by
  rcases Xb.1 hb with rfl|h
  exact e2.lt;exact Xa (hX b h) hS.size)
 replace ha:=fun X hX=>(ha X hX).up hT;replace hblk:=hblk.up hT;replace e2:=e2.up hT;replace hS:=hS.trans hT;clear hT;refine W ?_;have hE:Z0z r=Z0D r.due:=by unfold Z0z;rw [if_neg (by simp [hck]),if_neg (by simp [hc1])]
 by_cases hc2:Z0D r.due=0
 case neg=>
  have hC:crF r=crZ:=by unfold crF;rw [hE,if_neg hc2]
  refine QO ?_;apply Z8 (vs:=[]) rfl Z2C rfl;refine W ?_;refine SB (us:=crC crZ Jk Jk) (Z0n (q:=crZ) (Zm [] w) (Zm [] w)) e2 ?_;rintro _ w9 ⟨hT,e2⟩;refine W ?_;refine Zl rfl rfl rfl e2 rfl rfl ?_;exact .mk ⟨_,by rw [hE]<;>rfl,fun X hX=>⟨Jk,Jk,by rw [hC],by rw [hC];exact Zm X _,by rw [hC];exact Zm X _⟩,hS.ow hT⟩
 rw [if_pos hc2] at hb;have hC:crF r=⟨r.name,r.frm,r.on,J0 r.cnd,J0 r.due,r.unl,r.els⟩:=by unfold crF;rw [hE,if_pos hc2]
 obtain ⟨p1,c1,rfl,-⟩:=id (ha [] (by simp));obtain ⟨p2,c2,rfl,-⟩:=id (hb [] (by simp));refine QO ?_;apply Z8 (vs:=[(0,str r.name),(1,.I r.frm),(2,str r.on),(3,.slice p1 (J0 r.cnd).length c1),(4,.slice p2 (J0 r.due).length c2),(5,str r.unl),(6,str r.els)]) rfl (ZeK ⟨r.name,r.frm,r.on,J0 r.cnd,J0 r.due,r.unl,r.els⟩ _ _ _ _ _ _) rfl;refine SB (us:=crC ⟨r.name,r.frm,r.on,J0 r.cnd,J0 r.due,r.unl,r.els⟩ (.slice p1 (J0 r.cnd).length c1) (.slice p2 (J0 r.due).length c2)) (Z0n (q:=⟨r.name,r.frm,r.on,J0 r.cnd,J0 r.due,r.unl,r.els⟩) (ha [] (by simp)) (hb [] (by simp))) e2 ?_;rintro _ w9 ⟨hT,e2⟩;refine W ?_;refine Zl rfl rfl rfl e2 rfl rfl ?_;exact .mk ⟨_,by rw [hE,hc2],fun X hX=>by
  rw [hC];exact ⟨_,_,rfl,((ha X hX).ext hT (by simp) (fun _ h=>.inl h)).wk (fun b h=>by simp [h]),((hb X hX).ext hT (by simp) (fun _ h=>.inl h)).wk (fun b h=>by simp [h])⟩,hS.ow hT⟩
theorem Zg3 (v:Value) (r:Rul) (w) (hv:ZfZ [] w v r) (h1:ZM r.cnd≤1000) (h2:ZM r.due≤1000) :
 Calls Tryz.prog 37 #[v] w (Ret (Zot w r)):=by
 obtain ⟨ki,kd,rfl,hi,hd⟩:=hv;have hn1:=Z0u r.cnd;have hn2:=Z0u r.due;refine cW1 48 Tryz.func37 ?_;refine W ?_;refine Z1 (Zq rfl) rfl ?_;rintro _ w1 ⟨b,rfl,hb,hblk,hS⟩;replace hblk:Blk w1 b _ (rlC r ki kd):=hblk;refine W ?_;refine Z1 Z2 rfl ?_;rintro _ w2 ⟨b2,rfl,hb2,e2,hT⟩;have hb2w:w.heap.size≤b2:=Xg hS.size hb2;replace hblk:=hblk.up hT;replace hS:=hS.trans hT;clear hT hb hb2;refine W ?_
 try (refine Z4 (J2 rfl rfl hblk rfl) rfl ?_)
 refine W ?_;refine CL (ZdK _ r _ ⟨ki,kd,rfl,hi.up hS,hd.up hS⟩ h1 h2) ?_;rintro _ w3 ⟨rfl,hT⟩;replace hblk:=hblk.up hT;replace e2:=e2.up hT;replace hS:=hS.trans hT;clear hT;by_cases hck:Z0S r=0
 case neg=>
  have hE:Z0z r=Z0S r:=by unfold Z0z;rw [if_pos hck]
  have hC:crF r=crZ:=by unfold crF;rw [hE,if_neg hck]
  refine QO ?_;apply Z8 (vs:=[]) rfl Z2C rfl;refine W ?_;refine SB (us:=crC crZ Jk Jk) (Z0n (q:=crZ) (Zm [] w) (Zm [] w)) e2 ?_;rintro _ w9 ⟨hT,e2⟩;refine W ?_;refine Zl rfl rfl rfl e2 rfl rfl ?_;exact .mk ⟨_,by rw [hE]<;>rfl,fun X hX=>⟨Jk,Jk,by rw [hC],by rw [hC];exact Zm X _,by rw [hC];exact Zm X _⟩,hS.ow hT⟩
 refine QO ?_;apply Z4 (Zn (us:=ndC r.cnd ki) rfl rfl hblk rfl rfl) rfl;refine W ?_;refine CM (ZX rfl) (Z3g _ r.cnd _ h1 (by omega) ⟨ki,rfl,hi.up hS⟩) ?_;rintro _ w4 ⟨va,rfl,ha,hT⟩;replace ha:=fun X (hX:∀ b∈X,b<w.heap.size)=>ha (b2 :: X) (fun b hb=>by
  rcases Xb.1 hb with rfl|h
  exact e2.lt;exact Xa (hX b h) hS.size)
 replace hblk:=hblk.up hT;replace e2:=e2.up hT;replace hS:=hS.trans hT;clear hT;refine W ?_;by_cases hc1:Z0D r.cnd=0
 case neg=>
  have hE:Z0z r=Z0D r.cnd:=by unfold Z0z;rw [if_neg (by simp [hck]),if_pos hc1]
  have hC:crF r=crZ:=by unfold crF;rw [hE,if_neg hc1]
  refine QO ?_;apply Z8 (vs:=[]) rfl Z2C rfl;refine W ?_;refine SB (us:=crC crZ Jk Jk) (Z0n (q:=crZ) (Zm [] w) (Zm [] w)) e2 ?_;rintro _ w9 ⟨hT,e2⟩;refine W ?_;refine Zl rfl rfl rfl e2 rfl rfl ?_;exact .mk ⟨_,by rw [hE]<;>rfl,fun X hX=>⟨Jk,Jk,by rw [hC],by rw [hC];exact Zm X _,by rw [hC];exact Zm X _⟩,hS.ow hT⟩
 rw [if_pos hc1] at ha;refine QO ?_;apply Z4 (Zn (us:=ndC r.due kd) rfl rfl hblk rfl rfl) rfl;refine W ?_;refine CM (ZX rfl) (Z3g _ r.due _ h2 (by omega) ⟨kd,rfl,hd.up hS⟩) ?_;rintro _ w5 ⟨vb,rfl,hb,hT⟩;replace hb:=fun X (hX:∀ b∈X,b<w.heap.size)=>hb (b2 :: X) (fun b hb=>by
  rcases Xb.1 hb with rfl|h
  exact e2.lt;exact Xa (hX b h) hS.size)
 replace ha:=fun X hX=>(ha X hX).up hT;replace hblk:=hblk.up hT;replace e2:=e2.up hT;replace hS:=hS.trans hT;clear hT;refine W ?_;have hE:Z0z r=Z0D r.due:=by unfold Z0z;rw [if_neg (by simp [hck]),if_neg (by simp [hc1])]
 by_cases hc2:Z0D r.due=0
 case neg=>
  have hC:crF r=crZ:=by unfold crF;rw [hE,if_neg hc2]
  refine QO ?_;apply Z8 (vs:=[]) rfl Z2C rfl;refine W ?_;refine SB (us:=crC crZ Jk Jk) (Z0n (q:=crZ) (Zm [] w) (Zm [] w)) e2 ?_;rintro _ w9 ⟨hT,e2⟩;refine W ?_;refine Zl rfl rfl rfl e2 rfl rfl ?_;exact .mk ⟨_,by rw [hE]<;>rfl,fun X hX=>⟨Jk,Jk,by rw [hC],by rw [hC];exact Zm X _,by rw [hC];exact Zm X _⟩,hS.ow hT⟩
 rw [if_pos hc2] at hb;have hC:crF r=⟨r.name,r.frm,r.on,J0 r.cnd,J0 r.due,r.unl,r.els⟩:=by unfold crF;rw [hE,if_pos hc2]
 obtain ⟨p1,c1,rfl,-⟩:=id (ha [] (by simp));obtain ⟨p2,c2,rfl,-⟩:=id (hb [] (by simp));refine QO ?_;apply Z8 (vs:=[(0,str r.name),(1,.I r.frm),(2,str r.on),(3,.slice p1 (J0 r.cnd).length c1),(4,.slice p2 (J0 r.due).length c2),(5,str r.unl),(6,str r.els)]) rfl (ZeK ⟨r.name,r.frm,r.on,J0 r.cnd,J0 r.due,r.unl,r.els⟩ _ _ _ _ _ _) rfl;refine SB (us:=crC ⟨r.name,r.frm,r.on,J0 r.cnd,J0 r.due,r.unl,r.els⟩ (.slice p1 (J0 r.cnd).length c1) (.slice p2 (J0 r.due).length c2)) (Z0n (q:=⟨r.name,r.frm,r.on,J0 r.cnd,J0 r.due,r.unl,r.els⟩) (ha [] (by simp)) (hb [] (by simp))) e2 ?_;rintro _ w9 ⟨hT,e2⟩;refine W ?_;refine Zl rfl rfl rfl e2 rfl rfl ?_;exact .mk ⟨_,by rw [hE,hc2],fun X hX=>by
  rw [hC];exact ⟨_,_,rfl,((ha X hX).ext hT (by simp) (fun _ h=>.inl h)).wk (fun b h=>by simp [h]),((hb X hX).ext hT (by simp) (fun _ h=>.inl h)).wk (fun b h=>by simp [h])⟩,hS.ow hT⟩
theorem Z50 (va vb:Value) (xs ys:List Int) (w) (ha:SlV [] w va xs) (hb:SlV [] w vb ys) :
 CC 298 #[va,vb] w fun r w'=>r=.B (decide (xs=ys))∧Stp [] w w':=by
 have hma:=ha.max;have hmb:=hb.max;refine cW2 26 Tryz.func298 ?_;refine W ?_;by_cases hl:xs.length=ys.length
 case neg=>
  refine RT ?_;exact ⟨by congr 1;rw [eq_comm,decide_eq_false_iff_not];exact fun h=>hl (by rw [h]),Stp.refl _ _⟩
 refine QO ?_;refine LP (σ:=Nat) (fun j=>[(0,va),(1,vb),(4,.B false),(12,.I (xs.length:Int)),(13,.I (j:Int))]) (fun j w'=>j≤xs.length∧Stp [] w w'∧∀ i (h:i<xs.length),i<j→xs[i]=ys[i]'(by omega)) (fun j=>xs.length - j) 0 ⟨Xq _,Stp.refl _ _,fun i _ h=>absurd h (Xu _)⟩ ?_;rintro j w2 ⟨hj,hS,heq⟩
 try dsimp only at hj heq ⊢
 replace ha:=ha.up hS;replace hb:=hb.up hS;by_cases hlt:j<xs.length;have hlt':j<ys.length:=by omega
 refine QO ?_;refine ZDr 9 [] [] [(0,0),(1,0),(2,0),(3,1),(4,0),(5,0),(6,0),(7,1),(8,0)] (fun w1 hS1=>?_);replace ha:=ha.up hS1;replace hb:=hb.up hS1;replace hS:=hS.trans hS1;refine D ?_
 (refine QP ?_ ?_<;>intro hc)
 refine RU ?_;exact ⟨by congr 1;rw [eq_comm,decide_eq_false_iff_not];exact fun h=>hc (by simp [h]),hS⟩;have he:xs[j]=ys[j]:=Decidable.byContradiction hc;have hk:∀ i (h:i<xs.length),i<j+1→xs[i]=ys[i]'(by omega):=fun i h hi=>by
  by_cases hij:i=j;subst hij;exact he;exact heq i h (by omega)
 exact QL (j+1) ⟨hlt,hS,hk⟩ (XM hlt (XS j));have hje:j=xs.length:=by omega
 subst hje;refine RT ?_;exact ⟨by congr 1;rw [eq_comm,decide_eq_true_eq];exact Yay hl (fun i h h'=>heq i h h),hS⟩
end Go.Proofs.YtipfkbkkndacjaaGreatDoor
